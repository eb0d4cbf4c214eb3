/-
  SEVERAL TEXTS IN ONE (merged by program): contracts and models, each with its own heading.
-/
import Derived.Test.YtokkjobjffhfjaaGreatDoorPartZibB
import Derived.Carry
import Derived.WideKeyArgs
import Derived.ProofKit
import Derived.OpenShut
import Derived.WalkKit
import Derived.Test.YtokkjobjffhfjaaGreatDoorChecked
import Derived.Eval
import Derived.KernelRfl
import Derived.Lib.FrozenHead2
import Derived.Lib.OthersKept
import Derived.Lib.AppendStr
import Derived.Lib.UnsafeStr
import Derived.Lib.Builder
import Derived.Laws.Externs
import Derived.Deep.LoopGhost
set_option maxHeartbeats 8000000
open Go.Proofs Go.Proofs.Tryz
theorem Go.Ab.zmx:Go.Proofs.Tryz.prog.follows .mixedOrders=true:=Go.Proofs.Tryz.checked.mixed
open Go Go.Ab in
theorem Go.Ab.zcx{N:Nat}{S:Store}{f:FuncId}{fn:Func}{c:Code}{args:List V}{post:V->Store->Prop}(rs:List ResultVar)(hf:Tryz.prog.funcs[f]? =some fn)(hN:fn.ntmps=N)(h:CW Tryz.prog N c (Ws Tryz.prog rs post) ⟨qR (args.map (V.up 1)) 0,[]::S⟩)(hb:fn.body=some c:=by exact rfl)(hn:(fn.name== "runtime.NumGoroutine")=false:=by exact rfl)(hr:fn.results.toList=rs:=by exact rfl)(hl:Nat.ble args.length N=true:=by exact rfl)(hok:codeOk N c=true:=by exact rfl):dh Tryz.prog f args S post:=aC (rs:=rs) zmx hf hN hb hn hr hl hok h
set_option linter.unusedSimpArgs false
set_option linter.unusedVariables false
set_option maxRecDepth 4000
set_option maxRecDepth 100000
namespace Go.Ab
section
variable {P:Program} {S S':Store} {N:Nat} {s:St}
theorem JO(S:Store)(β:Hs)(k:Key):Keep S β (bR S k .dead) β:=by
 intro k' o ho;by_cases e:k=k'
 ·subst e;exact⟨.dead,fB _ _ _ _ ho,.inl rfl⟩
 ·exact⟨o,by rw[fP _ _ _ _ e];exact ho,nW.refl _ _⟩
theorem BX{k k':Key}{o:Obj}(h:bG (bR S k .dead) k'=some o):(k=k'/\o=.dead)\/bG S k'=some o:=by
 by_cases e:k=k'
 ·subst e
  cases hg:bG S k with
  |none=>
   have:∀(S:Store)(k:Key),bG S k=none->bR S k .dead=S:=by
    intro S
    induction S with
    |nil=>intro k _;rfl
    |cons fr S ih=>
     rintro⟨l,j⟩ h
     cases l with
     |zero=>
      rw[bV] at h;rw[bR,List.set_eq_of_length_le (List.getElem?_eq_none_iff.1 h)]
     |succ l=>rw[dn] at h;rw[bR,ih _ h]
   rw[this S k hg,hg] at h;cases h
  |some y=>
   rw[fB _ _ _ _ hg] at h;cases h;exact .inl ⟨rfl,rfl⟩
 ·rw[fP _ _ _ _ e] at h;exact .inr h
theorem Wu(x:Obj):∀(S:Store)(k:Key),(bR S k x).length=S.length
 |[],k=>rfl
 |fr::S,(0,j)=>by rw[bR];simp
 |fr::S,(l+1,j)=>by rw[bR,List.length_cons,Wu x S,List.length_cons]
theorem aat(x:Obj):∀(S:Store)(k:Key)(l:Nat)(fr:List Obj),(bR S k x)[l]? =some fr->∃ES,S[l]? =some ES/\ES.length=fr.length
 |[],k,l,fr,h=>by simp[bR] at h
 |f::S,(0,j),0,fr,h=>by rw[bR] at h;simp at h;subst h;exact⟨f,rfl,by simp⟩
 |f::S,(0,j),l+1,fr,h=>by rw[bR] at h;exact⟨fr,by simpa using h,rfl⟩
 |f::S,(i+1,j),0,fr,h=>by rw[bR] at h;exact⟨fr,by simpa using h,rfl⟩
 |f::S,(i+1,j),l+1,fr,h=>by
  rw[bR] at h;simpa using aat x S (i,j) l fr (by simpa using h)
theorem aiw{w:World}{σ:Nat->Nat}{β:Hs}(k:Key)(hS:fI w σ S β):fI w σ (bR S k .dead) β:=by
 have hn:eH w σ w σ:=(Grow.refl hS.live).near;refine⟨fun k' o ho=> ?_,fun k1 k2 o1 o2 h1 h2 b e1 e2 e3 e4 e5 e6=> ?_,⟨by rw[Wu];exact hS.shape.1,fun l fr hl=> ?_⟩,hS.live,hS.uF⟩
 ·rcases BX ho with⟨rfl,rfl⟩|ho'
  ·cases hg:bG S k with
   |none=>
    exfalso;have:=JO S β k;rcases BX (S:=S) (k:=k) (k':=k) ho with⟨_,_⟩|h
    ·
     have hne:bG (bR S k .dead) k=none:=by
      have:∀(S:Store)(k:Key),bG S k=none->bG (bR S k Obj.dead) k=none:=by
       intro S
       induction S with
       |nil=>intro k _;rw[bR,ru]
       |cons fr S ih=>
        rintro⟨l,j⟩ h
        cases l with
        |zero=>
         rw[bV] at h;rw[bR,bV,List.set_eq_of_length_le (List.getElem?_eq_none_iff.1 h)];exact h
        |succ l=>rw[dn] at h;rw[bR,dn];exact ih _ h
      exact this S k hg
     rw[hne] at ho;cases ho
    ·rw[hg] at h;cases h
   |some y=>
    obtain⟨h,hh,_⟩:=hS.obj k y hg;exact⟨h,hh,trivial⟩
  ·obtain⟨h,hh,hr⟩:=hS.obj k' o ho';exact⟨h,hh,hr.mono hn ((JO S β k).drop k'.1) fun b _=>⟨rfl,rfl⟩⟩
 ·rcases BX e1 with⟨_,rfl⟩|Sn
  ·cases e3
  ·rcases BX e4 with⟨_,rfl⟩|e4'
   ·cases e6
   ·exact hS.apart k1 k2 o1 o2 h1 h2 b Sn e2 e3 e4' e5 e6
 ·obtain⟨ES,h1,h2⟩:=aat _ S k l fr hl;obtain⟨gr,h3,h4⟩:=hS.shape.2 l ES h1;exact⟨gr,h3,by omega⟩
def Less(r r':V):Prop:=∀w σ S β v,dP w σ S β r v->dP w σ S β r' v
theorem Less.refl(r:V):Less r r:=fun _ _ _ _ _ h=>h
theorem dh.kill{f:FuncId}{args:List V}{post post':V->Store->Prop}(k:Key)(h:dh P f args S post)(hp:∀r S',post r S'->∃r',Less r r'/\(post' r' S'\/post' r' (bR S' k .dead))):dh P f args S post':=by
 refine⟨h.1,fun w σ β vs hS hv=>(h.2 w σ β vs hS hv).mono fun e w' ⟨v,r,S',σ',β',h1,h2,h3,h4,h5,h6⟩=> ?_⟩;obtain⟨r',hl,hp|hp⟩:=hp r S' h6
 ·exact⟨v,r',S',σ',β',h1,h2,h3,h4,hl _ _ _ _ _ h5,hp⟩
 ·have hkeep:=JO S' β' k;refine⟨v,r',bR S' k .dead,σ',β',h1,aiw k h2,h3.trans hkeep,⟨h4.size,h4.os,h4.output,h4.far,h4.near,fun b hb=> ?_⟩,hl _ _ _ _ _ (h5.mono (Grow.refl h2.live).near hkeep),hp⟩;obtain⟨k',o,hv,e1,e2,e3⟩:=hb;rcases BX e1 with⟨_,rfl⟩|Sn
  ·cases e3
  ·exact h4.own b ⟨k',o,hv,Sn,e2,e3⟩
theorem bH{x y:Obj}:∀(S:Store)(k:Key),bR (bR S k x) k y=bR S k y
 |[],k=>rfl
 |fr::S,(0,j)=>by rw[bR,bR,bR];simp
 |fr::S,(l+1,j)=>by rw[bR,bR,bR,bH S]
theorem ze{x:Obj}:∀(S:Store)(k:Key),bG S k=some x->bR S k x=S
 |[],k,_=>rfl
 |fr::S,(0,j),h=>by
  rw[bV] at h;rw[bR];congr 1
  exact List.ext_getElem? fun i=>by
   rw[List.getElem?_set];split
   ·rename_i e;subst e;obtain⟨h1,h2⟩:=List.getElem?_eq_some_iff.1 h;simp[h1,h2]
   ·rfl
 |fr::S,(l+1,j),h=>by rw[dn] at h;rw[bR,ze S _ h]
def yg:List Bool->List V->List V
 |true::m,v::vs=>v::yg m vs
 |false::m,v::vs=>v.uq::yg m vs
 |[],vs=>vs.map V.uq
 |_,[]=>[]
theorem M9:∀(m:List Bool)(vs:List V),vs.length=(yg m vs).length
 |true::m,v::vs=>by rw[yg,List.length_cons,List.length_cons,M9 m vs]
 |false::m,v::vs=>by rw[yg,List.length_cons,List.length_cons,M9 m vs]
 |[],vs=>by simp[yg]
 |true::m,[]=>rfl
 |false::m,[]=>rfl
theorem Rb:∀(m:List Bool)(vs:List V)(j:Nat)(x y:V),vs[j]? =some x->(yg m vs)[j]? =some y->y=x\/y=x.uq
 |true::m,v::vs,0,x,y,h1,h2=>by rw[yg] at h2;cases h1;cases h2;exact .inl rfl
 |false::m,v::vs,0,x,y,h1,h2=>by rw[yg] at h2;cases h1;cases h2;exact .inr rfl
 |true::m,v::vs,j+1,x,y,h1,h2=>by rw[yg] at h2;exact Rb m vs j x y h1 h2
 |false::m,v::vs,j+1,x,y,h1,h2=>by rw[yg] at h2;exact Rb m vs j x y h1 h2
 |[],vs,j,x,y,h1,h2=>by rw[yg,List.getElem?_map,h1] at h2;cases h2;exact .inr rfl
 |true::m,[],j,x,y,h1,h2=>by simp at h1
 |false::m,[],j,x,y,h1,h2=>by simp at h1
theorem dh.yg(m:List Bool){f:FuncId}{args:List V}{post:V->Store->Prop}(h:dh P f (Go.Ab.yg m args) S post):dh P f args S post:=
 h.weaken (M9 m args) fun j x y hx hy w σ β v hr=>by
  rcases Rb m args j x y hx hy with e|e
  ·rw[e];exact hr
  ·rw[e];exact VY hr
theorem qB(m:List Bool){dr:Option Nat}{f:FuncId}{args:List V}{dst:Option Nat}{K:St->Prop}{r:V}{S1:Store}(hm:akp dr=true)(h:dh P f (yg m args) s.st (fun r' S'=>r'=r/\S'=S1))(hK:K (St.put ⟨s.tm,S1⟩ dst r)):fD P dr f args s dst K:=
 bg hm (h.yg m) hK
end
theorem aH.less{P:Program}{f:FuncId}{args:List V}{r r':V}(h:aH P f args r)(hl:Less r r'):aH P f args r':=
 fun S=>(h S).kill (0,0) fun r1 S' e=>⟨r',by rw[e.1];exact hl,.inl ⟨rfl,e.2⟩⟩
section
variable {P:Program} {S:Store}
def jT(n:Nat)(caps:List (Key×Nat)):List (Key×Nat):=caps.map fun y=>(CS n y.1,y.2)
theorem acp{n:Nat}:jT n []=[]:=rfl
theorem Zh{n l j off:Nat}{caps:List (Key×Nat)}:jT n (((l,j),off)::caps)=((n+l,j),off)::jT n caps:=rfl
theorem SE{m n:Nat}{caps:List (Key×Nat)}:jT m (jT n caps)=jT (m+n) caps:=by
 unfold jT;rw[List.map_map];refine List.map_congr_left fun y _=> ?_;simp only[Function.comp,CS,Prod.mk.injEq,and_true];omega
theorem Zi{n m g:Nat}{caps:List (Key×Nat)}:C.refs n (.fn g (jT (m+1) caps))=true:=by
 simp only[C.refs,jT,List.all_map,List.all_eq_true];intro x _
 have h:0<m+1+x.1.1:=by omega
 simp[Function.comp,oh,CS,h]
theorem Wv{n:Nat}{caps:List (Key×Nat)}:((jT 1 caps).all fun x=>oh n x.fst)=true:=Zi (m:=0) (g:=0)
theorem Ww:∀(F S:Store)(l j:Nat),bG (F++S) (F.length+l,j)=bG S (l,j)
 |[],S,l,j=>by simp
 |fr::F,S,l,j=>by
  rw[List.cons_append,List.length_cons,show F.length+1+l=(F.length+l)+1 from by omega,dn,Ww F S l j]
theorem Wx(x:Obj):∀(F S:Store)(l j:Nat),bR (F++S) (F.length+l,j) x=F++bR S (l,j) x
 |[],S,l,j=>by simp
 |fr::F,S,l,j=>by
  rw[List.cons_append,List.length_cons,show F.length+1+l=(F.length+l)+1 from by omega,bR,Wx x F S l j,List.cons_append]
theorem afd{F S:Store}{j:Nat}:bG (F++S) (F.length,j)=bG S (0,j):=Ww F S 0 j
theorem afe{F S:Store}{j:Nat}{x:Obj}:bR (F++S) (F.length,j) x=F++bR S (0,j) x:=Wx x F S 0 j
attribute [go_sem] afd afe acp Zh
def qp(P:Program)(g:Nat)(caps:List (Key×Nat))(S:Store)(xs:List V)(r:V):Prop:=
 ∀F:Store,dh P g (xs++Ea (jT F.length caps)) (F++S) (fun r' S'=>r'=r/\S'=F++S)
theorem qp.push{g:Nat}{caps:List (Key×Nat)}{xs:List V}{r:V}(h:qp P g caps S xs r)(fr:List Obj):qp P g (jT 1 caps) (fr::S) xs r:=fun F=>by
 have:=h (F++[fr]);rw[SE];simpa using this
theorem qp.Rc{g:Nat}{xs:List V}{r:V}(h:aH P g xs r):qp P g [] S xs r:=fun F=>by
 have:=h (F++S);simpa [jT,Ea] using this
def H7(P:Program)(g:Nat)(caps:List (Key×Nat)){α X:Type}(st:α->Store)(I:Nat->α->Prop)(f:α->X->α)(xv:X->V)(ok:X->Prop):Prop:=
 ∀n a u,I (n+1) a->ok u->I n (f a u)/\∀F:Store,dh P g (xv u::Ea (jT F.length caps)) (F++st a) (fun r' S'=>r'=.dL []/\S'=F++st (f a u))
theorem H7.push{g:Nat}{caps:List (Key×Nat)}{α X:Type}{st:α->Store}{I:Nat->α->Prop}{f:α->X->α}{xv:X->V}{ok:X->Prop}(h:H7 P g caps st I f xv ok)(fr:List Obj):
 H7 P g (jT 1 caps) (fun a=>fr::st a) I f xv ok:=fun n a u ha hu=>⟨(h n a u ha hu).1,fun F=>by
 have:=(h n a u ha hu).2 (F++[fr]);rw[SE]
 simpa using this⟩
theorem sZ{N:Nat}{c:Code}{Q:Exit->St->Prop}{tm:List (Nat×V)}{own:List Obj}{Ω:Store}(j i aY:Nat)(es:List (List D))(cs:List C)(hj:own[j]? =some (.box cs))(hi:cs[i]? =some (.bE es))(hes:∀e∈es,e.length=aY)
 (h:AW P N c Q ⟨tm,(own.set j (.box (cs.set i (.bN (0,own.length) es)))++[.tok aY es])::Ω⟩):AW P N c Q ⟨tm,own::Ω⟩:=by
 refine nJ h fun a w σ β hR=> ?_;obtain⟨bo,bΩ,rfl,hlen⟩:=frames hR;have hjl:=(List.getElem?_eq_some_iff.1 hj).1
 have hg0:bG (own::Ω) (0,j)=some (.box cs):=by rw[bV];exact hj
 obtain⟨hb,Mk,hr⟩:=hR.S.obj (0,j) _ hg0;obtain⟨b,cv,ty,rfl,hbc,hσ,hcs⟩:=hr;have hcs:gP w σ (own::Ω) (bo::bΩ) cs cv.toList:=hcs;obtain⟨v,hv,⟨hd,ad,n,hval⟩,hone⟩:=hcs.2 i _ hi
 have hn:n=es.length:=by rw[hval] at hd;cases hd<;>rfl
 have hg:Grow w σ w σ:=Grow.refl hR.S.live
 obtain⟨hS',hk,hst⟩:=hR.S.push (o:=.tok aY es) (h:=v) hg hlen ⟨hd,hes,ad,n,by rw[hval,hn],by omega,.inl hn⟩ (fun b hb=>by
  rw[hval,hn] at hb
  cases ad<;>simp[owns,blk] at hb)
 have hk1:bG ((own++[.tok aY es])::Ω) (0,j)=some (.box cs):=kU _ _ _ _ _ hg0;have I9:bG ((bo++[v])::bΩ) (0,j)=some (.pointer (some ⟨b,0,none⟩)):=kU _ _ _ _ _ Mk;have hko:nW (.box cs) (some (Value.pointer (some ⟨b,0,none⟩))) (.box (cs.set i (.bN (0,own.length) es))) (some (Value.pointer (some ⟨b,0,none⟩))):=.inr ⟨⟨_,rfl⟩,rfl⟩
 have hK:Keep ((own++[.tok aY es])::Ω) ((bo++[v])::bΩ) (bR ((own++[.tok aY es])::Ω) (0,j) (.box (cs.set i (.bN (0,own.length) es)))) (bR ((bo++[v])::bΩ) (0,j) (.pointer (some ⟨b,0,none⟩))):=by
  intro k1 o1 e1;by_cases e:k1=(0,j)
  ·subst e;rw[hk1] at e1;cases e1;exact⟨_,fB _ _ _ _ hk1,by rw[I9,fB _ _ _ _ I9];exact hko⟩
  ·exact⟨o1,(fP _ _ _ _ (Ne.symm e)).trans e1,by rw[fP _ _ _ _ (Ne.symm e)];exact .refl _ _⟩
 have hne:(0,own.length)≠(0,j):=fun e=>by injection e with _ e;omega
 obtain⟨hS2,hk2,x9⟩:=hS'.set (w':=w) (σ':=σ) (o':=.box (cs.set i (.bN (0,own.length) es))) (h':=.pointer (some ⟨b,0,none⟩)) hk1 I9 (Nat.le_refl _) rfl rfl (eH.refl _ _) hS'.live (fun _ _ _=>⟨rfl,rfl⟩) hko
  ⟨b,cv,ty,rfl,hbc,hσ,by
    refine⟨by rw[List.length_set];exact hcs.1,fun m x hm=> ?_⟩;rw[List.getElem?_set] at hm;by_cases e:i=m
    ·subst e;rw[if_pos rfl] at hm;split at hm
     ·cases hm;refine⟨v,hv,⟨hd,.tok aY es,?_,fun a1 b1 e1=> ?_⟩,hone⟩
      ·show bG (bR _ (0,j) _) (0,own.length)=_;rw[fP _ _ _ _ (Ne.symm hne),cZ]
      ·obtain⟨_,rfl⟩:=pX (lab:=none) e1;refine⟨Nat.le_refl _,fun _=> ?_⟩;show bG (bR _ (0,j) _) (0,own.length)=_;rw[fP _ _ _ _ (Ne.symm hne),<-hlen,cZ]
     ·cases hm
    ·rw[if_neg e] at hm;obtain⟨u,hu,hc,ho⟩:=hcs.2 m x hm
     exact⟨u,hu,(hc.mono (eH.refl _ _) hk).mono (eH.refl _ _) hK,ho⟩⟩ (fun _ e=>.inl e)
 have est:bR ((own++[.tok aY es])::Ω) (0,j) (.box (cs.set i (.bN (0,own.length) es)))=(own.set j (.box (cs.set i (.bN (0,own.length) es)))++[.tok aY es])::Ω:=by
  rw[bR,List.set_append_left _ _ hjl]
 rw[est] at hS2 hk2 x9
 exact⟨σ,_,⟨hR.size,hR.defers,hS2,fun u=>((hR.T u).mono (eH.refl _ _) hk).mono (eH.refl _ _) hk2⟩,hst.trans x9,by
  have:=hk.trans hk2
  exact this.tail⟩
end
inductive D.Fit:D->Prop
 |b (x):Fit (.b x)
 |i (k n):Fit (.i k n)
 |s (l) (h:l.length<=9223372036854775807):Fit (.s l)
 |sl (es) (h:es.length<=9223372036854775807) (hh:∀e∈es,∀d∈e,Fit d):Fit (.sl es)
 |o (v):Fit (.o v)
def Cz(cs:List D):Prop:=∀d∈cs,d.Fit
theorem Ec:Cz []:=fun d h=>by cases h
theorem EU{d:D}{ds:List D}:Cz (d::ds)<->d.Fit/\Cz ds:=by simp[Cz]
theorem Zj{a b:List D}:Cz (a++b)<->Cz a/\Cz b:=by
 simp only[Cz,List.mem_append];exact⟨fun h=>⟨fun d hd=>h d (.inl hd),fun d hd=>h d (.inr hd)⟩,fun h d hd=>hd.elim (h.1 d) (h.2 d)⟩
def WTF(P:Program)(W:TypeId->List D->Prop):List Field->List D->Prop
 |[],ds=>ds=[]
 |f::fs,ds=>∃a b,ds=a++b/\a.length=P.cellsOf f.type/\W f.type a/\WTF P W fs b
def WT(P:Program):Nat->TypeId->List D->Prop
 |0,_,_=>False
 |n+1,t,ds=>
  match P.underlying t with
  |some .bool=>∃b,ds=[.b b]
  |some (.int k)=>∃x,ds=[.i k x]/\(Lit.int k x).wf=true
  |some .string=>∃l,ds=[.s l]/\l.length<=9223372036854775807
  |some (.slice e)=>∃es,ds=[.sl es]/\es.length<=9223372036854775807/\∀x∈es,x.length=P.cellsOf e/\WT P n e x
  |some (.struct fs)=>WTF P (WT P n) fs.toList ds
  |_=>False
def Dk(P:Program):List Field->Nat->Nat->Bool
 |[],a,b=>a==b
 |f::fs,a,b=>f.offset==a&&Dk P fs (a+P.cellsOf f.type) b
def Rf(P:Program)(L:List TypeId):Bool:=
 L.all fun t=>match P.underlying t with
  |some .bool|some (.int _)|some .string=>P.cellsOf t==1
  |some (.slice e)=>P.cellsOf t==1&&L.contains e&&decide (0<P.cellsOf e)
  |some (.struct fs)=>Dk P fs.toList 0 (P.cellsOf t)&&fs.toList.all fun f=>L.contains f.type
  |_=>false
def lC(w:World)(b:Nat):Nat:=match w.heap[b]? with
 |some (.cells c _ _)=>c.size
 |_=>0
def vo(w:World)(ds:List D)(vs:List Value):Prop:=ds.length=vs.length/\∀(j:Nat)(d:D),ds[j]? =some d->∃v,vs[j]? =some v/\dH w (lC w) d v/\v.oneCell'=true
theorem vo.append{w:World}{a b:List D}{xs ys:List Value}(h1:vo w a xs)(h2:vo w b ys):vo w (a++b) (xs++ys):=by
 refine⟨by simp[h1.1,h2.1],fun j d hj=> ?_⟩;rw[List.getElem?_append] at hj ⊢;have:=h1.1;split at hj
 ·rw[if_pos (by omega)];exact h1.2 j d hj
 ·rw[if_neg (by omega),<-h1.1];exact h2.2 _ d hj
theorem vo.one{w:World}{d:D}{v:Value}(h:dH w (lC w) d v)(h1:v.oneCell'=true):vo w [d] [v]:=by
 refine⟨rfl,fun j x hj=> ?_⟩
 cases j with
 |zero=>cases hj;exact⟨v,rfl,h,h1⟩
 |succ j=>simp at hj
theorem Wy{α β:Type}(f:α->Option β):∀(l:List α)(ys:List β),l.mapM f=some ys->ys.length=l.length/\∀(j:Nat)(x:α),l[j]? =some x->∃y,f x=some y/\ys[j]? =some y
 |[],ys,h=>by
  simp at h;subst h;exact⟨rfl,fun j x hj=>by simp at hj⟩
 |a::l,ys,h=>by
  rw[List.mapM_cons] at h
  cases ha:f a with
  |none=>rw[ha] at h;cases h
  |some y=>
   cases hl:l.mapM f with
   |none=>rw[ha,hl] at h;cases h
   |some zs=>
    rw[ha,hl] at h;cases h;obtain⟨h1,h2⟩:=Wy f l zs hl;refine⟨by simp[h1],fun j x hj=> ?_⟩
    cases j with
    |zero=>cases hj;exact⟨y,ha,rfl⟩
    |succ j=>exact h2 j x hj
section
variable {H:Type} {enc:TypeId×Value->H} {P:Program} {w:World} {L:List TypeId}
theorem H8{a:Addr}{n:Nat}{vs:List Value}(hn:0<n)(h:w.cells? 0 a n=some vs):a.spot=none/\vs.length=n/\∃c t fz,w.heap[a.block]? =some (.cells c t fz)/\∀j,j<n->∃v,vs[j]? =some v/\c[a.off+j]? =some v:=by
 unfold World.cells? at h;rw[if_pos (Nat.zero_le _)] at h;obtain⟨h1,h2⟩:=Wy _ _ _ h;rw[List.length_range] at h1;obtain⟨v0,hv0,_⟩:=h2 0 0 (by simp[hn])
 have U4:a.add 0=a:=by simp[Addr.add]
 rw[U4] at hv0;unfold World.cell? at hv0
 cases hb:w.heap[a.block]? with
 |none=>rw[hb] at hv0;cases hv0
 |some ob=>
  rw[hb] at hv0
  cases ob with
  |map _ _=>cases hv0
  |cells c t fz=>
   have hs:a.spot=none:=by
    cases hsp:a.spot with
    |none=>rfl
    |some x=>rw[hsp] at hv0;simp at hv0
   refine⟨hs,h1,c,t,fz,rfl,fun j hj=> ?_⟩;obtain⟨v,hv,hvs⟩:=h2 j j (by simp[hj]);refine⟨v,hvs,?_⟩;unfold World.cell? at hv;by_cases hj0:j=0
   ·subst hj0;rw[U4,hb] at hv;simp[hs] at hv;simpa using hv
   ·simp[Addr.add,hj0,hb] at hv;exact hv
  |_=>cases hv0
theorem Mt{α:Type}{p:Nat->α->Prop}:∀n:Nat,(∀i,i<n->∃x,p i x)->∃l:List α,l.length=n/\∀(i:Nat)(x:α),l[i]? =some x->p i x
 |0,_=>⟨[],rfl,fun i x h=>by simp at h⟩
 |n+1,h=>by
  obtain⟨l,hl,hp⟩:=Mt n fun i hi=>h i (by omega);obtain⟨x,hx⟩:=h n (by omega);refine⟨l++[x],by simp[hl],fun i y hy=> ?_⟩;rw[List.getElem?_append] at hy;split at hy
  ·exact hp i y hy
  ·rename_i hlt
   have hi:i-l.length<1:=by
    have:=(List.getElem?_eq_some_iff.1 hy).1;simpa using this
   have:i=n:=by omega
   subst this;rw[show i-l.length=0 from by omega] at hy;cases hy;exact hx
theorem aff(hc:Rf P L=true){t:TypeId}(ht:t∈L):(match P.underlying t with
 |some .bool|some (.int _)|some .string=>P.cellsOf t==1
 |some (.slice e)=>P.cellsOf t==1&&L.contains e&&decide (0<P.cellsOf e)
 |some (.struct fs)=>Dk P fs.toList 0 (P.cellsOf t)&&fs.toList.all fun f=>L.contains f.type
 |_=>false)=true:=List.all_eq_true.1 hc t ht
theorem Zk{n:Nat}{fs:List Field}{cs:List Value}:∀(off:Nat),off<=cs.length->Dk P fs off cs.length=true->
 (∀f∈fs,∃ds,WT P n f.type ds/\vo w ds ((cs.drop f.offset).take (P.cellsOf f.type)))->∃ds,WTF P (WT P n) fs ds/\vo w ds (cs.drop off):=by
 induction fs with
 |nil=>
  intro off _ ht _
  have:off=cs.length:=by simpa [Dk] using ht
  exact⟨[],rfl,by simp[this,vo]⟩
 |cons f fs ih=>
  intro off ho ht h;simp only[Dk,Bool.and_eq_true,beq_iff_eq] at ht;obtain⟨a,ha1,ha2⟩:=h f (by simp)
  have hle:∀(fs:List Field)(o:Nat),Dk P fs o cs.length=true->o<=cs.length:=by
   intro fs
   induction fs with
   |nil=>intro o h;have:o=cs.length:=by simpa [Dk] using h
         omega
   |cons g gs ih=>intro o h;simp only[Dk,Bool.and_eq_true] at h;have:=ih _ h.2;omega
  have hle':=hle fs _ ht.2;obtain⟨b,hb1,hb2⟩:=ih (off+P.cellsOf f.type) hle' ht.2 fun g hg=>h g (by simp[hg]);rw[ht.1] at ha2;refine⟨a++b,⟨a,b,rfl,?_,ha1,hb1⟩,?_⟩
  ·rw[ha2.1];simp;omega
  ·have:=ha2.append hb2;rw[<-List.drop_drop,List.take_append_drop] at this;exact this
theorem JQ(hc:Rf P L=true){sp:Nat->Bool}{held:Bool}:∀(fuel:Nat)(t:TypeId)(cs:List Value)(x:DataW H×List MemPlace),t∈L->
 DataW.trod enc P w 0 sp held fuel t cs=some x->∃ds,WT P fuel t ds/\vo w ds cs
 |0,t,cs,x,_,h=>by simp[DataW.trod] at h
 |n+1,t,cs,x,ht,h=>by
  have hcl:=aff hc ht
  cases hu:P.underlying t with
  |none=>rw[hu] at hcl;cases hcl
  |some u=>
   rw[hu] at hcl
   cases u with
   |bool=>
    obtain⟨b,rfl,_⟩:=DataW.trod_bool hu h;exact⟨[.b b],by simp only[WT,hu];exact⟨b,rfl⟩,vo.one (.b b) rfl⟩
   |int k=>
    obtain⟨m,rfl,_,hw⟩:=DataW.trod_int hu h;exact⟨[.i k m],by simp only[WT,hu];exact⟨m,rfl,hw⟩,vo.one (.i k m) rfl⟩
   |string=>
    obtain⟨s,rfl,_,hs⟩:=DataW.trod_string hu h
    have hl:s.data.toList.length<=9223372036854775807:=by
     have h1:s.data.toList.length=s.size:=by rw[Array.length_toList];rfl
     rw[h1];exact hs
    refine⟨[.s s.data.toList],?_,vo.one ?_ rfl⟩
    ·simp only[WT,hu];exact⟨_,rfl,hl⟩
    ·exact .s s.data.toList
   |slice e=>
    simp only[Bool.and_eq_true,beq_iff_eq,decide_eq_true_eq,List.contains_iff_mem] at hcl;obtain⟨⟨h1,he⟩,hpos⟩:=hcl;rcases DataW.trod_slice hu h with⟨rfl,_⟩|⟨a,len,cap,elems,rest,m,hm,rfl,_,_,hlc,hcm,hel,hget,_,_⟩
    ·exact⟨[.sl []],by simp only[WT,hu];exact⟨[],rfl,by simp,fun x hx=>by cases hx⟩,vo.one (.nil _ _) rfl⟩
    ·cases hm
     have hall:∀i,i<len->∃ds:List D,ds.length=P.cellsOf e/\WT P n e ds/\∃vs,w.cells? 0 (a.add (i*P.cellsOf e)) (P.cellsOf e)=some vs/\vo w ds vs:=by
      intro i hi;have hg:=hget i hi
      cases hcs:w.cells? 0 (a.add (i*P.cellsOf e)) (P.cellsOf e) with
      |none=>
       rw[hcs] at hg
       have:i<elems.length:=by omega
       rw[List.getElem?_eq_getElem this] at hg;cases hg
      |some vs=>
       rw[hcs] at hg
       have hlt:i<elems.length:=by omega
       rw[List.getElem?_eq_getElem hlt] at hg;obtain⟨ds,hd1,hd2⟩:=JQ hc n e vs _ he hg;have hv:=(H8 hpos hcs).2.1;exact⟨ds,by rw[hd2.1,hv],hd1,vs,rfl,hd2⟩
     obtain⟨es,hes,hp⟩:=Mt len hall
     have hwt:WT P (n+1) t [.sl es]:=by
      simp only[WT,hu]
      refine⟨es,rfl,by have:cap<=9223372036854775807:=hcm
                       omega,fun x hx=> ?_⟩
      obtain⟨i,hi⟩:=List.getElem?_of_mem hx;exact⟨(hp i x hi).1,(hp i x hi).2.1⟩
     refine⟨[.sl es],hwt,?_⟩
     cases MW:es with
     |nil=>
      have h0:len=0:=by rw[<-hes,MW];rfl
      subst h0;exact vo.one (.nil _ _) rfl
     |cons e0 es0=>
      have ape:0<len:=by rw[<-hes,MW];simp
      have hlen:∀x∈es,x.length=P.cellsOf e:=fun x hx=>by
       obtain⟨i,hi⟩:=List.getElem?_of_mem hx;exact(hp i x hi).1
      obtain⟨ds0,_,_,vs0,anB,_⟩:=hall 0 ape
      have U4:a.add (0*P.cellsOf e)=a:=by simp[Addr.add]
      rw[U4] at anB;obtain⟨hsp,_,c,tt,fz,hblk,_⟩:=H8 hpos anB
      have hcell:∀i r,i<len->r<P.cellsOf e->∃(x:List D) (v:Value) (d:D),es[i]? =some x/\x[r]? =some d/\c[a.off+(i*P.cellsOf e+r)]? =some v/\dH w (lC w) d v:=by
       intro i r hi hr
       have hlt:i<es.length:=by omega
       obtain⟨hx1,hx2,vs,hvs,hrep⟩:=hp i es[i] (List.getElem?_eq_getElem hlt);obtain⟨_,hvl,c',t',Vy,hblk',hcc⟩:=H8 hpos hvs
       have hb':(a.add (i*P.cellsOf e)).block=a.block:=by unfold Addr.add;split<;>rfl
       have ho':(a.add (i*P.cellsOf e)).off=a.off+i*P.cellsOf e:=by unfold Addr.add;split<;>simp_all
       rw[hb',hblk] at hblk';cases hblk';obtain⟨v,hv1,hv2⟩:=hcc r hr
       have hdr:r<es[i].length:=by omega
       obtain⟨v',hv',hd',_⟩:=hrep.2 r es[i][r] (List.getElem?_eq_getElem hdr);rw[hv1] at hv';cases hv';refine⟨es[i],v,es[i][r],List.getElem?_eq_getElem hlt,List.getElem?_eq_getElem hdr,?_,hd'⟩;rw[ho'] at hv2;rw[<-Nat.add_assoc];exact hv2
      have hbound:a.off+len*P.cellsOf e<=c.size:=by
       obtain⟨_,v,_,_,_,hv,_⟩:=hcell (len-1) (P.cellsOf e-1) (by omega) (by omega);have:=(Array.getElem?_eq_some_iff.1 hv).1
       have e1:(len-1)*P.cellsOf e+P.cellsOf e=len*P.cellsOf e:=by
        rw[<-Nat.succ_mul];congr 1;omega
       omega
      have key:dH w (lC w) (.sl es) (.slice (some ⟨a.block,a.off,none⟩) es.length cap):=by
       refine .sl a.block a.off cap (P.cellsOf e) es (fun j=>(c[a.off+j]?).getD undef) c tt fz (by omega) hlen hblk ?_ (fun j hj=> ?_) (fun j d hj=> ?_)
       ·unfold lC;rw[hblk,hes];exact hbound
       ·have:a.off+j<c.size:=by rw[hes] at hj;omega
        rw[Array.getElem?_eq_getElem this];rfl
       ·have hfl:es.flatten.length=es.length*P.cellsOf e:=kD es _ hlen
        have hjl:j<es.length*P.cellsOf e:=by rw[<-hfl];exact(List.getElem?_eq_some_iff.1 hj).1
        have hi:j/P.cellsOf e<len:=by rw[<-hes];exact(Nat.div_lt_iff_lt_mul hpos).2 hjl
        obtain⟨x,v,d',hx,hd',hv,hr⟩:=hcell (j/P.cellsOf e) (j % P.cellsOf e) hi (Nat.mod_lt _ hpos)
        have hlt':j/P.cellsOf e<es.length:=by omega
        have hfg:=flat_get es (P.cellsOf e) hlen (j/P.cellsOf e) (j % P.cellsOf e) hlt' (Nat.mod_lt _ hpos)
        have hj':j/P.cellsOf e*P.cellsOf e+j % P.cellsOf e=j:=by rw[Nat.mul_comm];exact Nat.div_add_mod j _
        rw[hj',hj] at hfg;rw[List.getElem?_eq_getElem hlt'] at hx;cases hx;rw[hd'] at hfg;cases hfg;rw[hj'] at hv;rw[hv];exact hr
      rw[<-MW];refine vo.one ?_ rfl
      have ha:a=⟨a.block,a.off,none⟩:=by cases a;simp at hsp;simp[hsp]
      rw[ha,<-hes];exact key
   |struct fs=>
    simp only[Bool.and_eq_true] at hcl;obtain⟨htl,hfs⟩:=hcl;obtain⟨xs,m,hm,rfl,hlen,hxs,aqA⟩:=DataW.trod_struct hu h;cases hm;rw[<-hlen] at htl
    obtain⟨ds,h1,h2⟩:=Zk (w:=w) (n:=n) (cs:=cs) 0 (Nat.zero_le _) htl fun f hf=>by
     obtain⟨i,hi⟩:=List.getElem?_of_mem hf
     have hi':fs[i]? =some f:=by simpa using hi
     have hg:=aqA i f hi'
     have hlt:i<xs.length:=by
      rw[hxs];exact(Array.getElem?_eq_some_iff.1 hi').1
     rw[List.getElem?_eq_getElem hlt] at hg
     have hfL:f.type∈L:=by
      have:=List.all_eq_true.1 hfs f hf;simpa using this
     exact JQ hc n f.type _ _ hfL hg
    refine⟨ds,by simp only[WT,hu];exact h1,?_⟩;rw[List.drop_zero] at h2;exact h2
   |_=>cases hcl
end
open Go.ChangeShapes Go.WideShapes Go.ChangeAt Go.RowKit
section
variable {H:Type} {enc:TypeId×Value->H} {P:Program} {W W':World} {L:List TypeId} {t:TypeId} {v:Value} {base:Nat}
theorem aix{d:D}(hv:v.cells.toList=[v])(hL:vo W [d] v.cells.toList):dP W (lC W) [] [] (.c (.d d)) v:=by
 obtain⟨u,h1,h2,h3⟩:=hL.2 0 d rfl;rw[hv] at h1;cases h1;exact⟨h2,h3⟩
theorem acr{d:D}(ht:P.underlying t=some .string)(hok:Value.okWide P W .any base t v)(hL:vo W [d] v.cells.toList):dP W (lC W) [] [] (.c (.d d)) v:=by
 obtain⟨s,rfl⟩:=okWide_string ht hok;exact aix rfl hL
theorem afg:qm W (lC W) [] [] [] []:=⟨rfl,fun j x h=>by simp at h⟩
theorem acs{x:V}{xs:List V}{vs:List Value}(h1:dP W (lC W) [] [] x v)(h2:qm W (lC W) [] [] xs vs):qm W (lC W) [] [] (x::xs) (v::vs):=by
 refine⟨by simp[h2.1],fun j y hj=> ?_⟩
 cases j with
 |zero=>cases hj;exact⟨v,rfl,h1⟩
 |succ j=>exact h2.2 j y hj
theorem aiy(W:World)(hg:nI W (lC W)):fI W (lC W) [] [] where
 uF:=hg
 obj:=fun k o h=>by rw[ru] at h;cases h
 apart:=fun k k' o o' h h' b h1=>by rw[ru] at h1;cases h1
 shape:=⟨rfl,fun l fr h=>by simp at h⟩
 live:=fun b=>by
  by_cases h:b<W.heap.size
  ·exact .inl h
  ·right;unfold lC;rw[Array.getElem?_eq_none (by omega)]
theorem anC{b:Nat}:¬Own [] [] b:=fun⟨k,o,h,h1,_⟩=>by rw[ru] at h1;cases h1
theorem Ja(hl:laidOutB P=true)(hsame:∀b,b<W.heap.size->W'.heap[b]? =W.heap[b]?)(sp:Nat->Bool):∀(ts:List TypeId)(vs:List Value)(ds:List (DataW H))(ps:List MemPlace),
 (ts.all fun t=>P.readableRec t&&decide (t<P.types.size))=true->(∀p∈ps,p.block<W.heap.size/\sp p.block=true)->
   DataW.TrodAll enc P W 0 (fun _=>true) true ts vs ds ps->DataW.TrodAll enc P W' 0 sp true ts vs ds ps
 |[],[],[],ps,_,_,h=>h
 |t::ts,v::vs,d::ds,ps,hr,hlt,h=>by
  simp only[List.all_cons,Bool.and_eq_true,decide_eq_true_eq] at hr;obtain⟨p,q,h1,h2,rfl⟩:=h;refine⟨p,q,WideElems.Trod_stays hl hr.1.1 hr.1.2 h1 (fun x hx=> ?_) (fun x hx=>(hlt x (by simp[hx])).2),Ja hl hsame sp ts vs ds q hr.2 (fun x hx=>hlt x (by simp[hx])) h2,rfl⟩;have hb:=(hlt x (by simp[hx])).1
  cases x with
  |cell b o=>exact World.cell?_of_block (w:=W) (hsame b hb)
  |map b=>exact hsame b hb
 |[],[],_::_,ps,_,_,h=>h.elim
 |[],_::_,_,ps,_,_,h=>h.elim
 |_::_,[],_,ps,_,_,h=>h.elim
 |_::_,_::_,[],ps,_,_,h=>h.elim
theorem aiz{f:FuncId}{fn:Func}{s:ChangeSpec}{args:Array Value}{ds gs:List (DataW H)}{before:List MemPlace}{vs:List V}{tb:TypeId}(hl:laidOutB P=true)
 (hr:(fn.params.toList.all fun t=>P.readableRec t&&decide (t<P.types.size))=true)(hvars:s.vars=[])(hres:fn.resultTypes= #[tb])(htb:P.underlying tb=some .bool)
 (hs1:(s.fn H (ds++gs)).results=[.lit (.bool true)])(hs2:(s.fn H (ds++gs)).args=ds)(hs3:(s.fn H (ds++gs)).vars=[])
 (hW:DataW.Whole enc P fn.params.toList s.vars false W args.toList ds gs before)(hargs:qm W (lC W) [] [] vs args.toList)
 (hcall:dh P f vs [] fun r _=>r=.c (.d (.b true)))(apf:nI W (lC W):=by(intro g p hm;exact absurd hm List.not_mem_nil)):
 Calls P f args W fun e W'=>∃v,e=.returned v/\s.post enc P fn false true false false W args v W':=by
 have hc:=hcall.2 W (lC W) [] args.toList (aiy W apf) hargs
 have e1:args.toList.toArray=args:=by simp
 rw[e1] at hc;refine hc.mono fun e W' ⟨v,r,S',σ',β',he,hS',hk,hst,hv,hp⟩=> ?_;subst hp;obtain⟨hv,_⟩:=hv;cases hv;refine⟨_,he,?_⟩;have hsame:∀b,b<W.heap.size->W'.heap[b]? =W.heap[b]? :=fun b hb=>(hst.far b hb anC).1;have hlt:=fun p hp=>hW.lt p hp;have hW0:=hW;obtain⟨pa,q,hA,hV,rfl,hz,hn⟩:=hW;rw[hvars] at hV
 have hq:gs=[]/\q=[]:=by
  obtain⟨h1,h2⟩:=trodVars_none hV;exact⟨h1,h2⟩
 obtain⟨rfl,rfl⟩:=hq
 rw[List.append_nil] at *
 refine⟨ds,[],pa,[],pa,[],?_,?_,?_,?_,?_,fun h=>by cases h⟩
 ·simpa using hW0
 ·rw[List.append_nil,hs1,hres];exact trodAll_cons_mk (shut_bool htb _) trodAll_mk0
 ·rw[List.append_nil,hs2];exact Ja hl hsame _ _ _ _ _ hr (fun p hp=>⟨hlt p hp,by simpa using hlt p hp⟩) hA
 ·rw[List.append_nil,hs3,hvars];rfl
 ·refine⟨hst.os,hst.output,fun i hi=> ?_⟩;rw[hsame i hi];split<;>simp_all
end
structure Hq(p:Prop):Prop where
 out:p
theorem W1{G K:Prop}(k:K)(e:Hq K->G:=by intro k;simp -implicitDefEqProofs (disch:=omega) only[go_sem];exact k.out):G:=e ⟨k⟩
theorem Z1{G:Prop}(e:G:=by simp -implicitDefEqProofs (disch:=omega) only[go_sem];done):G:=e
theorem W2{G K:Prop}(k:K)(e:Hq K->G:=by intro k;simp -implicitDefEqProofs (disch:=omega) only[go_sem]<;>(repeat(with_reducible refine And.intro ?_ ?_;focus first|omega|rfl|assumption|exact⟨_,rfl,rfl⟩|(simp;omega)|(simp;done)));exact k.out):G:=e ⟨k⟩
theorem W3{G K:Prop}(k:K)(e:Hq K->G:=by intro k;(repeat(with_reducible refine And.intro ?_ ?_;focus first|omega|rfl|assumption|exact⟨_,rfl,rfl⟩|(simp;omega)|(simp;done)));exact k.out):G:=e ⟨k⟩
theorem S0{c:Bool}{s:St}{A B:St->Prop}{P Q:Prop}{A':P->Prop}{B':Q->Prop}(k:c=true->(h:P)->A' h)(k2:c=false->(h:Q)->B' h)(e:Hq (c=true->(h:P)->A' h)->c=true->A s:=by intro k hb;have h:=hb;(try simp only[wf_preprocess] at h);simp -implicitDefEqProofs (disch:=omega) only[go_sem,hb]<;>(repeat(with_reducible refine And.intro ?_ ?_;focus first|omega|rfl|assumption|exact⟨_,rfl,rfl⟩|(simp;omega)|(simp;done)));exact k.out hb h)
 (e2:Hq (c=false->(h:Q)->B' h)->c=false->B s:=by intro k hb;have h:=hb;(try simp only[wf_preprocess] at h);simp -implicitDefEqProofs (disch:=omega) only[go_sem,hb]<;>(repeat(with_reducible refine And.intro ?_ ?_;focus first|omega|rfl|assumption|exact⟨_,rfl,rfl⟩|(simp;omega)|(simp;done)));exact k.out hb h):Split c A B s:=dD (e ⟨k⟩) (e2 ⟨k2⟩)
theorem S1{c:Bool}{s:St}{A B:St->Prop}{Q:Prop}{B':Q->Prop}(k2:c=false->(h:Q)->B' h)(e:c=true->A s:=by intro hb;have h:=hb;(try simp only[wf_preprocess] at h);simp -implicitDefEqProofs (disch:=omega) only[go_sem,hb]<;>(repeat(with_reducible refine And.intro ?_ ?_;focus first|omega|rfl|assumption|exact⟨_,rfl,rfl⟩|(simp;omega)|(simp;done)));done)
 (e2:Hq (c=false->(h:Q)->B' h)->c=false->B s:=by intro k hb;have h:=hb;(try simp only[wf_preprocess] at h);simp -implicitDefEqProofs (disch:=omega) only[go_sem,hb]<;>(repeat(with_reducible refine And.intro ?_ ?_;focus first|omega|rfl|assumption|exact⟨_,rfl,rfl⟩|(simp;omega)|(simp;done)));exact k.out hb h):Split c A B s:=dD e (e2 ⟨k2⟩)
theorem S2{c:Bool}{s:St}{A B:St->Prop}{P:Prop}{A':P->Prop}(k:c=true->(h:P)->A' h)(e:Hq (c=true->(h:P)->A' h)->c=true->A s:=by intro k hb;have h:=hb;(try simp only[wf_preprocess] at h);simp -implicitDefEqProofs (disch:=omega) only[go_sem,hb]<;>(repeat(with_reducible refine And.intro ?_ ?_;focus first|omega|rfl|assumption|exact⟨_,rfl,rfl⟩|(simp;omega)|(simp;done)));exact k.out hb h)
 (e2:c=false->B s:=by intro hb;have h:=hb;(try simp only[wf_preprocess] at h);simp -implicitDefEqProofs (disch:=omega) only[go_sem,hb]<;>(repeat(with_reducible refine And.intro ?_ ?_;focus first|omega|rfl|assumption|exact⟨_,rfl,rfl⟩|(simp;omega)|(simp;done)));done):Split c A B s:=dD (e ⟨k⟩) e2
theorem S3{c:Bool}{s:St}{A B:St->Prop}(e:c=true->A s:=by intro hb;have h:=hb;(try simp only[wf_preprocess] at h);simp -implicitDefEqProofs (disch:=omega) only[go_sem,hb]<;>(repeat(with_reducible refine And.intro ?_ ?_;focus first|omega|rfl|assumption|exact⟨_,rfl,rfl⟩|(simp;omega)|(simp;done)));done)(e2:c=false->B s:=by intro hb;have h:=hb;(try simp only[wf_preprocess] at h);simp -implicitDefEqProofs (disch:=omega) only[go_sem,hb]<;>(repeat(with_reducible refine And.intro ?_ ?_;focus first|omega|rfl|assumption|exact⟨_,rfl,rfl⟩|(simp;omega)|(simp;done)));done):Split c A B s:=dD e e2
section
variable {P:Program} {s:St} {dr:Option Nat} {f:FuncId} {args:List V} {dst:Option Nat} {K:St->Prop} {r:V}
theorem C1{Q:Prop}(h:aH P f (args.map V.uq) r)(k:Q)(e:Hq Q->K (s.put dst r):=by intro k;simp -implicitDefEqProofs (disch:=omega) only[go_sem];exact k.out):fD P dr f args s dst K:=aX h (e ⟨k⟩)
theorem C2{Q:Prop}(h:aH P f (args.map V.uq) r)(k:Q)(e:Hq Q->K (s.put dst r):=by intro k;simp -implicitDefEqProofs (disch:=omega) only[go_sem]<;>(repeat(with_reducible refine And.intro ?_ ?_;focus first|omega|rfl|assumption|exact⟨_,rfl,rfl⟩|(simp;omega)|(simp;done)));exact k.out):fD P dr f args s dst K:=aX h (e ⟨k⟩)
theorem C3(h:aH P f (args.map V.uq) r)(e:K (s.put dst r):=by simp -implicitDefEqProofs (disch:=omega) only[go_sem];done):fD P dr f args s dst K:=aX h e
theorem C4(h:aH P f (args.map V.uq) r)(e:K (s.put dst r):=by simp -implicitDefEqProofs (disch:=omega) only[go_sem]<;>(repeat(with_reducible refine And.intro ?_ ?_;focus first|omega|rfl|assumption|exact⟨_,rfl,rfl⟩|(simp;omega)|(simp;done)));done):fD P dr f args s dst K:=aX h e
end
mutual
def D.sz:D->Nat
 | .s l=>l.length
 | .sl es=>es.length+bf es
 | .b _=>0
 | .i _ _=>0
 | .o _=>0
 | .ol _ es=>es.length+bf es
def bT:List D->Nat
 |[]=>0
 |d::ds=>d.sz+bT ds
def bf:List (List D)->Nat
 |[]=>0
 |r::rs=>bT r+bf rs
end
theorem bK:∀(a b:List D),bT (a++b)=bT a+bT b
 |[],b=>by simp[bT]
 |d::ds,b=>by rw[List.cons_append,bT,bK ds b,bT];omega
def p9(left:Int)(n:Nat):Int:=if left-n<0 then -1 else left-n
theorem Lp{l:Int}{a:Nat}(h:¬p9 l a<0):p9 l a=l-a/\0<=l-a:=by
 unfold p9 at *
 split at h
 ·omega
 ·rename_i h';exact⟨if_neg h',by omega⟩
theorem H9{l:Int}{a:Nat}(h:p9 l a<0):l-a<0:=by
 unfold p9 at *
 split at h<;>omega
theorem Lr{l:Int}{a:Nat}(h:l-a<0):p9 l a= -1:=if_pos h
theorem Wz{l:Int}{a:Nat}(h:0<=l-a):p9 l a=l-a:=if_neg (by omega)
theorem int_eq{k:IntKind}{a b:Int}(h:a=b):V.c (.d (.i k a))=V.c (.d (.i k b)):=by rw[h]
theorem ay{a b:Bool}(h:a=b):V.c (.d (.b a))=V.c (.d (.b b)):=by rw[h]
noncomputable def dec(p:Prop):Bool:= @decide p (Classical.propDecidable p)
theorem aZ{p:Prop}(h:p):dec p=true:=by simp[dec,h]
theorem aB{p:Prop}(h:¬p):dec p=false:=by simp[dec,h]
theorem gH{p:Prop}(h:dec p=true):p:=by simpa [dec] using h
theorem jg{p:Prop}(h:dec p=false):¬p:=by simpa [dec] using h
theorem Bt{p:Prop}:(dec p=true)=p:=by simp[dec]
theorem JR{p:Prop}:(dec p=false)=¬p:=by simp[dec]
attribute [wf_preprocess] Bt JR
theorem iB{p q:Prop}(h:p<->q):dec p=dec q:=by rw[propext h]
theorem aiA:dec True=true:=aZ trivial
theorem afh:dec False=false:=aB id
attribute [go_sem] aiA afh
theorem kE{p:Prop}[Decidable p]:decide p=dec p:=by by_cases h:p<;>simp[dec,h]
theorem dA{r:List D}:∀{rs:List (List D)},r∈rs->bT r<=bf rs
 |a::rs,h=>by
  rw[bf];rcases List.mem_cons.1 h with rfl|h
  ·omega
  ·have:=dA h;omega
def JU(z i:Nat)(R rows:List (List D)):Prop:=R.length=rows.length/\(∀r∈R,r.length=z)/\∀j,j<i->R[j]? =rows[j]?
theorem JU.step{z i:Nat}{R rows:List (List D)}{row:List D}(h:JU z i R rows)(hi:rows[i]? =some row)(hr:row.length=z):JU z (i+1) (R.set i (vX (R.getD i []) 0 row)) rows:=by
 obtain⟨h1,h2,h3⟩:=h;have hlt:i<rows.length:=(List.getElem?_eq_some_iff.1 hi).1
 have hs:vX (R.getD i []) 0 row=row:=by
  have hm:R.getD i []∈R:=by
   rw[List.getD_eq_getElem?_getD,List.getElem?_eq_getElem (by omega)];exact List.getElem_mem _
  have:=h2 _ hm;unfold vX;rw[List.take_zero,List.nil_append,Nat.zero_add,hr,List.drop_eq_nil_of_le (by omega),List.append_nil]
 rw[hs];refine⟨by simpa using h1,fun r hr'=> ?_,fun j hj=> ?_⟩
 ·rcases List.mem_or_eq_of_mem_set hr' with h|h
  ·exact h2 r h
  ·rw[h];exact hr
 ·by_cases e:j=i
  ·subst e;rw[hi,List.getElem?_set_self (by omega)]
  ·rw[List.getElem?_set_ne (by omega)];exact h3 j (by omega)
theorem JU.done{z i:Nat}{R rows:List (List D)}(h:JU z i R rows)(hi:rows.length<=i):R=rows:=by
 obtain⟨h1,h2,h3⟩:=h;refine List.ext_getElem? fun j=> ?_;by_cases hj:j<i
 ·exact h3 j hj
 ·rw[List.getElem?_eq_none (by omega),List.getElem?_eq_none (by omega)]
def encS(s:List UInt8):List D:=[.s s]
def encI(n:Int):List D:=[.i .i64 n]
inductive ak where
 |mk (aK:Int) (fName:List UInt8) (fArgs:List ak)
def ak.aK:ak->Int| .mk x _ _=>x
def ak.fName:ak->List UInt8| .mk _ x _=>x
def ak.fArgs:ak->List ak| .mk _ _ x=>x
theorem ak.eta(x:ak):ak.mk x.aK x.fName x.fArgs=x:=by cases x;rfl
theorem ak.ext{x y:ak}(h0:x.aK=y.aK)(h1:x.fName=y.fName)(h2:x.fArgs=y.fArgs):x=y:=by
 rw[<-ak.eta x,<-ak.eta y,h0,h1,h2]
mutual
def ak.enc:ak->List D
 | .mk a0 a1 a2=>[.i .i64 a0,.s a1,.sl (ak.encs a2)]
def ak.encs:List ak->List (List D)
 |[]=>[]
 |x::xs=>x.enc::ak.encs xs
end
theorem ak.lW:∀l,ak.encs l=l.map ak.enc
 |[]=>rfl
 |x::xs=>by rw[ak.encs,List.map_cons,ak.lW xs]
theorem ak.aA(x:ak):x.enc=[.i .i64 x.aK,.s x.fName,.sl (x.fArgs.map ak.enc)]:=by
 cases x;simp only[ak.enc,ak.lW,ak.aK,ak.fName,ak.fArgs]
abbrev ak.v(x:ak):V:=.agg [.d (.i .i64 x.aK),.d (.s x.fName),.d (.sl (x.fArgs.map ak.enc))]
theorem ak.vv(x:ak): .agg (x.enc.map .d)=x.v:=by
 simp only[ak.aA,List.map_cons,List.map_nil,List.cons_append,List.nil_append,List.map_append]
theorem ak.cK(x:ak):x.enc.length=3:=by
 simp only[ak.aA,List.length_append,List.length_cons,List.length_nil]
def ak.sz(x:ak):Nat:=bT x.enc
theorem ak.d9(x:ak):bT x.enc=x.sz:=rfl
theorem ak.gT(x:ak):SizeOf.sizeOf x.fArgs<SizeOf.sizeOf x:=by cases x;simp[ak.fArgs];omega
structure eD where
 fVar:List UInt8
 fType:ak
def eD.enc(x:eD):List D:=[.s x.fVar]++(x.fType.enc)
theorem eD.aA(x:eD):x.enc=[.s x.fVar]++(x.fType.enc):=rfl
theorem eD.eta(x:eD):eD.mk x.fVar x.fType=x:=rfl
theorem eD.ext'{x y:eD}(h0:x.fVar=y.fVar)(h1:x.fType=y.fType):x=y:=by
 cases x;cases y;simp_all
abbrev eD.v(x:eD):V:=.agg [.d (.s x.fVar),.d (.i .i64 x.fType.aK),.d (.s x.fType.fName),.d (.sl (x.fType.fArgs.map ak.enc))]
theorem eD.vv(x:eD): .agg (x.enc.map .d)=x.v:=by
 simp only[eD.aA,ak.aA,List.map_cons,List.map_nil,List.cons_append,List.nil_append,List.map_append]
theorem eD.cK(x:eD):x.enc.length=4:=by
 simp only[eD.aA,ak.cK,List.length_append,List.length_cons,List.length_nil]
def eD.sz(x:eD):Nat:=bT x.enc
theorem eD.d9(x:eD):bT x.enc=x.sz:=rfl
structure bn where
 bC:List UInt8
 fType:ak
def bn.enc(x:bn):List D:=[.s x.bC]++(x.fType.enc)
theorem bn.aA(x:bn):x.enc=[.s x.bC]++(x.fType.enc):=rfl
theorem bn.eta(x:bn):bn.mk x.bC x.fType=x:=rfl
theorem bn.ext'{x y:bn}(h0:x.bC=y.bC)(h1:x.fType=y.fType):x=y:=by
 cases x;cases y;simp_all
abbrev bn.v(x:bn):V:=.agg [.d (.s x.bC),.d (.i .i64 x.fType.aK),.d (.s x.fType.fName),.d (.sl (x.fType.fArgs.map ak.enc))]
theorem bn.vv(x:bn): .agg (x.enc.map .d)=x.v:=by
 simp only[bn.aA,ak.aA,List.map_cons,List.map_nil,List.cons_append,List.nil_append,List.map_append]
theorem bn.cK(x:bn):x.enc.length=4:=by
 simp only[bn.aA,ak.cK,List.length_append,List.length_cons,List.length_nil]
def bn.sz(x:bn):Nat:=bT x.enc
theorem bn.d9(x:bn):bT x.enc=x.sz:=rfl
mutual
inductive au where
 |mk (aK:Int) (bC:List UInt8) (fName:List UInt8) (fN:Int) (fType:ak) (fArgs:List au) (aQ:List aR)
inductive aR where
 |mk (dM:List UInt8) (aG:List (List UInt8)) (fBody:au)
end
def au.aK:au->Int| .mk x _ _ _ _ _ _=>x
def au.bC:au->List UInt8| .mk _ x _ _ _ _ _=>x
def au.fName:au->List UInt8| .mk _ _ x _ _ _ _=>x
def au.fN:au->Int| .mk _ _ _ x _ _ _=>x
def au.fType:au->ak| .mk _ _ _ _ x _ _=>x
def au.fArgs:au->List au| .mk _ _ _ _ _ x _=>x
def au.aQ:au->List aR| .mk _ _ _ _ _ _ x=>x
theorem au.eta(x:au):au.mk x.aK x.bC x.fName x.fN x.fType x.fArgs x.aQ=x:=by cases x;rfl
theorem au.ext{x y:au}(h0:x.aK=y.aK)(h1:x.bC=y.bC)(h2:x.fName=y.fName)(h3:x.fN=y.fN)(h4:x.fType=y.fType)(h5:x.fArgs=y.fArgs)(h6:x.aQ=y.aQ):x=y:=by
 rw[<-au.eta x,<-au.eta y,h0,h1,h2,h3,h4,h5,h6]
def aR.dM:aR->List UInt8| .mk x _ _=>x
def aR.aG:aR->List (List UInt8)| .mk _ x _=>x
def aR.fBody:aR->au| .mk _ _ x=>x
theorem aR.eta(x:aR):aR.mk x.dM x.aG x.fBody=x:=by cases x;rfl
theorem aR.ext{x y:aR}(h0:x.dM=y.dM)(h1:x.aG=y.aG)(h2:x.fBody=y.fBody):x=y:=by
 rw[<-aR.eta x,<-aR.eta y,h0,h1,h2]
mutual
def au.enc:au->List D
 | .mk a0 a1 a2 a3 a4 a5 a6=>[.i .i64 a0,.s a1,.s a2,.i .i64 a3]++(a4.enc++([.sl (au.encs a5),.sl (aR.encs a6)]))
def au.encs:List au->List (List D)
 |[]=>[]
 |x::xs=>x.enc::au.encs xs
def aR.enc:aR->List D
 | .mk a0 a1 a2=>[.s a0,.sl (a1.map encS)]++(au.enc a2)
def aR.encs:List aR->List (List D)
 |[]=>[]
 |x::xs=>x.enc::aR.encs xs
end
theorem au.lW:∀l,au.encs l=l.map au.enc
 |[]=>rfl
 |x::xs=>by rw[au.encs,List.map_cons,au.lW xs]
theorem aR.lW:∀l,aR.encs l=l.map aR.enc
 |[]=>rfl
 |x::xs=>by rw[aR.encs,List.map_cons,aR.lW xs]
theorem au.aA(x:au):x.enc=[.i .i64 x.aK,.s x.bC,.s x.fName,.i .i64 x.fN]++(x.fType.enc++([.sl (x.fArgs.map au.enc),.sl (x.aQ.map aR.enc)])):=by
 cases x;simp only[au.enc,au.lW,aR.lW,au.aK,au.bC,au.fName,au.fN,au.fType,au.fArgs,au.aQ]
theorem aR.aA(x:aR):x.enc=[.s x.dM,.sl (x.aG.map encS)]++(x.fBody.enc):=by
 cases x;simp only[aR.enc,au.lW,aR.lW,aR.dM,aR.aG,aR.fBody]
abbrev au.v(x:au):V:=.agg [.d (.i .i64 x.aK),.d (.s x.bC),.d (.s x.fName),.d (.i .i64 x.fN),.d (.i .i64 x.fType.aK),.d (.s x.fType.fName),.d (.sl (x.fType.fArgs.map ak.enc)),.d (.sl (x.fArgs.map au.enc)),.d (.sl (x.aQ.map aR.enc))]
theorem au.vv(x:au): .agg (x.enc.map .d)=x.v:=by
 simp only[au.aA,ak.aA,List.map_cons,List.map_nil,List.cons_append,List.nil_append,List.map_append]
theorem au.cK(x:au):x.enc.length=9:=by
 simp only[au.aA,ak.cK,List.length_append,List.length_cons,List.length_nil]
def au.sz(x:au):Nat:=bT x.enc
theorem au.d9(x:au):bT x.enc=x.sz:=rfl
theorem au.gT(x:au):SizeOf.sizeOf x.fArgs<SizeOf.sizeOf x:=by cases x;simp[au.fArgs];omega
theorem au.qb(x:au):SizeOf.sizeOf x.aQ<SizeOf.sizeOf x:=by cases x;simp[au.aQ];omega
abbrev aR.v(x:aR):V:=.agg [.d (.s x.dM),.d (.sl (x.aG.map encS)),.d (.i .i64 x.fBody.aK),.d (.s x.fBody.bC),.d (.s x.fBody.fName),.d (.i .i64 x.fBody.fN),.d (.i .i64 x.fBody.fType.aK),.d (.s x.fBody.fType.fName),.d (.sl (x.fBody.fType.fArgs.map ak.enc)),.d (.sl (x.fBody.fArgs.map au.enc)),.d (.sl (x.fBody.aQ.map aR.enc))]
theorem aR.vv(x:aR): .agg (x.enc.map .d)=x.v:=by
 simp only[aR.aA,au.aA,ak.aA,List.map_cons,List.map_nil,List.cons_append,List.nil_append,List.map_append]
theorem aR.cK(x:aR):x.enc.length=11:=by
 simp only[aR.aA,au.cK,List.length_append,List.length_cons,List.length_nil]
def aR.sz(x:aR):Nat:=bT x.enc
theorem aR.d9(x:aR):bT x.enc=x.sz:=rfl
theorem aR.oU(x:aR):SizeOf.sizeOf x.fBody<SizeOf.sizeOf x:=by cases x;simp[aR.fBody];omega
inductive aj where
 |mk (aO:List UInt8) (ah:List aj)
def aj.aO:aj->List UInt8| .mk x _=>x
def aj.ah:aj->List aj| .mk _ x=>x
theorem aj.eta(x:aj):aj.mk x.aO x.ah=x:=by cases x;rfl
theorem aj.ext{x y:aj}(h0:x.aO=y.aO)(h1:x.ah=y.ah):x=y:=by
 rw[<-aj.eta x,<-aj.eta y,h0,h1]
mutual
def aj.enc:aj->List D
 | .mk a0 a1=>[.s a0,.sl (aj.encs a1)]
def aj.encs:List aj->List (List D)
 |[]=>[]
 |x::xs=>x.enc::aj.encs xs
end
theorem aj.lW:∀l,aj.encs l=l.map aj.enc
 |[]=>rfl
 |x::xs=>by rw[aj.encs,List.map_cons,aj.lW xs]
theorem aj.aA(x:aj):x.enc=[.s x.aO,.sl (x.ah.map aj.enc)]:=by
 cases x;simp only[aj.enc,aj.lW,aj.aO,aj.ah]
abbrev aj.v(x:aj):V:=.agg [.d (.s x.aO),.d (.sl (x.ah.map aj.enc))]
theorem aj.vv(x:aj): .agg (x.enc.map .d)=x.v:=by
 simp only[aj.aA,List.map_cons,List.map_nil,List.cons_append,List.nil_append,List.map_append]
theorem aj.cK(x:aj):x.enc.length=2:=by
 simp only[aj.aA,List.length_append,List.length_cons,List.length_nil]
def aj.sz(x:aj):Nat:=bT x.enc
theorem aj.d9(x:aj):bT x.enc=x.sz:=rfl
theorem aj.wh(x:aj):SizeOf.sizeOf x.ah<SizeOf.sizeOf x:=by cases x;simp[aj.ah];omega
structure aM where
 fName:List UInt8
 aW:List ak
 bP:ak
 gW:Bool
 aG:List (List UInt8)
 fBody:au
def aM.enc(x:aM):List D:=[.s x.fName,.sl (x.aW.map ak.enc)]++(x.bP.enc++([.b x.gW,.sl (x.aG.map encS)]++(x.fBody.enc)))
theorem aM.aA(x:aM):x.enc=[.s x.fName,.sl (x.aW.map ak.enc)]++(x.bP.enc++([.b x.gW,.sl (x.aG.map encS)]++(x.fBody.enc))):=rfl
theorem aM.eta(x:aM):aM.mk x.fName x.aW x.bP x.gW x.aG x.fBody=x:=rfl
theorem aM.ext'{x y:aM}(h0:x.fName=y.fName)(h1:x.aW=y.aW)(h2:x.bP=y.bP)(h3:x.gW=y.gW)(h4:x.aG=y.aG)(h5:x.fBody=y.fBody):x=y:=by
 cases x;cases y;simp_all
abbrev aM.v(x:aM):V:=.agg [.d (.s x.fName),.d (.sl (x.aW.map ak.enc)),.d (.i .i64 x.bP.aK),.d (.s x.bP.fName),.d (.sl (x.bP.fArgs.map ak.enc)),.d (.b x.gW),.d (.sl (x.aG.map encS)),.d (.i .i64 x.fBody.aK),.d (.s x.fBody.bC),.d (.s x.fBody.fName),.d (.i .i64 x.fBody.fN),.d (.i .i64 x.fBody.fType.aK),.d (.s x.fBody.fType.fName),.d (.sl (x.fBody.fType.fArgs.map ak.enc)),.d (.sl (x.fBody.fArgs.map au.enc)),.d (.sl (x.fBody.aQ.map aR.enc))]
theorem aM.vv(x:aM): .agg (x.enc.map .d)=x.v:=by
 simp only[aM.aA,au.aA,ak.aA,List.map_cons,List.map_nil,List.cons_append,List.nil_append,List.map_append]
theorem aM.cK(x:aM):x.enc.length=16:=by
 simp only[aM.aA,au.cK,ak.cK,List.length_append,List.length_cons,List.length_nil]
def aM.sz(x:aM):Nat:=bT x.enc
theorem aM.d9(x:aM):bT x.enc=x.sz:=rfl
structure bA where
 fName:List UInt8
 bI:List (List UInt8)
 nH:Bool
 bD:Bool
 aD:List aM
def bA.enc(x:bA):List D:=[.s x.fName,.sl (x.bI.map encS),.b x.nH,.b x.bD,.sl (x.aD.map aM.enc)]
theorem bA.aA(x:bA):x.enc=[.s x.fName,.sl (x.bI.map encS),.b x.nH,.b x.bD,.sl (x.aD.map aM.enc)]:=rfl
theorem bA.eta(x:bA):bA.mk x.fName x.bI x.nH x.bD x.aD=x:=rfl
theorem bA.ext'{x y:bA}(h0:x.fName=y.fName)(h1:x.bI=y.bI)(h2:x.nH=y.nH)(h3:x.bD=y.bD)(h4:x.aD=y.aD):x=y:=by
 cases x;cases y;simp_all
abbrev bA.v(x:bA):V:=.agg [.d (.s x.fName),.d (.sl (x.bI.map encS)),.d (.b x.nH),.d (.b x.bD),.d (.sl (x.aD.map aM.enc))]
theorem bA.vv(x:bA): .agg (x.enc.map .d)=x.v:=by
 simp only[bA.aA,List.map_cons,List.map_nil,List.cons_append,List.nil_append,List.map_append]
theorem bA.cK(x:bA):x.enc.length=5:=by
 simp only[bA.aA,List.length_append,List.length_cons,List.length_nil]
def bA.sz(x:bA):Nat:=bT x.enc
theorem bA.d9(x:bA):bT x.enc=x.sz:=rfl
structure aL where
 fName:List UInt8
 gq:List ak
def aL.enc(x:aL):List D:=[.s x.fName,.sl (x.gq.map ak.enc)]
theorem aL.aA(x:aL):x.enc=[.s x.fName,.sl (x.gq.map ak.enc)]:=rfl
theorem aL.eta(x:aL):aL.mk x.fName x.gq=x:=rfl
theorem aL.ext'{x y:aL}(h0:x.fName=y.fName)(h1:x.gq=y.gq):x=y:=by
 cases x;cases y;simp_all
abbrev aL.v(x:aL):V:=.agg [.d (.s x.fName),.d (.sl (x.gq.map ak.enc))]
theorem aL.vv(x:aL): .agg (x.enc.map .d)=x.v:=by
 simp only[aL.aA,List.map_cons,List.map_nil,List.cons_append,List.nil_append,List.map_append]
theorem aL.cK(x:aL):x.enc.length=2:=by
 simp only[aL.aA,List.length_append,List.length_cons,List.length_nil]
def aL.sz(x:aL):Nat:=bT x.enc
theorem aL.d9(x:aL):bT x.enc=x.sz:=rfl
structure aS where
 fName:List UInt8
 aG:List (List UInt8)
 aF:List aL
def aS.enc(x:aS):List D:=[.s x.fName,.sl (x.aG.map encS),.sl (x.aF.map aL.enc)]
theorem aS.aA(x:aS):x.enc=[.s x.fName,.sl (x.aG.map encS),.sl (x.aF.map aL.enc)]:=rfl
theorem aS.eta(x:aS):aS.mk x.fName x.aG x.aF=x:=rfl
theorem aS.ext'{x y:aS}(h0:x.fName=y.fName)(h1:x.aG=y.aG)(h2:x.aF=y.aF):x=y:=by
 cases x;cases y;simp_all
abbrev aS.v(x:aS):V:=.agg [.d (.s x.fName),.d (.sl (x.aG.map encS)),.d (.sl (x.aF.map aL.enc))]
theorem aS.vv(x:aS): .agg (x.enc.map .d)=x.v:=by
 simp only[aS.aA,List.map_cons,List.map_nil,List.cons_append,List.nil_append,List.map_append]
theorem aS.cK(x:aS):x.enc.length=3:=by
 simp only[aS.aA,List.length_append,List.length_cons,List.length_nil]
def aS.sz(x:aS):Nat:=bT x.enc
theorem aS.d9(x:aS):bT x.enc=x.sz:=rfl
structure bq where
 fName:List UInt8
 aG:List (List UInt8)
 fBody:au
def bq.enc(x:bq):List D:=[.s x.fName,.sl (x.aG.map encS)]++(x.fBody.enc)
theorem bq.aA(x:bq):x.enc=[.s x.fName,.sl (x.aG.map encS)]++(x.fBody.enc):=rfl
theorem bq.eta(x:bq):bq.mk x.fName x.aG x.fBody=x:=rfl
theorem bq.ext'{x y:bq}(h0:x.fName=y.fName)(h1:x.aG=y.aG)(h2:x.fBody=y.fBody):x=y:=by
 cases x;cases y;simp_all
abbrev bq.v(x:bq):V:=.agg [.d (.s x.fName),.d (.sl (x.aG.map encS)),.d (.i .i64 x.fBody.aK),.d (.s x.fBody.bC),.d (.s x.fBody.fName),.d (.i .i64 x.fBody.fN),.d (.i .i64 x.fBody.fType.aK),.d (.s x.fBody.fType.fName),.d (.sl (x.fBody.fType.fArgs.map ak.enc)),.d (.sl (x.fBody.fArgs.map au.enc)),.d (.sl (x.fBody.aQ.map aR.enc))]
theorem bq.vv(x:bq): .agg (x.enc.map .d)=x.v:=by
 simp only[bq.aA,au.aA,ak.aA,List.map_cons,List.map_nil,List.cons_append,List.nil_append,List.map_append]
theorem bq.cK(x:bq):x.enc.length=11:=by
 simp only[bq.aA,au.cK,List.length_append,List.length_cons,List.length_nil]
def bq.sz(x:bq):Nat:=bT x.enc
theorem bq.d9(x:bq):bT x.enc=x.sz:=rfl
structure aP where
 bC:List UInt8
 aG:List (List UInt8)
 bQ:ak
 bY:List bn
 gJ:Bool
 dX:Bool
 bD:ak
 aJ:List bq
def aP.enc(x:aP):List D:=[.s x.bC,.sl (x.aG.map encS)]++(x.bQ.enc++([.sl (x.bY.map bn.enc),.b x.gJ,.b x.dX]++(x.bD.enc++([.sl (x.aJ.map bq.enc)]))))
theorem aP.aA(x:aP):x.enc=[.s x.bC,.sl (x.aG.map encS)]++(x.bQ.enc++([.sl (x.bY.map bn.enc),.b x.gJ,.b x.dX]++(x.bD.enc++([.sl (x.aJ.map bq.enc)])))):=rfl
theorem aP.eta(x:aP):aP.mk x.bC x.aG x.bQ x.bY x.gJ x.dX x.bD x.aJ=x:=rfl
theorem aP.ext'{x y:aP}(h0:x.bC=y.bC)(h1:x.aG=y.aG)(h2:x.bQ=y.bQ)(h3:x.bY=y.bY)(h4:x.gJ=y.gJ)(h5:x.dX=y.dX)(h6:x.bD=y.bD)(h7:x.aJ=y.aJ):x=y:=by
 cases x;cases y;simp_all
abbrev aP.v(x:aP):V:=.agg [.d (.s x.bC),.d (.sl (x.aG.map encS)),.d (.i .i64 x.bQ.aK),.d (.s x.bQ.fName),.d (.sl (x.bQ.fArgs.map ak.enc)),.d (.sl (x.bY.map bn.enc)),.d (.b x.gJ),.d (.b x.dX),.d (.i .i64 x.bD.aK),.d (.s x.bD.fName),.d (.sl (x.bD.fArgs.map ak.enc)),.d (.sl (x.aJ.map bq.enc))]
theorem aP.vv(x:aP): .agg (x.enc.map .d)=x.v:=by
 simp only[aP.aA,ak.aA,List.map_cons,List.map_nil,List.cons_append,List.nil_append,List.map_append]
theorem aP.cK(x:aP):x.enc.length=12:=by
 simp only[aP.aA,ak.cK,List.length_append,List.length_cons,List.length_nil]
def aP.sz(x:aP):Nat:=bT x.enc
theorem aP.d9(x:aP):bT x.enc=x.sz:=rfl
structure bL where
 fName:List UInt8
 fType:ak
def bL.enc(x:bL):List D:=[.s x.fName]++(x.fType.enc)
theorem bL.aA(x:bL):x.enc=[.s x.fName]++(x.fType.enc):=rfl
theorem bL.eta(x:bL):bL.mk x.fName x.fType=x:=rfl
theorem bL.ext'{x y:bL}(h0:x.fName=y.fName)(h1:x.fType=y.fType):x=y:=by
 cases x;cases y;simp_all
abbrev bL.v(x:bL):V:=.agg [.d (.s x.fName),.d (.i .i64 x.fType.aK),.d (.s x.fType.fName),.d (.sl (x.fType.fArgs.map ak.enc))]
theorem bL.vv(x:bL): .agg (x.enc.map .d)=x.v:=by
 simp only[bL.aA,ak.aA,List.map_cons,List.map_nil,List.cons_append,List.nil_append,List.map_append]
theorem bL.cK(x:bL):x.enc.length=4:=by
 simp only[bL.aA,ak.cK,List.length_append,List.length_cons,List.length_nil]
def bL.sz(x:bL):Nat:=bT x.enc
theorem bL.d9(x:bL):bT x.enc=x.sz:=rfl
structure aU where
 fName:List UInt8
 aG:List (List UInt8)
 bY:List bn
 aW:List bL
 bP:ak
 fBody:au
def aU.enc(x:aU):List D:=[.s x.fName,.sl (x.aG.map encS),.sl (x.bY.map bn.enc),.sl (x.aW.map bL.enc)]++(x.bP.enc++(x.fBody.enc))
theorem aU.aA(x:aU):x.enc=[.s x.fName,.sl (x.aG.map encS),.sl (x.bY.map bn.enc),.sl (x.aW.map bL.enc)]++(x.bP.enc++(x.fBody.enc)):=rfl
theorem aU.eta(x:aU):aU.mk x.fName x.aG x.bY x.aW x.bP x.fBody=x:=rfl
theorem aU.ext'{x y:aU}(h0:x.fName=y.fName)(h1:x.aG=y.aG)(h2:x.bY=y.bY)(h3:x.aW=y.aW)(h4:x.bP=y.bP)(h5:x.fBody=y.fBody):x=y:=by
 cases x;cases y;simp_all
abbrev aU.v(x:aU):V:=.agg [.d (.s x.fName),.d (.sl (x.aG.map encS)),.d (.sl (x.bY.map bn.enc)),.d (.sl (x.aW.map bL.enc)),.d (.i .i64 x.bP.aK),.d (.s x.bP.fName),.d (.sl (x.bP.fArgs.map ak.enc)),.d (.i .i64 x.fBody.aK),.d (.s x.fBody.bC),.d (.s x.fBody.fName),.d (.i .i64 x.fBody.fN),.d (.i .i64 x.fBody.fType.aK),.d (.s x.fBody.fType.fName),.d (.sl (x.fBody.fType.fArgs.map ak.enc)),.d (.sl (x.fBody.fArgs.map au.enc)),.d (.sl (x.fBody.aQ.map aR.enc))]
theorem aU.vv(x:aU): .agg (x.enc.map .d)=x.v:=by
 simp only[aU.aA,au.aA,ak.aA,List.map_cons,List.map_nil,List.cons_append,List.nil_append,List.map_append]
theorem aU.cK(x:aU):x.enc.length=16:=by
 simp only[aU.aA,au.cK,ak.cK,List.length_append,List.length_cons,List.length_nil]
def aU.sz(x:aU):Nat:=bT x.enc
theorem aU.d9(x:aU):bT x.enc=x.sz:=rfl
structure aI where
 fName:List UInt8
 jv:List (List UInt8)
 dV:List bA
 aV:List aS
 dI:List aP
 cu:List aU
def aI.enc(x:aI):List D:=[.s x.fName,.sl (x.jv.map encS),.sl (x.dV.map bA.enc),.sl (x.aV.map aS.enc),.sl (x.dI.map aP.enc),.sl (x.cu.map aU.enc)]
theorem aI.aA(x:aI):x.enc=[.s x.fName,.sl (x.jv.map encS),.sl (x.dV.map bA.enc),.sl (x.aV.map aS.enc),.sl (x.dI.map aP.enc),.sl (x.cu.map aU.enc)]:=rfl
theorem aI.eta(x:aI):aI.mk x.fName x.jv x.dV x.aV x.dI x.cu=x:=rfl
theorem aI.ext'{x y:aI}(h0:x.fName=y.fName)(h1:x.jv=y.jv)(h2:x.dV=y.dV)(h3:x.aV=y.aV)(h4:x.dI=y.dI)(h5:x.cu=y.cu):x=y:=by
 cases x;cases y;simp_all
abbrev aI.v(x:aI):V:=.agg [.d (.s x.fName),.d (.sl (x.jv.map encS)),.d (.sl (x.dV.map bA.enc)),.d (.sl (x.aV.map aS.enc)),.d (.sl (x.dI.map aP.enc)),.d (.sl (x.cu.map aU.enc))]
theorem aI.vv(x:aI): .agg (x.enc.map .d)=x.v:=by
 simp only[aI.aA,List.map_cons,List.map_nil,List.cons_append,List.nil_append,List.map_append]
theorem aI.cK(x:aI):x.enc.length=6:=by
 simp only[aI.aA,List.length_append,List.length_cons,List.length_nil]
def aI.sz(x:aI):Nat:=bT x.enc
theorem aI.d9(x:aI):bT x.enc=x.sz:=rfl
structure dU where
 iN:List aI
def dU.enc(x:dU):List D:=[.sl (x.iN.map aI.enc)]
theorem dU.aA(x:dU):x.enc=[.sl (x.iN.map aI.enc)]:=rfl
theorem dU.eta(x:dU):dU.mk x.iN=x:=rfl
theorem dU.ext'{x y:dU}(h0:x.iN=y.iN):x=y:=by
 cases x;cases y;simp_all
abbrev dU.v(x:dU):V:=.agg [.d (.sl (x.iN.map aI.enc))]
theorem dU.vv(x:dU): .agg (x.enc.map .d)=x.v:=by
 simp only[dU.aA,List.map_cons,List.map_nil,List.cons_append,List.nil_append,List.map_append]
theorem dU.cK(x:dU):x.enc.length=1:=by
 simp only[dU.aA,List.length_append,List.length_cons,List.length_nil]
def dU.sz(x:dU):Nat:=bT x.enc
theorem dU.d9(x:dU):bT x.enc=x.sz:=rfl
structure eu where
 AO:Int
 fAt:Int
def eu.enc(x:eu):List D:=[.i .i64 x.AO,.i .i64 x.fAt]
theorem eu.aA(x:eu):x.enc=[.i .i64 x.AO,.i .i64 x.fAt]:=rfl
theorem eu.eta(x:eu):eu.mk x.AO x.fAt=x:=rfl
theorem eu.ext'{x y:eu}(h0:x.AO=y.AO)(h1:x.fAt=y.fAt):x=y:=by
 cases x;cases y;simp_all
abbrev eu.v(x:eu):V:=.agg [.d (.i .i64 x.AO),.d (.i .i64 x.fAt)]
theorem eu.vv(x:eu): .agg (x.enc.map .d)=x.v:=by
 simp only[eu.aA,List.map_cons,List.map_nil,List.cons_append,List.nil_append,List.map_append]
theorem eu.cK(x:eu):x.enc.length=2:=by
 simp only[eu.aA,List.length_append,List.length_cons,List.length_nil]
def eu.sz(x:eu):Nat:=bT x.enc
theorem eu.d9(x:eu):bT x.enc=x.sz:=rfl
attribute [go_sem] ak.aA eD.aA bn.aA au.aA aR.aA aj.aA aM.aA bA.aA aL.aA aS.aA bq.aA aP.aA bL.aA aU.aA aI.aA dU.aA eu.aA encS encI
def aav:List eD->List UInt8->Option ak
 |[],_=>none
 |b::bs,v=>if b.fVar=v then some b.fType else aav bs v
mutual
noncomputable def Ed(s:List eD):ak->ak->Option (List eD)
 | .mk k n a,t=>
   if k=1 then
    match aav s n with
    |some u=>if dec (u=t)=true then some s else none
    |none=>some (s++[⟨n,t⟩])
   else if k=t.aK/\n=t.fName/\a.length=t.fArgs.length then yA s a t.fArgs else none
noncomputable def yA(s:List eD):List ak->List ak->Option (List eD)
 |[],_=>some s
 |_::_,[]=>none
 |p::ps,t::ts=>
  match Ed s p t with
  |some s'=>yA s' ps ts
  |none=>none
end
mutual
def ak.cnt:ak->Nat
 | .mk _ _ a=>1+ak.eB a
def ak.eB:List ak->Nat
 |[]=>0
 |t::ts=>t.cnt+ak.eB ts
end
theorem ak.rE(t:ak):t.cnt=1+ak.eB t.fArgs:=by cases t;rw[ak.cnt];rfl
mutual
theorem nu:∀t:ak,t.cnt<=1+t.sz
 | .mk k n a=>by
   have h:=zf a;rw[ak.cnt]
   have e:(ak.mk k n a).sz=n.length+(a.length+bf (a.map ak.enc)):=by
    simp only[ak.sz,ak.aA,bT,D.sz,List.length_map,ak.fName,ak.fArgs,Nat.add_zero,Nat.zero_add]
   omega
theorem zf:∀ts:List ak,ak.eB ts<=ts.length+bf (ts.map ak.enc)
 |[]=>by simp[ak.eB]
 |t::ts=>by
  have h1:=nu t;have h2:=zf ts;rw[ak.eB,List.length_cons,List.map_cons,bf,ak.d9];omega
end
mutual
theorem acv:∀(p:ak)(s:List eD)(t:ak)(s':List eD),Ed s p t=some s'->s'.length<=s.length+p.cnt
 | .mk k n a,s,t,s',h=>by
   rw[Ed] at h;rw[ak.cnt];split at h
   ·split at h
    ·split at h
     ·cases h;omega
     ·cases h
    ·cases h;simp
   ·split at h
    ·have:=OM a s t.fArgs s' h;omega
    ·cases h
theorem OM:∀(ps:List ak)(s:List eD)(ts:List ak)(s':List eD),yA s ps ts=some s'->s'.length<=s.length+ak.eB ps
 |[],s,ts,s',h=>by rw[yA] at h;cases h;omega
 |p::ps,s,[],s',h=>by rw[yA] at h;cases h
 |p::ps,s,t::ts,s',h=>by
  rw[yA] at h;rw[ak.eB]
  cases hm:Ed s p t with
  |none=>rw[hm] at h;cases h
  |some s1=>
   rw[hm] at h;have h1:=acv p s t s1 hm;have h2:=OM ps s1 ts s' h;omega
end
def Small(s:List eD):Prop:=∀b∈s,b.fType.sz<=4194304
mutual
theorem WA:∀(p:ak)(s:List eD)(t:ak)(s':List eD),t.sz<=4194304->Small s->Ed s p t=some s'->Small s'
 | .mk k n a,s,t,s',ht,hs,h=>by
   rw[Ed] at h;split at h
   ·split at h
    ·split at h
     ·cases h;exact hs
     ·cases h
    ·cases h;intro b hb;rcases List.mem_append.1 hb with hb|hb
     ·exact hs b hb
     ·simp at hb;subst hb;exact ht
   ·split at h
    ·refine JV a s t.fArgs s' ?_ hs h;intro x hx;have h1:=dA (List.mem_map_of_mem (f:=ak.enc) hx)
     have h2:t.sz=t.fName.length+(t.fArgs.length+bf (t.fArgs.map ak.enc)):=by
      simp only[ak.sz,ak.aA,bT,bK,D.sz,List.length_map,Nat.add_zero,Nat.zero_add]
     rw[ak.d9] at h1;omega
    ·cases h
theorem JV:∀(ps:List ak)(s:List eD)(ts:List ak)(s':List eD),(∀t∈ts,t.sz<=4194304)->Small s->yA s ps ts=some s'->Small s'
 |[],s,ts,s',ht,hs,h=>by rw[yA] at h;cases h;exact hs
 |p::ps,s,[],s',ht,hs,h=>by rw[yA] at h;cases h
 |p::ps,s,t::ts,s',ht,hs,h=>by
  rw[yA] at h
  cases hm:Ed s p t with
  |none=>rw[hm] at h;cases h
  |some s1=>
   rw[hm] at h;exact JV ps s1 ts s' (fun x hx=>ht x (by simp[hx])) (WA p s t s1 (ht t (by simp)) hs hm) h
end
def lowerB(b:UInt8):Prop:=97<=b.toNat/\b.toNat<=122
def tq(b:UInt8):Prop:=48<=b.toNat/\b.toNat<=57
def WB(s:List UInt8):Prop:=∀i,i<s.length->lowerB (s.getD i 0)\/(i≠0/\tq (s.getD i 0))
def reserved:List (List UInt8):=[[105,110,116],[98,111,111,108],[97,115,115,111,99],[100,121,110],[105,102],[108,101,116],[99,97,115,101],[110,101,119],[109,101,116,104,111,100],[112,97,99,107],[116,114,117,101],[102,97,108,115,101]]
noncomputable def validName(s:List UInt8):Bool:=dec ((1<=s.length/\s.length<=8)/\s∉reserved/\WB s)
noncomputable def yP(s:List UInt8):Bool:=dec (s=[105,110,116]\/s=[98,111,111,108])
noncomputable def yB(xs:List (List UInt8))(s:List UInt8):Int:=if s∈xs then((xs.findIdx fun x=>dec (x=s):Nat):Int) else -1
theorem Zl{xs:List (List UInt8)}{s:List UInt8}{i:Nat}(hi:i<xs.length)(hj:∀j,j<i->xs.getD j []≠s)(h:xs.getD i []=s):yB xs s=i:=by
 have e:∀j,∀hj:j<xs.length,xs.getD j []=xs[j]:=fun j hj=>by simp[List.getD,hj]
 have hm:s∈xs:=by rw[<-h,e i hi];exact List.getElem_mem hi
 unfold yB;rw[if_pos hm];congr 1;rw[List.findIdx_eq hi];exact⟨aZ (by rw[<-e i hi];exact h),fun j hji=>aB (by rw[<-e j (by omega)];exact hj j hji)⟩
theorem afi{xs:List (List UInt8)}{s:List UInt8}(hj:∀j,j<xs.length->xs.getD j []≠s):yB xs s= -1:=by
 unfold yB;refine if_neg fun hm=> ?_;obtain⟨j,h1,h2⟩:=List.getElem_of_mem hm;exact hj j h1 (by simp[List.getD,h1,h2])
theorem OO{xs:List (List UInt8)}{s:List UInt8}:decide (yB xs s>=0)=dec (s∈xs):=by
 rw[kE];refine iB ?_;unfold yB;split
 ·rename_i h;exact⟨fun _=>h,fun _=>by omega⟩
 ·rename_i h;exact⟨fun x=>by omega,fun x=>absurd x h⟩
def uL{α:Type}(p:α->Bool)(xs:List α):Int:=if xs.any p then((xs.findIdx p:Nat):Int) else -1
theorem uf{α:Type}{p:α->Bool}{xs:List α}{i:Nat}(hi:i<xs.length)(hj:∀j,∀hj:j<xs.length,j<i->p xs[j]=false)(h:p xs[i]=true):uL p xs=i:=by
 unfold uL;rw[if_pos (List.any_eq_true.2 ⟨xs[i],List.getElem_mem hi,h⟩)];congr 1;rw[List.findIdx_eq hi];exact⟨h,fun j hji=>hj j (by omega) hji⟩
theorem wU{α:Type}{p:α->Bool}{xs:List α}(hj:∀j,∀hj:j<xs.length,p xs[j]=false):uL p xs= -1:=by
 unfold uL;refine if_neg fun h=> ?_;obtain⟨x,hx,hp⟩:=List.any_eq_true.1 h;obtain⟨j,h1,h2⟩:=List.getElem_of_mem hx;rw[<-h2,hj j h1] at hp;cases hp
theorem vw{α:Type}{p:α->Bool}{xs:List α}:decide (uL p xs>=0)=xs.any p:=by
 unfold uL
 cases h:xs.any p with
 |true=>simp
 |false=>simp
noncomputable def Dl(k:Int)(n:List UInt8)(len:Nat):Bool:=
 dec ((k=1\/k=4)/\validName n=true/\len=0\/k=3/\validName n=true/\len=1\/k=2/\(validName n=true/\len<=3\/yP n=true/\len=0))
mutual
noncomputable def formed:ak->Bool
 | .mk k n a=>Dl k n a.length&&jm a
noncomputable def jm:List ak->Bool
 |[]=>true
 |t::ts=>formed t&&jm ts
end
theorem zh(t:ak):formed t=(Dl t.aK t.fName t.fArgs.length&&jm t.fArgs):=by cases t;rw[formed];rfl
theorem yC:∀{ts:List ak},jm ts=true<->∀t∈ts,formed t=true
 |[]=>by simp[jm]
 |t::ts=>by simp[jm,yC (ts:=ts)]
theorem Mv:∀{ts:List ak},(ts.any fun t=> !formed t)= !jm ts
 |[]=>rfl
 |t::ts=>by rw[List.any_cons,Mv (ts:=ts),jm];simp
mutual
def oC:ak->Nat
 | .mk _ _ a=>depths a
def depths:List ak->Nat
 |[]=>0
 |t::ts=>max (oC t+1) (depths ts)
end
theorem SF(t:ak):oC t=depths t.fArgs:=by cases t;rw[oC];rfl
mutual
theorem BZ:∀t:ak,oC t+1<=t.cnt
 | .mk k n a=>by
   have:=SG a;rw[oC,ak.cnt];omega
theorem SG:∀ts:List ak,depths ts<=ak.eB ts
 |[]=>by simp[depths]
 |t::ts=>by
  have h1:=BZ t;have h2:=SG ts;rw[depths,ak.eB];omega
end
noncomputable def pq(t:ak):Bool:=dec (formed t=true/\oC t<=6/\t.cnt<=60)
def bJ(s:List UInt8):aj:=.mk s []
def bB(l:List aj):aj:=.mk [] l
def aN(l:List (List UInt8)):List aj:=l.map bJ
def bZ:aj:=.mk [] []
theorem kY(s:List UInt8):(bJ s).aO=s:=rfl
theorem kZ(s:List UInt8):(bJ s).ah=[]:=rfl
theorem dW(l:List aj):(bB l).aO=[]:=rfl
theorem dG(l:List aj):(bB l).ah=l:=rfl
def Ia:List UInt8:=[100,121,110]
def iZ:List UInt8:=[97,115,115,111,99]
mutual
def cB:ak->aj
 | .mk k n zs=>if k=1 then bJ ([39]++n) else if k=4 then bB [bJ Ia,bJ n] else if k=2/\zs.length=0 then bJ n else
   bB ((if k=3 then [bJ iZ] else [])++[bJ n]++Ee zs)
def Ee:List ak->List aj
 |[]=>[]
 |t::ts=>cB t::Ee ts
end
theorem wV:∀l,Ee l=l.map cB
 |[]=>rfl
 |t::ts=>by rw[Ee,List.map_cons,wV ts]
theorem afj(x:ak):cB x=if x.aK=1 then bJ ([39]++x.fName) else if x.aK=4 then bB [bJ Ia,bJ x.fName] else if x.aK=2/\x.fArgs.length=0 then bJ x.fName else
 bB ((if x.aK=3 then [bJ iZ] else [])++[bJ x.fName]++x.fArgs.map cB):=by
 cases x;rw[cB,wV];rfl
theorem wW{t:ak}(h:pq t=true):formed t=true:=(gH h).1
theorem jZ(x:aj):x.sz=x.aO.length+(x.ah.length+bf (x.ah.map aj.enc)):=by
 simp only[aj.sz,aj.aA,bT,D.sz,List.length_map];omega
def dx:List aj->Nat
 |[]=>0
 |x::xs=>x.sz+dx xs
theorem mH:∀l,bf (l.map aj.enc)=dx l
 |[]=>rfl
 |x::xs=>by rw[List.map_cons,bf,dx,mH xs];rfl
theorem jS:∀a b,dx (a++b)=dx a+dx b
 |[],b=>by simp[dx]
 |x::a,b=>by rw[List.cons_append,dx,dx,jS a b];omega
theorem iT{x:aj}:∀{l:List aj},x∈l->x.sz<=dx l
 |y::l,h=>by
  rw[dx];rcases List.mem_cons.1 h with rfl|h
  ·omega
  ·have:=iT h;omega
theorem jU(s:List UInt8):(bJ s).sz=s.length:=by rw[jZ];simp[bJ,aj.aO,aj.ah,bf]
theorem jJ(l:List aj):(bB l).sz=l.length+dx l:=by rw[jZ,mH];simp[bB,aj.aO,aj.ah]
theorem tu:∀l:List (List UInt8),dx (aN l)=(l.map List.length).sum
 |[]=>rfl
 |s::l=>by rw[aN,List.map_cons,dx,jU,<-aN,tu l,List.map_cons,List.sum_cons]
theorem jQ(l:List (List UInt8)):(aN l).length=l.length:=by simp[aN]
theorem dK:∀l:List (List UInt8),bf (l.map encS)=(l.map List.length).sum
 |[]=>rfl
 |s::l=>by rw[List.map_cons,bf,dK l,List.map_cons,List.sum_cons];simp[encS,bT,D.sz]
def uT:List ak->Nat
 |[]=>0
 |x::xs=>x.sz+uT xs
theorem AP:∀l,bf (l.map ak.enc)=uT l
 |[]=>rfl
 |x::xs=>by rw[List.map_cons,bf,uT,AP xs];rfl
theorem wX(x:ak):x.sz=x.fName.length+(x.fArgs.length+uT x.fArgs):=by
 rw[<-AP];simp only[ak.sz,ak.aA,bT,D.sz,List.length_map];omega
mutual
theorem Ca:∀x:ak,(cB x).sz<=12+16*x.sz
 | .mk k n zs=>by
   have h:=Rh zs;rw[wX];simp only[ak.fName,ak.fArgs];rw[cB];split
   ·rw[jU];simp;omega
   ·split
    ·rw[jJ];simp[dx,jU,Ia];omega
    ·split
     ·rw[jU];omega
     ·rw[jJ,jS,jS,List.length_append,List.length_append,wV,List.length_map,<-wV];split<;>simp[dx,jU,iZ]<;>omega
theorem Rh:∀xs:List ak,dx (Ee xs)<=12*xs.length+16*uT xs
 |[]=>by simp[Ee,dx]
 |x::xs=>by
  have h1:=Ca x;have h2:=Rh xs;rw[Ee,dx,uT,List.length_cons];omega
end
theorem OP(xs:List ak):dx (xs.map cB)<=12*xs.length+16*uT xs:=by rw[<-wV];exact Rh xs
def bS(b:UInt8):Bool:=decide (97<=b.toNat/\b.toNat<=122)||decide (48<=b.toNat/\b.toNat<=57)||decide (b∈([39,45,43,42,60,61,46]:List UInt8))
def validAtom(s:List UInt8):Bool:=s.all bS&&decide (1<=s.length/\s.length<=12)
mutual
def iO:aj->Bool
 | .mk a l=>if a=[] then jA l else validAtom a&&decide (l.length=0)
def jA:List aj->Bool
 |[]=>true
 |x::xs=>iO x&&jA xs
end
mutual
def lg:aj->Nat
 | .mk a l=>if a=[] then mY l+1 else 0
def mY:List aj->Nat
 |[]=>0
 |x::xs=>max (lg x) (mY xs)
end
mutual
def ji:aj->Nat
 | .mk _ l=>j6 l+1
def j6:List aj->Nat
 |[]=>0
 |x::xs=>ji x+j6 xs
end
theorem Ef(x:aj):iO x=if x.aO=[] then jA x.ah else validAtom x.aO&&decide (x.ah.length=0):=by cases x;rw[iO];rfl
theorem SH(x:aj):lg x=if x.aO=[] then mY x.ah+1 else 0:=by cases x;rw[lg];rfl
theorem WC(x:aj):ji x=j6 x.ah+1:=by cases x;rw[ji];rfl
theorem OQ:∀{l:List aj},(l.any fun t=> !iO t)= !jA l
 |[]=>rfl
 |t::ts=>by rw[List.any_cons,OQ (l:=ts),jA];simp
theorem Dm:∀{l:List aj},jA l=true<->∀t∈l,iO t=true
 |[]=>by simp[jA]
 |t::ts=>by simp[jA,Dm (l:=ts)]
mutual
theorem FH:∀x:aj,lg x<=ji x
 | .mk a l=>by
   have:=JW l;rw[lg,ji];split<;>omega
theorem JW:∀l:List aj,mY l<=j6 l
 |[]=>by simp[mY]
 |x::xs=>by
  have h1:=FH x;have h2:=JW xs;rw[mY,j6];omega
end
mutual
theorem WE:∀x:aj,ji x<=x.sz+1
 | .mk a l=>by
   have:=SI l;rw[jZ,ji,mH];simp only[aj.aO,aj.ah];omega
theorem SI:∀l:List aj,j6 l<=l.length+dx l
 |[]=>by simp[j6]
 |x::xs=>by
  have h1:=WE x;have h2:=SI xs;rw[j6,dx,List.length_cons];omega
end
def fQ(x:aj):Bool:=iO x&&decide (lg x<=14/\ji x<=900)
mutual
theorem WG:∀x:aj,iO x=true->x.sz+1<=13*ji x
 | .mk a l=>fun h=>by
   rw[iO] at h;rw[jZ,ji,mH];simp only[aj.aO,aj.ah];split at h
   ·rename_i ha;have:=SK l h;subst ha;simp only[List.length_nil];omega
   ·rw[Bool.and_eq_true,decide_eq_true_eq] at h;have h1:=h.1;unfold validAtom at h1;rw[Bool.and_eq_true,decide_eq_true_eq] at h1;have:l=[]:=List.eq_nil_of_length_eq_zero h.2;subst this;simp[dx];omega
theorem SK:∀l:List aj,jA l=true->l.length+dx l<=13*j6 l
 |[],_=>by simp[dx]
 |x::xs,h=>by
  rw[jA,Bool.and_eq_true] at h;have h1:=WG x h.1;have h2:=SK xs h.2;rw[dx,j6,List.length_cons];omega
end
theorem tC{x:aj}(h:fQ x=true):x.sz<=11700:=by
 unfold fQ at h;rw[Bool.and_eq_true,decide_eq_true_eq] at h;have:=WG x h.1;omega
def Eh(x:aj):aj:=if fQ x=true then x else bZ
def wY:Bool->aj->aj
 |true,x=>Eh x
 |false,_=>bZ
theorem anD(x:aj):(Eh x).sz<=11700:=by
 unfold Eh;split
 ·rename_i h;exact tC h
 ·rw[jZ];simp[bZ,aj.aO,aj.ah,bf]
theorem Ls(b:Bool)(x:aj):(wY b x).sz<=11700:=by
 cases b with
 |true=>exact anD x
 |false=>rw[wY,jZ];simp[bZ,aj.aO,aj.ah,bf]
def lX(b:UInt8):Bool:=decide (b.toNat=32)||decide (b.toNat=10)
def gD(l:List UInt8):List UInt8:=l.dropWhile lX
theorem zW(l:List UInt8):gD l <:+ l:=List.dropWhile_suffix _
theorem Cb(l:List UInt8):(gD l).length<=l.length:=(zW l).length_le
theorem acw{l u:List UInt8}{b:UInt8}(h:gD l=b::u):lX b=false:=by
 induction l with
 |nil=>cases h
 |cons a l ih=>
  unfold gD at h ih;rw[List.dropWhile_cons] at h;split at h
  ·exact ih h
  ·rename_i h1;injection h with h2 h3;subst h2;simpa using h1
theorem wZ{b:UInt8}{u:List UInt8}(h:lX b=false):gD (b::u)=b::u:=by
 unfold gD;rw[List.dropWhile_cons,h];rfl
theorem Ib{b:UInt8}{u:List UInt8}(h:lX b=true):gD (b::u)=gD u:=by
 unfold gD;rw[List.dropWhile_cons,h];rfl
theorem WH{b:UInt8}(h:bS b=true):lX b=false/\b≠40/\b≠41:=by
 refine⟨?_,fun e=> ?_,fun e=> ?_⟩
 ·cases hb:lX b with
  |false=>rfl
  |true=>
   unfold lX at hb;unfold bS at h;simp only[Bool.or_eq_true,decide_eq_true_eq] at hb h;rcases hb with hb|hb
   ·obtain rfl:b=32:=UInt8.toNat_inj.1 hb;revert h;decide
   ·obtain rfl:b=10:=UInt8.toNat_inj.1 hb;revert h;decide
 ·subst e;revert h;decide
 ·subst e;revert h;decide
structure RS where
 t:List UInt8
 deep:Nat
 size:Nat
 bad:Bool
mutual
def lG:Nat->RS->aj×RS
 |0,r=>(bZ,⟨r.t,r.deep,r.size+1,true⟩)
 |n+1,r=>match gD r.t with
  |[]=>(bZ,⟨[],r.deep,r.size+1,true⟩)
  |b::u=>if 900<r.size+1 then(bZ,⟨b::u,r.deep,r.size+1,true⟩) else
   if bS b=true then(bJ (b::u.takeWhile bS),⟨u.dropWhile bS,r.deep,r.size+1,false⟩) else
   if b≠40\/r.deep=14 then(bZ,⟨b::u,r.deep,r.size+1,true⟩) else rP n ⟨u,r.deep+1,r.size+1,false⟩ []
def rP:Nat->RS->List aj->aj×RS
 |0,r,acc=>(bB acc,⟨r.t,r.deep,r.size,true⟩)
 |n+1,r,acc=>if r.bad=true then(bB acc,r) else
  if(gD r.t).head? =some 41 then(bB acc,⟨(gD r.t).tail,r.deep-1,r.size,false⟩) else
  rP n (lG n ⟨gD r.t,r.deep,r.size,false⟩).2 (acc++[(lG n ⟨gD r.t,r.deep,r.size,false⟩).1])
end
structure aqB(x:aj)(r r':RS):Prop where
 suf:r'.t <:+ r.t
 deep:r'.bad=false->r'.deep=r.deep
 low:r'.deep<=14
 size:r.size+1<=r'.size/\r'.size<=901
 sz:x.sz+1<=(r.t.length-r'.t.length)+(r'.size-r.size)
 go:r'.bad=false->r'.t.length<r.t.length/\r'.size<=900
structure aqC(acc:List aj)(x:aj)(r r':RS):Prop where
 suf:r'.t <:+ r.t
 deep:r'.bad=false->r'.deep=r.deep-1/\r.bad=false/\r'.size<=900
 low:r'.deep<=14
 size:r.size<=r'.size/\r'.size<=901
 sz:∃l,x=bB (acc++l)/\l.length+dx l<=(r.t.length-r'.t.length)+(r'.size-r.size)/\l.length<=r'.size-r.size
theorem Ri:∀n:Nat,(∀r:RS,r.deep<=14->r.size<=900->aqB (lG n r).1 r (lG n r).2)/\
 (∀(r:RS) (acc:List aj),r.deep<=14->r.size<=901->(r.bad=false->1<=r.deep/\r.size<=900)->aqC acc (rP n r acc).1 r (rP n r acc).2)
 |0=>by
  refine⟨fun r h1 h2=> ?_,fun r acc h1 h2 h3=> ?_⟩
  ·rw[lG];exact⟨List.suffix_refl _,(fun h=>by cases h),h1,⟨Nat.le_refl _,by simp only;omega⟩,by simp[bZ,jZ,aj.aO,aj.ah,bf],(fun h=>by cases h)⟩
  ·rw[rP];exact⟨List.suffix_refl _,(fun h=>by cases h),h1,⟨Nat.le_refl _,h2⟩,[],by rw[List.append_nil],by simp[dx],by simp⟩
 |n+1=>by
  obtain⟨ih1,ih2⟩:=Ri n
  have z0:bZ.sz=0:=by simp[bZ,jZ,aj.aO,aj.ah,bf]
  refine⟨fun r h1 h2=> ?_,fun r acc h1 h2 h3=> ?_⟩
  ·rw[lG];have hs:=zW r.t;split
   ·rename_i e;rw[e] at hs;exact⟨hs,(fun h=>by cases h),h1,⟨Nat.le_refl _,by simp only;omega⟩,by simp only[z0];omega,(fun h=>by cases h)⟩
   ·rename_i b u e;rw[e] at hs;have hl:=hs.length_le;rw[List.length_cons] at hl;split
    ·exact⟨hs,(fun h=>by cases h),h1,⟨Nat.le_refl _,by simp only;omega⟩,by simp only[z0];omega,(fun h=>by cases h)⟩
    ·split
     ·have hd:u.dropWhile bS <:+ u:=List.dropWhile_suffix _;have hdl:=hd.length_le
      have htd:(u.takeWhile bS).length+(u.dropWhile bS).length=u.length:=by
       rw[<-List.length_append,List.takeWhile_append_dropWhile]
      refine⟨(hd.trans (List.suffix_cons b u)).trans hs,fun _=>rfl,h1,⟨Nat.le_refl _,by simp only;omega⟩,?_,fun _=> ?_⟩
      ·rw[jU,List.length_cons];simp only;omega
      ·simp only;omega
     ·split
      ·exact⟨hs,(fun h=>by cases h),h1,⟨Nat.le_refl _,by simp only;omega⟩,by simp only[z0];omega,(fun h=>by cases h)⟩
      ·have hc:=ih2 ⟨u,r.deep+1,r.size+1,false⟩ [] (by simp only;omega) (by simp only;omega) (fun _=>by simp only;omega);obtain⟨c1,c2,c3,c4,l,c5,c6,c7⟩:=hc;have c8:=c1.length_le;simp only at c1 c2 c4 c6 c7 c8;refine⟨(c1.trans (List.suffix_cons b u)).trans hs,fun h=>by rw[(c2 h).1];omega,c3,⟨by omega,c4.2⟩,?_,fun h=>⟨by omega,(c2 h).2.2⟩⟩;rw[c5,List.nil_append,jJ];omega
  ·rw[rP];have hs:=zW r.t;have hl:=hs.length_le;split
   ·exact⟨List.suffix_refl _,(fun h=>by rename_i hb;rw[hb] at h;cases h),h1,⟨Nat.le_refl _,h2⟩,[],by rw[List.append_nil],by simp[dx],by simp⟩
   ·rename_i hb
    have hb':r.bad=false:=by simpa using hb
    have h3':=h3 hb';split
    ·have ht:(gD r.t).tail <:+ gD r.t:=List.tail_suffix _;refine⟨ht.trans hs,fun _=>⟨rfl,hb',h3'.2⟩,by simp only;omega,⟨Nat.le_refl _,h2⟩,[],by rw[List.append_nil],by simp[dx],by simp⟩
    ·have hc:=ih1 ⟨gD r.t,r.deep,r.size,false⟩ h1 h3'.2;obtain⟨x,hx⟩:∃x,x=lG n ⟨gD r.t,r.deep,r.size,false⟩:=⟨_,rfl⟩;rw[<-hx] at hc ⊢;clear hx;obtain⟨c1,c2,c3,c4,c5,c6⟩:=hc;simp only at c1 c2 c4 c5 c6;have c7:=c1.length_le;obtain⟨d1,d2,d3,d4,l,d5,d6,d7⟩:=ih2 x.2 (acc++[x.1]) c3 c4.2 (fun hq=>⟨by rw[c2 hq];exact h3'.1,(c6 hq).2⟩);have d8:=d1.length_le;refine⟨(d1.trans c1).trans hs,fun hq=>⟨by rw[(d2 hq).1,c2 (d2 hq).2.1],hb',(d2 hq).2.2⟩,d3,⟨by omega,d4.2⟩,x.1::l,by rw[d5,List.append_assoc];rfl,?_,?_⟩
     ·rw[List.length_cons,dx];omega
     ·rw[List.length_cons];omega
inductive Tok where
 |op
 |cl
 |wd (b:UInt8) (u:List UInt8)
 |no
def FI:Nat->List UInt8->List Tok
 |0,_=>[]
 |n+1,l=>match gD l with
  |[]=>[]
  |b::u=>if bS b=true then .wd b (u.takeWhile bS)::FI n (u.dropWhile bS) else if b=40 then .op::FI n u else if b=41 then .cl::FI n u else [.no]
theorem Lu:∀(n m:Nat)(l:List UInt8),l.length<n->l.length<m->FI n l=FI m l
 |0,m,l,h,_=>by omega
 |n+1,0,l,_,h=>by omega
 |n+1,m+1,l,h1,h2=>by
  rw[FI,FI];have hs:=Cb l;split
  ·rfl
  ·rename_i b u e;rw[e,List.length_cons] at hs;have hd:(u.dropWhile bS).length<=u.length:=(List.dropWhile_suffix bS).length_le;rw[Lu n m u (by omega) (by omega),Lu n m (u.dropWhile bS) (by omega) (by omega)]
def lex(l:List UInt8):List Tok:=FI (l.length+1) l
theorem lex_nil{l:List UInt8}(h:gD l=[]):lex l=[]:=by
 unfold lex;rw[FI,h]
theorem nK{l u:List UInt8}{b:UInt8}(h:gD l=b::u):lex l=if bS b=true then .wd b (u.takeWhile bS)::lex (u.dropWhile bS) else if b=40 then .op::lex u else if b=41 then .cl::lex u else [.no]:=by
 have hs:=Cb l;rw[h,List.length_cons] at hs;have hd:(u.dropWhile bS).length<=u.length:=(List.dropWhile_suffix bS).length_le;unfold lex;rw[FI,h]
 simp only
 rw[Lu _ (u.length+1) u (by omega) (by omega),Lu _ ((u.dropWhile bS).length+1) (u.dropWhile bS) (by omega) (by omega)]
theorem AQ(l:List UInt8):lex (gD l)=lex l:=by
 cases h:gD l with
 |nil=>rw[lex_nil h];rfl
 |cons b u=>rw[nK h,nK (l:=b::u) (wZ (acw h))]
theorem alC{l:List UInt8}(h:lex l=[]):gD l=[]:=by
 cases e:gD l with
 |nil=>rfl
 |cons b u=>
  rw[nK e] at h;split at h
  ·cases h
  ·split at h
   ·cases h
   ·split at h<;>cases h
mutual
def uw:aj->List Tok
 | .mk [] l=>.op::kL l++[.cl]
 | .mk (b::u) _=>[.wd b u]
def kL:List aj->List Tok
 |[]=>[]
 |x::xs=>uw x++kL xs
end
theorem CB:∀a b,kL (a++b)=kL a++kL b
 |[],b=>rfl
 |x::a,b=>by rw[List.cons_append,kL,kL,CB a b,List.append_assoc]
theorem OT(l:List aj):uw (bB l)=.op::kL l++[.cl]:=by unfold bB;rw[uw]
theorem OU(b:UInt8)(u:List UInt8):uw (bJ (b::u))=[.wd b u]:=by unfold bJ;rw[uw]
theorem OV:∀n:Nat,(∀r:RS,(lG n r).2.bad=false->lex r.t=uw (lG n r).1++lex (lG n r).2.t)/\
 (∀(r:RS) (acc:List aj),(rP n r acc).2.bad=false->∃l,(rP n r acc).1=bB (acc++l)/\lex r.t=kL l++ .cl::lex (rP n r acc).2.t)
 |0=>⟨fun r h=>(by rw[lG] at h;cases h),fun r acc h=>(by rw[rP] at h;cases h)⟩
 |n+1=>by
  obtain⟨ih1,ih2⟩:=OV n;refine⟨fun r h=> ?_,fun r acc h=> ?_⟩
  ·rw[lG] at h ⊢;split at h
   ·cases h
   ·rename_i b u e;split at h
    ·cases h
    ·rename_i h1;rw[nK e];simp only[h1,if_false];split at h
     ·rename_i h2;rw[if_pos h2];simp only[h2,if_true];rw[OU];rfl
     ·rename_i h2;split at h
      ·cases h
      ·rename_i h3;have hb:b=40:=Classical.byContradiction fun hb=>h3 (.inl hb);simp only[if_neg h2,if_neg h3,if_pos hb];obtain⟨l,q1,q2⟩:=ih2 _ [] h;rw[q1,List.nil_append,OT];simp only at q2;rw[q2]
       simp
  ·rw[rP] at h ⊢;split at h
   ·rename_i hb;rw[hb] at h;cases h
   ·rename_i hb;rw[if_neg hb];split at h
    ·rename_i h1;rw[if_pos h1];refine⟨[],by rw[List.append_nil],?_⟩
     cases e:gD r.t with
     |nil=>rw[e] at h1;cases h1
     |cons b u=>
      rw[e] at h1
      have hb:b=41:=by simpa using h1
      subst hb;rw[nK e];rfl
    ·rename_i h1;rw[if_neg h1];obtain⟨l,q1,q2⟩:=ih2 _ _ h
     have hx:(lG n ⟨gD r.t,r.deep,r.size,false⟩).2.bad=false:=by
      cases hq:(lG n ⟨gD r.t,r.deep,r.size,false⟩).2.bad with
      |false=>rfl
      |true=>
       exfalso;revert h
       cases n with
       |zero=>rw[rP];simp
       |succ n=>rw[rP,if_pos hq,hq];simp
     have h2:=ih1 _ hx;simp only at h2;rw[AQ] at h2;refine⟨(lG n ⟨gD r.t,r.deep,r.size,false⟩).1::l,by rw[q1,List.append_assoc];rfl,?_⟩;rw[h2,q2,kL,List.append_assoc]
mutual
theorem SL:∀(x:aj),iO x=true->∀(r:RS)(k:List Tok),lex r.t=uw x++k->r.size+ji x<=900->r.deep+lg x<=14->
 ∃(N:Nat) (u:List UInt8),lex u=k/\∀n,N<=n->lG n r=(x,⟨u,r.deep,r.size+ji x,false⟩)
 | .mk a l=>fun hf r k hk hn hd=>by
   cases a with
   |nil=>
    rw[uw] at hk
    have hf':jA l=true:=by rw[iO,if_pos rfl] at hf;exact hf
    have hn':r.size+(j6 l+1)<=900:=by rw[ji] at hn;exact hn
    have hd':r.deep+(mY l+1)<=14:=by rw[lg,if_pos rfl] at hd;exact hd
    cases e:gD r.t with
    |nil=>rw[lex_nil e] at hk;simp at hk
    |cons b u=>
     rw[nK e] at hk
     have hb:bS b=false/\b=40/\lex u=kL l++ .cl::k:=by
      split at hk
      ·simp at hk
      ·rename_i h1;split at hk
       ·rename_i h2;exact⟨by simpa using h1,h2,by simpa using hk⟩
       ·split at hk<;>simp at hk
     obtain⟨N,v,h1,h2⟩:=OW l hf' ⟨u,r.deep+1,r.size+1,false⟩ [] k hb.2.2 rfl (by simp only;omega) (by simp only;omega);refine⟨N+1,v,h1,fun n hN=> ?_⟩
     cases n with
     |zero=>omega
     |succ n=>
      rw[lG,e]
      simp only
      rw[if_neg (by omega),if_neg (by rw[hb.1];decide),if_neg (by rw[hb.2.1];simp;omega),h2 n (by omega)];simp only[List.nil_append,Nat.add_sub_cancel,bB,ji];congr 2;omega
   |cons c v=>
    rw[uw] at hk
    have hf':validAtom (c::v)=true/\l=[]:=by
     rw[iO,if_neg (by simp)] at hf;simp only[Bool.and_eq_true,decide_eq_true_eq,List.length_eq_zero_iff] at hf;exact hf
    obtain⟨-,rfl⟩:=hf'
    cases e:gD r.t with
    |nil=>rw[lex_nil e] at hk;simp at hk
    |cons b u=>
     rw[nK e] at hk;split at hk
     ·rename_i h1;simp only[List.cons_append,List.nil_append,List.cons.injEq,Tok.wd.injEq] at hk;refine⟨1,u.dropWhile bS,hk.2,fun n hN=> ?_⟩
      cases n with
      |zero=>omega
      |succ n=>
       have hz:ji (.mk (c::v) [])=1:=rfl;rw[hz] at hn;rw[lG,e]
       simp only
       rw[if_neg (by omega),if_pos h1,hk.1.1,hk.1.2,hz];rfl
     ·split at hk
      ·simp at hk
      ·split at hk<;>simp at hk
theorem OW:∀(l:List aj),jA l=true->∀(r:RS)(acc:List aj)(k:List Tok),lex r.t=kL l++ .cl::k->r.bad=false->r.size+j6 l<=900->r.deep+mY l<=14->
 ∃(N:Nat) (u:List UInt8),lex u=k/\∀n,N<=n->rP n r acc=(bB (acc++l),⟨u,r.deep-1,r.size+j6 l,false⟩)
 |[]=>fun hf r acc k hk hb hn hd=>by
  rw[kL,List.nil_append] at hk
  cases e:gD r.t with
  |nil=>rw[lex_nil e] at hk;simp at hk
  |cons b u=>
   rw[nK e] at hk
   have hb':b=41/\lex u=k:=by
    split at hk
    ·simp at hk
    ·split at hk
     ·simp at hk
     ·split at hk
      ·rename_i h3;exact⟨h3,by simpa using hk⟩
      ·simp at hk
   refine⟨1,u,hb'.2,fun n hN=> ?_⟩
   cases n with
   |zero=>omega
   |succ n=>
    rw[rP,if_neg (by rw[hb];decide),if_pos (by rw[e,hb'.1];rfl),e,List.append_nil];rfl
 |x::l=>fun hf r acc k hk hb hn hd=>by
  rw[kL,List.append_assoc] at hk;rw[jA,Bool.and_eq_true] at hf;rw[j6] at hn;rw[mY] at hd;obtain⟨N,u,h1,h2⟩:=SL x hf.1 ⟨gD r.t,r.deep,r.size,false⟩ _ (by rw[AQ];exact hk) (by simp only;omega) (by simp only;omega);obtain⟨M,v,h3,h4⟩:=OW l hf.2 ⟨u,r.deep,r.size+ji x,false⟩ (acc++[x]) k h1 rfl (by simp only;omega) (by simp only;omega);refine⟨N+M+1,v,h3,fun n hN=> ?_⟩
  cases n with
  |zero=>omega
  |succ n=>
   have hne:(gD r.t).head? ≠some 41:=fun hq=>by
    cases e:gD r.t with
    |nil=>rw[e] at hq;cases hq
    |cons b w=>
     rw[e] at hq
     have aqD:b=41:=by simpa using hq
     rw[nK e,aqD] at hk
     cases x with|mk a l'=> ?_
     cases a with
     |nil=>rw[uw] at hk;revert hk;simp[show bS 41=false from by decide]
     |cons c v=>rw[uw] at hk;revert hk;simp[show bS 41=false from by decide]
   rw[rP,if_neg (by rw[hb];decide),if_neg hne,h2 n (by omega)]
   simp only
   rw[h4 n (by omega),List.append_assoc,j6];simp only[List.cons_append,List.nil_append];congr 2;omega
end
def yQ:Nat->List UInt8->List (List aj)->Nat->Option (List (List aj))
 |0,_,_,_=>none
 |_+1,[],rows,_=>some rows
 |n+1,b::u,rows,c=>if lX b=true then yQ n u rows c else
  if b=40 then(if 15<rows.length+1\/1800<c+1 then none else yQ n u ([]::rows) (c+1)) else
  if b=41 then(match rows with
   |x::y::z=>if 1800<c+1 then none else yQ n u ((y++[bB x])::z) (c+1)
   |_=>none) else
  if bS b=true then(match rows with
   |x::z=>if 1800<c+1 then none else yQ n (u.dropWhile bS) ((x++[bJ (b::u.takeWhile bS)])::z) (c+1)
   |[]=>none) else none
def runT:List Tok->List (List aj)->Nat->Option (List (List aj))
 |[],rows,_=>some rows
 | .op::k,rows,c=>if 15<rows.length+1\/1800<c+1 then none else runT k ([]::rows) (c+1)
 | .cl::k,x::y::z,c=>if 1800<c+1 then none else runT k ((y++[bB x])::z) (c+1)
 | .wd b u::k,x::z,c=>if 1800<c+1 then none else runT k ((x++[bJ (b::u)])::z) (c+1)
 |_,_,_=>none
theorem yR:∀(n:Nat)(l:List UInt8)(rows:List (List aj))(c:Nat),l.length<n->yQ n l rows c=runT (lex l) rows c
 |0,l,rows,c,h=>by omega
 |n+1,[],rows,c,h=>by rw[yQ,lex_nil rfl];rfl
 |n+1,b::u,rows,c,h=>by
  rw[List.length_cons] at h;have hd:(u.dropWhile bS).length<=u.length:=(List.dropWhile_suffix bS).length_le;rw[yQ.eq_def]
  simp only
  by_cases hb:lX b=true
  ·rw[if_pos hb,yR n u rows c (by omega),<-AQ (b::u),Ib hb,AQ]
  ·rw[if_neg hb]
   have hb':lX b=false:=by simpa using hb
   rw[nK (wZ hb')];by_cases OX:b=40
   ·subst OX;rw[if_pos rfl,if_neg (show ¬bS 40=true by decide),if_pos rfl,runT,yR n u _ _ (by omega)]
   ·rw[if_neg OX];by_cases SN:b=41
    ·subst SN;rw[if_pos rfl,if_neg (show ¬bS 41=true by decide),if_neg (show ¬(41:UInt8)=40 by decide),if_pos rfl]
     match rows with
     |[]=>simp[runT]
     |[x]=>simp[runT]
     |x::y::z=>simp only[runT];rw[yR n u _ _ (by omega)]
    ·rw[if_neg SN];by_cases ha:bS b=true
     ·rw[if_pos ha,if_pos ha]
      match rows with
      |[]=>simp[runT]
      |x::z=>simp only[runT];rw[yR n _ _ _ (by omega)]
     ·rw[if_neg ha,if_neg ha,if_neg OX,if_neg SN]
      cases rows with
      |nil=>simp[runT]
      |cons x z=>simp[runT]
def Bu:List (List aj)->List Tok
 |[]=>[]
 |x::z=>(if z=[] then [] else Bu z++[.op])++kL x
theorem Dn:∀(k:List Tok)(rows:List (List aj))(c:Nat)(out:List (List aj)),rows≠[]->runT k rows c=some out->out≠[]/\Bu out=Bu rows++k
 |[],rows,c,out,h0,h=>by
  rw[runT] at h;cases h;exact⟨h0,by rw[List.append_nil]⟩
 | .op::k,rows,c,out,h0,h=>by
   rw[runT] at h;split at h
   ·cases h
   ·obtain⟨a,b⟩:=Dn k _ _ out (by simp) h;refine⟨a,?_⟩;rw[b,Bu,if_neg h0,kL,List.append_nil,List.append_assoc];rfl
 | .cl::k,[],c,out,h0,h=>absurd rfl h0
 | .cl::k,[x],c,out,h0,h=>by simp[runT] at h
 | .cl::k,x::y::z,c,out,h0,h=>by
   rw[runT] at h;split at h
   ·cases h
   ·obtain⟨a,b⟩:=Dn k _ _ out (by simp) h;refine⟨a,?_⟩;rw[b,Bu,Bu,Bu,if_neg (by simp:¬y::z=[]),CB,kL,kL,List.append_nil,OT];simp only[List.append_assoc,List.cons_append,List.nil_append]
 | .wd b u::k,[],c,out,h0,h=>absurd rfl h0
 | .wd b u::k,x::z,c,out,h0,h=>by
   rw[runT] at h;split at h
   ·cases h
   ·obtain⟨a,e⟩:=Dn k _ _ out (by simp) h;refine⟨a,?_⟩;rw[e,Bu,Bu,CB,kL,kL,List.append_nil,OU];simp only[List.append_assoc,List.cons_append,List.nil_append]
 | .no::k,rows,c,out,h0,h=>by simp[runT] at h
mutual
theorem SQ:∀(x:aj),iO x=true->∀(k:List Tok)(r:List aj)(z:List (List aj))(c:Nat),z.length+1+lg x<=15->c+2*ji x<=1800->
 ∃d,d<=c+2*ji x/\runT (uw x++k) (r::z) c=runT k ((r++[x])::z) d
 | .mk [] l=>fun hf k r z c hd hc=>by
   rw[iO,if_pos rfl] at hf;rw[lg,if_pos rfl] at hd;rw[ji] at hc;obtain⟨d,h1,h2⟩:=OY l hf (.cl::k) [] (r::z) (c+1) (by rw[List.length_cons];omega) (by omega);refine⟨d+1,by rw[ji];omega,?_⟩;rw[uw,List.cons_append,List.cons_append,List.append_assoc];simp only[List.cons_append,List.nil_append];rw[runT,if_neg (by rw[List.length_cons];omega),h2,runT,if_neg (by omega)];rfl
 | .mk (b::u) l=>fun hf k r z c hd hc=>by
   rw[iO,if_neg (by simp)] at hf;simp only[Bool.and_eq_true,decide_eq_true_eq,List.length_eq_zero_iff] at hf;obtain⟨-,rfl⟩:=hf;have hz:ji (.mk (b::u) [])=1:=rfl;rw[hz] at hc ⊢;refine⟨c+1,by omega,?_⟩;rw[uw,List.cons_append,List.nil_append,runT,if_neg (by omega)];rfl
theorem OY:∀(l:List aj),jA l=true->∀(k:List Tok)(r:List aj)(z:List (List aj))(c:Nat),z.length+1+mY l<=15->c+2*j6 l<=1800->
 ∃d,d<=c+2*j6 l/\runT (kL l++k) (r::z) c=runT k ((r++l)::z) d
 |[]=>fun hf k r z c hd hc=>⟨c,by omega,by rw[kL,List.append_nil];rfl⟩
 |x::l=>fun hf k r z c hd hc=>by
  rw[jA,Bool.and_eq_true] at hf;rw[mY] at hd;rw[j6] at hc;obtain⟨d,h1,h2⟩:=SQ x hf.1 (kL l++k) r z c (by omega) (by omega);obtain⟨e,h3,h4⟩:=OY l hf.2 k (r++[x]) z d (by omega) (by omega);refine⟨e,by rw[j6];omega,?_⟩;rw[kL,List.append_assoc,h2,h4,List.append_assoc];rfl
end
def Denotes(s:List UInt8)(x:aj):Prop:=fQ x=true/\lex s=uw x
theorem JX{x:aj}(h:fQ x=true):iO x=true/\lg x<=14/\ji x<=900:=by
 unfold fQ at h;simpa using h
theorem Bv{s:List UInt8}{x:aj}(h:Denotes s x):yQ (s.length+1) s [[]] 0=some [[x]]:=by
 obtain⟨h1,h2,h3⟩:=JX h.1;obtain⟨d,_,h4⟩:=SQ x h1 [] [] [] 0 (by simp;omega) (by omega);rw[yR _ _ _ _ (Nat.lt_succ_self _),h.2,<-List.append_nil (uw x),h4];rfl
theorem Zm{s:List UInt8}{x y:aj}(h:Denotes s x)(h':Denotes s y):x=y:=by
 have:=(Bv h).symm.trans (Bv h');simpa using this
theorem Mw{s:List UInt8}{x:aj}(h:yQ (s.length+1) s [[]] 0=some [[x]])(hv:fQ x=true):Denotes s x:=by
 rw[yR _ _ _ _ (Nat.lt_succ_self _)] at h;obtain⟨_,h⟩:=Dn _ _ _ _ (by simp) h;simp only[Bu,if_true,List.nil_append,kL,List.append_nil] at h;exact⟨hv,h.symm⟩
open Classical in
noncomputable def lD(s:List UInt8):Bool:=dec (∃x,Denotes s x)
open Classical in
noncomputable def jB(s:List UInt8):aj:=if h:∃x,Denotes s x then h.choose else bZ
theorem Cc{s:List UInt8}{x:aj}(h:Denotes s x):lD s=true/\jB s=x:=by
 have h':∃x,Denotes s x:=⟨x,h⟩;refine⟨aZ h',?_⟩;unfold jB;rw[dif_pos h'];exact Zm h'.choose_spec h
theorem WI{s:List UInt8}(h:∀x,¬Denotes s x):lD s=false/\jB s=bZ:=by
 have h':¬∃x,Denotes s x:=fun⟨x,hx⟩=>h x hx;refine⟨aB h',?_⟩;unfold jB;rw[dif_neg h']
theorem Zn{s:List UInt8}(h:lD s=true):fQ (jB s)=true:=by
 obtain⟨x,hx⟩:=gH h;rw[(Cc hx).2];exact hx.1
def OZ(s:List UInt8):Nat:=2*s.length+2
theorem WJ(s:List UInt8):∃n,OZ s<=n/\dec ((lG n ⟨s,0,0,false⟩).2.bad=false/\gD (lG n ⟨s,0,0,false⟩).2.t=[]/\fQ (lG n ⟨s,0,0,false⟩).1=true)=lD s/\(lD s=true->(lG n ⟨s,0,0,false⟩).1=jB s):=by
 by_cases h:∃x,Denotes s x
 ·obtain⟨x,hx⟩:=h;obtain⟨h1,h2,h3⟩:=JX hx.1;obtain⟨N,u,hu,hN⟩:=SL x h1 ⟨s,0,0,false⟩ [] (by rw[List.append_nil];exact hx.2) (by simp only;omega) (by simp only;omega);refine⟨N+OZ s,by omega,?_,fun _=> ?_⟩
  ·rw[hN _ (by omega),(Cc hx).1];exact aZ ⟨rfl,alC hu,hx.1⟩
  ·rw[hN _ (by omega),(Cc hx).2]
 ·have hno:=WI (s:=s) fun x hx=>h ⟨x,hx⟩;refine⟨OZ s,Nat.le_refl _,?_,fun e=>by rw[hno.1] at e;cases e⟩;rw[hno.1];refine aB fun hq=>h ⟨_,hq.2.2,?_⟩;have:=(OV (OZ s)).1 ⟨s,0,0,false⟩ hq.1;simp only at this;rw[this,lex_nil hq.2.1,List.append_nil]
theorem JY(s:List UInt8):((∃x,yQ (s.length+1) s [[]] 0=some [[x]]/\fQ x=true)<->lD s=true)/\∀x,yQ (s.length+1) s [[]] 0=some [[x]]->fQ x=true->jB s=x:=
 ⟨⟨fun⟨x,h1,h2⟩=>(Cc (Mw h1 h2)).1,fun h=>by
   obtain⟨x,hx⟩:=gH h
   exact⟨x,Bv hx,hx.1⟩⟩,fun x h1 h2=>(Cc (Mw h1 h2)).2⟩
mutual
def rG:ak->List ak
 | .mk k n a=>.mk k n a::qC a
def qC:List ak->List ak
 |[]=>[]
 |t::ts=>rG t++qC ts
end
theorem Ce(t:ak):rG t=t::qC t.fArgs:=by cases t;rw[rG];rfl
theorem Bw{ts:List ak}{i:Nat}(hi:i<ts.length):qC (ts.drop i)=rG ts[i]++qC (ts.drop (i+1)):=by rw[List.drop_eq_getElem_cons hi,qC]
mutual
theorem JZ:∀t:ak,(rG t).length=t.cnt
 | .mk k n a=>by rw[rG,List.length_cons,ak.cnt,O0 a];omega
theorem O0:∀ts:List ak,(qC ts).length=ak.eB ts
 |[]=>rfl
 |t::ts=>by rw[qC,List.length_append,ak.eB,JZ t,O0 ts]
end
def wI(out:List (List UInt8))(u:ak):List (List UInt8):=if u.aK=1/\u.fName∉out then out++[u.fName] else out
def jK(out:List (List UInt8))(t:ak):List (List UInt8):=(rG t).foldl wI out
def vN(out:List (List UInt8))(ts:List ak):List (List UInt8):=(qC ts).foldl wI out
theorem Na(out:List (List UInt8))(u:ak):(wI out u).length<=out.length+1:=by
 unfold wI
 split<;>simp
theorem SS:∀(us:List ak)(out:List (List UInt8)),(us.foldl wI out).length<=out.length+us.length
 |[],out=>by simp
 |u::us,out=>by
  have h1:=Na out u;have h2:=SS us (wI out u);rw[List.foldl_cons,List.length_cons];omega
theorem Cg(t:ak)(out:List (List UInt8)):(jK out t).length<=out.length+t.cnt:=by
 have:=SS (rG t) out;rw[JZ] at this;exact this
theorem aiB(out:List (List UInt8))(t:ak):jK out t=vN (wI out t) t.fArgs:=by
 unfold jK vN;rw[Ce,List.foldl_cons]
theorem Mx{ts:List ak}{i:Nat}(hi:i<ts.length)(out:List (List UInt8)):vN out (ts.drop i)=vN (jK out ts[i]) (ts.drop (i+1)):=by
 unfold vN jK;rw[Bw hi,List.foldl_append]
def sQ(t:ak):Bool:=(rG t).any fun u=>decide (u.aK=3)
def w9(ts:List ak):Bool:=(qC ts).any fun u=>decide (u.aK=3)
theorem Ic(t:ak):sQ t=(decide (t.aK=3)||w9 t.fArgs):=by
 unfold sQ w9;rw[Ce,List.any_cons]
theorem Un{ts:List ak}{i:Nat}(hi:i<ts.length):w9 (ts.drop i)=(sQ ts[i]||w9 (ts.drop (i+1))):=by
 unfold w9 sQ;rw[Bw hi,List.any_append]
theorem WK(us:List ak):∀b:Bool,us.foldl (fun b u=>b||decide (u.aK=3)) b=(b||us.any fun u=>decide (u.aK=3)):=by
 induction us with
 |nil=>intro b;simp
 |cons u us ih=>intro b;rw[List.foldl_cons,ih,List.any_cons,Bool.or_assoc]
def O1(v:List UInt8)(u:ak):Bool:=decide (u.aK=1/\u.fName=v)
def sF(v:List UInt8)(t:ak):Nat:=(rG t).countP (O1 v)
def xO(v:List UInt8)(ts:List ak):Nat:=(qC ts).countP (O1 v)
theorem afk(v:List UInt8)(t:ak):sF v t=(if O1 v t then 1 else 0)+xO v t.fArgs:=by
 unfold sF xO;rw[Ce,List.countP_cons];omega
theorem WL{v:List UInt8}{ts:List ak}{i:Nat}(hi:i<ts.length):xO v (ts.drop i)=sF v ts[i]+xO v (ts.drop (i+1)):=by
 unfold xO sF;rw[Bw hi,List.countP_append]
theorem afl(v:List UInt8)(t:ak):sF v t<=t.cnt:=by
 unfold sF;rw[<-JZ];exact List.countP_le_length
def occurs(v:List UInt8)(t:ak):Bool:=decide (0<sF v t)
end Go.Ab
namespace Go.Proofs.YtokkjobjffhfjaaGreatDoor.Fa
open Go Go.Ab
abbrev gu(t c b:Nat)(z:List C):Prop:=prog.cellsOf t=c/\prog.bytesOf t=b/\(prog.info? t).isSome=true/\j4 prog t=some z
theorem gB{t c b:Nat}{z:List C}(h1:prog.cellsOf t=c:=by kernel_rfl)(h2:prog.bytesOf t=b:=by kernel_rfl)(h3:(prog.info? t).isSome=true:=by kernel_rfl)(h4:j4 prog t=some z:=by kernel_rfl):gu t c b z:=⟨h1,h2,h3,h4⟩
theorem ty1:gu 1 1 8 [.d (.o .nilFunc)]:=gB
theorem ty2:gu 2 1 8 [.d (.i .i64 0)]:=gB
theorem ty3:gu 3 1 8 [.d (.i .i64 0)]:=gB
theorem ty4:gu 4 1 1 [.d (.b false)]:=gB
theorem apg:zeroV prog 4=some (.bool false):=by kernel_rfl
theorem ty5:gu 5 1 1 [.d (.i .u8 0)]:=gB
theorem ty9:gu 9 1 16 [.d (.s [])]:=gB
theorem aqE:gu 12 1 8 [.d (.i .u64 0)]:=gB
theorem aqF:gu 20 1 16 [.d (.o .nilIface)]:=gB
theorem aqG:gu 21 1 4 [.d (.i .i32 0)]:=gB
theorem aqH:gu 22 1 24 [.bE []]:=gB
theorem aqI:gu 23 3 48 [.d (.i .i64 0),.d (.s []),.bE []]:=gB
theorem aqJ:gu 24 3 48 [.d (.i .i64 0),.d (.s []),.bE []]:=gB
theorem aqK:gu 25 1 24 [.bE []]:=gB
theorem aqL:gu 26 1 24 [.bE []]:=gB
theorem aqM:gu 27 9 144 [.d (.i .i64 0),.d (.s []),.d (.s []),.d (.i .i64 0),.d (.i .i64 0),.d (.s []),.bE [],.bE [],.bE []]:=gB
theorem aqN:gu 28 9 144 [.d (.i .i64 0),.d (.s []),.d (.s []),.d (.i .i64 0),.d (.i .i64 0),.d (.s []),.bE [],.bE [],.bE []]:=gB
theorem aqO:gu 30 1 8 [.d (.o .nilFunc)]:=gB
theorem aqP:gu 31 1 8 [.d (.o .nilFunc)]:=gB
theorem aqQ:gu 32 1 8 [.d (.o .nilFunc)]:=gB
theorem aqR:gu 33 1 8 [.d (.o .nilFunc)]:=gB
theorem aqS:gu 34 1 24 [.bE []]:=gB
theorem aqT:gu 35 1 24 [.bE []]:=gB
theorem aqU:gu 36 1 24 [.bE []]:=gB
theorem aqV:gu 37 1 24 [.bE []]:=gB
theorem aqW:gu 38 1 24 [.bE []]:=gB
theorem aqX:gu 39 6 136 [.d (.s []),.bE [],.bE [],.bE [],.bE [],.bE []]:=gB
theorem aqY:gu 40 6 136 [.d (.s []),.bE [],.bE [],.bE [],.bE [],.bE []]:=gB
theorem aqZ:gu 42 1 8 [.d (.o .nilFunc)]:=gB
theorem aq0:gu 43 1 8 [.d (.o .nilFunc)]:=gB
theorem aq1:gu 44 1 8 [.d (.o .nilFunc)]:=gB
theorem aq2:gu 45 1 24 [.bE []]:=gB
theorem aq3:gu 47 1 24 [.bE []]:=gB
theorem aq4:gu 49 1 8 [.d (.o .nilFunc)]:=gB
theorem aq5:gu 50 1 8 [.d (.o .nilFunc)]:=gB
theorem aq6:gu 51 1 8 [.d (.o .nilFunc)]:=gB
theorem aq7:gu 52 1 24 [.bE []]:=gB
theorem aq8:gu 53 2 40 [.d (.s []),.bE []]:=gB
theorem aq9:gu 54 2 40 [.d (.s []),.bE []]:=gB
theorem ara:gu 56 1 8 [.d (.o .nilFunc)]:=gB
theorem arb:gu 57 1 8 [.d (.o .nilFunc)]:=gB
theorem ard:gu 58 1 8 [.d (.o .nilFunc)]:=gB
theorem arf:gu 63 1 8 [.d (.o .nilFunc)]:=gB
theorem arh:gu 64 1 8 [.d (.o .nilFunc)]:=gB
theorem ari:gu 65 1 8 [.d (.o .nilFunc)]:=gB
theorem arj:gu 67 1 8 [.d (.o .nilFunc)]:=gB
theorem ark:gu 68 1 8 [.d (.o .nilFunc)]:=gB
theorem arl:gu 69 1 8 [.d (.o .nilFunc)]:=gB
theorem arn:gu 70 1 8 [.d (.o .nilFunc)]:=gB
theorem aro:gu 71 1 8 [.d (.o .nilFunc)]:=gB
theorem arp:gu 79 1 8 [.d (.o (.pointer none))]:=gB
theorem arq:gu 81 5 48 [.d (.s []),.d (.i .i64 0),.d (.i .i64 0),.d (.i .i64 0),.d (.b false)]:=gB
theorem ars:gu 82 1 8 [.d (.o .nilFunc)]:=gB
theorem aru:gu 83 1 8 [.d (.o .nilFunc)]:=gB
theorem arv:gu 84 1 8 [.d (.o .nilFunc)]:=gB
theorem arw:gu 86 1 8 [.d (.o .nilFunc)]:=gB
theorem arx:gu 87 1 8 [.d (.o .nilFunc)]:=gB
theorem arz:gu 89 1 24 [.bE []]:=gB
theorem arA:gu 91 1 8 [.d (.o .nilFunc)]:=gB
theorem arB:gu 92 1 8 [.d (.o .nilFunc)]:=gB
theorem arC:gu 93 11 184 [.d (.s []),.bE [],.d (.i .i64 0),.d (.s []),.d (.s []),.d (.i .i64 0),.d (.i .i64 0),.d (.s []),.bE [],.bE [],.bE []]:=gB
theorem arD:gu 94 11 184 [.d (.s []),.bE [],.d (.i .i64 0),.d (.s []),.d (.s []),.d (.i .i64 0),.d (.i .i64 0),.d (.s []),.bE [],.bE [],.bE []]:=gB
theorem arE:gu 95 1 8 [.d (.o .nilFunc)]:=gB
theorem arF:gu 96 1 8 [.d (.o .nilFunc)]:=gB
theorem aph:gu 101 1 8 [.d (.o (.pointer none))]:=gB
theorem apj:gu 105 1 24 [.bE []]:=gB
theorem apk:gu 107 5 72 [.d (.s []),.bE [],.d (.b false),.d (.b false),.bE []]:=gB
theorem apl:gu 109 1 24 [.bE []]:=gB
theorem apm:gu 111 3 64 [.d (.s []),.bE [],.bE []]:=gB
theorem apn:gu 113 1 24 [.bE []]:=gB
theorem apo:gu 114 1 24 [.bE []]:=gB
theorem apq:gu 116 12 192 [.d (.s []),.bE [],.d (.i .i64 0),.d (.s []),.bE [],.bE [],.d (.b false),.d (.b false),.d (.i .i64 0),.d (.s []),.bE [],.bE []]:=gB
theorem apr:gu 118 1 24 [.bE []]:=gB
theorem aps:gu 120 16 280 [.d (.s []),.bE [],.bE [],.bE [],.d (.i .i64 0),.d (.s []),.bE [],.d (.i .i64 0),.d (.s []),.d (.s []),.d (.i .i64 0),.d (.i .i64 0),.d (.s []),.bE [],.bE [],.bE []]:=gB
theorem apt:gu 127 1 24 [.bE []]:=gB
theorem apu:gu 128 1 8 [.d (.o .nilFunc)]:=gB
theorem apv:gu 179 16 264 [.d (.s []),.bE [],.d (.i .i64 0),.d (.s []),.bE [],.d (.b false),.bE [],.d (.i .i64 0),.d (.s []),.d (.s []),.d (.i .i64 0),.d (.i .i64 0),.d (.s []),.bE [],.bE [],.bE []]:=gB
theorem apw:gu 181 2 40 [.d (.s []),.bE []]:=gB
theorem apx:gu 183 4 64 [.d (.s []),.d (.i .i64 0),.d (.s []),.bE []]:=gB
theorem apy:gu 185 11 184 [.d (.s []),.bE [],.d (.i .i64 0),.d (.s []),.d (.s []),.d (.i .i64 0),.d (.i .i64 0),.d (.s []),.bE [],.bE [],.bE []]:=gB
theorem apz:gu 187 4 64 [.d (.s []),.d (.i .i64 0),.d (.s []),.bE []]:=gB
theorem apA:gu 198 1 8 [.d (.o .nilFunc)]:=gB
theorem apB:gu 206 1 8 [.d (.o .nilFunc)]:=gB
theorem apC:gu 218 4 96 [.bE [],.bE [],.bE [],.bE []]:=gB
theorem apD:gu 239 1 16 [.d (.o .nilIface)]:=gB
theorem apE:gu 251 1 8 [.d (.o (.map none))]:=gB
theorem apF:gu 255 1 8 [.d (.o .nilFunc)]:=gB
theorem apG:gu 258 1 8 [.d (.o .nilFunc)]:=gB
theorem apH:gu 308 1 24 [.bE []]:=gB
theorem laidOut:laidOutB prog=true:=by kernel_rfl
theorem own:ownKnob prog.godebug=none:=by kernel_rfl
attribute [go_sem] ty1 underlying1 ty2 underlying2 ty3 underlying3 ty4 underlying4 apg ty5 underlying5 ty9 underlying9 aqE underlying12 aqF underlying20 aqG underlying21 aqH underlying22 aqI underlying23 aqJ underlying24 aqK underlying25 aqL underlying26 aqM underlying27 aqN underlying28 aqO underlying30 aqP underlying31 aqQ underlying32 aqR underlying33 aqS underlying34 aqT underlying35 aqU underlying36 aqV underlying37 aqW underlying38 aqX underlying39 aqY underlying40 aqZ underlying42 aq0 underlying43 aq1 underlying44 aq2 underlying45 aq3 underlying47 aq4 underlying49 aq5 underlying50 aq6 underlying51 aq7 underlying52 aq8 underlying53 aq9 underlying54 ara underlying56 arb underlying57 ard underlying58 arf underlying63 arh underlying64 ari underlying65 arj underlying67 ark underlying68 arl underlying69 arn underlying70 aro underlying71 arp underlying79 arq underlying81 ars underlying82 aru underlying83 arv underlying84 arw underlying86 arx underlying87 arz underlying89 arA underlying91 arB underlying92 arC underlying93 arD underlying94 arE underlying95 arF underlying96 aph underlying101 apj underlying105 apk underlying107 apl underlying109 apm underlying111 apn underlying113 apo underlying114 apq underlying116 apr underlying118 aps underlying120 apt underlying127 apu underlying128 apv underlying179 apw underlying181 apx underlying183 apy underlying185 apz underlying187 apA underlying198 apB underlying206 apC underlying218 apD underlying239 apE underlying251 apF underlying255 apG underlying258 apH underlying308
end Go.Proofs.YtokkjobjffhfjaaGreatDoor.Fa
namespace Go.Ab
theorem qD(xs ys:List (List UInt8))(hsz:xs.length<=1073741824):aH prog 36 [.c (.d (.sl (xs.map encS))),.c (.d (.sl (ys.map encS)))] (.c (.d (.b (dec (xs=ys))))):=by
 intro S;refine zcx [.tmp 4] func36 ntmps36 ?_;refine W1 ?_;refine S0 (fun hb h=>?_) fun hb h=>?_
 ·exact ay (aB (fun e=>h (by rw[e]))).symm
 have hl:xs.length=ys.length:=by omega
 refine aT (ι:=Nat) zmx rfl [0,1,5] (fun y=>[.c (.d (.sl (xs.map encS))),.c (.d (.sl (ys.map encS))),.c (.d (.i .i64 y))]) (fun y=>[]::S)
  (fun i=>i<=xs.length/\∀j,j<i->xs[j]? =ys[j]?) (fun y=>xs.length-y) 0 rfl rfl ⟨Nat.zero_le _,fun j h=>by omega⟩ ?_
 rintro i ⟨p1,p2⟩;refine W1 ?_;refine S0 (fun hb h=>?_) fun hb h=>?_
 ·have hi:i<xs.length:=by omega
  have hi':i<ys.length:=by omega
  refine W3 ?_;refine S0 (fun hb h=>?_) fun hb h=>?_
  ·exact ay (aB (fun e=>h (by simp only[e]))).symm
  refine bF (i+1) (by omega) rfl rfl ⟨by omega,fun j hj=> ?_⟩;by_cases e:j=i
  ·subst e;rw[List.getElem?_eq_getElem hi,List.getElem?_eq_getElem hi',h]
  ·exact p2 j (by omega)
 ·have hi:i=xs.length:=by omega
  refine ay (aZ (List.ext_getElem? fun j=> ?_)).symm;by_cases hj:j<i
  ·exact p2 j hj
  ·rw[List.getElem?_eq_none (by omega),List.getElem?_eq_none (by omega)]
theorem Gh(n a b:Int):aH prog 181 [.c (.d (.i .i64 n)),.c (.d (.i .i64 a)),.c (.d (.i .i64 b))] (.c (.d (.b (dec (a<=n/\n<=b))))):=fun S=>by
 refine zcx [.tmp 6] func181 ntmps181 ?_;refine W1 ?_;refine S0 (fun hb h=>?_) fun hb h=>?_
 ·exact ay (by rw[kE];exact iB ⟨fun x=>⟨by omega,x⟩,fun x=>x.2⟩)
 ·exact ay (aB (by omega)).symm
theorem sG(xs:List (List UInt8))(s:List UInt8)(hl:xs.length<=1073741824):aH prog 150 [.c (.d (.sl (xs.map encS))),.c (.d (.s s))] (.c (.d (.b (dec (s∈xs))))):=fun S=>by
 refine zcx [.tmp 4] func150 ntmps150 ?_;simp -implicitDefEqProofs (disch:=omega) only[go_sem,encS]
 refine aT (ι:=Nat) zmx rfl [0,1,5] (fun i=>[.c (.d (.sl (xs.map encS))),.c (.d (.s s)),.c (.d (.i .i64 i))]) (fun _=>[]::S)
  (fun i=>i<=xs.length/\∀j,j<i->∀h:j<xs.length,xs[j]≠s) (fun i=>xs.length-i) 0 rfl rfl ⟨Nat.zero_le _,fun j h=>by omega⟩ ?_
 rintro i ⟨p1,p2⟩;simp -implicitDefEqProofs (disch:=omega) only[go_sem,encS]
 with_reducible refine dD (fun hb=> ?_) (fun hb=> ?_)<;>have h:=hb<;>(try simp only[wf_preprocess] at h)<;>simp -implicitDefEqProofs (disch:=omega) only[go_sem,hb,encS]<;>refine W3 ?_
 ·have hi:i<xs.length:=by omega
  with_reducible refine dD (fun hb=> ?_) (fun hb=> ?_)<;>have h:=hb<;>(try simp only[wf_preprocess] at h)<;>simp -implicitDefEqProofs (disch:=omega) only[go_sem,hb,encS]<;>refine W3 ?_
  ·exact ay (aZ (by rw[<-h];exact List.getElem_mem hi)).symm
  ·refine bF (i+1) (by omega) rfl rfl ⟨by omega,fun j hj hl=> ?_⟩;by_cases e:j=i
   ·subst e;exact h
   ·exact p2 j (by omega) hl
 ·refine ay (aB fun hm=> ?_).symm;obtain⟨j,h1,h2⟩:=List.getElem_of_mem hm;exact p2 j (by omega) h1 h2
theorem SV(xs:List (List UInt8))(s:List UInt8)(hl:xs.length<=1073741824):aH prog 228 [.c (.d (.sl (xs.map encS))),.c (.d (.s s))] (.c (.d (.i .i64 (yB xs s)))):=fun S=>by
 refine zcx [.tmp 4] func228 ntmps228 ?_;simp -implicitDefEqProofs (disch:=omega) only[go_sem,encS]
 refine aT (ι:=Nat) zmx rfl [0,1,7,8] (fun i=>[.c (.d (.sl (xs.map encS))),.c (.d (.s s)),.c (.d (.i .i64 xs.length)),.c (.d (.i .i64 i))]) (fun _=>[]::S)
  (fun i=>i<=xs.length/\∀j,j<i->xs.getD j []≠s) (fun i=>xs.length-i) 0 rfl rfl ⟨Nat.zero_le _,fun j h=>by omega⟩ ?_
 rintro i ⟨p1,p2⟩;simp -implicitDefEqProofs (disch:=omega) only[go_sem,encS]
 with_reducible refine dD (fun hb=> ?_) (fun hb=> ?_)<;>have h:=hb<;>(try simp only[wf_preprocess] at h)<;>simp -implicitDefEqProofs (disch:=omega) only[go_sem,hb,encS]<;>refine W3 ?_
 ·have hi:i<xs.length:=by omega
  have e:xs.getD i []=xs[i]:=by simp[List.getD,hi]
  with_reducible refine dD (fun hb=> ?_) (fun hb=> ?_)<;>have h:=hb<;>(try simp only[wf_preprocess] at h)<;>simp -implicitDefEqProofs (disch:=omega) only[go_sem,hb,encS]<;>refine W3 ?_
  ·rw[Zl hi p2 (by rw[e];exact h.symm)]
  ·refine bF (i+1) (by omega) rfl rfl ⟨by omega,fun j hj=> ?_⟩;by_cases e':j=i
   ·subst e';rw[e];exact fun x=>h x.symm
   ·exact p2 j (by omega)
 ·rw[afi (fun j hj=>p2 j (by omega))]
theorem sH(xs:List (List UInt8))(s:List UInt8)(hl:xs.length<=1073741824):aH prog 276 [.c (.d (.sl (xs.map encS))),.c (.d (.s s))] (.c (.d (.b (dec (s∈xs))))):=fun S=>by
 refine zcx [.tmp 4] func276 ntmps276 ?_;refine W1 ?_;refine C2 (SV xs s hl) ?_;exact ay OO
theorem O3(s:List UInt8):aH prog 212 [.c (.d (.s s))] (.c (.d (.b (dec (s∈reserved))))):=fun S=>by
 refine zcx [.tmp 2] func212 ntmps212 ?_;refine W1 ?_;refine W3 ?_;exact C4 (sG reserved s (by decide))
theorem O4(s:List UInt8):aH prog 224 [.c (.d (.s s))] (.c (.d (.b (dec (s∈reserved))))):=fun S=>by
 refine zcx [.tmp 2] func224 ntmps224 ?_;refine W1 ?_;refine W3 ?_;exact C4 (sH reserved s (by decide))
theorem O5(b:UInt8):aH prog 124 [.c (.d (.i .u8 b.toNat))] (.c (.d (.b (dec (lowerB b))))):=fun S=>by
 refine zcx [.tmp 2] func124 ntmps124 ?_;refine W1 ?_;refine S0 (fun hb h=>?_) fun hb h=>?_
 ·exact ay (by rw[kE];exact iB ⟨fun x=>⟨by omega,by omega⟩,fun x=>by have:=x.2;omega⟩)
 ·exact ay (aB fun x=>by have:=x.1;omega).symm
theorem O6(b:UInt8):aH prog 125 [.c (.d (.i .u8 b.toNat))] (.c (.d (.b (dec (tq b))))):=fun S=>by
 refine zcx [.tmp 2] func125 ntmps125 ?_;refine W1 ?_;refine S0 (fun hb h=>?_) fun hb h=>?_
 ·exact ay (by rw[kE];exact iB ⟨fun x=>⟨by omega,by omega⟩,fun x=>by have:=x.2;omega⟩)
 ·exact ay (aB fun x=>by have:=x.1;omega).symm
theorem iL(s:List UInt8)(hl:s.length<=1073741824):aH prog 157 [.c (.d (.s s))] (.c (.d (.b (validName s)))):=fun S=>by
 refine zcx [.tmp 2] func157 ntmps157 ?_;refine W1 ?_
 refine aT (ι:=Nat) zmx rfl [0,5,6] (fun i=>[.c (.d (.s s)),.c (.d (.i .i64 s.length)),.c (.d (.i .i64 i))]) (fun _=>[]::S)
  (fun i=>i<=s.length/\∀j,j<i->lowerB (s.getD j 0)\/(j≠0/\tq (s.getD j 0))) (fun i=>s.length-i) 0 rfl rfl ⟨Nat.zero_le _,fun j h=>by omega⟩ ?_
 rintro i ⟨p1,p2⟩
 have next:i<s.length->(lowerB (s.getD i 0)\/(i≠0/\tq (s.getD i 0)))->∀j,j<i+1->lowerB (s.getD j 0)\/(j≠0/\tq (s.getD j 0)):=fun hi h j hj=>by
  by_cases e:j=i
  ·subst e;exact h
  ·exact p2 j (by omega)
 have bad:i<s.length->¬(lowerB (s.getD i 0)\/(i≠0/\tq (s.getD i 0)))->validName s=false:=fun hi h=>aB fun x=>h (x.2.2 i hi);refine W1 ?_;refine S0 (fun hb h=>?_) fun hb h=>?_
 ·have hi:i<s.length:=by omega
  refine W3 ?_;refine C2 (O5 (s.getD i 0)) ?_;refine S0 (fun hb h=>?_) fun hb h=>?_
  ·have nl:=h;refine S0 (fun hb h=>?_) fun hb h=>?_
   ·have i0:i=0:=by omega
    rw[bad hi (fun x=>x.elim nl fun y=>y.1 i0)]
   ·have ne:=h;refine W3 ?_;refine C2 (O6 (s.getD i 0)) ?_;refine S0 (fun hb h=>?_) fun hb h=>?_
    ·rw[bad hi (fun x=>x.elim nl fun y=>h y.2)]
    ·exact bF (i+1) (by omega) rfl rfl ⟨by omega,next hi (.inr ⟨by omega,h⟩)⟩
  ·exact bF (i+1) (by omega) rfl rfl ⟨by omega,next hi (.inl h)⟩
 ·have hn:WB s:=fun j hj=>p2 j (by omega)
  have h0:∀b,dec (s∈reserved)=b->∀c,decide ((s.length:Int)>=1)=c->∀d,decide ((s.length:Int)<=8)=d->validName s=(c&&d&& !b):=by
   rintro b rfl c rfl d rfl;unfold validName;rw[Bool.eq_iff_iff];simp only[Bt,Bool.and_eq_true,decide_eq_true_eq,Bool.not_eq_true',JR];exact⟨fun x=>⟨⟨by omega,by omega⟩,x.2.1⟩,fun x=>⟨⟨by omega,by omega⟩,x.2,hn⟩⟩
  refine S0 (fun hb h=>?_) fun hb h=>?_
  ·have c1:=hb;refine S0 (fun hb h=>?_) fun hb h=>?_
   ·refine C2 (O4 s) ?_;exact ay (by rw[h0 _ rfl _ c1 _ hb];simp)
   ·exact ay (by rw[h0 _ rfl _ c1 _ hb];simp)
  ·exact ay (by rw[h0 _ rfl _ hb _ rfl];simp)
theorem iM(s:List UInt8)(hl:s.length<=1073741824):aH prog 148 [.c (.d (.s s))] (.c (.d (.b (validName s)))):=fun S=>by
 have bad:¬WB s->validName s=false:=fun h=>aB fun x=>h x.2.2;refine zcx [.tmp 2] func148 ntmps148 ?_;refine W1 ?_;refine C2 (Gh s.length 1 8) ?_;refine S0 (fun hb h=>?_) fun hb h=>?_
 ·rw[show validName s=false from aB fun x=>h (by omega)]
 have hlen:=h;refine C2 (O3 s) ?_;refine S0 (fun hb h=>?_) fun hb h=>?_
 ·rw[show validName s=false from aB fun x=>x.2.1 h]
 have hres:=h
 refine aT (ι:=Nat) zmx rfl [0,3] (fun i=>[.c (.d (.s s)),.c (.d (.i .i64 i))]) (fun _=>[]::S)
  (fun i=>i<=s.length/\∀j,j<i->lowerB (s.getD j 0)\/(j≠0/\tq (s.getD j 0))) (fun i=>s.length-i) 0 rfl rfl ⟨Nat.zero_le _,fun j h=>by omega⟩ ?_
 rintro i ⟨p1,p2⟩
 have next:i<s.length->(lowerB (s.getD i 0)\/(i≠0/\tq (s.getD i 0)))->∀j,j<i+1->lowerB (s.getD j 0)\/(j≠0/\tq (s.getD j 0)):=fun hi h j hj=>by
  by_cases e:j=i
  ·subst e;exact h
  ·exact p2 j (by omega)
 refine W1 ?_;refine S0 (fun hb h=>?_) fun hb h=>?_
 ·have hi:i<s.length:=by omega
  have bad':¬(lowerB (s.getD i 0)\/(i≠0/\tq (s.getD i 0)))->validName s=false:=fun h=>bad fun x=>h (x i hi)
  have next:=next hi
  unfold lowerB tq at bad' next
  all_goals try(refine S0 (fun hb h=>?_) fun hb h=>?_)
  all_goals try(refine S0 (fun hb h=>?_) fun hb h=>?_)
  all_goals try(refine S0 (fun hb h=>?_) fun hb h=>?_)
  all_goals try(refine S0 (fun hb h=>?_) fun hb h=>?_)
  all_goals try(refine S0 (fun hb h=>?_) fun hb h=>?_)
  all_goals try(with_reducible refine dD (fun hb=> ?_) (fun hb=> ?_)<;>have h:=hb<;>(try simp only[wf_preprocess] at h)<;>simp -implicitDefEqProofs (disch:=omega) only[go_sem,hb]<;>(repeat(with_reducible refine And.intro ?_ ?_;focus first|omega|rfl|assumption|exact⟨_,rfl,rfl⟩|(simp;omega)|(simp;done))))
  all_goals first
   |exact bF (i+1) (by omega) rfl rfl ⟨by omega,next (by omega)⟩
   |exact ay (bad' (by omega)).symm
 ·rw[show validName s=true from aZ ⟨by omega,hres,fun j hj=>p2 j (by omega)⟩]
theorem afm(s:List UInt8):aH prog 297 [.c (.d (.s s))] (.c (.d (.b (yP s)))):=fun S=>by
 refine zcx [.tmp 2] func297 ntmps297 ?_;refine W1 ?_;refine S0 (fun hb h=>?_) fun hb h=>?_
 ·exact ay (aZ (.inl h)).symm
 ·exact ay (by rw[kE];exact iB ⟨fun x=>.inr x,fun x=>x.resolve_left h⟩)
theorem WM(s:List UInt8):aH prog 322 [.c (.d (.s s))] (.c (.d (.b (yP s)))):=fun S=>by
 refine zcx [.tmp 2] func322 ntmps322 ?_;refine W1 ?_;refine S0 (fun hb h=>?_) fun hb h=>?_
 ·exact ay (aZ (.inl h)).symm
 ·exact ay (by rw[kE];exact iB ⟨fun x=>.inr x,fun x=>x.resolve_left h⟩)
theorem Dy{x:ak}{i:Nat}(hi:i<x.fArgs.length)(h:x.sz<=4194304):x.fArgs[i].sz<=4194304/\x.fArgs.length<=4194304/\x.fName.length<=4194304:=by
 have hx:x.fArgs[i].sz<=bf (x.fArgs.map ak.enc):=dA (List.mem_map_of_mem (List.getElem_mem hi));simp only[ak.sz,ak.aA,bT,D.sz,List.length_map] at h;omega
theorem J2{x:ak}(h:x.sz<=4194304):x.fArgs.length<=4194304/\x.fName.length<=4194304:=by
 simp only[ak.sz,ak.aA,bT,D.sz,List.length_map] at h;omega
theorem J3:∀n:Nat,∀t:ak,SizeOf.sizeOf t<n->t.sz<=4194304->∀(g:Nat)(caps:List (Key×Nat))(α:Type)(st:α->Store)(I:Nat->α->Prop)(f:α->ak->α)(hf:H7 prog g caps st I f ak.v (fun u=>u.sz<=4194304))(m:Nat)(a:α),I (m+t.cnt) a->
 I m ((rG t).foldl f a)/\dh prog 283 [t.v,.c (.fn g caps)] (st a) (fun r S'=>r=.dL []/\S'=st ((rG t).foldl f a))
 |0=>fun t h=>by omega
 |n+1=>by
  have ih:=J3 n;intro t hn hsz g caps α st I f hf m a ha;have j3:=ak.gT t;have hts:=J2 hsz;rw[ak.rE,show m+(1+ak.eB t.fArgs)=(m+ak.eB t.fArgs)+1 by omega] at ha;have h1:=hf _ a t ha hsz
  have hI:∀(ts:List ak),SizeOf.sizeOf ts<n->(∀x∈ts,x.sz<=4194304)->∀a,I (m+ak.eB ts) a->I m ((qC ts).foldl f a):=by
   intro ts
   induction ts with
   |nil=>intro _ _ a ha;exact ha
   |cons x xs ihx=>
    intro hs hz a ha;simp only[List.cons.sizeOf_spec] at hs;rw[qC,List.foldl_append];rw[ak.eB,show m+(x.cnt+ak.eB xs)=(m+ak.eB xs)+x.cnt by omega] at ha;exact ihx (by omega) (fun y hy=>hz y (by simp[hy])) _ (ih x (by omega) (hz x (by simp)) g caps α st I f hf _ a ha).1
  have hall:∀x∈t.fArgs,x.sz<=4194304:=fun x hx=>by
   obtain⟨i,hi,e⟩:=List.getElem_of_mem hx;rw[<-e];exact(Dy hi hsz).1
  refine⟨by rw[Ce,List.foldl_cons];exact hI t.fArgs (by omega) hall _ h1.1,?_⟩;refine zcx [] func283 ntmps283 ?_;refine W1 ?_;refine bg rfl (h1.2 [_]) ?_;refine W1 ?_
  refine aT (ι:=Nat×α) zmx rfl [1,10,11,12] (fun y=>[.c (.fn g (jT 1 caps)),.c (.d (.sl (t.fArgs.map ak.enc))),.c (.d (.i .i64 t.fArgs.length)),.c (.d (.i .i64 y.1))]) (fun y=>[.box [.d (.i .i64 t.aK),.d (.s t.fName),.d (.sl (t.fArgs.map ak.enc))]]::st y.2)
   (fun y=>y.1<=t.fArgs.length/\I (m+ak.eB (t.fArgs.drop y.1)) y.2/\(qC (t.fArgs.drop y.1)).foldl f y.2=(rG t).foldl f a) (fun y=>t.fArgs.length-y.1) (0,f a t) rfl rfl ⟨Nat.zero_le _,h1.1,by rw[Ce,List.foldl_cons];rfl⟩ ?_
  rintro⟨i,b⟩ ⟨p1,p2,p3⟩;simp only at p1 p2 p3;refine W1 ?_;refine S0 (fun hb h=>?_) fun hb h=>?_
  ·have hi:i<t.fArgs.length:=by omega
   have hs:=List.sizeOf_lt_of_mem (List.getElem_mem hi);rw[Bw hi,List.foldl_append] at p3;rw[List.drop_eq_getElem_cons hi,ak.eB,show m+(t.fArgs[i].cnt+ak.eB (t.fArgs.drop (i+1)))=(m+ak.eB (t.fArgs.drop (i+1)))+t.fArgs[i].cnt by omega] at p2;have h2:=(ih t.fArgs[i] (by omega) (Dy hi hsz).1 g caps α st I f hf _ b p2).1;refine W3 ?_;refine bg rfl (((ih t.fArgs[i] (by omega) (Dy hi hsz).1 g (jT 1 caps) α (fun a=>[.box [.d (.i .i64 t.aK),.d (.s t.fName),.d (.sl (t.fArgs.map ak.enc))],.box [.d (.i .i64 t.fArgs[i].aK),.d (.s t.fArgs[i].fName),.d (.sl (t.fArgs[i].fArgs.map ak.enc))]]::st a) I f (hf.push _) _ b p2)).2) ?_;refine W1 ?_;exact bX 1 (by decide) (i+1,(rG t.fArgs[i]).foldl f b) (by simp only;omega) rfl rfl (by simp only[iX,kX,List.all_cons,List.all_nil,V.refs,C.refs,Wv,Bool.and_true]) rfl ⟨by simp only;omega,h2,p3⟩
  ·have hi:i=t.fArgs.length:=by omega
   rw[hi,List.drop_length,qC,List.foldl_nil] at p3;rw[p3]
theorem MB{t:ak}(hsz:t.sz<=4194304){g:Nat}{caps:List (Key×Nat)}{α:Type}{st:α->Store}{I:Nat->α->Prop}{f:α->ak->α}(hf:H7 prog g caps st I f ak.v (fun u=>u.sz<=4194304))(m:Nat)(a:α)(ha:I (m+t.cnt) a):
 I m ((rG t).foldl f a)/\dh prog 283 [t.v,.c (.fn g caps)] (st a) (fun r S'=>r=.dL []/\S'=st ((rG t).foldl f a)):=J3 _ t (Nat.lt_succ_self _) hsz g caps α st I f hf m a ha
theorem LZ(rest:List Ab.Obj)(S:Store):H7 prog 313 [((0,0),0)] (fun out:List (List UInt8)=>(.box [.bN (0,1) (out.map encS)]:: .tok 1 (out.map encS)::rest)::S) (fun n out=>out.length+n<=1073741824) wI ak.v (fun u=>u.sz<=4194304):=by
 intro n out u hI hu;refine⟨by have:=Na out u;omega,fun F=> ?_⟩;have hts:=J2 hu;refine zcx [] func313 ntmps313 ?_;refine W1 ?_;refine S0 (fun hb h=>?_) fun hb h=>?_
 ·have h1:=h;refine C2 (sH out u.fName (by omega)) ?_;refine S0 (fun hb h=>?_) fun hb h=>?_
  ·refine W3 ?_;have ha:wI out u=out++[u.fName]:=if_pos ⟨h1,h⟩;rw[ha];simp[encS]
  ·have ha:wI out u=out:=if_neg fun x=>x.2 h;rw[ha]
 ·have ha:wI out u=out:=if_neg fun x=>h x.1;rw[ha]
theorem Rj(ts:List ak)(hl:ts.length<=4194304)(hz:∀t∈ts,t.sz<=4194304)(hc:ak.eB ts<=1073741823):aH prog 286 [.c (.d (.sl (ts.map ak.enc)))] (.c (.d (.sl ((vN [] ts).map encS)))):=fun S=>by
 refine zcx [.tmp 2] func286 ntmps286 ?_;refine W1 ?_;refine W3 ?_;refine sZ 0 0 1 [] [.bE []] rfl rfl (by simp) ?_
 refine aT (ι:=Nat×List (List UInt8)) zmx rfl [3,7,8,9] (fun y=>[.c (.ptr (0,0) 0),.c (.d (.sl (ts.map ak.enc))),.c (.d (.i .i64 ts.length)),.c (.d (.i .i64 y.1))]) (fun y=>[.box [.bN (0,1) (y.2.map encS)],.tok 1 (y.2.map encS)]::S)
  (fun y=>y.1<=ts.length/\y.2.length+ak.eB (ts.drop y.1)<=1073741824/\vN y.2 (ts.drop y.1)=vN [] ts) (fun y=>ts.length-y.1) (0,[]) rfl rfl ⟨Nat.zero_le _,by simp only[List.drop_zero,List.length_nil];omega,rfl⟩ ?_
 rintro⟨i,out⟩ ⟨p1,p2,p3⟩;simp only at p1 p2 p3;refine W1 ?_;refine S0 (fun hb h=>?_) fun hb h=>?_
 ·have hi:i<ts.length:=by omega
  rw[Mx hi] at p3;rw[List.drop_eq_getElem_cons hi,ak.eB] at p2;have hlen:=Cg ts[i] out;refine W3 ?_;refine bg rfl (MB (hz _ (List.getElem_mem hi)) (LZ [Ab.Obj.box [.d (.i .i64 ts[i].aK),.d (.s ts[i].fName),.d (.sl (ts[i].fArgs.map ak.enc))]] S) (ak.eB (ts.drop (i+1))) out (by omega)).2 ?_;refine W1 ?_;exact bX 2 (by decide) (i+1,jK out ts[i]) (by simp only;omega) rfl rfl rfl rfl ⟨by simp only;omega,by simp only;omega,p3⟩
 ·have hi:i=ts.length:=by omega
  rw[hi,List.drop_length] at p3;rw[<-p3];rfl
theorem zX(t:ak)(hsz:t.sz<=4194304):aH prog 235 [t.v] (.c (.d (.sl ((jK [] t).map encS)))):=fun S=>by
 have hc:=nu t;have h0:=Rj [t] (by simp) (by simpa using hsz) (by simp[ak.eB];omega);simp only[List.map_cons,List.map_nil,ak.aA] at h0;refine zcx [.tmp 2] func235 ntmps235 ?_;refine W1 ?_;refine W3 ?_;refine aX h0 ?_;refine W1 ?_;rw[show vN [] [t]=jK [] t by simp[vN,jK,qC]]
theorem O7:∀n:Nat,∀t:ak,SizeOf.sizeOf t<n->t.sz<=4194304->∀(out:List (List UInt8))(l j:Nat)(S:Store),bG S (l,j)=some (.tok 1 (out.map encS))->out.length+t.cnt<=1073741824->
 dh prog 329 [t.v,.c (.bN (l,j) (out.map encS))] S (fun r S'=>r=.c (.bN (l,j) ((jK out t).map encS))/\S'=bR S (l,j) (.tok 1 ((jK out t).map encS)))
 |0=>fun t h=>by omega
 |n+1=>by
  have ih:=O7 n;intro t hn hsz out l j S hk hc;have j3:=ak.gT t;have hts:=J2 hsz;have hcn:=ak.rE t;have O8:∀x:Ab.Obj,bG (bR S (l,j) x) (l,j)=some x:=fun x=>fB _ _ _ _ hk;have hS0:bR S (l,j) (.tok 1 (out.map encS))=S:=ze _ _ hk;have fin:jK out t=vN (wI out t) t.fArgs:=aiB out t;have hal:=Na out t
  have e0:(out++[t.fName]).map encS=out.map encS++[[D.s t.fName]]:=by simp[encS]
  refine zcx [.tmp 4] func329 ntmps329 ?_;simp -implicitDefEqProofs (disch:=omega) only[go_sem,hk]
  repeat' (first
   |(with_reducible refine dD (fun hb=> ?_) (fun hb=> ?_)<;>have h:=hb<;>(try simp only[wf_preprocess] at h)<;>simp -implicitDefEqProofs (disch:=omega) only[go_sem,hb,hk]<;>refine W3 ?_)
   |(refine aX (sG out t.fName (by omega)) ?_;simp -implicitDefEqProofs (disch:=omega) only[go_sem,hk];refine W3 ?_))
  all_goals first
   |(have ha:wI out t=out++[t.fName]:=if_pos ⟨by assumption,by assumption⟩)
   |(have ha:wI out t=out:=if_neg (fun x=>by have:=x.1;have:=x.2;contradiction))
  all_goals
   refine aT (ι:=Nat×List (List UInt8)) zmx rfl [1,2,5] (fun y=>[.c (.bN (1+l,j) (y.2.map encS)),.c (.ptr (0,0) 0),.c (.d (.i .i64 y.1))]) (fun y=>[.box [.d (.i .i64 t.aK),.d (.s t.fName),.d (.sl (t.fArgs.map ak.enc))]]::bR S (l,j) (.tok 1 (y.2.map encS)))
    (fun y=>y.1<=t.fArgs.length/\y.2.length+ak.eB (t.fArgs.drop y.1)<=1073741824/\vN y.2 (t.fArgs.drop y.1)=jK out t) (fun y=>t.fArgs.length-y.1) (0,wI out t) (by first|(rw[ha,e0];rfl)|(rw[ha];rfl)) (by first|(simp only[ha,e0];done)|(simp only[ha,hS0];done)) ⟨Nat.zero_le _,by simp only[List.drop_zero];omega,by rw[fin];rfl⟩ ?_
   rintro⟨i,b⟩ ⟨p1,p2,p3⟩;simp only at p1 p2 p3;refine W1 ?_;refine S0 (fun hb h=>?_) fun hb h=>?_
   ·have hi:i<t.fArgs.length:=by omega
    have hs:=List.sizeOf_lt_of_mem (List.getElem_mem hi);rw[Mx hi] at p3;rw[List.drop_eq_getElem_cons hi,ak.eB] at p2;have hlen:=Cg t.fArgs[i] b;refine W3 ?_;refine bg rfl (ih t.fArgs[i] (by omega) (Dy hi hsz).1 b (1+l) j _ (by rw[bM];exact O8 _) (by omega)) ?_;simp -implicitDefEqProofs (disch:=omega) only[go_sem,bH];exact bF (i+1,jK b t.fArgs[i]) (by simp only;omega) rfl rfl ⟨by simp only;omega,by simp only;omega,p3⟩
   ·have hi:i=t.fArgs.length:=by omega
    rw[hi,List.drop_length] at p3;rw[<-p3];exact⟨rfl,rfl⟩
theorem O9(t:ak)(hsz:t.sz<=4194304):aH prog 307 [t.v] (.c (.d (.sl ((jK [] t).map encS)))):=fun S=>by
 have hc:=nu t
 have h0:∀S,dh prog 329 [t.v,.c (.bE [])] S (fun r S'=>r=.c (.d (.sl ((jK [] t).map encS)))/\S'=S):=fun S=>by
  refine dh.aiv 1 (es:=[]) (aY:=1) rfl (by simp) (O7 _ t (Nat.lt_succ_self _) hsz [] 0 0 ([.tok 1 []]::S) rfl (by simp;omega)) ?_;rintro r fr S' ⟨rfl,h2⟩;injection h2 with h2 h3;exact⟨_,rfl,rfl,h3⟩
 refine zcx [.tmp 2] func307 ntmps307 ?_;refine W1 ?_;refine W3 ?_;refine qB [true,true] rfl (h0 _) ?_;exact Z1
theorem EW:∀n:Nat,∀t:ak,SizeOf.sizeOf t<n->t.sz<=4194304->aH prog 272 [t.v] (.c (.d (.b (sQ t))))
 |0=>fun t h=>by omega
 |n+1=>by
  have ih:=EW n;intro t hn hsz S;have j3:=ak.gT t;have hts:=J2 hsz;refine zcx [.tmp 2] func272 ntmps272 ?_;refine W1 ?_
  refine aT (ι:=Nat) zmx rfl [1,3] (fun i=>[.c (.ptr (0,0) 0),.c (.d (.i .i64 i))]) (fun _=>[.box [.d (.i .i64 t.aK),.d (.s t.fName),.d (.sl (t.fArgs.map ak.enc))]]::S)
   (fun i=>i<=t.fArgs.length/\w9 (t.fArgs.drop i)=w9 t.fArgs) (fun i=>t.fArgs.length-i) 0 rfl rfl ⟨Nat.zero_le _,rfl⟩ ?_
  rintro i ⟨p1,p2⟩;refine W1 ?_;refine S0 (fun hb h=>?_) fun hb h=>?_
  ·have hi:i<t.fArgs.length:=by omega
   rw[Un hi] at p2;refine W3 ?_;refine C2 (ih t.fArgs[i] (by have:=List.sizeOf_lt_of_mem (List.getElem_mem hi);omega) (Dy hi hsz).1) ?_;refine S0 (fun hb h=>?_) fun hb h=>?_
   ·rw[Ic,<-p2,h];simp
   ·exact bF (i+1) (by omega) rfl rfl ⟨by omega,by rw[<-p2,h];rfl⟩
  ·have hi:i=t.fArgs.length:=by omega
   rw[hi,List.drop_length] at p2;rw[Ic,<-p2];exact ay (by simp[w9,qC])
theorem Gi(t:ak)(hsz:t.sz<=4194304):aH prog 272 [t.v] (.c (.d (.b (sQ t)))):=EW _ t (Nat.lt_succ_self _) hsz
theorem Uo(rest:List Ab.Obj)(cs:List C)(S:Store):H7 prog 284 [((0,1),0)] (fun b:Bool=>(.box cs:: .box [.d (.b b)]::rest)::S) (fun _ _=>True) (fun b u=>b||decide (u.aK=3)) ak.v (fun u=>u.sz<=4194304):=by
 intro n b u _ hu;refine⟨trivial,fun F=> ?_⟩;refine zcx [] func284 ntmps284 ?_;refine W1 ?_
 cases b with
 |true=>
  refine W1 ?_;rfl
 |false=>
  refine W1 ?_;rfl
theorem Gj(t:ak)(hsz:t.sz<=4194304):aH prog 233 [t.v] (.c (.d (.b (sQ t)))):=fun S=>by
 refine zcx [.tmp 2] func233 ntmps233 ?_;refine W1 ?_;refine W3 ?_;refine bg rfl (MB hsz (Uo [] [.d (.i .i64 t.aK),.d (.s t.fName),.d (.sl (t.fArgs.map ak.enc))] S) 0 false trivial).2 ?_;refine W1 ?_;rw[WK];rfl
theorem xg{x:ak}{i:Nat}(hi:i<x.fArgs.length)(h:x.sz<=4194304):x.fArgs[i].sz<=4194304/\x.fArgs.length<=4194304/\x.fName.length<=4194304:=by
 have hx:x.fArgs[i].sz<=bf (x.fArgs.map ak.enc):=dA (List.mem_map_of_mem (List.getElem_mem hi));simp only[ak.sz,ak.aA,bT,D.sz,List.length_map] at h;omega
theorem EX{x:ak}(h:x.sz<=4194304):x.fArgs.length<=4194304/\x.fName.length<=4194304:=by
 simp only[ak.sz,ak.aA,bT,D.sz,List.length_map] at h;omega
theorem nP:∀{ts:List ak}{i:Nat}(hi:i<ts.length),ak.eB (ts.drop i)=ts[i].cnt+ak.eB (ts.drop (i+1)):=fun {ts} {i} hi=>by
 rw[List.drop_eq_getElem_cons hi,ak.eB]
theorem MC:∀{ts:List ak}{i:Nat}(hi:i<ts.length),depths (ts.drop i)=max (oC ts[i]+1) (depths (ts.drop (i+1))):=fun {ts} {i} hi=>by
 rw[List.drop_eq_getElem_cons hi,depths]
theorem WO:∀{ts:List ak}{i:Nat}(hi:i<ts.length),jm (ts.drop i)=(formed ts[i]&&jm (ts.drop (i+1))):=fun {ts} {i} hi=>by
 rw[List.drop_eq_getElem_cons hi,jm]
theorem Pb:∀n:Nat,∀x:ak,SizeOf.sizeOf x<n->∀l:Int,0<=l->l<=1073741824->x.sz<=4194304->aH prog 252 [x.v,.c (.d (.i .i64 l))] (.c (.d (.i .i64 (p9 l x.cnt))))
 |0=>fun x h=>by omega
 |n+1=>by
  have ih:=Pb n;intro x hn l h0 h1 hsz S;have j3:=ak.gT x;have hts:=EX hsz;have hcn:=ak.rE x;refine zcx [.tmp 4] func252 ntmps252 ?_;refine W1 ?_
  refine aT (ι:=Nat×Int) zmx rfl [1,2,5] (fun y=>[.c (.d (.i .i64 y.2)),.c (.ptr (0,0) 0),.c (.d (.i .i64 y.1))]) (fun y=>[.box [.d (.i .i64 x.aK),.d (.s x.fName),.d (.sl (x.fArgs.map ak.enc))]]::S)
   (fun y=>y.1<=x.fArgs.length/\ -1<=y.2/\y.2<=1073741824/\(0<=y.2->p9 l x.cnt=p9 y.2 (ak.eB (x.fArgs.drop y.1)))/\(y.2<0->p9 l x.cnt= -1)) (fun y=>x.fArgs.length-y.1) (0,l-1) rfl rfl ⟨Nat.zero_le _,by simp only;omega,by simp only;omega,fun h=> ?_,fun h=> ?_⟩ ?_
  ·simp only[List.drop_zero] at h ⊢;unfold p9;rw[hcn];split<;>split<;>omega
  ·simp only at h;exact Lr (by omega)
  rintro⟨i,c⟩ ⟨p1,p2,p3,p4,p5⟩;simp only at p1 p2 p3 p4 p5;refine W1 ?_;refine S0 (fun hb h=>?_) fun hb h=>?_
  ·have hi:i<x.fArgs.length:=by omega
   refine S0 (fun hb h=>?_) fun hb h=>?_
   ·have hsz':=xg hi hsz;have p6:=p4 h;rw[nP hi] at p6;refine W3 ?_;refine C2 (ih x.fArgs[i] (by have:=List.sizeOf_lt_of_mem (List.getElem_mem hi);omega) c (by omega) (by omega) (by omega)) ?_;refine bF (i+1,p9 c _) (by simp only;omega) rfl rfl ⟨by simp only;omega,?_,?_,fun h=> ?_,fun h=> ?_⟩
    ·simp only;unfold p9;split<;>omega
    ·simp only;unfold p9;split<;>omega
    ·simp only at h ⊢;rw[p6];have:=Lp (l:=c) (a:=x.fArgs[i].cnt) (by omega);rw[this.1];unfold p9;split<;>split<;>omega
    ·simp only at h ⊢;rw[p6];have:=H9 h;exact Lr (by omega)
   ·have hc:c= -1:=by omega
    rw[p5 (by omega),hc]
  ·have hi:i=x.fArgs.length:=by omega
   by_cases hc:0<=c
   ·rw[p4 hc,hi,List.drop_length,ak.eB,Wz (by omega)];exact int_eq (by simp)
   ·rw[p5 (by omega)];exact int_eq (by omega)
theorem afn(x:ak)(l:Int)(h0:0<=l)(h1:l<=1073741824)(hsz:x.sz<=4194304):aH prog 252 [x.v,.c (.d (.i .i64 l))] (.c (.d (.i .i64 (p9 l x.cnt)))):=Pb _ x (Nat.lt_succ_self _) l h0 h1 hsz
theorem WQ(a b:Int):aH prog 176 [.c (.d (.i .i64 a)),.c (.d (.i .i64 b))] (.c (.d (.i .i64 (max a b)))):=fun S=>by
 refine zcx [.tmp 4] func176 ntmps176 ?_;refine W1 ?_;refine S0 (fun hb h=>?_) fun hb h=>?_
 ·exact int_eq (by omega)
 ·exact int_eq (by omega)
theorem Jb:∀n:Nat,∀x:ak,SizeOf.sizeOf x<n->x.sz<=4194304->aH prog 253 [x.v] (.c (.d (.i .i64 (oC x))))
 |0=>fun x h=>by omega
 |n+1=>by
  have ih:=Jb n;intro x hn hsz S;have j3:=ak.gT x;have hts:=EX hsz;have hd1:=BZ x;have hd2:=nu x;refine zcx [.tmp 2] func253 ntmps253 ?_;refine W1 ?_
  refine aT (ι:=Nat×Nat) zmx rfl [1,3,4] (fun y=>[.c (.ptr (0,0) 0),.c (.d (.i .i64 y.2)),.c (.d (.i .i64 y.1))]) (fun y=>[.box [.d (.i .i64 x.aK),.d (.s x.fName),.d (.sl (x.fArgs.map ak.enc))]]::S)
   (fun y=>y.1<=x.fArgs.length/\oC x=max y.2 (depths (x.fArgs.drop y.1))) (fun y=>x.fArgs.length-y.1) (0,0) rfl rfl ⟨Nat.zero_le _,by simp[SF]⟩ ?_
  rintro⟨i,c⟩ ⟨p1,p2⟩;simp only at p1 p2;refine W1 ?_;refine S0 (fun hb h=>?_) fun hb h=>?_
  ·have hi:i<x.fArgs.length:=by omega
   have hsz':=xg hi hsz;rw[MC hi] at p2;have hd3:=BZ x.fArgs[i];have hd4:=nu x.fArgs[i];refine W3 ?_;refine C2 (ih x.fArgs[i] (by have:=List.sizeOf_lt_of_mem (List.getElem_mem hi);omega) (by omega)) ?_;refine C2 (WQ _ _) ?_;rw[show max (c:Int) (1+(oC x.fArgs[i]:Int))=((max c (1+oC x.fArgs[i]):Nat):Int) by omega];exact bF (i+1,max c (1+oC x.fArgs[i])) (by simp only;omega) rfl rfl ⟨by simp only;omega,by simp only;omega⟩
  ·have hi:i=x.fArgs.length:=by omega
   rw[hi,List.drop_length,depths] at p2;exact int_eq (by omega)
theorem WR(x:ak)(hsz:x.sz<=4194304):aH prog 253 [x.v] (.c (.d (.i .i64 (oC x)))):=Jb _ x (Nat.lt_succ_self _) hsz
theorem Jc:∀n:Nat,∀x:ak,SizeOf.sizeOf x<n->x.sz<=4194304->aH prog 303 [x.v] (.c (.d (.i .i64 (oC x))))
 |0=>fun x h=>by omega
 |n+1=>by
  have ih:=Jc n;intro x hn hsz S;have j3:=ak.gT x;have hts:=EX hsz;have hd1:=BZ x;have hd2:=nu x;refine zcx [.tmp 2] func303 ntmps303 ?_;refine W1 ?_
  refine aT (ι:=Nat×Nat) zmx rfl [3,7,8,9] (fun y=>[.c (.d (.i .i64 y.2)),.c (.d (.sl (x.fArgs.map ak.enc))),.c (.d (.i .i64 x.fArgs.length)),.c (.d (.i .i64 y.1))]) (fun y=>[.box [.d (.i .i64 x.aK),.d (.s x.fName),.d (.sl (x.fArgs.map ak.enc))]]::S)
   (fun y=>y.1<=x.fArgs.length/\oC x=max y.2 (depths (x.fArgs.drop y.1))) (fun y=>x.fArgs.length-y.1) (0,0) rfl rfl ⟨Nat.zero_le _,by simp[SF]⟩ ?_
  rintro⟨i,c⟩ ⟨p1,p2⟩;simp only at p1 p2;refine W1 ?_;refine S0 (fun hb h=>?_) fun hb h=>?_
  ·have hi:i<x.fArgs.length:=by omega
   have hsz':=xg hi hsz;rw[MC hi] at p2;have hd3:=BZ x.fArgs[i];have hd4:=nu x.fArgs[i];refine W3 ?_;refine C2 (ih x.fArgs[i] (by have:=List.sizeOf_lt_of_mem (List.getElem_mem hi);omega) (by omega)) ?_;rw[show max (c:Int) ((oC x.fArgs[i]:Int)+1)=((max c (oC x.fArgs[i]+1):Nat):Int) by omega];exact bX 1 (by decide) (i+1,max c (oC x.fArgs[i]+1)) (by simp only;omega) rfl rfl rfl rfl ⟨by simp only;omega,by simp only;omega⟩
  ·have hi:i=x.fArgs.length:=by omega
   rw[hi,List.drop_length,depths] at p2;exact int_eq (by omega)
theorem WS(x:ak)(hsz:x.sz<=4194304):aH prog 303 [x.v] (.c (.d (.i .i64 (oC x)))):=Jc _ x (Nat.lt_succ_self _) hsz
theorem J4:∀n:Nat,∀x:ak,SizeOf.sizeOf x<n->x.sz<=4194304->aH prog 304 [x.v] (.c (.d (.i .i64 x.cnt)))
 |0=>fun x h=>by omega
 |n+1=>by
  have ih:=J4 n;intro x hn hsz S;have j3:=ak.gT x;have hts:=EX hsz;have hd2:=nu x;refine zcx [.tmp 2] func304 ntmps304 ?_;refine W1 ?_
  refine aT (ι:=Nat×Nat) zmx rfl [3,7,8,9] (fun y=>[.c (.d (.i .i64 y.2)),.c (.d (.sl (x.fArgs.map ak.enc))),.c (.d (.i .i64 x.fArgs.length)),.c (.d (.i .i64 y.1))]) (fun y=>[.box [.d (.i .i64 x.aK),.d (.s x.fName),.d (.sl (x.fArgs.map ak.enc))]]::S)
   (fun y=>y.1<=x.fArgs.length/\x.cnt=y.2+ak.eB (x.fArgs.drop y.1)) (fun y=>x.fArgs.length-y.1) (0,1) rfl rfl ⟨Nat.zero_le _,by simp[ak.rE]⟩ ?_
  rintro⟨i,c⟩ ⟨p1,p2⟩;simp only at p1 p2;refine W1 ?_;refine S0 (fun hb h=>?_) fun hb h=>?_
  ·have hi:i<x.fArgs.length:=by omega
   have hsz':=xg hi hsz;rw[nP hi] at p2;refine W3 ?_;refine C2 (ih x.fArgs[i] (by have:=List.sizeOf_lt_of_mem (List.getElem_mem hi);omega) (by omega)) ?_;rw[show(c:Int)+(x.fArgs[i].cnt:Int)=((c+x.fArgs[i].cnt:Nat):Int) by omega];exact bX 1 (by decide) (i+1,c+x.fArgs[i].cnt) (by simp only;omega) rfl rfl rfl rfl ⟨by simp only;omega,by simp only;omega⟩
  ·have hi:i=x.fArgs.length:=by omega
   rw[hi,List.drop_length,ak.eB] at p2;exact int_eq (by omega)
theorem Zo(x:ak)(hsz:x.sz<=4194304):aH prog 304 [x.v] (.c (.d (.i .i64 x.cnt))):=J4 _ x (Nat.lt_succ_self _) hsz
theorem J5:∀n:Nat,(∀x:ak,SizeOf.sizeOf x<n->x.sz<=4194304->aH prog 302 [x.v] (.c (.d (.b (formed x)))))/\
 (∀xs:List ak,SizeOf.sizeOf xs<n->xs.length<=4194304->(∀t∈xs,t.sz<=4194304)->aH prog 281 [.c (.d (.sl (xs.map ak.enc))),.c (.fn 323 [])] (.c (.d (.b (!jm xs)))))
 |0=>⟨fun x h=>by omega,fun x h=>by omega⟩
 |n+1=>by
  obtain⟨ih,qU⟩:=J5 n;refine⟨fun x hn hsz S=> ?_,fun xs hn hlen hsz S=> ?_⟩
  ·have j3:=ak.gT x;have hts:=EX hsz
   have fin:∀b,Dl x.aK x.fName x.fArgs.length=b->formed x=(b&&jm x.fArgs):=fun b hb=>by rw[<-hb];exact zh x
   have hall:∀t∈x.fArgs,t.sz<=4194304:=fun t ht=>by
    obtain⟨i,hi,e⟩:=List.getElem_of_mem ht;rw[<-e];exact(xg hi hsz).1
   have tail:=qU x.fArgs (by omega) hts.1 hall
   have yes:Dl x.aK x.fName x.fArgs.length=true->formed x= !(!jm x.fArgs):=fun h=>by rw[fin _ h];simp
   have no:Dl x.aK x.fName x.fArgs.length=false->formed x=false:=fun h=>by rw[fin _ h];simp
   have shut:¬((x.aK=1\/x.aK=4)/\validName x.fName=true/\x.fArgs.length=0\/x.aK=3/\validName x.fName=true/\x.fArgs.length=1\/x.aK=2/\(validName x.fName=true/\x.fArgs.length<=3\/yP x.fName=true/\x.fArgs.length=0))->V.c (.d (.b false))=V.c (.d (.b (formed x))):=fun h=>ay (no (aB h)).symm;have open_:((x.aK=1\/x.aK=4)/\validName x.fName=true/\x.fArgs.length=0\/x.aK=3/\validName x.fName=true/\x.fArgs.length=1\/x.aK=2/\(validName x.fName=true/\x.fArgs.length<=3\/yP x.fName=true/\x.fArgs.length=0))->V.c (.d (.b (!(!jm x.fArgs))))=V.c (.d (.b (formed x))):=fun h=>ay (yes (aZ h)).symm;clear yes no fin;refine zcx [.tmp 2] func302 ntmps302 ?_;refine W1 ?_
   repeat' (first
    |(refine S0 (fun hb h=>?_) fun hb h=>?_)
    |(refine aX (iL x.fName (by omega)) ?_;refine W1 ?_)
    |(refine aX (WM x.fName) ?_;refine W1 ?_)
    |(refine aX tail ?_;refine W1 ?_))
   all_goals first
    |(refine shut (fun y=> ?_);rcases y with⟨_,_,_⟩|⟨_,_,_⟩|⟨_,⟨_,_⟩|⟨_,_⟩⟩<;>first|omega|(simp_all;done))
    |(refine open_ ?_;first
       |exact .inl ⟨by omega,by assumption,by omega⟩
       |exact .inr (.inl ⟨by omega,by assumption,by omega⟩)
       |exact .inr (.inr ⟨by omega,.inl ⟨by assumption,by omega⟩⟩)
       |exact .inr (.inr ⟨by omega,.inr ⟨by assumption,by omega⟩⟩))
  ·have hcl:∀y∈xs,aH prog 323 [y.v] (.c (.d (.b (!formed y)))):=fun y hy S=>by
    have hys:=List.sizeOf_lt_of_mem hy;refine zcx [.tmp 2] func323 ntmps323 ?_;refine W1 ?_;exact C4 (ih y (by omega) (hsz y hy))
   have hidx:aH prog 312 [.c (.d (.sl (xs.map ak.enc))),.c (.fn 323 [])] (.c (.d (.i .i64 (uL (fun y=> !formed y) xs)))):=fun S=>by
    refine zcx [.tmp 4] func312 ntmps312 ?_;refine W1 ?_
    refine aT (ι:=Nat) zmx rfl [0,1,7,8] (fun i=>[.c (.d (.sl (xs.map ak.enc))),.c (.fn 323 []),.c (.d (.i .i64 xs.length)),.c (.d (.i .i64 i))]) (fun _=>[]::S)
     (fun i=>i<=xs.length/\∀j,∀hj:j<xs.length,j<i->formed xs[j]=true) (fun i=>xs.length-i) 0 rfl rfl ⟨Nat.zero_le _,fun j _ h=>by omega⟩ ?_
    rintro i ⟨p1,p2⟩;refine W1 ?_;refine S0 (fun hb h=>?_) fun hb h=>?_
    ·have hi:i<xs.length:=by omega
     refine W3 ?_;refine C2 (hcl xs[i] (List.getElem_mem hi)) ?_;refine S0 (fun hb h=>?_) fun hb h=>?_
     ·rw[uf hi (fun j hj hji=>by rw[p2 j hj hji];rfl) (by rw[h];rfl)]
     ·refine bF (i+1) (by omega) rfl rfl ⟨by omega,fun j hj hji=> ?_⟩;by_cases e:j=i
      ·subst e;exact h
      ·exact p2 j hj (by omega)
    ·rw[wU (fun j hj=>by rw[p2 j hj (by omega)];rfl)]
   refine zcx [.tmp 4] func281 ntmps281 ?_;refine W1 ?_;refine C2 (hidx) ?_;rw[<-Mv];exact ay vw
theorem Zp(x:ak)(hsz:x.sz<=4194304):aH prog 302 [x.v] (.c (.d (.b (formed x)))):=(J5 _).1 x (Nat.lt_succ_self _) hsz
theorem yS(x:ak)(hsz:x.sz<=4194304):aH prog 261 [x.v] (.c (.d (.b (pq x)))):=fun S=>by
 refine zcx [.tmp 2] func261 ntmps261 ?_;refine W1 ?_;refine C2 (Zp x hsz) ?_;refine S0 (fun hb h=>?_) fun hb h=>?_
 ·have h1:=h;refine C2 (WS x hsz) ?_;refine S0 (fun hb h=>?_) fun hb h=>?_
  ·refine C2 (Zo x hsz) ?_;exact ay (by rw[kE];exact iB ⟨fun y=>⟨h1,by omega,by omega⟩,fun y=>by have:=y.2.2;omega⟩)
  ·exact ay (aB fun y=>by have:=y.2.1;omega).symm
 ·exact ay (aB fun y=>by rw[y.1] at h;cases h).symm
theorem Pf:∀n:Nat,∀x:ak,SizeOf.sizeOf x<n->x.sz<=4194304->aH prog 254 [x.v] (.c (.d (.b (formed x))))
 |0=>fun x h=>by omega
 |n+1=>by
  have ih:=Pf n;intro x hn hsz S;have j3:=ak.gT x;have hts:=EX hsz;have shut:¬((x.aK=1\/x.aK=4)/\validName x.fName=true/\x.fArgs.length=0\/x.aK=3/\validName x.fName=true/\x.fArgs.length=1\/x.aK=2/\(validName x.fName=true/\x.fArgs.length<=3\/yP x.fName=true/\x.fArgs.length=0))->V.c (.d (.b false))=V.c (.d (.b (formed x))):=fun h=>ay (by rw[zh,show Dl x.aK x.fName x.fArgs.length=false from aB h];rfl)
  have apI:∀b:Bool,(b=true<->((x.aK=1\/x.aK=4)/\validName x.fName=true/\x.fArgs.length=0\/x.aK=3/\validName x.fName=true/\x.fArgs.length=1\/x.aK=2/\(validName x.fName=true/\x.fArgs.length<=3\/yP x.fName=true/\x.fArgs.length=0)))->b=Dl x.aK x.fName x.fArgs.length:=fun b h=>by
   rw[Bool.eq_iff_iff,h];unfold Dl;rw[Bt]
  refine zcx [.tmp 2] func254 ntmps254 ?_;refine W1 ?_;refine C2 (iM x.fName (by omega)) ?_
  repeat' (first
   |(refine S0 (fun hb h=>?_) fun hb h=>?_)
   |(refine aX (afm x.fName) ?_;refine W1 ?_))
  all_goals first
   |(refine shut (fun y=> ?_);rcases y with⟨_,_,_⟩|⟨_,_,_⟩|⟨_,⟨_,_⟩|⟨_,_⟩⟩<;>first|omega|(simp_all;done))
   |skip
  all_goals
   refine aT (ι:=Nat×Bool) zmx rfl [1,3,4] (fun y=>[.c (.ptr (0,0) 0),.c (.d (.b y.2)),.c (.d (.i .i64 y.1))]) (fun y=>[.box [.d (.i .i64 x.aK),.d (.s x.fName),.d (.sl (x.fArgs.map ak.enc))]]::S)
    (fun y=>y.1<=x.fArgs.length/\(y.2&&jm (x.fArgs.drop y.1))=formed x) (fun y=>x.fArgs.length-y.1) (0,Dl x.aK x.fName x.fArgs.length) ?_ rfl ⟨Nat.zero_le _,by rw[zh];rfl⟩ ?_
   ·simp only[List.map_cons,List.map_nil];simp -implicitDefEqProofs (disch:=omega) only[go_sem,List.cons.injEq,V.c.injEq,C.d.injEq,D.b.injEq,Int.natCast_zero];refine apI _ ⟨fun y=> ?_,fun y=> ?_⟩
    ·(try simp only[decide_eq_true_eq,Bool.false_eq_true] at y)<;>first
       |exact .inl ⟨by omega,by assumption,by omega⟩
       |exact .inr (.inl ⟨by omega,by assumption,by omega⟩)
       |exact .inr (.inr ⟨by omega,.inl ⟨by assumption,by omega⟩⟩)
       |exact .inr (.inr ⟨by omega,.inr ⟨by assumption,by omega⟩⟩)
    ·rcases y with⟨_,_,_⟩|⟨_,_,_⟩|⟨_,⟨_,_⟩|⟨_,_⟩⟩<;>first|omega|(simp only[decide_eq_true_eq];omega)|(simp_all;done)
   rintro⟨i,c⟩ ⟨p1,p2⟩;simp only at p1 p2;refine W1 ?_;refine S0 (fun hb h=>?_) fun hb h=>?_
   ·have hi:i<x.fArgs.length:=by omega
    have hsz':=xg hi hsz;rw[WO hi] at p2;refine S0 (fun hb h=>?_) fun hb h=>?_
    ·refine C1 (ih x.fArgs[i] (by have:=List.sizeOf_lt_of_mem (List.getElem_mem hi);omega) (by omega)) ?_;exact bF (i+1,formed x.fArgs[i]) (by simp only;omega) rfl rfl ⟨by simp only;omega,by rw[<-p2,h];rfl⟩
    ·exact bF (i+1,false) (by simp only;omega) rfl rfl ⟨by simp only;omega,by rw[<-p2,h];rfl⟩
   ·have hi:i=x.fArgs.length:=by omega
    rw[hi,List.drop_length,jm,Bool.and_true] at p2;rw[p2]
theorem afo(x:ak)(hsz:x.sz<=4194304):aH prog 254 [x.v] (.c (.d (.b (formed x)))):=Pf _ x (Nat.lt_succ_self _) hsz
theorem yT(x:ak)(hsz:x.sz<=4194304):aH prog 183 [x.v] (.c (.d (.b (pq x)))):=fun S=>by
 refine zcx [.tmp 2] func183 ntmps183 ?_;refine W1 ?_;refine C2 (afn x 60 (by omega) (by omega) hsz) ?_;refine S0 (fun hb h=>?_) fun hb h=>?_
 ·have h1:=(Lp (l:=60) (a:=x.cnt) (by omega)).2;refine C2 (WR x hsz) ?_;refine S0 (fun hb h=>?_) fun hb h=>?_
  ·refine C2 (afo x hsz) ?_;refine ay ?_
   cases hf:formed x with
   |false=>exact(aB fun y=>by rw[hf] at y;cases y.1).symm
   |true=>exact(aZ ⟨hf,by omega,by omega⟩).symm
  ·exact ay (aB fun y=>by have:=y.2.1;omega).symm
 ·have h1:=H9 (l:=60) (a:=x.cnt) (by omega);exact ay (aB fun y=>by have:=y.2.2;omega).symm
theorem L6(x:bn)(hn:x.bC.length<=1073741824)(hsz:x.fType.sz<=4194304):aH prog 308 [x.v] (.c (.d (.b (validName x.bC&&pq x.fType)))):=fun S=>by
 refine zcx [.tmp 2] func308 ntmps308 ?_;refine W1 ?_;refine C2 (iM x.bC hn) ?_;refine S0 (fun hb h=>?_) fun hb h=>?_
 ·exact C4 (yT x.fType hsz)
 ·rfl
theorem L8(x:bn)(hn:x.bC.length<=1073741824)(hsz:x.fType.sz<=4194304):aH prog 289 [x.v] (.c (.d (.b (validName x.bC&&pq x.fType)))):=fun S=>by
 refine zcx [.tmp 2] func289 ntmps289 ?_;refine W1 ?_;refine C2 (iL x.bC hn) ?_;refine S0 (fun hb h=>?_) fun hb h=>?_
 ·exact C4 (yS x.fType hsz)
 ·rfl
theorem Nb(g:Nat)(xs ys:List au)(hl:xs.length<=1073741824)(hg:∀x∈xs,∀y,aH prog g [x.v,y.v] (.c (.d (.b (dec (x=y)))))):
 aH prog 332 [.c (.d (.sl (xs.map au.enc))),.c (.d (.sl (ys.map au.enc))),.c (.fn g [])] (.c (.d (.b (dec (xs=ys))))):=fun S=>by
 refine zcx [.tmp 6] func332 ntmps332 ?_;refine W1 ?_;refine S0 (fun hb h=>?_) fun hb h=>?_
 ·exact ay (aB (fun e=>h (by rw[e]))).symm
 have hl':xs.length=ys.length:=by omega
 refine aT (ι:=Nat) zmx rfl [1,2,15,16,17] (fun y=>[.c (.d (.sl (ys.map au.enc))),.c (.fn g []),.c (.d (.sl (xs.map au.enc))),.c (.d (.i .i64 xs.length)),.c (.d (.i .i64 y))]) (fun y=>[]::S)
  (fun i=>i<=xs.length/\∀j,j<i->xs[j]? =ys[j]?) (fun y=>xs.length-y) 0 rfl rfl ⟨Nat.zero_le _,fun j h=>by omega⟩ ?_
 rintro i ⟨p1,p2⟩;refine W1 ?_;refine S0 (fun hb h=>?_) fun hb h=>?_
 ·have hi:i<xs.length:=by omega
  have hi':i<ys.length:=by omega
  refine W3 ?_;refine C1 (hg xs[i] (List.getElem_mem hi) ys[i]) ?_;refine S0 (fun hb h=>?_) fun hb h=>?_
  ·exact ay (aB (fun e=>h (by simp only[e]))).symm
  refine bX 0 (by decide) (i+1) (by omega) rfl rfl rfl rfl ⟨by omega,fun j hj=> ?_⟩;by_cases e:j=i
  ·subst e;rw[List.getElem?_eq_getElem hi,List.getElem?_eq_getElem hi',h]
  ·exact p2 j (by omega)
 ·have hi:i=xs.length:=by omega
  refine ay (aZ (List.ext_getElem? fun j=> ?_)).symm;by_cases hj:j<i
  ·exact p2 j hj
  ·rw[List.getElem?_eq_none (by omega),List.getElem?_eq_none (by omega)]
theorem Pg(g:Nat)(xs ys:List aR)(hl:xs.length<=1073741824)(hg:∀x∈xs,∀y,aH prog g [x.v,y.v] (.c (.d (.b (dec (x=y)))))):
 aH prog 333 [.c (.d (.sl (xs.map aR.enc))),.c (.d (.sl (ys.map aR.enc))),.c (.fn g [])] (.c (.d (.b (dec (xs=ys))))):=fun S=>by
 refine zcx [.tmp 6] func333 ntmps333 ?_;refine W1 ?_;refine S0 (fun hb h=>?_) fun hb h=>?_
 ·exact ay (aB (fun e=>h (by rw[e]))).symm
 have hl':xs.length=ys.length:=by omega
 refine aT (ι:=Nat) zmx rfl [1,2,15,16,17] (fun y=>[.c (.d (.sl (ys.map aR.enc))),.c (.fn g []),.c (.d (.sl (xs.map aR.enc))),.c (.d (.i .i64 xs.length)),.c (.d (.i .i64 y))]) (fun y=>[]::S)
  (fun i=>i<=xs.length/\∀j,j<i->xs[j]? =ys[j]?) (fun y=>xs.length-y) 0 rfl rfl ⟨Nat.zero_le _,fun j h=>by omega⟩ ?_
 rintro i ⟨p1,p2⟩;refine W1 ?_;refine S0 (fun hb h=>?_) fun hb h=>?_
 ·have hi:i<xs.length:=by omega
  have hi':i<ys.length:=by omega
  refine W3 ?_;refine C1 (hg xs[i] (List.getElem_mem hi) ys[i]) ?_;refine S0 (fun hb h=>?_) fun hb h=>?_
  ·exact ay (aB (fun e=>h (by simp only[e]))).symm
  refine bX 0 (by decide) (i+1) (by omega) rfl rfl rfl rfl ⟨by omega,fun j hj=> ?_⟩;by_cases e:j=i
  ·subst e;rw[List.getElem?_eq_getElem hi,List.getElem?_eq_getElem hi',h]
  ·exact p2 j (by omega)
 ·have hi:i=xs.length:=by omega
  refine ay (aZ (List.ext_getElem? fun j=> ?_)).symm;by_cases hj:j<i
  ·exact p2 j hj
  ·rw[List.getElem?_eq_none (by omega),List.getElem?_eq_none (by omega)]
theorem Nc(g:Nat)(caps:List (Key×Nat))(S:Store)(xs:List ak)(p:ak->Bool)(hl:xs.length<=1073741824)(hp:∀x∈xs,qp prog g caps S [x.v] (.c (.d (.b (p x))))):
 dh prog 312 [.c (.d (.sl (xs.map ak.enc))),.c (.fn g caps)] S (fun r S'=>r=.c (.d (.i .i64 (uL p xs)))/\S'=S):=by
 refine zcx [.tmp 4] func312 ntmps312 ?_;refine W1 ?_
 refine aT (ι:=Nat) zmx rfl [0,1,7,8] (fun i=>[.c (.d (.sl (xs.map ak.enc))),.c (.fn g (jT 1 caps)),.c (.d (.i .i64 xs.length)),.c (.d (.i .i64 i))]) (fun _=>[]::S)
  (fun i=>i<=xs.length/\∀j,∀hj:j<xs.length,j<i->p xs[j]=false) (fun i=>xs.length-i) 0 rfl rfl ⟨Nat.zero_le _,fun j _ h=>by omega⟩ ?_
 rintro i ⟨p1,p2⟩;refine W1 ?_;refine S0 (fun hb h=>?_) fun hb h=>?_
 ·have hi:i<xs.length:=by omega
  refine W3 ?_;refine bg rfl (hp xs[i] (List.getElem_mem hi) [_]) ?_;refine W1 ?_;refine S0 (fun hb h=>?_) fun hb h=>?_
  ·rw[uf hi p2 h]
  ·refine bF (i+1) (by omega) rfl rfl ⟨by omega,fun j hj hji=> ?_⟩;by_cases e:j=i
   ·subst e;exact h
   ·exact p2 j hj (by omega)
 ·rw[wU (fun j hj=>p2 j hj (by omega))]
theorem Ju(g:Nat)(caps:List (Key×Nat))(S:Store)(xs:List ak)(p:ak->Bool)(hl:xs.length<=1073741824)(hp:∀x∈xs,qp prog g caps S [x.v] (.c (.d (.b (p x))))):
 dh prog 281 [.c (.d (.sl (xs.map ak.enc))),.c (.fn g caps)] S (fun r S'=>r=.c (.d (.b (xs.any p)))/\S'=S):=by
 refine zcx [.tmp 4] func281 ntmps281 ?_;refine W1 ?_;refine bg rfl (Nc g (jT 1 caps) _ xs p hl fun x hx=>(hp x hx).push _) ?_;refine W1 ?_;exact ay vw
theorem Nf(g:Nat)(caps:List (Key×Nat))(S:Store)(xs:List au)(p:au->Bool)(hl:xs.length<=1073741824)(hp:∀x∈xs,qp prog g caps S [x.v] (.c (.d (.b (p x))))):
 dh prog 262 [.c (.d (.sl (xs.map au.enc))),.c (.fn g caps)] S (fun r S'=>r=.c (.d (.i .i64 (uL p xs)))/\S'=S):=by
 refine zcx [.tmp 4] func262 ntmps262 ?_;refine W1 ?_
 refine aT (ι:=Nat) zmx rfl [0,1,7,8] (fun i=>[.c (.d (.sl (xs.map au.enc))),.c (.fn g (jT 1 caps)),.c (.d (.i .i64 xs.length)),.c (.d (.i .i64 i))]) (fun _=>[]::S)
  (fun i=>i<=xs.length/\∀j,∀hj:j<xs.length,j<i->p xs[j]=false) (fun i=>xs.length-i) 0 rfl rfl ⟨Nat.zero_le _,fun j _ h=>by omega⟩ ?_
 rintro i ⟨p1,p2⟩;refine W1 ?_;refine S0 (fun hb h=>?_) fun hb h=>?_
 ·have hi:i<xs.length:=by omega
  refine W3 ?_;refine bg rfl (hp xs[i] (List.getElem_mem hi) [_]) ?_;refine W1 ?_;refine S0 (fun hb h=>?_) fun hb h=>?_
  ·rw[uf hi p2 h]
  ·refine bF (i+1) (by omega) rfl rfl ⟨by omega,fun j hj hji=> ?_⟩;by_cases e:j=i
   ·subst e;exact h
   ·exact p2 j hj (by omega)
 ·rw[wU (fun j hj=>p2 j hj (by omega))]
theorem Jv(g:Nat)(caps:List (Key×Nat))(S:Store)(xs:List au)(p:au->Bool)(hl:xs.length<=1073741824)(hp:∀x∈xs,qp prog g caps S [x.v] (.c (.d (.b (p x))))):
 dh prog 197 [.c (.d (.sl (xs.map au.enc))),.c (.fn g caps)] S (fun r S'=>r=.c (.d (.b (xs.any p)))/\S'=S):=by
 refine zcx [.tmp 4] func197 ntmps197 ?_;refine W1 ?_;refine bg rfl (Nf g (jT 1 caps) _ xs p hl fun x hx=>(hp x hx).push _) ?_;refine W1 ?_;exact ay vw
theorem Ph(g:Nat)(caps:List (Key×Nat))(S:Store)(xs:List aR)(p:aR->Bool)(hl:xs.length<=1073741824)(hp:∀x∈xs,qp prog g caps S [x.v] (.c (.d (.b (p x))))):
 dh prog 263 [.c (.d (.sl (xs.map aR.enc))),.c (.fn g caps)] S (fun r S'=>r=.c (.d (.i .i64 (uL p xs)))/\S'=S):=by
 refine zcx [.tmp 4] func263 ntmps263 ?_;refine W1 ?_
 refine aT (ι:=Nat) zmx rfl [0,1,7,8] (fun i=>[.c (.d (.sl (xs.map aR.enc))),.c (.fn g (jT 1 caps)),.c (.d (.i .i64 xs.length)),.c (.d (.i .i64 i))]) (fun _=>[]::S)
  (fun i=>i<=xs.length/\∀j,∀hj:j<xs.length,j<i->p xs[j]=false) (fun i=>xs.length-i) 0 rfl rfl ⟨Nat.zero_le _,fun j _ h=>by omega⟩ ?_
 rintro i ⟨p1,p2⟩;refine W1 ?_;refine S0 (fun hb h=>?_) fun hb h=>?_
 ·have hi:i<xs.length:=by omega
  refine W3 ?_;refine bg rfl (hp xs[i] (List.getElem_mem hi) [_]) ?_;refine W1 ?_;refine S0 (fun hb h=>?_) fun hb h=>?_
  ·rw[uf hi p2 h]
  ·refine bF (i+1) (by omega) rfl rfl ⟨by omega,fun j hj hji=> ?_⟩;by_cases e:j=i
   ·subst e;exact h
   ·exact p2 j hj (by omega)
 ·rw[wU (fun j hj=>p2 j hj (by omega))]
theorem J6(g:Nat)(caps:List (Key×Nat))(S:Store)(xs:List aR)(p:aR->Bool)(hl:xs.length<=1073741824)(hp:∀x∈xs,qp prog g caps S [x.v] (.c (.d (.b (p x))))):
 dh prog 199 [.c (.d (.sl (xs.map aR.enc))),.c (.fn g caps)] S (fun r S'=>r=.c (.d (.b (xs.any p)))/\S'=S):=by
 refine zcx [.tmp 4] func199 ntmps199 ?_;refine W1 ?_;refine bg rfl (Ph g (jT 1 caps) _ xs p hl fun x hx=>(hp x hx).push _) ?_;refine W1 ?_;exact ay vw
theorem L9(g:Nat)(caps:List (Key×Nat))(S:Store)(xs:List bn)(p:bn->Bool)(hl:xs.length<=1073741824)(hp:∀x∈xs,qp prog g caps S [x.v] (.c (.d (.b (p x))))):
 dh prog 314 [.c (.d (.sl (xs.map bn.enc))),.c (.fn g caps)] S (fun r S'=>r=.c (.d (.i .i64 (uL p xs)))/\S'=S):=by
 refine zcx [.tmp 4] func314 ntmps314 ?_;refine W1 ?_
 refine aT (ι:=Nat) zmx rfl [0,1,7,8] (fun i=>[.c (.d (.sl (xs.map bn.enc))),.c (.fn g (jT 1 caps)),.c (.d (.i .i64 xs.length)),.c (.d (.i .i64 i))]) (fun _=>[]::S)
  (fun i=>i<=xs.length/\∀j,∀hj:j<xs.length,j<i->p xs[j]=false) (fun i=>xs.length-i) 0 rfl rfl ⟨Nat.zero_le _,fun j _ h=>by omega⟩ ?_
 rintro i ⟨p1,p2⟩;refine W1 ?_;refine S0 (fun hb h=>?_) fun hb h=>?_
 ·have hi:i<xs.length:=by omega
  refine W3 ?_;refine bg rfl (hp xs[i] (List.getElem_mem hi) [_]) ?_;refine W1 ?_;refine S0 (fun hb h=>?_) fun hb h=>?_
  ·rw[uf hi p2 h]
  ·refine bF (i+1) (by omega) rfl rfl ⟨by omega,fun j hj hji=> ?_⟩;by_cases e:j=i
   ·subst e;exact h
   ·exact p2 j hj (by omega)
 ·rw[wU (fun j hj=>p2 j hj (by omega))]
theorem Ie(g:Nat)(caps:List (Key×Nat))(S:Store)(xs:List bn)(p:bn->Bool)(hl:xs.length<=1073741824)(hp:∀x∈xs,qp prog g caps S [x.v] (.c (.d (.b (p x))))):
 dh prog 287 [.c (.d (.sl (xs.map bn.enc))),.c (.fn g caps)] S (fun r S'=>r=.c (.d (.b (xs.any p)))/\S'=S):=by
 refine zcx [.tmp 4] func287 ntmps287 ?_;refine W1 ?_;refine bg rfl (L9 g (jT 1 caps) _ xs p hl fun x hx=>(hp x hx).push _) ?_;refine W1 ?_;exact ay vw
theorem J7(g:Nat)(caps:List (Key×Nat))(S:Store)(xs:List (List UInt8))(p:(List UInt8)->Bool)(hl:xs.length<=1073741824)(hp:∀x∈xs,qp prog g caps S [.c (.d (.s x))] (.c (.d (.b (p x))))):
 dh prog 279 [.c (.d (.sl (xs.map encS))),.c (.fn g caps)] S (fun r S'=>r=.c (.d (.i .i64 (uL p xs)))/\S'=S):=by
 refine zcx [.tmp 4] func279 ntmps279 ?_;simp -implicitDefEqProofs (disch:=omega) only[go_sem,encS]
 refine aT (ι:=Nat) zmx rfl [0,1,7,8] (fun i=>[.c (.d (.sl (xs.map encS))),.c (.fn g (jT 1 caps)),.c (.d (.i .i64 xs.length)),.c (.d (.i .i64 i))]) (fun _=>[]::S)
  (fun i=>i<=xs.length/\∀j,∀hj:j<xs.length,j<i->p xs[j]=false) (fun i=>xs.length-i) 0 rfl rfl ⟨Nat.zero_le _,fun j _ h=>by omega⟩ ?_
 rintro i ⟨p1,p2⟩;simp -implicitDefEqProofs (disch:=omega) only[go_sem,encS]
 with_reducible refine dD (fun hb=> ?_) (fun hb=> ?_)<;>have h:=hb<;>(try simp only[wf_preprocess] at h)<;>simp -implicitDefEqProofs (disch:=omega) only[go_sem,hb,encS]<;>refine W3 ?_
 ·have hi:i<xs.length:=by omega
  refine W3 ?_;refine bg rfl (hp xs[i] (List.getElem_mem hi) [_]) ?_;simp -implicitDefEqProofs (disch:=omega) only[go_sem,encS]
  with_reducible refine dD (fun hb=> ?_) (fun hb=> ?_)<;>have h:=hb<;>(try simp only[wf_preprocess] at h)<;>simp -implicitDefEqProofs (disch:=omega) only[go_sem,hb,encS]<;>refine W3 ?_
  ·rw[uf hi p2 h]
  ·refine bF (i+1) (by omega) rfl rfl ⟨by omega,fun j hj hji=> ?_⟩;by_cases e:j=i
   ·subst e;exact h
   ·exact p2 j hj (by omega)
 ·rw[wU (fun j hj=>p2 j hj (by omega))]
theorem zi(g:Nat)(caps:List (Key×Nat))(S:Store)(xs:List (List UInt8))(p:(List UInt8)->Bool)(hl:xs.length<=1073741824)(hp:∀x∈xs,qp prog g caps S [.c (.d (.s x))] (.c (.d (.b (p x))))):
 dh prog 226 [.c (.d (.sl (xs.map encS))),.c (.fn g caps)] S (fun r S'=>r=.c (.d (.b (xs.any p)))/\S'=S):=by
 refine zcx [.tmp 4] func226 ntmps226 ?_;simp -implicitDefEqProofs (disch:=omega) only[go_sem,encS];refine bg rfl (J7 g (jT 1 caps) _ xs p hl fun x hx=>(hp x hx).push _) ?_;simp -implicitDefEqProofs (disch:=omega) only[go_sem,encS];exact ay vw
theorem afp(xs ys:List (List UInt8))(hl:xs.length<=1073741824):aH prog 335 [.c (.d (.sl (xs.map encS))),.c (.d (.sl (ys.map encS)))] (.c (.d (.b (dec (xs=ys))))):=fun S=>by
 refine zcx [.tmp 4] func335 ntmps335 ?_;simp -implicitDefEqProofs (disch:=omega) only[go_sem,encS]
 with_reducible refine dD (fun hb=> ?_) (fun hb=> ?_)<;>have h:=hb<;>(try simp only[wf_preprocess] at h)<;>simp -implicitDefEqProofs (disch:=omega) only[go_sem,hb,encS]<;>refine W3 ?_
 ·exact ay (aB (fun e=>h (by rw[e]))).symm
 have hl':xs.length=ys.length:=by omega
 refine aT (ι:=Nat) zmx rfl [0,1,12,13] (fun i=>[.c (.d (.sl (xs.map encS))),.c (.d (.sl (ys.map encS))),.c (.d (.i .i64 xs.length)),.c (.d (.i .i64 i))]) (fun _=>[]::S)
  (fun i=>i<=xs.length/\∀j,j<i->xs[j]? =ys[j]?) (fun y=>xs.length-y) 0 rfl rfl ⟨Nat.zero_le _,fun j h=>by omega⟩ ?_
 rintro i ⟨p1,p2⟩;simp -implicitDefEqProofs (disch:=omega) only[go_sem,encS]
 with_reducible refine dD (fun hb=> ?_) (fun hb=> ?_)<;>have h:=hb<;>(try simp only[wf_preprocess] at h)<;>simp -implicitDefEqProofs (disch:=omega) only[go_sem,hb,encS]<;>refine W3 ?_
 ·have hi:i<xs.length:=by omega
  have hi':i<ys.length:=by omega
  refine W3 ?_
  with_reducible refine dD (fun hb=> ?_) (fun hb=> ?_)<;>have h:=hb<;>(try simp only[wf_preprocess] at h)<;>simp -implicitDefEqProofs (disch:=omega) only[go_sem,hb,encS]<;>refine W3 ?_
  ·exact ay (aB (fun e=>h (by simp only[e]))).symm
  refine bF (i+1) (by omega) rfl rfl ⟨by omega,fun j hj=> ?_⟩;by_cases e:j=i
  ·subst e;rw[List.getElem?_eq_getElem hi,List.getElem?_eq_getElem hi',h]
  ·exact p2 j (by omega)
 ·have hi:i=xs.length:=by omega
  refine ay (aZ (List.ext_getElem? fun j=> ?_)).symm;by_cases hj:j<i
  ·exact p2 j hj
  ·rw[List.getElem?_eq_none (by omega),List.getElem?_eq_none (by omega)]
theorem Zq(xs ys:List (List UInt8))(hl:xs.length<=1073741824):aH prog 348 [.c (.d (.sl (xs.map encS))),.c (.d (.sl (ys.map encS)))] (.c (.d (.b (dec (xs=ys))))):=fun S=>by
 refine zcx [.tmp 4] func348 ntmps348 ?_;simp -implicitDefEqProofs (disch:=omega) only[go_sem,encS]
 with_reducible refine dD (fun hb=> ?_) (fun hb=> ?_)<;>have h:=hb<;>(try simp only[wf_preprocess] at h)<;>simp -implicitDefEqProofs (disch:=omega) only[go_sem,hb,encS]<;>refine W3 ?_
 ·exact ay (aB (fun e=>h (by rw[e]))).symm
 have hl':xs.length=ys.length:=by omega
 refine aT (ι:=Nat) zmx rfl [0,1,5] (fun i=>[.c (.d (.sl (xs.map encS))),.c (.d (.sl (ys.map encS))),.c (.d (.i .i64 i))]) (fun _=>[]::S)
  (fun i=>i<=xs.length/\∀j,j<i->xs[j]? =ys[j]?) (fun y=>xs.length-y) 0 rfl rfl ⟨Nat.zero_le _,fun j h=>by omega⟩ ?_
 rintro i ⟨p1,p2⟩;simp -implicitDefEqProofs (disch:=omega) only[go_sem,encS]
 with_reducible refine dD (fun hb=> ?_) (fun hb=> ?_)<;>have h:=hb<;>(try simp only[wf_preprocess] at h)<;>simp -implicitDefEqProofs (disch:=omega) only[go_sem,hb,encS]<;>refine W3 ?_
 ·have hi:i<xs.length:=by omega
  have hi':i<ys.length:=by omega
  refine W3 ?_
  with_reducible refine dD (fun hb=> ?_) (fun hb=> ?_)<;>have h:=hb<;>(try simp only[wf_preprocess] at h)<;>simp -implicitDefEqProofs (disch:=omega) only[go_sem,hb,encS]<;>refine W3 ?_
  ·exact ay (aB (fun e=>h (by simp only[e]))).symm
  refine bF (i+1) (by omega) rfl rfl ⟨by omega,fun j hj=> ?_⟩;by_cases e:j=i
  ·subst e;rw[List.getElem?_eq_getElem hi,List.getElem?_eq_getElem hi',h]
  ·exact p2 j (by omega)
 ·have hi:i=xs.length:=by omega
  refine ay (aZ (List.ext_getElem? fun j=> ?_)).symm;by_cases hj:j<i
  ·exact p2 j hj
  ·rw[List.getElem?_eq_none (by omega),List.getElem?_eq_none (by omega)]
theorem tF{s:List UInt8}{xs:List (List UInt8)}(h:s∈xs):s.length<=bf (xs.map encS):=by
 have:=dA (List.mem_map_of_mem (f:=encS) h);simpa [encS,bT,D.sz] using this
noncomputable def iU(xs:List (List UInt8)):Bool:=dec xs.Nodup&&xs.all validName
noncomputable def among(xs ys:List (List UInt8)):Bool:=xs.all fun s=>dec (s∈ys)
noncomputable def iq(vars:List (List UInt8))(t:ak):Bool:=pq t&&among (jK [] t) vars
noncomputable def mO(vars:List (List UInt8))(ts:List ak):Bool:=ts.all (iq vars)
theorem aiC{s l:List UInt8}{m:List (List UInt8)}:s∈JG l m<->s=l\/s∈m:=by
 unfold JG;split
 ·rename_i h;exact⟨.inr,fun x=>x.elim (fun e=>e▸h) id⟩
 ·rw[List.mem_append,List.mem_singleton];exact Or.comm
theorem jc{α:Type}{xs:List α}{i:Nat}(hi:i<xs.length):xs.take (i+1)=xs.take i++[xs[i]]:=List.take_succ_eq_append_getElem hi
theorem Ig{α:Type}{xs:List α}{x:α}:(xs++[x]).Nodup<->xs.Nodup/\x∉xs:=by
 rw[List.nodup_append];constructor
 ·rintro⟨h1,_,h3⟩;exact⟨h1,fun hx=>h3 x hx x (by simp) rfl⟩
 ·rintro⟨h1,h2⟩;exact⟨h1,by simp,fun a ha b hb e=>by simp at hb;subst hb;exact h2 (e▸ha)⟩
theorem SX{α:Type}{xs:List α}{i:Nat}(hi:i<xs.length)(h:xs[i]∈xs.take i):¬xs.Nodup:=fun hn=>by
 have h1:(xs.take (i+1)).Nodup:=hn.sublist (List.take_sublist _ _);rw[jc hi] at h1;exact(Ig.1 h1).2 h
theorem qV(xs:List (List UInt8))(hl:xs.length<=1073741824):aH prog 225 [.c (.d (.sl (xs.map encS)))] (.c (.d (.b (dec xs.Nodup)))):=fun S=>by
 refine zcx [.tmp 2] func225 ntmps225 ?_;simp -implicitDefEqProofs (disch:=omega) only[go_sem,encS];refine W3 ?_
 refine aT (ι:=Nat×List (List UInt8)) zmx rfl [3,7,8,9] (fun y=>[.c (.mp (0,0)),.c (.d (.sl (xs.map encS))),.c (.d (.i .i64 xs.length)),.c (.d (.i .i64 y.1))]) (fun y=>[.mp y.2]::S)
  (fun y=>y.1<=xs.length/\(∀s,s∈y.2<->s∈xs.take y.1)/\(xs.take y.1).Nodup) (fun y=>xs.length-y.1) (0,[]) rfl rfl ⟨Nat.zero_le _,fun s=>by simp,by simp⟩ ?_
 rintro⟨i,m⟩ ⟨p1,p2,p3⟩;simp only at p1 p2 p3;simp -implicitDefEqProofs (disch:=omega) only[go_sem,encS]
 with_reducible refine dD (fun hb=> ?_) (fun hb=> ?_)<;>have h:=hb<;>(try simp only[wf_preprocess] at h)<;>simp -implicitDefEqProofs (disch:=omega) only[go_sem,hb,encS]<;>refine W3 ?_
 ·have hi:i<xs.length:=by omega
  refine W3 ?_
  with_reducible refine dD (fun hb=> ?_) (fun hb=> ?_)<;>have h:=hb<;>(try simp only[wf_preprocess] at h)<;>simp -implicitDefEqProofs (disch:=omega) only[go_sem,hb,encS]<;>refine W3 ?_
  ·exact ay (aB (SX hi ((p2 _).1 h))).symm
  ·refine bF (i+1,JG xs[i] m) (by simp only;omega) rfl rfl ⟨by simp only;omega,fun s=> ?_,?_⟩
   ·simp only
    rw[aiC,jc hi,List.mem_append,List.mem_singleton,p2];exact Or.comm
   ·simp only
    rw[jc hi,Ig];exact⟨p3,fun hx=>h ((p2 _).2 hx)⟩
 ·rw[List.take_of_length_le (by omega)] at p3;exact ay (aZ p3).symm
theorem qW(xs:List (List UInt8))(hl:xs.length<=1073741824):aH prog 151 [.c (.d (.sl (xs.map encS)))] (.c (.d (.b (dec xs.Nodup)))):=fun S=>by
 refine zcx [.tmp 2] func151 ntmps151 ?_;simp -implicitDefEqProofs (disch:=omega) only[go_sem,encS]
 refine aT (ι:=Nat) zmx rfl [0,3] (fun i=>[.c (.d (.sl (xs.map encS))),.c (.d (.i .i64 i))]) (fun _=>[]::S)
  (fun i=>i<=xs.length/\(xs.take i).Nodup) (fun i=>xs.length-i) 0 rfl rfl ⟨Nat.zero_le _,by simp⟩ ?_
 rintro i ⟨p1,p3⟩;simp -implicitDefEqProofs (disch:=omega) only[go_sem,encS]
 with_reducible refine dD (fun hb=> ?_) (fun hb=> ?_)<;>have h:=hb<;>(try simp only[wf_preprocess] at h)<;>simp -implicitDefEqProofs (disch:=omega) only[go_sem,hb,encS]<;>refine W3 ?_
 ·have hi:i<xs.length:=by omega
  have hc:∀y∈xs.map encS,y.length=1:=fun y hy=>by
   obtain⟨s,_,rfl⟩:=List.mem_map.1 hy;rfl
  have e:(xs.map encS).take i=(xs.take i).map encS:=List.map_take.symm;refine And.intro ⟨by omega,by omega,hc⟩ ?_;refine W3 ?_;simp -implicitDefEqProofs (disch:=omega) only[go_sem,Int.toNat_zero,e];refine C2 (sG (xs.take i) xs[i] (by simp;omega)) ?_;refine S0 (fun hb h=>?_) fun hb h=>?_
  ·exact ay (aB (SX hi h)).symm
  ·refine bF (i+1) (by omega) rfl rfl ⟨by omega,?_⟩;rw[jc hi,Ig];exact⟨p3,h⟩
 ·rw[List.take_of_length_le (by omega)] at p3;exact ay (aZ p3).symm
theorem Pj(xs:List (List UInt8))(hl:xs.length<=1073741824)(hs:∀s∈xs,s.length<=4194304):aH prog 185 [.c (.d (.sl (xs.map encS)))] (.c (.d (.b (xs.all validName)))):=fun S=>by
 refine zcx [.tmp 2] func185 ntmps185 ?_;simp -implicitDefEqProofs (disch:=omega) only[go_sem,encS]
 refine aT (ι:=Nat) zmx rfl [0,3] (fun i=>[.c (.d (.sl (xs.map encS))),.c (.d (.i .i64 i))]) (fun _=>[]::S)
  (fun i=>i<=xs.length/\(xs.drop i).all validName=xs.all validName) (fun i=>xs.length-i) 0 rfl rfl ⟨Nat.zero_le _,rfl⟩ ?_
 rintro i ⟨p1,p2⟩;simp -implicitDefEqProofs (disch:=omega) only[go_sem,encS]
 with_reducible refine dD (fun hb=> ?_) (fun hb=> ?_)<;>have h:=hb<;>(try simp only[wf_preprocess] at h)<;>simp -implicitDefEqProofs (disch:=omega) only[go_sem,hb,encS]<;>refine W3 ?_
 ·have hi:i<xs.length:=by omega
  have hz:=hs _ (List.getElem_mem hi);rw[List.drop_eq_getElem_cons hi,List.all_cons] at p2;refine W3 ?_;refine C2 (iM xs[i] (by omega)) ?_;refine S0 (fun hb h=>?_) fun hb h=>?_
  ·rw[<-p2,h];rfl
  ·exact bF (i+1) (by omega) rfl rfl ⟨by omega,by rw[<-p2,h];rfl⟩
 ·rw[List.drop_of_length_le (by omega)] at p2;rw[<-p2];rfl
theorem qw(xs:List (List UInt8))(hl:xs.length<=1073741824)(hs:∀s∈xs,s.length<=4194304):aH prog 158 [.c (.d (.sl (xs.map encS)))] (.c (.d (.b (iU xs)))):=fun S=>by
 have hcl:∀s∈xs,aH prog 227 [.c (.d (.s s))] (.c (.d (.b (!validName s)))):=fun s hx S=>by
  have:=hs s hx;refine zcx [.tmp 2] func227 ntmps227 ?_;refine W1 ?_;exact C4 (iL s (by omega))
 have ha:(xs.any fun s=> !validName s)= !xs.all validName:=by rw[List.not_all_eq_any_not]
 refine zcx [.tmp 2] func158 ntmps158 ?_;refine W1 ?_;refine C2 (qV xs hl) ?_;refine S0 (fun hb h=>?_) fun hb h=>?_
 ·refine bg rfl (zi 227 [] _ xs (fun s=> !validName s) hl fun s hx=>qp.Rc (hcl s hx)) ?_;refine W1 ?_;rw[ha];exact ay (by unfold iU;rw[hb];simp)
 ·exact ay (by unfold iU;rw[hb];rfl)
theorem Bz(xs ys:List (List UInt8))(hl:xs.length<=1073741824)(hl':ys.length<=1073741824):aH prog 234 [.c (.d (.sl (xs.map encS))),.c (.d (.sl (ys.map encS)))] (.c (.d (.b (among xs ys)))):=fun S=>by
 have ha:(xs.any fun s=> !dec (s∈ys))= !among xs ys:=by unfold among;rw[List.not_all_eq_any_not]
 have hcl:∀(rest:List Ab.Obj)(s:List UInt8),qp prog 285 [((0,0),0)] ((.box [.d (.sl (ys.map encS))]::rest)::S) [.c (.d (.s s))] (.c (.d (.b (!dec (s∈ys))))):=fun rest s F=>by
  refine zcx [.tmp 3] func285 ntmps285 ?_;refine W1 ?_;exact C4 (sH ys s hl')
 refine zcx [.tmp 4] func234 ntmps234 ?_;refine W1 ?_;refine bg rfl (zi 285 [((0,0),0)] _ xs (fun s=> !dec (s∈ys)) hl fun s hx=>hcl [] s) ?_;refine W1 ?_;rw[ha];exact ay (by simp)
theorem vO(t:ak)(vars:List (List UInt8))(hsz:t.sz<=4194304)(hv:vars.length<=1073741824):aH prog 232 [t.v,.c (.d (.sl (vars.map encS)))] (.c (.d (.b (iq vars t)))):=fun S=>by
 have h1:=Cg t [];have h2:=nu t;refine zcx [.tmp 4] func232 ntmps232 ?_;refine W1 ?_;refine C2 (yS t hsz) ?_;refine S0 (fun hb h=>?_) fun hb h=>?_
 ·refine C2 (zX t hsz) ?_;refine C2 (Bz (jK [] t) vars (by simp at h1;omega) hv) ?_;exact ay (by unfold iq;rw[hb];rfl)
 ·exact ay (by unfold iq;rw[hb];rfl)
theorem zY(ts:List ak)(vars:List (List UInt8))(hl:ts.length<=1073741824)(hsz:∀t∈ts,t.sz<=4194304)(hv:vars.length<=1073741824):aH prog 231 [.c (.d (.sl (ts.map ak.enc))),.c (.d (.sl (vars.map encS)))] (.c (.d (.b (mO vars ts)))):=fun S=>by
 have ha:(ts.any fun t=> !iq vars t)= !mO vars ts:=by unfold mO;rw[List.not_all_eq_any_not]
 have hcl:∀(rest:List Ab.Obj)(t:ak),t.sz<=4194304->qp prog 282 [((0,0),0)] ((.box [.d (.sl (vars.map encS))]::rest)::S) [t.v] (.c (.d (.b (!iq vars t)))):=fun rest t ht F=>by
  refine zcx [.tmp 3] func282 ntmps282 ?_;refine W1 ?_;exact C4 (vO t vars ht hv)
 refine zcx [.tmp 4] func231 ntmps231 ?_;refine W1 ?_;refine bg rfl (Ju 282 [((0,0),0)] _ ts (fun t=> !iq vars t) hl fun t hx=>hcl [] t (hsz t hx)) ?_;refine W1 ?_;rw[ha];exact ay (by simp)
theorem ny(xs:List (List UInt8))(most:Int)(hl:xs.length<=1073741824)(hs:∀s∈xs,s.length<=4194304):aH prog 149 [.c (.d (.sl (xs.map encS))),.c (.d (.i .i64 most))] (.c (.d (.b (dec ((xs.length:Int)<=most)&&iU xs)))):=fun S=>by
 refine zcx [.tmp 4] func149 ntmps149 ?_;refine W1 ?_;refine S0 (fun hb h=>?_) fun hb h=>?_
 ·have h1:=h;refine C2 (Pj xs hl hs) ?_;refine S0 (fun hb h=>?_) fun hb h=>?_
  ·refine C2 (qW xs hl) ?_;exact ay (by rw[aZ h1];unfold iU;rw[hb];simp)
  ·exact ay (by rw[aZ h1];unfold iU;rw[hb];simp)
 ·exact ay (by rw[aB h];rfl)
theorem vB(t:ak)(vars:List (List UInt8))(hsz:t.sz<=4194304)(hv:vars.length<=1073741824):aH prog 271 [t.v,.c (.d (.sl (vars.map encS)))] (.c (.d (.b (iq vars t)))):=fun S=>by
 have h1:=Cg t [];have h2:=nu t
 have hlen:(jK [] t).length<=1073741824:=by simp at h1;omega
 refine zcx [.tmp 4] func271 ntmps271 ?_;refine W1 ?_;refine C2 (O9 t hsz) ?_;generalize hxs:jK [] t=xs at hlen
 refine aT (ι:=Nat) zmx rfl [1,2,5,6] (fun i=>[.c (.d (.sl (vars.map encS))),.c (.ptr (0,0) 0),.c (.d (.sl (xs.map encS))),.c (.d (.i .i64 i))]) (fun _=>[.box [.d (.i .i64 t.aK),.d (.s t.fName),.d (.sl (t.fArgs.map ak.enc))]]::S)
  (fun i=>i<=xs.length/\among (xs.drop i) vars=among xs vars) (fun i=>xs.length-i) 0 rfl rfl ⟨Nat.zero_le _,rfl⟩ ?_
 rintro i ⟨p1,p2⟩;simp -implicitDefEqProofs (disch:=omega) only[go_sem,encS]
 with_reducible refine dD (fun hb=> ?_) (fun hb=> ?_)<;>have h:=hb<;>(try simp only[wf_preprocess] at h)<;>simp -implicitDefEqProofs (disch:=omega) only[go_sem,hb,encS]<;>refine W3 ?_
 ·have hi:i<xs.length:=by omega
  rw[List.drop_eq_getElem_cons hi] at p2;have p3:among xs vars=(dec (xs[i]∈vars)&&among (xs.drop (i+1)) vars):=p2.symm;refine W3 ?_;refine C2 (sG vars xs[i] hv) ?_;refine S0 (fun hb h=>?_) fun hb h=>?_
  ·exact ay (by unfold iq;rw[hxs,p3,aB h];simp)
  ·exact bF (i+1) (by omega) rfl rfl ⟨by omega,by rw[p3,aZ h];rfl⟩
 ·rw[List.drop_of_length_le (by omega)] at p2;have p3:among xs vars=true:=p2.symm;refine W3 ?_;refine C2 (yT t hsz) ?_;exact ay (by unfold iq;rw[hxs,p3];simp)
theorem SY(ts:List ak)(vars:List (List UInt8))(hl:ts.length<=1073741824)(hsz:∀t∈ts,t.sz<=4194304)(hv:vars.length<=1073741824):aH prog 270 [.c (.d (.sl (ts.map ak.enc))),.c (.d (.sl (vars.map encS)))] (.c (.d (.b (mO vars ts)))):=fun S=>by
 refine zcx [.tmp 4] func270 ntmps270 ?_;refine W1 ?_
 refine aT (ι:=Nat) zmx rfl [0,1,5] (fun i=>[.c (.d (.sl (ts.map ak.enc))),.c (.d (.sl (vars.map encS))),.c (.d (.i .i64 i))]) (fun _=>[]::S)
  (fun i=>i<=ts.length/\mO vars (ts.drop i)=mO vars ts) (fun i=>ts.length-i) 0 rfl rfl ⟨Nat.zero_le _,rfl⟩ ?_
 rintro i ⟨p1,p2⟩;refine W1 ?_;refine S0 (fun hb h=>?_) fun hb h=>?_
 ·have hi:i<ts.length:=by omega
  rw[List.drop_eq_getElem_cons hi] at p2;have p3:mO vars ts=(iq vars ts[i]&&mO vars (ts.drop (i+1))):=p2.symm;refine W3 ?_;refine C2 (vB ts[i] vars (hsz _ (List.getElem_mem hi)) hv) ?_;refine S0 (fun hb h=>?_) fun hb h=>?_
  ·rw[p3,h];rfl
  ·exact bF (i+1) (by omega) rfl rfl ⟨by omega,by rw[p3,h];rfl⟩
 ·rw[List.drop_of_length_le (by omega)] at p2;rw[<-p2];rfl
def Gl(n:Nat):Key->Key
 |(0,j)=>(0,n+j)
 |(l+1,j)=>(l,j)
def C.mg(n:Nat):C->C
 | .d x=>.d x
 | .any=>.any
 | .bN k es=>.bN (Gl n k) es
 | .bE es=>.bE es
 | .ptr k off=>.ptr (Gl n k) off
 | .nZ cs=>.nZ cs
 | .ou k i off=>.ou (Gl n k) i off
 | .mK k=>.mK (Gl n k)
 | .fn f caps=>.fn f (caps.map fun x=>(Gl n x.1,x.2))
 | .mp k=>.mp (Gl n k)
 | .l8 m es=>.l8 m es
 | .xp k r p=>.xp (Gl n k) r p
 | .xq k r p z i off=>.xq (Gl n k) r p z i off
def V.mg(n:Nat):V->V
 | .c x=>.c (x.mg n)
 | .agg cs=>.agg (cs.map (C.mg n))
 | .dL xs=>.dL (xs.map fun y=>(y.1,y.2.map (C.mg n)))
 | .any=>.any
def Obj.mg(n:Nat):Obj->Obj
 | .box cs=>.box (cs.map (C.mg n))
 |o=>o
section
variable {P:Program} {w:World} {σ:Nat->Nat} {own bU:List Obj} {Ω:Store} {bo tH:List Value} {bΩ:Hs}
theorem Rk{n:Nat}{o:Obj}{h:Value}{b:Nat}:owns (o.mg n) h b<->owns o h b:=by
 cases o with
 |box cs=>
  cases h with
  |pointer a=>cases a<;>exact Iff.rfl
  |_=>exact Iff.rfl
 |_=>exact Iff.rfl
theorem EY{k:Key}{o:Obj}(h:bG (own::bU::Ω) k=some o):
 bG ((bU++own.map (Obj.mg bU.length))::Ω) (Gl bU.length k)=some (if k.1=0 then o.mg bU.length else o):=by
 obtain⟨l,j⟩:=k
 cases l with
 |zero=>
  rw[bV] at h;show bG _ (0,bU.length+j)=_;rw[bV,List.getElem?_append_right (by omega),show bU.length+j-bU.length=j by omega,List.getElem?_map,h];rfl
 |succ l=>
  rw[dn] at h;show bG _ (l,j)=some o
  cases l with
  |zero=>
   rw[bV] at h ⊢;rw[List.getElem?_append_left (List.getElem?_eq_some_iff.1 h).1];exact h
  |succ l=>rw[dn] at h ⊢;exact h
theorem EZ(hl:tH.length=bU.length){k:Key}{h:Value}(e:bG (bo::tH::bΩ) k=some h):bG ((tH++bo)::bΩ) (Gl bU.length k)=some h:=by
 obtain⟨l,j⟩:=k
 cases l with
 |zero=>
  rw[bV] at e;show bG _ (0,bU.length+j)=_;rw[bV,List.getElem?_append_right (by omega),show bU.length+j-tH.length=j by omega,e]
 |succ l=>
  rw[dn] at e;show bG _ (l,j)=some h
  cases l with
  |zero=>
   rw[bV] at e ⊢;rw[List.getElem?_append_left (List.getElem?_eq_some_iff.1 e).1];exact e
  |succ l=>rw[dn] at e ⊢;exact e
theorem Lv(hl:tH.length=bU.length)(hlo:bo.length=own.length){k:Key}{o:Obj}(h:bG ((bU++own.map (Obj.mg bU.length))::Ω) k=some o):
 ∃k0 o0,Gl bU.length k0=k/\bG (own::bU::Ω) k0=some o0/\o=(if k0.1=0 then o0.mg bU.length else o0)/\bG ((tH++bo)::bΩ) k=bG (bo::tH::bΩ) k0:=by
 obtain⟨l,j⟩:=k
 cases l with
 |zero=>
  rw[bV] at h;by_cases hj:j<bU.length
  ·rw[List.getElem?_append_left hj] at h;refine⟨(1,j),o,rfl,by rw[dn,bV];exact h,rfl,?_⟩;rw[bV,dn,bV,List.getElem?_append_left (by omega)]
  ·rw[List.getElem?_append_right (by omega),List.getElem?_map] at h
   cases hx:own[j-bU.length]? with
   |none=>rw[hx] at h;cases h
   |some x=>
    rw[hx] at h;cases h;refine⟨(0,j-bU.length),x,?_,by rw[bV];exact hx,rfl,?_⟩
    ·show(0,bU.length+(j-bU.length))=(0,j);rw[show bU.length+(j-bU.length)=j by omega]
    ·rw[bV,bV,List.getElem?_append_right (by omega),hl]
 |succ l=>
  rw[dn] at h;exact⟨(l+2,j),o,rfl,by rw[dn,dn];exact h,rfl,by rw[dn,dn,dn]⟩
theorem zk{n:Nat}{k:Key}{o:Obj}:(∀aY es,uX (if k.1=0 then o.mg n else o) aY es->uX o aY es)/\(∀aY es,(if k.1=0 then o.mg n else o)=.gI aY es->o=.gI aY es)/\
 (∀m,(if k.1=0 then o.mg n else o)=.mp m->o=.mp m)/\(∀cs,(if k.1=0 then o.mg n else o)=.box cs->∃cs',o=.box cs')/\(∀rs,(if k.1=0 then o.mg n else o)=.xf rs->o=.xf rs):=by
 by_cases e:k.1=0
 ·simp only[if_pos e];cases o<;>simp[Obj.mg,uX]
 ·simp only[if_neg e];exact⟨fun _ _ h=>h,fun _ _ h=>h,fun _ h=>h,fun cs h=>⟨cs,h⟩,fun _ h=>h⟩
theorem aiD(hl:tH.length=bU.length){c:C}{v:Value}(h:jG w σ (own::bU::Ω) (bo::tH::bΩ) c v):
 jG w σ ((bU++own.map (Obj.mg bU.length))::Ω) ((tH++bo)::bΩ) (c.mg bU.length) v:=by
 cases c with
 |d x=>exact h
 |any=>exact trivial
 |bE es=>exact h
 |nZ cs=>exact h
 |l8 m es=>exact h
 |xp k r p=>
  obtain⟨o,ho,h2⟩:=h;refine⟨_,EY ho,fun rs e=> ?_⟩;obtain⟨hh,q1,q2⟩:=h2 rs (zk.2.2.2.2 _ e);exact⟨hh,EZ hl q1,q2⟩
 |xq k r p z i off=>
  obtain⟨o,ho,h2⟩:=h;refine⟨_,EY ho,fun rs e=> ?_⟩;obtain⟨hh,b,a,n,cap,q1,q2⟩:=h2 rs (zk.2.2.2.2 _ e);exact⟨hh,b,a,n,cap,EZ hl q1,q2⟩
 |bN k es=>
  obtain⟨h1,o,ho,h2⟩:=h;refine⟨h1,_,EY ho,fun aY es' e=> ?_⟩;obtain⟨q1,q2⟩:=h2 aY es' (zk.1 _ _ e);exact⟨q1,fun e'=>EZ hl (q2 e')⟩
 |ptr k off=>
  obtain⟨o,ho,h2⟩:=h;refine⟨_,EY ho,fun cs e=> ?_⟩;obtain⟨cs',e'⟩:=zk.2.2.2.1 _ e;obtain⟨b,q1,q2⟩:=h2 cs' e';exact⟨b,EZ hl q1,q2⟩
 |ou k i off=>
  obtain⟨o,ho,h2⟩:=h;refine⟨_,EY ho,fun aY es e=> ?_⟩;obtain⟨b,n,cap,q1,q2⟩:=h2 aY es (zk.2.1 _ _ e);exact⟨b,n,cap,EZ hl q1,q2⟩
 |mK k=>
  obtain⟨o,ho,h2⟩:=h;exact⟨_,EY ho,fun aY es e=>EZ hl (h2 aY es (zk.2.1 _ _ e))⟩
 |mp k=>
  obtain⟨o,ho,h2⟩:=h;exact⟨_,EY ho,fun m e=>EZ hl (h2 m (zk.2.2.1 _ e))⟩
 |fn f caps=>
  obtain⟨vs,e,hsz,hc⟩:=h;refine⟨vs,e,by rw[hsz,List.length_map],fun j k off hj=> ?_⟩;rw[List.getElem?_map] at hj
  cases hx:caps[j]? with
  |none=>rw[hx] at hj;cases hj
  |some y=>
   rw[hx] at hj;injection hj with hj;injection hj with e1 e2;obtain⟨u,q1,q2,o,q3,q4⟩:=hc j y.1 y.2 hx;refine⟨u,q1,q2,_,by rw[<-e1];exact EY q3,fun cs e=> ?_⟩;obtain⟨cs',e'⟩:=zk.2.2.2.1 _ e;obtain⟨b,q5,q6⟩:=q4 cs' e';exact⟨b,by rw[<-e1];exact EZ hl q5,by rw[<-e2];exact q6⟩
theorem acy(hl:tH.length=bU.length){cs:List C}{vs:List Value}(h:gP w σ (own::bU::Ω) (bo::tH::bΩ) cs vs):
 gP w σ ((bU++own.map (Obj.mg bU.length))::Ω) ((tH++bo)::bΩ) (cs.map (C.mg bU.length)) vs:=by
 refine⟨by rw[List.length_map];exact h.1,fun j x hj=> ?_⟩;rw[List.getElem?_map] at hj
 cases hx:cs[j]? with
 |none=>rw[hx] at hj;cases hj
 |some y=>
  rw[hx] at hj;cases hj;obtain⟨v,h1,h2,h3⟩:=h.2 j y hx;exact⟨v,h1,aiD hl h2,h3⟩
theorem arG(hl:tH.length=bU.length){x:V}{v:Value}(h:dP w σ (own::bU::Ω) (bo::tH::bΩ) x v):
 dP w σ ((bU++own.map (Obj.mg bU.length))::Ω) ((tH++bo)::bΩ) (x.mg bU.length) v:=by
 cases x with
 |c x=>exact⟨aiD hl h.1,h.2⟩
 |agg cs=>obtain⟨a,ha,hc⟩:=h;exact⟨a,ha,acy hl hc⟩
 |any=>exact trivial
 |dL xs=>
  obtain⟨a,ha,hlen,hc⟩:=h;refine⟨a,ha,by rw[List.length_map];exact hlen,fun j y hj=> ?_⟩;rw[List.getElem?_map] at hj
  cases hx:xs[j]? with
  |none=>rw[hx] at hj;cases hj
  |some z=>
   rw[hx] at hj;cases hj;obtain⟨u,hu,hr⟩:=hc j z hx;refine⟨u,hu,?_⟩;obtain⟨b,cs⟩:=z
   cases b with
   |true=>obtain⟨a',e,hcs⟩:=hr;exact⟨a',e,acy hl hcs⟩
   |false=>obtain⟨x1,e,hx1,ho⟩:=hr;subst e;exact⟨_,rfl,aiD hl hx1,ho⟩
theorem aaw(hl:tH.length=bU.length):Keep (bU::Ω) (tH::bΩ) ((bU++own.map (Obj.mg bU.length))::Ω) ((tH++bo)::bΩ):=by
 rintro⟨l,j⟩ o h
 cases l with
 |zero=>
  rw[bV] at h;have hj:=(List.getElem?_eq_some_iff.1 h).1;refine⟨o,by rw[bV,List.getElem?_append_left hj];exact h,?_⟩;rw[bV,bV,List.getElem?_append_left (by omega)];exact nW.refl _ _
 |succ l=>
  rw[dn] at h;exact⟨o,by rw[dn];exact h,by rw[dn,dn];exact nW.refl _ _⟩
theorem arH(hS:fI w σ (own::bU::Ω) (bo::tH::bΩ)):fI w σ ((bU++own.map (Obj.mg bU.length))::Ω) ((tH++bo)::bΩ):=by
 have hlo:bo.length=own.length:=by
  obtain⟨gr,h1,h2⟩:=hS.shape.2 0 own rfl;simp at h1;rw[h1];exact h2
 have hl:tH.length=bU.length:=by
  obtain⟨gr,h1,h2⟩:=hS.shape.2 1 bU rfl;simp at h1;rw[h1];exact h2
 have hn:eH w σ w σ:=eH.refl _ _;refine⟨fun k o ho=> ?_,fun k k' o o' h h' b e1 e2 e3 e4 e5 e6=> ?_,⟨by have:=hS.shape.1;simpa using this,fun l fr hfr=> ?_⟩,hS.live,hS.uF⟩
 ·obtain⟨k0,o0,hk,ho0,rfl,hh⟩:=Lv (bo:=bo) (bΩ:=bΩ) hl hlo ho;obtain⟨h,h1,h2⟩:=hS.obj k0 o0 ho0;refine⟨h,by rw[hh];exact h1,?_⟩;obtain⟨l0,j0⟩:=k0
  cases l0 with
  |zero=>
   subst hk;have h2:iQ w σ (own::bU::Ω) (bo::tH::bΩ) o0 h:=h2;show iQ w σ ((bU++own.map (Obj.mg bU.length))::Ω) ((tH++bo)::bΩ) (o0.mg bU.length) h
   cases o0 with
   |box cs=>
    obtain⟨b,c,t,e,q1,q2,q3⟩:=h2;exact⟨b,c,t,e,q1,q2,acy hl q3⟩
   |dead=>exact trivial
   |tok aY es=>exact h2
   |gI aY es=>exact h2
   |mp m=>exact h2
   |fu n aY es=>exact h2
   |seed n=>exact trivial
   |xf rs=>exact h2
  |succ l0=>
   have hk':k=(l0,j0):=hk.symm;subst hk';have h2:iQ w σ ((bU::Ω).drop l0) ((tH::bΩ).drop l0) o0 h:=h2;exact h2.mono hn ((aaw hl).drop l0) fun _ _=>⟨rfl,rfl⟩
 ·obtain⟨k0,o0,hk,ho0,ho,hh⟩:=Lv (bo:=bo) (bΩ:=bΩ) hl hlo e1;obtain⟨k1,o1,hk1,ho1,ho',I9⟩:=Lv (bo:=bo) (bΩ:=bΩ) hl hlo e4;rw[hh] at e2;rw[I9] at e5
  have b0:owns o0 h b:=by
   rw[ho] at e3;split at e3
   ·rw[Rk] at e3;exact e3
   ·exact e3
  have b1:owns o1 h' b:=by
   rw[ho'] at e6;split at e6
   ·rw[Rk] at e6;exact e6
   ·exact e6
  have:=hS.apart k0 k1 o0 o1 h h' b ho0 e2 b0 ho1 e5 b1;rw[<-hk,<-hk1,this]
 ·cases l with
  |zero=>
   simp at hfr;exact⟨_,rfl,by rw[<-hfr];simp[hl,hlo]⟩
  |succ l=>exact hS.shape.2 (l+2) fr (by simpa using hfr)
theorem anE(hS:fI w σ (own::bU::Ω) (bo::tH::bΩ)){b:Nat}(h:Own ((bU++own.map (Obj.mg bU.length))::Ω) ((tH++bo)::bΩ) b):Own (own::bU::Ω) (bo::tH::bΩ) b:=by
 have hlo:bo.length=own.length:=by
  obtain⟨gr,h1,h2⟩:=hS.shape.2 0 own rfl;simp at h1;rw[h1];exact h2
 have hl:tH.length=bU.length:=by
  obtain⟨gr,h1,h2⟩:=hS.shape.2 1 bU rfl;simp at h1;rw[h1];exact h2
 obtain⟨k,o,hv,e1,e2,e3⟩:=h;obtain⟨k0,o0,hk,ho0,ho,hh⟩:=Lv (bo:=bo) (bΩ:=bΩ) hl hlo e1;rw[hh] at e2;refine⟨k0,o0,hv,ho0,e2,?_⟩;rw[ho] at e3;split at e3
 ·rw[Rk] at e3;exact e3
 ·exact e3
end
def WU(P:Program)(rs:List ResultVar)(post:V->Store->Prop)(e:Exit)(s:St):Prop:=
 match e with
 | .normal| .ret=>(wG P rs s).1/\match s.st with
   |own::bU::Ω=>post ((wG P rs s).2.mg bU.length) ((bU++own.map (Obj.mg bU.length))::Ω)
   |_=>False
 |_=>False
section
variable {P:Program} {N:Nat} {s:St}
theorem S9{f:FuncId}{fn:Func}{c:Code}{args:List V}{bU:List Obj}{Ω:Store}{post:V->Store->Prop}(hf:P.funcs[f]? =some fn)(hb:fn.body=some c)(hn:(fn.name== "runtime.NumGoroutine")=false)
 (hl:args.length<=fn.ntmps)(h:AW P fn.ntmps c (WU P fn.results.toList post) ⟨qR (args.map (V.up 1)) 0,[]::bU::Ω⟩):dh P f args (bU::Ω) post:=by
 refine⟨⟨fn,hf,hn,by simp[hb]⟩,fun w σ β vs hS hargs=> ?_⟩;refine calls_of_wp hf hb ?_;have hlen:vs.length=args.length:=hargs.1.symm
 have ahl:lV fn.ntmps ⟨qR (args.map (V.up 1)) 0,[]::bU::Ω⟩ {tmps:=vs.toArray++Array.replicate (fn.ntmps-vs.toArray.size) undef,defers:=[]} w σ ([]::β):=by
  refine⟨by simp;omega,rfl,hS.up1,fun t=> ?_⟩;show dP w σ ([]::bU::Ω) ([]::β) (look (qR (args.map (V.up 1)) 0) t) _;rw[Hf,if_pos (Nat.zero_le _),Nat.sub_zero,List.getElem?_map]
  cases ha:args[t]? with
  |none=>exact trivial
  |some x=>
   obtain⟨v,hv,hr⟩:=hargs.2 t x ha;have ht:=(List.getElem?_eq_some_iff.1 hv).1
   have:(vs.toArray++Array.replicate (fn.ntmps-vs.toArray.size) undef).getD t undef=v:=by
    rw[Array.getD_eq_getD_getElem?,Array.getElem?_append_left (by simpa using ht)];simp[hv]
   rw[this];exact QV (S:=[]::bU::Ω) (β:=[]::β) 1 hr
 refine wp_mono (h _ w σ ([]::β) ahl) ?_;rintro e a' w' ⟨s',σ',β',hR,hst,hkp,hq⟩
 have main:((wG P fn.results.toList s').1/\match s'.st with
  |own::bU::Ω=>post ((wG P fn.results.toList s').2.mg bU.length) ((bU++own.map (Obj.mg bU.length))::Ω)
  |_=>False)->
   a'.defers=[]/\∃v,(results fn a'.tmps).run P w'=.ok v w'/\∃v_1 r S' σ' β',Ending.returned v=Ending.returned v_1/\fI w' σ' S' β'/\Keep (bU::Ω) β S' β'/\Step (bU::Ω) β σ w S' β' σ' w'/\dP w' σ' S' β' r v_1/\post r S':=by
  rintro⟨q1,q2⟩;obtain⟨v,hv,hrep⟩:=Sv (fn:=fn) hR q1;obtain⟨tm,st⟩:=s';simp only at q2;split at q2
  ·rename_i own acz Ω1;obtain⟨bo,bΩ',rfl,hlo⟩:=frames hR
   cases bΩ' with
   |nil=>have:=hR.S.shape.1;simp at this
   |cons bo1 bΩ1=>
    have hl1:bo1.length=acz.length:=by
     obtain⟨gr,h1,h2⟩:=hR.S.shape.2 1 acz rfl;simp at h1;rw[h1];exact h2
    have AB:Keep (bU::Ω) β (acz::Ω1) (bo1::bΩ1):=hkp;have hst':Step ([]::bU::Ω) ([]::β) σ w (own::acz::Ω1) (bo::bo1::bΩ1) σ' w':=hst;exact⟨hR.defers,v,hv,v,_,_,σ',_,rfl,arH hR.S,AB.trans (aaw hl1),⟨hst'.size,hst'.os,hst'.output,fun b hb ho=>hst'.far b hb (fun x=>ho (Lf x)),hst'.near,fun b hb=>(hst'.own b (anE hR.S hb)).imp Lf id⟩,arG hl1 hrep,q2⟩
  ·exact q2.elim
 cases e with
 |normal=>exact main hq
 |ret=>exact main hq
 |_=>exact hq.elim
def WV(P:Program)(rs:List ResultVar)(post:V->Store->Prop)(s:St)(r:R):Prop:=r.1/\match s.st with
 |own::bU::Ω=>post (r.2.mg bU.length) ((bU++own.map (Obj.mg bU.length))::Ω)
 |_=>False
@[congr] theorem apJ {rs:List ResultVar} {post:V->Store->Prop} {s s':St} {r r':R} (h1:s=s') (h2:r=r'):WV P rs post s r=WV P rs post s' r':=by rw[h1,h2]
theorem aiE{rs:List ResultVar}{post:V->Store->Prop}{tm:List (Nat×V)}{S:Store}:WU P rs post .ret ⟨tm,S⟩=WV P rs post ⟨tm,S⟩ (wG P rs ⟨tm,S⟩):=rfl
theorem Zr{rs:List ResultVar}{post:V->Store->Prop}{tm:List (Nat×V)}{S:Store}:WU P rs post .normal ⟨tm,S⟩=WV P rs post ⟨tm,S⟩ (wG P rs ⟨tm,S⟩):=rfl
theorem alD{rs:List ResultVar}{post:V->Store->Prop}{tm:List (Nat×V)}{own bU:List Obj}{Ω:Store}{p:Prop}{v:V}:
 WV P rs post ⟨tm,own::bU::Ω⟩ (p,v)=(p/\post (v.mg bU.length) ((bU++own.map (Obj.mg bU.length))::Ω)):=rfl
theorem Ta{f:FuncId}{fn:Func}{c:Code}{args:List V}{bU:List Obj}{Ω:Store}{post:V->Store->Prop}{rs:List ResultVar}(fJ:P.follows .mixedOrders=true)(hf:P.funcs[f]? =some fn)(hN:fn.ntmps=N)
 (hb:fn.body=some c) (hn:(fn.name== "runtime.NumGoroutine")=false) (hr:fn.results.toList=rs) (hl:Nat.ble args.length N=true) (hok:codeOk N c=true)
 (h:CW P N c (WU P rs post) ⟨qR (args.map (V.up 1)) 0,[]::bU::Ω⟩):dh P f args (bU::Ω) post:=by
 subst hN;subst hr;exact S9 hf hb hn (Nat.le_of_ble_eq_true hl) (jH fJ c _ _ hok h)
theorem mgK_0{n j:Nat}:Gl n (0,j)=(0,n+j):=rfl
theorem mgK_1{n l j:Nat}:Gl n (1+l,j)=(l,j):=by rw[Nat.add_comm];rfl
end
attribute [go_sem ↓] aiE Zr
attribute [go_sem] alD V.mg C.mg Obj.mg mgK_0 mgK_1
def U5(by':List UInt8):List (List UInt8)->List UInt8
 |[]=>[]
 |x::xs=>x++(xs.map fun y=>by'++y).flatten
mutual
def acA:aj->List UInt8
 | .mk a l=>if a=[] then [40]++U5 [32] (Gm l)++[41] else a
def Gm:List aj->List (List UInt8)
 |[]=>[]
 |x::xs=>acA x::Gm xs
end
theorem afq(b:List UInt8):∀l:List (List UInt8),(U5 b l).length<=(l.map fun x=>b.length+x.length).sum
 |[]=>by simp[U5]
 |x::xs=>by
  have h:∀ys:List (List UInt8),((ys.map fun y=>b++y).flatten).length=(ys.map fun x=>b.length+x.length).sum:=by
   intro ys
   induction ys with
   |nil=>rfl
   |cons y ys ih=>rw[List.map_cons,List.flatten_cons,List.length_append,List.length_append,ih,List.map_cons,List.sum_cons]
  rw[U5,List.length_append,h,List.map_cons,List.sum_cons];omega
mutual
theorem afr:∀x:aj,(acA x).length<=2+3*x.sz
 | .mk a l=>by
   have h:=Pk l;rw[jZ,mH];simp only[aj.aO,aj.ah];rw[acA];split
   ·have:=afq [32] (Gm l);simp only[List.length_append,List.length_cons,List.length_nil] at this ⊢;omega
   ·omega
theorem Pk:∀l:List aj,((Gm l).map fun x=>0+1+x.length).sum<=3*l.length+3*dx l
 |[]=>by simp[Gm]
 |x::xs=>by
  have h1:=afr x;have h2:=Pk xs;rw[Gm,List.map_cons,List.sum_cons,dx,List.length_cons];omega
end
theorem anG{w:World}{σ:Nat->Nat}{es:List (List D)}{u:Value}(h:dH w σ (.sl es) u):∃a n c,u=.slice a n c:=by
 cases h with
 |nil a c=>exact⟨_,_,_,rfl⟩
 |sl=>exact⟨_,_,_,rfl⟩
theorem Ih:∀n:Nat,(∀x:ak,SizeOf.sizeOf x<n->∀y:ak,x.sz<=1048576->aH prog 25 [x.v,y.v] (.c (.d (.b (dec (x=y))))))/\
 (∀xs:List ak,SizeOf.sizeOf xs<n->∀ys:List ak,xs.length+bf (xs.map ak.enc)<=1048576->aH prog 71 [.c (.d (.sl (xs.map ak.enc))),.c (.d (.sl (ys.map ak.enc)))] (.c (.d (.b (dec (xs=ys))))))
 |0=>⟨fun x h=>by omega,fun x h=>by omega⟩
 |n+1=>by
  obtain⟨J8,alE⟩:=Ih n;refine⟨fun x hn y hsz S=> ?_,fun xs hn ys hsz S=> ?_⟩
  ·have j3:=ak.gT x;simp only[ak.sz,ak.aA,bT,bK,D.sz,List.length_map] at hsz;refine zcx [.tmp 4] func25 ntmps25 ?_;refine W1 ?_;refine S0 (fun hb h=>?_) fun hb h=>?_
   ·exact ay (aB (fun e=>h (by rw[e]))).symm
   have acB:=h;clear h;refine S0 (fun hb h=>?_) fun hb h=>?_
   ·exact ay (aB (fun e=>h (by rw[e]))).symm
   have rQ:=h;clear h;refine C1 (alE x.fArgs (by omega) _ (by omega)) ?_;refine S0 (fun hb h=>?_) fun hb h=>?_
   ·exact ay (aB (fun e=>h (by rw[e]))).symm
   have eArgs:=h;clear h;exact ay (aZ (ak.ext acB rQ eArgs)).symm
  ·refine zcx [.tmp 4] func71 ntmps71 ?_;refine W1 ?_;refine S0 (fun hb h=>?_) fun hb h=>?_
   ·exact ay (aB (fun e=>h (by rw[e]))).symm
   have hl:xs.length=ys.length:=by omega
   refine aT (ι:=Nat) zmx rfl [0,1,5] (fun y=>[.c (.d (.sl (xs.map ak.enc))),.c (.d (.sl (ys.map ak.enc))),.c (.d (.i .i64 y))]) (fun y=>[]::S)
    (fun i=>i<=xs.length/\∀j,j<i->xs[j]? =ys[j]?) (fun y=>xs.length-y) 0 rfl rfl ⟨Nat.zero_le _,fun j h=>by omega⟩ ?_
   rintro i ⟨p1,p2⟩;refine W1 ?_;refine S0 (fun hb h=>?_) fun hb h=>?_
   ·have hi:i<xs.length:=by omega
    have hi':i<ys.length:=by omega
    have hx:xs[i].sz<=bf (xs.map ak.enc):=dA (List.mem_map_of_mem (List.getElem_mem hi));refine W3 ?_;refine C1 (J8 xs[i] (by have:=List.sizeOf_lt_of_mem (List.getElem_mem hi);omega) ys[i] (by omega)) ?_;refine S0 (fun hb h=>?_) fun hb h=>?_
    ·exact ay (aB (fun e=>h (by simp only[e]))).symm
    refine bF (i+1) (by omega) rfl rfl ⟨by omega,fun j hj=> ?_⟩;by_cases e:j=i
    ·subst e;rw[List.getElem?_eq_getElem hi,List.getElem?_eq_getElem hi',h]
    ·exact p2 j (by omega)
   ·have hi:i=xs.length:=by omega
    refine ay (aZ (List.ext_getElem? fun j=> ?_)).symm;by_cases hj:j<i
    ·exact p2 j hj
    ·rw[List.getElem?_eq_none (by omega),List.getElem?_eq_none (by omega)]
theorem xk(x:ak):∀y:ak,x.sz<=1048576->aH prog 25 [x.v,y.v] (.c (.d (.b (dec (x=y))))):=(Ih _).1 x (Nat.lt_succ_self _)
theorem Pm(xs:List ak):∀ys:List ak,xs.length+bf (xs.map ak.enc)<=1048576->aH prog 71 [.c (.d (.sl (xs.map ak.enc))),.c (.d (.sl (ys.map ak.enc)))] (.c (.d (.b (dec (xs=ys))))):=(Ih _).2 xs (Nat.lt_succ_self _)
theorem acC(x:bn):∀y:bn,x.sz<=1048576->aH prog 243 [x.v,y.v] (.c (.d (.b (dec (x=y))))):=by
 intro y hsz S;simp only[bn.sz,bn.aA,bT,bK,D.sz,List.length_map,ak.d9] at hsz;refine zcx [.tmp 4] func243 ntmps243 ?_;refine W1 ?_;refine S0 (fun hb h=>?_) fun hb h=>?_
 ·exact ay (aB (fun e=>h (by rw[e]))).symm
 have J9:=h;clear h;refine C1 (xk x.fType _ (by omega)) ?_;refine S0 (fun hb h=>?_) fun hb h=>?_
 ·exact ay (aB (fun e=>h (by rw[e]))).symm
 have eType:=h;clear h;exact ay (aZ (bn.ext' J9 eType)).symm
theorem ME(xs:List bn):∀ys:List bn,xs.length+bf (xs.map bn.enc)<=1048576->aH prog 167 [.c (.d (.sl (xs.map bn.enc))),.c (.d (.sl (ys.map bn.enc)))] (.c (.d (.b (dec (xs=ys))))):=by
 intro ys hsz S;refine zcx [.tmp 4] func167 ntmps167 ?_;refine W1 ?_;refine S0 (fun hb h=>?_) fun hb h=>?_
 ·exact ay (aB (fun e=>h (by rw[e]))).symm
 have hl:xs.length=ys.length:=by omega
 refine aT (ι:=Nat) zmx rfl [0,1,5] (fun y=>[.c (.d (.sl (xs.map bn.enc))),.c (.d (.sl (ys.map bn.enc))),.c (.d (.i .i64 y))]) (fun y=>[]::S)
  (fun i=>i<=xs.length/\∀j,j<i->xs[j]? =ys[j]?) (fun y=>xs.length-y) 0 rfl rfl ⟨Nat.zero_le _,fun j h=>by omega⟩ ?_
 rintro i ⟨p1,p2⟩;refine W1 ?_;refine S0 (fun hb h=>?_) fun hb h=>?_
 ·have hi:i<xs.length:=by omega
  have hi':i<ys.length:=by omega
  have hx:xs[i].sz<=bf (xs.map bn.enc):=dA (List.mem_map_of_mem (List.getElem_mem hi));refine W3 ?_;refine C1 (acC xs[i] ys[i] (by omega)) ?_;refine S0 (fun hb h=>?_) fun hb h=>?_
  ·exact ay (aB (fun e=>h (by simp only[e]))).symm
  refine bF (i+1) (by omega) rfl rfl ⟨by omega,fun j hj=> ?_⟩;by_cases e:j=i
  ·subst e;rw[List.getElem?_eq_getElem hi,List.getElem?_eq_getElem hi',h]
  ·exact p2 j (by omega)
 ·have hi:i=xs.length:=by omega
  refine ay (aZ (List.ext_getElem? fun j=> ?_)).symm;by_cases hj:j<i
  ·exact p2 j hj
  ·rw[List.getElem?_eq_none (by omega),List.getElem?_eq_none (by omega)]
theorem Pn:∀n:Nat,(∀x:au,SizeOf.sizeOf x<n->∀y:au,x.sz<=1048576->aH prog 8 [x.v,y.v] (.c (.d (.b (dec (x=y))))))/\
 (∀xs:List au,SizeOf.sizeOf xs<n->∀ys:List au,xs.length+bf (xs.map au.enc)<=1048576->aH prog 26 [.c (.d (.sl (xs.map au.enc))),.c (.d (.sl (ys.map au.enc)))] (.c (.d (.b (dec (xs=ys))))))/\
 (∀x:aR,SizeOf.sizeOf x<n->∀y:aR,x.sz<=1048576->aH prog 72 [x.v,y.v] (.c (.d (.b (dec (x=y))))))/\
 (∀xs:List aR,SizeOf.sizeOf xs<n->∀ys:List aR,xs.length+bf (xs.map aR.enc)<=1048576->aH prog 27 [.c (.d (.sl (xs.map aR.enc))),.c (.d (.sl (ys.map aR.enc)))] (.c (.d (.b (dec (xs=ys))))))
 |0=>⟨fun x h=>by omega,fun x h=>by omega,fun x h=>by omega,fun x h=>by omega⟩
 |n+1=>by
  obtain⟨Ch,alF,Ii,anH⟩:=Pn n;refine⟨fun x hn y hsz S=> ?_,fun xs hn ys hsz S=> ?_,fun x hn y hsz S=> ?_,fun xs hn ys hsz S=> ?_⟩
  ·have j3:=au.gT x;have BA:=au.qb x;simp only[au.sz,au.aA,bT,bK,D.sz,List.length_map,ak.d9] at hsz;refine zcx [.tmp 4] func8 ntmps8 ?_;refine W1 ?_;refine S0 (fun hb h=>?_) fun hb h=>?_
   ·exact ay (aB (fun e=>h (by rw[e]))).symm
   have acB:=h;clear h;refine S0 (fun hb h=>?_) fun hb h=>?_
   ·exact ay (aB (fun e=>h (by rw[e]))).symm
   have J9:=h;clear h;refine S0 (fun hb h=>?_) fun hb h=>?_
   ·exact ay (aB (fun e=>h (by rw[e]))).symm
   have rQ:=h;clear h;refine S0 (fun hb h=>?_) fun hb h=>?_
   ·exact ay (aB (fun e=>h (by rw[e]))).symm
   have eN:=h;clear h;refine C1 (xk x.fType _ (by omega)) ?_;refine S0 (fun hb h=>?_) fun hb h=>?_
   ·exact ay (aB (fun e=>h (by rw[e]))).symm
   have eType:=h;clear h;refine C1 (alF x.fArgs (by omega) _ (by omega)) ?_;refine S0 (fun hb h=>?_) fun hb h=>?_
   ·exact ay (aB (fun e=>h (by rw[e]))).symm
   have eArgs:=h;clear h;refine C1 (anH x.aQ (by omega) _ (by omega)) ?_;refine S0 (fun hb h=>?_) fun hb h=>?_
   ·exact ay (aB (fun e=>h (by rw[e]))).symm
   have apK:=h;clear h;exact ay (aZ (au.ext acB J9 rQ eN eType eArgs apK)).symm
  ·refine zcx [.tmp 4] func26 ntmps26 ?_;refine W1 ?_;refine S0 (fun hb h=>?_) fun hb h=>?_
   ·exact ay (aB (fun e=>h (by rw[e]))).symm
   have hl:xs.length=ys.length:=by omega
   refine aT (ι:=Nat) zmx rfl [0,1,5] (fun y=>[.c (.d (.sl (xs.map au.enc))),.c (.d (.sl (ys.map au.enc))),.c (.d (.i .i64 y))]) (fun y=>[]::S)
    (fun i=>i<=xs.length/\∀j,j<i->xs[j]? =ys[j]?) (fun y=>xs.length-y) 0 rfl rfl ⟨Nat.zero_le _,fun j h=>by omega⟩ ?_
   rintro i ⟨p1,p2⟩;refine W1 ?_;refine S0 (fun hb h=>?_) fun hb h=>?_
   ·have hi:i<xs.length:=by omega
    have hi':i<ys.length:=by omega
    have hx:xs[i].sz<=bf (xs.map au.enc):=dA (List.mem_map_of_mem (List.getElem_mem hi));refine W3 ?_;refine C1 (Ch xs[i] (by have:=List.sizeOf_lt_of_mem (List.getElem_mem hi);omega) ys[i] (by omega)) ?_;refine S0 (fun hb h=>?_) fun hb h=>?_
    ·exact ay (aB (fun e=>h (by simp only[e]))).symm
    refine bF (i+1) (by omega) rfl rfl ⟨by omega,fun j hj=> ?_⟩;by_cases e:j=i
    ·subst e;rw[List.getElem?_eq_getElem hi,List.getElem?_eq_getElem hi',h]
    ·exact p2 j (by omega)
   ·have hi:i=xs.length:=by omega
    refine ay (aZ (List.ext_getElem? fun j=> ?_)).symm;by_cases hj:j<i
    ·exact p2 j hj
    ·rw[List.getElem?_eq_none (by omega),List.getElem?_eq_none (by omega)]
  ·have aks:=aR.oU x;simp only[aR.sz,aR.aA,bT,bK,D.sz,List.length_map,au.d9] at hsz;refine zcx [.tmp 4] func72 ntmps72 ?_;refine W1 ?_;refine S0 (fun hb h=>?_) fun hb h=>?_
   ·exact ay (aB (fun e=>h (by rw[e]))).symm
   have WW:=h;clear h;refine C1 (qD x.aG _ (by omega)) ?_;refine S0 (fun hb h=>?_) fun hb h=>?_
   ·exact ay (aB (fun e=>h (by rw[e]))).symm
   have zZ:=h;clear h;refine C1 (Ch x.fBody (by omega) _ (by omega)) ?_;refine S0 (fun hb h=>?_) fun hb h=>?_
   ·exact ay (aB (fun e=>h (by rw[e]))).symm
   have Ij:=h;clear h;exact ay (aZ (aR.ext WW zZ Ij)).symm
  ·refine zcx [.tmp 4] func27 ntmps27 ?_;refine W1 ?_;refine S0 (fun hb h=>?_) fun hb h=>?_
   ·exact ay (aB (fun e=>h (by rw[e]))).symm
   have hl:xs.length=ys.length:=by omega
   refine aT (ι:=Nat) zmx rfl [0,1,5] (fun y=>[.c (.d (.sl (xs.map aR.enc))),.c (.d (.sl (ys.map aR.enc))),.c (.d (.i .i64 y))]) (fun y=>[]::S)
    (fun i=>i<=xs.length/\∀j,j<i->xs[j]? =ys[j]?) (fun y=>xs.length-y) 0 rfl rfl ⟨Nat.zero_le _,fun j h=>by omega⟩ ?_
   rintro i ⟨p1,p2⟩;refine W1 ?_;refine S0 (fun hb h=>?_) fun hb h=>?_
   ·have hi:i<xs.length:=by omega
    have hi':i<ys.length:=by omega
    have hx:xs[i].sz<=bf (xs.map aR.enc):=dA (List.mem_map_of_mem (List.getElem_mem hi));refine W3 ?_;refine C1 (Ii xs[i] (by have:=List.sizeOf_lt_of_mem (List.getElem_mem hi);omega) ys[i] (by omega)) ?_;refine S0 (fun hb h=>?_) fun hb h=>?_
    ·exact ay (aB (fun e=>h (by simp only[e]))).symm
    refine bF (i+1) (by omega) rfl rfl ⟨by omega,fun j hj=> ?_⟩;by_cases e:j=i
    ·subst e;rw[List.getElem?_eq_getElem hi,List.getElem?_eq_getElem hi',h]
    ·exact p2 j (by omega)
   ·have hi:i=xs.length:=by omega
    refine ay (aZ (List.ext_getElem? fun j=> ?_)).symm;by_cases hj:j<i
    ·exact p2 j hj
    ·rw[List.getElem?_eq_none (by omega),List.getElem?_eq_none (by omega)]
theorem Ka(x:au):∀y:au,x.sz<=1048576->aH prog 8 [x.v,y.v] (.c (.d (.b (dec (x=y))))):=(Pn _).1 x (Nat.lt_succ_self _)
mutual
def au.cnt:au->Nat
 | .mk _ _ _ _ _ a b=>1+(au.eB a+aR.eB b)
def au.eB:List au->Nat
 |[]=>0
 |x::xs=>x.cnt+au.eB xs
def aR.cnt:aR->Nat
 | .mk _ _ b=>b.cnt
def aR.eB:List aR->Nat
 |[]=>0
 |x::xs=>x.cnt+aR.eB xs
end
theorem au.rE(x:au):x.cnt=1+(au.eB x.fArgs+aR.eB x.aQ):=by cases x;rw[au.cnt];rfl
theorem aR.rE(x:aR):x.cnt=x.fBody.cnt:=by cases x;rw[aR.cnt];rfl
theorem au.nP{xs:List au}{i:Nat}(hi:i<xs.length):au.eB (xs.drop i)=xs[i].cnt+au.eB (xs.drop (i+1)):=by rw[List.drop_eq_getElem_cons hi,au.eB]
theorem aR.nP{xs:List aR}{i:Nat}(hi:i<xs.length):aR.eB (xs.drop i)=xs[i].fBody.cnt+aR.eB (xs.drop (i+1)):=by rw[List.drop_eq_getElem_cons hi,aR.eB,aR.rE]
theorem au.Ei(x:au):x.fArgs.length+bf (x.fArgs.map au.enc)<=x.sz/\x.aQ.length+bf (x.aQ.map aR.enc)<=x.sz:=by
 simp only[au.sz,au.aA,bT,bK,D.sz,List.length_map];omega
theorem aR.Rl(x:aR):x.fBody.sz<=x.sz:=by
 simp only[aR.sz,aR.aA,au.sz,bT,bK,D.sz,List.length_map];omega
mutual
theorem au.nu:∀x:au,x.cnt<=1+x.sz
 | .mk k t n m ty a b=>by
   have h1:=au.zf a;have h2:=aR.zf b;rw[au.cnt];simp only[au.sz,au.aA,bT,bK,D.sz,List.length_map,au.fArgs,au.aQ];omega
theorem au.zf:∀xs:List au,au.eB xs<=xs.length+bf (xs.map au.enc)
 |[]=>by simp[au.eB]
 |x::xs=>by
  have h1:=au.nu x;have h2:=au.zf xs;rw[au.eB,List.length_cons,List.map_cons,bf,au.d9];omega
theorem aR.nu:∀x:aR,x.cnt<=1+x.sz
 | .mk c v b=>by
   have h1:=au.nu b;have h2:=aR.Rl (.mk c v b);rw[aR.cnt];simp only[aR.fBody] at h2;omega
theorem aR.zf:∀xs:List aR,aR.eB xs<=xs.length+bf (xs.map aR.enc)
 |[]=>by simp[aR.eB]
 |x::xs=>by
  have h1:=aR.nu x;have h2:=aR.zf xs;rw[aR.eB,List.length_cons,List.map_cons,bf,aR.d9];omega
end
theorem Ej:∀n:Nat,∀x:au,SizeOf.sizeOf x<n->x.sz<=4194304->aH prog 134 [x.v] (.c (.d (.i .i64 x.cnt)))
 |0=>fun x h=>by omega
 |n+1=>by
  have ih:=Ej n;intro x hn hsz S;have j3:=au.gT x;have BA:=au.qb x;have hp:=au.Ei x;have hc:=au.nu x;have he:=au.rE x;refine zcx [.tmp 2] func134 ntmps134 ?_;refine W1 ?_
  refine aT (ι:=Nat×Nat) zmx rfl [1,3,9,10,11] (fun y=>[.c (.ptr (0,0) 0),.c (.d (.i .i64 y.2)),.c (.d (.sl (x.fArgs.map au.enc))),.c (.d (.i .i64 x.fArgs.length)),.c (.d (.i .i64 y.1))]) (fun y=>[.box (x.enc.map .d)]::S)
   (fun y=>y.1<=x.fArgs.length/\x.cnt=y.2+au.eB (x.fArgs.drop y.1)+aR.eB x.aQ) (fun y=>x.fArgs.length-y.1) (0,1) rfl ?_ ⟨Nat.zero_le _,by simp only[List.drop_zero];omega⟩ ?_
  ·exact Z1
  rintro⟨i,c⟩ ⟨p1,p2⟩;simp only at p1 p2;refine W1 ?_;refine S0 (fun hb h=>?_) fun hb h=>?_
  ·have hi:i<x.fArgs.length:=by omega
   have hx:x.fArgs[i].sz<=bf (x.fArgs.map au.enc):=dA (List.mem_map_of_mem (List.getElem_mem hi));rw[au.nP hi] at p2;refine W3 ?_;refine C2 (ih x.fArgs[i] (by have:=List.sizeOf_lt_of_mem (List.getElem_mem hi);omega) (by omega)) ?_;rw[show(c:Int)+(x.fArgs[i].cnt:Int)=((c+x.fArgs[i].cnt:Nat):Int) by omega];exact bX 1 (by decide) (i+1,c+x.fArgs[i].cnt) (by simp only;omega) rfl rfl rfl rfl ⟨by simp only;omega,by simp only;omega⟩
  have hi:i=x.fArgs.length:=by omega
  rw[hi,List.drop_length,au.eB] at p2
  refine aT (ι:=Nat×Nat) zmx rfl [3,21,22,23] (fun y=>[.c (.d (.i .i64 y.2)),.c (.d (.sl (x.aQ.map aR.enc))),.c (.d (.i .i64 x.aQ.length)),.c (.d (.i .i64 y.1))]) (fun y=>[.box (x.enc.map .d)]::S)
   (fun y=>y.1<=x.aQ.length/\x.cnt=y.2+aR.eB (x.aQ.drop y.1)) (fun y=>x.aQ.length-y.1) (0,c) rfl ?_ ⟨Nat.zero_le _,by simp only[List.drop_zero];omega⟩ ?_
  ·exact Z1
  clear p1 p2 hb h hi i;rintro⟨i,d⟩ ⟨p1,p2⟩;simp only at p1 p2;refine W1 ?_;refine S0 (fun hb h=>?_) fun hb h=>?_
  ·have hi:i<x.aQ.length:=by omega
   have hx:x.aQ[i].sz<=bf (x.aQ.map aR.enc):=dA (List.mem_map_of_mem (List.getElem_mem hi));have hy:=aR.Rl x.aQ[i];have hs:=List.sizeOf_lt_of_mem (List.getElem_mem hi);have hs':=aR.oU x.aQ[i];rw[aR.nP hi] at p2;refine W3 ?_;refine C2 (ih x.aQ[i].fBody (by omega) (by omega)) ?_;rw[show(d:Int)+(x.aQ[i].fBody.cnt:Int)=((d+x.aQ[i].fBody.cnt:Nat):Int) by omega];exact bX 1 (by decide) (i+1,d+x.aQ[i].fBody.cnt) (by simp only;omega) rfl rfl rfl rfl ⟨by simp only;omega,by simp only;omega⟩
  ·have hi:i=x.aQ.length:=by omega
   rw[hi,List.drop_length,aR.eB] at p2;exact int_eq (by omega)
theorem Po(x:au)(hsz:x.sz<=4194304):aH prog 134 [x.v] (.c (.d (.i .i64 x.cnt))):=Ej _ x (Nat.lt_succ_self _) hsz
def ops:List (List UInt8):=[[43],[45],[42],[60],[61]]
def yH(t:ak):Prop:=t.aK=0/\t.fName=[]/\t.fArgs.length=0
def wm(e:au):Prop:=
 (1<=e.aK/\e.aK<=12)/\
 (if e.aK=5\/e.aK=11 then validName e.bC=true else e.bC=[])/\
 (if e.aK=3\/e.aK=4\/e.aK=5\/e.aK=6\/e.aK=8 then validName e.fName=true else if e.aK=10 then e.fName∈ops else e.fName=[])/\
 (if e.aK=1 then -999999<=e.fN/\e.fN<=999999 else if e.aK=2 then e.fN=0\/e.fN=1 else e.fN=0)/\
 (if e.aK=12 then pq e.fType=true else yH e.fType)/\
 (if e.aK=4\/e.aK=6 then True else if e.aK=5 then 1<=e.fArgs.length else if e.aK=7\/e.aK=11\/e.aK=12 then e.fArgs.length=1 else if e.aK=8\/e.aK=10 then e.fArgs.length=2 else if e.aK=9 then e.fArgs.length=3 else e.fArgs.length=0)/\
 (e.aK=7<->0<e.aQ.length)
mutual
noncomputable def jd:au->Bool
 | .mk k t n m ty a b=>dec (wm (.mk k t n m ty a b))&&(mZ a&&qE b)
noncomputable def mZ:List au->Bool
 |[]=>true
 |x::xs=>jd x&&mZ xs
noncomputable def xP:aR->Bool
 | .mk c v b=>validName c&&(iU v&&jd b)
noncomputable def qE:List aR->Bool
 |[]=>true
 |x::xs=>xP x&&qE xs
end
theorem zl(x:au):jd x=(dec (wm x)&&(mZ x.fArgs&&qE x.aQ)):=by cases x;rw[jd];rfl
theorem ug(x:aR):xP x=(validName x.dM&&(iU x.aG&&jd x.fBody)):=by cases x;rw[xP];rfl
theorem WX{xs:List au}{i:Nat}(hi:i<xs.length):mZ (xs.drop i)=(jd xs[i]&&mZ (xs.drop (i+1))):=by rw[List.drop_eq_getElem_cons hi,mZ]
theorem Zt{xs:List aR}{i:Nat}(hi:i<xs.length):qE (xs.drop i)=(xP xs[i]&&qE (xs.drop (i+1))):=by rw[List.drop_eq_getElem_cons hi,qE]
theorem MF:∀{xs:List au},(xs.any fun t=> !jd t)= !mZ xs
 |[]=>rfl
 |t::ts=>by rw[List.any_cons,MF (xs:=ts),mZ];simp
theorem Pp:∀{xs:List aR},(xs.any fun t=> !xP t)= !qE xs
 |[]=>rfl
 |t::ts=>by rw[List.any_cons,Pp (xs:=ts),qE];simp
noncomputable def tJ(e:au):Bool:=dec (e.cnt<=300)&&jd e
def qG(l:Int)(c:Nat):Int:=if l<0 then -1 else if c<=l then l-c else -1
theorem Ik{l:Int}{a b:Nat}:qG (qG l a) b=qG l (a+b):=by unfold qG;split<;>split<;>(try split)<;>(try split)<;>omega
theorem Ng{l:Int}{a:Nat}(h:l<0):qG l a= -1:=if_pos h
theorem Kc{l:Int}(h: -1<=l):qG l 0=l:=by unfold qG;split<;>(try split)<;>omega
theorem Rm{l:Int}{c:Nat}(h:0<=l): -1<=qG l c/\qG l c<=l:=by unfold qG;split<;>(try split)<;>omega
theorem aiF{l:Int}{c:Nat}(h:0<=l):decide (qG l c>=0)=decide ((c:Int)<=l):=by unfold qG;rw[if_neg (by omega)];split<;>simp<;>omega
theorem Uq:validName []=false:=aB fun h=>by have:=h.1.1;simp at this
theorem afs{s:List UInt8}(h:s∈ops):s.length=1:=by simp[ops] at h;rcases h with h|h|h|h|h<;>rw[h]<;>rfl
theorem WY{s:List UInt8}(h:s∈ops):validName s=false:=aB fun x=>by
 have h1:=x.2.2 0 (by have:=x.1.1;omega);simp[ops] at h;rcases h with h|h|h|h|h<;>rw[h] at h1<;>simp[lowerB,tq] at h1
theorem Pq{t:ak}(h:yH t):pq t=false:=aB fun x=>by
 have h1:=x.1;rw[zh,Bool.and_eq_true] at h1;have h2:=gH h1.1;rw[h.1] at h2;omega
structure Hold(p:Prop):Prop where
 out:p
theorem oD{P:Program}{N:Nat}{c:Code}{Q:Exit->St->Prop}{tm:List (Nat×V)}{st st':Store}(ts:List Nat)(vs:List V)(hv:ts.map (look tm)=vs)(hs:st=st')
 (h:AW P N c Q ⟨iX ts vs,st'⟩):AW P N c Q ⟨tm,st⟩:=by
 subst hs;refine nJ h ?_;rw[<-hv];exact M6 fun t=>yO _ ts t
theorem alG(b:UInt8):decide (firstIdx ⟨[43,45,42,60,61].toArray⟩ b>=0)=dec ([b]∈ops):=by
 have h:∀n:Nat,n<256->decide (firstIdx ⟨[43,45,42,60,61].toArray⟩ (UInt8.ofNat n)>=0)=decide ([UInt8.ofNat n]∈ops):=by decide +kernel
 have h1:=h b.toNat (UInt8.toNat_lt b);rw[UInt8.ofNat_toNat] at h1;rw[h1];by_cases h2:[b]∈ops
 ·rw[aZ h2];simp[h2]
 ·rw[aB h2];simp[h2]
def acD(k:Int):Int:=if k=5\/k=7\/k=11\/k=12 then 1 else if k=8\/k=10 then 2 else if k=9 then 3 else 0
def acE(k:Int):Int:=if k=4\/k=6\/k=5 then 300 else if k=7\/k=11\/k=12 then 1 else if k=8\/k=10 then 2 else if k=9 then 3 else 0
theorem Ma(l:List UInt8)(b:UInt8):abu prog 255 [.c (.d (.s l)),.c (.d (.i .u8 b.toNat))] (.c (.d (.i .i64 (firstIdx ⟨l.toArray⟩ b)))):=by
 refine⟨_,Extern.BytealgIndexByte.indexByte,func255,by kernel_rfl,by kernel_rfl,by kernel_rfl,by kernel_rfl,fun w σ S β vs hS hv=> ?_⟩;obtain⟨hl,h⟩:=hv;obtain⟨v0,e0,h0,_⟩:=h 0 _ rfl;obtain⟨v1,e1,h1,_⟩:=h 1 _ rfl;cases h0;cases h1
 have hvs:vs=[.string ⟨l.toArray⟩,.int .u8 b.toNat]:=by
  match vs,hl,e0,e1 with
  |[x,y],_,e0,e1=>simp at e0 e1;rw[e0,e1]
 subst hvs;refine⟨_,run_indexByte_string _ _ w,?_,rfl⟩
 have hb:(b.toNat:Int).toNat.toUInt8=b:=by simp
 rw[hb];exact .i _ _
theorem Ke(l:List UInt8)(b:UInt8):aH prog 187 [.c (.d (.s l)),.c (.d (.i .u8 b.toNat))] (.c (.d (.i .i64 (firstIdx ⟨l.toArray⟩ b)))):=fun S=>by
 refine zcx [.tmp 4] func187 ntmps187 ?_;refine W1 ?_;refine anm (Ma l b) ?_;exact Z1
theorem Zu(l:List UInt8)(b:UInt8)(hl:[b]≠l):aH prog 293 [.c (.d (.s l)),.c (.d (.s [b]))] (.c (.d (.i .i64 (firstIdx ⟨l.toArray⟩ b)))):=fun S=>by
 have c1:decide (((1:Nat):Int)=0)=false:=rfl;have c2:decide (((1:Nat):Int)=1)=true:=rfl;refine zcx [.tmp 4] func293 ntmps293 ?_;simp -implicitDefEqProofs (disch:=omega) only[go_sem,c1,c2]
 with_reducible refine dD (fun hb=> ?_) (fun hb=> ?_)<;>have h:=hb<;>(try simp only[wf_preprocess] at h)<;>simp -implicitDefEqProofs (disch:=omega) only[go_sem,hb,c1,c2]<;>refine W3 ?_
 ·exact absurd h hl
 exact C4 (Ke l b)
theorem aft(l:List UInt8)(b:UInt8)(hl:[b]≠l):aH prog 248 [.c (.d (.s l)),.c (.d (.s [b]))] (.c (.d (.i .i64 (firstIdx ⟨l.toArray⟩ b)))):=fun S=>by
 refine zcx [.tmp 4] func248 ntmps248 ?_;refine W1 ?_;exact C4 (Zu l b hl)
theorem WZ(l:List UInt8)(b:UInt8)(hl:[b]≠l):aH prog 301 [.c (.d (.s l)),.c (.d (.s [b]))] (.c (.d (.b (decide (firstIdx ⟨l.toArray⟩ b>=0))))):=fun S=>by
 refine zcx [.tmp 4] func301 ntmps301 ?_;refine W1 ?_;exact C4 (aft l b hl)
theorem Ur(s:List UInt8):aH prog 260 [.c (.d (.s s))] (.c (.d (.b (dec (s∈ops))))):=fun S=>by
 refine zcx [.tmp 2] func260 ntmps260 ?_;refine W1 ?_;refine S0 (fun hb h=>?_) fun hb h=>?_
 ·obtain⟨b,rfl⟩:=List.length_eq_one_iff.1 (show s.length=1 by omega);refine C2 (WZ [43,45,42,60,61] b (by intro x;cases x)) ?_;exact ay (alG b)
 ·exact ay (aB fun x=>h (by rw[afs x];rfl)).symm
theorem Jd(t:ak):aH prog 237 [t.v] (.c (.d (.b (dec (yH t))))):=fun S=>by
 refine zcx [.tmp 2] func237 ntmps237 ?_;refine W1 ?_
 repeat' (first
  |refine S0 (fun hb h=>?_) fun hb h=>?_
  |(refine ay ?_;unfold yH;grind [aZ,aB,gH,jg]))
theorem MG(k:Int):aH prog 259 [.c (.d (.i .i64 k))] (.dL [(false,[.d (.i .i64 (acD k))]),(false,[.d (.i .i64 (acE k))])]):=fun S=>by
 refine zcx [.tmp 2,.tmp 3] func259 ntmps259 ?_;refine W1 ?_
 repeat' (first
  |refine S0 (fun hb h=>?_) fun hb h=>?_
  |(unfold acD acE;grind))
end Go.Ab