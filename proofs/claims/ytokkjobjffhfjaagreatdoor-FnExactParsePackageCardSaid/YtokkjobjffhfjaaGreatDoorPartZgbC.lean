/-
  SEVERAL TEXTS IN ONE (merged by program): contracts and models, each with its own heading.
-/
import Derived.Test.YtokkjobjffhfjaaGreatDoorPartZgbB
import Derived.Carry
import Derived.WideKeyArgs
import Derived.ProofKit
import Derived.OpenShut
import Derived.WalkKit
import Derived.Test.YtokkjobjffhfjaaGreatDoorChecked
import Derived.Eval
import Derived.KernelRfl
import Derived.Lib.FrozenHead2
import Derived.Lib.OthersKept
import Derived.Lib.AppendStr
import Derived.Lib.UnsafeStr
import Derived.Lib.Builder
import Derived.Laws.Externs
import Derived.Deep.LoopGhost
set_option maxHeartbeats 8000000
open Go.Proofs Go.Proofs.Tryz
theorem Go.Ab.zmx:Go.Proofs.Tryz.prog.follows .mixedOrders=true:=Go.Proofs.Tryz.checked.mixed
set_option linter.unusedSimpArgs false
set_option linter.unusedVariables false
set_option maxRecDepth 4000
set_option maxRecDepth 100000
namespace Go.Ab
section
variable {P:Program} {S S':Store} {N:Nat} {s:St}
theorem JF(S:Store)(β:Hs)(k:Key):Keep S β (bR S k .dead) β:=by
 intro k' o ho;by_cases e:k=k'
 ·subst e;exact⟨.dead,eY _ _ _ _ ho,.inl rfl⟩
 ·exact⟨o,by rw[fK _ _ _ _ e];exact ho,nU.refl _ _⟩
theorem BM{k k':Key}{o:Obj}(h:bF (bR S k .dead) k'=some o):(k=k'/\o=.dead)\/bF S k'=some o:=by
 by_cases e:k=k'
 ·subst e
  cases hg:bF S k with
  |none=>
   have:∀(S:Store)(k:Key),bF S k=none->bR S k .dead=S:=by
    intro S
    induction S with
    |nil=>intro k _;rfl
    |cons fr S ih=>
     rintro⟨l,j⟩ h
     cases l with
     |zero=>
      rw[bV] at h;rw[bR,List.set_eq_of_length_le (List.getElem?_eq_none_iff.1 h)]
     |succ l=>rw[dw] at h;rw[bR,ih _ h]
   rw[this S k hg,hg] at h;cases h
  |some y=>
   rw[eY _ _ _ _ hg] at h;cases h;exact .inl ⟨rfl,rfl⟩
 ·rw[fK _ _ _ _ e] at h;exact .inr h
theorem VT(x:Obj):∀(S:Store)(k:Key),(bR S k x).length=S.length
 |[],k=>rfl
 |fr::S,(0,j)=>by rw[bR];simp
 |fr::S,(l+1,j)=>by rw[bR,List.length_cons,VT x S,List.length_cons]
theorem ZU(x:Obj):∀(S:Store)(k:Key)(l:Nat)(fr:List Obj),(bR S k x)[l]? =some fr->∃EM,S[l]? =some EM/\EM.length=fr.length
 |[],k,l,fr,h=>by simp[bR] at h
 |f::S,(0,j),0,fr,h=>by rw[bR] at h;simp at h;subst h;exact⟨f,rfl,by simp⟩
 |f::S,(0,j),l+1,fr,h=>by rw[bR] at h;exact⟨fr,by simpa using h,rfl⟩
 |f::S,(i+1,j),0,fr,h=>by rw[bR] at h;exact⟨fr,by simpa using h,rfl⟩
 |f::S,(i+1,j),l+1,fr,h=>by
  rw[bR] at h;simpa using ZU x S (i,j) l fr (by simpa using h)
theorem ahN{w:World}{σ:Nat->Nat}{β:Hs}(k:Key)(hS:fE w σ S β):fE w σ (bR S k .dead) β:=by
 have hn:eH w σ w σ:=(Grow.refl hS.live).near;refine⟨fun k' o ho=> ?_,fun k1 k2 o1 o2 h1 h2 b e1 e2 e3 e4 e5 e6=> ?_,⟨by rw[VT];exact hS.shape.1,fun l fr hl=> ?_⟩,hS.live,hS.uz⟩
 ·rcases BM ho with⟨rfl,rfl⟩|ho'
  ·cases hg:bF S k with
   |none=>
    exfalso;have:=JF S β k;rcases BM (S:=S) (k:=k) (k':=k) ho with⟨_,_⟩|h
    ·
     have hne:bF (bR S k .dead) k=none:=by
      have:∀(S:Store)(k:Key),bF S k=none->bF (bR S k Obj.dead) k=none:=by
       intro S
       induction S with
       |nil=>intro k _;rw[bR,qZ]
       |cons fr S ih=>
        rintro⟨l,j⟩ h
        cases l with
        |zero=>
         rw[bV] at h;rw[bR,bV,List.set_eq_of_length_le (List.getElem?_eq_none_iff.1 h)];exact h
        |succ l=>rw[dw] at h;rw[bR,dw];exact ih _ h
      exact this S k hg
     rw[hne] at ho;cases ho
    ·rw[hg] at h;cases h
   |some y=>
    obtain⟨h,hh,_⟩:=hS.obj k y hg;exact⟨h,hh,trivial⟩
  ·obtain⟨h,hh,hr⟩:=hS.obj k' o ho';exact⟨h,hh,hr.mono hn ((JF S β k).drop k'.1) fun b _=>⟨rfl,rfl⟩⟩
 ·rcases BM e1 with⟨_,rfl⟩|RP
  ·cases e3
  ·rcases BM e4 with⟨_,rfl⟩|e4'
   ·cases e6
   ·exact hS.apart k1 k2 o1 o2 h1 h2 b RP e2 e3 e4' e5 e6
 ·obtain⟨EM,h1,h2⟩:=ZU _ S k l fr hl;obtain⟨gr,h3,h4⟩:=hS.shape.2 l EM h1;exact⟨gr,h3,by omega⟩
def Less(r r':V):Prop:=∀w σ S β v,dP w σ S β r v->dP w σ S β r' v
theorem Less.refl(r:V):Less r r:=fun _ _ _ _ _ h=>h
theorem dz.kill{f:FuncId}{args:List V}{post post':V->Store->Prop}(k:Key)(h:dz P f args S post)(hp:∀r S',post r S'->∃r',Less r r'/\(post' r' S'\/post' r' (bR S' k .dead))):dz P f args S post':=by
 refine⟨h.1,fun w σ β vs hS hv=>(h.2 w σ β vs hS hv).mono fun e w' ⟨v,r,S',σ',β',h1,h2,h3,h4,h5,h6⟩=> ?_⟩;obtain⟨r',hl,hp|hp⟩:=hp r S' h6
 ·exact⟨v,r',S',σ',β',h1,h2,h3,h4,hl _ _ _ _ _ h5,hp⟩
 ·have hkeep:=JF S' β' k;refine⟨v,r',bR S' k .dead,σ',β',h1,ahN k h2,h3.trans hkeep,⟨h4.size,h4.os,h4.output,h4.far,h4.near,fun b hb=> ?_⟩,hl _ _ _ _ _ (h5.mono (Grow.refl h2.live).near hkeep),hp⟩;obtain⟨k',o,hv,e1,e2,e3⟩:=hb;rcases BM e1 with⟨_,rfl⟩|RP
  ·cases e3
  ·exact h4.own b ⟨k',o,hv,RP,e2,e3⟩
theorem bB{x y:Obj}:∀(S:Store)(k:Key),bR (bR S k x) k y=bR S k y
 |[],k=>rfl
 |fr::S,(0,j)=>by rw[bR,bR,bR];simp
 |fr::S,(l+1,j)=>by rw[bR,bR,bR,bB S]
theorem y7{x:Obj}:∀(S:Store)(k:Key),bF S k=some x->bR S k x=S
 |[],k,_=>rfl
 |fr::S,(0,j),h=>by
  rw[bV] at h;rw[bR];congr 1
  exact List.ext_getElem? fun i=>by
   rw[List.getElem?_set];split
   ·rename_i e;subst e;obtain⟨h1,h2⟩:=List.getElem?_eq_some_iff.1 h;simp[h1,h2]
   ·rfl
 |fr::S,(l+1,j),h=>by rw[dw] at h;rw[bR,y7 S _ h]
def xV:List Bool->List V->List V
 |true::m,v::vs=>v::xV m vs
 |false::m,v::vs=>v.ug::xV m vs
 |[],vs=>vs.map V.ug
 |_,[]=>[]
theorem MQ:∀(m:List Bool)(vs:List V),vs.length=(xV m vs).length
 |true::m,v::vs=>by rw[xV,List.length_cons,List.length_cons,MQ m vs]
 |false::m,v::vs=>by rw[xV,List.length_cons,List.length_cons,MQ m vs]
 |[],vs=>by simp[xV]
 |true::m,[]=>rfl
 |false::m,[]=>rfl
theorem QK:∀(m:List Bool)(vs:List V)(j:Nat)(x y:V),vs[j]? =some x->(xV m vs)[j]? =some y->y=x\/y=x.ug
 |true::m,v::vs,0,x,y,h1,h2=>by rw[xV] at h2;cases h1;cases h2;exact .inl rfl
 |false::m,v::vs,0,x,y,h1,h2=>by rw[xV] at h2;cases h1;cases h2;exact .inr rfl
 |true::m,v::vs,j+1,x,y,h1,h2=>by rw[xV] at h2;exact QK m vs j x y h1 h2
 |false::m,v::vs,j+1,x,y,h1,h2=>by rw[xV] at h2;exact QK m vs j x y h1 h2
 |[],vs,j,x,y,h1,h2=>by rw[xV,List.getElem?_map,h1] at h2;cases h2;exact .inr rfl
 |true::m,[],j,x,y,h1,h2=>by simp at h1
 |false::m,[],j,x,y,h1,h2=>by simp at h1
theorem dz.xV(m:List Bool){f:FuncId}{args:List V}{post:V->Store->Prop}(h:dz P f (Go.Ab.xV m args) S post):dz P f args S post:=
 h.weaken (MQ m args) fun j x y hx hy w σ β v hr=>by
  rcases QK m args j x y hx hy with e|e
  ·rw[e];exact hr
  ·rw[e];exact Vw hr
theorem qz(m:List Bool){dr:Option Nat}{f:FuncId}{args:List V}{dst:Option Nat}{K:St->Prop}{r:V}{S1:Store}(hm:ajK dr=true)(h:dz P f (xV m args) s.st (fun r' S'=>r'=r/\S'=S1))(hK:K (St.put ⟨s.tm,S1⟩ dst r)):fA P dr f args s dst K:=
 bg hm (h.xV m) hK
end
theorem aH.less{P:Program}{f:FuncId}{args:List V}{r r':V}(h:aH P f args r)(hl:Less r r'):aH P f args r':=
 fun S=>(h S).kill (0,0) fun r1 S' e=>⟨r',by rw[e.1];exact hl,.inl ⟨rfl,e.2⟩⟩
section
variable {P:Program} {S:Store}
def jQ(n:Nat)(caps:List (Key×Nat)):List (Key×Nat):=caps.map fun y=>(CF n y.1,y.2)
theorem abP{n:Nat}:jQ n []=[]:=rfl
theorem YK{n l j off:Nat}{caps:List (Key×Nat)}:jQ n (((l,j),off)::caps)=((n+l,j),off)::jQ n caps:=rfl
theorem R6{m n:Nat}{caps:List (Key×Nat)}:jQ m (jQ n caps)=jQ (m+n) caps:=by
 unfold jQ;rw[List.map_map];refine List.map_congr_left fun y _=> ?_;simp only[Function.comp,CF,Prod.mk.injEq,and_true];omega
theorem YL{n m g:Nat}{caps:List (Key×Nat)}:C.refs n (.fn g (jQ (m+1) caps))=true:=by
 simp only[C.refs,jQ,List.all_map,List.all_eq_true];intro x _
 have h:0<m+1+x.1.1:=by omega
 simp[Function.comp,nZ,CF,h]
theorem VU{n:Nat}{caps:List (Key×Nat)}:((jQ 1 caps).all fun x=>nZ n x.fst)=true:=YL (m:=0) (g:=0)
theorem VW:∀(F S:Store)(l j:Nat),bF (F++S) (F.length+l,j)=bF S (l,j)
 |[],S,l,j=>by simp
 |fr::F,S,l,j=>by
  rw[List.cons_append,List.length_cons,show F.length+1+l=(F.length+l)+1 from by omega,dw,VW F S l j]
theorem VX(x:Obj):∀(F S:Store)(l j:Nat),bR (F++S) (F.length+l,j) x=F++bR S (l,j) x
 |[],S,l,j=>by simp
 |fr::F,S,l,j=>by
  rw[List.cons_append,List.length_cons,show F.length+1+l=(F.length+l)+1 from by omega,bR,VX x F S l j,List.cons_append]
theorem aeE{F S:Store}{j:Nat}:bF (F++S) (F.length,j)=bF S (0,j):=VW F S 0 j
theorem aeF{F S:Store}{j:Nat}{x:Obj}:bR (F++S) (F.length,j) x=F++bR S (0,j) x:=VX x F S 0 j
attribute [go_sem] aeE aeF abP YK
def qj(P:Program)(g:Nat)(caps:List (Key×Nat))(S:Store)(xs:List V)(r:V):Prop:=
 ∀F:Store,dz P g (xs++DY (jQ F.length caps)) (F++S) (fun r' S'=>r'=r/\S'=F++S)
theorem qj.push{g:Nat}{caps:List (Key×Nat)}{xs:List V}{r:V}(h:qj P g caps S xs r)(fr:List Obj):qj P g (jQ 1 caps) (fr::S) xs r:=fun F=>by
 have:=h (F++[fr]);rw[R6];simpa using this
theorem qj.QL{g:Nat}{xs:List V}{r:V}(h:aH P g xs r):qj P g [] S xs r:=fun F=>by
 have:=h (F++S);simpa [jQ,DY] using this
def Hr(P:Program)(g:Nat)(caps:List (Key×Nat)){α X:Type}(st:α->Store)(I:Nat->α->Prop)(f:α->X->α)(xv:X->V)(ok:X->Prop):Prop:=
 ∀n a u,I (n+1) a->ok u->I n (f a u)/\∀F:Store,dz P g (xv u::DY (jQ F.length caps)) (F++st a) (fun r' S'=>r'=.dQ []/\S'=F++st (f a u))
theorem Hr.push{g:Nat}{caps:List (Key×Nat)}{α X:Type}{st:α->Store}{I:Nat->α->Prop}{f:α->X->α}{xv:X->V}{ok:X->Prop}(h:Hr P g caps st I f xv ok)(fr:List Obj):
 Hr P g (jQ 1 caps) (fun a=>fr::st a) I f xv ok:=fun n a u ha hu=>⟨(h n a u ha hu).1,fun F=>by
 have:=(h n a u ha hu).2 (F++[fr]);rw[R6]
 simpa using this⟩
theorem sS{N:Nat}{c:Code}{Q:Exit->St->Prop}{tm:List (Nat×V)}{own:List Obj}{Ω:Store}(j i aX:Nat)(es:List (List D))(cs:List C)(hj:own[j]? =some (.box cs))(hi:cs[i]? =some (.bG es))(hes:∀e∈es,e.length=aX)
 (h:AW P N c Q ⟨tm,(own.set j (.box (cs.set i (.bN (0,own.length) es)))++[.tok aX es])::Ω⟩):AW P N c Q ⟨tm,own::Ω⟩:=by
 refine ow h fun a w σ β hR=> ?_;obtain⟨bo,bΩ,rfl,hlen⟩:=frames hR;have hjl:=(List.getElem?_eq_some_iff.1 hj).1
 have hg0:bF (own::Ω) (0,j)=some (.box cs):=by rw[bV];exact hj
 obtain⟨hb,LY,hr⟩:=hR.S.obj (0,j) _ hg0;obtain⟨b,cv,ty,rfl,hbc,hσ,hcs⟩:=hr;have hcs:gN w σ (own::Ω) (bo::bΩ) cs cv.toList:=hcs;obtain⟨v,hv,⟨hd,ad,n,hval⟩,hone⟩:=hcs.2 i _ hi
 have hn:n=es.length:=by rw[hval] at hd;cases hd<;>rfl
 have hg:Grow w σ w σ:=Grow.refl hR.S.live
 obtain⟨hS',hk,hst⟩:=hR.S.push (o:=.tok aX es) (h:=v) hg hlen ⟨hd,hes,ad,n,by rw[hval,hn],by omega,.inl hn⟩ (fun b hb=>by
  rw[hval,hn] at hb
  cases ad<;>simp[owns,blk] at hb)
 have hk1:bF ((own++[.tok aX es])::Ω) (0,j)=some (.box cs):=kQ _ _ _ _ _ hg0;have IV:bF ((bo++[v])::bΩ) (0,j)=some (.pointer (some ⟨b,0,none⟩)):=kQ _ _ _ _ _ LY;have hko:nU (.box cs) (some (Value.pointer (some ⟨b,0,none⟩))) (.box (cs.set i (.bN (0,own.length) es))) (some (Value.pointer (some ⟨b,0,none⟩))):=.inr ⟨⟨_,rfl⟩,rfl⟩
 have hK:Keep ((own++[.tok aX es])::Ω) ((bo++[v])::bΩ) (bR ((own++[.tok aX es])::Ω) (0,j) (.box (cs.set i (.bN (0,own.length) es)))) (bR ((bo++[v])::bΩ) (0,j) (.pointer (some ⟨b,0,none⟩))):=by
  intro k1 o1 e1;by_cases e:k1=(0,j)
  ·subst e;rw[hk1] at e1;cases e1;exact⟨_,eY _ _ _ _ hk1,by rw[IV,eY _ _ _ _ IV];exact hko⟩
  ·exact⟨o1,(fK _ _ _ _ (Ne.symm e)).trans e1,by rw[fK _ _ _ _ (Ne.symm e)];exact .refl _ _⟩
 have hne:(0,own.length)≠(0,j):=fun e=>by injection e with _ e;omega
 obtain⟨hS2,hk2,xU⟩:=hS'.set (w':=w) (σ':=σ) (o':=.box (cs.set i (.bN (0,own.length) es))) (h':=.pointer (some ⟨b,0,none⟩)) hk1 IV (Nat.le_refl _) rfl rfl (eH.refl _ _) hS'.live (fun _ _ _=>⟨rfl,rfl⟩) hko
  ⟨b,cv,ty,rfl,hbc,hσ,by
    refine⟨by rw[List.length_set];exact hcs.1,fun m x hm=> ?_⟩;rw[List.getElem?_set] at hm;by_cases e:i=m
    ·subst e;rw[if_pos rfl] at hm;split at hm
     ·cases hm;refine⟨v,hv,⟨hd,.tok aX es,?_,fun a1 b1 e1=> ?_⟩,hone⟩
      ·show bF (bR _ (0,j) _) (0,own.length)=_;rw[fK _ _ _ _ (Ne.symm hne),cZ]
      ·obtain⟨_,rfl⟩:=pR (lab:=none) e1;refine⟨Nat.le_refl _,fun _=> ?_⟩;show bF (bR _ (0,j) _) (0,own.length)=_;rw[fK _ _ _ _ (Ne.symm hne),<-hlen,cZ]
     ·cases hm
    ·rw[if_neg e] at hm;obtain⟨u,hu,hc,ho⟩:=hcs.2 m x hm
     exact⟨u,hu,(hc.mono (eH.refl _ _) hk).mono (eH.refl _ _) hK,ho⟩⟩ (fun _ e=>.inl e)
 have est:bR ((own++[.tok aX es])::Ω) (0,j) (.box (cs.set i (.bN (0,own.length) es)))=(own.set j (.box (cs.set i (.bN (0,own.length) es)))++[.tok aX es])::Ω:=by
  rw[bR,List.set_append_left _ _ hjl]
 rw[est] at hS2 hk2 xU
 exact⟨σ,_,⟨hR.size,hR.defers,hS2,fun u=>((hR.T u).mono (eH.refl _ _) hk).mono (eH.refl _ _) hk2⟩,hst.trans xU,by
  have:=hk.trans hk2
  exact this.tail⟩
end
inductive D.Fit:D->Prop
 |b (x):Fit (.b x)
 |i (k n):Fit (.i k n)
 |s (l) (h:l.length<=9223372036854775807):Fit (.s l)
 |sl (es) (h:es.length<=9223372036854775807) (hh:∀e∈es,∀d∈e,Fit d):Fit (.sl es)
 |o (v):Fit (.o v)
def Co(cs:List D):Prop:=∀d∈cs,d.Fit
theorem D5:Co []:=fun d h=>by cases h
theorem EO{d:D}{ds:List D}:Co (d::ds)<->d.Fit/\Co ds:=by simp[Co]
theorem YM{a b:List D}:Co (a++b)<->Co a/\Co b:=by
 simp only[Co,List.mem_append];exact⟨fun h=>⟨fun d hd=>h d (.inl hd),fun d hd=>h d (.inr hd)⟩,fun h d hd=>hd.elim (h.1 d) (h.2 d)⟩
def WTF(P:Program)(W:TypeId->List D->Prop):List Field->List D->Prop
 |[],ds=>ds=[]
 |f::fs,ds=>∃a b,ds=a++b/\a.length=P.cellsOf f.type/\W f.type a/\WTF P W fs b
def WT(P:Program):Nat->TypeId->List D->Prop
 |0,_,_=>False
 |n+1,t,ds=>
  match P.underlying t with
  |some .bool=>∃b,ds=[.b b]
  |some (.int k)=>∃x,ds=[.i k x]/\(Lit.int k x).wf=true
  |some .string=>∃l,ds=[.s l]/\l.length<=9223372036854775807
  |some (.slice e)=>∃es,ds=[.sl es]/\es.length<=9223372036854775807/\∀x∈es,x.length=P.cellsOf e/\WT P n e x
  |some (.struct fs)=>WTF P (WT P n) fs.toList ds
  |_=>False
def Df(P:Program):List Field->Nat->Nat->Bool
 |[],a,b=>a==b
 |f::fs,a,b=>f.offset==a&&Df P fs (a+P.cellsOf f.type) b
def QM(P:Program)(L:List TypeId):Bool:=
 L.all fun t=>match P.underlying t with
  |some .bool|some (.int _)|some .string=>P.cellsOf t==1
  |some (.slice e)=>P.cellsOf t==1&&L.contains e&&decide (0<P.cellsOf e)
  |some (.struct fs)=>Df P fs.toList 0 (P.cellsOf t)&&fs.toList.all fun f=>L.contains f.type
  |_=>false
def kZ(w:World)(b:Nat):Nat:=match w.heap[b]? with
 |some (.cells c _ _)=>c.size
 |_=>0
def uZ(w:World)(ds:List D)(vs:List Value):Prop:=ds.length=vs.length/\∀(j:Nat)(d:D),ds[j]? =some d->∃v,vs[j]? =some v/\dI w (kZ w) d v/\v.oneCell'=true
theorem uZ.append{w:World}{a b:List D}{xs ys:List Value}(h1:uZ w a xs)(h2:uZ w b ys):uZ w (a++b) (xs++ys):=by
 refine⟨by simp[h1.1,h2.1],fun j d hj=> ?_⟩;rw[List.getElem?_append] at hj ⊢;have:=h1.1;split at hj
 ·rw[if_pos (by omega)];exact h1.2 j d hj
 ·rw[if_neg (by omega),<-h1.1];exact h2.2 _ d hj
theorem uZ.one{w:World}{d:D}{v:Value}(h:dI w (kZ w) d v)(h1:v.oneCell'=true):uZ w [d] [v]:=by
 refine⟨rfl,fun j x hj=> ?_⟩
 cases j with
 |zero=>cases hj;exact⟨v,rfl,h,h1⟩
 |succ j=>simp at hj
theorem VY{α β:Type}(f:α->Option β):∀(l:List α)(ys:List β),l.mapM f=some ys->ys.length=l.length/\∀(j:Nat)(x:α),l[j]? =some x->∃y,f x=some y/\ys[j]? =some y
 |[],ys,h=>by
  simp at h;subst h;exact⟨rfl,fun j x hj=>by simp at hj⟩
 |a::l,ys,h=>by
  rw[List.mapM_cons] at h
  cases ha:f a with
  |none=>rw[ha] at h;cases h
  |some y=>
   cases hl:l.mapM f with
   |none=>rw[ha,hl] at h;cases h
   |some zs=>
    rw[ha,hl] at h;cases h;obtain⟨h1,h2⟩:=VY f l zs hl;refine⟨by simp[h1],fun j x hj=> ?_⟩
    cases j with
    |zero=>cases hj;exact⟨y,ha,rfl⟩
    |succ j=>exact h2 j x hj
section
variable {H:Type} {enc:TypeId×Value->H} {P:Program} {w:World} {L:List TypeId}
theorem Ht{a:Addr}{n:Nat}{vs:List Value}(hn:0<n)(h:w.cells? 0 a n=some vs):a.spot=none/\vs.length=n/\∃c t fz,w.heap[a.block]? =some (.cells c t fz)/\∀j,j<n->∃v,vs[j]? =some v/\c[a.off+j]? =some v:=by
 unfold World.cells? at h;rw[if_pos (Nat.zero_le _)] at h;obtain⟨h1,h2⟩:=VY _ _ _ h;rw[List.length_range] at h1;obtain⟨v0,hv0,_⟩:=h2 0 0 (by simp[hn])
 have Ux:a.add 0=a:=by simp[Addr.add]
 rw[Ux] at hv0;unfold World.cell? at hv0
 cases hb:w.heap[a.block]? with
 |none=>rw[hb] at hv0;cases hv0
 |some ob=>
  rw[hb] at hv0
  cases ob with
  |map _ _=>cases hv0
  |cells c t fz=>
   have hs:a.spot=none:=by
    cases hsp:a.spot with
    |none=>rfl
    |some x=>rw[hsp] at hv0;simp at hv0
   refine⟨hs,h1,c,t,fz,rfl,fun j hj=> ?_⟩;obtain⟨v,hv,hvs⟩:=h2 j j (by simp[hj]);refine⟨v,hvs,?_⟩;unfold World.cell? at hv;by_cases hj0:j=0
   ·subst hj0;rw[Ux,hb] at hv;simp[hs] at hv;simpa using hv
   ·simp[Addr.add,hj0,hb] at hv;exact hv
  |_=>cases hv0
theorem Ma{α:Type}{p:Nat->α->Prop}:∀n:Nat,(∀i,i<n->∃x,p i x)->∃l:List α,l.length=n/\∀(i:Nat)(x:α),l[i]? =some x->p i x
 |0,_=>⟨[],rfl,fun i x h=>by simp at h⟩
 |n+1,h=>by
  obtain⟨l,hl,hp⟩:=Ma n fun i hi=>h i (by omega);obtain⟨x,hx⟩:=h n (by omega);refine⟨l++[x],by simp[hl],fun i y hy=> ?_⟩;rw[List.getElem?_append] at hy;split at hy
  ·exact hp i y hy
  ·rename_i hlt
   have hi:i-l.length<1:=by
    have:=(List.getElem?_eq_some_iff.1 hy).1;simpa using this
   have:i=n:=by omega
   subst this;rw[show i-l.length=0 from by omega] at hy;cases hy;exact hx
theorem aeG(hc:QM P L=true){t:TypeId}(ht:t∈L):(match P.underlying t with
 |some .bool|some (.int _)|some .string=>P.cellsOf t==1
 |some (.slice e)=>P.cellsOf t==1&&L.contains e&&decide (0<P.cellsOf e)
 |some (.struct fs)=>Df P fs.toList 0 (P.cellsOf t)&&fs.toList.all fun f=>L.contains f.type
 |_=>false)=true:=List.all_eq_true.1 hc t ht
theorem YN{n:Nat}{fs:List Field}{cs:List Value}:∀(off:Nat),off<=cs.length->Df P fs off cs.length=true->
 (∀f∈fs,∃ds,WT P n f.type ds/\uZ w ds ((cs.drop f.offset).take (P.cellsOf f.type)))->∃ds,WTF P (WT P n) fs ds/\uZ w ds (cs.drop off):=by
 induction fs with
 |nil=>
  intro off _ ht _
  have:off=cs.length:=by simpa [Df] using ht
  exact⟨[],rfl,by simp[this,uZ]⟩
 |cons f fs ih=>
  intro off ho ht h;simp only[Df,Bool.and_eq_true,beq_iff_eq] at ht;obtain⟨a,ha1,ha2⟩:=h f (by simp)
  have hle:∀(fs:List Field)(o:Nat),Df P fs o cs.length=true->o<=cs.length:=by
   intro fs
   induction fs with
   |nil=>intro o h;have:o=cs.length:=by simpa [Df] using h
         omega
   |cons g gs ih=>intro o h;simp only[Df,Bool.and_eq_true] at h;have:=ih _ h.2;omega
  have hle':=hle fs _ ht.2;obtain⟨b,hb1,hb2⟩:=ih (off+P.cellsOf f.type) hle' ht.2 fun g hg=>h g (by simp[hg]);rw[ht.1] at ha2;refine⟨a++b,⟨a,b,rfl,?_,ha1,hb1⟩,?_⟩
  ·rw[ha2.1];simp;omega
  ·have:=ha2.append hb2;rw[<-List.drop_drop,List.take_append_drop] at this;exact this
theorem JG(hc:QM P L=true){sp:Nat->Bool}{held:Bool}:∀(fuel:Nat)(t:TypeId)(cs:List Value)(x:DataW H×List MemPlace),t∈L->
 DataW.trod enc P w 0 sp held fuel t cs=some x->∃ds,WT P fuel t ds/\uZ w ds cs
 |0,t,cs,x,_,h=>by simp[DataW.trod] at h
 |n+1,t,cs,x,ht,h=>by
  have hcl:=aeG hc ht
  cases hu:P.underlying t with
  |none=>rw[hu] at hcl;cases hcl
  |some u=>
   rw[hu] at hcl
   cases u with
   |bool=>
    obtain⟨b,rfl,_⟩:=DataW.trod_bool hu h;exact⟨[.b b],by simp only[WT,hu];exact⟨b,rfl⟩,uZ.one (.b b) rfl⟩
   |int k=>
    obtain⟨m,rfl,_,hw⟩:=DataW.trod_int hu h;exact⟨[.i k m],by simp only[WT,hu];exact⟨m,rfl,hw⟩,uZ.one (.i k m) rfl⟩
   |string=>
    obtain⟨s,rfl,_,hs⟩:=DataW.trod_string hu h
    have hl:s.data.toList.length<=9223372036854775807:=by
     have h1:s.data.toList.length=s.size:=by rw[Array.length_toList];rfl
     rw[h1];exact hs
    refine⟨[.s s.data.toList],?_,uZ.one ?_ rfl⟩
    ·simp only[WT,hu];exact⟨_,rfl,hl⟩
    ·exact .s s.data.toList
   |slice e=>
    simp only[Bool.and_eq_true,beq_iff_eq,decide_eq_true_eq,List.contains_iff_mem] at hcl;obtain⟨⟨h1,he⟩,hpos⟩:=hcl;rcases DataW.trod_slice hu h with⟨rfl,_⟩|⟨a,len,cap,elems,rest,m,hm,rfl,_,_,hlc,hcm,hel,hget,_,_⟩
    ·exact⟨[.sl []],by simp only[WT,hu];exact⟨[],rfl,by simp,fun x hx=>by cases hx⟩,uZ.one (.nil _ _) rfl⟩
    ·cases hm
     have hall:∀i,i<len->∃ds:List D,ds.length=P.cellsOf e/\WT P n e ds/\∃vs,w.cells? 0 (a.add (i*P.cellsOf e)) (P.cellsOf e)=some vs/\uZ w ds vs:=by
      intro i hi;have hg:=hget i hi
      cases hcs:w.cells? 0 (a.add (i*P.cellsOf e)) (P.cellsOf e) with
      |none=>
       rw[hcs] at hg
       have:i<elems.length:=by omega
       rw[List.getElem?_eq_getElem this] at hg;cases hg
      |some vs=>
       rw[hcs] at hg
       have hlt:i<elems.length:=by omega
       rw[List.getElem?_eq_getElem hlt] at hg;obtain⟨ds,hd1,hd2⟩:=JG hc n e vs _ he hg;have hv:=(Ht hpos hcs).2.1;exact⟨ds,by rw[hd2.1,hv],hd1,vs,rfl,hd2⟩
     obtain⟨es,hes,hp⟩:=Ma len hall
     have hwt:WT P (n+1) t [.sl es]:=by
      simp only[WT,hu]
      refine⟨es,rfl,by have:cap<=9223372036854775807:=hcm
                       omega,fun x hx=> ?_⟩
      obtain⟨i,hi⟩:=List.getElem?_of_mem hx;exact⟨(hp i x hi).1,(hp i x hi).2.1⟩
     refine⟨[.sl es],hwt,?_⟩
     cases MH:es with
     |nil=>
      have h0:len=0:=by rw[<-hes,MH];rfl
      subst h0;exact uZ.one (.nil _ _) rfl
     |cons e0 es0=>
      have aoz:0<len:=by rw[<-hes,MH];simp
      have hlen:∀x∈es,x.length=P.cellsOf e:=fun x hx=>by
       obtain⟨i,hi⟩:=List.getElem?_of_mem hx;exact(hp i x hi).1
      obtain⟨ds0,_,_,vs0,amT,_⟩:=hall 0 aoz
      have Ux:a.add (0*P.cellsOf e)=a:=by simp[Addr.add]
      rw[Ux] at amT;obtain⟨hsp,_,c,tt,fz,hblk,_⟩:=Ht hpos amT
      have hcell:∀i r,i<len->r<P.cellsOf e->∃(x:List D) (v:Value) (d:D),es[i]? =some x/\x[r]? =some d/\c[a.off+(i*P.cellsOf e+r)]? =some v/\dI w (kZ w) d v:=by
       intro i r hi hr
       have hlt:i<es.length:=by omega
       obtain⟨hx1,hx2,vs,hvs,hrep⟩:=hp i es[i] (List.getElem?_eq_getElem hlt);obtain⟨_,hvl,c',t',U8,hblk',hcc⟩:=Ht hpos hvs
       have hb':(a.add (i*P.cellsOf e)).block=a.block:=by unfold Addr.add;split<;>rfl
       have ho':(a.add (i*P.cellsOf e)).off=a.off+i*P.cellsOf e:=by unfold Addr.add;split<;>simp_all
       rw[hb',hblk] at hblk';cases hblk';obtain⟨v,hv1,hv2⟩:=hcc r hr
       have hdr:r<es[i].length:=by omega
       obtain⟨v',hv',hd',_⟩:=hrep.2 r es[i][r] (List.getElem?_eq_getElem hdr);rw[hv1] at hv';cases hv';refine⟨es[i],v,es[i][r],List.getElem?_eq_getElem hlt,List.getElem?_eq_getElem hdr,?_,hd'⟩;rw[ho'] at hv2;rw[<-Nat.add_assoc];exact hv2
      have hbound:a.off+len*P.cellsOf e<=c.size:=by
       obtain⟨_,v,_,_,_,hv,_⟩:=hcell (len-1) (P.cellsOf e-1) (by omega) (by omega);have:=(Array.getElem?_eq_some_iff.1 hv).1
       have e1:(len-1)*P.cellsOf e+P.cellsOf e=len*P.cellsOf e:=by
        rw[<-Nat.succ_mul];congr 1;omega
       omega
      have key:dI w (kZ w) (.sl es) (.slice (some ⟨a.block,a.off,none⟩) es.length cap):=by
       refine .sl a.block a.off cap (P.cellsOf e) es (fun j=>(c[a.off+j]?).getD undef) c tt fz (by omega) hlen hblk ?_ (fun j hj=> ?_) (fun j d hj=> ?_)
       ·unfold kZ;rw[hblk,hes];exact hbound
       ·have:a.off+j<c.size:=by rw[hes] at hj;omega
        rw[Array.getElem?_eq_getElem this];rfl
       ·have hfl:es.flatten.length=es.length*P.cellsOf e:=kr es _ hlen
        have hjl:j<es.length*P.cellsOf e:=by rw[<-hfl];exact(List.getElem?_eq_some_iff.1 hj).1
        have hi:j/P.cellsOf e<len:=by rw[<-hes];exact(Nat.div_lt_iff_lt_mul hpos).2 hjl
        obtain⟨x,v,d',hx,hd',hv,hr⟩:=hcell (j/P.cellsOf e) (j % P.cellsOf e) hi (Nat.mod_lt _ hpos)
        have hlt':j/P.cellsOf e<es.length:=by omega
        have hfg:=flat_get es (P.cellsOf e) hlen (j/P.cellsOf e) (j % P.cellsOf e) hlt' (Nat.mod_lt _ hpos)
        have hj':j/P.cellsOf e*P.cellsOf e+j % P.cellsOf e=j:=by rw[Nat.mul_comm];exact Nat.div_add_mod j _
        rw[hj',hj] at hfg;rw[List.getElem?_eq_getElem hlt'] at hx;cases hx;rw[hd'] at hfg;cases hfg;rw[hj'] at hv;rw[hv];exact hr
      rw[<-MH];refine uZ.one ?_ rfl
      have ha:a=⟨a.block,a.off,none⟩:=by cases a;simp at hsp;simp[hsp]
      rw[ha,<-hes];exact key
   |struct fs=>
    simp only[Bool.and_eq_true] at hcl;obtain⟨htl,hfs⟩:=hcl;obtain⟨xs,m,hm,rfl,hlen,hxs,apV⟩:=DataW.trod_struct hu h;cases hm;rw[<-hlen] at htl
    obtain⟨ds,h1,h2⟩:=YN (w:=w) (n:=n) (cs:=cs) 0 (Nat.zero_le _) htl fun f hf=>by
     obtain⟨i,hi⟩:=List.getElem?_of_mem hf
     have hi':fs[i]? =some f:=by simpa using hi
     have hg:=apV i f hi'
     have hlt:i<xs.length:=by
      rw[hxs];exact(Array.getElem?_eq_some_iff.1 hi').1
     rw[List.getElem?_eq_getElem hlt] at hg
     have hfL:f.type∈L:=by
      have:=List.all_eq_true.1 hfs f hf;simpa using this
     exact JG hc n f.type _ _ hfL hg
    refine⟨ds,by simp only[WT,hu];exact h1,?_⟩;rw[List.drop_zero] at h2;exact h2
   |_=>cases hcl
end
open Go.ChangeShapes Go.WideShapes Go.ChangeAt Go.RowKit
section
variable {H:Type} {enc:TypeId×Value->H} {P:Program} {W W':World} {L:List TypeId} {t:TypeId} {v:Value} {base:Nat}
theorem ahO{d:D}(hv:v.cells.toList=[v])(hL:uZ W [d] v.cells.toList):dP W (kZ W) [] [] (.c (.d d)) v:=by
 obtain⟨u,h1,h2,h3⟩:=hL.2 0 d rfl;rw[hv] at h1;cases h1;exact⟨h2,h3⟩
theorem abQ{d:D}(ht:P.underlying t=some .string)(hok:Value.okWide P W .any base t v)(hL:uZ W [d] v.cells.toList):dP W (kZ W) [] [] (.c (.d d)) v:=by
 obtain⟨s,rfl⟩:=okWide_string ht hok;exact ahO rfl hL
theorem aeH:qg W (kZ W) [] [] [] []:=⟨rfl,fun j x h=>by simp at h⟩
theorem abR{x:V}{xs:List V}{vs:List Value}(h1:dP W (kZ W) [] [] x v)(h2:qg W (kZ W) [] [] xs vs):qg W (kZ W) [] [] (x::xs) (v::vs):=by
 refine⟨by simp[h2.1],fun j y hj=> ?_⟩
 cases j with
 |zero=>cases hj;exact⟨v,rfl,h1⟩
 |succ j=>exact h2.2 j y hj
theorem ahP(W:World)(hg:nD W (kZ W)):fE W (kZ W) [] [] where
 uz:=hg
 obj:=fun k o h=>by rw[qZ] at h;cases h
 apart:=fun k k' o o' h h' b h1=>by rw[qZ] at h1;cases h1
 shape:=⟨rfl,fun l fr h=>by simp at h⟩
 live:=fun b=>by
  by_cases h:b<W.heap.size
  ·exact .inl h
  ·right;unfold kZ;rw[Array.getElem?_eq_none (by omega)]
theorem amU{b:Nat}:¬Own [] [] b:=fun⟨k,o,h,h1,_⟩=>by rw[qZ] at h1;cases h1
theorem IW(hl:laidOutB P=true)(hsame:∀b,b<W.heap.size->W'.heap[b]? =W.heap[b]?)(sp:Nat->Bool):∀(ts:List TypeId)(vs:List Value)(ds:List (DataW H))(ps:List MemPlace),
 (ts.all fun t=>P.readableRec t&&decide (t<P.types.size))=true->(∀p∈ps,p.block<W.heap.size/\sp p.block=true)->
   DataW.TrodAll enc P W 0 (fun _=>true) true ts vs ds ps->DataW.TrodAll enc P W' 0 sp true ts vs ds ps
 |[],[],[],ps,_,_,h=>h
 |t::ts,v::vs,d::ds,ps,hr,hlt,h=>by
  simp only[List.all_cons,Bool.and_eq_true,decide_eq_true_eq] at hr;obtain⟨p,q,h1,h2,rfl⟩:=h;refine⟨p,q,WideElems.Trod_stays hl hr.1.1 hr.1.2 h1 (fun x hx=> ?_) (fun x hx=>(hlt x (by simp[hx])).2),IW hl hsame sp ts vs ds q hr.2 (fun x hx=>hlt x (by simp[hx])) h2,rfl⟩;have hb:=(hlt x (by simp[hx])).1
  cases x with
  |cell b o=>exact World.cell?_of_block (w:=W) (hsame b hb)
  |map b=>exact hsame b hb
 |[],[],_::_,ps,_,_,h=>h.elim
 |[],_::_,_,ps,_,_,h=>h.elim
 |_::_,[],_,ps,_,_,h=>h.elim
 |_::_,_::_,[],ps,_,_,h=>h.elim
theorem ahQ{f:FuncId}{fn:Func}{s:ChangeSpec}{args:Array Value}{ds gs:List (DataW H)}{before:List MemPlace}{vs:List V}{tb:TypeId}(hl:laidOutB P=true)
 (hr:(fn.params.toList.all fun t=>P.readableRec t&&decide (t<P.types.size))=true) (hvars:s.vars=[]) (hres:fn.resultTypes= #[tb]) (htb:P.underlying tb=some .bool)
 (hs1:(s.fn H (ds++gs)).results=[.lit (.bool true)]) (hs2:(s.fn H (ds++gs)).args=ds) (hs3:(s.fn H (ds++gs)).vars=[])
 (hW:DataW.Whole enc P fn.params.toList s.vars false W args.toList ds gs before) (hargs:qg W (kZ W) [] [] vs args.toList)
 (hcall:dz P f vs [] fun r _=>r=.c (.d (.b true))) (aoA:nD W (kZ W):=by(intro g p hm;exact absurd hm List.not_mem_nil)):
 Calls P f args W fun e W'=>∃v,e=.returned v/\s.post enc P fn false true false false W args v W':=by
 have hc:=hcall.2 W (kZ W) [] args.toList (ahP W aoA) hargs
 have e1:args.toList.toArray=args:=by simp
 rw[e1] at hc;refine hc.mono fun e W' ⟨v,r,S',σ',β',he,hS',hk,hst,hv,hp⟩=> ?_;subst hp;obtain⟨hv,_⟩:=hv;cases hv;refine⟨_,he,?_⟩;have hsame:∀b,b<W.heap.size->W'.heap[b]? =W.heap[b]? :=fun b hb=>(hst.far b hb amU).1;have hlt:=fun p hp=>hW.lt p hp;have hW0:=hW;obtain⟨pa,q,hA,hV,rfl,hz,hn⟩:=hW;rw[hvars] at hV
 have hq:gs=[]/\q=[]:=by
  obtain⟨h1,h2⟩:=trodVars_none hV;exact⟨h1,h2⟩
 obtain⟨rfl,rfl⟩:=hq
 rw[List.append_nil] at *
 refine⟨ds,[],pa,[],pa,[],?_,?_,?_,?_,?_,fun h=>by cases h⟩
 ·simpa using hW0
 ·rw[List.append_nil,hs1,hres];exact trodAll_cons_mk (shut_bool htb _) trodAll_mk0
 ·rw[List.append_nil,hs2];exact IW hl hsame _ _ _ _ _ hr (fun p hp=>⟨hlt p hp,by simpa using hlt p hp⟩) hA
 ·rw[List.append_nil,hs3,hvars];rfl
 ·refine⟨hst.os,hst.output,fun i hi=> ?_⟩;rw[hsame i hi];split<;>simp_all
end
structure Hq(p:Prop):Prop where
 out:p
theorem W1{G K:Prop}(k:K)(e:Hq K->G:=by intro k;simp -implicitDefEqProofs (disch:=omega) only[go_sem];exact k.out):G:=e ⟨k⟩
theorem Z1{G:Prop}(e:G:=by simp -implicitDefEqProofs (disch:=omega) only[go_sem];done):G:=e
theorem W2{G K:Prop}(k:K)(e:Hq K->G:=by intro k;simp -implicitDefEqProofs (disch:=omega) only[go_sem]<;>(repeat(with_reducible refine And.intro ?_ ?_;focus first|omega|rfl|assumption|exact⟨_,rfl,rfl⟩|(simp;omega)|(simp;done)));exact k.out):G:=e ⟨k⟩
theorem W3{G K:Prop}(k:K)(e:Hq K->G:=by intro k;(repeat(with_reducible refine And.intro ?_ ?_;focus first|omega|rfl|assumption|exact⟨_,rfl,rfl⟩|(simp;omega)|(simp;done)));exact k.out):G:=e ⟨k⟩
theorem S0{c:Bool}{s:St}{A B:St->Prop}{P Q:Prop}{A':P->Prop}{B':Q->Prop}(k:c=true->(h:P)->A' h)(k2:c=false->(h:Q)->B' h)(e:Hq (c=true->(h:P)->A' h)->c=true->A s:=by intro k hb;have h:=hb;(try simp only[wf_preprocess] at h);simp -implicitDefEqProofs (disch:=omega) only[go_sem,hb]<;>(repeat(with_reducible refine And.intro ?_ ?_;focus first|omega|rfl|assumption|exact⟨_,rfl,rfl⟩|(simp;omega)|(simp;done)));exact k.out hb h)
 (e2:Hq (c=false->(h:Q)->B' h)->c=false->B s:=by intro k hb;have h:=hb;(try simp only[wf_preprocess] at h);simp -implicitDefEqProofs (disch:=omega) only[go_sem,hb]<;>(repeat(with_reducible refine And.intro ?_ ?_;focus first|omega|rfl|assumption|exact⟨_,rfl,rfl⟩|(simp;omega)|(simp;done)));exact k.out hb h):Split c A B s:=dM (e ⟨k⟩) (e2 ⟨k2⟩)
theorem S1{c:Bool}{s:St}{A B:St->Prop}{Q:Prop}{B':Q->Prop}(k2:c=false->(h:Q)->B' h)(e:c=true->A s:=by intro hb;have h:=hb;(try simp only[wf_preprocess] at h);simp -implicitDefEqProofs (disch:=omega) only[go_sem,hb]<;>(repeat(with_reducible refine And.intro ?_ ?_;focus first|omega|rfl|assumption|exact⟨_,rfl,rfl⟩|(simp;omega)|(simp;done)));done)
 (e2:Hq (c=false->(h:Q)->B' h)->c=false->B s:=by intro k hb;have h:=hb;(try simp only[wf_preprocess] at h);simp -implicitDefEqProofs (disch:=omega) only[go_sem,hb]<;>(repeat(with_reducible refine And.intro ?_ ?_;focus first|omega|rfl|assumption|exact⟨_,rfl,rfl⟩|(simp;omega)|(simp;done)));exact k.out hb h):Split c A B s:=dM e (e2 ⟨k2⟩)
theorem S2{c:Bool}{s:St}{A B:St->Prop}{P:Prop}{A':P->Prop}(k:c=true->(h:P)->A' h)(e:Hq (c=true->(h:P)->A' h)->c=true->A s:=by intro k hb;have h:=hb;(try simp only[wf_preprocess] at h);simp -implicitDefEqProofs (disch:=omega) only[go_sem,hb]<;>(repeat(with_reducible refine And.intro ?_ ?_;focus first|omega|rfl|assumption|exact⟨_,rfl,rfl⟩|(simp;omega)|(simp;done)));exact k.out hb h)
 (e2:c=false->B s:=by intro hb;have h:=hb;(try simp only[wf_preprocess] at h);simp -implicitDefEqProofs (disch:=omega) only[go_sem,hb]<;>(repeat(with_reducible refine And.intro ?_ ?_;focus first|omega|rfl|assumption|exact⟨_,rfl,rfl⟩|(simp;omega)|(simp;done)));done):Split c A B s:=dM (e ⟨k⟩) e2
theorem S3{c:Bool}{s:St}{A B:St->Prop}(e:c=true->A s:=by intro hb;have h:=hb;(try simp only[wf_preprocess] at h);simp -implicitDefEqProofs (disch:=omega) only[go_sem,hb]<;>(repeat(with_reducible refine And.intro ?_ ?_;focus first|omega|rfl|assumption|exact⟨_,rfl,rfl⟩|(simp;omega)|(simp;done)));done)(e2:c=false->B s:=by intro hb;have h:=hb;(try simp only[wf_preprocess] at h);simp -implicitDefEqProofs (disch:=omega) only[go_sem,hb]<;>(repeat(with_reducible refine And.intro ?_ ?_;focus first|omega|rfl|assumption|exact⟨_,rfl,rfl⟩|(simp;omega)|(simp;done)));done):Split c A B s:=dM e e2
section
variable {P:Program} {s:St} {dr:Option Nat} {f:FuncId} {args:List V} {dst:Option Nat} {K:St->Prop} {r:V}
theorem C1{Q:Prop}(h:aH P f (args.map V.ug) r)(k:Q)(e:Hq Q->K (s.put dst r):=by intro k;simp -implicitDefEqProofs (disch:=omega) only[go_sem];exact k.out):fA P dr f args s dst K:=aZ h (e ⟨k⟩)
theorem C2{Q:Prop}(h:aH P f (args.map V.ug) r)(k:Q)(e:Hq Q->K (s.put dst r):=by intro k;simp -implicitDefEqProofs (disch:=omega) only[go_sem]<;>(repeat(with_reducible refine And.intro ?_ ?_;focus first|omega|rfl|assumption|exact⟨_,rfl,rfl⟩|(simp;omega)|(simp;done)));exact k.out):fA P dr f args s dst K:=aZ h (e ⟨k⟩)
theorem C3(h:aH P f (args.map V.ug) r)(e:K (s.put dst r):=by simp -implicitDefEqProofs (disch:=omega) only[go_sem];done):fA P dr f args s dst K:=aZ h e
theorem C4(h:aH P f (args.map V.ug) r)(e:K (s.put dst r):=by simp -implicitDefEqProofs (disch:=omega) only[go_sem]<;>(repeat(with_reducible refine And.intro ?_ ?_;focus first|omega|rfl|assumption|exact⟨_,rfl,rfl⟩|(simp;omega)|(simp;done)));done):fA P dr f args s dst K:=aZ h e
end
mutual
def D.sz:D->Nat
 | .s l=>l.length
 | .sl es=>es.length+bn es
 | .b _=>0
 | .i _ _=>0
 | .o _=>0
 | .ol _ es=>es.length+bn es
def bT:List D->Nat
 |[]=>0
 |d::ds=>d.sz+bT ds
def bn:List (List D)->Nat
 |[]=>0
 |r::rs=>bT r+bn rs
end
theorem bL:∀(a b:List D),bT (a++b)=bT a+bT b
 |[],b=>by simp[bT]
 |d::ds,b=>by rw[List.cons_append,bT,bL ds b,bT];omega
def pV(left:Int)(n:Nat):Int:=if left-n<0 then -1 else left-n
theorem La{l:Int}{a:Nat}(h:¬pV l a<0):pV l a=l-a/\0<=l-a:=by
 unfold pV at *
 split at h
 ·omega
 ·rename_i h';exact⟨if_neg h',by omega⟩
theorem Hu{l:Int}{a:Nat}(h:pV l a<0):l-a<0:=by
 unfold pV at *
 split at h<;>omega
theorem Lb{l:Int}{a:Nat}(h:l-a<0):pV l a= -1:=if_pos h
theorem VZ{l:Int}{a:Nat}(h:0<=l-a):pV l a=l-a:=if_neg (by omega)
theorem int_eq{k:IntKind}{a b:Int}(h:a=b):V.c (.d (.i k a))=V.c (.d (.i k b)):=by rw[h]
theorem ay{a b:Bool}(h:a=b):V.c (.d (.b a))=V.c (.d (.b b)):=by rw[h]
noncomputable def dec(p:Prop):Bool:= @decide p (Classical.propDecidable p)
theorem aY{p:Prop}(h:p):dec p=true:=by simp[dec,h]
theorem aA{p:Prop}(h:¬p):dec p=false:=by simp[dec,h]
theorem gG{p:Prop}(h:dec p=true):p:=by simpa [dec] using h
theorem je{p:Prop}(h:dec p=false):¬p:=by simpa [dec] using h
theorem Bh{p:Prop}:(dec p=true)=p:=by simp[dec]
theorem JH{p:Prop}:(dec p=false)=¬p:=by simp[dec]
attribute [wf_preprocess] Bh JH
theorem iB{p q:Prop}(h:p<->q):dec p=dec q:=by rw[propext h]
theorem ahR:dec True=true:=aY trivial
theorem aeI:dec False=false:=aA id
attribute [go_sem] ahR aeI
theorem ku{p:Prop}[Decidable p]:decide p=dec p:=by by_cases h:p<;>simp[dec,h]
theorem dD{r:List D}:∀{rs:List (List D)},r∈rs->bT r<=bn rs
 |a::rs,h=>by
  rw[bn];rcases List.mem_cons.1 h with rfl|h
  ·omega
  ·have:=dD h;omega
def JI(z i:Nat)(R rows:List (List D)):Prop:=R.length=rows.length/\(∀r∈R,r.length=z)/\∀j,j<i->R[j]? =rows[j]?
theorem JI.step{z i:Nat}{R rows:List (List D)}{row:List D}(h:JI z i R rows)(hi:rows[i]? =some row)(hr:row.length=z):JI z (i+1) (R.set i (vQ (R.getD i []) 0 row)) rows:=by
 obtain⟨h1,h2,h3⟩:=h;have hlt:i<rows.length:=(List.getElem?_eq_some_iff.1 hi).1
 have hs:vQ (R.getD i []) 0 row=row:=by
  have hm:R.getD i []∈R:=by
   rw[List.getD_eq_getElem?_getD,List.getElem?_eq_getElem (by omega)];exact List.getElem_mem _
  have:=h2 _ hm;unfold vQ;rw[List.take_zero,List.nil_append,Nat.zero_add,hr,List.drop_eq_nil_of_le (by omega),List.append_nil]
 rw[hs];refine⟨by simpa using h1,fun r hr'=> ?_,fun j hj=> ?_⟩
 ·rcases List.mem_or_eq_of_mem_set hr' with h|h
  ·exact h2 r h
  ·rw[h];exact hr
 ·by_cases e:j=i
  ·subst e;rw[hi,List.getElem?_set_self (by omega)]
  ·rw[List.getElem?_set_ne (by omega)];exact h3 j (by omega)
theorem JI.done{z i:Nat}{R rows:List (List D)}(h:JI z i R rows)(hi:rows.length<=i):R=rows:=by
 obtain⟨h1,h2,h3⟩:=h;refine List.ext_getElem? fun j=> ?_;by_cases hj:j<i
 ·exact h3 j hj
 ·rw[List.getElem?_eq_none (by omega),List.getElem?_eq_none (by omega)]
def encS(s:List UInt8):List D:=[.s s]
def encI(n:Int):List D:=[.i .i64 n]
inductive ak where
 |mk (aJ:Int) (fName:List UInt8) (fArgs:List ak)
def ak.aJ:ak->Int| .mk x _ _=>x
def ak.fName:ak->List UInt8| .mk _ x _=>x
def ak.fArgs:ak->List ak| .mk _ _ x=>x
theorem ak.eta(x:ak):ak.mk x.aJ x.fName x.fArgs=x:=by cases x;rfl
theorem ak.ext{x y:ak}(h0:x.aJ=y.aJ)(h1:x.fName=y.fName)(h2:x.fArgs=y.fArgs):x=y:=by
 rw[<-ak.eta x,<-ak.eta y,h0,h1,h2]
mutual
def ak.enc:ak->List D
 | .mk a0 a1 a2=>[.i .i64 a0,.s a1,.sl (ak.encs a2)]
def ak.encs:List ak->List (List D)
 |[]=>[]
 |x::xs=>x.enc::ak.encs xs
end
theorem ak.lJ:∀l,ak.encs l=l.map ak.enc
 |[]=>rfl
 |x::xs=>by rw[ak.encs,List.map_cons,ak.lJ xs]
theorem ak.aB(x:ak):x.enc=[.i .i64 x.aJ,.s x.fName,.sl (x.fArgs.map ak.enc)]:=by
 cases x;simp only[ak.enc,ak.lJ,ak.aJ,ak.fName,ak.fArgs]
abbrev ak.v(x:ak):V:=.agg [.d (.i .i64 x.aJ),.d (.s x.fName),.d (.sl (x.fArgs.map ak.enc))]
theorem ak.u6(x:ak): .agg (x.enc.map .d)=x.v:=by
 simp only[ak.aB,List.map_cons,List.map_nil,List.cons_append,List.nil_append,List.map_append]
theorem ak.cO(x:ak):x.enc.length=3:=by
 simp only[ak.aB,List.length_append,List.length_cons,List.length_nil]
def ak.sz(x:ak):Nat:=bT x.enc
theorem ak.d9(x:ak):bT x.enc=x.sz:=rfl
theorem ak.gP(x:ak):SizeOf.sizeOf x.fArgs<SizeOf.sizeOf x:=by cases x;simp[ak.fArgs];omega
structure eD where
 fVar:List UInt8
 fType:ak
def eD.enc(x:eD):List D:=[.s x.fVar]++(x.fType.enc)
theorem eD.aB(x:eD):x.enc=[.s x.fVar]++(x.fType.enc):=rfl
theorem eD.eta(x:eD):eD.mk x.fVar x.fType=x:=rfl
theorem eD.ext'{x y:eD}(h0:x.fVar=y.fVar)(h1:x.fType=y.fType):x=y:=by
 cases x;cases y;simp_all
abbrev eD.v(x:eD):V:=.agg [.d (.s x.fVar),.d (.i .i64 x.fType.aJ),.d (.s x.fType.fName),.d (.sl (x.fType.fArgs.map ak.enc))]
theorem eD.u6(x:eD): .agg (x.enc.map .d)=x.v:=by
 simp only[eD.aB,ak.aB,List.map_cons,List.map_nil,List.cons_append,List.nil_append,List.map_append]
theorem eD.cO(x:eD):x.enc.length=4:=by
 simp only[eD.aB,ak.cO,List.length_append,List.length_cons,List.length_nil]
def eD.sz(x:eD):Nat:=bT x.enc
theorem eD.d9(x:eD):bT x.enc=x.sz:=rfl
structure bq where
 bD:List UInt8
 fType:ak
def bq.enc(x:bq):List D:=[.s x.bD]++(x.fType.enc)
theorem bq.aB(x:bq):x.enc=[.s x.bD]++(x.fType.enc):=rfl
theorem bq.eta(x:bq):bq.mk x.bD x.fType=x:=rfl
theorem bq.ext'{x y:bq}(h0:x.bD=y.bD)(h1:x.fType=y.fType):x=y:=by
 cases x;cases y;simp_all
abbrev bq.v(x:bq):V:=.agg [.d (.s x.bD),.d (.i .i64 x.fType.aJ),.d (.s x.fType.fName),.d (.sl (x.fType.fArgs.map ak.enc))]
theorem bq.u6(x:bq): .agg (x.enc.map .d)=x.v:=by
 simp only[bq.aB,ak.aB,List.map_cons,List.map_nil,List.cons_append,List.nil_append,List.map_append]
theorem bq.cO(x:bq):x.enc.length=4:=by
 simp only[bq.aB,ak.cO,List.length_append,List.length_cons,List.length_nil]
def bq.sz(x:bq):Nat:=bT x.enc
theorem bq.d9(x:bq):bT x.enc=x.sz:=rfl
mutual
inductive au where
 |mk (aJ:Int) (bD:List UInt8) (fName:List UInt8) (fN:Int) (fType:ak) (fArgs:List au) (aR:List aT)
inductive aT where
 |mk (dN:List UInt8) (aG:List (List UInt8)) (fBody:au)
end
def au.aJ:au->Int| .mk x _ _ _ _ _ _=>x
def au.bD:au->List UInt8| .mk _ x _ _ _ _ _=>x
def au.fName:au->List UInt8| .mk _ _ x _ _ _ _=>x
def au.fN:au->Int| .mk _ _ _ x _ _ _=>x
def au.fType:au->ak| .mk _ _ _ _ x _ _=>x
def au.fArgs:au->List au| .mk _ _ _ _ _ x _=>x
def au.aR:au->List aT| .mk _ _ _ _ _ _ x=>x
theorem au.eta(x:au):au.mk x.aJ x.bD x.fName x.fN x.fType x.fArgs x.aR=x:=by cases x;rfl
theorem au.ext{x y:au}(h0:x.aJ=y.aJ)(h1:x.bD=y.bD)(h2:x.fName=y.fName)(h3:x.fN=y.fN)(h4:x.fType=y.fType)(h5:x.fArgs=y.fArgs)(h6:x.aR=y.aR):x=y:=by
 rw[<-au.eta x,<-au.eta y,h0,h1,h2,h3,h4,h5,h6]
def aT.dN:aT->List UInt8| .mk x _ _=>x
def aT.aG:aT->List (List UInt8)| .mk _ x _=>x
def aT.fBody:aT->au| .mk _ _ x=>x
theorem aT.eta(x:aT):aT.mk x.dN x.aG x.fBody=x:=by cases x;rfl
theorem aT.ext{x y:aT}(h0:x.dN=y.dN)(h1:x.aG=y.aG)(h2:x.fBody=y.fBody):x=y:=by
 rw[<-aT.eta x,<-aT.eta y,h0,h1,h2]
mutual
def au.enc:au->List D
 | .mk a0 a1 a2 a3 a4 a5 a6=>[.i .i64 a0,.s a1,.s a2,.i .i64 a3]++(a4.enc++([.sl (au.encs a5),.sl (aT.encs a6)]))
def au.encs:List au->List (List D)
 |[]=>[]
 |x::xs=>x.enc::au.encs xs
def aT.enc:aT->List D
 | .mk a0 a1 a2=>[.s a0,.sl (a1.map encS)]++(au.enc a2)
def aT.encs:List aT->List (List D)
 |[]=>[]
 |x::xs=>x.enc::aT.encs xs
end
theorem au.lJ:∀l,au.encs l=l.map au.enc
 |[]=>rfl
 |x::xs=>by rw[au.encs,List.map_cons,au.lJ xs]
theorem aT.lJ:∀l,aT.encs l=l.map aT.enc
 |[]=>rfl
 |x::xs=>by rw[aT.encs,List.map_cons,aT.lJ xs]
theorem au.aB(x:au):x.enc=[.i .i64 x.aJ,.s x.bD,.s x.fName,.i .i64 x.fN]++(x.fType.enc++([.sl (x.fArgs.map au.enc),.sl (x.aR.map aT.enc)])):=by
 cases x;simp only[au.enc,au.lJ,aT.lJ,au.aJ,au.bD,au.fName,au.fN,au.fType,au.fArgs,au.aR]
theorem aT.aB(x:aT):x.enc=[.s x.dN,.sl (x.aG.map encS)]++(x.fBody.enc):=by
 cases x;simp only[aT.enc,au.lJ,aT.lJ,aT.dN,aT.aG,aT.fBody]
abbrev au.v(x:au):V:=.agg [.d (.i .i64 x.aJ),.d (.s x.bD),.d (.s x.fName),.d (.i .i64 x.fN),.d (.i .i64 x.fType.aJ),.d (.s x.fType.fName),.d (.sl (x.fType.fArgs.map ak.enc)),.d (.sl (x.fArgs.map au.enc)),.d (.sl (x.aR.map aT.enc))]
theorem au.u6(x:au): .agg (x.enc.map .d)=x.v:=by
 simp only[au.aB,ak.aB,List.map_cons,List.map_nil,List.cons_append,List.nil_append,List.map_append]
theorem au.cO(x:au):x.enc.length=9:=by
 simp only[au.aB,ak.cO,List.length_append,List.length_cons,List.length_nil]
def au.sz(x:au):Nat:=bT x.enc
theorem au.d9(x:au):bT x.enc=x.sz:=rfl
theorem au.gP(x:au):SizeOf.sizeOf x.fArgs<SizeOf.sizeOf x:=by cases x;simp[au.fArgs];omega
theorem au.pW(x:au):SizeOf.sizeOf x.aR<SizeOf.sizeOf x:=by cases x;simp[au.aR];omega
abbrev aT.v(x:aT):V:=.agg [.d (.s x.dN),.d (.sl (x.aG.map encS)),.d (.i .i64 x.fBody.aJ),.d (.s x.fBody.bD),.d (.s x.fBody.fName),.d (.i .i64 x.fBody.fN),.d (.i .i64 x.fBody.fType.aJ),.d (.s x.fBody.fType.fName),.d (.sl (x.fBody.fType.fArgs.map ak.enc)),.d (.sl (x.fBody.fArgs.map au.enc)),.d (.sl (x.fBody.aR.map aT.enc))]
theorem aT.u6(x:aT): .agg (x.enc.map .d)=x.v:=by
 simp only[aT.aB,au.aB,ak.aB,List.map_cons,List.map_nil,List.cons_append,List.nil_append,List.map_append]
theorem aT.cO(x:aT):x.enc.length=11:=by
 simp only[aT.aB,au.cO,List.length_append,List.length_cons,List.length_nil]
def aT.sz(x:aT):Nat:=bT x.enc
theorem aT.d9(x:aT):bT x.enc=x.sz:=rfl
theorem aT.oO(x:aT):SizeOf.sizeOf x.fBody<SizeOf.sizeOf x:=by cases x;simp[aT.fBody];omega
inductive aj where
 |mk (aO:List UInt8) (ah:List aj)
def aj.aO:aj->List UInt8| .mk x _=>x
def aj.ah:aj->List aj| .mk _ x=>x
theorem aj.eta(x:aj):aj.mk x.aO x.ah=x:=by cases x;rfl
theorem aj.ext{x y:aj}(h0:x.aO=y.aO)(h1:x.ah=y.ah):x=y:=by
 rw[<-aj.eta x,<-aj.eta y,h0,h1]
mutual
def aj.enc:aj->List D
 | .mk a0 a1=>[.s a0,.sl (aj.encs a1)]
def aj.encs:List aj->List (List D)
 |[]=>[]
 |x::xs=>x.enc::aj.encs xs
end
theorem aj.lJ:∀l,aj.encs l=l.map aj.enc
 |[]=>rfl
 |x::xs=>by rw[aj.encs,List.map_cons,aj.lJ xs]
theorem aj.aB(x:aj):x.enc=[.s x.aO,.sl (x.ah.map aj.enc)]:=by
 cases x;simp only[aj.enc,aj.lJ,aj.aO,aj.ah]
abbrev aj.v(x:aj):V:=.agg [.d (.s x.aO),.d (.sl (x.ah.map aj.enc))]
theorem aj.u6(x:aj): .agg (x.enc.map .d)=x.v:=by
 simp only[aj.aB,List.map_cons,List.map_nil,List.cons_append,List.nil_append,List.map_append]
theorem aj.cO(x:aj):x.enc.length=2:=by
 simp only[aj.aB,List.length_append,List.length_cons,List.length_nil]
def aj.sz(x:aj):Nat:=bT x.enc
theorem aj.d9(x:aj):bT x.enc=x.sz:=rfl
theorem aj.vT(x:aj):SizeOf.sizeOf x.ah<SizeOf.sizeOf x:=by cases x;simp[aj.ah];omega
structure aL where
 fName:List UInt8
 aV:List ak
 bO:ak
 gW:Bool
 aG:List (List UInt8)
 fBody:au
def aL.enc(x:aL):List D:=[.s x.fName,.sl (x.aV.map ak.enc)]++(x.bO.enc++([.b x.gW,.sl (x.aG.map encS)]++(x.fBody.enc)))
theorem aL.aB(x:aL):x.enc=[.s x.fName,.sl (x.aV.map ak.enc)]++(x.bO.enc++([.b x.gW,.sl (x.aG.map encS)]++(x.fBody.enc))):=rfl
theorem aL.eta(x:aL):aL.mk x.fName x.aV x.bO x.gW x.aG x.fBody=x:=rfl
theorem aL.ext'{x y:aL}(h0:x.fName=y.fName)(h1:x.aV=y.aV)(h2:x.bO=y.bO)(h3:x.gW=y.gW)(h4:x.aG=y.aG)(h5:x.fBody=y.fBody):x=y:=by
 cases x;cases y;simp_all
abbrev aL.v(x:aL):V:=.agg [.d (.s x.fName),.d (.sl (x.aV.map ak.enc)),.d (.i .i64 x.bO.aJ),.d (.s x.bO.fName),.d (.sl (x.bO.fArgs.map ak.enc)),.d (.b x.gW),.d (.sl (x.aG.map encS)),.d (.i .i64 x.fBody.aJ),.d (.s x.fBody.bD),.d (.s x.fBody.fName),.d (.i .i64 x.fBody.fN),.d (.i .i64 x.fBody.fType.aJ),.d (.s x.fBody.fType.fName),.d (.sl (x.fBody.fType.fArgs.map ak.enc)),.d (.sl (x.fBody.fArgs.map au.enc)),.d (.sl (x.fBody.aR.map aT.enc))]
theorem aL.u6(x:aL): .agg (x.enc.map .d)=x.v:=by
 simp only[aL.aB,au.aB,ak.aB,List.map_cons,List.map_nil,List.cons_append,List.nil_append,List.map_append]
theorem aL.cO(x:aL):x.enc.length=16:=by
 simp only[aL.aB,au.cO,ak.cO,List.length_append,List.length_cons,List.length_nil]
def aL.sz(x:aL):Nat:=bT x.enc
theorem aL.d9(x:aL):bT x.enc=x.sz:=rfl
structure bf where
 fName:List UInt8
 bH:List (List UInt8)
 nC:Bool
 bE:Bool
 aC:List aL
def bf.enc(x:bf):List D:=[.s x.fName,.sl (x.bH.map encS),.b x.nC,.b x.bE,.sl (x.aC.map aL.enc)]
theorem bf.aB(x:bf):x.enc=[.s x.fName,.sl (x.bH.map encS),.b x.nC,.b x.bE,.sl (x.aC.map aL.enc)]:=rfl
theorem bf.eta(x:bf):bf.mk x.fName x.bH x.nC x.bE x.aC=x:=rfl
theorem bf.ext'{x y:bf}(h0:x.fName=y.fName)(h1:x.bH=y.bH)(h2:x.nC=y.nC)(h3:x.bE=y.bE)(h4:x.aC=y.aC):x=y:=by
 cases x;cases y;simp_all
abbrev bf.v(x:bf):V:=.agg [.d (.s x.fName),.d (.sl (x.bH.map encS)),.d (.b x.nC),.d (.b x.bE),.d (.sl (x.aC.map aL.enc))]
theorem bf.u6(x:bf): .agg (x.enc.map .d)=x.v:=by
 simp only[bf.aB,List.map_cons,List.map_nil,List.cons_append,List.nil_append,List.map_append]
theorem bf.cO(x:bf):x.enc.length=5:=by
 simp only[bf.aB,List.length_append,List.length_cons,List.length_nil]
def bf.sz(x:bf):Nat:=bT x.enc
theorem bf.d9(x:bf):bT x.enc=x.sz:=rfl
structure aK where
 fName:List UInt8
 gu:List ak
def aK.enc(x:aK):List D:=[.s x.fName,.sl (x.gu.map ak.enc)]
theorem aK.aB(x:aK):x.enc=[.s x.fName,.sl (x.gu.map ak.enc)]:=rfl
theorem aK.eta(x:aK):aK.mk x.fName x.gu=x:=rfl
theorem aK.ext'{x y:aK}(h0:x.fName=y.fName)(h1:x.gu=y.gu):x=y:=by
 cases x;cases y;simp_all
abbrev aK.v(x:aK):V:=.agg [.d (.s x.fName),.d (.sl (x.gu.map ak.enc))]
theorem aK.u6(x:aK): .agg (x.enc.map .d)=x.v:=by
 simp only[aK.aB,List.map_cons,List.map_nil,List.cons_append,List.nil_append,List.map_append]
theorem aK.cO(x:aK):x.enc.length=2:=by
 simp only[aK.aB,List.length_append,List.length_cons,List.length_nil]
def aK.sz(x:aK):Nat:=bT x.enc
theorem aK.d9(x:aK):bT x.enc=x.sz:=rfl
structure aP where
 fName:List UInt8
 aG:List (List UInt8)
 aF:List aK
def aP.enc(x:aP):List D:=[.s x.fName,.sl (x.aG.map encS),.sl (x.aF.map aK.enc)]
theorem aP.aB(x:aP):x.enc=[.s x.fName,.sl (x.aG.map encS),.sl (x.aF.map aK.enc)]:=rfl
theorem aP.eta(x:aP):aP.mk x.fName x.aG x.aF=x:=rfl
theorem aP.ext'{x y:aP}(h0:x.fName=y.fName)(h1:x.aG=y.aG)(h2:x.aF=y.aF):x=y:=by
 cases x;cases y;simp_all
abbrev aP.v(x:aP):V:=.agg [.d (.s x.fName),.d (.sl (x.aG.map encS)),.d (.sl (x.aF.map aK.enc))]
theorem aP.u6(x:aP): .agg (x.enc.map .d)=x.v:=by
 simp only[aP.aB,List.map_cons,List.map_nil,List.cons_append,List.nil_append,List.map_append]
theorem aP.cO(x:aP):x.enc.length=3:=by
 simp only[aP.aB,List.length_append,List.length_cons,List.length_nil]
def aP.sz(x:aP):Nat:=bT x.enc
theorem aP.d9(x:aP):bT x.enc=x.sz:=rfl
structure bA where
 fName:List UInt8
 aG:List (List UInt8)
 fBody:au
def bA.enc(x:bA):List D:=[.s x.fName,.sl (x.aG.map encS)]++(x.fBody.enc)
theorem bA.aB(x:bA):x.enc=[.s x.fName,.sl (x.aG.map encS)]++(x.fBody.enc):=rfl
theorem bA.eta(x:bA):bA.mk x.fName x.aG x.fBody=x:=rfl
theorem bA.ext'{x y:bA}(h0:x.fName=y.fName)(h1:x.aG=y.aG)(h2:x.fBody=y.fBody):x=y:=by
 cases x;cases y;simp_all
abbrev bA.v(x:bA):V:=.agg [.d (.s x.fName),.d (.sl (x.aG.map encS)),.d (.i .i64 x.fBody.aJ),.d (.s x.fBody.bD),.d (.s x.fBody.fName),.d (.i .i64 x.fBody.fN),.d (.i .i64 x.fBody.fType.aJ),.d (.s x.fBody.fType.fName),.d (.sl (x.fBody.fType.fArgs.map ak.enc)),.d (.sl (x.fBody.fArgs.map au.enc)),.d (.sl (x.fBody.aR.map aT.enc))]
theorem bA.u6(x:bA): .agg (x.enc.map .d)=x.v:=by
 simp only[bA.aB,au.aB,ak.aB,List.map_cons,List.map_nil,List.cons_append,List.nil_append,List.map_append]
theorem bA.cO(x:bA):x.enc.length=11:=by
 simp only[bA.aB,au.cO,List.length_append,List.length_cons,List.length_nil]
def bA.sz(x:bA):Nat:=bT x.enc
theorem bA.d9(x:bA):bT x.enc=x.sz:=rfl
structure aM where
 bD:List UInt8
 aG:List (List UInt8)
 bQ:ak
 bY:List bq
 gJ:Bool
 dX:Bool
 bE:ak
 aI:List bA
def aM.enc(x:aM):List D:=[.s x.bD,.sl (x.aG.map encS)]++(x.bQ.enc++([.sl (x.bY.map bq.enc),.b x.gJ,.b x.dX]++(x.bE.enc++([.sl (x.aI.map bA.enc)]))))
theorem aM.aB(x:aM):x.enc=[.s x.bD,.sl (x.aG.map encS)]++(x.bQ.enc++([.sl (x.bY.map bq.enc),.b x.gJ,.b x.dX]++(x.bE.enc++([.sl (x.aI.map bA.enc)])))):=rfl
theorem aM.eta(x:aM):aM.mk x.bD x.aG x.bQ x.bY x.gJ x.dX x.bE x.aI=x:=rfl
theorem aM.ext'{x y:aM}(h0:x.bD=y.bD)(h1:x.aG=y.aG)(h2:x.bQ=y.bQ)(h3:x.bY=y.bY)(h4:x.gJ=y.gJ)(h5:x.dX=y.dX)(h6:x.bE=y.bE)(h7:x.aI=y.aI):x=y:=by
 cases x;cases y;simp_all
abbrev aM.v(x:aM):V:=.agg [.d (.s x.bD),.d (.sl (x.aG.map encS)),.d (.i .i64 x.bQ.aJ),.d (.s x.bQ.fName),.d (.sl (x.bQ.fArgs.map ak.enc)),.d (.sl (x.bY.map bq.enc)),.d (.b x.gJ),.d (.b x.dX),.d (.i .i64 x.bE.aJ),.d (.s x.bE.fName),.d (.sl (x.bE.fArgs.map ak.enc)),.d (.sl (x.aI.map bA.enc))]
theorem aM.u6(x:aM): .agg (x.enc.map .d)=x.v:=by
 simp only[aM.aB,ak.aB,List.map_cons,List.map_nil,List.cons_append,List.nil_append,List.map_append]
theorem aM.cO(x:aM):x.enc.length=12:=by
 simp only[aM.aB,ak.cO,List.length_append,List.length_cons,List.length_nil]
def aM.sz(x:aM):Nat:=bT x.enc
theorem aM.d9(x:aM):bT x.enc=x.sz:=rfl
structure bM where
 fName:List UInt8
 fType:ak
def bM.enc(x:bM):List D:=[.s x.fName]++(x.fType.enc)
theorem bM.aB(x:bM):x.enc=[.s x.fName]++(x.fType.enc):=rfl
theorem bM.eta(x:bM):bM.mk x.fName x.fType=x:=rfl
theorem bM.ext'{x y:bM}(h0:x.fName=y.fName)(h1:x.fType=y.fType):x=y:=by
 cases x;cases y;simp_all
abbrev bM.v(x:bM):V:=.agg [.d (.s x.fName),.d (.i .i64 x.fType.aJ),.d (.s x.fType.fName),.d (.sl (x.fType.fArgs.map ak.enc))]
theorem bM.u6(x:bM): .agg (x.enc.map .d)=x.v:=by
 simp only[bM.aB,ak.aB,List.map_cons,List.map_nil,List.cons_append,List.nil_append,List.map_append]
theorem bM.cO(x:bM):x.enc.length=4:=by
 simp only[bM.aB,ak.cO,List.length_append,List.length_cons,List.length_nil]
def bM.sz(x:bM):Nat:=bT x.enc
theorem bM.d9(x:bM):bT x.enc=x.sz:=rfl
structure aS where
 fName:List UInt8
 aG:List (List UInt8)
 bY:List bq
 aV:List bM
 bO:ak
 fBody:au
def aS.enc(x:aS):List D:=[.s x.fName,.sl (x.aG.map encS),.sl (x.bY.map bq.enc),.sl (x.aV.map bM.enc)]++(x.bO.enc++(x.fBody.enc))
theorem aS.aB(x:aS):x.enc=[.s x.fName,.sl (x.aG.map encS),.sl (x.bY.map bq.enc),.sl (x.aV.map bM.enc)]++(x.bO.enc++(x.fBody.enc)):=rfl
theorem aS.eta(x:aS):aS.mk x.fName x.aG x.bY x.aV x.bO x.fBody=x:=rfl
theorem aS.ext'{x y:aS}(h0:x.fName=y.fName)(h1:x.aG=y.aG)(h2:x.bY=y.bY)(h3:x.aV=y.aV)(h4:x.bO=y.bO)(h5:x.fBody=y.fBody):x=y:=by
 cases x;cases y;simp_all
abbrev aS.v(x:aS):V:=.agg [.d (.s x.fName),.d (.sl (x.aG.map encS)),.d (.sl (x.bY.map bq.enc)),.d (.sl (x.aV.map bM.enc)),.d (.i .i64 x.bO.aJ),.d (.s x.bO.fName),.d (.sl (x.bO.fArgs.map ak.enc)),.d (.i .i64 x.fBody.aJ),.d (.s x.fBody.bD),.d (.s x.fBody.fName),.d (.i .i64 x.fBody.fN),.d (.i .i64 x.fBody.fType.aJ),.d (.s x.fBody.fType.fName),.d (.sl (x.fBody.fType.fArgs.map ak.enc)),.d (.sl (x.fBody.fArgs.map au.enc)),.d (.sl (x.fBody.aR.map aT.enc))]
theorem aS.u6(x:aS): .agg (x.enc.map .d)=x.v:=by
 simp only[aS.aB,au.aB,ak.aB,List.map_cons,List.map_nil,List.cons_append,List.nil_append,List.map_append]
theorem aS.cO(x:aS):x.enc.length=16:=by
 simp only[aS.aB,au.cO,ak.cO,List.length_append,List.length_cons,List.length_nil]
def aS.sz(x:aS):Nat:=bT x.enc
theorem aS.d9(x:aS):bT x.enc=x.sz:=rfl
structure aW where
 fName:List UInt8
 fT:List (List UInt8)
 dh:List bf
 aQ:List aP
 cB:List aM
 bX:List aS
def aW.enc(x:aW):List D:=[.s x.fName,.sl (x.fT.map encS),.sl (x.dh.map bf.enc),.sl (x.aQ.map aP.enc),.sl (x.cB.map aM.enc),.sl (x.bX.map aS.enc)]
theorem aW.aB(x:aW):x.enc=[.s x.fName,.sl (x.fT.map encS),.sl (x.dh.map bf.enc),.sl (x.aQ.map aP.enc),.sl (x.cB.map aM.enc),.sl (x.bX.map aS.enc)]:=rfl
theorem aW.eta(x:aW):aW.mk x.fName x.fT x.dh x.aQ x.cB x.bX=x:=rfl
theorem aW.ext'{x y:aW}(h0:x.fName=y.fName)(h1:x.fT=y.fT)(h2:x.dh=y.dh)(h3:x.aQ=y.aQ)(h4:x.cB=y.cB)(h5:x.bX=y.bX):x=y:=by
 cases x;cases y;simp_all
abbrev aW.v(x:aW):V:=.agg [.d (.s x.fName),.d (.sl (x.fT.map encS)),.d (.sl (x.dh.map bf.enc)),.d (.sl (x.aQ.map aP.enc)),.d (.sl (x.cB.map aM.enc)),.d (.sl (x.bX.map aS.enc))]
theorem aW.u6(x:aW): .agg (x.enc.map .d)=x.v:=by
 simp only[aW.aB,List.map_cons,List.map_nil,List.cons_append,List.nil_append,List.map_append]
theorem aW.cO(x:aW):x.enc.length=6:=by
 simp only[aW.aB,List.length_append,List.length_cons,List.length_nil]
def aW.sz(x:aW):Nat:=bT x.enc
theorem aW.d9(x:aW):bT x.enc=x.sz:=rfl
structure fU where
 sU:List aW
def fU.enc(x:fU):List D:=[.sl (x.sU.map aW.enc)]
theorem fU.aB(x:fU):x.enc=[.sl (x.sU.map aW.enc)]:=rfl
theorem fU.eta(x:fU):fU.mk x.sU=x:=rfl
theorem fU.ext'{x y:fU}(h0:x.sU=y.sU):x=y:=by
 cases x;cases y;simp_all
abbrev fU.v(x:fU):V:=.agg [.d (.sl (x.sU.map aW.enc))]
theorem fU.u6(x:fU): .agg (x.enc.map .d)=x.v:=by
 simp only[fU.aB,List.map_cons,List.map_nil,List.cons_append,List.nil_append,List.map_append]
theorem fU.cO(x:fU):x.enc.length=1:=by
 simp only[fU.aB,List.length_append,List.length_cons,List.length_nil]
def fU.sz(x:fU):Nat:=bT x.enc
theorem fU.d9(x:fU):bT x.enc=x.sz:=rfl
structure eu where
 Ay:Int
 ZV:Int
def eu.enc(x:eu):List D:=[.i .i64 x.Ay,.i .i64 x.ZV]
theorem eu.aB(x:eu):x.enc=[.i .i64 x.Ay,.i .i64 x.ZV]:=rfl
theorem eu.eta(x:eu):eu.mk x.Ay x.ZV=x:=rfl
theorem eu.ext'{x y:eu}(h0:x.Ay=y.Ay)(h1:x.ZV=y.ZV):x=y:=by
 cases x;cases y;simp_all
abbrev eu.v(x:eu):V:=.agg [.d (.i .i64 x.Ay),.d (.i .i64 x.ZV)]
theorem eu.u6(x:eu): .agg (x.enc.map .d)=x.v:=by
 simp only[eu.aB,List.map_cons,List.map_nil,List.cons_append,List.nil_append,List.map_append]
theorem eu.cO(x:eu):x.enc.length=2:=by
 simp only[eu.aB,List.length_append,List.length_cons,List.length_nil]
def eu.sz(x:eu):Nat:=bT x.enc
theorem eu.d9(x:eu):bT x.enc=x.sz:=rfl
attribute [go_sem] ak.aB eD.aB bq.aB au.aB aT.aB aj.aB aL.aB bf.aB aK.aB aP.aB bA.aB aM.aB bM.aB aS.aB aW.aB fU.aB eu.aB encS encI
def ZW:List eD->List UInt8->Option ak
 |[],_=>none
 |b::bs,v=>if b.fVar=v then some b.fType else ZW bs v
mutual
noncomputable def D6(s:List eD):ak->ak->Option (List eD)
 | .mk k n a,t=>
   if k=1 then
    match ZW s n with
    |some u=>if dec (u=t)=true then some s else none
    |none=>some (s++[⟨n,t⟩])
   else if k=t.aJ/\n=t.fName/\a.length=t.fArgs.length then yt s a t.fArgs else none
noncomputable def yt(s:List eD):List ak->List ak->Option (List eD)
 |[],_=>some s
 |_::_,[]=>none
 |p::ps,t::ts=>
  match D6 s p t with
  |some s'=>yt s' ps ts
  |none=>none
end
mutual
def ak.cnt:ak->Nat
 | .mk _ _ a=>1+ak.eB a
def ak.eB:List ak->Nat
 |[]=>0
 |t::ts=>t.cnt+ak.eB ts
end
theorem ak.rA(t:ak):t.cnt=1+ak.eB t.fArgs:=by cases t;rw[ak.cnt];rfl
mutual
theorem mZ:∀t:ak,t.cnt<=1+t.sz
 | .mk k n a=>by
   have h:=y8 a;rw[ak.cnt]
   have e:(ak.mk k n a).sz=n.length+(a.length+bn (a.map ak.enc)):=by
    simp only[ak.sz,ak.aB,bT,D.sz,List.length_map,ak.fName,ak.fArgs,Nat.add_zero,Nat.zero_add]
   omega
theorem y8:∀ts:List ak,ak.eB ts<=ts.length+bn (ts.map ak.enc)
 |[]=>by simp[ak.eB]
 |t::ts=>by
  have h1:=mZ t;have h2:=y8 ts;rw[ak.eB,List.length_cons,List.map_cons,bn,ak.d9];omega
end
mutual
theorem abT:∀(p:ak)(s:List eD)(t:ak)(s':List eD),D6 s p t=some s'->s'.length<=s.length+p.cnt
 | .mk k n a,s,t,s',h=>by
   rw[D6] at h;rw[ak.cnt];split at h
   ·split at h
    ·split at h
     ·cases h;omega
     ·cases h
    ·cases h;simp
   ·split at h
    ·have:=Ox a s t.fArgs s' h;omega
    ·cases h
theorem Ox:∀(ps:List ak)(s:List eD)(ts:List ak)(s':List eD),yt s ps ts=some s'->s'.length<=s.length+ak.eB ps
 |[],s,ts,s',h=>by rw[yt] at h;cases h;omega
 |p::ps,s,[],s',h=>by rw[yt] at h;cases h
 |p::ps,s,t::ts,s',h=>by
  rw[yt] at h;rw[ak.eB]
  cases hm:D6 s p t with
  |none=>rw[hm] at h;cases h
  |some s1=>
   rw[hm] at h;have h1:=abT p s t s1 hm;have h2:=Ox ps s1 ts s' h;omega
end
def Small(s:List eD):Prop:=∀b∈s,b.fType.sz<=4194304
mutual
theorem V3:∀(p:ak)(s:List eD)(t:ak)(s':List eD),t.sz<=4194304->Small s->D6 s p t=some s'->Small s'
 | .mk k n a,s,t,s',ht,hs,h=>by
   rw[D6] at h;split at h
   ·split at h
    ·split at h
     ·cases h;exact hs
     ·cases h
    ·cases h;intro b hb;rcases List.mem_append.1 hb with hb|hb
     ·exact hs b hb
     ·simp at hb;subst hb;exact ht
   ·split at h
    ·refine JJ a s t.fArgs s' ?_ hs h;intro x hx;have h1:=dD (List.mem_map_of_mem (f:=ak.enc) hx)
     have h2:t.sz=t.fName.length+(t.fArgs.length+bn (t.fArgs.map ak.enc)):=by
      simp only[ak.sz,ak.aB,bT,bL,D.sz,List.length_map,Nat.add_zero,Nat.zero_add]
     rw[ak.d9] at h1;omega
    ·cases h
theorem JJ:∀(ps:List ak)(s:List eD)(ts:List ak)(s':List eD),(∀t∈ts,t.sz<=4194304)->Small s->yt s ps ts=some s'->Small s'
 |[],s,ts,s',ht,hs,h=>by rw[yt] at h;cases h;exact hs
 |p::ps,s,[],s',ht,hs,h=>by rw[yt] at h;cases h
 |p::ps,s,t::ts,s',ht,hs,h=>by
  rw[yt] at h
  cases hm:D6 s p t with
  |none=>rw[hm] at h;cases h
  |some s1=>
   rw[hm] at h;exact JJ ps s1 ts s' (fun x hx=>ht x (by simp[hx])) (V3 p s t s1 (ht t (by simp)) hs hm) h
end
def lowerB(b:UInt8):Prop:=97<=b.toNat/\b.toNat<=122
def sV(b:UInt8):Prop:=48<=b.toNat/\b.toNat<=57
def V4(s:List UInt8):Prop:=∀i,i<s.length->lowerB (s.getD i 0)\/(i≠0/\sV (s.getD i 0))
def reserved:List (List UInt8):=[[105,110,116],[98,111,111,108],[97,115,115,111,99],[100,121,110],[105,102],[108,101,116],[99,97,115,101],[110,101,119],[109,101,116,104,111,100],[112,97,99,107],[116,114,117,101],[102,97,108,115,101]]
noncomputable def validName(s:List UInt8):Bool:=dec ((1<=s.length/\s.length<=8)/\s∉reserved/\V4 s)
noncomputable def yL(s:List UInt8):Bool:=dec (s=[105,110,116]\/s=[98,111,111,108])
noncomputable def yu(xs:List (List UInt8))(s:List UInt8):Int:=if s∈xs then((xs.findIdx fun x=>dec (x=s):Nat):Int) else -1
theorem YO{xs:List (List UInt8)}{s:List UInt8}{i:Nat}(hi:i<xs.length)(hj:∀j,j<i->xs.getD j []≠s)(h:xs.getD i []=s):yu xs s=i:=by
 have e:∀j,∀hj:j<xs.length,xs.getD j []=xs[j]:=fun j hj=>by simp[List.getD,hj]
 have hm:s∈xs:=by rw[<-h,e i hi];exact List.getElem_mem hi
 unfold yu;rw[if_pos hm];congr 1;rw[List.findIdx_eq hi];exact⟨aY (by rw[<-e i hi];exact h),fun j hji=>aA (by rw[<-e j (by omega)];exact hj j hji)⟩
theorem aeJ{xs:List (List UInt8)}{s:List UInt8}(hj:∀j,j<xs.length->xs.getD j []≠s):yu xs s= -1:=by
 unfold yu;refine if_neg fun hm=> ?_;obtain⟨j,h1,h2⟩:=List.getElem_of_mem hm;exact hj j h1 (by simp[List.getD,h1,h2])
theorem Oy{xs:List (List UInt8)}{s:List UInt8}:decide (yu xs s>=0)=dec (s∈xs):=by
 rw[ku];refine iB ?_;unfold yu;split
 ·rename_i h;exact⟨fun _=>h,fun _=>by omega⟩
 ·rename_i h;exact⟨fun x=>by omega,fun x=>absurd x h⟩
def uI{α:Type}(p:α->Bool)(xs:List α):Int:=if xs.any p then((xs.findIdx p:Nat):Int) else -1
theorem tT{α:Type}{p:α->Bool}{xs:List α}{i:Nat}(hi:i<xs.length)(hj:∀j,∀hj:j<xs.length,j<i->p xs[j]=false)(h:p xs[i]=true):uI p xs=i:=by
 unfold uI;rw[if_pos (List.any_eq_true.2 ⟨xs[i],List.getElem_mem hi,h⟩)];congr 1;rw[List.findIdx_eq hi];exact⟨h,fun j hji=>hj j (by omega) hji⟩
theorem wO{α:Type}{p:α->Bool}{xs:List α}(hj:∀j,∀hj:j<xs.length,p xs[j]=false):uI p xs= -1:=by
 unfold uI;refine if_neg fun h=> ?_;obtain⟨x,hx,hp⟩:=List.any_eq_true.1 h;obtain⟨j,h1,h2⟩:=List.getElem_of_mem hx;rw[<-h2,hj j h1] at hp;cases hp
theorem u7{α:Type}{p:α->Bool}{xs:List α}:decide (uI p xs>=0)=xs.any p:=by
 unfold uI
 cases h:xs.any p with
 |true=>simp
 |false=>simp
noncomputable def Dg(k:Int)(n:List UInt8)(len:Nat):Bool:=
 dec ((k=1\/k=4)/\validName n=true/\len=0\/k=3/\validName n=true/\len=1\/k=2/\(validName n=true/\len<=3\/yL n=true/\len=0))
mutual
noncomputable def formed:ak->Bool
 | .mk k n a=>Dg k n a.length&&jk a
noncomputable def jk:List ak->Bool
 |[]=>true
 |t::ts=>formed t&&jk ts
end
theorem y9(t:ak):formed t=(Dg t.aJ t.fName t.fArgs.length&&jk t.fArgs):=by cases t;rw[formed];rfl
theorem yw:∀{ts:List ak},jk ts=true<->∀t∈ts,formed t=true
 |[]=>by simp[jk]
 |t::ts=>by simp[jk,yw (ts:=ts)]
theorem Mc:∀{ts:List ak},(ts.any fun t=> !formed t)= !jk ts
 |[]=>rfl
 |t::ts=>by rw[List.any_cons,Mc (ts:=ts),jk];simp
mutual
def oz:ak->Nat
 | .mk _ _ a=>depths a
def depths:List ak->Nat
 |[]=>0
 |t::ts=>max (oz t+1) (depths ts)
end
theorem R7(t:ak):oz t=depths t.fArgs:=by cases t;rw[oz];rfl
mutual
theorem BN:∀t:ak,oz t+1<=t.cnt
 | .mk k n a=>by
   have:=R8 a;rw[oz,ak.cnt];omega
theorem R8:∀ts:List ak,depths ts<=ak.eB ts
 |[]=>by simp[depths]
 |t::ts=>by
  have h1:=BN t;have h2:=R8 ts;rw[depths,ak.eB];omega
end
noncomputable def oV(t:ak):Bool:=dec (formed t=true/\oz t<=6/\t.cnt<=60)
def bI(s:List UInt8):aj:=.mk s []
def bC(l:List aj):aj:=.mk [] l
def aN(l:List (List UInt8)):List aj:=l.map bI
def cu:aj:=.mk [] []
theorem kU(s:List UInt8):(bI s).aO=s:=rfl
theorem kV(s:List UInt8):(bI s).ah=[]:=rfl
theorem dW(l:List aj):(bC l).aO=[]:=rfl
theorem dH(l:List aj):(bC l).ah=l:=rfl
def Hw:List UInt8:=[100,121,110]
def iU:List UInt8:=[97,115,115,111,99]
mutual
def cK:ak->aj
 | .mk k n zs=>if k=1 then bI ([39]++n) else if k=4 then bC [bI Hw,bI n] else if k=2/\zs.length=0 then bI n else
   bC ((if k=3 then [bI iU] else [])++[bI n]++D7 zs)
def D7:List ak->List aj
 |[]=>[]
 |t::ts=>cK t::D7 ts
end
theorem wP:∀l,D7 l=l.map cK
 |[]=>rfl
 |t::ts=>by rw[D7,List.map_cons,wP ts]
theorem aeK(x:ak):cK x=if x.aJ=1 then bI ([39]++x.fName) else if x.aJ=4 then bC [bI Hw,bI x.fName] else if x.aJ=2/\x.fArgs.length=0 then bI x.fName else
 bC ((if x.aJ=3 then [bI iU] else [])++[bI x.fName]++x.fArgs.map cK):=by
 cases x;rw[cK,wP];rfl
theorem wQ{t:ak}(h:oV t=true):formed t=true:=(gG h).1
theorem jW(x:aj):x.sz=x.aO.length+(x.ah.length+bn (x.ah.map aj.enc)):=by
 simp only[aj.sz,aj.aB,bT,D.sz,List.length_map];omega
def dA:List aj->Nat
 |[]=>0
 |x::xs=>x.sz+dA xs
theorem mh:∀l,bn (l.map aj.enc)=dA l
 |[]=>rfl
 |x::xs=>by rw[List.map_cons,bn,dA,mh xs];rfl
theorem jP:∀a b,dA (a++b)=dA a+dA b
 |[],b=>by simp[dA]
 |x::a,b=>by rw[List.cons_append,dA,dA,jP a b];omega
theorem iO{x:aj}:∀{l:List aj},x∈l->x.sz<=dA l
 |y::l,h=>by
  rw[dA];rcases List.mem_cons.1 h with rfl|h
  ·omega
  ·have:=iO h;omega
theorem jR(s:List UInt8):(bI s).sz=s.length:=by rw[jW];simp[bI,aj.aO,aj.ah,bn]
theorem jF(l:List aj):(bC l).sz=l.length+dA l:=by rw[jW,mh];simp[bC,aj.aO,aj.ah]
theorem sW:∀l:List (List UInt8),dA (aN l)=(l.map List.length).sum
 |[]=>rfl
 |s::l=>by rw[aN,List.map_cons,dA,jR,<-aN,sW l,List.map_cons,List.sum_cons]
theorem jN(l:List (List UInt8)):(aN l).length=l.length:=by simp[aN]
theorem dK:∀l:List (List UInt8),bn (l.map encS)=(l.map List.length).sum
 |[]=>rfl
 |s::l=>by rw[List.map_cons,bn,dK l,List.map_cons,List.sum_cons];simp[encS,bT,D.sz]
def uQ:List ak->Nat
 |[]=>0
 |x::xs=>x.sz+uQ xs
theorem Az:∀l,bn (l.map ak.enc)=uQ l
 |[]=>rfl
 |x::xs=>by rw[List.map_cons,bn,uQ,Az xs];rfl
theorem wR(x:ak):x.sz=x.fName.length+(x.fArgs.length+uQ x.fArgs):=by
 rw[<-Az];simp only[ak.sz,ak.aB,bT,D.sz,List.length_map];omega
mutual
theorem BO:∀x:ak,(cK x).sz<=12+16*x.sz
 | .mk k n zs=>by
   have h:=QN zs;rw[wR];simp only[ak.fName,ak.fArgs];rw[cK];split
   ·rw[jR];simp;omega
   ·split
    ·rw[jF];simp[dA,jR,Hw];omega
    ·split
     ·rw[jR];omega
     ·rw[jF,jP,jP,List.length_append,List.length_append,wP,List.length_map,<-wP];split<;>simp[dA,jR,iU]<;>omega
theorem QN:∀xs:List ak,dA (D7 xs)<=12*xs.length+16*uQ xs
 |[]=>by simp[D7,dA]
 |x::xs=>by
  have h1:=BO x;have h2:=QN xs;rw[D7,dA,uQ,List.length_cons];omega
end
theorem Oz(xs:List ak):dA (xs.map cK)<=12*xs.length+16*uQ xs:=by rw[<-wP];exact QN xs
def bS(b:UInt8):Bool:=decide (97<=b.toNat/\b.toNat<=122)||decide (48<=b.toNat/\b.toNat<=57)||decide (b∈([39,45,43,42,60,61,46]:List UInt8))
def validAtom(s:List UInt8):Bool:=s.all bS&&decide (1<=s.length/\s.length<=12)
mutual
def iK:aj->Bool
 | .mk a l=>if a=[] then jw l else validAtom a&&decide (l.length=0)
def jw:List aj->Bool
 |[]=>true
 |x::xs=>iK x&&jw xs
end
mutual
def kW:aj->Nat
 | .mk a l=>if a=[] then mV l+1 else 0
def mV:List aj->Nat
 |[]=>0
 |x::xs=>max (kW x) (mV xs)
end
mutual
def jg:aj->Nat
 | .mk _ l=>j3 l+1
def j3:List aj->Nat
 |[]=>0
 |x::xs=>jg x+j3 xs
end
theorem D8(x:aj):iK x=if x.aO=[] then jw x.ah else validAtom x.aO&&decide (x.ah.length=0):=by cases x;rw[iK];rfl
theorem R9(x:aj):kW x=if x.aO=[] then mV x.ah+1 else 0:=by cases x;rw[kW];rfl
theorem V5(x:aj):jg x=j3 x.ah+1:=by cases x;rw[jg];rfl
theorem OA:∀{l:List aj},(l.any fun t=> !iK t)= !jw l
 |[]=>rfl
 |t::ts=>by rw[List.any_cons,OA (l:=ts),jw];simp
theorem Dh:∀{l:List aj},jw l=true<->∀t∈l,iK t=true
 |[]=>by simp[jw]
 |t::ts=>by simp[jw,Dh (l:=ts)]
mutual
theorem Fz:∀x:aj,kW x<=jg x
 | .mk a l=>by
   have:=JK l;rw[kW,jg];split<;>omega
theorem JK:∀l:List aj,mV l<=j3 l
 |[]=>by simp[mV]
 |x::xs=>by
  have h1:=Fz x;have h2:=JK xs;rw[mV,j3];omega
end
mutual
theorem V6:∀x:aj,jg x<=x.sz+1
 | .mk a l=>by
   have:=Sb l;rw[jW,jg,mh];simp only[aj.aO,aj.ah];omega
theorem Sb:∀l:List aj,j3 l<=l.length+dA l
 |[]=>by simp[j3]
 |x::xs=>by
  have h1:=V6 x;have h2:=Sb xs;rw[j3,dA,List.length_cons];omega
end
def fM(x:aj):Bool:=iK x&&decide (kW x<=14/\jg x<=900)
mutual
theorem V7:∀x:aj,iK x=true->x.sz+1<=13*jg x
 | .mk a l=>fun h=>by
   rw[iK] at h;rw[jW,jg,mh];simp only[aj.aO,aj.ah];split at h
   ·rename_i ha;have:=Sc l h;subst ha;simp only[List.length_nil];omega
   ·rw[Bool.and_eq_true,decide_eq_true_eq] at h;have h1:=h.1;unfold validAtom at h1;rw[Bool.and_eq_true,decide_eq_true_eq] at h1;have:l=[]:=List.eq_nil_of_length_eq_zero h.2;subst this;simp[dA];omega
theorem Sc:∀l:List aj,jw l=true->l.length+dA l<=13*j3 l
 |[],_=>by simp[dA]
 |x::xs,h=>by
  rw[jw,Bool.and_eq_true] at h;have h1:=V7 x h.1;have h2:=Sc xs h.2;rw[dA,j3,List.length_cons];omega
end
theorem sZ{x:aj}(h:fM x=true):x.sz<=11700:=by
 unfold fM at h;rw[Bool.and_eq_true,decide_eq_true_eq] at h;have:=V7 x h.1;omega
def D9(x:aj):aj:=if fM x=true then x else cu
def wS:Bool->aj->aj
 |true,x=>D9 x
 |false,_=>cu
theorem amV(x:aj):(D9 x).sz<=11700:=by
 unfold D9;split
 ·rename_i h;exact sZ h
 ·rw[jW];simp[cu,aj.aO,aj.ah,bn]
theorem Lc(b:Bool)(x:aj):(wS b x).sz<=11700:=by
 cases b with
 |true=>exact amV x
 |false=>rw[wS,jW];simp[cu,aj.aO,aj.ah,bn]
def lK(b:UInt8):Bool:=decide (b.toNat=32)||decide (b.toNat=10)
def gD(l:List UInt8):List UInt8:=l.dropWhile lK
theorem zS(l:List UInt8):gD l <:+ l:=List.dropWhile_suffix _
theorem BP(l:List UInt8):(gD l).length<=l.length:=(zS l).length_le
theorem abU{l u:List UInt8}{b:UInt8}(h:gD l=b::u):lK b=false:=by
 induction l with
 |nil=>cases h
 |cons a l ih=>
  unfold gD at h ih;rw[List.dropWhile_cons] at h;split at h
  ·exact ih h
  ·rename_i h1;injection h with h2 h3;subst h2;simpa using h1
theorem wT{b:UInt8}{u:List UInt8}(h:lK b=false):gD (b::u)=b::u:=by
 unfold gD;rw[List.dropWhile_cons,h];rfl
theorem Hy{b:UInt8}{u:List UInt8}(h:lK b=true):gD (b::u)=gD u:=by
 unfold gD;rw[List.dropWhile_cons,h];rfl
theorem V8{b:UInt8}(h:bS b=true):lK b=false/\b≠40/\b≠41:=by
 refine⟨?_,fun e=> ?_,fun e=> ?_⟩
 ·cases hb:lK b with
  |false=>rfl
  |true=>
   unfold lK at hb;unfold bS at h;simp only[Bool.or_eq_true,decide_eq_true_eq] at hb h;rcases hb with hb|hb
   ·obtain rfl:b=32:=UInt8.toNat_inj.1 hb;revert h;decide
   ·obtain rfl:b=10:=UInt8.toNat_inj.1 hb;revert h;decide
 ·subst e;revert h;decide
 ·subst e;revert h;decide
structure RS where
 t:List UInt8
 deep:Nat
 size:Nat
 bad:Bool
mutual
def lC:Nat->RS->aj×RS
 |0,r=>(cu,⟨r.t,r.deep,r.size+1,true⟩)
 |n+1,r=>match gD r.t with
  |[]=>(cu,⟨[],r.deep,r.size+1,true⟩)
  |b::u=>if 900<r.size+1 then(cu,⟨b::u,r.deep,r.size+1,true⟩) else
   if bS b=true then(bI (b::u.takeWhile bS),⟨u.dropWhile bS,r.deep,r.size+1,false⟩) else
   if b≠40\/r.deep=14 then(cu,⟨b::u,r.deep,r.size+1,true⟩) else rH n ⟨u,r.deep+1,r.size+1,false⟩ []
def rH:Nat->RS->List aj->aj×RS
 |0,r,acc=>(bC acc,⟨r.t,r.deep,r.size,true⟩)
 |n+1,r,acc=>if r.bad=true then(bC acc,r) else
  if(gD r.t).head? =some 41 then(bC acc,⟨(gD r.t).tail,r.deep-1,r.size,false⟩) else
  rH n (lC n ⟨gD r.t,r.deep,r.size,false⟩).2 (acc++[(lC n ⟨gD r.t,r.deep,r.size,false⟩).1])
end
structure apW(x:aj)(r r':RS):Prop where
 suf:r'.t <:+ r.t
 deep:r'.bad=false->r'.deep=r.deep
 low:r'.deep<=14
 size:r.size+1<=r'.size/\r'.size<=901
 sz:x.sz+1<=(r.t.length-r'.t.length)+(r'.size-r.size)
 go:r'.bad=false->r'.t.length<r.t.length/\r'.size<=900
structure apX(acc:List aj)(x:aj)(r r':RS):Prop where
 suf:r'.t <:+ r.t
 deep:r'.bad=false->r'.deep=r.deep-1/\r.bad=false/\r'.size<=900
 low:r'.deep<=14
 size:r.size<=r'.size/\r'.size<=901
 sz:∃l,x=bC (acc++l)/\l.length+dA l<=(r.t.length-r'.t.length)+(r'.size-r.size)/\l.length<=r'.size-r.size
theorem QO:∀n:Nat,(∀r:RS,r.deep<=14->r.size<=900->apW (lC n r).1 r (lC n r).2)/\
 (∀(r:RS)(acc:List aj),r.deep<=14->r.size<=901->(r.bad=false->1<=r.deep/\r.size<=900)->apX acc (rH n r acc).1 r (rH n r acc).2)
 |0=>by
  refine⟨fun r h1 h2=> ?_,fun r acc h1 h2 h3=> ?_⟩
  ·rw[lC];exact⟨List.suffix_refl _,(fun h=>by cases h),h1,⟨Nat.le_refl _,by simp only;omega⟩,by simp[cu,jW,aj.aO,aj.ah,bn],(fun h=>by cases h)⟩
  ·rw[rH];exact⟨List.suffix_refl _,(fun h=>by cases h),h1,⟨Nat.le_refl _,h2⟩,[],by rw[List.append_nil],by simp[dA],by simp⟩
 |n+1=>by
  obtain⟨ih1,ih2⟩:=QO n
  have z0:cu.sz=0:=by simp[cu,jW,aj.aO,aj.ah,bn]
  refine⟨fun r h1 h2=> ?_,fun r acc h1 h2 h3=> ?_⟩
  ·rw[lC];have hs:=zS r.t;split
   ·rename_i e;rw[e] at hs;exact⟨hs,(fun h=>by cases h),h1,⟨Nat.le_refl _,by simp only;omega⟩,by simp only[z0];omega,(fun h=>by cases h)⟩
   ·rename_i b u e;rw[e] at hs;have hl:=hs.length_le;rw[List.length_cons] at hl;split
    ·exact⟨hs,(fun h=>by cases h),h1,⟨Nat.le_refl _,by simp only;omega⟩,by simp only[z0];omega,(fun h=>by cases h)⟩
    ·split
     ·have hd:u.dropWhile bS <:+ u:=List.dropWhile_suffix _;have hdl:=hd.length_le
      have htd:(u.takeWhile bS).length+(u.dropWhile bS).length=u.length:=by
       rw[<-List.length_append,List.takeWhile_append_dropWhile]
      refine⟨(hd.trans (List.suffix_cons b u)).trans hs,fun _=>rfl,h1,⟨Nat.le_refl _,by simp only;omega⟩,?_,fun _=> ?_⟩
      ·rw[jR,List.length_cons];simp only;omega
      ·simp only;omega
     ·split
      ·exact⟨hs,(fun h=>by cases h),h1,⟨Nat.le_refl _,by simp only;omega⟩,by simp only[z0];omega,(fun h=>by cases h)⟩
      ·have hc:=ih2 ⟨u,r.deep+1,r.size+1,false⟩ [] (by simp only;omega) (by simp only;omega) (fun _=>by simp only;omega);obtain⟨c1,c2,c3,c4,l,c5,c6,c7⟩:=hc;have c8:=c1.length_le;simp only at c1 c2 c4 c6 c7 c8;refine⟨(c1.trans (List.suffix_cons b u)).trans hs,fun h=>by rw[(c2 h).1];omega,c3,⟨by omega,c4.2⟩,?_,fun h=>⟨by omega,(c2 h).2.2⟩⟩;rw[c5,List.nil_append,jF];omega
  ·rw[rH];have hs:=zS r.t;have hl:=hs.length_le;split
   ·exact⟨List.suffix_refl _,(fun h=>by rename_i hb;rw[hb] at h;cases h),h1,⟨Nat.le_refl _,h2⟩,[],by rw[List.append_nil],by simp[dA],by simp⟩
   ·rename_i hb
    have hb':r.bad=false:=by simpa using hb
    have h3':=h3 hb';split
    ·have ht:(gD r.t).tail <:+ gD r.t:=List.tail_suffix _;refine⟨ht.trans hs,fun _=>⟨rfl,hb',h3'.2⟩,by simp only;omega,⟨Nat.le_refl _,h2⟩,[],by rw[List.append_nil],by simp[dA],by simp⟩
    ·have hc:=ih1 ⟨gD r.t,r.deep,r.size,false⟩ h1 h3'.2;obtain⟨x,hx⟩:∃x,x=lC n ⟨gD r.t,r.deep,r.size,false⟩:=⟨_,rfl⟩;rw[<-hx] at hc ⊢;clear hx;obtain⟨c1,c2,c3,c4,c5,c6⟩:=hc;simp only at c1 c2 c4 c5 c6;have c7:=c1.length_le;obtain⟨d1,d2,d3,d4,l,d5,d6,d7⟩:=ih2 x.2 (acc++[x.1]) c3 c4.2 (fun hq=>⟨by rw[c2 hq];exact h3'.1,(c6 hq).2⟩);have d8:=d1.length_le;refine⟨(d1.trans c1).trans hs,fun hq=>⟨by rw[(d2 hq).1,c2 (d2 hq).2.1],hb',(d2 hq).2.2⟩,d3,⟨by omega,d4.2⟩,x.1::l,by rw[d5,List.append_assoc];rfl,?_,?_⟩
     ·rw[List.length_cons,dA];omega
     ·rw[List.length_cons];omega
inductive Tok where
 |op
 |cl
 |wd (b:UInt8) (u:List UInt8)
 |no
def FB:Nat->List UInt8->List Tok
 |0,_=>[]
 |n+1,l=>match gD l with
  |[]=>[]
  |b::u=>if bS b=true then .wd b (u.takeWhile bS)::FB n (u.dropWhile bS) else if b=40 then .op::FB n u else if b=41 then .cl::FB n u else [.no]
theorem Ld:∀(n m:Nat)(l:List UInt8),l.length<n->l.length<m->FB n l=FB m l
 |0,m,l,h,_=>by omega
 |n+1,0,l,_,h=>by omega
 |n+1,m+1,l,h1,h2=>by
  rw[FB,FB];have hs:=BP l;split
  ·rfl
  ·rename_i b u e;rw[e,List.length_cons] at hs;have hd:(u.dropWhile bS).length<=u.length:=(List.dropWhile_suffix bS).length_le;rw[Ld n m u (by omega) (by omega),Ld n m (u.dropWhile bS) (by omega) (by omega)]
def lex(l:List UInt8):List Tok:=FB (l.length+1) l
theorem lex_nil{l:List UInt8}(h:gD l=[]):lex l=[]:=by
 unfold lex;rw[FB,h]
theorem nG{l u:List UInt8}{b:UInt8}(h:gD l=b::u):lex l=if bS b=true then .wd b (u.takeWhile bS)::lex (u.dropWhile bS) else if b=40 then .op::lex u else if b=41 then .cl::lex u else [.no]:=by
 have hs:=BP l;rw[h,List.length_cons] at hs;have hd:(u.dropWhile bS).length<=u.length:=(List.dropWhile_suffix bS).length_le;unfold lex;rw[FB,h]
 simp only
 rw[Ld _ (u.length+1) u (by omega) (by omega),Ld _ ((u.dropWhile bS).length+1) (u.dropWhile bS) (by omega) (by omega)]
theorem AA(l:List UInt8):lex (gD l)=lex l:=by
 cases h:gD l with
 |nil=>rw[lex_nil h];rfl
 |cons b u=>rw[nG h,nG (l:=b::u) (wT (abU h))]
theorem akV{l:List UInt8}(h:lex l=[]):gD l=[]:=by
 cases e:gD l with
 |nil=>rfl
 |cons b u=>
  rw[nG e] at h;split at h
  ·cases h
  ·split at h
   ·cases h
   ·split at h<;>cases h
mutual
def uj:aj->List Tok
 | .mk [] l=>.op::kH l++[.cl]
 | .mk (b::u) _=>[.wd b u]
def kH:List aj->List Tok
 |[]=>[]
 |x::xs=>uj x++kH xs
end
theorem Cq:∀a b,kH (a++b)=kH a++kH b
 |[],b=>rfl
 |x::a,b=>by rw[List.cons_append,kH,kH,Cq a b,List.append_assoc]
theorem OB(l:List aj):uj (bC l)=.op::kH l++[.cl]:=by unfold bC;rw[uj]
theorem OC(b:UInt8)(u:List UInt8):uj (bI (b::u))=[.wd b u]:=by unfold bI;rw[uj]
theorem OD:∀n:Nat,(∀r:RS,(lC n r).2.bad=false->lex r.t=uj (lC n r).1++lex (lC n r).2.t)/\
 (∀(r:RS)(acc:List aj),(rH n r acc).2.bad=false->∃l,(rH n r acc).1=bC (acc++l)/\lex r.t=kH l++ .cl::lex (rH n r acc).2.t)
 |0=>⟨fun r h=>(by rw[lC] at h;cases h),fun r acc h=>(by rw[rH] at h;cases h)⟩
 |n+1=>by
  obtain⟨ih1,ih2⟩:=OD n;refine⟨fun r h=> ?_,fun r acc h=> ?_⟩
  ·rw[lC] at h ⊢;split at h
   ·cases h
   ·rename_i b u e;split at h
    ·cases h
    ·rename_i h1;rw[nG e];simp only[h1,if_false];split at h
     ·rename_i h2;rw[if_pos h2];simp only[h2,if_true];rw[OC];rfl
     ·rename_i h2;split at h
      ·cases h
      ·rename_i h3;have hb:b=40:=Classical.byContradiction fun hb=>h3 (.inl hb);simp only[if_neg h2,if_neg h3,if_pos hb];obtain⟨l,q1,q2⟩:=ih2 _ [] h;rw[q1,List.nil_append,OB];simp only at q2;rw[q2]
       simp
  ·rw[rH] at h ⊢;split at h
   ·rename_i hb;rw[hb] at h;cases h
   ·rename_i hb;rw[if_neg hb];split at h
    ·rename_i h1;rw[if_pos h1];refine⟨[],by rw[List.append_nil],?_⟩
     cases e:gD r.t with
     |nil=>rw[e] at h1;cases h1
     |cons b u=>
      rw[e] at h1
      have hb:b=41:=by simpa using h1
      subst hb;rw[nG e];rfl
    ·rename_i h1;rw[if_neg h1];obtain⟨l,q1,q2⟩:=ih2 _ _ h
     have hx:(lC n ⟨gD r.t,r.deep,r.size,false⟩).2.bad=false:=by
      cases hq:(lC n ⟨gD r.t,r.deep,r.size,false⟩).2.bad with
      |false=>rfl
      |true=>
       exfalso;revert h
       cases n with
       |zero=>rw[rH];simp
       |succ n=>rw[rH,if_pos hq,hq];simp
     have h2:=ih1 _ hx;simp only at h2;rw[AA] at h2;refine⟨(lC n ⟨gD r.t,r.deep,r.size,false⟩).1::l,by rw[q1,List.append_assoc];rfl,?_⟩;rw[h2,q2,kH,List.append_assoc]
mutual
theorem Sd:∀(x:aj),iK x=true->∀(r:RS)(k:List Tok),lex r.t=uj x++k->r.size+jg x<=900->r.deep+kW x<=14->
 ∃(N:Nat) (u:List UInt8),lex u=k/\∀n,N<=n->lC n r=(x,⟨u,r.deep,r.size+jg x,false⟩)
 | .mk a l=>fun hf r k hk hn hd=>by
   cases a with
   |nil=>
    rw[uj] at hk
    have hf':jw l=true:=by rw[iK,if_pos rfl] at hf;exact hf
    have hn':r.size+(j3 l+1)<=900:=by rw[jg] at hn;exact hn
    have hd':r.deep+(mV l+1)<=14:=by rw[kW,if_pos rfl] at hd;exact hd
    cases e:gD r.t with
    |nil=>rw[lex_nil e] at hk;simp at hk
    |cons b u=>
     rw[nG e] at hk
     have hb:bS b=false/\b=40/\lex u=kH l++ .cl::k:=by
      split at hk
      ·simp at hk
      ·rename_i h1;split at hk
       ·rename_i h2;exact⟨by simpa using h1,h2,by simpa using hk⟩
       ·split at hk<;>simp at hk
     obtain⟨N,v,h1,h2⟩:=OE l hf' ⟨u,r.deep+1,r.size+1,false⟩ [] k hb.2.2 rfl (by simp only;omega) (by simp only;omega);refine⟨N+1,v,h1,fun n hN=> ?_⟩
     cases n with
     |zero=>omega
     |succ n=>
      rw[lC,e]
      simp only
      rw[if_neg (by omega),if_neg (by rw[hb.1];decide),if_neg (by rw[hb.2.1];simp;omega),h2 n (by omega)];simp only[List.nil_append,Nat.add_sub_cancel,bC,jg];congr 2;omega
   |cons c v=>
    rw[uj] at hk
    have hf':validAtom (c::v)=true/\l=[]:=by
     rw[iK,if_neg (by simp)] at hf;simp only[Bool.and_eq_true,decide_eq_true_eq,List.length_eq_zero_iff] at hf;exact hf
    obtain⟨-,rfl⟩:=hf'
    cases e:gD r.t with
    |nil=>rw[lex_nil e] at hk;simp at hk
    |cons b u=>
     rw[nG e] at hk;split at hk
     ·rename_i h1;simp only[List.cons_append,List.nil_append,List.cons.injEq,Tok.wd.injEq] at hk;refine⟨1,u.dropWhile bS,hk.2,fun n hN=> ?_⟩
      cases n with
      |zero=>omega
      |succ n=>
       have hz:jg (.mk (c::v) [])=1:=rfl;rw[hz] at hn;rw[lC,e]
       simp only
       rw[if_neg (by omega),if_pos h1,hk.1.1,hk.1.2,hz];rfl
     ·split at hk
      ·simp at hk
      ·split at hk<;>simp at hk
theorem OE:∀(l:List aj),jw l=true->∀(r:RS)(acc:List aj)(k:List Tok),lex r.t=kH l++ .cl::k->r.bad=false->r.size+j3 l<=900->r.deep+mV l<=14->
 ∃(N:Nat) (u:List UInt8),lex u=k/\∀n,N<=n->rH n r acc=(bC (acc++l),⟨u,r.deep-1,r.size+j3 l,false⟩)
 |[]=>fun hf r acc k hk hb hn hd=>by
  rw[kH,List.nil_append] at hk
  cases e:gD r.t with
  |nil=>rw[lex_nil e] at hk;simp at hk
  |cons b u=>
   rw[nG e] at hk
   have hb':b=41/\lex u=k:=by
    split at hk
    ·simp at hk
    ·split at hk
     ·simp at hk
     ·split at hk
      ·rename_i h3;exact⟨h3,by simpa using hk⟩
      ·simp at hk
   refine⟨1,u,hb'.2,fun n hN=> ?_⟩
   cases n with
   |zero=>omega
   |succ n=>
    rw[rH,if_neg (by rw[hb];decide),if_pos (by rw[e,hb'.1];rfl),e,List.append_nil];rfl
 |x::l=>fun hf r acc k hk hb hn hd=>by
  rw[kH,List.append_assoc] at hk;rw[jw,Bool.and_eq_true] at hf;rw[j3] at hn;rw[mV] at hd;obtain⟨N,u,h1,h2⟩:=Sd x hf.1 ⟨gD r.t,r.deep,r.size,false⟩ _ (by rw[AA];exact hk) (by simp only;omega) (by simp only;omega);obtain⟨M,v,h3,h4⟩:=OE l hf.2 ⟨u,r.deep,r.size+jg x,false⟩ (acc++[x]) k h1 rfl (by simp only;omega) (by simp only;omega);refine⟨N+M+1,v,h3,fun n hN=> ?_⟩
  cases n with
  |zero=>omega
  |succ n=>
   have hne:(gD r.t).head? ≠some 41:=fun hq=>by
    cases e:gD r.t with
    |nil=>rw[e] at hq;cases hq
    |cons b w=>
     rw[e] at hq
     have apY:b=41:=by simpa using hq
     rw[nG e,apY] at hk
     cases x with|mk a l'=> ?_
     cases a with
     |nil=>rw[uj] at hk;revert hk;simp[show bS 41=false from by decide]
     |cons c v=>rw[uj] at hk;revert hk;simp[show bS 41=false from by decide]
   rw[rH,if_neg (by rw[hb];decide),if_neg hne,h2 n (by omega)]
   simp only
   rw[h4 n (by omega),List.append_assoc,j3];simp only[List.cons_append,List.nil_append];congr 2;omega
end
def yM:Nat->List UInt8->List (List aj)->Nat->Option (List (List aj))
 |0,_,_,_=>none
 |_+1,[],rows,_=>some rows
 |n+1,b::u,rows,c=>if lK b=true then yM n u rows c else
  if b=40 then(if 15<rows.length+1\/1800<c+1 then none else yM n u ([]::rows) (c+1)) else
  if b=41 then(match rows with
   |x::y::z=>if 1800<c+1 then none else yM n u ((y++[bC x])::z) (c+1)
   |_=>none) else
  if bS b=true then(match rows with
   |x::z=>if 1800<c+1 then none else yM n (u.dropWhile bS) ((x++[bI (b::u.takeWhile bS)])::z) (c+1)
   |[]=>none) else none
def runT:List Tok->List (List aj)->Nat->Option (List (List aj))
 |[],rows,_=>some rows
 | .op::k,rows,c=>if 15<rows.length+1\/1800<c+1 then none else runT k ([]::rows) (c+1)
 | .cl::k,x::y::z,c=>if 1800<c+1 then none else runT k ((y++[bC x])::z) (c+1)
 | .wd b u::k,x::z,c=>if 1800<c+1 then none else runT k ((x++[bI (b::u)])::z) (c+1)
 |_,_,_=>none
theorem yN:∀(n:Nat)(l:List UInt8)(rows:List (List aj))(c:Nat),l.length<n->yM n l rows c=runT (lex l) rows c
 |0,l,rows,c,h=>by omega
 |n+1,[],rows,c,h=>by rw[yM,lex_nil rfl];rfl
 |n+1,b::u,rows,c,h=>by
  rw[List.length_cons] at h;have hd:(u.dropWhile bS).length<=u.length:=(List.dropWhile_suffix bS).length_le;rw[yM.eq_def]
  simp only
  by_cases hb:lK b=true
  ·rw[if_pos hb,yN n u rows c (by omega),<-AA (b::u),Hy hb,AA]
  ·rw[if_neg hb]
   have hb':lK b=false:=by simpa using hb
   rw[nG (wT hb')];by_cases OG:b=40
   ·subst OG;rw[if_pos rfl,if_neg (show ¬bS 40=true by decide),if_pos rfl,runT,yN n u _ _ (by omega)]
   ·rw[if_neg OG];by_cases Sg:b=41
    ·subst Sg;rw[if_pos rfl,if_neg (show ¬bS 41=true by decide),if_neg (show ¬(41:UInt8)=40 by decide),if_pos rfl]
     match rows with
     |[]=>simp[runT]
     |[x]=>simp[runT]
     |x::y::z=>simp only[runT];rw[yN n u _ _ (by omega)]
    ·rw[if_neg Sg];by_cases ha:bS b=true
     ·rw[if_pos ha,if_pos ha]
      match rows with
      |[]=>simp[runT]
      |x::z=>simp only[runT];rw[yN n _ _ _ (by omega)]
     ·rw[if_neg ha,if_neg ha,if_neg OG,if_neg Sg]
      cases rows with
      |nil=>simp[runT]
      |cons x z=>simp[runT]
def Bj:List (List aj)->List Tok
 |[]=>[]
 |x::z=>(if z=[] then [] else Bj z++[.op])++kH x
theorem Di:∀(k:List Tok)(rows:List (List aj))(c:Nat)(out:List (List aj)),rows≠[]->runT k rows c=some out->out≠[]/\Bj out=Bj rows++k
 |[],rows,c,out,h0,h=>by
  rw[runT] at h;cases h;exact⟨h0,by rw[List.append_nil]⟩
 | .op::k,rows,c,out,h0,h=>by
   rw[runT] at h;split at h
   ·cases h
   ·obtain⟨a,b⟩:=Di k _ _ out (by simp) h;refine⟨a,?_⟩;rw[b,Bj,if_neg h0,kH,List.append_nil,List.append_assoc];rfl
 | .cl::k,[],c,out,h0,h=>absurd rfl h0
 | .cl::k,[x],c,out,h0,h=>by simp[runT] at h
 | .cl::k,x::y::z,c,out,h0,h=>by
   rw[runT] at h;split at h
   ·cases h
   ·obtain⟨a,b⟩:=Di k _ _ out (by simp) h;refine⟨a,?_⟩;rw[b,Bj,Bj,Bj,if_neg (by simp:¬y::z=[]),Cq,kH,kH,List.append_nil,OB];simp only[List.append_assoc,List.cons_append,List.nil_append]
 | .wd b u::k,[],c,out,h0,h=>absurd rfl h0
 | .wd b u::k,x::z,c,out,h0,h=>by
   rw[runT] at h;split at h
   ·cases h
   ·obtain⟨a,e⟩:=Di k _ _ out (by simp) h;refine⟨a,?_⟩;rw[e,Bj,Bj,Cq,kH,kH,List.append_nil,OC];simp only[List.append_assoc,List.cons_append,List.nil_append]
 | .no::k,rows,c,out,h0,h=>by simp[runT] at h
mutual
theorem Si:∀(x:aj),iK x=true->∀(k:List Tok)(r:List aj)(z:List (List aj))(c:Nat),z.length+1+kW x<=15->c+2*jg x<=1800->
 ∃d,d<=c+2*jg x/\runT (uj x++k) (r::z) c=runT k ((r++[x])::z) d
 | .mk [] l=>fun hf k r z c hd hc=>by
   rw[iK,if_pos rfl] at hf;rw[kW,if_pos rfl] at hd;rw[jg] at hc;obtain⟨d,h1,h2⟩:=OH l hf (.cl::k) [] (r::z) (c+1) (by rw[List.length_cons];omega) (by omega);refine⟨d+1,by rw[jg];omega,?_⟩;rw[uj,List.cons_append,List.cons_append,List.append_assoc];simp only[List.cons_append,List.nil_append];rw[runT,if_neg (by rw[List.length_cons];omega),h2,runT,if_neg (by omega)];rfl
 | .mk (b::u) l=>fun hf k r z c hd hc=>by
   rw[iK,if_neg (by simp)] at hf;simp only[Bool.and_eq_true,decide_eq_true_eq,List.length_eq_zero_iff] at hf;obtain⟨-,rfl⟩:=hf;have hz:jg (.mk (b::u) [])=1:=rfl;rw[hz] at hc ⊢;refine⟨c+1,by omega,?_⟩;rw[uj,List.cons_append,List.nil_append,runT,if_neg (by omega)];rfl
theorem OH:∀(l:List aj),jw l=true->∀(k:List Tok)(r:List aj)(z:List (List aj))(c:Nat),z.length+1+mV l<=15->c+2*j3 l<=1800->
 ∃d,d<=c+2*j3 l/\runT (kH l++k) (r::z) c=runT k ((r++l)::z) d
 |[]=>fun hf k r z c hd hc=>⟨c,by omega,by rw[kH,List.append_nil];rfl⟩
 |x::l=>fun hf k r z c hd hc=>by
  rw[jw,Bool.and_eq_true] at hf;rw[mV] at hd;rw[j3] at hc;obtain⟨d,h1,h2⟩:=Si x hf.1 (kH l++k) r z c (by omega) (by omega);obtain⟨e,h3,h4⟩:=OH l hf.2 k (r++[x]) z d (by omega) (by omega);refine⟨e,by rw[j3];omega,?_⟩;rw[kH,List.append_assoc,h2,h4,List.append_assoc];rfl
end
def Denotes(s:List UInt8)(x:aj):Prop:=fM x=true/\lex s=uj x
theorem JL{x:aj}(h:fM x=true):iK x=true/\kW x<=14/\jg x<=900:=by
 unfold fM at h;simpa using h
theorem Bl{s:List UInt8}{x:aj}(h:Denotes s x):yM (s.length+1) s [[]] 0=some [[x]]:=by
 obtain⟨h1,h2,h3⟩:=JL h.1;obtain⟨d,_,h4⟩:=Si x h1 [] [] [] 0 (by simp;omega) (by omega);rw[yN _ _ _ _ (Nat.lt_succ_self _),h.2,<-List.append_nil (uj x),h4];rfl
theorem YP{s:List UInt8}{x y:aj}(h:Denotes s x)(h':Denotes s y):x=y:=by
 have:=(Bl h).symm.trans (Bl h');simpa using this
theorem Me{s:List UInt8}{x:aj}(h:yM (s.length+1) s [[]] 0=some [[x]])(hv:fM x=true):Denotes s x:=by
 rw[yN _ _ _ _ (Nat.lt_succ_self _)] at h;obtain⟨_,h⟩:=Di _ _ _ _ (by simp) h;simp only[Bj,if_true,List.nil_append,kH,List.append_nil] at h;exact⟨hv,h.symm⟩
open Classical in
noncomputable def lg(s:List UInt8):Bool:=dec (∃x,Denotes s x)
open Classical in
noncomputable def jy(s:List UInt8):aj:=if h:∃x,Denotes s x then h.choose else cu
theorem BQ{s:List UInt8}{x:aj}(h:Denotes s x):lg s=true/\jy s=x:=by
 have h':∃x,Denotes s x:=⟨x,h⟩;refine⟨aY h',?_⟩;unfold jy;rw[dif_pos h'];exact YP h'.choose_spec h
theorem V9{s:List UInt8}(h:∀x,¬Denotes s x):lg s=false/\jy s=cu:=by
 have h':¬∃x,Denotes s x:=fun⟨x,hx⟩=>h x hx;refine⟨aA h',?_⟩;unfold jy;rw[dif_neg h']
theorem YQ{s:List UInt8}(h:lg s=true):fM (jy s)=true:=by
 obtain⟨x,hx⟩:=gG h;rw[(BQ hx).2];exact hx.1
def OI(s:List UInt8):Nat:=2*s.length+2
theorem Wd(s:List UInt8):∃n,OI s<=n/\dec ((lC n ⟨s,0,0,false⟩).2.bad=false/\gD (lC n ⟨s,0,0,false⟩).2.t=[]/\fM (lC n ⟨s,0,0,false⟩).1=true)=lg s/\(lg s=true->(lC n ⟨s,0,0,false⟩).1=jy s):=by
 by_cases h:∃x,Denotes s x
 ·obtain⟨x,hx⟩:=h;obtain⟨h1,h2,h3⟩:=JL hx.1;obtain⟨N,u,hu,hN⟩:=Sd x h1 ⟨s,0,0,false⟩ [] (by rw[List.append_nil];exact hx.2) (by simp only;omega) (by simp only;omega);refine⟨N+OI s,by omega,?_,fun _=> ?_⟩
  ·rw[hN _ (by omega),(BQ hx).1];exact aY ⟨rfl,akV hu,hx.1⟩
  ·rw[hN _ (by omega),(BQ hx).2]
 ·have hno:=V9 (s:=s) fun x hx=>h ⟨x,hx⟩;refine⟨OI s,Nat.le_refl _,?_,fun e=>by rw[hno.1] at e;cases e⟩;rw[hno.1];refine aA fun hq=>h ⟨_,hq.2.2,?_⟩;have:=(OD (OI s)).1 ⟨s,0,0,false⟩ hq.1;simp only at this;rw[this,lex_nil hq.2.1,List.append_nil]
theorem JM(s:List UInt8):((∃x,yM (s.length+1) s [[]] 0=some [[x]]/\fM x=true)<->lg s=true)/\∀x,yM (s.length+1) s [[]] 0=some [[x]]->fM x=true->jy s=x:=
 ⟨⟨fun⟨x,h1,h2⟩=>(BQ (Me h1 h2)).1,fun h=>by
   obtain⟨x,hx⟩:=gG h
   exact⟨x,Bl hx,hx.1⟩⟩,fun x h1 h2=>(BQ (Me h1 h2)).2⟩
mutual
def rC:ak->List ak
 | .mk k n a=>.mk k n a::qA a
def qA:List ak->List ak
 |[]=>[]
 |t::ts=>rC t++qA ts
end
theorem BR(t:ak):rC t=t::qA t.fArgs:=by cases t;rw[rC];rfl
theorem Bn{ts:List ak}{i:Nat}(hi:i<ts.length):qA (ts.drop i)=rC ts[i]++qA (ts.drop (i+1)):=by rw[List.drop_eq_getElem_cons hi,qA]
mutual
theorem JN:∀t:ak,(rC t).length=t.cnt
 | .mk k n a=>by rw[rC,List.length_cons,ak.cnt,OJ a];omega
theorem OJ:∀ts:List ak,(qA ts).length=ak.eB ts
 |[]=>rfl
 |t::ts=>by rw[qA,List.length_append,ak.eB,JN t,OJ ts]
end
def wC(out:List (List UInt8))(u:ak):List (List UInt8):=if u.aJ=1/\u.fName∉out then out++[u.fName] else out
def jG(out:List (List UInt8))(t:ak):List (List UInt8):=(rC t).foldl wC out
def vG(out:List (List UInt8))(ts:List ak):List (List UInt8):=(qA ts).foldl wC out
theorem MR(out:List (List UInt8))(u:ak):(wC out u).length<=out.length+1:=by
 unfold wC
 split<;>simp
theorem Sj:∀(us:List ak)(out:List (List UInt8)),(us.foldl wC out).length<=out.length+us.length
 |[],out=>by simp
 |u::us,out=>by
  have h1:=MR out u;have h2:=Sj us (wC out u);rw[List.foldl_cons,List.length_cons];omega
theorem BS(t:ak)(out:List (List UInt8)):(jG out t).length<=out.length+t.cnt:=by
 have:=Sj (rC t) out;rw[JN] at this;exact this
theorem ahS(out:List (List UInt8))(t:ak):jG out t=vG (wC out t) t.fArgs:=by
 unfold jG vG;rw[BR,List.foldl_cons]
theorem Mf{ts:List ak}{i:Nat}(hi:i<ts.length)(out:List (List UInt8)):vG out (ts.drop i)=vG (jG out ts[i]) (ts.drop (i+1)):=by
 unfold vG jG;rw[Bn hi,List.foldl_append]
def sM(t:ak):Bool:=(rC t).any fun u=>decide (u.aJ=3)
def wU(ts:List ak):Bool:=(qA ts).any fun u=>decide (u.aJ=3)
theorem Hz(t:ak):sM t=(decide (t.aJ=3)||wU t.fArgs):=by
 unfold sM wU;rw[BR,List.any_cons]
theorem TM{ts:List ak}{i:Nat}(hi:i<ts.length):wU (ts.drop i)=(sM ts[i]||wU (ts.drop (i+1))):=by
 unfold wU sM;rw[Bn hi,List.any_append]
theorem Wh(us:List ak):∀b:Bool,us.foldl (fun b u=>b||decide (u.aJ=3)) b=(b||us.any fun u=>decide (u.aJ=3)):=by
 induction us with
 |nil=>intro b;simp
 |cons u us ih=>intro b;rw[List.foldl_cons,ih,List.any_cons,Bool.or_assoc]
def OL(v:List UInt8)(u:ak):Bool:=decide (u.aJ=1/\u.fName=v)
def sj(v:List UInt8)(t:ak):Nat:=(rC t).countP (OL v)
def xH(v:List UInt8)(ts:List ak):Nat:=(qA ts).countP (OL v)
theorem aeL(v:List UInt8)(t:ak):sj v t=(if OL v t then 1 else 0)+xH v t.fArgs:=by
 unfold sj xH;rw[BR,List.countP_cons];omega
theorem Wi{v:List UInt8}{ts:List ak}{i:Nat}(hi:i<ts.length):xH v (ts.drop i)=sj v ts[i]+xH v (ts.drop (i+1)):=by
 unfold xH sj;rw[Bn hi,List.countP_append]
theorem aeM(v:List UInt8)(t:ak):sj v t<=t.cnt:=by
 unfold sj;rw[<-JN];exact List.countP_le_length
def occurs(v:List UInt8)(t:ak):Bool:=decide (0<sj v t)
end Go.Ab
namespace Go.Proofs.YtokkjobjffhfjaaGreatDoor.Fa
open Go Go.Ab
abbrev gy(t c b:Nat)(z:List C):Prop:=prog.cellsOf t=c/\prog.bytesOf t=b/\(prog.info? t).isSome=true/\jY prog t=some z
theorem gB{t c b:Nat}{z:List C}(h1:prog.cellsOf t=c:=by kernel_rfl)(h2:prog.bytesOf t=b:=by kernel_rfl)(h3:(prog.info? t).isSome=true:=by kernel_rfl)(h4:jY prog t=some z:=by kernel_rfl):gy t c b z:=⟨h1,h2,h3,h4⟩
theorem ty1:gy 1 1 8 [.d (.o .nilFunc)]:=gB
theorem ty2:gy 2 1 8 [.d (.i .i64 0)]:=gB
theorem ty3:gy 3 1 8 [.d (.i .i64 0)]:=gB
theorem ty4:gy 4 1 1 [.d (.b false)]:=gB
theorem aoB:zeroV prog 4=some (.bool false):=by kernel_rfl
theorem ty5:gy 5 1 1 [.d (.i .u8 0)]:=gB
theorem ty9:gy 9 1 16 [.d (.s [])]:=gB
theorem apZ:gy 12 1 8 [.d (.i .u64 0)]:=gB
theorem ap0:gy 20 1 16 [.d (.o .nilIface)]:=gB
theorem ap1:gy 21 1 4 [.d (.i .i32 0)]:=gB
theorem ap2:gy 22 1 24 [.bG []]:=gB
theorem ap3:gy 23 3 48 [.d (.i .i64 0),.d (.s []),.bG []]:=gB
theorem ap4:gy 24 3 48 [.d (.i .i64 0),.d (.s []),.bG []]:=gB
theorem ap5:gy 25 1 24 [.bG []]:=gB
theorem ap6:gy 26 1 24 [.bG []]:=gB
theorem ap7:gy 27 9 144 [.d (.i .i64 0),.d (.s []),.d (.s []),.d (.i .i64 0),.d (.i .i64 0),.d (.s []),.bG [],.bG [],.bG []]:=gB
theorem ap8:gy 28 9 144 [.d (.i .i64 0),.d (.s []),.d (.s []),.d (.i .i64 0),.d (.i .i64 0),.d (.s []),.bG [],.bG [],.bG []]:=gB
theorem ap9:gy 30 1 8 [.d (.o .nilFunc)]:=gB
theorem aqa:gy 31 1 8 [.d (.o .nilFunc)]:=gB
theorem aqb:gy 32 1 8 [.d (.o .nilFunc)]:=gB
theorem aqc:gy 33 1 8 [.d (.o .nilFunc)]:=gB
theorem aqd:gy 34 1 24 [.bG []]:=gB
theorem aqe:gy 35 1 24 [.bG []]:=gB
theorem aqf:gy 36 1 24 [.bG []]:=gB
theorem aqg:gy 37 1 24 [.bG []]:=gB
theorem aqh:gy 38 1 24 [.bG []]:=gB
theorem aqi:gy 39 6 136 [.d (.s []),.bG [],.bG [],.bG [],.bG [],.bG []]:=gB
theorem aqj:gy 40 6 136 [.d (.s []),.bG [],.bG [],.bG [],.bG [],.bG []]:=gB
theorem aqk:gy 42 1 8 [.d (.o .nilFunc)]:=gB
theorem aql:gy 43 1 8 [.d (.o .nilFunc)]:=gB
theorem aqm:gy 44 1 8 [.d (.o .nilFunc)]:=gB
theorem aqn:gy 45 1 24 [.bG []]:=gB
theorem aqo:gy 47 1 24 [.bG []]:=gB
theorem aqp:gy 49 1 8 [.d (.o .nilFunc)]:=gB
theorem aqr:gy 50 1 8 [.d (.o .nilFunc)]:=gB
theorem aqs:gy 51 1 8 [.d (.o .nilFunc)]:=gB
theorem aqt:gy 52 1 24 [.bG []]:=gB
theorem aqu:gy 53 2 40 [.d (.s []),.bG []]:=gB
theorem aqv:gy 54 2 40 [.d (.s []),.bG []]:=gB
theorem aqw:gy 56 1 8 [.d (.o .nilFunc)]:=gB
theorem aqx:gy 57 1 8 [.d (.o .nilFunc)]:=gB
theorem aqy:gy 58 1 8 [.d (.o .nilFunc)]:=gB
theorem aqz:gy 63 1 8 [.d (.o .nilFunc)]:=gB
theorem aqA:gy 64 1 8 [.d (.o .nilFunc)]:=gB
theorem aqB:gy 65 1 8 [.d (.o .nilFunc)]:=gB
theorem aqC:gy 67 1 8 [.d (.o .nilFunc)]:=gB
theorem aqD:gy 68 1 8 [.d (.o .nilFunc)]:=gB
theorem aqE:gy 69 1 8 [.d (.o .nilFunc)]:=gB
theorem aqF:gy 70 1 8 [.d (.o .nilFunc)]:=gB
theorem aqG:gy 71 1 8 [.d (.o .nilFunc)]:=gB
theorem aqH:gy 79 1 8 [.d (.o (.pointer none))]:=gB
theorem aqI:gy 81 5 48 [.d (.s []),.d (.i .i64 0),.d (.i .i64 0),.d (.i .i64 0),.d (.b false)]:=gB
theorem aqJ:gy 82 1 8 [.d (.o .nilFunc)]:=gB
theorem aqK:gy 83 1 8 [.d (.o .nilFunc)]:=gB
theorem aqL:gy 84 1 8 [.d (.o .nilFunc)]:=gB
theorem aqM:gy 86 1 8 [.d (.o .nilFunc)]:=gB
theorem aqN:gy 87 1 8 [.d (.o .nilFunc)]:=gB
theorem aqO:gy 89 1 24 [.bG []]:=gB
theorem aqP:gy 91 1 8 [.d (.o .nilFunc)]:=gB
theorem aqQ:gy 92 1 8 [.d (.o .nilFunc)]:=gB
theorem aqR:gy 93 11 184 [.d (.s []),.bG [],.d (.i .i64 0),.d (.s []),.d (.s []),.d (.i .i64 0),.d (.i .i64 0),.d (.s []),.bG [],.bG [],.bG []]:=gB
theorem aqS:gy 94 11 184 [.d (.s []),.bG [],.d (.i .i64 0),.d (.s []),.d (.s []),.d (.i .i64 0),.d (.i .i64 0),.d (.s []),.bG [],.bG [],.bG []]:=gB
theorem aqT:gy 95 1 8 [.d (.o .nilFunc)]:=gB
theorem aqU:gy 96 1 8 [.d (.o .nilFunc)]:=gB
theorem aoC:gy 101 1 8 [.d (.o (.pointer none))]:=gB
theorem aoD:gy 105 1 24 [.bG []]:=gB
theorem aoE:gy 107 5 72 [.d (.s []),.bG [],.d (.b false),.d (.b false),.bG []]:=gB
theorem aoF:gy 109 1 24 [.bG []]:=gB
theorem aoG:gy 111 3 64 [.d (.s []),.bG [],.bG []]:=gB
theorem aoH:gy 113 1 24 [.bG []]:=gB
theorem aoI:gy 114 1 24 [.bG []]:=gB
theorem aoJ:gy 116 12 192 [.d (.s []),.bG [],.d (.i .i64 0),.d (.s []),.bG [],.bG [],.d (.b false),.d (.b false),.d (.i .i64 0),.d (.s []),.bG [],.bG []]:=gB
theorem aoK:gy 118 1 24 [.bG []]:=gB
theorem aoL:gy 120 16 280 [.d (.s []),.bG [],.bG [],.bG [],.d (.i .i64 0),.d (.s []),.bG [],.d (.i .i64 0),.d (.s []),.d (.s []),.d (.i .i64 0),.d (.i .i64 0),.d (.s []),.bG [],.bG [],.bG []]:=gB
theorem aoM:gy 127 1 24 [.bG []]:=gB
theorem aoN:gy 128 1 8 [.d (.o .nilFunc)]:=gB
theorem aoO:gy 179 16 264 [.d (.s []),.bG [],.d (.i .i64 0),.d (.s []),.bG [],.d (.b false),.bG [],.d (.i .i64 0),.d (.s []),.d (.s []),.d (.i .i64 0),.d (.i .i64 0),.d (.s []),.bG [],.bG [],.bG []]:=gB
theorem aoP:gy 181 2 40 [.d (.s []),.bG []]:=gB
theorem aoQ:gy 183 4 64 [.d (.s []),.d (.i .i64 0),.d (.s []),.bG []]:=gB
theorem aoR:gy 185 11 184 [.d (.s []),.bG [],.d (.i .i64 0),.d (.s []),.d (.s []),.d (.i .i64 0),.d (.i .i64 0),.d (.s []),.bG [],.bG [],.bG []]:=gB
theorem aoS:gy 187 4 64 [.d (.s []),.d (.i .i64 0),.d (.s []),.bG []]:=gB
theorem aoT:gy 198 1 8 [.d (.o .nilFunc)]:=gB
theorem aoU:gy 206 1 8 [.d (.o .nilFunc)]:=gB
theorem aoV:gy 218 4 96 [.bG [],.bG [],.bG [],.bG []]:=gB
theorem aoW:gy 239 1 16 [.d (.o .nilIface)]:=gB
theorem aoX:gy 251 1 8 [.d (.o (.map none))]:=gB
theorem aoY:gy 255 1 8 [.d (.o .nilFunc)]:=gB
theorem aoZ:gy 258 1 8 [.d (.o .nilFunc)]:=gB
theorem ao0:gy 308 1 24 [.bG []]:=gB
theorem laidOut:laidOutB prog=true:=by kernel_rfl
theorem own:ownKnob prog.godebug=none:=by kernel_rfl
attribute [go_sem] ty1 underlying1 ty2 underlying2 ty3 underlying3 ty4 underlying4 aoB ty5 underlying5 ty9 underlying9 apZ underlying12 ap0 underlying20 ap1 underlying21 ap2 underlying22 ap3 underlying23 ap4 underlying24 ap5 underlying25 ap6 underlying26 ap7 underlying27 ap8 underlying28 ap9 underlying30 aqa underlying31 aqb underlying32 aqc underlying33 aqd underlying34 aqe underlying35 aqf underlying36 aqg underlying37 aqh underlying38 aqi underlying39 aqj underlying40 aqk underlying42 aql underlying43 aqm underlying44 aqn underlying45 aqo underlying47 aqp underlying49 aqr underlying50 aqs underlying51 aqt underlying52 aqu underlying53 aqv underlying54 aqw underlying56 aqx underlying57 aqy underlying58 aqz underlying63 aqA underlying64 aqB underlying65 aqC underlying67 aqD underlying68 aqE underlying69 aqF underlying70 aqG underlying71 aqH underlying79 aqI underlying81 aqJ underlying82 aqK underlying83 aqL underlying84 aqM underlying86 aqN underlying87 aqO underlying89 aqP underlying91 aqQ underlying92 aqR underlying93 aqS underlying94 aqT underlying95 aqU underlying96 aoC underlying101 aoD underlying105 aoE underlying107 aoF underlying109 aoG underlying111 aoH underlying113 aoI underlying114 aoJ underlying116 aoK underlying118 aoL underlying120 aoM underlying127 aoN underlying128 aoO underlying179 aoP underlying181 aoQ underlying183 aoR underlying185 aoS underlying187 aoT underlying198 aoU underlying206 aoV underlying218 aoW underlying239 aoX underlying251 aoY underlying255 aoZ underlying258 ao0 underlying308
end Go.Proofs.YtokkjobjffhfjaaGreatDoor.Fa
namespace Go.Ab
theorem qB(xs ys:List (List UInt8))(hsz:xs.length<=1073741824):aH prog 36 [.c (.d (.sl (xs.map encS))),.c (.d (.sl (ys.map encS)))] (.c (.d (.b (dec (xs=ys))))):=by
 intro S;refine aD (rs:=[.tmp 4]) zmx func36 ntmps36 rfl rfl rfl rfl rfl ?_;refine W1 ?_;refine S0 (fun hb h=>?_) fun hb h=>?_
 ·exact ay (aA (fun e=>h (by rw[e]))).symm
 have hl:xs.length=ys.length:=by omega
 refine aU (ι:=Nat) zmx rfl [0,1,5] (fun y=>[.c (.d (.sl (xs.map encS))),.c (.d (.sl (ys.map encS))),.c (.d (.i .i64 y))]) (fun y=>[]::S)
  (fun i=>i<=xs.length/\∀j,j<i->xs[j]? =ys[j]?) (fun y=>xs.length-y) 0 rfl rfl ⟨Nat.zero_le _,fun j h=>by omega⟩ ?_
 rintro i ⟨p1,p2⟩;refine W1 ?_;refine S0 (fun hb h=>?_) fun hb h=>?_
 ·have hi:i<xs.length:=by omega
  have hi':i<ys.length:=by omega
  refine W3 ?_;refine S0 (fun hb h=>?_) fun hb h=>?_
  ·exact ay (aA (fun e=>h (by simp only[e]))).symm
  refine bJ (i+1) (by omega) rfl rfl ⟨by omega,fun j hj=> ?_⟩;by_cases e:j=i
  ·subst e;rw[List.getElem?_eq_getElem hi,List.getElem?_eq_getElem hi',h]
  ·exact p2 j (by omega)
 ·have hi:i=xs.length:=by omega
  refine ay (aY (List.ext_getElem? fun j=> ?_)).symm;by_cases hj:j<i
  ·exact p2 j hj
  ·rw[List.getElem?_eq_none (by omega),List.getElem?_eq_none (by omega)]
theorem Gb(n a b:Int):aH prog 181 [.c (.d (.i .i64 n)),.c (.d (.i .i64 a)),.c (.d (.i .i64 b))] (.c (.d (.b (dec (a<=n/\n<=b))))):=fun S=>by
 refine aD (rs:=[.tmp 6]) zmx func181 ntmps181 rfl rfl rfl rfl rfl ?_;refine W1 ?_;refine S0 (fun hb h=>?_) fun hb h=>?_
 ·exact ay (by rw[ku];exact iB ⟨fun x=>⟨by omega,x⟩,fun x=>x.2⟩)
 ·exact ay (aA (by omega)).symm
theorem su(xs:List (List UInt8))(s:List UInt8)(hl:xs.length<=1073741824):aH prog 150 [.c (.d (.sl (xs.map encS))),.c (.d (.s s))] (.c (.d (.b (dec (s∈xs))))):=fun S=>by
 refine aD (rs:=[.tmp 4]) zmx func150 ntmps150 rfl rfl rfl rfl rfl ?_;simp -implicitDefEqProofs (disch:=omega) only[go_sem,encS]
 refine aU (ι:=Nat) zmx rfl [0,1,5] (fun i=>[.c (.d (.sl (xs.map encS))),.c (.d (.s s)),.c (.d (.i .i64 i))]) (fun _=>[]::S)
  (fun i=>i<=xs.length/\∀j,j<i->∀h:j<xs.length,xs[j]≠s) (fun i=>xs.length-i) 0 rfl rfl ⟨Nat.zero_le _,fun j h=>by omega⟩ ?_
 rintro i ⟨p1,p2⟩;simp -implicitDefEqProofs (disch:=omega) only[go_sem,encS]
 with_reducible refine dM (fun hb=> ?_) (fun hb=> ?_)<;>have h:=hb<;>(try simp only[wf_preprocess] at h)<;>simp -implicitDefEqProofs (disch:=omega) only[go_sem,hb,encS]<;>refine W3 ?_
 ·have hi:i<xs.length:=by omega
  with_reducible refine dM (fun hb=> ?_) (fun hb=> ?_)<;>have h:=hb<;>(try simp only[wf_preprocess] at h)<;>simp -implicitDefEqProofs (disch:=omega) only[go_sem,hb,encS]<;>refine W3 ?_
  ·exact ay (aY (by rw[<-h];exact List.getElem_mem hi)).symm
  ·refine bJ (i+1) (by omega) rfl rfl ⟨by omega,fun j hj hl=> ?_⟩;by_cases e:j=i
   ·subst e;exact h
   ·exact p2 j (by omega) hl
 ·refine ay (aA fun hm=> ?_).symm;obtain⟨j,h1,h2⟩:=List.getElem_of_mem hm;exact p2 j (by omega) h1 h2
theorem Sk(xs:List (List UInt8))(s:List UInt8)(hl:xs.length<=1073741824):aH prog 228 [.c (.d (.sl (xs.map encS))),.c (.d (.s s))] (.c (.d (.i .i64 (yu xs s)))):=fun S=>by
 refine aD (rs:=[.tmp 4]) zmx func228 ntmps228 rfl rfl rfl rfl rfl ?_;simp -implicitDefEqProofs (disch:=omega) only[go_sem,encS]
 refine aU (ι:=Nat) zmx rfl [0,1,7,8] (fun i=>[.c (.d (.sl (xs.map encS))),.c (.d (.s s)),.c (.d (.i .i64 xs.length)),.c (.d (.i .i64 i))]) (fun _=>[]::S)
  (fun i=>i<=xs.length/\∀j,j<i->xs.getD j []≠s) (fun i=>xs.length-i) 0 rfl rfl ⟨Nat.zero_le _,fun j h=>by omega⟩ ?_
 rintro i ⟨p1,p2⟩;simp -implicitDefEqProofs (disch:=omega) only[go_sem,encS]
 with_reducible refine dM (fun hb=> ?_) (fun hb=> ?_)<;>have h:=hb<;>(try simp only[wf_preprocess] at h)<;>simp -implicitDefEqProofs (disch:=omega) only[go_sem,hb,encS]<;>refine W3 ?_
 ·have hi:i<xs.length:=by omega
  have e:xs.getD i []=xs[i]:=by simp[List.getD,hi]
  with_reducible refine dM (fun hb=> ?_) (fun hb=> ?_)<;>have h:=hb<;>(try simp only[wf_preprocess] at h)<;>simp -implicitDefEqProofs (disch:=omega) only[go_sem,hb,encS]<;>refine W3 ?_
  ·rw[YO hi p2 (by rw[e];exact h.symm)]
  ·refine bJ (i+1) (by omega) rfl rfl ⟨by omega,fun j hj=> ?_⟩;by_cases e':j=i
   ·subst e';rw[e];exact fun x=>h x.symm
   ·exact p2 j (by omega)
 ·rw[aeJ (fun j hj=>p2 j (by omega))]
theorem sw(xs:List (List UInt8))(s:List UInt8)(hl:xs.length<=1073741824):aH prog 276 [.c (.d (.sl (xs.map encS))),.c (.d (.s s))] (.c (.d (.b (dec (s∈xs))))):=fun S=>by
 refine aD (rs:=[.tmp 4]) zmx func276 ntmps276 rfl rfl rfl rfl rfl ?_;refine W1 ?_;refine C2 (Sk xs s hl) ?_;exact ay Oy
theorem OM(s:List UInt8):aH prog 212 [.c (.d (.s s))] (.c (.d (.b (dec (s∈reserved))))):=fun S=>by
 refine aD (rs:=[.tmp 2]) zmx func212 ntmps212 rfl rfl rfl rfl rfl ?_;refine W1 ?_;refine W3 ?_;exact C4 (su reserved s (by decide))
theorem OO(s:List UInt8):aH prog 224 [.c (.d (.s s))] (.c (.d (.b (dec (s∈reserved))))):=fun S=>by
 refine aD (rs:=[.tmp 2]) zmx func224 ntmps224 rfl rfl rfl rfl rfl ?_;refine W1 ?_;refine W3 ?_;exact C4 (sw reserved s (by decide))
theorem OP(b:UInt8):aH prog 124 [.c (.d (.i .u8 b.toNat))] (.c (.d (.b (dec (lowerB b))))):=fun S=>by
 refine aD (rs:=[.tmp 2]) zmx func124 ntmps124 rfl rfl rfl rfl rfl ?_;refine W1 ?_;refine S0 (fun hb h=>?_) fun hb h=>?_
 ·exact ay (by rw[ku];exact iB ⟨fun x=>⟨by omega,by omega⟩,fun x=>by have:=x.2;omega⟩)
 ·exact ay (aA fun x=>by have:=x.1;omega).symm
theorem OQ(b:UInt8):aH prog 125 [.c (.d (.i .u8 b.toNat))] (.c (.d (.b (dec (sV b))))):=fun S=>by
 refine aD (rs:=[.tmp 2]) zmx func125 ntmps125 rfl rfl rfl rfl rfl ?_;refine W1 ?_;refine S0 (fun hb h=>?_) fun hb h=>?_
 ·exact ay (by rw[ku];exact iB ⟨fun x=>⟨by omega,by omega⟩,fun x=>by have:=x.2;omega⟩)
 ·exact ay (aA fun x=>by have:=x.1;omega).symm
theorem iI(s:List UInt8)(hl:s.length<=1073741824):aH prog 157 [.c (.d (.s s))] (.c (.d (.b (validName s)))):=fun S=>by
 refine aD (rs:=[.tmp 2]) zmx func157 ntmps157 rfl rfl rfl rfl rfl ?_;refine W1 ?_
 refine aU (ι:=Nat) zmx rfl [0,5,6] (fun i=>[.c (.d (.s s)),.c (.d (.i .i64 s.length)),.c (.d (.i .i64 i))]) (fun _=>[]::S)
  (fun i=>i<=s.length/\∀j,j<i->lowerB (s.getD j 0)\/(j≠0/\sV (s.getD j 0))) (fun i=>s.length-i) 0 rfl rfl ⟨Nat.zero_le _,fun j h=>by omega⟩ ?_
 rintro i ⟨p1,p2⟩
 have next:i<s.length->(lowerB (s.getD i 0)\/(i≠0/\sV (s.getD i 0)))->∀j,j<i+1->lowerB (s.getD j 0)\/(j≠0/\sV (s.getD j 0)):=fun hi h j hj=>by
  by_cases e:j=i
  ·subst e;exact h
  ·exact p2 j (by omega)
 have bad:i<s.length->¬(lowerB (s.getD i 0)\/(i≠0/\sV (s.getD i 0)))->validName s=false:=fun hi h=>aA fun x=>h (x.2.2 i hi);refine W1 ?_;refine S0 (fun hb h=>?_) fun hb h=>?_
 ·have hi:i<s.length:=by omega
  refine W3 ?_;refine C2 (OP (s.getD i 0)) ?_;refine S0 (fun hb h=>?_) fun hb h=>?_
  ·have nl:=h;refine S0 (fun hb h=>?_) fun hb h=>?_
   ·have i0:i=0:=by omega
    rw[bad hi (fun x=>x.elim nl fun y=>y.1 i0)]
   ·have ne:=h;refine W3 ?_;refine C2 (OQ (s.getD i 0)) ?_;refine S0 (fun hb h=>?_) fun hb h=>?_
    ·rw[bad hi (fun x=>x.elim nl fun y=>h y.2)]
    ·exact bJ (i+1) (by omega) rfl rfl ⟨by omega,next hi (.inr ⟨by omega,h⟩)⟩
  ·exact bJ (i+1) (by omega) rfl rfl ⟨by omega,next hi (.inl h)⟩
 ·have hn:V4 s:=fun j hj=>p2 j (by omega)
  have h0:∀b,dec (s∈reserved)=b->∀c,decide ((s.length:Int)>=1)=c->∀d,decide ((s.length:Int)<=8)=d->validName s=(c&&d&& !b):=by
   rintro b rfl c rfl d rfl;unfold validName;rw[Bool.eq_iff_iff];simp only[Bh,Bool.and_eq_true,decide_eq_true_eq,Bool.not_eq_true',JH];exact⟨fun x=>⟨⟨by omega,by omega⟩,x.2.1⟩,fun x=>⟨⟨by omega,by omega⟩,x.2,hn⟩⟩
  refine S0 (fun hb h=>?_) fun hb h=>?_
  ·have c1:=hb;refine S0 (fun hb h=>?_) fun hb h=>?_
   ·refine C2 (OO s) ?_;exact ay (by rw[h0 _ rfl _ c1 _ hb];simp)
   ·exact ay (by rw[h0 _ rfl _ c1 _ hb];simp)
  ·exact ay (by rw[h0 _ rfl _ hb _ rfl];simp)
theorem iJ(s:List UInt8)(hl:s.length<=1073741824):aH prog 148 [.c (.d (.s s))] (.c (.d (.b (validName s)))):=fun S=>by
 have bad:¬V4 s->validName s=false:=fun h=>aA fun x=>h x.2.2;refine aD (rs:=[.tmp 2]) zmx func148 ntmps148 rfl rfl rfl rfl rfl ?_;refine W1 ?_;refine C2 (Gb s.length 1 8) ?_;refine S0 (fun hb h=>?_) fun hb h=>?_
 ·rw[show validName s=false from aA fun x=>h (by omega)]
 have hlen:=h;refine C2 (OM s) ?_;refine S0 (fun hb h=>?_) fun hb h=>?_
 ·rw[show validName s=false from aA fun x=>x.2.1 h]
 have hres:=h
 refine aU (ι:=Nat) zmx rfl [0,3] (fun i=>[.c (.d (.s s)),.c (.d (.i .i64 i))]) (fun _=>[]::S)
  (fun i=>i<=s.length/\∀j,j<i->lowerB (s.getD j 0)\/(j≠0/\sV (s.getD j 0))) (fun i=>s.length-i) 0 rfl rfl ⟨Nat.zero_le _,fun j h=>by omega⟩ ?_
 rintro i ⟨p1,p2⟩
 have next:i<s.length->(lowerB (s.getD i 0)\/(i≠0/\sV (s.getD i 0)))->∀j,j<i+1->lowerB (s.getD j 0)\/(j≠0/\sV (s.getD j 0)):=fun hi h j hj=>by
  by_cases e:j=i
  ·subst e;exact h
  ·exact p2 j (by omega)
 refine W1 ?_;refine S0 (fun hb h=>?_) fun hb h=>?_
 ·have hi:i<s.length:=by omega
  have bad':¬(lowerB (s.getD i 0)\/(i≠0/\sV (s.getD i 0)))->validName s=false:=fun h=>bad fun x=>h (x i hi)
  have next:=next hi
  unfold lowerB sV at bad' next
  all_goals try(refine S0 (fun hb h=>?_) fun hb h=>?_)
  all_goals try(refine S0 (fun hb h=>?_) fun hb h=>?_)
  all_goals try(refine S0 (fun hb h=>?_) fun hb h=>?_)
  all_goals try(refine S0 (fun hb h=>?_) fun hb h=>?_)
  all_goals try(refine S0 (fun hb h=>?_) fun hb h=>?_)
  all_goals try(with_reducible refine dM (fun hb=> ?_) (fun hb=> ?_)<;>have h:=hb<;>(try simp only[wf_preprocess] at h)<;>simp -implicitDefEqProofs (disch:=omega) only[go_sem,hb]<;>(repeat(with_reducible refine And.intro ?_ ?_;focus first|omega|rfl|assumption|exact⟨_,rfl,rfl⟩|(simp;omega)|(simp;done))))
  all_goals first
   |exact bJ (i+1) (by omega) rfl rfl ⟨by omega,next (by omega)⟩
   |exact ay (bad' (by omega)).symm
 ·rw[show validName s=true from aY ⟨by omega,hres,fun j hj=>p2 j (by omega)⟩]
theorem aeN(s:List UInt8):aH prog 297 [.c (.d (.s s))] (.c (.d (.b (yL s)))):=fun S=>by
 refine aD (rs:=[.tmp 2]) zmx func297 ntmps297 rfl rfl rfl rfl rfl ?_;refine W1 ?_;refine S0 (fun hb h=>?_) fun hb h=>?_
 ·exact ay (aY (.inl h)).symm
 ·exact ay (by rw[ku];exact iB ⟨fun x=>.inr x,fun x=>x.resolve_left h⟩)
theorem Wj(s:List UInt8):aH prog 322 [.c (.d (.s s))] (.c (.d (.b (yL s)))):=fun S=>by
 refine aD (rs:=[.tmp 2]) zmx func322 ntmps322 rfl rfl rfl rfl rfl ?_;refine W1 ?_;refine S0 (fun hb h=>?_) fun hb h=>?_
 ·exact ay (aY (.inl h)).symm
 ·exact ay (by rw[ku];exact iB ⟨fun x=>.inr x,fun x=>x.resolve_left h⟩)
theorem Dt{x:ak}{i:Nat}(hi:i<x.fArgs.length)(h:x.sz<=4194304):x.fArgs[i].sz<=4194304/\x.fArgs.length<=4194304/\x.fName.length<=4194304:=by
 have hx:x.fArgs[i].sz<=bn (x.fArgs.map ak.enc):=dD (List.mem_map_of_mem (List.getElem_mem hi));simp only[ak.sz,ak.aB,bT,D.sz,List.length_map] at h;omega
theorem JO{x:ak}(h:x.sz<=4194304):x.fArgs.length<=4194304/\x.fName.length<=4194304:=by
 simp only[ak.sz,ak.aB,bT,D.sz,List.length_map] at h;omega
theorem JQ:∀n:Nat,∀t:ak,SizeOf.sizeOf t<n->t.sz<=4194304->∀(g:Nat)(caps:List (Key×Nat))(α:Type)(st:α->Store)(I:Nat->α->Prop)(f:α->ak->α)(hf:Hr prog g caps st I f ak.v (fun u=>u.sz<=4194304))(m:Nat)(a:α),I (m+t.cnt) a->
 I m ((rC t).foldl f a)/\dz prog 283 [t.v,.c (.fn g caps)] (st a) (fun r S'=>r=.dQ []/\S'=st ((rC t).foldl f a))
 |0=>fun t h=>by omega
 |n+1=>by
  have ih:=JQ n;intro t hn hsz g caps α st I f hf m a ha;have jX:=ak.gP t;have hts:=JO hsz;rw[ak.rA,show m+(1+ak.eB t.fArgs)=(m+ak.eB t.fArgs)+1 by omega] at ha;have h1:=hf _ a t ha hsz
  have hI:∀(ts:List ak),SizeOf.sizeOf ts<n->(∀x∈ts,x.sz<=4194304)->∀a,I (m+ak.eB ts) a->I m ((qA ts).foldl f a):=by
   intro ts
   induction ts with
   |nil=>intro _ _ a ha;exact ha
   |cons x xs ihx=>
    intro hs hz a ha;simp only[List.cons.sizeOf_spec] at hs;rw[qA,List.foldl_append];rw[ak.eB,show m+(x.cnt+ak.eB xs)=(m+ak.eB xs)+x.cnt by omega] at ha;exact ihx (by omega) (fun y hy=>hz y (by simp[hy])) _ (ih x (by omega) (hz x (by simp)) g caps α st I f hf _ a ha).1
  have hall:∀x∈t.fArgs,x.sz<=4194304:=fun x hx=>by
   obtain⟨i,hi,e⟩:=List.getElem_of_mem hx;rw[<-e];exact(Dt hi hsz).1
  refine⟨by rw[BR,List.foldl_cons];exact hI t.fArgs (by omega) hall _ h1.1,?_⟩;refine aD (rs:=[]) zmx func283 ntmps283 rfl rfl rfl rfl rfl ?_;refine W1 ?_;refine bg rfl (h1.2 [_]) ?_;refine W1 ?_
  refine aU (ι:=Nat×α) zmx rfl [1,10,11,12] (fun y=>[.c (.fn g (jQ 1 caps)),.c (.d (.sl (t.fArgs.map ak.enc))),.c (.d (.i .i64 t.fArgs.length)),.c (.d (.i .i64 y.1))]) (fun y=>[.box [.d (.i .i64 t.aJ),.d (.s t.fName),.d (.sl (t.fArgs.map ak.enc))]]::st y.2)
   (fun y=>y.1<=t.fArgs.length/\I (m+ak.eB (t.fArgs.drop y.1)) y.2/\(qA (t.fArgs.drop y.1)).foldl f y.2=(rC t).foldl f a) (fun y=>t.fArgs.length-y.1) (0,f a t) rfl rfl ⟨Nat.zero_le _,h1.1,by rw[BR,List.foldl_cons];rfl⟩ ?_
  rintro⟨i,b⟩ ⟨p1,p2,p3⟩;simp only at p1 p2 p3;refine W1 ?_;refine S0 (fun hb h=>?_) fun hb h=>?_
  ·have hi:i<t.fArgs.length:=by omega
   have hs:=List.sizeOf_lt_of_mem (List.getElem_mem hi);rw[Bn hi,List.foldl_append] at p3;rw[List.drop_eq_getElem_cons hi,ak.eB,show m+(t.fArgs[i].cnt+ak.eB (t.fArgs.drop (i+1)))=(m+ak.eB (t.fArgs.drop (i+1)))+t.fArgs[i].cnt by omega] at p2;have h2:=(ih t.fArgs[i] (by omega) (Dt hi hsz).1 g caps α st I f hf _ b p2).1;refine W3 ?_;refine bg rfl (((ih t.fArgs[i] (by omega) (Dt hi hsz).1 g (jQ 1 caps) α (fun a=>[.box [.d (.i .i64 t.aJ),.d (.s t.fName),.d (.sl (t.fArgs.map ak.enc))],.box [.d (.i .i64 t.fArgs[i].aJ),.d (.s t.fArgs[i].fName),.d (.sl (t.fArgs[i].fArgs.map ak.enc))]]::st a) I f (hf.push _) _ b p2)).2) ?_;refine W1 ?_;exact bZ 1 (by decide) (i+1,(rC t.fArgs[i]).foldl f b) (by simp only;omega) rfl rfl (by simp only[jd,kT,List.all_cons,List.all_nil,V.refs,C.refs,VU,Bool.and_true]) rfl ⟨by simp only;omega,h2,p3⟩
  ·have hi:i=t.fArgs.length:=by omega
   rw[hi,List.drop_length,qA,List.foldl_nil] at p3;rw[p3]
theorem Mg{t:ak}(hsz:t.sz<=4194304){g:Nat}{caps:List (Key×Nat)}{α:Type}{st:α->Store}{I:Nat->α->Prop}{f:α->ak->α}(hf:Hr prog g caps st I f ak.v (fun u=>u.sz<=4194304))(m:Nat)(a:α)(ha:I (m+t.cnt) a):
 I m ((rC t).foldl f a)/\dz prog 283 [t.v,.c (.fn g caps)] (st a) (fun r S'=>r=.dQ []/\S'=st ((rC t).foldl f a)):=JQ _ t (Nat.lt_succ_self _) hsz g caps α st I f hf m a ha
theorem LD(rest:List Ab.Obj)(S:Store):Hr prog 313 [((0,0),0)] (fun out:List (List UInt8)=>(.box [.bN (0,1) (out.map encS)]:: .tok 1 (out.map encS)::rest)::S) (fun n out=>out.length+n<=1073741824) wC ak.v (fun u=>u.sz<=4194304):=by
 intro n out u hI hu;refine⟨by have:=MR out u;omega,fun F=> ?_⟩;have hts:=JO hu;refine aD (rs:=[]) zmx func313 ntmps313 rfl rfl rfl rfl rfl ?_;refine W1 ?_;refine S0 (fun hb h=>?_) fun hb h=>?_
 ·have h1:=h;refine C2 (sw out u.fName (by omega)) ?_;refine S0 (fun hb h=>?_) fun hb h=>?_
  ·refine W3 ?_;have ha:wC out u=out++[u.fName]:=if_pos ⟨h1,h⟩;rw[ha];simp[encS]
  ·have ha:wC out u=out:=if_neg fun x=>x.2 h;rw[ha]
 ·have ha:wC out u=out:=if_neg fun x=>h x.1;rw[ha]
theorem QS(ts:List ak)(hl:ts.length<=4194304)(hz:∀t∈ts,t.sz<=4194304)(hc:ak.eB ts<=1073741823):aH prog 286 [.c (.d (.sl (ts.map ak.enc)))] (.c (.d (.sl ((vG [] ts).map encS)))):=fun S=>by
 refine aD (rs:=[.tmp 2]) zmx func286 ntmps286 rfl rfl rfl rfl rfl ?_;refine W1 ?_;refine W3 ?_;refine sS 0 0 1 [] [.bG []] rfl rfl (by simp) ?_
 refine aU (ι:=Nat×List (List UInt8)) zmx rfl [3,7,8,9] (fun y=>[.c (.ptr (0,0) 0),.c (.d (.sl (ts.map ak.enc))),.c (.d (.i .i64 ts.length)),.c (.d (.i .i64 y.1))]) (fun y=>[.box [.bN (0,1) (y.2.map encS)],.tok 1 (y.2.map encS)]::S)
  (fun y=>y.1<=ts.length/\y.2.length+ak.eB (ts.drop y.1)<=1073741824/\vG y.2 (ts.drop y.1)=vG [] ts) (fun y=>ts.length-y.1) (0,[]) rfl rfl ⟨Nat.zero_le _,by simp only[List.drop_zero,List.length_nil];omega,rfl⟩ ?_
 rintro⟨i,out⟩ ⟨p1,p2,p3⟩;simp only at p1 p2 p3;refine W1 ?_;refine S0 (fun hb h=>?_) fun hb h=>?_
 ·have hi:i<ts.length:=by omega
  rw[Mf hi] at p3;rw[List.drop_eq_getElem_cons hi,ak.eB] at p2;have hlen:=BS ts[i] out;refine W3 ?_;refine bg rfl (Mg (hz _ (List.getElem_mem hi)) (LD [Ab.Obj.box [.d (.i .i64 ts[i].aJ),.d (.s ts[i].fName),.d (.sl (ts[i].fArgs.map ak.enc))]] S) (ak.eB (ts.drop (i+1))) out (by omega)).2 ?_;refine W1 ?_;exact bZ 2 (by decide) (i+1,jG out ts[i]) (by simp only;omega) rfl rfl rfl rfl ⟨by simp only;omega,by simp only;omega,p3⟩
 ·have hi:i=ts.length:=by omega
  rw[hi,List.drop_length] at p3;rw[<-p3];rfl
theorem zT(t:ak)(hsz:t.sz<=4194304):aH prog 235 [t.v] (.c (.d (.sl ((jG [] t).map encS)))):=fun S=>by
 have hc:=mZ t;have h0:=QS [t] (by simp) (by simpa using hsz) (by simp[ak.eB];omega);simp only[List.map_cons,List.map_nil,ak.aB] at h0;refine aD (rs:=[.tmp 2]) zmx func235 ntmps235 rfl rfl rfl rfl rfl ?_;refine W1 ?_;refine W3 ?_;refine aZ h0 ?_;refine W1 ?_;rw[show vG [] [t]=jG [] t by simp[vG,jG,qA]]
theorem OT:∀n:Nat,∀t:ak,SizeOf.sizeOf t<n->t.sz<=4194304->∀(out:List (List UInt8))(l j:Nat)(S:Store),bF S (l,j)=some (.tok 1 (out.map encS))->out.length+t.cnt<=1073741824->
 dz prog 329 [t.v,.c (.bN (l,j) (out.map encS))] S (fun r S'=>r=.c (.bN (l,j) ((jG out t).map encS))/\S'=bR S (l,j) (.tok 1 ((jG out t).map encS)))
 |0=>fun t h=>by omega
 |n+1=>by
  have ih:=OT n;intro t hn hsz out l j S hk hc;have jX:=ak.gP t;have hts:=JO hsz;have hcn:=ak.rA t;have OU:∀x:Ab.Obj,bF (bR S (l,j) x) (l,j)=some x:=fun x=>eY _ _ _ _ hk;have hS0:bR S (l,j) (.tok 1 (out.map encS))=S:=y7 _ _ hk;have fin:jG out t=vG (wC out t) t.fArgs:=ahS out t;have hal:=MR out t
  have e0:(out++[t.fName]).map encS=out.map encS++[[D.s t.fName]]:=by simp[encS]
  refine aD (rs:=[.tmp 4]) zmx func329 ntmps329 rfl rfl rfl rfl rfl ?_;simp -implicitDefEqProofs (disch:=omega) only[go_sem,hk]
  repeat' (first
   |(with_reducible refine dM (fun hb=> ?_) (fun hb=> ?_)<;>have h:=hb<;>(try simp only[wf_preprocess] at h)<;>simp -implicitDefEqProofs (disch:=omega) only[go_sem,hb,hk]<;>refine W3 ?_)
   |(refine aZ (su out t.fName (by omega)) ?_;simp -implicitDefEqProofs (disch:=omega) only[go_sem,hk];refine W3 ?_))
  all_goals first
   |(have ha:wC out t=out++[t.fName]:=if_pos ⟨by assumption,by assumption⟩)
   |(have ha:wC out t=out:=if_neg (fun x=>by have:=x.1;have:=x.2;contradiction))
  all_goals
   refine aU (ι:=Nat×List (List UInt8)) zmx rfl [1,2,5] (fun y=>[.c (.bN (1+l,j) (y.2.map encS)),.c (.ptr (0,0) 0),.c (.d (.i .i64 y.1))]) (fun y=>[.box [.d (.i .i64 t.aJ),.d (.s t.fName),.d (.sl (t.fArgs.map ak.enc))]]::bR S (l,j) (.tok 1 (y.2.map encS)))
    (fun y=>y.1<=t.fArgs.length/\y.2.length+ak.eB (t.fArgs.drop y.1)<=1073741824/\vG y.2 (t.fArgs.drop y.1)=jG out t) (fun y=>t.fArgs.length-y.1) (0,wC out t) (by first|(rw[ha,e0];rfl)|(rw[ha];rfl)) (by first|(simp only[ha,e0];done)|(simp only[ha,hS0];done)) ⟨Nat.zero_le _,by simp only[List.drop_zero];omega,by rw[fin];rfl⟩ ?_
   rintro⟨i,b⟩ ⟨p1,p2,p3⟩;simp only at p1 p2 p3;refine W1 ?_;refine S0 (fun hb h=>?_) fun hb h=>?_
   ·have hi:i<t.fArgs.length:=by omega
    have hs:=List.sizeOf_lt_of_mem (List.getElem_mem hi);rw[Mf hi] at p3;rw[List.drop_eq_getElem_cons hi,ak.eB] at p2;have hlen:=BS t.fArgs[i] b;refine W3 ?_;refine bg rfl (ih t.fArgs[i] (by omega) (Dt hi hsz).1 b (1+l) j _ (by rw[bK];exact OU _) (by omega)) ?_;simp -implicitDefEqProofs (disch:=omega) only[go_sem,bB];exact bJ (i+1,jG b t.fArgs[i]) (by simp only;omega) rfl rfl ⟨by simp only;omega,by simp only;omega,p3⟩
   ·have hi:i=t.fArgs.length:=by omega
    rw[hi,List.drop_length] at p3;rw[<-p3];exact⟨rfl,rfl⟩
theorem OV(t:ak)(hsz:t.sz<=4194304):aH prog 307 [t.v] (.c (.d (.sl ((jG [] t).map encS)))):=fun S=>by
 have hc:=mZ t
 have h0:∀S,dz prog 329 [t.v,.c (.bG [])] S (fun r S'=>r=.c (.d (.sl ((jG [] t).map encS)))/\S'=S):=fun S=>by
  refine dz.ahM 1 (es:=[]) (aX:=1) rfl (by simp) (OT _ t (Nat.lt_succ_self _) hsz [] 0 0 ([.tok 1 []]::S) rfl (by simp;omega)) ?_;rintro r fr S' ⟨rfl,h2⟩;injection h2 with h2 h3;exact⟨_,rfl,rfl,h3⟩
 refine aD (rs:=[.tmp 2]) zmx func307 ntmps307 rfl rfl rfl rfl rfl ?_;refine W1 ?_;refine W3 ?_;refine qz [true,true] rfl (h0 _) ?_;exact Z1
theorem EP:∀n:Nat,∀t:ak,SizeOf.sizeOf t<n->t.sz<=4194304->aH prog 272 [t.v] (.c (.d (.b (sM t))))
 |0=>fun t h=>by omega
 |n+1=>by
  have ih:=EP n;intro t hn hsz S;have jX:=ak.gP t;have hts:=JO hsz;refine aD (rs:=[.tmp 2]) zmx func272 ntmps272 rfl rfl rfl rfl rfl ?_;refine W1 ?_
  refine aU (ι:=Nat) zmx rfl [1,3] (fun i=>[.c (.ptr (0,0) 0),.c (.d (.i .i64 i))]) (fun _=>[.box [.d (.i .i64 t.aJ),.d (.s t.fName),.d (.sl (t.fArgs.map ak.enc))]]::S)
   (fun i=>i<=t.fArgs.length/\wU (t.fArgs.drop i)=wU t.fArgs) (fun i=>t.fArgs.length-i) 0 rfl rfl ⟨Nat.zero_le _,rfl⟩ ?_
  rintro i ⟨p1,p2⟩;refine W1 ?_;refine S0 (fun hb h=>?_) fun hb h=>?_
  ·have hi:i<t.fArgs.length:=by omega
   rw[TM hi] at p2;refine W3 ?_;refine C2 (ih t.fArgs[i] (by have:=List.sizeOf_lt_of_mem (List.getElem_mem hi);omega) (Dt hi hsz).1) ?_;refine S0 (fun hb h=>?_) fun hb h=>?_
   ·rw[Hz,<-p2,h];simp
   ·exact bJ (i+1) (by omega) rfl rfl ⟨by omega,by rw[<-p2,h];rfl⟩
  ·have hi:i=t.fArgs.length:=by omega
   rw[hi,List.drop_length] at p2;rw[Hz,<-p2];exact ay (by simp[wU,qA])
theorem Gc(t:ak)(hsz:t.sz<=4194304):aH prog 272 [t.v] (.c (.d (.b (sM t)))):=EP _ t (Nat.lt_succ_self _) hsz
theorem TN(rest:List Ab.Obj)(cs:List C)(S:Store):Hr prog 284 [((0,1),0)] (fun b:Bool=>(.box cs:: .box [.d (.b b)]::rest)::S) (fun _ _=>True) (fun b u=>b||decide (u.aJ=3)) ak.v (fun u=>u.sz<=4194304):=by
 intro n b u _ hu;refine⟨trivial,fun F=> ?_⟩;refine aD (rs:=[]) zmx func284 ntmps284 rfl rfl rfl rfl rfl ?_;refine W1 ?_
 cases b with
 |true=>
  refine W1 ?_;rfl
 |false=>
  refine W1 ?_;rfl
theorem Gd(t:ak)(hsz:t.sz<=4194304):aH prog 233 [t.v] (.c (.d (.b (sM t)))):=fun S=>by
 refine aD (rs:=[.tmp 2]) zmx func233 ntmps233 rfl rfl rfl rfl rfl ?_;refine W1 ?_;refine W3 ?_;refine bg rfl (Mg hsz (TN [] [.d (.i .i64 t.aJ),.d (.s t.fName),.d (.sl (t.fArgs.map ak.enc))] S) 0 false trivial).2 ?_;refine W1 ?_;rw[Wh];rfl
theorem wV{x:ak}{i:Nat}(hi:i<x.fArgs.length)(h:x.sz<=4194304):x.fArgs[i].sz<=4194304/\x.fArgs.length<=4194304/\x.fName.length<=4194304:=by
 have hx:x.fArgs[i].sz<=bn (x.fArgs.map ak.enc):=dD (List.mem_map_of_mem (List.getElem_mem hi));simp only[ak.sz,ak.aB,bT,D.sz,List.length_map] at h;omega
theorem ER{x:ak}(h:x.sz<=4194304):x.fArgs.length<=4194304/\x.fName.length<=4194304:=by
 simp only[ak.sz,ak.aB,bT,D.sz,List.length_map] at h;omega
theorem nL:∀{ts:List ak}{i:Nat}(hi:i<ts.length),ak.eB (ts.drop i)=ts[i].cnt+ak.eB (ts.drop (i+1)):=fun {ts} {i} hi=>by
 rw[List.drop_eq_getElem_cons hi,ak.eB]
theorem Mh:∀{ts:List ak}{i:Nat}(hi:i<ts.length),depths (ts.drop i)=max (oz ts[i]+1) (depths (ts.drop (i+1))):=fun {ts} {i} hi=>by
 rw[List.drop_eq_getElem_cons hi,depths]
theorem Wl:∀{ts:List ak}{i:Nat}(hi:i<ts.length),jk (ts.drop i)=(formed ts[i]&&jk (ts.drop (i+1))):=fun {ts} {i} hi=>by
 rw[List.drop_eq_getElem_cons hi,jk]
theorem OW:∀n:Nat,∀x:ak,SizeOf.sizeOf x<n->∀l:Int,0<=l->l<=1073741824->x.sz<=4194304->aH prog 252 [x.v,.c (.d (.i .i64 l))] (.c (.d (.i .i64 (pV l x.cnt))))
 |0=>fun x h=>by omega
 |n+1=>by
  have ih:=OW n;intro x hn l h0 h1 hsz S;have jX:=ak.gP x;have hts:=ER hsz;have hcn:=ak.rA x;refine aD (rs:=[.tmp 4]) zmx func252 ntmps252 rfl rfl rfl rfl rfl ?_;refine W1 ?_
  refine aU (ι:=Nat×Int) zmx rfl [1,2,5] (fun y=>[.c (.d (.i .i64 y.2)),.c (.ptr (0,0) 0),.c (.d (.i .i64 y.1))]) (fun y=>[.box [.d (.i .i64 x.aJ),.d (.s x.fName),.d (.sl (x.fArgs.map ak.enc))]]::S)
   (fun y=>y.1<=x.fArgs.length/\ -1<=y.2/\y.2<=1073741824/\(0<=y.2->pV l x.cnt=pV y.2 (ak.eB (x.fArgs.drop y.1)))/\(y.2<0->pV l x.cnt= -1)) (fun y=>x.fArgs.length-y.1) (0,l-1) rfl rfl ⟨Nat.zero_le _,by simp only;omega,by simp only;omega,fun h=> ?_,fun h=> ?_⟩ ?_
  ·simp only[List.drop_zero] at h ⊢;unfold pV;rw[hcn];split<;>split<;>omega
  ·simp only at h;exact Lb (by omega)
  rintro⟨i,c⟩ ⟨p1,p2,p3,p4,p5⟩;simp only at p1 p2 p3 p4 p5;refine W1 ?_;refine S0 (fun hb h=>?_) fun hb h=>?_
  ·have hi:i<x.fArgs.length:=by omega
   refine S0 (fun hb h=>?_) fun hb h=>?_
   ·have hsz':=wV hi hsz;have p6:=p4 h;rw[nL hi] at p6;refine W3 ?_;refine C2 (ih x.fArgs[i] (by have:=List.sizeOf_lt_of_mem (List.getElem_mem hi);omega) c (by omega) (by omega) (by omega)) ?_;refine bJ (i+1,pV c _) (by simp only;omega) rfl rfl ⟨by simp only;omega,?_,?_,fun h=> ?_,fun h=> ?_⟩
    ·simp only;unfold pV;split<;>omega
    ·simp only;unfold pV;split<;>omega
    ·simp only at h ⊢;rw[p6];have:=La (l:=c) (a:=x.fArgs[i].cnt) (by omega);rw[this.1];unfold pV;split<;>split<;>omega
    ·simp only at h ⊢;rw[p6];have:=Hu h;exact Lb (by omega)
   ·have hc:c= -1:=by omega
    rw[p5 (by omega),hc]
  ·have hi:i=x.fArgs.length:=by omega
   by_cases hc:0<=c
   ·rw[p4 hc,hi,List.drop_length,ak.eB,VZ (by omega)];exact int_eq (by simp)
   ·rw[p5 (by omega)];exact int_eq (by omega)
theorem aeO(x:ak)(l:Int)(h0:0<=l)(h1:l<=1073741824)(hsz:x.sz<=4194304):aH prog 252 [x.v,.c (.d (.i .i64 l))] (.c (.d (.i .i64 (pV l x.cnt)))):=OW _ x (Nat.lt_succ_self _) l h0 h1 hsz
theorem Wm(a b:Int):aH prog 176 [.c (.d (.i .i64 a)),.c (.d (.i .i64 b))] (.c (.d (.i .i64 (max a b)))):=fun S=>by
 refine aD (rs:=[.tmp 4]) zmx func176 ntmps176 rfl rfl rfl rfl rfl ?_;refine W1 ?_;refine S0 (fun hb h=>?_) fun hb h=>?_
 ·exact int_eq (by omega)
 ·exact int_eq (by omega)
theorem IX:∀n:Nat,∀x:ak,SizeOf.sizeOf x<n->x.sz<=4194304->aH prog 253 [x.v] (.c (.d (.i .i64 (oz x))))
 |0=>fun x h=>by omega
 |n+1=>by
  have ih:=IX n;intro x hn hsz S;have jX:=ak.gP x;have hts:=ER hsz;have hd1:=BN x;have hd2:=mZ x;refine aD (rs:=[.tmp 2]) zmx func253 ntmps253 rfl rfl rfl rfl rfl ?_;refine W1 ?_
  refine aU (ι:=Nat×Nat) zmx rfl [1,3,4] (fun y=>[.c (.ptr (0,0) 0),.c (.d (.i .i64 y.2)),.c (.d (.i .i64 y.1))]) (fun y=>[.box [.d (.i .i64 x.aJ),.d (.s x.fName),.d (.sl (x.fArgs.map ak.enc))]]::S)
   (fun y=>y.1<=x.fArgs.length/\oz x=max y.2 (depths (x.fArgs.drop y.1))) (fun y=>x.fArgs.length-y.1) (0,0) rfl rfl ⟨Nat.zero_le _,by simp[R7]⟩ ?_
  rintro⟨i,c⟩ ⟨p1,p2⟩;simp only at p1 p2;refine W1 ?_;refine S0 (fun hb h=>?_) fun hb h=>?_
  ·have hi:i<x.fArgs.length:=by omega
   have hsz':=wV hi hsz;rw[Mh hi] at p2;have hd3:=BN x.fArgs[i];have hd4:=mZ x.fArgs[i];refine W3 ?_;refine C2 (ih x.fArgs[i] (by have:=List.sizeOf_lt_of_mem (List.getElem_mem hi);omega) (by omega)) ?_;refine C2 (Wm _ _) ?_;rw[show max (c:Int) (1+(oz x.fArgs[i]:Int))=((max c (1+oz x.fArgs[i]):Nat):Int) by omega];exact bJ (i+1,max c (1+oz x.fArgs[i])) (by simp only;omega) rfl rfl ⟨by simp only;omega,by simp only;omega⟩
  ·have hi:i=x.fArgs.length:=by omega
   rw[hi,List.drop_length,depths] at p2;exact int_eq (by omega)
theorem Wn(x:ak)(hsz:x.sz<=4194304):aH prog 253 [x.v] (.c (.d (.i .i64 (oz x)))):=IX _ x (Nat.lt_succ_self _) hsz
theorem IY:∀n:Nat,∀x:ak,SizeOf.sizeOf x<n->x.sz<=4194304->aH prog 303 [x.v] (.c (.d (.i .i64 (oz x))))
 |0=>fun x h=>by omega
 |n+1=>by
  have ih:=IY n;intro x hn hsz S;have jX:=ak.gP x;have hts:=ER hsz;have hd1:=BN x;have hd2:=mZ x;refine aD (rs:=[.tmp 2]) zmx func303 ntmps303 rfl rfl rfl rfl rfl ?_;refine W1 ?_
  refine aU (ι:=Nat×Nat) zmx rfl [3,7,8,9] (fun y=>[.c (.d (.i .i64 y.2)),.c (.d (.sl (x.fArgs.map ak.enc))),.c (.d (.i .i64 x.fArgs.length)),.c (.d (.i .i64 y.1))]) (fun y=>[.box [.d (.i .i64 x.aJ),.d (.s x.fName),.d (.sl (x.fArgs.map ak.enc))]]::S)
   (fun y=>y.1<=x.fArgs.length/\oz x=max y.2 (depths (x.fArgs.drop y.1))) (fun y=>x.fArgs.length-y.1) (0,0) rfl rfl ⟨Nat.zero_le _,by simp[R7]⟩ ?_
  rintro⟨i,c⟩ ⟨p1,p2⟩;simp only at p1 p2;refine W1 ?_;refine S0 (fun hb h=>?_) fun hb h=>?_
  ·have hi:i<x.fArgs.length:=by omega
   have hsz':=wV hi hsz;rw[Mh hi] at p2;have hd3:=BN x.fArgs[i];have hd4:=mZ x.fArgs[i];refine W3 ?_;refine C2 (ih x.fArgs[i] (by have:=List.sizeOf_lt_of_mem (List.getElem_mem hi);omega) (by omega)) ?_;rw[show max (c:Int) ((oz x.fArgs[i]:Int)+1)=((max c (oz x.fArgs[i]+1):Nat):Int) by omega];exact bZ 1 (by decide) (i+1,max c (oz x.fArgs[i]+1)) (by simp only;omega) rfl rfl rfl rfl ⟨by simp only;omega,by simp only;omega⟩
  ·have hi:i=x.fArgs.length:=by omega
   rw[hi,List.drop_length,depths] at p2;exact int_eq (by omega)
theorem Wo(x:ak)(hsz:x.sz<=4194304):aH prog 303 [x.v] (.c (.d (.i .i64 (oz x)))):=IY _ x (Nat.lt_succ_self _) hsz
theorem JR:∀n:Nat,∀x:ak,SizeOf.sizeOf x<n->x.sz<=4194304->aH prog 304 [x.v] (.c (.d (.i .i64 x.cnt)))
 |0=>fun x h=>by omega
 |n+1=>by
  have ih:=JR n;intro x hn hsz S;have jX:=ak.gP x;have hts:=ER hsz;have hd2:=mZ x;refine aD (rs:=[.tmp 2]) zmx func304 ntmps304 rfl rfl rfl rfl rfl ?_;refine W1 ?_
  refine aU (ι:=Nat×Nat) zmx rfl [3,7,8,9] (fun y=>[.c (.d (.i .i64 y.2)),.c (.d (.sl (x.fArgs.map ak.enc))),.c (.d (.i .i64 x.fArgs.length)),.c (.d (.i .i64 y.1))]) (fun y=>[.box [.d (.i .i64 x.aJ),.d (.s x.fName),.d (.sl (x.fArgs.map ak.enc))]]::S)
   (fun y=>y.1<=x.fArgs.length/\x.cnt=y.2+ak.eB (x.fArgs.drop y.1)) (fun y=>x.fArgs.length-y.1) (0,1) rfl rfl ⟨Nat.zero_le _,by simp[ak.rA]⟩ ?_
  rintro⟨i,c⟩ ⟨p1,p2⟩;simp only at p1 p2;refine W1 ?_;refine S0 (fun hb h=>?_) fun hb h=>?_
  ·have hi:i<x.fArgs.length:=by omega
   have hsz':=wV hi hsz;rw[nL hi] at p2;refine W3 ?_;refine C2 (ih x.fArgs[i] (by have:=List.sizeOf_lt_of_mem (List.getElem_mem hi);omega) (by omega)) ?_;rw[show(c:Int)+(x.fArgs[i].cnt:Int)=((c+x.fArgs[i].cnt:Nat):Int) by omega];exact bZ 1 (by decide) (i+1,c+x.fArgs[i].cnt) (by simp only;omega) rfl rfl rfl rfl ⟨by simp only;omega,by simp only;omega⟩
  ·have hi:i=x.fArgs.length:=by omega
   rw[hi,List.drop_length,ak.eB] at p2;exact int_eq (by omega)
theorem YR(x:ak)(hsz:x.sz<=4194304):aH prog 304 [x.v] (.c (.d (.i .i64 x.cnt))):=JR _ x (Nat.lt_succ_self _) hsz
theorem JU:∀n:Nat,(∀x:ak,SizeOf.sizeOf x<n->x.sz<=4194304->aH prog 302 [x.v] (.c (.d (.b (formed x)))))/\
 (∀xs:List ak,SizeOf.sizeOf xs<n->xs.length<=4194304->(∀t∈xs,t.sz<=4194304)->aH prog 281 [.c (.d (.sl (xs.map ak.enc))),.c (.fn 323 [])] (.c (.d (.b (!jk xs)))))
 |0=>⟨fun x h=>by omega,fun x h=>by omega⟩
 |n+1=>by
  obtain⟨ih,qQ⟩:=JU n;refine⟨fun x hn hsz S=> ?_,fun xs hn hlen hsz S=> ?_⟩
  ·have jX:=ak.gP x;have hts:=ER hsz
   have fin:∀b,Dg x.aJ x.fName x.fArgs.length=b->formed x=(b&&jk x.fArgs):=fun b hb=>by rw[<-hb];exact y9 x
   have hall:∀t∈x.fArgs,t.sz<=4194304:=fun t ht=>by
    obtain⟨i,hi,e⟩:=List.getElem_of_mem ht;rw[<-e];exact(wV hi hsz).1
   have tail:=qQ x.fArgs (by omega) hts.1 hall
   have yes:Dg x.aJ x.fName x.fArgs.length=true->formed x= !(!jk x.fArgs):=fun h=>by rw[fin _ h];simp
   have no:Dg x.aJ x.fName x.fArgs.length=false->formed x=false:=fun h=>by rw[fin _ h];simp
   have shut:¬((x.aJ=1\/x.aJ=4)/\validName x.fName=true/\x.fArgs.length=0\/x.aJ=3/\validName x.fName=true/\x.fArgs.length=1\/x.aJ=2/\(validName x.fName=true/\x.fArgs.length<=3\/yL x.fName=true/\x.fArgs.length=0))->V.c (.d (.b false))=V.c (.d (.b (formed x))):=fun h=>ay (no (aA h)).symm;have open_:((x.aJ=1\/x.aJ=4)/\validName x.fName=true/\x.fArgs.length=0\/x.aJ=3/\validName x.fName=true/\x.fArgs.length=1\/x.aJ=2/\(validName x.fName=true/\x.fArgs.length<=3\/yL x.fName=true/\x.fArgs.length=0))->V.c (.d (.b (!(!jk x.fArgs))))=V.c (.d (.b (formed x))):=fun h=>ay (yes (aY h)).symm;clear yes no fin;refine aD (rs:=[.tmp 2]) zmx func302 ntmps302 rfl rfl rfl rfl rfl ?_;refine W1 ?_
   repeat' (first
    |(refine S0 (fun hb h=>?_) fun hb h=>?_)
    |(refine aZ (iI x.fName (by omega)) ?_;refine W1 ?_)
    |(refine aZ (Wj x.fName) ?_;refine W1 ?_)
    |(refine aZ tail ?_;refine W1 ?_))
   all_goals first
    |(refine shut (fun y=> ?_);rcases y with⟨_,_,_⟩|⟨_,_,_⟩|⟨_,⟨_,_⟩|⟨_,_⟩⟩<;>first|omega|(simp_all;done))
    |(refine open_ ?_;first
       |exact .inl ⟨by omega,by assumption,by omega⟩
       |exact .inr (.inl ⟨by omega,by assumption,by omega⟩)
       |exact .inr (.inr ⟨by omega,.inl ⟨by assumption,by omega⟩⟩)
       |exact .inr (.inr ⟨by omega,.inr ⟨by assumption,by omega⟩⟩))
  ·have hcl:∀y∈xs,aH prog 323 [y.v] (.c (.d (.b (!formed y)))):=fun y hy S=>by
    have hys:=List.sizeOf_lt_of_mem hy;refine aD (rs:=[.tmp 2]) zmx func323 ntmps323 rfl rfl rfl rfl rfl ?_;refine W1 ?_;exact C4 (ih y (by omega) (hsz y hy))
   have hidx:aH prog 312 [.c (.d (.sl (xs.map ak.enc))),.c (.fn 323 [])] (.c (.d (.i .i64 (uI (fun y=> !formed y) xs)))):=fun S=>by
    refine aD (rs:=[.tmp 4]) zmx func312 ntmps312 rfl rfl rfl rfl rfl ?_;refine W1 ?_
    refine aU (ι:=Nat) zmx rfl [0,1,7,8] (fun i=>[.c (.d (.sl (xs.map ak.enc))),.c (.fn 323 []),.c (.d (.i .i64 xs.length)),.c (.d (.i .i64 i))]) (fun _=>[]::S)
     (fun i=>i<=xs.length/\∀j,∀hj:j<xs.length,j<i->formed xs[j]=true) (fun i=>xs.length-i) 0 rfl rfl ⟨Nat.zero_le _,fun j _ h=>by omega⟩ ?_
    rintro i ⟨p1,p2⟩;refine W1 ?_;refine S0 (fun hb h=>?_) fun hb h=>?_
    ·have hi:i<xs.length:=by omega
     refine W3 ?_;refine C2 (hcl xs[i] (List.getElem_mem hi)) ?_;refine S0 (fun hb h=>?_) fun hb h=>?_
     ·rw[tT hi (fun j hj hji=>by rw[p2 j hj hji];rfl) (by rw[h];rfl)]
     ·refine bJ (i+1) (by omega) rfl rfl ⟨by omega,fun j hj hji=> ?_⟩;by_cases e:j=i
      ·subst e;exact h
      ·exact p2 j hj (by omega)
    ·rw[wO (fun j hj=>by rw[p2 j hj (by omega)];rfl)]
   refine aD (rs:=[.tmp 4]) zmx func281 ntmps281 rfl rfl rfl rfl rfl ?_;refine W1 ?_;refine C2 (hidx) ?_;rw[<-Mc];exact ay u7
theorem YS(x:ak)(hsz:x.sz<=4194304):aH prog 302 [x.v] (.c (.d (.b (formed x)))):=(JU _).1 x (Nat.lt_succ_self _) hsz
theorem yO(x:ak)(hsz:x.sz<=4194304):aH prog 261 [x.v] (.c (.d (.b (oV x)))):=fun S=>by
 refine aD (rs:=[.tmp 2]) zmx func261 ntmps261 rfl rfl rfl rfl rfl ?_;refine W1 ?_;refine C2 (YS x hsz) ?_;refine S0 (fun hb h=>?_) fun hb h=>?_
 ·have h1:=h;refine C2 (Wo x hsz) ?_;refine S0 (fun hb h=>?_) fun hb h=>?_
  ·refine C2 (YR x hsz) ?_;exact ay (by rw[ku];exact iB ⟨fun y=>⟨h1,by omega,by omega⟩,fun y=>by have:=y.2.2;omega⟩)
  ·exact ay (aA fun y=>by have:=y.2.1;omega).symm
 ·exact ay (aA fun y=>by rw[y.1] at h;cases h).symm
theorem OX:∀n:Nat,∀x:ak,SizeOf.sizeOf x<n->x.sz<=4194304->aH prog 254 [x.v] (.c (.d (.b (formed x))))
 |0=>fun x h=>by omega
 |n+1=>by
  have ih:=OX n;intro x hn hsz S;have jX:=ak.gP x;have hts:=ER hsz;have shut:¬((x.aJ=1\/x.aJ=4)/\validName x.fName=true/\x.fArgs.length=0\/x.aJ=3/\validName x.fName=true/\x.fArgs.length=1\/x.aJ=2/\(validName x.fName=true/\x.fArgs.length<=3\/yL x.fName=true/\x.fArgs.length=0))->V.c (.d (.b false))=V.c (.d (.b (formed x))):=fun h=>ay (by rw[y9,show Dg x.aJ x.fName x.fArgs.length=false from aA h];rfl)
  have ao1:∀b:Bool,(b=true<->((x.aJ=1\/x.aJ=4)/\validName x.fName=true/\x.fArgs.length=0\/x.aJ=3/\validName x.fName=true/\x.fArgs.length=1\/x.aJ=2/\(validName x.fName=true/\x.fArgs.length<=3\/yL x.fName=true/\x.fArgs.length=0)))->b=Dg x.aJ x.fName x.fArgs.length:=fun b h=>by
   rw[Bool.eq_iff_iff,h];unfold Dg;rw[Bh]
  refine aD (rs:=[.tmp 2]) zmx func254 ntmps254 rfl rfl rfl rfl rfl ?_;refine W1 ?_;refine C2 (iJ x.fName (by omega)) ?_
  repeat' (first
   |(refine S0 (fun hb h=>?_) fun hb h=>?_)
   |(refine aZ (aeN x.fName) ?_;refine W1 ?_))
  all_goals first
   |(refine shut (fun y=> ?_);rcases y with⟨_,_,_⟩|⟨_,_,_⟩|⟨_,⟨_,_⟩|⟨_,_⟩⟩<;>first|omega|(simp_all;done))
   |skip
  all_goals
   refine aU (ι:=Nat×Bool) zmx rfl [1,3,4] (fun y=>[.c (.ptr (0,0) 0),.c (.d (.b y.2)),.c (.d (.i .i64 y.1))]) (fun y=>[.box [.d (.i .i64 x.aJ),.d (.s x.fName),.d (.sl (x.fArgs.map ak.enc))]]::S)
    (fun y=>y.1<=x.fArgs.length/\(y.2&&jk (x.fArgs.drop y.1))=formed x) (fun y=>x.fArgs.length-y.1) (0,Dg x.aJ x.fName x.fArgs.length) ?_ rfl ⟨Nat.zero_le _,by rw[y9];rfl⟩ ?_
   ·simp only[List.map_cons,List.map_nil];simp -implicitDefEqProofs (disch:=omega) only[go_sem,List.cons.injEq,V.c.injEq,C.d.injEq,D.b.injEq,Int.natCast_zero];refine ao1 _ ⟨fun y=> ?_,fun y=> ?_⟩
    ·(try simp only[decide_eq_true_eq,Bool.false_eq_true] at y)<;>first
       |exact .inl ⟨by omega,by assumption,by omega⟩
       |exact .inr (.inl ⟨by omega,by assumption,by omega⟩)
       |exact .inr (.inr ⟨by omega,.inl ⟨by assumption,by omega⟩⟩)
       |exact .inr (.inr ⟨by omega,.inr ⟨by assumption,by omega⟩⟩)
    ·rcases y with⟨_,_,_⟩|⟨_,_,_⟩|⟨_,⟨_,_⟩|⟨_,_⟩⟩<;>first|omega|(simp only[decide_eq_true_eq];omega)|(simp_all;done)
   rintro⟨i,c⟩ ⟨p1,p2⟩;simp only at p1 p2;refine W1 ?_;refine S0 (fun hb h=>?_) fun hb h=>?_
   ·have hi:i<x.fArgs.length:=by omega
    have hsz':=wV hi hsz;rw[Wl hi] at p2;refine S0 (fun hb h=>?_) fun hb h=>?_
    ·refine C1 (ih x.fArgs[i] (by have:=List.sizeOf_lt_of_mem (List.getElem_mem hi);omega) (by omega)) ?_;exact bJ (i+1,formed x.fArgs[i]) (by simp only;omega) rfl rfl ⟨by simp only;omega,by rw[<-p2,h];rfl⟩
    ·exact bJ (i+1,false) (by simp only;omega) rfl rfl ⟨by simp only;omega,by rw[<-p2,h];rfl⟩
   ·have hi:i=x.fArgs.length:=by omega
    rw[hi,List.drop_length,jk,Bool.and_true] at p2;rw[p2]
theorem aeP(x:ak)(hsz:x.sz<=4194304):aH prog 254 [x.v] (.c (.d (.b (formed x)))):=OX _ x (Nat.lt_succ_self _) hsz
theorem yP(x:ak)(hsz:x.sz<=4194304):aH prog 183 [x.v] (.c (.d (.b (oV x)))):=fun S=>by
 refine aD (rs:=[.tmp 2]) zmx func183 ntmps183 rfl rfl rfl rfl rfl ?_;refine W1 ?_;refine C2 (aeO x 60 (by omega) (by omega) hsz) ?_;refine S0 (fun hb h=>?_) fun hb h=>?_
 ·have h1:=(La (l:=60) (a:=x.cnt) (by omega)).2;refine C2 (Wn x hsz) ?_;refine S0 (fun hb h=>?_) fun hb h=>?_
  ·refine C2 (aeP x hsz) ?_;refine ay ?_
   cases hf:formed x with
   |false=>exact(aA fun y=>by rw[hf] at y;cases y.1).symm
   |true=>exact(aY ⟨hf,by omega,by omega⟩).symm
  ·exact ay (aA fun y=>by have:=y.2.1;omega).symm
 ·have h1:=Hu (l:=60) (a:=x.cnt) (by omega);exact ay (aA fun y=>by have:=y.2.2;omega).symm
theorem LG(x:bq)(hn:x.bD.length<=1073741824)(hsz:x.fType.sz<=4194304):aH prog 308 [x.v] (.c (.d (.b (validName x.bD&&oV x.fType)))):=fun S=>by
 refine aD (rs:=[.tmp 2]) zmx func308 ntmps308 rfl rfl rfl rfl rfl ?_;refine W1 ?_;refine C2 (iJ x.bD hn) ?_;refine S0 (fun hb h=>?_) fun hb h=>?_
 ·exact C4 (yP x.fType hsz)
 ·rfl
theorem LH(x:bq)(hn:x.bD.length<=1073741824)(hsz:x.fType.sz<=4194304):aH prog 289 [x.v] (.c (.d (.b (validName x.bD&&oV x.fType)))):=fun S=>by
 refine aD (rs:=[.tmp 2]) zmx func289 ntmps289 rfl rfl rfl rfl rfl ?_;refine W1 ?_;refine C2 (iI x.bD hn) ?_;refine S0 (fun hb h=>?_) fun hb h=>?_
 ·exact C4 (yO x.fType hsz)
 ·rfl
theorem MS(g:Nat)(xs ys:List au)(hl:xs.length<=1073741824)(hg:∀x∈xs,∀y,aH prog g [x.v,y.v] (.c (.d (.b (dec (x=y)))))):
 aH prog 332 [.c (.d (.sl (xs.map au.enc))),.c (.d (.sl (ys.map au.enc))),.c (.fn g [])] (.c (.d (.b (dec (xs=ys))))):=fun S=>by
 refine aD (rs:=[.tmp 6]) zmx func332 ntmps332 rfl rfl rfl rfl rfl ?_;refine W1 ?_;refine S0 (fun hb h=>?_) fun hb h=>?_
 ·exact ay (aA (fun e=>h (by rw[e]))).symm
 have hl':xs.length=ys.length:=by omega
 refine aU (ι:=Nat) zmx rfl [1,2,15,16,17] (fun y=>[.c (.d (.sl (ys.map au.enc))),.c (.fn g []),.c (.d (.sl (xs.map au.enc))),.c (.d (.i .i64 xs.length)),.c (.d (.i .i64 y))]) (fun y=>[]::S)
  (fun i=>i<=xs.length/\∀j,j<i->xs[j]? =ys[j]?) (fun y=>xs.length-y) 0 rfl rfl ⟨Nat.zero_le _,fun j h=>by omega⟩ ?_
 rintro i ⟨p1,p2⟩;refine W1 ?_;refine S0 (fun hb h=>?_) fun hb h=>?_
 ·have hi:i<xs.length:=by omega
  have hi':i<ys.length:=by omega
  refine W3 ?_;refine C1 (hg xs[i] (List.getElem_mem hi) ys[i]) ?_;refine S0 (fun hb h=>?_) fun hb h=>?_
  ·exact ay (aA (fun e=>h (by simp only[e]))).symm
  refine bZ 0 (by decide) (i+1) (by omega) rfl rfl rfl rfl ⟨by omega,fun j hj=> ?_⟩;by_cases e:j=i
  ·subst e;rw[List.getElem?_eq_getElem hi,List.getElem?_eq_getElem hi',h]
  ·exact p2 j (by omega)
 ·have hi:i=xs.length:=by omega
  refine ay (aY (List.ext_getElem? fun j=> ?_)).symm;by_cases hj:j<i
  ·exact p2 j hj
  ·rw[List.getElem?_eq_none (by omega),List.getElem?_eq_none (by omega)]
theorem OY(g:Nat)(xs ys:List aT)(hl:xs.length<=1073741824)(hg:∀x∈xs,∀y,aH prog g [x.v,y.v] (.c (.d (.b (dec (x=y)))))):
 aH prog 333 [.c (.d (.sl (xs.map aT.enc))),.c (.d (.sl (ys.map aT.enc))),.c (.fn g [])] (.c (.d (.b (dec (xs=ys))))):=fun S=>by
 refine aD (rs:=[.tmp 6]) zmx func333 ntmps333 rfl rfl rfl rfl rfl ?_;refine W1 ?_;refine S0 (fun hb h=>?_) fun hb h=>?_
 ·exact ay (aA (fun e=>h (by rw[e]))).symm
 have hl':xs.length=ys.length:=by omega
 refine aU (ι:=Nat) zmx rfl [1,2,15,16,17] (fun y=>[.c (.d (.sl (ys.map aT.enc))),.c (.fn g []),.c (.d (.sl (xs.map aT.enc))),.c (.d (.i .i64 xs.length)),.c (.d (.i .i64 y))]) (fun y=>[]::S)
  (fun i=>i<=xs.length/\∀j,j<i->xs[j]? =ys[j]?) (fun y=>xs.length-y) 0 rfl rfl ⟨Nat.zero_le _,fun j h=>by omega⟩ ?_
 rintro i ⟨p1,p2⟩;refine W1 ?_;refine S0 (fun hb h=>?_) fun hb h=>?_
 ·have hi:i<xs.length:=by omega
  have hi':i<ys.length:=by omega
  refine W3 ?_;refine C1 (hg xs[i] (List.getElem_mem hi) ys[i]) ?_;refine S0 (fun hb h=>?_) fun hb h=>?_
  ·exact ay (aA (fun e=>h (by simp only[e]))).symm
  refine bZ 0 (by decide) (i+1) (by omega) rfl rfl rfl rfl ⟨by omega,fun j hj=> ?_⟩;by_cases e:j=i
  ·subst e;rw[List.getElem?_eq_getElem hi,List.getElem?_eq_getElem hi',h]
  ·exact p2 j (by omega)
 ·have hi:i=xs.length:=by omega
  refine ay (aY (List.ext_getElem? fun j=> ?_)).symm;by_cases hj:j<i
  ·exact p2 j hj
  ·rw[List.getElem?_eq_none (by omega),List.getElem?_eq_none (by omega)]
theorem MU(g:Nat)(caps:List (Key×Nat))(S:Store)(xs:List ak)(p:ak->Bool)(hl:xs.length<=1073741824)(hp:∀x∈xs,qj prog g caps S [x.v] (.c (.d (.b (p x))))):
 dz prog 312 [.c (.d (.sl (xs.map ak.enc))),.c (.fn g caps)] S (fun r S'=>r=.c (.d (.i .i64 (uI p xs)))/\S'=S):=by
 refine aD (rs:=[.tmp 4]) zmx func312 ntmps312 rfl rfl rfl rfl rfl ?_;refine W1 ?_
 refine aU (ι:=Nat) zmx rfl [0,1,7,8] (fun i=>[.c (.d (.sl (xs.map ak.enc))),.c (.fn g (jQ 1 caps)),.c (.d (.i .i64 xs.length)),.c (.d (.i .i64 i))]) (fun _=>[]::S)
  (fun i=>i<=xs.length/\∀j,∀hj:j<xs.length,j<i->p xs[j]=false) (fun i=>xs.length-i) 0 rfl rfl ⟨Nat.zero_le _,fun j _ h=>by omega⟩ ?_
 rintro i ⟨p1,p2⟩;refine W1 ?_;refine S0 (fun hb h=>?_) fun hb h=>?_
 ·have hi:i<xs.length:=by omega
  refine W3 ?_;refine bg rfl (hp xs[i] (List.getElem_mem hi) [_]) ?_;refine W1 ?_;refine S0 (fun hb h=>?_) fun hb h=>?_
  ·rw[tT hi p2 h]
  ·refine bJ (i+1) (by omega) rfl rfl ⟨by omega,fun j hj hji=> ?_⟩;by_cases e:j=i
   ·subst e;exact h
   ·exact p2 j hj (by omega)
 ·rw[wO (fun j hj=>p2 j hj (by omega))]
theorem Jj(g:Nat)(caps:List (Key×Nat))(S:Store)(xs:List ak)(p:ak->Bool)(hl:xs.length<=1073741824)(hp:∀x∈xs,qj prog g caps S [x.v] (.c (.d (.b (p x))))):
 dz prog 281 [.c (.d (.sl (xs.map ak.enc))),.c (.fn g caps)] S (fun r S'=>r=.c (.d (.b (xs.any p)))/\S'=S):=by
 refine aD (rs:=[.tmp 4]) zmx func281 ntmps281 rfl rfl rfl rfl rfl ?_;refine W1 ?_;refine bg rfl (MU g (jQ 1 caps) _ xs p hl fun x hx=>(hp x hx).push _) ?_;refine W1 ?_;exact ay u7
theorem MV(g:Nat)(caps:List (Key×Nat))(S:Store)(xs:List au)(p:au->Bool)(hl:xs.length<=1073741824)(hp:∀x∈xs,qj prog g caps S [x.v] (.c (.d (.b (p x))))):
 dz prog 262 [.c (.d (.sl (xs.map au.enc))),.c (.fn g caps)] S (fun r S'=>r=.c (.d (.i .i64 (uI p xs)))/\S'=S):=by
 refine aD (rs:=[.tmp 4]) zmx func262 ntmps262 rfl rfl rfl rfl rfl ?_;refine W1 ?_
 refine aU (ι:=Nat) zmx rfl [0,1,7,8] (fun i=>[.c (.d (.sl (xs.map au.enc))),.c (.fn g (jQ 1 caps)),.c (.d (.i .i64 xs.length)),.c (.d (.i .i64 i))]) (fun _=>[]::S)
  (fun i=>i<=xs.length/\∀j,∀hj:j<xs.length,j<i->p xs[j]=false) (fun i=>xs.length-i) 0 rfl rfl ⟨Nat.zero_le _,fun j _ h=>by omega⟩ ?_
 rintro i ⟨p1,p2⟩;refine W1 ?_;refine S0 (fun hb h=>?_) fun hb h=>?_
 ·have hi:i<xs.length:=by omega
  refine W3 ?_;refine bg rfl (hp xs[i] (List.getElem_mem hi) [_]) ?_;refine W1 ?_;refine S0 (fun hb h=>?_) fun hb h=>?_
  ·rw[tT hi p2 h]
  ·refine bJ (i+1) (by omega) rfl rfl ⟨by omega,fun j hj hji=> ?_⟩;by_cases e:j=i
   ·subst e;exact h
   ·exact p2 j hj (by omega)
 ·rw[wO (fun j hj=>p2 j hj (by omega))]
theorem Jk(g:Nat)(caps:List (Key×Nat))(S:Store)(xs:List au)(p:au->Bool)(hl:xs.length<=1073741824)(hp:∀x∈xs,qj prog g caps S [x.v] (.c (.d (.b (p x))))):
 dz prog 197 [.c (.d (.sl (xs.map au.enc))),.c (.fn g caps)] S (fun r S'=>r=.c (.d (.b (xs.any p)))/\S'=S):=by
 refine aD (rs:=[.tmp 4]) zmx func197 ntmps197 rfl rfl rfl rfl rfl ?_;refine W1 ?_;refine bg rfl (MV g (jQ 1 caps) _ xs p hl fun x hx=>(hp x hx).push _) ?_;refine W1 ?_;exact ay u7
theorem OZ(g:Nat)(caps:List (Key×Nat))(S:Store)(xs:List aT)(p:aT->Bool)(hl:xs.length<=1073741824)(hp:∀x∈xs,qj prog g caps S [x.v] (.c (.d (.b (p x))))):
 dz prog 263 [.c (.d (.sl (xs.map aT.enc))),.c (.fn g caps)] S (fun r S'=>r=.c (.d (.i .i64 (uI p xs)))/\S'=S):=by
 refine aD (rs:=[.tmp 4]) zmx func263 ntmps263 rfl rfl rfl rfl rfl ?_;refine W1 ?_
 refine aU (ι:=Nat) zmx rfl [0,1,7,8] (fun i=>[.c (.d (.sl (xs.map aT.enc))),.c (.fn g (jQ 1 caps)),.c (.d (.i .i64 xs.length)),.c (.d (.i .i64 i))]) (fun _=>[]::S)
  (fun i=>i<=xs.length/\∀j,∀hj:j<xs.length,j<i->p xs[j]=false) (fun i=>xs.length-i) 0 rfl rfl ⟨Nat.zero_le _,fun j _ h=>by omega⟩ ?_
 rintro i ⟨p1,p2⟩;refine W1 ?_;refine S0 (fun hb h=>?_) fun hb h=>?_
 ·have hi:i<xs.length:=by omega
  refine W3 ?_;refine bg rfl (hp xs[i] (List.getElem_mem hi) [_]) ?_;refine W1 ?_;refine S0 (fun hb h=>?_) fun hb h=>?_
  ·rw[tT hi p2 h]
  ·refine bJ (i+1) (by omega) rfl rfl ⟨by omega,fun j hj hji=> ?_⟩;by_cases e:j=i
   ·subst e;exact h
   ·exact p2 j hj (by omega)
 ·rw[wO (fun j hj=>p2 j hj (by omega))]
theorem JV(g:Nat)(caps:List (Key×Nat))(S:Store)(xs:List aT)(p:aT->Bool)(hl:xs.length<=1073741824)(hp:∀x∈xs,qj prog g caps S [x.v] (.c (.d (.b (p x))))):
 dz prog 199 [.c (.d (.sl (xs.map aT.enc))),.c (.fn g caps)] S (fun r S'=>r=.c (.d (.b (xs.any p)))/\S'=S):=by
 refine aD (rs:=[.tmp 4]) zmx func199 ntmps199 rfl rfl rfl rfl rfl ?_;refine W1 ?_;refine bg rfl (OZ g (jQ 1 caps) _ xs p hl fun x hx=>(hp x hx).push _) ?_;refine W1 ?_;exact ay u7
theorem LJ(g:Nat)(caps:List (Key×Nat))(S:Store)(xs:List bq)(p:bq->Bool)(hl:xs.length<=1073741824)(hp:∀x∈xs,qj prog g caps S [x.v] (.c (.d (.b (p x))))):
 dz prog 314 [.c (.d (.sl (xs.map bq.enc))),.c (.fn g caps)] S (fun r S'=>r=.c (.d (.i .i64 (uI p xs)))/\S'=S):=by
 refine aD (rs:=[.tmp 4]) zmx func314 ntmps314 rfl rfl rfl rfl rfl ?_;refine W1 ?_
 refine aU (ι:=Nat) zmx rfl [0,1,7,8] (fun i=>[.c (.d (.sl (xs.map bq.enc))),.c (.fn g (jQ 1 caps)),.c (.d (.i .i64 xs.length)),.c (.d (.i .i64 i))]) (fun _=>[]::S)
  (fun i=>i<=xs.length/\∀j,∀hj:j<xs.length,j<i->p xs[j]=false) (fun i=>xs.length-i) 0 rfl rfl ⟨Nat.zero_le _,fun j _ h=>by omega⟩ ?_
 rintro i ⟨p1,p2⟩;refine W1 ?_;refine S0 (fun hb h=>?_) fun hb h=>?_
 ·have hi:i<xs.length:=by omega
  refine W3 ?_;refine bg rfl (hp xs[i] (List.getElem_mem hi) [_]) ?_;refine W1 ?_;refine S0 (fun hb h=>?_) fun hb h=>?_
  ·rw[tT hi p2 h]
  ·refine bJ (i+1) (by omega) rfl rfl ⟨by omega,fun j hj hji=> ?_⟩;by_cases e:j=i
   ·subst e;exact h
   ·exact p2 j hj (by omega)
 ·rw[wO (fun j hj=>p2 j hj (by omega))]
theorem HY(g:Nat)(caps:List (Key×Nat))(S:Store)(xs:List bq)(p:bq->Bool)(hl:xs.length<=1073741824)(hp:∀x∈xs,qj prog g caps S [x.v] (.c (.d (.b (p x))))):
 dz prog 287 [.c (.d (.sl (xs.map bq.enc))),.c (.fn g caps)] S (fun r S'=>r=.c (.d (.b (xs.any p)))/\S'=S):=by
 refine aD (rs:=[.tmp 4]) zmx func287 ntmps287 rfl rfl rfl rfl rfl ?_;refine W1 ?_;refine bg rfl (LJ g (jQ 1 caps) _ xs p hl fun x hx=>(hp x hx).push _) ?_;refine W1 ?_;exact ay u7
theorem JW(g:Nat)(caps:List (Key×Nat))(S:Store)(xs:List (List UInt8))(p:(List UInt8)->Bool)(hl:xs.length<=1073741824)(hp:∀x∈xs,qj prog g caps S [.c (.d (.s x))] (.c (.d (.b (p x))))):
 dz prog 279 [.c (.d (.sl (xs.map encS))),.c (.fn g caps)] S (fun r S'=>r=.c (.d (.i .i64 (uI p xs)))/\S'=S):=by
 refine aD (rs:=[.tmp 4]) zmx func279 ntmps279 rfl rfl rfl rfl rfl ?_;simp -implicitDefEqProofs (disch:=omega) only[go_sem,encS]
 refine aU (ι:=Nat) zmx rfl [0,1,7,8] (fun i=>[.c (.d (.sl (xs.map encS))),.c (.fn g (jQ 1 caps)),.c (.d (.i .i64 xs.length)),.c (.d (.i .i64 i))]) (fun _=>[]::S)
  (fun i=>i<=xs.length/\∀j,∀hj:j<xs.length,j<i->p xs[j]=false) (fun i=>xs.length-i) 0 rfl rfl ⟨Nat.zero_le _,fun j _ h=>by omega⟩ ?_
 rintro i ⟨p1,p2⟩;simp -implicitDefEqProofs (disch:=omega) only[go_sem,encS]
 with_reducible refine dM (fun hb=> ?_) (fun hb=> ?_)<;>have h:=hb<;>(try simp only[wf_preprocess] at h)<;>simp -implicitDefEqProofs (disch:=omega) only[go_sem,hb,encS]<;>refine W3 ?_
 ·have hi:i<xs.length:=by omega
  refine W3 ?_;refine bg rfl (hp xs[i] (List.getElem_mem hi) [_]) ?_;simp -implicitDefEqProofs (disch:=omega) only[go_sem,encS]
  with_reducible refine dM (fun hb=> ?_) (fun hb=> ?_)<;>have h:=hb<;>(try simp only[wf_preprocess] at h)<;>simp -implicitDefEqProofs (disch:=omega) only[go_sem,hb,encS]<;>refine W3 ?_
  ·rw[tT hi p2 h]
  ·refine bJ (i+1) (by omega) rfl rfl ⟨by omega,fun j hj hji=> ?_⟩;by_cases e:j=i
   ·subst e;exact h
   ·exact p2 j hj (by omega)
 ·rw[wO (fun j hj=>p2 j hj (by omega))]
theorem za(g:Nat)(caps:List (Key×Nat))(S:Store)(xs:List (List UInt8))(p:(List UInt8)->Bool)(hl:xs.length<=1073741824)(hp:∀x∈xs,qj prog g caps S [.c (.d (.s x))] (.c (.d (.b (p x))))):
 dz prog 226 [.c (.d (.sl (xs.map encS))),.c (.fn g caps)] S (fun r S'=>r=.c (.d (.b (xs.any p)))/\S'=S):=by
 refine aD (rs:=[.tmp 4]) zmx func226 ntmps226 rfl rfl rfl rfl rfl ?_;simp -implicitDefEqProofs (disch:=omega) only[go_sem,encS];refine bg rfl (JW g (jQ 1 caps) _ xs p hl fun x hx=>(hp x hx).push _) ?_;simp -implicitDefEqProofs (disch:=omega) only[go_sem,encS];exact ay u7
theorem aeQ(xs ys:List (List UInt8))(hl:xs.length<=1073741824):aH prog 335 [.c (.d (.sl (xs.map encS))),.c (.d (.sl (ys.map encS)))] (.c (.d (.b (dec (xs=ys))))):=fun S=>by
 refine aD (rs:=[.tmp 4]) zmx func335 ntmps335 rfl rfl rfl rfl rfl ?_;simp -implicitDefEqProofs (disch:=omega) only[go_sem,encS]
 with_reducible refine dM (fun hb=> ?_) (fun hb=> ?_)<;>have h:=hb<;>(try simp only[wf_preprocess] at h)<;>simp -implicitDefEqProofs (disch:=omega) only[go_sem,hb,encS]<;>refine W3 ?_
 ·exact ay (aA (fun e=>h (by rw[e]))).symm
 have hl':xs.length=ys.length:=by omega
 refine aU (ι:=Nat) zmx rfl [0,1,12,13] (fun i=>[.c (.d (.sl (xs.map encS))),.c (.d (.sl (ys.map encS))),.c (.d (.i .i64 xs.length)),.c (.d (.i .i64 i))]) (fun _=>[]::S)
  (fun i=>i<=xs.length/\∀j,j<i->xs[j]? =ys[j]?) (fun y=>xs.length-y) 0 rfl rfl ⟨Nat.zero_le _,fun j h=>by omega⟩ ?_
 rintro i ⟨p1,p2⟩;simp -implicitDefEqProofs (disch:=omega) only[go_sem,encS]
 with_reducible refine dM (fun hb=> ?_) (fun hb=> ?_)<;>have h:=hb<;>(try simp only[wf_preprocess] at h)<;>simp -implicitDefEqProofs (disch:=omega) only[go_sem,hb,encS]<;>refine W3 ?_
 ·have hi:i<xs.length:=by omega
  have hi':i<ys.length:=by omega
  refine W3 ?_
  with_reducible refine dM (fun hb=> ?_) (fun hb=> ?_)<;>have h:=hb<;>(try simp only[wf_preprocess] at h)<;>simp -implicitDefEqProofs (disch:=omega) only[go_sem,hb,encS]<;>refine W3 ?_
  ·exact ay (aA (fun e=>h (by simp only[e]))).symm
  refine bJ (i+1) (by omega) rfl rfl ⟨by omega,fun j hj=> ?_⟩;by_cases e:j=i
  ·subst e;rw[List.getElem?_eq_getElem hi,List.getElem?_eq_getElem hi',h]
  ·exact p2 j (by omega)
 ·have hi:i=xs.length:=by omega
  refine ay (aY (List.ext_getElem? fun j=> ?_)).symm;by_cases hj:j<i
  ·exact p2 j hj
  ·rw[List.getElem?_eq_none (by omega),List.getElem?_eq_none (by omega)]
theorem YT(xs ys:List (List UInt8))(hl:xs.length<=1073741824):aH prog 348 [.c (.d (.sl (xs.map encS))),.c (.d (.sl (ys.map encS)))] (.c (.d (.b (dec (xs=ys))))):=fun S=>by
 refine aD (rs:=[.tmp 4]) zmx func348 ntmps348 rfl rfl rfl rfl rfl ?_;simp -implicitDefEqProofs (disch:=omega) only[go_sem,encS]
 with_reducible refine dM (fun hb=> ?_) (fun hb=> ?_)<;>have h:=hb<;>(try simp only[wf_preprocess] at h)<;>simp -implicitDefEqProofs (disch:=omega) only[go_sem,hb,encS]<;>refine W3 ?_
 ·exact ay (aA (fun e=>h (by rw[e]))).symm
 have hl':xs.length=ys.length:=by omega
 refine aU (ι:=Nat) zmx rfl [0,1,5] (fun i=>[.c (.d (.sl (xs.map encS))),.c (.d (.sl (ys.map encS))),.c (.d (.i .i64 i))]) (fun _=>[]::S)
  (fun i=>i<=xs.length/\∀j,j<i->xs[j]? =ys[j]?) (fun y=>xs.length-y) 0 rfl rfl ⟨Nat.zero_le _,fun j h=>by omega⟩ ?_
 rintro i ⟨p1,p2⟩;simp -implicitDefEqProofs (disch:=omega) only[go_sem,encS]
 with_reducible refine dM (fun hb=> ?_) (fun hb=> ?_)<;>have h:=hb<;>(try simp only[wf_preprocess] at h)<;>simp -implicitDefEqProofs (disch:=omega) only[go_sem,hb,encS]<;>refine W3 ?_
 ·have hi:i<xs.length:=by omega
  have hi':i<ys.length:=by omega
  refine W3 ?_
  with_reducible refine dM (fun hb=> ?_) (fun hb=> ?_)<;>have h:=hb<;>(try simp only[wf_preprocess] at h)<;>simp -implicitDefEqProofs (disch:=omega) only[go_sem,hb,encS]<;>refine W3 ?_
  ·exact ay (aA (fun e=>h (by simp only[e]))).symm
  refine bJ (i+1) (by omega) rfl rfl ⟨by omega,fun j hj=> ?_⟩;by_cases e:j=i
  ·subst e;rw[List.getElem?_eq_getElem hi,List.getElem?_eq_getElem hi',h]
  ·exact p2 j (by omega)
 ·have hi:i=xs.length:=by omega
  refine ay (aY (List.ext_getElem? fun j=> ?_)).symm;by_cases hj:j<i
  ·exact p2 j hj
  ·rw[List.getElem?_eq_none (by omega),List.getElem?_eq_none (by omega)]
theorem tq{s:List UInt8}{xs:List (List UInt8)}(h:s∈xs):s.length<=bn (xs.map encS):=by
 have:=dD (List.mem_map_of_mem (f:=encS) h);simpa [encS,bT,D.sz] using this
noncomputable def iP(xs:List (List UInt8)):Bool:=dec xs.Nodup&&xs.all validName
noncomputable def among(xs ys:List (List UInt8)):Bool:=xs.all fun s=>dec (s∈ys)
noncomputable def iq(vars:List (List UInt8))(t:ak):Bool:=oV t&&among (jG [] t) vars
noncomputable def mG(vars:List (List UInt8))(ts:List ak):Bool:=ts.all (iq vars)
theorem ahT{s l:List UInt8}{m:List (List UInt8)}:s∈Jv l m<->s=l\/s∈m:=by
 unfold Jv;split
 ·rename_i h;exact⟨.inr,fun x=>x.elim (fun e=>e▸h) id⟩
 ·rw[List.mem_append,List.mem_singleton];exact Or.comm
theorem iV{α:Type}{xs:List α}{i:Nat}(hi:i<xs.length):xs.take (i+1)=xs.take i++[xs[i]]:=List.take_succ_eq_append_getElem hi
theorem H6{α:Type}{xs:List α}{x:α}:(xs++[x]).Nodup<->xs.Nodup/\x∉xs:=by
 rw[List.nodup_append];constructor
 ·rintro⟨h1,_,h3⟩;exact⟨h1,fun hx=>h3 x hx x (by simp) rfl⟩
 ·rintro⟨h1,h2⟩;exact⟨h1,by simp,fun a ha b hb e=>by simp at hb;subst hb;exact h2 (e▸ha)⟩
theorem Sl{α:Type}{xs:List α}{i:Nat}(hi:i<xs.length)(h:xs[i]∈xs.take i):¬xs.Nodup:=fun hn=>by
 have h1:(xs.take (i+1)).Nodup:=hn.sublist (List.take_sublist _ _);rw[iV hi] at h1;exact(H6.1 h1).2 h
theorem qR(xs:List (List UInt8))(hl:xs.length<=1073741824):aH prog 225 [.c (.d (.sl (xs.map encS)))] (.c (.d (.b (dec xs.Nodup)))):=fun S=>by
 refine aD (rs:=[.tmp 2]) zmx func225 ntmps225 rfl rfl rfl rfl rfl ?_;simp -implicitDefEqProofs (disch:=omega) only[go_sem,encS];refine W3 ?_
 refine aU (ι:=Nat×List (List UInt8)) zmx rfl [3,7,8,9] (fun y=>[.c (.mp (0,0)),.c (.d (.sl (xs.map encS))),.c (.d (.i .i64 xs.length)),.c (.d (.i .i64 y.1))]) (fun y=>[.mp y.2]::S)
  (fun y=>y.1<=xs.length/\(∀s,s∈y.2<->s∈xs.take y.1)/\(xs.take y.1).Nodup) (fun y=>xs.length-y.1) (0,[]) rfl rfl ⟨Nat.zero_le _,fun s=>by simp,by simp⟩ ?_
 rintro⟨i,m⟩ ⟨p1,p2,p3⟩;simp only at p1 p2 p3;simp -implicitDefEqProofs (disch:=omega) only[go_sem,encS]
 with_reducible refine dM (fun hb=> ?_) (fun hb=> ?_)<;>have h:=hb<;>(try simp only[wf_preprocess] at h)<;>simp -implicitDefEqProofs (disch:=omega) only[go_sem,hb,encS]<;>refine W3 ?_
 ·have hi:i<xs.length:=by omega
  refine W3 ?_
  with_reducible refine dM (fun hb=> ?_) (fun hb=> ?_)<;>have h:=hb<;>(try simp only[wf_preprocess] at h)<;>simp -implicitDefEqProofs (disch:=omega) only[go_sem,hb,encS]<;>refine W3 ?_
  ·exact ay (aA (Sl hi ((p2 _).1 h))).symm
  ·refine bJ (i+1,Jv xs[i] m) (by simp only;omega) rfl rfl ⟨by simp only;omega,fun s=> ?_,?_⟩
   ·simp only
    rw[ahT,iV hi,List.mem_append,List.mem_singleton,p2];exact Or.comm
   ·simp only
    rw[iV hi,H6];exact⟨p3,fun hx=>h ((p2 _).2 hx)⟩
 ·rw[List.take_of_length_le (by omega)] at p3;exact ay (aY p3).symm
theorem qU(xs:List (List UInt8))(hl:xs.length<=1073741824):aH prog 151 [.c (.d (.sl (xs.map encS)))] (.c (.d (.b (dec xs.Nodup)))):=fun S=>by
 refine aD (rs:=[.tmp 2]) zmx func151 ntmps151 rfl rfl rfl rfl rfl ?_;simp -implicitDefEqProofs (disch:=omega) only[go_sem,encS]
 refine aU (ι:=Nat) zmx rfl [0,3] (fun i=>[.c (.d (.sl (xs.map encS))),.c (.d (.i .i64 i))]) (fun _=>[]::S)
  (fun i=>i<=xs.length/\(xs.take i).Nodup) (fun i=>xs.length-i) 0 rfl rfl ⟨Nat.zero_le _,by simp⟩ ?_
 rintro i ⟨p1,p3⟩;simp -implicitDefEqProofs (disch:=omega) only[go_sem,encS]
 with_reducible refine dM (fun hb=> ?_) (fun hb=> ?_)<;>have h:=hb<;>(try simp only[wf_preprocess] at h)<;>simp -implicitDefEqProofs (disch:=omega) only[go_sem,hb,encS]<;>refine W3 ?_
 ·have hi:i<xs.length:=by omega
  have hc:∀y∈xs.map encS,y.length=1:=fun y hy=>by
   obtain⟨s,_,rfl⟩:=List.mem_map.1 hy;rfl
  have e:(xs.map encS).take i=(xs.take i).map encS:=List.map_take.symm;refine And.intro ⟨by omega,by omega,hc⟩ ?_;refine W3 ?_;simp -implicitDefEqProofs (disch:=omega) only[go_sem,Int.toNat_zero,e];refine C2 (su (xs.take i) xs[i] (by simp;omega)) ?_;refine S0 (fun hb h=>?_) fun hb h=>?_
  ·exact ay (aA (Sl hi h)).symm
  ·refine bJ (i+1) (by omega) rfl rfl ⟨by omega,?_⟩;rw[iV hi,H6];exact⟨p3,h⟩
 ·rw[List.take_of_length_le (by omega)] at p3;exact ay (aY p3).symm
theorem O0(xs:List (List UInt8))(hl:xs.length<=1073741824)(hs:∀s∈xs,s.length<=4194304):aH prog 185 [.c (.d (.sl (xs.map encS)))] (.c (.d (.b (xs.all validName)))):=fun S=>by
 refine aD (rs:=[.tmp 2]) zmx func185 ntmps185 rfl rfl rfl rfl rfl ?_;simp -implicitDefEqProofs (disch:=omega) only[go_sem,encS]
 refine aU (ι:=Nat) zmx rfl [0,3] (fun i=>[.c (.d (.sl (xs.map encS))),.c (.d (.i .i64 i))]) (fun _=>[]::S)
  (fun i=>i<=xs.length/\(xs.drop i).all validName=xs.all validName) (fun i=>xs.length-i) 0 rfl rfl ⟨Nat.zero_le _,rfl⟩ ?_
 rintro i ⟨p1,p2⟩;simp -implicitDefEqProofs (disch:=omega) only[go_sem,encS]
 with_reducible refine dM (fun hb=> ?_) (fun hb=> ?_)<;>have h:=hb<;>(try simp only[wf_preprocess] at h)<;>simp -implicitDefEqProofs (disch:=omega) only[go_sem,hb,encS]<;>refine W3 ?_
 ·have hi:i<xs.length:=by omega
  have hz:=hs _ (List.getElem_mem hi);rw[List.drop_eq_getElem_cons hi,List.all_cons] at p2;refine W3 ?_;refine C2 (iJ xs[i] (by omega)) ?_;refine S0 (fun hb h=>?_) fun hb h=>?_
  ·rw[<-p2,h];rfl
  ·exact bJ (i+1) (by omega) rfl rfl ⟨by omega,by rw[<-p2,h];rfl⟩
 ·rw[List.drop_of_length_le (by omega)] at p2;rw[<-p2];rfl
theorem qm(xs:List (List UInt8))(hl:xs.length<=1073741824)(hs:∀s∈xs,s.length<=4194304):aH prog 158 [.c (.d (.sl (xs.map encS)))] (.c (.d (.b (iP xs)))):=fun S=>by
 have hcl:∀s∈xs,aH prog 227 [.c (.d (.s s))] (.c (.d (.b (!validName s)))):=fun s hx S=>by
  have:=hs s hx;refine aD (rs:=[.tmp 2]) zmx func227 ntmps227 rfl rfl rfl rfl rfl ?_;refine W1 ?_;exact C4 (iI s (by omega))
 have ha:(xs.any fun s=> !validName s)= !xs.all validName:=by rw[List.not_all_eq_any_not]
 refine aD (rs:=[.tmp 2]) zmx func158 ntmps158 rfl rfl rfl rfl rfl ?_;refine W1 ?_;refine C2 (qR xs hl) ?_;refine S0 (fun hb h=>?_) fun hb h=>?_
 ·refine bg rfl (za 227 [] _ xs (fun s=> !validName s) hl fun s hx=>qj.QL (hcl s hx)) ?_;refine W1 ?_;rw[ha];exact ay (by unfold iP;rw[hb];simp)
 ·exact ay (by unfold iP;rw[hb];rfl)
theorem Bo(xs ys:List (List UInt8))(hl:xs.length<=1073741824)(hl':ys.length<=1073741824):aH prog 234 [.c (.d (.sl (xs.map encS))),.c (.d (.sl (ys.map encS)))] (.c (.d (.b (among xs ys)))):=fun S=>by
 have ha:(xs.any fun s=> !dec (s∈ys))= !among xs ys:=by unfold among;rw[List.not_all_eq_any_not]
 have hcl:∀(rest:List Ab.Obj)(s:List UInt8),qj prog 285 [((0,0),0)] ((.box [.d (.sl (ys.map encS))]::rest)::S) [.c (.d (.s s))] (.c (.d (.b (!dec (s∈ys))))):=fun rest s F=>by
  refine aD (rs:=[.tmp 3]) zmx func285 ntmps285 rfl rfl rfl rfl rfl ?_;refine W1 ?_;exact C4 (sw ys s hl')
 refine aD (rs:=[.tmp 4]) zmx func234 ntmps234 rfl rfl rfl rfl rfl ?_;refine W1 ?_;refine bg rfl (za 285 [((0,0),0)] _ xs (fun s=> !dec (s∈ys)) hl fun s hx=>hcl [] s) ?_;refine W1 ?_;rw[ha];exact ay (by simp)
theorem vH(t:ak)(vars:List (List UInt8))(hsz:t.sz<=4194304)(hv:vars.length<=1073741824):aH prog 232 [t.v,.c (.d (.sl (vars.map encS)))] (.c (.d (.b (iq vars t)))):=fun S=>by
 have h1:=BS t [];have h2:=mZ t;refine aD (rs:=[.tmp 4]) zmx func232 ntmps232 rfl rfl rfl rfl rfl ?_;refine W1 ?_;refine C2 (yO t hsz) ?_;refine S0 (fun hb h=>?_) fun hb h=>?_
 ·refine C2 (zT t hsz) ?_;refine C2 (Bo (jG [] t) vars (by simp at h1;omega) hv) ?_;exact ay (by unfold iq;rw[hb];rfl)
 ·exact ay (by unfold iq;rw[hb];rfl)
theorem zU(ts:List ak)(vars:List (List UInt8))(hl:ts.length<=1073741824)(hsz:∀t∈ts,t.sz<=4194304)(hv:vars.length<=1073741824):aH prog 231 [.c (.d (.sl (ts.map ak.enc))),.c (.d (.sl (vars.map encS)))] (.c (.d (.b (mG vars ts)))):=fun S=>by
 have ha:(ts.any fun t=> !iq vars t)= !mG vars ts:=by unfold mG;rw[List.not_all_eq_any_not]
 have hcl:∀(rest:List Ab.Obj)(t:ak),t.sz<=4194304->qj prog 282 [((0,0),0)] ((.box [.d (.sl (vars.map encS))]::rest)::S) [t.v] (.c (.d (.b (!iq vars t)))):=fun rest t ht F=>by
  refine aD (rs:=[.tmp 3]) zmx func282 ntmps282 rfl rfl rfl rfl rfl ?_;refine W1 ?_;exact C4 (vH t vars ht hv)
 refine aD (rs:=[.tmp 4]) zmx func231 ntmps231 rfl rfl rfl rfl rfl ?_;refine W1 ?_;refine bg rfl (Jj 282 [((0,0),0)] _ ts (fun t=> !iq vars t) hl fun t hx=>hcl [] t (hsz t hx)) ?_;refine W1 ?_;rw[ha];exact ay (by simp)
theorem ng(xs:List (List UInt8))(most:Int)(hl:xs.length<=1073741824)(hs:∀s∈xs,s.length<=4194304):aH prog 149 [.c (.d (.sl (xs.map encS))),.c (.d (.i .i64 most))] (.c (.d (.b (dec ((xs.length:Int)<=most)&&iP xs)))):=fun S=>by
 refine aD (rs:=[.tmp 4]) zmx func149 ntmps149 rfl rfl rfl rfl rfl ?_;refine W1 ?_;refine S0 (fun hb h=>?_) fun hb h=>?_
 ·have h1:=h;refine C2 (O0 xs hl hs) ?_;refine S0 (fun hb h=>?_) fun hb h=>?_
  ·refine C2 (qU xs hl) ?_;exact ay (by rw[aY h1];unfold iP;rw[hb];simp)
  ·exact ay (by rw[aY h1];unfold iP;rw[hb];simp)
 ·exact ay (by rw[aA h];rfl)
theorem vg(t:ak)(vars:List (List UInt8))(hsz:t.sz<=4194304)(hv:vars.length<=1073741824):aH prog 271 [t.v,.c (.d (.sl (vars.map encS)))] (.c (.d (.b (iq vars t)))):=fun S=>by
 have h1:=BS t [];have h2:=mZ t
 have hlen:(jG [] t).length<=1073741824:=by simp at h1;omega
 refine aD (rs:=[.tmp 4]) zmx func271 ntmps271 rfl rfl rfl rfl rfl ?_;refine W1 ?_;refine C2 (OV t hsz) ?_;generalize hxs:jG [] t=xs at hlen
 refine aU (ι:=Nat) zmx rfl [1,2,5,6] (fun i=>[.c (.d (.sl (vars.map encS))),.c (.ptr (0,0) 0),.c (.d (.sl (xs.map encS))),.c (.d (.i .i64 i))]) (fun _=>[.box [.d (.i .i64 t.aJ),.d (.s t.fName),.d (.sl (t.fArgs.map ak.enc))]]::S)
  (fun i=>i<=xs.length/\among (xs.drop i) vars=among xs vars) (fun i=>xs.length-i) 0 rfl rfl ⟨Nat.zero_le _,rfl⟩ ?_
 rintro i ⟨p1,p2⟩;simp -implicitDefEqProofs (disch:=omega) only[go_sem,encS]
 with_reducible refine dM (fun hb=> ?_) (fun hb=> ?_)<;>have h:=hb<;>(try simp only[wf_preprocess] at h)<;>simp -implicitDefEqProofs (disch:=omega) only[go_sem,hb,encS]<;>refine W3 ?_
 ·have hi:i<xs.length:=by omega
  rw[List.drop_eq_getElem_cons hi] at p2;have p3:among xs vars=(dec (xs[i]∈vars)&&among (xs.drop (i+1)) vars):=p2.symm;refine W3 ?_;refine C2 (su vars xs[i] hv) ?_;refine S0 (fun hb h=>?_) fun hb h=>?_
  ·exact ay (by unfold iq;rw[hxs,p3,aA h];simp)
  ·exact bJ (i+1) (by omega) rfl rfl ⟨by omega,by rw[p3,aY h];rfl⟩
 ·rw[List.drop_of_length_le (by omega)] at p2;have p3:among xs vars=true:=p2.symm;refine W3 ?_;refine C2 (yP t hsz) ?_;exact ay (by unfold iq;rw[hxs,p3];simp)
theorem Sm(ts:List ak)(vars:List (List UInt8))(hl:ts.length<=1073741824)(hsz:∀t∈ts,t.sz<=4194304)(hv:vars.length<=1073741824):aH prog 270 [.c (.d (.sl (ts.map ak.enc))),.c (.d (.sl (vars.map encS)))] (.c (.d (.b (mG vars ts)))):=fun S=>by
 refine aD (rs:=[.tmp 4]) zmx func270 ntmps270 rfl rfl rfl rfl rfl ?_;refine W1 ?_
 refine aU (ι:=Nat) zmx rfl [0,1,5] (fun i=>[.c (.d (.sl (ts.map ak.enc))),.c (.d (.sl (vars.map encS))),.c (.d (.i .i64 i))]) (fun _=>[]::S)
  (fun i=>i<=ts.length/\mG vars (ts.drop i)=mG vars ts) (fun i=>ts.length-i) 0 rfl rfl ⟨Nat.zero_le _,rfl⟩ ?_
 rintro i ⟨p1,p2⟩;refine W1 ?_;refine S0 (fun hb h=>?_) fun hb h=>?_
 ·have hi:i<ts.length:=by omega
  rw[List.drop_eq_getElem_cons hi] at p2;have p3:mG vars ts=(iq vars ts[i]&&mG vars (ts.drop (i+1))):=p2.symm;refine W3 ?_;refine C2 (vg ts[i] vars (hsz _ (List.getElem_mem hi)) hv) ?_;refine S0 (fun hb h=>?_) fun hb h=>?_
  ·rw[p3,h];rfl
  ·exact bJ (i+1) (by omega) rfl rfl ⟨by omega,by rw[p3,h];rfl⟩
 ·rw[List.drop_of_length_le (by omega)] at p2;rw[<-p2];rfl
def Gf(n:Nat):Key->Key
 |(0,j)=>(0,n+j)
 |(l+1,j)=>(l,j)
def C.mg(n:Nat):C->C
 | .d x=>.d x
 | .any=>.any
 | .bN k es=>.bN (Gf n k) es
 | .bG es=>.bG es
 | .ptr k off=>.ptr (Gf n k) off
 | .nX cs=>.nX cs
 | .oq k i off=>.oq (Gf n k) i off
 | .mE k=>.mE (Gf n k)
 | .fn f caps=>.fn f (caps.map fun x=>(Gf n x.1,x.2))
 | .mp k=>.mp (Gf n k)
 | .lU m es=>.lU m es
 | .xp k r p=>.xp (Gf n k) r p
 | .xq k r p z i off=>.xq (Gf n k) r p z i off
def V.mg(n:Nat):V->V
 | .c x=>.c (x.mg n)
 | .agg cs=>.agg (cs.map (C.mg n))
 | .dQ xs=>.dQ (xs.map fun y=>(y.1,y.2.map (C.mg n)))
 | .any=>.any
def Obj.mg(n:Nat):Obj->Obj
 | .box cs=>.box (cs.map (C.mg n))
 |o=>o
section
variable {P:Program} {w:World} {σ:Nat->Nat} {own bU:List Obj} {Ω:Store} {bo tu:List Value} {bΩ:Hs}
theorem QT{n:Nat}{o:Obj}{h:Value}{b:Nat}:owns (o.mg n) h b<->owns o h b:=by
 cases o with
 |box cs=>
  cases h with
  |pointer a=>cases a<;>exact Iff.rfl
  |_=>exact Iff.rfl
 |_=>exact Iff.rfl
theorem ES{k:Key}{o:Obj}(h:bF (own::bU::Ω) k=some o):
 bF ((bU++own.map (Obj.mg bU.length))::Ω) (Gf bU.length k)=some (if k.1=0 then o.mg bU.length else o):=by
 obtain⟨l,j⟩:=k
 cases l with
 |zero=>
  rw[bV] at h;show bF _ (0,bU.length+j)=_;rw[bV,List.getElem?_append_right (by omega),show bU.length+j-bU.length=j by omega,List.getElem?_map,h];rfl
 |succ l=>
  rw[dw] at h;show bF _ (l,j)=some o
  cases l with
  |zero=>
   rw[bV] at h ⊢;rw[List.getElem?_append_left (List.getElem?_eq_some_iff.1 h).1];exact h
  |succ l=>rw[dw] at h ⊢;exact h
theorem ET(hl:tu.length=bU.length){k:Key}{h:Value}(e:bF (bo::tu::bΩ) k=some h):bF ((tu++bo)::bΩ) (Gf bU.length k)=some h:=by
 obtain⟨l,j⟩:=k
 cases l with
 |zero=>
  rw[bV] at e;show bF _ (0,bU.length+j)=_;rw[bV,List.getElem?_append_right (by omega),show bU.length+j-tu.length=j by omega,e]
 |succ l=>
  rw[dw] at e;show bF _ (l,j)=some h
  cases l with
  |zero=>
   rw[bV] at e ⊢;rw[List.getElem?_append_left (List.getElem?_eq_some_iff.1 e).1];exact e
  |succ l=>rw[dw] at e ⊢;exact e
theorem Le(hl:tu.length=bU.length)(hlo:bo.length=own.length){k:Key}{o:Obj}(h:bF ((bU++own.map (Obj.mg bU.length))::Ω) k=some o):
 ∃k0 o0,Gf bU.length k0=k/\bF (own::bU::Ω) k0=some o0/\o=(if k0.1=0 then o0.mg bU.length else o0)/\bF ((tu++bo)::bΩ) k=bF (bo::tu::bΩ) k0:=by
 obtain⟨l,j⟩:=k
 cases l with
 |zero=>
  rw[bV] at h;by_cases hj:j<bU.length
  ·rw[List.getElem?_append_left hj] at h;refine⟨(1,j),o,rfl,by rw[dw,bV];exact h,rfl,?_⟩;rw[bV,dw,bV,List.getElem?_append_left (by omega)]
  ·rw[List.getElem?_append_right (by omega),List.getElem?_map] at h
   cases hx:own[j-bU.length]? with
   |none=>rw[hx] at h;cases h
   |some x=>
    rw[hx] at h;cases h;refine⟨(0,j-bU.length),x,?_,by rw[bV];exact hx,rfl,?_⟩
    ·show(0,bU.length+(j-bU.length))=(0,j);rw[show bU.length+(j-bU.length)=j by omega]
    ·rw[bV,bV,List.getElem?_append_right (by omega),hl]
 |succ l=>
  rw[dw] at h;exact⟨(l+2,j),o,rfl,by rw[dw,dw];exact h,rfl,by rw[dw,dw,dw]⟩
theorem ze{n:Nat}{k:Key}{o:Obj}:(∀aX es,uT (if k.1=0 then o.mg n else o) aX es->uT o aX es)/\(∀aX es,(if k.1=0 then o.mg n else o)=.gH aX es->o=.gH aX es)/\
 (∀m,(if k.1=0 then o.mg n else o)=.mp m->o=.mp m)/\(∀cs,(if k.1=0 then o.mg n else o)=.box cs->∃cs',o=.box cs')/\(∀rs,(if k.1=0 then o.mg n else o)=.xf rs->o=.xf rs):=by
 by_cases e:k.1=0
 ·simp only[if_pos e];cases o<;>simp[Obj.mg,uT]
 ·simp only[if_neg e];exact⟨fun _ _ h=>h,fun _ _ h=>h,fun _ h=>h,fun cs h=>⟨cs,h⟩,fun _ h=>h⟩
theorem ahU(hl:tu.length=bU.length){c:C}{v:Value}(h:jD w σ (own::bU::Ω) (bo::tu::bΩ) c v):
 jD w σ ((bU++own.map (Obj.mg bU.length))::Ω) ((tu++bo)::bΩ) (c.mg bU.length) v:=by
 cases c with
 |d x=>exact h
 |any=>exact trivial
 |bG es=>exact h
 |nX cs=>exact h
 |lU m es=>exact h
 |xp k r p=>
  obtain⟨o,ho,h2⟩:=h;refine⟨_,ES ho,fun rs e=> ?_⟩;obtain⟨hh,q1,q2⟩:=h2 rs (ze.2.2.2.2 _ e);exact⟨hh,ET hl q1,q2⟩
 |xq k r p z i off=>
  obtain⟨o,ho,h2⟩:=h;refine⟨_,ES ho,fun rs e=> ?_⟩;obtain⟨hh,b,a,n,cap,q1,q2⟩:=h2 rs (ze.2.2.2.2 _ e);exact⟨hh,b,a,n,cap,ET hl q1,q2⟩
 |bN k es=>
  obtain⟨h1,o,ho,h2⟩:=h;refine⟨h1,_,ES ho,fun aX es' e=> ?_⟩;obtain⟨q1,q2⟩:=h2 aX es' (ze.1 _ _ e);exact⟨q1,fun e'=>ET hl (q2 e')⟩
 |ptr k off=>
  obtain⟨o,ho,h2⟩:=h;refine⟨_,ES ho,fun cs e=> ?_⟩;obtain⟨cs',e'⟩:=ze.2.2.2.1 _ e;obtain⟨b,q1,q2⟩:=h2 cs' e';exact⟨b,ET hl q1,q2⟩
 |oq k i off=>
  obtain⟨o,ho,h2⟩:=h;refine⟨_,ES ho,fun aX es e=> ?_⟩;obtain⟨b,n,cap,q1,q2⟩:=h2 aX es (ze.2.1 _ _ e);exact⟨b,n,cap,ET hl q1,q2⟩
 |mE k=>
  obtain⟨o,ho,h2⟩:=h;exact⟨_,ES ho,fun aX es e=>ET hl (h2 aX es (ze.2.1 _ _ e))⟩
 |mp k=>
  obtain⟨o,ho,h2⟩:=h;exact⟨_,ES ho,fun m e=>ET hl (h2 m (ze.2.2.1 _ e))⟩
 |fn f caps=>
  obtain⟨vs,e,hsz,hc⟩:=h;refine⟨vs,e,by rw[hsz,List.length_map],fun j k off hj=> ?_⟩;rw[List.getElem?_map] at hj
  cases hx:caps[j]? with
  |none=>rw[hx] at hj;cases hj
  |some y=>
   rw[hx] at hj;injection hj with hj;injection hj with e1 e2;obtain⟨u,q1,q2,o,q3,q4⟩:=hc j y.1 y.2 hx;refine⟨u,q1,q2,_,by rw[<-e1];exact ES q3,fun cs e=> ?_⟩;obtain⟨cs',e'⟩:=ze.2.2.2.1 _ e;obtain⟨b,q5,q6⟩:=q4 cs' e';exact⟨b,by rw[<-e1];exact ET hl q5,by rw[<-e2];exact q6⟩
theorem abV(hl:tu.length=bU.length){cs:List C}{vs:List Value}(h:gN w σ (own::bU::Ω) (bo::tu::bΩ) cs vs):
 gN w σ ((bU++own.map (Obj.mg bU.length))::Ω) ((tu++bo)::bΩ) (cs.map (C.mg bU.length)) vs:=by
 refine⟨by rw[List.length_map];exact h.1,fun j x hj=> ?_⟩;rw[List.getElem?_map] at hj
 cases hx:cs[j]? with
 |none=>rw[hx] at hj;cases hj
 |some y=>
  rw[hx] at hj;cases hj;obtain⟨v,h1,h2,h3⟩:=h.2 j y hx;exact⟨v,h1,ahU hl h2,h3⟩
theorem aqV(hl:tu.length=bU.length){x:V}{v:Value}(h:dP w σ (own::bU::Ω) (bo::tu::bΩ) x v):
 dP w σ ((bU++own.map (Obj.mg bU.length))::Ω) ((tu++bo)::bΩ) (x.mg bU.length) v:=by
 cases x with
 |c x=>exact⟨ahU hl h.1,h.2⟩
 |agg cs=>obtain⟨a,ha,hc⟩:=h;exact⟨a,ha,abV hl hc⟩
 |any=>exact trivial
 |dQ xs=>
  obtain⟨a,ha,hlen,hc⟩:=h;refine⟨a,ha,by rw[List.length_map];exact hlen,fun j y hj=> ?_⟩;rw[List.getElem?_map] at hj
  cases hx:xs[j]? with
  |none=>rw[hx] at hj;cases hj
  |some z=>
   rw[hx] at hj;cases hj;obtain⟨u,hu,hr⟩:=hc j z hx;refine⟨u,hu,?_⟩;obtain⟨b,cs⟩:=z
   cases b with
   |true=>obtain⟨a',e,hcs⟩:=hr;exact⟨a',e,abV hl hcs⟩
   |false=>obtain⟨x1,e,hx1,ho⟩:=hr;subst e;exact⟨_,rfl,ahU hl hx1,ho⟩
theorem ZX(hl:tu.length=bU.length):Keep (bU::Ω) (tu::bΩ) ((bU++own.map (Obj.mg bU.length))::Ω) ((tu++bo)::bΩ):=by
 rintro⟨l,j⟩ o h
 cases l with
 |zero=>
  rw[bV] at h;have hj:=(List.getElem?_eq_some_iff.1 h).1;refine⟨o,by rw[bV,List.getElem?_append_left hj];exact h,?_⟩;rw[bV,bV,List.getElem?_append_left (by omega)];exact nU.refl _ _
 |succ l=>
  rw[dw] at h;exact⟨o,by rw[dw];exact h,by rw[dw,dw];exact nU.refl _ _⟩
theorem aqW(hS:fE w σ (own::bU::Ω) (bo::tu::bΩ)):fE w σ ((bU++own.map (Obj.mg bU.length))::Ω) ((tu++bo)::bΩ):=by
 have hlo:bo.length=own.length:=by
  obtain⟨gr,h1,h2⟩:=hS.shape.2 0 own rfl;simp at h1;rw[h1];exact h2
 have hl:tu.length=bU.length:=by
  obtain⟨gr,h1,h2⟩:=hS.shape.2 1 bU rfl;simp at h1;rw[h1];exact h2
 have hn:eH w σ w σ:=eH.refl _ _;refine⟨fun k o ho=> ?_,fun k k' o o' h h' b e1 e2 e3 e4 e5 e6=> ?_,⟨by have:=hS.shape.1;simpa using this,fun l fr hfr=> ?_⟩,hS.live,hS.uz⟩
 ·obtain⟨k0,o0,hk,ho0,rfl,hh⟩:=Le (bo:=bo) (bΩ:=bΩ) hl hlo ho;obtain⟨h,h1,h2⟩:=hS.obj k0 o0 ho0;refine⟨h,by rw[hh];exact h1,?_⟩;obtain⟨l0,j0⟩:=k0
  cases l0 with
  |zero=>
   subst hk;have h2:iM w σ (own::bU::Ω) (bo::tu::bΩ) o0 h:=h2;show iM w σ ((bU++own.map (Obj.mg bU.length))::Ω) ((tu++bo)::bΩ) (o0.mg bU.length) h
   cases o0 with
   |box cs=>
    obtain⟨b,c,t,e,q1,q2,q3⟩:=h2;exact⟨b,c,t,e,q1,q2,abV hl q3⟩
   |dead=>exact trivial
   |tok aX es=>exact h2
   |gH aX es=>exact h2
   |mp m=>exact h2
   |fu n aX es=>exact h2
   |seed n=>exact trivial
   |xf rs=>exact h2
  |succ l0=>
   have hk':k=(l0,j0):=hk.symm;subst hk';have h2:iM w σ ((bU::Ω).drop l0) ((tu::bΩ).drop l0) o0 h:=h2;exact h2.mono hn ((ZX hl).drop l0) fun _ _=>⟨rfl,rfl⟩
 ·obtain⟨k0,o0,hk,ho0,ho,hh⟩:=Le (bo:=bo) (bΩ:=bΩ) hl hlo e1;obtain⟨k1,o1,hk1,ho1,ho',IV⟩:=Le (bo:=bo) (bΩ:=bΩ) hl hlo e4;rw[hh] at e2;rw[IV] at e5
  have b0:owns o0 h b:=by
   rw[ho] at e3;split at e3
   ·rw[QT] at e3;exact e3
   ·exact e3
  have b1:owns o1 h' b:=by
   rw[ho'] at e6;split at e6
   ·rw[QT] at e6;exact e6
   ·exact e6
  have:=hS.apart k0 k1 o0 o1 h h' b ho0 e2 b0 ho1 e5 b1;rw[<-hk,<-hk1,this]
 ·cases l with
  |zero=>
   simp at hfr;exact⟨_,rfl,by rw[<-hfr];simp[hl,hlo]⟩
  |succ l=>exact hS.shape.2 (l+2) fr (by simpa using hfr)
theorem amW(hS:fE w σ (own::bU::Ω) (bo::tu::bΩ)){b:Nat}(h:Own ((bU++own.map (Obj.mg bU.length))::Ω) ((tu++bo)::bΩ) b):Own (own::bU::Ω) (bo::tu::bΩ) b:=by
 have hlo:bo.length=own.length:=by
  obtain⟨gr,h1,h2⟩:=hS.shape.2 0 own rfl;simp at h1;rw[h1];exact h2
 have hl:tu.length=bU.length:=by
  obtain⟨gr,h1,h2⟩:=hS.shape.2 1 bU rfl;simp at h1;rw[h1];exact h2
 obtain⟨k,o,hv,e1,e2,e3⟩:=h;obtain⟨k0,o0,hk,ho0,ho,hh⟩:=Le (bo:=bo) (bΩ:=bΩ) hl hlo e1;rw[hh] at e2;refine⟨k0,o0,hv,ho0,e2,?_⟩;rw[ho] at e3;split at e3
 ·rw[QT] at e3;exact e3
 ·exact e3
end
def Wp(P:Program)(rs:List ResultVar)(post:V->Store->Prop)(e:Exit)(s:St):Prop:=
 match e with
 | .normal| .ret=>(wu P rs s).1/\match s.st with
   |own::bU::Ω=>post ((wu P rs s).2.mg bU.length) ((bU++own.map (Obj.mg bU.length))::Ω)
   |_=>False
 |_=>False
section
variable {P:Program} {N:Nat} {s:St}
theorem Sn{f:FuncId}{fn:Func}{c:Code}{args:List V}{bU:List Obj}{Ω:Store}{post:V->Store->Prop}(hf:P.funcs[f]? =some fn)(hb:fn.body=some c)(hn:(fn.name== "runtime.NumGoroutine")=false)
 (hl:args.length<=fn.ntmps) (h:AW P fn.ntmps c (Wp P fn.results.toList post) ⟨sJ (args.map (V.up 1)) 0,[]::bU::Ω⟩):dz P f args (bU::Ω) post:=by
 refine⟨⟨fn,hf,hn,by simp[hb]⟩,fun w σ β vs hS hargs=> ?_⟩;refine calls_of_wp hf hb ?_;have hlen:vs.length=args.length:=hargs.1.symm
 have agF:lH fn.ntmps ⟨sJ (args.map (V.up 1)) 0,[]::bU::Ω⟩ {tmps:=vs.toArray++Array.replicate (fn.ntmps-vs.toArray.size) undef,defers:=[]} w σ ([]::β):=by
  refine⟨by simp;omega,rfl,hS.up1,fun t=> ?_⟩;show dP w σ ([]::bU::Ω) ([]::β) (look (sJ (args.map (V.up 1)) 0) t) _;rw[G5,if_pos (Nat.zero_le _),Nat.sub_zero,List.getElem?_map]
  cases ha:args[t]? with
  |none=>exact trivial
  |some x=>
   obtain⟨v,hv,hr⟩:=hargs.2 t x ha;have ht:=(List.getElem?_eq_some_iff.1 hv).1
   have:(vs.toArray++Array.replicate (fn.ntmps-vs.toArray.size) undef).getD t undef=v:=by
    rw[Array.getD_eq_getD_getElem?,Array.getElem?_append_left (by simpa using ht)];simp[hv]
   rw[this];exact Qz (S:=[]::bU::Ω) (β:=[]::β) 1 hr
 refine wp_mono (h _ w σ ([]::β) agF) ?_;rintro e a' w' ⟨s',σ',β',hR,hst,hkp,hq⟩
 have main:((wu P fn.results.toList s').1/\match s'.st with
  |own::bU::Ω=>post ((wu P fn.results.toList s').2.mg bU.length) ((bU++own.map (Obj.mg bU.length))::Ω)
  |_=>False)->
   a'.defers=[]/\∃v,(results fn a'.tmps).run P w'=.ok v w'/\∃v_1 r S' σ' β',Ending.returned v=Ending.returned v_1/\fE w' σ' S' β'/\Keep (bU::Ω) β S' β'/\Step (bU::Ω) β σ w S' β' σ' w'/\dP w' σ' S' β' r v_1/\post r S':=by
  rintro⟨q1,q2⟩;obtain⟨v,hv,hrep⟩:=RV (fn:=fn) hR q1;obtain⟨tm,st⟩:=s';simp only at q2;split at q2
  ·rename_i own abW Ω1;obtain⟨bo,bΩ',rfl,hlo⟩:=frames hR
   cases bΩ' with
   |nil=>have:=hR.S.shape.1;simp at this
   |cons bo1 bΩ1=>
    have hl1:bo1.length=abW.length:=by
     obtain⟨gr,h1,h2⟩:=hR.S.shape.2 1 abW rfl;simp at h1;rw[h1];exact h2
    have Ar:Keep (bU::Ω) β (abW::Ω1) (bo1::bΩ1):=hkp;have hst':Step ([]::bU::Ω) ([]::β) σ w (own::abW::Ω1) (bo::bo1::bΩ1) σ' w':=hst;exact⟨hR.defers,v,hv,v,_,_,σ',_,rfl,aqW hR.S,Ar.trans (ZX hl1),⟨hst'.size,hst'.os,hst'.output,fun b hb ho=>hst'.far b hb (fun x=>ho (K4 x)),hst'.near,fun b hb=>(hst'.own b (amW hR.S hb)).imp K4 id⟩,aqV hl1 hrep,q2⟩
  ·exact q2.elim
 cases e with
 |normal=>exact main hq
 |ret=>exact main hq
 |_=>exact hq.elim
def Wq(P:Program)(rs:List ResultVar)(post:V->Store->Prop)(s:St)(r:R):Prop:=r.1/\match s.st with
 |own::bU::Ω=>post (r.2.mg bU.length) ((bU++own.map (Obj.mg bU.length))::Ω)
 |_=>False
@[congr] theorem ao2 {rs:List ResultVar} {post:V->Store->Prop} {s s':St} {r r':R} (h1:s=s') (h2:r=r'):Wq P rs post s r=Wq P rs post s' r':=by rw[h1,h2]
theorem ahV{rs:List ResultVar}{post:V->Store->Prop}{tm:List (Nat×V)}{S:Store}:Wp P rs post .ret ⟨tm,S⟩=Wq P rs post ⟨tm,S⟩ (wu P rs ⟨tm,S⟩):=rfl
theorem YU{rs:List ResultVar}{post:V->Store->Prop}{tm:List (Nat×V)}{S:Store}:Wp P rs post .normal ⟨tm,S⟩=Wq P rs post ⟨tm,S⟩ (wu P rs ⟨tm,S⟩):=rfl
theorem akW{rs:List ResultVar}{post:V->Store->Prop}{tm:List (Nat×V)}{own bU:List Obj}{Ω:Store}{p:Prop}{v:V}:
 Wq P rs post ⟨tm,own::bU::Ω⟩ (p,v)=(p/\post (v.mg bU.length) ((bU++own.map (Obj.mg bU.length))::Ω)):=rfl
theorem Sq{f:FuncId}{fn:Func}{c:Code}{args:List V}{bU:List Obj}{Ω:Store}{post:V->Store->Prop}{rs:List ResultVar}(ig:P.follows .mixedOrders=true)(hf:P.funcs[f]? =some fn)(hN:fn.ntmps=N)
 (hb:fn.body=some c) (hn:(fn.name== "runtime.NumGoroutine")=false) (hr:fn.results.toList=rs) (hl:Nat.ble args.length N=true) (hok:codeOk N c=true)
 (h:CW P N c (Wp P rs post) ⟨sJ (args.map (V.up 1)) 0,[]::bU::Ω⟩):dz P f args (bU::Ω) post:=by
 subst hN;subst hr;exact Sn hf hb hn (Nat.le_of_ble_eq_true hl) (lI ig c _ _ hok h)
theorem mgK_0{n j:Nat}:Gf n (0,j)=(0,n+j):=rfl
theorem mgK_1{n l j:Nat}:Gf n (1+l,j)=(l,j):=by rw[Nat.add_comm];rfl
end
attribute [go_sem ↓] ahV YU
attribute [go_sem] akW V.mg C.mg Obj.mg mgK_0 mgK_1
def Uy(by':List UInt8):List (List UInt8)->List UInt8
 |[]=>[]
 |x::xs=>x++(xs.map fun y=>by'++y).flatten
mutual
def abX:aj->List UInt8
 | .mk a l=>if a=[] then [40]++Uy [32] (Gg l)++[41] else a
def Gg:List aj->List (List UInt8)
 |[]=>[]
 |x::xs=>abX x::Gg xs
end
theorem aeR(b:List UInt8):∀l:List (List UInt8),(Uy b l).length<=(l.map fun x=>b.length+x.length).sum
 |[]=>by simp[Uy]
 |x::xs=>by
  have h:∀ys:List (List UInt8),((ys.map fun y=>b++y).flatten).length=(ys.map fun x=>b.length+x.length).sum:=by
   intro ys
   induction ys with
   |nil=>rfl
   |cons y ys ih=>rw[List.map_cons,List.flatten_cons,List.length_append,List.length_append,ih,List.map_cons,List.sum_cons]
  rw[Uy,List.length_append,h,List.map_cons,List.sum_cons];omega
mutual
theorem aeS:∀x:aj,(abX x).length<=2+3*x.sz
 | .mk a l=>by
   have h:=O1 l;rw[jW,mh];simp only[aj.aO,aj.ah];rw[abX];split
   ·have:=aeR [32] (Gg l);simp only[List.length_append,List.length_cons,List.length_nil] at this ⊢;omega
   ·omega
theorem O1:∀l:List aj,((Gg l).map fun x=>0+1+x.length).sum<=3*l.length+3*dA l
 |[]=>by simp[Gg]
 |x::xs=>by
  have h1:=aeS x;have h2:=O1 xs;rw[Gg,List.map_cons,List.sum_cons,dA,List.length_cons];omega
end
theorem amY{w:World}{σ:Nat->Nat}{es:List (List D)}{u:Value}(h:dI w σ (.sl es) u):∃a n c,u=.slice a n c:=by
 cases h with
 |nil a c=>exact⟨_,_,_,rfl⟩
 |sl=>exact⟨_,_,_,rfl⟩
theorem H7:∀n:Nat,(∀x:ak,SizeOf.sizeOf x<n->∀y:ak,x.sz<=1048576->aH prog 25 [x.v,y.v] (.c (.d (.b (dec (x=y))))))/\
 (∀xs:List ak,SizeOf.sizeOf xs<n->∀ys:List ak,xs.length+bn (xs.map ak.enc)<=1048576->aH prog 71 [.c (.d (.sl (xs.map ak.enc))),.c (.d (.sl (ys.map ak.enc)))] (.c (.d (.b (dec (xs=ys))))))
 |0=>⟨fun x h=>by omega,fun x h=>by omega⟩
 |n+1=>by
  obtain⟨JX,akX⟩:=H7 n;refine⟨fun x hn y hsz S=> ?_,fun xs hn ys hsz S=> ?_⟩
  ·have jX:=ak.gP x;simp only[ak.sz,ak.aB,bT,bL,D.sz,List.length_map] at hsz;refine aD (rs:=[.tmp 4]) zmx func25 ntmps25 rfl rfl rfl rfl rfl ?_;refine W1 ?_;refine S0 (fun hb h=>?_) fun hb h=>?_
   ·exact ay (aA (fun e=>h (by rw[e]))).symm
   have abY:=h;clear h;refine S0 (fun hb h=>?_) fun hb h=>?_
   ·exact ay (aA (fun e=>h (by rw[e]))).symm
   have rJ:=h;clear h;refine C1 (akX x.fArgs (by omega) _ (by omega)) ?_;refine S0 (fun hb h=>?_) fun hb h=>?_
   ·exact ay (aA (fun e=>h (by rw[e]))).symm
   have eArgs:=h;clear h;exact ay (aY (ak.ext abY rJ eArgs)).symm
  ·refine aD (rs:=[.tmp 4]) zmx func71 ntmps71 rfl rfl rfl rfl rfl ?_;refine W1 ?_;refine S0 (fun hb h=>?_) fun hb h=>?_
   ·exact ay (aA (fun e=>h (by rw[e]))).symm
   have hl:xs.length=ys.length:=by omega
   refine aU (ι:=Nat) zmx rfl [0,1,5] (fun y=>[.c (.d (.sl (xs.map ak.enc))),.c (.d (.sl (ys.map ak.enc))),.c (.d (.i .i64 y))]) (fun y=>[]::S)
    (fun i=>i<=xs.length/\∀j,j<i->xs[j]? =ys[j]?) (fun y=>xs.length-y) 0 rfl rfl ⟨Nat.zero_le _,fun j h=>by omega⟩ ?_
   rintro i ⟨p1,p2⟩;refine W1 ?_;refine S0 (fun hb h=>?_) fun hb h=>?_
   ·have hi:i<xs.length:=by omega
    have hi':i<ys.length:=by omega
    have hx:xs[i].sz<=bn (xs.map ak.enc):=dD (List.mem_map_of_mem (List.getElem_mem hi));refine W3 ?_;refine C1 (JX xs[i] (by have:=List.sizeOf_lt_of_mem (List.getElem_mem hi);omega) ys[i] (by omega)) ?_;refine S0 (fun hb h=>?_) fun hb h=>?_
    ·exact ay (aA (fun e=>h (by simp only[e]))).symm
    refine bJ (i+1) (by omega) rfl rfl ⟨by omega,fun j hj=> ?_⟩;by_cases e:j=i
    ·subst e;rw[List.getElem?_eq_getElem hi,List.getElem?_eq_getElem hi',h]
    ·exact p2 j (by omega)
   ·have hi:i=xs.length:=by omega
    refine ay (aY (List.ext_getElem? fun j=> ?_)).symm;by_cases hj:j<i
    ·exact p2 j hj
    ·rw[List.getElem?_eq_none (by omega),List.getElem?_eq_none (by omega)]
theorem wW(x:ak):∀y:ak,x.sz<=1048576->aH prog 25 [x.v,y.v] (.c (.d (.b (dec (x=y))))):=(H7 _).1 x (Nat.lt_succ_self _)
theorem O3(xs:List ak):∀ys:List ak,xs.length+bn (xs.map ak.enc)<=1048576->aH prog 71 [.c (.d (.sl (xs.map ak.enc))),.c (.d (.sl (ys.map ak.enc)))] (.c (.d (.b (dec (xs=ys))))):=(H7 _).2 xs (Nat.lt_succ_self _)
theorem abZ(x:bq):∀y:bq,x.sz<=1048576->aH prog 243 [x.v,y.v] (.c (.d (.b (dec (x=y))))):=by
 intro y hsz S;simp only[bq.sz,bq.aB,bT,bL,D.sz,List.length_map,ak.d9] at hsz;refine aD (rs:=[.tmp 4]) zmx func243 ntmps243 rfl rfl rfl rfl rfl ?_;refine W1 ?_;refine S0 (fun hb h=>?_) fun hb h=>?_
 ·exact ay (aA (fun e=>h (by rw[e]))).symm
 have JY:=h;clear h;refine C1 (wW x.fType _ (by omega)) ?_;refine S0 (fun hb h=>?_) fun hb h=>?_
 ·exact ay (aA (fun e=>h (by rw[e]))).symm
 have eType:=h;clear h;exact ay (aY (bq.ext' JY eType)).symm
theorem Mi(xs:List bq):∀ys:List bq,xs.length+bn (xs.map bq.enc)<=1048576->aH prog 167 [.c (.d (.sl (xs.map bq.enc))),.c (.d (.sl (ys.map bq.enc)))] (.c (.d (.b (dec (xs=ys))))):=by
 intro ys hsz S;refine aD (rs:=[.tmp 4]) zmx func167 ntmps167 rfl rfl rfl rfl rfl ?_;refine W1 ?_;refine S0 (fun hb h=>?_) fun hb h=>?_
 ·exact ay (aA (fun e=>h (by rw[e]))).symm
 have hl:xs.length=ys.length:=by omega
 refine aU (ι:=Nat) zmx rfl [0,1,5] (fun y=>[.c (.d (.sl (xs.map bq.enc))),.c (.d (.sl (ys.map bq.enc))),.c (.d (.i .i64 y))]) (fun y=>[]::S)
  (fun i=>i<=xs.length/\∀j,j<i->xs[j]? =ys[j]?) (fun y=>xs.length-y) 0 rfl rfl ⟨Nat.zero_le _,fun j h=>by omega⟩ ?_
 rintro i ⟨p1,p2⟩;refine W1 ?_;refine S0 (fun hb h=>?_) fun hb h=>?_
 ·have hi:i<xs.length:=by omega
  have hi':i<ys.length:=by omega
  have hx:xs[i].sz<=bn (xs.map bq.enc):=dD (List.mem_map_of_mem (List.getElem_mem hi));refine W3 ?_;refine C1 (abZ xs[i] ys[i] (by omega)) ?_;refine S0 (fun hb h=>?_) fun hb h=>?_
  ·exact ay (aA (fun e=>h (by simp only[e]))).symm
  refine bJ (i+1) (by omega) rfl rfl ⟨by omega,fun j hj=> ?_⟩;by_cases e:j=i
  ·subst e;rw[List.getElem?_eq_getElem hi,List.getElem?_eq_getElem hi',h]
  ·exact p2 j (by omega)
 ·have hi:i=xs.length:=by omega
  refine ay (aY (List.ext_getElem? fun j=> ?_)).symm;by_cases hj:j<i
  ·exact p2 j hj
  ·rw[List.getElem?_eq_none (by omega),List.getElem?_eq_none (by omega)]
theorem O4:∀n:Nat,(∀x:au,SizeOf.sizeOf x<n->∀y:au,x.sz<=1048576->aH prog 8 [x.v,y.v] (.c (.d (.b (dec (x=y))))))/\
 (∀xs:List au,SizeOf.sizeOf xs<n->∀ys:List au,xs.length+bn (xs.map au.enc)<=1048576->aH prog 26 [.c (.d (.sl (xs.map au.enc))),.c (.d (.sl (ys.map au.enc)))] (.c (.d (.b (dec (xs=ys))))))/\
 (∀x:aT,SizeOf.sizeOf x<n->∀y:aT,x.sz<=1048576->aH prog 72 [x.v,y.v] (.c (.d (.b (dec (x=y))))))/\
 (∀xs:List aT,SizeOf.sizeOf xs<n->∀ys:List aT,xs.length+bn (xs.map aT.enc)<=1048576->aH prog 27 [.c (.d (.sl (xs.map aT.enc))),.c (.d (.sl (ys.map aT.enc)))] (.c (.d (.b (dec (xs=ys))))))
 |0=>⟨fun x h=>by omega,fun x h=>by omega,fun x h=>by omega,fun x h=>by omega⟩
 |n+1=>by
  obtain⟨BU,akY,H8,amZ⟩:=O4 n;refine⟨fun x hn y hsz S=> ?_,fun xs hn ys hsz S=> ?_,fun x hn y hsz S=> ?_,fun xs hn ys hsz S=> ?_⟩
  ·have jX:=au.gP x;have Bp:=au.pW x;simp only[au.sz,au.aB,bT,bL,D.sz,List.length_map,ak.d9] at hsz;refine aD (rs:=[.tmp 4]) zmx func8 ntmps8 rfl rfl rfl rfl rfl ?_;refine W1 ?_;refine S0 (fun hb h=>?_) fun hb h=>?_
   ·exact ay (aA (fun e=>h (by rw[e]))).symm
   have abY:=h;clear h;refine S0 (fun hb h=>?_) fun hb h=>?_
   ·exact ay (aA (fun e=>h (by rw[e]))).symm
   have JY:=h;clear h;refine S0 (fun hb h=>?_) fun hb h=>?_
   ·exact ay (aA (fun e=>h (by rw[e]))).symm
   have rJ:=h;clear h;refine S0 (fun hb h=>?_) fun hb h=>?_
   ·exact ay (aA (fun e=>h (by rw[e]))).symm
   have eN:=h;clear h;refine C1 (wW x.fType _ (by omega)) ?_;refine S0 (fun hb h=>?_) fun hb h=>?_
   ·exact ay (aA (fun e=>h (by rw[e]))).symm
   have eType:=h;clear h;refine C1 (akY x.fArgs (by omega) _ (by omega)) ?_;refine S0 (fun hb h=>?_) fun hb h=>?_
   ·exact ay (aA (fun e=>h (by rw[e]))).symm
   have eArgs:=h;clear h;refine C1 (amZ x.aR (by omega) _ (by omega)) ?_;refine S0 (fun hb h=>?_) fun hb h=>?_
   ·exact ay (aA (fun e=>h (by rw[e]))).symm
   have ao3:=h;clear h;exact ay (aY (au.ext abY JY rJ eN eType eArgs ao3)).symm
  ·refine aD (rs:=[.tmp 4]) zmx func26 ntmps26 rfl rfl rfl rfl rfl ?_;refine W1 ?_;refine S0 (fun hb h=>?_) fun hb h=>?_
   ·exact ay (aA (fun e=>h (by rw[e]))).symm
   have hl:xs.length=ys.length:=by omega
   refine aU (ι:=Nat) zmx rfl [0,1,5] (fun y=>[.c (.d (.sl (xs.map au.enc))),.c (.d (.sl (ys.map au.enc))),.c (.d (.i .i64 y))]) (fun y=>[]::S)
    (fun i=>i<=xs.length/\∀j,j<i->xs[j]? =ys[j]?) (fun y=>xs.length-y) 0 rfl rfl ⟨Nat.zero_le _,fun j h=>by omega⟩ ?_
   rintro i ⟨p1,p2⟩;refine W1 ?_;refine S0 (fun hb h=>?_) fun hb h=>?_
   ·have hi:i<xs.length:=by omega
    have hi':i<ys.length:=by omega
    have hx:xs[i].sz<=bn (xs.map au.enc):=dD (List.mem_map_of_mem (List.getElem_mem hi));refine W3 ?_;refine C1 (BU xs[i] (by have:=List.sizeOf_lt_of_mem (List.getElem_mem hi);omega) ys[i] (by omega)) ?_;refine S0 (fun hb h=>?_) fun hb h=>?_
    ·exact ay (aA (fun e=>h (by simp only[e]))).symm
    refine bJ (i+1) (by omega) rfl rfl ⟨by omega,fun j hj=> ?_⟩;by_cases e:j=i
    ·subst e;rw[List.getElem?_eq_getElem hi,List.getElem?_eq_getElem hi',h]
    ·exact p2 j (by omega)
   ·have hi:i=xs.length:=by omega
    refine ay (aY (List.ext_getElem? fun j=> ?_)).symm;by_cases hj:j<i
    ·exact p2 j hj
    ·rw[List.getElem?_eq_none (by omega),List.getElem?_eq_none (by omega)]
  ·have ajN:=aT.oO x;simp only[aT.sz,aT.aB,bT,bL,D.sz,List.length_map,au.d9] at hsz;refine aD (rs:=[.tmp 4]) zmx func72 ntmps72 rfl rfl rfl rfl rfl ?_;refine W1 ?_;refine S0 (fun hb h=>?_) fun hb h=>?_
   ·exact ay (aA (fun e=>h (by rw[e]))).symm
   have Ws:=h;clear h;refine C1 (qB x.aG _ (by omega)) ?_;refine S0 (fun hb h=>?_) fun hb h=>?_
   ·exact ay (aA (fun e=>h (by rw[e]))).symm
   have zV:=h;clear h;refine C1 (BU x.fBody (by omega) _ (by omega)) ?_;refine S0 (fun hb h=>?_) fun hb h=>?_
   ·exact ay (aA (fun e=>h (by rw[e]))).symm
   have H9:=h;clear h;exact ay (aY (aT.ext Ws zV H9)).symm
  ·refine aD (rs:=[.tmp 4]) zmx func27 ntmps27 rfl rfl rfl rfl rfl ?_;refine W1 ?_;refine S0 (fun hb h=>?_) fun hb h=>?_
   ·exact ay (aA (fun e=>h (by rw[e]))).symm
   have hl:xs.length=ys.length:=by omega
   refine aU (ι:=Nat) zmx rfl [0,1,5] (fun y=>[.c (.d (.sl (xs.map aT.enc))),.c (.d (.sl (ys.map aT.enc))),.c (.d (.i .i64 y))]) (fun y=>[]::S)
    (fun i=>i<=xs.length/\∀j,j<i->xs[j]? =ys[j]?) (fun y=>xs.length-y) 0 rfl rfl ⟨Nat.zero_le _,fun j h=>by omega⟩ ?_
   rintro i ⟨p1,p2⟩;refine W1 ?_;refine S0 (fun hb h=>?_) fun hb h=>?_
   ·have hi:i<xs.length:=by omega
    have hi':i<ys.length:=by omega
    have hx:xs[i].sz<=bn (xs.map aT.enc):=dD (List.mem_map_of_mem (List.getElem_mem hi));refine W3 ?_;refine C1 (H8 xs[i] (by have:=List.sizeOf_lt_of_mem (List.getElem_mem hi);omega) ys[i] (by omega)) ?_;refine S0 (fun hb h=>?_) fun hb h=>?_
    ·exact ay (aA (fun e=>h (by simp only[e]))).symm
    refine bJ (i+1) (by omega) rfl rfl ⟨by omega,fun j hj=> ?_⟩;by_cases e:j=i
    ·subst e;rw[List.getElem?_eq_getElem hi,List.getElem?_eq_getElem hi',h]
    ·exact p2 j (by omega)
   ·have hi:i=xs.length:=by omega
    refine ay (aY (List.ext_getElem? fun j=> ?_)).symm;by_cases hj:j<i
    ·exact p2 j hj
    ·rw[List.getElem?_eq_none (by omega),List.getElem?_eq_none (by omega)]
theorem JZ(x:au):∀y:au,x.sz<=1048576->aH prog 8 [x.v,y.v] (.c (.d (.b (dec (x=y))))):=(O4 _).1 x (Nat.lt_succ_self _)
mutual
def au.cnt:au->Nat
 | .mk _ _ _ _ _ a b=>1+(au.eB a+aT.eB b)
def au.eB:List au->Nat
 |[]=>0
 |x::xs=>x.cnt+au.eB xs
def aT.cnt:aT->Nat
 | .mk _ _ b=>b.cnt
def aT.eB:List aT->Nat
 |[]=>0
 |x::xs=>x.cnt+aT.eB xs
end
theorem au.rA(x:au):x.cnt=1+(au.eB x.fArgs+aT.eB x.aR):=by cases x;rw[au.cnt];rfl
theorem aT.rA(x:aT):x.cnt=x.fBody.cnt:=by cases x;rw[aT.cnt];rfl
theorem au.nL{xs:List au}{i:Nat}(hi:i<xs.length):au.eB (xs.drop i)=xs[i].cnt+au.eB (xs.drop (i+1)):=by rw[List.drop_eq_getElem_cons hi,au.eB]
theorem aT.nL{xs:List aT}{i:Nat}(hi:i<xs.length):aT.eB (xs.drop i)=xs[i].fBody.cnt+aT.eB (xs.drop (i+1)):=by rw[List.drop_eq_getElem_cons hi,aT.eB,aT.rA]
theorem au.Ea(x:au):x.fArgs.length+bn (x.fArgs.map au.enc)<=x.sz/\x.aR.length+bn (x.aR.map aT.enc)<=x.sz:=by
 simp only[au.sz,au.aB,bT,bL,D.sz,List.length_map];omega
theorem aT.QU(x:aT):x.fBody.sz<=x.sz:=by
 simp only[aT.sz,aT.aB,au.sz,bT,bL,D.sz,List.length_map];omega
mutual
theorem au.mZ:∀x:au,x.cnt<=1+x.sz
 | .mk k t n m ty a b=>by
   have h1:=au.y8 a;have h2:=aT.y8 b;rw[au.cnt];simp only[au.sz,au.aB,bT,bL,D.sz,List.length_map,au.fArgs,au.aR];omega
theorem au.y8:∀xs:List au,au.eB xs<=xs.length+bn (xs.map au.enc)
 |[]=>by simp[au.eB]
 |x::xs=>by
  have h1:=au.mZ x;have h2:=au.y8 xs;rw[au.eB,List.length_cons,List.map_cons,bn,au.d9];omega
theorem aT.mZ:∀x:aT,x.cnt<=1+x.sz
 | .mk c v b=>by
   have h1:=au.mZ b;have h2:=aT.QU (.mk c v b);rw[aT.cnt];simp only[aT.fBody] at h2;omega
theorem aT.y8:∀xs:List aT,aT.eB xs<=xs.length+bn (xs.map aT.enc)
 |[]=>by simp[aT.eB]
 |x::xs=>by
  have h1:=aT.mZ x;have h2:=aT.y8 xs;rw[aT.eB,List.length_cons,List.map_cons,bn,aT.d9];omega
end
theorem Eb:∀n:Nat,∀x:au,SizeOf.sizeOf x<n->x.sz<=4194304->aH prog 134 [x.v] (.c (.d (.i .i64 x.cnt)))
 |0=>fun x h=>by omega
 |n+1=>by
  have ih:=Eb n;intro x hn hsz S;have jX:=au.gP x;have Bp:=au.pW x;have hp:=au.Ea x;have hc:=au.mZ x;have he:=au.rA x;refine aD (rs:=[.tmp 2]) zmx func134 ntmps134 rfl rfl rfl rfl rfl ?_;refine W1 ?_
  refine aU (ι:=Nat×Nat) zmx rfl [1,3,9,10,11] (fun y=>[.c (.ptr (0,0) 0),.c (.d (.i .i64 y.2)),.c (.d (.sl (x.fArgs.map au.enc))),.c (.d (.i .i64 x.fArgs.length)),.c (.d (.i .i64 y.1))]) (fun y=>[.box (x.enc.map .d)]::S)
   (fun y=>y.1<=x.fArgs.length/\x.cnt=y.2+au.eB (x.fArgs.drop y.1)+aT.eB x.aR) (fun y=>x.fArgs.length-y.1) (0,1) rfl ?_ ⟨Nat.zero_le _,by simp only[List.drop_zero];omega⟩ ?_
  ·exact Z1
  rintro⟨i,c⟩ ⟨p1,p2⟩;simp only at p1 p2;refine W1 ?_;refine S0 (fun hb h=>?_) fun hb h=>?_
  ·have hi:i<x.fArgs.length:=by omega
   have hx:x.fArgs[i].sz<=bn (x.fArgs.map au.enc):=dD (List.mem_map_of_mem (List.getElem_mem hi));rw[au.nL hi] at p2;refine W3 ?_;refine C2 (ih x.fArgs[i] (by have:=List.sizeOf_lt_of_mem (List.getElem_mem hi);omega) (by omega)) ?_;rw[show(c:Int)+(x.fArgs[i].cnt:Int)=((c+x.fArgs[i].cnt:Nat):Int) by omega];exact bZ 1 (by decide) (i+1,c+x.fArgs[i].cnt) (by simp only;omega) rfl rfl rfl rfl ⟨by simp only;omega,by simp only;omega⟩
  have hi:i=x.fArgs.length:=by omega
  rw[hi,List.drop_length,au.eB] at p2
  refine aU (ι:=Nat×Nat) zmx rfl [3,21,22,23] (fun y=>[.c (.d (.i .i64 y.2)),.c (.d (.sl (x.aR.map aT.enc))),.c (.d (.i .i64 x.aR.length)),.c (.d (.i .i64 y.1))]) (fun y=>[.box (x.enc.map .d)]::S)
   (fun y=>y.1<=x.aR.length/\x.cnt=y.2+aT.eB (x.aR.drop y.1)) (fun y=>x.aR.length-y.1) (0,c) rfl ?_ ⟨Nat.zero_le _,by simp only[List.drop_zero];omega⟩ ?_
  ·exact Z1
  clear p1 p2 hb h hi i;rintro⟨i,d⟩ ⟨p1,p2⟩;simp only at p1 p2;refine W1 ?_;refine S0 (fun hb h=>?_) fun hb h=>?_
  ·have hi:i<x.aR.length:=by omega
   have hx:x.aR[i].sz<=bn (x.aR.map aT.enc):=dD (List.mem_map_of_mem (List.getElem_mem hi));have hy:=aT.QU x.aR[i];have hs:=List.sizeOf_lt_of_mem (List.getElem_mem hi);have hs':=aT.oO x.aR[i];rw[aT.nL hi] at p2;refine W3 ?_;refine C2 (ih x.aR[i].fBody (by omega) (by omega)) ?_;rw[show(d:Int)+(x.aR[i].fBody.cnt:Int)=((d+x.aR[i].fBody.cnt:Nat):Int) by omega];exact bZ 1 (by decide) (i+1,d+x.aR[i].fBody.cnt) (by simp only;omega) rfl rfl rfl rfl ⟨by simp only;omega,by simp only;omega⟩
  ·have hi:i=x.aR.length:=by omega
   rw[hi,List.drop_length,aT.eB] at p2;exact int_eq (by omega)
theorem O5(x:au)(hsz:x.sz<=4194304):aH prog 134 [x.v] (.c (.d (.i .i64 x.cnt))):=Eb _ x (Nat.lt_succ_self _) hsz
def ops:List (List UInt8):=[[43],[45],[42],[60],[61]]
def yE(t:ak):Prop:=t.aJ=0/\t.fName=[]/\t.fArgs.length=0
def vU(e:au):Prop:=
 (1<=e.aJ/\e.aJ<=12)/\
 (if e.aJ=5\/e.aJ=11 then validName e.bD=true else e.bD=[])/\
 (if e.aJ=3\/e.aJ=4\/e.aJ=5\/e.aJ=6\/e.aJ=8 then validName e.fName=true else if e.aJ=10 then e.fName∈ops else e.fName=[])/\
 (if e.aJ=1 then -999999<=e.fN/\e.fN<=999999 else if e.aJ=2 then e.fN=0\/e.fN=1 else e.fN=0)/\
 (if e.aJ=12 then oV e.fType=true else yE e.fType)/\
 (if e.aJ=4\/e.aJ=6 then True else if e.aJ=5 then 1<=e.fArgs.length else if e.aJ=7\/e.aJ=11\/e.aJ=12 then e.fArgs.length=1 else if e.aJ=8\/e.aJ=10 then e.fArgs.length=2 else if e.aJ=9 then e.fArgs.length=3 else e.fArgs.length=0)/\
 (e.aJ=7<->0<e.aR.length)
mutual
noncomputable def iW:au->Bool
 | .mk k t n m ty a b=>dec (vU (.mk k t n m ty a b))&&(mW a&&qC b)
noncomputable def mW:List au->Bool
 |[]=>true
 |x::xs=>iW x&&mW xs
noncomputable def xI:aT->Bool
 | .mk c v b=>validName c&&(iP v&&iW b)
noncomputable def qC:List aT->Bool
 |[]=>true
 |x::xs=>xI x&&qC xs
end
theorem zf(x:au):iW x=(dec (vU x)&&(mW x.fArgs&&qC x.aR)):=by cases x;rw[iW];rfl
theorem tV(x:aT):xI x=(validName x.dN&&(iP x.aG&&iW x.fBody)):=by cases x;rw[xI];rfl
theorem Wt{xs:List au}{i:Nat}(hi:i<xs.length):mW (xs.drop i)=(iW xs[i]&&mW (xs.drop (i+1))):=by rw[List.drop_eq_getElem_cons hi,mW]
theorem YV{xs:List aT}{i:Nat}(hi:i<xs.length):qC (xs.drop i)=(xI xs[i]&&qC (xs.drop (i+1))):=by rw[List.drop_eq_getElem_cons hi,qC]
theorem Mj:∀{xs:List au},(xs.any fun t=> !iW t)= !mW xs
 |[]=>rfl
 |t::ts=>by rw[List.any_cons,Mj (xs:=ts),mW];simp
theorem O6:∀{xs:List aT},(xs.any fun t=> !xI t)= !qC xs
 |[]=>rfl
 |t::ts=>by rw[List.any_cons,O6 (xs:=ts),qC];simp
noncomputable def tC(e:au):Bool:=dec (e.cnt<=300)&&iW e
def qD(l:Int)(c:Nat):Int:=if l<0 then -1 else if c<=l then l-c else -1
theorem Ia{l:Int}{a b:Nat}:qD (qD l a) b=qD l (a+b):=by unfold qD;split<;>split<;>(try split)<;>(try split)<;>omega
theorem MW{l:Int}{a:Nat}(h:l<0):qD l a= -1:=if_pos h
theorem J2{l:Int}(h: -1<=l):qD l 0=l:=by unfold qD;split<;>(try split)<;>omega
theorem QV{l:Int}{c:Nat}(h:0<=l): -1<=qD l c/\qD l c<=l:=by unfold qD;split<;>(try split)<;>omega
theorem ahW{l:Int}{c:Nat}(h:0<=l):decide (qD l c>=0)=decide ((c:Int)<=l):=by unfold qD;rw[if_neg (by omega)];split<;>simp<;>omega
theorem TP:validName []=false:=aA fun h=>by have:=h.1.1;simp at this
theorem aeT{s:List UInt8}(h:s∈ops):s.length=1:=by simp[ops] at h;rcases h with h|h|h|h|h<;>rw[h]<;>rfl
theorem Wu{s:List UInt8}(h:s∈ops):validName s=false:=aA fun x=>by
 have h1:=x.2.2 0 (by have:=x.1.1;omega);simp[ops] at h;rcases h with h|h|h|h|h<;>rw[h] at h1<;>simp[lowerB,sV] at h1
theorem O7{t:ak}(h:yE t):oV t=false:=aA fun x=>by
 have h1:=x.1;rw[y9,Bool.and_eq_true] at h1;have h2:=gG h1.1;rw[h.1] at h2;omega
structure Hold(p:Prop):Prop where
 out:p
theorem oC{P:Program}{N:Nat}{c:Code}{Q:Exit->St->Prop}{tm:List (Nat×V)}{st st':Store}(ts:List Nat)(vs:List V)(hv:ts.map (look tm)=vs)(hs:st=st')
 (h:AW P N c Q ⟨jd ts vs,st'⟩):AW P N c Q ⟨tm,st⟩:=by
 subst hs;refine ow h ?_;rw[<-hv];exact MN fun t=>Aw _ ts t
theorem akZ(b:UInt8):decide (firstIdx ⟨[43,45,42,60,61].toArray⟩ b>=0)=dec ([b]∈ops):=by
 have h:∀n:Nat,n<256->decide (firstIdx ⟨[43,45,42,60,61].toArray⟩ (UInt8.ofNat n)>=0)=decide ([UInt8.ofNat n]∈ops):=by decide +kernel
 have h1:=h b.toNat (UInt8.toNat_lt b);rw[UInt8.ofNat_toNat] at h1;rw[h1];by_cases h2:[b]∈ops
 ·rw[aY h2];simp[h2]
 ·rw[aA h2];simp[h2]
def ab0(k:Int):Int:=if k=5\/k=7\/k=11\/k=12 then 1 else if k=8\/k=10 then 2 else if k=9 then 3 else 0
def ab1(k:Int):Int:=if k=4\/k=6\/k=5 then 300 else if k=7\/k=11\/k=12 then 1 else if k=8\/k=10 then 2 else if k=9 then 3 else 0
theorem LK(l:List UInt8)(b:UInt8):aaW prog 255 [.c (.d (.s l)),.c (.d (.i .u8 b.toNat))] (.c (.d (.i .i64 (firstIdx ⟨l.toArray⟩ b)))):=by
 refine⟨_,Extern.BytealgIndexByte.indexByte,func255,by kernel_rfl,by kernel_rfl,by kernel_rfl,by kernel_rfl,fun w σ S β vs hS hv=> ?_⟩;obtain⟨hl,h⟩:=hv;obtain⟨v0,e0,h0,_⟩:=h 0 _ rfl;obtain⟨v1,e1,h1,_⟩:=h 1 _ rfl;cases h0;cases h1
 have hvs:vs=[.string ⟨l.toArray⟩,.int .u8 b.toNat]:=by
  match vs,hl,e0,e1 with
  |[x,y],_,e0,e1=>simp at e0 e1;rw[e0,e1]
 subst hvs;refine⟨_,run_indexByte_string _ _ w,?_,rfl⟩
 have hb:(b.toNat:Int).toNat.toUInt8=b:=by simp
 rw[hb];exact .i _ _
theorem J3(l:List UInt8)(b:UInt8):aH prog 187 [.c (.d (.s l)),.c (.d (.i .u8 b.toNat))] (.c (.d (.i .i64 (firstIdx ⟨l.toArray⟩ b)))):=fun S=>by
 refine aD (rs:=[.tmp 4]) zmx func187 ntmps187 rfl rfl rfl rfl rfl ?_;refine W1 ?_;refine amH (LK l b) ?_;exact Z1
theorem YW(l:List UInt8)(b:UInt8)(hl:[b]≠l):aH prog 293 [.c (.d (.s l)),.c (.d (.s [b]))] (.c (.d (.i .i64 (firstIdx ⟨l.toArray⟩ b)))):=fun S=>by
 have c1:decide (((1:Nat):Int)=0)=false:=rfl;have c2:decide (((1:Nat):Int)=1)=true:=rfl;refine aD (rs:=[.tmp 4]) zmx func293 ntmps293 rfl rfl rfl rfl rfl ?_;simp -implicitDefEqProofs (disch:=omega) only[go_sem,c1,c2]
 with_reducible refine dM (fun hb=> ?_) (fun hb=> ?_)<;>have h:=hb<;>(try simp only[wf_preprocess] at h)<;>simp -implicitDefEqProofs (disch:=omega) only[go_sem,hb,c1,c2]<;>refine W3 ?_
 ·exact absurd h hl
 exact C4 (J3 l b)
theorem aeU(l:List UInt8)(b:UInt8)(hl:[b]≠l):aH prog 248 [.c (.d (.s l)),.c (.d (.s [b]))] (.c (.d (.i .i64 (firstIdx ⟨l.toArray⟩ b)))):=fun S=>by
 refine aD (rs:=[.tmp 4]) zmx func248 ntmps248 rfl rfl rfl rfl rfl ?_;refine W1 ?_;exact C4 (YW l b hl)
theorem Wv(l:List UInt8)(b:UInt8)(hl:[b]≠l):aH prog 301 [.c (.d (.s l)),.c (.d (.s [b]))] (.c (.d (.b (decide (firstIdx ⟨l.toArray⟩ b>=0))))):=fun S=>by
 refine aD (rs:=[.tmp 4]) zmx func301 ntmps301 rfl rfl rfl rfl rfl ?_;refine W1 ?_;exact C4 (aeU l b hl)
theorem TQ(s:List UInt8):aH prog 260 [.c (.d (.s s))] (.c (.d (.b (dec (s∈ops))))):=fun S=>by
 refine aD (rs:=[.tmp 2]) zmx func260 ntmps260 rfl rfl rfl rfl rfl ?_;refine W1 ?_;refine S0 (fun hb h=>?_) fun hb h=>?_
 ·obtain⟨b,rfl⟩:=List.length_eq_one_iff.1 (show s.length=1 by omega);refine C2 (Wv [43,45,42,60,61] b (by intro x;cases x)) ?_;exact ay (akZ b)
 ·exact ay (aA fun x=>h (by rw[aeT x];rfl)).symm
theorem IZ(t:ak):aH prog 237 [t.v] (.c (.d (.b (dec (yE t))))):=fun S=>by
 refine aD (rs:=[.tmp 2]) zmx func237 ntmps237 rfl rfl rfl rfl rfl ?_;refine W1 ?_
 repeat' (first
  |refine S0 (fun hb h=>?_) fun hb h=>?_
  |(refine ay ?_;unfold yE;grind [aY,aA,gG,je]))
theorem Mk(k:Int):aH prog 259 [.c (.d (.i .i64 k))] (.dQ [(false,[.d (.i .i64 (ab0 k))]),(false,[.d (.i .i64 (ab1 k))])]):=fun S=>by
 refine aD (rs:=[.tmp 2,.tmp 3]) zmx func259 ntmps259 rfl rfl rfl rfl rfl ?_;refine W1 ?_
 repeat' (first
  |refine S0 (fun hb h=>?_) fun hb h=>?_
  |(unfold ab0 ab1;grind))
end Go.Ab