/-
  SEVERAL TEXTS IN ONE (merged by program): contracts and models, each with its own heading.
-/
import Derived.Test.YtbaefeecjjhhkaaGreatDoorPartOcbB
import Derived.Carry
import Derived.WideKeyArgs
import Derived.ProofKit
import Derived.OpenShut
import Derived.WalkKit
import Derived.Test.YtbaefeecjjhhkaaGreatDoorChecked
import Derived.Eval
import Derived.KernelRfl
set_option maxHeartbeats 8000000
open Go.Proofs Go.Proofs.Tryz
theorem Go.Ab.zmx:Go.Proofs.Tryz.prog.follows .mixedOrders=true:=Go.Proofs.Tryz.checked.mixed
open Go Go.Ab in
theorem Go.Ab.zcx{N:Nat}{S:Store}{f:FuncId}{fn:Func}{c:Code}{args:List V}{post:V->Store->Prop}(rs:List ResultVar)(hf:Tryz.prog.funcs[f]? =some fn)(hN:fn.ntmps=N)(h:CW Tryz.prog N c (QY Tryz.prog rs post) ⟨pz (args.map (V.up 1)) 0,[]::S⟩)(hb:fn.body=some c:=by exact rfl)(hn:(fn.name== "runtime.NumGoroutine")=false:=by exact rfl)(hr:fn.results.toList=rs:=by exact rfl)(hl:Nat.ble args.length N=true:=by exact rfl)(hok:codeOk N c=true:=by exact rfl):dw Tryz.prog f args S post:=aB (rs:=rs) zmx hf hN hb hn hr hl hok h
set_option linter.unusedSimpArgs false
set_option linter.unusedVariables false
set_option maxRecDepth 4000
namespace Go.Ab
section
variable {P:Program} {S S':Store} {N:Nat} {s:St}
theorem JW(S:Store)(β:Hs)(k:Key):Keep S β (bJ S k .dead) β:=by
 intro k' o ho;by_cases e:k=k'
 ·subst e;exact⟨.dead,eO _ _ _ _ ho,.inl rfl⟩
 ·exact⟨o,by rw[fI _ _ _ _ e];exact ho,nD.refl _ _⟩
theorem BK{k k':Key}{o:Obj}(h:bA (bJ S k .dead) k'=some o):(k=k'/\o=.dead)\/bA S k'=some o:=by
 by_cases e:k=k'
 ·subst e
  cases hg:bA S k with
  |none=>
   have:∀(S:Store)(k:Key),bA S k=none->bJ S k .dead=S:=by
    intro S
    induction S with
    |nil=>intro k _;rfl
    |cons fr S ih=>
     rintro⟨l,j⟩ h
     cases l with
     |zero=>
      rw[bR] at h;rw[bJ,List.set_eq_of_length_le (List.getElem?_eq_none_iff.1 h)]
     |succ l=>rw[dA] at h;rw[bJ,ih _ h]
   rw[this S k hg,hg] at h;cases h
  |some y=>
   rw[eO _ _ _ _ hg] at h;cases h;exact .inl ⟨rfl,rfl⟩
 ·rw[fI _ _ _ _ e] at h;exact .inr h
theorem VY(x:Obj):∀(S:Store)(k:Key),(bJ S k x).length=S.length
 |[],k=>rfl
 |fr::S,(0,j)=>by rw[bJ];simp
 |fr::S,(l+1,j)=>by rw[bJ,List.length_cons,VY x S,List.length_cons]
theorem Z7(x:Obj):∀(S:Store)(k:Key)(l:Nat)(fr:List Obj),(bJ S k x)[l]? =some fr->∃E8,S[l]? =some E8/\E8.length=fr.length
 |[],k,l,fr,h=>by simp[bJ] at h
 |f::S,(0,j),0,fr,h=>by rw[bJ] at h;simp at h;subst h;exact⟨f,rfl,by simp⟩
 |f::S,(0,j),l+1,fr,h=>by rw[bJ] at h;exact⟨fr,by simpa using h,rfl⟩
 |f::S,(i+1,j),0,fr,h=>by rw[bJ] at h;exact⟨fr,by simpa using h,rfl⟩
 |f::S,(i+1,j),l+1,fr,h=>by
  rw[bJ] at h;simpa using Z7 x S (i,j) l fr (by simpa using h)
theorem ah3{w:World}{σ:Nat->Nat}{β:Hs}(k:Key)(hS:fH w σ S β):fH w σ (bJ S k .dead) β:=by
 have hn:eG w σ w σ:=(Grow.refl hS.live).near;refine⟨fun k' o ho=> ?_,fun k1 k2 o1 o2 h1 h2 b e1 e2 e3 e4 e5 e6=> ?_,⟨by rw[VY];exact hS.shape.1,fun l fr hl=> ?_⟩,hS.live,hS.vO⟩
 ·rcases BK ho with⟨rfl,rfl⟩|ho'
  ·cases hg:bA S k with
   |none=>
    exfalso;have:=JW S β k;rcases BK (S:=S) (k:=k) (k':=k) ho with⟨_,_⟩|h
    ·
     have hne:bA (bJ S k .dead) k=none:=by
      have:∀(S:Store)(k:Key),bA S k=none->bA (bJ S k Obj.dead) k=none:=by
       intro S
       induction S with
       |nil=>intro k _;rw[bJ,uz]
       |cons fr S ih=>
        rintro⟨l,j⟩ h
        cases l with
        |zero=>
         rw[bR] at h;rw[bJ,bR,List.set_eq_of_length_le (List.getElem?_eq_none_iff.1 h)];exact h
        |succ l=>rw[dA] at h;rw[bJ,dA];exact ih _ h
      exact this S k hg
     rw[hne] at ho;cases ho
    ·rw[hg] at h;cases h
   |some y=>
    obtain⟨h,hh,_⟩:=hS.obj k y hg;exact⟨h,hh,trivial⟩
  ·obtain⟨h,hh,hr⟩:=hS.obj k' o ho';exact⟨h,hh,hr.mono hn ((JW S β k).drop k'.1) fun b _=>⟨rfl,rfl⟩⟩
 ·rcases BK e1 with⟨_,rfl⟩|R6
  ·cases e3
  ·rcases BK e4 with⟨_,rfl⟩|e4'
   ·cases e6
   ·exact hS.apart k1 k2 o1 o2 h1 h2 b R6 e2 e3 e4' e5 e6
 ·obtain⟨E8,h1,h2⟩:=Z7 _ S k l fr hl;obtain⟨gr,h3,h4⟩:=hS.shape.2 l E8 h1;exact⟨gr,h3,by omega⟩
def Less(r r':V):Prop:=∀w σ S β v,dS w σ S β r v->dS w σ S β r' v
theorem Less.refl(r:V):Less r r:=fun _ _ _ _ _ h=>h
theorem dw.kill{f:FuncId}{args:List V}{post post':V->Store->Prop}(k:Key)(h:dw P f args S post)(hp:∀r S',post r S'->∃r',Less r r'/\(post' r' S'\/post' r' (bJ S' k .dead))):dw P f args S post':=by
 refine⟨h.1,fun w σ β vs hS hv=>(h.2 w σ β vs hS hv).mono fun e w' ⟨v,r,S',σ',β',h1,h2,h3,h4,h5,h6⟩=> ?_⟩;obtain⟨r',hl,hp|hp⟩:=hp r S' h6
 ·exact⟨v,r',S',σ',β',h1,h2,h3,h4,hl _ _ _ _ _ h5,hp⟩
 ·have hkeep:=JW S' β' k;refine⟨v,r',bJ S' k .dead,σ',β',h1,ah3 k h2,h3.trans hkeep,⟨h4.size,h4.os,h4.output,h4.far,h4.near,fun b hb=> ?_⟩,hl _ _ _ _ _ (h5.mono (Grow.refl h2.live).near hkeep),hp⟩;obtain⟨k',o,hv,e1,e2,e3⟩:=hb;rcases BK e1 with⟨_,rfl⟩|R6
  ·cases e3
  ·exact h4.own b ⟨k',o,hv,R6,e2,e3⟩
theorem bQ{x y:Obj}:∀(S:Store)(k:Key),bJ (bJ S k x) k y=bJ S k y
 |[],k=>rfl
 |fr::S,(0,j)=>by rw[bJ,bJ,bJ];simp
 |fr::S,(l+1,j)=>by rw[bJ,bJ,bJ,bQ S]
theorem BL{x:Obj}:∀(S:Store)(k:Key),bA S k=some x->bJ S k x=S
 |[],k,_=>rfl
 |fr::S,(0,j),h=>by
  rw[bR] at h;rw[bJ];congr 1
  exact List.ext_getElem? fun i=>by
   rw[List.getElem?_set];split
   ·rename_i e;subst e;obtain⟨h1,h2⟩:=List.getElem?_eq_some_iff.1 h;simp[h1,h2]
   ·rfl
 |fr::S,(l+1,j),h=>by rw[dA] at h;rw[bJ,BL S _ h]
def xJ:List Bool->List V->List V
 |true::m,v::vs=>v::xJ m vs
 |false::m,v::vs=>v.tq::xJ m vs
 |[],vs=>vs.map V.tq
 |_,[]=>[]
theorem M4:∀(m:List Bool)(vs:List V),vs.length=(xJ m vs).length
 |true::m,v::vs=>by rw[xJ,List.length_cons,List.length_cons,M4 m vs]
 |false::m,v::vs=>by rw[xJ,List.length_cons,List.length_cons,M4 m vs]
 |[],vs=>by simp[xJ]
 |true::m,[]=>rfl
 |false::m,[]=>rfl
theorem QZ:∀(m:List Bool)(vs:List V)(j:Nat)(x y:V),vs[j]? =some x->(xJ m vs)[j]? =some y->y=x\/y=x.tq
 |true::m,v::vs,0,x,y,h1,h2=>by rw[xJ] at h2;cases h1;cases h2;exact .inl rfl
 |false::m,v::vs,0,x,y,h1,h2=>by rw[xJ] at h2;cases h1;cases h2;exact .inr rfl
 |true::m,v::vs,j+1,x,y,h1,h2=>by rw[xJ] at h2;exact QZ m vs j x y h1 h2
 |false::m,v::vs,j+1,x,y,h1,h2=>by rw[xJ] at h2;exact QZ m vs j x y h1 h2
 |[],vs,j,x,y,h1,h2=>by rw[xJ,List.getElem?_map,h1] at h2;cases h2;exact .inr rfl
 |true::m,[],j,x,y,h1,h2=>by simp at h1
 |false::m,[],j,x,y,h1,h2=>by simp at h1
theorem dw.xJ(m:List Bool){f:FuncId}{args:List V}{post:V->Store->Prop}(h:dw P f (Go.Ab.xJ m args) S post):dw P f args S post:=
 h.weaken (M4 m args) fun j x y hx hy w σ β v hr=>by
  rcases QZ m args j x y hx hy with e|e
  ·rw[e];exact hr
  ·rw[e];exact VA hr
theorem mQ(m:List Bool){dr:Option Nat}{f:FuncId}{args:List V}{dst:Option Nat}{K:St->Prop}{r:V}{S1:Store}(hm:aj0 dr=true)(h:dw P f (xJ m args) s.st (fun r' S'=>r'=r/\S'=S1))(hK:K (St.put ⟨s.tm,S1⟩ dst r)):fA P dr f args s dst K:=
 cK hm (h.xJ m) hK
end
theorem aC.less{P:Program}{f:FuncId}{args:List V}{r r':V}(h:aC P f args r)(hl:Less r r'):aC P f args r':=
 fun S=>(h S).kill (0,0) fun r1 S' e=>⟨r',by rw[e.1];exact hl,.inl ⟨rfl,e.2⟩⟩
section
variable {P:Program} {S:Store}
def jQ(n:Nat)(caps:List (Key×Nat)):List (Key×Nat):=caps.map fun y=>(CQ n y.1,y.2)
theorem abX{n:Nat}:jQ n []=[]:=rfl
theorem YS{n l j off:Nat}{caps:List (Key×Nat)}:jQ n (((l,j),off)::caps)=((n+l,j),off)::jQ n caps:=rfl
theorem Sk{m n:Nat}{caps:List (Key×Nat)}:jQ m (jQ n caps)=jQ (m+n) caps:=by
 unfold jQ;rw[List.map_map];refine List.map_congr_left fun y _=> ?_;simp only[Function.comp,CQ,Prod.mk.injEq,and_true];omega
theorem YT{n m g:Nat}{caps:List (Key×Nat)}:C.refs n (.fn g (jQ (m+1) caps))=true:=by
 simp only[C.refs,jQ,List.all_map,List.all_eq_true];intro x _
 have h:0<m+1+x.1.1:=by omega
 simp[Function.comp,kr,CQ,h]
theorem VZ{n:Nat}{caps:List (Key×Nat)}:((jQ 1 caps).all fun x=>kr n x.fst)=true:=YT (m:=0) (g:=0)
theorem V3:∀(F S:Store)(l j:Nat),bA (F++S) (F.length+l,j)=bA S (l,j)
 |[],S,l,j=>by simp
 |fr::F,S,l,j=>by
  rw[List.cons_append,List.length_cons,show F.length+1+l=(F.length+l)+1 from by omega,dA,V3 F S l j]
theorem V4(x:Obj):∀(F S:Store)(l j:Nat),bJ (F++S) (F.length+l,j) x=F++bJ S (l,j) x
 |[],S,l,j=>by simp
 |fr::F,S,l,j=>by
  rw[List.cons_append,List.length_cons,show F.length+1+l=(F.length+l)+1 from by omega,bJ,V4 x F S l j,List.cons_append]
theorem aeP{F S:Store}{j:Nat}:bA (F++S) (F.length,j)=bA S (0,j):=V3 F S 0 j
theorem aeQ{F S:Store}{j:Nat}{x:Obj}:bJ (F++S) (F.length,j) x=F++bJ S (0,j) x:=V4 x F S 0 j
attribute [go_sem] aeP aeQ abX YS
def pE(P:Program)(g:Nat)(caps:List (Key×Nat))(S:Store)(xs:List V)(r:V):Prop:=
 ∀F:Store,dw P g (xs++Eh (jQ F.length caps)) (F++S) (fun r' S'=>r'=r/\S'=F++S)
theorem pE.push{g:Nat}{caps:List (Key×Nat)}{xs:List V}{r:V}(h:pE P g caps S xs r)(fr:List Obj):pE P g (jQ 1 caps) (fr::S) xs r:=fun F=>by
 have:=h (F++[fr]);rw[Sk];simpa using this
theorem pE.Q0{g:Nat}{xs:List V}{r:V}(h:aC P g xs r):pE P g [] S xs r:=fun F=>by
 have:=h (F++S);simpa [jQ,Eh] using this
def Ip(P:Program)(g:Nat)(caps:List (Key×Nat)){α X:Type}(st:α->Store)(I:Nat->α->Prop)(f:α->X->α)(xv:X->V)(ok:X->Prop):Prop:=
 ∀n a u,I (n+1) a->ok u->I n (f a u)/\∀F:Store,dw P g (xv u::Eh (jQ F.length caps)) (F++st a) (fun r' S'=>r'=.dN []/\S'=F++st (f a u))
theorem Ip.push{g:Nat}{caps:List (Key×Nat)}{α X:Type}{st:α->Store}{I:Nat->α->Prop}{f:α->X->α}{xv:X->V}{ok:X->Prop}(h:Ip P g caps st I f xv ok)(fr:List Obj):
 Ip P g (jQ 1 caps) (fun a=>fr::st a) I f xv ok:=fun n a u ha hu=>⟨(h n a u ha hu).1,fun F=>by
 have:=(h n a u ha hu).2 (F++[fr]);rw[Sk]
 simpa using this⟩
theorem su{N:Nat}{c:Code}{Q:Exit->St->Prop}{tm:List (Nat×V)}{own:List Obj}{Ω:Store}(j i aW:Nat)(es:List (List D))(cs:List C)(hj:own[j]? =some (.box cs))(hi:cs[i]? =some (.bn es))(hes:∀e∈es,e.length=aW)
 (h:AW P N c Q ⟨tm,(own.set j (.box (cs.set i (.bB (0,own.length) es)))++[.tok aW es])::Ω⟩):AW P N c Q ⟨tm,own::Ω⟩:=by
 refine ni h fun a w σ β hR=> ?_;obtain⟨bo,bΩ,rfl,hlen⟩:=frames hR;have hjl:=(List.getElem?_eq_some_iff.1 hj).1
 have hg0:bA (own::Ω) (0,j)=some (.box cs):=by rw[bR];exact hj
 obtain⟨hb,Mi,hr⟩:=hR.S.obj (0,j) _ hg0;obtain⟨b,cv,ty,rfl,hbc,hσ,hcs⟩:=hr;have hcs:gL w σ (own::Ω) (bo::bΩ) cs cv.toList:=hcs;obtain⟨v,hv,⟨hd,ad,n,hval⟩,hone⟩:=hcs.2 i _ hi
 have hn:n=es.length:=by rw[hval] at hd;cases hd<;>rfl
 have hg:Grow w σ w σ:=Grow.refl hR.S.live
 obtain⟨hS',hk,hst⟩:=hR.S.push (o:=.tok aW es) (h:=v) hg hlen ⟨hd,hes,ad,n,by rw[hval,hn],by omega,.inl hn⟩ (fun b hb=>by
  rw[hval,hn] at hb
  cases ad<;>simp[owns,blk] at hb)
 have hk1:bA ((own++[.tok aW es])::Ω) (0,j)=some (.box cs):=kN _ _ _ _ _ hg0;have Jj:bA ((bo++[v])::bΩ) (0,j)=some (.pointer (some ⟨b,0,none⟩)):=kN _ _ _ _ _ Mi;have hko:nD (.box cs) (some (Value.pointer (some ⟨b,0,none⟩))) (.box (cs.set i (.bB (0,own.length) es))) (some (Value.pointer (some ⟨b,0,none⟩))):=.inr ⟨⟨_,rfl⟩,rfl⟩
 have hK:Keep ((own++[.tok aW es])::Ω) ((bo++[v])::bΩ) (bJ ((own++[.tok aW es])::Ω) (0,j) (.box (cs.set i (.bB (0,own.length) es)))) (bJ ((bo++[v])::bΩ) (0,j) (.pointer (some ⟨b,0,none⟩))):=by
  intro k1 o1 e1;by_cases e:k1=(0,j)
  ·subst e;rw[hk1] at e1;cases e1;exact⟨_,eO _ _ _ _ hk1,by rw[Jj,eO _ _ _ _ Jj];exact hko⟩
  ·exact⟨o1,(fI _ _ _ _ (Ne.symm e)).trans e1,by rw[fI _ _ _ _ (Ne.symm e)];exact .refl _ _⟩
 have hne:(0,own.length)≠(0,j):=fun e=>by injection e with _ e;omega
 obtain⟨hS2,hk2,xI⟩:=hS'.set (w':=w) (σ':=σ) (o':=.box (cs.set i (.bB (0,own.length) es))) (h':=.pointer (some ⟨b,0,none⟩)) hk1 Jj (Nat.le_refl _) rfl rfl (eG.refl _ _) hS'.live (fun _ _ _=>⟨rfl,rfl⟩) hko
  ⟨b,cv,ty,rfl,hbc,hσ,by
    refine⟨by rw[List.length_set];exact hcs.1,fun m x hm=> ?_⟩;rw[List.getElem?_set] at hm;by_cases e:i=m
    ·subst e;rw[if_pos rfl] at hm;split at hm
     ·cases hm;refine⟨v,hv,⟨hd,.tok aW es,?_,fun a1 b1 e1=> ?_⟩,hone⟩
      ·show bA (bJ _ (0,j) _) (0,own.length)=_;rw[fI _ _ _ _ (Ne.symm hne),dx]
      ·obtain⟨_,rfl⟩:=oL (lab:=none) e1;refine⟨Nat.le_refl _,fun _=> ?_⟩;show bA (bJ _ (0,j) _) (0,own.length)=_;rw[fI _ _ _ _ (Ne.symm hne),<-hlen,dx]
     ·cases hm
    ·rw[if_neg e] at hm;obtain⟨u,hu,hc,ho⟩:=hcs.2 m x hm
     exact⟨u,hu,(hc.mono (eG.refl _ _) hk).mono (eG.refl _ _) hK,ho⟩⟩ (fun _ e=>.inl e)
 have est:bJ ((own++[.tok aW es])::Ω) (0,j) (.box (cs.set i (.bB (0,own.length) es)))=(own.set j (.box (cs.set i (.bB (0,own.length) es)))++[.tok aW es])::Ω:=by
  rw[bJ,List.set_append_left _ _ hjl]
 rw[est] at hS2 hk2 xI
 exact⟨σ,_,⟨hR.size,hR.defers,hS2,fun u=>((hR.T u).mono (eG.refl _ _) hk).mono (eG.refl _ _) hk2⟩,hst.trans xI,by
  have:=hk.trans hk2
  exact this.tail⟩
end
inductive D.Fit:D->Prop
 |b (x):Fit (.b x)
 |i (k n):Fit (.i k n)
 |s (l) (h:l.length<=9223372036854775807):Fit (.s l)
 |sl (es) (h:es.length<=9223372036854775807) (hh:∀e∈es,∀d∈e,Fit d):Fit (.sl es)
 |o (v):Fit (.o v)
def Ej(cs:List D):Prop:=∀d∈cs,d.Fit
theorem El:Ej []:=fun d h=>by cases h
theorem Fb{d:D}{ds:List D}:Ej (d::ds)<->d.Fit/\Ej ds:=by simp[Ej]
theorem YU{a b:List D}:Ej (a++b)<->Ej a/\Ej b:=by
 simp only[Ej,List.mem_append];exact⟨fun h=>⟨fun d hd=>h d (.inl hd),fun d hd=>h d (.inr hd)⟩,fun h d hd=>hd.elim (h.1 d) (h.2 d)⟩
def WTF(P:Program)(W:TypeId->List D->Prop):List Field->List D->Prop
 |[],ds=>ds=[]
 |f::fs,ds=>∃a b,ds=a++b/\a.length=P.cellsOf f.type/\W f.type a/\WTF P W fs b
def WT(P:Program):Nat->TypeId->List D->Prop
 |0,_,_=>False
 |n+1,t,ds=>
  match P.underlying t with
  |some .bool=>∃b,ds=[.b b]
  |some (.int k)=>∃x,ds=[.i k x]/\(Lit.int k x).wf=true
  |some .string=>∃l,ds=[.s l]/\l.length<=9223372036854775807
  |some (.slice e)=>∃es,ds=[.sl es]/\es.length<=9223372036854775807/\∀x∈es,x.length=P.cellsOf e/\WT P n e x
  |some (.struct fs)=>WTF P (WT P n) fs.toList ds
  |_=>False
def Dh(P:Program):List Field->Nat->Nat->Bool
 |[],a,b=>a==b
 |f::fs,a,b=>f.offset==a&&Dh P fs (a+P.cellsOf f.type) b
def Q5(P:Program)(L:List TypeId):Bool:=
 L.all fun t=>match P.underlying t with
  |some .bool|some (.int _)|some .string=>P.cellsOf t==1
  |some (.slice e)=>P.cellsOf t==1&&L.contains e&&decide (0<P.cellsOf e)
  |some (.struct fs)=>Dh P fs.toList 0 (P.cellsOf t)&&fs.toList.all fun f=>L.contains f.type
  |_=>false
def lF(w:World)(b:Nat):Nat:=match w.heap[b]? with
 |some (.cells c _ _)=>c.size
 |_=>0
def uK(w:World)(ds:List D)(vs:List Value):Prop:=ds.length=vs.length/\∀(j:Nat)(d:D),ds[j]? =some d->∃v,vs[j]? =some v/\dJ w (lF w) d v/\v.oneCell'=true
theorem uK.append{w:World}{a b:List D}{xs ys:List Value}(h1:uK w a xs)(h2:uK w b ys):uK w (a++b) (xs++ys):=by
 refine⟨by simp[h1.1,h2.1],fun j d hj=> ?_⟩;rw[List.getElem?_append] at hj ⊢;have:=h1.1;split at hj
 ·rw[if_pos (by omega)];exact h1.2 j d hj
 ·rw[if_neg (by omega),<-h1.1];exact h2.2 _ d hj
theorem uK.one{w:World}{d:D}{v:Value}(h:dJ w (lF w) d v)(h1:v.oneCell'=true):uK w [d] [v]:=by
 refine⟨rfl,fun j x hj=> ?_⟩
 cases j with
 |zero=>cases hj;exact⟨v,rfl,h,h1⟩
 |succ j=>simp at hj
theorem V5{α β:Type}(f:α->Option β):∀(l:List α)(ys:List β),l.mapM f=some ys->ys.length=l.length/\∀(j:Nat)(x:α),l[j]? =some x->∃y,f x=some y/\ys[j]? =some y
 |[],ys,h=>by
  simp at h;subst h;exact⟨rfl,fun j x hj=>by simp at hj⟩
 |a::l,ys,h=>by
  rw[List.mapM_cons] at h
  cases ha:f a with
  |none=>rw[ha] at h;cases h
  |some y=>
   cases hl:l.mapM f with
   |none=>rw[ha,hl] at h;cases h
   |some zs=>
    rw[ha,hl] at h;cases h;obtain⟨h1,h2⟩:=V5 f l zs hl;refine⟨by simp[h1],fun j x hj=> ?_⟩
    cases j with
    |zero=>cases hj;exact⟨y,ha,rfl⟩
    |succ j=>exact h2 j x hj
section
variable {H:Type} {enc:TypeId×Value->H} {P:Program} {w:World} {L:List TypeId}
theorem Iq{a:Addr}{n:Nat}{vs:List Value}(hn:0<n)(h:w.cells? 0 a n=some vs):a.spot=none/\vs.length=n/\∃c t fz,w.heap[a.block]? =some (.cells c t fz)/\∀j,j<n->∃v,vs[j]? =some v/\c[a.off+j]? =some v:=by
 unfold World.cells? at h;rw[if_pos (Nat.zero_le _)] at h;obtain⟨h1,h2⟩:=V5 _ _ _ h;rw[List.length_range] at h1;obtain⟨v0,hv0,_⟩:=h2 0 0 (by simp[hn])
 have UG:a.add 0=a:=by simp[Addr.add]
 rw[UG] at hv0;unfold World.cell? at hv0
 cases hb:w.heap[a.block]? with
 |none=>rw[hb] at hv0;cases hv0
 |some ob=>
  rw[hb] at hv0
  cases ob with
  |map _ _=>cases hv0
  |cells c t fz=>
   have hs:a.spot=none:=by
    cases hsp:a.spot with
    |none=>rfl
    |some x=>rw[hsp] at hv0;simp at hv0
   refine⟨hs,h1,c,t,fz,rfl,fun j hj=> ?_⟩;obtain⟨v,hv,hvs⟩:=h2 j j (by simp[hj]);refine⟨v,hvs,?_⟩;unfold World.cell? at hv;by_cases hj0:j=0
   ·subst hj0;rw[UG,hb] at hv;simp[hs] at hv;simpa using hv
   ·simp[Addr.add,hj0,hb] at hv;exact hv
  |_=>cases hv0
theorem Ms{α:Type}{p:Nat->α->Prop}:∀n:Nat,(∀i,i<n->∃x,p i x)->∃l:List α,l.length=n/\∀(i:Nat)(x:α),l[i]? =some x->p i x
 |0,_=>⟨[],rfl,fun i x h=>by simp at h⟩
 |n+1,h=>by
  obtain⟨l,hl,hp⟩:=Ms n fun i hi=>h i (by omega);obtain⟨x,hx⟩:=h n (by omega);refine⟨l++[x],by simp[hl],fun i y hy=> ?_⟩;rw[List.getElem?_append] at hy;split at hy
  ·exact hp i y hy
  ·rename_i hlt
   have hi:i-l.length<1:=by
    have:=(List.getElem?_eq_some_iff.1 hy).1;simpa using this
   have:i=n:=by omega
   subst this;rw[show i-l.length=0 from by omega] at hy;cases hy;exact hx
theorem aeR(hc:Q5 P L=true){t:TypeId}(ht:t∈L):(match P.underlying t with
 |some .bool|some (.int _)|some .string=>P.cellsOf t==1
 |some (.slice e)=>P.cellsOf t==1&&L.contains e&&decide (0<P.cellsOf e)
 |some (.struct fs)=>Dh P fs.toList 0 (P.cellsOf t)&&fs.toList.all fun f=>L.contains f.type
 |_=>false)=true:=List.all_eq_true.1 hc t ht
theorem YV{n:Nat}{fs:List Field}{cs:List Value}:∀(off:Nat),off<=cs.length->Dh P fs off cs.length=true->
 (∀f∈fs,∃ds,WT P n f.type ds/\uK w ds ((cs.drop f.offset).take (P.cellsOf f.type)))->∃ds,WTF P (WT P n) fs ds/\uK w ds (cs.drop off):=by
 induction fs with
 |nil=>
  intro off _ ht _
  have:off=cs.length:=by simpa [Dh] using ht
  exact⟨[],rfl,by simp[this,uK]⟩
 |cons f fs ih=>
  intro off ho ht h;simp only[Dh,Bool.and_eq_true,beq_iff_eq] at ht;obtain⟨a,ha1,ha2⟩:=h f (by simp)
  have hle:∀(fs:List Field)(o:Nat),Dh P fs o cs.length=true->o<=cs.length:=by
   intro fs
   induction fs with
   |nil=>intro o h;have:o=cs.length:=by simpa [Dh] using h
         omega
   |cons g gs ih=>intro o h;simp only[Dh,Bool.and_eq_true] at h;have:=ih _ h.2;omega
  have hle':=hle fs _ ht.2;obtain⟨b,hb1,hb2⟩:=ih (off+P.cellsOf f.type) hle' ht.2 fun g hg=>h g (by simp[hg]);rw[ht.1] at ha2;refine⟨a++b,⟨a,b,rfl,?_,ha1,hb1⟩,?_⟩
  ·rw[ha2.1];simp;omega
  ·have:=ha2.append hb2;rw[<-List.drop_drop,List.take_append_drop] at this;exact this
theorem JX(hc:Q5 P L=true){sp:Nat->Bool}{held:Bool}:∀(fuel:Nat)(t:TypeId)(cs:List Value)(x:DataW H×List MemPlace),t∈L->
 DataW.trod enc P w 0 sp held fuel t cs=some x->∃ds,WT P fuel t ds/\uK w ds cs
 |0,t,cs,x,_,h=>by simp[DataW.trod] at h
 |n+1,t,cs,x,ht,h=>by
  have hcl:=aeR hc ht
  cases hu:P.underlying t with
  |none=>rw[hu] at hcl;cases hcl
  |some u=>
   rw[hu] at hcl
   cases u with
   |bool=>
    obtain⟨b,rfl,_⟩:=DataW.trod_bool hu h;exact⟨[.b b],by simp only[WT,hu];exact⟨b,rfl⟩,uK.one (.b b) rfl⟩
   |int k=>
    obtain⟨m,rfl,_,hw⟩:=DataW.trod_int hu h;exact⟨[.i k m],by simp only[WT,hu];exact⟨m,rfl,hw⟩,uK.one (.i k m) rfl⟩
   |string=>
    obtain⟨s,rfl,_,hs⟩:=DataW.trod_string hu h
    have hl:s.data.toList.length<=9223372036854775807:=by
     have h1:s.data.toList.length=s.size:=by rw[Array.length_toList];rfl
     rw[h1];exact hs
    refine⟨[.s s.data.toList],?_,uK.one ?_ rfl⟩
    ·simp only[WT,hu];exact⟨_,rfl,hl⟩
    ·exact .s s.data.toList
   |slice e=>
    simp only[Bool.and_eq_true,beq_iff_eq,decide_eq_true_eq,List.contains_iff_mem] at hcl;obtain⟨⟨h1,he⟩,hpos⟩:=hcl;rcases DataW.trod_slice hu h with⟨rfl,_⟩|⟨a,len,cap,elems,rest,m,hm,rfl,_,_,hlc,hcm,hel,hget,_,_⟩
    ·exact⟨[.sl []],by simp only[WT,hu];exact⟨[],rfl,by simp,fun x hx=>by cases hx⟩,uK.one (.nil _ _) rfl⟩
    ·cases hm
     have hall:∀i,i<len->∃ds:List D,ds.length=P.cellsOf e/\WT P n e ds/\∃vs,w.cells? 0 (a.add (i*P.cellsOf e)) (P.cellsOf e)=some vs/\uK w ds vs:=by
      intro i hi;have hg:=hget i hi
      cases hcs:w.cells? 0 (a.add (i*P.cellsOf e)) (P.cellsOf e) with
      |none=>
       rw[hcs] at hg
       have:i<elems.length:=by omega
       rw[List.getElem?_eq_getElem this] at hg;cases hg
      |some vs=>
       rw[hcs] at hg
       have hlt:i<elems.length:=by omega
       rw[List.getElem?_eq_getElem hlt] at hg;obtain⟨ds,hd1,hd2⟩:=JX hc n e vs _ he hg;have hv:=(Iq hpos hcs).2.1;exact⟨ds,by rw[hd2.1,hv],hd1,vs,rfl,hd2⟩
     obtain⟨es,hes,hp⟩:=Ms len hall
     have hwt:WT P (n+1) t [.sl es]:=by
      simp only[WT,hu]
      refine⟨es,rfl,by have:cap<=9223372036854775807:=hcm
                       omega,fun x hx=> ?_⟩
      obtain⟨i,hi⟩:=List.getElem?_of_mem hx;exact⟨(hp i x hi).1,(hp i x hi).2.1⟩
     refine⟨[.sl es],hwt,?_⟩
     cases HY:es with
     |nil=>
      have h0:len=0:=by rw[<-hes,HY];rfl
      subst h0;exact uK.one (.nil _ _) rfl
     |cons e0 es0=>
      have aoQ:0<len:=by rw[<-hes,HY];simp
      have hlen:∀x∈es,x.length=P.cellsOf e:=fun x hx=>by
       obtain⟨i,hi⟩:=List.getElem?_of_mem hx;exact(hp i x hi).1
      obtain⟨ds0,_,_,vs0,am2,_⟩:=hall 0 aoQ
      have UG:a.add (0*P.cellsOf e)=a:=by simp[Addr.add]
      rw[UG] at am2;obtain⟨hsp,_,c,tt,fz,hblk,_⟩:=Iq hpos am2
      have hcell:∀i r,i<len->r<P.cellsOf e->∃(x:List D) (v:Value) (d:D),es[i]? =some x/\x[r]? =some d/\c[a.off+(i*P.cellsOf e+r)]? =some v/\dJ w (lF w) d v:=by
       intro i r hi hr
       have hlt:i<es.length:=by omega
       obtain⟨hx1,hx2,vs,hvs,hrep⟩:=hp i es[i] (List.getElem?_eq_getElem hlt);obtain⟨_,hvl,c',t',ZY,hblk',hcc⟩:=Iq hpos hvs
       have hb':(a.add (i*P.cellsOf e)).block=a.block:=by unfold Addr.add;split<;>rfl
       have ho':(a.add (i*P.cellsOf e)).off=a.off+i*P.cellsOf e:=by unfold Addr.add;split<;>simp_all
       rw[hb',hblk] at hblk';cases hblk';obtain⟨v,hv1,hv2⟩:=hcc r hr
       have hdr:r<es[i].length:=by omega
       obtain⟨v',hv',hd',_⟩:=hrep.2 r es[i][r] (List.getElem?_eq_getElem hdr);rw[hv1] at hv';cases hv';refine⟨es[i],v,es[i][r],List.getElem?_eq_getElem hlt,List.getElem?_eq_getElem hdr,?_,hd'⟩;rw[ho'] at hv2;rw[<-Nat.add_assoc];exact hv2
      have hbound:a.off+len*P.cellsOf e<=c.size:=by
       obtain⟨_,v,_,_,_,hv,_⟩:=hcell (len-1) (P.cellsOf e-1) (by omega) (by omega);have:=(Array.getElem?_eq_some_iff.1 hv).1
       have e1:(len-1)*P.cellsOf e+P.cellsOf e=len*P.cellsOf e:=by
        rw[<-Nat.succ_mul];congr 1;omega
       omega
      have key:dJ w (lF w) (.sl es) (.slice (some ⟨a.block,a.off,none⟩) es.length cap):=by
       refine .sl a.block a.off cap (P.cellsOf e) es (fun j=>(c[a.off+j]?).getD undef) c tt fz (by omega) hlen hblk ?_ (fun j hj=> ?_) (fun j d hj=> ?_)
       ·unfold lF;rw[hblk,hes];exact hbound
       ·have:a.off+j<c.size:=by rw[hes] at hj;omega
        rw[Array.getElem?_eq_getElem this];rfl
       ·have hfl:es.flatten.length=es.length*P.cellsOf e:=j4 es _ hlen
        have hjl:j<es.length*P.cellsOf e:=by rw[<-hfl];exact(List.getElem?_eq_some_iff.1 hj).1
        have hi:j/P.cellsOf e<len:=by rw[<-hes];exact(Nat.div_lt_iff_lt_mul hpos).2 hjl
        obtain⟨x,v,d',hx,hd',hv,hr⟩:=hcell (j/P.cellsOf e) (j % P.cellsOf e) hi (Nat.mod_lt _ hpos)
        have hlt':j/P.cellsOf e<es.length:=by omega
        have hfg:=flat_get es (P.cellsOf e) hlen (j/P.cellsOf e) (j % P.cellsOf e) hlt' (Nat.mod_lt _ hpos)
        have hj':j/P.cellsOf e*P.cellsOf e+j % P.cellsOf e=j:=by rw[Nat.mul_comm];exact Nat.div_add_mod j _
        rw[hj',hj] at hfg;rw[List.getElem?_eq_getElem hlt'] at hx;cases hx;rw[hd'] at hfg;cases hfg;rw[hj'] at hv;rw[hv];exact hr
      rw[<-HY];refine uK.one ?_ rfl
      have ha:a=⟨a.block,a.off,none⟩:=by cases a;simp at hsp;simp[hsp]
      rw[ha,<-hes];exact key
   |struct fs=>
    simp only[Bool.and_eq_true] at hcl;obtain⟨htl,hfs⟩:=hcl;obtain⟨xs,m,hm,rfl,hlen,hxs,aqp⟩:=DataW.trod_struct hu h;cases hm;rw[<-hlen] at htl
    obtain⟨ds,h1,h2⟩:=YV (w:=w) (n:=n) (cs:=cs) 0 (Nat.zero_le _) htl fun f hf=>by
     obtain⟨i,hi⟩:=List.getElem?_of_mem hf
     have hi':fs[i]? =some f:=by simpa using hi
     have hg:=aqp i f hi'
     have hlt:i<xs.length:=by
      rw[hxs];exact(Array.getElem?_eq_some_iff.1 hi').1
     rw[List.getElem?_eq_getElem hlt] at hg
     have hfL:f.type∈L:=by
      have:=List.all_eq_true.1 hfs f hf;simpa using this
     exact JX hc n f.type _ _ hfL hg
    refine⟨ds,by simp only[WT,hu];exact h1,?_⟩;rw[List.drop_zero] at h2;exact h2
   |_=>cases hcl
end
open Go.ChangeShapes Go.WideShapes Go.ChangeAt Go.RowKit
section
variable {H:Type} {enc:TypeId×Value->H} {P:Program} {W W':World} {L:List TypeId} {t:TypeId} {v:Value} {base:Nat}
theorem ah4{d:D}(hv:v.cells.toList=[v])(hL:uK W [d] v.cells.toList):dS W (lF W) [] [] (.c (.d d)) v:=by
 obtain⟨u,h1,h2,h3⟩:=hL.2 0 d rfl;rw[hv] at h1;cases h1;exact⟨h2,h3⟩
theorem aeS{e:TypeId}{d:D}(ht:P.underlying t=some (.slice e))(hok:Value.okWide P W .any base t v)(hL:uK W [d] v.cells.toList):dS W (lF W) [] [] (.c (.d d)) v:=by
 obtain⟨a,n,m,rfl⟩:=okWide_slice ht hok;exact ah4 rfl hL
theorem aeT:qh W (lF W) [] [] [] []:=⟨rfl,fun j x h=>by simp at h⟩
theorem abY{x:V}{xs:List V}{vs:List Value}(h1:dS W (lF W) [] [] x v)(h2:qh W (lF W) [] [] xs vs):qh W (lF W) [] [] (x::xs) (v::vs):=by
 refine⟨by simp[h2.1],fun j y hj=> ?_⟩
 cases j with
 |zero=>cases hj;exact⟨v,rfl,h1⟩
 |succ j=>exact h2.2 j y hj
theorem ah5(W:World)(hg:l7 W (lF W)):fH W (lF W) [] [] where
 vO:=hg
 obj:=fun k o h=>by rw[uz] at h;cases h
 apart:=fun k k' o o' h h' b h1=>by rw[uz] at h1;cases h1
 shape:=⟨rfl,fun l fr h=>by simp at h⟩
 live:=fun b=>by
  by_cases h:b<W.heap.size
  ·exact .inl h
  ·right;unfold lF;rw[Array.getElem?_eq_none (by omega)]
theorem am3{b:Nat}:¬Own [] [] b:=fun⟨k,o,h,h1,_⟩=>by rw[uz] at h1;cases h1
theorem Jk(hl:laidOutB P=true)(hsame:∀b,b<W.heap.size->W'.heap[b]? =W.heap[b]?)(sp:Nat->Bool):∀(ts:List TypeId)(vs:List Value)(ds:List (DataW H))(ps:List MemPlace),
 (ts.all fun t=>P.readableRec t&&decide (t<P.types.size))=true->(∀p∈ps,p.block<W.heap.size/\sp p.block=true)->
   DataW.TrodAll enc P W 0 (fun _=>true) true ts vs ds ps->DataW.TrodAll enc P W' 0 sp true ts vs ds ps
 |[],[],[],ps,_,_,h=>h
 |t::ts,v::vs,d::ds,ps,hr,hlt,h=>by
  simp only[List.all_cons,Bool.and_eq_true,decide_eq_true_eq] at hr;obtain⟨p,q,h1,h2,rfl⟩:=h;refine⟨p,q,WideElems.Trod_stays hl hr.1.1 hr.1.2 h1 (fun x hx=> ?_) (fun x hx=>(hlt x (by simp[hx])).2),Jk hl hsame sp ts vs ds q hr.2 (fun x hx=>hlt x (by simp[hx])) h2,rfl⟩;have hb:=(hlt x (by simp[hx])).1
  cases x with
  |cell b o=>exact World.cell?_of_block (w:=W) (hsame b hb)
  |map b=>exact hsame b hb
 |[],[],_::_,ps,_,_,h=>h.elim
 |[],_::_,_,ps,_,_,h=>h.elim
 |_::_,[],_,ps,_,_,h=>h.elim
 |_::_,_::_,[],ps,_,_,h=>h.elim
theorem ah6{f:FuncId}{fn:Func}{s:ChangeSpec}{args:Array Value}{ds gs:List (DataW H)}{before:List MemPlace}{vs:List V}{tb:TypeId}(hl:laidOutB P=true)
 (hr:(fn.params.toList.all fun t=>P.readableRec t&&decide (t<P.types.size))=true)(hvars:s.vars=[])(hres:fn.resultTypes= #[tb])(htb:P.underlying tb=some .bool)
 (hs1:(s.fn H (ds++gs)).results=[.lit (.bool true)])(hs2:(s.fn H (ds++gs)).args=ds)(hs3:(s.fn H (ds++gs)).vars=[])
 (hW:DataW.Whole enc P fn.params.toList s.vars false W args.toList ds gs before)(hargs:qh W (lF W) [] [] vs args.toList)
 (hcall:dw P f vs [] fun r _=>r=.c (.d (.b true)))(aoR:l7 W (lF W):=by(intro g p hm;exact absurd hm List.not_mem_nil)):
 Calls P f args W fun e W'=>∃v,e=.returned v/\s.post enc P fn false true false false W args v W':=by
 have hc:=hcall.2 W (lF W) [] args.toList (ah5 W aoR) hargs
 have e1:args.toList.toArray=args:=by simp
 rw[e1] at hc;refine hc.mono fun e W' ⟨v,r,S',σ',β',he,hS',hk,hst,hv,hp⟩=> ?_;subst hp;obtain⟨hv,_⟩:=hv;cases hv;refine⟨_,he,?_⟩;have hsame:∀b,b<W.heap.size->W'.heap[b]? =W.heap[b]? :=fun b hb=>(hst.far b hb am3).1;have hlt:=fun p hp=>hW.lt p hp;have hW0:=hW;obtain⟨pa,q,hA,hV,rfl,hz,hn⟩:=hW;rw[hvars] at hV
 have hq:gs=[]/\q=[]:=by
  obtain⟨h1,h2⟩:=trodVars_none hV;exact⟨h1,h2⟩
 obtain⟨rfl,rfl⟩:=hq
 rw[List.append_nil] at *
 refine⟨ds,[],pa,[],pa,[],?_,?_,?_,?_,?_,fun h=>by cases h⟩
 ·simpa using hW0
 ·rw[List.append_nil,hs1,hres];exact trodAll_cons_mk (shut_bool htb _) trodAll_mk0
 ·rw[List.append_nil,hs2];exact Jk hl hsame _ _ _ _ _ hr (fun p hp=>⟨hlt p hp,by simpa using hlt p hp⟩) hA
 ·rw[List.append_nil,hs3,hvars];rfl
 ·refine⟨hst.os,hst.output,fun i hi=> ?_⟩;rw[hsame i hi];split<;>simp_all
end
structure Hq(p:Prop):Prop where
 out:p
theorem W1{G K:Prop}(k:K)(e:Hq K->G:=by intro k;simp -implicitDefEqProofs (disch:=omega) only[go_sem];exact k.out):G:=e ⟨k⟩
theorem Z1{G:Prop}(e:G:=by simp -implicitDefEqProofs (disch:=omega) only[go_sem];done):G:=e
theorem W2{G K:Prop}(k:K)(e:Hq K->G:=by intro k;simp -implicitDefEqProofs (disch:=omega) only[go_sem]<;>(repeat(with_reducible refine And.intro ?_ ?_;focus first|omega|rfl|assumption|exact⟨_,rfl,rfl⟩|(simp;omega)|(simp;done)));exact k.out):G:=e ⟨k⟩
theorem W3{G K:Prop}(k:K)(e:Hq K->G:=by intro k;(repeat(with_reducible refine And.intro ?_ ?_;focus first|omega|rfl|assumption|exact⟨_,rfl,rfl⟩|(simp;omega)|(simp;done)));exact k.out):G:=e ⟨k⟩
theorem S0{c:Bool}{s:St}{A B:St->Prop}{P Q:Prop}{A':P->Prop}{B':Q->Prop}(k:c=true->(h:P)->A' h)(k2:c=false->(h:Q)->B' h)(e:Hq (c=true->(h:P)->A' h)->c=true->A s:=by intro k hb;have h:=hb;(try simp only[wf_preprocess] at h);simp -implicitDefEqProofs (disch:=omega) only[go_sem,hb]<;>(repeat(with_reducible refine And.intro ?_ ?_;focus first|omega|rfl|assumption|exact⟨_,rfl,rfl⟩|(simp;omega)|(simp;done)));exact k.out hb h)
 (e2:Hq (c=false->(h:Q)->B' h)->c=false->B s:=by intro k hb;have h:=hb;(try simp only[wf_preprocess] at h);simp -implicitDefEqProofs (disch:=omega) only[go_sem,hb]<;>(repeat(with_reducible refine And.intro ?_ ?_;focus first|omega|rfl|assumption|exact⟨_,rfl,rfl⟩|(simp;omega)|(simp;done)));exact k.out hb h):Split c A B s:=dZ (e ⟨k⟩) (e2 ⟨k2⟩)
theorem S1{c:Bool}{s:St}{A B:St->Prop}{Q:Prop}{B':Q->Prop}(k2:c=false->(h:Q)->B' h)(e:c=true->A s:=by intro hb;have h:=hb;(try simp only[wf_preprocess] at h);simp -implicitDefEqProofs (disch:=omega) only[go_sem,hb]<;>(repeat(with_reducible refine And.intro ?_ ?_;focus first|omega|rfl|assumption|exact⟨_,rfl,rfl⟩|(simp;omega)|(simp;done)));done)
 (e2:Hq (c=false->(h:Q)->B' h)->c=false->B s:=by intro k hb;have h:=hb;(try simp only[wf_preprocess] at h);simp -implicitDefEqProofs (disch:=omega) only[go_sem,hb]<;>(repeat(with_reducible refine And.intro ?_ ?_;focus first|omega|rfl|assumption|exact⟨_,rfl,rfl⟩|(simp;omega)|(simp;done)));exact k.out hb h):Split c A B s:=dZ e (e2 ⟨k2⟩)
theorem S2{c:Bool}{s:St}{A B:St->Prop}{P:Prop}{A':P->Prop}(k:c=true->(h:P)->A' h)(e:Hq (c=true->(h:P)->A' h)->c=true->A s:=by intro k hb;have h:=hb;(try simp only[wf_preprocess] at h);simp -implicitDefEqProofs (disch:=omega) only[go_sem,hb]<;>(repeat(with_reducible refine And.intro ?_ ?_;focus first|omega|rfl|assumption|exact⟨_,rfl,rfl⟩|(simp;omega)|(simp;done)));exact k.out hb h)
 (e2:c=false->B s:=by intro hb;have h:=hb;(try simp only[wf_preprocess] at h);simp -implicitDefEqProofs (disch:=omega) only[go_sem,hb]<;>(repeat(with_reducible refine And.intro ?_ ?_;focus first|omega|rfl|assumption|exact⟨_,rfl,rfl⟩|(simp;omega)|(simp;done)));done):Split c A B s:=dZ (e ⟨k⟩) e2
theorem S3{c:Bool}{s:St}{A B:St->Prop}(e:c=true->A s:=by intro hb;have h:=hb;(try simp only[wf_preprocess] at h);simp -implicitDefEqProofs (disch:=omega) only[go_sem,hb]<;>(repeat(with_reducible refine And.intro ?_ ?_;focus first|omega|rfl|assumption|exact⟨_,rfl,rfl⟩|(simp;omega)|(simp;done)));done)(e2:c=false->B s:=by intro hb;have h:=hb;(try simp only[wf_preprocess] at h);simp -implicitDefEqProofs (disch:=omega) only[go_sem,hb]<;>(repeat(with_reducible refine And.intro ?_ ?_;focus first|omega|rfl|assumption|exact⟨_,rfl,rfl⟩|(simp;omega)|(simp;done)));done):Split c A B s:=dZ e e2
section
variable {P:Program} {s:St} {dr:Option Nat} {f:FuncId} {args:List V} {dst:Option Nat} {K:St->Prop} {r:V}
theorem C1{Q:Prop}(h:aC P f (args.map V.tq) r)(k:Q)(e:Hq Q->K (s.put dst r):=by intro k;simp -implicitDefEqProofs (disch:=omega) only[go_sem];exact k.out):fA P dr f args s dst K:=aX h (e ⟨k⟩)
theorem C2{Q:Prop}(h:aC P f (args.map V.tq) r)(k:Q)(e:Hq Q->K (s.put dst r):=by intro k;simp -implicitDefEqProofs (disch:=omega) only[go_sem]<;>(repeat(with_reducible refine And.intro ?_ ?_;focus first|omega|rfl|assumption|exact⟨_,rfl,rfl⟩|(simp;omega)|(simp;done)));exact k.out):fA P dr f args s dst K:=aX h (e ⟨k⟩)
theorem C3(h:aC P f (args.map V.tq) r)(e:K (s.put dst r):=by simp -implicitDefEqProofs (disch:=omega) only[go_sem];done):fA P dr f args s dst K:=aX h e
theorem C4(h:aC P f (args.map V.tq) r)(e:K (s.put dst r):=by simp -implicitDefEqProofs (disch:=omega) only[go_sem]<;>(repeat(with_reducible refine And.intro ?_ ?_;focus first|omega|rfl|assumption|exact⟨_,rfl,rfl⟩|(simp;omega)|(simp;done)));done):fA P dr f args s dst K:=aX h e
end
mutual
def D.sz:D->Nat
 | .s l=>l.length
 | .sl es=>es.length+bf es
 | .b _=>0
 | .i _ _=>0
 | .o _=>0
 | .ol _ es=>es.length+bf es
def dz:List D->Nat
 |[]=>0
 |d::ds=>d.sz+dz ds
def bf:List (List D)->Nat
 |[]=>0
 |r::rs=>dz r+bf rs
end
theorem bW:∀(a b:List D),dz (a++b)=dz a+dz b
 |[],b=>by simp[dz]
 |d::ds,b=>by rw[List.cons_append,dz,bW ds b,dz];omega
def oO(left:Int)(n:Nat):Int:=if left-n<0 then -1 else left-n
theorem Lp{l:Int}{a:Nat}(h:¬oO l a<0):oO l a=l-a/\0<=l-a:=by
 unfold oO at *
 split at h
 ·omega
 ·rename_i h';exact⟨if_neg h',by omega⟩
theorem Ir{l:Int}{a:Nat}(h:oO l a<0):l-a<0:=by
 unfold oO at *
 split at h<;>omega
theorem Lr{l:Int}{a:Nat}(h:l-a<0):oO l a= -1:=if_pos h
theorem V6{l:Int}{a:Nat}(h:0<=l-a):oO l a=l-a:=if_neg (by omega)
theorem int_eq{k:IntKind}{a b:Int}(h:a=b):V.c (.d (.i k a))=V.c (.d (.i k b)):=by rw[h]
theorem aH{a b:Bool}(h:a=b):V.c (.d (.b a))=V.c (.d (.b b)):=by rw[h]
noncomputable def dec(p:Prop):Bool:= @decide p (Classical.propDecidable p)
theorem bD{p:Prop}(h:p):dec p=true:=by simp[dec,h]
theorem aK{p:Prop}(h:¬p):dec p=false:=by simp[dec,h]
theorem gq{p:Prop}(h:dec p=true):p:=by simpa [dec] using h
theorem jc{p:Prop}(h:dec p=false):¬p:=by simpa [dec] using h
theorem Bh{p:Prop}:(dec p=true)=p:=by simp[dec]
theorem JY{p:Prop}:(dec p=false)=¬p:=by simp[dec]
attribute [wf_preprocess] Bh JY
theorem iC{p q:Prop}(h:p<->q):dec p=dec q:=by rw[propext h]
theorem ah7:dec True=true:=bD trivial
theorem aeU:dec False=false:=aK id
attribute [go_sem] ah7 aeU
theorem j5{p:Prop}[Decidable p]:decide p=dec p:=by by_cases h:p<;>simp[dec,h]
theorem cB{r:List D}:∀{rs:List (List D)},r∈rs->dz r<=bf rs
 |a::rs,h=>by
  rw[bf];rcases List.mem_cons.1 h with rfl|h
  ·omega
  ·have:=cB h;omega
def ar6(z i:Nat)(R rows:List (List D)):Prop:=R.length=rows.length/\(∀r∈R,r.length=z)/\∀j,j<i->R[j]? =rows[j]?
def encS(s:List UInt8):List D:=[.s s]
def encI(n:Int):List D:=[.i .i64 n]
inductive ak where
 |mk (aM:Int) (fName:List UInt8) (fArgs:List ak)
def ak.aM:ak->Int| .mk x _ _=>x
def ak.fName:ak->List UInt8| .mk _ x _=>x
def ak.fArgs:ak->List ak| .mk _ _ x=>x
theorem ak.eta(x:ak):ak.mk x.aM x.fName x.fArgs=x:=by cases x;rfl
theorem ak.ext{x y:ak}(h0:x.aM=y.aM)(h1:x.fName=y.fName)(h2:x.fArgs=y.fArgs):x=y:=by
 rw[<-ak.eta x,<-ak.eta y,h0,h1,h2]
mutual
def ak.enc:ak->List D
 | .mk a0 a1 a2=>[.i .i64 a0,.s a1,.sl (ak.encs a2)]
def ak.encs:List ak->List (List D)
 |[]=>[]
 |x::xs=>x.enc::ak.encs xs
end
theorem ak.oP:∀l,ak.encs l=l.map ak.enc
 |[]=>rfl
 |x::xs=>by rw[ak.encs,List.map_cons,ak.oP xs]
theorem ak.aQ(x:ak):x.enc=[.i .i64 x.aM,.s x.fName,.sl (x.fArgs.map ak.enc)]:=by
 cases x;simp only[ak.enc,ak.oP,ak.aM,ak.fName,ak.fArgs]
abbrev ak.v(x:ak):V:=.agg [.d (.i .i64 x.aM),.d (.s x.fName),.d (.sl (x.fArgs.map ak.enc))]
theorem ak.eB(x:ak):x.enc.length=3:=by
 simp only[ak.aQ,List.length_append,List.length_cons,List.length_nil]
def ak.sz(x:ak):Nat:=dz x.enc
theorem ak.iD(x:ak):dz x.enc=x.sz:=rfl
theorem ak.jv(x:ak):SizeOf.sizeOf x.fArgs<SizeOf.sizeOf x:=by cases x;simp[ak.fArgs];omega
structure kQ where
 fVar:List UInt8
 fType:ak
def kQ.enc(x:kQ):List D:=[.s x.fVar]++(x.fType.enc)
theorem kQ.aQ(x:kQ):x.enc=[.s x.fVar]++(x.fType.enc):=rfl
abbrev kQ.v(x:kQ):V:=.agg [.d (.s x.fVar),.d (.i .i64 x.fType.aM),.d (.s x.fType.fName),.d (.sl (x.fType.fArgs.map ak.enc))]
theorem kQ.eB(x:kQ):x.enc.length=4:=by
 simp only[kQ.aQ,ak.eB,List.length_append,List.length_cons,List.length_nil]
def kQ.sz(x:kQ):Nat:=dz x.enc
structure bS where
 bG:List UInt8
 fType:ak
def bS.enc(x:bS):List D:=[.s x.bG]++(x.fType.enc)
theorem bS.aQ(x:bS):x.enc=[.s x.bG]++(x.fType.enc):=rfl
abbrev bS.v(x:bS):V:=.agg [.d (.s x.bG),.d (.i .i64 x.fType.aM),.d (.s x.fType.fName),.d (.sl (x.fType.fArgs.map ak.enc))]
theorem bS.eB(x:bS):x.enc.length=4:=by
 simp only[bS.aQ,ak.eB,List.length_append,List.length_cons,List.length_nil]
def bS.sz(x:bS):Nat:=dz x.enc
mutual
inductive ay where
 |mk (aM:Int) (bG:List UInt8) (fName:List UInt8) (fN:Int) (fType:ak) (fArgs:List ay) (aS:List aZ)
inductive aZ where
 |mk (dO:List UInt8) (aF:List (List UInt8)) (fBody:ay)
end
def ay.aM:ay->Int| .mk x _ _ _ _ _ _=>x
def ay.bG:ay->List UInt8| .mk _ x _ _ _ _ _=>x
def ay.fName:ay->List UInt8| .mk _ _ x _ _ _ _=>x
def ay.fN:ay->Int| .mk _ _ _ x _ _ _=>x
def ay.fType:ay->ak| .mk _ _ _ _ x _ _=>x
def ay.fArgs:ay->List ay| .mk _ _ _ _ _ x _=>x
def ay.aS:ay->List aZ| .mk _ _ _ _ _ _ x=>x
theorem ay.eta(x:ay):ay.mk x.aM x.bG x.fName x.fN x.fType x.fArgs x.aS=x:=by cases x;rfl
theorem ay.ext{x y:ay}(h0:x.aM=y.aM)(h1:x.bG=y.bG)(h2:x.fName=y.fName)(h3:x.fN=y.fN)(h4:x.fType=y.fType)(h5:x.fArgs=y.fArgs)(h6:x.aS=y.aS):x=y:=by
 rw[<-ay.eta x,<-ay.eta y,h0,h1,h2,h3,h4,h5,h6]
def aZ.dO:aZ->List UInt8| .mk x _ _=>x
def aZ.aF:aZ->List (List UInt8)| .mk _ x _=>x
def aZ.fBody:aZ->ay| .mk _ _ x=>x
theorem aZ.eta(x:aZ):aZ.mk x.dO x.aF x.fBody=x:=by cases x;rfl
theorem aZ.ext{x y:aZ}(h0:x.dO=y.dO)(h1:x.aF=y.aF)(h2:x.fBody=y.fBody):x=y:=by
 rw[<-aZ.eta x,<-aZ.eta y,h0,h1,h2]
mutual
def ay.enc:ay->List D
 | .mk a0 a1 a2 a3 a4 a5 a6=>[.i .i64 a0,.s a1,.s a2,.i .i64 a3]++(a4.enc++([.sl (ay.encs a5),.sl (aZ.encs a6)]))
def ay.encs:List ay->List (List D)
 |[]=>[]
 |x::xs=>x.enc::ay.encs xs
def aZ.enc:aZ->List D
 | .mk a0 a1 a2=>[.s a0,.sl (a1.map encS)]++(ay.enc a2)
def aZ.encs:List aZ->List (List D)
 |[]=>[]
 |x::xs=>x.enc::aZ.encs xs
end
theorem ay.oP:∀l,ay.encs l=l.map ay.enc
 |[]=>rfl
 |x::xs=>by rw[ay.encs,List.map_cons,ay.oP xs]
theorem aZ.oP:∀l,aZ.encs l=l.map aZ.enc
 |[]=>rfl
 |x::xs=>by rw[aZ.encs,List.map_cons,aZ.oP xs]
theorem ay.aQ(x:ay):x.enc=[.i .i64 x.aM,.s x.bG,.s x.fName,.i .i64 x.fN]++(x.fType.enc++([.sl (x.fArgs.map ay.enc),.sl (x.aS.map aZ.enc)])):=by
 cases x;simp only[ay.enc,ay.oP,aZ.oP,ay.aM,ay.bG,ay.fName,ay.fN,ay.fType,ay.fArgs,ay.aS]
theorem aZ.aQ(x:aZ):x.enc=[.s x.dO,.sl (x.aF.map encS)]++(x.fBody.enc):=by
 cases x;simp only[aZ.enc,ay.oP,aZ.oP,aZ.dO,aZ.aF,aZ.fBody]
abbrev ay.v(x:ay):V:=.agg [.d (.i .i64 x.aM),.d (.s x.bG),.d (.s x.fName),.d (.i .i64 x.fN),.d (.i .i64 x.fType.aM),.d (.s x.fType.fName),.d (.sl (x.fType.fArgs.map ak.enc)),.d (.sl (x.fArgs.map ay.enc)),.d (.sl (x.aS.map aZ.enc))]
theorem ay.eB(x:ay):x.enc.length=9:=by
 simp only[ay.aQ,ak.eB,List.length_append,List.length_cons,List.length_nil]
def ay.sz(x:ay):Nat:=dz x.enc
theorem ay.iD(x:ay):dz x.enc=x.sz:=rfl
theorem ay.jv(x:ay):SizeOf.sizeOf x.fArgs<SizeOf.sizeOf x:=by cases x;simp[ay.fArgs];omega
theorem ay.vH(x:ay):SizeOf.sizeOf x.aS<SizeOf.sizeOf x:=by cases x;simp[ay.aS];omega
abbrev aZ.v(x:aZ):V:=.agg [.d (.s x.dO),.d (.sl (x.aF.map encS)),.d (.i .i64 x.fBody.aM),.d (.s x.fBody.bG),.d (.s x.fBody.fName),.d (.i .i64 x.fBody.fN),.d (.i .i64 x.fBody.fType.aM),.d (.s x.fBody.fType.fName),.d (.sl (x.fBody.fType.fArgs.map ak.enc)),.d (.sl (x.fBody.fArgs.map ay.enc)),.d (.sl (x.fBody.aS.map aZ.enc))]
theorem aZ.eB(x:aZ):x.enc.length=11:=by
 simp only[aZ.aQ,ay.eB,List.length_append,List.length_cons,List.length_nil]
def aZ.sz(x:aZ):Nat:=dz x.enc
theorem aZ.iD(x:aZ):dz x.enc=x.sz:=rfl
theorem aZ.tV(x:aZ):SizeOf.sizeOf x.fBody<SizeOf.sizeOf x:=by cases x;simp[aZ.fBody];omega
inductive aj where
 |mk (aG:List UInt8) (ah:List aj)
def aj.aG:aj->List UInt8| .mk x _=>x
def aj.ah:aj->List aj| .mk _ x=>x
theorem aj.eta(x:aj):aj.mk x.aG x.ah=x:=by cases x;rfl
theorem aj.ext{x y:aj}(h0:x.aG=y.aG)(h1:x.ah=y.ah):x=y:=by
 rw[<-aj.eta x,<-aj.eta y,h0,h1]
mutual
def aj.enc:aj->List D
 | .mk a0 a1=>[.s a0,.sl (aj.encs a1)]
def aj.encs:List aj->List (List D)
 |[]=>[]
 |x::xs=>x.enc::aj.encs xs
end
theorem aj.oP:∀l,aj.encs l=l.map aj.enc
 |[]=>rfl
 |x::xs=>by rw[aj.encs,List.map_cons,aj.oP xs]
theorem aj.aQ(x:aj):x.enc=[.s x.aG,.sl (x.ah.map aj.enc)]:=by
 cases x;simp only[aj.enc,aj.oP,aj.aG,aj.ah]
abbrev aj.v(x:aj):V:=.agg [.d (.s x.aG),.d (.sl (x.ah.map aj.enc))]
theorem aj.M5(x:aj): .agg (x.enc.map .d)=x.v:=by
 simp only[aj.aQ,List.map_cons,List.map_nil,List.cons_append,List.nil_append,List.map_append]
theorem aj.eB(x:aj):x.enc.length=2:=by
 simp only[aj.aQ,List.length_append,List.length_cons,List.length_nil]
def aj.sz(x:aj):Nat:=dz x.enc
theorem aj.vI(x:aj):SizeOf.sizeOf x.ah<SizeOf.sizeOf x:=by cases x;simp[aj.ah];omega
structure bg where
 fName:List UInt8
 aY:List ak
 bU:ak
 iT:Bool
 aF:List (List UInt8)
 fBody:ay
def bg.enc(x:bg):List D:=[.s x.fName,.sl (x.aY.map ak.enc)]++(x.bU.enc++([.b x.iT,.sl (x.aF.map encS)]++(x.fBody.enc)))
theorem bg.aQ(x:bg):x.enc=[.s x.fName,.sl (x.aY.map ak.enc)]++(x.bU.enc++([.b x.iT,.sl (x.aF.map encS)]++(x.fBody.enc))):=rfl
abbrev bg.v(x:bg):V:=.agg [.d (.s x.fName),.d (.sl (x.aY.map ak.enc)),.d (.i .i64 x.bU.aM),.d (.s x.bU.fName),.d (.sl (x.bU.fArgs.map ak.enc)),.d (.b x.iT),.d (.sl (x.aF.map encS)),.d (.i .i64 x.fBody.aM),.d (.s x.fBody.bG),.d (.s x.fBody.fName),.d (.i .i64 x.fBody.fN),.d (.i .i64 x.fBody.fType.aM),.d (.s x.fBody.fType.fName),.d (.sl (x.fBody.fType.fArgs.map ak.enc)),.d (.sl (x.fBody.fArgs.map ay.enc)),.d (.sl (x.fBody.aS.map aZ.enc))]
theorem bg.eB(x:bg):x.enc.length=16:=by
 simp only[bg.aQ,ay.eB,ak.eB,List.length_append,List.length_cons,List.length_nil]
def bg.sz(x:bg):Nat:=dz x.enc
structure bE where
 fName:List UInt8
 bM:List (List UInt8)
 oD:Bool
 bI:Bool
 aA:List bg
def bE.enc(x:bE):List D:=[.s x.fName,.sl (x.bM.map encS),.b x.oD,.b x.bI,.sl (x.aA.map bg.enc)]
theorem bE.aQ(x:bE):x.enc=[.s x.fName,.sl (x.bM.map encS),.b x.oD,.b x.bI,.sl (x.aA.map bg.enc)]:=rfl
abbrev bE.v(x:bE):V:=.agg [.d (.s x.fName),.d (.sl (x.bM.map encS)),.d (.b x.oD),.d (.b x.bI),.d (.sl (x.aA.map bg.enc))]
theorem bE.M5(x:bE): .agg (x.enc.map .d)=x.v:=by
 simp only[bE.aQ,List.map_cons,List.map_nil,List.cons_append,List.nil_append,List.map_append]
theorem bE.eB(x:bE):x.enc.length=5:=by
 simp only[bE.aQ,List.length_append,List.length_cons,List.length_nil]
def bE.sz(x:bE):Nat:=dz x.enc
structure bC where
 fName:List UInt8
 iA:List ak
def bC.enc(x:bC):List D:=[.s x.fName,.sl (x.iA.map ak.enc)]
theorem bC.aQ(x:bC):x.enc=[.s x.fName,.sl (x.iA.map ak.enc)]:=rfl
abbrev bC.v(x:bC):V:=.agg [.d (.s x.fName),.d (.sl (x.iA.map ak.enc))]
theorem bC.eB(x:bC):x.enc.length=2:=by
 simp only[bC.aQ,List.length_append,List.length_cons,List.length_nil]
def bC.sz(x:bC):Nat:=dz x.enc
structure aU where
 fName:List UInt8
 aF:List (List UInt8)
 aD:List bC
def aU.enc(x:aU):List D:=[.s x.fName,.sl (x.aF.map encS),.sl (x.aD.map bC.enc)]
theorem aU.aQ(x:aU):x.enc=[.s x.fName,.sl (x.aF.map encS),.sl (x.aD.map bC.enc)]:=rfl
abbrev aU.v(x:aU):V:=.agg [.d (.s x.fName),.d (.sl (x.aF.map encS)),.d (.sl (x.aD.map bC.enc))]
theorem aU.eB(x:aU):x.enc.length=3:=by
 simp only[aU.aQ,List.length_append,List.length_cons,List.length_nil]
def aU.sz(x:aU):Nat:=dz x.enc
structure bX where
 fName:List UInt8
 aF:List (List UInt8)
 fBody:ay
def bX.enc(x:bX):List D:=[.s x.fName,.sl (x.aF.map encS)]++(x.fBody.enc)
theorem bX.aQ(x:bX):x.enc=[.s x.fName,.sl (x.aF.map encS)]++(x.fBody.enc):=rfl
abbrev bX.v(x:bX):V:=.agg [.d (.s x.fName),.d (.sl (x.aF.map encS)),.d (.i .i64 x.fBody.aM),.d (.s x.fBody.bG),.d (.s x.fBody.fName),.d (.i .i64 x.fBody.fN),.d (.i .i64 x.fBody.fType.aM),.d (.s x.fBody.fType.fName),.d (.sl (x.fBody.fType.fArgs.map ak.enc)),.d (.sl (x.fBody.fArgs.map ay.enc)),.d (.sl (x.fBody.aS.map aZ.enc))]
theorem bX.eB(x:bX):x.enc.length=11:=by
 simp only[bX.aQ,ay.eB,List.length_append,List.length_cons,List.length_nil]
def bX.sz(x:bX):Nat:=dz x.enc
structure aT where
 bG:List UInt8
 aF:List (List UInt8)
 bO:ak
 dh:List bS
 gQ:Bool
 eH:Bool
 bI:ak
 aN:List bX
def aT.enc(x:aT):List D:=[.s x.bG,.sl (x.aF.map encS)]++(x.bO.enc++([.sl (x.dh.map bS.enc),.b x.gQ,.b x.eH]++(x.bI.enc++([.sl (x.aN.map bX.enc)]))))
theorem aT.aQ(x:aT):x.enc=[.s x.bG,.sl (x.aF.map encS)]++(x.bO.enc++([.sl (x.dh.map bS.enc),.b x.gQ,.b x.eH]++(x.bI.enc++([.sl (x.aN.map bX.enc)])))):=rfl
abbrev aT.v(x:aT):V:=.agg [.d (.s x.bG),.d (.sl (x.aF.map encS)),.d (.i .i64 x.bO.aM),.d (.s x.bO.fName),.d (.sl (x.bO.fArgs.map ak.enc)),.d (.sl (x.dh.map bS.enc)),.d (.b x.gQ),.d (.b x.eH),.d (.i .i64 x.bI.aM),.d (.s x.bI.fName),.d (.sl (x.bI.fArgs.map ak.enc)),.d (.sl (x.aN.map bX.enc))]
theorem aT.eB(x:aT):x.enc.length=12:=by
 simp only[aT.aQ,ak.eB,List.length_append,List.length_cons,List.length_nil]
def aT.sz(x:aT):Nat:=dz x.enc
structure dG where
 fName:List UInt8
 fType:ak
def dG.enc(x:dG):List D:=[.s x.fName]++(x.fType.enc)
theorem dG.aQ(x:dG):x.enc=[.s x.fName]++(x.fType.enc):=rfl
abbrev dG.v(x:dG):V:=.agg [.d (.s x.fName),.d (.i .i64 x.fType.aM),.d (.s x.fType.fName),.d (.sl (x.fType.fArgs.map ak.enc))]
theorem dG.eB(x:dG):x.enc.length=4:=by
 simp only[dG.aQ,ak.eB,List.length_append,List.length_cons,List.length_nil]
def dG.sz(x:dG):Nat:=dz x.enc
structure aV where
 fName:List UInt8
 aF:List (List UInt8)
 dh:List bS
 aY:List dG
 bU:ak
 fBody:ay
def aV.enc(x:aV):List D:=[.s x.fName,.sl (x.aF.map encS),.sl (x.dh.map bS.enc),.sl (x.aY.map dG.enc)]++(x.bU.enc++(x.fBody.enc))
theorem aV.aQ(x:aV):x.enc=[.s x.fName,.sl (x.aF.map encS),.sl (x.dh.map bS.enc),.sl (x.aY.map dG.enc)]++(x.bU.enc++(x.fBody.enc)):=rfl
abbrev aV.v(x:aV):V:=.agg [.d (.s x.fName),.d (.sl (x.aF.map encS)),.d (.sl (x.dh.map bS.enc)),.d (.sl (x.aY.map dG.enc)),.d (.i .i64 x.bU.aM),.d (.s x.bU.fName),.d (.sl (x.bU.fArgs.map ak.enc)),.d (.i .i64 x.fBody.aM),.d (.s x.fBody.bG),.d (.s x.fBody.fName),.d (.i .i64 x.fBody.fN),.d (.i .i64 x.fBody.fType.aM),.d (.s x.fBody.fType.fName),.d (.sl (x.fBody.fType.fArgs.map ak.enc)),.d (.sl (x.fBody.fArgs.map ay.enc)),.d (.sl (x.fBody.aS.map aZ.enc))]
theorem aV.eB(x:aV):x.enc.length=16:=by
 simp only[aV.aQ,ay.eB,ak.eB,List.length_append,List.length_cons,List.length_nil]
def aV.sz(x:aV):Nat:=dz x.enc
structure aJ where
 fName:List UInt8
 fJ:List (List UInt8)
 aL:List bE
 au:List aU
 aI:List aT
 aO:List aV
def aJ.enc(x:aJ):List D:=[.s x.fName,.sl (x.fJ.map encS),.sl (x.aL.map bE.enc),.sl (x.au.map aU.enc),.sl (x.aI.map aT.enc),.sl (x.aO.map aV.enc)]
theorem aJ.aQ(x:aJ):x.enc=[.s x.fName,.sl (x.fJ.map encS),.sl (x.aL.map bE.enc),.sl (x.au.map aU.enc),.sl (x.aI.map aT.enc),.sl (x.aO.map aV.enc)]:=rfl
abbrev aJ.v(x:aJ):V:=.agg [.d (.s x.fName),.d (.sl (x.fJ.map encS)),.d (.sl (x.aL.map bE.enc)),.d (.sl (x.au.map aU.enc)),.d (.sl (x.aI.map aT.enc)),.d (.sl (x.aO.map aV.enc))]
theorem aJ.eB(x:aJ):x.enc.length=6:=by
 simp only[aJ.aQ,List.length_append,List.length_cons,List.length_nil]
def aJ.sz(x:aJ):Nat:=dz x.enc
structure gW where
 kP:List aJ
def gW.enc(x:gW):List D:=[.sl (x.kP.map aJ.enc)]
theorem gW.aQ(x:gW):x.enc=[.sl (x.kP.map aJ.enc)]:=rfl
abbrev gW.v(x:gW):V:=.agg [.d (.sl (x.kP.map aJ.enc))]
theorem gW.eB(x:gW):x.enc.length=1:=by
 simp only[gW.aQ,List.length_append,List.length_cons,List.length_nil]
def gW.sz(x:gW):Nat:=dz x.enc
structure ku where
 M6:Int
 fAt:Int
def ku.enc(x:ku):List D:=[.i .i64 x.M6,.i .i64 x.fAt]
theorem ku.aQ(x:ku):x.enc=[.i .i64 x.M6,.i .i64 x.fAt]:=rfl
abbrev ku.v(x:ku):V:=.agg [.d (.i .i64 x.M6),.d (.i .i64 x.fAt)]
theorem ku.eB(x:ku):x.enc.length=2:=by
 simp only[ku.aQ,List.length_append,List.length_cons,List.length_nil]
def ku.sz(x:ku):Nat:=dz x.enc
attribute [go_sem] ak.aQ kQ.aQ bS.aQ ay.aQ aZ.aQ aj.aQ bg.aQ bE.aQ bC.aQ aU.aQ bX.aQ aT.aQ dG.aQ aV.aQ aJ.aQ gW.aQ ku.aQ encS encI
def Z8:List kQ->List UInt8->Option ak
 |[],_=>none
 |b::bs,v=>if b.fVar=v then some b.fType else Z8 bs v
mutual
noncomputable def am5(s:List kQ):ak->ak->Option (List kQ)
 | .mk k n a,t=>
   if k=1 then
    match Z8 s n with
    |some u=>if dec (u=t)=true then some s else none
    |none=>some (s++[⟨n,t⟩])
   else if k=t.aM/\n=t.fName/\a.length=t.fArgs.length then aeV s a t.fArgs else none
noncomputable def aeV(s:List kQ):List ak->List ak->Option (List kQ)
 |[],_=>some s
 |_::_,[]=>none
 |p::ps,t::ts=>
  match am5 s p t with
  |some s'=>aeV s' ps ts
  |none=>none
end
mutual
def ak.cnt:ak->Nat
 | .mk _ _ a=>1+ak.eF a
def ak.eF:List ak->Nat
 |[]=>0
 |t::ts=>t.cnt+ak.eF ts
end
theorem ak.qG(t:ak):t.cnt=1+ak.eF t.fArgs:=by cases t;rw[ak.cnt];rfl
mutual
theorem mR:∀t:ak,t.cnt<=1+t.sz
 | .mk k n a=>by
   have h:=yN a;rw[ak.cnt]
   have e:(ak.mk k n a).sz=n.length+(a.length+bf (a.map ak.enc)):=by
    simp only[ak.sz,ak.aQ,dz,D.sz,List.length_map,ak.fName,ak.fArgs,Nat.add_zero,Nat.zero_add]
   omega
theorem yN:∀ts:List ak,ak.eF ts<=ts.length+bf (ts.map ak.enc)
 |[]=>by simp[ak.eF]
 |t::ts=>by
  have h1:=mR t;have h2:=yN ts;rw[ak.eF,List.length_cons,List.map_cons,bf,ak.iD];omega
end
def Small(s:List kQ):Prop:=∀b∈s,b.fType.sz<=4194304
end Go.Ab
namespace Go.Proofs.YtbaefeecjjhhkaaGreatDoor.Fa
open Go Go.Ab
abbrev fK(t c b:Nat)(z:List C):Prop:=prog.cellsOf t=c/\prog.bytesOf t=b/\(prog.info? t).isSome=true/\jV prog t=some z
theorem fM{t c b:Nat}{z:List C}(h1:prog.cellsOf t=c:=by kernel_rfl)(h2:prog.bytesOf t=b:=by kernel_rfl)(h3:(prog.info? t).isSome=true:=by kernel_rfl)(h4:jV prog t=some z:=by kernel_rfl):fK t c b z:=⟨h1,h2,h3,h4⟩
theorem ty1:fK 1 1 8 [.d (.o .nilFunc)]:=fM
theorem ty2:fK 2 1 8 [.d (.i .i64 0)]:=fM
theorem ty3:fK 3 1 8 [.d (.i .i64 0)]:=fM
theorem ty4:fK 4 1 1 [.d (.b false)]:=fM
theorem aoS:zeroV prog 4=some (.bool false):=by kernel_rfl
theorem ty5:fK 5 1 1 [.d (.i .u8 0)]:=fM
theorem ty9:fK 9 1 16 [.d (.s [])]:=fM
theorem aqr:fK 12 1 8 [.d (.i .u64 0)]:=fM
theorem aqs:fK 20 1 16 [.d (.o .nilIface)]:=fM
theorem aqt:fK 21 1 4 [.d (.i .i32 0)]:=fM
theorem aqu:fK 22 1 24 [.bn []]:=fM
theorem aqv:fK 23 1 8 [.d (.o .nilFunc)]:=fM
theorem aqw:fK 24 1 8 [.d (.o .nilFunc)]:=fM
theorem aqx:fK 25 1 24 [.bn []]:=fM
theorem aqy:fK 26 1 24 [.bn []]:=fM
theorem aqz:fK 27 1 24 [.bn []]:=fM
theorem aqA:fK 29 1 8 [.d (.o .nilFunc)]:=fM
theorem aqB:fK 30 1 8 [.d (.o .nilFunc)]:=fM
theorem aqC:fK 31 1 8 [.d (.o (.pointer none))]:=fM
theorem aqD:fK 32 1 8 [.d (.o .nilFunc)]:=fM
theorem aqE:fK 34 1 8 [.d (.o .nilFunc)]:=fM
theorem aqF:fK 35 1 8 [.d (.o .nilFunc)]:=fM
theorem aqG:fK 36 1 24 [.bn []]:=fM
theorem aqH:fK 37 1 8 [.d (.o .nilFunc)]:=fM
theorem aqI:fK 38 1 8 [.d (.o .nilFunc)]:=fM
theorem aqJ:fK 39 1 24 [.bn []]:=fM
theorem aqK:fK 40 1 24 [.bn []]:=fM
theorem aqL:fK 41 1 24 [.bn []]:=fM
theorem aqM:fK 42 1 24 [.bn []]:=fM
theorem aqN:fK 43 6 136 [.d (.s []),.bn [],.bn [],.bn [],.bn [],.bn []]:=fM
theorem aqO:fK 44 6 136 [.d (.s []),.bn [],.bn [],.bn [],.bn [],.bn []]:=fM
theorem aqP:fK 47 1 8 [.d (.o .nilFunc)]:=fM
theorem aqQ:fK 48 1 8 [.d (.o .nilFunc)]:=fM
theorem aqR:fK 49 1 8 [.d (.o .nilFunc)]:=fM
theorem aqS:fK 50 3 40 [.bn [],.d (.i .i64 0),.d (.i .i64 0)]:=fM
theorem aqT:fK 51 3 40 [.bn [],.d (.i .i64 0),.d (.i .i64 0)]:=fM
theorem aqU:fK 52 1 8 [.d (.o .nilFunc)]:=fM
theorem aqV:fK 53 1 8 [.d (.o .nilFunc)]:=fM
theorem aqW:fK 54 1 8 [.d (.o .nilFunc)]:=fM
theorem aqX:fK 55 1 8 [.d (.o .nilFunc)]:=fM
theorem aqY:fK 62 1 24 [.bn []]:=fM
theorem aqZ:fK 63 2 40 [.d (.s []),.bn []]:=fM
theorem aq0:fK 64 2 40 [.d (.s []),.bn []]:=fM
theorem aq1:fK 66 1 8 [.d (.o .nilFunc)]:=fM
theorem aq2:fK 67 1 8 [.d (.o .nilFunc)]:=fM
theorem aq3:fK 68 1 8 [.d (.o .nilFunc)]:=fM
theorem aq4:fK 69 1 8 [.d (.o .nilFunc)]:=fM
theorem aq5:fK 70 1 8 [.d (.o .nilFunc)]:=fM
theorem aq6:fK 71 1 8 [.d (.o .nilFunc)]:=fM
theorem aq7:fK 77 1 24 [.bn []]:=fM
theorem aq8:fK 78 1 8 [.d (.o .nilFunc)]:=fM
theorem aq9:fK 79 1 8 [.d (.o .nilFunc)]:=fM
theorem ara:fK 81 1 8 [.d (.o .nilFunc)]:=fM
theorem arb:fK 82 1 8 [.d (.o .nilFunc)]:=fM
theorem ard:fK 83 1 8 [.d (.o (.pointer none))]:=fM
theorem arf:fK 84 5 48 [.d (.s []),.d (.i .i64 0),.d (.i .i64 0),.d (.i .i64 0),.d (.b false)]:=fM
theorem arh:fK 85 5 48 [.d (.s []),.d (.i .i64 0),.d (.i .i64 0),.d (.i .i64 0),.d (.b false)]:=fM
theorem ari:fK 90 1 8 [.d (.o (.pointer none))]:=fM
theorem arj:fK 91 1 8 [.d (.o .nilFunc)]:=fM
theorem ark:fK 92 1 8 [.d (.o .nilFunc)]:=fM
theorem arl:fK 93 1 24 [.bn []]:=fM
theorem arn:fK 95 5 72 [.d (.s []),.bn [],.d (.b false),.d (.b false),.bn []]:=fM
theorem aro:fK 96 1 8 [.d (.o .nilFunc)]:=fM
theorem arp:fK 97 1 24 [.bn []]:=fM
theorem arq:fK 99 3 64 [.d (.s []),.bn [],.bn []]:=fM
theorem aoT:fK 101 1 24 [.bn []]:=fM
theorem aoU:fK 103 3 48 [.d (.i .i64 0),.d (.s []),.bn []]:=fM
theorem aoV:fK 104 1 24 [.bn []]:=fM
theorem aoW:fK 105 1 24 [.bn []]:=fM
theorem aoX:fK 107 12 192 [.d (.s []),.bn [],.d (.i .i64 0),.d (.s []),.bn [],.bn [],.d (.b false),.d (.b false),.d (.i .i64 0),.d (.s []),.bn [],.bn []]:=fM
theorem aoY:fK 109 1 24 [.bn []]:=fM
theorem aoZ:fK 110 1 24 [.bn []]:=fM
theorem ao0:fK 111 1 24 [.bn []]:=fM
theorem ao1:fK 113 9 144 [.d (.i .i64 0),.d (.s []),.d (.s []),.d (.i .i64 0),.d (.i .i64 0),.d (.s []),.bn [],.bn [],.bn []]:=fM
theorem ao2:fK 115 16 280 [.d (.s []),.bn [],.bn [],.bn [],.d (.i .i64 0),.d (.s []),.bn [],.d (.i .i64 0),.d (.s []),.d (.s []),.d (.i .i64 0),.d (.i .i64 0),.d (.s []),.bn [],.bn [],.bn []]:=fM
theorem ao3:fK 120 1 8 [.d (.o (.pointer none))]:=fM
theorem ao4:fK 122 2 32 [.d (.o (.pointer none)),.bn []]:=fM
theorem ao5:fK 127 1 16 [.d (.o .nilIface)]:=fM
theorem ao6:fK 129 1 8 [.d (.o .nilFunc)]:=fM
theorem ao7:fK 159 16 264 [.d (.s []),.bn [],.d (.i .i64 0),.d (.s []),.bn [],.d (.b false),.bn [],.d (.i .i64 0),.d (.s []),.d (.s []),.d (.i .i64 0),.d (.i .i64 0),.d (.s []),.bn [],.bn [],.bn []]:=fM
theorem ao8:fK 164 2 40 [.d (.s []),.bn []]:=fM
theorem ao9:fK 167 11 184 [.d (.s []),.bn [],.d (.i .i64 0),.d (.s []),.d (.s []),.d (.i .i64 0),.d (.i .i64 0),.d (.s []),.bn [],.bn [],.bn []]:=fM
theorem apa:fK 169 4 64 [.d (.s []),.d (.i .i64 0),.d (.s []),.bn []]:=fM
theorem apb:fK 171 1 8 [.d (.o (.pointer none))]:=fM
theorem apc:fK 187 4 96 [.bn [],.bn [],.bn [],.bn []]:=fM
theorem apd:fK 192 1 8 [.d (.o .nilFunc)]:=fM
theorem ape:fK 204 11 184 [.d (.s []),.bn [],.d (.i .i64 0),.d (.s []),.d (.s []),.d (.i .i64 0),.d (.i .i64 0),.d (.s []),.bn [],.bn [],.bn []]:=fM
theorem apf:fK 207 4 64 [.d (.s []),.d (.i .i64 0),.d (.s []),.bn []]:=fM
theorem apg:fK 222 1 8 [.d (.o (.map none))]:=fM
theorem aph:fK 224 1 8 [.d (.o .nilFunc)]:=fM
theorem apj:fK 227 1 8 [.d (.o .nilFunc)]:=fM
theorem apk:fK 230 1 8 [.d (.o .nilFunc)]:=fM
theorem apl:fK 241 1 8 [.d (.o .nilFunc)]:=fM
theorem apm:fK 253 1 8 [.d (.o .nilFunc)]:=fM
theorem apn:fK 256 1 8 [.d (.o .nilFunc)]:=fM
theorem apo:fK 259 1 8 [.d (.o .nilFunc)]:=fM
theorem apq:fK 271 1 24 [.bn []]:=fM
theorem laidOut:laidOutB prog=true:=by kernel_rfl
theorem own:ownKnob prog.godebug=none:=by kernel_rfl
attribute [go_sem] ty1 underlying1 ty2 underlying2 ty3 underlying3 ty4 underlying4 aoS ty5 underlying5 ty9 underlying9 aqr underlying12 aqs underlying20 aqt underlying21 aqu underlying22 aqv underlying23 aqw underlying24 aqx underlying25 aqy underlying26 aqz underlying27 aqA underlying29 aqB underlying30 aqC underlying31 aqD underlying32 aqE underlying34 aqF underlying35 aqG underlying36 aqH underlying37 aqI underlying38 aqJ underlying39 aqK underlying40 aqL underlying41 aqM underlying42 aqN underlying43 aqO underlying44 aqP underlying47 aqQ underlying48 aqR underlying49 aqS underlying50 aqT underlying51 aqU underlying52 aqV underlying53 aqW underlying54 aqX underlying55 aqY underlying62 aqZ underlying63 aq0 underlying64 aq1 underlying66 aq2 underlying67 aq3 underlying68 aq4 underlying69 aq5 underlying70 aq6 underlying71 aq7 underlying77 aq8 underlying78 aq9 underlying79 ara underlying81 arb underlying82 ard underlying83 arf underlying84 arh underlying85 ari underlying90 arj underlying91 ark underlying92 arl underlying93 arn underlying95 aro underlying96 arp underlying97 arq underlying99 aoT underlying101 aoU underlying103 aoV underlying104 aoW underlying105 aoX underlying107 aoY underlying109 aoZ underlying110 ao0 underlying111 ao1 underlying113 ao2 underlying115 ao3 underlying120 ao4 underlying122 ao5 underlying127 ao6 underlying129 ao7 underlying159 ao8 underlying164 ao9 underlying167 apa underlying169 apb underlying171 apc underlying187 apd underlying192 ape underlying204 apf underlying207 apg underlying222 aph underlying224 apj underlying227 apk underlying230 apl underlying241 apm underlying253 apn underlying256 apo underlying259 apq underlying271
end Go.Proofs.YtbaefeecjjhhkaaGreatDoor.Fa
namespace Go.Ab
mutual
def ay.cnt:ay->Nat
 | .mk _ _ _ _ _ a b=>1+(ay.eF a+aZ.eF b)
def ay.eF:List ay->Nat
 |[]=>0
 |x::xs=>x.cnt+ay.eF xs
def aZ.cnt:aZ->Nat
 | .mk _ _ b=>b.cnt
def aZ.eF:List aZ->Nat
 |[]=>0
 |x::xs=>x.cnt+aZ.eF xs
end
theorem ay.qG(x:ay):x.cnt=1+(ay.eF x.fArgs+aZ.eF x.aS):=by cases x;rw[ay.cnt];rfl
theorem aZ.qG(x:aZ):x.cnt=x.fBody.cnt:=by cases x;rw[aZ.cnt];rfl
theorem ay.nu{xs:List ay}{i:Nat}(hi:i<xs.length):ay.eF (xs.drop i)=xs[i].cnt+ay.eF (xs.drop (i+1)):=by rw[List.drop_eq_getElem_cons hi,ay.eF]
theorem aZ.nu{xs:List aZ}{i:Nat}(hi:i<xs.length):aZ.eF (xs.drop i)=xs[i].fBody.cnt+aZ.eF (xs.drop (i+1)):=by rw[List.drop_eq_getElem_cons hi,aZ.eF,aZ.qG]
theorem ay.Em(x:ay):x.fArgs.length+bf (x.fArgs.map ay.enc)<=x.sz/\x.aS.length+bf (x.aS.map aZ.enc)<=x.sz:=by
 simp only[ay.sz,ay.aQ,dz,bW,D.sz,List.length_map];omega
theorem aZ.Q6(x:aZ):x.fBody.sz<=x.sz:=by
 simp only[aZ.sz,aZ.aQ,ay.sz,dz,bW,D.sz,List.length_map];omega
mutual
theorem ay.mR:∀x:ay,x.cnt<=1+x.sz
 | .mk k t n m ty a b=>by
   have h1:=ay.yN a;have h2:=aZ.yN b;rw[ay.cnt];simp only[ay.sz,ay.aQ,dz,bW,D.sz,List.length_map,ay.fArgs,ay.aS];omega
theorem ay.yN:∀xs:List ay,ay.eF xs<=xs.length+bf (xs.map ay.enc)
 |[]=>by simp[ay.eF]
 |x::xs=>by
  have h1:=ay.mR x;have h2:=ay.yN xs;rw[ay.eF,List.length_cons,List.map_cons,bf,ay.iD];omega
theorem aZ.mR:∀x:aZ,x.cnt<=1+x.sz
 | .mk c v b=>by
   have h1:=ay.mR b;have h2:=aZ.Q6 (.mk c v b);rw[aZ.cnt];simp only[aZ.fBody] at h2;omega
theorem aZ.yN:∀xs:List aZ,aZ.eF xs<=xs.length+bf (xs.map aZ.enc)
 |[]=>by simp[aZ.eF]
 |x::xs=>by
  have h1:=aZ.mR x;have h2:=aZ.yN xs;rw[aZ.eF,List.length_cons,List.map_cons,bf,aZ.iD];omega
end
theorem En:∀n:Nat,∀x:ay,SizeOf.sizeOf x<n->x.sz<=4194304->aC prog 252 [x.v] (.c (.d (.i .i64 x.cnt)))
 |0=>fun x h=>by omega
 |n+1=>by
  have ih:=En n;intro x hn hsz S;have kG:=ay.jv x;have Di:=ay.vH x;have hp:=ay.Em x;have hc:=ay.mR x;have he:=ay.qG x;refine zcx [.tmp 2] func252 ntmps252 ?_;refine W1 ?_
  refine aR (ι:=Nat×Nat) zmx rfl [1,3,9,10,11] (fun y=>[.c (.ptr (0,0) 0),.c (.d (.i .i64 y.2)),.c (.d (.sl (x.fArgs.map ay.enc))),.c (.d (.i .i64 x.fArgs.length)),.c (.d (.i .i64 y.1))]) (fun y=>[.box (x.enc.map .d)]::S)
   (fun y=>y.1<=x.fArgs.length/\x.cnt=y.2+ay.eF (x.fArgs.drop y.1)+aZ.eF x.aS) (fun y=>x.fArgs.length-y.1) (0,1) rfl ?_ ⟨Nat.zero_le _,by simp only[List.drop_zero];omega⟩ ?_
  ·exact Z1
  rintro⟨i,c⟩ ⟨p1,p2⟩;simp only at p1 p2;refine W1 ?_;refine S0 (fun hb h=>?_) fun hb h=>?_
  ·have hi:i<x.fArgs.length:=by omega
   have hx:x.fArgs[i].sz<=bf (x.fArgs.map ay.enc):=cB (List.mem_map_of_mem (List.getElem_mem hi));rw[ay.nu hi] at p2;refine W3 ?_;refine C2 (ih x.fArgs[i] (by have:=List.sizeOf_lt_of_mem (List.getElem_mem hi);omega) (by omega)) ?_;rw[show(c:Int)+(x.fArgs[i].cnt:Int)=((c+x.fArgs[i].cnt:Nat):Int) by omega];exact bL 1 (by decide) (i+1,c+x.fArgs[i].cnt) (by simp only;omega) rfl rfl rfl rfl ⟨by simp only;omega,by simp only;omega⟩
  have hi:i=x.fArgs.length:=by omega
  rw[hi,List.drop_length,ay.eF] at p2
  refine aR (ι:=Nat×Nat) zmx rfl [3,21,22,23] (fun y=>[.c (.d (.i .i64 y.2)),.c (.d (.sl (x.aS.map aZ.enc))),.c (.d (.i .i64 x.aS.length)),.c (.d (.i .i64 y.1))]) (fun y=>[.box (x.enc.map .d)]::S)
   (fun y=>y.1<=x.aS.length/\x.cnt=y.2+aZ.eF (x.aS.drop y.1)) (fun y=>x.aS.length-y.1) (0,c) rfl ?_ ⟨Nat.zero_le _,by simp only[List.drop_zero];omega⟩ ?_
  ·exact Z1
  clear p1 p2 hb h hi i;rintro⟨i,d⟩ ⟨p1,p2⟩;simp only at p1 p2;refine W1 ?_;refine S0 (fun hb h=>?_) fun hb h=>?_
  ·have hi:i<x.aS.length:=by omega
   have hx:x.aS[i].sz<=bf (x.aS.map aZ.enc):=cB (List.mem_map_of_mem (List.getElem_mem hi));have hy:=aZ.Q6 x.aS[i];have hs:=List.sizeOf_lt_of_mem (List.getElem_mem hi);have hs':=aZ.tV x.aS[i];rw[aZ.nu hi] at p2;refine W3 ?_;refine C2 (ih x.aS[i].fBody (by omega) (by omega)) ?_;rw[show(d:Int)+(x.aS[i].fBody.cnt:Int)=((d+x.aS[i].fBody.cnt:Nat):Int) by omega];exact bL 1 (by decide) (i+1,d+x.aS[i].fBody.cnt) (by simp only;omega) rfl rfl rfl rfl ⟨by simp only;omega,by simp only;omega⟩
  ·have hi:i=x.aS.length:=by omega
   rw[hi,List.drop_length,aZ.eF] at p2;exact int_eq (by omega)
theorem OD(x:ay)(hsz:x.sz<=4194304):aC prog 252 [x.v] (.c (.d (.i .i64 x.cnt))):=En _ x (Nat.lt_succ_self _) hsz
def lowerB(b:UInt8):Prop:=97<=b.toNat/\b.toNat<=122
def sw(b:UInt8):Prop:=48<=b.toNat/\b.toNat<=57
def V7(s:List UInt8):Prop:=∀i,i<s.length->lowerB (s.getD i 0)\/(i≠0/\sw (s.getD i 0))
def reserved:List (List UInt8):=[[105,110,116],[98,111,111,108],[97,115,115,111,99],[100,121,110],[105,102],[108,101,116],[99,97,115,101],[110,101,119],[109,101,116,104,111,100],[112,97,99,107],[116,114,117,101],[102,97,108,115,101]]
noncomputable def validName(s:List UInt8):Bool:=dec ((1<=s.length/\s.length<=8)/\s∉reserved/\V7 s)
noncomputable def yw(s:List UInt8):Bool:=dec (s=[105,110,116]\/s=[98,111,111,108])
noncomputable def xR(xs:List (List UInt8))(s:List UInt8):Int:=if s∈xs then((xs.findIdx fun x=>dec (x=s):Nat):Int) else -1
theorem YW{xs:List (List UInt8)}{s:List UInt8}{i:Nat}(hi:i<xs.length)(hj:∀j,j<i->xs.getD j []≠s)(h:xs.getD i []=s):xR xs s=i:=by
 have e:∀j,∀hj:j<xs.length,xs.getD j []=xs[j]:=fun j hj=>by simp[List.getD,hj]
 have hm:s∈xs:=by rw[<-h,e i hi];exact List.getElem_mem hi
 unfold xR;rw[if_pos hm];congr 1;rw[List.findIdx_eq hi];exact⟨bD (by rw[<-e i hi];exact h),fun j hji=>aK (by rw[<-e j (by omega)];exact hj j hji)⟩
theorem aeW{xs:List (List UInt8)}{s:List UInt8}(hj:∀j,j<xs.length->xs.getD j []≠s):xR xs s= -1:=by
 unfold xR;refine if_neg fun hm=> ?_;obtain⟨j,h1,h2⟩:=List.getElem_of_mem hm;exact hj j h1 (by simp[List.getD,h1,h2])
theorem OE{xs:List (List UInt8)}{s:List UInt8}:decide (xR xs s>=0)=dec (s∈xs):=by
 rw[j5];refine iC ?_;unfold xR;split
 ·rename_i h;exact⟨fun _=>h,fun _=>by omega⟩
 ·rename_i h;exact⟨fun x=>by omega,fun x=>absurd x h⟩
def tX{α:Type}(p:α->Bool)(xs:List α):Int:=if xs.any p then((xs.findIdx p:Nat):Int) else -1
theorem sQ{α:Type}{p:α->Bool}{xs:List α}{i:Nat}(hi:i<xs.length)(hj:∀j,∀hj:j<xs.length,j<i->p xs[j]=false)(h:p xs[i]=true):tX p xs=i:=by
 unfold tX;rw[if_pos (List.any_eq_true.2 ⟨xs[i],List.getElem_mem hi,h⟩)];congr 1;rw[List.findIdx_eq hi];exact⟨h,fun j hji=>hj j (by omega) hji⟩
theorem wE{α:Type}{p:α->Bool}{xs:List α}(hj:∀j,∀hj:j<xs.length,p xs[j]=false):tX p xs= -1:=by
 unfold tX;refine if_neg fun h=> ?_;obtain⟨x,hx,hp⟩:=List.any_eq_true.1 h;obtain⟨j,h1,h2⟩:=List.getElem_of_mem hx;rw[<-h2,hj j h1] at hp;cases hp
theorem uL{α:Type}{p:α->Bool}{xs:List α}:decide (tX p xs>=0)=xs.any p:=by
 unfold tX
 cases h:xs.any p with
 |true=>simp
 |false=>simp
noncomputable def Dj(k:Int)(n:List UInt8)(len:Nat):Bool:=
 dec ((k=1\/k=4)/\validName n=true/\len=0\/k=3/\validName n=true/\len=1\/k=2/\(validName n=true/\len<=3\/yw n=true/\len=0))
mutual
noncomputable def formed:ak->Bool
 | .mk k n a=>Dj k n a.length&&jg a
noncomputable def jg:List ak->Bool
 |[]=>true
 |t::ts=>formed t&&jg ts
end
theorem yO(t:ak):formed t=(Dj t.aM t.fName t.fArgs.length&&jg t.fArgs):=by cases t;rw[formed];rfl
theorem xS:∀{ts:List ak},jg ts=true<->∀t∈ts,formed t=true
 |[]=>by simp[jg]
 |t::ts=>by simp[jg,xS (ts:=ts)]
theorem Mt:∀{ts:List ak},(ts.any fun t=> !formed t)= !jg ts
 |[]=>rfl
 |t::ts=>by rw[List.any_cons,Mt (ts:=ts),jg];simp
mutual
def nO:ak->Nat
 | .mk _ _ a=>depths a
def depths:List ak->Nat
 |[]=>0
 |t::ts=>max (nO t+1) (depths ts)
end
theorem Sl(t:ak):nO t=depths t.fArgs:=by cases t;rw[nO];rfl
mutual
theorem BM:∀t:ak,nO t+1<=t.cnt
 | .mk k n a=>by
   have:=Sm a;rw[nO,ak.cnt];omega
theorem Sm:∀ts:List ak,depths ts<=ak.eF ts
 |[]=>by simp[depths]
 |t::ts=>by
  have h1:=BM t;have h2:=Sm ts;rw[depths,ak.eF];omega
end
noncomputable def oo(t:ak):Bool:=dec (formed t=true/\nO t<=6/\t.cnt<=60)
mutual
def qH:ak->List ak
 | .mk k n a=>.mk k n a::pR a
def pR:List ak->List ak
 |[]=>[]
 |t::ts=>qH t++pR ts
end
theorem BN(t:ak):qH t=t::pR t.fArgs:=by cases t;rw[qH];rfl
theorem Bj{ts:List ak}{i:Nat}(hi:i<ts.length):pR (ts.drop i)=qH ts[i]++pR (ts.drop (i+1)):=by rw[List.drop_eq_getElem_cons hi,pR]
mutual
theorem JZ:∀t:ak,(qH t).length=t.cnt
 | .mk k n a=>by rw[qH,List.length_cons,ak.cnt,OG a];omega
theorem OG:∀ts:List ak,(pR ts).length=ak.eF ts
 |[]=>rfl
 |t::ts=>by rw[pR,List.length_append,ak.eF,JZ t,OG ts]
end
def vS(out:List (List UInt8))(u:ak):List (List UInt8):=if u.aM=1/\u.fName∉out then out++[u.fName] else out
def jG(out:List (List UInt8))(t:ak):List (List UInt8):=(qH t).foldl vS out
def u6(out:List (List UInt8))(ts:List ak):List (List UInt8):=(pR ts).foldl vS out
theorem M7(out:List (List UInt8))(u:ak):(vS out u).length<=out.length+1:=by
 unfold vS
 split<;>simp
theorem Sn:∀(us:List ak)(out:List (List UInt8)),(us.foldl vS out).length<=out.length+us.length
 |[],out=>by simp
 |u::us,out=>by
  have h1:=M7 out u;have h2:=Sn us (vS out u);rw[List.foldl_cons,List.length_cons];omega
theorem BO(t:ak)(out:List (List UInt8)):(jG out t).length<=out.length+t.cnt:=by
 have:=Sn (qH t) out;rw[JZ] at this;exact this
theorem ah8(out:List (List UInt8))(t:ak):jG out t=u6 (vS out t) t.fArgs:=by
 unfold jG u6;rw[BN,List.foldl_cons]
theorem Mv{ts:List ak}{i:Nat}(hi:i<ts.length)(out:List (List UInt8)):u6 out (ts.drop i)=u6 (jG out ts[i]) (ts.drop (i+1)):=by
 unfold u6 jG;rw[Bj hi,List.foldl_append]
def rW(t:ak):Bool:=(qH t).any fun u=>decide (u.aM=3)
def wF(ts:List ak):Bool:=(pR ts).any fun u=>decide (u.aM=3)
theorem Iu(t:ak):rW t=(decide (t.aM=3)||wF t.fArgs):=by
 unfold rW wF;rw[BN,List.any_cons]
theorem Uh{ts:List ak}{i:Nat}(hi:i<ts.length):wF (ts.drop i)=(rW ts[i]||wF (ts.drop (i+1))):=by
 unfold wF rW;rw[Bj hi,List.any_append]
theorem V8(us:List ak):∀b:Bool,us.foldl (fun b u=>b||decide (u.aM=3)) b=(b||us.any fun u=>decide (u.aM=3)):=by
 induction us with
 |nil=>intro b;simp
 |cons u us ih=>intro b;rw[List.foldl_cons,ih,List.any_cons,Bool.or_assoc]
def OH(v:List UInt8)(u:ak):Bool:=decide (u.aM=1/\u.fName=v)
def rH(v:List UInt8)(t:ak):Nat:=(qH t).countP (OH v)
def xk(v:List UInt8)(ts:List ak):Nat:=(pR ts).countP (OH v)
theorem aeX(v:List UInt8)(t:ak):rH v t=(if OH v t then 1 else 0)+xk v t.fArgs:=by
 unfold rH xk;rw[BN,List.countP_cons];omega
theorem V9{v:List UInt8}{ts:List ak}{i:Nat}(hi:i<ts.length):xk v (ts.drop i)=rH v ts[i]+xk v (ts.drop (i+1)):=by
 unfold xk rH;rw[Bj hi,List.countP_append]
theorem aeY(v:List UInt8)(t:ak):rH v t<=t.cnt:=by
 unfold rH;rw[<-JZ];exact List.countP_le_length
def occurs(v:List UInt8)(t:ak):Bool:=decide (0<rH v t)
theorem Gw(n a b:Int):aC prog 184 [.c (.d (.i .i64 n)),.c (.d (.i .i64 a)),.c (.d (.i .i64 b))] (.c (.d (.b (dec (a<=n/\n<=b))))):=fun S=>by
 refine zcx [.tmp 6] func184 ntmps184 ?_;refine W1 ?_;refine S0 (fun hb h=>?_) fun hb h=>?_
 ·exact aH (by rw[j5];exact iC ⟨fun x=>⟨by omega,x⟩,fun x=>x.2⟩)
 ·exact aH (aK (by omega)).symm
theorem rJ(xs:List (List UInt8))(s:List UInt8)(hl:xs.length<=1073741824):aC prog 122 [.c (.d (.sl (xs.map encS))),.c (.d (.s s))] (.c (.d (.b (dec (s∈xs))))):=fun S=>by
 refine zcx [.tmp 4] func122 ntmps122 ?_;simp -implicitDefEqProofs (disch:=omega) only[go_sem,encS]
 refine aR (ι:=Nat) zmx rfl [0,1,5] (fun i=>[.c (.d (.sl (xs.map encS))),.c (.d (.s s)),.c (.d (.i .i64 i))]) (fun _=>[]::S)
  (fun i=>i<=xs.length/\∀j,j<i->∀h:j<xs.length,xs[j]≠s) (fun i=>xs.length-i) 0 rfl rfl ⟨Nat.zero_le _,fun j h=>by omega⟩ ?_
 rintro i ⟨p1,p2⟩;simp -implicitDefEqProofs (disch:=omega) only[go_sem,encS]
 with_reducible refine dZ (fun hb=> ?_) (fun hb=> ?_)<;>have h:=hb<;>(try simp only[wf_preprocess] at h)<;>simp -implicitDefEqProofs (disch:=omega) only[go_sem,hb,encS]<;>refine W3 ?_
 ·have hi:i<xs.length:=by omega
  with_reducible refine dZ (fun hb=> ?_) (fun hb=> ?_)<;>have h:=hb<;>(try simp only[wf_preprocess] at h)<;>simp -implicitDefEqProofs (disch:=omega) only[go_sem,hb,encS]<;>refine W3 ?_
  ·exact aH (bD (by rw[<-h];exact List.getElem_mem hi)).symm
  ·refine bV (i+1) (by omega) rfl rfl ⟨by omega,fun j hj hl=> ?_⟩;by_cases e:j=i
   ·subst e;exact h
   ·exact p2 j (by omega) hl
 ·refine aH (aK fun hm=> ?_).symm;obtain⟨j,h1,h2⟩:=List.getElem_of_mem hm;exact p2 j (by omega) h1 h2
theorem Sq(xs:List (List UInt8))(s:List UInt8)(hl:xs.length<=1073741824):aC prog 162 [.c (.d (.sl (xs.map encS))),.c (.d (.s s))] (.c (.d (.i .i64 (xR xs s)))):=fun S=>by
 refine zcx [.tmp 4] func162 ntmps162 ?_;simp -implicitDefEqProofs (disch:=omega) only[go_sem,encS]
 refine aR (ι:=Nat) zmx rfl [0,1,7,8] (fun i=>[.c (.d (.sl (xs.map encS))),.c (.d (.s s)),.c (.d (.i .i64 xs.length)),.c (.d (.i .i64 i))]) (fun _=>[]::S)
  (fun i=>i<=xs.length/\∀j,j<i->xs.getD j []≠s) (fun i=>xs.length-i) 0 rfl rfl ⟨Nat.zero_le _,fun j h=>by omega⟩ ?_
 rintro i ⟨p1,p2⟩;simp -implicitDefEqProofs (disch:=omega) only[go_sem,encS]
 with_reducible refine dZ (fun hb=> ?_) (fun hb=> ?_)<;>have h:=hb<;>(try simp only[wf_preprocess] at h)<;>simp -implicitDefEqProofs (disch:=omega) only[go_sem,hb,encS]<;>refine W3 ?_
 ·have hi:i<xs.length:=by omega
  have e:xs.getD i []=xs[i]:=by simp[List.getD,hi]
  with_reducible refine dZ (fun hb=> ?_) (fun hb=> ?_)<;>have h:=hb<;>(try simp only[wf_preprocess] at h)<;>simp -implicitDefEqProofs (disch:=omega) only[go_sem,hb,encS]<;>refine W3 ?_
  ·rw[YW hi p2 (by rw[e];exact h.symm)]
  ·refine bV (i+1) (by omega) rfl rfl ⟨by omega,fun j hj=> ?_⟩;by_cases e':j=i
   ·subst e';rw[e];exact fun x=>h x.symm
   ·exact p2 j (by omega)
 ·rw[aeW (fun j hj=>p2 j (by omega))]
theorem rM(xs:List (List UInt8))(s:List UInt8)(hl:xs.length<=1073741824):aC prog 204 [.c (.d (.sl (xs.map encS))),.c (.d (.s s))] (.c (.d (.b (dec (s∈xs))))):=fun S=>by
 refine zcx [.tmp 4] func204 ntmps204 ?_;refine W1 ?_;refine C2 (Sq xs s hl) ?_;exact aH OE
theorem OI(s:List UInt8):aC prog 185 [.c (.d (.s s))] (.c (.d (.b (dec (s∈reserved))))):=fun S=>by
 refine zcx [.tmp 2] func185 ntmps185 ?_;refine W1 ?_;refine W3 ?_;exact C4 (rJ reserved s (by decide))
theorem OJ(s:List UInt8):aC prog 158 [.c (.d (.s s))] (.c (.d (.b (dec (s∈reserved))))):=fun S=>by
 refine zcx [.tmp 2] func158 ntmps158 ?_;refine W1 ?_;refine W3 ?_;exact C4 (rM reserved s (by decide))
theorem OL(b:UInt8):aC prog 93 [.c (.d (.i .u8 b.toNat))] (.c (.d (.b (dec (lowerB b))))):=fun S=>by
 refine zcx [.tmp 2] func93 ntmps93 ?_;refine W1 ?_;refine S0 (fun hb h=>?_) fun hb h=>?_
 ·exact aH (by rw[j5];exact iC ⟨fun x=>⟨by omega,by omega⟩,fun x=>by have:=x.2;omega⟩)
 ·exact aH (aK fun x=>by have:=x.1;omega).symm
theorem OM(b:UInt8):aC prog 94 [.c (.d (.i .u8 b.toNat))] (.c (.d (.b (dec (sw b))))):=fun S=>by
 refine zcx [.tmp 2] func94 ntmps94 ?_;refine W1 ?_;refine S0 (fun hb h=>?_) fun hb h=>?_
 ·exact aH (by rw[j5];exact iC ⟨fun x=>⟨by omega,by omega⟩,fun x=>by have:=x.2;omega⟩)
 ·exact aH (aK fun x=>by have:=x.1;omega).symm
theorem iI(s:List UInt8)(hl:s.length<=1073741824):aC prog 103 [.c (.d (.s s))] (.c (.d (.b (validName s)))):=fun S=>by
 refine zcx [.tmp 2] func103 ntmps103 ?_;refine W1 ?_
 refine aR (ι:=Nat) zmx rfl [0,5,6] (fun i=>[.c (.d (.s s)),.c (.d (.i .i64 s.length)),.c (.d (.i .i64 i))]) (fun _=>[]::S)
  (fun i=>i<=s.length/\∀j,j<i->lowerB (s.getD j 0)\/(j≠0/\sw (s.getD j 0))) (fun i=>s.length-i) 0 rfl rfl ⟨Nat.zero_le _,fun j h=>by omega⟩ ?_
 rintro i ⟨p1,p2⟩
 have next:i<s.length->(lowerB (s.getD i 0)\/(i≠0/\sw (s.getD i 0)))->∀j,j<i+1->lowerB (s.getD j 0)\/(j≠0/\sw (s.getD j 0)):=fun hi h j hj=>by
  by_cases e:j=i
  ·subst e;exact h
  ·exact p2 j (by omega)
 have bad:i<s.length->¬(lowerB (s.getD i 0)\/(i≠0/\sw (s.getD i 0)))->validName s=false:=fun hi h=>aK fun x=>h (x.2.2 i hi);refine W1 ?_;refine S0 (fun hb h=>?_) fun hb h=>?_
 ·have hi:i<s.length:=by omega
  refine W3 ?_;refine C2 (OL (s.getD i 0)) ?_;refine S0 (fun hb h=>?_) fun hb h=>?_
  ·have nl:=h;refine S0 (fun hb h=>?_) fun hb h=>?_
   ·have i0:i=0:=by omega
    rw[bad hi (fun x=>x.elim nl fun y=>y.1 i0)]
   ·have ne:=h;refine W3 ?_;refine C2 (OM (s.getD i 0)) ?_;refine S0 (fun hb h=>?_) fun hb h=>?_
    ·rw[bad hi (fun x=>x.elim nl fun y=>h y.2)]
    ·exact bV (i+1) (by omega) rfl rfl ⟨by omega,next hi (.inr ⟨by omega,h⟩)⟩
  ·exact bV (i+1) (by omega) rfl rfl ⟨by omega,next hi (.inl h)⟩
 ·have hn:V7 s:=fun j hj=>p2 j (by omega)
  have h0:∀b,dec (s∈reserved)=b->∀c,decide ((s.length:Int)>=1)=c->∀d,decide ((s.length:Int)<=8)=d->validName s=(c&&d&& !b):=by
   rintro b rfl c rfl d rfl;unfold validName;rw[Bool.eq_iff_iff];simp only[Bh,Bool.and_eq_true,decide_eq_true_eq,Bool.not_eq_true',JY];exact⟨fun x=>⟨⟨by omega,by omega⟩,x.2.1⟩,fun x=>⟨⟨by omega,by omega⟩,x.2,hn⟩⟩
  refine S0 (fun hb h=>?_) fun hb h=>?_
  ·have c1:=hb;refine S0 (fun hb h=>?_) fun hb h=>?_
   ·refine C2 (OJ s) ?_;exact aH (by rw[h0 _ rfl _ c1 _ hb];simp)
   ·exact aH (by rw[h0 _ rfl _ c1 _ hb];simp)
  ·exact aH (by rw[h0 _ rfl _ hb _ rfl];simp)
theorem iJ(s:List UInt8)(hl:s.length<=1073741824):aC prog 120 [.c (.d (.s s))] (.c (.d (.b (validName s)))):=fun S=>by
 have bad:¬V7 s->validName s=false:=fun h=>aK fun x=>h x.2.2;refine zcx [.tmp 2] func120 ntmps120 ?_;refine W1 ?_;refine C2 (Gw s.length 1 8) ?_;refine S0 (fun hb h=>?_) fun hb h=>?_
 ·rw[show validName s=false from aK fun x=>h (by omega)]
 have hlen:=h;refine C2 (OI s) ?_;refine S0 (fun hb h=>?_) fun hb h=>?_
 ·rw[show validName s=false from aK fun x=>x.2.1 h]
 have hres:=h
 refine aR (ι:=Nat) zmx rfl [0,3] (fun i=>[.c (.d (.s s)),.c (.d (.i .i64 i))]) (fun _=>[]::S)
  (fun i=>i<=s.length/\∀j,j<i->lowerB (s.getD j 0)\/(j≠0/\sw (s.getD j 0))) (fun i=>s.length-i) 0 rfl rfl ⟨Nat.zero_le _,fun j h=>by omega⟩ ?_
 rintro i ⟨p1,p2⟩
 have next:i<s.length->(lowerB (s.getD i 0)\/(i≠0/\sw (s.getD i 0)))->∀j,j<i+1->lowerB (s.getD j 0)\/(j≠0/\sw (s.getD j 0)):=fun hi h j hj=>by
  by_cases e:j=i
  ·subst e;exact h
  ·exact p2 j (by omega)
 refine W1 ?_;refine S0 (fun hb h=>?_) fun hb h=>?_
 ·have hi:i<s.length:=by omega
  have bad':¬(lowerB (s.getD i 0)\/(i≠0/\sw (s.getD i 0)))->validName s=false:=fun h=>bad fun x=>h (x i hi)
  have next:=next hi
  unfold lowerB sw at bad' next
  all_goals try(refine S0 (fun hb h=>?_) fun hb h=>?_)
  all_goals try(refine S0 (fun hb h=>?_) fun hb h=>?_)
  all_goals try(refine S0 (fun hb h=>?_) fun hb h=>?_)
  all_goals try(refine S0 (fun hb h=>?_) fun hb h=>?_)
  all_goals try(refine S0 (fun hb h=>?_) fun hb h=>?_)
  all_goals try(with_reducible refine dZ (fun hb=> ?_) (fun hb=> ?_)<;>have h:=hb<;>(try simp only[wf_preprocess] at h)<;>simp -implicitDefEqProofs (disch:=omega) only[go_sem,hb]<;>(repeat(with_reducible refine And.intro ?_ ?_;focus first|omega|rfl|assumption|exact⟨_,rfl,rfl⟩|(simp;omega)|(simp;done))))
  all_goals first
   |exact bV (i+1) (by omega) rfl rfl ⟨by omega,next (by omega)⟩
   |exact aH (bad' (by omega)).symm
 ·rw[show validName s=true from bD ⟨by omega,hres,fun j hj=>p2 j (by omega)⟩]
theorem aeZ(s:List UInt8):aC prog 284 [.c (.d (.s s))] (.c (.d (.b (yw s)))):=fun S=>by
 refine zcx [.tmp 2] func284 ntmps284 ?_;refine W1 ?_;refine S0 (fun hb h=>?_) fun hb h=>?_
 ·exact aH (bD (.inl h)).symm
 ·exact aH (by rw[j5];exact iC ⟨fun x=>.inr x,fun x=>x.resolve_left h⟩)
theorem Wd(s:List UInt8):aC prog 272 [.c (.d (.s s))] (.c (.d (.b (yw s)))):=fun S=>by
 refine zcx [.tmp 2] func272 ntmps272 ?_;refine W1 ?_;refine S0 (fun hb h=>?_) fun hb h=>?_
 ·exact aH (bD (.inl h)).symm
 ·exact aH (by rw[j5];exact iC ⟨fun x=>.inr x,fun x=>x.resolve_left h⟩)
theorem DF{x:ak}{i:Nat}(hi:i<x.fArgs.length)(h:x.sz<=4194304):x.fArgs[i].sz<=4194304/\x.fArgs.length<=4194304/\x.fName.length<=4194304:=by
 have hx:x.fArgs[i].sz<=bf (x.fArgs.map ak.enc):=cB (List.mem_map_of_mem (List.getElem_mem hi));simp only[ak.sz,ak.aQ,dz,D.sz,List.length_map] at h;omega
theorem J2{x:ak}(h:x.sz<=4194304):x.fArgs.length<=4194304/\x.fName.length<=4194304:=by
 simp only[ak.sz,ak.aQ,dz,D.sz,List.length_map] at h;omega
theorem J3:∀n:Nat,∀t:ak,SizeOf.sizeOf t<n->t.sz<=4194304->∀(g:Nat)(caps:List (Key×Nat))(α:Type)(st:α->Store)(I:Nat->α->Prop)(f:α->ak->α)(hf:Ip prog g caps st I f ak.v (fun u=>u.sz<=4194304))(m:Nat)(a:α),I (m+t.cnt) a->
 I m ((qH t).foldl f a)/\dw prog 216 [t.v,.c (.fn g caps)] (st a) (fun r S'=>r=.dN []/\S'=st ((qH t).foldl f a))
 |0=>fun t h=>by omega
 |n+1=>by
  have ih:=J3 n;intro t hn hsz g caps α st I f hf m a ha;have kG:=ak.jv t;have hts:=J2 hsz;rw[ak.qG,show m+(1+ak.eF t.fArgs)=(m+ak.eF t.fArgs)+1 by omega] at ha;have h1:=hf _ a t ha hsz
  have hI:∀(ts:List ak),SizeOf.sizeOf ts<n->(∀x∈ts,x.sz<=4194304)->∀a,I (m+ak.eF ts) a->I m ((pR ts).foldl f a):=by
   intro ts
   induction ts with
   |nil=>intro _ _ a ha;exact ha
   |cons x xs ihx=>
    intro hs hz a ha;simp only[List.cons.sizeOf_spec] at hs;rw[pR,List.foldl_append];rw[ak.eF,show m+(x.cnt+ak.eF xs)=(m+ak.eF xs)+x.cnt by omega] at ha;exact ihx (by omega) (fun y hy=>hz y (by simp[hy])) _ (ih x (by omega) (hz x (by simp)) g caps α st I f hf _ a ha).1
  have hall:∀x∈t.fArgs,x.sz<=4194304:=fun x hx=>by
   obtain⟨i,hi,e⟩:=List.getElem_of_mem hx;rw[<-e];exact(DF hi hsz).1
  refine⟨by rw[BN,List.foldl_cons];exact hI t.fArgs (by omega) hall _ h1.1,?_⟩;refine zcx [] func216 ntmps216 ?_;refine W1 ?_;refine cK rfl (h1.2 [_]) ?_;refine W1 ?_
  refine aR (ι:=Nat×α) zmx rfl [1,10,11,12] (fun y=>[.c (.fn g (jQ 1 caps)),.c (.d (.sl (t.fArgs.map ak.enc))),.c (.d (.i .i64 t.fArgs.length)),.c (.d (.i .i64 y.1))]) (fun y=>[.box [.d (.i .i64 t.aM),.d (.s t.fName),.d (.sl (t.fArgs.map ak.enc))]]::st y.2)
   (fun y=>y.1<=t.fArgs.length/\I (m+ak.eF (t.fArgs.drop y.1)) y.2/\(pR (t.fArgs.drop y.1)).foldl f y.2=(qH t).foldl f a) (fun y=>t.fArgs.length-y.1) (0,f a t) rfl rfl ⟨Nat.zero_le _,h1.1,by rw[BN,List.foldl_cons];rfl⟩ ?_
  rintro⟨i,b⟩ ⟨p1,p2,p3⟩;simp only at p1 p2 p3;refine W1 ?_;refine S0 (fun hb h=>?_) fun hb h=>?_
  ·have hi:i<t.fArgs.length:=by omega
   have hs:=List.sizeOf_lt_of_mem (List.getElem_mem hi);rw[Bj hi,List.foldl_append] at p3;rw[List.drop_eq_getElem_cons hi,ak.eF,show m+(t.fArgs[i].cnt+ak.eF (t.fArgs.drop (i+1)))=(m+ak.eF (t.fArgs.drop (i+1)))+t.fArgs[i].cnt by omega] at p2;have h2:=(ih t.fArgs[i] (by omega) (DF hi hsz).1 g caps α st I f hf _ b p2).1;refine W3 ?_;refine cK rfl (((ih t.fArgs[i] (by omega) (DF hi hsz).1 g (jQ 1 caps) α (fun a=>[.box [.d (.i .i64 t.aM),.d (.s t.fName),.d (.sl (t.fArgs.map ak.enc))],.box [.d (.i .i64 t.fArgs[i].aM),.d (.s t.fArgs[i].fName),.d (.sl (t.fArgs[i].fArgs.map ak.enc))]]::st a) I f (hf.push _) _ b p2)).2) ?_;refine W1 ?_;exact bL 1 (by decide) (i+1,(qH t.fArgs[i]).foldl f b) (by simp only;omega) rfl rfl (by simp only[gV,iR,List.all_cons,List.all_nil,V.refs,C.refs,VZ,Bool.and_true]) rfl ⟨by simp only;omega,h2,p3⟩
  ·have hi:i=t.fArgs.length:=by omega
   rw[hi,List.drop_length,pR,List.foldl_nil] at p3;rw[p3]
theorem Mw{t:ak}(hsz:t.sz<=4194304){g:Nat}{caps:List (Key×Nat)}{α:Type}{st:α->Store}{I:Nat->α->Prop}{f:α->ak->α}(hf:Ip prog g caps st I f ak.v (fun u=>u.sz<=4194304))(m:Nat)(a:α)(ha:I (m+t.cnt) a):
 I m ((qH t).foldl f a)/\dw prog 216 [t.v,.c (.fn g caps)] (st a) (fun r S'=>r=.dN []/\S'=st ((qH t).foldl f a)):=J3 _ t (Nat.lt_succ_self _) hsz g caps α st I f hf m a ha
theorem LZ(rest:List Ab.Obj)(S:Store):Ip prog 250 [((0,0),0)] (fun out:List (List UInt8)=>(.box [.bB (0,1) (out.map encS)]:: .tok 1 (out.map encS)::rest)::S) (fun n out=>out.length+n<=1073741824) vS ak.v (fun u=>u.sz<=4194304):=by
 intro n out u hI hu;refine⟨by have:=M7 out u;omega,fun F=> ?_⟩;have hts:=J2 hu;refine zcx [] func250 ntmps250 ?_;refine W1 ?_;refine S0 (fun hb h=>?_) fun hb h=>?_
 ·have h1:=h;refine C2 (rM out u.fName (by omega)) ?_;refine S0 (fun hb h=>?_) fun hb h=>?_
  ·refine W3 ?_;have ha:vS out u=out++[u.fName]:=if_pos ⟨h1,h⟩;rw[ha];simp[encS]
  ·have ha:vS out u=out:=if_neg fun x=>x.2 h;rw[ha]
 ·have ha:vS out u=out:=if_neg fun x=>h x.1;rw[ha]
theorem Q7(ts:List ak)(hl:ts.length<=4194304)(hz:∀t∈ts,t.sz<=4194304)(hc:ak.eF ts<=1073741823):aC prog 219 [.c (.d (.sl (ts.map ak.enc)))] (.c (.d (.sl ((u6 [] ts).map encS)))):=fun S=>by
 refine zcx [.tmp 2] func219 ntmps219 ?_;refine W1 ?_;refine W3 ?_;refine su 0 0 1 [] [.bn []] rfl rfl (by simp) ?_
 refine aR (ι:=Nat×List (List UInt8)) zmx rfl [3,7,8,9] (fun y=>[.c (.ptr (0,0) 0),.c (.d (.sl (ts.map ak.enc))),.c (.d (.i .i64 ts.length)),.c (.d (.i .i64 y.1))]) (fun y=>[.box [.bB (0,1) (y.2.map encS)],.tok 1 (y.2.map encS)]::S)
  (fun y=>y.1<=ts.length/\y.2.length+ak.eF (ts.drop y.1)<=1073741824/\u6 y.2 (ts.drop y.1)=u6 [] ts) (fun y=>ts.length-y.1) (0,[]) rfl rfl ⟨Nat.zero_le _,by simp only[List.drop_zero,List.length_nil];omega,rfl⟩ ?_
 rintro⟨i,out⟩ ⟨p1,p2,p3⟩;simp only at p1 p2 p3;refine W1 ?_;refine S0 (fun hb h=>?_) fun hb h=>?_
 ·have hi:i<ts.length:=by omega
  rw[Mv hi] at p3;rw[List.drop_eq_getElem_cons hi,ak.eF] at p2;have hlen:=BO ts[i] out;refine W3 ?_;refine cK rfl (Mw (hz _ (List.getElem_mem hi)) (LZ [Ab.Obj.box [.d (.i .i64 ts[i].aM),.d (.s ts[i].fName),.d (.sl (ts[i].fArgs.map ak.enc))]] S) (ak.eF (ts.drop (i+1))) out (by omega)).2 ?_;refine W1 ?_;exact bL 2 (by decide) (i+1,jG out ts[i]) (by simp only;omega) rfl rfl rfl rfl ⟨by simp only;omega,by simp only;omega,p3⟩
 ·have hi:i=ts.length:=by omega
  rw[hi,List.drop_length] at p3;rw[<-p3];rfl
theorem zI(t:ak)(hsz:t.sz<=4194304):aC prog 169 [t.v] (.c (.d (.sl ((jG [] t).map encS)))):=fun S=>by
 have hc:=mR t;have h0:=Q7 [t] (by simp) (by simpa using hsz) (by simp[ak.eF];omega);simp only[List.map_cons,List.map_nil,ak.aQ] at h0;refine zcx [.tmp 2] func169 ntmps169 ?_;refine W1 ?_;refine W3 ?_;refine aX h0 ?_;refine W1 ?_;rw[show u6 [] [t]=jG [] t by simp[u6,jG,pR]]
theorem OO:∀n:Nat,∀t:ak,SizeOf.sizeOf t<n->t.sz<=4194304->∀(out:List (List UInt8))(l j:Nat)(S:Store),bA S (l,j)=some (.tok 1 (out.map encS))->out.length+t.cnt<=1073741824->
 dw prog 258 [t.v,.c (.bB (l,j) (out.map encS))] S (fun r S'=>r=.c (.bB (l,j) ((jG out t).map encS))/\S'=bJ S (l,j) (.tok 1 ((jG out t).map encS)))
 |0=>fun t h=>by omega
 |n+1=>by
  have ih:=OO n;intro t hn hsz out l j S hk hc;have kG:=ak.jv t;have hts:=J2 hsz;have hcn:=ak.qG t;have OP:∀x:Ab.Obj,bA (bJ S (l,j) x) (l,j)=some x:=fun x=>eO _ _ _ _ hk;have hS0:bJ S (l,j) (.tok 1 (out.map encS))=S:=BL _ _ hk;have fin:jG out t=u6 (vS out t) t.fArgs:=ah8 out t;have hal:=M7 out t
  have e0:(out++[t.fName]).map encS=out.map encS++[[D.s t.fName]]:=by simp[encS]
  refine zcx [.tmp 4] func258 ntmps258 ?_;simp -implicitDefEqProofs (disch:=omega) only[go_sem,hk]
  repeat' (first
   |(with_reducible refine dZ (fun hb=> ?_) (fun hb=> ?_)<;>have h:=hb<;>(try simp only[wf_preprocess] at h)<;>simp -implicitDefEqProofs (disch:=omega) only[go_sem,hb,hk]<;>refine W3 ?_)
   |(refine aX (rJ out t.fName (by omega)) ?_;simp -implicitDefEqProofs (disch:=omega) only[go_sem,hk];refine W3 ?_))
  all_goals first
   |(have ha:vS out t=out++[t.fName]:=if_pos ⟨by assumption,by assumption⟩)
   |(have ha:vS out t=out:=if_neg (fun x=>by have:=x.1;have:=x.2;contradiction))
  all_goals
   refine aR (ι:=Nat×List (List UInt8)) zmx rfl [1,2,5] (fun y=>[.c (.bB (1+l,j) (y.2.map encS)),.c (.ptr (0,0) 0),.c (.d (.i .i64 y.1))]) (fun y=>[.box [.d (.i .i64 t.aM),.d (.s t.fName),.d (.sl (t.fArgs.map ak.enc))]]::bJ S (l,j) (.tok 1 (y.2.map encS)))
    (fun y=>y.1<=t.fArgs.length/\y.2.length+ak.eF (t.fArgs.drop y.1)<=1073741824/\u6 y.2 (t.fArgs.drop y.1)=jG out t) (fun y=>t.fArgs.length-y.1) (0,vS out t) (by first|(rw[ha,e0];rfl)|(rw[ha];rfl)) (by first|(simp only[ha,e0];done)|(simp only[ha,hS0];done)) ⟨Nat.zero_le _,by simp only[List.drop_zero];omega,by rw[fin];rfl⟩ ?_
   rintro⟨i,b⟩ ⟨p1,p2,p3⟩;simp only at p1 p2 p3;refine W1 ?_;refine S0 (fun hb h=>?_) fun hb h=>?_
   ·have hi:i<t.fArgs.length:=by omega
    have hs:=List.sizeOf_lt_of_mem (List.getElem_mem hi);rw[Mv hi] at p3;rw[List.drop_eq_getElem_cons hi,ak.eF] at p2;have hlen:=BO t.fArgs[i] b;refine W3 ?_;refine cK rfl (ih t.fArgs[i] (by omega) (DF hi hsz).1 b (1+l) j _ (by rw[cu];exact OP _) (by omega)) ?_;simp -implicitDefEqProofs (disch:=omega) only[go_sem,bQ];exact bV (i+1,jG b t.fArgs[i]) (by simp only;omega) rfl rfl ⟨by simp only;omega,by simp only;omega,p3⟩
   ·have hi:i=t.fArgs.length:=by omega
    rw[hi,List.drop_length] at p3;rw[<-p3];exact⟨rfl,rfl⟩
theorem OQ(t:ak)(hsz:t.sz<=4194304):aC prog 236 [t.v] (.c (.d (.sl ((jG [] t).map encS)))):=fun S=>by
 have hc:=mR t
 have h0:∀S,dw prog 258 [t.v,.c (.bn [])] S (fun r S'=>r=.c (.d (.sl ((jG [] t).map encS)))/\S'=S):=fun S=>by
  refine dw.ah2 1 (es:=[]) (aW:=1) rfl (by simp) (OO _ t (Nat.lt_succ_self _) hsz [] 0 0 ([.tok 1 []]::S) rfl (by simp;omega)) ?_;rintro r fr S' ⟨rfl,h2⟩;injection h2 with h2 h3;exact⟨_,rfl,rfl,h3⟩
 refine zcx [.tmp 2] func236 ntmps236 ?_;refine W1 ?_;refine W3 ?_;refine mQ [true,true] rfl (h0 _) ?_;exact Z1
theorem Fe:∀n:Nat,∀t:ak,SizeOf.sizeOf t<n->t.sz<=4194304->aC prog 196 [t.v] (.c (.d (.b (rW t))))
 |0=>fun t h=>by omega
 |n+1=>by
  have ih:=Fe n;intro t hn hsz S;have kG:=ak.jv t;have hts:=J2 hsz;refine zcx [.tmp 2] func196 ntmps196 ?_;refine W1 ?_
  refine aR (ι:=Nat) zmx rfl [1,3] (fun i=>[.c (.ptr (0,0) 0),.c (.d (.i .i64 i))]) (fun _=>[.box [.d (.i .i64 t.aM),.d (.s t.fName),.d (.sl (t.fArgs.map ak.enc))]]::S)
   (fun i=>i<=t.fArgs.length/\wF (t.fArgs.drop i)=wF t.fArgs) (fun i=>t.fArgs.length-i) 0 rfl rfl ⟨Nat.zero_le _,rfl⟩ ?_
  rintro i ⟨p1,p2⟩;refine W1 ?_;refine S0 (fun hb h=>?_) fun hb h=>?_
  ·have hi:i<t.fArgs.length:=by omega
   rw[Uh hi] at p2;refine W3 ?_;refine C2 (ih t.fArgs[i] (by have:=List.sizeOf_lt_of_mem (List.getElem_mem hi);omega) (DF hi hsz).1) ?_;refine S0 (fun hb h=>?_) fun hb h=>?_
   ·rw[Iu,<-p2,h];simp
   ·exact bV (i+1) (by omega) rfl rfl ⟨by omega,by rw[<-p2,h];rfl⟩
  ·have hi:i=t.fArgs.length:=by omega
   rw[hi,List.drop_length] at p2;rw[Iu,<-p2];exact aH (by simp[wF,pR])
theorem Gx(t:ak)(hsz:t.sz<=4194304):aC prog 196 [t.v] (.c (.d (.b (rW t)))):=Fe _ t (Nat.lt_succ_self _) hsz
theorem Ui(rest:List Ab.Obj)(cs:List C)(S:Store):Ip prog 217 [((0,1),0)] (fun b:Bool=>(.box cs:: .box [.d (.b b)]::rest)::S) (fun _ _=>True) (fun b u=>b||decide (u.aM=3)) ak.v (fun u=>u.sz<=4194304):=by
 intro n b u _ hu;refine⟨trivial,fun F=> ?_⟩;refine zcx [] func217 ntmps217 ?_;refine W1 ?_
 cases b with
 |true=>
  refine W1 ?_;rfl
 |false=>
  refine W1 ?_;rfl
theorem Gy(t:ak)(hsz:t.sz<=4194304):aC prog 167 [t.v] (.c (.d (.b (rW t)))):=fun S=>by
 refine zcx [.tmp 2] func167 ntmps167 ?_;refine W1 ?_;refine W3 ?_;refine cK rfl (Mw hsz (Ui [] [.d (.i .i64 t.aM),.d (.s t.fName),.d (.sl (t.fArgs.map ak.enc))] S) 0 false trivial).2 ?_;refine W1 ?_;rw[V8];rfl
theorem wG{x:ak}{i:Nat}(hi:i<x.fArgs.length)(h:x.sz<=4194304):x.fArgs[i].sz<=4194304/\x.fArgs.length<=4194304/\x.fName.length<=4194304:=by
 have hx:x.fArgs[i].sz<=bf (x.fArgs.map ak.enc):=cB (List.mem_map_of_mem (List.getElem_mem hi));simp only[ak.sz,ak.aQ,dz,D.sz,List.length_map] at h;omega
theorem Fg{x:ak}(h:x.sz<=4194304):x.fArgs.length<=4194304/\x.fName.length<=4194304:=by
 simp only[ak.sz,ak.aQ,dz,D.sz,List.length_map] at h;omega
theorem nu:∀{ts:List ak}{i:Nat}(hi:i<ts.length),ak.eF (ts.drop i)=ts[i].cnt+ak.eF (ts.drop (i+1)):=fun {ts} {i} hi=>by
 rw[List.drop_eq_getElem_cons hi,ak.eF]
theorem Mx:∀{ts:List ak}{i:Nat}(hi:i<ts.length),depths (ts.drop i)=max (nO ts[i]+1) (depths (ts.drop (i+1))):=fun {ts} {i} hi=>by
 rw[List.drop_eq_getElem_cons hi,depths]
theorem Wh:∀{ts:List ak}{i:Nat}(hi:i<ts.length),jg (ts.drop i)=(formed ts[i]&&jg (ts.drop (i+1))):=fun {ts} {i} hi=>by
 rw[List.drop_eq_getElem_cons hi,jg]
theorem OT:∀n:Nat,∀x:ak,SizeOf.sizeOf x<n->∀l:Int,0<=l->l<=1073741824->x.sz<=4194304->aC prog 259 [x.v,.c (.d (.i .i64 l))] (.c (.d (.i .i64 (oO l x.cnt))))
 |0=>fun x h=>by omega
 |n+1=>by
  have ih:=OT n;intro x hn l h0 h1 hsz S;have kG:=ak.jv x;have hts:=Fg hsz;have hcn:=ak.qG x;refine zcx [.tmp 4] func259 ntmps259 ?_;refine W1 ?_
  refine aR (ι:=Nat×Int) zmx rfl [1,2,5] (fun y=>[.c (.d (.i .i64 y.2)),.c (.ptr (0,0) 0),.c (.d (.i .i64 y.1))]) (fun y=>[.box [.d (.i .i64 x.aM),.d (.s x.fName),.d (.sl (x.fArgs.map ak.enc))]]::S)
   (fun y=>y.1<=x.fArgs.length/\ -1<=y.2/\y.2<=1073741824/\(0<=y.2->oO l x.cnt=oO y.2 (ak.eF (x.fArgs.drop y.1)))/\(y.2<0->oO l x.cnt= -1)) (fun y=>x.fArgs.length-y.1) (0,l-1) rfl rfl ⟨Nat.zero_le _,by simp only;omega,by simp only;omega,fun h=> ?_,fun h=> ?_⟩ ?_
  ·simp only[List.drop_zero] at h ⊢;unfold oO;rw[hcn];split<;>split<;>omega
  ·simp only at h;exact Lr (by omega)
  rintro⟨i,c⟩ ⟨p1,p2,p3,p4,p5⟩;simp only at p1 p2 p3 p4 p5;refine W1 ?_;refine S0 (fun hb h=>?_) fun hb h=>?_
  ·have hi:i<x.fArgs.length:=by omega
   refine S0 (fun hb h=>?_) fun hb h=>?_
   ·have hsz':=wG hi hsz;have p6:=p4 h;rw[nu hi] at p6;refine W3 ?_;refine C2 (ih x.fArgs[i] (by have:=List.sizeOf_lt_of_mem (List.getElem_mem hi);omega) c (by omega) (by omega) (by omega)) ?_;refine bV (i+1,oO c _) (by simp only;omega) rfl rfl ⟨by simp only;omega,?_,?_,fun h=> ?_,fun h=> ?_⟩
    ·simp only;unfold oO;split<;>omega
    ·simp only;unfold oO;split<;>omega
    ·simp only at h ⊢;rw[p6];have:=Lp (l:=c) (a:=x.fArgs[i].cnt) (by omega);rw[this.1];unfold oO;split<;>split<;>omega
    ·simp only at h ⊢;rw[p6];have:=Ir h;exact Lr (by omega)
   ·have hc:c= -1:=by omega
    rw[p5 (by omega),hc]
  ·have hi:i=x.fArgs.length:=by omega
   by_cases hc:0<=c
   ·rw[p4 hc,hi,List.drop_length,ak.eF,V6 (by omega)];exact int_eq (by simp)
   ·rw[p5 (by omega)];exact int_eq (by omega)
theorem ae0(x:ak)(l:Int)(h0:0<=l)(h1:l<=1073741824)(hsz:x.sz<=4194304):aC prog 259 [x.v,.c (.d (.i .i64 l))] (.c (.d (.i .i64 (oO l x.cnt)))):=OT _ x (Nat.lt_succ_self _) l h0 h1 hsz
theorem Wi(a b:Int):aC prog 176 [.c (.d (.i .i64 a)),.c (.d (.i .i64 b))] (.c (.d (.i .i64 (max a b)))):=fun S=>by
 refine zcx [.tmp 4] func176 ntmps176 ?_;refine W1 ?_;refine S0 (fun hb h=>?_) fun hb h=>?_
 ·exact int_eq (by omega)
 ·exact int_eq (by omega)
theorem Jl:∀n:Nat,∀x:ak,SizeOf.sizeOf x<n->x.sz<=4194304->aC prog 260 [x.v] (.c (.d (.i .i64 (nO x))))
 |0=>fun x h=>by omega
 |n+1=>by
  have ih:=Jl n;intro x hn hsz S;have kG:=ak.jv x;have hts:=Fg hsz;have hd1:=BM x;have hd2:=mR x;refine zcx [.tmp 2] func260 ntmps260 ?_;refine W1 ?_
  refine aR (ι:=Nat×Nat) zmx rfl [1,3,4] (fun y=>[.c (.ptr (0,0) 0),.c (.d (.i .i64 y.2)),.c (.d (.i .i64 y.1))]) (fun y=>[.box [.d (.i .i64 x.aM),.d (.s x.fName),.d (.sl (x.fArgs.map ak.enc))]]::S)
   (fun y=>y.1<=x.fArgs.length/\nO x=max y.2 (depths (x.fArgs.drop y.1))) (fun y=>x.fArgs.length-y.1) (0,0) rfl rfl ⟨Nat.zero_le _,by simp[Sl]⟩ ?_
  rintro⟨i,c⟩ ⟨p1,p2⟩;simp only at p1 p2;refine W1 ?_;refine S0 (fun hb h=>?_) fun hb h=>?_
  ·have hi:i<x.fArgs.length:=by omega
   have hsz':=wG hi hsz;rw[Mx hi] at p2;have hd3:=BM x.fArgs[i];have hd4:=mR x.fArgs[i];refine W3 ?_;refine C2 (ih x.fArgs[i] (by have:=List.sizeOf_lt_of_mem (List.getElem_mem hi);omega) (by omega)) ?_;refine C2 (Wi _ _) ?_;rw[show max (c:Int) (1+(nO x.fArgs[i]:Int))=((max c (1+nO x.fArgs[i]):Nat):Int) by omega];exact bV (i+1,max c (1+nO x.fArgs[i])) (by simp only;omega) rfl rfl ⟨by simp only;omega,by simp only;omega⟩
  ·have hi:i=x.fArgs.length:=by omega
   rw[hi,List.drop_length,depths] at p2;exact int_eq (by omega)
theorem Wj(x:ak)(hsz:x.sz<=4194304):aC prog 260 [x.v] (.c (.d (.i .i64 (nO x)))):=Jl _ x (Nat.lt_succ_self _) hsz
theorem Jm:∀n:Nat,∀x:ak,SizeOf.sizeOf x<n->x.sz<=4194304->aC prog 248 [x.v] (.c (.d (.i .i64 (nO x))))
 |0=>fun x h=>by omega
 |n+1=>by
  have ih:=Jm n;intro x hn hsz S;have kG:=ak.jv x;have hts:=Fg hsz;have hd1:=BM x;have hd2:=mR x;refine zcx [.tmp 2] func248 ntmps248 ?_;refine W1 ?_
  refine aR (ι:=Nat×Nat) zmx rfl [3,7,8,9] (fun y=>[.c (.d (.i .i64 y.2)),.c (.d (.sl (x.fArgs.map ak.enc))),.c (.d (.i .i64 x.fArgs.length)),.c (.d (.i .i64 y.1))]) (fun y=>[.box [.d (.i .i64 x.aM),.d (.s x.fName),.d (.sl (x.fArgs.map ak.enc))]]::S)
   (fun y=>y.1<=x.fArgs.length/\nO x=max y.2 (depths (x.fArgs.drop y.1))) (fun y=>x.fArgs.length-y.1) (0,0) rfl rfl ⟨Nat.zero_le _,by simp[Sl]⟩ ?_
  rintro⟨i,c⟩ ⟨p1,p2⟩;simp only at p1 p2;refine W1 ?_;refine S0 (fun hb h=>?_) fun hb h=>?_
  ·have hi:i<x.fArgs.length:=by omega
   have hsz':=wG hi hsz;rw[Mx hi] at p2;have hd3:=BM x.fArgs[i];have hd4:=mR x.fArgs[i];refine W3 ?_;refine C2 (ih x.fArgs[i] (by have:=List.sizeOf_lt_of_mem (List.getElem_mem hi);omega) (by omega)) ?_;rw[show max (c:Int) ((nO x.fArgs[i]:Int)+1)=((max c (nO x.fArgs[i]+1):Nat):Int) by omega];exact bL 1 (by decide) (i+1,max c (nO x.fArgs[i]+1)) (by simp only;omega) rfl rfl rfl rfl ⟨by simp only;omega,by simp only;omega⟩
  ·have hi:i=x.fArgs.length:=by omega
   rw[hi,List.drop_length,depths] at p2;exact int_eq (by omega)
theorem Wl(x:ak)(hsz:x.sz<=4194304):aC prog 248 [x.v] (.c (.d (.i .i64 (nO x)))):=Jm _ x (Nat.lt_succ_self _) hsz
theorem J4:∀n:Nat,∀x:ak,SizeOf.sizeOf x<n->x.sz<=4194304->aC prog 249 [x.v] (.c (.d (.i .i64 x.cnt)))
 |0=>fun x h=>by omega
 |n+1=>by
  have ih:=J4 n;intro x hn hsz S;have kG:=ak.jv x;have hts:=Fg hsz;have hd2:=mR x;refine zcx [.tmp 2] func249 ntmps249 ?_;refine W1 ?_
  refine aR (ι:=Nat×Nat) zmx rfl [3,7,8,9] (fun y=>[.c (.d (.i .i64 y.2)),.c (.d (.sl (x.fArgs.map ak.enc))),.c (.d (.i .i64 x.fArgs.length)),.c (.d (.i .i64 y.1))]) (fun y=>[.box [.d (.i .i64 x.aM),.d (.s x.fName),.d (.sl (x.fArgs.map ak.enc))]]::S)
   (fun y=>y.1<=x.fArgs.length/\x.cnt=y.2+ak.eF (x.fArgs.drop y.1)) (fun y=>x.fArgs.length-y.1) (0,1) rfl rfl ⟨Nat.zero_le _,by simp[ak.qG]⟩ ?_
  rintro⟨i,c⟩ ⟨p1,p2⟩;simp only at p1 p2;refine W1 ?_;refine S0 (fun hb h=>?_) fun hb h=>?_
  ·have hi:i<x.fArgs.length:=by omega
   have hsz':=wG hi hsz;rw[nu hi] at p2;refine W3 ?_;refine C2 (ih x.fArgs[i] (by have:=List.sizeOf_lt_of_mem (List.getElem_mem hi);omega) (by omega)) ?_;rw[show(c:Int)+(x.fArgs[i].cnt:Int)=((c+x.fArgs[i].cnt:Nat):Int) by omega];exact bL 1 (by decide) (i+1,c+x.fArgs[i].cnt) (by simp only;omega) rfl rfl rfl rfl ⟨by simp only;omega,by simp only;omega⟩
  ·have hi:i=x.fArgs.length:=by omega
   rw[hi,List.drop_length,ak.eF] at p2;exact int_eq (by omega)
theorem YX(x:ak)(hsz:x.sz<=4194304):aC prog 249 [x.v] (.c (.d (.i .i64 x.cnt))):=J4 _ x (Nat.lt_succ_self _) hsz
theorem J5:∀n:Nat,(∀x:ak,SizeOf.sizeOf x<n->x.sz<=4194304->aC prog 247 [x.v] (.c (.d (.b (formed x)))))/\
 (∀xs:List ak,SizeOf.sizeOf xs<n->xs.length<=4194304->(∀t∈xs,t.sz<=4194304)->aC prog 213 [.c (.d (.sl (xs.map ak.enc))),.c (.fn 273 [])] (.c (.d (.b (!jg xs)))))
 |0=>⟨fun x h=>by omega,fun x h=>by omega⟩
 |n+1=>by
  obtain⟨ih,qj⟩:=J5 n;refine⟨fun x hn hsz S=> ?_,fun xs hn hlen hsz S=> ?_⟩
  ·have kG:=ak.jv x;have hts:=Fg hsz
   have fin:∀b,Dj x.aM x.fName x.fArgs.length=b->formed x=(b&&jg x.fArgs):=fun b hb=>by rw[<-hb];exact yO x
   have hall:∀t∈x.fArgs,t.sz<=4194304:=fun t ht=>by
    obtain⟨i,hi,e⟩:=List.getElem_of_mem ht;rw[<-e];exact(wG hi hsz).1
   have tail:=qj x.fArgs (by omega) hts.1 hall
   have yes:Dj x.aM x.fName x.fArgs.length=true->formed x= !(!jg x.fArgs):=fun h=>by rw[fin _ h];simp
   have no:Dj x.aM x.fName x.fArgs.length=false->formed x=false:=fun h=>by rw[fin _ h];simp
   have shut:¬((x.aM=1\/x.aM=4)/\validName x.fName=true/\x.fArgs.length=0\/x.aM=3/\validName x.fName=true/\x.fArgs.length=1\/x.aM=2/\(validName x.fName=true/\x.fArgs.length<=3\/yw x.fName=true/\x.fArgs.length=0))->V.c (.d (.b false))=V.c (.d (.b (formed x))):=fun h=>aH (no (aK h)).symm;have open_:((x.aM=1\/x.aM=4)/\validName x.fName=true/\x.fArgs.length=0\/x.aM=3/\validName x.fName=true/\x.fArgs.length=1\/x.aM=2/\(validName x.fName=true/\x.fArgs.length<=3\/yw x.fName=true/\x.fArgs.length=0))->V.c (.d (.b (!(!jg x.fArgs))))=V.c (.d (.b (formed x))):=fun h=>aH (yes (bD h)).symm;clear yes no fin;refine zcx [.tmp 2] func247 ntmps247 ?_;refine W1 ?_
   repeat' (first
    |(refine S0 (fun hb h=>?_) fun hb h=>?_)
    |(refine aX (iI x.fName (by omega)) ?_;refine W1 ?_)
    |(refine aX (Wd x.fName) ?_;refine W1 ?_)
    |(refine aX tail ?_;refine W1 ?_))
   all_goals first
    |(refine shut (fun y=> ?_);rcases y with⟨_,_,_⟩|⟨_,_,_⟩|⟨_,⟨_,_⟩|⟨_,_⟩⟩<;>first|omega|(simp_all;done))
    |(refine open_ ?_;first
       |exact .inl ⟨by omega,by assumption,by omega⟩
       |exact .inr (.inl ⟨by omega,by assumption,by omega⟩)
       |exact .inr (.inr ⟨by omega,.inl ⟨by assumption,by omega⟩⟩)
       |exact .inr (.inr ⟨by omega,.inr ⟨by assumption,by omega⟩⟩))
  ·have hcl:∀y∈xs,aC prog 273 [y.v] (.c (.d (.b (!formed y)))):=fun y hy S=>by
    have hys:=List.sizeOf_lt_of_mem hy;refine zcx [.tmp 2] func273 ntmps273 ?_;refine W1 ?_;exact C4 (ih y (by omega) (hsz y hy))
   have hidx:aC prog 246 [.c (.d (.sl (xs.map ak.enc))),.c (.fn 273 [])] (.c (.d (.i .i64 (tX (fun y=> !formed y) xs)))):=fun S=>by
    refine zcx [.tmp 4] func246 ntmps246 ?_;refine W1 ?_
    refine aR (ι:=Nat) zmx rfl [0,1,7,8] (fun i=>[.c (.d (.sl (xs.map ak.enc))),.c (.fn 273 []),.c (.d (.i .i64 xs.length)),.c (.d (.i .i64 i))]) (fun _=>[]::S)
     (fun i=>i<=xs.length/\∀j,∀hj:j<xs.length,j<i->formed xs[j]=true) (fun i=>xs.length-i) 0 rfl rfl ⟨Nat.zero_le _,fun j _ h=>by omega⟩ ?_
    rintro i ⟨p1,p2⟩;refine W1 ?_;refine S0 (fun hb h=>?_) fun hb h=>?_
    ·have hi:i<xs.length:=by omega
     refine W3 ?_;refine C2 (hcl xs[i] (List.getElem_mem hi)) ?_;refine S0 (fun hb h=>?_) fun hb h=>?_
     ·rw[sQ hi (fun j hj hji=>by rw[p2 j hj hji];rfl) (by rw[h];rfl)]
     ·refine bV (i+1) (by omega) rfl rfl ⟨by omega,fun j hj hji=> ?_⟩;by_cases e:j=i
      ·subst e;exact h
      ·exact p2 j hj (by omega)
    ·rw[wE (fun j hj=>by rw[p2 j hj (by omega)];rfl)]
   refine zcx [.tmp 4] func213 ntmps213 ?_;refine W1 ?_;refine C2 (hidx) ?_;rw[<-Mt];exact aH uL
theorem YZ(x:ak)(hsz:x.sz<=4194304):aC prog 247 [x.v] (.c (.d (.b (formed x)))):=(J5 _).1 x (Nat.lt_succ_self _) hsz
theorem yx(x:ak)(hsz:x.sz<=4194304):aC prog 215 [x.v] (.c (.d (.b (oo x)))):=fun S=>by
 refine zcx [.tmp 2] func215 ntmps215 ?_;refine W1 ?_;refine C2 (YZ x hsz) ?_;refine S0 (fun hb h=>?_) fun hb h=>?_
 ·have h1:=h;refine C2 (Wl x hsz) ?_;refine S0 (fun hb h=>?_) fun hb h=>?_
  ·refine C2 (YX x hsz) ?_;exact aH (by rw[j5];exact iC ⟨fun y=>⟨h1,by omega,by omega⟩,fun y=>by have:=y.2.2;omega⟩)
  ·exact aH (aK fun y=>by have:=y.2.1;omega).symm
 ·exact aH (aK fun y=>by rw[y.1] at h;cases h).symm
theorem OU:∀n:Nat,∀x:ak,SizeOf.sizeOf x<n->x.sz<=4194304->aC prog 261 [x.v] (.c (.d (.b (formed x))))
 |0=>fun x h=>by omega
 |n+1=>by
  have ih:=OU n;intro x hn hsz S;have kG:=ak.jv x;have hts:=Fg hsz;have shut:¬((x.aM=1\/x.aM=4)/\validName x.fName=true/\x.fArgs.length=0\/x.aM=3/\validName x.fName=true/\x.fArgs.length=1\/x.aM=2/\(validName x.fName=true/\x.fArgs.length<=3\/yw x.fName=true/\x.fArgs.length=0))->V.c (.d (.b false))=V.c (.d (.b (formed x))):=fun h=>aH (by rw[yO,show Dj x.aM x.fName x.fArgs.length=false from aK h];rfl)
  have apr:∀b:Bool,(b=true<->((x.aM=1\/x.aM=4)/\validName x.fName=true/\x.fArgs.length=0\/x.aM=3/\validName x.fName=true/\x.fArgs.length=1\/x.aM=2/\(validName x.fName=true/\x.fArgs.length<=3\/yw x.fName=true/\x.fArgs.length=0)))->b=Dj x.aM x.fName x.fArgs.length:=fun b h=>by
   rw[Bool.eq_iff_iff,h];unfold Dj;rw[Bh]
  refine zcx [.tmp 2] func261 ntmps261 ?_;refine W1 ?_;refine C2 (iJ x.fName (by omega)) ?_
  repeat' (first
   |(refine S0 (fun hb h=>?_) fun hb h=>?_)
   |(refine aX (aeZ x.fName) ?_;refine W1 ?_))
  all_goals first
   |(refine shut (fun y=> ?_);rcases y with⟨_,_,_⟩|⟨_,_,_⟩|⟨_,⟨_,_⟩|⟨_,_⟩⟩<;>first|omega|(simp_all;done))
   |skip
  all_goals
   refine aR (ι:=Nat×Bool) zmx rfl [1,3,4] (fun y=>[.c (.ptr (0,0) 0),.c (.d (.b y.2)),.c (.d (.i .i64 y.1))]) (fun y=>[.box [.d (.i .i64 x.aM),.d (.s x.fName),.d (.sl (x.fArgs.map ak.enc))]]::S)
    (fun y=>y.1<=x.fArgs.length/\(y.2&&jg (x.fArgs.drop y.1))=formed x) (fun y=>x.fArgs.length-y.1) (0,Dj x.aM x.fName x.fArgs.length) ?_ rfl ⟨Nat.zero_le _,by rw[yO];rfl⟩ ?_
   ·simp only[List.map_cons,List.map_nil];simp -implicitDefEqProofs (disch:=omega) only[go_sem,List.cons.injEq,V.c.injEq,C.d.injEq,D.b.injEq,Int.natCast_zero];refine apr _ ⟨fun y=> ?_,fun y=> ?_⟩
    ·(try simp only[decide_eq_true_eq,Bool.false_eq_true] at y)<;>first
       |exact .inl ⟨by omega,by assumption,by omega⟩
       |exact .inr (.inl ⟨by omega,by assumption,by omega⟩)
       |exact .inr (.inr ⟨by omega,.inl ⟨by assumption,by omega⟩⟩)
       |exact .inr (.inr ⟨by omega,.inr ⟨by assumption,by omega⟩⟩)
    ·rcases y with⟨_,_,_⟩|⟨_,_,_⟩|⟨_,⟨_,_⟩|⟨_,_⟩⟩<;>first|omega|(simp only[decide_eq_true_eq];omega)|(simp_all;done)
   rintro⟨i,c⟩ ⟨p1,p2⟩;simp only at p1 p2;refine W1 ?_;refine S0 (fun hb h=>?_) fun hb h=>?_
   ·have hi:i<x.fArgs.length:=by omega
    have hsz':=wG hi hsz;rw[Wh hi] at p2;refine S0 (fun hb h=>?_) fun hb h=>?_
    ·refine C1 (ih x.fArgs[i] (by have:=List.sizeOf_lt_of_mem (List.getElem_mem hi);omega) (by omega)) ?_;exact bV (i+1,formed x.fArgs[i]) (by simp only;omega) rfl rfl ⟨by simp only;omega,by rw[<-p2,h];rfl⟩
    ·exact bV (i+1,false) (by simp only;omega) rfl rfl ⟨by simp only;omega,by rw[<-p2,h];rfl⟩
   ·have hi:i=x.fArgs.length:=by omega
    rw[hi,List.drop_length,jg,Bool.and_true] at p2;rw[p2]
theorem ae1(x:ak)(hsz:x.sz<=4194304):aC prog 261 [x.v] (.c (.d (.b (formed x)))):=OU _ x (Nat.lt_succ_self _) hsz
theorem yA(x:ak)(hsz:x.sz<=4194304):aC prog 237 [x.v] (.c (.d (.b (oo x)))):=fun S=>by
 refine zcx [.tmp 2] func237 ntmps237 ?_;refine W1 ?_;refine C2 (ae0 x 60 (by omega) (by omega) hsz) ?_;refine S0 (fun hb h=>?_) fun hb h=>?_
 ·have h1:=(Lp (l:=60) (a:=x.cnt) (by omega)).2;refine C2 (Wj x hsz) ?_;refine S0 (fun hb h=>?_) fun hb h=>?_
  ·refine C2 (ae1 x hsz) ?_;refine aH ?_
   cases hf:formed x with
   |false=>exact(aK fun y=>by rw[hf] at y;cases y.1).symm
   |true=>exact(bD ⟨hf,by omega,by omega⟩).symm
  ·exact aH (aK fun y=>by have:=y.2.1;omega).symm
 ·have h1:=Ir (l:=60) (a:=x.cnt) (by omega);exact aH (aK fun y=>by have:=y.2.2;omega).symm
theorem L6(x:bS)(hn:x.bG.length<=1073741824)(hsz:x.fType.sz<=4194304):aC prog 238 [x.v] (.c (.d (.b (validName x.bG&&oo x.fType)))):=fun S=>by
 refine zcx [.tmp 2] func238 ntmps238 ?_;refine W1 ?_;refine C2 (iJ x.bG hn) ?_;refine S0 (fun hb h=>?_) fun hb h=>?_
 ·exact C4 (yA x.fType hsz)
 ·rfl
theorem L8(x:bS)(hn:x.bG.length<=1073741824)(hsz:x.fType.sz<=4194304):aC prog 222 [x.v] (.c (.d (.b (validName x.bG&&oo x.fType)))):=fun S=>by
 refine zcx [.tmp 2] func222 ntmps222 ?_;refine W1 ?_;refine C2 (iI x.bG hn) ?_;refine S0 (fun hb h=>?_) fun hb h=>?_
 ·exact C4 (yx x.fType hsz)
 ·rfl
theorem M8(g:Nat)(xs ys:List ay)(hl:xs.length<=1073741824)(hg:∀x∈xs,∀y,aC prog g [x.v,y.v] (.c (.d (.b (dec (x=y)))))):
 aC prog 268 [.c (.d (.sl (xs.map ay.enc))),.c (.d (.sl (ys.map ay.enc))),.c (.fn g [])] (.c (.d (.b (dec (xs=ys))))):=fun S=>by
 refine zcx [.tmp 6] func268 ntmps268 ?_;refine W1 ?_;refine S0 (fun hb h=>?_) fun hb h=>?_
 ·exact aH (aK (fun e=>h (by rw[e]))).symm
 have hl':xs.length=ys.length:=by omega
 refine aR (ι:=Nat) zmx rfl [1,2,15,16,17] (fun y=>[.c (.d (.sl (ys.map ay.enc))),.c (.fn g []),.c (.d (.sl (xs.map ay.enc))),.c (.d (.i .i64 xs.length)),.c (.d (.i .i64 y))]) (fun y=>[]::S)
  (fun i=>i<=xs.length/\∀j,j<i->xs[j]? =ys[j]?) (fun y=>xs.length-y) 0 rfl rfl ⟨Nat.zero_le _,fun j h=>by omega⟩ ?_
 rintro i ⟨p1,p2⟩;refine W1 ?_;refine S0 (fun hb h=>?_) fun hb h=>?_
 ·have hi:i<xs.length:=by omega
  have hi':i<ys.length:=by omega
  refine W3 ?_;refine C1 (hg xs[i] (List.getElem_mem hi) ys[i]) ?_;refine S0 (fun hb h=>?_) fun hb h=>?_
  ·exact aH (aK (fun e=>h (by simp only[e]))).symm
  refine bL 0 (by decide) (i+1) (by omega) rfl rfl rfl rfl ⟨by omega,fun j hj=> ?_⟩;by_cases e:j=i
  ·subst e;rw[List.getElem?_eq_getElem hi,List.getElem?_eq_getElem hi',h]
  ·exact p2 j (by omega)
 ·have hi:i=xs.length:=by omega
  refine aH (bD (List.ext_getElem? fun j=> ?_)).symm;by_cases hj:j<i
  ·exact p2 j hj
  ·rw[List.getElem?_eq_none (by omega),List.getElem?_eq_none (by omega)]
theorem OV(g:Nat)(xs ys:List aZ)(hl:xs.length<=1073741824)(hg:∀x∈xs,∀y,aC prog g [x.v,y.v] (.c (.d (.b (dec (x=y)))))):
 aC prog 269 [.c (.d (.sl (xs.map aZ.enc))),.c (.d (.sl (ys.map aZ.enc))),.c (.fn g [])] (.c (.d (.b (dec (xs=ys))))):=fun S=>by
 refine zcx [.tmp 6] func269 ntmps269 ?_;refine W1 ?_;refine S0 (fun hb h=>?_) fun hb h=>?_
 ·exact aH (aK (fun e=>h (by rw[e]))).symm
 have hl':xs.length=ys.length:=by omega
 refine aR (ι:=Nat) zmx rfl [1,2,15,16,17] (fun y=>[.c (.d (.sl (ys.map aZ.enc))),.c (.fn g []),.c (.d (.sl (xs.map aZ.enc))),.c (.d (.i .i64 xs.length)),.c (.d (.i .i64 y))]) (fun y=>[]::S)
  (fun i=>i<=xs.length/\∀j,j<i->xs[j]? =ys[j]?) (fun y=>xs.length-y) 0 rfl rfl ⟨Nat.zero_le _,fun j h=>by omega⟩ ?_
 rintro i ⟨p1,p2⟩;refine W1 ?_;refine S0 (fun hb h=>?_) fun hb h=>?_
 ·have hi:i<xs.length:=by omega
  have hi':i<ys.length:=by omega
  refine W3 ?_;refine C1 (hg xs[i] (List.getElem_mem hi) ys[i]) ?_;refine S0 (fun hb h=>?_) fun hb h=>?_
  ·exact aH (aK (fun e=>h (by simp only[e]))).symm
  refine bL 0 (by decide) (i+1) (by omega) rfl rfl rfl rfl ⟨by omega,fun j hj=> ?_⟩;by_cases e:j=i
  ·subst e;rw[List.getElem?_eq_getElem hi,List.getElem?_eq_getElem hi',h]
  ·exact p2 j (by omega)
 ·have hi:i=xs.length:=by omega
  refine aH (bD (List.ext_getElem? fun j=> ?_)).symm;by_cases hj:j<i
  ·exact p2 j hj
  ·rw[List.getElem?_eq_none (by omega),List.getElem?_eq_none (by omega)]
theorem M9(g:Nat)(caps:List (Key×Nat))(S:Store)(xs:List ak)(p:ak->Bool)(hl:xs.length<=1073741824)(hp:∀x∈xs,pE prog g caps S [x.v] (.c (.d (.b (p x))))):
 dw prog 246 [.c (.d (.sl (xs.map ak.enc))),.c (.fn g caps)] S (fun r S'=>r=.c (.d (.i .i64 (tX p xs)))/\S'=S):=by
 refine zcx [.tmp 4] func246 ntmps246 ?_;refine W1 ?_
 refine aR (ι:=Nat) zmx rfl [0,1,7,8] (fun i=>[.c (.d (.sl (xs.map ak.enc))),.c (.fn g (jQ 1 caps)),.c (.d (.i .i64 xs.length)),.c (.d (.i .i64 i))]) (fun _=>[]::S)
  (fun i=>i<=xs.length/\∀j,∀hj:j<xs.length,j<i->p xs[j]=false) (fun i=>xs.length-i) 0 rfl rfl ⟨Nat.zero_le _,fun j _ h=>by omega⟩ ?_
 rintro i ⟨p1,p2⟩;refine W1 ?_;refine S0 (fun hb h=>?_) fun hb h=>?_
 ·have hi:i<xs.length:=by omega
  refine W3 ?_;refine cK rfl (hp xs[i] (List.getElem_mem hi) [_]) ?_;refine W1 ?_;refine S0 (fun hb h=>?_) fun hb h=>?_
  ·rw[sQ hi p2 h]
  ·refine bV (i+1) (by omega) rfl rfl ⟨by omega,fun j hj hji=> ?_⟩;by_cases e:j=i
   ·subst e;exact h
   ·exact p2 j hj (by omega)
 ·rw[wE (fun j hj=>p2 j hj (by omega))]
theorem JB(g:Nat)(caps:List (Key×Nat))(S:Store)(xs:List ak)(p:ak->Bool)(hl:xs.length<=1073741824)(hp:∀x∈xs,pE prog g caps S [x.v] (.c (.d (.b (p x))))):
 dw prog 213 [.c (.d (.sl (xs.map ak.enc))),.c (.fn g caps)] S (fun r S'=>r=.c (.d (.b (xs.any p)))/\S'=S):=by
 refine zcx [.tmp 4] func213 ntmps213 ?_;refine W1 ?_;refine cK rfl (M9 g (jQ 1 caps) _ xs p hl fun x hx=>(hp x hx).push _) ?_;refine W1 ?_;exact aH uL
theorem Na(g:Nat)(caps:List (Key×Nat))(S:Store)(xs:List ay)(p:ay->Bool)(hl:xs.length<=1073741824)(hp:∀x∈xs,pE prog g caps S [x.v] (.c (.d (.b (p x))))):
 dw prog 292 [.c (.d (.sl (xs.map ay.enc))),.c (.fn g caps)] S (fun r S'=>r=.c (.d (.i .i64 (tX p xs)))/\S'=S):=by
 refine zcx [.tmp 4] func292 ntmps292 ?_;refine W1 ?_
 refine aR (ι:=Nat) zmx rfl [0,1,7,8] (fun i=>[.c (.d (.sl (xs.map ay.enc))),.c (.fn g (jQ 1 caps)),.c (.d (.i .i64 xs.length)),.c (.d (.i .i64 i))]) (fun _=>[]::S)
  (fun i=>i<=xs.length/\∀j,∀hj:j<xs.length,j<i->p xs[j]=false) (fun i=>xs.length-i) 0 rfl rfl ⟨Nat.zero_le _,fun j _ h=>by omega⟩ ?_
 rintro i ⟨p1,p2⟩;refine W1 ?_;refine S0 (fun hb h=>?_) fun hb h=>?_
 ·have hi:i<xs.length:=by omega
  refine W3 ?_;refine cK rfl (hp xs[i] (List.getElem_mem hi) [_]) ?_;refine W1 ?_;refine S0 (fun hb h=>?_) fun hb h=>?_
  ·rw[sQ hi p2 h]
  ·refine bV (i+1) (by omega) rfl rfl ⟨by omega,fun j hj hji=> ?_⟩;by_cases e:j=i
   ·subst e;exact h
   ·exact p2 j hj (by omega)
 ·rw[wE (fun j hj=>p2 j hj (by omega))]
theorem JC(g:Nat)(caps:List (Key×Nat))(S:Store)(xs:List ay)(p:ay->Bool)(hl:xs.length<=1073741824)(hp:∀x∈xs,pE prog g caps S [x.v] (.c (.d (.b (p x))))):
 dw prog 275 [.c (.d (.sl (xs.map ay.enc))),.c (.fn g caps)] S (fun r S'=>r=.c (.d (.b (xs.any p)))/\S'=S):=by
 refine zcx [.tmp 4] func275 ntmps275 ?_;refine W1 ?_;refine cK rfl (Na g (jQ 1 caps) _ xs p hl fun x hx=>(hp x hx).push _) ?_;refine W1 ?_;exact aH uL
theorem OW(g:Nat)(caps:List (Key×Nat))(S:Store)(xs:List aZ)(p:aZ->Bool)(hl:xs.length<=1073741824)(hp:∀x∈xs,pE prog g caps S [x.v] (.c (.d (.b (p x))))):
 dw prog 293 [.c (.d (.sl (xs.map aZ.enc))),.c (.fn g caps)] S (fun r S'=>r=.c (.d (.i .i64 (tX p xs)))/\S'=S):=by
 refine zcx [.tmp 4] func293 ntmps293 ?_;refine W1 ?_
 refine aR (ι:=Nat) zmx rfl [0,1,7,8] (fun i=>[.c (.d (.sl (xs.map aZ.enc))),.c (.fn g (jQ 1 caps)),.c (.d (.i .i64 xs.length)),.c (.d (.i .i64 i))]) (fun _=>[]::S)
  (fun i=>i<=xs.length/\∀j,∀hj:j<xs.length,j<i->p xs[j]=false) (fun i=>xs.length-i) 0 rfl rfl ⟨Nat.zero_le _,fun j _ h=>by omega⟩ ?_
 rintro i ⟨p1,p2⟩;refine W1 ?_;refine S0 (fun hb h=>?_) fun hb h=>?_
 ·have hi:i<xs.length:=by omega
  refine W3 ?_;refine cK rfl (hp xs[i] (List.getElem_mem hi) [_]) ?_;refine W1 ?_;refine S0 (fun hb h=>?_) fun hb h=>?_
  ·rw[sQ hi p2 h]
  ·refine bV (i+1) (by omega) rfl rfl ⟨by omega,fun j hj hji=> ?_⟩;by_cases e:j=i
   ·subst e;exact h
   ·exact p2 j hj (by omega)
 ·rw[wE (fun j hj=>p2 j hj (by omega))]
theorem J6(g:Nat)(caps:List (Key×Nat))(S:Store)(xs:List aZ)(p:aZ->Bool)(hl:xs.length<=1073741824)(hp:∀x∈xs,pE prog g caps S [x.v] (.c (.d (.b (p x))))):
 dw prog 277 [.c (.d (.sl (xs.map aZ.enc))),.c (.fn g caps)] S (fun r S'=>r=.c (.d (.b (xs.any p)))/\S'=S):=by
 refine zcx [.tmp 4] func277 ntmps277 ?_;refine W1 ?_;refine cK rfl (OW g (jQ 1 caps) _ xs p hl fun x hx=>(hp x hx).push _) ?_;refine W1 ?_;exact aH uL
theorem L9(g:Nat)(caps:List (Key×Nat))(S:Store)(xs:List bS)(p:bS->Bool)(hl:xs.length<=1073741824)(hp:∀x∈xs,pE prog g caps S [x.v] (.c (.d (.b (p x))))):
 dw prog 251 [.c (.d (.sl (xs.map bS.enc))),.c (.fn g caps)] S (fun r S'=>r=.c (.d (.i .i64 (tX p xs)))/\S'=S):=by
 refine zcx [.tmp 4] func251 ntmps251 ?_;refine W1 ?_
 refine aR (ι:=Nat) zmx rfl [0,1,7,8] (fun i=>[.c (.d (.sl (xs.map bS.enc))),.c (.fn g (jQ 1 caps)),.c (.d (.i .i64 xs.length)),.c (.d (.i .i64 i))]) (fun _=>[]::S)
  (fun i=>i<=xs.length/\∀j,∀hj:j<xs.length,j<i->p xs[j]=false) (fun i=>xs.length-i) 0 rfl rfl ⟨Nat.zero_le _,fun j _ h=>by omega⟩ ?_
 rintro i ⟨p1,p2⟩;refine W1 ?_;refine S0 (fun hb h=>?_) fun hb h=>?_
 ·have hi:i<xs.length:=by omega
  refine W3 ?_;refine cK rfl (hp xs[i] (List.getElem_mem hi) [_]) ?_;refine W1 ?_;refine S0 (fun hb h=>?_) fun hb h=>?_
  ·rw[sQ hi p2 h]
  ·refine bV (i+1) (by omega) rfl rfl ⟨by omega,fun j hj hji=> ?_⟩;by_cases e:j=i
   ·subst e;exact h
   ·exact p2 j hj (by omega)
 ·rw[wE (fun j hj=>p2 j hj (by omega))]
theorem Iw(g:Nat)(caps:List (Key×Nat))(S:Store)(xs:List bS)(p:bS->Bool)(hl:xs.length<=1073741824)(hp:∀x∈xs,pE prog g caps S [x.v] (.c (.d (.b (p x))))):
 dw prog 220 [.c (.d (.sl (xs.map bS.enc))),.c (.fn g caps)] S (fun r S'=>r=.c (.d (.b (xs.any p)))/\S'=S):=by
 refine zcx [.tmp 4] func220 ntmps220 ?_;refine W1 ?_;refine cK rfl (L9 g (jQ 1 caps) _ xs p hl fun x hx=>(hp x hx).push _) ?_;refine W1 ?_;exact aH uL
theorem J7(g:Nat)(caps:List (Key×Nat))(S:Store)(xs:List (List UInt8))(p:(List UInt8)->Bool)(hl:xs.length<=1073741824)(hp:∀x∈xs,pE prog g caps S [.c (.d (.s x))] (.c (.d (.b (p x))))):
 dw prog 211 [.c (.d (.sl (xs.map encS))),.c (.fn g caps)] S (fun r S'=>r=.c (.d (.i .i64 (tX p xs)))/\S'=S):=by
 refine zcx [.tmp 4] func211 ntmps211 ?_;simp -implicitDefEqProofs (disch:=omega) only[go_sem,encS]
 refine aR (ι:=Nat) zmx rfl [0,1,7,8] (fun i=>[.c (.d (.sl (xs.map encS))),.c (.fn g (jQ 1 caps)),.c (.d (.i .i64 xs.length)),.c (.d (.i .i64 i))]) (fun _=>[]::S)
  (fun i=>i<=xs.length/\∀j,∀hj:j<xs.length,j<i->p xs[j]=false) (fun i=>xs.length-i) 0 rfl rfl ⟨Nat.zero_le _,fun j _ h=>by omega⟩ ?_
 rintro i ⟨p1,p2⟩;simp -implicitDefEqProofs (disch:=omega) only[go_sem,encS]
 with_reducible refine dZ (fun hb=> ?_) (fun hb=> ?_)<;>have h:=hb<;>(try simp only[wf_preprocess] at h)<;>simp -implicitDefEqProofs (disch:=omega) only[go_sem,hb,encS]<;>refine W3 ?_
 ·have hi:i<xs.length:=by omega
  refine W3 ?_;refine cK rfl (hp xs[i] (List.getElem_mem hi) [_]) ?_;simp -implicitDefEqProofs (disch:=omega) only[go_sem,encS]
  with_reducible refine dZ (fun hb=> ?_) (fun hb=> ?_)<;>have h:=hb<;>(try simp only[wf_preprocess] at h)<;>simp -implicitDefEqProofs (disch:=omega) only[go_sem,hb,encS]<;>refine W3 ?_
  ·rw[sQ hi p2 h]
  ·refine bV (i+1) (by omega) rfl rfl ⟨by omega,fun j hj hji=> ?_⟩;by_cases e:j=i
   ·subst e;exact h
   ·exact p2 j hj (by omega)
 ·rw[wE (fun j hj=>p2 j hj (by omega))]
theorem yP(g:Nat)(caps:List (Key×Nat))(S:Store)(xs:List (List UInt8))(p:(List UInt8)->Bool)(hl:xs.length<=1073741824)(hp:∀x∈xs,pE prog g caps S [.c (.d (.s x))] (.c (.d (.b (p x))))):
 dw prog 160 [.c (.d (.sl (xs.map encS))),.c (.fn g caps)] S (fun r S'=>r=.c (.d (.b (xs.any p)))/\S'=S):=by
 refine zcx [.tmp 4] func160 ntmps160 ?_;simp -implicitDefEqProofs (disch:=omega) only[go_sem,encS];refine cK rfl (J7 g (jQ 1 caps) _ xs p hl fun x hx=>(hp x hx).push _) ?_;simp -implicitDefEqProofs (disch:=omega) only[go_sem,encS];exact aH uL
theorem ae2(xs ys:List (List UInt8))(hl:xs.length<=1073741824):aC prog 271 [.c (.d (.sl (xs.map encS))),.c (.d (.sl (ys.map encS)))] (.c (.d (.b (dec (xs=ys))))):=fun S=>by
 refine zcx [.tmp 4] func271 ntmps271 ?_;simp -implicitDefEqProofs (disch:=omega) only[go_sem,encS]
 with_reducible refine dZ (fun hb=> ?_) (fun hb=> ?_)<;>have h:=hb<;>(try simp only[wf_preprocess] at h)<;>simp -implicitDefEqProofs (disch:=omega) only[go_sem,hb,encS]<;>refine W3 ?_
 ·exact aH (aK (fun e=>h (by rw[e]))).symm
 have hl':xs.length=ys.length:=by omega
 refine aR (ι:=Nat) zmx rfl [0,1,12,13] (fun i=>[.c (.d (.sl (xs.map encS))),.c (.d (.sl (ys.map encS))),.c (.d (.i .i64 xs.length)),.c (.d (.i .i64 i))]) (fun _=>[]::S)
  (fun i=>i<=xs.length/\∀j,j<i->xs[j]? =ys[j]?) (fun y=>xs.length-y) 0 rfl rfl ⟨Nat.zero_le _,fun j h=>by omega⟩ ?_
 rintro i ⟨p1,p2⟩;simp -implicitDefEqProofs (disch:=omega) only[go_sem,encS]
 with_reducible refine dZ (fun hb=> ?_) (fun hb=> ?_)<;>have h:=hb<;>(try simp only[wf_preprocess] at h)<;>simp -implicitDefEqProofs (disch:=omega) only[go_sem,hb,encS]<;>refine W3 ?_
 ·have hi:i<xs.length:=by omega
  have hi':i<ys.length:=by omega
  refine W3 ?_
  with_reducible refine dZ (fun hb=> ?_) (fun hb=> ?_)<;>have h:=hb<;>(try simp only[wf_preprocess] at h)<;>simp -implicitDefEqProofs (disch:=omega) only[go_sem,hb,encS]<;>refine W3 ?_
  ·exact aH (aK (fun e=>h (by simp only[e]))).symm
  refine bV (i+1) (by omega) rfl rfl ⟨by omega,fun j hj=> ?_⟩;by_cases e:j=i
  ·subst e;rw[List.getElem?_eq_getElem hi,List.getElem?_eq_getElem hi',h]
  ·exact p2 j (by omega)
 ·have hi:i=xs.length:=by omega
  refine aH (bD (List.ext_getElem? fun j=> ?_)).symm;by_cases hj:j<i
  ·exact p2 j hj
  ·rw[List.getElem?_eq_none (by omega),List.getElem?_eq_none (by omega)]
theorem Y0(xs ys:List (List UInt8))(hl:xs.length<=1073741824):aC prog 283 [.c (.d (.sl (xs.map encS))),.c (.d (.sl (ys.map encS)))] (.c (.d (.b (dec (xs=ys))))):=fun S=>by
 refine zcx [.tmp 4] func283 ntmps283 ?_;simp -implicitDefEqProofs (disch:=omega) only[go_sem,encS]
 with_reducible refine dZ (fun hb=> ?_) (fun hb=> ?_)<;>have h:=hb<;>(try simp only[wf_preprocess] at h)<;>simp -implicitDefEqProofs (disch:=omega) only[go_sem,hb,encS]<;>refine W3 ?_
 ·exact aH (aK (fun e=>h (by rw[e]))).symm
 have hl':xs.length=ys.length:=by omega
 refine aR (ι:=Nat) zmx rfl [0,1,5] (fun i=>[.c (.d (.sl (xs.map encS))),.c (.d (.sl (ys.map encS))),.c (.d (.i .i64 i))]) (fun _=>[]::S)
  (fun i=>i<=xs.length/\∀j,j<i->xs[j]? =ys[j]?) (fun y=>xs.length-y) 0 rfl rfl ⟨Nat.zero_le _,fun j h=>by omega⟩ ?_
 rintro i ⟨p1,p2⟩;simp -implicitDefEqProofs (disch:=omega) only[go_sem,encS]
 with_reducible refine dZ (fun hb=> ?_) (fun hb=> ?_)<;>have h:=hb<;>(try simp only[wf_preprocess] at h)<;>simp -implicitDefEqProofs (disch:=omega) only[go_sem,hb,encS]<;>refine W3 ?_
 ·have hi:i<xs.length:=by omega
  have hi':i<ys.length:=by omega
  refine W3 ?_
  with_reducible refine dZ (fun hb=> ?_) (fun hb=> ?_)<;>have h:=hb<;>(try simp only[wf_preprocess] at h)<;>simp -implicitDefEqProofs (disch:=omega) only[go_sem,hb,encS]<;>refine W3 ?_
  ·exact aH (aK (fun e=>h (by simp only[e]))).symm
  refine bV (i+1) (by omega) rfl rfl ⟨by omega,fun j hj=> ?_⟩;by_cases e:j=i
  ·subst e;rw[List.getElem?_eq_getElem hi,List.getElem?_eq_getElem hi',h]
  ·exact p2 j (by omega)
 ·have hi:i=xs.length:=by omega
  refine aH (bD (List.ext_getElem? fun j=> ?_)).symm;by_cases hj:j<i
  ·exact p2 j hj
  ·rw[List.getElem?_eq_none (by omega),List.getElem?_eq_none (by omega)]
theorem sD{s:List UInt8}{xs:List (List UInt8)}(h:s∈xs):s.length<=bf (xs.map encS):=by
 have:=cB (List.mem_map_of_mem (f:=encS) h);simpa [encS,dz,D.sz] using this
noncomputable def iN(xs:List (List UInt8)):Bool:=dec xs.Nodup&&xs.all validName
noncomputable def among(xs ys:List (List UInt8)):Bool:=xs.all fun s=>dec (s∈ys)
noncomputable def gY(vars:List (List UInt8))(t:ak):Bool:=oo t&&among (jG [] t) vars
noncomputable def mF(vars:List (List UInt8))(ts:List ak):Bool:=ts.all (gY vars)
theorem ah9{s l:List UInt8}{m:List (List UInt8)}:s∈JK l m<->s=l\/s∈m:=by
 unfold JK;split
 ·rename_i h;exact⟨.inr,fun x=>x.elim (fun e=>e▸h) id⟩
 ·rw[List.mem_append,List.mem_singleton];exact Or.comm
theorem iU{α:Type}{xs:List α}{i:Nat}(hi:i<xs.length):xs.take (i+1)=xs.take i++[xs[i]]:=List.take_succ_eq_append_getElem hi
theorem Iy{α:Type}{xs:List α}{x:α}:(xs++[x]).Nodup<->xs.Nodup/\x∉xs:=by
 rw[List.nodup_append];constructor
 ·rintro⟨h1,_,h3⟩;exact⟨h1,fun hx=>h3 x hx x (by simp) rfl⟩
 ·rintro⟨h1,h2⟩;exact⟨h1,by simp,fun a ha b hb e=>by simp at hb;subst hb;exact h2 (e▸ha)⟩
theorem Sr{α:Type}{xs:List α}{i:Nat}(hi:i<xs.length)(h:xs[i]∈xs.take i):¬xs.Nodup:=fun hn=>by
 have h1:(xs.take (i+1)).Nodup:=hn.sublist (List.take_sublist _ _);rw[iU hi] at h1;exact(Iy.1 h1).2 h
theorem qm(xs:List (List UInt8))(hl:xs.length<=1073741824):aC prog 159 [.c (.d (.sl (xs.map encS)))] (.c (.d (.b (dec xs.Nodup)))):=fun S=>by
 refine zcx [.tmp 2] func159 ntmps159 ?_;simp -implicitDefEqProofs (disch:=omega) only[go_sem,encS];refine W3 ?_
 refine aR (ι:=Nat×List (List UInt8)) zmx rfl [3,7,8,9] (fun y=>[.c (.mp (0,0)),.c (.d (.sl (xs.map encS))),.c (.d (.i .i64 xs.length)),.c (.d (.i .i64 y.1))]) (fun y=>[.mp y.2]::S)
  (fun y=>y.1<=xs.length/\(∀s,s∈y.2<->s∈xs.take y.1)/\(xs.take y.1).Nodup) (fun y=>xs.length-y.1) (0,[]) rfl rfl ⟨Nat.zero_le _,fun s=>by simp,by simp⟩ ?_
 rintro⟨i,m⟩ ⟨p1,p2,p3⟩;simp only at p1 p2 p3;simp -implicitDefEqProofs (disch:=omega) only[go_sem,encS]
 with_reducible refine dZ (fun hb=> ?_) (fun hb=> ?_)<;>have h:=hb<;>(try simp only[wf_preprocess] at h)<;>simp -implicitDefEqProofs (disch:=omega) only[go_sem,hb,encS]<;>refine W3 ?_
 ·have hi:i<xs.length:=by omega
  refine W3 ?_
  with_reducible refine dZ (fun hb=> ?_) (fun hb=> ?_)<;>have h:=hb<;>(try simp only[wf_preprocess] at h)<;>simp -implicitDefEqProofs (disch:=omega) only[go_sem,hb,encS]<;>refine W3 ?_
  ·exact aH (aK (Sr hi ((p2 _).1 h))).symm
  ·refine bV (i+1,JK xs[i] m) (by simp only;omega) rfl rfl ⟨by simp only;omega,fun s=> ?_,?_⟩
   ·simp only
    rw[ah9,iU hi,List.mem_append,List.mem_singleton,p2];exact Or.comm
   ·simp only
    rw[iU hi,Iy];exact⟨p3,fun hx=>h ((p2 _).2 hx)⟩
 ·rw[List.take_of_length_le (by omega)] at p3;exact aH (bD p3).symm
theorem qo(xs:List (List UInt8))(hl:xs.length<=1073741824):aC prog 123 [.c (.d (.sl (xs.map encS)))] (.c (.d (.b (dec xs.Nodup)))):=fun S=>by
 refine zcx [.tmp 2] func123 ntmps123 ?_;simp -implicitDefEqProofs (disch:=omega) only[go_sem,encS]
 refine aR (ι:=Nat) zmx rfl [0,3] (fun i=>[.c (.d (.sl (xs.map encS))),.c (.d (.i .i64 i))]) (fun _=>[]::S)
  (fun i=>i<=xs.length/\(xs.take i).Nodup) (fun i=>xs.length-i) 0 rfl rfl ⟨Nat.zero_le _,by simp⟩ ?_
 rintro i ⟨p1,p3⟩;simp -implicitDefEqProofs (disch:=omega) only[go_sem,encS]
 with_reducible refine dZ (fun hb=> ?_) (fun hb=> ?_)<;>have h:=hb<;>(try simp only[wf_preprocess] at h)<;>simp -implicitDefEqProofs (disch:=omega) only[go_sem,hb,encS]<;>refine W3 ?_
 ·have hi:i<xs.length:=by omega
  have hc:∀y∈xs.map encS,y.length=1:=fun y hy=>by
   obtain⟨s,_,rfl⟩:=List.mem_map.1 hy;rfl
  have e:(xs.map encS).take i=(xs.take i).map encS:=List.map_take.symm;refine And.intro ⟨by omega,by omega,hc⟩ ?_;refine W3 ?_;simp -implicitDefEqProofs (disch:=omega) only[go_sem,Int.toNat_zero,e];refine C2 (rJ (xs.take i) xs[i] (by simp;omega)) ?_;refine S0 (fun hb h=>?_) fun hb h=>?_
  ·exact aH (aK (Sr hi h)).symm
  ·refine bV (i+1) (by omega) rfl rfl ⟨by omega,?_⟩;rw[iU hi,Iy];exact⟨p3,h⟩
 ·rw[List.take_of_length_le (by omega)] at p3;exact aH (bD p3).symm
theorem OX(xs:List (List UInt8))(hl:xs.length<=1073741824)(hs:∀s∈xs,s.length<=4194304):aC prog 186 [.c (.d (.sl (xs.map encS)))] (.c (.d (.b (xs.all validName)))):=fun S=>by
 refine zcx [.tmp 2] func186 ntmps186 ?_;simp -implicitDefEqProofs (disch:=omega) only[go_sem,encS]
 refine aR (ι:=Nat) zmx rfl [0,3] (fun i=>[.c (.d (.sl (xs.map encS))),.c (.d (.i .i64 i))]) (fun _=>[]::S)
  (fun i=>i<=xs.length/\(xs.drop i).all validName=xs.all validName) (fun i=>xs.length-i) 0 rfl rfl ⟨Nat.zero_le _,rfl⟩ ?_
 rintro i ⟨p1,p2⟩;simp -implicitDefEqProofs (disch:=omega) only[go_sem,encS]
 with_reducible refine dZ (fun hb=> ?_) (fun hb=> ?_)<;>have h:=hb<;>(try simp only[wf_preprocess] at h)<;>simp -implicitDefEqProofs (disch:=omega) only[go_sem,hb,encS]<;>refine W3 ?_
 ·have hi:i<xs.length:=by omega
  have hz:=hs _ (List.getElem_mem hi);rw[List.drop_eq_getElem_cons hi,List.all_cons] at p2;refine W3 ?_;refine C2 (iJ xs[i] (by omega)) ?_;refine S0 (fun hb h=>?_) fun hb h=>?_
  ·rw[<-p2,h];rfl
  ·exact bV (i+1) (by omega) rfl rfl ⟨by omega,by rw[<-p2,h];rfl⟩
 ·rw[List.drop_of_length_le (by omega)] at p2;rw[<-p2];rfl
theorem pG(xs:List (List UInt8))(hl:xs.length<=1073741824)(hs:∀s∈xs,s.length<=4194304):aC prog 104 [.c (.d (.sl (xs.map encS)))] (.c (.d (.b (iN xs)))):=fun S=>by
 have hcl:∀s∈xs,aC prog 161 [.c (.d (.s s))] (.c (.d (.b (!validName s)))):=fun s hx S=>by
  have:=hs s hx;refine zcx [.tmp 2] func161 ntmps161 ?_;refine W1 ?_;exact C4 (iI s (by omega))
 have ha:(xs.any fun s=> !validName s)= !xs.all validName:=by rw[List.not_all_eq_any_not]
 refine zcx [.tmp 2] func104 ntmps104 ?_;refine W1 ?_;refine C2 (qm xs hl) ?_;refine S0 (fun hb h=>?_) fun hb h=>?_
 ·refine cK rfl (yP 161 [] _ xs (fun s=> !validName s) hl fun s hx=>pE.Q0 (hcl s hx)) ?_;refine W1 ?_;rw[ha];exact aH (by unfold iN;rw[hb];simp)
 ·exact aH (by unfold iN;rw[hb];rfl)
theorem Bl(xs ys:List (List UInt8))(hl:xs.length<=1073741824)(hl':ys.length<=1073741824):aC prog 168 [.c (.d (.sl (xs.map encS))),.c (.d (.sl (ys.map encS)))] (.c (.d (.b (among xs ys)))):=fun S=>by
 have ha:(xs.any fun s=> !dec (s∈ys))= !among xs ys:=by unfold among;rw[List.not_all_eq_any_not]
 have hcl:∀(rest:List Ab.Obj)(s:List UInt8),pE prog 218 [((0,0),0)] ((.box [.d (.sl (ys.map encS))]::rest)::S) [.c (.d (.s s))] (.c (.d (.b (!dec (s∈ys))))):=fun rest s F=>by
  refine zcx [.tmp 3] func218 ntmps218 ?_;refine W1 ?_;exact C4 (rM ys s hl')
 refine zcx [.tmp 4] func168 ntmps168 ?_;refine W1 ?_;refine cK rfl (yP 218 [((0,0),0)] _ xs (fun s=> !dec (s∈ys)) hl fun s hx=>hcl [] s) ?_;refine W1 ?_;rw[ha];exact aH (by simp)
theorem u7(t:ak)(vars:List (List UInt8))(hsz:t.sz<=4194304)(hv:vars.length<=1073741824):aC prog 166 [t.v,.c (.d (.sl (vars.map encS)))] (.c (.d (.b (gY vars t)))):=fun S=>by
 have h1:=BO t [];have h2:=mR t;refine zcx [.tmp 4] func166 ntmps166 ?_;refine W1 ?_;refine C2 (yx t hsz) ?_;refine S0 (fun hb h=>?_) fun hb h=>?_
 ·refine C2 (zI t hsz) ?_;refine C2 (Bl (jG [] t) vars (by simp at h1;omega) hv) ?_;exact aH (by unfold gY;rw[hb];rfl)
 ·exact aH (by unfold gY;rw[hb];rfl)
theorem zJ(ts:List ak)(vars:List (List UInt8))(hl:ts.length<=1073741824)(hsz:∀t∈ts,t.sz<=4194304)(hv:vars.length<=1073741824):aC prog 165 [.c (.d (.sl (ts.map ak.enc))),.c (.d (.sl (vars.map encS)))] (.c (.d (.b (mF vars ts)))):=fun S=>by
 have ha:(ts.any fun t=> !gY vars t)= !mF vars ts:=by unfold mF;rw[List.not_all_eq_any_not]
 have hcl:∀(rest:List Ab.Obj)(t:ak),t.sz<=4194304->pE prog 214 [((0,0),0)] ((.box [.d (.sl (vars.map encS))]::rest)::S) [t.v] (.c (.d (.b (!gY vars t)))):=fun rest t ht F=>by
  refine zcx [.tmp 3] func214 ntmps214 ?_;refine W1 ?_;exact C4 (u7 t vars ht hv)
 refine zcx [.tmp 4] func165 ntmps165 ?_;refine W1 ?_;refine cK rfl (JB 214 [((0,0),0)] _ ts (fun t=> !gY vars t) hl fun t hx=>hcl [] t (hsz t hx)) ?_;refine W1 ?_;rw[ha];exact aH (by simp)
theorem mU(xs:List (List UInt8))(most:Int)(hl:xs.length<=1073741824)(hs:∀s∈xs,s.length<=4194304):aC prog 121 [.c (.d (.sl (xs.map encS))),.c (.d (.i .i64 most))] (.c (.d (.b (dec ((xs.length:Int)<=most)&&iN xs)))):=fun S=>by
 refine zcx [.tmp 4] func121 ntmps121 ?_;refine W1 ?_;refine S0 (fun hb h=>?_) fun hb h=>?_
 ·have h1:=h;refine C2 (OX xs hl hs) ?_;refine S0 (fun hb h=>?_) fun hb h=>?_
  ·refine C2 (qo xs hl) ?_;exact aH (by rw[bD h1];unfold iN;rw[hb];simp)
  ·exact aH (by rw[bD h1];unfold iN;rw[hb];simp)
 ·exact aH (by rw[aK h];rfl)
theorem uM(t:ak)(vars:List (List UInt8))(hsz:t.sz<=4194304)(hv:vars.length<=1073741824):aC prog 195 [t.v,.c (.d (.sl (vars.map encS)))] (.c (.d (.b (gY vars t)))):=fun S=>by
 have h1:=BO t [];have h2:=mR t
 have hlen:(jG [] t).length<=1073741824:=by simp at h1;omega
 refine zcx [.tmp 4] func195 ntmps195 ?_;refine W1 ?_;refine C2 (OQ t hsz) ?_;generalize hxs:jG [] t=xs at hlen
 refine aR (ι:=Nat) zmx rfl [1,2,5,6] (fun i=>[.c (.d (.sl (vars.map encS))),.c (.ptr (0,0) 0),.c (.d (.sl (xs.map encS))),.c (.d (.i .i64 i))]) (fun _=>[.box [.d (.i .i64 t.aM),.d (.s t.fName),.d (.sl (t.fArgs.map ak.enc))]]::S)
  (fun i=>i<=xs.length/\among (xs.drop i) vars=among xs vars) (fun i=>xs.length-i) 0 rfl rfl ⟨Nat.zero_le _,rfl⟩ ?_
 rintro i ⟨p1,p2⟩;simp -implicitDefEqProofs (disch:=omega) only[go_sem,encS]
 with_reducible refine dZ (fun hb=> ?_) (fun hb=> ?_)<;>have h:=hb<;>(try simp only[wf_preprocess] at h)<;>simp -implicitDefEqProofs (disch:=omega) only[go_sem,hb,encS]<;>refine W3 ?_
 ·have hi:i<xs.length:=by omega
  rw[List.drop_eq_getElem_cons hi] at p2;have p3:among xs vars=(dec (xs[i]∈vars)&&among (xs.drop (i+1)) vars):=p2.symm;refine W3 ?_;refine C2 (rJ vars xs[i] hv) ?_;refine S0 (fun hb h=>?_) fun hb h=>?_
  ·exact aH (by unfold gY;rw[hxs,p3,aK h];simp)
  ·exact bV (i+1) (by omega) rfl rfl ⟨by omega,by rw[p3,bD h];rfl⟩
 ·rw[List.drop_of_length_le (by omega)] at p2;have p3:among xs vars=true:=p2.symm;refine W3 ?_;refine C2 (yA t hsz) ?_;exact aH (by unfold gY;rw[hxs,p3];simp)
theorem Sv(ts:List ak)(vars:List (List UInt8))(hl:ts.length<=1073741824)(hsz:∀t∈ts,t.sz<=4194304)(hv:vars.length<=1073741824):aC prog 194 [.c (.d (.sl (ts.map ak.enc))),.c (.d (.sl (vars.map encS)))] (.c (.d (.b (mF vars ts)))):=fun S=>by
 refine zcx [.tmp 4] func194 ntmps194 ?_;refine W1 ?_
 refine aR (ι:=Nat) zmx rfl [0,1,5] (fun i=>[.c (.d (.sl (ts.map ak.enc))),.c (.d (.sl (vars.map encS))),.c (.d (.i .i64 i))]) (fun _=>[]::S)
  (fun i=>i<=ts.length/\mF vars (ts.drop i)=mF vars ts) (fun i=>ts.length-i) 0 rfl rfl ⟨Nat.zero_le _,rfl⟩ ?_
 rintro i ⟨p1,p2⟩;refine W1 ?_;refine S0 (fun hb h=>?_) fun hb h=>?_
 ·have hi:i<ts.length:=by omega
  rw[List.drop_eq_getElem_cons hi] at p2;have p3:mF vars ts=(gY vars ts[i]&&mF vars (ts.drop (i+1))):=p2.symm;refine W3 ?_;refine C2 (uM ts[i] vars (hsz _ (List.getElem_mem hi)) hv) ?_;refine S0 (fun hb h=>?_) fun hb h=>?_
  ·rw[p3,h];rfl
  ·exact bV (i+1) (by omega) rfl rfl ⟨by omega,by rw[p3,h];rfl⟩
 ·rw[List.drop_of_length_le (by omega)] at p2;rw[<-p2];rfl
def ops:List (List UInt8):=[[43],[45],[42],[60],[61]]
def xY(t:ak):Prop:=t.aM=0/\t.fName=[]/\t.fArgs.length=0
def vJ(e:ay):Prop:=
 (1<=e.aM/\e.aM<=12)/\
 (if e.aM=5\/e.aM=11 then validName e.bG=true else e.bG=[])/\
 (if e.aM=3\/e.aM=4\/e.aM=5\/e.aM=6\/e.aM=8 then validName e.fName=true else if e.aM=10 then e.fName∈ops else e.fName=[])/\
 (if e.aM=1 then -999999<=e.fN/\e.fN<=999999 else if e.aM=2 then e.fN=0\/e.fN=1 else e.fN=0)/\
 (if e.aM=12 then oo e.fType=true else xY e.fType)/\
 (if e.aM=4\/e.aM=6 then True else if e.aM=5 then 1<=e.fArgs.length else if e.aM=7\/e.aM=11\/e.aM=12 then e.fArgs.length=1 else if e.aM=8\/e.aM=10 then e.fArgs.length=2 else if e.aM=9 then e.fArgs.length=3 else e.fArgs.length=0)/\
 (e.aM=7<->0<e.aS.length)
mutual
noncomputable def iV:ay->Bool
 | .mk k t n m ty a b=>dec (vJ (.mk k t n m ty a b))&&(mK a&&pU b)
noncomputable def mK:List ay->Bool
 |[]=>true
 |x::xs=>iV x&&mK xs
noncomputable def xu:aZ->Bool
 | .mk c v b=>validName c&&(iN v&&iV b)
noncomputable def pU:List aZ->Bool
 |[]=>true
 |x::xs=>xu x&&pU xs
end
theorem yQ(x:ay):iV x=(dec (vJ x)&&(mK x.fArgs&&pU x.aS)):=by cases x;rw[iV];rfl
theorem sS(x:aZ):xu x=(validName x.dO&&(iN x.aF&&iV x.fBody)):=by cases x;rw[xu];rfl
theorem Wm{xs:List ay}{i:Nat}(hi:i<xs.length):mK (xs.drop i)=(iV xs[i]&&mK (xs.drop (i+1))):=by rw[List.drop_eq_getElem_cons hi,mK]
theorem Y1{xs:List aZ}{i:Nat}(hi:i<xs.length):pU (xs.drop i)=(xu xs[i]&&pU (xs.drop (i+1))):=by rw[List.drop_eq_getElem_cons hi,pU]
theorem MB:∀{xs:List ay},(xs.any fun t=> !iV t)= !mK xs
 |[]=>rfl
 |t::ts=>by rw[List.any_cons,MB (xs:=ts),mK];simp
theorem OY:∀{xs:List aZ},(xs.any fun t=> !xu t)= !pU xs
 |[]=>rfl
 |t::ts=>by rw[List.any_cons,OY (xs:=ts),pU];simp
noncomputable def sF(e:ay):Bool:=dec (e.cnt<=300)&&iV e
def pV(l:Int)(c:Nat):Int:=if l<0 then -1 else if c<=l then l-c else -1
theorem Iz{l:Int}{a b:Nat}:pV (pV l a) b=pV l (a+b):=by unfold pV;split<;>split<;>(try split)<;>(try split)<;>omega
theorem Nb{l:Int}{a:Nat}(h:l<0):pV l a= -1:=if_pos h
theorem J8{l:Int}(h: -1<=l):pV l 0=l:=by unfold pV;split<;>(try split)<;>omega
theorem Q8{l:Int}{c:Nat}(h:0<=l): -1<=pV l c/\pV l c<=l:=by unfold pV;split<;>(try split)<;>omega
theorem aia{l:Int}{c:Nat}(h:0<=l):decide (pV l c>=0)=decide ((c:Int)<=l):=by unfold pV;rw[if_neg (by omega)];split<;>simp<;>omega
theorem Uj:validName []=false:=aK fun h=>by have:=h.1.1;simp at this
theorem ae3{s:List UInt8}(h:s∈ops):s.length=1:=by simp[ops] at h;rcases h with h|h|h|h|h<;>rw[h]<;>rfl
theorem Wn{s:List UInt8}(h:s∈ops):validName s=false:=aK fun x=>by
 have h1:=x.2.2 0 (by have:=x.1.1;omega);simp[ops] at h;rcases h with h|h|h|h|h<;>rw[h] at h1<;>simp[lowerB,sw] at h1
theorem OZ{t:ak}(h:xY t):oo t=false:=aK fun x=>by
 have h1:=x.1;rw[yO,Bool.and_eq_true] at h1;have h2:=gq h1.1;rw[h.1] at h2;omega
structure Hold(p:Prop):Prop where
 out:p
theorem nP{P:Program}{N:Nat}{c:Code}{Q:Exit->St->Prop}{tm:List (Nat×V)}{st st':Store}(ts:List Nat)(vs:List V)(hv:ts.map (look tm)=vs)(hs:st=st')
 (h:AW P N c Q ⟨gV ts vs,st'⟩):AW P N c Q ⟨tm,st⟩:=by
 subst hs;refine ni h ?_;rw[<-hv];exact MX fun t=>yu _ ts t
end Go.Ab