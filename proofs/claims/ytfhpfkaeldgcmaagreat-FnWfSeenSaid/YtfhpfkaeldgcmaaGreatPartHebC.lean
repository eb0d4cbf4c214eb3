/-
  SEVERAL TEXTS IN ONE (merged by program): contracts and models, each with its own heading.
-/
import Derived.Test.YtfhpfkaeldgcmaaGreatPartHebB
import Derived.Carry
import Derived.WideKeyArgs
import Derived.ProofKit
import Derived.OpenShut
import Derived.WalkKit
import Derived.Test.YtfhpfkaeldgcmaaGreatChecked
import Derived.Eval
import Derived.KernelRfl
open Go.Proofs Go.Proofs.Tryz
theorem Go.Ab.zmx:Go.Proofs.Tryz.prog.follows .mixedOrders=true:=Go.Proofs.Tryz.checked.mixed
open Go Go.Ab in
theorem Go.Ab.zcx{N:Nat}{S:Store}{f:FuncId}{fn:Func}{c:Code}{args:List V}{post:V->Store->Prop}(rs:List ResultVar)(hf:Tryz.prog.funcs[f]? =some fn)(hN:fn.ntmps=N)(h:CW Tryz.prog N c (JL Tryz.prog rs post) ⟨lu (args.map (V.up 1)) 0,[]::S⟩)(hb:fn.body=some c:=by exact rfl)(hn:(fn.name== "runtime.NumGoroutine")=false:=by exact rfl)(hr:fn.results.toList=rs:=by exact rfl)(hl:Nat.ble args.length N=true:=by exact rfl)(hok:codeOk N c=true:=by exact rfl):bY Tryz.prog f args S post:=aP (rs:=rs) zmx hf hN hb hn hr hl hok h
set_option linter.unusedSimpArgs false
set_option linter.unusedVariables false
set_option maxRecDepth 4000
namespace Go.Ab
section
variable {P:Program} {S S':Store} {N:Nat} {s:St}
theorem Gn(S:Store)(β:Hs)(k:Key):Keep S β (aY S k .dead) β:=by
 intro k' o ho;by_cases e:k=k'
 ·subst e;exact⟨.dead,cO _ _ _ _ ho,.inl rfl⟩
 ·exact⟨o,by rw[eX _ _ _ _ e];exact ho,kS.refl _ _⟩
theorem zh{k k':Key}{o:Obj}(h:bn (aY S k .dead) k'=some o):(k=k'/\o=.dead)\/bn S k'=some o:=by
 by_cases e:k=k'
 ·subst e
  cases hg:bn S k with
  |none=>
   have:∀(S:Store)(k:Key),bn S k=none->aY S k .dead=S:=by
    intro S
    induction S with
    |nil=>intro k _;rfl
    |cons fr S ih=>
     rintro⟨l,j⟩ h
     cases l with
     |zero=>
      rw[bK] at h;rw[aY,List.set_eq_of_length_le (List.getElem?_eq_none_iff.1 h)]
     |succ l=>rw[bZ] at h;rw[aY,ih _ h]
   rw[this S k hg,hg] at h;cases h
  |some y=>
   rw[cO _ _ _ _ hg] at h;cases h;exact .inl ⟨rfl,rfl⟩
 ·rw[eX _ _ _ _ e] at h;exact .inr h
theorem Ri(x:Obj):∀(S:Store)(k:Key),(aY S k x).length=S.length
 |[],k=>rfl
 |fr::S,(0,j)=>by rw[aY];simp
 |fr::S,(l+1,j)=>by rw[aY,List.length_cons,Ri x S,List.length_cons]
theorem Vj(x:Obj):∀(S:Store)(k:Key)(l:Nat)(fr:List Obj),(aY S k x)[l]? =some fr->∃Ca,S[l]? =some Ca/\Ca.length=fr.length
 |[],k,l,fr,h=>by simp[aY] at h
 |f::S,(0,j),0,fr,h=>by rw[aY] at h;simp at h;subst h;exact⟨f,rfl,by simp⟩
 |f::S,(0,j),l+1,fr,h=>by rw[aY] at h;exact⟨fr,by simpa using h,rfl⟩
 |f::S,(i+1,j),0,fr,h=>by rw[aY] at h;exact⟨fr,by simpa using h,rfl⟩
 |f::S,(i+1,j),l+1,fr,h=>by
  rw[aY] at h;simpa using Vj x S (i,j) l fr (by simpa using h)
theorem adF{w:World}{σ:Nat->Nat}{β:Hs}(k:Key)(hS:eG w σ S β):eG w σ (aY S k .dead) β:=by
 have hn:fq w σ w σ:=(Grow.refl hS.live).near;refine⟨fun k' o ho=> ?_,fun k1 k2 o1 o2 h1 h2 b e1 e2 e3 e4 e5 e6=> ?_,⟨by rw[Ri];exact hS.shape.1,fun l fr hl=> ?_⟩,hS.live,hS.wJ⟩
 ·rcases zh ho with⟨rfl,rfl⟩|ho'
  ·cases hg:bn S k with
   |none=>
    exfalso;have:=Gn S β k;rcases zh (S:=S) (k:=k) (k':=k) ho with⟨_,_⟩|h
    ·
     have hne:bn (aY S k .dead) k=none:=by
      have:∀(S:Store)(k:Key),bn S k=none->bn (aY S k Obj.dead) k=none:=by
       intro S
       induction S with
       |nil=>intro k _;rw[aY,nu]
       |cons fr S ih=>
        rintro⟨l,j⟩ h
        cases l with
        |zero=>
         rw[bK] at h;rw[aY,bK,List.set_eq_of_length_le (List.getElem?_eq_none_iff.1 h)];exact h
        |succ l=>rw[bZ] at h;rw[aY,bZ];exact ih _ h
      exact this S k hg
     rw[hne] at ho;cases ho
    ·rw[hg] at h;cases h
   |some y=>
    obtain⟨h,hh,_⟩:=hS.obj k y hg;exact⟨h,hh,trivial⟩
  ·obtain⟨h,hh,hr⟩:=hS.obj k' o ho';exact⟨h,hh,hr.mono hn ((Gn S β k).drop k'.1) fun b _=>⟨rfl,rfl⟩⟩
 ·rcases zh e1 with⟨_,rfl⟩|I9
  ·cases e3
  ·rcases zh e4 with⟨_,rfl⟩|e4'
   ·cases e6
   ·exact hS.apart k1 k2 o1 o2 h1 h2 b I9 e2 e3 e4' e5 e6
 ·obtain⟨Ca,h1,h2⟩:=Vj _ S k l fr hl;obtain⟨gr,h3,h4⟩:=hS.shape.2 l Ca h1;exact⟨gr,h3,by omega⟩
def Less(r r':V):Prop:=∀w σ S β v,dN w σ S β r v->dN w σ S β r' v
theorem Less.refl(r:V):Less r r:=fun _ _ _ _ _ h=>h
theorem bY.kill{f:FuncId}{args:List V}{post post':V->Store->Prop}(k:Key)(h:bY P f args S post)(hp:∀r S',post r S'->∃r',Less r r'/\(post' r' S'\/post' r' (aY S' k .dead))):bY P f args S post':=by
 refine⟨h.1,fun w σ β vs hS hv=>(h.2 w σ β vs hS hv).mono fun e w' ⟨v,r,S',σ',β',h1,h2,h3,h4,h5,h6⟩=> ?_⟩;obtain⟨r',hl,hp|hp⟩:=hp r S' h6
 ·exact⟨v,r',S',σ',β',h1,h2,h3,h4,hl _ _ _ _ _ h5,hp⟩
 ·have hkeep:=Gn S' β' k;refine⟨v,r',aY S' k .dead,σ',β',h1,adF k h2,h3.trans hkeep,⟨h4.size,h4.os,h4.output,h4.far,h4.near,fun b hb=> ?_⟩,hl _ _ _ _ _ (h5.mono (Grow.refl h2.live).near hkeep),hp⟩;obtain⟨k',o,hv,e1,e2,e3⟩:=hb;rcases zh e1 with⟨_,rfl⟩|I9
  ·cases e3
  ·exact h4.own b ⟨k',o,hv,I9,e2,e3⟩
theorem ah{x y:Obj}:∀(S:Store)(k:Key),aY (aY S k x) k y=aY S k y
 |[],k=>rfl
 |fr::S,(0,j)=>by rw[aY,aY,aY];simp
 |fr::S,(l+1,j)=>by rw[aY,aY,aY,ah S]
theorem Cc{x:Obj}:∀(S:Store)(k:Key),bn S k=some x->aY S k x=S
 |[],k,_=>rfl
 |fr::S,(0,j),h=>by
  rw[bK] at h;rw[aY];congr 1
  exact List.ext_getElem? fun i=>by
   rw[List.getElem?_set];split
   ·rename_i e;subst e;obtain⟨h1,h2⟩:=List.getElem?_eq_some_iff.1 h;simp[h1,h2]
   ·rfl
 |fr::S,(l+1,j),h=>by rw[bZ] at h;rw[aY,Cc S _ h]
def uU:List Bool->List V->List V
 |true::m,v::vs=>v::uU m vs
 |false::m,v::vs=>v.tY::uU m vs
 |[],vs=>vs.map V.tY
 |_,[]=>[]
theorem JM:∀(m:List Bool)(vs:List V),vs.length=(uU m vs).length
 |true::m,v::vs=>by rw[uU,List.length_cons,List.length_cons,JM m vs]
 |false::m,v::vs=>by rw[uU,List.length_cons,List.length_cons,JM m vs]
 |[],vs=>by simp[uU]
 |true::m,[]=>rfl
 |false::m,[]=>rfl
theorem M6:∀(m:List Bool)(vs:List V)(j:Nat)(x y:V),vs[j]? =some x->(uU m vs)[j]? =some y->y=x\/y=x.tY
 |true::m,v::vs,0,x,y,h1,h2=>by rw[uU] at h2;cases h1;cases h2;exact .inl rfl
 |false::m,v::vs,0,x,y,h1,h2=>by rw[uU] at h2;cases h1;cases h2;exact .inr rfl
 |true::m,v::vs,j+1,x,y,h1,h2=>by rw[uU] at h2;exact M6 m vs j x y h1 h2
 |false::m,v::vs,j+1,x,y,h1,h2=>by rw[uU] at h2;exact M6 m vs j x y h1 h2
 |[],vs,j,x,y,h1,h2=>by rw[uU,List.getElem?_map,h1] at h2;cases h2;exact .inr rfl
 |true::m,[],j,x,y,h1,h2=>by simp at h1
 |false::m,[],j,x,y,h1,h2=>by simp at h1
theorem bY.uU(m:List Bool){f:FuncId}{args:List V}{post:V->Store->Prop}(h:bY P f (Go.Ab.uU m args) S post):bY P f args S post:=
 h.weaken (JM m args) fun j x y hx hy w σ β v hr=>by
  rcases M6 m args j x y hx hy with e|e
  ·rw[e];exact hr
  ·rw[e];exact QS hr
theorem cu(m:List Bool){dr:Option Nat}{f:FuncId}{args:List V}{dst:Option Nat}{K:St->Prop}{r:V}{S1:Store}(hm:afI dr=true)(h:bY P f (uU m args) s.st (fun r' S'=>r'=r/\S'=S1))(hK:K (St.put ⟨s.tm,S1⟩ dst r)):iI P dr f args s dst K:=
 aW hm (h.uU m) hK
end
theorem aX.less{P:Program}{f:FuncId}{args:List V}{r r':V}(h:aX P f args r)(hl:Less r r'):aX P f args r':=
 fun S=>(h S).kill (0,0) fun r1 S' e=>⟨r',by rw[e.1];exact hl,.inl ⟨rfl,e.2⟩⟩
theorem Rj{es:List (List D)}:Less (.c (.bM es)) (.c (.d (.sl es))):=fun w σ S β v h=>⟨h.1.1,h.2⟩
section
variable {P:Program} {S:Store}
def jR(n:Nat)(caps:List (Key×Nat)):List (Key×Nat):=caps.map fun y=>(zR n y.1,y.2)
theorem Xy{n:Nat}:jR n []=[]:=rfl
theorem Uc{n l j off:Nat}{caps:List (Key×Nat)}:jR n (((l,j),off)::caps)=((n+l,j),off)::jR n caps:=rfl
theorem Oa{m n:Nat}{caps:List (Key×Nat)}:jR m (jR n caps)=jR (m+n) caps:=by
 unfold jR;rw[List.map_map];refine List.map_congr_left fun y _=> ?_;simp only[Function.comp,zR,Prod.mk.injEq,and_true];omega
theorem Ud{n m g:Nat}{caps:List (Key×Nat)}:C.refs n (.fn g (jR (m+1) caps))=true:=by
 simp only[C.refs,jR,List.all_map,List.all_eq_true];intro x _
 have h:0<m+1+x.1.1:=by omega
 simp[Function.comp,sZ,zR,h]
theorem Rk{n:Nat}{caps:List (Key×Nat)}:((jR 1 caps).all fun x=>sZ n x.fst)=true:=Ud (m:=0) (g:=0)
theorem Rl:∀(F S:Store)(l j:Nat),bn (F++S) (F.length+l,j)=bn S (l,j)
 |[],S,l,j=>by simp
 |fr::F,S,l,j=>by
  rw[List.cons_append,List.length_cons,show F.length+1+l=(F.length+l)+1 from by omega,bZ,Rl F S l j]
theorem Rm(x:Obj):∀(F S:Store)(l j:Nat),aY (F++S) (F.length+l,j) x=F++aY S (l,j) x
 |[],S,l,j=>by simp
 |fr::F,S,l,j=>by
  rw[List.cons_append,List.length_cons,show F.length+1+l=(F.length+l)+1 from by omega,aY,Rm x F S l j,List.cons_append]
theorem aav{F S:Store}{j:Nat}:bn (F++S) (F.length,j)=bn S (0,j):=Rl F S 0 j
theorem aaw{F S:Store}{j:Nat}{x:Obj}:aY (F++S) (F.length,j) x=F++aY S (0,j) x:=Rm x F S 0 j
attribute [go_sem] aav aaw Xy Uc
def uJ(P:Program)(g:Nat)(caps:List (Key×Nat))(S:Store)(xs:List V)(r:V):Prop:=
 ∀F:Store,bY P g (xs++Bh (jR F.length caps)) (F++S) (fun r' S'=>r'=r/\S'=F++S)
theorem uJ.push{g:Nat}{caps:List (Key×Nat)}{xs:List V}{r:V}(h:uJ P g caps S xs r)(fr:List Obj):uJ P g (jR 1 caps) (fr::S) xs r:=fun F=>by
 have:=h (F++[fr]);rw[Oa];simpa using this
theorem uJ.Vk{g:Nat}{xs:List V}{r:V}(h:aX P g xs r):uJ P g [] S xs r:=fun F=>by
 have:=h (F++S);simpa [jR,Bh] using this
def Ip(P:Program)(g:Nat)(caps:List (Key×Nat)){α X:Type}(st:α->Store)(I:Nat->α->Prop)(f:α->X->α)(xv:X->V)(ok:X->Prop):Prop:=
 ∀n a u,I (n+1) a->ok u->I n (f a u)/\∀F:Store,bY P g (xv u::Bh (jR F.length caps)) (F++st a) (fun r' S'=>r'=.eD []/\S'=F++st (f a u))
theorem Ip.push{g:Nat}{caps:List (Key×Nat)}{α X:Type}{st:α->Store}{I:Nat->α->Prop}{f:α->X->α}{xv:X->V}{ok:X->Prop}(h:Ip P g caps st I f xv ok)(fr:List Obj):
 Ip P g (jR 1 caps) (fun a=>fr::st a) I f xv ok:=fun n a u ha hu=>⟨(h n a u ha hu).1,fun F=>by
 have:=(h n a u ha hu).2 (F++[fr]);rw[Oa]
 simpa using this⟩
theorem Ce{N:Nat}{c:Code}{Q:Exit->St->Prop}{tm:List (Nat×V)}{own:List Obj}{Ω:Store}(j i bB:Nat)(es:List (List D))(cs:List C)(hj:own[j]? =some (.box cs))(hi:cs[i]? =some (.bM es))(hes:∀e∈es,e.length=bB)
 (h:AW P N c Q ⟨tm,(own.set j (.box (cs.set i (.bV (0,own.length) es)))++[.tok bB es])::Ω⟩):AW P N c Q ⟨tm,own::Ω⟩:=by
 refine oD h fun a w σ β hR=> ?_;obtain⟨bo,bΩ,rfl,hlen⟩:=frames hR;have hjl:=(List.getElem?_eq_some_iff.1 hj).1
 have hg0:bn (own::Ω) (0,j)=some (.box cs):=by rw[bK];exact hj
 obtain⟨hb,I8,hr⟩:=hR.S.obj (0,j) _ hg0;obtain⟨b,cv,ty,rfl,hbc,hσ,hcs⟩:=hr;have hcs:fO w σ (own::Ω) (bo::bΩ) cs cv.toList:=hcs;obtain⟨v,hv,⟨hd,ad,n,hval⟩,hone⟩:=hcs.2 i _ hi
 have hn:n=es.length:=by rw[hval] at hd;cases hd<;>rfl
 have hg:Grow w σ w σ:=Grow.refl hR.S.live
 obtain⟨hS',hk,hst⟩:=hR.S.push (o:=.tok bB es) (h:=v) hg hlen ⟨hd,hes,ad,n,by rw[hval,hn],by omega,.inl hn⟩ (fun b hb=>by
  rw[hval,hn] at hb
  cases ad<;>simp[owns,blk] at hb)
 have hk1:bn ((own++[.tok bB es])::Ω) (0,j)=some (.box cs):=jo _ _ _ _ _ hg0;have K6:bn ((bo++[v])::bΩ) (0,j)=some (.pointer (some ⟨b,0,none⟩)):=jo _ _ _ _ _ I8;have hko:kS (.box cs) (some (Value.pointer (some ⟨b,0,none⟩))) (.box (cs.set i (.bV (0,own.length) es))) (some (Value.pointer (some ⟨b,0,none⟩))):=.inr ⟨⟨_,rfl⟩,rfl⟩
 have hK:Keep ((own++[.tok bB es])::Ω) ((bo++[v])::bΩ) (aY ((own++[.tok bB es])::Ω) (0,j) (.box (cs.set i (.bV (0,own.length) es)))) (aY ((bo++[v])::bΩ) (0,j) (.pointer (some ⟨b,0,none⟩))):=by
  intro k1 o1 e1;by_cases e:k1=(0,j)
  ·subst e;rw[hk1] at e1;cases e1;exact⟨_,cO _ _ _ _ hk1,by rw[K6,cO _ _ _ _ K6];exact hko⟩
  ·exact⟨o1,(eX _ _ _ _ (Ne.symm e)).trans e1,by rw[eX _ _ _ _ (Ne.symm e)];exact .refl _ _⟩
 have hne:(0,own.length)≠(0,j):=fun e=>by injection e with _ e;omega
 obtain⟨hS2,hk2,Bd⟩:=hS'.set (w':=w) (σ':=σ) (o':=.box (cs.set i (.bV (0,own.length) es))) (h':=.pointer (some ⟨b,0,none⟩)) hk1 K6 (Nat.le_refl _) rfl rfl (fq.refl _ _) hS'.live (fun _ _ _=>⟨rfl,rfl⟩) hko
  ⟨b,cv,ty,rfl,hbc,hσ,by
    refine⟨by rw[List.length_set];exact hcs.1,fun m x hm=> ?_⟩;rw[List.getElem?_set] at hm;by_cases e:i=m
    ·subst e;rw[if_pos rfl] at hm;split at hm
     ·cases hm;refine⟨v,hv,⟨hd,.tok bB es,?_,fun a1 b1 e1=> ?_⟩,hone⟩
      ·show bn (aY _ (0,j) _) (0,own.length)=_;rw[eX _ _ _ _ (Ne.symm hne),dB]
      ·obtain⟨_,rfl⟩:=qp (lab:=none) e1;refine⟨Nat.le_refl _,fun _=> ?_⟩;show bn (aY _ (0,j) _) (0,own.length)=_;rw[eX _ _ _ _ (Ne.symm hne),<-hlen,dB]
     ·cases hm
    ·rw[if_neg e] at hm;obtain⟨u,hu,hc,ho⟩:=hcs.2 m x hm
     exact⟨u,hu,(hc.mono (fq.refl _ _) hk).mono (fq.refl _ _) hK,ho⟩⟩ (fun _ e=>.inl e)
 have est:aY ((own++[.tok bB es])::Ω) (0,j) (.box (cs.set i (.bV (0,own.length) es)))=(own.set j (.box (cs.set i (.bV (0,own.length) es)))++[.tok bB es])::Ω:=by
  rw[aY,List.set_append_left _ _ hjl]
 rw[est] at hS2 hk2 Bd
 exact⟨σ,_,⟨hR.size,hR.defers,hS2,fun u=>((hR.T u).mono (fq.refl _ _) hk).mono (fq.refl _ _) hk2⟩,hst.trans Bd,by
  have:=hk.trans hk2
  exact this.tail⟩
end
inductive D.Fit:D->Prop
 |b (x):Fit (.b x)
 |i (k n):Fit (.i k n)
 |s (l) (h:l.length<=9223372036854775807):Fit (.s l)
 |sl (es) (h:es.length<=9223372036854775807) (hh:∀e∈es,∀d∈e,Fit d):Fit (.sl es)
 |o (v):Fit (.o v)
def Bj(cs:List D):Prop:=∀d∈cs,d.Fit
theorem Bl:Bj []:=fun d h=>by cases h
theorem Cg{d:D}{ds:List D}:Bj (d::ds)<->d.Fit/\Bj ds:=by simp[Bj]
theorem Ue{a b:List D}:Bj (a++b)<->Bj a/\Bj b:=by
 simp only[Bj,List.mem_append];exact⟨fun h=>⟨fun d hd=>h d (.inl hd),fun d hd=>h d (.inr hd)⟩,fun h d hd=>hd.elim (h.1 d) (h.2 d)⟩
def WTF(P:Program)(W:TypeId->List D->Prop):List Field->List D->Prop
 |[],ds=>ds=[]
 |f::fs,ds=>∃a b,ds=a++b/\a.length=P.cellsOf f.type/\W f.type a/\WTF P W fs b
def WT(P:Program):Nat->TypeId->List D->Prop
 |0,_,_=>False
 |n+1,t,ds=>
  match P.underlying t with
  |some .bool=>∃b,ds=[.b b]
  |some (.int k)=>∃x,ds=[.i k x]/\(Lit.int k x).wf=true
  |some .string=>∃l,ds=[.s l]/\l.length<=9223372036854775807
  |some (.slice e)=>∃es,ds=[.sl es]/\es.length<=9223372036854775807/\∀x∈es,x.length=P.cellsOf e/\WT P n e x
  |some (.struct fs)=>WTF P (WT P n) fs.toList ds
  |_=>False
def Ai(P:Program):List Field->Nat->Nat->Bool
 |[],a,b=>a==b
 |f::fs,a,b=>f.offset==a&&Ai P fs (a+P.cellsOf f.type) b
def M7(P:Program)(L:List TypeId):Bool:=
 L.all fun t=>match P.underlying t with
  |some .bool|some (.int _)|some .string=>P.cellsOf t==1
  |some (.slice e)=>P.cellsOf t==1&&L.contains e&&decide (0<P.cellsOf e)
  |some (.struct fs)=>Ai P fs.toList 0 (P.cellsOf t)&&fs.toList.all fun f=>L.contains f.type
  |_=>false
def kP(w:World)(b:Nat):Nat:=match w.heap[b]? with
 |some (.cells c _ _)=>c.size
 |_=>0
def rO(w:World)(ds:List D)(vs:List Value):Prop:=ds.length=vs.length/\∀(j:Nat)(d:D),ds[j]? =some d->∃v,vs[j]? =some v/\dM w (kP w) d v/\v.oneCell'=true
theorem rO.append{w:World}{a b:List D}{xs ys:List Value}(h1:rO w a xs)(h2:rO w b ys):rO w (a++b) (xs++ys):=by
 refine⟨by simp[h1.1,h2.1],fun j d hj=> ?_⟩;rw[List.getElem?_append] at hj ⊢;have:=h1.1;split at hj
 ·rw[if_pos (by omega)];exact h1.2 j d hj
 ·rw[if_neg (by omega),<-h1.1];exact h2.2 _ d hj
theorem rO.one{w:World}{d:D}{v:Value}(h:dM w (kP w) d v)(h1:v.oneCell'=true):rO w [d] [v]:=by
 refine⟨rfl,fun j x hj=> ?_⟩
 cases j with
 |zero=>cases hj;exact⟨v,rfl,h,h1⟩
 |succ j=>simp at hj
theorem Rn{α β:Type}(f:α->Option β):∀(l:List α)(ys:List β),l.mapM f=some ys->ys.length=l.length/\∀(j:Nat)(x:α),l[j]? =some x->∃y,f x=some y/\ys[j]? =some y
 |[],ys,h=>by
  simp at h;subst h;exact⟨rfl,fun j x hj=>by simp at hj⟩
 |a::l,ys,h=>by
  rw[List.mapM_cons] at h
  cases ha:f a with
  |none=>rw[ha] at h;cases h
  |some y=>
   cases hl:l.mapM f with
   |none=>rw[ha,hl] at h;cases h
   |some zs=>
    rw[ha,hl] at h;cases h;obtain⟨h1,h2⟩:=Rn f l zs hl;refine⟨by simp[h1],fun j x hj=> ?_⟩
    cases j with
    |zero=>cases hj;exact⟨y,ha,rfl⟩
    |succ j=>exact h2 j x hj
section
variable {H:Type} {enc:TypeId×Value->H} {P:Program} {w:World} {L:List TypeId}
theorem EB{a:Addr}{n:Nat}{vs:List Value}(hn:0<n)(h:w.cells? 0 a n=some vs):a.spot=none/\vs.length=n/\∃c t fz,w.heap[a.block]? =some (.cells c t fz)/\∀j,j<n->∃v,vs[j]? =some v/\c[a.off+j]? =some v:=by
 unfold World.cells? at h;rw[if_pos (Nat.zero_le _)] at h;obtain⟨h1,h2⟩:=Rn _ _ _ h;rw[List.length_range] at h1;obtain⟨v0,hv0,_⟩:=h2 0 0 (by simp[hn])
 have PG:a.add 0=a:=by simp[Addr.add]
 rw[PG] at hv0;unfold World.cell? at hv0
 cases hb:w.heap[a.block]? with
 |none=>rw[hb] at hv0;cases hv0
 |some ob=>
  rw[hb] at hv0
  cases ob with
  |map _ _=>cases hv0
  |cells c t fz=>
   have hs:a.spot=none:=by
    cases hsp:a.spot with
    |none=>rfl
    |some x=>rw[hsp] at hv0;simp at hv0
   refine⟨hs,h1,c,t,fz,rfl,fun j hj=> ?_⟩;obtain⟨v,hv,hvs⟩:=h2 j j (by simp[hj]);refine⟨v,hvs,?_⟩;unfold World.cell? at hv;by_cases hj0:j=0
   ·subst hj0;rw[PG,hb] at hv;simp[hs] at hv;simpa using hv
   ·simp[Addr.add,hj0,hb] at hv;exact hv
  |_=>cases hv0
theorem Jf{α:Type}{p:Nat->α->Prop}:∀n:Nat,(∀i,i<n->∃x,p i x)->∃l:List α,l.length=n/\∀(i:Nat)(x:α),l[i]? =some x->p i x
 |0,_=>⟨[],rfl,fun i x h=>by simp at h⟩
 |n+1,h=>by
  obtain⟨l,hl,hp⟩:=Jf n fun i hi=>h i (by omega);obtain⟨x,hx⟩:=h n (by omega);refine⟨l++[x],by simp[hl],fun i y hy=> ?_⟩;rw[List.getElem?_append] at hy;split at hy
  ·exact hp i y hy
  ·rename_i hlt
   have hi:i-l.length<1:=by
    have:=(List.getElem?_eq_some_iff.1 hy).1;simpa using this
   have:i=n:=by omega
   subst this;rw[show i-l.length=0 from by omega] at hy;cases hy;exact hx
theorem aax(hc:M7 P L=true){t:TypeId}(ht:t∈L):(match P.underlying t with
 |some .bool|some (.int _)|some .string=>P.cellsOf t==1
 |some (.slice e)=>P.cellsOf t==1&&L.contains e&&decide (0<P.cellsOf e)
 |some (.struct fs)=>Ai P fs.toList 0 (P.cellsOf t)&&fs.toList.all fun f=>L.contains f.type
 |_=>false)=true:=List.all_eq_true.1 hc t ht
theorem Uf{n:Nat}{fs:List Field}{cs:List Value}:∀(off:Nat),off<=cs.length->Ai P fs off cs.length=true->
 (∀f∈fs,∃ds,WT P n f.type ds/\rO w ds ((cs.drop f.offset).take (P.cellsOf f.type)))->∃ds,WTF P (WT P n) fs ds/\rO w ds (cs.drop off):=by
 induction fs with
 |nil=>
  intro off _ ht _
  have:off=cs.length:=by simpa [Ai] using ht
  exact⟨[],rfl,by simp[this,rO]⟩
 |cons f fs ih=>
  intro off ho ht h;simp only[Ai,Bool.and_eq_true,beq_iff_eq] at ht;obtain⟨a,ha1,ha2⟩:=h f (by simp)
  have hle:∀(fs:List Field)(o:Nat),Ai P fs o cs.length=true->o<=cs.length:=by
   intro fs
   induction fs with
   |nil=>intro o h;have:o=cs.length:=by simpa [Ai] using h
         omega
   |cons g gs ih=>intro o h;simp only[Ai,Bool.and_eq_true] at h;have:=ih _ h.2;omega
  have hle':=hle fs _ ht.2;obtain⟨b,hb1,hb2⟩:=ih (off+P.cellsOf f.type) hle' ht.2 fun g hg=>h g (by simp[hg]);rw[ht.1] at ha2;refine⟨a++b,⟨a,b,rfl,?_,ha1,hb1⟩,?_⟩
  ·rw[ha2.1];simp;omega
  ·have:=ha2.append hb2;rw[<-List.drop_drop,List.take_append_drop] at this;exact this
theorem Gp(hc:M7 P L=true){sp:Nat->Bool}{held:Bool}:∀(fuel:Nat)(t:TypeId)(cs:List Value)(x:DataW H×List MemPlace),t∈L->
 DataW.trod enc P w 0 sp held fuel t cs=some x->∃ds,WT P fuel t ds/\rO w ds cs
 |0,t,cs,x,_,h=>by simp[DataW.trod] at h
 |n+1,t,cs,x,ht,h=>by
  have hcl:=aax hc ht
  cases hu:P.underlying t with
  |none=>rw[hu] at hcl;cases hcl
  |some u=>
   rw[hu] at hcl
   cases u with
   |bool=>
    obtain⟨b,rfl,_⟩:=DataW.trod_bool hu h;exact⟨[.b b],by simp only[WT,hu];exact⟨b,rfl⟩,rO.one (.b b) rfl⟩
   |int k=>
    obtain⟨m,rfl,_,hw⟩:=DataW.trod_int hu h;exact⟨[.i k m],by simp only[WT,hu];exact⟨m,rfl,hw⟩,rO.one (.i k m) rfl⟩
   |string=>
    obtain⟨s,rfl,_,hs⟩:=DataW.trod_string hu h
    have hl:s.data.toList.length<=9223372036854775807:=by
     have h1:s.data.toList.length=s.size:=by rw[Array.length_toList];rfl
     rw[h1];exact hs
    refine⟨[.s s.data.toList],?_,rO.one ?_ rfl⟩
    ·simp only[WT,hu];exact⟨_,rfl,hl⟩
    ·exact .s s.data.toList
   |slice e=>
    simp only[Bool.and_eq_true,beq_iff_eq,decide_eq_true_eq,List.contains_iff_mem] at hcl;obtain⟨⟨h1,he⟩,hpos⟩:=hcl;rcases DataW.trod_slice hu h with⟨rfl,_⟩|⟨a,len,cap,elems,rest,m,hm,rfl,_,_,hlc,hcm,hel,hget,_,_⟩
    ·exact⟨[.sl []],by simp only[WT,hu];exact⟨[],rfl,by simp,fun x hx=>by cases hx⟩,rO.one (.nil _ _) rfl⟩
    ·cases hm
     have hall:∀i,i<len->∃ds:List D,ds.length=P.cellsOf e/\WT P n e ds/\∃vs,w.cells? 0 (a.add (i*P.cellsOf e)) (P.cellsOf e)=some vs/\rO w ds vs:=by
      intro i hi;have hg:=hget i hi
      cases hcs:w.cells? 0 (a.add (i*P.cellsOf e)) (P.cellsOf e) with
      |none=>
       rw[hcs] at hg
       have:i<elems.length:=by omega
       rw[List.getElem?_eq_getElem this] at hg;cases hg
      |some vs=>
       rw[hcs] at hg
       have hlt:i<elems.length:=by omega
       rw[List.getElem?_eq_getElem hlt] at hg;obtain⟨ds,hd1,hd2⟩:=Gp hc n e vs _ he hg;have hv:=(EB hpos hcs).2.1;exact⟨ds,by rw[hd2.1,hv],hd1,vs,rfl,hd2⟩
     obtain⟨es,hes,hp⟩:=Jf len hall
     have hwt:WT P (n+1) t [.sl es]:=by
      simp only[WT,hu]
      refine⟨es,rfl,by have:cap<=9223372036854775807:=hcm
                       omega,fun x hx=> ?_⟩
      obtain⟨i,hi⟩:=List.getElem?_of_mem hx;exact⟨(hp i x hi).1,(hp i x hi).2.1⟩
     refine⟨[.sl es],hwt,?_⟩
     cases Ej:es with
     |nil=>
      have h0:len=0:=by rw[<-hes,Ej];rfl
      subst h0;exact rO.one (.nil _ _) rfl
     |cons e0 es0=>
      have akn:0<len:=by rw[<-hes,Ej];simp
      have hlen:∀x∈es,x.length=P.cellsOf e:=fun x hx=>by
       obtain⟨i,hi⟩:=List.getElem?_of_mem hx;exact(hp i x hi).1
      obtain⟨ds0,_,_,vs0,aiD,_⟩:=hall 0 akn
      have PG:a.add (0*P.cellsOf e)=a:=by simp[Addr.add]
      rw[PG] at aiD;obtain⟨hsp,_,c,tt,fz,hblk,_⟩:=EB hpos aiD
      have hcell:∀i r,i<len->r<P.cellsOf e->∃(x:List D) (v:Value) (d:D),es[i]? =some x/\x[r]? =some d/\c[a.off+(i*P.cellsOf e+r)]? =some v/\dM w (kP w) d v:=by
       intro i r hi hr
       have hlt:i<es.length:=by omega
       obtain⟨hx1,hx2,vs,hvs,hrep⟩:=hp i es[i] (List.getElem?_eq_getElem hlt);obtain⟨_,hvl,c',t',Vg,hblk',hcc⟩:=EB hpos hvs
       have hb':(a.add (i*P.cellsOf e)).block=a.block:=by unfold Addr.add;split<;>rfl
       have ho':(a.add (i*P.cellsOf e)).off=a.off+i*P.cellsOf e:=by unfold Addr.add;split<;>simp_all
       rw[hb',hblk] at hblk';cases hblk';obtain⟨v,hv1,hv2⟩:=hcc r hr
       have hdr:r<es[i].length:=by omega
       obtain⟨v',hv',hd',_⟩:=hrep.2 r es[i][r] (List.getElem?_eq_getElem hdr);rw[hv1] at hv';cases hv';refine⟨es[i],v,es[i][r],List.getElem?_eq_getElem hlt,List.getElem?_eq_getElem hdr,?_,hd'⟩;rw[ho'] at hv2;rw[<-Nat.add_assoc];exact hv2
      have hbound:a.off+len*P.cellsOf e<=c.size:=by
       obtain⟨_,v,_,_,_,hv,_⟩:=hcell (len-1) (P.cellsOf e-1) (by omega) (by omega);have:=(Array.getElem?_eq_some_iff.1 hv).1
       have e1:(len-1)*P.cellsOf e+P.cellsOf e=len*P.cellsOf e:=by
        rw[<-Nat.succ_mul];congr 1;omega
       omega
      have key:dM w (kP w) (.sl es) (.slice (some ⟨a.block,a.off,none⟩) es.length cap):=by
       refine .sl a.block a.off cap (P.cellsOf e) es (fun j=>(c[a.off+j]?).getD undef) c tt fz (by omega) hlen hblk ?_ (fun j hj=> ?_) (fun j d hj=> ?_)
       ·unfold kP;rw[hblk,hes];exact hbound
       ·have:a.off+j<c.size:=by rw[hes] at hj;omega
        rw[Array.getElem?_eq_getElem this];rfl
       ·have hfl:es.flatten.length=es.length*P.cellsOf e:=jI es _ hlen
        have hjl:j<es.length*P.cellsOf e:=by rw[<-hfl];exact(List.getElem?_eq_some_iff.1 hj).1
        have hi:j/P.cellsOf e<len:=by rw[<-hes];exact(Nat.div_lt_iff_lt_mul hpos).2 hjl
        obtain⟨x,v,d',hx,hd',hv,hr⟩:=hcell (j/P.cellsOf e) (j % P.cellsOf e) hi (Nat.mod_lt _ hpos)
        have hlt':j/P.cellsOf e<es.length:=by omega
        have hfg:=flat_get es (P.cellsOf e) hlen (j/P.cellsOf e) (j % P.cellsOf e) hlt' (Nat.mod_lt _ hpos)
        have hj':j/P.cellsOf e*P.cellsOf e+j % P.cellsOf e=j:=by rw[Nat.mul_comm];exact Nat.div_add_mod j _
        rw[hj',hj] at hfg;rw[List.getElem?_eq_getElem hlt'] at hx;cases hx;rw[hd'] at hfg;cases hfg;rw[hj'] at hv;rw[hv];exact hr
      rw[<-Ej];refine rO.one ?_ rfl
      have ha:a=⟨a.block,a.off,none⟩:=by cases a;simp at hsp;simp[hsp]
      rw[ha,<-hes];exact key
   |struct fs=>
    simp only[Bool.and_eq_true] at hcl;obtain⟨htl,hfs⟩:=hcl;obtain⟨xs,m,hm,rfl,hlen,hxs,alO⟩:=DataW.trod_struct hu h;cases hm;rw[<-hlen] at htl
    obtain⟨ds,h1,h2⟩:=Uf (w:=w) (n:=n) (cs:=cs) 0 (Nat.zero_le _) htl fun f hf=>by
     obtain⟨i,hi⟩:=List.getElem?_of_mem hf
     have hi':fs[i]? =some f:=by simpa using hi
     have hg:=alO i f hi'
     have hlt:i<xs.length:=by
      rw[hxs];exact(Array.getElem?_eq_some_iff.1 hi').1
     rw[List.getElem?_eq_getElem hlt] at hg
     have hfL:f.type∈L:=by
      have:=List.all_eq_true.1 hfs f hf;simpa using this
     exact Gp hc n f.type _ _ hfL hg
    refine⟨ds,by simp only[WT,hu];exact h1,?_⟩;rw[List.drop_zero] at h2;exact h2
   |_=>cases hcl
end
open Go.ChangeShapes Go.WideShapes Go.ChangeAt Go.RowKit
section
variable {H:Type} {enc:TypeId×Value->H} {P:Program} {W W':World} {L:List TypeId} {t:TypeId} {v:Value} {base:Nat}
theorem adG{d:D}(hv:v.cells.toList=[v])(hL:rO W [d] v.cells.toList):dN W (kP W) [] [] (.c (.d d)) v:=by
 obtain⟨u,h1,h2,h3⟩:=hL.2 0 d rfl;rw[hv] at h1;cases h1;exact⟨h2,h3⟩
theorem aay{e:TypeId}{d:D}(ht:P.underlying t=some (.slice e))(hok:Value.okWide P W .any base t v)(hL:rO W [d] v.cells.toList):dN W (kP W) [] [] (.c (.d d)) v:=by
 obtain⟨a,n,m,rfl⟩:=okWide_slice ht hok;exact adG rfl hL
theorem aaz:rH W (kP W) [] [] [] []:=⟨rfl,fun j x h=>by simp at h⟩
theorem Xz{x:V}{xs:List V}{vs:List Value}(h1:dN W (kP W) [] [] x v)(h2:rH W (kP W) [] [] xs vs):rH W (kP W) [] [] (x::xs) (v::vs):=by
 refine⟨by simp[h2.1],fun j y hj=> ?_⟩
 cases j with
 |zero=>cases hj;exact⟨v,rfl,h1⟩
 |succ j=>exact h2.2 j y hj
theorem adH(W:World)(hg:AQ W (kP W)):eG W (kP W) [] [] where
 wJ:=hg
 obj:=fun k o h=>by rw[nu] at h;cases h
 apart:=fun k k' o o' h h' b h1=>by rw[nu] at h1;cases h1
 shape:=⟨rfl,fun l fr h=>by simp at h⟩
 live:=fun b=>by
  by_cases h:b<W.heap.size
  ·exact .inl h
  ·right;unfold kP;rw[Array.getElem?_eq_none (by omega)]
theorem aiE{b:Nat}:¬Own [] [] b:=fun⟨k,o,h,h1,_⟩=>by rw[nu] at h1;cases h1
theorem FI(hl:laidOutB P=true)(hsame:∀b,b<W.heap.size->W'.heap[b]? =W.heap[b]?)(sp:Nat->Bool):∀(ts:List TypeId)(vs:List Value)(ds:List (DataW H))(ps:List MemPlace),
 (ts.all fun t=>P.readableRec t&&decide (t<P.types.size))=true->(∀p∈ps,p.block<W.heap.size/\sp p.block=true)->
   DataW.TrodAll enc P W 0 (fun _=>true) true ts vs ds ps->DataW.TrodAll enc P W' 0 sp true ts vs ds ps
 |[],[],[],ps,_,_,h=>h
 |t::ts,v::vs,d::ds,ps,hr,hlt,h=>by
  simp only[List.all_cons,Bool.and_eq_true,decide_eq_true_eq] at hr;obtain⟨p,q,h1,h2,rfl⟩:=h;refine⟨p,q,WideElems.Trod_stays hl hr.1.1 hr.1.2 h1 (fun x hx=> ?_) (fun x hx=>(hlt x (by simp[hx])).2),FI hl hsame sp ts vs ds q hr.2 (fun x hx=>hlt x (by simp[hx])) h2,rfl⟩;have hb:=(hlt x (by simp[hx])).1
  cases x with
  |cell b o=>exact World.cell?_of_block (w:=W) (hsame b hb)
  |map b=>exact hsame b hb
 |[],[],_::_,ps,_,_,h=>h.elim
 |[],_::_,_,ps,_,_,h=>h.elim
 |_::_,[],_,ps,_,_,h=>h.elim
 |_::_,_::_,[],ps,_,_,h=>h.elim
theorem adI{f:FuncId}{fn:Func}{s:ChangeSpec}{args:Array Value}{ds gs:List (DataW H)}{before:List MemPlace}{vs:List V}{tb:TypeId}(hl:laidOutB P=true)
 (hr:(fn.params.toList.all fun t=>P.readableRec t&&decide (t<P.types.size))=true)(hvars:s.vars=[])(hres:fn.resultTypes= #[tb])(htb:P.underlying tb=some .bool)
 (hs1:(s.fn H (ds++gs)).results=[.lit (.bool true)])(hs2:(s.fn H (ds++gs)).args=ds)(hs3:(s.fn H (ds++gs)).vars=[])
 (hW:DataW.Whole enc P fn.params.toList s.vars false W args.toList ds gs before)(hargs:rH W (kP W) [] [] vs args.toList)
 (hcall:bY P f vs [] fun r _=>r=.c (.d (.b true)))(ako:AQ W (kP W):=by(intro g p hm;exact absurd hm List.not_mem_nil)):
 Calls P f args W fun e W'=>∃v,e=.returned v/\s.post enc P fn false true false false W args v W':=by
 have hc:=hcall.2 W (kP W) [] args.toList (adH W ako) hargs
 have e1:args.toList.toArray=args:=by simp
 rw[e1] at hc;refine hc.mono fun e W' ⟨v,r,S',σ',β',he,hS',hk,hst,hv,hp⟩=> ?_;subst hp;obtain⟨hv,_⟩:=hv;cases hv;refine⟨_,he,?_⟩;have hsame:∀b,b<W.heap.size->W'.heap[b]? =W.heap[b]? :=fun b hb=>(hst.far b hb aiE).1;have hlt:=fun p hp=>hW.lt p hp;have hW0:=hW;obtain⟨pa,q,hA,hV,rfl,hz,hn⟩:=hW;rw[hvars] at hV
 have hq:gs=[]/\q=[]:=by
  obtain⟨h1,h2⟩:=trodVars_none hV;exact⟨h1,h2⟩
 obtain⟨rfl,rfl⟩:=hq
 rw[List.append_nil] at *
 refine⟨ds,[],pa,[],pa,[],?_,?_,?_,?_,?_,fun h=>by cases h⟩
 ·simpa using hW0
 ·rw[List.append_nil,hs1,hres];exact trodAll_cons_mk (shut_bool htb _) trodAll_mk0
 ·rw[List.append_nil,hs2];exact FI hl hsame _ _ _ _ _ hr (fun p hp=>⟨hlt p hp,by simpa using hlt p hp⟩) hA
 ·rw[List.append_nil,hs3,hvars];rfl
 ·refine⟨hst.os,hst.output,fun i hi=> ?_⟩;rw[hsame i hi];split<;>simp_all
end
mutual
def D.sz:D->Nat
 | .s l=>l.length
 | .sl es=>es.length+aQ es
 | .b _=>0
 | .i _ _=>0
 | .o _=>0
 | .ol _ es=>es.length+aQ es
def bG:List D->Nat
 |[]=>0
 |d::ds=>d.sz+bG ds
def aQ:List (List D)->Nat
 |[]=>0
 |r::rs=>bG r+aQ rs
end
theorem bC:∀(a b:List D),bG (a++b)=bG a+bG b
 |[],b=>by simp[bG]
 |d::ds,b=>by rw[List.cons_append,bG,bC ds b,bG];omega
def l7(left:Int)(n:Nat):Int:=if left-n<0 then -1 else left-n
theorem Iq{l:Int}{a:Nat}(h:¬l7 l a<0):l7 l a=l-a/\0<=l-a:=by
 unfold l7 at *
 split at h
 ·omega
 ·rename_i h';exact⟨if_neg h',by omega⟩
theorem EC{l:Int}{a:Nat}(h:l7 l a<0):l-a<0:=by
 unfold l7 at *
 split at h<;>omega
theorem Ir{l:Int}{a:Nat}(h:l-a<0):l7 l a= -1:=if_pos h
theorem Ro{l:Int}{a:Nat}(h:0<=l-a):l7 l a=l-a:=if_neg (by omega)
theorem int_eq{k:IntKind}{a b:Int}(h:a=b):V.c (.d (.i k a))=V.c (.d (.i k b)):=by rw[h]
theorem bL{a b:Bool}(h:a=b):V.c (.d (.b a))=V.c (.d (.b b)):=by rw[h]
noncomputable def dec(p:Prop):Bool:= @decide p (Classical.propDecidable p)
theorem dD{p:Prop}(h:p):dec p=true:=by simp[dec,h]
theorem bJ{p:Prop}(h:¬p):dec p=false:=by simp[dec,h]
theorem gD{p:Prop}(h:dec p=true):p:=by simpa [dec] using h
theorem j6{p:Prop}(h:dec p=false):¬p:=by simpa [dec] using h
theorem yO{p:Prop}:(dec p=true)=p:=by simp[dec]
theorem Rp{p:Prop}:(dec p=false)=¬p:=by simp[dec]
attribute [wf_preprocess] yO Rp
theorem gG{p q:Prop}(h:p<->q):dec p=dec q:=by rw[propext h]
theorem adJ:dec True=true:=dD trivial
theorem Ob:dec False=false:=bJ id
attribute [go_sem] adJ Ob
theorem nM{p:Prop}[Decidable p]:decide p=dec p:=by by_cases h:p<;>simp[dec,h]
theorem dO{r:List D}:∀{rs:List (List D)},r∈rs->bG r<=aQ rs
 |a::rs,h=>by
  rw[aQ];rcases List.mem_cons.1 h with rfl|h
  ·omega
  ·have:=dO h;omega
def Gq(z i:Nat)(R rows:List (List D)):Prop:=R.length=rows.length/\(∀r∈R,r.length=z)/\∀j,j<i->R[j]? =rows[j]?
theorem Gq.step{z i:Nat}{R rows:List (List D)}{row:List D}(h:Gq z i R rows)(hi:rows[i]? =some row)(hr:row.length=z):Gq z (i+1) (R.set i (qF (R.getD i []) 0 row)) rows:=by
 obtain⟨h1,h2,h3⟩:=h;have hlt:i<rows.length:=(List.getElem?_eq_some_iff.1 hi).1
 have hs:qF (R.getD i []) 0 row=row:=by
  have hm:R.getD i []∈R:=by
   rw[List.getD_eq_getElem?_getD,List.getElem?_eq_getElem (by omega)];exact List.getElem_mem _
  have:=h2 _ hm;unfold qF;rw[List.take_zero,List.nil_append,Nat.zero_add,hr,List.drop_eq_nil_of_le (by omega),List.append_nil]
 rw[hs];refine⟨by simpa using h1,fun r hr'=> ?_,fun j hj=> ?_⟩
 ·rcases List.mem_or_eq_of_mem_set hr' with h|h
  ·exact h2 r h
  ·rw[h];exact hr
 ·by_cases e:j=i
  ·subst e;rw[hi,List.getElem?_set_self (by omega)]
  ·rw[List.getElem?_set_ne (by omega)];exact h3 j (by omega)
theorem Gq.done{z i:Nat}{R rows:List (List D)}(h:Gq z i R rows)(hi:rows.length<=i):R=rows:=by
 obtain⟨h1,h2,h3⟩:=h;refine List.ext_getElem? fun j=> ?_;by_cases hj:j<i
 ·exact h3 j hj
 ·rw[List.getElem?_eq_none (by omega),List.getElem?_eq_none (by omega)]
def encS(s:List UInt8):List D:=[.s s]
def encI(n:Int):List D:=[.i .i64 n]
inductive ay where
 |mk (aV:Int) (fName:List UInt8) (fArgs:List ay)
def ay.aV:ay->Int| .mk x _ _=>x
def ay.fName:ay->List UInt8| .mk _ x _=>x
def ay.fArgs:ay->List ay| .mk _ _ x=>x
theorem ay.eta(x:ay):ay.mk x.aV x.fName x.fArgs=x:=by cases x;rfl
theorem ay.ext{x y:ay}(h0:x.aV=y.aV)(h1:x.fName=y.fName)(h2:x.fArgs=y.fArgs):x=y:=by
 rw[<-ay.eta x,<-ay.eta y,h0,h1,h2]
mutual
def ay.enc:ay->List D
 | .mk a0 a1 a2=>[.i .i64 a0,.s a1,.sl (ay.encs a2)]
def ay.encs:List ay->List (List D)
 |[]=>[]
 |x::xs=>x.enc::ay.encs xs
end
theorem ay.jJ:∀l,ay.encs l=l.map ay.enc
 |[]=>rfl
 |x::xs=>by rw[ay.encs,List.map_cons,ay.jJ xs]
theorem ay.aj(x:ay):x.enc=[.i .i64 x.aV,.s x.fName,.sl (x.fArgs.map ay.enc)]:=by
 cases x;simp only[ay.enc,ay.jJ,ay.aV,ay.fName,ay.fArgs]
abbrev ay.v(x:ay):V:=.agg [.d (.i .i64 x.aV),.d (.s x.fName),.d (.sl (x.fArgs.map ay.enc))]
theorem ay.uV(x:ay): .agg (x.enc.map .d)=x.v:=by
 simp only[ay.aj,List.map_cons,List.map_nil,List.cons_append,List.nil_append,List.map_append]
theorem ay.dx(x:ay):x.enc.length=3:=by
 simp only[ay.aj,List.length_append,List.length_cons,List.length_nil]
def ay.sz(x:ay):Nat:=bG x.enc
theorem ay.cK(x:ay):bG x.enc=x.sz:=rfl
theorem ay.j3(x:ay):SizeOf.sizeOf x.fArgs<SizeOf.sizeOf x:=by cases x;simp[ay.fArgs];omega
structure dY where
 fVar:List UInt8
 fType:ay
def dY.enc(x:dY):List D:=[.s x.fVar]++(x.fType.enc)
theorem dY.aj(x:dY):x.enc=[.s x.fVar]++(x.fType.enc):=rfl
theorem dY.eta(x:dY):dY.mk x.fVar x.fType=x:=rfl
theorem dY.ext'{x y:dY}(h0:x.fVar=y.fVar)(h1:x.fType=y.fType):x=y:=by
 cases x;cases y;simp_all
abbrev dY.v(x:dY):V:=.agg [.d (.s x.fVar),.d (.i .i64 x.fType.aV),.d (.s x.fType.fName),.d (.sl (x.fType.fArgs.map ay.enc))]
theorem dY.uV(x:dY): .agg (x.enc.map .d)=x.v:=by
 simp only[dY.aj,ay.aj,List.map_cons,List.map_nil,List.cons_append,List.nil_append,List.map_append]
theorem dY.dx(x:dY):x.enc.length=4:=by
 simp only[dY.aj,ay.dx,List.length_append,List.length_cons,List.length_nil]
def dY.sz(x:dY):Nat:=bG x.enc
theorem dY.cK(x:dY):bG x.enc=x.sz:=rfl
structure aS where
 bW:List UInt8
 fType:ay
def aS.enc(x:aS):List D:=[.s x.bW]++(x.fType.enc)
theorem aS.aj(x:aS):x.enc=[.s x.bW]++(x.fType.enc):=rfl
theorem aS.eta(x:aS):aS.mk x.bW x.fType=x:=rfl
theorem aS.ext'{x y:aS}(h0:x.bW=y.bW)(h1:x.fType=y.fType):x=y:=by
 cases x;cases y;simp_all
abbrev aS.v(x:aS):V:=.agg [.d (.s x.bW),.d (.i .i64 x.fType.aV),.d (.s x.fType.fName),.d (.sl (x.fType.fArgs.map ay.enc))]
theorem aS.uV(x:aS): .agg (x.enc.map .d)=x.v:=by
 simp only[aS.aj,ay.aj,List.map_cons,List.map_nil,List.cons_append,List.nil_append,List.map_append]
theorem aS.dx(x:aS):x.enc.length=4:=by
 simp only[aS.aj,ay.dx,List.length_append,List.length_cons,List.length_nil]
def aS.sz(x:aS):Nat:=bG x.enc
theorem aS.cK(x:aS):bG x.enc=x.sz:=rfl
mutual
inductive aD where
 |mk (aV:Int) (bW:List UInt8) (fName:List UInt8) (fN:Int) (fType:ay) (fArgs:List aD) (bP:List bE)
inductive bE where
 |mk (fP:List UInt8) (aU:List (List UInt8)) (fBody:aD)
end
def aD.aV:aD->Int| .mk x _ _ _ _ _ _=>x
def aD.bW:aD->List UInt8| .mk _ x _ _ _ _ _=>x
def aD.fName:aD->List UInt8| .mk _ _ x _ _ _ _=>x
def aD.fN:aD->Int| .mk _ _ _ x _ _ _=>x
def aD.fType:aD->ay| .mk _ _ _ _ x _ _=>x
def aD.fArgs:aD->List aD| .mk _ _ _ _ _ x _=>x
def aD.bP:aD->List bE| .mk _ _ _ _ _ _ x=>x
theorem aD.eta(x:aD):aD.mk x.aV x.bW x.fName x.fN x.fType x.fArgs x.bP=x:=by cases x;rfl
theorem aD.ext{x y:aD}(h0:x.aV=y.aV)(h1:x.bW=y.bW)(h2:x.fName=y.fName)(h3:x.fN=y.fN)(h4:x.fType=y.fType)(h5:x.fArgs=y.fArgs)(h6:x.bP=y.bP):x=y:=by
 rw[<-aD.eta x,<-aD.eta y,h0,h1,h2,h3,h4,h5,h6]
def bE.fP:bE->List UInt8| .mk x _ _=>x
def bE.aU:bE->List (List UInt8)| .mk _ x _=>x
def bE.fBody:bE->aD| .mk _ _ x=>x
theorem bE.eta(x:bE):bE.mk x.fP x.aU x.fBody=x:=by cases x;rfl
theorem bE.ext{x y:bE}(h0:x.fP=y.fP)(h1:x.aU=y.aU)(h2:x.fBody=y.fBody):x=y:=by
 rw[<-bE.eta x,<-bE.eta y,h0,h1,h2]
mutual
def aD.enc:aD->List D
 | .mk a0 a1 a2 a3 a4 a5 a6=>[.i .i64 a0,.s a1,.s a2,.i .i64 a3]++(a4.enc++([.sl (aD.encs a5),.sl (bE.encs a6)]))
def aD.encs:List aD->List (List D)
 |[]=>[]
 |x::xs=>x.enc::aD.encs xs
def bE.enc:bE->List D
 | .mk a0 a1 a2=>[.s a0,.sl (a1.map encS)]++(aD.enc a2)
def bE.encs:List bE->List (List D)
 |[]=>[]
 |x::xs=>x.enc::bE.encs xs
end
theorem aD.jJ:∀l,aD.encs l=l.map aD.enc
 |[]=>rfl
 |x::xs=>by rw[aD.encs,List.map_cons,aD.jJ xs]
theorem bE.jJ:∀l,bE.encs l=l.map bE.enc
 |[]=>rfl
 |x::xs=>by rw[bE.encs,List.map_cons,bE.jJ xs]
theorem aD.aj(x:aD):x.enc=[.i .i64 x.aV,.s x.bW,.s x.fName,.i .i64 x.fN]++(x.fType.enc++([.sl (x.fArgs.map aD.enc),.sl (x.bP.map bE.enc)])):=by
 cases x;simp only[aD.enc,aD.jJ,bE.jJ,aD.aV,aD.bW,aD.fName,aD.fN,aD.fType,aD.fArgs,aD.bP]
theorem bE.aj(x:bE):x.enc=[.s x.fP,.sl (x.aU.map encS)]++(x.fBody.enc):=by
 cases x;simp only[bE.enc,aD.jJ,bE.jJ,bE.fP,bE.aU,bE.fBody]
abbrev aD.v(x:aD):V:=.agg [.d (.i .i64 x.aV),.d (.s x.bW),.d (.s x.fName),.d (.i .i64 x.fN),.d (.i .i64 x.fType.aV),.d (.s x.fType.fName),.d (.sl (x.fType.fArgs.map ay.enc)),.d (.sl (x.fArgs.map aD.enc)),.d (.sl (x.bP.map bE.enc))]
theorem aD.uV(x:aD): .agg (x.enc.map .d)=x.v:=by
 simp only[aD.aj,ay.aj,List.map_cons,List.map_nil,List.cons_append,List.nil_append,List.map_append]
theorem aD.dx(x:aD):x.enc.length=9:=by
 simp only[aD.aj,ay.dx,List.length_append,List.length_cons,List.length_nil]
def aD.sz(x:aD):Nat:=bG x.enc
theorem aD.cK(x:aD):bG x.enc=x.sz:=rfl
theorem aD.j3(x:aD):SizeOf.sizeOf x.fArgs<SizeOf.sizeOf x:=by cases x;simp[aD.fArgs];omega
theorem aD.Dz(x:aD):SizeOf.sizeOf x.bP<SizeOf.sizeOf x:=by cases x;simp[aD.bP];omega
abbrev bE.v(x:bE):V:=.agg [.d (.s x.fP),.d (.sl (x.aU.map encS)),.d (.i .i64 x.fBody.aV),.d (.s x.fBody.bW),.d (.s x.fBody.fName),.d (.i .i64 x.fBody.fN),.d (.i .i64 x.fBody.fType.aV),.d (.s x.fBody.fType.fName),.d (.sl (x.fBody.fType.fArgs.map ay.enc)),.d (.sl (x.fBody.fArgs.map aD.enc)),.d (.sl (x.fBody.bP.map bE.enc))]
theorem bE.uV(x:bE): .agg (x.enc.map .d)=x.v:=by
 simp only[bE.aj,aD.aj,ay.aj,List.map_cons,List.map_nil,List.cons_append,List.nil_append,List.map_append]
theorem bE.dx(x:bE):x.enc.length=11:=by
 simp only[bE.aj,aD.dx,List.length_append,List.length_cons,List.length_nil]
def bE.sz(x:bE):Nat:=bG x.enc
theorem bE.cK(x:bE):bG x.enc=x.sz:=rfl
theorem bE.AA(x:bE):SizeOf.sizeOf x.fBody<SizeOf.sizeOf x:=by cases x;simp[bE.fBody];omega
inductive au where
 |mk (bH:List UInt8) (aA:List au)
def au.bH:au->List UInt8| .mk x _=>x
def au.aA:au->List au| .mk _ x=>x
theorem au.eta(x:au):au.mk x.bH x.aA=x:=by cases x;rfl
theorem au.ext{x y:au}(h0:x.bH=y.bH)(h1:x.aA=y.aA):x=y:=by
 rw[<-au.eta x,<-au.eta y,h0,h1]
mutual
def au.enc:au->List D
 | .mk a0 a1=>[.s a0,.sl (au.encs a1)]
def au.encs:List au->List (List D)
 |[]=>[]
 |x::xs=>x.enc::au.encs xs
end
theorem au.jJ:∀l,au.encs l=l.map au.enc
 |[]=>rfl
 |x::xs=>by rw[au.encs,List.map_cons,au.jJ xs]
theorem au.aj(x:au):x.enc=[.s x.bH,.sl (x.aA.map au.enc)]:=by
 cases x;simp only[au.enc,au.jJ,au.bH,au.aA]
abbrev au.v(x:au):V:=.agg [.d (.s x.bH),.d (.sl (x.aA.map au.enc))]
theorem au.uV(x:au): .agg (x.enc.map .d)=x.v:=by
 simp only[au.aj,List.map_cons,List.map_nil,List.cons_append,List.nil_append,List.map_append]
theorem au.dx(x:au):x.enc.length=2:=by
 simp only[au.aj,List.length_append,List.length_cons,List.length_nil]
def au.sz(x:au):Nat:=bG x.enc
theorem au.cK(x:au):bG x.enc=x.sz:=rfl
theorem au.DC(x:au):SizeOf.sizeOf x.aA<SizeOf.sizeOf x:=by cases x;simp[au.aA];omega
structure aI where
 fName:List UInt8
 bO:List ay
 dn:ay
 iC:Bool
 aU:List (List UInt8)
 fBody:aD
def aI.enc(x:aI):List D:=[.s x.fName,.sl (x.bO.map ay.enc)]++(x.dn.enc++([.b x.iC,.sl (x.aU.map encS)]++(x.fBody.enc)))
theorem aI.aj(x:aI):x.enc=[.s x.fName,.sl (x.bO.map ay.enc)]++(x.dn.enc++([.b x.iC,.sl (x.aU.map encS)]++(x.fBody.enc))):=rfl
theorem aI.eta(x:aI):aI.mk x.fName x.bO x.dn x.iC x.aU x.fBody=x:=rfl
theorem aI.ext'{x y:aI}(h0:x.fName=y.fName)(h1:x.bO=y.bO)(h2:x.dn=y.dn)(h3:x.iC=y.iC)(h4:x.aU=y.aU)(h5:x.fBody=y.fBody):x=y:=by
 cases x;cases y;simp_all
abbrev aI.v(x:aI):V:=.agg [.d (.s x.fName),.d (.sl (x.bO.map ay.enc)),.d (.i .i64 x.dn.aV),.d (.s x.dn.fName),.d (.sl (x.dn.fArgs.map ay.enc)),.d (.b x.iC),.d (.sl (x.aU.map encS)),.d (.i .i64 x.fBody.aV),.d (.s x.fBody.bW),.d (.s x.fBody.fName),.d (.i .i64 x.fBody.fN),.d (.i .i64 x.fBody.fType.aV),.d (.s x.fBody.fType.fName),.d (.sl (x.fBody.fType.fArgs.map ay.enc)),.d (.sl (x.fBody.fArgs.map aD.enc)),.d (.sl (x.fBody.bP.map bE.enc))]
theorem aI.uV(x:aI): .agg (x.enc.map .d)=x.v:=by
 simp only[aI.aj,aD.aj,ay.aj,List.map_cons,List.map_nil,List.cons_append,List.nil_append,List.map_append]
theorem aI.dx(x:aI):x.enc.length=16:=by
 simp only[aI.aj,aD.dx,ay.dx,List.length_append,List.length_cons,List.length_nil]
def aI.sz(x:aI):Nat:=bG x.enc
theorem aI.cK(x:aI):bG x.enc=x.sz:=rfl
structure bD where
 fName:List UInt8
 dG:List (List UInt8)
 nN:Bool
 bX:Bool
 aO:List aI
def bD.enc(x:bD):List D:=[.s x.fName,.sl (x.dG.map encS),.b x.nN,.b x.bX,.sl (x.aO.map aI.enc)]
theorem bD.aj(x:bD):x.enc=[.s x.fName,.sl (x.dG.map encS),.b x.nN,.b x.bX,.sl (x.aO.map aI.enc)]:=rfl
theorem bD.eta(x:bD):bD.mk x.fName x.dG x.nN x.bX x.aO=x:=rfl
theorem bD.ext'{x y:bD}(h0:x.fName=y.fName)(h1:x.dG=y.dG)(h2:x.nN=y.nN)(h3:x.bX=y.bX)(h4:x.aO=y.aO):x=y:=by
 cases x;cases y;simp_all
abbrev bD.v(x:bD):V:=.agg [.d (.s x.fName),.d (.sl (x.dG.map encS)),.d (.b x.nN),.d (.b x.bX),.d (.sl (x.aO.map aI.enc))]
theorem bD.uV(x:bD): .agg (x.enc.map .d)=x.v:=by
 simp only[bD.aj,List.map_cons,List.map_nil,List.cons_append,List.nil_append,List.map_append]
theorem bD.dx(x:bD):x.enc.length=5:=by
 simp only[bD.aj,List.length_append,List.length_cons,List.length_nil]
def bD.sz(x:bD):Nat:=bG x.enc
theorem bD.cK(x:bD):bG x.enc=x.sz:=rfl
structure aN where
 fName:List UInt8
 iB:List ay
def aN.enc(x:aN):List D:=[.s x.fName,.sl (x.iB.map ay.enc)]
theorem aN.aj(x:aN):x.enc=[.s x.fName,.sl (x.iB.map ay.enc)]:=rfl
theorem aN.eta(x:aN):aN.mk x.fName x.iB=x:=rfl
theorem aN.ext'{x y:aN}(h0:x.fName=y.fName)(h1:x.iB=y.iB):x=y:=by
 cases x;cases y;simp_all
abbrev aN.v(x:aN):V:=.agg [.d (.s x.fName),.d (.sl (x.iB.map ay.enc))]
theorem aN.uV(x:aN): .agg (x.enc.map .d)=x.v:=by
 simp only[aN.aj,List.map_cons,List.map_nil,List.cons_append,List.nil_append,List.map_append]
theorem aN.dx(x:aN):x.enc.length=2:=by
 simp only[aN.aj,List.length_append,List.length_cons,List.length_nil]
def aN.sz(x:aN):Nat:=bG x.enc
theorem aN.cK(x:aN):bG x.enc=x.sz:=rfl
structure bg where
 fName:List UInt8
 aU:List (List UInt8)
 aZ:List aN
def bg.enc(x:bg):List D:=[.s x.fName,.sl (x.aU.map encS),.sl (x.aZ.map aN.enc)]
theorem bg.aj(x:bg):x.enc=[.s x.fName,.sl (x.aU.map encS),.sl (x.aZ.map aN.enc)]:=rfl
theorem bg.eta(x:bg):bg.mk x.fName x.aU x.aZ=x:=rfl
theorem bg.ext'{x y:bg}(h0:x.fName=y.fName)(h1:x.aU=y.aU)(h2:x.aZ=y.aZ):x=y:=by
 cases x;cases y;simp_all
abbrev bg.v(x:bg):V:=.agg [.d (.s x.fName),.d (.sl (x.aU.map encS)),.d (.sl (x.aZ.map aN.enc))]
theorem bg.uV(x:bg): .agg (x.enc.map .d)=x.v:=by
 simp only[bg.aj,List.map_cons,List.map_nil,List.cons_append,List.nil_append,List.map_append]
theorem bg.dx(x:bg):x.enc.length=3:=by
 simp only[bg.aj,List.length_append,List.length_cons,List.length_nil]
def bg.sz(x:bg):Nat:=bG x.enc
theorem bg.cK(x:bg):bG x.enc=x.sz:=rfl
structure aR where
 fName:List UInt8
 aU:List (List UInt8)
 fBody:aD
def aR.enc(x:aR):List D:=[.s x.fName,.sl (x.aU.map encS)]++(x.fBody.enc)
theorem aR.aj(x:aR):x.enc=[.s x.fName,.sl (x.aU.map encS)]++(x.fBody.enc):=rfl
theorem aR.eta(x:aR):aR.mk x.fName x.aU x.fBody=x:=rfl
theorem aR.ext'{x y:aR}(h0:x.fName=y.fName)(h1:x.aU=y.aU)(h2:x.fBody=y.fBody):x=y:=by
 cases x;cases y;simp_all
abbrev aR.v(x:aR):V:=.agg [.d (.s x.fName),.d (.sl (x.aU.map encS)),.d (.i .i64 x.fBody.aV),.d (.s x.fBody.bW),.d (.s x.fBody.fName),.d (.i .i64 x.fBody.fN),.d (.i .i64 x.fBody.fType.aV),.d (.s x.fBody.fType.fName),.d (.sl (x.fBody.fType.fArgs.map ay.enc)),.d (.sl (x.fBody.fArgs.map aD.enc)),.d (.sl (x.fBody.bP.map bE.enc))]
theorem aR.uV(x:aR): .agg (x.enc.map .d)=x.v:=by
 simp only[aR.aj,aD.aj,ay.aj,List.map_cons,List.map_nil,List.cons_append,List.nil_append,List.map_append]
theorem aR.dx(x:aR):x.enc.length=11:=by
 simp only[aR.aj,aD.dx,List.length_append,List.length_cons,List.length_nil]
def aR.sz(x:aR):Nat:=bG x.enc
theorem aR.cK(x:aR):bG x.enc=x.sz:=rfl
structure aJ where
 bW:List UInt8
 aU:List (List UInt8)
 dI:ay
 dV:List aS
 iP:Bool
 fI:Bool
 bX:ay
 bA:List aR
def aJ.enc(x:aJ):List D:=[.s x.bW,.sl (x.aU.map encS)]++(x.dI.enc++([.sl (x.dV.map aS.enc),.b x.iP,.b x.fI]++(x.bX.enc++([.sl (x.bA.map aR.enc)]))))
theorem aJ.aj(x:aJ):x.enc=[.s x.bW,.sl (x.aU.map encS)]++(x.dI.enc++([.sl (x.dV.map aS.enc),.b x.iP,.b x.fI]++(x.bX.enc++([.sl (x.bA.map aR.enc)])))):=rfl
theorem aJ.eta(x:aJ):aJ.mk x.bW x.aU x.dI x.dV x.iP x.fI x.bX x.bA=x:=rfl
theorem aJ.ext'{x y:aJ}(h0:x.bW=y.bW)(h1:x.aU=y.aU)(h2:x.dI=y.dI)(h3:x.dV=y.dV)(h4:x.iP=y.iP)(h5:x.fI=y.fI)(h6:x.bX=y.bX)(h7:x.bA=y.bA):x=y:=by
 cases x;cases y;simp_all
abbrev aJ.v(x:aJ):V:=.agg [.d (.s x.bW),.d (.sl (x.aU.map encS)),.d (.i .i64 x.dI.aV),.d (.s x.dI.fName),.d (.sl (x.dI.fArgs.map ay.enc)),.d (.sl (x.dV.map aS.enc)),.d (.b x.iP),.d (.b x.fI),.d (.i .i64 x.bX.aV),.d (.s x.bX.fName),.d (.sl (x.bX.fArgs.map ay.enc)),.d (.sl (x.bA.map aR.enc))]
theorem aJ.uV(x:aJ): .agg (x.enc.map .d)=x.v:=by
 simp only[aJ.aj,ay.aj,List.map_cons,List.map_nil,List.cons_append,List.nil_append,List.map_append]
theorem aJ.dx(x:aJ):x.enc.length=12:=by
 simp only[aJ.aj,ay.dx,List.length_append,List.length_cons,List.length_nil]
def aJ.sz(x:aJ):Nat:=bG x.enc
theorem aJ.cK(x:aJ):bG x.enc=x.sz:=rfl
structure dA where
 fName:List UInt8
 fType:ay
def dA.enc(x:dA):List D:=[.s x.fName]++(x.fType.enc)
theorem dA.aj(x:dA):x.enc=[.s x.fName]++(x.fType.enc):=rfl
theorem dA.eta(x:dA):dA.mk x.fName x.fType=x:=rfl
theorem dA.ext'{x y:dA}(h0:x.fName=y.fName)(h1:x.fType=y.fType):x=y:=by
 cases x;cases y;simp_all
abbrev dA.v(x:dA):V:=.agg [.d (.s x.fName),.d (.i .i64 x.fType.aV),.d (.s x.fType.fName),.d (.sl (x.fType.fArgs.map ay.enc))]
theorem dA.uV(x:dA): .agg (x.enc.map .d)=x.v:=by
 simp only[dA.aj,ay.aj,List.map_cons,List.map_nil,List.cons_append,List.nil_append,List.map_append]
theorem dA.dx(x:dA):x.enc.length=4:=by
 simp only[dA.aj,ay.dx,List.length_append,List.length_cons,List.length_nil]
def dA.sz(x:dA):Nat:=bG x.enc
theorem dA.cK(x:dA):bG x.enc=x.sz:=rfl
structure bF where
 fName:List UInt8
 aU:List (List UInt8)
 dV:List aS
 bO:List dA
 dn:ay
 fBody:aD
def bF.enc(x:bF):List D:=[.s x.fName,.sl (x.aU.map encS),.sl (x.dV.map aS.enc),.sl (x.bO.map dA.enc)]++(x.dn.enc++(x.fBody.enc))
theorem bF.aj(x:bF):x.enc=[.s x.fName,.sl (x.aU.map encS),.sl (x.dV.map aS.enc),.sl (x.bO.map dA.enc)]++(x.dn.enc++(x.fBody.enc)):=rfl
theorem bF.eta(x:bF):bF.mk x.fName x.aU x.dV x.bO x.dn x.fBody=x:=rfl
theorem bF.ext'{x y:bF}(h0:x.fName=y.fName)(h1:x.aU=y.aU)(h2:x.dV=y.dV)(h3:x.bO=y.bO)(h4:x.dn=y.dn)(h5:x.fBody=y.fBody):x=y:=by
 cases x;cases y;simp_all
abbrev bF.v(x:bF):V:=.agg [.d (.s x.fName),.d (.sl (x.aU.map encS)),.d (.sl (x.dV.map aS.enc)),.d (.sl (x.bO.map dA.enc)),.d (.i .i64 x.dn.aV),.d (.s x.dn.fName),.d (.sl (x.dn.fArgs.map ay.enc)),.d (.i .i64 x.fBody.aV),.d (.s x.fBody.bW),.d (.s x.fBody.fName),.d (.i .i64 x.fBody.fN),.d (.i .i64 x.fBody.fType.aV),.d (.s x.fBody.fType.fName),.d (.sl (x.fBody.fType.fArgs.map ay.enc)),.d (.sl (x.fBody.fArgs.map aD.enc)),.d (.sl (x.fBody.bP.map bE.enc))]
theorem bF.uV(x:bF): .agg (x.enc.map .d)=x.v:=by
 simp only[bF.aj,aD.aj,ay.aj,List.map_cons,List.map_nil,List.cons_append,List.nil_append,List.map_append]
theorem bF.dx(x:bF):x.enc.length=16:=by
 simp only[bF.aj,aD.dx,ay.dx,List.length_append,List.length_cons,List.length_nil]
def bF.sz(x:bF):Nat:=bG x.enc
theorem bF.cK(x:bF):bG x.enc=x.sz:=rfl
structure aK where
 fName:List UInt8
 dP:List (List UInt8)
 dJ:List bD
 bI:List bg
 dX:List aJ
 dK:List bF
def aK.enc(x:aK):List D:=[.s x.fName,.sl (x.dP.map encS),.sl (x.dJ.map bD.enc),.sl (x.bI.map bg.enc),.sl (x.dX.map aJ.enc),.sl (x.dK.map bF.enc)]
theorem aK.aj(x:aK):x.enc=[.s x.fName,.sl (x.dP.map encS),.sl (x.dJ.map bD.enc),.sl (x.bI.map bg.enc),.sl (x.dX.map aJ.enc),.sl (x.dK.map bF.enc)]:=rfl
theorem aK.eta(x:aK):aK.mk x.fName x.dP x.dJ x.bI x.dX x.dK=x:=rfl
theorem aK.ext'{x y:aK}(h0:x.fName=y.fName)(h1:x.dP=y.dP)(h2:x.dJ=y.dJ)(h3:x.bI=y.bI)(h4:x.dX=y.dX)(h5:x.dK=y.dK):x=y:=by
 cases x;cases y;simp_all
abbrev aK.v(x:aK):V:=.agg [.d (.s x.fName),.d (.sl (x.dP.map encS)),.d (.sl (x.dJ.map bD.enc)),.d (.sl (x.bI.map bg.enc)),.d (.sl (x.dX.map aJ.enc)),.d (.sl (x.dK.map bF.enc))]
theorem aK.uV(x:aK): .agg (x.enc.map .d)=x.v:=by
 simp only[aK.aj,List.map_cons,List.map_nil,List.cons_append,List.nil_append,List.map_append]
theorem aK.dx(x:aK):x.enc.length=6:=by
 simp only[aK.aj,List.length_append,List.length_cons,List.length_nil]
def aK.sz(x:aK):Nat:=bG x.enc
theorem aK.cK(x:aK):bG x.enc=x.sz:=rfl
structure aM where
 aG:List aK
def aM.enc(x:aM):List D:=[.sl (x.aG.map aK.enc)]
theorem aM.aj(x:aM):x.enc=[.sl (x.aG.map aK.enc)]:=rfl
theorem aM.eta(x:aM):aM.mk x.aG=x:=rfl
theorem aM.ext'{x y:aM}(h0:x.aG=y.aG):x=y:=by
 cases x;cases y;simp_all
abbrev aM.v(x:aM):V:=.agg [.d (.sl (x.aG.map aK.enc))]
theorem aM.uV(x:aM): .agg (x.enc.map .d)=x.v:=by
 simp only[aM.aj,List.map_cons,List.map_nil,List.cons_append,List.nil_append,List.map_append]
theorem aM.dx(x:aM):x.enc.length=1:=by
 simp only[aM.aj,List.length_append,List.length_cons,List.length_nil]
def aM.sz(x:aM):Nat:=bG x.enc
theorem aM.cK(x:aM):bG x.enc=x.sz:=rfl
structure dW where
 yg:Int
 Vl:Int
def dW.enc(x:dW):List D:=[.i .i64 x.yg,.i .i64 x.Vl]
theorem dW.aj(x:dW):x.enc=[.i .i64 x.yg,.i .i64 x.Vl]:=rfl
theorem dW.eta(x:dW):dW.mk x.yg x.Vl=x:=rfl
theorem dW.ext'{x y:dW}(h0:x.yg=y.yg)(h1:x.Vl=y.Vl):x=y:=by
 cases x;cases y;simp_all
abbrev dW.v(x:dW):V:=.agg [.d (.i .i64 x.yg),.d (.i .i64 x.Vl)]
theorem dW.uV(x:dW): .agg (x.enc.map .d)=x.v:=by
 simp only[dW.aj,List.map_cons,List.map_nil,List.cons_append,List.nil_append,List.map_append]
theorem dW.dx(x:dW):x.enc.length=2:=by
 simp only[dW.aj,List.length_append,List.length_cons,List.length_nil]
def dW.sz(x:dW):Nat:=bG x.enc
theorem dW.cK(x:dW):bG x.enc=x.sz:=rfl
attribute [go_sem] ay.aj dY.aj aS.aj aD.aj bE.aj au.aj aI.aj bD.aj aN.aj bg.aj aR.aj aJ.aj dA.aj bF.aj aK.aj aM.aj dW.aj encS encI
def Vm:List dY->List UInt8->Option ay
 |[],_=>none
 |b::bs,v=>if b.fVar=v then some b.fType else Vm bs v
mutual
noncomputable def Bn(s:List dY):ay->ay->Option (List dY)
 | .mk k n a,t=>
   if k=1 then
    match Vm s n with
    |some u=>if dec (u=t)=true then some s else none
    |none=>some (s++[⟨n,t⟩])
   else if k=t.aV/\n=t.fName/\a.length=t.fArgs.length then u7 s a t.fArgs else none
noncomputable def u7(s:List dY):List ay->List ay->Option (List dY)
 |[],_=>some s
 |_::_,[]=>none
 |p::ps,t::ts=>
  match Bn s p t with
  |some s'=>u7 s' ps ts
  |none=>none
end
mutual
def ay.cnt:ay->Nat
 | .mk _ _ a=>1+ay.fB a
def ay.fB:List ay->Nat
 |[]=>0
 |t::ts=>t.cnt+ay.fB ts
end
theorem ay.zi(t:ay):t.cnt=1+ay.fB t.fArgs:=by cases t;rw[ay.cnt];rfl
mutual
theorem pR:∀t:ay,t.cnt<=1+t.sz
 | .mk k n a=>by
   have h:=vW a;rw[ay.cnt]
   have e:(ay.mk k n a).sz=n.length+(a.length+aQ (a.map ay.enc)):=by
    simp only[ay.sz,ay.aj,bG,D.sz,List.length_map,ay.fName,ay.fArgs,Nat.add_zero,Nat.zero_add]
   omega
theorem vW:∀ts:List ay,ay.fB ts<=ts.length+aQ (ts.map ay.enc)
 |[]=>by simp[ay.fB]
 |t::ts=>by
  have h1:=pR t;have h2:=vW ts;rw[ay.fB,List.length_cons,List.map_cons,aQ,ay.cK];omega
end
mutual
theorem XA:∀(p:ay)(s:List dY)(t:ay)(s':List dY),Bn s p t=some s'->s'.length<=s.length+p.cnt
 | .mk k n a,s,t,s',h=>by
   rw[Bn] at h;rw[ay.cnt];split at h
   ·split at h
    ·split at h
     ·cases h;omega
     ·cases h
    ·cases h;simp
   ·split at h
    ·have:=K7 a s t.fArgs s' h;omega
    ·cases h
theorem K7:∀(ps:List ay)(s:List dY)(ts:List ay)(s':List dY),u7 s ps ts=some s'->s'.length<=s.length+ay.fB ps
 |[],s,ts,s',h=>by rw[u7] at h;cases h;omega
 |p::ps,s,[],s',h=>by rw[u7] at h;cases h
 |p::ps,s,t::ts,s',h=>by
  rw[u7] at h;rw[ay.fB]
  cases hm:Bn s p t with
  |none=>rw[hm] at h;cases h
  |some s1=>
   rw[hm] at h;have h1:=XA p s t s1 hm;have h2:=K7 ps s1 ts s' h;omega
end
def Small(s:List dY):Prop:=∀b∈s,b.fType.sz<=4194304
mutual
theorem Rq:∀(p:ay)(s:List dY)(t:ay)(s':List dY),t.sz<=4194304->Small s->Bn s p t=some s'->Small s'
 | .mk k n a,s,t,s',ht,hs,h=>by
   rw[Bn] at h;split at h
   ·split at h
    ·split at h
     ·cases h;exact hs
     ·cases h
    ·cases h;intro b hb;rcases List.mem_append.1 hb with hb|hb
     ·exact hs b hb
     ·simp at hb;subst hb;exact ht
   ·split at h
    ·refine Gs a s t.fArgs s' ?_ hs h;intro x hx;have h1:=dO (List.mem_map_of_mem (f:=ay.enc) hx)
     have h2:t.sz=t.fName.length+(t.fArgs.length+aQ (t.fArgs.map ay.enc)):=by
      simp only[ay.sz,ay.aj,bG,bC,D.sz,List.length_map,Nat.add_zero,Nat.zero_add]
     rw[ay.cK] at h1;omega
    ·cases h
theorem Gs:∀(ps:List ay)(s:List dY)(ts:List ay)(s':List dY),(∀t∈ts,t.sz<=4194304)->Small s->u7 s ps ts=some s'->Small s'
 |[],s,ts,s',ht,hs,h=>by rw[u7] at h;cases h;exact hs
 |p::ps,s,[],s',ht,hs,h=>by rw[u7] at h;cases h
 |p::ps,s,t::ts,s',ht,hs,h=>by
  rw[u7] at h
  cases hm:Bn s p t with
  |none=>rw[hm] at h;cases h
  |some s1=>
   rw[hm] at h;exact Gs ps s1 ts s' (fun x hx=>ht x (by simp[hx])) (Rq p s t s1 (ht t (by simp)) hs hm) h
end
end Go.Ab
namespace Go.Proofs.YtfhpfkaeldgcmaaGreat.Fa
open Go Go.Ab
abbrev fD(t c b:Nat)(z:List C):Prop:=prog.cellsOf t=c/\prog.bytesOf t=b/\(prog.info? t).isSome=true/\iK prog t=some z
theorem fH{t c b:Nat}{z:List C}(h1:prog.cellsOf t=c:=by kernel_rfl)(h2:prog.bytesOf t=b:=by kernel_rfl)(h3:(prog.info? t).isSome=true:=by kernel_rfl)(h4:iK prog t=some z:=by kernel_rfl):fD t c b z:=⟨h1,h2,h3,h4⟩
theorem ty1:fD 1 1 8 [.d (.o .nilFunc)]:=fH
theorem ty2:fD 2 1 8 [.d (.i .i64 0)]:=fH
theorem ty3:fD 3 1 8 [.d (.i .i64 0)]:=fH
theorem ty4:fD 4 1 1 [.d (.b false)]:=fH
theorem akp:zeroV prog 4=some (.bool false):=by kernel_rfl
theorem ty5:fD 5 1 1 [.d (.i .u8 0)]:=fH
theorem ty9:fD 9 1 16 [.d (.s [])]:=fH
theorem alP:fD 12 1 8 [.d (.i .u64 0)]:=fH
theorem alQ:fD 20 1 16 [.d (.o .nilIface)]:=fH
theorem alR:fD 21 1 4 [.d (.i .i32 0)]:=fH
theorem alS:fD 22 1 24 [.bM []]:=fH
theorem alT:fD 23 1 8 [.d (.o .nilFunc)]:=fH
theorem alU:fD 24 1 24 [.bM []]:=fH
theorem alV:fD 25 1 24 [.bM []]:=fH
theorem alW:fD 26 1 24 [.bM []]:=fH
theorem alX:fD 29 1 24 [.bM []]:=fH
theorem alY:fD 34 1 8 [.d (.o .nilFunc)]:=fH
theorem alZ:fD 35 1 24 [.bM []]:=fH
theorem al0:fD 36 1 8 [.d (.o .nilFunc)]:=fH
theorem al1:fD 37 1 8 [.d (.o .nilFunc)]:=fH
theorem al2:fD 38 1 24 [.bM []]:=fH
theorem al3:fD 39 1 24 [.bM []]:=fH
theorem al4:fD 41 3 48 [.d (.i .i64 0),.d (.s []),.bM []]:=fH
theorem al5:fD 42 1 24 [.bM []]:=fH
theorem al6:fD 43 1 24 [.bM []]:=fH
theorem al7:fD 44 12 192 [.d (.s []),.bM [],.d (.i .i64 0),.d (.s []),.bM [],.bM [],.d (.b false),.d (.b false),.d (.i .i64 0),.d (.s []),.bM [],.bM []]:=fH
theorem al8:fD 45 12 192 [.d (.s []),.bM [],.d (.i .i64 0),.d (.s []),.bM [],.bM [],.d (.b false),.d (.b false),.d (.i .i64 0),.d (.s []),.bM [],.bM []]:=fH
theorem al9:fD 48 2 16 [.d (.i .i64 0),.d (.i .i64 0)]:=fH
theorem ama:fD 49 2 16 [.d (.i .i64 0),.d (.i .i64 0)]:=fH
theorem amb:fD 51 1 8 [.d (.o .nilFunc)]:=fH
theorem amc:fD 52 1 24 [.bM []]:=fH
theorem amd:fD 53 5 72 [.d (.s []),.bM [],.d (.b false),.d (.b false),.bM []]:=fH
theorem ame:fD 54 5 72 [.d (.s []),.bM [],.d (.b false),.d (.b false),.bM []]:=fH
theorem amf:fD 56 1 8 [.d (.o .nilFunc)]:=fH
theorem amg:fD 57 1 24 [.bM []]:=fH
theorem amh:fD 58 3 64 [.d (.s []),.bM [],.bM []]:=fH
theorem ami:fD 59 3 64 [.d (.s []),.bM [],.bM []]:=fH
theorem amj:fD 63 2 40 [.d (.s []),.bM []]:=fH
theorem amk:fD 65 1 8 [.d (.o .nilFunc)]:=fH
theorem aml:fD 66 1 8 [.d (.o .nilFunc)]:=fH
theorem amm:fD 67 1 8 [.d (.o (.pointer none))]:=fH
theorem amn:fD 68 1 8 [.d (.o .nilFunc)]:=fH
theorem amo:fD 69 1 8 [.d (.o .nilFunc)]:=fH
theorem amq:fD 70 1 8 [.d (.o .nilFunc)]:=fH
theorem amr:fD 71 1 24 [.bM []]:=fH
theorem ams:fD 72 1 24 [.bM []]:=fH
theorem amt:fD 73 1 24 [.bM []]:=fH
theorem amu:fD 74 1 24 [.bM []]:=fH
theorem amv:fD 75 1 24 [.bM []]:=fH
theorem amw:fD 77 6 136 [.d (.s []),.bM [],.bM [],.bM [],.bM [],.bM []]:=fH
theorem amx:fD 80 1 24 [.bM []]:=fH
theorem amy:fD 82 1 8 [.d (.o .nilFunc)]:=fH
theorem amz:fD 83 1 8 [.d (.o .nilFunc)]:=fH
theorem amA:fD 84 1 8 [.d (.o .nilFunc)]:=fH
theorem amB:fD 91 1 8 [.d (.o .nilFunc)]:=fH
theorem amC:fD 92 1 8 [.d (.o .nilFunc)]:=fH
theorem amD:fD 95 1 8 [.d (.o .nilFunc)]:=fH
theorem amE:fD 96 2 48 [.bM [],.bM []]:=fH
theorem amF:fD 97 2 48 [.bM [],.bM []]:=fH
theorem akq:fD 101 3 40 [.bM [],.d (.i .i64 0),.d (.i .i64 0)]:=fH
theorem akr:fD 106 1 8 [.d (.o .nilFunc)]:=fH
theorem aks:fD 111 1 24 [.bM []]:=fH
theorem akt:fD 112 1 24 [.bM []]:=fH
theorem aku:fD 113 1 24 [.bM []]:=fH
theorem akv:fD 115 9 144 [.d (.i .i64 0),.d (.s []),.d (.s []),.d (.i .i64 0),.d (.i .i64 0),.d (.s []),.bM [],.bM [],.bM []]:=fH
theorem akw:fD 117 16 280 [.d (.s []),.bM [],.bM [],.bM [],.d (.i .i64 0),.d (.s []),.bM [],.d (.i .i64 0),.d (.s []),.d (.s []),.d (.i .i64 0),.d (.i .i64 0),.d (.s []),.bM [],.bM [],.bM []]:=fH
theorem akx:fD 121 1 8 [.d (.o (.map none))]:=fH
theorem aky:fD 128 11 184 [.d (.s []),.bM [],.d (.i .i64 0),.d (.s []),.d (.s []),.d (.i .i64 0),.d (.i .i64 0),.d (.s []),.bM [],.bM [],.bM []]:=fH
theorem akz:fD 131 16 264 [.d (.s []),.bM [],.d (.i .i64 0),.d (.s []),.bM [],.d (.b false),.bM [],.d (.i .i64 0),.d (.s []),.d (.s []),.d (.i .i64 0),.d (.i .i64 0),.d (.s []),.bM [],.bM [],.bM []]:=fH
theorem akA:fD 134 4 96 [.bM [],.bM [],.bM [],.bM []]:=fH
theorem akB:fD 151 1 8 [.d (.o .nilFunc)]:=fH
theorem akC:fD 154 1 8 [.d (.o .nilFunc)]:=fH
theorem akD:fD 164 4 64 [.d (.s []),.d (.i .i64 0),.d (.s []),.bM []]:=fH
theorem akE:fD 167 11 184 [.d (.s []),.bM [],.d (.i .i64 0),.d (.s []),.d (.s []),.d (.i .i64 0),.d (.i .i64 0),.d (.s []),.bM [],.bM [],.bM []]:=fH
theorem akF:fD 179 4 64 [.d (.s []),.d (.i .i64 0),.d (.s []),.bM []]:=fH
theorem akG:fD 180 1 8 [.d (.o .nilFunc)]:=fH
theorem akH:fD 183 1 8 [.d (.o .nilFunc)]:=fH
theorem akI:fD 186 1 8 [.d (.o .nilFunc)]:=fH
theorem akJ:fD 194 1 8 [.d (.o .nilFunc)]:=fH
theorem akK:fD 200 1 24 [.bM []]:=fH
theorem akL:fD 202 2 40 [.d (.s []),.bM []]:=fH
theorem akM:fD 207 1 8 [.d (.o .nilFunc)]:=fH
theorem akN:fD 210 1 8 [.d (.o .nilFunc)]:=fH
theorem akO:fD 213 1 8 [.d (.o .nilFunc)]:=fH
theorem akP:fD 219 1 8 [.d (.o (.pointer none))]:=fH
theorem akQ:fD 221 5 48 [.d (.s []),.d (.i .i64 0),.d (.i .i64 0),.d (.i .i64 0),.d (.b false)]:=fH
theorem akR:fD 229 1 8 [.d (.o (.pointer none))]:=fH
theorem akS:fD 236 1 24 [.bM []]:=fH
theorem laidOut:laidOutB prog=true:=by kernel_rfl
theorem own:ownKnob prog.godebug=none:=by kernel_rfl
attribute [go_sem] ty1 underlying1 ty2 underlying2 ty3 underlying3 ty4 underlying4 akp ty5 underlying5 ty9 underlying9 alP underlying12 alQ underlying20 alR underlying21 alS underlying22 alT underlying23 alU underlying24 alV underlying25 alW underlying26 alX underlying29 alY underlying34 alZ underlying35 al0 underlying36 al1 underlying37 al2 underlying38 al3 underlying39 al4 underlying41 al5 underlying42 al6 underlying43 al7 underlying44 al8 underlying45 al9 underlying48 ama underlying49 amb underlying51 amc underlying52 amd underlying53 ame underlying54 amf underlying56 amg underlying57 amh underlying58 ami underlying59 amj underlying63 amk underlying65 aml underlying66 amm underlying67 amn underlying68 amo underlying69 amq underlying70 amr underlying71 ams underlying72 amt underlying73 amu underlying74 amv underlying75 amw underlying77 amx underlying80 amy underlying82 amz underlying83 amA underlying84 amB underlying91 amC underlying92 amD underlying95 amE underlying96 amF underlying97 akq underlying101 akr underlying106 aks underlying111 akt underlying112 aku underlying113 akv underlying115 akw underlying117 akx underlying121 aky underlying128 akz underlying131 akA underlying134 akB underlying151 akC underlying154 akD underlying164 akE underlying167 akF underlying179 akG underlying180 akH underlying183 akI underlying186 akJ underlying194 akK underlying200 akL underlying202 akM underlying207 akN underlying210 akO underlying213 akP underlying219 akQ underlying221 akR underlying229 akS underlying236
end Go.Proofs.YtfhpfkaeldgcmaaGreat.Fa
namespace Go.Ab
mutual
def aD.cnt:aD->Nat
 | .mk _ _ _ _ _ a b=>1+(aD.fB a+bE.fB b)
def aD.fB:List aD->Nat
 |[]=>0
 |x::xs=>x.cnt+aD.fB xs
def bE.cnt:bE->Nat
 | .mk _ _ b=>b.cnt
def bE.fB:List bE->Nat
 |[]=>0
 |x::xs=>x.cnt+bE.fB xs
end
theorem aD.zi(x:aD):x.cnt=1+(aD.fB x.fArgs+bE.fB x.bP):=by cases x;rw[aD.cnt];rfl
theorem bE.zi(x:bE):x.cnt=x.fBody.cnt:=by cases x;rw[bE.cnt];rfl
theorem aD.qY{xs:List aD}{i:Nat}(hi:i<xs.length):aD.fB (xs.drop i)=xs[i].cnt+aD.fB (xs.drop (i+1)):=by rw[List.drop_eq_getElem_cons hi,aD.fB]
theorem bE.qY{xs:List bE}{i:Nat}(hi:i<xs.length):bE.fB (xs.drop i)=xs[i].fBody.cnt+bE.fB (xs.drop (i+1)):=by rw[List.drop_eq_getElem_cons hi,bE.fB,bE.zi]
theorem aD.JN(x:aD):x.fArgs.length+aQ (x.fArgs.map aD.enc)<=x.sz/\x.bP.length+aQ (x.bP.map bE.enc)<=x.sz:=by
 simp only[aD.sz,aD.aj,bG,bC,D.sz,List.length_map];omega
theorem bE.Vn(x:bE):x.fBody.sz<=x.sz:=by
 simp only[bE.sz,bE.aj,aD.sz,bG,bC,D.sz,List.length_map];omega
mutual
theorem aD.pR:∀x:aD,x.cnt<=1+x.sz
 | .mk k t n m ty a b=>by
   have h1:=aD.vW a;have h2:=bE.vW b;rw[aD.cnt];simp only[aD.sz,aD.aj,bG,bC,D.sz,List.length_map,aD.fArgs,aD.bP];omega
theorem aD.vW:∀xs:List aD,aD.fB xs<=xs.length+aQ (xs.map aD.enc)
 |[]=>by simp[aD.fB]
 |x::xs=>by
  have h1:=aD.pR x;have h2:=aD.vW xs;rw[aD.fB,List.length_cons,List.map_cons,aQ,aD.cK];omega
theorem bE.pR:∀x:bE,x.cnt<=1+x.sz
 | .mk c v b=>by
   have h1:=aD.pR b;have h2:=bE.Vn (.mk c v b);rw[bE.cnt];simp only[bE.fBody] at h2;omega
theorem bE.vW:∀xs:List bE,bE.fB xs<=xs.length+aQ (xs.map bE.enc)
 |[]=>by simp[bE.fB]
 |x::xs=>by
  have h1:=bE.pR x;have h2:=bE.vW xs;rw[bE.fB,List.length_cons,List.map_cons,aQ,bE.cK];omega
end
end Go.Ab