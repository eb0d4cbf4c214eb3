/-
  SEVERAL TEXTS IN ONE (merged by program): contracts and models, each with its own heading.
-/
import Derived.Test.YtfhpfkaeldgcmaaGreatPartHfbB
import Derived.Carry
import Derived.WideKeyArgs
import Derived.ProofKit
import Derived.OpenShut
import Derived.WalkKit
import Derived.Test.YtfhpfkaeldgcmaaGreatChecked
import Derived.Eval
import Derived.KernelRfl
open Go.Proofs Go.Proofs.Tryz
theorem Go.Ab.zmx:Go.Proofs.Tryz.prog.follows .mixedOrders=true:=Go.Proofs.Tryz.checked.mixed
open Go Go.Ab in
theorem Go.Ab.zcx{N:Nat}{S:Store}{f:FuncId}{fn:Func}{c:Code}{args:List V}{post:V->Store->Prop}(rs:List ResultVar)(hf:Tryz.prog.funcs[f]? =some fn)(hN:fn.ntmps=N)(h:CW Tryz.prog N c (Ju Tryz.prog rs post) ⟨kM (args.map (V.up 1)) 0,[]::S⟩)(hb:fn.body=some c:=by exact rfl)(hn:(fn.name== "runtime.NumGoroutine")=false:=by exact rfl)(hr:fn.results.toList=rs:=by exact rfl)(hl:Nat.ble args.length N=true:=by exact rfl)(hok:codeOk N c=true:=by exact rfl):cB Tryz.prog f args S post:=aW (rs:=rs) zmx hf hN hb hn hr hl hok h
set_option linter.unusedSimpArgs false
set_option linter.unusedVariables false
set_option maxRecDepth 4000
namespace Go.Ab
section
variable {P:Program} {S S':Store} {N:Nat} {s:St}
theorem aJ{α:Type}{fr:List α}{S:List (List α)}{l j:Nat}:bA (fr::S) (1+l,j)=bA S (l,j):=by rw[Nat.add_comm,bX]
theorem ak{α:Type}{fr:List α}{S:List (List α)}{l j:Nat}{x:α}:bq (fr::S) (1+l,j) x=fr::bq S (l,j) x:=by rw[Nat.add_comm,bq]
theorem ah6{n l j:Nat}:Aq n (l,j)=(n+l,j):=rfl
theorem Xf{l j:Nat}{es:List (List D)}:C.ret (.bS (1+l,j) es)=some (.bS (l,j) es):=by
 rw[Nat.add_comm];show C.down 1 (.bS (l+1,j) es)=_;simp[C.down]
theorem ret_tsl_0{j:Nat}{es:List (List D)}:C.ret (.bS (0,j) es)=some (.d (.sl es)):=rfl
theorem ajZ{x:D}:C.ret (.d x)=some (.d x):=rfl
theorem agh:C.ret .any=some .any:=rfl
theorem agi{es:List (List D)}:C.ret (.bI es)=some (.bI es):=rfl
theorem agj{n:Nat}{es:List (List D)}:C.ret (.nG n es)=some (.nG n es):=rfl
theorem ada{cs:List D}:C.ret (.lu cs)=some (.lu cs):=rfl
theorem agk{l j off:Nat}:C.ret (.ptr (1+l,j) off)=some (.ptr (l,j) off):=by
 rw[Nat.add_comm];show C.down 1 (.ptr (l+1,j) off)=_;simp[C.down]
theorem agl{j:Nat}{es es':List (List D)}{k:Key}:C.mH j es (.bS k es')=.bS k es':=rfl
theorem aj0{x:D}:C.ug (.d x)=.d x:=rfl
theorem agm:C.ug .any=.any:=rfl
theorem agn{k:Key}{off:Nat}:C.ug (.ptr k off)=.ptr k off:=rfl
theorem ah7{f:Nat}{caps:List (Key×Nat)}:C.ug (.fn f caps)=.fn f caps:=rfl
theorem agp{k:Key}:C.ug (.iJ k)=.iJ k:=rfl
theorem adb{cs:List D}:C.ug (.lu cs)=.lu cs:=rfl
theorem aj1{j:Nat}{es:List (List D)}{x:D}:C.mH j es (.d x)=.d x:=rfl
theorem agq{j:Nat}{es:List (List D)}:C.mH j es .any=.any:=rfl
theorem agr{j:Nat}{es es':List (List D)}:C.mH j es (.bI es')=.bI es':=rfl
theorem agt{j:Nat}{es:List (List D)}{k:Key}{off:Nat}:C.mH j es (.ptr k off)=.ptr k off:=rfl
theorem ah8{j:Nat}{es:List (List D)}{f:Nat}{caps:List (Key×Nat)}:C.mH j es (.fn f caps)=.fn f caps:=rfl
theorem agu{j n:Nat}{es es':List (List D)}:C.mH j es (.nG n es')=.nG n es':=rfl
theorem agv{n:Nat}{es:List (List D)}:C.ug (.nG n es)=.nG n es:=rfl
theorem ade{j:Nat}{es:List (List D)}{cs:List D}:C.mH j es (.lu cs)=.lu cs:=rfl
theorem agw{j i:Nat}{es:List (List D)}:C.mH j es (.iJ (0,i))=if i=j then .d (.sl es) else .iJ (0,i):=rfl
theorem cB.ah9{f:FuncId}(i:Nat){es:List (List D)}{bB:Nat}{args:List V}{post post':V->Store->Prop}(hi:args[i]? =some (.c (.bI es)))(hes:∀e∈es,e.length=bB)
 (h:cB P f ((args.map (V.up 1)).set i (.c (.bS (0,0) es))) ([.tok bB es]::S) post)
 (hp:∀r fr S',post r (fr::S')->∃r',r.ret=some r'/\post' r' S'):cB P f args S post':=by
 refine⟨h.1,fun w σ β vs hS hargs=> ?_⟩;obtain⟨v,hv0,⟨hd,ad,n,hval⟩,hone⟩:=hargs.2 i _ hi
 ·have hn:n=es.length:=by rw[hval] at hd;cases hd<;>rfl
  have hg:Grow w σ w σ:=Grow.refl hS.live
  obtain⟨hS',hk,hst⟩:=hS.up1.push (o:=.tok bB es) (h:=v) hg rfl ⟨hd,hes,ad,n,by rw[hval,hn],by omega,.inl hn⟩ (fun b hb=>by
   rw[hval,hn] at hb
   cases ad<;>simp[owns,blk] at hb)
  have hargs':rG w σ ([.tok bB es]::S) ([v]::β) ((args.map (V.up 1)).set i (.c (.bS (0,0) es))) vs:=by
   refine⟨by have:=hargs.1;simpa using this,fun j x hx=> ?_⟩;rw[List.getElem?_set] at hx;by_cases e:i=j
   ·subst e;rw[if_pos rfl] at hx;split at hx
    ·cases hx;refine⟨v,hv0,⟨hd,.tok bB es,rfl,fun a b e=> ?_⟩,hone⟩;obtain⟨_,rfl⟩:=qj (lab:=none) e;exact⟨Nat.le_refl _,fun _=>rfl⟩
    ·cases hx
   ·rw[if_neg e,List.getElem?_map] at hx
    cases ha:args[j]? with
    |none=>rw[ha] at hx;cases hx
    |some y=>
     rw[ha] at hx;cases hx;obtain⟨u,hu,hr⟩:=hargs.2 j y ha;exact⟨u,hu,Ht (S:=[.tok bB es]::S) (β:=[v]::β) 1 hr⟩
  refine(h.2 w σ ([v]::β) vs hS' hargs').mono fun e w' ⟨v',r,S1,σ',β',he,hS1,hk1,D7,hr1,hpost⟩=> ?_
  have hO:∀b,Own ([.tok bB es]::S) ([v]::β) b->Own S β b:=by
   rintro b ⟨⟨l,j⟩,o,hv,h1,h2,h3⟩
   cases l with
   |zero=>
    rw[bL] at h1 h2
    cases j with
    |zero=>
     cases h1;cases h2;rw[hval,hn] at h3;cases ad<;>simp[owns,blk] at h3
    |succ j=>simp at h1
   |succ l=>rw[bX] at h1 h2;exact⟨(l,j),o,hv,h1,h2,h3⟩
  cases S1 with
  |nil=>
   obtain⟨o',h1,_⟩:=hk1 (0,0) _ rfl;rw[nD] at h1;cases h1
  |cons fr S1=>
   cases β' with
   |nil=>have:=hS1.shape.1;simp at this
   |cons bo bΩ=>
    obtain⟨r',hr',hp'⟩:=hp r fr S1 hpost;refine⟨v',r',S1,σ',bΩ,he,hS1.D9,hk1.drop 1,⟨D7.size,D7.os,D7.output,fun b hb ho=>D7.far b hb (fun x=>ho (hO b x)),D7.near,fun b hb=>(D7.own b (tZ hb)).imp (hO b) id⟩,Qy hr' hr1,hp'⟩
end
attribute [go_sem] aJ ak ah6 Xf ret_tsl_0 ajZ agh agi ada agk agl aj0 agm agn ah7 agp adb aj1 agq agr agt ah8 ade agw agj agu agv
section
variable {P:Program} {S S':Store} {N:Nat} {s:St}
theorem F4(S:Store)(β:Hs)(k:Key):Keep S β (bq S k .dead) β:=by
 intro k' o ho;by_cases e:k=k'
 ·subst e;exact⟨.dead,dw _ _ _ _ ho,.inl rfl⟩
 ·exact⟨o,by rw[eZ _ _ _ _ e];exact ho,lg.refl _ _⟩
theorem y5{k k':Key}{o:Obj}(h:bA (bq S k .dead) k'=some o):(k=k'/\o=.dead)\/bA S k'=some o:=by
 by_cases e:k=k'
 ·subst e
  cases hg:bA S k with
  |none=>
   have:∀(S:Store)(k:Key),bA S k=none->bq S k .dead=S:=by
    intro S
    induction S with
    |nil=>intro k _;rfl
    |cons fr S ih=>
     rintro⟨l,j⟩ h
     cases l with
     |zero=>
      rw[bL] at h;rw[bq,List.set_eq_of_length_le (List.getElem?_eq_none_iff.1 h)]
     |succ l=>rw[bX] at h;rw[bq,ih _ h]
   rw[this S k hg,hg] at h;cases h
  |some y=>
   rw[dw _ _ _ _ hg] at h;cases h;exact .inl ⟨rfl,rfl⟩
 ·rw[eZ _ _ _ _ e] at h;exact .inr h
theorem Q8(x:Obj):∀(S:Store)(k:Key),(bq S k x).length=S.length
 |[],k=>rfl
 |fr::S,(0,j)=>by rw[bq];simp
 |fr::S,(l+1,j)=>by rw[bq,List.length_cons,Q8 x S,List.length_cons]
theorem U3(x:Obj):∀(S:Store)(k:Key)(l:Nat)(fr:List Obj),(bq S k x)[l]? =some fr->∃BM,S[l]? =some BM/\BM.length=fr.length
 |[],k,l,fr,h=>by simp[bq] at h
 |f::S,(0,j),0,fr,h=>by rw[bq] at h;simp at h;subst h;exact⟨f,rfl,by simp⟩
 |f::S,(0,j),l+1,fr,h=>by rw[bq] at h;exact⟨fr,by simpa using h,rfl⟩
 |f::S,(i+1,j),0,fr,h=>by rw[bq] at h;exact⟨fr,by simpa using h,rfl⟩
 |f::S,(i+1,j),l+1,fr,h=>by
  rw[bq] at h;simpa using U3 x S (i,j) l fr (by simpa using h)
theorem adf{w:World}{σ:Nat->Nat}{β:Hs}(k:Key)(hS:eH w σ S β):eH w σ (bq S k .dead) β:=by
 have hn:eG w σ w σ:=(Grow.refl hS.live).near;refine⟨fun k' o ho=> ?_,fun k1 k2 o1 o2 h1 h2 b e1 e2 e3 e4 e5 e6=> ?_,⟨by rw[Q8];exact hS.shape.1,fun l fr hl=> ?_⟩,hS.live,hS.wE⟩
 ·rcases y5 ho with⟨rfl,rfl⟩|ho'
  ·cases hg:bA S k with
   |none=>
    exfalso;have:=F4 S β k;rcases y5 (S:=S) (k:=k) (k':=k) ho with⟨_,_⟩|h
    ·
     have hne:bA (bq S k .dead) k=none:=by
      have:∀(S:Store)(k:Key),bA S k=none->bA (bq S k Obj.dead) k=none:=by
       intro S
       induction S with
       |nil=>intro k _;rw[bq,nD]
       |cons fr S ih=>
        rintro⟨l,j⟩ h
        cases l with
        |zero=>
         rw[bL] at h;rw[bq,bL,List.set_eq_of_length_le (List.getElem?_eq_none_iff.1 h)];exact h
        |succ l=>rw[bX] at h;rw[bq,bX];exact ih _ h
      exact this S k hg
     rw[hne] at ho;cases ho
    ·rw[hg] at h;cases h
   |some y=>
    obtain⟨h,hh,_⟩:=hS.obj k y hg;exact⟨h,hh,trivial⟩
  ·obtain⟨h,hh,hr⟩:=hS.obj k' o ho';exact⟨h,hh,hr.mono hn ((F4 S β k).drop k'.1) fun b _=>⟨rfl,rfl⟩⟩
 ·rcases y5 e1 with⟨_,rfl⟩|IB
  ·cases e3
  ·rcases y5 e4 with⟨_,rfl⟩|e4'
   ·cases e6
   ·exact hS.apart k1 k2 o1 o2 h1 h2 b IB e2 e3 e4' e5 e6
 ·obtain⟨BM,h1,h2⟩:=U3 _ S k l fr hl;obtain⟨gr,h3,h4⟩:=hS.shape.2 l BM h1;exact⟨gr,h3,by omega⟩
def Less(r r':V):Prop:=∀w σ S β v,dP w σ S β r v->dP w σ S β r' v
theorem Less.refl(r:V):Less r r:=fun _ _ _ _ _ h=>h
theorem cB.kill{f:FuncId}{args:List V}{post post':V->Store->Prop}(k:Key)(h:cB P f args S post)(hp:∀r S',post r S'->∃r',Less r r'/\(post' r' S'\/post' r' (bq S' k .dead))):cB P f args S post':=by
 refine⟨h.1,fun w σ β vs hS hv=>(h.2 w σ β vs hS hv).mono fun e w' ⟨v,r,S',σ',β',h1,h2,h3,h4,h5,h6⟩=> ?_⟩;obtain⟨r',hl,hp|hp⟩:=hp r S' h6
 ·exact⟨v,r',S',σ',β',h1,h2,h3,h4,hl _ _ _ _ _ h5,hp⟩
 ·have hkeep:=F4 S' β' k;refine⟨v,r',bq S' k .dead,σ',β',h1,adf k h2,h3.trans hkeep,⟨h4.size,h4.os,h4.output,h4.far,h4.near,fun b hb=> ?_⟩,hl _ _ _ _ _ (h5.mono (Grow.refl h2.live).near hkeep),hp⟩;obtain⟨k',o,hv,e1,e2,e3⟩:=hb;rcases y5 e1 with⟨_,rfl⟩|IB
  ·cases e3
  ·exact h4.own b ⟨k',o,hv,IB,e2,e3⟩
theorem ah{x y:Obj}:∀(S:Store)(k:Key),bq (bq S k x) k y=bq S k y
 |[],k=>rfl
 |fr::S,(0,j)=>by rw[bq,bq,bq];simp
 |fr::S,(l+1,j)=>by rw[bq,bq,bq,ah S]
theorem BO{x:Obj}:∀(S:Store)(k:Key),bA S k=some x->bq S k x=S
 |[],k,_=>rfl
 |fr::S,(0,j),h=>by
  rw[bL] at h;rw[bq];congr 1
  exact List.ext_getElem? fun i=>by
   rw[List.getElem?_set];split
   ·rename_i e;subst e;obtain⟨h1,h2⟩:=List.getElem?_eq_some_iff.1 h;simp[h1,h2]
   ·rfl
 |fr::S,(l+1,j),h=>by rw[bX] at h;rw[bq,BO S _ h]
def uT:List Bool->List V->List V
 |true::m,v::vs=>v::uT m vs
 |false::m,v::vs=>v.ug::uT m vs
 |[],vs=>vs.map V.ug
 |_,[]=>[]
theorem Jv:∀(m:List Bool)(vs:List V),vs.length=(uT m vs).length
 |true::m,v::vs=>by rw[uT,List.length_cons,List.length_cons,Jv m vs]
 |false::m,v::vs=>by rw[uT,List.length_cons,List.length_cons,Jv m vs]
 |[],vs=>by simp[uT]
 |true::m,[]=>rfl
 |false::m,[]=>rfl
theorem MU:∀(m:List Bool)(vs:List V)(j:Nat)(x y:V),vs[j]? =some x->(uT m vs)[j]? =some y->y=x\/y=x.ug
 |true::m,v::vs,0,x,y,h1,h2=>by rw[uT] at h2;cases h1;cases h2;exact .inl rfl
 |false::m,v::vs,0,x,y,h1,h2=>by rw[uT] at h2;cases h1;cases h2;exact .inr rfl
 |true::m,v::vs,j+1,x,y,h1,h2=>by rw[uT] at h2;exact MU m vs j x y h1 h2
 |false::m,v::vs,j+1,x,y,h1,h2=>by rw[uT] at h2;exact MU m vs j x y h1 h2
 |[],vs,j,x,y,h1,h2=>by rw[uT,List.getElem?_map,h1] at h2;cases h2;exact .inr rfl
 |true::m,[],j,x,y,h1,h2=>by simp at h1
 |false::m,[],j,x,y,h1,h2=>by simp at h1
theorem cB.uT(m:List Bool){f:FuncId}{args:List V}{post:V->Store->Prop}(h:cB P f (Go.Ab.uT m args) S post):cB P f args S post:=
 h.weaken (Jv m args) fun j x y hx hy w σ β v hr=>by
  rcases MU m args j x y hx hy with e|e
  ·rw[e];exact hr
  ·rw[e];exact QH hr
theorem bZ(m:List Bool){dr:Option Nat}{f:FuncId}{args:List V}{dst:Option Nat}{K:St->Prop}{r:V}{S1:Store}(hm:afg dr=true)(h:cB P f (uT m args) s.st (fun r' S'=>r'=r/\S'=S1))(hK:K (St.put ⟨s.tm,S1⟩ dst r)):iL P dr f args s dst K:=
 bE hm (h.uT m) hK
end
theorem bg.less{P:Program}{f:FuncId}{args:List V}{r r':V}(h:bg P f args r)(hl:Less r r'):bg P f args r':=
 fun S=>(h S).kill (0,0) fun r1 S' e=>⟨r',by rw[e.1];exact hl,.inl ⟨rfl,e.2⟩⟩
section
variable {P:Program} {S:Store}
def uj(n:Nat)(caps:List (Key×Nat)):List (Key×Nat):=caps.map fun y=>(Aq n y.1,y.2)
theorem Xg{n:Nat}:uj n []=[]:=rfl
theorem TR{n l j off:Nat}{caps:List (Key×Nat)}:uj n (((l,j),off)::caps)=((n+l,j),off)::uj n caps:=rfl
theorem NS{m n:Nat}{caps:List (Key×Nat)}:uj m (uj n caps)=uj (m+n) caps:=by
 unfold uj;rw[List.map_map];refine List.map_congr_left fun y _=> ?_;simp only[Function.comp,Aq,Prod.mk.injEq,and_true];omega
theorem Q9:∀(F S:Store)(l j:Nat),bA (F++S) (F.length+l,j)=bA S (l,j)
 |[],S,l,j=>by simp
 |fr::F,S,l,j=>by
  rw[List.cons_append,List.length_cons,show F.length+1+l=(F.length+l)+1 from by omega,bX,Q9 F S l j]
theorem Ra(x:Obj):∀(F S:Store)(l j:Nat),bq (F++S) (F.length+l,j) x=F++bq S (l,j) x
 |[],S,l,j=>by simp
 |fr::F,S,l,j=>by
  rw[List.cons_append,List.length_cons,show F.length+1+l=(F.length+l)+1 from by omega,bq,Ra x F S l j,List.cons_append]
theorem Z9{F S:Store}{j:Nat}:bA (F++S) (F.length,j)=bA S (0,j):=Q9 F S 0 j
theorem aac{F S:Store}{j:Nat}{x:Obj}:bq (F++S) (F.length,j) x=F++bq S (0,j) x:=Ra x F S 0 j
attribute [go_sem] Z9 aac Xg TR
def Xh(P:Program)(g:Nat)(caps:List (Key×Nat))(S:Store)(xs:List V)(r:V):Prop:=
 ∀F:Store,cB P g (xs++CK (uj F.length caps)) (F++S) (fun r' S'=>r'=r/\S'=F++S)
theorem Xh.push{g:Nat}{caps:List (Key×Nat)}{xs:List V}{r:V}(h:Xh P g caps S xs r)(fr:List Obj):Xh P g (uj 1 caps) (fr::S) xs r:=fun F=>by
 have:=h (F++[fr]);rw[NS];simpa using this
def Xi(P:Program)(g:Nat)(caps:List (Key×Nat)){α X:Type}(st:α->Store)(I:Nat->α->Prop)(f:α->X->α)(xv:X->V)(ok:X->Prop):Prop:=
 ∀n a u,I (n+1) a->ok u->I n (f a u)/\∀F:Store,cB P g (xv u::CK (uj F.length caps)) (F++st a) (fun r' S'=>r'=.eu []/\S'=F++st (f a u))
theorem Xi.push{g:Nat}{caps:List (Key×Nat)}{α X:Type}{st:α->Store}{I:Nat->α->Prop}{f:α->X->α}{xv:X->V}{ok:X->Prop}(h:Xi P g caps st I f xv ok)(fr:List Obj):
 Xi P g (uj 1 caps) (fun a=>fr::st a) I f xv ok:=fun n a u ha hu=>⟨(h n a u ha hu).1,fun F=>by
 have:=(h n a u ha hu).2 (F++[fr]);rw[NS]
 simpa using this⟩
theorem qX{N:Nat}{c:Code}{Q:Exit->St->Prop}{tm:List (Nat×V)}{own:List Obj}{Ω:Store}(j i bB:Nat)(es:List (List D))(cs:List C)(hj:own[j]? =some (.box cs))(hi:cs[i]? =some (.bI es))(hes:∀e∈es,e.length=bB)
 (h:AW P N c Q ⟨tm,(own.set j (.box (cs.set i (.bS (0,own.length) es)))++[.tok bB es])::Ω⟩):AW P N c Q ⟨tm,own::Ω⟩:=by
 refine l9 h fun a w σ β hR=> ?_;obtain⟨bo,bΩ,rfl,hlen⟩:=frames hR;have hjl:=(List.getElem?_eq_some_iff.1 hj).1
 have hg0:bA (own::Ω) (0,j)=some (.box cs):=by rw[bL];exact hj
 obtain⟨hb,Iz,hr⟩:=hR.S.obj (0,j) _ hg0;obtain⟨b,cv,ty,rfl,hbc,hσ,hcs⟩:=hr;have hcs:fD w σ (own::Ω) (bo::bΩ) cs cv.toList:=hcs;obtain⟨v,hv,⟨hd,ad,n,hval⟩,hone⟩:=hcs.2 i _ hi
 have hn:n=es.length:=by rw[hval] at hd;cases hd<;>rfl
 have hg:Grow w σ w σ:=Grow.refl hR.S.live
 obtain⟨hS',hk,hst⟩:=hR.S.push (o:=.tok bB es) (h:=v) hg hlen ⟨hd,hes,ad,n,by rw[hval,hn],by omega,.inl hn⟩ (fun b hb=>by
  rw[hval,hn] at hb
  cases ad<;>simp[owns,blk] at hb)
 have hk1:bA ((own++[.tok bB es])::Ω) (0,j)=some (.box cs):=jA _ _ _ _ _ hg0;have KO:bA ((bo++[v])::bΩ) (0,j)=some (.pointer (some ⟨b,0,none⟩)):=jA _ _ _ _ _ Iz;have hko:lg (.box cs) (some (Value.pointer (some ⟨b,0,none⟩))) (.box (cs.set i (.bS (0,own.length) es))) (some (Value.pointer (some ⟨b,0,none⟩))):=.inr ⟨⟨_,rfl⟩,rfl⟩
 have hK:Keep ((own++[.tok bB es])::Ω) ((bo++[v])::bΩ) (bq ((own++[.tok bB es])::Ω) (0,j) (.box (cs.set i (.bS (0,own.length) es)))) (bq ((bo++[v])::bΩ) (0,j) (.pointer (some ⟨b,0,none⟩))):=by
  intro k1 o1 e1;by_cases e:k1=(0,j)
  ·subst e;rw[hk1] at e1;cases e1;exact⟨_,dw _ _ _ _ hk1,by rw[KO,dw _ _ _ _ KO];exact hko⟩
  ·exact⟨o1,(eZ _ _ _ _ (Ne.symm e)).trans e1,by rw[eZ _ _ _ _ (Ne.symm e)];exact .refl _ _⟩
 have hne:(0,own.length)≠(0,j):=fun e=>by injection e with _ e;omega
 obtain⟨hS2,hk2,AQ⟩:=hS'.set (w':=w) (σ':=σ) (o':=.box (cs.set i (.bS (0,own.length) es))) (h':=.pointer (some ⟨b,0,none⟩)) hk1 KO (Nat.le_refl _) rfl rfl (eG.refl _ _) hS'.live (fun _ _ _=>⟨rfl,rfl⟩) hko
  ⟨b,cv,ty,rfl,hbc,hσ,by
    refine⟨by rw[List.length_set];exact hcs.1,fun m x hm=> ?_⟩;rw[List.getElem?_set] at hm;by_cases e:i=m
    ·subst e;rw[if_pos rfl] at hm;split at hm
     ·cases hm;refine⟨v,hv,⟨hd,.tok bB es,?_,fun a1 b1 e1=> ?_⟩,hone⟩
      ·show bA (bq _ (0,j) _) (0,own.length)=_;rw[eZ _ _ _ _ (Ne.symm hne),dJ]
      ·obtain⟨_,rfl⟩:=qj (lab:=none) e1;refine⟨Nat.le_refl _,fun _=> ?_⟩;show bA (bq _ (0,j) _) (0,own.length)=_;rw[eZ _ _ _ _ (Ne.symm hne),<-hlen,dJ]
     ·cases hm
    ·rw[if_neg e] at hm;obtain⟨u,hu,hc,ho⟩:=hcs.2 m x hm
     exact⟨u,hu,(hc.mono (eG.refl _ _) hk).mono (eG.refl _ _) hK,ho⟩⟩ (fun _ e=>.inl e)
 have est:bq ((own++[.tok bB es])::Ω) (0,j) (.box (cs.set i (.bS (0,own.length) es)))=(own.set j (.box (cs.set i (.bS (0,own.length) es)))++[.tok bB es])::Ω:=by
  rw[bq,List.set_append_left _ _ hjl]
 rw[est] at hS2 hk2 AQ
 exact⟨σ,_,⟨hR.size,hR.defers,hS2,fun u=>((hR.T u).mono (eG.refl _ _) hk).mono (eG.refl _ _) hk2⟩,hst.trans AQ,by
  have:=hk.trans hk2
  exact this.tail⟩
end
inductive D.Fit:D->Prop
 |b (x):Fit (.b x)
 |i (k n):Fit (.i k n)
 |s (l) (h:l.length<=9223372036854775807):Fit (.s l)
 |sl (es) (h:es.length<=9223372036854775807) (hh:∀e∈es,∀d∈e,Fit d):Fit (.sl es)
 |o (v):Fit (.o v)
def AY(cs:List D):Prop:=∀d∈cs,d.Fit
theorem AZ:AY []:=fun d h=>by cases h
theorem BP{d:D}{ds:List D}:AY (d::ds)<->d.Fit/\AY ds:=by simp[AY]
theorem TS{a b:List D}:AY (a++b)<->AY a/\AY b:=by
 simp only[AY,List.mem_append];exact⟨fun h=>⟨fun d hd=>h d (.inl hd),fun d hd=>h d (.inr hd)⟩,fun h d hd=>hd.elim (h.1 d) (h.2 d)⟩
def WTF(P:Program)(W:TypeId->List D->Prop):List Field->List D->Prop
 |[],ds=>ds=[]
 |f::fs,ds=>∃a b,ds=a++b/\a.length=P.cellsOf f.type/\W f.type a/\WTF P W fs b
def WT(P:Program):Nat->TypeId->List D->Prop
 |0,_,_=>False
 |n+1,t,ds=>
  match P.underlying t with
  |some .bool=>∃b,ds=[.b b]
  |some (.int k)=>∃x,ds=[.i k x]/\(Lit.int k x).wf=true
  |some .string=>∃l,ds=[.s l]/\l.length<=9223372036854775807
  |some (.slice e)=>∃es,ds=[.sl es]/\es.length<=9223372036854775807/\∀x∈es,x.length=P.cellsOf e/\WT P n e x
  |some (.struct fs)=>WTF P (WT P n) fs.toList ds
  |_=>False
def zZ(P:Program):List Field->Nat->Nat->Bool
 |[],a,b=>a==b
 |f::fs,a,b=>f.offset==a&&zZ P fs (a+P.cellsOf f.type) b
def MV(P:Program)(L:List TypeId):Bool:=
 L.all fun t=>match P.underlying t with
  |some .bool|some (.int _)|some .string=>P.cellsOf t==1
  |some (.slice e)=>P.cellsOf t==1&&L.contains e&&decide (0<P.cellsOf e)
  |some (.struct fs)=>zZ P fs.toList 0 (P.cellsOf t)&&fs.toList.all fun f=>L.contains f.type
  |_=>false
def kW(w:World)(b:Nat):Nat:=match w.heap[b]? with
 |some (.cells c _ _)=>c.size
 |_=>0
def rM(w:World)(ds:List D)(vs:List Value):Prop:=ds.length=vs.length/\∀(j:Nat)(d:D),ds[j]? =some d->∃v,vs[j]? =some v/\dN w (kW w) d v/\v.oneCell'=true
theorem rM.append{w:World}{a b:List D}{xs ys:List Value}(h1:rM w a xs)(h2:rM w b ys):rM w (a++b) (xs++ys):=by
 refine⟨by simp[h1.1,h2.1],fun j d hj=> ?_⟩;rw[List.getElem?_append] at hj ⊢;have:=h1.1;split at hj
 ·rw[if_pos (by omega)];exact h1.2 j d hj
 ·rw[if_neg (by omega),<-h1.1];exact h2.2 _ d hj
theorem rM.one{w:World}{d:D}{v:Value}(h:dN w (kW w) d v)(h1:v.oneCell'=true):rM w [d] [v]:=by
 refine⟨rfl,fun j x hj=> ?_⟩
 cases j with
 |zero=>cases hj;exact⟨v,rfl,h,h1⟩
 |succ j=>simp at hj
theorem Rb{α β:Type}(f:α->Option β):∀(l:List α)(ys:List β),l.mapM f=some ys->ys.length=l.length/\∀(j:Nat)(x:α),l[j]? =some x->∃y,f x=some y/\ys[j]? =some y
 |[],ys,h=>by
  simp at h;subst h;exact⟨rfl,fun j x hj=>by simp at hj⟩
 |a::l,ys,h=>by
  rw[List.mapM_cons] at h
  cases ha:f a with
  |none=>rw[ha] at h;cases h
  |some y=>
   cases hl:l.mapM f with
   |none=>rw[ha,hl] at h;cases h
   |some zs=>
    rw[ha,hl] at h;cases h;obtain⟨h1,h2⟩:=Rb f l zs hl;refine⟨by simp[h1],fun j x hj=> ?_⟩
    cases j with
    |zero=>cases hj;exact⟨y,ha,rfl⟩
    |succ j=>exact h2 j x hj
section
variable {H:Type} {enc:TypeId×Value->H} {P:Program} {w:World} {L:List TypeId}
theorem Em{a:Addr}{n:Nat}{vs:List Value}(hn:0<n)(h:w.cells? 0 a n=some vs):a.spot=none/\vs.length=n/\∃c t fz,w.heap[a.block]? =some (.cells c t fz)/\∀j,j<n->∃v,vs[j]? =some v/\c[a.off+j]? =some v:=by
 unfold World.cells? at h;rw[if_pos (Nat.zero_le _)] at h;obtain⟨h1,h2⟩:=Rb _ _ _ h;rw[List.length_range] at h1;obtain⟨v0,hv0,_⟩:=h2 0 0 (by simp[hn])
 have Px:a.add 0=a:=by simp[Addr.add]
 rw[Px] at hv0;unfold World.cell? at hv0
 cases hb:w.heap[a.block]? with
 |none=>rw[hb] at hv0;cases hv0
 |some ob=>
  rw[hb] at hv0
  cases ob with
  |map _ _=>cases hv0
  |cells c t fz=>
   have hs:a.spot=none:=by
    cases hsp:a.spot with
    |none=>rfl
    |some x=>rw[hsp] at hv0;simp at hv0
   refine⟨hs,h1,c,t,fz,rfl,fun j hj=> ?_⟩;obtain⟨v,hv,hvs⟩:=h2 j j (by simp[hj]);refine⟨v,hvs,?_⟩;unfold World.cell? at hv;by_cases hj0:j=0
   ·subst hj0;rw[Px,hb] at hv;simp[hs] at hv;simpa using hv
   ·simp[Addr.add,hj0,hb] at hv;exact hv
  |_=>cases hv0
theorem IJ{α:Type}{p:Nat->α->Prop}:∀n:Nat,(∀i,i<n->∃x,p i x)->∃l:List α,l.length=n/\∀(i:Nat)(x:α),l[i]? =some x->p i x
 |0,_=>⟨[],rfl,fun i x h=>by simp at h⟩
 |n+1,h=>by
  obtain⟨l,hl,hp⟩:=IJ n fun i hi=>h i (by omega);obtain⟨x,hx⟩:=h n (by omega);refine⟨l++[x],by simp[hl],fun i y hy=> ?_⟩;rw[List.getElem?_append] at hy;split at hy
  ·exact hp i y hy
  ·rename_i hlt
   have hi:i-l.length<1:=by
    have:=(List.getElem?_eq_some_iff.1 hy).1;simpa using this
   have:i=n:=by omega
   subst this;rw[show i-l.length=0 from by omega] at hy;cases hy;exact hx
theorem aad(hc:MV P L=true){t:TypeId}(ht:t∈L):(match P.underlying t with
 |some .bool|some (.int _)|some .string=>P.cellsOf t==1
 |some (.slice e)=>P.cellsOf t==1&&L.contains e&&decide (0<P.cellsOf e)
 |some (.struct fs)=>zZ P fs.toList 0 (P.cellsOf t)&&fs.toList.all fun f=>L.contains f.type
 |_=>false)=true:=List.all_eq_true.1 hc t ht
theorem TT{n:Nat}{fs:List Field}{cs:List Value}:∀(off:Nat),off<=cs.length->zZ P fs off cs.length=true->
 (∀f∈fs,∃ds,WT P n f.type ds/\rM w ds ((cs.drop f.offset).take (P.cellsOf f.type)))->∃ds,WTF P (WT P n) fs ds/\rM w ds (cs.drop off):=by
 induction fs with
 |nil=>
  intro off _ ht _
  have:off=cs.length:=by simpa [zZ] using ht
  exact⟨[],rfl,by simp[this,rM]⟩
 |cons f fs ih=>
  intro off ho ht h;simp only[zZ,Bool.and_eq_true,beq_iff_eq] at ht;obtain⟨a,ha1,ha2⟩:=h f (by simp)
  have hle:∀(fs:List Field)(o:Nat),zZ P fs o cs.length=true->o<=cs.length:=by
   intro fs
   induction fs with
   |nil=>intro o h;have:o=cs.length:=by simpa [zZ] using h
         omega
   |cons g gs ih=>intro o h;simp only[zZ,Bool.and_eq_true] at h;have:=ih _ h.2;omega
  have hle':=hle fs _ ht.2;obtain⟨b,hb1,hb2⟩:=ih (off+P.cellsOf f.type) hle' ht.2 fun g hg=>h g (by simp[hg]);rw[ht.1] at ha2;refine⟨a++b,⟨a,b,rfl,?_,ha1,hb1⟩,?_⟩
  ·rw[ha2.1];simp;omega
  ·have:=ha2.append hb2;rw[<-List.drop_drop,List.take_append_drop] at this;exact this
theorem F5(hc:MV P L=true){sp:Nat->Bool}{held:Bool}:∀(fuel:Nat)(t:TypeId)(cs:List Value)(x:DataW H×List MemPlace),t∈L->
 DataW.trod enc P w 0 sp held fuel t cs=some x->∃ds,WT P fuel t ds/\rM w ds cs
 |0,t,cs,x,_,h=>by simp[DataW.trod] at h
 |n+1,t,cs,x,ht,h=>by
  have hcl:=aad hc ht
  cases hu:P.underlying t with
  |none=>rw[hu] at hcl;cases hcl
  |some u=>
   rw[hu] at hcl
   cases u with
   |bool=>
    obtain⟨b,rfl,_⟩:=DataW.trod_bool hu h;exact⟨[.b b],by simp only[WT,hu];exact⟨b,rfl⟩,rM.one (.b b) rfl⟩
   |int k=>
    obtain⟨m,rfl,_,hw⟩:=DataW.trod_int hu h;exact⟨[.i k m],by simp only[WT,hu];exact⟨m,rfl,hw⟩,rM.one (.i k m) rfl⟩
   |string=>
    obtain⟨s,rfl,_,hs⟩:=DataW.trod_string hu h
    have hl:s.data.toList.length<=9223372036854775807:=by
     have h1:s.data.toList.length=s.size:=by rw[Array.length_toList];rfl
     rw[h1];exact hs
    refine⟨[.s s.data.toList],?_,rM.one ?_ rfl⟩
    ·simp only[WT,hu];exact⟨_,rfl,hl⟩
    ·exact .s s.data.toList
   |slice e=>
    simp only[Bool.and_eq_true,beq_iff_eq,decide_eq_true_eq,List.contains_iff_mem] at hcl;obtain⟨⟨h1,he⟩,hpos⟩:=hcl;rcases DataW.trod_slice hu h with⟨rfl,_⟩|⟨a,len,cap,elems,rest,m,hm,rfl,_,_,hlc,hcm,hel,hget,_,_⟩
    ·exact⟨[.sl []],by simp only[WT,hu];exact⟨[],rfl,by simp,fun x hx=>by cases hx⟩,rM.one (.nil _ _) rfl⟩
    ·cases hm
     have hall:∀i,i<len->∃ds:List D,ds.length=P.cellsOf e/\WT P n e ds/\∃vs,w.cells? 0 (a.add (i*P.cellsOf e)) (P.cellsOf e)=some vs/\rM w ds vs:=by
      intro i hi;have hg:=hget i hi
      cases hcs:w.cells? 0 (a.add (i*P.cellsOf e)) (P.cellsOf e) with
      |none=>
       rw[hcs] at hg
       have:i<elems.length:=by omega
       rw[List.getElem?_eq_getElem this] at hg;cases hg
      |some vs=>
       rw[hcs] at hg
       have hlt:i<elems.length:=by omega
       rw[List.getElem?_eq_getElem hlt] at hg;obtain⟨ds,hd1,hd2⟩:=F5 hc n e vs _ he hg;have hv:=(Em hpos hcs).2.1;exact⟨ds,by rw[hd2.1,hv],hd1,vs,rfl,hd2⟩
     obtain⟨es,hes,hp⟩:=IJ len hall
     have hwt:WT P (n+1) t [.sl es]:=by
      simp only[WT,hu]
      refine⟨es,rfl,by have:cap<=9223372036854775807:=hcm
                       omega,fun x hx=> ?_⟩
      obtain⟨i,hi⟩:=List.getElem?_of_mem hx;exact⟨(hp i x hi).1,(hp i x hi).2.1⟩
     refine⟨[.sl es],hwt,?_⟩
     cases D6:es with
     |nil=>
      have h0:len=0:=by rw[<-hes,D6];rfl
      subst h0;exact rM.one (.nil _ _) rfl
     |cons e0 es0=>
      have aj2:0<len:=by rw[<-hes,D6];simp
      have hlen:∀x∈es,x.length=P.cellsOf e:=fun x hx=>by
       obtain⟨i,hi⟩:=List.getElem?_of_mem hx;exact(hp i x hi).1
      obtain⟨ds0,_,_,vs0,aia,_⟩:=hall 0 aj2
      have Px:a.add (0*P.cellsOf e)=a:=by simp[Addr.add]
      rw[Px] at aia;obtain⟨hsp,_,c,tt,fz,hblk,_⟩:=Em hpos aia
      have hcell:∀i r,i<len->r<P.cellsOf e->∃(x:List D) (v:Value) (d:D),es[i]? =some x/\x[r]? =some d/\c[a.off+(i*P.cellsOf e+r)]? =some v/\dN w (kW w) d v:=by
       intro i r hi hr
       have hlt:i<es.length:=by omega
       obtain⟨hx1,hx2,vs,hvs,hrep⟩:=hp i es[i] (List.getElem?_eq_getElem hlt);obtain⟨_,hvl,c',t',Qj,hblk',hcc⟩:=Em hpos hvs
       have hb':(a.add (i*P.cellsOf e)).block=a.block:=by unfold Addr.add;split<;>rfl
       have ho':(a.add (i*P.cellsOf e)).off=a.off+i*P.cellsOf e:=by unfold Addr.add;split<;>simp_all
       rw[hb',hblk] at hblk';cases hblk';obtain⟨v,hv1,hv2⟩:=hcc r hr
       have hdr:r<es[i].length:=by omega
       obtain⟨v',hv',hd',_⟩:=hrep.2 r es[i][r] (List.getElem?_eq_getElem hdr);rw[hv1] at hv';cases hv';refine⟨es[i],v,es[i][r],List.getElem?_eq_getElem hlt,List.getElem?_eq_getElem hdr,?_,hd'⟩;rw[ho'] at hv2;rw[<-Nat.add_assoc];exact hv2
      have hbound:a.off+len*P.cellsOf e<=c.size:=by
       obtain⟨_,v,_,_,_,hv,_⟩:=hcell (len-1) (P.cellsOf e-1) (by omega) (by omega);have:=(Array.getElem?_eq_some_iff.1 hv).1
       have e1:(len-1)*P.cellsOf e+P.cellsOf e=len*P.cellsOf e:=by
        rw[<-Nat.succ_mul];congr 1;omega
       omega
      have key:dN w (kW w) (.sl es) (.slice (some ⟨a.block,a.off,none⟩) es.length cap):=by
       refine .sl a.block a.off cap (P.cellsOf e) es (fun j=>(c[a.off+j]?).getD undef) c tt fz (by omega) hlen hblk ?_ (fun j hj=> ?_) (fun j d hj=> ?_)
       ·unfold kW;rw[hblk,hes];exact hbound
       ·have:a.off+j<c.size:=by rw[hes] at hj;omega
        rw[Array.getElem?_eq_getElem this];rfl
       ·have hfl:es.flatten.length=es.length*P.cellsOf e:=jh es _ hlen
        have hjl:j<es.length*P.cellsOf e:=by rw[<-hfl];exact(List.getElem?_eq_some_iff.1 hj).1
        have hi:j/P.cellsOf e<len:=by rw[<-hes];exact(Nat.div_lt_iff_lt_mul hpos).2 hjl
        obtain⟨x,v,d',hx,hd',hv,hr⟩:=hcell (j/P.cellsOf e) (j % P.cellsOf e) hi (Nat.mod_lt _ hpos)
        have hlt':j/P.cellsOf e<es.length:=by omega
        have hfg:=flat_get es (P.cellsOf e) hlen (j/P.cellsOf e) (j % P.cellsOf e) hlt' (Nat.mod_lt _ hpos)
        have hj':j/P.cellsOf e*P.cellsOf e+j % P.cellsOf e=j:=by rw[Nat.mul_comm];exact Nat.div_add_mod j _
        rw[hj',hj] at hfg;rw[List.getElem?_eq_getElem hlt'] at hx;cases hx;rw[hd'] at hfg;cases hfg;rw[hj'] at hv;rw[hv];exact hr
      rw[<-D6];refine rM.one ?_ rfl
      have ha:a=⟨a.block,a.off,none⟩:=by cases a;simp at hsp;simp[hsp]
      rw[ha,<-hes];exact key
   |struct fs=>
    simp only[Bool.and_eq_true] at hcl;obtain⟨htl,hfs⟩:=hcl;obtain⟨xs,m,hm,rfl,hlen,hxs,aly⟩:=DataW.trod_struct hu h;cases hm;rw[<-hlen] at htl
    obtain⟨ds,h1,h2⟩:=TT (w:=w) (n:=n) (cs:=cs) 0 (Nat.zero_le _) htl fun f hf=>by
     obtain⟨i,hi⟩:=List.getElem?_of_mem hf
     have hi':fs[i]? =some f:=by simpa using hi
     have hg:=aly i f hi'
     have hlt:i<xs.length:=by
      rw[hxs];exact(Array.getElem?_eq_some_iff.1 hi').1
     rw[List.getElem?_eq_getElem hlt] at hg
     have hfL:f.type∈L:=by
      have:=List.all_eq_true.1 hfs f hf;simpa using this
     exact F5 hc n f.type _ _ hfL hg
    refine⟨ds,by simp only[WT,hu];exact h1,?_⟩;rw[List.drop_zero] at h2;exact h2
   |_=>cases hcl
end
open Go.ChangeShapes Go.WideShapes Go.ChangeAt Go.RowKit
section
variable {H:Type} {enc:TypeId×Value->H} {P:Program} {W W':World} {L:List TypeId} {t:TypeId} {v:Value} {base:Nat}
theorem adg{d:D}(hv:v.cells.toList=[v])(hL:rM W [d] v.cells.toList):dP W (kW W) [] [] (.c (.d d)) v:=by
 obtain⟨u,h1,h2,h3⟩:=hL.2 0 d rfl;rw[hv] at h1;cases h1;exact⟨h2,h3⟩
theorem aae{e:TypeId}{d:D}(ht:P.underlying t=some (.slice e))(hok:Value.okWide P W .any base t v)(hL:rM W [d] v.cells.toList):dP W (kW W) [] [] (.c (.d d)) v:=by
 obtain⟨a,n,m,rfl⟩:=okWide_slice ht hok;exact adg rfl hL
theorem aaf:rG W (kW W) [] [] [] []:=⟨rfl,fun j x h=>by simp at h⟩
theorem Xj{x:V}{xs:List V}{vs:List Value}(h1:dP W (kW W) [] [] x v)(h2:rG W (kW W) [] [] xs vs):rG W (kW W) [] [] (x::xs) (v::vs):=by
 refine⟨by simp[h2.1],fun j y hj=> ?_⟩
 cases j with
 |zero=>cases hj;exact⟨v,rfl,h1⟩
 |succ j=>exact h2.2 j y hj
theorem adh(W:World)(hg:Ar W (kW W)):eH W (kW W) [] [] where
 wE:=hg
 obj:=fun k o h=>by rw[nD] at h;cases h
 apart:=fun k k' o o' h h' b h1=>by rw[nD] at h1;cases h1
 shape:=⟨rfl,fun l fr h=>by simp at h⟩
 live:=fun b=>by
  by_cases h:b<W.heap.size
  ·exact .inl h
  ·right;unfold kW;rw[Array.getElem?_eq_none (by omega)]
theorem aib{b:Nat}:¬Own [] [] b:=fun⟨k,o,h,h1,_⟩=>by rw[nD] at h1;cases h1
theorem Fg(hl:laidOutB P=true)(hsame:∀b,b<W.heap.size->W'.heap[b]? =W.heap[b]?)(sp:Nat->Bool):∀(ts:List TypeId)(vs:List Value)(ds:List (DataW H))(ps:List MemPlace),
 (ts.all fun t=>P.readableRec t&&decide (t<P.types.size))=true->(∀p∈ps,p.block<W.heap.size/\sp p.block=true)->
   DataW.TrodAll enc P W 0 (fun _=>true) true ts vs ds ps->DataW.TrodAll enc P W' 0 sp true ts vs ds ps
 |[],[],[],ps,_,_,h=>h
 |t::ts,v::vs,d::ds,ps,hr,hlt,h=>by
  simp only[List.all_cons,Bool.and_eq_true,decide_eq_true_eq] at hr;obtain⟨p,q,h1,h2,rfl⟩:=h;refine⟨p,q,WideElems.Trod_stays hl hr.1.1 hr.1.2 h1 (fun x hx=> ?_) (fun x hx=>(hlt x (by simp[hx])).2),Fg hl hsame sp ts vs ds q hr.2 (fun x hx=>hlt x (by simp[hx])) h2,rfl⟩;have hb:=(hlt x (by simp[hx])).1
  cases x with
  |cell b o=>exact World.cell?_of_block (w:=W) (hsame b hb)
  |map b=>exact hsame b hb
 |[],[],_::_,ps,_,_,h=>h.elim
 |[],_::_,_,ps,_,_,h=>h.elim
 |_::_,[],_,ps,_,_,h=>h.elim
 |_::_,_::_,[],ps,_,_,h=>h.elim
theorem adi{f:FuncId}{fn:Func}{s:ChangeSpec}{args:Array Value}{ds gs:List (DataW H)}{before:List MemPlace}{vs:List V}{tb:TypeId}(hl:laidOutB P=true)
 (hr:(fn.params.toList.all fun t=>P.readableRec t&&decide (t<P.types.size))=true)(hvars:s.vars=[])(hres:fn.resultTypes= #[tb])(htb:P.underlying tb=some .bool)
 (hs1:(s.fn H (ds++gs)).results=[.lit (.bool true)])(hs2:(s.fn H (ds++gs)).args=ds)(hs3:(s.fn H (ds++gs)).vars=[])
 (hW:DataW.Whole enc P fn.params.toList s.vars false W args.toList ds gs before)(hargs:rG W (kW W) [] [] vs args.toList)
 (hcall:cB P f vs [] fun r _=>r=.c (.d (.b true)))(aj3:Ar W (kW W):=by(intro g p hm;exact absurd hm List.not_mem_nil)):
 Calls P f args W fun e W'=>∃v,e=.returned v/\s.post enc P fn false true false false W args v W':=by
 have hc:=hcall.2 W (kW W) [] args.toList (adh W aj3) hargs
 have e1:args.toList.toArray=args:=by simp
 rw[e1] at hc;refine hc.mono fun e W' ⟨v,r,S',σ',β',he,hS',hk,hst,hv,hp⟩=> ?_;subst hp;obtain⟨hv,_⟩:=hv;cases hv;refine⟨_,he,?_⟩;have hsame:∀b,b<W.heap.size->W'.heap[b]? =W.heap[b]? :=fun b hb=>(hst.far b hb aib).1;have hlt:=fun p hp=>hW.lt p hp;have hW0:=hW;obtain⟨pa,q,hA,hV,rfl,hz,hn⟩:=hW;rw[hvars] at hV
 have hq:gs=[]/\q=[]:=by
  obtain⟨h1,h2⟩:=trodVars_none hV;exact⟨h1,h2⟩
 obtain⟨rfl,rfl⟩:=hq
 rw[List.append_nil] at *
 refine⟨ds,[],pa,[],pa,[],?_,?_,?_,?_,?_,fun h=>by cases h⟩
 ·simpa using hW0
 ·rw[List.append_nil,hs1,hres];exact trodAll_cons_mk (shut_bool htb _) trodAll_mk0
 ·rw[List.append_nil,hs2];exact Fg hl hsame _ _ _ _ _ hr (fun p hp=>⟨hlt p hp,by simpa using hlt p hp⟩) hA
 ·rw[List.append_nil,hs3,hvars];rfl
 ·refine⟨hst.os,hst.output,fun i hi=> ?_⟩;rw[hsame i hi];split<;>simp_all
end
mutual
def D.sz:D->Nat
 | .s l=>l.length
 | .sl es=>es.length+aN es
 | .b _=>0
 | .i _ _=>0
 | .o _=>0
 | .ol _ es=>es.length+aN es
def bD:List D->Nat
 |[]=>0
 |d::ds=>d.sz+bD ds
def aN:List (List D)->Nat
 |[]=>0
 |r::rs=>bD r+aN rs
end
theorem aY:∀(a b:List D),bD (a++b)=bD a+bD b
 |[],b=>by simp[bD]
 |d::ds,b=>by rw[List.cons_append,bD,aY ds b,bD];omega
def mo(left:Int)(n:Nat):Int:=if left-n<0 then -1 else left-n
theorem HV{l:Int}{a:Nat}(h:¬mo l a<0):mo l a=l-a/\0<=l-a:=by
 unfold mo at *
 split at h
 ·omega
 ·rename_i h';exact⟨if_neg h',by omega⟩
theorem En{l:Int}{a:Nat}(h:mo l a<0):l-a<0:=by
 unfold mo at *
 split at h<;>omega
theorem HY{l:Int}{a:Nat}(h:l-a<0):mo l a= -1:=if_pos h
theorem Rc{l:Int}{a:Nat}(h:0<=l-a):mo l a=l-a:=if_neg (by omega)
theorem int_eq{k:IntKind}{a b:Int}(h:a=b):V.c (.d (.i k a))=V.c (.d (.i k b)):=by rw[h]
theorem bN{a b:Bool}(h:a=b):V.c (.d (.b a))=V.c (.d (.b b)):=by rw[h]
noncomputable def dec(p:Prop):Bool:= @decide p (Classical.propDecidable p)
theorem dH{p:Prop}(h:p):dec p=true:=by simp[dec,h]
theorem bM{p:Prop}(h:¬p):dec p=false:=by simp[dec,h]
theorem gP{p:Prop}(h:dec p=true):p:=by simpa [dec] using h
theorem kF{p:Prop}(h:dec p=false):¬p:=by simpa [dec] using h
theorem IK{p:Prop}:(dec p=true)=p:=by simp[dec]
theorem Rf{p:Prop}:(dec p=false)=¬p:=by simp[dec]
attribute [wf_preprocess] IK Rf
theorem kX{p q:Prop}(h:p<->q):dec p=dec q:=by rw[propext h]
theorem adj:dec True=true:=dH trivial
theorem aag:dec False=false:=bM id
attribute [go_sem] adj aag
theorem rO{p:Prop}[Decidable p]:decide p=dec p:=by by_cases h:p<;>simp[dec,h]
theorem dx{r:List D}:∀{rs:List (List D)},r∈rs->bD r<=aN rs
 |a::rs,h=>by
  rw[aN];rcases List.mem_cons.1 h with rfl|h
  ·omega
  ·have:=dx h;omega
def mQ(z i:Nat)(R rows:List (List D)):Prop:=R.length=rows.length/\(∀r∈R,r.length=z)/\∀j,j<i->R[j]? =rows[j]?
theorem mQ.start{z:Nat}{rows:List (List D)}{zero:List D}{n:Nat}(hn:n=rows.length)(h:zero.length=z):mQ z 0 (List.replicate n zero) rows:=by
 subst hn;exact⟨by simp,fun r hr=>by rw[List.eq_of_mem_replicate hr];exact h,fun j h=>by omega⟩
theorem mQ.step{z i:Nat}{R rows:List (List D)}{row:List D}(h:mQ z i R rows)(hi:rows[i]? =some row)(hr:row.length=z):mQ z (i+1) (R.set i (sO (R.getD i []) 0 row)) rows:=by
 obtain⟨h1,h2,h3⟩:=h;have hlt:i<rows.length:=(List.getElem?_eq_some_iff.1 hi).1
 have hs:sO (R.getD i []) 0 row=row:=by
  have hm:R.getD i []∈R:=by
   rw[List.getD_eq_getElem?_getD,List.getElem?_eq_getElem (by omega)];exact List.getElem_mem _
  have:=h2 _ hm;unfold sO;rw[List.take_zero,List.nil_append,Nat.zero_add,hr,List.drop_eq_nil_of_le (by omega),List.append_nil]
 rw[hs];refine⟨by simpa using h1,fun r hr'=> ?_,fun j hj=> ?_⟩
 ·rcases List.mem_or_eq_of_mem_set hr' with h|h
  ·exact h2 r h
  ·rw[h];exact hr
 ·by_cases e:j=i
  ·subst e;rw[hi,List.getElem?_set_self (by omega)]
  ·rw[List.getElem?_set_ne (by omega)];exact h3 j (by omega)
theorem mQ.done{z i:Nat}{R rows:List (List D)}(h:mQ z i R rows)(hi:rows.length<=i):R=rows:=by
 obtain⟨h1,h2,h3⟩:=h;refine List.ext_getElem? fun j=> ?_;by_cases hj:j<i
 ·exact h3 j hj
 ·rw[List.getElem?_eq_none (by omega),List.getElem?_eq_none (by omega)]
def encS(s:List UInt8):List D:=[.s s]
def encI(n:Int):List D:=[.i .i64 n]
inductive ay where
 |mk (aV:Int) (fName:List UInt8) (fArgs:List ay)
def ay.aV:ay->Int| .mk x _ _=>x
def ay.fName:ay->List UInt8| .mk _ x _=>x
def ay.fArgs:ay->List ay| .mk _ _ x=>x
theorem ay.eta(x:ay):ay.mk x.aV x.fName x.fArgs=x:=by cases x;rfl
theorem ay.ext{x y:ay}(h0:x.aV=y.aV)(h1:x.fName=y.fName)(h2:x.fArgs=y.fArgs):x=y:=by
 rw[<-ay.eta x,<-ay.eta y,h0,h1,h2]
mutual
def ay.enc:ay->List D
 | .mk a0 a1 a2=>[.i .i64 a0,.s a1,.sl (ay.encs a2)]
def ay.encs:List ay->List (List D)
 |[]=>[]
 |x::xs=>x.enc::ay.encs xs
end
theorem ay.jS:∀l,ay.encs l=l.map ay.enc
 |[]=>rfl
 |x::xs=>by rw[ay.encs,List.map_cons,ay.jS xs]
theorem ay.aj(x:ay):x.enc=[.i .i64 x.aV,.s x.fName,.sl (x.fArgs.map ay.enc)]:=by
 cases x;simp only[ay.enc,ay.jS,ay.aV,ay.fName,ay.fArgs]
abbrev ay.v(x:ay):V:=.agg [.d (.i .i64 x.aV),.d (.s x.fName),.d (.sl (x.fArgs.map ay.enc))]
theorem ay.uU(x:ay): .agg (x.enc.map .d)=x.v:=by
 simp only[ay.aj,List.map_cons,List.map_nil,List.cons_append,List.nil_append,List.map_append]
theorem ay.dh(x:ay):x.enc.length=3:=by
 simp only[ay.aj,List.length_append,List.length_cons,List.length_nil]
def ay.sz(x:ay):Nat:=bD x.enc
theorem ay.bY(x:ay):bD x.enc=x.sz:=rfl
theorem ay.jW(x:ay):SizeOf.sizeOf x.fArgs<SizeOf.sizeOf x:=by cases x;simp[ay.fArgs];omega
structure dX where
 fVar:List UInt8
 fType:ay
def dX.enc(x:dX):List D:=[.s x.fVar]++(x.fType.enc)
theorem dX.aj(x:dX):x.enc=[.s x.fVar]++(x.fType.enc):=rfl
theorem dX.eta(x:dX):dX.mk x.fVar x.fType=x:=rfl
theorem dX.ext'{x y:dX}(h0:x.fVar=y.fVar)(h1:x.fType=y.fType):x=y:=by
 cases x;cases y;simp_all
abbrev dX.v(x:dX):V:=.agg [.d (.s x.fVar),.d (.i .i64 x.fType.aV),.d (.s x.fType.fName),.d (.sl (x.fType.fArgs.map ay.enc))]
theorem dX.uU(x:dX): .agg (x.enc.map .d)=x.v:=by
 simp only[dX.aj,ay.aj,List.map_cons,List.map_nil,List.cons_append,List.nil_append,List.map_append]
theorem dX.dh(x:dX):x.enc.length=4:=by
 simp only[dX.aj,ay.dh,List.length_append,List.length_cons,List.length_nil]
def dX.sz(x:dX):Nat:=bD x.enc
theorem dX.bY(x:dX):bD x.enc=x.sz:=rfl
structure aU where
 bU:List UInt8
 fType:ay
def aU.enc(x:aU):List D:=[.s x.bU]++(x.fType.enc)
theorem aU.aj(x:aU):x.enc=[.s x.bU]++(x.fType.enc):=rfl
theorem aU.eta(x:aU):aU.mk x.bU x.fType=x:=rfl
theorem aU.ext'{x y:aU}(h0:x.bU=y.bU)(h1:x.fType=y.fType):x=y:=by
 cases x;cases y;simp_all
abbrev aU.v(x:aU):V:=.agg [.d (.s x.bU),.d (.i .i64 x.fType.aV),.d (.s x.fType.fName),.d (.sl (x.fType.fArgs.map ay.enc))]
theorem aU.uU(x:aU): .agg (x.enc.map .d)=x.v:=by
 simp only[aU.aj,ay.aj,List.map_cons,List.map_nil,List.cons_append,List.nil_append,List.map_append]
theorem aU.dh(x:aU):x.enc.length=4:=by
 simp only[aU.aj,ay.dh,List.length_append,List.length_cons,List.length_nil]
def aU.sz(x:aU):Nat:=bD x.enc
theorem aU.bY(x:aU):bD x.enc=x.sz:=rfl
mutual
inductive aC where
 |mk (aV:Int) (bU:List UInt8) (fName:List UInt8) (fN:Int) (fType:ay) (fArgs:List aC) (bH:List bn)
inductive bn where
 |mk (fK:List UInt8) (aS:List (List UInt8)) (fBody:aC)
end
def aC.aV:aC->Int| .mk x _ _ _ _ _ _=>x
def aC.bU:aC->List UInt8| .mk _ x _ _ _ _ _=>x
def aC.fName:aC->List UInt8| .mk _ _ x _ _ _ _=>x
def aC.fN:aC->Int| .mk _ _ _ x _ _ _=>x
def aC.fType:aC->ay| .mk _ _ _ _ x _ _=>x
def aC.fArgs:aC->List aC| .mk _ _ _ _ _ x _=>x
def aC.bH:aC->List bn| .mk _ _ _ _ _ _ x=>x
theorem aC.eta(x:aC):aC.mk x.aV x.bU x.fName x.fN x.fType x.fArgs x.bH=x:=by cases x;rfl
theorem aC.ext{x y:aC}(h0:x.aV=y.aV)(h1:x.bU=y.bU)(h2:x.fName=y.fName)(h3:x.fN=y.fN)(h4:x.fType=y.fType)(h5:x.fArgs=y.fArgs)(h6:x.bH=y.bH):x=y:=by
 rw[<-aC.eta x,<-aC.eta y,h0,h1,h2,h3,h4,h5,h6]
def bn.fK:bn->List UInt8| .mk x _ _=>x
def bn.aS:bn->List (List UInt8)| .mk _ x _=>x
def bn.fBody:bn->aC| .mk _ _ x=>x
theorem bn.eta(x:bn):bn.mk x.fK x.aS x.fBody=x:=by cases x;rfl
theorem bn.ext{x y:bn}(h0:x.fK=y.fK)(h1:x.aS=y.aS)(h2:x.fBody=y.fBody):x=y:=by
 rw[<-bn.eta x,<-bn.eta y,h0,h1,h2]
mutual
def aC.enc:aC->List D
 | .mk a0 a1 a2 a3 a4 a5 a6=>[.i .i64 a0,.s a1,.s a2,.i .i64 a3]++(a4.enc++([.sl (aC.encs a5),.sl (bn.encs a6)]))
def aC.encs:List aC->List (List D)
 |[]=>[]
 |x::xs=>x.enc::aC.encs xs
def bn.enc:bn->List D
 | .mk a0 a1 a2=>[.s a0,.sl (a1.map encS)]++(aC.enc a2)
def bn.encs:List bn->List (List D)
 |[]=>[]
 |x::xs=>x.enc::bn.encs xs
end
theorem aC.jS:∀l,aC.encs l=l.map aC.enc
 |[]=>rfl
 |x::xs=>by rw[aC.encs,List.map_cons,aC.jS xs]
theorem bn.jS:∀l,bn.encs l=l.map bn.enc
 |[]=>rfl
 |x::xs=>by rw[bn.encs,List.map_cons,bn.jS xs]
theorem aC.aj(x:aC):x.enc=[.i .i64 x.aV,.s x.bU,.s x.fName,.i .i64 x.fN]++(x.fType.enc++([.sl (x.fArgs.map aC.enc),.sl (x.bH.map bn.enc)])):=by
 cases x;simp only[aC.enc,aC.jS,bn.jS,aC.aV,aC.bU,aC.fName,aC.fN,aC.fType,aC.fArgs,aC.bH]
theorem bn.aj(x:bn):x.enc=[.s x.fK,.sl (x.aS.map encS)]++(x.fBody.enc):=by
 cases x;simp only[bn.enc,aC.jS,bn.jS,bn.fK,bn.aS,bn.fBody]
abbrev aC.v(x:aC):V:=.agg [.d (.i .i64 x.aV),.d (.s x.bU),.d (.s x.fName),.d (.i .i64 x.fN),.d (.i .i64 x.fType.aV),.d (.s x.fType.fName),.d (.sl (x.fType.fArgs.map ay.enc)),.d (.sl (x.fArgs.map aC.enc)),.d (.sl (x.bH.map bn.enc))]
theorem aC.uU(x:aC): .agg (x.enc.map .d)=x.v:=by
 simp only[aC.aj,ay.aj,List.map_cons,List.map_nil,List.cons_append,List.nil_append,List.map_append]
theorem aC.dh(x:aC):x.enc.length=9:=by
 simp only[aC.aj,ay.dh,List.length_append,List.length_cons,List.length_nil]
def aC.sz(x:aC):Nat:=bD x.enc
theorem aC.bY(x:aC):bD x.enc=x.sz:=rfl
theorem aC.jW(x:aC):SizeOf.sizeOf x.fArgs<SizeOf.sizeOf x:=by cases x;simp[aC.fArgs];omega
theorem aC.xW(x:aC):SizeOf.sizeOf x.bH<SizeOf.sizeOf x:=by cases x;simp[aC.bH];omega
abbrev bn.v(x:bn):V:=.agg [.d (.s x.fK),.d (.sl (x.aS.map encS)),.d (.i .i64 x.fBody.aV),.d (.s x.fBody.bU),.d (.s x.fBody.fName),.d (.i .i64 x.fBody.fN),.d (.i .i64 x.fBody.fType.aV),.d (.s x.fBody.fType.fName),.d (.sl (x.fBody.fType.fArgs.map ay.enc)),.d (.sl (x.fBody.fArgs.map aC.enc)),.d (.sl (x.fBody.bH.map bn.enc))]
theorem bn.uU(x:bn): .agg (x.enc.map .d)=x.v:=by
 simp only[bn.aj,aC.aj,ay.aj,List.map_cons,List.map_nil,List.cons_append,List.nil_append,List.map_append]
theorem bn.dh(x:bn):x.enc.length=11:=by
 simp only[bn.aj,aC.dh,List.length_append,List.length_cons,List.length_nil]
def bn.sz(x:bn):Nat:=bD x.enc
theorem bn.bY(x:bn):bD x.enc=x.sz:=rfl
theorem bn.vV(x:bn):SizeOf.sizeOf x.fBody<SizeOf.sizeOf x:=by cases x;simp[bn.fBody];omega
inductive au where
 |mk (bK:List UInt8) (aA:List au)
def au.bK:au->List UInt8| .mk x _=>x
def au.aA:au->List au| .mk _ x=>x
theorem au.eta(x:au):au.mk x.bK x.aA=x:=by cases x;rfl
theorem au.ext{x y:au}(h0:x.bK=y.bK)(h1:x.aA=y.aA):x=y:=by
 rw[<-au.eta x,<-au.eta y,h0,h1]
mutual
def au.enc:au->List D
 | .mk a0 a1=>[.s a0,.sl (au.encs a1)]
def au.encs:List au->List (List D)
 |[]=>[]
 |x::xs=>x.enc::au.encs xs
end
theorem au.jS:∀l,au.encs l=l.map au.enc
 |[]=>rfl
 |x::xs=>by rw[au.encs,List.map_cons,au.jS xs]
theorem au.aj(x:au):x.enc=[.s x.bK,.sl (x.aA.map au.enc)]:=by
 cases x;simp only[au.enc,au.jS,au.bK,au.aA]
abbrev au.v(x:au):V:=.agg [.d (.s x.bK),.d (.sl (x.aA.map au.enc))]
theorem au.uU(x:au): .agg (x.enc.map .d)=x.v:=by
 simp only[au.aj,List.map_cons,List.map_nil,List.cons_append,List.nil_append,List.map_append]
theorem au.dh(x:au):x.enc.length=2:=by
 simp only[au.aj,List.length_append,List.length_cons,List.length_nil]
def au.sz(x:au):Nat:=bD x.enc
theorem au.bY(x:au):bD x.enc=x.sz:=rfl
theorem au.Dq(x:au):SizeOf.sizeOf x.aA<SizeOf.sizeOf x:=by cases x;simp[au.aA];omega
structure aI where
 fName:List UInt8
 bP:List ay
 cu:ay
 gT:Bool
 aS:List (List UInt8)
 fBody:aC
def aI.enc(x:aI):List D:=[.s x.fName,.sl (x.bP.map ay.enc)]++(x.cu.enc++([.b x.gT,.sl (x.aS.map encS)]++(x.fBody.enc)))
theorem aI.aj(x:aI):x.enc=[.s x.fName,.sl (x.bP.map ay.enc)]++(x.cu.enc++([.b x.gT,.sl (x.aS.map encS)]++(x.fBody.enc))):=rfl
theorem aI.eta(x:aI):aI.mk x.fName x.bP x.cu x.gT x.aS x.fBody=x:=rfl
theorem aI.ext'{x y:aI}(h0:x.fName=y.fName)(h1:x.bP=y.bP)(h2:x.cu=y.cu)(h3:x.gT=y.gT)(h4:x.aS=y.aS)(h5:x.fBody=y.fBody):x=y:=by
 cases x;cases y;simp_all
abbrev aI.v(x:aI):V:=.agg [.d (.s x.fName),.d (.sl (x.bP.map ay.enc)),.d (.i .i64 x.cu.aV),.d (.s x.cu.fName),.d (.sl (x.cu.fArgs.map ay.enc)),.d (.b x.gT),.d (.sl (x.aS.map encS)),.d (.i .i64 x.fBody.aV),.d (.s x.fBody.bU),.d (.s x.fBody.fName),.d (.i .i64 x.fBody.fN),.d (.i .i64 x.fBody.fType.aV),.d (.s x.fBody.fType.fName),.d (.sl (x.fBody.fType.fArgs.map ay.enc)),.d (.sl (x.fBody.fArgs.map aC.enc)),.d (.sl (x.fBody.bH.map bn.enc))]
theorem aI.uU(x:aI): .agg (x.enc.map .d)=x.v:=by
 simp only[aI.aj,aC.aj,ay.aj,List.map_cons,List.map_nil,List.cons_append,List.nil_append,List.map_append]
theorem aI.dh(x:aI):x.enc.length=16:=by
 simp only[aI.aj,aC.dh,ay.dh,List.length_append,List.length_cons,List.length_nil]
def aI.sz(x:aI):Nat:=bD x.enc
theorem aI.bY(x:aI):bD x.enc=x.sz:=rfl
structure bF where
 fName:List UInt8
 cO:List (List UInt8)
 lV:Bool
 bW:Bool
 aK:List aI
def bF.enc(x:bF):List D:=[.s x.fName,.sl (x.cO.map encS),.b x.lV,.b x.bW,.sl (x.aK.map aI.enc)]
theorem bF.aj(x:bF):x.enc=[.s x.fName,.sl (x.cO.map encS),.b x.lV,.b x.bW,.sl (x.aK.map aI.enc)]:=rfl
theorem bF.eta(x:bF):bF.mk x.fName x.cO x.lV x.bW x.aK=x:=rfl
theorem bF.ext'{x y:bF}(h0:x.fName=y.fName)(h1:x.cO=y.cO)(h2:x.lV=y.lV)(h3:x.bW=y.bW)(h4:x.aK=y.aK):x=y:=by
 cases x;cases y;simp_all
abbrev bF.v(x:bF):V:=.agg [.d (.s x.fName),.d (.sl (x.cO.map encS)),.d (.b x.lV),.d (.b x.bW),.d (.sl (x.aK.map aI.enc))]
theorem bF.uU(x:bF): .agg (x.enc.map .d)=x.v:=by
 simp only[bF.aj,List.map_cons,List.map_nil,List.cons_append,List.nil_append,List.map_append]
theorem bF.dh(x:bF):x.enc.length=5:=by
 simp only[bF.aj,List.length_append,List.length_cons,List.length_nil]
def bF.sz(x:bF):Nat:=bD x.enc
theorem bF.bY(x:bF):bD x.enc=x.sz:=rfl
structure aH where
 fName:List UInt8
 gH:List ay
def aH.enc(x:aH):List D:=[.s x.fName,.sl (x.gH.map ay.enc)]
theorem aH.aj(x:aH):x.enc=[.s x.fName,.sl (x.gH.map ay.enc)]:=rfl
theorem aH.eta(x:aH):aH.mk x.fName x.gH=x:=rfl
theorem aH.ext'{x y:aH}(h0:x.fName=y.fName)(h1:x.gH=y.gH):x=y:=by
 cases x;cases y;simp_all
abbrev aH.v(x:aH):V:=.agg [.d (.s x.fName),.d (.sl (x.gH.map ay.enc))]
theorem aH.uU(x:aH): .agg (x.enc.map .d)=x.v:=by
 simp only[aH.aj,List.map_cons,List.map_nil,List.cons_append,List.nil_append,List.map_append]
theorem aH.dh(x:aH):x.enc.length=2:=by
 simp only[aH.aj,List.length_append,List.length_cons,List.length_nil]
def aH.sz(x:aH):Nat:=bD x.enc
theorem aH.bY(x:aH):bD x.enc=x.sz:=rfl
structure aR where
 fName:List UInt8
 aS:List (List UInt8)
 aF:List aH
def aR.enc(x:aR):List D:=[.s x.fName,.sl (x.aS.map encS),.sl (x.aF.map aH.enc)]
theorem aR.aj(x:aR):x.enc=[.s x.fName,.sl (x.aS.map encS),.sl (x.aF.map aH.enc)]:=rfl
theorem aR.eta(x:aR):aR.mk x.fName x.aS x.aF=x:=rfl
theorem aR.ext'{x y:aR}(h0:x.fName=y.fName)(h1:x.aS=y.aS)(h2:x.aF=y.aF):x=y:=by
 cases x;cases y;simp_all
abbrev aR.v(x:aR):V:=.agg [.d (.s x.fName),.d (.sl (x.aS.map encS)),.d (.sl (x.aF.map aH.enc))]
theorem aR.uU(x:aR): .agg (x.enc.map .d)=x.v:=by
 simp only[aR.aj,List.map_cons,List.map_nil,List.cons_append,List.nil_append,List.map_append]
theorem aR.dh(x:aR):x.enc.length=3:=by
 simp only[aR.aj,List.length_append,List.length_cons,List.length_nil]
def aR.sz(x:aR):Nat:=bD x.enc
theorem aR.bY(x:aR):bD x.enc=x.sz:=rfl
structure aT where
 fName:List UInt8
 aS:List (List UInt8)
 fBody:aC
def aT.enc(x:aT):List D:=[.s x.fName,.sl (x.aS.map encS)]++(x.fBody.enc)
theorem aT.aj(x:aT):x.enc=[.s x.fName,.sl (x.aS.map encS)]++(x.fBody.enc):=rfl
theorem aT.eta(x:aT):aT.mk x.fName x.aS x.fBody=x:=rfl
theorem aT.ext'{x y:aT}(h0:x.fName=y.fName)(h1:x.aS=y.aS)(h2:x.fBody=y.fBody):x=y:=by
 cases x;cases y;simp_all
abbrev aT.v(x:aT):V:=.agg [.d (.s x.fName),.d (.sl (x.aS.map encS)),.d (.i .i64 x.fBody.aV),.d (.s x.fBody.bU),.d (.s x.fBody.fName),.d (.i .i64 x.fBody.fN),.d (.i .i64 x.fBody.fType.aV),.d (.s x.fBody.fType.fName),.d (.sl (x.fBody.fType.fArgs.map ay.enc)),.d (.sl (x.fBody.fArgs.map aC.enc)),.d (.sl (x.fBody.bH.map bn.enc))]
theorem aT.uU(x:aT): .agg (x.enc.map .d)=x.v:=by
 simp only[aT.aj,aC.aj,ay.aj,List.map_cons,List.map_nil,List.cons_append,List.nil_append,List.map_append]
theorem aT.dh(x:aT):x.enc.length=11:=by
 simp only[aT.aj,aC.dh,List.length_append,List.length_cons,List.length_nil]
def aT.sz(x:aT):Nat:=bD x.enc
theorem aT.bY(x:aT):bD x.enc=x.sz:=rfl
structure aP where
 bU:List UInt8
 aS:List (List UInt8)
 dL:ay
 dS:List aU
 iR:Bool
 fM:Bool
 bW:ay
 bC:List aT
def aP.enc(x:aP):List D:=[.s x.bU,.sl (x.aS.map encS)]++(x.dL.enc++([.sl (x.dS.map aU.enc),.b x.iR,.b x.fM]++(x.bW.enc++([.sl (x.bC.map aT.enc)]))))
theorem aP.aj(x:aP):x.enc=[.s x.bU,.sl (x.aS.map encS)]++(x.dL.enc++([.sl (x.dS.map aU.enc),.b x.iR,.b x.fM]++(x.bW.enc++([.sl (x.bC.map aT.enc)])))):=rfl
theorem aP.eta(x:aP):aP.mk x.bU x.aS x.dL x.dS x.iR x.fM x.bW x.bC=x:=rfl
theorem aP.ext'{x y:aP}(h0:x.bU=y.bU)(h1:x.aS=y.aS)(h2:x.dL=y.dL)(h3:x.dS=y.dS)(h4:x.iR=y.iR)(h5:x.fM=y.fM)(h6:x.bW=y.bW)(h7:x.bC=y.bC):x=y:=by
 cases x;cases y;simp_all
abbrev aP.v(x:aP):V:=.agg [.d (.s x.bU),.d (.sl (x.aS.map encS)),.d (.i .i64 x.dL.aV),.d (.s x.dL.fName),.d (.sl (x.dL.fArgs.map ay.enc)),.d (.sl (x.dS.map aU.enc)),.d (.b x.iR),.d (.b x.fM),.d (.i .i64 x.bW.aV),.d (.s x.bW.fName),.d (.sl (x.bW.fArgs.map ay.enc)),.d (.sl (x.bC.map aT.enc))]
theorem aP.uU(x:aP): .agg (x.enc.map .d)=x.v:=by
 simp only[aP.aj,ay.aj,List.map_cons,List.map_nil,List.cons_append,List.nil_append,List.map_append]
theorem aP.dh(x:aP):x.enc.length=12:=by
 simp only[aP.aj,ay.dh,List.length_append,List.length_cons,List.length_nil]
def aP.sz(x:aP):Nat:=bD x.enc
theorem aP.bY(x:aP):bD x.enc=x.sz:=rfl
structure dG where
 fName:List UInt8
 fType:ay
def dG.enc(x:dG):List D:=[.s x.fName]++(x.fType.enc)
theorem dG.aj(x:dG):x.enc=[.s x.fName]++(x.fType.enc):=rfl
theorem dG.eta(x:dG):dG.mk x.fName x.fType=x:=rfl
theorem dG.ext'{x y:dG}(h0:x.fName=y.fName)(h1:x.fType=y.fType):x=y:=by
 cases x;cases y;simp_all
abbrev dG.v(x:dG):V:=.agg [.d (.s x.fName),.d (.i .i64 x.fType.aV),.d (.s x.fType.fName),.d (.sl (x.fType.fArgs.map ay.enc))]
theorem dG.uU(x:dG): .agg (x.enc.map .d)=x.v:=by
 simp only[dG.aj,ay.aj,List.map_cons,List.map_nil,List.cons_append,List.nil_append,List.map_append]
theorem dG.dh(x:dG):x.enc.length=4:=by
 simp only[dG.aj,ay.dh,List.length_append,List.length_cons,List.length_nil]
def dG.sz(x:dG):Nat:=bD x.enc
theorem dG.bY(x:dG):bD x.enc=x.sz:=rfl
structure bJ where
 fName:List UInt8
 aS:List (List UInt8)
 dS:List aU
 bP:List dG
 cu:ay
 fBody:aC
def bJ.enc(x:bJ):List D:=[.s x.fName,.sl (x.aS.map encS),.sl (x.dS.map aU.enc),.sl (x.bP.map dG.enc)]++(x.cu.enc++(x.fBody.enc))
theorem bJ.aj(x:bJ):x.enc=[.s x.fName,.sl (x.aS.map encS),.sl (x.dS.map aU.enc),.sl (x.bP.map dG.enc)]++(x.cu.enc++(x.fBody.enc)):=rfl
theorem bJ.eta(x:bJ):bJ.mk x.fName x.aS x.dS x.bP x.cu x.fBody=x:=rfl
theorem bJ.ext'{x y:bJ}(h0:x.fName=y.fName)(h1:x.aS=y.aS)(h2:x.dS=y.dS)(h3:x.bP=y.bP)(h4:x.cu=y.cu)(h5:x.fBody=y.fBody):x=y:=by
 cases x;cases y;simp_all
abbrev bJ.v(x:bJ):V:=.agg [.d (.s x.fName),.d (.sl (x.aS.map encS)),.d (.sl (x.dS.map aU.enc)),.d (.sl (x.bP.map dG.enc)),.d (.i .i64 x.cu.aV),.d (.s x.cu.fName),.d (.sl (x.cu.fArgs.map ay.enc)),.d (.i .i64 x.fBody.aV),.d (.s x.fBody.bU),.d (.s x.fBody.fName),.d (.i .i64 x.fBody.fN),.d (.i .i64 x.fBody.fType.aV),.d (.s x.fBody.fType.fName),.d (.sl (x.fBody.fType.fArgs.map ay.enc)),.d (.sl (x.fBody.fArgs.map aC.enc)),.d (.sl (x.fBody.bH.map bn.enc))]
theorem bJ.uU(x:bJ): .agg (x.enc.map .d)=x.v:=by
 simp only[bJ.aj,aC.aj,ay.aj,List.map_cons,List.map_nil,List.cons_append,List.nil_append,List.map_append]
theorem bJ.dh(x:bJ):x.enc.length=16:=by
 simp only[bJ.aj,aC.dh,ay.dh,List.length_append,List.length_cons,List.length_nil]
def bJ.sz(x:bJ):Nat:=bD x.enc
theorem bJ.bY(x:bJ):bD x.enc=x.sz:=rfl
structure aM where
 fName:List UInt8
 iV:List (List UInt8)
 dI:List bF
 aO:List aR
 dV:List aP
 dB:List bJ
def aM.enc(x:aM):List D:=[.s x.fName,.sl (x.iV.map encS),.sl (x.dI.map bF.enc),.sl (x.aO.map aR.enc),.sl (x.dV.map aP.enc),.sl (x.dB.map bJ.enc)]
theorem aM.aj(x:aM):x.enc=[.s x.fName,.sl (x.iV.map encS),.sl (x.dI.map bF.enc),.sl (x.aO.map aR.enc),.sl (x.dV.map aP.enc),.sl (x.dB.map bJ.enc)]:=rfl
theorem aM.eta(x:aM):aM.mk x.fName x.iV x.dI x.aO x.dV x.dB=x:=rfl
theorem aM.ext'{x y:aM}(h0:x.fName=y.fName)(h1:x.iV=y.iV)(h2:x.dI=y.dI)(h3:x.aO=y.aO)(h4:x.dV=y.dV)(h5:x.dB=y.dB):x=y:=by
 cases x;cases y;simp_all
abbrev aM.v(x:aM):V:=.agg [.d (.s x.fName),.d (.sl (x.iV.map encS)),.d (.sl (x.dI.map bF.enc)),.d (.sl (x.aO.map aR.enc)),.d (.sl (x.dV.map aP.enc)),.d (.sl (x.dB.map bJ.enc))]
theorem aM.uU(x:aM): .agg (x.enc.map .d)=x.v:=by
 simp only[aM.aj,List.map_cons,List.map_nil,List.cons_append,List.nil_append,List.map_append]
theorem aM.dh(x:aM):x.enc.length=6:=by
 simp only[aM.aj,List.length_append,List.length_cons,List.length_nil]
def aM.sz(x:aM):Nat:=bD x.enc
theorem aM.bY(x:aM):bD x.enc=x.sz:=rfl
structure bG where
 aQ:List aM
def bG.enc(x:bG):List D:=[.sl (x.aQ.map aM.enc)]
theorem bG.aj(x:bG):x.enc=[.sl (x.aQ.map aM.enc)]:=rfl
theorem bG.eta(x:bG):bG.mk x.aQ=x:=rfl
theorem bG.ext'{x y:bG}(h0:x.aQ=y.aQ):x=y:=by
 cases x;cases y;simp_all
abbrev bG.v(x:bG):V:=.agg [.d (.sl (x.aQ.map aM.enc))]
theorem bG.uU(x:bG): .agg (x.enc.map .d)=x.v:=by
 simp only[bG.aj,List.map_cons,List.map_nil,List.cons_append,List.nil_append,List.map_append]
theorem bG.dh(x:bG):x.enc.length=1:=by
 simp only[bG.aj,List.length_append,List.length_cons,List.length_nil]
def bG.sz(x:bG):Nat:=bD x.enc
theorem bG.bY(x:bG):bD x.enc=x.sz:=rfl
structure dU where
 xX:Int
 U4:Int
def dU.enc(x:dU):List D:=[.i .i64 x.xX,.i .i64 x.U4]
theorem dU.aj(x:dU):x.enc=[.i .i64 x.xX,.i .i64 x.U4]:=rfl
theorem dU.eta(x:dU):dU.mk x.xX x.U4=x:=rfl
theorem dU.ext'{x y:dU}(h0:x.xX=y.xX)(h1:x.U4=y.U4):x=y:=by
 cases x;cases y;simp_all
abbrev dU.v(x:dU):V:=.agg [.d (.i .i64 x.xX),.d (.i .i64 x.U4)]
theorem dU.uU(x:dU): .agg (x.enc.map .d)=x.v:=by
 simp only[dU.aj,List.map_cons,List.map_nil,List.cons_append,List.nil_append,List.map_append]
theorem dU.dh(x:dU):x.enc.length=2:=by
 simp only[dU.aj,List.length_append,List.length_cons,List.length_nil]
def dU.sz(x:dU):Nat:=bD x.enc
theorem dU.bY(x:dU):bD x.enc=x.sz:=rfl
attribute [go_sem] ay.aj dX.aj aU.aj aC.aj bn.aj au.aj aI.aj bF.aj aH.aj aR.aj aT.aj aP.aj dG.aj bJ.aj aM.aj bG.aj dU.aj encS encI
def U5:List dX->List UInt8->Option ay
 |[],_=>none
 |b::bs,v=>if b.fVar=v then some b.fType else U5 bs v
mutual
noncomputable def A8(s:List dX):ay->ay->Option (List dX)
 | .mk k n a,t=>
   if k=1 then
    match U5 s n with
    |some u=>if dec (u=t)=true then some s else none
    |none=>some (s++[⟨n,t⟩])
   else if k=t.aV/\n=t.fName/\a.length=t.fArgs.length then uZ s a t.fArgs else none
noncomputable def uZ(s:List dX):List ay->List ay->Option (List dX)
 |[],_=>some s
 |_::_,[]=>none
 |p::ps,t::ts=>
  match A8 s p t with
  |some s'=>uZ s' ps ts
  |none=>none
end
mutual
def ay.cnt:ay->Nat
 | .mk _ _ a=>1+ay.gq a
def ay.gq:List ay->Nat
 |[]=>0
 |t::ts=>t.cnt+ay.gq ts
end
theorem ay.A9(t:ay):t.cnt=1+ay.gq t.fArgs:=by cases t;rw[ay.cnt];rfl
mutual
theorem qI:∀t:ay,t.cnt<=1+t.sz
 | .mk k n a=>by
   have h:=vW a;rw[ay.cnt]
   have e:(ay.mk k n a).sz=n.length+(a.length+aN (a.map ay.enc)):=by
    simp only[ay.sz,ay.aj,bD,D.sz,List.length_map,ay.fName,ay.fArgs,Nat.add_zero,Nat.zero_add]
   omega
theorem vW:∀ts:List ay,ay.gq ts<=ts.length+aN (ts.map ay.enc)
 |[]=>by simp[ay.gq]
 |t::ts=>by
  have h1:=qI t;have h2:=vW ts;rw[ay.gq,List.length_cons,List.map_cons,aN,ay.bY];omega
end
mutual
theorem Xk:∀(p:ay)(s:List dX)(t:ay)(s':List dX),A8 s p t=some s'->s'.length<=s.length+p.cnt
 | .mk k n a,s,t,s',h=>by
   rw[A8] at h;rw[ay.cnt];split at h
   ·split at h
    ·split at h
     ·cases h;omega
     ·cases h
    ·cases h;simp
   ·split at h
    ·have:=KP a s t.fArgs s' h;omega
    ·cases h
theorem KP:∀(ps:List ay)(s:List dX)(ts:List ay)(s':List dX),uZ s ps ts=some s'->s'.length<=s.length+ay.gq ps
 |[],s,ts,s',h=>by rw[uZ] at h;cases h;omega
 |p::ps,s,[],s',h=>by rw[uZ] at h;cases h
 |p::ps,s,t::ts,s',h=>by
  rw[uZ] at h;rw[ay.gq]
  cases hm:A8 s p t with
  |none=>rw[hm] at h;cases h
  |some s1=>
   rw[hm] at h;have h1:=Xk p s t s1 hm;have h2:=KP ps s1 ts s' h;omega
end
def Small(s:List dX):Prop:=∀b∈s,b.fType.sz<=4194304
mutual
theorem Rh:∀(p:ay)(s:List dX)(t:ay)(s':List dX),t.sz<=4194304->Small s->A8 s p t=some s'->Small s'
 | .mk k n a,s,t,s',ht,hs,h=>by
   rw[A8] at h;split at h
   ·split at h
    ·split at h
     ·cases h;exact hs
     ·cases h
    ·cases h;intro b hb;rcases List.mem_append.1 hb with hb|hb
     ·exact hs b hb
     ·simp at hb;subst hb;exact ht
   ·split at h
    ·refine F6 a s t.fArgs s' ?_ hs h;intro x hx;have h1:=dx (List.mem_map_of_mem (f:=ay.enc) hx)
     have h2:t.sz=t.fName.length+(t.fArgs.length+aN (t.fArgs.map ay.enc)):=by
      simp only[ay.sz,ay.aj,bD,aY,D.sz,List.length_map,Nat.add_zero,Nat.zero_add]
     rw[ay.bY] at h1;omega
    ·cases h
theorem F6:∀(ps:List ay)(s:List dX)(ts:List ay)(s':List dX),(∀t∈ts,t.sz<=4194304)->Small s->uZ s ps ts=some s'->Small s'
 |[],s,ts,s',ht,hs,h=>by rw[uZ] at h;cases h;exact hs
 |p::ps,s,[],s',ht,hs,h=>by rw[uZ] at h;cases h
 |p::ps,s,t::ts,s',ht,hs,h=>by
  rw[uZ] at h
  cases hm:A8 s p t with
  |none=>rw[hm] at h;cases h
  |some s1=>
   rw[hm] at h;exact F6 ps s1 ts s' (fun x hx=>ht x (by simp[hx])) (Rh p s t s1 (ht t (by simp)) hs hm) h
end
end Go.Ab
namespace Go.Proofs.YtfhpfkaeldgcmaaGreat.Fa
open Go Go.Ab
abbrev fC(t c b:Nat)(z:List C):Prop:=prog.cellsOf t=c/\prog.bytesOf t=b/\(prog.info? t).isSome=true/\iM prog t=some z
theorem fE{t c b:Nat}{z:List C}(h1:prog.cellsOf t=c:=by kernel_rfl)(h2:prog.bytesOf t=b:=by kernel_rfl)(h3:(prog.info? t).isSome=true:=by kernel_rfl)(h4:iM prog t=some z:=by kernel_rfl):fC t c b z:=⟨h1,h2,h3,h4⟩
theorem ty1:fC 1 1 8 [.d (.o .nilFunc)]:=fE
theorem ty2:fC 2 1 8 [.d (.i .i64 0)]:=fE
theorem ty3:fC 3 1 8 [.d (.i .i64 0)]:=fE
theorem ty4:fC 4 1 1 [.d (.b false)]:=fE
theorem aj4:zeroV prog 4=some (.bool false):=by kernel_rfl
theorem ty5:fC 5 1 1 [.d (.i .u8 0)]:=fE
theorem ty9:fC 9 1 16 [.d (.s [])]:=fE
theorem alz:fC 12 1 8 [.d (.i .u64 0)]:=fE
theorem alA:fC 20 1 16 [.d (.o .nilIface)]:=fE
theorem alB:fC 21 1 4 [.d (.i .i32 0)]:=fE
theorem alC:fC 22 1 24 [.bI []]:=fE
theorem alD:fC 23 1 8 [.d (.o .nilFunc)]:=fE
theorem alE:fC 24 1 24 [.bI []]:=fE
theorem alF:fC 25 1 24 [.bI []]:=fE
theorem alG:fC 26 1 24 [.bI []]:=fE
theorem alH:fC 28 1 8 [.d (.o .nilFunc)]:=fE
theorem alI:fC 29 1 24 [.bI []]:=fE
theorem alJ:fC 30 1 8 [.d (.o .nilFunc)]:=fE
theorem alK:fC 34 1 8 [.d (.o .nilFunc)]:=fE
theorem alL:fC 35 1 24 [.bI []]:=fE
theorem alM:fC 36 1 8 [.d (.o .nilFunc)]:=fE
theorem alN:fC 37 1 8 [.d (.o .nilFunc)]:=fE
theorem alO:fC 38 1 24 [.bI []]:=fE
theorem alP:fC 39 1 24 [.bI []]:=fE
theorem alQ:fC 41 3 48 [.d (.i .i64 0),.d (.s []),.bI []]:=fE
theorem alR:fC 42 1 24 [.bI []]:=fE
theorem alS:fC 43 1 24 [.bI []]:=fE
theorem alT:fC 44 12 192 [.d (.s []),.bI [],.d (.i .i64 0),.d (.s []),.bI [],.bI [],.d (.b false),.d (.b false),.d (.i .i64 0),.d (.s []),.bI [],.bI []]:=fE
theorem alU:fC 45 12 192 [.d (.s []),.bI [],.d (.i .i64 0),.d (.s []),.bI [],.bI [],.d (.b false),.d (.b false),.d (.i .i64 0),.d (.s []),.bI [],.bI []]:=fE
theorem alV:fC 48 2 16 [.d (.i .i64 0),.d (.i .i64 0)]:=fE
theorem alW:fC 49 2 16 [.d (.i .i64 0),.d (.i .i64 0)]:=fE
theorem alX:fC 51 1 8 [.d (.o .nilFunc)]:=fE
theorem alY:fC 52 1 24 [.bI []]:=fE
theorem alZ:fC 53 5 72 [.d (.s []),.bI [],.d (.b false),.d (.b false),.bI []]:=fE
theorem al0:fC 54 5 72 [.d (.s []),.bI [],.d (.b false),.d (.b false),.bI []]:=fE
theorem al1:fC 56 1 8 [.d (.o .nilFunc)]:=fE
theorem al2:fC 57 1 24 [.bI []]:=fE
theorem al3:fC 58 3 64 [.d (.s []),.bI [],.bI []]:=fE
theorem al4:fC 59 3 64 [.d (.s []),.bI [],.bI []]:=fE
theorem al5:fC 63 2 40 [.d (.s []),.bI []]:=fE
theorem al6:fC 65 1 8 [.d (.o .nilFunc)]:=fE
theorem al7:fC 66 1 8 [.d (.o .nilFunc)]:=fE
theorem al8:fC 67 1 8 [.d (.o (.pointer none))]:=fE
theorem al9:fC 68 1 8 [.d (.o .nilFunc)]:=fE
theorem ama:fC 69 1 8 [.d (.o .nilFunc)]:=fE
theorem amb:fC 70 1 8 [.d (.o .nilFunc)]:=fE
theorem amc:fC 71 1 24 [.bI []]:=fE
theorem amd:fC 72 1 24 [.bI []]:=fE
theorem ame:fC 73 1 24 [.bI []]:=fE
theorem amf:fC 74 1 24 [.bI []]:=fE
theorem amg:fC 75 1 24 [.bI []]:=fE
theorem amh:fC 77 6 136 [.d (.s []),.bI [],.bI [],.bI [],.bI [],.bI []]:=fE
theorem ami:fC 80 1 24 [.bI []]:=fE
theorem amj:fC 82 1 8 [.d (.o .nilFunc)]:=fE
theorem amk:fC 83 1 8 [.d (.o .nilFunc)]:=fE
theorem aml:fC 84 1 8 [.d (.o .nilFunc)]:=fE
theorem amm:fC 91 1 8 [.d (.o .nilFunc)]:=fE
theorem amn:fC 92 1 8 [.d (.o .nilFunc)]:=fE
theorem amo:fC 95 1 8 [.d (.o .nilFunc)]:=fE
theorem amq:fC 96 2 48 [.bI [],.bI []]:=fE
theorem amr:fC 97 2 48 [.bI [],.bI []]:=fE
theorem aj5:fC 101 3 40 [.bI [],.d (.i .i64 0),.d (.i .i64 0)]:=fE
theorem aj6:fC 106 1 8 [.d (.o .nilFunc)]:=fE
theorem aj7:fC 111 1 24 [.bI []]:=fE
theorem aj8:fC 112 1 24 [.bI []]:=fE
theorem aj9:fC 113 1 24 [.bI []]:=fE
theorem akb:fC 115 9 144 [.d (.i .i64 0),.d (.s []),.d (.s []),.d (.i .i64 0),.d (.i .i64 0),.d (.s []),.bI [],.bI [],.bI []]:=fE
theorem akc:fC 117 16 280 [.d (.s []),.bI [],.bI [],.bI [],.d (.i .i64 0),.d (.s []),.bI [],.d (.i .i64 0),.d (.s []),.d (.s []),.d (.i .i64 0),.d (.i .i64 0),.d (.s []),.bI [],.bI [],.bI []]:=fE
theorem akd:fC 121 1 8 [.d (.o (.map none))]:=fE
theorem ake:fC 128 11 184 [.d (.s []),.bI [],.d (.i .i64 0),.d (.s []),.d (.s []),.d (.i .i64 0),.d (.i .i64 0),.d (.s []),.bI [],.bI [],.bI []]:=fE
theorem akf:fC 131 16 264 [.d (.s []),.bI [],.d (.i .i64 0),.d (.s []),.bI [],.d (.b false),.bI [],.d (.i .i64 0),.d (.s []),.d (.s []),.d (.i .i64 0),.d (.i .i64 0),.d (.s []),.bI [],.bI [],.bI []]:=fE
theorem akg:fC 134 4 96 [.bI [],.bI [],.bI [],.bI []]:=fE
theorem akh:fC 151 1 8 [.d (.o .nilFunc)]:=fE
theorem aki:fC 154 1 8 [.d (.o .nilFunc)]:=fE
theorem akj:fC 164 4 64 [.d (.s []),.d (.i .i64 0),.d (.s []),.bI []]:=fE
theorem akk:fC 167 11 184 [.d (.s []),.bI [],.d (.i .i64 0),.d (.s []),.d (.s []),.d (.i .i64 0),.d (.i .i64 0),.d (.s []),.bI [],.bI [],.bI []]:=fE
theorem akl:fC 179 4 64 [.d (.s []),.d (.i .i64 0),.d (.s []),.bI []]:=fE
theorem akm:fC 180 1 8 [.d (.o .nilFunc)]:=fE
theorem akn:fC 183 1 8 [.d (.o .nilFunc)]:=fE
theorem ako:fC 186 1 8 [.d (.o .nilFunc)]:=fE
theorem akp:fC 194 1 8 [.d (.o .nilFunc)]:=fE
theorem akq:fC 200 1 24 [.bI []]:=fE
theorem akr:fC 202 2 40 [.d (.s []),.bI []]:=fE
theorem aks:fC 207 1 8 [.d (.o .nilFunc)]:=fE
theorem akt:fC 210 1 8 [.d (.o .nilFunc)]:=fE
theorem aku:fC 213 1 8 [.d (.o .nilFunc)]:=fE
theorem akv:fC 219 1 8 [.d (.o (.pointer none))]:=fE
theorem akw:fC 221 5 48 [.d (.s []),.d (.i .i64 0),.d (.i .i64 0),.d (.i .i64 0),.d (.b false)]:=fE
theorem akx:fC 229 1 8 [.d (.o (.pointer none))]:=fE
theorem aky:fC 236 1 24 [.bI []]:=fE
theorem laidOut:laidOutB prog=true:=by kernel_rfl
theorem own:ownKnob prog.godebug=none:=by kernel_rfl
attribute [go_sem] ty1 underlying1 ty2 underlying2 ty3 underlying3 ty4 underlying4 aj4 ty5 underlying5 ty9 underlying9 alz underlying12 alA underlying20 alB underlying21 alC underlying22 alD underlying23 alE underlying24 alF underlying25 alG underlying26 alH underlying28 alI underlying29 alJ underlying30 alK underlying34 alL underlying35 alM underlying36 alN underlying37 alO underlying38 alP underlying39 alQ underlying41 alR underlying42 alS underlying43 alT underlying44 alU underlying45 alV underlying48 alW underlying49 alX underlying51 alY underlying52 alZ underlying53 al0 underlying54 al1 underlying56 al2 underlying57 al3 underlying58 al4 underlying59 al5 underlying63 al6 underlying65 al7 underlying66 al8 underlying67 al9 underlying68 ama underlying69 amb underlying70 amc underlying71 amd underlying72 ame underlying73 amf underlying74 amg underlying75 amh underlying77 ami underlying80 amj underlying82 amk underlying83 aml underlying84 amm underlying91 amn underlying92 amo underlying95 amq underlying96 amr underlying97 aj5 underlying101 aj6 underlying106 aj7 underlying111 aj8 underlying112 aj9 underlying113 akb underlying115 akc underlying117 akd underlying121 ake underlying128 akf underlying131 akg underlying134 akh underlying151 aki underlying154 akj underlying164 akk underlying167 akl underlying179 akm underlying180 akn underlying183 ako underlying186 akp underlying194 akq underlying200 akr underlying202 aks underlying207 akt underlying210 aku underlying213 akv underlying219 akw underlying221 akx underlying229 aky underlying236
end Go.Proofs.YtfhpfkaeldgcmaaGreat.Fa
namespace Go.Ab
mutual
def aC.cnt:aC->Nat
 | .mk _ _ _ _ _ a b=>1+(aC.gq a+bn.gq b)
def aC.gq:List aC->Nat
 |[]=>0
 |x::xs=>x.cnt+aC.gq xs
def bn.cnt:bn->Nat
 | .mk _ _ b=>b.cnt
def bn.gq:List bn->Nat
 |[]=>0
 |x::xs=>x.cnt+bn.gq xs
end
theorem aC.A9(x:aC):x.cnt=1+(aC.gq x.fArgs+bn.gq x.bH):=by cases x;rw[aC.cnt];rfl
theorem bn.A9(x:bn):x.cnt=x.fBody.cnt:=by cases x;rw[bn.cnt];rfl
theorem aC.qY{xs:List aC}{i:Nat}(hi:i<xs.length):aC.gq (xs.drop i)=xs[i].cnt+aC.gq (xs.drop (i+1)):=by rw[List.drop_eq_getElem_cons hi,aC.gq]
theorem bn.qY{xs:List bn}{i:Nat}(hi:i<xs.length):bn.gq (xs.drop i)=xs[i].fBody.cnt+bn.gq (xs.drop (i+1)):=by rw[List.drop_eq_getElem_cons hi,bn.gq,bn.A9]
theorem aC.Jw(x:aC):x.fArgs.length+aN (x.fArgs.map aC.enc)<=x.sz/\x.bH.length+aN (x.bH.map bn.enc)<=x.sz:=by
 simp only[aC.sz,aC.aj,bD,aY,D.sz,List.length_map];omega
theorem bn.U6(x:bn):x.fBody.sz<=x.sz:=by
 simp only[bn.sz,bn.aj,aC.sz,bD,aY,D.sz,List.length_map];omega
mutual
theorem aC.qI:∀x:aC,x.cnt<=1+x.sz
 | .mk k t n m ty a b=>by
   have h1:=aC.vW a;have h2:=bn.vW b;rw[aC.cnt];simp only[aC.sz,aC.aj,bD,aY,D.sz,List.length_map,aC.fArgs,aC.bH];omega
theorem aC.vW:∀xs:List aC,aC.gq xs<=xs.length+aN (xs.map aC.enc)
 |[]=>by simp[aC.gq]
 |x::xs=>by
  have h1:=aC.qI x;have h2:=aC.vW xs;rw[aC.gq,List.length_cons,List.map_cons,aN,aC.bY];omega
theorem bn.qI:∀x:bn,x.cnt<=1+x.sz
 | .mk c v b=>by
   have h1:=aC.qI b;have h2:=bn.U6 (.mk c v b);rw[bn.cnt];simp only[bn.fBody] at h2;omega
theorem bn.vW:∀xs:List bn,bn.gq xs<=xs.length+aN (xs.map bn.enc)
 |[]=>by simp[bn.gq]
 |x::xs=>by
  have h1:=bn.qI x;have h2:=bn.vW xs;rw[bn.gq,List.length_cons,List.map_cons,aN,bn.bY];omega
end
end Go.Ab