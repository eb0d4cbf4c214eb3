/-
  SEVERAL TEXTS IN ONE (merged by program): contracts and models, each with its own heading.
-/
import Derived.Test.YtcfhnaohbaplhaaGreatDoorPartTfbC
import Derived.Shelf.LaysM
import Derived.Shelf.Strconv.Itoa3
import Derived.Test.YtcfhnaohbaplhaaGreatDoorProg
import Derived.WalkKit
import Derived.ProofKit
import Derived.Lib.AppendZeros
import Derived.Laws.Cover3
import Derived.Test.YtcfhnaohbaplhaaGreatDoorRows
import Derived.OpenShut
import Derived.LaidMore
set_option linter.unusedSimpArgs false
set_option linter.unusedVariables false
set_option maxRecDepth 4000
set_option maxRecDepth 8000
namespace Go.Ab
theorem JL{P:Program}{N:Nat}(n:Nat){f:FuncId}{fn:Func}{c:Code}{args:List V}{aN:List Obj}{Ω:Store}{post:V→Store→Prop}{rs:List ResultVar}(gL:P.follows .mixedOrders=true)(hf:P.funcs[f]? =some fn)(hN:fn.ntmps=N)
 (hb:fn.body=some c) (hn:(fn.name== "runtime.NumGoroutine")=false) (hr:fn.results.toList=rs) (hl:Nat.ble args.length N=true) (hok:codeOk N c=true)
 (h:CW P N c (Et P rs post) ⟨jN (args.map (V.up 1)) 0,[.seed n]::aN::Ω⟩):bN P f args (aN::Ω) post:=by
 subst hN
 subst hr
 exact BA hf hb hn (Nat.le_of_ble_eq_true hl) (Ao n (jf gL c _ _ hok h))
theorem Ph{P:Program}{N:Nat}{c:Code}{Q:Exit→St→Prop}{tm:List (Nat×V)}{Ω:Store}(n k:Nat)(h:AW P N c Q ⟨tm,[.seed n,.seed k]::Ω⟩):AW P N c Q ⟨tm,[]::Ω⟩:=by
 refine Ao n (lK h fun a w σ β hR=> ?_)
 obtain⟨bo,bΩ,rfl,hlen⟩:=frames hR
 obtain⟨hS',hk,hst⟩:=hR.S.push (o:=.seed k) (h:=undef) (Grow.refl hR.S.live) hlen trivial (fun b hb=>by cases hb)
 exact⟨σ,_,⟨hR.size,hR.defers,hS',fun u=>(hR.T u).mono (dx.refl _ _) hk⟩,hst,Keep.refl _ _⟩
section
variable {P:Program} {N:Nat} {S:Store}
theorem JM(n k:Nat){f:FuncId}{fn:Func}{c:Code}{args:List V}{post:V→Store→Prop}{rs:List ResultVar}(gL:P.follows .mixedOrders=true)(hf:P.funcs[f]? =some fn)(hN:fn.ntmps=N)
 (hb:fn.body=some c) (hn:(fn.name== "runtime.NumGoroutine")=false) (hr:fn.results.toList=rs) (hl:Nat.ble args.length N=true) (hok:codeOk N c=true)
 (h:CW P N c (JH P n rs post) ⟨jN (args.map (V.up 1)) 0,[.seed n,.seed k]::S⟩):bN P f args S post:=by
 subst hN
 subst hr
 exact rP hf hb hn (Nat.le_of_ble_eq_true hl) (Ph n k (DI (vQ n) (jf gL c _ _ hok h)))
end
end Go.Ab
namespace Go.Ab
section
variable {P:Program} {w w':World} {σ σ':Nat→Nat} {S:Store} {β:Hs}
def jT(w:World)(σ:Nat→Nat)(lo hi b:Nat):Prop:=∃c t fz m,w.heap[b]? =some (.cells c t fz)∧σ b=c.size+1+m∧lo≤m∧m<hi
theorem jT.mono{lo hi lo' hi' b:Nat}(h:jT w σ lo hi b)(h1:lo'≤lo)(h2:hi≤hi'):jT w σ lo' hi' b:=by
 obtain⟨c,t,fz,m,a1,a2,a3,a4⟩:=h
 exact⟨c,t,fz,m,a1,a2,by omega,by omega⟩
theorem jT.apart{lo hi lo' hi' b:Nat}(h:jT w σ lo hi b)(h':jT w σ lo' hi' b)(ho:hi≤lo'):False:=by
 obtain⟨c,t,fz,m,a1,a2,a3,a4⟩:=h
 obtain⟨c',t',Db,m',b1,b2,b3,b4⟩:=h'
 rw[a1] at b1;cases b1
 omega
abbrev Kids:=List (List (Option Value))
def iq(rows:Kids)(i o:Nat):Option Value:=((rows[i]?).bind fun r=>r[o]?).bind id
def PN(rows:Kids):Array Value:=(rows.map fun r=>Value.tuple (r.map fun u=>u.getD (.bool false)).toArray).toArray
def mkT(v:Value)(rows:Kids):Value:=.tuple #[v,.tuple (PN rows)]
theorem GY{v:Value}{rows:Kids}:hdr (mkT v rows)=some v:=rfl
def SE(v:Value):Prop:=∃a,v=.tuple a
theorem AP{v:Value}{rows:Kids}(h:∀i o u,iq rows i o=some u→SE u)(i o:Nat):kid (mkT v rows) i o=iq rows i o:=by
 have h':=h i o
 unfold kid mkT PN iq at *
 simp only[List.getElem?_toArray,List.getElem?_cons_succ,List.getElem?_cons_zero,List.getElem?_map]
 cases hr:rows[i]? with
 |none=>rfl
 |some r=>
  rw[hr] at h'
  simp only[Option.map_some,List.getElem?_toArray,List.getElem?_map]
  cases hu:r[o]? with
  |none=>simp[hu]
  |some u=>
   simp only[Option.bind_some,hu,id] at h'
   cases u with
   |none=>simp[hu]
   |some u=>
    obtain⟨a,rfl⟩:=h' u rfl
    simp[hu]
def Cv(w:World)(d:D)(v:Value)(u:Option Value):Prop:=
 match d with
 | .sl es=>∃T,u=some T∧SE T∧hdr T=some v∧jq w es T
 |d=>u=none∧SD d v
theorem ER{z:Nat}:∀{rs:List (List D)} {n:Nat},(∀r∈eF rs n,r.length=z)→∀r∈rs,r.length=z
 |[],_,_,r,h=>by cases h
 |a::rs,n,ha,r,h=>by
  rw[eF] at ha
  rcases List.mem_cons.1 h with e|h
  ·subst e;rw[←fB r n];exact ha _ (by simp)
  ·exact ER (n:=n+nW a) (fun r hr=>ha r (by simp[hr])) r h
structure Ws (w:World) (σ:Nat→Nat) (r:List D) (n m:Nat) (vals:Nat→Value) (us:List (Option Value)):Prop where
 len:us.length=r.length
 cell:∀(j:Nat) (d:D),r[j]? =some d→∃u,us[j]? =some u∧Cv w d (vals j) u
 own:∀(j:Nat) (u:Value),us[j]? =some (some u)→∀b,gH u b→jT w σ n m b
 apart:∀(j j':Nat) (u u':Value) (b:Nat),j≠j'→us[j]? =some (some u)→us[j']? =some (some u')→gH u b→gH u' b→False
structure U7 (w:World) (σ:Nat→Nat) (z:Nat) (rs:List (List D)) (n m:Nat) (vals:Nat→Value) (U:Kids):Prop where
 cell:∀(i o:Nat) (d:D),cellAt rs i o=some d→∃u,((U[i]?).bind fun r=>r[o]?)=some u∧Cv w d (vals (i*z+o)) u
 kid:∀(i o:Nat) (u:Value),iq U i o=some u→∃es,cellAt rs i o=some (.sl es)
 own:∀(i o:Nat) (u:Value),iq U i o=some u→∀b,gH u b→jT w σ n m b
 apart:∀(i o i' o':Nat) (u u':Value) (b:Nat),(i,o)≠(i',o')→iq U i o=some u→iq U i' o'=some u'→gH u b→gH u' b→False
theorem nY{us:List (Option Value)}{U:Kids}{o:Nat}{u:Value}:iq (us::U) 0 o=some u↔us[o]? =some (some u):=by
 show(us[o]?).bind id=some u↔_
 cases us[o]? with
 |none=>simp
 |some x=>simp
mutual
theorem U8:∀(d:D) (n:Nat) (v:Value),jX d=true→bq w σ (mh d n) v→∃u,Cv w d v u∧∀T,u=some T→∀b,gH T b→jT w σ n (n+nV d) b
 | .sl es,n,v,hp,h=>by
   rw[mh] at h
   have hl:=nX es (n+1)
   have hrec:=Mw es (n+1)
   have hrow:=fun z=>ER (z:=z) (rs:=es) (n:=n+1)
   generalize eF es (n+1)=q at h hl hrec hrow
   have hempty:∀a cap,es=[]→v=.slice a 0 cap→∃u,Cv w (.sl es) v u∧∀T,u=some T→∀b,gH T b→jT w σ n (n+nV (.sl es)) b:=by
    rintro a cap rfl rfl
    have hk:∀i o,kid (mkT (.slice a 0 cap) []) i o=none:=fun i o=>by rw[AP (fun i o u h=>by simp[iq] at h)];simp[iq]
    refine⟨some (mkT (.slice a 0 cap) []),⟨_,rfl,⟨_,rfl⟩,rfl,.nil a cap _ rfl hk⟩,fun T hT b hb=> ?_⟩
    cases hT
    exfalso
    cases hb with
    |here h1 h2=>rw[GY] at h1;cases h1;omega
    |kid h1 h2=>rw[hk] at h1;cases h1
   cases h with
   |pR n a cap=>exact hempty a cap (List.eq_nil_of_length_eq_zero (by simpa using hl.symm)) rfl
   |ol n b off cap z q vals c t hcap hlen hb hσ hfit hc hv=>
    by_cases hne:es=[]
    ·subst hne
     have hq0:q.length=0:=by simpa using hl
     exact hempty _ _ rfl (by rw[hq0])
    rw[hl] at hcap hfit hc ⊢
    obtain⟨U,hU⟩:=hrec z vals (hrow z hlen) (by simpa [jX] using hp) hv
    have hrl:=hrow z hlen
    have hT:∀i o u,iq U i o=some u→SE u:=fun i o u hu=>by
     obtain⟨es',he⟩:=hU.kid i o u hu
     obtain⟨u',h1,h2⟩:=hU.cell i o _ he
     obtain⟨T,h3,h4,_⟩:=h2
     unfold iq at hu
     rw[h1,h3] at hu
     cases hu;exact h4
    have kW:∀i o,kid (mkT (.slice (some ⟨b,off,none⟩) es.length cap) U) i o=iq U i o:=AP hT
    have hcell:∀i o es',cellAt es i o=some (.sl es')→∃T,iq U i o=some T∧hdr T=some (vals (i*z+o))∧jq w es' T:=fun i o es' he=>by
     obtain⟨u',h1,T,h3,h4,h5,h6⟩:=hU.cell i o _ he
     refine⟨T,?_,h5,h6⟩
     unfold iq
     rw[h1,h3];rfl
    have hself:∀x,jT w σ (n+1) (n+1+oU es) x→x≠b:=by
     rintro x ⟨c',t',Db,m,a1,a2,a3,a4⟩ rfl
     rw[hb] at a1;cases a1
     omega
    refine⟨some (mkT (.slice (some ⟨b,off,none⟩) es.length cap) U),⟨_,rfl,⟨_,rfl⟩,rfl,?_⟩,fun T hT' x hx=> ?_⟩
    ·refine .mk b off cap z es _ c t (fun i o=>vals (i*z+o)) (fun i o=>(iq U i o).getD undef) rfl hne hcap hrl hb hfit (fun i o d hd=> ?_) (fun i o d hd=> ?_) (fun i o es' he=> ?_) (fun i o es' he=> ?_) (fun i o u hu hb'=> ?_) (fun i o i' o' u u' x PO hu hu' h1 h2=> ?_) (fun i o u hu=> ?_)
     ·obtain⟨hi,ho⟩:=oq hd
      rw[hrl _ (List.getElem_mem hi)] at ho
      refine hc _ ?_
      have:(i+1)*z≤es.length*z:=Nat.mul_le_mul_right _ hi
      rw[Nat.add_mul,Nat.one_mul] at this
      omega
     ·obtain⟨u,h1,h2⟩:=hU.cell i o d hd
      cases d<;>first|exact .inl ⟨_,rfl⟩|exact .inr h2.2
     ·obtain⟨T,h1,h2,h3⟩:=hcell i o es' he
      rw[kW,h1]
      exact⟨rfl,h2⟩
     ·obtain⟨T,h1,h2,h3⟩:=hcell i o es' he
      rw[h1];exact h3
     ·rw[kW] at hu
      exact hself b (hU.own i o u hu b hb') rfl
     ·rw[kW] at hu hu'
      exact hU.apart i o i' o' u u' x PO hu hu' h1 h2
     ·rw[kW] at hu
      exact hU.kid i o u hu
    ·cases hT'
     cases hx with
     |here h1 h2=>rw[GY] at h1;cases h1;exact⟨c,t,(0,0),n,hb,hσ,Nat.le_refl _,by rw[nV];omega⟩
     |kid h1 h2=>
      rw[kW] at h1
      exact(hU.own _ _ _ h1 _ h2).mono (by omega) (by rw[nV];omega)
 | .ol m es,n,v,hp,h=>by simp[jX] at hp
 | .b x,n,v,hp,h=>by rw[mh] at h;cases h;exact⟨none,⟨rfl,rfl⟩,fun T h=>by cases h⟩
 | .i k x,n,v,hp,h=>by rw[mh] at h;cases h;exact⟨none,⟨rfl,rfl⟩,fun T h=>by cases h⟩
 | .s l,n,v,hp,h=>by rw[mh] at h;cases h;exact⟨none,⟨rfl,rfl⟩,fun T h=>by cases h⟩
 | .o u,n,v,hp,h=>by simp[jX] at hp
theorem JN:∀(r:List D) (n:Nat) (vals:Nat→Value),eY r=true→(∀(j:Nat) (d:D),(gQ r n)[j]? =some d→bq w σ d (vals j))→∃us,Ws w σ r n (n+nW r) vals us
 |[],n,vals,hp,h=>⟨[],rfl,fun j d h=>by simp at h,fun j u h=>by simp at h,fun j j' u u' b _ h=>by simp at h⟩
 |d::r,n,vals,hp,h=>by
  rw[eY,Bool.and_eq_true] at hp
  rw[gQ] at h
  obtain⟨u,h1,h2⟩:=U8 d n (vals 0) hp.1 (h 0 _ rfl)
  obtain⟨us,nZ⟩:=JN r (n+nV d) (fun j=>vals (j+1)) hp.2 fun j x hx=>h (j+1) x hx
  rw[nW]
  have hown:∀(j:Nat) (T:Value),us[j]? =some (some T)→∀b,gH T b→jT w σ (n+nV d) (n+nV d+nW r) b:=nZ.own
  refine⟨u::us,by rw[List.length_cons,List.length_cons,nZ.len],fun j x hx=> ?_,fun j T hT b hb=> ?_,fun j j' T T' b hj hT hT' hb hb'=> ?_⟩
  ·cases j with
   |zero=>simp at hx;subst hx;exact⟨u,rfl,h1⟩
   |succ j=>exact nZ.cell j x hx
  ·cases j with
   |zero=>simp at hT;exact(h2 T hT b hb).mono (Nat.le_refl _) (by omega)
   |succ j=>exact(hown j T hT b hb).mono (by omega) (by omega)
  ·cases j with
   |zero=>
    cases j' with
    |zero=>exact hj rfl
    |succ j'=>simp at hT;exact(h2 T hT b hb).apart (hown j' T' hT' b hb') (Nat.le_refl _)
   |succ j=>
    cases j' with
    |zero=>simp at hT';exact(h2 T' hT' b hb').apart (hown j T hT b hb) (Nat.le_refl _)
    |succ j'=>exact nZ.apart j j' T T' b (by omega) hT hT' hb hb'
theorem Mw:∀(rs:List (List D)) (n z:Nat) (vals:Nat→Value),(∀r∈rs,r.length=z)→fC rs=true→(∀(j:Nat) (d:D),(eF rs n).flatten[j]? =some d→bq w σ d (vals j))→∃U,U7 w σ z rs n (n+oU rs) vals U
 |[],n,z,vals,hz,hp,h=>⟨[],fun i o d h=>by simp[cellAt] at h,fun i o u h=>by simp[iq] at h,fun i o u h=>by simp[iq] at h,fun i o i' o' u u' b _ h=>by simp[iq] at h⟩
 |r::rs,n,z,vals,hz,hp,h=>by
  rw[fC,Bool.and_eq_true] at hp
  rw[eF,List.flatten_cons] at h
  have hrz:r.length=z:=hz r (by simp)
  obtain⟨us,nZ⟩:=JN r n vals hp.1 fun j d hd=>h j d (by rw[List.getElem?_append_left (List.getElem?_eq_some_iff.1 hd).1];exact hd)
  obtain⟨U,hU⟩:=Mw rs (n+nW r) z (fun j=>vals (z+j)) (fun r hr=>hz r (by simp[hr])) hp.2 fun j d hd=>h (z+j) d (by
   rw[List.getElem?_append_right (by rw[fB];omega),fB,hrz,Nat.add_sub_cancel_left];exact hd)
  rw[oU]
  have hown:∀(i o:Nat) (T:Value),iq U i o=some T→∀b,gH T b→jT w σ (n+nW r) (n+nW r+oU rs) b:=hU.own
  refine⟨us::U,fun i o d hd=> ?_,fun i o u hu=> ?_,fun i o T hT b hb=> ?_,fun i o i' o' T T' b PO hT hT' hb hb'=> ?_⟩
  ·cases i with
   |zero=>
    obtain⟨u,h1,h2⟩:=nZ.cell o d hd
    exact⟨u,h1,by rw[Nat.zero_mul,Nat.zero_add];exact h2⟩
   |succ i=>
    obtain⟨u,h1,h2⟩:=hU.cell i o d hd
    exact⟨u,h1,by rw[show(i+1)*z+o=z+(i*z+o) by rw[Nat.add_mul];omega];exact h2⟩
  ·cases i with
   |zero=>
    rw[nY] at hu
    have ho:o<r.length:=by rw[←nZ.len];exact(List.getElem?_eq_some_iff.1 hu).1
    obtain⟨u',h1,h2⟩:=nZ.cell o r[o] (List.getElem?_eq_getElem ho)
    rw[hu] at h1;cases h1
    have hc:cellAt (r::rs) 0 o=some r[o]:=List.getElem?_eq_getElem ho
    rw[hc]
    generalize r[o]=d at h2
    cases d<;>first|exact⟨_,rfl⟩|(cases h2.1)
   |succ i=>exact hU.kid i o u hu
  ·cases i with
   |zero=>rw[nY] at hT;exact(nZ.own o T hT b hb).mono (Nat.le_refl _) (by omega)
   |succ i=>exact(hown i o T hT b hb).mono (by omega) (by omega)
  ·cases i with
   |zero=>
    rw[nY] at hT
    cases i' with
    |zero=>rw[nY] at hT';exact nZ.apart o o' T T' b (fun e=>PO (by rw[e])) hT hT' hb hb'
    |succ i'=>exact(nZ.own o T hT b hb).apart (hown i' o' T' hT' b hb') (Nat.le_refl _)
   |succ i=>
    cases i' with
    |zero=>rw[nY] at hT';exact(nZ.own o' T' hT' b hb').apart (hown i o T hT b hb) (Nat.le_refl _)
    |succ i'=>exact hU.apart i o i' o' T T' b (fun e=>PO (by cases e;rfl)) hT hT' hb hb'
end
end
end Go.Ab
namespace Go.Ab
section
variable {P:Program} {w w':World} {σ σ':Nat→Nat} {S:Store} {β:Hs}
def zO:D→List (List D)
 | .sl es=>es
 |_=>[]
def PS(k:Key)(j:Nat):D→C
 | .sl _=>.xp k j []
 |d=>.d d
def xY(k:Key):Nat→List D→List C
 |_,[]=>[]
 |j,d::ds=>PS k j d::xY k (j+1) ds
theorem rU{k:Key}:∀(j:Nat) (r:List D),(xY k j r).length=r.length
 |_,[]=>rfl
 |j,d::ds=>by rw[xY,List.length_cons,rU,List.length_cons]
theorem GZ{k:Key}:∀(r:List D) (j i:Nat),(xY k j r)[i]? =(r[i]?).map (PS k (j+i))
 |[],j,i=>by simp[xY]
 |d::ds,j,0=>rfl
 |d::ds,j,i+1=>by
  rw[xY,List.getElem?_cons_succ,List.getElem?_cons_succ,GZ ds (j+1) i,show j+1+i=j+(i+1) by omega]
def JO:C→C
 | .d x=>.d x
 | .aY es=>.d (.sl es)
 | .bL _ es=>.d (.sl es)
 | .gu n es=>.d (.ol n es)
 | .gG cs=>.gG cs
 |_=>.any
def JQ:V→V
 | .c x=>.c (JO x)
 | .agg cs=>.agg (cs.map JO)
 |_=>.any
theorem BK{c:C}{v:Value}(h:eP w σ S β c v)(S':Store)(β':Hs):eP w σ S' β' (JO c) v:=by
 cases c with
 |d x=>exact h
 |aY es=>exact h.1
 |bL k es=>exact h.1
 |gu n es=>exact h.1
 |gG cs=>exact h
 |_=>trivial
theorem Pj{x:V}{v:Value}(h:aW w σ S β x v)(S':Store)(β':Hs):aW w σ S' β' (JQ x) v:=by
 cases x with
 |c x=>exact⟨BK h.1 _ _,h.2⟩
 |agg cs=>
  obtain⟨a,ha,hl,hc⟩:=h
  refine⟨a,ha,by rw[List.length_map];exact hl,fun i x hx=> ?_⟩
  rw[List.getElem?_map] at hx
  cases hi:cs[i]? with
  |none=>rw[hi] at hx;cases hx
  |some y=>
   rw[hi] at hx;cases hx
   obtain⟨u,q1,q2,q3⟩:=hc i y hi
   exact⟨u,q1,BK q2 _ _,q3⟩
 |_=>trivial
theorem JR(hl:∀b,b<w.heap.size∨σ b=0)(hg:mG w σ):bM w σ [] [] where
 l8:=hg
 obj:=fun k o h=>by rw[jd] at h;cases h
 apart:=fun k k' o o' h h' b h1=>by rw[jd] at h1;cases h1
 shape:=⟨rfl,fun l fr h=>by simp at h⟩
 live:=hl
theorem G5{β:Hs}{b:Nat}:¬Own [] β b:=fun⟨k,o,h,h1,_⟩=>by rw[jd] at h1;cases h1
def SF(mk:List C→V)(m:Nat):Prop:=∀w σ S β cs v,cs.length=m→aW w σ S β (mk cs) v→∃vs,dI w σ S β cs vs∧∀w' σ' S' β' cs',cs'.length=m→dI w' σ' S' β' cs' vs→aW w' σ' S' β' (mk cs') v
def qN:Value:=mkT (.slice none 0 0) []
theorem BL(i o:Nat):kid qN i o=none:=by
 unfold qN
 rw[AP (fun i o u h=>by simp[iq] at h)];simp[iq]
theorem uI{b:Nat}:¬gH qN b:=fun h=>by
 cases h with
 |here h1 h2=>cases h1
 |kid h1 h2=>rw[BL] at h1;cases h1
theorem ES(σ:Nat→Nat):∀n:Nat,∃m,∀b,b<n→σ b≤m
 |0=>⟨0,fun b h=>by omega⟩
 |n+1=>by
  obtain⟨m,hm⟩:=ES σ n
  refine⟨max m (σ n),fun b hb=> ?_⟩
  by_cases e:b=n
  ·subst e;omega
  ·have:=hm b (by omega);omega
open Classical in
theorem bN.own{f:FuncId}{args:List V}{aN:List Obj}{Ω:Store}{mk:List C→V}{r:List D}(hm:SF mk r.length)(hp:eY r=true)
 (h:∀n,aA P f (args.map JQ) (mk ((gQ r n).map .d))):
 bN P f args (aN::Ω) (fun r' S'=>r'=mk (xY (0,aN.length) 0 r)∧S'=(aN++[.xf (r.map zO)])::Ω):=by
 refine⟨(h 0 []).1,fun w σ β vs hS hargs=> ?_⟩
 obtain⟨n,hn⟩:=ES σ w.heap.size
 have Mx:jr w σ [] [] (args.map JQ) vs:=by
  refine⟨by rw[List.length_map];exact hargs.1,fun j x hx=> ?_⟩
  rw[List.getElem?_map] at hx
  cases ha:args[j]? with
  |none=>rw[ha] at hx;cases hx
  |some y=>
   rw[ha] at hx;cases hx
   obtain⟨v,h1,h2⟩:=hargs.2 j y ha
   exact⟨v,h1,Pj h2 _ _⟩
 refine((h n []).2 w σ [] vs (JR hS.live hS.l8) Mx).mono fun e w' ⟨v,r',S',σ',β',he,hS',hk,hst,hv,hr',hS2⟩=> ?_
 subst hr';subst hS2
 obtain⟨SG,hcs,hback⟩:=hm w' σ' _ β' _ v (by rw[List.length_map,fB]) hv
 have Wt:SG.length=r.length:=by rw[←hcs.1,List.length_map,fB]
 obtain⟨us,nZ⟩:=JN r n (fun j=>SG.getD j undef) hp (fun j d hd=>by
  obtain⟨u,h1,h2,_⟩:=hcs.2 j (.d d) (by rw[List.getElem?_map,hd];rfl)
  simp only[List.getD_eq_getElem?_getD,h1,Option.getD_some]
  exact h2)
 let h0:Value:=.tuple (us.map fun u=>u.getD qN).toArray
 have hroot:∀j,nI h0 j=(us[j]?).map fun u=>u.getD qN:=fun j=>by simp[h0,nI]
 have hfresh:∀b,qQ h0 b→w.heap.size≤b:=by
  rintro b ⟨j,T,h1,h2⟩
  rw[hroot] at h1
  cases hu:us[j]? with
  |none=>rw[hu] at h1;cases h1
  |some u=>
   rw[hu] at h1
   simp only[Option.map_some,Option.some.injEq] at h1
   cases u with
   |none=>subst h1;exact absurd h2 uI
   |some u=>
    simp at h1;subst h1
    obtain⟨c,t,fz,m,a1,a2,a3,a4⟩:=nZ.own j u hu b h2
    refine Nat.le_of_not_lt fun hlt=> ?_
    have h1:=(hst.far b hlt G5).2
    have h2:=hn b hlt
    omega
 let σ2:Nat→Nat:=fun b=>if qQ h0 b then 0 else σ' b
 have hg:Grow w σ w' σ2:=⟨hst.size,hst.os,hst.output,fun b hb=>by
  obtain⟨h1,h2⟩:=hst.far b hb G5
  exact⟨h1,(if_neg fun hx=>by have:=hfresh b hx;omega).trans h2⟩,fun b=>by
  rcases hS'.live b with hb|hb
  ·exact .inl hb
  ·right;show(if qQ h0 b then 0 else σ' b)=0;rw[hb];split<;>rfl⟩
 cases β with
 |nil=>have:=hS.shape.1;simp at this
 |cons bo bΩ=>
 have hlen:bo.length=aN.length:=by
  obtain⟨gr,g1,g2⟩:=hS.shape.2 0 aN rfl
  simp at g1;rw[g1];exact g2
 obtain⟨Xb,hk3,Wu⟩:=hS.push (o:=.xf (r.map zO)) (h:=h0) hg hlen (by
  refine⟨fun j es hj=> ?_,fun j T hT=> ?_,fun b hb=>if_pos hb,fun j j' T T' x hjj hT hT' hx hx'=> ?_⟩
  ·rw[List.getElem?_map] at hj
   cases hd:r[j]? with
   |none=>rw[hd] at hj;cases hj
   |some d=>
    rw[hd] at hj
    simp only[Option.map_some,Option.some.injEq] at hj
    subst hj
    obtain⟨u,h1,h2⟩:=nZ.cell j d hd
    rw[hroot,h1]
    have hsc:(∀es,d≠ .sl es)→∃T,Option.map (fun u=>Option.getD u qN) (some u)=some T∧jq w' (zO d) T:=fun hne=>by
     have hu:u=none:=by cases d<;>first|exact absurd rfl (hne _)|exact h2.1
     have hr0:zO d=[]:=by cases d<;>first|exact absurd rfl (hne _)|rfl
     subst hu
     rw[hr0]
     exact⟨qN,rfl,.nil none 0 _ rfl BL⟩
    cases d with
    |sl es=>obtain⟨T,rfl,_,_,h6⟩:=h2;exact⟨T,rfl,h6⟩
    |_=>exact hsc (fun es e=>by cases e)
  ·rw[List.length_map]
   rw[hroot] at hT
   cases hu:us[j]? with
   |none=>rw[hu] at hT;cases hT
   |some u=>rw[←nZ.len];exact(List.getElem?_eq_some_iff.1 hu).1
  ·rw[hroot] at hT hT'
   cases hu:us[j]? with
   |none=>rw[hu] at hT;cases hT
   |some u=>
    cases hu':us[j']? with
    |none=>rw[hu'] at hT';cases hT'
    |some u'=>
     rw[hu] at hT;rw[hu'] at hT'
     simp only[Option.map_some,Option.some.injEq] at hT hT'
     cases u with
     |none=>subst hT;exact uI hx
     |some u=>
      cases u' with
      |none=>subst hT';exact uI hx'
      |some u'=>simp at hT hT';subst hT;subst hT';exact nZ.apart j j' u u' x hjj hu hu' hx hx') (fun b hb=>hfresh b hb)
 refine⟨v,_,_,σ2,(bo++[h0])::bΩ,he,Xb,hk3,Wu,?_,rfl,rfl⟩
 refine hback _ _ _ _ _ (by rw[rU]) ⟨by rw[rU,Wt],fun j x hx=> ?_⟩
 rw[GZ,Nat.zero_add] at hx
 cases hd:r[j]? with
 |none=>rw[hd] at hx;cases hx
 |some d=>
  rw[hd] at hx
  simp only[Option.map_some,Option.some.injEq] at hx
  obtain⟨u,h1,h2⟩:=nZ.cell j d hd
  have hjl:j<(gQ r n).length:=by rw[fB];exact(List.getElem?_eq_some_iff.1 hd).1
  obtain⟨v0,h3,_,h4⟩:=hcs.2 j (.d (gQ r n)[j]) (by rw[List.getElem?_map,List.getElem?_eq_getElem hjl];rfl)
  have hv0:SG.getD j undef=v0:=by rw[List.getD_eq_getElem?_getD,h3];rfl
  simp only[hv0] at h2
  refine⟨v0,h3,?_,h4⟩
  have hsc:(∀es,d≠ .sl es)→eP w' σ2 ((aN++[.xf (r.map zO)])::Ω) ((bo++[h0])::bΩ) (.d d) v0:=fun hne=>by
   have:SD d v0:=by cases d<;>first|exact absurd rfl (hne _)|exact h2.2
   exact CJ this
  cases d with
  |sl es=>
   subst hx
   obtain⟨T,rfl,_,h5,_⟩:=h2
   refine⟨_,bI _ _ _,fun rs _=>⟨h0,by rw[←hlen,bI],?_⟩⟩
   unfold vZ
   rw[hroot,h1]
   exact h5
  |_=>subst hx;exact hsc (fun es e=>by cases e)
end
end Go.Ab
namespace Go.Ab
section
variable {P:Program} {w w':World} {σ σ':Nat→Nat} {S:Store} {β:Hs}
mutual
theorem Wv{σ2:Nat→Nat}(hs:∀b c t fz,w.heap[b]? =some (.cells c t fz)→c.size<σ b→σ2 b=σ b):∀(d:D) (n:Nat) (v:Value),jX d=true→bq w σ (mh d n) v→bq w σ2 (mh d n) v
 | .sl es,n,v,hp,h=>by
   rw[mh] at h ⊢
   have hrec:=PU hs es (n+1)
   generalize eF es (n+1)=q at h hrec ⊢
   cases h with
   |pR n a cap=>exact .pR n a cap
   |ol n b off cap z q vals c t hcap hlen hb hσ hfit hc hv=>exact .ol n b off cap z q vals c t hcap hlen hb ((hs b c t _ hb (by omega)).trans hσ) hfit hc (hrec vals (by simpa [jX] using hp) hv)
 | .ol m es,n,v,hp,h=>by simp[jX] at hp
 | .b x,n,v,hp,h=>by rw[mh] at h ⊢;cases h;constructor
 | .i k x,n,v,hp,h=>by rw[mh] at h ⊢;cases h;constructor
 | .s l,n,v,hp,h=>by rw[mh] at h ⊢;cases h;constructor
 | .o u,n,v,hp,h=>by simp[jX] at hp
theorem SH{σ2:Nat→Nat}(hs:∀b c t fz,w.heap[b]? =some (.cells c t fz)→c.size<σ b→σ2 b=σ b):∀(r:List D) (n:Nat) (vals:Nat→Value),eY r=true→(∀(j:Nat) (d:D),(gQ r n)[j]? =some d→bq w σ d (vals j))→
 ∀(j:Nat) (d:D),(gQ r n)[j]? =some d→bq w σ2 d (vals j)
 |[],n,vals,hp,h,j,d,hd=>by simp[gQ] at hd
 |a::r,n,vals,hp,h,j,d,hd=>by
  rw[eY,Bool.and_eq_true] at hp
  rw[gQ] at h hd
  cases j with
  |zero=>
   simp at hd;subst hd
   exact Wv hs a n _ hp.1 (h 0 _ rfl)
  |succ j=>exact SH hs r (n+nV a) (fun i=>vals (i+1)) hp.2 (fun i d hi=>h (i+1) d hi) j d hd
theorem PU{σ2:Nat→Nat}(hs:∀b c t fz,w.heap[b]? =some (.cells c t fz)→c.size<σ b→σ2 b=σ b):∀(rs:List (List D)) (n:Nat) (vals:Nat→Value),fC rs=true→(∀(j:Nat) (d:D),(eF rs n).flatten[j]? =some d→bq w σ d (vals j))→
 ∀(j:Nat) (d:D),(eF rs n).flatten[j]? =some d→bq w σ2 d (vals j)
 |[],n,vals,hp,h,j,d,hd=>by simp[eF] at hd
 |r::rs,n,vals,hp,h,j,d,hd=>by
  rw[fC,Bool.and_eq_true] at hp
  rw[eF,List.flatten_cons] at h hd
  by_cases hj:j<(gQ r n).length
  ·rw[List.getElem?_append_left hj] at hd
   exact SH hs r n vals hp.1 (fun j d hd=>h j d (by rw[List.getElem?_append_left (List.getElem?_eq_some_iff.1 hd).1];exact hd)) j d hd
  ·rw[List.getElem?_append_right (by omega)] at hd
   have:=PU hs rs (n+nW r) (fun i=>vals ((gQ r n).length+i)) hp.2 (fun j d hd=>h _ d (by rw[List.getElem?_append_right (by omega),Nat.add_sub_cancel_left];exact hd)) (j-(gQ r n).length) d hd
   rwa [show(gQ r n).length+(j-(gQ r n).length)=j by omega] at this
end
theorem jq.data{es:List (List D)}{T v:Value}(h:jq w es T)(hv:hdr T=some v)(hσ:∀b c t fz,gH T b→w.heap[b]? =some (.cells c t fz)→c.size≤σ b):bq w σ (.sl es) v:=by
 induction h generalizing v with
 |nil a cap T h hk=>rw[h] at hv;cases hv;exact .nil a cap
 |mk b off cap z es T c t vals kids hh hne hcap hlen hb hfit hc hs hk hx hself hap kW ih=>
  rw[hh] at hv;cases hv
  have hpos:0<es.length:=List.length_pos_iff.2 hne
  have hfl:=gJ es z hlen
  have hidx:∀j,j<es.length*z→∃hi:j/z<es.length,j % z<z∧j/z*z+j % z=j:=fun j hj=>by
   have hz:0<z:=by rcases Nat.eq_zero_or_pos z with h|h;·rw[h] at hj;simp at hj
                   ·exact h
   exact⟨(Nat.div_lt_iff_lt_mul hz).2 hj,Nat.mod_lt _ hz,by rw[Nat.mul_comm];exact Nat.div_add_mod j z⟩
  have hcell:∀j d,es.flatten[j]? =some d→∃hi:j/z<es.length,cellAt es (j/z) (j % z)=some d∧j/z*z+j % z=j:=fun j d hd=>by
   have hj:j<es.length*z:=by rw[←hfl];exact(List.getElem?_eq_some_iff.1 hd).1
   obtain⟨hi,hm,he⟩:=hidx j hj
   refine⟨hi,?_,he⟩
   have:=flat_get es z hlen (j/z) (j % z) hi hm
   rw[he,hd] at this
   unfold cellAt
   rw[List.getElem?_eq_getElem hi]
   exact this.symm
  refine .sl b off cap z es (fun j=>vals (j/z) (j % z)) c t (0,0) hcap hlen hb (Nat.le_trans hfit (hσ b c t _ (.here hh hpos) hb)) (fun j hj=> ?_) (fun j d hd=> ?_)
  ·obtain⟨hi,hce,he⟩:=hcell j _ (List.getElem?_eq_getElem (by rw[hfl];exact hj))
   have:=hc _ _ _ hce
   rwa [he] at this
  ·obtain⟨hi,hce,he⟩:=hcell j d hd
   rcases hs _ _ _ hce with⟨es',rfl⟩|hsd
   ·obtain⟨k1,k2⟩:=hk _ _ _ hce
    exact ih _ _ _ hce k2 fun b' c' t' Db ho hb'=>hσ b' c' t' Db (.kid k1 ho) hb'
   ·exact CJ hsd
end
end Go.Ab
namespace Go.Ab
section
variable {P:Program} {w w':World} {σ σ':Nat→Nat} {S:Store} {β:Hs}
end
end Go.Ab
namespace Go.Ab
def SI(n:Nat)(out:List UInt8):List UInt8:=if h:n=0 then out else SI (n/10) (UInt8.ofNat (48+n % 10)::out)
termination_by n
decreasing_by omega
def U9(k:Int):List UInt8:=if k≤0 then [109,48] else 109::SI k.toNat []
mutual
def zP:D→Nat
 | .sl es=>ET es
 | .b _=>1
 | .i _ _=>1
 | .s _=>1
 | .o _=>0
 | .ol _ _=>0
def G6:List D→Nat
 |[]=>0
 |d::ds=>zP d+G6 ds
def ET:List (List D)→Nat
 |[]=>0
 |r::rs=>G6 r+ET rs
end
mutual
def Xc:D→Int→D
 | .sl es,k=>.sl (SK es k)
 | .b _,k=>.b (decide (k.tmod 3=0))
 | .i kd _,k=>.i kd k
 | .s _,k=>.s (U9 k)
 | .o v,_=>.o v
 | .ol n es,_=>.ol n es
def Vm:List D→Int→List D
 |[],_=>[]
 |d::ds,k=>Xc d k::Vm ds (k+zP d)
def SK:List (List D)→Int→List (List D)
 |[],_=>[]
 |r::rs,k=>Vm r k::SK rs (k+G6 r)
end
mutual
def nC:D→Bool
 | .sl es=>fQ es
 | .b _=>true
 | .i _ _=>true
 | .s _=>true
 | .o _=>true
 | .ol _ _=>true
def fF:List D→Bool
 |[]=>true
 |d::ds=>nC d&&fF ds
def fQ:List (List D)→Bool
 |[]=>true
 |r::rs=>decide (r.length≤32)&&fF r&&fQ rs
end
mutual
theorem Va:∀d:D,nC d=true→zP d≤32*d.sz+1
 | .sl es,h=>by
   have:=MB es (by simpa [nC] using h)
   simp only[zP,D.sz];omega
 | .b _,_=>by simp[zP]
 | .i _ _,_=>by simp[zP]
 | .s _,_=>by simp[zP]
 | .o _,_=>by simp[zP]
 | .ol _ _,_=>by simp[zP]
theorem MC:∀r:List D,fF r=true→G6 r≤32*bB r+r.length
 |[],_=>by simp[G6]
 |d::ds,h=>by
  rw[fF,Bool.and_eq_true] at h
  have h1:=Va d h.1
  have h2:=MC ds h.2
  simp only[G6,bB,List.length_cons];omega
theorem MB:∀rs:List (List D),fQ rs=true→ET rs≤32*(rs.length+aP rs)
 |[],_=>by simp[ET]
 |r::rs,h=>by
  rw[fQ,Bool.and_eq_true,Bool.and_eq_true,decide_eq_true_eq] at h
  have h1:=MC r h.1.2
  have h2:=MB rs h.2
  simp only[ET,aP,List.length_cons];omega
end
theorem dM:∀a b,fF (a++b)=(fF a&&fF b)
 |[],b=>by simp[fF]
 |d::ds,b=>by rw[List.cons_append,fF,fF,dM ds b,Bool.and_assoc]
theorem fZ{α:Type}{f:α→List D}:∀{xs:List α},(∀x∈xs,fF (f x)=true∧(f x).length≤32)→fQ (xs.map f)=true
 |[],_=>rfl
 |x::xs,h=>by
  rw[List.map_cons,fQ,(h x (by simp)).1,fZ fun y hy=>h y (by simp[hy]),decide_eq_true (h x (by simp)).2];rfl
end Go.Ab
namespace Go.Proofs.YtcfhnaohbaplhaaGreatDoor
open Go Go.Ab
end Go.Proofs.YtcfhnaohbaplhaaGreatDoor
namespace Go.Ab
theorem nD(xs:List (List UInt8)):fC (xs.map encS)=true:=fV fun _ _=>rfl
theorem nE(xs:List (List UInt8)):fQ (xs.map encS)=true:=fZ fun _ _=>⟨rfl,by simp[encS]⟩
mutual
theorem ak.cK:∀x:ak,eY x.enc=true∧fF x.enc=true
 | .mk a0 a1 a2=>by simp only[ak.enc,eY,jX,fF,nC,dL,dM,Bool.and_true,Bool.true_and,Bool.and_self,and_self,and_true,true_and,(ak.jl a2).1,(ak.jl a2).2]
theorem ak.jl:∀xs:List ak,fC (ak.encs xs)=true∧fQ (ak.encs xs)=true
 |[]=>⟨rfl,rfl⟩
 |x::xs=>by
  have h:decide ((ak.enc x).length≤32)=true:=by rw[ak.aO];rfl
  simp only[ak.encs,fC,fQ,h,(ak.cK x).1,(ak.cK x).2,(ak.jl xs).1,(ak.jl xs).2,Bool.and_self,and_self]
end
theorem ak.dW(xs:List ak):fC (xs.map ak.enc)=true∧fQ (xs.map ak.enc)=true:=by rw[←ak.fq];exact ak.jl xs
theorem bC.cK(x:bC):eY x.enc=true∧fF x.enc=true:=by
 rw[bC.aB];simp only[List.cons_append,List.nil_append,eY,jX,fF,nC,dL,dM,Bool.and_true,Bool.true_and,Bool.and_self,and_self,and_true,true_and,(ak.cK x.fType).1,(ak.cK x.fType).2]
theorem bC.dW(xs:List bC):fC (xs.map bC.enc)=true∧fQ (xs.map bC.enc)=true:=⟨fV fun x _=>x.cK.1,fZ fun x _=>⟨x.cK.2,by rw[bC.aO];decide⟩⟩
theorem bQ.cK(x:bQ):eY x.enc=true∧fF x.enc=true:=by
 rw[bQ.aB];simp only[List.cons_append,List.nil_append,eY,jX,fF,nC,dL,dM,Bool.and_true,Bool.true_and,Bool.and_self,and_self,and_true,true_and,(ak.cK x.fType).1,(ak.cK x.fType).2]
theorem bQ.dW(xs:List bQ):fC (xs.map bQ.enc)=true∧fQ (xs.map bQ.enc)=true:=⟨fV fun x _=>x.cK.1,fZ fun x _=>⟨x.cK.2,by rw[bQ.aO];decide⟩⟩
mutual
theorem aj.cK:∀x:aj,eY x.enc=true∧fF x.enc=true
 | .mk a0 a1 a2 a3 a4 a5 a6=>by simp only[aj.enc,eY,jX,fF,nC,dL,dM,Bool.and_true,Bool.true_and,Bool.and_self,and_self,and_true,true_and,(ak.cK a4).1,(ak.cK a4).2,(aj.jl a5).1,(aj.jl a5).2,(ay.jl a6).1,(ay.jl a6).2]
theorem aj.jl:∀xs:List aj,fC (aj.encs xs)=true∧fQ (aj.encs xs)=true
 |[]=>⟨rfl,rfl⟩
 |x::xs=>by
  have h:decide ((aj.enc x).length≤32)=true:=by rw[aj.aO];rfl
  simp only[aj.encs,fC,fQ,h,(aj.cK x).1,(aj.cK x).2,(aj.jl xs).1,(aj.jl xs).2,Bool.and_self,and_self]
theorem ay.cK:∀x:ay,eY x.enc=true∧fF x.enc=true
 | .mk a0 a1 a2=>by simp only[ay.enc,eY,jX,fF,nC,dL,dM,Bool.and_true,Bool.true_and,Bool.and_self,and_self,and_true,true_and,nD a1,nE a1,(aj.cK a2).1,(aj.cK a2).2]
theorem ay.jl:∀xs:List ay,fC (ay.encs xs)=true∧fQ (ay.encs xs)=true
 |[]=>⟨rfl,rfl⟩
 |x::xs=>by
  have h:decide ((ay.enc x).length≤32)=true:=by rw[ay.aO];rfl
  simp only[ay.encs,fC,fQ,h,(ay.cK x).1,(ay.cK x).2,(ay.jl xs).1,(ay.jl xs).2,Bool.and_self,and_self]
end
theorem aj.dW(xs:List aj):fC (xs.map aj.enc)=true∧fQ (xs.map aj.enc)=true:=by rw[←aj.fq];exact aj.jl xs
theorem ay.dW(xs:List ay):fC (xs.map ay.enc)=true∧fQ (xs.map ay.enc)=true:=by rw[←ay.fq];exact ay.jl xs
mutual
theorem ah.cK:∀x:ah,eY x.enc=true∧fF x.enc=true
 | .mk a0 a1=>by simp only[ah.enc,eY,jX,fF,nC,dL,dM,Bool.and_true,Bool.true_and,Bool.and_self,and_self,and_true,true_and,(ah.jl a1).1,(ah.jl a1).2]
theorem ah.jl:∀xs:List ah,fC (ah.encs xs)=true∧fQ (ah.encs xs)=true
 |[]=>⟨rfl,rfl⟩
 |x::xs=>by
  have h:decide ((ah.enc x).length≤32)=true:=by rw[ah.aO];rfl
  simp only[ah.encs,fC,fQ,h,(ah.cK x).1,(ah.cK x).2,(ah.jl xs).1,(ah.jl xs).2,Bool.and_self,and_self]
end
theorem ah.dW(xs:List ah):fC (xs.map ah.enc)=true∧fQ (xs.map ah.enc)=true:=by rw[←ah.fq];exact ah.jl xs
theorem bn.cK(x:bn):eY x.enc=true∧fF x.enc=true:=by
 rw[bn.aB];simp only[List.cons_append,List.nil_append,eY,jX,fF,nC,dL,dM,Bool.and_true,Bool.true_and,Bool.and_self,and_self,and_true,true_and,(ak.dW x.gD).1,(ak.dW x.gD).2,(ak.cK x.eO).1,(ak.cK x.eO).2,nD x.aU,nE x.aU,(aj.cK x.fBody).1,(aj.cK x.fBody).2]
theorem bn.dW(xs:List bn):fC (xs.map bn.enc)=true∧fQ (xs.map bn.enc)=true:=⟨fV fun x _=>x.cK.1,fZ fun x _=>⟨x.cK.2,by rw[bn.aO];decide⟩⟩
theorem dh.cK(x:dh):eY x.enc=true∧fF x.enc=true:=by
 rw[dh.aB];simp only[List.cons_append,List.nil_append,eY,jX,fF,nC,dL,dM,Bool.and_true,Bool.true_and,Bool.and_self,and_self,and_true,true_and,nD x.iI,nE x.iI,(bn.dW x.iW).1,(bn.dW x.iW).2]
theorem dh.dW(xs:List dh):fC (xs.map dh.enc)=true∧fQ (xs.map dh.enc)=true:=⟨fV fun x _=>x.cK.1,fZ fun x _=>⟨x.cK.2,by rw[dh.aO];decide⟩⟩
theorem aR.cK(x:aR):eY x.enc=true∧fF x.enc=true:=by
 rw[aR.aB];simp only[List.cons_append,List.nil_append,eY,jX,fF,nC,dL,dM,Bool.and_true,Bool.true_and,Bool.and_self,and_self,and_true,true_and,(ak.dW x.mX).1,(ak.dW x.mX).2]
theorem aR.dW(xs:List aR):fC (xs.map aR.enc)=true∧fQ (xs.map aR.enc)=true:=⟨fV fun x _=>x.cK.1,fZ fun x _=>⟨x.cK.2,by rw[aR.aO];decide⟩⟩
theorem bD.cK(x:bD):eY x.enc=true∧fF x.enc=true:=by
 rw[bD.aB];simp only[List.cons_append,List.nil_append,eY,jX,fF,nC,dL,dM,Bool.and_true,Bool.true_and,Bool.and_self,and_self,and_true,true_and,nD x.aU,nE x.aU,(aR.dW x.gU).1,(aR.dW x.gU).2]
theorem bD.dW(xs:List bD):fC (xs.map bD.enc)=true∧fQ (xs.map bD.enc)=true:=⟨fV fun x _=>x.cK.1,fZ fun x _=>⟨x.cK.2,by rw[bD.aO];decide⟩⟩
theorem bP.cK(x:bP):eY x.enc=true∧fF x.enc=true:=by
 rw[bP.aB];simp only[List.cons_append,List.nil_append,eY,jX,fF,nC,dL,dM,Bool.and_true,Bool.true_and,Bool.and_self,and_self,and_true,true_and,nD x.aU,nE x.aU,(aj.cK x.fBody).1,(aj.cK x.fBody).2]
theorem bP.dW(xs:List bP):fC (xs.map bP.enc)=true∧fQ (xs.map bP.enc)=true:=⟨fV fun x _=>x.cK.1,fZ fun x _=>⟨x.cK.2,by rw[bP.aO];decide⟩⟩
theorem bE.cK(x:bE):eY x.enc=true∧fF x.enc=true:=by
 rw[bE.aB];simp only[List.cons_append,List.nil_append,eY,jX,fF,nC,dL,dM,Bool.and_true,Bool.true_and,Bool.and_self,and_self,and_true,true_and,nD x.aU,nE x.aU,(ak.cK x.oQ).1,(ak.cK x.oQ).2,(bQ.dW x.iK).1,(bQ.dW x.iK).2,(ak.cK x.iJ).1,(ak.cK x.iJ).2,(bP.dW x.lS).1,(bP.dW x.lS).2]
theorem bE.dW(xs:List bE):fC (xs.map bE.enc)=true∧fQ (xs.map bE.enc)=true:=⟨fV fun x _=>x.cK.1,fZ fun x _=>⟨x.cK.2,by rw[bE.aO];decide⟩⟩
theorem dn.cK(x:dn):eY x.enc=true∧fF x.enc=true:=by
 rw[dn.aB];simp only[List.cons_append,List.nil_append,eY,jX,fF,nC,dL,dM,Bool.and_true,Bool.true_and,Bool.and_self,and_self,and_true,true_and,(ak.cK x.fType).1,(ak.cK x.fType).2]
theorem dn.dW(xs:List dn):fC (xs.map dn.enc)=true∧fQ (xs.map dn.enc)=true:=⟨fV fun x _=>x.cK.1,fZ fun x _=>⟨x.cK.2,by rw[dn.aO];decide⟩⟩
theorem bF.cK(x:bF):eY x.enc=true∧fF x.enc=true:=by
 rw[bF.aB];simp only[List.cons_append,List.nil_append,eY,jX,fF,nC,dL,dM,Bool.and_true,Bool.true_and,Bool.and_self,and_self,and_true,true_and,nD x.aU,nE x.aU,(bQ.dW x.iK).1,(bQ.dW x.iK).2,(dn.dW x.gD).1,(dn.dW x.gD).2,(ak.cK x.eO).1,(ak.cK x.eO).2,(aj.cK x.fBody).1,(aj.cK x.fBody).2]
theorem bF.dW(xs:List bF):fC (xs.map bF.enc)=true∧fQ (xs.map bF.enc)=true:=⟨fV fun x _=>x.cK.1,fZ fun x _=>⟨x.cK.2,by rw[bF.aO];decide⟩⟩
theorem bK.cK(x:bK):eY x.enc=true∧fF x.enc=true:=by
 rw[bK.aB];simp only[List.cons_append,List.nil_append,eY,jX,fF,nC,dL,dM,Bool.and_true,Bool.true_and,Bool.and_self,and_self,and_true,true_and,nD x.qZ,nE x.qZ,(dh.dW x.mZ).1,(dh.dW x.mZ).2,(bD.dW x.jy).1,(bD.dW x.jy).2,(bE.dW x.jA).1,(bE.dW x.jA).2,(bF.dW x.jB).1,(bF.dW x.jB).2]
theorem bK.dW(xs:List bK):fC (xs.map bK.enc)=true∧fQ (xs.map bK.enc)=true:=⟨fV fun x _=>x.cK.1,fZ fun x _=>⟨x.cK.2,by rw[bK.aO];decide⟩⟩
theorem bV.cK(x:bV):eY x.enc=true∧fF x.enc=true:=by
 rw[bV.aB];simp only[List.cons_append,List.nil_append,eY,jX,fF,nC,dL,dM,Bool.and_true,Bool.true_and,Bool.and_self,and_self,and_true,true_and,(bK.dW x.jW).1,(bK.dW x.jW).2]
theorem bV.dW(xs:List bV):fC (xs.map bV.enc)=true∧fQ (xs.map bV.enc)=true:=⟨fV fun x _=>x.cK.1,fZ fun x _=>⟨x.cK.2,by rw[bV.aO];decide⟩⟩
theorem bg.cK(x:bg):eY x.enc=true∧fF x.enc=true:=by
 rw[bg.aB];simp only[List.cons_append,List.nil_append,eY,jX,fF,nC,dL,dM,Bool.and_true,Bool.true_and,Bool.and_self,and_self,and_true,true_and]
theorem bg.dW(xs:List bg):fC (xs.map bg.enc)=true∧fQ (xs.map bg.enc)=true:=⟨fV fun x _=>x.cK.1,fZ fun x _=>⟨x.cK.2,by rw[bg.aO];decide⟩⟩
end Go.Ab
namespace Go.Proofs.YtcfhnaohbaplhaaGreatDoor
open Go Go.Ab
end Go.Proofs.YtcfhnaohbaplhaaGreatDoor
namespace Go.Proofs.YtcfhnaohbaplhaaGreatDoor
open Go Go.Ab
end Go.Proofs.YtcfhnaohbaplhaaGreatDoor
namespace Go.Proofs.YtcfhnaohbaplhaaGreatDoor
open Go Go.Ab
end Go.Proofs.YtcfhnaohbaplhaaGreatDoor
namespace Go.Proofs.YtcfhnaohbaplhaaGreatDoor
open Go Go.Ab
end Go.Proofs.YtcfhnaohbaplhaaGreatDoor
namespace Go.Proofs.YtcfhnaohbaplhaaGreatDoor
open Go Go.Ab
end Go.Proofs.YtcfhnaohbaplhaaGreatDoor
namespace Go.Proofs.YtcfhnaohbaplhaaGreatDoor
open Go Go.Ab
end Go.Proofs.YtcfhnaohbaplhaaGreatDoor
namespace Go.Ab
def lx(l:List ah)(n:Nat):List (List D):=eF (l.map ah.enc) n
def EU(x:ah):Nat:=nW x.enc
def eZ(l:List ah):Nat:=oU (l.map ah.enc)
theorem nG(x:ah)(n:Nat):gQ x.enc n=[.s x.bf,.ol n (lx x.aH (n+1))]:=by
 rw[ah.aB];simp only[gQ,mh,nV,Nat.add_zero,lx]
theorem rG(s:List UInt8)(n:Nat):gQ (aM s).enc n=[.s s,.ol n []]:=by rw[nG];rfl
theorem QX(x:ah):EU x=eZ x.aH+1:=by
 unfold EU eZ
 rw[ah.aB];simp only[nW,nV];omega
theorem vV(s:List UInt8):EU (aM s)=1:=by rw[QX];rfl
theorem vW(n:Nat):lx [] n=[]:=rfl
theorem sW(x:ah)(l:List ah)(n:Nat):lx (x::l) n=gQ x.enc n::lx l (n+EU x):=rfl
theorem gF(a b:List ah)(n:Nat):lx (a++b) n=lx a n++lx b (n+eZ a):=by unfold lx eZ;rw[List.map_append,vP]
theorem ME:eZ []=0:=rfl
theorem JU(x:ah)(l:List ah):eZ (x::l)=EU x+eZ l:=rfl
theorem fA(l:List ah)(n:Nat):(lx l n).length=l.length:=by unfold lx;rw[nX,List.length_map]
theorem jc{l:List ah}{n:Nat}:∀r∈lx l n,r.length=2:=zK fun r hr=>by
 obtain⟨z,_,rfl⟩:=List.mem_map.1 hr
 exact z.aO
theorem AQ{l:List ah}{i:Nat}(hi:i<l.length)(n:Nat):lx (l.take i) n++[gQ l[i].enc (n+eZ (l.take i))]=lx (l.take (i+1)) n:=by
 rw[List.take_succ_eq_append_getElem hi,gF];rfl
theorem EW{l:List ah}{i:Nat}(hi:i<l.length)(n:Nat):lx (l.take i) n++[[.s l[i].bf,.ol (n+eZ (l.take i)) (lx l[i].aH (n+eZ (l.take i)+1))]]=lx (l.take (i+1)) n:=by
 rw[←AQ hi,nG]
theorem Pk{base l:List ah}{i:Nat}(hi:i<l.length)(q:Nat):lx (base++l.take i) q++[[.s l[i].bf,.ol (q+eZ (base++l.take i)) (lx l[i].aH (q+eZ (base++l.take i)+1))]]=lx (base++l.take (i+1)) q:=by
 rw[List.take_succ_eq_append_getElem hi,←List.append_assoc,gF (base++l.take i),sW,vW,nG]
theorem mO{l:List ah}:∀r∈l.map ah.enc,r.length=2:=fun r hr=>by
 obtain⟨z,_,rfl⟩:=List.mem_map.1 hr
 exact z.aO
theorem rV{cs cs':List C}(hl:cs'.length=cs.length)(h:∀(j:Nat) (x y:C),cs[j]? =some x→cs'[j]? =some y→∀w σ S β v,eP w σ S β x v→eP w σ S β y v):Less (.agg cs) (.agg cs'):=by
 rintro w σ S β v ⟨a,ha,hc⟩
 refine⟨a,ha,hl.trans hc.1,fun j y hy=> ?_⟩
 have hj:j<cs.length:=by rw[←hl];exact(List.getElem?_eq_some_iff.1 hy).1
 obtain⟨v,h1,h2,h3⟩:=hc.2 j _ (List.getElem?_eq_getElem hj)
 exact⟨v,h1,h j _ y (List.getElem?_eq_getElem hj) hy w σ S β v h2,h3⟩
theorem SL{w:World}{σ:Nat→Nat}{S:Store}{β:Hs}{v:Value}(n:Nat)(h:eP w σ S β (.aY []) v):eP w σ S β (.d (.ol n [])) v:=by
 obtain⟨hd,ad,m,hval⟩:=h
 have hm:m=0:=by rw[hval] at hd;cases hd<;>rfl
 subst hm
 rw[hval]
 exact .pR _ _ _
theorem AR(s:List UInt8)(n:Nat):Less (.agg [.d (.s s),.aY []]) (.agg [.d (.s s),.d (.ol n [])]):=rV rfl fun j x y hx hy w σ S β v hv=>by
 match j,hx,hy with
 |0,hx,hy=>cases hx;cases hy;exact hv
 |1,hx,hy=>cases hx;cases hy;exact SL _ hv
 |j+2,hx,hy=>simp at hx
theorem QY(s:List UInt8)(n:Nat)(es:List (List D)):Less (.agg [.d (.s s),.gu n es]) (.agg [.d (.s s),.d (.ol n es)]):=rV rfl fun j x y hx hy w σ S β v hv=>by
 match j,hx,hy with
 |0,hx,hy=>cases hx;cases hy;exact hv
 |1,hx,hy=>cases hx;cases hy;exact hv.1
 |j+2,hx,hy=>simp at hx
end Go.Ab
namespace Go.Proofs.YtcfhnaohbaplhaaGreatDoor
open Go Go.Ab
theorem Gh(s:List UInt8):aA Tryz.prog 139 [.c (.d (.s s))] (.agg [.d (.s s),.aY []]):=fun S=>by
 refine au (rs:=[.cell 2 78]) Tryz.checked.mixed Tryz.func139 Tryz.ntmps139 rfl rfl rfl rfl rfl ?_
 exact Z1
theorem dR(s:List UInt8)(n:Nat):aA Tryz.prog 139 [.c (.d (.s s))] (.agg [.d (.s s),.d (.ol n [])]):=aA.less (Gh s) (AR s n)
theorem zQ(d:D):aA Tryz.prog 145 [.c (.d d)] (.agg [.d (.s []),.d d]):=fun S=>by
 refine au (rs:=[.cell 2 78]) Tryz.checked.mixed Tryz.func145 Tryz.ntmps145 rfl rfl rfl rfl rfl ?_
 exact Z1
theorem Gi(n:Nat)(es:List (List D)):aA Tryz.prog 145 [.c (.gu n es)] (.agg [.d (.s []),.gu n es]):=fun S=>by
 refine au (rs:=[.cell 2 78]) Tryz.checked.mixed Tryz.func145 Tryz.ntmps145 rfl rfl rfl rfl rfl ?_
 exact Z1
theorem zR(n:Nat)(es:List (List D)):aA Tryz.prog 145 [.c (.gu n es)] (.agg [.d (.s []),.d (.ol n es)]):=aA.less (Gi n es) (QY [] n es)
theorem iU(l j:Nat)(es:List (List D))(S:Store):bN Tryz.prog 145 [.c (.bL (l,j) es)] S (fun r S'=>r=.agg [.d (.s []),.bL (l,j) es]∧S'=S):=by
 refine au (rs:=[.cell 2 78]) Tryz.checked.mixed Tryz.func145 Tryz.ntmps145 rfl rfl rfl rfl rfl ?_
 exact Z1
theorem uU(xs:List (List UInt8))(hx:xs.length≤1073741824)(n q:Nat):aA Tryz.prog 204 [.c (.d (.sl (xs.map encS)))] (.c (.d (.ol n (lx (aK xs) q)))):=fun S=>by
 refine rD (n) (rs:=[.tmp 2]) Tryz.checked.mixed Tryz.func204 Tryz.ntmps204 rfl rfl rfl rfl rfl ?_
 refine W1 ?_
 refine W3 ?_
 refine wD n 3 2 [] (.inl rfl) (by simp) ?_
 refine aT (ι:=Nat) Tryz.checked.mixed rfl [3,7,8,9] (fun i=>[.c (.bL (0,1) (lx ((aK xs).take i) q)),.c (.d (.sl (xs.map encS))),.c (.d (.i .i64 xs.length)),.c (.d (.i .i64 i))]) (fun i=>[.seed n,.dF n 2 (lx ((aK xs).take i) q)]::S)
  (fun i=>i≤xs.length) (fun i=>xs.length-i) 0 rfl rfl (Nat.zero_le _) ?_
 intro i hi
 refine W1 ?_
 refine S0 (fun hb h=>?_) fun hb h=>?_
 ·have hi':i<xs.length:=by omega
  have hw:i<(aK xs).length:=by rw[iX];exact hi'
  have hg:(aK xs)[i]=aM xs[i]:=by simp[aK]
  have hl:(lx ((aK xs).take i) q).length≤i:=by rw[fA];exact List.length_take_le _ _
  refine W3 ?_
  refine C1 (dR xs[i] (q+eZ ((aK xs).take i))) ?_
  refine W3 ?_
  have hs:=AQ hw q
  rw[hg,rG] at hs
  rw[hs]
  exact bG (i+1) (by omega) rfl rfl (by omega)
 ·have hi':i=(aK xs).length:=by rw[iX];omega
  rw[hi',List.take_length]
theorem zS:∀N:Nat,(∀x:ak,SizeOf.sizeOf x<N→∀n:Nat,formed x=true→x.sz≤4194304→aA Tryz.prog 206 [x.v] (.agg [.d (.s (dS x).bf),.d (.ol n (lx (dS x).aH (n+1)))]))∧
 (∀xs:List ak,SizeOf.sizeOf xs<N→∀n q:Nat,fM xs=true→xs.length≤4194304→(∀t∈xs,t.sz≤4194304)→aA Tryz.prog 228 [.c (.d (.sl (xs.map ak.enc)))] (.c (.d (.ol n (lx (xs.map dS) q)))))
 |0=>⟨fun x h=>by omega,fun x h=>by omega⟩
 |N+1=>by
  obtain⟨ih,Es⟩:=zS N
  refine⟨fun x hn n hf hsz=> ?_,fun xs hn n q hf hlen hsz=> ?_⟩
  ·have iR:=ak.eH x
   have hts:=q8 hsz
   have hx:=LV x
   rw[pE,Bool.and_eq_true] at hf
   have hfi:=lN hf.1
   have hall:∀t∈x.fArgs,t.sz≤4194304:=fun t ht=>by
    obtain⟨i,hi,e⟩:=List.getElem_of_mem ht
    rw[←e];exact(pG hi hsz).1
   intro S
   refine JM (n) 1 (rs:=[.cell 2 78]) Tryz.checked.mixed Tryz.func206 Tryz.ntmps206 rfl rfl rfl rfl rfl ?_
   refine W1 ?_
   refine S0 (fun hb h=>?_) fun hb h=>?_
   ·rw[if_pos h] at hx
    rw[hx]
    refine W3 ?_
    refine C1 (dR _ n) ?_
    rfl
   have k1:=h
   rw[if_neg h] at hx
   refine S0 (fun hb h=>?_) fun hb h=>?_
   ·rw[if_pos h] at hx
    rw[hx]
    refine C1 (dR _ (n+1)) ?_
    refine C1 (dR _ (n+1+1)) ?_
    refine C1 (zR _ _) ?_
    rfl
   have k4:=h
   rw[if_neg h] at hx
   refine S0 (fun hb h=>?_) fun hb h=>?_
   ·have hlen:x.fArgs.length=1:=by omega
    obtain⟨a,ha⟩:=List.length_eq_one_iff.1 hlen
    have ha0:x.fArgs[0]'(by omega)=a:=by simp[ha]
    rw[if_neg (by omega),if_pos h,ha] at hx
    have hfa:formed a=true:=rR.1 hf.2 a (by rw[ha];simp)
    have hsa:a.sz≤4194304:=hall a (by rw[ha];simp)
    have hla:SizeOf.sizeOf a<N:=by
     have:=List.sizeOf_lt_of_mem (show a∈x.fArgs by rw[ha];simp)
     omega
    rw[hx]
    refine C1 (dR _ (n+1)) ?_
    refine bW (dR _ (n+1+1)) ?_
    simp -implicitDefEqProofs (disch:=omega) only[go_sem,ha,List.getD_cons_zero]
    refine W3 ?_
    refine C1 (ih a hla (n+1+1+1) hfa hsa) ?_
    refine C1 (zR _ _) ?_
    simp only[dP,dQ,List.cons_append,List.nil_append,List.map_cons,List.map_nil,sW,vW,rG,vV,nG,uq,uw,lU]
   have k3:=h
   refine S0 (fun hb h=>?_) fun hb h=>?_
   ·rw[if_pos ⟨by omega,by omega⟩] at hx
    rw[hx]
    refine C1 (dR _ n) ?_
    rfl
   rw[if_neg (by omega),if_neg k3] at hx
   rw[hx]
   refine C1 (dR _ (n+1)) ?_
   refine C1 (Es x.fArgs (by omega) 0 (n+1+1) hf.2 hts.1 hall) ?_
   have hl:(lx (x.fArgs.map dS) (n+1+1)).length=x.fArgs.length:=by rw[fA,List.length_map]
   have hr:=jc (l:=x.fArgs.map dS) (n:=n+1+1)
   refine W3 ?_
   refine C1 (zQ _) ?_
   simp only[dP,dQ,List.cons_append,List.nil_append,sW,vW,rG,vV]
  ·have Vb:=fun(i:Nat) (hi:i<xs.length)=>EW (l:=xs.map dS) (i:=i) (by rw[List.length_map];exact hi) q
   intro S
   refine rD (n) (rs:=[.tmp 2]) Tryz.checked.mixed Tryz.func228 Tryz.ntmps228 rfl rfl rfl rfl rfl ?_
   refine W1 ?_
   refine W3 ?_
   refine wD n 3 2 [] (.inl rfl) (by simp) ?_
   refine aT (ι:=Nat) Tryz.checked.mixed rfl [3,7,8,9] (fun i=>[.c (.bL (0,1) (lx ((xs.map dS).take i) q)),.c (.d (.sl (xs.map ak.enc))),.c (.d (.i .i64 xs.length)),.c (.d (.i .i64 i))]) (fun i=>[.seed n,.dF n 2 (lx ((xs.map dS).take i) q)]::S)
    (fun i=>i≤xs.length) (fun i=>xs.length-i) 0 rfl rfl (Nat.zero_le _) ?_
   intro i hi
   refine W1 ?_
   refine S0 (fun hb h=>?_) fun hb h=>?_
   ·have hi':i<xs.length:=by omega
    have hs:=Vb i hi'
    rw[List.getElem_map] at hs
    have hl:(lx ((xs.map dS).take i) q).length≤i:=by rw[fA];exact List.length_take_le _ _
    refine W3 ?_
    refine C1 (ih xs[i] (by have:=List.sizeOf_lt_of_mem (List.getElem_mem hi');omega) (q+eZ ((xs.map dS).take i)) (rR.1 hf _ (List.getElem_mem hi')) (hsz _ (List.getElem_mem hi'))) ?_
    refine W3 ?_
    rw[hs]
    exact iT 2 (by decide) (i+1) (by omega) rfl rfl rfl rfl (by omega)
   ·have hi':i=(xs.map dS).length:=by rw[List.length_map];omega
    rw[hi',List.take_length]
theorem JV(x:ak)(n:Nat)(hf:formed x=true)(hsz:x.sz≤4194304):aA Tryz.prog 206 [x.v] (.agg [.d (.s (dS x).bf),.d (.ol n (lx (dS x).aH (n+1)))]):=(zS _).1 x (Nat.lt_succ_self _) n hf hsz
end Go.Proofs.YtcfhnaohbaplhaaGreatDoor
namespace Go.Ab
theorem gq(s:List UInt8):(aM s).enc=[.s s,.sl []]:=by rw[ah.aB];rfl
theorem lW{base l:List ah}{i:Nat}(hi:i<l.length):(base++l.take i).map ah.enc++[[.s l[i].bf,.sl (l[i].aH.map ah.enc)]]=(base++l.take (i+1)).map ah.enc:=by
 rw[List.take_succ_eq_append_getElem hi,←List.append_assoc,List.map_append (l₂:=[l[i]]),List.map_cons,List.map_nil,ah.aB]
theorem AU(s:List UInt8)(es:List (List D)):Less (.agg [.d (.s s),.aY es]) (.agg [.d (.s s),.d (.sl es)]):=rV rfl fun j x y hx hy w σ S β v hv=>by
 match j,hx,hy with
 |0,hx,hy=>cases hx;cases hy;exact hv
 |1,hx,hy=>cases hx;cases hy;exact hv.1
 |j+2,hx,hy=>simp at hx
theorem G7(x:ah)(n:Nat):Less (.agg [.d (.s x.bf),.d (.ol n (lx x.aH (n+1)))]) x.v:=by
 have h:=EM (r:=x.enc) (n:=n)
 rw[nG,ah.jI] at h
 exact h
end Go.Ab
namespace Go.Proofs.YtcfhnaohbaplhaaGreatDoor
open Go Go.Ab
theorem EX(s:List UInt8):aA Tryz.prog 128 [.c (.d (.s s))] (.agg [.d (.s s),.aY []]):=fun S=>by
 refine au (rs:=[.cell 2 78]) Tryz.checked.mixed Tryz.func128 Tryz.ntmps128 rfl rfl rfl rfl rfl ?_
 exact Z1
theorem bH(s:List UInt8):aA Tryz.prog 128 [.c (.d (.s s))] (.agg [.d (.s s),.d (.sl [])]):=aA.less (EX s) (AU s [])
theorem Gj(es:List (List D))(hes:∀e∈es,e.length=2)(hl:es.length≤1073741824):aA Tryz.prog 127 [.c (.d (.sl es))] (.agg [.d (.s []),.d (.sl es)]):=fun S=>by
 refine au (rs:=[.cell 2 78]) Tryz.checked.mixed Tryz.func127 Tryz.ntmps127 rfl rfl rfl rfl rfl ?_
 refine W1 ?_
 exact⟨hes,⟨_,rfl,rfl⟩,(fun y hy=>by cases hy),hl⟩
theorem EY(xs:List (List UInt8))(hx:xs.length≤1073741824):aA Tryz.prog 200 [.c (.d (.sl (xs.map encS)))] (.c (.d (.sl ((aK xs).map ah.enc)))):=fun S=>by
 refine au (rs:=[.tmp 2]) Tryz.checked.mixed Tryz.func200 Tryz.ntmps200 rfl rfl rfl rfl rfl ?_
 refine W1 ?_
 refine W3 ?_
 refine RH 3 2 [] rfl (by simp) ?_
 refine aT (ι:=Nat) Tryz.checked.mixed rfl [0,3,4] (fun i=>[.c (.d (.sl (xs.map encS))),.c (.bL (0,0) (((aK xs).take i).map ah.enc)),.c (.d (.i .i64 i))]) (fun i=>[.tok 2 (((aK xs).take i).map ah.enc)]::S)
  (fun i=>i≤xs.length) (fun i=>xs.length-i) 0 rfl rfl (Nat.zero_le _) ?_
 intro i hi
 have hl:(((aK xs).take i).map ah.enc).length≤i:=by rw[List.length_map];exact List.length_take_le _ _
 refine W1 ?_
 refine S0 (fun hb h=>?_) fun hb h=>?_
 ·have hi':i<xs.length:=by omega
  have hs:=lW (base:=[]) (l:=aK xs) (i:=i) (by rw[iX];exact hi')
  have hg:(aK xs)[i]'(by rw[iX];exact hi')=aM xs[i]:=by simp[aK]
  rw[hg] at hs
  simp only[List.nil_append,uq,uw,List.map_nil] at hs
  refine W3 ?_
  refine C1 (bH xs[i]) ?_
  refine W3 ?_
  rw[hs]
  exact bG (i+1) (by omega) rfl rfl (by omega)
 ·have hi':i=(aK xs).length:=by rw[iX];omega
  rw[hi',List.take_length]
theorem zT:∀N:Nat,(∀x:ak,SizeOf.sizeOf x<N→x.sz≤4194304→aA Tryz.prog 199 [x.v] (.agg [.d (.s (dS x).bf),.d (.sl ((dS x).aH.map ah.enc))]))
 |0=>fun x h=>by omega
 |N+1=>by
  have ih:=zT N
  intro x hn hsz
  have iR:=ak.eH x
  have hts:=q8 hsz
  have hx:=LV x
  have hall:∀t∈x.fArgs,t.sz≤4194304:=fun t ht=>by
   obtain⟨i,hi,e⟩:=List.getElem_of_mem ht
   rw[←e];exact(pG hi hsz).1
  intro S
  refine au (rs:=[.cell 2 78]) Tryz.checked.mixed Tryz.func199 Tryz.ntmps199 rfl rfl rfl rfl rfl ?_
  refine W1 ?_
  refine S0 (fun hb h=>?_) fun hb h=>?_
  ·rw[if_pos h] at hx
   rw[hx]
   refine W3 ?_
   refine C1 (bH _) ?_
   rfl
  rw[if_neg h] at hx
  refine S0 (fun hb h=>?_) fun hb h=>?_
  ·rw[if_pos h] at hx
   rw[hx]
   refine C1 (bH _) ?_
   refine C1 (bH _) ?_
   refine C1 (Gj _ (by simp) (by simp)) ?_
   simp only[dP,dQ,List.map_cons,List.map_nil,gq,Jt]
  rw[if_neg h] at hx
  have Ww:x.aG=2→x.fArgs.length=0→dS x=aM x.fName:=fun a b=>by rw[hx,if_pos ⟨a,b⟩]
  have Pm:¬(x.aG=2∧x.fArgs.length=0)→dS x=lC ((if x.aG=3 then [aM lU] else [])++[aM x.fName]++x.fArgs.map dS):=fun a=>by rw[hx,if_neg a]
  clear hx
  repeat' (first|(refine S0 (fun hb h=>?_) fun hb h=>?_))
  ·rw[Ww (by omega) (by omega)]
   refine C1 (bH _) ?_
   rfl
  ·exfalso;omega
  ·have hx:=Pm (by omega)
   rw[if_neg h,List.nil_append] at hx
   refine C1 (bH _) ?_
   refine W3 ?_
   refine aT (ι:=Nat) Tryz.checked.mixed rfl [1,2,3,4] (fun i=>[.c (.ptr (0,0) 0),.c (.ptr (0,1) 0),.c (.ptr (0,2) 0),.c (.d (.i .i64 i))])
    (fun i=>[.box [.d (.i .i64 x.aG),.d (.s x.fName),.d (.sl (x.fArgs.map ak.enc))],.box [.d (.s []),.aY []],.box [.d (.s []),.bL (0,3) (([aM x.fName]++(x.fArgs.map dS).take i).map ah.enc)],.tok 2 (([aM x.fName]++(x.fArgs.map dS).take i).map ah.enc)]::S)
    (fun i=>i≤x.fArgs.length) (fun i=>x.fArgs.length-i) 0 rfl ?_ (Nat.zero_le _) ?_
   ·simp only[List.take_zero,List.append_nil,List.map_cons,List.map_nil,List.cons_append,List.nil_append,gq]<;>(try rfl)
   intro i hi
   have hl:(([aM x.fName]++(x.fArgs.map dS).take i).map ah.enc).length≤i+2:=by
    rw[List.length_map,List.length_append]
    have:=List.length_take_le i (x.fArgs.map dS)
    simp only[List.length_cons,List.length_nil];omega
   have hs:=fun hi=>lW (base:=[aM x.fName]) (l:=x.fArgs.map dS) (i:=i) hi
   have hrw:=mO (l:=[aM x.fName]++(x.fArgs.map dS).take i)
   generalize hR:([aM x.fName]++(x.fArgs.map dS).take i).map ah.enc=R at hl hs hrw
   refine W1 ?_
   refine S0 (fun hb h=>?_) fun hb h=>?_
   ·have hi':i<x.fArgs.length:=by omega
    have hs':=hs (by rw[List.length_map];exact hi')
    rw[List.getElem_map] at hs'
    refine W3 ?_
    refine C1 (ih x.fArgs[i] (by have:=List.sizeOf_lt_of_mem (List.getElem_mem hi');omega) (hall _ (List.getElem_mem hi'))) ?_
    refine W3 ?_
    rw[hs']
    exact bG (i+1) (by omega) rfl rfl (by omega)
   ·have hi':i=(x.fArgs.map dS).length:=by rw[List.length_map];omega
    rw[hx,←hR,hi',List.take_length]
    simp only[dP,dQ,List.cons_append,List.nil_append]
  ·have hx:=Pm (by omega)
   rw[if_pos h] at hx
   refine C1 (bH _) ?_
   refine W3 ?_
   refine C1 (bH _) ?_
   refine W3 ?_
   refine aT (ι:=Nat) Tryz.checked.mixed rfl [1,2,3,4] (fun i=>[.c (.ptr (0,0) 0),.c (.ptr (0,1) 0),.c (.ptr (0,2) 0),.c (.d (.i .i64 i))])
    (fun i=>[.box [.d (.i .i64 x.aG),.d (.s x.fName),.d (.sl (x.fArgs.map ak.enc))],.box [.d (.s []),.aY []],.box [.d (.s []),.bL (0,3) (([aM lU,aM x.fName]++(x.fArgs.map dS).take i).map ah.enc)],.tok 2 (([aM lU,aM x.fName]++(x.fArgs.map dS).take i).map ah.enc)]::S)
    (fun i=>i≤x.fArgs.length) (fun i=>x.fArgs.length-i) 0 rfl ?_ (Nat.zero_le _) ?_
   ·simp only[List.take_zero,List.append_nil,List.map_cons,List.map_nil,List.cons_append,List.nil_append,gq]<;>(try rfl)
   intro i hi
   have hl:(([aM lU,aM x.fName]++(x.fArgs.map dS).take i).map ah.enc).length≤i+2:=by
    rw[List.length_map,List.length_append]
    have:=List.length_take_le i (x.fArgs.map dS)
    simp only[List.length_cons,List.length_nil];omega
   have hs:=fun hi=>lW (base:=[aM lU,aM x.fName]) (l:=x.fArgs.map dS) (i:=i) hi
   have hrw:=mO (l:=[aM lU,aM x.fName]++(x.fArgs.map dS).take i)
   generalize hR:([aM lU,aM x.fName]++(x.fArgs.map dS).take i).map ah.enc=R at hl hs hrw
   refine W1 ?_
   refine S0 (fun hb h=>?_) fun hb h=>?_
   ·have hi':i<x.fArgs.length:=by omega
    have hs':=hs (by rw[List.length_map];exact hi')
    rw[List.getElem_map] at hs'
    refine W3 ?_
    refine C1 (ih x.fArgs[i] (by have:=List.sizeOf_lt_of_mem (List.getElem_mem hi');omega) (hall _ (List.getElem_mem hi'))) ?_
    refine W3 ?_
    rw[hs']
    exact bG (i+1) (by omega) rfl rfl (by omega)
   ·have hi':i=(x.fArgs.map dS).length:=by rw[List.length_map];omega
    rw[hx,←hR,hi',List.take_length]
    simp only[dP,dQ,List.cons_append,List.nil_append]
  ·have hx:=Pm (by omega)
   rw[if_neg h,List.nil_append] at hx
   refine C1 (bH _) ?_
   refine W3 ?_
   refine aT (ι:=Nat) Tryz.checked.mixed rfl [1,2,3,4] (fun i=>[.c (.ptr (0,0) 0),.c (.ptr (0,1) 0),.c (.ptr (0,2) 0),.c (.d (.i .i64 i))])
    (fun i=>[.box [.d (.i .i64 x.aG),.d (.s x.fName),.d (.sl (x.fArgs.map ak.enc))],.box [.d (.s []),.aY []],.box [.d (.s []),.bL (0,3) (([aM x.fName]++(x.fArgs.map dS).take i).map ah.enc)],.tok 2 (([aM x.fName]++(x.fArgs.map dS).take i).map ah.enc)]::S)
    (fun i=>i≤x.fArgs.length) (fun i=>x.fArgs.length-i) 0 rfl ?_ (Nat.zero_le _) ?_
   ·simp only[List.take_zero,List.append_nil,List.map_cons,List.map_nil,List.cons_append,List.nil_append,gq]<;>(try rfl)
   intro i hi
   have hl:(([aM x.fName]++(x.fArgs.map dS).take i).map ah.enc).length≤i+2:=by
    rw[List.length_map,List.length_append]
    have:=List.length_take_le i (x.fArgs.map dS)
    simp only[List.length_cons,List.length_nil];omega
   have hs:=fun hi=>lW (base:=[aM x.fName]) (l:=x.fArgs.map dS) (i:=i) hi
   have hrw:=mO (l:=[aM x.fName]++(x.fArgs.map dS).take i)
   generalize hR:([aM x.fName]++(x.fArgs.map dS).take i).map ah.enc=R at hl hs hrw
   refine W1 ?_
   refine S0 (fun hb h=>?_) fun hb h=>?_
   ·have hi':i<x.fArgs.length:=by omega
    have hs':=hs (by rw[List.length_map];exact hi')
    rw[List.getElem_map] at hs'
    refine W3 ?_
    refine C1 (ih x.fArgs[i] (by have:=List.sizeOf_lt_of_mem (List.getElem_mem hi');omega) (hall _ (List.getElem_mem hi'))) ?_
    refine W3 ?_
    rw[hs']
    exact bG (i+1) (by omega) rfl rfl (by omega)
   ·have hi':i=(x.fArgs.map dS).length:=by rw[List.length_map];omega
    rw[hx,←hR,hi',List.take_length]
    simp only[dP,dQ,List.cons_append,List.nil_append]
theorem MF(x:ak)(hsz:x.sz≤4194304):aA Tryz.prog 199 [x.v] (.agg [.d (.s (dS x).bf),.d (.sl ((dS x).aH.map ah.enc))]):=zT _ x (Nat.lt_succ_self _) hsz
theorem JW(x:ah)(n:Nat)(hsz:x.sz≤67108864):aA Tryz.prog 115 [.agg [.d (.s x.bf),.d (.ol n (lx x.aH (n+1)))]] (.agg [.d (.s (BI x).bf),.d (.ol n (lx (BI x).aH (n+1)))]):=by
 unfold BI
 cases hv:iy x with
 |false=>
  refine aA.less (fun S=> ?_) (AR [] n)
  refine au (rs:=[.cell 2 78]) Tryz.checked.mixed Tryz.func115 Tryz.ntmps115 rfl rfl rfl rfl rfl ?_
  refine W1 ?_
  refine sS (pW x hsz) (.cons (G7 x n) .nil) ?_
  simp -implicitDefEqProofs (disch:=omega) only[go_sem,hv]
 |true=>
  intro S
  refine au (rs:=[.cell 2 78]) Tryz.checked.mixed Tryz.func115 Tryz.ntmps115 rfl rfl rfl rfl rfl ?_
  refine W1 ?_
  refine sS (pW x hsz) (.cons (G7 x n) .nil) ?_
  simp -implicitDefEqProofs (disch:=omega) only[go_sem,hv]
end Go.Proofs.YtcfhnaohbaplhaaGreatDoor
namespace Go.Proofs
open Go.Shelf
def Tryz.laysM171_ren:Go.Shelf.Ren:=⟨fun|171=>290|243=>348|246=>370|283=>387|284=>388|285=>389|286=>390|129=>402|317=>401|318=>403|319=>404|320=>405|337=>413|338=>414|n=>n,fun|3=>3|9=>9|2=>2|4=>4|171=>379|0=>0|53=>380|37=>154|5=>5|173=>383|212=>396|51=>397|20=>20|213=>398|46=>400|232=>415|233=>416|n=>n,fun|17=>1|18=>4|19=>5|n=>n⟩
theorem Tryz.laysM171:Go.Proofs.LaysM.n171 Tryz.prog Tryz.laysM171_ren:={
 mixed:=by kernel_rfl
 f129:=Tryz.func402.trans (congrArg some (by kernel_rfl))
 f171:=Tryz.func290.trans (congrArg some (by kernel_rfl))
 f243:=Tryz.func348.trans (congrArg some (by kernel_rfl))
 f246:=Tryz.func370.trans (congrArg some (by kernel_rfl))
 f283:=Tryz.func387.trans (congrArg some (by kernel_rfl))
 f284:=Tryz.func388.trans (congrArg some (by kernel_rfl))
 f285:=Tryz.func389.trans (congrArg some (by kernel_rfl))
 f286:=Tryz.func390.trans (congrArg some (by kernel_rfl))
 f317:=Tryz.func401.trans (congrArg some (by kernel_rfl))
 f318:=Tryz.func403.trans (congrArg some (by kernel_rfl))
 f319:=Tryz.func404.trans (congrArg some (by kernel_rfl))
 f320:=Tryz.func405.trans (congrArg some (by kernel_rfl))
 f337:=Tryz.func413.trans (congrArg some (by kernel_rfl))
 f338:=Tryz.func414.trans (congrArg some (by kernel_rfl))
 t0:=Tryz.underlying0
 a0:=Tryz.isAgg0
 z0:=Tryz.sizeOf0
 v0:=Tryz.zeroValue0
 t2:=Tryz.underlying2
 a2:=Tryz.isAgg2
 z2:=Tryz.sizeOf2
 v2:=Tryz.zeroValue2
 t3:=Tryz.underlying3
 a3:=Tryz.isAgg3
 z3:=Tryz.sizeOf3
 v3:=Tryz.zeroValue3
 t4:=Tryz.underlying4
 a4:=Tryz.isAgg4
 z4:=Tryz.sizeOf4
 v4:=Tryz.zeroValue4
 t5:=Tryz.underlying5
 a5:=Tryz.isAgg5
 z5:=Tryz.sizeOf5
 v5:=Tryz.zeroValue5
 t9:=Tryz.underlying9
 a9:=Tryz.isAgg9
 z9:=Tryz.sizeOf9
 v9:=Tryz.zeroValue9
 t20:=Tryz.underlying20
 a20:=Tryz.isAgg20
 z20:=Tryz.sizeOf20
 v20:=Tryz.zeroValue20
 t37:=Tryz.underlying154
 a37:=Tryz.isAgg154
 z37:=Tryz.sizeOf154
 v37:=Tryz.zeroValue154
 t46:=Tryz.underlying400
 a46:=Tryz.isAgg400
 z46:=Tryz.sizeOf400
 v46:=Tryz.zeroValue400
 t51:=Tryz.underlying397
 a51:=Tryz.isAgg397
 z51:=Tryz.sizeOf397
 v51:=Tryz.zeroValue397
 t53:=Tryz.underlying380
 a53:=Tryz.isAgg380
 z53:=Tryz.sizeOf380
 v53:=Tryz.zeroValue380
 t171:=Tryz.underlying379
 a171:=Tryz.isAgg379
 z171:=Tryz.sizeOf379
 v171:=Tryz.zeroValue379
 t173:=Tryz.underlying383
 a173:=Tryz.isAgg383
 z173:=Tryz.sizeOf383
 v173:=Tryz.zeroValue383
 t212:=Tryz.underlying396
 a212:=Tryz.isAgg396
 z212:=Tryz.sizeOf396
 v212:=Tryz.zeroValue396
 t213:=Tryz.underlying398
 a213:=Tryz.isAgg398
 z213:=Tryz.sizeOf398
 t232:=Tryz.underlying415
 a232:=Tryz.isAgg415
 z232:=Tryz.sizeOf415
 v232:=Tryz.zeroValue415
 t233:=Tryz.underlying416
 a233:=Tryz.isAgg416
 z233:=Tryz.sizeOf416
 v233:=Tryz.zeroValue416
 g17:=by kernel_rfl
 g18:=by kernel_rfl
 g19:=by kernel_rfl
 i0:=by kernel_rfl
 i2:=by kernel_rfl
 i3:=by kernel_rfl
 i4:=by kernel_rfl
 i5:=by kernel_rfl
 i9:=by kernel_rfl
 i20:=by kernel_rfl
 i37:=by kernel_rfl
 i46:=by kernel_rfl
 i51:=by kernel_rfl
 i53:=by kernel_rfl
 i171:=by kernel_rfl
 i173:=by kernel_rfl
 i212:=by kernel_rfl
 i232:=by kernel_rfl
 i233:=by kernel_rfl
 m17:=by kernel_rfl
 m18:=by kernel_rfl
 m19:=by kernel_rfl}
open Go.RowKit Go.Sort Go.Lib in
theorem Tryz.strconv_Itoa(n:Int)(h0: -9223372036854775808≤n)(h1:n≤9223372036854775807)(w:World)(htab:Lib.TabIs Tryz.prog w "internal/strconv.uint64pow10" .u64 Lib.pow10Tab):
 Calls Tryz.prog 290 #[.int .i64 n] w fun e w'=>e=.returned (.string ⟨(Lib.itoa n).toArray⟩)∧∃k os,w'=grow (w.drewN k) os:=Any.strconv_Itoa Tryz.laysM171 n h0 h1 w htab
end Go.Proofs
namespace Go.Ab
theorem JX{w:World}{σ:Nat→Nat}{k:Nat}{os:Array Go.Obj}(hl:∀b,b<w.heap.size∨σ b=0):Grow w σ (Go.Sort.grow (w.drewN k) os) σ:=by
 have hh:(Go.Sort.grow (w.drewN k) os).heap=w.heap++os:=rfl
 refine⟨by rw[hh];simp,rfl,rfl,fun b hb=>⟨by rw[hh,Array.getElem?_append_left hb],rfl⟩,fun b=> ?_⟩
 rcases hl b with h|h
 ·left;rw[hh];simp;omega
 ·exact .inr h
theorem QZ{x:V}{vs:List Value}{w:World}{σ:Nat→Nat}{S:Store}{β:Hs}(h:jr w σ S β [x] vs):∃v,vs=[v]∧aW w σ S β x v:=by
 obtain⟨hl,h⟩:=h
 obtain⟨v,e,hr⟩:=h 0 x rfl
 match vs,hl,e with
 |[y],_,e=>simp at e;subst e;exact⟨_,rfl,hr⟩
end Go.Ab
namespace Go.Proofs.YtcfhnaohbaplhaaGreatDoor
open Go Go.Ab
theorem MG{w:World}{σ:Nat→Nat}(h:mG w σ):Lib.TabIs Tryz.prog w "internal/strconv.uint64pow10" .u64 Lib.pow10Tab:=by
 obtain⟨c,t,fz,q1,q2,q3⟩:=h _ _ (show _∈Gp from List.mem_cons_self ..)
 have hn:Tryz.prog.globalNamed "internal/strconv.uint64pow10" =some 1:=by kernel_rfl
 unfold Lib.TabIs World.var?
 rw[hn]
 simp only[Option.bind_some,q1,Option.some.injEq]
 apply Array.ext'
 rw[q2]
 simp[Lib.pow10Tab]
theorem Q0(n:Int)(h0: -9223372036854775808≤n)(h1:n≤9223372036854775807):aA Tryz.prog 290 [.c (.d (.i .i64 n))] (.c (.d (.s (Lib.itoa n)))):=fun S=>by
 refine⟨⟨_,Tryz.func290,by kernel_rfl,by kernel_rfl⟩,fun w σ β vs hS hv=> ?_⟩
 obtain⟨v,rfl,hr,_⟩:=QZ hv
 have hv0:v=.int .i64 n:=by cases hr;rfl
 subst hv0
 refine(Tryz.strconv_Itoa n h0 h1 w (MG hS.l8)).mono fun e w' ⟨he,k,os,hw⟩=> ?_
 subst hw
 have hg:Grow w σ (Go.Sort.grow (w.drewN k) os) σ:=JX hS.live
 exact⟨_,.c (.d (.s (Lib.itoa n))),S,σ,β,he,hS.grow hg,Keep.refl _ _,Step.iO hg,⟨.s _,rfl⟩,rfl,rfl⟩
theorem xZ(n:Int)(h0: -9223372036854775808≤n)(h1:n≤9223372036854775807):aA Tryz.prog 203 [.c (.d (.i .i64 n))] (.c (.d (.s (Lib.itoa n)))):=fun S=>by
 refine au (rs:=[.tmp 2]) Tryz.checked.mixed Tryz.func203 Tryz.ntmps203 rfl rfl rfl rfl rfl ?_
 refine W1 ?_
 exact C4 (Q0 n h0 h1)
end Go.Proofs.YtcfhnaohbaplhaaGreatDoor
namespace Go.Ab
def vX(m:Nat):List UInt8:=if m=0 then [] else Lib.decDigits m
theorem MH{m:Nat}(h:m≠0):vX (m/10)++[UInt8.ofNat (48+m % 10)]=vX m:=by
 unfold vX
 rw[if_neg h]
 conv=>rhs;rw[Lib.decDigits]
 by_cases h10:m<10
 ·rw[dif_pos h10,if_pos (by omega),List.nil_append,Nat.mod_eq_of_lt h10]
 ·rw[dif_neg h10,if_neg (by omega)]
theorem Pn(n:Int)(h0: -9223372036854775808≤n)(h1:n≤9223372036854775807):∃sg:Nat→Int,sg 0=0∧sg n.natAbs=n∧(∀m,m≠0→sg m≠0)∧(∀m,(sg m).tmod 10= -((m % 10:Nat):Int)∨(sg m).tmod 10=((m % 10:Nat):Int))∧
 (∀m,(sg m).tdiv 10=sg (m/10))∧∀m,m≤n.natAbs→ -9223372036854775808≤sg m∧sg m≤9223372036854775807:=by
 by_cases h:n<0
 ·refine⟨fun m=> -(m:Int),rfl,by simp only;omega,fun m hm=>by simp only;omega,fun m=>.inl ?_,fun m=> ?_,fun m hm=>by simp only;omega⟩
  ·simp only;rw[Int.neg_tmod];congr 1
  ·simp only;rw[Int.neg_tdiv];congr 1
 ·refine⟨fun m=>(m:Int),rfl,by simp only;omega,fun m hm=>by simp only;omega,fun m=>.inr rfl,fun m=>rfl,fun m hm=>by simp only;omega⟩
theorem MI:Lib.itoa 0=[48]:=by
 unfold Lib.itoa
 rw[if_neg (by decide),Lib.decDigits,dif_pos (by decide)];rfl
theorem JY(a:Nat)(h:a≤9223372036854775808):(Lib.decDigits a).length≤19:=wM 18 a (by omega)
end Go.Ab
namespace Go.Proofs.YtcfhnaohbaplhaaGreatDoor
open Go Go.Ab
theorem x9(n:Int)(h0: -9223372036854775808≤n)(h1:n≤9223372036854775807):aA Tryz.prog 197 [.c (.d (.i .i64 n))] (.c (.d (.s (Lib.itoa n)))):=fun S=>by
 obtain⟨sg,g0,gn,Xd,Wx,Wy,SN⟩:=Pn n h0 h1
 refine au (rs:=[.tmp 2]) Tryz.checked.mixed Tryz.func197 Tryz.ntmps197 rfl rfl rfl rfl rfl ?_
 refine W1 ?_
 refine S0 (fun hb h=>?_) fun hb h=>?_
 ·rw[h,MI]
 have hn0:=h
 have hd0:vX n.natAbs=Lib.decDigits n.natAbs:=by unfold vX;rw[if_neg (by omega)]
 have hln:=JY n.natAbs (by omega)
 refine aT (ι:=Nat×List UInt8) Tryz.checked.mixed rfl [0,3,4] (fun y=>[.c (.d (.i .i64 (sg y.1))),.c (.d (.b (decide (n<0)))),.c (.d (.s y.2))]) (fun _=>[]::S)
  (fun y=>y.1≤n.natAbs∧vX y.1++y.2=vX n.natAbs∧y.2.length≤19) (fun y=>y.1) (n.natAbs,[]) (by rw[gn];rfl) rfl ⟨Nat.le_refl _,List.append_nil _,by simp⟩ ?_
 rintro⟨m,out⟩ ⟨p1,p2,p3⟩
 simp only at p1 p2 p3
 have hr:=SN m p1
 have hm:=Wx m
 have hq:=Wy m
 generalize hx:sg m=x at *
 generalize hy:x.tmod 10=y at *
 have hlo:out.length≤19:=p3
 refine W1 ?_
 refine S0 (fun hb h=>?_) fun hb h=>?_
 ·have hm0:m≠0:=fun e=>by rw[e,g0] at hx;omega
  have hst:=MH hm0
  have hr2:=SN (m/10) (by omega)
  have Xo:(vX (m/10)).length+1+out.length≤19:=by
   have:=congrArg List.length p2
   rw[←hst,hd0] at this
   simp only[List.length_append,List.length_cons,List.length_nil] at this
   omega
  simp -implicitDefEqProofs (disch:=omega) only[go_sem,hy]
  refine S0 (fun hb h=>?_) fun hb h=>?_
  ·have e1:(0:Int)-y=((m % 10:Nat):Int):=by omega
   have hc:UInt8.ofNat (IntKind.u8.wrap (48+(0-y))).toNat=UInt8.ofNat (48+m % 10):=by
    rw[wrap_u8 _ (by omega),e1]
    congr 1
   simp -implicitDefEqProofs (disch:=omega) only[go_sem,hy,hq]
   refine W3 ?_
   refine bG (m/10,UInt8.ofNat (48+m % 10)::out) (by simp only;omega) (by rw[←hc];rfl) rfl ⟨by simp only;omega,?_,by simp only[List.length_cons];omega⟩
   simp only
   rw[←p2,←hst,List.append_assoc];rfl
  ·have e1:y=((m % 10:Nat):Int):=by omega
   have hc:UInt8.ofNat (IntKind.u8.wrap (48+y)).toNat=UInt8.ofNat (48+m % 10):=by
    rw[wrap_u8 _ (by omega),e1]
    congr 1
   simp -implicitDefEqProofs (disch:=omega) only[go_sem,hy,hq]
   refine W3 ?_
   refine bG (m/10,UInt8.ofNat (48+m % 10)::out) (by simp only;omega) (by rw[←hc];rfl) rfl ⟨by simp only;omega,?_,by simp only[List.length_cons];omega⟩
   simp only
   rw[←p2,←hst,List.append_assoc];rfl
 ·have hm0:m=0:=by
   rcases Nat.eq_zero_or_pos m with e|e
   ·exact e
   ·exact absurd (by rw[hx];omega) (Xd m (by omega))
  subst hm0
  have hout:out=Lib.decDigits n.natAbs:=by rw[←hd0,←p2];rfl
  refine S0 (fun hb h=>?_) fun hb h=>?_
  ·refine W3 ?_
   rw[hout]
   unfold Lib.itoa
   rw[if_pos h]
  ·rw[hout]
   unfold Lib.itoa
   rw[if_neg h,show n.toNat=n.natAbs by omega]
end Go.Proofs.YtcfhnaohbaplhaaGreatDoor
namespace Go.Ab
theorem EZ{P:Program}{w:World}{t u ty e:TypeId}{base:Option Addr}{n:Nat}{i:TypeInfo}{z:Value}(ht:P.underlying t=some (.slice e))(hu:P.underlying u=some (.int .i64))(hi:P.info? e=some i)
 (hz:i.zero=some z) (h1:1≤n) (hn:n≤1073741824) (hb:i.bytes≤4096) (hs:i.size=z.cells.size):
 ∃(cap:Nat) (row:Array Value),n≤cap∧row.size=cap*z.cells.size∧(Builtin.append_ #[t,u] ty #[.slice base 0 0,.int .i64 n]).run P w=
  .ok (.slice (some ⟨w.heap.size,0,none⟩) n cap) {w.drew with heap:=w.heap.push (.cells row e)}:=by
 have hn1:=yA n 0 (by omega)
 have h48:¬(281474976710656<Builtin.nextslicecap n 0*i.bytes):=by
  have:Builtin.nextslicecap n 0*i.bytes≤(2*n+512)*4096:=Nat.mul_le_mul hn1 hb
  omega
 have Vn:¬(281474976710656<(n:Int)*(i.bytes:Int)):=by
  have h2:n*i.bytes≤1073741824*4096:=Nat.mul_le_mul hn hb
  have:(n:Int)*(i.bytes:Int)=((n*i.bytes:Nat):Int):=by simp
  rw[this];omega
 have h63':¬(9223372036854775807<(n:Int)):=by omega
 have hroom':¬(n≤0):=by omega
 have hneg:¬((n:Int)<0):=by omega
 have hn0:¬n=0:=by omega
 have hw:IntKind.i64.wrap (n:Int)=n:=GI _ (by omega)
 have hmax:IntKind.i64.max=9223372036854775807:=by decide
 have ha:∀w:World,(asInt (.int .i64 (n:Int))).run P w=.ok (n:Int) w:=fun w=>by simp[asInt,asIntOf]
 let cap:=(Question.appendCap n 0 e).cut (w.tape w.drawn (Question.appendCap n 0 e))
 have hcap:n≤cap:=by simp[cap,Question.cut]
 refine⟨cap,#[]++(if n*i.size=0 then #[] else Builtin.zeroCells z.cells n)++Builtin.zeroCells z.cells (cap-n),hcap,?_,?_⟩
 ·by_cases h0:n*i.size=0
  ·rw[if_pos h0]
   have hsz:z.cells.size=0:=by
    rcases Nat.mul_eq_zero.1 h0 with h|h
    ·omega
    ·omega
   simp[Builtin.zeroCells,hsz]
  ·rw[if_neg h0]
   simp only[Builtin.zeroCells,Array.size_append,Array.size_map,Array.size_range,Array.size_empty,Nat.zero_add]
   rw[←Nat.add_mul]
   congr 1
   omega
 ·by_cases h0:n*i.size=0
  ·rw[if_pos h0]
   cases base<;>simp[Builtin.append_,run_underlying ht,run_underlying hu,sizeOf,typeInfo,zeroValue,hi,hz,hroom',h48,Vn,h63',hneg,hw,hmax,Question.forced,newRow,ha,hn0,loadCellsFrom,h0,Builtin.firstCells,loadCells]<;>exact⟨rfl,rfl⟩
  ·rw[if_neg h0]
   cases base<;>simp[Builtin.append_,run_underlying ht,run_underlying hu,sizeOf,typeInfo,zeroValue,hi,hz,hroom',h48,Vn,h63',hneg,hw,hmax,Question.forced,newRow,ha,hn0,loadCellsFrom,h0,Builtin.firstCells,loadCells]<;>exact⟨rfl,rfl⟩
end Go.Ab
namespace Go.Proofs.YtcfhnaohbaplhaaGreatDoor
open Go Go.Ab
theorem E5{α:Type}(xss:List (List α)){i:Nat}(hi:i<xss.length):(xss.take (i+1)).flatten.length=(xss.take i).flatten.length+xss[i].length:=by
 rw[List.take_succ_eq_append_getElem hi,List.flatten_append,List.length_append]
 simp only[List.flatten_cons,List.flatten_nil,List.append_nil]
theorem wO{α:Type}(xss:List (List α))(i:Nat):(xss.take i).flatten.length≤xss.flatten.length:=by
 conv=>rhs;rw[←List.take_append_drop i xss]
 rw[List.flatten_append,List.length_append]
 omega
end Go.Proofs.YtcfhnaohbaplhaaGreatDoor
namespace Go.Ab
theorem bN.args{P:Program}{f:FuncId}{args args':List V}{S:Store}{post:V→Store→Prop}(h:bN P f args' S post)(hl:kL args args'):bN P f args S post:=h.weaken hl.length fun j x y hx hy w σ β v hr=>hl.at j x y hx hy w σ S β v hr
theorem jF(n:Nat)(es:List (List D)):Less (.c (.gu n es)) (.c (.d (.sl es))):=fun w σ S β v h=>⟨su h.1.1,h.2⟩
end Go.Ab
namespace Go.Proofs.YtcfhnaohbaplhaaGreatDoor
open Go Go.Ab
theorem gW(xs:List (List UInt8))(hx:xs.length≤1073741824)(n q:Nat)(aN:List Ab.Obj)(Ω:Store):bN Tryz.prog 204 [.c (.d (.sl (xs.map encS)))] (aN::Ω)
 (fun r S'=>r=.c (.bL (0,aN.length+1) (lx (aK xs) q))∧S'=(aN++[.seed n,.dF n 2 (lx (aK xs) q)])::Ω):=by
 refine JL (n) (rs:=[.tmp 2]) Tryz.checked.mixed Tryz.func204 Tryz.ntmps204 rfl rfl rfl rfl rfl ?_
 refine W1 ?_
 refine W3 ?_
 refine wD n 3 2 [] (.inl rfl) (by simp) ?_
 refine aT (ι:=Nat) Tryz.checked.mixed rfl [3,7,8,9] (fun i=>[.c (.bL (0,1) (lx ((aK xs).take i) q)),.c (.d (.sl (xs.map encS))),.c (.d (.i .i64 xs.length)),.c (.d (.i .i64 i))]) (fun i=>[.seed n,.dF n 2 (lx ((aK xs).take i) q)]::aN::Ω)
  (fun i=>i≤xs.length) (fun i=>xs.length-i) 0 rfl rfl (Nat.zero_le _) ?_
 intro i hi
 refine W1 ?_
 refine S0 (fun hb h=>?_) fun hb h=>?_
 ·have hi':i<xs.length:=by omega
  have hw:i<(aK xs).length:=by rw[iX];exact hi'
  have hg:(aK xs)[i]=aM xs[i]:=by simp[aK]
  have hl:(lx ((aK xs).take i) q).length≤i:=by rw[fA];exact List.length_take_le _ _
  refine W3 ?_
  refine C1 (dR xs[i] (q+eZ ((aK xs).take i))) ?_
  refine W3 ?_
  have hs:=AQ hw q
  rw[hg,rG] at hs
  rw[hs]
  exact bG (i+1) (by omega) rfl rfl (by omega)
 ·have hi':i=(aK xs).length:=by rw[iX];omega
  rw[hi',List.take_length]
  exact⟨rfl,rfl⟩
theorem MJ(base:Option Addr)(n:Nat)(h1:1≤n)(hn:n≤1073741824)(w:World):Calls Tryz.prog 291 #[.slice base 0 0,.int .i64 n] w fun e w'=>
 ∃cap row,n≤cap∧row.size=cap*2∧e=.returned (.slice (some ⟨w.heap.size,0,none⟩) 0 cap)∧w'={w.drew with heap:=w.heap.push (.cells row 78)}:=by
 obtain⟨cap,row,hc,hr,hm⟩:=EZ (P:=Tryz.prog) (w:=w) (t:=76) (u:=3) (ty:=76) (e:=78) (base:=base) (n:=n) Tryz.underlying76 Tryz.underlying3 rfl rfl h1 hn (by decide +kernel) rfl
 have h0:¬((n:Int)<0):=by omega
 have h2:(0:Int)<n:=by omega
 go_enter Tryz.func291,Tryz.ntmps291
 go_wp2_with (at_builtin;refine Lib.wpList_append_run _ rfl _ _ _ _ rfl _ _ rfl rfl _ _ hm ?_)
 all_goals go_ret
 exact⟨cap,hc,row,hr,rfl,rfl⟩
theorem JZ(base:Option Addr)(w:World):Calls Tryz.prog 291 #[.slice base 0 0,.int .i64 0] w fun e w'=>e=.returned (.slice base 0 0)∧w'=w:=by
 go_enter Tryz.func291,Tryz.ntmps291
 go_wp2
 all_goals go_ret
 exact⟨rfl,rfl⟩
theorem MK(m n:Nat)(hn:n≤1073741824)(aN:List Ab.Obj)(Ω:Store):bN Tryz.prog 291 [.c (.aY []),.c (.d (.i .i64 n))] (aN::Ω)
 (fun r S'=>r=.c (.bL (0,aN.length) [])∧S'=(aN++[.dF m 2 []])::Ω):=by
 refine⟨⟨_,Tryz.func291,by kernel_rfl,by kernel_rfl⟩,fun w σ β vs hS hv=> ?_⟩
 obtain⟨hl,h⟩:=hv
 obtain⟨v0,e0,⟨h0,a,m',h00⟩,_⟩:=h 0 _ rfl
 obtain⟨v1,e1,h1,_⟩:=h 1 _ rfl
 have h1':v1=.int .i64 n:=by cases h1;rfl
 subst h1'
 have hm:m'=0:=by rw[h00] at h0;cases h0<;>rfl
 subst hm
 subst h00
 have hvs:vs=[.slice a 0 0,.int .i64 n]:=by
  match vs,hl,e0,e1 with
  |[x,y],_,e0,e1=>simp at e0 e1;rw[e0,e1]
 subst hvs
 cases β with
 |nil=>have:=hS.shape.1;simp at this
 |cons bo bΩ=>
 have hlen:bo.length=aN.length:=by
  obtain⟨gr,g1,g2⟩:=hS.shape.2 0 aN rfl
  simp at g1;rw[g1];exact g2
 by_cases hz:n=0
 ·subst hz
  refine(JZ a w).mono fun e w' ⟨he,hw⟩=> ?_
  subst hw
  obtain⟨hS',hk,hst⟩:=hS.push (o:=.dF m 2 []) (h:=.slice a 0 0) (Grow.refl hS.live) hlen ⟨h0,by simp,a,0,rfl,by simp,.inl ⟨rfl,.pR _ _ _⟩⟩ (fun b hb=>by cases a<;>simp[owns,blk] at hb)
  refine⟨_,.c (.bL (0,aN.length) []),_,_,_,he,hS',hk,hst,⟨⟨h0,.dF m 2 [],?_,fun aC es e=> ?_⟩,rfl⟩,rfl,rfl⟩
  ·rw[bI]
  ·obtain⟨_,rfl⟩:=mJ (lab:=some m) e;exact⟨Nat.le_refl _,fun _=>by rw[←hlen,bI]⟩
 ·refine(MJ a n (by omega) hn w).mono fun e w' ⟨cap,row,hc,hr,he,hw⟩=> ?_
  subst hw
  have hσ:σ w.heap.size=0:=(hS.live w.heap.size).resolve_left (by omega)
  have hg:Grow w σ {w.drew with heap:=w.heap.push (.cells row 78)} σ:=by
   refine⟨by simp,rfl,rfl,fun b hb=>⟨?_,rfl⟩,fun b=> ?_⟩
   ·simp only[Array.getElem?_push]
    rw[if_neg (by omega)]
   ·rcases hS.live b with hb|hb
    ·left;simp;omega
    ·exact .inr hb
  obtain⟨hS',hk,hst⟩:=hS.push (o:=.dF m 2 []) (h:=.slice (some ⟨w.heap.size,0,none⟩) 0 cap) hg hlen ⟨.nil _ _,by simp,_,cap,rfl,by simp,.inr ⟨by simp;omega,w.heap.size,0,row,78,rfl,by simp,by simp[hσ],by omega⟩⟩ (fun b hb=>by
   simp only[owns,blk] at hb
   split at hb
   ·cases hb
   ·cases hb;exact Nat.le_refl _)
  refine⟨_,.c (.bL (0,aN.length) []),_,_,_,he,hS',hk,hst,⟨⟨.nil _ _,.dF m 2 [],?_,fun aC es e=> ?_⟩,rfl⟩,rfl,rfl⟩
  ·rw[bI]
  ·obtain⟨_,rfl⟩:=mJ (lab:=some m) e;exact⟨Nat.le_refl _,fun _=>by rw[←hlen,bI]⟩
theorem Gl(m l:Nat)(xss:List (Nat×List (List D)))(hl:xss.length≤1073741824)(hr:∀p∈xss,∀r∈p.2,r.length=2)(hf:(xss.map (·.2)).flatten.length≤1073741824):aA Tryz.prog 205 [.c (.gu l (xss.map fun p=>[.ol p.1 p.2]))] (.c (.d (.ol m (xss.map (·.2)).flatten))):=fun S=>by
 obtain⟨ys,hys⟩:∃ys:List (List (List D)),ys=xss.map (·.2):=⟨_,rfl⟩
 rw[←hys] at hf ⊢
 have hyl:ys.length=xss.length:=by rw[hys,List.length_map]
 have hyi:∀i (hi:i<xss.length),ys[i]'(by omega)=xss[i].2:=fun i hi=>by simp[hys]
 have Pt:∀i (hi:i<xss.length),∀r∈xss[i].2,r.length=2:=fun i hi=>hr _ (List.getElem_mem hi)
 refine rD (m) (rs:=[.tmp 2]) Tryz.checked.mixed Tryz.func205 Tryz.ntmps205 rfl rfl rfl rfl rfl ?_
 refine W1 ?_
 refine aT (ι:=Nat) Tryz.checked.mixed rfl [0,3,9,10,11] (fun i=>[.c (.gu l (xss.map fun p=>[.ol p.1 p.2])),.c (.d (.i .i64 (ys.take i).flatten.length)),.c (.gu l (xss.map fun p=>[.ol p.1 p.2])),.c (.d (.i .i64 xss.length)),.c (.d (.i .i64 i))]) (fun _=>[.seed m]::S)
  (fun i=>i≤xss.length) (fun i=>xss.length-i) 0 rfl rfl (Nat.zero_le _) ?_
 rintro i p1
 have hfi:=wO ys i
 by_cases hi:i<xss.length
 ·have hs:=E5 ys (i:=i) (by omega)
  rw[hyi i hi] at hs
  have Wz:=wO ys (i+1)
  refine W1 ?_
  refine S0 (fun hb h=>?_) fun hb h=>?_
  ·refine W3 ?_
   refine S0 (fun hb h=>?_) fun hb h=>?_
   ·omega
   ·refine bG (i+1) (by omega) ?_ rfl (by omega)
    rw[hs];rfl
  ·omega
 have hi:i=xss.length:=by omega
 subst hi
 refine W1 ?_
 refine S0 (fun hb h=>?_) fun hb h=>?_
 ·omega
 rw[←hyl,List.take_length]
 clear hfi
 refine cZ rfl (MK m ys.flatten.length hf [.seed m] S) ?_
 refine W1 ?_
 refine aT (ι:=Nat) Tryz.checked.mixed rfl [6,25,26,27] (fun i=>[.c (.bL (0,1) (ys.take i).flatten),.c (.gu l (xss.map fun p=>[.ol p.1 p.2])),.c (.d (.i .i64 xss.length)),.c (.d (.i .i64 i))]) (fun i=>[.seed m,.dF m 2 (ys.take i).flatten]::S)
  (fun i=>i≤xss.length) (fun i=>xss.length-i) 0 (by rw[←hyl];rfl) rfl (Nat.zero_le _) ?_
 rintro i p1
 have hfi:=wO ys i
 by_cases hi:i<xss.length
 ·have hs:=E5 ys (i:=i) (by omega)
  rw[hyi i hi] at hs
  have Wz:=wO ys (i+1)
  have e:(ys.take (i+1)).flatten=(ys.take i).flatten++xss[i].2:=by
   rw[List.take_succ_eq_append_getElem (by omega),List.flatten_append,hyi i hi]
   simp only[List.flatten_cons,List.flatten_nil,List.append_nil]
  have Xu:=Pt i hi
  refine W1 ?_
  refine S0 (fun hb h=>?_) fun hb h=>?_
  ·refine W3 ?_
   exact bG (i+1) (by omega) (by rw[e];rfl) (by rw[e]) (by omega)
  ·omega
 ·have hi:i=ys.length:=by omega
  refine W1 ?_
  refine S0 (fun hb h=>?_) fun hb h=>?_
  ·omega
  rw[hi,List.take_length]
end Go.Proofs.YtcfhnaohbaplhaaGreatDoor
namespace Go.Ab
theorem eX{x:aj}{k:Int}(h:x.aG=k):fD x.aG x.aQ x.fName x.fType=fD k x.aQ x.fName x.fType:=by rw[h]
theorem BM{l:List aj}{t:aj}(h:t∈l):t.sz≤EO l:=by
 rw[←xV];exact dX (List.mem_map_of_mem h)
theorem zU{l:List ay}{t:ay}(h:t∈l):t.sz≤EP l:=by
 rw[←xW];exact dX (List.mem_map_of_mem h)
theorem rW:∀{xs:List aj},gT xs=true↔∀t∈xs,fu t=true
 |[]=>by simp[gT]
 |t::ts=>by simp[gT,rW (xs:=ts)]
theorem uJ:∀{xs:List ay},jk xs=true↔∀t∈xs,nU t=true
 |[]=>by simp[jk]
 |t::ts=>by simp[jk,uJ (xs:=ts)]
theorem fH{x:aj}(h1:x.aG≠1)(h2:x.aG≠2)(h3:x.aG≠3)(h:x.aG=4∨x.aG=5∨x.aG=6∨x.aG=8∨x.aG=9∨x.aG=10∨x.aG=11∨x.aG=12):
 dD x=lC (fD x.aG x.aQ x.fName x.fType++x.fArgs.map dD):=by rw[vT,if_neg h1,if_neg h2,if_neg h3,if_pos h,List.append_nil]
end Go.Ab
namespace Go.Proofs.YtcfhnaohbaplhaaGreatDoor
open Go Go.Ab
theorem zV:∀N:Nat,∀x:aj,SizeOf.sizeOf x<N→∀n:Nat,fu x=true→x.sz≤4194304→aA Tryz.prog 116 [x.v] (.agg [.d (.s (dD x).bf),.d (.ol n (lx (dD x).aH (n+1)))])
 |0=>fun x h=>by omega
 |N+1=>by
  have ih:=zV N
  intro x hn n hok hsz S
  have iR:=aj.eH x
  have rC:=aj.lZ x
  have hzz:=xX x
  rw[ny,Bool.and_eq_true,Bool.and_eq_true] at hok
  obtain⟨hfi,hoa,E8⟩:=hok
  have hfi:=lN hfi
  have hoa:=rW.1 hoa
  have E8:=uJ.1 E8
  obtain⟨qa,og⟩:∃qa,qa=n+1+eZ (fD x.aG x.aQ x.fName x.fType):=⟨_,rfl⟩
  obtain⟨T,hT⟩:∃T:Nat→List (List D),T=fun i=>lx ((x.fArgs.map dD).take i) qa:=⟨_,rfl⟩
  have hT0:T 0=[]:=by rw[hT];rfl
  have ML:∀i,(T i).length≤i:=fun i=>by rw[hT];simp only[fA];exact List.length_take_le _ _
  have hTr:∀i,∀r∈T i,r.length=2:=fun i=>by rw[hT];exact jc
  have hTs:∀i (hi:i<x.fArgs.length),T i++[[.s (dD x.fArgs[i]).bf,.ol (qa+eZ ((x.fArgs.map dD).take i)) (lx (dD x.fArgs[i]).aH (qa+eZ ((x.fArgs.map dD).take i)+1))]]=T (i+1):=fun i hi=>by
   have:=EW (l:=x.fArgs.map dD) (i:=i) (by rw[List.length_map];exact hi) qa
   rw[List.getElem_map] at this
   rw[hT];exact this
  have hTe:T x.fArgs.length=lx (x.fArgs.map dD) qa:=by rw[hT];simp only;rw[List.take_of_length_le (by simp)]
  clear hT
  refine rD (n) (rs:=[.cell 2 78]) Tryz.checked.mixed Tryz.func116 Tryz.ntmps116 rfl rfl rfl rfl rfl ?_
  refine W1 ?_
  refine W3 ?_
  refine wD n 3 2 [] (.inl rfl) (by simp) ?_
  refine aT (ι:=Nat) Tryz.checked.mixed rfl [1,2,3,11,12,13] (fun i=>[.c (.ptr (0,1) 0),.c (.ptr (0,2) 0),.c (.bL (0,3) (T i)),.c (.d (.sl (x.fArgs.map aj.enc))),.c (.d (.i .i64 x.fArgs.length)),.c (.d (.i .i64 i))])
   (fun i=>[.seed n,.box [.d (.i .i64 x.aG),.d (.s x.aQ),.d (.s x.fName),.d (.i .i64 x.fN),.d (.i .i64 x.fType.aG),.d (.s x.fType.fName),.d (.sl (x.fType.fArgs.map ak.enc)),.d (.sl (x.fArgs.map aj.enc)),.d (.sl (x.aD.map ay.enc))],.box [.d (.s []),.aY []],.dF n 2 (T i)]::S)
   (fun i=>i≤x.fArgs.length) (fun i=>x.fArgs.length-i) 0 (by rw[hT0];rfl) (by rw[hT0];rfl) (Nat.zero_le _) ?_
  intro i hi
  have hl:=ML i
  refine W1 ?_
  refine S0 (fun hb h=>?_) fun hb h=>?_
  ·have hi':i<x.fArgs.length:=by omega
   have hm:=List.getElem_mem hi'
   have Px:=BM hm
   have hs:=hTs i hi'
   refine W3 ?_
   refine C1 (ih x.fArgs[i] (by have:=List.sizeOf_lt_of_mem hm;omega) (qa+eZ ((x.fArgs.map dD).take i)) (hoa _ hm) (by omega)) ?_
   refine W3 ?_
   rw[hs]
   exact iT 4 (by decide) (i+1) (by omega) rfl rfl rfl rfl (by omega)
  have hi':i=x.fArgs.length:=by omega
  subst hi'
  clear hTs hi h hb
  have Xe:=hTr x.fArgs.length
  have hxe:=vT x
  refine S0 (fun hb h=>?_) fun hb h=>?_
  ·rw[if_pos h] at hxe
   rw[hxe]
   have hb:=hfi.2.2.2.1
   rw[if_pos h] at hb
   refine C1 (xZ x.fN (by omega) (by omega)) ?_
   refine C1 (dR _ n) ?_
   rfl
  have k1:=h
  rw[if_neg h] at hxe
  refine S0 (fun hb h=>?_) fun hb h=>?_
  ·rw[if_pos h] at hxe
   rw[hxe]
   refine S0 (fun hb h=>?_) fun hb h=>?_
   ·rw[if_pos h]
    refine C1 (dR _ n) ?_
    rfl
   ·rw[if_neg h]
    refine C1 (dR _ n) ?_
    rfl
  have k2:=h
  rw[if_neg h] at hxe
  refine S0 (fun hb h=>?_) fun hb h=>?_
  ·rw[if_pos h] at hxe
   rw[hxe]
   refine C1 (dR _ n) ?_
   rfl
  have k3:=h
  clear hxe
  refine S0 (fun hb h=>?_) fun hb h=>?_
  ·have hx:=fH k1 k2 k3 (by omega)
   have hh:fD x.aG x.aQ x.fName x.fType=aK [rE,x.fName]:=by rw[eX h];rfl
   rw[hh] at hx og
   refine W3 ?_
   refine cZ rfl (bN.args (gW [rE,x.fName] (by simp) n (n+1) _ _) (.cons (jF n _) .nil)) ?_
   have BN:(lx (aK [rE,x.fName]) (n+1)).length=2:=by rw[fA];rfl
   have BO:=jc (l:=aK [rE,x.fName]) (n:=n+1)
   refine W1 ?_
   refine W3 ?_
   refine cZ rfl (iU 0 5 _ _) ?_
   refine W1 ?_
   rw[hx,hTe,og,dP,dQ,gF]
  have k4:=h
  refine S0 (fun hb h=>?_) fun hb h=>?_
  ·have hx:=fH k1 k2 k3 (by omega)
   have hh:fD x.aG x.aQ x.fName x.fType=aK [nA,x.aQ,x.fName]:=by rw[eX h];rfl
   rw[hh] at hx og
   refine W3 ?_
   refine cZ rfl (bN.args (gW [nA,x.aQ,x.fName] (by simp) n (n+1) _ _) (.cons (jF n _) .nil)) ?_
   have BN:(lx (aK [nA,x.aQ,x.fName]) (n+1)).length=3:=by rw[fA];rfl
   have BO:=jc (l:=aK [nA,x.aQ,x.fName]) (n:=n+1)
   refine W1 ?_
   refine W3 ?_
   refine cZ rfl (iU 0 5 _ _) ?_
   refine W1 ?_
   rw[hx,hTe,og,dP,dQ,gF]
  have k5:=h
  refine S0 (fun hb h=>?_) fun hb h=>?_
  ·have hx:=fH k1 k2 k3 (by omega)
   have hh:fD x.aG x.aQ x.fName x.fType=aK [vR,x.fName]:=by rw[eX h];rfl
   rw[hh] at hx og
   refine W3 ?_
   refine cZ rfl (bN.args (gW [vR,x.fName] (by simp) n (n+1) _ _) (.cons (jF n _) .nil)) ?_
   have BN:(lx (aK [vR,x.fName]) (n+1)).length=2:=by rw[fA];rfl
   have BO:=jc (l:=aK [vR,x.fName]) (n:=n+1)
   refine W1 ?_
   refine W3 ?_
   refine cZ rfl (iU 0 5 _ _) ?_
   refine W1 ?_
   rw[hx,hTe,og,dP,dQ,gF]
  have k6:=h
  refine S0 (fun hb h=>?_) fun hb h=>?_
  ·have hx:=vT x
   rw[if_neg k1,if_neg k2,if_neg k3,if_neg (by omega)] at hx
   have hh:fD x.aG x.aQ x.fName x.fType=aK [kG]:=by rw[eX h];rfl
   rw[hh] at hx og
   obtain⟨B,hB⟩:∃B:Nat→List (List D),B=fun i=>lx (x.fArgs.map dD++(x.aD.map pY).take i) qa:=⟨_,rfl⟩
   obtain⟨L,hL⟩:∃L:Nat→Nat,L=fun i=>qa+eZ (x.fArgs.map dD++(x.aD.map pY).take i):=⟨_,rfl⟩
   have hB0:T x.fArgs.length=B 0:=by rw[hTe,hB];simp only[List.take_zero,List.append_nil]
   have hBl:∀i,(B i).length≤i+x.fArgs.length:=fun i=>by
    rw[hB];simp only[fA,List.length_append,List.length_map]
    have:=List.length_take_le i (x.aD.map pY)
    omega
   have hBr:∀i,∀r∈B i,r.length=2:=fun i=>by rw[hB];exact jc
   have SQ:∀i (hi:i<x.aD.length),B i++[[.s [],.ol (L i) (lx ([aM x.aD[i].aV]++aK x.aD[i].aU++[dD x.aD[i].fBody]) (L i+1))]]=B (i+1):=fun i hi=>by
    have:=Pk (base:=x.fArgs.map dD) (l:=x.aD.map pY) (i:=i) (by rw[List.length_map];exact hi) qa
    rw[List.getElem_map,Ms,dP,dQ] at this
    rw[hB,hL];exact this
   have SS:B x.aD.length=lx (x.fArgs.map dD++x.aD.map pY) qa:=by rw[hB];simp only;rw[List.take_of_length_le (by simp)]
   clear hB hL Xe
   refine W3 ?_
   refine cZ rfl (bN.args (gW [kG] (by simp) n (n+1) _ _) (.cons (jF n _) .nil)) ?_
   have BN:(lx (aK [kG]) (n+1)).length=1:=by rw[fA];rfl
   have BO:=jc (l:=aK [kG]) (n:=n+1)
   refine W1 ?_
   rw[hB0]
   obtain⟨HD,Vo⟩:∃HD,HD=lx (aK [kG]) (n+1):=⟨_,rfl⟩
   rw[←Vo] at BN BO ⊢
   refine aT (ι:=Nat) Tryz.checked.mixed rfl [2,3,6,69,70,71] (fun i=>[.c (.ptr (0,2) 0),.c (.bL (0,3) (B i)),.c (.bL (0,5) HD),.c (.d (.sl (x.aD.map ay.enc))),.c (.d (.i .i64 x.aD.length)),.c (.d (.i .i64 i))])
    (fun i=>[.seed n,.box [.d (.i .i64 x.aG),.d (.s x.aQ),.d (.s x.fName),.d (.i .i64 x.fN),.d (.i .i64 x.fType.aG),.d (.s x.fType.fName),.d (.sl (x.fType.fArgs.map ak.enc)),.d (.sl (x.fArgs.map aj.enc)),.d (.sl (x.aD.map ay.enc))],.box [.d (.s []),.aY []],.dF n 2 (B i),.seed n,.dF n 2 HD]::S)
    (fun i=>i≤x.aD.length) (fun i=>x.aD.length-i) 0 rfl rfl (Nat.zero_le _) ?_
   intro i hi
   have hl:=hBl i
   have hr:=hBr i
   refine W1 ?_
   refine S0 (fun hb h=>?_) fun hb h=>?_
   ·have hi':i<x.aD.length:=by omega
    have hm:=List.getElem_mem hi'
    have Px:=zU hm
    have Xf:=vU x.aD[i]
    have hs:=SQ i hi'
    have hak:=E8 _ hm
    rw[jJ,Bool.and_eq_true,Bool.and_eq_true] at hak
    have hls:=List.sizeOf_lt_of_mem hm
    have hlb:=ay.kT x.aD[i]
    refine W3 ?_
    refine sS (uU [x.aD[i].aV] (by simp) 0 (L i+1)) (.cons (jF n _) .nil) ?_
    refine W1 ?_
    refine C1 (uU x.aD[i].aU (by omega) 0 (L i+1+eZ (aK [x.aD[i].aV]))) ?_
    refine C1 (ih x.aD[i].fBody (by omega) (L i+1+eZ (aK [x.aD[i].aV]++aK x.aD[i].aU)) hak.2.2 (by omega)) ?_
    refine W3 ?_
    refine bW (Gl (L i) n [(0,lx (aK [x.aD[i].aV]) (L i+1)),(0,lx (aK x.aD[i].aU) (L i+1+eZ (aK [x.aD[i].aV]))),(n,[[.s (dD x.aD[i].fBody).bf,.ol (L i+1+eZ (aK [x.aD[i].aV]++aK x.aD[i].aU)) (lx (dD x.aD[i].fBody).aH (L i+1+eZ (aK [x.aD[i].aV]++aK x.aD[i].aU)+1))]])] (by simp) ?_ ?_) ?_
    ·intro p hp
     simp only[List.mem_cons,List.not_mem_nil,or_false] at hp
     rcases hp with rfl|rfl|rfl
     ·exact jc
     ·exact jc
     ·simp
    ·simp only[List.map_cons,List.map_nil,List.flatten_cons,List.flatten_nil,List.length_append,fA,iX,List.length_cons,List.length_nil];omega
    refine W1 ?_
    refine C1 (zQ _) ?_
    refine W3 ?_
    have hrow:[lx (aK [x.aD[i].aV]) (L i+1),lx (aK x.aD[i].aU) (L i+1+eZ (aK [x.aD[i].aV])),[[.s (dD x.aD[i].fBody).bf,.ol (L i+1+eZ (aK [x.aD[i].aV]++aK x.aD[i].aU)) (lx (dD x.aD[i].fBody).aH (L i+1+eZ (aK [x.aD[i].aV]++aK x.aD[i].aU)+1))]]].flatten=lx ([aM x.aD[i].aV]++aK x.aD[i].aU++[dD x.aD[i].fBody]) (L i+1):=by
     have e1:[aM x.aD[i].aV]=aK [x.aD[i].aV]:=rfl
     rw[e1,gF,gF,sW (dD x.aD[i].fBody) [],vW,nG (dD x.aD[i].fBody)]
     simp only[List.flatten_cons,List.flatten_nil,List.append_nil,List.append_assoc]
    rw[hrow,hs]
    exact iT 6 (by decide) (i+1) (by omega) rfl rfl rfl rfl (by omega)
   ·have hi':i=x.aD.length:=by omega
    subst hi'
    have hr2:=hBr x.aD.length
    refine W3 ?_
    refine cZ rfl (iU 0 5 _ _) ?_
    refine W1 ?_
    rw[hx,SS,og,Vo,dP,dQ,List.append_assoc,gF (aK [kG])]
  have k7:=h
  refine S0 (fun hb h=>?_) fun hb h=>?_
  ·have hx:=fH k1 k2 k3 (by omega)
   have hh:fD x.aG x.aQ x.fName x.fType=aK [vS,x.fName]:=by rw[eX h];rfl
   rw[hh] at hx og
   refine W3 ?_
   refine cZ rfl (bN.args (gW [vS,x.fName] (by simp) n (n+1) _ _) (.cons (jF n _) .nil)) ?_
   have BN:(lx (aK [vS,x.fName]) (n+1)).length=2:=by rw[fA];rfl
   have BO:=jc (l:=aK [vS,x.fName]) (n:=n+1)
   refine W1 ?_
   refine W3 ?_
   refine cZ rfl (iU 0 5 _ _) ?_
   refine W1 ?_
   rw[hx,hTe,og,dP,dQ,gF]
  have k8:=h
  refine S0 (fun hb h=>?_) fun hb h=>?_
  ·have hx:=fH k1 k2 k3 (by omega)
   have hh:fD x.aG x.aQ x.fName x.fType=aK [BJ]:=by rw[eX h];rfl
   rw[hh] at hx og
   refine W3 ?_
   refine cZ rfl (bN.args (gW [BJ] (by simp) n (n+1) _ _) (.cons (jF n _) .nil)) ?_
   have BN:(lx (aK [BJ]) (n+1)).length=1:=by rw[fA];rfl
   have BO:=jc (l:=aK [BJ]) (n:=n+1)
   refine W1 ?_
   refine W3 ?_
   refine cZ rfl (iU 0 5 _ _) ?_
   refine W1 ?_
   rw[hx,hTe,og,dP,dQ,gF]
  have k9:=h
  refine S0 (fun hb h=>?_) fun hb h=>?_
  ·have hx:=fH k1 k2 k3 (by omega)
   have hh:fD x.aG x.aQ x.fName x.fType=aK [x.fName]:=by rw[eX h];rfl
   rw[hh] at hx og
   refine W3 ?_
   refine cZ rfl (bN.args (gW [x.fName] (by simp) n (n+1) _ _) (.cons (jF n _) .nil)) ?_
   have BN:(lx (aK [x.fName]) (n+1)).length=1:=by rw[fA];rfl
   have BO:=jc (l:=aK [x.fName]) (n:=n+1)
   refine W1 ?_
   refine W3 ?_
   refine cZ rfl (iU 0 5 _ _) ?_
   refine W1 ?_
   rw[hx,hTe,og,dP,dQ,gF]
  have k10:=h
  refine S0 (fun hb h=>?_) fun hb h=>?_
  ·have hx:=fH k1 k2 k3 (by omega)
   have hh:fD x.aG x.aQ x.fName x.fType=aK [rF,x.aQ]:=by rw[eX h];rfl
   rw[hh] at hx og
   refine W3 ?_
   refine cZ rfl (bN.args (gW [rF,x.aQ] (by simp) n (n+1) _ _) (.cons (jF n _) .nil)) ?_
   have BN:(lx (aK [rF,x.aQ]) (n+1)).length=2:=by rw[fA];rfl
   have BO:=jc (l:=aK [rF,x.aQ]) (n:=n+1)
   refine W1 ?_
   refine W3 ?_
   refine cZ rfl (iU 0 5 _ _) ?_
   refine W1 ?_
   rw[hx,hTe,og,dP,dQ,gF]
  have k11:=h
  refine S0 (fun hb h=>?_) fun hb h=>?_
  ·have hx:=fH k1 k2 k3 (by omega)
   have hh:fD x.aG x.aQ x.fName x.fType=[aM xR,dS x.fType]:=by rw[eX h];rfl
   rw[hh] at hx og
   have hty:=hfi.2.2.2.2.1
   rw[if_pos h] at hty
   refine C1 (dR _ (n+1)) ?_
   refine C1 (JV x.fType (n+1+1) (Ey hty) (by omega)) ?_
   refine W3 ?_
   refine cZ rfl (iU 0 4 _ _) ?_
   refine W1 ?_
   rw[hx,hTe,og,dP,dQ,gF]
   simp only[sW,vW,nG,uq,uw,vV,JU,ME,xR,List.cons_append,List.nil_append]
  ·have:=hfi.1
   omega
theorem J2(x:aj)(n:Nat)(hok:fu x=true)(hsz:x.sz≤4194304):aA Tryz.prog 116 [x.v] (.agg [.d (.s (dD x).bf),.d (.ol n (lx (dD x).aH (n+1)))]):=zV _ x (Nat.lt_succ_self _) n hok hsz
end Go.Proofs.YtcfhnaohbaplhaaGreatDoor
namespace Go.Proofs.YtcfhnaohbaplhaaGreatDoor
open Go Go.Ab
theorem iY(hd:List ah)(xs:List aj)(S:Store)(hA:∀t∈xs,aA Tryz.prog 110 [t.v] (dD t).v)(hl:xs.length≤4194304)(hh:hd.length≤4):bN Tryz.prog 198 [.c (.aY (hd.map ah.enc)),.c (.d (.sl (xs.map aj.enc)))] S
 (fun r S'=>r=.agg [.d (.s []),.d (.sl ((hd++xs.map dD).map ah.enc))]∧S'=S):=by
 obtain⟨T,hT⟩:∃T:Nat→List (List D),T=fun i=>(hd++(xs.map dD).take i).map ah.enc:=⟨_,rfl⟩
 have hT0:T 0=hd.map ah.enc:=by rw[hT];simp only[List.take_zero,List.append_nil]
 have ML:∀i,(T i).length≤i+hd.length:=fun i=>by
  rw[hT];simp only[List.length_map,List.length_append]
  have:=List.length_take_le i (xs.map dD)
  omega
 have hTs:∀i (hi:i<xs.length),T i++[[.s (dD xs[i]).bf,.sl ((dD xs[i]).aH.map ah.enc)]]=T (i+1):=fun i hi=>by
  have:=lW (base:=hd) (l:=xs.map dD) (i:=i) (by rw[List.length_map];exact hi)
  rw[List.getElem_map] at this
  rw[hT];exact this
 have hTe:T xs.length=(hd++xs.map dD).map ah.enc:=by rw[hT];simp only;rw[List.take_of_length_le (by simp)]
 clear hT
 rw[←hT0]
 rw[←hTe]
 refine au (rs:=[.cell 4 78]) Tryz.checked.mixed Tryz.func198 Tryz.ntmps198 rfl rfl rfl rfl rfl ?_
 refine W1 ?_
 refine Bt 1 1 2 (T 0) [.d (.s []),.aY (T 0)] rfl rfl (by rw[hT0];exact mO) ?_
 refine aT (ι:=Nat) Tryz.checked.mixed rfl [1,4,5,6] (fun i=>[.c (.d (.sl (xs.map aj.enc))),.c (.ptr (0,0) 0),.c (.ptr (0,1) 0),.c (.d (.i .i64 i))])
  (fun i=>[.box [.d (.s []),.aY []],.box [.d (.s []),.bL (0,2) (T i)],.tok 2 (T i)]::S)
  (fun i=>i≤xs.length) (fun i=>xs.length-i) 0 rfl rfl (Nat.zero_le _) ?_
 intro i hi
 have hl:=ML i
 refine W1 ?_
 refine S0 (fun hb h=>?_) fun hb h=>?_
 ·have hi':i<xs.length:=by omega
  have hs:=hTs i hi'
  refine W3 ?_
  refine C1 (hA xs[i] (List.getElem_mem hi')) ?_
  refine W3 ?_
  rw[hs]
  exact bG (i+1) (by omega) rfl rfl (by omega)
 ·have hi':i=xs.length:=by omega
  subst hi'
  rfl
theorem E9(hd:List ah)(xs:List aj)(aN:List Ab.Obj)(Ω:Store)(hA:∀t∈xs,aA Tryz.prog 110 [t.v] (dD t).v)(hl:xs.length≤4194304)(hh:hd.length≤4):bN Tryz.prog 198 [.c (.aY (hd.map ah.enc)),.c (.d (.sl (xs.map aj.enc)))] (aN::Ω)
 (fun r S'=>r=.agg [.d (.s []),.bL (0,aN.length+2) ((hd++xs.map dD).map ah.enc)]∧S'=(aN++[.box [.d (.s []),.bL (0,aN.length+2) ((hd++xs.map dD).map ah.enc)],.box [.d (.s []),.bL (0,aN.length+2) ((hd++xs.map dD).map ah.enc)],.tok 2 ((hd++xs.map dD).map ah.enc)])::Ω):=by
 obtain⟨T,hT⟩:∃T:Nat→List (List D),T=fun i=>(hd++(xs.map dD).take i).map ah.enc:=⟨_,rfl⟩
 have hT0:T 0=hd.map ah.enc:=by rw[hT];simp only[List.take_zero,List.append_nil]
 have ML:∀i,(T i).length≤i+hd.length:=fun i=>by
  rw[hT];simp only[List.length_map,List.length_append]
  have:=List.length_take_le i (xs.map dD)
  omega
 have hTs:∀i (hi:i<xs.length),T i++[[.s (dD xs[i]).bf,.sl ((dD xs[i]).aH.map ah.enc)]]=T (i+1):=fun i hi=>by
  have:=lW (base:=hd) (l:=xs.map dD) (i:=i) (by rw[List.length_map];exact hi)
  rw[List.getElem_map] at this
  rw[hT];exact this
 have hTe:T xs.length=(hd++xs.map dD).map ah.enc:=by rw[hT];simp only;rw[List.take_of_length_le (by simp)]
 clear hT
 rw[←hT0]
 rw[←hTe]
 refine LP (rs:=[.cell 4 78]) Tryz.checked.mixed Tryz.func198 Tryz.ntmps198 rfl rfl rfl rfl rfl ?_
 refine W1 ?_
 refine Bt 1 1 2 (T 0) [.d (.s []),.aY (T 0)] rfl rfl (by rw[hT0];exact mO) ?_
 refine aT (ι:=Nat) Tryz.checked.mixed rfl [1,4,5,6] (fun i=>[.c (.d (.sl (xs.map aj.enc))),.c (.ptr (0,0) 0),.c (.ptr (0,1) 0),.c (.d (.i .i64 i))])
  (fun i=>[.box [.d (.s []),.aY []],.box [.d (.s []),.bL (0,2) (T i)],.tok 2 (T i)]::aN::Ω)
  (fun i=>i≤xs.length) (fun i=>xs.length-i) 0 rfl rfl (Nat.zero_le _) ?_
 intro i hi
 have hl:=ML i
 refine W1 ?_
 refine S0 (fun hb h=>?_) fun hb h=>?_
 ·have hi':i<xs.length:=by omega
  have hs:=hTs i hi'
  refine W3 ?_
  refine C1 (hA xs[i] (List.getElem_mem hi')) ?_
  refine W3 ?_
  rw[hs]
  exact bG (i+1) (by omega) rfl rfl (by omega)
 ·have hi':i=xs.length:=by omega
  subst hi'
  exact⟨rfl,rfl⟩
theorem zW:∀N:Nat,∀x:aj,SizeOf.sizeOf x<N→fu x=true→x.sz≤4194304→aA Tryz.prog 110 [x.v] (dD x).v
 |0=>fun x h=>by omega
 |N+1=>by
  have ih:=zW N
  intro x hn hok hsz S
  have iR:=aj.eH x
  have rC:=aj.lZ x
  have hzz:=xX x
  rw[ny,Bool.and_eq_true,Bool.and_eq_true] at hok
  obtain⟨hfi,hoa,E8⟩:=hok
  have hfi:=lN hfi
  have hoa:=rW.1 hoa
  have E8:=uJ.1 E8
  have hA:∀t∈x.fArgs,aA Tryz.prog 110 [t.v] (dD t).v:=fun t ht=>ih t (by have:=List.sizeOf_lt_of_mem ht;omega) (hoa t ht) (by have:=BM ht;omega)
  have hxe:=vT x
  refine au (rs:=[.cell 2 78]) Tryz.checked.mixed Tryz.func110 Tryz.ntmps110 rfl rfl rfl rfl rfl ?_
  refine W1 ?_
  refine S0 (fun hb h=>?_) fun hb h=>?_
  ·rw[if_pos h] at hxe
   rw[hxe]
   have hb:=hfi.2.2.2.1
   rw[if_pos h] at hb
   refine C1 (x9 x.fN (by omega) (by omega)) ?_
   refine C1 (bH _) ?_
   rfl
  have k1:=h
  rw[if_neg h] at hxe
  refine S0 (fun hb h=>?_) fun hb h=>?_
  ·rw[if_pos h] at hxe
   rw[hxe]
   have hb:=hfi.2.2.2.1
   rw[if_neg k1,if_pos h] at hb
   rcases hb with e|e
   ·rw[e]
    simp -implicitDefEqProofs (disch:=omega) only[go_sem,List.getD_cons_zero]
    refine W3 ?_
    refine C1 (bH _) ?_
    rfl
   ·rw[e]
    simp -implicitDefEqProofs (disch:=omega) only[go_sem,List.getD_cons_zero,List.getD_cons_succ]
    refine W3 ?_
    refine C1 (bH _) ?_
    rfl
  have k2:=h
  rw[if_neg h] at hxe
  refine S0 (fun hb h=>?_) fun hb h=>?_
  ·rw[if_pos h] at hxe
   rw[hxe]
   refine C1 (bH _) ?_
   rfl
  have k3:=h
  clear hxe
  refine S0 (fun hb h=>?_) fun hb h=>?_
  ·have hx:=fH k1 k2 k3 (by omega)
   have hh:fD x.aG x.aQ x.fName x.fType=[aM rE,aM x.fName]:=by rw[eX h];rfl
   rw[hh] at hx
   refine C1 (bH _) ?_
   refine C1 (bH _) ?_
   have hE:=fun S=>iY [aM rE,aM x.fName] x.fArgs S hA (by omega) (by simp)
   simp only[List.map_cons,List.map_nil,gq] at hE
   refine cZ rfl (hE _) ?_
   refine W1 ?_
   rw[hx]
   rfl
  have k4:=h
  refine S0 (fun hb h=>?_) fun hb h=>?_
  ·have hx:=fH k1 k2 k3 (by omega)
   have hh:fD x.aG x.aQ x.fName x.fType=[aM nA,aM x.aQ,aM x.fName]:=by rw[eX h];rfl
   rw[hh] at hx
   refine C1 (bH _) ?_
   refine C1 (bH _) ?_
   refine C1 (bH _) ?_
   have hE:=fun S=>iY [aM nA,aM x.aQ,aM x.fName] x.fArgs S hA (by omega) (by simp)
   simp only[List.map_cons,List.map_nil,gq] at hE
   refine cZ rfl (hE _) ?_
   refine W1 ?_
   rw[hx]
   rfl
  have k5:=h
  refine S0 (fun hb h=>?_) fun hb h=>?_
  ·have hx:=fH k1 k2 k3 (by omega)
   have hh:fD x.aG x.aQ x.fName x.fType=[aM vR,aM x.fName]:=by rw[eX h];rfl
   rw[hh] at hx
   refine C1 (bH _) ?_
   refine C1 (bH _) ?_
   have hE:=fun S=>iY [aM vR,aM x.fName] x.fArgs S hA (by omega) (by simp)
   simp only[List.map_cons,List.map_nil,gq] at hE
   refine cZ rfl (hE _) ?_
   refine W1 ?_
   rw[hx]
   rfl
  have k6:=h
  refine S0 (fun hb h=>?_) fun hb h=>?_
  ·have hx:=fH k1 k2 k3 (by omega)
   have hh:fD x.aG x.aQ x.fName x.fType=[aM vS,aM x.fName]:=by rw[eX h];rfl
   rw[hh] at hx
   refine C1 (bH _) ?_
   refine C1 (bH _) ?_
   have hE:=fun S=>iY [aM vS,aM x.fName] x.fArgs S hA (by omega) (by simp)
   simp only[List.map_cons,List.map_nil,gq] at hE
   refine cZ rfl (hE _) ?_
   refine W1 ?_
   rw[hx]
   rfl
  have k8:=h
  refine S0 (fun hb h=>?_) fun hb h=>?_
  ·have hx:=fH k1 k2 k3 (by omega)
   have hh:fD x.aG x.aQ x.fName x.fType=[aM BJ]:=by rw[eX h];rfl
   rw[hh] at hx
   refine C1 (bH _) ?_
   have hE:=fun S=>iY [aM BJ] x.fArgs S hA (by omega) (by simp)
   simp only[List.map_cons,List.map_nil,gq] at hE
   refine cZ rfl (hE _) ?_
   refine W1 ?_
   rw[hx]
   rfl
  have k9:=h
  refine S0 (fun hb h=>?_) fun hb h=>?_
  ·have hx:=fH k1 k2 k3 (by omega)
   have hh:fD x.aG x.aQ x.fName x.fType=[aM x.fName]:=by rw[eX h];rfl
   rw[hh] at hx
   refine C1 (bH _) ?_
   have hE:=fun S=>iY [aM x.fName] x.fArgs S hA (by omega) (by simp)
   simp only[List.map_cons,List.map_nil,gq] at hE
   refine cZ rfl (hE _) ?_
   refine W1 ?_
   rw[hx]
   rfl
  have k10:=h
  refine S0 (fun hb h=>?_) fun hb h=>?_
  ·have hx:=fH k1 k2 k3 (by omega)
   have hh:fD x.aG x.aQ x.fName x.fType=[aM rF,aM x.aQ]:=by rw[eX h];rfl
   rw[hh] at hx
   refine C1 (bH _) ?_
   refine C1 (bH _) ?_
   have hE:=fun S=>iY [aM rF,aM x.aQ] x.fArgs S hA (by omega) (by simp)
   simp only[List.map_cons,List.map_nil,gq] at hE
   refine cZ rfl (hE _) ?_
   refine W1 ?_
   rw[hx]
   rfl
  have k11:=h
  refine S0 (fun hb h=>?_) fun hb h=>?_
  ·have hx:=fH k1 k2 k3 (by omega)
   have hh:fD x.aG x.aQ x.fName x.fType=[aM xR,dS x.fType]:=by rw[eX h];rfl
   rw[hh] at hx
   refine C1 (bH _) ?_
   refine C1 (MF x.fType (by omega)) ?_
   have hE:=fun S=>iY [aM xR,dS x.fType] x.fArgs S hA (by omega) (by simp)
   simp only[List.map_cons,List.map_nil,gq,ah.aB (dS x.fType)] at hE
   refine cZ rfl (hE _) ?_
   refine W1 ?_
   rw[hx]
   show _=V.agg [.d (.s []),.d (.sl (List.map ah.enc (aM xR::dS x.fType::x.fArgs.map dD)))]
   simp only[List.cons_append,List.nil_append,List.map_cons,gq,ah.aB (dS x.fType)]
   rfl
  have k12:=h
  have Xg:x.aG=7:=by have:=hfi.1;omega
  have hx:=vT x
  rw[if_neg k1,if_neg k2,if_neg k3,if_neg (by omega)] at hx
  have hh:fD x.aG x.aQ x.fName x.fType=[aM kG]:=by rw[eX Xg];rfl
  rw[hh] at hx
  refine C1 (bH _) ?_
  have hE:=fun aN Ω=>E9 [aM kG] x.fArgs aN Ω hA (by omega) (by simp)
  obtain⟨B,hB⟩:∃B:Nat→List (List D),B=fun i=>(([aM kG]++x.fArgs.map dD)++(x.aD.map pY).take i).map ah.enc:=⟨_,rfl⟩
  have hB0:([aM kG]++x.fArgs.map dD).map ah.enc=B 0:=by rw[hB];simp only[List.take_zero,List.append_nil]
  have hBl:∀i,(B i).length≤i+x.fArgs.length+1:=fun i=>by
   rw[hB];simp only[List.length_append,List.length_map,List.length_cons,List.length_nil]
   have:=List.length_take_le i (x.aD.map pY)
   omega
  have hBr:∀i,∀r∈B i,r.length=2:=fun i=>by rw[hB];exact mO
  have SQ:∀i (hi:i<x.aD.length),B i++[[.s [],.sl (([aM x.aD[i].aV]++aK x.aD[i].aU++[dD x.aD[i].fBody]).map ah.enc)]]=B (i+1):=fun i hi=>by
   have:=lW (base:=[aM kG]++x.fArgs.map dD) (l:=x.aD.map pY) (i:=i) (by rw[List.length_map];exact hi)
   rw[List.getElem_map,Ms,dP,dQ] at this
   rw[hB];exact this
  have SS:B x.aD.length=([aM kG]++x.fArgs.map dD++x.aD.map pY).map ah.enc:=by rw[hB];simp only;rw[List.take_of_length_le (by simp)]
  clear hB
  simp only[hB0] at hE
  simp only[List.map_cons,List.map_nil,gq] at hE
  refine cZ rfl (hE _ _) ?_
  refine W1 ?_
  refine aT (ι:=Nat) Tryz.checked.mixed rfl [1,2,3,4] (fun i=>[.c (.ptr (0,0) 0),.c (.ptr (0,1) 0),.c (.ptr (0,5) 0),.c (.d (.i .i64 i))])
   (fun i=>[.box [.d (.i .i64 x.aG),.d (.s x.aQ),.d (.s x.fName),.d (.i .i64 x.fN),.d (.i .i64 x.fType.aG),.d (.s x.fType.fName),.d (.sl (x.fType.fArgs.map ak.enc)),.d (.sl (x.fArgs.map aj.enc)),.d (.sl (x.aD.map ay.enc))],.box [.d (.s []),.aY []],.box [.d (.s []),.bL (0,4) (B 0)],.box [.d (.s []),.bL (0,4) (B 0)],.tok 2 (B i),.box [.d (.s []),.bL (0,4) (B i)]]::S)
   (fun i=>i≤x.aD.length) (fun i=>x.aD.length-i) 0 rfl rfl (Nat.zero_le _) ?_
  intro i hi
  have hl:=hBl i
  have hr:=hBr i
  refine W1 ?_
  refine S0 (fun hb h=>?_) fun hb h=>?_
  ·have hi':i<x.aD.length:=by omega
   have hm:=List.getElem_mem hi'
   have Px:=zU hm
   have Xf:=vU x.aD[i]
   have hs:=SQ i hi'
   have hak:=E8 _ hm
   rw[jJ,Bool.and_eq_true,Bool.and_eq_true] at hak
   have hls:=List.sizeOf_lt_of_mem hm
   have hlb:=ay.kT x.aD[i]
   refine W3 ?_
   refine C1 (bH _) ?_
   refine W3 ?_
   refine bW (EY x.aD[i].aU (by omega)) ?_
   have hwr:=mO (l:=aK x.aD[i].aU)
   have hwl:(aK x.aD[i].aU).length=x.aD[i].aU.length:=by rw[iX]
   refine W1 ?_
   refine W3 ?_
   refine C1 (ih x.aD[i].fBody (by omega) hak.2.2 (by omega)) ?_
   refine W3 ?_
   simp only[List.cons_append,List.nil_append,List.map_cons,List.map_nil,List.map_append,gq,ah.aB (dD x.aD[i].fBody)] at hs
   rw[hs]
   exact iT 6 (by decide) (i+1) (by omega) rfl rfl rfl rfl (by omega)
  ·have hi':i=x.aD.length:=by omega
   subst hi'
   rw[hx,SS]
   rfl
theorem BP(x:aj)(hok:fu x=true)(hsz:x.sz≤4194304):aA Tryz.prog 110 [x.v] (dD x).v:=zW _ x (Nat.lt_succ_self _) hok hsz
end Go.Proofs.YtcfhnaohbaplhaaGreatDoor
namespace Go.Ab
theorem aj.bounds{x:aj}(h:x.sz≤4194304):x.aQ.length≤4194304∧x.fName.length≤4194304∧x.fArgs.length≤4194304∧x.aD.length≤4194304∧x.fType.sz≤4194304:=by
 simp only[aj.sz,aj.aB,bB,bU,D.sz,List.length_map,ak.dK] at h
 omega
theorem aj.arg_b{x:aj}{i:Nat}(hi:i<x.fArgs.length)(h:x.sz≤4194304):x.fArgs[i].sz≤4194304:=by
 have hx:x.fArgs[i].sz≤aP (x.fArgs.map aj.enc):=dX (List.mem_map_of_mem (List.getElem_mem hi))
 simp only[aj.sz,aj.aB,bB,bU,D.sz,List.length_map] at h
 omega
theorem aj.Cw{x:aj}{i:Nat}(hi:i<x.aD.length)(h:x.sz≤4194304):x.aD[i].sz≤4194304:=by
 have hx:x.aD[i].sz≤aP (x.aD.map ay.enc):=dX (List.mem_map_of_mem (List.getElem_mem hi))
 simp only[aj.sz,aj.aB,bB,bU,D.sz,List.length_map] at h
 omega
theorem ay.bounds{x:ay}(h:x.sz≤4194304):x.aV.length≤4194304∧x.aU.length≤4194304∧(∀s∈x.aU,s.length≤4194304)∧x.fBody.sz≤4194304:=by
 have hb:=ay.AJ x
 simp only[ay.sz,ay.aB,bB,bU,D.sz,List.length_map] at h hb
 refine⟨by omega,by omega,fun s hs=> ?_,by omega⟩
 have:=Sc hs
 omega
theorem zX(k:Int):(k<1∨12<k)∨k=1∨k=2∨k=3∨k=4∨k=5∨k=6∨k=7∨k=8∨k=9∨k=10∨k=11∨k=12:=by omega
end Go.Ab
namespace Go.Proofs.YtcfhnaohbaplhaaGreatDoor
open Go Go.Ab
set_option maxHeartbeats 8000000 in
theorem Fb(x:aj)(hsz:x.sz≤4194304)(hc:x.fArgs.length≤300):aA Tryz.prog 285 [x.v] (.c (.d (.b (dec (kV x))))):=fun S=>by
 have hb0:=aj.bounds hsz
 have hz:uE x.fType→ni x.fType=false:=zG
 rcases zX x.aG with hk|hk|hk|hk|hk|hk|hk|hk|hk|hk|hk|hk|hk
 ·have h1:¬kV x:=fun h=>by have:=h.1;omega
  refine au (rs:=[.tmp 2]) Tryz.checked.mixed Tryz.func285 Tryz.ntmps285 rfl rfl rfl rfl rfl ?_
  refine W1 ?_
  refine C2 (w9 x.aG) ?_
  refine S0 (fun hb h=>?_) fun hb h=>?_
  ·exact aF (aL h1).symm
  refine S0 (fun hb h=>?_) fun hb h=>?_
  ·exact aF (aL h1).symm
  ·omega
 all_goals
  refine au (rs:=[.tmp 2]) Tryz.checked.mixed Tryz.func285 Tryz.ntmps285 rfl rfl rfl rfl rfl ?_
  simp -implicitDefEqProofs (disch:=omega) only[go_sem,hk]
  refine bW (w9 _) ?_
  simp -implicitDefEqProofs (disch:=omega) only[go_sem,hk,JA,JB]
  repeat' (first
   |with_reducible refine dV (fun hb=> ?_) (fun hb=> ?_)<;>have h:=hb<;>(try simp only[wf_preprocess] at h)<;>simp -implicitDefEqProofs (disch:=omega) only[go_sem,hb,hk]<;>refine W3 ?_
   |((with_reducible show gM _ _ 168 _ _ _ _);refine bW (jh x.fName (by omega)) ?_;simp -implicitDefEqProofs (disch:=omega) only[go_sem,hk])
   |((with_reducible show gM _ _ 168 _ _ _ _);refine bW (jh x.aQ (by omega)) ?_;simp -implicitDefEqProofs (disch:=omega) only[go_sem,hk])
   |((with_reducible show gM _ _ 345 _ _ _ _);refine bW (Ch x.fName) ?_;simp -implicitDefEqProofs (disch:=omega) only[go_sem,hk])
   |((with_reducible show gM _ _ 266 _ _ _ _);refine bW (Ci x.fType) ?_;simp -implicitDefEqProofs (disch:=omega) only[go_sem,hk])
   |((with_reducible show gM _ _ 329 _ _ _ _);refine bW (xJ x.fType (by omega)) ?_;simp -implicitDefEqProofs (disch:=omega) only[go_sem,hk])
   |(refine aF (Bool.eq_iff_iff.2 ?_);simp only[oP,kV,hk];grind [lN,lQ,bR,aL]))
end Go.Proofs.YtcfhnaohbaplhaaGreatDoor
namespace Go.Ab
theorem aj.Q5{x:aj}{y:aj}(h:y∈x.fArgs):y.cnt+1≤x.cnt:=by
 rw[aj.kJ x]
 have:∀xs:List aj,y∈xs→y.cnt≤aj.bY xs:=by
  intro xs
  induction xs with
  |nil=>intro h;cases h
  |cons z zs ih=>
   intro h
   rw[aj.bY]
   rcases List.mem_cons.1 h with e|e
   ·subst e;omega
   ·have:=ih e;omega
 have:=this _ h
 omega
theorem aj.Q6{x:aj}{y:ay}(h:y∈x.aD):y.fBody.cnt+1≤x.cnt:=by
 rw[aj.kJ x]
 have:∀xs:List ay,y∈xs→y.fBody.cnt≤ay.bY xs:=by
  intro xs
  induction xs with
  |nil=>intro h;cases h
  |cons z zs ih=>
   intro h
   rw[ay.bY]
   rcases List.mem_cons.1 h with e|e
   ·subst e;rw[ay.kJ];omega
   ·have:=ih e;omega
 have:=this _ h
 omega
theorem aj.Q7(x:aj):x.fArgs.length+1≤x.cnt:=by
 rw[aj.kJ x]
 have:∀xs:List aj,xs.length≤aj.bY xs:=by
  intro xs
  induction xs with
  |nil=>simp
  |cons z zs ih=>rw[aj.bY,List.length_cons];have:=aj.kJ z;omega
 have:=this x.fArgs
 omega
def J3(k:Int):Bool:=if k=5∨k=11 then true else false
def J4(k:Int):Bool:=if k=3∨k=4∨k=6∨k=5∨k=8∨k=10 then true else false
def J5(k:Int):Bool:=if k=1∨k=2 then true else false
def J6(k:Int):Bool:=if k=1∨k=2∨k=3∨k=4∨k=6∨k=5∨k=7∨k=8∨k=10∨k=9∨k=11 then false else true
def J7(k:Int):Int:=if k=1∨k=2∨k=3 then 0 else if k=4∨k=6∨k=5 then -1 else if k=8∨k=10 then 2 else if k=9 then 3 else 1
def J8(k:Int):Bool:=if k=7 then true else false
end Go.Ab
namespace Go.Proofs.YtcfhnaohbaplhaaGreatDoor
open Go Go.Ab
theorem zY:∀n:Nat,∀x:aj,SizeOf.sizeOf x<n→x.sz≤4194304→x.cnt≤300→aA Tryz.prog 202 [x.v] (.c (.d (.b (fu x))))
 |0=>fun x h=>by omega
 |n+1=>by
  have ih:=zY n
  intro x hn hsz hc S
  have hb0:=aj.bounds hsz
  have iR:=aj.eH x
  have rC:=aj.lZ x
  have hl:=aj.Q7 x
  have h1:∀y∈x.fArgs,aA Tryz.prog 287 [y.v] (.c (.d (.b (!fu y)))):=fun y hy S=>by
   have hys:=List.sizeOf_lt_of_mem hy
   have Xh:=aj.Q5 hy
   have hyz:y.sz≤4194304:=by obtain⟨i,hi,e⟩:=List.getElem_of_mem hy;rw[←e];exact aj.arg_b hi hsz
   refine au (rs:=[.tmp 2]) Tryz.checked.mixed Tryz.func287 Tryz.ntmps287 rfl rfl rfl rfl rfl ?_
   refine W1 ?_
   exact C4 (ih y (by omega) hyz (by omega))
  have h2:∀y∈x.aD,aA Tryz.prog 289 [y.v] (.c (.d (.b (!nU y)))):=fun y hy S=>by
   have hys:=List.sizeOf_lt_of_mem hy
   have hyb:=ay.kT y
   have Xh:=aj.Q6 hy
   have hyz:y.sz≤4194304:=by obtain⟨i,hi,e⟩:=List.getElem_of_mem hy;rw[←e];exact aj.Cw hi hsz
   have Vp:=ay.bounds hyz
   refine au (rs:=[.tmp 2]) Tryz.checked.mixed Tryz.func289 Tryz.ntmps289 rfl rfl rfl rfl rfl ?_
   refine W1 ?_
   refine C2 (jh y.aV (by omega)) ?_
   refine S0 (fun hb h=>?_) fun hb h=>?_
   ·exact aF (by rw[jJ,h];rfl)
   have k1:=h
   refine C2 (F6 y.aU (by omega) Vp.2.2.1) ?_
   refine S0 (fun hb h=>?_) fun hb h=>?_
   ·exact aF (by rw[jJ,h];simp)
   have k2:=h
   refine C2 (ih y.fBody (by omega) Vp.2.2.2 (by omega)) ?_
   exact aF (by rw[jJ,k1,k2];simp)
  refine au (rs:=[.tmp 2]) Tryz.checked.mixed Tryz.func202 Tryz.ntmps202 rfl rfl rfl rfl rfl ?_
  refine W1 ?_
  refine C2 (Fb x hsz (by omega)) ?_
  refine S0 (fun hb h=>?_) fun hb h=>?_
  ·exact aF (by rw[ny,aL h];rfl)
  have k1:=h
  refine W3 ?_
  refine cZ rfl (uV 287 [] _ x.fArgs (fun y=> !fu y) (by omega) fun y hy=>lu.Ay (h1 y hy)) ?_
  refine W1 ?_
  rw[wZ]
  refine S0 (fun hb h=>?_) fun hb h=>?_
  ·exact aF (by rw[ny,h];simp)
  have k2:=h
  refine W3 ?_
  refine cZ rfl (vE 289 [] _ x.aD (fun y=> !nU y) (by omega) fun y hy=>lu.Ay (h2 y hy)) ?_
  refine W1 ?_
  rw[zF]
  exact aF (by rw[ny,bR k1,k2];simp)
theorem qO(x:aj)(hsz:x.sz≤4194304):aA Tryz.prog 114 [x.v] (.c (.d (.b (iM x)))):=fun S=>by
 refine au (rs:=[.tmp 2]) Tryz.checked.mixed Tryz.func114 Tryz.ntmps114 rfl rfl rfl rfl rfl ?_
 refine W1 ?_
 refine C2 (zD x hsz) ?_
 refine S0 (fun hb h=>?_) fun hb h=>?_
 ·refine C2 (zY _ x (Nat.lt_succ_self _) hsz (by omega)) ?_
  exact aF (by unfold iM;rw[bR (by omega)];rfl)
 ·exact aF (by unfold iM;rw[aL (by omega)];rfl)
theorem BQ(k:Int):aA Tryz.prog 281 [.c (.d (.i .i64 k))] (.d9 [(false,[.d (.b (J3 k))]),(false,[.d (.b (J4 k))]),(false,[.d (.b (J5 k))]),(false,[.d (.b (J6 k))]),(false,[.d (.i .i64 (J7 k))]),(false,[.d (.b (J8 k))])]):=fun S=>by
 refine au (rs:=[.tmp 2,.tmp 3,.tmp 4,.tmp 5,.tmp 6,.tmp 7]) Tryz.checked.mixed Tryz.func281 Tryz.ntmps281 rfl rfl rfl rfl rfl ?_
 refine W1 ?_
 repeat' (first
  |refine S0 (fun hb h=>?_) fun hb h=>?_
  |(unfold J3 J4 J5 J6 J7 J8;grind))
theorem J9(t:ak):aA Tryz.prog 284 [t.v] (.c (.d (.b (dec (uE t))))):=fun S=>by
 refine au (rs:=[.tmp 2]) Tryz.checked.mixed Tryz.func284 Tryz.ntmps284 rfl rfl rfl rfl rfl ?_
 refine W1 ?_
 repeat' (first
  |refine S0 (fun hb h=>?_) fun hb h=>?_
  |(refine aF ?_;unfold uE;grind [bR,aL,lN,lQ]))
theorem Ka(s:List UInt8):aA Tryz.prog 282 [.c (.d (.s s))] (.c (.d (.b (dec (s∈ops))))):=fun S=>by
 refine au (rs:=[.tmp 2]) Tryz.checked.mixed Tryz.func282 Tryz.ntmps282 rfl rfl rfl rfl rfl ?_
 refine W1 ?_
 refine W3 ?_
 exact C4 (xI ops s (by decide))
theorem xu:∀n:Nat,∀x:aj,SizeOf.sizeOf x<n→x.sz≤4194304→∀l:Int,0≤l→l≤1048576→aA Tryz.prog 195 [x.v,.c (.d (.i .i64 l))] (.c (.d (.i .i64 (iN l x.cnt))))
 |0=>fun x h=>by omega
 |n+1=>by
  have ih:=xu n
  intro x hn hsz l hl hl2 S
  have hb0:=aj.bounds hsz
  have iR:=aj.eH x
  have rC:=aj.lZ x
  have he:=aj.kJ x
  refine au (rs:=[.tmp 4]) Tryz.checked.mixed Tryz.func195 Tryz.ntmps195 rfl rfl rfl rfl rfl ?_
  refine W1 ?_
  refine aT (ι:=Nat×Int) Tryz.checked.mixed rfl [1,2,5] (fun y=>[.c (.d (.i .i64 y.2)),.c (.ptr (0,0) 0),.c (.d (.i .i64 y.1))]) (fun y=>[.box (x.enc.map .d)]::S)
   (fun y=>y.1≤x.fArgs.length∧(-1≤y.2∧y.2≤1048576)∧iN y.2 (aj.bY (x.fArgs.drop y.1))=iN (l-1) (aj.bY x.fArgs)) (fun y=>x.fArgs.length-y.1) (0,l-1) rfl ?_ ⟨Nat.zero_le _,by simp only;omega,rfl⟩ ?_
  ·exact Z1
  rintro⟨i,c⟩ ⟨p1,p2,p3⟩
  simp only at p1 p2 p3
  have out:(i=x.fArgs.length∨c<0)→c=iN (l-1) (aj.bY x.fArgs):=fun h=>by
   rcases h with h|h
   ·rw[h,List.drop_length,aj.bY,vL p2.1] at p3
    exact p3
   ·rw[←p3,xP h];omega
  have second:(i=x.fArgs.length∨c<0)→iN c (ay.bY x.aD)=iN l x.cnt:=fun h=>by
   rw[out h,uF,he]
   unfold iN
   split<;>split<;>(try split)<;>omega
  refine W1 ?_
  refine S0 (fun hb h=>?_) fun hb h=>?_
  ·have hi:i<x.fArgs.length:=by omega
   refine S0 (fun hb h=>?_) fun hb h=>?_
   ·have hs:=List.sizeOf_lt_of_mem (List.getElem_mem hi)
    have hr:=AL (l:=c) (c:=x.fArgs[i].cnt) (by omega)
    rw[aj.jC hi,←uF] at p3
    refine W3 ?_
    refine C2 (ih x.fArgs[i] (by omega) (aj.arg_b hi hsz) c (by omega) (by omega)) ?_
    exact bG (i+1,iN c x.fArgs[i].cnt) (by simp only;omega) rfl rfl ⟨by simp only;omega,by simp only;omega,p3⟩
   ·have p4:=second (.inr (by omega))
    clear second out p3
    refine aT (ι:=Nat×Int) Tryz.checked.mixed rfl [1,2,6] (fun y=>[.c (.d (.i .i64 y.2)),.c (.ptr (0,0) 0),.c (.d (.i .i64 y.1))]) (fun y=>[.box (x.enc.map .d)]::S)
     (fun y=>y.1≤x.aD.length∧(-1≤y.2∧y.2≤1048576)∧iN y.2 (ay.bY (x.aD.drop y.1))=iN l x.cnt) (fun y=>x.aD.length-y.1) (0,c) rfl ?_ ⟨Nat.zero_le _,by simp only;omega,p4⟩ ?_
    ·exact Z1
    clear p1 p2 p4
    rintro⟨i,d⟩ ⟨p1,p2,p3⟩
    simp only at p1 p2 p3
    refine W1 ?_
    refine S0 (fun hb h=>?_) fun hb h=>?_
    ·have hi:i<x.aD.length:=by omega
     refine S0 (fun hb h=>?_) fun hb h=>?_
     ·have hs:=List.sizeOf_lt_of_mem (List.getElem_mem hi)
      have hs':=ay.kT x.aD[i]
      have hr:=AL (l:=d) (c:=x.aD[i].fBody.cnt) (by omega)
      rw[ay.jC hi,←uF] at p3
      refine W3 ?_
      refine C2 (ih x.aD[i].fBody (by omega) (ay.bounds (aj.Cw hi hsz)).2.2.2 d (by omega) (by omega)) ?_
      exact bG (i+1,iN d x.aD[i].fBody.cnt) (by simp only;omega) rfl rfl ⟨by simp only;omega,by simp only;omega,p3⟩
     ·rw[xP (by omega)] at p3
      exact int_eq (by omega)
    ·have hi:i=x.aD.length:=by omega
     rw[hi,List.drop_length,ay.bY,vL p2.1] at p3
     exact int_eq (by omega)
  ·have p4:=second (.inl (by omega))
   clear second out p3
   refine aT (ι:=Nat×Int) Tryz.checked.mixed rfl [1,2,6] (fun y=>[.c (.d (.i .i64 y.2)),.c (.ptr (0,0) 0),.c (.d (.i .i64 y.1))]) (fun y=>[.box (x.enc.map .d)]::S)
    (fun y=>y.1≤x.aD.length∧(-1≤y.2∧y.2≤1048576)∧iN y.2 (ay.bY (x.aD.drop y.1))=iN l x.cnt) (fun y=>x.aD.length-y.1) (0,c) rfl ?_ ⟨Nat.zero_le _,by simp only;omega,p4⟩ ?_
   ·exact Z1
   clear p1 p2 p4
   rintro⟨i,d⟩ ⟨p1,p2,p3⟩
   simp only at p1 p2 p3
   refine W1 ?_
   refine S0 (fun hb h=>?_) fun hb h=>?_
   ·have hi:i<x.aD.length:=by omega
    refine S0 (fun hb h=>?_) fun hb h=>?_
    ·have hs:=List.sizeOf_lt_of_mem (List.getElem_mem hi)
     have hs':=ay.kT x.aD[i]
     have hr:=AL (l:=d) (c:=x.aD[i].fBody.cnt) (by omega)
     rw[ay.jC hi,←uF] at p3
     refine W3 ?_
     refine C2 (ih x.aD[i].fBody (by omega) (ay.bounds (aj.Cw hi hsz)).2.2.2 d (by omega) (by omega)) ?_
     exact bG (i+1,iN d x.aD[i].fBody.cnt) (by simp only;omega) rfl rfl ⟨by simp only;omega,by simp only;omega,p3⟩
    ·rw[xP (by omega)] at p3
     exact int_eq (by omega)
   ·have hi:i=x.aD.length:=by omega
    rw[hi,List.drop_length,ay.bY,vL p2.1] at p3
    exact int_eq (by omega)
end Go.Proofs.YtcfhnaohbaplhaaGreatDoor
namespace Go.Proofs.YtcfhnaohbaplhaaGreatDoor
open Go Go.Ab
set_option maxHeartbeats 8000000 in
theorem Gm:∀n:Nat,∀x:aj,SizeOf.sizeOf x<n→x.sz≤4194304→aA Tryz.prog 196 [x.v] (.c (.d (.b (fu x)))):=by
 intro n
 induction n with
 |zero=>intro x h;omega
 |succ n ih=>
  intro x hn hsz S
  have hb0:=aj.bounds hsz
  have iR:=aj.eH x
  have rC:=aj.lZ x
  have he:=ny x
  have hv0:=Cg
  have hop:x.fName∈ops→validName x.fName=false:=EJ
  refine(show(kV x→ ?T)→_ from fun tail=> ?main) ?tp
  case' main=>
   rcases zX x.aG with hk|hk|hk|hk|hk|hk|hk|hk|hk|hk|hk|hk|hk
   ·have h1:fu x=false:=by rw[he,aL (fun h=>by have:=h.1;omega)];rfl
    refine au (rs:=[.tmp 2]) Tryz.checked.mixed Tryz.func196 Tryz.ntmps196 rfl rfl rfl rfl rfl ?_
    refine W1 ?_
    refine C1 (BQ _) ?_
    refine C1 (sJ _ _ _) ?_
    refine S0 (fun hb h=>?_) fun hb h=>?_
    ·rw[h1]
    ·omega
   all_goals
    have hf0:¬kV x→V.c (.d (.b false))=V.c (.d (.b (fu x))):=fun h=>aF (by rw[he,aL h];rfl)
    refine au (rs:=[.tmp 2]) Tryz.checked.mixed Tryz.func196 Tryz.ntmps196 rfl rfl rfl rfl rfl ?_
    simp -implicitDefEqProofs (disch:=omega) only[go_sem,hk]
    refine bW (BQ _) ?_
    simp -implicitDefEqProofs (disch:=omega) only[go_sem,hk,J3,J4,J5,J6,J7,J8,or_false,or_true,true_or,false_or]
    refine bW (sJ _ _ _) ?_
    simp -implicitDefEqProofs (disch:=omega) only[go_sem,hk]
    repeat' (first
     |with_reducible refine dV (fun hb=> ?_) (fun hb=> ?_)<;>have h:=hb<;>(try simp only[wf_preprocess] at h)<;>simp -implicitDefEqProofs (disch:=omega) only[go_sem,hb,hk]<;>refine W3 ?_
     |((with_reducible show gM _ _ 159 _ _ _ _);refine bW (ji x.fName (by omega)) ?_;simp -implicitDefEqProofs (disch:=omega) only[go_sem,hk])
     |((with_reducible show gM _ _ 159 _ _ _ _);refine bW (ji x.aQ (by omega)) ?_;simp -implicitDefEqProofs (disch:=omega) only[go_sem,hk])
     |((with_reducible show gM _ _ 282 _ _ _ _);refine bW (Ka x.fName) ?_;simp -implicitDefEqProofs (disch:=omega) only[go_sem,hk])
     |((with_reducible show gM _ _ 284 _ _ _ _);refine bW (J9 x.fType) ?_;simp -implicitDefEqProofs (disch:=omega) only[go_sem,hk])
     |((with_reducible show gM _ _ 283 _ _ _ _);refine bW (xK x.fType (by omega)) ?_;simp -implicitDefEqProofs (disch:=omega) only[go_sem,hk])
     |((with_reducible show gM _ _ 243 _ _ _ _);refine bW (sJ x.fN _ _) ?_;simp -implicitDefEqProofs (disch:=omega) only[go_sem,hk])
     |(refine hf0 fun hF=> ?_;simp only[kV,hk,or_false,or_true,true_or,false_or,and_true,true_and,if_true,if_false,↓reduceIte,Int.reduceEq,Int.reduceLT,Int.reduceLE] at hF;grind [lN,lQ,bR,aL]))
   all_goals
    have hF:kV x:=by simp only[kV,hk,or_false,or_true,true_or,false_or,and_true,true_and,if_true,if_false,↓reduceIte,Int.reduceEq,Int.reduceLT,Int.reduceLE];grind [lN,lQ,bR,aL]
    refine OM (st':=[.box (x.enc.map .d)]::S) [1,9] [.c (.ptr (0,0) 0),.c (.d (.i .i64 0))] rfl (by simp -implicitDefEqProofs (disch:=omega) only[go_sem,hk]) ?_
    exact tail hF
  intro hF
  rw[bR hF,Bool.true_and] at he
  clear hF hop hv0
  refine aT (ι:=Nat) Tryz.checked.mixed rfl [1,9] (fun i=>[.c (.ptr (0,0) 0),.c (.d (.i .i64 i))]) (fun _=>[.box (x.enc.map .d)]::S)
   (fun i=>i≤x.fArgs.length∧gT (x.fArgs.drop i)=gT x.fArgs) (fun i=>x.fArgs.length-i) 0 rfl ?_ ⟨Nat.zero_le _,rfl⟩ ?_
  ·exact Z1
  rintro i ⟨p1,p2⟩
  refine W1 ?_
  refine S0 (fun hb h=>?_) fun hb h=>?_
  ·have hi:i<x.fArgs.length:=by omega
   have hs:=List.sizeOf_lt_of_mem (List.getElem_mem hi)
   rw[EI hi] at p2
   refine W3 ?_
   refine C2 (ih x.fArgs[i] (by omega) (aj.arg_b hi hsz)) ?_
   refine S0 (fun hb h=>?_) fun hb h=>?_
   ·exact aF (by rw[he,←p2,h];rfl)
   ·exact bG (i+1) (by omega) rfl rfl ⟨by omega,by rw[←p2,h];rfl⟩
  rw[List.drop_of_length_le (by omega)] at p2
  have q:gT x.fArgs=true:=p2.symm
  clear p2 p1
  refine aT (ι:=Nat) Tryz.checked.mixed rfl [1,10] (fun i=>[.c (.ptr (0,0) 0),.c (.d (.i .i64 i))]) (fun _=>[.box (x.enc.map .d)]::S)
   (fun i=>i≤x.aD.length∧jk (x.aD.drop i)=jk x.aD) (fun i=>x.aD.length-i) 0 rfl ?_ ⟨Nat.zero_le _,rfl⟩ ?_
  ·exact Z1
  rintro i ⟨p1,p2⟩
  refine W1 ?_
  refine S0 (fun hb h=>?_) fun hb h=>?_
  ·have hi:i<x.aD.length:=by omega
   have hs:=List.sizeOf_lt_of_mem (List.getElem_mem hi)
   have hs':=ay.kT x.aD[i]
   have hab:=ay.bounds (aj.Cw hi hsz)
   rw[F9 hi] at p2
   have no:nU x.aD[i]=false→V.c (.d (.b false))=V.c (.d (.b (fu x))):=fun h=>aF (by rw[he,←p2,h];simp)
   refine W3 ?_
   refine C2 (ji x.aD[i].aV (by omega)) ?_
   refine S0 (fun hb h=>?_) fun hb h=>?_
   ·exact no (by rw[jJ,h];rfl)
   have k1:=h
   refine W3 ?_
   refine C2 (Jp x.aD[i].aU (by omega) hab.2.2.1) ?_
   refine S0 (fun hb h=>?_) fun hb h=>?_
   ·exact no (by rw[jJ];unfold nk;rw[h];simp)
   have k2:=h
   refine W3 ?_
   refine C2 (zl x.aD[i].aU (by omega)) ?_
   refine S0 (fun hb h=>?_) fun hb h=>?_
   ·exact no (by rw[jJ];unfold nk;rw[aL h];simp)
   have k3:=h
   refine W3 ?_
   refine C2 (ih x.aD[i].fBody (by omega) hab.2.2.2) ?_
   refine S0 (fun hb h=>?_) fun hb h=>?_
   ·exact no (by rw[jJ,h];simp)
   ·exact iT 1 (by decide) (i+1) (by omega) rfl rfl rfl rfl ⟨by omega,by rw[←p2,jJ,k1,h];unfold nk;rw[k2,bR k3];rfl⟩
  ·rw[List.drop_of_length_le (by omega)] at p2
   exact aF (by rw[he,q,←p2];rfl)
theorem mP(x:aj)(hsz:x.sz≤4194304):aA Tryz.prog 109 [x.v] (.c (.d (.b (iM x)))):=fun S=>by
 have hs:=OL (l:=300) (c:=x.cnt) (by omega)
 refine au (rs:=[.tmp 2]) Tryz.checked.mixed Tryz.func109 Tryz.ntmps109 rfl rfl rfl rfl rfl ?_
 refine W1 ?_
 refine C2 (xu _ x (Nat.lt_succ_self _) hsz 300 (by omega) (by omega)) ?_
 rw[hs]
 refine S0 (fun hb h=>?_) fun hb h=>?_
 ·refine C2 (Gm _ x (Nat.lt_succ_self _) hsz) ?_
  exact aF (by unfold iM;rw[bR (by omega)];rfl)
 ·exact aF (by unfold iM;rw[aL (by omega)];rfl)
end Go.Proofs.YtcfhnaohbaplhaaGreatDoor
namespace Go.Ab
noncomputable def mQ(x:aj):ah:=xO (iM x) (dD x)
theorem G8{x:aj}(h:x.sz≤1048576):(mQ x).sz≤1048576:=Nat.le_trans (QJ _ _) (by decide)
theorem lX{x:aj}(h:iM x=true):fu x=true:=by rw[iM,Bool.and_eq_true] at h;exact h.2
end Go.Ab
namespace Go.Proofs.YtcfhnaohbaplhaaGreatDoor
open Go Go.Ab
theorem Fe(x:aj)(n:Nat)(hsz:x.sz≤1048576):aA Tryz.prog 46 [x.v] (.agg [.d (.s (mQ x).bf),.d (.ol n (lx (mQ x).aH (n+1)))]):=by
 unfold mQ
 cases hv:iM x with
 |false=>
  rw[xO]
  refine aA.less (fun S=> ?_) (AR [] n)
  refine au (rs:=[.cell 2 78]) Tryz.checked.mixed Tryz.func46 Tryz.ntmps46 rfl rfl rfl rfl rfl ?_
  refine W1 ?_
  refine bW (qO x (by omega)) ?_
  simp -implicitDefEqProofs (disch:=omega) only[go_sem,hv]
 |true=>
  intro S
  have hz:=zN x (lX hv)
  refine au (rs:=[.cell 2 78]) Tryz.checked.mixed Tryz.func46 Tryz.ntmps46 rfl rfl rfl rfl rfl ?_
  refine W1 ?_
  refine bW (qO x (by omega)) ?_
  simp -implicitDefEqProofs (disch:=omega) only[go_sem,hv]
  refine C1 (J2 x n (lX hv) (by omega)) ?_
  refine C1 (JW (dD x) n (by omega)) ?_
  rfl
theorem Gn(x:aj)(hsz:x.sz≤1048576):aA Tryz.prog 41 [x.v] (mQ x).v:=by
 unfold mQ
 cases hv:iM x with
 |false=>
  rw[xO]
  refine aA.less (fun S=> ?_) (AU [] [])
  refine au (rs:=[.cell 2 78]) Tryz.checked.mixed Tryz.func41 Tryz.ntmps41 rfl rfl rfl rfl rfl ?_
  refine W1 ?_
  refine bW (mP x (by omega)) ?_
  simp -implicitDefEqProofs (disch:=omega) only[go_sem,hv]
 |true=>
  have hz:=zN x (lX hv)
  cases hw:iy (dD x) with
  |false=>
   rw[xO,BI,if_neg (by rw[hw];decide)]
   refine aA.less (fun S=> ?_) (AU [] [])
   refine au (rs:=[.cell 2 78]) Tryz.checked.mixed Tryz.func41 Tryz.ntmps41 rfl rfl rfl rfl rfl ?_
   refine W1 ?_
   refine bW (mP x (by omega)) ?_
   simp -implicitDefEqProofs (disch:=omega) only[go_sem,hv]
   refine C1 (BP x (lX hv) (by omega)) ?_
   refine bW (pX (dD x) (by omega)) ?_
   simp -implicitDefEqProofs (disch:=omega) only[go_sem,hw]
  |true=>
   rw[xO,BI,if_pos hw]
   intro S
   refine au (rs:=[.cell 2 78]) Tryz.checked.mixed Tryz.func41 Tryz.ntmps41 rfl rfl rfl rfl rfl ?_
   refine W1 ?_
   refine bW (mP x (by omega)) ?_
   simp -implicitDefEqProofs (disch:=omega) only[go_sem,hv]
   refine C1 (BP x (lX hv) (by omega)) ?_
   refine bW (pX (dD x) (by omega)) ?_
   simp -implicitDefEqProofs (disch:=omega) only[go_sem,hw]
end Go.Proofs.YtcfhnaohbaplhaaGreatDoor
namespace Go.Ab
theorem SV{x:ah}{i:Nat}(hi:i<x.aH.length)(h:x.sz≤4194304):x.aH[i].sz≤4194304:=by
 have:=wJ (List.getElem_mem hi)
 rw[l7,kE] at h
 omega
theorem SX{x:ah}(h:x.sz≤4194304):x.bf.length≤4194304∧x.aH.length≤4194304:=by
 rw[l7] at h
 omega
end Go.Ab
namespace Go.Proofs.YtcfhnaohbaplhaaGreatDoor
open Go Go.Ab
theorem pK:∀n:Nat,(∀x:ah,SizeOf.sizeOf x<n→∀y:ah,x.sz≤4194304→aA Tryz.prog 47 [x.v,y.v] (.c (.d (.b (dec (x=y))))))∧
 (∀xs:List ah,SizeOf.sizeOf xs<n→∀ys:List ah,xs.length≤4194304→(∀t∈xs,t.sz≤4194304)→aA Tryz.prog 117 [.c (.d (.sl (xs.map ah.enc))),.c (.d (.sl (ys.map ah.enc))),.c (.fn 47 [])] (.c (.d (.b (dec (xs=ys))))))
 |0=>⟨fun x h=>by omega,fun x h=>by omega⟩
 |n+1=>by
  obtain⟨ih,Es⟩:=pK n
  refine⟨fun x hn y hsz S=> ?_,fun xs hn ys hlen hsz S=> ?_⟩
  ·have Xj:=ah.AA x
   have hb:=SX hsz
   refine au (rs:=[.tmp 4]) Tryz.checked.mixed Tryz.func47 Tryz.ntmps47 rfl rfl rfl rfl rfl ?_
   refine W1 ?_
   refine S0 (fun hb h=>?_) fun hb h=>?_
   ·have h1:=h
    refine W3 ?_
    refine bW (Es x.aH (by omega) y.aH (by omega) (fun t ht=>by
     obtain⟨i,hi,e⟩:=List.getElem_of_mem ht
     rw[←e];exact SV hi hsz)) ?_
    refine W1 ?_
    refine aF (jV ⟨fun e=>ah.ext h1 e,fun e=>by rw[e]⟩)
   ·exact aF (aL (fun e=>h (by rw[e]))).symm
  ·refine au (rs:=[.tmp 6]) Tryz.checked.mixed Tryz.func117 Tryz.ntmps117 rfl rfl rfl rfl rfl ?_
   refine W1 ?_
   refine S0 (fun hb h=>?_) fun hb h=>?_
   ·exact aF (aL (fun e=>h (by rw[e]))).symm
   have hl:xs.length=ys.length:=by omega
   refine aT (ι:=Nat) Tryz.checked.mixed rfl [1,2,15,16,17] (fun y=>[.c (.d (.sl (ys.map ah.enc))),.c (.fn 47 []),.c (.d (.sl (xs.map ah.enc))),.c (.d (.i .i64 xs.length)),.c (.d (.i .i64 y))]) (fun y=>[]::S)
    (fun i=>i≤xs.length∧∀j,j<i→xs[j]? =ys[j]?) (fun y=>xs.length-y) 0 rfl rfl ⟨Nat.zero_le _,fun j h=>by omega⟩ ?_
   rintro i ⟨p1,p2⟩
   refine W1 ?_
   refine S0 (fun hb h=>?_) fun hb h=>?_
   ·have hi:i<xs.length:=by omega
    have hi':i<ys.length:=by omega
    refine W3 ?_
    refine C1 (ih xs[i] (by have:=List.sizeOf_lt_of_mem (List.getElem_mem hi);omega) ys[i] (hsz _ (List.getElem_mem hi))) ?_
    refine S0 (fun hb h=>?_) fun hb h=>?_
    ·exact aF (aL (fun e=>h (by simp only[e]))).symm
    refine iT 0 (by decide) (i+1) (by omega) rfl rfl rfl rfl ⟨by omega,fun j hj=> ?_⟩
    by_cases e:j=i
    ·subst e
     rw[List.getElem?_eq_getElem hi,List.getElem?_eq_getElem hi',h]
    ·exact p2 j (by omega)
   ·have hi:i=xs.length:=by omega
    refine aF (bR (List.ext_getElem? fun j=> ?_)).symm
    by_cases hj:j<i
    ·exact p2 j hj
    ·rw[List.getElem?_eq_none (by omega),List.getElem?_eq_none (by omega)]
theorem wQ(x y:ah)(h:x.sz≤4194304):aA Tryz.prog 47 [x.v,y.v] (.c (.d (.b (dec (x=y))))):=(pK _).1 x (Nat.lt_succ_self _) y h
end Go.Proofs.YtcfhnaohbaplhaaGreatDoor
namespace Go.Proofs.YtcfhnaohbaplhaaGreatDoor
open Go Go.Ab
theorem AV(x:aj)(hsz:x.sz≤1048576):aA Tryz.prog 12 [x.v] (.c (.d (.s (oH (mQ x))))):=fun S=>by
 have c1:aA Tryz.prog 46 [x.v] (mQ x).v:=by
  have h2:aA Tryz.prog 46 [x.v] (.agg ((gQ (mQ x).enc 0).map .d)):=by
   have:=Fe x 0 hsz
   first|exact this|(rw[nG];exact this)
  have:=aA.less h2 EM
  rw[ah.jI] at this
  exact this
 have hd:(mQ x).sz≤1048576:=G8 (by omega)
 obtain⟨X,hX⟩:∃X,X=mQ x:=⟨_,rfl⟩
 rw[←hX] at hd c1 ⊢
 clear hX
 refine au (rs:=[.tmp 2]) Tryz.checked.mixed Tryz.func12 Tryz.ntmps12 rfl rfl rfl rfl rfl ?_
 refine W1 ?_
 refine bW c1 ?_
 refine W1 ?_
 refine sS (wQ X rA (by omega)) (.cons (by exact Less.refl _) (.cons (by exact Less.refl _) .nil)) ?_
 refine W1 ?_
 refine S0 (fun hb h=>?_) fun hb h=>?_
 ·rw[LZ (by simpa using h)]
 ·refine C2 (AO X (by omega)) ?_
  rw[L6 (by simpa using h)]
theorem AX(x:aj)(hsz:x.sz≤1048576):aA Tryz.prog 10 [x.v] (.c (.d (.s (oH (mQ x))))):=fun S=>by
 have c1:=Gn x (by omega)
 have hd:(mQ x).sz≤1048576:=G8 (by omega)
 obtain⟨X,hX⟩:∃X,X=mQ x:=⟨_,rfl⟩
 rw[←hX] at hd c1 ⊢
 clear hX
 refine au (rs:=[.tmp 2]) Tryz.checked.mixed Tryz.func10 Tryz.ntmps10 rfl rfl rfl rfl rfl ?_
 refine W1 ?_
 refine bW c1 ?_
 refine W1 ?_
 refine S0 (fun hb h=>?_) fun hb h=>?_
 ·have h1:=h
  refine W3 ?_
  refine S0 (fun hb h=>?_) fun hb h=>?_
  ·rw[Sm h1 (by omega)]
  ·refine C2 (sV X (by omega)) ?_
   rw[Sl (by omega)]
 ·refine C2 (sV X (by omega)) ?_
  rw[Sk h]
end Go.Proofs.YtcfhnaohbaplhaaGreatDoor
namespace Go.Proofs.YtcfhnaohbaplhaaGreatDoor
open Go Go.Ab
end Go.Proofs.YtcfhnaohbaplhaaGreatDoor
namespace Go.Proofs.YtcfhnaohbaplhaaGreatDoor
open Go Go.Ab
end Go.Proofs.YtcfhnaohbaplhaaGreatDoor
namespace Go.Proofs.YtcfhnaohbaplhaaGreatDoor
open Go Go.Ab
end Go.Proofs.YtcfhnaohbaplhaaGreatDoor
namespace Go.Proofs.YtcfhnaohbaplhaaGreatDoor
open Go Go.Ab
end Go.Proofs.YtcfhnaohbaplhaaGreatDoor
namespace Go.Proofs.YtcfhnaohbaplhaaGreatDoor
open Go Go.Ab
end Go.Proofs.YtcfhnaohbaplhaaGreatDoor
namespace Go.Proofs.YtcfhnaohbaplhaaGreatDoor
open Go Go.Ab
end Go.Proofs.YtcfhnaohbaplhaaGreatDoor
namespace Go.Proofs.YtcfhnaohbaplhaaGreatDoor.fnExactFormatExpr
open Go Go.Ab
theorem law(x0:aj)(f0:ku x0.enc):bN Tryz.prog 3 [x0.v] [] (fun r _=>r=.c (.d (.b true))):=by
 refine au (rs:=[.tmp 2]) Tryz.checked.mixed Tryz.func3 Tryz.ntmps3 rfl rfl rfl rfl rfl ?_
 refine W1 ?_
 refine C2 (Mc x0 _ (by omega) (by omega) f0) ?_
 refine S1 fun hb h=>?_
 have h0:=iQ h
 have c1:=AX x0 (by omega)
 have c2:=AV x0 (by omega)
 generalize oH (mQ x0)=T at c1 c2
 refine C2 (vK x0 (by omega)) ?_
 refine bW c1 ?_
 refine W1 ?_
 refine C2 (vK x0 (by omega)) ?_
 refine bW c2 ?_
 simp -implicitDefEqProofs (disch:=omega) only[go_sem,bR rfl,Bool.not_true]
 refine C2 (vK x0 (by omega)) ?_
 refine bW (Me x0 x0 (by omega)) ?_
 simp -implicitDefEqProofs (disch:=omega) only[go_sem,bR rfl,Bool.not_true]
end Go.Proofs.YtcfhnaohbaplhaaGreatDoor.fnExactFormatExpr
namespace Go.Ab
open Go
theorem Cn{H:Type}{enc:TypeId×Value→H}{P:Program}{w:World}{base:Nat}{sp:Nat→Bool}{held:Bool}{fuel n:Nat}{t e:TypeId}{k:IntKind}{cs:List Value}{ns:List Int}{p:List MemPlace}
 (ht:P.underlying t=some (.array n e)) (he:P.underlying e=some (.int k)) (ce:P.cellsOf e=1) (ct:P.cellsOf t=n)
 (h:DataW.trod enc P w base sp held fuel t cs=some (.agg (ns.map fun z=>.lit (.int k z)),p)):cs=ns.map (Value.int k ·):=by
 obtain⟨xs,m,_,ex,hlen,hl,hel⟩:=DataW.trod_array ht h
 rw[ct] at hlen
 have e3:=DataW.agg.inj (Prod.mk.inj ex).1
 have hns:ns.length=n:=by have:=congrArg List.length e3;simpa [hl] using this
 refine List.ext_getElem (by rw[hlen,List.length_map,hns]) fun i h1 h2=> ?_
 have k0:=hel i (by omega)
 rw[ce,Nat.mul_one] at k0
 have hd:(cs.drop i).take 1=[cs[i]]:=by
  rw[List.drop_eq_getElem_cons h1];rfl
 rw[hd,List.getElem?_eq_getElem (by omega)] at k0
 obtain⟨z,a,b,_⟩:=DataW.trod_int he k0
 have e4:(ns.map fun z=>(DataW.lit (Lit.int k z):DataW H))[i]'(by rw[List.length_map];omega)=(xs.map (·.1))[i]'(by rw[List.length_map];omega):=by simp only[e3]
 rw[List.getElem_map,List.getElem_map,b] at e4
 simp only[DataW.lit.injEq,Lit.int.injEq,true_and] at e4
 rw[List.getElem_map,e4]
 simpa using a
theorem MN{P:Program}{w:World}{n:String}{g:Nat}{cs:Array Value}(hg:P.globalNamed n=some g)(h:w.var? P n=some cs):∃t fz,w.heap[g]? =some (.cells cs t fz):=by
 unfold World.var? at h
 rw[hg] at h
 simp only[Option.bind_some] at h
 split at h
 ·rename_i c t fz hh
  cases h
  exact⟨t,fz,hh⟩
 ·cases h
end Go.Ab
namespace Go.Proofs.YtcfhnaohbaplhaaGreatDoor
open Go Go.Ab
theorem Fg{W:World}{r:List (String×DataW Unit)}(hr:(r.all fun x=>x.2.handleName?.isNone)=true)
 (h:laidMetH Tryz.prog (("math/bits.deBruijn32tab",Rows.laid_math_bits_deBruijn32tab)::("math/bits.deBruijn64tab",Rows.laid_math_bits_deBruijn64tab)::("internal/strconv.uint64pow10",Rows.laid_internal_strconv_uint64pow10)::r) W):mG W (fK W):=by
 rw[MakeChecks.laidMetH_plain _ _ _ (by
  rw[List.all_cons,List.all_cons,List.all_cons,hr];kernel_rfl)] at h
 obtain⟨ps,⟨_,_,_,_,_,_,_,_,_,_,⟨_,_,_,_,_,_,_,_,_,_,⟨g,t,cs,fuel,p,q,hg,ht,hv,hd,_,_⟩,_⟩,_⟩,_,_⟩:=h
 have hn:Tryz.prog.globalNamed "internal/strconv.uint64pow10" =some 1:=by kernel_rfl
 obtain rfl:=Option.some.inj (hn.symm.trans hg)
 obtain rfl:=Option.some.inj ((show(Tryz.prog.globals[1]?).map (·.type)=some 396 by kernel_rfl).symm.trans ht)
 have hl:(Rows.laid_internal_strconv_uint64pow10:DataW Unit)=.agg (((List.range 20).map fun i=>((10^i:Nat):Int)).map fun z=>.lit (.int .u64 z)):=by kernel_rfl
 rw[hl] at hd
 have e:=Cn Tryz.underlying396 Tryz.underlying380 (by kernel_rfl) (by kernel_rfl) hd
 obtain⟨t',fz,hh⟩:=MN hg hv
 intro g' p' hm
 have hm':=List.eq_of_mem_singleton hm
 cases hm'
 refine⟨cs,t',fz,hh,?_,?_⟩
 ·show cs.toList=_
  rw[e,List.map_map];rfl
 ·unfold fK;rw[hh]
  exact Nat.le_refl _
end Go.Proofs.YtcfhnaohbaplhaaGreatDoor
namespace Go.Ab
theorem zZ{P:Program}{n:Nat}{t:TypeId}{ds:List D}(h:WT P n t ds):∃m,n=m+1:=by
 cases n with
 |zero=>exact h.elim
 |succ m=>exact⟨m,rfl⟩
theorem Fh{P:Program}{n:Nat}{t:TypeId}{k:IntKind}{ds:List D}(ht:P.underlying t=some (.int k))(h:WT P n t ds):∃x,ds=[.i k x]∧(Lit.int k x).wf=true:=by
 obtain⟨m,rfl⟩:=zZ h
 simp only[WT,ht] at h;exact h
theorem pO{P:Program}{n:Nat}{t:TypeId}{ds:List D}(ht:P.underlying t=some .string)(h:WT P n t ds):∃l,ds=[.s l]:=by
 obtain⟨m,rfl⟩:=zZ h
 simp only[WT,ht] at h;exact⟨h.choose,h.choose_spec.1⟩
theorem uK{P:Program}{n:Nat}{t e:TypeId}{ds:List D}(ht:P.underlying t=some (.slice e))(h:WT P n t ds):∃es m,m<n∧ds=[.sl es]∧∀x∈es,WT P m e x:=by
 obtain⟨m,rfl⟩:=zZ h
 simp only[WT,ht] at h
 obtain⟨es,h1,_,h2⟩:=h
 exact⟨es,m,by omega,h1,fun x hx=>(h2 x hx).2⟩
theorem vY{P:Program}{n:Nat}{t:TypeId}{fs:Array Field}{ds:List D}(ht:P.underlying t=some (.struct fs))(h:WT P n t ds):∃m,m<n∧Bu P (WT P m) fs.toList ds:=by
 obtain⟨m,rfl⟩:=zZ h
 simp only[WT,ht] at h
 exact⟨m,by omega,h⟩
theorem qP{α:Type}{enc:α→List D}:∀{es:List (List D)},(∀x∈es,∃m,x=enc m)→∃ms:List α,es=ms.map enc
 |[],_=>⟨[],rfl⟩
 |e::es,h=>by
  obtain⟨m,hm⟩:=h e (by simp)
  obtain⟨ms,hms⟩:=qP (es:=es) fun x hx=>h x (by simp[hx])
  exact⟨m::ms,by rw[List.map_cons,←hm,←hms]⟩
theorem G9{P:Program}{W:TypeId→List D→Prop}(hW:∀t ds,W t ds→ku ds):∀(fs:List Field) (ds:List D),Bu P W fs ds→ku ds
 |[],ds,h=>by
  have h:ds=[]:=h
  rw[h];exact oD
 |f::fs,ds,h=>by
  obtain⟨a,b,rfl,_,h1,h2⟩:=h
  exact oO.2 ⟨hW _ _ h1,G9 hW fs b h2⟩
theorem Fj{P:Program}:∀(n:Nat) (t:TypeId) (ds:List D),WT P n t ds→ku ds
 |0,t,ds,h=>h.elim
 |n+1,t,ds,h=>by
  simp only[WT] at h
  split at h
  ·obtain⟨b,rfl⟩:=h;exact lM.2 ⟨.b _,oD⟩
  ·obtain⟨b,rfl,_⟩:=h;exact lM.2 ⟨.i _ _,oD⟩
  ·obtain⟨l,rfl,hl⟩:=h;exact lM.2 ⟨.s _ hl,oD⟩
  ·obtain⟨es,rfl,hl,hh⟩:=h
   exact lM.2 ⟨.sl _ hl fun e he d hd=>Fj n _ e (hh e he).2 d hd,oD⟩
  ·exact G9 (Fj n) _ _ h
  ·exact h.elim
end Go.Ab
namespace Go.Proofs.YtcfhnaohbaplhaaGreatDoor
open Go Go.Ab
theorem Q8:∀(n:Nat) (ds:List D),WT Tryz.prog n 24 ds→∃x:ak,ds=x.enc:=by
 intro n
 induction n using Nat.strongRecOn with
 |_ n ih=>
  intro ds h
  obtain⟨m,hm,h⟩:=vY Tryz.underlying24 h
  simp only[Bu] at h
  obtain⟨a0,r0,rfl,l0,h0,a1,r1,rfl,l1,h1,a2,r2,rfl,l2,h2,rfl⟩:=h
  obtain⟨x0,rfl,_⟩:=Fh Tryz.underlying3 h0
  obtain⟨x1,rfl⟩:=pO Tryz.underlying9 h1
  obtain⟨es2,m2,hm2,rfl,hs2⟩:=uK Tryz.underlying22 h2
  obtain⟨x2,rfl⟩:=qP (enc:=ak.enc) fun y hy=>ih m2 (by omega) y (hs2 y hy)
  refine⟨ak.mk x0 x1 x2,?_⟩
  rw[ak.aB]
  simp[ak.aG,ak.fName,ak.fArgs]
theorem Kc:∀(n:Nat),(∀ds:List D,WT Tryz.prog n 28 ds→∃x:aj,ds=x.enc)∧(∀ds:List D,WT Tryz.prog n 145 ds→∃x:ay,ds=x.enc):=by
 intro n
 induction n using Nat.strongRecOn with
 |_ n ih=>
  refine⟨fun ds h=> ?_,fun ds h=> ?_⟩
  ·obtain⟨m,hm,h⟩:=vY Tryz.underlying28 h
   simp only[Bu] at h
   obtain⟨a0,r0,rfl,l0,h0,a1,r1,rfl,l1,h1,a2,r2,rfl,l2,h2,a3,r3,rfl,l3,h3,a4,r4,rfl,l4,h4,a5,r5,rfl,l5,h5,a6,r6,rfl,l6,h6,rfl⟩:=h
   obtain⟨x0,rfl,_⟩:=Fh Tryz.underlying3 h0
   obtain⟨x1,rfl⟩:=pO Tryz.underlying9 h1
   obtain⟨x2,rfl⟩:=pO Tryz.underlying9 h2
   obtain⟨x3,rfl,_⟩:=Fh Tryz.underlying3 h3
   obtain⟨x4,rfl⟩:=Q8 m a4 h4
   obtain⟨Xv,m5,Xw,rfl,hs5⟩:=uK Tryz.underlying25 h5
   obtain⟨x5,rfl⟩:=qP (enc:=aj.enc) fun y hy=>(ih m5 (by omega)).1 y (hs5 y hy)
   obtain⟨Xx,m6,Xy,rfl,hs6⟩:=uK Tryz.underlying26 h6
   obtain⟨x6,rfl⟩:=qP (enc:=ay.enc) fun y hy=>(ih m6 (by omega)).2 y (hs6 y hy)
   refine⟨aj.mk x0 x1 x2 x3 x4 x5 x6,?_⟩
   rw[aj.aB]
   simp[aj.aG,aj.aQ,aj.fName,aj.fN,aj.fType,aj.fArgs,aj.aD]
  ·obtain⟨m,hm,h⟩:=vY Tryz.underlying145 h
   simp only[Bu] at h
   obtain⟨a0,r0,rfl,l0,h0,a1,r1,rfl,l1,h1,a2,r2,rfl,l2,h2,rfl⟩:=h
   obtain⟨x0,rfl⟩:=pO Tryz.underlying9 h0
   obtain⟨es1,m1,hm1,rfl,hs1⟩:=uK Tryz.underlying41 h1
   obtain⟨x1,rfl⟩:=qP (enc:=encS) fun y hy=>pO Tryz.underlying9 (hs1 y hy)
   obtain⟨x2,rfl⟩:=(ih m (by omega)).1 a2 h2
   refine⟨ay.mk x0 x1 x2,?_⟩
   rw[ay.aB]
   simp[ay.aV,ay.aU,ay.fBody]
theorem Q9(n:Nat)(ds:List D)(h:WT Tryz.prog n 28 ds):∃x:aj,ds=x.enc:=(Kc n).1 ds h
end Go.Proofs.YtcfhnaohbaplhaaGreatDoor
