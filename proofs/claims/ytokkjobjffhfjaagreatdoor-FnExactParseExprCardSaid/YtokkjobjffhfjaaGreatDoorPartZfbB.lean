/-
  SEVERAL TEXTS IN ONE (merged by program): contracts and models, each with its own heading.
-/
import Derived.Test.YtokkjobjffhfjaaGreatDoorPartZfbA
import Derived.LoopN
import Derived.StillTail
set_option linter.unusedSimpArgs false
set_option linter.unusedVariables false
namespace Go.Ab
def rowIs(t:TypeId):Bool:=false
def vQ(o:Option Obj)(t:TypeId):Bool:=match o with
 |some (.xf [])=>rowIs t
 |_=>false
def Rv(S:Store)(t:TypeId):Bool:=vQ (aJ S (0,0)) t
def Bz(P:Program)(t:TypeId)(s:St)(dst:Option Nat)(K:St→Prop)(b:Bool)(r:R):Prop:=
 match b,r with
 |false,r=>r.1∧K (s.put dst r.2)
 |true,(p,.c (.aY es))=>match P.underlying t with
  |some (.slice e)=>p∧newObj s dst (.dK (P.cellsOf e) es) (fun k=>.c (.iR k)) K
  |_=>False
 |true,_=>False
def zi(P:Program)(t u:TypeId)(k:Key)(y:V)(s:St)(dst:Option Nat)(K:St→Prop):Prop:=
 match P.underlying t,LD P u y,aJ s.st k with
 |some (.slice e),some ys,some (.dK aF es)=>aF=P.cellsOf e∧(∀y∈ys,y.length=P.cellsOf e)∧P.bytesOf e≤4096∧(∃zs,gH P e=some zs∧zs.length=P.cellsOf e)∧es.length+ys.length≤1073741824∧
   newObj ⟨s.tm,aP s.st k .dead⟩ dst (.dK aF (es++ys)) (fun k=>.c (.iR k)) K
 |_,_,_=>False
def wL(P:Program)(t u:TypeId)(x y:V)(s:St)(dst:Option Nat)(K:St→Prop):Prop:=
 match x with
 | .c (.iR k)=>zi P t u k y s dst K
 |x=>mZ P t u x y s dst K
def fu(P:Program)(o:Oper)(s:St)(K:St→Prop):Prop:=
 match o.op with
 | .call {callee:=.builtin .append,args:=sI,argTypes:=ts}=>match sI.toList,ts.toList with
   |[x,y],[t,u]=>wL P t u (ev s.tm x) (ev s.tm y) s o.dst K
   |_,_=>False
 | .buildSlice t n parts=>Bz P t s o.dst K (Rv s.st t) (nval P s.st s.tm (.buildSlice t n parts))
 |_=>bq P o s K
section
variable {P:Program} {w w':World} {σ σ':Nat→Nat} {S:Store} {β β':Hs} {N:Nat} {s:St} {a:Act}
theorem cB.lay{own:List Obj}{Ω:Store}{bo:List Value}{bΩ:Hs}{o:Obj}{h:Value}(hS:cB w σ (own::Ω) (bo::bΩ))(hlen:bo.length=own.length)
 (ho:eY w σ ((own++[o])::Ω) ((bo++[h])::bΩ) o h) (hb:∀b,owns o h b→¬Own (own::Ω) (bo::bΩ) b):
 cB w σ ((own++[o])::Ω) ((bo++[h])::bΩ)∧Keep (own::Ω) (bo::bΩ) ((own++[o])::Ω) ((bo++[h])::bΩ)∧∀b,Own ((own++[o])::Ω) ((bo++[h])::bΩ) b→Own (own::Ω) (bo::bΩ) b∨owns o h b:=by
 have hkeep:Keep (own::Ω) (bo::bΩ) ((own++[o])::Ω) ((bo++[h])::bΩ):=by
  intro k o1 h1
  obtain⟨h2,qC,_⟩:=hS.obj k o1 h1
  exact⟨o1,gV _ _ _ _ _ h1,by rw[gV _ _ _ _ _ qC,qC];exact .refl _ _⟩
 have hinv:∀k o1 h1,aJ ((own++[o])::Ω) k=some o1→aJ ((bo++[h])::bΩ) k=some h1→
  (aJ (own::Ω) k=some o1∧aJ (bo::bΩ) k=some h1)∨(k=(0,own.length)∧o1=o∧h1=h):=by
  intro k o1 h1 e1 e2
  rcases jc _ _ _ _ _ e1 with e1|⟨rfl,rfl⟩
  ·left
   refine⟨e1,?_⟩
   rcases jc _ _ _ _ _ e2 with e2|⟨rfl,rfl⟩
   ·exact e2
   ·rw[aR,hlen] at e1
    have:=(List.getElem?_eq_some_iff.1 e1).1
    omega
  ·right
   rw[←hlen,bE] at e2
   exact⟨rfl,rfl,(Option.some.inj e2).symm⟩
 refine⟨⟨?_,?_,⟨?_,?_⟩,hS.live,hS.mY⟩,hkeep,?_⟩
 ·intro k o1 h1
  rcases jc _ _ _ _ _ h1 with h1|⟨rfl,rfl⟩
  ·obtain⟨h2,qC,hr⟩:=hS.obj k o1 h1
   exact⟨h2,gV _ _ _ _ _ qC,hr.mono (bR.refl _ _) (hkeep.drop _) fun b hb=>⟨rfl,rfl⟩⟩
  ·exact⟨h,by rw[←hlen,bE],ho⟩
 ·intro k k' o1 o2 h1 h2 b e1 e2 e3 e4 e5 e6
  rcases hinv k o1 h1 e1 e2 with⟨f1,f2⟩|⟨rfl,rfl,rfl⟩
  ·rcases hinv k' o2 h2 e4 e5 with⟨g1,g2⟩|⟨rfl,rfl,rfl⟩
   ·exact hS.apart _ _ _ _ _ _ _ f1 f2 e3 g1 g2 e6
   ·exact absurd ⟨k,o1,h1,f1,f2,e3⟩ (hb b e6)
  ·rcases hinv k' o2 h2 e4 e5 with⟨g1,g2⟩|⟨rfl,rfl,rfl⟩
   ·exact absurd ⟨k',o2,h2,g1,g2,e6⟩ (hb b e3)
   ·rfl
 ·have:=hS.shape.1
  simpa using this
 ·intro l fr hl
  cases l with
  |zero=>
   simp at hl
   exact⟨_,rfl,by rw[←hl];simp[hlen]⟩
  |succ l=>exact hS.shape.2 (l+1) fr hl
 ·rintro b ⟨k,o1,h1,e1,e2,e3⟩
  rcases hinv k o1 h1 e1 e2 with⟨f1,f2⟩|⟨rfl,rfl,rfl⟩
  ·exact .inl ⟨k,o1,h1,f1,f2,e3⟩
  ·exact .inr e3
theorem Rw{t u ty e:TypeId}{sv:Value}{size:Nat}{es ys:List (List D)}{yv:Value}(hl:∀b,b<w.heap.size∨σ b=0)
 (ht:P.underlying t=some (.slice e)) (hu:Jt P u) (hz:∃zs,gH P e=some zs∧zs.length=size) (hsize:P.cellsOf e=size) (hb:P.bytesOf e≤4096)
 (hs:eY w σ S β (.dK size es) sv) (hy:wX P w σ size ys yv) (hlen:es.length+ys.length≤1073741824):
 ∃r w',(Builtin.append_ #[t,u] ty #[sv,yv]).run P w=.ok r w'∧(∀S' β',eY w' σ S' β' (.dK size (es++ys)) r)∧w.heap.size≤w'.heap.size∧w'.os=w.os∧w'.output=w.output∧
  bR w σ w' σ∧(∀b,b<w'.heap.size∨σ b=0)∧(∀b,b<w.heap.size→¬owns (.dK size es) sv b→w'.heap[b]? =w.heap[b]?)∧
  (∀b,owns (.dK size (es++ys)) r b→owns (.dK size es) sv b∨w.heap.size≤b)∧r.oneCell'=true:=by
 obtain⟨zs,hzs,hzl⟩:=hz
 obtain⟨z,su,hzc⟩:=qP (w:=w) (σ:=σ) (S:=S) (β:=β) hzs
 have Iy:z.cells.size=size:=by have:=hzc.1;simp at this;omega
 have hex:∃info,P.info? e=some info∧info.zero=some z:=by
  unfold gH at hzs
  cases hi:P.info? e with
  |none=>rw[hi] at hzs;cases hzs
  |some i=>
   refine⟨i,rfl,?_⟩
   cases hz:i.zero with
   |none=>rw[hi] at hzs;simp[hz] at hzs
   |some z'=>
    have:(zeroValue e).run P w=.ok z' w:=by simp[zeroValue,typeInfo,hi,hz]
    rw[su] at this
    cases this;rfl
 obtain⟨info,hi,hiz⟩:=hex
 have hib:info.bytes=P.bytesOf e:=by simp[Program.bytesOf,hi]
 have his:info.size=size:=by rw[←hsize];simp[Program.cellsOf,hi]
 have hs0:=hs
 obtain⟨hle,base,sCap,rfl,hcap,h4⟩:=hs
 obtain⟨hyl,hys,ya,FB,LA,UG⟩:=hy w rfl
 have hall:∀x∈es++ys,x.length=size:=fun x hx=>(List.mem_append.1 hx).elim (hle x) (hys x)
 have hfl:es.flatten.length=es.length*size:=gM es size hle
 have hfy:ys.flatten.length=ys.length*size:=gM ys size hys
 have hlen':(es++ys).length=es.length+ys.length:=List.length_append
 have hone:∀v∈ya.toList,v.oneCell'=true:=fun v hv=>by
  obtain⟨j,hj⟩:=List.getElem?_of_mem hv
  have hjl:=(List.getElem?_eq_some_iff.1 hj).1
  simp at hjl
  obtain⟨v',hv',hr⟩:=UG j _ (List.getElem?_eq_getElem (by omega))
  rw[Array.getElem?_toList] at hj
  rw[hj] at hv';cases hv'
  exact hr.one
 by_cases hn0:ys.length=0
 ·have XB:ys=[]:=List.eq_nil_of_length_eq_zero hn0
  subst XB
  have hya:ya= #[]:=by simpa using LA
  subst hya
  refine⟨_,w,Bt ht hu hi hyl (by rw[his];exact FB) hcap,fun S' β'=> ?_,Nat.le_refl _,rfl,rfl,bR.refl _ _,hl,fun b _ _=>rfl,fun b hb=>.inl (by simpa using hb),rfl⟩
  rw[List.append_nil]
  exact hs0
 by_cases hroom:es.length+ys.length≤sCap
 ·have hc0:sCap≠0:=by omega
  obtain⟨b,c,ct,rfl,hbc,hσ,hfit,hcells⟩:=h4.resolve_left hc0
  have hmul:es.length*size+ys.length*size≤sCap*size:=by rw[←Nat.add_mul];exact Nat.mul_le_mul_right _ hroom
  have hrun:=Bu (P:=P) (ty:=ty) (b:=b) (off:=0) ht hu hi hyl (by rw[his];exact FB) hroom hbc (by rw[his,LA];omega) hone
  rw[his,Nat.zero_add] at hrun
  generalize hc2:(c.toList.take (es.length*size)++ya.toList++c.toList.drop (es.length*size+ya.size)).toArray=c2 at hrun
  have wW:c2.size=c.size:=by rw[←hc2];simp;omega
  have hheap:(w.setRow b c2).heap[b]? =some (.cells c2 ct (0,0)):=setRow_heap w b c c2 ct (0,0) hbc
  have hlow:∀i,i<es.length*size→c2[i]? =c[i]? :=fun i hi=>by
   rw[←hc2,List.getElem?_toArray,List.append_assoc,List.getElem?_append_left (by simp;omega),List.getElem?_take_of_lt hi,Array.getElem?_toList]
  have hmid:∀j,j<ya.size→c2[es.length*size+j]? =ya[j]? :=fun j hj=>by
   rw[←hc2,List.getElem?_toArray,List.getElem?_append_left (by simp;omega),List.getElem?_append_right (by simp;omega),←Array.getElem?_toList]
   congr 1;simp;omega
  have hn:bR w σ (w.setRow b c2) σ:=by
   intro b1 c1 t1 zh e1
   refine⟨Nat.le_refl _,fun _=>rfl,?_⟩
   by_cases hb1:b1=b
   ·subst hb1
    rw[hbc] at e1;cases e1
    exact⟨c2,hheap,wW,fun i hi=>by omega⟩
   ·exact⟨c1,(fq w b c2 b1 hb1).trans e1,rfl,fun _ _=>rfl⟩
  refine⟨_,_,hrun,fun S' β'=>⟨hall,_,sCap,by rw[hlen'],by omega,.inr ⟨b,c2,ct,rfl,hheap,hσ,by omega,fun j d hj=> ?_⟩⟩,by rw[setRow_size];exact Nat.le_refl _,rfl,rfl,hn,fun x=>by rw[setRow_size];exact hl x,fun x hx hne=> ?_,fun x hx=>.inl ?_,rfl⟩
  ·rw[List.flatten_append] at hj
   by_cases hjl:j<es.length*size
   ·rw[List.getElem?_append_left (by omega)] at hj
    obtain⟨v,hv,hr⟩:=hcells j d hj
    exact⟨v,by rw[hlow j hjl];exact hv,hr.mono hn⟩
   ·rw[List.getElem?_append_right (by omega),hfl] at hj
    obtain⟨v,hv,hr⟩:=UG _ d hj
    have hlt:=(Array.getElem?_eq_some_iff.1 hv).1
    refine⟨v,?_,hr.mono hn⟩
    rw[←hv,←hmid _ hlt]
    congr 1;omega
  ·exact fq _ _ _ _ fun e=>hne (by simp[owns,blk,hc0,e])
  ·simpa [owns,blk] using hx
 ·obtain⟨afS,_,Qj,XC,Ro,XD⟩:=hy w.drew rfl
  obtain⟨oa,hor,LC,hod⟩:∃oa:Array Value,(Builtin.firstCells size es.length (.slice base es.length sCap)).run P w.drew=.ok oa w.drew∧oa.size=es.length*size∧∀(j:Nat) (d:D),es.flatten[j]? =some d→∃v,oa[j]? =some v∧bB w σ d v:=by
   rcases h4 with h0|⟨b,c,ct,rfl,hbc,hσ,hfit,hcells⟩
   ·have he:es=[]:=List.eq_nil_of_length_eq_zero (by omega)
    subst he
    refine⟨#[],?_,by simp,fun j d hj=>by simp at hj⟩
    cases base with
    |none=>rfl
    |some b=>simp[Builtin.firstCells,loadCells,loadCellsFrom]
   ·have hm:es.length*size≤sCap*size:=Nat.mul_le_mul_right _ hcap
    have hbc':w.drew.heap[b]? =some (.cells c ct (0,0)):=hbc
    have hex:∀j,j<es.length*size→∃v,c[0+j]? =some v:=fun j hj=>⟨c[0+j]'(by omega),Array.getElem?_eq_getElem (by omega)⟩
    obtain⟨hpl,hpv⟩:=uS c 0 (es.length*size) hex
    refine⟨_,r9 (a:=⟨b,0,none⟩) rfl hbc' _ hex,by simpa using hpl,fun j d hj=> ?_⟩
    obtain⟨v,hv,hr⟩:=hcells j d hj
    have hjl:=(List.getElem?_eq_some_iff.1 hj).1
    refine⟨v,?_,hr⟩
    rw[List.getElem?_toArray,hpv j (by omega),Nat.zero_add]
    exact hv
  obtain⟨cap,rest,Fh,hrest,hrun⟩:=Bv (P:=P) (ty:=ty) (base:=base) (sCap:=sCap) ht hu hi hiz hyl (by rw[his];exact XC) (by rw[his];exact hor) (by omega) hlen (by rw[hib];exact hb)
  let w':World:={w.drew with heap:=w.heap.push (.cells (oa++Qj++rest) e)}
  have hn:bR w σ w' σ:=by
   intro b1 c1 t1 zh e1
   have hne:b1≠w.heap.size:=by have:=lt_of_some e1;omega
   refine⟨Nat.le_refl _,fun _=>rfl,c1,?_,rfl,fun _ _=>rfl⟩
   simp only[w']
   rw[Array.getElem?_push,if_neg hne];exact e1
  have hn':bR w.drew σ w' σ:=hn
  have hheap:w'.heap[w.heap.size]? =some (.cells (oa++Qj++rest) e (0,0)):=by simp[w']
  have hσ0:σ w.heap.size=0:=by
   rcases hl w.heap.size with h|h
   ·omega
   ·exact h
  refine⟨_,w',hrun,fun S' β'=>⟨hall,_,cap,by rw[hlen'],by omega,.inr ⟨w.heap.size,_,e,rfl,hheap,hσ0,?_,fun j d hj=> ?_⟩⟩,by simp[w'],rfl,rfl,hn,fun x=> ?_,fun x hx _=> ?_,fun x hx=>.inr ?_,rfl⟩
  ·simp only[Array.size_append,LC,Ro,hrest,Iy]
   rw[←Nat.add_mul,←Nat.add_mul]
   exact Nat.mul_le_mul_right _ (by omega)
  ·rw[List.flatten_append] at hj
   by_cases hjl:j<es.length*size
   ·rw[List.getElem?_append_left (by omega)] at hj
    obtain⟨v,hv,hr⟩:=hod j d hj
    refine⟨v,?_,hr.mono hn⟩
    rw[Array.append_assoc,Array.getElem?_append_left (by omega)];exact hv
   ·rw[List.getElem?_append_right (by omega),hfl] at hj
    obtain⟨v,hv,hr⟩:=XD _ d hj
    have hlt:=(Array.getElem?_eq_some_iff.1 hv).1
    refine⟨v,?_,hr.mono hn'⟩
    rw[Array.append_assoc,Array.getElem?_append_right (by omega),LC,Array.getElem?_append_left (by omega)];exact hv
  ·simp only[w',Array.size_push]
   exact(hl x).imp (fun h=>by omega) id
  ·have hne:x≠w.heap.size:=by omega
   simp only[w']
   rw[Array.getElem?_push,if_neg hne]
  ·simp only[owns,blk] at hx
   split at hx
   ·cases hx
   ·cases hx;exact Nat.le_refl _
theorem LQ{o:Oper}{K:St→Prop}{Q:Exit→Act→World→Prop}{t u:TypeId}{x y:Operand}{k:Key}(hrun:∀r w',(Builtin.append_ #[t,u] o.type #[a.eval x,a.eval y]).run P w=.ok r w'→(execOp a.eval o).run P w=.ok (.value r) w')
 (hd:∀d,o.dst=some d→d<N) (hR:iD N s a w σ β) (hx:ev s.tm x=.c (.iR k)) (h:zi P t u k (ev s.tm y) s o.dst K):o.wp P a w (Then N s.st β σ w K) Q:=by
 have hxr:=gX hR.T x
 have FB:=gX hR.T y
 rw[hx] at hxr
 unfold zi at h
 split at h
 ·rename_i e ys aF es ht hsrc hk
  obtain⟨rfl,h1,h2,h3,h5,h6⟩:=h
  obtain⟨hu,hsa⟩:=LK hsrc FB h1
  obtain⟨⟨ob,ho,Rt⟩,hone⟩:=hxr
  rw[hk] at ho;cases ho
  have hβ:=Rt _ _ rfl
  obtain⟨hh,hb,yN⟩:=hR.S.obj k _ hk
  rw[hβ] at hb;cases hb
  obtain⟨r,w',hr,hro,hsz,hos,hout,hn,hl,oW,hbk,h1c⟩:=Rw (P:=P) (ty:=o.type) hR.S.live ht hu h3 rfl h2 yN hsa h5
  obtain⟨hS1,hk1,acB⟩:=hR.S.set (o':=.dead) (h':=a.eval x) hk hβ hsz hos hout hn hl (fun b h1 h2=>⟨oW b h1 h2,rfl⟩) (.inl rfl) trivial (fun b hb=>by cases hb)
  have e1:aP β k (a.eval x)=β:=Jq (a.eval x) _ _ _ hβ
  rw[e1] at hS1 hk1 acB
  obtain⟨tm,st⟩:=s
  have hsh:=hS1.shape
  cases hst:aP st k Obj.dead with
  |nil=>simp only[newObj,hst] at h6
  |cons own Ω=>
   simp only[newObj,hst] at h6
   have XE:cB w' σ (own::Ω) β:=by rw[←hst];exact hS1
   have hfr:∃bo bΩ,β=bo::bΩ∧bo.length=own.length:=by
    cases β with
    |nil=>have:=XE.shape.1;simp at this
    |cons bo bΩ=>
     refine⟨bo,bΩ,rfl,?_⟩
     obtain⟨gr,q1,q2⟩:=XE.shape.2 0 own rfl
     simp at q1;rw[q1];exact q2
   obtain⟨bo,bΩ,rfl,hlen⟩:=hfr
   have hnot:∀b,owns (.dK (P.cellsOf e) (es++ys)) r b→¬Own (own::Ω) (bo::bΩ) b:=by
    intro b hb ⟨k1,o1,h1,e1,e2,e3⟩
    have hin:aJ st k1=some o1∧k1≠k:=by
     have Ju:aJ (aP st k Obj.dead) k1=some o1:=by rw[hst];exact e1
     by_cases q:k1=k
     ·subst q
      rw[bT _ _ _ _ hk] at Ju
      cases Ju;cases e3
     ·rw[cO _ _ _ _ (Ne.symm q)] at Ju
      exact⟨Ju,q⟩
    rcases hbk b hb with k2|k2
    ·exact hin.2 (hR.S.apart k1 k o1 _ h1 _ b hin.1 e2 e3 hk hβ k2)
    ·have:=hR.S.y5 ⟨k1,o1,h1,hin.1,e2,e3⟩
     omega
   obtain⟨hS2,hk2,hown⟩:=XE.lay hlen (hro _ _) hnot
   have afU:Keep st (bo::bΩ) (own::Ω) (bo::bΩ):=by rw[←hst];exact hk1
   have Dk:Step st (bo::bΩ) σ w (own::Ω) (bo::bΩ) σ w':=by rw[←hst];exact acB
   refine iW (x:=.c (.iR (0,own.length))) (v:=r) hd hR hS2 (afU.trans hk2) ⟨Dk.size,Dk.os,Dk.output,Dk.far,Dk.near,fun b hb=> ?_⟩ ⟨⟨_,bE _ _ _,fun a b e=> ?_⟩,h1c⟩ (.inl rfl) (hrun _ _ hr) h6
   ·rcases hown b hb with q|q
    ·exact Dk.own b q
    ·rcases hbk b q with q2|q2
     ·exact .inl ⟨k,_,_,hk,hβ,q2⟩
     ·exact .inr q2
   ·rw[←hlen,bE]
 ·exact h.elim
theorem UL{o:Oper}{K:St→Prop}{Q:Exit→Act→World→Prop}{t:TypeId}{n:Nat}{parts:Array (Nat×Operand)}(ho:o.op=.buildSlice t n parts)(hd:∀d,o.dst=some d→d<N)(hR:iD N s a w σ β)
 (h:Bz P t s o.dst K (Rv s.st t) (nval P s.st s.tm (.buildSlice t n parts))):o.wp P a w (Then N s.st β σ w K) Q:=by
 unfold Bz at h
 split at h
 ·obtain⟨h1,h2⟩:=h
  rw[←ho] at h1 h2
  obtain⟨v,w',σ',hrun,hg,hv⟩:=Fq o hR.S hR.T h1
  exact l8 hd hR hg hv hrun h2
 ·rename_i p es hb hr
  split at h
  ·rename_i e ht
   obtain⟨hp,h6⟩:=h
   have hr':kg P (lJ s.st) s.st s.tm (.buildSlice t n parts)=(p,.c (.aY es)):=hr
   simp only[kg] at hr'
   cases hlab:lJ s.st with
   |some m=>
    rw[hlab] at hr'
    simp only[jG] at hr'
    split at hr'<;>cases hr'
   |none=>
    rw[hlab] at hr'
    simp only[jG,mM,ht] at hr'
    split at hr'
    ·rename_i es' hes
     cases hr'
     obtain⟨h1,h2,h3⟩:=hp
     obtain⟨ca,hrun,hca,hle,hcells⟩:=yj (P:=P) (w:=w) (σ:=σ) (S:=s.st) (β:=β) (t:=t) (n:=n) (parts:=parts.toList.map fun x=>(x.1,ev s.tm x.2)) (pv:=parts.toList.map fun x=>(x.1,a.eval x.2)) (by simp)
      (fun j x hx=>by
        rw[List.getElem?_map] at hx ⊢
        cases hc:parts.toList[j]? with
        |none=>rw[hc] at hx;cases hx
        |some y=>rw[hc] at hx;cases hx;exact⟨_,rfl,gX hR.T y.2⟩) ht hes h1 h2 h3
     have hrun':(execOp a.eval o).run P w=.ok (.value (.slice (some ⟨w.heap.size,0,none⟩) n n)) {w with heap:=w.heap.push (.cells ca e)}:=by
      clear h6 hr
      obtain⟨dst,op,ty,pos,after,guard⟩:=o
      simp only at ho;subst ho
      simp[execOp]
      rw[Lp,hrun]
      rfl
     have hg:=wu w σ hR.S.live ca e 0
     have hσ0:σ w.heap.size=0:=by
      rcases hR.S.live w.heap.size with h|h
      ·omega
      ·exact h
     obtain⟨tm,st⟩:=s
     cases st with
     |nil=>exact h6.elim
     |cons own Ω=>
      obtain⟨bo,bΩ,rfl,hlen⟩:=frames hR
      obtain⟨hS',hk,hst⟩:=hR.S.push (o:=.dK (P.cellsOf e) es) (h:=.slice (some ⟨w.heap.size,0,none⟩) n n) hg hlen
       ⟨hle,some ⟨w.heap.size,0,none⟩,n,by rw[h1],by omega,.inr ⟨w.heap.size,ca,e,rfl,by simp,by simp,by rw[hca,h1];exact Nat.le_refl _,fun j d hj=>by
         obtain⟨v,hv,hr⟩:=hcells j d hj
         exact⟨v,hv,hr.mono hg.near⟩⟩⟩
       (fun b hb=>by
         simp only[owns,blk] at hb
         split at hb
         ·cases hb
         ·cases hb;exact Nat.le_refl _)
      refine iW (x:=.c (.iR (0,own.length))) hd hR hS' hk hst ⟨⟨_,bE _ _ _,fun aF es e=> ?_⟩,rfl⟩ (.inl rfl) hrun' h6
      rw[←hlen,bE]
    ·cases hr'
  ·exact h.elim
 ·exact h.elim
theorem D8(hw:∀{o:Oper} {K:St→Prop} {Q:Exit→Act→World→Prop},(∀d,o.dst=some d→d<N)→bq P o s K→o.wp P a w (Then N s.st β σ w K) Q){o:Oper}{K:St→Prop}{Q:Exit→Act→World→Prop}(hd:∀d,o.dst=some d→d<N)(hR:iD N s a w σ β)(h:fu P o s K):o.wp P a w (Then N s.st β σ w K) Q:=by
 unfold fu at h
 split at h
 ·rename_i sI ts ho
  split at h
  ·rename_i x y t u hx ht
   unfold wL at h
   split at h
   ·rename_i k hk
    refine LQ (fun r w' hr=> ?_) hd hR hk h
    clear h
    obtain⟨dst,op,ty,pos,after,guard⟩:=o
    simp only at ho;subst ho
    obtain rfl:sI= #[x,y]:=by rw[←Array.toArray_toList (xs:=sI),hx]
    obtain rfl:ts= #[t,u]:=by rw[←Array.toArray_toList (xs:=ts),ht]
    simp only at hr
    simp[execOp,resolve,invoke,builtin,hr]
   ·refine hw hd ?_
    unfold bq
    rw[ho]
    simp only[kr,hx,ht]
    exact h
  ·exact h.elim
 ·rename_i t n parts ho
  exact UL ho hd hR h
 ·exact hw hd h
end
end Go.Ab
namespace Go.Ab
section
variable {P:Program} {w w':World} {σ σ':Nat→Nat} {S:Store} {β β':Hs} {N:Nat} {s:St} {a:Act}
theorem zS{o:Oper}{K:St→Prop}{Q:Exit→Act→World→Prop}(hd:∀d,o.dst=some d→d<N)(hR:iD N s a w σ β)(h:bq P o s K):o.wp P a w (Then N s.st β σ w K) Q:=by
 unfold bq at h
 split at h
 ·rename_i t ho
  unfold pO at h
  split at h
  ·rename_i zs hz
   obtain⟨z,su,hzc⟩:=qP (w:=w) (σ:=σ) (S:=s.st) (β:=β) hz
   refine FC (v:=z) (t:=t) hd hR hzc (fun ad w' LG=> ?_) h
   obtain⟨dst,op,ty,pos,after,guard⟩:=o
   simp only at ho;subst ho
   simp[execOp,Instr.alloc,su,LG]
  ·exact h.elim
 ·rename_i t x ho
  unfold wY at h
  split at h
  ·rename_i cs hcs
   refine FC (v:=a.eval x) (t:=t) hd hR (sw hcs (gX hR.T x)) (fun ad w' LG=> ?_) h
   obtain⟨dst,op,ty,pos,after,guard⟩:=o
   simp only at ho;subst ho
   simp[execOp,Instr.box,LG]
  ·exact h.elim
 ·rename_i t x y ho
  exact Oz ho hd hR h
 ·rename_i t x y ho
  exact Rs ho hd hR h
 ·rename_i t ho
  exact LH ho hd hR h
 ·rename_i t x y z ho
  exact LJ ho hd hR h
 ·rename_i c ho
  exact FD ho hd hR h
 ·obtain⟨h1,h2⟩:=h
  obtain⟨v,w',σ',hrun,hg,hv⟩:=Fq o hR.S hR.T h1
  exact l8 hd hR hg hv hrun h2
def dZ(R:Array Oper)(j:Nat):Option Nat:=(R[j]?).bind (·.dst)
def pR(P:Program)(R:Array Oper)(o:Oper)(s:St)(K:St→Prop):Prop:=
 match o.guard with
 |none=>fu P o s K
 |some (j,want)=>
  match(dZ R j).map (look s.tm) with
  |some (.c (.d (.b x)))=>(x=want→fu P o s K)∧(x= !want→K (s.put o.dst (.dw [])))
  |some (.dw [])=>K (s.put o.dst (.dw []))
  |_=>False
def w9(P:Program)(R:Array Oper):List Oper→St→(St→Prop)→Prop
 |[],s,K=>K s
 |o::os,s,K=>pR P R o s fun s'=>w9 P R os s' K
theorem Then.mono{K K':St→Prop}{a':Act}{w':World}(hK:∀s,K s→K' s)(h:Then N S β σ w K a' w'):Then N S β σ w K' a' w':=by
 obtain⟨s',σ',β',h1,h2,h3,h4⟩:=h
 exact⟨s',σ',β',h1,h2,h3,hK _ h4⟩
theorem xg{R:Array Oper}{j:Nat}{x:Bool}(hR:iD N s a w σ β)(h:(dZ R j).map (look s.tm)=some (.c (.d (.b x)))):yielded R a.tmps j=some x:=by
 unfold yielded
 unfold dZ at h
 cases hd:(R[j]?).bind (·.dst) with
 |none=>rw[hd] at h;cases h
 |some d=>
  rw[hd] at h
  simp only[Option.map_some,Option.some.injEq] at h
  have ht:=hR.T d
  rw[h] at ht
  obtain⟨ht,_⟩:=ht
  simp only[Option.bind_some]
  have hlt:d<a.tmps.size:=by
   rcases Nat.lt_or_ge d a.tmps.size with h|h
   ·exact h
   ·simp[Array.getD,Nat.not_lt.2 h,undef] at ht
    cases ht
  have hg:a.tmps.getD d undef=a.tmps[d]:=by simp[Array.getD,hlt]
  rw[hg] at ht
  rw[Array.getElem?_eq_getElem hlt]
  generalize a.tmps[d]=v at ht
  cases ht
  rfl
theorem AX{R:Array Oper}{j:Nat}(hR:iD N s a w σ β)(h:(dZ R j).map (look s.tm)=some (.dw [])):yielded R a.tmps j=none:=by
 unfold yielded
 unfold dZ at h
 cases hd:(R[j]?).bind (·.dst) with
 |none=>rw[hd] at h;cases h
 |some d=>
  rw[hd] at h
  simp only[Option.map_some,Option.some.injEq] at h
  have ht:=hR.T d
  rw[h] at ht
  obtain⟨ar,hv,_⟩:=ht
  simp only[Option.bind_some]
  by_cases hlt:d<a.tmps.size
  ·have hg:a.tmps.getD d undef=a.tmps[d]:=by simp[Array.getD,hlt]
   rw[hg] at hv
   rw[Array.getElem?_eq_getElem hlt,hv]
  ·rw[Array.getElem?_eq_none (Nat.le_of_not_lt hlt)]
theorem Jv{o:Oper}{K:St→Prop}(hd:∀d,o.dst=some d→d<N)(hR:iD N s a w σ β)(hK:K (s.put o.dst (.dw []))):Then N s.st β σ w K (a.put o.dst undef) w:=by
 have hr:iD N (St.put ⟨s.tm,s.st⟩ o.dst (.dw [])) (a.put o.dst undef) w σ β:=wK hd hR.size hR.defers hR.S hR.T rC
 have he:(s.put o.dst (.dw [])).st=s.st:=jq o.dst s.tm s.st _
 exact⟨_,σ,β,hr,by rw[show(St.put ⟨s.tm,s.st⟩ o.dst (.dw [])).st=s.st from he];exact Step.jM (Grow.refl hR.S.live),by rw[show(St.put ⟨s.tm,s.st⟩ o.dst (.dw [])).st=s.st from he];exact Keep.refl _ _,hK⟩
theorem OA{R:Array Oper}{o:Oper}{K:St→Prop}{Q:Exit→Act→World→Prop}(hd:∀d,o.dst=some d→d<N)(hR:iD N s a w σ β)(h:pR P R o s K):
 if Region.wanted o (yielded R a.tmps) then o.wp P a w (Then N s.st β σ w K) Q else Then N s.st β σ w K (a.put o.dst undef) w:=by
 unfold pR at h
 split at h
 ·rename_i hg
  rw[if_pos (by simp[Region.wanted,hg])]
  exact D8 (fun hd h=>zS hd hR h) hd hR h
 ·rename_i j want hg
  split at h
  ·rename_i x hx
   have hy:=xg hR hx
   by_cases e:x=want
   ·rw[if_pos (by simp[Region.wanted,hg,hy,e])]
    exact D8 (fun hd h=>zS hd hR h) hd hR (h.1 e)
   ·rw[if_neg (by simp[Region.wanted,hg,hy,e])]
    exact Jv hd hR (h.2 (by cases x<;>cases want<;>simp_all))
  ·rename_i hx
   have hy:=AX hR hx
   rw[if_neg (by simp[Region.wanted,hg,hy])]
   exact Jv hd hR h
  ·exact h.elim
theorem FE{R:Array Oper}{K:St→Prop}{S0:Store}{β0:Hs}{σ0:Nat→Nat}{w0:World}{Q:Exit→Act→World→Prop}(hQ:∀a w,Then N S0 β0 σ0 w0 K a w→Q .normal a w):
 ∀(n k:Nat),k+n=R.size→(∀o∈R.toList,∀d,o.dst=some d→d<N)→∀(s:St) (a:Act) (w:World) (σ:Nat→Nat) (β:Hs),iD N s a w σ β→Step S0 β0 σ0 w0 s.st β σ w→Keep S0 β0 s.st β→
  w9 P R (R.toList.drop k) s K→wpOps P R Q (List.range' k n) a w
 |0,k,hk,_,s,a,w,σ,β,hR,hst,hkp,h=>by
  have:R.toList.drop k=[]:=by apply List.drop_eq_nil_of_le;simp;omega
  rw[this] at h
  exact hQ a w ⟨s,σ,β,hR,hst,hkp,h⟩
 |n+1,k,hk,hd,s,a,w,σ,β,hR,hst,hkp,h=>by
  have hlt:k<R.toList.length:=by simp;omega
  rw[List.drop_eq_getElem_cons hlt] at h
  have hg:=OA (Q:=Q) (fun d e=>hd _ (List.getElem_mem hlt) d e) hR h
  rw[List.range'_succ]
  have hRk:R[k]? =some R.toList[k]:=by
   rw[Array.getElem?_eq_getElem (by omega)];simp
  simp only[wpOps,hRk]
  have next:∀a' w',Then N s.st β σ w (fun s'=>w9 P R (R.toList.drop (k+1)) s' K) a' w'→wpOps P R Q (List.range' (k+1) n) a' w':=by
   rintro a' w' ⟨s',σ',β',hR',hst',tT,hK'⟩
   exact FE hQ n (k+1) (by omega) hd s' a' w' σ' β' hR' (hst.trans hst') (hkp.trans tT) hK'
  split
  ·rename_i hw
   rw[if_pos hw] at hg
   exact .inl (Oper.wp_mono next hg)
  ·rename_i hw
   rw[if_neg hw] at hg
   exact next _ _ hg
def eB{α:Type}(l:List α):List α:=l.drop 1
def AW(P:Program)(N:Nat)(c:Code)(Q:Exit→St→Prop)(s:St):Prop:=
 ∀(a:Act) (w:World) (σ:Nat→Nat) (β:Hs),iD N s a w σ β→
  c.wp P (fun e a' w'=>∃s' σ' β',iD N s' a' w' σ' β'∧Step s.st β σ w s'.st β' σ' w'∧Keep (eB s.st) (eB β) (eB s'.st) (eB β')∧Q e s') a w
theorem AW.mono{c:Code}{Q Q':Exit→St→Prop}(h:AW P N c Q s)(hq:∀e s,Q e s→Q' e s):AW P N c Q' s:=fun a w σ β hR=>
 wp_mono (h a w σ β hR) fun e a' w' ⟨s',σ',β',h1,h2,h3,h4⟩=>⟨s',σ',β',h1,h2,h3,hq _ _ h4⟩
def kW(K:St→Prop)(Q:Exit→St→Prop):Exit→St→Prop
 | .normal,s=>K s
 |e,s=>Q e s
def sJ(id:Nat)(Q:Exit→St→Prop):Exit→St→Prop
 | .exit id',s=>if id'=id then Q .normal s else Q (.exit id') s
 |e,s=>Q e s
theorem UM{x y:Code}{Q:Exit→St→Prop}(h:AW P N x (kW (AW P N y Q) Q) s):AW P N (.seq x y) Q s:=by
 intro a w σ β hR
 refine wp_seq (wp_mono (h a w σ β hR) ?_)
 rintro e a' w' ⟨s',σ',β',h1,h2,h3,h4⟩
 cases e with
 |normal=>
  show y.wp P _ a' w'
  refine wp_mono (h4 a' w' σ' β' h1) ?_
  rintro e a'' w'' ⟨s'',wR,β'',k1,k2,k3,k4⟩
  exact⟨s'',wR,β'',k1,h2.trans k2,h3.trans k3,k4⟩
 |_=>exact⟨s',σ',β',h1,h2,h3,h4⟩
theorem LU{c:Code}{e:Exit}{Q:Exit→St→Prop}(hc:∀{Q':Exit→Act→World→Prop} {a:Act} {w:World},Q' e a w→c.wp P Q' a w)(h:Q e s):AW P N c Q s:=
 fun a w σ β hR=>hc ⟨s,σ,β,hR,Step.jM (Grow.refl hR.S.live),Keep.refl _ _,h⟩
theorem aaM{Q:Exit→St→Prop}(h:Q .normal s):AW P N .skip Q s:=LU wp_skip h
theorem aaN{id:Nat}{Q:Exit→St→Prop}(h:Q (.exit id) s):AW P N (.exit id) Q s:=LU wp_exit h
theorem acC{Q:Exit→St→Prop}(h:Q .ret s):AW P N .ret Q s:=LU wp_ret h
theorem Qk{c:Operand}{x y:Code}{b:Bool}{Q:Exit→St→Prop}(hc:ev s.tm c=.c (.d (.b b)))(ht:b=true→AW P N x Q s)(hf:b=false→AW P N y Q s):AW P N (.cond c x y) Q s:=by
 intro a w σ β hR
 have hv:=gX hR.T c
 rw[hc] at hv
 obtain⟨hv,_⟩:=hv
 generalize he:a.eval c=v at hv
 cases hv
 refine Go.wp_cond he ?_
 cases b with
 |true=>exact ht rfl a w σ β hR
 |false=>exact hf rfl a w σ β hR
theorem LV{id:Nat}{c:Code}{Q:Exit→St→Prop}(h:AW P N c (sJ id Q) s):AW P N (.block id c) Q s:=by
 intro a w σ β hR
 refine wp_block (wp_mono (h a w σ β hR) ?_)
 rintro e a' w' ⟨s',σ',β',h1,h2,h3,h4⟩
 cases e with
 |exit id'=>
  show if id'=id then _ else _
  simp only[sJ] at h4
  split
  ·rename_i e;rw[if_pos e] at h4;exact⟨s',σ',β',h1,h2,h3,h4⟩
  ·rename_i e;rw[if_neg e] at h4;exact⟨s',σ',β',h1,h2,h3,h4⟩
 |_=>exact⟨s',σ',β',h1,h2,h3,h4⟩
theorem Keep.tail{S S':Store}{β β':Hs}(h:Keep S β S' β'):Keep (eB S) (eB β) (eB S') (eB β'):=h.drop 1
theorem UN{id:Nat}{R:Array Oper}{Q:Exit→St→Prop}(hd:R.toList.all (fun o=>match o.dst with|some d=>decide (d<N)|none=>true)=true)(h:w9 P R R.toList s (Q .normal)):AW P N (.region id R false) Q s:=by
 intro a w σ β hR
 refine wp_region ?_
 rw[List.range_eq_range']
 refine FE (S0:=s.st) (β0:=β) (σ0:=σ) (w0:=w) (K:=Q .normal) (fun a' w' ht=> ?_) R.size 0 (by omega) (fun o ho d e=> ?_) s a w σ β hR (Step.jM (Grow.refl hR.S.live)) (Keep.refl _ _) h
 ·obtain⟨s',σ',β',h1,h2,h3,h4⟩:=ht
  exact⟨s',σ',β',h1,h2,h3.tail,h4⟩
 ·have:=List.all_eq_true.1 hd o ho
  rw[e] at this
  simpa using this
theorem Ql{ι:Type}{c:Code}{Q:Exit→St→Prop}(I:ι→St→Prop)(μ:ι→Nat)(i0:ι)(h0:I i0 s)
 (round:∀i s,I i s→AW P N c (kW (fun s'=>∃j,μ j<μ i∧I j s') Q) s):AW P N (.loop c) Q s:=by
 intro a w σ β hR
 have key:∀(n:Nat) (i:ι) (s':St) (a':Act) (w':World) (σ':Nat→Nat) (β':Hs),μ i<n→I i s'→iD N s' a' w' σ' β'→Step s.st β σ w s'.st β' σ' w'→Keep (eB s.st) (eB β) (eB s'.st) (eB β')→
  Code.rounds P c (fun e a' w'=>∃s' σ' β',iD N s' a' w' σ' β'∧Step s.st β σ w s'.st β' σ' w'∧Keep (eB s.st) (eB β) (eB s'.st) (eB β')∧Q e s') n a' w':=by
  intro n
  induction n with
  |zero=>intro i s' a' w' σ' β' h;omega
  |succ n ih=>
   intro i s' a' w' σ' β' hn hI hR' hst hkp
   refine wp_mono (round i s' hI a' w' σ' β' hR') ?_
   rintro e a'' w'' ⟨s'',wR,β'',k1,k2,k3,k4⟩
   cases e with
   |normal=>
    obtain⟨j,hj,hIj⟩:=k4
    exact ih j s'' a'' w'' wR β'' (by omega) hIj k1 (hst.trans k2) (hkp.trans k3)
   |_=>exact⟨s'',wR,β'',k1,hst.trans k2,hkp.trans k3,k4⟩
 exact wp_loop_rounds (μ i0+1) (key (μ i0+1) i0 s a w σ β (by omega) h0 hR (Step.jM (Grow.refl hR.S.live)) (Keep.refl _ _))
end
end Go.Ab
namespace Go.Ab
def l9:List V→Nat→List (Nat×V)
 |[],_=>[]
 |v::vs,i=>(i,v)::l9 vs (i+1)
def C.ret:C→Option C
 | .bQ (0,_) es=>some (.d (.sl es))
 |c=>c.down 1
def Dl(y:Bool×List C):Option (Bool×List C):=(y.2.mapM C.ret).map fun cs=>(y.1,cs)
def V.ret:V→Option V
 | .c x=>(x.ret).map .c
 | .agg cs=>(cs.mapM C.ret).map .agg
 | .dw xs=>(xs.mapM Dl).map .dw
 | .any=>some .any
def sK(P:Program)(s:St):ResultVar→R
 | .tmp t=>(True,look s.tm t)
 | .cell a t=>wm P s.st t (look s.tm a)
def FH:V→Option (Bool×List C)
 | .c x=>some (false,[x])
 | .agg cs=>some (true,cs)
 |_=>none
def lK(P:Program)(s:St):List ResultVar→Prop×Option (List (Bool×List C))
 |[]=>(True,some [])
 |x::xs=>((sK P s x).1∧(lK P s xs).1,(FH (sK P s x).2).bind fun y=>(lK P s xs).2.map fun ys=>y::ys)
def oZ(P:Program)(rs:List ResultVar)(s:St):R:=
 match rs with
 |[x]=>sK P s x
 |xs=>match(lK P s xs).2 with
  |some ys=>((lK P s xs).1,.dw ys)
  |none=>no
def XF(P:Program)(rs:List ResultVar)(post:V→Store→Prop)(e:Exit)(s:St):Prop:=
 match e with
 | .normal| .ret=>(oZ P rs s).1∧match(oZ P rs s).2.ret with
   |some r=>post r (eB s.st)
   |none=>False
 |_=>False
section
variable {P:Program} {w w':World} {σ σ':Nat→Nat} {S:Store} {β β':Hs} {N:Nat} {s:St} {a:Act}
theorem LW{cs:List C}{vs:List Value}(n:Nat)(h:dR w σ (S.drop n) (β.drop n) cs vs):dR w σ S β (cs.map (C.up n)) vs:=
 ⟨by simpa using h.1,fun j x hx=>by
   rw[List.getElem?_map] at hx
   cases hc:cs[j]? with
   |none=>rw[hc] at hx;cases hx
   |some y=>
    rw[hc] at hx;cases hx
    obtain⟨v,hv,hr,ho⟩:=h.2 j y hc
    exact⟨v,hv,hr.up n,ho⟩⟩
theorem Qm{x:V}{v:Value}(n:Nat)(h:bF w σ (S.drop n) (β.drop n) x v):bF w σ S β (x.up n) v:=by
 cases x with
 |c x=>exact⟨h.1.up n,h.2⟩
 |agg cs=>obtain⟨ar,ha,hc⟩:=h;exact⟨ar,ha,LW n hc⟩
 |dw xs=>
  obtain⟨ar,ha,hl,h2⟩:=h
  refine⟨ar,ha,by simpa using hl,fun j y hy=> ?_⟩
  rw[List.getElem?_map] at hy
  cases hc:xs[j]? with
  |none=>rw[hc] at hy;cases hy
  |some z=>
   rw[hc] at hy;cases hy
   obtain⟨u,hu,h3⟩:=h2 j z hc
   refine⟨u,hu,?_⟩
   obtain⟨b,cs⟩:=z
   cases b with
   |true=>obtain⟨a',e,hcs⟩:=h3;exact⟨a',e,LW n hcs⟩
   |false=>obtain⟨x,e,hx,ho⟩:=h3;subst e;exact⟨_,rfl,hx.up n,ho⟩
 |any=>exact trivial
theorem EA{c c':C}{v:Value}(h:c.ret=some c')(hc:fZ w σ S β c v):fZ w σ (S.drop 1) (β.drop 1) c' v:=by
 unfold C.ret at h
 split at h
 ·cases h;exact hc.1
 ·exact Lr h hc
theorem Jw{xs ys:List C}{vs:List Value}(h:xs.mapM C.ret=some ys)(hc:dR w σ S β xs vs):dR w σ (S.drop 1) (β.drop 1) ys vs:=by
 induction xs generalizing ys vs with
 |nil=>simp at h;subst h;exact⟨hc.1,fun j d hd=>by simp at hd⟩
 |cons x xs ih=>
  rw[List.mapM_cons] at h
  cases hd:C.ret x with
  |none=>rw[hd] at h;simp at h
  |some y=>
   cases hm:xs.mapM C.ret with
   |none=>rw[hd,hm] at h;simp at h
   |some ys'=>
    rw[hd,hm] at h
    simp at h
    subst h
    cases vs with
    |nil=>have:=hc.1;simp at this
    |cons v vs=>
     obtain⟨l,r⟩:=ih hm (vs:=vs) ⟨by have:=hc.1;simpa using this,fun j y hy=>hc.2 (j+1) y hy⟩
     refine⟨by simp[l],fun j e he=> ?_⟩
     cases j with
     |zero=>
      simp at he;subst he
      obtain⟨u,hu,hr,ho⟩:=hc.2 0 x rfl
      simp at hu;subst hu
      exact⟨v,rfl,EA hd hr,ho⟩
     |succ j=>exact r j e he
theorem LX{α γ:Type}(f:α→Option γ):∀(xs:List α) (ys:List γ),xs.mapM f=some ys→ys.length=xs.length∧∀(j:Nat) (y:γ),ys[j]? =some y→∃x,xs[j]? =some x∧f x=some y
 |[],ys,h=>by simp at h;subst h;exact⟨rfl,fun j y hy=>by simp at hy⟩
 |x::xs,ys,h=>by
  rw[List.mapM_cons] at h
  cases hd:f x with
  |none=>rw[hd] at h;simp at h
  |some y=>
   cases hm:xs.mapM f with
   |none=>rw[hd,hm] at h;simp at h
   |some ys'=>
    rw[hd,hm] at h
    simp at h
    subst h
    obtain⟨l,r⟩:=LX f xs ys' hm
    refine⟨by simp[l],fun j e he=> ?_⟩
    cases j with
    |zero=>simp at he;subst he;exact⟨x,rfl,hd⟩
    |succ j=>exact r j e he
theorem XG{x y:V}{v:Value}(h:x.ret=some y)(hx:bF w σ S β x v):bF w σ (S.drop 1) (β.drop 1) y v:=by
 cases x with
 |c x=>
  simp only[V.ret] at h
  cases hc:x.ret with
  |none=>rw[hc] at h;cases h
  |some c=>rw[hc] at h;cases h;exact⟨EA hc hx.1,hx.2⟩
 |agg cs=>
  simp only[V.ret] at h
  cases hc:cs.mapM C.ret with
  |none=>rw[hc] at h;cases h
  |some c=>rw[hc] at h;cases h;obtain⟨ar,ha,h2⟩:=hx;exact⟨ar,ha,Jw hc h2⟩
 |dw xs=>
  simp only[V.ret] at h
  cases hc:xs.mapM Dl with
  |none=>rw[hc] at h;cases h
  |some ys=>
   rw[hc] at h;cases h
   obtain⟨ar,ha,hl,h2⟩:=hx
   obtain⟨l,r⟩:=LX _ _ _ hc
   refine⟨ar,ha,by rw[l];exact hl,fun j y hy=> ?_⟩
   obtain⟨z,hz,hzy⟩:=r j y hy
   obtain⟨u,hu,h3⟩:=h2 j z hz
   refine⟨u,hu,?_⟩
   obtain⟨b,cs⟩:=z
   simp only[Dl] at hzy
   cases hm:cs.mapM C.ret with
   |none=>rw[hm] at hzy;cases hzy
   |some cs'=>
    rw[hm] at hzy;cases hzy
    cases b with
    |true=>obtain⟨a',e,hcs⟩:=h3;exact⟨a',e,Jw hm hcs⟩
    |false=>
     obtain⟨x,e,hx,ho⟩:=h3
     subst e
     rw[List.mapM_cons] at hm
     cases hx':C.ret x with
     |none=>rw[hx'] at hm;simp at hm
     |some x'=>
      rw[hx'] at hm
      simp at hm
      exact⟨x',hm.symm,EA hx' hx,ho⟩
 |any=>cases h;exact trivial
theorem Qn{x:ResultVar}(hR:iD N s a w σ β)(h:(sK P s x).1):
 ∃v,(match x with| .tmp t=>pure (a.tmps.getD t undef)| .cell b t=>do loadVar t (←asAddr (a.tmps.getD b undef)):Sem Value).run P w=.ok v w∧bF w σ s.st β (sK P s x).2 v:=by
 cases x with
 |tmp t=>exact⟨_,rfl,hR.T t⟩
 |cell b t=>
  obtain⟨v,hrun,hv⟩:=Jl (P:=P) (t:=t) hR.S (hR.T b) h
  refine⟨v,?_,hv⟩
  show(do loadVar t (←asAddr (a.tmps.getD b undef)):Sem Value).run P w=.ok v w
  generalize a.tmps.getD b undef=bv at hrun ⊢
  cases bv with
  |pointer o=>
   cases o with
   |none=>simp[Instr.loadAt,Instr.sureAddr] at hrun
   |some ad=>simpa [Instr.loadAt,Instr.sureAddr,asAddr] using hrun
  |_=>simp[Instr.loadAt,Instr.sureAddr] at hrun
theorem XH{x:V}{y:Bool×List C}{v:Value}(h:FH x=some y)(hx:bF w σ S β x v):Ik w σ S β y v:=by
 cases x with
 |c x=>cases h;exact⟨x,rfl,hx.1,hx.2⟩
 |agg cs=>cases h;exact hx
 |dw=>cases h
 |any=>cases h
theorem Qo(hR:iD N s a w σ β):∀(xs:List ResultVar) (ys:List (Bool×List C)),(lK P s xs).1→(lK P s xs).2=some ys→
 ∃vs:List Value,(xs.mapM fun x=>(match x with| .tmp t=>pure (a.tmps.getD t undef)| .cell b t=>do loadVar t (←asAddr (a.tmps.getD b undef)):Sem Value)).run P w=.ok vs w∧ys.length=vs.length∧
  ∀(j:Nat) (y:Bool×List C),ys[j]? =some y→∃u,vs[j]? =some u∧Ik w σ s.st β y u
 |[],ys,_,h=>by simp only[lK] at h;cases h;exact⟨[],by simp,rfl,fun j y hy=>by simp at hy⟩
 |x::xs,ys,h1,h2=>by
  simp only[lK] at h1 h2
  cases hc:FH (sK P s x).2 with
  |none=>rw[hc] at h2;cases h2
  |some y=>
   cases hr:(lK P s xs).2 with
   |none=>rw[hc,hr] at h2;cases h2
   |some ys'=>
    rw[hc,hr] at h2;cases h2
    obtain⟨v,hv,hrep⟩:=Qn (P:=P) (x:=x) hR h1.1
    obtain⟨vs,hvs,hl,hj⟩:=Qo hR xs ys' h1.2 hr
    refine⟨v::vs,?_,by simp[hl],fun j z hz=> ?_⟩
    ·rw[List.mapM_cons]
     simp only[Sem.run_bind,Result.andThen_ok,Sem.run_pure]
     rw[hv]
     simp only[Result.andThen_ok]
     rw[hvs];rfl
    ·cases j with
     |zero=>simp at hz;subst hz;exact⟨v,rfl,XH hc hrep⟩
     |succ j=>exact hj j z hz
theorem Jy{fn:Func}(hR:iD N s a w σ β)(h:(oZ P fn.results.toList s).1):∃v,(results fn a.tmps).run P w=.ok v w∧bF w σ s.st β (oZ P fn.results.toList s).2 v:=by
 have hres:fn.results=fn.results.toList.toArray:=by simp
 have hrun:∀vs:List Value,(fn.results.toList.mapM fun x=>(match x with| .tmp t=>pure (a.tmps.getD t undef)| .cell b t=>do loadVar t (←asAddr (a.tmps.getD b undef)):Sem Value)).run P w=.ok vs w→
  (results fn a.tmps).run P w=.ok (if h:vs.toArray.size=1 then vs.toArray[0] else .tuple vs.toArray) w:=by
  intro vs hvs
  unfold results
  rw[hres,List.mapM_toArray]
  simp only[Sem.run_bind,Sem.run_map]
  have:(fun x=>(match x with| .tmp t=>pure (a.tmps.getD t undef)| .cell b t=>do loadVar t (←asAddr (a.tmps.getD b undef)):Sem Value))=fun(x:ResultVar)=>(match x with| .tmp t=>pure (a.tmps.getD t undef)| .cell b t=>do loadVar t (←asAddr (a.tmps.getD b undef)):Sem Value):=rfl
  erw [hvs]
  rfl
 unfold oZ at h ⊢
 split at h
 ·rename_i x hx
  rw[hx] at hrun
  obtain⟨v,hv,hrep⟩:=Qn (P:=P) (x:=x) hR h
  refine⟨v,?_,hrep⟩
  have:=hrun [v] (by
   rw[List.mapM_cons]
   simp only[Sem.run_bind,List.mapM_nil,Result.andThen_ok,Sem.run_pure]
   rw[hv];rfl)
  simpa using this
 ·rename_i hne
  split at h
  ·rename_i ys hys
   obtain⟨vs,hvs,hl,hj⟩:=Qo (P:=P) hR _ ys h hys
   have h1:=hrun vs hvs
   have hlen:¬(vs.toArray.size=1):=by
    intro e
    have hl2:ys.length=fn.results.toList.length:=by
     clear hj hvs h1 hrun hne e hl h
     generalize fn.results.toList=l at hys
     induction l generalizing ys with
     |nil=>simp only[lK] at hys;cases hys;rfl
     |cons x xs ih=>
      simp only[lK] at hys
      cases hc:FH (sK P s x).2 with
      |none=>rw[hc] at hys;cases hys
      |some y=>
       cases hr:(lK P s xs).2 with
       |none=>rw[hc,hr] at hys;cases hys
       |some ys'=>rw[hc,hr] at hys;cases hys;simp[ih ys' hr]
    simp at e
    have:fn.results.toList.length=1:=by omega
    obtain⟨x,hx⟩:=List.length_eq_one_iff.1 this
    exact hne x hx
   rw[dif_neg hlen] at h1
   exact⟨_,h1,vs.toArray,rfl,by simpa using hl,fun j y hy=>by simpa using hj j y hy⟩
  ·exact h.elim
theorem cB.aej{own:List Obj}{Ω:Store}{bo:List Value}{bΩ:Hs}(h:cB w σ (own::Ω) (bo::bΩ)):cB w σ Ω bΩ:=by
 refine⟨fun k o ho=> ?_,fun k k' o o' h1 h2 b e1 e2 e3 e4 e5 e6=> ?_,⟨by have:=h.shape.1;simpa using this,fun l fr hl=>h.shape.2 (l+1) fr hl⟩,h.live,h.mY⟩
 ·obtain⟨l,j⟩:=k
  obtain⟨hv,hh,hr⟩:=h.obj (l+1,j) o (by rw[bf];exact ho)
  rw[bf] at hh
  exact⟨hv,hh,hr⟩
 ·obtain⟨l,j⟩:=k
  obtain⟨l',j'⟩:=k'
  have:=h.apart (l+1,j) (l'+1,j') o o' h1 h2 b (by rw[bf];exact e1) (by rw[bf];exact e2) e3 (by rw[bf];exact e4) (by rw[bf];exact e5) e6
  cases this;rfl
theorem cB.up1(h:cB w σ S β):cB w σ ([]::S) ([]::β):=by
 refine⟨fun k o ho=> ?_,fun k k' o o' h1 h2 b e1 e2 e3 e4 e5 e6=> ?_,⟨by simp[h.shape.1],fun l fr hl=> ?_⟩,h.live,h.mY⟩
 ·obtain⟨l,j⟩:=k
  cases l with
  |zero=>rw[aR] at ho;simp at ho
  |succ l=>
   rw[bf] at ho
   obtain⟨hv,hh,hr⟩:=h.obj (l,j) o ho
   exact⟨hv,by rw[bf];exact hh,hr⟩
 ·obtain⟨l,j⟩:=k
  obtain⟨l',j'⟩:=k'
  cases l with
  |zero=>rw[aR] at e1;simp at e1
  |succ l=>
   cases l' with
   |zero=>rw[aR] at e4;simp at e4
   |succ l'=>
    rw[bf] at e1 e2 e4 e5
    have:=h.apart (l,j) (l',j') o o' h1 h2 b e1 e2 e3 e4 e5 e6
    cases this;rfl
 ·cases l with
  |zero=>simp at hl;subst hl;exact⟨[],rfl,rfl⟩
  |succ l=>exact h.shape.2 l fr hl
theorem Dm{b:Nat}(h:Own ([]::S) ([]::β) b):Own S β b:=by
 obtain⟨⟨l,j⟩,o,hv,h1,h2,h3⟩:=h
 cases l with
 |zero=>rw[aR] at h1;simp at h1
 |succ l=>rw[bf] at h1 h2;exact⟨(l,j),o,hv,h1,h2,h3⟩
theorem UO{own:List Obj}{Ω:Store}{bo:List Value}{bΩ:Hs}{b:Nat}(h:Own Ω bΩ b):Own (own::Ω) (bo::bΩ) b:=by
 obtain⟨⟨l,j⟩,o,hv,h1,h2,h3⟩:=h
 exact⟨(l+1,j),o,hv,by rw[bf];exact h1,by rw[bf];exact h2,h3⟩
theorem zT:∀(args:List V) (i t:Nat),look (l9 args i) t=if i≤t then(args[t-i]?).getD .any else .any
 |[],i,t=>by simp[l9,look]
 |v::args,i,t=>by
  rw[l9,look,zT args (i+1) t]
  by_cases h1:i=t
  ·subst h1;simp
  ·rw[if_neg h1]
   by_cases h2:i+1≤t
   ·rw[if_pos h2,if_pos (by omega)]
    rw[show t-i=(t-(i+1))+1 from by omega]
    rfl
   ·rw[if_neg h2,if_neg (by omega)]
theorem uF{f:FuncId}{fn:Func}{c:Code}{args:List V}{post:V→Store→Prop}(hf:P.funcs[f]? =some fn)(hb:fn.body=some c)(hn:(fn.name== "runtime.NumGoroutine")=false)
 (hl:args.length≤fn.ntmps) (h:AW P fn.ntmps c (XF P fn.results.toList post) ⟨l9 (args.map (V.up 1)) 0,[]::S⟩):bD P f args S post:=by
 refine⟨⟨fn,hf,hn,by simp[hb]⟩,fun w σ β vs hS hargs=> ?_⟩
 refine calls_of_wp hf hb ?_
 have hlen:vs.length=args.length:=hargs.1.symm
 have XI:iD fn.ntmps ⟨l9 (args.map (V.up 1)) 0,[]::S⟩ {tmps:=vs.toArray++Array.replicate (fn.ntmps-vs.toArray.size) undef,defers:=[]} w σ ([]::β):=by
  refine⟨by simp;omega,rfl,hS.up1,fun t=> ?_⟩
  show bF w σ ([]::S) ([]::β) (look (l9 (args.map (V.up 1)) 0) t) _
  rw[zT,if_pos (Nat.zero_le _),Nat.sub_zero,List.getElem?_map]
  cases ha:args[t]? with
  |none=>exact trivial
  |some x=>
   obtain⟨v,hv,hr⟩:=hargs.2 t x ha
   have ht:=(List.getElem?_eq_some_iff.1 hv).1
   have:(vs.toArray++Array.replicate (fn.ntmps-vs.toArray.size) undef).getD t undef=v:=by
    rw[Array.getD_eq_getD_getElem?,Array.getElem?_append_left (by simpa using ht)]
    simp[hv]
   rw[this]
   exact Qm (S:=[]::S) (β:=[]::β) 1 hr
 refine wp_mono (h _ w σ ([]::β) XI) ?_
 rintro e a' w' ⟨s',σ',β',hR,hst,hkp,hq⟩
 have main:(oZ P fn.results.toList s').1∧(match(oZ P fn.results.toList s').2.ret with|some r=>post r (eB s'.st)|none=>False)→
  a'.defers=[]∧∃v,(results fn a'.tmps).run P w'=.ok v w'∧∃v_1 r S' σ' β',Ending.returned v=Ending.returned v_1∧cB w' σ' S' β'∧Keep S β S' β'∧Step S β σ w S' β' σ' w'∧bF w' σ' S' β' r v_1∧post r S':=by
  rintro⟨q1,q2⟩
  obtain⟨v,hv,hrep⟩:=Jy (fn:=fn) hR q1
  split at q2
  ·rename_i r hr
   obtain⟨tm,st⟩:=s'
   have aek:=XG hr hrep
   refine⟨hR.defers,v,hv,v,r,eB st,σ',eB β',rfl,?_,hkp,?_,aek,q2⟩
   ·cases st with
    |nil=>
     cases β' with
     |nil=>exact hR.S
     |cons=>have:=hR.S.shape.1;simp at this
    |cons own Ω=>
     cases β' with
     |nil=>have:=hR.S.shape.1;simp at this
     |cons bo bΩ=>exact hR.S.aej
   ·refine⟨hst.size,hst.os,hst.output,fun b hb ho=>hst.far b hb (fun x=>ho (Dm x)),hst.near,fun b hb=> ?_⟩
    cases st with
    |nil=>obtain⟨k,o,hv,h1,_⟩:=hb;simp[eB,lI] at h1
    |cons own Ω=>
     cases β' with
     |nil=>obtain⟨k,o,hv,h1,h2,_⟩:=hb;simp[eB,lI] at h2
     |cons bo bΩ=>exact(hst.own b (UO hb)).imp Dm id
  ·exact q2.elim
 cases e with
 |normal=>exact main hq
 |ret=>exact main hq
 |_=>exact hq.elim
end
end Go.Ab
namespace Go.Ab
def ng:Op→Bool
 | .alloc _=>true
 | .box _ _=>true
 | .store _ _ _=>true
 | .makeSlice _ _ _=>true
 | .makeMap _ none=>true
 | .mapUpdate _ _ _ _=>true
 | .call {callee:=.builtin .append,args:=_,argTypes:=_}=>true
 |_=>false
def tV:Op→Bool
 | .store _ _ _=>true
 | .mapUpdate _ _ _ _=>true
 |_=>false
def gT:Op→Bool
 | .call {callee:=.value _,args:=_,argTypes:=_}=>true
 |_=>false
abbrev Md:=Op→Nat
def dL(E:Md)(op:Op):Bool:=ng op||(decide (1≤E op)&&gT op)
def jh(E:Md)(op:Op):Bool:=tV op||(decide (2≤E op)&&gT op)
theorem XJ{E:Md}{op:Op}(h:ng op=true):dL E op=true:=by simp[dL,h]
theorem UQ{E:Md}{op:Op}(h:jh E op=true):dL E op=true:=by
 unfold jh dL at *
 rw[Bool.or_eq_true] at h ⊢
 refine h.imp (fun hs=> ?_) (fun h=> ?_)
 ·cases op<;>first|rfl|simp[tV] at hs
 ·rw[Bool.and_eq_true,decide_eq_true_eq] at h ⊢
  exact⟨by omega,h.2⟩
def DS(S S':Store):Prop:=∀k o,aJ S k=some o→aJ S' k=some o∨((∃z es,nO o z es)∧∃o' z es,aJ S' k=some o'∧nO o' z es)
def zU(P:Program)(tm:List (Nat×V))(c:Call)(r:V):Prop:=
 match c.callee with
 | .value x=>match ev tm x with
   | .c (.fn f caps)=>aD P f (c.args.toList.map (ev tm)++caps.map fun y=>.c (.ptr y.1 y.2)) r
   |_=>False
 |_=>False
def dM(P:Program)(E:Md)(o:Oper)(s:St)(K:St→Prop):Prop:=
 if ng o.op then bq P o s K else
 match o.op with
 | .call {callee:=.value x,args,argTypes}=>match E (.call {callee:=.value x,args,argTypes}) with
   |0=>∃r,zU P s.tm {callee:=.value x,args,argTypes} r∧K (s.put o.dst r)
   |1=>∃S' v,DS s.st S'∧bq P o s (fun t=>t=St.put ⟨s.tm,S'⟩ o.dst v)∧K (St.put ⟨s.tm,S'⟩ o.dst v)
   |_=>∃S' v,bq P o s (fun t=>t=St.put ⟨s.tm,S'⟩ o.dst v)∧K (St.put ⟨s.tm,S'⟩ o.dst v)
 |op=>(nval P s.st s.tm op).1∧K (s.put o.dst (nval P s.st s.tm op).2)
def lG(P:Program)(E:Md)(R:Array Oper)(o:Oper)(s:St)(K:St→Prop):Prop:=
 match o.guard with
 |none=>dM P E o s K
 |some (j,want)=>
  match(dZ R j).map (look s.tm) with
  |some (.c (.d (.b x)))=>(x=want→dM P E o s K)∧(x= !want→K (s.put o.dst (.dw [])))
  |some (.dw [])=>K (s.put o.dst (.dw []))
  |_=>False
def pq(P:Program)(E:Md)(R:Array Oper):List Oper→St→(St→Prop)→Prop
 |[],s,K=>K s
 |o::os,s,K=>lG P E R o s fun s'=>pq P E R os s' K
def NV(P:Program)(S:Store)(tm:List (Nat×V))(op:Op)(v:V):Prop:=
 (∃c,op=.call c∧zU P tm c v)∨((nval P S tm op).1∧v=(nval P S tm op).2)
def gd(R:Array Oper)(o:Oper)(tm:List (Nat×V)):Option Bool:=
 match o.guard with
 |none=>some true
 |some (j,want)=>
  match(dZ R j).map (look tm) with
  |some (.c (.d (.b x)))=>some (x==want)
  |some (.dw [])=>some false
  |_=>none
def jR(P:Program)(E:Md)(R:Array Oper)(o:Oper)(s:St)(v:V)(s':St):Prop:=
 (gd R o s.tm=some false∧v=.dw []∧s'=s.put o.dst v)∨
 (gd R o s.tm=some true∧dL E o.op=false∧NV P s.st s.tm o.op v∧s'=s.put o.dst v)∨
 (gd R o s.tm=some true∧dL E o.op=true∧bq P o s (fun t=>t=s')∧s'=St.put ⟨s.tm,s'.st⟩ o.dst v∧(ng o.op=false→jh E o.op=false→DS s.st s'.st))
section
variable {P:Program} {w w':World} {σ σ':Nat→Nat} {S S':Store} {β β':Hs} {N:Nat} {s:St} {a:Act}
theorem pU{dst:Option Nat}{o:Obj}{mk:Key→V}{K:St→Prop}(h:newObj s dst o mk K):∃S' v,newObj s dst o mk (fun t=>t=St.put ⟨s.tm,S'⟩ dst v)∧K (St.put ⟨s.tm,S'⟩ dst v):=by
 unfold newObj at h ⊢
 split at h
 ·rename_i own Ω hst
  exact⟨_,_,rfl,h⟩
 ·exact h.elim
theorem aaO{l:Option Nat}{es x:List (List D)}{z:Nat}{dst:Option Nat}{K:St→Prop}(h:wZ l es s dst z x K):∃S' v,wZ l es s dst z x (fun t=>t=St.put ⟨s.tm,S'⟩ dst v)∧K (St.put ⟨s.tm,S'⟩ dst v):=by
 cases l with
 |none=>exact pU (o:=.tok z x) (mk:=fun k=>.c (.bQ k x)) h
 |some n=>
  cases es with
  |nil=>exact⟨s.st,_,rfl,h⟩
  |cons y es=>exact pU (o:=.tok z x) (mk:=fun k=>.c (.bQ k x)) h
theorem aaP{b:Bool}{n:Nat}{x:List (List D)}{z:Nat}{dst:Option Nat}{K:St→Prop}(h:yO b n s dst z x K):∃S' v,yO b n s dst z x (fun t=>t=St.put ⟨s.tm,S'⟩ dst v)∧K (St.put ⟨s.tm,S'⟩ dst v):=by
 cases b with
 |false=>exact pU (o:=.dW n z x) (mk:=fun k=>.c (.bQ k x)) h
 |true=>exact⟨s.st,_,rfl,h⟩
theorem XK{o:Oper}{K:St→Prop}(hD:ng o.op=true)(h:bq P o s K):∃S' v,bq P o s (fun t=>t=St.put ⟨s.tm,S'⟩ o.dst v)∧K (St.put ⟨s.tm,S'⟩ o.dst v):=by
 obtain⟨dst,op,ty,pos,after,guard⟩:=o
 cases op with
 |alloc t=>
  simp only[bq,pO] at h ⊢
  split at h
  ·exact pU h
  ·exact h.elim
 |box t x=>
  simp only[bq,wY] at h ⊢
  split at h
  ·exact pU h
  ·exact h.elim
 |makeSlice t l c=>
  simp only[bq,sD] at h ⊢
  split at h
  ·split at h
   ·obtain⟨h1,h2,h3,h4,h5,h6⟩:=h
    obtain⟨S',v,k1,k2⟩:=pU h6
    exact⟨S',v,⟨h1,h2,h3,h4,h5,k1⟩,k2⟩
   ·exact h.elim
  ·exact h.elim
 |store t x y=>
  simp only[bq,pQ] at h ⊢
  split at h
  ·split at h
   ·obtain⟨h1,h2,h3,h4⟩:=h
    exact⟨_,_,⟨h1,h2,h3,rfl⟩,h4⟩
   ·exact h.elim
  ·split at h
   ·obtain⟨h1,h2,h3,h4,h5⟩:=h
    exact⟨_,_,⟨h1,h2,h3,h4,rfl⟩,h5⟩
   ·exact h.elim
  ·split at h
   ·split at h
    ·split at h
     ·obtain⟨h1,h2,h3,h4,h5,h6⟩:=h
      exact⟨_,_,⟨h1,h2,h3,h4,h5,rfl⟩,h6⟩
     ·exact h.elim
    ·exact h.elim
   ·exact h.elim
  ·exact h.elim
 |makeMap t r=>
  cases r with
  |none=>
   simp only[bq,oK] at h ⊢
   exact pU h
  |some r=>simp[ng] at hD
 |mapUpdate t x y z=>
  simp only[bq,oL] at h ⊢
  split at h
  ·split at h
   ·exact⟨_,_,rfl,h⟩
   ·exact h.elim
  ·exact h.elim
 |call c=>
  obtain⟨uV,args,sG⟩:=c
  cases uV with
  |builtin b=>
   cases b with
   |append=>
    simp only[bq,kr] at h ⊢
    split at h
    ·simp only[mZ] at h ⊢
     split at h
     ·obtain⟨h1,h2,h3,h4⟩:=h
      split at h4
      ·split at h4
       ·obtain⟨k1,k2,k3,k4⟩:=h4
        exact⟨_,_,⟨h1,h2,h3,k1,k2,k3,rfl⟩,k4⟩
       ·obtain⟨k1,k2,k3,k4⟩:=h4
        exact⟨_,_,⟨h1,h2,h3,k1,k2,k3,rfl⟩,k4⟩
       ·exact h4.elim
      ·obtain⟨k1,k2,k3⟩:=h4
       obtain⟨S',v,l1,l2⟩:=aaO k3
       exact⟨S',v,⟨h1,h2,h3,k1,k2,l1⟩,l2⟩
      ·obtain⟨k1,k2,k3⟩:=h4
       obtain⟨S',v,l1,l2⟩:=aaP k3
       exact⟨S',v,⟨h1,h2,h3,k1,k2,l1⟩,l2⟩
      ·exact h4.elim
     ·exact h.elim
    ·exact h.elim
   |_=>simp[ng] at hD
  |_=>simp[ng] at hD
 |_=>simp[ng] at hD
theorem UR{tm tm':List (Nat×V)}{dst:Option Nat}{o:Obj}{mk:Key→V}{v:V}(h:newObj ⟨tm,S⟩ dst o mk (fun t=>t=St.put ⟨tm,S'⟩ dst v))(hd:dst≠none):
 newObj ⟨tm',S⟩ dst o mk (fun t=>t=St.put ⟨tm',S'⟩ dst v):=by
 unfold newObj at h ⊢
 cases S with
 |nil=>exact h
 |cons own Ω=>
  cases dst with
  |none=>exact absurd rfl hd
  |some d=>
   simp only[St.put,St.mk.injEq,List.cons.injEq,Prod.mk.injEq,and_true,true_and] at h ⊢
   exact h
theorem Rx{tm tm':List (Nat×V)}{o:Obj}{mk:Key→V}{v:V}(h:newObj ⟨tm,S⟩ none o mk (fun t=>t=St.put ⟨tm,S'⟩ none v)):
 newObj ⟨tm',S⟩ none o mk (fun t=>t=St.put ⟨tm',S'⟩ none v):=by
 unfold newObj at h ⊢
 cases S with
 |nil=>exact h
 |cons own Ω=>
  simp only[St.put,St.mk.injEq,true_and] at h ⊢
  exact h
theorem nS{tm tm':List (Nat×V)}{dst:Option Nat}{o:Obj}{mk:Key→V}{v:V}(h:newObj ⟨tm,S⟩ dst o mk (fun t=>t=St.put ⟨tm,S'⟩ dst v)):
 newObj ⟨tm',S⟩ dst o mk (fun t=>t=St.put ⟨tm',S'⟩ dst v):=by
 cases dst with
 |none=>exact Rx h
 |some d=>exact UR h (by simp)
theorem qD{tm tm':List (Nat×V)}{dst:Option Nat}{S1 S2:Store}{v v':V}(h:St.put ⟨tm,S1⟩ dst v=St.put ⟨tm,S2⟩ dst v'):St.put ⟨tm',S1⟩ dst v=St.put ⟨tm',S2⟩ dst v':=by
 cases dst with
 |none=>simp only[St.put,St.mk.injEq,true_and] at h ⊢;exact h
 |some d=>simp only[St.put,St.mk.injEq,List.cons.injEq,Prod.mk.injEq,and_true,true_and] at h ⊢;exact h
theorem XL{l:Option Nat}{es x:List (List D)}{z:Nat}{tm tm':List (Nat×V)}{dst:Option Nat}{v:V}(h:wZ l es ⟨tm,S⟩ dst z x (fun t=>t=St.put ⟨tm,S'⟩ dst v)):
 wZ l es ⟨tm',S⟩ dst z x (fun t=>t=St.put ⟨tm',S'⟩ dst v):=by
 cases l with
 |none=>exact nS (o:=.tok z x) (mk:=fun k=>.c (.bQ k x)) h
 |some n=>
  cases es with
  |nil=>exact qD h
  |cons y es=>exact nS (o:=.tok z x) (mk:=fun k=>.c (.bQ k x)) h
theorem XM{b:Bool}{n:Nat}{x:List (List D)}{z:Nat}{tm tm':List (Nat×V)}{dst:Option Nat}{v:V}(h:yO b n ⟨tm,S⟩ dst z x (fun t=>t=St.put ⟨tm,S'⟩ dst v)):
 yO b n ⟨tm',S⟩ dst z x (fun t=>t=St.put ⟨tm',S'⟩ dst v):=by
 cases b with
 |false=>exact nS (o:=.dW n z x) (mk:=fun k=>.c (.bQ k x)) h
 |true=>exact qD h
theorem XO{o:Oper}{tm tm':List (Nat×V)}{v:V}(hD:ng o.op=true)(he:∀x∈o.op.operands,ev tm x=ev tm' x)(h:bq P o ⟨tm,S⟩ (fun t=>t=St.put ⟨tm,S'⟩ o.dst v)):
 bq P o ⟨tm',S⟩ (fun t=>t=St.put ⟨tm',S'⟩ o.dst v):=by
 obtain⟨dst,op,ty,pos,after,guard⟩:=o
 cases op with
 |alloc t=>
  simp only[bq,pO] at h ⊢
  split at h
  ·exact nS h
  ·exact h.elim
 |box t x=>
  have e1:=he x (by simp[Op.operands])
  simp only[bq,wY,e1] at h ⊢
  split at h
  ·exact nS h
  ·exact h.elim
 |makeSlice t l c=>
  have e1:=he l (by simp[Op.operands])
  have e2:=he c (by simp[Op.operands])
  simp only[bq,sD,e1,e2] at h ⊢
  split at h
  ·split at h
   ·obtain⟨h1,h2,h3,h4,h5,h6⟩:=h
    exact⟨h1,h2,h3,h4,h5,nS h6⟩
   ·exact h.elim
  ·exact h.elim
 |store t x y=>
  have e1:=he x (by simp[Op.operands])
  have e2:=he y (by simp[Op.operands])
  simp only[bq,pQ,e1,e2] at h ⊢
  split at h
  ·split at h
   ·obtain⟨h1,h2,h3,h4⟩:=h
    exact⟨h1,h2,h3,qD h4⟩
   ·exact h.elim
  ·split at h
   ·obtain⟨h1,h2,h3,h4,h5⟩:=h
    exact⟨h1,h2,h3,h4,qD h5⟩
   ·exact h.elim
  ·split at h
   ·split at h
    ·split at h
     ·obtain⟨h1,h2,h3,h4,h5,h6⟩:=h
      exact⟨h1,h2,h3,h4,h5,qD h6⟩
     ·exact h.elim
    ·exact h.elim
   ·exact h.elim
  ·exact h.elim
 |makeMap t r=>
  cases r with
  |none=>
   simp only[bq,oK] at h ⊢
   exact nS h
  |some r=>simp[ng] at hD
 |mapUpdate t x y z=>
  have e1:=he x (by simp[Op.operands])
  have e2:=he y (by simp[Op.operands])
  have e3:=he z (by simp[Op.operands])
  simp only[bq,oL,e1,e2,e3] at h ⊢
  split at h
  ·split at h
   ·exact qD h
   ·exact h.elim
  ·exact h.elim
 |call c=>
  obtain⟨uV,args,sG⟩:=c
  cases uV with
  |builtin b=>
   cases b with
   |append=>
    simp only[bq,kr] at h ⊢
    split at h
    ·rename_i x y t u hxy htu
     have hargs:args= #[x,y]:=by rw[←Array.toArray_toList (xs:=args),hxy]
     have e1:=he x (by simp[Op.operands,Call.operands,hargs])
     have e2:=he y (by simp[Op.operands,Call.operands,hargs])
     simp only[mZ,e1,e2] at h ⊢
     split at h
     ·obtain⟨h1,h2,h3,h4⟩:=h
      refine⟨h1,h2,h3,?_⟩
      split at h4
      ·split at h4
       ·obtain⟨k1,k2,k3,k4⟩:=h4
        exact⟨k1,k2,k3,qD k4⟩
       ·obtain⟨k1,k2,k3,k4⟩:=h4
        exact⟨k1,k2,k3,qD k4⟩
       ·exact h4.elim
      ·obtain⟨k1,k2,k3⟩:=h4
       exact⟨k1,k2,XL k3⟩
      ·obtain⟨k1,k2,k3⟩:=h4
       exact⟨k1,k2,XM k3⟩
      ·exact h4.elim
     ·exact h.elim
    ·exact h.elim
   |_=>simp[ng] at hD
  |_=>simp[ng] at hD
 |_=>simp[ng] at hD
theorem XP{f:FuncId}{args:List V}{tm tm':List (Nat×V)}{dst:Option Nat}{v:V}(h:uE P f args ⟨tm,S⟩ dst (fun t=>t=St.put ⟨tm,S'⟩ dst v)):uE P f args ⟨tm',S⟩ dst (fun t=>t=St.put ⟨tm',S'⟩ dst v):=by
 rcases h with⟨post,h1,h2⟩|⟨r,h1,h2⟩
 ·exact .inl ⟨post,h1,fun r AU hp=>qD (h2 r AU hp)⟩
 ·exact .inr ⟨r,h1,qD h2⟩
theorem XQ{E:Md}{o:Oper}{tm tm':List (Nat×V)}{v:V}(hD:dL E o.op=true)(he:∀x∈o.op.operands,ev tm x=ev tm' x)(h:bq P o ⟨tm,S⟩ (fun t=>t=St.put ⟨tm,S'⟩ o.dst v)):
 bq P o ⟨tm',S⟩ (fun t=>t=St.put ⟨tm',S'⟩ o.dst v):=by
 by_cases hd:ng o.op=true
 ·exact XO hd he h
 ·have hc:gT o.op=true:=by
   unfold dL at hD
   rw[Bool.or_eq_true,Bool.and_eq_true] at hD
   rcases hD with h|h
   ·exact absurd h hd
   ·exact h.2
  obtain⟨dst,op,ty,pos,after,guard⟩:=o
  cases op with
  |call c=>
   obtain⟨uV,args,sG⟩:=c
   cases uV with
   |value x=>
    have h1:args.toList.map (ev tm)=args.toList.map (ev tm'):=List.map_congr_left fun y hy=>he y (by simp[Op.operands,Call.operands];exact .inr (by simpa using hy))
    have h2:ev tm x=ev tm' x:=he x (by simp[Op.operands,Call.operands])
    simp only[bq,kr,h1,h2] at h ⊢
    split at h
    ·exact XP h
    ·exact h.elim
   |_=>simp[gT] at hc
  |_=>simp[gT] at hc
theorem aaQ{tm tm':List (Nat×V)}{op:Op}(he:∀x∈op.operands,ev tm x=ev tm' x):nval P S tm op=nval P S tm' op:=by
 unfold nval kg
 split<;>try rfl
 ·rw[he _ (by simp[Op.operands])]
 ·rw[he _ (by simp[Op.operands])]
 ·rename_i c x y;rw[he c (by simp[Op.operands]),he x (by simp[Op.operands]),he y (by simp[Op.operands])]
 ·rw[he _ (by simp[Op.operands])]
 ·rw[he _ (by simp[Op.operands])]
 ·rw[he _ (by simp[Op.operands])]
 ·rename_i t x i;rw[he x (by simp[Op.operands]),he i (by simp[Op.operands])]
 ·rename_i t x i;rw[he x (by simp[Op.operands]),he i (by simp[Op.operands])]
 ·rename_i op t x y _;rw[he x (by simp[Op.operands]),he y (by simp[Op.operands])]
 ·rw[he _ (by simp[Op.operands])]
 ·rw[he _ (by simp[Op.operands])]
 ·rw[he _ (by simp[Op.operands])]
 ·rename_i fn first caps
  have h1:first.toList.map (ev tm)=first.toList.map (ev tm'):=List.map_congr_left fun x hx=>he x (by simp[Op.operands];exact .inl (by simpa using hx))
  have h2:caps.toList.map (ev tm)=caps.toList.map (ev tm'):=List.map_congr_left fun x hx=>he x (by simp[Op.operands];exact .inr (by simpa using hx))
  rw[h1,h2]
 ·rw[he _ (by simp[Op.operands])]
 ·rename_i t x lo hi mx
  rw[he x (by simp[Op.operands])]
  have h1:lo.map (ev tm)=lo.map (ev tm'):=by
   cases lo with
   |none=>rfl
   |some y=>simp[he y (by simp[Op.operands])]
  have h2:hi.map (ev tm)=hi.map (ev tm'):=by
   cases hi with
   |none=>rfl
   |some y=>simp[he y (by simp[Op.operands])]
  have h3:mx.map (ev tm)=mx.map (ev tm'):=by
   cases mx with
   |none=>rfl
   |some y=>simp[he y (by simp[Op.operands])]
  rw[h1,h2,h3]
 ·rename_i t parts
  have h1:(parts.toList.map fun x=>(x.1,ev tm x.2))=parts.toList.map fun x=>(x.1,ev tm' x.2):=List.map_congr_left fun x hx=>by
   rw[he x.2 (by simp only[Op.operands,List.mem_toArray,List.mem_map];exact⟨x,hx,rfl⟩)]
  rw[h1]
 ·rename_i t n parts
  have h1:(parts.toList.map fun x=>(x.1,ev tm x.2))=parts.toList.map fun x=>(x.1,ev tm' x.2):=List.map_congr_left fun x hx=>by
   rw[he x.2 (by simp only[Op.operands,List.mem_toArray,List.mem_map];exact⟨x,hx,rfl⟩)]
  rw[h1]
 ·rename_i t x i;rw[he x (by simp[Op.operands]),he i (by simp[Op.operands])]
 ·rename_i args sG
  split
  ·rename_i x t hx ht
   have hargs:args= #[x]:=by rw[←Array.toArray_toList (xs:=args),hx]
   rw[he x (by simp[Op.operands,Call.operands,hargs])]
  ·rfl
 ·rename_i args sG
  split
  ·rename_i x y hx
   have hargs:args= #[x,y]:=by rw[←Array.toArray_toList (xs:=args),hx]
   rw[he x (by simp[Op.operands,Call.operands,hargs]),he y (by simp[Op.operands,Call.operands,hargs])]
  ·rfl
 ·rename_i args sG
  split
  ·rename_i x y hx
   have hargs:args= #[x,y]:=by rw[←Array.toArray_toList (xs:=args),hx]
   rw[he x (by simp[Op.operands,Call.operands,hargs]),he y (by simp[Op.operands,Call.operands,hargs])]
  ·rfl
theorem XR{tm tm':List (Nat×V)}{c:Call}{v:V}(he:∀x∈c.operands,ev tm x=ev tm' x)(h:zU P tm c v):zU P tm' c v:=by
 unfold zU at h ⊢
 obtain⟨uV,args,sG⟩:=c
 cases uV with
 |value x=>
  simp only at h ⊢
  rw[←he x (by simp[Call.operands])]
  have h1:args.toList.map (ev tm)=args.toList.map (ev tm'):=List.map_congr_left fun y hy=>he y (by simp[Call.operands];exact .inr (by simpa using hy))
  rw[←h1]
  exact h
 |_=>exact h
def LY:Obj→Prop
 | .box _=>True
 | .dK _ _=>True
 | .mp _=>True
 | .xf _=>True
 |_=>False
def Dn(v:V)(k:Key):Prop:=(∃off,v=.c (.ptr k off))∨(∃i off,v=.c (.jH k i off))∨v=.c (.iR k)∨v=.c (.mp k)∨(∃r p,v=.c (.xp k r p))∨∃r p z i off,v=.c (.xq k r p z i off)
def Fix(S S':Store):Prop:=∀k o,aJ S k=some o→LY o→aJ S' k=some o
theorem Fix.refl(S:Store):Fix S S:=fun _ _ h _=>h
theorem eX{q:Prop}(h:no.1):q:=h.elim
theorem XT{l:Option Nat}{tm:List (Nat×V)}{op:Op}(h:(kg P l S tm op).1)
 (hf:∀x∈op.operands,∀k,Dn (ev tm x) k→
   ∀o,aJ S k=some o→LY o→aJ S' k=some o):kg P l S' tm op=kg P l S tm op:=by
 unfold kg at h ⊢
 split at h<;>try rfl
 ·rename_i t x
  have hf:=hf x (by simp[Op.operands])
  unfold wm at h ⊢
  split at h
  ·rfl
  ·split at h
   ·rename_i hx;simp only[hx]
   ·rename_i k off hx
    split at h
    ·rename_i cs hk;rw[hf k (.inl ⟨off,hx⟩) _ hk trivial]
    ·exact eX h
   ·rename_i k i off hx
    split at h
    ·rename_i aF es hk;rw[hf k (.inr (.inl ⟨i,off,hx⟩)) _ hk trivial]
    ·exact eX h
   ·rename_i k r p z i off hx
    split at h
    ·rename_i rs hk;rw[hf k (.inr (.inr (.inr (.inr (.inr ⟨r,p,z,i,off,hx⟩))))) _ hk trivial]
    ·exact eX h
   ·exact eX h
 ·rename_i t x f
  have hf:=hf x (by simp[Op.operands])
  unfold nP at h ⊢
  split at h
  ·split at h
   ·split at h
    ·exact eX h
    ·rename_i fs hs _ fd hfd hne
     split at h
     ·rename_i hx;simp[hs,hfd,hne,hx]
     ·rename_i k off hx
      split at h
      ·rename_i cs hk
       simp only[hs,hfd,hne,if_false,hx,hf k (.inl ⟨off,hx⟩) _ hk trivial,hk]
      ·exact eX h
     ·rename_i k i off hx
      split at h
      ·rename_i aF es hk
       simp only[hs,hfd,hne,if_false,hx,hf k (.inr (.inl ⟨i,off,hx⟩)) _ hk trivial,hk]
      ·exact eX h
     ·rename_i k r p z i off hx
      split at h
      ·rename_i rs hk
       simp only[hs,hfd,hne,if_false,hx,hf k (.inr (.inr (.inr (.inr (.inr ⟨r,p,z,i,off,hx⟩))))) _ hk trivial,hk]
      ·exact eX h
     ·exact eX h
   ·exact eX h
  ·exact eX h
 ·rename_i t x i
  have hf:=hf x (by simp[Op.operands])
  unfold nQ at h ⊢
  split at h
  ·rename_i e k n' n ht hx hi
   split at h
   ·rename_i aF es hk
    simp only[ht,hx,hi,hf k (.inr (.inr (.inl hx))) _ hk trivial,hk]
   ·exact eX h
  ·rename_i len e k off n' n ht hx hi
   split at h
   ·rename_i cs hk
    simp only[ht,hx,hi,hf k (.inl ⟨off,hx⟩) _ hk trivial,hk]
   ·exact eX h
  ·rename_i e k r p n' n ht hx hi
   split at h
   ·rename_i rs hk
    simp only[ht,hx,hi,hf k (.inr (.inr (.inr (.inr (.inl ⟨r,p,hx⟩))))) _ hk trivial,hk]
   ·exact eX h
  ·rename_i e y n' n hy hy2 ht hx hi
   simp only[ht,hx,hi]
  ·exact eX h
 ·rename_i x
  have hf:=hf x (by simp[Op.operands])
  unfold ru at h ⊢
  split at h
  ·rename_i k off hx
   split at h
   ·rename_i cs hk
    simp only[hx,hf k (.inl ⟨off,hx⟩) _ hk trivial,hk]
   ·exact eX h
  ·rename_i hx;simp only[hx]
  ·exact eX h
 ·rename_i t x i
  have hf:=hf x (by simp[Op.operands])
  unfold tO at h ⊢
  split at h
  ·rename_i kt et k l ht uT hi
   split at h
   ·rename_i m hk hkt hz
    simp only[ht,uT,hi,hf k (.inr (.inr (.inr (.inl uT)))) _ hk trivial,hk,hkt,hz]
   ·exact eX h
  ·exact eX h
 ·rename_i args sG
  split at h
  ·rename_i x t hx ht
   have hargs:args= #[x]:=by rw[←Array.toArray_toList (xs:=args),hx]
   have hf:=hf x (by simp[Op.operands,Call.operands,hargs])
   unfold zP at h ⊢
   split at h
   ·rename_i l FI uT;simp only[FI,uT]
   ·rename_i n e FI;simp only[FI]
   ·rename_i e k FI uT
    split at h
    ·rename_i aF es hk
     simp only[FI,uT,hf k (.inr (.inr (.inl uT))) _ hk trivial,hk]
    ·exact eX h
   ·rename_i e k r p FI uT
    split at h
    ·rename_i rs hk
     simp only[FI,uT,hf k (.inr (.inr (.inr (.inr (.inl ⟨r,p,uT⟩))))) _ hk trivial,hk]
    ·exact eX h
   ·rename_i e y hy hy2 FI uT
    simp only[FI,uT]
   ·exact eX h
  ·exact eX h
end
end Go.Ab
namespace Go.Ab
def qR(acc:List Nat):List Edge→Nat
 |[]=>0
 |e::es=>(if Region.binds .any e then 2^e.on ||| acc.getD e.on 0 else 0) ||| qR acc es
def masks:List Oper→List Nat→List Nat
 |[],acc=>acc
 |o::os,acc=>masks os (acc++[qR acc o.after.toList])
def clash(E:Md)(R:Array Oper)(x y:Oper):Bool:= !(x.apart R y)||(dL E x.op&&dL E y.op)||jh E x.op||jh E y.op
def uW(E:Md)(R:Array Oper)(N:Nat):Bool:=
 (List.range R.size).all fun j=>
   (match R[j]? with
    |some o=>o.after.toList.all (fun e=> !Region.binds .any e||decide (e.on<j))&&(match o.dst with|some d=>decide (d<N)|none=>true)
    |none=>true)&&
   (List.range j).all fun i=>
     match R[i]?,R[j]? with
     |some x,some y=>((masks R.toList []).getD j 0).testBit i|| !(clash E R x y)
     |_,_=>true
def nT(R:Array Oper)(i j:Nat):Bool:=if i<j then((masks R.toList []).getD j 0).testBit i else((masks R.toList []).getD i 0).testBit j
def jX(E:Md)(R:Array Oper)(x y:Oper):Bool:= !(x.apart R y)||(dL E x.op&&dL E y.op)
def settled(R:Array Oper)(i:Nat):Operand→Bool
 | .tmp t=>(List.range R.size).all fun n=>decide (n<i)|| !(dZ R n==some t)
 |_=>true
def qE(R:Array Oper)(i:Nat)(x:Oper)(j:Nat)(y:Oper):Bool:=gT y.op||match x.op with
 | .store _ a _=>settled R i a&&y.op.operands.toList.all (settled R j)
 |_=>false
def Dp(E:Md)(R:Array Oper)(N:Nat):Bool:=
 (List.range R.size).all fun j=>
   (match R[j]? with
    |some o=>o.after.toList.all (fun e=> !Region.binds .any e||decide (e.on<j))&&(match o.dst with|some d=>decide (d<N)|none=>true)
    |none=>true)&&
   (List.range j).all fun i=>
     match R[i]?,R[j]? with
     |some x,some y=>((masks R.toList []).getD j 0).testBit i|| !(jX E R x y||(jh E x.op&& !(qE R i x j y))||(jh E y.op&& !(qE R j y i x)))
     |_,_=>true
def Ry(v w:V):Bool:=
 match w with
 | .c (.ptr k _)=>(match v with| .c (.ptr k' _)=>k'.2 !=k.2| .c (.jH k' _ _)=>k'.2 !=k.2|_=>false)
 | .c (.jH k _ _)=>(match v with| .c (.ptr k' _)=>k'.2 !=k.2| .c (.jH k' _ _)=>k'.2 !=k.2|_=>false)
 | .c (.iR k)=>(match v with| .c (.ptr k' _)=>k'.2 !=k.2| .c (.jH k' _ _)=>k'.2 !=k.2|_=>false)
 | .c (.mp k)=>(match v with| .c (.ptr k' _)=>k'.2 !=k.2| .c (.jH k' _ _)=>k'.2 !=k.2|_=>false)
 | .c (.xp _ _ _)=>false
 | .c (.xq _ _ _ _ _ _)=>false
 |_=>true
def KX(E:Md)(R:Array Oper)(tm:List (Nat×V)):Bool:=
 (List.range R.size).all fun i=>match R[i]? with
   |some x=> !(jh E x.op)||match x.op with
    | .store _ a _=>(List.range R.size).all fun j=>match R[j]? with
      |some y=>nT R i j||dL E y.op||gT y.op||y.op.operands.toList.all (fun z=>Ry (ev tm a) (ev tm z))
      |none=>true
    |_=>true
   |none=>true
def Iz(R:Array Oper)(i:Nat):Bool:=
 (List.range R.size).all fun j=>decide (j=i)||(if j<i then((masks R.toList []).getD i 0).testBit j else((masks R.toList []).getD j 0).testBit i)
def uX:Op→Option FuncId
 | .call {callee:=.value (.func f),args:=_,argTypes:=_}=>some f
 |_=>none
def uG(R:Array Oper)(m:Nat):Md:=fun op=>if(List.range R.size).all (fun i=>match R[i]? with
 |some o=>(uX op !=uX o.op)||Iz R i
 |none=>true) then 2 else m
def tX:Op→Bool
 | .alloc _=>true
 |_=>false
def BA(E:Md)(R:Array Oper)(p:Nat):Bool:=match R[p]? with
 |some o=>tX o.op&&o.guard.isNone&&o.dst.isSome&&(List.range R.size).all fun j=>match R[j]? with
  |some y=>decide (j=p)||y.apart R o||(List.range p).all fun i=>match R[i]? with
   |some x=> !(dL E x.op)||(decide (i<j)&&((masks R.toList []).getD j 0).testBit i)
   |none=>true
  |none=>true
 |none=>true
def UU(E:Md)(R:Array Oper)(p j:Nat)(x y:Oper):Bool:= !(x.apart R y)||(!(decide (j=p))&&((dL E x.op&&dL E y.op)||jh E x.op||jh E y.op))
def zk(E:Md)(R:Array Oper)(N p:Nat):Bool:=
 BA E R p&&(List.range R.size).all fun j=>
  (match R[j]? with
   |some o=>o.after.toList.all (fun e=> !Region.binds .any e||decide (e.on<j))&&(match o.dst with|some d=>decide (d<N)|none=>true)
   |none=>true)&&
  (List.range j).all fun i=>
    match R[i]?,R[j]? with
    |some x,some y=>((masks R.toList []).getD j 0).testBit i|| !(UU E R p j x y)
    |_,_=>true
def XU(E:Md)(R:Array Oper)(N p:Nat):Bool:=
 BA E R p&&(List.range R.size).all fun j=>
  (match R[j]? with
   |some o=>o.after.toList.all (fun e=> !Region.binds .any e||decide (e.on<j))&&(match o.dst with|some d=>decide (d<N)|none=>true)
   |none=>true)&&
  (List.range j).all fun i=>
    match R[i]?,R[j]? with
    |some x,some y=>((masks R.toList []).getD j 0).testBit i|| !(!(x.apart R y)||(!(decide (j=p))&&((dL E x.op&&dL E y.op)||(jh E x.op&& !(qE R i x j y))||(jh E y.op&& !(qE R j y i x)))))
    |_,_=>true
def XV(R:Array Oper)(p i:Nat):Bool:=
 (List.range R.size).all fun j=>decide (j=i)||decide (j=p)||(if j<i then((masks R.toList []).getD i 0).testBit j else((masks R.toList []).getD j 0).testBit i)
def FJ(R:Array Oper)(p:Nat):Md:=fun op=>if(List.range R.size).all (fun i=>match R[i]? with
 |some o=>(uX op !=uX o.op)||XV R p i
 |none=>true) then 2 else 0
def EB(R:Array Oper)(p:Nat):Bool:=match R[p]? with
 |some o=>tX o.op
 |none=>false
def pOf(R:Array Oper)(N:Nat):Option Nat:=(List.range R.size).find? fun p=>EB R p&&zk (FJ R p) R N p
def afV(R:Array Oper)(N:Nat):Option Nat:=(List.range R.size).find? fun p=>EB R p&&XU (FJ R p) R N p
def FK(R:Array Oper)(N:Nat):Md:=if uW (uG R 1) R N then uG R 1 else match pOf R N with
 |some p=>FJ R p
 |none=>if uW (uG R 0) R N then uG R 0 else fun _=>0
def IB(R:Array Oper)(N:Nat):Bool:=uW (FK R N) R N||match pOf R N with
 |some p=>zk (FK R N) R N p
 |none=>false
def uY(R:Array Oper)(N:Nat):Md:=if Dp (uG R 1) R N then uG R 1 else match afV R N with
 |some p=>FJ R p
 |none=>if Dp (uG R 0) R N then uG R 0 else fun _=>0
section
variable {P:Program} {E:Md} {w w':World} {σ σ':Nat→Nat} {S S':Store} {β β':Hs} {N:Nat} {s:St} {a:Act} {R:Array Oper}
theorem BD:∀(l:List Oper) (acc:List Nat) (i:Nat),i<acc.length→(masks l acc)[i]? =acc[i]?
 |[],acc,i,h=>rfl
 |o::os,acc,i,h=>by rw[masks,BD os _ i (by simp;omega),List.getElem?_append_left h]
theorem LZ:∀(l:List Oper) (acc:List Nat) (i:Nat) (o:Oper),l[i]? =some o→
 ∃acc',(∀j,j<acc.length+i→acc'[j]? =(masks l acc)[j]?)∧acc'.length=acc.length+i∧(masks l acc)[acc.length+i]? =some (qR acc' o.after.toList)
 |[],acc,i,o,h=>by simp at h
 |x::os,acc,0,o,h=>by
  simp at h;subst h
  refine⟨acc,fun j hj=> ?_,by simp,?_⟩
  ·rw[masks,BD os _ j (by simp;omega),List.getElem?_append_left (by omega)]
  ·rw[masks,Nat.add_zero,BD os _ _ (by simp),List.getElem?_append_right (Nat.le_refl _)];simp
 |x::os,acc,i+1,o,h=>by
  obtain⟨acc',h1,h2,h3⟩:=LZ os (acc++[qR acc x.after.toList]) i o (by simpa using h)
  refine⟨acc',fun j hj=> ?_,by rw[h2];simp;omega,?_⟩
  ·rw[masks];exact h1 j (by simp;omega)
  ·rw[masks,←h3];congr 1;simp;omega
theorem BF{acc:List Nat}{k:Nat}:∀(es:List Edge),(qR acc es).testBit k=true→∃e∈es,Region.binds .any e=true∧(e.on=k∨(acc.getD e.on 0).testBit k=true)
 |[],h=>by simp[qR] at h
 |e::es,h=>by
  rw[qR,Nat.testBit_or,Bool.or_eq_true] at h
  rcases h with h|h
  ·by_cases hb:Region.binds .any e=true
   ·rw[if_pos hb,Nat.testBit_or,Bool.or_eq_true] at h
    refine⟨e,by simp,hb,?_⟩
    rcases h with h|h
    ·left
     rw[Nat.testBit_two_pow] at h
     simpa using h
    ·exact .inr h
   ·rw[if_neg hb] at h;simp at h
  ·obtain⟨e',he',h'⟩:=BF es h
   exact⟨e',by simp[he'],h'⟩
theorem yu(E:Nat→Prop)(hE:∀i o e,R[i]? =some o→E i→e∈o.after→Region.binds .any e=true→E e.on)(hlt:∀i o e,R[i]? =some o→e∈o.after→Region.binds .any e=true→e.on<i):
 ∀(i:Nat) (o:Oper),R[i]? =some o→(∀e∈o.after,Region.binds .any e=true→E e.on)→∀k,((masks R.toList []).getD i 0).testBit k=true→E k:=by
 intro i
 induction i using Nat.strongRecOn with
 |_ i ih=>
  intro o ho hed k hk
  obtain⟨acc',h1,h2,h3⟩:=LZ R.toList [] i o (by simpa using ho)
  simp only[List.length_nil,Nat.zero_add] at h1 h2 h3
  rw[List.getD_eq_getElem?_getD,h3] at hk
  obtain⟨e,he,hb,hek⟩:=BF _ hk
  have he':e∈o.after:=by simpa using he
  rcases hek with rfl|hek
  ·exact hed e he' hb
  ·have hon:=hlt i o e ho he' hb
   have afW:=hed e he' hb
   have hilt:i<R.size:=(Array.getElem?_eq_some_iff.1 ho).1
   have hsome:R[e.on]? =some R[e.on]:=Array.getElem?_eq_getElem (by omega)
   refine ih e.on hon _ hsome (fun e2 he2 hb2=>hE e.on _ e2 hsome afW he2 hb2) k ?_
   rw[List.getD_eq_getElem?_getD,h1 e.on (by omega)] at hek
   rw[List.getD_eq_getElem?_getD];exact hek
def jd(R:Array Oper)(vs:Nat→V)(E:Nat→Bool)(base:List (Nat×V)):Nat→Nat→V
 |0,t=>look base t
 |k+1,t=>if E k=true∧dZ R k=some t then vs k else jd R vs E base k t
theorem yQ{vs:Nat→V}{E:Nat→Bool}{base:List (Nat×V)}{t i:Nat}:∀(n:Nat),(∀j,j<n→dZ R j=some t→(E j=true↔j<i))→
 jd R vs E base n t=jd R vs (fun _=>true) base (min n i) t
 |0,_=>by simp[jd]
 |n+1,h=>by
  have ih:=yQ (vs:=vs) (base:=base) n (fun j hj hd=>h j (by omega) hd)
  rw[jd]
  by_cases hd:dZ R n=some t
  ·by_cases hE:E n=true
   ·have hni:=(h n (by omega) hd).1 hE
    rw[if_pos ⟨hE,hd⟩,show min (n+1) i=n+1 from by omega,jd,if_pos ⟨rfl,hd⟩]
   ·have hni:¬n<i:=fun hn=>hE ((h n (by omega) hd).2 hn)
    rw[if_neg (fun x=>hE x.1),ih,show min (n+1) i=min n i from by omega]
  ·rw[if_neg (fun x=>hd x.2),ih]
   by_cases hni:n<i
   ·rw[show min (n+1) i=n+1 from by omega,show min n i=n from by omega,jd,if_neg (fun x=>hd x.2)]
   ·rw[show min (n+1) i=min n i from by omega]
theorem uH{vs:Nat→V}{E E':Nat→Bool}{base:List (Nat×V)}{t:Nat}:∀(n:Nat),(∀j,j<n→dZ R j=some t→E j=E' j)→jd R vs E base n t=jd R vs E' base n t
 |0,_=>rfl
 |n+1,h=>by
  rw[jd,jd,uH n (fun j hj hd=>h j (by omega) hd)]
  by_cases hd:dZ R n=some t
  ·rw[h n (by omega) hd]
  ·rw[if_neg (fun x=>hd x.2),if_neg (fun x=>hd x.2)]
theorem zV{vs:Nat→V}{E:Nat→Bool}{base:List (Nat×V)}{t i:Nat}(hi:E i=true)(hd:dZ R i=some t):∀(n:Nat),i<n→(∀j,j<n→i<j→dZ R j=some t→E j=false)→jd R vs E base n t=vs i
 |0,h,_=>by omega
 |n+1,h,hj=>by
  rw[jd]
  by_cases hin:i=n
  ·subst hin;rw[if_pos ⟨hi,hd⟩]
  ·have:¬(E n=true∧dZ R n=some t):=fun x=>by
    have:=hj n (by omega) (by omega) x.2
    rw[this] at x;simp at x
   rw[if_neg this]
   exact zV hi hd n (by omega) (fun j hjn hij hdj=>hj j (by omega) hij hdj)
theorem D9{o:Oper}{s:St}{K:St→Prop}(h:lG P E R o s K):∃v s',jR P E R o s v s'∧K s':=by
 have hN:∀(hg:gd R o s.tm=some true),dM P E o s K→∃v s',jR P E R o s v s'∧K s':=by
  intro hg hx
  unfold dM at hx
  by_cases hD:ng o.op=true
  ·rw[if_pos hD] at hx
   obtain⟨S',v,h1,h2⟩:=XK hD hx
   exact⟨v,_,.inr (.inr ⟨hg,XJ hD,h1,by rw[jq],fun h=>by rw[hD] at h;cases h⟩),h2⟩
  ·rw[if_neg hD] at hx
   have hD':ng o.op=false:=by simpa using hD
   split at hx
   ·rename_i x args sG hop
    have hcv:gT o.op=true:=by rw[hop];rfl
    rw[←hop] at hx
    split at hx
    ·rename_i hE
     obtain⟨r,h1,h2⟩:=hx
     exact⟨r,_,.inr (.inl ⟨hg,by unfold dL;rw[hD',hE];rfl,.inl ⟨_,hop,h1⟩,rfl⟩),h2⟩
    ·rename_i hE
     obtain⟨S',v,h0,h1,h2⟩:=hx
     exact⟨v,_,.inr (.inr ⟨hg,by unfold dL;rw[hE,hcv];simp,h1,by rw[jq],fun _ _=>by rw[jq];exact h0⟩),h2⟩
    ·rename_i hE0 hE1
     obtain⟨S',v,h1,h2⟩:=hx
     have h3:2≤E o.op:=by
      rcases Nat.lt_or_ge (E o.op) 2 with h|h
      ·exfalso
       have:E o.op=0∨E o.op=1:=by omega
       exact this.elim hE0 hE1
      ·exact h
     exact⟨v,_,.inr (.inr ⟨hg,by unfold dL;rw[hcv,Bool.and_true,Bool.or_eq_true,decide_eq_true_eq];exact .inr (by omega),h1,by rw[jq],fun _ h=>by
      unfold jh at h
      rw[hcv,Bool.and_true,Bool.or_eq_false_iff,decide_eq_false_iff_not] at h
      exact absurd h3 h.2⟩),h2⟩
   ·rename_i hne
    refine⟨_,_,.inr (.inl ⟨hg,?_,.inr ⟨hx.1,rfl⟩,rfl⟩),hx.2⟩
    have:gT o.op=false:=by
     cases hc:gT o.op with
     |false=>rfl
     |true=>
      exfalso
      unfold gT at hc
      split at hc
      ·rename_i x a b ho;exact hne _ _ _ ho
      ·cases hc
    unfold dL;rw[hD',this];simp
 unfold lG at h
 split at h
 ·rename_i hg;exact hN (by simp only[gd,hg]) h
 ·rename_i j want hg
  split at h
  ·rename_i x hx
   by_cases e:x=want
   ·exact hN (by simp only[gd,hg,hx,e,beq_self_eq_true]) (h.1 e)
   ·exact⟨.dw [],_,.inl ⟨by simp only[gd,hg,hx];simp[e],rfl,rfl⟩,h.2 (by cases x<;>cases want<;>simp_all)⟩
  ·rename_i hx
   exact⟨.dw [],_,.inl ⟨by simp only[gd,hg,hx],rfl,rfl⟩,h⟩
  ·exact h.elim
theorem BG{F:Oper→St→St→Prop}{D:List Oper→St→Prop}{K:St→Prop}(hnil:∀s,D [] s→K s)(aao:∀o os s,D (o::os) s→∃v s',jR P E R o s v s'∧F o s s'∧D os s'):∀(n k:Nat),k+n=R.size→∀s,D (R.toList.drop k) s→
 ∃(st:Nat→St) (vs:Nat→V),st k=s∧K (st R.size)∧∀i,k≤i→i<R.size→∃o,R[i]? =some o∧jR P E R o (st i) (vs i) (st (i+1))∧F o (st i) (st (i+1))
 |0,k,hk,s,h=>by
  have:R.toList.drop k=[]:=by apply List.drop_eq_nil_of_le;simp;omega
  rw[this] at h
  exact⟨fun _=>s,fun _=>.any,rfl,hnil s h,fun i h1 h2=>by omega⟩
 |n+1,k,hk,s,h=>by
  have hlt:k<R.toList.length:=by simp;omega
  rw[List.drop_eq_getElem_cons hlt] at h
  have hRk:R[k]? =some R.toList[k]:=by
   rw[Array.getElem?_eq_getElem (by omega)];simp
  obtain⟨v,s',ht,hf,hd⟩:=aao _ _ s h
  obtain⟨st,vs,h1,h2,h3⟩:=BG hnil aao n (k+1) (by omega) s' hd
  refine⟨fun i=>if i=k then s else st i,fun i=>if i=k then v else vs i,by simp,?_,fun i hi1 hi2=> ?_⟩
  ·have:R.size≠k:=by omega
   simp only[if_neg this];exact h2
  ·by_cases e:i=k
   ·subst e
    refine⟨_,hRk,?_⟩
    simp only[if_true]
    have:i+1≠i:=by omega
    simp only[if_neg this,h1]
    exact⟨ht,hf⟩
   ·obtain⟨o,ho,ht'⟩:=h3 i (by omega) hi2
    refine⟨o,ho,?_⟩
    have:i+1≠k:=by omega
    simp only[if_neg e,if_neg this]
    exact ht'
theorem EC{K:St→Prop}(n k:Nat)(hk:k+n=R.size)(s:St)(h:pq P E R (R.toList.drop k) s K):
 ∃(st:Nat→St) (vs:Nat→V),st k=s∧K (st R.size)∧∀i,k≤i→i<R.size→∃o,R[i]? =some o∧jR P E R o (st i) (vs i) (st (i+1)):=by
 obtain⟨st,vs,h1,h2,h3⟩:=BG (F:=fun _ _ _=>True) (D:=fun os s=>pq P E R os s K) (fun _ h=>h) (fun o os s h=>by
  obtain⟨v,s',a,b⟩:=D9 h
  exact⟨v,s',a,trivial,b⟩) n k hk s h
 exact⟨st,vs,h1,h2,fun i a b=>by
  obtain⟨o,c,d,_⟩:=h3 i a b
  exact⟨o,c,d⟩⟩
theorem XW{o:Oper}{s s':St}{v:V}(h:jR P E R o s v s'):s'=St.put ⟨s.tm,s'.st⟩ o.dst v:=by
 rcases h with⟨_,_,h⟩|⟨_,_,_,h⟩|⟨_,_,_,h,_⟩
 ·rw[h];cases o.dst<;>rfl
 ·rw[h];cases o.dst<;>rfl
 ·exact h
theorem XY{o:Oper}{s s':St}{v:V}(h:jR P E R o s v s')(hD:dL E o.op=false):s'.st=s.st:=by
 rcases h with⟨_,_,h⟩|⟨_,_,_,h⟩|⟨_,h,_,_⟩
 ·rw[h];cases o.dst<;>rfl
 ·rw[h];cases o.dst<;>rfl
 ·rw[hD] at h;cases h
theorem uZ{st:Nat→St}{vs:Nat→V}(h:∀i,i<R.size→∃o,R[i]? =some o∧jR P E R o (st i) (vs i) (st (i+1)))(t:Nat):∀i,i≤R.size→look (st i).tm t=jd R vs (fun _=>true) (st 0).tm i t
 |0,_=>rfl
 |i+1,hi=>by
  obtain⟨o,ho,ht⟩:=h i (by omega)
  have e:=XW ht
  have ih:=uZ h t i (by omega)
  rw[jd,←ih]
  have hdst:dZ R i=o.dst:=by simp[dZ,ho]
  rw[hdst,e]
  cases hd:o.dst with
  |none=>simp[St.put]
  |some d=>
   simp only[St.put,look,true_and,Option.some.injEq]
theorem DS.refl(S:Store):DS S S:=fun _ _ h=>.inl h
theorem DS.trans{S1 S2 S3:Store}(h:DS S1 S2)(k:DS S2 S3):DS S1 S3:=by
 intro x o hx
 rcases h x o hx with h1|⟨h1,o',z,es,h2,h2'⟩
 ·exact k x o h1
 ·rcases k x _ h2 with h3|⟨_,h3⟩
  ·exact .inr ⟨h1,o',z,es,h3,h2'⟩
  ·exact .inr ⟨h1,h3⟩
theorem DS.push{own:List Obj}{Ω:Store}{o:Obj}:DS (own::Ω) ((own++[o])::Ω):=fun k o' h=>.inl (gV _ _ _ _ _ h)
theorem pV{dst:Option Nat}{o:Obj}{mk:Key→V}{s':St}(h:newObj s dst o mk (fun t=>t=s')):DS s.st s'.st:=by
 unfold newObj at h
 split at h
 ·rename_i own Ω hst
  rw[←h,jq,hst]
  exact DS.push
 ·exact h.elim
theorem aaR{l:Option Nat}{es x:List (List D)}{z:Nat}{dst:Option Nat}{s':St}(h:wZ l es s dst z x (fun t=>t=s')):DS s.st s'.st:=by
 cases l with
 |none=>exact pV (o:=.tok z x) (mk:=fun k=>.c (.bQ k x)) h
 |some n=>
  cases es with
  |nil=>
   have h:St.put ⟨s.tm,s.st⟩ dst (.c (.d (.ol n x)))=s':=h
   rw[←h,jq]
   exact DS.refl _
  |cons y es=>exact pV (o:=.tok z x) (mk:=fun k=>.c (.bQ k x)) h
theorem aaS{b:Bool}{n:Nat}{x:List (List D)}{z:Nat}{dst:Option Nat}{s':St}(h:yO b n s dst z x (fun t=>t=s')):DS s.st s'.st:=by
 cases b with
 |false=>exact pV (o:=.dW n z x) (mk:=fun k=>.c (.bQ k x)) h
 |true=>
  have h:St.put ⟨s.tm,s.st⟩ dst (.c (.d (.ol n x)))=s':=h
  rw[←h,jq]
  exact DS.refl _
theorem XZ{o:Oper}{s s':St}(hD:ng o.op=true)(hs:tV o.op=false)(h:bq P o s (fun t=>t=s')):DS s.st s'.st:=by
 obtain⟨dst,op,ty,pos,after,guard⟩:=o
 cases op with
 |alloc t=>
  simp only[bq,pO] at h
  split at h
  ·exact pV h
  ·exact h.elim
 |box t x=>
  simp only[bq,wY] at h
  split at h
  ·exact pV h
  ·exact h.elim
 |makeSlice t l c=>
  simp only[bq,sD] at h
  split at h
  ·split at h
   ·exact pV h.2.2.2.2.2
   ·exact h.elim
  ·exact h.elim
 |store t x y=>simp[tV] at hs
 |mapUpdate t x y z=>simp[tV] at hs
 |makeMap t r=>
  cases r with
  |none=>
   simp only[bq,oK] at h
   exact pV h
  |some r=>simp[ng] at hD
 |call c=>
  obtain⟨uV,args,sG⟩:=c
  cases uV with
  |builtin b=>
   cases b with
   |append=>
    simp only[bq,kr] at h
    split at h
    ·simp only[mZ] at h
     split at h
     ·obtain⟨h1,h2,h3,h4⟩:=h
      split at h4
      ·rename_i k es hex
       split at h4
       ·rename_i z es' hk
        obtain⟨k1,k2,k3,k4⟩:=h4
        rw[←k4,jq]
        intro k' o' ho'
        by_cases e:k'=k
        ·subst e
         rw[hk] at ho';cases ho'
         exact .inr ⟨⟨_,_,.inl rfl⟩,_,_,_,bT _ _ _ _ hk,.inl rfl⟩
        ·exact .inl ((cO _ _ _ _ (Ne.symm e)).trans ho')
       ·rename_i n z es' hk
        obtain⟨k1,k2,k3,k4⟩:=h4
        rw[←k4,jq]
        intro k' o' ho'
        by_cases e:k'=k
        ·subst e
         rw[hk] at ho';cases ho'
         exact .inr ⟨⟨_,_,.inr ⟨_,rfl⟩⟩,_,_,_,bT _ _ _ _ hk,.inr ⟨_,rfl⟩⟩
        ·exact .inl ((cO _ _ _ _ (Ne.symm e)).trans ho')
       ·exact h4.elim
      ·exact aaR h4.2.2
      ·exact aaS h4.2.2
      ·exact h4.elim
     ·exact h.elim
    ·exact h.elim
   |_=>simp[ng] at hD
  |_=>simp[ng] at hD
 |_=>simp[ng] at hD
theorem X0{o:Oper}{s s':St}{v:V}(h:jR P E R o s v s')(hs:jh E o.op=false):DS s.st s'.st:=by
 rcases h with⟨_,_,h⟩|⟨_,_,_,h⟩|⟨_,hD,h,_,hc⟩
 ·rw[h];cases o.dst<;>exact DS.refl _
 ·rw[h];cases o.dst<;>exact DS.refl _
 ·cases hd:ng o.op with
  |true=>exact XZ hd (by unfold jh at hs;rw[Bool.or_eq_false_iff] at hs;exact hs.1) h
  |false=>exact hc hd hs
theorem zl{st:Nat→St}{vs:Nat→V}(h:∀i,i<R.size→∃o,R[i]? =some o∧jR P E R o (st i) (vs i) (st (i+1))){i:Nat}:∀(m:Nat),i+m≤R.size→(∀j o,i≤j→j<i+m→R[j]? =some o→dL E o.op=false)→(st (i+m)).st=(st i).st
 |0,_,_=>rfl
 |m+1,hm,hj=>by
  obtain⟨o,ho,ht⟩:=h (i+m) (by omega)
  rw[show i+(m+1)=i+m+1 from rfl,XY ht (hj _ o (by omega) (by omega) ho)]
  exact zl h m (by omega) (fun j o h1 h2 h3=>hj j o h1 (by omega) h3)
def KS(k:Key)(S S':Store):Prop:=∀o,aJ S k=some o→aJ S' k=some o∨((∃z es,nO o z es)∧∃o' z es,aJ S' k=some o'∧nO o' z es)
theorem KS.trans{k:Key}{S1 S2 S3:Store}(h:KS k S1 S2)(h':KS k S2 S3):KS k S1 S3:=by
 intro o hx
 rcases h o hx with h1|⟨h1,o',z,es,h2,h2'⟩
 ·exact h' o h1
 ·rcases h' _ h2 with h3|⟨_,h3⟩
  ·exact .inr ⟨h1,o',z,es,h3,h2'⟩
  ·exact .inr ⟨h1,h3⟩
theorem Rz{st:Nat→St}{vs:Nat→V}(h:∀i,i<R.size→∃o,R[i]? =some o∧jR P E R o (st i) (vs i) (st (i+1))){i:Nat}{k:Key}:∀(m:Nat),i+m≤R.size→
 (∀j o,i≤j→j<i+m→R[j]? =some o→jh E o.op=false∨aJ (st (j+1)).st k=aJ (st j).st k)→KS k (st i).st (st (i+m)).st
 |0,_,_=>fun _ hx=>.inl hx
 |m+1,hm,hj=>by
  obtain⟨o,ho,ht⟩:=h (i+m) (by omega)
  refine(Rz h m (by omega) (fun j o h1 h2 h3=>hj j o h1 (by omega) h3)).trans ?_
  rcases hj _ o (by omega) (by omega) ho with hs|hs
  ·exact X0 ht hs k
  ·intro x hx
   exact .inl (hs.trans hx)
theorem cnt_lt(p q:Nat→Bool):∀(l:List Nat) (i:Nat),(∀x,q x=true→p x=true)→i∈l→p i=true→q i=false→l.countP q<l.countP p
 |[],_,_,h,_,_=>by simp at h
 |x::l,i,h,hi,hp,hq=>by
  rw[List.countP_cons,List.countP_cons]
  have hle:l.countP q≤l.countP p:=List.countP_mono_left (fun y _ hy=>h y hy)
  rcases List.mem_cons.1 hi with rfl|hi
  ·rw[hp,hq];simp;omega
  ·have ih:=cnt_lt p q l i h hi hp hq
   by_cases hx:q x=true
   ·rw[hx,h x hx];simp;exact ih
   ·have:q x=false:=by simpa using hx
    rw[this];simp
    split<;>omega
end
end Go.Ab
namespace Go.Ab
section
variable {P:Program} {E:Md} {N:Nat} {R:Array Oper}
def kD(E:Md)(R:Array Oper)(p:Nat)(listed:Array Bool):Prop:=listed.getD p false=true∧p<R.size∧∃j x,j<p∧R[j]? =some x∧dL E x.op=true∧listed.getD j false=false
def Raw(P:Program)(R:Array Oper)(p:Nat)(w0 w:World)(σ:Nat→Nat)(S:Store)(β:Hs)(v:Value):Prop:=
 ∃b c ty,v=.pointer (some ⟨b,0,none⟩)∧w.heap[b]? =some (.cells c ty (0,0))∧σ b=0∧w0.heap.size≤b∧¬Own S β b∧
  ∀o t zs,R[p]? =some o→o.op=.alloc t→gH P t=some zs→∀w σ S β,dR w σ S β zs c.toList
open Classical in
noncomputable def pF(E:Md)(R:Array Oper)(p:Nat)(vs:Nat→V)(listed:Array Bool)(base:List (Nat×V))(t:Nat):V:=
 if kD E R p listed∧dZ R p=some t then .any else jd R vs (fun i=>listed.getD i false) base R.size t
structure Mid (P:Program) (N:Nat) (E:Md) (R:Array Oper) (p:Nat) (st:Nat→St) (vs:Nat→V) (β0:Hs) (σ0:Nat→Nat) (w0:World) (listed:Array Bool) (a:Act) (w:World):Prop where
 size:listed.size=R.size
 closed:∀i o e,R[i]? =some o→listed.getD i false=true→e∈o.after→Region.binds .any e=true→listed.getD e.on false=true
 rep:∃m,m≤R.size∧(∀i o,R[i]? =some o→dL E o.op=true→(i=p→¬kD E R p listed)→(listed.getD i false=true↔i<m))∧∃σ β,a.tmps.size=N∧a.defers=[]∧cB w σ (st m).st β∧
  (∀t,bF w σ (st m).st β (pF E R p vs listed (st 0).tm t) (a.tmps.getD t undef))∧Step (st 0).st β0 σ0 w0 (st m).st β σ w∧Keep (st 0).st β0 (st m).st β∧
  (kD E R p listed→m≤p∧∀d,dZ R p=some d→Raw P R p w0 w σ (st m).st β (a.tmps.getD d undef))
theorem AY{o:Oper}{x:Operand}{t:Nat}(hx:x∈o.op.operands)(e:x=.tmp t):t∈o.looksAt R:=by
 subst e
 exact List.mem_append_left _ (List.mem_filterMap.2 ⟨.tmp t,by simpa using hx,rfl⟩)
theorem OB{o:Oper}{g d:Nat}{want:Bool}(hg:o.guard=some (g,want))(hd:dZ R g=some d):d∈o.looksAt R:=by
 refine List.mem_append_right _ ?_
 rw[hg]
 show d∈((R[g]?).bind (·.dst)).toList
 unfold dZ at hd
 rw[hd];simp
theorem xu(h:uW E R N=true){i j:Nat}{x y:Oper}(hij:i<j)(hx:R[i]? =some x)(hy:R[j]? =some y)(hc:clash E R x y=true):((masks R.toList []).getD j 0).testBit i=true:=by
 have hj:j<R.size:=(Array.getElem?_eq_some_iff.1 hy).1
 have h1:=List.all_eq_true.1 h j (List.mem_range.2 hj)
 rw[Bool.and_eq_true] at h1
 have h2:=List.all_eq_true.1 h1.2 i (List.mem_range.2 hij)
 rw[hx,hy] at h2
 simp only[hc,Bool.not_true,Bool.or_false] at h2
 exact h2
theorem L6(h:uW E R N=true){i:Nat}{o:Oper}{e:Edge}(ho:R[i]? =some o)(he:e∈o.after)(hb:Region.binds .any e=true):e.on<i:=by
 have hj:i<R.size:=(Array.getElem?_eq_some_iff.1 ho).1
 have h1:=List.all_eq_true.1 h i (List.mem_range.2 hj)
 rw[Bool.and_eq_true,ho] at h1
 have h2:=h1.1
 simp only[Bool.and_eq_true] at h2
 have h3:=List.all_eq_true.1 h2.1 e (by simpa using he)
 simpa [hb] using h3
theorem OC(h:uW E R N=true){i:Nat}{o:Oper}(ho:R[i]? =some o):∀d,o.dst=some d→d<N:=by
 intro d hd
 have hj:i<R.size:=(Array.getElem?_eq_some_iff.1 ho).1
 have h1:=List.all_eq_true.1 h i (List.mem_range.2 hj)
 rw[Bool.and_eq_true,ho] at h1
 have h2:=h1.1
 simp only[Bool.and_eq_true,hd] at h2
 simpa using h2.2
theorem RA{x y:Oper}:x.apart R y=y.apart R x:=by
 rw[Bool.eq_iff_iff]
 have key:∀x y:Oper,x.apart R y=true→y.apart R x=true:=fun x y h=>by
  obtain⟨h1,h2,h3⟩:=Oper.apart_spec h
  unfold Oper.apart
  cases hx:x.dst<;>cases hy:y.dst<;>simp
  ·rename_i d;exact h3 d hy
  ·rename_i d;exact h1 d hx
  ·rename_i d d'
   exact⟨⟨h3 d' hy,fun e=>h2 d hx (by rw[hy,e])⟩,h1 d hx⟩
 exact⟨key x y,key y x⟩
theorem OD{x y:Oper}:jX E R x y=jX E R y x:=by
 unfold jX
 rw[RA,Bool.and_comm (dL E x.op)]
def RB:Op→Bool
 | .move _=>true
 |_=>false
theorem X3{P:Program}{l:Option Nat}{S S':Store}{tm:List (Nat×V)}{op:Op}(h:RB op=true):kg P l S' tm op=kg P l S tm op:=by
 cases op<;>first|rfl|cases h
def refs(tm:List (Nat×V))(o:Oper)(k:Key):Prop:=RB o.op=false∧∃x∈o.op.operands,Dn (ev tm x) k
structure Jz (E:Md) (R:Array Oper) (N:Nat) (st:Nat→St) (p:Nat):Prop where
 edge:∀(i:Nat) (o:Oper) (e:Edge),R[i]? =some o→e∈o.after→Region.binds .any e=true→e.on<i
 dst:∀(i:Nat) (o:Oper),R[i]? =some o→∀d,o.dst=some d→d<N
 pair:∀(i j:Nat) (x y:Oper),i<j→R[i]? =some x→R[j]? =some y→jX E R x y=true→((masks R.toList []).getD j 0).testBit i=true∨(j=p∧dL E x.op=true∧x.apart R y=true)
 store:∀(i j:Nat) (x o:Oper),i≠j→R[i]? =some x→R[j]? =some o→jh E x.op=true→dL E o.op=false→gT o.op=false→
  nT R i j=true∨∀k,refs (st j).tm o k→aJ (st (i+1)).st k=aJ (st i).st k
 pend:∀o,R[p]? =some o→tX o.op=true∧o.guard=none∧(∃d,o.dst=some d)∧∀j y,j≠p→R[j]? =some y→y.apart R o=false→∀i x,i<p→R[i]? =some x→dL E x.op=true→i<j∧((masks R.toList []).getD j 0).testBit i=true
theorem acE{st:Nat→St}(h:uW E R N=true):Jz E R N st R.size where
 edge:=fun i o e h1 h2 h3=>L6 h h1 h2 h3
 dst:=fun i o h1=>OC h h1
 pair:=fun i j x y hij hx hy hc=>.inl (xu h hij hx hy (by
  unfold jX at hc
  unfold clash
  rw[hc];rfl))
 store:=fun i j x o hij hx ho hs hD hc=>.inl (by
  unfold nT
  by_cases e:i<j
  ·rw[if_pos e]
   exact xu h e hx ho (by unfold clash;rw[hs];simp)
  ·rw[if_neg e]
   exact xu h (show j<i by omega) ho hx (by unfold clash;rw[hs];simp))
 pend:=fun o ho=>by rw[Array.getElem?_eq_none (Nat.le_refl _)] at ho;cases ho
theorem Qp{p:Nat}(h:BA E R p=true):∀o,R[p]? =some o→tX o.op=true∧o.guard=none∧(∃d,o.dst=some d)∧∀j y,j≠p→R[j]? =some y→y.apart R o=false→∀i x,i<p→R[i]? =some x→dL E x.op=true→i<j∧((masks R.toList []).getD j 0).testBit i=true:=by
 intro o ho
 unfold BA at h
 rw[ho] at h
 simp only[Bool.and_eq_true] at h
 obtain⟨⟨⟨h1,h2⟩,h3⟩,h4⟩:=h
 refine⟨h1,by simpa using h2,Option.isSome_iff_exists.1 h3,fun j y hj hy hap i x hi hx hD=> ?_⟩
 have hjl:j<R.size:=(Array.getElem?_eq_some_iff.1 hy).1
 have h5:=List.all_eq_true.1 h4 j (List.mem_range.2 hjl)
 rw[hy] at h5
 simp only[hap,hj,decide_false,Bool.false_or] at h5
 have h6:=List.all_eq_true.1 h5 i (List.mem_range.2 hi)
 rw[hx] at h6
 simpa [hD] using h6
theorem pW{o:Oper}(h:tX o.op=true):dL E o.op=true∧jh E o.op=false∧gT o.op=false:=by
 obtain⟨dst,op,ty,pos,after,guard⟩:=o
 cases op<;>simp_all[tX,dL,ng,jh,tV,gT]
theorem aaT{st:Nat→St}{p:Nat}(h0:zk E R N p=true):Jz E R N st p:=by
 unfold zk at h0
 rw[Bool.and_eq_true] at h0
 obtain⟨hp,h⟩:=h0
 have tF:=Qp hp
 have hpr:∀(i j:Nat) (x y:Oper),i<j→R[i]? =some x→R[j]? =some y→((masks R.toList []).getD j 0).testBit i=true∨(x.apart R y=true∧(j=p∨((dL E x.op&&dL E y.op)=false∧jh E x.op=false∧jh E y.op=false))):=by
  intro i j x y hij hx hy
  have hj:j<R.size:=(Array.getElem?_eq_some_iff.1 hy).1
  have h1:=List.all_eq_true.1 h j (List.mem_range.2 hj)
  rw[Bool.and_eq_true] at h1
  have h2:=List.all_eq_true.1 h1.2 i (List.mem_range.2 hij)
  rw[hx,hy] at h2
  simp only[UU] at h2
  rw[Bool.or_eq_true] at h2
  rcases h2 with h2|h2
  ·exact .inl h2
  ·right
   rw[Bool.not_eq_true',Bool.or_eq_false_iff,Bool.not_eq_false'] at h2
   refine⟨h2.1,?_⟩
   by_cases e:j=p
   ·exact .inl e
   ·right
    have h3:=h2.2
    simp only[e,decide_false,Bool.not_false,Bool.true_and,Bool.or_eq_false_iff] at h3
    exact⟨h3.1.1,h3.1.2,h3.2⟩
 refine⟨?_,?_,?_,?_,tF⟩
 ·intro i o e ho he hb
  have hj:i<R.size:=(Array.getElem?_eq_some_iff.1 ho).1
  have h1:=List.all_eq_true.1 h i (List.mem_range.2 hj)
  rw[Bool.and_eq_true,ho] at h1
  have h2:=h1.1
  simp only[Bool.and_eq_true] at h2
  have h3:=List.all_eq_true.1 h2.1 e (by simpa using he)
  simpa [hb] using h3
 ·intro i o ho d hd
  have hj:i<R.size:=(Array.getElem?_eq_some_iff.1 ho).1
  have h1:=List.all_eq_true.1 h i (List.mem_range.2 hj)
  rw[Bool.and_eq_true,ho] at h1
  have h2:=h1.1
  simp only[Bool.and_eq_true,hd] at h2
  simpa using h2.2
 ·intro i j x y hij hx hy hc
  rcases hpr i j x y hij hx hy with h1|⟨h1,h2⟩
  ·exact .inl h1
  ·rcases h2 with h2|⟨h2,_,_⟩
   ·right
    unfold jX at hc
    rw[h1] at hc
    simp only[Bool.not_true,Bool.false_or,Bool.and_eq_true] at hc
    exact⟨h2,hc.1,h1⟩
   ·unfold jX at hc
    rw[h1,h2] at hc
    cases hc
 ·intro i j x o hij hx ho hs hD hc
  have hjp:j≠p:=fun e=>by
   subst e
   have:=(pW (E:=E) (tF o ho).1).1
   rw[hD] at this;cases this
  have JA:i≠p:=fun e=>by
   subst e
   have:=(pW (E:=E) (tF x hx).1).2.1
   rw[hs] at this;cases this
  left
  unfold nT
  by_cases e:i<j
  ·rw[if_pos e]
   rcases hpr i j x o e hx ho with h1|⟨_,h2⟩
   ·exact h1
   ·rcases h2 with h2|⟨_,h2,_⟩
    ·exact absurd h2 hjp
    ·rw[hs] at h2;cases h2
  ·rw[if_neg e]
   rcases hpr j i o x (by omega) ho hx with h1|⟨_,h2⟩
   ·exact h1
   ·rcases h2 with h2|⟨_,_,h2⟩
    ·exact absurd h2 JA
    ·rw[hs] at h2;cases h2
theorem Oper.UW{o:Oper}{a:Act}{w:World}{K:Act→World→Prop}{Q:Exit→Act→World→Prop}(hh:o.wp P a w K Q):o.wp P a w (fun a' w'=>K a' w'∧∀d,o.dst≠some d→a'.tmps.getD d undef=a.tmps.getD d undef) Q:=by
 have key:∀(ds:List Deferred) (v:Value) (d:Nat),o.dst≠some d→(({a with defers:=ds}:Act).put o.dst v).tmps.getD d undef=a.tmps.getD d undef:=by
  intro ds v d hd
  cases ho:o.dst with
  |none=>rfl
  |some e=>
   have hne:e≠d:=fun x=>hd (by rw[ho,x])
   simp only[Act.put,Array.getD_eq_getD_getElem?]
   rw[Array.getElem?_setIfInBounds_ne hne]
 unfold Oper.wp at *
 generalize (execOp a.eval o).run P w=r at *
 cases r with
 |ok n w'=>
  cases n<;>simp only[Oper.upon] at hh ⊢ <;>
   first
    |exact⟨hh,fun d hd=>key _ _ d hd⟩
    |exact Calls.mono hh (fun e w'' he=>by cases e<;>first|exact⟨he,fun d hd=>key _ _ d hd⟩|exact he)
    |exact Rows.mono hh (fun _ _ he=>⟨he,fun d hd=>key _ _ d hd⟩)
 |halt x w'=>cases x<;>simp only[Oper.upon] at hh ⊢ <;>exact hh
theorem pX{a:Act}{dst:Option Nat}{v:Value}{d:Nat}(h:dst≠some d):(a.put dst v).tmps.getD d undef=a.tmps.getD d undef:=by
 cases dst with
 |none=>rfl
 |some e=>
  have hne:e≠d:=fun x=>h (by rw[x])
  simp only[Act.put,Array.getD_eq_getD_getElem?]
  rw[Array.getElem?_setIfInBounds_ne hne]
theorem X4{t:TypeId}{zs:List C}(h:gH P t=some zs):∃z:Value,(∀w,(zeroValue t).run P w=.ok z w)∧∀w σ S β,dR w σ S β zs z.cells.toList:=by
 unfold gH at h
 cases hi:P.info? t with
 |none=>rw[hi] at h;cases h
 |some i=>
  rw[hi] at h
  cases hz:i.zero with
  |none=>simp[hz] at h
  |some z=>
   simp only[Option.bind_some,hz] at h
   split at h
   ·rename_i hall
    cases h
    refine⟨z,fun w=>by simp[zeroValue,typeInfo,hi,hz],fun w σ S β=>⟨by simp,fun j x hx=> ?_⟩⟩
    rw[List.getElem?_map] at hx
    cases hv:z.cells.toList[j]? with
    |none=>rw[hv] at hx;cases hx
    |some v=>
     rw[hv] at hx;cases hx
     exact⟨v,rfl,wh _ _ _ _ _,List.all_eq_true.1 hall v (List.mem_of_getElem? hv)⟩
   ·cases h
theorem X5{w w0:World}{σ σ0:Nat→Nat}{S0:Store}{β0:Hs}{own:List Obj}{Ω:Store}{β:Hs}{zs:List C}{b:Nat}{c:Array Value}{ty:TypeId}(hS:cB w σ (own::Ω) β)(hst:Step S0 β0 σ0 w0 (own::Ω) β σ w)(hb:w.heap[b]? =some (.cells c ty (0,0)))(hσ:σ b=0)
 (h0:w0.heap.size≤b) (hno:¬Own (own::Ω) β b) (hz:∀w σ S β,dR w σ S β zs c.toList):
 ∃bo bΩ,β=bo::bΩ∧bo.length=own.length∧cB w σ ((own++[.box zs])::Ω) ((bo++[Value.pointer (some ⟨b,0,none⟩)])::bΩ)∧Keep (own::Ω) β ((own++[.box zs])::Ω) ((bo++[Value.pointer (some ⟨b,0,none⟩)])::bΩ)∧
  Step S0 β0 σ0 w0 ((own++[.box zs])::Ω) ((bo++[Value.pointer (some ⟨b,0,none⟩)])::bΩ) σ w:=by
 cases β with
 |nil=>have:=hS.shape.1;simp at this
 |cons bo bΩ=>
 have hlen:bo.length=own.length:=by
  obtain⟨gr,g1,g2⟩:=hS.shape.2 0 own rfl
  simp at g1;rw[g1];exact g2
 refine⟨bo,bΩ,rfl,hlen,?_⟩
 have hkeep:Keep (own::Ω) (bo::bΩ) ((own++[.box zs])::Ω) ((bo++[Value.pointer (some ⟨b,0,none⟩)])::bΩ):=by
  intro k o1 h1
  obtain⟨h2,qC,_⟩:=hS.obj k o1 h1
  exact⟨o1,gV _ _ _ _ _ h1,by rw[gV _ _ _ _ _ qC,qC];exact .refl _ _⟩
 have hinv:∀k o1 h1,aJ ((own++[Obj.box zs])::Ω) k=some o1→aJ ((bo++[Value.pointer (some ⟨b,0,none⟩)])::bΩ) k=some h1→
  (aJ (own::Ω) k=some o1∧aJ (bo::bΩ) k=some h1)∨(k=(0,own.length)∧o1=.box zs∧h1=Value.pointer (some ⟨b,0,none⟩)):=by
  intro k o1 h1 e1 e2
  rcases jc _ _ _ _ _ e1 with e1|⟨rfl,rfl⟩
  ·left
   refine⟨e1,?_⟩
   rcases jc _ _ _ _ _ e2 with e2|⟨rfl,rfl⟩
   ·exact e2
   ·rw[aR,hlen] at e1
    have:=(List.getElem?_eq_some_iff.1 e1).1
    omega
  ·right
   rw[←hlen,bE] at e2
   exact⟨rfl,rfl,(Option.some.inj e2).symm⟩
 have hown:∀x,Own ((own++[Obj.box zs])::Ω) ((bo++[Value.pointer (some ⟨b,0,none⟩)])::bΩ) x→Own (own::Ω) (bo::bΩ) x∨x=b:=by
  rintro x ⟨k,o,h,e1,e2,e3⟩
  rcases hinv k o h e1 e2 with⟨f1,f2⟩|⟨rfl,rfl,rfl⟩
  ·exact .inl ⟨k,o,h,f1,f2,e3⟩
  ·right;cases e3;rfl
 have hmono:∀k o h,aJ (own::Ω) k=some o→aJ (bo::bΩ) k=some h→eY w σ ((own::Ω).drop k.1) ((bo::bΩ).drop k.1) o h→eY w σ (((own++[Obj.box zs])::Ω).drop k.1) (((bo++[Value.pointer (some ⟨b,0,none⟩)])::bΩ).drop k.1) o h:=
  fun k o h _ _ hr=>hr.mono (bR.refl _ _) (hkeep.drop _) fun x _=>⟨rfl,rfl⟩
 refine⟨⟨?_,?_,⟨?_,?_⟩,hS.live,hS.mY⟩,hkeep,⟨hst.size,hst.os,hst.output,fun x hx hn=>hst.far x hx hn,hst.near,fun x hx=> ?_⟩⟩
 ·intro k o1 h1
  rcases jc _ _ _ _ _ h1 with h1|⟨rfl,rfl⟩
  ·obtain⟨h2,qC,hr⟩:=hS.obj k o1 h1
   exact⟨h2,gV _ _ _ _ _ qC,hmono k o1 h2 h1 qC hr⟩
  ·exact⟨Value.pointer (some ⟨b,0,none⟩),by rw[←hlen,bE],b,c,ty,rfl,hb,hσ,hz _ _ _ _⟩
 ·intro k k' o1 o2 h1 h2 x e1 e2 e3 e4 e5 e6
  rcases hinv k o1 h1 e1 e2 with⟨f1,f2⟩|⟨rfl,rfl,rfl⟩
  ·rcases hinv k' o2 h2 e4 e5 with⟨g1,g2⟩|⟨rfl,rfl,rfl⟩
   ·exact hS.apart _ _ _ _ _ _ _ f1 f2 e3 g1 g2 e6
   ·cases e6;exact absurd ⟨k,o1,h1,f1,f2,e3⟩ hno
  ·rcases hinv k' o2 h2 e4 e5 with⟨g1,g2⟩|⟨rfl,rfl,rfl⟩
   ·cases e3;exact absurd ⟨k',o2,h2,g1,g2,e6⟩ hno
   ·rfl
 ·have:=hS.shape.1;simpa using this
 ·intro l fr hl
  cases l with
  |zero=>simp at hl;subst hl;exact⟨_,rfl,by simp[hlen]⟩
  |succ l=>exact hS.shape.2 (l+1) fr (by simpa using hl)
 ·rcases hown x hx with h|h
  ·exact hst.own x h
  ·subst h;exact .inr h0
theorem FL{st:Nat→St}{vs:Nat→V}{p:Nat}{o:Oper}{d:Nat}{t:TypeId}(ht:jR P E R o (st p) (vs p) (st (p+1)))(hop:o.op=.alloc t)(hg:o.guard=none)(hd:o.dst=some d):
 ∃zs own Ω,gH P t=some zs∧(st p).st=own::Ω∧(st (p+1)).st=(own++[.box zs])::Ω∧vs p=.c (.ptr (0,own.length) 0):=by
 have hgd:gd R o (st p).tm=some true:=by unfold gd;rw[hg]
 rcases ht with⟨h1,_,_⟩|⟨_,hD,_,_⟩|⟨_,hD,hx,hs',_⟩
 ·rw[hgd] at h1;cases h1
 ·rw[(pW (E:=E) (o:=o) (by rw[hop];rfl)).1] at hD;cases hD
 ·obtain⟨dst,op,ty,pos,after,guard⟩:=o
  simp only at hop hd;subst hop;subst hd
  unfold bq pO at hx
  simp only at hx
  cases hz:gH P t with
  |none=>rw[hz] at hx;exact hx.elim
  |some zs=>
   rw[hz] at hx
   generalize st (p+1)=s1 at *
   generalize st p=s0 at *
   obtain⟨tm,S⟩:=s0
   simp only[newObj] at hx
   cases S with
   |nil=>exact hx.elim
   |cons own Ω=>
    subst hx
    refine⟨zs,own,Ω,rfl,rfl,rfl,?_⟩
    simp only[St.put,St.mk.injEq,List.cons.injEq,Prod.mk.injEq,and_true,true_and] at hs'
    exact hs'.symm
theorem mid_step{st:Nat→St}{vs:Nat→V}{β0:Hs}{σ0:Nat→Nat}{w0:World}{Q:Exit→Act→World→Prop}{p:Nat}(hok:Jz E R N st p)
 (hT:∀i,i<R.size→∃o,R[i]? =some o∧jR P E R o (st i) (vs i) (st (i+1))) {listed:Array Bool} {a:Act} {w:World} (hM:Mid P N E R p st vs β0 σ0 w0 listed a w) {i:Nat} (hi:i∈Region.ready .any R listed):
 wpOp P R Q i (fun a' w'=>Mid P N E R p st vs β0 σ0 w0 (listed.setIfInBounds i true) a' w') a w:=by
 obtain⟨hun,o,ho,BH⟩:=mem_ready.1 hi
 have hlt:i<R.size:=(Array.getElem?_eq_some_iff.1 ho).1
 obtain⟨o',ho',ht⟩:=hT i hlt
 rw[ho] at ho';cases ho'
 have sM:listed.getD i false=false:=by
  have hs:i<listed.size:=by rw[hM.size];exact hlt
  simp[hs] at hun ⊢;exact hun
 obtain⟨m,hm,hmD,σ,β,hsz,hdf,hS,hrT,hst,hkp,tF⟩:=hM.rep
 have hdn:=hok.dst i o ho
 have hset:(listed.setIfInBounds i true).getD i false=true:=by
  have hs:i<listed.size:=by rw[hM.size];exact hlt
  simp[hs]
 have RD:∀j,(listed.setIfInBounds i true).getD j false=true→j=i∨listed.getD j false=true:=by
  intro j hj
  by_cases e:j=i
  ·exact .inl e
  ·rw[getD_set_ne false (Ne.symm e)] at hj;exact .inr hj
 have ael:∀j,(listed.setIfInBounds i true).getD j false=false→j≠i∧listed.getD j false=false:=by
  intro j hj
  by_cases e:j=i
  ·subst e;rw[hset] at hj;cases hj
  ·rw[getD_set_ne false (Ne.symm e)] at hj;exact⟨e,hj⟩
 have zW:∀j x k,R[j]? =some x→listed.getD j false=true→((masks R.toList []).getD j 0).testBit k=true→listed.getD k false=true:=fun j x k hx hE hb=>
  yu (fun k=>listed.getD k false=true) hM.closed hok.edge j x hx (fun e he hb=>hM.closed j x e hx hE he hb) k hb
 have u6:∀k,((masks R.toList []).getD i 0).testBit k=true→listed.getD k false=true:=fun k hb=>
  yu (fun k=>listed.getD k false=true) hM.closed hok.edge i o ho (fun e he hb=>BH e he hb) k hb
 have acG:kD E R p listed→i≠p:=fun h e=>by have h1:=h.1;rw[←e,sM] at h1;cases h1
 have zX:∀j x e,R[j]? =some x→(listed.setIfInBounds i true).getD j false=true→e∈x.after→Region.binds .any e=true→(listed.setIfInBounds i true).getD e.on false=true:=by
  intro j x e hx hE he hb
  by_cases hji:j=i
  ·subst hji
   rw[ho] at hx;cases hx
   exact getD_set_true (BH e he hb)
  ·rw[getD_set_ne false (Ne.symm hji)] at hE
   exact getD_set_true (hM.closed j x e hx hE he hb)
 by_cases hA2:i=p∧∃j x,j<p∧R[j]? =some x∧dL E x.op=true∧listed.getD j false=false
 ·
  obtain⟨rfl,j0,x0,hj0,hx0,hD0,hu0⟩:=hA2
  obtain⟨hal,hgn,⟨d,hd⟩,_⟩:=hok.pend o ho
  obtain⟨ty,hop⟩:∃ty,o.op=.alloc ty:=by
   cases h:o.op<;>rw[h] at hal<;>first|exact⟨_,rfl⟩|cases hal
  obtain⟨zs,own,Ω,hzs,_,_,_⟩:=FL ht hop hgn hd
  obtain⟨z,su,hzc⟩:=X4 hzs
  have hnp:¬kD E R i listed:=fun h=>by have h1:=h.1;rw[sM] at h1;cases h1
  have hP':kD E R i (listed.setIfInBounds i true):=⟨hset,hlt,j0,x0,hj0,hx0,hD0,by rw[getD_set_ne false (by omega)];exact hu0⟩
  have hmp:m≤i:=by
   have h1:=hmD j0 x0 hx0 hD0 (fun _=>hnp)
   rcases Nat.lt_or_ge j0 m with h|h
   ·rw[h1.2 h] at hu0;cases hu0
   ·omega
  have hdi:dZ R i=some d:=by simp[dZ,ho,hd]
  have hg:=wu w σ hS.live z.cells ty 0
  unfold wpOp
  rw[ho]
  simp only
  rw[if_pos (by simp[Region.wanted,hgn])]
  left
  have hrun:(execOp a.eval o).run P w=.ok (.value (.pointer (some ⟨w.heap.size,0,none⟩))) {w with heap:=w.heap.push (.cells z.cells ty)}:=by
   have LG:(newVar ty z).run P w=.ok ⟨w.heap.size,0,none⟩ {w with heap:=w.heap.push (.cells z.cells ty)}:=rfl
   have su:=su w
   clear hS hrT hst hkp tF hM hdn ht
   obtain⟨dst,op,ty',pos,after,guard⟩:=o
   simp only at hop;subst hop
   simp[execOp,Instr.alloc,su,LG]
  unfold Oper.wp
  rw[hrun]
  show Mid P N E R i st vs β0 σ0 w0 _ (a.put o.dst _) _
  rw[hd]
  have hdN:d<a.tmps.size:=by rw[hsz];exact hdn d hd
  refine⟨by simpa using hM.size,zX,m,hm,fun j x hx mR hjp=> ?_,fun b=>if b=w.heap.size then 0 else σ b,β,by simp[Act.put,hsz],hdf,hS.grow hg,fun t=> ?_,hst.trans (Step.jM hg),hkp,fun _=>⟨hmp,fun d' hd'=> ?_⟩⟩
  ·have hji:j≠i:=fun e=>hjp e hP'
   rw[getD_set_ne false (Ne.symm hji)]
   exact hmD j x hx mR fun _=>hnp
  ·unfold pF
   by_cases e:t=d
   ·subst e
    rw[if_pos ⟨hP',hdi⟩]
    exact trivial
   ·rw[if_neg (fun h=>e (by rw[hdi] at h;exact(Option.some.inj h.2).symm))]
    rw[uH (E':=fun i=>listed.getD i false) R.size (fun j hj hdj=>by
     have hji:j≠i:=fun x=>by rw[x,hdi] at hdj;exact e (Option.some.inj hdj).symm
     exact getD_set_ne false (Ne.symm hji))]
    have h1:=hrT t
    unfold pF at h1
    rw[if_neg (fun h=>hnp h.1)] at h1
    rw[pX (by intro x;exact e (Option.some.inj x).symm)]
    exact h1.mono hg.near (Keep.refl _ _)
  ·rw[hdi] at hd';cases hd'
   refine⟨w.heap.size,z.cells,ty,by simp[Act.put,Array.getD,hdN],by simp,by simp,hst.size,fun h=> ?_,fun o2 t2 zs2 h1 h2 h3=> ?_⟩
   ·have:=hS.y5 h;omega
   ·rw[ho] at h1;cases h1
    rw[hop] at h2;cases h2
    rw[hzs] at h3;cases h3
    exact hzc
 have hA:i=p→∀j x,j<p→R[j]? =some x→dL E x.op=true→listed.getD j false=true:=fun e j x hj hx hD=>by
  cases hl:listed.getD j false with
  |true=>rfl
  |false=>exact absurd ⟨e,j,x,hj,hx,hD,hl⟩ hA2
 have hPP:kD E R p (listed.setIfInBounds i true)→kD E R p listed:=by
  rintro⟨h1,h2,j,x,hj,hx,hD,hl⟩
  obtain⟨hji,hl⟩:=ael j hl
  rcases RD p h1 with e|h
  ·rw[hA e.symm j x hj hx hD] at hl;cases hl
  ·exact⟨h,h2,j,x,hj,hx,hD,hl⟩
 have hap:kD E R p listed→∀po d,R[p]? =some po→po.dst=some d→o.dst≠some d∧d∉o.looksAt R:=by
  rintro hP po d hpo tF
  have UY:=hP
  obtain⟨_,_,j0,x0,hj0,hx0,hD0,hu0⟩:=UY
  have:o.apart R po=true:=by
   cases hc:o.apart R po with
   |true=>rfl
   |false=>
    have:=(hok.pend po hpo).2.2.2 i o (acG hP) ho hc j0 x0 hj0 hx0 hD0
    rw[u6 j0 this.2] at hu0;cases hu0
  obtain⟨q1,q2,q3⟩:=Oper.apart_spec this
  exact⟨fun e=>q2 d e tF,q3 d tF⟩
 have JA:kD E R p listed→dL E o.op=true→i<p:=by
  rintro hP hD
  have UY:=hP
  obtain⟨_,hpl,j0,x0,hj0,hx0,hD0,hu0⟩:=UY
  have hne:=acG hP
  rcases Nat.lt_or_ge i p with h|h
  ·exact h
  ·exfalso
   rcases hok.pair j0 i x0 o (by omega) hx0 ho (by simp[jX,hD,hD0]) with hb|⟨e,_⟩
   ·rw[u6 j0 hb] at hu0;cases hu0
   ·exact hne e
 have hbit:∀j x,R[j]? =some x→j≠i→nT R j i=true→(listed.getD j false=true↔j<i):=by
  intro j x hx hne hc
  unfold nT at hc
  constructor
  ·intro hE
   rcases Nat.lt_or_ge j i with h|h
   ·exact h
   ·exfalso
    rw[if_neg (by omega)] at hc
    have:=zW j x i hx hE hc
    rw[sM] at this;cases this
  ·intro hji
   rw[if_pos hji] at hc
   exact u6 j hc
 have hdone:∀j x,R[j]? =some x→j≠i→(j=p→¬kD E R p listed)→jX E R x o=true→(listed.getD j false=true↔j<i):=by
  intro j x hx hne hjp hc
  by_cases e:j<i
  ·rcases hok.pair j i x o e hx ho hc with hb|⟨e1,hD,_⟩
   ·exact hbit j x hx hne (by unfold nT;rw[if_pos e];exact hb)
   ·exact⟨fun _=>e,fun _=>hA e1 j x (by omega) hx hD⟩
  ·rcases hok.pair i j o x (by omega) ho hx (by rw[OD];exact hc) with hb|⟨e1,hD,_⟩
   ·exact hbit j x hx hne (by unfold nT;rw[if_neg e];exact hb)
   ·refine⟨fun h=>absurd ⟨e1▸h,?_,i,o,by omega,ho,hD,sM⟩ (hjp e1),fun h=>absurd h e⟩
    rw[←e1];exact(Array.getElem?_eq_some_iff.1 hx).1
 obtain⟨L8,L9⟩:∃L8:List (Nat×V),∀t,look L8 t=jd R vs (fun i=>listed.getD i false) (st 0).tm R.size t:=by
  have:∀n,∃ni:List (Nat×V),∀t,look ni t=jd R vs (fun i=>listed.getD i false) (st 0).tm n t:=by
   intro n
   induction n with
   |zero=>exact⟨(st 0).tm,fun t=>rfl⟩
   |succ n ih=>
    obtain⟨tm,h⟩:=ih
    by_cases hE:listed.getD n false=true
    ·cases hd:dZ R n with
     |none=>exact⟨tm,fun t=>by rw[jd,if_neg (fun x=>by rw[hd] at x;cases x.2)];exact h t⟩
     |some d=>
      refine⟨(n |> vs |> fun v=>(d,v))::tm,fun t=> ?_⟩
      rw[jd,look,hd,h t]
      by_cases e:d=t
      ·rw[if_pos e,if_pos ⟨hE,by rw[e]⟩]
      ·rw[if_neg e,if_neg (fun x=>e (Option.some.inj x.2))]
    ·exact⟨tm,fun t=>by rw[jd,if_neg (fun x=>hE x.1)];exact h t⟩
  exact this R.size
 obtain⟨ni,X6⟩:∃ni:List (Nat×V),∀t,look ni t=pF E R p vs listed (st 0).tm t:=by
  by_cases hP:kD E R p listed
  ·cases hd:dZ R p with
   |none=>exact⟨L8,fun t=>by unfold pF;rw[if_neg (fun h=>by rw[hd] at h;cases h.2)];exact L9 t⟩
   |some d=>
    refine⟨(d,.any)::L8,fun t=> ?_⟩
    unfold pF
    rw[look,hd]
    by_cases e:d=t
    ·rw[if_pos e,if_pos ⟨hP,by rw[e]⟩]
    ·rw[if_neg e,if_neg (fun x=>e (Option.some.inj x.2))];exact L9 t
  ·exact⟨L8,fun t=>by unfold pF;rw[if_neg (fun h=>hP h.1)];exact L9 t⟩
 have hPd:∀t,kD E R p listed→dZ R p=some t→∃po,R[p]? =some po∧po.dst=some t:=by
  intro t _ h
  unfold dZ at h
  cases hpo:R[p]? with
  |none=>rw[hpo] at h;cases h
  |some po=>rw[hpo] at h;exact⟨po,rfl,h⟩
 have FM:∀t∈o.looksAt R,look ni t=look (st i).tm t:=by
  intro t htl
  rw[X6]
  unfold pF
  rw[if_neg (fun h=>by
   obtain⟨po,h1,h2⟩:=hPd t h.1 h.2
   exact(hap h.1 po t h1 h2).2 htl),uZ hT t i (by omega)]
  have:=yQ (R:=R) (vs:=vs) (E:=fun i=>listed.getD i false) (base:=(st 0).tm) (t:=t) (i:=i) R.size (fun j hj hd=>by
   by_cases e:j=i
   ·subst e;rw[sM];simp
   ·obtain⟨x,hx⟩:∃x,R[j]? =some x:=⟨_,Array.getElem?_eq_getElem hj⟩
    have hxd:x.dst=some t:=by simpa [dZ,hx] using hd
    refine hdone j x hx e (fun e2 hP=> ?_) ?_
    ·subst e2
     exact(hap hP x t hx hxd).2 htl
    ·have:x.apart R o=false:=by
      cases hap:x.apart R o with
      |false=>rfl
      |true=>exact absurd htl ((Oper.apart_spec hap).1 t hxd)
     simp[jX,this])
  rw[this,show min R.size i=i from by omega]
 have hR:iD N ⟨ni,(st m).st⟩ a w σ β:=⟨hsz,hdf,hS,fun t=>by show bF w σ (st m).st β (look ni t) _;rw[X6];exact hrT t⟩
 have hev:∀x∈o.op.operands,ev (st i).tm x=ev ni x:=by
  intro x hx
  cases x with
  |tmp t=>show look _ t=look _ t;rw[FM t (AY hx rfl)]
  |_=>rfl
 have hgd:gd R o ni=gd R o (st i).tm:=by
  unfold gd
  cases hg:o.guard with
  |none=>rfl
  |some gw=>
   obtain⟨g,want⟩:=gw
   simp only
   cases hd:dZ R g with
   |none=>rfl
   |some d=>
    simp only[Option.map_some]
    rw[FM d (OB hg hd)]
 have afX:∀(S':Store) (t:Nat),jd R vs (fun i_1=>(listed.setIfInBounds i true).getD i_1 false) (st 0).tm R.size t=look (St.put ⟨L8,S'⟩ o.dst (vs i)).tm t:=by
  intro S' t
  by_cases hd:o.dst=some t
  ·have hdi:dZ R i=some t:=by simp[dZ,ho,hd]
   rw[zV (E:=fun i_1=>(listed.setIfInBounds i true).getD i_1 false) hset hdi R.size hlt (fun j hj hij hdj=>by
    obtain⟨x,hx⟩:∃x,R[j]? =some x:=⟨_,Array.getElem?_eq_getElem hj⟩
    have hxd:x.dst=some t:=by simpa [dZ,hx] using hdj
    have X7:x.apart R o=false:=by
     cases hap:x.apart R o with
     |false=>rfl
     |true=>exact absurd hd ((Oper.apart_spec hap).2.1 t hxd)
    have:=hdone j x hx (by omega) (fun e hP=>by
     subst e
     exact(hap hP x t hx hxd).1 hd) (by simp[jX,X7])
    rw[getD_set_ne false (by omega)]
    cases hE:listed.getD j false with
    |false=>rfl
    |true=>exact absurd (this.1 hE) (by omega))]
   rw[hd]
   simp[St.put,look]
  ·have hdi:dZ R i≠some t:=by simp only[dZ,ho,Option.bind_some];exact hd
   rw[uH (E':=fun i=>listed.getD i false) R.size (fun j hj hdj=>by
    have hji:j≠i:=fun e=>hdi (e▸hdj)
    exact getD_set_ne false (Ne.symm hji)),←L9 t]
   cases hdd:o.dst with
   |none=>rfl
   |some d=>
    have hne:d≠t:=fun e=>hd (by rw[hdd,e])
    simp[St.put,look,hne]
 have X8:∀(S':Store) (t:Nat),¬(kD E R p listed∧dZ R p=some t)→look (St.put ⟨ni,S'⟩ o.dst (vs i)).tm t=jd R vs (fun i_1=>(listed.setIfInBounds i true).getD i_1 false) (st 0).tm R.size t:=by
  intro S' t hn
  rw[afX S' t]
  have h1:look ni t=look L8 t:=by rw[X6,L9];unfold pF;rw[if_neg hn]
  cases hdd:o.dst with
  |none=>exact h1
  |some d=>simp only[St.put,look,h1]
 have fin:∀(m':Nat) (a':Act) (w':World) (σ':Nat→Nat) (β':Hs),m'≤R.size→(∀j x,R[j]? =some x→dL E x.op=true→(j=p→¬kD E R p listed)→((listed.setIfInBounds i true).getD j false=true↔j<m'))→
  (kD E R p listed→m'≤p)→(∀d,o.dst≠some d→a'.tmps.getD d undef=a.tmps.getD d undef)→
  iD N (St.put ⟨ni,(st m').st⟩ o.dst (vs i)) a' w' σ' β'→Step (st m).st β σ w (st m').st β' σ' w'→Keep (st m).st β (st m').st β'→Mid P N E R p st vs β0 σ0 w0 (listed.setIfInBounds i true) a' w':=by
  intro m' a' w' σ' β' hm' hD' hmp ha' hR' hst' tT
  have hS':=hR'.S
  have hT':=hR'.T
  rw[jq] at hS' hT'
  by_cases hP:kD E R p listed
  ·obtain⟨_,hraw⟩:=tF hP
   have UY:=hP
   obtain⟨hp1,hp2,j0,x0,hj0,hx0,hD0,hu0⟩:=UY
   obtain⟨po,hpo⟩:∃po,R[p]? =some po:=⟨_,Array.getElem?_eq_getElem hp2⟩
   obtain⟨hal,hgn,⟨d,hd⟩,aem⟩:=hok.pend po hpo
   have hdp:dZ R p=some d:=by simp[dZ,hpo,hd]
   have hod:=hap hP po d hpo hd
   have hraw:=hraw d hdp
   obtain⟨b,c,ty',hv,hb,hσ,h0,hno,hzc⟩:=hraw
   have hbl:b<w.heap.size:=lt_of_some hb
   have hb':w'.heap[b]? =some (.cells c ty' (0,0)):=by rw[(hst'.far b hbl hno).1];exact hb
   have hσ':σ' b=0:=by rw[(hst'.far b hbl hno).2];exact hσ
   have hno':¬Own (st m').st β' b:=fun h=>(hst'.own b h).elim hno (fun h=>by omega)
   have hv':a'.tmps.getD d undef=.pointer (some ⟨b,0,none⟩):=(ha' d hod.1).trans hv
   have aen:Raw P R p w0 w' σ' (st m').st β' (a'.tmps.getD d undef):=⟨b,c,ty',hv',hb',hσ',h0,hno',hzc⟩
   by_cases hP':kD E R p (listed.setIfInBounds i true)
   ·refine⟨by simpa using hM.size,zX,m',hm',fun j x hx mR hjp=>hD' j x hx mR (fun e=>absurd hP' (hjp e)),σ',β',hR'.size,hR'.defers,hS',fun t=> ?_,hst.trans hst',hkp.trans tT,fun _=>⟨hmp hP,fun d' hd'=>by rw[hdp] at hd';cases hd';exact aen⟩⟩
    unfold pF
    by_cases e:dZ R p=some t
    ·rw[if_pos ⟨hP',e⟩];exact trivial
    ·rw[if_neg (fun h=>e h.2),←X8 (st m').st t (fun h=>e h.2)]
     exact hT' t
   ·
    have hpl:(listed.setIfInBounds i true).getD p false=true:=getD_set_true hp1
    have hall:∀j x,j<p→R[j]? =some x→dL E x.op=true→(listed.setIfInBounds i true).getD j false=true:=fun j x hj hx hD=>by
     cases hl:(listed.setIfInBounds i true).getD j false with
     |true=>rfl
     |false=>exact absurd ⟨hpl,hp2,j,x,hj,hx,hD,hl⟩ hP'
    have acH:∀j x,p<j→R[j]? =some x→dL E x.op=true→(listed.setIfInBounds i true).getD j false=false:=fun j x hj hx hD=>by
     cases hl:(listed.setIfInBounds i true).getD j false with
     |false=>rfl
     |true=>
      exfalso
      rcases hok.pair j0 j x0 x (by omega) hx0 hx (by simp[jX,hD,hD0]) with hbt|⟨e,_⟩
      ·rcases RD j hl with e|hl
       ·subst e
        rw[u6 j0 hbt] at hu0;cases hu0
       ·rw[zW j x j0 hx hl hbt] at hu0;cases hu0
      ·omega
    have ahE:=hmp hP
    have hsm:(st p).st=(st m').st:=by
     have:=zl hT (i:=m') (p-m') (by omega) (fun j x h1 h2 h3=>by
      cases mR:dL E x.op with
      |false=>rfl
      |true=>
       have:=(hD' j x h3 mR (fun e=>by omega)).1 (hall j x (by omega) h3 mR)
       omega)
     rwa [show m'+(p-m')=p from by omega] at this
    obtain⟨po',acI,htp⟩:=hT p hp2
    rw[hpo] at acI;cases acI
    obtain⟨ty,hop⟩:∃ty,po.op=.alloc ty:=by
     cases h:po.op<;>rw[h] at hal<;>first|exact⟨_,rfl⟩|cases hal
    obtain⟨zs,own,Ω,hzs,hs0,hs1,hvp⟩:=FL htp hop hgn hd
    rw[hsm] at hs0
    have pY:=hst.trans hst'
    have acJ:=hkp.trans tT
    rw[hs0] at hS' hT' pY acJ hno'
    obtain⟨bo,bΩ,rfl,hlen,q1,q2,q3⟩:=X5 hS' pY hb' hσ' h0 hno' (hzc po ty zs hpo hop hzs)
    rw[←hs1] at q1 q2 q3
    refine⟨by simpa using hM.size,zX,p+1,by omega,fun j x hx mR _=> ?_,σ',_,hR'.size,hR'.defers,q1,fun t=> ?_,q3,acJ.trans q2,fun h=>absurd h hP'⟩
    ·rcases Nat.lt_trichotomy j p with h|h|h
     ·exact⟨fun _=>by omega,fun _=>hall j x h hx mR⟩
     ·subst h;exact⟨fun _=>by omega,fun _=>hpl⟩
     ·rw[acH j x h hx mR];exact⟨fun h=>(by cases h),fun h=>by omega⟩
    ·unfold pF
     rw[if_neg (fun h=>hP' h.1)]
     by_cases e:t=d
     ·subst e
      rw[zV (E:=fun i_1=>(listed.setIfInBounds i true).getD i_1 false) hpl hdp R.size hp2 (fun j hj hpj hdj=>by
       obtain⟨x,hx⟩:∃x,R[j]? =some x:=⟨_,Array.getElem?_eq_getElem hj⟩
       have hxd:x.dst=some t:=by simpa [dZ,hx] using hdj
       have X7:x.apart R po=false:=by
        cases hap:x.apart R po with
        |false=>rfl
        |true=>exact absurd hd ((Oper.apart_spec hap).2.1 t hxd)
       have hbt:=aem j x (by omega) hx X7 j0 x0 hj0 hx0 hD0
       cases hl:(listed.setIfInBounds i true).getD j false with
       |false=>rfl
       |true=>
        exfalso
        rcases RD j hl with e|hl
        ·subst e
         rw[u6 j0 hbt.2] at hu0;cases hu0
        ·rw[zW j x j0 hx hl hbt.2] at hu0;cases hu0),hvp,hv',hs1]
      exact Qh hlen
     ·rw[←X8 (st m').st t (fun h=>e (by rw[hdp] at h;exact(Option.some.inj h.2).symm))]
      have h1:=hT' t
      rw[hs0]
      exact h1.mono (bR.refl _ _) q2
  ·have hP':¬kD E R p (listed.setIfInBounds i true):=fun h=>hP (hPP h)
   refine⟨by simpa using hM.size,zX,m',hm',fun j x hx mR _=>hD' j x hx mR (fun _=>hP),σ',β',hR'.size,hR'.defers,hS',fun t=> ?_,hst.trans hst',hkp.trans tT,fun h=>absurd h hP'⟩
   unfold pF
   rw[if_neg (fun h=>hP' h.1),←X8 (st m').st t (fun h=>hP h.1)]
   exact hT' t
 have keepD:dL E o.op=false→∀j x,R[j]? =some x→dL E x.op=true→(j=p→¬kD E R p listed)→((listed.setIfInBounds i true).getD j false=true↔j<m):=by
  intro hD j x hx mR hjp
  have hji:j≠i:=fun e=>by rw[e,ho] at hx;cases hx;rw[hD] at mR;cases mR
  rw[getD_set_ne false (Ne.symm hji)]
  exact hmD j x hx mR hjp
 have hmP:kD E R p listed→m≤p:=fun h=>(tF h).1
 have quiet:∀(w':World) (σ':Nat→Nat) (v:Value),dL E o.op=false→Grow w σ w' σ'→bF w' σ' (st m).st β (vs i) v→Mid P N E R p st vs β0 σ0 w0 (listed.setIfInBounds i true) (a.put o.dst v) w':=by
  intro w' σ' v hD hg hv
  exact fin m _ w' σ' β hm (keepD hD) hmP (fun d hd=>pX hd) (wK hdn hsz hdf (hS.grow hg) (hR.T.mono hg.near (Keep.refl _ _)) hv) (Step.jM hg) (Keep.refl _ _)
 have hDs:dL E o.op=true→∀j x,R[j]? =some x→dL E x.op=true→(j=p→¬kD E R p listed)→(listed.getD j false=true↔j<i):=by
  intro hD j x hx mR hjp
  by_cases e:j=i
  ·subst e;rw[sM];simp
  ·exact hdone j x hx e hjp (by simp[jX,hD,mR])
 have hsame:dL E o.op=true→(st m).st=(st i).st:=by
  intro hD
  have hno:∀j x,R[j]? =some x→(i≤j∧j<m∨m≤j∧j<i)→dL E x.op=false:=by
   intro j x hx hj
   cases mR:dL E x.op with
   |false=>rfl
   |true=>
    have hjp:j=p→¬kD E R p listed:=fun e hP=>by
     have:=JA hP hD
     have:=hmP hP
     omega
    have h1:=hDs hD j x hx mR hjp
    have h2:=hmD j x hx mR hjp
    rcases hj with hj|hj
    ·have:=h1.1 (h2.2 hj.2);omega
    ·have:=h2.1 (h1.2 hj.2);omega
  rcases Nat.le_total i m with h|h
  ·have:=zl hT (i:=i) (m-i) (by omega) (fun j x h1 h2 h3=>hno j x h3 (.inl ⟨h1,by omega⟩))
   rwa [show i+(m-i)=m from by omega] at this
  ·have:=zl hT (i:=m) (i-m) (by omega) (fun j x h1 h2 h3=>hno j x h3 (.inr ⟨h1,by omega⟩))
   rw[show m+(i-m)=i from by omega] at this
   exact this.symm
 have UZ:dL E o.op=true→∀j x,R[j]? =some x→dL E x.op=true→(j=p→¬kD E R p listed)→((listed.setIfInBounds i true).getD j false=true↔j<i+1):=by
  intro hD j x hx mR hjp
  by_cases e:j=i
  ·subst e;rw[hset];simp
  ·rw[getD_set_ne false (Ne.symm e),hDs hD j x hx mR hjp];omega
 have hiP:dL E o.op=true→kD E R p listed→i+1≤p:=fun hD hP=>JA hP hD
 unfold wpOp
 rw[ho]
 simp only
 have hRR:iD N ⟨ni,(st m).st⟩ a w σ β:=hR
 rcases ht with⟨hg,hv,hs'⟩|⟨hg,hD,hv,hs'⟩|⟨hg,hD,hx,hs',_⟩
 ·
  have hw:Region.wanted o (yielded R a.tmps)=false:=by
   rw[←hgd] at hg
   unfold gd at hg
   split at hg
   ·cases hg
   ·rename_i j want hgu
    split at hg
    ·rename_i x hx
     have hy:=xg (s:=⟨ni,(st m).st⟩) hRR hx
     have hne:x≠want:=by
      intro e
      rw[e] at hg
      simp at hg
     simp[Region.wanted,hgu,hy,hne]
    ·rename_i hx
     have hy:=AX (s:=⟨ni,(st m).st⟩) hRR hx
     simp[Region.wanted,hgu,hy]
    ·cases hg
  rw[if_neg (by rw[hw];simp)]
  have hvu:bF w σ (st m).st β (vs i) undef:=by rw[hv];exact rC
  by_cases hD:dL E o.op=true
  ·have hsm:=hsame hD
   have hs1:(st (i+1)).st=(st m).st:=by rw[hsm,hs'];cases o.dst<;>rfl
   refine fin (i+1) _ w σ β hlt (UZ hD) (hiP hD) (fun d hd=>pX hd) (by rw[hs1];exact wK hdn hsz hdf hS hR.T hvu) (by rw[hs1];exact Step.jM (Grow.refl hS.live)) (by rw[hs1];exact Keep.refl _ _)
  ·exact quiet w σ undef (by simpa using hD) (Grow.refl hS.live) hvu
 all_goals
  have hw:Region.wanted o (yielded R a.tmps)=true:=by
   rw[←hgd] at hg
   unfold gd at hg
   split at hg
   ·rename_i hgu;simp[Region.wanted,hgu]
   ·rename_i j want hgu
    split at hg
    ·rename_i x hx
     have hy:=xg (s:=⟨ni,(st m).st⟩) hRR hx
     simp at hg
     simp[Region.wanted,hgu,hy,hg]
    ·cases hg
    ·cases hg
  rw[if_pos hw]
  left
 ·
  rcases hv with⟨c,hc,hcn⟩|⟨hcond,hval⟩
  ·have hcn':=XR (tm':=ni) (fun x hx=>hev x (by rw[hc];exact hx)) hcn
   unfold zU at hcn'
   split at hcn'
   ·rename_i x hcx
    split at hcn'
    ·rename_i f caps hex
     have hcall:kr P c ⟨ni,(st m).st⟩ o.dst (fun t=>t=St.put ⟨ni,(st m).st⟩ o.dst (vs i)):=by
      unfold kr
      rw[hcx]
      simp only[hex]
      exact .inl ⟨_,hcn' (st m).st,fun r S' hp=>by rw[hp.1,hp.2]⟩
     refine Oper.wp_mono ?_ (Oper.UW (FD (Q:=Q) hc hdn hRR hcall))
     rintro a' w' ⟨⟨s'',σ',β',hR',hst',tT,hK⟩,ha'⟩
     subst hK
     rw[jq] at hst' tT
     exact fin m a' w' σ' β' hm (keepD hD) hmP ha' hR' hst' tT
    ·exact hcn'.elim
   ·exact hcn'.elim
  ·have hcv:gT o.op=false:=by
    cases hc:gT o.op with
    |false=>rfl
    |true=>
     exfalso
     unfold gT at hc
     split at hc
     ·rename_i x b c hop
      rw[hop] at hcond
      exact eX hcond
     ·cases hc
   have aap:∀k,refs (st i).tm o k→∀j x,R[j]? =some x→(i≤j∧j<m∨m≤j∧j<i)→jh E x.op=false∨aJ (st (j+1)).st k=aJ (st j).st k:=by
    intro k hk j x hx hj
    cases hs:jh E x.op with
    |false=>exact .inl rfl
    |true=>
     have mR:dL E x.op=true:=UQ hs
     have hji:j≠i:=fun e=>by rw[e,ho] at hx;cases hx;rw[hD] at mR;cases mR
     rcases hok.store j i x o hji hx ho hs hD hcv with hb|hb
     ·have h1:=hbit j x hx hji hb
      have h2:=hmD j x hx mR (fun e=>by
       subst e
       have:=(pW (E:=E) (hok.pend x hx).1).2.1
       rw[hs] at this;cases this)
      rcases hj with hj|hj
      ·have:=h1.1 (h2.2 hj.2);omega
      ·have:=h2.1 (h1.2 hj.2);omega
     ·exact .inr (hb k hk)
   have e1:=aaQ (P:=P) (S:=(st i).st) (tm:=(st i).tm) (tm':=ni) (op:=o.op) hev
   rw[e1] at hcond hval
   have e2:kg P (lJ (st i).st) (st m).st ni o.op=kg P (lJ (st i).st) (st i).st ni o.op:=by
    cases hmv:RB o.op with
    |true=>exact X3 hmv
    |false=>
     exact XT (P:=P) (l:=lJ (st i).st) (S:=(st i).st) (S':=(st m).st) (tm:=ni) (op:=o.op) hcond (by
     intro x hx k hk ob UJ hbr
     have hrf:refs (st i).tm o k:=⟨hmv,x,hx,by rw[hev x hx];exact hk⟩
     rcases Nat.le_total i m with h|h
     ·have hds:=Rz hT (i:=i) (k:=k) (m-i) (by omega) (fun j x h1 h2 h3=>aap k hrf j x h3 (.inl ⟨h1,by omega⟩))
      rw[show i+(m-i)=m from by omega] at hds
      rcases hds ob UJ with h'|⟨⟨z,es,e⟩,_⟩
      ·exact h'
      ·rcases e with e|⟨_,e⟩<;>rw[e] at hbr<;>exact hbr.elim
     ·have hds:=Rz hT (i:=m) (k:=k) (i-m) (by omega) (fun j x h1 h2 h3=>aap k hrf j x h3 (.inr ⟨h1,by omega⟩))
      rw[show m+(i-m)=i from by omega] at hds
      have hrx:=gX (a:=a) hR.T x
      have hin:∃o',aJ (st m).st k=some o':=by
       rcases hk with⟨off,e⟩|⟨i',off,e⟩|e|e|⟨r',p',e⟩|⟨r',p',z',i',off,e⟩<;>rw[show ev (⟨ni,(st m).st⟩:St).tm x=ev ni x from rfl,e] at hrx<;>obtain⟨⟨o',ho',_⟩,_⟩:=hrx<;>exact⟨o',ho'⟩
      obtain⟨o',ho'⟩:=hin
      rcases hds o' ho' with h'|⟨_,o2,z,es,h',e⟩
      ·rw[UJ] at h';cases h';exact ho'
      ·rw[UJ] at h';cases h'
       rcases e with e|⟨_,e⟩<;>rw[e] at hbr<;>exact hbr.elim)
   have acL:(kg P (lJ (st i).st) (st m).st ni o.op).1:=by rw[e2];exact hcond
   have hval':vs i=(kg P (lJ (st i).st) (st m).st ni o.op).2:=by rw[e2];exact hval
   obtain⟨v,w',σ',hrun,hgr,rD⟩:=D5 (P:=P) _ o hS hR.T acL
   unfold Oper.wp
   rw[hrun]
   exact quiet w' σ' v hD hgr (by rw[hval'];exact rD)
 ·have hsm:=hsame hD
  have hx':bq P o ⟨(st i).tm,(st i).st⟩ (fun t=>t=St.put ⟨(st i).tm,(st (i+1)).st⟩ o.dst (vs i)):=by
   rw[hs'] at hx
   exact hx
  have hx2:=XQ hD hev hx'
  rw[←hsm] at hx2
  refine Oper.wp_mono ?_ (Oper.UW (zS (Q:=Q) hdn hRR hx2))
  rintro a' w' ⟨⟨s'',σ',β',hR',hst',tT,hK⟩,ha'⟩
  subst hK
  rw[jq] at hst' tT
  exact fin (i+1) a' w' σ' β' hlt (UZ hD) (hiP hD) ha' hR' hst' tT
theorem aaU{st:Nat→St}{vs:Nat→V}{β0:Hs}{σ0:Nat→Nat}{w0:World}{Q:Exit→Act→World→Prop}{p:Nat}(hok:Jz E R N st p)
 (hT:∀i,i<R.size→∃o,R[i]? =some o∧jR P E R o (st i) (vs i) (st (i+1))) (hQ:∀listed a w,Mid P N E R p st vs β0 σ0 w0 listed a w→(∀i,i<R.size→listed.getD i false=true)→Q .normal a w):
 ∀(fuel:Nat) (listed:Array Bool) (a:Act) (w:World),(List.range R.size).countP (fun i=> !listed.getD i false)≤fuel→Mid P N E R p st vs β0 σ0 w0 listed a w→wpAny P .any R Q fuel listed a w:=by
 have hend:∀listed a w,Mid P N E R p st vs β0 σ0 w0 listed a w→Region.ready .any R listed=[]→Q .normal a w:=by
  intro listed a w hM hr
  refine hQ listed a w hM ?_
  intro i
  induction i using Nat.strongRecOn with
  |_ i ih=>
   intro hi
   cases hE:listed.getD i false with
   |true=>rfl
   |false=>
    exfalso
    have ho:R[i]? =some R[i]:=Array.getElem?_eq_getElem hi
    have:i∈Region.ready .any R listed:=by
     rw[mem_ready]
     have hs:i<listed.size:=by rw[hM.size];exact hi
     refine⟨by simp[hs] at hE ⊢;exact hE,_,ho,fun e he hb=> ?_⟩
     have hon:=hok.edge i _ e ho he hb
     exact ih e.on hon (by omega)
    rw[hr] at this
    simp at this
 intro fuel
 induction fuel with
 |zero=>
  intro listed a w hc hM
  have hnone:Region.ready .any R listed=[]:=by
   cases hr:Region.ready .any R listed with
   |nil=>rfl
   |cons i l=>
    exfalso
    have hi:i∈Region.ready .any R listed:=by rw[hr];simp
    obtain⟨hun,o,ho,_⟩:=mem_ready.1 hi
    have hlt:=(Array.getElem?_eq_some_iff.1 ho).1
    have hs:i<listed.size:=by rw[hM.size];exact hlt
    have hz:(List.range R.size).countP (fun i=> !listed.getD i false)=0:=by omega
    rw[List.countP_eq_zero] at hz
    have:=hz i (List.mem_range.2 hlt)
    simp[hs] at hun this
    rw[hun] at this;cases this
  exact⟨hnone,hend listed a w hM hnone⟩
 |succ fuel ih=>
  intro listed a w hc hM
  refine⟨hend listed a w hM,fun i hi=> ?_⟩
  refine wpOp_mono (fun a' w' hM'=>ih _ a' w' ?_ hM') (mid_step hok hT hM hi)
  obtain⟨hun,o,ho,_⟩:=mem_ready.1 hi
  have hlt:=(Array.getElem?_eq_some_iff.1 ho).1
  have hs:i<listed.size:=by rw[hM.size];exact hlt
  have:=cnt_lt (fun j=> !listed.getD j false) (fun j=> !(listed.setIfInBounds i true).getD j false) (List.range R.size) i (fun x hx=>by
   by_cases e:x=i
   ·subst e;simp[hs] at hx
   ·rw[getD_set_ne false (Ne.symm e)] at hx;exact hx) (List.mem_range.2 hlt) (by simp[hs] at hun ⊢;exact hun) (by simp[hs])
  omega
theorem zY{id:Nat}{Q:Exit→St→Prop}{s:St}(fD:P.follows .mixedOrders=true){st:Nat→St}{vs:Nat→V}(h0:st 0=s)(hK:Q .normal (st R.size))
 (hT':∀i,i<R.size→∃o,R[i]? =some o∧jR P E R o (st i) (vs i) (st (i+1))) {p:Nat} (hok:Jz E R N st p):AW P N (.region id R true) Q s:=by
 intro a w σ β hR
 refine wp_region_any fD ?_
 have hgd:Grow w σ {w with drawn:=w.drawn+1} σ:=⟨Nat.le_refl _,rfl,rfl,fun _ _=>⟨rfl,rfl⟩,hR.S.live⟩
 refine aaU (N:=N) (β0:=β) (σ0:=σ) (w0:=w) hok hT' (fun listed a' w' hM hall=> ?_) R.size _ a _ ?_ ?_
 ·obtain⟨m,hm,hmD,σ',β',hsz,hdf,hS,hT2,hst,hkp,_⟩:=hM.rep
  have hnP:¬kD E R p listed:=by
   rintro⟨_,_,j,x,hj,hx,_,hl⟩
   rw[hall j (Array.getElem?_eq_some_iff.1 hx).1] at hl;cases hl
  have hsm:(st R.size).st=(st m).st:=by
   have:=zl hT' (i:=m) (R.size-m) (by omega) (fun j x h1 h2 h3=>by
    cases mR:dL E x.op with
    |false=>rfl
    |true=>have:=(hmD j x h3 mR (fun _=>hnP)).1 (hall j (Array.getElem?_eq_some_iff.1 h3).1);omega)
   rwa [show m+(R.size-m)=R.size from by omega] at this
  rw[h0] at hst hkp
  refine⟨st R.size,σ',β',⟨hsz,hdf,by rw[hsm];exact hS,fun t=> ?_⟩,by rw[hsm];exact hst,by rw[hsm];exact hkp.tail,hK⟩
  rw[uZ hT' t R.size (Nat.le_refl _),hsm]
  have:=hT2 t
  unfold pF at this
  rw[if_neg (fun h=>hnP h.1)] at this
  rw[uH (E':=fun _=>true) R.size (fun j hj _=>hall j hj)] at this
  exact this
 ·calc (List.range R.size).countP _≤(List.range R.size).length:=List.countP_le_length
   _=R.size:=List.length_range
 ·refine⟨by simp,fun i o e ho hE _ _=> ?_,0,Nat.zero_le _,fun i o ho _=> ?_,σ,β,hR.size,hR.defers,by rw[h0];exact hR.S.grow hgd,fun t=> ?_,by rw[h0];exact Step.jM hgd,Keep.refl _ _,fun h=>by have h1:=h.1;rw[getD_replicate_false] at h1;cases h1⟩
  ·rw[getD_replicate_false] at hE;cases hE
  ·rw[getD_replicate_false];simp
  ·have:jd R vs (fun i=>(Array.replicate R.size false).getD i false) (st 0).tm R.size t=look (st 0).tm t:=by
    have:=yQ (R:=R) (vs:=vs) (E:=fun i=>(Array.replicate R.size false).getD i false) (base:=(st 0).tm) (t:=t) (i:=0) R.size (fun j _ _=>by rw[getD_replicate_false];simp)
    rw[this,Nat.min_zero];rfl
   unfold pF
   rw[if_neg (fun h=>by have h1:=h.1.1;rw[getD_replicate_false] at h1;cases h1),this,h0]
   exact(hR.T t).mono hgd.near (Keep.refl _ _)
theorem aaV{id:Nat}{Q:Exit→St→Prop}{s:St}(fD:P.follows .mixedOrders=true)(hok:uW E R N=true)(h:pq P E R R.toList s (Q .normal)):AW P N (.region id R true) Q s:=by
 obtain⟨st,vs,h0,hK,hT⟩:=EC R.size 0 (by omega) s h
 exact zY fD h0 hK (fun i hi=>hT i (Nat.zero_le i) hi) (acE hok)
theorem X9{id p:Nat}{Q:Exit→St→Prop}{s:St}(fD:P.follows .mixedOrders=true)(hok:zk E R N p=true)(h:pq P E R R.toList s (Q .normal)):AW P N (.region id R true) Q s:=by
 obtain⟨st,vs,h0,hK,hT⟩:=EC R.size 0 (by omega) s h
 exact zY fD h0 hK (fun i hi=>hT i (Nat.zero_le i) hi) (aaT hok)
theorem RF{id:Nat}{Q:Exit→St→Prop}{s:St}(fD:P.follows .mixedOrders=true)(hok:IB R N=true)(h:pq P (FK R N) R R.toList s (Q .normal)):AW P N (.region id R true) Q s:=by
 unfold IB at hok
 rw[Bool.or_eq_true] at hok
 rcases hok with hok|hok
 ·exact aaV fD hok h
 ·split at hok
  ·exact X9 fD hok h
  ·cases hok
theorem RG{v w:V}(h:Ry v w=true){k k':Key}(hv:(∃off,v=.c (.ptr k' off))∨(∃i off,v=.c (.jH k' i off))∨∃r p z i off,v=.c (.xq k' r p z i off))
 (hw:Dn w k):k'≠k:=by
 rintro rfl
 rcases hv with⟨_,rfl⟩|⟨_,_,rfl⟩|⟨_,_,_,_,_,rfl⟩<;>rcases hw with⟨_,rfl⟩|⟨_,_,rfl⟩|rfl|rfl|⟨_,_,rfl⟩|⟨_,_,_,_,_,rfl⟩<;>simp[Ry] at h
theorem Ea{o:Oper}{t:TypeId}{a y:Operand}{s s':St}{v:V}(hop:o.op=.store t a y)(h:jR P E R o s v s'){k:Key}
 (hk:∀k',((∃off,ev s.tm a=.c (.ptr k' off))∨(∃i off,ev s.tm a=.c (.jH k' i off))∨∃r p z i off,ev s.tm a=.c (.xq k' r p z i off))→k'≠k):aJ s'.st k=aJ s.st k:=by
 rcases h with⟨_,_,h⟩|⟨_,_,_,h⟩|⟨_,_,h,_,_⟩
 ·rw[h];cases o.dst<;>rfl
 ·rw[h];cases o.dst<;>rfl
 ·obtain⟨dst,op,ty,pos,after,guard⟩:=o
  subst hop
  simp only[bq,pQ] at h
  split at h
  ·rename_i k' off he
   split at h
   ·obtain⟨_,_,_,h4⟩:=h
    rw[←h4,jq]
    exact cO _ _ _ _ (hk k' (.inl ⟨_,he⟩))
   ·exact h.elim
  ·rename_i k' i off he
   split at h
   ·obtain⟨_,_,_,_,h5⟩:=h
    rw[←h5,jq]
    exact cO _ _ _ _ (hk k' (.inr (.inl ⟨_,_,he⟩)))
   ·exact h.elim
  ·rename_i k' r p z i off he
   split at h
   ·split at h
    ·split at h
     ·obtain⟨_,_,_,_,_,h6⟩:=h
      rw[←h6,jq]
      exact cO _ _ _ _ (hk k' (.inr (.inr ⟨_,_,_,_,_,he⟩)))
     ·exact h.elim
    ·exact h.elim
   ·exact h.elim
  ·exact h.elim
theorem wD{st:Nat→St}{vs:Nat→V}(hT:∀i,i<R.size→∃o,R[i]? =some o∧jR P E R o (st i) (vs i) (st (i+1))){i:Nat}(hi:i≤R.size){a:Operand}(h:settled R i a=true):
 ev (st R.size).tm a=ev (st i).tm a:=by
 cases a with
 |tmp t=>
  show look _ t=look _ t
  have key:∀n,i+n≤R.size→look (st (i+n)).tm t=look (st i).tm t:=by
   intro n
   induction n with
   |zero=>intro _;rfl
   |succ n ih=>
    intro hn
    rw[uZ hT t (i+(n+1)) hn,show i+(n+1)=i+n+1 from rfl,jd,if_neg,←uZ hT t (i+n) (by omega),ih (by omega)]
    rintro⟨_,hd⟩
    have:=List.all_eq_true.1 h (i+n) (List.mem_range.2 (by omega))
    rw[hd] at this
    simp at this
    omega
  have:=key (R.size-i) (by omega)
  rwa [show i+(R.size-i)=R.size from by omega] at this
 |_=>rfl
theorem U0{st:Nat→St}{vs:Nat→V}{p:Nat}(hed:∀(i:Nat) (o:Oper),R[i]? =some o→(o.after.toList.all (fun e=> !Region.binds .any e||decide (e.on<i))&&(match o.dst with|some d=>decide (d<N)|none=>true))=true)
 (tF:∀o,R[p]? =some o→tX o.op=true∧o.guard=none∧(∃d,o.dst=some d)∧∀j y,j≠p→R[j]? =some y→y.apart R o=false→∀i x,i<p→R[i]? =some x→dL E x.op=true→i<j∧((masks R.toList []).getD j 0).testBit i=true)
 (hp:∀(i j:Nat) (x y:Oper),i<j→R[i]? =some x→R[j]? =some y→((masks R.toList []).getD j 0).testBit i=true∨(x.apart R y=true∧(j=p∨((dL E x.op&&dL E y.op)=false∧(jh E x.op=true→qE R i x j y=true)∧(jh E y.op=true→qE R j y i x=true)))))
 (hT:∀i,i<R.size→∃o,R[i]? =some o∧jR P E R o (st i) (vs i) (st (i+1))) (hl:KX E R (st R.size).tm=true):Jz E R N st p:=by
 refine⟨?_,?_,?_,?_,tF⟩
 ·intro i o e ho he hb
  have h2:=hed i o ho
  simp only[Bool.and_eq_true] at h2
  have h3:=List.all_eq_true.1 h2.1 e (by simpa using he)
  simpa [hb] using h3
 ·intro i o ho d hd
  have h2:=hed i o ho
  simp only[Bool.and_eq_true,hd] at h2
  simpa using h2.2
 ·intro i j x y hij hx hy hc
  rcases hp i j x y hij hx hy with h|⟨h1,h⟩
  ·exact .inl h
  ·unfold jX at hc
   rw[h1] at hc
   simp only[Bool.not_true,Bool.false_or] at hc
   rcases h with h|⟨h,_⟩
   ·rw[Bool.and_eq_true] at hc
    exact .inr ⟨h,hc.1,h1⟩
   ·rw[hc] at h;cases h
 ·intro i j x o hij hx ho hs hD hc
  have hjp:j≠p:=fun e=>by
   subst e
   have:=(pW (E:=E) (tF o ho).1).1
   rw[hD] at this;cases this
  have JA:i≠p:=fun e=>by
   subst e
   have:=(pW (E:=E) (tF x hx).1).2.1
   rw[hs] at this;cases this
  cases hb:nT R i j with
  |true=>exact .inl rfl
  |false=>
   refine .inr ?_
   rintro k ⟨_,z,hz,hk⟩
   have hi:i<R.size:=(Array.getElem?_eq_some_iff.1 hx).1
   have hj:j<R.size:=(Array.getElem?_eq_some_iff.1 ho).1
   have hlo:qE R i x j o=true:=by
    unfold nT at hb
    by_cases e:i<j
    ·rw[if_pos e] at hb
     rcases hp i j x o e hx ho with h|⟨_,h|⟨_,h,_⟩⟩
     ·rw[hb] at h;cases h
     ·exact absurd h hjp
     ·exact h hs
    ·rw[if_neg e] at hb
     rcases hp j i o x (by omega) ho hx with h|⟨_,h|⟨_,_,h⟩⟩
     ·rw[hb] at h;cases h
     ·exact absurd h JA
     ·exact h hs
   unfold qE at hlo
   rw[hc,Bool.false_or] at hlo
   split at hlo
   ·rename_i t a y hop
    rw[Bool.and_eq_true] at hlo
    have hz':z∈o.op.operands.toList:=by simpa using hz
    have hsz:=List.all_eq_true.1 hlo.2 z hz'
    have h1:=List.all_eq_true.1 hl i (List.mem_range.2 hi)
    rw[hx] at h1
    simp only[hs,Bool.not_true,Bool.false_or,hop] at h1
    have h2:=List.all_eq_true.1 h1 j (List.mem_range.2 hj)
    rw[ho] at h2
    simp only[hb,hD,hc,Bool.false_or] at h2
    have h3:=List.all_eq_true.1 h2 z hz'
    obtain⟨x',hx',ht⟩:=hT i hi
    rw[hx] at hx';cases hx'
    refine Ea hop ht fun k' hk'=> ?_
    rw[wD hT (by omega) hlo.1,wD hT (by omega) hsz] at h3
    exact RG h3 hk' hk
   ·cases hlo
theorem FN{f:Nat→Nat→Oper→Oper→Bool}(h:((List.range R.size).all fun j=>
 (match R[j]? with
  |some o=>o.after.toList.all (fun e=> !Region.binds .any e||decide (e.on<j))&&(match o.dst with|some d=>decide (d<N)|none=>true)
  |none=>true)&&
 (List.range j).all fun i=>
   match R[i]?,R[j]? with
   |some x,some y=>((masks R.toList []).getD j 0).testBit i|| !(f i j x y)
   |_,_=>true)=true):
 (∀(i:Nat) (o:Oper),R[i]? =some o→(o.after.toList.all (fun e=> !Region.binds .any e||decide (e.on<i))&&(match o.dst with|some d=>decide (d<N)|none=>true))=true)∧
 ∀(i j:Nat) (x y:Oper),i<j→R[i]? =some x→R[j]? =some y→((masks R.toList []).getD j 0).testBit i=true∨f i j x y=false:=by
 refine⟨fun i o ho=> ?_,fun i j x y hij hx hy=> ?_⟩
 ·have hj:i<R.size:=(Array.getElem?_eq_some_iff.1 ho).1
  have h1:=List.all_eq_true.1 h i (List.mem_range.2 hj)
  rw[Bool.and_eq_true,ho] at h1
  exact h1.1
 ·have hj:j<R.size:=(Array.getElem?_eq_some_iff.1 hy).1
  have h1:=List.all_eq_true.1 h j (List.mem_range.2 hj)
  rw[Bool.and_eq_true] at h1
  have h2:=List.all_eq_true.1 h1.2 i (List.mem_range.2 hij)
  rw[hx,hy] at h2
  simp only[Bool.or_eq_true,Bool.not_eq_true'] at h2
  exact h2
theorem Ya{st:Nat→St}{vs:Nat→V}(hok:Dp E R N=true)(hT:∀i,i<R.size→∃o,R[i]? =some o∧jR P E R o (st i) (vs i) (st (i+1)))(hl:KX E R (st R.size).tm=true):Jz E R N st R.size:=by
 obtain⟨h1,h2⟩:=FN (f:=fun i j x y=>jX E R x y||(jh E x.op&& !(qE R i x j y))||(jh E y.op&& !(qE R j y i x))) hok
 refine U0 h1 (fun o ho=>by rw[Array.getElem?_eq_none (Nat.le_refl _)] at ho;cases ho) (fun i j x y hij hx hy=>(h2 i j x y hij hx hy).imp id fun h=> ?_) hT hl
 simp only[jX,Bool.or_eq_false_iff,Bool.not_eq_false',Bool.and_eq_false_imp] at h
 obtain⟨⟨⟨q1,q2⟩,q3⟩,q4⟩:=h
 refine⟨q1,.inr ⟨?_,q3,q4⟩⟩
 cases hx:dL E x.op with
 |false=>rfl
 |true=>rw[q2 hx];rfl
theorem acM{id:Nat}{Q:Exit→St→Prop}{s:St}(fD:P.follows .mixedOrders=true)(hok:Dp E R N=true)(h:pq P E R R.toList s (fun s'=>KX E R s'.tm=true∧Q .normal s')):AW P N (.region id R true) Q s:=by
 obtain⟨st,vs,h0,hK,hT⟩:=EC R.size 0 (by omega) s h
 have hT':=fun i hi=>hT i (Nat.zero_le i) hi
 exact zY fD h0 hK.2 hT' (Ya hok hT' hK.1)
end
end Go.Ab
namespace Go.Ab
section
variable {P:Program} {w w':World} {σ σ':Nat→Nat} {S S':Store} {β β':Hs} {N:Nat} {s:St} {a:Act}
theorem kR{c:Code}{Q:Exit→St→Prop}{s s':St}(h:AW P N c Q s')
 (hg:∀(a:Act) (w:World) (σ:Nat→Nat) (β:Hs),iD N s a w σ β→∃σ' β',iD N s' a w σ' β'∧Step s.st β σ w s'.st β' σ' w∧Keep (eB s.st) (eB β) (eB s'.st) (eB β')):AW P N c Q s:=by
 intro a w σ β hR
 obtain⟨σ',β',hR',hst,hk⟩:=hg a w σ β hR
 refine wp_mono (h a w σ' β' hR') ?_
 rintro e a' w' ⟨s'',wR,β'',k1,k2,k3,k4⟩
 exact⟨s'',wR,β'',k1,hst.trans k2,hk.trans k3,k4⟩
def fG(N:Nat)(s s':St):Prop:=∀(a:Act) (w:World) (σ:Nat→Nat) (β:Hs),iD N s a w σ β→∃σ' β',iD N s' a w σ' β'∧Step s.st β σ w s'.st β' σ' w∧Keep (eB s.st) (eB β) (eB s'.st) (eB β')
theorem fG.refl(N:Nat)(s:St):fG N s s:=fun a w σ β hR=>⟨σ,β,hR,Step.jM (Grow.refl hR.S.live),Keep.refl _ _⟩
theorem fG.trans{s s' s'':St}(h:fG N s s')(k:fG N s' s''):fG N s s'':=fun a w σ β hR=>by
 obtain⟨σ1,β1,r1,st1,k1⟩:=h a w σ β hR
 obtain⟨σ2,β2,r2,st2,k2⟩:=k a w σ1 β1 r1
 exact⟨σ2,β2,r2,st1.trans st2,k1.trans k2⟩
theorem Ma{tm tm':List (Nat×V)}(hl:∀t,look tm' t=look tm t∨look tm' t=.any):fG N ⟨tm,S⟩ ⟨tm',S⟩:=
 fun a w σ β hR=>⟨σ,β,⟨hR.size,hR.defers,hR.S,fun t=>by
  rcases hl t with e|e
  ·show bF w σ S β (look tm' t) _;rw[e];exact hR.T t
  ·show bF w σ S β (look tm' t) _;rw[e];trivial⟩,Step.jM (Grow.refl hR.S.live),Keep.refl _ _⟩
theorem aaq{c:Code}{Q:Exit→St→Prop}{tm tm':List (Nat×V)}(h:AW P N c Q ⟨tm',S⟩)(hl:∀t,look tm' t=look tm t∨look tm' t=.any):AW P N c Q ⟨tm,S⟩:=
 kR h fun a w σ β hR=>⟨σ,β,⟨hR.size,hR.defers,hR.S,fun t=>by
  rcases hl t with e|e
  ·show bF w σ S β (look tm' t) _;rw[e];exact hR.T t
  ·show bF w σ S β (look tm' t) _;rw[e];trivial⟩,Step.jM (Grow.refl hR.S.live),Keep.refl _ _⟩
def C.mU:C→C
 | .bQ _ es=>.d (.sl es)
 | .aY es=>.d (.sl es)
 |c=>c
def V.mU:V→V
 | .c x=>.c x.mU
 | .agg cs=>.agg (cs.map C.mU)
 |v=>v
theorem Mc{c:C}{v:Value}(h:fZ w σ S β c v):fZ w σ S β c.mU v:=by
 cases c with
 |bQ k es=>exact h.1
 |aY es=>exact h.1
 |_=>exact h
theorem Me{x:V}{v:Value}(h:bF w σ S β x v):bF w σ S β x.mU v:=by
 cases x with
 |c x=>exact⟨Mc h.1,h.2⟩
 |agg cs=>
  obtain⟨ar,ha,hl,hc⟩:=h
  refine⟨ar,ha,by simpa using hl,fun j x hx=> ?_⟩
  rw[List.getElem?_map] at hx
  cases hcj:cs[j]? with
  |none=>rw[hcj] at hx;cases hx
  |some y=>
   rw[hcj] at hx;cases hx
   obtain⟨v,hv,hr,ho⟩:=hc j y hcj
   exact⟨v,hv,Mc hr,ho⟩
 |_=>exact h
theorem bD.weaken{f:FuncId}{args args':List V}{post:V→Store→Prop}(h:bD P f args' S post)(hl:args.length=args'.length)
 (hw:∀(j:Nat) (x y:V),args[j]? =some x→args'[j]? =some y→∀w σ β v,bF w σ S β x v→bF w σ S β y v):bD P f args S post:=by
 refine⟨h.1,fun w σ β vs hS hv=>h.2 w σ β vs hS ⟨by rw[←hl];exact hv.1,fun j y hy=> ?_⟩⟩
 have hj:=(List.getElem?_eq_some_iff.1 hy).1
 have hx:args[j]? =some (args[j]'(by omega)):=List.getElem?_eq_getElem (by omega)
 obtain⟨v,h1,h2⟩:=hv.2 j _ hx
 exact⟨v,h1,hw j _ y hx hy w σ β v h2⟩
theorem bD.mU{f:FuncId}{args:List V}{post:V→Store→Prop}(h:bD P f (args.map V.mU) S post):bD P f args S post:=
 h.weaken (by simp) fun j x y hx hy w σ β v hr=>by
  rw[List.getElem?_map,hx] at hy
  cases hy
  exact Me hr
theorem bD.mono{f:FuncId}{args:List V}{post post':V→Store→Prop}(h:bD P f args S post)(hp:∀r S',post r S'→post' r S'):bD P f args S post':=
 ⟨h.1,fun w σ β vs hS hv=>(h.2 w σ β vs hS hv).mono fun e w' ⟨v,r,S',σ',β',h1,h2,h3,h4,h5,h6⟩=>⟨v,r,S',σ',β',h1,h2,h3,h4,h5,hp _ _ h6⟩⟩
theorem zZ{f:FuncId}{args:List V}{s:St}{dst:Option Nat}{K:St→Prop}{r:V}(h:aD P f (args.map V.mU) r)(hK:K (St.put s dst r)):uE P f args s dst K:=
 .inl ⟨_,(h s.st).mU,fun r' S' hp=>by rw[hp.1,hp.2];exact hK⟩
theorem FP{c:Code}{Q:Exit→St→Prop}{tm:List (Nat×V)}{own:List Obj}{Ω:Store}(t aF:Nat)(es:List (List D))(hv:look tm t=.c (.aY es))(hes:∀e∈es,e.length=aF)
 (h:AW P N c Q ⟨(t,.c (.bQ (0,own.length) es))::tm,(own++[.tok aF es])::Ω⟩):AW P N c Q ⟨tm,own::Ω⟩:=by
 refine kR h fun a w σ β hR=> ?_
 obtain⟨bo,bΩ,rfl,hlen⟩:=frames hR
 have ht:=hR.T t
 rw[hv] at ht
 obtain⟨⟨hd,ad,n,hval⟩,hone⟩:=ht
 have hn:n=es.length:=by rw[hval] at hd;cases hd<;>rfl
 have hg:Grow w σ w σ:=Grow.refl hR.S.live
 obtain⟨hS',hk,hst⟩:=hR.S.push (o:=.tok aF es) (h:=a.tmps.getD t undef) hg hlen ⟨hd,hes,ad,n,by rw[hval,hn],by omega,.inl hn⟩ (fun b hb=>by
  rw[hval,hn] at hb
  cases ad<;>simp[owns,blk] at hb)
 refine⟨σ,_,⟨hR.size,hR.defers,hS',fun u=> ?_⟩,hst,Keep.refl _ _⟩
 show bF w σ _ _ (if t=u then _ else look tm u) _
 by_cases e:t=u
 ·subst e
  rw[if_pos rfl]
  refine⟨⟨hd,_,bE _ _ _,fun a b e=> ?_⟩,hone⟩
  obtain⟨_,rfl⟩:=pK (lab:=none) e
  exact⟨Nat.le_refl _,fun _=>by rw[←hlen,bE]⟩
 ·rw[if_neg e]
  exact(hR.T u).mono (bR.refl _ _) hk
theorem tY{c:Code}{Q:Exit→St→Prop}{tm:List (Nat×V)}{own:List Obj}{Ω:Store}(n t aF:Nat)(es:List (List D))(hv:look tm t=.c (.iI n es)∨(look tm t=.c (.aY es)∧es=[]))(hes:∀e∈es,e.length=aF)
 (h:AW P N c Q ⟨(t,.c (.bQ (0,own.length) es))::tm,(own++[.dW n aF es])::Ω⟩):AW P N c Q ⟨tm,own::Ω⟩:=by
 refine kR h fun a w σ β hR=> ?_
 obtain⟨bo,bΩ,rfl,hlen⟩:=frames hR
 have ht:=hR.T t
 have hl:∃ad,a.tmps.getD t undef=.slice ad es.length es.length∧bB w σ (.ol n es) (a.tmps.getD t undef):=by
  rcases hv with hv|⟨hv,rfl⟩
  ·rw[hv] at ht
   obtain⟨⟨hd,ad,m,hval⟩,_⟩:=ht
   have hn:m=es.length:=by
    have:=uU hd
    rw[hval] at this
    cases this<;>rfl
   exact⟨ad,by rw[hval,hn],hd⟩
  ·rw[hv] at ht
   obtain⟨⟨hd,ad,m,hval⟩,_⟩:=ht
   have hn:m=0:=by rw[hval] at hd;cases hd<;>rfl
   subst hn
   exact⟨ad,hval,by rw[hval];exact .rX _ _ _⟩
 obtain⟨ad,hval,hol⟩:=hl
 have hd:=uU hol
 have hg:Grow w σ w σ:=Grow.refl hR.S.live
 obtain⟨hS',hk,hst⟩:=hR.S.push (o:=.dW n aF es) (h:=a.tmps.getD t undef) hg hlen ⟨hd,hes,ad,es.length,hval,Nat.le_refl _,.inl ⟨rfl,hol⟩⟩ (fun b hb=>by
  rw[hval] at hb
  cases ad<;>simp[owns,blk] at hb)
 refine⟨σ,_,⟨hR.size,hR.defers,hS',fun u=> ?_⟩,hst,Keep.refl _ _⟩
 show bF w σ _ _ (if t=u then _ else look tm u) _
 by_cases e:t=u
 ·subst e
  rw[if_pos rfl]
  refine⟨⟨hd,_,bE _ _ _,fun a b e=> ?_⟩,by rw[hval];rfl⟩
  obtain⟨_,rfl⟩:=pK (lab:=some n) e
  exact⟨Nat.le_refl _,fun _=>by rw[←hlen,bE]⟩
 ·rw[if_neg e]
  exact(hR.T u).mono (bR.refl _ _) hk
theorem IC{c:Code}{Q:Exit→St→Prop}{tm:List (Nat×V)}{Ω:Store}(n:Nat)(h:AW P N c Q ⟨tm,[.seed n]::Ω⟩):AW P N c Q ⟨tm,[]::Ω⟩:=by
 refine kR h fun a w σ β hR=> ?_
 obtain⟨bo,bΩ,rfl,hlen⟩:=frames hR
 obtain⟨hS',hk,hst⟩:=hR.S.push (o:=.seed n) (h:=undef) (Grow.refl hR.S.live) hlen trivial (fun b hb=>by cases hb)
 exact⟨σ,_,⟨hR.size,hR.defers,hS',fun u=>(hR.T u).mono (bR.refl _ _) hk⟩,hst,Keep.refl _ _⟩
def sN(n:Nat)(k:Key):Bool:=decide (0<k.1)||decide (k.2<n)
def C.refs(n:Nat):C→Bool
 | .bQ k _=>sN n k
 | .ptr k _=>sN n k
 | .jH k _ _=>sN n k
 | .iR k=>sN n k
 | .mp k=>sN n k
 | .fn _ caps=>caps.all fun x=>sN n x.1
 | .xp k _ _=>sN n k
 | .xq k _ _ _ _ _=>sN n k
 |_=>true
def V.refs(n:Nat):V→Bool
 | .c x=>x.refs n
 | .agg cs=>cs.all (C.refs n)
 | .dw xs=>xs.all fun y=>y.2.all (C.refs n)
 | .any=>true
def Obj.refs(n:Nat):Obj→Bool
 | .box cs=>cs.all (C.refs n)
 |_=>true
theorem gI{α:Type}{own:List α}{Ω:List (List α)}{n:Nat}{k:Key}(h:sN n k=true):aJ (own.take n::Ω) k=aJ (own::Ω) k:=by
 obtain⟨l,j⟩:=k
 cases l with
 |zero=>
  simp[sN] at h
  rw[aR,aR,List.getElem?_take_of_lt h]
 |succ l=>rw[bf,bf]
theorem j3{α:Type}{own:List α}{Ω:List (List α)}{n:Nat}{k:Key}{o:α}(h:aJ (own.take n::Ω) k=some o):aJ (own::Ω) k=some o∧sN n k=true:=by
 obtain⟨l,j⟩:=k
 cases l with
 |zero=>
  rw[aR] at h ⊢
  have hj:=(List.getElem?_eq_some_iff.1 h).1
  simp at hj
  rw[List.getElem?_take_of_lt (by omega)] at h
  exact⟨h,by simp[sN];omega⟩
 |succ l=>rw[bf] at h ⊢;exact⟨h,by simp[sN]⟩
theorem BI{own:List Obj}{Ω:Store}{bo:List Value}{bΩ:Hs}{n:Nat}{c:C}{v:Value}(hr:c.refs n=true)(h:fZ w σ (own::Ω) (bo::bΩ) c v):fZ w σ (own.take n::Ω) (bo.take n::bΩ) c v:=by
 cases c with
 |d x=>exact h
 |any=>exact h
 |aY es=>exact h
 |jC cs=>exact h
 |bQ k es=>
  obtain⟨h1,o,ho,h2⟩:=h
  exact⟨h1,o,(gI hr).trans ho,fun a b e=>by rw[gI hr];exact h2 a b e⟩
 |ptr k off=>
  obtain⟨o,ho,h2⟩:=h
  exact⟨o,(gI hr).trans ho,fun a e=>by rw[gI hr];exact h2 a e⟩
 |jH k i off=>
  obtain⟨o,ho,h2⟩:=h
  exact⟨o,(gI hr).trans ho,fun a b e=>by rw[gI hr];exact h2 a b e⟩
 |iR k=>
  obtain⟨o,ho,h2⟩:=h
  exact⟨o,(gI hr).trans ho,fun a b e=>by rw[gI hr];exact h2 a b e⟩
 |mp k=>
  obtain⟨o,ho,h2⟩:=h
  exact⟨o,(gI hr).trans ho,fun a e=>by rw[gI hr];exact h2 a e⟩
 |fn f caps=>
  obtain⟨vs,hv,hl,h2⟩:=h
  refine⟨vs,hv,hl,fun j k off e=> ?_⟩
  obtain⟨u,hu,h1c,o,ho,h3⟩:=h2 j k off e
  have hk:sN n k=true:=List.all_eq_true.1 hr (k,off) (List.mem_of_getElem? e)
  exact⟨u,hu,h1c,o,(gI hk).trans ho,fun cs e=>by rw[gI hk];exact h3 cs e⟩
 |iI m es=>exact h
 |xp k r p=>
  obtain⟨o,ho,h2⟩:=h
  exact⟨o,(gI hr).trans ho,fun a e=>by rw[gI hr];exact h2 a e⟩
 |xq k r p z i off=>
  obtain⟨o,ho,h2⟩:=h
  exact⟨o,(gI hr).trans ho,fun a e=>by rw[gI hr];exact h2 a e⟩
theorem z8{own:List Obj}{Ω:Store}{bo:List Value}{bΩ:Hs}{n:Nat}{cs:List C}{vs:List Value}(hr:cs.all (C.refs n)=true)(h:dR w σ (own::Ω) (bo::bΩ) cs vs):dR w σ (own.take n::Ω) (bo.take n::bΩ) cs vs:=
 ⟨h.1,fun j x hx=>let⟨v,hv,hc,ho⟩:=h.2 j x hx;⟨v,hv,BI (List.all_eq_true.1 hr x (List.mem_of_getElem? hx)) hc,ho⟩⟩
theorem U1{own:List Obj}{Ω:Store}{bo:List Value}{bΩ:Hs}{n:Nat}{x:V}{v:Value}(hr:x.refs n=true)(h:bF w σ (own::Ω) (bo::bΩ) x v):bF w σ (own.take n::Ω) (bo.take n::bΩ) x v:=by
 cases x with
 |c x=>exact⟨BI hr h.1,h.2⟩
 |agg cs=>obtain⟨ar,ha,hc⟩:=h;exact⟨ar,ha,z8 hr hc⟩
 |dw xs=>
  obtain⟨ar,ha,hl,h2⟩:=h
  refine⟨ar,ha,hl,fun j y hy=> ?_⟩
  obtain⟨u,hu,h3⟩:=h2 j y hy
  have hy':y.2.all (C.refs n)=true:=List.all_eq_true.1 hr y (List.mem_of_getElem? hy)
  refine⟨u,hu,?_⟩
  obtain⟨b,cs⟩:=y
  cases b with
  |true=>obtain⟨a',e,hcs⟩:=h3;exact⟨a',e,z8 hy' hcs⟩
  |false=>
   obtain⟨x,e,hx,ho⟩:=h3
   subst e
   simp at hy'
   exact⟨x,rfl,BI hy' hx,ho⟩
 |any=>trivial
def FQ(n:Nat)(tm:List (Nat×V)):Bool:=tm.all fun x=>x.2.refs n
theorem JB{n:Nat}:∀(tm:List (Nat×V)) (t:Nat),FQ n tm=true→(look tm t).refs n=true
 |[],_,_=>rfl
 |(x,v)::tm,t,h=>by
  simp only[FQ,List.all_cons,Bool.and_eq_true] at h
  rw[look]
  split
  ·exact h.1
  ·exact JB tm t h.2
theorem RH{tm:List (Nat×V)}{own:List Obj}{Ω:Store}(n:Nat)(h1:FQ n tm=true)(h2:(own.take n).all (Obj.refs n)=true):fG N ⟨tm,own::Ω⟩ ⟨tm,own.take n::Ω⟩:=by
 intro a w σ β hR
 obtain⟨bo,bΩ,rfl,hlen⟩:=frames hR
 have hown:∀b,Own (own.take n::Ω) (bo.take n::bΩ) b→Own (own::Ω) (bo::bΩ) b:=by
  rintro b ⟨k,o,hv,e1,e2,e3⟩
  exact⟨k,o,hv,(j3 e1).1,(j3 e2).1,e3⟩
 refine⟨σ,bo.take n::bΩ,⟨hR.size,hR.defers,⟨fun k o ho=> ?_,fun k k' o o' h1 h2 b e1 e2 e3 e4 e5 e6=> ?_,⟨by have:=hR.S.shape.1;simpa using this,fun l fr hl=> ?_⟩,hR.S.live,hR.S.mY⟩,fun t=>U1 (JB tm t h1) (hR.T t)⟩,
  ⟨Nat.le_refl _,rfl,rfl,fun _ _ _=>⟨rfl,rfl⟩,bR.refl _ _,fun b hb=>.inl (hown b hb)⟩,Keep.refl _ _⟩
 ·obtain⟨ho',hk⟩:=j3 ho
  obtain⟨hv,hh,hr⟩:=hR.S.obj k o ho'
  refine⟨hv,(gI hk).trans hh,?_⟩
  obtain⟨l,j⟩:=k
  cases l with
  |zero=>
   cases o with
   |dead=>trivial
   |box cs=>
    obtain⟨b,cc,t,e,hb,hs,hc⟩:=hr
    rw[aR] at ho
    have hcs:cs.all (C.refs n)=true:=List.all_eq_true.1 h2 (.box cs) (List.mem_of_getElem? ho)
    exact⟨b,cc,t,e,hb,hs,z8 hcs hc⟩
   |tok=>exact hr
   |dK=>exact hr
   |mp=>exact hr
   |dW=>exact hr
   |seed=>exact hr
   |xf=>exact hr
  |succ l=>exact hr
 ·exact hR.S.apart k k' o o' h1 h2 b (j3 e1).1 (j3 e2).1 e3 (j3 e4).1 (j3 e5).1 e6
 ·cases l with
  |zero=>
   simp at hl;subst hl
   exact⟨_,rfl,by simp[hlen]⟩
  |succ l=>exact hR.S.shape.2 (l+1) fr hl
def C.j6(j:Nat)(es:List (List D)):C→C
 | .iR (0,i)=>if i=j then .d (.sl es) else .iR (0,i)
 |c=>c
def V.j6(j:Nat)(es:List (List D)):V→V
 | .c x=>.c (x.j6 j es)
 | .agg cs=>.agg (cs.map (C.j6 j es))
 | .dw xs=>.dw (xs.map fun y=>(y.1,y.2.map (C.j6 j es)))
 | .any=>.any
def Obj.j6(j:Nat)(es:List (List D)):Obj→Obj
 | .box cs=>.box (cs.map (C.j6 j es))
 |o=>o
theorem Aa{f:V→V}(hf:f .any=.any):∀(tm:List (Nat×V)) (t:Nat),look (tm.map fun x=>(x.1,f x.2)) t=f (look tm t)
 |[],_=>hf.symm
 |(x,v)::tm,t=>by
  show(if x=t then f v else look (tm.map fun x=>(x.1,f x.2)) t)=f (if x=t then v else look tm t)
  split
  ·rfl
  ·exact Aa hf tm t
def V.iX(f:C→C):V→V
 | .c x=>.c (f x)
 | .agg cs=>.agg (cs.map f)
 | .dw xs=>.dw (xs.map fun y=>(y.1,y.2.map f))
 | .any=>.any
def Obj.iX(f:C→C):Obj→Obj
 | .box cs=>.box (cs.map f)
 |o=>o
theorem sO{f:C→C}{own:List Obj}{j i:Nat}:((own.map (Obj.iX f)).set j .dead)[i]? =if i=j then(if j<own.length then some .dead else none) else(own[i]?).map (Obj.iX f):=by
 rw[List.getElem?_set]
 by_cases e:j=i
 ·subst e;simp
 ·rw[if_neg e,if_neg (Ne.symm e),List.getElem?_map]
theorem rE{f:C→C}{own:List Obj}{Ω:Store}{j:Nat}{oj:Obj}(hj:own[j]? =some oj){k:Key}{o:Obj}(hk:aJ (own::Ω) k=some o):
 ∃o',aJ ((own.map (Obj.iX f)).set j .dead::Ω) k=some o'∧((k=(0,j)∧o'=.dead)∨(k≠(0,j)∧(o'=o∨o'=o.iX f))):=by
 obtain⟨l,i⟩:=k
 cases l with
 |zero=>
  rw[aR] at hk
  by_cases e:i=j
  ·subst e
   refine⟨.dead,?_,.inl ⟨rfl,rfl⟩⟩
   rw[aR,sO,if_pos rfl,if_pos (List.getElem?_eq_some_iff.1 hj).1]
  ·refine⟨o.iX f,?_,.inr ⟨fun x=>e (by cases x;rfl),.inr rfl⟩⟩
   rw[aR,sO,if_neg e,hk];rfl
 |succ l=>exact⟨o,by rw[bf] at hk ⊢;exact hk,.inr ⟨by simp,.inl rfl⟩⟩
theorem nH{f:C→C}{o o':Obj}(h:o'=o∨o'=o.iX f):(∀z es,nO o' z es→nO o z es)∧(∀z es,o'=.dK z es→o=.dK z es)∧(∀m,o'=.mp m→o=.mp m)∧(∀cs,o'=.box cs→∃cs',o=.box cs')∧(∀rs,o'=.xf rs→o=.xf rs):=by
 rcases h with rfl|rfl
 ·exact⟨fun _ _ h=>h,fun _ _ h=>h,fun _ h=>h,fun cs h=>⟨cs,h⟩,fun _ h=>h⟩
 ·cases o<;>simp[Obj.iX,nO]
theorem FR{f:C→C}{own:List Obj}{Ω:Store}{bo:List Value}{bΩ:Hs}{j:Nat}{oj:Obj}(hj:own[j]? =some oj)(hn:bR w σ w σ'){c:C}{v:Value}(hc:fZ w σ (own::Ω) (bo::bΩ) c v):
 fZ w σ' ((own.map (Obj.iX f)).set j .dead::Ω) (bo::bΩ) c v:=by
 cases c with
 |d x=>exact bB.mono hn hc
 |any=>trivial
 |aY es'=>exact⟨bB.mono hn hc.1,hc.2⟩
 |iI n es'=>exact⟨bB.mono hn hc.1,hc.2⟩
 |jC cs=>obtain⟨ad,h1,h2⟩:=hc;exact⟨ad,h1,h2.mono hn⟩
 |bQ k es'=>
  obtain⟨h1,o,ho,h2⟩:=hc
  obtain⟨o',ho',hcase⟩:=rE hj ho
  refine⟨bB.mono hn h1,o',ho',fun z e4 e=> ?_⟩
  rcases hcase with⟨_,e'⟩|⟨_,e'⟩
  ·rw[e'] at e;rcases e with e|⟨_,e⟩<;>cases e
  ·exact h2 _ _ ((nH e').1 _ _ e)
 |ptr k off=>
  obtain⟨o,ho,h2⟩:=hc
  obtain⟨o',ho',hcase⟩:=rE hj ho
  refine⟨o',ho',fun cs e=> ?_⟩
  rcases hcase with⟨_,e'⟩|⟨_,e'⟩
  ·rw[e'] at e;cases e
  ·obtain⟨cs',e''⟩:=(nH e').2.2.2.1 _ e
   exact h2 _ e''
 |jH k i off=>
  obtain⟨o,ho,h2⟩:=hc
  obtain⟨o',ho',hcase⟩:=rE hj ho
  refine⟨o',ho',fun z e4 e=> ?_⟩
  rcases hcase with⟨_,e'⟩|⟨_,e'⟩
  ·rw[e'] at e;cases e
  ·exact h2 _ _ ((nH e').2.1 _ _ e)
 |iR k=>
  obtain⟨o,ho,h2⟩:=hc
  obtain⟨o',ho',hcase⟩:=rE hj ho
  refine⟨o',ho',fun z e4 e=> ?_⟩
  rcases hcase with⟨_,e'⟩|⟨_,e'⟩
  ·rw[e'] at e;cases e
  ·exact h2 _ _ ((nH e').2.1 _ _ e)
 |mp k=>
  obtain⟨o,ho,h2⟩:=hc
  obtain⟨o',ho',hcase⟩:=rE hj ho
  refine⟨o',ho',fun m e=> ?_⟩
  rcases hcase with⟨_,e'⟩|⟨_,e'⟩
  ·rw[e'] at e;cases e
  ·exact h2 _ ((nH e').2.2.1 _ e)
 |fn f caps=>
  obtain⟨vs,hv,hl,h2⟩:=hc
  refine⟨vs,hv,hl,fun i k off e=> ?_⟩
  obtain⟨u,hu,h1c,o,ho,h3⟩:=h2 i k off e
  obtain⟨o',ho',hcase⟩:=rE hj ho
  refine⟨u,hu,h1c,o',ho',fun cs e=> ?_⟩
  rcases hcase with⟨_,e'⟩|⟨_,e'⟩
  ·rw[e'] at e;cases e
  ·obtain⟨cs',e''⟩:=(nH e').2.2.2.1 _ e
   exact h3 _ e''
 |xp k r p=>
  obtain⟨o,ho,h2⟩:=hc
  obtain⟨o',ho',hcase⟩:=rE hj ho
  refine⟨o',ho',fun rs e=> ?_⟩
  rcases hcase with⟨_,e'⟩|⟨_,e'⟩
  ·rw[e'] at e;cases e
  ·exact h2 _ ((nH e').2.2.2.2 _ e)
 |xq k r p z i off=>
  obtain⟨o,ho,h2⟩:=hc
  obtain⟨o',ho',hcase⟩:=rE hj ho
  refine⟨o',ho',fun rs e=> ?_⟩
  rcases hcase with⟨_,e'⟩|⟨_,e'⟩
  ·rw[e'] at e;cases e
  ·exact h2 _ ((nH e').2.2.2.2 _ e)
theorem Mf{f:C→C}{tm:List (Nat×V)}{own:List Obj}{Ω:Store}{bo:List Value}{bΩ:Hs}(j:Nat){oj:Obj}{hj:Value}(hoj:own[j]? =some oj)(hbj:bo[j]? =some hj)(hR:iD N ⟨tm,own::Ω⟩ a w σ (bo::bΩ))(hlen:bo.length=own.length)
 (hn:bR w σ w σ') (hch:∀x,¬owns oj hj x→σ' x=σ x) (hlive:∀x,x<w.heap.size∨σ' x=0)
 (hC:∀(c:C) (v:Value),fZ w σ (own::Ω) (bo::bΩ) c v→fZ w σ' ((own.map (Obj.iX f)).set j .dead::Ω) (bo::bΩ) (f c) v):
 iD N ⟨tm.map fun x=>(x.1,x.2.iX f),(own.map (Obj.iX f)).set j .dead::Ω⟩ a w σ' (bo::bΩ)∧Step (own::Ω) (bo::bΩ) σ w ((own.map (Obj.iX f)).set j .dead::Ω) (bo::bΩ) σ' w:=by
 have KY:∀k o,aJ ((own.map (Obj.iX f)).set j .dead::Ω) k=some o→(k=(0,j)∧o=.dead)∨(k≠(0,j)∧∃o0,aJ (own::Ω) k=some o0∧(o=o0∨o=o0.iX f)∧(0<k.1→o=o0)∧∀h b,owns o h b↔owns o0 h b):=by
  intro k o hk
  obtain⟨l,i⟩:=k
  cases l with
  |zero=>
   rw[aR,sO] at hk
   by_cases e:i=j
   ·subst e
    rw[if_pos rfl,if_pos (List.getElem?_eq_some_iff.1 hoj).1] at hk
    cases hk;exact .inl ⟨rfl,rfl⟩
   ·rw[if_neg e] at hk
    cases ho:own[i]? with
    |none=>rw[ho] at hk;cases hk
    |some o0=>
     rw[ho] at hk;cases hk
     refine .inr ⟨fun x=>e (by cases x;rfl),o0,by rw[aR];exact ho,.inr rfl,fun h=>absurd h (by simp),fun h b=> ?_⟩
     cases o0 with
     |box cs=>cases h<;>first|exact Iff.rfl|(rename_i x;cases x<;>exact Iff.rfl)
     |_=>exact Iff.rfl
  |succ l=>rw[bf] at hk;exact .inr ⟨by simp,o,by rw[bf];exact hk,.inl rfl,fun _=>rfl,fun _ _=>Iff.rfl⟩
 have hCs:∀(cs:List C) (vs:List Value),dR w σ (own::Ω) (bo::bΩ) cs vs→dR w σ' ((own.map (Obj.iX f)).set j .dead::Ω) (bo::bΩ) (cs.map f) vs:=by
  intro cs vs hc
  refine⟨by simpa using hc.1,fun i x hx=> ?_⟩
  rw[List.getElem?_map] at hx
  cases hci:cs[i]? with
  |none=>rw[hci] at hx;cases hx
  |some y=>
   rw[hci] at hx;cases hx
   obtain⟨v,hv,hr,ho⟩:=hc.2 i y hci
   exact⟨v,hv,hC y v hr,ho⟩
 have hother:∀k o h x,k≠(0,j)→aJ (own::Ω) k=some o→aJ (bo::bΩ) k=some h→owns o h x→σ' x=σ x:=by
  intro k o h x hk e1 e2 e3
  refine hch x fun e4=>hk ?_
  exact hR.S.apart k (0,j) o _ h _ x e1 e2 e3 (by rw[aR];exact hoj) (by rw[aR];exact hbj) e4
 refine⟨⟨hR.size,hR.defers,⟨fun k o ho=> ?_,fun k k' o o' h1 h2 b' e1 e2 e3 e4 e5 e6=> ?_,⟨by have:=hR.S.shape.1;simpa using this,fun l fr hl=> ?_⟩,hlive,hR.S.mY.near hn⟩,fun t=> ?_⟩,⟨Nat.le_refl _,rfl,rfl,fun x hx hno=>⟨rfl,?_⟩,hn,fun x hx=> ?_⟩⟩
 ·rcases KY k o ho with⟨rfl,rfl⟩|⟨hk,o0,h0,hcase,hl0,how⟩
  ·exact⟨_,by rw[aR];exact hbj,trivial⟩
  ·obtain⟨hv,hhv,hr⟩:=hR.S.obj k o0 h0
   refine⟨hv,hhv,?_⟩
   have hbk:∀x,owns o0 hv x→w.heap[x]? =w.heap[x]? ∧σ' x=σ x:=fun x e=>⟨rfl,hother k o0 hv x hk h0 hhv e⟩
   obtain⟨l,i⟩:=k
   cases l with
   |succ l=>
    rw[hl0 (by simp)]
    exact eY.mono hn (Keep.refl _ _) hbk hr
   |zero=>
    cases o0 with
    |box cs=>
     obtain⟨b',cc',t',e',hb',hs',hc'⟩:=hr
     subst e'
     have he:o=.box (cs.map f):=by
      rw[aR,sO] at ho
      rw[aR] at h0
      split at ho
      ·rename_i e;exact absurd (by rw[e]) hk
      ·rw[h0] at ho;cases ho;rfl
     rw[he]
     exact⟨b',cc',t',rfl,hb',(hbk b' rfl).2.trans hs',hCs _ _ hc'⟩
    |dead=>rcases hcase with rfl|rfl<;>trivial
    |tok z es'=>
     have:o=.tok z es':=by rcases hcase with rfl|rfl<;>rfl
     rw[this]
     exact eY.mono (S:=[]) (β:=[]) (o:=(.tok z es')) hn (Keep.refl [] []) hbk hr
    |dK z es'=>
     have:o=.dK z es':=by rcases hcase with rfl|rfl<;>rfl
     rw[this]
     exact eY.mono (S:=[]) (β:=[]) (o:=(.dK z es')) hn (Keep.refl [] []) hbk hr
    |mp m=>
     have:o=.mp m:=by rcases hcase with rfl|rfl<;>rfl
     rw[this]
     exact eY.mono (S:=[]) (β:=[]) (o:=(.mp m)) hn (Keep.refl [] []) hbk hr
    |dW n z es'=>
     have:o=.dW n z es':=by rcases hcase with rfl|rfl<;>rfl
     rw[this]
     exact eY.mono (S:=[]) (β:=[]) (o:=(.dW n z es')) hn (Keep.refl [] []) hbk hr
    |seed n=>rcases hcase with rfl|rfl<;>trivial
    |xf rs=>
     have:o=.xf rs:=by rcases hcase with rfl|rfl<;>rfl
     rw[this]
     exact eY.mono (S:=[]) (β:=[]) (o:=(.xf rs)) hn (Keep.refl [] []) hbk hr
 ·rcases KY k o e1 with⟨rfl,rfl⟩|⟨hk,o0,f1,_,_,f2⟩
  ·cases e3
  ·rcases KY k' o' e4 with⟨rfl,rfl⟩|⟨hk',o0',g1,_,_,g2⟩
   ·cases e6
   ·exact hR.S.apart k k' o0 o0' h1 h2 b' f1 e2 ((f2 _ _).1 e3) g1 e5 ((g2 _ _).1 e6)
 ·cases l with
  |zero=>
   simp at hl;subst hl
   exact⟨_,rfl,by simp[hlen]⟩
  |succ l=>exact hR.S.shape.2 (l+1) fr hl
 ·show bF w σ' ((own.map (Obj.iX f)).set j .dead::Ω) (bo::bΩ) (look (tm.map fun x=>(x.1,x.2.iX f)) t) _
  rw[Aa (f:=V.iX f) rfl]
  have ht:=hR.T t
  cases hx:look tm t with
  |c x=>rw[hx] at ht;exact⟨hC x _ ht.1,ht.2⟩
  |agg cs=>rw[hx] at ht;obtain⟨ar,e,hc⟩:=ht;exact⟨ar,e,hCs _ _ hc⟩
  |dw xs=>
   rw[hx] at ht
   obtain⟨ar,e,hl,h2⟩:=ht
   refine⟨ar,e,by simpa using hl,fun i y hy=> ?_⟩
   rw[List.getElem?_map] at hy
   cases hxi:xs[i]? with
   |none=>rw[hxi] at hy;cases hy
   |some z=>
    rw[hxi] at hy;cases hy
    obtain⟨u,hu,h3⟩:=h2 i z hxi
    refine⟨u,hu,?_⟩
    obtain⟨bb,cs⟩:=z
    cases bb with
    |true=>obtain⟨a',e',hcs⟩:=h3;exact⟨a',e',hCs _ _ hcs⟩
    |false=>
     obtain⟨x,e',hxr,ho⟩:=h3
     subst e'
     exact⟨_,rfl,hC x _ hxr,ho⟩
  |any=>trivial
 ·exact hch x fun e=>hno ⟨(0,j),_,_,by rw[aR];exact hoj,by rw[aR];exact hbj,e⟩
 ·left
  obtain⟨k,o,h1,e1,e2,e3⟩:=hx
  rcases KY k o e1 with⟨rfl,rfl⟩|⟨hk,o0,f1,_,_,f2⟩
  ·cases e3
  ·exact⟨k,o0,h1,f1,e2,(f2 _ _).1 e3⟩
theorem Yb{j:Nat}{es:List (List D)}:Obj.j6 j es=Obj.iX (C.j6 j es):=by funext o;cases o<;>rfl
theorem Yc{j:Nat}{es:List (List D)}:V.j6 j es=V.iX (C.j6 j es):=by funext v;cases v<;>rfl
theorem aaX{tm:List (Nat×V)}{own:List Obj}{Ω:Store}(j:Nat)(aF:Nat)(es:List (List D))(hj:own[j]? =some (.dK aF es))(hR:iD N ⟨tm,own::Ω⟩ a w σ β):
 ∃σ' β',iD N ⟨tm.map fun x=>(x.1,x.2.j6 j es),(own.map (Obj.j6 j es)).set j .dead::Ω⟩ a w σ' β'∧Step (own::Ω) β σ w ((own.map (Obj.j6 j es)).set j .dead::Ω) β' σ' w∧
  Keep (eB (own::Ω)) (eB β) (eB ((own.map (Obj.j6 j es)).set j .dead::Ω)) (eB β'):=by
 obtain⟨bo,bΩ,rfl,hlen⟩:=frames hR
 obtain⟨hh,hb,hr⟩:=hR.S.obj (0,j) _ (by rw[aR];exact hj)
 rw[aR] at hb
 obtain⟨σ',hn,hch,hlive,hdata⟩:∃σ',bR w σ w σ'∧(∀x,¬owns (.dK aF es) hh x→σ' x=σ x)∧(∀x,x<w.heap.size∨σ' x=0)∧bB w σ' (.sl es) hh:=by
  obtain⟨hle,ad,cap,rfl,hcap,h4⟩:=hr
  by_cases h0:cap=0
  ·obtain rfl:es=[]:=List.eq_nil_of_length_eq_zero (by omega)
   exact⟨σ,bR.refl _ _,fun _ _=>rfl,hR.S.live,.nil _ _⟩
  rcases h4 with h4|⟨b,cc,ty,rfl,hbc,hσ,hcz,hcells⟩
  ·exact absurd h4 h0
  have hsz:es.length*aF≤cc.size:=Nat.le_trans (Nat.mul_le_mul_right _ hcap) hcz
  let σ':Nat→Nat:=fun x=>if x=b then es.length*aF else σ x
  have hn:bR w σ w σ':=by
   intro b1 c1 t1 zh e1
   by_cases e:b1=b
   ·subst e
    rw[hbc] at e1;cases e1
    exact⟨by simp only[σ',if_true];omega,fun h=>by omega,cc,hbc,rfl,fun _ _=>rfl⟩
   ·exact⟨by simp only[σ',if_neg e];exact Nat.le_refl _,fun _=>if_neg e,c1,e1,rfl,fun _ _=>rfl⟩
  refine⟨σ',hn,fun x hx=>if_neg fun e=>hx (by subst e;simp[owns,blk,h0]),fun x=> ?_,?_⟩
  ·by_cases e:x=b
   ·left;subst e;exact lt_of_some hbc
   ·simp only[σ',if_neg e];exact hR.S.live x
  ·have hfl:=gM es aF hle
   refine .sl b 0 cap aF es (fun i=>(cc[i]?).getD undef) cc ty (0,0) hcap hle hbc (by simp[σ']) (fun i hi=> ?_) (fun i d hd=> ?_)
   ·obtain⟨v,hv,_⟩:=hcells i _ (List.getElem?_eq_getElem (by omega))
    simp[hv]
   ·obtain⟨v,hv,hr⟩:=hcells i d hd
    simp only[hv,Option.getD_some]
    exact hr.mono hn
 rw[Yb,Yc]
 have:=Mf (f:=C.j6 j es) j hj hb hR hlen hn hch hlive (fun c v hc=>by
  by_cases hm:c=.iR (0,j)
  ·subst hm
   obtain⟨o,ho,h2⟩:=hc
   rw[aR,hj] at ho;cases ho
   have hv:=h2 _ _ rfl
   rw[aR,hb] at hv
   cases hv
   simp only[C.j6,if_true]
   exact hdata
  ·have hfr:C.j6 j es c=c:=by
    cases c with
    |iR k=>
     obtain⟨l,i⟩:=k
     cases l with
     |zero=>simp only[C.j6];rw[if_neg (fun e=>hm (by rw[e]))]
     |succ l=>rfl
    |_=>rfl
   rw[hfr]
   exact FR hj hn hc)
 exact⟨σ',_,this.1,this.2,Keep.refl _ _⟩
def C.lab(row:Bool)(j n:Nat)(es:List (List D)):C→C
 | .iR (0,i)=>if i=j∧row=true then .d (.ol n es) else .iR (0,i)
 | .bQ (0,i) es'=>if i=j∧row=false∧es'.length=es.length then .d (.ol n es) else .bQ (0,i) es'
 |c=>c
def FT(row:Bool)(n aF:Nat)(es:List (List D)):Obj:=match row with|true=>.dK aF es|false=>.dW n aF es
theorem Qq{tm:List (Nat×V)}{own:List Obj}{Ω:Store}(j n:Nat)(aF:Nat)(es:List (List D))(row:Bool)(hj:own[j]? =some (FT row n aF es))(hR:iD N ⟨tm,own::Ω⟩ a w σ β):
 ∃σ' β',iD N ⟨tm.map fun x=>(x.1,x.2.iX (C.lab row j n es)),(own.map (Obj.iX (C.lab row j n es))).set j .dead::Ω⟩ a w σ' β'∧Step (own::Ω) β σ w ((own.map (Obj.iX (C.lab row j n es))).set j .dead::Ω) β' σ' w∧
  Keep (eB (own::Ω)) (eB β) (eB ((own.map (Obj.iX (C.lab row j n es))).set j .dead::Ω)) (eB β'):=by
 obtain⟨bo,bΩ,rfl,hlen⟩:=frames hR
 have key:∃hh σ',bo[j]? =some hh∧bR w σ w σ'∧(∀x,¬owns (FT row n aF es) hh x→σ' x=σ x)∧(∀x,x<w.heap.size∨σ' x=0)∧bB w σ' (.ol n es) hh:=by
  have U2:∀(b off cap:Nat) (c:Array Value) (t:TypeId),w.heap[b]? =some (.cells c t (0,0))→σ b≤c.size→(∀e∈es,e.length=aF)→off+es.length*aF≤c.size→es.length≤cap→
   (∀(i:Nat) (d:D),es.flatten[i]? =some d→∃v,c[off+i]? =some v∧bB w σ d v)→
   bR w σ w (fun x=>if x=b then c.size+1+n else σ x)∧(∀x,x<w.heap.size∨(fun x=>if x=b then c.size+1+n else σ x) x=0)∧bB w (fun x=>if x=b then c.size+1+n else σ x) (.ol n es) (.slice (some ⟨b,off,none⟩) es.length cap):=by
   intro b off cap c t hb hσ hle hsz hcap hcells
   have hn:bR w σ w (fun x=>if x=b then c.size+1+n else σ x):=by
    intro b1 c1 t1 zh e1
    by_cases e:b1=b
    ·subst e
     rw[hb] at e1;cases e1
     exact⟨by simp only[if_true];omega,fun h=>by omega,c,hb,rfl,fun _ _=>rfl⟩
    ·exact⟨by simp only[if_neg e];exact Nat.le_refl _,fun _=>if_neg e,c1,e1,rfl,fun _ _=>rfl⟩
   refine⟨hn,fun x=> ?_,?_⟩
   ·by_cases e:x=b
    ·left;subst e;exact lt_of_some hb
    ·simp only[if_neg e];exact hR.S.live x
   ·have hfl:=gM es aF hle
    refine .ol n b off cap aF es (fun i=>(c[off+i]?).getD undef) c t hcap hle hb (by simp) hsz (fun i hi=> ?_) (fun i d hd=> ?_)
    ·obtain⟨v,hv,_⟩:=hcells i _ (List.getElem?_eq_getElem (by omega))
     simp[hv]
    ·obtain⟨v,hv,hr⟩:=hcells i d hd
     simp only[hv,Option.getD_some]
     exact hr.mono hn
  cases row with
  |true=>
   obtain⟨hh,hb,hr⟩:=hR.S.obj (0,j) _ (by rw[aR];exact hj)
   obtain⟨hle,ad,cap,rfl,hcap,h4⟩:=hr
   rw[aR] at hb
   by_cases h0:cap=0
   ·obtain rfl:es=[]:=List.eq_nil_of_length_eq_zero (by omega)
    exact⟨_,σ,hb,bR.refl _ _,fun _ _=>rfl,hR.S.live,.rX _ _ _⟩
   rcases h4 with h4|⟨b,cc,ty,rfl,hbc,hσ,hcz,hcells⟩
   ·exact absurd h4 h0
   have hsz:es.length*aF≤cc.size:=Nat.le_trans (Nat.mul_le_mul_right _ hcap) hcz
   obtain⟨k1,k2,k3⟩:=U2 b 0 cap cc ty hbc (by omega) hle (by omega) hcap (fun i d hd=>by rw[Nat.zero_add];exact hcells i d hd)
   exact⟨_,_,hb,k1,fun x hx=>if_neg fun e=>hx (by subst e;simp[FT,owns,blk,h0]),k2,k3⟩
  |false=>
   obtain⟨hh,hb,hr⟩:=hR.S.obj (0,j) _ (by rw[aR];exact hj)
   obtain⟨h1,hle,ad,cap,rfl,hcap,hcase⟩:=hr
   rw[aR] at hb
   rcases hcase with⟨h4,h5⟩|⟨h4,b,off,c,t,rfl,hbc,hσ,hfit⟩
   ·exact⟨_,σ,hb,bR.refl _ _,fun _ _=>rfl,hR.S.live,h5⟩
   ·have hm:es.length*aF≤cap*aF:=Nat.mul_le_mul_right _ hcap
    obtain⟨k1,k2,k3⟩:=U2 b off cap c t hbc (by omega) hle (by omega) hcap (fun i d hd=>by
     cases h1 with
     |nil=>simp at hd
     |sl b' off' cap' oV es vals c' t' LB q1 q2 q3 q4 q5 q6=>
      rw[hbc] at q3;cases q3
      have hil:=(List.getElem?_eq_some_iff.1 hd).1
      rw[gM es aF hle] at hil
      have he:oV=aF:=by
       cases es with
       |nil=>simp at hil
       |cons y ys=>rw[←q2 y (by simp),hle y (by simp)]
      subst he
      exact⟨_,q5 i hil,q6 i d hd⟩)
    exact⟨_,_,hb,k1,fun x hx=>if_neg fun e=>hx (by subst e;simp[FT,owns,blk,h4]),k2,k3⟩
 obtain⟨hh,σ',hb,hn,hch,hlive,hdata⟩:=key
 have:=Mf (f:=C.lab row j n es) j hj hb hR hlen hn hch hlive (fun c v hc=>by
  by_cases hm:c=.iR (0,j)∧row=true
  ·obtain⟨rfl,rfl⟩:=hm
   simp only[C.lab,and_self,if_true]
   obtain⟨o,ho,h2⟩:=hc
   rw[aR,hj] at ho;cases ho
   have hv:=h2 _ _ rfl
   rw[aR,hb] at hv
   cases hv
   exact hdata
  ·by_cases ht:∃es',c=.bQ (0,j) es'∧row=false∧es'.length=es.length
   ·obtain⟨es',rfl,rfl,hl⟩:=ht
    simp only[C.lab,hl,and_self,if_true]
    obtain⟨h1,o,ho,h2⟩:=hc
    rw[aR,hj] at ho;cases ho
    have hv:=(h2 _ _ (.inr ⟨n,rfl⟩)).2 hl
    rw[aR,hb] at hv
    cases hv
    exact hdata
   ·have hfr:C.lab row j n es c=c:=by
     cases c with
     |iR k=>
      obtain⟨l,i⟩:=k
      cases l with
      |zero=>simp only[C.lab];rw[if_neg (fun e=>hm ⟨by rw[e.1],e.2⟩)]
      |succ l=>rfl
     |bQ k es'=>
      obtain⟨l,i⟩:=k
      cases l with
      |zero=>simp only[C.lab];rw[if_neg (fun e=>ht ⟨es',by rw[e.1],e.2⟩)]
      |succ l=>rfl
     |_=>rfl
    rw[hfr]
    exact FR hj hn hc)
 exact⟨σ',_,this.1,this.2,Keep.refl _ _⟩
def FU(j:Nat)(s:St):St:=
 match s.st with
 |own::Ω=>match own[j]? with
  |some (.dK _ es)=>⟨s.tm.map fun x=>(x.1,x.2.j6 j es),(own.map (Obj.j6 j es)).set j .dead::Ω⟩
  |_=>s
 |[]=>s
def FV:Nat→St→St
 |0,s=>s
 |n+1,s=>FV n (FU n s)
def zm(s:St):St:=
 match s.st with
 |own::_=>FV own.length s
 |[]=>s
theorem OE(j:Nat)(s:St):fG N s (FU j s):=by
 obtain⟨tm,st⟩:=s
 cases st with
 |nil=>exact fG.refl _ _
 |cons own Ω=>
  unfold FU
  simp only
  split
  ·rename_i z es hj
   exact fun a w σ β hR=>aaX j z es hj hR
  ·exact fG.refl _ _
theorem Eb:∀(n:Nat) (s:St),fG N s (FV n s)
 |0,s=>fG.refl _ _
 |n+1,s=>(OE n s).trans (Eb n _)
theorem BJ(s:St):fG N s (zm s):=by
 unfold zm
 split
 ·exact Eb _ _
 ·exact fG.refl _ _
theorem FW{c:Code}{Q:Exit→St→Prop}{g:St→St}(hg:∀s,fG N s (g s))(h:AW P N c (fun e s'=>Q e (g s')) s):AW P N c Q s:=by
 intro a w σ β hR
 refine wp_mono (h a w σ β hR) ?_
 rintro e a' w' ⟨s',σ',β',k1,k2,k3,k4⟩
 obtain⟨σ2,β2,r2,st2,kk2⟩:=hg s' a' w' σ' β' k1
 exact⟨_,σ2,β2,r2,k2.trans st2,k3.trans kk2,k4⟩
end
end Go.Ab
namespace Go.Ab
section
variable {P:Program} {E:Md} {S S':Store} {N:Nat} {s:St}
def lookO(tm:List (Nat×V))(t:Option Nat):Option V:=t.map (look tm)
theorem Mg{tm:List (Nat×V)}{t:Option Nat}:lookO tm t=t.map (look tm):=rfl
theorem RI{tm:List (Nat×V)}{t:Nat}:lookO tm (some t)=some (look tm t):=rfl
theorem RJ{tm:List (Nat×V)}:lookO tm none=none:=rfl
def zn(tm:List (Nat×V))(l:List Operand):List V:=l.map (ev tm)
theorem aaY{tm:List (Nat×V)}:zn tm []=[]:=rfl
theorem Yd{tm:List (Nat×V)}{x:Operand}{l:List Operand}:zn tm (x::l)=ev tm x::zn tm l:=rfl
def JC(tm:List (Nat×V))(x:Option Operand):Option V:=x.map (ev tm)
theorem Ye{tm:List (Nat×V)}{x:Operand}:JC tm (some x)=some (ev tm x):=rfl
theorem Yf{tm:List (Nat×V)}:JC tm none=none:=rfl
def JD(tm:List (Nat×V))(l:List (Nat×Operand)):List (Nat×V):=l.map fun x=>(x.1,ev tm x.2)
theorem aaZ{tm:List (Nat×V)}:JD tm []=[]:=rfl
theorem Yg{tm:List (Nat×V)}{i:Nat}{x:Operand}{l:List (Nat×Operand)}:JD tm ((i,x)::l)=(i,ev tm x)::JD tm l:=rfl
def Split(x:Bool)(A B:St→Prop)(s:St):Prop:=(x=true→A s)∧(x=false→B s)
theorem dP{x:Bool}{A B:St→Prop}(h1:x=true→A s)(h2:x=false→B s):Split x A B s:=⟨h1,h2⟩
theorem RL{A B:St→Prop}:Split true A B s=A s:=by simp[Split]
theorem OG{A B:St→Prop}:Split false A B s=B s:=by simp[Split]
def Mh(dst:Option Nat)(v:V)(K:St→Prop)(s:St):Prop:=K (s.put dst v)
theorem aa0{dst:Option Nat}{v:V}{K:St→Prop}:Mh dst v K s=K (s.put dst v):=rfl
def RN(P:Program)(o:Oper)(K:St→Prop)(s:St):Prop:=fu P o s K
def Mi(P:Program)(E:Md)(o:Oper)(K:St→Prop)(s:St):Prop:=dM P E o s K
theorem Yh{o:Oper}{K:St→Prop}:RN P o K s=fu P o s K:=rfl
theorem U3{o:Oper}{K:St→Prop}:Mi P E o K s=dM P E o s K:=rfl
def xw(dst:Option Nat)(want:Bool)(A K:St→Prop)(s:St):Option V→Prop
 |some (.c (.d (.b x)))=>match want with
  |true=>Split x A (Mh dst (.dw []) K) s
  |false=>Split x (Mh dst (.dw []) K) A s
 |some (.dw [])=>K (s.put dst (.dw []))
 |_=>False
theorem OH{R:Array Oper}{dst op ty pos after}{K:St→Prop}:pR P R ⟨dst,op,ty,pos,after,none⟩ s K=fu P ⟨dst,op,ty,pos,after,none⟩ s K:=rfl
theorem OI{R:Array Oper}{dst op ty pos after j want}{K:St→Prop}:pR P R ⟨dst,op,ty,pos,after,some (j,want)⟩ s K=
 xw dst want (RN P ⟨dst,op,ty,pos,after,some (j,want)⟩ K) K s (lookO s.tm (dZ R j)):=by
 show pR P R _ s K=_
 simp only[pR,←Mg]
 generalize lookO s.tm (dZ R j)=v
 cases v with
 |none=>rfl
 |some v=>
  cases v with
  |c x=>cases x with
   |d x=>cases x with
    |b x=>cases want<;>simp[xw,Split,Mh,RN,and_comm]
    |_=>rfl
   |_=>rfl
  |dw l=>cases l<;>rfl
  |_=>rfl
theorem Mj{R:Array Oper}{dst op ty pos after}{K:St→Prop}:lG P E R ⟨dst,op,ty,pos,after,none⟩ s K=dM P E ⟨dst,op,ty,pos,after,none⟩ s K:=rfl
theorem Mk{R:Array Oper}{dst op ty pos after j want}{K:St→Prop}:lG P E R ⟨dst,op,ty,pos,after,some (j,want)⟩ s K=
 xw dst want (Mi P E ⟨dst,op,ty,pos,after,some (j,want)⟩ K) K s (lookO s.tm (dZ R j)):=by
 simp only[lG,←Mg]
 generalize lookO s.tm (dZ R j)=v
 cases v with
 |none=>rfl
 |some v=>
  cases v with
  |c x=>cases x with
   |d x=>cases x with
    |b x=>cases want<;>simp[xw,Split,Mh,Mi,and_comm]
    |_=>rfl
   |_=>rfl
  |dw l=>cases l<;>rfl
  |_=>rfl
@[congr] theorem aeo {R:Array Oper} {os:List Oper} {s s':St} {K:St→Prop} (h2:s=s'):w9 P R os s K=w9 P R os s' K:=by rw[h2]
@[congr] theorem aep {R:Array Oper} {os:List Oper} {s s':St} {K:St→Prop} (h2:s=s'):pq P E R os s K=pq P E R os s' K:=by rw[h2]
@[congr] theorem acN {R:Array Oper} {o:Oper} {s s':St} {K:St→Prop} (h2:s=s'):pR P R o s K=pR P R o s' K:=by rw[h2]
@[congr] theorem ach {R:Array Oper} {o:Oper} {s s':St} {K:St→Prop} (h2:s=s'):lG P E R o s K=lG P E R o s' K:=by rw[h2]
@[congr] theorem acO {dst:Option Nat} {want:Bool} {A K:St→Prop} {s s':St} {v v':Option V} (h2:s=s') (h3:v=v'):xw dst want A K s v=xw dst want A K s' v':=by rw[h2,h3]
@[congr] theorem adU {x x':Bool} {A B:St→Prop} {s s':St} (h:x=x') (h2:s=s'):Split x A B s=Split x' A B s':=by rw[h,h2]
@[congr] theorem adV {o:Oper} {s s':St} {K:St→Prop} (h2:s=s'):bq P o s K=bq P o s' K:=by rw[h2]
@[congr] theorem adW {o:Oper} {s s':St} {K:St→Prop} (h2:s=s'):fu P o s K=fu P o s' K:=by rw[h2]
@[congr] theorem aer {t:TypeId} {s s':St} {dst:Option Nat} {K:St→Prop} {b b':Bool} {r r':R} (h1:s=s') (h2:b=b') (h3:r=r'):Bz P t s dst K b r=Bz P t s' dst K b' r':=by rw[h1,h2,h3]
@[congr] theorem aci {t u:TypeId} {a a' x x':V} {s s':St} {dst:Option Nat} {K:St→Prop} (h1:a=a') (h3:x=x') (h2:s=s'):wL P t u a x s dst K=wL P t u a' x' s' dst K:=by rw[h1,h2,h3]
@[congr] theorem acP {t u:TypeId} {k:Key} {x x':V} {s s':St} {dst:Option Nat} {K:St→Prop} (h3:x=x') (h2:s=s'):zi P t u k x s dst K=zi P t u k x' s' dst K:=by rw[h2,h3]
@[congr] theorem acQ {o:Oper} {s s':St} {K:St→Prop} (h2:s=s'):dM P E o s K=dM P E o s' K:=by rw[h2]
@[congr] theorem aes {l l':Option Nat} {es es' x:List (List D)} {z:Nat} {s s':St} {dst:Option Nat} {K:St→Prop} (h1:l=l') (h2:es=es') (h3:s=s'):wZ l es s dst z x K=wZ l' es' s' dst z x K:=by rw[h1,h2,h3]
@[congr] theorem aeu {b b':Bool} {n:Nat} {x:List (List D)} {z:Nat} {s s':St} {dst:Option Nat} {K:St→Prop} (h1:b=b') (h3:s=s'):yO b n s dst z x K=yO b' n s' dst z x K:=by rw[h1,h3]
@[congr] theorem acR {s s':St} {dst:Option Nat} {o o':Obj} {mk:Key→V} {K:St→Prop} (h1:s=s') (h2:o=o'):newObj s dst o mk K=newObj s' dst o' mk K:=by rw[h1,h2]
@[congr] theorem acS {t:TypeId} {s s':St} {dst:Option Nat} {K:St→Prop} (h1:s=s'):pO P t s dst K=pO P t s' dst K:=by rw[h1]
@[congr] theorem aev {v v':V} {s s':St} {dst:Option Nat} {K:St→Prop} (h1:v=v') (h2:s=s'):wY v s dst K=wY v' s' dst K:=by rw[h1,h2]
@[congr] theorem acT {t:TypeId} {a a' x x':V} {s s':St} {dst:Option Nat} {K:St→Prop} (h1:a=a') (h3:x=x') (h2:s=s'):pQ P t a x s dst K=pQ P t a' x' s' dst K:=by rw[h1,h2,h3]
@[congr] theorem adX {t:TypeId} {a a' x x':V} {s s':St} {dst:Option Nat} {K:St→Prop} (h1:a=a') (h3:x=x') (h2:s=s'):sD P t a x s dst K=sD P t a' x' s' dst K:=by rw[h1,h2,h3]
@[congr] theorem acj {t u:TypeId} {a a' x x':V} {s s':St} {dst:Option Nat} {K:St→Prop} (h1:a=a') (h3:x=x') (h2:s=s'):mZ P t u a x s dst K=mZ P t u a' x' s' dst K:=by rw[h1,h2,h3]
@[congr] theorem acn {s s':St} {dst:Option Nat} {K:St→Prop} (h2:s=s'):oK s dst K=oK s' dst K:=by rw[h2]
@[congr] theorem aco {t:TypeId} {a a' x x' y y':V} {s s':St} {dst:Option Nat} {K:St→Prop} (h1:a=a') (h3:x=x') (h4:y=y') (h2:s=s'):oL P t a x y s dst K=oL P t a' x' y' s' dst K:=by rw[h1,h2,h3,h4]
@[congr] theorem adY {f:FuncId} {args args':List V} {s s':St} {dst:Option Nat} {K:St→Prop} (h1:args=args') (h2:s=s'):uE P f args s dst K=uE P f args' s' dst K:=by rw[h1,h2]
@[congr] theorem adZ {c:Call} {s s':St} {dst:Option Nat} {K:St→Prop} (h2:s=s'):kr P c s dst K=kr P c s' dst K:=by rw[h2]
@[congr] theorem ad2 {K:St→Prop} {Q:Exit→St→Prop} {e:Exit} {s s':St} (h2:s=s'):kW K Q e s=kW K Q e s':=by rw[h2]
def eO(s:St)(dst:Option Nat)(K:St→Prop)(r:R):Prop:=r.1∧K (s.put dst r.2)
@[congr] theorem ad3 {s s':St} {dst:Option Nat} {K:St→Prop} {r r':R} (h1:s=s') (h2:r=r'):eO s dst K r=eO s' dst K r':=by rw[h1,h2]
theorem Yi{dst:Option Nat}{K:St→Prop}{p:Prop}{v:V}:eO s dst K (p,v)=(p∧K (s.put dst v)):=rfl
def xA(caps:List (Key×Nat)):List V:=caps.map fun y=>.c (.ptr y.1 y.2)
def KZ(P:Program)(fv:V)(args:List V)(s:St)(dst:Option Nat)(K:St→Prop):Prop:=
 match fv with
 | .c (.fn f caps)=>uE P f (args++xA caps) s dst K
 |_=>False
def Ac(P:Program)(m:Nat)(f:FuncId)(args:List V)(s:St)(dst:Option Nat)(K:St→Prop):Prop:=
 match m with
 |0=>∃r,aD P f args r∧K (s.put dst r)
 |1=>∃S' v,DS s.st S'∧uE P f args s dst (fun t=>t=St.put ⟨s.tm,S'⟩ dst v)∧K (St.put ⟨s.tm,S'⟩ dst v)
 |_=>∃S' v,uE P f args s dst (fun t=>t=St.put ⟨s.tm,S'⟩ dst v)∧K (St.put ⟨s.tm,S'⟩ dst v)
def uI(P:Program)(m:Nat)(fv:V)(args:List V)(s:St)(dst:Option Nat)(K:St→Prop):Prop:=
 match fv with
 | .c (.fn f caps)=>Ac P m f (args++xA caps) s dst K
 |_=>False
@[congr] theorem ad4 {fv U4:V} {args args':List V} {s s':St} {dst:Option Nat} {K:St→Prop} (h1:fv=U4) (h3:args=args') (h2:s=s'):KZ P fv args s dst K=KZ P U4 args' s' dst K:=by rw[h1,h2,h3]
@[congr] theorem ad5 {m:Nat} {fv U4:V} {args args':List V} {s s':St} {dst:Option Nat} {K:St→Prop} (h1:fv=U4) (h3:args=args') (h2:s=s'):uI P m fv args s dst K=uI P m U4 args' s' dst K:=by rw[h1,h2,h3]
@[congr] theorem ad6 {m:Nat} {f:FuncId} {args args':List V} {s s':St} {dst:Option Nat} {K:St→Prop} (h1:args=args') (h2:s=s'):Ac P m f args s dst K=Ac P m f args' s' dst K:=by rw[h1,h2]
theorem OJ{x:Operand}{args:Array Operand}{ts:Array TypeId}{dst:Option Nat}{K:St→Prop}:kr P ⟨.value x,args,ts⟩ s dst K=KZ P (ev s.tm x) (zn s.tm args.toList) s dst K:=rfl
theorem Ml{x y:Operand}{t u:TypeId}{dst:Option Nat}{K:St→Prop}:kr P ⟨.builtin .append,#[x,y],#[t,u]⟩ s dst K=mZ P t u (ev s.tm x) (ev s.tm y) s dst K:=rfl
theorem U5{x:Operand}{t:TypeId}{dst:Option Nat}{K:St→Prop}:kr P ⟨.builtin .len,#[x],#[t]⟩ s dst K=eO s dst K (zP P s.st t (ev s.tm x)):=rfl
theorem U6{x y:Operand}{ts:Array TypeId}{dst:Option Nat}{K:St→Prop}:kr P ⟨.builtin .max,#[x,y],ts⟩ s dst K=eO s dst K (qO true (ev s.tm x) (ev s.tm y)):=rfl
theorem U7{x y:Operand}{ts:Array TypeId}{dst:Option Nat}{K:St→Prop}:kr P ⟨.builtin .min,#[x,y],ts⟩ s dst K=eO s dst K (qO false (ev s.tm x) (ev s.tm y)):=rfl
theorem Yj{x:Operand}{t:TypeId}{tm:List (Nat×V)}:nval P S tm (.call ⟨.builtin .len,#[x],#[t]⟩)=zP P S t (ev tm x):=rfl
def jJ(P:Program)(mode:Option Nat)(f:FuncId)(args:List V)(s:St)(dst:Option Nat)(K:St→Prop):Prop:=
 match mode with
 |some m=>Ac P m f args s dst K
 |none=>uE P f args s dst K
@[congr] theorem ad7 {dr:Option Nat} {f:FuncId} {args args':List V} {s s':St} {dst:Option Nat} {K:St→Prop} (h1:args=args') (h2:s=s'):jJ P dr f args s dst K=jJ P dr f args' s' dst K:=by rw[h1,h2]
theorem Yk{f:Nat}{caps:List (Key×Nat)}{args:List V}{dst:Option Nat}{K:St→Prop}:KZ P (.c (.fn f caps)) args s dst K=jJ P none f (args++xA caps) s dst K:=rfl
theorem Yl{m:Nat}{f:Nat}{caps:List (Key×Nat)}{args:List V}{dst:Option Nat}{K:St→Prop}:uI P m (.c (.fn f caps)) args s dst K=jJ P (some m) f (args++xA caps) s dst K:=rfl
theorem bH{dr:Option Nat}{f:FuncId}{args:List V}{dst:Option Nat}{K:St→Prop}{r:V}(h:aD P f (args.map V.mU) r)(hK:K (s.put dst r)):jJ P dr f args s dst K:=by
 cases dr with
 |none=>exact zZ h hK
 |some m=>
  match m with
  |0=>exact⟨r,fun S=>(h S).mU,hK⟩
  |1=>exact⟨s.st,r,DS.refl _,zZ h rfl,hK⟩
  |m+2=>exact⟨s.st,r,zZ h rfl,hK⟩
def aew:Option Nat→Bool
 |none=>true
 |some m=>decide (2≤m)
theorem bG{dr:Option Nat}{f:FuncId}{args:List V}{dst:Option Nat}{K:St→Prop}{r:V}{S1:Store}(hm:aew dr=true)(h:bD P f args s.st (fun r' S'=>r'=r∧S'=S1))(hK:K (St.put ⟨s.tm,S1⟩ dst r)):jJ P dr f args s dst K:=by
 cases dr with
 |none=>exact .inl ⟨_,h,fun r' S' e=>by rw[e.1,e.2];exact hK⟩
 |some m=>
  match m,hm with
  |0,hm=>cases hm
  |1,hm=>cases hm
  |m+2,_=>exact⟨S1,r,.inl ⟨_,h,fun r' S' e=>by rw[e.1,e.2]⟩,hK⟩
theorem acU{f:FuncId}{args:List V}{dst:Option Nat}{K:St→Prop}{r:V}(h:Rq P f args r)(hK:K (St.put s dst r)):jJ P none f args s dst K:=.inr ⟨r,h,hK⟩
def Dq(P:Program)(R:Array Oper)(os:List Oper)(K:St→Prop)(s:St):Prop:=w9 P R os s K
def Dr(P:Program)(E:Md)(R:Array Oper)(os:List Oper)(K:St→Prop)(s:St):Prop:=pq P E R os s K
@[congr] theorem ad8 {R:Array Oper} {os:List Oper} {s s':St} {K:St→Prop} (h2:s=s'):Dq P R os K s=Dq P R os K s':=by rw[h2]
@[congr] theorem ad9 {R:Array Oper} {os:List Oper} {s s':St} {K:St→Prop} (h2:s=s'):Dr P E R os K s=Dr P E R os K s':=by rw[h2]
section
variable {tm:List (Nat×V)} {R:Array Oper} {o:Oper} {os:List Oper} {K:St→Prop}
theorem Ym:w9 P R [] ⟨tm,S⟩ K=K ⟨tm,S⟩:=rfl
theorem U8:w9 P R (o::os) ⟨tm,S⟩ K=pR P R o ⟨tm,S⟩ (Dq P R os K):=rfl
theorem U9:Dq P R [] K ⟨tm,S⟩=K ⟨tm,S⟩:=rfl
theorem RO:Dq P R (o::os) K ⟨tm,S⟩=pR P R o ⟨tm,S⟩ (Dq P R os K):=rfl
theorem Yn:pq P E R [] ⟨tm,S⟩ K=K ⟨tm,S⟩:=rfl
theorem Va:pq P E R (o::os) ⟨tm,S⟩ K=lG P E R o ⟨tm,S⟩ (Dr P E R os K):=rfl
theorem Vb:Dr P E R [] K ⟨tm,S⟩=K ⟨tm,S⟩:=rfl
theorem RP:Dr P E R (o::os) K ⟨tm,S⟩=lG P E R o ⟨tm,S⟩ (Dr P E R os K):=rfl
end
section
variable {dst:Option Nat} {ty:TypeId} {pos:String} {after:Array Edge} {g:Option (Nat×Bool)} {K:St→Prop}
theorem OL{t:TypeId}:fu P ⟨dst,.alloc t,ty,pos,after,g⟩ s K=bq P ⟨dst,.alloc t,ty,pos,after,g⟩ s K:=rfl
theorem Vd{t:TypeId}{x:Operand}:fu P ⟨dst,.box t x,ty,pos,after,g⟩ s K=bq P ⟨dst,.box t x,ty,pos,after,g⟩ s K:=rfl
theorem OM{t:TypeId}{a x:Operand}:fu P ⟨dst,.store t a x,ty,pos,after,g⟩ s K=bq P ⟨dst,.store t a x,ty,pos,after,g⟩ s K:=rfl
theorem RQ{t:TypeId}{a x:Operand}:fu P ⟨dst,.makeSlice t a x,ty,pos,after,g⟩ s K=bq P ⟨dst,.makeSlice t a x,ty,pos,after,g⟩ s K:=rfl
theorem Ky{t:TypeId}{r:Option Operand}:fu P ⟨dst,.makeMap t r,ty,pos,after,g⟩ s K=bq P ⟨dst,.makeMap t r,ty,pos,after,g⟩ s K:=rfl
theorem FX{t:TypeId}{x k v:Operand}:fu P ⟨dst,.mapUpdate t x k v,ty,pos,after,g⟩ s K=bq P ⟨dst,.mapUpdate t x k v,ty,pos,after,g⟩ s K:=rfl
theorem Mq{t:TypeId}{x i:Operand}{b:Bool}:fu P ⟨dst,.lookup t x i b,ty,pos,after,g⟩ s K=bq P ⟨dst,.lookup t x i b,ty,pos,after,g⟩ s K:=rfl
theorem RU{x:Operand}{as:Array Operand}{ts:Array TypeId}:fu P ⟨dst,.call ⟨.value x,as,ts⟩,ty,pos,after,g⟩ s K=bq P ⟨dst,.call ⟨.value x,as,ts⟩,ty,pos,after,g⟩ s K:=rfl
theorem Ve{as:Array Operand}{ts:Array TypeId}:fu P ⟨dst,.call ⟨.builtin .len,as,ts⟩,ty,pos,after,g⟩ s K=bq P ⟨dst,.call ⟨.builtin .len,as,ts⟩,ty,pos,after,g⟩ s K:=rfl
theorem Vf{as:Array Operand}{ts:Array TypeId}:fu P ⟨dst,.call ⟨.builtin .max,as,ts⟩,ty,pos,after,g⟩ s K=bq P ⟨dst,.call ⟨.builtin .max,as,ts⟩,ty,pos,after,g⟩ s K:=rfl
theorem Vg{as:Array Operand}{ts:Array TypeId}:fu P ⟨dst,.call ⟨.builtin .min,as,ts⟩,ty,pos,after,g⟩ s K=bq P ⟨dst,.call ⟨.builtin .min,as,ts⟩,ty,pos,after,g⟩ s K:=rfl
theorem RV{x:Operand}:fu P ⟨dst,.move x,ty,pos,after,g⟩ s K=bq P ⟨dst,.move x,ty,pos,after,g⟩ s K:=rfl
theorem Mr{x:Operand}:fu P ⟨dst,.assign x,ty,pos,after,g⟩ s K=bq P ⟨dst,.assign x,ty,pos,after,g⟩ s K:=rfl
theorem RX{c a b:Operand}:fu P ⟨dst,.pick c a b,ty,pos,after,g⟩ s K=bq P ⟨dst,.pick c a b,ty,pos,after,g⟩ s K:=rfl
theorem RY{t:TypeId}{a:Operand}:fu P ⟨dst,.load t a,ty,pos,after,g⟩ s K=bq P ⟨dst,.load t a,ty,pos,after,g⟩ s K:=rfl
theorem FY{t:TypeId}{x:Operand}{f:Nat}:fu P ⟨dst,.fieldAddr t x f,ty,pos,after,g⟩ s K=bq P ⟨dst,.fieldAddr t x f,ty,pos,after,g⟩ s K:=rfl
theorem OO{t:TypeId}{x:Operand}{f:Nat}:fu P ⟨dst,.field t x f,ty,pos,after,g⟩ s K=bq P ⟨dst,.field t x f,ty,pos,after,g⟩ s K:=rfl
theorem FZ{t:TypeId}{x i:Operand}:fu P ⟨dst,.indexAddr t x i,ty,pos,after,g⟩ s K=bq P ⟨dst,.indexAddr t x i,ty,pos,after,g⟩ s K:=rfl
theorem OP{t:TypeId}{x i:Operand}:fu P ⟨dst,.index t x i,ty,pos,after,g⟩ s K=bq P ⟨dst,.index t x i,ty,pos,after,g⟩ s K:=rfl
theorem OQ{op:BinOp}{t u:TypeId}{x y:Operand}:fu P ⟨dst,.binOp op t x y u,ty,pos,after,g⟩ s K=bq P ⟨dst,.binOp op t x y u,ty,pos,after,g⟩ s K:=rfl
theorem RZ{op:UnOp}{t:TypeId}{x:Operand}:fu P ⟨dst,.unOp op t x,ty,pos,after,g⟩ s K=bq P ⟨dst,.unOp op t x,ty,pos,after,g⟩ s K:=rfl
theorem Kz{a b:TypeId}{x:Operand}:fu P ⟨dst,.convert a b x,ty,pos,after,g⟩ s K=bq P ⟨dst,.convert a b x,ty,pos,after,g⟩ s K:=rfl
theorem KA{x:Operand}{i:Nat}:fu P ⟨dst,.extract x i,ty,pos,after,g⟩ s K=bq P ⟨dst,.extract x i,ty,pos,after,g⟩ s K:=rfl
theorem IE{fn:Fn}{a b:Array Operand}:fu P ⟨dst,.makeFunc fn a b,ty,pos,after,g⟩ s K=bq P ⟨dst,.makeFunc fn a b,ty,pos,after,g⟩ s K:=rfl
theorem IG{x:Operand}:fu P ⟨dst,.nilCheck x,ty,pos,after,g⟩ s K=bq P ⟨dst,.nilCheck x,ty,pos,after,g⟩ s K:=rfl
theorem OT{t:TypeId}{x:Operand}{lo hi mx:Option Operand}:fu P ⟨dst,.slice t x lo hi mx,ty,pos,after,g⟩ s K=bq P ⟨dst,.slice t x lo hi mx,ty,pos,after,g⟩ s K:=rfl
theorem OU{t:TypeId}{parts:Array (Nat×Operand)}:fu P ⟨dst,.build t parts,ty,pos,after,g⟩ s K=bq P ⟨dst,.build t parts,ty,pos,after,g⟩ s K:=rfl
theorem Ms{x y:Operand}{t u:TypeId}:fu P ⟨dst,.call ⟨.builtin .append,#[x,y],#[t,u]⟩,ty,pos,after,g⟩ s K=wL P t u (ev s.tm x) (ev s.tm y) s dst K:=rfl
theorem ED{t:TypeId}{n:Nat}{parts:Array (Nat×Operand)}:fu P ⟨dst,.buildSlice t n parts,ty,pos,after,g⟩ s K=Bz P t s dst K (Rv s.st t) (jG P (lJ s.st) t n (JD s.tm parts.toList)):=rfl
theorem R3{t:TypeId}:bq P ⟨dst,.alloc t,ty,pos,after,g⟩ s K=pO P t s dst K:=rfl
theorem Yo{t:TypeId}{x:Operand}:bq P ⟨dst,.box t x,ty,pos,after,g⟩ s K=wY (ev s.tm x) s dst K:=rfl
theorem R4{t:TypeId}{a x:Operand}:bq P ⟨dst,.store t a x,ty,pos,after,g⟩ s K=pQ P t (ev s.tm a) (ev s.tm x) s dst K:=rfl
theorem Vh{t:TypeId}{a x:Operand}:bq P ⟨dst,.makeSlice t a x,ty,pos,after,g⟩ s K=sD P t (ev s.tm a) (ev s.tm x) s dst K:=rfl
theorem Mt{t:TypeId}:bq P ⟨dst,.makeMap t none,ty,pos,after,g⟩ s K=oK s dst K:=rfl
theorem II{t:TypeId}{x k v:Operand}:bq P ⟨dst,.mapUpdate t x k v,ty,pos,after,g⟩ s K=oL P t (ev s.tm x) (ev s.tm k) (ev s.tm v) s dst K:=rfl
theorem OV{t:TypeId}{x i:Operand}:bq P ⟨dst,.lookup t x i false,ty,pos,after,g⟩ s K=eO s dst K (tO P s.st t (ev s.tm x) (ev s.tm i)):=rfl
theorem KC{t:TypeId}:dM P E ⟨dst,.makeMap t none,ty,pos,after,g⟩ s K=oK s dst K:=rfl
theorem F3{t:TypeId}{x k v:Operand}:dM P E ⟨dst,.mapUpdate t x k v,ty,pos,after,g⟩ s K=oL P t (ev s.tm x) (ev s.tm k) (ev s.tm v) s dst K:=rfl
theorem Mv{t:TypeId}{x i:Operand}:dM P E ⟨dst,.lookup t x i false,ty,pos,after,g⟩ s K=eO s dst K (tO P s.st t (ev s.tm x) (ev s.tm i)):=rfl
theorem Vi{c:Call}:bq P ⟨dst,.call c,ty,pos,after,g⟩ s K=kr P c s dst K:=rfl
theorem Vj{x:Operand}:bq P ⟨dst,.move x,ty,pos,after,g⟩ s K=K (s.put dst (ev s.tm x)):=by simp[bq,nval,kg]
theorem OW{x:Operand}:bq P ⟨dst,.assign x,ty,pos,after,g⟩ s K=K (s.put dst (ev s.tm x)):=by simp[bq,nval,kg]
theorem Vk{c a b:Operand}:bq P ⟨dst,.pick c a b,ty,pos,after,g⟩ s K=eO s dst K (Dg (ev s.tm c) (ev s.tm a) (ev s.tm b)):=rfl
theorem Vl{t:TypeId}{a:Operand}:bq P ⟨dst,.load t a,ty,pos,after,g⟩ s K=eO s dst K (wm P s.st t (ev s.tm a)):=rfl
theorem IJ{t:TypeId}{x:Operand}{f:Nat}:bq P ⟨dst,.fieldAddr t x f,ty,pos,after,g⟩ s K=eO s dst K (nP P s.st t (ev s.tm x) f):=rfl
theorem R5{t:TypeId}{x:Operand}{f:Nat}:bq P ⟨dst,.field t x f,ty,pos,after,g⟩ s K=eO s dst K (y8 P t (ev s.tm x) f):=rfl
theorem IK{t:TypeId}{x i:Operand}:bq P ⟨dst,.indexAddr t x i,ty,pos,after,g⟩ s K=eO s dst K (nQ P s.st t (ev s.tm x) (ev s.tm i)):=rfl
theorem R6{t:TypeId}{x i:Operand}:bq P ⟨dst,.index t x i,ty,pos,after,g⟩ s K=eO s dst K (y9 P t (ev s.tm x) (ev s.tm i)):=rfl
theorem R7{op:BinOp}{t u:TypeId}{x y:Operand}:bq P ⟨dst,.binOp op t x y u,ty,pos,after,g⟩ s K=eO s dst K (Il P op t (ev s.tm x) (ev s.tm y)):=rfl
theorem Vm{op:UnOp}{t:TypeId}{x:Operand}:bq P ⟨dst,.unOp op t x,ty,pos,after,g⟩ s K=eO s dst K (Qe op (ev s.tm x)):=rfl
theorem Mw{a b:TypeId}{x:Operand}:bq P ⟨dst,.convert a b x,ty,pos,after,g⟩ s K=eO s dst K (Di P a b (ev s.tm x)):=rfl
theorem Mx{x:Operand}{i:Nat}:bq P ⟨dst,.extract x i,ty,pos,after,g⟩ s K=eO s dst K (tL (ev s.tm x) i):=rfl
theorem KD{fn:Fn}{a b:Array Operand}:bq P ⟨dst,.makeFunc fn a b,ty,pos,after,g⟩ s K=eO s dst K (q9 fn (zn s.tm a.toList) (zn s.tm b.toList)):=rfl
theorem KE{x:Operand}:bq P ⟨dst,.nilCheck x,ty,pos,after,g⟩ s K=eO s dst K (ru s.st (ev s.tm x)):=rfl
theorem R8{t:TypeId}{x:Operand}{lo hi mx:Option Operand}:bq P ⟨dst,.slice t x lo hi mx,ty,pos,after,g⟩ s K=eO s dst K (za P t (ev s.tm x) (JC s.tm lo) (JC s.tm hi) (JC s.tm mx)):=rfl
theorem R9{t:TypeId}{parts:Array (Nat×Operand)}:bq P ⟨dst,.build t parts,ty,pos,after,g⟩ s K=eO s dst K (ze P t (JD s.tm parts.toList)):=rfl
theorem F4{t:TypeId}{n:Nat}{parts:Array (Nat×Operand)}:bq P ⟨dst,.buildSlice t n parts,ty,pos,after,g⟩ s K=eO s dst K (jG P (lJ s.st) t n (JD s.tm parts.toList)):=rfl
theorem OX{t:TypeId}:dM P E ⟨dst,.alloc t,ty,pos,after,g⟩ s K=pO P t s dst K:=rfl
theorem Vn{t:TypeId}{x:Operand}:dM P E ⟨dst,.box t x,ty,pos,after,g⟩ s K=wY (ev s.tm x) s dst K:=rfl
theorem OY{t:TypeId}{a x:Operand}:dM P E ⟨dst,.store t a x,ty,pos,after,g⟩ s K=pQ P t (ev s.tm a) (ev s.tm x) s dst K:=rfl
theorem Sb{t:TypeId}{a x:Operand}:dM P E ⟨dst,.makeSlice t a x,ty,pos,after,g⟩ s K=sD P t (ev s.tm a) (ev s.tm x) s dst K:=rfl
theorem MB{args:Array Operand}{ts:Array TypeId}:dM P E ⟨dst,.call ⟨.builtin .append,args,ts⟩,ty,pos,after,g⟩ s K=kr P ⟨.builtin .append,args,ts⟩ s dst K:=rfl
theorem Sc{x:Operand}:dM P E ⟨dst,.move x,ty,pos,after,g⟩ s K=K (s.put dst (ev s.tm x)):=by simp[dM,ng,nval,kg]
theorem MC{x:Operand}:dM P E ⟨dst,.assign x,ty,pos,after,g⟩ s K=K (s.put dst (ev s.tm x)):=by simp[dM,ng,nval,kg]
theorem Sd{c a b:Operand}:dM P E ⟨dst,.pick c a b,ty,pos,after,g⟩ s K=eO s dst K (Dg (ev s.tm c) (ev s.tm a) (ev s.tm b)):=rfl
theorem Sg{t:TypeId}{a:Operand}:dM P E ⟨dst,.load t a,ty,pos,after,g⟩ s K=eO s dst K (wm P s.st t (ev s.tm a)):=rfl
theorem F5{t:TypeId}{x:Operand}{f:Nat}:dM P E ⟨dst,.fieldAddr t x f,ty,pos,after,g⟩ s K=eO s dst K (nP P s.st t (ev s.tm x) f):=rfl
theorem OZ{t:TypeId}{x:Operand}{f:Nat}:dM P E ⟨dst,.field t x f,ty,pos,after,g⟩ s K=eO s dst K (y8 P t (ev s.tm x) f):=rfl
theorem F6{t:TypeId}{x i:Operand}:dM P E ⟨dst,.indexAddr t x i,ty,pos,after,g⟩ s K=eO s dst K (nQ P s.st t (ev s.tm x) (ev s.tm i)):=rfl
theorem O0{t:TypeId}{x i:Operand}:dM P E ⟨dst,.index t x i,ty,pos,after,g⟩ s K=eO s dst K (y9 P t (ev s.tm x) (ev s.tm i)):=rfl
theorem O1{op:BinOp}{t u:TypeId}{x y:Operand}:dM P E ⟨dst,.binOp op t x y u,ty,pos,after,g⟩ s K=eO s dst K (Il P op t (ev s.tm x) (ev s.tm y)):=rfl
theorem Si{op:UnOp}{t:TypeId}{x:Operand}:dM P E ⟨dst,.unOp op t x,ty,pos,after,g⟩ s K=eO s dst K (Qe op (ev s.tm x)):=rfl
theorem KF{a b:TypeId}{x:Operand}:dM P E ⟨dst,.convert a b x,ty,pos,after,g⟩ s K=eO s dst K (Di P a b (ev s.tm x)):=rfl
theorem KG{x:Operand}{i:Nat}:dM P E ⟨dst,.extract x i,ty,pos,after,g⟩ s K=eO s dst K (tL (ev s.tm x) i):=rfl
theorem IL{fn:Fn}{a b:Array Operand}:dM P E ⟨dst,.makeFunc fn a b,ty,pos,after,g⟩ s K=eO s dst K (q9 fn (zn s.tm a.toList) (zn s.tm b.toList)):=rfl
theorem IQ{x:Operand}:dM P E ⟨dst,.nilCheck x,ty,pos,after,g⟩ s K=eO s dst K (ru s.st (ev s.tm x)):=rfl
theorem O3{t:TypeId}{x:Operand}{lo hi mx:Option Operand}:dM P E ⟨dst,.slice t x lo hi mx,ty,pos,after,g⟩ s K=eO s dst K (za P t (ev s.tm x) (JC s.tm lo) (JC s.tm hi) (JC s.tm mx)):=rfl
theorem O4{t:TypeId}{parts:Array (Nat×Operand)}:dM P E ⟨dst,.build t parts,ty,pos,after,g⟩ s K=eO s dst K (ze P t (JD s.tm parts.toList)):=rfl
theorem EF{t:TypeId}{n:Nat}{parts:Array (Nat×Operand)}:dM P E ⟨dst,.buildSlice t n parts,ty,pos,after,g⟩ s K=eO s dst K (jG P (lJ s.st) t n (JD s.tm parts.toList)):=rfl
theorem Vo{args:Array Operand}{ts:Array TypeId}:dM P E ⟨dst,.call ⟨.builtin .len,args,ts⟩,ty,pos,after,g⟩ s K=eO s dst K (nval P s.st s.tm (.call ⟨.builtin .len,args,ts⟩)):=rfl
theorem Vp{x y:Operand}{ts:Array TypeId}:dM P E ⟨dst,.call ⟨.builtin .max,#[x,y],ts⟩,ty,pos,after,g⟩ s K=eO s dst K (qO true (ev s.tm x) (ev s.tm y)):=rfl
theorem Vq{x y:Operand}{ts:Array TypeId}:dM P E ⟨dst,.call ⟨.builtin .min,#[x,y],ts⟩,ty,pos,after,g⟩ s K=eO s dst K (qO false (ev s.tm x) (ev s.tm y)):=rfl
theorem Sj{x:Operand}{args:Array Operand}{ts:Array TypeId}:dM P E ⟨dst,.call ⟨.value x,args,ts⟩,ty,pos,after,g⟩ s K=uI P (E (.call ⟨.value x,args,ts⟩)) (ev s.tm x) (zn s.tm args.toList) s dst K:=by
 simp only[dM,ng]
 generalize E (.call ⟨.value x,args,ts⟩)=m
 match m with
 |0=>
  simp only[zU]
  generalize ev s.tm x=fv
  cases fv with
  |c x=>cases x<;>simp[uI,Ac,xA,zn]
  |_=>simp[uI]
 |1=>
  simp only[bq,kr]
  generalize ev s.tm x=fv
  cases fv with
  |c x=>cases x<;>simp[uI,Ac,xA,zn]
  |_=>simp[uI]
 |m+2=>
  simp only[bq,kr]
  generalize ev s.tm x=fv
  cases fv with
  |c x=>cases x<;>simp[uI,Ac,xA,zn]
  |_=>simp[uI]
end
def wE(v:V)(A B:St→Prop)(s:St):Prop:=
 match v with
 | .c (.d (.b x))=>Split x A B s
 |_=>False
def CW(P:Program)(N:Nat):Code→(Exit→St→Prop)→St→Prop
 | .seq x y,Q,s=>CW P N x (kW (CW P N y Q) Q) s
 | .region _ R false,Q,s=>w9 P R R.toList s (Q .normal)
 | .region _ R true,Q,s=>pq P (FK R N) R R.toList s (Q .normal)
 | .cond c x y,Q,s=>wE (ev s.tm c) (CW P N x Q) (CW P N y Q) s
 | .block id c,Q,s=>CW P N c (sJ id Q) s
 | .exit id,Q,s=>Q (.exit id) s
 | .ret,Q,s=>Q .ret s
 | .skip,Q,s=>Q .normal s
 | .loop c,Q,s=>AW P N (.loop c) Q s
 |_,_,_=>False
def aex(N:Nat)(R:Array Oper):Bool:=R.toList.all (fun o=>match o.dst with|some d=>decide (d<N)|none=>true)
def codeOk(N:Nat):Code→Bool
 | .seq x y=>codeOk N x&&codeOk N y
 | .region _ R false=>aex N R
 | .region _ R true=>IB R N
 | .cond _ x y=>codeOk N x&&codeOk N y
 | .block _ c=>codeOk N c
 | .loop c=>codeOk N c
 |_=>true
theorem ji(fD:P.follows .mixedOrders=true):∀(c:Code) (Q:Exit→St→Prop) (s:St),codeOk N c=true→CW P N c Q s→AW P N c Q s
 | .seq x y,Q,s,ok,h=>by
   simp only[codeOk,Bool.and_eq_true] at ok
   refine UM (AW.mono (ji fD x _ s ok.1 h) fun e s' h'=> ?_)
   cases e with
   |normal=>exact ji fD y Q s' ok.2 h'
   |_=>exact h'
 | .region _ R false,Q,s,ok,h=>UN ok h
 | .region _ R true,Q,s,ok,h=>RF fD ok h
 | .cond c x y,Q,s,ok,h=>by
   simp only[codeOk,Bool.and_eq_true] at ok
   simp only[CW,wE] at h
   split at h
   ·rename_i b hb
    exact Qk hb (fun e=>ji fD x Q s ok.1 (h.1 e)) (fun e=>ji fD y Q s ok.2 (h.2 e))
   ·exact h.elim
 | .block id c,Q,s,ok,h=>LV (ji fD c _ s ok h)
 | .exit id,Q,s,ok,h=>aaN h
 | .ret,Q,s,ok,h=>acC h
 | .skip,Q,s,ok,h=>aaM h
 | .loop c,Q,s,ok,h=>h
 | .rangeFunc _ _ _ _,Q,s,ok,h=>h.elim
 | .scope _,Q,s,ok,h=>h.elim
 | .label _,Q,s,ok,h=>h.elim
 | .goto _,Q,s,ok,h=>h.elim
 | .refuse _,Q,s,ok,h=>h.elim
theorem acV{x y:Code}{Q:Exit→St→Prop}:CW P N (.seq x y) Q s=CW P N x (kW (CW P N y Q) Q) s:=by rw[CW]
theorem Vr{id:Nat}{l:List Oper}{Q:Exit→St→Prop}:CW P N (.region id ⟨l⟩ false) Q s=w9 P ⟨l⟩ l s (Q .normal):=by rw[CW]
theorem aa1{id:Nat}{l:List Oper}{Q:Exit→St→Prop}:CW P N (.region id ⟨l⟩ true) Q s=pq P (FK ⟨l⟩ N) ⟨l⟩ l s (Q .normal):=by rw[CW]
theorem aa2{c:Operand}{x y:Code}{Q:Exit→St→Prop}:CW P N (.cond c x y) Q s=wE (ev s.tm c) (CW P N x Q) (CW P N y Q) s:=by rw[CW]
theorem Yp{id:Nat}{c:Code}{Q:Exit→St→Prop}:CW P N (.block id c) Q s=CW P N c (sJ id Q) s:=by rw[CW]
theorem aa3{id:Nat}{Q:Exit→St→Prop}:CW P N (.exit id) Q s=Q (.exit id) s:=by rw[CW]
theorem acW{Q:Exit→St→Prop}:CW P N .ret Q s=Q .ret s:=by rw[CW]
theorem aa4{Q:Exit→St→Prop}:CW P N .skip Q s=Q .normal s:=by rw[CW]
theorem Qr{c:Code}{Q:Exit→St→Prop}:CW P N (.loop c) Q s=AW P N (.loop c) Q s:=by rw[CW]
theorem ME{K:St→Prop}{Q:Exit→St→Prop}:kW K Q .normal s=K s:=rfl
theorem Vs{K:St→Prop}{Q:Exit→St→Prop}:kW K Q .ret s=Q .ret s:=rfl
theorem Sk{K:St→Prop}{Q:Exit→St→Prop}{i:Nat}:kW K Q (.exit i) s=Q (.exit i) s:=rfl
theorem MF{id:Nat}{Q:Exit→St→Prop}:sJ id Q .normal s=Q .normal s:=rfl
theorem Vt{id:Nat}{Q:Exit→St→Prop}:sJ id Q .ret s=Q .ret s:=rfl
theorem Sl{id i:Nat}{Q:Exit→St→Prop}:sJ id Q (.exit i) s=if i=id then Q .normal s else Q (.exit i) s:=rfl
def Yq(post:V→Store→Prop)(s:St)(r:R):Prop:=r.1∧match r.2.ret with
 |some v=>post v (eB s.st)
 |none=>False
theorem aa5{post:V→Store→Prop}{p:Prop}{v:V}:Yq post s (p,v)=(p∧match v.ret with
 |some v=>post v (eB s.st)
 |none=>False):=rfl
def Sm(P:Program)(rs:List ResultVar)(post:V→Store→Prop)(e:Exit)(s:St):Prop:=XF P rs post e (zm s)
def MG(P:Program)(rs:List ResultVar)(post:V→Store→Prop)(s:St):Prop:=Yq post s (oZ P rs s)
theorem Yr{rs:List ResultVar}{post:V→Store→Prop}:Sm P rs post .ret s=MG P rs post (zm s):=rfl
theorem O5{rs:List ResultVar}{post:V→Store→Prop}:Sm P rs post .normal s=MG P rs post (zm s):=rfl
theorem aa6{rs:List ResultVar}{post:V→Store→Prop}{tm:List (Nat×V)}:MG P rs post ⟨tm,S⟩=Yq post ⟨tm,S⟩ (oZ P rs ⟨tm,S⟩):=rfl
def acX(j:Nat)(es:List (List D))(tm:List (Nat×V)):List (Nat×V):=tm.map fun x=>(x.1,x.2.j6 j es)
theorem Vu{j:Nat}{es:List (List D)}{tm:List (Nat×V)}{t:Nat}:look (acX j es tm) t=(look tm t).j6 j es:=Aa (f:=V.j6 j es) rfl tm t
def acY(j:Nat)(tm:List (Nat×V))(own:List Obj)(Ω:Store):Option Obj→St
 |some (.dK _ es)=>⟨acX j es tm,(own.map (Obj.j6 j es)).set j .dead::Ω⟩
 |_=>⟨tm,own::Ω⟩
theorem Yt{j:Nat}{tm:List (Nat×V)}{own:List Obj}{Ω:Store}:FU j ⟨tm,own::Ω⟩=acY j tm own Ω (own[j]?):=by
 unfold FU
 simp only
 generalize own[j]? =o
 cases o with
 |none=>rfl
 |some o=>cases o<;>rfl
theorem Vv{tm:List (Nat×V)}{own:List Obj}{Ω:Store}:zm ⟨tm,own::Ω⟩=FV own.length ⟨tm,own::Ω⟩:=rfl
theorem aB{f:FuncId}{fn:Func}{c:Code}{args:List V}{post:V→Store→Prop}{rs:List ResultVar}(fD:P.follows .mixedOrders=true)(hf:P.funcs[f]? =some fn)(hN:fn.ntmps=N)
 (hb:fn.body=some c) (hn:(fn.name== "runtime.NumGoroutine")=false) (hr:fn.results.toList=rs) (hl:Nat.ble args.length N=true) (hok:codeOk N c=true)
 (h:CW P N c (Sm P rs post) ⟨l9 (args.map (V.up 1)) 0,[]::S⟩):bD P f args S post:=by
 subst hN
 subst hr
 exact uF hf hb hn (Nat.le_of_ble_eq_true hl) (FW BJ (ji fD c _ _ hok h))
end
end Go.Ab
namespace Go.Ab
theorem Dt(n:Int)(h: -9223372036854775808≤n∧n≤9223372036854775807):IntKind.i64.wrap n=n:=IntWalk.i64_in n h
theorem wrap_u8(n:Int)(h:0≤n∧n≤255):IntKind.u8.wrap n=n:=IntWalk.u8_in n h
theorem getD_map{α β:Type}(f:α→β)(l:List α)(i:Nat)(d:β)(h:i<l.length):(l.map f).getD i d=f l[i]:=by
 simp[List.getD,h]
theorem Sn{k:IntKind}{n:Int}:wT (.int k n)=.c (.d (.i k n)):=rfl
theorem O6{b:Bool}:wT (.bool b)=.c (.d (.b b)):=rfl
theorem Sq{l:List UInt8}:wT (.string ⟨⟨l⟩⟩)=.c (.d (.s l)):=rfl
theorem O7:wT (.slice none 0 0)=.c (.aY []):=rfl
theorem Yu{tm:List (Nat×V)}{S:Store}{d:Nat}{v:V}:St.put ⟨tm,S⟩ (some d) v=⟨(d,v)::tm,S⟩:=rfl
theorem Yv{tm:List (Nat×V)}{S:Store}{v:V}:St.put ⟨tm,S⟩ none v=⟨tm,S⟩:=rfl
theorem acZ{a b:V}:Dg (.c (.d (.b true))) a b=(True,a):=rfl
theorem ac0{a b:V}:Dg (.c (.d (.b false))) a b=(True,b):=rfl
theorem O8{tm:List (Nat×V)}{own:List Obj}{Ω:Store}{dst:Option Nat}{o:Obj}{mk:Key→V}{K:St→Prop}:
 newObj ⟨tm,own::Ω⟩ dst o mk K=K (St.put ⟨tm,(own++[o])::Ω⟩ dst (mk (0,own.length))):=rfl
theorem ac1{x:C}{s:St}{dst:Option Nat}{K:St→Prop}:wY (.c x) s dst K=newObj s dst (.box [x]) (fun k=>.c (.ptr k 0)) K:=rfl
theorem Yw{x:List C}{s:St}{dst:Option Nat}{K:St→Prop}:wY (.agg x) s dst K=newObj s dst (.box x) (fun k=>.c (.ptr k 0)) K:=rfl
theorem Yx{α β:Type}{f:α→Option β}:([]:List α).mapM f=some []:=by simp
theorem Vw{α β:Type}{f:α→Option β}{x:α}{xs:List α}:(x::xs).mapM f=(f x).bind fun y=>(xs.mapM f).bind fun ys=>some (y::ys):=by
 rw[List.mapM_cons];rfl
theorem aey{c:C}:C.down 0 c=some c:=by cases c<;>simp[C.down]
theorem Yy{n m j:Nat}{es:List (List D)}:C.down n (.bQ (n+m,j) es)=some (.bQ (m,j) es):=by simp[C.down]
theorem Vx{n j:Nat}{es:List (List D)}:C.down n (.bQ (n,j) es)=some (.bQ (0,j) es):=by simp[C.down]
theorem ac2{n:Nat}{x:D}:C.down n (.d x)=some (.d x):=rfl
theorem Yz{n:Nat}:C.down n .any=some .any:=rfl
theorem YA{n:Nat}{es:List (List D)}:C.down n (.aY es)=some (.aY es):=rfl
theorem YB{n m j off:Nat}:C.down n (.ptr (n+m,j) off)=some (.ptr (m,j) off):=by simp[C.down]
theorem Vy{n j off:Nat}:C.down n (.ptr (n,j) off)=some (.ptr (0,j) off):=by simp[C.down]
theorem YC{n m:Nat}{es:List (List D)}:C.down n (.iI m es)=some (.iI m es):=rfl
theorem YD{Ω:Store}:lJ ([]::Ω)=none:=rfl
theorem YE{cs:List C}{own:List Obj}{Ω:Store}:lJ ((.box cs::own)::Ω)=none:=rfl
theorem YF{z:Nat}{es:List (List D)}{own:List Obj}{Ω:Store}:lJ ((.tok z es::own)::Ω)=none:=rfl
theorem Vz{z:Nat}{es:List (List D)}{own:List Obj}{Ω:Store}:lJ ((.dK z es::own)::Ω)=none:=rfl
theorem aa7{m:List (List UInt8)}{own:List Obj}{Ω:Store}:lJ ((.mp m::own)::Ω)=none:=rfl
theorem VA{own:List Obj}{Ω:Store}:lJ ((.dead::own)::Ω)=none:=rfl
theorem VB{n z:Nat}{es:List (List D)}{own:List Obj}{Ω:Store}:lJ ((.dW n z es::own)::Ω)=none:=rfl
theorem VD{n:Nat}{own:List Obj}{Ω:Store}:lJ ((.seed n::own)::Ω)=some n:=rfl
theorem VE{es x:List (List D)}{z:Nat}{s:St}{dst:Option Nat}{K:St→Prop}:wZ none es s dst z x K=newObj s dst (.tok z x) (fun k=>.c (.bQ k x)) K:=rfl
theorem YG{n:Nat}{x:List (List D)}{z:Nat}{s:St}{dst:Option Nat}{K:St→Prop}:wZ (some n) [] s dst z x K=K (St.put ⟨s.tm,s.st⟩ dst (.c (.d (.ol n x)))):=rfl
theorem VF{n:Nat}{y:List D}{es x:List (List D)}{z:Nat}{s:St}{dst:Option Nat}{K:St→Prop}:wZ (some n) (y::es) s dst z x K=newObj s dst (.tok z x) (fun k=>.c (.bQ k x)) K:=rfl
theorem Sr{n:Nat}{x:List (List D)}{z:Nat}{s:St}{dst:Option Nat}{K:St→Prop}:yO false n s dst z x K=newObj s dst (.dW n z x) (fun k=>.c (.bQ k x)) K:=rfl
theorem VG{n:Nat}{x:List (List D)}{z:Nat}{s:St}{dst:Option Nat}{K:St→Prop}:yO true n s dst z x K=K (St.put ⟨s.tm,s.st⟩ dst (.c (.d (.ol n x)))):=rfl
theorem YH{own:List Obj}{Ω:Store}:Rp (own::Ω)=sF own[1]? :=rfl
theorem Sv:sF none=false:=rfl
theorem VH{cs:List C}:sF (some (.box cs))=false:=rfl
theorem VI{z:Nat}{es:List (List D)}:sF (some (.tok z es))=false:=rfl
theorem Sw{n z:Nat}{es:List (List D)}:sF (some (.dW n z es))=false:=rfl
theorem Sy{z:Nat}{es:List (List D)}:sF (some (.dK z es))=false:=rfl
theorem Sz:sF (some .dead)=false:=rfl
theorem YI{m:List (List UInt8)}:sF (some (.mp m))=false:=rfl
theorem aa8{own:List Obj}{Ω:Store}{t:TypeId}:Rv (own::Ω) t=vQ own[0]? t:=rfl
theorem VJ{t:TypeId}:vQ none t=false:=rfl
theorem YJ{t:TypeId}{cs:List C}:vQ (some (.box cs)) t=false:=rfl
theorem YK{t:TypeId}{z:Nat}{es:List (List D)}:vQ (some (.tok z es)) t=false:=rfl
theorem VK{t:TypeId}{n z:Nat}{es:List (List D)}:vQ (some (.dW n z es)) t=false:=rfl
theorem VL{t:TypeId}{z:Nat}{es:List (List D)}:vQ (some (.dK z es)) t=false:=rfl
theorem VN{t:TypeId}:vQ (some .dead) t=false:=rfl
theorem aa9{t:TypeId}{m:List (List UInt8)}:vQ (some (.mp m)) t=false:=rfl
theorem VO{t:TypeId}{n:Nat}:vQ (some (.seed n)) t=false:=rfl
theorem abb{t:TypeId}:vQ (some (.xf [])) t=rowIs t:=rfl
theorem YL{t:TypeId}{r:List (List D)}{rs:List (List (List D))}:vQ (some (.xf (r::rs))) t=false:=rfl
theorem SA{P:Program}{t:TypeId}{s:St}{dst:Option Nat}{K:St→Prop}{r:R}:Bz P t s dst K false r=eO s dst K r:=rfl
theorem VP{P:Program}{t:TypeId}{s:St}{dst:Option Nat}{K:St→Prop}{p:Prop}{es:List (List D)}:Bz P t s dst K true (p,.c (.aY es))=(match P.underlying t with
 |some (.slice e)=>p∧newObj s dst (.dK (P.cellsOf e) es) (fun k=>.c (.iR k)) K
 |_=>False):=rfl
theorem abd{own:List Obj}{Ω:Store}{rs:List (List (List D))}:lJ ((.xf rs::own)::Ω)=none:=rfl
theorem O9:sF (some (.seed 0))=false:=rfl
theorem Pb:sF (some (.seed 1))=true:=rfl
attribute [go_sem ↓] OL Vd OM RQ Ky FX Mq RU Ve Vf Vg RV Mr RX RY FY OO FZ OP OQ RZ Kz KA IE IG OT OU Ms ED
attribute [go_sem] aa8 VJ YJ YK VK VL VN aa9 VO abb YL rowIs SA VP abd wL zi List.getElem?_nil
attribute [go_sem] VE YG VF Sr VG YH Sv VH VI Sw Sy Sz YI O9 Pb
theorem YM{P:Program}{t:TypeId}{n:Nat}{parts:List (Nat×V)}:jG P none t n parts=mM P t n parts:=rfl
def aar(m:Nat):R→R
 |(p,.c (.aY es))=>(p,.c (.iI m es))
 |_=>no
theorem YN{m:Nat}{p:Prop}{es:List (List D)}:aar m (p,.c (.aY es))=(p,.c (.iI m es)):=rfl
theorem YO{P:Program}{m:Nat}{t:TypeId}{n:Nat}{parts:List (Nat×V)}:jG P (some m) t n parts=aar m (mM P t n parts):=rfl
attribute [go_sem_proc] Nat.reduceEqDiff Nat.reduceAdd Nat.reduceLeDiff Nat.reduceSub Nat.reduceMul Nat.reduceBEq Int.reduceEq Int.reduceLT Int.reduceLE Int.reduceGT Int.reduceGE Int.reduceNeg Int.reduceToNat
attribute [go_sem_proc ↓] reduceIte
attribute [wf_preprocess] decide_eq_true_eq decide_eq_false_iff_not Bool.not_eq_true Bool.not_eq_false Bool.not_eq_eq_eq_not Bool.not_true Bool.not_false Classical.not_not
attribute [go_sem ↓] Ym U8 U9 RO Yn Va Vb RP OH OI Mj Mk aa0 Yh U3 acV Vr aa1 aa2 Yp aa3 acW aa4 Qr ME Vs Sk MF Vt Sl Yr O5 Vv OJ Ml U5 U6 U7 Vp Vq R3 Yo R4 Vh Mt II OV KC F3 Mv Vi Vj OW Vk Vl IJ R5 IK R6 R7 Vm Mw Mx KD KE R8 R9 F4 OX Vn OY Sb MB Sc MC Sd Sg F5 OZ F6 O0 O1 Si KF KG IL IQ O3 O4 EF Vo Sj
attribute [go_sem] xw RL OG Yi aa6 aa5 wE FV Yt acY Vu V.j6 C.j6 Obj.j6 Yj Yk Yl xA
 RI RJ aaY Yd Ye Yf aaZ Yg ev Sn O6 Sq O7 y7 Yu Yv look acZ ac0 O8 ac1 Yw pO pQ sD mZ LD
 wm Dh vP headD Q6 nP y8 yg uR nQ y9 Q9 Ra Il Qe Di tL zP za rZ q9 capOf ru
 Lf qO tO oK oL qB aJ aP C.up V.up wQ dZ l9 V.mU C.mU aey Yy Vx ac2 Yz YA YB Vy
 List.map_cons List.map_nil List.append_nil List.nil_append List.length_nil List.length_cons List.cons_append Option.map_some Option.map_none Option.bind_some Option.bind_none
 List.getElem?_cons_zero List.getElem?_cons_succ List.set_cons_zero List.set_cons_succ List.drop_zero List.drop_succ_cons List.drop_nil List.take_zero List.take_succ_cons List.take_nil
 if_true if_false true_and and_true Int.toNat_natCast List.getElem?_toArray List.size_toArray Nat.zero_add Nat.add_zero Bool.false_eq_true Bool.true_eq_false Bool.not_true Bool.not_false reduceCtorEq
 decide_true decide_false List.all_cons List.all_nil Bool.and_true Bool.true_and Option.isSome_some Option.isSome_none Dt getD_map Yx Vw Jj splice List.length_map zQ ze rA mM List.size_toArray YD YE YF Vz aa7 VA VB VD YM YO YN YC
section
variable {P:Program} {S S':Store} {N:Nat} {s:St}
def pG:List Nat→List V→List (Nat×V)
 |t::ts,v::vs=>(t,v)::pG ts vs
 |_,_=>[]
theorem xB(f:Nat→V):∀(ts:List Nat) (t:Nat),look (pG ts (ts.map f)) t=f t∨look (pG ts (ts.map f)) t=.any
 |[],t=>.inr rfl
 |u::us,t=>by
  show(if u=t then f u else look (pG us (us.map f)) t)=f t∨(if u=t then f u else look (pG us (us.map f)) t)=.any
  by_cases e:u=t
  ·left;rw[if_pos e,e]
  ·rw[if_neg e];exact xB f us t
def Inv{ι:Type}(N:Nat)(ts:List Nat)(f:ι→List V)(g:ι→Store)(p:ι→Prop)(μ:ι→Nat)(i:ι)(s':St):Prop:=∃j s0,μ j<μ i∧fG N s' s0∧ts.map (look s0.tm)=f j∧s0.st=g j∧p j
theorem bK{ι:Type}{ts:List Nat}{f:ι→List V}{g:ι→Store}{p:ι→Prop}{μ:ι→Nat}{i:ι}(j:ι)(h1:μ j<μ i)(h2:ts.map (look s.tm)=f j)(h3:s.st=g j)(h4:p j):Inv N ts f g p μ i s:=
 ⟨j,s,h1,fG.refl _ _,h2,h3,h4⟩
theorem BK:∀(ts:List Nat) (vs:List V),ts.Nodup→ts.length=vs.length→ts.map (look (pG ts vs))=vs
 |[],[],_,_=>rfl
 |t::ts,v::vs,hn,hl=>by
  have hn':=List.nodup_cons.1 hn
  have ih:=BK ts vs hn'.2 (by simpa using hl)
  simp only[pG,List.map_cons,look,if_true,List.cons.injEq,true_and]
  rw[←ih]
  refine List.map_congr_left fun u hu=> ?_
  have hne:t≠u:=fun e=>hn'.1 (e▸hu)
  rw[if_neg hne,ih]
theorem iP{ι:Type}{ts:List Nat}{f:ι→List V}{g:ι→Store}{p:ι→Prop}{μ:ι→Nat}{i:ι}{tm:List (Nat×V)}{own:List Obj}{Ω:Store}(n:Nat)(hnd:ts.Nodup)(j:ι)(h1:μ j<μ i)(h2:ts.map (look tm)=f j)(h3:own.take n::Ω=g j)
 (hr:FQ n (pG ts (f j))=true) (ho:(own.take n).all (Obj.refs n)=true) (h4:p j):Inv N ts f g p μ i ⟨tm,own::Ω⟩:=by
 refine⟨j,⟨pG ts (f j),own.take n::Ω⟩,h1,?_,?_,h3,h4⟩
 ·have hg:fG N ⟨tm,own::Ω⟩ ⟨pG ts (f j),own::Ω⟩:=by
   rw[←h2]
   exact Ma fun t=>xB _ ts t
  exact hg.trans (RH n hr ho)
 ·exact BK ts (f j) hnd (by rw[←h2];simp)
theorem aW{ι:Type}{c:Code}{Q:Exit→St→Prop}(fD:P.follows .mixedOrders=true)(hok:codeOk N c=true)(ts:List Nat)(f:ι→List V)(g:ι→Store)(p:ι→Prop)(μ:ι→Nat)(i0:ι)
 (h1:ts.map (look s.tm)=f i0) (h2:s.st=g i0) (h3:p i0)
 (round:∀i,p i→CW P N c (kW (Inv N ts f g p μ i) Q) ⟨pG ts (f i),g i⟩):AW P N (.loop c) Q s:=by
 refine Ql (ι:=ι) (fun i s=>∃s0,fG N s s0∧ts.map (look s0.tm)=f i∧s0.st=g i∧p i) μ i0 ⟨s,fG.refl _ _,h1,h2,h3⟩ fun i s hI=> ?_
 obtain⟨s0,hg,h1,h2,h3⟩:=hI
 refine kR ?_ hg
 have hr:=(ji fD c _ _ hok (round i h3)).mono (Q':=kW (fun s'=>∃j,μ j<μ i∧∃s0,fG N s' s0∧ts.map (look s0.tm)=f j∧s0.st=g j∧p j) Q) fun e s' h=>by
  cases e with
  |normal=>
   obtain⟨j,s0,a1,a2,a3,a4,a5⟩:=h
   exact⟨j,a1,s0,a2,a3,a4,a5⟩
  |_=>exact h
 obtain⟨tm,st⟩:=s0
 simp only at h1 h2
 subst h2
 rw[←h1] at hr
 exact aaq hr fun t=>xB _ ts t
theorem YP:oZ P [] s=(True,.dw []):=rfl
theorem YQ{x:ResultVar}:oZ P [x] s=sK P s x:=rfl
theorem YR{x y:ResultVar}{z:List ResultVar}:oZ P (x::y::z) s=(match(lK P s (x::y::z)).2 with
 |some ys=>((lK P s (x::y::z)).1,.dw ys)
 |none=>no):=rfl
end
attribute [go_sem] Br KW
attribute [go_sem] pG YP YQ YR sK lK FH eB V.ret Dl
end Go.Ab
namespace Go.Ab
section
variable {P:Program} {S S':Store} {N:Nat} {s:St}
theorem aV{α:Type}{fr:List α}{S:List (List α)}{l j:Nat}:aJ (fr::S) (1+l,j)=aJ S (l,j):=by rw[Nat.add_comm,bf]
theorem bI{α:Type}{fr:List α}{S:List (List α)}{l j:Nat}{x:α}:aP (fr::S) (1+l,j) x=fr::aP S (l,j) x:=by rw[Nat.add_comm,aP]
theorem ac3{n l j:Nat}:wQ n (l,j)=(n+l,j):=rfl
theorem SB{l j:Nat}{es:List (List D)}:C.ret (.bQ (1+l,j) es)=some (.bQ (l,j) es):=by
 rw[Nat.add_comm]
 show C.down 1 (.bQ (l+1,j) es)=_
 simp[C.down]
theorem ret_tsl_0{j:Nat}{es:List (List D)}:C.ret (.bQ (0,j) es)=some (.d (.sl es)):=rfl
theorem aez{x:D}:C.ret (.d x)=some (.d x):=rfl
theorem abe:C.ret .any=some .any:=rfl
theorem abf{es:List (List D)}:C.ret (.aY es)=some (.aY es):=rfl
theorem abg{n:Nat}{es:List (List D)}:C.ret (.iI n es)=some (.iI n es):=rfl
theorem YS{cs:List D}:C.ret (.jC cs)=some (.jC cs):=rfl
theorem abh{l j off:Nat}:C.ret (.ptr (1+l,j) off)=some (.ptr (l,j) off):=by
 rw[Nat.add_comm]
 show C.down 1 (.ptr (l+1,j) off)=_
 simp[C.down]
theorem abj{j:Nat}{es es':List (List D)}{k:Key}:C.j6 j es (.bQ k es')=.bQ k es':=rfl
theorem aeA{x:D}:C.mU (.d x)=.d x:=rfl
theorem abk:C.mU .any=.any:=rfl
theorem abl{k:Key}{off:Nat}:C.mU (.ptr k off)=.ptr k off:=rfl
theorem ac4{f:Nat}{caps:List (Key×Nat)}:C.mU (.fn f caps)=.fn f caps:=rfl
theorem abm{k:Key}:C.mU (.iR k)=.iR k:=rfl
theorem YT{cs:List D}:C.mU (.jC cs)=.jC cs:=rfl
theorem aeB{j:Nat}{es:List (List D)}{x:D}:C.j6 j es (.d x)=.d x:=rfl
theorem abn{j:Nat}{es:List (List D)}:C.j6 j es .any=.any:=rfl
theorem abo{j:Nat}{es es':List (List D)}:C.j6 j es (.aY es')=.aY es':=rfl
theorem abp{j:Nat}{es:List (List D)}{k:Key}{off:Nat}:C.j6 j es (.ptr k off)=.ptr k off:=rfl
theorem ac5{j:Nat}{es:List (List D)}{f:Nat}{caps:List (Key×Nat)}:C.j6 j es (.fn f caps)=.fn f caps:=rfl
theorem abq{j n:Nat}{es es':List (List D)}:C.j6 j es (.iI n es')=.iI n es':=rfl
theorem abr{n:Nat}{es:List (List D)}:C.mU (.iI n es)=.iI n es:=rfl
theorem YU{j:Nat}{es:List (List D)}{cs:List D}:C.j6 j es (.jC cs)=.jC cs:=rfl
theorem abt{j i:Nat}{es:List (List D)}:C.j6 j es (.iR (0,i))=if i=j then .d (.sl es) else .iR (0,i):=rfl
end
attribute [go_sem] aV bI ac3 SB ret_tsl_0 aez abe abf YS abh abj aeA abk abl ac4 abm YT aeB abn abo abp ac5 YU abt abg abq abr
end Go.Ab
