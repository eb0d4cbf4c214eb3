/-
  SEVERAL TEXTS IN ONE (merged by program): contracts and models, each with its own heading.
-/
import Derived.Test.YtfhpfkaeldgcmaaGreatPartHfbA
import Derived.LoopN
import Derived.StillTail
set_option linter.unusedSimpArgs false
set_option linter.unusedVariables false
namespace Go.Ab
def rowIs(t:TypeId):Bool:=t==52||t==57||t==43||t==42
def zx(o:Option Obj)(t:TypeId):Bool:=match o with
 |some (.xf [])=>rowIs t
 |_=>false
def V7(S:Store)(t:TypeId):Bool:=zx (bA S (0,0)) t
def FQ(P:Program)(t:TypeId)(s:St)(dst:Option Nat)(K:St->Prop)(b:Bool)(r:R):Prop:=
 match b,r with
 |false,r=>r.1/\K (s.put dst r.2)
 |true,(p,.c (.bI es))=>match P.underlying t with
  |some (.slice e)=>p/\newObj s dst (.eP (P.cellsOf e) es) (fun k=>.c (.iJ k)) K
  |_=>False
 |true,_=>False
def Dj(P:Program)(t u:TypeId)(k:Key)(y:V)(s:St)(dst:Option Nat)(K:St->Prop):Prop:=
 match P.underlying t,Qm P u y,bA s.st k with
 |some (.slice e),some ys,some (.eP bB es)=>bB=P.cellsOf e/\(∀y∈ys,y.length=P.cellsOf e)/\P.bytesOf e<=4096/\(∃zs,iM P e=some zs/\zs.length=P.cellsOf e)/\es.length+ys.length<=1073741824/\
   newObj ⟨s.tm,bq s.st k .dead⟩ dst (.eP bB (es++ys)) (fun k=>.c (.iJ k)) K
 |_,_,_=>False
def Aj(P:Program)(t u:TypeId)(x y:V)(s:St)(dst:Option Nat)(K:St->Prop):Prop:=
 match x with
 | .c (.iJ k)=>Dj P t u k y s dst K
 |x=>qF P t u x y s dst K
def iw(P:Program)(o:Oper)(s:St)(K:St->Prop):Prop:=
 match o.op with
 | .call {callee:=.builtin .append,args:=BN,argTypes:=ts}=>match BN.toList,ts.toList with
   |[x,y],[t,u]=>Aj P t u (ev s.tm x) (ev s.tm y) s o.dst K
   |_,_=>False
 | .buildSlice t n parts=>FQ P t s o.dst K (V7 s.st t) (nval P s.st s.tm (.buildSlice t n parts))
 |_=>dA P o s K
section
variable {P:Program} {w w':World} {σ σ':Nat->Nat} {S:Store} {β β':Hs} {N:Nat} {s:St} {a:Act}
theorem eH.lay{own:List Obj}{Ω:Store}{bo:List Value}{bΩ:Hs}{o:Obj}{h:Value}(hS:eH w σ (own::Ω) (bo::bΩ))(hlen:bo.length=own.length)
 (ho:gM w σ ((own++[o])::Ω) ((bo++[h])::bΩ) o h)(hb:∀b,owns o h b->¬Own (own::Ω) (bo::bΩ) b):
 eH w σ ((own++[o])::Ω) ((bo++[h])::bΩ)/\Keep (own::Ω) (bo::bΩ) ((own++[o])::Ω) ((bo++[h])::bΩ)/\∀b,Own ((own++[o])::Ω) ((bo++[h])::bΩ) b->Own (own::Ω) (bo::bΩ) b\/owns o h b:=by
 have hkeep:Keep (own::Ω) (bo::bΩ) ((own++[o])::Ω) ((bo++[h])::bΩ):=by
  intro k o1 h1;obtain⟨h2,xJ,_⟩:=hS.obj k o1 h1;exact⟨o1,jA _ _ _ _ _ h1,by rw[jA _ _ _ _ _ xJ,xJ];exact .refl _ _⟩
 have hinv:∀k o1 h1,bA ((own++[o])::Ω) k=some o1->bA ((bo++[h])::bΩ) k=some h1->
  (bA (own::Ω) k=some o1/\bA (bo::bΩ) k=some h1)\/(k=(0,own.length)/\o1=o/\h1=h):=by
  intro k o1 h1 e1 e2;rcases kL _ _ _ _ _ e1 with e1|⟨rfl,rfl⟩
  ·left;refine⟨e1,?_⟩;rcases kL _ _ _ _ _ e2 with e2|⟨rfl,rfl⟩
   ·exact e2
   ·rw[bL,hlen] at e1;have:=(List.getElem?_eq_some_iff.1 e1).1;omega
  ·right;rw[<-hlen,dJ] at e2;exact⟨rfl,rfl,(Option.some.inj e2).symm⟩
 refine⟨⟨?_,?_,⟨?_,?_⟩,hS.live,hS.wE⟩,hkeep,?_⟩
 ·intro k o1 h1;rcases kL _ _ _ _ _ h1 with h1|⟨rfl,rfl⟩
  ·obtain⟨h2,xJ,hr⟩:=hS.obj k o1 h1;exact⟨h2,jA _ _ _ _ _ xJ,hr.mono (eG.refl _ _) (hkeep.drop _) fun b hb=>⟨rfl,rfl⟩⟩
  ·exact⟨h,by rw[<-hlen,dJ],ho⟩
 ·intro k k' o1 o2 h1 h2 b e1 e2 e3 e4 e5 e6;rcases hinv k o1 h1 e1 e2 with⟨f1,f2⟩|⟨rfl,rfl,rfl⟩
  ·rcases hinv k' o2 h2 e4 e5 with⟨g1,g2⟩|⟨rfl,rfl,rfl⟩
   ·exact hS.apart _ _ _ _ _ _ _ f1 f2 e3 g1 g2 e6
   ·exact absurd ⟨k,o1,h1,f1,f2,e3⟩ (hb b e6)
  ·rcases hinv k' o2 h2 e4 e5 with⟨g1,g2⟩|⟨rfl,rfl,rfl⟩
   ·exact absurd ⟨k',o2,h2,g1,g2,e6⟩ (hb b e3)
   ·rfl
 ·have:=hS.shape.1;simpa using this
 ·intro l fr hl
  cases l with
  |zero=>
   simp at hl;exact⟨_,rfl,by rw[<-hl];simp[hlen]⟩
  |succ l=>exact hS.shape.2 (l+1) fr hl
 ·rintro b ⟨k,o1,h1,e1,e2,e3⟩;rcases hinv k o1 h1 e1 e2 with⟨f1,f2⟩|⟨rfl,rfl,rfl⟩
  ·exact .inl ⟨k,o1,h1,f1,f2,e3⟩
  ·exact .inr e3
theorem V8{t u ty e:TypeId}{sv:Value}{size:Nat}{es ys:List (List D)}{yv:Value}(hl:∀b,b<w.heap.size\/σ b=0)
 (ht:P.underlying t=some (.slice e))(hu:Kj P u)(hz:∃zs,iM P e=some zs/\zs.length=size)(hsize:P.cellsOf e=size)(hb:P.bytesOf e<=4096)
 (hs:gM w σ S β (.eP size es) sv)(hy:yU P w σ size ys yv)(hlen:es.length+ys.length<=1073741824):
 ∃r w',(Builtin.append_ #[t,u] ty #[sv,yv]).run P w=.ok r w'/\(∀S' β',gM w' σ S' β' (.eP size (es++ys)) r)/\w.heap.size<=w'.heap.size/\w'.os=w.os/\w'.output=w.output/\
  eG w σ w' σ/\(∀b,b<w'.heap.size\/σ b=0)/\(∀b,b<w.heap.size->¬owns (.eP size es) sv b->w'.heap[b]? =w.heap[b]?)/\
  (∀b,owns (.eP size (es++ys)) r b->owns (.eP size es) sv b\/w.heap.size<=b)/\r.oneCell'=true:=by
 obtain⟨zs,hzs,hzl⟩:=hz;obtain⟨z,uX,hzc⟩:=tT (w:=w) (σ:=σ) (S:=S) (β:=β) hzs
 have FM:z.cells.size=size:=by have:=hzc.1;simp at this;omega
 have hex:∃info,P.info? e=some info/\info.zero=some z:=by
  unfold iM at hzs
  cases hi:P.info? e with
  |none=>rw[hi] at hzs;cases hzs
  |some i=>
   refine⟨i,rfl,?_⟩
   cases hz:i.zero with
   |none=>rw[hi] at hzs;simp[hz] at hzs
   |some z'=>
    have:(zeroValue e).run P w=.ok z' w:=by simp[zeroValue,typeInfo,hi,hz]
    rw[uX] at this;cases this;rfl
 obtain⟨info,hi,hiz⟩:=hex
 have hib:info.bytes=P.bytesOf e:=by simp[Program.bytesOf,hi]
 have his:info.size=size:=by rw[<-hsize];simp[Program.cellsOf,hi]
 have hs0:=hs;obtain⟨hle,base,sCap,rfl,hcap,h4⟩:=hs;obtain⟨hyl,hys,ya,Qh,Qi,YV⟩:=hy w rfl;have hall:∀x∈es++ys,x.length=size:=fun x hx=>(List.mem_append.1 hx).elim (hle x) (hys x);have hfl:es.flatten.length=es.length*size:=jh es size hle;have hfy:ys.flatten.length=ys.length*size:=jh ys size hys;have hlen':(es++ys).length=es.length+ys.length:=List.length_append
 have hone:∀v∈ya.toList,v.oneCell'=true:=fun v hv=>by
  obtain⟨j,hj⟩:=List.getElem?_of_mem hv;have hjl:=(List.getElem?_eq_some_iff.1 hj).1;simp at hjl;obtain⟨v',hv',hr⟩:=YV j _ (List.getElem?_eq_getElem (by omega));rw[Array.getElem?_toList] at hj;rw[hj] at hv';cases hv';exact hr.one
 by_cases hn0:ys.length=0
 ·have abP:ys=[]:=List.eq_nil_of_length_eq_zero hn0;subst abP
  have hya:ya= #[]:=by simpa using Qi
  subst hya;refine⟨_,w,FK ht hu hi hyl (by rw[his];exact Qh) hcap,fun S' β'=> ?_,Nat.le_refl _,rfl,rfl,eG.refl _ _,hl,fun b _ _=>rfl,fun b hb=>.inl (by simpa using hb),rfl⟩;rw[List.append_nil];exact hs0
 by_cases hroom:es.length+ys.length<=sCap
 ·have hc0:sCap≠0:=by omega
  obtain⟨b,c,ct,rfl,hbc,hσ,hfit,hcells⟩:=h4.resolve_left hc0
  have hmul:es.length*size+ys.length*size<=sCap*size:=by rw[<-Nat.add_mul];exact Nat.mul_le_mul_right _ hroom
  have hrun:=FL (P:=P) (ty:=ty) (b:=b) (off:=0) ht hu hi hyl (by rw[his];exact Qh) hroom hbc (by rw[his,Qi];omega) hone;rw[his,Nat.zero_add] at hrun;generalize hc2:(c.toList.take (es.length*size)++ya.toList++c.toList.drop (es.length*size+ya.size)).toArray=c2 at hrun
  have Az:c2.size=c.size:=by rw[<-hc2];simp;omega
  have hheap:(w.setRow b c2).heap[b]? =some (.cells c2 ct (0,0)):=setRow_heap w b c c2 ct (0,0) hbc
  have hlow:∀i,i<es.length*size->c2[i]? =c[i]? :=fun i hi=>by
   rw[<-hc2,List.getElem?_toArray,List.append_assoc,List.getElem?_append_left (by simp;omega),List.getElem?_take_of_lt hi,Array.getElem?_toList]
  have hmid:∀j,j<ya.size->c2[es.length*size+j]? =ya[j]? :=fun j hj=>by
   rw[<-hc2,List.getElem?_toArray,List.getElem?_append_left (by simp;omega),List.getElem?_append_right (by simp;omega),<-Array.getElem?_toList];congr 1;simp;omega
  have hn:eG w σ (w.setRow b c2) σ:=by
   intro b1 c1 t1 E9 e1;refine⟨Nat.le_refl _,fun _=>rfl,?_⟩;by_cases hb1:b1=b
   ·subst hb1;rw[hbc] at e1;cases e1;exact⟨c2,hheap,Az,fun i hi=>by omega⟩
   ·exact⟨c1,(iq w b c2 b1 hb1).trans e1,rfl,fun _ _=>rfl⟩
  refine⟨_,_,hrun,fun S' β'=>⟨hall,_,sCap,by rw[hlen'],by omega,.inr ⟨b,c2,ct,rfl,hheap,hσ,by omega,fun j d hj=> ?_⟩⟩,by rw[setRow_size];exact Nat.le_refl _,rfl,rfl,hn,fun x=>by rw[setRow_size];exact hl x,fun x hx hne=> ?_,fun x hx=>.inl ?_,rfl⟩
  ·rw[List.flatten_append] at hj;by_cases hjl:j<es.length*size
   ·rw[List.getElem?_append_left (by omega)] at hj;obtain⟨v,hv,hr⟩:=hcells j d hj;exact⟨v,by rw[hlow j hjl];exact hv,hr.mono hn⟩
   ·rw[List.getElem?_append_right (by omega),hfl] at hj;obtain⟨v,hv,hr⟩:=YV _ d hj;have hlt:=(Array.getElem?_eq_some_iff.1 hv).1;refine⟨v,?_,hr.mono hn⟩;rw[<-hv,<-hmid _ hlt];congr 1;omega
  ·exact iq _ _ _ _ fun e=>hne (by simp[owns,blk,hc0,e])
  ·simpa [owns,blk] using hx
 ·obtain⟨ahF,_,Kl,Qk,Km,Ql⟩:=hy w.drew rfl
  obtain⟨oa,hor,FN,hod⟩:∃oa:Array Value,(Builtin.firstCells size es.length (.slice base es.length sCap)).run P w.drew=.ok oa w.drew/\oa.size=es.length*size/\∀(j:Nat)(d:D),es.flatten[j]? =some d->∃v,oa[j]? =some v/\dN w σ d v:=by
   rcases h4 with h0|⟨b,c,ct,rfl,hbc,hσ,hfit,hcells⟩
   ·have he:es=[]:=List.eq_nil_of_length_eq_zero (by omega);subst he;refine⟨#[],?_,by simp,fun j d hj=>by simp at hj⟩
    cases base with
    |none=>rfl
    |some b=>simp[Builtin.firstCells,loadCells,loadCellsFrom]
   ·have hm:es.length*size<=sCap*size:=Nat.mul_le_mul_right _ hcap;have hbc':w.drew.heap[b]? =some (.cells c ct (0,0)):=hbc;have hex:∀j,j<es.length*size->∃v,c[0+j]? =some v:=fun j hj=>⟨c[0+j]'(by omega),Array.getElem?_eq_getElem (by omega)⟩;obtain⟨hpl,hpv⟩:=yS c 0 (es.length*size) hex;refine⟨_,wH (a:=⟨b,0,none⟩) rfl hbc' _ hex,by simpa using hpl,fun j d hj=> ?_⟩;obtain⟨v,hv,hr⟩:=hcells j d hj;have hjl:=(List.getElem?_eq_some_iff.1 hj).1;refine⟨v,?_,hr⟩;rw[List.getElem?_toArray,hpv j (by omega),Nat.zero_add];exact hv
  obtain⟨cap,rest,Ho,hrest,hrun⟩:=AA (P:=P) (ty:=ty) (base:=base) (sCap:=sCap) ht hu hi hiz hyl (by rw[his];exact Qk) (by rw[his];exact hor) (by omega) hlen (by rw[hib];exact hb)
  let w':World:={w.drew with heap:=w.heap.push (.cells (oa++Kl++rest) e)}
  have hn:eG w σ w' σ:=by
   intro b1 c1 t1 E9 e1
   have hne:b1≠w.heap.size:=by have:=lt_of_some e1;omega
   refine⟨Nat.le_refl _,fun _=>rfl,c1,?_,rfl,fun _ _=>rfl⟩;simp only[w'];rw[Array.getElem?_push,if_neg hne];exact e1
  have hn':eG w.drew σ w' σ:=hn
  have hheap:w'.heap[w.heap.size]? =some (.cells (oa++Kl++rest) e (0,0)):=by simp[w']
  have hσ0:σ w.heap.size=0:=by
   rcases hl w.heap.size with h|h
   ·omega
   ·exact h
  refine⟨_,w',hrun,fun S' β'=>⟨hall,_,cap,by rw[hlen'],by omega,.inr ⟨w.heap.size,_,e,rfl,hheap,hσ0,?_,fun j d hj=> ?_⟩⟩,by simp[w'],rfl,rfl,hn,fun x=> ?_,fun x hx _=> ?_,fun x hx=>.inr ?_,rfl⟩
  ·simp only[Array.size_append,FN,Km,hrest,FM];rw[<-Nat.add_mul,<-Nat.add_mul];exact Nat.mul_le_mul_right _ (by omega)
  ·rw[List.flatten_append] at hj;by_cases hjl:j<es.length*size
   ·rw[List.getElem?_append_left (by omega)] at hj;obtain⟨v,hv,hr⟩:=hod j d hj;refine⟨v,?_,hr.mono hn⟩;rw[Array.append_assoc,Array.getElem?_append_left (by omega)];exact hv
   ·rw[List.getElem?_append_right (by omega),hfl] at hj;obtain⟨v,hv,hr⟩:=Ql _ d hj;have hlt:=(Array.getElem?_eq_some_iff.1 hv).1;refine⟨v,?_,hr.mono hn'⟩;rw[Array.append_assoc,Array.getElem?_append_right (by omega),FN,Array.getElem?_append_left (by omega)];exact hv
  ·simp only[w',Array.size_push];exact(hl x).imp (fun h=>by omega) id
  ·have hne:x≠w.heap.size:=by omega
   simp only[w'];rw[Array.getElem?_push,if_neg hne]
  ·simp only[owns,blk] at hx;split at hx
   ·cases hx
   ·cases hx;exact Nat.le_refl _
theorem Qt{o:Oper}{K:St->Prop}{Q:Exit->Act->World->Prop}{t u:TypeId}{x y:Operand}{k:Key}(hrun:∀r w',(Builtin.append_ #[t,u] o.type #[a.eval x,a.eval y]).run P w=.ok r w'->(execOp a.eval o).run P w=.ok (.value r) w')
 (hd:∀d,o.dst=some d->d<N)(hR:jN N s a w σ β)(hx:ev s.tm x=.c (.iJ k))(h:Dj P t u k (ev s.tm y) s o.dst K):o.wp P a w (Then N s.st β σ w K) Q:=by
 have hxr:=jI hR.T x;have Qh:=jI hR.T y;rw[hx] at hxr;unfold Dj at h;split at h
 ·rename_i e ys bB es ht hsrc hk;obtain⟨rfl,h1,h2,h3,h5,h6⟩:=h;obtain⟨hu,hsa⟩:=Qp hsrc Qh h1;obtain⟨⟨ob,ho,V5⟩,hone⟩:=hxr;rw[hk] at ho;cases ho;have hβ:=V5 _ _ rfl;obtain⟨hh,hb,FH⟩:=hR.S.obj k _ hk;rw[hβ] at hb;cases hb;obtain⟨r,w',hr,hro,hsz,hos,hout,hn,hl,wK,hbk,h1c⟩:=V8 (P:=P) (ty:=o.type) hR.S.live ht hu h3 rfl h2 FH hsa h5;obtain⟨hS1,hk1,D7⟩:=hR.S.set (o':=.dead) (h':=a.eval x) hk hβ hsz hos hout hn hl (fun b h1 h2=>⟨wK b h1 h2,rfl⟩) (.inl rfl) trivial (fun b hb=>by cases hb);have e1:bq β k (a.eval x)=β:=FI (a.eval x) _ _ _ hβ;rw[e1] at hS1 hk1 D7;obtain⟨tm,st⟩:=s;have hsh:=hS1.shape
  cases hst:bq st k Obj.dead with
  |nil=>simp only[newObj,hst] at h6
  |cons own Ω=>
   simp only[newObj,hst] at h6
   have abQ:eH w' σ (own::Ω) β:=by rw[<-hst];exact hS1
   have hfr:∃bo bΩ,β=bo::bΩ/\bo.length=own.length:=by
    cases β with
    |nil=>have:=abQ.shape.1;simp at this
    |cons bo bΩ=>
     refine⟨bo,bΩ,rfl,?_⟩;obtain⟨gr,q1,q2⟩:=abQ.shape.2 0 own rfl;simp at q1;rw[q1];exact q2
   obtain⟨bo,bΩ,rfl,hlen⟩:=hfr
   have hnot:∀b,owns (.eP (P.cellsOf e) (es++ys)) r b->¬Own (own::Ω) (bo::bΩ) b:=by
    intro b hb ⟨k1,o1,h1,e1,e2,e3⟩
    have hin:bA st k1=some o1/\k1≠k:=by
     have IB:bA (bq st k Obj.dead) k1=some o1:=by rw[hst];exact e1
     by_cases q:k1=k
     ·subst q;rw[dw _ _ _ _ hk] at IB;cases IB;cases e3
     ·rw[eZ _ _ _ _ (Ne.symm q)] at IB;exact⟨IB,q⟩
    rcases hbk b hb with k2|k2
    ·exact hin.2 (hR.S.apart k1 k o1 _ h1 _ b hin.1 e2 e3 hk hβ k2)
    ·have:=hR.S.C9 ⟨k1,o1,h1,hin.1,e2,e3⟩;omega
   obtain⟨hS2,hk2,hown⟩:=abQ.lay hlen (hro _ _) hnot
   have als:Keep st (bo::bΩ) (own::Ω) (bo::bΩ):=by rw[<-hst];exact hk1
   have Hq:Step st (bo::bΩ) σ w (own::Ω) (bo::bΩ) σ w':=by rw[<-hst];exact D7
   refine jU (x:=.c (.iJ (0,own.length))) (v:=r) hd hR hS2 (als.trans hk2) ⟨Hq.size,Hq.os,Hq.output,Hq.far,Hq.near,fun b hb=> ?_⟩ ⟨⟨_,dJ _ _ _,fun a b e=> ?_⟩,h1c⟩ (.inl rfl) (hrun _ _ hr) h6
   ·rcases hown b hb with q|q
    ·exact Hq.own b q
    ·rcases hbk b q with q2|q2
     ·exact .inl ⟨k,_,_,hk,hβ,q2⟩
     ·exact .inr q2
   ·rw[<-hlen,dJ]
 ·exact h.elim
theorem Y0{o:Oper}{K:St->Prop}{Q:Exit->Act->World->Prop}{t:TypeId}{n:Nat}{parts:Array (Nat×Operand)}(ho:o.op=.buildSlice t n parts)(hd:∀d,o.dst=some d->d<N)(hR:jN N s a w σ β)
 (h:FQ P t s o.dst K (V7 s.st t) (nval P s.st s.tm (.buildSlice t n parts))):o.wp P a w (Then N s.st β σ w K) Q:=by
 unfold FQ at h;split at h
 ·obtain⟨h1,h2⟩:=h;rw[<-ho] at h1 h2;obtain⟨v,w',σ',hrun,hg,hv⟩:=Kc o hR.S hR.T h1;exact pE hd hR hg hv hrun h2
 ·rename_i p es hb hr;split at h
  ·rename_i e ht;obtain⟨hp,h6⟩:=h;have hr':mK P (oh s.st) s.st s.tm (.buildSlice t n parts)=(p,.c (.bI es)):=hr;simp only[mK] at hr'
   cases hlab:oh s.st with
   |some m=>
    rw[hlab] at hr';simp only[lD] at hr';split at hr'<;>cases hr'
   |none=>
    rw[hlab] at hr';simp only[lD,qh,ht] at hr';split at hr'
    ·rename_i es' hes;cases hr';obtain⟨h1,h2,h3⟩:=hp
     obtain⟨ca,hrun,hca,hle,hcells⟩:=BL (P:=P) (w:=w) (σ:=σ) (S:=s.st) (β:=β) (t:=t) (n:=n) (parts:=parts.toList.map fun x=>(x.1,ev s.tm x.2)) (pv:=parts.toList.map fun x=>(x.1,a.eval x.2)) (by simp)
      (fun j x hx=>by
        rw[List.getElem?_map] at hx ⊢
        cases hc:parts.toList[j]? with
        |none=>rw[hc] at hx;cases hx
        |some y=>rw[hc] at hx;cases hx;exact⟨_,rfl,jI hR.T y.2⟩) ht hes h1 h2 h3
     have hrun':(execOp a.eval o).run P w=.ok (.value (.slice (some ⟨w.heap.size,0,none⟩) n n)) {w with heap:=w.heap.push (.cells ca e)}:=by
      clear h6 hr;obtain⟨dst,op,ty,pos,after,guard⟩:=o;simp only at ho;subst ho;simp[execOp];rw[Qc,hrun];rfl
     have hg:=zU w σ hR.S.live ca e 0
     have hσ0:σ w.heap.size=0:=by
      rcases hR.S.live w.heap.size with h|h
      ·omega
      ·exact h
     obtain⟨tm,st⟩:=s
     cases st with
     |nil=>exact h6.elim
     |cons own Ω=>
      obtain⟨bo,bΩ,rfl,hlen⟩:=frames hR
      obtain⟨hS',hk,hst⟩:=hR.S.push (o:=.eP (P.cellsOf e) es) (h:=.slice (some ⟨w.heap.size,0,none⟩) n n) hg hlen
       ⟨hle,some ⟨w.heap.size,0,none⟩,n,by rw[h1],by omega,.inr ⟨w.heap.size,ca,e,rfl,by simp,by simp,by rw[hca,h1];exact Nat.le_refl _,fun j d hj=>by
         obtain⟨v,hv,hr⟩:=hcells j d hj
         exact⟨v,hv,hr.mono hg.near⟩⟩⟩
       (fun b hb=>by
         simp only[owns,blk] at hb;split at hb
         ·cases hb
         ·cases hb;exact Nat.le_refl _)
      refine jU (x:=.c (.iJ (0,own.length))) hd hR hS' hk hst ⟨⟨_,dJ _ _ _,fun bB es e=> ?_⟩,rfl⟩ (.inl rfl) hrun' h6;rw[<-hlen,dJ]
    ·cases hr'
  ·exact h.elim
 ·exact h.elim
theorem IC(hw:∀{o:Oper}{K:St->Prop}{Q:Exit->Act->World->Prop},(∀d,o.dst=some d->d<N)->dA P o s K->o.wp P a w (Then N s.st β σ w K) Q){o:Oper}{K:St->Prop}{Q:Exit->Act->World->Prop}(hd:∀d,o.dst=some d->d<N)(hR:jN N s a w σ β)(h:iw P o s K):o.wp P a w (Then N s.st β σ w K) Q:=by
 unfold iw at h;split at h
 ·rename_i BN ts ho;split at h
  ·rename_i x y t u hx ht;unfold Aj at h;split at h
   ·rename_i k hk;refine Qt (fun r w' hr=> ?_) hd hR hk h;clear h;obtain⟨dst,op,ty,pos,after,guard⟩:=o;simp only at ho;subst ho
    obtain rfl:BN= #[x,y]:=by rw[<-Array.toArray_toList (xs:=BN),hx]
    obtain rfl:ts= #[t,u]:=by rw[<-Array.toArray_toList (xs:=ts),ht]
    simp only at hr;simp[execOp,resolve,invoke,builtin,hr]
   ·refine hw hd ?_;unfold dA;rw[ho];simp only[mM,hx,ht];exact h
  ·exact h.elim
 ·rename_i t n parts ho;exact Y0 ho hd hR h
 ·exact hw hd h
end
section
variable {P:Program} {w w':World} {σ σ':Nat->Nat} {S:Store} {β β':Hs} {N:Nat} {s:St} {a:Act}
theorem D8{o:Oper}{K:St->Prop}{Q:Exit->Act->World->Prop}(hd:∀d,o.dst=some d->d<N)(hR:jN N s a w σ β)(h:dA P o s K):o.wp P a w (Then N s.st β σ w K) Q:=by
 unfold dA at h;split at h
 ·rename_i t ho;unfold tV at h;split at h
  ·rename_i zs hz;obtain⟨z,uX,hzc⟩:=tT (w:=w) (σ:=σ) (S:=s.st) (β:=β) hz;refine Kn (v:=z) (t:=t) hd hR hzc (fun ad w' Ko=> ?_) h;obtain⟨dst,op,ty,pos,after,guard⟩:=o;simp only at ho;subst ho;simp[execOp,Instr.alloc,uX,Ko]
  ·exact h.elim
 ·rename_i t x ho;unfold AB at h;split at h
  ·rename_i cs hcs;refine Kn (v:=a.eval x) (t:=t) hd hR (wJ hcs (jI hR.T x)) (fun ad w' Ko=> ?_) h;obtain⟨dst,op,ty,pos,after,guard⟩:=o;simp only at ho;subst ho;simp[execOp,Instr.box,Ko]
  ·exact h.elim
 ·rename_i t x y ho;exact S9 ho hd hR h
 ·rename_i t x y ho;exact V4 ho hd hR h
 ·rename_i t ho;exact Qn ho hd hR h
 ·rename_i t x y z ho;exact Qo ho hd hR h
 ·rename_i c ho;exact Kq ho hd hR h
 ·obtain⟨h1,h2⟩:=h;obtain⟨v,w',σ',hrun,hg,hv⟩:=Kc o hR.S hR.T h1;exact pE hd hR hg hv hrun h2
def gu(R:Array Oper)(j:Nat):Option Nat:=(R[j]?).bind (·.dst)
def tY(P:Program)(R:Array Oper)(o:Oper)(s:St)(K:St->Prop):Prop:=
 match o.guard with
 |none=>iw P o s K
 |some (j,want)=>
  match(gu R j).map (look s.tm) with
  |some (.c (.d (.b x)))=>(x=want->iw P o s K)/\(x= !want->K (s.put o.dst (.eu [])))
  |some (.eu [])=>K (s.put o.dst (.eu []))
  |_=>False
def AL(P:Program)(R:Array Oper):List Oper->St->(St->Prop)->Prop
 |[],s,K=>K s
 |o::os,s,K=>tY P R o s fun s'=>AL P R os s' K
theorem Then.mono{K K':St->Prop}{a':Act}{w':World}(hK:∀s,K s->K' s)(h:Then N S β σ w K a' w'):Then N S β σ w K' a' w':=by
 obtain⟨s',σ',β',h1,h2,h3,h4⟩:=h;exact⟨s',σ',β',h1,h2,h3,hK _ h4⟩
theorem AO{R:Array Oper}{j:Nat}{x:Bool}(hR:jN N s a w σ β)(h:(gu R j).map (look s.tm)=some (.c (.d (.b x)))):yielded R a.tmps j=some x:=by
 unfold yielded;unfold gu at h
 cases hd:(R[j]?).bind (·.dst) with
 |none=>rw[hd] at h;cases h
 |some d=>
  rw[hd] at h;simp only[Option.map_some,Option.some.injEq] at h;have ht:=hR.T d;rw[h] at ht;obtain⟨ht,_⟩:=ht;simp only[Option.bind_some]
  have hlt:d<a.tmps.size:=by
   rcases Nat.lt_or_ge d a.tmps.size with h|h
   ·exact h
   ·simp[Array.getD,Nat.not_lt.2 h,undef] at ht;cases ht
  have hg:a.tmps.getD d undef=a.tmps[d]:=by simp[Array.getD,hlt]
  rw[hg] at ht;rw[Array.getElem?_eq_getElem hlt];generalize a.tmps[d]=v at ht;cases ht;rfl
theorem Fe{R:Array Oper}{j:Nat}(hR:jN N s a w σ β)(h:(gu R j).map (look s.tm)=some (.eu [])):yielded R a.tmps j=none:=by
 unfold yielded;unfold gu at h
 cases hd:(R[j]?).bind (·.dst) with
 |none=>rw[hd] at h;cases h
 |some d=>
  rw[hd] at h;simp only[Option.map_some,Option.some.injEq] at h;have ht:=hR.T d;rw[h] at ht;obtain⟨ar,hv,_⟩:=ht;simp only[Option.bind_some];by_cases hlt:d<a.tmps.size
  ·have hg:a.tmps.getD d undef=a.tmps[d]:=by simp[Array.getD,hlt]
   rw[hg] at hv;rw[Array.getElem?_eq_getElem hlt,hv]
  ·rw[Array.getElem?_eq_none (Nat.le_of_not_lt hlt)]
theorem NI{o:Oper}{K:St->Prop}(hd:∀d,o.dst=some d->d<N)(hR:jN N s a w σ β)(hK:K (s.put o.dst (.eu []))):Then N s.st β σ w K (a.put o.dst undef) w:=by
 have hr:jN N (St.put ⟨s.tm,s.st⟩ o.dst (.eu [])) (a.put o.dst undef) w σ β:=Ai hd hR.size hR.defers hR.S hR.T vT;have he:(s.put o.dst (.eu [])).st=s.st:=kV o.dst s.tm s.st _;exact⟨_,σ,β,hr,by rw[show(St.put ⟨s.tm,s.st⟩ o.dst (.eu [])).st=s.st from he];exact Step.oQ (Grow.refl hR.S.live),by rw[show(St.put ⟨s.tm,s.st⟩ o.dst (.eu [])).st=s.st from he];exact Keep.refl _ _,hK⟩
theorem Ta{R:Array Oper}{o:Oper}{K:St->Prop}{Q:Exit->Act->World->Prop}(hd:∀d,o.dst=some d->d<N)(hR:jN N s a w σ β)(h:tY P R o s K):
 if Region.wanted o (yielded R a.tmps) then o.wp P a w (Then N s.st β σ w K) Q else Then N s.st β σ w K (a.put o.dst undef) w:=by
 unfold tY at h;split at h
 ·rename_i hg;rw[if_pos (by simp[Region.wanted,hg])];exact IC (fun hd h=>D8 hd hR h) hd hR h
 ·rename_i j want hg;split at h
  ·rename_i x hx;have hy:=AO hR hx;by_cases e:x=want
   ·rw[if_pos (by simp[Region.wanted,hg,hy,e])];exact IC (fun hd h=>D8 hd hR h) hd hR (h.1 e)
   ·rw[if_neg (by simp[Region.wanted,hg,hy,e])];exact NI hd hR (h.2 (by cases x<;>cases want<;>simp_all))
  ·rename_i hx;have hy:=Fe hR hx;rw[if_neg (by simp[Region.wanted,hg,hy])];exact NI hd hR h
  ·exact h.elim
theorem Kr{R:Array Oper}{K:St->Prop}{S0:Store}{β0:Hs}{σ0:Nat->Nat}{w0:World}{Q:Exit->Act->World->Prop}(hQ:∀a w,Then N S0 β0 σ0 w0 K a w->Q .normal a w):
 ∀(n k:Nat),k+n=R.size->(∀o∈R.toList,∀d,o.dst=some d->d<N)->∀(s:St)(a:Act)(w:World)(σ:Nat->Nat)(β:Hs),jN N s a w σ β->Step S0 β0 σ0 w0 s.st β σ w->Keep S0 β0 s.st β->
  AL P R (R.toList.drop k) s K->wpOps P R Q (List.range' k n) a w
 |0,k,hk,_,s,a,w,σ,β,hR,hst,hkp,h=>by
  have:R.toList.drop k=[]:=by apply List.drop_eq_nil_of_le;simp;omega
  rw[this] at h;exact hQ a w ⟨s,σ,β,hR,hst,hkp,h⟩
 |n+1,k,hk,hd,s,a,w,σ,β,hR,hst,hkp,h=>by
  have hlt:k<R.toList.length:=by simp;omega
  rw[List.drop_eq_getElem_cons hlt] at h;have hg:=Ta (Q:=Q) (fun d e=>hd _ (List.getElem_mem hlt) d e) hR h;rw[List.range'_succ]
  have hRk:R[k]? =some R.toList[k]:=by
   rw[Array.getElem?_eq_getElem (by omega)];simp
  simp only[wpOps,hRk]
  have next:∀a' w',Then N s.st β σ w (fun s'=>AL P R (R.toList.drop (k+1)) s' K) a' w'->wpOps P R Q (List.range' (k+1) n) a' w':=by
   rintro a' w' ⟨s',σ',β',hR',hst',xS,hK'⟩;exact Kr hQ n (k+1) (by omega) hd s' a' w' σ' β' hR' (hst.trans hst') (hkp.trans xS) hK'
  split
  ·rename_i hw;rw[if_pos hw] at hg;exact .inl (Oper.wp_mono next hg)
  ·rename_i hw;rw[if_neg hw] at hg
   exact next _ _ hg
def gF{α:Type}(l:List α):List α:=l.drop 1
def AW(P:Program)(N:Nat)(c:Code)(Q:Exit->St->Prop)(s:St):Prop:=
 ∀(a:Act)(w:World)(σ:Nat->Nat)(β:Hs),jN N s a w σ β->
  c.wp P (fun e a' w'=>∃s' σ' β',jN N s' a' w' σ' β'/\Step s.st β σ w s'.st β' σ' w'/\Keep (gF s.st) (gF β) (gF s'.st) (gF β')/\Q e s') a w
theorem AW.mono{c:Code}{Q Q':Exit->St->Prop}(h:AW P N c Q s)(hq:∀e s,Q e s->Q' e s):AW P N c Q' s:=fun a w σ β hR=>
 wp_mono (h a w σ β hR) fun e a' w' ⟨s',σ',β',h1,h2,h3,h4⟩=>⟨s',σ',β',h1,h2,h3,hq _ _ h4⟩
def jP(K:St->Prop)(Q:Exit->St->Prop):Exit->St->Prop
 | .normal,s=>K s
 |e,s=>Q e s
def wP(id:Nat)(Q:Exit->St->Prop):Exit->St->Prop
 | .exit id',s=>if id'=id then Q .normal s else Q (.exit id') s
 |e,s=>Q e s
theorem Qu{x y:Code}{Q:Exit->St->Prop}(h:AW P N x (jP (AW P N y Q) Q) s):AW P N (.seq x y) Q s:=by
 intro a w σ β hR;refine wp_seq (wp_mono (h a w σ β hR) ?_);rintro e a' w' ⟨s',σ',β',h1,h2,h3,h4⟩
 cases e with
 |normal=>
  show y.wp P _ a' w';refine wp_mono (h4 a' w' σ' β' h1) ?_;rintro e a'' w'' ⟨s'',Au,β'',k1,k2,k3,k4⟩;exact⟨s'',Au,β'',k1,h2.trans k2,h3.trans k3,k4⟩
 |_=>exact⟨s',σ',β',h1,h2,h3,h4⟩
theorem Qv{c:Code}{e:Exit}{Q:Exit->St->Prop}(hc:∀{Q':Exit->Act->World->Prop}{a:Act}{w:World},Q' e a w->c.wp P Q' a w)(h:Q e s):AW P N c Q s:=
 fun a w σ β hR=>hc ⟨s,σ,β,hR,Step.oQ (Grow.refl hR.S.live),Keep.refl _ _,h⟩
theorem afK{Q:Exit->St->Prop}(h:Q .normal s):AW P N .skip Q s:=Qv wp_skip h
theorem afL{id:Nat}{Q:Exit->St->Prop}(h:Q (.exit id) s):AW P N (.exit id) Q s:=Qv wp_exit h
theorem ahG{Q:Exit->St->Prop}(h:Q .ret s):AW P N .ret Q s:=Qv wp_ret h
theorem ME{c:Operand}{x y:Code}{b:Bool}{Q:Exit->St->Prop}(hc:ev s.tm c=.c (.d (.b b)))(ht:b=true->AW P N x Q s)(hf:b=false->AW P N y Q s):AW P N (.cond c x y) Q s:=by
 intro a w σ β hR;have hv:=jI hR.T c;rw[hc] at hv;obtain⟨hv,_⟩:=hv;generalize he:a.eval c=v at hv;cases hv;refine Go.wp_cond he ?_
 cases b with
 |true=>exact ht rfl a w σ β hR
 |false=>exact hf rfl a w σ β hR
theorem Jm{id:Nat}{c:Code}{Q:Exit->St->Prop}(h:AW P N c (wP id Q) s):AW P N (.block id c) Q s:=by
 intro a w σ β hR;refine wp_block (wp_mono (h a w σ β hR) ?_);rintro e a' w' ⟨s',σ',β',h1,h2,h3,h4⟩
 cases e with
 |exit id'=>
  show if id'=id then _ else _
  simp only[wP] at h4;split
  ·rename_i e;rw[if_pos e] at h4;exact⟨s',σ',β',h1,h2,h3,h4⟩
  ·rename_i e;rw[if_neg e] at h4;exact⟨s',σ',β',h1,h2,h3,h4⟩
 |_=>exact⟨s',σ',β',h1,h2,h3,h4⟩
theorem Keep.tail{S S':Store}{β β':Hs}(h:Keep S β S' β'):Keep (gF S) (gF β) (gF S') (gF β'):=h.drop 1
theorem Y1{id:Nat}{R:Array Oper}{Q:Exit->St->Prop}(hd:R.toList.all (fun o=>match o.dst with|some d=>decide (d<N)|none=>true)=true)(h:AL P R R.toList s (Q .normal)):AW P N (.region id R false) Q s:=by
 intro a w σ β hR;refine wp_region ?_;rw[List.range_eq_range'];refine Kr (S0:=s.st) (β0:=β) (σ0:=σ) (w0:=w) (K:=Q .normal) (fun a' w' ht=> ?_) R.size 0 (by omega) (fun o ho d e=> ?_) s a w σ β hR (Step.oQ (Grow.refl hR.S.live)) (Keep.refl _ _) h
 ·obtain⟨s',σ',β',h1,h2,h3,h4⟩:=ht;exact⟨s',σ',β',h1,h2,h3.tail,h4⟩
 ·have:=List.all_eq_true.1 hd o ho;rw[e] at this;simpa using this
theorem MF{ι:Type}{c:Code}{Q:Exit->St->Prop}(I:ι->St->Prop)(μ:ι->Nat)(i0:ι)(h0:I i0 s)
 (round:∀i s,I i s->AW P N c (jP (fun s'=>∃j,μ j<μ i/\I j s') Q) s):AW P N (.loop c) Q s:=by
 intro a w σ β hR
 have key:∀(n:Nat)(i:ι)(s':St)(a':Act)(w':World)(σ':Nat->Nat)(β':Hs),μ i<n->I i s'->jN N s' a' w' σ' β'->Step s.st β σ w s'.st β' σ' w'->Keep (gF s.st) (gF β) (gF s'.st) (gF β')->
  Code.rounds P c (fun e a' w'=>∃s' σ' β',jN N s' a' w' σ' β'/\Step s.st β σ w s'.st β' σ' w'/\Keep (gF s.st) (gF β) (gF s'.st) (gF β')/\Q e s') n a' w':=by
  intro n
  induction n with
  |zero=>intro i s' a' w' σ' β' h;omega
  |succ n ih=>
   intro i s' a' w' σ' β' hn hI hR' hst hkp;refine wp_mono (round i s' hI a' w' σ' β' hR') ?_;rintro e a'' w'' ⟨s'',Au,β'',k1,k2,k3,k4⟩
   cases e with
   |normal=>
    obtain⟨j,hj,hIj⟩:=k4;exact ih j s'' a'' w'' Au β'' (by omega) hIj k1 (hst.trans k2) (hkp.trans k3)
   |_=>exact⟨s'',Au,β'',k1,hst.trans k2,hkp.trans k3,k4⟩
 exact wp_loop_rounds (μ i0+1) (key (μ i0+1) i0 s a w σ β (by omega) h0 hR (Step.oQ (Grow.refl hR.S.live)) (Keep.refl _ _))
end
def kM:List V->Nat->List (Nat×V)
 |[],_=>[]
 |v::vs,i=>(i,v)::kM vs (i+1)
def C.ret:C->Option C
 | .bS (0,_) es=>some (.d (.sl es))
 |c=>c.down 1
def Hr(y:Bool×List C):Option (Bool×List C):=(y.2.mapM C.ret).map fun cs=>(y.1,cs)
def V.ret:V->Option V
 | .c x=>(x.ret).map .c
 | .agg cs=>(cs.mapM C.ret).map .agg
 | .eu xs=>(xs.mapM Hr).map .eu
 | .any=>some .any
def wQ(P:Program)(s:St):ResultVar->R
 | .tmp t=>(True,look s.tm t)
 | .cell a t=>zS P s.st t (look s.tm a)
def Kt:V->Option (Bool×List C)
 | .c x=>some (false,[x])
 | .agg cs=>some (true,cs)
 |_=>none
def om(P:Program)(s:St):List ResultVar->Prop×Option (List (Bool×List C))
 |[]=>(True,some [])
 |x::xs=>((wQ P s x).1/\(om P s xs).1,(Kt (wQ P s x).2).bind fun y=>(om P s xs).2.map fun ys=>y::ys)
def nM(P:Program)(rs:List ResultVar)(s:St):R:=
 match rs with
 |[x]=>wQ P s x
 |xs=>match(om P s xs).2 with
  |some ys=>((om P s xs).1,.eu ys)
  |none=>no
def abR(P:Program)(rs:List ResultVar)(post:V->Store->Prop)(e:Exit)(s:St):Prop:=
 match e with
 | .normal| .ret=>(nM P rs s).1/\match(nM P rs s).2.ret with
   |some r=>post r (gF s.st)
   |none=>False
 |_=>False
section
variable {P:Program} {w w':World} {σ σ':Nat->Nat} {S:Store} {β β':Hs} {N:Nat} {s:St} {a:Act}
theorem Qw{cs:List C}{vs:List Value}(n:Nat)(h:fD w σ (S.drop n) (β.drop n) cs vs):fD w σ S β (cs.map (C.up n)) vs:=
 ⟨by simpa using h.1,fun j x hx=>by
   rw[List.getElem?_map] at hx
   cases hc:cs[j]? with
   |none=>rw[hc] at hx;cases hx
   |some y=>
    rw[hc] at hx;cases hx;obtain⟨v,hv,hr,ho⟩:=h.2 j y hc
    exact⟨v,hv,hr.up n,ho⟩⟩
theorem Ht{x:V}{v:Value}(n:Nat)(h:dP w σ (S.drop n) (β.drop n) x v):dP w σ S β (x.up n) v:=by
 cases x with
 |c x=>exact⟨h.1.up n,h.2⟩
 |agg cs=>obtain⟨ar,ha,hc⟩:=h;exact⟨ar,ha,Qw n hc⟩
 |eu xs=>
  obtain⟨ar,ha,hl,h2⟩:=h;refine⟨ar,ha,by simpa using hl,fun j y hy=> ?_⟩;rw[List.getElem?_map] at hy
  cases hc:xs[j]? with
  |none=>rw[hc] at hy;cases hy
  |some z=>
   rw[hc] at hy;cases hy;obtain⟨u,hu,h3⟩:=h2 j z hc;refine⟨u,hu,?_⟩;obtain⟨b,cs⟩:=z
   cases b with
   |true=>obtain⟨a',e,hcs⟩:=h3;exact⟨a',e,Qw n hcs⟩
   |false=>obtain⟨x,e,hx,ho⟩:=h3;subst e;exact⟨_,rfl,hx.up n,ho⟩
 |any=>exact trivial
theorem Jo{c c':C}{v:Value}(h:c.ret=some c')(hc:gJ w σ S β c v):gJ w σ (S.drop 1) (β.drop 1) c' v:=by
 unfold C.ret at h;split at h
 ·cases h;exact hc.1
 ·exact Qd h hc
theorem NJ{xs ys:List C}{vs:List Value}(h:xs.mapM C.ret=some ys)(hc:fD w σ S β xs vs):fD w σ (S.drop 1) (β.drop 1) ys vs:=by
 induction xs generalizing ys vs with
 |nil=>simp at h;subst h;exact⟨hc.1,fun j d hd=>by simp at hd⟩
 |cons x xs ih=>
  rw[List.mapM_cons] at h
  cases hd:C.ret x with
  |none=>rw[hd] at h;simp at h
  |some y=>
   cases hm:xs.mapM C.ret with
   |none=>rw[hd,hm] at h;simp at h
   |some ys'=>
    rw[hd,hm] at h;simp at h;subst h
    cases vs with
    |nil=>have:=hc.1;simp at this
    |cons v vs=>
     obtain⟨l,r⟩:=ih hm (vs:=vs) ⟨by have:=hc.1;simpa using this,fun j y hy=>hc.2 (j+1) y hy⟩;refine⟨by simp[l],fun j e he=> ?_⟩
     cases j with
     |zero=>
      simp at he;subst he;obtain⟨u,hu,hr,ho⟩:=hc.2 0 x rfl;simp at hu;subst hu;exact⟨v,rfl,Jo hd hr,ho⟩
     |succ j=>exact r j e he
theorem Qx{α γ:Type}(f:α->Option γ):∀(xs:List α)(ys:List γ),xs.mapM f=some ys->ys.length=xs.length/\∀(j:Nat)(y:γ),ys[j]? =some y->∃x,xs[j]? =some x/\f x=some y
 |[],ys,h=>by simp at h;subst h;exact⟨rfl,fun j y hy=>by simp at hy⟩
 |x::xs,ys,h=>by
  rw[List.mapM_cons] at h
  cases hd:f x with
  |none=>rw[hd] at h;simp at h
  |some y=>
   cases hm:xs.mapM f with
   |none=>rw[hd,hm] at h;simp at h
   |some ys'=>
    rw[hd,hm] at h;simp at h;subst h;obtain⟨l,r⟩:=Qx f xs ys' hm;refine⟨by simp[l],fun j e he=> ?_⟩
    cases j with
    |zero=>simp at he;subst he;exact⟨x,rfl,hd⟩
    |succ j=>exact r j e he
theorem Qy{x y:V}{v:Value}(h:x.ret=some y)(hx:dP w σ S β x v):dP w σ (S.drop 1) (β.drop 1) y v:=by
 cases x with
 |c x=>
  simp only[V.ret] at h
  cases hc:x.ret with
  |none=>rw[hc] at h;cases h
  |some c=>rw[hc] at h;cases h;exact⟨Jo hc hx.1,hx.2⟩
 |agg cs=>
  simp only[V.ret] at h
  cases hc:cs.mapM C.ret with
  |none=>rw[hc] at h;cases h
  |some c=>rw[hc] at h;cases h;obtain⟨ar,ha,h2⟩:=hx;exact⟨ar,ha,NJ hc h2⟩
 |eu xs=>
  simp only[V.ret] at h
  cases hc:xs.mapM Hr with
  |none=>rw[hc] at h;cases h
  |some ys=>
   rw[hc] at h;cases h;obtain⟨ar,ha,hl,h2⟩:=hx;obtain⟨l,r⟩:=Qx _ _ _ hc;refine⟨ar,ha,by rw[l];exact hl,fun j y hy=> ?_⟩;obtain⟨z,hz,hzy⟩:=r j y hy;obtain⟨u,hu,h3⟩:=h2 j z hz;refine⟨u,hu,?_⟩;obtain⟨b,cs⟩:=z;simp only[Hr] at hzy
   cases hm:cs.mapM C.ret with
   |none=>rw[hm] at hzy;cases hzy
   |some cs'=>
    rw[hm] at hzy;cases hzy
    cases b with
    |true=>obtain⟨a',e,hcs⟩:=h3;exact⟨a',e,NJ hm hcs⟩
    |false=>
     obtain⟨x,e,hx,ho⟩:=h3;subst e;rw[List.mapM_cons] at hm
     cases hx':C.ret x with
     |none=>rw[hx'] at hm;simp at hm
     |some x'=>
      rw[hx'] at hm;simp at hm;exact⟨x',hm.symm,Jo hx' hx,ho⟩
 |any=>cases h;exact trivial
theorem UZ{x:ResultVar}(hR:jN N s a w σ β)(h:(wQ P s x).1):
 ∃v,(match x with| .tmp t=>pure (a.tmps.getD t undef)| .cell b t=>do loadVar t (<-asAddr (a.tmps.getD b undef)):Sem Value).run P w=.ok v w/\dP w σ s.st β (wQ P s x).2 v:=by
 cases x with
 |tmp t=>exact⟨_,rfl,hR.T t⟩
 |cell b t=>
  obtain⟨v,hrun,hv⟩:=Nz (P:=P) (t:=t) hR.S (hR.T b) h;refine⟨v,?_,hv⟩;show(do loadVar t (<-asAddr (a.tmps.getD b undef)):Sem Value).run P w=.ok v w;generalize a.tmps.getD b undef=bv at hrun ⊢
  cases bv with
  |pointer o=>
   cases o with
   |none=>simp[Instr.loadAt,Instr.sureAddr] at hrun
   |some ad=>simpa [Instr.loadAt,Instr.sureAddr,asAddr] using hrun
  |_=>simp[Instr.loadAt,Instr.sureAddr] at hrun
theorem abS{x:V}{y:Bool×List C}{v:Value}(h:Kt x=some y)(hx:dP w σ S β x v):Mq w σ S β y v:=by
 cases x with
 |c x=>cases h;exact⟨x,rfl,hx.1,hx.2⟩
 |agg cs=>cases h;exact hx
 |eu=>cases h
 |any=>cases h
theorem U0(hR:jN N s a w σ β):∀(xs:List ResultVar)(ys:List (Bool×List C)),(om P s xs).1->(om P s xs).2=some ys->
 ∃vs:List Value,(xs.mapM fun x=>(match x with| .tmp t=>pure (a.tmps.getD t undef)| .cell b t=>do loadVar t (<-asAddr (a.tmps.getD b undef)):Sem Value)).run P w=.ok vs w/\ys.length=vs.length/\
  ∀(j:Nat)(y:Bool×List C),ys[j]? =some y->∃u,vs[j]? =some u/\Mq w σ s.st β y u
 |[],ys,_,h=>by simp only[om] at h;cases h;exact⟨[],by simp,rfl,fun j y hy=>by simp at hy⟩
 |x::xs,ys,h1,h2=>by
  simp only[om] at h1 h2
  cases hc:Kt (wQ P s x).2 with
  |none=>rw[hc] at h2;cases h2
  |some y=>
   cases hr:(om P s xs).2 with
   |none=>rw[hc,hr] at h2;cases h2
   |some ys'=>
    rw[hc,hr] at h2;cases h2;obtain⟨v,hv,hrep⟩:=UZ (P:=P) (x:=x) hR h1.1;obtain⟨vs,hvs,hl,hj⟩:=U0 hR xs ys' h1.2 hr;refine⟨v::vs,?_,by simp[hl],fun j z hz=> ?_⟩
    ·rw[List.mapM_cons];simp only[Sem.run_bind,Result.andThen_ok,Sem.run_pure];rw[hv];simp only[Result.andThen_ok];rw[hvs];rfl
    ·cases j with
     |zero=>simp at hz;subst hz;exact⟨v,rfl,abS hc hrep⟩
     |succ j=>exact hj j z hz
theorem FR{fn:Func}(hR:jN N s a w σ β)(h:(nM P fn.results.toList s).1):∃v,(results fn a.tmps).run P w=.ok v w/\dP w σ s.st β (nM P fn.results.toList s).2 v:=by
 have hres:fn.results=fn.results.toList.toArray:=by simp
 have hrun:∀vs:List Value,(fn.results.toList.mapM fun x=>(match x with| .tmp t=>pure (a.tmps.getD t undef)| .cell b t=>do loadVar t (<-asAddr (a.tmps.getD b undef)):Sem Value)).run P w=.ok vs w->
  (results fn a.tmps).run P w=.ok (if h:vs.toArray.size=1 then vs.toArray[0] else .tuple vs.toArray) w:=by
  intro vs hvs;unfold results;rw[hres,List.mapM_toArray];simp only[Sem.run_bind,Sem.run_map];have:(fun x=>(match x with| .tmp t=>pure (a.tmps.getD t undef)| .cell b t=>do loadVar t (<-asAddr (a.tmps.getD b undef)):Sem Value))=fun(x:ResultVar)=>(match x with| .tmp t=>pure (a.tmps.getD t undef)| .cell b t=>do loadVar t (<-asAddr (a.tmps.getD b undef)):Sem Value):=rfl
  erw [hvs]
  rfl
 unfold nM at h ⊢;split at h
 ·rename_i x hx;rw[hx] at hrun;obtain⟨v,hv,hrep⟩:=UZ (P:=P) (x:=x) hR h;refine⟨v,?_,hrep⟩
  have:=hrun [v] (by
   rw[List.mapM_cons];simp only[Sem.run_bind,List.mapM_nil,Result.andThen_ok,Sem.run_pure]
   rw[hv];rfl)
  simpa using this
 ·rename_i hne;split at h
  ·rename_i ys hys;obtain⟨vs,hvs,hl,hj⟩:=U0 (P:=P) hR _ ys h hys;have h1:=hrun vs hvs
   have hlen:¬(vs.toArray.size=1):=by
    intro e
    have hl2:ys.length=fn.results.toList.length:=by
     clear hj hvs h1 hrun hne e hl h;generalize fn.results.toList=l at hys
     induction l generalizing ys with
     |nil=>simp only[om] at hys;cases hys;rfl
     |cons x xs ih=>
      simp only[om] at hys
      cases hc:Kt (wQ P s x).2 with
      |none=>rw[hc] at hys;cases hys
      |some y=>
       cases hr:(om P s xs).2 with
       |none=>rw[hc,hr] at hys;cases hys
       |some ys'=>rw[hc,hr] at hys;cases hys;simp[ih ys' hr]
    simp at e
    have:fn.results.toList.length=1:=by omega
    obtain⟨x,hx⟩:=List.length_eq_one_iff.1 this;exact hne x hx
   rw[dif_neg hlen] at h1;exact⟨_,h1,vs.toArray,rfl,by simpa using hl,fun j y hy=>by simpa using hj j y hy⟩
  ·exact h.elim
theorem eH.D9{own:List Obj}{Ω:Store}{bo:List Value}{bΩ:Hs}(h:eH w σ (own::Ω) (bo::bΩ)):eH w σ Ω bΩ:=by
 refine⟨fun k o ho=> ?_,fun k k' o o' h1 h2 b e1 e2 e3 e4 e5 e6=> ?_,⟨by have:=h.shape.1;simpa using this,fun l fr hl=>h.shape.2 (l+1) fr hl⟩,h.live,h.wE⟩
 ·obtain⟨l,j⟩:=k;obtain⟨hv,hh,hr⟩:=h.obj (l+1,j) o (by rw[bX];exact ho);rw[bX] at hh;exact⟨hv,hh,hr⟩
 ·obtain⟨l,j⟩:=k;obtain⟨l',j'⟩:=k';have:=h.apart (l+1,j) (l'+1,j') o o' h1 h2 b (by rw[bX];exact e1) (by rw[bX];exact e2) e3 (by rw[bX];exact e4) (by rw[bX];exact e5) e6;cases this;rfl
theorem eH.up1(h:eH w σ S β):eH w σ ([]::S) ([]::β):=by
 refine⟨fun k o ho=> ?_,fun k k' o o' h1 h2 b e1 e2 e3 e4 e5 e6=> ?_,⟨by simp[h.shape.1],fun l fr hl=> ?_⟩,h.live,h.wE⟩
 ·obtain⟨l,j⟩:=k
  cases l with
  |zero=>rw[bL] at ho;simp at ho
  |succ l=>
   rw[bX] at ho;obtain⟨hv,hh,hr⟩:=h.obj (l,j) o ho;exact⟨hv,by rw[bX];exact hh,hr⟩
 ·obtain⟨l,j⟩:=k;obtain⟨l',j'⟩:=k'
  cases l with
  |zero=>rw[bL] at e1;simp at e1
  |succ l=>
   cases l' with
   |zero=>rw[bL] at e4;simp at e4
   |succ l'=>
    rw[bX] at e1 e2 e4 e5;have:=h.apart (l,j) (l',j') o o' h1 h2 b e1 e2 e3 e4 e5 e6;cases this;rfl
 ·cases l with
  |zero=>simp at hl;subst hl;exact⟨[],rfl,rfl⟩
  |succ l=>exact h.shape.2 l fr hl
theorem Ak{b:Nat}(h:Own ([]::S) ([]::β) b):Own S β b:=by
 obtain⟨⟨l,j⟩,o,hv,h1,h2,h3⟩:=h
 cases l with
 |zero=>rw[bL] at h1;simp at h1
 |succ l=>rw[bX] at h1 h2;exact⟨(l,j),o,hv,h1,h2,h3⟩
theorem tZ{own:List Obj}{Ω:Store}{bo:List Value}{bΩ:Hs}{b:Nat}(h:Own Ω bΩ b):Own (own::Ω) (bo::bΩ) b:=by
 obtain⟨⟨l,j⟩,o,hv,h1,h2,h3⟩:=h;exact⟨(l+1,j),o,hv,by rw[bX];exact h1,by rw[bX];exact h2,h3⟩
theorem zX:∀(args:List V)(i t:Nat),look (kM args i) t=if i<=t then(args[t-i]?).getD .any else .any
 |[],i,t=>by simp[kM,look]
 |v::args,i,t=>by
  rw[kM,look,zX args (i+1) t];by_cases h1:i=t
  ·subst h1;simp
  ·rw[if_neg h1];by_cases h2:i+1<=t
   ·rw[if_pos h2,if_pos (by omega)];rw[show t-i=(t-(i+1))+1 from by omega];rfl
   ·rw[if_neg h2,if_neg (by omega)]
theorem qm{f:FuncId}{fn:Func}{c:Code}{args:List V}{post:V->Store->Prop}(hf:P.funcs[f]? =some fn)(hb:fn.body=some c)(hn:(fn.name== "runtime.NumGoroutine")=false)
 (hl:args.length<=fn.ntmps)(h:AW P fn.ntmps c (abR P fn.results.toList post) ⟨kM (args.map (V.up 1)) 0,[]::S⟩):cB P f args S post:=by
 refine⟨⟨fn,hf,hn,by simp[hb]⟩,fun w σ β vs hS hargs=> ?_⟩;refine calls_of_wp hf hb ?_;have hlen:vs.length=args.length:=hargs.1.symm
 have Qz:jN fn.ntmps ⟨kM (args.map (V.up 1)) 0,[]::S⟩ {tmps:=vs.toArray++Array.replicate (fn.ntmps-vs.toArray.size) undef,defers:=[]} w σ ([]::β):=by
  refine⟨by simp;omega,rfl,hS.up1,fun t=> ?_⟩;show dP w σ ([]::S) ([]::β) (look (kM (args.map (V.up 1)) 0) t) _;rw[zX,if_pos (Nat.zero_le _),Nat.sub_zero,List.getElem?_map]
  cases ha:args[t]? with
  |none=>exact trivial
  |some x=>
   obtain⟨v,hv,hr⟩:=hargs.2 t x ha;have ht:=(List.getElem?_eq_some_iff.1 hv).1
   have:(vs.toArray++Array.replicate (fn.ntmps-vs.toArray.size) undef).getD t undef=v:=by
    rw[Array.getD_eq_getD_getElem?,Array.getElem?_append_left (by simpa using ht)];simp[hv]
   rw[this];exact Ht (S:=[]::S) (β:=[]::β) 1 hr
 refine wp_mono (h _ w σ ([]::β) Qz) ?_;rintro e a' w' ⟨s',σ',β',hR,hst,hkp,hq⟩
 have main:(nM P fn.results.toList s').1/\(match(nM P fn.results.toList s').2.ret with|some r=>post r (gF s'.st)|none=>False)->
  a'.defers=[]/\∃v,(results fn a'.tmps).run P w'=.ok v w'/\∃v_1 r S' σ' β',Ending.returned v=Ending.returned v_1/\eH w' σ' S' β'/\Keep S β S' β'/\Step S β σ w S' β' σ' w'/\dP w' σ' S' β' r v_1/\post r S':=by
  rintro⟨q1,q2⟩;obtain⟨v,hv,hrep⟩:=FR (fn:=fn) hR q1;split at q2
  ·rename_i r hr;obtain⟨tm,st⟩:=s';have ajM:=Qy hr hrep;refine⟨hR.defers,v,hv,v,r,gF st,σ',gF β',rfl,?_,hkp,?_,ajM,q2⟩
   ·cases st with
    |nil=>
     cases β' with
     |nil=>exact hR.S
     |cons=>have:=hR.S.shape.1;simp at this
    |cons own Ω=>
     cases β' with
     |nil=>have:=hR.S.shape.1;simp at this
     |cons bo bΩ=>exact hR.S.D9
   ·refine⟨hst.size,hst.os,hst.output,fun b hb ho=>hst.far b hb (fun x=>ho (Ak x)),hst.near,fun b hb=> ?_⟩
    cases st with
    |nil=>obtain⟨k,o,hv,h1,_⟩:=hb;simp[gF,nD] at h1
    |cons own Ω=>
     cases β' with
     |nil=>obtain⟨k,o,hv,h1,h2,_⟩:=hb;simp[gF,nD] at h2
     |cons bo bΩ=>exact(hst.own b (tZ hb)).imp Ak id
  ·exact q2.elim
 cases e with
 |normal=>exact main hq
 |ret=>exact main hq
 |_=>exact hq.elim
end
def qG:Op->Bool
 | .alloc _=>true
 | .box _ _=>true
 | .store _ _ _=>true
 | .makeSlice _ _ _=>true
 | .makeMap _ none=>true
 | .mapUpdate _ _ _ _=>true
 | .call {callee:=.builtin .append,args:=_,argTypes:=_}=>true
 |_=>false
def xU:Op->Bool
 | .store _ _ _=>true
 | .mapUpdate _ _ _ _=>true
 |_=>false
def jv:Op->Bool
 | .call {callee:=.value _,args:=_,argTypes:=_}=>true
 |_=>false
abbrev Md:=Op->Nat
def fJ(E:Md)(op:Op):Bool:=qG op||(decide (1<=E op)&&jv op)
def j6(E:Md)(op:Op):Bool:=xU op||(decide (2<=E op)&&jv op)
theorem abT{E:Md}{op:Op}(h:qG op=true):fJ E op=true:=by simp[fJ,h]
theorem Y2{E:Md}{op:Op}(h:j6 E op=true):fJ E op=true:=by
 unfold j6 fJ at *
 rw[Bool.or_eq_true] at h ⊢;refine h.imp (fun hs=> ?_) (fun h=> ?_)
 ·cases op<;>first|rfl|simp[xU] at hs
 ·rw[Bool.and_eq_true,decide_eq_true_eq] at h ⊢;exact⟨by omega,h.2⟩
def DS(S S':Store):Prop:=∀k o,bA S k=some o->bA S' k=some o\/((∃z es,rD o z es)/\∃o' z es,bA S' k=some o'/\rD o' z es)
def Ea(P:Program)(tm:List (Nat×V))(c:Call)(r:V):Prop:=
 match c.callee with
 | .value x=>match ev tm x with
   | .c (.fn f caps)=>bg P f (c.args.toList.map (ev tm)++caps.map fun y=>.c (.ptr y.1 y.2)) r
   |_=>False
 |_=>False
def fO(P:Program)(E:Md)(o:Oper)(s:St)(K:St->Prop):Prop:=
 if qG o.op then dA P o s K else
 match o.op with
 | .call {callee:=.value x,args,argTypes}=>match E (.call {callee:=.value x,args,argTypes}) with
   |0=>∃r,Ea P s.tm {callee:=.value x,args,argTypes} r/\K (s.put o.dst r)
   |1=>∃S' v,DS s.st S'/\dA P o s (fun t=>t=St.put ⟨s.tm,S'⟩ o.dst v)/\K (St.put ⟨s.tm,S'⟩ o.dst v)
   |_=>∃S' v,dA P o s (fun t=>t=St.put ⟨s.tm,S'⟩ o.dst v)/\K (St.put ⟨s.tm,S'⟩ o.dst v)
 |op=>(nval P s.st s.tm op).1/\K (s.put o.dst (nval P s.st s.tm op).2)
def nY(P:Program)(E:Md)(R:Array Oper)(o:Oper)(s:St)(K:St->Prop):Prop:=
 match o.guard with
 |none=>fO P E o s K
 |some (j,want)=>
  match(gu R j).map (look s.tm) with
  |some (.c (.d (.b x)))=>(x=want->fO P E o s K)/\(x= !want->K (s.put o.dst (.eu [])))
  |some (.eu [])=>K (s.put o.dst (.eu []))
  |_=>False
def rH(P:Program)(E:Md)(R:Array Oper):List Oper->St->(St->Prop)->Prop
 |[],s,K=>K s
 |o::os,s,K=>nY P E R o s fun s'=>rH P E R os s' K
def NV(P:Program)(S:Store)(tm:List (Nat×V))(op:Op)(v:V):Prop:=
 (∃c,op=.call c/\Ea P tm c v)\/((nval P S tm op).1/\v=(nval P S tm op).2)
def gd(R:Array Oper)(o:Oper)(tm:List (Nat×V)):Option Bool:=
 match o.guard with
 |none=>some true
 |some (j,want)=>
  match(gu R j).map (look tm) with
  |some (.c (.d (.b x)))=>some (x==want)
  |some (.eu [])=>some false
  |_=>none
def lH(P:Program)(E:Md)(R:Array Oper)(o:Oper)(s:St)(v:V)(s':St):Prop:=
 (gd R o s.tm=some false/\v=.eu []/\s'=s.put o.dst v)\/
 (gd R o s.tm=some true/\fJ E o.op=false/\NV P s.st s.tm o.op v/\s'=s.put o.dst v)\/
 (gd R o s.tm=some true/\fJ E o.op=true/\dA P o s (fun t=>t=s')/\s'=St.put ⟨s.tm,s'.st⟩ o.dst v/\(qG o.op=false->j6 E o.op=false->DS s.st s'.st))
section
variable {P:Program} {w w':World} {σ σ':Nat->Nat} {S S':Store} {β β':Hs} {N:Nat} {s:St} {a:Act}
theorem qU{dst:Option Nat}{o:Obj}{mk:Key->V}{K:St->Prop}(h:newObj s dst o mk K):∃S' v,newObj s dst o mk (fun t=>t=St.put ⟨s.tm,S'⟩ dst v)/\K (St.put ⟨s.tm,S'⟩ dst v):=by
 unfold newObj at h ⊢;split at h
 ·rename_i own Ω hst;exact⟨_,_,rfl,h⟩
 ·exact h.elim
theorem afM{b:Bool}{es x:List (List D)}{z:Nat}{dst:Option Nat}{K:St->Prop}(h:zw b es s dst z x K):∃S' v,zw b es s dst z x (fun t=>t=St.put ⟨s.tm,S'⟩ dst v)/\K (St.put ⟨s.tm,S'⟩ dst v):=by
 cases b with
 |false=>exact qU (o:=.tok z x) (mk:=fun k=>.c (.bS k x)) h
 |true=>
  obtain⟨S',v,h1,h2⟩:=qU (o:=.eP z x) (mk:=fun k=>.c (.iJ k)) h.2;exact⟨S',v,⟨h.1,h1⟩,h2⟩
theorem afN{l:Option Nat}{es x:List (List D)}{z:Nat}{dst:Option Nat}{K:St->Prop}(h:AJ l es s dst z x K):∃S' v,AJ l es s dst z x (fun t=>t=St.put ⟨s.tm,S'⟩ dst v)/\K (St.put ⟨s.tm,S'⟩ dst v):=by
 cases l with
 |none=>exact afM h
 |some n=>
  cases es with
  |nil=>exact⟨s.st,_,rfl,h⟩
  |cons y es=>exact qU (o:=.tok z x) (mk:=fun k=>.c (.bS k x)) h
theorem afO{b:Bool}{n:Nat}{x:List (List D)}{z:Nat}{dst:Option Nat}{K:St->Prop}(h:CB b n s dst z x K):∃S' v,CB b n s dst z x (fun t=>t=St.put ⟨s.tm,S'⟩ dst v)/\K (St.put ⟨s.tm,S'⟩ dst v):=by
 cases b with
 |false=>exact qU (o:=.jm n z x) (mk:=fun k=>.c (.bS k x)) h
 |true=>exact⟨s.st,_,rfl,h⟩
theorem abU{o:Oper}{K:St->Prop}(hD:qG o.op=true)(h:dA P o s K):∃S' v,dA P o s (fun t=>t=St.put ⟨s.tm,S'⟩ o.dst v)/\K (St.put ⟨s.tm,S'⟩ o.dst v):=by
 obtain⟨dst,op,ty,pos,after,guard⟩:=o
 cases op with
 |alloc t=>
  simp only[dA,tV] at h ⊢;split at h
  ·exact qU h
  ·exact h.elim
 |box t x=>
  simp only[dA,AB] at h ⊢;split at h
  ·exact qU h
  ·exact h.elim
 |makeSlice t l c=>
  simp only[dA,wL] at h ⊢;split at h
  ·split at h
   ·obtain⟨h1,h2,h3,h4,h5,h6⟩:=h;obtain⟨S',v,k1,k2⟩:=qU h6;exact⟨S',v,⟨h1,h2,h3,h4,h5,k1⟩,k2⟩
   ·exact h.elim
  ·exact h.elim
 |store t x y=>
  simp only[dA,tX] at h ⊢;split at h
  ·split at h
   ·obtain⟨h1,h2,h3,h4⟩:=h;exact⟨_,_,⟨h1,h2,h3,rfl⟩,h4⟩
   ·exact h.elim
  ·split at h
   ·obtain⟨h1,h2,h3,h4,h5⟩:=h;exact⟨_,_,⟨h1,h2,h3,h4,rfl⟩,h5⟩
   ·exact h.elim
  ·split at h
   ·split at h
    ·split at h
     ·obtain⟨h1,h2,h3,h4,h5,h6⟩:=h;exact⟨_,_,⟨h1,h2,h3,h4,h5,rfl⟩,h6⟩
     ·exact h.elim
    ·exact h.elim
   ·exact h.elim
  ·exact h.elim
 |makeMap t r=>
  cases r with
  |none=>
   simp only[dA,sP] at h ⊢;exact qU h
  |some r=>simp[qG] at hD
 |mapUpdate t x y z=>
  simp only[dA,sQ] at h ⊢;split at h
  ·split at h
   ·exact⟨_,_,rfl,h⟩
   ·exact h.elim
  ·exact h.elim
 |call c=>
  obtain⟨yV,args,wO⟩:=c
  cases yV with
  |builtin b=>
   cases b with
   |append=>
    simp only[dA,mM] at h ⊢;split at h
    ·simp only[qF] at h ⊢;split at h
     ·obtain⟨h1,h2,h3,h4⟩:=h;split at h4
      ·split at h4
       ·obtain⟨k1,k2,k3,k4⟩:=h4;exact⟨_,_,⟨h1,h2,h3,k1,k2,k3,rfl⟩,k4⟩
       ·obtain⟨k1,k2,k3,k4⟩:=h4;exact⟨_,_,⟨h1,h2,h3,k1,k2,k3,rfl⟩,k4⟩
       ·exact h4.elim
      ·obtain⟨k1,k2,k3⟩:=h4;obtain⟨S',v,l1,l2⟩:=afN k3;exact⟨S',v,⟨h1,h2,h3,k1,k2,l1⟩,l2⟩
      ·obtain⟨k1,k2,k3⟩:=h4;obtain⟨S',v,l1,l2⟩:=afO k3;exact⟨S',v,⟨h1,h2,h3,k1,k2,l1⟩,l2⟩
      ·exact h4.elim
     ·exact h.elim
    ·exact h.elim
   |_=>simp[qG] at hD
  |_=>simp[qG] at hD
 |_=>simp[qG] at hD
theorem Y3{tm tm':List (Nat×V)}{dst:Option Nat}{o:Obj}{mk:Key->V}{v:V}(h:newObj ⟨tm,S⟩ dst o mk (fun t=>t=St.put ⟨tm,S'⟩ dst v))(hd:dst≠none):
 newObj ⟨tm',S⟩ dst o mk (fun t=>t=St.put ⟨tm',S'⟩ dst v):=by
 unfold newObj at h ⊢
 cases S with
 |nil=>exact h
 |cons own Ω=>
  cases dst with
  |none=>exact absurd rfl hd
  |some d=>
   simp only[St.put,St.mk.injEq,List.cons.injEq,Prod.mk.injEq,and_true,true_and] at h ⊢;exact h
theorem V9{tm tm':List (Nat×V)}{o:Obj}{mk:Key->V}{v:V}(h:newObj ⟨tm,S⟩ none o mk (fun t=>t=St.put ⟨tm,S'⟩ none v)):
 newObj ⟨tm',S⟩ none o mk (fun t=>t=St.put ⟨tm',S'⟩ none v):=by
 unfold newObj at h ⊢
 cases S with
 |nil=>exact h
 |cons own Ω=>
  simp only[St.put,St.mk.injEq,true_and] at h ⊢;exact h
theorem pF{tm tm':List (Nat×V)}{dst:Option Nat}{o:Obj}{mk:Key->V}{v:V}(h:newObj ⟨tm,S⟩ dst o mk (fun t=>t=St.put ⟨tm,S'⟩ dst v)):
 newObj ⟨tm',S⟩ dst o mk (fun t=>t=St.put ⟨tm',S'⟩ dst v):=by
 cases dst with
 |none=>exact V9 h
 |some d=>exact Y3 h (by simp)
theorem uY{tm tm':List (Nat×V)}{dst:Option Nat}{S1 S2:Store}{v v':V}(h:St.put ⟨tm,S1⟩ dst v=St.put ⟨tm,S2⟩ dst v'):St.put ⟨tm',S1⟩ dst v=St.put ⟨tm',S2⟩ dst v':=by
 cases dst with
 |none=>simp only[St.put,St.mk.injEq,true_and] at h ⊢;exact h
 |some d=>simp only[St.put,St.mk.injEq,List.cons.injEq,Prod.mk.injEq,and_true,true_and] at h ⊢;exact h
theorem abV{b:Bool}{es x:List (List D)}{z:Nat}{tm tm':List (Nat×V)}{dst:Option Nat}{v:V}(h:zw b es ⟨tm,S⟩ dst z x (fun t=>t=St.put ⟨tm,S'⟩ dst v)):
 zw b es ⟨tm',S⟩ dst z x (fun t=>t=St.put ⟨tm',S'⟩ dst v):=by
 cases b with
 |false=>exact pF (o:=.tok z x) (mk:=fun k=>.c (.bS k x)) h
 |true=>exact⟨h.1,pF (o:=.eP z x) (mk:=fun k=>.c (.iJ k)) h.2⟩
theorem abW{l:Option Nat}{es x:List (List D)}{z:Nat}{tm tm':List (Nat×V)}{dst:Option Nat}{v:V}(h:AJ l es ⟨tm,S⟩ dst z x (fun t=>t=St.put ⟨tm,S'⟩ dst v)):
 AJ l es ⟨tm',S⟩ dst z x (fun t=>t=St.put ⟨tm',S'⟩ dst v):=by
 cases l with
 |none=>exact abV h
 |some n=>
  cases es with
  |nil=>exact uY h
  |cons y es=>exact pF (o:=.tok z x) (mk:=fun k=>.c (.bS k x)) h
theorem abX{b:Bool}{n:Nat}{x:List (List D)}{z:Nat}{tm tm':List (Nat×V)}{dst:Option Nat}{v:V}(h:CB b n ⟨tm,S⟩ dst z x (fun t=>t=St.put ⟨tm,S'⟩ dst v)):
 CB b n ⟨tm',S⟩ dst z x (fun t=>t=St.put ⟨tm',S'⟩ dst v):=by
 cases b with
 |false=>exact pF (o:=.jm n z x) (mk:=fun k=>.c (.bS k x)) h
 |true=>exact uY h
theorem abY{o:Oper}{tm tm':List (Nat×V)}{v:V}(hD:qG o.op=true)(he:∀x∈o.op.operands,ev tm x=ev tm' x)(h:dA P o ⟨tm,S⟩ (fun t=>t=St.put ⟨tm,S'⟩ o.dst v)):
 dA P o ⟨tm',S⟩ (fun t=>t=St.put ⟨tm',S'⟩ o.dst v):=by
 obtain⟨dst,op,ty,pos,after,guard⟩:=o
 cases op with
 |alloc t=>
  simp only[dA,tV] at h ⊢;split at h
  ·exact pF h
  ·exact h.elim
 |box t x=>
  have e1:=he x (by simp[Op.operands]);simp only[dA,AB,e1] at h ⊢;split at h
  ·exact pF h
  ·exact h.elim
 |makeSlice t l c=>
  have e1:=he l (by simp[Op.operands]);have e2:=he c (by simp[Op.operands]);simp only[dA,wL,e1,e2] at h ⊢;split at h
  ·split at h
   ·obtain⟨h1,h2,h3,h4,h5,h6⟩:=h;exact⟨h1,h2,h3,h4,h5,pF h6⟩
   ·exact h.elim
  ·exact h.elim
 |store t x y=>
  have e1:=he x (by simp[Op.operands]);have e2:=he y (by simp[Op.operands]);simp only[dA,tX,e1,e2] at h ⊢;split at h
  ·split at h
   ·obtain⟨h1,h2,h3,h4⟩:=h;exact⟨h1,h2,h3,uY h4⟩
   ·exact h.elim
  ·split at h
   ·obtain⟨h1,h2,h3,h4,h5⟩:=h;exact⟨h1,h2,h3,h4,uY h5⟩
   ·exact h.elim
  ·split at h
   ·split at h
    ·split at h
     ·obtain⟨h1,h2,h3,h4,h5,h6⟩:=h;exact⟨h1,h2,h3,h4,h5,uY h6⟩
     ·exact h.elim
    ·exact h.elim
   ·exact h.elim
  ·exact h.elim
 |makeMap t r=>
  cases r with
  |none=>
   simp only[dA,sP] at h ⊢;exact pF h
  |some r=>simp[qG] at hD
 |mapUpdate t x y z=>
  have e1:=he x (by simp[Op.operands]);have e2:=he y (by simp[Op.operands]);have e3:=he z (by simp[Op.operands]);simp only[dA,sQ,e1,e2,e3] at h ⊢;split at h
  ·split at h
   ·exact uY h
   ·exact h.elim
  ·exact h.elim
 |call c=>
  obtain⟨yV,args,wO⟩:=c
  cases yV with
  |builtin b=>
   cases b with
   |append=>
    simp only[dA,mM] at h ⊢;split at h
    ·rename_i x y t u hxy htu
     have hargs:args= #[x,y]:=by rw[<-Array.toArray_toList (xs:=args),hxy]
     have e1:=he x (by simp[Op.operands,Call.operands,hargs]);have e2:=he y (by simp[Op.operands,Call.operands,hargs]);simp only[qF,e1,e2] at h ⊢;split at h
     ·obtain⟨h1,h2,h3,h4⟩:=h;refine⟨h1,h2,h3,?_⟩;split at h4
      ·split at h4
       ·obtain⟨k1,k2,k3,k4⟩:=h4;exact⟨k1,k2,k3,uY k4⟩
       ·obtain⟨k1,k2,k3,k4⟩:=h4;exact⟨k1,k2,k3,uY k4⟩
       ·exact h4.elim
      ·obtain⟨k1,k2,k3⟩:=h4;exact⟨k1,k2,abW k3⟩
      ·obtain⟨k1,k2,k3⟩:=h4;exact⟨k1,k2,abX k3⟩
      ·exact h4.elim
     ·exact h.elim
    ·exact h.elim
   |_=>simp[qG] at hD
  |_=>simp[qG] at hD
 |_=>simp[qG] at hD
theorem abZ{f:FuncId}{args:List V}{tm tm':List (Nat×V)}{dst:Option Nat}{v:V}(h:yG P f args ⟨tm,S⟩ dst (fun t=>t=St.put ⟨tm,S'⟩ dst v)):yG P f args ⟨tm',S⟩ dst (fun t=>t=St.put ⟨tm',S'⟩ dst v):=by
 rcases h with⟨post,h1,h2⟩|⟨r,h1,h2⟩
 ·exact .inl ⟨post,h1,fun r PV hp=>uY (h2 r PV hp)⟩
 ·exact .inr ⟨r,h1,uY h2⟩
theorem ab0{E:Md}{o:Oper}{tm tm':List (Nat×V)}{v:V}(hD:fJ E o.op=true)(he:∀x∈o.op.operands,ev tm x=ev tm' x)(h:dA P o ⟨tm,S⟩ (fun t=>t=St.put ⟨tm,S'⟩ o.dst v)):
 dA P o ⟨tm',S⟩ (fun t=>t=St.put ⟨tm',S'⟩ o.dst v):=by
 by_cases hd:qG o.op=true
 ·exact abY hd he h
 ·have hc:jv o.op=true:=by
   unfold fJ at hD;rw[Bool.or_eq_true,Bool.and_eq_true] at hD;rcases hD with h|h
   ·exact absurd h hd
   ·exact h.2
  obtain⟨dst,op,ty,pos,after,guard⟩:=o
  cases op with
  |call c=>
   obtain⟨yV,args,wO⟩:=c
   cases yV with
   |value x=>
    have h1:args.toList.map (ev tm)=args.toList.map (ev tm'):=List.map_congr_left fun y hy=>he y (by simp[Op.operands,Call.operands];exact .inr (by simpa using hy));have h2:ev tm x=ev tm' x:=he x (by simp[Op.operands,Call.operands]);simp only[dA,mM,h1,h2] at h ⊢;split at h
    ·exact abZ h
    ·exact h.elim
   |_=>simp[jv] at hc
  |_=>simp[jv] at hc
theorem afP{tm tm':List (Nat×V)}{op:Op}(he:∀x∈op.operands,ev tm x=ev tm' x):nval P S tm op=nval P S tm' op:=by
 unfold nval mK
 split<;>try rfl
 ·rw[he _ (by simp[Op.operands])]
 ·rw[he _ (by simp[Op.operands])]
 ·rename_i c x y;rw[he c (by simp[Op.operands]),he x (by simp[Op.operands]),he y (by simp[Op.operands])]
 ·rw[he _ (by simp[Op.operands])]
 ·rw[he _ (by simp[Op.operands])]
 ·rw[he _ (by simp[Op.operands])]
 ·rename_i t x i;rw[he x (by simp[Op.operands]),he i (by simp[Op.operands])]
 ·rename_i t x i;rw[he x (by simp[Op.operands]),he i (by simp[Op.operands])]
 ·rename_i op t x y _;rw[he x (by simp[Op.operands]),he y (by simp[Op.operands])]
 ·rw[he _ (by simp[Op.operands])]
 ·rw[he _ (by simp[Op.operands])]
 ·rw[he _ (by simp[Op.operands])]
 ·rename_i fn first caps
  have h1:first.toList.map (ev tm)=first.toList.map (ev tm'):=List.map_congr_left fun x hx=>he x (by simp[Op.operands];exact .inl (by simpa using hx))
  have h2:caps.toList.map (ev tm)=caps.toList.map (ev tm'):=List.map_congr_left fun x hx=>he x (by simp[Op.operands];exact .inr (by simpa using hx));rw[h1,h2]
 ·rw[he _ (by simp[Op.operands])]
 ·rename_i t x lo hi mx;rw[he x (by simp[Op.operands])]
  have h1:lo.map (ev tm)=lo.map (ev tm'):=by
   cases lo with
   |none=>rfl
   |some y=>simp[he y (by simp[Op.operands])]
  have h2:hi.map (ev tm)=hi.map (ev tm'):=by
   cases hi with
   |none=>rfl
   |some y=>simp[he y (by simp[Op.operands])]
  have h3:mx.map (ev tm)=mx.map (ev tm'):=by
   cases mx with
   |none=>rfl
   |some y=>simp[he y (by simp[Op.operands])]
  rw[h1,h2,h3]
 ·rename_i t parts
  have h1:(parts.toList.map fun x=>(x.1,ev tm x.2))=parts.toList.map fun x=>(x.1,ev tm' x.2):=List.map_congr_left fun x hx=>by
   rw[he x.2 (by simp only[Op.operands,List.mem_toArray,List.mem_map];exact⟨x,hx,rfl⟩)]
  rw[h1]
 ·rename_i t n parts
  have h1:(parts.toList.map fun x=>(x.1,ev tm x.2))=parts.toList.map fun x=>(x.1,ev tm' x.2):=List.map_congr_left fun x hx=>by
   rw[he x.2 (by simp only[Op.operands,List.mem_toArray,List.mem_map];exact⟨x,hx,rfl⟩)]
  rw[h1]
 ·rename_i t x i;rw[he x (by simp[Op.operands]),he i (by simp[Op.operands])]
 ·rename_i args wO;split
  ·rename_i x t hx ht
   have hargs:args= #[x]:=by rw[<-Array.toArray_toList (xs:=args),hx]
   rw[he x (by simp[Op.operands,Call.operands,hargs])]
  ·rfl
 ·rename_i args wO;split
  ·rename_i x y hx
   have hargs:args= #[x,y]:=by rw[<-Array.toArray_toList (xs:=args),hx]
   rw[he x (by simp[Op.operands,Call.operands,hargs]),he y (by simp[Op.operands,Call.operands,hargs])]
  ·rfl
 ·rename_i args wO;split
  ·rename_i x y hx
   have hargs:args= #[x,y]:=by rw[<-Array.toArray_toList (xs:=args),hx]
   rw[he x (by simp[Op.operands,Call.operands,hargs]),he y (by simp[Op.operands,Call.operands,hargs])]
  ·rfl
theorem ab1{tm tm':List (Nat×V)}{c:Call}{v:V}(he:∀x∈c.operands,ev tm x=ev tm' x)(h:Ea P tm c v):Ea P tm' c v:=by
 unfold Ea at h ⊢;obtain⟨yV,args,wO⟩:=c
 cases yV with
 |value x=>
  simp only at h ⊢;rw[<-he x (by simp[Call.operands])];have h1:args.toList.map (ev tm)=args.toList.map (ev tm'):=List.map_congr_left fun y hy=>he y (by simp[Call.operands];exact .inr (by simpa using hy));rw[<-h1];exact h
 |_=>exact h
def QA:Obj->Prop
 | .box _=>True
 | .eP _ _=>True
 | .mp _=>True
 | .xf _=>True
 |_=>False
def Hu(v:V)(k:Key):Prop:=(∃off,v=.c (.ptr k off))\/(∃i off,v=.c (.kR k i off))\/v=.c (.iJ k)\/v=.c (.mp k)\/(∃r p,v=.c (.xp k r p))\/∃r p z i off,v=.c (.xq k r p z i off)
def Fix(S S':Store):Prop:=∀k o,bA S k=some o->QA o->bA S' k=some o
theorem Fix.refl(S:Store):Fix S S:=fun _ _ h _=>h
theorem gZ{q:Prop}(h:no.1):q:=h.elim
theorem ab2{l:Option Nat}{tm:List (Nat×V)}{op:Op}(h:(mK P l S tm op).1)
 (hf:∀x∈op.operands,∀k,Hu (ev tm x) k->
   ∀o,bA S k=some o->QA o->bA S' k=some o):mK P l S' tm op=mK P l S tm op:=by
 unfold mK at h ⊢
 split at h<;>try rfl
 ·rename_i t x;have hf:=hf x (by simp[Op.operands]);unfold zS at h ⊢;split at h
  ·rfl
  ·split at h
   ·rename_i hx;simp only[hx]
   ·rename_i k off hx;split at h
    ·rename_i cs hk;rw[hf k (.inl ⟨off,hx⟩) _ hk trivial]
    ·exact gZ h
   ·rename_i k i off hx;split at h
    ·rename_i bB es hk;rw[hf k (.inr (.inl ⟨i,off,hx⟩)) _ hk trivial]
    ·exact gZ h
   ·rename_i k r p z i off hx;split at h
    ·rename_i rs hk;rw[hf k (.inr (.inr (.inr (.inr (.inr ⟨r,p,z,i,off,hx⟩))))) _ hk trivial]
    ·exact gZ h
   ·exact gZ h
 ·rename_i t x f;have hf:=hf x (by simp[Op.operands]);unfold rE at h ⊢;split at h
  ·split at h
   ·split at h
    ·exact gZ h
    ·rename_i fs hs _ fd hfd hne;split at h
     ·rename_i hx;simp[hs,hfd,hne,hx]
     ·rename_i k off hx;split at h
      ·rename_i cs hk;simp only[hs,hfd,hne,if_false,hx,hf k (.inl ⟨off,hx⟩) _ hk trivial,hk]
      ·exact gZ h
     ·rename_i k i off hx;split at h
      ·rename_i bB es hk;simp only[hs,hfd,hne,if_false,hx,hf k (.inr (.inl ⟨i,off,hx⟩)) _ hk trivial,hk]
      ·exact gZ h
     ·rename_i k r p z i off hx;split at h
      ·rename_i rs hk;simp only[hs,hfd,hne,if_false,hx,hf k (.inr (.inr (.inr (.inr (.inr ⟨r,p,z,i,off,hx⟩))))) _ hk trivial,hk]
      ·exact gZ h
     ·exact gZ h
   ·exact gZ h
  ·exact gZ h
 ·rename_i t x i;have hf:=hf x (by simp[Op.operands]);unfold rF at h ⊢;split at h
  ·rename_i e k n' n ht hx hi;split at h
   ·rename_i bB es hk;simp only[ht,hx,hi,hf k (.inr (.inr (.inl hx))) _ hk trivial,hk]
   ·exact gZ h
  ·rename_i len e k off n' n ht hx hi;split at h
   ·rename_i cs hk;simp only[ht,hx,hi,hf k (.inl ⟨off,hx⟩) _ hk trivial,hk]
   ·exact gZ h
  ·rename_i e k r p n' n ht hx hi;split at h
   ·rename_i rs hk;simp only[ht,hx,hi,hf k (.inr (.inr (.inr (.inr (.inl ⟨r,p,hx⟩))))) _ hk trivial,hk]
   ·exact gZ h
  ·rename_i e y n' n hy hy2 ht hx hi;simp only[ht,hx,hi]
  ·exact gZ h
 ·rename_i x;have hf:=hf x (by simp[Op.operands]);unfold vR at h ⊢;split at h
  ·rename_i k off hx;split at h
   ·rename_i cs hk;simp only[hx,hf k (.inl ⟨off,hx⟩) _ hk trivial,hk]
   ·exact gZ h
  ·rename_i hx;simp only[hx]
  ·exact gZ h
 ·rename_i t x i;have hf:=hf x (by simp[Op.operands]);unfold xQ at h ⊢;split at h
  ·rename_i kt et k l ht yT hi;split at h
   ·rename_i m hk hkt hz;simp only[ht,yT,hi,hf k (.inr (.inr (.inr (.inl yT)))) _ hk trivial,hk,hkt,hz]
   ·exact gZ h
  ·exact gZ h
 ·rename_i args wO;split at h
  ·rename_i x t hx ht
   have hargs:args= #[x]:=by rw[<-Array.toArray_toList (xs:=args),hx]
   have hf:=hf x (by simp[Op.operands,Call.operands,hargs]);unfold DY at h ⊢;split at h
   ·rename_i l Ku yT;simp only[Ku,yT]
   ·rename_i n e Ku;simp only[Ku]
   ·rename_i e k Ku yT;split at h
    ·rename_i bB es hk;simp only[Ku,yT,hf k (.inr (.inr (.inl yT))) _ hk trivial,hk]
    ·exact gZ h
   ·rename_i e k r p Ku yT;split at h
    ·rename_i rs hk;simp only[Ku,yT,hf k (.inr (.inr (.inr (.inr (.inl ⟨r,p,yT⟩))))) _ hk trivial,hk]
    ·exact gZ h
   ·rename_i e y hy hy2 Ku yT;simp only[Ku,yT]
   ·exact gZ h
  ·exact gZ h
end
def vI(acc:List Nat):List Edge->Nat
 |[]=>0
 |e::es=>(if Region.binds .any e then 2^e.on ||| acc.getD e.on 0 else 0) ||| vI acc es
def masks:List Oper->List Nat->List Nat
 |[],acc=>acc
 |o::os,acc=>masks os (acc++[vI acc o.after.toList])
def clash(E:Md)(R:Array Oper)(x y:Oper):Bool:= !(x.apart R y)||(fJ E x.op&&fJ E y.op)||j6 E x.op||j6 E y.op
def yX(E:Md)(R:Array Oper)(N:Nat):Bool:=
 (List.range R.size).all fun j=>
   (match R[j]? with
    |some o=>o.after.toList.all (fun e=> !Region.binds .any e||decide (e.on<j))&&(match o.dst with|some d=>decide (d<N)|none=>true)
    |none=>true)&&
   (List.range j).all fun i=>
     match R[i]?,R[j]? with
     |some x,some y=>((masks R.toList []).getD j 0).testBit i|| !(clash E R x y)
     |_,_=>true
def rJ(R:Array Oper)(i j:Nat):Bool:=if i<j then((masks R.toList []).getD j 0).testBit i else((masks R.toList []).getD i 0).testBit j
def lY(E:Md)(R:Array Oper)(x y:Oper):Bool:= !(x.apart R y)||(fJ E x.op&&fJ E y.op)
def settled(R:Array Oper)(i:Nat):Operand->Bool
 | .tmp t=>(List.range R.size).all fun n=>decide (n<i)|| !(gu R n==some t)
 |_=>true
def sj(R:Array Oper)(i:Nat)(x:Oper)(j:Nat)(y:Oper):Bool:=jv y.op||match x.op with
 | .store _ a _=>settled R i a&&y.op.operands.toList.all (settled R j)
 |_=>false
def Dk(E:Md)(R:Array Oper)(N:Nat):Bool:=
 (List.range R.size).all fun j=>
   (match R[j]? with
    |some o=>o.after.toList.all (fun e=> !Region.binds .any e||decide (e.on<j))&&(match o.dst with|some d=>decide (d<N)|none=>true)
    |none=>true)&&
   (List.range j).all fun i=>
     match R[i]?,R[j]? with
     |some x,some y=>((masks R.toList []).getD j 0).testBit i|| !(lY E R x y||(j6 E x.op&& !(sj R i x j y))||(j6 E y.op&& !(sj R j y i x)))
     |_,_=>true
def Wd(v w:V):Bool:=
 match w with
 | .c (.ptr k _)=>(match v with| .c (.ptr k' _)=>k'.2 !=k.2| .c (.kR k' _ _)=>k'.2 !=k.2|_=>false)
 | .c (.kR k _ _)=>(match v with| .c (.ptr k' _)=>k'.2 !=k.2| .c (.kR k' _ _)=>k'.2 !=k.2|_=>false)
 | .c (.iJ k)=>(match v with| .c (.ptr k' _)=>k'.2 !=k.2| .c (.kR k' _ _)=>k'.2 !=k.2|_=>false)
 | .c (.mp k)=>(match v with| .c (.ptr k' _)=>k'.2 !=k.2| .c (.kR k' _ _)=>k'.2 !=k.2|_=>false)
 | .c (.xp _ _ _)=>false
 | .c (.xq _ _ _ _ _ _)=>false
 |_=>true
def Hw(E:Md)(R:Array Oper)(tm:List (Nat×V)):Bool:=
 (List.range R.size).all fun i=>match R[i]? with
   |some x=> !(j6 E x.op)||match x.op with
    | .store _ a _=>(List.range R.size).all fun j=>match R[j]? with
      |some y=>rJ R i j||fJ E y.op||jv y.op||y.op.operands.toList.all (fun z=>Wd (ev tm a) (ev tm z))
      |none=>true
    |_=>true
   |none=>true
def MG(R:Array Oper)(i:Nat):Bool:=
 (List.range R.size).all fun j=>decide (j=i)||(if j<i then((masks R.toList []).getD i 0).testBit j else((masks R.toList []).getD j 0).testBit i)
def yY:Op->Option FuncId
 | .call {callee:=.value (.func f),args:=_,argTypes:=_}=>some f
 |_=>none
def yH(R:Array Oper)(m:Nat):Md:=fun op=>if(List.range R.size).all (fun i=>match R[i]? with
 |some o=>(yY op !=yY o.op)||MG R i
 |none=>true) then 2 else m
def xV:Op->Bool
 | .alloc _=>true
 |_=>false
def FT(E:Md)(R:Array Oper)(p:Nat):Bool:=match R[p]? with
 |some o=>xV o.op&&o.guard.isNone&&o.dst.isSome&&(List.range R.size).all fun j=>match R[j]? with
  |some y=>decide (j=p)||y.apart R o||(List.range p).all fun i=>match R[i]? with
   |some x=> !(fJ E x.op)||(decide (i<j)&&((masks R.toList []).getD j 0).testBit i)
   |none=>true
  |none=>true
 |none=>true
def Y4(E:Md)(R:Array Oper)(p j:Nat)(x y:Oper):Bool:= !(x.apart R y)||(!(decide (j=p))&&((fJ E x.op&&fJ E y.op)||j6 E x.op||j6 E y.op))
def Dl(E:Md)(R:Array Oper)(N p:Nat):Bool:=
 FT E R p&&(List.range R.size).all fun j=>
  (match R[j]? with
   |some o=>o.after.toList.all (fun e=> !Region.binds .any e||decide (e.on<j))&&(match o.dst with|some d=>decide (d<N)|none=>true)
   |none=>true)&&
  (List.range j).all fun i=>
    match R[i]?,R[j]? with
    |some x,some y=>((masks R.toList []).getD j 0).testBit i|| !(Y4 E R p j x y)
    |_,_=>true
def Eb(E:Md)(R:Array Oper)(N p:Nat):Bool:=
 FT E R p&&(List.range R.size).all fun j=>
  (match R[j]? with
   |some o=>o.after.toList.all (fun e=> !Region.binds .any e||decide (e.on<j))&&(match o.dst with|some d=>decide (d<N)|none=>true)
   |none=>true)&&
  (List.range j).all fun i=>
    match R[i]?,R[j]? with
    |some x,some y=>((masks R.toList []).getD j 0).testBit i|| !(!(x.apart R y)||(!(decide (j=p))&&((fJ E x.op&&fJ E y.op)||(j6 E x.op&& !(sj R i x j y))||(j6 E y.op&& !(sj R j y i x)))))
    |_,_=>true
def ab3(R:Array Oper)(p i:Nat):Bool:=
 (List.range R.size).all fun j=>decide (j=i)||decide (j=p)||(if j<i then((masks R.toList []).getD i 0).testBit j else((masks R.toList []).getD j 0).testBit i)
def Kv(R:Array Oper)(p:Nat):Md:=fun op=>if(List.range R.size).all (fun i=>match R[i]? with
 |some o=>(yY op !=yY o.op)||ab3 R p i
 |none=>true) then 2 else 0
def Jp(R:Array Oper)(p:Nat):Bool:=match R[p]? with
 |some o=>xV o.op
 |none=>false
def pOf(R:Array Oper)(N:Nat):Option Nat:=(List.range R.size).find? fun p=>Jp R p&&Dl (Kv R p) R N p
def ahH(R:Array Oper)(N:Nat):Option Nat:=(List.range R.size).find? fun p=>Jp R p&&Eb (Kv R p) R N p
def Kw(R:Array Oper)(N:Nat):Md:=if yX (yH R 1) R N then yH R 1 else match pOf R N with
 |some p=>Kv R p
 |none=>if yX (yH R 0) R N then yH R 0 else fun _=>0
def MH(R:Array Oper)(N:Nat):Bool:=yX (Kw R N) R N||match pOf R N with
 |some p=>Dl (Kw R N) R N p
 |none=>false
def su(R:Array Oper)(N:Nat):Md:=if Dk (yH R 1) R N then yH R 1 else match ahH R N with
 |some p=>Kv R p
 |none=>if Dk (yH R 0) R N then yH R 0 else fun _=>0
def Jq(R:Array Oper)(N:Nat):Bool:=Dk (su R N) R N||match ahH R N with
 |some p=>Eb (su R N) R N p
 |none=>false
section
variable {P:Program} {E:Md} {w w':World} {σ σ':Nat->Nat} {S S':Store} {β β':Hs} {N:Nat} {s:St} {a:Act} {R:Array Oper}
theorem FU:∀(l:List Oper)(acc:List Nat)(i:Nat),i<acc.length->(masks l acc)[i]? =acc[i]?
 |[],acc,i,h=>rfl
 |o::os,acc,i,h=>by rw[masks,FU os _ i (by simp;omega),List.getElem?_append_left h]
theorem QB:∀(l:List Oper)(acc:List Nat)(i:Nat)(o:Oper),l[i]? =some o->
 ∃acc',(∀j,j<acc.length+i->acc'[j]? =(masks l acc)[j]?)/\acc'.length=acc.length+i/\(masks l acc)[acc.length+i]? =some (vI acc' o.after.toList)
 |[],acc,i,o,h=>by simp at h
 |x::os,acc,0,o,h=>by
  simp at h;subst h;refine⟨acc,fun j hj=> ?_,by simp,?_⟩
  ·rw[masks,FU os _ j (by simp;omega),List.getElem?_append_left (by omega)]
  ·rw[masks,Nat.add_zero,FU os _ _ (by simp),List.getElem?_append_right (Nat.le_refl _)];simp
 |x::os,acc,i+1,o,h=>by
  obtain⟨acc',h1,h2,h3⟩:=QB os (acc++[vI acc x.after.toList]) i o (by simpa using h);refine⟨acc',fun j hj=> ?_,by rw[h2];simp;omega,?_⟩
  ·rw[masks];exact h1 j (by simp;omega)
  ·rw[masks,<-h3];congr 1;simp;omega
theorem FV{acc:List Nat}{k:Nat}:∀(es:List Edge),(vI acc es).testBit k=true->∃e∈es,Region.binds .any e=true/\(e.on=k\/(acc.getD e.on 0).testBit k=true)
 |[],h=>by simp[vI] at h
 |e::es,h=>by
  rw[vI,Nat.testBit_or,Bool.or_eq_true] at h;rcases h with h|h
  ·by_cases hb:Region.binds .any e=true
   ·rw[if_pos hb,Nat.testBit_or,Bool.or_eq_true] at h;refine⟨e,by simp,hb,?_⟩;rcases h with h|h
    ·left;rw[Nat.testBit_two_pow] at h;simpa using h
    ·exact .inr h
   ·rw[if_neg hb] at h;simp at h
  ·obtain⟨e',he',h'⟩:=FV es h;exact⟨e',by simp[he'],h'⟩
theorem NK(E:Nat->Prop)(hE:∀i o e,R[i]? =some o->E i->e∈o.after->Region.binds .any e=true->E e.on)(hlt:∀i o e,R[i]? =some o->e∈o.after->Region.binds .any e=true->e.on<i):
 ∀(i:Nat)(o:Oper),R[i]? =some o->(∀e∈o.after,Region.binds .any e=true->E e.on)->∀k,((masks R.toList []).getD i 0).testBit k=true->E k:=by
 intro i
 induction i using Nat.strongRecOn with
 |_ i ih=>
  intro o ho hed k hk;obtain⟨acc',h1,h2,h3⟩:=QB R.toList [] i o (by simpa using ho);simp only[List.length_nil,Nat.zero_add] at h1 h2 h3;rw[List.getD_eq_getElem?_getD,h3] at hk;obtain⟨e,he,hb,hek⟩:=FV _ hk
  have he':e∈o.after:=by simpa using he
  rcases hek with rfl|hek
  ·exact hed e he' hb
  ·have hon:=hlt i o e ho he' hb;have alu:=hed e he' hb;have hilt:i<R.size:=(Array.getElem?_eq_some_iff.1 ho).1;have hsome:R[e.on]? =some R[e.on]:=Array.getElem?_eq_getElem (by omega);refine ih e.on hon _ hsome (fun e2 he2 hb2=>hE e.on _ e2 hsome alu he2 hb2) k ?_;rw[List.getD_eq_getElem?_getD,h1 e.on (by omega)] at hek;rw[List.getD_eq_getElem?_getD];exact hek
def kN(R:Array Oper)(vs:Nat->V)(E:Nat->Bool)(base:List (Nat×V)):Nat->Nat->V
 |0,t=>look base t
 |k+1,t=>if E k=true/\gu R k=some t then vs k else kN R vs E base k t
theorem CJ{vs:Nat->V}{E:Nat->Bool}{base:List (Nat×V)}{t i:Nat}:∀(n:Nat),(∀j,j<n->gu R j=some t->(E j=true<->j<i))->
 kN R vs E base n t=kN R vs (fun _=>true) base (min n i) t
 |0,_=>by simp[kN]
 |n+1,h=>by
  have ih:=CJ (vs:=vs) (base:=base) n (fun j hj hd=>h j (by omega) hd);rw[kN];by_cases hd:gu R n=some t
  ·by_cases hE:E n=true
   ·have hni:=(h n (by omega) hd).1 hE;rw[if_pos ⟨hE,hd⟩,show min (n+1) i=n+1 from by omega,kN,if_pos ⟨rfl,hd⟩]
   ·have hni:¬n<i:=fun hn=>hE ((h n (by omega) hd).2 hn);rw[if_neg (fun x=>hE x.1),ih,show min (n+1) i=min n i from by omega]
  ·rw[if_neg (fun x=>hd x.2),ih];by_cases hni:n<i
   ·rw[show min (n+1) i=n+1 from by omega,show min n i=n from by omega,kN,if_neg (fun x=>hd x.2)]
   ·rw[show min (n+1) i=min n i from by omega]
theorem yI{vs:Nat->V}{E E':Nat->Bool}{base:List (Nat×V)}{t:Nat}:∀(n:Nat),(∀j,j<n->gu R j=some t->E j=E' j)->kN R vs E base n t=kN R vs E' base n t
 |0,_=>rfl
 |n+1,h=>by
  rw[kN,kN,yI n (fun j hj hd=>h j (by omega) hd)];by_cases hd:gu R n=some t
  ·rw[h n (by omega) hd]
  ·rw[if_neg (fun x=>hd x.2),if_neg (fun x=>hd x.2)]
theorem Ec{vs:Nat->V}{E:Nat->Bool}{base:List (Nat×V)}{t i:Nat}(hi:E i=true)(hd:gu R i=some t):∀(n:Nat),i<n->(∀j,j<n->i<j->gu R j=some t->E j=false)->kN R vs E base n t=vs i
 |0,h,_=>by omega
 |n+1,h,hj=>by
  rw[kN];by_cases hin:i=n
  ·subst hin;rw[if_pos ⟨hi,hd⟩]
  ·have:¬(E n=true/\gu R n=some t):=fun x=>by
    have:=hj n (by omega) (by omega) x.2;rw[this] at x;simp at x
   rw[if_neg this];exact Ec hi hd n (by omega) (fun j hjn hij hdj=>hj j (by omega) hij hdj)
theorem IE{o:Oper}{s:St}{K:St->Prop}(h:nY P E R o s K):∃v s',lH P E R o s v s'/\K s':=by
 have hN:∀(hg:gd R o s.tm=some true),fO P E o s K->∃v s',lH P E R o s v s'/\K s':=by
  intro hg hx;unfold fO at hx;by_cases hD:qG o.op=true
  ·rw[if_pos hD] at hx;obtain⟨S',v,h1,h2⟩:=abU hD hx;exact⟨v,_,.inr (.inr ⟨hg,abT hD,h1,by rw[kV],fun h=>by rw[hD] at h;cases h⟩),h2⟩
  ·rw[if_neg hD] at hx
   have hD':qG o.op=false:=by simpa using hD
   split at hx
   ·rename_i x args wO hop
    have hcv:jv o.op=true:=by rw[hop];rfl
    rw[<-hop] at hx;split at hx
    ·rename_i hE;obtain⟨r,h1,h2⟩:=hx;exact⟨r,_,.inr (.inl ⟨hg,by unfold fJ;rw[hD',hE];rfl,.inl ⟨_,hop,h1⟩,rfl⟩),h2⟩
    ·rename_i hE;obtain⟨S',v,h0,h1,h2⟩:=hx;exact⟨v,_,.inr (.inr ⟨hg,by unfold fJ;rw[hE,hcv];simp,h1,by rw[kV],fun _ _=>by rw[kV];exact h0⟩),h2⟩
    ·rename_i hE0 hE1;obtain⟨S',v,h1,h2⟩:=hx
     have h3:2<=E o.op:=by
      rcases Nat.lt_or_ge (E o.op) 2 with h|h
      ·exfalso
       have:E o.op=0\/E o.op=1:=by omega
       exact this.elim hE0 hE1
      ·exact h
     exact⟨v,_,.inr (.inr ⟨hg,by unfold fJ;rw[hcv,Bool.and_true,Bool.or_eq_true,decide_eq_true_eq];exact .inr (by omega),h1,by rw[kV],fun _ h=>by
      unfold j6 at h;rw[hcv,Bool.and_true,Bool.or_eq_false_iff,decide_eq_false_iff_not] at h
      exact absurd h3 h.2⟩),h2⟩
   ·rename_i hne;refine⟨_,_,.inr (.inl ⟨hg,?_,.inr ⟨hx.1,rfl⟩,rfl⟩),hx.2⟩
    have:jv o.op=false:=by
     cases hc:jv o.op with
     |false=>rfl
     |true=>
      exfalso;unfold jv at hc;split at hc
      ·rename_i x a b ho;exact hne _ _ _ ho
      ·cases hc
    unfold fJ;rw[hD',this];simp
 unfold nY at h;split at h
 ·rename_i hg;exact hN (by simp only[gd,hg]) h
 ·rename_i j want hg;split at h
  ·rename_i x hx;by_cases e:x=want
   ·exact hN (by simp only[gd,hg,hx,e,beq_self_eq_true]) (h.1 e)
   ·exact⟨.eu [],_,.inl ⟨by simp only[gd,hg,hx];simp[e],rfl,rfl⟩,h.2 (by cases x<;>cases want<;>simp_all)⟩
  ·rename_i hx;exact⟨.eu [],_,.inl ⟨by simp only[gd,hg,hx],rfl,rfl⟩,h⟩
  ·exact h.elim
theorem FW{F:Oper->St->St->Prop}{D:List Oper->St->Prop}{K:St->Prop}(hnil:∀s,D [] s->K s)(afd:∀o os s,D (o::os) s->∃v s',lH P E R o s v s'/\F o s s'/\D os s'):∀(n k:Nat),k+n=R.size->∀s,D (R.toList.drop k) s->
 ∃(st:Nat->St) (vs:Nat->V),st k=s/\K (st R.size)/\∀i,k<=i->i<R.size->∃o,R[i]? =some o/\lH P E R o (st i) (vs i) (st (i+1))/\F o (st i) (st (i+1))
 |0,k,hk,s,h=>by
  have:R.toList.drop k=[]:=by apply List.drop_eq_nil_of_le;simp;omega
  rw[this] at h;exact⟨fun _=>s,fun _=>.any,rfl,hnil s h,fun i h1 h2=>by omega⟩
 |n+1,k,hk,s,h=>by
  have hlt:k<R.toList.length:=by simp;omega
  rw[List.drop_eq_getElem_cons hlt] at h
  have hRk:R[k]? =some R.toList[k]:=by
   rw[Array.getElem?_eq_getElem (by omega)];simp
  obtain⟨v,s',ht,hf,hd⟩:=afd _ _ s h;obtain⟨st,vs,h1,h2,h3⟩:=FW hnil afd n (k+1) (by omega) s' hd;refine⟨fun i=>if i=k then s else st i,fun i=>if i=k then v else vs i,by simp,?_,fun i hi1 hi2=> ?_⟩
  ·have:R.size≠k:=by omega
   simp only[if_neg this];exact h2
  ·by_cases e:i=k
   ·subst e;refine⟨_,hRk,?_⟩;simp only[if_true]
    have:i+1≠i:=by omega
    simp only[if_neg this,h1];exact⟨ht,hf⟩
   ·obtain⟨o,ho,ht'⟩:=h3 i (by omega) hi2;refine⟨o,ho,?_⟩
    have:i+1≠k:=by omega
    simp only[if_neg e,if_neg this];exact ht'
theorem Ed{K:St->Prop}(n k:Nat)(hk:k+n=R.size)(s:St)(h:rH P E R (R.toList.drop k) s K):
 ∃(st:Nat->St) (vs:Nat->V),st k=s/\K (st R.size)/\∀i,k<=i->i<R.size->∃o,R[i]? =some o/\lH P E R o (st i) (vs i) (st (i+1)):=by
 obtain⟨st,vs,h1,h2,h3⟩:=FW (F:=fun _ _ _=>True) (D:=fun os s=>rH P E R os s K) (fun _ h=>h) (fun o os s h=>by
  obtain⟨v,s',a,b⟩:=IE h
  exact⟨v,s',a,trivial,b⟩) n k hk s h
 exact⟨st,vs,h1,h2,fun i a b=>by
  obtain⟨o,c,d,_⟩:=h3 i a b
  exact⟨o,c,d⟩⟩
theorem ab4{o:Oper}{s s':St}{v:V}(h:lH P E R o s v s'):s'=St.put ⟨s.tm,s'.st⟩ o.dst v:=by
 rcases h with⟨_,_,h⟩|⟨_,_,_,h⟩|⟨_,_,_,h,_⟩
 ·rw[h];cases o.dst<;>rfl
 ·rw[h];cases o.dst<;>rfl
 ·exact h
theorem ab5{o:Oper}{s s':St}{v:V}(h:lH P E R o s v s')(hD:fJ E o.op=false):s'.st=s.st:=by
 rcases h with⟨_,_,h⟩|⟨_,_,_,h⟩|⟨_,h,_,_⟩
 ·rw[h];cases o.dst<;>rfl
 ·rw[h];cases o.dst<;>rfl
 ·rw[hD] at h;cases h
theorem yZ{st:Nat->St}{vs:Nat->V}(h:∀i,i<R.size->∃o,R[i]? =some o/\lH P E R o (st i) (vs i) (st (i+1)))(t:Nat):∀i,i<=R.size->look (st i).tm t=kN R vs (fun _=>true) (st 0).tm i t
 |0,_=>rfl
 |i+1,hi=>by
  obtain⟨o,ho,ht⟩:=h i (by omega);have e:=ab4 ht;have ih:=yZ h t i (by omega);rw[kN,<-ih]
  have hdst:gu R i=o.dst:=by simp[gu,ho]
  rw[hdst,e]
  cases hd:o.dst with
  |none=>simp[St.put]
  |some d=>
   simp only[St.put,look,true_and,Option.some.injEq]
theorem DS.refl(S:Store):DS S S:=fun _ _ h=>.inl h
theorem DS.trans{S1 S2 S3:Store}(h:DS S1 S2)(k:DS S2 S3):DS S1 S3:=by
 intro x o hx;rcases h x o hx with h1|⟨h1,o',z,es,h2,h2'⟩
 ·exact k x o h1
 ·rcases k x _ h2 with h3|⟨_,h3⟩
  ·exact .inr ⟨h1,o',z,es,h3,h2'⟩
  ·exact .inr ⟨h1,h3⟩
theorem DS.push{own:List Obj}{Ω:Store}{o:Obj}:DS (own::Ω) ((own++[o])::Ω):=fun k o' h=>.inl (jA _ _ _ _ _ h)
theorem qV{dst:Option Nat}{o:Obj}{mk:Key->V}{s':St}(h:newObj s dst o mk (fun t=>t=s')):DS s.st s'.st:=by
 unfold newObj at h;split at h
 ·rename_i own Ω hst;rw[<-h,kV,hst];exact DS.push
 ·exact h.elim
theorem afQ{b:Bool}{es x:List (List D)}{z:Nat}{dst:Option Nat}{s':St}(h:zw b es s dst z x (fun t=>t=s')):DS s.st s'.st:=by
 cases b with
 |false=>exact qV (o:=.tok z x) (mk:=fun k=>.c (.bS k x)) h
 |true=>exact qV (o:=.eP z x) (mk:=fun k=>.c (.iJ k)) h.2
theorem afR{l:Option Nat}{es x:List (List D)}{z:Nat}{dst:Option Nat}{s':St}(h:AJ l es s dst z x (fun t=>t=s')):DS s.st s'.st:=by
 cases l with
 |none=>exact afQ h
 |some n=>
  cases es with
  |nil=>
   have h:St.put ⟨s.tm,s.st⟩ dst (.c (.d (.ol n x)))=s':=h;rw[<-h,kV];exact DS.refl _
  |cons y es=>exact qV (o:=.tok z x) (mk:=fun k=>.c (.bS k x)) h
theorem afS{b:Bool}{n:Nat}{x:List (List D)}{z:Nat}{dst:Option Nat}{s':St}(h:CB b n s dst z x (fun t=>t=s')):DS s.st s'.st:=by
 cases b with
 |false=>exact qV (o:=.jm n z x) (mk:=fun k=>.c (.bS k x)) h
 |true=>
  have h:St.put ⟨s.tm,s.st⟩ dst (.c (.d (.ol n x)))=s':=h;rw[<-h,kV];exact DS.refl _
theorem ab6{o:Oper}{s s':St}(hD:qG o.op=true)(hs:xU o.op=false)(h:dA P o s (fun t=>t=s')):DS s.st s'.st:=by
 obtain⟨dst,op,ty,pos,after,guard⟩:=o
 cases op with
 |alloc t=>
  simp only[dA,tV] at h;split at h
  ·exact qV h
  ·exact h.elim
 |box t x=>
  simp only[dA,AB] at h;split at h
  ·exact qV h
  ·exact h.elim
 |makeSlice t l c=>
  simp only[dA,wL] at h;split at h
  ·split at h
   ·exact qV h.2.2.2.2.2
   ·exact h.elim
  ·exact h.elim
 |store t x y=>simp[xU] at hs
 |mapUpdate t x y z=>simp[xU] at hs
 |makeMap t r=>
  cases r with
  |none=>
   simp only[dA,sP] at h;exact qV h
  |some r=>simp[qG] at hD
 |call c=>
  obtain⟨yV,args,wO⟩:=c
  cases yV with
  |builtin b=>
   cases b with
   |append=>
    simp only[dA,mM] at h;split at h
    ·simp only[qF] at h;split at h
     ·obtain⟨h1,h2,h3,h4⟩:=h;split at h4
      ·rename_i k es hex;split at h4
       ·rename_i z es' hk;obtain⟨k1,k2,k3,k4⟩:=h4;rw[<-k4,kV];intro k' o' ho';by_cases e:k'=k
        ·subst e;rw[hk] at ho';cases ho';exact .inr ⟨⟨_,_,.inl rfl⟩,_,_,_,dw _ _ _ _ hk,.inl rfl⟩
        ·exact .inl ((eZ _ _ _ _ (Ne.symm e)).trans ho')
       ·rename_i n z es' hk;obtain⟨k1,k2,k3,k4⟩:=h4;rw[<-k4,kV];intro k' o' ho';by_cases e:k'=k
        ·subst e;rw[hk] at ho';cases ho';exact .inr ⟨⟨_,_,.inr ⟨_,rfl⟩⟩,_,_,_,dw _ _ _ _ hk,.inr ⟨_,rfl⟩⟩
        ·exact .inl ((eZ _ _ _ _ (Ne.symm e)).trans ho')
       ·exact h4.elim
      ·exact afR h4.2.2
      ·exact afS h4.2.2
      ·exact h4.elim
     ·exact h.elim
    ·exact h.elim
   |_=>simp[qG] at hD
  |_=>simp[qG] at hD
 |_=>simp[qG] at hD
theorem ab7{o:Oper}{s s':St}{v:V}(h:lH P E R o s v s')(hs:j6 E o.op=false):DS s.st s'.st:=by
 rcases h with⟨_,_,h⟩|⟨_,_,_,h⟩|⟨_,hD,h,_,hc⟩
 ·rw[h];cases o.dst<;>exact DS.refl _
 ·rw[h];cases o.dst<;>exact DS.refl _
 ·cases hd:qG o.op with
  |true=>exact ab6 hd (by unfold j6 at hs;rw[Bool.or_eq_false_iff] at hs;exact hs.1) h
  |false=>exact hc hd hs
theorem Dm{st:Nat->St}{vs:Nat->V}(h:∀i,i<R.size->∃o,R[i]? =some o/\lH P E R o (st i) (vs i) (st (i+1))){i:Nat}:∀(m:Nat),i+m<=R.size->(∀j o,i<=j->j<i+m->R[j]? =some o->fJ E o.op=false)->(st (i+m)).st=(st i).st
 |0,_,_=>rfl
 |m+1,hm,hj=>by
  obtain⟨o,ho,ht⟩:=h (i+m) (by omega);rw[show i+(m+1)=i+m+1 from rfl,ab5 ht (hj _ o (by omega) (by omega) ho)];exact Dm h m (by omega) (fun j o h1 h2 h3=>hj j o h1 (by omega) h3)
def KS(k:Key)(S S':Store):Prop:=∀o,bA S k=some o->bA S' k=some o\/((∃z es,rD o z es)/\∃o' z es,bA S' k=some o'/\rD o' z es)
theorem KS.trans{k:Key}{S1 S2 S3:Store}(h:KS k S1 S2)(h':KS k S2 S3):KS k S1 S3:=by
 intro o hx;rcases h o hx with h1|⟨h1,o',z,es,h2,h2'⟩
 ·exact h' o h1
 ·rcases h' _ h2 with h3|⟨_,h3⟩
  ·exact .inr ⟨h1,o',z,es,h3,h2'⟩
  ·exact .inr ⟨h1,h3⟩
theorem Wh{st:Nat->St}{vs:Nat->V}(h:∀i,i<R.size->∃o,R[i]? =some o/\lH P E R o (st i) (vs i) (st (i+1))){i:Nat}{k:Key}:∀(m:Nat),i+m<=R.size->
 (∀j o,i<=j->j<i+m->R[j]? =some o->j6 E o.op=false\/bA (st (j+1)).st k=bA (st j).st k)->KS k (st i).st (st (i+m)).st
 |0,_,_=>fun _ hx=>.inl hx
 |m+1,hm,hj=>by
  obtain⟨o,ho,ht⟩:=h (i+m) (by omega);refine(Wh h m (by omega) (fun j o h1 h2 h3=>hj j o h1 (by omega) h3)).trans ?_;rcases hj _ o (by omega) (by omega) ho with hs|hs
  ·exact ab7 ht hs k
  ·intro x hx;exact .inl (hs.trans hx)
theorem cnt_lt(p q:Nat->Bool):∀(l:List Nat)(i:Nat),(∀x,q x=true->p x=true)->i∈l->p i=true->q i=false->l.countP q<l.countP p
 |[],_,_,h,_,_=>by simp at h
 |x::l,i,h,hi,hp,hq=>by
  rw[List.countP_cons,List.countP_cons];have hle:l.countP q<=l.countP p:=List.countP_mono_left (fun y _ hy=>h y hy);rcases List.mem_cons.1 hi with rfl|hi
  ·rw[hp,hq];simp;omega
  ·have ih:=cnt_lt p q l i h hi hp hq;by_cases hx:q x=true
   ·rw[hx,h x hx];simp;exact ih
   ·have:q x=false:=by simpa using hx
    rw[this];simp
    split<;>omega
end
section
variable {P:Program} {E:Md} {N:Nat} {R:Array Oper}
def mP(E:Md)(R:Array Oper)(p:Nat)(listed:Array Bool):Prop:=listed.getD p false=true/\p<R.size/\∃j x,j<p/\R[j]? =some x/\fJ E x.op=true/\listed.getD j false=false
def Raw(P:Program)(R:Array Oper)(p:Nat)(w0 w:World)(σ:Nat->Nat)(S:Store)(β:Hs)(v:Value):Prop:=
 ∃b c ty,v=.pointer (some ⟨b,0,none⟩)/\w.heap[b]? =some (.cells c ty (0,0))/\σ b=0/\w0.heap.size<=b/\¬Own S β b/\
  ∀o t zs,R[p]? =some o->o.op=.alloc t->iM P t=some zs->∀w σ S β,fD w σ S β zs c.toList
open Classical in
noncomputable def tH(E:Md)(R:Array Oper)(p:Nat)(vs:Nat->V)(listed:Array Bool)(base:List (Nat×V))(t:Nat):V:=
 if mP E R p listed/\gu R p=some t then .any else kN R vs (fun i=>listed.getD i false) base R.size t
structure Mid(P:Program)(N:Nat)(E:Md)(R:Array Oper)(p:Nat)(st:Nat->St)(vs:Nat->V)(β0:Hs)(σ0:Nat->Nat)(w0:World)(listed:Array Bool)(a:Act)(w:World):Prop where
 size:listed.size=R.size
 closed:∀i o e,R[i]? =some o->listed.getD i false=true->e∈o.after->Region.binds .any e=true->listed.getD e.on false=true
 rep:∃m,m<=R.size/\(∀i o,R[i]? =some o->fJ E o.op=true->(i=p->¬mP E R p listed)->(listed.getD i false=true<->i<m))/\∃σ β,a.tmps.size=N/\a.defers=[]/\eH w σ (st m).st β/\
  (∀t,dP w σ (st m).st β (tH E R p vs listed (st 0).tm t) (a.tmps.getD t undef))/\Step (st 0).st β0 σ0 w0 (st m).st β σ w/\Keep (st 0).st β0 (st m).st β/\
  (mP E R p listed->m<=p/\∀d,gu R p=some d->Raw P R p w0 w σ (st m).st β (a.tmps.getD d undef))
theorem OY{o:Oper}{x:Operand}{t:Nat}(hx:x∈o.op.operands)(e:x=.tmp t):t∈o.looksAt R:=by
 subst e;exact List.mem_append_left _ (List.mem_filterMap.2 ⟨.tmp t,by simpa using hx,rfl⟩)
theorem Tc{o:Oper}{g d:Nat}{want:Bool}(hg:o.guard=some (g,want))(hd:gu R g=some d):d∈o.looksAt R:=by
 refine List.mem_append_right _ ?_;rw[hg];show d∈((R[g]?).bind (·.dst)).toList;unfold gu at hd
 rw[hd];simp
theorem AP(h:yX E R N=true){i j:Nat}{x y:Oper}(hij:i<j)(hx:R[i]? =some x)(hy:R[j]? =some y)(hc:clash E R x y=true):((masks R.toList []).getD j 0).testBit i=true:=by
 have hj:j<R.size:=(Array.getElem?_eq_some_iff.1 hy).1;have h1:=List.all_eq_true.1 h j (List.mem_range.2 hj);rw[Bool.and_eq_true] at h1;have h2:=List.all_eq_true.1 h1.2 i (List.mem_range.2 hij);rw[hx,hy] at h2;simp only[hc,Bool.not_true,Bool.or_false] at h2;exact h2
theorem QC(h:yX E R N=true){i:Nat}{o:Oper}{e:Edge}(ho:R[i]? =some o)(he:e∈o.after)(hb:Region.binds .any e=true):e.on<i:=by
 have hj:i<R.size:=(Array.getElem?_eq_some_iff.1 ho).1;have h1:=List.all_eq_true.1 h i (List.mem_range.2 hj);rw[Bool.and_eq_true,ho] at h1;have h2:=h1.1;simp only[Bool.and_eq_true] at h2;have h3:=List.all_eq_true.1 h2.1 e (by simpa using he);simpa [hb] using h3
theorem Td(h:yX E R N=true){i:Nat}{o:Oper}(ho:R[i]? =some o):∀d,o.dst=some d->d<N:=by
 intro d hd;have hj:i<R.size:=(Array.getElem?_eq_some_iff.1 ho).1;have h1:=List.all_eq_true.1 h i (List.mem_range.2 hj);rw[Bool.and_eq_true,ho] at h1;have h2:=h1.1;simp only[Bool.and_eq_true,hd] at h2;simpa using h2.2
theorem Wi{x y:Oper}:x.apart R y=y.apart R x:=by
 rw[Bool.eq_iff_iff]
 have key:∀x y:Oper,x.apart R y=true->y.apart R x=true:=fun x y h=>by
  obtain⟨h1,h2,h3⟩:=Oper.apart_spec h;unfold Oper.apart
  cases hx:x.dst<;>cases hy:y.dst<;>simp
  ·rename_i d;exact h3 d hy
  ·rename_i d;exact h1 d hx
  ·rename_i d d';exact⟨⟨h3 d' hy,fun e=>h2 d hx (by rw[hy,e])⟩,h1 d hx⟩
 exact⟨key x y,key y x⟩
theorem Te{x y:Oper}:lY E R x y=lY E R y x:=by
 unfold lY;rw[Wi,Bool.and_comm (fJ E x.op)]
def Wj:Op->Bool
 | .move _=>true
 |_=>false
theorem ab8{P:Program}{l:Option Nat}{S S':Store}{tm:List (Nat×V)}{op:Op}(h:Wj op=true):mK P l S' tm op=mK P l S tm op:=by
 cases op<;>first|rfl|cases h
def refs(tm:List (Nat×V))(o:Oper)(k:Key):Prop:=Wj o.op=false/\∃x∈o.op.operands,Hu (ev tm x) k
structure Ky(E:Md)(R:Array Oper)(N:Nat)(st:Nat->St)(p:Nat):Prop where
 edge:∀(i:Nat)(o:Oper)(e:Edge),R[i]? =some o->e∈o.after->Region.binds .any e=true->e.on<i
 dst:∀(i:Nat)(o:Oper),R[i]? =some o->∀d,o.dst=some d->d<N
 pair:∀(i j:Nat)(x y:Oper),i<j->R[i]? =some x->R[j]? =some y->lY E R x y=true->((masks R.toList []).getD j 0).testBit i=true\/(j=p/\fJ E x.op=true/\x.apart R y=true)
 store:∀(i j:Nat)(x o:Oper),i≠j->R[i]? =some x->R[j]? =some o->j6 E x.op=true->fJ E o.op=false->jv o.op=false->
  rJ R i j=true\/∀k,refs (st j).tm o k->bA (st (i+1)).st k=bA (st i).st k
 pend:∀o,R[p]? =some o->xV o.op=true/\o.guard=none/\(∃d,o.dst=some d)/\∀j y,j≠p->R[j]? =some y->y.apart R o=false->∀i x,i<p->R[i]? =some x->fJ E x.op=true->i<j/\((masks R.toList []).getD j 0).testBit i=true
theorem ahJ{st:Nat->St}(h:yX E R N=true):Ky E R N st R.size where
 edge:=fun i o e h1 h2 h3=>QC h h1 h2 h3
 dst:=fun i o h1=>Td h h1
 pair:=fun i j x y hij hx hy hc=>.inl (AP h hij hx hy (by
  unfold lY at hc;unfold clash
  rw[hc];rfl))
 store:=fun i j x o hij hx ho hs hD hc=>.inl (by
  unfold rJ;by_cases e:i<j
  ·rw[if_pos e];exact AP h e hx ho (by unfold clash;rw[hs];simp)
  ·rw[if_neg e]
   exact AP h (show j<i by omega) ho hx (by unfold clash;rw[hs];simp))
 pend:=fun o ho=>by rw[Array.getElem?_eq_none (Nat.le_refl _)] at ho;cases ho
theorem MI{p:Nat}(h:FT E R p=true):∀o,R[p]? =some o->xV o.op=true/\o.guard=none/\(∃d,o.dst=some d)/\∀j y,j≠p->R[j]? =some y->y.apart R o=false->∀i x,i<p->R[i]? =some x->fJ E x.op=true->i<j/\((masks R.toList []).getD j 0).testBit i=true:=by
 intro o ho;unfold FT at h;rw[ho] at h;simp only[Bool.and_eq_true] at h;obtain⟨⟨⟨h1,h2⟩,h3⟩,h4⟩:=h;refine⟨h1,by simpa using h2,Option.isSome_iff_exists.1 h3,fun j y hj hy hap i x hi hx hD=> ?_⟩;have hjl:j<R.size:=(Array.getElem?_eq_some_iff.1 hy).1;have h5:=List.all_eq_true.1 h4 j (List.mem_range.2 hjl);rw[hy] at h5;simp only[hap,hj,decide_false,Bool.false_or] at h5;have h6:=List.all_eq_true.1 h5 i (List.mem_range.2 hi);rw[hx] at h6;simpa [hD] using h6
theorem uf{o:Oper}(h:xV o.op=true):fJ E o.op=true/\j6 E o.op=false/\jv o.op=false:=by
 obtain⟨dst,op,ty,pos,after,guard⟩:=o;cases op<;>simp_all[xV,fJ,qG,j6,xU,jv]
theorem afT{st:Nat->St}{p:Nat}(h0:Dl E R N p=true):Ky E R N st p:=by
 unfold Dl at h0;rw[Bool.and_eq_true] at h0;obtain⟨hp,h⟩:=h0;have xK:=MI hp
 have hpr:∀(i j:Nat)(x y:Oper),i<j->R[i]? =some x->R[j]? =some y->((masks R.toList []).getD j 0).testBit i=true\/(x.apart R y=true/\(j=p\/((fJ E x.op&&fJ E y.op)=false/\j6 E x.op=false/\j6 E y.op=false))):=by
  intro i j x y hij hx hy;have hj:j<R.size:=(Array.getElem?_eq_some_iff.1 hy).1;have h1:=List.all_eq_true.1 h j (List.mem_range.2 hj);rw[Bool.and_eq_true] at h1;have h2:=List.all_eq_true.1 h1.2 i (List.mem_range.2 hij);rw[hx,hy] at h2;simp only[Y4] at h2;rw[Bool.or_eq_true] at h2;rcases h2 with h2|h2
  ·exact .inl h2
  ·right;rw[Bool.not_eq_true',Bool.or_eq_false_iff,Bool.not_eq_false'] at h2;refine⟨h2.1,?_⟩;by_cases e:j=p
   ·exact .inl e
   ·right;have h3:=h2.2;simp only[e,decide_false,Bool.not_false,Bool.true_and,Bool.or_eq_false_iff] at h3;exact⟨h3.1.1,h3.1.2,h3.2⟩
 refine⟨?_,?_,?_,?_,xK⟩
 ·intro i o e ho he hb;have hj:i<R.size:=(Array.getElem?_eq_some_iff.1 ho).1;have h1:=List.all_eq_true.1 h i (List.mem_range.2 hj);rw[Bool.and_eq_true,ho] at h1;have h2:=h1.1;simp only[Bool.and_eq_true] at h2;have h3:=List.all_eq_true.1 h2.1 e (by simpa using he);simpa [hb] using h3
 ·intro i o ho d hd;have hj:i<R.size:=(Array.getElem?_eq_some_iff.1 ho).1;have h1:=List.all_eq_true.1 h i (List.mem_range.2 hj);rw[Bool.and_eq_true,ho] at h1;have h2:=h1.1;simp only[Bool.and_eq_true,hd] at h2;simpa using h2.2
 ·intro i j x y hij hx hy hc;rcases hpr i j x y hij hx hy with h1|⟨h1,h2⟩
  ·exact .inl h1
  ·rcases h2 with h2|⟨h2,_,_⟩
   ·right;unfold lY at hc;rw[h1] at hc;simp only[Bool.not_true,Bool.false_or,Bool.and_eq_true] at hc;exact⟨h2,hc.1,h1⟩
   ·unfold lY at hc;rw[h1,h2] at hc;cases hc
 ·intro i j x o hij hx ho hs hD hc
  have hjp:j≠p:=fun e=>by
   subst e;have:=(uf (E:=E) (xK o ho).1).1;rw[hD] at this;cases this
  have NM:i≠p:=fun e=>by
   subst e;have:=(uf (E:=E) (xK x hx).1).2.1;rw[hs] at this;cases this
  left;unfold rJ;by_cases e:i<j
  ·rw[if_pos e];rcases hpr i j x o e hx ho with h1|⟨_,h2⟩
   ·exact h1
   ·rcases h2 with h2|⟨_,h2,_⟩
    ·exact absurd h2 hjp
    ·rw[hs] at h2;cases h2
  ·rw[if_neg e];rcases hpr j i o x (by omega) ho hx with h1|⟨_,h2⟩
   ·exact h1
   ·rcases h2 with h2|⟨_,_,h2⟩
    ·exact absurd h2 NM
    ·rw[hs] at h2;cases h2
theorem Oper.Y5{o:Oper}{a:Act}{w:World}{K:Act->World->Prop}{Q:Exit->Act->World->Prop}(hh:o.wp P a w K Q):o.wp P a w (fun a' w'=>K a' w'/\∀d,o.dst≠some d->a'.tmps.getD d undef=a.tmps.getD d undef) Q:=by
 have key:∀(ds:List Deferred)(v:Value)(d:Nat),o.dst≠some d->(({a with defers:=ds}:Act).put o.dst v).tmps.getD d undef=a.tmps.getD d undef:=by
  intro ds v d hd
  cases ho:o.dst with
  |none=>rfl
  |some e=>
   have hne:e≠d:=fun x=>hd (by rw[ho,x]);simp only[Act.put,Array.getD_eq_getD_getElem?];rw[Array.getElem?_setIfInBounds_ne hne]
 unfold Oper.wp at *
 generalize (execOp a.eval o).run P w=r at *
 cases r with
 |ok n w'=>
  cases n<;>simp only[Oper.upon] at hh ⊢ <;>
   first
    |exact⟨hh,fun d hd=>key _ _ d hd⟩
    |exact Calls.mono hh (fun e w'' he=>by cases e<;>first|exact⟨he,fun d hd=>key _ _ d hd⟩|exact he)
    |exact Rows.mono hh (fun _ _ he=>⟨he,fun d hd=>key _ _ d hd⟩)
 |halt x w'=>cases x<;>simp only[Oper.upon] at hh ⊢ <;>exact hh
theorem FX{a:Act}{dst:Option Nat}{v:Value}{d:Nat}(h:dst≠some d):(a.put dst v).tmps.getD d undef=a.tmps.getD d undef:=by
 cases dst with
 |none=>rfl
 |some e=>
  have hne:e≠d:=fun x=>h (by rw[x]);simp only[Act.put,Array.getD_eq_getD_getElem?];rw[Array.getElem?_setIfInBounds_ne hne]
theorem ab9{t:TypeId}{zs:List C}(h:iM P t=some zs):∃z:Value,(∀w,(zeroValue t).run P w=.ok z w)/\∀w σ S β,fD w σ S β zs z.cells.toList:=by
 unfold iM at h
 cases hi:P.info? t with
 |none=>rw[hi] at h;cases h
 |some i=>
  rw[hi] at h
  cases hz:i.zero with
  |none=>simp[hz] at h
  |some z=>
   simp only[Option.bind_some,hz] at h;split at h
   ·rename_i hall;cases h;refine⟨z,fun w=>by simp[zeroValue,typeInfo,hi,hz],fun w σ S β=>⟨by simp,fun j x hx=> ?_⟩⟩;rw[List.getElem?_map] at hx
    cases hv:z.cells.toList[j]? with
    |none=>rw[hv] at hx;cases hx
    |some v=>
     rw[hv] at hx;cases hx;exact⟨v,rfl,zR _ _ _ _ _,List.all_eq_true.1 hall v (List.mem_of_getElem? hv)⟩
   ·cases h
theorem acd{w w0:World}{σ σ0:Nat->Nat}{S0:Store}{β0:Hs}{own:List Obj}{Ω:Store}{β:Hs}{zs:List C}{b:Nat}{c:Array Value}{ty:TypeId}(hS:eH w σ (own::Ω) β)(hst:Step S0 β0 σ0 w0 (own::Ω) β σ w)(hb:w.heap[b]? =some (.cells c ty (0,0)))(hσ:σ b=0)
 (h0:w0.heap.size<=b)(hno:¬Own (own::Ω) β b)(hz:∀w σ S β,fD w σ S β zs c.toList):
 ∃bo bΩ,β=bo::bΩ/\bo.length=own.length/\eH w σ ((own++[.box zs])::Ω) ((bo++[Value.pointer (some ⟨b,0,none⟩)])::bΩ)/\Keep (own::Ω) β ((own++[.box zs])::Ω) ((bo++[Value.pointer (some ⟨b,0,none⟩)])::bΩ)/\
  Step S0 β0 σ0 w0 ((own++[.box zs])::Ω) ((bo++[Value.pointer (some ⟨b,0,none⟩)])::bΩ) σ w:=by
 cases β with
 |nil=>have:=hS.shape.1;simp at this
 |cons bo bΩ=>
 have hlen:bo.length=own.length:=by
  obtain⟨gr,g1,g2⟩:=hS.shape.2 0 own rfl;simp at g1;rw[g1];exact g2
 refine⟨bo,bΩ,rfl,hlen,?_⟩
 have hkeep:Keep (own::Ω) (bo::bΩ) ((own++[.box zs])::Ω) ((bo++[Value.pointer (some ⟨b,0,none⟩)])::bΩ):=by
  intro k o1 h1;obtain⟨h2,xJ,_⟩:=hS.obj k o1 h1;exact⟨o1,jA _ _ _ _ _ h1,by rw[jA _ _ _ _ _ xJ,xJ];exact .refl _ _⟩
 have hinv:∀k o1 h1,bA ((own++[Obj.box zs])::Ω) k=some o1->bA ((bo++[Value.pointer (some ⟨b,0,none⟩)])::bΩ) k=some h1->
  (bA (own::Ω) k=some o1/\bA (bo::bΩ) k=some h1)\/(k=(0,own.length)/\o1=.box zs/\h1=Value.pointer (some ⟨b,0,none⟩)):=by
  intro k o1 h1 e1 e2;rcases kL _ _ _ _ _ e1 with e1|⟨rfl,rfl⟩
  ·left;refine⟨e1,?_⟩;rcases kL _ _ _ _ _ e2 with e2|⟨rfl,rfl⟩
   ·exact e2
   ·rw[bL,hlen] at e1;have:=(List.getElem?_eq_some_iff.1 e1).1;omega
  ·right;rw[<-hlen,dJ] at e2;exact⟨rfl,rfl,(Option.some.inj e2).symm⟩
 have hown:∀x,Own ((own++[Obj.box zs])::Ω) ((bo++[Value.pointer (some ⟨b,0,none⟩)])::bΩ) x->Own (own::Ω) (bo::bΩ) x\/x=b:=by
  rintro x ⟨k,o,h,e1,e2,e3⟩;rcases hinv k o h e1 e2 with⟨f1,f2⟩|⟨rfl,rfl,rfl⟩
  ·exact .inl ⟨k,o,h,f1,f2,e3⟩
  ·right;cases e3;rfl
 have hmono:∀k o h,bA (own::Ω) k=some o->bA (bo::bΩ) k=some h->gM w σ ((own::Ω).drop k.1) ((bo::bΩ).drop k.1) o h->gM w σ (((own++[Obj.box zs])::Ω).drop k.1) (((bo++[Value.pointer (some ⟨b,0,none⟩)])::bΩ).drop k.1) o h:=
  fun k o h _ _ hr=>hr.mono (eG.refl _ _) (hkeep.drop _) fun x _=>⟨rfl,rfl⟩
 refine⟨⟨?_,?_,⟨?_,?_⟩,hS.live,hS.wE⟩,hkeep,⟨hst.size,hst.os,hst.output,fun x hx hn=>hst.far x hx hn,hst.near,fun x hx=> ?_⟩⟩
 ·intro k o1 h1;rcases kL _ _ _ _ _ h1 with h1|⟨rfl,rfl⟩
  ·obtain⟨h2,xJ,hr⟩:=hS.obj k o1 h1;exact⟨h2,jA _ _ _ _ _ xJ,hmono k o1 h2 h1 xJ hr⟩
  ·exact⟨Value.pointer (some ⟨b,0,none⟩),by rw[<-hlen,dJ],b,c,ty,rfl,hb,hσ,hz _ _ _ _⟩
 ·intro k k' o1 o2 h1 h2 x e1 e2 e3 e4 e5 e6;rcases hinv k o1 h1 e1 e2 with⟨f1,f2⟩|⟨rfl,rfl,rfl⟩
  ·rcases hinv k' o2 h2 e4 e5 with⟨g1,g2⟩|⟨rfl,rfl,rfl⟩
   ·exact hS.apart _ _ _ _ _ _ _ f1 f2 e3 g1 g2 e6
   ·cases e6;exact absurd ⟨k,o1,h1,f1,f2,e3⟩ hno
  ·rcases hinv k' o2 h2 e4 e5 with⟨g1,g2⟩|⟨rfl,rfl,rfl⟩
   ·cases e3;exact absurd ⟨k',o2,h2,g1,g2,e6⟩ hno
   ·rfl
 ·have:=hS.shape.1;simpa using this
 ·intro l fr hl
  cases l with
  |zero=>simp at hl;subst hl;exact⟨_,rfl,by simp[hlen]⟩
  |succ l=>exact hS.shape.2 (l+1) fr (by simpa using hl)
 ·rcases hown x hx with h|h
  ·exact hst.own x h
  ·subst h;exact .inr h0
theorem Kz{st:Nat->St}{vs:Nat->V}{p:Nat}{o:Oper}{d:Nat}{t:TypeId}(ht:lH P E R o (st p) (vs p) (st (p+1)))(hop:o.op=.alloc t)(hg:o.guard=none)(hd:o.dst=some d):
 ∃zs own Ω,iM P t=some zs/\(st p).st=own::Ω/\(st (p+1)).st=(own++[.box zs])::Ω/\vs p=.c (.ptr (0,own.length) 0):=by
 have hgd:gd R o (st p).tm=some true:=by unfold gd;rw[hg]
 rcases ht with⟨h1,_,_⟩|⟨_,hD,_,_⟩|⟨_,hD,hx,hs',_⟩
 ·rw[hgd] at h1;cases h1
 ·rw[(uf (E:=E) (o:=o) (by rw[hop];rfl)).1] at hD;cases hD
 ·obtain⟨dst,op,ty,pos,after,guard⟩:=o;simp only at hop hd;subst hop;subst hd;unfold dA tV at hx;simp only at hx
  cases hz:iM P t with
  |none=>rw[hz] at hx;exact hx.elim
  |some zs=>
   rw[hz] at hx
   generalize st (p+1)=s1 at *
   generalize st p=s0 at *
   obtain⟨tm,S⟩:=s0;simp only[newObj] at hx
   cases S with
   |nil=>exact hx.elim
   |cons own Ω=>
    subst hx;refine⟨zs,own,Ω,rfl,rfl,rfl,?_⟩;simp only[St.put,St.mk.injEq,List.cons.injEq,Prod.mk.injEq,and_true,true_and] at hs';exact hs'.symm
theorem mid_step{st:Nat->St}{vs:Nat->V}{β0:Hs}{σ0:Nat->Nat}{w0:World}{Q:Exit->Act->World->Prop}{p:Nat}(hok:Ky E R N st p)
 (hT:∀i,i<R.size->∃o,R[i]? =some o/\lH P E R o (st i) (vs i) (st (i+1))){listed:Array Bool}{a:Act}{w:World}(hM:Mid P N E R p st vs β0 σ0 w0 listed a w){i:Nat}(hi:i∈Region.ready .any R listed):
 wpOp P R Q i (fun a' w'=>Mid P N E R p st vs β0 σ0 w0 (listed.setIfInBounds i true) a' w') a w:=by
 obtain⟨hun,o,ho,Y6⟩:=mem_ready.1 hi;have hlt:i<R.size:=(Array.getElem?_eq_some_iff.1 ho).1;obtain⟨o',ho',ht⟩:=hT i hlt;rw[ho] at ho';cases ho'
 have MJ:listed.getD i false=false:=by
  have hs:i<listed.size:=by rw[hM.size];exact hlt
  simp[hs] at hun ⊢;exact hun
 obtain⟨m,hm,hmD,σ,β,hsz,hdf,hS,hrT,hst,hkp,xK⟩:=hM.rep;have hdn:=hok.dst i o ho
 have hset:(listed.setIfInBounds i true).getD i false=true:=by
  have hs:i<listed.size:=by rw[hM.size];exact hlt
  simp[hs]
 have Wl:∀j,(listed.setIfInBounds i true).getD j false=true->j=i\/listed.getD j false=true:=by
  intro j hj;by_cases e:j=i
  ·exact .inl e
  ·rw[getD_set_ne false (Ne.symm e)] at hj;exact .inr hj
 have ajN:∀j,(listed.setIfInBounds i true).getD j false=false->j≠i/\listed.getD j false=false:=by
  intro j hj;by_cases e:j=i
  ·subst e;rw[hset] at hj;cases hj
  ·rw[getD_set_ne false (Ne.symm e)] at hj;exact⟨e,hj⟩
 have Wm:∀j x k,R[j]? =some x->listed.getD j false=true->((masks R.toList []).getD j 0).testBit k=true->listed.getD k false=true:=fun j x k hx hE hb=>
  NK (fun k=>listed.getD k false=true) hM.closed hok.edge j x hx (fun e he hb=>hM.closed j x e hx hE he hb) k hb
 have FY:∀k,((masks R.toList []).getD i 0).testBit k=true->listed.getD k false=true:=fun k hb=>
  NK (fun k=>listed.getD k false=true) hM.closed hok.edge i o ho (fun e he hb=>Y6 e he hb) k hb
 have ahL:mP E R p listed->i≠p:=fun h e=>by have h1:=h.1;rw[<-e,MJ] at h1;cases h1
 have Ee:∀j x e,R[j]? =some x->(listed.setIfInBounds i true).getD j false=true->e∈x.after->Region.binds .any e=true->(listed.setIfInBounds i true).getD e.on false=true:=by
  intro j x e hx hE he hb;by_cases hji:j=i
  ·subst hji;rw[ho] at hx;cases hx;exact getD_set_true (Y6 e he hb)
  ·rw[getD_set_ne false (Ne.symm hji)] at hE;exact getD_set_true (hM.closed j x e hx hE he hb)
 by_cases hA2:i=p/\∃j x,j<p/\R[j]? =some x/\fJ E x.op=true/\listed.getD j false=false
 ·
  obtain⟨rfl,j0,x0,hj0,hx0,hD0,hu0⟩:=hA2;obtain⟨hal,hgn,⟨d,hd⟩,_⟩:=hok.pend o ho
  obtain⟨ty,hop⟩:∃ty,o.op=.alloc ty:=by
   cases h:o.op<;>rw[h] at hal<;>first|exact⟨_,rfl⟩|cases hal
  obtain⟨zs,own,Ω,hzs,_,_,_⟩:=Kz ht hop hgn hd;obtain⟨z,uX,hzc⟩:=ab9 hzs
  have hnp:¬mP E R i listed:=fun h=>by have h1:=h.1;rw[MJ] at h1;cases h1
  have hP':mP E R i (listed.setIfInBounds i true):=⟨hset,hlt,j0,x0,hj0,hx0,hD0,by rw[getD_set_ne false (by omega)];exact hu0⟩
  have hmp:m<=i:=by
   have h1:=hmD j0 x0 hx0 hD0 (fun _=>hnp);rcases Nat.lt_or_ge j0 m with h|h
   ·rw[h1.2 h] at hu0;cases hu0
   ·omega
  have hdi:gu R i=some d:=by simp[gu,ho,hd]
  have hg:=zU w σ hS.live z.cells ty 0;unfold wpOp;rw[ho]
  simp only
  rw[if_pos (by simp[Region.wanted,hgn])];left
  have hrun:(execOp a.eval o).run P w=.ok (.value (.pointer (some ⟨w.heap.size,0,none⟩))) {w with heap:=w.heap.push (.cells z.cells ty)}:=by
   have Ko:(newVar ty z).run P w=.ok ⟨w.heap.size,0,none⟩ {w with heap:=w.heap.push (.cells z.cells ty)}:=rfl;have uX:=uX w;clear hS hrT hst hkp xK hM hdn ht;obtain⟨dst,op,ty',pos,after,guard⟩:=o;simp only at hop;subst hop;simp[execOp,Instr.alloc,uX,Ko]
  unfold Oper.wp;rw[hrun];show Mid P N E R i st vs β0 σ0 w0 _ (a.put o.dst _) _;rw[hd]
  have hdN:d<a.tmps.size:=by rw[hsz];exact hdn d hd
  refine⟨by simpa using hM.size,Ee,m,hm,fun j x hx qy hjp=> ?_,fun b=>if b=w.heap.size then 0 else σ b,β,by simp[Act.put,hsz],hdf,hS.grow hg,fun t=> ?_,hst.trans (Step.oQ hg),hkp,fun _=>⟨hmp,fun d' hd'=> ?_⟩⟩
  ·have hji:j≠i:=fun e=>hjp e hP';rw[getD_set_ne false (Ne.symm hji)];exact hmD j x hx qy fun _=>hnp
  ·unfold tH;by_cases e:t=d
   ·subst e;rw[if_pos ⟨hP',hdi⟩];exact trivial
   ·rw[if_neg (fun h=>e (by rw[hdi] at h;exact(Option.some.inj h.2).symm))]
    rw[yI (E':=fun i=>listed.getD i false) R.size (fun j hj hdj=>by
     have hji:j≠i:=fun x=>by rw[x,hdi] at hdj;exact e (Option.some.inj hdj).symm
     exact getD_set_ne false (Ne.symm hji))]
    have h1:=hrT t;unfold tH at h1;rw[if_neg (fun h=>hnp h.1)] at h1;rw[FX (by intro x;exact e (Option.some.inj x).symm)];exact h1.mono hg.near (Keep.refl _ _)
  ·rw[hdi] at hd';cases hd';refine⟨w.heap.size,z.cells,ty,by simp[Act.put,Array.getD,hdN],by simp,by simp,hst.size,fun h=> ?_,fun o2 t2 zs2 h1 h2 h3=> ?_⟩
   ·have:=hS.C9 h;omega
   ·rw[ho] at h1;cases h1;rw[hop] at h2;cases h2;rw[hzs] at h3;cases h3;exact hzc
 have hA:i=p->∀j x,j<p->R[j]? =some x->fJ E x.op=true->listed.getD j false=true:=fun e j x hj hx hD=>by
  cases hl:listed.getD j false with
  |true=>rfl
  |false=>exact absurd ⟨e,j,x,hj,hx,hD,hl⟩ hA2
 have hPP:mP E R p (listed.setIfInBounds i true)->mP E R p listed:=by
  rintro⟨h1,h2,j,x,hj,hx,hD,hl⟩;obtain⟨hji,hl⟩:=ajN j hl;rcases Wl p h1 with e|h
  ·rw[hA e.symm j x hj hx hD] at hl;cases hl
  ·exact⟨h,h2,j,x,hj,hx,hD,hl⟩
 have hap:mP E R p listed->∀po d,R[p]? =some po->po.dst=some d->o.dst≠some d/\d∉o.looksAt R:=by
  rintro hP po d hpo xK;have Y7:=hP;obtain⟨_,_,j0,x0,hj0,hx0,hD0,hu0⟩:=Y7
  have:o.apart R po=true:=by
   cases hc:o.apart R po with
   |true=>rfl
   |false=>
    have:=(hok.pend po hpo).2.2.2 i o (ahL hP) ho hc j0 x0 hj0 hx0 hD0;rw[FY j0 this.2] at hu0;cases hu0
  obtain⟨q1,q2,q3⟩:=Oper.apart_spec this;exact⟨fun e=>q2 d e xK,q3 d xK⟩
 have NM:mP E R p listed->fJ E o.op=true->i<p:=by
  rintro hP hD;have Y7:=hP;obtain⟨_,hpl,j0,x0,hj0,hx0,hD0,hu0⟩:=Y7;have hne:=ahL hP;rcases Nat.lt_or_ge i p with h|h
  ·exact h
  ·exfalso;rcases hok.pair j0 i x0 o (by omega) hx0 ho (by simp[lY,hD,hD0]) with hb|⟨e,_⟩
   ·rw[FY j0 hb] at hu0;cases hu0
   ·exact hne e
 have hbit:∀j x,R[j]? =some x->j≠i->rJ R j i=true->(listed.getD j false=true<->j<i):=by
  intro j x hx hne hc;unfold rJ at hc;constructor
  ·intro hE;rcases Nat.lt_or_ge j i with h|h
   ·exact h
   ·exfalso;rw[if_neg (by omega)] at hc;have:=Wm j x i hx hE hc;rw[MJ] at this;cases this
  ·intro hji;rw[if_pos hji] at hc;exact FY j hc
 have hdone:∀j x,R[j]? =some x->j≠i->(j=p->¬mP E R p listed)->lY E R x o=true->(listed.getD j false=true<->j<i):=by
  intro j x hx hne hjp hc;by_cases e:j<i
  ·rcases hok.pair j i x o e hx ho hc with hb|⟨e1,hD,_⟩
   ·exact hbit j x hx hne (by unfold rJ;rw[if_pos e];exact hb)
   ·exact⟨fun _=>e,fun _=>hA e1 j x (by omega) hx hD⟩
  ·rcases hok.pair i j o x (by omega) ho hx (by rw[Te];exact hc) with hb|⟨e1,hD,_⟩
   ·exact hbit j x hx hne (by unfold rJ;rw[if_neg e];exact hb)
   ·refine⟨fun h=>absurd ⟨e1▸h,?_,i,o,by omega,ho,hD,MJ⟩ (hjp e1),fun h=>absurd h e⟩;rw[<-e1];exact(Array.getElem?_eq_some_iff.1 hx).1
 obtain⟨QD,QE⟩:∃QD:List (Nat×V),∀t,look QD t=kN R vs (fun i=>listed.getD i false) (st 0).tm R.size t:=by
  have:∀n,∃qH:List (Nat×V),∀t,look qH t=kN R vs (fun i=>listed.getD i false) (st 0).tm n t:=by
   intro n
   induction n with
   |zero=>exact⟨(st 0).tm,fun t=>rfl⟩
   |succ n ih=>
    obtain⟨tm,h⟩:=ih;by_cases hE:listed.getD n false=true
    ·cases hd:gu R n with
     |none=>exact⟨tm,fun t=>by rw[kN,if_neg (fun x=>by rw[hd] at x;cases x.2)];exact h t⟩
     |some d=>
      refine⟨(n |> vs |> fun v=>(d,v))::tm,fun t=> ?_⟩;rw[kN,look,hd,h t];by_cases e:d=t
      ·rw[if_pos e,if_pos ⟨hE,by rw[e]⟩]
      ·rw[if_neg e,if_neg (fun x=>e (Option.some.inj x.2))]
    ·exact⟨tm,fun t=>by rw[kN,if_neg (fun x=>hE x.1)];exact h t⟩
  exact this R.size
 obtain⟨qH,ace⟩:∃qH:List (Nat×V),∀t,look qH t=tH E R p vs listed (st 0).tm t:=by
  by_cases hP:mP E R p listed
  ·cases hd:gu R p with
   |none=>exact⟨QD,fun t=>by unfold tH;rw[if_neg (fun h=>by rw[hd] at h;cases h.2)];exact QE t⟩
   |some d=>
    refine⟨(d,.any)::QD,fun t=> ?_⟩;unfold tH;rw[look,hd];by_cases e:d=t
    ·rw[if_pos e,if_pos ⟨hP,by rw[e]⟩]
    ·rw[if_neg e,if_neg (fun x=>e (Option.some.inj x.2))];exact QE t
  ·exact⟨QD,fun t=>by unfold tH;rw[if_neg (fun h=>hP h.1)];exact QE t⟩
 have hPd:∀t,mP E R p listed->gu R p=some t->∃po,R[p]? =some po/\po.dst=some t:=by
  intro t _ h;unfold gu at h
  cases hpo:R[p]? with
  |none=>rw[hpo] at h;cases h
  |some po=>rw[hpo] at h;exact⟨po,rfl,h⟩
 have afe:∀t∈o.looksAt R,look qH t=look (st i).tm t:=by
  intro t htl;rw[ace];unfold tH
  rw[if_neg (fun h=>by
   obtain⟨po,h1,h2⟩:=hPd t h.1 h.2
   exact(hap h.1 po t h1 h2).2 htl),yZ hT t i (by omega)]
  have:=CJ (R:=R) (vs:=vs) (E:=fun i=>listed.getD i false) (base:=(st 0).tm) (t:=t) (i:=i) R.size (fun j hj hd=>by
   by_cases e:j=i
   ·subst e;rw[MJ];simp
   ·obtain⟨x,hx⟩:∃x,R[j]? =some x:=⟨_,Array.getElem?_eq_getElem hj⟩
    have hxd:x.dst=some t:=by simpa [gu,hx] using hd
    refine hdone j x hx e (fun e2 hP=> ?_) ?_
    ·subst e2;exact(hap hP x t hx hxd).2 htl
    ·have:x.apart R o=false:=by
      cases hap:x.apart R o with
      |false=>rfl
      |true=>exact absurd htl ((Oper.apart_spec hap).1 t hxd)
     simp[lY,this])
  rw[this,show min R.size i=i from by omega]
 have hR:jN N ⟨qH,(st m).st⟩ a w σ β:=⟨hsz,hdf,hS,fun t=>by show dP w σ (st m).st β (look qH t) _;rw[ace];exact hrT t⟩
 have hev:∀x∈o.op.operands,ev (st i).tm x=ev qH x:=by
  intro x hx
  cases x with
  |tmp t=>show look _ t=look _ t;rw[afe t (OY hx rfl)]
  |_=>rfl
 have hgd:gd R o qH=gd R o (st i).tm:=by
  unfold gd
  cases hg:o.guard with
  |none=>rfl
  |some gw=>
   obtain⟨g,want⟩:=gw
   simp only
   cases hd:gu R g with
   |none=>rfl
   |some d=>
    simp only[Option.map_some];rw[afe d (Tc hg hd)]
 have alv:∀(S':Store)(t:Nat),kN R vs (fun i_1=>(listed.setIfInBounds i true).getD i_1 false) (st 0).tm R.size t=look (St.put ⟨QD,S'⟩ o.dst (vs i)).tm t:=by
  intro S' t;by_cases hd:o.dst=some t
  ·have hdi:gu R i=some t:=by simp[gu,ho,hd]
   rw[Ec (E:=fun i_1=>(listed.setIfInBounds i true).getD i_1 false) hset hdi R.size hlt (fun j hj hij hdj=>by
    obtain⟨x,hx⟩:∃x,R[j]? =some x:=⟨_,Array.getElem?_eq_getElem hj⟩
    have hxd:x.dst=some t:=by simpa [gu,hx] using hdj
    have acf:x.apart R o=false:=by
     cases hap:x.apart R o with
     |false=>rfl
     |true=>exact absurd hd ((Oper.apart_spec hap).2.1 t hxd)
    have:=hdone j x hx (by omega) (fun e hP=>by
     subst e
     exact(hap hP x t hx hxd).1 hd) (by simp[lY,acf])
    rw[getD_set_ne false (by omega)]
    cases hE:listed.getD j false with
    |false=>rfl
    |true=>exact absurd (this.1 hE) (by omega))]
   rw[hd];simp[St.put,look]
  ·have hdi:gu R i≠some t:=by simp only[gu,ho,Option.bind_some];exact hd
   rw[yI (E':=fun i=>listed.getD i false) R.size (fun j hj hdj=>by
    have hji:j≠i:=fun e=>hdi (e▸hdj)
    exact getD_set_ne false (Ne.symm hji)),<-QE t]
   cases hdd:o.dst with
   |none=>rfl
   |some d=>
    have hne:d≠t:=fun e=>hd (by rw[hdd,e]);simp[St.put,look,hne]
 have acg:∀(S':Store)(t:Nat),¬(mP E R p listed/\gu R p=some t)->look (St.put ⟨qH,S'⟩ o.dst (vs i)).tm t=kN R vs (fun i_1=>(listed.setIfInBounds i true).getD i_1 false) (st 0).tm R.size t:=by
  intro S' t hn;rw[alv S' t]
  have h1:look qH t=look QD t:=by rw[ace,QE];unfold tH;rw[if_neg hn]
  cases hdd:o.dst with
  |none=>exact h1
  |some d=>simp only[St.put,look,h1]
 have fin:∀(m':Nat)(a':Act)(w':World)(σ':Nat->Nat)(β':Hs),m'<=R.size->(∀j x,R[j]? =some x->fJ E x.op=true->(j=p->¬mP E R p listed)->((listed.setIfInBounds i true).getD j false=true<->j<m'))->
  (mP E R p listed->m'<=p)->(∀d,o.dst≠some d->a'.tmps.getD d undef=a.tmps.getD d undef)->
  jN N (St.put ⟨qH,(st m').st⟩ o.dst (vs i)) a' w' σ' β'->Step (st m).st β σ w (st m').st β' σ' w'->Keep (st m).st β (st m').st β'->Mid P N E R p st vs β0 σ0 w0 (listed.setIfInBounds i true) a' w':=by
  intro m' a' w' σ' β' hm' hD' hmp ha' hR' hst' xS;have hS':=hR'.S;have hT':=hR'.T;rw[kV] at hS' hT';by_cases hP:mP E R p listed
  ·obtain⟨_,hraw⟩:=xK hP;have Y7:=hP;obtain⟨hp1,hp2,j0,x0,hj0,hx0,hD0,hu0⟩:=Y7;obtain⟨po,hpo⟩:∃po,R[p]? =some po:=⟨_,Array.getElem?_eq_getElem hp2⟩;obtain⟨hal,hgn,⟨d,hd⟩,ajO⟩:=hok.pend po hpo
   have hdp:gu R p=some d:=by simp[gu,hpo,hd]
   have hod:=hap hP po d hpo hd;have hraw:=hraw d hdp;obtain⟨b,c,ty',hv,hb,hσ,h0,hno,hzc⟩:=hraw;have hbl:b<w.heap.size:=lt_of_some hb
   have hb':w'.heap[b]? =some (.cells c ty' (0,0)):=by rw[(hst'.far b hbl hno).1];exact hb
   have hσ':σ' b=0:=by rw[(hst'.far b hbl hno).2];exact hσ
   have hno':¬Own (st m').st β' b:=fun h=>(hst'.own b h).elim hno (fun h=>by omega);have hv':a'.tmps.getD d undef=.pointer (some ⟨b,0,none⟩):=(ha' d hod.1).trans hv;have ajP:Raw P R p w0 w' σ' (st m').st β' (a'.tmps.getD d undef):=⟨b,c,ty',hv',hb',hσ',h0,hno',hzc⟩;by_cases hP':mP E R p (listed.setIfInBounds i true)
   ·refine⟨by simpa using hM.size,Ee,m',hm',fun j x hx qy hjp=>hD' j x hx qy (fun e=>absurd hP' (hjp e)),σ',β',hR'.size,hR'.defers,hS',fun t=> ?_,hst.trans hst',hkp.trans xS,fun _=>⟨hmp hP,fun d' hd'=>by rw[hdp] at hd';cases hd';exact ajP⟩⟩;unfold tH;by_cases e:gu R p=some t
    ·rw[if_pos ⟨hP',e⟩];exact trivial
    ·rw[if_neg (fun h=>e h.2),<-acg (st m').st t (fun h=>e h.2)];exact hT' t
   ·
    have hpl:(listed.setIfInBounds i true).getD p false=true:=getD_set_true hp1
    have hall:∀j x,j<p->R[j]? =some x->fJ E x.op=true->(listed.setIfInBounds i true).getD j false=true:=fun j x hj hx hD=>by
     cases hl:(listed.setIfInBounds i true).getD j false with
     |true=>rfl
     |false=>exact absurd ⟨hpl,hp2,j,x,hj,hx,hD,hl⟩ hP'
    have ahM:∀j x,p<j->R[j]? =some x->fJ E x.op=true->(listed.setIfInBounds i true).getD j false=false:=fun j x hj hx hD=>by
     cases hl:(listed.setIfInBounds i true).getD j false with
     |false=>rfl
     |true=>
      exfalso;rcases hok.pair j0 j x0 x (by omega) hx0 hx (by simp[lY,hD,hD0]) with hbt|⟨e,_⟩
      ·rcases Wl j hl with e|hl
       ·subst e;rw[FY j0 hbt] at hu0;cases hu0
       ·rw[Wm j x j0 hx hl hbt] at hu0;cases hu0
      ·omega
    have an9:=hmp hP
    have hsm:(st p).st=(st m').st:=by
     have:=Dm hT (i:=m') (p-m') (by omega) (fun j x h1 h2 h3=>by
      cases qy:fJ E x.op with
      |false=>rfl
      |true=>
       have:=(hD' j x h3 qy (fun e=>by omega)).1 (hall j x (by omega) h3 qy)
       omega)
     rwa [show m'+(p-m')=p from by omega] at this
    obtain⟨po',ahN,htp⟩:=hT p hp2;rw[hpo] at ahN;cases ahN
    obtain⟨ty,hop⟩:∃ty,po.op=.alloc ty:=by
     cases h:po.op<;>rw[h] at hal<;>first|exact⟨_,rfl⟩|cases hal
    obtain⟨zs,own,Ω,hzs,hs0,hs1,hvp⟩:=Kz htp hop hgn hd;rw[hsm] at hs0;have AQ:=hst.trans hst';have ahO:=hkp.trans xS;rw[hs0] at hS' hT' AQ ahO hno';obtain⟨bo,bΩ,rfl,hlen,q1,q2,q3⟩:=acd hS' AQ hb' hσ' h0 hno' (hzc po ty zs hpo hop hzs);rw[<-hs1] at q1 q2 q3;refine⟨by simpa using hM.size,Ee,p+1,by omega,fun j x hx qy _=> ?_,σ',_,hR'.size,hR'.defers,q1,fun t=> ?_,q3,ahO.trans q2,fun h=>absurd h hP'⟩
    ·rcases Nat.lt_trichotomy j p with h|h|h
     ·exact⟨fun _=>by omega,fun _=>hall j x h hx qy⟩
     ·subst h;exact⟨fun _=>by omega,fun _=>hpl⟩
     ·rw[ahM j x h hx qy];exact⟨fun h=>(by cases h),fun h=>by omega⟩
    ·unfold tH;rw[if_neg (fun h=>hP' h.1)];by_cases e:t=d
     ·subst e
      rw[Ec (E:=fun i_1=>(listed.setIfInBounds i true).getD i_1 false) hpl hdp R.size hp2 (fun j hj hpj hdj=>by
       obtain⟨x,hx⟩:∃x,R[j]? =some x:=⟨_,Array.getElem?_eq_getElem hj⟩
       have hxd:x.dst=some t:=by simpa [gu,hx] using hdj
       have acf:x.apart R po=false:=by
        cases hap:x.apart R po with
        |false=>rfl
        |true=>exact absurd hd ((Oper.apart_spec hap).2.1 t hxd)
       have hbt:=ajO j x (by omega) hx acf j0 x0 hj0 hx0 hD0
       cases hl:(listed.setIfInBounds i true).getD j false with
       |false=>rfl
       |true=>
        exfalso;rcases Wl j hl with e|hl
        ·subst e;rw[FY j0 hbt.2] at hu0;cases hu0
        ·rw[Wm j x j0 hx hl hbt.2] at hu0;cases hu0),hvp,hv',hs1]
      exact UW hlen
     ·rw[<-acg (st m').st t (fun h=>e (by rw[hdp] at h;exact(Option.some.inj h.2).symm))];have h1:=hT' t;rw[hs0];exact h1.mono (eG.refl _ _) q2
  ·have hP':¬mP E R p (listed.setIfInBounds i true):=fun h=>hP (hPP h);refine⟨by simpa using hM.size,Ee,m',hm',fun j x hx qy _=>hD' j x hx qy (fun _=>hP),σ',β',hR'.size,hR'.defers,hS',fun t=> ?_,hst.trans hst',hkp.trans xS,fun h=>absurd h hP'⟩;unfold tH;rw[if_neg (fun h=>hP' h.1),<-acg (st m').st t (fun h=>hP h.1)];exact hT' t
 have keepD:fJ E o.op=false->∀j x,R[j]? =some x->fJ E x.op=true->(j=p->¬mP E R p listed)->((listed.setIfInBounds i true).getD j false=true<->j<m):=by
  intro hD j x hx qy hjp
  have hji:j≠i:=fun e=>by rw[e,ho] at hx;cases hx;rw[hD] at qy;cases qy
  rw[getD_set_ne false (Ne.symm hji)];exact hmD j x hx qy hjp
 have hmP:mP E R p listed->m<=p:=fun h=>(xK h).1
 have quiet:∀(w':World)(σ':Nat->Nat)(v:Value),fJ E o.op=false->Grow w σ w' σ'->dP w' σ' (st m).st β (vs i) v->Mid P N E R p st vs β0 σ0 w0 (listed.setIfInBounds i true) (a.put o.dst v) w':=by
  intro w' σ' v hD hg hv;exact fin m _ w' σ' β hm (keepD hD) hmP (fun d hd=>FX hd) (Ai hdn hsz hdf (hS.grow hg) (hR.T.mono hg.near (Keep.refl _ _)) hv) (Step.oQ hg) (Keep.refl _ _)
 have hDs:fJ E o.op=true->∀j x,R[j]? =some x->fJ E x.op=true->(j=p->¬mP E R p listed)->(listed.getD j false=true<->j<i):=by
  intro hD j x hx qy hjp;by_cases e:j=i
  ·subst e;rw[MJ];simp
  ·exact hdone j x hx e hjp (by simp[lY,hD,qy])
 have hsame:fJ E o.op=true->(st m).st=(st i).st:=by
  intro hD
  have hno:∀j x,R[j]? =some x->(i<=j/\j<m\/m<=j/\j<i)->fJ E x.op=false:=by
   intro j x hx hj
   cases qy:fJ E x.op with
   |false=>rfl
   |true=>
    have hjp:j=p->¬mP E R p listed:=fun e hP=>by
     have:=NM hP hD;have:=hmP hP;omega
    have h1:=hDs hD j x hx qy hjp;have h2:=hmD j x hx qy hjp;rcases hj with hj|hj
    ·have:=h1.1 (h2.2 hj.2);omega
    ·have:=h2.1 (h1.2 hj.2);omega
  rcases Nat.le_total i m with h|h
  ·have:=Dm hT (i:=i) (m-i) (by omega) (fun j x h1 h2 h3=>hno j x h3 (.inl ⟨h1,by omega⟩))
   rwa [show i+(m-i)=m from by omega] at this
  ·have:=Dm hT (i:=m) (i-m) (by omega) (fun j x h1 h2 h3=>hno j x h3 (.inr ⟨h1,by omega⟩));rw[show m+(i-m)=i from by omega] at this;exact this.symm
 have Y8:fJ E o.op=true->∀j x,R[j]? =some x->fJ E x.op=true->(j=p->¬mP E R p listed)->((listed.setIfInBounds i true).getD j false=true<->j<i+1):=by
  intro hD j x hx qy hjp;by_cases e:j=i
  ·subst e;rw[hset];simp
  ·rw[getD_set_ne false (Ne.symm e),hDs hD j x hx qy hjp];omega
 have hiP:fJ E o.op=true->mP E R p listed->i+1<=p:=fun hD hP=>NM hP hD;unfold wpOp;rw[ho]
 simp only
 have hRR:jN N ⟨qH,(st m).st⟩ a w σ β:=hR;rcases ht with⟨hg,hv,hs'⟩|⟨hg,hD,hv,hs'⟩|⟨hg,hD,hx,hs',_⟩
 ·
  have hw:Region.wanted o (yielded R a.tmps)=false:=by
   rw[<-hgd] at hg;unfold gd at hg;split at hg
   ·cases hg
   ·rename_i j want hgu;split at hg
    ·rename_i x hx;have hy:=AO (s:=⟨qH,(st m).st⟩) hRR hx
     have hne:x≠want:=by
      intro e;rw[e] at hg;simp at hg
     simp[Region.wanted,hgu,hy,hne]
    ·rename_i hx;have hy:=Fe (s:=⟨qH,(st m).st⟩) hRR hx;simp[Region.wanted,hgu,hy]
    ·cases hg
  rw[if_neg (by rw[hw];simp)]
  have hvu:dP w σ (st m).st β (vs i) undef:=by rw[hv];exact vT
  by_cases hD:fJ E o.op=true
  ·have hsm:=hsame hD
   have hs1:(st (i+1)).st=(st m).st:=by rw[hsm,hs'];cases o.dst<;>rfl
   refine fin (i+1) _ w σ β hlt (Y8 hD) (hiP hD) (fun d hd=>FX hd) (by rw[hs1];exact Ai hdn hsz hdf hS hR.T hvu) (by rw[hs1];exact Step.oQ (Grow.refl hS.live)) (by rw[hs1];exact Keep.refl _ _)
  ·exact quiet w σ undef (by simpa using hD) (Grow.refl hS.live) hvu
 all_goals
  have hw:Region.wanted o (yielded R a.tmps)=true:=by
   rw[<-hgd] at hg;unfold gd at hg;split at hg
   ·rename_i hgu;simp[Region.wanted,hgu]
   ·rename_i j want hgu;split at hg
    ·rename_i x hx;have hy:=AO (s:=⟨qH,(st m).st⟩) hRR hx;simp at hg;simp[Region.wanted,hgu,hy,hg]
    ·cases hg
    ·cases hg
  rw[if_pos hw];left
 ·
  rcases hv with⟨c,hc,hcn⟩|⟨hcond,hval⟩
  ·have hcn':=ab1 (tm':=qH) (fun x hx=>hev x (by rw[hc];exact hx)) hcn;unfold Ea at hcn';split at hcn'
   ·rename_i x hcx;split at hcn'
    ·rename_i f caps hex
     have hcall:mM P c ⟨qH,(st m).st⟩ o.dst (fun t=>t=St.put ⟨qH,(st m).st⟩ o.dst (vs i)):=by
      unfold mM;rw[hcx];simp only[hex];exact .inl ⟨_,hcn' (st m).st,fun r S' hp=>by rw[hp.1,hp.2]⟩
     refine Oper.wp_mono ?_ (Oper.Y5 (Kq (Q:=Q) hc hdn hRR hcall));rintro a' w' ⟨⟨s'',σ',β',hR',hst',xS,hK⟩,ha'⟩;subst hK;rw[kV] at hst' xS;exact fin m a' w' σ' β' hm (keepD hD) hmP ha' hR' hst' xS
    ·exact hcn'.elim
   ·exact hcn'.elim
  ·have hcv:jv o.op=false:=by
    cases hc:jv o.op with
    |false=>rfl
    |true=>
     exfalso;unfold jv at hc;split at hc
     ·rename_i x b c hop;rw[hop] at hcond;exact gZ hcond
     ·cases hc
   have aff:∀k,refs (st i).tm o k->∀j x,R[j]? =some x->(i<=j/\j<m\/m<=j/\j<i)->j6 E x.op=false\/bA (st (j+1)).st k=bA (st j).st k:=by
    intro k hk j x hx hj
    cases hs:j6 E x.op with
    |false=>exact .inl rfl
    |true=>
     have qy:fJ E x.op=true:=Y2 hs
     have hji:j≠i:=fun e=>by rw[e,ho] at hx;cases hx;rw[hD] at qy;cases qy
     rcases hok.store j i x o hji hx ho hs hD hcv with hb|hb
     ·have h1:=hbit j x hx hji hb
      have h2:=hmD j x hx qy (fun e=>by
       subst e;have:=(uf (E:=E) (hok.pend x hx).1).2.1
       rw[hs] at this;cases this)
      rcases hj with hj|hj
      ·have:=h1.1 (h2.2 hj.2);omega
      ·have:=h2.1 (h1.2 hj.2);omega
     ·exact .inr (hb k hk)
   have e1:=afP (P:=P) (S:=(st i).st) (tm:=(st i).tm) (tm':=qH) (op:=o.op) hev;rw[e1] at hcond hval
   have e2:mK P (oh (st i).st) (st m).st qH o.op=mK P (oh (st i).st) (st i).st qH o.op:=by
    cases hmv:Wj o.op with
    |true=>exact ab8 hmv
    |false=>
     exact ab2 (P:=P) (l:=oh (st i).st) (S:=(st i).st) (S':=(st m).st) (tm:=qH) (op:=o.op) hcond (by
     intro x hx k hk ob YX hbr;have hrf:refs (st i).tm o k:=⟨hmv,x,hx,by rw[hev x hx];exact hk⟩;rcases Nat.le_total i m with h|h
     ·have hds:=Wh hT (i:=i) (k:=k) (m-i) (by omega) (fun j x h1 h2 h3=>aff k hrf j x h3 (.inl ⟨h1,by omega⟩));rw[show i+(m-i)=m from by omega] at hds;rcases hds ob YX with h'|⟨⟨z,es,e⟩,_⟩
      ·exact h'
      ·rcases e with e|⟨_,e⟩<;>rw[e] at hbr<;>exact hbr.elim
     ·have hds:=Wh hT (i:=m) (k:=k) (i-m) (by omega) (fun j x h1 h2 h3=>aff k hrf j x h3 (.inr ⟨h1,by omega⟩));rw[show m+(i-m)=i from by omega] at hds;have hrx:=jI (a:=a) hR.T x
      have hin:∃o',bA (st m).st k=some o':=by
       rcases hk with⟨off,e⟩|⟨i',off,e⟩|e|e|⟨r',p',e⟩|⟨r',p',z',i',off,e⟩<;>rw[show ev (⟨qH,(st m).st⟩:St).tm x=ev qH x from rfl,e] at hrx<;>obtain⟨⟨o',ho',_⟩,_⟩:=hrx<;>exact⟨o',ho'⟩
      obtain⟨o',ho'⟩:=hin;rcases hds o' ho' with h'|⟨_,o2,z,es,h',e⟩
      ·rw[YX] at h';cases h';exact ho'
      ·rw[YX] at h';cases h'
       rcases e with e|⟨_,e⟩<;>rw[e] at hbr<;>exact hbr.elim)
   have ahQ:(mK P (oh (st i).st) (st m).st qH o.op).1:=by rw[e2];exact hcond
   have hval':vs i=(mK P (oh (st i).st) (st m).st qH o.op).2:=by rw[e2];exact hval
   obtain⟨v,w',σ',hrun,hgr,Fb⟩:=Iw (P:=P) _ o hS hR.T ahQ;unfold Oper.wp;rw[hrun];exact quiet w' σ' v hD hgr (by rw[hval'];exact Fb)
 ·have hsm:=hsame hD
  have hx':dA P o ⟨(st i).tm,(st i).st⟩ (fun t=>t=St.put ⟨(st i).tm,(st (i+1)).st⟩ o.dst (vs i)):=by
   rw[hs'] at hx;exact hx
  have hx2:=ab0 hD hev hx';rw[<-hsm] at hx2;refine Oper.wp_mono ?_ (Oper.Y5 (D8 (Q:=Q) hdn hRR hx2));rintro a' w' ⟨⟨s'',σ',β',hR',hst',xS,hK⟩,ha'⟩;subst hK;rw[kV] at hst' xS;exact fin (i+1) a' w' σ' β' hlt (Y8 hD) (hiP hD) ha' hR' hst' xS
theorem afU{st:Nat->St}{vs:Nat->V}{β0:Hs}{σ0:Nat->Nat}{w0:World}{Q:Exit->Act->World->Prop}{p:Nat}(hok:Ky E R N st p)
 (hT:∀i,i<R.size->∃o,R[i]? =some o/\lH P E R o (st i) (vs i) (st (i+1)))(hQ:∀listed a w,Mid P N E R p st vs β0 σ0 w0 listed a w->(∀i,i<R.size->listed.getD i false=true)->Q .normal a w):
 ∀(fuel:Nat)(listed:Array Bool)(a:Act)(w:World),(List.range R.size).countP (fun i=> !listed.getD i false)<=fuel->Mid P N E R p st vs β0 σ0 w0 listed a w->wpAny P .any R Q fuel listed a w:=by
 have hend:∀listed a w,Mid P N E R p st vs β0 σ0 w0 listed a w->Region.ready .any R listed=[]->Q .normal a w:=by
  intro listed a w hM hr;refine hQ listed a w hM ?_;intro i
  induction i using Nat.strongRecOn with
  |_ i ih=>
   intro hi
   cases hE:listed.getD i false with
   |true=>rfl
   |false=>
    exfalso;have ho:R[i]? =some R[i]:=Array.getElem?_eq_getElem hi
    have:i∈Region.ready .any R listed:=by
     rw[mem_ready]
     have hs:i<listed.size:=by rw[hM.size];exact hi
     refine⟨by simp[hs] at hE ⊢;exact hE,_,ho,fun e he hb=> ?_⟩;have hon:=hok.edge i _ e ho he hb;exact ih e.on hon (by omega)
    rw[hr] at this;simp at this
 intro fuel
 induction fuel with
 |zero=>
  intro listed a w hc hM
  have hnone:Region.ready .any R listed=[]:=by
   cases hr:Region.ready .any R listed with
   |nil=>rfl
   |cons i l=>
    exfalso
    have hi:i∈Region.ready .any R listed:=by rw[hr];simp
    obtain⟨hun,o,ho,_⟩:=mem_ready.1 hi;have hlt:=(Array.getElem?_eq_some_iff.1 ho).1
    have hs:i<listed.size:=by rw[hM.size];exact hlt
    have hz:(List.range R.size).countP (fun i=> !listed.getD i false)=0:=by omega
    rw[List.countP_eq_zero] at hz;have:=hz i (List.mem_range.2 hlt);simp[hs] at hun this;rw[hun] at this;cases this
  exact⟨hnone,hend listed a w hM hnone⟩
 |succ fuel ih=>
  intro listed a w hc hM;refine⟨hend listed a w hM,fun i hi=> ?_⟩;refine wpOp_mono (fun a' w' hM'=>ih _ a' w' ?_ hM') (mid_step hok hT hM hi);obtain⟨hun,o,ho,_⟩:=mem_ready.1 hi;have hlt:=(Array.getElem?_eq_some_iff.1 ho).1
  have hs:i<listed.size:=by rw[hM.size];exact hlt
  have:=cnt_lt (fun j=> !listed.getD j false) (fun j=> !(listed.setIfInBounds i true).getD j false) (List.range R.size) i (fun x hx=>by
   by_cases e:x=i
   ·subst e;simp[hs] at hx
   ·rw[getD_set_ne false (Ne.symm e)] at hx;exact hx) (List.mem_range.2 hlt) (by simp[hs] at hun ⊢;exact hun) (by simp[hs])
  omega
theorem AR{id:Nat}{Q:Exit->St->Prop}{s:St}(fu:P.follows .mixedOrders=true){st:Nat->St}{vs:Nat->V}(h0:st 0=s)(hK:Q .normal (st R.size))
 (hT':∀i,i<R.size->∃o,R[i]? =some o/\lH P E R o (st i) (vs i) (st (i+1))){p:Nat}(hok:Ky E R N st p):AW P N (.region id R true) Q s:=by
 intro a w σ β hR;refine wp_region_any fu ?_;have hgd:Grow w σ {w with drawn:=w.drawn+1} σ:=⟨Nat.le_refl _,rfl,rfl,fun _ _=>⟨rfl,rfl⟩,hR.S.live⟩;refine afU (N:=N) (β0:=β) (σ0:=σ) (w0:=w) hok hT' (fun listed a' w' hM hall=> ?_) R.size _ a _ ?_ ?_
 ·obtain⟨m,hm,hmD,σ',β',hsz,hdf,hS,hT2,hst,hkp,_⟩:=hM.rep
  have hnP:¬mP E R p listed:=by
   rintro⟨_,_,j,x,hj,hx,_,hl⟩;rw[hall j (Array.getElem?_eq_some_iff.1 hx).1] at hl;cases hl
  have hsm:(st R.size).st=(st m).st:=by
   have:=Dm hT' (i:=m) (R.size-m) (by omega) (fun j x h1 h2 h3=>by
    cases qy:fJ E x.op with
    |false=>rfl
    |true=>have:=(hmD j x h3 qy (fun _=>hnP)).1 (hall j (Array.getElem?_eq_some_iff.1 h3).1);omega)
   rwa [show m+(R.size-m)=R.size from by omega] at this
  rw[h0] at hst hkp;refine⟨st R.size,σ',β',⟨hsz,hdf,by rw[hsm];exact hS,fun t=> ?_⟩,by rw[hsm];exact hst,by rw[hsm];exact hkp.tail,hK⟩;rw[yZ hT' t R.size (Nat.le_refl _),hsm];have:=hT2 t;unfold tH at this;rw[if_neg (fun h=>hnP h.1)] at this;rw[yI (E':=fun _=>true) R.size (fun j hj _=>hall j hj)] at this;exact this
 ·calc (List.range R.size).countP _<=(List.range R.size).length:=List.countP_le_length
   _=R.size:=List.length_range
 ·refine⟨by simp,fun i o e ho hE _ _=> ?_,0,Nat.zero_le _,fun i o ho _=> ?_,σ,β,hR.size,hR.defers,by rw[h0];exact hR.S.grow hgd,fun t=> ?_,by rw[h0];exact Step.oQ hgd,Keep.refl _ _,fun h=>by have h1:=h.1;rw[getD_replicate_false] at h1;cases h1⟩
  ·rw[getD_replicate_false] at hE;cases hE
  ·rw[getD_replicate_false];simp
  ·have:kN R vs (fun i=>(Array.replicate R.size false).getD i false) (st 0).tm R.size t=look (st 0).tm t:=by
    have:=CJ (R:=R) (vs:=vs) (E:=fun i=>(Array.replicate R.size false).getD i false) (base:=(st 0).tm) (t:=t) (i:=0) R.size (fun j _ _=>by rw[getD_replicate_false];simp);rw[this,Nat.min_zero];rfl
   unfold tH;rw[if_neg (fun h=>by have h1:=h.1.1;rw[getD_replicate_false] at h1;cases h1),this,h0];exact(hR.T t).mono hgd.near (Keep.refl _ _)
theorem afV{id:Nat}{Q:Exit->St->Prop}{s:St}(fu:P.follows .mixedOrders=true)(hok:yX E R N=true)(h:rH P E R R.toList s (Q .normal)):AW P N (.region id R true) Q s:=by
 obtain⟨st,vs,h0,hK,hT⟩:=Ed R.size 0 (by omega) s h;exact AR fu h0 hK (fun i hi=>hT i (Nat.zero_le i) hi) (ahJ hok)
theorem ach{id p:Nat}{Q:Exit->St->Prop}{s:St}(fu:P.follows .mixedOrders=true)(hok:Dl E R N p=true)(h:rH P E R R.toList s (Q .normal)):AW P N (.region id R true) Q s:=by
 obtain⟨st,vs,h0,hK,hT⟩:=Ed R.size 0 (by omega) s h;exact AR fu h0 hK (fun i hi=>hT i (Nat.zero_le i) hi) (afT hok)
theorem Wn{id:Nat}{Q:Exit->St->Prop}{s:St}(fu:P.follows .mixedOrders=true)(hok:MH R N=true)(h:rH P (Kw R N) R R.toList s (Q .normal)):AW P N (.region id R true) Q s:=by
 unfold MH at hok;rw[Bool.or_eq_true] at hok;rcases hok with hok|hok
 ·exact afV fu hok h
 ·split at hok
  ·exact ach fu hok h
  ·cases hok
theorem Wo{v w:V}(h:Wd v w=true){k k':Key}(hv:(∃off,v=.c (.ptr k' off))\/(∃i off,v=.c (.kR k' i off))\/∃r p z i off,v=.c (.xq k' r p z i off))
 (hw:Hu w k):k'≠k:=by
 rintro rfl;rcases hv with⟨_,rfl⟩|⟨_,_,rfl⟩|⟨_,_,_,_,_,rfl⟩<;>rcases hw with⟨_,rfl⟩|⟨_,_,rfl⟩|rfl|rfl|⟨_,_,rfl⟩|⟨_,_,_,_,_,rfl⟩<;>simp[Wd] at h
theorem IG{o:Oper}{t:TypeId}{a y:Operand}{s s':St}{v:V}(hop:o.op=.store t a y)(h:lH P E R o s v s'){k:Key}
 (hk:∀k',((∃off,ev s.tm a=.c (.ptr k' off))\/(∃i off,ev s.tm a=.c (.kR k' i off))\/∃r p z i off,ev s.tm a=.c (.xq k' r p z i off))->k'≠k):bA s'.st k=bA s.st k:=by
 rcases h with⟨_,_,h⟩|⟨_,_,_,h⟩|⟨_,_,h,_,_⟩
 ·rw[h];cases o.dst<;>rfl
 ·rw[h];cases o.dst<;>rfl
 ·obtain⟨dst,op,ty,pos,after,guard⟩:=o;subst hop;simp only[dA,tX] at h;split at h
  ·rename_i k' off he;split at h
   ·obtain⟨_,_,_,h4⟩:=h;rw[<-h4,kV];exact eZ _ _ _ _ (hk k' (.inl ⟨_,he⟩))
   ·exact h.elim
  ·rename_i k' i off he;split at h
   ·obtain⟨_,_,_,_,h5⟩:=h;rw[<-h5,kV];exact eZ _ _ _ _ (hk k' (.inr (.inl ⟨_,_,he⟩)))
   ·exact h.elim
  ·rename_i k' r p z i off he;split at h
   ·split at h
    ·split at h
     ·obtain⟨_,_,_,_,_,h6⟩:=h;rw[<-h6,kV];exact eZ _ _ _ _ (hk k' (.inr (.inr ⟨_,_,_,_,_,he⟩)))
     ·exact h.elim
    ·exact h.elim
   ·exact h.elim
  ·exact h.elim
theorem zY{st:Nat->St}{vs:Nat->V}(hT:∀i,i<R.size->∃o,R[i]? =some o/\lH P E R o (st i) (vs i) (st (i+1))){i:Nat}(hi:i<=R.size){a:Operand}(h:settled R i a=true):
 ev (st R.size).tm a=ev (st i).tm a:=by
 cases a with
 |tmp t=>
  show look _ t=look _ t
  have key:∀n,i+n<=R.size->look (st (i+n)).tm t=look (st i).tm t:=by
   intro n
   induction n with
   |zero=>intro _;rfl
   |succ n ih=>
    intro hn;rw[yZ hT t (i+(n+1)) hn,show i+(n+1)=i+n+1 from rfl,kN,if_neg,<-yZ hT t (i+n) (by omega),ih (by omega)];rintro⟨_,hd⟩;have:=List.all_eq_true.1 h (i+n) (List.mem_range.2 (by omega));rw[hd] at this;simp at this;omega
  have:=key (R.size-i) (by omega)
  rwa [show i+(R.size-i)=R.size from by omega] at this
 |_=>rfl
theorem NN{st:Nat->St}{vs:Nat->V}{p:Nat}(hed:∀(i:Nat)(o:Oper),R[i]? =some o->(o.after.toList.all (fun e=> !Region.binds .any e||decide (e.on<i))&&(match o.dst with|some d=>decide (d<N)|none=>true))=true)
 (xK:∀o,R[p]? =some o->xV o.op=true/\o.guard=none/\(∃d,o.dst=some d)/\∀j y,j≠p->R[j]? =some y->y.apart R o=false->∀i x,i<p->R[i]? =some x->fJ E x.op=true->i<j/\((masks R.toList []).getD j 0).testBit i=true)
 (hp:∀(i j:Nat) (x y:Oper),i<j->R[i]? =some x->R[j]? =some y->((masks R.toList []).getD j 0).testBit i=true\/(x.apart R y=true/\(j=p\/((fJ E x.op&&fJ E y.op)=false/\(j6 E x.op=true->sj R i x j y=true)/\(j6 E y.op=true->sj R j y i x=true)))))
 (hT:∀i,i<R.size->∃o,R[i]? =some o/\lH P E R o (st i) (vs i) (st (i+1)))(hl:Hw E R (st R.size).tm=true):Ky E R N st p:=by
 refine⟨?_,?_,?_,?_,xK⟩
 ·intro i o e ho he hb;have h2:=hed i o ho;simp only[Bool.and_eq_true] at h2;have h3:=List.all_eq_true.1 h2.1 e (by simpa using he);simpa [hb] using h3
 ·intro i o ho d hd;have h2:=hed i o ho;simp only[Bool.and_eq_true,hd] at h2;simpa using h2.2
 ·intro i j x y hij hx hy hc;rcases hp i j x y hij hx hy with h|⟨h1,h⟩
  ·exact .inl h
  ·unfold lY at hc;rw[h1] at hc;simp only[Bool.not_true,Bool.false_or] at hc;rcases h with h|⟨h,_⟩
   ·rw[Bool.and_eq_true] at hc;exact .inr ⟨h,hc.1,h1⟩
   ·rw[hc] at h;cases h
 ·intro i j x o hij hx ho hs hD hc
  have hjp:j≠p:=fun e=>by
   subst e;have:=(uf (E:=E) (xK o ho).1).1;rw[hD] at this;cases this
  have NM:i≠p:=fun e=>by
   subst e;have:=(uf (E:=E) (xK x hx).1).2.1;rw[hs] at this;cases this
  cases hb:rJ R i j with
  |true=>exact .inl rfl
  |false=>
   refine .inr ?_;rintro k ⟨_,z,hz,hk⟩;have hi:i<R.size:=(Array.getElem?_eq_some_iff.1 hx).1;have hj:j<R.size:=(Array.getElem?_eq_some_iff.1 ho).1
   have hlo:sj R i x j o=true:=by
    unfold rJ at hb;by_cases e:i<j
    ·rw[if_pos e] at hb;rcases hp i j x o e hx ho with h|⟨_,h|⟨_,h,_⟩⟩
     ·rw[hb] at h;cases h
     ·exact absurd h hjp
     ·exact h hs
    ·rw[if_neg e] at hb;rcases hp j i o x (by omega) ho hx with h|⟨_,h|⟨_,_,h⟩⟩
     ·rw[hb] at h;cases h
     ·exact absurd h NM
     ·exact h hs
   unfold sj at hlo;rw[hc,Bool.false_or] at hlo;split at hlo
   ·rename_i t a y hop;rw[Bool.and_eq_true] at hlo
    have hz':z∈o.op.operands.toList:=by simpa using hz
    have hsz:=List.all_eq_true.1 hlo.2 z hz';have h1:=List.all_eq_true.1 hl i (List.mem_range.2 hi);rw[hx] at h1;simp only[hs,Bool.not_true,Bool.false_or,hop] at h1;have h2:=List.all_eq_true.1 h1 j (List.mem_range.2 hj);rw[ho] at h2;simp only[hb,hD,hc,Bool.false_or] at h2;have h3:=List.all_eq_true.1 h2 z hz';obtain⟨x',hx',ht⟩:=hT i hi;rw[hx] at hx';cases hx';refine IG hop ht fun k' hk'=> ?_;rw[zY hT (by omega) hlo.1,zY hT (by omega) hsz] at h3;exact Wo h3 hk' hk
   ·cases hlo
theorem Ef{f:Nat->Nat->Oper->Oper->Bool}(h:((List.range R.size).all fun j=>
 (match R[j]? with
  |some o=>o.after.toList.all (fun e=> !Region.binds .any e||decide (e.on<j))&&(match o.dst with|some d=>decide (d<N)|none=>true)
  |none=>true)&&
 (List.range j).all fun i=>
   match R[i]?,R[j]? with
   |some x,some y=>((masks R.toList []).getD j 0).testBit i|| !(f i j x y)
   |_,_=>true)=true):
 (∀(i:Nat) (o:Oper),R[i]? =some o->(o.after.toList.all (fun e=> !Region.binds .any e||decide (e.on<i))&&(match o.dst with|some d=>decide (d<N)|none=>true))=true)/\
 ∀(i j:Nat)(x y:Oper),i<j->R[i]? =some x->R[j]? =some y->((masks R.toList []).getD j 0).testBit i=true\/f i j x y=false:=by
 refine⟨fun i o ho=> ?_,fun i j x y hij hx hy=> ?_⟩
 ·have hj:i<R.size:=(Array.getElem?_eq_some_iff.1 ho).1;have h1:=List.all_eq_true.1 h i (List.mem_range.2 hj);rw[Bool.and_eq_true,ho] at h1;exact h1.1
 ·have hj:j<R.size:=(Array.getElem?_eq_some_iff.1 hy).1;have h1:=List.all_eq_true.1 h j (List.mem_range.2 hj);rw[Bool.and_eq_true] at h1;have h2:=List.all_eq_true.1 h1.2 i (List.mem_range.2 hij);rw[hx,hy] at h2;simp only[Bool.or_eq_true,Bool.not_eq_true'] at h2;exact h2
theorem aci{st:Nat->St}{vs:Nat->V}(hok:Dk E R N=true)(hT:∀i,i<R.size->∃o,R[i]? =some o/\lH P E R o (st i) (vs i) (st (i+1)))(hl:Hw E R (st R.size).tm=true):Ky E R N st R.size:=by
 obtain⟨h1,h2⟩:=Ef (f:=fun i j x y=>lY E R x y||(j6 E x.op&& !(sj R i x j y))||(j6 E y.op&& !(sj R j y i x))) hok;refine NN h1 (fun o ho=>by rw[Array.getElem?_eq_none (Nat.le_refl _)] at ho;cases ho) (fun i j x y hij hx hy=>(h2 i j x y hij hx hy).imp id fun h=> ?_) hT hl;simp only[lY,Bool.or_eq_false_iff,Bool.not_eq_false',Bool.and_eq_false_imp] at h;obtain⟨⟨⟨q1,q2⟩,q3⟩,q4⟩:=h;refine⟨q1,.inr ⟨?_,q3,q4⟩⟩
 cases hx:fJ E x.op with
 |false=>rfl
 |true=>rw[q2 hx];rfl
theorem Y9{st:Nat->St}{vs:Nat->V}{p:Nat}(hok:Eb E R N p=true)(hT:∀i,i<R.size->∃o,R[i]? =some o/\lH P E R o (st i) (vs i) (st (i+1)))(hl:Hw E R (st R.size).tm=true):Ky E R N st p:=by
 unfold Eb at hok;rw[Bool.and_eq_true] at hok;obtain⟨h1,h2⟩:=Ef (f:=fun i j x y=> !(x.apart R y)||(!(decide (j=p))&&((fJ E x.op&&fJ E y.op)||(j6 E x.op&& !(sj R i x j y))||(j6 E y.op&& !(sj R j y i x))))) hok.2;refine NN h1 (MI hok.1) (fun i j x y hij hx hy=>(h2 i j x y hij hx hy).imp id fun h=> ?_) hT hl;rw[Bool.or_eq_false_iff,Bool.not_eq_false'] at h;refine⟨h.1,?_⟩;by_cases e:j=p
 ·exact .inl e
 ·have h3:=h.2;simp only[e,decide_false,Bool.not_false,Bool.true_and,Bool.or_eq_false_iff] at h3;obtain⟨⟨q2,q3⟩,q4⟩:=h3;exact .inr ⟨q2,fun hx=>by rw[hx] at q3;simpa using q3,fun hy=>by rw[hy] at q4;simpa using q4⟩
theorem QF{id:Nat}{Q:Exit->St->Prop}{s:St}(fu:P.follows .mixedOrders=true)(hok:Dk E R N=true)(h:rH P E R R.toList s (fun s'=>Hw E R s'.tm=true/\Q .normal s')):AW P N (.region id R true) Q s:=by
 obtain⟨st,vs,h0,hK,hT⟩:=Ed R.size 0 (by omega) s h;have hT':=fun i hi=>hT i (Nat.zero_le i) hi;exact AR fu h0 hK.2 hT' (aci hok hT' hK.1)
theorem Tf{id:Nat}{Q:Exit->St->Prop}{s:St}(fu:P.follows .mixedOrders=true)(hok:Jq R N=true)(h:rH P (su R N) R R.toList s (fun s'=>Hw (su R N) R s'.tm=true/\Q .normal s')):AW P N (.region id R true) Q s:=by
 unfold Jq at hok;rw[Bool.or_eq_true] at hok;rcases hok with hok|hok
 ·exact QF fu hok h
 ·split at hok
  ·obtain⟨st,vs,h0,hK,hT⟩:=Ed R.size 0 (by omega) s h;have hT':=fun i hi=>hT i (Nat.zero_le i) hi;exact AR fu h0 hK.2 hT' (Y9 hok hT' hK.1)
  ·cases hok
end
section
variable {P:Program} {w w':World} {σ σ':Nat->Nat} {S S':Store} {β β':Hs} {N:Nat} {s:St} {a:Act}
theorem l9{c:Code}{Q:Exit->St->Prop}{s s':St}(h:AW P N c Q s')
 (hg:∀(a:Act) (w:World) (σ:Nat->Nat) (β:Hs),jN N s a w σ β->∃σ' β',jN N s' a w σ' β'/\Step s.st β σ w s'.st β' σ' w/\Keep (gF s.st) (gF β) (gF s'.st) (gF β')):AW P N c Q s:=by
 intro a w σ β hR;obtain⟨σ',β',hR',hst,hk⟩:=hg a w σ β hR;refine wp_mono (h a w σ' β' hR') ?_;rintro e a' w' ⟨s'',Au,β'',k1,k2,k3,k4⟩;exact⟨s'',Au,β'',k1,hst.trans k2,hk.trans k3,k4⟩
def gN(N:Nat)(s s':St):Prop:=∀(a:Act)(w:World)(σ:Nat->Nat)(β:Hs),jN N s a w σ β->∃σ' β',jN N s' a w σ' β'/\Step s.st β σ w s'.st β' σ' w/\Keep (gF s.st) (gF β) (gF s'.st) (gF β')
theorem gN.refl(N:Nat)(s:St):gN N s s:=fun a w σ β hR=>⟨σ,β,hR,Step.oQ (Grow.refl hR.S.live),Keep.refl _ _⟩
theorem gN.trans{s s' s'':St}(h:gN N s s')(k:gN N s' s''):gN N s s'':=fun a w σ β hR=>by
 obtain⟨σ1,β1,r1,st1,k1⟩:=h a w σ β hR;obtain⟨σ2,β2,r2,st2,k2⟩:=k a w σ1 β1 r1;exact⟨σ2,β2,r2,st1.trans st2,k1.trans k2⟩
theorem Jr{tm tm':List (Nat×V)}(hl:∀t,look tm' t=look tm t\/look tm' t=.any):gN N ⟨tm,S⟩ ⟨tm',S⟩:=
 fun a w σ β hR=>⟨σ,β,⟨hR.size,hR.defers,hR.S,fun t=>by
  rcases hl t with e|e
  ·show dP w σ S β (look tm' t) _;rw[e];exact hR.T t
  ·show dP w σ S β (look tm' t) _;rw[e];trivial⟩,Step.oQ (Grow.refl hR.S.live),Keep.refl _ _⟩
theorem Wp{c:Code}{Q:Exit->St->Prop}{tm tm':List (Nat×V)}(h:AW P N c Q ⟨tm',S⟩)(hl:∀t,look tm' t=look tm t\/look tm' t=.any):AW P N c Q ⟨tm,S⟩:=
 l9 h fun a w σ β hR=>⟨σ,β,⟨hR.size,hR.defers,hR.S,fun t=>by
  rcases hl t with e|e
  ·show dP w σ S β (look tm' t) _;rw[e];exact hR.T t
  ·show dP w σ S β (look tm' t) _;rw[e];trivial⟩,Step.oQ (Grow.refl hR.S.live),Keep.refl _ _⟩
def C.ug:C->C
 | .bS _ es=>.d (.sl es)
 | .bI es=>.d (.sl es)
 |c=>c
def V.ug:V->V
 | .c x=>.c x.ug
 | .agg cs=>.agg (cs.map C.ug)
 |v=>v
theorem QG{c:C}{v:Value}(h:gJ w σ S β c v):gJ w σ S β c.ug v:=by
 cases c with
 |bS k es=>exact h.1
 |bI es=>exact h.1
 |_=>exact h
theorem QH{x:V}{v:Value}(h:dP w σ S β x v):dP w σ S β x.ug v:=by
 cases x with
 |c x=>exact⟨QG h.1,h.2⟩
 |agg cs=>
  obtain⟨ar,ha,hl,hc⟩:=h;refine⟨ar,ha,by simpa using hl,fun j x hx=> ?_⟩;rw[List.getElem?_map] at hx
  cases hcj:cs[j]? with
  |none=>rw[hcj] at hx;cases hx
  |some y=>
   rw[hcj] at hx;cases hx;obtain⟨v,hv,hr,ho⟩:=hc j y hcj;exact⟨v,hv,QG hr,ho⟩
 |_=>exact h
theorem cB.weaken{f:FuncId}{args args':List V}{post:V->Store->Prop}(h:cB P f args' S post)(hl:args.length=args'.length)
 (hw:∀(j:Nat) (x y:V),args[j]? =some x->args'[j]? =some y->∀w σ β v,dP w σ S β x v->dP w σ S β y v):cB P f args S post:=by
 refine⟨h.1,fun w σ β vs hS hv=>h.2 w σ β vs hS ⟨by rw[<-hl];exact hv.1,fun j y hy=> ?_⟩⟩;have hj:=(List.getElem?_eq_some_iff.1 hy).1;have hx:args[j]? =some (args[j]'(by omega)):=List.getElem?_eq_getElem (by omega);obtain⟨v,h1,h2⟩:=hv.2 j _ hx;exact⟨v,h1,hw j _ y hx hy w σ β v h2⟩
theorem cB.ug{f:FuncId}{args:List V}{post:V->Store->Prop}(h:cB P f (args.map V.ug) S post):cB P f args S post:=
 h.weaken (by simp) fun j x y hx hy w σ β v hr=>by
  rw[List.getElem?_map,hx] at hy;cases hy;exact QH hr
theorem cB.mono{f:FuncId}{args:List V}{post post':V->Store->Prop}(h:cB P f args S post)(hp:∀r S',post r S'->post' r S'):cB P f args S post':=
 ⟨h.1,fun w σ β vs hS hv=>(h.2 w σ β vs hS hv).mono fun e w' ⟨v,r,S',σ',β',h1,h2,h3,h4,h5,h6⟩=>⟨v,r,S',σ',β',h1,h2,h3,h4,h5,hp _ _ h6⟩⟩
theorem Eh{f:FuncId}{args:List V}{s:St}{dst:Option Nat}{K:St->Prop}{r:V}(h:bg P f (args.map V.ug) r)(hK:K (St.put s dst r)):yG P f args s dst K:=
 .inl ⟨_,(h s.st).ug,fun r' S' hp=>by rw[hp.1,hp.2];exact hK⟩
theorem iZ{c:Code}{Q:Exit->St->Prop}{tm:List (Nat×V)}{own:List Obj}{Ω:Store}(t bB:Nat)(es:List (List D))(hv:look tm t=.c (.bI es))(hes:∀e∈es,e.length=bB)
 (h:AW P N c Q ⟨(t,.c (.bS (0,own.length) es))::tm,(own++[.tok bB es])::Ω⟩):AW P N c Q ⟨tm,own::Ω⟩:=by
 refine l9 h fun a w σ β hR=> ?_;obtain⟨bo,bΩ,rfl,hlen⟩:=frames hR;have ht:=hR.T t;rw[hv] at ht;obtain⟨⟨hd,ad,n,hval⟩,hone⟩:=ht
 have hn:n=es.length:=by rw[hval] at hd;cases hd<;>rfl
 have hg:Grow w σ w σ:=Grow.refl hR.S.live
 obtain⟨hS',hk,hst⟩:=hR.S.push (o:=.tok bB es) (h:=a.tmps.getD t undef) hg hlen ⟨hd,hes,ad,n,by rw[hval,hn],by omega,.inl hn⟩ (fun b hb=>by
  rw[hval,hn] at hb
  cases ad<;>simp[owns,blk] at hb)
 refine⟨σ,_,⟨hR.size,hR.defers,hS',fun u=> ?_⟩,hst,Keep.refl _ _⟩;show dP w σ _ _ (if t=u then _ else look tm u) _;by_cases e:t=u
 ·subst e;rw[if_pos rfl];refine⟨⟨hd,_,dJ _ _ _,fun a b e=> ?_⟩,hone⟩;obtain⟨_,rfl⟩:=qj (lab:=none) e;exact⟨Nat.le_refl _,fun _=>by rw[<-hlen,dJ]⟩
 ·rw[if_neg e];exact(hR.T u).mono (eG.refl _ _) hk
theorem U1{c:Code}{Q:Exit->St->Prop}{tm:List (Nat×V)}{Ω:Store}(n:Nat)(h:AW P N c Q ⟨tm,[.seed n]::Ω⟩):AW P N c Q ⟨tm,[]::Ω⟩:=by
 refine l9 h fun a w σ β hR=> ?_;obtain⟨bo,bΩ,rfl,hlen⟩:=frames hR;obtain⟨hS',hk,hst⟩:=hR.S.push (o:=.seed n) (h:=undef) (Grow.refl hR.S.live) hlen trivial (fun b hb=>by cases hb);exact⟨σ,_,⟨hR.size,hR.defers,hS',fun u=>(hR.T u).mono (eG.refl _ _) hk⟩,hst,Keep.refl _ _⟩
theorem FZ{tm:List (Nat×V)}{own:List Obj}{Ω:Store}{m:Nat}(n:Nat):gN N ⟨tm,(.seed m::own)::Ω⟩ ⟨tm,(.seed n::own)::Ω⟩:=by
 intro a w σ β hR;obtain⟨bo,bΩ,rfl,hlen⟩:=frames hR;have h0:bA ((Obj.seed m::own)::Ω) (0,0)=some (.seed m):=rfl;obtain⟨h,hh,_⟩:=hR.S.obj (0,0) _ h0;obtain⟨hS',hk,hst⟩:=hR.S.set (o':=.seed n) (h':=h) h0 hh (Nat.le_refl _) rfl rfl (eG.refl _ _) hR.S.live (fun _ _ _=>⟨rfl,rfl⟩) (.inr ⟨n,rfl⟩) trivial (fun b hb=>by cases hb);have e:bq (bo::bΩ) (0,0) h=bo::bΩ:=FI h _ _ _ hh;rw[e] at hS' hk hst;exact⟨σ,_,⟨hR.size,hR.defers,hS',fun u=>(hR.T u).mono (eG.refl _ _) hk⟩,hst,Keep.refl _ _⟩
theorem Za{c:Code}{Q:Exit->St->Prop}{tm:List (Nat×V)}{own:List Obj}{Ω:Store}{m:Nat}(n:Nat)(h:AW P N c Q ⟨tm,(.seed n::own)::Ω⟩):AW P N c Q ⟨tm,(.seed m::own)::Ω⟩:=l9 h (FZ n)
def oP(n:Nat)(k:Key):Bool:=decide (0<k.1)||decide (k.2<n)
def C.refs(n:Nat):C->Bool
 | .bS k _=>oP n k
 | .ptr k _=>oP n k
 | .kR k _ _=>oP n k
 | .iJ k=>oP n k
 | .mp k=>oP n k
 | .fn _ caps=>caps.all fun x=>oP n x.1
 | .xp k _ _=>oP n k
 | .xq k _ _ _ _ _=>oP n k
 |_=>true
def V.refs(n:Nat):V->Bool
 | .c x=>x.refs n
 | .agg cs=>cs.all (C.refs n)
 | .eu xs=>xs.all fun y=>y.2.all (C.refs n)
 | .any=>true
def Obj.refs(n:Nat):Obj->Bool
 | .box cs=>cs.all (C.refs n)
 |_=>true
theorem jc{α:Type}{own:List α}{Ω:List (List α)}{n:Nat}{k:Key}(h:oP n k=true):bA (own.take n::Ω) k=bA (own::Ω) k:=by
 obtain⟨l,j⟩:=k
 cases l with
 |zero=>
  simp[oP] at h;rw[bL,bL,List.getElem?_take_of_lt h]
 |succ l=>rw[bX,bX]
theorem mh{α:Type}{own:List α}{Ω:List (List α)}{n:Nat}{k:Key}{o:α}(h:bA (own.take n::Ω) k=some o):bA (own::Ω) k=some o/\oP n k=true:=by
 obtain⟨l,j⟩:=k
 cases l with
 |zero=>
  rw[bL] at h ⊢;have hj:=(List.getElem?_eq_some_iff.1 h).1;simp at hj;rw[List.getElem?_take_of_lt (by omega)] at h;exact⟨h,by simp[oP];omega⟩
 |succ l=>rw[bX] at h ⊢;exact⟨h,by simp[oP]⟩
theorem F3{own:List Obj}{Ω:Store}{bo:List Value}{bΩ:Hs}{n:Nat}{c:C}{v:Value}(hr:c.refs n=true)(h:gJ w σ (own::Ω) (bo::bΩ) c v):gJ w σ (own.take n::Ω) (bo.take n::bΩ) c v:=by
 cases c with
 |d x=>exact h
 |any=>exact h
 |bI es=>exact h
 |lu cs=>exact h
 |bS k es=>
  obtain⟨h1,o,ho,h2⟩:=h;exact⟨h1,o,(jc hr).trans ho,fun a b e=>by rw[jc hr];exact h2 a b e⟩
 |ptr k off=>
  obtain⟨o,ho,h2⟩:=h;exact⟨o,(jc hr).trans ho,fun a e=>by rw[jc hr];exact h2 a e⟩
 |kR k i off=>
  obtain⟨o,ho,h2⟩:=h;exact⟨o,(jc hr).trans ho,fun a b e=>by rw[jc hr];exact h2 a b e⟩
 |iJ k=>
  obtain⟨o,ho,h2⟩:=h;exact⟨o,(jc hr).trans ho,fun a b e=>by rw[jc hr];exact h2 a b e⟩
 |mp k=>
  obtain⟨o,ho,h2⟩:=h;exact⟨o,(jc hr).trans ho,fun a e=>by rw[jc hr];exact h2 a e⟩
 |fn f caps=>
  obtain⟨vs,hv,hl,h2⟩:=h;refine⟨vs,hv,hl,fun j k off e=> ?_⟩;obtain⟨u,hu,h1c,o,ho,h3⟩:=h2 j k off e;have hk:oP n k=true:=List.all_eq_true.1 hr (k,off) (List.mem_of_getElem? e);exact⟨u,hu,h1c,o,(jc hk).trans ho,fun cs e=>by rw[jc hk];exact h3 cs e⟩
 |nG m es=>exact h
 |xp k r p=>
  obtain⟨o,ho,h2⟩:=h;exact⟨o,(jc hr).trans ho,fun a e=>by rw[jc hr];exact h2 a e⟩
 |xq k r p z i off=>
  obtain⟨o,ho,h2⟩:=h;exact⟨o,(jc hr).trans ho,fun a e=>by rw[jc hr];exact h2 a e⟩
theorem Ei{own:List Obj}{Ω:Store}{bo:List Value}{bΩ:Hs}{n:Nat}{cs:List C}{vs:List Value}(hr:cs.all (C.refs n)=true)(h:fD w σ (own::Ω) (bo::bΩ) cs vs):fD w σ (own.take n::Ω) (bo.take n::bΩ) cs vs:=
 ⟨h.1,fun j x hx=>let⟨v,hv,hc,ho⟩:=h.2 j x hx;⟨v,hv,F3 (List.all_eq_true.1 hr x (List.mem_of_getElem? hx)) hc,ho⟩⟩
theorem Zb{own:List Obj}{Ω:Store}{bo:List Value}{bΩ:Hs}{n:Nat}{x:V}{v:Value}(hr:x.refs n=true)(h:dP w σ (own::Ω) (bo::bΩ) x v):dP w σ (own.take n::Ω) (bo.take n::bΩ) x v:=by
 cases x with
 |c x=>exact⟨F3 hr h.1,h.2⟩
 |agg cs=>obtain⟨ar,ha,hc⟩:=h;exact⟨ar,ha,Ei hr hc⟩
 |eu xs=>
  obtain⟨ar,ha,hl,h2⟩:=h;refine⟨ar,ha,hl,fun j y hy=> ?_⟩;obtain⟨u,hu,h3⟩:=h2 j y hy;have hy':y.2.all (C.refs n)=true:=List.all_eq_true.1 hr y (List.mem_of_getElem? hy);refine⟨u,hu,?_⟩;obtain⟨b,cs⟩:=y
  cases b with
  |true=>obtain⟨a',e,hcs⟩:=h3;exact⟨a',e,Ei hy' hcs⟩
  |false=>
   obtain⟨x,e,hx,ho⟩:=h3;subst e;simp at hy';exact⟨x,rfl,F3 hy' hx,ho⟩
 |any=>trivial
def oo(n:Nat)(tm:List (Nat×V)):Bool:=tm.all fun x=>x.2.refs n
theorem NP{n:Nat}:∀(tm:List (Nat×V))(t:Nat),oo n tm=true->(look tm t).refs n=true
 |[],_,_=>rfl
 |(x,v)::tm,t,h=>by
  simp only[oo,List.all_cons,Bool.and_eq_true] at h;rw[look];split
  ·exact h.1
  ·exact NP tm t h.2
theorem KA{tm:List (Nat×V)}{own:List Obj}{Ω:Store}(n:Nat)(h1:oo n tm=true)(h2:(own.take n).all (Obj.refs n)=true):gN N ⟨tm,own::Ω⟩ ⟨tm,own.take n::Ω⟩:=by
 intro a w σ β hR;obtain⟨bo,bΩ,rfl,hlen⟩:=frames hR
 have hown:∀b,Own (own.take n::Ω) (bo.take n::bΩ) b->Own (own::Ω) (bo::bΩ) b:=by
  rintro b ⟨k,o,hv,e1,e2,e3⟩;exact⟨k,o,hv,(mh e1).1,(mh e2).1,e3⟩
 refine⟨σ,bo.take n::bΩ,⟨hR.size,hR.defers,⟨fun k o ho=> ?_,fun k k' o o' h1 h2 b e1 e2 e3 e4 e5 e6=> ?_,⟨by have:=hR.S.shape.1;simpa using this,fun l fr hl=> ?_⟩,hR.S.live,hR.S.wE⟩,fun t=>Zb (NP tm t h1) (hR.T t)⟩,
  ⟨Nat.le_refl _,rfl,rfl,fun _ _ _=>⟨rfl,rfl⟩,eG.refl _ _,fun b hb=>.inl (hown b hb)⟩,Keep.refl _ _⟩
 ·obtain⟨ho',hk⟩:=mh ho;obtain⟨hv,hh,hr⟩:=hR.S.obj k o ho';refine⟨hv,(jc hk).trans hh,?_⟩;obtain⟨l,j⟩:=k
  cases l with
  |zero=>
   cases o with
   |dead=>trivial
   |box cs=>
    obtain⟨b,cc,t,e,hb,hs,hc⟩:=hr;rw[bL] at ho;have hcs:cs.all (C.refs n)=true:=List.all_eq_true.1 h2 (.box cs) (List.mem_of_getElem? ho);exact⟨b,cc,t,e,hb,hs,Ei hcs hc⟩
   |tok=>exact hr
   |eP=>exact hr
   |mp=>exact hr
   |jm=>exact hr
   |seed=>exact hr
   |xf=>exact hr
  |succ l=>exact hr
 ·exact hR.S.apart k k' o o' h1 h2 b (mh e1).1 (mh e2).1 e3 (mh e4).1 (mh e5).1 e6
 ·cases l with
  |zero=>
   simp at hl;subst hl;exact⟨_,rfl,by simp[hlen]⟩
  |succ l=>exact hR.S.shape.2 (l+1) fr hl
def C.mH(j:Nat)(es:List (List D)):C->C
 | .iJ (0,i)=>if i=j then .d (.sl es) else .iJ (0,i)
 |c=>c
def V.mH(j:Nat)(es:List (List D)):V->V
 | .c x=>.c (x.mH j es)
 | .agg cs=>.agg (cs.map (C.mH j es))
 | .eu xs=>.eu (xs.map fun y=>(y.1,y.2.map (C.mH j es)))
 | .any=>.any
def Obj.mH(j:Nat)(es:List (List D)):Obj->Obj
 | .box cs=>.box (cs.map (C.mH j es))
 |o=>o
theorem Ej{f:V->V}(hf:f .any=.any):∀(tm:List (Nat×V))(t:Nat),look (tm.map fun x=>(x.1,f x.2)) t=f (look tm t)
 |[],_=>hf.symm
 |(x,v)::tm,t=>by
  show(if x=t then f v else look (tm.map fun x=>(x.1,f x.2)) t)=f (if x=t then v else look tm t);split
  ·rfl
  ·exact Ej hf tm t
def V.kE(f:C->C):V->V
 | .c x=>.c (f x)
 | .agg cs=>.agg (cs.map f)
 | .eu xs=>.eu (xs.map fun y=>(y.1,y.2.map f))
 | .any=>.any
def Obj.kE(f:C->C):Obj->Obj
 | .box cs=>.box (cs.map f)
 |o=>o
theorem wR{f:C->C}{own:List Obj}{j i:Nat}:((own.map (Obj.kE f)).set j .dead)[i]? =if i=j then(if j<own.length then some .dead else none) else(own[i]?).map (Obj.kE f):=by
 rw[List.getElem?_set];by_cases e:j=i
 ·subst e;simp
 ·rw[if_neg e,if_neg (Ne.symm e),List.getElem?_map]
theorem vU{f:C->C}{own:List Obj}{Ω:Store}{j:Nat}{oj:Obj}(hj:own[j]? =some oj){k:Key}{o:Obj}(hk:bA (own::Ω) k=some o):
 ∃o',bA ((own.map (Obj.kE f)).set j .dead::Ω) k=some o'/\((k=(0,j)/\o'=.dead)\/(k≠(0,j)/\(o'=o\/o'=o.kE f))):=by
 obtain⟨l,i⟩:=k
 cases l with
 |zero=>
  rw[bL] at hk;by_cases e:i=j
  ·subst e;refine⟨.dead,?_,.inl ⟨rfl,rfl⟩⟩;rw[bL,wR,if_pos rfl,if_pos (List.getElem?_eq_some_iff.1 hj).1]
  ·refine⟨o.kE f,?_,.inr ⟨fun x=>e (by cases x;rfl),.inr rfl⟩⟩;rw[bL,wR,if_neg e,hk];rfl
 |succ l=>exact⟨o,by rw[bX] at hk ⊢;exact hk,.inr ⟨by simp,.inl rfl⟩⟩
theorem qW{f:C->C}{o o':Obj}(h:o'=o\/o'=o.kE f):(∀z es,rD o' z es->rD o z es)/\(∀z es,o'=.eP z es->o=.eP z es)/\(∀m,o'=.mp m->o=.mp m)/\(∀cs,o'=.box cs->∃cs',o=.box cs')/\(∀rs,o'=.xf rs->o=.xf rs):=by
 rcases h with rfl|rfl
 ·exact⟨fun _ _ h=>h,fun _ _ h=>h,fun _ h=>h,fun cs h=>⟨cs,h⟩,fun _ h=>h⟩
 ·cases o<;>simp[Obj.kE,rD]
theorem KC{f:C->C}{own:List Obj}{Ω:Store}{bo:List Value}{bΩ:Hs}{j:Nat}{oj:Obj}(hj:own[j]? =some oj)(hn:eG w σ w σ'){c:C}{v:Value}(hc:gJ w σ (own::Ω) (bo::bΩ) c v):
 gJ w σ' ((own.map (Obj.kE f)).set j .dead::Ω) (bo::bΩ) c v:=by
 cases c with
 |d x=>exact dN.mono hn hc
 |any=>trivial
 |bI es'=>exact⟨dN.mono hn hc.1,hc.2⟩
 |nG n es'=>exact⟨dN.mono hn hc.1,hc.2⟩
 |lu cs=>obtain⟨ad,h1,h2⟩:=hc;exact⟨ad,h1,h2.mono hn⟩
 |bS k es'=>
  obtain⟨h1,o,ho,h2⟩:=hc;obtain⟨o',ho',hcase⟩:=vU hj ho;refine⟨dN.mono hn h1,o',ho',fun z e4 e=> ?_⟩;rcases hcase with⟨_,e'⟩|⟨_,e'⟩
  ·rw[e'] at e;rcases e with e|⟨_,e⟩<;>cases e
  ·exact h2 _ _ ((qW e').1 _ _ e)
 |ptr k off=>
  obtain⟨o,ho,h2⟩:=hc;obtain⟨o',ho',hcase⟩:=vU hj ho;refine⟨o',ho',fun cs e=> ?_⟩;rcases hcase with⟨_,e'⟩|⟨_,e'⟩
  ·rw[e'] at e;cases e
  ·obtain⟨cs',e''⟩:=(qW e').2.2.2.1 _ e;exact h2 _ e''
 |kR k i off=>
  obtain⟨o,ho,h2⟩:=hc;obtain⟨o',ho',hcase⟩:=vU hj ho;refine⟨o',ho',fun z e4 e=> ?_⟩;rcases hcase with⟨_,e'⟩|⟨_,e'⟩
  ·rw[e'] at e;cases e
  ·exact h2 _ _ ((qW e').2.1 _ _ e)
 |iJ k=>
  obtain⟨o,ho,h2⟩:=hc;obtain⟨o',ho',hcase⟩:=vU hj ho;refine⟨o',ho',fun z e4 e=> ?_⟩;rcases hcase with⟨_,e'⟩|⟨_,e'⟩
  ·rw[e'] at e;cases e
  ·exact h2 _ _ ((qW e').2.1 _ _ e)
 |mp k=>
  obtain⟨o,ho,h2⟩:=hc;obtain⟨o',ho',hcase⟩:=vU hj ho;refine⟨o',ho',fun m e=> ?_⟩;rcases hcase with⟨_,e'⟩|⟨_,e'⟩
  ·rw[e'] at e;cases e
  ·exact h2 _ ((qW e').2.2.1 _ e)
 |fn f caps=>
  obtain⟨vs,hv,hl,h2⟩:=hc;refine⟨vs,hv,hl,fun i k off e=> ?_⟩;obtain⟨u,hu,h1c,o,ho,h3⟩:=h2 i k off e;obtain⟨o',ho',hcase⟩:=vU hj ho;refine⟨u,hu,h1c,o',ho',fun cs e=> ?_⟩;rcases hcase with⟨_,e'⟩|⟨_,e'⟩
  ·rw[e'] at e;cases e
  ·obtain⟨cs',e''⟩:=(qW e').2.2.2.1 _ e;exact h3 _ e''
 |xp k r p=>
  obtain⟨o,ho,h2⟩:=hc;obtain⟨o',ho',hcase⟩:=vU hj ho;refine⟨o',ho',fun rs e=> ?_⟩;rcases hcase with⟨_,e'⟩|⟨_,e'⟩
  ·rw[e'] at e;cases e
  ·exact h2 _ ((qW e').2.2.2.2 _ e)
 |xq k r p z i off=>
  obtain⟨o,ho,h2⟩:=hc;obtain⟨o',ho',hcase⟩:=vU hj ho;refine⟨o',ho',fun rs e=> ?_⟩;rcases hcase with⟨_,e'⟩|⟨_,e'⟩
  ·rw[e'] at e;cases e
  ·exact h2 _ ((qW e').2.2.2.2 _ e)
theorem QI{f:C->C}{tm:List (Nat×V)}{own:List Obj}{Ω:Store}{bo:List Value}{bΩ:Hs}(j:Nat){oj:Obj}{hj:Value}(hoj:own[j]? =some oj)(hbj:bo[j]? =some hj)(hR:jN N ⟨tm,own::Ω⟩ a w σ (bo::bΩ))(hlen:bo.length=own.length)
 (hn:eG w σ w σ')(hch:∀x,¬owns oj hj x->σ' x=σ x)(hlive:∀x,x<w.heap.size\/σ' x=0)
 (hC:∀(c:C) (v:Value),gJ w σ (own::Ω) (bo::bΩ) c v->gJ w σ' ((own.map (Obj.kE f)).set j .dead::Ω) (bo::bΩ) (f c) v):
 jN N ⟨tm.map fun x=>(x.1,x.2.kE f),(own.map (Obj.kE f)).set j .dead::Ω⟩ a w σ' (bo::bΩ)/\Step (own::Ω) (bo::bΩ) σ w ((own.map (Obj.kE f)).set j .dead::Ω) (bo::bΩ) σ' w:=by
 have Pv:∀k o,bA ((own.map (Obj.kE f)).set j .dead::Ω) k=some o->(k=(0,j)/\o=.dead)\/(k≠(0,j)/\∃o0,bA (own::Ω) k=some o0/\(o=o0\/o=o0.kE f)/\(0<k.1->o=o0)/\∀h b,owns o h b<->owns o0 h b):=by
  intro k o hk;obtain⟨l,i⟩:=k
  cases l with
  |zero=>
   rw[bL,wR] at hk;by_cases e:i=j
   ·subst e;rw[if_pos rfl,if_pos (List.getElem?_eq_some_iff.1 hoj).1] at hk;cases hk;exact .inl ⟨rfl,rfl⟩
   ·rw[if_neg e] at hk
    cases ho:own[i]? with
    |none=>rw[ho] at hk;cases hk
    |some o0=>
     rw[ho] at hk;cases hk;refine .inr ⟨fun x=>e (by cases x;rfl),o0,by rw[bL];exact ho,.inr rfl,fun h=>absurd h (by simp),fun h b=> ?_⟩
     cases o0 with
     |box cs=>cases h<;>first|exact Iff.rfl|(rename_i x;cases x<;>exact Iff.rfl)
     |_=>exact Iff.rfl
  |succ l=>rw[bX] at hk;exact .inr ⟨by simp,o,by rw[bX];exact hk,.inl rfl,fun _=>rfl,fun _ _=>Iff.rfl⟩
 have hCs:∀(cs:List C)(vs:List Value),fD w σ (own::Ω) (bo::bΩ) cs vs->fD w σ' ((own.map (Obj.kE f)).set j .dead::Ω) (bo::bΩ) (cs.map f) vs:=by
  intro cs vs hc;refine⟨by simpa using hc.1,fun i x hx=> ?_⟩;rw[List.getElem?_map] at hx
  cases hci:cs[i]? with
  |none=>rw[hci] at hx;cases hx
  |some y=>
   rw[hci] at hx;cases hx;obtain⟨v,hv,hr,ho⟩:=hc.2 i y hci;exact⟨v,hv,hC y v hr,ho⟩
 have hother:∀k o h x,k≠(0,j)->bA (own::Ω) k=some o->bA (bo::bΩ) k=some h->owns o h x->σ' x=σ x:=by
  intro k o h x hk e1 e2 e3;refine hch x fun e4=>hk ?_;exact hR.S.apart k (0,j) o _ h _ x e1 e2 e3 (by rw[bL];exact hoj) (by rw[bL];exact hbj) e4
 refine⟨⟨hR.size,hR.defers,⟨fun k o ho=> ?_,fun k k' o o' h1 h2 b' e1 e2 e3 e4 e5 e6=> ?_,⟨by have:=hR.S.shape.1;simpa using this,fun l fr hl=> ?_⟩,hlive,hR.S.wE.near hn⟩,fun t=> ?_⟩,⟨Nat.le_refl _,rfl,rfl,fun x hx hno=>⟨rfl,?_⟩,hn,fun x hx=> ?_⟩⟩
 ·rcases Pv k o ho with⟨rfl,rfl⟩|⟨hk,o0,h0,hcase,hl0,how⟩
  ·exact⟨_,by rw[bL];exact hbj,trivial⟩
  ·obtain⟨hv,hhv,hr⟩:=hR.S.obj k o0 h0;refine⟨hv,hhv,?_⟩;have hbk:∀x,owns o0 hv x->w.heap[x]? =w.heap[x]? /\σ' x=σ x:=fun x e=>⟨rfl,hother k o0 hv x hk h0 hhv e⟩;obtain⟨l,i⟩:=k
   cases l with
   |succ l=>
    rw[hl0 (by simp)];exact gM.mono hn (Keep.refl _ _) hbk hr
   |zero=>
    cases o0 with
    |box cs=>
     obtain⟨b',cc',t',e',hb',hs',hc'⟩:=hr;subst e'
     have he:o=.box (cs.map f):=by
      rw[bL,wR] at ho;rw[bL] at h0;split at ho
      ·rename_i e;exact absurd (by rw[e]) hk
      ·rw[h0] at ho;cases ho;rfl
     rw[he];exact⟨b',cc',t',rfl,hb',(hbk b' rfl).2.trans hs',hCs _ _ hc'⟩
    |dead=>rcases hcase with rfl|rfl<;>trivial
    |tok z es'=>
     have:o=.tok z es':=by rcases hcase with rfl|rfl<;>rfl
     rw[this];exact gM.mono (S:=[]) (β:=[]) (o:=(.tok z es')) hn (Keep.refl [] []) hbk hr
    |eP z es'=>
     have:o=.eP z es':=by rcases hcase with rfl|rfl<;>rfl
     rw[this];exact gM.mono (S:=[]) (β:=[]) (o:=(.eP z es')) hn (Keep.refl [] []) hbk hr
    |mp m=>
     have:o=.mp m:=by rcases hcase with rfl|rfl<;>rfl
     rw[this];exact gM.mono (S:=[]) (β:=[]) (o:=(.mp m)) hn (Keep.refl [] []) hbk hr
    |jm n z es'=>
     have:o=.jm n z es':=by rcases hcase with rfl|rfl<;>rfl
     rw[this];exact gM.mono (S:=[]) (β:=[]) (o:=(.jm n z es')) hn (Keep.refl [] []) hbk hr
    |seed n=>rcases hcase with rfl|rfl<;>trivial
    |xf rs=>
     have:o=.xf rs:=by rcases hcase with rfl|rfl<;>rfl
     rw[this];exact gM.mono (S:=[]) (β:=[]) (o:=(.xf rs)) hn (Keep.refl [] []) hbk hr
 ·rcases Pv k o e1 with⟨rfl,rfl⟩|⟨hk,o0,f1,_,_,f2⟩
  ·cases e3
  ·rcases Pv k' o' e4 with⟨rfl,rfl⟩|⟨hk',o0',g1,_,_,g2⟩
   ·cases e6
   ·exact hR.S.apart k k' o0 o0' h1 h2 b' f1 e2 ((f2 _ _).1 e3) g1 e5 ((g2 _ _).1 e6)
 ·cases l with
  |zero=>
   simp at hl;subst hl;exact⟨_,rfl,by simp[hlen]⟩
  |succ l=>exact hR.S.shape.2 (l+1) fr hl
 ·show dP w σ' ((own.map (Obj.kE f)).set j .dead::Ω) (bo::bΩ) (look (tm.map fun x=>(x.1,x.2.kE f)) t) _;rw[Ej (f:=V.kE f) rfl];have ht:=hR.T t
  cases hx:look tm t with
  |c x=>rw[hx] at ht;exact⟨hC x _ ht.1,ht.2⟩
  |agg cs=>rw[hx] at ht;obtain⟨ar,e,hc⟩:=ht;exact⟨ar,e,hCs _ _ hc⟩
  |eu xs=>
   rw[hx] at ht;obtain⟨ar,e,hl,h2⟩:=ht;refine⟨ar,e,by simpa using hl,fun i y hy=> ?_⟩;rw[List.getElem?_map] at hy
   cases hxi:xs[i]? with
   |none=>rw[hxi] at hy;cases hy
   |some z=>
    rw[hxi] at hy;cases hy;obtain⟨u,hu,h3⟩:=h2 i z hxi;refine⟨u,hu,?_⟩;obtain⟨bb,cs⟩:=z
    cases bb with
    |true=>obtain⟨a',e',hcs⟩:=h3;exact⟨a',e',hCs _ _ hcs⟩
    |false=>
     obtain⟨x,e',hxr,ho⟩:=h3;subst e';exact⟨_,rfl,hC x _ hxr,ho⟩
  |any=>trivial
 ·exact hch x fun e=>hno ⟨(0,j),_,_,by rw[bL];exact hoj,by rw[bL];exact hbj,e⟩
 ·left;obtain⟨k,o,h1,e1,e2,e3⟩:=hx;rcases Pv k o e1 with⟨rfl,rfl⟩|⟨hk,o0,f1,_,_,f2⟩
  ·cases e3
  ·exact⟨k,o0,h1,f1,e2,(f2 _ _).1 e3⟩
theorem acj{j:Nat}{es:List (List D)}:Obj.mH j es=Obj.kE (C.mH j es):=by funext o;cases o<;>rfl
theorem acn{j:Nat}{es:List (List D)}:V.mH j es=V.kE (C.mH j es):=by funext v;cases v<;>rfl
theorem afW{tm:List (Nat×V)}{own:List Obj}{Ω:Store}(j:Nat)(bB:Nat)(es:List (List D))(hj:own[j]? =some (.eP bB es))(hR:jN N ⟨tm,own::Ω⟩ a w σ β):
 ∃σ' β',jN N ⟨tm.map fun x=>(x.1,x.2.mH j es),(own.map (Obj.mH j es)).set j .dead::Ω⟩ a w σ' β'/\Step (own::Ω) β σ w ((own.map (Obj.mH j es)).set j .dead::Ω) β' σ' w/\
  Keep (gF (own::Ω)) (gF β) (gF ((own.map (Obj.mH j es)).set j .dead::Ω)) (gF β'):=by
 obtain⟨bo,bΩ,rfl,hlen⟩:=frames hR;obtain⟨hh,hb,hr⟩:=hR.S.obj (0,j) _ (by rw[bL];exact hj);rw[bL] at hb
 obtain⟨σ',hn,hch,hlive,hdata⟩:∃σ',eG w σ w σ'/\(∀x,¬owns (.eP bB es) hh x->σ' x=σ x)/\(∀x,x<w.heap.size\/σ' x=0)/\dN w σ' (.sl es) hh:=by
  obtain⟨hle,ad,cap,rfl,hcap,h4⟩:=hr;by_cases h0:cap=0
  ·obtain rfl:es=[]:=List.eq_nil_of_length_eq_zero (by omega);exact⟨σ,eG.refl _ _,fun _ _=>rfl,hR.S.live,.nil _ _⟩
  rcases h4 with h4|⟨b,cc,ty,rfl,hbc,hσ,hcz,hcells⟩
  ·exact absurd h4 h0
  have hsz:es.length*bB<=cc.size:=Nat.le_trans (Nat.mul_le_mul_right _ hcap) hcz
  let σ':Nat->Nat:=fun x=>if x=b then es.length*bB else σ x
  have hn:eG w σ w σ':=by
   intro b1 c1 t1 E9 e1;by_cases e:b1=b
   ·subst e;rw[hbc] at e1;cases e1;exact⟨by simp only[σ',if_true];omega,fun h=>by omega,cc,hbc,rfl,fun _ _=>rfl⟩
   ·exact⟨by simp only[σ',if_neg e];exact Nat.le_refl _,fun _=>if_neg e,c1,e1,rfl,fun _ _=>rfl⟩
  refine⟨σ',hn,fun x hx=>if_neg fun e=>hx (by subst e;simp[owns,blk,h0]),fun x=> ?_,?_⟩
  ·by_cases e:x=b
   ·left;subst e;exact lt_of_some hbc
   ·simp only[σ',if_neg e];exact hR.S.live x
  ·have hfl:=jh es bB hle;refine .sl b 0 cap bB es (fun i=>(cc[i]?).getD undef) cc ty (0,0) hcap hle hbc (by simp[σ']) (fun i hi=> ?_) (fun i d hd=> ?_)
   ·obtain⟨v,hv,_⟩:=hcells i _ (List.getElem?_eq_getElem (by omega));simp[hv]
   ·obtain⟨v,hv,hr⟩:=hcells i d hd;simp only[hv,Option.getD_some];exact hr.mono hn
 rw[acj,acn]
 have:=QI (f:=C.mH j es) j hj hb hR hlen hn hch hlive (fun c v hc=>by
  by_cases hm:c=.iJ (0,j)
  ·subst hm;obtain⟨o,ho,h2⟩:=hc;rw[bL,hj] at ho;cases ho;have hv:=h2 _ _ rfl;rw[bL,hb] at hv;cases hv;simp only[C.mH,if_true];exact hdata
  ·have hfr:C.mH j es c=c:=by
    cases c with
    |iJ k=>
     obtain⟨l,i⟩:=k
     cases l with
     |zero=>simp only[C.mH];rw[if_neg (fun e=>hm (by rw[e]))]
     |succ l=>rfl
    |_=>rfl
   rw[hfr]
   exact KC hj hn hc)
 exact⟨σ',_,this.1,this.2,Keep.refl _ _⟩
def C.lab(row:Bool)(j n:Nat)(es:List (List D)):C->C
 | .iJ (0,i)=>if i=j/\row=true then .d (.ol n es) else .iJ (0,i)
 | .bS (0,i) es'=>if i=j/\row=false/\es'.length=es.length then .d (.ol n es) else .bS (0,i) es'
 |c=>c
def KD(row:Bool)(n bB:Nat)(es:List (List D)):Obj:=match row with|true=>.eP bB es|false=>.jm n bB es
theorem U2{tm:List (Nat×V)}{own:List Obj}{Ω:Store}(j n:Nat)(bB:Nat)(es:List (List D))(row:Bool)(hj:own[j]? =some (KD row n bB es))(hR:jN N ⟨tm,own::Ω⟩ a w σ β):
 ∃σ' β',jN N ⟨tm.map fun x=>(x.1,x.2.kE (C.lab row j n es)),(own.map (Obj.kE (C.lab row j n es))).set j .dead::Ω⟩ a w σ' β'/\Step (own::Ω) β σ w ((own.map (Obj.kE (C.lab row j n es))).set j .dead::Ω) β' σ' w/\
  Keep (gF (own::Ω)) (gF β) (gF ((own.map (Obj.kE (C.lab row j n es))).set j .dead::Ω)) (gF β'):=by
 obtain⟨bo,bΩ,rfl,hlen⟩:=frames hR
 have key:∃hh σ',bo[j]? =some hh/\eG w σ w σ'/\(∀x,¬owns (KD row n bB es) hh x->σ' x=σ x)/\(∀x,x<w.heap.size\/σ' x=0)/\dN w σ' (.ol n es) hh:=by
  have Zc:∀(b off cap:Nat)(c:Array Value)(t:TypeId),w.heap[b]? =some (.cells c t (0,0))->σ b<=c.size->(∀e∈es,e.length=bB)->off+es.length*bB<=c.size->es.length<=cap->off=0/\cap*bB<=c.size->
   (∀(i:Nat)(d:D),es.flatten[i]? =some d->∃v,c[off+i]? =some v/\dN w σ d v)->
   eG w σ w (fun x=>if x=b then c.size+1+n else σ x)/\(∀x,x<w.heap.size\/(fun x=>if x=b then c.size+1+n else σ x) x=0)/\dN w (fun x=>if x=b then c.size+1+n else σ x) (.ol n es) (.slice (some ⟨b,off,none⟩) es.length cap):=by
   intro b off cap c t hb hσ hle hsz hcap hx hcells
   have hn:eG w σ w (fun x=>if x=b then c.size+1+n else σ x):=by
    intro b1 c1 t1 E9 e1;by_cases e:b1=b
    ·subst e;rw[hb] at e1;cases e1;exact⟨by simp only[if_true];omega,fun h=>by omega,c,hb,rfl,fun _ _=>rfl⟩
    ·exact⟨by simp only[if_neg e];exact Nat.le_refl _,fun _=>if_neg e,c1,e1,rfl,fun _ _=>rfl⟩
   refine⟨hn,fun x=> ?_,?_⟩
   ·by_cases e:x=b
    ·left;subst e;exact lt_of_some hb
    ·simp only[if_neg e];exact hR.S.live x
   ·have hfl:=jh es bB hle;refine .ol n b off cap bB es (fun i=>(c[off+i]?).getD undef) c t hcap hle hb (by simp) hsz (fun i hi=> ?_) (fun i d hd=> ?_) hx
    ·obtain⟨v,hv,_⟩:=hcells i _ (List.getElem?_eq_getElem (by omega));simp[hv]
    ·obtain⟨v,hv,hr⟩:=hcells i d hd;simp only[hv,Option.getD_some];exact hr.mono hn
  cases row with
  |true=>
   obtain⟨hh,hb,hr⟩:=hR.S.obj (0,j) _ (by rw[bL];exact hj);obtain⟨hle,ad,cap,rfl,hcap,h4⟩:=hr;rw[bL] at hb;by_cases h0:cap=0
   ·obtain rfl:es=[]:=List.eq_nil_of_length_eq_zero (by omega);exact⟨_,σ,hb,eG.refl _ _,fun _ _=>rfl,hR.S.live,.xO _ _ _⟩
   rcases h4 with h4|⟨b,cc,ty,rfl,hbc,hσ,hcz,hcells⟩
   ·exact absurd h4 h0
   have hsz:es.length*bB<=cc.size:=Nat.le_trans (Nat.mul_le_mul_right _ hcap) hcz;obtain⟨k1,k2,k3⟩:=Zc b 0 cap cc ty hbc (by omega) hle (by omega) hcap ⟨rfl,hcz⟩ (fun i d hd=>by rw[Nat.zero_add];exact hcells i d hd);exact⟨_,_,hb,k1,fun x hx=>if_neg fun e=>hx (by subst e;simp[KD,owns,blk,h0]),k2,k3⟩
  |false=>
   obtain⟨hh,hb,hr⟩:=hR.S.obj (0,j) _ (by rw[bL];exact hj);obtain⟨h1,hle,ad,cap,rfl,hcap,hcase⟩:=hr;rw[bL] at hb;rcases hcase with⟨h4,h5⟩|⟨h4,b,off,c,t,rfl,hbc,hσ,hfit⟩
   ·exact⟨_,σ,hb,eG.refl _ _,fun _ _=>rfl,hR.S.live,h5⟩
   ·have hm:es.length*bB<=cap*bB:=Nat.mul_le_mul_right _ hcap
    obtain⟨k1,k2,k3⟩:=Zc b off cap c t hbc (by omega) hle (by omega) hcap ⟨by omega,by omega⟩ (fun i d hd=>by
     cases h1 with
     |nil=>simp at hd
     |sl b' off' cap' sZ es vals c' t' Qj q1 q2 q3 q4 q5 q6=>
      rw[hbc] at q3;cases q3;have hil:=(List.getElem?_eq_some_iff.1 hd).1;rw[jh es bB hle] at hil
      have he:sZ=bB:=by
       cases es with
       |nil=>simp at hil
       |cons y ys=>rw[<-q2 y (by simp),hle y (by simp)]
      subst he
      exact⟨_,q5 i hil,q6 i d hd⟩)
    exact⟨_,_,hb,k1,fun x hx=>if_neg fun e=>hx (by subst e;simp[KD,owns,blk,h4]),k2,k3⟩
 obtain⟨hh,σ',hb,hn,hch,hlive,hdata⟩:=key
 have:=QI (f:=C.lab row j n es) j hj hb hR hlen hn hch hlive (fun c v hc=>by
  by_cases hm:c=.iJ (0,j)/\row=true
  ·obtain⟨rfl,rfl⟩:=hm;simp only[C.lab,and_self,if_true];obtain⟨o,ho,h2⟩:=hc;rw[bL,hj] at ho;cases ho;have hv:=h2 _ _ rfl;rw[bL,hb] at hv;cases hv;exact hdata
  ·by_cases ht:∃es',c=.bS (0,j) es'/\row=false/\es'.length=es.length
   ·obtain⟨es',rfl,rfl,hl⟩:=ht;simp only[C.lab,hl,and_self,if_true];obtain⟨h1,o,ho,h2⟩:=hc;rw[bL,hj] at ho;cases ho;have hv:=(h2 _ _ (.inr ⟨n,rfl⟩)).2 hl;rw[bL,hb] at hv;cases hv;exact hdata
   ·have hfr:C.lab row j n es c=c:=by
     cases c with
     |iJ k=>
      obtain⟨l,i⟩:=k
      cases l with
      |zero=>simp only[C.lab];rw[if_neg (fun e=>hm ⟨by rw[e.1],e.2⟩)]
      |succ l=>rfl
     |bS k es'=>
      obtain⟨l,i⟩:=k
      cases l with
      |zero=>simp only[C.lab];rw[if_neg (fun e=>ht ⟨es',by rw[e.1],e.2⟩)]
      |succ l=>rfl
     |_=>rfl
    rw[hfr]
    exact KC hj hn hc)
 exact⟨σ',_,this.1,this.2,Keep.refl _ _⟩
def KE(j:Nat)(s:St):St:=
 match s.st with
 |own::Ω=>match own[j]? with
  |some (.eP _ es)=>⟨s.tm.map fun x=>(x.1,x.2.mH j es),(own.map (Obj.mH j es)).set j .dead::Ω⟩
  |_=>s
 |[]=>s
def KF:Nat->St->St
 |0,s=>s
 |n+1,s=>KF n (KE n s)
def Dn(s:St):St:=
 match s.st with
 |own::_=>KF own.length s
 |[]=>s
theorem Tg(j:Nat)(s:St):gN N s (KE j s):=by
 obtain⟨tm,st⟩:=s
 cases st with
 |nil=>exact gN.refl _ _
 |cons own Ω=>
  unfold KE
  simp only
  split
  ·rename_i z es hj;exact fun a w σ β hR=>afW j z es hj hR
  ·exact gN.refl _ _
theorem II:∀(n:Nat)(s:St),gN N s (KF n s)
 |0,s=>gN.refl _ _
 |n+1,s=>(Tg n s).trans (II n _)
theorem uh(s:St):gN N s (Dn s):=by
 unfold Dn;split
 ·exact II _ _
 ·exact gN.refl _ _
theorem AU{c:Code}{Q:Exit->St->Prop}{g:St->St}(hg:∀s,gN N s (g s))(h:AW P N c (fun e s'=>Q e (g s')) s):AW P N c Q s:=by
 intro a w σ β hR;refine wp_mono (h a w σ β hR) ?_;rintro e a' w' ⟨s',σ',β',k1,k2,k3,k4⟩;obtain⟨σ2,β2,r2,st2,kk2⟩:=hg s' a' w' σ' β' k1;exact⟨_,σ2,β2,r2,k2.trans st2,k3.trans kk2,k4⟩
end
section
variable {P:Program} {E:Md} {S S':Store} {N:Nat} {s:St}
def lookO(tm:List (Nat×V))(t:Option Nat):Option V:=t.map (look tm)
theorem QJ{tm:List (Nat×V)}{t:Option Nat}:lookO tm t=t.map (look tm):=rfl
theorem Wq{tm:List (Nat×V)}{t:Nat}:lookO tm (some t)=some (look tm t):=rfl
theorem Ws{tm:List (Nat×V)}:lookO tm none=none:=rfl
def Dp(tm:List (Nat×V))(l:List Operand):List V:=l.map (ev tm)
theorem afX{tm:List (Nat×V)}:Dp tm []=[]:=rfl
theorem aco{tm:List (Nat×V)}{x:Operand}{l:List Operand}:Dp tm (x::l)=ev tm x::Dp tm l:=rfl
def NQ(tm:List (Nat×V))(x:Option Operand):Option V:=x.map (ev tm)
theorem acp{tm:List (Nat×V)}{x:Operand}:NQ tm (some x)=some (ev tm x):=rfl
theorem acr{tm:List (Nat×V)}:NQ tm none=none:=rfl
def NR(tm:List (Nat×V))(l:List (Nat×Operand)):List (Nat×V):=l.map fun x=>(x.1,ev tm x.2)
theorem afY{tm:List (Nat×V)}:NR tm []=[]:=rfl
theorem acs{tm:List (Nat×V)}{i:Nat}{x:Operand}{l:List (Nat×Operand)}:NR tm ((i,x)::l)=(i,ev tm x)::NR tm l:=rfl
def Split(x:Bool)(A B:St->Prop)(s:St):Prop:=(x=true->A s)/\(x=false->B s)
theorem aD{x:Bool}{A B:St->Prop}(h1:x=true->A s)(h2:x=false->B s):Split x A B s:=⟨h1,h2⟩
theorem Wt{A B:St->Prop}:Split true A B s=A s:=by simp[Split]
theorem Ti{A B:St->Prop}:Split false A B s=B s:=by simp[Split]
def QK(dst:Option Nat)(v:V)(K:St->Prop)(s:St):Prop:=K (s.put dst v)
theorem afZ{dst:Option Nat}{v:V}{K:St->Prop}:QK dst v K s=K (s.put dst v):=rfl
def Wu(P:Program)(o:Oper)(K:St->Prop)(s:St):Prop:=iw P o s K
def QL(P:Program)(E:Md)(o:Oper)(K:St->Prop)(s:St):Prop:=fO P E o s K
theorem acu{o:Oper}{K:St->Prop}:Wu P o K s=iw P o s K:=rfl
theorem Zd{o:Oper}{K:St->Prop}:QL P E o K s=fO P E o s K:=rfl
def AV(dst:Option Nat)(want:Bool)(A K:St->Prop)(s:St):Option V->Prop
 |some (.c (.d (.b x)))=>match want with
  |true=>Split x A (QK dst (.eu []) K) s
  |false=>Split x (QK dst (.eu []) K) A s
 |some (.eu [])=>K (s.put dst (.eu []))
 |_=>False
theorem Tj{R:Array Oper}{dst op ty pos after}{K:St->Prop}:tY P R ⟨dst,op,ty,pos,after,none⟩ s K=iw P ⟨dst,op,ty,pos,after,none⟩ s K:=rfl
theorem Tk{R:Array Oper}{dst op ty pos after j want}{K:St->Prop}:tY P R ⟨dst,op,ty,pos,after,some (j,want)⟩ s K=
 AV dst want (Wu P ⟨dst,op,ty,pos,after,some (j,want)⟩ K) K s (lookO s.tm (gu R j)):=by
 show tY P R _ s K=_;simp only[tY,<-QJ];generalize lookO s.tm (gu R j)=v
 cases v with
 |none=>rfl
 |some v=>
  cases v with
  |c x=>cases x with
   |d x=>cases x with
    |b x=>cases want<;>simp[AV,Split,QK,Wu,and_comm]
    |_=>rfl
   |_=>rfl
  |eu l=>cases l<;>rfl
  |_=>rfl
theorem QM{R:Array Oper}{dst op ty pos after}{K:St->Prop}:nY P E R ⟨dst,op,ty,pos,after,none⟩ s K=fO P E ⟨dst,op,ty,pos,after,none⟩ s K:=rfl
theorem QN{R:Array Oper}{dst op ty pos after j want}{K:St->Prop}:nY P E R ⟨dst,op,ty,pos,after,some (j,want)⟩ s K=
 AV dst want (QL P E ⟨dst,op,ty,pos,after,some (j,want)⟩ K) K s (lookO s.tm (gu R j)):=by
 simp only[nY,<-QJ];generalize lookO s.tm (gu R j)=v
 cases v with
 |none=>rfl
 |some v=>
  cases v with
  |c x=>cases x with
   |d x=>cases x with
    |b x=>cases want<;>simp[AV,Split,QK,QL,and_comm]
    |_=>rfl
   |_=>rfl
  |eu l=>cases l<;>rfl
  |_=>rfl
@[congr] theorem ajQ {R:Array Oper} {os:List Oper} {s s':St} {K:St->Prop} (h2:s=s'):AL P R os s K=AL P R os s' K:=by rw[h2]
@[congr] theorem ajR {R:Array Oper} {os:List Oper} {s s':St} {K:St->Prop} (h2:s=s'):rH P E R os s K=rH P E R os s' K:=by rw[h2]
@[congr] theorem ahR {R:Array Oper} {o:Oper} {s s':St} {K:St->Prop} (h2:s=s'):tY P R o s K=tY P R o s' K:=by rw[h2]
@[congr] theorem ahr {R:Array Oper} {o:Oper} {s s':St} {K:St->Prop} (h2:s=s'):nY P E R o s K=nY P E R o s' K:=by rw[h2]
@[congr] theorem ahS {dst:Option Nat} {want:Bool} {A K:St->Prop} {s s':St} {v v':Option V} (h2:s=s') (h3:v=v'):AV dst want A K s v=AV dst want A K s' v':=by rw[h2,h3]
@[congr] theorem ajm {x x':Bool} {A B:St->Prop} {s s':St} (h:x=x') (h2:s=s'):Split x A B s=Split x' A B s':=by rw[h,h2]
@[congr] theorem ajn {o:Oper} {s s':St} {K:St->Prop} (h2:s=s'):dA P o s K=dA P o s' K:=by rw[h2]
@[congr] theorem ajo {o:Oper} {s s':St} {K:St->Prop} (h2:s=s'):iw P o s K=iw P o s' K:=by rw[h2]
@[congr] theorem ajS {t:TypeId} {s s':St} {dst:Option Nat} {K:St->Prop} {b b':Bool} {r r':R} (h1:s=s') (h2:b=b') (h3:r=r'):FQ P t s dst K b r=FQ P t s' dst K b' r':=by rw[h1,h2,h3]
@[congr] theorem ahs {t u:TypeId} {a a' x x':V} {s s':St} {dst:Option Nat} {K:St->Prop} (h1:a=a') (h3:x=x') (h2:s=s'):Aj P t u a x s dst K=Aj P t u a' x' s' dst K:=by rw[h1,h2,h3]
@[congr] theorem ahT {t u:TypeId} {k:Key} {x x':V} {s s':St} {dst:Option Nat} {K:St->Prop} (h3:x=x') (h2:s=s'):Dj P t u k x s dst K=Dj P t u k x' s' dst K:=by rw[h2,h3]
@[congr] theorem ahU {o:Oper} {s s':St} {K:St->Prop} (h2:s=s'):fO P E o s K=fO P E o s' K:=by rw[h2]
@[congr] theorem ajT {l l':Option Nat} {es es' x:List (List D)} {z:Nat} {s s':St} {dst:Option Nat} {K:St->Prop} (h1:l=l') (h2:es=es') (h3:s=s'):AJ l es s dst z x K=AJ l' es' s' dst z x K:=by rw[h1,h2,h3]
@[congr] theorem ajU {b b':Bool} {es es' x:List (List D)} {z:Nat} {s s':St} {dst:Option Nat} {K:St->Prop} (h1:b=b') (h2:es=es') (h3:s=s'):zw b es s dst z x K=zw b' es' s' dst z x K:=by rw[h1,h2,h3]
@[congr] theorem ajV {b b':Bool} {n:Nat} {x:List (List D)} {z:Nat} {s s':St} {dst:Option Nat} {K:St->Prop} (h1:b=b') (h3:s=s'):CB b n s dst z x K=CB b' n s' dst z x K:=by rw[h1,h3]
@[congr] theorem ahV {s s':St} {dst:Option Nat} {o o':Obj} {mk:Key->V} {K:St->Prop} (h1:s=s') (h2:o=o'):newObj s dst o mk K=newObj s' dst o' mk K:=by rw[h1,h2]
@[congr] theorem ahW {t:TypeId} {s s':St} {dst:Option Nat} {K:St->Prop} (h1:s=s'):tV P t s dst K=tV P t s' dst K:=by rw[h1]
@[congr] theorem ajW {v v':V} {s s':St} {dst:Option Nat} {K:St->Prop} (h1:v=v') (h2:s=s'):AB v s dst K=AB v' s' dst K:=by rw[h1,h2]
@[congr] theorem ahX {t:TypeId} {a a' x x':V} {s s':St} {dst:Option Nat} {K:St->Prop} (h1:a=a') (h3:x=x') (h2:s=s'):tX P t a x s dst K=tX P t a' x' s' dst K:=by rw[h1,h2,h3]
@[congr] theorem ajp {t:TypeId} {a a' x x':V} {s s':St} {dst:Option Nat} {K:St->Prop} (h1:a=a') (h3:x=x') (h2:s=s'):wL P t a x s dst K=wL P t a' x' s' dst K:=by rw[h1,h2,h3]
@[congr] theorem aht {t u:TypeId} {a a' x x':V} {s s':St} {dst:Option Nat} {K:St->Prop} (h1:a=a') (h3:x=x') (h2:s=s'):qF P t u a x s dst K=qF P t u a' x' s' dst K:=by rw[h1,h2,h3]
@[congr] theorem ahu {s s':St} {dst:Option Nat} {K:St->Prop} (h2:s=s'):sP s dst K=sP s' dst K:=by rw[h2]
@[congr] theorem ahv {t:TypeId} {a a' x x' y y':V} {s s':St} {dst:Option Nat} {K:St->Prop} (h1:a=a') (h3:x=x') (h4:y=y') (h2:s=s'):sQ P t a x y s dst K=sQ P t a' x' y' s' dst K:=by rw[h1,h2,h3,h4]
@[congr] theorem ajq {f:FuncId} {args args':List V} {s s':St} {dst:Option Nat} {K:St->Prop} (h1:args=args') (h2:s=s'):yG P f args s dst K=yG P f args' s' dst K:=by rw[h1,h2]
@[congr] theorem ajr {c:Call} {s s':St} {dst:Option Nat} {K:St->Prop} (h2:s=s'):mM P c s dst K=mM P c s' dst K:=by rw[h2]
@[congr] theorem ajs {K:St->Prop} {Q:Exit->St->Prop} {e:Exit} {s s':St} (h2:s=s'):jP K Q e s=jP K Q e s':=by rw[h2]
def gL(s:St)(dst:Option Nat)(K:St->Prop)(r:R):Prop:=r.1/\K (s.put dst r.2)
@[congr] theorem ajt {s s':St} {dst:Option Nat} {K:St->Prop} {r r':R} (h1:s=s') (h2:r=r'):gL s dst K r=gL s' dst K r':=by rw[h1,h2]
theorem acv{dst:Option Nat}{K:St->Prop}{p:Prop}{v:V}:gL s dst K (p,v)=(p/\K (s.put dst v)):=rfl
def CK(caps:List (Key×Nat)):List V:=caps.map fun y=>.c (.ptr y.1 y.2)
def Pw(P:Program)(fv:V)(args:List V)(s:St)(dst:Option Nat)(K:St->Prop):Prop:=
 match fv with
 | .c (.fn f caps)=>yG P f (args++CK caps) s dst K
 |_=>False
def El(P:Program)(m:Nat)(f:FuncId)(args:List V)(s:St)(dst:Option Nat)(K:St->Prop):Prop:=
 match m with
 |0=>∃r,bg P f args r/\K (s.put dst r)
 |1=>∃S' v,DS s.st S'/\yG P f args s dst (fun t=>t=St.put ⟨s.tm,S'⟩ dst v)/\K (St.put ⟨s.tm,S'⟩ dst v)
 |_=>∃S' v,yG P f args s dst (fun t=>t=St.put ⟨s.tm,S'⟩ dst v)/\K (St.put ⟨s.tm,S'⟩ dst v)
def yJ(P:Program)(m:Nat)(fv:V)(args:List V)(s:St)(dst:Option Nat)(K:St->Prop):Prop:=
 match fv with
 | .c (.fn f caps)=>El P m f (args++CK caps) s dst K
 |_=>False
@[congr] theorem aju {fv Ze:V} {args args':List V} {s s':St} {dst:Option Nat} {K:St->Prop} (h1:fv=Ze) (h3:args=args') (h2:s=s'):Pw P fv args s dst K=Pw P Ze args' s' dst K:=by rw[h1,h2,h3]
@[congr] theorem ajv {m:Nat} {fv Ze:V} {args args':List V} {s s':St} {dst:Option Nat} {K:St->Prop} (h1:fv=Ze) (h3:args=args') (h2:s=s'):yJ P m fv args s dst K=yJ P m Ze args' s' dst K:=by rw[h1,h2,h3]
@[congr] theorem ajw {m:Nat} {f:FuncId} {args args':List V} {s s':St} {dst:Option Nat} {K:St->Prop} (h1:args=args') (h2:s=s'):El P m f args s dst K=El P m f args' s' dst K:=by rw[h1,h2]
theorem Tm{x:Operand}{args:Array Operand}{ts:Array TypeId}{dst:Option Nat}{K:St->Prop}:mM P ⟨.value x,args,ts⟩ s dst K=Pw P (ev s.tm x) (Dp s.tm args.toList) s dst K:=rfl
theorem QO{x y:Operand}{t u:TypeId}{dst:Option Nat}{K:St->Prop}:mM P ⟨.builtin .append,#[x,y],#[t,u]⟩ s dst K=qF P t u (ev s.tm x) (ev s.tm y) s dst K:=rfl
theorem Zf{x:Operand}{t:TypeId}{dst:Option Nat}{K:St->Prop}:mM P ⟨.builtin .len,#[x],#[t]⟩ s dst K=gL s dst K (DY P s.st t (ev s.tm x)):=rfl
theorem Zg{x y:Operand}{ts:Array TypeId}{dst:Option Nat}{K:St->Prop}:mM P ⟨.builtin .max,#[x,y],ts⟩ s dst K=gL s dst K (vG true (ev s.tm x) (ev s.tm y)):=rfl
theorem Zh{x y:Operand}{ts:Array TypeId}{dst:Option Nat}{K:St->Prop}:mM P ⟨.builtin .min,#[x,y],ts⟩ s dst K=gL s dst K (vG false (ev s.tm x) (ev s.tm y)):=rfl
theorem acw{x:Operand}{t:TypeId}{tm:List (Nat×V)}:nval P S tm (.call ⟨.builtin .len,#[x],#[t]⟩)=DY P S t (ev tm x):=rfl
def iL(P:Program)(mode:Option Nat)(f:FuncId)(args:List V)(s:St)(dst:Option Nat)(K:St->Prop):Prop:=
 match mode with
 |some m=>El P m f args s dst K
 |none=>yG P f args s dst K
@[congr] theorem ajx {dr:Option Nat} {f:FuncId} {args args':List V} {s s':St} {dst:Option Nat} {K:St->Prop} (h1:args=args') (h2:s=s'):iL P dr f args s dst K=iL P dr f args' s' dst K:=by rw[h1,h2]
theorem acy{f:Nat}{caps:List (Key×Nat)}{args:List V}{dst:Option Nat}{K:St->Prop}:Pw P (.c (.fn f caps)) args s dst K=iL P none f (args++CK caps) s dst K:=rfl
theorem acz{m:Nat}{f:Nat}{caps:List (Key×Nat)}{args:List V}{dst:Option Nat}{K:St->Prop}:yJ P m (.c (.fn f caps)) args s dst K=iL P (some m) f (args++CK caps) s dst K:=rfl
theorem aB{dr:Option Nat}{f:FuncId}{args:List V}{dst:Option Nat}{K:St->Prop}{r:V}(h:bg P f (args.map V.ug) r)(hK:K (s.put dst r)):iL P dr f args s dst K:=by
 cases dr with
 |none=>exact Eh h hK
 |some m=>
  match m with
  |0=>exact⟨r,fun S=>(h S).ug,hK⟩
  |1=>exact⟨s.st,r,DS.refl _,Eh h rfl,hK⟩
  |m+2=>exact⟨s.st,r,Eh h rfl,hK⟩
def afg:Option Nat->Bool
 |none=>true
 |some m=>decide (2<=m)
theorem bE{dr:Option Nat}{f:FuncId}{args:List V}{dst:Option Nat}{K:St->Prop}{r:V}{S1:Store}(hm:afg dr=true)(h:cB P f args s.st (fun r' S'=>r'=r/\S'=S1))(hK:K (St.put ⟨s.tm,S1⟩ dst r)):iL P dr f args s dst K:=by
 cases dr with
 |none=>exact .inl ⟨_,h,fun r' S' e=>by rw[e.1,e.2];exact hK⟩
 |some m=>
  match m,hm with
  |0,hm=>cases hm
  |1,hm=>cases hm
  |m+2,_=>exact⟨S1,r,.inl ⟨_,h,fun r' S' e=>by rw[e.1,e.2]⟩,hK⟩
def Hy(P:Program)(R:Array Oper)(os:List Oper)(K:St->Prop)(s:St):Prop:=AL P R os s K
def Hz(P:Program)(E:Md)(R:Array Oper)(os:List Oper)(K:St->Prop)(s:St):Prop:=rH P E R os s K
@[congr] theorem ajy {R:Array Oper} {os:List Oper} {s s':St} {K:St->Prop} (h2:s=s'):Hy P R os K s=Hy P R os K s':=by rw[h2]
@[congr] theorem ajz {R:Array Oper} {os:List Oper} {s s':St} {K:St->Prop} (h2:s=s'):Hz P E R os K s=Hz P E R os K s':=by rw[h2]
section
variable {tm:List (Nat×V)} {R:Array Oper} {o:Oper} {os:List Oper} {K:St->Prop}
theorem acA:AL P R [] ⟨tm,S⟩ K=K ⟨tm,S⟩:=rfl
theorem Zi:AL P R (o::os) ⟨tm,S⟩ K=tY P R o ⟨tm,S⟩ (Hy P R os K):=rfl
theorem Zj:Hy P R [] K ⟨tm,S⟩=K ⟨tm,S⟩:=rfl
theorem Wv:Hy P R (o::os) K ⟨tm,S⟩=tY P R o ⟨tm,S⟩ (Hy P R os K):=rfl
theorem acB:rH P E R [] ⟨tm,S⟩ K=K ⟨tm,S⟩:=rfl
theorem Zk:rH P E R (o::os) ⟨tm,S⟩ K=nY P E R o ⟨tm,S⟩ (Hz P E R os K):=rfl
theorem Zl:Hz P E R [] K ⟨tm,S⟩=K ⟨tm,S⟩:=rfl
theorem Ww:Hz P E R (o::os) K ⟨tm,S⟩=nY P E R o ⟨tm,S⟩ (Hz P E R os K):=rfl
end
section
variable {dst:Option Nat} {ty:TypeId} {pos:String} {after:Array Edge} {g:Option (Nat×Bool)} {K:St->Prop}
theorem Tn{t:TypeId}:iw P ⟨dst,.alloc t,ty,pos,after,g⟩ s K=dA P ⟨dst,.alloc t,ty,pos,after,g⟩ s K:=rfl
theorem Zm{t:TypeId}{x:Operand}:iw P ⟨dst,.box t x,ty,pos,after,g⟩ s K=dA P ⟨dst,.box t x,ty,pos,after,g⟩ s K:=rfl
theorem Tp{t:TypeId}{a x:Operand}:iw P ⟨dst,.store t a x,ty,pos,after,g⟩ s K=dA P ⟨dst,.store t a x,ty,pos,after,g⟩ s K:=rfl
theorem Wx{t:TypeId}{a x:Operand}:iw P ⟨dst,.makeSlice t a x,ty,pos,after,g⟩ s K=dA P ⟨dst,.makeSlice t a x,ty,pos,after,g⟩ s K:=rfl
theorem OZ{t:TypeId}{r:Option Operand}:iw P ⟨dst,.makeMap t r,ty,pos,after,g⟩ s K=dA P ⟨dst,.makeMap t r,ty,pos,after,g⟩ s K:=rfl
theorem KG{t:TypeId}{x k v:Operand}:iw P ⟨dst,.mapUpdate t x k v,ty,pos,after,g⟩ s K=dA P ⟨dst,.mapUpdate t x k v,ty,pos,after,g⟩ s K:=rfl
theorem QS{t:TypeId}{x i:Operand}{b:Bool}:iw P ⟨dst,.lookup t x i b,ty,pos,after,g⟩ s K=dA P ⟨dst,.lookup t x i b,ty,pos,after,g⟩ s K:=rfl
theorem Wy{x:Operand}{as:Array Operand}{ts:Array TypeId}:iw P ⟨dst,.call ⟨.value x,as,ts⟩,ty,pos,after,g⟩ s K=dA P ⟨dst,.call ⟨.value x,as,ts⟩,ty,pos,after,g⟩ s K:=rfl
theorem Zn{as:Array Operand}{ts:Array TypeId}:iw P ⟨dst,.call ⟨.builtin .len,as,ts⟩,ty,pos,after,g⟩ s K=dA P ⟨dst,.call ⟨.builtin .len,as,ts⟩,ty,pos,after,g⟩ s K:=rfl
theorem Zo{as:Array Operand}{ts:Array TypeId}:iw P ⟨dst,.call ⟨.builtin .max,as,ts⟩,ty,pos,after,g⟩ s K=dA P ⟨dst,.call ⟨.builtin .max,as,ts⟩,ty,pos,after,g⟩ s K:=rfl
theorem Zp{as:Array Operand}{ts:Array TypeId}:iw P ⟨dst,.call ⟨.builtin .min,as,ts⟩,ty,pos,after,g⟩ s K=dA P ⟨dst,.call ⟨.builtin .min,as,ts⟩,ty,pos,after,g⟩ s K:=rfl
theorem Wz{x:Operand}:iw P ⟨dst,.move x,ty,pos,after,g⟩ s K=dA P ⟨dst,.move x,ty,pos,after,g⟩ s K:=rfl
theorem QT{x:Operand}:iw P ⟨dst,.assign x,ty,pos,after,g⟩ s K=dA P ⟨dst,.assign x,ty,pos,after,g⟩ s K:=rfl
theorem WA{c a b:Operand}:iw P ⟨dst,.pick c a b,ty,pos,after,g⟩ s K=dA P ⟨dst,.pick c a b,ty,pos,after,g⟩ s K:=rfl
theorem WB{t:TypeId}{a:Operand}:iw P ⟨dst,.load t a,ty,pos,after,g⟩ s K=dA P ⟨dst,.load t a,ty,pos,after,g⟩ s K:=rfl
theorem KH{t:TypeId}{x:Operand}{f:Nat}:iw P ⟨dst,.fieldAddr t x f,ty,pos,after,g⟩ s K=dA P ⟨dst,.fieldAddr t x f,ty,pos,after,g⟩ s K:=rfl
theorem Tq{t:TypeId}{x:Operand}{f:Nat}:iw P ⟨dst,.field t x f,ty,pos,after,g⟩ s K=dA P ⟨dst,.field t x f,ty,pos,after,g⟩ s K:=rfl
theorem KI{t:TypeId}{x i:Operand}:iw P ⟨dst,.indexAddr t x i,ty,pos,after,g⟩ s K=dA P ⟨dst,.indexAddr t x i,ty,pos,after,g⟩ s K:=rfl
theorem Tt{t:TypeId}{x i:Operand}:iw P ⟨dst,.index t x i,ty,pos,after,g⟩ s K=dA P ⟨dst,.index t x i,ty,pos,after,g⟩ s K:=rfl
theorem Tv{op:BinOp}{t u:TypeId}{x y:Operand}:iw P ⟨dst,.binOp op t x y u,ty,pos,after,g⟩ s K=dA P ⟨dst,.binOp op t x y u,ty,pos,after,g⟩ s K:=rfl
theorem WC{op:UnOp}{t:TypeId}{x:Operand}:iw P ⟨dst,.unOp op t x,ty,pos,after,g⟩ s K=dA P ⟨dst,.unOp op t x,ty,pos,after,g⟩ s K:=rfl
theorem O0{a b:TypeId}{x:Operand}:iw P ⟨dst,.convert a b x,ty,pos,after,g⟩ s K=dA P ⟨dst,.convert a b x,ty,pos,after,g⟩ s K:=rfl
theorem O1{x:Operand}{i:Nat}:iw P ⟨dst,.extract x i,ty,pos,after,g⟩ s K=dA P ⟨dst,.extract x i,ty,pos,after,g⟩ s K:=rfl
theorem MK{fn:Fn}{a b:Array Operand}:iw P ⟨dst,.makeFunc fn a b,ty,pos,after,g⟩ s K=dA P ⟨dst,.makeFunc fn a b,ty,pos,after,g⟩ s K:=rfl
theorem ML{x:Operand}:iw P ⟨dst,.nilCheck x,ty,pos,after,g⟩ s K=dA P ⟨dst,.nilCheck x,ty,pos,after,g⟩ s K:=rfl
theorem Tw{t:TypeId}{x:Operand}{lo hi mx:Option Operand}:iw P ⟨dst,.slice t x lo hi mx,ty,pos,after,g⟩ s K=dA P ⟨dst,.slice t x lo hi mx,ty,pos,after,g⟩ s K:=rfl
theorem Tx{t:TypeId}{parts:Array (Nat×Operand)}:iw P ⟨dst,.build t parts,ty,pos,after,g⟩ s K=dA P ⟨dst,.build t parts,ty,pos,after,g⟩ s K:=rfl
theorem QU{x y:Operand}{t u:TypeId}:iw P ⟨dst,.call ⟨.builtin .append,#[x,y],#[t,u]⟩,ty,pos,after,g⟩ s K=Aj P t u (ev s.tm x) (ev s.tm y) s dst K:=rfl
theorem Js{t:TypeId}{n:Nat}{parts:Array (Nat×Operand)}:iw P ⟨dst,.buildSlice t n parts,ty,pos,after,g⟩ s K=FQ P t s dst K (V7 s.st t) (lD P (oh s.st) t n (NR s.tm parts.toList)):=rfl
theorem WE{t:TypeId}:dA P ⟨dst,.alloc t,ty,pos,after,g⟩ s K=tV P t s dst K:=rfl
theorem acC{t:TypeId}{x:Operand}:dA P ⟨dst,.box t x,ty,pos,after,g⟩ s K=AB (ev s.tm x) s dst K:=rfl
theorem WG{t:TypeId}{a x:Operand}:dA P ⟨dst,.store t a x,ty,pos,after,g⟩ s K=tX P t (ev s.tm a) (ev s.tm x) s dst K:=rfl
theorem Zq{t:TypeId}{a x:Operand}:dA P ⟨dst,.makeSlice t a x,ty,pos,after,g⟩ s K=wL P t (ev s.tm a) (ev s.tm x) s dst K:=rfl
theorem QV{t:TypeId}:dA P ⟨dst,.makeMap t none,ty,pos,after,g⟩ s K=sP s dst K:=rfl
theorem MN{t:TypeId}{x k v:Operand}:dA P ⟨dst,.mapUpdate t x k v,ty,pos,after,g⟩ s K=sQ P t (ev s.tm x) (ev s.tm k) (ev s.tm v) s dst K:=rfl
theorem Tz{t:TypeId}{x i:Operand}:dA P ⟨dst,.lookup t x i false,ty,pos,after,g⟩ s K=gL s dst K (xQ P s.st t (ev s.tm x) (ev s.tm i)):=rfl
theorem O3{t:TypeId}:fO P E ⟨dst,.makeMap t none,ty,pos,after,g⟩ s K=sP s dst K:=rfl
theorem KJ{t:TypeId}{x k v:Operand}:fO P E ⟨dst,.mapUpdate t x k v,ty,pos,after,g⟩ s K=sQ P t (ev s.tm x) (ev s.tm k) (ev s.tm v) s dst K:=rfl
theorem QW{t:TypeId}{x i:Operand}:fO P E ⟨dst,.lookup t x i false,ty,pos,after,g⟩ s K=gL s dst K (xQ P s.st t (ev s.tm x) (ev s.tm i)):=rfl
theorem Zr{c:Call}:dA P ⟨dst,.call c,ty,pos,after,g⟩ s K=mM P c s dst K:=rfl
theorem Zt{x:Operand}:dA P ⟨dst,.move x,ty,pos,after,g⟩ s K=K (s.put dst (ev s.tm x)):=by simp[dA,nval,mK]
theorem TA{x:Operand}:dA P ⟨dst,.assign x,ty,pos,after,g⟩ s K=K (s.put dst (ev s.tm x)):=by simp[dA,nval,mK]
theorem Zu{c a b:Operand}:dA P ⟨dst,.pick c a b,ty,pos,after,g⟩ s K=gL s dst K (He (ev s.tm c) (ev s.tm a) (ev s.tm b)):=rfl
theorem Zv{t:TypeId}{a:Operand}:dA P ⟨dst,.load t a,ty,pos,after,g⟩ s K=gL s dst K (zS P s.st t (ev s.tm a)):=rfl
theorem MO{t:TypeId}{x:Operand}{f:Nat}:dA P ⟨dst,.fieldAddr t x f,ty,pos,after,g⟩ s K=gL s dst K (rE P s.st t (ev s.tm x) f):=rfl
theorem WH{t:TypeId}{x:Operand}{f:Nat}:dA P ⟨dst,.field t x f,ty,pos,after,g⟩ s K=gL s dst K (Db P t (ev s.tm x) f):=rfl
theorem MP{t:TypeId}{x i:Operand}:dA P ⟨dst,.indexAddr t x i,ty,pos,after,g⟩ s K=gL s dst K (rF P s.st t (ev s.tm x) (ev s.tm i)):=rfl
theorem WI{t:TypeId}{x i:Operand}:dA P ⟨dst,.index t x i,ty,pos,after,g⟩ s K=gL s dst K (Dc P t (ev s.tm x) (ev s.tm i)):=rfl
theorem WJ{op:BinOp}{t u:TypeId}{x y:Operand}:dA P ⟨dst,.binOp op t x y u,ty,pos,after,g⟩ s K=gL s dst K (Ms P op t (ev s.tm x) (ev s.tm y)):=rfl
theorem Zw{op:UnOp}{t:TypeId}{x:Operand}:dA P ⟨dst,.unOp op t x,ty,pos,after,g⟩ s K=gL s dst K (UQ op (ev s.tm x)):=rfl
theorem QX{a b:TypeId}{x:Operand}:dA P ⟨dst,.convert a b x,ty,pos,after,g⟩ s K=gL s dst K (Hg P a b (ev s.tm x)):=rfl
theorem QY{x:Operand}{i:Nat}:dA P ⟨dst,.extract x i,ty,pos,after,g⟩ s K=gL s dst K (xP (ev s.tm x) i):=rfl
theorem O4{fn:Fn}{a b:Array Operand}:dA P ⟨dst,.makeFunc fn a b,ty,pos,after,g⟩ s K=gL s dst K (vQ fn (Dp s.tm a.toList) (Dp s.tm b.toList)):=rfl
theorem O5{x:Operand}:dA P ⟨dst,.nilCheck x,ty,pos,after,g⟩ s K=gL s dst K (vR s.st (ev s.tm x)):=rfl
theorem WK{t:TypeId}{x:Operand}{lo hi mx:Option Operand}:dA P ⟨dst,.slice t x lo hi mx,ty,pos,after,g⟩ s K=gL s dst K (Df P t (ev s.tm x) (NQ s.tm lo) (NQ s.tm hi) (NQ s.tm mx)):=rfl
theorem WL{t:TypeId}{parts:Array (Nat×Operand)}:dA P ⟨dst,.build t parts,ty,pos,after,g⟩ s K=gL s dst K (Dg P t (NR s.tm parts.toList)):=rfl
theorem KL{t:TypeId}{n:Nat}{parts:Array (Nat×Operand)}:dA P ⟨dst,.buildSlice t n parts,ty,pos,after,g⟩ s K=gL s dst K (lD P (oh s.st) t n (NR s.tm parts.toList)):=rfl
theorem TB{t:TypeId}:fO P E ⟨dst,.alloc t,ty,pos,after,g⟩ s K=tV P t s dst K:=rfl
theorem Zx{t:TypeId}{x:Operand}:fO P E ⟨dst,.box t x,ty,pos,after,g⟩ s K=AB (ev s.tm x) s dst K:=rfl
theorem TD{t:TypeId}{a x:Operand}:fO P E ⟨dst,.store t a x,ty,pos,after,g⟩ s K=tX P t (ev s.tm a) (ev s.tm x) s dst K:=rfl
theorem WM{t:TypeId}{a x:Operand}:fO P E ⟨dst,.makeSlice t a x,ty,pos,after,g⟩ s K=wL P t (ev s.tm a) (ev s.tm x) s dst K:=rfl
theorem QZ{args:Array Operand}{ts:Array TypeId}:fO P E ⟨dst,.call ⟨.builtin .append,args,ts⟩,ty,pos,after,g⟩ s K=mM P ⟨.builtin .append,args,ts⟩ s dst K:=rfl
theorem WO{x:Operand}:fO P E ⟨dst,.move x,ty,pos,after,g⟩ s K=K (s.put dst (ev s.tm x)):=by simp[fO,qG,nval,mK]
theorem Q0{x:Operand}:fO P E ⟨dst,.assign x,ty,pos,after,g⟩ s K=K (s.put dst (ev s.tm x)):=by simp[fO,qG,nval,mK]
theorem WQ{c a b:Operand}:fO P E ⟨dst,.pick c a b,ty,pos,after,g⟩ s K=gL s dst K (He (ev s.tm c) (ev s.tm a) (ev s.tm b)):=rfl
theorem WR{t:TypeId}{a:Operand}:fO P E ⟨dst,.load t a,ty,pos,after,g⟩ s K=gL s dst K (zS P s.st t (ev s.tm a)):=rfl
theorem KM{t:TypeId}{x:Operand}{f:Nat}:fO P E ⟨dst,.fieldAddr t x f,ty,pos,after,g⟩ s K=gL s dst K (rE P s.st t (ev s.tm x) f):=rfl
theorem TF{t:TypeId}{x:Operand}{f:Nat}:fO P E ⟨dst,.field t x f,ty,pos,after,g⟩ s K=gL s dst K (Db P t (ev s.tm x) f):=rfl
theorem KN{t:TypeId}{x i:Operand}:fO P E ⟨dst,.indexAddr t x i,ty,pos,after,g⟩ s K=gL s dst K (rF P s.st t (ev s.tm x) (ev s.tm i)):=rfl
theorem TG{t:TypeId}{x i:Operand}:fO P E ⟨dst,.index t x i,ty,pos,after,g⟩ s K=gL s dst K (Dc P t (ev s.tm x) (ev s.tm i)):=rfl
theorem TH{op:BinOp}{t u:TypeId}{x y:Operand}:fO P E ⟨dst,.binOp op t x y u,ty,pos,after,g⟩ s K=gL s dst K (Ms P op t (ev s.tm x) (ev s.tm y)):=rfl
theorem WS{op:UnOp}{t:TypeId}{x:Operand}:fO P E ⟨dst,.unOp op t x,ty,pos,after,g⟩ s K=gL s dst K (UQ op (ev s.tm x)):=rfl
theorem O6{a b:TypeId}{x:Operand}:fO P E ⟨dst,.convert a b x,ty,pos,after,g⟩ s K=gL s dst K (Hg P a b (ev s.tm x)):=rfl
theorem O7{x:Operand}{i:Nat}:fO P E ⟨dst,.extract x i,ty,pos,after,g⟩ s K=gL s dst K (xP (ev s.tm x) i):=rfl
theorem MQ{fn:Fn}{a b:Array Operand}:fO P E ⟨dst,.makeFunc fn a b,ty,pos,after,g⟩ s K=gL s dst K (vQ fn (Dp s.tm a.toList) (Dp s.tm b.toList)):=rfl
theorem MR{x:Operand}:fO P E ⟨dst,.nilCheck x,ty,pos,after,g⟩ s K=gL s dst K (vR s.st (ev s.tm x)):=rfl
theorem TI{t:TypeId}{x:Operand}{lo hi mx:Option Operand}:fO P E ⟨dst,.slice t x lo hi mx,ty,pos,after,g⟩ s K=gL s dst K (Df P t (ev s.tm x) (NQ s.tm lo) (NQ s.tm hi) (NQ s.tm mx)):=rfl
theorem TJ{t:TypeId}{parts:Array (Nat×Operand)}:fO P E ⟨dst,.build t parts,ty,pos,after,g⟩ s K=gL s dst K (Dg P t (NR s.tm parts.toList)):=rfl
theorem Jt{t:TypeId}{n:Nat}{parts:Array (Nat×Operand)}:fO P E ⟨dst,.buildSlice t n parts,ty,pos,after,g⟩ s K=gL s dst K (lD P (oh s.st) t n (NR s.tm parts.toList)):=rfl
theorem Zy{args:Array Operand}{ts:Array TypeId}:fO P E ⟨dst,.call ⟨.builtin .len,args,ts⟩,ty,pos,after,g⟩ s K=gL s dst K (nval P s.st s.tm (.call ⟨.builtin .len,args,ts⟩)):=rfl
theorem Zz{x y:Operand}{ts:Array TypeId}:fO P E ⟨dst,.call ⟨.builtin .max,#[x,y],ts⟩,ty,pos,after,g⟩ s K=gL s dst K (vG true (ev s.tm x) (ev s.tm y)):=rfl
theorem ZA{x y:Operand}{ts:Array TypeId}:fO P E ⟨dst,.call ⟨.builtin .min,#[x,y],ts⟩,ty,pos,after,g⟩ s K=gL s dst K (vG false (ev s.tm x) (ev s.tm y)):=rfl
theorem WU{x:Operand}{args:Array Operand}{ts:Array TypeId}:fO P E ⟨dst,.call ⟨.value x,args,ts⟩,ty,pos,after,g⟩ s K=yJ P (E (.call ⟨.value x,args,ts⟩)) (ev s.tm x) (Dp s.tm args.toList) s dst K:=by
 simp only[fO,qG];generalize E (.call ⟨.value x,args,ts⟩)=m
 match m with
 |0=>
  simp only[Ea];generalize ev s.tm x=fv
  cases fv with
  |c x=>cases x<;>simp[yJ,El,CK,Dp]
  |_=>simp[yJ]
 |1=>
  simp only[dA,mM];generalize ev s.tm x=fv
  cases fv with
  |c x=>cases x<;>simp[yJ,El,CK,Dp]
  |_=>simp[yJ]
 |m+2=>
  simp only[dA,mM];generalize ev s.tm x=fv
  cases fv with
  |c x=>cases x<;>simp[yJ,El,CK,Dp]
  |_=>simp[yJ]
end
def yK(v:V)(A B:St->Prop)(s:St):Prop:=
 match v with
 | .c (.d (.b x))=>Split x A B s
 |_=>False
def CW(P:Program)(N:Nat):Code->(Exit->St->Prop)->St->Prop
 | .seq x y,Q,s=>CW P N x (jP (CW P N y Q) Q) s
 | .region _ R false,Q,s=>AL P R R.toList s (Q .normal)
 | .region _ R true,Q,s=>rH P (Kw R N) R R.toList s (Q .normal)
 | .cond c x y,Q,s=>yK (ev s.tm c) (CW P N x Q) (CW P N y Q) s
 | .block id c,Q,s=>CW P N c (wP id Q) s
 | .exit id,Q,s=>Q (.exit id) s
 | .ret,Q,s=>Q .ret s
 | .skip,Q,s=>Q .normal s
 | .loop c,Q,s=>AW P N (.loop c) Q s
 |_,_,_=>False
def ajX(N:Nat)(R:Array Oper):Bool:=R.toList.all (fun o=>match o.dst with|some d=>decide (d<N)|none=>true)
def codeOk(N:Nat):Code->Bool
 | .seq x y=>codeOk N x&&codeOk N y
 | .region _ R false=>ajX N R
 | .region _ R true=>MH R N
 | .cond _ x y=>codeOk N x&&codeOk N y
 | .block _ c=>codeOk N c
 | .loop c=>codeOk N c
 |_=>true
theorem jG(fu:P.follows .mixedOrders=true):∀(c:Code)(Q:Exit->St->Prop)(s:St),codeOk N c=true->CW P N c Q s->AW P N c Q s
 | .seq x y,Q,s,ok,h=>by
   simp only[codeOk,Bool.and_eq_true] at ok;refine Qu (AW.mono (jG fu x _ s ok.1 h) fun e s' h'=> ?_)
   cases e with
   |normal=>exact jG fu y Q s' ok.2 h'
   |_=>exact h'
 | .region _ R false,Q,s,ok,h=>Y1 ok h
 | .region _ R true,Q,s,ok,h=>Wn fu ok h
 | .cond c x y,Q,s,ok,h=>by
   simp only[codeOk,Bool.and_eq_true] at ok;simp only[CW,yK] at h;split at h
   ·rename_i b hb;exact ME hb (fun e=>jG fu x Q s ok.1 (h.1 e)) (fun e=>jG fu y Q s ok.2 (h.2 e))
   ·exact h.elim
 | .block id c,Q,s,ok,h=>Jm (jG fu c _ s ok h)
 | .exit id,Q,s,ok,h=>afL h
 | .ret,Q,s,ok,h=>ahG h
 | .skip,Q,s,ok,h=>afK h
 | .loop c,Q,s,ok,h=>h
 | .rangeFunc _ _ _ _,Q,s,ok,h=>h.elim
 | .scope _,Q,s,ok,h=>h.elim
 | .label _,Q,s,ok,h=>h.elim
 | .goto _,Q,s,ok,h=>h.elim
 | .refuse _,Q,s,ok,h=>h.elim
theorem ahY{x y:Code}{Q:Exit->St->Prop}:CW P N (.seq x y) Q s=CW P N x (jP (CW P N y Q) Q) s:=by rw[CW]
theorem ZB{id:Nat}{l:List Oper}{Q:Exit->St->Prop}:CW P N (.region id ⟨l⟩ false) Q s=AL P ⟨l⟩ l s (Q .normal):=by rw[CW]
theorem af0{id:Nat}{l:List Oper}{Q:Exit->St->Prop}:CW P N (.region id ⟨l⟩ true) Q s=rH P (Kw ⟨l⟩ N) ⟨l⟩ l s (Q .normal):=by rw[CW]
theorem af2{c:Operand}{x y:Code}{Q:Exit->St->Prop}:CW P N (.cond c x y) Q s=yK (ev s.tm c) (CW P N x Q) (CW P N y Q) s:=by rw[CW]
theorem acD{id:Nat}{c:Code}{Q:Exit->St->Prop}:CW P N (.block id c) Q s=CW P N c (wP id Q) s:=by rw[CW]
theorem af3{id:Nat}{Q:Exit->St->Prop}:CW P N (.exit id) Q s=Q (.exit id) s:=by rw[CW]
theorem ahZ{Q:Exit->St->Prop}:CW P N .ret Q s=Q .ret s:=by rw[CW]
theorem af4{Q:Exit->St->Prop}:CW P N .skip Q s=Q .normal s:=by rw[CW]
theorem MS{c:Code}{Q:Exit->St->Prop}:CW P N (.loop c) Q s=AW P N (.loop c) Q s:=by rw[CW]
theorem Q5{K:St->Prop}{Q:Exit->St->Prop}:jP K Q .normal s=K s:=rfl
theorem ZC{K:St->Prop}{Q:Exit->St->Prop}:jP K Q .ret s=Q .ret s:=rfl
theorem WV{K:St->Prop}{Q:Exit->St->Prop}{i:Nat}:jP K Q (.exit i) s=Q (.exit i) s:=rfl
theorem Q6{id:Nat}{Q:Exit->St->Prop}:wP id Q .normal s=Q .normal s:=rfl
theorem ZE{id:Nat}{Q:Exit->St->Prop}:wP id Q .ret s=Q .ret s:=rfl
theorem WW{id i:Nat}{Q:Exit->St->Prop}:wP id Q (.exit i) s=if i=id then Q .normal s else Q (.exit i) s:=rfl
def acE(post:V->Store->Prop)(s:St)(r:R):Prop:=r.1/\match r.2.ret with
 |some v=>post v (gF s.st)
 |none=>False
theorem af5{post:V->Store->Prop}{p:Prop}{v:V}:acE post s (p,v)=(p/\match v.ret with
 |some v=>post v (gF s.st)
 |none=>False):=rfl
def Ju(P:Program)(rs:List ResultVar)(post:V->Store->Prop)(e:Exit)(s:St):Prop:=abR P rs post e (Dn s)
def Q7(P:Program)(rs:List ResultVar)(post:V->Store->Prop)(s:St):Prop:=acE post s (nM P rs s)
theorem acF{rs:List ResultVar}{post:V->Store->Prop}:Ju P rs post .ret s=Q7 P rs post (Dn s):=rfl
theorem TK{rs:List ResultVar}{post:V->Store->Prop}:Ju P rs post .normal s=Q7 P rs post (Dn s):=rfl
theorem af6{rs:List ResultVar}{post:V->Store->Prop}{tm:List (Nat×V)}:Q7 P rs post ⟨tm,S⟩=acE post ⟨tm,S⟩ (nM P rs ⟨tm,S⟩):=rfl
def ah0(j:Nat)(es:List (List D))(tm:List (Nat×V)):List (Nat×V):=tm.map fun x=>(x.1,x.2.mH j es)
theorem ZF{j:Nat}{es:List (List D)}{tm:List (Nat×V)}{t:Nat}:look (ah0 j es tm) t=(look tm t).mH j es:=Ej (f:=V.mH j es) rfl tm t
def ah1(j:Nat)(tm:List (Nat×V))(own:List Obj)(Ω:Store):Option Obj->St
 |some (.eP _ es)=>⟨ah0 j es tm,(own.map (Obj.mH j es)).set j .dead::Ω⟩
 |_=>⟨tm,own::Ω⟩
theorem acG{j:Nat}{tm:List (Nat×V)}{own:List Obj}{Ω:Store}:KE j ⟨tm,own::Ω⟩=ah1 j tm own Ω (own[j]?):=by
 unfold KE
 simp only
 generalize own[j]? =o
 cases o with
 |none=>rfl
 |some o=>cases o<;>rfl
theorem ZG{tm:List (Nat×V)}{own:List Obj}{Ω:Store}:Dn ⟨tm,own::Ω⟩=KF own.length ⟨tm,own::Ω⟩:=rfl
theorem aW{f:FuncId}{fn:Func}{c:Code}{args:List V}{post:V->Store->Prop}{rs:List ResultVar}(fu:P.follows .mixedOrders=true)(hf:P.funcs[f]? =some fn)(hN:fn.ntmps=N)
 (hb:fn.body=some c) (hn:(fn.name== "runtime.NumGoroutine")=false) (hr:fn.results.toList=rs) (hl:Nat.ble args.length N=true) (hok:codeOk N c=true)
 (h:CW P N c (Ju P rs post) ⟨kM (args.map (V.up 1)) 0,[]::S⟩):cB P f args S post:=by
 subst hN;subst hr;exact qm hf hb hn (Nat.le_of_ble_eq_true hl) (AU uh (jG fu c _ _ hok h))
end
theorem af7(n:Int)(h: -9223372036854775808<=n/\n<=9223372036854775807):IntKind.i64.wrap n=n:=IntWalk.i64_in n h
theorem wrap_u8(n:Int)(h:0<=n/\n<=255):IntKind.u8.wrap n=n:=IntWalk.u8_in n h
theorem getD_map{α β:Type}(f:α->β)(l:List α)(i:Nat)(d:β)(h:i<l.length):(l.map f).getD i d=f l[i]:=by
 simp[List.getD,h]
theorem WX{k:IntKind}{n:Int}:Av (.int k n)=.c (.d (.i k n)):=rfl
theorem TL{b:Bool}:Av (.bool b)=.c (.d (.b b)):=rfl
theorem WY{l:List UInt8}:Av (.string ⟨⟨l⟩⟩)=.c (.d (.s l)):=rfl
theorem TM:Av (.slice none 0 0)=.c (.bI []):=rfl
theorem acH{tm:List (Nat×V)}{S:Store}{d:Nat}{v:V}:St.put ⟨tm,S⟩ (some d) v=⟨(d,v)::tm,S⟩:=rfl
theorem acI{tm:List (Nat×V)}{S:Store}{v:V}:St.put ⟨tm,S⟩ none v=⟨tm,S⟩:=rfl
theorem ah2{a b:V}:He (.c (.d (.b true))) a b=(True,a):=rfl
theorem ah3{a b:V}:He (.c (.d (.b false))) a b=(True,b):=rfl
theorem TN{tm:List (Nat×V)}{own:List Obj}{Ω:Store}{dst:Option Nat}{o:Obj}{mk:Key->V}{K:St->Prop}:
 newObj ⟨tm,own::Ω⟩ dst o mk K=K (St.put ⟨tm,(own++[o])::Ω⟩ dst (mk (0,own.length))):=rfl
theorem ah4{x:C}{s:St}{dst:Option Nat}{K:St->Prop}:AB (.c x) s dst K=newObj s dst (.box [x]) (fun k=>.c (.ptr k 0)) K:=rfl
theorem acJ{x:List C}{s:St}{dst:Option Nat}{K:St->Prop}:AB (.agg x) s dst K=newObj s dst (.box x) (fun k=>.c (.ptr k 0)) K:=rfl
theorem acK{α β:Type}{f:α->Option β}:([]:List α).mapM f=some []:=by simp
theorem ZH{α β:Type}{f:α->Option β}{x:α}{xs:List α}:(x::xs).mapM f=(f x).bind fun y=>(xs.mapM f).bind fun ys=>some (y::ys):=by
 rw[List.mapM_cons];rfl
theorem ajY{c:C}:C.down 0 c=some c:=by cases c<;>simp[C.down]
theorem acM{n m j:Nat}{es:List (List D)}:C.down n (.bS (n+m,j) es)=some (.bS (m,j) es):=by simp[C.down]
theorem ZI{n j:Nat}{es:List (List D)}:C.down n (.bS (n,j) es)=some (.bS (0,j) es):=by simp[C.down]
theorem ah5{n:Nat}{x:D}:C.down n (.d x)=some (.d x):=rfl
theorem acN{n:Nat}:C.down n .any=some .any:=rfl
theorem acO{n:Nat}{es:List (List D)}:C.down n (.bI es)=some (.bI es):=rfl
theorem acP{n m j off:Nat}:C.down n (.ptr (n+m,j) off)=some (.ptr (m,j) off):=by simp[C.down]
theorem ZJ{n j off:Nat}:C.down n (.ptr (n,j) off)=some (.ptr (0,j) off):=by simp[C.down]
theorem acQ{n m:Nat}{es:List (List D)}:C.down n (.nG m es)=some (.nG m es):=rfl
theorem acR{Ω:Store}:oh ([]::Ω)=none:=rfl
theorem acS{cs:List C}{own:List Obj}{Ω:Store}:oh ((.box cs::own)::Ω)=none:=rfl
theorem acT{z:Nat}{es:List (List D)}{own:List Obj}{Ω:Store}:oh ((.tok z es::own)::Ω)=none:=rfl
theorem ZK{z:Nat}{es:List (List D)}{own:List Obj}{Ω:Store}:oh ((.eP z es::own)::Ω)=none:=rfl
theorem af8{m:List (List UInt8)}{own:List Obj}{Ω:Store}:oh ((.mp m::own)::Ω)=none:=rfl
theorem ZL{own:List Obj}{Ω:Store}:oh ((.dead::own)::Ω)=none:=rfl
theorem ZM{n z:Nat}{es:List (List D)}{own:List Obj}{Ω:Store}:oh ((.jm n z es::own)::Ω)=none:=rfl
theorem ZN{n:Nat}{own:List Obj}{Ω:Store}:oh ((.seed n::own)::Ω)=some n:=rfl
theorem ZO{es x:List (List D)}{z:Nat}{s:St}{dst:Option Nat}{K:St->Prop}:AJ none es s dst z x K=zw (wM s.st) es s dst z x K:=rfl
theorem WZ{es x:List (List D)}{z:Nat}{s:St}{dst:Option Nat}{K:St->Prop}:zw false es s dst z x K=newObj s dst (.tok z x) (fun k=>.c (.bS k x)) K:=rfl
theorem ZP{es x:List (List D)}{z:Nat}{s:St}{dst:Option Nat}{K:St->Prop}:zw true es s dst z x K=(es.length<x.length/\newObj s dst (.eP z x) (fun k=>.c (.iJ k)) K):=rfl
theorem acU{Ω:Store}:wM ([]::Ω)=false:=rfl
theorem acV{cs:List C}{own:List Obj}{Ω:Store}:wM ((.box cs::own)::Ω)=false:=rfl
theorem acW{z:Nat}{es:List (List D)}{own:List Obj}{Ω:Store}:wM ((.tok z es::own)::Ω)=false:=rfl
theorem ZQ{z:Nat}{es:List (List D)}{own:List Obj}{Ω:Store}:wM ((.eP z es::own)::Ω)=false:=rfl
theorem af9{m:List (List UInt8)}{own:List Obj}{Ω:Store}:wM ((.mp m::own)::Ω)=false:=rfl
theorem ZR{own:List Obj}{Ω:Store}:wM ((.dead::own)::Ω)=false:=rfl
theorem ZT{n z:Nat}{es:List (List D)}{own:List Obj}{Ω:Store}:wM ((.jm n z es::own)::Ω)=false:=rfl
theorem ZU{n:Nat}{own:List Obj}{Ω:Store}:wM ((.seed n::own)::Ω)=false:=rfl
theorem aga{own:List Obj}{Ω:Store}:wM ((.xf []::own)::Ω)=false:=rfl
theorem acX{own:List Obj}{Ω:Store}{r:List (List D)}{rs:List (List (List D))}:wM ((.xf (r::rs)::own)::Ω)=true:=rfl
theorem acY{n:Nat}{x:List (List D)}{z:Nat}{s:St}{dst:Option Nat}{K:St->Prop}:AJ (some n) [] s dst z x K=K (St.put ⟨s.tm,s.st⟩ dst (.c (.d (.ol n x)))):=rfl
theorem ZV{n:Nat}{y:List D}{es x:List (List D)}{z:Nat}{s:St}{dst:Option Nat}{K:St->Prop}:AJ (some n) (y::es) s dst z x K=newObj s dst (.tok z x) (fun k=>.c (.bS k x)) K:=rfl
theorem W9{n:Nat}{x:List (List D)}{z:Nat}{s:St}{dst:Option Nat}{K:St->Prop}:CB false n s dst z x K=newObj s dst (.jm n z x) (fun k=>.c (.bS k x)) K:=rfl
theorem ZW{n:Nat}{x:List (List D)}{z:Nat}{s:St}{dst:Option Nat}{K:St->Prop}:CB true n s dst z x K=K (St.put ⟨s.tm,s.st⟩ dst (.c (.d (.ol n x)))):=rfl
theorem acZ{own:List Obj}{Ω:Store}:V3 (own::Ω)=wN own[1]? :=rfl
theorem Xa:wN none=false:=rfl
theorem ZX{cs:List C}:wN (some (.box cs))=false:=rfl
theorem ZY{z:Nat}{es:List (List D)}:wN (some (.tok z es))=false:=rfl
theorem Xb{n z:Nat}{es:List (List D)}:wN (some (.jm n z es))=false:=rfl
theorem Xc{z:Nat}{es:List (List D)}:wN (some (.eP z es))=false:=rfl
theorem Xd:wN (some .dead)=false:=rfl
theorem ac0{m:List (List UInt8)}:wN (some (.mp m))=false:=rfl
theorem agb{own:List Obj}{Ω:Store}{t:TypeId}:V7 (own::Ω) t=zx own[0]? t:=rfl
theorem Z0{t:TypeId}:zx none t=false:=rfl
theorem ac1{t:TypeId}{cs:List C}:zx (some (.box cs)) t=false:=rfl
theorem ac2{t:TypeId}{z:Nat}{es:List (List D)}:zx (some (.tok z es)) t=false:=rfl
theorem Z4{t:TypeId}{n z:Nat}{es:List (List D)}:zx (some (.jm n z es)) t=false:=rfl
theorem Z5{t:TypeId}{z:Nat}{es:List (List D)}:zx (some (.eP z es)) t=false:=rfl
theorem Z6{t:TypeId}:zx (some .dead) t=false:=rfl
theorem agc{t:TypeId}{m:List (List UInt8)}:zx (some (.mp m)) t=false:=rfl
theorem Z7{t:TypeId}{n:Nat}:zx (some (.seed n)) t=false:=rfl
theorem agd{t:TypeId}:zx (some (.xf [])) t=rowIs t:=rfl
theorem ac3{t:TypeId}{r:List (List D)}{rs:List (List (List D))}:zx (some (.xf (r::rs))) t=false:=rfl
theorem Xe{P:Program}{t:TypeId}{s:St}{dst:Option Nat}{K:St->Prop}{r:R}:FQ P t s dst K false r=gL s dst K r:=rfl
theorem Z8{P:Program}{t:TypeId}{s:St}{dst:Option Nat}{K:St->Prop}{p:Prop}{es:List (List D)}:FQ P t s dst K true (p,.c (.bI es))=(match P.underlying t with
 |some (.slice e)=>p/\newObj s dst (.eP (P.cellsOf e) es) (fun k=>.c (.iJ k)) K
 |_=>False):=rfl
theorem agf{own:List Obj}{Ω:Store}{rs:List (List (List D))}:oh ((.xf rs::own)::Ω)=none:=rfl
theorem TP:wN (some (.seed 0))=false:=rfl
theorem TQ:wN (some (.seed 1))=true:=rfl
attribute [go_sem ↓] Tn Zm Tp Wx OZ KG QS Wy Zn Zo Zp Wz QT WA WB KH Tq KI Tt Tv WC O0 O1 MK ML Tw Tx QU Js
attribute [go_sem] agb Z0 ac1 ac2 Z4 Z5 Z6 agc Z7 agd ac3 rowIs Xe Z8 agf Aj Dj List.getElem?_nil
attribute [go_sem] WZ ZP acU acV acW ZQ af9 ZR ZT ZU aga acX ZO acY ZV W9 ZW acZ Xa ZX ZY Xb Xc Xd ac0 TP TQ
theorem ac4{P:Program}{t:TypeId}{n:Nat}{parts:List (Nat×V)}:lD P none t n parts=qh P t n parts:=rfl
def afh(m:Nat):R->R
 |(p,.c (.bI es))=>(p,.c (.nG m es))
 |_=>no
theorem ac5{m:Nat}{p:Prop}{es:List (List D)}:afh m (p,.c (.bI es))=(p,.c (.nG m es)):=rfl
theorem ac6{P:Program}{m:Nat}{t:TypeId}{n:Nat}{parts:List (Nat×V)}:lD P (some m) t n parts=afh m (qh P t n parts):=rfl
attribute [go_sem_proc] Nat.reduceEqDiff Nat.reduceAdd Nat.reduceLeDiff Nat.reduceSub Nat.reduceMul Nat.reduceBEq Int.reduceEq Int.reduceLT Int.reduceLE Int.reduceGT Int.reduceGE Int.reduceNeg Int.reduceToNat
attribute [go_sem_proc ↓] reduceIte
attribute [wf_preprocess] decide_eq_true_eq decide_eq_false_iff_not Bool.not_eq_true Bool.not_eq_false Bool.not_eq_eq_eq_not Bool.not_true Bool.not_false Classical.not_not
attribute [go_sem ↓] acA Zi Zj Wv acB Zk Zl Ww Tj Tk QM QN afZ acu Zd ahY ZB af0 af2 acD af3 ahZ af4 MS Q5 ZC WV Q6 ZE WW acF TK ZG Tm QO Zf Zg Zh Zz ZA WE acC WG Zq QV MN Tz O3 KJ QW Zr Zt TA Zu Zv MO WH MP WI WJ Zw QX QY O4 O5 WK WL KL TB Zx TD WM QZ WO Q0 WQ WR KM TF KN TG TH WS O6 O7 MQ MR TI TJ Jt Zy WU
attribute [go_sem] AV Wt Ti acv af6 af5 yK KF acG ah1 ZF V.mH C.mH Obj.mH acw acy acz CK
 Wq Ws afX aco acp acr afY acs ev WX TL WY TM Da acH acI look ah2 ah3 TN ah4 acJ tV tX wL qF Qm
 zS Hf wF headD VI rE Db BJ yR rF Dc VJ VK Ms VL UQ Hg xP DY Df wG vQ capOf vR
 P5 vG xQ sP sQ uW bA bq C.up V.up Aq gu kM V.ug C.ug ajY acM ZI ah5 acN acO acP ZJ
 List.map_cons List.map_nil List.append_nil List.nil_append List.length_nil List.length_cons List.cons_append Option.map_some Option.map_none Option.bind_some Option.bind_none
 List.getElem?_cons_zero List.getElem?_cons_succ List.set_cons_zero List.set_cons_succ List.drop_zero List.drop_succ_cons List.drop_nil List.take_zero List.take_succ_cons List.take_nil
 if_true if_false true_and and_true Int.toNat_natCast List.getElem?_toArray List.size_toArray Nat.zero_add Nat.add_zero Bool.false_eq_true Bool.true_eq_false Bool.not_true Bool.not_false reduceCtorEq
 decide_true decide_false List.all_cons List.all_nil Bool.and_true Bool.true_and Option.isSome_some Option.isSome_none af7 getD_map acK ZH J5 splice List.length_map DZ Dg vS qh List.size_toArray acR acS acT ZK af8 ZL ZM ZN ac4 ac6 ac5 acQ
section
variable {P:Program} {S S':Store} {N:Nat} {s:St}
def jQ:List Nat->List V->List (Nat×V)
 |t::ts,v::vs=>(t,v)::jQ ts vs
 |_,_=>[]
theorem vJ(f:Nat->V):∀(ts:List Nat)(t:Nat),look (jQ ts (ts.map f)) t=f t\/look (jQ ts (ts.map f)) t=.any
 |[],t=>.inr rfl
 |u::us,t=>by
  show(if u=t then f u else look (jQ us (us.map f)) t)=f t\/(if u=t then f u else look (jQ us (us.map f)) t)=.any;by_cases e:u=t
  ·left;rw[if_pos e,e]
  ·rw[if_neg e];exact vJ f us t
def Inv{ι:Type}(N:Nat)(ts:List Nat)(f:ι->List V)(g:ι->Store)(p:ι->Prop)(μ:ι->Nat)(i:ι)(s':St):Prop:=∃j s0,μ j<μ i/\gN N s' s0/\ts.map (look s0.tm)=f j/\s0.st=g j/\p j
theorem cZ{ι:Type}{ts:List Nat}{f:ι->List V}{g:ι->Store}{p:ι->Prop}{μ:ι->Nat}{i:ι}(j:ι)(h1:μ j<μ i)(h2:ts.map (look s.tm)=f j)(h3:s.st=g j)(h4:p j):Inv N ts f g p μ i s:=
 ⟨j,s,h1,gN.refl _ _,h2,h3,h4⟩
theorem AX:∀(ts:List Nat)(vs:List V),ts.Nodup->ts.length=vs.length->ts.map (look (jQ ts vs))=vs
 |[],[],_,_=>rfl
 |t::ts,v::vs,hn,hl=>by
  have hn':=List.nodup_cons.1 hn;have ih:=AX ts vs hn'.2 (by simpa using hl);simp only[jQ,List.map_cons,look,if_true,List.cons.injEq,true_and];rw[<-ih];refine List.map_congr_left fun u hu=> ?_;have hne:t≠u:=fun e=>hn'.1 (e▸hu);rw[if_neg hne,ih]
theorem dZ{ι:Type}{ts:List Nat}{f:ι->List V}{g:ι->Store}{p:ι->Prop}{μ:ι->Nat}{i:ι}{tm:List (Nat×V)}{own:List Obj}{Ω:Store}(n:Nat)(hnd:ts.Nodup)(j:ι)(h1:μ j<μ i)(h2:ts.map (look tm)=f j)(h3:own.take n::Ω=g j)
 (hr:oo n (jQ ts (f j))=true)(ho:(own.take n).all (Obj.refs n)=true)(h4:p j):Inv N ts f g p μ i ⟨tm,own::Ω⟩:=by
 refine⟨j,⟨jQ ts (f j),own.take n::Ω⟩,h1,?_,?_,h3,h4⟩
 ·have hg:gN N ⟨tm,own::Ω⟩ ⟨jQ ts (f j),own::Ω⟩:=by
   rw[<-h2];exact Jr fun t=>vJ _ ts t
  exact hg.trans (KA n hr ho)
 ·exact AX ts (f j) hnd (by rw[<-h2];simp)
theorem bO{ι:Type}{c:Code}{Q:Exit->St->Prop}(fu:P.follows .mixedOrders=true)(hok:codeOk N c=true)(ts:List Nat)(f:ι->List V)(g:ι->Store)(p:ι->Prop)(μ:ι->Nat)(i0:ι)
 (h1:ts.map (look s.tm)=f i0)(h2:s.st=g i0)(h3:p i0)
 (round:∀i,p i->CW P N c (jP (Inv N ts f g p μ i) Q) ⟨jQ ts (f i),g i⟩):AW P N (.loop c) Q s:=by
 refine MF (ι:=ι) (fun i s=>∃s0,gN N s s0/\ts.map (look s0.tm)=f i/\s0.st=g i/\p i) μ i0 ⟨s,gN.refl _ _,h1,h2,h3⟩ fun i s hI=> ?_;obtain⟨s0,hg,h1,h2,h3⟩:=hI;refine l9 ?_ hg
 have hr:=(jG fu c _ _ hok (round i h3)).mono (Q':=jP (fun s'=>∃j,μ j<μ i/\∃s0,gN N s' s0/\ts.map (look s0.tm)=f j/\s0.st=g j/\p j) Q) fun e s' h=>by
  cases e with
  |normal=>
   obtain⟨j,s0,a1,a2,a3,a4,a5⟩:=h;exact⟨j,a1,s0,a2,a3,a4,a5⟩
  |_=>exact h
 obtain⟨tm,st⟩:=s0;simp only at h1 h2;subst h2;rw[<-h1] at hr;exact Wp hr fun t=>vJ _ ts t
theorem ac7:nM P [] s=(True,.eu []):=rfl
theorem ac8{x:ResultVar}:nM P [x] s=wQ P s x:=rfl
theorem ac9{x y:ResultVar}{z:List ResultVar}:nM P (x::y::z) s=(match(om P s (x::y::z)).2 with
 |some ys=>((om P s (x::y::z)).1,.eu ys)
 |none=>no):=rfl
end
attribute [go_sem] FC Pt
attribute [go_sem] jQ ac7 ac8 ac9 wQ om Kt gF V.ret Hr
end Go.Ab