/-
  SEVERAL TEXTS IN ONE (merged by program): contracts and models, each with its own heading.
-/
import Derived.Test.YtfhpfkaeldgcmaaGreatPartHdbA
import Derived.LoopN
import Derived.StillTail
set_option linter.unusedSimpArgs false
set_option linter.unusedVariables false
namespace Go.Ab
def rowIs(t:TypeId):Bool:=t==52||t==57||t==43||t==42
def y5(o:Option Obj)(t:TypeId):Bool:=match o with
 |some (.xf [])=>rowIs t
 |_=>false
def Ve(S:Store)(t:TypeId):Bool:=y5 (bg S (0,0)) t
def Fj(P:Program)(t:TypeId)(s:St)(dst:Option Nat)(K:St->Prop)(b:Bool)(r:R):Prop:=
 match b,r with
 |false,r=>r.1/\K (s.put dst r.2)
 |true,(p,.c (.bI es))=>match P.underlying t with
  |some (.slice e)=>p/\newObj s dst (.eO (P.cellsOf e) es) (fun k=>.c (.iH k)) K
  |_=>False
 |true,_=>False
def CG(P:Program)(t u:TypeId)(k:Key)(y:V)(s:St)(dst:Option Nat)(K:St->Prop):Prop:=
 match P.underlying t,Pv P u y,bg s.st k with
 |some (.slice e),some ys,some (.eO aY es)=>aY=P.cellsOf e/\(∀y∈ys,y.length=P.cellsOf e)/\P.bytesOf e<=4096/\(∃zs,iK P e=some zs/\zs.length=P.cellsOf e)/\es.length+ys.length<=1073741824/\
   newObj ⟨s.tm,aX s.st k .dead⟩ dst (.eO aY (es++ys)) (fun k=>.c (.iH k)) K
 |_,_,_=>False
def zN(P:Program)(t u:TypeId)(x y:V)(s:St)(dst:Option Nat)(K:St->Prop):Prop:=
 match x with
 | .c (.iH k)=>CG P t u k y s dst K
 |x=>ql P t u x y s dst K
def gY(P:Program)(o:Oper)(s:St)(K:St->Prop):Prop:=
 match o.op with
 | .call {callee:=.builtin .append,args:=Bo,argTypes:=ts}=>match Bo.toList,ts.toList with
   |[x,y],[t,u]=>zN P t u (ev s.tm x) (ev s.tm y) s o.dst K
   |_,_=>False
 | .buildSlice t n parts=>Fj P t s o.dst K (Ve s.st t) (nval P s.st s.tm (.buildSlice t n parts))
 |_=>dx P o s K
section
variable {P:Program} {w w':World} {σ σ':Nat->Nat} {S:Store} {β β':Hs} {N:Nat} {s:St} {a:Act}
theorem eF.lay{own:List Obj}{Ω:Store}{bo:List Value}{bΩ:Hs}{o:Obj}{h:Value}(hS:eF w σ (own::Ω) (bo::bΩ))(hlen:bo.length=own.length)
 (ho:gJ w σ ((own++[o])::Ω) ((bo++[h])::bΩ) o h)(hb:∀b,owns o h b->¬Own (own::Ω) (bo::bΩ) b):
 eF w σ ((own++[o])::Ω) ((bo++[h])::bΩ)/\Keep (own::Ω) (bo::bΩ) ((own++[o])::Ω) ((bo++[h])::bΩ)/\∀b,Own ((own++[o])::Ω) ((bo++[h])::bΩ) b->Own (own::Ω) (bo::bΩ) b\/owns o h b:=by
 have hkeep:Keep (own::Ω) (bo::bΩ) ((own++[o])::Ω) ((bo++[h])::bΩ):=by
  intro k o1 h1;obtain⟨h2,wU,_⟩:=hS.obj k o1 h1;exact⟨o1,jo _ _ _ _ _ h1,by rw[jo _ _ _ _ _ wU,wU];exact .refl _ _⟩
 have hinv:∀k o1 h1,bg ((own++[o])::Ω) k=some o1->bg ((bo++[h])::bΩ) k=some h1->
  (bg (own::Ω) k=some o1/\bg (bo::bΩ) k=some h1)\/(k=(0,own.length)/\o1=o/\h1=h):=by
  intro k o1 h1 e1 e2;rcases kD _ _ _ _ _ e1 with e1|⟨rfl,rfl⟩
  ·left;refine⟨e1,?_⟩;rcases kD _ _ _ _ _ e2 with e2|⟨rfl,rfl⟩
   ·exact e2
   ·rw[bD,hlen] at e1;have:=(List.getElem?_eq_some_iff.1 e1).1;omega
  ·right;rw[<-hlen,dH] at e2;exact⟨rfl,rfl,(Option.some.inj e2).symm⟩
 refine⟨⟨?_,?_,⟨?_,?_⟩,hS.live,hS.vQ⟩,hkeep,?_⟩
 ·intro k o1 h1;rcases kD _ _ _ _ _ h1 with h1|⟨rfl,rfl⟩
  ·obtain⟨h2,wU,hr⟩:=hS.obj k o1 h1;exact⟨h2,jo _ _ _ _ _ wU,hr.mono (eD.refl _ _) (hkeep.drop _) fun b hb=>⟨rfl,rfl⟩⟩
  ·exact⟨h,by rw[<-hlen,dH],ho⟩
 ·intro k k' o1 o2 h1 h2 b e1 e2 e3 e4 e5 e6;rcases hinv k o1 h1 e1 e2 with⟨f1,f2⟩|⟨rfl,rfl,rfl⟩
  ·rcases hinv k' o2 h2 e4 e5 with⟨g1,g2⟩|⟨rfl,rfl,rfl⟩
   ·exact hS.apart _ _ _ _ _ _ _ f1 f2 e3 g1 g2 e6
   ·exact absurd ⟨k,o1,h1,f1,f2,e3⟩ (hb b e6)
  ·rcases hinv k' o2 h2 e4 e5 with⟨g1,g2⟩|⟨rfl,rfl,rfl⟩
   ·exact absurd ⟨k',o2,h2,g1,g2,e6⟩ (hb b e3)
   ·rfl
 ·have:=hS.shape.1;simpa using this
 ·intro l fr hl
  cases l with
  |zero=>
   simp at hl;exact⟨_,rfl,by rw[<-hl];simp[hlen]⟩
  |succ l=>exact hS.shape.2 (l+1) fr hl
 ·rintro b ⟨k,o1,h1,e1,e2,e3⟩;rcases hinv k o1 h1 e1 e2 with⟨f1,f2⟩|⟨rfl,rfl,rfl⟩
  ·exact .inl ⟨k,o1,h1,f1,f2,e3⟩
  ·exact .inr e3
theorem Vf{t u ty e:TypeId}{sv:Value}{size:Nat}{es ys:List (List D)}{yv:Value}(hl:∀b,b<w.heap.size\/σ b=0)
 (ht:P.underlying t=some (.slice e))(hu:JK P u)(hz:∃zs,iK P e=some zs/\zs.length=size)(hsize:P.cellsOf e=size)(hb:P.bytesOf e<=4096)
 (hs:gJ w σ S β (.eO size es) sv)(hy:yA P w σ size ys yv)(hlen:es.length+ys.length<=1073741824):
 ∃r w',(Builtin.append_ #[t,u] ty #[sv,yv]).run P w=.ok r w'/\(∀S' β',gJ w' σ S' β' (.eO size (es++ys)) r)/\w.heap.size<=w'.heap.size/\w'.os=w.os/\w'.output=w.output/\
  eD w σ w' σ/\(∀b,b<w'.heap.size\/σ b=0)/\(∀b,b<w.heap.size->¬owns (.eO size es) sv b->w'.heap[b]? =w.heap[b]?)/\
  (∀b,owns (.eO size (es++ys)) r b->owns (.eO size es) sv b\/w.heap.size<=b)/\r.oneCell'=true:=by
 obtain⟨zs,hzs,hzl⟩:=hz;obtain⟨z,uF,hzc⟩:=sP (w:=w) (σ:=σ) (S:=S) (β:=β) hzs
 have Fg:z.cells.size=size:=by have:=hzc.1;simp at this;omega
 have hex:∃info,P.info? e=some info/\info.zero=some z:=by
  unfold iK at hzs
  cases hi:P.info? e with
  |none=>rw[hi] at hzs;cases hzs
  |some i=>
   refine⟨i,rfl,?_⟩
   cases hz:i.zero with
   |none=>rw[hi] at hzs;simp[hz] at hzs
   |some z'=>
    have:(zeroValue e).run P w=.ok z' w:=by simp[zeroValue,typeInfo,hi,hz]
    rw[uF] at this;cases this;rfl
 obtain⟨info,hi,hiz⟩:=hex
 have hib:info.bytes=P.bytesOf e:=by simp[Program.bytesOf,hi]
 have his:info.size=size:=by rw[<-hsize];simp[Program.cellsOf,hi]
 have hs0:=hs;obtain⟨hle,base,sCap,rfl,hcap,h4⟩:=hs;obtain⟨hyl,hys,ya,Pm,Pn,Yd⟩:=hy w rfl;have hall:∀x∈es++ys,x.length=size:=fun x hx=>(List.mem_append.1 hx).elim (hle x) (hys x);have hfl:es.flatten.length=es.length*size:=jc es size hle;have hfy:ys.flatten.length=ys.length*size:=jc ys size hys;have hlen':(es++ys).length=es.length+ys.length:=List.length_append
 have hone:∀v∈ya.toList,v.oneCell'=true:=fun v hv=>by
  obtain⟨j,hj⟩:=List.getElem?_of_mem hv;have hjl:=(List.getElem?_eq_some_iff.1 hj).1;simp at hjl;obtain⟨v',hv',hr⟩:=Yd j _ (List.getElem?_eq_getElem (by omega));rw[Array.getElem?_toList] at hj;rw[hj] at hv';cases hv';exact hr.one
 by_cases hn0:ys.length=0
 ·have aa2:ys=[]:=List.eq_nil_of_length_eq_zero hn0;subst aa2
  have hya:ya= #[]:=by simpa using Pn
  subst hya;refine⟨_,w,Fb ht hu hi hyl (by rw[his];exact Pm) hcap,fun S' β'=> ?_,Nat.le_refl _,rfl,rfl,eD.refl _ _,hl,fun b _ _=>rfl,fun b hb=>.inl (by simpa using hb),rfl⟩;rw[List.append_nil];exact hs0
 by_cases hroom:es.length+ys.length<=sCap
 ·have hc0:sCap≠0:=by omega
  obtain⟨b,c,ct,rfl,hbc,hσ,hfit,hcells⟩:=h4.resolve_left hc0
  have hmul:es.length*size+ys.length*size<=sCap*size:=by rw[<-Nat.add_mul];exact Nat.mul_le_mul_right _ hroom
  have hrun:=Fe (P:=P) (ty:=ty) (b:=b) (off:=0) ht hu hi hyl (by rw[his];exact Pm) hroom hbc (by rw[his,Pn];omega) hone;rw[his,Nat.zero_add] at hrun;generalize hc2:(c.toList.take (es.length*size)++ya.toList++c.toList.drop (es.length*size+ya.size)).toArray=c2 at hrun
  have Aa:c2.size=c.size:=by rw[<-hc2];simp;omega
  have hheap:(w.setRow b c2).heap[b]? =some (.cells c2 ct (0,0)):=setRow_heap w b c c2 ct (0,0) hbc
  have hlow:∀i,i<es.length*size->c2[i]? =c[i]? :=fun i hi=>by
   rw[<-hc2,List.getElem?_toArray,List.append_assoc,List.getElem?_append_left (by simp;omega),List.getElem?_take_of_lt hi,Array.getElem?_toList]
  have hmid:∀j,j<ya.size->c2[es.length*size+j]? =ya[j]? :=fun j hj=>by
   rw[<-hc2,List.getElem?_toArray,List.getElem?_append_left (by simp;omega),List.getElem?_append_right (by simp;omega),<-Array.getElem?_toList];congr 1;simp;omega
  have hn:eD w σ (w.setRow b c2) σ:=by
   intro b1 c1 t1 EF e1;refine⟨Nat.le_refl _,fun _=>rfl,?_⟩;by_cases hb1:b1=b
   ·subst hb1;rw[hbc] at e1;cases e1;exact⟨c2,hheap,Aa,fun i hi=>by omega⟩
   ·exact⟨c1,(gW w b c2 b1 hb1).trans e1,rfl,fun _ _=>rfl⟩
  refine⟨_,_,hrun,fun S' β'=>⟨hall,_,sCap,by rw[hlen'],by omega,.inr ⟨b,c2,ct,rfl,hheap,hσ,by omega,fun j d hj=> ?_⟩⟩,by rw[setRow_size];exact Nat.le_refl _,rfl,rfl,hn,fun x=>by rw[setRow_size];exact hl x,fun x hx hne=> ?_,fun x hx=>.inl ?_,rfl⟩
  ·rw[List.flatten_append] at hj;by_cases hjl:j<es.length*size
   ·rw[List.getElem?_append_left (by omega)] at hj;obtain⟨v,hv,hr⟩:=hcells j d hj;exact⟨v,by rw[hlow j hjl];exact hv,hr.mono hn⟩
   ·rw[List.getElem?_append_right (by omega),hfl] at hj;obtain⟨v,hv,hr⟩:=Yd _ d hj;have hlt:=(Array.getElem?_eq_some_iff.1 hv).1;refine⟨v,?_,hr.mono hn⟩;rw[<-hv,<-hmid _ hlt];congr 1;omega
  ·exact gW _ _ _ _ fun e=>hne (by simp[owns,blk,hc0,e])
  ·simpa [owns,blk] using hx
 ·obtain⟨agQ,_,JM,Pp,JN,Pq⟩:=hy w.drew rfl
  obtain⟨oa,hor,Fh,hod⟩:∃oa:Array Value,(Builtin.firstCells size es.length (.slice base es.length sCap)).run P w.drew=.ok oa w.drew/\oa.size=es.length*size/\∀(j:Nat)(d:D),es.flatten[j]? =some d->∃v,oa[j]? =some v/\dM w σ d v:=by
   rcases h4 with h0|⟨b,c,ct,rfl,hbc,hσ,hfit,hcells⟩
   ·have he:es=[]:=List.eq_nil_of_length_eq_zero (by omega);subst he;refine⟨#[],?_,by simp,fun j d hj=>by simp at hj⟩
    cases base with
    |none=>rfl
    |some b=>simp[Builtin.firstCells,loadCells,loadCellsFrom]
   ·have hm:es.length*size<=sCap*size:=Nat.mul_le_mul_right _ hcap;have hbc':w.drew.heap[b]? =some (.cells c ct (0,0)):=hbc;have hex:∀j,j<es.length*size->∃v,c[0+j]? =some v:=fun j hj=>⟨c[0+j]'(by omega),Array.getElem?_eq_getElem (by omega)⟩;obtain⟨hpl,hpv⟩:=yw c 0 (es.length*size) hex;refine⟨_,vT (a:=⟨b,0,none⟩) rfl hbc' _ hex,by simpa using hpl,fun j d hj=> ?_⟩;obtain⟨v,hv,hr⟩:=hcells j d hj;have hjl:=(List.getElem?_eq_some_iff.1 hj).1;refine⟨v,?_,hr⟩;rw[List.getElem?_toArray,hpv j (by omega),Nat.zero_add];exact hv
  obtain⟨cap,rest,Gz,hrest,hrun⟩:=Ac (P:=P) (ty:=ty) (base:=base) (sCap:=sCap) ht hu hi hiz hyl (by rw[his];exact Pp) (by rw[his];exact hor) (by omega) hlen (by rw[hib];exact hb)
  let w':World:={w.drew with heap:=w.heap.push (.cells (oa++JM++rest) e)}
  have hn:eD w σ w' σ:=by
   intro b1 c1 t1 EF e1
   have hne:b1≠w.heap.size:=by have:=lt_of_some e1;omega
   refine⟨Nat.le_refl _,fun _=>rfl,c1,?_,rfl,fun _ _=>rfl⟩;simp only[w'];rw[Array.getElem?_push,if_neg hne];exact e1
  have hn':eD w.drew σ w' σ:=hn
  have hheap:w'.heap[w.heap.size]? =some (.cells (oa++JM++rest) e (0,0)):=by simp[w']
  have hσ0:σ w.heap.size=0:=by
   rcases hl w.heap.size with h|h
   ·omega
   ·exact h
  refine⟨_,w',hrun,fun S' β'=>⟨hall,_,cap,by rw[hlen'],by omega,.inr ⟨w.heap.size,_,e,rfl,hheap,hσ0,?_,fun j d hj=> ?_⟩⟩,by simp[w'],rfl,rfl,hn,fun x=> ?_,fun x hx _=> ?_,fun x hx=>.inr ?_,rfl⟩
  ·simp only[Array.size_append,Fh,JN,hrest,Fg];rw[<-Nat.add_mul,<-Nat.add_mul];exact Nat.mul_le_mul_right _ (by omega)
  ·rw[List.flatten_append] at hj;by_cases hjl:j<es.length*size
   ·rw[List.getElem?_append_left (by omega)] at hj;obtain⟨v,hv,hr⟩:=hod j d hj;refine⟨v,?_,hr.mono hn⟩;rw[Array.append_assoc,Array.getElem?_append_left (by omega)];exact hv
   ·rw[List.getElem?_append_right (by omega),hfl] at hj;obtain⟨v,hv,hr⟩:=Pq _ d hj;have hlt:=(Array.getElem?_eq_some_iff.1 hv).1;refine⟨v,?_,hr.mono hn'⟩;rw[Array.append_assoc,Array.getElem?_append_right (by omega),Fh,Array.getElem?_append_left (by omega)];exact hv
  ·simp only[w',Array.size_push];exact(hl x).imp (fun h=>by omega) id
  ·have hne:x≠w.heap.size:=by omega
   simp only[w'];rw[Array.getElem?_push,if_neg hne]
  ·simp only[owns,blk] at hx;split at hx
   ·cases hx
   ·cases hx;exact Nat.le_refl _
theorem PG{o:Oper}{K:St->Prop}{Q:Exit->Act->World->Prop}{t u:TypeId}{x y:Operand}{k:Key}(hrun:∀r w',(Builtin.append_ #[t,u] o.type #[a.eval x,a.eval y]).run P w=.ok r w'->(execOp a.eval o).run P w=.ok (.value r) w')
 (hd:∀d,o.dst=some d->d<N)(hR:jH N s a w σ β)(hx:ev s.tm x=.c (.iH k))(h:CG P t u k (ev s.tm y) s o.dst K):o.wp P a w (Then N s.st β σ w K) Q:=by
 have hxr:=jB hR.T x;have Pm:=jB hR.T y;rw[hx] at hxr;unfold CG at h;split at h
 ·rename_i e ys aY es ht hsrc hk;obtain⟨rfl,h1,h2,h3,h5,h6⟩:=h;obtain⟨hu,hsa⟩:=Py hsrc Pm h1;obtain⟨⟨ob,ho,Vb⟩,hone⟩:=hxr;rw[hk] at ho;cases ho;have hβ:=Vb _ _ rfl;obtain⟨hh,hb,E5⟩:=hR.S.obj k _ hk;rw[hβ] at hb;cases hb;obtain⟨r,w',hr,hro,hsz,hos,hout,hn,hl,vW,hbk,h1c⟩:=Vf (P:=P) (ty:=o.type) hR.S.live ht hu h3 rfl h2 E5 hsa h5;obtain⟨hS1,hk1,Dv⟩:=hR.S.set (o':=.dead) (h':=a.eval x) hk hβ hsz hos hout hn hl (fun b h1 h2=>⟨vW b h1 h2,rfl⟩) (.inl rfl) trivial (fun b hb=>by cases hb);have e1:aX β k (a.eval x)=β:=E8 (a.eval x) _ _ _ hβ;rw[e1] at hS1 hk1 Dv;obtain⟨tm,st⟩:=s;have hsh:=hS1.shape
  cases hst:aX st k Obj.dead with
  |nil=>simp only[newObj,hst] at h6
  |cons own Ω=>
   simp only[newObj,hst] at h6
   have aa3:eF w' σ (own::Ω) β:=by rw[<-hst];exact hS1
   have hfr:∃bo bΩ,β=bo::bΩ/\bo.length=own.length:=by
    cases β with
    |nil=>have:=aa3.shape.1;simp at this
    |cons bo bΩ=>
     refine⟨bo,bΩ,rfl,?_⟩;obtain⟨gr,q1,q2⟩:=aa3.shape.2 0 own rfl;simp at q1;rw[q1];exact q2
   obtain⟨bo,bΩ,rfl,hlen⟩:=hfr
   have hnot:∀b,owns (.eO (P.cellsOf e) (es++ys)) r b->¬Own (own::Ω) (bo::bΩ) b:=by
    intro b hb ⟨k1,o1,h1,e1,e2,e3⟩
    have hin:bg st k1=some o1/\k1≠k:=by
     have HY:bg (aX st k Obj.dead) k1=some o1:=by rw[hst];exact e1
     by_cases q:k1=k
     ·subst q;rw[dn _ _ _ _ hk] at HY;cases HY;cases e3
     ·rw[eY _ _ _ _ (Ne.symm q)] at HY;exact⟨HY,q⟩
    rcases hbk b hb with k2|k2
    ·exact hin.2 (hR.S.apart k1 k o1 _ h1 _ b hin.1 e2 e3 hk hβ k2)
    ·have:=hR.S.Ct ⟨k1,o1,h1,hin.1,e2,e3⟩;omega
   obtain⟨hS2,hk2,hown⟩:=aa3.lay hlen (hro _ _) hnot
   have akw:Keep st (bo::bΩ) (own::Ω) (bo::bΩ):=by rw[<-hst];exact hk1
   have GA:Step st (bo::bΩ) σ w (own::Ω) (bo::bΩ) σ w':=by rw[<-hst];exact Dv
   refine jN (x:=.c (.iH (0,own.length))) (v:=r) hd hR hS2 (akw.trans hk2) ⟨GA.size,GA.os,GA.output,GA.far,GA.near,fun b hb=> ?_⟩ ⟨⟨_,dH _ _ _,fun a b e=> ?_⟩,h1c⟩ (.inl rfl) (hrun _ _ hr) h6
   ·rcases hown b hb with q|q
    ·exact GA.own b q
    ·rcases hbk b q with q2|q2
     ·exact .inl ⟨k,_,_,hk,hβ,q2⟩
     ·exact .inr q2
   ·rw[<-hlen,dH]
 ·exact h.elim
theorem Yh{o:Oper}{K:St->Prop}{Q:Exit->Act->World->Prop}{t:TypeId}{n:Nat}{parts:Array (Nat×Operand)}(ho:o.op=.buildSlice t n parts)(hd:∀d,o.dst=some d->d<N)(hR:jH N s a w σ β)
 (h:Fj P t s o.dst K (Ve s.st t) (nval P s.st s.tm (.buildSlice t n parts))):o.wp P a w (Then N s.st β σ w K) Q:=by
 unfold Fj at h;split at h
 ·obtain⟨h1,h2⟩:=h;rw[<-ho] at h1 h2;obtain⟨v,w',σ',hrun,hg,hv⟩:=JF o hR.S hR.T h1;exact oU hd hR hg hv hrun h2
 ·rename_i p es hb hr;split at h
  ·rename_i e ht;obtain⟨hp,h6⟩:=h;have hr':mq P (nW s.st) s.st s.tm (.buildSlice t n parts)=(p,.c (.bI es)):=hr;simp only[mq] at hr'
   cases hlab:nW s.st with
   |some m=>
    rw[hlab] at hr';simp only[kX] at hr';split at hr'<;>cases hr'
   |none=>
    rw[hlab] at hr';simp only[kX,pW,ht] at hr';split at hr'
    ·rename_i es' hes;cases hr';obtain⟨h1,h2,h3⟩:=hp
     obtain⟨ca,hrun,hca,hle,hcells⟩:=Bl (P:=P) (w:=w) (σ:=σ) (S:=s.st) (β:=β) (t:=t) (n:=n) (parts:=parts.toList.map fun x=>(x.1,ev s.tm x.2)) (pv:=parts.toList.map fun x=>(x.1,a.eval x.2)) (by simp)
      (fun j x hx=>by
        rw[List.getElem?_map] at hx ⊢
        cases hc:parts.toList[j]? with
        |none=>rw[hc] at hx;cases hx
        |some y=>rw[hc] at hx;cases hx;exact⟨_,rfl,jB hR.T y.2⟩) ht hes h1 h2 h3
     have hrun':(execOp a.eval o).run P w=.ok (.value (.slice (some ⟨w.heap.size,0,none⟩) n n)) {w with heap:=w.heap.push (.cells ca e)}:=by
      clear h6 hr;obtain⟨dst,op,ty,pos,after,guard⟩:=o;simp only at ho;subst ho;simp[execOp];rw[Pf,hrun];rfl
     have hg:=zu w σ hR.S.live ca e 0
     have hσ0:σ w.heap.size=0:=by
      rcases hR.S.live w.heap.size with h|h
      ·omega
      ·exact h
     obtain⟨tm,st⟩:=s
     cases st with
     |nil=>exact h6.elim
     |cons own Ω=>
      obtain⟨bo,bΩ,rfl,hlen⟩:=frames hR
      obtain⟨hS',hk,hst⟩:=hR.S.push (o:=.eO (P.cellsOf e) es) (h:=.slice (some ⟨w.heap.size,0,none⟩) n n) hg hlen
       ⟨hle,some ⟨w.heap.size,0,none⟩,n,by rw[h1],by omega,.inr ⟨w.heap.size,ca,e,rfl,by simp,by simp,by rw[hca,h1];exact Nat.le_refl _,fun j d hj=>by
         obtain⟨v,hv,hr⟩:=hcells j d hj
         exact⟨v,hv,hr.mono hg.near⟩⟩⟩
       (fun b hb=>by
         simp only[owns,blk] at hb;split at hb
         ·cases hb
         ·cases hb;exact Nat.le_refl _)
      refine jN (x:=.c (.iH (0,own.length))) hd hR hS' hk hst ⟨⟨_,dH _ _ _,fun aY es e=> ?_⟩,rfl⟩ (.inl rfl) hrun' h6;rw[<-hlen,dH]
    ·cases hr'
  ·exact h.elim
 ·exact h.elim
theorem HZ(hw:∀{o:Oper}{K:St->Prop}{Q:Exit->Act->World->Prop},(∀d,o.dst=some d->d<N)->dx P o s K->o.wp P a w (Then N s.st β σ w K) Q){o:Oper}{K:St->Prop}{Q:Exit->Act->World->Prop}(hd:∀d,o.dst=some d->d<N)(hR:jH N s a w σ β)(h:gY P o s K):o.wp P a w (Then N s.st β σ w K) Q:=by
 unfold gY at h;split at h
 ·rename_i Bo ts ho;split at h
  ·rename_i x y t u hx ht;unfold zN at h;split at h
   ·rename_i k hk;refine PG (fun r w' hr=> ?_) hd hR hk h;clear h;obtain⟨dst,op,ty,pos,after,guard⟩:=o;simp only at ho;subst ho
    obtain rfl:Bo= #[x,y]:=by rw[<-Array.toArray_toList (xs:=Bo),hx]
    obtain rfl:ts= #[t,u]:=by rw[<-Array.toArray_toList (xs:=ts),ht]
    simp only at hr;simp[execOp,resolve,invoke,builtin,hr]
   ·refine hw hd ?_;unfold dx;rw[ho];simp only[mD,hx,ht];exact h
  ·exact h.elim
 ·rename_i t n parts ho;exact Yh ho hd hR h
 ·exact hw hd h
end
section
variable {P:Program} {w w':World} {σ σ':Nat->Nat} {S:Store} {β β':Hs} {N:Nat} {s:St} {a:Act}
theorem Dw{o:Oper}{K:St->Prop}{Q:Exit->Act->World->Prop}(hd:∀d,o.dst=some d->d<N)(hR:jH N s a w σ β)(h:dx P o s K):o.wp P a w (Then N s.st β σ w K) Q:=by
 unfold dx at h;split at h
 ·rename_i t ho;unfold sQ at h;split at h
  ·rename_i zs hz;obtain⟨z,uF,hzc⟩:=sP (w:=w) (σ:=σ) (S:=s.st) (β:=β) hz;refine JO (v:=z) (t:=t) hd hR hzc (fun ad w' JQ=> ?_) h;obtain⟨dst,op,ty,pos,after,guard⟩:=o;simp only at ho;subst ho;simp[execOp,Instr.alloc,uF,JQ]
  ·exact h.elim
 ·rename_i t x ho;unfold Ad at h;split at h
  ·rename_i cs hcs;refine JO (v:=a.eval x) (t:=t) hd hR (vV hcs (jB hR.T x)) (fun ad w' JQ=> ?_) h;obtain⟨dst,op,ty,pos,after,guard⟩:=o;simp only at ho;subst ho;simp[execOp,Instr.box,JQ]
  ·exact h.elim
 ·rename_i t x y ho;exact RX ho hd hR h
 ·rename_i t x y ho;exact Va ho hd hR h
 ·rename_i t ho;exact Pw ho hd hR h
 ·rename_i t x y z ho;exact Px ho hd hR h
 ·rename_i c ho;exact JR ho hd hR h
 ·obtain⟨h1,h2⟩:=h;obtain⟨v,w',σ',hrun,hg,hv⟩:=JF o hR.S hR.T h1;exact oU hd hR hg hv hrun h2
def fZ(R:Array Oper)(j:Nat):Option Nat:=(R[j]?).bind (·.dst)
def sU(P:Program)(R:Array Oper)(o:Oper)(s:St)(K:St->Prop):Prop:=
 match o.guard with
 |none=>gY P o s K
 |some (j,want)=>
  match(fZ R j).map (look s.tm) with
  |some (.c (.d (.b x)))=>(x=want->gY P o s K)/\(x= !want->K (s.put o.dst (.eH [])))
  |some (.eH [])=>K (s.put o.dst (.eH []))
  |_=>False
def Af(P:Program)(R:Array Oper):List Oper->St->(St->Prop)->Prop
 |[],s,K=>K s
 |o::os,s,K=>sU P R o s fun s'=>Af P R os s' K
theorem Then.mono{K K':St->Prop}{a':Act}{w':World}(hK:∀s,K s->K' s)(h:Then N S β σ w K a' w'):Then N S β σ w K' a' w':=by
 obtain⟨s',σ',β',h1,h2,h3,h4⟩:=h;exact⟨s',σ',β',h1,h2,h3,hK _ h4⟩
theorem Ag{R:Array Oper}{j:Nat}{x:Bool}(hR:jH N s a w σ β)(h:(fZ R j).map (look s.tm)=some (.c (.d (.b x)))):yielded R a.tmps j=some x:=by
 unfold yielded;unfold fZ at h
 cases hd:(R[j]?).bind (·.dst) with
 |none=>rw[hd] at h;cases h
 |some d=>
  rw[hd] at h;simp only[Option.map_some,Option.some.injEq] at h;have ht:=hR.T d;rw[h] at ht;obtain⟨ht,_⟩:=ht;simp only[Option.bind_some]
  have hlt:d<a.tmps.size:=by
   rcases Nat.lt_or_ge d a.tmps.size with h|h
   ·exact h
   ·simp[Array.getD,Nat.not_lt.2 h,undef] at ht;cases ht
  have hg:a.tmps.getD d undef=a.tmps[d]:=by simp[Array.getD,hlt]
  rw[hg] at ht;rw[Array.getElem?_eq_getElem hlt];generalize a.tmps[d]=v at ht;cases ht;rfl
theorem EH{R:Array Oper}{j:Nat}(hR:jH N s a w σ β)(h:(fZ R j).map (look s.tm)=some (.eH [])):yielded R a.tmps j=none:=by
 unfold yielded;unfold fZ at h
 cases hd:(R[j]?).bind (·.dst) with
 |none=>rw[hd] at h;cases h
 |some d=>
  rw[hd] at h;simp only[Option.map_some,Option.some.injEq] at h;have ht:=hR.T d;rw[h] at ht;obtain⟨ar,hv,_⟩:=ht;simp only[Option.bind_some];by_cases hlt:d<a.tmps.size
  ·have hg:a.tmps.getD d undef=a.tmps[d]:=by simp[Array.getD,hlt]
   rw[hg] at hv;rw[Array.getElem?_eq_getElem hlt,hv]
  ·rw[Array.getElem?_eq_none (Nat.le_of_not_lt hlt)]
theorem M0{o:Oper}{K:St->Prop}(hd:∀d,o.dst=some d->d<N)(hR:jH N s a w σ β)(hK:K (s.put o.dst (.eH []))):Then N s.st β σ w K (a.put o.dst undef) w:=by
 have hr:jH N (St.put ⟨s.tm,s.st⟩ o.dst (.eH [])) (a.put o.dst undef) w σ β:=zM hd hR.size hR.defers hR.S hR.T vC;have he:(s.put o.dst (.eH [])).st=s.st:=kM o.dst s.tm s.st _;exact⟨_,σ,β,hr,by rw[show(St.put ⟨s.tm,s.st⟩ o.dst (.eH [])).st=s.st from he];exact Step.oI (Grow.refl hR.S.live),by rw[show(St.put ⟨s.tm,s.st⟩ o.dst (.eH [])).st=s.st from he];exact Keep.refl _ _,hK⟩
theorem RY{R:Array Oper}{o:Oper}{K:St->Prop}{Q:Exit->Act->World->Prop}(hd:∀d,o.dst=some d->d<N)(hR:jH N s a w σ β)(h:sU P R o s K):
 if Region.wanted o (yielded R a.tmps) then o.wp P a w (Then N s.st β σ w K) Q else Then N s.st β σ w K (a.put o.dst undef) w:=by
 unfold sU at h;split at h
 ·rename_i hg;rw[if_pos (by simp[Region.wanted,hg])];exact HZ (fun hd h=>Dw hd hR h) hd hR h
 ·rename_i j want hg;split at h
  ·rename_i x hx;have hy:=Ag hR hx;by_cases e:x=want
   ·rw[if_pos (by simp[Region.wanted,hg,hy,e])];exact HZ (fun hd h=>Dw hd hR h) hd hR (h.1 e)
   ·rw[if_neg (by simp[Region.wanted,hg,hy,e])];exact M0 hd hR (h.2 (by cases x<;>cases want<;>simp_all))
  ·rename_i hx;have hy:=EH hR hx;rw[if_neg (by simp[Region.wanted,hg,hy])];exact M0 hd hR h
  ·exact h.elim
theorem JU{R:Array Oper}{K:St->Prop}{S0:Store}{β0:Hs}{σ0:Nat->Nat}{w0:World}{Q:Exit->Act->World->Prop}(hQ:∀a w,Then N S0 β0 σ0 w0 K a w->Q .normal a w):
 ∀(n k:Nat),k+n=R.size->(∀o∈R.toList,∀d,o.dst=some d->d<N)->∀(s:St)(a:Act)(w:World)(σ:Nat->Nat)(β:Hs),jH N s a w σ β->Step S0 β0 σ0 w0 s.st β σ w->Keep S0 β0 s.st β->
  Af P R (R.toList.drop k) s K->wpOps P R Q (List.range' k n) a w
 |0,k,hk,_,s,a,w,σ,β,hR,hst,hkp,h=>by
  have:R.toList.drop k=[]:=by apply List.drop_eq_nil_of_le;simp;omega
  rw[this] at h;exact hQ a w ⟨s,σ,β,hR,hst,hkp,h⟩
 |n+1,k,hk,hd,s,a,w,σ,β,hR,hst,hkp,h=>by
  have hlt:k<R.toList.length:=by simp;omega
  rw[List.drop_eq_getElem_cons hlt] at h;have hg:=RY (Q:=Q) (fun d e=>hd _ (List.getElem_mem hlt) d e) hR h;rw[List.range'_succ]
  have hRk:R[k]? =some R.toList[k]:=by
   rw[Array.getElem?_eq_getElem (by omega)];simp
  simp only[wpOps,hRk]
  have next:∀a' w',Then N s.st β σ w (fun s'=>Af P R (R.toList.drop (k+1)) s' K) a' w'->wpOps P R Q (List.range' (k+1) n) a' w':=by
   rintro a' w' ⟨s',σ',β',hR',hst',xu,hK'⟩;exact JU hQ n (k+1) (by omega) hd s' a' w' σ' β' hR' (hst.trans hst') (hkp.trans xu) hK'
  split
  ·rename_i hw;rw[if_pos hw] at hg;exact .inl (Oper.wp_mono next hg)
  ·rename_i hw;rw[if_neg hw] at hg
   exact next _ _ hg
def gB{α:Type}(l:List α):List α:=l.drop 1
def AW(P:Program)(N:Nat)(c:Code)(Q:Exit->St->Prop)(s:St):Prop:=
 ∀(a:Act)(w:World)(σ:Nat->Nat)(β:Hs),jH N s a w σ β->
  c.wp P (fun e a' w'=>∃s' σ' β',jH N s' a' w' σ' β'/\Step s.st β σ w s'.st β' σ' w'/\Keep (gB s.st) (gB β) (gB s'.st) (gB β')/\Q e s') a w
theorem AW.mono{c:Code}{Q Q':Exit->St->Prop}(h:AW P N c Q s)(hq:∀e s,Q e s->Q' e s):AW P N c Q' s:=fun a w σ β hR=>
 wp_mono (h a w σ β hR) fun e a' w' ⟨s',σ',β',h1,h2,h3,h4⟩=>⟨s',σ',β',h1,h2,h3,hq _ _ h4⟩
def jJ(K:St->Prop)(Q:Exit->St->Prop):Exit->St->Prop
 | .normal,s=>K s
 |e,s=>Q e s
def wm(id:Nat)(Q:Exit->St->Prop):Exit->St->Prop
 | .exit id',s=>if id'=id then Q .normal s else Q (.exit id') s
 |e,s=>Q e s
theorem PI{x y:Code}{Q:Exit->St->Prop}(h:AW P N x (jJ (AW P N y Q) Q) s):AW P N (.seq x y) Q s:=by
 intro a w σ β hR;refine wp_seq (wp_mono (h a w σ β hR) ?_);rintro e a' w' ⟨s',σ',β',h1,h2,h3,h4⟩
 cases e with
 |normal=>
  show y.wp P _ a' w';refine wp_mono (h4 a' w' σ' β' h1) ?_;rintro e a'' w'' ⟨s'',zX,β'',k1,k2,k3,k4⟩;exact⟨s'',zX,β'',k1,h2.trans k2,h3.trans k3,k4⟩
 |_=>exact⟨s',σ',β',h1,h2,h3,h4⟩
theorem PK{c:Code}{e:Exit}{Q:Exit->St->Prop}(hc:∀{Q':Exit->Act->World->Prop}{a:Act}{w:World},Q' e a w->c.wp P Q' a w)(h:Q e s):AW P N c Q s:=
 fun a w σ β hR=>hc ⟨s,σ,β,hR,Step.oI (Grow.refl hR.S.live),Keep.refl _ _,h⟩
theorem aeX{Q:Exit->St->Prop}(h:Q .normal s):AW P N .skip Q s:=PK wp_skip h
theorem aeY{id:Nat}{Q:Exit->St->Prop}(h:Q (.exit id) s):AW P N (.exit id) Q s:=PK wp_exit h
theorem agR{Q:Exit->St->Prop}(h:Q .ret s):AW P N .ret Q s:=PK wp_ret h
theorem LG{c:Operand}{x y:Code}{b:Bool}{Q:Exit->St->Prop}(hc:ev s.tm c=.c (.d (.b b)))(ht:b=true->AW P N x Q s)(hf:b=false->AW P N y Q s):AW P N (.cond c x y) Q s:=by
 intro a w σ β hR;have hv:=jB hR.T c;rw[hc] at hv;obtain⟨hv,_⟩:=hv;generalize he:a.eval c=v at hv;cases hv;refine Go.wp_cond he ?_
 cases b with
 |true=>exact ht rfl a w σ β hR
 |false=>exact hf rfl a w σ β hR
theorem II{id:Nat}{c:Code}{Q:Exit->St->Prop}(h:AW P N c (wm id Q) s):AW P N (.block id c) Q s:=by
 intro a w σ β hR;refine wp_block (wp_mono (h a w σ β hR) ?_);rintro e a' w' ⟨s',σ',β',h1,h2,h3,h4⟩
 cases e with
 |exit id'=>
  show if id'=id then _ else _
  simp only[wm] at h4;split
  ·rename_i e;rw[if_pos e] at h4;exact⟨s',σ',β',h1,h2,h3,h4⟩
  ·rename_i e;rw[if_neg e] at h4;exact⟨s',σ',β',h1,h2,h3,h4⟩
 |_=>exact⟨s',σ',β',h1,h2,h3,h4⟩
theorem Keep.tail{S S':Store}{β β':Hs}(h:Keep S β S' β'):Keep (gB S) (gB β) (gB S') (gB β'):=h.drop 1
theorem Yi{id:Nat}{R:Array Oper}{Q:Exit->St->Prop}(hd:R.toList.all (fun o=>match o.dst with|some d=>decide (d<N)|none=>true)=true)(h:Af P R R.toList s (Q .normal)):AW P N (.region id R false) Q s:=by
 intro a w σ β hR;refine wp_region ?_;rw[List.range_eq_range'];refine JU (S0:=s.st) (β0:=β) (σ0:=σ) (w0:=w) (K:=Q .normal) (fun a' w' ht=> ?_) R.size 0 (by omega) (fun o ho d e=> ?_) s a w σ β hR (Step.oI (Grow.refl hR.S.live)) (Keep.refl _ _) h
 ·obtain⟨s',σ',β',h1,h2,h3,h4⟩:=ht;exact⟨s',σ',β',h1,h2,h3.tail,h4⟩
 ·have:=List.all_eq_true.1 hd o ho;rw[e] at this;simpa using this
theorem LH{ι:Type}{c:Code}{Q:Exit->St->Prop}(I:ι->St->Prop)(μ:ι->Nat)(i0:ι)(h0:I i0 s)
 (round:∀i s,I i s->AW P N c (jJ (fun s'=>∃j,μ j<μ i/\I j s') Q) s):AW P N (.loop c) Q s:=by
 intro a w σ β hR
 have key:∀(n:Nat)(i:ι)(s':St)(a':Act)(w':World)(σ':Nat->Nat)(β':Hs),μ i<n->I i s'->jH N s' a' w' σ' β'->Step s.st β σ w s'.st β' σ' w'->Keep (gB s.st) (gB β) (gB s'.st) (gB β')->
  Code.rounds P c (fun e a' w'=>∃s' σ' β',jH N s' a' w' σ' β'/\Step s.st β σ w s'.st β' σ' w'/\Keep (gB s.st) (gB β) (gB s'.st) (gB β')/\Q e s') n a' w':=by
  intro n
  induction n with
  |zero=>intro i s' a' w' σ' β' h;omega
  |succ n ih=>
   intro i s' a' w' σ' β' hn hI hR' hst hkp;refine wp_mono (round i s' hI a' w' σ' β' hR') ?_;rintro e a'' w'' ⟨s'',zX,β'',k1,k2,k3,k4⟩
   cases e with
   |normal=>
    obtain⟨j,hj,hIj⟩:=k4;exact ih j s'' a'' w'' zX β'' (by omega) hIj k1 (hst.trans k2) (hkp.trans k3)
   |_=>exact⟨s'',zX,β'',k1,hst.trans k2,hkp.trans k3,k4⟩
 exact wp_loop_rounds (μ i0+1) (key (μ i0+1) i0 s a w σ β (by omega) h0 hR (Step.oI (Grow.refl hR.S.live)) (Keep.refl _ _))
end
def kE:List V->Nat->List (Nat×V)
 |[],_=>[]
 |v::vs,i=>(i,v)::kE vs (i+1)
def C.ret:C->Option C
 | .bX (0,_) es=>some (.d (.sl es))
 |c=>c.down 1
def GD(y:Bool×List C):Option (Bool×List C):=(y.2.mapM C.ret).map fun cs=>(y.1,cs)
def V.ret:V->Option V
 | .c x=>(x.ret).map .c
 | .agg cs=>(cs.mapM C.ret).map .agg
 | .eH xs=>(xs.mapM GD).map .eH
 | .any=>some .any
def wo(P:Program)(s:St):ResultVar->R
 | .tmp t=>(True,look s.tm t)
 | .cell a t=>zq P s.st t (look s.tm a)
def JV:V->Option (Bool×List C)
 | .c x=>some (false,[x])
 | .agg cs=>some (true,cs)
 |_=>none
def nX(P:Program)(s:St):List ResultVar->Prop×Option (List (Bool×List C))
 |[]=>(True,some [])
 |x::xs=>((wo P s x).1/\(nX P s xs).1,(JV (wo P s x).2).bind fun y=>(nX P s xs).2.map fun ys=>y::ys)
def nG(P:Program)(rs:List ResultVar)(s:St):R:=
 match rs with
 |[x]=>wo P s x
 |xs=>match(nX P s xs).2 with
  |some ys=>((nX P s xs).1,.eH ys)
  |none=>no
def aa4(P:Program)(rs:List ResultVar)(post:V->Store->Prop)(e:Exit)(s:St):Prop:=
 match e with
 | .normal| .ret=>(nG P rs s).1/\match(nG P rs s).2.ret with
   |some r=>post r (gB s.st)
   |none=>False
 |_=>False
section
variable {P:Program} {w w':World} {σ σ':Nat->Nat} {S:Store} {β β':Hs} {N:Nat} {s:St} {a:Act}
theorem PL{cs:List C}{vs:List Value}(n:Nat)(h:fD w σ (S.drop n) (β.drop n) cs vs):fD w σ S β (cs.map (C.up n)) vs:=
 ⟨by simpa using h.1,fun j x hx=>by
   rw[List.getElem?_map] at hx
   cases hc:cs[j]? with
   |none=>rw[hc] at hx;cases hx
   |some y=>
    rw[hc] at hx;cases hx;obtain⟨v,hv,hr,ho⟩:=h.2 j y hc
    exact⟨v,hv,hr.up n,ho⟩⟩
theorem GH{x:V}{v:Value}(n:Nat)(h:dP w σ (S.drop n) (β.drop n) x v):dP w σ S β (x.up n) v:=by
 cases x with
 |c x=>exact⟨h.1.up n,h.2⟩
 |agg cs=>obtain⟨ar,ha,hc⟩:=h;exact⟨ar,ha,PL n hc⟩
 |eH xs=>
  obtain⟨ar,ha,hl,h2⟩:=h;refine⟨ar,ha,by simpa using hl,fun j y hy=> ?_⟩;rw[List.getElem?_map] at hy
  cases hc:xs[j]? with
  |none=>rw[hc] at hy;cases hy
  |some z=>
   rw[hc] at hy;cases hy;obtain⟨u,hu,h3⟩:=h2 j z hc;refine⟨u,hu,?_⟩;obtain⟨b,cs⟩:=z
   cases b with
   |true=>obtain⟨a',e,hcs⟩:=h3;exact⟨a',e,PL n hcs⟩
   |false=>obtain⟨x,e,hx,ho⟩:=h3;subst e;exact⟨_,rfl,hx.up n,ho⟩
 |any=>exact trivial
theorem IJ{c c':C}{v:Value}(h:c.ret=some c')(hc:gF w σ S β c v):gF w σ (S.drop 1) (β.drop 1) c' v:=by
 unfold C.ret at h;split at h
 ·cases h;exact hc.1
 ·exact Pg h hc
theorem M4{xs ys:List C}{vs:List Value}(h:xs.mapM C.ret=some ys)(hc:fD w σ S β xs vs):fD w σ (S.drop 1) (β.drop 1) ys vs:=by
 induction xs generalizing ys vs with
 |nil=>simp at h;subst h;exact⟨hc.1,fun j d hd=>by simp at hd⟩
 |cons x xs ih=>
  rw[List.mapM_cons] at h
  cases hd:C.ret x with
  |none=>rw[hd] at h;simp at h
  |some y=>
   cases hm:xs.mapM C.ret with
   |none=>rw[hd,hm] at h;simp at h
   |some ys'=>
    rw[hd,hm] at h;simp at h;subst h
    cases vs with
    |nil=>have:=hc.1;simp at this
    |cons v vs=>
     obtain⟨l,r⟩:=ih hm (vs:=vs) ⟨by have:=hc.1;simpa using this,fun j y hy=>hc.2 (j+1) y hy⟩;refine⟨by simp[l],fun j e he=> ?_⟩
     cases j with
     |zero=>
      simp at he;subst he;obtain⟨u,hu,hr,ho⟩:=hc.2 0 x rfl;simp at hu;subst hu;exact⟨v,rfl,IJ hd hr,ho⟩
     |succ j=>exact r j e he
theorem PN{α γ:Type}(f:α->Option γ):∀(xs:List α)(ys:List γ),xs.mapM f=some ys->ys.length=xs.length/\∀(j:Nat)(y:γ),ys[j]? =some y->∃x,xs[j]? =some x/\f x=some y
 |[],ys,h=>by simp at h;subst h;exact⟨rfl,fun j y hy=>by simp at hy⟩
 |x::xs,ys,h=>by
  rw[List.mapM_cons] at h
  cases hd:f x with
  |none=>rw[hd] at h;simp at h
  |some y=>
   cases hm:xs.mapM f with
   |none=>rw[hd,hm] at h;simp at h
   |some ys'=>
    rw[hd,hm] at h;simp at h;subst h;obtain⟨l,r⟩:=PN f xs ys' hm;refine⟨by simp[l],fun j e he=> ?_⟩
    cases j with
    |zero=>simp at he;subst he;exact⟨x,rfl,hd⟩
    |succ j=>exact r j e he
theorem PO{x y:V}{v:Value}(h:x.ret=some y)(hx:dP w σ S β x v):dP w σ (S.drop 1) (β.drop 1) y v:=by
 cases x with
 |c x=>
  simp only[V.ret] at h
  cases hc:x.ret with
  |none=>rw[hc] at h;cases h
  |some c=>rw[hc] at h;cases h;exact⟨IJ hc hx.1,hx.2⟩
 |agg cs=>
  simp only[V.ret] at h
  cases hc:cs.mapM C.ret with
  |none=>rw[hc] at h;cases h
  |some c=>rw[hc] at h;cases h;obtain⟨ar,ha,h2⟩:=hx;exact⟨ar,ha,M4 hc h2⟩
 |eH xs=>
  simp only[V.ret] at h
  cases hc:xs.mapM GD with
  |none=>rw[hc] at h;cases h
  |some ys=>
   rw[hc] at h;cases h;obtain⟨ar,ha,hl,h2⟩:=hx;obtain⟨l,r⟩:=PN _ _ _ hc;refine⟨ar,ha,by rw[l];exact hl,fun j y hy=> ?_⟩;obtain⟨z,hz,hzy⟩:=r j y hy;obtain⟨u,hu,h3⟩:=h2 j z hz;refine⟨u,hu,?_⟩;obtain⟨b,cs⟩:=z;simp only[GD] at hzy
   cases hm:cs.mapM C.ret with
   |none=>rw[hm] at hzy;cases hzy
   |some cs'=>
    rw[hm] at hzy;cases hzy
    cases b with
    |true=>obtain⟨a',e,hcs⟩:=h3;exact⟨a',e,M4 hm hcs⟩
    |false=>
     obtain⟨x,e,hx,ho⟩:=h3;subst e;rw[List.mapM_cons] at hm
     cases hx':C.ret x with
     |none=>rw[hx'] at hm;simp at hm
     |some x'=>
      rw[hx'] at hm;simp at hm;exact⟨x',hm.symm,IJ hx' hx,ho⟩
 |any=>cases h;exact trivial
theorem TY{x:ResultVar}(hR:jH N s a w σ β)(h:(wo P s x).1):
 ∃v,(match x with| .tmp t=>pure (a.tmps.getD t undef)| .cell b t=>do loadVar t (<-asAddr (a.tmps.getD b undef)):Sem Value).run P w=.ok v w/\dP w σ s.st β (wo P s x).2 v:=by
 cases x with
 |tmp t=>exact⟨_,rfl,hR.T t⟩
 |cell b t=>
  obtain⟨v,hrun,hv⟩:=MS (P:=P) (t:=t) hR.S (hR.T b) h;refine⟨v,?_,hv⟩;show(do loadVar t (<-asAddr (a.tmps.getD b undef)):Sem Value).run P w=.ok v w;generalize a.tmps.getD b undef=bv at hrun ⊢
  cases bv with
  |pointer o=>
   cases o with
   |none=>simp[Instr.loadAt,Instr.sureAddr] at hrun
   |some ad=>simpa [Instr.loadAt,Instr.sureAddr,asAddr] using hrun
  |_=>simp[Instr.loadAt,Instr.sureAddr] at hrun
theorem aa5{x:V}{y:Bool×List C}{v:Value}(h:JV x=some y)(hx:dP w σ S β x v):Lr w σ S β y v:=by
 cases x with
 |c x=>cases h;exact⟨x,rfl,hx.1,hx.2⟩
 |agg cs=>cases h;exact hx
 |eH=>cases h
 |any=>cases h
theorem T9(hR:jH N s a w σ β):∀(xs:List ResultVar)(ys:List (Bool×List C)),(nX P s xs).1->(nX P s xs).2=some ys->
 ∃vs:List Value,(xs.mapM fun x=>(match x with| .tmp t=>pure (a.tmps.getD t undef)| .cell b t=>do loadVar t (<-asAddr (a.tmps.getD b undef)):Sem Value)).run P w=.ok vs w/\ys.length=vs.length/\
  ∀(j:Nat)(y:Bool×List C),ys[j]? =some y->∃u,vs[j]? =some u/\Lr w σ s.st β y u
 |[],ys,_,h=>by simp only[nX] at h;cases h;exact⟨[],by simp,rfl,fun j y hy=>by simp at hy⟩
 |x::xs,ys,h1,h2=>by
  simp only[nX] at h1 h2
  cases hc:JV (wo P s x).2 with
  |none=>rw[hc] at h2;cases h2
  |some y=>
   cases hr:(nX P s xs).2 with
   |none=>rw[hc,hr] at h2;cases h2
   |some ys'=>
    rw[hc,hr] at h2;cases h2;obtain⟨v,hv,hrep⟩:=TY (P:=P) (x:=x) hR h1.1;obtain⟨vs,hvs,hl,hj⟩:=T9 hR xs ys' h1.2 hr;refine⟨v::vs,?_,by simp[hl],fun j z hz=> ?_⟩
    ·rw[List.mapM_cons];simp only[Sem.run_bind,Result.andThen_ok,Sem.run_pure];rw[hv];simp only[Result.andThen_ok];rw[hvs];rfl
    ·cases j with
     |zero=>simp at hz;subst hz;exact⟨v,rfl,aa5 hc hrep⟩
     |succ j=>exact hj j z hz
theorem Fp{fn:Func}(hR:jH N s a w σ β)(h:(nG P fn.results.toList s).1):∃v,(results fn a.tmps).run P w=.ok v w/\dP w σ s.st β (nG P fn.results.toList s).2 v:=by
 have hres:fn.results=fn.results.toList.toArray:=by simp
 have hrun:∀vs:List Value,(fn.results.toList.mapM fun x=>(match x with| .tmp t=>pure (a.tmps.getD t undef)| .cell b t=>do loadVar t (<-asAddr (a.tmps.getD b undef)):Sem Value)).run P w=.ok vs w->
  (results fn a.tmps).run P w=.ok (if h:vs.toArray.size=1 then vs.toArray[0] else .tuple vs.toArray) w:=by
  intro vs hvs;unfold results;rw[hres,List.mapM_toArray];simp only[Sem.run_bind,Sem.run_map];have:(fun x=>(match x with| .tmp t=>pure (a.tmps.getD t undef)| .cell b t=>do loadVar t (<-asAddr (a.tmps.getD b undef)):Sem Value))=fun(x:ResultVar)=>(match x with| .tmp t=>pure (a.tmps.getD t undef)| .cell b t=>do loadVar t (<-asAddr (a.tmps.getD b undef)):Sem Value):=rfl
  erw [hvs]
  rfl
 unfold nG at h ⊢;split at h
 ·rename_i x hx;rw[hx] at hrun;obtain⟨v,hv,hrep⟩:=TY (P:=P) (x:=x) hR h;refine⟨v,?_,hrep⟩
  have:=hrun [v] (by
   rw[List.mapM_cons];simp only[Sem.run_bind,List.mapM_nil,Result.andThen_ok,Sem.run_pure]
   rw[hv];rfl)
  simpa using this
 ·rename_i hne;split at h
  ·rename_i ys hys;obtain⟨vs,hvs,hl,hj⟩:=T9 (P:=P) hR _ ys h hys;have h1:=hrun vs hvs
   have hlen:¬(vs.toArray.size=1):=by
    intro e
    have hl2:ys.length=fn.results.toList.length:=by
     clear hj hvs h1 hrun hne e hl h;generalize fn.results.toList=l at hys
     induction l generalizing ys with
     |nil=>simp only[nX] at hys;cases hys;rfl
     |cons x xs ih=>
      simp only[nX] at hys
      cases hc:JV (wo P s x).2 with
      |none=>rw[hc] at hys;cases hys
      |some y=>
       cases hr:(nX P s xs).2 with
       |none=>rw[hc,hr] at hys;cases hys
       |some ys'=>rw[hc,hr] at hys;cases hys;simp[ih ys' hr]
    simp at e
    have:fn.results.toList.length=1:=by omega
    obtain⟨x,hx⟩:=List.length_eq_one_iff.1 this;exact hne x hx
   rw[dif_neg hlen] at h1;exact⟨_,h1,vs.toArray,rfl,by simpa using hl,fun j y hy=>by simpa using hj j y hy⟩
  ·exact h.elim
theorem eF.Dx{own:List Obj}{Ω:Store}{bo:List Value}{bΩ:Hs}(h:eF w σ (own::Ω) (bo::bΩ)):eF w σ Ω bΩ:=by
 refine⟨fun k o ho=> ?_,fun k k' o o' h1 h2 b e1 e2 e3 e4 e5 e6=> ?_,⟨by have:=h.shape.1;simpa using this,fun l fr hl=>h.shape.2 (l+1) fr hl⟩,h.live,h.vQ⟩
 ·obtain⟨l,j⟩:=k;obtain⟨hv,hh,hr⟩:=h.obj (l+1,j) o (by rw[bY];exact ho);rw[bY] at hh;exact⟨hv,hh,hr⟩
 ·obtain⟨l,j⟩:=k;obtain⟨l',j'⟩:=k';have:=h.apart (l+1,j) (l'+1,j') o o' h1 h2 b (by rw[bY];exact e1) (by rw[bY];exact e2) e3 (by rw[bY];exact e4) (by rw[bY];exact e5) e6;cases this;rfl
theorem eF.up1(h:eF w σ S β):eF w σ ([]::S) ([]::β):=by
 refine⟨fun k o ho=> ?_,fun k k' o o' h1 h2 b e1 e2 e3 e4 e5 e6=> ?_,⟨by simp[h.shape.1],fun l fr hl=> ?_⟩,h.live,h.vQ⟩
 ·obtain⟨l,j⟩:=k
  cases l with
  |zero=>rw[bD] at ho;simp at ho
  |succ l=>
   rw[bY] at ho;obtain⟨hv,hh,hr⟩:=h.obj (l,j) o ho;exact⟨hv,by rw[bY];exact hh,hr⟩
 ·obtain⟨l,j⟩:=k;obtain⟨l',j'⟩:=k'
  cases l with
  |zero=>rw[bD] at e1;simp at e1
  |succ l=>
   cases l' with
   |zero=>rw[bD] at e4;simp at e4
   |succ l'=>
    rw[bY] at e1 e2 e4 e5;have:=h.apart (l,j) (l',j') o o' h1 h2 b e1 e2 e3 e4 e5 e6;cases this;rfl
 ·cases l with
  |zero=>simp at hl;subst hl;exact⟨[],rfl,rfl⟩
  |succ l=>exact h.shape.2 l fr hl
theorem zO{b:Nat}(h:Own ([]::S) ([]::β) b):Own S β b:=by
 obtain⟨⟨l,j⟩,o,hv,h1,h2,h3⟩:=h
 cases l with
 |zero=>rw[bD] at h1;simp at h1
 |succ l=>rw[bY] at h1 h2;exact⟨(l,j),o,hv,h1,h2,h3⟩
theorem sV{own:List Obj}{Ω:Store}{bo:List Value}{bΩ:Hs}{b:Nat}(h:Own Ω bΩ b):Own (own::Ω) (bo::bΩ) b:=by
 obtain⟨⟨l,j⟩,o,hv,h1,h2,h3⟩:=h;exact⟨(l+1,j),o,hv,by rw[bY];exact h1,by rw[bY];exact h2,h3⟩
theorem zy:∀(args:List V)(i t:Nat),look (kE args i) t=if i<=t then(args[t-i]?).getD .any else .any
 |[],i,t=>by simp[kE,look]
 |v::args,i,t=>by
  rw[kE,look,zy args (i+1) t];by_cases h1:i=t
  ·subst h1;simp
  ·rw[if_neg h1];by_cases h2:i+1<=t
   ·rw[if_pos h2,if_pos (by omega)];rw[show t-i=(t-(i+1))+1 from by omega];rfl
   ·rw[if_neg h2,if_neg (by omega)]
theorem pY{f:FuncId}{fn:Func}{c:Code}{args:List V}{post:V->Store->Prop}(hf:P.funcs[f]? =some fn)(hb:fn.body=some c)(hn:(fn.name== "runtime.NumGoroutine")=false)
 (hl:args.length<=fn.ntmps)(h:AW P fn.ntmps c (aa4 P fn.results.toList post) ⟨kE (args.map (V.up 1)) 0,[]::S⟩):cB P f args S post:=by
 refine⟨⟨fn,hf,hn,by simp[hb]⟩,fun w σ β vs hS hargs=> ?_⟩;refine calls_of_wp hf hb ?_;have hlen:vs.length=args.length:=hargs.1.symm
 have PS:jH fn.ntmps ⟨kE (args.map (V.up 1)) 0,[]::S⟩ {tmps:=vs.toArray++Array.replicate (fn.ntmps-vs.toArray.size) undef,defers:=[]} w σ ([]::β):=by
  refine⟨by simp;omega,rfl,hS.up1,fun t=> ?_⟩;show dP w σ ([]::S) ([]::β) (look (kE (args.map (V.up 1)) 0) t) _;rw[zy,if_pos (Nat.zero_le _),Nat.sub_zero,List.getElem?_map]
  cases ha:args[t]? with
  |none=>exact trivial
  |some x=>
   obtain⟨v,hv,hr⟩:=hargs.2 t x ha;have ht:=(List.getElem?_eq_some_iff.1 hv).1
   have:(vs.toArray++Array.replicate (fn.ntmps-vs.toArray.size) undef).getD t undef=v:=by
    rw[Array.getD_eq_getD_getElem?,Array.getElem?_append_left (by simpa using ht)];simp[hv]
   rw[this];exact GH (S:=[]::S) (β:=[]::β) 1 hr
 refine wp_mono (h _ w σ ([]::β) PS) ?_;rintro e a' w' ⟨s',σ',β',hR,hst,hkp,hq⟩
 have main:(nG P fn.results.toList s').1/\(match(nG P fn.results.toList s').2.ret with|some r=>post r (gB s'.st)|none=>False)->
  a'.defers=[]/\∃v,(results fn a'.tmps).run P w'=.ok v w'/\∃v_1 r S' σ' β',Ending.returned v=Ending.returned v_1/\eF w' σ' S' β'/\Keep S β S' β'/\Step S β σ w S' β' σ' w'/\dP w' σ' S' β' r v_1/\post r S':=by
  rintro⟨q1,q2⟩;obtain⟨v,hv,hrep⟩:=Fp (fn:=fn) hR q1;split at q2
  ·rename_i r hr;obtain⟨tm,st⟩:=s';have aiU:=PO hr hrep;refine⟨hR.defers,v,hv,v,r,gB st,σ',gB β',rfl,?_,hkp,?_,aiU,q2⟩
   ·cases st with
    |nil=>
     cases β' with
     |nil=>exact hR.S
     |cons=>have:=hR.S.shape.1;simp at this
    |cons own Ω=>
     cases β' with
     |nil=>have:=hR.S.shape.1;simp at this
     |cons bo bΩ=>exact hR.S.Dx
   ·refine⟨hst.size,hst.os,hst.output,fun b hb ho=>hst.far b hb (fun x=>ho (zO x)),hst.near,fun b hb=> ?_⟩
    cases st with
    |nil=>obtain⟨k,o,hv,h1,_⟩:=hb;simp[gB,ni] at h1
    |cons own Ω=>
     cases β' with
     |nil=>obtain⟨k,o,hv,h1,h2,_⟩:=hb;simp[gB,ni] at h2
     |cons bo bΩ=>exact(hst.own b (sV hb)).imp zO id
  ·exact q2.elim
 cases e with
 |normal=>exact main hq
 |ret=>exact main hq
 |_=>exact hq.elim
end
def qm:Op->Bool
 | .alloc _=>true
 | .box _ _=>true
 | .store _ _ _=>true
 | .makeSlice _ _ _=>true
 | .makeMap _ none=>true
 | .mapUpdate _ _ _ _=>true
 | .call {callee:=.builtin .append,args:=_,argTypes:=_}=>true
 |_=>false
def xw:Op->Bool
 | .store _ _ _=>true
 | .mapUpdate _ _ _ _=>true
 |_=>false
def jk:Op->Bool
 | .call {callee:=.value _,args:=_,argTypes:=_}=>true
 |_=>false
abbrev Md:=Op->Nat
def fI(E:Md)(op:Op):Bool:=qm op||(decide (1<=E op)&&jk op)
def jU(E:Md)(op:Op):Bool:=xw op||(decide (2<=E op)&&jk op)
theorem aa6{E:Md}{op:Op}(h:qm op=true):fI E op=true:=by simp[fI,h]
theorem Yj{E:Md}{op:Op}(h:jU E op=true):fI E op=true:=by
 unfold jU fI at *
 rw[Bool.or_eq_true] at h ⊢;refine h.imp (fun hs=> ?_) (fun h=> ?_)
 ·cases op<;>first|rfl|simp[xw] at hs
 ·rw[Bool.and_eq_true,decide_eq_true_eq] at h ⊢;exact⟨by omega,h.2⟩
def DS(S S':Store):Prop:=∀k o,bg S k=some o->bg S' k=some o\/((∃z es,qP o z es)/\∃o' z es,bg S' k=some o'/\qP o' z es)
def Dy(P:Program)(tm:List (Nat×V))(c:Call)(r:V):Prop:=
 match c.callee with
 | .value x=>match ev tm x with
   | .c (.fn f caps)=>bq P f (c.args.toList.map (ev tm)++caps.map fun y=>.c (.ptr y.1 y.2)) r
   |_=>False
 |_=>False
def fJ(P:Program)(E:Md)(o:Oper)(s:St)(K:St->Prop):Prop:=
 if qm o.op then dx P o s K else
 match o.op with
 | .call {callee:=.value x,args,argTypes}=>match E (.call {callee:=.value x,args,argTypes}) with
   |0=>∃r,Dy P s.tm {callee:=.value x,args,argTypes} r/\K (s.put o.dst r)
   |1=>∃S' v,DS s.st S'/\dx P o s (fun t=>t=St.put ⟨s.tm,S'⟩ o.dst v)/\K (St.put ⟨s.tm,S'⟩ o.dst v)
   |_=>∃S' v,dx P o s (fun t=>t=St.put ⟨s.tm,S'⟩ o.dst v)/\K (St.put ⟨s.tm,S'⟩ o.dst v)
 |op=>(nval P s.st s.tm op).1/\K (s.put o.dst (nval P s.st s.tm op).2)
def nT(P:Program)(E:Md)(R:Array Oper)(o:Oper)(s:St)(K:St->Prop):Prop:=
 match o.guard with
 |none=>fJ P E o s K
 |some (j,want)=>
  match(fZ R j).map (look s.tm) with
  |some (.c (.d (.b x)))=>(x=want->fJ P E o s K)/\(x= !want->K (s.put o.dst (.eH [])))
  |some (.eH [])=>K (s.put o.dst (.eH []))
  |_=>False
def qV(P:Program)(E:Md)(R:Array Oper):List Oper->St->(St->Prop)->Prop
 |[],s,K=>K s
 |o::os,s,K=>nT P E R o s fun s'=>qV P E R os s' K
def NV(P:Program)(S:Store)(tm:List (Nat×V))(op:Op)(v:V):Prop:=
 (∃c,op=.call c/\Dy P tm c v)\/((nval P S tm op).1/\v=(nval P S tm op).2)
def gd(R:Array Oper)(o:Oper)(tm:List (Nat×V)):Option Bool:=
 match o.guard with
 |none=>some true
 |some (j,want)=>
  match(fZ R j).map (look tm) with
  |some (.c (.d (.b x)))=>some (x==want)
  |some (.eH [])=>some false
  |_=>none
def lg(P:Program)(E:Md)(R:Array Oper)(o:Oper)(s:St)(v:V)(s':St):Prop:=
 (gd R o s.tm=some false/\v=.eH []/\s'=s.put o.dst v)\/
 (gd R o s.tm=some true/\fI E o.op=false/\NV P s.st s.tm o.op v/\s'=s.put o.dst v)\/
 (gd R o s.tm=some true/\fI E o.op=true/\dx P o s (fun t=>t=s')/\s'=St.put ⟨s.tm,s'.st⟩ o.dst v/\(qm o.op=false->jU E o.op=false->DS s.st s'.st))
section
variable {P:Program} {w w':World} {σ σ':Nat->Nat} {S S':Store} {β β':Hs} {N:Nat} {s:St} {a:Act}
theorem qH{dst:Option Nat}{o:Obj}{mk:Key->V}{K:St->Prop}(h:newObj s dst o mk K):∃S' v,newObj s dst o mk (fun t=>t=St.put ⟨s.tm,S'⟩ dst v)/\K (St.put ⟨s.tm,S'⟩ dst v):=by
 unfold newObj at h ⊢;split at h
 ·rename_i own Ω hst;exact⟨_,_,rfl,h⟩
 ·exact h.elim
theorem aeZ{b:Bool}{es x:List (List D)}{z:Nat}{dst:Option Nat}{K:St->Prop}(h:yZ b es s dst z x K):∃S' v,yZ b es s dst z x (fun t=>t=St.put ⟨s.tm,S'⟩ dst v)/\K (St.put ⟨s.tm,S'⟩ dst v):=by
 cases b with
 |false=>exact qH (o:=.tok z x) (mk:=fun k=>.c (.bX k x)) h
 |true=>
  obtain⟨S',v,h1,h2⟩:=qH (o:=.eO z x) (mk:=fun k=>.c (.iH k)) h.2;exact⟨S',v,⟨h.1,h1⟩,h2⟩
theorem ae0{l:Option Nat}{es x:List (List D)}{z:Nat}{dst:Option Nat}{K:St->Prop}(h:Ae l es s dst z x K):∃S' v,Ae l es s dst z x (fun t=>t=St.put ⟨s.tm,S'⟩ dst v)/\K (St.put ⟨s.tm,S'⟩ dst v):=by
 cases l with
 |none=>exact aeZ h
 |some n=>
  cases es with
  |nil=>exact⟨s.st,_,rfl,h⟩
  |cons y es=>exact qH (o:=.tok z x) (mk:=fun k=>.c (.bX k x)) h
theorem ae1{b:Bool}{n:Nat}{x:List (List D)}{z:Nat}{dst:Option Nat}{K:St->Prop}(h:BZ b n s dst z x K):∃S' v,BZ b n s dst z x (fun t=>t=St.put ⟨s.tm,S'⟩ dst v)/\K (St.put ⟨s.tm,S'⟩ dst v):=by
 cases b with
 |false=>exact qH (o:=.jg n z x) (mk:=fun k=>.c (.bX k x)) h
 |true=>exact⟨s.st,_,rfl,h⟩
theorem aa7{o:Oper}{K:St->Prop}(hD:qm o.op=true)(h:dx P o s K):∃S' v,dx P o s (fun t=>t=St.put ⟨s.tm,S'⟩ o.dst v)/\K (St.put ⟨s.tm,S'⟩ o.dst v):=by
 obtain⟨dst,op,ty,pos,after,guard⟩:=o
 cases op with
 |alloc t=>
  simp only[dx,sQ] at h ⊢;split at h
  ·exact qH h
  ·exact h.elim
 |box t x=>
  simp only[dx,Ad] at h ⊢;split at h
  ·exact qH h
  ·exact h.elim
 |makeSlice t l c=>
  simp only[dx,vX] at h ⊢;split at h
  ·split at h
   ·obtain⟨h1,h2,h3,h4,h5,h6⟩:=h;obtain⟨S',v,k1,k2⟩:=qH h6;exact⟨S',v,⟨h1,h2,h3,h4,h5,k1⟩,k2⟩
   ·exact h.elim
  ·exact h.elim
 |store t x y=>
  simp only[dx,sS] at h ⊢;split at h
  ·split at h
   ·obtain⟨h1,h2,h3,h4⟩:=h;exact⟨_,_,⟨h1,h2,h3,rfl⟩,h4⟩
   ·exact h.elim
  ·split at h
   ·obtain⟨h1,h2,h3,h4,h5⟩:=h;exact⟨_,_,⟨h1,h2,h3,h4,rfl⟩,h5⟩
   ·exact h.elim
  ·split at h
   ·split at h
    ·split at h
     ·obtain⟨h1,h2,h3,h4,h5,h6⟩:=h;exact⟨_,_,⟨h1,h2,h3,h4,h5,rfl⟩,h6⟩
     ·exact h.elim
    ·exact h.elim
   ·exact h.elim
  ·exact h.elim
 |makeMap t r=>
  cases r with
  |none=>
   simp only[dx,sj] at h ⊢;exact qH h
  |some r=>simp[qm] at hD
 |mapUpdate t x y z=>
  simp only[dx,su] at h ⊢;split at h
  ·split at h
   ·exact⟨_,_,rfl,h⟩
   ·exact h.elim
  ·exact h.elim
 |call c=>
  obtain⟨yB,args,wh⟩:=c
  cases yB with
  |builtin b=>
   cases b with
   |append=>
    simp only[dx,mD] at h ⊢;split at h
    ·simp only[ql] at h ⊢;split at h
     ·obtain⟨h1,h2,h3,h4⟩:=h;split at h4
      ·split at h4
       ·obtain⟨k1,k2,k3,k4⟩:=h4;exact⟨_,_,⟨h1,h2,h3,k1,k2,k3,rfl⟩,k4⟩
       ·obtain⟨k1,k2,k3,k4⟩:=h4;exact⟨_,_,⟨h1,h2,h3,k1,k2,k3,rfl⟩,k4⟩
       ·exact h4.elim
      ·obtain⟨k1,k2,k3⟩:=h4;obtain⟨S',v,l1,l2⟩:=ae0 k3;exact⟨S',v,⟨h1,h2,h3,k1,k2,l1⟩,l2⟩
      ·obtain⟨k1,k2,k3⟩:=h4;obtain⟨S',v,l1,l2⟩:=ae1 k3;exact⟨S',v,⟨h1,h2,h3,k1,k2,l1⟩,l2⟩
      ·exact h4.elim
     ·exact h.elim
    ·exact h.elim
   |_=>simp[qm] at hD
  |_=>simp[qm] at hD
 |_=>simp[qm] at hD
theorem Yk{tm tm':List (Nat×V)}{dst:Option Nat}{o:Obj}{mk:Key->V}{v:V}(h:newObj ⟨tm,S⟩ dst o mk (fun t=>t=St.put ⟨tm,S'⟩ dst v))(hd:dst≠none):
 newObj ⟨tm',S⟩ dst o mk (fun t=>t=St.put ⟨tm',S'⟩ dst v):=by
 unfold newObj at h ⊢
 cases S with
 |nil=>exact h
 |cons own Ω=>
  cases dst with
  |none=>exact absurd rfl hd
  |some d=>
   simp only[St.put,St.mk.injEq,List.cons.injEq,Prod.mk.injEq,and_true,true_and] at h ⊢;exact h
theorem Vg{tm tm':List (Nat×V)}{o:Obj}{mk:Key->V}{v:V}(h:newObj ⟨tm,S⟩ none o mk (fun t=>t=St.put ⟨tm,S'⟩ none v)):
 newObj ⟨tm',S⟩ none o mk (fun t=>t=St.put ⟨tm',S'⟩ none v):=by
 unfold newObj at h ⊢
 cases S with
 |nil=>exact h
 |cons own Ω=>
  simp only[St.put,St.mk.injEq,true_and] at h ⊢;exact h
theorem oV{tm tm':List (Nat×V)}{dst:Option Nat}{o:Obj}{mk:Key->V}{v:V}(h:newObj ⟨tm,S⟩ dst o mk (fun t=>t=St.put ⟨tm,S'⟩ dst v)):
 newObj ⟨tm',S⟩ dst o mk (fun t=>t=St.put ⟨tm',S'⟩ dst v):=by
 cases dst with
 |none=>exact Vg h
 |some d=>exact Yk h (by simp)
theorem uG{tm tm':List (Nat×V)}{dst:Option Nat}{S1 S2:Store}{v v':V}(h:St.put ⟨tm,S1⟩ dst v=St.put ⟨tm,S2⟩ dst v'):St.put ⟨tm',S1⟩ dst v=St.put ⟨tm',S2⟩ dst v':=by
 cases dst with
 |none=>simp only[St.put,St.mk.injEq,true_and] at h ⊢;exact h
 |some d=>simp only[St.put,St.mk.injEq,List.cons.injEq,Prod.mk.injEq,and_true,true_and] at h ⊢;exact h
theorem aa8{b:Bool}{es x:List (List D)}{z:Nat}{tm tm':List (Nat×V)}{dst:Option Nat}{v:V}(h:yZ b es ⟨tm,S⟩ dst z x (fun t=>t=St.put ⟨tm,S'⟩ dst v)):
 yZ b es ⟨tm',S⟩ dst z x (fun t=>t=St.put ⟨tm',S'⟩ dst v):=by
 cases b with
 |false=>exact oV (o:=.tok z x) (mk:=fun k=>.c (.bX k x)) h
 |true=>exact⟨h.1,oV (o:=.eO z x) (mk:=fun k=>.c (.iH k)) h.2⟩
theorem aa9{l:Option Nat}{es x:List (List D)}{z:Nat}{tm tm':List (Nat×V)}{dst:Option Nat}{v:V}(h:Ae l es ⟨tm,S⟩ dst z x (fun t=>t=St.put ⟨tm,S'⟩ dst v)):
 Ae l es ⟨tm',S⟩ dst z x (fun t=>t=St.put ⟨tm',S'⟩ dst v):=by
 cases l with
 |none=>exact aa8 h
 |some n=>
  cases es with
  |nil=>exact uG h
  |cons y es=>exact oV (o:=.tok z x) (mk:=fun k=>.c (.bX k x)) h
theorem abb{b:Bool}{n:Nat}{x:List (List D)}{z:Nat}{tm tm':List (Nat×V)}{dst:Option Nat}{v:V}(h:BZ b n ⟨tm,S⟩ dst z x (fun t=>t=St.put ⟨tm,S'⟩ dst v)):
 BZ b n ⟨tm',S⟩ dst z x (fun t=>t=St.put ⟨tm',S'⟩ dst v):=by
 cases b with
 |false=>exact oV (o:=.jg n z x) (mk:=fun k=>.c (.bX k x)) h
 |true=>exact uG h
theorem abd{o:Oper}{tm tm':List (Nat×V)}{v:V}(hD:qm o.op=true)(he:∀x∈o.op.operands,ev tm x=ev tm' x)(h:dx P o ⟨tm,S⟩ (fun t=>t=St.put ⟨tm,S'⟩ o.dst v)):
 dx P o ⟨tm',S⟩ (fun t=>t=St.put ⟨tm',S'⟩ o.dst v):=by
 obtain⟨dst,op,ty,pos,after,guard⟩:=o
 cases op with
 |alloc t=>
  simp only[dx,sQ] at h ⊢;split at h
  ·exact oV h
  ·exact h.elim
 |box t x=>
  have e1:=he x (by simp[Op.operands]);simp only[dx,Ad,e1] at h ⊢;split at h
  ·exact oV h
  ·exact h.elim
 |makeSlice t l c=>
  have e1:=he l (by simp[Op.operands]);have e2:=he c (by simp[Op.operands]);simp only[dx,vX,e1,e2] at h ⊢;split at h
  ·split at h
   ·obtain⟨h1,h2,h3,h4,h5,h6⟩:=h;exact⟨h1,h2,h3,h4,h5,oV h6⟩
   ·exact h.elim
  ·exact h.elim
 |store t x y=>
  have e1:=he x (by simp[Op.operands]);have e2:=he y (by simp[Op.operands]);simp only[dx,sS,e1,e2] at h ⊢;split at h
  ·split at h
   ·obtain⟨h1,h2,h3,h4⟩:=h;exact⟨h1,h2,h3,uG h4⟩
   ·exact h.elim
  ·split at h
   ·obtain⟨h1,h2,h3,h4,h5⟩:=h;exact⟨h1,h2,h3,h4,uG h5⟩
   ·exact h.elim
  ·split at h
   ·split at h
    ·split at h
     ·obtain⟨h1,h2,h3,h4,h5,h6⟩:=h;exact⟨h1,h2,h3,h4,h5,uG h6⟩
     ·exact h.elim
    ·exact h.elim
   ·exact h.elim
  ·exact h.elim
 |makeMap t r=>
  cases r with
  |none=>
   simp only[dx,sj] at h ⊢;exact oV h
  |some r=>simp[qm] at hD
 |mapUpdate t x y z=>
  have e1:=he x (by simp[Op.operands]);have e2:=he y (by simp[Op.operands]);have e3:=he z (by simp[Op.operands]);simp only[dx,su,e1,e2,e3] at h ⊢;split at h
  ·split at h
   ·exact uG h
   ·exact h.elim
  ·exact h.elim
 |call c=>
  obtain⟨yB,args,wh⟩:=c
  cases yB with
  |builtin b=>
   cases b with
   |append=>
    simp only[dx,mD] at h ⊢;split at h
    ·rename_i x y t u hxy htu
     have hargs:args= #[x,y]:=by rw[<-Array.toArray_toList (xs:=args),hxy]
     have e1:=he x (by simp[Op.operands,Call.operands,hargs]);have e2:=he y (by simp[Op.operands,Call.operands,hargs]);simp only[ql,e1,e2] at h ⊢;split at h
     ·obtain⟨h1,h2,h3,h4⟩:=h;refine⟨h1,h2,h3,?_⟩;split at h4
      ·split at h4
       ·obtain⟨k1,k2,k3,k4⟩:=h4;exact⟨k1,k2,k3,uG k4⟩
       ·obtain⟨k1,k2,k3,k4⟩:=h4;exact⟨k1,k2,k3,uG k4⟩
       ·exact h4.elim
      ·obtain⟨k1,k2,k3⟩:=h4;exact⟨k1,k2,aa9 k3⟩
      ·obtain⟨k1,k2,k3⟩:=h4;exact⟨k1,k2,abb k3⟩
      ·exact h4.elim
     ·exact h.elim
    ·exact h.elim
   |_=>simp[qm] at hD
  |_=>simp[qm] at hD
 |_=>simp[qm] at hD
theorem abe{f:FuncId}{args:List V}{tm tm':List (Nat×V)}{dst:Option Nat}{v:V}(h:xV P f args ⟨tm,S⟩ dst (fun t=>t=St.put ⟨tm,S'⟩ dst v)):xV P f args ⟨tm',S⟩ dst (fun t=>t=St.put ⟨tm',S'⟩ dst v):=by
 rcases h with⟨post,h1,h2⟩|⟨r,h1,h2⟩
 ·exact .inl ⟨post,h1,fun r OY hp=>uG (h2 r OY hp)⟩
 ·exact .inr ⟨r,h1,uG h2⟩
theorem abf{E:Md}{o:Oper}{tm tm':List (Nat×V)}{v:V}(hD:fI E o.op=true)(he:∀x∈o.op.operands,ev tm x=ev tm' x)(h:dx P o ⟨tm,S⟩ (fun t=>t=St.put ⟨tm,S'⟩ o.dst v)):
 dx P o ⟨tm',S⟩ (fun t=>t=St.put ⟨tm',S'⟩ o.dst v):=by
 by_cases hd:qm o.op=true
 ·exact abd hd he h
 ·have hc:jk o.op=true:=by
   unfold fI at hD;rw[Bool.or_eq_true,Bool.and_eq_true] at hD;rcases hD with h|h
   ·exact absurd h hd
   ·exact h.2
  obtain⟨dst,op,ty,pos,after,guard⟩:=o
  cases op with
  |call c=>
   obtain⟨yB,args,wh⟩:=c
   cases yB with
   |value x=>
    have h1:args.toList.map (ev tm)=args.toList.map (ev tm'):=List.map_congr_left fun y hy=>he y (by simp[Op.operands,Call.operands];exact .inr (by simpa using hy));have h2:ev tm x=ev tm' x:=he x (by simp[Op.operands,Call.operands]);simp only[dx,mD,h1,h2] at h ⊢;split at h
    ·exact abe h
    ·exact h.elim
   |_=>simp[jk] at hc
  |_=>simp[jk] at hc
theorem ae2{tm tm':List (Nat×V)}{op:Op}(he:∀x∈op.operands,ev tm x=ev tm' x):nval P S tm op=nval P S tm' op:=by
 unfold nval mq
 split<;>try rfl
 ·rw[he _ (by simp[Op.operands])]
 ·rw[he _ (by simp[Op.operands])]
 ·rename_i c x y;rw[he c (by simp[Op.operands]),he x (by simp[Op.operands]),he y (by simp[Op.operands])]
 ·rw[he _ (by simp[Op.operands])]
 ·rw[he _ (by simp[Op.operands])]
 ·rw[he _ (by simp[Op.operands])]
 ·rename_i t x i;rw[he x (by simp[Op.operands]),he i (by simp[Op.operands])]
 ·rename_i t x i;rw[he x (by simp[Op.operands]),he i (by simp[Op.operands])]
 ·rename_i op t x y _;rw[he x (by simp[Op.operands]),he y (by simp[Op.operands])]
 ·rw[he _ (by simp[Op.operands])]
 ·rw[he _ (by simp[Op.operands])]
 ·rw[he _ (by simp[Op.operands])]
 ·rename_i fn first caps
  have h1:first.toList.map (ev tm)=first.toList.map (ev tm'):=List.map_congr_left fun x hx=>he x (by simp[Op.operands];exact .inl (by simpa using hx))
  have h2:caps.toList.map (ev tm)=caps.toList.map (ev tm'):=List.map_congr_left fun x hx=>he x (by simp[Op.operands];exact .inr (by simpa using hx));rw[h1,h2]
 ·rw[he _ (by simp[Op.operands])]
 ·rename_i t x lo hi mx;rw[he x (by simp[Op.operands])]
  have h1:lo.map (ev tm)=lo.map (ev tm'):=by
   cases lo with
   |none=>rfl
   |some y=>simp[he y (by simp[Op.operands])]
  have h2:hi.map (ev tm)=hi.map (ev tm'):=by
   cases hi with
   |none=>rfl
   |some y=>simp[he y (by simp[Op.operands])]
  have h3:mx.map (ev tm)=mx.map (ev tm'):=by
   cases mx with
   |none=>rfl
   |some y=>simp[he y (by simp[Op.operands])]
  rw[h1,h2,h3]
 ·rename_i t parts
  have h1:(parts.toList.map fun x=>(x.1,ev tm x.2))=parts.toList.map fun x=>(x.1,ev tm' x.2):=List.map_congr_left fun x hx=>by
   rw[he x.2 (by simp only[Op.operands,List.mem_toArray,List.mem_map];exact⟨x,hx,rfl⟩)]
  rw[h1]
 ·rename_i t n parts
  have h1:(parts.toList.map fun x=>(x.1,ev tm x.2))=parts.toList.map fun x=>(x.1,ev tm' x.2):=List.map_congr_left fun x hx=>by
   rw[he x.2 (by simp only[Op.operands,List.mem_toArray,List.mem_map];exact⟨x,hx,rfl⟩)]
  rw[h1]
 ·rename_i t x i;rw[he x (by simp[Op.operands]),he i (by simp[Op.operands])]
 ·rename_i args wh;split
  ·rename_i x t hx ht
   have hargs:args= #[x]:=by rw[<-Array.toArray_toList (xs:=args),hx]
   rw[he x (by simp[Op.operands,Call.operands,hargs])]
  ·rfl
 ·rename_i args wh;split
  ·rename_i x y hx
   have hargs:args= #[x,y]:=by rw[<-Array.toArray_toList (xs:=args),hx]
   rw[he x (by simp[Op.operands,Call.operands,hargs]),he y (by simp[Op.operands,Call.operands,hargs])]
  ·rfl
 ·rename_i args wh;split
  ·rename_i x y hx
   have hargs:args= #[x,y]:=by rw[<-Array.toArray_toList (xs:=args),hx]
   rw[he x (by simp[Op.operands,Call.operands,hargs]),he y (by simp[Op.operands,Call.operands,hargs])]
  ·rfl
theorem abg{tm tm':List (Nat×V)}{c:Call}{v:V}(he:∀x∈c.operands,ev tm x=ev tm' x)(h:Dy P tm c v):Dy P tm' c v:=by
 unfold Dy at h ⊢;obtain⟨yB,args,wh⟩:=c
 cases yB with
 |value x=>
  simp only at h ⊢;rw[<-he x (by simp[Call.operands])];have h1:args.toList.map (ev tm)=args.toList.map (ev tm'):=List.map_congr_left fun y hy=>he y (by simp[Call.operands];exact .inr (by simpa using hy));rw[<-h1];exact h
 |_=>exact h
def PU:Obj->Prop
 | .box _=>True
 | .eO _ _=>True
 | .mp _=>True
 | .xf _=>True
 |_=>False
def GI(v:V)(k:Key):Prop:=(∃off,v=.c (.ptr k off))\/(∃i off,v=.c (.kI k i off))\/v=.c (.iH k)\/v=.c (.mp k)\/(∃r p,v=.c (.xp k r p))\/∃r p z i off,v=.c (.xq k r p z i off)
def Fix(S S':Store):Prop:=∀k o,bg S k=some o->PU o->bg S' k=some o
theorem Fix.refl(S:Store):Fix S S:=fun _ _ h _=>h
theorem gU{q:Prop}(h:no.1):q:=h.elim
theorem abh{l:Option Nat}{tm:List (Nat×V)}{op:Op}(h:(mq P l S tm op).1)
 (hf:∀x∈op.operands,∀k,GI (ev tm x) k->
   ∀o,bg S k=some o->PU o->bg S' k=some o):mq P l S' tm op=mq P l S tm op:=by
 unfold mq at h ⊢
 split at h<;>try rfl
 ·rename_i t x;have hf:=hf x (by simp[Op.operands]);unfold zq at h ⊢;split at h
  ·rfl
  ·split at h
   ·rename_i hx;simp only[hx]
   ·rename_i k off hx;split at h
    ·rename_i cs hk;rw[hf k (.inl ⟨off,hx⟩) _ hk trivial]
    ·exact gU h
   ·rename_i k i off hx;split at h
    ·rename_i aY es hk;rw[hf k (.inr (.inl ⟨i,off,hx⟩)) _ hk trivial]
    ·exact gU h
   ·rename_i k r p z i off hx;split at h
    ·rename_i rs hk;rw[hf k (.inr (.inr (.inr (.inr (.inr ⟨r,p,z,i,off,hx⟩))))) _ hk trivial]
    ·exact gU h
   ·exact gU h
 ·rename_i t x f;have hf:=hf x (by simp[Op.operands]);unfold qQ at h ⊢;split at h
  ·split at h
   ·split at h
    ·exact gU h
    ·rename_i fs hs _ fd hfd hne;split at h
     ·rename_i hx;simp[hs,hfd,hne,hx]
     ·rename_i k off hx;split at h
      ·rename_i cs hk;simp only[hs,hfd,hne,if_false,hx,hf k (.inl ⟨off,hx⟩) _ hk trivial,hk]
      ·exact gU h
     ·rename_i k i off hx;split at h
      ·rename_i aY es hk;simp only[hs,hfd,hne,if_false,hx,hf k (.inr (.inl ⟨i,off,hx⟩)) _ hk trivial,hk]
      ·exact gU h
     ·rename_i k r p z i off hx;split at h
      ·rename_i rs hk;simp only[hs,hfd,hne,if_false,hx,hf k (.inr (.inr (.inr (.inr (.inr ⟨r,p,z,i,off,hx⟩))))) _ hk trivial,hk]
      ·exact gU h
     ·exact gU h
   ·exact gU h
  ·exact gU h
 ·rename_i t x i;have hf:=hf x (by simp[Op.operands]);unfold qR at h ⊢;split at h
  ·rename_i e k n' n ht hx hi;split at h
   ·rename_i aY es hk;simp only[ht,hx,hi,hf k (.inr (.inr (.inl hx))) _ hk trivial,hk]
   ·exact gU h
  ·rename_i len e k off n' n ht hx hi;split at h
   ·rename_i cs hk;simp only[ht,hx,hi,hf k (.inl ⟨off,hx⟩) _ hk trivial,hk]
   ·exact gU h
  ·rename_i e k r p n' n ht hx hi;split at h
   ·rename_i rs hk;simp only[ht,hx,hi,hf k (.inr (.inr (.inr (.inr (.inl ⟨r,p,hx⟩))))) _ hk trivial,hk]
   ·exact gU h
  ·rename_i e y n' n hy hy2 ht hx hi;simp only[ht,hx,hi]
  ·exact gU h
 ·rename_i x;have hf:=hf x (by simp[Op.operands]);unfold vw at h ⊢;split at h
  ·rename_i k off hx;split at h
   ·rename_i cs hk;simp only[hx,hf k (.inl ⟨off,hx⟩) _ hk trivial,hk]
   ·exact gU h
  ·rename_i hx;simp only[hx]
  ·exact gU h
 ·rename_i t x i;have hf:=hf x (by simp[Op.operands]);unfold xg at h ⊢;split at h
  ·rename_i kt et k l ht yx hi;split at h
   ·rename_i m hk hkt hz;simp only[ht,yx,hi,hf k (.inr (.inr (.inr (.inl yx)))) _ hk trivial,hk,hkt,hz]
   ·exact gU h
  ·exact gU h
 ·rename_i args wh;split at h
  ·rename_i x t hx ht
   have hargs:args= #[x]:=by rw[<-Array.toArray_toList (xs:=args),hx]
   have hf:=hf x (by simp[Op.operands,Call.operands,hargs]);unfold Dq at h ⊢;split at h
   ·rename_i l JW yx;simp only[JW,yx]
   ·rename_i n e JW;simp only[JW]
   ·rename_i e k JW yx;split at h
    ·rename_i aY es hk;simp only[JW,yx,hf k (.inr (.inr (.inl yx))) _ hk trivial,hk]
    ·exact gU h
   ·rename_i e k r p JW yx;split at h
    ·rename_i rs hk;simp only[JW,yx,hf k (.inr (.inr (.inr (.inr (.inl ⟨r,p,yx⟩))))) _ hk trivial,hk]
    ·exact gU h
   ·rename_i e y hy hy2 JW yx;simp only[JW,yx]
   ·exact gU h
  ·exact gU h
end
def uW(acc:List Nat):List Edge->Nat
 |[]=>0
 |e::es=>(if Region.binds .any e then 2^e.on ||| acc.getD e.on 0 else 0) ||| uW acc es
def masks:List Oper->List Nat->List Nat
 |[],acc=>acc
 |o::os,acc=>masks os (acc++[uW acc o.after.toList])
def clash(E:Md)(R:Array Oper)(x y:Oper):Bool:= !(x.apart R y)||(fI E x.op&&fI E y.op)||jU E x.op||jU E y.op
def yC(E:Md)(R:Array Oper)(N:Nat):Bool:=
 (List.range R.size).all fun j=>
   (match R[j]? with
    |some o=>o.after.toList.all (fun e=> !Region.binds .any e||decide (e.on<j))&&(match o.dst with|some d=>decide (d<N)|none=>true)
    |none=>true)&&
   (List.range j).all fun i=>
     match R[i]?,R[j]? with
     |some x,some y=>((masks R.toList []).getD j 0).testBit i|| !(clash E R x y)
     |_,_=>true
def qW(R:Array Oper)(i j:Nat):Bool:=if i<j then((masks R.toList []).getD j 0).testBit i else((masks R.toList []).getD i 0).testBit j
def lQ(E:Md)(R:Array Oper)(x y:Oper):Bool:= !(x.apart R y)||(fI E x.op&&fI E y.op)
def settled(R:Array Oper)(i:Nat):Operand->Bool
 | .tmp t=>(List.range R.size).all fun n=>decide (n<i)|| !(fZ R n==some t)
 |_=>true
def rM(R:Array Oper)(i:Nat)(x:Oper)(j:Nat)(y:Oper):Bool:=jk y.op||match x.op with
 | .store _ a _=>settled R i a&&y.op.operands.toList.all (settled R j)
 |_=>false
def CJ(E:Md)(R:Array Oper)(N:Nat):Bool:=
 (List.range R.size).all fun j=>
   (match R[j]? with
    |some o=>o.after.toList.all (fun e=> !Region.binds .any e||decide (e.on<j))&&(match o.dst with|some d=>decide (d<N)|none=>true)
    |none=>true)&&
   (List.range j).all fun i=>
     match R[i]?,R[j]? with
     |some x,some y=>((masks R.toList []).getD j 0).testBit i|| !(lQ E R x y||(jU E x.op&& !(rM R i x j y))||(jU E y.op&& !(rM R j y i x)))
     |_,_=>true
def Vh(v w:V):Bool:=
 match w with
 | .c (.ptr k _)=>(match v with| .c (.ptr k' _)=>k'.2 !=k.2| .c (.kI k' _ _)=>k'.2 !=k.2|_=>false)
 | .c (.kI k _ _)=>(match v with| .c (.ptr k' _)=>k'.2 !=k.2| .c (.kI k' _ _)=>k'.2 !=k.2|_=>false)
 | .c (.iH k)=>(match v with| .c (.ptr k' _)=>k'.2 !=k.2| .c (.kI k' _ _)=>k'.2 !=k.2|_=>false)
 | .c (.mp k)=>(match v with| .c (.ptr k' _)=>k'.2 !=k.2| .c (.kI k' _ _)=>k'.2 !=k.2|_=>false)
 | .c (.xp _ _ _)=>false
 | .c (.xq _ _ _ _ _ _)=>false
 |_=>true
def GJ(E:Md)(R:Array Oper)(tm:List (Nat×V)):Bool:=
 (List.range R.size).all fun i=>match R[i]? with
   |some x=> !(jU E x.op)||match x.op with
    | .store _ a _=>(List.range R.size).all fun j=>match R[j]? with
      |some y=>qW R i j||fI E y.op||jk y.op||y.op.operands.toList.all (fun z=>Vh (ev tm a) (ev tm z))
      |none=>true
    |_=>true
   |none=>true
def LJ(R:Array Oper)(i:Nat):Bool:=
 (List.range R.size).all fun j=>decide (j=i)||(if j<i then((masks R.toList []).getD i 0).testBit j else((masks R.toList []).getD j 0).testBit i)
def yD:Op->Option FuncId
 | .call {callee:=.value (.func f),args:=_,argTypes:=_}=>some f
 |_=>none
def xW(R:Array Oper)(m:Nat):Md:=fun op=>if(List.range R.size).all (fun i=>match R[i]? with
 |some o=>(yD op !=yD o.op)||LJ R i
 |none=>true) then 2 else m
def xA:Op->Bool
 | .alloc _=>true
 |_=>false
def Fq(E:Md)(R:Array Oper)(p:Nat):Bool:=match R[p]? with
 |some o=>xA o.op&&o.guard.isNone&&o.dst.isSome&&(List.range R.size).all fun j=>match R[j]? with
  |some y=>decide (j=p)||y.apart R o||(List.range p).all fun i=>match R[i]? with
   |some x=> !(fI E x.op)||(decide (i<j)&&((masks R.toList []).getD j 0).testBit i)
   |none=>true
  |none=>true
 |none=>true
def Yl(E:Md)(R:Array Oper)(p j:Nat)(x y:Oper):Bool:= !(x.apart R y)||(!(decide (j=p))&&((fI E x.op&&fI E y.op)||jU E x.op||jU E y.op))
def CK(E:Md)(R:Array Oper)(N p:Nat):Bool:=
 Fq E R p&&(List.range R.size).all fun j=>
  (match R[j]? with
   |some o=>o.after.toList.all (fun e=> !Region.binds .any e||decide (e.on<j))&&(match o.dst with|some d=>decide (d<N)|none=>true)
   |none=>true)&&
  (List.range j).all fun i=>
    match R[i]?,R[j]? with
    |some x,some y=>((masks R.toList []).getD j 0).testBit i|| !(Yl E R p j x y)
    |_,_=>true
def Dz(E:Md)(R:Array Oper)(N p:Nat):Bool:=
 Fq E R p&&(List.range R.size).all fun j=>
  (match R[j]? with
   |some o=>o.after.toList.all (fun e=> !Region.binds .any e||decide (e.on<j))&&(match o.dst with|some d=>decide (d<N)|none=>true)
   |none=>true)&&
  (List.range j).all fun i=>
    match R[i]?,R[j]? with
    |some x,some y=>((masks R.toList []).getD j 0).testBit i|| !(!(x.apart R y)||(!(decide (j=p))&&((fI E x.op&&fI E y.op)||(jU E x.op&& !(rM R i x j y))||(jU E y.op&& !(rM R j y i x)))))
    |_,_=>true
def abj(R:Array Oper)(p i:Nat):Bool:=
 (List.range R.size).all fun j=>decide (j=i)||decide (j=p)||(if j<i then((masks R.toList []).getD i 0).testBit j else((masks R.toList []).getD j 0).testBit i)
def JX(R:Array Oper)(p:Nat):Md:=fun op=>if(List.range R.size).all (fun i=>match R[i]? with
 |some o=>(yD op !=yD o.op)||abj R p i
 |none=>true) then 2 else 0
def IK(R:Array Oper)(p:Nat):Bool:=match R[p]? with
 |some o=>xA o.op
 |none=>false
def pOf(R:Array Oper)(N:Nat):Option Nat:=(List.range R.size).find? fun p=>IK R p&&CK (JX R p) R N p
def agS(R:Array Oper)(N:Nat):Option Nat:=(List.range R.size).find? fun p=>IK R p&&Dz (JX R p) R N p
def JY(R:Array Oper)(N:Nat):Md:=if yC (xW R 1) R N then xW R 1 else match pOf R N with
 |some p=>JX R p
 |none=>if yC (xW R 0) R N then xW R 0 else fun _=>0
def LK(R:Array Oper)(N:Nat):Bool:=yC (JY R N) R N||match pOf R N with
 |some p=>CK (JY R N) R N p
 |none=>false
def rO(R:Array Oper)(N:Nat):Md:=if CJ (xW R 1) R N then xW R 1 else match agS R N with
 |some p=>JX R p
 |none=>if CJ (xW R 0) R N then xW R 0 else fun _=>0
def IL(R:Array Oper)(N:Nat):Bool:=CJ (rO R N) R N||match agS R N with
 |some p=>Dz (rO R N) R N p
 |none=>false
section
variable {P:Program} {E:Md} {w w':World} {σ σ':Nat->Nat} {S S':Store} {β β':Hs} {N:Nat} {s:St} {a:Act} {R:Array Oper}
theorem Fu:∀(l:List Oper)(acc:List Nat)(i:Nat),i<acc.length->(masks l acc)[i]? =acc[i]?
 |[],acc,i,h=>rfl
 |o::os,acc,i,h=>by rw[masks,Fu os _ i (by simp;omega),List.getElem?_append_left h]
theorem PV:∀(l:List Oper)(acc:List Nat)(i:Nat)(o:Oper),l[i]? =some o->
 ∃acc',(∀j,j<acc.length+i->acc'[j]? =(masks l acc)[j]?)/\acc'.length=acc.length+i/\(masks l acc)[acc.length+i]? =some (uW acc' o.after.toList)
 |[],acc,i,o,h=>by simp at h
 |x::os,acc,0,o,h=>by
  simp at h;subst h;refine⟨acc,fun j hj=> ?_,by simp,?_⟩
  ·rw[masks,Fu os _ j (by simp;omega),List.getElem?_append_left (by omega)]
  ·rw[masks,Nat.add_zero,Fu os _ _ (by simp),List.getElem?_append_right (Nat.le_refl _)];simp
 |x::os,acc,i+1,o,h=>by
  obtain⟨acc',h1,h2,h3⟩:=PV os (acc++[uW acc x.after.toList]) i o (by simpa using h);refine⟨acc',fun j hj=> ?_,by rw[h2];simp;omega,?_⟩
  ·rw[masks];exact h1 j (by simp;omega)
  ·rw[masks,<-h3];congr 1;simp;omega
theorem Fv{acc:List Nat}{k:Nat}:∀(es:List Edge),(uW acc es).testBit k=true->∃e∈es,Region.binds .any e=true/\(e.on=k\/(acc.getD e.on 0).testBit k=true)
 |[],h=>by simp[uW] at h
 |e::es,h=>by
  rw[uW,Nat.testBit_or,Bool.or_eq_true] at h;rcases h with h|h
  ·by_cases hb:Region.binds .any e=true
   ·rw[if_pos hb,Nat.testBit_or,Bool.or_eq_true] at h;refine⟨e,by simp,hb,?_⟩;rcases h with h|h
    ·left;rw[Nat.testBit_two_pow] at h;simpa using h
    ·exact .inr h
   ·rw[if_neg hb] at h;simp at h
  ·obtain⟨e',he',h'⟩:=Fv es h;exact⟨e',by simp[he'],h'⟩
theorem M5(E:Nat->Prop)(hE:∀i o e,R[i]? =some o->E i->e∈o.after->Region.binds .any e=true->E e.on)(hlt:∀i o e,R[i]? =some o->e∈o.after->Region.binds .any e=true->e.on<i):
 ∀(i:Nat)(o:Oper),R[i]? =some o->(∀e∈o.after,Region.binds .any e=true->E e.on)->∀k,((masks R.toList []).getD i 0).testBit k=true->E k:=by
 intro i
 induction i using Nat.strongRecOn with
 |_ i ih=>
  intro o ho hed k hk;obtain⟨acc',h1,h2,h3⟩:=PV R.toList [] i o (by simpa using ho);simp only[List.length_nil,Nat.zero_add] at h1 h2 h3;rw[List.getD_eq_getElem?_getD,h3] at hk;obtain⟨e,he,hb,hek⟩:=Fv _ hk
  have he':e∈o.after:=by simpa using he
  rcases hek with rfl|hek
  ·exact hed e he' hb
  ·have hon:=hlt i o e ho he' hb;have akx:=hed e he' hb;have hilt:i<R.size:=(Array.getElem?_eq_some_iff.1 ho).1;have hsome:R[e.on]? =some R[e.on]:=Array.getElem?_eq_getElem (by omega);refine ih e.on hon _ hsome (fun e2 he2 hb2=>hE e.on _ e2 hsome akx he2 hb2) k ?_;rw[List.getD_eq_getElem?_getD,h1 e.on (by omega)] at hek;rw[List.getD_eq_getElem?_getD];exact hek
def kF(R:Array Oper)(vs:Nat->V)(E:Nat->Bool)(base:List (Nat×V)):Nat->Nat->V
 |0,t=>look base t
 |k+1,t=>if E k=true/\fZ R k=some t then vs k else kF R vs E base k t
theorem Cc{vs:Nat->V}{E:Nat->Bool}{base:List (Nat×V)}{t i:Nat}:∀(n:Nat),(∀j,j<n->fZ R j=some t->(E j=true<->j<i))->
 kF R vs E base n t=kF R vs (fun _=>true) base (min n i) t
 |0,_=>by simp[kF]
 |n+1,h=>by
  have ih:=Cc (vs:=vs) (base:=base) n (fun j hj hd=>h j (by omega) hd);rw[kF];by_cases hd:fZ R n=some t
  ·by_cases hE:E n=true
   ·have hni:=(h n (by omega) hd).1 hE;rw[if_pos ⟨hE,hd⟩,show min (n+1) i=n+1 from by omega,kF,if_pos ⟨rfl,hd⟩]
   ·have hni:¬n<i:=fun hn=>hE ((h n (by omega) hd).2 hn);rw[if_neg (fun x=>hE x.1),ih,show min (n+1) i=min n i from by omega]
  ·rw[if_neg (fun x=>hd x.2),ih];by_cases hni:n<i
   ·rw[show min (n+1) i=n+1 from by omega,show min n i=n from by omega,kF,if_neg (fun x=>hd x.2)]
   ·rw[show min (n+1) i=min n i from by omega]
theorem xX{vs:Nat->V}{E E':Nat->Bool}{base:List (Nat×V)}{t:Nat}:∀(n:Nat),(∀j,j<n->fZ R j=some t->E j=E' j)->kF R vs E base n t=kF R vs E' base n t
 |0,_=>rfl
 |n+1,h=>by
  rw[kF,kF,xX n (fun j hj hd=>h j (by omega) hd)];by_cases hd:fZ R n=some t
  ·rw[h n (by omega) hd]
  ·rw[if_neg (fun x=>hd x.2),if_neg (fun x=>hd x.2)]
theorem DC{vs:Nat->V}{E:Nat->Bool}{base:List (Nat×V)}{t i:Nat}(hi:E i=true)(hd:fZ R i=some t):∀(n:Nat),i<n->(∀j,j<n->i<j->fZ R j=some t->E j=false)->kF R vs E base n t=vs i
 |0,h,_=>by omega
 |n+1,h,hj=>by
  rw[kF];by_cases hin:i=n
  ·subst hin;rw[if_pos ⟨hi,hd⟩]
  ·have:¬(E n=true/\fZ R n=some t):=fun x=>by
    have:=hj n (by omega) (by omega) x.2;rw[this] at x;simp at x
   rw[if_neg this];exact DC hi hd n (by omega) (fun j hjn hij hdj=>hj j (by omega) hij hdj)
theorem H6{o:Oper}{s:St}{K:St->Prop}(h:nT P E R o s K):∃v s',lg P E R o s v s'/\K s':=by
 have hN:∀(hg:gd R o s.tm=some true),fJ P E o s K->∃v s',lg P E R o s v s'/\K s':=by
  intro hg hx;unfold fJ at hx;by_cases hD:qm o.op=true
  ·rw[if_pos hD] at hx;obtain⟨S',v,h1,h2⟩:=aa7 hD hx;exact⟨v,_,.inr (.inr ⟨hg,aa6 hD,h1,by rw[kM],fun h=>by rw[hD] at h;cases h⟩),h2⟩
  ·rw[if_neg hD] at hx
   have hD':qm o.op=false:=by simpa using hD
   split at hx
   ·rename_i x args wh hop
    have hcv:jk o.op=true:=by rw[hop];rfl
    rw[<-hop] at hx;split at hx
    ·rename_i hE;obtain⟨r,h1,h2⟩:=hx;exact⟨r,_,.inr (.inl ⟨hg,by unfold fI;rw[hD',hE];rfl,.inl ⟨_,hop,h1⟩,rfl⟩),h2⟩
    ·rename_i hE;obtain⟨S',v,h0,h1,h2⟩:=hx;exact⟨v,_,.inr (.inr ⟨hg,by unfold fI;rw[hE,hcv];simp,h1,by rw[kM],fun _ _=>by rw[kM];exact h0⟩),h2⟩
    ·rename_i hE0 hE1;obtain⟨S',v,h1,h2⟩:=hx
     have h3:2<=E o.op:=by
      rcases Nat.lt_or_ge (E o.op) 2 with h|h
      ·exfalso
       have:E o.op=0\/E o.op=1:=by omega
       exact this.elim hE0 hE1
      ·exact h
     exact⟨v,_,.inr (.inr ⟨hg,by unfold fI;rw[hcv,Bool.and_true,Bool.or_eq_true,decide_eq_true_eq];exact .inr (by omega),h1,by rw[kM],fun _ h=>by
      unfold jU at h;rw[hcv,Bool.and_true,Bool.or_eq_false_iff,decide_eq_false_iff_not] at h
      exact absurd h3 h.2⟩),h2⟩
   ·rename_i hne;refine⟨_,_,.inr (.inl ⟨hg,?_,.inr ⟨hx.1,rfl⟩,rfl⟩),hx.2⟩
    have:jk o.op=false:=by
     cases hc:jk o.op with
     |false=>rfl
     |true=>
      exfalso;unfold jk at hc;split at hc
      ·rename_i x a b ho;exact hne _ _ _ ho
      ·cases hc
    unfold fI;rw[hD',this];simp
 unfold nT at h;split at h
 ·rename_i hg;exact hN (by simp only[gd,hg]) h
 ·rename_i j want hg;split at h
  ·rename_i x hx;by_cases e:x=want
   ·exact hN (by simp only[gd,hg,hx,e,beq_self_eq_true]) (h.1 e)
   ·exact⟨.eH [],_,.inl ⟨by simp only[gd,hg,hx];simp[e],rfl,rfl⟩,h.2 (by cases x<;>cases want<;>simp_all)⟩
  ·rename_i hx;exact⟨.eH [],_,.inl ⟨by simp only[gd,hg,hx],rfl,rfl⟩,h⟩
  ·exact h.elim
theorem Fw{F:Oper->St->St->Prop}{D:List Oper->St->Prop}{K:St->Prop}(hnil:∀s,D [] s->K s)(aeu:∀o os s,D (o::os) s->∃v s',lg P E R o s v s'/\F o s s'/\D os s'):∀(n k:Nat),k+n=R.size->∀s,D (R.toList.drop k) s->
 ∃(st:Nat->St) (vs:Nat->V),st k=s/\K (st R.size)/\∀i,k<=i->i<R.size->∃o,R[i]? =some o/\lg P E R o (st i) (vs i) (st (i+1))/\F o (st i) (st (i+1))
 |0,k,hk,s,h=>by
  have:R.toList.drop k=[]:=by apply List.drop_eq_nil_of_le;simp;omega
  rw[this] at h;exact⟨fun _=>s,fun _=>.any,rfl,hnil s h,fun i h1 h2=>by omega⟩
 |n+1,k,hk,s,h=>by
  have hlt:k<R.toList.length:=by simp;omega
  rw[List.drop_eq_getElem_cons hlt] at h
  have hRk:R[k]? =some R.toList[k]:=by
   rw[Array.getElem?_eq_getElem (by omega)];simp
  obtain⟨v,s',ht,hf,hd⟩:=aeu _ _ s h;obtain⟨st,vs,h1,h2,h3⟩:=Fw hnil aeu n (k+1) (by omega) s' hd;refine⟨fun i=>if i=k then s else st i,fun i=>if i=k then v else vs i,by simp,?_,fun i hi1 hi2=> ?_⟩
  ·have:R.size≠k:=by omega
   simp only[if_neg this];exact h2
  ·by_cases e:i=k
   ·subst e;refine⟨_,hRk,?_⟩;simp only[if_true]
    have:i+1≠i:=by omega
    simp only[if_neg this,h1];exact⟨ht,hf⟩
   ·obtain⟨o,ho,ht'⟩:=h3 i (by omega) hi2;refine⟨o,ho,?_⟩
    have:i+1≠k:=by omega
    simp only[if_neg e,if_neg this];exact ht'
theorem DF{K:St->Prop}(n k:Nat)(hk:k+n=R.size)(s:St)(h:qV P E R (R.toList.drop k) s K):
 ∃(st:Nat->St) (vs:Nat->V),st k=s/\K (st R.size)/\∀i,k<=i->i<R.size->∃o,R[i]? =some o/\lg P E R o (st i) (vs i) (st (i+1)):=by
 obtain⟨st,vs,h1,h2,h3⟩:=Fw (F:=fun _ _ _=>True) (D:=fun os s=>qV P E R os s K) (fun _ h=>h) (fun o os s h=>by
  obtain⟨v,s',a,b⟩:=H6 h
  exact⟨v,s',a,trivial,b⟩) n k hk s h
 exact⟨st,vs,h1,h2,fun i a b=>by
  obtain⟨o,c,d,_⟩:=h3 i a b
  exact⟨o,c,d⟩⟩
theorem abk{o:Oper}{s s':St}{v:V}(h:lg P E R o s v s'):s'=St.put ⟨s.tm,s'.st⟩ o.dst v:=by
 rcases h with⟨_,_,h⟩|⟨_,_,_,h⟩|⟨_,_,_,h,_⟩
 ·rw[h];cases o.dst<;>rfl
 ·rw[h];cases o.dst<;>rfl
 ·exact h
theorem abl{o:Oper}{s s':St}{v:V}(h:lg P E R o s v s')(hD:fI E o.op=false):s'.st=s.st:=by
 rcases h with⟨_,_,h⟩|⟨_,_,_,h⟩|⟨_,h,_,_⟩
 ·rw[h];cases o.dst<;>rfl
 ·rw[h];cases o.dst<;>rfl
 ·rw[hD] at h;cases h
theorem yE{st:Nat->St}{vs:Nat->V}(h:∀i,i<R.size->∃o,R[i]? =some o/\lg P E R o (st i) (vs i) (st (i+1)))(t:Nat):∀i,i<=R.size->look (st i).tm t=kF R vs (fun _=>true) (st 0).tm i t
 |0,_=>rfl
 |i+1,hi=>by
  obtain⟨o,ho,ht⟩:=h i (by omega);have e:=abk ht;have ih:=yE h t i (by omega);rw[kF,<-ih]
  have hdst:fZ R i=o.dst:=by simp[fZ,ho]
  rw[hdst,e]
  cases hd:o.dst with
  |none=>simp[St.put]
  |some d=>
   simp only[St.put,look,true_and,Option.some.injEq]
theorem DS.refl(S:Store):DS S S:=fun _ _ h=>.inl h
theorem DS.trans{S1 S2 S3:Store}(h:DS S1 S2)(k:DS S2 S3):DS S1 S3:=by
 intro x o hx;rcases h x o hx with h1|⟨h1,o',z,es,h2,h2'⟩
 ·exact k x o h1
 ·rcases k x _ h2 with h3|⟨_,h3⟩
  ·exact .inr ⟨h1,o',z,es,h3,h2'⟩
  ·exact .inr ⟨h1,h3⟩
theorem DS.push{own:List Obj}{Ω:Store}{o:Obj}:DS (own::Ω) ((own++[o])::Ω):=fun k o' h=>.inl (jo _ _ _ _ _ h)
theorem qI{dst:Option Nat}{o:Obj}{mk:Key->V}{s':St}(h:newObj s dst o mk (fun t=>t=s')):DS s.st s'.st:=by
 unfold newObj at h;split at h
 ·rename_i own Ω hst;rw[<-h,kM,hst];exact DS.push
 ·exact h.elim
theorem ae3{b:Bool}{es x:List (List D)}{z:Nat}{dst:Option Nat}{s':St}(h:yZ b es s dst z x (fun t=>t=s')):DS s.st s'.st:=by
 cases b with
 |false=>exact qI (o:=.tok z x) (mk:=fun k=>.c (.bX k x)) h
 |true=>exact qI (o:=.eO z x) (mk:=fun k=>.c (.iH k)) h.2
theorem ae4{l:Option Nat}{es x:List (List D)}{z:Nat}{dst:Option Nat}{s':St}(h:Ae l es s dst z x (fun t=>t=s')):DS s.st s'.st:=by
 cases l with
 |none=>exact ae3 h
 |some n=>
  cases es with
  |nil=>
   have h:St.put ⟨s.tm,s.st⟩ dst (.c (.d (.ol n x)))=s':=h;rw[<-h,kM];exact DS.refl _
  |cons y es=>exact qI (o:=.tok z x) (mk:=fun k=>.c (.bX k x)) h
theorem ae5{b:Bool}{n:Nat}{x:List (List D)}{z:Nat}{dst:Option Nat}{s':St}(h:BZ b n s dst z x (fun t=>t=s')):DS s.st s'.st:=by
 cases b with
 |false=>exact qI (o:=.jg n z x) (mk:=fun k=>.c (.bX k x)) h
 |true=>
  have h:St.put ⟨s.tm,s.st⟩ dst (.c (.d (.ol n x)))=s':=h;rw[<-h,kM];exact DS.refl _
theorem abm{o:Oper}{s s':St}(hD:qm o.op=true)(hs:xw o.op=false)(h:dx P o s (fun t=>t=s')):DS s.st s'.st:=by
 obtain⟨dst,op,ty,pos,after,guard⟩:=o
 cases op with
 |alloc t=>
  simp only[dx,sQ] at h;split at h
  ·exact qI h
  ·exact h.elim
 |box t x=>
  simp only[dx,Ad] at h;split at h
  ·exact qI h
  ·exact h.elim
 |makeSlice t l c=>
  simp only[dx,vX] at h;split at h
  ·split at h
   ·exact qI h.2.2.2.2.2
   ·exact h.elim
  ·exact h.elim
 |store t x y=>simp[xw] at hs
 |mapUpdate t x y z=>simp[xw] at hs
 |makeMap t r=>
  cases r with
  |none=>
   simp only[dx,sj] at h;exact qI h
  |some r=>simp[qm] at hD
 |call c=>
  obtain⟨yB,args,wh⟩:=c
  cases yB with
  |builtin b=>
   cases b with
   |append=>
    simp only[dx,mD] at h;split at h
    ·simp only[ql] at h;split at h
     ·obtain⟨h1,h2,h3,h4⟩:=h;split at h4
      ·rename_i k es hex;split at h4
       ·rename_i z es' hk;obtain⟨k1,k2,k3,k4⟩:=h4;rw[<-k4,kM];intro k' o' ho';by_cases e:k'=k
        ·subst e;rw[hk] at ho';cases ho';exact .inr ⟨⟨_,_,.inl rfl⟩,_,_,_,dn _ _ _ _ hk,.inl rfl⟩
        ·exact .inl ((eY _ _ _ _ (Ne.symm e)).trans ho')
       ·rename_i n z es' hk;obtain⟨k1,k2,k3,k4⟩:=h4;rw[<-k4,kM];intro k' o' ho';by_cases e:k'=k
        ·subst e;rw[hk] at ho';cases ho';exact .inr ⟨⟨_,_,.inr ⟨_,rfl⟩⟩,_,_,_,dn _ _ _ _ hk,.inr ⟨_,rfl⟩⟩
        ·exact .inl ((eY _ _ _ _ (Ne.symm e)).trans ho')
       ·exact h4.elim
      ·exact ae4 h4.2.2
      ·exact ae5 h4.2.2
      ·exact h4.elim
     ·exact h.elim
    ·exact h.elim
   |_=>simp[qm] at hD
  |_=>simp[qm] at hD
 |_=>simp[qm] at hD
theorem abn{o:Oper}{s s':St}{v:V}(h:lg P E R o s v s')(hs:jU E o.op=false):DS s.st s'.st:=by
 rcases h with⟨_,_,h⟩|⟨_,_,_,h⟩|⟨_,hD,h,_,hc⟩
 ·rw[h];cases o.dst<;>exact DS.refl _
 ·rw[h];cases o.dst<;>exact DS.refl _
 ·cases hd:qm o.op with
  |true=>exact abm hd (by unfold jU at hs;rw[Bool.or_eq_false_iff] at hs;exact hs.1) h
  |false=>exact hc hd hs
theorem CO{st:Nat->St}{vs:Nat->V}(h:∀i,i<R.size->∃o,R[i]? =some o/\lg P E R o (st i) (vs i) (st (i+1))){i:Nat}:∀(m:Nat),i+m<=R.size->(∀j o,i<=j->j<i+m->R[j]? =some o->fI E o.op=false)->(st (i+m)).st=(st i).st
 |0,_,_=>rfl
 |m+1,hm,hj=>by
  obtain⟨o,ho,ht⟩:=h (i+m) (by omega);rw[show i+(m+1)=i+m+1 from rfl,abl ht (hj _ o (by omega) (by omega) ho)];exact CO h m (by omega) (fun j o h1 h2 h3=>hj j o h1 (by omega) h3)
def KS(k:Key)(S S':Store):Prop:=∀o,bg S k=some o->bg S' k=some o\/((∃z es,qP o z es)/\∃o' z es,bg S' k=some o'/\qP o' z es)
theorem KS.trans{k:Key}{S1 S2 S3:Store}(h:KS k S1 S2)(h':KS k S2 S3):KS k S1 S3:=by
 intro o hx;rcases h o hx with h1|⟨h1,o',z,es,h2,h2'⟩
 ·exact h' o h1
 ·rcases h' _ h2 with h3|⟨_,h3⟩
  ·exact .inr ⟨h1,o',z,es,h3,h2'⟩
  ·exact .inr ⟨h1,h3⟩
theorem Vi{st:Nat->St}{vs:Nat->V}(h:∀i,i<R.size->∃o,R[i]? =some o/\lg P E R o (st i) (vs i) (st (i+1))){i:Nat}{k:Key}:∀(m:Nat),i+m<=R.size->
 (∀j o,i<=j->j<i+m->R[j]? =some o->jU E o.op=false\/bg (st (j+1)).st k=bg (st j).st k)->KS k (st i).st (st (i+m)).st
 |0,_,_=>fun _ hx=>.inl hx
 |m+1,hm,hj=>by
  obtain⟨o,ho,ht⟩:=h (i+m) (by omega);refine(Vi h m (by omega) (fun j o h1 h2 h3=>hj j o h1 (by omega) h3)).trans ?_;rcases hj _ o (by omega) (by omega) ho with hs|hs
  ·exact abn ht hs k
  ·intro x hx;exact .inl (hs.trans hx)
theorem cnt_lt(p q:Nat->Bool):∀(l:List Nat)(i:Nat),(∀x,q x=true->p x=true)->i∈l->p i=true->q i=false->l.countP q<l.countP p
 |[],_,_,h,_,_=>by simp at h
 |x::l,i,h,hi,hp,hq=>by
  rw[List.countP_cons,List.countP_cons];have hle:l.countP q<=l.countP p:=List.countP_mono_left (fun y _ hy=>h y hy);rcases List.mem_cons.1 hi with rfl|hi
  ·rw[hp,hq];simp;omega
  ·have ih:=cnt_lt p q l i h hi hp hq;by_cases hx:q x=true
   ·rw[hx,h x hx];simp;exact ih
   ·have:q x=false:=by simpa using hx
    rw[this];simp
    split<;>omega
end
section
variable {P:Program} {E:Md} {N:Nat} {R:Array Oper}
def mG(E:Md)(R:Array Oper)(p:Nat)(listed:Array Bool):Prop:=listed.getD p false=true/\p<R.size/\∃j x,j<p/\R[j]? =some x/\fI E x.op=true/\listed.getD j false=false
def Raw(P:Program)(R:Array Oper)(p:Nat)(w0 w:World)(σ:Nat->Nat)(S:Store)(β:Hs)(v:Value):Prop:=
 ∃b c ty,v=.pointer (some ⟨b,0,none⟩)/\w.heap[b]? =some (.cells c ty (0,0))/\σ b=0/\w0.heap.size<=b/\¬Own S β b/\
  ∀o t zs,R[p]? =some o->o.op=.alloc t->iK P t=some zs->∀w σ S β,fD w σ S β zs c.toList
open Classical in
noncomputable def sK(E:Md)(R:Array Oper)(p:Nat)(vs:Nat->V)(listed:Array Bool)(base:List (Nat×V))(t:Nat):V:=
 if mG E R p listed/\fZ R p=some t then .any else kF R vs (fun i=>listed.getD i false) base R.size t
structure Mid(P:Program)(N:Nat)(E:Md)(R:Array Oper)(p:Nat)(st:Nat->St)(vs:Nat->V)(β0:Hs)(σ0:Nat->Nat)(w0:World)(listed:Array Bool)(a:Act)(w:World):Prop where
 size:listed.size=R.size
 closed:∀i o e,R[i]? =some o->listed.getD i false=true->e∈o.after->Region.binds .any e=true->listed.getD e.on false=true
 rep:∃m,m<=R.size/\(∀i o,R[i]? =some o->fI E o.op=true->(i=p->¬mG E R p listed)->(listed.getD i false=true<->i<m))/\∃σ β,a.tmps.size=N/\a.defers=[]/\eF w σ (st m).st β/\
  (∀t,dP w σ (st m).st β (sK E R p vs listed (st 0).tm t) (a.tmps.getD t undef))/\Step (st 0).st β0 σ0 w0 (st m).st β σ w/\Keep (st 0).st β0 (st m).st β/\
  (mG E R p listed->m<=p/\∀d,fZ R p=some d->Raw P R p w0 w σ (st m).st β (a.tmps.getD d undef))
theorem Od{o:Oper}{x:Operand}{t:Nat}(hx:x∈o.op.operands)(e:x=.tmp t):t∈o.looksAt R:=by
 subst e;exact List.mem_append_left _ (List.mem_filterMap.2 ⟨.tmp t,by simpa using hx,rfl⟩)
theorem RZ{o:Oper}{g d:Nat}{want:Bool}(hg:o.guard=some (g,want))(hd:fZ R g=some d):d∈o.looksAt R:=by
 refine List.mem_append_right _ ?_;rw[hg];show d∈((R[g]?).bind (·.dst)).toList;unfold fZ at hd
 rw[hd];simp
theorem Ah(h:yC E R N=true){i j:Nat}{x y:Oper}(hij:i<j)(hx:R[i]? =some x)(hy:R[j]? =some y)(hc:clash E R x y=true):((masks R.toList []).getD j 0).testBit i=true:=by
 have hj:j<R.size:=(Array.getElem?_eq_some_iff.1 hy).1;have h1:=List.all_eq_true.1 h j (List.mem_range.2 hj);rw[Bool.and_eq_true] at h1;have h2:=List.all_eq_true.1 h1.2 i (List.mem_range.2 hij);rw[hx,hy] at h2;simp only[hc,Bool.not_true,Bool.or_false] at h2;exact h2
theorem PW(h:yC E R N=true){i:Nat}{o:Oper}{e:Edge}(ho:R[i]? =some o)(he:e∈o.after)(hb:Region.binds .any e=true):e.on<i:=by
 have hj:i<R.size:=(Array.getElem?_eq_some_iff.1 ho).1;have h1:=List.all_eq_true.1 h i (List.mem_range.2 hj);rw[Bool.and_eq_true,ho] at h1;have h2:=h1.1;simp only[Bool.and_eq_true] at h2;have h3:=List.all_eq_true.1 h2.1 e (by simpa using he);simpa [hb] using h3
theorem R3(h:yC E R N=true){i:Nat}{o:Oper}(ho:R[i]? =some o):∀d,o.dst=some d->d<N:=by
 intro d hd;have hj:i<R.size:=(Array.getElem?_eq_some_iff.1 ho).1;have h1:=List.all_eq_true.1 h i (List.mem_range.2 hj);rw[Bool.and_eq_true,ho] at h1;have h2:=h1.1;simp only[Bool.and_eq_true,hd] at h2;simpa using h2.2
theorem Vj{x y:Oper}:x.apart R y=y.apart R x:=by
 rw[Bool.eq_iff_iff]
 have key:∀x y:Oper,x.apart R y=true->y.apart R x=true:=fun x y h=>by
  obtain⟨h1,h2,h3⟩:=Oper.apart_spec h;unfold Oper.apart
  cases hx:x.dst<;>cases hy:y.dst<;>simp
  ·rename_i d;exact h3 d hy
  ·rename_i d;exact h1 d hx
  ·rename_i d d';exact⟨⟨h3 d' hy,fun e=>h2 d hx (by rw[hy,e])⟩,h1 d hx⟩
 exact⟨key x y,key y x⟩
theorem R4{x y:Oper}:lQ E R x y=lQ E R y x:=by
 unfold lQ;rw[Vj,Bool.and_comm (fI E x.op)]
def Vk:Op->Bool
 | .move _=>true
 |_=>false
theorem abo{P:Program}{l:Option Nat}{S S':Store}{tm:List (Nat×V)}{op:Op}(h:Vk op=true):mq P l S' tm op=mq P l S tm op:=by
 cases op<;>first|rfl|cases h
def refs(tm:List (Nat×V))(o:Oper)(k:Key):Prop:=Vk o.op=false/\∃x∈o.op.operands,GI (ev tm x) k
structure JZ(E:Md)(R:Array Oper)(N:Nat)(st:Nat->St)(p:Nat):Prop where
 edge:∀(i:Nat)(o:Oper)(e:Edge),R[i]? =some o->e∈o.after->Region.binds .any e=true->e.on<i
 dst:∀(i:Nat)(o:Oper),R[i]? =some o->∀d,o.dst=some d->d<N
 pair:∀(i j:Nat)(x y:Oper),i<j->R[i]? =some x->R[j]? =some y->lQ E R x y=true->((masks R.toList []).getD j 0).testBit i=true\/(j=p/\fI E x.op=true/\x.apart R y=true)
 store:∀(i j:Nat)(x o:Oper),i≠j->R[i]? =some x->R[j]? =some o->jU E x.op=true->fI E o.op=false->jk o.op=false->
  qW R i j=true\/∀k,refs (st j).tm o k->bg (st (i+1)).st k=bg (st i).st k
 pend:∀o,R[p]? =some o->xA o.op=true/\o.guard=none/\(∃d,o.dst=some d)/\∀j y,j≠p->R[j]? =some y->y.apart R o=false->∀i x,i<p->R[i]? =some x->fI E x.op=true->i<j/\((masks R.toList []).getD j 0).testBit i=true
theorem agU{st:Nat->St}(h:yC E R N=true):JZ E R N st R.size where
 edge:=fun i o e h1 h2 h3=>PW h h1 h2 h3
 dst:=fun i o h1=>R3 h h1
 pair:=fun i j x y hij hx hy hc=>.inl (Ah h hij hx hy (by
  unfold lQ at hc;unfold clash
  rw[hc];rfl))
 store:=fun i j x o hij hx ho hs hD hc=>.inl (by
  unfold qW;by_cases e:i<j
  ·rw[if_pos e];exact Ah h e hx ho (by unfold clash;rw[hs];simp)
  ·rw[if_neg e]
   exact Ah h (show j<i by omega) ho hx (by unfold clash;rw[hs];simp))
 pend:=fun o ho=>by rw[Array.getElem?_eq_none (Nat.le_refl _)] at ho;cases ho
theorem LM{p:Nat}(h:Fq E R p=true):∀o,R[p]? =some o->xA o.op=true/\o.guard=none/\(∃d,o.dst=some d)/\∀j y,j≠p->R[j]? =some y->y.apart R o=false->∀i x,i<p->R[i]? =some x->fI E x.op=true->i<j/\((masks R.toList []).getD j 0).testBit i=true:=by
 intro o ho;unfold Fq at h;rw[ho] at h;simp only[Bool.and_eq_true] at h;obtain⟨⟨⟨h1,h2⟩,h3⟩,h4⟩:=h;refine⟨h1,by simpa using h2,Option.isSome_iff_exists.1 h3,fun j y hj hy hap i x hi hx hD=> ?_⟩;have hjl:j<R.size:=(Array.getElem?_eq_some_iff.1 hy).1;have h5:=List.all_eq_true.1 h4 j (List.mem_range.2 hjl);rw[hy] at h5;simp only[hap,hj,decide_false,Bool.false_or] at h5;have h6:=List.all_eq_true.1 h5 i (List.mem_range.2 hi);rw[hx] at h6;simpa [hD] using h6
theorem sW{o:Oper}(h:xA o.op=true):fI E o.op=true/\jU E o.op=false/\jk o.op=false:=by
 obtain⟨dst,op,ty,pos,after,guard⟩:=o;cases op<;>simp_all[xA,fI,qm,jU,xw,jk]
theorem ae6{st:Nat->St}{p:Nat}(h0:CK E R N p=true):JZ E R N st p:=by
 unfold CK at h0;rw[Bool.and_eq_true] at h0;obtain⟨hp,h⟩:=h0;have wV:=LM hp
 have hpr:∀(i j:Nat)(x y:Oper),i<j->R[i]? =some x->R[j]? =some y->((masks R.toList []).getD j 0).testBit i=true\/(x.apart R y=true/\(j=p\/((fI E x.op&&fI E y.op)=false/\jU E x.op=false/\jU E y.op=false))):=by
  intro i j x y hij hx hy;have hj:j<R.size:=(Array.getElem?_eq_some_iff.1 hy).1;have h1:=List.all_eq_true.1 h j (List.mem_range.2 hj);rw[Bool.and_eq_true] at h1;have h2:=List.all_eq_true.1 h1.2 i (List.mem_range.2 hij);rw[hx,hy] at h2;simp only[Yl] at h2;rw[Bool.or_eq_true] at h2;rcases h2 with h2|h2
  ·exact .inl h2
  ·right;rw[Bool.not_eq_true',Bool.or_eq_false_iff,Bool.not_eq_false'] at h2;refine⟨h2.1,?_⟩;by_cases e:j=p
   ·exact .inl e
   ·right;have h3:=h2.2;simp only[e,decide_false,Bool.not_false,Bool.true_and,Bool.or_eq_false_iff] at h3;exact⟨h3.1.1,h3.1.2,h3.2⟩
 refine⟨?_,?_,?_,?_,wV⟩
 ·intro i o e ho he hb;have hj:i<R.size:=(Array.getElem?_eq_some_iff.1 ho).1;have h1:=List.all_eq_true.1 h i (List.mem_range.2 hj);rw[Bool.and_eq_true,ho] at h1;have h2:=h1.1;simp only[Bool.and_eq_true] at h2;have h3:=List.all_eq_true.1 h2.1 e (by simpa using he);simpa [hb] using h3
 ·intro i o ho d hd;have hj:i<R.size:=(Array.getElem?_eq_some_iff.1 ho).1;have h1:=List.all_eq_true.1 h i (List.mem_range.2 hj);rw[Bool.and_eq_true,ho] at h1;have h2:=h1.1;simp only[Bool.and_eq_true,hd] at h2;simpa using h2.2
 ·intro i j x y hij hx hy hc;rcases hpr i j x y hij hx hy with h1|⟨h1,h2⟩
  ·exact .inl h1
  ·rcases h2 with h2|⟨h2,_,_⟩
   ·right;unfold lQ at hc;rw[h1] at hc;simp only[Bool.not_true,Bool.false_or,Bool.and_eq_true] at hc;exact⟨h2,hc.1,h1⟩
   ·unfold lQ at hc;rw[h1,h2] at hc;cases hc
 ·intro i j x o hij hx ho hs hD hc
  have hjp:j≠p:=fun e=>by
   subst e;have:=(sW (E:=E) (wV o ho).1).1;rw[hD] at this;cases this
  have M6:i≠p:=fun e=>by
   subst e;have:=(sW (E:=E) (wV x hx).1).2.1;rw[hs] at this;cases this
  left;unfold qW;by_cases e:i<j
  ·rw[if_pos e];rcases hpr i j x o e hx ho with h1|⟨_,h2⟩
   ·exact h1
   ·rcases h2 with h2|⟨_,h2,_⟩
    ·exact absurd h2 hjp
    ·rw[hs] at h2;cases h2
  ·rw[if_neg e];rcases hpr j i o x (by omega) ho hx with h1|⟨_,h2⟩
   ·exact h1
   ·rcases h2 with h2|⟨_,_,h2⟩
    ·exact absurd h2 M6
    ·rw[hs] at h2;cases h2
theorem Oper.Ym{o:Oper}{a:Act}{w:World}{K:Act->World->Prop}{Q:Exit->Act->World->Prop}(hh:o.wp P a w K Q):o.wp P a w (fun a' w'=>K a' w'/\∀d,o.dst≠some d->a'.tmps.getD d undef=a.tmps.getD d undef) Q:=by
 have key:∀(ds:List Deferred)(v:Value)(d:Nat),o.dst≠some d->(({a with defers:=ds}:Act).put o.dst v).tmps.getD d undef=a.tmps.getD d undef:=by
  intro ds v d hd
  cases ho:o.dst with
  |none=>rfl
  |some e=>
   have hne:e≠d:=fun x=>hd (by rw[ho,x]);simp only[Act.put,Array.getD_eq_getD_getElem?];rw[Array.getElem?_setIfInBounds_ne hne]
 unfold Oper.wp at *
 generalize (execOp a.eval o).run P w=r at *
 cases r with
 |ok n w'=>
  cases n<;>simp only[Oper.upon] at hh ⊢ <;>
   first
    |exact⟨hh,fun d hd=>key _ _ d hd⟩
    |exact Calls.mono hh (fun e w'' he=>by cases e<;>first|exact⟨he,fun d hd=>key _ _ d hd⟩|exact he)
    |exact Rows.mono hh (fun _ _ he=>⟨he,fun d hd=>key _ _ d hd⟩)
 |halt x w'=>cases x<;>simp only[Oper.upon] at hh ⊢ <;>exact hh
theorem Fx{a:Act}{dst:Option Nat}{v:Value}{d:Nat}(h:dst≠some d):(a.put dst v).tmps.getD d undef=a.tmps.getD d undef:=by
 cases dst with
 |none=>rfl
 |some e=>
  have hne:e≠d:=fun x=>h (by rw[x]);simp only[Act.put,Array.getD_eq_getD_getElem?];rw[Array.getElem?_setIfInBounds_ne hne]
theorem abp{t:TypeId}{zs:List C}(h:iK P t=some zs):∃z:Value,(∀w,(zeroValue t).run P w=.ok z w)/\∀w σ S β,fD w σ S β zs z.cells.toList:=by
 unfold iK at h
 cases hi:P.info? t with
 |none=>rw[hi] at h;cases h
 |some i=>
  rw[hi] at h
  cases hz:i.zero with
  |none=>simp[hz] at h
  |some z=>
   simp only[Option.bind_some,hz] at h;split at h
   ·rename_i hall;cases h;refine⟨z,fun w=>by simp[zeroValue,typeInfo,hi,hz],fun w σ S β=>⟨by simp,fun j x hx=> ?_⟩⟩;rw[List.getElem?_map] at hx
    cases hv:z.cells.toList[j]? with
    |none=>rw[hv] at hx;cases hx
    |some v=>
     rw[hv] at hx;cases hx;exact⟨v,rfl,zo _ _ _ _ _,List.all_eq_true.1 hall v (List.mem_of_getElem? hv)⟩
   ·cases h
theorem abq{w w0:World}{σ σ0:Nat->Nat}{S0:Store}{β0:Hs}{own:List Obj}{Ω:Store}{β:Hs}{zs:List C}{b:Nat}{c:Array Value}{ty:TypeId}(hS:eF w σ (own::Ω) β)(hst:Step S0 β0 σ0 w0 (own::Ω) β σ w)(hb:w.heap[b]? =some (.cells c ty (0,0)))(hσ:σ b=0)
 (h0:w0.heap.size<=b)(hno:¬Own (own::Ω) β b)(hz:∀w σ S β,fD w σ S β zs c.toList):
 ∃bo bΩ,β=bo::bΩ/\bo.length=own.length/\eF w σ ((own++[.box zs])::Ω) ((bo++[Value.pointer (some ⟨b,0,none⟩)])::bΩ)/\Keep (own::Ω) β ((own++[.box zs])::Ω) ((bo++[Value.pointer (some ⟨b,0,none⟩)])::bΩ)/\
  Step S0 β0 σ0 w0 ((own++[.box zs])::Ω) ((bo++[Value.pointer (some ⟨b,0,none⟩)])::bΩ) σ w:=by
 cases β with
 |nil=>have:=hS.shape.1;simp at this
 |cons bo bΩ=>
 have hlen:bo.length=own.length:=by
  obtain⟨gr,g1,g2⟩:=hS.shape.2 0 own rfl;simp at g1;rw[g1];exact g2
 refine⟨bo,bΩ,rfl,hlen,?_⟩
 have hkeep:Keep (own::Ω) (bo::bΩ) ((own++[.box zs])::Ω) ((bo++[Value.pointer (some ⟨b,0,none⟩)])::bΩ):=by
  intro k o1 h1;obtain⟨h2,wU,_⟩:=hS.obj k o1 h1;exact⟨o1,jo _ _ _ _ _ h1,by rw[jo _ _ _ _ _ wU,wU];exact .refl _ _⟩
 have hinv:∀k o1 h1,bg ((own++[Obj.box zs])::Ω) k=some o1->bg ((bo++[Value.pointer (some ⟨b,0,none⟩)])::bΩ) k=some h1->
  (bg (own::Ω) k=some o1/\bg (bo::bΩ) k=some h1)\/(k=(0,own.length)/\o1=.box zs/\h1=Value.pointer (some ⟨b,0,none⟩)):=by
  intro k o1 h1 e1 e2;rcases kD _ _ _ _ _ e1 with e1|⟨rfl,rfl⟩
  ·left;refine⟨e1,?_⟩;rcases kD _ _ _ _ _ e2 with e2|⟨rfl,rfl⟩
   ·exact e2
   ·rw[bD,hlen] at e1;have:=(List.getElem?_eq_some_iff.1 e1).1;omega
  ·right;rw[<-hlen,dH] at e2;exact⟨rfl,rfl,(Option.some.inj e2).symm⟩
 have hown:∀x,Own ((own++[Obj.box zs])::Ω) ((bo++[Value.pointer (some ⟨b,0,none⟩)])::bΩ) x->Own (own::Ω) (bo::bΩ) x\/x=b:=by
  rintro x ⟨k,o,h,e1,e2,e3⟩;rcases hinv k o h e1 e2 with⟨f1,f2⟩|⟨rfl,rfl,rfl⟩
  ·exact .inl ⟨k,o,h,f1,f2,e3⟩
  ·right;cases e3;rfl
 have hmono:∀k o h,bg (own::Ω) k=some o->bg (bo::bΩ) k=some h->gJ w σ ((own::Ω).drop k.1) ((bo::bΩ).drop k.1) o h->gJ w σ (((own++[Obj.box zs])::Ω).drop k.1) (((bo++[Value.pointer (some ⟨b,0,none⟩)])::bΩ).drop k.1) o h:=
  fun k o h _ _ hr=>hr.mono (eD.refl _ _) (hkeep.drop _) fun x _=>⟨rfl,rfl⟩
 refine⟨⟨?_,?_,⟨?_,?_⟩,hS.live,hS.vQ⟩,hkeep,⟨hst.size,hst.os,hst.output,fun x hx hn=>hst.far x hx hn,hst.near,fun x hx=> ?_⟩⟩
 ·intro k o1 h1;rcases kD _ _ _ _ _ h1 with h1|⟨rfl,rfl⟩
  ·obtain⟨h2,wU,hr⟩:=hS.obj k o1 h1;exact⟨h2,jo _ _ _ _ _ wU,hmono k o1 h2 h1 wU hr⟩
  ·exact⟨Value.pointer (some ⟨b,0,none⟩),by rw[<-hlen,dH],b,c,ty,rfl,hb,hσ,hz _ _ _ _⟩
 ·intro k k' o1 o2 h1 h2 x e1 e2 e3 e4 e5 e6;rcases hinv k o1 h1 e1 e2 with⟨f1,f2⟩|⟨rfl,rfl,rfl⟩
  ·rcases hinv k' o2 h2 e4 e5 with⟨g1,g2⟩|⟨rfl,rfl,rfl⟩
   ·exact hS.apart _ _ _ _ _ _ _ f1 f2 e3 g1 g2 e6
   ·cases e6;exact absurd ⟨k,o1,h1,f1,f2,e3⟩ hno
  ·rcases hinv k' o2 h2 e4 e5 with⟨g1,g2⟩|⟨rfl,rfl,rfl⟩
   ·cases e3;exact absurd ⟨k',o2,h2,g1,g2,e6⟩ hno
   ·rfl
 ·have:=hS.shape.1;simpa using this
 ·intro l fr hl
  cases l with
  |zero=>simp at hl;subst hl;exact⟨_,rfl,by simp[hlen]⟩
  |succ l=>exact hS.shape.2 (l+1) fr (by simpa using hl)
 ·rcases hown x hx with h|h
  ·exact hst.own x h
  ·subst h;exact .inr h0
theorem J2{st:Nat->St}{vs:Nat->V}{p:Nat}{o:Oper}{d:Nat}{t:TypeId}(ht:lg P E R o (st p) (vs p) (st (p+1)))(hop:o.op=.alloc t)(hg:o.guard=none)(hd:o.dst=some d):
 ∃zs own Ω,iK P t=some zs/\(st p).st=own::Ω/\(st (p+1)).st=(own++[.box zs])::Ω/\vs p=.c (.ptr (0,own.length) 0):=by
 have hgd:gd R o (st p).tm=some true:=by unfold gd;rw[hg]
 rcases ht with⟨h1,_,_⟩|⟨_,hD,_,_⟩|⟨_,hD,hx,hs',_⟩
 ·rw[hgd] at h1;cases h1
 ·rw[(sW (E:=E) (o:=o) (by rw[hop];rfl)).1] at hD;cases hD
 ·obtain⟨dst,op,ty,pos,after,guard⟩:=o;simp only at hop hd;subst hop;subst hd;unfold dx sQ at hx;simp only at hx
  cases hz:iK P t with
  |none=>rw[hz] at hx;exact hx.elim
  |some zs=>
   rw[hz] at hx
   generalize st (p+1)=s1 at *
   generalize st p=s0 at *
   obtain⟨tm,S⟩:=s0;simp only[newObj] at hx
   cases S with
   |nil=>exact hx.elim
   |cons own Ω=>
    subst hx;refine⟨zs,own,Ω,rfl,rfl,rfl,?_⟩;simp only[St.put,St.mk.injEq,List.cons.injEq,Prod.mk.injEq,and_true,true_and] at hs';exact hs'.symm
theorem mid_step{st:Nat->St}{vs:Nat->V}{β0:Hs}{σ0:Nat->Nat}{w0:World}{Q:Exit->Act->World->Prop}{p:Nat}(hok:JZ E R N st p)
 (hT:∀i,i<R.size->∃o,R[i]? =some o/\lg P E R o (st i) (vs i) (st (i+1))){listed:Array Bool}{a:Act}{w:World}(hM:Mid P N E R p st vs β0 σ0 w0 listed a w){i:Nat}(hi:i∈Region.ready .any R listed):
 wpOp P R Q i (fun a' w'=>Mid P N E R p st vs β0 σ0 w0 (listed.setIfInBounds i true) a' w') a w:=by
 obtain⟨hun,o,ho,Yn⟩:=mem_ready.1 hi;have hlt:i<R.size:=(Array.getElem?_eq_some_iff.1 ho).1;obtain⟨o',ho',ht⟩:=hT i hlt;rw[ho] at ho';cases ho'
 have LP:listed.getD i false=false:=by
  have hs:i<listed.size:=by rw[hM.size];exact hlt
  simp[hs] at hun ⊢;exact hun
 obtain⟨m,hm,hmD,σ,β,hsz,hdf,hS,hrT,hst,hkp,wV⟩:=hM.rep;have hdn:=hok.dst i o ho
 have hset:(listed.setIfInBounds i true).getD i false=true:=by
  have hs:i<listed.size:=by rw[hM.size];exact hlt
  simp[hs]
 have Vl:∀j,(listed.setIfInBounds i true).getD j false=true->j=i\/listed.getD j false=true:=by
  intro j hj;by_cases e:j=i
  ·exact .inl e
  ·rw[getD_set_ne false (Ne.symm e)] at hj;exact .inr hj
 have aiV:∀j,(listed.setIfInBounds i true).getD j false=false->j≠i/\listed.getD j false=false:=by
  intro j hj;by_cases e:j=i
  ·subst e;rw[hset] at hj;cases hj
  ·rw[getD_set_ne false (Ne.symm e)] at hj;exact⟨e,hj⟩
 have Vm:∀j x k,R[j]? =some x->listed.getD j false=true->((masks R.toList []).getD j 0).testBit k=true->listed.getD k false=true:=fun j x k hx hE hb=>
  M5 (fun k=>listed.getD k false=true) hM.closed hok.edge j x hx (fun e he hb=>hM.closed j x e hx hE he hb) k hb
 have Fy:∀k,((masks R.toList []).getD i 0).testBit k=true->listed.getD k false=true:=fun k hb=>
  M5 (fun k=>listed.getD k false=true) hM.closed hok.edge i o ho (fun e he hb=>Yn e he hb) k hb
 have agW:mG E R p listed->i≠p:=fun h e=>by have h1:=h.1;rw[<-e,LP] at h1;cases h1
 have DI:∀j x e,R[j]? =some x->(listed.setIfInBounds i true).getD j false=true->e∈x.after->Region.binds .any e=true->(listed.setIfInBounds i true).getD e.on false=true:=by
  intro j x e hx hE he hb;by_cases hji:j=i
  ·subst hji;rw[ho] at hx;cases hx;exact getD_set_true (Yn e he hb)
  ·rw[getD_set_ne false (Ne.symm hji)] at hE;exact getD_set_true (hM.closed j x e hx hE he hb)
 by_cases hA2:i=p/\∃j x,j<p/\R[j]? =some x/\fI E x.op=true/\listed.getD j false=false
 ·
  obtain⟨rfl,j0,x0,hj0,hx0,hD0,hu0⟩:=hA2;obtain⟨hal,hgn,⟨d,hd⟩,_⟩:=hok.pend o ho
  obtain⟨ty,hop⟩:∃ty,o.op=.alloc ty:=by
   cases h:o.op<;>rw[h] at hal<;>first|exact⟨_,rfl⟩|cases hal
  obtain⟨zs,own,Ω,hzs,_,_,_⟩:=J2 ht hop hgn hd;obtain⟨z,uF,hzc⟩:=abp hzs
  have hnp:¬mG E R i listed:=fun h=>by have h1:=h.1;rw[LP] at h1;cases h1
  have hP':mG E R i (listed.setIfInBounds i true):=⟨hset,hlt,j0,x0,hj0,hx0,hD0,by rw[getD_set_ne false (by omega)];exact hu0⟩
  have hmp:m<=i:=by
   have h1:=hmD j0 x0 hx0 hD0 (fun _=>hnp);rcases Nat.lt_or_ge j0 m with h|h
   ·rw[h1.2 h] at hu0;cases hu0
   ·omega
  have hdi:fZ R i=some d:=by simp[fZ,ho,hd]
  have hg:=zu w σ hS.live z.cells ty 0;unfold wpOp;rw[ho]
  simp only
  rw[if_pos (by simp[Region.wanted,hgn])];left
  have hrun:(execOp a.eval o).run P w=.ok (.value (.pointer (some ⟨w.heap.size,0,none⟩))) {w with heap:=w.heap.push (.cells z.cells ty)}:=by
   have JQ:(newVar ty z).run P w=.ok ⟨w.heap.size,0,none⟩ {w with heap:=w.heap.push (.cells z.cells ty)}:=rfl;have uF:=uF w;clear hS hrT hst hkp wV hM hdn ht;obtain⟨dst,op,ty',pos,after,guard⟩:=o;simp only at hop;subst hop;simp[execOp,Instr.alloc,uF,JQ]
  unfold Oper.wp;rw[hrun];show Mid P N E R i st vs β0 σ0 w0 _ (a.put o.dst _) _;rw[hd]
  have hdN:d<a.tmps.size:=by rw[hsz];exact hdn d hd
  refine⟨by simpa using hM.size,DI,m,hm,fun j x hx qd hjp=> ?_,fun b=>if b=w.heap.size then 0 else σ b,β,by simp[Act.put,hsz],hdf,hS.grow hg,fun t=> ?_,hst.trans (Step.oI hg),hkp,fun _=>⟨hmp,fun d' hd'=> ?_⟩⟩
  ·have hji:j≠i:=fun e=>hjp e hP';rw[getD_set_ne false (Ne.symm hji)];exact hmD j x hx qd fun _=>hnp
  ·unfold sK;by_cases e:t=d
   ·subst e;rw[if_pos ⟨hP',hdi⟩];exact trivial
   ·rw[if_neg (fun h=>e (by rw[hdi] at h;exact(Option.some.inj h.2).symm))]
    rw[xX (E':=fun i=>listed.getD i false) R.size (fun j hj hdj=>by
     have hji:j≠i:=fun x=>by rw[x,hdi] at hdj;exact e (Option.some.inj hdj).symm
     exact getD_set_ne false (Ne.symm hji))]
    have h1:=hrT t;unfold sK at h1;rw[if_neg (fun h=>hnp h.1)] at h1;rw[Fx (by intro x;exact e (Option.some.inj x).symm)];exact h1.mono hg.near (Keep.refl _ _)
  ·rw[hdi] at hd';cases hd';refine⟨w.heap.size,z.cells,ty,by simp[Act.put,Array.getD,hdN],by simp,by simp,hst.size,fun h=> ?_,fun o2 t2 zs2 h1 h2 h3=> ?_⟩
   ·have:=hS.Ct h;omega
   ·rw[ho] at h1;cases h1;rw[hop] at h2;cases h2;rw[hzs] at h3;cases h3;exact hzc
 have hA:i=p->∀j x,j<p->R[j]? =some x->fI E x.op=true->listed.getD j false=true:=fun e j x hj hx hD=>by
  cases hl:listed.getD j false with
  |true=>rfl
  |false=>exact absurd ⟨e,j,x,hj,hx,hD,hl⟩ hA2
 have hPP:mG E R p (listed.setIfInBounds i true)->mG E R p listed:=by
  rintro⟨h1,h2,j,x,hj,hx,hD,hl⟩;obtain⟨hji,hl⟩:=aiV j hl;rcases Vl p h1 with e|h
  ·rw[hA e.symm j x hj hx hD] at hl;cases hl
  ·exact⟨h,h2,j,x,hj,hx,hD,hl⟩
 have hap:mG E R p listed->∀po d,R[p]? =some po->po.dst=some d->o.dst≠some d/\d∉o.looksAt R:=by
  rintro hP po d hpo wV;have Yo:=hP;obtain⟨_,_,j0,x0,hj0,hx0,hD0,hu0⟩:=Yo
  have:o.apart R po=true:=by
   cases hc:o.apart R po with
   |true=>rfl
   |false=>
    have:=(hok.pend po hpo).2.2.2 i o (agW hP) ho hc j0 x0 hj0 hx0 hD0;rw[Fy j0 this.2] at hu0;cases hu0
  obtain⟨q1,q2,q3⟩:=Oper.apart_spec this;exact⟨fun e=>q2 d e wV,q3 d wV⟩
 have M6:mG E R p listed->fI E o.op=true->i<p:=by
  rintro hP hD;have Yo:=hP;obtain⟨_,hpl,j0,x0,hj0,hx0,hD0,hu0⟩:=Yo;have hne:=agW hP;rcases Nat.lt_or_ge i p with h|h
  ·exact h
  ·exfalso;rcases hok.pair j0 i x0 o (by omega) hx0 ho (by simp[lQ,hD,hD0]) with hb|⟨e,_⟩
   ·rw[Fy j0 hb] at hu0;cases hu0
   ·exact hne e
 have hbit:∀j x,R[j]? =some x->j≠i->qW R j i=true->(listed.getD j false=true<->j<i):=by
  intro j x hx hne hc;unfold qW at hc;constructor
  ·intro hE;rcases Nat.lt_or_ge j i with h|h
   ·exact h
   ·exfalso;rw[if_neg (by omega)] at hc;have:=Vm j x i hx hE hc;rw[LP] at this;cases this
  ·intro hji;rw[if_pos hji] at hc;exact Fy j hc
 have hdone:∀j x,R[j]? =some x->j≠i->(j=p->¬mG E R p listed)->lQ E R x o=true->(listed.getD j false=true<->j<i):=by
  intro j x hx hne hjp hc;by_cases e:j<i
  ·rcases hok.pair j i x o e hx ho hc with hb|⟨e1,hD,_⟩
   ·exact hbit j x hx hne (by unfold qW;rw[if_pos e];exact hb)
   ·exact⟨fun _=>e,fun _=>hA e1 j x (by omega) hx hD⟩
  ·rcases hok.pair i j o x (by omega) ho hx (by rw[R4];exact hc) with hb|⟨e1,hD,_⟩
   ·exact hbit j x hx hne (by unfold qW;rw[if_neg e];exact hb)
   ·refine⟨fun h=>absurd ⟨e1▸h,?_,i,o,by omega,ho,hD,LP⟩ (hjp e1),fun h=>absurd h e⟩;rw[<-e1];exact(Array.getElem?_eq_some_iff.1 hx).1
 obtain⟨PX,PY⟩:∃PX:List (Nat×V),∀t,look PX t=kF R vs (fun i=>listed.getD i false) (st 0).tm R.size t:=by
  have:∀n,∃qp:List (Nat×V),∀t,look qp t=kF R vs (fun i=>listed.getD i false) (st 0).tm n t:=by
   intro n
   induction n with
   |zero=>exact⟨(st 0).tm,fun t=>rfl⟩
   |succ n ih=>
    obtain⟨tm,h⟩:=ih;by_cases hE:listed.getD n false=true
    ·cases hd:fZ R n with
     |none=>exact⟨tm,fun t=>by rw[kF,if_neg (fun x=>by rw[hd] at x;cases x.2)];exact h t⟩
     |some d=>
      refine⟨(n |> vs |> fun v=>(d,v))::tm,fun t=> ?_⟩;rw[kF,look,hd,h t];by_cases e:d=t
      ·rw[if_pos e,if_pos ⟨hE,by rw[e]⟩]
      ·rw[if_neg e,if_neg (fun x=>e (Option.some.inj x.2))]
    ·exact⟨tm,fun t=>by rw[kF,if_neg (fun x=>hE x.1)];exact h t⟩
  exact this R.size
 obtain⟨qp,abr⟩:∃qp:List (Nat×V),∀t,look qp t=sK E R p vs listed (st 0).tm t:=by
  by_cases hP:mG E R p listed
  ·cases hd:fZ R p with
   |none=>exact⟨PX,fun t=>by unfold sK;rw[if_neg (fun h=>by rw[hd] at h;cases h.2)];exact PY t⟩
   |some d=>
    refine⟨(d,.any)::PX,fun t=> ?_⟩;unfold sK;rw[look,hd];by_cases e:d=t
    ·rw[if_pos e,if_pos ⟨hP,by rw[e]⟩]
    ·rw[if_neg e,if_neg (fun x=>e (Option.some.inj x.2))];exact PY t
  ·exact⟨PX,fun t=>by unfold sK;rw[if_neg (fun h=>hP h.1)];exact PY t⟩
 have hPd:∀t,mG E R p listed->fZ R p=some t->∃po,R[p]? =some po/\po.dst=some t:=by
  intro t _ h;unfold fZ at h
  cases hpo:R[p]? with
  |none=>rw[hpo] at h;cases h
  |some po=>rw[hpo] at h;exact⟨po,rfl,h⟩
 have aev:∀t∈o.looksAt R,look qp t=look (st i).tm t:=by
  intro t htl;rw[abr];unfold sK
  rw[if_neg (fun h=>by
   obtain⟨po,h1,h2⟩:=hPd t h.1 h.2
   exact(hap h.1 po t h1 h2).2 htl),yE hT t i (by omega)]
  have:=Cc (R:=R) (vs:=vs) (E:=fun i=>listed.getD i false) (base:=(st 0).tm) (t:=t) (i:=i) R.size (fun j hj hd=>by
   by_cases e:j=i
   ·subst e;rw[LP];simp
   ·obtain⟨x,hx⟩:∃x,R[j]? =some x:=⟨_,Array.getElem?_eq_getElem hj⟩
    have hxd:x.dst=some t:=by simpa [fZ,hx] using hd
    refine hdone j x hx e (fun e2 hP=> ?_) ?_
    ·subst e2;exact(hap hP x t hx hxd).2 htl
    ·have:x.apart R o=false:=by
      cases hap:x.apart R o with
      |false=>rfl
      |true=>exact absurd htl ((Oper.apart_spec hap).1 t hxd)
     simp[lQ,this])
  rw[this,show min R.size i=i from by omega]
 have hR:jH N ⟨qp,(st m).st⟩ a w σ β:=⟨hsz,hdf,hS,fun t=>by show dP w σ (st m).st β (look qp t) _;rw[abr];exact hrT t⟩
 have hev:∀x∈o.op.operands,ev (st i).tm x=ev qp x:=by
  intro x hx
  cases x with
  |tmp t=>show look _ t=look _ t;rw[aev t (Od hx rfl)]
  |_=>rfl
 have hgd:gd R o qp=gd R o (st i).tm:=by
  unfold gd
  cases hg:o.guard with
  |none=>rfl
  |some gw=>
   obtain⟨g,want⟩:=gw
   simp only
   cases hd:fZ R g with
   |none=>rfl
   |some d=>
    simp only[Option.map_some];rw[aev d (RZ hg hd)]
 have aky:∀(S':Store)(t:Nat),kF R vs (fun i_1=>(listed.setIfInBounds i true).getD i_1 false) (st 0).tm R.size t=look (St.put ⟨PX,S'⟩ o.dst (vs i)).tm t:=by
  intro S' t;by_cases hd:o.dst=some t
  ·have hdi:fZ R i=some t:=by simp[fZ,ho,hd]
   rw[DC (E:=fun i_1=>(listed.setIfInBounds i true).getD i_1 false) hset hdi R.size hlt (fun j hj hij hdj=>by
    obtain⟨x,hx⟩:∃x,R[j]? =some x:=⟨_,Array.getElem?_eq_getElem hj⟩
    have hxd:x.dst=some t:=by simpa [fZ,hx] using hdj
    have abt:x.apart R o=false:=by
     cases hap:x.apart R o with
     |false=>rfl
     |true=>exact absurd hd ((Oper.apart_spec hap).2.1 t hxd)
    have:=hdone j x hx (by omega) (fun e hP=>by
     subst e
     exact(hap hP x t hx hxd).1 hd) (by simp[lQ,abt])
    rw[getD_set_ne false (by omega)]
    cases hE:listed.getD j false with
    |false=>rfl
    |true=>exact absurd (this.1 hE) (by omega))]
   rw[hd];simp[St.put,look]
  ·have hdi:fZ R i≠some t:=by simp only[fZ,ho,Option.bind_some];exact hd
   rw[xX (E':=fun i=>listed.getD i false) R.size (fun j hj hdj=>by
    have hji:j≠i:=fun e=>hdi (e▸hdj)
    exact getD_set_ne false (Ne.symm hji)),<-PY t]
   cases hdd:o.dst with
   |none=>rfl
   |some d=>
    have hne:d≠t:=fun e=>hd (by rw[hdd,e]);simp[St.put,look,hne]
 have abu:∀(S':Store)(t:Nat),¬(mG E R p listed/\fZ R p=some t)->look (St.put ⟨qp,S'⟩ o.dst (vs i)).tm t=kF R vs (fun i_1=>(listed.setIfInBounds i true).getD i_1 false) (st 0).tm R.size t:=by
  intro S' t hn;rw[aky S' t]
  have h1:look qp t=look PX t:=by rw[abr,PY];unfold sK;rw[if_neg hn]
  cases hdd:o.dst with
  |none=>exact h1
  |some d=>simp only[St.put,look,h1]
 have fin:∀(m':Nat)(a':Act)(w':World)(σ':Nat->Nat)(β':Hs),m'<=R.size->(∀j x,R[j]? =some x->fI E x.op=true->(j=p->¬mG E R p listed)->((listed.setIfInBounds i true).getD j false=true<->j<m'))->
  (mG E R p listed->m'<=p)->(∀d,o.dst≠some d->a'.tmps.getD d undef=a.tmps.getD d undef)->
  jH N (St.put ⟨qp,(st m').st⟩ o.dst (vs i)) a' w' σ' β'->Step (st m).st β σ w (st m').st β' σ' w'->Keep (st m).st β (st m').st β'->Mid P N E R p st vs β0 σ0 w0 (listed.setIfInBounds i true) a' w':=by
  intro m' a' w' σ' β' hm' hD' hmp ha' hR' hst' xu;have hS':=hR'.S;have hT':=hR'.T;rw[kM] at hS' hT';by_cases hP:mG E R p listed
  ·obtain⟨_,hraw⟩:=wV hP;have Yo:=hP;obtain⟨hp1,hp2,j0,x0,hj0,hx0,hD0,hu0⟩:=Yo;obtain⟨po,hpo⟩:∃po,R[p]? =some po:=⟨_,Array.getElem?_eq_getElem hp2⟩;obtain⟨hal,hgn,⟨d,hd⟩,aiW⟩:=hok.pend po hpo
   have hdp:fZ R p=some d:=by simp[fZ,hpo,hd]
   have hod:=hap hP po d hpo hd;have hraw:=hraw d hdp;obtain⟨b,c,ty',hv,hb,hσ,h0,hno,hzc⟩:=hraw;have hbl:b<w.heap.size:=lt_of_some hb
   have hb':w'.heap[b]? =some (.cells c ty' (0,0)):=by rw[(hst'.far b hbl hno).1];exact hb
   have hσ':σ' b=0:=by rw[(hst'.far b hbl hno).2];exact hσ
   have hno':¬Own (st m').st β' b:=fun h=>(hst'.own b h).elim hno (fun h=>by omega);have hv':a'.tmps.getD d undef=.pointer (some ⟨b,0,none⟩):=(ha' d hod.1).trans hv;have aiX:Raw P R p w0 w' σ' (st m').st β' (a'.tmps.getD d undef):=⟨b,c,ty',hv',hb',hσ',h0,hno',hzc⟩;by_cases hP':mG E R p (listed.setIfInBounds i true)
   ·refine⟨by simpa using hM.size,DI,m',hm',fun j x hx qd hjp=>hD' j x hx qd (fun e=>absurd hP' (hjp e)),σ',β',hR'.size,hR'.defers,hS',fun t=> ?_,hst.trans hst',hkp.trans xu,fun _=>⟨hmp hP,fun d' hd'=>by rw[hdp] at hd';cases hd';exact aiX⟩⟩;unfold sK;by_cases e:fZ R p=some t
    ·rw[if_pos ⟨hP',e⟩];exact trivial
    ·rw[if_neg (fun h=>e h.2),<-abu (st m').st t (fun h=>e h.2)];exact hT' t
   ·
    have hpl:(listed.setIfInBounds i true).getD p false=true:=getD_set_true hp1
    have hall:∀j x,j<p->R[j]? =some x->fI E x.op=true->(listed.setIfInBounds i true).getD j false=true:=fun j x hj hx hD=>by
     cases hl:(listed.setIfInBounds i true).getD j false with
     |true=>rfl
     |false=>exact absurd ⟨hpl,hp2,j,x,hj,hx,hD,hl⟩ hP'
    have agX:∀j x,p<j->R[j]? =some x->fI E x.op=true->(listed.setIfInBounds i true).getD j false=false:=fun j x hj hx hD=>by
     cases hl:(listed.setIfInBounds i true).getD j false with
     |false=>rfl
     |true=>
      exfalso;rcases hok.pair j0 j x0 x (by omega) hx0 hx (by simp[lQ,hD,hD0]) with hbt|⟨e,_⟩
      ·rcases Vl j hl with e|hl
       ·subst e;rw[Fy j0 hbt] at hu0;cases hu0
       ·rw[Vm j x j0 hx hl hbt] at hu0;cases hu0
      ·omega
    have am6:=hmp hP
    have hsm:(st p).st=(st m').st:=by
     have:=CO hT (i:=m') (p-m') (by omega) (fun j x h1 h2 h3=>by
      cases qd:fI E x.op with
      |false=>rfl
      |true=>
       have:=(hD' j x h3 qd (fun e=>by omega)).1 (hall j x (by omega) h3 qd)
       omega)
     rwa [show m'+(p-m')=p from by omega] at this
    obtain⟨po',agY,htp⟩:=hT p hp2;rw[hpo] at agY;cases agY
    obtain⟨ty,hop⟩:∃ty,po.op=.alloc ty:=by
     cases h:po.op<;>rw[h] at hal<;>first|exact⟨_,rfl⟩|cases hal
    obtain⟨zs,own,Ω,hzs,hs0,hs1,hvp⟩:=J2 htp hop hgn hd;rw[hsm] at hs0;have Ai:=hst.trans hst';have agZ:=hkp.trans xu;rw[hs0] at hS' hT' Ai agZ hno';obtain⟨bo,bΩ,rfl,hlen,q1,q2,q3⟩:=abq hS' Ai hb' hσ' h0 hno' (hzc po ty zs hpo hop hzs);rw[<-hs1] at q1 q2 q3;refine⟨by simpa using hM.size,DI,p+1,by omega,fun j x hx qd _=> ?_,σ',_,hR'.size,hR'.defers,q1,fun t=> ?_,q3,agZ.trans q2,fun h=>absurd h hP'⟩
    ·rcases Nat.lt_trichotomy j p with h|h|h
     ·exact⟨fun _=>by omega,fun _=>hall j x h hx qd⟩
     ·subst h;exact⟨fun _=>by omega,fun _=>hpl⟩
     ·rw[agX j x h hx qd];exact⟨fun h=>(by cases h),fun h=>by omega⟩
    ·unfold sK;rw[if_neg (fun h=>hP' h.1)];by_cases e:t=d
     ·subst e
      rw[DC (E:=fun i_1=>(listed.setIfInBounds i true).getD i_1 false) hpl hdp R.size hp2 (fun j hj hpj hdj=>by
       obtain⟨x,hx⟩:∃x,R[j]? =some x:=⟨_,Array.getElem?_eq_getElem hj⟩
       have hxd:x.dst=some t:=by simpa [fZ,hx] using hdj
       have abt:x.apart R po=false:=by
        cases hap:x.apart R po with
        |false=>rfl
        |true=>exact absurd hd ((Oper.apart_spec hap).2.1 t hxd)
       have hbt:=aiW j x (by omega) hx abt j0 x0 hj0 hx0 hD0
       cases hl:(listed.setIfInBounds i true).getD j false with
       |false=>rfl
       |true=>
        exfalso;rcases Vl j hl with e|hl
        ·subst e;rw[Fy j0 hbt.2] at hu0;cases hu0
        ·rw[Vm j x j0 hx hl hbt.2] at hu0;cases hu0),hvp,hv',hs1]
      exact TV hlen
     ·rw[<-abu (st m').st t (fun h=>e (by rw[hdp] at h;exact(Option.some.inj h.2).symm))];have h1:=hT' t;rw[hs0];exact h1.mono (eD.refl _ _) q2
  ·have hP':¬mG E R p (listed.setIfInBounds i true):=fun h=>hP (hPP h);refine⟨by simpa using hM.size,DI,m',hm',fun j x hx qd _=>hD' j x hx qd (fun _=>hP),σ',β',hR'.size,hR'.defers,hS',fun t=> ?_,hst.trans hst',hkp.trans xu,fun h=>absurd h hP'⟩;unfold sK;rw[if_neg (fun h=>hP' h.1),<-abu (st m').st t (fun h=>hP h.1)];exact hT' t
 have keepD:fI E o.op=false->∀j x,R[j]? =some x->fI E x.op=true->(j=p->¬mG E R p listed)->((listed.setIfInBounds i true).getD j false=true<->j<m):=by
  intro hD j x hx qd hjp
  have hji:j≠i:=fun e=>by rw[e,ho] at hx;cases hx;rw[hD] at qd;cases qd
  rw[getD_set_ne false (Ne.symm hji)];exact hmD j x hx qd hjp
 have hmP:mG E R p listed->m<=p:=fun h=>(wV h).1
 have quiet:∀(w':World)(σ':Nat->Nat)(v:Value),fI E o.op=false->Grow w σ w' σ'->dP w' σ' (st m).st β (vs i) v->Mid P N E R p st vs β0 σ0 w0 (listed.setIfInBounds i true) (a.put o.dst v) w':=by
  intro w' σ' v hD hg hv;exact fin m _ w' σ' β hm (keepD hD) hmP (fun d hd=>Fx hd) (zM hdn hsz hdf (hS.grow hg) (hR.T.mono hg.near (Keep.refl _ _)) hv) (Step.oI hg) (Keep.refl _ _)
 have hDs:fI E o.op=true->∀j x,R[j]? =some x->fI E x.op=true->(j=p->¬mG E R p listed)->(listed.getD j false=true<->j<i):=by
  intro hD j x hx qd hjp;by_cases e:j=i
  ·subst e;rw[LP];simp
  ·exact hdone j x hx e hjp (by simp[lQ,hD,qd])
 have hsame:fI E o.op=true->(st m).st=(st i).st:=by
  intro hD
  have hno:∀j x,R[j]? =some x->(i<=j/\j<m\/m<=j/\j<i)->fI E x.op=false:=by
   intro j x hx hj
   cases qd:fI E x.op with
   |false=>rfl
   |true=>
    have hjp:j=p->¬mG E R p listed:=fun e hP=>by
     have:=M6 hP hD;have:=hmP hP;omega
    have h1:=hDs hD j x hx qd hjp;have h2:=hmD j x hx qd hjp;rcases hj with hj|hj
    ·have:=h1.1 (h2.2 hj.2);omega
    ·have:=h2.1 (h1.2 hj.2);omega
  rcases Nat.le_total i m with h|h
  ·have:=CO hT (i:=i) (m-i) (by omega) (fun j x h1 h2 h3=>hno j x h3 (.inl ⟨h1,by omega⟩))
   rwa [show i+(m-i)=m from by omega] at this
  ·have:=CO hT (i:=m) (i-m) (by omega) (fun j x h1 h2 h3=>hno j x h3 (.inr ⟨h1,by omega⟩));rw[show m+(i-m)=i from by omega] at this;exact this.symm
 have Yp:fI E o.op=true->∀j x,R[j]? =some x->fI E x.op=true->(j=p->¬mG E R p listed)->((listed.setIfInBounds i true).getD j false=true<->j<i+1):=by
  intro hD j x hx qd hjp;by_cases e:j=i
  ·subst e;rw[hset];simp
  ·rw[getD_set_ne false (Ne.symm e),hDs hD j x hx qd hjp];omega
 have hiP:fI E o.op=true->mG E R p listed->i+1<=p:=fun hD hP=>M6 hP hD;unfold wpOp;rw[ho]
 simp only
 have hRR:jH N ⟨qp,(st m).st⟩ a w σ β:=hR;rcases ht with⟨hg,hv,hs'⟩|⟨hg,hD,hv,hs'⟩|⟨hg,hD,hx,hs',_⟩
 ·
  have hw:Region.wanted o (yielded R a.tmps)=false:=by
   rw[<-hgd] at hg;unfold gd at hg;split at hg
   ·cases hg
   ·rename_i j want hgu;split at hg
    ·rename_i x hx;have hy:=Ag (s:=⟨qp,(st m).st⟩) hRR hx
     have hne:x≠want:=by
      intro e;rw[e] at hg;simp at hg
     simp[Region.wanted,hgu,hy,hne]
    ·rename_i hx;have hy:=EH (s:=⟨qp,(st m).st⟩) hRR hx;simp[Region.wanted,hgu,hy]
    ·cases hg
  rw[if_neg (by rw[hw];simp)]
  have hvu:dP w σ (st m).st β (vs i) undef:=by rw[hv];exact vC
  by_cases hD:fI E o.op=true
  ·have hsm:=hsame hD
   have hs1:(st (i+1)).st=(st m).st:=by rw[hsm,hs'];cases o.dst<;>rfl
   refine fin (i+1) _ w σ β hlt (Yp hD) (hiP hD) (fun d hd=>Fx hd) (by rw[hs1];exact zM hdn hsz hdf hS hR.T hvu) (by rw[hs1];exact Step.oI (Grow.refl hS.live)) (by rw[hs1];exact Keep.refl _ _)
  ·exact quiet w σ undef (by simpa using hD) (Grow.refl hS.live) hvu
 all_goals
  have hw:Region.wanted o (yielded R a.tmps)=true:=by
   rw[<-hgd] at hg;unfold gd at hg;split at hg
   ·rename_i hgu;simp[Region.wanted,hgu]
   ·rename_i j want hgu;split at hg
    ·rename_i x hx;have hy:=Ag (s:=⟨qp,(st m).st⟩) hRR hx;simp at hg;simp[Region.wanted,hgu,hy,hg]
    ·cases hg
    ·cases hg
  rw[if_pos hw];left
 ·
  rcases hv with⟨c,hc,hcn⟩|⟨hcond,hval⟩
  ·have hcn':=abg (tm':=qp) (fun x hx=>hev x (by rw[hc];exact hx)) hcn;unfold Dy at hcn';split at hcn'
   ·rename_i x hcx;split at hcn'
    ·rename_i f caps hex
     have hcall:mD P c ⟨qp,(st m).st⟩ o.dst (fun t=>t=St.put ⟨qp,(st m).st⟩ o.dst (vs i)):=by
      unfold mD;rw[hcx];simp only[hex];exact .inl ⟨_,hcn' (st m).st,fun r S' hp=>by rw[hp.1,hp.2]⟩
     refine Oper.wp_mono ?_ (Oper.Ym (JR (Q:=Q) hc hdn hRR hcall));rintro a' w' ⟨⟨s'',σ',β',hR',hst',xu,hK⟩,ha'⟩;subst hK;rw[kM] at hst' xu;exact fin m a' w' σ' β' hm (keepD hD) hmP ha' hR' hst' xu
    ·exact hcn'.elim
   ·exact hcn'.elim
  ·have hcv:jk o.op=false:=by
    cases hc:jk o.op with
    |false=>rfl
    |true=>
     exfalso;unfold jk at hc;split at hc
     ·rename_i x b c hop;rw[hop] at hcond;exact gU hcond
     ·cases hc
   have aew:∀k,refs (st i).tm o k->∀j x,R[j]? =some x->(i<=j/\j<m\/m<=j/\j<i)->jU E x.op=false\/bg (st (j+1)).st k=bg (st j).st k:=by
    intro k hk j x hx hj
    cases hs:jU E x.op with
    |false=>exact .inl rfl
    |true=>
     have qd:fI E x.op=true:=Yj hs
     have hji:j≠i:=fun e=>by rw[e,ho] at hx;cases hx;rw[hD] at qd;cases qd
     rcases hok.store j i x o hji hx ho hs hD hcv with hb|hb
     ·have h1:=hbit j x hx hji hb
      have h2:=hmD j x hx qd (fun e=>by
       subst e;have:=(sW (E:=E) (hok.pend x hx).1).2.1
       rw[hs] at this;cases this)
      rcases hj with hj|hj
      ·have:=h1.1 (h2.2 hj.2);omega
      ·have:=h2.1 (h1.2 hj.2);omega
     ·exact .inr (hb k hk)
   have e1:=ae2 (P:=P) (S:=(st i).st) (tm:=(st i).tm) (tm':=qp) (op:=o.op) hev;rw[e1] at hcond hval
   have e2:mq P (nW (st i).st) (st m).st qp o.op=mq P (nW (st i).st) (st i).st qp o.op:=by
    cases hmv:Vk o.op with
    |true=>exact abo hmv
    |false=>
     exact abh (P:=P) (l:=nW (st i).st) (S:=(st i).st) (S':=(st m).st) (tm:=qp) (op:=o.op) hcond (by
     intro x hx k hk ob Yf hbr;have hrf:refs (st i).tm o k:=⟨hmv,x,hx,by rw[hev x hx];exact hk⟩;rcases Nat.le_total i m with h|h
     ·have hds:=Vi hT (i:=i) (k:=k) (m-i) (by omega) (fun j x h1 h2 h3=>aew k hrf j x h3 (.inl ⟨h1,by omega⟩));rw[show i+(m-i)=m from by omega] at hds;rcases hds ob Yf with h'|⟨⟨z,es,e⟩,_⟩
      ·exact h'
      ·rcases e with e|⟨_,e⟩<;>rw[e] at hbr<;>exact hbr.elim
     ·have hds:=Vi hT (i:=m) (k:=k) (i-m) (by omega) (fun j x h1 h2 h3=>aew k hrf j x h3 (.inr ⟨h1,by omega⟩));rw[show m+(i-m)=i from by omega] at hds;have hrx:=jB (a:=a) hR.T x
      have hin:∃o',bg (st m).st k=some o':=by
       rcases hk with⟨off,e⟩|⟨i',off,e⟩|e|e|⟨r',p',e⟩|⟨r',p',z',i',off,e⟩<;>rw[show ev (⟨qp,(st m).st⟩:St).tm x=ev qp x from rfl,e] at hrx<;>obtain⟨⟨o',ho',_⟩,_⟩:=hrx<;>exact⟨o',ho'⟩
      obtain⟨o',ho'⟩:=hin;rcases hds o' ho' with h'|⟨_,o2,z,es,h',e⟩
      ·rw[Yf] at h';cases h';exact ho'
      ·rw[Yf] at h';cases h'
       rcases e with e|⟨_,e⟩<;>rw[e] at hbr<;>exact hbr.elim)
   have ag1:(mq P (nW (st i).st) (st m).st qp o.op).1:=by rw[e2];exact hcond
   have hval':vs i=(mq P (nW (st i).st) (st m).st qp o.op).2:=by rw[e2];exact hval
   obtain⟨v,w',σ',hrun,hgr,EG⟩:=Hy (P:=P) _ o hS hR.T ag1;unfold Oper.wp;rw[hrun];exact quiet w' σ' v hD hgr (by rw[hval'];exact EG)
 ·have hsm:=hsame hD
  have hx':dx P o ⟨(st i).tm,(st i).st⟩ (fun t=>t=St.put ⟨(st i).tm,(st (i+1)).st⟩ o.dst (vs i)):=by
   rw[hs'] at hx;exact hx
  have hx2:=abf hD hev hx';rw[<-hsm] at hx2;refine Oper.wp_mono ?_ (Oper.Ym (Dw (Q:=Q) hdn hRR hx2));rintro a' w' ⟨⟨s'',σ',β',hR',hst',xu,hK⟩,ha'⟩;subst hK;rw[kM] at hst' xu;exact fin (i+1) a' w' σ' β' hlt (Yp hD) (hiP hD) ha' hR' hst' xu
theorem ae7{st:Nat->St}{vs:Nat->V}{β0:Hs}{σ0:Nat->Nat}{w0:World}{Q:Exit->Act->World->Prop}{p:Nat}(hok:JZ E R N st p)
 (hT:∀i,i<R.size->∃o,R[i]? =some o/\lg P E R o (st i) (vs i) (st (i+1)))(hQ:∀listed a w,Mid P N E R p st vs β0 σ0 w0 listed a w->(∀i,i<R.size->listed.getD i false=true)->Q .normal a w):
 ∀(fuel:Nat)(listed:Array Bool)(a:Act)(w:World),(List.range R.size).countP (fun i=> !listed.getD i false)<=fuel->Mid P N E R p st vs β0 σ0 w0 listed a w->wpAny P .any R Q fuel listed a w:=by
 have hend:∀listed a w,Mid P N E R p st vs β0 σ0 w0 listed a w->Region.ready .any R listed=[]->Q .normal a w:=by
  intro listed a w hM hr;refine hQ listed a w hM ?_;intro i
  induction i using Nat.strongRecOn with
  |_ i ih=>
   intro hi
   cases hE:listed.getD i false with
   |true=>rfl
   |false=>
    exfalso;have ho:R[i]? =some R[i]:=Array.getElem?_eq_getElem hi
    have:i∈Region.ready .any R listed:=by
     rw[mem_ready]
     have hs:i<listed.size:=by rw[hM.size];exact hi
     refine⟨by simp[hs] at hE ⊢;exact hE,_,ho,fun e he hb=> ?_⟩;have hon:=hok.edge i _ e ho he hb;exact ih e.on hon (by omega)
    rw[hr] at this;simp at this
 intro fuel
 induction fuel with
 |zero=>
  intro listed a w hc hM
  have hnone:Region.ready .any R listed=[]:=by
   cases hr:Region.ready .any R listed with
   |nil=>rfl
   |cons i l=>
    exfalso
    have hi:i∈Region.ready .any R listed:=by rw[hr];simp
    obtain⟨hun,o,ho,_⟩:=mem_ready.1 hi;have hlt:=(Array.getElem?_eq_some_iff.1 ho).1
    have hs:i<listed.size:=by rw[hM.size];exact hlt
    have hz:(List.range R.size).countP (fun i=> !listed.getD i false)=0:=by omega
    rw[List.countP_eq_zero] at hz;have:=hz i (List.mem_range.2 hlt);simp[hs] at hun this;rw[hun] at this;cases this
  exact⟨hnone,hend listed a w hM hnone⟩
 |succ fuel ih=>
  intro listed a w hc hM;refine⟨hend listed a w hM,fun i hi=> ?_⟩;refine wpOp_mono (fun a' w' hM'=>ih _ a' w' ?_ hM') (mid_step hok hT hM hi);obtain⟨hun,o,ho,_⟩:=mem_ready.1 hi;have hlt:=(Array.getElem?_eq_some_iff.1 ho).1
  have hs:i<listed.size:=by rw[hM.size];exact hlt
  have:=cnt_lt (fun j=> !listed.getD j false) (fun j=> !(listed.setIfInBounds i true).getD j false) (List.range R.size) i (fun x hx=>by
   by_cases e:x=i
   ·subst e;simp[hs] at hx
   ·rw[getD_set_ne false (Ne.symm e)] at hx;exact hx) (List.mem_range.2 hlt) (by simp[hs] at hun ⊢;exact hun) (by simp[hs])
  omega
theorem Aj{id:Nat}{Q:Exit->St->Prop}{s:St}(fq:P.follows .mixedOrders=true){st:Nat->St}{vs:Nat->V}(h0:st 0=s)(hK:Q .normal (st R.size))
 (hT':∀i,i<R.size->∃o,R[i]? =some o/\lg P E R o (st i) (vs i) (st (i+1))){p:Nat}(hok:JZ E R N st p):AW P N (.region id R true) Q s:=by
 intro a w σ β hR;refine wp_region_any fq ?_;have hgd:Grow w σ {w with drawn:=w.drawn+1} σ:=⟨Nat.le_refl _,rfl,rfl,fun _ _=>⟨rfl,rfl⟩,hR.S.live⟩;refine ae7 (N:=N) (β0:=β) (σ0:=σ) (w0:=w) hok hT' (fun listed a' w' hM hall=> ?_) R.size _ a _ ?_ ?_
 ·obtain⟨m,hm,hmD,σ',β',hsz,hdf,hS,hT2,hst,hkp,_⟩:=hM.rep
  have hnP:¬mG E R p listed:=by
   rintro⟨_,_,j,x,hj,hx,_,hl⟩;rw[hall j (Array.getElem?_eq_some_iff.1 hx).1] at hl;cases hl
  have hsm:(st R.size).st=(st m).st:=by
   have:=CO hT' (i:=m) (R.size-m) (by omega) (fun j x h1 h2 h3=>by
    cases qd:fI E x.op with
    |false=>rfl
    |true=>have:=(hmD j x h3 qd (fun _=>hnP)).1 (hall j (Array.getElem?_eq_some_iff.1 h3).1);omega)
   rwa [show m+(R.size-m)=R.size from by omega] at this
  rw[h0] at hst hkp;refine⟨st R.size,σ',β',⟨hsz,hdf,by rw[hsm];exact hS,fun t=> ?_⟩,by rw[hsm];exact hst,by rw[hsm];exact hkp.tail,hK⟩;rw[yE hT' t R.size (Nat.le_refl _),hsm];have:=hT2 t;unfold sK at this;rw[if_neg (fun h=>hnP h.1)] at this;rw[xX (E':=fun _=>true) R.size (fun j hj _=>hall j hj)] at this;exact this
 ·calc (List.range R.size).countP _<=(List.range R.size).length:=List.countP_le_length
   _=R.size:=List.length_range
 ·refine⟨by simp,fun i o e ho hE _ _=> ?_,0,Nat.zero_le _,fun i o ho _=> ?_,σ,β,hR.size,hR.defers,by rw[h0];exact hR.S.grow hgd,fun t=> ?_,by rw[h0];exact Step.oI hgd,Keep.refl _ _,fun h=>by have h1:=h.1;rw[getD_replicate_false] at h1;cases h1⟩
  ·rw[getD_replicate_false] at hE;cases hE
  ·rw[getD_replicate_false];simp
  ·have:kF R vs (fun i=>(Array.replicate R.size false).getD i false) (st 0).tm R.size t=look (st 0).tm t:=by
    have:=Cc (R:=R) (vs:=vs) (E:=fun i=>(Array.replicate R.size false).getD i false) (base:=(st 0).tm) (t:=t) (i:=0) R.size (fun j _ _=>by rw[getD_replicate_false];simp);rw[this,Nat.min_zero];rfl
   unfold sK;rw[if_neg (fun h=>by have h1:=h.1.1;rw[getD_replicate_false] at h1;cases h1),this,h0];exact(hR.T t).mono hgd.near (Keep.refl _ _)
theorem ae8{id:Nat}{Q:Exit->St->Prop}{s:St}(fq:P.follows .mixedOrders=true)(hok:yC E R N=true)(h:qV P E R R.toList s (Q .normal)):AW P N (.region id R true) Q s:=by
 obtain⟨st,vs,h0,hK,hT⟩:=DF R.size 0 (by omega) s h;exact Aj fq h0 hK (fun i hi=>hT i (Nat.zero_le i) hi) (agU hok)
theorem abv{id p:Nat}{Q:Exit->St->Prop}{s:St}(fq:P.follows .mixedOrders=true)(hok:CK E R N p=true)(h:qV P E R R.toList s (Q .normal)):AW P N (.region id R true) Q s:=by
 obtain⟨st,vs,h0,hK,hT⟩:=DF R.size 0 (by omega) s h;exact Aj fq h0 hK (fun i hi=>hT i (Nat.zero_le i) hi) (ae6 hok)
theorem Vn{id:Nat}{Q:Exit->St->Prop}{s:St}(fq:P.follows .mixedOrders=true)(hok:LK R N=true)(h:qV P (JY R N) R R.toList s (Q .normal)):AW P N (.region id R true) Q s:=by
 unfold LK at hok;rw[Bool.or_eq_true] at hok;rcases hok with hok|hok
 ·exact ae8 fq hok h
 ·split at hok
  ·exact abv fq hok h
  ·cases hok
theorem Vo{v w:V}(h:Vh v w=true){k k':Key}(hv:(∃off,v=.c (.ptr k' off))\/(∃i off,v=.c (.kI k' i off))\/∃r p z i off,v=.c (.xq k' r p z i off))
 (hw:GI w k):k'≠k:=by
 rintro rfl;rcases hv with⟨_,rfl⟩|⟨_,_,rfl⟩|⟨_,_,_,_,_,rfl⟩<;>rcases hw with⟨_,rfl⟩|⟨_,_,rfl⟩|rfl|rfl|⟨_,_,rfl⟩|⟨_,_,_,_,_,rfl⟩<;>simp[Vh] at h
theorem H7{o:Oper}{t:TypeId}{a y:Operand}{s s':St}{v:V}(hop:o.op=.store t a y)(h:lg P E R o s v s'){k:Key}
 (hk:∀k',((∃off,ev s.tm a=.c (.ptr k' off))\/(∃i off,ev s.tm a=.c (.kI k' i off))\/∃r p z i off,ev s.tm a=.c (.xq k' r p z i off))->k'≠k):bg s'.st k=bg s.st k:=by
 rcases h with⟨_,_,h⟩|⟨_,_,_,h⟩|⟨_,_,h,_,_⟩
 ·rw[h];cases o.dst<;>rfl
 ·rw[h];cases o.dst<;>rfl
 ·obtain⟨dst,op,ty,pos,after,guard⟩:=o;subst hop;simp only[dx,sS] at h;split at h
  ·rename_i k' off he;split at h
   ·obtain⟨_,_,_,h4⟩:=h;rw[<-h4,kM];exact eY _ _ _ _ (hk k' (.inl ⟨_,he⟩))
   ·exact h.elim
  ·rename_i k' i off he;split at h
   ·obtain⟨_,_,_,_,h5⟩:=h;rw[<-h5,kM];exact eY _ _ _ _ (hk k' (.inr (.inl ⟨_,_,he⟩)))
   ·exact h.elim
  ·rename_i k' r p z i off he;split at h
   ·split at h
    ·split at h
     ·obtain⟨_,_,_,_,_,h6⟩:=h;rw[<-h6,kM];exact eY _ _ _ _ (hk k' (.inr (.inr ⟨_,_,_,_,_,he⟩)))
     ·exact h.elim
    ·exact h.elim
   ·exact h.elim
  ·exact h.elim
theorem zA{st:Nat->St}{vs:Nat->V}(hT:∀i,i<R.size->∃o,R[i]? =some o/\lg P E R o (st i) (vs i) (st (i+1))){i:Nat}(hi:i<=R.size){a:Operand}(h:settled R i a=true):
 ev (st R.size).tm a=ev (st i).tm a:=by
 cases a with
 |tmp t=>
  show look _ t=look _ t
  have key:∀n,i+n<=R.size->look (st (i+n)).tm t=look (st i).tm t:=by
   intro n
   induction n with
   |zero=>intro _;rfl
   |succ n ih=>
    intro hn;rw[yE hT t (i+(n+1)) hn,show i+(n+1)=i+n+1 from rfl,kF,if_neg,<-yE hT t (i+n) (by omega),ih (by omega)];rintro⟨_,hd⟩;have:=List.all_eq_true.1 h (i+n) (List.mem_range.2 (by omega));rw[hd] at this;simp at this;omega
  have:=key (R.size-i) (by omega)
  rwa [show i+(R.size-i)=R.size from by omega] at this
 |_=>rfl
theorem M7{st:Nat->St}{vs:Nat->V}{p:Nat}(hed:∀(i:Nat)(o:Oper),R[i]? =some o->(o.after.toList.all (fun e=> !Region.binds .any e||decide (e.on<i))&&(match o.dst with|some d=>decide (d<N)|none=>true))=true)
 (wV:∀o,R[p]? =some o->xA o.op=true/\o.guard=none/\(∃d,o.dst=some d)/\∀j y,j≠p->R[j]? =some y->y.apart R o=false->∀i x,i<p->R[i]? =some x->fI E x.op=true->i<j/\((masks R.toList []).getD j 0).testBit i=true)
 (hp:∀(i j:Nat) (x y:Oper),i<j->R[i]? =some x->R[j]? =some y->((masks R.toList []).getD j 0).testBit i=true\/(x.apart R y=true/\(j=p\/((fI E x.op&&fI E y.op)=false/\(jU E x.op=true->rM R i x j y=true)/\(jU E y.op=true->rM R j y i x=true)))))
 (hT:∀i,i<R.size->∃o,R[i]? =some o/\lg P E R o (st i) (vs i) (st (i+1)))(hl:GJ E R (st R.size).tm=true):JZ E R N st p:=by
 refine⟨?_,?_,?_,?_,wV⟩
 ·intro i o e ho he hb;have h2:=hed i o ho;simp only[Bool.and_eq_true] at h2;have h3:=List.all_eq_true.1 h2.1 e (by simpa using he);simpa [hb] using h3
 ·intro i o ho d hd;have h2:=hed i o ho;simp only[Bool.and_eq_true,hd] at h2;simpa using h2.2
 ·intro i j x y hij hx hy hc;rcases hp i j x y hij hx hy with h|⟨h1,h⟩
  ·exact .inl h
  ·unfold lQ at hc;rw[h1] at hc;simp only[Bool.not_true,Bool.false_or] at hc;rcases h with h|⟨h,_⟩
   ·rw[Bool.and_eq_true] at hc;exact .inr ⟨h,hc.1,h1⟩
   ·rw[hc] at h;cases h
 ·intro i j x o hij hx ho hs hD hc
  have hjp:j≠p:=fun e=>by
   subst e;have:=(sW (E:=E) (wV o ho).1).1;rw[hD] at this;cases this
  have M6:i≠p:=fun e=>by
   subst e;have:=(sW (E:=E) (wV x hx).1).2.1;rw[hs] at this;cases this
  cases hb:qW R i j with
  |true=>exact .inl rfl
  |false=>
   refine .inr ?_;rintro k ⟨_,z,hz,hk⟩;have hi:i<R.size:=(Array.getElem?_eq_some_iff.1 hx).1;have hj:j<R.size:=(Array.getElem?_eq_some_iff.1 ho).1
   have hlo:rM R i x j o=true:=by
    unfold qW at hb;by_cases e:i<j
    ·rw[if_pos e] at hb;rcases hp i j x o e hx ho with h|⟨_,h|⟨_,h,_⟩⟩
     ·rw[hb] at h;cases h
     ·exact absurd h hjp
     ·exact h hs
    ·rw[if_neg e] at hb;rcases hp j i o x (by omega) ho hx with h|⟨_,h|⟨_,_,h⟩⟩
     ·rw[hb] at h;cases h
     ·exact absurd h M6
     ·exact h hs
   unfold rM at hlo;rw[hc,Bool.false_or] at hlo;split at hlo
   ·rename_i t a y hop;rw[Bool.and_eq_true] at hlo
    have hz':z∈o.op.operands.toList:=by simpa using hz
    have hsz:=List.all_eq_true.1 hlo.2 z hz';have h1:=List.all_eq_true.1 hl i (List.mem_range.2 hi);rw[hx] at h1;simp only[hs,Bool.not_true,Bool.false_or,hop] at h1;have h2:=List.all_eq_true.1 h1 j (List.mem_range.2 hj);rw[ho] at h2;simp only[hb,hD,hc,Bool.false_or] at h2;have h3:=List.all_eq_true.1 h2 z hz';obtain⟨x',hx',ht⟩:=hT i hi;rw[hx] at hx';cases hx';refine H7 hop ht fun k' hk'=> ?_;rw[zA hT (by omega) hlo.1,zA hT (by omega) hsz] at h3;exact Vo h3 hk' hk
   ·cases hlo
theorem DJ{f:Nat->Nat->Oper->Oper->Bool}(h:((List.range R.size).all fun j=>
 (match R[j]? with
  |some o=>o.after.toList.all (fun e=> !Region.binds .any e||decide (e.on<j))&&(match o.dst with|some d=>decide (d<N)|none=>true)
  |none=>true)&&
 (List.range j).all fun i=>
   match R[i]?,R[j]? with
   |some x,some y=>((masks R.toList []).getD j 0).testBit i|| !(f i j x y)
   |_,_=>true)=true):
 (∀(i:Nat) (o:Oper),R[i]? =some o->(o.after.toList.all (fun e=> !Region.binds .any e||decide (e.on<i))&&(match o.dst with|some d=>decide (d<N)|none=>true))=true)/\
 ∀(i j:Nat)(x y:Oper),i<j->R[i]? =some x->R[j]? =some y->((masks R.toList []).getD j 0).testBit i=true\/f i j x y=false:=by
 refine⟨fun i o ho=> ?_,fun i j x y hij hx hy=> ?_⟩
 ·have hj:i<R.size:=(Array.getElem?_eq_some_iff.1 ho).1;have h1:=List.all_eq_true.1 h i (List.mem_range.2 hj);rw[Bool.and_eq_true,ho] at h1;exact h1.1
 ·have hj:j<R.size:=(Array.getElem?_eq_some_iff.1 hy).1;have h1:=List.all_eq_true.1 h j (List.mem_range.2 hj);rw[Bool.and_eq_true] at h1;have h2:=List.all_eq_true.1 h1.2 i (List.mem_range.2 hij);rw[hx,hy] at h2;simp only[Bool.or_eq_true,Bool.not_eq_true'] at h2;exact h2
theorem abw{st:Nat->St}{vs:Nat->V}(hok:CJ E R N=true)(hT:∀i,i<R.size->∃o,R[i]? =some o/\lg P E R o (st i) (vs i) (st (i+1)))(hl:GJ E R (st R.size).tm=true):JZ E R N st R.size:=by
 obtain⟨h1,h2⟩:=DJ (f:=fun i j x y=>lQ E R x y||(jU E x.op&& !(rM R i x j y))||(jU E y.op&& !(rM R j y i x))) hok;refine M7 h1 (fun o ho=>by rw[Array.getElem?_eq_none (Nat.le_refl _)] at ho;cases ho) (fun i j x y hij hx hy=>(h2 i j x y hij hx hy).imp id fun h=> ?_) hT hl;simp only[lQ,Bool.or_eq_false_iff,Bool.not_eq_false',Bool.and_eq_false_imp] at h;obtain⟨⟨⟨q1,q2⟩,q3⟩,q4⟩:=h;refine⟨q1,.inr ⟨?_,q3,q4⟩⟩
 cases hx:fI E x.op with
 |false=>rfl
 |true=>rw[q2 hx];rfl
theorem Yq{st:Nat->St}{vs:Nat->V}{p:Nat}(hok:Dz E R N p=true)(hT:∀i,i<R.size->∃o,R[i]? =some o/\lg P E R o (st i) (vs i) (st (i+1)))(hl:GJ E R (st R.size).tm=true):JZ E R N st p:=by
 unfold Dz at hok;rw[Bool.and_eq_true] at hok;obtain⟨h1,h2⟩:=DJ (f:=fun i j x y=> !(x.apart R y)||(!(decide (j=p))&&((fI E x.op&&fI E y.op)||(jU E x.op&& !(rM R i x j y))||(jU E y.op&& !(rM R j y i x))))) hok.2;refine M7 h1 (LM hok.1) (fun i j x y hij hx hy=>(h2 i j x y hij hx hy).imp id fun h=> ?_) hT hl;rw[Bool.or_eq_false_iff,Bool.not_eq_false'] at h;refine⟨h.1,?_⟩;by_cases e:j=p
 ·exact .inl e
 ·have h3:=h.2;simp only[e,decide_false,Bool.not_false,Bool.true_and,Bool.or_eq_false_iff] at h3;obtain⟨⟨q2,q3⟩,q4⟩:=h3;exact .inr ⟨q2,fun hx=>by rw[hx] at q3;simpa using q3,fun hy=>by rw[hy] at q4;simpa using q4⟩
theorem PZ{id:Nat}{Q:Exit->St->Prop}{s:St}(fq:P.follows .mixedOrders=true)(hok:CJ E R N=true)(h:qV P E R R.toList s (fun s'=>GJ E R s'.tm=true/\Q .normal s')):AW P N (.region id R true) Q s:=by
 obtain⟨st,vs,h0,hK,hT⟩:=DF R.size 0 (by omega) s h;have hT':=fun i hi=>hT i (Nat.zero_le i) hi;exact Aj fq h0 hK.2 hT' (abw hok hT' hK.1)
theorem R5{id:Nat}{Q:Exit->St->Prop}{s:St}(fq:P.follows .mixedOrders=true)(hok:IL R N=true)(h:qV P (rO R N) R R.toList s (fun s'=>GJ (rO R N) R s'.tm=true/\Q .normal s')):AW P N (.region id R true) Q s:=by
 unfold IL at hok;rw[Bool.or_eq_true] at hok;rcases hok with hok|hok
 ·exact PZ fq hok h
 ·split at hok
  ·obtain⟨st,vs,h0,hK,hT⟩:=DF R.size 0 (by omega) s h;have hT':=fun i hi=>hT i (Nat.zero_le i) hi;exact Aj fq h0 hK.2 hT' (Yq hok hT' hK.1)
  ·cases hok
end
section
variable {P:Program} {w w':World} {σ σ':Nat->Nat} {S S':Store} {β β':Hs} {N:Nat} {s:St} {a:Act}
theorem lU{c:Code}{Q:Exit->St->Prop}{s s':St}(h:AW P N c Q s')
 (hg:∀(a:Act) (w:World) (σ:Nat->Nat) (β:Hs),jH N s a w σ β->∃σ' β',jH N s' a w σ' β'/\Step s.st β σ w s'.st β' σ' w/\Keep (gB s.st) (gB β) (gB s'.st) (gB β')):AW P N c Q s:=by
 intro a w σ β hR;obtain⟨σ',β',hR',hst,hk⟩:=hg a w σ β hR;refine wp_mono (h a w σ' β' hR') ?_;rintro e a' w' ⟨s'',zX,β'',k1,k2,k3,k4⟩;exact⟨s'',zX,β'',k1,hst.trans k2,hk.trans k3,k4⟩
def gK(N:Nat)(s s':St):Prop:=∀(a:Act)(w:World)(σ:Nat->Nat)(β:Hs),jH N s a w σ β->∃σ' β',jH N s' a w σ' β'/\Step s.st β σ w s'.st β' σ' w/\Keep (gB s.st) (gB β) (gB s'.st) (gB β')
theorem gK.refl(N:Nat)(s:St):gK N s s:=fun a w σ β hR=>⟨σ,β,hR,Step.oI (Grow.refl hR.S.live),Keep.refl _ _⟩
theorem gK.trans{s s' s'':St}(h:gK N s s')(k:gK N s' s''):gK N s s'':=fun a w σ β hR=>by
 obtain⟨σ1,β1,r1,st1,k1⟩:=h a w σ β hR;obtain⟨σ2,β2,r2,st2,k2⟩:=k a w σ1 β1 r1;exact⟨σ2,β2,r2,st1.trans st2,k1.trans k2⟩
theorem IQ{tm tm':List (Nat×V)}(hl:∀t,look tm' t=look tm t\/look tm' t=.any):gK N ⟨tm,S⟩ ⟨tm',S⟩:=
 fun a w σ β hR=>⟨σ,β,⟨hR.size,hR.defers,hR.S,fun t=>by
  rcases hl t with e|e
  ·show dP w σ S β (look tm' t) _;rw[e];exact hR.T t
  ·show dP w σ S β (look tm' t) _;rw[e];trivial⟩,Step.oI (Grow.refl hR.S.live),Keep.refl _ _⟩
theorem Vp{c:Code}{Q:Exit->St->Prop}{tm tm':List (Nat×V)}(h:AW P N c Q ⟨tm',S⟩)(hl:∀t,look tm' t=look tm t\/look tm' t=.any):AW P N c Q ⟨tm,S⟩:=
 lU h fun a w σ β hR=>⟨σ,β,⟨hR.size,hR.defers,hR.S,fun t=>by
  rcases hl t with e|e
  ·show dP w σ S β (look tm' t) _;rw[e];exact hR.T t
  ·show dP w σ S β (look tm' t) _;rw[e];trivial⟩,Step.oI (Grow.refl hR.S.live),Keep.refl _ _⟩
def C.sZ:C->C
 | .bX _ es=>.d (.sl es)
 | .bI es=>.d (.sl es)
 |c=>c
def V.sZ:V->V
 | .c x=>.c x.sZ
 | .agg cs=>.agg (cs.map C.sZ)
 |v=>v
theorem P5{c:C}{v:Value}(h:gF w σ S β c v):gF w σ S β c.sZ v:=by
 cases c with
 |bX k es=>exact h.1
 |bI es=>exact h.1
 |_=>exact h
theorem P6{x:V}{v:Value}(h:dP w σ S β x v):dP w σ S β x.sZ v:=by
 cases x with
 |c x=>exact⟨P5 h.1,h.2⟩
 |agg cs=>
  obtain⟨ar,ha,hl,hc⟩:=h;refine⟨ar,ha,by simpa using hl,fun j x hx=> ?_⟩;rw[List.getElem?_map] at hx
  cases hcj:cs[j]? with
  |none=>rw[hcj] at hx;cases hx
  |some y=>
   rw[hcj] at hx;cases hx;obtain⟨v,hv,hr,ho⟩:=hc j y hcj;exact⟨v,hv,P5 hr,ho⟩
 |_=>exact h
theorem cB.weaken{f:FuncId}{args args':List V}{post:V->Store->Prop}(h:cB P f args' S post)(hl:args.length=args'.length)
 (hw:∀(j:Nat) (x y:V),args[j]? =some x->args'[j]? =some y->∀w σ β v,dP w σ S β x v->dP w σ S β y v):cB P f args S post:=by
 refine⟨h.1,fun w σ β vs hS hv=>h.2 w σ β vs hS ⟨by rw[<-hl];exact hv.1,fun j y hy=> ?_⟩⟩;have hj:=(List.getElem?_eq_some_iff.1 hy).1;have hx:args[j]? =some (args[j]'(by omega)):=List.getElem?_eq_getElem (by omega);obtain⟨v,h1,h2⟩:=hv.2 j _ hx;exact⟨v,h1,hw j _ y hx hy w σ β v h2⟩
theorem cB.sZ{f:FuncId}{args:List V}{post:V->Store->Prop}(h:cB P f (args.map V.sZ) S post):cB P f args S post:=
 h.weaken (by simp) fun j x y hx hy w σ β v hr=>by
  rw[List.getElem?_map,hx] at hy;cases hy;exact P6 hr
theorem cB.mono{f:FuncId}{args:List V}{post post':V->Store->Prop}(h:cB P f args S post)(hp:∀r S',post r S'->post' r S'):cB P f args S post':=
 ⟨h.1,fun w σ β vs hS hv=>(h.2 w σ β vs hS hv).mono fun e w' ⟨v,r,S',σ',β',h1,h2,h3,h4,h5,h6⟩=>⟨v,r,S',σ',β',h1,h2,h3,h4,h5,hp _ _ h6⟩⟩
theorem DK{f:FuncId}{args:List V}{s:St}{dst:Option Nat}{K:St->Prop}{r:V}(h:bq P f (args.map V.sZ) r)(hK:K (St.put s dst r)):xV P f args s dst K:=
 .inl ⟨_,(h s.st).sZ,fun r' S' hp=>by rw[hp.1,hp.2];exact hK⟩
theorem lq{c:Code}{Q:Exit->St->Prop}{tm:List (Nat×V)}{own:List Obj}{Ω:Store}(t aY:Nat)(es:List (List D))(hv:look tm t=.c (.bI es))(hes:∀e∈es,e.length=aY)
 (h:AW P N c Q ⟨(t,.c (.bX (0,own.length) es))::tm,(own++[.tok aY es])::Ω⟩):AW P N c Q ⟨tm,own::Ω⟩:=by
 refine lU h fun a w σ β hR=> ?_;obtain⟨bo,bΩ,rfl,hlen⟩:=frames hR;have ht:=hR.T t;rw[hv] at ht;obtain⟨⟨hd,ad,n,hval⟩,hone⟩:=ht
 have hn:n=es.length:=by rw[hval] at hd;cases hd<;>rfl
 have hg:Grow w σ w σ:=Grow.refl hR.S.live
 obtain⟨hS',hk,hst⟩:=hR.S.push (o:=.tok aY es) (h:=a.tmps.getD t undef) hg hlen ⟨hd,hes,ad,n,by rw[hval,hn],by omega,.inl hn⟩ (fun b hb=>by
  rw[hval,hn] at hb
  cases ad<;>simp[owns,blk] at hb)
 refine⟨σ,_,⟨hR.size,hR.defers,hS',fun u=> ?_⟩,hst,Keep.refl _ _⟩;show dP w σ _ _ (if t=u then _ else look tm u) _;by_cases e:t=u
 ·subst e;rw[if_pos rfl];refine⟨⟨hd,_,dH _ _ _,fun a b e=> ?_⟩,hone⟩;obtain⟨_,rfl⟩:=pX (lab:=none) e;exact⟨Nat.le_refl _,fun _=>by rw[<-hlen,dH]⟩
 ·rw[if_neg e];exact(hR.T u).mono (eD.refl _ _) hk
theorem Ua{c:Code}{Q:Exit->St->Prop}{tm:List (Nat×V)}{Ω:Store}(n:Nat)(h:AW P N c Q ⟨tm,[.seed n]::Ω⟩):AW P N c Q ⟨tm,[]::Ω⟩:=by
 refine lU h fun a w σ β hR=> ?_;obtain⟨bo,bΩ,rfl,hlen⟩:=frames hR;obtain⟨hS',hk,hst⟩:=hR.S.push (o:=.seed n) (h:=undef) (Grow.refl hR.S.live) hlen trivial (fun b hb=>by cases hb);exact⟨σ,_,⟨hR.size,hR.defers,hS',fun u=>(hR.T u).mono (eD.refl _ _) hk⟩,hst,Keep.refl _ _⟩
theorem Fz{tm:List (Nat×V)}{own:List Obj}{Ω:Store}{m:Nat}(n:Nat):gK N ⟨tm,(.seed m::own)::Ω⟩ ⟨tm,(.seed n::own)::Ω⟩:=by
 intro a w σ β hR;obtain⟨bo,bΩ,rfl,hlen⟩:=frames hR;have h0:bg ((Obj.seed m::own)::Ω) (0,0)=some (.seed m):=rfl;obtain⟨h,hh,_⟩:=hR.S.obj (0,0) _ h0;obtain⟨hS',hk,hst⟩:=hR.S.set (o':=.seed n) (h':=h) h0 hh (Nat.le_refl _) rfl rfl (eD.refl _ _) hR.S.live (fun _ _ _=>⟨rfl,rfl⟩) (.inr ⟨n,rfl⟩) trivial (fun b hb=>by cases hb);have e:aX (bo::bΩ) (0,0) h=bo::bΩ:=E8 h _ _ _ hh;rw[e] at hS' hk hst;exact⟨σ,_,⟨hR.size,hR.defers,hS',fun u=>(hR.T u).mono (eD.refl _ _) hk⟩,hst,Keep.refl _ _⟩
theorem Yr{c:Code}{Q:Exit->St->Prop}{tm:List (Nat×V)}{own:List Obj}{Ω:Store}{m:Nat}(n:Nat)(h:AW P N c Q ⟨tm,(.seed n::own)::Ω⟩):AW P N c Q ⟨tm,(.seed m::own)::Ω⟩:=lU h (Fz n)
def oH(n:Nat)(k:Key):Bool:=decide (0<k.1)||decide (k.2<n)
def C.refs(n:Nat):C->Bool
 | .bX k _=>oH n k
 | .ptr k _=>oH n k
 | .kI k _ _=>oH n k
 | .iH k=>oH n k
 | .mp k=>oH n k
 | .fn _ caps=>caps.all fun x=>oH n x.1
 | .xp k _ _=>oH n k
 | .xq k _ _ _ _ _=>oH n k
 |_=>true
def V.refs(n:Nat):V->Bool
 | .c x=>x.refs n
 | .agg cs=>cs.all (C.refs n)
 | .eH xs=>xs.all fun y=>y.2.all (C.refs n)
 | .any=>true
def Obj.refs(n:Nat):Obj->Bool
 | .box cs=>cs.all (C.refs n)
 |_=>true
theorem iV{α:Type}{own:List α}{Ω:List (List α)}{n:Nat}{k:Key}(h:oH n k=true):bg (own.take n::Ω) k=bg (own::Ω) k:=by
 obtain⟨l,j⟩:=k
 cases l with
 |zero=>
  simp[oH] at h;rw[bD,bD,List.getElem?_take_of_lt h]
 |succ l=>rw[bY,bY]
theorem lV{α:Type}{own:List α}{Ω:List (List α)}{n:Nat}{k:Key}{o:α}(h:bg (own.take n::Ω) k=some o):bg (own::Ω) k=some o/\oH n k=true:=by
 obtain⟨l,j⟩:=k
 cases l with
 |zero=>
  rw[bD] at h ⊢;have hj:=(List.getElem?_eq_some_iff.1 h).1;simp at hj;rw[List.getElem?_take_of_lt (by omega)] at h;exact⟨h,by simp[oH];omega⟩
 |succ l=>rw[bY] at h ⊢;exact⟨h,by simp[oH]⟩
theorem FB{own:List Obj}{Ω:Store}{bo:List Value}{bΩ:Hs}{n:Nat}{c:C}{v:Value}(hr:c.refs n=true)(h:gF w σ (own::Ω) (bo::bΩ) c v):gF w σ (own.take n::Ω) (bo.take n::bΩ) c v:=by
 cases c with
 |d x=>exact h
 |any=>exact h
 |bI es=>exact h
 |kV cs=>exact h
 |bX k es=>
  obtain⟨h1,o,ho,h2⟩:=h;exact⟨h1,o,(iV hr).trans ho,fun a b e=>by rw[iV hr];exact h2 a b e⟩
 |ptr k off=>
  obtain⟨o,ho,h2⟩:=h;exact⟨o,(iV hr).trans ho,fun a e=>by rw[iV hr];exact h2 a e⟩
 |kI k i off=>
  obtain⟨o,ho,h2⟩:=h;exact⟨o,(iV hr).trans ho,fun a b e=>by rw[iV hr];exact h2 a b e⟩
 |iH k=>
  obtain⟨o,ho,h2⟩:=h;exact⟨o,(iV hr).trans ho,fun a b e=>by rw[iV hr];exact h2 a b e⟩
 |mp k=>
  obtain⟨o,ho,h2⟩:=h;exact⟨o,(iV hr).trans ho,fun a e=>by rw[iV hr];exact h2 a e⟩
 |fn f caps=>
  obtain⟨vs,hv,hl,h2⟩:=h;refine⟨vs,hv,hl,fun j k off e=> ?_⟩;obtain⟨u,hu,h1c,o,ho,h3⟩:=h2 j k off e;have hk:oH n k=true:=List.all_eq_true.1 hr (k,off) (List.mem_of_getElem? e);exact⟨u,hu,h1c,o,(iV hk).trans ho,fun cs e=>by rw[iV hk];exact h3 cs e⟩
 |nu m es=>exact h
 |xp k r p=>
  obtain⟨o,ho,h2⟩:=h;exact⟨o,(iV hr).trans ho,fun a e=>by rw[iV hr];exact h2 a e⟩
 |xq k r p z i off=>
  obtain⟨o,ho,h2⟩:=h;exact⟨o,(iV hr).trans ho,fun a e=>by rw[iV hr];exact h2 a e⟩
theorem DL{own:List Obj}{Ω:Store}{bo:List Value}{bΩ:Hs}{n:Nat}{cs:List C}{vs:List Value}(hr:cs.all (C.refs n)=true)(h:fD w σ (own::Ω) (bo::bΩ) cs vs):fD w σ (own.take n::Ω) (bo.take n::bΩ) cs vs:=
 ⟨h.1,fun j x hx=>let⟨v,hv,hc,ho⟩:=h.2 j x hx;⟨v,hv,FB (List.all_eq_true.1 hr x (List.mem_of_getElem? hx)) hc,ho⟩⟩
theorem Yt{own:List Obj}{Ω:Store}{bo:List Value}{bΩ:Hs}{n:Nat}{x:V}{v:Value}(hr:x.refs n=true)(h:dP w σ (own::Ω) (bo::bΩ) x v):dP w σ (own.take n::Ω) (bo.take n::bΩ) x v:=by
 cases x with
 |c x=>exact⟨FB hr h.1,h.2⟩
 |agg cs=>obtain⟨ar,ha,hc⟩:=h;exact⟨ar,ha,DL hr hc⟩
 |eH xs=>
  obtain⟨ar,ha,hl,h2⟩:=h;refine⟨ar,ha,hl,fun j y hy=> ?_⟩;obtain⟨u,hu,h3⟩:=h2 j y hy;have hy':y.2.all (C.refs n)=true:=List.all_eq_true.1 hr y (List.mem_of_getElem? hy);refine⟨u,hu,?_⟩;obtain⟨b,cs⟩:=y
  cases b with
  |true=>obtain⟨a',e,hcs⟩:=h3;exact⟨a',e,DL hy' hcs⟩
  |false=>
   obtain⟨x,e,hx,ho⟩:=h3;subst e;simp at hy';exact⟨x,rfl,FB hy' hx,ho⟩
 |any=>trivial
def ny(n:Nat)(tm:List (Nat×V)):Bool:=tm.all fun x=>x.2.refs n
theorem M8{n:Nat}:∀(tm:List (Nat×V))(t:Nat),ny n tm=true->(look tm t).refs n=true
 |[],_,_=>rfl
 |(x,v)::tm,t,h=>by
  simp only[ny,List.all_cons,Bool.and_eq_true] at h;rw[look];split
  ·exact h.1
  ·exact M8 tm t h.2
theorem J3{tm:List (Nat×V)}{own:List Obj}{Ω:Store}(n:Nat)(h1:ny n tm=true)(h2:(own.take n).all (Obj.refs n)=true):gK N ⟨tm,own::Ω⟩ ⟨tm,own.take n::Ω⟩:=by
 intro a w σ β hR;obtain⟨bo,bΩ,rfl,hlen⟩:=frames hR
 have hown:∀b,Own (own.take n::Ω) (bo.take n::bΩ) b->Own (own::Ω) (bo::bΩ) b:=by
  rintro b ⟨k,o,hv,e1,e2,e3⟩;exact⟨k,o,hv,(lV e1).1,(lV e2).1,e3⟩
 refine⟨σ,bo.take n::bΩ,⟨hR.size,hR.defers,⟨fun k o ho=> ?_,fun k k' o o' h1 h2 b e1 e2 e3 e4 e5 e6=> ?_,⟨by have:=hR.S.shape.1;simpa using this,fun l fr hl=> ?_⟩,hR.S.live,hR.S.vQ⟩,fun t=>Yt (M8 tm t h1) (hR.T t)⟩,
  ⟨Nat.le_refl _,rfl,rfl,fun _ _ _=>⟨rfl,rfl⟩,eD.refl _ _,fun b hb=>.inl (hown b hb)⟩,Keep.refl _ _⟩
 ·obtain⟨ho',hk⟩:=lV ho;obtain⟨hv,hh,hr⟩:=hR.S.obj k o ho';refine⟨hv,(iV hk).trans hh,?_⟩;obtain⟨l,j⟩:=k
  cases l with
  |zero=>
   cases o with
   |dead=>trivial
   |box cs=>
    obtain⟨b,cc,t,e,hb,hs,hc⟩:=hr;rw[bD] at ho;have hcs:cs.all (C.refs n)=true:=List.all_eq_true.1 h2 (.box cs) (List.mem_of_getElem? ho);exact⟨b,cc,t,e,hb,hs,DL hcs hc⟩
   |tok=>exact hr
   |eO=>exact hr
   |mp=>exact hr
   |jg=>exact hr
   |seed=>exact hr
   |xf=>exact hr
  |succ l=>exact hr
 ·exact hR.S.apart k k' o o' h1 h2 b (lV e1).1 (lV e2).1 e3 (lV e4).1 (lV e5).1 e6
 ·cases l with
  |zero=>
   simp at hl;subst hl;exact⟨_,rfl,by simp[hlen]⟩
  |succ l=>exact hR.S.shape.2 (l+1) fr hl
def C.l9(j:Nat)(es:List (List D)):C->C
 | .iH (0,i)=>if i=j then .d (.sl es) else .iH (0,i)
 |c=>c
def V.l9(j:Nat)(es:List (List D)):V->V
 | .c x=>.c (x.l9 j es)
 | .agg cs=>.agg (cs.map (C.l9 j es))
 | .eH xs=>.eH (xs.map fun y=>(y.1,y.2.map (C.l9 j es)))
 | .any=>.any
def Obj.l9(j:Nat)(es:List (List D)):Obj->Obj
 | .box cs=>.box (cs.map (C.l9 j es))
 |o=>o
theorem DN{f:V->V}(hf:f .any=.any):∀(tm:List (Nat×V))(t:Nat),look (tm.map fun x=>(x.1,f x.2)) t=f (look tm t)
 |[],_=>hf.symm
 |(x,v)::tm,t=>by
  show(if x=t then f v else look (tm.map fun x=>(x.1,f x.2)) t)=f (if x=t then v else look tm t);split
  ·rfl
  ·exact DN hf tm t
def V.j4(f:C->C):V->V
 | .c x=>.c (f x)
 | .agg cs=>.agg (cs.map f)
 | .eH xs=>.eH (xs.map fun y=>(y.1,y.2.map f))
 | .any=>.any
def Obj.j4(f:C->C):Obj->Obj
 | .box cs=>.box (cs.map f)
 |o=>o
theorem wu{f:C->C}{own:List Obj}{j i:Nat}:((own.map (Obj.j4 f)).set j .dead)[i]? =if i=j then(if j<own.length then some .dead else none) else(own[i]?).map (Obj.j4 f):=by
 rw[List.getElem?_set];by_cases e:j=i
 ·subst e;simp
 ·rw[if_neg e,if_neg (Ne.symm e),List.getElem?_map]
theorem vD{f:C->C}{own:List Obj}{Ω:Store}{j:Nat}{oj:Obj}(hj:own[j]? =some oj){k:Key}{o:Obj}(hk:bg (own::Ω) k=some o):
 ∃o',bg ((own.map (Obj.j4 f)).set j .dead::Ω) k=some o'/\((k=(0,j)/\o'=.dead)\/(k≠(0,j)/\(o'=o\/o'=o.j4 f))):=by
 obtain⟨l,i⟩:=k
 cases l with
 |zero=>
  rw[bD] at hk;by_cases e:i=j
  ·subst e;refine⟨.dead,?_,.inl ⟨rfl,rfl⟩⟩;rw[bD,wu,if_pos rfl,if_pos (List.getElem?_eq_some_iff.1 hj).1]
  ·refine⟨o.j4 f,?_,.inr ⟨fun x=>e (by cases x;rfl),.inr rfl⟩⟩;rw[bD,wu,if_neg e,hk];rfl
 |succ l=>exact⟨o,by rw[bY] at hk ⊢;exact hk,.inr ⟨by simp,.inl rfl⟩⟩
theorem qJ{f:C->C}{o o':Obj}(h:o'=o\/o'=o.j4 f):(∀z es,qP o' z es->qP o z es)/\(∀z es,o'=.eO z es->o=.eO z es)/\(∀m,o'=.mp m->o=.mp m)/\(∀cs,o'=.box cs->∃cs',o=.box cs')/\(∀rs,o'=.xf rs->o=.xf rs):=by
 rcases h with rfl|rfl
 ·exact⟨fun _ _ h=>h,fun _ _ h=>h,fun _ h=>h,fun cs h=>⟨cs,h⟩,fun _ h=>h⟩
 ·cases o<;>simp[Obj.j4,qP]
theorem J4{f:C->C}{own:List Obj}{Ω:Store}{bo:List Value}{bΩ:Hs}{j:Nat}{oj:Obj}(hj:own[j]? =some oj)(hn:eD w σ w σ'){c:C}{v:Value}(hc:gF w σ (own::Ω) (bo::bΩ) c v):
 gF w σ' ((own.map (Obj.j4 f)).set j .dead::Ω) (bo::bΩ) c v:=by
 cases c with
 |d x=>exact dM.mono hn hc
 |any=>trivial
 |bI es'=>exact⟨dM.mono hn hc.1,hc.2⟩
 |nu n es'=>exact⟨dM.mono hn hc.1,hc.2⟩
 |kV cs=>obtain⟨ad,h1,h2⟩:=hc;exact⟨ad,h1,h2.mono hn⟩
 |bX k es'=>
  obtain⟨h1,o,ho,h2⟩:=hc;obtain⟨o',ho',hcase⟩:=vD hj ho;refine⟨dM.mono hn h1,o',ho',fun z e4 e=> ?_⟩;rcases hcase with⟨_,e'⟩|⟨_,e'⟩
  ·rw[e'] at e;rcases e with e|⟨_,e⟩<;>cases e
  ·exact h2 _ _ ((qJ e').1 _ _ e)
 |ptr k off=>
  obtain⟨o,ho,h2⟩:=hc;obtain⟨o',ho',hcase⟩:=vD hj ho;refine⟨o',ho',fun cs e=> ?_⟩;rcases hcase with⟨_,e'⟩|⟨_,e'⟩
  ·rw[e'] at e;cases e
  ·obtain⟨cs',e''⟩:=(qJ e').2.2.2.1 _ e;exact h2 _ e''
 |kI k i off=>
  obtain⟨o,ho,h2⟩:=hc;obtain⟨o',ho',hcase⟩:=vD hj ho;refine⟨o',ho',fun z e4 e=> ?_⟩;rcases hcase with⟨_,e'⟩|⟨_,e'⟩
  ·rw[e'] at e;cases e
  ·exact h2 _ _ ((qJ e').2.1 _ _ e)
 |iH k=>
  obtain⟨o,ho,h2⟩:=hc;obtain⟨o',ho',hcase⟩:=vD hj ho;refine⟨o',ho',fun z e4 e=> ?_⟩;rcases hcase with⟨_,e'⟩|⟨_,e'⟩
  ·rw[e'] at e;cases e
  ·exact h2 _ _ ((qJ e').2.1 _ _ e)
 |mp k=>
  obtain⟨o,ho,h2⟩:=hc;obtain⟨o',ho',hcase⟩:=vD hj ho;refine⟨o',ho',fun m e=> ?_⟩;rcases hcase with⟨_,e'⟩|⟨_,e'⟩
  ·rw[e'] at e;cases e
  ·exact h2 _ ((qJ e').2.2.1 _ e)
 |fn f caps=>
  obtain⟨vs,hv,hl,h2⟩:=hc;refine⟨vs,hv,hl,fun i k off e=> ?_⟩;obtain⟨u,hu,h1c,o,ho,h3⟩:=h2 i k off e;obtain⟨o',ho',hcase⟩:=vD hj ho;refine⟨u,hu,h1c,o',ho',fun cs e=> ?_⟩;rcases hcase with⟨_,e'⟩|⟨_,e'⟩
  ·rw[e'] at e;cases e
  ·obtain⟨cs',e''⟩:=(qJ e').2.2.2.1 _ e;exact h3 _ e''
 |xp k r p=>
  obtain⟨o,ho,h2⟩:=hc;obtain⟨o',ho',hcase⟩:=vD hj ho;refine⟨o',ho',fun rs e=> ?_⟩;rcases hcase with⟨_,e'⟩|⟨_,e'⟩
  ·rw[e'] at e;cases e
  ·exact h2 _ ((qJ e').2.2.2.2 _ e)
 |xq k r p z i off=>
  obtain⟨o,ho,h2⟩:=hc;obtain⟨o',ho',hcase⟩:=vD hj ho;refine⟨o',ho',fun rs e=> ?_⟩;rcases hcase with⟨_,e'⟩|⟨_,e'⟩
  ·rw[e'] at e;cases e
  ·exact h2 _ ((qJ e').2.2.2.2 _ e)
theorem P7{f:C->C}{tm:List (Nat×V)}{own:List Obj}{Ω:Store}{bo:List Value}{bΩ:Hs}(j:Nat){oj:Obj}{hj:Value}(hoj:own[j]? =some oj)(hbj:bo[j]? =some hj)(hR:jH N ⟨tm,own::Ω⟩ a w σ (bo::bΩ))(hlen:bo.length=own.length)
 (hn:eD w σ w σ')(hch:∀x,¬owns oj hj x->σ' x=σ x)(hlive:∀x,x<w.heap.size\/σ' x=0)
 (hC:∀(c:C) (v:Value),gF w σ (own::Ω) (bo::bΩ) c v->gF w σ' ((own.map (Obj.j4 f)).set j .dead::Ω) (bo::bΩ) (f c) v):
 jH N ⟨tm.map fun x=>(x.1,x.2.j4 f),(own.map (Obj.j4 f)).set j .dead::Ω⟩ a w σ' (bo::bΩ)/\Step (own::Ω) (bo::bΩ) σ w ((own.map (Obj.j4 f)).set j .dead::Ω) (bo::bΩ) σ' w:=by
 have OC:∀k o,bg ((own.map (Obj.j4 f)).set j .dead::Ω) k=some o->(k=(0,j)/\o=.dead)\/(k≠(0,j)/\∃o0,bg (own::Ω) k=some o0/\(o=o0\/o=o0.j4 f)/\(0<k.1->o=o0)/\∀h b,owns o h b<->owns o0 h b):=by
  intro k o hk;obtain⟨l,i⟩:=k
  cases l with
  |zero=>
   rw[bD,wu] at hk;by_cases e:i=j
   ·subst e;rw[if_pos rfl,if_pos (List.getElem?_eq_some_iff.1 hoj).1] at hk;cases hk;exact .inl ⟨rfl,rfl⟩
   ·rw[if_neg e] at hk
    cases ho:own[i]? with
    |none=>rw[ho] at hk;cases hk
    |some o0=>
     rw[ho] at hk;cases hk;refine .inr ⟨fun x=>e (by cases x;rfl),o0,by rw[bD];exact ho,.inr rfl,fun h=>absurd h (by simp),fun h b=> ?_⟩
     cases o0 with
     |box cs=>cases h<;>first|exact Iff.rfl|(rename_i x;cases x<;>exact Iff.rfl)
     |_=>exact Iff.rfl
  |succ l=>rw[bY] at hk;exact .inr ⟨by simp,o,by rw[bY];exact hk,.inl rfl,fun _=>rfl,fun _ _=>Iff.rfl⟩
 have hCs:∀(cs:List C)(vs:List Value),fD w σ (own::Ω) (bo::bΩ) cs vs->fD w σ' ((own.map (Obj.j4 f)).set j .dead::Ω) (bo::bΩ) (cs.map f) vs:=by
  intro cs vs hc;refine⟨by simpa using hc.1,fun i x hx=> ?_⟩;rw[List.getElem?_map] at hx
  cases hci:cs[i]? with
  |none=>rw[hci] at hx;cases hx
  |some y=>
   rw[hci] at hx;cases hx;obtain⟨v,hv,hr,ho⟩:=hc.2 i y hci;exact⟨v,hv,hC y v hr,ho⟩
 have hother:∀k o h x,k≠(0,j)->bg (own::Ω) k=some o->bg (bo::bΩ) k=some h->owns o h x->σ' x=σ x:=by
  intro k o h x hk e1 e2 e3;refine hch x fun e4=>hk ?_;exact hR.S.apart k (0,j) o _ h _ x e1 e2 e3 (by rw[bD];exact hoj) (by rw[bD];exact hbj) e4
 refine⟨⟨hR.size,hR.defers,⟨fun k o ho=> ?_,fun k k' o o' h1 h2 b' e1 e2 e3 e4 e5 e6=> ?_,⟨by have:=hR.S.shape.1;simpa using this,fun l fr hl=> ?_⟩,hlive,hR.S.vQ.near hn⟩,fun t=> ?_⟩,⟨Nat.le_refl _,rfl,rfl,fun x hx hno=>⟨rfl,?_⟩,hn,fun x hx=> ?_⟩⟩
 ·rcases OC k o ho with⟨rfl,rfl⟩|⟨hk,o0,h0,hcase,hl0,how⟩
  ·exact⟨_,by rw[bD];exact hbj,trivial⟩
  ·obtain⟨hv,hhv,hr⟩:=hR.S.obj k o0 h0;refine⟨hv,hhv,?_⟩;have hbk:∀x,owns o0 hv x->w.heap[x]? =w.heap[x]? /\σ' x=σ x:=fun x e=>⟨rfl,hother k o0 hv x hk h0 hhv e⟩;obtain⟨l,i⟩:=k
   cases l with
   |succ l=>
    rw[hl0 (by simp)];exact gJ.mono hn (Keep.refl _ _) hbk hr
   |zero=>
    cases o0 with
    |box cs=>
     obtain⟨b',cc',t',e',hb',hs',hc'⟩:=hr;subst e'
     have he:o=.box (cs.map f):=by
      rw[bD,wu] at ho;rw[bD] at h0;split at ho
      ·rename_i e;exact absurd (by rw[e]) hk
      ·rw[h0] at ho;cases ho;rfl
     rw[he];exact⟨b',cc',t',rfl,hb',(hbk b' rfl).2.trans hs',hCs _ _ hc'⟩
    |dead=>rcases hcase with rfl|rfl<;>trivial
    |tok z es'=>
     have:o=.tok z es':=by rcases hcase with rfl|rfl<;>rfl
     rw[this];exact gJ.mono (S:=[]) (β:=[]) (o:=(.tok z es')) hn (Keep.refl [] []) hbk hr
    |eO z es'=>
     have:o=.eO z es':=by rcases hcase with rfl|rfl<;>rfl
     rw[this];exact gJ.mono (S:=[]) (β:=[]) (o:=(.eO z es')) hn (Keep.refl [] []) hbk hr
    |mp m=>
     have:o=.mp m:=by rcases hcase with rfl|rfl<;>rfl
     rw[this];exact gJ.mono (S:=[]) (β:=[]) (o:=(.mp m)) hn (Keep.refl [] []) hbk hr
    |jg n z es'=>
     have:o=.jg n z es':=by rcases hcase with rfl|rfl<;>rfl
     rw[this];exact gJ.mono (S:=[]) (β:=[]) (o:=(.jg n z es')) hn (Keep.refl [] []) hbk hr
    |seed n=>rcases hcase with rfl|rfl<;>trivial
    |xf rs=>
     have:o=.xf rs:=by rcases hcase with rfl|rfl<;>rfl
     rw[this];exact gJ.mono (S:=[]) (β:=[]) (o:=(.xf rs)) hn (Keep.refl [] []) hbk hr
 ·rcases OC k o e1 with⟨rfl,rfl⟩|⟨hk,o0,f1,_,_,f2⟩
  ·cases e3
  ·rcases OC k' o' e4 with⟨rfl,rfl⟩|⟨hk',o0',g1,_,_,g2⟩
   ·cases e6
   ·exact hR.S.apart k k' o0 o0' h1 h2 b' f1 e2 ((f2 _ _).1 e3) g1 e5 ((g2 _ _).1 e6)
 ·cases l with
  |zero=>
   simp at hl;subst hl;exact⟨_,rfl,by simp[hlen]⟩
  |succ l=>exact hR.S.shape.2 (l+1) fr hl
 ·show dP w σ' ((own.map (Obj.j4 f)).set j .dead::Ω) (bo::bΩ) (look (tm.map fun x=>(x.1,x.2.j4 f)) t) _;rw[DN (f:=V.j4 f) rfl];have ht:=hR.T t
  cases hx:look tm t with
  |c x=>rw[hx] at ht;exact⟨hC x _ ht.1,ht.2⟩
  |agg cs=>rw[hx] at ht;obtain⟨ar,e,hc⟩:=ht;exact⟨ar,e,hCs _ _ hc⟩
  |eH xs=>
   rw[hx] at ht;obtain⟨ar,e,hl,h2⟩:=ht;refine⟨ar,e,by simpa using hl,fun i y hy=> ?_⟩;rw[List.getElem?_map] at hy
   cases hxi:xs[i]? with
   |none=>rw[hxi] at hy;cases hy
   |some z=>
    rw[hxi] at hy;cases hy;obtain⟨u,hu,h3⟩:=h2 i z hxi;refine⟨u,hu,?_⟩;obtain⟨bb,cs⟩:=z
    cases bb with
    |true=>obtain⟨a',e',hcs⟩:=h3;exact⟨a',e',hCs _ _ hcs⟩
    |false=>
     obtain⟨x,e',hxr,ho⟩:=h3;subst e';exact⟨_,rfl,hC x _ hxr,ho⟩
  |any=>trivial
 ·exact hch x fun e=>hno ⟨(0,j),_,_,by rw[bD];exact hoj,by rw[bD];exact hbj,e⟩
 ·left;obtain⟨k,o,h1,e1,e2,e3⟩:=hx;rcases OC k o e1 with⟨rfl,rfl⟩|⟨hk,o0,f1,_,_,f2⟩
  ·cases e3
  ·exact⟨k,o0,h1,f1,e2,(f2 _ _).1 e3⟩
theorem abx{j:Nat}{es:List (List D)}:Obj.l9 j es=Obj.j4 (C.l9 j es):=by funext o;cases o<;>rfl
theorem aby{j:Nat}{es:List (List D)}:V.l9 j es=V.j4 (C.l9 j es):=by funext v;cases v<;>rfl
theorem ae9{tm:List (Nat×V)}{own:List Obj}{Ω:Store}(j:Nat)(aY:Nat)(es:List (List D))(hj:own[j]? =some (.eO aY es))(hR:jH N ⟨tm,own::Ω⟩ a w σ β):
 ∃σ' β',jH N ⟨tm.map fun x=>(x.1,x.2.l9 j es),(own.map (Obj.l9 j es)).set j .dead::Ω⟩ a w σ' β'/\Step (own::Ω) β σ w ((own.map (Obj.l9 j es)).set j .dead::Ω) β' σ' w/\
  Keep (gB (own::Ω)) (gB β) (gB ((own.map (Obj.l9 j es)).set j .dead::Ω)) (gB β'):=by
 obtain⟨bo,bΩ,rfl,hlen⟩:=frames hR;obtain⟨hh,hb,hr⟩:=hR.S.obj (0,j) _ (by rw[bD];exact hj);rw[bD] at hb
 obtain⟨σ',hn,hch,hlive,hdata⟩:∃σ',eD w σ w σ'/\(∀x,¬owns (.eO aY es) hh x->σ' x=σ x)/\(∀x,x<w.heap.size\/σ' x=0)/\dM w σ' (.sl es) hh:=by
  obtain⟨hle,ad,cap,rfl,hcap,h4⟩:=hr;by_cases h0:cap=0
  ·obtain rfl:es=[]:=List.eq_nil_of_length_eq_zero (by omega);exact⟨σ,eD.refl _ _,fun _ _=>rfl,hR.S.live,.nil _ _⟩
  rcases h4 with h4|⟨b,cc,ty,rfl,hbc,hσ,hcz,hcells⟩
  ·exact absurd h4 h0
  have hsz:es.length*aY<=cc.size:=Nat.le_trans (Nat.mul_le_mul_right _ hcap) hcz
  let σ':Nat->Nat:=fun x=>if x=b then es.length*aY else σ x
  have hn:eD w σ w σ':=by
   intro b1 c1 t1 EF e1;by_cases e:b1=b
   ·subst e;rw[hbc] at e1;cases e1;exact⟨by simp only[σ',if_true];omega,fun h=>by omega,cc,hbc,rfl,fun _ _=>rfl⟩
   ·exact⟨by simp only[σ',if_neg e];exact Nat.le_refl _,fun _=>if_neg e,c1,e1,rfl,fun _ _=>rfl⟩
  refine⟨σ',hn,fun x hx=>if_neg fun e=>hx (by subst e;simp[owns,blk,h0]),fun x=> ?_,?_⟩
  ·by_cases e:x=b
   ·left;subst e;exact lt_of_some hbc
   ·simp only[σ',if_neg e];exact hR.S.live x
  ·have hfl:=jc es aY hle;refine .sl b 0 cap aY es (fun i=>(cc[i]?).getD undef) cc ty (0,0) hcap hle hbc (by simp[σ']) (fun i hi=> ?_) (fun i d hd=> ?_)
   ·obtain⟨v,hv,_⟩:=hcells i _ (List.getElem?_eq_getElem (by omega));simp[hv]
   ·obtain⟨v,hv,hr⟩:=hcells i d hd;simp only[hv,Option.getD_some];exact hr.mono hn
 rw[abx,aby]
 have:=P7 (f:=C.l9 j es) j hj hb hR hlen hn hch hlive (fun c v hc=>by
  by_cases hm:c=.iH (0,j)
  ·subst hm;obtain⟨o,ho,h2⟩:=hc;rw[bD,hj] at ho;cases ho;have hv:=h2 _ _ rfl;rw[bD,hb] at hv;cases hv;simp only[C.l9,if_true];exact hdata
  ·have hfr:C.l9 j es c=c:=by
    cases c with
    |iH k=>
     obtain⟨l,i⟩:=k
     cases l with
     |zero=>simp only[C.l9];rw[if_neg (fun e=>hm (by rw[e]))]
     |succ l=>rfl
    |_=>rfl
   rw[hfr]
   exact J4 hj hn hc)
 exact⟨σ',_,this.1,this.2,Keep.refl _ _⟩
def C.lab(row:Bool)(j n:Nat)(es:List (List D)):C->C
 | .iH (0,i)=>if i=j/\row=true then .d (.ol n es) else .iH (0,i)
 | .bX (0,i) es'=>if i=j/\row=false/\es'.length=es.length then .d (.ol n es) else .bX (0,i) es'
 |c=>c
def J5(row:Bool)(n aY:Nat)(es:List (List D)):Obj:=match row with|true=>.eO aY es|false=>.jg n aY es
theorem Ub{tm:List (Nat×V)}{own:List Obj}{Ω:Store}(j n:Nat)(aY:Nat)(es:List (List D))(row:Bool)(hj:own[j]? =some (J5 row n aY es))(hR:jH N ⟨tm,own::Ω⟩ a w σ β):
 ∃σ' β',jH N ⟨tm.map fun x=>(x.1,x.2.j4 (C.lab row j n es)),(own.map (Obj.j4 (C.lab row j n es))).set j .dead::Ω⟩ a w σ' β'/\Step (own::Ω) β σ w ((own.map (Obj.j4 (C.lab row j n es))).set j .dead::Ω) β' σ' w/\
  Keep (gB (own::Ω)) (gB β) (gB ((own.map (Obj.j4 (C.lab row j n es))).set j .dead::Ω)) (gB β'):=by
 obtain⟨bo,bΩ,rfl,hlen⟩:=frames hR
 have key:∃hh σ',bo[j]? =some hh/\eD w σ w σ'/\(∀x,¬owns (J5 row n aY es) hh x->σ' x=σ x)/\(∀x,x<w.heap.size\/σ' x=0)/\dM w σ' (.ol n es) hh:=by
  have Yu:∀(b off cap:Nat)(c:Array Value)(t:TypeId),w.heap[b]? =some (.cells c t (0,0))->σ b<=c.size->(∀e∈es,e.length=aY)->off+es.length*aY<=c.size->es.length<=cap->off=0/\cap*aY<=c.size->
   (∀(i:Nat)(d:D),es.flatten[i]? =some d->∃v,c[off+i]? =some v/\dM w σ d v)->
   eD w σ w (fun x=>if x=b then c.size+1+n else σ x)/\(∀x,x<w.heap.size\/(fun x=>if x=b then c.size+1+n else σ x) x=0)/\dM w (fun x=>if x=b then c.size+1+n else σ x) (.ol n es) (.slice (some ⟨b,off,none⟩) es.length cap):=by
   intro b off cap c t hb hσ hle hsz hcap hx hcells
   have hn:eD w σ w (fun x=>if x=b then c.size+1+n else σ x):=by
    intro b1 c1 t1 EF e1;by_cases e:b1=b
    ·subst e;rw[hb] at e1;cases e1;exact⟨by simp only[if_true];omega,fun h=>by omega,c,hb,rfl,fun _ _=>rfl⟩
    ·exact⟨by simp only[if_neg e];exact Nat.le_refl _,fun _=>if_neg e,c1,e1,rfl,fun _ _=>rfl⟩
   refine⟨hn,fun x=> ?_,?_⟩
   ·by_cases e:x=b
    ·left;subst e;exact lt_of_some hb
    ·simp only[if_neg e];exact hR.S.live x
   ·have hfl:=jc es aY hle;refine .ol n b off cap aY es (fun i=>(c[off+i]?).getD undef) c t hcap hle hb (by simp) hsz (fun i hi=> ?_) (fun i d hd=> ?_) hx
    ·obtain⟨v,hv,_⟩:=hcells i _ (List.getElem?_eq_getElem (by omega));simp[hv]
    ·obtain⟨v,hv,hr⟩:=hcells i d hd;simp only[hv,Option.getD_some];exact hr.mono hn
  cases row with
  |true=>
   obtain⟨hh,hb,hr⟩:=hR.S.obj (0,j) _ (by rw[bD];exact hj);obtain⟨hle,ad,cap,rfl,hcap,h4⟩:=hr;rw[bD] at hb;by_cases h0:cap=0
   ·obtain rfl:es=[]:=List.eq_nil_of_length_eq_zero (by omega);exact⟨_,σ,hb,eD.refl _ _,fun _ _=>rfl,hR.S.live,.wZ _ _ _⟩
   rcases h4 with h4|⟨b,cc,ty,rfl,hbc,hσ,hcz,hcells⟩
   ·exact absurd h4 h0
   have hsz:es.length*aY<=cc.size:=Nat.le_trans (Nat.mul_le_mul_right _ hcap) hcz;obtain⟨k1,k2,k3⟩:=Yu b 0 cap cc ty hbc (by omega) hle (by omega) hcap ⟨rfl,hcz⟩ (fun i d hd=>by rw[Nat.zero_add];exact hcells i d hd);exact⟨_,_,hb,k1,fun x hx=>if_neg fun e=>hx (by subst e;simp[J5,owns,blk,h0]),k2,k3⟩
  |false=>
   obtain⟨hh,hb,hr⟩:=hR.S.obj (0,j) _ (by rw[bD];exact hj);obtain⟨h1,hle,ad,cap,rfl,hcap,hcase⟩:=hr;rw[bD] at hb;rcases hcase with⟨h4,h5⟩|⟨h4,b,off,c,t,rfl,hbc,hσ,hfit⟩
   ·exact⟨_,σ,hb,eD.refl _ _,fun _ _=>rfl,hR.S.live,h5⟩
   ·have hm:es.length*aY<=cap*aY:=Nat.mul_le_mul_right _ hcap
    obtain⟨k1,k2,k3⟩:=Yu b off cap c t hbc (by omega) hle (by omega) hcap ⟨by omega,by omega⟩ (fun i d hd=>by
     cases h1 with
     |nil=>simp at hd
     |sl b' off' cap' sG es vals c' t' Po q1 q2 q3 q4 q5 q6=>
      rw[hbc] at q3;cases q3;have hil:=(List.getElem?_eq_some_iff.1 hd).1;rw[jc es aY hle] at hil
      have he:sG=aY:=by
       cases es with
       |nil=>simp at hil
       |cons y ys=>rw[<-q2 y (by simp),hle y (by simp)]
      subst he
      exact⟨_,q5 i hil,q6 i d hd⟩)
    exact⟨_,_,hb,k1,fun x hx=>if_neg fun e=>hx (by subst e;simp[J5,owns,blk,h4]),k2,k3⟩
 obtain⟨hh,σ',hb,hn,hch,hlive,hdata⟩:=key
 have:=P7 (f:=C.lab row j n es) j hj hb hR hlen hn hch hlive (fun c v hc=>by
  by_cases hm:c=.iH (0,j)/\row=true
  ·obtain⟨rfl,rfl⟩:=hm;simp only[C.lab,and_self,if_true];obtain⟨o,ho,h2⟩:=hc;rw[bD,hj] at ho;cases ho;have hv:=h2 _ _ rfl;rw[bD,hb] at hv;cases hv;exact hdata
  ·by_cases ht:∃es',c=.bX (0,j) es'/\row=false/\es'.length=es.length
   ·obtain⟨es',rfl,rfl,hl⟩:=ht;simp only[C.lab,hl,and_self,if_true];obtain⟨h1,o,ho,h2⟩:=hc;rw[bD,hj] at ho;cases ho;have hv:=(h2 _ _ (.inr ⟨n,rfl⟩)).2 hl;rw[bD,hb] at hv;cases hv;exact hdata
   ·have hfr:C.lab row j n es c=c:=by
     cases c with
     |iH k=>
      obtain⟨l,i⟩:=k
      cases l with
      |zero=>simp only[C.lab];rw[if_neg (fun e=>hm ⟨by rw[e.1],e.2⟩)]
      |succ l=>rfl
     |bX k es'=>
      obtain⟨l,i⟩:=k
      cases l with
      |zero=>simp only[C.lab];rw[if_neg (fun e=>ht ⟨es',by rw[e.1],e.2⟩)]
      |succ l=>rfl
     |_=>rfl
    rw[hfr]
    exact J4 hj hn hc)
 exact⟨σ',_,this.1,this.2,Keep.refl _ _⟩
def J6(j:Nat)(s:St):St:=
 match s.st with
 |own::Ω=>match own[j]? with
  |some (.eO _ es)=>⟨s.tm.map fun x=>(x.1,x.2.l9 j es),(own.map (Obj.l9 j es)).set j .dead::Ω⟩
  |_=>s
 |[]=>s
def J7:Nat->St->St
 |0,s=>s
 |n+1,s=>J7 n (J6 n s)
def CP(s:St):St:=
 match s.st with
 |own::_=>J7 own.length s
 |[]=>s
theorem R6(j:Nat)(s:St):gK N s (J6 j s):=by
 obtain⟨tm,st⟩:=s
 cases st with
 |nil=>exact gK.refl _ _
 |cons own Ω=>
  unfold J6
  simp only
  split
  ·rename_i z es hj;exact fun a w σ β hR=>ae9 j z es hj hR
  ·exact gK.refl _ _
theorem H8:∀(n:Nat)(s:St),gK N s (J7 n s)
 |0,s=>gK.refl _ _
 |n+1,s=>(R6 n s).trans (H8 n _)
theorem tq(s:St):gK N s (CP s):=by
 unfold CP;split
 ·exact H8 _ _
 ·exact gK.refl _ _
theorem Ak{c:Code}{Q:Exit->St->Prop}{g:St->St}(hg:∀s,gK N s (g s))(h:AW P N c (fun e s'=>Q e (g s')) s):AW P N c Q s:=by
 intro a w σ β hR;refine wp_mono (h a w σ β hR) ?_;rintro e a' w' ⟨s',σ',β',k1,k2,k3,k4⟩;obtain⟨σ2,β2,r2,st2,kk2⟩:=hg s' a' w' σ' β' k1;exact⟨_,σ2,β2,r2,k2.trans st2,k3.trans kk2,k4⟩
end
section
variable {P:Program} {E:Md} {S S':Store} {N:Nat} {s:St}
def lookO(tm:List (Nat×V))(t:Option Nat):Option V:=t.map (look tm)
theorem P8{tm:List (Nat×V)}{t:Option Nat}:lookO tm t=t.map (look tm):=rfl
theorem Vq{tm:List (Nat×V)}{t:Nat}:lookO tm (some t)=some (look tm t):=rfl
theorem Vr{tm:List (Nat×V)}:lookO tm none=none:=rfl
def CQ(tm:List (Nat×V))(l:List Operand):List V:=l.map (ev tm)
theorem afa{tm:List (Nat×V)}:CQ tm []=[]:=rfl
theorem abz{tm:List (Nat×V)}{x:Operand}{l:List Operand}:CQ tm (x::l)=ev tm x::CQ tm l:=rfl
def M9(tm:List (Nat×V))(x:Option Operand):Option V:=x.map (ev tm)
theorem abA{tm:List (Nat×V)}{x:Operand}:M9 tm (some x)=some (ev tm x):=rfl
theorem abB{tm:List (Nat×V)}:M9 tm none=none:=rfl
def Na(tm:List (Nat×V))(l:List (Nat×Operand)):List (Nat×V):=l.map fun x=>(x.1,ev tm x.2)
theorem afb{tm:List (Nat×V)}:Na tm []=[]:=rfl
theorem abC{tm:List (Nat×V)}{i:Nat}{x:Operand}{l:List (Nat×Operand)}:Na tm ((i,x)::l)=(i,ev tm x)::Na tm l:=rfl
def Split(x:Bool)(A B:St->Prop)(s:St):Prop:=(x=true->A s)/\(x=false->B s)
theorem aD{x:Bool}{A B:St->Prop}(h1:x=true->A s)(h2:x=false->B s):Split x A B s:=⟨h1,h2⟩
theorem Vs{A B:St->Prop}:Split true A B s=A s:=by simp[Split]
theorem R7{A B:St->Prop}:Split false A B s=B s:=by simp[Split]
def P9(dst:Option Nat)(v:V)(K:St->Prop)(s:St):Prop:=K (s.put dst v)
theorem afc{dst:Option Nat}{v:V}{K:St->Prop}:P9 dst v K s=K (s.put dst v):=rfl
def Vt(P:Program)(o:Oper)(K:St->Prop)(s:St):Prop:=gY P o s K
def Qa(P:Program)(E:Md)(o:Oper)(K:St->Prop)(s:St):Prop:=fJ P E o s K
theorem abD{o:Oper}{K:St->Prop}:Vt P o K s=gY P o s K:=rfl
theorem Yv{o:Oper}{K:St->Prop}:Qa P E o K s=fJ P E o s K:=rfl
def Al(dst:Option Nat)(want:Bool)(A K:St->Prop)(s:St):Option V->Prop
 |some (.c (.d (.b x)))=>match want with
  |true=>Split x A (P9 dst (.eH []) K) s
  |false=>Split x (P9 dst (.eH []) K) A s
 |some (.eH [])=>K (s.put dst (.eH []))
 |_=>False
theorem R8{R:Array Oper}{dst op ty pos after}{K:St->Prop}:sU P R ⟨dst,op,ty,pos,after,none⟩ s K=gY P ⟨dst,op,ty,pos,after,none⟩ s K:=rfl
theorem R9{R:Array Oper}{dst op ty pos after j want}{K:St->Prop}:sU P R ⟨dst,op,ty,pos,after,some (j,want)⟩ s K=
 Al dst want (Vt P ⟨dst,op,ty,pos,after,some (j,want)⟩ K) K s (lookO s.tm (fZ R j)):=by
 show sU P R _ s K=_;simp only[sU,<-P8];generalize lookO s.tm (fZ R j)=v
 cases v with
 |none=>rfl
 |some v=>
  cases v with
  |c x=>cases x with
   |d x=>cases x with
    |b x=>cases want<;>simp[Al,Split,P9,Vt,and_comm]
    |_=>rfl
   |_=>rfl
  |eH l=>cases l<;>rfl
  |_=>rfl
theorem Qb{R:Array Oper}{dst op ty pos after}{K:St->Prop}:nT P E R ⟨dst,op,ty,pos,after,none⟩ s K=fJ P E ⟨dst,op,ty,pos,after,none⟩ s K:=rfl
theorem Qc{R:Array Oper}{dst op ty pos after j want}{K:St->Prop}:nT P E R ⟨dst,op,ty,pos,after,some (j,want)⟩ s K=
 Al dst want (Qa P E ⟨dst,op,ty,pos,after,some (j,want)⟩ K) K s (lookO s.tm (fZ R j)):=by
 simp only[nT,<-P8];generalize lookO s.tm (fZ R j)=v
 cases v with
 |none=>rfl
 |some v=>
  cases v with
  |c x=>cases x with
   |d x=>cases x with
    |b x=>cases want<;>simp[Al,Split,P9,Qa,and_comm]
    |_=>rfl
   |_=>rfl
  |eH l=>cases l<;>rfl
  |_=>rfl
@[congr] theorem aiY {R:Array Oper} {os:List Oper} {s s':St} {K:St->Prop} (h2:s=s'):Af P R os s K=Af P R os s' K:=by rw[h2]
@[congr] theorem aiZ {R:Array Oper} {os:List Oper} {s s':St} {K:St->Prop} (h2:s=s'):qV P E R os s K=qV P E R os s' K:=by rw[h2]
@[congr] theorem ag2 {R:Array Oper} {o:Oper} {s s':St} {K:St->Prop} (h2:s=s'):sU P R o s K=sU P R o s' K:=by rw[h2]
@[congr] theorem agC {R:Array Oper} {o:Oper} {s s':St} {K:St->Prop} (h2:s=s'):nT P E R o s K=nT P E R o s' K:=by rw[h2]
@[congr] theorem ag3 {dst:Option Nat} {want:Bool} {A K:St->Prop} {s s':St} {v v':Option V} (h2:s=s') (h3:v=v'):Al dst want A K s v=Al dst want A K s' v':=by rw[h2,h3]
@[congr] theorem aiu {x x':Bool} {A B:St->Prop} {s s':St} (h:x=x') (h2:s=s'):Split x A B s=Split x' A B s':=by rw[h,h2]
@[congr] theorem aiv {o:Oper} {s s':St} {K:St->Prop} (h2:s=s'):dx P o s K=dx P o s' K:=by rw[h2]
@[congr] theorem aiw {o:Oper} {s s':St} {K:St->Prop} (h2:s=s'):gY P o s K=gY P o s' K:=by rw[h2]
@[congr] theorem ai0 {t:TypeId} {s s':St} {dst:Option Nat} {K:St->Prop} {b b':Bool} {r r':R} (h1:s=s') (h2:b=b') (h3:r=r'):Fj P t s dst K b r=Fj P t s' dst K b' r':=by rw[h1,h2,h3]
@[congr] theorem agD {t u:TypeId} {a a' x x':V} {s s':St} {dst:Option Nat} {K:St->Prop} (h1:a=a') (h3:x=x') (h2:s=s'):zN P t u a x s dst K=zN P t u a' x' s' dst K:=by rw[h1,h2,h3]
@[congr] theorem ag4 {t u:TypeId} {k:Key} {x x':V} {s s':St} {dst:Option Nat} {K:St->Prop} (h3:x=x') (h2:s=s'):CG P t u k x s dst K=CG P t u k x' s' dst K:=by rw[h2,h3]
@[congr] theorem ag5 {o:Oper} {s s':St} {K:St->Prop} (h2:s=s'):fJ P E o s K=fJ P E o s' K:=by rw[h2]
@[congr] theorem ai1 {l l':Option Nat} {es es' x:List (List D)} {z:Nat} {s s':St} {dst:Option Nat} {K:St->Prop} (h1:l=l') (h2:es=es') (h3:s=s'):Ae l es s dst z x K=Ae l' es' s' dst z x K:=by rw[h1,h2,h3]
@[congr] theorem ai2 {b b':Bool} {es es' x:List (List D)} {z:Nat} {s s':St} {dst:Option Nat} {K:St->Prop} (h1:b=b') (h2:es=es') (h3:s=s'):yZ b es s dst z x K=yZ b' es' s' dst z x K:=by rw[h1,h2,h3]
@[congr] theorem ai3 {b b':Bool} {n:Nat} {x:List (List D)} {z:Nat} {s s':St} {dst:Option Nat} {K:St->Prop} (h1:b=b') (h3:s=s'):BZ b n s dst z x K=BZ b' n s' dst z x K:=by rw[h1,h3]
@[congr] theorem ag6 {s s':St} {dst:Option Nat} {o o':Obj} {mk:Key->V} {K:St->Prop} (h1:s=s') (h2:o=o'):newObj s dst o mk K=newObj s' dst o' mk K:=by rw[h1,h2]
@[congr] theorem ag7 {t:TypeId} {s s':St} {dst:Option Nat} {K:St->Prop} (h1:s=s'):sQ P t s dst K=sQ P t s' dst K:=by rw[h1]
@[congr] theorem ai4 {v v':V} {s s':St} {dst:Option Nat} {K:St->Prop} (h1:v=v') (h2:s=s'):Ad v s dst K=Ad v' s' dst K:=by rw[h1,h2]
@[congr] theorem ag8 {t:TypeId} {a a' x x':V} {s s':St} {dst:Option Nat} {K:St->Prop} (h1:a=a') (h3:x=x') (h2:s=s'):sS P t a x s dst K=sS P t a' x' s' dst K:=by rw[h1,h2,h3]
@[congr] theorem aix {t:TypeId} {a a' x x':V} {s s':St} {dst:Option Nat} {K:St->Prop} (h1:a=a') (h3:x=x') (h2:s=s'):vX P t a x s dst K=vX P t a' x' s' dst K:=by rw[h1,h2,h3]
@[congr] theorem agE {t u:TypeId} {a a' x x':V} {s s':St} {dst:Option Nat} {K:St->Prop} (h1:a=a') (h3:x=x') (h2:s=s'):ql P t u a x s dst K=ql P t u a' x' s' dst K:=by rw[h1,h2,h3]
@[congr] theorem agF {s s':St} {dst:Option Nat} {K:St->Prop} (h2:s=s'):sj s dst K=sj s' dst K:=by rw[h2]
@[congr] theorem agG {t:TypeId} {a a' x x' y y':V} {s s':St} {dst:Option Nat} {K:St->Prop} (h1:a=a') (h3:x=x') (h4:y=y') (h2:s=s'):su P t a x y s dst K=su P t a' x' y' s' dst K:=by rw[h1,h2,h3,h4]
@[congr] theorem aiy {f:FuncId} {args args':List V} {s s':St} {dst:Option Nat} {K:St->Prop} (h1:args=args') (h2:s=s'):xV P f args s dst K=xV P f args' s' dst K:=by rw[h1,h2]
@[congr] theorem aiz {c:Call} {s s':St} {dst:Option Nat} {K:St->Prop} (h2:s=s'):mD P c s dst K=mD P c s' dst K:=by rw[h2]
@[congr] theorem aiA {K:St->Prop} {Q:Exit->St->Prop} {e:Exit} {s s':St} (h2:s=s'):jJ K Q e s=jJ K Q e s':=by rw[h2]
def gI(s:St)(dst:Option Nat)(K:St->Prop)(r:R):Prop:=r.1/\K (s.put dst r.2)
@[congr] theorem aiB {s s':St} {dst:Option Nat} {K:St->Prop} {r r':R} (h1:s=s') (h2:r=r'):gI s dst K r=gI s' dst K r':=by rw[h1,h2]
theorem abE{dst:Option Nat}{K:St->Prop}{p:Prop}{v:V}:gI s dst K (p,v)=(p/\K (s.put dst v)):=rfl
def Ce(caps:List (Key×Nat)):List V:=caps.map fun y=>.c (.ptr y.1 y.2)
def OD(P:Program)(fv:V)(args:List V)(s:St)(dst:Option Nat)(K:St->Prop):Prop:=
 match fv with
 | .c (.fn f caps)=>xV P f (args++Ce caps) s dst K
 |_=>False
def DR(P:Program)(m:Nat)(f:FuncId)(args:List V)(s:St)(dst:Option Nat)(K:St->Prop):Prop:=
 match m with
 |0=>∃r,bq P f args r/\K (s.put dst r)
 |1=>∃S' v,DS s.st S'/\xV P f args s dst (fun t=>t=St.put ⟨s.tm,S'⟩ dst v)/\K (St.put ⟨s.tm,S'⟩ dst v)
 |_=>∃S' v,xV P f args s dst (fun t=>t=St.put ⟨s.tm,S'⟩ dst v)/\K (St.put ⟨s.tm,S'⟩ dst v)
def xY(P:Program)(m:Nat)(fv:V)(args:List V)(s:St)(dst:Option Nat)(K:St->Prop):Prop:=
 match fv with
 | .c (.fn f caps)=>DR P m f (args++Ce caps) s dst K
 |_=>False
@[congr] theorem aiC {fv Yw:V} {args args':List V} {s s':St} {dst:Option Nat} {K:St->Prop} (h1:fv=Yw) (h3:args=args') (h2:s=s'):OD P fv args s dst K=OD P Yw args' s' dst K:=by rw[h1,h2,h3]
@[congr] theorem aiD {m:Nat} {fv Yw:V} {args args':List V} {s s':St} {dst:Option Nat} {K:St->Prop} (h1:fv=Yw) (h3:args=args') (h2:s=s'):xY P m fv args s dst K=xY P m Yw args' s' dst K:=by rw[h1,h2,h3]
@[congr] theorem aiE {m:Nat} {f:FuncId} {args args':List V} {s s':St} {dst:Option Nat} {K:St->Prop} (h1:args=args') (h2:s=s'):DR P m f args s dst K=DR P m f args' s' dst K:=by rw[h1,h2]
theorem Sb{x:Operand}{args:Array Operand}{ts:Array TypeId}{dst:Option Nat}{K:St->Prop}:mD P ⟨.value x,args,ts⟩ s dst K=OD P (ev s.tm x) (CQ s.tm args.toList) s dst K:=rfl
theorem Qd{x y:Operand}{t u:TypeId}{dst:Option Nat}{K:St->Prop}:mD P ⟨.builtin .append,#[x,y],#[t,u]⟩ s dst K=ql P t u (ev s.tm x) (ev s.tm y) s dst K:=rfl
theorem Yx{x:Operand}{t:TypeId}{dst:Option Nat}{K:St->Prop}:mD P ⟨.builtin .len,#[x],#[t]⟩ s dst K=gI s dst K (Dq P s.st t (ev s.tm x)):=rfl
theorem Yy{x y:Operand}{ts:Array TypeId}{dst:Option Nat}{K:St->Prop}:mD P ⟨.builtin .max,#[x,y],ts⟩ s dst K=gI s dst K (uU true (ev s.tm x) (ev s.tm y)):=rfl
theorem Yz{x y:Operand}{ts:Array TypeId}{dst:Option Nat}{K:St->Prop}:mD P ⟨.builtin .min,#[x,y],ts⟩ s dst K=gI s dst K (uU false (ev s.tm x) (ev s.tm y)):=rfl
theorem abF{x:Operand}{t:TypeId}{tm:List (Nat×V)}:nval P S tm (.call ⟨.builtin .len,#[x],#[t]⟩)=Dq P S t (ev tm x):=rfl
def iJ(P:Program)(mode:Option Nat)(f:FuncId)(args:List V)(s:St)(dst:Option Nat)(K:St->Prop):Prop:=
 match mode with
 |some m=>DR P m f args s dst K
 |none=>xV P f args s dst K
@[congr] theorem aiF {dr:Option Nat} {f:FuncId} {args args':List V} {s s':St} {dst:Option Nat} {K:St->Prop} (h1:args=args') (h2:s=s'):iJ P dr f args s dst K=iJ P dr f args' s' dst K:=by rw[h1,h2]
theorem abG{f:Nat}{caps:List (Key×Nat)}{args:List V}{dst:Option Nat}{K:St->Prop}:OD P (.c (.fn f caps)) args s dst K=iJ P none f (args++Ce caps) s dst K:=rfl
theorem abH{m:Nat}{f:Nat}{caps:List (Key×Nat)}{args:List V}{dst:Option Nat}{K:St->Prop}:xY P m (.c (.fn f caps)) args s dst K=iJ P (some m) f (args++Ce caps) s dst K:=rfl
theorem aB{dr:Option Nat}{f:FuncId}{args:List V}{dst:Option Nat}{K:St->Prop}{r:V}(h:bq P f (args.map V.sZ) r)(hK:K (s.put dst r)):iJ P dr f args s dst K:=by
 cases dr with
 |none=>exact DK h hK
 |some m=>
  match m with
  |0=>exact⟨r,fun S=>(h S).sZ,hK⟩
  |1=>exact⟨s.st,r,DS.refl _,DK h rfl,hK⟩
  |m+2=>exact⟨s.st,r,DK h rfl,hK⟩
def aex:Option Nat->Bool
 |none=>true
 |some m=>decide (2<=m)
theorem bn{dr:Option Nat}{f:FuncId}{args:List V}{dst:Option Nat}{K:St->Prop}{r:V}{S1:Store}(hm:aex dr=true)(h:cB P f args s.st (fun r' S'=>r'=r/\S'=S1))(hK:K (St.put ⟨s.tm,S1⟩ dst r)):iJ P dr f args s dst K:=by
 cases dr with
 |none=>exact .inl ⟨_,h,fun r' S' e=>by rw[e.1,e.2];exact hK⟩
 |some m=>
  match m,hm with
  |0,hm=>cases hm
  |1,hm=>cases hm
  |m+2,_=>exact⟨S1,r,.inl ⟨_,h,fun r' S' e=>by rw[e.1,e.2]⟩,hK⟩
def GK(P:Program)(R:Array Oper)(os:List Oper)(K:St->Prop)(s:St):Prop:=Af P R os s K
def GL(P:Program)(E:Md)(R:Array Oper)(os:List Oper)(K:St->Prop)(s:St):Prop:=qV P E R os s K
@[congr] theorem aiG {R:Array Oper} {os:List Oper} {s s':St} {K:St->Prop} (h2:s=s'):GK P R os K s=GK P R os K s':=by rw[h2]
@[congr] theorem aiH {R:Array Oper} {os:List Oper} {s s':St} {K:St->Prop} (h2:s=s'):GL P E R os K s=GL P E R os K s':=by rw[h2]
section
variable {tm:List (Nat×V)} {R:Array Oper} {o:Oper} {os:List Oper} {K:St->Prop}
theorem abI:Af P R [] ⟨tm,S⟩ K=K ⟨tm,S⟩:=rfl
theorem YA:Af P R (o::os) ⟨tm,S⟩ K=sU P R o ⟨tm,S⟩ (GK P R os K):=rfl
theorem YB:GK P R [] K ⟨tm,S⟩=K ⟨tm,S⟩:=rfl
theorem Vu:GK P R (o::os) K ⟨tm,S⟩=sU P R o ⟨tm,S⟩ (GK P R os K):=rfl
theorem abJ:qV P E R [] ⟨tm,S⟩ K=K ⟨tm,S⟩:=rfl
theorem YC:qV P E R (o::os) ⟨tm,S⟩ K=nT P E R o ⟨tm,S⟩ (GL P E R os K):=rfl
theorem YD:GL P E R [] K ⟨tm,S⟩=K ⟨tm,S⟩:=rfl
theorem Vv:GL P E R (o::os) K ⟨tm,S⟩=nT P E R o ⟨tm,S⟩ (GL P E R os K):=rfl
end
section
variable {dst:Option Nat} {ty:TypeId} {pos:String} {after:Array Edge} {g:Option (Nat×Bool)} {K:St->Prop}
theorem Sc{t:TypeId}:gY P ⟨dst,.alloc t,ty,pos,after,g⟩ s K=dx P ⟨dst,.alloc t,ty,pos,after,g⟩ s K:=rfl
theorem YE{t:TypeId}{x:Operand}:gY P ⟨dst,.box t x,ty,pos,after,g⟩ s K=dx P ⟨dst,.box t x,ty,pos,after,g⟩ s K:=rfl
theorem Sd{t:TypeId}{a x:Operand}:gY P ⟨dst,.store t a x,ty,pos,after,g⟩ s K=dx P ⟨dst,.store t a x,ty,pos,after,g⟩ s K:=rfl
theorem Vw{t:TypeId}{a x:Operand}:gY P ⟨dst,.makeSlice t a x,ty,pos,after,g⟩ s K=dx P ⟨dst,.makeSlice t a x,ty,pos,after,g⟩ s K:=rfl
theorem Oe{t:TypeId}{r:Option Operand}:gY P ⟨dst,.makeMap t r,ty,pos,after,g⟩ s K=dx P ⟨dst,.makeMap t r,ty,pos,after,g⟩ s K:=rfl
theorem J8{t:TypeId}{x k v:Operand}:gY P ⟨dst,.mapUpdate t x k v,ty,pos,after,g⟩ s K=dx P ⟨dst,.mapUpdate t x k v,ty,pos,after,g⟩ s K:=rfl
theorem Qe{t:TypeId}{x i:Operand}{b:Bool}:gY P ⟨dst,.lookup t x i b,ty,pos,after,g⟩ s K=dx P ⟨dst,.lookup t x i b,ty,pos,after,g⟩ s K:=rfl
theorem Vx{x:Operand}{as:Array Operand}{ts:Array TypeId}:gY P ⟨dst,.call ⟨.value x,as,ts⟩,ty,pos,after,g⟩ s K=dx P ⟨dst,.call ⟨.value x,as,ts⟩,ty,pos,after,g⟩ s K:=rfl
theorem YF{as:Array Operand}{ts:Array TypeId}:gY P ⟨dst,.call ⟨.builtin .len,as,ts⟩,ty,pos,after,g⟩ s K=dx P ⟨dst,.call ⟨.builtin .len,as,ts⟩,ty,pos,after,g⟩ s K:=rfl
theorem YG{as:Array Operand}{ts:Array TypeId}:gY P ⟨dst,.call ⟨.builtin .max,as,ts⟩,ty,pos,after,g⟩ s K=dx P ⟨dst,.call ⟨.builtin .max,as,ts⟩,ty,pos,after,g⟩ s K:=rfl
theorem YH{as:Array Operand}{ts:Array TypeId}:gY P ⟨dst,.call ⟨.builtin .min,as,ts⟩,ty,pos,after,g⟩ s K=dx P ⟨dst,.call ⟨.builtin .min,as,ts⟩,ty,pos,after,g⟩ s K:=rfl
theorem Vy{x:Operand}:gY P ⟨dst,.move x,ty,pos,after,g⟩ s K=dx P ⟨dst,.move x,ty,pos,after,g⟩ s K:=rfl
theorem Qf{x:Operand}:gY P ⟨dst,.assign x,ty,pos,after,g⟩ s K=dx P ⟨dst,.assign x,ty,pos,after,g⟩ s K:=rfl
theorem Vz{c a b:Operand}:gY P ⟨dst,.pick c a b,ty,pos,after,g⟩ s K=dx P ⟨dst,.pick c a b,ty,pos,after,g⟩ s K:=rfl
theorem VA{t:TypeId}{a:Operand}:gY P ⟨dst,.load t a,ty,pos,after,g⟩ s K=dx P ⟨dst,.load t a,ty,pos,after,g⟩ s K:=rfl
theorem J9{t:TypeId}{x:Operand}{f:Nat}:gY P ⟨dst,.fieldAddr t x f,ty,pos,after,g⟩ s K=dx P ⟨dst,.fieldAddr t x f,ty,pos,after,g⟩ s K:=rfl
theorem Sg{t:TypeId}{x:Operand}{f:Nat}:gY P ⟨dst,.field t x f,ty,pos,after,g⟩ s K=dx P ⟨dst,.field t x f,ty,pos,after,g⟩ s K:=rfl
theorem Ka{t:TypeId}{x i:Operand}:gY P ⟨dst,.indexAddr t x i,ty,pos,after,g⟩ s K=dx P ⟨dst,.indexAddr t x i,ty,pos,after,g⟩ s K:=rfl
theorem Si{t:TypeId}{x i:Operand}:gY P ⟨dst,.index t x i,ty,pos,after,g⟩ s K=dx P ⟨dst,.index t x i,ty,pos,after,g⟩ s K:=rfl
theorem Sj{op:BinOp}{t u:TypeId}{x y:Operand}:gY P ⟨dst,.binOp op t x y u,ty,pos,after,g⟩ s K=dx P ⟨dst,.binOp op t x y u,ty,pos,after,g⟩ s K:=rfl
theorem VB{op:UnOp}{t:TypeId}{x:Operand}:gY P ⟨dst,.unOp op t x,ty,pos,after,g⟩ s K=dx P ⟨dst,.unOp op t x,ty,pos,after,g⟩ s K:=rfl
theorem Og{a b:TypeId}{x:Operand}:gY P ⟨dst,.convert a b x,ty,pos,after,g⟩ s K=dx P ⟨dst,.convert a b x,ty,pos,after,g⟩ s K:=rfl
theorem Oh{x:Operand}{i:Nat}:gY P ⟨dst,.extract x i,ty,pos,after,g⟩ s K=dx P ⟨dst,.extract x i,ty,pos,after,g⟩ s K:=rfl
theorem LQ{fn:Fn}{a b:Array Operand}:gY P ⟨dst,.makeFunc fn a b,ty,pos,after,g⟩ s K=dx P ⟨dst,.makeFunc fn a b,ty,pos,after,g⟩ s K:=rfl
theorem LU{x:Operand}:gY P ⟨dst,.nilCheck x,ty,pos,after,g⟩ s K=dx P ⟨dst,.nilCheck x,ty,pos,after,g⟩ s K:=rfl
theorem Sk{t:TypeId}{x:Operand}{lo hi mx:Option Operand}:gY P ⟨dst,.slice t x lo hi mx,ty,pos,after,g⟩ s K=dx P ⟨dst,.slice t x lo hi mx,ty,pos,after,g⟩ s K:=rfl
theorem Sl{t:TypeId}{parts:Array (Nat×Operand)}:gY P ⟨dst,.build t parts,ty,pos,after,g⟩ s K=dx P ⟨dst,.build t parts,ty,pos,after,g⟩ s K:=rfl
theorem Qg{x y:Operand}{t u:TypeId}:gY P ⟨dst,.call ⟨.builtin .append,#[x,y],#[t,u]⟩,ty,pos,after,g⟩ s K=zN P t u (ev s.tm x) (ev s.tm y) s dst K:=rfl
theorem IU{t:TypeId}{n:Nat}{parts:Array (Nat×Operand)}:gY P ⟨dst,.buildSlice t n parts,ty,pos,after,g⟩ s K=Fj P t s dst K (Ve s.st t) (kX P (nW s.st) t n (Na s.tm parts.toList)):=rfl
theorem VD{t:TypeId}:dx P ⟨dst,.alloc t,ty,pos,after,g⟩ s K=sQ P t s dst K:=rfl
theorem abK{t:TypeId}{x:Operand}:dx P ⟨dst,.box t x,ty,pos,after,g⟩ s K=Ad (ev s.tm x) s dst K:=rfl
theorem VE{t:TypeId}{a x:Operand}:dx P ⟨dst,.store t a x,ty,pos,after,g⟩ s K=sS P t (ev s.tm a) (ev s.tm x) s dst K:=rfl
theorem YI{t:TypeId}{a x:Operand}:dx P ⟨dst,.makeSlice t a x,ty,pos,after,g⟩ s K=vX P t (ev s.tm a) (ev s.tm x) s dst K:=rfl
theorem Qh{t:TypeId}:dx P ⟨dst,.makeMap t none,ty,pos,after,g⟩ s K=sj s dst K:=rfl
theorem LV{t:TypeId}{x k v:Operand}:dx P ⟨dst,.mapUpdate t x k v,ty,pos,after,g⟩ s K=su P t (ev s.tm x) (ev s.tm k) (ev s.tm v) s dst K:=rfl
theorem Sm{t:TypeId}{x i:Operand}:dx P ⟨dst,.lookup t x i false,ty,pos,after,g⟩ s K=gI s dst K (xg P s.st t (ev s.tm x) (ev s.tm i)):=rfl
theorem Oi{t:TypeId}:fJ P E ⟨dst,.makeMap t none,ty,pos,after,g⟩ s K=sj s dst K:=rfl
theorem Kc{t:TypeId}{x k v:Operand}:fJ P E ⟨dst,.mapUpdate t x k v,ty,pos,after,g⟩ s K=su P t (ev s.tm x) (ev s.tm k) (ev s.tm v) s dst K:=rfl
theorem Qi{t:TypeId}{x i:Operand}:fJ P E ⟨dst,.lookup t x i false,ty,pos,after,g⟩ s K=gI s dst K (xg P s.st t (ev s.tm x) (ev s.tm i)):=rfl
theorem YJ{c:Call}:dx P ⟨dst,.call c,ty,pos,after,g⟩ s K=mD P c s dst K:=rfl
theorem YK{x:Operand}:dx P ⟨dst,.move x,ty,pos,after,g⟩ s K=K (s.put dst (ev s.tm x)):=by simp[dx,nval,mq]
theorem Sn{x:Operand}:dx P ⟨dst,.assign x,ty,pos,after,g⟩ s K=K (s.put dst (ev s.tm x)):=by simp[dx,nval,mq]
theorem YL{c a b:Operand}:dx P ⟨dst,.pick c a b,ty,pos,after,g⟩ s K=gI s dst K (Gv (ev s.tm c) (ev s.tm a) (ev s.tm b)):=rfl
theorem YM{t:TypeId}{a:Operand}:dx P ⟨dst,.load t a,ty,pos,after,g⟩ s K=gI s dst K (zq P s.st t (ev s.tm a)):=rfl
theorem LW{t:TypeId}{x:Operand}{f:Nat}:dx P ⟨dst,.fieldAddr t x f,ty,pos,after,g⟩ s K=gI s dst K (qQ P s.st t (ev s.tm x) f):=rfl
theorem VF{t:TypeId}{x:Operand}{f:Nat}:dx P ⟨dst,.field t x f,ty,pos,after,g⟩ s K=gI s dst K (Cw P t (ev s.tm x) f):=rfl
theorem LX{t:TypeId}{x i:Operand}:dx P ⟨dst,.indexAddr t x i,ty,pos,after,g⟩ s K=gI s dst K (qR P s.st t (ev s.tm x) (ev s.tm i)):=rfl
theorem VG{t:TypeId}{x i:Operand}:dx P ⟨dst,.index t x i,ty,pos,after,g⟩ s K=gI s dst K (Cx P t (ev s.tm x) (ev s.tm i)):=rfl
theorem VH{op:BinOp}{t u:TypeId}{x y:Operand}:dx P ⟨dst,.binOp op t x y u,ty,pos,after,g⟩ s K=gI s dst K (Lu P op t (ev s.tm x) (ev s.tm y)):=rfl
theorem YN{op:UnOp}{t:TypeId}{x:Operand}:dx P ⟨dst,.unOp op t x,ty,pos,after,g⟩ s K=gI s dst K (TS op (ev s.tm x)):=rfl
theorem Qj{a b:TypeId}{x:Operand}:dx P ⟨dst,.convert a b x,ty,pos,after,g⟩ s K=gI s dst K (Gx P a b (ev s.tm x)):=rfl
theorem Qk{x:Operand}{i:Nat}:dx P ⟨dst,.extract x i,ty,pos,after,g⟩ s K=gI s dst K (w9 (ev s.tm x) i):=rfl
theorem Oj{fn:Fn}{a b:Array Operand}:dx P ⟨dst,.makeFunc fn a b,ty,pos,after,g⟩ s K=gI s dst K (vv fn (CQ s.tm a.toList) (CQ s.tm b.toList)):=rfl
theorem Ol{x:Operand}:dx P ⟨dst,.nilCheck x,ty,pos,after,g⟩ s K=gI s dst K (vw s.st (ev s.tm x)):=rfl
theorem VI{t:TypeId}{x:Operand}{lo hi mx:Option Operand}:dx P ⟨dst,.slice t x lo hi mx,ty,pos,after,g⟩ s K=gI s dst K (Cy P t (ev s.tm x) (M9 s.tm lo) (M9 s.tm hi) (M9 s.tm mx)):=rfl
theorem VJ{t:TypeId}{parts:Array (Nat×Operand)}:dx P ⟨dst,.build t parts,ty,pos,after,g⟩ s K=gI s dst K (Cz P t (Na s.tm parts.toList)):=rfl
theorem Ke{t:TypeId}{n:Nat}{parts:Array (Nat×Operand)}:dx P ⟨dst,.buildSlice t n parts,ty,pos,after,g⟩ s K=gI s dst K (kX P (nW s.st) t n (Na s.tm parts.toList)):=rfl
theorem Sq{t:TypeId}:fJ P E ⟨dst,.alloc t,ty,pos,after,g⟩ s K=sQ P t s dst K:=rfl
theorem YO{t:TypeId}{x:Operand}:fJ P E ⟨dst,.box t x,ty,pos,after,g⟩ s K=Ad (ev s.tm x) s dst K:=rfl
theorem Sr{t:TypeId}{a x:Operand}:fJ P E ⟨dst,.store t a x,ty,pos,after,g⟩ s K=sS P t (ev s.tm a) (ev s.tm x) s dst K:=rfl
theorem VK{t:TypeId}{a x:Operand}:fJ P E ⟨dst,.makeSlice t a x,ty,pos,after,g⟩ s K=vX P t (ev s.tm a) (ev s.tm x) s dst K:=rfl
theorem Ql{args:Array Operand}{ts:Array TypeId}:fJ P E ⟨dst,.call ⟨.builtin .append,args,ts⟩,ty,pos,after,g⟩ s K=mD P ⟨.builtin .append,args,ts⟩ s dst K:=rfl
theorem VL{x:Operand}:fJ P E ⟨dst,.move x,ty,pos,after,g⟩ s K=K (s.put dst (ev s.tm x)):=by simp[fJ,qm,nval,mq]
theorem Qm{x:Operand}:fJ P E ⟨dst,.assign x,ty,pos,after,g⟩ s K=K (s.put dst (ev s.tm x)):=by simp[fJ,qm,nval,mq]
theorem VN{c a b:Operand}:fJ P E ⟨dst,.pick c a b,ty,pos,after,g⟩ s K=gI s dst K (Gv (ev s.tm c) (ev s.tm a) (ev s.tm b)):=rfl
theorem VO{t:TypeId}{a:Operand}:fJ P E ⟨dst,.load t a,ty,pos,after,g⟩ s K=gI s dst K (zq P s.st t (ev s.tm a)):=rfl
theorem Kg{t:TypeId}{x:Operand}{f:Nat}:fJ P E ⟨dst,.fieldAddr t x f,ty,pos,after,g⟩ s K=gI s dst K (qQ P s.st t (ev s.tm x) f):=rfl
theorem Sv{t:TypeId}{x:Operand}{f:Nat}:fJ P E ⟨dst,.field t x f,ty,pos,after,g⟩ s K=gI s dst K (Cw P t (ev s.tm x) f):=rfl
theorem Kh{t:TypeId}{x i:Operand}:fJ P E ⟨dst,.indexAddr t x i,ty,pos,after,g⟩ s K=gI s dst K (qR P s.st t (ev s.tm x) (ev s.tm i)):=rfl
theorem Sw{t:TypeId}{x i:Operand}:fJ P E ⟨dst,.index t x i,ty,pos,after,g⟩ s K=gI s dst K (Cx P t (ev s.tm x) (ev s.tm i)):=rfl
theorem Sy{op:BinOp}{t u:TypeId}{x y:Operand}:fJ P E ⟨dst,.binOp op t x y u,ty,pos,after,g⟩ s K=gI s dst K (Lu P op t (ev s.tm x) (ev s.tm y)):=rfl
theorem VP{op:UnOp}{t:TypeId}{x:Operand}:fJ P E ⟨dst,.unOp op t x,ty,pos,after,g⟩ s K=gI s dst K (TS op (ev s.tm x)):=rfl
theorem Om{a b:TypeId}{x:Operand}:fJ P E ⟨dst,.convert a b x,ty,pos,after,g⟩ s K=gI s dst K (Gx P a b (ev s.tm x)):=rfl
theorem Oo{x:Operand}{i:Nat}:fJ P E ⟨dst,.extract x i,ty,pos,after,g⟩ s K=gI s dst K (w9 (ev s.tm x) i):=rfl
theorem LY{fn:Fn}{a b:Array Operand}:fJ P E ⟨dst,.makeFunc fn a b,ty,pos,after,g⟩ s K=gI s dst K (vv fn (CQ s.tm a.toList) (CQ s.tm b.toList)):=rfl
theorem LZ{x:Operand}:fJ P E ⟨dst,.nilCheck x,ty,pos,after,g⟩ s K=gI s dst K (vw s.st (ev s.tm x)):=rfl
theorem Sz{t:TypeId}{x:Operand}{lo hi mx:Option Operand}:fJ P E ⟨dst,.slice t x lo hi mx,ty,pos,after,g⟩ s K=gI s dst K (Cy P t (ev s.tm x) (M9 s.tm lo) (M9 s.tm hi) (M9 s.tm mx)):=rfl
theorem SA{t:TypeId}{parts:Array (Nat×Operand)}:fJ P E ⟨dst,.build t parts,ty,pos,after,g⟩ s K=gI s dst K (Cz P t (Na s.tm parts.toList)):=rfl
theorem IV{t:TypeId}{n:Nat}{parts:Array (Nat×Operand)}:fJ P E ⟨dst,.buildSlice t n parts,ty,pos,after,g⟩ s K=gI s dst K (kX P (nW s.st) t n (Na s.tm parts.toList)):=rfl
theorem YP{args:Array Operand}{ts:Array TypeId}:fJ P E ⟨dst,.call ⟨.builtin .len,args,ts⟩,ty,pos,after,g⟩ s K=gI s dst K (nval P s.st s.tm (.call ⟨.builtin .len,args,ts⟩)):=rfl
theorem YQ{x y:Operand}{ts:Array TypeId}:fJ P E ⟨dst,.call ⟨.builtin .max,#[x,y],ts⟩,ty,pos,after,g⟩ s K=gI s dst K (uU true (ev s.tm x) (ev s.tm y)):=rfl
theorem YR{x y:Operand}{ts:Array TypeId}:fJ P E ⟨dst,.call ⟨.builtin .min,#[x,y],ts⟩,ty,pos,after,g⟩ s K=gI s dst K (uU false (ev s.tm x) (ev s.tm y)):=rfl
theorem VQ{x:Operand}{args:Array Operand}{ts:Array TypeId}:fJ P E ⟨dst,.call ⟨.value x,args,ts⟩,ty,pos,after,g⟩ s K=xY P (E (.call ⟨.value x,args,ts⟩)) (ev s.tm x) (CQ s.tm args.toList) s dst K:=by
 simp only[fJ,qm];generalize E (.call ⟨.value x,args,ts⟩)=m
 match m with
 |0=>
  simp only[Dy];generalize ev s.tm x=fv
  cases fv with
  |c x=>cases x<;>simp[xY,DR,Ce,CQ]
  |_=>simp[xY]
 |1=>
  simp only[dx,mD];generalize ev s.tm x=fv
  cases fv with
  |c x=>cases x<;>simp[xY,DR,Ce,CQ]
  |_=>simp[xY]
 |m+2=>
  simp only[dx,mD];generalize ev s.tm x=fv
  cases fv with
  |c x=>cases x<;>simp[xY,DR,Ce,CQ]
  |_=>simp[xY]
end
def xZ(v:V)(A B:St->Prop)(s:St):Prop:=
 match v with
 | .c (.d (.b x))=>Split x A B s
 |_=>False
def CW(P:Program)(N:Nat):Code->(Exit->St->Prop)->St->Prop
 | .seq x y,Q,s=>CW P N x (jJ (CW P N y Q) Q) s
 | .region _ R false,Q,s=>Af P R R.toList s (Q .normal)
 | .region _ R true,Q,s=>qV P (JY R N) R R.toList s (Q .normal)
 | .cond c x y,Q,s=>xZ (ev s.tm c) (CW P N x Q) (CW P N y Q) s
 | .block id c,Q,s=>CW P N c (wm id Q) s
 | .exit id,Q,s=>Q (.exit id) s
 | .ret,Q,s=>Q .ret s
 | .skip,Q,s=>Q .normal s
 | .loop c,Q,s=>AW P N (.loop c) Q s
 |_,_,_=>False
def ai5(N:Nat)(R:Array Oper):Bool:=R.toList.all (fun o=>match o.dst with|some d=>decide (d<N)|none=>true)
def codeOk(N:Nat):Code->Bool
 | .seq x y=>codeOk N x&&codeOk N y
 | .region _ R false=>ai5 N R
 | .region _ R true=>LK R N
 | .cond _ x y=>codeOk N x&&codeOk N y
 | .block _ c=>codeOk N c
 | .loop c=>codeOk N c
 |_=>true
theorem jy(fq:P.follows .mixedOrders=true):∀(c:Code)(Q:Exit->St->Prop)(s:St),codeOk N c=true->CW P N c Q s->AW P N c Q s
 | .seq x y,Q,s,ok,h=>by
   simp only[codeOk,Bool.and_eq_true] at ok;refine PI (AW.mono (jy fq x _ s ok.1 h) fun e s' h'=> ?_)
   cases e with
   |normal=>exact jy fq y Q s' ok.2 h'
   |_=>exact h'
 | .region _ R false,Q,s,ok,h=>Yi ok h
 | .region _ R true,Q,s,ok,h=>Vn fq ok h
 | .cond c x y,Q,s,ok,h=>by
   simp only[codeOk,Bool.and_eq_true] at ok;simp only[CW,xZ] at h;split at h
   ·rename_i b hb;exact LG hb (fun e=>jy fq x Q s ok.1 (h.1 e)) (fun e=>jy fq y Q s ok.2 (h.2 e))
   ·exact h.elim
 | .block id c,Q,s,ok,h=>II (jy fq c _ s ok h)
 | .exit id,Q,s,ok,h=>aeY h
 | .ret,Q,s,ok,h=>agR h
 | .skip,Q,s,ok,h=>aeX h
 | .loop c,Q,s,ok,h=>h
 | .rangeFunc _ _ _ _,Q,s,ok,h=>h.elim
 | .scope _,Q,s,ok,h=>h.elim
 | .label _,Q,s,ok,h=>h.elim
 | .goto _,Q,s,ok,h=>h.elim
 | .refuse _,Q,s,ok,h=>h.elim
theorem ag9{x y:Code}{Q:Exit->St->Prop}:CW P N (.seq x y) Q s=CW P N x (jJ (CW P N y Q) Q) s:=by rw[CW]
theorem YS{id:Nat}{l:List Oper}{Q:Exit->St->Prop}:CW P N (.region id ⟨l⟩ false) Q s=Af P ⟨l⟩ l s (Q .normal):=by rw[CW]
theorem afd{id:Nat}{l:List Oper}{Q:Exit->St->Prop}:CW P N (.region id ⟨l⟩ true) Q s=qV P (JY ⟨l⟩ N) ⟨l⟩ l s (Q .normal):=by rw[CW]
theorem afe{c:Operand}{x y:Code}{Q:Exit->St->Prop}:CW P N (.cond c x y) Q s=xZ (ev s.tm c) (CW P N x Q) (CW P N y Q) s:=by rw[CW]
theorem abM{id:Nat}{c:Code}{Q:Exit->St->Prop}:CW P N (.block id c) Q s=CW P N c (wm id Q) s:=by rw[CW]
theorem aff{id:Nat}{Q:Exit->St->Prop}:CW P N (.exit id) Q s=Q (.exit id) s:=by rw[CW]
theorem aha{Q:Exit->St->Prop}:CW P N .ret Q s=Q .ret s:=by rw[CW]
theorem afg{Q:Exit->St->Prop}:CW P N .skip Q s=Q .normal s:=by rw[CW]
theorem L6{c:Code}{Q:Exit->St->Prop}:CW P N (.loop c) Q s=AW P N (.loop c) Q s:=by rw[CW]
theorem Qn{K:St->Prop}{Q:Exit->St->Prop}:jJ K Q .normal s=K s:=rfl
theorem YT{K:St->Prop}{Q:Exit->St->Prop}:jJ K Q .ret s=Q .ret s:=rfl
theorem VR{K:St->Prop}{Q:Exit->St->Prop}{i:Nat}:jJ K Q (.exit i) s=Q (.exit i) s:=rfl
theorem Qo{id:Nat}{Q:Exit->St->Prop}:wm id Q .normal s=Q .normal s:=rfl
theorem YU{id:Nat}{Q:Exit->St->Prop}:wm id Q .ret s=Q .ret s:=rfl
theorem VT{id i:Nat}{Q:Exit->St->Prop}:wm id Q (.exit i) s=if i=id then Q .normal s else Q (.exit i) s:=rfl
def abN(post:V->Store->Prop)(s:St)(r:R):Prop:=r.1/\match r.2.ret with
 |some v=>post v (gB s.st)
 |none=>False
theorem afh{post:V->Store->Prop}{p:Prop}{v:V}:abN post s (p,v)=(p/\match v.ret with
 |some v=>post v (gB s.st)
 |none=>False):=rfl
def IW(P:Program)(rs:List ResultVar)(post:V->Store->Prop)(e:Exit)(s:St):Prop:=aa4 P rs post e (CP s)
def Qp(P:Program)(rs:List ResultVar)(post:V->Store->Prop)(s:St):Prop:=abN post s (nG P rs s)
theorem abO{rs:List ResultVar}{post:V->Store->Prop}:IW P rs post .ret s=Qp P rs post (CP s):=rfl
theorem SB{rs:List ResultVar}{post:V->Store->Prop}:IW P rs post .normal s=Qp P rs post (CP s):=rfl
theorem afi{rs:List ResultVar}{post:V->Store->Prop}{tm:List (Nat×V)}:Qp P rs post ⟨tm,S⟩=abN post ⟨tm,S⟩ (nG P rs ⟨tm,S⟩):=rfl
def ahb(j:Nat)(es:List (List D))(tm:List (Nat×V)):List (Nat×V):=tm.map fun x=>(x.1,x.2.l9 j es)
theorem YV{j:Nat}{es:List (List D)}{tm:List (Nat×V)}{t:Nat}:look (ahb j es tm) t=(look tm t).l9 j es:=DN (f:=V.l9 j es) rfl tm t
def ahc(j:Nat)(tm:List (Nat×V))(own:List Obj)(Ω:Store):Option Obj->St
 |some (.eO _ es)=>⟨ahb j es tm,(own.map (Obj.l9 j es)).set j .dead::Ω⟩
 |_=>⟨tm,own::Ω⟩
theorem abP{j:Nat}{tm:List (Nat×V)}{own:List Obj}{Ω:Store}:J6 j ⟨tm,own::Ω⟩=ahc j tm own Ω (own[j]?):=by
 unfold J6
 simp only
 generalize own[j]? =o
 cases o with
 |none=>rfl
 |some o=>cases o<;>rfl
theorem YW{tm:List (Nat×V)}{own:List Obj}{Ω:Store}:CP ⟨tm,own::Ω⟩=J7 own.length ⟨tm,own::Ω⟩:=rfl
theorem aV{f:FuncId}{fn:Func}{c:Code}{args:List V}{post:V->Store->Prop}{rs:List ResultVar}(fq:P.follows .mixedOrders=true)(hf:P.funcs[f]? =some fn)(hN:fn.ntmps=N)
 (hb:fn.body=some c) (hn:(fn.name== "runtime.NumGoroutine")=false) (hr:fn.results.toList=rs) (hl:Nat.ble args.length N=true) (hok:codeOk N c=true)
 (h:CW P N c (IW P rs post) ⟨kE (args.map (V.up 1)) 0,[]::S⟩):cB P f args S post:=by
 subst hN;subst hr;exact pY hf hb hn (Nat.le_of_ble_eq_true hl) (Ak tq (jy fq c _ _ hok h))
end
theorem afj(n:Int)(h: -9223372036854775808<=n/\n<=9223372036854775807):IntKind.i64.wrap n=n:=IntWalk.i64_in n h
theorem wrap_u8(n:Int)(h:0<=n/\n<=255):IntKind.u8.wrap n=n:=IntWalk.u8_in n h
theorem getD_map{α β:Type}(f:α->β)(l:List α)(i:Nat)(d:β)(h:i<l.length):(l.map f).getD i d=f l[i]:=by
 simp[List.getD,h]
theorem VU{k:IntKind}{n:Int}:zY (.int k n)=.c (.d (.i k n)):=rfl
theorem SC{b:Bool}:zY (.bool b)=.c (.d (.b b)):=rfl
theorem VW{l:List UInt8}:zY (.string ⟨⟨l⟩⟩)=.c (.d (.s l)):=rfl
theorem SE:zY (.slice none 0 0)=.c (.bI []):=rfl
theorem abQ{tm:List (Nat×V)}{S:Store}{d:Nat}{v:V}:St.put ⟨tm,S⟩ (some d) v=⟨(d,v)::tm,S⟩:=rfl
theorem abR{tm:List (Nat×V)}{S:Store}{v:V}:St.put ⟨tm,S⟩ none v=⟨tm,S⟩:=rfl
theorem ahd{a b:V}:Gv (.c (.d (.b true))) a b=(True,a):=rfl
theorem ahe{a b:V}:Gv (.c (.d (.b false))) a b=(True,b):=rfl
theorem SF{tm:List (Nat×V)}{own:List Obj}{Ω:Store}{dst:Option Nat}{o:Obj}{mk:Key->V}{K:St->Prop}:
 newObj ⟨tm,own::Ω⟩ dst o mk K=K (St.put ⟨tm,(own++[o])::Ω⟩ dst (mk (0,own.length))):=rfl
theorem ahf{x:C}{s:St}{dst:Option Nat}{K:St->Prop}:Ad (.c x) s dst K=newObj s dst (.box [x]) (fun k=>.c (.ptr k 0)) K:=rfl
theorem abS{x:List C}{s:St}{dst:Option Nat}{K:St->Prop}:Ad (.agg x) s dst K=newObj s dst (.box x) (fun k=>.c (.ptr k 0)) K:=rfl
theorem abT{α β:Type}{f:α->Option β}:([]:List α).mapM f=some []:=by simp
theorem YX{α β:Type}{f:α->Option β}{x:α}{xs:List α}:(x::xs).mapM f=(f x).bind fun y=>(xs.mapM f).bind fun ys=>some (y::ys):=by
 rw[List.mapM_cons];rfl
theorem ai6{c:C}:C.down 0 c=some c:=by cases c<;>simp[C.down]
theorem abU{n m j:Nat}{es:List (List D)}:C.down n (.bX (n+m,j) es)=some (.bX (m,j) es):=by simp[C.down]
theorem YZ{n j:Nat}{es:List (List D)}:C.down n (.bX (n,j) es)=some (.bX (0,j) es):=by simp[C.down]
theorem ahg{n:Nat}{x:D}:C.down n (.d x)=some (.d x):=rfl
theorem abV{n:Nat}:C.down n .any=some .any:=rfl
theorem abW{n:Nat}{es:List (List D)}:C.down n (.bI es)=some (.bI es):=rfl
theorem abX{n m j off:Nat}:C.down n (.ptr (n+m,j) off)=some (.ptr (m,j) off):=by simp[C.down]
theorem Y0{n j off:Nat}:C.down n (.ptr (n,j) off)=some (.ptr (0,j) off):=by simp[C.down]
theorem abY{n m:Nat}{es:List (List D)}:C.down n (.nu m es)=some (.nu m es):=rfl
theorem abZ{Ω:Store}:nW ([]::Ω)=none:=rfl
theorem ab0{cs:List C}{own:List Obj}{Ω:Store}:nW ((.box cs::own)::Ω)=none:=rfl
theorem ab1{z:Nat}{es:List (List D)}{own:List Obj}{Ω:Store}:nW ((.tok z es::own)::Ω)=none:=rfl
theorem Y1{z:Nat}{es:List (List D)}{own:List Obj}{Ω:Store}:nW ((.eO z es::own)::Ω)=none:=rfl
theorem afk{m:List (List UInt8)}{own:List Obj}{Ω:Store}:nW ((.mp m::own)::Ω)=none:=rfl
theorem Y2{own:List Obj}{Ω:Store}:nW ((.dead::own)::Ω)=none:=rfl
theorem Y3{n z:Nat}{es:List (List D)}{own:List Obj}{Ω:Store}:nW ((.jg n z es::own)::Ω)=none:=rfl
theorem Y4{n:Nat}{own:List Obj}{Ω:Store}:nW ((.seed n::own)::Ω)=some n:=rfl
theorem Y5{es x:List (List D)}{z:Nat}{s:St}{dst:Option Nat}{K:St->Prop}:Ae none es s dst z x K=yZ (vY s.st) es s dst z x K:=rfl
theorem VX{es x:List (List D)}{z:Nat}{s:St}{dst:Option Nat}{K:St->Prop}:yZ false es s dst z x K=newObj s dst (.tok z x) (fun k=>.c (.bX k x)) K:=rfl
theorem Y6{es x:List (List D)}{z:Nat}{s:St}{dst:Option Nat}{K:St->Prop}:yZ true es s dst z x K=(es.length<x.length/\newObj s dst (.eO z x) (fun k=>.c (.iH k)) K):=rfl
theorem ab2{Ω:Store}:vY ([]::Ω)=false:=rfl
theorem ab3{cs:List C}{own:List Obj}{Ω:Store}:vY ((.box cs::own)::Ω)=false:=rfl
theorem ab4{z:Nat}{es:List (List D)}{own:List Obj}{Ω:Store}:vY ((.tok z es::own)::Ω)=false:=rfl
theorem Y7{z:Nat}{es:List (List D)}{own:List Obj}{Ω:Store}:vY ((.eO z es::own)::Ω)=false:=rfl
theorem afl{m:List (List UInt8)}{own:List Obj}{Ω:Store}:vY ((.mp m::own)::Ω)=false:=rfl
theorem Y8{own:List Obj}{Ω:Store}:vY ((.dead::own)::Ω)=false:=rfl
theorem Y9{n z:Nat}{es:List (List D)}{own:List Obj}{Ω:Store}:vY ((.jg n z es::own)::Ω)=false:=rfl
theorem Za{n:Nat}{own:List Obj}{Ω:Store}:vY ((.seed n::own)::Ω)=false:=rfl
theorem afm{own:List Obj}{Ω:Store}:vY ((.xf []::own)::Ω)=false:=rfl
theorem ab5{own:List Obj}{Ω:Store}{r:List (List D)}{rs:List (List (List D))}:vY ((.xf (r::rs)::own)::Ω)=true:=rfl
theorem ab6{n:Nat}{x:List (List D)}{z:Nat}{s:St}{dst:Option Nat}{K:St->Prop}:Ae (some n) [] s dst z x K=K (St.put ⟨s.tm,s.st⟩ dst (.c (.d (.ol n x)))):=rfl
theorem Zb{n:Nat}{y:List D}{es x:List (List D)}{z:Nat}{s:St}{dst:Option Nat}{K:St->Prop}:Ae (some n) (y::es) s dst z x K=newObj s dst (.tok z x) (fun k=>.c (.bX k x)) K:=rfl
theorem VY{n:Nat}{x:List (List D)}{z:Nat}{s:St}{dst:Option Nat}{K:St->Prop}:BZ false n s dst z x K=newObj s dst (.jg n z x) (fun k=>.c (.bX k x)) K:=rfl
theorem Zc{n:Nat}{x:List (List D)}{z:Nat}{s:St}{dst:Option Nat}{K:St->Prop}:BZ true n s dst z x K=K (St.put ⟨s.tm,s.st⟩ dst (.c (.d (.ol n x)))):=rfl
theorem ab7{own:List Obj}{Ω:Store}:U9 (own::Ω)=vZ own[1]? :=rfl
theorem VZ:vZ none=false:=rfl
theorem Zd{cs:List C}:vZ (some (.box cs))=false:=rfl
theorem Ze{z:Nat}{es:List (List D)}:vZ (some (.tok z es))=false:=rfl
theorem V3{n z:Nat}{es:List (List D)}:vZ (some (.jg n z es))=false:=rfl
theorem V4{z:Nat}{es:List (List D)}:vZ (some (.eO z es))=false:=rfl
theorem V5:vZ (some .dead)=false:=rfl
theorem ab8{m:List (List UInt8)}:vZ (some (.mp m))=false:=rfl
theorem afn{own:List Obj}{Ω:Store}{t:TypeId}:Ve (own::Ω) t=y5 own[0]? t:=rfl
theorem Zf{t:TypeId}:y5 none t=false:=rfl
theorem ab9{t:TypeId}{cs:List C}:y5 (some (.box cs)) t=false:=rfl
theorem acd{t:TypeId}{z:Nat}{es:List (List D)}:y5 (some (.tok z es)) t=false:=rfl
theorem Zg{t:TypeId}{n z:Nat}{es:List (List D)}:y5 (some (.jg n z es)) t=false:=rfl
theorem Zh{t:TypeId}{z:Nat}{es:List (List D)}:y5 (some (.eO z es)) t=false:=rfl
theorem Zi{t:TypeId}:y5 (some .dead) t=false:=rfl
theorem afo{t:TypeId}{m:List (List UInt8)}:y5 (some (.mp m)) t=false:=rfl
theorem Zj{t:TypeId}{n:Nat}:y5 (some (.seed n)) t=false:=rfl
theorem afp{t:TypeId}:y5 (some (.xf [])) t=rowIs t:=rfl
theorem ace{t:TypeId}{r:List (List D)}{rs:List (List (List D))}:y5 (some (.xf (r::rs))) t=false:=rfl
theorem V6{P:Program}{t:TypeId}{s:St}{dst:Option Nat}{K:St->Prop}{r:R}:Fj P t s dst K false r=gI s dst K r:=rfl
theorem Zk{P:Program}{t:TypeId}{s:St}{dst:Option Nat}{K:St->Prop}{p:Prop}{es:List (List D)}:Fj P t s dst K true (p,.c (.bI es))=(match P.underlying t with
 |some (.slice e)=>p/\newObj s dst (.eO (P.cellsOf e) es) (fun k=>.c (.iH k)) K
 |_=>False):=rfl
theorem afq{own:List Obj}{Ω:Store}{rs:List (List (List D))}:nW ((.xf rs::own)::Ω)=none:=rfl
theorem SG:vZ (some (.seed 0))=false:=rfl
theorem SH:vZ (some (.seed 1))=true:=rfl
attribute [go_sem ↓] Sc YE Sd Vw Oe J8 Qe Vx YF YG YH Vy Qf Vz VA J9 Sg Ka Si Sj VB Og Oh LQ LU Sk Sl Qg IU
attribute [go_sem] afn Zf ab9 acd Zg Zh Zi afo Zj afp ace rowIs V6 Zk afq zN CG List.getElem?_nil
attribute [go_sem] VX Y6 ab2 ab3 ab4 Y7 afl Y8 Y9 Za afm ab5 Y5 ab6 Zb VY Zc ab7 VZ Zd Ze V3 V4 V5 ab8 SG SH
theorem acf{P:Program}{t:TypeId}{n:Nat}{parts:List (Nat×V)}:kX P none t n parts=pW P t n parts:=rfl
def aey(m:Nat):R->R
 |(p,.c (.bI es))=>(p,.c (.nu m es))
 |_=>no
theorem acg{m:Nat}{p:Prop}{es:List (List D)}:aey m (p,.c (.bI es))=(p,.c (.nu m es)):=rfl
theorem ach{P:Program}{m:Nat}{t:TypeId}{n:Nat}{parts:List (Nat×V)}:kX P (some m) t n parts=aey m (pW P t n parts):=rfl
attribute [go_sem_proc] Nat.reduceEqDiff Nat.reduceAdd Nat.reduceLeDiff Nat.reduceSub Nat.reduceMul Nat.reduceBEq Int.reduceEq Int.reduceLT Int.reduceLE Int.reduceGT Int.reduceGE Int.reduceNeg Int.reduceToNat
attribute [go_sem_proc ↓] reduceIte
attribute [wf_preprocess] decide_eq_true_eq decide_eq_false_iff_not Bool.not_eq_true Bool.not_eq_false Bool.not_eq_eq_eq_not Bool.not_true Bool.not_false Classical.not_not
attribute [go_sem ↓] abI YA YB Vu abJ YC YD Vv R8 R9 Qb Qc afc abD Yv ag9 YS afd afe abM aff aha afg L6 Qn YT VR Qo YU VT abO SB YW Sb Qd Yx Yy Yz YQ YR VD abK VE YI Qh LV Sm Oi Kc Qi YJ YK Sn YL YM LW VF LX VG VH YN Qj Qk Oj Ol VI VJ Ke Sq YO Sr VK Ql VL Qm VN VO Kg Sv Kh Sw Sy VP Om Oo LY LZ Sz SA IV YP VQ
attribute [go_sem] Al Vs R7 abE afi afh xZ J7 abP ahc YV V.l9 C.l9 Obj.l9 abF abG abH Ce
 Vq Vr afa abz abA abB afb abC ev VU SC VW SE Cv abQ abR look ahd ahe SF ahf abS sQ sS vX ql Pv
 zq Gw vR headD UQ qQ Cw Bh yu qR Cx UR UU Lu UW TS Gx w9 Dq Cy vS vv capOf vw
 O4 uU xg sj su uE bg aX C.up V.up zV fZ kE V.sZ C.sZ ai6 abU YZ ahg abV abW abX Y0
 List.map_cons List.map_nil List.append_nil List.nil_append List.length_nil List.length_cons List.cons_append Option.map_some Option.map_none Option.bind_some Option.bind_none
 List.getElem?_cons_zero List.getElem?_cons_succ List.set_cons_zero List.set_cons_succ List.drop_zero List.drop_succ_cons List.drop_nil List.take_zero List.take_succ_cons List.take_nil
 if_true if_false true_and and_true Int.toNat_natCast List.getElem?_toArray List.size_toArray Nat.zero_add Nat.add_zero Bool.false_eq_true Bool.true_eq_false Bool.not_true Bool.not_false reduceCtorEq
 decide_true decide_false List.all_cons List.all_nil Bool.and_true Bool.true_and Option.isSome_some Option.isSome_none afj getD_map abT YX Jz splice List.length_map Dr Cz vB pW List.size_toArray abZ ab0 ab1 Y1 afk Y2 Y3 Y4 acf ach acg abY
section
variable {P:Program} {S S':Store} {N:Nat} {s:St}
def jC:List Nat->List V->List (Nat×V)
 |t::ts,v::vs=>(t,v)::jC ts vs
 |_,_=>[]
theorem uX(f:Nat->V):∀(ts:List Nat)(t:Nat),look (jC ts (ts.map f)) t=f t\/look (jC ts (ts.map f)) t=.any
 |[],t=>.inr rfl
 |u::us,t=>by
  show(if u=t then f u else look (jC us (us.map f)) t)=f t\/(if u=t then f u else look (jC us (us.map f)) t)=.any;by_cases e:u=t
  ·left;rw[if_pos e,e]
  ·rw[if_neg e];exact uX f us t
def Inv{ι:Type}(N:Nat)(ts:List Nat)(f:ι->List V)(g:ι->Store)(p:ι->Prop)(μ:ι->Nat)(i:ι)(s':St):Prop:=∃j s0,μ j<μ i/\gK N s' s0/\ts.map (look s0.tm)=f j/\s0.st=g j/\p j
theorem dG{ι:Type}{ts:List Nat}{f:ι->List V}{g:ι->Store}{p:ι->Prop}{μ:ι->Nat}{i:ι}(j:ι)(h1:μ j<μ i)(h2:ts.map (look s.tm)=f j)(h3:s.st=g j)(h4:p j):Inv N ts f g p μ i s:=
 ⟨j,s,h1,gK.refl _ _,h2,h3,h4⟩
theorem Am:∀(ts:List Nat)(vs:List V),ts.Nodup->ts.length=vs.length->ts.map (look (jC ts vs))=vs
 |[],[],_,_=>rfl
 |t::ts,v::vs,hn,hl=>by
  have hn':=List.nodup_cons.1 hn;have ih:=Am ts vs hn'.2 (by simpa using hl);simp only[jC,List.map_cons,look,if_true,List.cons.injEq,true_and];rw[<-ih];refine List.map_congr_left fun u hu=> ?_;have hne:t≠u:=fun e=>hn'.1 (e▸hu);rw[if_neg hne,ih]
theorem fu{ι:Type}{ts:List Nat}{f:ι->List V}{g:ι->Store}{p:ι->Prop}{μ:ι->Nat}{i:ι}{tm:List (Nat×V)}{own:List Obj}{Ω:Store}(n:Nat)(hnd:ts.Nodup)(j:ι)(h1:μ j<μ i)(h2:ts.map (look tm)=f j)(h3:own.take n::Ω=g j)
 (hr:ny n (jC ts (f j))=true)(ho:(own.take n).all (Obj.refs n)=true)(h4:p j):Inv N ts f g p μ i ⟨tm,own::Ω⟩:=by
 refine⟨j,⟨jC ts (f j),own.take n::Ω⟩,h1,?_,?_,h3,h4⟩
 ·have hg:gK N ⟨tm,own::Ω⟩ ⟨jC ts (f j),own::Ω⟩:=by
   rw[<-h2];exact IQ fun t=>uX _ ts t
  exact hg.trans (J3 n hr ho)
 ·exact Am ts (f j) hnd (by rw[<-h2];simp)
theorem bT{ι:Type}{c:Code}{Q:Exit->St->Prop}(fq:P.follows .mixedOrders=true)(hok:codeOk N c=true)(ts:List Nat)(f:ι->List V)(g:ι->Store)(p:ι->Prop)(μ:ι->Nat)(i0:ι)
 (h1:ts.map (look s.tm)=f i0)(h2:s.st=g i0)(h3:p i0)
 (round:∀i,p i->CW P N c (jJ (Inv N ts f g p μ i) Q) ⟨jC ts (f i),g i⟩):AW P N (.loop c) Q s:=by
 refine LH (ι:=ι) (fun i s=>∃s0,gK N s s0/\ts.map (look s0.tm)=f i/\s0.st=g i/\p i) μ i0 ⟨s,gK.refl _ _,h1,h2,h3⟩ fun i s hI=> ?_;obtain⟨s0,hg,h1,h2,h3⟩:=hI;refine lU ?_ hg
 have hr:=(jy fq c _ _ hok (round i h3)).mono (Q':=jJ (fun s'=>∃j,μ j<μ i/\∃s0,gK N s' s0/\ts.map (look s0.tm)=f j/\s0.st=g j/\p j) Q) fun e s' h=>by
  cases e with
  |normal=>
   obtain⟨j,s0,a1,a2,a3,a4,a5⟩:=h;exact⟨j,a1,s0,a2,a3,a4,a5⟩
  |_=>exact h
 obtain⟨tm,st⟩:=s0;simp only at h1 h2;subst h2;rw[<-h1] at hr;exact Vp hr fun t=>uX _ ts t
theorem aci:nG P [] s=(True,.eH []):=rfl
theorem acj{x:ResultVar}:nG P [x] s=wo P s x:=rfl
theorem acn{x y:ResultVar}{z:List ResultVar}:nG P (x::y::z) s=(match(nX P s (x::y::z)).2 with
 |some ys=>((nX P s (x::y::z)).1,.eH ys)
 |none=>no):=rfl
end
attribute [go_sem] EX OB
attribute [go_sem] jC aci acj acn wo nX JV gB V.ret GD
end Go.Ab