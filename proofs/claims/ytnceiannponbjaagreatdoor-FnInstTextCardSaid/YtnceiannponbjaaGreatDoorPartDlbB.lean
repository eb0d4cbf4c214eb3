/-
  SEVERAL TEXTS IN ONE (merged by program): contracts and models, each with its own heading.
-/
import Derived.Test.YtnceiannponbjaaGreatDoorPartDlbA
import Derived.LoopN
import Derived.StillTail
set_option linter.unusedSimpArgs false
set_option linter.unusedVariables false
namespace Go.Ab
def rowIs(t:TypeId):Bool:=t==46||t==54||t==25
def yL(o:Option Obj)(t:TypeId):Bool:=match o with
 |some (.xf [])=>rowIs t
 |_=>false
def U5(S:Store)(t:TypeId):Bool:=yL (aW S (0,0)) t
def Ez(P:Program)(t:TypeId)(s:St)(dst:Option Nat)(K:St->Prop)(b:Bool)(r:R):Prop:=
 match b,r with
 |false,r=>r.1/\K (s.put dst r.2)
 |true,(p,.c (.bE es))=>match P.underlying t with
  |some (.slice e)=>p/\newObj s dst (.dN (P.cellsOf e) es) (fun k=>.c (.gQ k)) K
  |_=>False
 |true,_=>False
def Ca(P:Program)(t u:TypeId)(k:Key)(y:V)(s:St)(dst:Option Nat)(K:St->Prop):Prop:=
 match P.underlying t,OV P u y,aW s.st k with
 |some (.slice e),some ys,some (.dN aQ es)=>aQ=P.cellsOf e/\(∀y∈ys,y.length=P.cellsOf e)/\P.bytesOf e<=4096/\(∃zs,gZ P e=some zs/\zs.length=P.cellsOf e)/\es.length+ys.length<=1073741824/\
   newObj ⟨s.tm,aX s.st k .dead⟩ dst (.dN aQ (es++ys)) (fun k=>.c (.gQ k)) K
 |_,_,_=>False
def zu(P:Program)(t u:TypeId)(x y:V)(s:St)(dst:Option Nat)(K:St->Prop):Prop:=
 match x with
 | .c (.gQ k)=>Ca P t u k y s dst K
 |x=>pQ P t u x y s dst K
def gy(P:Program)(o:Oper)(s:St)(K:St->Prop):Prop:=
 match o.op with
 | .call {callee:=.builtin .append,args:=vP,argTypes:=ts}=>match vP.toList,ts.toList with
   |[x,y],[t,u]=>zu P t u (ev s.tm x) (ev s.tm y) s o.dst K
   |_,_=>False
 | .buildSlice t n parts=>Ez P t s o.dst K (U5 s.st t) (nval P s.st s.tm (.buildSlice t n parts))
 |_=>bQ P o s K
section
variable {P:Program} {w w':World} {σ σ':Nat->Nat} {S:Store} {β β':Hs} {N:Nat} {s:St} {a:Act}
theorem dL.lay{own:List Obj}{Ω:Store}{bo:List Value}{bΩ:Hs}{o:Obj}{h:Value}(hS:dL w σ (own::Ω) (bo::bΩ))(hlen:bo.length=own.length)
 (ho:fM w σ ((own++[o])::Ω) ((bo++[h])::bΩ) o h)(hb:∀b,owns o h b->¬Own (own::Ω) (bo::bΩ) b):
 dL w σ ((own++[o])::Ω) ((bo++[h])::bΩ)/\Keep (own::Ω) (bo::bΩ) ((own++[o])::Ω) ((bo++[h])::bΩ)/\∀b,Own ((own++[o])::Ω) ((bo++[h])::bΩ) b->Own (own::Ω) (bo::bΩ) b\/owns o h b:=by
 have hkeep:Keep (own::Ω) (bo::bΩ) ((own++[o])::Ω) ((bo++[h])::bΩ):=by
  intro k o1 h1;obtain⟨h2,tQ,_⟩:=hS.obj k o1 h1;exact⟨o1,iW _ _ _ _ _ h1,by rw[iW _ _ _ _ _ tQ,tQ];exact .refl _ _⟩
 have hinv:∀k o1 h1,aW ((own++[o])::Ω) k=some o1->aW ((bo++[h])::bΩ) k=some h1->
  (aW (own::Ω) k=some o1/\aW (bo::bΩ) k=some h1)\/(k=(0,own.length)/\o1=o/\h1=h):=by
  intro k o1 h1 e1 e2;rcases jY _ _ _ _ _ e1 with e1|⟨rfl,rfl⟩
  ·left;refine⟨e1,?_⟩;rcases jY _ _ _ _ _ e2 with e2|⟨rfl,rfl⟩
   ·exact e2
   ·rw[aZ,hlen] at e1;have:=(List.getElem?_eq_some_iff.1 e1).1;omega
  ·right;rw[<-hlen,bG] at e2;exact⟨rfl,rfl,(Option.some.inj e2).symm⟩
 refine⟨⟨?_,?_,⟨?_,?_⟩,hS.live,hS.rH⟩,hkeep,?_⟩
 ·intro k o1 h1;rcases jY _ _ _ _ _ h1 with h1|⟨rfl,rfl⟩
  ·obtain⟨h2,tQ,hr⟩:=hS.obj k o1 h1;exact⟨h2,iW _ _ _ _ _ tQ,hr.mono (dQ.refl _ _) (hkeep.drop _) fun b hb=>⟨rfl,rfl⟩⟩
  ·exact⟨h,by rw[<-hlen,bG],ho⟩
 ·intro k k' o1 o2 h1 h2 b e1 e2 e3 e4 e5 e6;rcases hinv k o1 h1 e1 e2 with⟨f1,f2⟩|⟨rfl,rfl,rfl⟩
  ·rcases hinv k' o2 h2 e4 e5 with⟨g1,g2⟩|⟨rfl,rfl,rfl⟩
   ·exact hS.apart _ _ _ _ _ _ _ f1 f2 e3 g1 g2 e6
   ·exact absurd ⟨k,o1,h1,f1,f2,e3⟩ (hb b e6)
  ·rcases hinv k' o2 h2 e4 e5 with⟨g1,g2⟩|⟨rfl,rfl,rfl⟩
   ·exact absurd ⟨k',o2,h2,g1,g2,e6⟩ (hb b e3)
   ·rfl
 ·have:=hS.shape.1;simpa using this
 ·intro l fr hl
  cases l with
  |zero=>
   simp at hl;exact⟨_,rfl,by rw[<-hl];simp[hlen]⟩
  |succ l=>exact hS.shape.2 (l+1) fr hl
 ·rintro b ⟨k,o1,h1,e1,e2,e3⟩;rcases hinv k o1 h1 e1 e2 with⟨f1,f2⟩|⟨rfl,rfl,rfl⟩
  ·exact .inl ⟨k,o1,h1,f1,f2,e3⟩
  ·exact .inr e3
theorem U6{t u ty e:TypeId}{sv:Value}{size:Nat}{es ys:List (List D)}{yv:Value}(hl:∀b,b<w.heap.size\/σ b=0)
 (ht:P.underlying t=some (.slice e))(hu:Jg P u)(hz:∃zs,gZ P e=some zs/\zs.length=size)(hsize:P.cellsOf e=size)(hb:P.bytesOf e<=4096)
 (hs:fM w σ S β (.dN size es) sv)(hy:xV P w σ size ys yv)(hlen:es.length+ys.length<=1073741824):
 ∃r w',(Builtin.append_ #[t,u] ty #[sv,yv]).run P w=.ok r w'/\(∀S' β',fM w' σ S' β' (.dN size (es++ys)) r)/\w.heap.size<=w'.heap.size/\w'.os=w.os/\w'.output=w.output/\
  dQ w σ w' σ/\(∀b,b<w'.heap.size\/σ b=0)/\(∀b,b<w.heap.size->¬owns (.dN size es) sv b->w'.heap[b]? =w.heap[b]?)/\
  (∀b,owns (.dN size (es++ys)) r b->owns (.dN size es) sv b\/w.heap.size<=b)/\r.oneCell'=true:=by
 obtain⟨zs,hzs,hzl⟩:=hz;obtain⟨z,tZ,hzc⟩:=rY (w:=w) (σ:=σ) (S:=S) (β:=β) hzs
 have Ev:z.cells.size=size:=by have:=hzc.1;simp at this;omega
 have hex:∃info,P.info? e=some info/\info.zero=some z:=by
  unfold gZ at hzs
  cases hi:P.info? e with
  |none=>rw[hi] at hzs;cases hzs
  |some i=>
   refine⟨i,rfl,?_⟩
   cases hz:i.zero with
   |none=>rw[hi] at hzs;simp[hz] at hzs
   |some z'=>
    have:(zeroValue e).run P w=.ok z' w:=by simp[zeroValue,typeInfo,hi,hz]
    rw[tZ] at this;cases this;rfl
 obtain⟨info,hi,hiz⟩:=hex
 have hib:info.bytes=P.bytesOf e:=by simp[Program.bytesOf,hi]
 have his:info.size=size:=by rw[<-hsize];simp[Program.cellsOf,hi]
 have hs0:=hs;obtain⟨hle,base,sCap,rfl,hcap,h4⟩:=hs;obtain⟨hyl,hys,ya,Ji,OP,XJ⟩:=hy w rfl;have hall:∀x∈es++ys,x.length=size:=fun x hx=>(List.mem_append.1 hx).elim (hle x) (hys x);have hfl:es.flatten.length=es.length*size:=gN es size hle;have hfy:ys.flatten.length=ys.length*size:=gN ys size hys;have hlen':(es++ys).length=es.length+ys.length:=List.length_append
 have hone:∀v∈ya.toList,v.oneCell'=true:=fun v hv=>by
  obtain⟨j,hj⟩:=List.getElem?_of_mem hv;have hjl:=(List.getElem?_eq_some_iff.1 hj).1;simp at hjl;obtain⟨v',hv',hr⟩:=XJ j _ (List.getElem?_eq_getElem (by omega));rw[Array.getElem?_toList] at hj;rw[hj] at hv';cases hv';exact hr.one
 by_cases hn0:ys.length=0
 ·have aav:ys=[]:=List.eq_nil_of_length_eq_zero hn0;subst aav
  have hya:ya= #[]:=by simpa using OP
  subst hya;refine⟨_,w,Et ht hu hi hyl (by rw[his];exact Ji) hcap,fun S' β'=> ?_,Nat.le_refl _,rfl,rfl,dQ.refl _ _,hl,fun b _ _=>rfl,fun b hb=>.inl (by simpa using hb),rfl⟩;rw[List.append_nil];exact hs0
 by_cases hroom:es.length+ys.length<=sCap
 ·have hc0:sCap≠0:=by omega
  obtain⟨b,c,ct,rfl,hbc,hσ,hfit,hcells⟩:=h4.resolve_left hc0
  have hmul:es.length*size+ys.length*size<=sCap*size:=by rw[<-Nat.add_mul];exact Nat.mul_le_mul_right _ hroom
  have hrun:=zI (P:=P) (ty:=ty) (b:=b) (off:=0) ht hu hi hyl (by rw[his];exact Ji) hroom hbc (by rw[his,OP];omega) hone;rw[his,Nat.zero_add] at hrun;generalize hc2:(c.toList.take (es.length*size)++ya.toList++c.toList.drop (es.length*size+ya.size)).toArray=c2 at hrun
  have zH:c2.size=c.size:=by rw[<-hc2];simp;omega
  have hheap:(w.setRow b c2).heap[b]? =some (.cells c2 ct (0,0)):=setRow_heap w b c c2 ct (0,0) hbc
  have hlow:∀i,i<es.length*size->c2[i]? =c[i]? :=fun i hi=>by
   rw[<-hc2,List.getElem?_toArray,List.append_assoc,List.getElem?_append_left (by simp;omega),List.getElem?_take_of_lt hi,Array.getElem?_toList]
  have hmid:∀j,j<ya.size->c2[es.length*size+j]? =ya[j]? :=fun j hj=>by
   rw[<-hc2,List.getElem?_toArray,List.getElem?_append_left (by simp;omega),List.getElem?_append_right (by simp;omega),<-Array.getElem?_toList];congr 1;simp;omega
  have hn:dQ w σ (w.setRow b c2) σ:=by
   intro b1 c1 t1 yV e1;refine⟨Nat.le_refl _,fun _=>rfl,?_⟩;by_cases hb1:b1=b
   ·subst hb1;rw[hbc] at e1;cases e1;exact⟨c2,hheap,zH,fun i hi=>by omega⟩
   ·exact⟨c1,(fE w b c2 b1 hb1).trans e1,rfl,fun _ _=>rfl⟩
  refine⟨_,_,hrun,fun S' β'=>⟨hall,_,sCap,by rw[hlen'],by omega,.inr ⟨b,c2,ct,rfl,hheap,hσ,by omega,fun j d hj=> ?_⟩⟩,by rw[setRow_size];exact Nat.le_refl _,rfl,rfl,hn,fun x=>by rw[setRow_size];exact hl x,fun x hx hne=> ?_,fun x hx=>.inl ?_,rfl⟩
  ·rw[List.flatten_append] at hj;by_cases hjl:j<es.length*size
   ·rw[List.getElem?_append_left (by omega)] at hj;obtain⟨v,hv,hr⟩:=hcells j d hj;exact⟨v,by rw[hlow j hjl];exact hv,hr.mono hn⟩
   ·rw[List.getElem?_append_right (by omega),hfl] at hj;obtain⟨v,hv,hr⟩:=XJ _ d hj;have hlt:=(Array.getElem?_eq_some_iff.1 hv).1;refine⟨v,?_,hr.mono hn⟩;rw[<-hv,<-hmid _ hlt];congr 1;omega
  ·exact fE _ _ _ _ fun e=>hne (by simp[owns,blk,hc0,e])
  ·simpa [owns,blk] using hx
 ·obtain⟨afN,_,Jj,OT,Jk,OU⟩:=hy w.drew rfl
  obtain⟨oa,hor,Ew,hod⟩:∃oa:Array Value,(Builtin.firstCells size es.length (.slice base es.length sCap)).run P w.drew=.ok oa w.drew/\oa.size=es.length*size/\∀(j:Nat)(d:D),es.flatten[j]? =some d->∃v,oa[j]? =some v/\cu w σ d v:=by
   rcases h4 with h0|⟨b,c,ct,rfl,hbc,hσ,hfit,hcells⟩
   ·have he:es=[]:=List.eq_nil_of_length_eq_zero (by omega);subst he;refine⟨#[],?_,by simp,fun j d hj=>by simp at hj⟩
    cases base with
    |none=>rfl
    |some b=>simp[Builtin.firstCells,loadCells,loadCellsFrom]
   ·have hm:es.length*size<=sCap*size:=Nat.mul_le_mul_right _ hcap;have hbc':w.drew.heap[b]? =some (.cells c ct (0,0)):=hbc;have hex:∀j,j<es.length*size->∃v,c[0+j]? =some v:=fun j hj=>⟨c[0+j]'(by omega),Array.getElem?_eq_getElem (by omega)⟩;obtain⟨hpl,hpv⟩:=xU c 0 (es.length*size) hex;refine⟨_,rW (a:=⟨b,0,none⟩) rfl hbc' _ hex,by simpa using hpl,fun j d hj=> ?_⟩;obtain⟨v,hv,hr⟩:=hcells j d hj;have hjl:=(List.getElem?_eq_some_iff.1 hj).1;refine⟨v,?_,hr⟩;rw[List.getElem?_toArray,hpv j (by omega),Nat.zero_add];exact hv
  obtain⟨cap,rest,F7,hrest,hrun⟩:=zJ (P:=P) (ty:=ty) (base:=base) (sCap:=sCap) ht hu hi hiz hyl (by rw[his];exact OT) (by rw[his];exact hor) (by omega) hlen (by rw[hib];exact hb)
  let w':World:={w.drew with heap:=w.heap.push (.cells (oa++Jj++rest) e)}
  have hn:dQ w σ w' σ:=by
   intro b1 c1 t1 yV e1
   have hne:b1≠w.heap.size:=by have:=lt_of_some e1;omega
   refine⟨Nat.le_refl _,fun _=>rfl,c1,?_,rfl,fun _ _=>rfl⟩;simp only[w'];rw[Array.getElem?_push,if_neg hne];exact e1
  have hn':dQ w.drew σ w' σ:=hn
  have hheap:w'.heap[w.heap.size]? =some (.cells (oa++Jj++rest) e (0,0)):=by simp[w']
  have O3:σ w.heap.size=0:=by
   rcases hl w.heap.size with h|h
   ·omega
   ·exact h
  refine⟨_,w',hrun,fun S' β'=>⟨hall,_,cap,by rw[hlen'],by omega,.inr ⟨w.heap.size,_,e,rfl,hheap,O3,?_,fun j d hj=> ?_⟩⟩,by simp[w'],rfl,rfl,hn,fun x=> ?_,fun x hx _=> ?_,fun x hx=>.inr ?_,rfl⟩
  ·simp only[Array.size_append,Ew,Jk,hrest,Ev];rw[<-Nat.add_mul,<-Nat.add_mul];exact Nat.mul_le_mul_right _ (by omega)
  ·rw[List.flatten_append] at hj;by_cases hjl:j<es.length*size
   ·rw[List.getElem?_append_left (by omega)] at hj;obtain⟨v,hv,hr⟩:=hod j d hj;refine⟨v,?_,hr.mono hn⟩;rw[Array.append_assoc,Array.getElem?_append_left (by omega)];exact hv
   ·rw[List.getElem?_append_right (by omega),hfl] at hj;obtain⟨v,hv,hr⟩:=OU _ d hj;have hlt:=(Array.getElem?_eq_some_iff.1 hv).1;refine⟨v,?_,hr.mono hn'⟩;rw[Array.append_assoc,Array.getElem?_append_right (by omega),Ew,Array.getElem?_append_left (by omega)];exact hv
  ·simp only[w',Array.size_push];exact(hl x).imp (fun h=>by omega) id
  ·have hne:x≠w.heap.size:=by omega
   simp only[w'];rw[Array.getElem?_push,if_neg hne]
  ·simp only[owns,blk] at hx;split at hx
   ·cases hx
   ·cases hx;exact Nat.le_refl _
theorem O5{o:Oper}{K:St->Prop}{Q:Exit->Act->World->Prop}{t u:TypeId}{x y:Operand}{k:Key}(hrun:∀r w',(Builtin.append_ #[t,u] o.type #[a.eval x,a.eval y]).run P w=.ok r w'->(execOp a.eval o).run P w=.ok (.value r) w')
 (hd:∀d,o.dst=some d->d<N)(hR:jg N s a w σ β)(hx:ev s.tm x=.c (.gQ k))(h:Ca P t u k (ev s.tm y) s o.dst K):o.wp P a w (Then N s.st β σ w K) Q:=by
 have hxr:=jd hR.T x;have Ji:=jd hR.T y;rw[hx] at hxr;unfold Ca at h;split at h
 ·rename_i e ys aQ es ht hsrc hk;obtain⟨rfl,h1,h2,h3,h5,h6⟩:=h;obtain⟨hu,hsa⟩:=OZ hsrc Ji h1;obtain⟨⟨ob,ho,U3⟩,hone⟩:=hxr;rw[hk] at ho;cases ho;have hβ:=U3 _ _ rfl;obtain⟨hh,hb,Bv⟩:=hR.S.obj k _ hk;rw[hβ] at hb;cases hb;obtain⟨r,w',hr,hro,hsz,hos,hout,hn,hl,vJ,hbk,h1c⟩:=U6 (P:=P) (ty:=o.type) hR.S.live ht hu h3 rfl h2 Bv hsa h5;obtain⟨hS1,hk1,yM⟩:=hR.S.set (o':=.dead) (h':=a.eval x) hk hβ hsz hos hout hn hl (fun b h1 h2=>⟨vJ b h1 h2,rfl⟩) (.inl rfl) trivial (fun b hb=>by cases hb);have e1:aX β k (a.eval x)=β:=uQ (a.eval x) _ _ _ hβ;rw[e1] at hS1 hk1 yM;obtain⟨tm,st⟩:=s;have hsh:=hS1.shape
  cases hst:aX st k Obj.dead with
  |nil=>simp only[newObj,hst] at h6
  |cons own Ω=>
   simp only[newObj,hst] at h6
   have aaw:dL w' σ (own::Ω) β:=by rw[<-hst];exact hS1
   have hfr:∃bo bΩ,β=bo::bΩ/\bo.length=own.length:=by
    cases β with
    |nil=>have:=aaw.shape.1;simp at this
    |cons bo bΩ=>
     refine⟨bo,bΩ,rfl,?_⟩;obtain⟨gr,q1,q2⟩:=aaw.shape.2 0 own rfl;simp at q1;rw[q1];exact q2
   obtain⟨bo,bΩ,rfl,hlen⟩:=hfr
   have hnot:∀b,owns (.dN (P.cellsOf e) (es++ys)) r b->¬Own (own::Ω) (bo::bΩ) b:=by
    intro b hb ⟨k1,o1,h1,e1,e2,e3⟩
    have hin:aW st k1=some o1/\k1≠k:=by
     have G5:aW (aX st k Obj.dead) k1=some o1:=by rw[hst];exact e1
     by_cases q:k1=k
     ·subst q;rw[bW _ _ _ _ hk] at G5;cases G5;cases e3
     ·rw[dR _ _ _ _ (Ne.symm q)] at G5;exact⟨G5,q⟩
    rcases hbk b hb with k2|k2
    ·exact hin.2 (hR.S.apart k1 k o1 _ h1 _ b hin.1 e2 e3 hk hβ k2)
    ·have:=hR.S.BP ⟨k1,o1,h1,hin.1,e2,e3⟩;omega
   obtain⟨hS2,hk2,hown⟩:=aaw.lay hlen (hro _ _) hnot
   have aiR:Keep st (bo::bΩ) (own::Ω) (bo::bΩ):=by rw[<-hst];exact hk1
   have F8:Step st (bo::bΩ) σ w (own::Ω) (bo::bΩ) σ w':=by rw[<-hst];exact yM
   refine jv (x:=.c (.gQ (0,own.length))) (v:=r) hd hR hS2 (aiR.trans hk2) ⟨F8.size,F8.os,F8.output,F8.far,F8.near,fun b hb=> ?_⟩ ⟨⟨_,bG _ _ _,fun a b e=> ?_⟩,h1c⟩ (.inl rfl) (hrun _ _ hr) h6
   ·rcases hown b hb with q|q
    ·exact F8.own b q
    ·rcases hbk b q with q2|q2
     ·exact .inl ⟨k,_,_,hk,hβ,q2⟩
     ·exact .inr q2
   ·rw[<-hlen,bG]
 ·exact h.elim
theorem XO{o:Oper}{K:St->Prop}{Q:Exit->Act->World->Prop}{t:TypeId}{n:Nat}{parts:Array (Nat×Operand)}(ho:o.op=.buildSlice t n parts)(hd:∀d,o.dst=some d->d<N)(hR:jg N s a w σ β)
 (h:Ez P t s o.dst K (U5 s.st t) (nval P s.st s.tm (.buildSlice t n parts))):o.wp P a w (Then N s.st β σ w K) Q:=by
 unfold Ez at h;split at h
 ·obtain⟨h1,h2⟩:=h;rw[<-ho] at h1 h2;obtain⟨v,w',σ',hrun,hg,hv⟩:=Ja o hR.S hR.T h1;exact oz hd hR hg hv hrun h2
 ·rename_i p es hb hr;split at h
  ·rename_i e ht;obtain⟨hp,h6⟩:=h;have hr':mq P (nS s.st) s.st s.tm (.buildSlice t n parts)=(p,.c (.bE es)):=hr;simp only[mq] at hr'
   cases hlab:nS s.st with
   |some m=>
    rw[hlab] at hr';simp only[kV] at hr';split at hr'<;>cases hr'
   |none=>
    rw[hlab] at hr';simp only[kV,oV,ht] at hr';split at hr'
    ·rename_i es' hes;cases hr';obtain⟨h1,h2,h3⟩:=hp
     obtain⟨ca,hrun,hca,hle,hcells⟩:=AJ (P:=P) (w:=w) (σ:=σ) (S:=s.st) (β:=β) (t:=t) (n:=n) (parts:=parts.toList.map fun x=>(x.1,ev s.tm x.2)) (pv:=parts.toList.map fun x=>(x.1,a.eval x.2)) (by simp)
      (fun j x hx=>by
        rw[List.getElem?_map] at hx ⊢
        cases hc:parts.toList[j]? with
        |none=>rw[hc] at hx;cases hx
        |some y=>rw[hc] at hx;cases hx;exact⟨_,rfl,jd hR.T y.2⟩) ht hes h1 h2 h3
     have hrun':(execOp a.eval o).run P w=.ok (.value (.slice (some ⟨w.heap.size,0,none⟩) n n)) {w with heap:=w.heap.push (.cells ca e)}:=by
      clear h6 hr;obtain⟨dst,op,ty,pos,after,guard⟩:=o;simp only at ho;subst ho;simp[execOp];rw[OI,hrun];rfl
     have hg:=y8 w σ hR.S.live ca e 0
     have O3:σ w.heap.size=0:=by
      rcases hR.S.live w.heap.size with h|h
      ·omega
      ·exact h
     obtain⟨tm,st⟩:=s
     cases st with
     |nil=>exact h6.elim
     |cons own Ω=>
      obtain⟨bo,bΩ,rfl,hlen⟩:=frames hR
      obtain⟨hS',hk,hst⟩:=hR.S.push (o:=.dN (P.cellsOf e) es) (h:=.slice (some ⟨w.heap.size,0,none⟩) n n) hg hlen
       ⟨hle,some ⟨w.heap.size,0,none⟩,n,by rw[h1],by omega,.inr ⟨w.heap.size,ca,e,rfl,by simp,by simp,by rw[hca,h1];exact Nat.le_refl _,fun j d hj=>by
         obtain⟨v,hv,hr⟩:=hcells j d hj
         exact⟨v,hv,hr.mono hg.near⟩⟩⟩
       (fun b hb=>by
         simp only[owns,blk] at hb;split at hb
         ·cases hb
         ·cases hb;exact Nat.le_refl _)
      refine jv (x:=.c (.gQ (0,own.length))) hd hR hS' hk hst ⟨⟨_,bG _ _ _,fun aQ es e=> ?_⟩,rfl⟩ (.inl rfl) hrun' h6;rw[<-hlen,bG]
    ·cases hr'
  ·exact h.elim
 ·exact h.elim
theorem G6(hw:∀{o:Oper}{K:St->Prop}{Q:Exit->Act->World->Prop},(∀d,o.dst=some d->d<N)->bQ P o s K->o.wp P a w (Then N s.st β σ w K) Q){o:Oper}{K:St->Prop}{Q:Exit->Act->World->Prop}(hd:∀d,o.dst=some d->d<N)(hR:jg N s a w σ β)(h:gy P o s K):o.wp P a w (Then N s.st β σ w K) Q:=by
 unfold gy at h;split at h
 ·rename_i vP ts ho;split at h
  ·rename_i x y t u hx ht;unfold zu at h;split at h
   ·rename_i k hk;refine O5 (fun r w' hr=> ?_) hd hR hk h;clear h;obtain⟨dst,op,ty,pos,after,guard⟩:=o;simp only at ho;subst ho
    obtain rfl:vP= #[x,y]:=by rw[<-Array.toArray_toList (xs:=vP),hx]
    obtain rfl:ts= #[t,u]:=by rw[<-Array.toArray_toList (xs:=ts),ht]
    simp only at hr;simp[execOp,resolve,invoke,builtin,hr]
   ·refine hw hd ?_;unfold bQ;rw[ho];simp only[mD,hx,ht];exact h
  ·exact h.elim
 ·rename_i t n parts ho;exact XO ho hd hR h
 ·exact hw hd h
end
section
variable {P:Program} {w w':World} {σ σ':Nat->Nat} {S:Store} {β β':Hs} {N:Nat} {s:St} {a:Act}
theorem CY{o:Oper}{K:St->Prop}{Q:Exit->Act->World->Prop}(hd:∀d,o.dst=some d->d<N)(hR:jg N s a w σ β)(h:bQ P o s K):o.wp P a w (Then N s.st β σ w K) Q:=by
 unfold bQ at h;split at h
 ·rename_i t ho;unfold rZ at h;split at h
  ·rename_i zs hz;obtain⟨z,tZ,hzc⟩:=rY (w:=w) (σ:=σ) (S:=s.st) (β:=β) hz;refine Jl (v:=z) (t:=t) hd hR hzc (fun ad w' OW=> ?_) h;obtain⟨dst,op,ty,pos,after,guard⟩:=o;simp only at ho;subst ho;simp[execOp,Instr.alloc,tZ,OW]
  ·exact h.elim
 ·rename_i t x ho;unfold zK at h;split at h
  ·rename_i cs hcs;refine Jl (v:=a.eval x) (t:=t) hd hR (vI hcs (jd hR.T x)) (fun ad w' OW=> ?_) h;obtain⟨dst,op,ty,pos,after,guard⟩:=o;simp only at ho;subst ho;simp[execOp,Instr.box,OW]
  ·exact h.elim
 ·rename_i t x y ho;exact RH ho hd hR h
 ·rename_i t x y ho;exact U2 ho hd hR h
 ·rename_i t ho;exact OX ho hd hR h
 ·rename_i t x y z ho;exact OY ho hd hR h
 ·rename_i c ho;exact Jm ho hd hR h
 ·obtain⟨h1,h2⟩:=h;obtain⟨v,w',σ',hrun,hg,hv⟩:=Ja o hR.S hR.T h1;exact oz hd hR hg hv hrun h2
def fG(R:Array Oper)(j:Nat):Option Nat:=(R[j]?).bind (·.dst)
def sj(P:Program)(R:Array Oper)(o:Oper)(s:St)(K:St->Prop):Prop:=
 match o.guard with
 |none=>gy P o s K
 |some (j,want)=>
  match(fG R j).map (look s.tm) with
  |some (.c (.d (.b x)))=>(x=want->gy P o s K)/\(x= !want->K (s.put o.dst (.eU [])))
  |some (.eU [])=>K (s.put o.dst (.eU []))
  |_=>False
def zM(P:Program)(R:Array Oper):List Oper->St->(St->Prop)->Prop
 |[],s,K=>K s
 |o::os,s,K=>sj P R o s fun s'=>zM P R os s' K
theorem Then.mono{K K':St->Prop}{a':Act}{w':World}(hK:∀s,K s->K' s)(h:Then N S β σ w K a' w'):Then N S β σ w K' a' w':=by
 obtain⟨s',σ',β',h1,h2,h3,h4⟩:=h;exact⟨s',σ',β',h1,h2,h3,hK _ h4⟩
theorem zN{R:Array Oper}{j:Nat}{x:Bool}(hR:jg N s a w σ β)(h:(fG R j).map (look s.tm)=some (.c (.d (.b x)))):yielded R a.tmps j=some x:=by
 unfold yielded;unfold fG at h
 cases hd:(R[j]?).bind (·.dst) with
 |none=>rw[hd] at h;cases h
 |some d=>
  rw[hd] at h;simp only[Option.map_some,Option.some.injEq] at h;have ht:=hR.T d;rw[h] at ht;obtain⟨ht,_⟩:=ht;simp only[Option.bind_some]
  have hlt:d<a.tmps.size:=by
   rcases Nat.lt_or_ge d a.tmps.size with h|h
   ·exact h
   ·simp[Array.getD,Nat.not_lt.2 h,undef] at ht;cases ht
  have hg:a.tmps.getD d undef=a.tmps[d]:=by simp[Array.getD,hlt]
  rw[hg] at ht;rw[Array.getElem?_eq_getElem hlt];generalize a.tmps[d]=v at ht;cases ht;rfl
theorem D6{R:Array Oper}{j:Nat}(hR:jg N s a w σ β)(h:(fG R j).map (look s.tm)=some (.eU [])):yielded R a.tmps j=none:=by
 unfold yielded;unfold fG at h
 cases hd:(R[j]?).bind (·.dst) with
 |none=>rw[hd] at h;cases h
 |some d=>
  rw[hd] at h;simp only[Option.map_some,Option.some.injEq] at h;have ht:=hR.T d;rw[h] at ht;obtain⟨ar,hv,_⟩:=ht;simp only[Option.bind_some];by_cases hlt:d<a.tmps.size
  ·have hg:a.tmps.getD d undef=a.tmps[d]:=by simp[Array.getD,hlt]
   rw[hg] at hv;rw[Array.getElem?_eq_getElem hlt,hv]
  ·rw[Array.getElem?_eq_none (Nat.le_of_not_lt hlt)]
theorem Mq{o:Oper}{K:St->Prop}(hd:∀d,o.dst=some d->d<N)(hR:jg N s a w σ β)(hK:K (s.put o.dst (.eU []))):Then N s.st β σ w K (a.put o.dst undef) w:=by
 have hr:jg N (St.put ⟨s.tm,s.st⟩ o.dst (.eU [])) (a.put o.dst undef) w σ β:=zq hd hR.size hR.defers hR.S hR.T uR;have he:(s.put o.dst (.eU [])).st=s.st:=kJ o.dst s.tm s.st _;exact⟨_,σ,β,hr,by rw[show(St.put ⟨s.tm,s.st⟩ o.dst (.eU [])).st=s.st from he];exact Step.mR (Grow.refl hR.S.live),by rw[show(St.put ⟨s.tm,s.st⟩ o.dst (.eU [])).st=s.st from he];exact Keep.refl _ _,hK⟩
theorem RI{R:Array Oper}{o:Oper}{K:St->Prop}{Q:Exit->Act->World->Prop}(hd:∀d,o.dst=some d->d<N)(hR:jg N s a w σ β)(h:sj P R o s K):
 if Region.wanted o (yielded R a.tmps) then o.wp P a w (Then N s.st β σ w K) Q else Then N s.st β σ w K (a.put o.dst undef) w:=by
 unfold sj at h;split at h
 ·rename_i hg;rw[if_pos (by simp[Region.wanted,hg])];exact G6 (fun hd h=>CY hd hR h) hd hR h
 ·rename_i j want hg;split at h
  ·rename_i x hx;have hy:=zN hR hx;by_cases e:x=want
   ·rw[if_pos (by simp[Region.wanted,hg,hy,e])];exact G6 (fun hd h=>CY hd hR h) hd hR (h.1 e)
   ·rw[if_neg (by simp[Region.wanted,hg,hy,e])];exact Mq hd hR (h.2 (by cases x<;>cases want<;>simp_all))
  ·rename_i hx;have hy:=D6 hR hx;rw[if_neg (by simp[Region.wanted,hg,hy])];exact Mq hd hR h
  ·exact h.elim
theorem Jo{R:Array Oper}{K:St->Prop}{S0:Store}{β0:Hs}{σ0:Nat->Nat}{w0:World}{Q:Exit->Act->World->Prop}(hQ:∀a w,Then N S0 β0 σ0 w0 K a w->Q .normal a w):
 ∀(n k:Nat),k+n=R.size->(∀o∈R.toList,∀d,o.dst=some d->d<N)->∀(s:St)(a:Act)(w:World)(σ:Nat->Nat)(β:Hs),jg N s a w σ β->Step S0 β0 σ0 w0 s.st β σ w->Keep S0 β0 s.st β->
  zM P R (R.toList.drop k) s K->wpOps P R Q (List.range' k n) a w
 |0,k,hk,_,s,a,w,σ,β,hR,hst,hkp,h=>by
  have:R.toList.drop k=[]:=by apply List.drop_eq_nil_of_le;simp;omega
  rw[this] at h;exact hQ a w ⟨s,σ,β,hR,hst,hkp,h⟩
 |n+1,k,hk,hd,s,a,w,σ,β,hR,hst,hkp,h=>by
  have hlt:k<R.toList.length:=by simp;omega
  rw[List.drop_eq_getElem_cons hlt] at h;have hg:=RI (Q:=Q) (fun d e=>hd _ (List.getElem_mem hlt) d e) hR h;rw[List.range'_succ]
  have hRk:R[k]? =some R.toList[k]:=by
   rw[Array.getElem?_eq_getElem (by omega)];simp
  simp only[wpOps,hRk]
  have next:∀a' w',Then N s.st β σ w (fun s'=>zM P R (R.toList.drop (k+1)) s' K) a' w'->wpOps P R Q (List.range' (k+1) n) a' w':=by
   rintro a' w' ⟨s',σ',β',hR',hst',wQ,hK'⟩;exact Jo hQ n (k+1) (by omega) hd s' a' w' σ' β' hR' (hst.trans hst') (hkp.trans wQ) hK'
  split
  ·rename_i hw;rw[if_pos hw] at hg;exact .inl (Oper.wp_mono next hg)
  ·rename_i hw;rw[if_neg hw] at hg
   exact next _ _ hg
def fH{α:Type}(l:List α):List α:=l.drop 1
def AW(P:Program)(N:Nat)(c:Code)(Q:Exit->St->Prop)(s:St):Prop:=
 ∀(a:Act)(w:World)(σ:Nat->Nat)(β:Hs),jg N s a w σ β->
  c.wp P (fun e a' w'=>∃s' σ' β',jg N s' a' w' σ' β'/\Step s.st β σ w s'.st β' σ' w'/\Keep (fH s.st) (fH β) (fH s'.st) (fH β')/\Q e s') a w
theorem AW.mono{c:Code}{Q Q':Exit->St->Prop}(h:AW P N c Q s)(hq:∀e s,Q e s->Q' e s):AW P N c Q' s:=fun a w σ β hR=>
 wp_mono (h a w σ β hR) fun e a' w' ⟨s',σ',β',h1,h2,h3,h4⟩=>⟨s',σ',β',h1,h2,h3,hq _ _ h4⟩
def jy(K:St->Prop)(Q:Exit->St->Prop):Exit->St->Prop
 | .normal,s=>K s
 |e,s=>Q e s
def vQ(id:Nat)(Q:Exit->St->Prop):Exit->St->Prop
 | .exit id',s=>if id'=id then Q .normal s else Q (.exit id') s
 |e,s=>Q e s
theorem EA{x y:Code}{Q:Exit->St->Prop}(h:AW P N x (jy (AW P N y Q) Q) s):AW P N (.seq x y) Q s:=by
 intro a w σ β hR;refine wp_seq (wp_mono (h a w σ β hR) ?_);rintro e a' w' ⟨s',σ',β',h1,h2,h3,h4⟩
 cases e with
 |normal=>
  show y.wp P _ a' w';refine wp_mono (h4 a' w' σ' β' h1) ?_;rintro e a'' w'' ⟨s'',zC,β'',k1,k2,k3,k4⟩;exact⟨s'',zC,β'',k1,h2.trans k2,h3.trans k3,k4⟩
 |_=>exact⟨s',σ',β',h1,h2,h3,h4⟩
theorem O6{c:Code}{e:Exit}{Q:Exit->St->Prop}(hc:∀{Q':Exit->Act->World->Prop}{a:Act}{w:World},Q' e a w->c.wp P Q' a w)(h:Q e s):AW P N c Q s:=
 fun a w σ β hR=>hc ⟨s,σ,β,hR,Step.mR (Grow.refl hR.S.live),Keep.refl _ _,h⟩
theorem ad2{Q:Exit->St->Prop}(h:Q .normal s):AW P N .skip Q s:=O6 wp_skip h
theorem ad3{id:Nat}{Q:Exit->St->Prop}(h:Q (.exit id) s):AW P N (.exit id) Q s:=O6 wp_exit h
theorem afO{Q:Exit->St->Prop}(h:Q .ret s):AW P N .ret Q s:=O6 wp_ret h
theorem F9{c:Operand}{x y:Code}{b:Bool}{Q:Exit->St->Prop}(hc:ev s.tm c=.c (.d (.b b)))(ht:b=true->AW P N x Q s)(hf:b=false->AW P N y Q s):AW P N (.cond c x y) Q s:=by
 intro a w σ β hR;have hv:=jd hR.T c;rw[hc] at hv;obtain⟨hv,_⟩:=hv;generalize he:a.eval c=v at hv;cases hv;refine Go.wp_cond he ?_
 cases b with
 |true=>exact ht rfl a w σ β hR
 |false=>exact hf rfl a w σ β hR
theorem Ih{id:Nat}{c:Code}{Q:Exit->St->Prop}(h:AW P N c (vQ id Q) s):AW P N (.block id c) Q s:=by
 intro a w σ β hR;refine wp_block (wp_mono (h a w σ β hR) ?_);rintro e a' w' ⟨s',σ',β',h1,h2,h3,h4⟩
 cases e with
 |exit id'=>
  show if id'=id then _ else _
  simp only[vQ] at h4;split
  ·rename_i e;rw[if_pos e] at h4;exact⟨s',σ',β',h1,h2,h3,h4⟩
  ·rename_i e;rw[if_neg e] at h4;exact⟨s',σ',β',h1,h2,h3,h4⟩
 |_=>exact⟨s',σ',β',h1,h2,h3,h4⟩
theorem Keep.tail{S S':Store}{β β':Hs}(h:Keep S β S' β'):Keep (fH S) (fH β) (fH S') (fH β'):=h.drop 1
theorem XP{id:Nat}{R:Array Oper}{Q:Exit->St->Prop}(hd:R.toList.all (fun o=>match o.dst with|some d=>decide (d<N)|none=>true)=true)(h:zM P R R.toList s (Q .normal)):AW P N (.region id R false) Q s:=by
 intro a w σ β hR;refine wp_region ?_;rw[List.range_eq_range'];refine Jo (S0:=s.st) (β0:=β) (σ0:=σ) (w0:=w) (K:=Q .normal) (fun a' w' ht=> ?_) R.size 0 (by omega) (fun o ho d e=> ?_) s a w σ β hR (Step.mR (Grow.refl hR.S.live)) (Keep.refl _ _) h
 ·obtain⟨s',σ',β',h1,h2,h3,h4⟩:=ht;exact⟨s',σ',β',h1,h2,h3.tail,h4⟩
 ·have:=List.all_eq_true.1 hd o ho;rw[e] at this;simpa using this
theorem TI{ι:Type}{c:Code}{Q:Exit->St->Prop}(I:ι->St->Prop)(μ:ι->Nat)(i0:ι)(h0:I i0 s)
 (round:∀i s,I i s->AW P N c (jy (fun s'=>∃j,μ j<μ i/\I j s') Q) s):AW P N (.loop c) Q s:=by
 intro a w σ β hR
 have key:∀(n:Nat)(i:ι)(s':St)(a':Act)(w':World)(σ':Nat->Nat)(β':Hs),μ i<n->I i s'->jg N s' a' w' σ' β'->Step s.st β σ w s'.st β' σ' w'->Keep (fH s.st) (fH β) (fH s'.st) (fH β')->
  Code.rounds P c (fun e a' w'=>∃s' σ' β',jg N s' a' w' σ' β'/\Step s.st β σ w s'.st β' σ' w'/\Keep (fH s.st) (fH β) (fH s'.st) (fH β')/\Q e s') n a' w':=by
  intro n
  induction n with
  |zero=>intro i s' a' w' σ' β' h;omega
  |succ n ih=>
   intro i s' a' w' σ' β' hn hI hR' hst hkp;refine wp_mono (round i s' hI a' w' σ' β' hR') ?_;rintro e a'' w'' ⟨s'',zC,β'',k1,k2,k3,k4⟩
   cases e with
   |normal=>
    obtain⟨j,hj,hIj⟩:=k4;exact ih j s'' a'' w'' zC β'' (by omega) hIj k1 (hst.trans k2) (hkp.trans k3)
   |_=>exact⟨s'',zC,β'',k1,hst.trans k2,hkp.trans k3,k4⟩
 exact wp_loop_rounds (μ i0+1) (key (μ i0+1) i0 s a w σ β (by omega) h0 hR (Step.mR (Grow.refl hR.S.live)) (Keep.refl _ _))
end
def jZ:List V->Nat->List (Nat×V)
 |[],_=>[]
 |v::vs,i=>(i,v)::jZ vs (i+1)
def C.ret:C->Option C
 | .bK (0,_) es=>some (.d (.sl es))
 |c=>c.down 1
def Ga(y:Bool×List C):Option (Bool×List C):=(y.2.mapM C.ret).map fun cs=>(y.1,cs)
def V.ret:V->Option V
 | .c x=>(x.ret).map .c
 | .agg cs=>(cs.mapM C.ret).map .agg
 | .eU xs=>(xs.mapM Ga).map .eU
 | .any=>some .any
def vR(P:Program)(s:St):ResultVar->R
 | .tmp t=>(True,look s.tm t)
 | .cell a t=>y7 P s.st t (look s.tm a)
def Jp:V->Option (Bool×List C)
 | .c x=>some (false,[x])
 | .agg cs=>some (true,cs)
 |_=>none
def nT(P:Program)(s:St):List ResultVar->Prop×Option (List (Bool×List C))
 |[]=>(True,some [])
 |x::xs=>((vR P s x).1/\(nT P s xs).1,(Jp (vR P s x).2).bind fun y=>(nT P s xs).2.map fun ys=>y::ys)
def nE(P:Program)(rs:List ResultVar)(s:St):R:=
 match rs with
 |[x]=>vR P s x
 |xs=>match(nT P s xs).2 with
  |some ys=>((nT P s xs).1,.eU ys)
  |none=>no
def aax(P:Program)(rs:List ResultVar)(post:V->Store->Prop)(e:Exit)(s:St):Prop:=
 match e with
 | .normal| .ret=>(nE P rs s).1/\match(nE P rs s).2.ret with
   |some r=>post r (fH s.st)
   |none=>False
 |_=>False
section
variable {P:Program} {w w':World} {σ σ':Nat->Nat} {S:Store} {β β':Hs} {N:Nat} {s:St} {a:Act}
theorem O7{cs:List C}{vs:List Value}(n:Nat)(h:eX w σ (S.drop n) (β.drop n) cs vs):eX w σ S β (cs.map (C.up n)) vs:=
 ⟨by simpa using h.1,fun j x hx=>by
   rw[List.getElem?_map] at hx
   cases hc:cs[j]? with
   |none=>rw[hc] at hx;cases hx
   |some y=>
    rw[hc] at hx;cases hx;obtain⟨v,hv,hr,ho⟩:=h.2 j y hc
    exact⟨v,hv,hr.up n,ho⟩⟩
theorem Gb{x:V}{v:Value}(n:Nat)(h:cB w σ (S.drop n) (β.drop n) x v):cB w σ S β (x.up n) v:=by
 cases x with
 |c x=>exact⟨h.1.up n,h.2⟩
 |agg cs=>obtain⟨ar,ha,hc⟩:=h;exact⟨ar,ha,O7 n hc⟩
 |eU xs=>
  obtain⟨ar,ha,hl,h2⟩:=h;refine⟨ar,ha,by simpa using hl,fun j y hy=> ?_⟩;rw[List.getElem?_map] at hy
  cases hc:xs[j]? with
  |none=>rw[hc] at hy;cases hy
  |some z=>
   rw[hc] at hy;cases hy;obtain⟨u,hu,h3⟩:=h2 j z hc;refine⟨u,hu,?_⟩;obtain⟨b,cs⟩:=z
   cases b with
   |true=>obtain⟨a',e,hcs⟩:=h3;exact⟨a',e,O7 n hcs⟩
   |false=>obtain⟨x,e,hx,ho⟩:=h3;subst e;exact⟨_,rfl,hx.up n,ho⟩
 |any=>exact trivial
theorem Ii{c c':C}{v:Value}(h:c.ret=some c')(hc:fT w σ S β c v):fT w σ (S.drop 1) (β.drop 1) c' v:=by
 unfold C.ret at h;split at h
 ·cases h;exact hc.1
 ·exact OJ h hc
theorem Mr{xs ys:List C}{vs:List Value}(h:xs.mapM C.ret=some ys)(hc:eX w σ S β xs vs):eX w σ (S.drop 1) (β.drop 1) ys vs:=by
 induction xs generalizing ys vs with
 |nil=>simp at h;subst h;exact⟨hc.1,fun j d hd=>by simp at hd⟩
 |cons x xs ih=>
  rw[List.mapM_cons] at h
  cases hd:C.ret x with
  |none=>rw[hd] at h;simp at h
  |some y=>
   cases hm:xs.mapM C.ret with
   |none=>rw[hd,hm] at h;simp at h
   |some ys'=>
    rw[hd,hm] at h;simp at h;subst h
    cases vs with
    |nil=>have:=hc.1;simp at this
    |cons v vs=>
     obtain⟨l,r⟩:=ih hm (vs:=vs) ⟨by have:=hc.1;simpa using this,fun j y hy=>hc.2 (j+1) y hy⟩;refine⟨by simp[l],fun j e he=> ?_⟩
     cases j with
     |zero=>
      simp at he;subst he;obtain⟨u,hu,hr,ho⟩:=hc.2 0 x rfl;simp at hu;subst hu;exact⟨v,rfl,Ii hd hr,ho⟩
     |succ j=>exact r j e he
theorem O8{α γ:Type}(f:α->Option γ):∀(xs:List α)(ys:List γ),xs.mapM f=some ys->ys.length=xs.length/\∀(j:Nat)(y:γ),ys[j]? =some y->∃x,xs[j]? =some x/\f x=some y
 |[],ys,h=>by simp at h;subst h;exact⟨rfl,fun j y hy=>by simp at hy⟩
 |x::xs,ys,h=>by
  rw[List.mapM_cons] at h
  cases hd:f x with
  |none=>rw[hd] at h;simp at h
  |some y=>
   cases hm:xs.mapM f with
   |none=>rw[hd,hm] at h;simp at h
   |some ys'=>
    rw[hd,hm] at h;simp at h;subst h;obtain⟨l,r⟩:=O8 f xs ys' hm;refine⟨by simp[l],fun j e he=> ?_⟩
    cases j with
    |zero=>simp at he;subst he;exact⟨x,rfl,hd⟩
    |succ j=>exact r j e he
theorem O9{x y:V}{v:Value}(h:x.ret=some y)(hx:cB w σ S β x v):cB w σ (S.drop 1) (β.drop 1) y v:=by
 cases x with
 |c x=>
  simp only[V.ret] at h
  cases hc:x.ret with
  |none=>rw[hc] at h;cases h
  |some c=>rw[hc] at h;cases h;exact⟨Ii hc hx.1,hx.2⟩
 |agg cs=>
  simp only[V.ret] at h
  cases hc:cs.mapM C.ret with
  |none=>rw[hc] at h;cases h
  |some c=>rw[hc] at h;cases h;obtain⟨ar,ha,h2⟩:=hx;exact⟨ar,ha,Mr hc h2⟩
 |eU xs=>
  simp only[V.ret] at h
  cases hc:xs.mapM Ga with
  |none=>rw[hc] at h;cases h
  |some ys=>
   rw[hc] at h;cases h;obtain⟨ar,ha,hl,h2⟩:=hx;obtain⟨l,r⟩:=O8 _ _ _ hc;refine⟨ar,ha,by rw[l];exact hl,fun j y hy=> ?_⟩;obtain⟨z,hz,hzy⟩:=r j y hy;obtain⟨u,hu,h3⟩:=h2 j z hz;refine⟨u,hu,?_⟩;obtain⟨b,cs⟩:=z;simp only[Ga] at hzy
   cases hm:cs.mapM C.ret with
   |none=>rw[hm] at hzy;cases hzy
   |some cs'=>
    rw[hm] at hzy;cases hzy
    cases b with
    |true=>obtain⟨a',e,hcs⟩:=h3;exact⟨a',e,Mr hm hcs⟩
    |false=>
     obtain⟨x,e,hx,ho⟩:=h3;subst e;rw[List.mapM_cons] at hm
     cases hx':C.ret x with
     |none=>rw[hx'] at hm;simp at hm
     |some x'=>
      rw[hx'] at hm;simp at hm;exact⟨x',hm.symm,Ii hx' hx,ho⟩
 |any=>cases h;exact trivial
theorem TJ{x:ResultVar}(hR:jg N s a w σ β)(h:(vR P s x).1):
 ∃v,(match x with| .tmp t=>pure (a.tmps.getD t undef)| .cell b t=>do loadVar t (<-asAddr (a.tmps.getD b undef)):Sem Value).run P w=.ok v w/\cB w σ s.st β (vR P s x).2 v:=by
 cases x with
 |tmp t=>exact⟨_,rfl,hR.T t⟩
 |cell b t=>
  obtain⟨v,hrun,hv⟩:=Mg (P:=P) (t:=t) hR.S (hR.T b) h;refine⟨v,?_,hv⟩;show(do loadVar t (<-asAddr (a.tmps.getD b undef)):Sem Value).run P w=.ok v w;generalize a.tmps.getD b undef=bv at hrun ⊢
  cases bv with
  |pointer o=>
   cases o with
   |none=>simp[Instr.loadAt,Instr.sureAddr] at hrun
   |some ad=>simpa [Instr.loadAt,Instr.sureAddr,asAddr] using hrun
  |_=>simp[Instr.loadAt,Instr.sureAddr] at hrun
theorem aay{x:V}{y:Bool×List C}{v:Value}(h:Jp x=some y)(hx:cB w σ S β x v):K7 w σ S β y v:=by
 cases x with
 |c x=>cases h;exact⟨x,rfl,hx.1,hx.2⟩
 |agg cs=>cases h;exact hx
 |eU=>cases h
 |any=>cases h
theorem TK(hR:jg N s a w σ β):∀(xs:List ResultVar)(ys:List (Bool×List C)),(nT P s xs).1->(nT P s xs).2=some ys->
 ∃vs:List Value,(xs.mapM fun x=>(match x with| .tmp t=>pure (a.tmps.getD t undef)| .cell b t=>do loadVar t (<-asAddr (a.tmps.getD b undef)):Sem Value)).run P w=.ok vs w/\ys.length=vs.length/\
  ∀(j:Nat)(y:Bool×List C),ys[j]? =some y->∃u,vs[j]? =some u/\K7 w σ s.st β y u
 |[],ys,_,h=>by simp only[nT] at h;cases h;exact⟨[],by simp,rfl,fun j y hy=>by simp at hy⟩
 |x::xs,ys,h1,h2=>by
  simp only[nT] at h1 h2
  cases hc:Jp (vR P s x).2 with
  |none=>rw[hc] at h2;cases h2
  |some y=>
   cases hr:(nT P s xs).2 with
   |none=>rw[hc,hr] at h2;cases h2
   |some ys'=>
    rw[hc,hr] at h2;cases h2;obtain⟨v,hv,hrep⟩:=TJ (P:=P) (x:=x) hR h1.1;obtain⟨vs,hvs,hl,hj⟩:=TK hR xs ys' h1.2 hr;refine⟨v::vs,?_,by simp[hl],fun j z hz=> ?_⟩
    ·rw[List.mapM_cons];simp only[Sem.run_bind,Result.andThen_ok,Sem.run_pure];rw[hv];simp only[Result.andThen_ok];rw[hvs];rfl
    ·cases j with
     |zero=>simp at hz;subst hz;exact⟨v,rfl,aay hc hrep⟩
     |succ j=>exact hj j z hz
theorem EB{fn:Func}(hR:jg N s a w σ β)(h:(nE P fn.results.toList s).1):∃v,(results fn a.tmps).run P w=.ok v w/\cB w σ s.st β (nE P fn.results.toList s).2 v:=by
 have hres:fn.results=fn.results.toList.toArray:=by simp
 have hrun:∀vs:List Value,(fn.results.toList.mapM fun x=>(match x with| .tmp t=>pure (a.tmps.getD t undef)| .cell b t=>do loadVar t (<-asAddr (a.tmps.getD b undef)):Sem Value)).run P w=.ok vs w->
  (results fn a.tmps).run P w=.ok (if h:vs.toArray.size=1 then vs.toArray[0] else .tuple vs.toArray) w:=by
  intro vs hvs;unfold results;rw[hres,List.mapM_toArray];simp only[Sem.run_bind,Sem.run_map];have:(fun x=>(match x with| .tmp t=>pure (a.tmps.getD t undef)| .cell b t=>do loadVar t (<-asAddr (a.tmps.getD b undef)):Sem Value))=fun(x:ResultVar)=>(match x with| .tmp t=>pure (a.tmps.getD t undef)| .cell b t=>do loadVar t (<-asAddr (a.tmps.getD b undef)):Sem Value):=rfl
  erw [hvs]
  rfl
 unfold nE at h ⊢;split at h
 ·rename_i x hx;rw[hx] at hrun;obtain⟨v,hv,hrep⟩:=TJ (P:=P) (x:=x) hR h;refine⟨v,?_,hrep⟩
  have:=hrun [v] (by
   rw[List.mapM_cons];simp only[Sem.run_bind,List.mapM_nil,Result.andThen_ok,Sem.run_pure]
   rw[hv];rfl)
  simpa using this
 ·rename_i hne;split at h
  ·rename_i ys hys;obtain⟨vs,hvs,hl,hj⟩:=TK (P:=P) hR _ ys h hys;have h1:=hrun vs hvs
   have hlen:¬(vs.toArray.size=1):=by
    intro e
    have hl2:ys.length=fn.results.toList.length:=by
     clear hj hvs h1 hrun hne e hl h;generalize fn.results.toList=l at hys
     induction l generalizing ys with
     |nil=>simp only[nT] at hys;cases hys;rfl
     |cons x xs ih=>
      simp only[nT] at hys
      cases hc:Jp (vR P s x).2 with
      |none=>rw[hc] at hys;cases hys
      |some y=>
       cases hr:(nT P s xs).2 with
       |none=>rw[hc,hr] at hys;cases hys
       |some ys'=>rw[hc,hr] at hys;cases hys;simp[ih ys' hr]
    simp at e
    have:fn.results.toList.length=1:=by omega
    obtain⟨x,hx⟩:=List.length_eq_one_iff.1 this;exact hne x hx
   rw[dif_neg hlen] at h1;exact⟨_,h1,vs.toArray,rfl,by simpa using hl,fun j y hy=>by simpa using hj j y hy⟩
  ·exact h.elim
theorem dL.Gc{own:List Obj}{Ω:Store}{bo:List Value}{bΩ:Hs}(h:dL w σ (own::Ω) (bo::bΩ)):dL w σ Ω bΩ:=by
 refine⟨fun k o ho=> ?_,fun k k' o o' h1 h2 b e1 e2 e3 e4 e5 e6=> ?_,⟨by have:=h.shape.1;simpa using this,fun l fr hl=>h.shape.2 (l+1) fr hl⟩,h.live,h.rH⟩
 ·obtain⟨l,j⟩:=k;obtain⟨hv,hh,hr⟩:=h.obj (l+1,j) o (by rw[bM];exact ho);rw[bM] at hh;exact⟨hv,hh,hr⟩
 ·obtain⟨l,j⟩:=k;obtain⟨l',j'⟩:=k';have:=h.apart (l+1,j) (l'+1,j') o o' h1 h2 b (by rw[bM];exact e1) (by rw[bM];exact e2) e3 (by rw[bM];exact e4) (by rw[bM];exact e5) e6;cases this;rfl
theorem dL.up1(h:dL w σ S β):dL w σ ([]::S) ([]::β):=by
 refine⟨fun k o ho=> ?_,fun k k' o o' h1 h2 b e1 e2 e3 e4 e5 e6=> ?_,⟨by simp[h.shape.1],fun l fr hl=> ?_⟩,h.live,h.rH⟩
 ·obtain⟨l,j⟩:=k
  cases l with
  |zero=>rw[aZ] at ho;simp at ho
  |succ l=>
   rw[bM] at ho;obtain⟨hv,hh,hr⟩:=h.obj (l,j) o ho;exact⟨hv,by rw[bM];exact hh,hr⟩
 ·obtain⟨l,j⟩:=k;obtain⟨l',j'⟩:=k'
  cases l with
  |zero=>rw[aZ] at e1;simp at e1
  |succ l=>
   cases l' with
   |zero=>rw[aZ] at e4;simp at e4
   |succ l'=>
    rw[bM] at e1 e2 e4 e5;have:=h.apart (l,j) (l',j') o o' h1 h2 b e1 e2 e3 e4 e5 e6;cases this;rfl
 ·cases l with
  |zero=>simp at hl;subst hl;exact⟨[],rfl,rfl⟩
  |succ l=>exact h.shape.2 l fr hl
theorem zw{b:Nat}(h:Own ([]::S) ([]::β) b):Own S β b:=by
 obtain⟨⟨l,j⟩,o,hv,h1,h2,h3⟩:=h
 cases l with
 |zero=>rw[aZ] at h1;simp at h1
 |succ l=>rw[bM] at h1 h2;exact⟨(l,j),o,hv,h1,h2,h3⟩
theorem uS{own:List Obj}{Ω:Store}{bo:List Value}{bΩ:Hs}{b:Nat}(h:Own Ω bΩ b):Own (own::Ω) (bo::bΩ) b:=by
 obtain⟨⟨l,j⟩,o,hv,h1,h2,h3⟩:=h;exact⟨(l+1,j),o,hv,by rw[bM];exact h1,by rw[bM];exact h2,h3⟩
theorem za:∀(args:List V)(i t:Nat),look (jZ args i) t=if i<=t then(args[t-i]?).getD .any else .any
 |[],i,t=>by simp[jZ,look]
 |v::args,i,t=>by
  rw[jZ,look,za args (i+1) t];by_cases h1:i=t
  ·subst h1;simp
  ·rw[if_neg h1];by_cases h2:i+1<=t
   ·rw[if_pos h2,if_pos (by omega)];rw[show t-i=(t-(i+1))+1 from by omega];rfl
   ·rw[if_neg h2,if_neg (by omega)]
theorem oW{f:FuncId}{fn:Func}{c:Code}{args:List V}{post:V->Store->Prop}(hf:P.funcs[f]? =some fn)(hb:fn.body=some c)(hn:(fn.name== "runtime.NumGoroutine")=false)
 (hl:args.length<=fn.ntmps)(h:AW P fn.ntmps c (aax P fn.results.toList post) ⟨jZ (args.map (V.up 1)) 0,[]::S⟩):bJ P f args S post:=by
 refine⟨⟨fn,hf,hn,by simp[hb]⟩,fun w σ β vs hS hargs=> ?_⟩;refine calls_of_wp hf hb ?_;have hlen:vs.length=args.length:=hargs.1.symm
 have Pb:jg fn.ntmps ⟨jZ (args.map (V.up 1)) 0,[]::S⟩ {tmps:=vs.toArray++Array.replicate (fn.ntmps-vs.toArray.size) undef,defers:=[]} w σ ([]::β):=by
  refine⟨by simp;omega,rfl,hS.up1,fun t=> ?_⟩;show cB w σ ([]::S) ([]::β) (look (jZ (args.map (V.up 1)) 0) t) _;rw[za,if_pos (Nat.zero_le _),Nat.sub_zero,List.getElem?_map]
  cases ha:args[t]? with
  |none=>exact trivial
  |some x=>
   obtain⟨v,hv,hr⟩:=hargs.2 t x ha;have ht:=(List.getElem?_eq_some_iff.1 hv).1
   have:(vs.toArray++Array.replicate (fn.ntmps-vs.toArray.size) undef).getD t undef=v:=by
    rw[Array.getD_eq_getD_getElem?,Array.getElem?_append_left (by simpa using ht)];simp[hv]
   rw[this];exact Gb (S:=[]::S) (β:=[]::β) 1 hr
 refine wp_mono (h _ w σ ([]::β) Pb) ?_;rintro e a' w' ⟨s',σ',β',hR,hst,hkp,hq⟩
 have main:(nE P fn.results.toList s').1/\(match(nE P fn.results.toList s').2.ret with|some r=>post r (fH s'.st)|none=>False)->
  a'.defers=[]/\∃v,(results fn a'.tmps).run P w'=.ok v w'/\∃v_1 r S' σ' β',Ending.returned v=Ending.returned v_1/\dL w' σ' S' β'/\Keep S β S' β'/\Step S β σ w S' β' σ' w'/\cB w' σ' S' β' r v_1/\post r S':=by
  rintro⟨q1,q2⟩;obtain⟨v,hv,hrep⟩:=EB (fn:=fn) hR q1;split at q2
  ·rename_i r hr;obtain⟨tm,st⟩:=s';have ahw:=O9 hr hrep;refine⟨hR.defers,v,hv,v,r,fH st,σ',fH β',rfl,?_,hkp,?_,ahw,q2⟩
   ·cases st with
    |nil=>
     cases β' with
     |nil=>exact hR.S
     |cons=>have:=hR.S.shape.1;simp at this
    |cons own Ω=>
     cases β' with
     |nil=>have:=hR.S.shape.1;simp at this
     |cons bo bΩ=>exact hR.S.Gc
   ·refine⟨hst.size,hst.os,hst.output,fun b hb ho=>hst.far b hb (fun x=>ho (zw x)),hst.near,fun b hb=> ?_⟩
    cases st with
    |nil=>obtain⟨k,o,hv,h1,_⟩:=hb;simp[fH,ng] at h1
    |cons own Ω=>
     cases β' with
     |nil=>obtain⟨k,o,hv,h1,h2,_⟩:=hb;simp[fH,ng] at h2
     |cons bo bΩ=>exact(hst.own b (uS hb)).imp zw id
  ·exact q2.elim
 cases e with
 |normal=>exact main hq
 |ret=>exact main hq
 |_=>exact hq.elim
end
def pR:Op->Bool
 | .alloc _=>true
 | .box _ _=>true
 | .store _ _ _=>true
 | .makeSlice _ _ _=>true
 | .makeMap _ none=>true
 | .mapUpdate _ _ _ _=>true
 | .call {callee:=.builtin .append,args:=_,argTypes:=_}=>true
 |_=>false
def wR:Op->Bool
 | .store _ _ _=>true
 | .mapUpdate _ _ _ _=>true
 |_=>false
def iT:Op->Bool
 | .call {callee:=.value _,args:=_,argTypes:=_}=>true
 |_=>false
abbrev Md:=Op->Nat
def eZ(E:Md)(op:Op):Bool:=pR op||(decide (1<=E op)&&iT op)
def kC(E:Md)(op:Op):Bool:=wR op||(decide (2<=E op)&&iT op)
theorem aaz{E:Md}{op:Op}(h:pR op=true):eZ E op=true:=by simp[eZ,h]
theorem XQ{E:Md}{op:Op}(h:kC E op=true):eZ E op=true:=by
 unfold kC eZ at *
 rw[Bool.or_eq_true] at h ⊢;refine h.imp (fun hs=> ?_) (fun h=> ?_)
 ·cases op<;>first|rfl|simp[wR] at hs
 ·rw[Bool.and_eq_true,decide_eq_true_eq] at h ⊢;exact⟨by omega,h.2⟩
def DS(S S':Store):Prop:=∀k o,aW S k=some o->aW S' k=some o\/((∃z es,qA o z es)/\∃o' z es,aW S' k=some o'/\qA o' z es)
def C8(P:Program)(tm:List (Nat×V))(c:Call)(r:V):Prop:=
 match c.callee with
 | .value x=>match ev tm x with
   | .c (.fn f caps)=>aJ P f (c.args.toList.map (ev tm)++caps.map fun y=>.c (.ptr y.1 y.2)) r
   |_=>False
 |_=>False
def fu(P:Program)(E:Md)(o:Oper)(s:St)(K:St->Prop):Prop:=
 if pR o.op then bQ P o s K else
 match o.op with
 | .call {callee:=.value x,args,argTypes}=>match E (.call {callee:=.value x,args,argTypes}) with
   |0=>∃r,C8 P s.tm {callee:=.value x,args,argTypes} r/\K (s.put o.dst r)
   |1=>∃S' v,DS s.st S'/\bQ P o s (fun t=>t=St.put ⟨s.tm,S'⟩ o.dst v)/\K (St.put ⟨s.tm,S'⟩ o.dst v)
   |_=>∃S' v,bQ P o s (fun t=>t=St.put ⟨s.tm,S'⟩ o.dst v)/\K (St.put ⟨s.tm,S'⟩ o.dst v)
 |op=>(nval P s.st s.tm op).1/\K (s.put o.dst (nval P s.st s.tm op).2)
def nP(P:Program)(E:Md)(R:Array Oper)(o:Oper)(s:St)(K:St->Prop):Prop:=
 match o.guard with
 |none=>fu P E o s K
 |some (j,want)=>
  match(fG R j).map (look s.tm) with
  |some (.c (.d (.b x)))=>(x=want->fu P E o s K)/\(x= !want->K (s.put o.dst (.eU [])))
  |some (.eU [])=>K (s.put o.dst (.eU []))
  |_=>False
def rO(P:Program)(E:Md)(R:Array Oper):List Oper->St->(St->Prop)->Prop
 |[],s,K=>K s
 |o::os,s,K=>nP P E R o s fun s'=>rO P E R os s' K
def NV(P:Program)(S:Store)(tm:List (Nat×V))(op:Op)(v:V):Prop:=
 (∃c,op=.call c/\C8 P tm c v)\/((nval P S tm op).1/\v=(nval P S tm op).2)
def gd(R:Array Oper)(o:Oper)(tm:List (Nat×V)):Option Bool:=
 match o.guard with
 |none=>some true
 |some (j,want)=>
  match(fG R j).map (look tm) with
  |some (.c (.d (.b x)))=>some (x==want)
  |some (.eU [])=>some false
  |_=>none
def lU(P:Program)(E:Md)(R:Array Oper)(o:Oper)(s:St)(v:V)(s':St):Prop:=
 (gd R o s.tm=some false/\v=.eU []/\s'=s.put o.dst v)\/
 (gd R o s.tm=some true/\eZ E o.op=false/\NV P s.st s.tm o.op v/\s'=s.put o.dst v)\/
 (gd R o s.tm=some true/\eZ E o.op=true/\bQ P o s (fun t=>t=s')/\s'=St.put ⟨s.tm,s'.st⟩ o.dst v/\(pR o.op=false->kC E o.op=false->DS s.st s'.st))
section
variable {P:Program} {w w':World} {σ σ':Nat->Nat} {S S':Store} {β β':Hs} {N:Nat} {s:St} {a:Act}
theorem qj{dst:Option Nat}{o:Obj}{mk:Key->V}{K:St->Prop}(h:newObj s dst o mk K):∃S' v,newObj s dst o mk (fun t=>t=St.put ⟨s.tm,S'⟩ dst v)/\K (St.put ⟨s.tm,S'⟩ dst v):=by
 unfold newObj at h ⊢;split at h
 ·rename_i own Ω hst;exact⟨_,_,rfl,h⟩
 ·exact h.elim
theorem ad4{b:Bool}{es x:List (List D)}{z:Nat}{dst:Option Nat}{K:St->Prop}(h:yK b es s dst z x K):∃S' v,yK b es s dst z x (fun t=>t=St.put ⟨s.tm,S'⟩ dst v)/\K (St.put ⟨s.tm,S'⟩ dst v):=by
 cases b with
 |false=>exact qj (o:=.tok z x) (mk:=fun k=>.c (.bK k x)) h
 |true=>
  obtain⟨S',v,h1,h2⟩:=qj (o:=.dN z x) (mk:=fun k=>.c (.gQ k)) h.2;exact⟨S',v,⟨h.1,h1⟩,h2⟩
theorem ad5{l:Option Nat}{es x:List (List D)}{z:Nat}{dst:Option Nat}{K:St->Prop}(h:zL l es s dst z x K):∃S' v,zL l es s dst z x (fun t=>t=St.put ⟨s.tm,S'⟩ dst v)/\K (St.put ⟨s.tm,S'⟩ dst v):=by
 cases l with
 |none=>exact ad4 h
 |some n=>
  cases es with
  |nil=>exact⟨s.st,_,rfl,h⟩
  |cons y es=>exact qj (o:=.tok z x) (mk:=fun k=>.c (.bK k x)) h
theorem ad6{b:Bool}{n:Nat}{x:List (List D)}{z:Nat}{dst:Option Nat}{K:St->Prop}(h:Bw b n s dst z x K):∃S' v,Bw b n s dst z x (fun t=>t=St.put ⟨s.tm,S'⟩ dst v)/\K (St.put ⟨s.tm,S'⟩ dst v):=by
 cases b with
 |false=>exact qj (o:=.dY n z x) (mk:=fun k=>.c (.bK k x)) h
 |true=>exact⟨s.st,_,rfl,h⟩
theorem aaA{o:Oper}{K:St->Prop}(hD:pR o.op=true)(h:bQ P o s K):∃S' v,bQ P o s (fun t=>t=St.put ⟨s.tm,S'⟩ o.dst v)/\K (St.put ⟨s.tm,S'⟩ o.dst v):=by
 obtain⟨dst,op,ty,pos,after,guard⟩:=o
 cases op with
 |alloc t=>
  simp only[bQ,rZ] at h ⊢;split at h
  ·exact qj h
  ·exact h.elim
 |box t x=>
  simp only[bQ,zK] at h ⊢;split at h
  ·exact qj h
  ·exact h.elim
 |makeSlice t l c=>
  simp only[bQ,vL] at h ⊢;split at h
  ·split at h
   ·obtain⟨h1,h2,h3,h4,h5,h6⟩:=h;obtain⟨S',v,k1,k2⟩:=qj h6;exact⟨S',v,⟨h1,h2,h3,h4,h5,k1⟩,k2⟩
   ·exact h.elim
  ·exact h.elim
 |store t x y=>
  simp only[bQ,r9] at h ⊢;split at h
  ·split at h
   ·obtain⟨h1,h2,h3,h4⟩:=h;exact⟨_,_,⟨h1,h2,h3,rfl⟩,h4⟩
   ·exact h.elim
  ·split at h
   ·obtain⟨h1,h2,h3,h4,h5⟩:=h;exact⟨_,_,⟨h1,h2,h3,h4,rfl⟩,h5⟩
   ·exact h.elim
  ·split at h
   ·split at h
    ·split at h
     ·obtain⟨h1,h2,h3,h4,h5,h6⟩:=h;exact⟨_,_,⟨h1,h2,h3,h4,h5,rfl⟩,h6⟩
     ·exact h.elim
    ·exact h.elim
   ·exact h.elim
  ·exact h.elim
 |makeMap t r=>
  cases r with
  |none=>
   simp only[bQ,ru] at h ⊢;exact qj h
  |some r=>simp[pR] at hD
 |mapUpdate t x y z=>
  simp only[bQ,rz] at h ⊢;split at h
  ·split at h
   ·exact⟨_,_,rfl,h⟩
   ·exact h.elim
  ·exact h.elim
 |call c=>
  obtain⟨xW,args,vO⟩:=c
  cases xW with
  |builtin b=>
   cases b with
   |append=>
    simp only[bQ,mD] at h ⊢;split at h
    ·simp only[pQ] at h ⊢;split at h
     ·obtain⟨h1,h2,h3,h4⟩:=h;split at h4
      ·split at h4
       ·obtain⟨k1,k2,k3,k4⟩:=h4;exact⟨_,_,⟨h1,h2,h3,k1,k2,k3,rfl⟩,k4⟩
       ·obtain⟨k1,k2,k3,k4⟩:=h4;exact⟨_,_,⟨h1,h2,h3,k1,k2,k3,rfl⟩,k4⟩
       ·exact h4.elim
      ·obtain⟨k1,k2,k3⟩:=h4;obtain⟨S',v,l1,l2⟩:=ad5 k3;exact⟨S',v,⟨h1,h2,h3,k1,k2,l1⟩,l2⟩
      ·obtain⟨k1,k2,k3⟩:=h4;obtain⟨S',v,l1,l2⟩:=ad6 k3;exact⟨S',v,⟨h1,h2,h3,k1,k2,l1⟩,l2⟩
      ·exact h4.elim
     ·exact h.elim
    ·exact h.elim
   |_=>simp[pR] at hD
  |_=>simp[pR] at hD
 |_=>simp[pR] at hD
theorem XR{tm tm':List (Nat×V)}{dst:Option Nat}{o:Obj}{mk:Key->V}{v:V}(h:newObj ⟨tm,S⟩ dst o mk (fun t=>t=St.put ⟨tm,S'⟩ dst v))(hd:dst≠none):
 newObj ⟨tm',S⟩ dst o mk (fun t=>t=St.put ⟨tm',S'⟩ dst v):=by
 unfold newObj at h ⊢
 cases S with
 |nil=>exact h
 |cons own Ω=>
  cases dst with
  |none=>exact absurd rfl hd
  |some d=>
   simp only[St.put,St.mk.injEq,List.cons.injEq,Prod.mk.injEq,and_true,true_and] at h ⊢;exact h
theorem U7{tm tm':List (Nat×V)}{o:Obj}{mk:Key->V}{v:V}(h:newObj ⟨tm,S⟩ none o mk (fun t=>t=St.put ⟨tm,S'⟩ none v)):
 newObj ⟨tm',S⟩ none o mk (fun t=>t=St.put ⟨tm',S'⟩ none v):=by
 unfold newObj at h ⊢
 cases S with
 |nil=>exact h
 |cons own Ω=>
  simp only[St.put,St.mk.injEq,true_and] at h ⊢;exact h
theorem oC{tm tm':List (Nat×V)}{dst:Option Nat}{o:Obj}{mk:Key->V}{v:V}(h:newObj ⟨tm,S⟩ dst o mk (fun t=>t=St.put ⟨tm,S'⟩ dst v)):
 newObj ⟨tm',S⟩ dst o mk (fun t=>t=St.put ⟨tm',S'⟩ dst v):=by
 cases dst with
 |none=>exact U7 h
 |some d=>exact XR h (by simp)
theorem uf{tm tm':List (Nat×V)}{dst:Option Nat}{S1 S2:Store}{v v':V}(h:St.put ⟨tm,S1⟩ dst v=St.put ⟨tm,S2⟩ dst v'):St.put ⟨tm',S1⟩ dst v=St.put ⟨tm',S2⟩ dst v':=by
 cases dst with
 |none=>simp only[St.put,St.mk.injEq,true_and] at h ⊢;exact h
 |some d=>simp only[St.put,St.mk.injEq,List.cons.injEq,Prod.mk.injEq,and_true,true_and] at h ⊢;exact h
theorem aaB{b:Bool}{es x:List (List D)}{z:Nat}{tm tm':List (Nat×V)}{dst:Option Nat}{v:V}(h:yK b es ⟨tm,S⟩ dst z x (fun t=>t=St.put ⟨tm,S'⟩ dst v)):
 yK b es ⟨tm',S⟩ dst z x (fun t=>t=St.put ⟨tm',S'⟩ dst v):=by
 cases b with
 |false=>exact oC (o:=.tok z x) (mk:=fun k=>.c (.bK k x)) h
 |true=>exact⟨h.1,oC (o:=.dN z x) (mk:=fun k=>.c (.gQ k)) h.2⟩
theorem aaC{l:Option Nat}{es x:List (List D)}{z:Nat}{tm tm':List (Nat×V)}{dst:Option Nat}{v:V}(h:zL l es ⟨tm,S⟩ dst z x (fun t=>t=St.put ⟨tm,S'⟩ dst v)):
 zL l es ⟨tm',S⟩ dst z x (fun t=>t=St.put ⟨tm',S'⟩ dst v):=by
 cases l with
 |none=>exact aaB h
 |some n=>
  cases es with
  |nil=>exact uf h
  |cons y es=>exact oC (o:=.tok z x) (mk:=fun k=>.c (.bK k x)) h
theorem aaD{b:Bool}{n:Nat}{x:List (List D)}{z:Nat}{tm tm':List (Nat×V)}{dst:Option Nat}{v:V}(h:Bw b n ⟨tm,S⟩ dst z x (fun t=>t=St.put ⟨tm,S'⟩ dst v)):
 Bw b n ⟨tm',S⟩ dst z x (fun t=>t=St.put ⟨tm',S'⟩ dst v):=by
 cases b with
 |false=>exact oC (o:=.dY n z x) (mk:=fun k=>.c (.bK k x)) h
 |true=>exact uf h
theorem aaE{o:Oper}{tm tm':List (Nat×V)}{v:V}(hD:pR o.op=true)(he:∀x∈o.op.operands,ev tm x=ev tm' x)(h:bQ P o ⟨tm,S⟩ (fun t=>t=St.put ⟨tm,S'⟩ o.dst v)):
 bQ P o ⟨tm',S⟩ (fun t=>t=St.put ⟨tm',S'⟩ o.dst v):=by
 obtain⟨dst,op,ty,pos,after,guard⟩:=o
 cases op with
 |alloc t=>
  simp only[bQ,rZ] at h ⊢;split at h
  ·exact oC h
  ·exact h.elim
 |box t x=>
  have e1:=he x (by simp[Op.operands]);simp only[bQ,zK,e1] at h ⊢;split at h
  ·exact oC h
  ·exact h.elim
 |makeSlice t l c=>
  have e1:=he l (by simp[Op.operands]);have e2:=he c (by simp[Op.operands]);simp only[bQ,vL,e1,e2] at h ⊢;split at h
  ·split at h
   ·obtain⟨h1,h2,h3,h4,h5,h6⟩:=h;exact⟨h1,h2,h3,h4,h5,oC h6⟩
   ·exact h.elim
  ·exact h.elim
 |store t x y=>
  have e1:=he x (by simp[Op.operands]);have e2:=he y (by simp[Op.operands]);simp only[bQ,r9,e1,e2] at h ⊢;split at h
  ·split at h
   ·obtain⟨h1,h2,h3,h4⟩:=h;exact⟨h1,h2,h3,uf h4⟩
   ·exact h.elim
  ·split at h
   ·obtain⟨h1,h2,h3,h4,h5⟩:=h;exact⟨h1,h2,h3,h4,uf h5⟩
   ·exact h.elim
  ·split at h
   ·split at h
    ·split at h
     ·obtain⟨h1,h2,h3,h4,h5,h6⟩:=h;exact⟨h1,h2,h3,h4,h5,uf h6⟩
     ·exact h.elim
    ·exact h.elim
   ·exact h.elim
  ·exact h.elim
 |makeMap t r=>
  cases r with
  |none=>
   simp only[bQ,ru] at h ⊢;exact oC h
  |some r=>simp[pR] at hD
 |mapUpdate t x y z=>
  have e1:=he x (by simp[Op.operands]);have e2:=he y (by simp[Op.operands]);have e3:=he z (by simp[Op.operands]);simp only[bQ,rz,e1,e2,e3] at h ⊢;split at h
  ·split at h
   ·exact uf h
   ·exact h.elim
  ·exact h.elim
 |call c=>
  obtain⟨xW,args,vO⟩:=c
  cases xW with
  |builtin b=>
   cases b with
   |append=>
    simp only[bQ,mD] at h ⊢;split at h
    ·rename_i x y t u hxy htu
     have hargs:args= #[x,y]:=by rw[<-Array.toArray_toList (xs:=args),hxy]
     have e1:=he x (by simp[Op.operands,Call.operands,hargs]);have e2:=he y (by simp[Op.operands,Call.operands,hargs]);simp only[pQ,e1,e2] at h ⊢;split at h
     ·obtain⟨h1,h2,h3,h4⟩:=h;refine⟨h1,h2,h3,?_⟩;split at h4
      ·split at h4
       ·obtain⟨k1,k2,k3,k4⟩:=h4;exact⟨k1,k2,k3,uf k4⟩
       ·obtain⟨k1,k2,k3,k4⟩:=h4;exact⟨k1,k2,k3,uf k4⟩
       ·exact h4.elim
      ·obtain⟨k1,k2,k3⟩:=h4;exact⟨k1,k2,aaC k3⟩
      ·obtain⟨k1,k2,k3⟩:=h4;exact⟨k1,k2,aaD k3⟩
      ·exact h4.elim
     ·exact h.elim
    ·exact h.elim
   |_=>simp[pR] at hD
  |_=>simp[pR] at hD
 |_=>simp[pR] at hD
theorem aaF{f:FuncId}{args:List V}{tm tm':List (Nat×V)}{dst:Option Nat}{v:V}(h:xB P f args ⟨tm,S⟩ dst (fun t=>t=St.put ⟨tm,S'⟩ dst v)):xB P f args ⟨tm',S⟩ dst (fun t=>t=St.put ⟨tm',S'⟩ dst v):=by
 rcases h with⟨post,h1,h2⟩|⟨r,h1,h2⟩
 ·exact .inl ⟨post,h1,fun r Ov hp=>uf (h2 r Ov hp)⟩
 ·exact .inr ⟨r,h1,uf h2⟩
theorem aaG{E:Md}{o:Oper}{tm tm':List (Nat×V)}{v:V}(hD:eZ E o.op=true)(he:∀x∈o.op.operands,ev tm x=ev tm' x)(h:bQ P o ⟨tm,S⟩ (fun t=>t=St.put ⟨tm,S'⟩ o.dst v)):
 bQ P o ⟨tm',S⟩ (fun t=>t=St.put ⟨tm',S'⟩ o.dst v):=by
 by_cases hd:pR o.op=true
 ·exact aaE hd he h
 ·have hc:iT o.op=true:=by
   unfold eZ at hD;rw[Bool.or_eq_true,Bool.and_eq_true] at hD;rcases hD with h|h
   ·exact absurd h hd
   ·exact h.2
  obtain⟨dst,op,ty,pos,after,guard⟩:=o
  cases op with
  |call c=>
   obtain⟨xW,args,vO⟩:=c
   cases xW with
   |value x=>
    have h1:args.toList.map (ev tm)=args.toList.map (ev tm'):=List.map_congr_left fun y hy=>he y (by simp[Op.operands,Call.operands];exact .inr (by simpa using hy));have h2:ev tm x=ev tm' x:=he x (by simp[Op.operands,Call.operands]);simp only[bQ,mD,h1,h2] at h ⊢;split at h
    ·exact aaF h
    ·exact h.elim
   |_=>simp[iT] at hc
  |_=>simp[iT] at hc
theorem ad7{tm tm':List (Nat×V)}{op:Op}(he:∀x∈op.operands,ev tm x=ev tm' x):nval P S tm op=nval P S tm' op:=by
 unfold nval mq
 split<;>try rfl
 ·rw[he _ (by simp[Op.operands])]
 ·rw[he _ (by simp[Op.operands])]
 ·rename_i c x y;rw[he c (by simp[Op.operands]),he x (by simp[Op.operands]),he y (by simp[Op.operands])]
 ·rw[he _ (by simp[Op.operands])]
 ·rw[he _ (by simp[Op.operands])]
 ·rw[he _ (by simp[Op.operands])]
 ·rename_i t x i;rw[he x (by simp[Op.operands]),he i (by simp[Op.operands])]
 ·rename_i t x i;rw[he x (by simp[Op.operands]),he i (by simp[Op.operands])]
 ·rename_i op t x y _;rw[he x (by simp[Op.operands]),he y (by simp[Op.operands])]
 ·rw[he _ (by simp[Op.operands])]
 ·rw[he _ (by simp[Op.operands])]
 ·rw[he _ (by simp[Op.operands])]
 ·rename_i fn first caps
  have h1:first.toList.map (ev tm)=first.toList.map (ev tm'):=List.map_congr_left fun x hx=>he x (by simp[Op.operands];exact .inl (by simpa using hx))
  have h2:caps.toList.map (ev tm)=caps.toList.map (ev tm'):=List.map_congr_left fun x hx=>he x (by simp[Op.operands];exact .inr (by simpa using hx));rw[h1,h2]
 ·rw[he _ (by simp[Op.operands])]
 ·rename_i t x lo hi mx;rw[he x (by simp[Op.operands])]
  have h1:lo.map (ev tm)=lo.map (ev tm'):=by
   cases lo with
   |none=>rfl
   |some y=>simp[he y (by simp[Op.operands])]
  have h2:hi.map (ev tm)=hi.map (ev tm'):=by
   cases hi with
   |none=>rfl
   |some y=>simp[he y (by simp[Op.operands])]
  have h3:mx.map (ev tm)=mx.map (ev tm'):=by
   cases mx with
   |none=>rfl
   |some y=>simp[he y (by simp[Op.operands])]
  rw[h1,h2,h3]
 ·rename_i t parts
  have h1:(parts.toList.map fun x=>(x.1,ev tm x.2))=parts.toList.map fun x=>(x.1,ev tm' x.2):=List.map_congr_left fun x hx=>by
   rw[he x.2 (by simp only[Op.operands,List.mem_toArray,List.mem_map];exact⟨x,hx,rfl⟩)]
  rw[h1]
 ·rename_i t n parts
  have h1:(parts.toList.map fun x=>(x.1,ev tm x.2))=parts.toList.map fun x=>(x.1,ev tm' x.2):=List.map_congr_left fun x hx=>by
   rw[he x.2 (by simp only[Op.operands,List.mem_toArray,List.mem_map];exact⟨x,hx,rfl⟩)]
  rw[h1]
 ·rename_i t x i;rw[he x (by simp[Op.operands]),he i (by simp[Op.operands])]
 ·rename_i args vO;split
  ·rename_i x t hx ht
   have hargs:args= #[x]:=by rw[<-Array.toArray_toList (xs:=args),hx]
   rw[he x (by simp[Op.operands,Call.operands,hargs])]
  ·rfl
 ·rename_i args vO;split
  ·rename_i x y hx
   have hargs:args= #[x,y]:=by rw[<-Array.toArray_toList (xs:=args),hx]
   rw[he x (by simp[Op.operands,Call.operands,hargs]),he y (by simp[Op.operands,Call.operands,hargs])]
  ·rfl
 ·rename_i args vO;split
  ·rename_i x y hx
   have hargs:args= #[x,y]:=by rw[<-Array.toArray_toList (xs:=args),hx]
   rw[he x (by simp[Op.operands,Call.operands,hargs]),he y (by simp[Op.operands,Call.operands,hargs])]
  ·rfl
theorem aaH{tm tm':List (Nat×V)}{c:Call}{v:V}(he:∀x∈c.operands,ev tm x=ev tm' x)(h:C8 P tm c v):C8 P tm' c v:=by
 unfold C8 at h ⊢;obtain⟨xW,args,vO⟩:=c
 cases xW with
 |value x=>
  simp only at h ⊢;rw[<-he x (by simp[Call.operands])];have h1:args.toList.map (ev tm)=args.toList.map (ev tm'):=List.map_congr_left fun y hy=>he y (by simp[Call.operands];exact .inr (by simpa using hy));rw[<-h1];exact h
 |_=>exact h
def Pf:Obj->Prop
 | .box _=>True
 | .dN _ _=>True
 | .mp _=>True
 | .xf _=>True
 |_=>False
def Gd(v:V)(k:Key):Prop:=(∃off,v=.c (.ptr k off))\/(∃i off,v=.c (.ku k i off))\/v=.c (.gQ k)\/v=.c (.mp k)\/(∃r p,v=.c (.xp k r p))\/∃r p z i off,v=.c (.xq k r p z i off)
def Fix(S S':Store):Prop:=∀k o,aW S k=some o->Pf o->aW S' k=some o
theorem Fix.refl(S:Store):Fix S S:=fun _ _ h _=>h
theorem fZ{q:Prop}(h:no.1):q:=h.elim
theorem aaI{l:Option Nat}{tm:List (Nat×V)}{op:Op}(h:(mq P l S tm op).1)
 (hf:∀x∈op.operands,∀k,Gd (ev tm x) k->
   ∀o,aW S k=some o->Pf o->aW S' k=some o):mq P l S' tm op=mq P l S tm op:=by
 unfold mq at h ⊢
 split at h<;>try rfl
 ·rename_i t x;have hf:=hf x (by simp[Op.operands]);unfold y7 at h ⊢;split at h
  ·rfl
  ·split at h
   ·rename_i hx;simp only[hx]
   ·rename_i k off hx;split at h
    ·rename_i cs hk;rw[hf k (.inl ⟨off,hx⟩) _ hk trivial]
    ·exact fZ h
   ·rename_i k i off hx;split at h
    ·rename_i aQ es hk;rw[hf k (.inr (.inl ⟨i,off,hx⟩)) _ hk trivial]
    ·exact fZ h
   ·rename_i k r p z i off hx;split at h
    ·rename_i rs hk;rw[hf k (.inr (.inr (.inr (.inr (.inr ⟨r,p,z,i,off,hx⟩))))) _ hk trivial]
    ·exact fZ h
   ·exact fZ h
 ·rename_i t x f;have hf:=hf x (by simp[Op.operands]);unfold qB at h ⊢;split at h
  ·split at h
   ·split at h
    ·exact fZ h
    ·rename_i fs hs _ fd hfd hne;split at h
     ·rename_i hx;simp[hs,hfd,hne,hx]
     ·rename_i k off hx;split at h
      ·rename_i cs hk;simp only[hs,hfd,hne,if_false,hx,hf k (.inl ⟨off,hx⟩) _ hk trivial,hk]
      ·exact fZ h
     ·rename_i k i off hx;split at h
      ·rename_i aQ es hk;simp only[hs,hfd,hne,if_false,hx,hf k (.inr (.inl ⟨i,off,hx⟩)) _ hk trivial,hk]
      ·exact fZ h
     ·rename_i k r p z i off hx;split at h
      ·rename_i rs hk;simp only[hs,hfd,hne,if_false,hx,hf k (.inr (.inr (.inr (.inr (.inr ⟨r,p,z,i,off,hx⟩))))) _ hk trivial,hk]
      ·exact fZ h
     ·exact fZ h
   ·exact fZ h
  ·exact fZ h
 ·rename_i t x i;have hf:=hf x (by simp[Op.operands]);unfold qC at h ⊢;split at h
  ·rename_i e k n' n ht hx hi;split at h
   ·rename_i aQ es hk;simp only[ht,hx,hi,hf k (.inr (.inr (.inl hx))) _ hk trivial,hk]
   ·exact fZ h
  ·rename_i len e k off n' n ht hx hi;split at h
   ·rename_i cs hk;simp only[ht,hx,hi,hf k (.inl ⟨off,hx⟩) _ hk trivial,hk]
   ·exact fZ h
  ·rename_i e k r p n' n ht hx hi;split at h
   ·rename_i rs hk;simp only[ht,hx,hi,hf k (.inr (.inr (.inr (.inr (.inl ⟨r,p,hx⟩))))) _ hk trivial,hk]
   ·exact fZ h
  ·rename_i e y n' n hy hy2 ht hx hi;simp only[ht,hx,hi]
  ·exact fZ h
 ·rename_i x;have hf:=hf x (by simp[Op.operands]);unfold uO at h ⊢;split at h
  ·rename_i k off hx;split at h
   ·rename_i cs hk;simp only[hx,hf k (.inl ⟨off,hx⟩) _ hk trivial,hk]
   ·exact fZ h
  ·rename_i hx;simp only[hx]
  ·exact fZ h
 ·rename_i t x i;have hf:=hf x (by simp[Op.operands]);unfold wO at h ⊢;split at h
  ·rename_i kt et k l ht vG hi;split at h
   ·rename_i m hk hkt hz;simp only[ht,vG,hi,hf k (.inr (.inr (.inr (.inl vG)))) _ hk trivial,hk,hkt,hz]
   ·exact fZ h
  ·exact fZ h
 ·rename_i args vO;split at h
  ·rename_i x t hx ht
   have hargs:args= #[x]:=by rw[<-Array.toArray_toList (xs:=args),hx]
   have hf:=hf x (by simp[Op.operands,Call.operands,hargs]);unfold CS at h ⊢;split at h
   ·rename_i l Jq vG;simp only[Jq,vG]
   ·rename_i n e Jq;simp only[Jq]
   ·rename_i e k Jq vG;split at h
    ·rename_i aQ es hk;simp only[Jq,vG,hf k (.inr (.inr (.inl vG))) _ hk trivial,hk]
    ·exact fZ h
   ·rename_i e k r p Jq vG;split at h
    ·rename_i rs hk;simp only[Jq,vG,hf k (.inr (.inr (.inr (.inr (.inl ⟨r,p,vG⟩))))) _ hk trivial,hk]
    ·exact fZ h
   ·rename_i e y hy hy2 Jq vG;simp only[Jq,vG]
   ·exact fZ h
  ·exact fZ h
end
def uG(acc:List Nat):List Edge->Nat
 |[]=>0
 |e::es=>(if Region.binds .any e then 2^e.on ||| acc.getD e.on 0 else 0) ||| uG acc es
def masks:List Oper->List Nat->List Nat
 |[],acc=>acc
 |o::os,acc=>masks os (acc++[uG acc o.after.toList])
def clash(E:Md)(R:Array Oper)(x y:Oper):Bool:= !(x.apart R y)||(eZ E x.op&&eZ E y.op)||kC E x.op||kC E y.op
def xX(E:Md)(R:Array Oper)(N:Nat):Bool:=
 (List.range R.size).all fun j=>
   (match R[j]? with
    |some o=>o.after.toList.all (fun e=> !Region.binds .any e||decide (e.on<j))&&(match o.dst with|some d=>decide (d<N)|none=>true)
    |none=>true)&&
   (List.range j).all fun i=>
     match R[i]?,R[j]? with
     |some x,some y=>((masks R.toList []).getD j 0).testBit i|| !(clash E R x y)
     |_,_=>true
def qE(R:Array Oper)(i j:Nat):Bool:=if i<j then((masks R.toList []).getD j 0).testBit i else((masks R.toList []).getD i 0).testBit j
def lW(E:Md)(R:Array Oper)(x y:Oper):Bool:= !(x.apart R y)||(eZ E x.op&&eZ E y.op)
def settled(R:Array Oper)(i:Nat):Operand->Bool
 | .tmp t=>(List.range R.size).all fun n=>decide (n<i)|| !(fG R n==some t)
 |_=>true
def ug(R:Array Oper)(i:Nat)(x:Oper)(j:Nat)(y:Oper):Bool:=iT y.op||match x.op with
 | .store _ a _=>settled R i a&&y.op.operands.toList.all (settled R j)
 |_=>false
def Gf(E:Md)(R:Array Oper)(N:Nat):Bool:=
 (List.range R.size).all fun j=>
   (match R[j]? with
    |some o=>o.after.toList.all (fun e=> !Region.binds .any e||decide (e.on<j))&&(match o.dst with|some d=>decide (d<N)|none=>true)
    |none=>true)&&
   (List.range j).all fun i=>
     match R[i]?,R[j]? with
     |some x,some y=>((masks R.toList []).getD j 0).testBit i|| !(lW E R x y||(kC E x.op&& !(ug R i x j y))||(kC E y.op&& !(ug R j y i x)))
     |_,_=>true
def U8(v w:V):Bool:=
 match w with
 | .c (.ptr k _)=>(match v with| .c (.ptr k' _)=>k'.2 !=k.2| .c (.ku k' _ _)=>k'.2 !=k.2|_=>false)
 | .c (.ku k _ _)=>(match v with| .c (.ptr k' _)=>k'.2 !=k.2| .c (.ku k' _ _)=>k'.2 !=k.2|_=>false)
 | .c (.gQ k)=>(match v with| .c (.ptr k' _)=>k'.2 !=k.2| .c (.ku k' _ _)=>k'.2 !=k.2|_=>false)
 | .c (.mp k)=>(match v with| .c (.ptr k' _)=>k'.2 !=k.2| .c (.ku k' _ _)=>k'.2 !=k.2|_=>false)
 | .c (.xp _ _ _)=>false
 | .c (.xq _ _ _ _ _ _)=>false
 |_=>true
def Oc(E:Md)(R:Array Oper)(tm:List (Nat×V)):Bool:=
 (List.range R.size).all fun i=>match R[i]? with
   |some x=> !(kC E x.op)||match x.op with
    | .store _ a _=>(List.range R.size).all fun j=>match R[j]? with
      |some y=>qE R i j||eZ E y.op||iT y.op||y.op.operands.toList.all (fun z=>U8 (ev tm a) (ev tm z))
      |none=>true
    |_=>true
   |none=>true
def Lh(R:Array Oper)(i:Nat):Bool:=
 (List.range R.size).all fun j=>decide (j=i)||(if j<i then((masks R.toList []).getD i 0).testBit j else((masks R.toList []).getD j 0).testBit i)
def xY:Op->Option FuncId
 | .call {callee:=.value (.func f),args:=_,argTypes:=_}=>some f
 |_=>none
def xC(R:Array Oper)(m:Nat):Md:=fun op=>if(List.range R.size).all (fun i=>match R[i]? with
 |some o=>(xY op !=xY o.op)||Lh R i
 |none=>true) then 2 else m
def wS:Op->Bool
 | .alloc _=>true
 |_=>false
def EC(E:Md)(R:Array Oper)(p:Nat):Bool:=match R[p]? with
 |some o=>wS o.op&&o.guard.isNone&&o.dst.isSome&&(List.range R.size).all fun j=>match R[j]? with
  |some y=>decide (j=p)||y.apart R o||(List.range p).all fun i=>match R[i]? with
   |some x=> !(eZ E x.op)||(decide (i<j)&&((masks R.toList []).getD j 0).testBit i)
   |none=>true
  |none=>true
 |none=>true
def XT(E:Md)(R:Array Oper)(p j:Nat)(x y:Oper):Bool:= !(x.apart R y)||(!(decide (j=p))&&((eZ E x.op&&eZ E y.op)||kC E x.op||kC E y.op))
def Cb(E:Md)(R:Array Oper)(N p:Nat):Bool:=
 EC E R p&&(List.range R.size).all fun j=>
  (match R[j]? with
   |some o=>o.after.toList.all (fun e=> !Region.binds .any e||decide (e.on<j))&&(match o.dst with|some d=>decide (d<N)|none=>true)
   |none=>true)&&
  (List.range j).all fun i=>
    match R[i]?,R[j]? with
    |some x,some y=>((masks R.toList []).getD j 0).testBit i|| !(XT E R p j x y)
    |_,_=>true
def aaJ(E:Md)(R:Array Oper)(N p:Nat):Bool:=
 EC E R p&&(List.range R.size).all fun j=>
  (match R[j]? with
   |some o=>o.after.toList.all (fun e=> !Region.binds .any e||decide (e.on<j))&&(match o.dst with|some d=>decide (d<N)|none=>true)
   |none=>true)&&
  (List.range j).all fun i=>
    match R[i]?,R[j]? with
    |some x,some y=>((masks R.toList []).getD j 0).testBit i|| !(!(x.apart R y)||(!(decide (j=p))&&((eZ E x.op&&eZ E y.op)||(kC E x.op&& !(ug R i x j y))||(kC E y.op&& !(ug R j y i x)))))
    |_,_=>true
def aaK(R:Array Oper)(p i:Nat):Bool:=
 (List.range R.size).all fun j=>decide (j=i)||decide (j=p)||(if j<i then((masks R.toList []).getD i 0).testBit j else((masks R.toList []).getD j 0).testBit i)
def Jr(R:Array Oper)(p:Nat):Md:=fun op=>if(List.range R.size).all (fun i=>match R[i]? with
 |some o=>(xY op !=xY o.op)||aaK R p i
 |none=>true) then 2 else 0
def Ij(R:Array Oper)(p:Nat):Bool:=match R[p]? with
 |some o=>wS o.op
 |none=>false
def pOf(R:Array Oper)(N:Nat):Option Nat:=(List.range R.size).find? fun p=>Ij R p&&Cb (Jr R p) R N p
def aiS(R:Array Oper)(N:Nat):Option Nat:=(List.range R.size).find? fun p=>Ij R p&&aaJ (Jr R p) R N p
def Js(R:Array Oper)(N:Nat):Md:=if xX (xC R 1) R N then xC R 1 else match pOf R N with
 |some p=>Jr R p
 |none=>if xX (xC R 0) R N then xC R 0 else fun _=>0
def Li(R:Array Oper)(N:Nat):Bool:=xX (Js R N) R N||match pOf R N with
 |some p=>Cb (Js R N) R N p
 |none=>false
def xZ(R:Array Oper)(N:Nat):Md:=if Gf (xC R 1) R N then xC R 1 else match aiS R N with
 |some p=>Jr R p
 |none=>if Gf (xC R 0) R N then xC R 0 else fun _=>0
section
variable {P:Program} {E:Md} {w w':World} {σ σ':Nat->Nat} {S S':Store} {β β':Hs} {N:Nat} {s:St} {a:Act} {R:Array Oper}
theorem ED:∀(l:List Oper)(acc:List Nat)(i:Nat),i<acc.length->(masks l acc)[i]? =acc[i]?
 |[],acc,i,h=>rfl
 |o::os,acc,i,h=>by rw[masks,ED os _ i (by simp;omega),List.getElem?_append_left h]
theorem Pg:∀(l:List Oper)(acc:List Nat)(i:Nat)(o:Oper),l[i]? =some o->
 ∃acc',(∀j,j<acc.length+i->acc'[j]? =(masks l acc)[j]?)/\acc'.length=acc.length+i/\(masks l acc)[acc.length+i]? =some (uG acc' o.after.toList)
 |[],acc,i,o,h=>by simp at h
 |x::os,acc,0,o,h=>by
  simp at h;subst h;refine⟨acc,fun j hj=> ?_,by simp,?_⟩
  ·rw[masks,ED os _ j (by simp;omega),List.getElem?_append_left (by omega)]
  ·rw[masks,Nat.add_zero,ED os _ _ (by simp),List.getElem?_append_right (Nat.le_refl _)];simp
 |x::os,acc,i+1,o,h=>by
  obtain⟨acc',h1,h2,h3⟩:=Pg os (acc++[uG acc x.after.toList]) i o (by simpa using h);refine⟨acc',fun j hj=> ?_,by rw[h2];simp;omega,?_⟩
  ·rw[masks];exact h1 j (by simp;omega)
  ·rw[masks,<-h3];congr 1;simp;omega
theorem EF{acc:List Nat}{k:Nat}:∀(es:List Edge),(uG acc es).testBit k=true->∃e∈es,Region.binds .any e=true/\(e.on=k\/(acc.getD e.on 0).testBit k=true)
 |[],h=>by simp[uG] at h
 |e::es,h=>by
  rw[uG,Nat.testBit_or,Bool.or_eq_true] at h;rcases h with h|h
  ·by_cases hb:Region.binds .any e=true
   ·rw[if_pos hb,Nat.testBit_or,Bool.or_eq_true] at h;refine⟨e,by simp,hb,?_⟩;rcases h with h|h
    ·left;rw[Nat.testBit_two_pow] at h;simpa using h
    ·exact .inr h
   ·rw[if_neg hb] at h;simp at h
  ·obtain⟨e',he',h'⟩:=EF es h;exact⟨e',by simp[he'],h'⟩
theorem AO(E:Nat->Prop)(hE:∀i o e,R[i]? =some o->E i->e∈o.after->Region.binds .any e=true->E e.on)(hlt:∀i o e,R[i]? =some o->e∈o.after->Region.binds .any e=true->e.on<i):
 ∀(i:Nat)(o:Oper),R[i]? =some o->(∀e∈o.after,Region.binds .any e=true->E e.on)->∀k,((masks R.toList []).getD i 0).testBit k=true->E k:=by
 intro i
 induction i using Nat.strongRecOn with
 |_ i ih=>
  intro o ho hed k hk;obtain⟨acc',h1,h2,h3⟩:=Pg R.toList [] i o (by simpa using ho);simp only[List.length_nil,Nat.zero_add] at h1 h2 h3;rw[List.getD_eq_getElem?_getD,h3] at hk;obtain⟨e,he,hb,hek⟩:=EF _ hk
  have he':e∈o.after:=by simpa using he
  rcases hek with rfl|hek
  ·exact hed e he' hb
  ·have hon:=hlt i o e ho he' hb;have aiT:=hed e he' hb;have hilt:i<R.size:=(Array.getElem?_eq_some_iff.1 ho).1;have hsome:R[e.on]? =some R[e.on]:=Array.getElem?_eq_getElem (by omega);refine ih e.on hon _ hsome (fun e2 he2 hb2=>hE e.on _ e2 hsome aiT he2 hb2) k ?_;rw[List.getD_eq_getElem?_getD,h1 e.on (by omega)] at hek;rw[List.getD_eq_getElem?_getD];exact hek
def j3(R:Array Oper)(vs:Nat->V)(E:Nat->Bool)(base:List (Nat×V)):Nat->Nat->V
 |0,t=>look base t
 |k+1,t=>if E k=true/\fG R k=some t then vs k else j3 R vs E base k t
theorem BA{vs:Nat->V}{E:Nat->Bool}{base:List (Nat×V)}{t i:Nat}:∀(n:Nat),(∀j,j<n->fG R j=some t->(E j=true<->j<i))->
 j3 R vs E base n t=j3 R vs (fun _=>true) base (min n i) t
 |0,_=>by simp[j3]
 |n+1,h=>by
  have ih:=BA (vs:=vs) (base:=base) n (fun j hj hd=>h j (by omega) hd);rw[j3];by_cases hd:fG R n=some t
  ·by_cases hE:E n=true
   ·have hni:=(h n (by omega) hd).1 hE;rw[if_pos ⟨hE,hd⟩,show min (n+1) i=n+1 from by omega,j3,if_pos ⟨rfl,hd⟩]
   ·have hni:¬n<i:=fun hn=>hE ((h n (by omega) hd).2 hn);rw[if_neg (fun x=>hE x.1),ih,show min (n+1) i=min n i from by omega]
  ·rw[if_neg (fun x=>hd x.2),ih];by_cases hni:n<i
   ·rw[show min (n+1) i=n+1 from by omega,show min n i=n from by omega,j3,if_neg (fun x=>hd x.2)]
   ·rw[show min (n+1) i=min n i from by omega]
theorem xD{vs:Nat->V}{E E':Nat->Bool}{base:List (Nat×V)}{t:Nat}:∀(n:Nat),(∀j,j<n->fG R j=some t->E j=E' j)->j3 R vs E base n t=j3 R vs E' base n t
 |0,_=>rfl
 |n+1,h=>by
  rw[j3,j3,xD n (fun j hj hd=>h j (by omega) hd)];by_cases hd:fG R n=some t
  ·rw[h n (by omega) hd]
  ·rw[if_neg (fun x=>hd x.2),if_neg (fun x=>hd x.2)]
theorem C9{vs:Nat->V}{E:Nat->Bool}{base:List (Nat×V)}{t i:Nat}(hi:E i=true)(hd:fG R i=some t):∀(n:Nat),i<n->(∀j,j<n->i<j->fG R j=some t->E j=false)->j3 R vs E base n t=vs i
 |0,h,_=>by omega
 |n+1,h,hj=>by
  rw[j3];by_cases hin:i=n
  ·subst hin;rw[if_pos ⟨hi,hd⟩]
  ·have:¬(E n=true/\fG R n=some t):=fun x=>by
    have:=hj n (by omega) (by omega) x.2;rw[this] at x;simp at x
   rw[if_neg this];exact C9 hi hd n (by omega) (fun j hjn hij hdj=>hj j (by omega) hij hdj)
theorem G7{o:Oper}{s:St}{K:St->Prop}(h:nP P E R o s K):∃v s',lU P E R o s v s'/\K s':=by
 have hN:∀(hg:gd R o s.tm=some true),fu P E o s K->∃v s',lU P E R o s v s'/\K s':=by
  intro hg hx;unfold fu at hx;by_cases hD:pR o.op=true
  ·rw[if_pos hD] at hx;obtain⟨S',v,h1,h2⟩:=aaA hD hx;exact⟨v,_,.inr (.inr ⟨hg,aaz hD,h1,by rw[kJ],fun h=>by rw[hD] at h;cases h⟩),h2⟩
  ·rw[if_neg hD] at hx
   have hD':pR o.op=false:=by simpa using hD
   split at hx
   ·rename_i x args vO hop
    have hcv:iT o.op=true:=by rw[hop];rfl
    rw[<-hop] at hx;split at hx
    ·rename_i hE;obtain⟨r,h1,h2⟩:=hx;exact⟨r,_,.inr (.inl ⟨hg,by unfold eZ;rw[hD',hE];rfl,.inl ⟨_,hop,h1⟩,rfl⟩),h2⟩
    ·rename_i hE;obtain⟨S',v,h0,h1,h2⟩:=hx;exact⟨v,_,.inr (.inr ⟨hg,by unfold eZ;rw[hE,hcv];simp,h1,by rw[kJ],fun _ _=>by rw[kJ];exact h0⟩),h2⟩
    ·rename_i hE0 hE1;obtain⟨S',v,h1,h2⟩:=hx
     have h3:2<=E o.op:=by
      rcases Nat.lt_or_ge (E o.op) 2 with h|h
      ·exfalso
       have:E o.op=0\/E o.op=1:=by omega
       exact this.elim hE0 hE1
      ·exact h
     exact⟨v,_,.inr (.inr ⟨hg,by unfold eZ;rw[hcv,Bool.and_true,Bool.or_eq_true,decide_eq_true_eq];exact .inr (by omega),h1,by rw[kJ],fun _ h=>by
      unfold kC at h;rw[hcv,Bool.and_true,Bool.or_eq_false_iff,decide_eq_false_iff_not] at h
      exact absurd h3 h.2⟩),h2⟩
   ·rename_i hne;refine⟨_,_,.inr (.inl ⟨hg,?_,.inr ⟨hx.1,rfl⟩,rfl⟩),hx.2⟩
    have:iT o.op=false:=by
     cases hc:iT o.op with
     |false=>rfl
     |true=>
      exfalso;unfold iT at hc;split at hc
      ·rename_i x a b ho;exact hne _ _ _ ho
      ·cases hc
    unfold eZ;rw[hD',this];simp
 unfold nP at h;split at h
 ·rename_i hg;exact hN (by simp only[gd,hg]) h
 ·rename_i j want hg;split at h
  ·rename_i x hx;by_cases e:x=want
   ·exact hN (by simp only[gd,hg,hx,e,beq_self_eq_true]) (h.1 e)
   ·exact⟨.eU [],_,.inl ⟨by simp only[gd,hg,hx];simp[e],rfl,rfl⟩,h.2 (by cases x<;>cases want<;>simp_all)⟩
  ·rename_i hx;exact⟨.eU [],_,.inl ⟨by simp only[gd,hg,hx],rfl,rfl⟩,h⟩
  ·exact h.elim
theorem EG{F:Oper->St->St->Prop}{D:List Oper->St->Prop}{K:St->Prop}(hnil:∀s,D [] s->K s)(adE:∀o os s,D (o::os) s->∃v s',lU P E R o s v s'/\F o s s'/\D os s'):∀(n k:Nat),k+n=R.size->∀s,D (R.toList.drop k) s->
 ∃(st:Nat->St) (vs:Nat->V),st k=s/\K (st R.size)/\∀i,k<=i->i<R.size->∃o,R[i]? =some o/\lU P E R o (st i) (vs i) (st (i+1))/\F o (st i) (st (i+1))
 |0,k,hk,s,h=>by
  have:R.toList.drop k=[]:=by apply List.drop_eq_nil_of_le;simp;omega
  rw[this] at h;exact⟨fun _=>s,fun _=>.any,rfl,hnil s h,fun i h1 h2=>by omega⟩
 |n+1,k,hk,s,h=>by
  have hlt:k<R.toList.length:=by simp;omega
  rw[List.drop_eq_getElem_cons hlt] at h
  have hRk:R[k]? =some R.toList[k]:=by
   rw[Array.getElem?_eq_getElem (by omega)];simp
  obtain⟨v,s',ht,hf,hd⟩:=adE _ _ s h;obtain⟨st,vs,h1,h2,h3⟩:=EG hnil adE n (k+1) (by omega) s' hd;refine⟨fun i=>if i=k then s else st i,fun i=>if i=k then v else vs i,by simp,?_,fun i hi1 hi2=> ?_⟩
  ·have:R.size≠k:=by omega
   simp only[if_neg this];exact h2
  ·by_cases e:i=k
   ·subst e;refine⟨_,hRk,?_⟩;simp only[if_true]
    have:i+1≠i:=by omega
    simp only[if_neg this,h1];exact⟨ht,hf⟩
   ·obtain⟨o,ho,ht'⟩:=h3 i (by omega) hi2;refine⟨o,ho,?_⟩
    have:i+1≠k:=by omega
    simp only[if_neg e,if_neg this];exact ht'
theorem Ik{K:St->Prop}(n k:Nat)(hk:k+n=R.size)(s:St)(h:rO P E R (R.toList.drop k) s K):
 ∃(st:Nat->St) (vs:Nat->V),st k=s/\K (st R.size)/\∀i,k<=i->i<R.size->∃o,R[i]? =some o/\lU P E R o (st i) (vs i) (st (i+1)):=by
 obtain⟨st,vs,h1,h2,h3⟩:=EG (F:=fun _ _ _=>True) (D:=fun os s=>rO P E R os s K) (fun _ h=>h) (fun o os s h=>by
  obtain⟨v,s',a,b⟩:=G7 h
  exact⟨v,s',a,trivial,b⟩) n k hk s h
 exact⟨st,vs,h1,h2,fun i a b=>by
  obtain⟨o,c,d,_⟩:=h3 i a b
  exact⟨o,c,d⟩⟩
theorem aaL{o:Oper}{s s':St}{v:V}(h:lU P E R o s v s'):s'=St.put ⟨s.tm,s'.st⟩ o.dst v:=by
 rcases h with⟨_,_,h⟩|⟨_,_,_,h⟩|⟨_,_,_,h,_⟩
 ·rw[h];cases o.dst<;>rfl
 ·rw[h];cases o.dst<;>rfl
 ·exact h
theorem aaM{o:Oper}{s s':St}{v:V}(h:lU P E R o s v s')(hD:eZ E o.op=false):s'.st=s.st:=by
 rcases h with⟨_,_,h⟩|⟨_,_,_,h⟩|⟨_,h,_,_⟩
 ·rw[h];cases o.dst<;>rfl
 ·rw[h];cases o.dst<;>rfl
 ·rw[hD] at h;cases h
theorem x9{st:Nat->St}{vs:Nat->V}(h:∀i,i<R.size->∃o,R[i]? =some o/\lU P E R o (st i) (vs i) (st (i+1)))(t:Nat):∀i,i<=R.size->look (st i).tm t=j3 R vs (fun _=>true) (st 0).tm i t
 |0,_=>rfl
 |i+1,hi=>by
  obtain⟨o,ho,ht⟩:=h i (by omega);have e:=aaL ht;have ih:=x9 h t i (by omega);rw[j3,<-ih]
  have hdst:fG R i=o.dst:=by simp[fG,ho]
  rw[hdst,e]
  cases hd:o.dst with
  |none=>simp[St.put]
  |some d=>
   simp only[St.put,look,true_and,Option.some.injEq]
theorem DS.refl(S:Store):DS S S:=fun _ _ h=>.inl h
theorem DS.trans{S1 S2 S3:Store}(h:DS S1 S2)(k:DS S2 S3):DS S1 S3:=by
 intro x o hx;rcases h x o hx with h1|⟨h1,o',z,es,h2,h2'⟩
 ·exact k x o h1
 ·rcases k x _ h2 with h3|⟨_,h3⟩
  ·exact .inr ⟨h1,o',z,es,h3,h2'⟩
  ·exact .inr ⟨h1,h3⟩
theorem DS.push{own:List Obj}{Ω:Store}{o:Obj}:DS (own::Ω) ((own++[o])::Ω):=fun k o' h=>.inl (iW _ _ _ _ _ h)
theorem ql{dst:Option Nat}{o:Obj}{mk:Key->V}{s':St}(h:newObj s dst o mk (fun t=>t=s')):DS s.st s'.st:=by
 unfold newObj at h;split at h
 ·rename_i own Ω hst;rw[<-h,kJ,hst];exact DS.push
 ·exact h.elim
theorem ad8{b:Bool}{es x:List (List D)}{z:Nat}{dst:Option Nat}{s':St}(h:yK b es s dst z x (fun t=>t=s')):DS s.st s'.st:=by
 cases b with
 |false=>exact ql (o:=.tok z x) (mk:=fun k=>.c (.bK k x)) h
 |true=>exact ql (o:=.dN z x) (mk:=fun k=>.c (.gQ k)) h.2
theorem ad9{l:Option Nat}{es x:List (List D)}{z:Nat}{dst:Option Nat}{s':St}(h:zL l es s dst z x (fun t=>t=s')):DS s.st s'.st:=by
 cases l with
 |none=>exact ad8 h
 |some n=>
  cases es with
  |nil=>
   have h:St.put ⟨s.tm,s.st⟩ dst (.c (.d (.ol n x)))=s':=h;rw[<-h,kJ];exact DS.refl _
  |cons y es=>exact ql (o:=.tok z x) (mk:=fun k=>.c (.bK k x)) h
theorem aea{b:Bool}{n:Nat}{x:List (List D)}{z:Nat}{dst:Option Nat}{s':St}(h:Bw b n s dst z x (fun t=>t=s')):DS s.st s'.st:=by
 cases b with
 |false=>exact ql (o:=.dY n z x) (mk:=fun k=>.c (.bK k x)) h
 |true=>
  have h:St.put ⟨s.tm,s.st⟩ dst (.c (.d (.ol n x)))=s':=h;rw[<-h,kJ];exact DS.refl _
theorem aaN{o:Oper}{s s':St}(hD:pR o.op=true)(hs:wR o.op=false)(h:bQ P o s (fun t=>t=s')):DS s.st s'.st:=by
 obtain⟨dst,op,ty,pos,after,guard⟩:=o
 cases op with
 |alloc t=>
  simp only[bQ,rZ] at h;split at h
  ·exact ql h
  ·exact h.elim
 |box t x=>
  simp only[bQ,zK] at h;split at h
  ·exact ql h
  ·exact h.elim
 |makeSlice t l c=>
  simp only[bQ,vL] at h;split at h
  ·split at h
   ·exact ql h.2.2.2.2.2
   ·exact h.elim
  ·exact h.elim
 |store t x y=>simp[wR] at hs
 |mapUpdate t x y z=>simp[wR] at hs
 |makeMap t r=>
  cases r with
  |none=>
   simp only[bQ,ru] at h;exact ql h
  |some r=>simp[pR] at hD
 |call c=>
  obtain⟨xW,args,vO⟩:=c
  cases xW with
  |builtin b=>
   cases b with
   |append=>
    simp only[bQ,mD] at h;split at h
    ·simp only[pQ] at h;split at h
     ·obtain⟨h1,h2,h3,h4⟩:=h;split at h4
      ·rename_i k es hex;split at h4
       ·rename_i z es' hk;obtain⟨k1,k2,k3,k4⟩:=h4;rw[<-k4,kJ];intro k' o' ho';by_cases e:k'=k
        ·subst e;rw[hk] at ho';cases ho';exact .inr ⟨⟨_,_,.inl rfl⟩,_,_,_,bW _ _ _ _ hk,.inl rfl⟩
        ·exact .inl ((dR _ _ _ _ (Ne.symm e)).trans ho')
       ·rename_i n z es' hk;obtain⟨k1,k2,k3,k4⟩:=h4;rw[<-k4,kJ];intro k' o' ho';by_cases e:k'=k
        ·subst e;rw[hk] at ho';cases ho';exact .inr ⟨⟨_,_,.inr ⟨_,rfl⟩⟩,_,_,_,bW _ _ _ _ hk,.inr ⟨_,rfl⟩⟩
        ·exact .inl ((dR _ _ _ _ (Ne.symm e)).trans ho')
       ·exact h4.elim
      ·exact ad9 h4.2.2
      ·exact aea h4.2.2
      ·exact h4.elim
     ·exact h.elim
    ·exact h.elim
   |_=>simp[pR] at hD
  |_=>simp[pR] at hD
 |_=>simp[pR] at hD
theorem aaO{o:Oper}{s s':St}{v:V}(h:lU P E R o s v s')(hs:kC E o.op=false):DS s.st s'.st:=by
 rcases h with⟨_,_,h⟩|⟨_,_,_,h⟩|⟨_,hD,h,_,hc⟩
 ·rw[h];cases o.dst<;>exact DS.refl _
 ·rw[h];cases o.dst<;>exact DS.refl _
 ·cases hd:pR o.op with
  |true=>exact aaN hd (by unfold kC at hs;rw[Bool.or_eq_false_iff] at hs;exact hs.1) h
  |false=>exact hc hd hs
theorem Cc{st:Nat->St}{vs:Nat->V}(h:∀i,i<R.size->∃o,R[i]? =some o/\lU P E R o (st i) (vs i) (st (i+1))){i:Nat}:∀(m:Nat),i+m<=R.size->(∀j o,i<=j->j<i+m->R[j]? =some o->eZ E o.op=false)->(st (i+m)).st=(st i).st
 |0,_,_=>rfl
 |m+1,hm,hj=>by
  obtain⟨o,ho,ht⟩:=h (i+m) (by omega);rw[show i+(m+1)=i+m+1 from rfl,aaM ht (hj _ o (by omega) (by omega) ho)];exact Cc h m (by omega) (fun j o h1 h2 h3=>hj j o h1 (by omega) h3)
def KS(k:Key)(S S':Store):Prop:=∀o,aW S k=some o->aW S' k=some o\/((∃z es,qA o z es)/\∃o' z es,aW S' k=some o'/\qA o' z es)
theorem KS.trans{k:Key}{S1 S2 S3:Store}(h:KS k S1 S2)(h':KS k S2 S3):KS k S1 S3:=by
 intro o hx;rcases h o hx with h1|⟨h1,o',z,es,h2,h2'⟩
 ·exact h' o h1
 ·rcases h' _ h2 with h3|⟨_,h3⟩
  ·exact .inr ⟨h1,o',z,es,h3,h2'⟩
  ·exact .inr ⟨h1,h3⟩
theorem U9{st:Nat->St}{vs:Nat->V}(h:∀i,i<R.size->∃o,R[i]? =some o/\lU P E R o (st i) (vs i) (st (i+1))){i:Nat}{k:Key}:∀(m:Nat),i+m<=R.size->
 (∀j o,i<=j->j<i+m->R[j]? =some o->kC E o.op=false\/aW (st (j+1)).st k=aW (st j).st k)->KS k (st i).st (st (i+m)).st
 |0,_,_=>fun _ hx=>.inl hx
 |m+1,hm,hj=>by
  obtain⟨o,ho,ht⟩:=h (i+m) (by omega);refine(U9 h m (by omega) (fun j o h1 h2 h3=>hj j o h1 (by omega) h3)).trans ?_;rcases hj _ o (by omega) (by omega) ho with hs|hs
  ·exact aaO ht hs k
  ·intro x hx;exact .inl (hs.trans hx)
theorem cnt_lt(p q:Nat->Bool):∀(l:List Nat)(i:Nat),(∀x,q x=true->p x=true)->i∈l->p i=true->q i=false->l.countP q<l.countP p
 |[],_,_,h,_,_=>by simp at h
 |x::l,i,h,hi,hp,hq=>by
  rw[List.countP_cons,List.countP_cons];have hle:l.countP q<=l.countP p:=List.countP_mono_left (fun y _ hy=>h y hy);rcases List.mem_cons.1 hi with rfl|hi
  ·rw[hp,hq];simp;omega
  ·have ih:=cnt_lt p q l i h hi hp hq;by_cases hx:q x=true
   ·rw[hx,h x hx];simp;exact ih
   ·have:q x=false:=by simpa using hx
    rw[this];simp
    split<;>omega
end
section
variable {P:Program} {E:Md} {N:Nat} {R:Array Oper}
def mH(E:Md)(R:Array Oper)(p:Nat)(listed:Array Bool):Prop:=listed.getD p false=true/\p<R.size/\∃j x,j<p/\R[j]? =some x/\eZ E x.op=true/\listed.getD j false=false
def Raw(P:Program)(R:Array Oper)(p:Nat)(w0 w:World)(σ:Nat->Nat)(S:Store)(β:Hs)(v:Value):Prop:=
 ∃b c ty,v=.pointer (some ⟨b,0,none⟩)/\w.heap[b]? =some (.cells c ty (0,0))/\σ b=0/\w0.heap.size<=b/\¬Own S β b/\
  ∀o t zs,R[p]? =some o->o.op=.alloc t->gZ P t=some zs->∀w σ S β,eX w σ S β zs c.toList
open Classical in
noncomputable def rT(E:Md)(R:Array Oper)(p:Nat)(vs:Nat->V)(listed:Array Bool)(base:List (Nat×V))(t:Nat):V:=
 if mH E R p listed/\fG R p=some t then .any else j3 R vs (fun i=>listed.getD i false) base R.size t
structure Mid(P:Program)(N:Nat)(E:Md)(R:Array Oper)(p:Nat)(st:Nat->St)(vs:Nat->V)(β0:Hs)(σ0:Nat->Nat)(w0:World)(listed:Array Bool)(a:Act)(w:World):Prop where
 size:listed.size=R.size
 closed:∀i o e,R[i]? =some o->listed.getD i false=true->e∈o.after->Region.binds .any e=true->listed.getD e.on false=true
 rep:∃m,m<=R.size/\(∀i o,R[i]? =some o->eZ E o.op=true->(i=p->¬mH E R p listed)->(listed.getD i false=true<->i<m))/\∃σ β,a.tmps.size=N/\a.defers=[]/\dL w σ (st m).st β/\
  (∀t,cB w σ (st m).st β (rT E R p vs listed (st 0).tm t) (a.tmps.getD t undef))/\Step (st 0).st β0 σ0 w0 (st m).st β σ w/\Keep (st 0).st β0 (st m).st β/\
  (mH E R p listed->m<=p/\∀d,fG R p=some d->Raw P R p w0 w σ (st m).st β (a.tmps.getD d undef))
theorem D7{o:Oper}{x:Operand}{t:Nat}(hx:x∈o.op.operands)(e:x=.tmp t):t∈o.looksAt R:=by
 subst e;exact List.mem_append_left _ (List.mem_filterMap.2 ⟨.tmp t,by simpa using hx,rfl⟩)
theorem RJ{o:Oper}{g d:Nat}{want:Bool}(hg:o.guard=some (g,want))(hd:fG R g=some d):d∈o.looksAt R:=by
 refine List.mem_append_right _ ?_;rw[hg];show d∈((R[g]?).bind (·.dst)).toList;unfold fG at hd
 rw[hd];simp
theorem zO(h:xX E R N=true){i j:Nat}{x y:Oper}(hij:i<j)(hx:R[i]? =some x)(hy:R[j]? =some y)(hc:clash E R x y=true):((masks R.toList []).getD j 0).testBit i=true:=by
 have hj:j<R.size:=(Array.getElem?_eq_some_iff.1 hy).1;have h1:=List.all_eq_true.1 h j (List.mem_range.2 hj);rw[Bool.and_eq_true] at h1;have h2:=List.all_eq_true.1 h1.2 i (List.mem_range.2 hij);rw[hx,hy] at h2;simp only[hc,Bool.not_true,Bool.or_false] at h2;exact h2
theorem Ph(h:xX E R N=true){i:Nat}{o:Oper}{e:Edge}(ho:R[i]? =some o)(he:e∈o.after)(hb:Region.binds .any e=true):e.on<i:=by
 have hj:i<R.size:=(Array.getElem?_eq_some_iff.1 ho).1;have h1:=List.all_eq_true.1 h i (List.mem_range.2 hj);rw[Bool.and_eq_true,ho] at h1;have h2:=h1.1;simp only[Bool.and_eq_true] at h2;have h3:=List.all_eq_true.1 h2.1 e (by simpa using he);simpa [hb] using h3
theorem RL(h:xX E R N=true){i:Nat}{o:Oper}(ho:R[i]? =some o):∀d,o.dst=some d->d<N:=by
 intro d hd;have hj:i<R.size:=(Array.getElem?_eq_some_iff.1 ho).1;have h1:=List.all_eq_true.1 h i (List.mem_range.2 hj);rw[Bool.and_eq_true,ho] at h1;have h2:=h1.1;simp only[Bool.and_eq_true,hd] at h2;simpa using h2.2
theorem Va{x y:Oper}:x.apart R y=y.apart R x:=by
 rw[Bool.eq_iff_iff]
 have key:∀x y:Oper,x.apart R y=true->y.apart R x=true:=fun x y h=>by
  obtain⟨h1,h2,h3⟩:=Oper.apart_spec h;unfold Oper.apart
  cases hx:x.dst<;>cases hy:y.dst<;>simp
  ·rename_i d;exact h3 d hy
  ·rename_i d;exact h1 d hx
  ·rename_i d d';exact⟨⟨h3 d' hy,fun e=>h2 d hx (by rw[hy,e])⟩,h1 d hx⟩
 exact⟨key x y,key y x⟩
theorem RN{x y:Oper}:lW E R x y=lW E R y x:=by
 unfold lW;rw[Va,Bool.and_comm (eZ E x.op)]
def Vb:Op->Bool
 | .move _=>true
 |_=>false
theorem aaP{P:Program}{l:Option Nat}{S S':Store}{tm:List (Nat×V)}{op:Op}(h:Vb op=true):mq P l S' tm op=mq P l S tm op:=by
 cases op<;>first|rfl|cases h
def refs(tm:List (Nat×V))(o:Oper)(k:Key):Prop:=Vb o.op=false/\∃x∈o.op.operands,Gd (ev tm x) k
structure Ms(E:Md)(R:Array Oper)(N:Nat)(st:Nat->St)(p:Nat):Prop where
 edge:∀(i:Nat)(o:Oper)(e:Edge),R[i]? =some o->e∈o.after->Region.binds .any e=true->e.on<i
 dst:∀(i:Nat)(o:Oper),R[i]? =some o->∀d,o.dst=some d->d<N
 pair:∀(i j:Nat)(x y:Oper),i<j->R[i]? =some x->R[j]? =some y->lW E R x y=true->((masks R.toList []).getD j 0).testBit i=true\/(j=p/\eZ E x.op=true/\x.apart R y=true)
 store:∀(i j:Nat)(x o:Oper),i≠j->R[i]? =some x->R[j]? =some o->kC E x.op=true->eZ E o.op=false->iT o.op=false->
  qE R i j=true\/∀k,refs (st j).tm o k->aW (st (i+1)).st k=aW (st i).st k
 pend:∀o,R[p]? =some o->wS o.op=true/\o.guard=none/\(∃d,o.dst=some d)/\∀j y,j≠p->R[j]? =some y->y.apart R o=false->∀i x,i<p->R[i]? =some x->eZ E x.op=true->i<j/\((masks R.toList []).getD j 0).testBit i=true
theorem afQ{st:Nat->St}(h:xX E R N=true):Ms E R N st R.size where
 edge:=fun i o e h1 h2 h3=>Ph h h1 h2 h3
 dst:=fun i o h1=>RL h h1
 pair:=fun i j x y hij hx hy hc=>.inl (zO h hij hx hy (by
  unfold lW at hc;unfold clash
  rw[hc];rfl))
 store:=fun i j x o hij hx ho hs hD hc=>.inl (by
  unfold qE;by_cases e:i<j
  ·rw[if_pos e];exact zO h e hx ho (by unfold clash;rw[hs];simp)
  ·rw[if_neg e]
   exact zO h (show j<i by omega) ho hx (by unfold clash;rw[hs];simp))
 pend:=fun o ho=>by rw[Array.getElem?_eq_none (Nat.le_refl _)] at ho;cases ho
theorem TL{p:Nat}(h:EC E R p=true):∀o,R[p]? =some o->wS o.op=true/\o.guard=none/\(∃d,o.dst=some d)/\∀j y,j≠p->R[j]? =some y->y.apart R o=false->∀i x,i<p->R[i]? =some x->eZ E x.op=true->i<j/\((masks R.toList []).getD j 0).testBit i=true:=by
 intro o ho;unfold EC at h;rw[ho] at h;simp only[Bool.and_eq_true] at h;obtain⟨⟨⟨h1,h2⟩,h3⟩,h4⟩:=h;refine⟨h1,by simpa using h2,Option.isSome_iff_exists.1 h3,fun j y hj hy hap i x hi hx hD=> ?_⟩;have hjl:j<R.size:=(Array.getElem?_eq_some_iff.1 hy).1;have h5:=List.all_eq_true.1 h4 j (List.mem_range.2 hjl);rw[hy] at h5;simp only[hap,hj,decide_false,Bool.false_or] at h5;have h6:=List.all_eq_true.1 h5 i (List.mem_range.2 hi);rw[hx] at h6;simpa [hD] using h6
theorem su{o:Oper}(h:wS o.op=true):eZ E o.op=true/\kC E o.op=false/\iT o.op=false:=by
 obtain⟨dst,op,ty,pos,after,guard⟩:=o;cases op<;>simp_all[wS,eZ,pR,kC,wR,iT]
theorem aeb{st:Nat->St}{p:Nat}(h0:Cb E R N p=true):Ms E R N st p:=by
 unfold Cb at h0;rw[Bool.and_eq_true] at h0;obtain⟨hp,h⟩:=h0;have wI:=TL hp
 have hpr:∀(i j:Nat)(x y:Oper),i<j->R[i]? =some x->R[j]? =some y->((masks R.toList []).getD j 0).testBit i=true\/(x.apart R y=true/\(j=p\/((eZ E x.op&&eZ E y.op)=false/\kC E x.op=false/\kC E y.op=false))):=by
  intro i j x y hij hx hy;have hj:j<R.size:=(Array.getElem?_eq_some_iff.1 hy).1;have h1:=List.all_eq_true.1 h j (List.mem_range.2 hj);rw[Bool.and_eq_true] at h1;have h2:=List.all_eq_true.1 h1.2 i (List.mem_range.2 hij);rw[hx,hy] at h2;simp only[XT] at h2;rw[Bool.or_eq_true] at h2;rcases h2 with h2|h2
  ·exact .inl h2
  ·right;rw[Bool.not_eq_true',Bool.or_eq_false_iff,Bool.not_eq_false'] at h2;refine⟨h2.1,?_⟩;by_cases e:j=p
   ·exact .inl e
   ·right;have h3:=h2.2;simp only[e,decide_false,Bool.not_false,Bool.true_and,Bool.or_eq_false_iff] at h3;exact⟨h3.1.1,h3.1.2,h3.2⟩
 refine⟨?_,?_,?_,?_,wI⟩
 ·intro i o e ho he hb;have hj:i<R.size:=(Array.getElem?_eq_some_iff.1 ho).1;have h1:=List.all_eq_true.1 h i (List.mem_range.2 hj);rw[Bool.and_eq_true,ho] at h1;have h2:=h1.1;simp only[Bool.and_eq_true] at h2;have h3:=List.all_eq_true.1 h2.1 e (by simpa using he);simpa [hb] using h3
 ·intro i o ho d hd;have hj:i<R.size:=(Array.getElem?_eq_some_iff.1 ho).1;have h1:=List.all_eq_true.1 h i (List.mem_range.2 hj);rw[Bool.and_eq_true,ho] at h1;have h2:=h1.1;simp only[Bool.and_eq_true,hd] at h2;simpa using h2.2
 ·intro i j x y hij hx hy hc;rcases hpr i j x y hij hx hy with h1|⟨h1,h2⟩
  ·exact .inl h1
  ·rcases h2 with h2|⟨h2,_,_⟩
   ·right;unfold lW at hc;rw[h1] at hc;simp only[Bool.not_true,Bool.false_or,Bool.and_eq_true] at hc;exact⟨h2,hc.1,h1⟩
   ·unfold lW at hc;rw[h1,h2] at hc;cases hc
 ·intro i j x o hij hx ho hs hD hc
  have hjp:j≠p:=fun e=>by
   subst e;have:=(su (E:=E) (wI o ho).1).1;rw[hD] at this;cases this
  have Mt:i≠p:=fun e=>by
   subst e;have:=(su (E:=E) (wI x hx).1).2.1;rw[hs] at this;cases this
  left;unfold qE;by_cases e:i<j
  ·rw[if_pos e];rcases hpr i j x o e hx ho with h1|⟨_,h2⟩
   ·exact h1
   ·rcases h2 with h2|⟨_,h2,_⟩
    ·exact absurd h2 hjp
    ·rw[hs] at h2;cases h2
  ·rw[if_neg e];rcases hpr j i o x (by omega) ho hx with h1|⟨_,h2⟩
   ·exact h1
   ·rcases h2 with h2|⟨_,_,h2⟩
    ·exact absurd h2 Mt
    ·rw[hs] at h2;cases h2
theorem Oper.XU{o:Oper}{a:Act}{w:World}{K:Act->World->Prop}{Q:Exit->Act->World->Prop}(hh:o.wp P a w K Q):o.wp P a w (fun a' w'=>K a' w'/\∀d,o.dst≠some d->a'.tmps.getD d undef=a.tmps.getD d undef) Q:=by
 have key:∀(ds:List Deferred)(v:Value)(d:Nat),o.dst≠some d->(({a with defers:=ds}:Act).put o.dst v).tmps.getD d undef=a.tmps.getD d undef:=by
  intro ds v d hd
  cases ho:o.dst with
  |none=>rfl
  |some e=>
   have hne:e≠d:=fun x=>hd (by rw[ho,x]);simp only[Act.put,Array.getD_eq_getD_getElem?];rw[Array.getElem?_setIfInBounds_ne hne]
 unfold Oper.wp at *
 generalize (execOp a.eval o).run P w=r at *
 cases r with
 |ok n w'=>
  cases n<;>simp only[Oper.upon] at hh ⊢ <;>
   first
    |exact⟨hh,fun d hd=>key _ _ d hd⟩
    |exact Calls.mono hh (fun e w'' he=>by cases e<;>first|exact⟨he,fun d hd=>key _ _ d hd⟩|exact he)
    |exact Rows.mono hh (fun _ _ he=>⟨he,fun d hd=>key _ _ d hd⟩)
 |halt x w'=>cases x<;>simp only[Oper.upon] at hh ⊢ <;>exact hh
theorem qm{a:Act}{dst:Option Nat}{v:Value}{d:Nat}(h:dst≠some d):(a.put dst v).tmps.getD d undef=a.tmps.getD d undef:=by
 cases dst with
 |none=>rfl
 |some e=>
  have hne:e≠d:=fun x=>h (by rw[x]);simp only[Act.put,Array.getD_eq_getD_getElem?];rw[Array.getElem?_setIfInBounds_ne hne]
theorem aaQ{t:TypeId}{zs:List C}(h:gZ P t=some zs):∃z:Value,(∀w,(zeroValue t).run P w=.ok z w)/\∀w σ S β,eX w σ S β zs z.cells.toList:=by
 unfold gZ at h
 cases hi:P.info? t with
 |none=>rw[hi] at h;cases h
 |some i=>
  rw[hi] at h
  cases hz:i.zero with
  |none=>simp[hz] at h
  |some z=>
   simp only[Option.bind_some,hz] at h;split at h
   ·rename_i hall;cases h;refine⟨z,fun w=>by simp[zeroValue,typeInfo,hi,hz],fun w σ S β=>⟨by simp,fun j x hx=> ?_⟩⟩;rw[List.getElem?_map] at hx
    cases hv:z.cells.toList[j]? with
    |none=>rw[hv] at hx;cases hx
    |some v=>
     rw[hv] at hx;cases hx;exact⟨v,rfl,y5 _ _ _ _ _,List.all_eq_true.1 hall v (List.mem_of_getElem? hv)⟩
   ·cases h
theorem aaR{w w0:World}{σ σ0:Nat->Nat}{S0:Store}{β0:Hs}{own:List Obj}{Ω:Store}{β:Hs}{zs:List C}{b:Nat}{c:Array Value}{ty:TypeId}(hS:dL w σ (own::Ω) β)(hst:Step S0 β0 σ0 w0 (own::Ω) β σ w)(hb:w.heap[b]? =some (.cells c ty (0,0)))(hσ:σ b=0)
 (h0:w0.heap.size<=b)(hno:¬Own (own::Ω) β b)(hz:∀w σ S β,eX w σ S β zs c.toList):
 ∃bo bΩ,β=bo::bΩ/\bo.length=own.length/\dL w σ ((own++[.box zs])::Ω) ((bo++[Value.pointer (some ⟨b,0,none⟩)])::bΩ)/\Keep (own::Ω) β ((own++[.box zs])::Ω) ((bo++[Value.pointer (some ⟨b,0,none⟩)])::bΩ)/\
  Step S0 β0 σ0 w0 ((own++[.box zs])::Ω) ((bo++[Value.pointer (some ⟨b,0,none⟩)])::bΩ) σ w:=by
 cases β with
 |nil=>have:=hS.shape.1;simp at this
 |cons bo bΩ=>
 have hlen:bo.length=own.length:=by
  obtain⟨gr,g1,g2⟩:=hS.shape.2 0 own rfl;simp at g1;rw[g1];exact g2
 refine⟨bo,bΩ,rfl,hlen,?_⟩
 have hkeep:Keep (own::Ω) (bo::bΩ) ((own++[.box zs])::Ω) ((bo++[Value.pointer (some ⟨b,0,none⟩)])::bΩ):=by
  intro k o1 h1;obtain⟨h2,tQ,_⟩:=hS.obj k o1 h1;exact⟨o1,iW _ _ _ _ _ h1,by rw[iW _ _ _ _ _ tQ,tQ];exact .refl _ _⟩
 have hinv:∀k o1 h1,aW ((own++[Obj.box zs])::Ω) k=some o1->aW ((bo++[Value.pointer (some ⟨b,0,none⟩)])::bΩ) k=some h1->
  (aW (own::Ω) k=some o1/\aW (bo::bΩ) k=some h1)\/(k=(0,own.length)/\o1=.box zs/\h1=Value.pointer (some ⟨b,0,none⟩)):=by
  intro k o1 h1 e1 e2;rcases jY _ _ _ _ _ e1 with e1|⟨rfl,rfl⟩
  ·left;refine⟨e1,?_⟩;rcases jY _ _ _ _ _ e2 with e2|⟨rfl,rfl⟩
   ·exact e2
   ·rw[aZ,hlen] at e1;have:=(List.getElem?_eq_some_iff.1 e1).1;omega
  ·right;rw[<-hlen,bG] at e2;exact⟨rfl,rfl,(Option.some.inj e2).symm⟩
 have hown:∀x,Own ((own++[Obj.box zs])::Ω) ((bo++[Value.pointer (some ⟨b,0,none⟩)])::bΩ) x->Own (own::Ω) (bo::bΩ) x\/x=b:=by
  rintro x ⟨k,o,h,e1,e2,e3⟩;rcases hinv k o h e1 e2 with⟨f1,f2⟩|⟨rfl,rfl,rfl⟩
  ·exact .inl ⟨k,o,h,f1,f2,e3⟩
  ·right;cases e3;rfl
 have hmono:∀k o h,aW (own::Ω) k=some o->aW (bo::bΩ) k=some h->fM w σ ((own::Ω).drop k.1) ((bo::bΩ).drop k.1) o h->fM w σ (((own++[Obj.box zs])::Ω).drop k.1) (((bo++[Value.pointer (some ⟨b,0,none⟩)])::bΩ).drop k.1) o h:=
  fun k o h _ _ hr=>hr.mono (dQ.refl _ _) (hkeep.drop _) fun x _=>⟨rfl,rfl⟩
 refine⟨⟨?_,?_,⟨?_,?_⟩,hS.live,hS.rH⟩,hkeep,⟨hst.size,hst.os,hst.output,fun x hx hn=>hst.far x hx hn,hst.near,fun x hx=> ?_⟩⟩
 ·intro k o1 h1;rcases jY _ _ _ _ _ h1 with h1|⟨rfl,rfl⟩
  ·obtain⟨h2,tQ,hr⟩:=hS.obj k o1 h1;exact⟨h2,iW _ _ _ _ _ tQ,hmono k o1 h2 h1 tQ hr⟩
  ·exact⟨Value.pointer (some ⟨b,0,none⟩),by rw[<-hlen,bG],b,c,ty,rfl,hb,hσ,hz _ _ _ _⟩
 ·intro k k' o1 o2 h1 h2 x e1 e2 e3 e4 e5 e6;rcases hinv k o1 h1 e1 e2 with⟨f1,f2⟩|⟨rfl,rfl,rfl⟩
  ·rcases hinv k' o2 h2 e4 e5 with⟨g1,g2⟩|⟨rfl,rfl,rfl⟩
   ·exact hS.apart _ _ _ _ _ _ _ f1 f2 e3 g1 g2 e6
   ·cases e6;exact absurd ⟨k,o1,h1,f1,f2,e3⟩ hno
  ·rcases hinv k' o2 h2 e4 e5 with⟨g1,g2⟩|⟨rfl,rfl,rfl⟩
   ·cases e3;exact absurd ⟨k',o2,h2,g1,g2,e6⟩ hno
   ·rfl
 ·have:=hS.shape.1;simpa using this
 ·intro l fr hl
  cases l with
  |zero=>simp at hl;subst hl;exact⟨_,rfl,by simp[hlen]⟩
  |succ l=>exact hS.shape.2 (l+1) fr (by simpa using hl)
 ·rcases hown x hx with h|h
  ·exact hst.own x h
  ·subst h;exact .inr h0
theorem Jt{st:Nat->St}{vs:Nat->V}{p:Nat}{o:Oper}{d:Nat}{t:TypeId}(ht:lU P E R o (st p) (vs p) (st (p+1)))(hop:o.op=.alloc t)(hg:o.guard=none)(hd:o.dst=some d):
 ∃zs own Ω,gZ P t=some zs/\(st p).st=own::Ω/\(st (p+1)).st=(own++[.box zs])::Ω/\vs p=.c (.ptr (0,own.length) 0):=by
 have hgd:gd R o (st p).tm=some true:=by unfold gd;rw[hg]
 rcases ht with⟨h1,_,_⟩|⟨_,hD,_,_⟩|⟨_,hD,hx,hs',_⟩
 ·rw[hgd] at h1;cases h1
 ·rw[(su (E:=E) (o:=o) (by rw[hop];rfl)).1] at hD;cases hD
 ·obtain⟨dst,op,ty,pos,after,guard⟩:=o;simp only at hop hd;subst hop;subst hd;unfold bQ rZ at hx;simp only at hx
  cases hz:gZ P t with
  |none=>rw[hz] at hx;exact hx.elim
  |some zs=>
   rw[hz] at hx
   generalize st (p+1)=s1 at *
   generalize st p=s0 at *
   obtain⟨tm,S⟩:=s0;simp only[newObj] at hx
   cases S with
   |nil=>exact hx.elim
   |cons own Ω=>
    subst hx;refine⟨zs,own,Ω,rfl,rfl,rfl,?_⟩;simp only[St.put,St.mk.injEq,List.cons.injEq,Prod.mk.injEq,and_true,true_and] at hs';exact hs'.symm
theorem mid_step{st:Nat->St}{vs:Nat->V}{β0:Hs}{σ0:Nat->Nat}{w0:World}{Q:Exit->Act->World->Prop}{p:Nat}(hok:Ms E R N st p)
 (hT:∀i,i<R.size->∃o,R[i]? =some o/\lU P E R o (st i) (vs i) (st (i+1))){listed:Array Bool}{a:Act}{w:World}(hM:Mid P N E R p st vs β0 σ0 w0 listed a w){i:Nat}(hi:i∈Region.ready .any R listed):
 wpOp P R Q i (fun a' w'=>Mid P N E R p st vs β0 σ0 w0 (listed.setIfInBounds i true) a' w') a w:=by
 obtain⟨hun,o,ho,EH⟩:=mem_ready.1 hi;have hlt:i<R.size:=(Array.getElem?_eq_some_iff.1 ho).1;obtain⟨o',ho',ht⟩:=hT i hlt;rw[ho] at ho';cases ho'
 have vS:listed.getD i false=false:=by
  have hs:i<listed.size:=by rw[hM.size];exact hlt
  simp[hs] at hun ⊢;exact hun
 obtain⟨m,hm,hmD,σ,β,hsz,hdf,hS,hrT,hst,hkp,wI⟩:=hM.rep;have hdn:=hok.dst i o ho
 have hset:(listed.setIfInBounds i true).getD i false=true:=by
  have hs:i<listed.size:=by rw[hM.size];exact hlt
  simp[hs]
 have Vd:∀j,(listed.setIfInBounds i true).getD j false=true->j=i\/listed.getD j false=true:=by
  intro j hj;by_cases e:j=i
  ·exact .inl e
  ·rw[getD_set_ne false (Ne.symm e)] at hj;exact .inr hj
 have ahx:∀j,(listed.setIfInBounds i true).getD j false=false->j≠i/\listed.getD j false=false:=by
  intro j hj;by_cases e:j=i
  ·subst e;rw[hset] at hj;cases hj
  ·rw[getD_set_ne false (Ne.symm e)] at hj;exact⟨e,hj⟩
 have Da:∀j x k,R[j]? =some x->listed.getD j false=true->((masks R.toList []).getD j 0).testBit k=true->listed.getD k false=true:=fun j x k hx hE hb=>
  AO (fun k=>listed.getD k false=true) hM.closed hok.edge j x hx (fun e he hb=>hM.closed j x e hx hE he hb) k hb
 have yc:∀k,((masks R.toList []).getD i 0).testBit k=true->listed.getD k false=true:=fun k hb=>
  AO (fun k=>listed.getD k false=true) hM.closed hok.edge i o ho (fun e he hb=>EH e he hb) k hb
 have afS:mH E R p listed->i≠p:=fun h e=>by have h1:=h.1;rw[<-e,vS] at h1;cases h1
 have Db:∀j x e,R[j]? =some x->(listed.setIfInBounds i true).getD j false=true->e∈x.after->Region.binds .any e=true->(listed.setIfInBounds i true).getD e.on false=true:=by
  intro j x e hx hE he hb;by_cases hji:j=i
  ·subst hji;rw[ho] at hx;cases hx;exact getD_set_true (EH e he hb)
  ·rw[getD_set_ne false (Ne.symm hji)] at hE;exact getD_set_true (hM.closed j x e hx hE he hb)
 by_cases hA2:i=p/\∃j x,j<p/\R[j]? =some x/\eZ E x.op=true/\listed.getD j false=false
 ·
  obtain⟨rfl,j0,x0,hj0,hx0,hD0,hu0⟩:=hA2;obtain⟨hal,hgn,⟨d,hd⟩,_⟩:=hok.pend o ho
  obtain⟨ty,hop⟩:∃ty,o.op=.alloc ty:=by
   cases h:o.op<;>rw[h] at hal<;>first|exact⟨_,rfl⟩|cases hal
  obtain⟨zs,own,Ω,hzs,_,_,_⟩:=Jt ht hop hgn hd;obtain⟨z,tZ,hzc⟩:=aaQ hzs
  have hnp:¬mH E R i listed:=fun h=>by have h1:=h.1;rw[vS] at h1;cases h1
  have hP':mH E R i (listed.setIfInBounds i true):=⟨hset,hlt,j0,x0,hj0,hx0,hD0,by rw[getD_set_ne false (by omega)];exact hu0⟩
  have hmp:m<=i:=by
   have h1:=hmD j0 x0 hx0 hD0 (fun _=>hnp);rcases Nat.lt_or_ge j0 m with h|h
   ·rw[h1.2 h] at hu0;cases hu0
   ·omega
  have hdi:fG R i=some d:=by simp[fG,ho,hd]
  have hg:=y8 w σ hS.live z.cells ty 0;unfold wpOp;rw[ho]
  simp only
  rw[if_pos (by simp[Region.wanted,hgn])];left
  have hrun:(execOp a.eval o).run P w=.ok (.value (.pointer (some ⟨w.heap.size,0,none⟩))) {w with heap:=w.heap.push (.cells z.cells ty)}:=by
   have OW:(newVar ty z).run P w=.ok ⟨w.heap.size,0,none⟩ {w with heap:=w.heap.push (.cells z.cells ty)}:=rfl;have tZ:=tZ w;clear hS hrT hst hkp wI hM hdn ht;obtain⟨dst,op,ty',pos,after,guard⟩:=o;simp only at hop;subst hop;simp[execOp,Instr.alloc,tZ,OW]
  unfold Oper.wp;rw[hrun];show Mid P N E R i st vs β0 σ0 w0 _ (a.put o.dst _) _;rw[hd]
  have hdN:d<a.tmps.size:=by rw[hsz];exact hdn d hd
  refine⟨by simpa using hM.size,Db,m,hm,fun j x hx pJ hjp=> ?_,fun b=>if b=w.heap.size then 0 else σ b,β,by simp[Act.put,hsz],hdf,hS.grow hg,fun t=> ?_,hst.trans (Step.mR hg),hkp,fun _=>⟨hmp,fun d' hd'=> ?_⟩⟩
  ·have hji:j≠i:=fun e=>hjp e hP';rw[getD_set_ne false (Ne.symm hji)];exact hmD j x hx pJ fun _=>hnp
  ·unfold rT;by_cases e:t=d
   ·subst e;rw[if_pos ⟨hP',hdi⟩];exact trivial
   ·rw[if_neg (fun h=>e (by rw[hdi] at h;exact(Option.some.inj h.2).symm))]
    rw[xD (E':=fun i=>listed.getD i false) R.size (fun j hj hdj=>by
     have hji:j≠i:=fun x=>by rw[x,hdi] at hdj;exact e (Option.some.inj hdj).symm
     exact getD_set_ne false (Ne.symm hji))]
    have h1:=hrT t;unfold rT at h1;rw[if_neg (fun h=>hnp h.1)] at h1;rw[qm (by intro x;exact e (Option.some.inj x).symm)];exact h1.mono hg.near (Keep.refl _ _)
  ·rw[hdi] at hd';cases hd';refine⟨w.heap.size,z.cells,ty,by simp[Act.put,Array.getD,hdN],by simp,by simp,hst.size,fun h=> ?_,fun o2 t2 zs2 h1 h2 h3=> ?_⟩
   ·have:=hS.BP h;omega
   ·rw[ho] at h1;cases h1;rw[hop] at h2;cases h2;rw[hzs] at h3;cases h3;exact hzc
 have hA:i=p->∀j x,j<p->R[j]? =some x->eZ E x.op=true->listed.getD j false=true:=fun e j x hj hx hD=>by
  cases hl:listed.getD j false with
  |true=>rfl
  |false=>exact absurd ⟨e,j,x,hj,hx,hD,hl⟩ hA2
 have hPP:mH E R p (listed.setIfInBounds i true)->mH E R p listed:=by
  rintro⟨h1,h2,j,x,hj,hx,hD,hl⟩;obtain⟨hji,hl⟩:=ahx j hl;rcases Vd p h1 with e|h
  ·rw[hA e.symm j x hj hx hD] at hl;cases hl
  ·exact⟨h,h2,j,x,hj,hx,hD,hl⟩
 have hap:mH E R p listed->∀po d,R[p]? =some po->po.dst=some d->o.dst≠some d/\d∉o.looksAt R:=by
  rintro hP po d hpo wI;have XV:=hP;obtain⟨_,_,j0,x0,hj0,hx0,hD0,hu0⟩:=XV
  have:o.apart R po=true:=by
   cases hc:o.apart R po with
   |true=>rfl
   |false=>
    have:=(hok.pend po hpo).2.2.2 i o (afS hP) ho hc j0 x0 hj0 hx0 hD0;rw[yc j0 this.2] at hu0;cases hu0
  obtain⟨q1,q2,q3⟩:=Oper.apart_spec this;exact⟨fun e=>q2 d e wI,q3 d wI⟩
 have Mt:mH E R p listed->eZ E o.op=true->i<p:=by
  rintro hP hD;have XV:=hP;obtain⟨_,hpl,j0,x0,hj0,hx0,hD0,hu0⟩:=XV;have hne:=afS hP;rcases Nat.lt_or_ge i p with h|h
  ·exact h
  ·exfalso;rcases hok.pair j0 i x0 o (by omega) hx0 ho (by simp[lW,hD,hD0]) with hb|⟨e,_⟩
   ·rw[yc j0 hb] at hu0;cases hu0
   ·exact hne e
 have hbit:∀j x,R[j]? =some x->j≠i->qE R j i=true->(listed.getD j false=true<->j<i):=by
  intro j x hx hne hc;unfold qE at hc;constructor
  ·intro hE;rcases Nat.lt_or_ge j i with h|h
   ·exact h
   ·exfalso;rw[if_neg (by omega)] at hc;have:=Da j x i hx hE hc;rw[vS] at this;cases this
  ·intro hji;rw[if_pos hji] at hc;exact yc j hc
 have hdone:∀j x,R[j]? =some x->j≠i->(j=p->¬mH E R p listed)->lW E R x o=true->(listed.getD j false=true<->j<i):=by
  intro j x hx hne hjp hc;by_cases e:j<i
  ·rcases hok.pair j i x o e hx ho hc with hb|⟨e1,hD,_⟩
   ·exact hbit j x hx hne (by unfold qE;rw[if_pos e];exact hb)
   ·exact⟨fun _=>e,fun _=>hA e1 j x (by omega) hx hD⟩
  ·rcases hok.pair i j o x (by omega) ho hx (by rw[RN];exact hc) with hb|⟨e1,hD,_⟩
   ·exact hbit j x hx hne (by unfold qE;rw[if_neg e];exact hb)
   ·refine⟨fun h=>absurd ⟨e1▸h,?_,i,o,by omega,ho,hD,vS⟩ (hjp e1),fun h=>absurd h e⟩;rw[<-e1];exact(Array.getElem?_eq_some_iff.1 hx).1
 obtain⟨Pj,Pk⟩:∃Pj:List (Nat×V),∀t,look Pj t=j3 R vs (fun i=>listed.getD i false) (st 0).tm R.size t:=by
  have:∀n,∃pU:List (Nat×V),∀t,look pU t=j3 R vs (fun i=>listed.getD i false) (st 0).tm n t:=by
   intro n
   induction n with
   |zero=>exact⟨(st 0).tm,fun t=>rfl⟩
   |succ n ih=>
    obtain⟨tm,h⟩:=ih;by_cases hE:listed.getD n false=true
    ·cases hd:fG R n with
     |none=>exact⟨tm,fun t=>by rw[j3,if_neg (fun x=>by rw[hd] at x;cases x.2)];exact h t⟩
     |some d=>
      refine⟨(n |> vs |> fun v=>(d,v))::tm,fun t=> ?_⟩;rw[j3,look,hd,h t];by_cases e:d=t
      ·rw[if_pos e,if_pos ⟨hE,by rw[e]⟩]
      ·rw[if_neg e,if_neg (fun x=>e (Option.some.inj x.2))]
    ·exact⟨tm,fun t=>by rw[j3,if_neg (fun x=>hE x.1)];exact h t⟩
  exact this R.size
 obtain⟨pU,aaS⟩:∃pU:List (Nat×V),∀t,look pU t=rT E R p vs listed (st 0).tm t:=by
  by_cases hP:mH E R p listed
  ·cases hd:fG R p with
   |none=>exact⟨Pj,fun t=>by unfold rT;rw[if_neg (fun h=>by rw[hd] at h;cases h.2)];exact Pk t⟩
   |some d=>
    refine⟨(d,.any)::Pj,fun t=> ?_⟩;unfold rT;rw[look,hd];by_cases e:d=t
    ·rw[if_pos e,if_pos ⟨hP,by rw[e]⟩]
    ·rw[if_neg e,if_neg (fun x=>e (Option.some.inj x.2))];exact Pk t
  ·exact⟨Pj,fun t=>by unfold rT;rw[if_neg (fun h=>hP h.1)];exact Pk t⟩
 have hPd:∀t,mH E R p listed->fG R p=some t->∃po,R[p]? =some po/\po.dst=some t:=by
  intro t _ h;unfold fG at h
  cases hpo:R[p]? with
  |none=>rw[hpo] at h;cases h
  |some po=>rw[hpo] at h;exact⟨po,rfl,h⟩
 have Ju:∀t∈o.looksAt R,look pU t=look (st i).tm t:=by
  intro t htl;rw[aaS];unfold rT
  rw[if_neg (fun h=>by
   obtain⟨po,h1,h2⟩:=hPd t h.1 h.2
   exact(hap h.1 po t h1 h2).2 htl),x9 hT t i (by omega)]
  have:=BA (R:=R) (vs:=vs) (E:=fun i=>listed.getD i false) (base:=(st 0).tm) (t:=t) (i:=i) R.size (fun j hj hd=>by
   by_cases e:j=i
   ·subst e;rw[vS];simp
   ·obtain⟨x,hx⟩:∃x,R[j]? =some x:=⟨_,Array.getElem?_eq_getElem hj⟩
    have hxd:x.dst=some t:=by simpa [fG,hx] using hd
    refine hdone j x hx e (fun e2 hP=> ?_) ?_
    ·subst e2;exact(hap hP x t hx hxd).2 htl
    ·have:x.apart R o=false:=by
      cases hap:x.apart R o with
      |false=>rfl
      |true=>exact absurd htl ((Oper.apart_spec hap).1 t hxd)
     simp[lW,this])
  rw[this,show min R.size i=i from by omega]
 have hR:jg N ⟨pU,(st m).st⟩ a w σ β:=⟨hsz,hdf,hS,fun t=>by show cB w σ (st m).st β (look pU t) _;rw[aaS];exact hrT t⟩
 have hev:∀x∈o.op.operands,ev (st i).tm x=ev pU x:=by
  intro x hx
  cases x with
  |tmp t=>show look _ t=look _ t;rw[Ju t (D7 hx rfl)]
  |_=>rfl
 have hgd:gd R o pU=gd R o (st i).tm:=by
  unfold gd
  cases hg:o.guard with
  |none=>rfl
  |some gw=>
   obtain⟨g,want⟩:=gw
   simp only
   cases hd:fG R g with
   |none=>rfl
   |some d=>
    simp only[Option.map_some];rw[Ju d (RJ hg hd)]
 have aiU:∀(S':Store)(t:Nat),j3 R vs (fun i_1=>(listed.setIfInBounds i true).getD i_1 false) (st 0).tm R.size t=look (St.put ⟨Pj,S'⟩ o.dst (vs i)).tm t:=by
  intro S' t;by_cases hd:o.dst=some t
  ·have hdi:fG R i=some t:=by simp[fG,ho,hd]
   rw[C9 (E:=fun i_1=>(listed.setIfInBounds i true).getD i_1 false) hset hdi R.size hlt (fun j hj hij hdj=>by
    obtain⟨x,hx⟩:∃x,R[j]? =some x:=⟨_,Array.getElem?_eq_getElem hj⟩
    have hxd:x.dst=some t:=by simpa [fG,hx] using hdj
    have aaT:x.apart R o=false:=by
     cases hap:x.apart R o with
     |false=>rfl
     |true=>exact absurd hd ((Oper.apart_spec hap).2.1 t hxd)
    have:=hdone j x hx (by omega) (fun e hP=>by
     subst e
     exact(hap hP x t hx hxd).1 hd) (by simp[lW,aaT])
    rw[getD_set_ne false (by omega)]
    cases hE:listed.getD j false with
    |false=>rfl
    |true=>exact absurd (this.1 hE) (by omega))]
   rw[hd];simp[St.put,look]
  ·have hdi:fG R i≠some t:=by simp only[fG,ho,Option.bind_some];exact hd
   rw[xD (E':=fun i=>listed.getD i false) R.size (fun j hj hdj=>by
    have hji:j≠i:=fun e=>hdi (e▸hdj)
    exact getD_set_ne false (Ne.symm hji)),<-Pk t]
   cases hdd:o.dst with
   |none=>rfl
   |some d=>
    have hne:d≠t:=fun e=>hd (by rw[hdd,e]);simp[St.put,look,hne]
 have aaU:∀(S':Store)(t:Nat),¬(mH E R p listed/\fG R p=some t)->look (St.put ⟨pU,S'⟩ o.dst (vs i)).tm t=j3 R vs (fun i_1=>(listed.setIfInBounds i true).getD i_1 false) (st 0).tm R.size t:=by
  intro S' t hn;rw[aiU S' t]
  have h1:look pU t=look Pj t:=by rw[aaS,Pk];unfold rT;rw[if_neg hn]
  cases hdd:o.dst with
  |none=>exact h1
  |some d=>simp only[St.put,look,h1]
 have fin:∀(m':Nat)(a':Act)(w':World)(σ':Nat->Nat)(β':Hs),m'<=R.size->(∀j x,R[j]? =some x->eZ E x.op=true->(j=p->¬mH E R p listed)->((listed.setIfInBounds i true).getD j false=true<->j<m'))->
  (mH E R p listed->m'<=p)->(∀d,o.dst≠some d->a'.tmps.getD d undef=a.tmps.getD d undef)->
  jg N (St.put ⟨pU,(st m').st⟩ o.dst (vs i)) a' w' σ' β'->Step (st m).st β σ w (st m').st β' σ' w'->Keep (st m).st β (st m').st β'->Mid P N E R p st vs β0 σ0 w0 (listed.setIfInBounds i true) a' w':=by
  intro m' a' w' σ' β' hm' hD' hmp ha' hR' hst' wQ;have hS':=hR'.S;have hT':=hR'.T;rw[kJ] at hS' hT';by_cases hP:mH E R p listed
  ·obtain⟨_,hraw⟩:=wI hP;have XV:=hP;obtain⟨hp1,hp2,j0,x0,hj0,hx0,hD0,hu0⟩:=XV;obtain⟨po,hpo⟩:∃po,R[p]? =some po:=⟨_,Array.getElem?_eq_getElem hp2⟩;obtain⟨hal,hgn,⟨d,hd⟩,ahy⟩:=hok.pend po hpo
   have hdp:fG R p=some d:=by simp[fG,hpo,hd]
   have hod:=hap hP po d hpo hd;have hraw:=hraw d hdp;obtain⟨b,c,ty',hv,hb,hσ,h0,hno,hzc⟩:=hraw;have hbl:b<w.heap.size:=lt_of_some hb
   have hb':w'.heap[b]? =some (.cells c ty' (0,0)):=by rw[(hst'.far b hbl hno).1];exact hb
   have hσ':σ' b=0:=by rw[(hst'.far b hbl hno).2];exact hσ
   have hno':¬Own (st m').st β' b:=fun h=>(hst'.own b h).elim hno (fun h=>by omega);have hv':a'.tmps.getD d undef=.pointer (some ⟨b,0,none⟩):=(ha' d hod.1).trans hv;have ahz:Raw P R p w0 w' σ' (st m').st β' (a'.tmps.getD d undef):=⟨b,c,ty',hv',hb',hσ',h0,hno',hzc⟩;by_cases hP':mH E R p (listed.setIfInBounds i true)
   ·refine⟨by simpa using hM.size,Db,m',hm',fun j x hx pJ hjp=>hD' j x hx pJ (fun e=>absurd hP' (hjp e)),σ',β',hR'.size,hR'.defers,hS',fun t=> ?_,hst.trans hst',hkp.trans wQ,fun _=>⟨hmp hP,fun d' hd'=>by rw[hdp] at hd';cases hd';exact ahz⟩⟩;unfold rT;by_cases e:fG R p=some t
    ·rw[if_pos ⟨hP',e⟩];exact trivial
    ·rw[if_neg (fun h=>e h.2),<-aaU (st m').st t (fun h=>e h.2)];exact hT' t
   ·
    have hpl:(listed.setIfInBounds i true).getD p false=true:=getD_set_true hp1
    have hall:∀j x,j<p->R[j]? =some x->eZ E x.op=true->(listed.setIfInBounds i true).getD j false=true:=fun j x hj hx hD=>by
     cases hl:(listed.setIfInBounds i true).getD j false with
     |true=>rfl
     |false=>exact absurd ⟨hpl,hp2,j,x,hj,hx,hD,hl⟩ hP'
    have afT:∀j x,p<j->R[j]? =some x->eZ E x.op=true->(listed.setIfInBounds i true).getD j false=false:=fun j x hj hx hD=>by
     cases hl:(listed.setIfInBounds i true).getD j false with
     |false=>rfl
     |true=>
      exfalso;rcases hok.pair j0 j x0 x (by omega) hx0 hx (by simp[lW,hD,hD0]) with hbt|⟨e,_⟩
      ·rcases Vd j hl with e|hl
       ·subst e;rw[yc j0 hbt] at hu0;cases hu0
       ·rw[Da j x j0 hx hl hbt] at hu0;cases hu0
      ·omega
    have akJ:=hmp hP
    have hsm:(st p).st=(st m').st:=by
     have:=Cc hT (i:=m') (p-m') (by omega) (fun j x h1 h2 h3=>by
      cases pJ:eZ E x.op with
      |false=>rfl
      |true=>
       have:=(hD' j x h3 pJ (fun e=>by omega)).1 (hall j x (by omega) h3 pJ)
       omega)
     rwa [show m'+(p-m')=p from by omega] at this
    obtain⟨po',afU,htp⟩:=hT p hp2;rw[hpo] at afU;cases afU
    obtain⟨ty,hop⟩:∃ty,po.op=.alloc ty:=by
     cases h:po.op<;>rw[h] at hal<;>first|exact⟨_,rfl⟩|cases hal
    obtain⟨zs,own,Ω,hzs,hs0,hs1,hvp⟩:=Jt htp hop hgn hd;rw[hsm] at hs0;have vT:=hst.trans hst';have afV:=hkp.trans wQ;rw[hs0] at hS' hT' vT afV hno';obtain⟨bo,bΩ,rfl,hlen,q1,q2,q3⟩:=aaR hS' vT hb' hσ' h0 hno' (hzc po ty zs hpo hop hzs);rw[<-hs1] at q1 q2 q3;refine⟨by simpa using hM.size,Db,p+1,by omega,fun j x hx pJ _=> ?_,σ',_,hR'.size,hR'.defers,q1,fun t=> ?_,q3,afV.trans q2,fun h=>absurd h hP'⟩
    ·rcases Nat.lt_trichotomy j p with h|h|h
     ·exact⟨fun _=>by omega,fun _=>hall j x h hx pJ⟩
     ·subst h;exact⟨fun _=>by omega,fun _=>hpl⟩
     ·rw[afT j x h hx pJ];exact⟨fun h=>(by cases h),fun h=>by omega⟩
    ·unfold rT;rw[if_neg (fun h=>hP' h.1)];by_cases e:t=d
     ·subst e
      rw[C9 (E:=fun i_1=>(listed.setIfInBounds i true).getD i_1 false) hpl hdp R.size hp2 (fun j hj hpj hdj=>by
       obtain⟨x,hx⟩:∃x,R[j]? =some x:=⟨_,Array.getElem?_eq_getElem hj⟩
       have hxd:x.dst=some t:=by simpa [fG,hx] using hdj
       have aaT:x.apart R po=false:=by
        cases hap:x.apart R po with
        |false=>rfl
        |true=>exact absurd hd ((Oper.apart_spec hap).2.1 t hxd)
       have hbt:=ahy j x (by omega) hx aaT j0 x0 hj0 hx0 hD0
       cases hl:(listed.setIfInBounds i true).getD j false with
       |false=>rfl
       |true=>
        exfalso;rcases Vd j hl with e|hl
        ·subst e;rw[yc j0 hbt.2] at hu0;cases hu0
        ·rw[Da j x j0 hx hl hbt.2] at hu0;cases hu0),hvp,hv',hs1]
      exact TG hlen
     ·rw[<-aaU (st m').st t (fun h=>e (by rw[hdp] at h;exact(Option.some.inj h.2).symm))];have h1:=hT' t;rw[hs0];exact h1.mono (dQ.refl _ _) q2
  ·have hP':¬mH E R p (listed.setIfInBounds i true):=fun h=>hP (hPP h);refine⟨by simpa using hM.size,Db,m',hm',fun j x hx pJ _=>hD' j x hx pJ (fun _=>hP),σ',β',hR'.size,hR'.defers,hS',fun t=> ?_,hst.trans hst',hkp.trans wQ,fun h=>absurd h hP'⟩;unfold rT;rw[if_neg (fun h=>hP' h.1),<-aaU (st m').st t (fun h=>hP h.1)];exact hT' t
 have keepD:eZ E o.op=false->∀j x,R[j]? =some x->eZ E x.op=true->(j=p->¬mH E R p listed)->((listed.setIfInBounds i true).getD j false=true<->j<m):=by
  intro hD j x hx pJ hjp
  have hji:j≠i:=fun e=>by rw[e,ho] at hx;cases hx;rw[hD] at pJ;cases pJ
  rw[getD_set_ne false (Ne.symm hji)];exact hmD j x hx pJ hjp
 have hmP:mH E R p listed->m<=p:=fun h=>(wI h).1
 have quiet:∀(w':World)(σ':Nat->Nat)(v:Value),eZ E o.op=false->Grow w σ w' σ'->cB w' σ' (st m).st β (vs i) v->Mid P N E R p st vs β0 σ0 w0 (listed.setIfInBounds i true) (a.put o.dst v) w':=by
  intro w' σ' v hD hg hv;exact fin m _ w' σ' β hm (keepD hD) hmP (fun d hd=>qm hd) (zq hdn hsz hdf (hS.grow hg) (hR.T.mono hg.near (Keep.refl _ _)) hv) (Step.mR hg) (Keep.refl _ _)
 have hDs:eZ E o.op=true->∀j x,R[j]? =some x->eZ E x.op=true->(j=p->¬mH E R p listed)->(listed.getD j false=true<->j<i):=by
  intro hD j x hx pJ hjp;by_cases e:j=i
  ·subst e;rw[vS];simp
  ·exact hdone j x hx e hjp (by simp[lW,hD,pJ])
 have hsame:eZ E o.op=true->(st m).st=(st i).st:=by
  intro hD
  have hno:∀j x,R[j]? =some x->(i<=j/\j<m\/m<=j/\j<i)->eZ E x.op=false:=by
   intro j x hx hj
   cases pJ:eZ E x.op with
   |false=>rfl
   |true=>
    have hjp:j=p->¬mH E R p listed:=fun e hP=>by
     have:=Mt hP hD;have:=hmP hP;omega
    have h1:=hDs hD j x hx pJ hjp;have h2:=hmD j x hx pJ hjp;rcases hj with hj|hj
    ·have:=h1.1 (h2.2 hj.2);omega
    ·have:=h2.1 (h1.2 hj.2);omega
  rcases Nat.le_total i m with h|h
  ·have:=Cc hT (i:=i) (m-i) (by omega) (fun j x h1 h2 h3=>hno j x h3 (.inl ⟨h1,by omega⟩))
   rwa [show i+(m-i)=m from by omega] at this
  ·have:=Cc hT (i:=m) (i-m) (by omega) (fun j x h1 h2 h3=>hno j x h3 (.inr ⟨h1,by omega⟩));rw[show m+(i-m)=i from by omega] at this;exact this.symm
 have XW:eZ E o.op=true->∀j x,R[j]? =some x->eZ E x.op=true->(j=p->¬mH E R p listed)->((listed.setIfInBounds i true).getD j false=true<->j<i+1):=by
  intro hD j x hx pJ hjp;by_cases e:j=i
  ·subst e;rw[hset];simp
  ·rw[getD_set_ne false (Ne.symm e),hDs hD j x hx pJ hjp];omega
 have hiP:eZ E o.op=true->mH E R p listed->i+1<=p:=fun hD hP=>Mt hP hD;unfold wpOp;rw[ho]
 simp only
 have hRR:jg N ⟨pU,(st m).st⟩ a w σ β:=hR;rcases ht with⟨hg,hv,hs'⟩|⟨hg,hD,hv,hs'⟩|⟨hg,hD,hx,hs',_⟩
 ·
  have hw:Region.wanted o (yielded R a.tmps)=false:=by
   rw[<-hgd] at hg;unfold gd at hg;split at hg
   ·cases hg
   ·rename_i j want hgu;split at hg
    ·rename_i x hx;have hy:=zN (s:=⟨pU,(st m).st⟩) hRR hx
     have hne:x≠want:=by
      intro e;rw[e] at hg;simp at hg
     simp[Region.wanted,hgu,hy,hne]
    ·rename_i hx;have hy:=D6 (s:=⟨pU,(st m).st⟩) hRR hx;simp[Region.wanted,hgu,hy]
    ·cases hg
  rw[if_neg (by rw[hw];simp)]
  have hvu:cB w σ (st m).st β (vs i) undef:=by rw[hv];exact uR
  by_cases hD:eZ E o.op=true
  ·have hsm:=hsame hD
   have hs1:(st (i+1)).st=(st m).st:=by rw[hsm,hs'];cases o.dst<;>rfl
   refine fin (i+1) _ w σ β hlt (XW hD) (hiP hD) (fun d hd=>qm hd) (by rw[hs1];exact zq hdn hsz hdf hS hR.T hvu) (by rw[hs1];exact Step.mR (Grow.refl hS.live)) (by rw[hs1];exact Keep.refl _ _)
  ·exact quiet w σ undef (by simpa using hD) (Grow.refl hS.live) hvu
 all_goals
  have hw:Region.wanted o (yielded R a.tmps)=true:=by
   rw[<-hgd] at hg;unfold gd at hg;split at hg
   ·rename_i hgu;simp[Region.wanted,hgu]
   ·rename_i j want hgu;split at hg
    ·rename_i x hx;have hy:=zN (s:=⟨pU,(st m).st⟩) hRR hx;simp at hg;simp[Region.wanted,hgu,hy,hg]
    ·cases hg
    ·cases hg
  rw[if_pos hw];left
 ·
  rcases hv with⟨c,hc,hcn⟩|⟨hcond,hval⟩
  ·have hcn':=aaH (tm':=pU) (fun x hx=>hev x (by rw[hc];exact hx)) hcn;unfold C8 at hcn';split at hcn'
   ·rename_i x hcx;split at hcn'
    ·rename_i f caps hex
     have hcall:mD P c ⟨pU,(st m).st⟩ o.dst (fun t=>t=St.put ⟨pU,(st m).st⟩ o.dst (vs i)):=by
      unfold mD;rw[hcx];simp only[hex];exact .inl ⟨_,hcn' (st m).st,fun r S' hp=>by rw[hp.1,hp.2]⟩
     refine Oper.wp_mono ?_ (Oper.XU (Jm (Q:=Q) hc hdn hRR hcall));rintro a' w' ⟨⟨s'',σ',β',hR',hst',wQ,hK⟩,ha'⟩;subst hK;rw[kJ] at hst' wQ;exact fin m a' w' σ' β' hm (keepD hD) hmP ha' hR' hst' wQ
    ·exact hcn'.elim
   ·exact hcn'.elim
  ·have hcv:iT o.op=false:=by
    cases hc:iT o.op with
    |false=>rfl
    |true=>
     exfalso;unfold iT at hc;split at hc
     ·rename_i x b c hop;rw[hop] at hcond;exact fZ hcond
     ·cases hc
   have adF:∀k,refs (st i).tm o k->∀j x,R[j]? =some x->(i<=j/\j<m\/m<=j/\j<i)->kC E x.op=false\/aW (st (j+1)).st k=aW (st j).st k:=by
    intro k hk j x hx hj
    cases hs:kC E x.op with
    |false=>exact .inl rfl
    |true=>
     have pJ:eZ E x.op=true:=XQ hs
     have hji:j≠i:=fun e=>by rw[e,ho] at hx;cases hx;rw[hD] at pJ;cases pJ
     rcases hok.store j i x o hji hx ho hs hD hcv with hb|hb
     ·have h1:=hbit j x hx hji hb
      have h2:=hmD j x hx pJ (fun e=>by
       subst e;have:=(su (E:=E) (hok.pend x hx).1).2.1
       rw[hs] at this;cases this)
      rcases hj with hj|hj
      ·have:=h1.1 (h2.2 hj.2);omega
      ·have:=h2.1 (h1.2 hj.2);omega
     ·exact .inr (hb k hk)
   have e1:=ad7 (P:=P) (S:=(st i).st) (tm:=(st i).tm) (tm':=pU) (op:=o.op) hev;rw[e1] at hcond hval
   have e2:mq P (nS (st i).st) (st m).st pU o.op=mq P (nS (st i).st) (st i).st pU o.op:=by
    cases hmv:Vb o.op with
    |true=>exact aaP hmv
    |false=>
     exact aaI (P:=P) (l:=nS (st i).st) (S:=(st i).st) (S':=(st m).st) (tm:=pU) (op:=o.op) hcond (by
     intro x hx k hk ob XL hbr;have hrf:refs (st i).tm o k:=⟨hmv,x,hx,by rw[hev x hx];exact hk⟩;rcases Nat.le_total i m with h|h
     ·have hds:=U9 hT (i:=i) (k:=k) (m-i) (by omega) (fun j x h1 h2 h3=>adF k hrf j x h3 (.inl ⟨h1,by omega⟩));rw[show i+(m-i)=m from by omega] at hds;rcases hds ob XL with h'|⟨⟨z,es,e⟩,_⟩
      ·exact h'
      ·rcases e with e|⟨_,e⟩<;>rw[e] at hbr<;>exact hbr.elim
     ·have hds:=U9 hT (i:=m) (k:=k) (i-m) (by omega) (fun j x h1 h2 h3=>adF k hrf j x h3 (.inr ⟨h1,by omega⟩));rw[show m+(i-m)=i from by omega] at hds;have hrx:=jd (a:=a) hR.T x
      have hin:∃o',aW (st m).st k=some o':=by
       rcases hk with⟨off,e⟩|⟨i',off,e⟩|e|e|⟨r',p',e⟩|⟨r',p',z',i',off,e⟩<;>rw[show ev (⟨pU,(st m).st⟩:St).tm x=ev pU x from rfl,e] at hrx<;>obtain⟨⟨o',ho',_⟩,_⟩:=hrx<;>exact⟨o',ho'⟩
      obtain⟨o',ho'⟩:=hin;rcases hds o' ho' with h'|⟨_,o2,z,es,h',e⟩
      ·rw[XL] at h';cases h';exact ho'
      ·rw[XL] at h';cases h'
       rcases e with e|⟨_,e⟩<;>rw[e] at hbr<;>exact hbr.elim)
   have afX:(mq P (nS (st i).st) (st m).st pU o.op).1:=by rw[e2];exact hcond
   have hval':vs i=(mq P (nS (st i).st) (st m).st pU o.op).2:=by rw[e2];exact hval
   obtain⟨v,w',σ',hrun,hgr,D5⟩:=GX (P:=P) _ o hS hR.T afX;unfold Oper.wp;rw[hrun];exact quiet w' σ' v hD hgr (by rw[hval'];exact D5)
 ·have hsm:=hsame hD
  have hx':bQ P o ⟨(st i).tm,(st i).st⟩ (fun t=>t=St.put ⟨(st i).tm,(st (i+1)).st⟩ o.dst (vs i)):=by
   rw[hs'] at hx;exact hx
  have hx2:=aaG hD hev hx';rw[<-hsm] at hx2;refine Oper.wp_mono ?_ (Oper.XU (CY (Q:=Q) hdn hRR hx2));rintro a' w' ⟨⟨s'',σ',β',hR',hst',wQ,hK⟩,ha'⟩;subst hK;rw[kJ] at hst' wQ;exact fin (i+1) a' w' σ' β' hlt (XW hD) (hiP hD) ha' hR' hst' wQ
theorem aec{st:Nat->St}{vs:Nat->V}{β0:Hs}{σ0:Nat->Nat}{w0:World}{Q:Exit->Act->World->Prop}{p:Nat}(hok:Ms E R N st p)
 (hT:∀i,i<R.size->∃o,R[i]? =some o/\lU P E R o (st i) (vs i) (st (i+1)))(hQ:∀listed a w,Mid P N E R p st vs β0 σ0 w0 listed a w->(∀i,i<R.size->listed.getD i false=true)->Q .normal a w):
 ∀(fuel:Nat)(listed:Array Bool)(a:Act)(w:World),(List.range R.size).countP (fun i=> !listed.getD i false)<=fuel->Mid P N E R p st vs β0 σ0 w0 listed a w->wpAny P .any R Q fuel listed a w:=by
 have hend:∀listed a w,Mid P N E R p st vs β0 σ0 w0 listed a w->Region.ready .any R listed=[]->Q .normal a w:=by
  intro listed a w hM hr;refine hQ listed a w hM ?_;intro i
  induction i using Nat.strongRecOn with
  |_ i ih=>
   intro hi
   cases hE:listed.getD i false with
   |true=>rfl
   |false=>
    exfalso;have ho:R[i]? =some R[i]:=Array.getElem?_eq_getElem hi
    have:i∈Region.ready .any R listed:=by
     rw[mem_ready]
     have hs:i<listed.size:=by rw[hM.size];exact hi
     refine⟨by simp[hs] at hE ⊢;exact hE,_,ho,fun e he hb=> ?_⟩;have hon:=hok.edge i _ e ho he hb;exact ih e.on hon (by omega)
    rw[hr] at this;simp at this
 intro fuel
 induction fuel with
 |zero=>
  intro listed a w hc hM
  have hnone:Region.ready .any R listed=[]:=by
   cases hr:Region.ready .any R listed with
   |nil=>rfl
   |cons i l=>
    exfalso
    have hi:i∈Region.ready .any R listed:=by rw[hr];simp
    obtain⟨hun,o,ho,_⟩:=mem_ready.1 hi;have hlt:=(Array.getElem?_eq_some_iff.1 ho).1
    have hs:i<listed.size:=by rw[hM.size];exact hlt
    have hz:(List.range R.size).countP (fun i=> !listed.getD i false)=0:=by omega
    rw[List.countP_eq_zero] at hz;have:=hz i (List.mem_range.2 hlt);simp[hs] at hun this;rw[hun] at this;cases this
  exact⟨hnone,hend listed a w hM hnone⟩
 |succ fuel ih=>
  intro listed a w hc hM;refine⟨hend listed a w hM,fun i hi=> ?_⟩;refine wpOp_mono (fun a' w' hM'=>ih _ a' w' ?_ hM') (mid_step hok hT hM hi);obtain⟨hun,o,ho,_⟩:=mem_ready.1 hi;have hlt:=(Array.getElem?_eq_some_iff.1 ho).1
  have hs:i<listed.size:=by rw[hM.size];exact hlt
  have:=cnt_lt (fun j=> !listed.getD j false) (fun j=> !(listed.setIfInBounds i true).getD j false) (List.range R.size) i (fun x hx=>by
   by_cases e:x=i
   ·subst e;simp[hs] at hx
   ·rw[getD_set_ne false (Ne.symm e)] at hx;exact hx) (List.mem_range.2 hlt) (by simp[hs] at hun ⊢;exact hun) (by simp[hs])
  omega
theorem Dc{id:Nat}{Q:Exit->St->Prop}{s:St}(fA:P.follows .mixedOrders=true){st:Nat->St}{vs:Nat->V}(h0:st 0=s)(hK:Q .normal (st R.size))
 (hT':∀i,i<R.size->∃o,R[i]? =some o/\lU P E R o (st i) (vs i) (st (i+1))){p:Nat}(hok:Ms E R N st p):AW P N (.region id R true) Q s:=by
 intro a w σ β hR;refine wp_region_any fA ?_;have hgd:Grow w σ {w with drawn:=w.drawn+1} σ:=⟨Nat.le_refl _,rfl,rfl,fun _ _=>⟨rfl,rfl⟩,hR.S.live⟩;refine aec (N:=N) (β0:=β) (σ0:=σ) (w0:=w) hok hT' (fun listed a' w' hM hall=> ?_) R.size _ a _ ?_ ?_
 ·obtain⟨m,hm,hmD,σ',β',hsz,hdf,hS,hT2,hst,hkp,_⟩:=hM.rep
  have hnP:¬mH E R p listed:=by
   rintro⟨_,_,j,x,hj,hx,_,hl⟩;rw[hall j (Array.getElem?_eq_some_iff.1 hx).1] at hl;cases hl
  have hsm:(st R.size).st=(st m).st:=by
   have:=Cc hT' (i:=m) (R.size-m) (by omega) (fun j x h1 h2 h3=>by
    cases pJ:eZ E x.op with
    |false=>rfl
    |true=>have:=(hmD j x h3 pJ (fun _=>hnP)).1 (hall j (Array.getElem?_eq_some_iff.1 h3).1);omega)
   rwa [show m+(R.size-m)=R.size from by omega] at this
  rw[h0] at hst hkp;refine⟨st R.size,σ',β',⟨hsz,hdf,by rw[hsm];exact hS,fun t=> ?_⟩,by rw[hsm];exact hst,by rw[hsm];exact hkp.tail,hK⟩;rw[x9 hT' t R.size (Nat.le_refl _),hsm];have:=hT2 t;unfold rT at this;rw[if_neg (fun h=>hnP h.1)] at this;rw[xD (E':=fun _=>true) R.size (fun j hj _=>hall j hj)] at this;exact this
 ·calc (List.range R.size).countP _<=(List.range R.size).length:=List.countP_le_length
   _=R.size:=List.length_range
 ·refine⟨by simp,fun i o e ho hE _ _=> ?_,0,Nat.zero_le _,fun i o ho _=> ?_,σ,β,hR.size,hR.defers,by rw[h0];exact hR.S.grow hgd,fun t=> ?_,by rw[h0];exact Step.mR hgd,Keep.refl _ _,fun h=>by have h1:=h.1;rw[getD_replicate_false] at h1;cases h1⟩
  ·rw[getD_replicate_false] at hE;cases hE
  ·rw[getD_replicate_false];simp
  ·have:j3 R vs (fun i=>(Array.replicate R.size false).getD i false) (st 0).tm R.size t=look (st 0).tm t:=by
    have:=BA (R:=R) (vs:=vs) (E:=fun i=>(Array.replicate R.size false).getD i false) (base:=(st 0).tm) (t:=t) (i:=0) R.size (fun j _ _=>by rw[getD_replicate_false];simp);rw[this,Nat.min_zero];rfl
   unfold rT;rw[if_neg (fun h=>by have h1:=h.1.1;rw[getD_replicate_false] at h1;cases h1),this,h0];exact(hR.T t).mono hgd.near (Keep.refl _ _)
theorem aed{id:Nat}{Q:Exit->St->Prop}{s:St}(fA:P.follows .mixedOrders=true)(hok:xX E R N=true)(h:rO P E R R.toList s (Q .normal)):AW P N (.region id R true) Q s:=by
 obtain⟨st,vs,h0,hK,hT⟩:=Ik R.size 0 (by omega) s h;exact Dc fA h0 hK (fun i hi=>hT i (Nat.zero_le i) hi) (afQ hok)
theorem aaV{id p:Nat}{Q:Exit->St->Prop}{s:St}(fA:P.follows .mixedOrders=true)(hok:Cb E R N p=true)(h:rO P E R R.toList s (Q .normal)):AW P N (.region id R true) Q s:=by
 obtain⟨st,vs,h0,hK,hT⟩:=Ik R.size 0 (by omega) s h;exact Dc fA h0 hK (fun i hi=>hT i (Nat.zero_le i) hi) (aeb hok)
theorem Ve{id:Nat}{Q:Exit->St->Prop}{s:St}(fA:P.follows .mixedOrders=true)(hok:Li R N=true)(h:rO P (Js R N) R R.toList s (Q .normal)):AW P N (.region id R true) Q s:=by
 unfold Li at hok;rw[Bool.or_eq_true] at hok;rcases hok with hok|hok
 ·exact aed fA hok h
 ·split at hok
  ·exact aaV fA hok h
  ·cases hok
theorem Vf{v w:V}(h:U8 v w=true){k k':Key}(hv:(∃off,v=.c (.ptr k' off))\/(∃i off,v=.c (.ku k' i off))\/∃r p z i off,v=.c (.xq k' r p z i off))
 (hw:Gd w k):k'≠k:=by
 rintro rfl;rcases hv with⟨_,rfl⟩|⟨_,_,rfl⟩|⟨_,_,_,_,_,rfl⟩<;>rcases hw with⟨_,rfl⟩|⟨_,_,rfl⟩|rfl|rfl|⟨_,_,rfl⟩|⟨_,_,_,_,_,rfl⟩<;>simp[U8] at h
theorem G8{o:Oper}{t:TypeId}{a y:Operand}{s s':St}{v:V}(hop:o.op=.store t a y)(h:lU P E R o s v s'){k:Key}
 (hk:∀k',((∃off,ev s.tm a=.c (.ptr k' off))\/(∃i off,ev s.tm a=.c (.ku k' i off))\/∃r p z i off,ev s.tm a=.c (.xq k' r p z i off))->k'≠k):aW s'.st k=aW s.st k:=by
 rcases h with⟨_,_,h⟩|⟨_,_,_,h⟩|⟨_,_,h,_,_⟩
 ·rw[h];cases o.dst<;>rfl
 ·rw[h];cases o.dst<;>rfl
 ·obtain⟨dst,op,ty,pos,after,guard⟩:=o;subst hop;simp only[bQ,r9] at h;split at h
  ·rename_i k' off he;split at h
   ·obtain⟨_,_,_,h4⟩:=h;rw[<-h4,kJ];exact dR _ _ _ _ (hk k' (.inl ⟨_,he⟩))
   ·exact h.elim
  ·rename_i k' i off he;split at h
   ·obtain⟨_,_,_,_,h5⟩:=h;rw[<-h5,kJ];exact dR _ _ _ _ (hk k' (.inr (.inl ⟨_,_,he⟩)))
   ·exact h.elim
  ·rename_i k' r p z i off he;split at h
   ·split at h
    ·split at h
     ·obtain⟨_,_,_,_,_,h6⟩:=h;rw[<-h6,kJ];exact dR _ _ _ _ (hk k' (.inr (.inr ⟨_,_,_,_,_,he⟩)))
     ·exact h.elim
    ·exact h.elim
   ·exact h.elim
  ·exact h.elim
theorem ze{st:Nat->St}{vs:Nat->V}(hT:∀i,i<R.size->∃o,R[i]? =some o/\lU P E R o (st i) (vs i) (st (i+1))){i:Nat}(hi:i<=R.size){a:Operand}(h:settled R i a=true):
 ev (st R.size).tm a=ev (st i).tm a:=by
 cases a with
 |tmp t=>
  show look _ t=look _ t
  have key:∀n,i+n<=R.size->look (st (i+n)).tm t=look (st i).tm t:=by
   intro n
   induction n with
   |zero=>intro _;rfl
   |succ n ih=>
    intro hn;rw[x9 hT t (i+(n+1)) hn,show i+(n+1)=i+n+1 from rfl,j3,if_neg,<-x9 hT t (i+n) (by omega),ih (by omega)];rintro⟨_,hd⟩;have:=List.all_eq_true.1 h (i+n) (List.mem_range.2 (by omega));rw[hd] at this;simp at this;omega
  have:=key (R.size-i) (by omega)
  rwa [show i+(R.size-i)=R.size from by omega] at this
 |_=>rfl
theorem XY{st:Nat->St}{vs:Nat->V}{p:Nat}(hed:∀(i:Nat)(o:Oper),R[i]? =some o->(o.after.toList.all (fun e=> !Region.binds .any e||decide (e.on<i))&&(match o.dst with|some d=>decide (d<N)|none=>true))=true)
 (wI:∀o,R[p]? =some o->wS o.op=true/\o.guard=none/\(∃d,o.dst=some d)/\∀j y,j≠p->R[j]? =some y->y.apart R o=false->∀i x,i<p->R[i]? =some x->eZ E x.op=true->i<j/\((masks R.toList []).getD j 0).testBit i=true)
 (hp:∀(i j:Nat) (x y:Oper),i<j->R[i]? =some x->R[j]? =some y->((masks R.toList []).getD j 0).testBit i=true\/(x.apart R y=true/\(j=p\/((eZ E x.op&&eZ E y.op)=false/\(kC E x.op=true->ug R i x j y=true)/\(kC E y.op=true->ug R j y i x=true)))))
 (hT:∀i,i<R.size->∃o,R[i]? =some o/\lU P E R o (st i) (vs i) (st (i+1)))(hl:Oc E R (st R.size).tm=true):Ms E R N st p:=by
 refine⟨?_,?_,?_,?_,wI⟩
 ·intro i o e ho he hb;have h2:=hed i o ho;simp only[Bool.and_eq_true] at h2;have h3:=List.all_eq_true.1 h2.1 e (by simpa using he);simpa [hb] using h3
 ·intro i o ho d hd;have h2:=hed i o ho;simp only[Bool.and_eq_true,hd] at h2;simpa using h2.2
 ·intro i j x y hij hx hy hc;rcases hp i j x y hij hx hy with h|⟨h1,h⟩
  ·exact .inl h
  ·unfold lW at hc;rw[h1] at hc;simp only[Bool.not_true,Bool.false_or] at hc;rcases h with h|⟨h,_⟩
   ·rw[Bool.and_eq_true] at hc;exact .inr ⟨h,hc.1,h1⟩
   ·rw[hc] at h;cases h
 ·intro i j x o hij hx ho hs hD hc
  have hjp:j≠p:=fun e=>by
   subst e;have:=(su (E:=E) (wI o ho).1).1;rw[hD] at this;cases this
  have Mt:i≠p:=fun e=>by
   subst e;have:=(su (E:=E) (wI x hx).1).2.1;rw[hs] at this;cases this
  cases hb:qE R i j with
  |true=>exact .inl rfl
  |false=>
   refine .inr ?_;rintro k ⟨_,z,hz,hk⟩;have hi:i<R.size:=(Array.getElem?_eq_some_iff.1 hx).1;have hj:j<R.size:=(Array.getElem?_eq_some_iff.1 ho).1
   have hlo:ug R i x j o=true:=by
    unfold qE at hb;by_cases e:i<j
    ·rw[if_pos e] at hb;rcases hp i j x o e hx ho with h|⟨_,h|⟨_,h,_⟩⟩
     ·rw[hb] at h;cases h
     ·exact absurd h hjp
     ·exact h hs
    ·rw[if_neg e] at hb;rcases hp j i o x (by omega) ho hx with h|⟨_,h|⟨_,_,h⟩⟩
     ·rw[hb] at h;cases h
     ·exact absurd h Mt
     ·exact h hs
   unfold ug at hlo;rw[hc,Bool.false_or] at hlo;split at hlo
   ·rename_i t a y hop;rw[Bool.and_eq_true] at hlo
    have hz':z∈o.op.operands.toList:=by simpa using hz
    have hsz:=List.all_eq_true.1 hlo.2 z hz';have h1:=List.all_eq_true.1 hl i (List.mem_range.2 hi);rw[hx] at h1;simp only[hs,Bool.not_true,Bool.false_or,hop] at h1;have h2:=List.all_eq_true.1 h1 j (List.mem_range.2 hj);rw[ho] at h2;simp only[hb,hD,hc,Bool.false_or] at h2;have h3:=List.all_eq_true.1 h2 z hz';obtain⟨x',hx',ht⟩:=hT i hi;rw[hx] at hx';cases hx';refine G8 hop ht fun k' hk'=> ?_;rw[ze hT (by omega) hlo.1,ze hT (by omega) hsz] at h3;exact Vf h3 hk' hk
   ·cases hlo
theorem Jv{f:Nat->Nat->Oper->Oper->Bool}(h:((List.range R.size).all fun j=>
 (match R[j]? with
  |some o=>o.after.toList.all (fun e=> !Region.binds .any e||decide (e.on<j))&&(match o.dst with|some d=>decide (d<N)|none=>true)
  |none=>true)&&
 (List.range j).all fun i=>
   match R[i]?,R[j]? with
   |some x,some y=>((masks R.toList []).getD j 0).testBit i|| !(f i j x y)
   |_,_=>true)=true):
 (∀(i:Nat) (o:Oper),R[i]? =some o->(o.after.toList.all (fun e=> !Region.binds .any e||decide (e.on<i))&&(match o.dst with|some d=>decide (d<N)|none=>true))=true)/\
 ∀(i j:Nat)(x y:Oper),i<j->R[i]? =some x->R[j]? =some y->((masks R.toList []).getD j 0).testBit i=true\/f i j x y=false:=by
 refine⟨fun i o ho=> ?_,fun i j x y hij hx hy=> ?_⟩
 ·have hj:i<R.size:=(Array.getElem?_eq_some_iff.1 ho).1;have h1:=List.all_eq_true.1 h i (List.mem_range.2 hj);rw[Bool.and_eq_true,ho] at h1;exact h1.1
 ·have hj:j<R.size:=(Array.getElem?_eq_some_iff.1 hy).1;have h1:=List.all_eq_true.1 h j (List.mem_range.2 hj);rw[Bool.and_eq_true] at h1;have h2:=List.all_eq_true.1 h1.2 i (List.mem_range.2 hij);rw[hx,hy] at h2;simp only[Bool.or_eq_true,Bool.not_eq_true'] at h2;exact h2
theorem aaW{st:Nat->St}{vs:Nat->V}(hok:Gf E R N=true)(hT:∀i,i<R.size->∃o,R[i]? =some o/\lU P E R o (st i) (vs i) (st (i+1)))(hl:Oc E R (st R.size).tm=true):Ms E R N st R.size:=by
 obtain⟨h1,h2⟩:=Jv (f:=fun i j x y=>lW E R x y||(kC E x.op&& !(ug R i x j y))||(kC E y.op&& !(ug R j y i x))) hok;refine XY h1 (fun o ho=>by rw[Array.getElem?_eq_none (Nat.le_refl _)] at ho;cases ho) (fun i j x y hij hx hy=>(h2 i j x y hij hx hy).imp id fun h=> ?_) hT hl;simp only[lW,Bool.or_eq_false_iff,Bool.not_eq_false',Bool.and_eq_false_imp] at h;obtain⟨⟨⟨q1,q2⟩,q3⟩,q4⟩:=h;refine⟨q1,.inr ⟨?_,q3,q4⟩⟩
 cases hx:eZ E x.op with
 |false=>rfl
 |true=>rw[q2 hx];rfl
theorem afY{id:Nat}{Q:Exit->St->Prop}{s:St}(fA:P.follows .mixedOrders=true)(hok:Gf E R N=true)(h:rO P E R R.toList s (fun s'=>Oc E R s'.tm=true/\Q .normal s')):AW P N (.region id R true) Q s:=by
 obtain⟨st,vs,h0,hK,hT⟩:=Ik R.size 0 (by omega) s h;have hT':=fun i hi=>hT i (Nat.zero_le i) hi;exact Dc fA h0 hK.2 hT' (aaW hok hT' hK.1)
end
section
variable {P:Program} {w w':World} {σ σ':Nat->Nat} {S S':Store} {β β':Hs} {N:Nat} {s:St} {a:Act}
theorem kD{c:Code}{Q:Exit->St->Prop}{s s':St}(h:AW P N c Q s')
 (hg:∀(a:Act) (w:World) (σ:Nat->Nat) (β:Hs),jg N s a w σ β->∃σ' β',jg N s' a w σ' β'/\Step s.st β σ w s'.st β' σ' w/\Keep (fH s.st) (fH β) (fH s'.st) (fH β')):AW P N c Q s:=by
 intro a w σ β hR;obtain⟨σ',β',hR',hst,hk⟩:=hg a w σ β hR;refine wp_mono (h a w σ' β' hR') ?_;rintro e a' w' ⟨s'',zC,β'',k1,k2,k3,k4⟩;exact⟨s'',zC,β'',k1,hst.trans k2,hk.trans k3,k4⟩
def fP(N:Nat)(s s':St):Prop:=∀(a:Act)(w:World)(σ:Nat->Nat)(β:Hs),jg N s a w σ β->∃σ' β',jg N s' a w σ' β'/\Step s.st β σ w s'.st β' σ' w/\Keep (fH s.st) (fH β) (fH s'.st) (fH β')
theorem fP.refl(N:Nat)(s:St):fP N s s:=fun a w σ β hR=>⟨σ,β,hR,Step.mR (Grow.refl hR.S.live),Keep.refl _ _⟩
theorem fP.trans{s s' s'':St}(h:fP N s s')(k:fP N s' s''):fP N s s'':=fun a w σ β hR=>by
 obtain⟨σ1,β1,r1,st1,k1⟩:=h a w σ β hR;obtain⟨σ2,β2,r2,st2,k2⟩:=k a w σ1 β1 r1;exact⟨σ2,β2,r2,st1.trans st2,k1.trans k2⟩
theorem Il{tm tm':List (Nat×V)}(hl:∀t,look tm' t=look tm t\/look tm' t=.any):fP N ⟨tm,S⟩ ⟨tm',S⟩:=
 fun a w σ β hR=>⟨σ,β,⟨hR.size,hR.defers,hR.S,fun t=>by
  rcases hl t with e|e
  ·show cB w σ S β (look tm' t) _;rw[e];exact hR.T t
  ·show cB w σ S β (look tm' t) _;rw[e];trivial⟩,Step.mR (Grow.refl hR.S.live),Keep.refl _ _⟩
theorem Vg{c:Code}{Q:Exit->St->Prop}{tm tm':List (Nat×V)}(h:AW P N c Q ⟨tm',S⟩)(hl:∀t,look tm' t=look tm t\/look tm' t=.any):AW P N c Q ⟨tm,S⟩:=
 kD h fun a w σ β hR=>⟨σ,β,⟨hR.size,hR.defers,hR.S,fun t=>by
  rcases hl t with e|e
  ·show cB w σ S β (look tm' t) _;rw[e];exact hR.T t
  ·show cB w σ S β (look tm' t) _;rw[e];trivial⟩,Step.mR (Grow.refl hR.S.live),Keep.refl _ _⟩
def C.rU:C->C
 | .bK _ es=>.d (.sl es)
 | .bE es=>.d (.sl es)
 |c=>c
def V.rU:V->V
 | .c x=>.c x.rU
 | .agg cs=>.agg (cs.map C.rU)
 |v=>v
theorem Pm{c:C}{v:Value}(h:fT w σ S β c v):fT w σ S β c.rU v:=by
 cases c with
 |bK k es=>exact h.1
 |bE es=>exact h.1
 |_=>exact h
theorem Pn{x:V}{v:Value}(h:cB w σ S β x v):cB w σ S β x.rU v:=by
 cases x with
 |c x=>exact⟨Pm h.1,h.2⟩
 |agg cs=>
  obtain⟨ar,ha,hl,hc⟩:=h;refine⟨ar,ha,by simpa using hl,fun j x hx=> ?_⟩;rw[List.getElem?_map] at hx
  cases hcj:cs[j]? with
  |none=>rw[hcj] at hx;cases hx
  |some y=>
   rw[hcj] at hx;cases hx;obtain⟨v,hv,hr,ho⟩:=hc j y hcj;exact⟨v,hv,Pm hr,ho⟩
 |_=>exact h
theorem bJ.weaken{f:FuncId}{args args':List V}{post:V->Store->Prop}(h:bJ P f args' S post)(hl:args.length=args'.length)
 (hw:∀(j:Nat) (x y:V),args[j]? =some x->args'[j]? =some y->∀w σ β v,cB w σ S β x v->cB w σ S β y v):bJ P f args S post:=by
 refine⟨h.1,fun w σ β vs hS hv=>h.2 w σ β vs hS ⟨by rw[<-hl];exact hv.1,fun j y hy=> ?_⟩⟩;have hj:=(List.getElem?_eq_some_iff.1 hy).1;have hx:args[j]? =some (args[j]'(by omega)):=List.getElem?_eq_getElem (by omega);obtain⟨v,h1,h2⟩:=hv.2 j _ hx;exact⟨v,h1,hw j _ y hx hy w σ β v h2⟩
theorem bJ.rU{f:FuncId}{args:List V}{post:V->Store->Prop}(h:bJ P f (args.map V.rU) S post):bJ P f args S post:=
 h.weaken (by simp) fun j x y hx hy w σ β v hr=>by
  rw[List.getElem?_map,hx] at hy;cases hy;exact Pn hr
theorem bJ.mono{f:FuncId}{args:List V}{post post':V->Store->Prop}(h:bJ P f args S post)(hp:∀r S',post r S'->post' r S'):bJ P f args S post':=
 ⟨h.1,fun w σ β vs hS hv=>(h.2 w σ β vs hS hv).mono fun e w' ⟨v,r,S',σ',β',h1,h2,h3,h4,h5,h6⟩=>⟨v,r,S',σ',β',h1,h2,h3,h4,h5,hp _ _ h6⟩⟩
theorem Df{f:FuncId}{args:List V}{s:St}{dst:Option Nat}{K:St->Prop}{r:V}(h:aJ P f (args.map V.rU) r)(hK:K (St.put s dst r)):xB P f args s dst K:=
 .inl ⟨_,(h s.st).rU,fun r' S' hp=>by rw[hp.1,hp.2];exact hK⟩
theorem yg{c:Code}{Q:Exit->St->Prop}{tm:List (Nat×V)}{own:List Obj}{Ω:Store}(t aQ:Nat)(es:List (List D))(hv:look tm t=.c (.bE es))(hes:∀e∈es,e.length=aQ)
 (h:AW P N c Q ⟨(t,.c (.bK (0,own.length) es))::tm,(own++[.tok aQ es])::Ω⟩):AW P N c Q ⟨tm,own::Ω⟩:=by
 refine kD h fun a w σ β hR=> ?_;obtain⟨bo,bΩ,rfl,hlen⟩:=frames hR;have ht:=hR.T t;rw[hv] at ht;obtain⟨⟨hd,ad,n,hval⟩,hone⟩:=ht
 have hn:n=es.length:=by rw[hval] at hd;cases hd<;>rfl
 have hg:Grow w σ w σ:=Grow.refl hR.S.live
 obtain⟨hS',hk,hst⟩:=hR.S.push (o:=.tok aQ es) (h:=a.tmps.getD t undef) hg hlen ⟨hd,hes,ad,n,by rw[hval,hn],by omega,.inl hn⟩ (fun b hb=>by
  rw[hval,hn] at hb
  cases ad<;>simp[owns,blk] at hb)
 refine⟨σ,_,⟨hR.size,hR.defers,hS',fun u=> ?_⟩,hst,Keep.refl _ _⟩;show cB w σ _ _ (if t=u then _ else look tm u) _;by_cases e:t=u
 ·subst e;rw[if_pos rfl];refine⟨⟨hd,_,bG _ _ _,fun a b e=> ?_⟩,hone⟩;obtain⟨_,rfl⟩:=jD (lab:=none) e;exact⟨Nat.le_refl _,fun _=>by rw[<-hlen,bG]⟩
 ·rw[if_neg e];exact(hR.T u).mono (dQ.refl _ _) hk
theorem nQ{c:Code}{Q:Exit->St->Prop}{tm:List (Nat×V)}{own:List Obj}{Ω:Store}(n t aQ:Nat)(es:List (List D))(hv:look tm t=.c (.jw n es)\/(look tm t=.c (.bE es)/\es=[]))(hes:∀e∈es,e.length=aQ)
 (h:AW P N c Q ⟨(t,.c (.bK (0,own.length) es))::tm,(own++[.dY n aQ es])::Ω⟩):AW P N c Q ⟨tm,own::Ω⟩:=by
 refine kD h fun a w σ β hR=> ?_;obtain⟨bo,bΩ,rfl,hlen⟩:=frames hR;have ht:=hR.T t
 have hl:∃ad,a.tmps.getD t undef=.slice ad es.length es.length/\cu w σ (.ol n es) (a.tmps.getD t undef):=by
  rcases hv with hv|⟨hv,rfl⟩
  ·rw[hv] at ht;obtain⟨⟨hd,ad,m,hval⟩,_⟩:=ht
   have hn:m=es.length:=by
    have:=rX hd;rw[hval] at this;cases this<;>rfl
   exact⟨ad,by rw[hval,hn],hd⟩
  ·rw[hv] at ht;obtain⟨⟨hd,ad,m,hval⟩,_⟩:=ht
   have hn:m=0:=by rw[hval] at hd;cases hd<;>rfl
   subst hn;exact⟨ad,hval,by rw[hval];exact .oU _ _ _⟩
 obtain⟨ad,hval,hol⟩:=hl;have hd:=rX hol;have hg:Grow w σ w σ:=Grow.refl hR.S.live
 obtain⟨hS',hk,hst⟩:=hR.S.push (o:=.dY n aQ es) (h:=a.tmps.getD t undef) hg hlen ⟨hd,hes,ad,es.length,hval,Nat.le_refl _,.inl ⟨rfl,hol⟩⟩ (fun b hb=>by
  rw[hval] at hb
  cases ad<;>simp[owns,blk] at hb)
 refine⟨σ,_,⟨hR.size,hR.defers,hS',fun u=> ?_⟩,hst,Keep.refl _ _⟩;show cB w σ _ _ (if t=u then _ else look tm u) _;by_cases e:t=u
 ·subst e;rw[if_pos rfl];refine⟨⟨hd,_,bG _ _ _,fun a b e=> ?_⟩,by rw[hval];rfl⟩;obtain⟨_,rfl⟩:=jD (lab:=some n) e;exact⟨Nat.le_refl _,fun _=>by rw[<-hlen,bG]⟩
 ·rw[if_neg e];exact(hR.T u).mono (dQ.refl _ _) hk
theorem Lj{c:Code}{Q:Exit->St->Prop}{tm:List (Nat×V)}{Ω:Store}(n:Nat)(h:AW P N c Q ⟨tm,[.seed n]::Ω⟩):AW P N c Q ⟨tm,[]::Ω⟩:=by
 refine kD h fun a w σ β hR=> ?_;obtain⟨bo,bΩ,rfl,hlen⟩:=frames hR;obtain⟨hS',hk,hst⟩:=hR.S.push (o:=.seed n) (h:=undef) (Grow.refl hR.S.live) hlen trivial (fun b hb=>by cases hb);exact⟨σ,_,⟨hR.size,hR.defers,hS',fun u=>(hR.T u).mono (dQ.refl _ _) hk⟩,hst,Keep.refl _ _⟩
theorem zP{tm:List (Nat×V)}{own:List Obj}{Ω:Store}{m:Nat}(n:Nat):fP N ⟨tm,(.seed m::own)::Ω⟩ ⟨tm,(.seed n::own)::Ω⟩:=by
 intro a w σ β hR;obtain⟨bo,bΩ,rfl,hlen⟩:=frames hR;have h0:aW ((Obj.seed m::own)::Ω) (0,0)=some (.seed m):=rfl;obtain⟨h,hh,_⟩:=hR.S.obj (0,0) _ h0;obtain⟨hS',hk,hst⟩:=hR.S.set (o':=.seed n) (h':=h) h0 hh (Nat.le_refl _) rfl rfl (dQ.refl _ _) hR.S.live (fun _ _ _=>⟨rfl,rfl⟩) (.inr ⟨n,rfl⟩) trivial (fun b hb=>by cases hb);have e:aX (bo::bΩ) (0,0) h=bo::bΩ:=uQ h _ _ _ hh;rw[e] at hS' hk hst;exact⟨σ,_,⟨hR.size,hR.defers,hS',fun u=>(hR.T u).mono (dQ.refl _ _) hk⟩,hst,Keep.refl _ _⟩
theorem yh{c:Code}{Q:Exit->St->Prop}{tm:List (Nat×V)}{own:List Obj}{Ω:Store}{m:Nat}(n:Nat)(h:AW P N c Q ⟨tm,(.seed n::own)::Ω⟩):AW P N c Q ⟨tm,(.seed m::own)::Ω⟩:=kD h (zP n)
def om(n:Nat)(k:Key):Bool:=decide (0<k.1)||decide (k.2<n)
def C.refs(n:Nat):C->Bool
 | .bK k _=>om n k
 | .ptr k _=>om n k
 | .ku k _ _=>om n k
 | .gQ k=>om n k
 | .mp k=>om n k
 | .fn _ caps=>caps.all fun x=>om n x.1
 | .xp k _ _=>om n k
 | .xq k _ _ _ _ _=>om n k
 |_=>true
def V.refs(n:Nat):V->Bool
 | .c x=>x.refs n
 | .agg cs=>cs.all (C.refs n)
 | .eU xs=>xs.all fun y=>y.2.all (C.refs n)
 | .any=>true
def Obj.refs(n:Nat):Obj->Bool
 | .box cs=>cs.all (C.refs n)
 |_=>true
theorem iH{α:Type}{own:List α}{Ω:List (List α)}{n:Nat}{k:Key}(h:om n k=true):aW (own.take n::Ω) k=aW (own::Ω) k:=by
 obtain⟨l,j⟩:=k
 cases l with
 |zero=>
  simp[om] at h;rw[aZ,aZ,List.getElem?_take_of_lt h]
 |succ l=>rw[bM,bM]
theorem lZ{α:Type}{own:List α}{Ω:List (List α)}{n:Nat}{k:Key}{o:α}(h:aW (own.take n::Ω) k=some o):aW (own::Ω) k=some o/\om n k=true:=by
 obtain⟨l,j⟩:=k
 cases l with
 |zero=>
  rw[aZ] at h ⊢;have hj:=(List.getElem?_eq_some_iff.1 h).1;simp at hj;rw[List.getElem?_take_of_lt (by omega)] at h;exact⟨h,by simp[om];omega⟩
 |succ l=>rw[bM] at h ⊢;exact⟨h,by simp[om]⟩
theorem EI{own:List Obj}{Ω:Store}{bo:List Value}{bΩ:Hs}{n:Nat}{c:C}{v:Value}(hr:c.refs n=true)(h:fT w σ (own::Ω) (bo::bΩ) c v):fT w σ (own.take n::Ω) (bo.take n::bΩ) c v:=by
 cases c with
 |d x=>exact h
 |any=>exact h
 |bE es=>exact h
 |kT cs=>exact h
 |bK k es=>
  obtain⟨h1,o,ho,h2⟩:=h;exact⟨h1,o,(iH hr).trans ho,fun a b e=>by rw[iH hr];exact h2 a b e⟩
 |ptr k off=>
  obtain⟨o,ho,h2⟩:=h;exact⟨o,(iH hr).trans ho,fun a e=>by rw[iH hr];exact h2 a e⟩
 |ku k i off=>
  obtain⟨o,ho,h2⟩:=h;exact⟨o,(iH hr).trans ho,fun a b e=>by rw[iH hr];exact h2 a b e⟩
 |gQ k=>
  obtain⟨o,ho,h2⟩:=h;exact⟨o,(iH hr).trans ho,fun a b e=>by rw[iH hr];exact h2 a b e⟩
 |mp k=>
  obtain⟨o,ho,h2⟩:=h;exact⟨o,(iH hr).trans ho,fun a e=>by rw[iH hr];exact h2 a e⟩
 |fn f caps=>
  obtain⟨vs,hv,hl,h2⟩:=h;refine⟨vs,hv,hl,fun j k off e=> ?_⟩;obtain⟨u,hu,h1c,o,ho,h3⟩:=h2 j k off e;have hk:om n k=true:=List.all_eq_true.1 hr (k,off) (List.mem_of_getElem? e);exact⟨u,hu,h1c,o,(iH hk).trans ho,fun cs e=>by rw[iH hk];exact h3 cs e⟩
 |jw m es=>exact h
 |xp k r p=>
  obtain⟨o,ho,h2⟩:=h;exact⟨o,(iH hr).trans ho,fun a e=>by rw[iH hr];exact h2 a e⟩
 |xq k r p z i off=>
  obtain⟨o,ho,h2⟩:=h;exact⟨o,(iH hr).trans ho,fun a e=>by rw[iH hr];exact h2 a e⟩
theorem Dg{own:List Obj}{Ω:Store}{bo:List Value}{bΩ:Hs}{n:Nat}{cs:List C}{vs:List Value}(hr:cs.all (C.refs n)=true)(h:eX w σ (own::Ω) (bo::bΩ) cs vs):eX w σ (own.take n::Ω) (bo.take n::bΩ) cs vs:=
 ⟨h.1,fun j x hx=>let⟨v,hv,hc,ho⟩:=h.2 j x hx;⟨v,hv,EI (List.all_eq_true.1 hr x (List.mem_of_getElem? hx)) hc,ho⟩⟩
theorem XZ{own:List Obj}{Ω:Store}{bo:List Value}{bΩ:Hs}{n:Nat}{x:V}{v:Value}(hr:x.refs n=true)(h:cB w σ (own::Ω) (bo::bΩ) x v):cB w σ (own.take n::Ω) (bo.take n::bΩ) x v:=by
 cases x with
 |c x=>exact⟨EI hr h.1,h.2⟩
 |agg cs=>obtain⟨ar,ha,hc⟩:=h;exact⟨ar,ha,Dg hr hc⟩
 |eU xs=>
  obtain⟨ar,ha,hl,h2⟩:=h;refine⟨ar,ha,hl,fun j y hy=> ?_⟩;obtain⟨u,hu,h3⟩:=h2 j y hy;have hy':y.2.all (C.refs n)=true:=List.all_eq_true.1 hr y (List.mem_of_getElem? hy);refine⟨u,hu,?_⟩;obtain⟨b,cs⟩:=y
  cases b with
  |true=>obtain⟨a',e,hcs⟩:=h3;exact⟨a',e,Dg hy' hcs⟩
  |false=>
   obtain⟨x,e,hx,ho⟩:=h3;subst e;simp at hy';exact⟨x,rfl,EI hy' hx,ho⟩
 |any=>trivial
def nk(n:Nat)(tm:List (Nat×V)):Bool:=tm.all fun x=>x.2.refs n
theorem Mv{n:Nat}:∀(tm:List (Nat×V))(t:Nat),nk n tm=true->(look tm t).refs n=true
 |[],_,_=>rfl
 |(x,v)::tm,t,h=>by
  simp only[nk,List.all_cons,Bool.and_eq_true] at h;rw[look];split
  ·exact h.1
  ·exact Mv tm t h.2
theorem Jw{tm:List (Nat×V)}{own:List Obj}{Ω:Store}(n:Nat)(h1:nk n tm=true)(h2:(own.take n).all (Obj.refs n)=true):fP N ⟨tm,own::Ω⟩ ⟨tm,own.take n::Ω⟩:=by
 intro a w σ β hR;obtain⟨bo,bΩ,rfl,hlen⟩:=frames hR
 have hown:∀b,Own (own.take n::Ω) (bo.take n::bΩ) b->Own (own::Ω) (bo::bΩ) b:=by
  rintro b ⟨k,o,hv,e1,e2,e3⟩;exact⟨k,o,hv,(lZ e1).1,(lZ e2).1,e3⟩
 refine⟨σ,bo.take n::bΩ,⟨hR.size,hR.defers,⟨fun k o ho=> ?_,fun k k' o o' h1 h2 b e1 e2 e3 e4 e5 e6=> ?_,⟨by have:=hR.S.shape.1;simpa using this,fun l fr hl=> ?_⟩,hR.S.live,hR.S.rH⟩,fun t=>XZ (Mv tm t h1) (hR.T t)⟩,
  ⟨Nat.le_refl _,rfl,rfl,fun _ _ _=>⟨rfl,rfl⟩,dQ.refl _ _,fun b hb=>.inl (hown b hb)⟩,Keep.refl _ _⟩
 ·obtain⟨ho',hk⟩:=lZ ho;obtain⟨hv,hh,hr⟩:=hR.S.obj k o ho';refine⟨hv,(iH hk).trans hh,?_⟩;obtain⟨l,j⟩:=k
  cases l with
  |zero=>
   cases o with
   |dead=>trivial
   |box cs=>
    obtain⟨b,cc,t,e,hb,hs,hc⟩:=hr;rw[aZ] at ho;have hcs:cs.all (C.refs n)=true:=List.all_eq_true.1 h2 (.box cs) (List.mem_of_getElem? ho);exact⟨b,cc,t,e,hb,hs,Dg hcs hc⟩
   |tok=>exact hr
   |dN=>exact hr
   |mp=>exact hr
   |dY=>exact hr
   |seed=>exact hr
   |xf=>exact hr
  |succ l=>exact hr
 ·exact hR.S.apart k k' o o' h1 h2 b (lZ e1).1 (lZ e2).1 e3 (lZ e4).1 (lZ e5).1 e6
 ·cases l with
  |zero=>
   simp at hl;subst hl;exact⟨_,rfl,by simp[hlen]⟩
  |succ l=>exact hR.S.shape.2 (l+1) fr hl
def C.mo(j:Nat)(es:List (List D)):C->C
 | .gQ (0,i)=>if i=j then .d (.sl es) else .gQ (0,i)
 |c=>c
def V.mo(j:Nat)(es:List (List D)):V->V
 | .c x=>.c (x.mo j es)
 | .agg cs=>.agg (cs.map (C.mo j es))
 | .eU xs=>.eU (xs.map fun y=>(y.1,y.2.map (C.mo j es)))
 | .any=>.any
def Obj.mo(j:Nat)(es:List (List D)):Obj->Obj
 | .box cs=>.box (cs.map (C.mo j es))
 |o=>o
theorem Dh{f:V->V}(hf:f .any=.any):∀(tm:List (Nat×V))(t:Nat),look (tm.map fun x=>(x.1,f x.2)) t=f (look tm t)
 |[],_=>hf.symm
 |(x,v)::tm,t=>by
  show(if x=t then f v else look (tm.map fun x=>(x.1,f x.2)) t)=f (if x=t then v else look tm t);split
  ·rfl
  ·exact Dh hf tm t
def V.jQ(f:C->C):V->V
 | .c x=>.c (f x)
 | .agg cs=>.agg (cs.map f)
 | .eU xs=>.eU (xs.map fun y=>(y.1,y.2.map f))
 | .any=>.any
def Obj.jQ(f:C->C):Obj->Obj
 | .box cs=>.box (cs.map f)
 |o=>o
theorem vU{f:C->C}{own:List Obj}{j i:Nat}:((own.map (Obj.jQ f)).set j .dead)[i]? =if i=j then(if j<own.length then some .dead else none) else(own[i]?).map (Obj.jQ f):=by
 rw[List.getElem?_set];by_cases e:j=i
 ·subst e;simp
 ·rw[if_neg e,if_neg (Ne.symm e),List.getElem?_map]
theorem uT{f:C->C}{own:List Obj}{Ω:Store}{j:Nat}{oj:Obj}(hj:own[j]? =some oj){k:Key}{o:Obj}(hk:aW (own::Ω) k=some o):
 ∃o',aW ((own.map (Obj.jQ f)).set j .dead::Ω) k=some o'/\((k=(0,j)/\o'=.dead)\/(k≠(0,j)/\(o'=o\/o'=o.jQ f))):=by
 obtain⟨l,i⟩:=k
 cases l with
 |zero=>
  rw[aZ] at hk;by_cases e:i=j
  ·subst e;refine⟨.dead,?_,.inl ⟨rfl,rfl⟩⟩;rw[aZ,vU,if_pos rfl,if_pos (List.getElem?_eq_some_iff.1 hj).1]
  ·refine⟨o.jQ f,?_,.inr ⟨fun x=>e (by cases x;rfl),.inr rfl⟩⟩;rw[aZ,vU,if_neg e,hk];rfl
 |succ l=>exact⟨o,by rw[bM] at hk ⊢;exact hk,.inr ⟨by simp,.inl rfl⟩⟩
theorem qo{f:C->C}{o o':Obj}(h:o'=o\/o'=o.jQ f):(∀z es,qA o' z es->qA o z es)/\(∀z es,o'=.dN z es->o=.dN z es)/\(∀m,o'=.mp m->o=.mp m)/\(∀cs,o'=.box cs->∃cs',o=.box cs')/\(∀rs,o'=.xf rs->o=.xf rs):=by
 rcases h with rfl|rfl
 ·exact⟨fun _ _ h=>h,fun _ _ h=>h,fun _ h=>h,fun cs h=>⟨cs,h⟩,fun _ h=>h⟩
 ·cases o<;>simp[Obj.jQ,qA]
theorem Jy{f:C->C}{own:List Obj}{Ω:Store}{bo:List Value}{bΩ:Hs}{j:Nat}{oj:Obj}(hj:own[j]? =some oj)(hn:dQ w σ w σ'){c:C}{v:Value}(hc:fT w σ (own::Ω) (bo::bΩ) c v):
 fT w σ' ((own.map (Obj.jQ f)).set j .dead::Ω) (bo::bΩ) c v:=by
 cases c with
 |d x=>exact cu.mono hn hc
 |any=>trivial
 |bE es'=>exact⟨cu.mono hn hc.1,hc.2⟩
 |jw n es'=>exact⟨cu.mono hn hc.1,hc.2⟩
 |kT cs=>obtain⟨ad,h1,h2⟩:=hc;exact⟨ad,h1,h2.mono hn⟩
 |bK k es'=>
  obtain⟨h1,o,ho,h2⟩:=hc;obtain⟨o',ho',hcase⟩:=uT hj ho;refine⟨cu.mono hn h1,o',ho',fun z e4 e=> ?_⟩;rcases hcase with⟨_,e'⟩|⟨_,e'⟩
  ·rw[e'] at e;rcases e with e|⟨_,e⟩<;>cases e
  ·exact h2 _ _ ((qo e').1 _ _ e)
 |ptr k off=>
  obtain⟨o,ho,h2⟩:=hc;obtain⟨o',ho',hcase⟩:=uT hj ho;refine⟨o',ho',fun cs e=> ?_⟩;rcases hcase with⟨_,e'⟩|⟨_,e'⟩
  ·rw[e'] at e;cases e
  ·obtain⟨cs',e''⟩:=(qo e').2.2.2.1 _ e;exact h2 _ e''
 |ku k i off=>
  obtain⟨o,ho,h2⟩:=hc;obtain⟨o',ho',hcase⟩:=uT hj ho;refine⟨o',ho',fun z e4 e=> ?_⟩;rcases hcase with⟨_,e'⟩|⟨_,e'⟩
  ·rw[e'] at e;cases e
  ·exact h2 _ _ ((qo e').2.1 _ _ e)
 |gQ k=>
  obtain⟨o,ho,h2⟩:=hc;obtain⟨o',ho',hcase⟩:=uT hj ho;refine⟨o',ho',fun z e4 e=> ?_⟩;rcases hcase with⟨_,e'⟩|⟨_,e'⟩
  ·rw[e'] at e;cases e
  ·exact h2 _ _ ((qo e').2.1 _ _ e)
 |mp k=>
  obtain⟨o,ho,h2⟩:=hc;obtain⟨o',ho',hcase⟩:=uT hj ho;refine⟨o',ho',fun m e=> ?_⟩;rcases hcase with⟨_,e'⟩|⟨_,e'⟩
  ·rw[e'] at e;cases e
  ·exact h2 _ ((qo e').2.2.1 _ e)
 |fn f caps=>
  obtain⟨vs,hv,hl,h2⟩:=hc;refine⟨vs,hv,hl,fun i k off e=> ?_⟩;obtain⟨u,hu,h1c,o,ho,h3⟩:=h2 i k off e;obtain⟨o',ho',hcase⟩:=uT hj ho;refine⟨u,hu,h1c,o',ho',fun cs e=> ?_⟩;rcases hcase with⟨_,e'⟩|⟨_,e'⟩
  ·rw[e'] at e;cases e
  ·obtain⟨cs',e''⟩:=(qo e').2.2.2.1 _ e;exact h3 _ e''
 |xp k r p=>
  obtain⟨o,ho,h2⟩:=hc;obtain⟨o',ho',hcase⟩:=uT hj ho;refine⟨o',ho',fun rs e=> ?_⟩;rcases hcase with⟨_,e'⟩|⟨_,e'⟩
  ·rw[e'] at e;cases e
  ·exact h2 _ ((qo e').2.2.2.2 _ e)
 |xq k r p z i off=>
  obtain⟨o,ho,h2⟩:=hc;obtain⟨o',ho',hcase⟩:=uT hj ho;refine⟨o',ho',fun rs e=> ?_⟩;rcases hcase with⟨_,e'⟩|⟨_,e'⟩
  ·rw[e'] at e;cases e
  ·exact h2 _ ((qo e').2.2.2.2 _ e)
theorem Po{f:C->C}{tm:List (Nat×V)}{own:List Obj}{Ω:Store}{bo:List Value}{bΩ:Hs}(j:Nat){oj:Obj}{hj:Value}(hoj:own[j]? =some oj)(hbj:bo[j]? =some hj)(hR:jg N ⟨tm,own::Ω⟩ a w σ (bo::bΩ))(hlen:bo.length=own.length)
 (hn:dQ w σ w σ')(hch:∀x,¬owns oj hj x->σ' x=σ x)(hlive:∀x,x<w.heap.size\/σ' x=0)
 (hC:∀(c:C) (v:Value),fT w σ (own::Ω) (bo::bΩ) c v->fT w σ' ((own.map (Obj.jQ f)).set j .dead::Ω) (bo::bΩ) (f c) v):
 jg N ⟨tm.map fun x=>(x.1,x.2.jQ f),(own.map (Obj.jQ f)).set j .dead::Ω⟩ a w σ' (bo::bΩ)/\Step (own::Ω) (bo::bΩ) σ w ((own.map (Obj.jQ f)).set j .dead::Ω) (bo::bΩ) σ' w:=by
 have Od:∀k o,aW ((own.map (Obj.jQ f)).set j .dead::Ω) k=some o->(k=(0,j)/\o=.dead)\/(k≠(0,j)/\∃o0,aW (own::Ω) k=some o0/\(o=o0\/o=o0.jQ f)/\(0<k.1->o=o0)/\∀h b,owns o h b<->owns o0 h b):=by
  intro k o hk;obtain⟨l,i⟩:=k
  cases l with
  |zero=>
   rw[aZ,vU] at hk;by_cases e:i=j
   ·subst e;rw[if_pos rfl,if_pos (List.getElem?_eq_some_iff.1 hoj).1] at hk;cases hk;exact .inl ⟨rfl,rfl⟩
   ·rw[if_neg e] at hk
    cases ho:own[i]? with
    |none=>rw[ho] at hk;cases hk
    |some o0=>
     rw[ho] at hk;cases hk;refine .inr ⟨fun x=>e (by cases x;rfl),o0,by rw[aZ];exact ho,.inr rfl,fun h=>absurd h (by simp),fun h b=> ?_⟩
     cases o0 with
     |box cs=>cases h<;>first|exact Iff.rfl|(rename_i x;cases x<;>exact Iff.rfl)
     |_=>exact Iff.rfl
  |succ l=>rw[bM] at hk;exact .inr ⟨by simp,o,by rw[bM];exact hk,.inl rfl,fun _=>rfl,fun _ _=>Iff.rfl⟩
 have hCs:∀(cs:List C)(vs:List Value),eX w σ (own::Ω) (bo::bΩ) cs vs->eX w σ' ((own.map (Obj.jQ f)).set j .dead::Ω) (bo::bΩ) (cs.map f) vs:=by
  intro cs vs hc;refine⟨by simpa using hc.1,fun i x hx=> ?_⟩;rw[List.getElem?_map] at hx
  cases hci:cs[i]? with
  |none=>rw[hci] at hx;cases hx
  |some y=>
   rw[hci] at hx;cases hx;obtain⟨v,hv,hr,ho⟩:=hc.2 i y hci;exact⟨v,hv,hC y v hr,ho⟩
 have hother:∀k o h x,k≠(0,j)->aW (own::Ω) k=some o->aW (bo::bΩ) k=some h->owns o h x->σ' x=σ x:=by
  intro k o h x hk e1 e2 e3;refine hch x fun e4=>hk ?_;exact hR.S.apart k (0,j) o _ h _ x e1 e2 e3 (by rw[aZ];exact hoj) (by rw[aZ];exact hbj) e4
 refine⟨⟨hR.size,hR.defers,⟨fun k o ho=> ?_,fun k k' o o' h1 h2 b' e1 e2 e3 e4 e5 e6=> ?_,⟨by have:=hR.S.shape.1;simpa using this,fun l fr hl=> ?_⟩,hlive,hR.S.rH.near hn⟩,fun t=> ?_⟩,⟨Nat.le_refl _,rfl,rfl,fun x hx hno=>⟨rfl,?_⟩,hn,fun x hx=> ?_⟩⟩
 ·rcases Od k o ho with⟨rfl,rfl⟩|⟨hk,o0,h0,hcase,hl0,how⟩
  ·exact⟨_,by rw[aZ];exact hbj,trivial⟩
  ·obtain⟨hv,hhv,hr⟩:=hR.S.obj k o0 h0;refine⟨hv,hhv,?_⟩;have hbk:∀x,owns o0 hv x->w.heap[x]? =w.heap[x]? /\σ' x=σ x:=fun x e=>⟨rfl,hother k o0 hv x hk h0 hhv e⟩;obtain⟨l,i⟩:=k
   cases l with
   |succ l=>
    rw[hl0 (by simp)];exact fM.mono hn (Keep.refl _ _) hbk hr
   |zero=>
    cases o0 with
    |box cs=>
     obtain⟨b',cc',t',e',hb',hs',hc'⟩:=hr;subst e'
     have he:o=.box (cs.map f):=by
      rw[aZ,vU] at ho;rw[aZ] at h0;split at ho
      ·rename_i e;exact absurd (by rw[e]) hk
      ·rw[h0] at ho;cases ho;rfl
     rw[he];exact⟨b',cc',t',rfl,hb',(hbk b' rfl).2.trans hs',hCs _ _ hc'⟩
    |dead=>rcases hcase with rfl|rfl<;>trivial
    |tok z es'=>
     have:o=.tok z es':=by rcases hcase with rfl|rfl<;>rfl
     rw[this];exact fM.mono (S:=[]) (β:=[]) (o:=(.tok z es')) hn (Keep.refl [] []) hbk hr
    |dN z es'=>
     have:o=.dN z es':=by rcases hcase with rfl|rfl<;>rfl
     rw[this];exact fM.mono (S:=[]) (β:=[]) (o:=(.dN z es')) hn (Keep.refl [] []) hbk hr
    |mp m=>
     have:o=.mp m:=by rcases hcase with rfl|rfl<;>rfl
     rw[this];exact fM.mono (S:=[]) (β:=[]) (o:=(.mp m)) hn (Keep.refl [] []) hbk hr
    |dY n z es'=>
     have:o=.dY n z es':=by rcases hcase with rfl|rfl<;>rfl
     rw[this];exact fM.mono (S:=[]) (β:=[]) (o:=(.dY n z es')) hn (Keep.refl [] []) hbk hr
    |seed n=>rcases hcase with rfl|rfl<;>trivial
    |xf rs=>
     have:o=.xf rs:=by rcases hcase with rfl|rfl<;>rfl
     rw[this];exact fM.mono (S:=[]) (β:=[]) (o:=(.xf rs)) hn (Keep.refl [] []) hbk hr
 ·rcases Od k o e1 with⟨rfl,rfl⟩|⟨hk,o0,f1,_,_,f2⟩
  ·cases e3
  ·rcases Od k' o' e4 with⟨rfl,rfl⟩|⟨hk',o0',g1,_,_,g2⟩
   ·cases e6
   ·exact hR.S.apart k k' o0 o0' h1 h2 b' f1 e2 ((f2 _ _).1 e3) g1 e5 ((g2 _ _).1 e6)
 ·cases l with
  |zero=>
   simp at hl;subst hl;exact⟨_,rfl,by simp[hlen]⟩
  |succ l=>exact hR.S.shape.2 (l+1) fr hl
 ·show cB w σ' ((own.map (Obj.jQ f)).set j .dead::Ω) (bo::bΩ) (look (tm.map fun x=>(x.1,x.2.jQ f)) t) _;rw[Dh (f:=V.jQ f) rfl];have ht:=hR.T t
  cases hx:look tm t with
  |c x=>rw[hx] at ht;exact⟨hC x _ ht.1,ht.2⟩
  |agg cs=>rw[hx] at ht;obtain⟨ar,e,hc⟩:=ht;exact⟨ar,e,hCs _ _ hc⟩
  |eU xs=>
   rw[hx] at ht;obtain⟨ar,e,hl,h2⟩:=ht;refine⟨ar,e,by simpa using hl,fun i y hy=> ?_⟩;rw[List.getElem?_map] at hy
   cases hxi:xs[i]? with
   |none=>rw[hxi] at hy;cases hy
   |some z=>
    rw[hxi] at hy;cases hy;obtain⟨u,hu,h3⟩:=h2 i z hxi;refine⟨u,hu,?_⟩;obtain⟨bb,cs⟩:=z
    cases bb with
    |true=>obtain⟨a',e',hcs⟩:=h3;exact⟨a',e',hCs _ _ hcs⟩
    |false=>
     obtain⟨x,e',hxr,ho⟩:=h3;subst e';exact⟨_,rfl,hC x _ hxr,ho⟩
  |any=>trivial
 ·exact hch x fun e=>hno ⟨(0,j),_,_,by rw[aZ];exact hoj,by rw[aZ];exact hbj,e⟩
 ·left;obtain⟨k,o,h1,e1,e2,e3⟩:=hx;rcases Od k o e1 with⟨rfl,rfl⟩|⟨hk,o0,f1,_,_,f2⟩
  ·cases e3
  ·exact⟨k,o0,h1,f1,e2,(f2 _ _).1 e3⟩
theorem aaX{j:Nat}{es:List (List D)}:Obj.mo j es=Obj.jQ (C.mo j es):=by funext o;cases o<;>rfl
theorem aaY{j:Nat}{es:List (List D)}:V.mo j es=V.jQ (C.mo j es):=by funext v;cases v<;>rfl
theorem aee{tm:List (Nat×V)}{own:List Obj}{Ω:Store}(j:Nat)(aQ:Nat)(es:List (List D))(hj:own[j]? =some (.dN aQ es))(hR:jg N ⟨tm,own::Ω⟩ a w σ β):
 ∃σ' β',jg N ⟨tm.map fun x=>(x.1,x.2.mo j es),(own.map (Obj.mo j es)).set j .dead::Ω⟩ a w σ' β'/\Step (own::Ω) β σ w ((own.map (Obj.mo j es)).set j .dead::Ω) β' σ' w/\
  Keep (fH (own::Ω)) (fH β) (fH ((own.map (Obj.mo j es)).set j .dead::Ω)) (fH β'):=by
 obtain⟨bo,bΩ,rfl,hlen⟩:=frames hR;obtain⟨hh,hb,hr⟩:=hR.S.obj (0,j) _ (by rw[aZ];exact hj);rw[aZ] at hb
 obtain⟨σ',hn,hch,hlive,hdata⟩:∃σ',dQ w σ w σ'/\(∀x,¬owns (.dN aQ es) hh x->σ' x=σ x)/\(∀x,x<w.heap.size\/σ' x=0)/\cu w σ' (.sl es) hh:=by
  obtain⟨hle,ad,cap,rfl,hcap,h4⟩:=hr;by_cases h0:cap=0
  ·obtain rfl:es=[]:=List.eq_nil_of_length_eq_zero (by omega);exact⟨σ,dQ.refl _ _,fun _ _=>rfl,hR.S.live,.nil _ _⟩
  rcases h4 with h4|⟨b,cc,ty,rfl,hbc,hσ,hcz,hcells⟩
  ·exact absurd h4 h0
  have hsz:es.length*aQ<=cc.size:=Nat.le_trans (Nat.mul_le_mul_right _ hcap) hcz
  let σ':Nat->Nat:=fun x=>if x=b then es.length*aQ else σ x
  have hn:dQ w σ w σ':=by
   intro b1 c1 t1 yV e1;by_cases e:b1=b
   ·subst e;rw[hbc] at e1;cases e1;exact⟨by simp only[σ',if_true];omega,fun h=>by omega,cc,hbc,rfl,fun _ _=>rfl⟩
   ·exact⟨by simp only[σ',if_neg e];exact Nat.le_refl _,fun _=>if_neg e,c1,e1,rfl,fun _ _=>rfl⟩
  refine⟨σ',hn,fun x hx=>if_neg fun e=>hx (by subst e;simp[owns,blk,h0]),fun x=> ?_,?_⟩
  ·by_cases e:x=b
   ·left;subst e;exact lt_of_some hbc
   ·simp only[σ',if_neg e];exact hR.S.live x
  ·have hfl:=gN es aQ hle;refine .sl b 0 cap aQ es (fun i=>(cc[i]?).getD undef) cc ty (0,0) hcap hle hbc (by simp[σ']) (fun i hi=> ?_) (fun i d hd=> ?_)
   ·obtain⟨v,hv,_⟩:=hcells i _ (List.getElem?_eq_getElem (by omega));simp[hv]
   ·obtain⟨v,hv,hr⟩:=hcells i d hd;simp only[hv,Option.getD_some];exact hr.mono hn
 rw[aaX,aaY]
 have:=Po (f:=C.mo j es) j hj hb hR hlen hn hch hlive (fun c v hc=>by
  by_cases hm:c=.gQ (0,j)
  ·subst hm;obtain⟨o,ho,h2⟩:=hc;rw[aZ,hj] at ho;cases ho;have hv:=h2 _ _ rfl;rw[aZ,hb] at hv;cases hv;simp only[C.mo,if_true];exact hdata
  ·have hfr:C.mo j es c=c:=by
    cases c with
    |gQ k=>
     obtain⟨l,i⟩:=k
     cases l with
     |zero=>simp only[C.mo];rw[if_neg (fun e=>hm (by rw[e]))]
     |succ l=>rfl
    |_=>rfl
   rw[hfr]
   exact Jy hj hn hc)
 exact⟨σ',_,this.1,this.2,Keep.refl _ _⟩
def C.lab(row:Bool)(j n:Nat)(es:List (List D)):C->C
 | .gQ (0,i)=>if i=j/\row=true then .d (.ol n es) else .gQ (0,i)
 | .bK (0,i) es'=>if i=j/\row=false/\es'.length=es.length then .d (.ol n es) else .bK (0,i) es'
 |c=>c
def Jz(row:Bool)(n aQ:Nat)(es:List (List D)):Obj:=match row with|true=>.dN aQ es|false=>.dY n aQ es
theorem TM{tm:List (Nat×V)}{own:List Obj}{Ω:Store}(j n:Nat)(aQ:Nat)(es:List (List D))(row:Bool)(hj:own[j]? =some (Jz row n aQ es))(hR:jg N ⟨tm,own::Ω⟩ a w σ β):
 ∃σ' β',jg N ⟨tm.map fun x=>(x.1,x.2.jQ (C.lab row j n es)),(own.map (Obj.jQ (C.lab row j n es))).set j .dead::Ω⟩ a w σ' β'/\Step (own::Ω) β σ w ((own.map (Obj.jQ (C.lab row j n es))).set j .dead::Ω) β' σ' w/\
  Keep (fH (own::Ω)) (fH β) (fH ((own.map (Obj.jQ (C.lab row j n es))).set j .dead::Ω)) (fH β'):=by
 obtain⟨bo,bΩ,rfl,hlen⟩:=frames hR
 have key:∃hh σ',bo[j]? =some hh/\dQ w σ w σ'/\(∀x,¬owns (Jz row n aQ es) hh x->σ' x=σ x)/\(∀x,x<w.heap.size\/σ' x=0)/\cu w σ' (.ol n es) hh:=by
  have X0:∀(b off cap:Nat)(c:Array Value)(t:TypeId),w.heap[b]? =some (.cells c t (0,0))->σ b<=c.size->(∀e∈es,e.length=aQ)->off+es.length*aQ<=c.size->es.length<=cap->off=0/\cap*aQ<=c.size->
   (∀(i:Nat)(d:D),es.flatten[i]? =some d->∃v,c[off+i]? =some v/\cu w σ d v)->
   dQ w σ w (fun x=>if x=b then c.size+1+n else σ x)/\(∀x,x<w.heap.size\/(fun x=>if x=b then c.size+1+n else σ x) x=0)/\cu w (fun x=>if x=b then c.size+1+n else σ x) (.ol n es) (.slice (some ⟨b,off,none⟩) es.length cap):=by
   intro b off cap c t hb hσ hle hsz hcap hx hcells
   have hn:dQ w σ w (fun x=>if x=b then c.size+1+n else σ x):=by
    intro b1 c1 t1 yV e1;by_cases e:b1=b
    ·subst e;rw[hb] at e1;cases e1;exact⟨by simp only[if_true];omega,fun h=>by omega,c,hb,rfl,fun _ _=>rfl⟩
    ·exact⟨by simp only[if_neg e];exact Nat.le_refl _,fun _=>if_neg e,c1,e1,rfl,fun _ _=>rfl⟩
   refine⟨hn,fun x=> ?_,?_⟩
   ·by_cases e:x=b
    ·left;subst e;exact lt_of_some hb
    ·simp only[if_neg e];exact hR.S.live x
   ·have hfl:=gN es aQ hle;refine .ol n b off cap aQ es (fun i=>(c[off+i]?).getD undef) c t hcap hle hb (by simp) hsz (fun i hi=> ?_) (fun i d hd=> ?_) hx
    ·obtain⟨v,hv,_⟩:=hcells i _ (List.getElem?_eq_getElem (by omega));simp[hv]
    ·obtain⟨v,hv,hr⟩:=hcells i d hd;simp only[hv,Option.getD_some];exact hr.mono hn
  cases row with
  |true=>
   obtain⟨hh,hb,hr⟩:=hR.S.obj (0,j) _ (by rw[aZ];exact hj);obtain⟨hle,ad,cap,rfl,hcap,h4⟩:=hr;rw[aZ] at hb;by_cases h0:cap=0
   ·obtain rfl:es=[]:=List.eq_nil_of_length_eq_zero (by omega);exact⟨_,σ,hb,dQ.refl _ _,fun _ _=>rfl,hR.S.live,.oU _ _ _⟩
   rcases h4 with h4|⟨b,cc,ty,rfl,hbc,hσ,hcz,hcells⟩
   ·exact absurd h4 h0
   have hsz:es.length*aQ<=cc.size:=Nat.le_trans (Nat.mul_le_mul_right _ hcap) hcz;obtain⟨k1,k2,k3⟩:=X0 b 0 cap cc ty hbc (by omega) hle (by omega) hcap ⟨rfl,hcz⟩ (fun i d hd=>by rw[Nat.zero_add];exact hcells i d hd);exact⟨_,_,hb,k1,fun x hx=>if_neg fun e=>hx (by subst e;simp[Jz,owns,blk,h0]),k2,k3⟩
  |false=>
   obtain⟨hh,hb,hr⟩:=hR.S.obj (0,j) _ (by rw[aZ];exact hj);obtain⟨h1,hle,ad,cap,rfl,hcap,hcase⟩:=hr;rw[aZ] at hb;rcases hcase with⟨h4,h5⟩|⟨h4,b,off,c,t,rfl,hbc,hσ,hfit⟩
   ·exact⟨_,σ,hb,dQ.refl _ _,fun _ _=>rfl,hR.S.live,h5⟩
   ·have hm:es.length*aQ<=cap*aQ:=Nat.mul_le_mul_right _ hcap
    obtain⟨k1,k2,k3⟩:=X0 b off cap c t hbc (by omega) hle (by omega) hcap ⟨by omega,by omega⟩ (fun i d hd=>by
     cases h1 with
     |nil=>simp at hd
     |sl b' off' cap' rJ es vals c' t' OQ q1 q2 q3 q4 q5 q6=>
      rw[hbc] at q3;cases q3;have hil:=(List.getElem?_eq_some_iff.1 hd).1;rw[gN es aQ hle] at hil
      have he:rJ=aQ:=by
       cases es with
       |nil=>simp at hil
       |cons y ys=>rw[<-q2 y (by simp),hle y (by simp)]
      subst he
      exact⟨_,q5 i hil,q6 i d hd⟩)
    exact⟨_,_,hb,k1,fun x hx=>if_neg fun e=>hx (by subst e;simp[Jz,owns,blk,h4]),k2,k3⟩
 obtain⟨hh,σ',hb,hn,hch,hlive,hdata⟩:=key
 have:=Po (f:=C.lab row j n es) j hj hb hR hlen hn hch hlive (fun c v hc=>by
  by_cases hm:c=.gQ (0,j)/\row=true
  ·obtain⟨rfl,rfl⟩:=hm;simp only[C.lab,and_self,if_true];obtain⟨o,ho,h2⟩:=hc;rw[aZ,hj] at ho;cases ho;have hv:=h2 _ _ rfl;rw[aZ,hb] at hv;cases hv;exact hdata
  ·by_cases ht:∃es',c=.bK (0,j) es'/\row=false/\es'.length=es.length
   ·obtain⟨es',rfl,rfl,hl⟩:=ht;simp only[C.lab,hl,and_self,if_true];obtain⟨h1,o,ho,h2⟩:=hc;rw[aZ,hj] at ho;cases ho;have hv:=(h2 _ _ (.inr ⟨n,rfl⟩)).2 hl;rw[aZ,hb] at hv;cases hv;exact hdata
   ·have hfr:C.lab row j n es c=c:=by
     cases c with
     |gQ k=>
      obtain⟨l,i⟩:=k
      cases l with
      |zero=>simp only[C.lab];rw[if_neg (fun e=>hm ⟨by rw[e.1],e.2⟩)]
      |succ l=>rfl
     |bK k es'=>
      obtain⟨l,i⟩:=k
      cases l with
      |zero=>simp only[C.lab];rw[if_neg (fun e=>ht ⟨es',by rw[e.1],e.2⟩)]
      |succ l=>rfl
     |_=>rfl
    rw[hfr]
    exact Jy hj hn hc)
 exact⟨σ',_,this.1,this.2,Keep.refl _ _⟩
def JA(j:Nat)(s:St):St:=
 match s.st with
 |own::Ω=>match own[j]? with
  |some (.dN _ es)=>⟨s.tm.map fun x=>(x.1,x.2.mo j es),(own.map (Obj.mo j es)).set j .dead::Ω⟩
  |_=>s
 |[]=>s
def JB:Nat->St->St
 |0,s=>s
 |n+1,s=>JB n (JA n s)
def Ce(s:St):St:=
 match s.st with
 |own::_=>JB own.length s
 |[]=>s
theorem RO(j:Nat)(s:St):fP N s (JA j s):=by
 obtain⟨tm,st⟩:=s
 cases st with
 |nil=>exact fP.refl _ _
 |cons own Ω=>
  unfold JA
  simp only
  split
  ·rename_i z es hj;exact fun a w σ β hR=>aee j z es hj hR
  ·exact fP.refl _ _
theorem G9:∀(n:Nat)(s:St),fP N s (JB n s)
 |0,s=>fP.refl _ _
 |n+1,s=>(RO n s).trans (G9 n _)
theorem vV(s:St):fP N s (Ce s):=by
 unfold Ce;split
 ·exact G9 _ _
 ·exact fP.refl _ _
theorem zQ{c:Code}{Q:Exit->St->Prop}{g:St->St}(hg:∀s,fP N s (g s))(h:AW P N c (fun e s'=>Q e (g s')) s):AW P N c Q s:=by
 intro a w σ β hR;refine wp_mono (h a w σ β hR) ?_;rintro e a' w' ⟨s',σ',β',k1,k2,k3,k4⟩;obtain⟨σ2,β2,r2,st2,kk2⟩:=hg s' a' w' σ' β' k1;exact⟨_,σ2,β2,r2,k2.trans st2,k3.trans kk2,k4⟩
end
section
variable {P:Program} {E:Md} {S S':Store} {N:Nat} {s:St}
def lookO(tm:List (Nat×V))(t:Option Nat):Option V:=t.map (look tm)
theorem Pp{tm:List (Nat×V)}{t:Option Nat}:lookO tm t=t.map (look tm):=rfl
theorem Vh{tm:List (Nat×V)}{t:Nat}:lookO tm (some t)=some (look tm t):=rfl
theorem Vi{tm:List (Nat×V)}:lookO tm none=none:=rfl
def Cg(tm:List (Nat×V))(l:List Operand):List V:=l.map (ev tm)
theorem aef{tm:List (Nat×V)}:Cg tm []=[]:=rfl
theorem aaZ{tm:List (Nat×V)}{x:Operand}{l:List Operand}:Cg tm (x::l)=ev tm x::Cg tm l:=rfl
def Mw(tm:List (Nat×V))(x:Option Operand):Option V:=x.map (ev tm)
theorem aa0{tm:List (Nat×V)}{x:Operand}:Mw tm (some x)=some (ev tm x):=rfl
theorem aa1{tm:List (Nat×V)}:Mw tm none=none:=rfl
def Mx(tm:List (Nat×V))(l:List (Nat×Operand)):List (Nat×V):=l.map fun x=>(x.1,ev tm x.2)
theorem aeg{tm:List (Nat×V)}:Mx tm []=[]:=rfl
theorem aa2{tm:List (Nat×V)}{i:Nat}{x:Operand}{l:List (Nat×Operand)}:Mx tm ((i,x)::l)=(i,ev tm x)::Mx tm l:=rfl
def Split(x:Bool)(A B:St->Prop)(s:St):Prop:=(x=true->A s)/\(x=false->B s)
theorem aD{x:Bool}{A B:St->Prop}(h1:x=true->A s)(h2:x=false->B s):Split x A B s:=⟨h1,h2⟩
theorem Vj{A B:St->Prop}:Split true A B s=A s:=by simp[Split]
theorem RP{A B:St->Prop}:Split false A B s=B s:=by simp[Split]
def Pq(dst:Option Nat)(v:V)(K:St->Prop)(s:St):Prop:=K (s.put dst v)
theorem aeh{dst:Option Nat}{v:V}{K:St->Prop}:Pq dst v K s=K (s.put dst v):=rfl
def Vk(P:Program)(o:Oper)(K:St->Prop)(s:St):Prop:=gy P o s K
def Pt(P:Program)(E:Md)(o:Oper)(K:St->Prop)(s:St):Prop:=fu P E o s K
theorem aa3{o:Oper}{K:St->Prop}:Vk P o K s=gy P o s K:=rfl
theorem X3{o:Oper}{K:St->Prop}:Pt P E o K s=fu P E o s K:=rfl
def zR(dst:Option Nat)(want:Bool)(A K:St->Prop)(s:St):Option V->Prop
 |some (.c (.d (.b x)))=>match want with
  |true=>Split x A (Pq dst (.eU []) K) s
  |false=>Split x (Pq dst (.eU []) K) A s
 |some (.eU [])=>K (s.put dst (.eU []))
 |_=>False
theorem RQ{R:Array Oper}{dst op ty pos after}{K:St->Prop}:sj P R ⟨dst,op,ty,pos,after,none⟩ s K=gy P ⟨dst,op,ty,pos,after,none⟩ s K:=rfl
theorem RS{R:Array Oper}{dst op ty pos after j want}{K:St->Prop}:sj P R ⟨dst,op,ty,pos,after,some (j,want)⟩ s K=
 zR dst want (Vk P ⟨dst,op,ty,pos,after,some (j,want)⟩ K) K s (lookO s.tm (fG R j)):=by
 show sj P R _ s K=_;simp only[sj,<-Pp];generalize lookO s.tm (fG R j)=v
 cases v with
 |none=>rfl
 |some v=>
  cases v with
  |c x=>cases x with
   |d x=>cases x with
    |b x=>cases want<;>simp[zR,Split,Pq,Vk,and_comm]
    |_=>rfl
   |_=>rfl
  |eU l=>cases l<;>rfl
  |_=>rfl
theorem Pv{R:Array Oper}{dst op ty pos after}{K:St->Prop}:nP P E R ⟨dst,op,ty,pos,after,none⟩ s K=fu P E ⟨dst,op,ty,pos,after,none⟩ s K:=rfl
theorem Pw{R:Array Oper}{dst op ty pos after j want}{K:St->Prop}:nP P E R ⟨dst,op,ty,pos,after,some (j,want)⟩ s K=
 zR dst want (Pt P E ⟨dst,op,ty,pos,after,some (j,want)⟩ K) K s (lookO s.tm (fG R j)):=by
 simp only[nP,<-Pp];generalize lookO s.tm (fG R j)=v
 cases v with
 |none=>rfl
 |some v=>
  cases v with
  |c x=>cases x with
   |d x=>cases x with
    |b x=>cases want<;>simp[zR,Split,Pq,Pt,and_comm]
    |_=>rfl
   |_=>rfl
  |eU l=>cases l<;>rfl
  |_=>rfl
@[congr] theorem ahA {R:Array Oper} {os:List Oper} {s s':St} {K:St->Prop} (h2:s=s'):zM P R os s K=zM P R os s' K:=by rw[h2]
@[congr] theorem ahB {R:Array Oper} {os:List Oper} {s s':St} {K:St->Prop} (h2:s=s'):rO P E R os s K=rO P E R os s' K:=by rw[h2]
@[congr] theorem afZ {R:Array Oper} {o:Oper} {s s':St} {K:St->Prop} (h2:s=s'):sj P R o s K=sj P R o s' K:=by rw[h2]
@[congr] theorem afz {R:Array Oper} {o:Oper} {s s':St} {K:St->Prop} (h2:s=s'):nP P E R o s K=nP P E R o s' K:=by rw[h2]
@[congr] theorem af0 {dst:Option Nat} {want:Bool} {A K:St->Prop} {s s':St} {v v':Option V} (h2:s=s') (h3:v=v'):zR dst want A K s v=zR dst want A K s' v':=by rw[h2,h3]
@[congr] theorem ag7 {x x':Bool} {A B:St->Prop} {s s':St} (h:x=x') (h2:s=s'):Split x A B s=Split x' A B s':=by rw[h,h2]
@[congr] theorem ag8 {o:Oper} {s s':St} {K:St->Prop} (h2:s=s'):bQ P o s K=bQ P o s' K:=by rw[h2]
@[congr] theorem ag9 {o:Oper} {s s':St} {K:St->Prop} (h2:s=s'):gy P o s K=gy P o s' K:=by rw[h2]
@[congr] theorem ahC {t:TypeId} {s s':St} {dst:Option Nat} {K:St->Prop} {b b':Bool} {r r':R} (h1:s=s') (h2:b=b') (h3:r=r'):Ez P t s dst K b r=Ez P t s' dst K b' r':=by rw[h1,h2,h3]
@[congr] theorem afA {t u:TypeId} {a a' x x':V} {s s':St} {dst:Option Nat} {K:St->Prop} (h1:a=a') (h3:x=x') (h2:s=s'):zu P t u a x s dst K=zu P t u a' x' s' dst K:=by rw[h1,h2,h3]
@[congr] theorem af2 {t u:TypeId} {k:Key} {x x':V} {s s':St} {dst:Option Nat} {K:St->Prop} (h3:x=x') (h2:s=s'):Ca P t u k x s dst K=Ca P t u k x' s' dst K:=by rw[h2,h3]
@[congr] theorem af3 {o:Oper} {s s':St} {K:St->Prop} (h2:s=s'):fu P E o s K=fu P E o s' K:=by rw[h2]
@[congr] theorem ahD {l l':Option Nat} {es es' x:List (List D)} {z:Nat} {s s':St} {dst:Option Nat} {K:St->Prop} (h1:l=l') (h2:es=es') (h3:s=s'):zL l es s dst z x K=zL l' es' s' dst z x K:=by rw[h1,h2,h3]
@[congr] theorem ahE {b b':Bool} {es es' x:List (List D)} {z:Nat} {s s':St} {dst:Option Nat} {K:St->Prop} (h1:b=b') (h2:es=es') (h3:s=s'):yK b es s dst z x K=yK b' es' s' dst z x K:=by rw[h1,h2,h3]
@[congr] theorem ahF {b b':Bool} {n:Nat} {x:List (List D)} {z:Nat} {s s':St} {dst:Option Nat} {K:St->Prop} (h1:b=b') (h3:s=s'):Bw b n s dst z x K=Bw b' n s' dst z x K:=by rw[h1,h3]
@[congr] theorem af4 {s s':St} {dst:Option Nat} {o o':Obj} {mk:Key->V} {K:St->Prop} (h1:s=s') (h2:o=o'):newObj s dst o mk K=newObj s' dst o' mk K:=by rw[h1,h2]
@[congr] theorem af5 {t:TypeId} {s s':St} {dst:Option Nat} {K:St->Prop} (h1:s=s'):rZ P t s dst K=rZ P t s' dst K:=by rw[h1]
@[congr] theorem ahG {v v':V} {s s':St} {dst:Option Nat} {K:St->Prop} (h1:v=v') (h2:s=s'):zK v s dst K=zK v' s' dst K:=by rw[h1,h2]
@[congr] theorem af6 {t:TypeId} {a a' x x':V} {s s':St} {dst:Option Nat} {K:St->Prop} (h1:a=a') (h3:x=x') (h2:s=s'):r9 P t a x s dst K=r9 P t a' x' s' dst K:=by rw[h1,h2,h3]
@[congr] theorem aha {t:TypeId} {a a' x x':V} {s s':St} {dst:Option Nat} {K:St->Prop} (h1:a=a') (h3:x=x') (h2:s=s'):vL P t a x s dst K=vL P t a' x' s' dst K:=by rw[h1,h2,h3]
@[congr] theorem afB {t u:TypeId} {a a' x x':V} {s s':St} {dst:Option Nat} {K:St->Prop} (h1:a=a') (h3:x=x') (h2:s=s'):pQ P t u a x s dst K=pQ P t u a' x' s' dst K:=by rw[h1,h2,h3]
@[congr] theorem afC {s s':St} {dst:Option Nat} {K:St->Prop} (h2:s=s'):ru s dst K=ru s' dst K:=by rw[h2]
@[congr] theorem afD {t:TypeId} {a a' x x' y y':V} {s s':St} {dst:Option Nat} {K:St->Prop} (h1:a=a') (h3:x=x') (h4:y=y') (h2:s=s'):rz P t a x y s dst K=rz P t a' x' y' s' dst K:=by rw[h1,h2,h3,h4]
@[congr] theorem ahb {f:FuncId} {args args':List V} {s s':St} {dst:Option Nat} {K:St->Prop} (h1:args=args') (h2:s=s'):xB P f args s dst K=xB P f args' s' dst K:=by rw[h1,h2]
@[congr] theorem ahc {c:Call} {s s':St} {dst:Option Nat} {K:St->Prop} (h2:s=s'):mD P c s dst K=mD P c s' dst K:=by rw[h2]
@[congr] theorem ahd {K:St->Prop} {Q:Exit->St->Prop} {e:Exit} {s s':St} (h2:s=s'):jy K Q e s=jy K Q e s':=by rw[h2]
def fO(s:St)(dst:Option Nat)(K:St->Prop)(r:R):Prop:=r.1/\K (s.put dst r.2)
@[congr] theorem ahe {s s':St} {dst:Option Nat} {K:St->Prop} {r r':R} (h1:s=s') (h2:r=r'):fO s dst K r=fO s' dst K r':=by rw[h1,h2]
theorem aa4{dst:Option Nat}{K:St->Prop}{p:Prop}{v:V}:fO s dst K (p,v)=(p/\K (s.put dst v)):=rfl
def zS(caps:List (Key×Nat)):List V:=caps.map fun y=>.c (.ptr y.1 y.2)
def Oe(P:Program)(fv:V)(args:List V)(s:St)(dst:Option Nat)(K:St->Prop):Prop:=
 match fv with
 | .c (.fn f caps)=>xB P f (args++zS caps) s dst K
 |_=>False
def Di(P:Program)(m:Nat)(f:FuncId)(args:List V)(s:St)(dst:Option Nat)(K:St->Prop):Prop:=
 match m with
 |0=>∃r,aJ P f args r/\K (s.put dst r)
 |1=>∃S' v,DS s.st S'/\xB P f args s dst (fun t=>t=St.put ⟨s.tm,S'⟩ dst v)/\K (St.put ⟨s.tm,S'⟩ dst v)
 |_=>∃S' v,xB P f args s dst (fun t=>t=St.put ⟨s.tm,S'⟩ dst v)/\K (St.put ⟨s.tm,S'⟩ dst v)
def xE(P:Program)(m:Nat)(fv:V)(args:List V)(s:St)(dst:Option Nat)(K:St->Prop):Prop:=
 match fv with
 | .c (.fn f caps)=>Di P m f (args++zS caps) s dst K
 |_=>False
@[congr] theorem ahf {fv X4:V} {args args':List V} {s s':St} {dst:Option Nat} {K:St->Prop} (h1:fv=X4) (h3:args=args') (h2:s=s'):Oe P fv args s dst K=Oe P X4 args' s' dst K:=by rw[h1,h2,h3]
@[congr] theorem ahg {m:Nat} {fv X4:V} {args args':List V} {s s':St} {dst:Option Nat} {K:St->Prop} (h1:fv=X4) (h3:args=args') (h2:s=s'):xE P m fv args s dst K=xE P m X4 args' s' dst K:=by rw[h1,h2,h3]
@[congr] theorem ahh {m:Nat} {f:FuncId} {args args':List V} {s s':St} {dst:Option Nat} {K:St->Prop} (h1:args=args') (h2:s=s'):Di P m f args s dst K=Di P m f args' s' dst K:=by rw[h1,h2]
theorem RU{x:Operand}{args:Array Operand}{ts:Array TypeId}{dst:Option Nat}{K:St->Prop}:mD P ⟨.value x,args,ts⟩ s dst K=Oe P (ev s.tm x) (Cg s.tm args.toList) s dst K:=rfl
theorem Px{x y:Operand}{t u:TypeId}{dst:Option Nat}{K:St->Prop}:mD P ⟨.builtin .append,#[x,y],#[t,u]⟩ s dst K=pQ P t u (ev s.tm x) (ev s.tm y) s dst K:=rfl
theorem X5{x:Operand}{t:TypeId}{dst:Option Nat}{K:St->Prop}:mD P ⟨.builtin .len,#[x],#[t]⟩ s dst K=fO s dst K (CS P s.st t (ev s.tm x)):=rfl
theorem X6{x y:Operand}{ts:Array TypeId}{dst:Option Nat}{K:St->Prop}:mD P ⟨.builtin .max,#[x,y],ts⟩ s dst K=fO s dst K (uE true (ev s.tm x) (ev s.tm y)):=rfl
theorem X7{x y:Operand}{ts:Array TypeId}{dst:Option Nat}{K:St->Prop}:mD P ⟨.builtin .min,#[x,y],ts⟩ s dst K=fO s dst K (uE false (ev s.tm x) (ev s.tm y)):=rfl
theorem aa5{x:Operand}{t:TypeId}{tm:List (Nat×V)}:nval P S tm (.call ⟨.builtin .len,#[x],#[t]⟩)=CS P S t (ev tm x):=rfl
def gH(P:Program)(mode:Option Nat)(f:FuncId)(args:List V)(s:St)(dst:Option Nat)(K:St->Prop):Prop:=
 match mode with
 |some m=>Di P m f args s dst K
 |none=>xB P f args s dst K
@[congr] theorem ahi {dr:Option Nat} {f:FuncId} {args args':List V} {s s':St} {dst:Option Nat} {K:St->Prop} (h1:args=args') (h2:s=s'):gH P dr f args s dst K=gH P dr f args' s' dst K:=by rw[h1,h2]
theorem aa6{f:Nat}{caps:List (Key×Nat)}{args:List V}{dst:Option Nat}{K:St->Prop}:Oe P (.c (.fn f caps)) args s dst K=gH P none f (args++zS caps) s dst K:=rfl
theorem aa7{m:Nat}{f:Nat}{caps:List (Key×Nat)}{args:List V}{dst:Option Nat}{K:St->Prop}:xE P m (.c (.fn f caps)) args s dst K=gH P (some m) f (args++zS caps) s dst K:=rfl
theorem aA{dr:Option Nat}{f:FuncId}{args:List V}{dst:Option Nat}{K:St->Prop}{r:V}(h:aJ P f (args.map V.rU) r)(hK:K (s.put dst r)):gH P dr f args s dst K:=by
 cases dr with
 |none=>exact Df h hK
 |some m=>
  match m with
  |0=>exact⟨r,fun S=>(h S).rU,hK⟩
  |1=>exact⟨s.st,r,DS.refl _,Df h rfl,hK⟩
  |m+2=>exact⟨s.st,r,Df h rfl,hK⟩
def adG:Option Nat->Bool
 |none=>true
 |some m=>decide (2<=m)
def ahH:Option Nat->Bool
 |none=>true
 |some m=>decide (1<=m)
theorem aT{dr:Option Nat}{f:FuncId}{args:List V}{dst:Option Nat}{K:St->Prop}{r:V}{S1:Store}(hm:adG dr=true)(h:bJ P f args s.st (fun r' S'=>r'=r/\S'=S1))(hK:K (St.put ⟨s.tm,S1⟩ dst r)):gH P dr f args s dst K:=by
 cases dr with
 |none=>exact .inl ⟨_,h,fun r' S' e=>by rw[e.1,e.2];exact hK⟩
 |some m=>
  match m,hm with
  |0,hm=>cases hm
  |1,hm=>cases hm
  |m+2,_=>exact⟨S1,r,.inl ⟨_,h,fun r' S' e=>by rw[e.1,e.2]⟩,hK⟩
theorem af7{dr:Option Nat}{f:FuncId}{args:List V}{dst:Option Nat}{K:St->Prop}{r:V}{S1:Store}(hm:ahH dr=true)(hd:DS s.st S1)(h:bJ P f args s.st (fun r' S'=>r'=r/\S'=S1))(hK:K (St.put ⟨s.tm,S1⟩ dst r)):gH P dr f args s dst K:=by
 cases dr with
 |none=>exact .inl ⟨_,h,fun r' S' e=>by rw[e.1,e.2];exact hK⟩
 |some m=>
  match m,hm with
  |0,hm=>cases hm
  |1,_=>exact⟨S1,r,hd,.inl ⟨_,h,fun r' S' e=>by rw[e.1,e.2]⟩,hK⟩
  |m+2,_=>exact⟨S1,r,.inl ⟨_,h,fun r' S' e=>by rw[e.1,e.2]⟩,hK⟩
theorem af8{f:FuncId}{args:List V}{dst:Option Nat}{K:St->Prop}{r:V}(h:U1 P f args r)(hK:K (St.put s dst r)):gH P none f args s dst K:=.inr ⟨r,h,hK⟩
def Gg(P:Program)(R:Array Oper)(os:List Oper)(K:St->Prop)(s:St):Prop:=zM P R os s K
def Gh(P:Program)(E:Md)(R:Array Oper)(os:List Oper)(K:St->Prop)(s:St):Prop:=rO P E R os s K
@[congr] theorem ahj {R:Array Oper} {os:List Oper} {s s':St} {K:St->Prop} (h2:s=s'):Gg P R os K s=Gg P R os K s':=by rw[h2]
@[congr] theorem ahk {R:Array Oper} {os:List Oper} {s s':St} {K:St->Prop} (h2:s=s'):Gh P E R os K s=Gh P E R os K s':=by rw[h2]
section
variable {tm:List (Nat×V)} {R:Array Oper} {o:Oper} {os:List Oper} {K:St->Prop}
theorem aa8:zM P R [] ⟨tm,S⟩ K=K ⟨tm,S⟩:=rfl
theorem X8:zM P R (o::os) ⟨tm,S⟩ K=sj P R o ⟨tm,S⟩ (Gg P R os K):=rfl
theorem X9:Gg P R [] K ⟨tm,S⟩=K ⟨tm,S⟩:=rfl
theorem Vl:Gg P R (o::os) K ⟨tm,S⟩=sj P R o ⟨tm,S⟩ (Gg P R os K):=rfl
theorem aa9:rO P E R [] ⟨tm,S⟩ K=K ⟨tm,S⟩:=rfl
theorem Ya:rO P E R (o::os) ⟨tm,S⟩ K=nP P E R o ⟨tm,S⟩ (Gh P E R os K):=rfl
theorem Yb:Gh P E R [] K ⟨tm,S⟩=K ⟨tm,S⟩:=rfl
theorem Vm:Gh P E R (o::os) K ⟨tm,S⟩=nP P E R o ⟨tm,S⟩ (Gh P E R os K):=rfl
end
section
variable {dst:Option Nat} {ty:TypeId} {pos:String} {after:Array Edge} {g:Option (Nat×Bool)} {K:St->Prop}
theorem RV{t:TypeId}:gy P ⟨dst,.alloc t,ty,pos,after,g⟩ s K=bQ P ⟨dst,.alloc t,ty,pos,after,g⟩ s K:=rfl
theorem Yc{t:TypeId}{x:Operand}:gy P ⟨dst,.box t x,ty,pos,after,g⟩ s K=bQ P ⟨dst,.box t x,ty,pos,after,g⟩ s K:=rfl
theorem RX{t:TypeId}{a x:Operand}:gy P ⟨dst,.store t a x,ty,pos,after,g⟩ s K=bQ P ⟨dst,.store t a x,ty,pos,after,g⟩ s K:=rfl
theorem Vn{t:TypeId}{a x:Operand}:gy P ⟨dst,.makeSlice t a x,ty,pos,after,g⟩ s K=bQ P ⟨dst,.makeSlice t a x,ty,pos,after,g⟩ s K:=rfl
theorem NC{t:TypeId}{r:Option Operand}:gy P ⟨dst,.makeMap t r,ty,pos,after,g⟩ s K=bQ P ⟨dst,.makeMap t r,ty,pos,after,g⟩ s K:=rfl
theorem JC{t:TypeId}{x k v:Operand}:gy P ⟨dst,.mapUpdate t x k v,ty,pos,after,g⟩ s K=bQ P ⟨dst,.mapUpdate t x k v,ty,pos,after,g⟩ s K:=rfl
theorem Py{t:TypeId}{x i:Operand}{b:Bool}:gy P ⟨dst,.lookup t x i b,ty,pos,after,g⟩ s K=bQ P ⟨dst,.lookup t x i b,ty,pos,after,g⟩ s K:=rfl
theorem Vo{x:Operand}{as:Array Operand}{ts:Array TypeId}:gy P ⟨dst,.call ⟨.value x,as,ts⟩,ty,pos,after,g⟩ s K=bQ P ⟨dst,.call ⟨.value x,as,ts⟩,ty,pos,after,g⟩ s K:=rfl
theorem Yd{as:Array Operand}{ts:Array TypeId}:gy P ⟨dst,.call ⟨.builtin .len,as,ts⟩,ty,pos,after,g⟩ s K=bQ P ⟨dst,.call ⟨.builtin .len,as,ts⟩,ty,pos,after,g⟩ s K:=rfl
theorem Ye{as:Array Operand}{ts:Array TypeId}:gy P ⟨dst,.call ⟨.builtin .max,as,ts⟩,ty,pos,after,g⟩ s K=bQ P ⟨dst,.call ⟨.builtin .max,as,ts⟩,ty,pos,after,g⟩ s K:=rfl
theorem Yf{as:Array Operand}{ts:Array TypeId}:gy P ⟨dst,.call ⟨.builtin .min,as,ts⟩,ty,pos,after,g⟩ s K=bQ P ⟨dst,.call ⟨.builtin .min,as,ts⟩,ty,pos,after,g⟩ s K:=rfl
theorem Vp{x:Operand}:gy P ⟨dst,.move x,ty,pos,after,g⟩ s K=bQ P ⟨dst,.move x,ty,pos,after,g⟩ s K:=rfl
theorem Pz{x:Operand}:gy P ⟨dst,.assign x,ty,pos,after,g⟩ s K=bQ P ⟨dst,.assign x,ty,pos,after,g⟩ s K:=rfl
theorem Vq{c a b:Operand}:gy P ⟨dst,.pick c a b,ty,pos,after,g⟩ s K=bQ P ⟨dst,.pick c a b,ty,pos,after,g⟩ s K:=rfl
theorem Vr{t:TypeId}{a:Operand}:gy P ⟨dst,.load t a,ty,pos,after,g⟩ s K=bQ P ⟨dst,.load t a,ty,pos,after,g⟩ s K:=rfl
theorem JD{t:TypeId}{x:Operand}{f:Nat}:gy P ⟨dst,.fieldAddr t x f,ty,pos,after,g⟩ s K=bQ P ⟨dst,.fieldAddr t x f,ty,pos,after,g⟩ s K:=rfl
theorem RY{t:TypeId}{x:Operand}{f:Nat}:gy P ⟨dst,.field t x f,ty,pos,after,g⟩ s K=bQ P ⟨dst,.field t x f,ty,pos,after,g⟩ s K:=rfl
theorem JE{t:TypeId}{x i:Operand}:gy P ⟨dst,.indexAddr t x i,ty,pos,after,g⟩ s K=bQ P ⟨dst,.indexAddr t x i,ty,pos,after,g⟩ s K:=rfl
theorem RZ{t:TypeId}{x i:Operand}:gy P ⟨dst,.index t x i,ty,pos,after,g⟩ s K=bQ P ⟨dst,.index t x i,ty,pos,after,g⟩ s K:=rfl
theorem R3{op:BinOp}{t u:TypeId}{x y:Operand}:gy P ⟨dst,.binOp op t x y u,ty,pos,after,g⟩ s K=bQ P ⟨dst,.binOp op t x y u,ty,pos,after,g⟩ s K:=rfl
theorem Vs{op:UnOp}{t:TypeId}{x:Operand}:gy P ⟨dst,.unOp op t x,ty,pos,after,g⟩ s K=bQ P ⟨dst,.unOp op t x,ty,pos,after,g⟩ s K:=rfl
theorem ND{a b:TypeId}{x:Operand}:gy P ⟨dst,.convert a b x,ty,pos,after,g⟩ s K=bQ P ⟨dst,.convert a b x,ty,pos,after,g⟩ s K:=rfl
theorem NG{x:Operand}{i:Nat}:gy P ⟨dst,.extract x i,ty,pos,after,g⟩ s K=bQ P ⟨dst,.extract x i,ty,pos,after,g⟩ s K:=rfl
theorem Ll{fn:Fn}{a b:Array Operand}:gy P ⟨dst,.makeFunc fn a b,ty,pos,after,g⟩ s K=bQ P ⟨dst,.makeFunc fn a b,ty,pos,after,g⟩ s K:=rfl
theorem Lm{x:Operand}:gy P ⟨dst,.nilCheck x,ty,pos,after,g⟩ s K=bQ P ⟨dst,.nilCheck x,ty,pos,after,g⟩ s K:=rfl
theorem R4{t:TypeId}{x:Operand}{lo hi mx:Option Operand}:gy P ⟨dst,.slice t x lo hi mx,ty,pos,after,g⟩ s K=bQ P ⟨dst,.slice t x lo hi mx,ty,pos,after,g⟩ s K:=rfl
theorem R5{t:TypeId}{parts:Array (Nat×Operand)}:gy P ⟨dst,.build t parts,ty,pos,after,g⟩ s K=bQ P ⟨dst,.build t parts,ty,pos,after,g⟩ s K:=rfl
theorem PD{x y:Operand}{t u:TypeId}:gy P ⟨dst,.call ⟨.builtin .append,#[x,y],#[t,u]⟩,ty,pos,after,g⟩ s K=zu P t u (ev s.tm x) (ev s.tm y) s dst K:=rfl
theorem Im{t:TypeId}{n:Nat}{parts:Array (Nat×Operand)}:gy P ⟨dst,.buildSlice t n parts,ty,pos,after,g⟩ s K=Ez P t s dst K (U5 s.st t) (kV P (nS s.st) t n (Mx s.tm parts.toList)):=rfl
theorem Vt{t:TypeId}:bQ P ⟨dst,.alloc t,ty,pos,after,g⟩ s K=rZ P t s dst K:=rfl
theorem abb{t:TypeId}{x:Operand}:bQ P ⟨dst,.box t x,ty,pos,after,g⟩ s K=zK (ev s.tm x) s dst K:=rfl
theorem Vu{t:TypeId}{a x:Operand}:bQ P ⟨dst,.store t a x,ty,pos,after,g⟩ s K=r9 P t (ev s.tm a) (ev s.tm x) s dst K:=rfl
theorem Yg{t:TypeId}{a x:Operand}:bQ P ⟨dst,.makeSlice t a x,ty,pos,after,g⟩ s K=vL P t (ev s.tm a) (ev s.tm x) s dst K:=rfl
theorem PE{t:TypeId}:bQ P ⟨dst,.makeMap t none,ty,pos,after,g⟩ s K=ru s dst K:=rfl
theorem Lp{t:TypeId}{x k v:Operand}:bQ P ⟨dst,.mapUpdate t x k v,ty,pos,after,g⟩ s K=rz P t (ev s.tm x) (ev s.tm k) (ev s.tm v) s dst K:=rfl
theorem R6{t:TypeId}{x i:Operand}:bQ P ⟨dst,.lookup t x i false,ty,pos,after,g⟩ s K=fO s dst K (wO P s.st t (ev s.tm x) (ev s.tm i)):=rfl
theorem NH{t:TypeId}:fu P E ⟨dst,.makeMap t none,ty,pos,after,g⟩ s K=ru s dst K:=rfl
theorem JF{t:TypeId}{x k v:Operand}:fu P E ⟨dst,.mapUpdate t x k v,ty,pos,after,g⟩ s K=rz P t (ev s.tm x) (ev s.tm k) (ev s.tm v) s dst K:=rfl
theorem PG{t:TypeId}{x i:Operand}:fu P E ⟨dst,.lookup t x i false,ty,pos,after,g⟩ s K=fO s dst K (wO P s.st t (ev s.tm x) (ev s.tm i)):=rfl
theorem Yh{c:Call}:bQ P ⟨dst,.call c,ty,pos,after,g⟩ s K=mD P c s dst K:=rfl
theorem Yi{x:Operand}:bQ P ⟨dst,.move x,ty,pos,after,g⟩ s K=K (s.put dst (ev s.tm x)):=by simp[bQ,nval,mq]
theorem R7{x:Operand}:bQ P ⟨dst,.assign x,ty,pos,after,g⟩ s K=K (s.put dst (ev s.tm x)):=by simp[bQ,nval,mq]
theorem Yj{c a b:Operand}:bQ P ⟨dst,.pick c a b,ty,pos,after,g⟩ s K=fO s dst K (F3 (ev s.tm c) (ev s.tm a) (ev s.tm b)):=rfl
theorem Yk{t:TypeId}{a:Operand}:bQ P ⟨dst,.load t a,ty,pos,after,g⟩ s K=fO s dst K (y7 P s.st t (ev s.tm a)):=rfl
theorem Lr{t:TypeId}{x:Operand}{f:Nat}:bQ P ⟨dst,.fieldAddr t x f,ty,pos,after,g⟩ s K=fO s dst K (qB P s.st t (ev s.tm x) f):=rfl
theorem Vv{t:TypeId}{x:Operand}{f:Nat}:bQ P ⟨dst,.field t x f,ty,pos,after,g⟩ s K=fO s dst K (BR P t (ev s.tm x) f):=rfl
theorem Ls{t:TypeId}{x i:Operand}:bQ P ⟨dst,.indexAddr t x i,ty,pos,after,g⟩ s K=fO s dst K (qC P s.st t (ev s.tm x) (ev s.tm i)):=rfl
theorem Vw{t:TypeId}{x i:Operand}:bQ P ⟨dst,.index t x i,ty,pos,after,g⟩ s K=fO s dst K (BS P t (ev s.tm x) (ev s.tm i)):=rfl
theorem Vx{op:BinOp}{t u:TypeId}{x y:Operand}:bQ P ⟨dst,.binOp op t x y u,ty,pos,after,g⟩ s K=fO s dst K (K9 P op t (ev s.tm x) (ev s.tm y)):=rfl
theorem Yl{op:UnOp}{t:TypeId}{x:Operand}:bQ P ⟨dst,.unOp op t x,ty,pos,after,g⟩ s K=fO s dst K (TB op (ev s.tm x)):=rfl
theorem PI{a b:TypeId}{x:Operand}:bQ P ⟨dst,.convert a b x,ty,pos,after,g⟩ s K=fO s dst K (F5 P a b (ev s.tm x)):=rfl
theorem PK{x:Operand}{i:Nat}:bQ P ⟨dst,.extract x i,ty,pos,after,g⟩ s K=fO s dst K (wN (ev s.tm x) i):=rfl
theorem NI{fn:Fn}{a b:Array Operand}:bQ P ⟨dst,.makeFunc fn a b,ty,pos,after,g⟩ s K=fO s dst K (uN fn (Cg s.tm a.toList) (Cg s.tm b.toList)):=rfl
theorem NJ{x:Operand}:bQ P ⟨dst,.nilCheck x,ty,pos,after,g⟩ s K=fO s dst K (uO s.st (ev s.tm x)):=rfl
theorem Vy{t:TypeId}{x:Operand}{lo hi mx:Option Operand}:bQ P ⟨dst,.slice t x lo hi mx,ty,pos,after,g⟩ s K=fO s dst K (BU P t (ev s.tm x) (Mw s.tm lo) (Mw s.tm hi) (Mw s.tm mx)):=rfl
theorem Vz{t:TypeId}{parts:Array (Nat×Operand)}:bQ P ⟨dst,.build t parts,ty,pos,after,g⟩ s K=fO s dst K (BX P t (Mx s.tm parts.toList)):=rfl
theorem JG{t:TypeId}{n:Nat}{parts:Array (Nat×Operand)}:bQ P ⟨dst,.buildSlice t n parts,ty,pos,after,g⟩ s K=fO s dst K (kV P (nS s.st) t n (Mx s.tm parts.toList)):=rfl
theorem R8{t:TypeId}:fu P E ⟨dst,.alloc t,ty,pos,after,g⟩ s K=rZ P t s dst K:=rfl
theorem Ym{t:TypeId}{x:Operand}:fu P E ⟨dst,.box t x,ty,pos,after,g⟩ s K=zK (ev s.tm x) s dst K:=rfl
theorem R9{t:TypeId}{a x:Operand}:fu P E ⟨dst,.store t a x,ty,pos,after,g⟩ s K=r9 P t (ev s.tm a) (ev s.tm x) s dst K:=rfl
theorem VA{t:TypeId}{a x:Operand}:fu P E ⟨dst,.makeSlice t a x,ty,pos,after,g⟩ s K=vL P t (ev s.tm a) (ev s.tm x) s dst K:=rfl
theorem PL{args:Array Operand}{ts:Array TypeId}:fu P E ⟨dst,.call ⟨.builtin .append,args,ts⟩,ty,pos,after,g⟩ s K=mD P ⟨.builtin .append,args,ts⟩ s dst K:=rfl
theorem VB{x:Operand}:fu P E ⟨dst,.move x,ty,pos,after,g⟩ s K=K (s.put dst (ev s.tm x)):=by simp[fu,pR,nval,mq]
theorem PN{x:Operand}:fu P E ⟨dst,.assign x,ty,pos,after,g⟩ s K=K (s.put dst (ev s.tm x)):=by simp[fu,pR,nval,mq]
theorem VD{c a b:Operand}:fu P E ⟨dst,.pick c a b,ty,pos,after,g⟩ s K=fO s dst K (F3 (ev s.tm c) (ev s.tm a) (ev s.tm b)):=rfl
theorem VE{t:TypeId}{a:Operand}:fu P E ⟨dst,.load t a,ty,pos,after,g⟩ s K=fO s dst K (y7 P s.st t (ev s.tm a)):=rfl
theorem JH{t:TypeId}{x:Operand}{f:Nat}:fu P E ⟨dst,.fieldAddr t x f,ty,pos,after,g⟩ s K=fO s dst K (qB P s.st t (ev s.tm x) f):=rfl
theorem Sb{t:TypeId}{x:Operand}{f:Nat}:fu P E ⟨dst,.field t x f,ty,pos,after,g⟩ s K=fO s dst K (BR P t (ev s.tm x) f):=rfl
theorem JI{t:TypeId}{x i:Operand}:fu P E ⟨dst,.indexAddr t x i,ty,pos,after,g⟩ s K=fO s dst K (qC P s.st t (ev s.tm x) (ev s.tm i)):=rfl
theorem Sc{t:TypeId}{x i:Operand}:fu P E ⟨dst,.index t x i,ty,pos,after,g⟩ s K=fO s dst K (BS P t (ev s.tm x) (ev s.tm i)):=rfl
theorem Sd{op:BinOp}{t u:TypeId}{x y:Operand}:fu P E ⟨dst,.binOp op t x y u,ty,pos,after,g⟩ s K=fO s dst K (K9 P op t (ev s.tm x) (ev s.tm y)):=rfl
theorem VF{op:UnOp}{t:TypeId}{x:Operand}:fu P E ⟨dst,.unOp op t x,ty,pos,after,g⟩ s K=fO s dst K (TB op (ev s.tm x)):=rfl
theorem NK{a b:TypeId}{x:Operand}:fu P E ⟨dst,.convert a b x,ty,pos,after,g⟩ s K=fO s dst K (F5 P a b (ev s.tm x)):=rfl
theorem NM{x:Operand}{i:Nat}:fu P E ⟨dst,.extract x i,ty,pos,after,g⟩ s K=fO s dst K (wN (ev s.tm x) i):=rfl
theorem Lu{fn:Fn}{a b:Array Operand}:fu P E ⟨dst,.makeFunc fn a b,ty,pos,after,g⟩ s K=fO s dst K (uN fn (Cg s.tm a.toList) (Cg s.tm b.toList)):=rfl
theorem Lv{x:Operand}:fu P E ⟨dst,.nilCheck x,ty,pos,after,g⟩ s K=fO s dst K (uO s.st (ev s.tm x)):=rfl
theorem Sg{t:TypeId}{x:Operand}{lo hi mx:Option Operand}:fu P E ⟨dst,.slice t x lo hi mx,ty,pos,after,g⟩ s K=fO s dst K (BU P t (ev s.tm x) (Mw s.tm lo) (Mw s.tm hi) (Mw s.tm mx)):=rfl
theorem Si{t:TypeId}{parts:Array (Nat×Operand)}:fu P E ⟨dst,.build t parts,ty,pos,after,g⟩ s K=fO s dst K (BX P t (Mx s.tm parts.toList)):=rfl
theorem Io{t:TypeId}{n:Nat}{parts:Array (Nat×Operand)}:fu P E ⟨dst,.buildSlice t n parts,ty,pos,after,g⟩ s K=fO s dst K (kV P (nS s.st) t n (Mx s.tm parts.toList)):=rfl
theorem Yn{args:Array Operand}{ts:Array TypeId}:fu P E ⟨dst,.call ⟨.builtin .len,args,ts⟩,ty,pos,after,g⟩ s K=fO s dst K (nval P s.st s.tm (.call ⟨.builtin .len,args,ts⟩)):=rfl
theorem Yo{x y:Operand}{ts:Array TypeId}:fu P E ⟨dst,.call ⟨.builtin .max,#[x,y],ts⟩,ty,pos,after,g⟩ s K=fO s dst K (uE true (ev s.tm x) (ev s.tm y)):=rfl
theorem Yp{x y:Operand}{ts:Array TypeId}:fu P E ⟨dst,.call ⟨.builtin .min,#[x,y],ts⟩,ty,pos,after,g⟩ s K=fO s dst K (uE false (ev s.tm x) (ev s.tm y)):=rfl
theorem VG{x:Operand}{args:Array Operand}{ts:Array TypeId}:fu P E ⟨dst,.call ⟨.value x,args,ts⟩,ty,pos,after,g⟩ s K=xE P (E (.call ⟨.value x,args,ts⟩)) (ev s.tm x) (Cg s.tm args.toList) s dst K:=by
 simp only[fu,pR];generalize E (.call ⟨.value x,args,ts⟩)=m
 match m with
 |0=>
  simp only[C8];generalize ev s.tm x=fv
  cases fv with
  |c x=>cases x<;>simp[xE,Di,zS,Cg]
  |_=>simp[xE]
 |1=>
  simp only[bQ,mD];generalize ev s.tm x=fv
  cases fv with
  |c x=>cases x<;>simp[xE,Di,zS,Cg]
  |_=>simp[xE]
 |m+2=>
  simp only[bQ,mD];generalize ev s.tm x=fv
  cases fv with
  |c x=>cases x<;>simp[xE,Di,zS,Cg]
  |_=>simp[xE]
end
def zf(v:V)(A B:St->Prop)(s:St):Prop:=
 match v with
 | .c (.d (.b x))=>Split x A B s
 |_=>False
def CW(P:Program)(N:Nat):Code->(Exit->St->Prop)->St->Prop
 | .seq x y,Q,s=>CW P N x (jy (CW P N y Q) Q) s
 | .region _ R false,Q,s=>zM P R R.toList s (Q .normal)
 | .region _ R true,Q,s=>rO P (Js R N) R R.toList s (Q .normal)
 | .cond c x y,Q,s=>zf (ev s.tm c) (CW P N x Q) (CW P N y Q) s
 | .block id c,Q,s=>CW P N c (vQ id Q) s
 | .exit id,Q,s=>Q (.exit id) s
 | .ret,Q,s=>Q .ret s
 | .skip,Q,s=>Q .normal s
 | .loop c,Q,s=>AW P N (.loop c) Q s
 |_,_,_=>False
def ahI(N:Nat)(R:Array Oper):Bool:=R.toList.all (fun o=>match o.dst with|some d=>decide (d<N)|none=>true)
def codeOk(N:Nat):Code->Bool
 | .seq x y=>codeOk N x&&codeOk N y
 | .region _ R false=>ahI N R
 | .region _ R true=>Li R N
 | .cond _ x y=>codeOk N x&&codeOk N y
 | .block _ c=>codeOk N c
 | .loop c=>codeOk N c
 |_=>true
theorem iY(fA:P.follows .mixedOrders=true):∀(c:Code)(Q:Exit->St->Prop)(s:St),codeOk N c=true->CW P N c Q s->AW P N c Q s
 | .seq x y,Q,s,ok,h=>by
   simp only[codeOk,Bool.and_eq_true] at ok;refine EA (AW.mono (iY fA x _ s ok.1 h) fun e s' h'=> ?_)
   cases e with
   |normal=>exact iY fA y Q s' ok.2 h'
   |_=>exact h'
 | .region _ R false,Q,s,ok,h=>XP ok h
 | .region _ R true,Q,s,ok,h=>Ve fA ok h
 | .cond c x y,Q,s,ok,h=>by
   simp only[codeOk,Bool.and_eq_true] at ok;simp only[CW,zf] at h;split at h
   ·rename_i b hb;exact F9 hb (fun e=>iY fA x Q s ok.1 (h.1 e)) (fun e=>iY fA y Q s ok.2 (h.2 e))
   ·exact h.elim
 | .block id c,Q,s,ok,h=>Ih (iY fA c _ s ok h)
 | .exit id,Q,s,ok,h=>ad3 h
 | .ret,Q,s,ok,h=>afO h
 | .skip,Q,s,ok,h=>ad2 h
 | .loop c,Q,s,ok,h=>h
 | .rangeFunc _ _ _ _,Q,s,ok,h=>h.elim
 | .scope _,Q,s,ok,h=>h.elim
 | .label _,Q,s,ok,h=>h.elim
 | .goto _,Q,s,ok,h=>h.elim
 | .refuse _,Q,s,ok,h=>h.elim
theorem af9{x y:Code}{Q:Exit->St->Prop}:CW P N (.seq x y) Q s=CW P N x (jy (CW P N y Q) Q) s:=by rw[CW]
theorem Yq{id:Nat}{l:List Oper}{Q:Exit->St->Prop}:CW P N (.region id ⟨l⟩ false) Q s=zM P ⟨l⟩ l s (Q .normal):=by rw[CW]
theorem aei{id:Nat}{l:List Oper}{Q:Exit->St->Prop}:CW P N (.region id ⟨l⟩ true) Q s=rO P (Js ⟨l⟩ N) ⟨l⟩ l s (Q .normal):=by rw[CW]
theorem aej{c:Operand}{x y:Code}{Q:Exit->St->Prop}:CW P N (.cond c x y) Q s=zf (ev s.tm c) (CW P N x Q) (CW P N y Q) s:=by rw[CW]
theorem abd{id:Nat}{c:Code}{Q:Exit->St->Prop}:CW P N (.block id c) Q s=CW P N c (vQ id Q) s:=by rw[CW]
theorem aek{id:Nat}{Q:Exit->St->Prop}:CW P N (.exit id) Q s=Q (.exit id) s:=by rw[CW]
theorem aga{Q:Exit->St->Prop}:CW P N .ret Q s=Q .ret s:=by rw[CW]
theorem ael{Q:Exit->St->Prop}:CW P N .skip Q s=Q .normal s:=by rw[CW]
theorem TN{c:Code}{Q:Exit->St->Prop}:CW P N (.loop c) Q s=AW P N (.loop c) Q s:=by rw[CW]
theorem PO{K:St->Prop}{Q:Exit->St->Prop}:jy K Q .normal s=K s:=rfl
theorem Yr{K:St->Prop}{Q:Exit->St->Prop}:jy K Q .ret s=Q .ret s:=rfl
theorem VH{K:St->Prop}{Q:Exit->St->Prop}{i:Nat}:jy K Q (.exit i) s=Q (.exit i) s:=rfl
theorem PS{id:Nat}{Q:Exit->St->Prop}:vQ id Q .normal s=Q .normal s:=rfl
theorem Yt{id:Nat}{Q:Exit->St->Prop}:vQ id Q .ret s=Q .ret s:=rfl
theorem VI{id i:Nat}{Q:Exit->St->Prop}:vQ id Q (.exit i) s=if i=id then Q .normal s else Q (.exit i) s:=rfl
def abe(post:V->Store->Prop)(s:St)(r:R):Prop:=r.1/\match r.2.ret with
 |some v=>post v (fH s.st)
 |none=>False
theorem aem{post:V->Store->Prop}{p:Prop}{v:V}:abe post s (p,v)=(p/\match v.ret with
 |some v=>post v (fH s.st)
 |none=>False):=rfl
def Lx(P:Program)(rs:List ResultVar)(post:V->Store->Prop)(e:Exit)(s:St):Prop:=aax P rs post e (Ce s)
def PU(P:Program)(rs:List ResultVar)(post:V->Store->Prop)(s:St):Prop:=abe post s (nE P rs s)
theorem abf{rs:List ResultVar}{post:V->Store->Prop}:Lx P rs post .ret s=PU P rs post (Ce s):=rfl
theorem Sj{rs:List ResultVar}{post:V->Store->Prop}:Lx P rs post .normal s=PU P rs post (Ce s):=rfl
theorem aen{rs:List ResultVar}{post:V->Store->Prop}{tm:List (Nat×V)}:PU P rs post ⟨tm,S⟩=abe post ⟨tm,S⟩ (nE P rs ⟨tm,S⟩):=rfl
def agb(j:Nat)(es:List (List D))(tm:List (Nat×V)):List (Nat×V):=tm.map fun x=>(x.1,x.2.mo j es)
theorem Yu{j:Nat}{es:List (List D)}{tm:List (Nat×V)}{t:Nat}:look (agb j es tm) t=(look tm t).mo j es:=Dh (f:=V.mo j es) rfl tm t
def agc(j:Nat)(tm:List (Nat×V))(own:List Obj)(Ω:Store):Option Obj->St
 |some (.dN _ es)=>⟨agb j es tm,(own.map (Obj.mo j es)).set j .dead::Ω⟩
 |_=>⟨tm,own::Ω⟩
theorem abg{j:Nat}{tm:List (Nat×V)}{own:List Obj}{Ω:Store}:JA j ⟨tm,own::Ω⟩=agc j tm own Ω (own[j]?):=by
 unfold JA
 simp only
 generalize own[j]? =o
 cases o with
 |none=>rfl
 |some o=>cases o<;>rfl
theorem Yv{tm:List (Nat×V)}{own:List Obj}{Ω:Store}:Ce ⟨tm,own::Ω⟩=JB own.length ⟨tm,own::Ω⟩:=rfl
theorem aG{f:FuncId}{fn:Func}{c:Code}{args:List V}{post:V->Store->Prop}{rs:List ResultVar}(fA:P.follows .mixedOrders=true)(hf:P.funcs[f]? =some fn)(hN:fn.ntmps=N)
 (hb:fn.body=some c) (hn:(fn.name== "runtime.NumGoroutine")=false) (hr:fn.results.toList=rs) (hl:Nat.ble args.length N=true) (hok:codeOk N c=true)
 (h:CW P N c (Lx P rs post) ⟨jZ (args.map (V.up 1)) 0,[]::S⟩):bJ P f args S post:=by
 subst hN;subst hr;exact oW hf hb hn (Nat.le_of_ble_eq_true hl) (zQ vV (iY fA c _ _ hok h))
end
theorem TP(n:Int)(h: -9223372036854775808<=n/\n<=9223372036854775807):IntKind.i64.wrap n=n:=IntWalk.i64_in n h
theorem wrap_u8(n:Int)(h:0<=n/\n<=255):IntKind.u8.wrap n=n:=IntWalk.u8_in n h
theorem getD_map{α β:Type}(f:α->β)(l:List α)(i:Nat)(d:β)(h:i<l.length):(l.map f).getD i d=f l[i]:=by
 simp[List.getD,h]
theorem VJ{k:IntKind}{n:Int}:zD (.int k n)=.c (.d (.i k n)):=rfl
theorem Sk{b:Bool}:zD (.bool b)=.c (.d (.b b)):=rfl
theorem VK{l:List UInt8}:zD (.string ⟨⟨l⟩⟩)=.c (.d (.s l)):=rfl
theorem Sl:zD (.slice none 0 0)=.c (.bE []):=rfl
theorem abh{tm:List (Nat×V)}{S:Store}{d:Nat}{v:V}:St.put ⟨tm,S⟩ (some d) v=⟨(d,v)::tm,S⟩:=rfl
theorem abj{tm:List (Nat×V)}{S:Store}{v:V}:St.put ⟨tm,S⟩ none v=⟨tm,S⟩:=rfl
theorem agd{a b:V}:F3 (.c (.d (.b true))) a b=(True,a):=rfl
theorem agf{a b:V}:F3 (.c (.d (.b false))) a b=(True,b):=rfl
theorem Sm{tm:List (Nat×V)}{own:List Obj}{Ω:Store}{dst:Option Nat}{o:Obj}{mk:Key->V}{K:St->Prop}:
 newObj ⟨tm,own::Ω⟩ dst o mk K=K (St.put ⟨tm,(own++[o])::Ω⟩ dst (mk (0,own.length))):=rfl
theorem agh{x:C}{s:St}{dst:Option Nat}{K:St->Prop}:zK (.c x) s dst K=newObj s dst (.box [x]) (fun k=>.c (.ptr k 0)) K:=rfl
theorem abk{x:List C}{s:St}{dst:Option Nat}{K:St->Prop}:zK (.agg x) s dst K=newObj s dst (.box x) (fun k=>.c (.ptr k 0)) K:=rfl
theorem abl{α β:Type}{f:α->Option β}:([]:List α).mapM f=some []:=by simp
theorem Yw{α β:Type}{f:α->Option β}{x:α}{xs:List α}:(x::xs).mapM f=(f x).bind fun y=>(xs.mapM f).bind fun ys=>some (y::ys):=by
 rw[List.mapM_cons];rfl
theorem ahJ{c:C}:C.down 0 c=some c:=by cases c<;>simp[C.down]
theorem abm{n m j:Nat}{es:List (List D)}:C.down n (.bK (n+m,j) es)=some (.bK (m,j) es):=by simp[C.down]
theorem Yx{n j:Nat}{es:List (List D)}:C.down n (.bK (n,j) es)=some (.bK (0,j) es):=by simp[C.down]
theorem agi{n:Nat}{x:D}:C.down n (.d x)=some (.d x):=rfl
theorem abn{n:Nat}:C.down n .any=some .any:=rfl
theorem abo{n:Nat}{es:List (List D)}:C.down n (.bE es)=some (.bE es):=rfl
theorem abp{n m j off:Nat}:C.down n (.ptr (n+m,j) off)=some (.ptr (m,j) off):=by simp[C.down]
theorem Yy{n j off:Nat}:C.down n (.ptr (n,j) off)=some (.ptr (0,j) off):=by simp[C.down]
theorem abq{n m:Nat}{es:List (List D)}:C.down n (.jw m es)=some (.jw m es):=rfl
theorem abr{Ω:Store}:nS ([]::Ω)=none:=rfl
theorem abt{cs:List C}{own:List Obj}{Ω:Store}:nS ((.box cs::own)::Ω)=none:=rfl
theorem abu{z:Nat}{es:List (List D)}{own:List Obj}{Ω:Store}:nS ((.tok z es::own)::Ω)=none:=rfl
theorem Yz{z:Nat}{es:List (List D)}{own:List Obj}{Ω:Store}:nS ((.dN z es::own)::Ω)=none:=rfl
theorem aeo{m:List (List UInt8)}{own:List Obj}{Ω:Store}:nS ((.mp m::own)::Ω)=none:=rfl
theorem YA{own:List Obj}{Ω:Store}:nS ((.dead::own)::Ω)=none:=rfl
theorem YB{n z:Nat}{es:List (List D)}{own:List Obj}{Ω:Store}:nS ((.dY n z es::own)::Ω)=none:=rfl
theorem YC{n:Nat}{own:List Obj}{Ω:Store}:nS ((.seed n::own)::Ω)=some n:=rfl
theorem YD{es x:List (List D)}{z:Nat}{s:St}{dst:Option Nat}{K:St->Prop}:zL none es s dst z x K=yK (vM s.st) es s dst z x K:=rfl
theorem VL{es x:List (List D)}{z:Nat}{s:St}{dst:Option Nat}{K:St->Prop}:yK false es s dst z x K=newObj s dst (.tok z x) (fun k=>.c (.bK k x)) K:=rfl
theorem YE{es x:List (List D)}{z:Nat}{s:St}{dst:Option Nat}{K:St->Prop}:yK true es s dst z x K=(es.length<x.length/\newObj s dst (.dN z x) (fun k=>.c (.gQ k)) K):=rfl
theorem abv{Ω:Store}:vM ([]::Ω)=false:=rfl
theorem abw{cs:List C}{own:List Obj}{Ω:Store}:vM ((.box cs::own)::Ω)=false:=rfl
theorem abx{z:Nat}{es:List (List D)}{own:List Obj}{Ω:Store}:vM ((.tok z es::own)::Ω)=false:=rfl
theorem YF{z:Nat}{es:List (List D)}{own:List Obj}{Ω:Store}:vM ((.dN z es::own)::Ω)=false:=rfl
theorem aep{m:List (List UInt8)}{own:List Obj}{Ω:Store}:vM ((.mp m::own)::Ω)=false:=rfl
theorem YG{own:List Obj}{Ω:Store}:vM ((.dead::own)::Ω)=false:=rfl
theorem YH{n z:Nat}{es:List (List D)}{own:List Obj}{Ω:Store}:vM ((.dY n z es::own)::Ω)=false:=rfl
theorem YI{n:Nat}{own:List Obj}{Ω:Store}:vM ((.seed n::own)::Ω)=false:=rfl
theorem aer{own:List Obj}{Ω:Store}:vM ((.xf []::own)::Ω)=false:=rfl
theorem aby{own:List Obj}{Ω:Store}{r:List (List D)}{rs:List (List (List D))}:vM ((.xf (r::rs)::own)::Ω)=true:=rfl
theorem abz{n:Nat}{x:List (List D)}{z:Nat}{s:St}{dst:Option Nat}{K:St->Prop}:zL (some n) [] s dst z x K=K (St.put ⟨s.tm,s.st⟩ dst (.c (.d (.ol n x)))):=rfl
theorem YJ{n:Nat}{y:List D}{es x:List (List D)}{z:Nat}{s:St}{dst:Option Nat}{K:St->Prop}:zL (some n) (y::es) s dst z x K=newObj s dst (.tok z x) (fun k=>.c (.bK k x)) K:=rfl
theorem VN{n:Nat}{x:List (List D)}{z:Nat}{s:St}{dst:Option Nat}{K:St->Prop}:Bw false n s dst z x K=newObj s dst (.dY n z x) (fun k=>.c (.bK k x)) K:=rfl
theorem YK{n:Nat}{x:List (List D)}{z:Nat}{s:St}{dst:Option Nat}{K:St->Prop}:Bw true n s dst z x K=K (St.put ⟨s.tm,s.st⟩ dst (.c (.d (.ol n x)))):=rfl
theorem abA{own:List Obj}{Ω:Store}:U0 (own::Ω)=vN own[1]? :=rfl
theorem VO:vN none=false:=rfl
theorem YL{cs:List C}:vN (some (.box cs))=false:=rfl
theorem YM{z:Nat}{es:List (List D)}:vN (some (.tok z es))=false:=rfl
theorem VP{n z:Nat}{es:List (List D)}:vN (some (.dY n z es))=false:=rfl
theorem VQ{z:Nat}{es:List (List D)}:vN (some (.dN z es))=false:=rfl
theorem VR:vN (some .dead)=false:=rfl
theorem abB{m:List (List UInt8)}:vN (some (.mp m))=false:=rfl
theorem aes{own:List Obj}{Ω:Store}{t:TypeId}:U5 (own::Ω) t=yL own[0]? t:=rfl
theorem YN{t:TypeId}:yL none t=false:=rfl
theorem abC{t:TypeId}{cs:List C}:yL (some (.box cs)) t=false:=rfl
theorem abD{t:TypeId}{z:Nat}{es:List (List D)}:yL (some (.tok z es)) t=false:=rfl
theorem YO{t:TypeId}{n z:Nat}{es:List (List D)}:yL (some (.dY n z es)) t=false:=rfl
theorem YP{t:TypeId}{z:Nat}{es:List (List D)}:yL (some (.dN z es)) t=false:=rfl
theorem YQ{t:TypeId}:yL (some .dead) t=false:=rfl
theorem aeu{t:TypeId}{m:List (List UInt8)}:yL (some (.mp m)) t=false:=rfl
theorem YR{t:TypeId}{n:Nat}:yL (some (.seed n)) t=false:=rfl
theorem aev{t:TypeId}:yL (some (.xf [])) t=rowIs t:=rfl
theorem abE{t:TypeId}{r:List (List D)}{rs:List (List (List D))}:yL (some (.xf (r::rs))) t=false:=rfl
theorem VT{P:Program}{t:TypeId}{s:St}{dst:Option Nat}{K:St->Prop}{r:R}:Ez P t s dst K false r=fO s dst K r:=rfl
theorem YS{P:Program}{t:TypeId}{s:St}{dst:Option Nat}{K:St->Prop}{p:Prop}{es:List (List D)}:Ez P t s dst K true (p,.c (.bE es))=(match P.underlying t with
 |some (.slice e)=>p/\newObj s dst (.dN (P.cellsOf e) es) (fun k=>.c (.gQ k)) K
 |_=>False):=rfl
theorem aew{own:List Obj}{Ω:Store}{rs:List (List (List D))}:nS ((.xf rs::own)::Ω)=none:=rfl
theorem Sn:vN (some (.seed 0))=false:=rfl
theorem Sq:vN (some (.seed 1))=true:=rfl
attribute [go_sem ↓] RV Yc RX Vn NC JC Py Vo Yd Ye Yf Vp Pz Vq Vr JD RY JE RZ R3 Vs ND NG Ll Lm R4 R5 PD Im
attribute [go_sem] aes YN abC abD YO YP YQ aeu YR aev abE rowIs VT YS aew zu Ca List.getElem?_nil
attribute [go_sem] VL YE abv abw abx YF aep YG YH YI aer aby YD abz YJ VN YK abA VO YL YM VP VQ VR abB Sn Sq
theorem abF{P:Program}{t:TypeId}{n:Nat}{parts:List (Nat×V)}:kV P none t n parts=oV P t n parts:=rfl
def adH(m:Nat):R->R
 |(p,.c (.bE es))=>(p,.c (.jw m es))
 |_=>no
theorem abG{m:Nat}{p:Prop}{es:List (List D)}:adH m (p,.c (.bE es))=(p,.c (.jw m es)):=rfl
theorem abH{P:Program}{m:Nat}{t:TypeId}{n:Nat}{parts:List (Nat×V)}:kV P (some m) t n parts=adH m (oV P t n parts):=rfl
attribute [go_sem_proc] Nat.reduceEqDiff Nat.reduceAdd Nat.reduceLeDiff Nat.reduceSub Nat.reduceMul Nat.reduceBEq Int.reduceEq Int.reduceLT Int.reduceLE Int.reduceGT Int.reduceGE Int.reduceNeg Int.reduceToNat
attribute [go_sem_proc ↓] reduceIte
attribute [wf_preprocess] decide_eq_true_eq decide_eq_false_iff_not Bool.not_eq_true Bool.not_eq_false Bool.not_eq_eq_eq_not Bool.not_true Bool.not_false Classical.not_not
attribute [go_sem ↓] aa8 X8 X9 Vl aa9 Ya Yb Vm RQ RS Pv Pw aeh aa3 X3 af9 Yq aei aej abd aek aga ael TN PO Yr VH PS Yt VI abf Sj Yv RU Px X5 X6 X7 Yo Yp Vt abb Vu Yg PE Lp R6 NH JF PG Yh Yi R7 Yj Yk Lr Vv Ls Vw Vx Yl PI PK NI NJ Vy Vz JG R8 Ym R9 VA PL VB PN VD VE JH Sb JI Sc Sd VF NK NM Lu Lv Sg Si Io Yn VG
attribute [go_sem] zR Vj RP aa4 aen aem zf JB abg agc Yu V.mo C.mo Obj.mo aa5 aa6 aa7 zS
 Vh Vi aef aaZ aa0 aa1 aeg aa2 ev VJ Sk VK Sl BQ abh abj look agd agf Sm agh abk rZ r9 vL pQ OV
 y7 F4 yJ headD UH qB BR AA xS qC BS UJ UK K9 TB F5 wN CS BU vF uN capOf uO
 OA uE wO ru rz tY aW aX C.up V.up yU fG jZ V.rU C.rU ahJ abm Yx agi abn abo abp Yy
 List.map_cons List.map_nil List.append_nil List.nil_append List.length_nil List.length_cons List.cons_append Option.map_some Option.map_none Option.bind_some Option.bind_none
 List.getElem?_cons_zero List.getElem?_cons_succ List.set_cons_zero List.set_cons_succ List.drop_zero List.drop_succ_cons List.drop_nil List.take_zero List.take_succ_cons List.take_nil
 if_true if_false true_and and_true Int.toNat_natCast List.getElem?_toArray List.size_toArray Nat.zero_add Nat.add_zero Bool.false_eq_true Bool.true_eq_false Bool.not_true Bool.not_false reduceCtorEq
 decide_true decide_false List.all_cons List.all_nil Bool.and_true Bool.true_and Option.isSome_some Option.isSome_none TP getD_map abl Yw I5 splice List.length_map CU BX uP oV List.size_toArray abr abt abu Yz aeo YA YB YC abF abH abG abq
section
variable {P:Program} {S S':Store} {N:Nat} {s:St}
def jk:List Nat->List V->List (Nat×V)
 |t::ts,v::vs=>(t,v)::jk ts vs
 |_,_=>[]
theorem wT(f:Nat->V):∀(ts:List Nat)(t:Nat),look (jk ts (ts.map f)) t=f t\/look (jk ts (ts.map f)) t=.any
 |[],t=>.inr rfl
 |u::us,t=>by
  show(if u=t then f u else look (jk us (us.map f)) t)=f t\/(if u=t then f u else look (jk us (us.map f)) t)=.any;by_cases e:u=t
  ·left;rw[if_pos e,e]
  ·rw[if_neg e];exact wT f us t
def Inv{ι:Type}(N:Nat)(ts:List Nat)(f:ι->List V)(g:ι->Store)(p:ι->Prop)(μ:ι->Nat)(i:ι)(s':St):Prop:=∃j s0,μ j<μ i/\fP N s' s0/\ts.map (look s0.tm)=f j/\s0.st=g j/\p j
theorem dG{ι:Type}{ts:List Nat}{f:ι->List V}{g:ι->Store}{p:ι->Prop}{μ:ι->Nat}{i:ι}(j:ι)(h1:μ j<μ i)(h2:ts.map (look s.tm)=f j)(h3:s.st=g j)(h4:p j):Inv N ts f g p μ i s:=
 ⟨j,s,h1,fP.refl _ _,h2,h3,h4⟩
theorem zU:∀(ts:List Nat)(vs:List V),ts.Nodup->ts.length=vs.length->ts.map (look (jk ts vs))=vs
 |[],[],_,_=>rfl
 |t::ts,v::vs,hn,hl=>by
  have hn':=List.nodup_cons.1 hn;have ih:=zU ts vs hn'.2 (by simpa using hl);simp only[jk,List.map_cons,look,if_true,List.cons.injEq,true_and];rw[<-ih];refine List.map_congr_left fun u hu=> ?_;have hne:t≠u:=fun e=>hn'.1 (e▸hu);rw[if_neg hne,ih]
theorem dO{ι:Type}{ts:List Nat}{f:ι->List V}{g:ι->Store}{p:ι->Prop}{μ:ι->Nat}{i:ι}{tm:List (Nat×V)}{own:List Obj}{Ω:Store}(n:Nat)(hnd:ts.Nodup)(j:ι)(h1:μ j<μ i)(h2:ts.map (look tm)=f j)(h3:own.take n::Ω=g j)
 (hr:nk n (jk ts (f j))=true)(ho:(own.take n).all (Obj.refs n)=true)(h4:p j):Inv N ts f g p μ i ⟨tm,own::Ω⟩:=by
 refine⟨j,⟨jk ts (f j),own.take n::Ω⟩,h1,?_,?_,h3,h4⟩
 ·have hg:fP N ⟨tm,own::Ω⟩ ⟨jk ts (f j),own::Ω⟩:=by
   rw[<-h2];exact Il fun t=>wT _ ts t
  exact hg.trans (Jw n hr ho)
 ·exact zU ts (f j) hnd (by rw[<-h2];simp)
theorem bF{ι:Type}{c:Code}{Q:Exit->St->Prop}(fA:P.follows .mixedOrders=true)(hok:codeOk N c=true)(ts:List Nat)(f:ι->List V)(g:ι->Store)(p:ι->Prop)(μ:ι->Nat)(i0:ι)
 (h1:ts.map (look s.tm)=f i0)(h2:s.st=g i0)(h3:p i0)
 (round:∀i,p i->CW P N c (jy (Inv N ts f g p μ i) Q) ⟨jk ts (f i),g i⟩):AW P N (.loop c) Q s:=by
 refine TI (ι:=ι) (fun i s=>∃s0,fP N s s0/\ts.map (look s0.tm)=f i/\s0.st=g i/\p i) μ i0 ⟨s,fP.refl _ _,h1,h2,h3⟩ fun i s hI=> ?_;obtain⟨s0,hg,h1,h2,h3⟩:=hI;refine kD ?_ hg
 have hr:=(iY fA c _ _ hok (round i h3)).mono (Q':=jy (fun s'=>∃j,μ j<μ i/\∃s0,fP N s' s0/\ts.map (look s0.tm)=f j/\s0.st=g j/\p j) Q) fun e s' h=>by
  cases e with
  |normal=>
   obtain⟨j,s0,a1,a2,a3,a4,a5⟩:=h;exact⟨j,a1,s0,a2,a3,a4,a5⟩
  |_=>exact h
 obtain⟨tm,st⟩:=s0;simp only at h1 h2;subst h2;rw[<-h1] at hr;exact Vg hr fun t=>wT _ ts t
theorem abI:nE P [] s=(True,.eU []):=rfl
theorem abJ{x:ResultVar}:nE P [x] s=vR P s x:=rfl
theorem abK{x y:ResultVar}{z:List ResultVar}:nE P (x::y::z) s=(match(nT P s (x::y::z)).2 with
 |some ys=>((nT P s (x::y::z)).1,.eU ys)
 |none=>no):=rfl
end
attribute [go_sem] Er Ob
attribute [go_sem] jk abI abJ abK vR nT Jp fH V.ret Ga
end Go.Ab