/-
  SEVERAL TEXTS IN ONE (merged by program): contracts and models, each with its own heading.
-/
import Derived.Test.YtnceiannponbjaaGreatDoorPartDkbA
import Derived.LoopN
import Derived.StillTail
set_option linter.unusedSimpArgs false
set_option linter.unusedVariables false
namespace Go.Ab
def rowIs(t:TypeId):Bool:=t==46||t==54||t==25
def xw(o:Option Obj)(t:TypeId):Bool:=match o with
 |some (.xf [])=>rowIs t
 |_=>false
def TK(S:Store)(t:TypeId):Bool:=xw (aR S (0,0)) t
def Dq(P:Program)(t:TypeId)(s:St)(dst:Option Nat)(K:St->Prop)(b:Bool)(r:R):Prop:=
 match b,r with
 |false,r=>r.1/\K (s.put dst r.2)
 |true,(p,.c (.bA es))=>match P.underlying t with
  |some (.slice e)=>p/\newObj s dst (.dL (P.cellsOf e) es) (fun k=>.c (.gK k)) K
  |_=>False
 |true,_=>False
def AX(P:Program)(t u:TypeId)(k:Key)(y:V)(s:St)(dst:Option Nat)(K:St->Prop):Prop:=
 match P.underlying t,NI P u y,aR s.st k with
 |some (.slice e),some ys,some (.dL aN es)=>aN=P.cellsOf e/\(∀y∈ys,y.length=P.cellsOf e)/\P.bytesOf e<=4096/\(∃zs,gT P e=some zs/\zs.length=P.cellsOf e)/\es.length+ys.length<=1073741824/\
   newObj ⟨s.tm,aT s.st k .dead⟩ dst (.dL aN (es++ys)) (fun k=>.c (.gK k)) K
 |_,_,_=>False
def yD(P:Program)(t u:TypeId)(x y:V)(s:St)(dst:Option Nat)(K:St->Prop):Prop:=
 match x with
 | .c (.gK k)=>AX P t u k y s dst K
 |x=>oL P t u x y s dst K
def fU(P:Program)(o:Oper)(s:St)(K:St->Prop):Prop:=
 match o.op with
 | .call {callee:=.builtin .append,args:=uL,argTypes:=ts}=>match uL.toList,ts.toList with
   |[x,y],[t,u]=>yD P t u (ev s.tm x) (ev s.tm y) s o.dst K
   |_,_=>False
 | .buildSlice t n parts=>Dq P t s o.dst K (TK s.st t) (nval P s.st s.tm (.buildSlice t n parts))
 |_=>bK P o s K
section
variable {P:Program} {w w':World} {σ σ':Nat->Nat} {S:Store} {β β':Hs} {N:Nat} {s:St} {a:Act}
theorem dH.lay{own:List Obj}{Ω:Store}{bo:List Value}{bΩ:Hs}{o:Obj}{h:Value}(hS:dH w σ (own::Ω) (bo::bΩ))(hlen:bo.length=own.length)
 (ho:fG w σ ((own++[o])::Ω) ((bo++[h])::bΩ) o h)(hb:∀b,owns o h b->¬Own (own::Ω) (bo::bΩ) b):
 dH w σ ((own++[o])::Ω) ((bo++[h])::bΩ)/\Keep (own::Ω) (bo::bΩ) ((own++[o])::Ω) ((bo++[h])::bΩ)/\∀b,Own ((own++[o])::Ω) ((bo++[h])::bΩ) b->Own (own::Ω) (bo::bΩ) b\/owns o h b:=by
 have hkeep:Keep (own::Ω) (bo::bΩ) ((own++[o])::Ω) ((bo++[h])::bΩ):=by
  intro k o1 h1;obtain⟨h2,rW,_⟩:=hS.obj k o1 h1;exact⟨o1,iR _ _ _ _ _ h1,by rw[iR _ _ _ _ _ rW,rW];exact .refl _ _⟩
 have hinv:∀k o1 h1,aR ((own++[o])::Ω) k=some o1->aR ((bo++[h])::bΩ) k=some h1->
  (aR (own::Ω) k=some o1/\aR (bo::bΩ) k=some h1)\/(k=(0,own.length)/\o1=o/\h1=h):=by
  intro k o1 h1 e1 e2;rcases jP _ _ _ _ _ e1 with e1|⟨rfl,rfl⟩
  ·left;refine⟨e1,?_⟩;rcases jP _ _ _ _ _ e2 with e2|⟨rfl,rfl⟩
   ·exact e2
   ·rw[aY,hlen] at e1;have:=(List.getElem?_eq_some_iff.1 e1).1;omega
  ·right;rw[<-hlen,bq] at e2;exact⟨rfl,rfl,(Option.some.inj e2).symm⟩
 refine⟨⟨?_,?_,⟨?_,?_⟩,hS.live,hS.qI⟩,hkeep,?_⟩
 ·intro k o1 h1;rcases jP _ _ _ _ _ h1 with h1|⟨rfl,rfl⟩
  ·obtain⟨h2,rW,hr⟩:=hS.obj k o1 h1;exact⟨h2,iR _ _ _ _ _ rW,hr.mono (dM.refl _ _) (hkeep.drop _) fun b hb=>⟨rfl,rfl⟩⟩
  ·exact⟨h,by rw[<-hlen,bq],ho⟩
 ·intro k k' o1 o2 h1 h2 b e1 e2 e3 e4 e5 e6;rcases hinv k o1 h1 e1 e2 with⟨f1,f2⟩|⟨rfl,rfl,rfl⟩
  ·rcases hinv k' o2 h2 e4 e5 with⟨g1,g2⟩|⟨rfl,rfl,rfl⟩
   ·exact hS.apart _ _ _ _ _ _ _ f1 f2 e3 g1 g2 e6
   ·exact absurd ⟨k,o1,h1,f1,f2,e3⟩ (hb b e6)
  ·rcases hinv k' o2 h2 e4 e5 with⟨g1,g2⟩|⟨rfl,rfl,rfl⟩
   ·exact absurd ⟨k',o2,h2,g1,g2,e6⟩ (hb b e3)
   ·rfl
 ·have:=hS.shape.1;simpa using this
 ·intro l fr hl
  cases l with
  |zero=>
   simp at hl;exact⟨_,rfl,by rw[<-hl];simp[hlen]⟩
  |succ l=>exact hS.shape.2 (l+1) fr hl
 ·rintro b ⟨k,o1,h1,e1,e2,e3⟩;rcases hinv k o1 h1 e1 e2 with⟨f1,f2⟩|⟨rfl,rfl,rfl⟩
  ·exact .inl ⟨k,o1,h1,f1,f2,e3⟩
  ·exact .inr e3
theorem TL{t u ty e:TypeId}{sv:Value}{size:Nat}{es ys:List (List D)}{yv:Value}(hl:∀b,b<w.heap.size\/σ b=0)
 (ht:P.underlying t=some (.slice e))(hu:H7 P u)(hz:∃zs,gT P e=some zs/\zs.length=size)(hsize:P.cellsOf e=size)(hb:P.bytesOf e<=4096)
 (hs:fG w σ S β (.dL size es) sv)(hy:wE P w σ size ys yv)(hlen:es.length+ys.length<=1073741824):
 ∃r w',(Builtin.append_ #[t,u] ty #[sv,yv]).run P w=.ok r w'/\(∀S' β',fG w' σ S' β' (.dL size (es++ys)) r)/\w.heap.size<=w'.heap.size/\w'.os=w.os/\w'.output=w.output/\
  dM w σ w' σ/\(∀b,b<w'.heap.size\/σ b=0)/\(∀b,b<w.heap.size->¬owns (.dL size es) sv b->w'.heap[b]? =w.heap[b]?)/\
  (∀b,owns (.dL size (es++ys)) r b->owns (.dL size es) sv b\/w.heap.size<=b)/\r.oneCell'=true:=by
 obtain⟨zs,hzs,hzl⟩:=hz;obtain⟨z,rZ,hzc⟩:=qV (w:=w) (σ:=σ) (S:=S) (β:=β) hzs
 have Dm:z.cells.size=size:=by have:=hzc.1;simp at this;omega
 have hex:∃info,P.info? e=some info/\info.zero=some z:=by
  unfold gT at hzs
  cases hi:P.info? e with
  |none=>rw[hi] at hzs;cases hzs
  |some i=>
   refine⟨i,rfl,?_⟩
   cases hz:i.zero with
   |none=>rw[hi] at hzs;simp[hz] at hzs
   |some z'=>
    have:(zeroValue e).run P w=.ok z' w:=by simp[zeroValue,typeInfo,hi,hz]
    rw[rZ] at this;cases this;rfl
 obtain⟨info,hi,hiz⟩:=hex
 have hib:info.bytes=P.bytesOf e:=by simp[Program.bytesOf,hi]
 have his:info.size=size:=by rw[<-hsize];simp[Program.cellsOf,hi]
 have hs0:=hs;obtain⟨hle,base,sCap,rfl,hcap,h4⟩:=hs;obtain⟨hyl,hys,ya,H9,NC,Wz⟩:=hy w rfl;have hall:∀x∈es++ys,x.length=size:=fun x hx=>(List.mem_append.1 hx).elim (hle x) (hys x);have hfl:es.flatten.length=es.length*size:=gH es size hle;have hfy:ys.flatten.length=ys.length*size:=gH ys size hys;have hlen':(es++ys).length=es.length+ys.length:=List.length_append
 have hone:∀v∈ya.toList,v.oneCell'=true:=fun v hv=>by
  obtain⟨j,hj⟩:=List.getElem?_of_mem hv;have hjl:=(List.getElem?_eq_some_iff.1 hj).1;simp at hjl;obtain⟨v',hv',hr⟩:=Wz j _ (List.getElem?_eq_getElem (by omega));rw[Array.getElem?_toList] at hj;rw[hj] at hv';cases hv';exact hr.one
 by_cases hn0:ys.length=0
 ·have Zw:ys=[]:=List.eq_nil_of_length_eq_zero hn0;subst Zw
  have hya:ya= #[]:=by simpa using NC
  subst hya;refine⟨_,w,Dk ht hu hi hyl (by rw[his];exact H9) hcap,fun S' β'=> ?_,Nat.le_refl _,rfl,rfl,dM.refl _ _,hl,fun b _ _=>rfl,fun b hb=>.inl (by simpa using hb),rfl⟩;rw[List.append_nil];exact hs0
 by_cases hroom:es.length+ys.length<=sCap
 ·have hc0:sCap≠0:=by omega
  obtain⟨b,c,ct,rfl,hbc,hσ,hfit,hcells⟩:=h4.resolve_left hc0
  have hmul:es.length*size+ys.length*size<=sCap*size:=by rw[<-Nat.add_mul];exact Nat.mul_le_mul_right _ hroom
  have hrun:=yN (P:=P) (ty:=ty) (b:=b) (off:=0) ht hu hi hyl (by rw[his];exact H9) hroom hbc (by rw[his,NC];omega) hone;rw[his,Nat.zero_add] at hrun;generalize hc2:(c.toList.take (es.length*size)++ya.toList++c.toList.drop (es.length*size+ya.size)).toArray=c2 at hrun
  have yM:c2.size=c.size:=by rw[<-hc2];simp;omega
  have hheap:(w.setRow b c2).heap[b]? =some (.cells c2 ct (0,0)):=setRow_heap w b c c2 ct (0,0) hbc
  have hlow:∀i,i<es.length*size->c2[i]? =c[i]? :=fun i hi=>by
   rw[<-hc2,List.getElem?_toArray,List.append_assoc,List.getElem?_append_left (by simp;omega),List.getElem?_take_of_lt hi,Array.getElem?_toList]
  have hmid:∀j,j<ya.size->c2[es.length*size+j]? =ya[j]? :=fun j hj=>by
   rw[<-hc2,List.getElem?_toArray,List.getElem?_append_left (by simp;omega),List.getElem?_append_right (by simp;omega),<-Array.getElem?_toList];congr 1;simp;omega
  have hn:dM w σ (w.setRow b c2) σ:=by
   intro b1 c1 t1 xM e1;refine⟨Nat.le_refl _,fun _=>rfl,?_⟩;by_cases hb1:b1=b
   ·subst hb1;rw[hbc] at e1;cases e1;exact⟨c2,hheap,yM,fun i hi=>by omega⟩
   ·exact⟨c1,(eZ w b c2 b1 hb1).trans e1,rfl,fun _ _=>rfl⟩
  refine⟨_,_,hrun,fun S' β'=>⟨hall,_,sCap,by rw[hlen'],by omega,.inr ⟨b,c2,ct,rfl,hheap,hσ,by omega,fun j d hj=> ?_⟩⟩,by rw[setRow_size];exact Nat.le_refl _,rfl,rfl,hn,fun x=>by rw[setRow_size];exact hl x,fun x hx hne=> ?_,fun x hx=>.inl ?_,rfl⟩
  ·rw[List.flatten_append] at hj;by_cases hjl:j<es.length*size
   ·rw[List.getElem?_append_left (by omega)] at hj;obtain⟨v,hv,hr⟩:=hcells j d hj;exact⟨v,by rw[hlow j hjl];exact hv,hr.mono hn⟩
   ·rw[List.getElem?_append_right (by omega),hfl] at hj;obtain⟨v,hv,hr⟩:=Wz _ d hj;have hlt:=(Array.getElem?_eq_some_iff.1 hv).1;refine⟨v,?_,hr.mono hn⟩;rw[<-hv,<-hmid _ hlt];congr 1;omega
  ·exact eZ _ _ _ _ fun e=>hne (by simp[owns,blk,hc0,e])
  ·simpa [owns,blk] using hx
 ·obtain⟨aeW,_,Ia,NG,Ib,NH⟩:=hy w.drew rfl
  obtain⟨oa,hor,Dn,hod⟩:∃oa:Array Value,(Builtin.firstCells size es.length (.slice base es.length sCap)).run P w.drew=.ok oa w.drew/\oa.size=es.length*size/\∀(j:Nat)(d:D),es.flatten[j]? =some d->∃v,oa[j]? =some v/\bU w σ d v:=by
   rcases h4 with h0|⟨b,c,ct,rfl,hbc,hσ,hfit,hcells⟩
   ·have he:es=[]:=List.eq_nil_of_length_eq_zero (by omega);subst he;refine⟨#[],?_,by simp,fun j d hj=>by simp at hj⟩
    cases base with
    |none=>rfl
    |some b=>simp[Builtin.firstCells,loadCells,loadCellsFrom]
   ·have hm:es.length*size<=sCap*size:=Nat.mul_le_mul_right _ hcap;have hbc':w.drew.heap[b]? =some (.cells c ct (0,0)):=hbc;have hex:∀j,j<es.length*size->∃v,c[0+j]? =some v:=fun j hj=>⟨c[0+j]'(by omega),Array.getElem?_eq_getElem (by omega)⟩;obtain⟨hpl,hpv⟩:=wD c 0 (es.length*size) hex;refine⟨_,qU (a:=⟨b,0,none⟩) rfl hbc' _ hex,by simpa using hpl,fun j d hj=> ?_⟩;obtain⟨v,hv,hr⟩:=hcells j d hj;have hjl:=(List.getElem?_eq_some_iff.1 hj).1;refine⟨v,?_,hr⟩;rw[List.getElem?_toArray,hpv j (by omega),Nat.zero_add];exact hv
  obtain⟨cap,rest,EM,hrest,hrun⟩:=yO (P:=P) (ty:=ty) (base:=base) (sCap:=sCap) ht hu hi hiz hyl (by rw[his];exact NG) (by rw[his];exact hor) (by omega) hlen (by rw[hib];exact hb)
  let w':World:={w.drew with heap:=w.heap.push (.cells (oa++Ia++rest) e)}
  have hn:dM w σ w' σ:=by
   intro b1 c1 t1 xM e1
   have hne:b1≠w.heap.size:=by have:=lt_of_some e1;omega
   refine⟨Nat.le_refl _,fun _=>rfl,c1,?_,rfl,fun _ _=>rfl⟩;simp only[w'];rw[Array.getElem?_push,if_neg hne];exact e1
  have hn':dM w.drew σ w' σ:=hn
  have hheap:w'.heap[w.heap.size]? =some (.cells (oa++Ia++rest) e (0,0)):=by simp[w']
  have NQ:σ w.heap.size=0:=by
   rcases hl w.heap.size with h|h
   ·omega
   ·exact h
  refine⟨_,w',hrun,fun S' β'=>⟨hall,_,cap,by rw[hlen'],by omega,.inr ⟨w.heap.size,_,e,rfl,hheap,NQ,?_,fun j d hj=> ?_⟩⟩,by simp[w'],rfl,rfl,hn,fun x=> ?_,fun x hx _=> ?_,fun x hx=>.inr ?_,rfl⟩
  ·simp only[Array.size_append,Dn,Ib,hrest,Dm];rw[<-Nat.add_mul,<-Nat.add_mul];exact Nat.mul_le_mul_right _ (by omega)
  ·rw[List.flatten_append] at hj;by_cases hjl:j<es.length*size
   ·rw[List.getElem?_append_left (by omega)] at hj;obtain⟨v,hv,hr⟩:=hod j d hj;refine⟨v,?_,hr.mono hn⟩;rw[Array.append_assoc,Array.getElem?_append_left (by omega)];exact hv
   ·rw[List.getElem?_append_right (by omega),hfl] at hj;obtain⟨v,hv,hr⟩:=NH _ d hj;have hlt:=(Array.getElem?_eq_some_iff.1 hv).1;refine⟨v,?_,hr.mono hn'⟩;rw[Array.append_assoc,Array.getElem?_append_right (by omega),Dn,Array.getElem?_append_left (by omega)];exact hv
  ·simp only[w',Array.size_push];exact(hl x).imp (fun h=>by omega) id
  ·have hne:x≠w.heap.size:=by omega
   simp only[w'];rw[Array.getElem?_push,if_neg hne]
  ·simp only[owns,blk] at hx;split at hx
   ·cases hx
   ·cases hx;exact Nat.le_refl _
theorem NS{o:Oper}{K:St->Prop}{Q:Exit->Act->World->Prop}{t u:TypeId}{x y:Operand}{k:Key}(hrun:∀r w',(Builtin.append_ #[t,u] o.type #[a.eval x,a.eval y]).run P w=.ok r w'->(execOp a.eval o).run P w=.ok (.value r) w')
 (hd:∀d,o.dst=some d->d<N)(hR:jc N s a w σ β)(hx:ev s.tm x=.c (.gK k))(h:AX P t u k (ev s.tm y) s o.dst K):o.wp P a w (Then N s.st β σ w K) Q:=by
 have hxr:=iW hR.T x;have H9:=iW hR.T y;rw[hx] at hxr;unfold AX at h;split at h
 ·rename_i e ys aN es ht hsrc hk;obtain⟨rfl,h1,h2,h3,h5,h6⟩:=h;obtain⟨hu,hsa⟩:=NM hsrc H9 h1;obtain⟨⟨ob,ho,TI⟩,hone⟩:=hxr;rw[hk] at ho;cases ho;have hβ:=TI _ _ rfl;obtain⟨hh,hb,Ai⟩:=hR.S.obj k _ hk;rw[hβ] at hb;cases hb;obtain⟨r,w',hr,hro,hsz,hos,hout,hn,hl,uF,hbk,h1c⟩:=TL (P:=P) (ty:=o.type) hR.S.live ht hu h3 rfl h2 Ai hsa h5;obtain⟨hS1,hk1,xA⟩:=hR.S.set (o':=.dead) (h':=a.eval x) hk hβ hsz hos hout hn hl (fun b h1 h2=>⟨uF b h1 h2,rfl⟩) (.inl rfl) trivial (fun b hb=>by cases hb);have e1:aT β k (a.eval x)=β:=tF (a.eval x) _ _ _ hβ;rw[e1] at hS1 hk1 xA;obtain⟨tm,st⟩:=s;have hsh:=hS1.shape
  cases hst:aT st k Obj.dead with
  |nil=>simp only[newObj,hst] at h6
  |cons own Ω=>
   simp only[newObj,hst] at h6
   have Zx:dH w' σ (own::Ω) β:=by rw[<-hst];exact hS1
   have hfr:∃bo bΩ,β=bo::bΩ/\bo.length=own.length:=by
    cases β with
    |nil=>have:=Zx.shape.1;simp at this
    |cons bo bΩ=>
     refine⟨bo,bΩ,rfl,?_⟩;obtain⟨gr,q1,q2⟩:=Zx.shape.2 0 own rfl;simp at q1;rw[q1];exact q2
   obtain⟨bo,bΩ,rfl,hlen⟩:=hfr
   have hnot:∀b,owns (.dL (P.cellsOf e) (es++ys)) r b->¬Own (own::Ω) (bo::bΩ) b:=by
    intro b hb ⟨k1,o1,h1,e1,e2,e3⟩
    have hin:aR st k1=some o1/\k1≠k:=by
     have K9:aR (aT st k Obj.dead) k1=some o1:=by rw[hst];exact e1
     by_cases q:k1=k
     ·subst q;rw[cB _ _ _ _ hk] at K9;cases K9;cases e3
     ·rw[dO _ _ _ _ (Ne.symm q)] at K9;exact⟨K9,q⟩
    rcases hbk b hb with k2|k2
    ·exact hin.2 (hR.S.apart k1 k o1 _ h1 _ b hin.1 e2 e3 hk hβ k2)
    ·have:=hR.S.AL ⟨k1,o1,h1,hin.1,e2,e3⟩;omega
   obtain⟨hS2,hk2,hown⟩:=Zx.lay hlen (hro _ _) hnot
   have ahW:Keep st (bo::bΩ) (own::Ω) (bo::bΩ):=by rw[<-hst];exact hk1
   have EN:Step st (bo::bΩ) σ w (own::Ω) (bo::bΩ) σ w':=by rw[<-hst];exact xA
   refine jl (x:=.c (.gK (0,own.length))) (v:=r) hd hR hS2 (ahW.trans hk2) ⟨EN.size,EN.os,EN.output,EN.far,EN.near,fun b hb=> ?_⟩ ⟨⟨_,bq _ _ _,fun a b e=> ?_⟩,h1c⟩ (.inl rfl) (hrun _ _ hr) h6
   ·rcases hown b hb with q|q
    ·exact EN.own b q
    ·rcases hbk b q with q2|q2
     ·exact .inl ⟨k,_,_,hk,hβ,q2⟩
     ·exact .inr q2
   ·rw[<-hlen,bq]
 ·exact h.elim
theorem WE{o:Oper}{K:St->Prop}{Q:Exit->Act->World->Prop}{t:TypeId}{n:Nat}{parts:Array (Nat×Operand)}(ho:o.op=.buildSlice t n parts)(hd:∀d,o.dst=some d->d<N)(hR:jc N s a w σ β)
 (h:Dq P t s o.dst K (TK s.st t) (nval P s.st s.tm (.buildSlice t n parts))):o.wp P a w (Then N s.st β σ w K) Q:=by
 unfold Dq at h;split at h
 ·obtain⟨h1,h2⟩:=h;rw[<-ho] at h1 h2;obtain⟨v,w',σ',hrun,hg,hv⟩:=Hy o hR.S hR.T h1;exact nP hd hR hg hv hrun h2
 ·rename_i p es hb hr;split at h
  ·rename_i e ht;obtain⟨hp,h6⟩:=h;have hr':lS P (ny s.st) s.st s.tm (.buildSlice t n parts)=(p,.c (.bA es)):=hr;simp only[lS] at hr'
   cases hlab:ny s.st with
   |some m=>
    rw[hlab] at hr';simp only[kJ] at hr';split at hr'<;>cases hr'
   |none=>
    rw[hlab] at hr';simp only[kJ,om,ht] at hr';split at hr'
    ·rename_i es' hes;cases hr';obtain⟨h1,h2,h3⟩:=hp
     obtain⟨ca,hrun,hca,hle,hcells⟩:=zG (P:=P) (w:=w) (σ:=σ) (S:=s.st) (β:=β) (t:=t) (n:=n) (parts:=parts.toList.map fun x=>(x.1,ev s.tm x.2)) (pv:=parts.toList.map fun x=>(x.1,a.eval x.2)) (by simp)
      (fun j x hx=>by
        rw[List.getElem?_map] at hx ⊢
        cases hc:parts.toList[j]? with
        |none=>rw[hc] at hx;cases hx
        |some y=>rw[hc] at hx;cases hx;exact⟨_,rfl,iW hR.T y.2⟩) ht hes h1 h2 h3
     have hrun':(execOp a.eval o).run P w=.ok (.value (.slice (some ⟨w.heap.size,0,none⟩) n n)) {w with heap:=w.heap.push (.cells ca e)}:=by
      clear h6 hr;obtain⟨dst,op,ty,pos,after,guard⟩:=o;simp only at ho;subst ho;simp[execOp];rw[Nv,hrun];rfl
     have hg:=xZ w σ hR.S.live ca e 0
     have NQ:σ w.heap.size=0:=by
      rcases hR.S.live w.heap.size with h|h
      ·omega
      ·exact h
     obtain⟨tm,st⟩:=s
     cases st with
     |nil=>exact h6.elim
     |cons own Ω=>
      obtain⟨bo,bΩ,rfl,hlen⟩:=frames hR
      obtain⟨hS',hk,hst⟩:=hR.S.push (o:=.dL (P.cellsOf e) es) (h:=.slice (some ⟨w.heap.size,0,none⟩) n n) hg hlen
       ⟨hle,some ⟨w.heap.size,0,none⟩,n,by rw[h1],by omega,.inr ⟨w.heap.size,ca,e,rfl,by simp,by simp,by rw[hca,h1];exact Nat.le_refl _,fun j d hj=>by
         obtain⟨v,hv,hr⟩:=hcells j d hj
         exact⟨v,hv,hr.mono hg.near⟩⟩⟩
       (fun b hb=>by
         simp only[owns,blk] at hb;split at hb
         ·cases hb
         ·cases hb;exact Nat.le_refl _)
      refine jl (x:=.c (.gK (0,own.length))) hd hR hS' hk hst ⟨⟨_,bq _ _ _,fun aN es e=> ?_⟩,rfl⟩ (.inl rfl) hrun' h6;rw[<-hlen,bq]
    ·cases hr'
  ·exact h.elim
 ·exact h.elim
theorem FL(hw:∀{o:Oper}{K:St->Prop}{Q:Exit->Act->World->Prop},(∀d,o.dst=some d->d<N)->bK P o s K->o.wp P a w (Then N s.st β σ w K) Q){o:Oper}{K:St->Prop}{Q:Exit->Act->World->Prop}(hd:∀d,o.dst=some d->d<N)(hR:jc N s a w σ β)(h:fU P o s K):o.wp P a w (Then N s.st β σ w K) Q:=by
 unfold fU at h;split at h
 ·rename_i uL ts ho;split at h
  ·rename_i x y t u hx ht;unfold yD at h;split at h
   ·rename_i k hk;refine NS (fun r w' hr=> ?_) hd hR hk h;clear h;obtain⟨dst,op,ty,pos,after,guard⟩:=o;simp only at ho;subst ho
    obtain rfl:uL= #[x,y]:=by rw[<-Array.toArray_toList (xs:=uL),hx]
    obtain rfl:ts= #[t,u]:=by rw[<-Array.toArray_toList (xs:=ts),ht]
    simp only at hr;simp[execOp,resolve,invoke,builtin,hr]
   ·refine hw hd ?_;unfold bK;rw[ho];simp only[lT,hx,ht];exact h
  ·exact h.elim
 ·rename_i t n parts ho;exact WE ho hd hR h
 ·exact hw hd h
end
section
variable {P:Program} {w w':World} {σ σ':Nat->Nat} {S:Store} {β β':Hs} {N:Nat} {s:St} {a:Act}
theorem BJ{o:Oper}{K:St->Prop}{Q:Exit->Act->World->Prop}(hd:∀d,o.dst=some d->d<N)(hR:jc N s a w σ β)(h:bK P o s K):o.wp P a w (Then N s.st β σ w K) Q:=by
 unfold bK at h;split at h
 ·rename_i t ho;unfold qW at h;split at h
  ·rename_i zs hz;obtain⟨z,rZ,hzc⟩:=qV (w:=w) (σ:=σ) (S:=s.st) (β:=β) hz;refine Ic (v:=z) (t:=t) hd hR hzc (fun ad w' Ie=> ?_) h;obtain⟨dst,op,ty,pos,after,guard⟩:=o;simp only at ho;subst ho;simp[execOp,Instr.alloc,rZ,Ie]
  ·exact h.elim
 ·rename_i t x ho;unfold yP at h;split at h
  ·rename_i cs hcs;refine Ic (v:=a.eval x) (t:=t) hd hR (uE hcs (iW hR.T x)) (fun ad w' Ie=> ?_) h;obtain⟨dst,op,ty,pos,after,guard⟩:=o;simp only at ho;subst ho;simp[execOp,Instr.box,Ie]
  ·exact h.elim
 ·rename_i t x y ho;exact Qo ho hd hR h
 ·rename_i t x y ho;exact TH ho hd hR h
 ·rename_i t ho;exact NJ ho hd hR h
 ·rename_i t x y z ho;exact NK ho hd hR h
 ·rename_i c ho;exact Ig ho hd hR h
 ·obtain⟨h1,h2⟩:=h;obtain⟨v,w',σ',hrun,hg,hv⟩:=Hy o hR.S hR.T h1;exact nP hd hR hg hv hrun h2
def fA(R:Array Oper)(j:Nat):Option Nat:=(R[j]?).bind (·.dst)
def qY(P:Program)(R:Array Oper)(o:Oper)(s:St)(K:St->Prop):Prop:=
 match o.guard with
 |none=>fU P o s K
 |some (j,want)=>
  match(fA R j).map (look s.tm) with
  |some (.c (.d (.b x)))=>(x=want->fU P o s K)/\(x= !want->K (s.put o.dst (.eG [])))
  |some (.eG [])=>K (s.put o.dst (.eG []))
  |_=>False
def yR(P:Program)(R:Array Oper):List Oper->St->(St->Prop)->Prop
 |[],s,K=>K s
 |o::os,s,K=>qY P R o s fun s'=>yR P R os s' K
theorem Then.mono{K K':St->Prop}{a':Act}{w':World}(hK:∀s,K s->K' s)(h:Then N S β σ w K a' w'):Then N S β σ w K' a' w':=by
 obtain⟨s',σ',β',h1,h2,h3,h4⟩:=h;exact⟨s',σ',β',h1,h2,h3,hK _ h4⟩
theorem yS{R:Array Oper}{j:Nat}{x:Bool}(hR:jc N s a w σ β)(h:(fA R j).map (look s.tm)=some (.c (.d (.b x)))):yielded R a.tmps j=some x:=by
 unfold yielded;unfold fA at h
 cases hd:(R[j]?).bind (·.dst) with
 |none=>rw[hd] at h;cases h
 |some d=>
  rw[hd] at h;simp only[Option.map_some,Option.some.injEq] at h;have ht:=hR.T d;rw[h] at ht;obtain⟨ht,_⟩:=ht;simp only[Option.bind_some]
  have hlt:d<a.tmps.size:=by
   rcases Nat.lt_or_ge d a.tmps.size with h|h
   ·exact h
   ·simp[Array.getD,Nat.not_lt.2 h,undef] at ht;cases ht
  have hg:a.tmps.getD d undef=a.tmps[d]:=by simp[Array.getD,hlt]
  rw[hg] at ht;rw[Array.getElem?_eq_getElem hlt];generalize a.tmps[d]=v at ht;cases ht;rfl
theorem CQ{R:Array Oper}{j:Nat}(hR:jc N s a w σ β)(h:(fA R j).map (look s.tm)=some (.eG [])):yielded R a.tmps j=none:=by
 unfold yielded;unfold fA at h
 cases hd:(R[j]?).bind (·.dst) with
 |none=>rw[hd] at h;cases h
 |some d=>
  rw[hd] at h;simp only[Option.map_some,Option.some.injEq] at h;have ht:=hR.T d;rw[h] at ht;obtain⟨ar,hv,_⟩:=ht;simp only[Option.bind_some];by_cases hlt:d<a.tmps.size
  ·have hg:a.tmps.getD d undef=a.tmps[d]:=by simp[Array.getD,hlt]
   rw[hg] at hv;rw[Array.getElem?_eq_getElem hlt,hv]
  ·rw[Array.getElem?_eq_none (Nat.le_of_not_lt hlt)]
theorem La{o:Oper}{K:St->Prop}(hd:∀d,o.dst=some d->d<N)(hR:jc N s a w σ β)(hK:K (s.put o.dst (.eG []))):Then N s.st β σ w K (a.put o.dst undef) w:=by
 have hr:jc N (St.put ⟨s.tm,s.st⟩ o.dst (.eG [])) (a.put o.dst undef) w σ β:=yC hd hR.size hR.defers hR.S hR.T tH;have he:(s.put o.dst (.eG [])).st=s.st:=j6 o.dst s.tm s.st _;exact⟨_,σ,β,hr,by rw[show(St.put ⟨s.tm,s.st⟩ o.dst (.eG [])).st=s.st from he];exact Step.mh (Grow.refl hR.S.live),by rw[show(St.put ⟨s.tm,s.st⟩ o.dst (.eG [])).st=s.st from he];exact Keep.refl _ _,hK⟩
theorem Qp{R:Array Oper}{o:Oper}{K:St->Prop}{Q:Exit->Act->World->Prop}(hd:∀d,o.dst=some d->d<N)(hR:jc N s a w σ β)(h:qY P R o s K):
 if Region.wanted o (yielded R a.tmps) then o.wp P a w (Then N s.st β σ w K) Q else Then N s.st β σ w K (a.put o.dst undef) w:=by
 unfold qY at h;split at h
 ·rename_i hg;rw[if_pos (by simp[Region.wanted,hg])];exact FL (fun hd h=>BJ hd hR h) hd hR h
 ·rename_i j want hg;split at h
  ·rename_i x hx;have hy:=yS hR hx;by_cases e:x=want
   ·rw[if_pos (by simp[Region.wanted,hg,hy,e])];exact FL (fun hd h=>BJ hd hR h) hd hR (h.1 e)
   ·rw[if_neg (by simp[Region.wanted,hg,hy,e])];exact La hd hR (h.2 (by cases x<;>cases want<;>simp_all))
  ·rename_i hx;have hy:=CQ hR hx;rw[if_neg (by simp[Region.wanted,hg,hy])];exact La hd hR h
  ·exact h.elim
theorem Ih{R:Array Oper}{K:St->Prop}{S0:Store}{β0:Hs}{σ0:Nat->Nat}{w0:World}{Q:Exit->Act->World->Prop}(hQ:∀a w,Then N S0 β0 σ0 w0 K a w->Q .normal a w):
 ∀(n k:Nat),k+n=R.size->(∀o∈R.toList,∀d,o.dst=some d->d<N)->∀(s:St)(a:Act)(w:World)(σ:Nat->Nat)(β:Hs),jc N s a w σ β->Step S0 β0 σ0 w0 s.st β σ w->Keep S0 β0 s.st β->
  yR P R (R.toList.drop k) s K->wpOps P R Q (List.range' k n) a w
 |0,k,hk,_,s,a,w,σ,β,hR,hst,hkp,h=>by
  have:R.toList.drop k=[]:=by apply List.drop_eq_nil_of_le;simp;omega
  rw[this] at h;exact hQ a w ⟨s,σ,β,hR,hst,hkp,h⟩
 |n+1,k,hk,hd,s,a,w,σ,β,hR,hst,hkp,h=>by
  have hlt:k<R.toList.length:=by simp;omega
  rw[List.drop_eq_getElem_cons hlt] at h;have hg:=Qp (Q:=Q) (fun d e=>hd _ (List.getElem_mem hlt) d e) hR h;rw[List.range'_succ]
  have hRk:R[k]? =some R.toList[k]:=by
   rw[Array.getElem?_eq_getElem (by omega)];simp
  simp only[wpOps,hRk]
  have next:∀a' w',Then N s.st β σ w (fun s'=>yR P R (R.toList.drop (k+1)) s' K) a' w'->wpOps P R Q (List.range' (k+1) n) a' w':=by
   rintro a' w' ⟨s',σ',β',hR',hst',vF,hK'⟩;exact Ih hQ n (k+1) (by omega) hd s' a' w' σ' β' hR' (hst.trans hst') (hkp.trans vF) hK'
  split
  ·rename_i hw;rw[if_pos hw] at hg;exact .inl (Oper.wp_mono next hg)
  ·rename_i hw;rw[if_neg hw] at hg
   exact next _ _ hg
def fD{α:Type}(l:List α):List α:=l.drop 1
def AW(P:Program)(N:Nat)(c:Code)(Q:Exit->St->Prop)(s:St):Prop:=
 ∀(a:Act)(w:World)(σ:Nat->Nat)(β:Hs),jc N s a w σ β->
  c.wp P (fun e a' w'=>∃s' σ' β',jc N s' a' w' σ' β'/\Step s.st β σ w s'.st β' σ' w'/\Keep (fD s.st) (fD β) (fD s'.st) (fD β')/\Q e s') a w
theorem AW.mono{c:Code}{Q Q':Exit->St->Prop}(h:AW P N c Q s)(hq:∀e s,Q e s->Q' e s):AW P N c Q' s:=fun a w σ β hR=>
 wp_mono (h a w σ β hR) fun e a' w' ⟨s',σ',β',h1,h2,h3,h4⟩=>⟨s',σ',β',h1,h2,h3,hq _ _ h4⟩
def jq(K:St->Prop)(Q:Exit->St->Prop):Exit->St->Prop
 | .normal,s=>K s
 |e,s=>Q e s
def uM(id:Nat)(Q:Exit->St->Prop):Exit->St->Prop
 | .exit id',s=>if id'=id then Q .normal s else Q (.exit id') s
 |e,s=>Q e s
theorem Ii{x y:Code}{Q:Exit->St->Prop}(h:AW P N x (jq (AW P N y Q) Q) s):AW P N (.seq x y) Q s:=by
 intro a w σ β hR;refine wp_seq (wp_mono (h a w σ β hR) ?_);rintro e a' w' ⟨s',σ',β',h1,h2,h3,h4⟩
 cases e with
 |normal=>
  show y.wp P _ a' w';refine wp_mono (h4 a' w' σ' β' h1) ?_;rintro e a'' w'' ⟨s'',yI,β'',k1,k2,k3,k4⟩;exact⟨s'',yI,β'',k1,h2.trans k2,h3.trans k3,k4⟩
 |_=>exact⟨s',σ',β',h1,h2,h3,h4⟩
theorem NT{c:Code}{e:Exit}{Q:Exit->St->Prop}(hc:∀{Q':Exit->Act->World->Prop}{a:Act}{w:World},Q' e a w->c.wp P Q' a w)(h:Q e s):AW P N c Q s:=
 fun a w σ β hR=>hc ⟨s,σ,β,hR,Step.mh (Grow.refl hR.S.live),Keep.refl _ _,h⟩
theorem ac6{Q:Exit->St->Prop}(h:Q .normal s):AW P N .skip Q s:=NT wp_skip h
theorem ac7{id:Nat}{Q:Exit->St->Prop}(h:Q (.exit id) s):AW P N (.exit id) Q s:=NT wp_exit h
theorem aeX{Q:Exit->St->Prop}(h:Q .ret s):AW P N .ret Q s:=NT wp_ret h
theorem EO{c:Operand}{x y:Code}{b:Bool}{Q:Exit->St->Prop}(hc:ev s.tm c=.c (.d (.b b)))(ht:b=true->AW P N x Q s)(hf:b=false->AW P N y Q s):AW P N (.cond c x y) Q s:=by
 intro a w σ β hR;have hv:=iW hR.T c;rw[hc] at hv;obtain⟨hv,_⟩:=hv;generalize he:a.eval c=v at hv;cases hv;refine Go.wp_cond he ?_
 cases b with
 |true=>exact ht rfl a w σ β hR
 |false=>exact hf rfl a w σ β hR
theorem Gj{id:Nat}{c:Code}{Q:Exit->St->Prop}(h:AW P N c (uM id Q) s):AW P N (.block id c) Q s:=by
 intro a w σ β hR;refine wp_block (wp_mono (h a w σ β hR) ?_);rintro e a' w' ⟨s',σ',β',h1,h2,h3,h4⟩
 cases e with
 |exit id'=>
  show if id'=id then _ else _
  simp only[uM] at h4;split
  ·rename_i e;rw[if_pos e] at h4;exact⟨s',σ',β',h1,h2,h3,h4⟩
  ·rename_i e;rw[if_neg e] at h4;exact⟨s',σ',β',h1,h2,h3,h4⟩
 |_=>exact⟨s',σ',β',h1,h2,h3,h4⟩
theorem Keep.tail{S S':Store}{β β':Hs}(h:Keep S β S' β'):Keep (fD S) (fD β) (fD S') (fD β'):=h.drop 1
theorem WG{id:Nat}{R:Array Oper}{Q:Exit->St->Prop}(hd:R.toList.all (fun o=>match o.dst with|some d=>decide (d<N)|none=>true)=true)(h:yR P R R.toList s (Q .normal)):AW P N (.region id R false) Q s:=by
 intro a w σ β hR;refine wp_region ?_;rw[List.range_eq_range'];refine Ih (S0:=s.st) (β0:=β) (σ0:=σ) (w0:=w) (K:=Q .normal) (fun a' w' ht=> ?_) R.size 0 (by omega) (fun o ho d e=> ?_) s a w σ β hR (Step.mh (Grow.refl hR.S.live)) (Keep.refl _ _) h
 ·obtain⟨s',σ',β',h1,h2,h3,h4⟩:=ht;exact⟨s',σ',β',h1,h2,h3.tail,h4⟩
 ·have:=List.all_eq_true.1 hd o ho;rw[e] at this;simpa using this
theorem R8{ι:Type}{c:Code}{Q:Exit->St->Prop}(I:ι->St->Prop)(μ:ι->Nat)(i0:ι)(h0:I i0 s)
 (round:∀i s,I i s->AW P N c (jq (fun s'=>∃j,μ j<μ i/\I j s') Q) s):AW P N (.loop c) Q s:=by
 intro a w σ β hR
 have key:∀(n:Nat)(i:ι)(s':St)(a':Act)(w':World)(σ':Nat->Nat)(β':Hs),μ i<n->I i s'->jc N s' a' w' σ' β'->Step s.st β σ w s'.st β' σ' w'->Keep (fD s.st) (fD β) (fD s'.st) (fD β')->
  Code.rounds P c (fun e a' w'=>∃s' σ' β',jc N s' a' w' σ' β'/\Step s.st β σ w s'.st β' σ' w'/\Keep (fD s.st) (fD β) (fD s'.st) (fD β')/\Q e s') n a' w':=by
  intro n
  induction n with
  |zero=>intro i s' a' w' σ' β' h;omega
  |succ n ih=>
   intro i s' a' w' σ' β' hn hI hR' hst hkp;refine wp_mono (round i s' hI a' w' σ' β' hR') ?_;rintro e a'' w'' ⟨s'',yI,β'',k1,k2,k3,k4⟩
   cases e with
   |normal=>
    obtain⟨j,hj,hIj⟩:=k4;exact ih j s'' a'' w'' yI β'' (by omega) hIj k1 (hst.trans k2) (hkp.trans k3)
   |_=>exact⟨s'',yI,β'',k1,hst.trans k2,hkp.trans k3,k4⟩
 exact wp_loop_rounds (μ i0+1) (key (μ i0+1) i0 s a w σ β (by omega) h0 hR (Step.mh (Grow.refl hR.S.live)) (Keep.refl _ _))
end
def kG:List V->Nat->List (Nat×V)
 |[],_=>[]
 |v::vs,i=>(i,v)::kG vs (i+1)
def C.ret:C->Option C
 | .bG (0,_) es=>some (.d (.sl es))
 |c=>c.down 1
def EP(y:Bool×List C):Option (Bool×List C):=(y.2.mapM C.ret).map fun cs=>(y.1,cs)
def V.ret:V->Option V
 | .c x=>(x.ret).map .c
 | .agg cs=>(cs.mapM C.ret).map .agg
 | .eG xs=>(xs.mapM EP).map .eG
 | .any=>some .any
def uN(P:Program)(s:St):ResultVar->R
 | .tmp t=>(True,look s.tm t)
 | .cell a t=>xY P s.st t (look s.tm a)
def Ij:V->Option (Bool×List C)
 | .c x=>some (false,[x])
 | .agg cs=>some (true,cs)
 |_=>none
def nA(P:Program)(s:St):List ResultVar->Prop×Option (List (Bool×List C))
 |[]=>(True,some [])
 |x::xs=>((uN P s x).1/\(nA P s xs).1,(Ij (uN P s x).2).bind fun y=>(nA P s xs).2.map fun ys=>y::ys)
def mO(P:Program)(rs:List ResultVar)(s:St):R:=
 match rs with
 |[x]=>uN P s x
 |xs=>match(nA P s xs).2 with
  |some ys=>((nA P s xs).1,.eG ys)
  |none=>no
def Zy(P:Program)(rs:List ResultVar)(post:V->Store->Prop)(e:Exit)(s:St):Prop:=
 match e with
 | .normal| .ret=>(mO P rs s).1/\match(mO P rs s).2.ret with
   |some r=>post r (fD s.st)
   |none=>False
 |_=>False
section
variable {P:Program} {w w':World} {σ σ':Nat->Nat} {S:Store} {β β':Hs} {N:Nat} {s:St} {a:Act}
theorem NU{cs:List C}{vs:List Value}(n:Nat)(h:d9 w σ (S.drop n) (β.drop n) cs vs):d9 w σ S β (cs.map (C.up n)) vs:=
 ⟨by simpa using h.1,fun j x hx=>by
   rw[List.getElem?_map] at hx
   cases hc:cs[j]? with
   |none=>rw[hc] at hx;cases hx
   |some y=>
    rw[hc] at hx;cases hx;obtain⟨v,hv,hr,ho⟩:=h.2 j y hc
    exact⟨v,hv,hr.up n,ho⟩⟩
theorem ER{x:V}{v:Value}(n:Nat)(h:bV w σ (S.drop n) (β.drop n) x v):bV w σ S β (x.up n) v:=by
 cases x with
 |c x=>exact⟨h.1.up n,h.2⟩
 |agg cs=>obtain⟨ar,ha,hc⟩:=h;exact⟨ar,ha,NU n hc⟩
 |eG xs=>
  obtain⟨ar,ha,hl,h2⟩:=h;refine⟨ar,ha,by simpa using hl,fun j y hy=> ?_⟩;rw[List.getElem?_map] at hy
  cases hc:xs[j]? with
  |none=>rw[hc] at hy;cases hy
  |some z=>
   rw[hc] at hy;cases hy;obtain⟨u,hu,h3⟩:=h2 j z hc;refine⟨u,hu,?_⟩;obtain⟨b,cs⟩:=z
   cases b with
   |true=>obtain⟨a',e,hcs⟩:=h3;exact⟨a',e,NU n hcs⟩
   |false=>obtain⟨x,e,hx,ho⟩:=h3;subst e;exact⟨_,rfl,hx.up n,ho⟩
 |any=>exact trivial
theorem Gl{c c':C}{v:Value}(h:c.ret=some c')(hc:fK w σ S β c v):fK w σ (S.drop 1) (β.drop 1) c' v:=by
 unfold C.ret at h;split at h
 ·cases h;exact hc.1
 ·exact Nw h hc
theorem Lb{xs ys:List C}{vs:List Value}(h:xs.mapM C.ret=some ys)(hc:d9 w σ S β xs vs):d9 w σ (S.drop 1) (β.drop 1) ys vs:=by
 induction xs generalizing ys vs with
 |nil=>simp at h;subst h;exact⟨hc.1,fun j d hd=>by simp at hd⟩
 |cons x xs ih=>
  rw[List.mapM_cons] at h
  cases hd:C.ret x with
  |none=>rw[hd] at h;simp at h
  |some y=>
   cases hm:xs.mapM C.ret with
   |none=>rw[hd,hm] at h;simp at h
   |some ys'=>
    rw[hd,hm] at h;simp at h;subst h
    cases vs with
    |nil=>have:=hc.1;simp at this
    |cons v vs=>
     obtain⟨l,r⟩:=ih hm (vs:=vs) ⟨by have:=hc.1;simpa using this,fun j y hy=>hc.2 (j+1) y hy⟩;refine⟨by simp[l],fun j e he=> ?_⟩
     cases j with
     |zero=>
      simp at he;subst he;obtain⟨u,hu,hr,ho⟩:=hc.2 0 x rfl;simp at hu;subst hu;exact⟨v,rfl,Gl hd hr,ho⟩
     |succ j=>exact r j e he
theorem NW{α γ:Type}(f:α->Option γ):∀(xs:List α)(ys:List γ),xs.mapM f=some ys->ys.length=xs.length/\∀(j:Nat)(y:γ),ys[j]? =some y->∃x,xs[j]? =some x/\f x=some y
 |[],ys,h=>by simp at h;subst h;exact⟨rfl,fun j y hy=>by simp at hy⟩
 |x::xs,ys,h=>by
  rw[List.mapM_cons] at h
  cases hd:f x with
  |none=>rw[hd] at h;simp at h
  |some y=>
   cases hm:xs.mapM f with
   |none=>rw[hd,hm] at h;simp at h
   |some ys'=>
    rw[hd,hm] at h;simp at h;subst h;obtain⟨l,r⟩:=NW f xs ys' hm;refine⟨by simp[l],fun j e he=> ?_⟩
    cases j with
    |zero=>simp at he;subst he;exact⟨x,rfl,hd⟩
    |succ j=>exact r j e he
theorem NY{x y:V}{v:Value}(h:x.ret=some y)(hx:bV w σ S β x v):bV w σ (S.drop 1) (β.drop 1) y v:=by
 cases x with
 |c x=>
  simp only[V.ret] at h
  cases hc:x.ret with
  |none=>rw[hc] at h;cases h
  |some c=>rw[hc] at h;cases h;exact⟨Gl hc hx.1,hx.2⟩
 |agg cs=>
  simp only[V.ret] at h
  cases hc:cs.mapM C.ret with
  |none=>rw[hc] at h;cases h
  |some c=>rw[hc] at h;cases h;obtain⟨ar,ha,h2⟩:=hx;exact⟨ar,ha,Lb hc h2⟩
 |eG xs=>
  simp only[V.ret] at h
  cases hc:xs.mapM EP with
  |none=>rw[hc] at h;cases h
  |some ys=>
   rw[hc] at h;cases h;obtain⟨ar,ha,hl,h2⟩:=hx;obtain⟨l,r⟩:=NW _ _ _ hc;refine⟨ar,ha,by rw[l];exact hl,fun j y hy=> ?_⟩;obtain⟨z,hz,hzy⟩:=r j y hy;obtain⟨u,hu,h3⟩:=h2 j z hz;refine⟨u,hu,?_⟩;obtain⟨b,cs⟩:=z;simp only[EP] at hzy
   cases hm:cs.mapM C.ret with
   |none=>rw[hm] at hzy;cases hzy
   |some cs'=>
    rw[hm] at hzy;cases hzy
    cases b with
    |true=>obtain⟨a',e,hcs⟩:=h3;exact⟨a',e,Lb hm hcs⟩
    |false=>
     obtain⟨x,e,hx,ho⟩:=h3;subst e;rw[List.mapM_cons] at hm
     cases hx':C.ret x with
     |none=>rw[hx'] at hm;simp at hm
     |some x'=>
      rw[hx'] at hm;simp at hm;exact⟨x',hm.symm,Gl hx' hx,ho⟩
 |any=>cases h;exact trivial
theorem R9{x:ResultVar}(hR:jc N s a w σ β)(h:(uN P s x).1):
 ∃v,(match x with| .tmp t=>pure (a.tmps.getD t undef)| .cell b t=>do loadVar t (<-asAddr (a.tmps.getD b undef)):Sem Value).run P w=.ok v w/\bV w σ s.st β (uN P s x).2 v:=by
 cases x with
 |tmp t=>exact⟨_,rfl,hR.T t⟩
 |cell b t=>
  obtain⟨v,hrun,hv⟩:=K3 (P:=P) (t:=t) hR.S (hR.T b) h;refine⟨v,?_,hv⟩;show(do loadVar t (<-asAddr (a.tmps.getD b undef)):Sem Value).run P w=.ok v w;generalize a.tmps.getD b undef=bv at hrun ⊢
  cases bv with
  |pointer o=>
   cases o with
   |none=>simp[Instr.loadAt,Instr.sureAddr] at hrun
   |some ad=>simpa [Instr.loadAt,Instr.sureAddr,asAddr] using hrun
  |_=>simp[Instr.loadAt,Instr.sureAddr] at hrun
theorem Zz{x:V}{y:Bool×List C}{v:Value}(h:Ij x=some y)(hx:bV w σ S β x v):J6 w σ S β y v:=by
 cases x with
 |c x=>cases h;exact⟨x,rfl,hx.1,hx.2⟩
 |agg cs=>cases h;exact hx
 |eG=>cases h
 |any=>cases h
theorem Sb(hR:jc N s a w σ β):∀(xs:List ResultVar)(ys:List (Bool×List C)),(nA P s xs).1->(nA P s xs).2=some ys->
 ∃vs:List Value,(xs.mapM fun x=>(match x with| .tmp t=>pure (a.tmps.getD t undef)| .cell b t=>do loadVar t (<-asAddr (a.tmps.getD b undef)):Sem Value)).run P w=.ok vs w/\ys.length=vs.length/\
  ∀(j:Nat)(y:Bool×List C),ys[j]? =some y->∃u,vs[j]? =some u/\J6 w σ s.st β y u
 |[],ys,_,h=>by simp only[nA] at h;cases h;exact⟨[],by simp,rfl,fun j y hy=>by simp at hy⟩
 |x::xs,ys,h1,h2=>by
  simp only[nA] at h1 h2
  cases hc:Ij (uN P s x).2 with
  |none=>rw[hc] at h2;cases h2
  |some y=>
   cases hr:(nA P s xs).2 with
   |none=>rw[hc,hr] at h2;cases h2
   |some ys'=>
    rw[hc,hr] at h2;cases h2;obtain⟨v,hv,hrep⟩:=R9 (P:=P) (x:=x) hR h1.1;obtain⟨vs,hvs,hl,hj⟩:=Sb hR xs ys' h1.2 hr;refine⟨v::vs,?_,by simp[hl],fun j z hz=> ?_⟩
    ·rw[List.mapM_cons];simp only[Sem.run_bind,Result.andThen_ok,Sem.run_pure];rw[hv];simp only[Result.andThen_ok];rw[hvs];rfl
    ·cases j with
     |zero=>simp at hz;subst hz;exact⟨v,rfl,Zz hc hrep⟩
     |succ j=>exact hj j z hz
theorem Dr{fn:Func}(hR:jc N s a w σ β)(h:(mO P fn.results.toList s).1):∃v,(results fn a.tmps).run P w=.ok v w/\bV w σ s.st β (mO P fn.results.toList s).2 v:=by
 have hres:fn.results=fn.results.toList.toArray:=by simp
 have hrun:∀vs:List Value,(fn.results.toList.mapM fun x=>(match x with| .tmp t=>pure (a.tmps.getD t undef)| .cell b t=>do loadVar t (<-asAddr (a.tmps.getD b undef)):Sem Value)).run P w=.ok vs w->
  (results fn a.tmps).run P w=.ok (if h:vs.toArray.size=1 then vs.toArray[0] else .tuple vs.toArray) w:=by
  intro vs hvs;unfold results;rw[hres,List.mapM_toArray];simp only[Sem.run_bind,Sem.run_map];have:(fun x=>(match x with| .tmp t=>pure (a.tmps.getD t undef)| .cell b t=>do loadVar t (<-asAddr (a.tmps.getD b undef)):Sem Value))=fun(x:ResultVar)=>(match x with| .tmp t=>pure (a.tmps.getD t undef)| .cell b t=>do loadVar t (<-asAddr (a.tmps.getD b undef)):Sem Value):=rfl
  erw [hvs]
  rfl
 unfold mO at h ⊢;split at h
 ·rename_i x hx;rw[hx] at hrun;obtain⟨v,hv,hrep⟩:=R9 (P:=P) (x:=x) hR h;refine⟨v,?_,hrep⟩
  have:=hrun [v] (by
   rw[List.mapM_cons];simp only[Sem.run_bind,List.mapM_nil,Result.andThen_ok,Sem.run_pure]
   rw[hv];rfl)
  simpa using this
 ·rename_i hne;split at h
  ·rename_i ys hys;obtain⟨vs,hvs,hl,hj⟩:=Sb (P:=P) hR _ ys h hys;have h1:=hrun vs hvs
   have hlen:¬(vs.toArray.size=1):=by
    intro e
    have hl2:ys.length=fn.results.toList.length:=by
     clear hj hvs h1 hrun hne e hl h;generalize fn.results.toList=l at hys
     induction l generalizing ys with
     |nil=>simp only[nA] at hys;cases hys;rfl
     |cons x xs ih=>
      simp only[nA] at hys
      cases hc:Ij (uN P s x).2 with
      |none=>rw[hc] at hys;cases hys
      |some y=>
       cases hr:(nA P s xs).2 with
       |none=>rw[hc,hr] at hys;cases hys
       |some ys'=>rw[hc,hr] at hys;cases hys;simp[ih ys' hr]
    simp at e
    have:fn.results.toList.length=1:=by omega
    obtain⟨x,hx⟩:=List.length_eq_one_iff.1 this;exact hne x hx
   rw[dif_neg hlen] at h1;exact⟨_,h1,vs.toArray,rfl,by simpa using hl,fun j y hy=>by simpa using hj j y hy⟩
  ·exact h.elim
theorem dH.Ik{own:List Obj}{Ω:Store}{bo:List Value}{bΩ:Hs}(h:dH w σ (own::Ω) (bo::bΩ)):dH w σ Ω bΩ:=by
 refine⟨fun k o ho=> ?_,fun k k' o o' h1 h2 b e1 e2 e3 e4 e5 e6=> ?_,⟨by have:=h.shape.1;simpa using this,fun l fr hl=>h.shape.2 (l+1) fr hl⟩,h.live,h.qI⟩
 ·obtain⟨l,j⟩:=k;obtain⟨hv,hh,hr⟩:=h.obj (l+1,j) o (by rw[bF];exact ho);rw[bF] at hh;exact⟨hv,hh,hr⟩
 ·obtain⟨l,j⟩:=k;obtain⟨l',j'⟩:=k';have:=h.apart (l+1,j) (l'+1,j') o o' h1 h2 b (by rw[bF];exact e1) (by rw[bF];exact e2) e3 (by rw[bF];exact e4) (by rw[bF];exact e5) e6;cases this;rfl
theorem dH.up1(h:dH w σ S β):dH w σ ([]::S) ([]::β):=by
 refine⟨fun k o ho=> ?_,fun k k' o o' h1 h2 b e1 e2 e3 e4 e5 e6=> ?_,⟨by simp[h.shape.1],fun l fr hl=> ?_⟩,h.live,h.qI⟩
 ·obtain⟨l,j⟩:=k
  cases l with
  |zero=>rw[aY] at ho;simp at ho
  |succ l=>
   rw[bF] at ho;obtain⟨hv,hh,hr⟩:=h.obj (l,j) o ho;exact⟨hv,by rw[bF];exact hh,hr⟩
 ·obtain⟨l,j⟩:=k;obtain⟨l',j'⟩:=k'
  cases l with
  |zero=>rw[aY] at e1;simp at e1
  |succ l=>
   cases l' with
   |zero=>rw[aY] at e4;simp at e4
   |succ l'=>
    rw[bF] at e1 e2 e4 e5;have:=h.apart (l,j) (l',j') o o' h1 h2 b e1 e2 e3 e4 e5 e6;cases this;rfl
 ·cases l with
  |zero=>simp at hl;subst hl;exact⟨[],rfl,rfl⟩
  |succ l=>exact h.shape.2 l fr hl
theorem yE{b:Nat}(h:Own ([]::S) ([]::β) b):Own S β b:=by
 obtain⟨⟨l,j⟩,o,hv,h1,h2,h3⟩:=h
 cases l with
 |zero=>rw[aY] at h1;simp at h1
 |succ l=>rw[bF] at h1 h2;exact⟨(l,j),o,hv,h1,h2,h3⟩
theorem wG{own:List Obj}{Ω:Store}{bo:List Value}{bΩ:Hs}{b:Nat}(h:Own Ω bΩ b):Own (own::Ω) (bo::bΩ) b:=by
 obtain⟨⟨l,j⟩,o,hv,h1,h2,h3⟩:=h;exact⟨(l+1,j),o,hv,by rw[bF];exact h1,by rw[bF];exact h2,h3⟩
theorem yc:∀(args:List V)(i t:Nat),look (kG args i) t=if i<=t then(args[t-i]?).getD .any else .any
 |[],i,t=>by simp[kG,look]
 |v::args,i,t=>by
  rw[kG,look,yc args (i+1) t];by_cases h1:i=t
  ·subst h1;simp
  ·rw[if_neg h1];by_cases h2:i+1<=t
   ·rw[if_pos h2,if_pos (by omega)];rw[show t-i=(t-(i+1))+1 from by omega];rfl
   ·rw[if_neg h2,if_neg (by omega)]
theorem oo{f:FuncId}{fn:Func}{c:Code}{args:List V}{post:V->Store->Prop}(hf:P.funcs[f]? =some fn)(hb:fn.body=some c)(hn:(fn.name== "runtime.NumGoroutine")=false)
 (hl:args.length<=fn.ntmps)(h:AW P fn.ntmps c (Zy P fn.results.toList post) ⟨kG (args.map (V.up 1)) 0,[]::S⟩):bD P f args S post:=by
 refine⟨⟨fn,hf,hn,by simp[hb]⟩,fun w σ β vs hS hargs=> ?_⟩;refine calls_of_wp hf hb ?_;have hlen:vs.length=args.length:=hargs.1.symm
 have NZ:jc fn.ntmps ⟨kG (args.map (V.up 1)) 0,[]::S⟩ {tmps:=vs.toArray++Array.replicate (fn.ntmps-vs.toArray.size) undef,defers:=[]} w σ ([]::β):=by
  refine⟨by simp;omega,rfl,hS.up1,fun t=> ?_⟩;show bV w σ ([]::S) ([]::β) (look (kG (args.map (V.up 1)) 0) t) _;rw[yc,if_pos (Nat.zero_le _),Nat.sub_zero,List.getElem?_map]
  cases ha:args[t]? with
  |none=>exact trivial
  |some x=>
   obtain⟨v,hv,hr⟩:=hargs.2 t x ha;have ht:=(List.getElem?_eq_some_iff.1 hv).1
   have:(vs.toArray++Array.replicate (fn.ntmps-vs.toArray.size) undef).getD t undef=v:=by
    rw[Array.getD_eq_getD_getElem?,Array.getElem?_append_left (by simpa using ht)];simp[hv]
   rw[this];exact ER (S:=[]::S) (β:=[]::β) 1 hr
 refine wp_mono (h _ w σ ([]::β) NZ) ?_;rintro e a' w' ⟨s',σ',β',hR,hst,hkp,hq⟩
 have main:(mO P fn.results.toList s').1/\(match(mO P fn.results.toList s').2.ret with|some r=>post r (fD s'.st)|none=>False)->
  a'.defers=[]/\∃v,(results fn a'.tmps).run P w'=.ok v w'/\∃v_1 r S' σ' β',Ending.returned v=Ending.returned v_1/\dH w' σ' S' β'/\Keep S β S' β'/\Step S β σ w S' β' σ' w'/\bV w' σ' S' β' r v_1/\post r S':=by
  rintro⟨q1,q2⟩;obtain⟨v,hv,hrep⟩:=Dr (fn:=fn) hR q1;split at q2
  ·rename_i r hr;obtain⟨tm,st⟩:=s';have agC:=NY hr hrep;refine⟨hR.defers,v,hv,v,r,fD st,σ',fD β',rfl,?_,hkp,?_,agC,q2⟩
   ·cases st with
    |nil=>
     cases β' with
     |nil=>exact hR.S
     |cons=>have:=hR.S.shape.1;simp at this
    |cons own Ω=>
     cases β' with
     |nil=>have:=hR.S.shape.1;simp at this
     |cons bo bΩ=>exact hR.S.Ik
   ·refine⟨hst.size,hst.os,hst.output,fun b hb ho=>hst.far b hb (fun x=>ho (yE x)),hst.near,fun b hb=> ?_⟩
    cases st with
    |nil=>obtain⟨k,o,hv,h1,_⟩:=hb;simp[fD,mI] at h1
    |cons own Ω=>
     cases β' with
     |nil=>obtain⟨k,o,hv,h1,h2,_⟩:=hb;simp[fD,mI] at h2
     |cons bo bΩ=>exact(hst.own b (wG hb)).imp yE id
  ·exact q2.elim
 cases e with
 |normal=>exact main hq
 |ret=>exact main hq
 |_=>exact hq.elim
end
def oM:Op->Bool
 | .alloc _=>true
 | .box _ _=>true
 | .store _ _ _=>true
 | .makeSlice _ _ _=>true
 | .makeMap _ none=>true
 | .mapUpdate _ _ _ _=>true
 | .call {callee:=.builtin .append,args:=_,argTypes:=_}=>true
 |_=>false
def vG:Op->Bool
 | .store _ _ _=>true
 | .mapUpdate _ _ _ _=>true
 |_=>false
def iO:Op->Bool
 | .call {callee:=.value _,args:=_,argTypes:=_}=>true
 |_=>false
abbrev Md:=Op->Nat
def eF(E:Md)(op:Op):Bool:=oM op||(decide (1<=E op)&&iO op)
def jW(E:Md)(op:Op):Bool:=vG op||(decide (2<=E op)&&iO op)
theorem ZA{E:Md}{op:Op}(h:oM op=true):eF E op=true:=by simp[eF,h]
theorem WH{E:Md}{op:Op}(h:jW E op=true):eF E op=true:=by
 unfold jW eF at *
 rw[Bool.or_eq_true] at h ⊢;refine h.imp (fun hs=> ?_) (fun h=> ?_)
 ·cases op<;>first|rfl|simp[vG] at hs
 ·rw[Bool.and_eq_true,decide_eq_true_eq] at h ⊢;exact⟨by omega,h.2⟩
def DS(S S':Store):Prop:=∀k o,aR S k=some o->aR S' k=some o\/((∃z es,pR o z es)/\∃o' z es,aR S' k=some o'/\pR o' z es)
def BL(P:Program)(tm:List (Nat×V))(c:Call)(r:V):Prop:=
 match c.callee with
 | .value x=>match ev tm x with
   | .c (.fn f caps)=>aG P f (c.args.toList.map (ev tm)++caps.map fun y=>.c (.ptr y.1 y.2)) r
   |_=>False
 |_=>False
def eO(P:Program)(E:Md)(o:Oper)(s:St)(K:St->Prop):Prop:=
 if oM o.op then bK P o s K else
 match o.op with
 | .call {callee:=.value x,args,argTypes}=>match E (.call {callee:=.value x,args,argTypes}) with
   |0=>∃r,BL P s.tm {callee:=.value x,args,argTypes} r/\K (s.put o.dst r)
   |1=>∃S' v,DS s.st S'/\bK P o s (fun t=>t=St.put ⟨s.tm,S'⟩ o.dst v)/\K (St.put ⟨s.tm,S'⟩ o.dst v)
   |_=>∃S' v,bK P o s (fun t=>t=St.put ⟨s.tm,S'⟩ o.dst v)/\K (St.put ⟨s.tm,S'⟩ o.dst v)
 |op=>(nval P s.st s.tm op).1/\K (s.put o.dst (nval P s.st s.tm op).2)
def nk(P:Program)(E:Md)(R:Array Oper)(o:Oper)(s:St)(K:St->Prop):Prop:=
 match o.guard with
 |none=>eO P E o s K
 |some (j,want)=>
  match(fA R j).map (look s.tm) with
  |some (.c (.d (.b x)))=>(x=want->eO P E o s K)/\(x= !want->K (s.put o.dst (.eG [])))
  |some (.eG [])=>K (s.put o.dst (.eG []))
  |_=>False
def qL(P:Program)(E:Md)(R:Array Oper):List Oper->St->(St->Prop)->Prop
 |[],s,K=>K s
 |o::os,s,K=>nk P E R o s fun s'=>qL P E R os s' K
def NV(P:Program)(S:Store)(tm:List (Nat×V))(op:Op)(v:V):Prop:=
 (∃c,op=.call c/\BL P tm c v)\/((nval P S tm op).1/\v=(nval P S tm op).2)
def gd(R:Array Oper)(o:Oper)(tm:List (Nat×V)):Option Bool:=
 match o.guard with
 |none=>some true
 |some (j,want)=>
  match(fA R j).map (look tm) with
  |some (.c (.d (.b x)))=>some (x==want)
  |some (.eG [])=>some false
  |_=>none
def lq(P:Program)(E:Md)(R:Array Oper)(o:Oper)(s:St)(v:V)(s':St):Prop:=
 (gd R o s.tm=some false/\v=.eG []/\s'=s.put o.dst v)\/
 (gd R o s.tm=some true/\eF E o.op=false/\NV P s.st s.tm o.op v/\s'=s.put o.dst v)\/
 (gd R o s.tm=some true/\eF E o.op=true/\bK P o s (fun t=>t=s')/\s'=St.put ⟨s.tm,s'.st⟩ o.dst v/\(oM o.op=false->jW E o.op=false->DS s.st s'.st))
section
variable {P:Program} {w w':World} {σ σ':Nat->Nat} {S S':Store} {β β':Hs} {N:Nat} {s:St} {a:Act}
theorem pG{dst:Option Nat}{o:Obj}{mk:Key->V}{K:St->Prop}(h:newObj s dst o mk K):∃S' v,newObj s dst o mk (fun t=>t=St.put ⟨s.tm,S'⟩ dst v)/\K (St.put ⟨s.tm,S'⟩ dst v):=by
 unfold newObj at h ⊢;split at h
 ·rename_i own Ω hst;exact⟨_,_,rfl,h⟩
 ·exact h.elim
theorem ac8{b:Bool}{es x:List (List D)}{z:Nat}{dst:Option Nat}{K:St->Prop}(h:xu b es s dst z x K):∃S' v,xu b es s dst z x (fun t=>t=St.put ⟨s.tm,S'⟩ dst v)/\K (St.put ⟨s.tm,S'⟩ dst v):=by
 cases b with
 |false=>exact pG (o:=.tok z x) (mk:=fun k=>.c (.bG k x)) h
 |true=>
  obtain⟨S',v,h1,h2⟩:=pG (o:=.dL z x) (mk:=fun k=>.c (.gK k)) h.2;exact⟨S',v,⟨h.1,h1⟩,h2⟩
theorem ac9{l:Option Nat}{es x:List (List D)}{z:Nat}{dst:Option Nat}{K:St->Prop}(h:yQ l es s dst z x K):∃S' v,yQ l es s dst z x (fun t=>t=St.put ⟨s.tm,S'⟩ dst v)/\K (St.put ⟨s.tm,S'⟩ dst v):=by
 cases l with
 |none=>exact ac8 h
 |some n=>
  cases es with
  |nil=>exact⟨s.st,_,rfl,h⟩
  |cons y es=>exact pG (o:=.tok z x) (mk:=fun k=>.c (.bG k x)) h
theorem ada{b:Bool}{n:Nat}{x:List (List D)}{z:Nat}{dst:Option Nat}{K:St->Prop}(h:Aj b n s dst z x K):∃S' v,Aj b n s dst z x (fun t=>t=St.put ⟨s.tm,S'⟩ dst v)/\K (St.put ⟨s.tm,S'⟩ dst v):=by
 cases b with
 |false=>exact pG (o:=.eD n z x) (mk:=fun k=>.c (.bG k x)) h
 |true=>exact⟨s.st,_,rfl,h⟩
theorem ZB{o:Oper}{K:St->Prop}(hD:oM o.op=true)(h:bK P o s K):∃S' v,bK P o s (fun t=>t=St.put ⟨s.tm,S'⟩ o.dst v)/\K (St.put ⟨s.tm,S'⟩ o.dst v):=by
 obtain⟨dst,op,ty,pos,after,guard⟩:=o
 cases op with
 |alloc t=>
  simp only[bK,qW] at h ⊢;split at h
  ·exact pG h
  ·exact h.elim
 |box t x=>
  simp only[bK,yP] at h ⊢;split at h
  ·exact pG h
  ·exact h.elim
 |makeSlice t l c=>
  simp only[bK,uH] at h ⊢;split at h
  ·split at h
   ·obtain⟨h1,h2,h3,h4,h5,h6⟩:=h;obtain⟨S',v,k1,k2⟩:=pG h6;exact⟨S',v,⟨h1,h2,h3,h4,h5,k1⟩,k2⟩
   ·exact h.elim
  ·exact h.elim
 |store t x y=>
  simp only[bK,qX] at h ⊢;split at h
  ·split at h
   ·obtain⟨h1,h2,h3,h4⟩:=h;exact⟨_,_,⟨h1,h2,h3,rfl⟩,h4⟩
   ·exact h.elim
  ·split at h
   ·obtain⟨h1,h2,h3,h4,h5⟩:=h;exact⟨_,_,⟨h1,h2,h3,h4,rfl⟩,h5⟩
   ·exact h.elim
  ·split at h
   ·split at h
    ·split at h
     ·obtain⟨h1,h2,h3,h4,h5,h6⟩:=h;exact⟨_,_,⟨h1,h2,h3,h4,h5,rfl⟩,h6⟩
     ·exact h.elim
    ·exact h.elim
   ·exact h.elim
  ·exact h.elim
 |makeMap t r=>
  cases r with
  |none=>
   simp only[bK,qz] at h ⊢;exact pG h
  |some r=>simp[oM] at hD
 |mapUpdate t x y z=>
  simp only[bK,qA] at h ⊢;split at h
  ·split at h
   ·exact⟨_,_,rfl,h⟩
   ·exact h.elim
  ·exact h.elim
 |call c=>
  obtain⟨wF,args,uK⟩:=c
  cases wF with
  |builtin b=>
   cases b with
   |append=>
    simp only[bK,lT] at h ⊢;split at h
    ·simp only[oL] at h ⊢;split at h
     ·obtain⟨h1,h2,h3,h4⟩:=h;split at h4
      ·split at h4
       ·obtain⟨k1,k2,k3,k4⟩:=h4;exact⟨_,_,⟨h1,h2,h3,k1,k2,k3,rfl⟩,k4⟩
       ·obtain⟨k1,k2,k3,k4⟩:=h4;exact⟨_,_,⟨h1,h2,h3,k1,k2,k3,rfl⟩,k4⟩
       ·exact h4.elim
      ·obtain⟨k1,k2,k3⟩:=h4;obtain⟨S',v,l1,l2⟩:=ac9 k3;exact⟨S',v,⟨h1,h2,h3,k1,k2,l1⟩,l2⟩
      ·obtain⟨k1,k2,k3⟩:=h4;obtain⟨S',v,l1,l2⟩:=ada k3;exact⟨S',v,⟨h1,h2,h3,k1,k2,l1⟩,l2⟩
      ·exact h4.elim
     ·exact h.elim
    ·exact h.elim
   |_=>simp[oM] at hD
  |_=>simp[oM] at hD
 |_=>simp[oM] at hD
theorem WI{tm tm':List (Nat×V)}{dst:Option Nat}{o:Obj}{mk:Key->V}{v:V}(h:newObj ⟨tm,S⟩ dst o mk (fun t=>t=St.put ⟨tm,S'⟩ dst v))(hd:dst≠none):
 newObj ⟨tm',S⟩ dst o mk (fun t=>t=St.put ⟨tm',S'⟩ dst v):=by
 unfold newObj at h ⊢
 cases S with
 |nil=>exact h
 |cons own Ω=>
  cases dst with
  |none=>exact absurd rfl hd
  |some d=>
   simp only[St.put,St.mk.injEq,List.cons.injEq,Prod.mk.injEq,and_true,true_and] at h ⊢;exact h
theorem TM{tm tm':List (Nat×V)}{o:Obj}{mk:Key->V}{v:V}(h:newObj ⟨tm,S⟩ none o mk (fun t=>t=St.put ⟨tm,S'⟩ none v)):
 newObj ⟨tm',S⟩ none o mk (fun t=>t=St.put ⟨tm',S'⟩ none v):=by
 unfold newObj at h ⊢
 cases S with
 |nil=>exact h
 |cons own Ω=>
  simp only[St.put,St.mk.injEq,true_and] at h ⊢;exact h
theorem nQ{tm tm':List (Nat×V)}{dst:Option Nat}{o:Obj}{mk:Key->V}{v:V}(h:newObj ⟨tm,S⟩ dst o mk (fun t=>t=St.put ⟨tm,S'⟩ dst v)):
 newObj ⟨tm',S⟩ dst o mk (fun t=>t=St.put ⟨tm',S'⟩ dst v):=by
 cases dst with
 |none=>exact TM h
 |some d=>exact WI h (by simp)
theorem r9{tm tm':List (Nat×V)}{dst:Option Nat}{S1 S2:Store}{v v':V}(h:St.put ⟨tm,S1⟩ dst v=St.put ⟨tm,S2⟩ dst v'):St.put ⟨tm',S1⟩ dst v=St.put ⟨tm',S2⟩ dst v':=by
 cases dst with
 |none=>simp only[St.put,St.mk.injEq,true_and] at h ⊢;exact h
 |some d=>simp only[St.put,St.mk.injEq,List.cons.injEq,Prod.mk.injEq,and_true,true_and] at h ⊢;exact h
theorem ZC{b:Bool}{es x:List (List D)}{z:Nat}{tm tm':List (Nat×V)}{dst:Option Nat}{v:V}(h:xu b es ⟨tm,S⟩ dst z x (fun t=>t=St.put ⟨tm,S'⟩ dst v)):
 xu b es ⟨tm',S⟩ dst z x (fun t=>t=St.put ⟨tm',S'⟩ dst v):=by
 cases b with
 |false=>exact nQ (o:=.tok z x) (mk:=fun k=>.c (.bG k x)) h
 |true=>exact⟨h.1,nQ (o:=.dL z x) (mk:=fun k=>.c (.gK k)) h.2⟩
theorem ZE{l:Option Nat}{es x:List (List D)}{z:Nat}{tm tm':List (Nat×V)}{dst:Option Nat}{v:V}(h:yQ l es ⟨tm,S⟩ dst z x (fun t=>t=St.put ⟨tm,S'⟩ dst v)):
 yQ l es ⟨tm',S⟩ dst z x (fun t=>t=St.put ⟨tm',S'⟩ dst v):=by
 cases l with
 |none=>exact ZC h
 |some n=>
  cases es with
  |nil=>exact r9 h
  |cons y es=>exact nQ (o:=.tok z x) (mk:=fun k=>.c (.bG k x)) h
theorem ZF{b:Bool}{n:Nat}{x:List (List D)}{z:Nat}{tm tm':List (Nat×V)}{dst:Option Nat}{v:V}(h:Aj b n ⟨tm,S⟩ dst z x (fun t=>t=St.put ⟨tm,S'⟩ dst v)):
 Aj b n ⟨tm',S⟩ dst z x (fun t=>t=St.put ⟨tm',S'⟩ dst v):=by
 cases b with
 |false=>exact nQ (o:=.eD n z x) (mk:=fun k=>.c (.bG k x)) h
 |true=>exact r9 h
theorem ZG{o:Oper}{tm tm':List (Nat×V)}{v:V}(hD:oM o.op=true)(he:∀x∈o.op.operands,ev tm x=ev tm' x)(h:bK P o ⟨tm,S⟩ (fun t=>t=St.put ⟨tm,S'⟩ o.dst v)):
 bK P o ⟨tm',S⟩ (fun t=>t=St.put ⟨tm',S'⟩ o.dst v):=by
 obtain⟨dst,op,ty,pos,after,guard⟩:=o
 cases op with
 |alloc t=>
  simp only[bK,qW] at h ⊢;split at h
  ·exact nQ h
  ·exact h.elim
 |box t x=>
  have e1:=he x (by simp[Op.operands]);simp only[bK,yP,e1] at h ⊢;split at h
  ·exact nQ h
  ·exact h.elim
 |makeSlice t l c=>
  have e1:=he l (by simp[Op.operands]);have e2:=he c (by simp[Op.operands]);simp only[bK,uH,e1,e2] at h ⊢;split at h
  ·split at h
   ·obtain⟨h1,h2,h3,h4,h5,h6⟩:=h;exact⟨h1,h2,h3,h4,h5,nQ h6⟩
   ·exact h.elim
  ·exact h.elim
 |store t x y=>
  have e1:=he x (by simp[Op.operands]);have e2:=he y (by simp[Op.operands]);simp only[bK,qX,e1,e2] at h ⊢;split at h
  ·split at h
   ·obtain⟨h1,h2,h3,h4⟩:=h;exact⟨h1,h2,h3,r9 h4⟩
   ·exact h.elim
  ·split at h
   ·obtain⟨h1,h2,h3,h4,h5⟩:=h;exact⟨h1,h2,h3,h4,r9 h5⟩
   ·exact h.elim
  ·split at h
   ·split at h
    ·split at h
     ·obtain⟨h1,h2,h3,h4,h5,h6⟩:=h;exact⟨h1,h2,h3,h4,h5,r9 h6⟩
     ·exact h.elim
    ·exact h.elim
   ·exact h.elim
  ·exact h.elim
 |makeMap t r=>
  cases r with
  |none=>
   simp only[bK,qz] at h ⊢;exact nQ h
  |some r=>simp[oM] at hD
 |mapUpdate t x y z=>
  have e1:=he x (by simp[Op.operands]);have e2:=he y (by simp[Op.operands]);have e3:=he z (by simp[Op.operands]);simp only[bK,qA,e1,e2,e3] at h ⊢;split at h
  ·split at h
   ·exact r9 h
   ·exact h.elim
  ·exact h.elim
 |call c=>
  obtain⟨wF,args,uK⟩:=c
  cases wF with
  |builtin b=>
   cases b with
   |append=>
    simp only[bK,lT] at h ⊢;split at h
    ·rename_i x y t u hxy htu
     have hargs:args= #[x,y]:=by rw[<-Array.toArray_toList (xs:=args),hxy]
     have e1:=he x (by simp[Op.operands,Call.operands,hargs]);have e2:=he y (by simp[Op.operands,Call.operands,hargs]);simp only[oL,e1,e2] at h ⊢;split at h
     ·obtain⟨h1,h2,h3,h4⟩:=h;refine⟨h1,h2,h3,?_⟩;split at h4
      ·split at h4
       ·obtain⟨k1,k2,k3,k4⟩:=h4;exact⟨k1,k2,k3,r9 k4⟩
       ·obtain⟨k1,k2,k3,k4⟩:=h4;exact⟨k1,k2,k3,r9 k4⟩
       ·exact h4.elim
      ·obtain⟨k1,k2,k3⟩:=h4;exact⟨k1,k2,ZE k3⟩
      ·obtain⟨k1,k2,k3⟩:=h4;exact⟨k1,k2,ZF k3⟩
      ·exact h4.elim
     ·exact h.elim
    ·exact h.elim
   |_=>simp[oM] at hD
  |_=>simp[oM] at hD
 |_=>simp[oM] at hD
theorem ZH{f:FuncId}{args:List V}{tm tm':List (Nat×V)}{dst:Option Nat}{v:V}(h:vW P f args ⟨tm,S⟩ dst (fun t=>t=St.put ⟨tm,S'⟩ dst v)):vW P f args ⟨tm',S⟩ dst (fun t=>t=St.put ⟨tm',S'⟩ dst v):=by
 rcases h with⟨post,h1,h2⟩|⟨r,h1,h2⟩
 ·exact .inl ⟨post,h1,fun r Nh hp=>r9 (h2 r Nh hp)⟩
 ·exact .inr ⟨r,h1,r9 h2⟩
theorem ZI{E:Md}{o:Oper}{tm tm':List (Nat×V)}{v:V}(hD:eF E o.op=true)(he:∀x∈o.op.operands,ev tm x=ev tm' x)(h:bK P o ⟨tm,S⟩ (fun t=>t=St.put ⟨tm,S'⟩ o.dst v)):
 bK P o ⟨tm',S⟩ (fun t=>t=St.put ⟨tm',S'⟩ o.dst v):=by
 by_cases hd:oM o.op=true
 ·exact ZG hd he h
 ·have hc:iO o.op=true:=by
   unfold eF at hD;rw[Bool.or_eq_true,Bool.and_eq_true] at hD;rcases hD with h|h
   ·exact absurd h hd
   ·exact h.2
  obtain⟨dst,op,ty,pos,after,guard⟩:=o
  cases op with
  |call c=>
   obtain⟨wF,args,uK⟩:=c
   cases wF with
   |value x=>
    have h1:args.toList.map (ev tm)=args.toList.map (ev tm'):=List.map_congr_left fun y hy=>he y (by simp[Op.operands,Call.operands];exact .inr (by simpa using hy));have h2:ev tm x=ev tm' x:=he x (by simp[Op.operands,Call.operands]);simp only[bK,lT,h1,h2] at h ⊢;split at h
    ·exact ZH h
    ·exact h.elim
   |_=>simp[iO] at hc
  |_=>simp[iO] at hc
theorem adb{tm tm':List (Nat×V)}{op:Op}(he:∀x∈op.operands,ev tm x=ev tm' x):nval P S tm op=nval P S tm' op:=by
 unfold nval lS
 split<;>try rfl
 ·rw[he _ (by simp[Op.operands])]
 ·rw[he _ (by simp[Op.operands])]
 ·rename_i c x y;rw[he c (by simp[Op.operands]),he x (by simp[Op.operands]),he y (by simp[Op.operands])]
 ·rw[he _ (by simp[Op.operands])]
 ·rw[he _ (by simp[Op.operands])]
 ·rw[he _ (by simp[Op.operands])]
 ·rename_i t x i;rw[he x (by simp[Op.operands]),he i (by simp[Op.operands])]
 ·rename_i t x i;rw[he x (by simp[Op.operands]),he i (by simp[Op.operands])]
 ·rename_i op t x y _;rw[he x (by simp[Op.operands]),he y (by simp[Op.operands])]
 ·rw[he _ (by simp[Op.operands])]
 ·rw[he _ (by simp[Op.operands])]
 ·rw[he _ (by simp[Op.operands])]
 ·rename_i fn first caps
  have h1:first.toList.map (ev tm)=first.toList.map (ev tm'):=List.map_congr_left fun x hx=>he x (by simp[Op.operands];exact .inl (by simpa using hx))
  have h2:caps.toList.map (ev tm)=caps.toList.map (ev tm'):=List.map_congr_left fun x hx=>he x (by simp[Op.operands];exact .inr (by simpa using hx));rw[h1,h2]
 ·rw[he _ (by simp[Op.operands])]
 ·rename_i t x lo hi mx;rw[he x (by simp[Op.operands])]
  have h1:lo.map (ev tm)=lo.map (ev tm'):=by
   cases lo with
   |none=>rfl
   |some y=>simp[he y (by simp[Op.operands])]
  have h2:hi.map (ev tm)=hi.map (ev tm'):=by
   cases hi with
   |none=>rfl
   |some y=>simp[he y (by simp[Op.operands])]
  have h3:mx.map (ev tm)=mx.map (ev tm'):=by
   cases mx with
   |none=>rfl
   |some y=>simp[he y (by simp[Op.operands])]
  rw[h1,h2,h3]
 ·rename_i t parts
  have h1:(parts.toList.map fun x=>(x.1,ev tm x.2))=parts.toList.map fun x=>(x.1,ev tm' x.2):=List.map_congr_left fun x hx=>by
   rw[he x.2 (by simp only[Op.operands,List.mem_toArray,List.mem_map];exact⟨x,hx,rfl⟩)]
  rw[h1]
 ·rename_i t n parts
  have h1:(parts.toList.map fun x=>(x.1,ev tm x.2))=parts.toList.map fun x=>(x.1,ev tm' x.2):=List.map_congr_left fun x hx=>by
   rw[he x.2 (by simp only[Op.operands,List.mem_toArray,List.mem_map];exact⟨x,hx,rfl⟩)]
  rw[h1]
 ·rename_i t x i;rw[he x (by simp[Op.operands]),he i (by simp[Op.operands])]
 ·rename_i args uK;split
  ·rename_i x t hx ht
   have hargs:args= #[x]:=by rw[<-Array.toArray_toList (xs:=args),hx]
   rw[he x (by simp[Op.operands,Call.operands,hargs])]
  ·rfl
 ·rename_i args uK;split
  ·rename_i x y hx
   have hargs:args= #[x,y]:=by rw[<-Array.toArray_toList (xs:=args),hx]
   rw[he x (by simp[Op.operands,Call.operands,hargs]),he y (by simp[Op.operands,Call.operands,hargs])]
  ·rfl
 ·rename_i args uK;split
  ·rename_i x y hx
   have hargs:args= #[x,y]:=by rw[<-Array.toArray_toList (xs:=args),hx]
   rw[he x (by simp[Op.operands,Call.operands,hargs]),he y (by simp[Op.operands,Call.operands,hargs])]
  ·rfl
theorem ZJ{tm tm':List (Nat×V)}{c:Call}{v:V}(he:∀x∈c.operands,ev tm x=ev tm' x)(h:BL P tm c v):BL P tm' c v:=by
 unfold BL at h ⊢;obtain⟨wF,args,uK⟩:=c
 cases wF with
 |value x=>
  simp only at h ⊢;rw[<-he x (by simp[Call.operands])];have h1:args.toList.map (ev tm)=args.toList.map (ev tm'):=List.map_congr_left fun y hy=>he y (by simp[Call.operands];exact .inr (by simpa using hy));rw[<-h1];exact h
 |_=>exact h
def N7:Obj->Prop
 | .box _=>True
 | .dL _ _=>True
 | .mp _=>True
 | .xf _=>True
 |_=>False
def ES(v:V)(k:Key):Prop:=(∃off,v=.c (.ptr k off))\/(∃i off,v=.c (.jV k i off))\/v=.c (.gK k)\/v=.c (.mp k)\/(∃r p,v=.c (.xp k r p))\/∃r p z i off,v=.c (.xq k r p z i off)
def Fix(S S':Store):Prop:=∀k o,aR S k=some o->N7 o->aR S' k=some o
theorem Fix.refl(S:Store):Fix S S:=fun _ _ h _=>h
theorem fO{q:Prop}(h:no.1):q:=h.elim
theorem ZK{l:Option Nat}{tm:List (Nat×V)}{op:Op}(h:(lS P l S tm op).1)
 (hf:∀x∈op.operands,∀k,ES (ev tm x) k->
   ∀o,aR S k=some o->N7 o->aR S' k=some o):lS P l S' tm op=lS P l S tm op:=by
 unfold lS at h ⊢
 split at h<;>try rfl
 ·rename_i t x;have hf:=hf x (by simp[Op.operands]);unfold xY at h ⊢;split at h
  ·rfl
  ·split at h
   ·rename_i hx;simp only[hx]
   ·rename_i k off hx;split at h
    ·rename_i cs hk;rw[hf k (.inl ⟨off,hx⟩) _ hk trivial]
    ·exact fO h
   ·rename_i k i off hx;split at h
    ·rename_i aN es hk;rw[hf k (.inr (.inl ⟨i,off,hx⟩)) _ hk trivial]
    ·exact fO h
   ·rename_i k r p z i off hx;split at h
    ·rename_i rs hk;rw[hf k (.inr (.inr (.inr (.inr (.inr ⟨r,p,z,i,off,hx⟩))))) _ hk trivial]
    ·exact fO h
   ·exact fO h
 ·rename_i t x f;have hf:=hf x (by simp[Op.operands]);unfold pU at h ⊢;split at h
  ·split at h
   ·split at h
    ·exact fO h
    ·rename_i fs hs _ fd hfd hne;split at h
     ·rename_i hx;simp[hs,hfd,hne,hx]
     ·rename_i k off hx;split at h
      ·rename_i cs hk;simp only[hs,hfd,hne,if_false,hx,hf k (.inl ⟨off,hx⟩) _ hk trivial,hk]
      ·exact fO h
     ·rename_i k i off hx;split at h
      ·rename_i aN es hk;simp only[hs,hfd,hne,if_false,hx,hf k (.inr (.inl ⟨i,off,hx⟩)) _ hk trivial,hk]
      ·exact fO h
     ·rename_i k r p z i off hx;split at h
      ·rename_i rs hk;simp only[hs,hfd,hne,if_false,hx,hf k (.inr (.inr (.inr (.inr (.inr ⟨r,p,z,i,off,hx⟩))))) _ hk trivial,hk]
      ·exact fO h
     ·exact fO h
   ·exact fO h
  ·exact fO h
 ·rename_i t x i;have hf:=hf x (by simp[Op.operands]);unfold pV at h ⊢;split at h
  ·rename_i e k n' n ht hx hi;split at h
   ·rename_i aN es hk;simp only[ht,hx,hi,hf k (.inr (.inr (.inl hx))) _ hk trivial,hk]
   ·exact fO h
  ·rename_i len e k off n' n ht hx hi;split at h
   ·rename_i cs hk;simp only[ht,hx,hi,hf k (.inl ⟨off,hx⟩) _ hk trivial,hk]
   ·exact fO h
  ·rename_i e k r p n' n ht hx hi;split at h
   ·rename_i rs hk;simp only[ht,hx,hi,hf k (.inr (.inr (.inr (.inr (.inl ⟨r,p,hx⟩))))) _ hk trivial,hk]
   ·exact fO h
  ·rename_i e y n' n hy hy2 ht hx hi;simp only[ht,hx,hi]
  ·exact fO h
 ·rename_i x;have hf:=hf x (by simp[Op.operands]);unfold tu at h ⊢;split at h
  ·rename_i k off hx;split at h
   ·rename_i cs hk;simp only[hx,hf k (.inl ⟨off,hx⟩) _ hk trivial,hk]
   ·exact fO h
  ·rename_i hx;simp only[hx]
  ·exact fO h
 ·rename_i t x i;have hf:=hf x (by simp[Op.operands]);unfold vD at h ⊢;split at h
  ·rename_i kt et k l ht uy hi;split at h
   ·rename_i m hk hkt hz;simp only[ht,uy,hi,hf k (.inr (.inr (.inr (.inl uy)))) _ hk trivial,hk,hkt,hz]
   ·exact fO h
  ·exact fO h
 ·rename_i args uK;split at h
  ·rename_i x t hx ht
   have hargs:args= #[x]:=by rw[<-Array.toArray_toList (xs:=args),hx]
   have hf:=hf x (by simp[Op.operands,Call.operands,hargs]);unfold BF at h ⊢;split at h
   ·rename_i l Il uy;simp only[Il,uy]
   ·rename_i n e Il;simp only[Il]
   ·rename_i e k Il uy;split at h
    ·rename_i aN es hk;simp only[Il,uy,hf k (.inr (.inr (.inl uy))) _ hk trivial,hk]
    ·exact fO h
   ·rename_i e k r p Il uy;split at h
    ·rename_i rs hk;simp only[Il,uy,hf k (.inr (.inr (.inr (.inr (.inl ⟨r,p,uy⟩))))) _ hk trivial,hk]
    ·exact fO h
   ·rename_i e y hy hy2 Il uy;simp only[Il,uy]
   ·exact fO h
  ·exact fO h
end
def sP(acc:List Nat):List Edge->Nat
 |[]=>0
 |e::es=>(if Region.binds .any e then 2^e.on ||| acc.getD e.on 0 else 0) ||| sP acc es
def masks:List Oper->List Nat->List Nat
 |[],acc=>acc
 |o::os,acc=>masks os (acc++[sP acc o.after.toList])
def clash(E:Md)(R:Array Oper)(x y:Oper):Bool:= !(x.apart R y)||(eF E x.op&&eF E y.op)||jW E x.op||jW E y.op
def wH(E:Md)(R:Array Oper)(N:Nat):Bool:=
 (List.range R.size).all fun j=>
   (match R[j]? with
    |some o=>o.after.toList.all (fun e=> !Region.binds .any e||decide (e.on<j))&&(match o.dst with|some d=>decide (d<N)|none=>true)
    |none=>true)&&
   (List.range j).all fun i=>
     match R[i]?,R[j]? with
     |some x,some y=>((masks R.toList []).getD j 0).testBit i|| !(clash E R x y)
     |_,_=>true
def pX(R:Array Oper)(i j:Nat):Bool:=if i<j then((masks R.toList []).getD j 0).testBit i else((masks R.toList []).getD i 0).testBit j
def lC(E:Md)(R:Array Oper)(x y:Oper):Bool:= !(x.apart R y)||(eF E x.op&&eF E y.op)
def settled(R:Array Oper)(i:Nat):Operand->Bool
 | .tmp t=>(List.range R.size).all fun n=>decide (n<i)|| !(fA R n==some t)
 |_=>true
def sj(R:Array Oper)(i:Nat)(x:Oper)(j:Nat)(y:Oper):Bool:=iO y.op||match x.op with
 | .store _ a _=>settled R i a&&y.op.operands.toList.all (settled R j)
 |_=>false
def ET(E:Md)(R:Array Oper)(N:Nat):Bool:=
 (List.range R.size).all fun j=>
   (match R[j]? with
    |some o=>o.after.toList.all (fun e=> !Region.binds .any e||decide (e.on<j))&&(match o.dst with|some d=>decide (d<N)|none=>true)
    |none=>true)&&
   (List.range j).all fun i=>
     match R[i]?,R[j]? with
     |some x,some y=>((masks R.toList []).getD j 0).testBit i|| !(lC E R x y||(jW E x.op&& !(sj R i x j y))||(jW E y.op&& !(sj R j y i x)))
     |_,_=>true
def TN(v w:V):Bool:=
 match w with
 | .c (.ptr k _)=>(match v with| .c (.ptr k' _)=>k'.2 !=k.2| .c (.jV k' _ _)=>k'.2 !=k.2|_=>false)
 | .c (.jV k _ _)=>(match v with| .c (.ptr k' _)=>k'.2 !=k.2| .c (.jV k' _ _)=>k'.2 !=k.2|_=>false)
 | .c (.gK k)=>(match v with| .c (.ptr k' _)=>k'.2 !=k.2| .c (.jV k' _ _)=>k'.2 !=k.2|_=>false)
 | .c (.mp k)=>(match v with| .c (.ptr k' _)=>k'.2 !=k.2| .c (.jV k' _ _)=>k'.2 !=k.2|_=>false)
 | .c (.xp _ _ _)=>false
 | .c (.xq _ _ _ _ _ _)=>false
 |_=>true
def M0(E:Md)(R:Array Oper)(tm:List (Nat×V)):Bool:=
 (List.range R.size).all fun i=>match R[i]? with
   |some x=> !(jW E x.op)||match x.op with
    | .store _ a _=>(List.range R.size).all fun j=>match R[j]? with
      |some y=>pX R i j||eF E y.op||iO y.op||y.op.operands.toList.all (fun z=>TN (ev tm a) (ev tm z))
      |none=>true
    |_=>true
   |none=>true
def Kj(R:Array Oper)(i:Nat):Bool:=
 (List.range R.size).all fun j=>decide (j=i)||(if j<i then((masks R.toList []).getD i 0).testBit j else((masks R.toList []).getD j 0).testBit i)
def wI:Op->Option FuncId
 | .call {callee:=.value (.func f),args:=_,argTypes:=_}=>some f
 |_=>none
def vX(R:Array Oper)(m:Nat):Md:=fun op=>if(List.range R.size).all (fun i=>match R[i]? with
 |some o=>(wI op !=wI o.op)||Kj R i
 |none=>true) then 2 else m
def vH:Op->Bool
 | .alloc _=>true
 |_=>false
def Dt(E:Md)(R:Array Oper)(p:Nat):Bool:=match R[p]? with
 |some o=>vH o.op&&o.guard.isNone&&o.dst.isSome&&(List.range R.size).all fun j=>match R[j]? with
  |some y=>decide (j=p)||y.apart R o||(List.range p).all fun i=>match R[i]? with
   |some x=> !(eF E x.op)||(decide (i<j)&&((masks R.toList []).getD j 0).testBit i)
   |none=>true
  |none=>true
 |none=>true
def WJ(E:Md)(R:Array Oper)(p j:Nat)(x y:Oper):Bool:= !(x.apart R y)||(!(decide (j=p))&&((eF E x.op&&eF E y.op)||jW E x.op||jW E y.op))
def AY(E:Md)(R:Array Oper)(N p:Nat):Bool:=
 Dt E R p&&(List.range R.size).all fun j=>
  (match R[j]? with
   |some o=>o.after.toList.all (fun e=> !Region.binds .any e||decide (e.on<j))&&(match o.dst with|some d=>decide (d<N)|none=>true)
   |none=>true)&&
  (List.range j).all fun i=>
    match R[i]?,R[j]? with
    |some x,some y=>((masks R.toList []).getD j 0).testBit i|| !(WJ E R p j x y)
    |_,_=>true
def ZL(E:Md)(R:Array Oper)(N p:Nat):Bool:=
 Dt E R p&&(List.range R.size).all fun j=>
  (match R[j]? with
   |some o=>o.after.toList.all (fun e=> !Region.binds .any e||decide (e.on<j))&&(match o.dst with|some d=>decide (d<N)|none=>true)
   |none=>true)&&
  (List.range j).all fun i=>
    match R[i]?,R[j]? with
    |some x,some y=>((masks R.toList []).getD j 0).testBit i|| !(!(x.apart R y)||(!(decide (j=p))&&((eF E x.op&&eF E y.op)||(jW E x.op&& !(sj R i x j y))||(jW E y.op&& !(sj R j y i x)))))
    |_,_=>true
def ZM(R:Array Oper)(p i:Nat):Bool:=
 (List.range R.size).all fun j=>decide (j=i)||decide (j=p)||(if j<i then((masks R.toList []).getD i 0).testBit j else((masks R.toList []).getD j 0).testBit i)
def Im(R:Array Oper)(p:Nat):Md:=fun op=>if(List.range R.size).all (fun i=>match R[i]? with
 |some o=>(wI op !=wI o.op)||ZM R p i
 |none=>true) then 2 else 0
def Gm(R:Array Oper)(p:Nat):Bool:=match R[p]? with
 |some o=>vH o.op
 |none=>false
def pOf(R:Array Oper)(N:Nat):Option Nat:=(List.range R.size).find? fun p=>Gm R p&&AY (Im R p) R N p
def ahX(R:Array Oper)(N:Nat):Option Nat:=(List.range R.size).find? fun p=>Gm R p&&ZL (Im R p) R N p
def Io(R:Array Oper)(N:Nat):Md:=if wH (vX R 1) R N then vX R 1 else match pOf R N with
 |some p=>Im R p
 |none=>if wH (vX R 0) R N then vX R 0 else fun _=>0
def Kk(R:Array Oper)(N:Nat):Bool:=wH (Io R N) R N||match pOf R N with
 |some p=>AY (Io R N) R N p
 |none=>false
def wJ(R:Array Oper)(N:Nat):Md:=if ET (vX R 1) R N then vX R 1 else match ahX R N with
 |some p=>Im R p
 |none=>if ET (vX R 0) R N then vX R 0 else fun _=>0
section
variable {P:Program} {E:Md} {w w':World} {σ σ':Nat->Nat} {S S':Store} {β β':Hs} {N:Nat} {s:St} {a:Act} {R:Array Oper}
theorem Du:∀(l:List Oper)(acc:List Nat)(i:Nat),i<acc.length->(masks l acc)[i]? =acc[i]?
 |[],acc,i,h=>rfl
 |o::os,acc,i,h=>by rw[masks,Du os _ i (by simp;omega),List.getElem?_append_left h]
theorem N8:∀(l:List Oper)(acc:List Nat)(i:Nat)(o:Oper),l[i]? =some o->
 ∃acc',(∀j,j<acc.length+i->acc'[j]? =(masks l acc)[j]?)/\acc'.length=acc.length+i/\(masks l acc)[acc.length+i]? =some (sP acc' o.after.toList)
 |[],acc,i,o,h=>by simp at h
 |x::os,acc,0,o,h=>by
  simp at h;subst h;refine⟨acc,fun j hj=> ?_,by simp,?_⟩
  ·rw[masks,Du os _ j (by simp;omega),List.getElem?_append_left (by omega)]
  ·rw[masks,Nat.add_zero,Du os _ _ (by simp),List.getElem?_append_right (Nat.le_refl _)];simp
 |x::os,acc,i+1,o,h=>by
  obtain⟨acc',h1,h2,h3⟩:=N8 os (acc++[sP acc x.after.toList]) i o (by simpa using h);refine⟨acc',fun j hj=> ?_,by rw[h2];simp;omega,?_⟩
  ·rw[masks];exact h1 j (by simp;omega)
  ·rw[masks,<-h3];congr 1;simp;omega
theorem Dv{acc:List Nat}{k:Nat}:∀(es:List Edge),(sP acc es).testBit k=true->∃e∈es,Region.binds .any e=true/\(e.on=k\/(acc.getD e.on 0).testBit k=true)
 |[],h=>by simp[sP] at h
 |e::es,h=>by
  rw[sP,Nat.testBit_or,Bool.or_eq_true] at h;rcases h with h|h
  ·by_cases hb:Region.binds .any e=true
   ·rw[if_pos hb,Nat.testBit_or,Bool.or_eq_true] at h;refine⟨e,by simp,hb,?_⟩;rcases h with h|h
    ·left;rw[Nat.testBit_two_pow] at h;simpa using h
    ·exact .inr h
   ·rw[if_neg hb] at h;simp at h
  ·obtain⟨e',he',h'⟩:=Dv es h;exact⟨e',by simp[he'],h'⟩
theorem zI(E:Nat->Prop)(hE:∀i o e,R[i]? =some o->E i->e∈o.after->Region.binds .any e=true->E e.on)(hlt:∀i o e,R[i]? =some o->e∈o.after->Region.binds .any e=true->e.on<i):
 ∀(i:Nat)(o:Oper),R[i]? =some o->(∀e∈o.after,Region.binds .any e=true->E e.on)->∀k,((masks R.toList []).getD i 0).testBit k=true->E k:=by
 intro i
 induction i using Nat.strongRecOn with
 |_ i ih=>
  intro o ho hed k hk;obtain⟨acc',h1,h2,h3⟩:=N8 R.toList [] i o (by simpa using ho);simp only[List.length_nil,Nat.zero_add] at h1 h2 h3;rw[List.getD_eq_getElem?_getD,h3] at hk;obtain⟨e,he,hb,hek⟩:=Dv _ hk
  have he':e∈o.after:=by simpa using he
  rcases hek with rfl|hek
  ·exact hed e he' hb
  ·have hon:=hlt i o e ho he' hb;have ahY:=hed e he' hb;have hilt:i<R.size:=(Array.getElem?_eq_some_iff.1 ho).1;have hsome:R[e.on]? =some R[e.on]:=Array.getElem?_eq_getElem (by omega);refine ih e.on hon _ hsome (fun e2 he2 hb2=>hE e.on _ e2 hsome ahY he2 hb2) k ?_;rw[List.getD_eq_getElem?_getD,h1 e.on (by omega)] at hek;rw[List.getD_eq_getElem?_getD];exact hek
def jQ(R:Array Oper)(vs:Nat->V)(E:Nat->Bool)(base:List (Nat×V)):Nat->Nat->V
 |0,t=>look base t
 |k+1,t=>if E k=true/\fA R k=some t then vs k else jQ R vs E base k t
theorem Al{vs:Nat->V}{E:Nat->Bool}{base:List (Nat×V)}{t i:Nat}:∀(n:Nat),(∀j,j<n->fA R j=some t->(E j=true<->j<i))->
 jQ R vs E base n t=jQ R vs (fun _=>true) base (min n i) t
 |0,_=>by simp[jQ]
 |n+1,h=>by
  have ih:=Al (vs:=vs) (base:=base) n (fun j hj hd=>h j (by omega) hd);rw[jQ];by_cases hd:fA R n=some t
  ·by_cases hE:E n=true
   ·have hni:=(h n (by omega) hd).1 hE;rw[if_pos ⟨hE,hd⟩,show min (n+1) i=n+1 from by omega,jQ,if_pos ⟨rfl,hd⟩]
   ·have hni:¬n<i:=fun hn=>hE ((h n (by omega) hd).2 hn);rw[if_neg (fun x=>hE x.1),ih,show min (n+1) i=min n i from by omega]
  ·rw[if_neg (fun x=>hd x.2),ih];by_cases hni:n<i
   ·rw[show min (n+1) i=n+1 from by omega,show min n i=n from by omega,jQ,if_neg (fun x=>hd x.2)]
   ·rw[show min (n+1) i=min n i from by omega]
theorem vY{vs:Nat->V}{E E':Nat->Bool}{base:List (Nat×V)}{t:Nat}:∀(n:Nat),(∀j,j<n->fA R j=some t->E j=E' j)->jQ R vs E base n t=jQ R vs E' base n t
 |0,_=>rfl
 |n+1,h=>by
  rw[jQ,jQ,vY n (fun j hj hd=>h j (by omega) hd)];by_cases hd:fA R n=some t
  ·rw[h n (by omega) hd]
  ·rw[if_neg (fun x=>hd x.2),if_neg (fun x=>hd x.2)]
theorem BM{vs:Nat->V}{E:Nat->Bool}{base:List (Nat×V)}{t i:Nat}(hi:E i=true)(hd:fA R i=some t):∀(n:Nat),i<n->(∀j,j<n->i<j->fA R j=some t->E j=false)->jQ R vs E base n t=vs i
 |0,h,_=>by omega
 |n+1,h,hj=>by
  rw[jQ];by_cases hin:i=n
  ·subst hin;rw[if_pos ⟨hi,hd⟩]
  ·have:¬(E n=true/\fA R n=some t):=fun x=>by
    have:=hj n (by omega) (by omega) x.2;rw[this] at x;simp at x
   rw[if_neg this];exact BM hi hd n (by omega) (fun j hjn hij hdj=>hj j (by omega) hij hdj)
theorem FM{o:Oper}{s:St}{K:St->Prop}(h:nk P E R o s K):∃v s',lq P E R o s v s'/\K s':=by
 have hN:∀(hg:gd R o s.tm=some true),eO P E o s K->∃v s',lq P E R o s v s'/\K s':=by
  intro hg hx;unfold eO at hx;by_cases hD:oM o.op=true
  ·rw[if_pos hD] at hx;obtain⟨S',v,h1,h2⟩:=ZB hD hx;exact⟨v,_,.inr (.inr ⟨hg,ZA hD,h1,by rw[j6],fun h=>by rw[hD] at h;cases h⟩),h2⟩
  ·rw[if_neg hD] at hx
   have hD':oM o.op=false:=by simpa using hD
   split at hx
   ·rename_i x args uK hop
    have hcv:iO o.op=true:=by rw[hop];rfl
    rw[<-hop] at hx;split at hx
    ·rename_i hE;obtain⟨r,h1,h2⟩:=hx;exact⟨r,_,.inr (.inl ⟨hg,by unfold eF;rw[hD',hE];rfl,.inl ⟨_,hop,h1⟩,rfl⟩),h2⟩
    ·rename_i hE;obtain⟨S',v,h0,h1,h2⟩:=hx;exact⟨v,_,.inr (.inr ⟨hg,by unfold eF;rw[hE,hcv];simp,h1,by rw[j6],fun _ _=>by rw[j6];exact h0⟩),h2⟩
    ·rename_i hE0 hE1;obtain⟨S',v,h1,h2⟩:=hx
     have h3:2<=E o.op:=by
      rcases Nat.lt_or_ge (E o.op) 2 with h|h
      ·exfalso
       have:E o.op=0\/E o.op=1:=by omega
       exact this.elim hE0 hE1
      ·exact h
     exact⟨v,_,.inr (.inr ⟨hg,by unfold eF;rw[hcv,Bool.and_true,Bool.or_eq_true,decide_eq_true_eq];exact .inr (by omega),h1,by rw[j6],fun _ h=>by
      unfold jW at h;rw[hcv,Bool.and_true,Bool.or_eq_false_iff,decide_eq_false_iff_not] at h
      exact absurd h3 h.2⟩),h2⟩
   ·rename_i hne;refine⟨_,_,.inr (.inl ⟨hg,?_,.inr ⟨hx.1,rfl⟩,rfl⟩),hx.2⟩
    have:iO o.op=false:=by
     cases hc:iO o.op with
     |false=>rfl
     |true=>
      exfalso;unfold iO at hc;split at hc
      ·rename_i x a b ho;exact hne _ _ _ ho
      ·cases hc
    unfold eF;rw[hD',this];simp
 unfold nk at h;split at h
 ·rename_i hg;exact hN (by simp only[gd,hg]) h
 ·rename_i j want hg;split at h
  ·rename_i x hx;by_cases e:x=want
   ·exact hN (by simp only[gd,hg,hx,e,beq_self_eq_true]) (h.1 e)
   ·exact⟨.eG [],_,.inl ⟨by simp only[gd,hg,hx];simp[e],rfl,rfl⟩,h.2 (by cases x<;>cases want<;>simp_all)⟩
  ·rename_i hx;exact⟨.eG [],_,.inl ⟨by simp only[gd,hg,hx],rfl,rfl⟩,h⟩
  ·exact h.elim
theorem Dw{F:Oper->St->St->Prop}{D:List Oper->St->Prop}{K:St->Prop}(hnil:∀s,D [] s->K s)(acF:∀o os s,D (o::os) s->∃v s',lq P E R o s v s'/\F o s s'/\D os s'):∀(n k:Nat),k+n=R.size->∀s,D (R.toList.drop k) s->
 ∃(st:Nat->St) (vs:Nat->V),st k=s/\K (st R.size)/\∀i,k<=i->i<R.size->∃o,R[i]? =some o/\lq P E R o (st i) (vs i) (st (i+1))/\F o (st i) (st (i+1))
 |0,k,hk,s,h=>by
  have:R.toList.drop k=[]:=by apply List.drop_eq_nil_of_le;simp;omega
  rw[this] at h;exact⟨fun _=>s,fun _=>.any,rfl,hnil s h,fun i h1 h2=>by omega⟩
 |n+1,k,hk,s,h=>by
  have hlt:k<R.toList.length:=by simp;omega
  rw[List.drop_eq_getElem_cons hlt] at h
  have hRk:R[k]? =some R.toList[k]:=by
   rw[Array.getElem?_eq_getElem (by omega)];simp
  obtain⟨v,s',ht,hf,hd⟩:=acF _ _ s h;obtain⟨st,vs,h1,h2,h3⟩:=Dw hnil acF n (k+1) (by omega) s' hd;refine⟨fun i=>if i=k then s else st i,fun i=>if i=k then v else vs i,by simp,?_,fun i hi1 hi2=> ?_⟩
  ·have:R.size≠k:=by omega
   simp only[if_neg this];exact h2
  ·by_cases e:i=k
   ·subst e;refine⟨_,hRk,?_⟩;simp only[if_true]
    have:i+1≠i:=by omega
    simp only[if_neg this,h1];exact⟨ht,hf⟩
   ·obtain⟨o,ho,ht'⟩:=h3 i (by omega) hi2;refine⟨o,ho,?_⟩
    have:i+1≠k:=by omega
    simp only[if_neg e,if_neg this];exact ht'
theorem Gn{K:St->Prop}(n k:Nat)(hk:k+n=R.size)(s:St)(h:qL P E R (R.toList.drop k) s K):
 ∃(st:Nat->St) (vs:Nat->V),st k=s/\K (st R.size)/\∀i,k<=i->i<R.size->∃o,R[i]? =some o/\lq P E R o (st i) (vs i) (st (i+1)):=by
 obtain⟨st,vs,h1,h2,h3⟩:=Dw (F:=fun _ _ _=>True) (D:=fun os s=>qL P E R os s K) (fun _ h=>h) (fun o os s h=>by
  obtain⟨v,s',a,b⟩:=FM h
  exact⟨v,s',a,trivial,b⟩) n k hk s h
 exact⟨st,vs,h1,h2,fun i a b=>by
  obtain⟨o,c,d,_⟩:=h3 i a b
  exact⟨o,c,d⟩⟩
theorem ZN{o:Oper}{s s':St}{v:V}(h:lq P E R o s v s'):s'=St.put ⟨s.tm,s'.st⟩ o.dst v:=by
 rcases h with⟨_,_,h⟩|⟨_,_,_,h⟩|⟨_,_,_,h,_⟩
 ·rw[h];cases o.dst<;>rfl
 ·rw[h];cases o.dst<;>rfl
 ·exact h
theorem ZO{o:Oper}{s s':St}{v:V}(h:lq P E R o s v s')(hD:eF E o.op=false):s'.st=s.st:=by
 rcases h with⟨_,_,h⟩|⟨_,_,_,h⟩|⟨_,h,_,_⟩
 ·rw[h];cases o.dst<;>rfl
 ·rw[h];cases o.dst<;>rfl
 ·rw[hD] at h;cases h
theorem wK{st:Nat->St}{vs:Nat->V}(h:∀i,i<R.size->∃o,R[i]? =some o/\lq P E R o (st i) (vs i) (st (i+1)))(t:Nat):∀i,i<=R.size->look (st i).tm t=jQ R vs (fun _=>true) (st 0).tm i t
 |0,_=>rfl
 |i+1,hi=>by
  obtain⟨o,ho,ht⟩:=h i (by omega);have e:=ZN ht;have ih:=wK h t i (by omega);rw[jQ,<-ih]
  have hdst:fA R i=o.dst:=by simp[fA,ho]
  rw[hdst,e]
  cases hd:o.dst with
  |none=>simp[St.put]
  |some d=>
   simp only[St.put,look,true_and,Option.some.injEq]
theorem DS.refl(S:Store):DS S S:=fun _ _ h=>.inl h
theorem DS.trans{S1 S2 S3:Store}(h:DS S1 S2)(k:DS S2 S3):DS S1 S3:=by
 intro x o hx;rcases h x o hx with h1|⟨h1,o',z,es,h2,h2'⟩
 ·exact k x o h1
 ·rcases k x _ h2 with h3|⟨_,h3⟩
  ·exact .inr ⟨h1,o',z,es,h3,h2'⟩
  ·exact .inr ⟨h1,h3⟩
theorem DS.push{own:List Obj}{Ω:Store}{o:Obj}:DS (own::Ω) ((own++[o])::Ω):=fun k o' h=>.inl (iR _ _ _ _ _ h)
theorem pI{dst:Option Nat}{o:Obj}{mk:Key->V}{s':St}(h:newObj s dst o mk (fun t=>t=s')):DS s.st s'.st:=by
 unfold newObj at h;split at h
 ·rename_i own Ω hst;rw[<-h,j6,hst];exact DS.push
 ·exact h.elim
theorem ade{b:Bool}{es x:List (List D)}{z:Nat}{dst:Option Nat}{s':St}(h:xu b es s dst z x (fun t=>t=s')):DS s.st s'.st:=by
 cases b with
 |false=>exact pI (o:=.tok z x) (mk:=fun k=>.c (.bG k x)) h
 |true=>exact pI (o:=.dL z x) (mk:=fun k=>.c (.gK k)) h.2
theorem adf{l:Option Nat}{es x:List (List D)}{z:Nat}{dst:Option Nat}{s':St}(h:yQ l es s dst z x (fun t=>t=s')):DS s.st s'.st:=by
 cases l with
 |none=>exact ade h
 |some n=>
  cases es with
  |nil=>
   have h:St.put ⟨s.tm,s.st⟩ dst (.c (.d (.ol n x)))=s':=h;rw[<-h,j6];exact DS.refl _
  |cons y es=>exact pI (o:=.tok z x) (mk:=fun k=>.c (.bG k x)) h
theorem adg{b:Bool}{n:Nat}{x:List (List D)}{z:Nat}{dst:Option Nat}{s':St}(h:Aj b n s dst z x (fun t=>t=s')):DS s.st s'.st:=by
 cases b with
 |false=>exact pI (o:=.eD n z x) (mk:=fun k=>.c (.bG k x)) h
 |true=>
  have h:St.put ⟨s.tm,s.st⟩ dst (.c (.d (.ol n x)))=s':=h;rw[<-h,j6];exact DS.refl _
theorem ZP{o:Oper}{s s':St}(hD:oM o.op=true)(hs:vG o.op=false)(h:bK P o s (fun t=>t=s')):DS s.st s'.st:=by
 obtain⟨dst,op,ty,pos,after,guard⟩:=o
 cases op with
 |alloc t=>
  simp only[bK,qW] at h;split at h
  ·exact pI h
  ·exact h.elim
 |box t x=>
  simp only[bK,yP] at h;split at h
  ·exact pI h
  ·exact h.elim
 |makeSlice t l c=>
  simp only[bK,uH] at h;split at h
  ·split at h
   ·exact pI h.2.2.2.2.2
   ·exact h.elim
  ·exact h.elim
 |store t x y=>simp[vG] at hs
 |mapUpdate t x y z=>simp[vG] at hs
 |makeMap t r=>
  cases r with
  |none=>
   simp only[bK,qz] at h;exact pI h
  |some r=>simp[oM] at hD
 |call c=>
  obtain⟨wF,args,uK⟩:=c
  cases wF with
  |builtin b=>
   cases b with
   |append=>
    simp only[bK,lT] at h;split at h
    ·simp only[oL] at h;split at h
     ·obtain⟨h1,h2,h3,h4⟩:=h;split at h4
      ·rename_i k es hex;split at h4
       ·rename_i z es' hk;obtain⟨k1,k2,k3,k4⟩:=h4;rw[<-k4,j6];intro k' o' ho';by_cases e:k'=k
        ·subst e;rw[hk] at ho';cases ho';exact .inr ⟨⟨_,_,.inl rfl⟩,_,_,_,cB _ _ _ _ hk,.inl rfl⟩
        ·exact .inl ((dO _ _ _ _ (Ne.symm e)).trans ho')
       ·rename_i n z es' hk;obtain⟨k1,k2,k3,k4⟩:=h4;rw[<-k4,j6];intro k' o' ho';by_cases e:k'=k
        ·subst e;rw[hk] at ho';cases ho';exact .inr ⟨⟨_,_,.inr ⟨_,rfl⟩⟩,_,_,_,cB _ _ _ _ hk,.inr ⟨_,rfl⟩⟩
        ·exact .inl ((dO _ _ _ _ (Ne.symm e)).trans ho')
       ·exact h4.elim
      ·exact adf h4.2.2
      ·exact adg h4.2.2
      ·exact h4.elim
     ·exact h.elim
    ·exact h.elim
   |_=>simp[oM] at hD
  |_=>simp[oM] at hD
 |_=>simp[oM] at hD
theorem ZQ{o:Oper}{s s':St}{v:V}(h:lq P E R o s v s')(hs:jW E o.op=false):DS s.st s'.st:=by
 rcases h with⟨_,_,h⟩|⟨_,_,_,h⟩|⟨_,hD,h,_,hc⟩
 ·rw[h];cases o.dst<;>exact DS.refl _
 ·rw[h];cases o.dst<;>exact DS.refl _
 ·cases hd:oM o.op with
  |true=>exact ZP hd (by unfold jW at hs;rw[Bool.or_eq_false_iff] at hs;exact hs.1) h
  |false=>exact hc hd hs
theorem AZ{st:Nat->St}{vs:Nat->V}(h:∀i,i<R.size->∃o,R[i]? =some o/\lq P E R o (st i) (vs i) (st (i+1))){i:Nat}:∀(m:Nat),i+m<=R.size->(∀j o,i<=j->j<i+m->R[j]? =some o->eF E o.op=false)->(st (i+m)).st=(st i).st
 |0,_,_=>rfl
 |m+1,hm,hj=>by
  obtain⟨o,ho,ht⟩:=h (i+m) (by omega);rw[show i+(m+1)=i+m+1 from rfl,ZO ht (hj _ o (by omega) (by omega) ho)];exact AZ h m (by omega) (fun j o h1 h2 h3=>hj j o h1 (by omega) h3)
def KS(k:Key)(S S':Store):Prop:=∀o,aR S k=some o->aR S' k=some o\/((∃z es,pR o z es)/\∃o' z es,aR S' k=some o'/\pR o' z es)
theorem KS.trans{k:Key}{S1 S2 S3:Store}(h:KS k S1 S2)(h':KS k S2 S3):KS k S1 S3:=by
 intro o hx;rcases h o hx with h1|⟨h1,o',z,es,h2,h2'⟩
 ·exact h' o h1
 ·rcases h' _ h2 with h3|⟨_,h3⟩
  ·exact .inr ⟨h1,o',z,es,h3,h2'⟩
  ·exact .inr ⟨h1,h3⟩
theorem TP{st:Nat->St}{vs:Nat->V}(h:∀i,i<R.size->∃o,R[i]? =some o/\lq P E R o (st i) (vs i) (st (i+1))){i:Nat}{k:Key}:∀(m:Nat),i+m<=R.size->
 (∀j o,i<=j->j<i+m->R[j]? =some o->jW E o.op=false\/aR (st (j+1)).st k=aR (st j).st k)->KS k (st i).st (st (i+m)).st
 |0,_,_=>fun _ hx=>.inl hx
 |m+1,hm,hj=>by
  obtain⟨o,ho,ht⟩:=h (i+m) (by omega);refine(TP h m (by omega) (fun j o h1 h2 h3=>hj j o h1 (by omega) h3)).trans ?_;rcases hj _ o (by omega) (by omega) ho with hs|hs
  ·exact ZQ ht hs k
  ·intro x hx;exact .inl (hs.trans hx)
theorem cnt_lt(p q:Nat->Bool):∀(l:List Nat)(i:Nat),(∀x,q x=true->p x=true)->i∈l->p i=true->q i=false->l.countP q<l.countP p
 |[],_,_,h,_,_=>by simp at h
 |x::l,i,h,hi,hp,hq=>by
  rw[List.countP_cons,List.countP_cons];have hle:l.countP q<=l.countP p:=List.countP_mono_left (fun y _ hy=>h y hy);rcases List.mem_cons.1 hi with rfl|hi
  ·rw[hp,hq];simp;omega
  ·have ih:=cnt_lt p q l i h hi hp hq;by_cases hx:q x=true
   ·rw[hx,h x hx];simp;exact ih
   ·have:q x=false:=by simpa using hx
    rw[this];simp
    split<;>omega
end
section
variable {P:Program} {E:Md} {N:Nat} {R:Array Oper}
def lY(E:Md)(R:Array Oper)(p:Nat)(listed:Array Bool):Prop:=listed.getD p false=true/\p<R.size/\∃j x,j<p/\R[j]? =some x/\eF E x.op=true/\listed.getD j false=false
def Raw(P:Program)(R:Array Oper)(p:Nat)(w0 w:World)(σ:Nat->Nat)(S:Store)(β:Hs)(v:Value):Prop:=
 ∃b c ty,v=.pointer (some ⟨b,0,none⟩)/\w.heap[b]? =some (.cells c ty (0,0))/\σ b=0/\w0.heap.size<=b/\¬Own S β b/\
  ∀o t zs,R[p]? =some o->o.op=.alloc t->gT P t=some zs->∀w σ S β,d9 w σ S β zs c.toList
open Classical in
noncomputable def qN(E:Md)(R:Array Oper)(p:Nat)(vs:Nat->V)(listed:Array Bool)(base:List (Nat×V))(t:Nat):V:=
 if lY E R p listed/\fA R p=some t then .any else jQ R vs (fun i=>listed.getD i false) base R.size t
structure Mid(P:Program)(N:Nat)(E:Md)(R:Array Oper)(p:Nat)(st:Nat->St)(vs:Nat->V)(β0:Hs)(σ0:Nat->Nat)(w0:World)(listed:Array Bool)(a:Act)(w:World):Prop where
 size:listed.size=R.size
 closed:∀i o e,R[i]? =some o->listed.getD i false=true->e∈o.after->Region.binds .any e=true->listed.getD e.on false=true
 rep:∃m,m<=R.size/\(∀i o,R[i]? =some o->eF E o.op=true->(i=p->¬lY E R p listed)->(listed.getD i false=true<->i<m))/\∃σ β,a.tmps.size=N/\a.defers=[]/\dH w σ (st m).st β/\
  (∀t,bV w σ (st m).st β (qN E R p vs listed (st 0).tm t) (a.tmps.getD t undef))/\Step (st 0).st β0 σ0 w0 (st m).st β σ w/\Keep (st 0).st β0 (st m).st β/\
  (lY E R p listed->m<=p/\∀d,fA R p=some d->Raw P R p w0 w σ (st m).st β (a.tmps.getD d undef))
theorem CR{o:Oper}{x:Operand}{t:Nat}(hx:x∈o.op.operands)(e:x=.tmp t):t∈o.looksAt R:=by
 subst e;exact List.mem_append_left _ (List.mem_filterMap.2 ⟨.tmp t,by simpa using hx,rfl⟩)
theorem Qq{o:Oper}{g d:Nat}{want:Bool}(hg:o.guard=some (g,want))(hd:fA R g=some d):d∈o.looksAt R:=by
 refine List.mem_append_right _ ?_;rw[hg];show d∈((R[g]?).bind (·.dst)).toList;unfold fA at hd
 rw[hd];simp
theorem yT(h:wH E R N=true){i j:Nat}{x y:Oper}(hij:i<j)(hx:R[i]? =some x)(hy:R[j]? =some y)(hc:clash E R x y=true):((masks R.toList []).getD j 0).testBit i=true:=by
 have hj:j<R.size:=(Array.getElem?_eq_some_iff.1 hy).1;have h1:=List.all_eq_true.1 h j (List.mem_range.2 hj);rw[Bool.and_eq_true] at h1;have h2:=List.all_eq_true.1 h1.2 i (List.mem_range.2 hij);rw[hx,hy] at h2;simp only[hc,Bool.not_true,Bool.or_false] at h2;exact h2
theorem N9(h:wH E R N=true){i:Nat}{o:Oper}{e:Edge}(ho:R[i]? =some o)(he:e∈o.after)(hb:Region.binds .any e=true):e.on<i:=by
 have hj:i<R.size:=(Array.getElem?_eq_some_iff.1 ho).1;have h1:=List.all_eq_true.1 h i (List.mem_range.2 hj);rw[Bool.and_eq_true,ho] at h1;have h2:=h1.1;simp only[Bool.and_eq_true] at h2;have h3:=List.all_eq_true.1 h2.1 e (by simpa using he);simpa [hb] using h3
theorem Qr(h:wH E R N=true){i:Nat}{o:Oper}(ho:R[i]? =some o):∀d,o.dst=some d->d<N:=by
 intro d hd;have hj:i<R.size:=(Array.getElem?_eq_some_iff.1 ho).1;have h1:=List.all_eq_true.1 h i (List.mem_range.2 hj);rw[Bool.and_eq_true,ho] at h1;have h2:=h1.1;simp only[Bool.and_eq_true,hd] at h2;simpa using h2.2
theorem TQ{x y:Oper}:x.apart R y=y.apart R x:=by
 rw[Bool.eq_iff_iff]
 have key:∀x y:Oper,x.apart R y=true->y.apart R x=true:=fun x y h=>by
  obtain⟨h1,h2,h3⟩:=Oper.apart_spec h;unfold Oper.apart
  cases hx:x.dst<;>cases hy:y.dst<;>simp
  ·rename_i d;exact h3 d hy
  ·rename_i d;exact h1 d hx
  ·rename_i d d';exact⟨⟨h3 d' hy,fun e=>h2 d hx (by rw[hy,e])⟩,h1 d hx⟩
 exact⟨key x y,key y x⟩
theorem Qs{x y:Oper}:lC E R x y=lC E R y x:=by
 unfold lC;rw[TQ,Bool.and_comm (eF E x.op)]
def TR:Op->Bool
 | .move _=>true
 |_=>false
theorem ZR{P:Program}{l:Option Nat}{S S':Store}{tm:List (Nat×V)}{op:Op}(h:TR op=true):lS P l S' tm op=lS P l S tm op:=by
 cases op<;>first|rfl|cases h
def refs(tm:List (Nat×V))(o:Oper)(k:Key):Prop:=TR o.op=false/\∃x∈o.op.operands,ES (ev tm x) k
structure Lc(E:Md)(R:Array Oper)(N:Nat)(st:Nat->St)(p:Nat):Prop where
 edge:∀(i:Nat)(o:Oper)(e:Edge),R[i]? =some o->e∈o.after->Region.binds .any e=true->e.on<i
 dst:∀(i:Nat)(o:Oper),R[i]? =some o->∀d,o.dst=some d->d<N
 pair:∀(i j:Nat)(x y:Oper),i<j->R[i]? =some x->R[j]? =some y->lC E R x y=true->((masks R.toList []).getD j 0).testBit i=true\/(j=p/\eF E x.op=true/\x.apart R y=true)
 store:∀(i j:Nat)(x o:Oper),i≠j->R[i]? =some x->R[j]? =some o->jW E x.op=true->eF E o.op=false->iO o.op=false->
  pX R i j=true\/∀k,refs (st j).tm o k->aR (st (i+1)).st k=aR (st i).st k
 pend:∀o,R[p]? =some o->vH o.op=true/\o.guard=none/\(∃d,o.dst=some d)/\∀j y,j≠p->R[j]? =some y->y.apart R o=false->∀i x,i<p->R[i]? =some x->eF E x.op=true->i<j/\((masks R.toList []).getD j 0).testBit i=true
theorem aeZ{st:Nat->St}(h:wH E R N=true):Lc E R N st R.size where
 edge:=fun i o e h1 h2 h3=>N9 h h1 h2 h3
 dst:=fun i o h1=>Qr h h1
 pair:=fun i j x y hij hx hy hc=>.inl (yT h hij hx hy (by
  unfold lC at hc;unfold clash
  rw[hc];rfl))
 store:=fun i j x o hij hx ho hs hD hc=>.inl (by
  unfold pX;by_cases e:i<j
  ·rw[if_pos e];exact yT h e hx ho (by unfold clash;rw[hs];simp)
  ·rw[if_neg e]
   exact yT h (show j<i by omega) ho hx (by unfold clash;rw[hs];simp))
 pend:=fun o ho=>by rw[Array.getElem?_eq_none (Nat.le_refl _)] at ho;cases ho
theorem Sc{p:Nat}(h:Dt E R p=true):∀o,R[p]? =some o->vH o.op=true/\o.guard=none/\(∃d,o.dst=some d)/\∀j y,j≠p->R[j]? =some y->y.apart R o=false->∀i x,i<p->R[i]? =some x->eF E x.op=true->i<j/\((masks R.toList []).getD j 0).testBit i=true:=by
 intro o ho;unfold Dt at h;rw[ho] at h;simp only[Bool.and_eq_true] at h;obtain⟨⟨⟨h1,h2⟩,h3⟩,h4⟩:=h;refine⟨h1,by simpa using h2,Option.isSome_iff_exists.1 h3,fun j y hj hy hap i x hi hx hD=> ?_⟩;have hjl:j<R.size:=(Array.getElem?_eq_some_iff.1 hy).1;have h5:=List.all_eq_true.1 h4 j (List.mem_range.2 hjl);rw[hy] at h5;simp only[hap,hj,decide_false,Bool.false_or] at h5;have h6:=List.all_eq_true.1 h5 i (List.mem_range.2 hi);rw[hx] at h6;simpa [hD] using h6
theorem qZ{o:Oper}(h:vH o.op=true):eF E o.op=true/\jW E o.op=false/\iO o.op=false:=by
 obtain⟨dst,op,ty,pos,after,guard⟩:=o;cases op<;>simp_all[vH,eF,oM,jW,vG,iO]
theorem adh{st:Nat->St}{p:Nat}(h0:AY E R N p=true):Lc E R N st p:=by
 unfold AY at h0;rw[Bool.and_eq_true] at h0;obtain⟨hp,h⟩:=h0;have vo:=Sc hp
 have hpr:∀(i j:Nat)(x y:Oper),i<j->R[i]? =some x->R[j]? =some y->((masks R.toList []).getD j 0).testBit i=true\/(x.apart R y=true/\(j=p\/((eF E x.op&&eF E y.op)=false/\jW E x.op=false/\jW E y.op=false))):=by
  intro i j x y hij hx hy;have hj:j<R.size:=(Array.getElem?_eq_some_iff.1 hy).1;have h1:=List.all_eq_true.1 h j (List.mem_range.2 hj);rw[Bool.and_eq_true] at h1;have h2:=List.all_eq_true.1 h1.2 i (List.mem_range.2 hij);rw[hx,hy] at h2;simp only[WJ] at h2;rw[Bool.or_eq_true] at h2;rcases h2 with h2|h2
  ·exact .inl h2
  ·right;rw[Bool.not_eq_true',Bool.or_eq_false_iff,Bool.not_eq_false'] at h2;refine⟨h2.1,?_⟩;by_cases e:j=p
   ·exact .inl e
   ·right;have h3:=h2.2;simp only[e,decide_false,Bool.not_false,Bool.true_and,Bool.or_eq_false_iff] at h3;exact⟨h3.1.1,h3.1.2,h3.2⟩
 refine⟨?_,?_,?_,?_,vo⟩
 ·intro i o e ho he hb;have hj:i<R.size:=(Array.getElem?_eq_some_iff.1 ho).1;have h1:=List.all_eq_true.1 h i (List.mem_range.2 hj);rw[Bool.and_eq_true,ho] at h1;have h2:=h1.1;simp only[Bool.and_eq_true] at h2;have h3:=List.all_eq_true.1 h2.1 e (by simpa using he);simpa [hb] using h3
 ·intro i o ho d hd;have hj:i<R.size:=(Array.getElem?_eq_some_iff.1 ho).1;have h1:=List.all_eq_true.1 h i (List.mem_range.2 hj);rw[Bool.and_eq_true,ho] at h1;have h2:=h1.1;simp only[Bool.and_eq_true,hd] at h2;simpa using h2.2
 ·intro i j x y hij hx hy hc;rcases hpr i j x y hij hx hy with h1|⟨h1,h2⟩
  ·exact .inl h1
  ·rcases h2 with h2|⟨h2,_,_⟩
   ·right;unfold lC at hc;rw[h1] at hc;simp only[Bool.not_true,Bool.false_or,Bool.and_eq_true] at hc;exact⟨h2,hc.1,h1⟩
   ·unfold lC at hc;rw[h1,h2] at hc;cases hc
 ·intro i j x o hij hx ho hs hD hc
  have hjp:j≠p:=fun e=>by
   subst e;have:=(qZ (E:=E) (vo o ho).1).1;rw[hD] at this;cases this
  have Ld:i≠p:=fun e=>by
   subst e;have:=(qZ (E:=E) (vo x hx).1).2.1;rw[hs] at this;cases this
  left;unfold pX;by_cases e:i<j
  ·rw[if_pos e];rcases hpr i j x o e hx ho with h1|⟨_,h2⟩
   ·exact h1
   ·rcases h2 with h2|⟨_,h2,_⟩
    ·exact absurd h2 hjp
    ·rw[hs] at h2;cases h2
  ·rw[if_neg e];rcases hpr j i o x (by omega) ho hx with h1|⟨_,h2⟩
   ·exact h1
   ·rcases h2 with h2|⟨_,_,h2⟩
    ·exact absurd h2 Ld
    ·rw[hs] at h2;cases h2
theorem Oper.WK{o:Oper}{a:Act}{w:World}{K:Act->World->Prop}{Q:Exit->Act->World->Prop}(hh:o.wp P a w K Q):o.wp P a w (fun a' w'=>K a' w'/\∀d,o.dst≠some d->a'.tmps.getD d undef=a.tmps.getD d undef) Q:=by
 have key:∀(ds:List Deferred)(v:Value)(d:Nat),o.dst≠some d->(({a with defers:=ds}:Act).put o.dst v).tmps.getD d undef=a.tmps.getD d undef:=by
  intro ds v d hd
  cases ho:o.dst with
  |none=>rfl
  |some e=>
   have hne:e≠d:=fun x=>hd (by rw[ho,x]);simp only[Act.put,Array.getD_eq_getD_getElem?];rw[Array.getElem?_setIfInBounds_ne hne]
 unfold Oper.wp at *
 generalize (execOp a.eval o).run P w=r at *
 cases r with
 |ok n w'=>
  cases n<;>simp only[Oper.upon] at hh ⊢ <;>
   first
    |exact⟨hh,fun d hd=>key _ _ d hd⟩
    |exact Calls.mono hh (fun e w'' he=>by cases e<;>first|exact⟨he,fun d hd=>key _ _ d hd⟩|exact he)
    |exact Rows.mono hh (fun _ _ he=>⟨he,fun d hd=>key _ _ d hd⟩)
 |halt x w'=>cases x<;>simp only[Oper.upon] at hh ⊢ <;>exact hh
theorem pJ{a:Act}{dst:Option Nat}{v:Value}{d:Nat}(h:dst≠some d):(a.put dst v).tmps.getD d undef=a.tmps.getD d undef:=by
 cases dst with
 |none=>rfl
 |some e=>
  have hne:e≠d:=fun x=>h (by rw[x]);simp only[Act.put,Array.getD_eq_getD_getElem?];rw[Array.getElem?_setIfInBounds_ne hne]
theorem ZT{t:TypeId}{zs:List C}(h:gT P t=some zs):∃z:Value,(∀w,(zeroValue t).run P w=.ok z w)/\∀w σ S β,d9 w σ S β zs z.cells.toList:=by
 unfold gT at h
 cases hi:P.info? t with
 |none=>rw[hi] at h;cases h
 |some i=>
  rw[hi] at h
  cases hz:i.zero with
  |none=>simp[hz] at h
  |some z=>
   simp only[Option.bind_some,hz] at h;split at h
   ·rename_i hall;cases h;refine⟨z,fun w=>by simp[zeroValue,typeInfo,hi,hz],fun w σ S β=>⟨by simp,fun j x hx=> ?_⟩⟩;rw[List.getElem?_map] at hx
    cases hv:z.cells.toList[j]? with
    |none=>rw[hv] at hx;cases hx
    |some v=>
     rw[hv] at hx;cases hx;exact⟨v,rfl,xX _ _ _ _ _,List.all_eq_true.1 hall v (List.mem_of_getElem? hv)⟩
   ·cases h
theorem ZU{w w0:World}{σ σ0:Nat->Nat}{S0:Store}{β0:Hs}{own:List Obj}{Ω:Store}{β:Hs}{zs:List C}{b:Nat}{c:Array Value}{ty:TypeId}(hS:dH w σ (own::Ω) β)(hst:Step S0 β0 σ0 w0 (own::Ω) β σ w)(hb:w.heap[b]? =some (.cells c ty (0,0)))(hσ:σ b=0)
 (h0:w0.heap.size<=b)(hno:¬Own (own::Ω) β b)(hz:∀w σ S β,d9 w σ S β zs c.toList):
 ∃bo bΩ,β=bo::bΩ/\bo.length=own.length/\dH w σ ((own++[.box zs])::Ω) ((bo++[Value.pointer (some ⟨b,0,none⟩)])::bΩ)/\Keep (own::Ω) β ((own++[.box zs])::Ω) ((bo++[Value.pointer (some ⟨b,0,none⟩)])::bΩ)/\
  Step S0 β0 σ0 w0 ((own++[.box zs])::Ω) ((bo++[Value.pointer (some ⟨b,0,none⟩)])::bΩ) σ w:=by
 cases β with
 |nil=>have:=hS.shape.1;simp at this
 |cons bo bΩ=>
 have hlen:bo.length=own.length:=by
  obtain⟨gr,g1,g2⟩:=hS.shape.2 0 own rfl;simp at g1;rw[g1];exact g2
 refine⟨bo,bΩ,rfl,hlen,?_⟩
 have hkeep:Keep (own::Ω) (bo::bΩ) ((own++[.box zs])::Ω) ((bo++[Value.pointer (some ⟨b,0,none⟩)])::bΩ):=by
  intro k o1 h1;obtain⟨h2,rW,_⟩:=hS.obj k o1 h1;exact⟨o1,iR _ _ _ _ _ h1,by rw[iR _ _ _ _ _ rW,rW];exact .refl _ _⟩
 have hinv:∀k o1 h1,aR ((own++[Obj.box zs])::Ω) k=some o1->aR ((bo++[Value.pointer (some ⟨b,0,none⟩)])::bΩ) k=some h1->
  (aR (own::Ω) k=some o1/\aR (bo::bΩ) k=some h1)\/(k=(0,own.length)/\o1=.box zs/\h1=Value.pointer (some ⟨b,0,none⟩)):=by
  intro k o1 h1 e1 e2;rcases jP _ _ _ _ _ e1 with e1|⟨rfl,rfl⟩
  ·left;refine⟨e1,?_⟩;rcases jP _ _ _ _ _ e2 with e2|⟨rfl,rfl⟩
   ·exact e2
   ·rw[aY,hlen] at e1;have:=(List.getElem?_eq_some_iff.1 e1).1;omega
  ·right;rw[<-hlen,bq] at e2;exact⟨rfl,rfl,(Option.some.inj e2).symm⟩
 have hown:∀x,Own ((own++[Obj.box zs])::Ω) ((bo++[Value.pointer (some ⟨b,0,none⟩)])::bΩ) x->Own (own::Ω) (bo::bΩ) x\/x=b:=by
  rintro x ⟨k,o,h,e1,e2,e3⟩;rcases hinv k o h e1 e2 with⟨f1,f2⟩|⟨rfl,rfl,rfl⟩
  ·exact .inl ⟨k,o,h,f1,f2,e3⟩
  ·right;cases e3;rfl
 have hmono:∀k o h,aR (own::Ω) k=some o->aR (bo::bΩ) k=some h->fG w σ ((own::Ω).drop k.1) ((bo::bΩ).drop k.1) o h->fG w σ (((own++[Obj.box zs])::Ω).drop k.1) (((bo++[Value.pointer (some ⟨b,0,none⟩)])::bΩ).drop k.1) o h:=
  fun k o h _ _ hr=>hr.mono (dM.refl _ _) (hkeep.drop _) fun x _=>⟨rfl,rfl⟩
 refine⟨⟨?_,?_,⟨?_,?_⟩,hS.live,hS.qI⟩,hkeep,⟨hst.size,hst.os,hst.output,fun x hx hn=>hst.far x hx hn,hst.near,fun x hx=> ?_⟩⟩
 ·intro k o1 h1;rcases jP _ _ _ _ _ h1 with h1|⟨rfl,rfl⟩
  ·obtain⟨h2,rW,hr⟩:=hS.obj k o1 h1;exact⟨h2,iR _ _ _ _ _ rW,hmono k o1 h2 h1 rW hr⟩
  ·exact⟨Value.pointer (some ⟨b,0,none⟩),by rw[<-hlen,bq],b,c,ty,rfl,hb,hσ,hz _ _ _ _⟩
 ·intro k k' o1 o2 h1 h2 x e1 e2 e3 e4 e5 e6;rcases hinv k o1 h1 e1 e2 with⟨f1,f2⟩|⟨rfl,rfl,rfl⟩
  ·rcases hinv k' o2 h2 e4 e5 with⟨g1,g2⟩|⟨rfl,rfl,rfl⟩
   ·exact hS.apart _ _ _ _ _ _ _ f1 f2 e3 g1 g2 e6
   ·cases e6;exact absurd ⟨k,o1,h1,f1,f2,e3⟩ hno
  ·rcases hinv k' o2 h2 e4 e5 with⟨g1,g2⟩|⟨rfl,rfl,rfl⟩
   ·cases e3;exact absurd ⟨k',o2,h2,g1,g2,e6⟩ hno
   ·rfl
 ·have:=hS.shape.1;simpa using this
 ·intro l fr hl
  cases l with
  |zero=>simp at hl;subst hl;exact⟨_,rfl,by simp[hlen]⟩
  |succ l=>exact hS.shape.2 (l+1) fr (by simpa using hl)
 ·rcases hown x hx with h|h
  ·exact hst.own x h
  ·subst h;exact .inr h0
theorem Ip{st:Nat->St}{vs:Nat->V}{p:Nat}{o:Oper}{d:Nat}{t:TypeId}(ht:lq P E R o (st p) (vs p) (st (p+1)))(hop:o.op=.alloc t)(hg:o.guard=none)(hd:o.dst=some d):
 ∃zs own Ω,gT P t=some zs/\(st p).st=own::Ω/\(st (p+1)).st=(own++[.box zs])::Ω/\vs p=.c (.ptr (0,own.length) 0):=by
 have hgd:gd R o (st p).tm=some true:=by unfold gd;rw[hg]
 rcases ht with⟨h1,_,_⟩|⟨_,hD,_,_⟩|⟨_,hD,hx,hs',_⟩
 ·rw[hgd] at h1;cases h1
 ·rw[(qZ (E:=E) (o:=o) (by rw[hop];rfl)).1] at hD;cases hD
 ·obtain⟨dst,op,ty,pos,after,guard⟩:=o;simp only at hop hd;subst hop;subst hd;unfold bK qW at hx;simp only at hx
  cases hz:gT P t with
  |none=>rw[hz] at hx;exact hx.elim
  |some zs=>
   rw[hz] at hx
   generalize st (p+1)=s1 at *
   generalize st p=s0 at *
   obtain⟨tm,S⟩:=s0;simp only[newObj] at hx
   cases S with
   |nil=>exact hx.elim
   |cons own Ω=>
    subst hx;refine⟨zs,own,Ω,rfl,rfl,rfl,?_⟩;simp only[St.put,St.mk.injEq,List.cons.injEq,Prod.mk.injEq,and_true,true_and] at hs';exact hs'.symm
theorem mid_step{st:Nat->St}{vs:Nat->V}{β0:Hs}{σ0:Nat->Nat}{w0:World}{Q:Exit->Act->World->Prop}{p:Nat}(hok:Lc E R N st p)
 (hT:∀i,i<R.size->∃o,R[i]? =some o/\lq P E R o (st i) (vs i) (st (i+1))){listed:Array Bool}{a:Act}{w:World}(hM:Mid P N E R p st vs β0 σ0 w0 listed a w){i:Nat}(hi:i∈Region.ready .any R listed):
 wpOp P R Q i (fun a' w'=>Mid P N E R p st vs β0 σ0 w0 (listed.setIfInBounds i true) a' w') a w:=by
 obtain⟨hun,o,ho,Dx⟩:=mem_ready.1 hi;have hlt:i<R.size:=(Array.getElem?_eq_some_iff.1 ho).1;obtain⟨o',ho',ht⟩:=hT i hlt;rw[ho] at ho';cases ho'
 have uO:listed.getD i false=false:=by
  have hs:i<listed.size:=by rw[hM.size];exact hlt
  simp[hs] at hun ⊢;exact hun
 obtain⟨m,hm,hmD,σ,β,hsz,hdf,hS,hrT,hst,hkp,vo⟩:=hM.rep;have hdn:=hok.dst i o ho
 have hset:(listed.setIfInBounds i true).getD i false=true:=by
  have hs:i<listed.size:=by rw[hM.size];exact hlt
  simp[hs]
 have TS:∀j,(listed.setIfInBounds i true).getD j false=true->j=i\/listed.getD j false=true:=by
  intro j hj;by_cases e:j=i
  ·exact .inl e
  ·rw[getD_set_ne false (Ne.symm e)] at hj;exact .inr hj
 have agD:∀j,(listed.setIfInBounds i true).getD j false=false->j≠i/\listed.getD j false=false:=by
  intro j hj;by_cases e:j=i
  ·subst e;rw[hset] at hj;cases hj
  ·rw[getD_set_ne false (Ne.symm e)] at hj;exact⟨e,hj⟩
 have BN:∀j x k,R[j]? =some x->listed.getD j false=true->((masks R.toList []).getD j 0).testBit k=true->listed.getD k false=true:=fun j x k hx hE hb=>
  zI (fun k=>listed.getD k false=true) hM.closed hok.edge j x hx (fun e he hb=>hM.closed j x e hx hE he hb) k hb
 have wL:∀k,((masks R.toList []).getD i 0).testBit k=true->listed.getD k false=true:=fun k hb=>
  zI (fun k=>listed.getD k false=true) hM.closed hok.edge i o ho (fun e he hb=>Dx e he hb) k hb
 have ae1:lY E R p listed->i≠p:=fun h e=>by have h1:=h.1;rw[<-e,uO] at h1;cases h1
 have BO:∀j x e,R[j]? =some x->(listed.setIfInBounds i true).getD j false=true->e∈x.after->Region.binds .any e=true->(listed.setIfInBounds i true).getD e.on false=true:=by
  intro j x e hx hE he hb;by_cases hji:j=i
  ·subst hji;rw[ho] at hx;cases hx;exact getD_set_true (Dx e he hb)
  ·rw[getD_set_ne false (Ne.symm hji)] at hE;exact getD_set_true (hM.closed j x e hx hE he hb)
 by_cases hA2:i=p/\∃j x,j<p/\R[j]? =some x/\eF E x.op=true/\listed.getD j false=false
 ·
  obtain⟨rfl,j0,x0,hj0,hx0,hD0,hu0⟩:=hA2;obtain⟨hal,hgn,⟨d,hd⟩,_⟩:=hok.pend o ho
  obtain⟨ty,hop⟩:∃ty,o.op=.alloc ty:=by
   cases h:o.op<;>rw[h] at hal<;>first|exact⟨_,rfl⟩|cases hal
  obtain⟨zs,own,Ω,hzs,_,_,_⟩:=Ip ht hop hgn hd;obtain⟨z,rZ,hzc⟩:=ZT hzs
  have hnp:¬lY E R i listed:=fun h=>by have h1:=h.1;rw[uO] at h1;cases h1
  have hP':lY E R i (listed.setIfInBounds i true):=⟨hset,hlt,j0,x0,hj0,hx0,hD0,by rw[getD_set_ne false (by omega)];exact hu0⟩
  have hmp:m<=i:=by
   have h1:=hmD j0 x0 hx0 hD0 (fun _=>hnp);rcases Nat.lt_or_ge j0 m with h|h
   ·rw[h1.2 h] at hu0;cases hu0
   ·omega
  have hdi:fA R i=some d:=by simp[fA,ho,hd]
  have hg:=xZ w σ hS.live z.cells ty 0;unfold wpOp;rw[ho]
  simp only
  rw[if_pos (by simp[Region.wanted,hgn])];left
  have hrun:(execOp a.eval o).run P w=.ok (.value (.pointer (some ⟨w.heap.size,0,none⟩))) {w with heap:=w.heap.push (.cells z.cells ty)}:=by
   have Ie:(newVar ty z).run P w=.ok ⟨w.heap.size,0,none⟩ {w with heap:=w.heap.push (.cells z.cells ty)}:=rfl;have rZ:=rZ w;clear hS hrT hst hkp vo hM hdn ht;obtain⟨dst,op,ty',pos,after,guard⟩:=o;simp only at hop;subst hop;simp[execOp,Instr.alloc,rZ,Ie]
  unfold Oper.wp;rw[hrun];show Mid P N E R i st vs β0 σ0 w0 _ (a.put o.dst _) _;rw[hd]
  have hdN:d<a.tmps.size:=by rw[hsz];exact hdn d hd
  refine⟨by simpa using hM.size,BO,m,hm,fun j x hx oG hjp=> ?_,fun b=>if b=w.heap.size then 0 else σ b,β,by simp[Act.put,hsz],hdf,hS.grow hg,fun t=> ?_,hst.trans (Step.mh hg),hkp,fun _=>⟨hmp,fun d' hd'=> ?_⟩⟩
  ·have hji:j≠i:=fun e=>hjp e hP';rw[getD_set_ne false (Ne.symm hji)];exact hmD j x hx oG fun _=>hnp
  ·unfold qN;by_cases e:t=d
   ·subst e;rw[if_pos ⟨hP',hdi⟩];exact trivial
   ·rw[if_neg (fun h=>e (by rw[hdi] at h;exact(Option.some.inj h.2).symm))]
    rw[vY (E':=fun i=>listed.getD i false) R.size (fun j hj hdj=>by
     have hji:j≠i:=fun x=>by rw[x,hdi] at hdj;exact e (Option.some.inj hdj).symm
     exact getD_set_ne false (Ne.symm hji))]
    have h1:=hrT t;unfold qN at h1;rw[if_neg (fun h=>hnp h.1)] at h1;rw[pJ (by intro x;exact e (Option.some.inj x).symm)];exact h1.mono hg.near (Keep.refl _ _)
  ·rw[hdi] at hd';cases hd';refine⟨w.heap.size,z.cells,ty,by simp[Act.put,Array.getD,hdN],by simp,by simp,hst.size,fun h=> ?_,fun o2 t2 zs2 h1 h2 h3=> ?_⟩
   ·have:=hS.AL h;omega
   ·rw[ho] at h1;cases h1;rw[hop] at h2;cases h2;rw[hzs] at h3;cases h3;exact hzc
 have hA:i=p->∀j x,j<p->R[j]? =some x->eF E x.op=true->listed.getD j false=true:=fun e j x hj hx hD=>by
  cases hl:listed.getD j false with
  |true=>rfl
  |false=>exact absurd ⟨e,j,x,hj,hx,hD,hl⟩ hA2
 have hPP:lY E R p (listed.setIfInBounds i true)->lY E R p listed:=by
  rintro⟨h1,h2,j,x,hj,hx,hD,hl⟩;obtain⟨hji,hl⟩:=agD j hl;rcases TS p h1 with e|h
  ·rw[hA e.symm j x hj hx hD] at hl;cases hl
  ·exact⟨h,h2,j,x,hj,hx,hD,hl⟩
 have hap:lY E R p listed->∀po d,R[p]? =some po->po.dst=some d->o.dst≠some d/\d∉o.looksAt R:=by
  rintro hP po d hpo vo;have WL:=hP;obtain⟨_,_,j0,x0,hj0,hx0,hD0,hu0⟩:=WL
  have:o.apart R po=true:=by
   cases hc:o.apart R po with
   |true=>rfl
   |false=>
    have:=(hok.pend po hpo).2.2.2 i o (ae1 hP) ho hc j0 x0 hj0 hx0 hD0;rw[wL j0 this.2] at hu0;cases hu0
  obtain⟨q1,q2,q3⟩:=Oper.apart_spec this;exact⟨fun e=>q2 d e vo,q3 d vo⟩
 have Ld:lY E R p listed->eF E o.op=true->i<p:=by
  rintro hP hD;have WL:=hP;obtain⟨_,hpl,j0,x0,hj0,hx0,hD0,hu0⟩:=WL;have hne:=ae1 hP;rcases Nat.lt_or_ge i p with h|h
  ·exact h
  ·exfalso;rcases hok.pair j0 i x0 o (by omega) hx0 ho (by simp[lC,hD,hD0]) with hb|⟨e,_⟩
   ·rw[wL j0 hb] at hu0;cases hu0
   ·exact hne e
 have hbit:∀j x,R[j]? =some x->j≠i->pX R j i=true->(listed.getD j false=true<->j<i):=by
  intro j x hx hne hc;unfold pX at hc;constructor
  ·intro hE;rcases Nat.lt_or_ge j i with h|h
   ·exact h
   ·exfalso;rw[if_neg (by omega)] at hc;have:=BN j x i hx hE hc;rw[uO] at this;cases this
  ·intro hji;rw[if_pos hji] at hc;exact wL j hc
 have hdone:∀j x,R[j]? =some x->j≠i->(j=p->¬lY E R p listed)->lC E R x o=true->(listed.getD j false=true<->j<i):=by
  intro j x hx hne hjp hc;by_cases e:j<i
  ·rcases hok.pair j i x o e hx ho hc with hb|⟨e1,hD,_⟩
   ·exact hbit j x hx hne (by unfold pX;rw[if_pos e];exact hb)
   ·exact⟨fun _=>e,fun _=>hA e1 j x (by omega) hx hD⟩
  ·rcases hok.pair i j o x (by omega) ho hx (by rw[Qs];exact hc) with hb|⟨e1,hD,_⟩
   ·exact hbit j x hx hne (by unfold pX;rw[if_neg e];exact hb)
   ·refine⟨fun h=>absurd ⟨e1▸h,?_,i,o,by omega,ho,hD,uO⟩ (hjp e1),fun h=>absurd h e⟩;rw[<-e1];exact(Array.getElem?_eq_some_iff.1 hx).1
 obtain⟨Oa,Ob⟩:∃Oa:List (Nat×V),∀t,look Oa t=jQ R vs (fun i=>listed.getD i false) (st 0).tm R.size t:=by
  have:∀n,∃oN:List (Nat×V),∀t,look oN t=jQ R vs (fun i=>listed.getD i false) (st 0).tm n t:=by
   intro n
   induction n with
   |zero=>exact⟨(st 0).tm,fun t=>rfl⟩
   |succ n ih=>
    obtain⟨tm,h⟩:=ih;by_cases hE:listed.getD n false=true
    ·cases hd:fA R n with
     |none=>exact⟨tm,fun t=>by rw[jQ,if_neg (fun x=>by rw[hd] at x;cases x.2)];exact h t⟩
     |some d=>
      refine⟨(n |> vs |> fun v=>(d,v))::tm,fun t=> ?_⟩;rw[jQ,look,hd,h t];by_cases e:d=t
      ·rw[if_pos e,if_pos ⟨hE,by rw[e]⟩]
      ·rw[if_neg e,if_neg (fun x=>e (Option.some.inj x.2))]
    ·exact⟨tm,fun t=>by rw[jQ,if_neg (fun x=>hE x.1)];exact h t⟩
  exact this R.size
 obtain⟨oN,ZV⟩:∃oN:List (Nat×V),∀t,look oN t=qN E R p vs listed (st 0).tm t:=by
  by_cases hP:lY E R p listed
  ·cases hd:fA R p with
   |none=>exact⟨Oa,fun t=>by unfold qN;rw[if_neg (fun h=>by rw[hd] at h;cases h.2)];exact Ob t⟩
   |some d=>
    refine⟨(d,.any)::Oa,fun t=> ?_⟩;unfold qN;rw[look,hd];by_cases e:d=t
    ·rw[if_pos e,if_pos ⟨hP,by rw[e]⟩]
    ·rw[if_neg e,if_neg (fun x=>e (Option.some.inj x.2))];exact Ob t
  ·exact⟨Oa,fun t=>by unfold qN;rw[if_neg (fun h=>hP h.1)];exact Ob t⟩
 have hPd:∀t,lY E R p listed->fA R p=some t->∃po,R[p]? =some po/\po.dst=some t:=by
  intro t _ h;unfold fA at h
  cases hpo:R[p]? with
  |none=>rw[hpo] at h;cases h
  |some po=>rw[hpo] at h;exact⟨po,rfl,h⟩
 have Iq:∀t∈o.looksAt R,look oN t=look (st i).tm t:=by
  intro t htl;rw[ZV];unfold qN
  rw[if_neg (fun h=>by
   obtain⟨po,h1,h2⟩:=hPd t h.1 h.2
   exact(hap h.1 po t h1 h2).2 htl),wK hT t i (by omega)]
  have:=Al (R:=R) (vs:=vs) (E:=fun i=>listed.getD i false) (base:=(st 0).tm) (t:=t) (i:=i) R.size (fun j hj hd=>by
   by_cases e:j=i
   ·subst e;rw[uO];simp
   ·obtain⟨x,hx⟩:∃x,R[j]? =some x:=⟨_,Array.getElem?_eq_getElem hj⟩
    have hxd:x.dst=some t:=by simpa [fA,hx] using hd
    refine hdone j x hx e (fun e2 hP=> ?_) ?_
    ·subst e2;exact(hap hP x t hx hxd).2 htl
    ·have:x.apart R o=false:=by
      cases hap:x.apart R o with
      |false=>rfl
      |true=>exact absurd htl ((Oper.apart_spec hap).1 t hxd)
     simp[lC,this])
  rw[this,show min R.size i=i from by omega]
 have hR:jc N ⟨oN,(st m).st⟩ a w σ β:=⟨hsz,hdf,hS,fun t=>by show bV w σ (st m).st β (look oN t) _;rw[ZV];exact hrT t⟩
 have hev:∀x∈o.op.operands,ev (st i).tm x=ev oN x:=by
  intro x hx
  cases x with
  |tmp t=>show look _ t=look _ t;rw[Iq t (CR hx rfl)]
  |_=>rfl
 have hgd:gd R o oN=gd R o (st i).tm:=by
  unfold gd
  cases hg:o.guard with
  |none=>rfl
  |some gw=>
   obtain⟨g,want⟩:=gw
   simp only
   cases hd:fA R g with
   |none=>rfl
   |some d=>
    simp only[Option.map_some];rw[Iq d (Qq hg hd)]
 have ahZ:∀(S':Store)(t:Nat),jQ R vs (fun i_1=>(listed.setIfInBounds i true).getD i_1 false) (st 0).tm R.size t=look (St.put ⟨Oa,S'⟩ o.dst (vs i)).tm t:=by
  intro S' t;by_cases hd:o.dst=some t
  ·have hdi:fA R i=some t:=by simp[fA,ho,hd]
   rw[BM (E:=fun i_1=>(listed.setIfInBounds i true).getD i_1 false) hset hdi R.size hlt (fun j hj hij hdj=>by
    obtain⟨x,hx⟩:∃x,R[j]? =some x:=⟨_,Array.getElem?_eq_getElem hj⟩
    have hxd:x.dst=some t:=by simpa [fA,hx] using hdj
    have ZW:x.apart R o=false:=by
     cases hap:x.apart R o with
     |false=>rfl
     |true=>exact absurd hd ((Oper.apart_spec hap).2.1 t hxd)
    have:=hdone j x hx (by omega) (fun e hP=>by
     subst e
     exact(hap hP x t hx hxd).1 hd) (by simp[lC,ZW])
    rw[getD_set_ne false (by omega)]
    cases hE:listed.getD j false with
    |false=>rfl
    |true=>exact absurd (this.1 hE) (by omega))]
   rw[hd];simp[St.put,look]
  ·have hdi:fA R i≠some t:=by simp only[fA,ho,Option.bind_some];exact hd
   rw[vY (E':=fun i=>listed.getD i false) R.size (fun j hj hdj=>by
    have hji:j≠i:=fun e=>hdi (e▸hdj)
    exact getD_set_ne false (Ne.symm hji)),<-Ob t]
   cases hdd:o.dst with
   |none=>rfl
   |some d=>
    have hne:d≠t:=fun e=>hd (by rw[hdd,e]);simp[St.put,look,hne]
 have ZX:∀(S':Store)(t:Nat),¬(lY E R p listed/\fA R p=some t)->look (St.put ⟨oN,S'⟩ o.dst (vs i)).tm t=jQ R vs (fun i_1=>(listed.setIfInBounds i true).getD i_1 false) (st 0).tm R.size t:=by
  intro S' t hn;rw[ahZ S' t]
  have h1:look oN t=look Oa t:=by rw[ZV,Ob];unfold qN;rw[if_neg hn]
  cases hdd:o.dst with
  |none=>exact h1
  |some d=>simp only[St.put,look,h1]
 have fin:∀(m':Nat)(a':Act)(w':World)(σ':Nat->Nat)(β':Hs),m'<=R.size->(∀j x,R[j]? =some x->eF E x.op=true->(j=p->¬lY E R p listed)->((listed.setIfInBounds i true).getD j false=true<->j<m'))->
  (lY E R p listed->m'<=p)->(∀d,o.dst≠some d->a'.tmps.getD d undef=a.tmps.getD d undef)->
  jc N (St.put ⟨oN,(st m').st⟩ o.dst (vs i)) a' w' σ' β'->Step (st m).st β σ w (st m').st β' σ' w'->Keep (st m).st β (st m').st β'->Mid P N E R p st vs β0 σ0 w0 (listed.setIfInBounds i true) a' w':=by
  intro m' a' w' σ' β' hm' hD' hmp ha' hR' hst' vF;have hS':=hR'.S;have hT':=hR'.T;rw[j6] at hS' hT';by_cases hP:lY E R p listed
  ·obtain⟨_,hraw⟩:=vo hP;have WL:=hP;obtain⟨hp1,hp2,j0,x0,hj0,hx0,hD0,hu0⟩:=WL;obtain⟨po,hpo⟩:∃po,R[p]? =some po:=⟨_,Array.getElem?_eq_getElem hp2⟩;obtain⟨hal,hgn,⟨d,hd⟩,agE⟩:=hok.pend po hpo
   have hdp:fA R p=some d:=by simp[fA,hpo,hd]
   have hod:=hap hP po d hpo hd;have hraw:=hraw d hdp;obtain⟨b,c,ty',hv,hb,hσ,h0,hno,hzc⟩:=hraw;have hbl:b<w.heap.size:=lt_of_some hb
   have hb':w'.heap[b]? =some (.cells c ty' (0,0)):=by rw[(hst'.far b hbl hno).1];exact hb
   have hσ':σ' b=0:=by rw[(hst'.far b hbl hno).2];exact hσ
   have hno':¬Own (st m').st β' b:=fun h=>(hst'.own b h).elim hno (fun h=>by omega);have hv':a'.tmps.getD d undef=.pointer (some ⟨b,0,none⟩):=(ha' d hod.1).trans hv;have agF:Raw P R p w0 w' σ' (st m').st β' (a'.tmps.getD d undef):=⟨b,c,ty',hv',hb',hσ',h0,hno',hzc⟩;by_cases hP':lY E R p (listed.setIfInBounds i true)
   ·refine⟨by simpa using hM.size,BO,m',hm',fun j x hx oG hjp=>hD' j x hx oG (fun e=>absurd hP' (hjp e)),σ',β',hR'.size,hR'.defers,hS',fun t=> ?_,hst.trans hst',hkp.trans vF,fun _=>⟨hmp hP,fun d' hd'=>by rw[hdp] at hd';cases hd';exact agF⟩⟩;unfold qN;by_cases e:fA R p=some t
    ·rw[if_pos ⟨hP',e⟩];exact trivial
    ·rw[if_neg (fun h=>e h.2),<-ZX (st m').st t (fun h=>e h.2)];exact hT' t
   ·
    have hpl:(listed.setIfInBounds i true).getD p false=true:=getD_set_true hp1
    have hall:∀j x,j<p->R[j]? =some x->eF E x.op=true->(listed.setIfInBounds i true).getD j false=true:=fun j x hj hx hD=>by
     cases hl:(listed.setIfInBounds i true).getD j false with
     |true=>rfl
     |false=>exact absurd ⟨hpl,hp2,j,x,hj,hx,hD,hl⟩ hP'
    have ae2:∀j x,p<j->R[j]? =some x->eF E x.op=true->(listed.setIfInBounds i true).getD j false=false:=fun j x hj hx hD=>by
     cases hl:(listed.setIfInBounds i true).getD j false with
     |false=>rfl
     |true=>
      exfalso;rcases hok.pair j0 j x0 x (by omega) hx0 hx (by simp[lC,hD,hD0]) with hbt|⟨e,_⟩
      ·rcases TS j hl with e|hl
       ·subst e;rw[wL j0 hbt] at hu0;cases hu0
       ·rw[BN j x j0 hx hl hbt] at hu0;cases hu0
      ·omega
    have ajO:=hmp hP
    have hsm:(st p).st=(st m').st:=by
     have:=AZ hT (i:=m') (p-m') (by omega) (fun j x h1 h2 h3=>by
      cases oG:eF E x.op with
      |false=>rfl
      |true=>
       have:=(hD' j x h3 oG (fun e=>by omega)).1 (hall j x (by omega) h3 oG)
       omega)
     rwa [show m'+(p-m')=p from by omega] at this
    obtain⟨po',ae3,htp⟩:=hT p hp2;rw[hpo] at ae3;cases ae3
    obtain⟨ty,hop⟩:∃ty,po.op=.alloc ty:=by
     cases h:po.op<;>rw[h] at hal<;>first|exact⟨_,rfl⟩|cases hal
    obtain⟨zs,own,Ω,hzs,hs0,hs1,hvp⟩:=Ip htp hop hgn hd;rw[hsm] at hs0;have uP:=hst.trans hst';have ae4:=hkp.trans vF;rw[hs0] at hS' hT' uP ae4 hno';obtain⟨bo,bΩ,rfl,hlen,q1,q2,q3⟩:=ZU hS' uP hb' hσ' h0 hno' (hzc po ty zs hpo hop hzs);rw[<-hs1] at q1 q2 q3;refine⟨by simpa using hM.size,BO,p+1,by omega,fun j x hx oG _=> ?_,σ',_,hR'.size,hR'.defers,q1,fun t=> ?_,q3,ae4.trans q2,fun h=>absurd h hP'⟩
    ·rcases Nat.lt_trichotomy j p with h|h|h
     ·exact⟨fun _=>by omega,fun _=>hall j x h hx oG⟩
     ·subst h;exact⟨fun _=>by omega,fun _=>hpl⟩
     ·rw[ae2 j x h hx oG];exact⟨fun h=>(by cases h),fun h=>by omega⟩
    ·unfold qN;rw[if_neg (fun h=>hP' h.1)];by_cases e:t=d
     ·subst e
      rw[BM (E:=fun i_1=>(listed.setIfInBounds i true).getD i_1 false) hpl hdp R.size hp2 (fun j hj hpj hdj=>by
       obtain⟨x,hx⟩:∃x,R[j]? =some x:=⟨_,Array.getElem?_eq_getElem hj⟩
       have hxd:x.dst=some t:=by simpa [fA,hx] using hdj
       have ZW:x.apart R po=false:=by
        cases hap:x.apart R po with
        |false=>rfl
        |true=>exact absurd hd ((Oper.apart_spec hap).2.1 t hxd)
       have hbt:=agE j x (by omega) hx ZW j0 x0 hj0 hx0 hD0
       cases hl:(listed.setIfInBounds i true).getD j false with
       |false=>rfl
       |true=>
        exfalso;rcases TS j hl with e|hl
        ·subst e;rw[wL j0 hbt.2] at hu0;cases hu0
        ·rw[BN j x j0 hx hl hbt.2] at hu0;cases hu0),hvp,hv',hs1]
      exact R6 hlen
     ·rw[<-ZX (st m').st t (fun h=>e (by rw[hdp] at h;exact(Option.some.inj h.2).symm))];have h1:=hT' t;rw[hs0];exact h1.mono (dM.refl _ _) q2
  ·have hP':¬lY E R p (listed.setIfInBounds i true):=fun h=>hP (hPP h);refine⟨by simpa using hM.size,BO,m',hm',fun j x hx oG _=>hD' j x hx oG (fun _=>hP),σ',β',hR'.size,hR'.defers,hS',fun t=> ?_,hst.trans hst',hkp.trans vF,fun h=>absurd h hP'⟩;unfold qN;rw[if_neg (fun h=>hP' h.1),<-ZX (st m').st t (fun h=>hP h.1)];exact hT' t
 have keepD:eF E o.op=false->∀j x,R[j]? =some x->eF E x.op=true->(j=p->¬lY E R p listed)->((listed.setIfInBounds i true).getD j false=true<->j<m):=by
  intro hD j x hx oG hjp
  have hji:j≠i:=fun e=>by rw[e,ho] at hx;cases hx;rw[hD] at oG;cases oG
  rw[getD_set_ne false (Ne.symm hji)];exact hmD j x hx oG hjp
 have hmP:lY E R p listed->m<=p:=fun h=>(vo h).1
 have quiet:∀(w':World)(σ':Nat->Nat)(v:Value),eF E o.op=false->Grow w σ w' σ'->bV w' σ' (st m).st β (vs i) v->Mid P N E R p st vs β0 σ0 w0 (listed.setIfInBounds i true) (a.put o.dst v) w':=by
  intro w' σ' v hD hg hv;exact fin m _ w' σ' β hm (keepD hD) hmP (fun d hd=>pJ hd) (yC hdn hsz hdf (hS.grow hg) (hR.T.mono hg.near (Keep.refl _ _)) hv) (Step.mh hg) (Keep.refl _ _)
 have hDs:eF E o.op=true->∀j x,R[j]? =some x->eF E x.op=true->(j=p->¬lY E R p listed)->(listed.getD j false=true<->j<i):=by
  intro hD j x hx oG hjp;by_cases e:j=i
  ·subst e;rw[uO];simp
  ·exact hdone j x hx e hjp (by simp[lC,hD,oG])
 have hsame:eF E o.op=true->(st m).st=(st i).st:=by
  intro hD
  have hno:∀j x,R[j]? =some x->(i<=j/\j<m\/m<=j/\j<i)->eF E x.op=false:=by
   intro j x hx hj
   cases oG:eF E x.op with
   |false=>rfl
   |true=>
    have hjp:j=p->¬lY E R p listed:=fun e hP=>by
     have:=Ld hP hD;have:=hmP hP;omega
    have h1:=hDs hD j x hx oG hjp;have h2:=hmD j x hx oG hjp;rcases hj with hj|hj
    ·have:=h1.1 (h2.2 hj.2);omega
    ·have:=h2.1 (h1.2 hj.2);omega
  rcases Nat.le_total i m with h|h
  ·have:=AZ hT (i:=i) (m-i) (by omega) (fun j x h1 h2 h3=>hno j x h3 (.inl ⟨h1,by omega⟩))
   rwa [show i+(m-i)=m from by omega] at this
  ·have:=AZ hT (i:=m) (i-m) (by omega) (fun j x h1 h2 h3=>hno j x h3 (.inr ⟨h1,by omega⟩));rw[show m+(i-m)=i from by omega] at this;exact this.symm
 have WM:eF E o.op=true->∀j x,R[j]? =some x->eF E x.op=true->(j=p->¬lY E R p listed)->((listed.setIfInBounds i true).getD j false=true<->j<i+1):=by
  intro hD j x hx oG hjp;by_cases e:j=i
  ·subst e;rw[hset];simp
  ·rw[getD_set_ne false (Ne.symm e),hDs hD j x hx oG hjp];omega
 have hiP:eF E o.op=true->lY E R p listed->i+1<=p:=fun hD hP=>Ld hP hD;unfold wpOp;rw[ho]
 simp only
 have hRR:jc N ⟨oN,(st m).st⟩ a w σ β:=hR;rcases ht with⟨hg,hv,hs'⟩|⟨hg,hD,hv,hs'⟩|⟨hg,hD,hx,hs',_⟩
 ·
  have hw:Region.wanted o (yielded R a.tmps)=false:=by
   rw[<-hgd] at hg;unfold gd at hg;split at hg
   ·cases hg
   ·rename_i j want hgu;split at hg
    ·rename_i x hx;have hy:=yS (s:=⟨oN,(st m).st⟩) hRR hx
     have hne:x≠want:=by
      intro e;rw[e] at hg;simp at hg
     simp[Region.wanted,hgu,hy,hne]
    ·rename_i hx;have hy:=CQ (s:=⟨oN,(st m).st⟩) hRR hx;simp[Region.wanted,hgu,hy]
    ·cases hg
  rw[if_neg (by rw[hw];simp)]
  have hvu:bV w σ (st m).st β (vs i) undef:=by rw[hv];exact tH
  by_cases hD:eF E o.op=true
  ·have hsm:=hsame hD
   have hs1:(st (i+1)).st=(st m).st:=by rw[hsm,hs'];cases o.dst<;>rfl
   refine fin (i+1) _ w σ β hlt (WM hD) (hiP hD) (fun d hd=>pJ hd) (by rw[hs1];exact yC hdn hsz hdf hS hR.T hvu) (by rw[hs1];exact Step.mh (Grow.refl hS.live)) (by rw[hs1];exact Keep.refl _ _)
  ·exact quiet w σ undef (by simpa using hD) (Grow.refl hS.live) hvu
 all_goals
  have hw:Region.wanted o (yielded R a.tmps)=true:=by
   rw[<-hgd] at hg;unfold gd at hg;split at hg
   ·rename_i hgu;simp[Region.wanted,hgu]
   ·rename_i j want hgu;split at hg
    ·rename_i x hx;have hy:=yS (s:=⟨oN,(st m).st⟩) hRR hx;simp at hg;simp[Region.wanted,hgu,hy,hg]
    ·cases hg
    ·cases hg
  rw[if_pos hw];left
 ·
  rcases hv with⟨c,hc,hcn⟩|⟨hcond,hval⟩
  ·have hcn':=ZJ (tm':=oN) (fun x hx=>hev x (by rw[hc];exact hx)) hcn;unfold BL at hcn';split at hcn'
   ·rename_i x hcx;split at hcn'
    ·rename_i f caps hex
     have hcall:lT P c ⟨oN,(st m).st⟩ o.dst (fun t=>t=St.put ⟨oN,(st m).st⟩ o.dst (vs i)):=by
      unfold lT;rw[hcx];simp only[hex];exact .inl ⟨_,hcn' (st m).st,fun r S' hp=>by rw[hp.1,hp.2]⟩
     refine Oper.wp_mono ?_ (Oper.WK (Ig (Q:=Q) hc hdn hRR hcall));rintro a' w' ⟨⟨s'',σ',β',hR',hst',vF,hK⟩,ha'⟩;subst hK;rw[j6] at hst' vF;exact fin m a' w' σ' β' hm (keepD hD) hmP ha' hR' hst' vF
    ·exact hcn'.elim
   ·exact hcn'.elim
  ·have hcv:iO o.op=false:=by
    cases hc:iO o.op with
    |false=>rfl
    |true=>
     exfalso;unfold iO at hc;split at hc
     ·rename_i x b c hop;rw[hop] at hcond;exact fO hcond
     ·cases hc
   have acG:∀k,refs (st i).tm o k->∀j x,R[j]? =some x->(i<=j/\j<m\/m<=j/\j<i)->jW E x.op=false\/aR (st (j+1)).st k=aR (st j).st k:=by
    intro k hk j x hx hj
    cases hs:jW E x.op with
    |false=>exact .inl rfl
    |true=>
     have oG:eF E x.op=true:=WH hs
     have hji:j≠i:=fun e=>by rw[e,ho] at hx;cases hx;rw[hD] at oG;cases oG
     rcases hok.store j i x o hji hx ho hs hD hcv with hb|hb
     ·have h1:=hbit j x hx hji hb
      have h2:=hmD j x hx oG (fun e=>by
       subst e;have:=(qZ (E:=E) (hok.pend x hx).1).2.1
       rw[hs] at this;cases this)
      rcases hj with hj|hj
      ·have:=h1.1 (h2.2 hj.2);omega
      ·have:=h2.1 (h1.2 hj.2);omega
     ·exact .inr (hb k hk)
   have e1:=adb (P:=P) (S:=(st i).st) (tm:=(st i).tm) (tm':=oN) (op:=o.op) hev;rw[e1] at hcond hval
   have e2:lS P (ny (st i).st) (st m).st oN o.op=lS P (ny (st i).st) (st i).st oN o.op:=by
    cases hmv:TR o.op with
    |true=>exact ZR hmv
    |false=>
     exact ZK (P:=P) (l:=ny (st i).st) (S:=(st i).st) (S':=(st m).st) (tm:=oN) (op:=o.op) hcond (by
     intro x hx k hk ob WB hbr;have hrf:refs (st i).tm o k:=⟨hmv,x,hx,by rw[hev x hx];exact hk⟩;rcases Nat.le_total i m with h|h
     ·have hds:=TP hT (i:=i) (k:=k) (m-i) (by omega) (fun j x h1 h2 h3=>acG k hrf j x h3 (.inl ⟨h1,by omega⟩));rw[show i+(m-i)=m from by omega] at hds;rcases hds ob WB with h'|⟨⟨z,es,e⟩,_⟩
      ·exact h'
      ·rcases e with e|⟨_,e⟩<;>rw[e] at hbr<;>exact hbr.elim
     ·have hds:=TP hT (i:=m) (k:=k) (i-m) (by omega) (fun j x h1 h2 h3=>acG k hrf j x h3 (.inr ⟨h1,by omega⟩));rw[show m+(i-m)=i from by omega] at hds;have hrx:=iW (a:=a) hR.T x
      have hin:∃o',aR (st m).st k=some o':=by
       rcases hk with⟨off,e⟩|⟨i',off,e⟩|e|e|⟨r',p',e⟩|⟨r',p',z',i',off,e⟩<;>rw[show ev (⟨oN,(st m).st⟩:St).tm x=ev oN x from rfl,e] at hrx<;>obtain⟨⟨o',ho',_⟩,_⟩:=hrx<;>exact⟨o',ho'⟩
      obtain⟨o',ho'⟩:=hin;rcases hds o' ho' with h'|⟨_,o2,z,es,h',e⟩
      ·rw[WB] at h';cases h';exact ho'
      ·rw[WB] at h';cases h'
       rcases e with e|⟨_,e⟩<;>rw[e] at hbr<;>exact hbr.elim)
   have ae6:(lS P (ny (st i).st) (st m).st oN o.op).1:=by rw[e2];exact hcond
   have hval':vs i=(lS P (ny (st i).st) (st m).st oN o.op).2:=by rw[e2];exact hval
   obtain⟨v,w',σ',hrun,hgr,CP⟩:=FI (P:=P) _ o hS hR.T ae6;unfold Oper.wp;rw[hrun];exact quiet w' σ' v hD hgr (by rw[hval'];exact CP)
 ·have hsm:=hsame hD
  have hx':bK P o ⟨(st i).tm,(st i).st⟩ (fun t=>t=St.put ⟨(st i).tm,(st (i+1)).st⟩ o.dst (vs i)):=by
   rw[hs'] at hx;exact hx
  have hx2:=ZI hD hev hx';rw[<-hsm] at hx2;refine Oper.wp_mono ?_ (Oper.WK (BJ (Q:=Q) hdn hRR hx2));rintro a' w' ⟨⟨s'',σ',β',hR',hst',vF,hK⟩,ha'⟩;subst hK;rw[j6] at hst' vF;exact fin (i+1) a' w' σ' β' hlt (WM hD) (hiP hD) ha' hR' hst' vF
theorem adi{st:Nat->St}{vs:Nat->V}{β0:Hs}{σ0:Nat->Nat}{w0:World}{Q:Exit->Act->World->Prop}{p:Nat}(hok:Lc E R N st p)
 (hT:∀i,i<R.size->∃o,R[i]? =some o/\lq P E R o (st i) (vs i) (st (i+1)))(hQ:∀listed a w,Mid P N E R p st vs β0 σ0 w0 listed a w->(∀i,i<R.size->listed.getD i false=true)->Q .normal a w):
 ∀(fuel:Nat)(listed:Array Bool)(a:Act)(w:World),(List.range R.size).countP (fun i=> !listed.getD i false)<=fuel->Mid P N E R p st vs β0 σ0 w0 listed a w->wpAny P .any R Q fuel listed a w:=by
 have hend:∀listed a w,Mid P N E R p st vs β0 σ0 w0 listed a w->Region.ready .any R listed=[]->Q .normal a w:=by
  intro listed a w hM hr;refine hQ listed a w hM ?_;intro i
  induction i using Nat.strongRecOn with
  |_ i ih=>
   intro hi
   cases hE:listed.getD i false with
   |true=>rfl
   |false=>
    exfalso;have ho:R[i]? =some R[i]:=Array.getElem?_eq_getElem hi
    have:i∈Region.ready .any R listed:=by
     rw[mem_ready]
     have hs:i<listed.size:=by rw[hM.size];exact hi
     refine⟨by simp[hs] at hE ⊢;exact hE,_,ho,fun e he hb=> ?_⟩;have hon:=hok.edge i _ e ho he hb;exact ih e.on hon (by omega)
    rw[hr] at this;simp at this
 intro fuel
 induction fuel with
 |zero=>
  intro listed a w hc hM
  have hnone:Region.ready .any R listed=[]:=by
   cases hr:Region.ready .any R listed with
   |nil=>rfl
   |cons i l=>
    exfalso
    have hi:i∈Region.ready .any R listed:=by rw[hr];simp
    obtain⟨hun,o,ho,_⟩:=mem_ready.1 hi;have hlt:=(Array.getElem?_eq_some_iff.1 ho).1
    have hs:i<listed.size:=by rw[hM.size];exact hlt
    have hz:(List.range R.size).countP (fun i=> !listed.getD i false)=0:=by omega
    rw[List.countP_eq_zero] at hz;have:=hz i (List.mem_range.2 hlt);simp[hs] at hun this;rw[hun] at this;cases this
  exact⟨hnone,hend listed a w hM hnone⟩
 |succ fuel ih=>
  intro listed a w hc hM;refine⟨hend listed a w hM,fun i hi=> ?_⟩;refine wpOp_mono (fun a' w' hM'=>ih _ a' w' ?_ hM') (mid_step hok hT hM hi);obtain⟨hun,o,ho,_⟩:=mem_ready.1 hi;have hlt:=(Array.getElem?_eq_some_iff.1 ho).1
  have hs:i<listed.size:=by rw[hM.size];exact hlt
  have:=cnt_lt (fun j=> !listed.getD j false) (fun j=> !(listed.setIfInBounds i true).getD j false) (List.range R.size) i (fun x hx=>by
   by_cases e:x=i
   ·subst e;simp[hs] at hx
   ·rw[getD_set_ne false (Ne.symm e)] at hx;exact hx) (List.mem_range.2 hlt) (by simp[hs] at hun ⊢;exact hun) (by simp[hs])
  omega
theorem BP{id:Nat}{Q:Exit->St->Prop}{s:St}(fB:P.follows .mixedOrders=true){st:Nat->St}{vs:Nat->V}(h0:st 0=s)(hK:Q .normal (st R.size))
 (hT':∀i,i<R.size->∃o,R[i]? =some o/\lq P E R o (st i) (vs i) (st (i+1))){p:Nat}(hok:Lc E R N st p):AW P N (.region id R true) Q s:=by
 intro a w σ β hR;refine wp_region_any fB ?_;have hgd:Grow w σ {w with drawn:=w.drawn+1} σ:=⟨Nat.le_refl _,rfl,rfl,fun _ _=>⟨rfl,rfl⟩,hR.S.live⟩;refine adi (N:=N) (β0:=β) (σ0:=σ) (w0:=w) hok hT' (fun listed a' w' hM hall=> ?_) R.size _ a _ ?_ ?_
 ·obtain⟨m,hm,hmD,σ',β',hsz,hdf,hS,hT2,hst,hkp,_⟩:=hM.rep
  have hnP:¬lY E R p listed:=by
   rintro⟨_,_,j,x,hj,hx,_,hl⟩;rw[hall j (Array.getElem?_eq_some_iff.1 hx).1] at hl;cases hl
  have hsm:(st R.size).st=(st m).st:=by
   have:=AZ hT' (i:=m) (R.size-m) (by omega) (fun j x h1 h2 h3=>by
    cases oG:eF E x.op with
    |false=>rfl
    |true=>have:=(hmD j x h3 oG (fun _=>hnP)).1 (hall j (Array.getElem?_eq_some_iff.1 h3).1);omega)
   rwa [show m+(R.size-m)=R.size from by omega] at this
  rw[h0] at hst hkp;refine⟨st R.size,σ',β',⟨hsz,hdf,by rw[hsm];exact hS,fun t=> ?_⟩,by rw[hsm];exact hst,by rw[hsm];exact hkp.tail,hK⟩;rw[wK hT' t R.size (Nat.le_refl _),hsm];have:=hT2 t;unfold qN at this;rw[if_neg (fun h=>hnP h.1)] at this;rw[vY (E':=fun _=>true) R.size (fun j hj _=>hall j hj)] at this;exact this
 ·calc (List.range R.size).countP _<=(List.range R.size).length:=List.countP_le_length
   _=R.size:=List.length_range
 ·refine⟨by simp,fun i o e ho hE _ _=> ?_,0,Nat.zero_le _,fun i o ho _=> ?_,σ,β,hR.size,hR.defers,by rw[h0];exact hR.S.grow hgd,fun t=> ?_,by rw[h0];exact Step.mh hgd,Keep.refl _ _,fun h=>by have h1:=h.1;rw[getD_replicate_false] at h1;cases h1⟩
  ·rw[getD_replicate_false] at hE;cases hE
  ·rw[getD_replicate_false];simp
  ·have:jQ R vs (fun i=>(Array.replicate R.size false).getD i false) (st 0).tm R.size t=look (st 0).tm t:=by
    have:=Al (R:=R) (vs:=vs) (E:=fun i=>(Array.replicate R.size false).getD i false) (base:=(st 0).tm) (t:=t) (i:=0) R.size (fun j _ _=>by rw[getD_replicate_false];simp);rw[this,Nat.min_zero];rfl
   unfold qN;rw[if_neg (fun h=>by have h1:=h.1.1;rw[getD_replicate_false] at h1;cases h1),this,h0];exact(hR.T t).mono hgd.near (Keep.refl _ _)
theorem adj{id:Nat}{Q:Exit->St->Prop}{s:St}(fB:P.follows .mixedOrders=true)(hok:wH E R N=true)(h:qL P E R R.toList s (Q .normal)):AW P N (.region id R true) Q s:=by
 obtain⟨st,vs,h0,hK,hT⟩:=Gn R.size 0 (by omega) s h;exact BP fB h0 hK (fun i hi=>hT i (Nat.zero_le i) hi) (aeZ hok)
theorem ZY{id p:Nat}{Q:Exit->St->Prop}{s:St}(fB:P.follows .mixedOrders=true)(hok:AY E R N p=true)(h:qL P E R R.toList s (Q .normal)):AW P N (.region id R true) Q s:=by
 obtain⟨st,vs,h0,hK,hT⟩:=Gn R.size 0 (by omega) s h;exact BP fB h0 hK (fun i hi=>hT i (Nat.zero_le i) hi) (adh hok)
theorem TT{id:Nat}{Q:Exit->St->Prop}{s:St}(fB:P.follows .mixedOrders=true)(hok:Kk R N=true)(h:qL P (Io R N) R R.toList s (Q .normal)):AW P N (.region id R true) Q s:=by
 unfold Kk at hok;rw[Bool.or_eq_true] at hok;rcases hok with hok|hok
 ·exact adj fB hok h
 ·split at hok
  ·exact ZY fB hok h
  ·cases hok
theorem TU{v w:V}(h:TN v w=true){k k':Key}(hv:(∃off,v=.c (.ptr k' off))\/(∃i off,v=.c (.jV k' i off))\/∃r p z i off,v=.c (.xq k' r p z i off))
 (hw:ES w k):k'≠k:=by
 rintro rfl;rcases hv with⟨_,rfl⟩|⟨_,_,rfl⟩|⟨_,_,_,_,_,rfl⟩<;>rcases hw with⟨_,rfl⟩|⟨_,_,rfl⟩|rfl|rfl|⟨_,_,rfl⟩|⟨_,_,_,_,_,rfl⟩<;>simp[TN] at h
theorem FN{o:Oper}{t:TypeId}{a y:Operand}{s s':St}{v:V}(hop:o.op=.store t a y)(h:lq P E R o s v s'){k:Key}
 (hk:∀k',((∃off,ev s.tm a=.c (.ptr k' off))\/(∃i off,ev s.tm a=.c (.jV k' i off))\/∃r p z i off,ev s.tm a=.c (.xq k' r p z i off))->k'≠k):aR s'.st k=aR s.st k:=by
 rcases h with⟨_,_,h⟩|⟨_,_,_,h⟩|⟨_,_,h,_,_⟩
 ·rw[h];cases o.dst<;>rfl
 ·rw[h];cases o.dst<;>rfl
 ·obtain⟨dst,op,ty,pos,after,guard⟩:=o;subst hop;simp only[bK,qX] at h;split at h
  ·rename_i k' off he;split at h
   ·obtain⟨_,_,_,h4⟩:=h;rw[<-h4,j6];exact dO _ _ _ _ (hk k' (.inl ⟨_,he⟩))
   ·exact h.elim
  ·rename_i k' i off he;split at h
   ·obtain⟨_,_,_,_,h5⟩:=h;rw[<-h5,j6];exact dO _ _ _ _ (hk k' (.inr (.inl ⟨_,_,he⟩)))
   ·exact h.elim
  ·rename_i k' r p z i off he;split at h
   ·split at h
    ·split at h
     ·obtain⟨_,_,_,_,_,h6⟩:=h;rw[<-h6,j6];exact dO _ _ _ _ (hk k' (.inr (.inr ⟨_,_,_,_,_,he⟩)))
     ·exact h.elim
    ·exact h.elim
   ·exact h.elim
  ·exact h.elim
theorem yg{st:Nat->St}{vs:Nat->V}(hT:∀i,i<R.size->∃o,R[i]? =some o/\lq P E R o (st i) (vs i) (st (i+1))){i:Nat}(hi:i<=R.size){a:Operand}(h:settled R i a=true):
 ev (st R.size).tm a=ev (st i).tm a:=by
 cases a with
 |tmp t=>
  show look _ t=look _ t
  have key:∀n,i+n<=R.size->look (st (i+n)).tm t=look (st i).tm t:=by
   intro n
   induction n with
   |zero=>intro _;rfl
   |succ n ih=>
    intro hn;rw[wK hT t (i+(n+1)) hn,show i+(n+1)=i+n+1 from rfl,jQ,if_neg,<-wK hT t (i+n) (by omega),ih (by omega)];rintro⟨_,hd⟩;have:=List.all_eq_true.1 h (i+n) (List.mem_range.2 (by omega));rw[hd] at this;simp at this;omega
  have:=key (R.size-i) (by omega)
  rwa [show i+(R.size-i)=R.size from by omega] at this
 |_=>rfl
theorem WO{st:Nat->St}{vs:Nat->V}{p:Nat}(hed:∀(i:Nat)(o:Oper),R[i]? =some o->(o.after.toList.all (fun e=> !Region.binds .any e||decide (e.on<i))&&(match o.dst with|some d=>decide (d<N)|none=>true))=true)
 (vo:∀o,R[p]? =some o->vH o.op=true/\o.guard=none/\(∃d,o.dst=some d)/\∀j y,j≠p->R[j]? =some y->y.apart R o=false->∀i x,i<p->R[i]? =some x->eF E x.op=true->i<j/\((masks R.toList []).getD j 0).testBit i=true)
 (hp:∀(i j:Nat) (x y:Oper),i<j->R[i]? =some x->R[j]? =some y->((masks R.toList []).getD j 0).testBit i=true\/(x.apart R y=true/\(j=p\/((eF E x.op&&eF E y.op)=false/\(jW E x.op=true->sj R i x j y=true)/\(jW E y.op=true->sj R j y i x=true)))))
 (hT:∀i,i<R.size->∃o,R[i]? =some o/\lq P E R o (st i) (vs i) (st (i+1)))(hl:M0 E R (st R.size).tm=true):Lc E R N st p:=by
 refine⟨?_,?_,?_,?_,vo⟩
 ·intro i o e ho he hb;have h2:=hed i o ho;simp only[Bool.and_eq_true] at h2;have h3:=List.all_eq_true.1 h2.1 e (by simpa using he);simpa [hb] using h3
 ·intro i o ho d hd;have h2:=hed i o ho;simp only[Bool.and_eq_true,hd] at h2;simpa using h2.2
 ·intro i j x y hij hx hy hc;rcases hp i j x y hij hx hy with h|⟨h1,h⟩
  ·exact .inl h
  ·unfold lC at hc;rw[h1] at hc;simp only[Bool.not_true,Bool.false_or] at hc;rcases h with h|⟨h,_⟩
   ·rw[Bool.and_eq_true] at hc;exact .inr ⟨h,hc.1,h1⟩
   ·rw[hc] at h;cases h
 ·intro i j x o hij hx ho hs hD hc
  have hjp:j≠p:=fun e=>by
   subst e;have:=(qZ (E:=E) (vo o ho).1).1;rw[hD] at this;cases this
  have Ld:i≠p:=fun e=>by
   subst e;have:=(qZ (E:=E) (vo x hx).1).2.1;rw[hs] at this;cases this
  cases hb:pX R i j with
  |true=>exact .inl rfl
  |false=>
   refine .inr ?_;rintro k ⟨_,z,hz,hk⟩;have hi:i<R.size:=(Array.getElem?_eq_some_iff.1 hx).1;have hj:j<R.size:=(Array.getElem?_eq_some_iff.1 ho).1
   have hlo:sj R i x j o=true:=by
    unfold pX at hb;by_cases e:i<j
    ·rw[if_pos e] at hb;rcases hp i j x o e hx ho with h|⟨_,h|⟨_,h,_⟩⟩
     ·rw[hb] at h;cases h
     ·exact absurd h hjp
     ·exact h hs
    ·rw[if_neg e] at hb;rcases hp j i o x (by omega) ho hx with h|⟨_,h|⟨_,_,h⟩⟩
     ·rw[hb] at h;cases h
     ·exact absurd h Ld
     ·exact h hs
   unfold sj at hlo;rw[hc,Bool.false_or] at hlo;split at hlo
   ·rename_i t a y hop;rw[Bool.and_eq_true] at hlo
    have hz':z∈o.op.operands.toList:=by simpa using hz
    have hsz:=List.all_eq_true.1 hlo.2 z hz';have h1:=List.all_eq_true.1 hl i (List.mem_range.2 hi);rw[hx] at h1;simp only[hs,Bool.not_true,Bool.false_or,hop] at h1;have h2:=List.all_eq_true.1 h1 j (List.mem_range.2 hj);rw[ho] at h2;simp only[hb,hD,hc,Bool.false_or] at h2;have h3:=List.all_eq_true.1 h2 z hz';obtain⟨x',hx',ht⟩:=hT i hi;rw[hx] at hx';cases hx';refine FN hop ht fun k' hk'=> ?_;rw[yg hT (by omega) hlo.1,yg hT (by omega) hsz] at h3;exact TU h3 hk' hk
   ·cases hlo
theorem Ir{f:Nat->Nat->Oper->Oper->Bool}(h:((List.range R.size).all fun j=>
 (match R[j]? with
  |some o=>o.after.toList.all (fun e=> !Region.binds .any e||decide (e.on<j))&&(match o.dst with|some d=>decide (d<N)|none=>true)
  |none=>true)&&
 (List.range j).all fun i=>
   match R[i]?,R[j]? with
   |some x,some y=>((masks R.toList []).getD j 0).testBit i|| !(f i j x y)
   |_,_=>true)=true):
 (∀(i:Nat) (o:Oper),R[i]? =some o->(o.after.toList.all (fun e=> !Region.binds .any e||decide (e.on<i))&&(match o.dst with|some d=>decide (d<N)|none=>true))=true)/\
 ∀(i j:Nat)(x y:Oper),i<j->R[i]? =some x->R[j]? =some y->((masks R.toList []).getD j 0).testBit i=true\/f i j x y=false:=by
 refine⟨fun i o ho=> ?_,fun i j x y hij hx hy=> ?_⟩
 ·have hj:i<R.size:=(Array.getElem?_eq_some_iff.1 ho).1;have h1:=List.all_eq_true.1 h i (List.mem_range.2 hj);rw[Bool.and_eq_true,ho] at h1;exact h1.1
 ·have hj:j<R.size:=(Array.getElem?_eq_some_iff.1 hy).1;have h1:=List.all_eq_true.1 h j (List.mem_range.2 hj);rw[Bool.and_eq_true] at h1;have h2:=List.all_eq_true.1 h1.2 i (List.mem_range.2 hij);rw[hx,hy] at h2;simp only[Bool.or_eq_true,Bool.not_eq_true'] at h2;exact h2
theorem Z0{st:Nat->St}{vs:Nat->V}(hok:ET E R N=true)(hT:∀i,i<R.size->∃o,R[i]? =some o/\lq P E R o (st i) (vs i) (st (i+1)))(hl:M0 E R (st R.size).tm=true):Lc E R N st R.size:=by
 obtain⟨h1,h2⟩:=Ir (f:=fun i j x y=>lC E R x y||(jW E x.op&& !(sj R i x j y))||(jW E y.op&& !(sj R j y i x))) hok;refine WO h1 (fun o ho=>by rw[Array.getElem?_eq_none (Nat.le_refl _)] at ho;cases ho) (fun i j x y hij hx hy=>(h2 i j x y hij hx hy).imp id fun h=> ?_) hT hl;simp only[lC,Bool.or_eq_false_iff,Bool.not_eq_false',Bool.and_eq_false_imp] at h;obtain⟨⟨⟨q1,q2⟩,q3⟩,q4⟩:=h;refine⟨q1,.inr ⟨?_,q3,q4⟩⟩
 cases hx:eF E x.op with
 |false=>rfl
 |true=>rw[q2 hx];rfl
theorem ae7{id:Nat}{Q:Exit->St->Prop}{s:St}(fB:P.follows .mixedOrders=true)(hok:ET E R N=true)(h:qL P E R R.toList s (fun s'=>M0 E R s'.tm=true/\Q .normal s')):AW P N (.region id R true) Q s:=by
 obtain⟨st,vs,h0,hK,hT⟩:=Gn R.size 0 (by omega) s h;have hT':=fun i hi=>hT i (Nat.zero_le i) hi;exact BP fB h0 hK.2 hT' (Z0 hok hT' hK.1)
end
section
variable {P:Program} {w w':World} {σ σ':Nat->Nat} {S S':Store} {β β':Hs} {N:Nat} {s:St} {a:Act}
theorem jX{c:Code}{Q:Exit->St->Prop}{s s':St}(h:AW P N c Q s')
 (hg:∀(a:Act) (w:World) (σ:Nat->Nat) (β:Hs),jc N s a w σ β->∃σ' β',jc N s' a w σ' β'/\Step s.st β σ w s'.st β' σ' w/\Keep (fD s.st) (fD β) (fD s'.st) (fD β')):AW P N c Q s:=by
 intro a w σ β hR;obtain⟨σ',β',hR',hst,hk⟩:=hg a w σ β hR;refine wp_mono (h a w σ' β' hR') ?_;rintro e a' w' ⟨s'',yI,β'',k1,k2,k3,k4⟩;exact⟨s'',yI,β'',k1,hst.trans k2,hk.trans k3,k4⟩
def fV(N:Nat)(s s':St):Prop:=∀(a:Act)(w:World)(σ:Nat->Nat)(β:Hs),jc N s a w σ β->∃σ' β',jc N s' a w σ' β'/\Step s.st β σ w s'.st β' σ' w/\Keep (fD s.st) (fD β) (fD s'.st) (fD β')
theorem fV.refl(N:Nat)(s:St):fV N s s:=fun a w σ β hR=>⟨σ,β,hR,Step.mh (Grow.refl hR.S.live),Keep.refl _ _⟩
theorem fV.trans{s s' s'':St}(h:fV N s s')(k:fV N s' s''):fV N s s'':=fun a w σ β hR=>by
 obtain⟨σ1,β1,r1,st1,k1⟩:=h a w σ β hR;obtain⟨σ2,β2,r2,st2,k2⟩:=k a w σ1 β1 r1;exact⟨σ2,β2,r2,st1.trans st2,k1.trans k2⟩
theorem Gp{tm tm':List (Nat×V)}(hl:∀t,look tm' t=look tm t\/look tm' t=.any):fV N ⟨tm,S⟩ ⟨tm',S⟩:=
 fun a w σ β hR=>⟨σ,β,⟨hR.size,hR.defers,hR.S,fun t=>by
  rcases hl t with e|e
  ·show bV w σ S β (look tm' t) _;rw[e];exact hR.T t
  ·show bV w σ S β (look tm' t) _;rw[e];trivial⟩,Step.mh (Grow.refl hR.S.live),Keep.refl _ _⟩
theorem TV{c:Code}{Q:Exit->St->Prop}{tm tm':List (Nat×V)}(h:AW P N c Q ⟨tm',S⟩)(hl:∀t,look tm' t=look tm t\/look tm' t=.any):AW P N c Q ⟨tm,S⟩:=
 jX h fun a w σ β hR=>⟨σ,β,⟨hR.size,hR.defers,hR.S,fun t=>by
  rcases hl t with e|e
  ·show bV w σ S β (look tm' t) _;rw[e];exact hR.T t
  ·show bV w σ S β (look tm' t) _;rw[e];trivial⟩,Step.mh (Grow.refl hR.S.live),Keep.refl _ _⟩
def C.qO:C->C
 | .bG _ es=>.d (.sl es)
 | .bA es=>.d (.sl es)
 |c=>c
def V.qO:V->V
 | .c x=>.c x.qO
 | .agg cs=>.agg (cs.map C.qO)
 |v=>v
theorem Oc{c:C}{v:Value}(h:fK w σ S β c v):fK w σ S β c.qO v:=by
 cases c with
 |bG k es=>exact h.1
 |bA es=>exact h.1
 |_=>exact h
theorem Od{x:V}{v:Value}(h:bV w σ S β x v):bV w σ S β x.qO v:=by
 cases x with
 |c x=>exact⟨Oc h.1,h.2⟩
 |agg cs=>
  obtain⟨ar,ha,hl,hc⟩:=h;refine⟨ar,ha,by simpa using hl,fun j x hx=> ?_⟩;rw[List.getElem?_map] at hx
  cases hcj:cs[j]? with
  |none=>rw[hcj] at hx;cases hx
  |some y=>
   rw[hcj] at hx;cases hx;obtain⟨v,hv,hr,ho⟩:=hc j y hcj;exact⟨v,hv,Oc hr,ho⟩
 |_=>exact h
theorem bD.weaken{f:FuncId}{args args':List V}{post:V->Store->Prop}(h:bD P f args' S post)(hl:args.length=args'.length)
 (hw:∀(j:Nat) (x y:V),args[j]? =some x->args'[j]? =some y->∀w σ β v,bV w σ S β x v->bV w σ S β y v):bD P f args S post:=by
 refine⟨h.1,fun w σ β vs hS hv=>h.2 w σ β vs hS ⟨by rw[<-hl];exact hv.1,fun j y hy=> ?_⟩⟩;have hj:=(List.getElem?_eq_some_iff.1 hy).1;have hx:args[j]? =some (args[j]'(by omega)):=List.getElem?_eq_getElem (by omega);obtain⟨v,h1,h2⟩:=hv.2 j _ hx;exact⟨v,h1,hw j _ y hx hy w σ β v h2⟩
theorem bD.qO{f:FuncId}{args:List V}{post:V->Store->Prop}(h:bD P f (args.map V.qO) S post):bD P f args S post:=
 h.weaken (by simp) fun j x y hx hy w σ β v hr=>by
  rw[List.getElem?_map,hx] at hy;cases hy;exact Od hr
theorem bD.mono{f:FuncId}{args:List V}{post post':V->Store->Prop}(h:bD P f args S post)(hp:∀r S',post r S'->post' r S'):bD P f args S post':=
 ⟨h.1,fun w σ β vs hS hv=>(h.2 w σ β vs hS hv).mono fun e w' ⟨v,r,S',σ',β',h1,h2,h3,h4,h5,h6⟩=>⟨v,r,S',σ',β',h1,h2,h3,h4,h5,hp _ _ h6⟩⟩
theorem BQ{f:FuncId}{args:List V}{s:St}{dst:Option Nat}{K:St->Prop}{r:V}(h:aG P f (args.map V.qO) r)(hK:K (St.put s dst r)):vW P f args s dst K:=
 .inl ⟨_,(h s.st).qO,fun r' S' hp=>by rw[hp.1,hp.2];exact hK⟩
theorem wM{c:Code}{Q:Exit->St->Prop}{tm:List (Nat×V)}{own:List Obj}{Ω:Store}(t aN:Nat)(es:List (List D))(hv:look tm t=.c (.bA es))(hes:∀e∈es,e.length=aN)
 (h:AW P N c Q ⟨(t,.c (.bG (0,own.length) es))::tm,(own++[.tok aN es])::Ω⟩):AW P N c Q ⟨tm,own::Ω⟩:=by
 refine jX h fun a w σ β hR=> ?_;obtain⟨bo,bΩ,rfl,hlen⟩:=frames hR;have ht:=hR.T t;rw[hv] at ht;obtain⟨⟨hd,ad,n,hval⟩,hone⟩:=ht
 have hn:n=es.length:=by rw[hval] at hd;cases hd<;>rfl
 have hg:Grow w σ w σ:=Grow.refl hR.S.live
 obtain⟨hS',hk,hst⟩:=hR.S.push (o:=.tok aN es) (h:=a.tmps.getD t undef) hg hlen ⟨hd,hes,ad,n,by rw[hval,hn],by omega,.inl hn⟩ (fun b hb=>by
  rw[hval,hn] at hb
  cases ad<;>simp[owns,blk] at hb)
 refine⟨σ,_,⟨hR.size,hR.defers,hS',fun u=> ?_⟩,hst,Keep.refl _ _⟩;show bV w σ _ _ (if t=u then _ else look tm u) _;by_cases e:t=u
 ·subst e;rw[if_pos rfl];refine⟨⟨hd,_,bq _ _ _,fun a b e=> ?_⟩,hone⟩;obtain⟨_,rfl⟩:=kL (lab:=none) e;exact⟨Nat.le_refl _,fun _=>by rw[<-hlen,bq]⟩
 ·rw[if_neg e];exact(hR.T u).mono (dM.refl _ _) hk
theorem qB{c:Code}{Q:Exit->St->Prop}{tm:List (Nat×V)}{own:List Obj}{Ω:Store}(n t aN:Nat)(es:List (List D))(hv:look tm t=.c (.jm n es)\/(look tm t=.c (.bA es)/\es=[]))(hes:∀e∈es,e.length=aN)
 (h:AW P N c Q ⟨(t,.c (.bG (0,own.length) es))::tm,(own++[.eD n aN es])::Ω⟩):AW P N c Q ⟨tm,own::Ω⟩:=by
 refine jX h fun a w σ β hR=> ?_;obtain⟨bo,bΩ,rfl,hlen⟩:=frames hR;have ht:=hR.T t
 have hl:∃ad,a.tmps.getD t undef=.slice ad es.length es.length/\bU w σ (.ol n es) (a.tmps.getD t undef):=by
  rcases hv with hv|⟨hv,rfl⟩
  ·rw[hv] at ht;obtain⟨⟨hd,ad,m,hval⟩,_⟩:=ht
   have hn:m=es.length:=by
    have:=uz hd;rw[hval] at this;cases this<;>rfl
   exact⟨ad,by rw[hval,hn],hd⟩
  ·rw[hv] at ht;obtain⟨⟨hd,ad,m,hval⟩,_⟩:=ht
   have hn:m=0:=by rw[hval] at hd;cases hd<;>rfl
   subst hn;exact⟨ad,hval,by rw[hval];exact .oh _ _ _⟩
 obtain⟨ad,hval,hol⟩:=hl;have hd:=uz hol;have hg:Grow w σ w σ:=Grow.refl hR.S.live
 obtain⟨hS',hk,hst⟩:=hR.S.push (o:=.eD n aN es) (h:=a.tmps.getD t undef) hg hlen ⟨hd,hes,ad,es.length,hval,Nat.le_refl _,.inl ⟨rfl,hol⟩⟩ (fun b hb=>by
  rw[hval] at hb
  cases ad<;>simp[owns,blk] at hb)
 refine⟨σ,_,⟨hR.size,hR.defers,hS',fun u=> ?_⟩,hst,Keep.refl _ _⟩;show bV w σ _ _ (if t=u then _ else look tm u) _;by_cases e:t=u
 ·subst e;rw[if_pos rfl];refine⟨⟨hd,_,bq _ _ _,fun a b e=> ?_⟩,by rw[hval];rfl⟩;obtain⟨_,rfl⟩:=kL (lab:=some n) e;exact⟨Nat.le_refl _,fun _=>by rw[<-hlen,bq]⟩
 ·rw[if_neg e];exact(hR.T u).mono (dM.refl _ _) hk
theorem Kl{c:Code}{Q:Exit->St->Prop}{tm:List (Nat×V)}{Ω:Store}(n:Nat)(h:AW P N c Q ⟨tm,[.seed n]::Ω⟩):AW P N c Q ⟨tm,[]::Ω⟩:=by
 refine jX h fun a w σ β hR=> ?_;obtain⟨bo,bΩ,rfl,hlen⟩:=frames hR;obtain⟨hS',hk,hst⟩:=hR.S.push (o:=.seed n) (h:=undef) (Grow.refl hR.S.live) hlen trivial (fun b hb=>by cases hb);exact⟨σ,_,⟨hR.size,hR.defers,hS',fun u=>(hR.T u).mono (dM.refl _ _) hk⟩,hst,Keep.refl _ _⟩
theorem Dy{tm:List (Nat×V)}{own:List Obj}{Ω:Store}{m:Nat}(n:Nat):fV N ⟨tm,(.seed m::own)::Ω⟩ ⟨tm,(.seed n::own)::Ω⟩:=by
 intro a w σ β hR;obtain⟨bo,bΩ,rfl,hlen⟩:=frames hR;have h0:aR ((Obj.seed m::own)::Ω) (0,0)=some (.seed m):=rfl;obtain⟨h,hh,_⟩:=hR.S.obj (0,0) _ h0;obtain⟨hS',hk,hst⟩:=hR.S.set (o':=.seed n) (h':=h) h0 hh (Nat.le_refl _) rfl rfl (dM.refl _ _) hR.S.live (fun _ _ _=>⟨rfl,rfl⟩) (.inr ⟨n,rfl⟩) trivial (fun b hb=>by cases hb);have e:aT (bo::bΩ) (0,0) h=bo::bΩ:=tF h _ _ _ hh;rw[e] at hS' hk hst;exact⟨σ,_,⟨hR.size,hR.defers,hS',fun u=>(hR.T u).mono (dM.refl _ _) hk⟩,hst,Keep.refl _ _⟩
theorem Dz{c:Code}{Q:Exit->St->Prop}{tm:List (Nat×V)}{own:List Obj}{Ω:Store}{m:Nat}(n:Nat)(h:AW P N c Q ⟨tm,(.seed n::own)::Ω⟩):AW P N c Q ⟨tm,(.seed m::own)::Ω⟩:=jX h (Dy n)
def lZ(n:Nat)(k:Key):Bool:=decide (0<k.1)||decide (k.2<n)
def C.refs(n:Nat):C->Bool
 | .bG k _=>lZ n k
 | .ptr k _=>lZ n k
 | .jV k _ _=>lZ n k
 | .gK k=>lZ n k
 | .mp k=>lZ n k
 | .fn _ caps=>caps.all fun x=>lZ n x.1
 | .xp k _ _=>lZ n k
 | .xq k _ _ _ _ _=>lZ n k
 |_=>true
def V.refs(n:Nat):V->Bool
 | .c x=>x.refs n
 | .agg cs=>cs.all (C.refs n)
 | .eG xs=>xs.all fun y=>y.2.all (C.refs n)
 | .any=>true
def Obj.refs(n:Nat):Obj->Bool
 | .box cs=>cs.all (C.refs n)
 |_=>true
theorem iC{α:Type}{own:List α}{Ω:List (List α)}{n:Nat}{k:Key}(h:lZ n k=true):aR (own.take n::Ω) k=aR (own::Ω) k:=by
 obtain⟨l,j⟩:=k
 cases l with
 |zero=>
  simp[lZ] at h;rw[aY,aY,List.getElem?_take_of_lt h]
 |succ l=>rw[bF,bF]
theorem lG{α:Type}{own:List α}{Ω:List (List α)}{n:Nat}{k:Key}{o:α}(h:aR (own.take n::Ω) k=some o):aR (own::Ω) k=some o/\lZ n k=true:=by
 obtain⟨l,j⟩:=k
 cases l with
 |zero=>
  rw[aY] at h ⊢;have hj:=(List.getElem?_eq_some_iff.1 h).1;simp at hj;rw[List.getElem?_take_of_lt (by omega)] at h;exact⟨h,by simp[lZ];omega⟩
 |succ l=>rw[bF] at h ⊢;exact⟨h,by simp[lZ]⟩
theorem DC{own:List Obj}{Ω:Store}{bo:List Value}{bΩ:Hs}{n:Nat}{c:C}{v:Value}(hr:c.refs n=true)(h:fK w σ (own::Ω) (bo::bΩ) c v):fK w σ (own.take n::Ω) (bo.take n::bΩ) c v:=by
 cases c with
 |d x=>exact h
 |any=>exact h
 |bA es=>exact h
 |kH cs=>exact h
 |bG k es=>
  obtain⟨h1,o,ho,h2⟩:=h;exact⟨h1,o,(iC hr).trans ho,fun a b e=>by rw[iC hr];exact h2 a b e⟩
 |ptr k off=>
  obtain⟨o,ho,h2⟩:=h;exact⟨o,(iC hr).trans ho,fun a e=>by rw[iC hr];exact h2 a e⟩
 |jV k i off=>
  obtain⟨o,ho,h2⟩:=h;exact⟨o,(iC hr).trans ho,fun a b e=>by rw[iC hr];exact h2 a b e⟩
 |gK k=>
  obtain⟨o,ho,h2⟩:=h;exact⟨o,(iC hr).trans ho,fun a b e=>by rw[iC hr];exact h2 a b e⟩
 |mp k=>
  obtain⟨o,ho,h2⟩:=h;exact⟨o,(iC hr).trans ho,fun a e=>by rw[iC hr];exact h2 a e⟩
 |fn f caps=>
  obtain⟨vs,hv,hl,h2⟩:=h;refine⟨vs,hv,hl,fun j k off e=> ?_⟩;obtain⟨u,hu,h1c,o,ho,h3⟩:=h2 j k off e;have hk:lZ n k=true:=List.all_eq_true.1 hr (k,off) (List.mem_of_getElem? e);exact⟨u,hu,h1c,o,(iC hk).trans ho,fun cs e=>by rw[iC hk];exact h3 cs e⟩
 |jm m es=>exact h
 |xp k r p=>
  obtain⟨o,ho,h2⟩:=h;exact⟨o,(iC hr).trans ho,fun a e=>by rw[iC hr];exact h2 a e⟩
 |xq k r p z i off=>
  obtain⟨o,ho,h2⟩:=h;exact⟨o,(iC hr).trans ho,fun a e=>by rw[iC hr];exact h2 a e⟩
theorem BR{own:List Obj}{Ω:Store}{bo:List Value}{bΩ:Hs}{n:Nat}{cs:List C}{vs:List Value}(hr:cs.all (C.refs n)=true)(h:d9 w σ (own::Ω) (bo::bΩ) cs vs):d9 w σ (own.take n::Ω) (bo.take n::bΩ) cs vs:=
 ⟨h.1,fun j x hx=>let⟨v,hv,hc,ho⟩:=h.2 j x hx;⟨v,hv,DC (List.all_eq_true.1 hr x (List.mem_of_getElem? hx)) hc,ho⟩⟩
theorem WQ{own:List Obj}{Ω:Store}{bo:List Value}{bΩ:Hs}{n:Nat}{x:V}{v:Value}(hr:x.refs n=true)(h:bV w σ (own::Ω) (bo::bΩ) x v):bV w σ (own.take n::Ω) (bo.take n::bΩ) x v:=by
 cases x with
 |c x=>exact⟨DC hr h.1,h.2⟩
 |agg cs=>obtain⟨ar,ha,hc⟩:=h;exact⟨ar,ha,BR hr hc⟩
 |eG xs=>
  obtain⟨ar,ha,hl,h2⟩:=h;refine⟨ar,ha,hl,fun j y hy=> ?_⟩;obtain⟨u,hu,h3⟩:=h2 j y hy;have hy':y.2.all (C.refs n)=true:=List.all_eq_true.1 hr y (List.mem_of_getElem? hy);refine⟨u,hu,?_⟩;obtain⟨b,cs⟩:=y
  cases b with
  |true=>obtain⟨a',e,hcs⟩:=h3;exact⟨a',e,BR hy' hcs⟩
  |false=>
   obtain⟨x,e,hx,ho⟩:=h3;subst e;simp at hy';exact⟨x,rfl,DC hy' hx,ho⟩
 |any=>trivial
def kg(n:Nat)(tm:List (Nat×V)):Bool:=tm.all fun x=>x.2.refs n
theorem Le{n:Nat}:∀(tm:List (Nat×V))(t:Nat),kg n tm=true->(look tm t).refs n=true
 |[],_,_=>rfl
 |(x,v)::tm,t,h=>by
  simp only[kg,List.all_cons,Bool.and_eq_true] at h;rw[look];split
  ·exact h.1
  ·exact Le tm t h.2
theorem Iu{tm:List (Nat×V)}{own:List Obj}{Ω:Store}(n:Nat)(h1:kg n tm=true)(h2:(own.take n).all (Obj.refs n)=true):fV N ⟨tm,own::Ω⟩ ⟨tm,own.take n::Ω⟩:=by
 intro a w σ β hR;obtain⟨bo,bΩ,rfl,hlen⟩:=frames hR
 have hown:∀b,Own (own.take n::Ω) (bo.take n::bΩ) b->Own (own::Ω) (bo::bΩ) b:=by
  rintro b ⟨k,o,hv,e1,e2,e3⟩;exact⟨k,o,hv,(lG e1).1,(lG e2).1,e3⟩
 refine⟨σ,bo.take n::bΩ,⟨hR.size,hR.defers,⟨fun k o ho=> ?_,fun k k' o o' h1 h2 b e1 e2 e3 e4 e5 e6=> ?_,⟨by have:=hR.S.shape.1;simpa using this,fun l fr hl=> ?_⟩,hR.S.live,hR.S.qI⟩,fun t=>WQ (Le tm t h1) (hR.T t)⟩,
  ⟨Nat.le_refl _,rfl,rfl,fun _ _ _=>⟨rfl,rfl⟩,dM.refl _ _,fun b hb=>.inl (hown b hb)⟩,Keep.refl _ _⟩
 ·obtain⟨ho',hk⟩:=lG ho;obtain⟨hv,hh,hr⟩:=hR.S.obj k o ho';refine⟨hv,(iC hk).trans hh,?_⟩;obtain⟨l,j⟩:=k
  cases l with
  |zero=>
   cases o with
   |dead=>trivial
   |box cs=>
    obtain⟨b,cc,t,e,hb,hs,hc⟩:=hr;rw[aY] at ho;have hcs:cs.all (C.refs n)=true:=List.all_eq_true.1 h2 (.box cs) (List.mem_of_getElem? ho);exact⟨b,cc,t,e,hb,hs,BR hcs hc⟩
   |tok=>exact hr
   |dL=>exact hr
   |mp=>exact hr
   |eD=>exact hr
   |seed=>exact hr
   |xf=>exact hr
  |succ l=>exact hr
 ·exact hR.S.apart k k' o o' h1 h2 b (lG e1).1 (lG e2).1 e3 (lG e4).1 (lG e5).1 e6
 ·cases l with
  |zero=>
   simp at hl;subst hl;exact⟨_,rfl,by simp[hlen]⟩
  |succ l=>exact hR.S.shape.2 (l+1) fr hl
def C.lQ(j:Nat)(es:List (List D)):C->C
 | .gK (0,i)=>if i=j then .d (.sl es) else .gK (0,i)
 |c=>c
def V.lQ(j:Nat)(es:List (List D)):V->V
 | .c x=>.c (x.lQ j es)
 | .agg cs=>.agg (cs.map (C.lQ j es))
 | .eG xs=>.eG (xs.map fun y=>(y.1,y.2.map (C.lQ j es)))
 | .any=>.any
def Obj.lQ(j:Nat)(es:List (List D)):Obj->Obj
 | .box cs=>.box (cs.map (C.lQ j es))
 |o=>o
theorem BS{f:V->V}(hf:f .any=.any):∀(tm:List (Nat×V))(t:Nat),look (tm.map fun x=>(x.1,f x.2)) t=f (look tm t)
 |[],_=>hf.symm
 |(x,v)::tm,t=>by
  show(if x=t then f v else look (tm.map fun x=>(x.1,f x.2)) t)=f (if x=t then v else look tm t);split
  ·rfl
  ·exact BS hf tm t
def V.jM(f:C->C):V->V
 | .c x=>.c (f x)
 | .agg cs=>.agg (cs.map f)
 | .eG xs=>.eG (xs.map fun y=>(y.1,y.2.map f))
 | .any=>.any
def Obj.jM(f:C->C):Obj->Obj
 | .box cs=>.box (cs.map f)
 |o=>o
theorem uQ{f:C->C}{own:List Obj}{j i:Nat}:((own.map (Obj.jM f)).set j .dead)[i]? =if i=j then(if j<own.length then some .dead else none) else(own[i]?).map (Obj.jM f):=by
 rw[List.getElem?_set];by_cases e:j=i
 ·subst e;simp
 ·rw[if_neg e,if_neg (Ne.symm e),List.getElem?_map]
theorem tJ{f:C->C}{own:List Obj}{Ω:Store}{j:Nat}{oj:Obj}(hj:own[j]? =some oj){k:Key}{o:Obj}(hk:aR (own::Ω) k=some o):
 ∃o',aR ((own.map (Obj.jM f)).set j .dead::Ω) k=some o'/\((k=(0,j)/\o'=.dead)\/(k≠(0,j)/\(o'=o\/o'=o.jM f))):=by
 obtain⟨l,i⟩:=k
 cases l with
 |zero=>
  rw[aY] at hk;by_cases e:i=j
  ·subst e;refine⟨.dead,?_,.inl ⟨rfl,rfl⟩⟩;rw[aY,uQ,if_pos rfl,if_pos (List.getElem?_eq_some_iff.1 hj).1]
  ·refine⟨o.jM f,?_,.inr ⟨fun x=>e (by cases x;rfl),.inr rfl⟩⟩;rw[aY,uQ,if_neg e,hk];rfl
 |succ l=>exact⟨o,by rw[bF] at hk ⊢;exact hk,.inr ⟨by simp,.inl rfl⟩⟩
theorem pK{f:C->C}{o o':Obj}(h:o'=o\/o'=o.jM f):(∀z es,pR o' z es->pR o z es)/\(∀z es,o'=.dL z es->o=.dL z es)/\(∀m,o'=.mp m->o=.mp m)/\(∀cs,o'=.box cs->∃cs',o=.box cs')/\(∀rs,o'=.xf rs->o=.xf rs):=by
 rcases h with rfl|rfl
 ·exact⟨fun _ _ h=>h,fun _ _ h=>h,fun _ h=>h,fun cs h=>⟨cs,h⟩,fun _ h=>h⟩
 ·cases o<;>simp[Obj.jM,pR]
theorem Iw{f:C->C}{own:List Obj}{Ω:Store}{bo:List Value}{bΩ:Hs}{j:Nat}{oj:Obj}(hj:own[j]? =some oj)(hn:dM w σ w σ'){c:C}{v:Value}(hc:fK w σ (own::Ω) (bo::bΩ) c v):
 fK w σ' ((own.map (Obj.jM f)).set j .dead::Ω) (bo::bΩ) c v:=by
 cases c with
 |d x=>exact bU.mono hn hc
 |any=>trivial
 |bA es'=>exact⟨bU.mono hn hc.1,hc.2⟩
 |jm n es'=>exact⟨bU.mono hn hc.1,hc.2⟩
 |kH cs=>obtain⟨ad,h1,h2⟩:=hc;exact⟨ad,h1,h2.mono hn⟩
 |bG k es'=>
  obtain⟨h1,o,ho,h2⟩:=hc;obtain⟨o',ho',hcase⟩:=tJ hj ho;refine⟨bU.mono hn h1,o',ho',fun z e4 e=> ?_⟩;rcases hcase with⟨_,e'⟩|⟨_,e'⟩
  ·rw[e'] at e;rcases e with e|⟨_,e⟩<;>cases e
  ·exact h2 _ _ ((pK e').1 _ _ e)
 |ptr k off=>
  obtain⟨o,ho,h2⟩:=hc;obtain⟨o',ho',hcase⟩:=tJ hj ho;refine⟨o',ho',fun cs e=> ?_⟩;rcases hcase with⟨_,e'⟩|⟨_,e'⟩
  ·rw[e'] at e;cases e
  ·obtain⟨cs',e''⟩:=(pK e').2.2.2.1 _ e;exact h2 _ e''
 |jV k i off=>
  obtain⟨o,ho,h2⟩:=hc;obtain⟨o',ho',hcase⟩:=tJ hj ho;refine⟨o',ho',fun z e4 e=> ?_⟩;rcases hcase with⟨_,e'⟩|⟨_,e'⟩
  ·rw[e'] at e;cases e
  ·exact h2 _ _ ((pK e').2.1 _ _ e)
 |gK k=>
  obtain⟨o,ho,h2⟩:=hc;obtain⟨o',ho',hcase⟩:=tJ hj ho;refine⟨o',ho',fun z e4 e=> ?_⟩;rcases hcase with⟨_,e'⟩|⟨_,e'⟩
  ·rw[e'] at e;cases e
  ·exact h2 _ _ ((pK e').2.1 _ _ e)
 |mp k=>
  obtain⟨o,ho,h2⟩:=hc;obtain⟨o',ho',hcase⟩:=tJ hj ho;refine⟨o',ho',fun m e=> ?_⟩;rcases hcase with⟨_,e'⟩|⟨_,e'⟩
  ·rw[e'] at e;cases e
  ·exact h2 _ ((pK e').2.2.1 _ e)
 |fn f caps=>
  obtain⟨vs,hv,hl,h2⟩:=hc;refine⟨vs,hv,hl,fun i k off e=> ?_⟩;obtain⟨u,hu,h1c,o,ho,h3⟩:=h2 i k off e;obtain⟨o',ho',hcase⟩:=tJ hj ho;refine⟨u,hu,h1c,o',ho',fun cs e=> ?_⟩;rcases hcase with⟨_,e'⟩|⟨_,e'⟩
  ·rw[e'] at e;cases e
  ·obtain⟨cs',e''⟩:=(pK e').2.2.2.1 _ e;exact h3 _ e''
 |xp k r p=>
  obtain⟨o,ho,h2⟩:=hc;obtain⟨o',ho',hcase⟩:=tJ hj ho;refine⟨o',ho',fun rs e=> ?_⟩;rcases hcase with⟨_,e'⟩|⟨_,e'⟩
  ·rw[e'] at e;cases e
  ·exact h2 _ ((pK e').2.2.2.2 _ e)
 |xq k r p z i off=>
  obtain⟨o,ho,h2⟩:=hc;obtain⟨o',ho',hcase⟩:=tJ hj ho;refine⟨o',ho',fun rs e=> ?_⟩;rcases hcase with⟨_,e'⟩|⟨_,e'⟩
  ·rw[e'] at e;cases e
  ·exact h2 _ ((pK e').2.2.2.2 _ e)
theorem Oe{f:C->C}{tm:List (Nat×V)}{own:List Obj}{Ω:Store}{bo:List Value}{bΩ:Hs}(j:Nat){oj:Obj}{hj:Value}(hoj:own[j]? =some oj)(hbj:bo[j]? =some hj)(hR:jc N ⟨tm,own::Ω⟩ a w σ (bo::bΩ))(hlen:bo.length=own.length)
 (hn:dM w σ w σ')(hch:∀x,¬owns oj hj x->σ' x=σ x)(hlive:∀x,x<w.heap.size\/σ' x=0)
 (hC:∀(c:C) (v:Value),fK w σ (own::Ω) (bo::bΩ) c v->fK w σ' ((own.map (Obj.jM f)).set j .dead::Ω) (bo::bΩ) (f c) v):
 jc N ⟨tm.map fun x=>(x.1,x.2.jM f),(own.map (Obj.jM f)).set j .dead::Ω⟩ a w σ' (bo::bΩ)/\Step (own::Ω) (bo::bΩ) σ w ((own.map (Obj.jM f)).set j .dead::Ω) (bo::bΩ) σ' w:=by
 have M4:∀k o,aR ((own.map (Obj.jM f)).set j .dead::Ω) k=some o->(k=(0,j)/\o=.dead)\/(k≠(0,j)/\∃o0,aR (own::Ω) k=some o0/\(o=o0\/o=o0.jM f)/\(0<k.1->o=o0)/\∀h b,owns o h b<->owns o0 h b):=by
  intro k o hk;obtain⟨l,i⟩:=k
  cases l with
  |zero=>
   rw[aY,uQ] at hk;by_cases e:i=j
   ·subst e;rw[if_pos rfl,if_pos (List.getElem?_eq_some_iff.1 hoj).1] at hk;cases hk;exact .inl ⟨rfl,rfl⟩
   ·rw[if_neg e] at hk
    cases ho:own[i]? with
    |none=>rw[ho] at hk;cases hk
    |some o0=>
     rw[ho] at hk;cases hk;refine .inr ⟨fun x=>e (by cases x;rfl),o0,by rw[aY];exact ho,.inr rfl,fun h=>absurd h (by simp),fun h b=> ?_⟩
     cases o0 with
     |box cs=>cases h<;>first|exact Iff.rfl|(rename_i x;cases x<;>exact Iff.rfl)
     |_=>exact Iff.rfl
  |succ l=>rw[bF] at hk;exact .inr ⟨by simp,o,by rw[bF];exact hk,.inl rfl,fun _=>rfl,fun _ _=>Iff.rfl⟩
 have hCs:∀(cs:List C)(vs:List Value),d9 w σ (own::Ω) (bo::bΩ) cs vs->d9 w σ' ((own.map (Obj.jM f)).set j .dead::Ω) (bo::bΩ) (cs.map f) vs:=by
  intro cs vs hc;refine⟨by simpa using hc.1,fun i x hx=> ?_⟩;rw[List.getElem?_map] at hx
  cases hci:cs[i]? with
  |none=>rw[hci] at hx;cases hx
  |some y=>
   rw[hci] at hx;cases hx;obtain⟨v,hv,hr,ho⟩:=hc.2 i y hci;exact⟨v,hv,hC y v hr,ho⟩
 have hother:∀k o h x,k≠(0,j)->aR (own::Ω) k=some o->aR (bo::bΩ) k=some h->owns o h x->σ' x=σ x:=by
  intro k o h x hk e1 e2 e3;refine hch x fun e4=>hk ?_;exact hR.S.apart k (0,j) o _ h _ x e1 e2 e3 (by rw[aY];exact hoj) (by rw[aY];exact hbj) e4
 refine⟨⟨hR.size,hR.defers,⟨fun k o ho=> ?_,fun k k' o o' h1 h2 b' e1 e2 e3 e4 e5 e6=> ?_,⟨by have:=hR.S.shape.1;simpa using this,fun l fr hl=> ?_⟩,hlive,hR.S.qI.near hn⟩,fun t=> ?_⟩,⟨Nat.le_refl _,rfl,rfl,fun x hx hno=>⟨rfl,?_⟩,hn,fun x hx=> ?_⟩⟩
 ·rcases M4 k o ho with⟨rfl,rfl⟩|⟨hk,o0,h0,hcase,hl0,how⟩
  ·exact⟨_,by rw[aY];exact hbj,trivial⟩
  ·obtain⟨hv,hhv,hr⟩:=hR.S.obj k o0 h0;refine⟨hv,hhv,?_⟩;have hbk:∀x,owns o0 hv x->w.heap[x]? =w.heap[x]? /\σ' x=σ x:=fun x e=>⟨rfl,hother k o0 hv x hk h0 hhv e⟩;obtain⟨l,i⟩:=k
   cases l with
   |succ l=>
    rw[hl0 (by simp)];exact fG.mono hn (Keep.refl _ _) hbk hr
   |zero=>
    cases o0 with
    |box cs=>
     obtain⟨b',cc',t',e',hb',hs',hc'⟩:=hr;subst e'
     have he:o=.box (cs.map f):=by
      rw[aY,uQ] at ho;rw[aY] at h0;split at ho
      ·rename_i e;exact absurd (by rw[e]) hk
      ·rw[h0] at ho;cases ho;rfl
     rw[he];exact⟨b',cc',t',rfl,hb',(hbk b' rfl).2.trans hs',hCs _ _ hc'⟩
    |dead=>rcases hcase with rfl|rfl<;>trivial
    |tok z es'=>
     have:o=.tok z es':=by rcases hcase with rfl|rfl<;>rfl
     rw[this];exact fG.mono (S:=[]) (β:=[]) (o:=(.tok z es')) hn (Keep.refl [] []) hbk hr
    |dL z es'=>
     have:o=.dL z es':=by rcases hcase with rfl|rfl<;>rfl
     rw[this];exact fG.mono (S:=[]) (β:=[]) (o:=(.dL z es')) hn (Keep.refl [] []) hbk hr
    |mp m=>
     have:o=.mp m:=by rcases hcase with rfl|rfl<;>rfl
     rw[this];exact fG.mono (S:=[]) (β:=[]) (o:=(.mp m)) hn (Keep.refl [] []) hbk hr
    |eD n z es'=>
     have:o=.eD n z es':=by rcases hcase with rfl|rfl<;>rfl
     rw[this];exact fG.mono (S:=[]) (β:=[]) (o:=(.eD n z es')) hn (Keep.refl [] []) hbk hr
    |seed n=>rcases hcase with rfl|rfl<;>trivial
    |xf rs=>
     have:o=.xf rs:=by rcases hcase with rfl|rfl<;>rfl
     rw[this];exact fG.mono (S:=[]) (β:=[]) (o:=(.xf rs)) hn (Keep.refl [] []) hbk hr
 ·rcases M4 k o e1 with⟨rfl,rfl⟩|⟨hk,o0,f1,_,_,f2⟩
  ·cases e3
  ·rcases M4 k' o' e4 with⟨rfl,rfl⟩|⟨hk',o0',g1,_,_,g2⟩
   ·cases e6
   ·exact hR.S.apart k k' o0 o0' h1 h2 b' f1 e2 ((f2 _ _).1 e3) g1 e5 ((g2 _ _).1 e6)
 ·cases l with
  |zero=>
   simp at hl;subst hl;exact⟨_,rfl,by simp[hlen]⟩
  |succ l=>exact hR.S.shape.2 (l+1) fr hl
 ·show bV w σ' ((own.map (Obj.jM f)).set j .dead::Ω) (bo::bΩ) (look (tm.map fun x=>(x.1,x.2.jM f)) t) _;rw[BS (f:=V.jM f) rfl];have ht:=hR.T t
  cases hx:look tm t with
  |c x=>rw[hx] at ht;exact⟨hC x _ ht.1,ht.2⟩
  |agg cs=>rw[hx] at ht;obtain⟨ar,e,hc⟩:=ht;exact⟨ar,e,hCs _ _ hc⟩
  |eG xs=>
   rw[hx] at ht;obtain⟨ar,e,hl,h2⟩:=ht;refine⟨ar,e,by simpa using hl,fun i y hy=> ?_⟩;rw[List.getElem?_map] at hy
   cases hxi:xs[i]? with
   |none=>rw[hxi] at hy;cases hy
   |some z=>
    rw[hxi] at hy;cases hy;obtain⟨u,hu,h3⟩:=h2 i z hxi;refine⟨u,hu,?_⟩;obtain⟨bb,cs⟩:=z
    cases bb with
    |true=>obtain⟨a',e',hcs⟩:=h3;exact⟨a',e',hCs _ _ hcs⟩
    |false=>
     obtain⟨x,e',hxr,ho⟩:=h3;subst e';exact⟨_,rfl,hC x _ hxr,ho⟩
  |any=>trivial
 ·exact hch x fun e=>hno ⟨(0,j),_,_,by rw[aY];exact hoj,by rw[aY];exact hbj,e⟩
 ·left;obtain⟨k,o,h1,e1,e2,e3⟩:=hx;rcases M4 k o e1 with⟨rfl,rfl⟩|⟨hk,o0,f1,_,_,f2⟩
  ·cases e3
  ·exact⟨k,o0,h1,f1,e2,(f2 _ _).1 e3⟩
theorem Z4{j:Nat}{es:List (List D)}:Obj.lQ j es=Obj.jM (C.lQ j es):=by funext o;cases o<;>rfl
theorem Z5{j:Nat}{es:List (List D)}:V.lQ j es=V.jM (C.lQ j es):=by funext v;cases v<;>rfl
theorem adk{tm:List (Nat×V)}{own:List Obj}{Ω:Store}(j:Nat)(aN:Nat)(es:List (List D))(hj:own[j]? =some (.dL aN es))(hR:jc N ⟨tm,own::Ω⟩ a w σ β):
 ∃σ' β',jc N ⟨tm.map fun x=>(x.1,x.2.lQ j es),(own.map (Obj.lQ j es)).set j .dead::Ω⟩ a w σ' β'/\Step (own::Ω) β σ w ((own.map (Obj.lQ j es)).set j .dead::Ω) β' σ' w/\
  Keep (fD (own::Ω)) (fD β) (fD ((own.map (Obj.lQ j es)).set j .dead::Ω)) (fD β'):=by
 obtain⟨bo,bΩ,rfl,hlen⟩:=frames hR;obtain⟨hh,hb,hr⟩:=hR.S.obj (0,j) _ (by rw[aY];exact hj);rw[aY] at hb
 obtain⟨σ',hn,hch,hlive,hdata⟩:∃σ',dM w σ w σ'/\(∀x,¬owns (.dL aN es) hh x->σ' x=σ x)/\(∀x,x<w.heap.size\/σ' x=0)/\bU w σ' (.sl es) hh:=by
  obtain⟨hle,ad,cap,rfl,hcap,h4⟩:=hr;by_cases h0:cap=0
  ·obtain rfl:es=[]:=List.eq_nil_of_length_eq_zero (by omega);exact⟨σ,dM.refl _ _,fun _ _=>rfl,hR.S.live,.nil _ _⟩
  rcases h4 with h4|⟨b,cc,ty,rfl,hbc,hσ,hcz,hcells⟩
  ·exact absurd h4 h0
  have hsz:es.length*aN<=cc.size:=Nat.le_trans (Nat.mul_le_mul_right _ hcap) hcz
  let σ':Nat->Nat:=fun x=>if x=b then es.length*aN else σ x
  have hn:dM w σ w σ':=by
   intro b1 c1 t1 xM e1;by_cases e:b1=b
   ·subst e;rw[hbc] at e1;cases e1;exact⟨by simp only[σ',if_true];omega,fun h=>by omega,cc,hbc,rfl,fun _ _=>rfl⟩
   ·exact⟨by simp only[σ',if_neg e];exact Nat.le_refl _,fun _=>if_neg e,c1,e1,rfl,fun _ _=>rfl⟩
  refine⟨σ',hn,fun x hx=>if_neg fun e=>hx (by subst e;simp[owns,blk,h0]),fun x=> ?_,?_⟩
  ·by_cases e:x=b
   ·left;subst e;exact lt_of_some hbc
   ·simp only[σ',if_neg e];exact hR.S.live x
  ·have hfl:=gH es aN hle;refine .sl b 0 cap aN es (fun i=>(cc[i]?).getD undef) cc ty (0,0) hcap hle hbc (by simp[σ']) (fun i hi=> ?_) (fun i d hd=> ?_)
   ·obtain⟨v,hv,_⟩:=hcells i _ (List.getElem?_eq_getElem (by omega));simp[hv]
   ·obtain⟨v,hv,hr⟩:=hcells i d hd;simp only[hv,Option.getD_some];exact hr.mono hn
 rw[Z4,Z5]
 have:=Oe (f:=C.lQ j es) j hj hb hR hlen hn hch hlive (fun c v hc=>by
  by_cases hm:c=.gK (0,j)
  ·subst hm;obtain⟨o,ho,h2⟩:=hc;rw[aY,hj] at ho;cases ho;have hv:=h2 _ _ rfl;rw[aY,hb] at hv;cases hv;simp only[C.lQ,if_true];exact hdata
  ·have hfr:C.lQ j es c=c:=by
    cases c with
    |gK k=>
     obtain⟨l,i⟩:=k
     cases l with
     |zero=>simp only[C.lQ];rw[if_neg (fun e=>hm (by rw[e]))]
     |succ l=>rfl
    |_=>rfl
   rw[hfr]
   exact Iw hj hn hc)
 exact⟨σ',_,this.1,this.2,Keep.refl _ _⟩
def C.lab(row:Bool)(j n:Nat)(es:List (List D)):C->C
 | .gK (0,i)=>if i=j/\row=true then .d (.ol n es) else .gK (0,i)
 | .bG (0,i) es'=>if i=j/\row=false/\es'.length=es.length then .d (.ol n es) else .bG (0,i) es'
 |c=>c
def Iy(row:Bool)(n aN:Nat)(es:List (List D)):Obj:=match row with|true=>.dL aN es|false=>.eD n aN es
theorem Sd{tm:List (Nat×V)}{own:List Obj}{Ω:Store}(j n:Nat)(aN:Nat)(es:List (List D))(row:Bool)(hj:own[j]? =some (Iy row n aN es))(hR:jc N ⟨tm,own::Ω⟩ a w σ β):
 ∃σ' β',jc N ⟨tm.map fun x=>(x.1,x.2.jM (C.lab row j n es)),(own.map (Obj.jM (C.lab row j n es))).set j .dead::Ω⟩ a w σ' β'/\Step (own::Ω) β σ w ((own.map (Obj.jM (C.lab row j n es))).set j .dead::Ω) β' σ' w/\
  Keep (fD (own::Ω)) (fD β) (fD ((own.map (Obj.jM (C.lab row j n es))).set j .dead::Ω)) (fD β'):=by
 obtain⟨bo,bΩ,rfl,hlen⟩:=frames hR
 have key:∃hh σ',bo[j]? =some hh/\dM w σ w σ'/\(∀x,¬owns (Iy row n aN es) hh x->σ' x=σ x)/\(∀x,x<w.heap.size\/σ' x=0)/\bU w σ' (.ol n es) hh:=by
  have WR:∀(b off cap:Nat)(c:Array Value)(t:TypeId),w.heap[b]? =some (.cells c t (0,0))->σ b<=c.size->(∀e∈es,e.length=aN)->off+es.length*aN<=c.size->es.length<=cap->off=0/\cap*aN<=c.size->
   (∀(i:Nat)(d:D),es.flatten[i]? =some d->∃v,c[off+i]? =some v/\bU w σ d v)->
   dM w σ w (fun x=>if x=b then c.size+1+n else σ x)/\(∀x,x<w.heap.size\/(fun x=>if x=b then c.size+1+n else σ x) x=0)/\bU w (fun x=>if x=b then c.size+1+n else σ x) (.ol n es) (.slice (some ⟨b,off,none⟩) es.length cap):=by
   intro b off cap c t hb hσ hle hsz hcap hx hcells
   have hn:dM w σ w (fun x=>if x=b then c.size+1+n else σ x):=by
    intro b1 c1 t1 xM e1;by_cases e:b1=b
    ·subst e;rw[hb] at e1;cases e1;exact⟨by simp only[if_true];omega,fun h=>by omega,c,hb,rfl,fun _ _=>rfl⟩
    ·exact⟨by simp only[if_neg e];exact Nat.le_refl _,fun _=>if_neg e,c1,e1,rfl,fun _ _=>rfl⟩
   refine⟨hn,fun x=> ?_,?_⟩
   ·by_cases e:x=b
    ·left;subst e;exact lt_of_some hb
    ·simp only[if_neg e];exact hR.S.live x
   ·have hfl:=gH es aN hle;refine .ol n b off cap aN es (fun i=>(c[off+i]?).getD undef) c t hcap hle hb (by simp) hsz (fun i hi=> ?_) (fun i d hd=> ?_) hx
    ·obtain⟨v,hv,_⟩:=hcells i _ (List.getElem?_eq_getElem (by omega));simp[hv]
    ·obtain⟨v,hv,hr⟩:=hcells i d hd;simp only[hv,Option.getD_some];exact hr.mono hn
  cases row with
  |true=>
   obtain⟨hh,hb,hr⟩:=hR.S.obj (0,j) _ (by rw[aY];exact hj);obtain⟨hle,ad,cap,rfl,hcap,h4⟩:=hr;rw[aY] at hb;by_cases h0:cap=0
   ·obtain rfl:es=[]:=List.eq_nil_of_length_eq_zero (by omega);exact⟨_,σ,hb,dM.refl _ _,fun _ _=>rfl,hR.S.live,.oh _ _ _⟩
   rcases h4 with h4|⟨b,cc,ty,rfl,hbc,hσ,hcz,hcells⟩
   ·exact absurd h4 h0
   have hsz:es.length*aN<=cc.size:=Nat.le_trans (Nat.mul_le_mul_right _ hcap) hcz;obtain⟨k1,k2,k3⟩:=WR b 0 cap cc ty hbc (by omega) hle (by omega) hcap ⟨rfl,hcz⟩ (fun i d hd=>by rw[Nat.zero_add];exact hcells i d hd);exact⟨_,_,hb,k1,fun x hx=>if_neg fun e=>hx (by subst e;simp[Iy,owns,blk,h0]),k2,k3⟩
  |false=>
   obtain⟨hh,hb,hr⟩:=hR.S.obj (0,j) _ (by rw[aY];exact hj);obtain⟨h1,hle,ad,cap,rfl,hcap,hcase⟩:=hr;rw[aY] at hb;rcases hcase with⟨h4,h5⟩|⟨h4,b,off,c,t,rfl,hbc,hσ,hfit⟩
   ·exact⟨_,σ,hb,dM.refl _ _,fun _ _=>rfl,hR.S.live,h5⟩
   ·have hm:es.length*aN<=cap*aN:=Nat.mul_le_mul_right _ hcap
    obtain⟨k1,k2,k3⟩:=WR b off cap c t hbc (by omega) hle (by omega) hcap ⟨by omega,by omega⟩ (fun i d hd=>by
     cases h1 with
     |nil=>simp at hd
     |sl b' off' cap' qJ es vals c' t' ND q1 q2 q3 q4 q5 q6=>
      rw[hbc] at q3;cases q3;have hil:=(List.getElem?_eq_some_iff.1 hd).1;rw[gH es aN hle] at hil
      have he:qJ=aN:=by
       cases es with
       |nil=>simp at hil
       |cons y ys=>rw[<-q2 y (by simp),hle y (by simp)]
      subst he
      exact⟨_,q5 i hil,q6 i d hd⟩)
    exact⟨_,_,hb,k1,fun x hx=>if_neg fun e=>hx (by subst e;simp[Iy,owns,blk,h4]),k2,k3⟩
 obtain⟨hh,σ',hb,hn,hch,hlive,hdata⟩:=key
 have:=Oe (f:=C.lab row j n es) j hj hb hR hlen hn hch hlive (fun c v hc=>by
  by_cases hm:c=.gK (0,j)/\row=true
  ·obtain⟨rfl,rfl⟩:=hm;simp only[C.lab,and_self,if_true];obtain⟨o,ho,h2⟩:=hc;rw[aY,hj] at ho;cases ho;have hv:=h2 _ _ rfl;rw[aY,hb] at hv;cases hv;exact hdata
  ·by_cases ht:∃es',c=.bG (0,j) es'/\row=false/\es'.length=es.length
   ·obtain⟨es',rfl,rfl,hl⟩:=ht;simp only[C.lab,hl,and_self,if_true];obtain⟨h1,o,ho,h2⟩:=hc;rw[aY,hj] at ho;cases ho;have hv:=(h2 _ _ (.inr ⟨n,rfl⟩)).2 hl;rw[aY,hb] at hv;cases hv;exact hdata
   ·have hfr:C.lab row j n es c=c:=by
     cases c with
     |gK k=>
      obtain⟨l,i⟩:=k
      cases l with
      |zero=>simp only[C.lab];rw[if_neg (fun e=>hm ⟨by rw[e.1],e.2⟩)]
      |succ l=>rfl
     |bG k es'=>
      obtain⟨l,i⟩:=k
      cases l with
      |zero=>simp only[C.lab];rw[if_neg (fun e=>ht ⟨es',by rw[e.1],e.2⟩)]
      |succ l=>rfl
     |_=>rfl
    rw[hfr]
    exact Iw hj hn hc)
 exact⟨σ',_,this.1,this.2,Keep.refl _ _⟩
def Iz(j:Nat)(s:St):St:=
 match s.st with
 |own::Ω=>match own[j]? with
  |some (.dL _ es)=>⟨s.tm.map fun x=>(x.1,x.2.lQ j es),(own.map (Obj.lQ j es)).set j .dead::Ω⟩
  |_=>s
 |[]=>s
def IB:Nat->St->St
 |0,s=>s
 |n+1,s=>IB n (Iz n s)
def A8(s:St):St:=
 match s.st with
 |own::_=>IB own.length s
 |[]=>s
theorem Qt(j:Nat)(s:St):fV N s (Iz j s):=by
 obtain⟨tm,st⟩:=s
 cases st with
 |nil=>exact fV.refl _ _
 |cons own Ω=>
  unfold Iz
  simp only
  split
  ·rename_i z es hj;exact fun a w σ β hR=>adk j z es hj hR
  ·exact fV.refl _ _
theorem FP:∀(n:Nat)(s:St),fV N s (IB n s)
 |0,s=>fV.refl _ _
 |n+1,s=>(Qt n s).trans (FP n _)
theorem ru(s:St):fV N s (A8 s):=by
 unfold A8;split
 ·exact FP _ _
 ·exact fV.refl _ _
theorem yU{c:Code}{Q:Exit->St->Prop}{g:St->St}(hg:∀s,fV N s (g s))(h:AW P N c (fun e s'=>Q e (g s')) s):AW P N c Q s:=by
 intro a w σ β hR;refine wp_mono (h a w σ β hR) ?_;rintro e a' w' ⟨s',σ',β',k1,k2,k3,k4⟩;obtain⟨σ2,β2,r2,st2,kk2⟩:=hg s' a' w' σ' β' k1;exact⟨_,σ2,β2,r2,k2.trans st2,k3.trans kk2,k4⟩
end
section
variable {P:Program} {E:Md} {S S':Store} {N:Nat} {s:St}
def lookO(tm:List (Nat×V))(t:Option Nat):Option V:=t.map (look tm)
theorem Og{tm:List (Nat×V)}{t:Option Nat}:lookO tm t=t.map (look tm):=rfl
theorem TW{tm:List (Nat×V)}{t:Nat}:lookO tm (some t)=some (look tm t):=rfl
theorem TY{tm:List (Nat×V)}:lookO tm none=none:=rfl
def A9(tm:List (Nat×V))(l:List Operand):List V:=l.map (ev tm)
theorem adl{tm:List (Nat×V)}:A9 tm []=[]:=rfl
theorem Z6{tm:List (Nat×V)}{x:Operand}{l:List Operand}:A9 tm (x::l)=ev tm x::A9 tm l:=rfl
def Lf(tm:List (Nat×V))(x:Option Operand):Option V:=x.map (ev tm)
theorem Z7{tm:List (Nat×V)}{x:Operand}:Lf tm (some x)=some (ev tm x):=rfl
theorem Z8{tm:List (Nat×V)}:Lf tm none=none:=rfl
def Lg(tm:List (Nat×V))(l:List (Nat×Operand)):List (Nat×V):=l.map fun x=>(x.1,ev tm x.2)
theorem adn{tm:List (Nat×V)}:Lg tm []=[]:=rfl
theorem Z9{tm:List (Nat×V)}{i:Nat}{x:Operand}{l:List (Nat×Operand)}:Lg tm ((i,x)::l)=(i,ev tm x)::Lg tm l:=rfl
def Split(x:Bool)(A B:St->Prop)(s:St):Prop:=(x=true->A s)/\(x=false->B s)
theorem aA{x:Bool}{A B:St->Prop}(h1:x=true->A s)(h2:x=false->B s):Split x A B s:=⟨h1,h2⟩
theorem T9{A B:St->Prop}:Split true A B s=A s:=by simp[Split]
theorem Qu{A B:St->Prop}:Split false A B s=B s:=by simp[Split]
def Oh(dst:Option Nat)(v:V)(K:St->Prop)(s:St):Prop:=K (s.put dst v)
theorem ado{dst:Option Nat}{v:V}{K:St->Prop}:Oh dst v K s=K (s.put dst v):=rfl
def Ua(P:Program)(o:Oper)(K:St->Prop)(s:St):Prop:=fU P o s K
def Oi(P:Program)(E:Md)(o:Oper)(K:St->Prop)(s:St):Prop:=eO P E o s K
theorem aac{o:Oper}{K:St->Prop}:Ua P o K s=fU P o s K:=rfl
theorem WS{o:Oper}{K:St->Prop}:Oi P E o K s=eO P E o s K:=rfl
def yV(dst:Option Nat)(want:Bool)(A K:St->Prop)(s:St):Option V->Prop
 |some (.c (.d (.b x)))=>match want with
  |true=>Split x A (Oh dst (.eG []) K) s
  |false=>Split x (Oh dst (.eG []) K) A s
 |some (.eG [])=>K (s.put dst (.eG []))
 |_=>False
theorem Qv{R:Array Oper}{dst op ty pos after}{K:St->Prop}:qY P R ⟨dst,op,ty,pos,after,none⟩ s K=fU P ⟨dst,op,ty,pos,after,none⟩ s K:=rfl
theorem Qw{R:Array Oper}{dst op ty pos after j want}{K:St->Prop}:qY P R ⟨dst,op,ty,pos,after,some (j,want)⟩ s K=
 yV dst want (Ua P ⟨dst,op,ty,pos,after,some (j,want)⟩ K) K s (lookO s.tm (fA R j)):=by
 show qY P R _ s K=_;simp only[qY,<-Og];generalize lookO s.tm (fA R j)=v
 cases v with
 |none=>rfl
 |some v=>
  cases v with
  |c x=>cases x with
   |d x=>cases x with
    |b x=>cases want<;>simp[yV,Split,Oh,Ua,and_comm]
    |_=>rfl
   |_=>rfl
  |eG l=>cases l<;>rfl
  |_=>rfl
theorem Oj{R:Array Oper}{dst op ty pos after}{K:St->Prop}:nk P E R ⟨dst,op,ty,pos,after,none⟩ s K=eO P E ⟨dst,op,ty,pos,after,none⟩ s K:=rfl
theorem Ol{R:Array Oper}{dst op ty pos after j want}{K:St->Prop}:nk P E R ⟨dst,op,ty,pos,after,some (j,want)⟩ s K=
 yV dst want (Oi P E ⟨dst,op,ty,pos,after,some (j,want)⟩ K) K s (lookO s.tm (fA R j)):=by
 simp only[nk,<-Og];generalize lookO s.tm (fA R j)=v
 cases v with
 |none=>rfl
 |some v=>
  cases v with
  |c x=>cases x with
   |d x=>cases x with
    |b x=>cases want<;>simp[yV,Split,Oh,Oi,and_comm]
    |_=>rfl
   |_=>rfl
  |eG l=>cases l<;>rfl
  |_=>rfl
@[congr] theorem agG {R:Array Oper} {os:List Oper} {s s':St} {K:St->Prop} (h2:s=s'):yR P R os s K=yR P R os s' K:=by rw[h2]
@[congr] theorem agH {R:Array Oper} {os:List Oper} {s s':St} {K:St->Prop} (h2:s=s'):qL P E R os s K=qL P E R os s' K:=by rw[h2]
@[congr] theorem ae8 {R:Array Oper} {o:Oper} {s s':St} {K:St->Prop} (h2:s=s'):qY P R o s K=qY P R o s' K:=by rw[h2]
@[congr] theorem aeI {R:Array Oper} {o:Oper} {s s':St} {K:St->Prop} (h2:s=s'):nk P E R o s K=nk P E R o s' K:=by rw[h2]
@[congr] theorem ae9 {dst:Option Nat} {want:Bool} {A K:St->Prop} {s s':St} {v v':Option V} (h2:s=s') (h3:v=v'):yV dst want A K s v=yV dst want A K s' v':=by rw[h2,h3]
@[congr] theorem af9 {x x':Bool} {A B:St->Prop} {s s':St} (h:x=x') (h2:s=s'):Split x A B s=Split x' A B s':=by rw[h,h2]
@[congr] theorem aga {o:Oper} {s s':St} {K:St->Prop} (h2:s=s'):bK P o s K=bK P o s' K:=by rw[h2]
@[congr] theorem agb {o:Oper} {s s':St} {K:St->Prop} (h2:s=s'):fU P o s K=fU P o s' K:=by rw[h2]
@[congr] theorem agI {t:TypeId} {s s':St} {dst:Option Nat} {K:St->Prop} {b b':Bool} {r r':R} (h1:s=s') (h2:b=b') (h3:r=r'):Dq P t s dst K b r=Dq P t s' dst K b' r':=by rw[h1,h2,h3]
@[congr] theorem aeJ {t u:TypeId} {a a' x x':V} {s s':St} {dst:Option Nat} {K:St->Prop} (h1:a=a') (h3:x=x') (h2:s=s'):yD P t u a x s dst K=yD P t u a' x' s' dst K:=by rw[h1,h2,h3]
@[congr] theorem afa {t u:TypeId} {k:Key} {x x':V} {s s':St} {dst:Option Nat} {K:St->Prop} (h3:x=x') (h2:s=s'):AX P t u k x s dst K=AX P t u k x' s' dst K:=by rw[h2,h3]
@[congr] theorem afb {o:Oper} {s s':St} {K:St->Prop} (h2:s=s'):eO P E o s K=eO P E o s' K:=by rw[h2]
@[congr] theorem agJ {l l':Option Nat} {es es' x:List (List D)} {z:Nat} {s s':St} {dst:Option Nat} {K:St->Prop} (h1:l=l') (h2:es=es') (h3:s=s'):yQ l es s dst z x K=yQ l' es' s' dst z x K:=by rw[h1,h2,h3]
@[congr] theorem agK {b b':Bool} {es es' x:List (List D)} {z:Nat} {s s':St} {dst:Option Nat} {K:St->Prop} (h1:b=b') (h2:es=es') (h3:s=s'):xu b es s dst z x K=xu b' es' s' dst z x K:=by rw[h1,h2,h3]
@[congr] theorem agL {b b':Bool} {n:Nat} {x:List (List D)} {z:Nat} {s s':St} {dst:Option Nat} {K:St->Prop} (h1:b=b') (h3:s=s'):Aj b n s dst z x K=Aj b' n s' dst z x K:=by rw[h1,h3]
@[congr] theorem afc {s s':St} {dst:Option Nat} {o o':Obj} {mk:Key->V} {K:St->Prop} (h1:s=s') (h2:o=o'):newObj s dst o mk K=newObj s' dst o' mk K:=by rw[h1,h2]
@[congr] theorem afd {t:TypeId} {s s':St} {dst:Option Nat} {K:St->Prop} (h1:s=s'):qW P t s dst K=qW P t s' dst K:=by rw[h1]
@[congr] theorem agM {v v':V} {s s':St} {dst:Option Nat} {K:St->Prop} (h1:v=v') (h2:s=s'):yP v s dst K=yP v' s' dst K:=by rw[h1,h2]
@[congr] theorem afe {t:TypeId} {a a' x x':V} {s s':St} {dst:Option Nat} {K:St->Prop} (h1:a=a') (h3:x=x') (h2:s=s'):qX P t a x s dst K=qX P t a' x' s' dst K:=by rw[h1,h2,h3]
@[congr] theorem agc {t:TypeId} {a a' x x':V} {s s':St} {dst:Option Nat} {K:St->Prop} (h1:a=a') (h3:x=x') (h2:s=s'):uH P t a x s dst K=uH P t a' x' s' dst K:=by rw[h1,h2,h3]
@[congr] theorem aeK {t u:TypeId} {a a' x x':V} {s s':St} {dst:Option Nat} {K:St->Prop} (h1:a=a') (h3:x=x') (h2:s=s'):oL P t u a x s dst K=oL P t u a' x' s' dst K:=by rw[h1,h2,h3]
@[congr] theorem aeL {s s':St} {dst:Option Nat} {K:St->Prop} (h2:s=s'):qz s dst K=qz s' dst K:=by rw[h2]
@[congr] theorem aeM {t:TypeId} {a a' x x' y y':V} {s s':St} {dst:Option Nat} {K:St->Prop} (h1:a=a') (h3:x=x') (h4:y=y') (h2:s=s'):qA P t a x y s dst K=qA P t a' x' y' s' dst K:=by rw[h1,h2,h3,h4]
@[congr] theorem agd {f:FuncId} {args args':List V} {s s':St} {dst:Option Nat} {K:St->Prop} (h1:args=args') (h2:s=s'):vW P f args s dst K=vW P f args' s' dst K:=by rw[h1,h2]
@[congr] theorem agf {c:Call} {s s':St} {dst:Option Nat} {K:St->Prop} (h2:s=s'):lT P c s dst K=lT P c s' dst K:=by rw[h2]
@[congr] theorem agh {K:St->Prop} {Q:Exit->St->Prop} {e:Exit} {s s':St} (h2:s=s'):jq K Q e s=jq K Q e s':=by rw[h2]
def fH(s:St)(dst:Option Nat)(K:St->Prop)(r:R):Prop:=r.1/\K (s.put dst r.2)
@[congr] theorem agi {s s':St} {dst:Option Nat} {K:St->Prop} {r r':R} (h1:s=s') (h2:r=r'):fH s dst K r=fH s' dst K r':=by rw[h1,h2]
theorem aad{dst:Option Nat}{K:St->Prop}{p:Prop}{v:V}:fH s dst K (p,v)=(p/\K (s.put dst v)):=rfl
def yX(caps:List (Key×Nat)):List V:=caps.map fun y=>.c (.ptr y.1 y.2)
def M5(P:Program)(fv:V)(args:List V)(s:St)(dst:Option Nat)(K:St->Prop):Prop:=
 match fv with
 | .c (.fn f caps)=>vW P f (args++yX caps) s dst K
 |_=>False
def BU(P:Program)(m:Nat)(f:FuncId)(args:List V)(s:St)(dst:Option Nat)(K:St->Prop):Prop:=
 match m with
 |0=>∃r,aG P f args r/\K (s.put dst r)
 |1=>∃S' v,DS s.st S'/\vW P f args s dst (fun t=>t=St.put ⟨s.tm,S'⟩ dst v)/\K (St.put ⟨s.tm,S'⟩ dst v)
 |_=>∃S' v,vW P f args s dst (fun t=>t=St.put ⟨s.tm,S'⟩ dst v)/\K (St.put ⟨s.tm,S'⟩ dst v)
def vZ(P:Program)(m:Nat)(fv:V)(args:List V)(s:St)(dst:Option Nat)(K:St->Prop):Prop:=
 match fv with
 | .c (.fn f caps)=>BU P m f (args++yX caps) s dst K
 |_=>False
@[congr] theorem agj {fv WU:V} {args args':List V} {s s':St} {dst:Option Nat} {K:St->Prop} (h1:fv=WU) (h3:args=args') (h2:s=s'):M5 P fv args s dst K=M5 P WU args' s' dst K:=by rw[h1,h2,h3]
@[congr] theorem agk {m:Nat} {fv WU:V} {args args':List V} {s s':St} {dst:Option Nat} {K:St->Prop} (h1:fv=WU) (h3:args=args') (h2:s=s'):vZ P m fv args s dst K=vZ P m WU args' s' dst K:=by rw[h1,h2,h3]
@[congr] theorem agl {m:Nat} {f:FuncId} {args args':List V} {s s':St} {dst:Option Nat} {K:St->Prop} (h1:args=args') (h2:s=s'):BU P m f args s dst K=BU P m f args' s' dst K:=by rw[h1,h2]
theorem Qx{x:Operand}{args:Array Operand}{ts:Array TypeId}{dst:Option Nat}{K:St->Prop}:lT P ⟨.value x,args,ts⟩ s dst K=M5 P (ev s.tm x) (A9 s.tm args.toList) s dst K:=rfl
theorem Om{x y:Operand}{t u:TypeId}{dst:Option Nat}{K:St->Prop}:lT P ⟨.builtin .append,#[x,y],#[t,u]⟩ s dst K=oL P t u (ev s.tm x) (ev s.tm y) s dst K:=rfl
theorem WV{x:Operand}{t:TypeId}{dst:Option Nat}{K:St->Prop}:lT P ⟨.builtin .len,#[x],#[t]⟩ s dst K=fH s dst K (BF P s.st t (ev s.tm x)):=rfl
theorem WW{x y:Operand}{ts:Array TypeId}{dst:Option Nat}{K:St->Prop}:lT P ⟨.builtin .max,#[x,y],ts⟩ s dst K=fH s dst K (sN true (ev s.tm x) (ev s.tm y)):=rfl
theorem WX{x y:Operand}{ts:Array TypeId}{dst:Option Nat}{K:St->Prop}:lT P ⟨.builtin .min,#[x,y],ts⟩ s dst K=fH s dst K (sN false (ev s.tm x) (ev s.tm y)):=rfl
theorem aae{x:Operand}{t:TypeId}{tm:List (Nat×V)}:nval P S tm (.call ⟨.builtin .len,#[x],#[t]⟩)=BF P S t (ev tm x):=rfl
def lU(P:Program)(mode:Option Nat)(f:FuncId)(args:List V)(s:St)(dst:Option Nat)(K:St->Prop):Prop:=
 match mode with
 |some m=>BU P m f args s dst K
 |none=>vW P f args s dst K
@[congr] theorem agm {dr:Option Nat} {f:FuncId} {args args':List V} {s s':St} {dst:Option Nat} {K:St->Prop} (h1:args=args') (h2:s=s'):lU P dr f args s dst K=lU P dr f args' s' dst K:=by rw[h1,h2]
theorem aaf{f:Nat}{caps:List (Key×Nat)}{args:List V}{dst:Option Nat}{K:St->Prop}:M5 P (.c (.fn f caps)) args s dst K=lU P none f (args++yX caps) s dst K:=rfl
theorem aag{m:Nat}{f:Nat}{caps:List (Key×Nat)}{args:List V}{dst:Option Nat}{K:St->Prop}:vZ P m (.c (.fn f caps)) args s dst K=lU P (some m) f (args++yX caps) s dst K:=rfl
theorem au{dr:Option Nat}{f:FuncId}{args:List V}{dst:Option Nat}{K:St->Prop}{r:V}(h:aG P f (args.map V.qO) r)(hK:K (s.put dst r)):lU P dr f args s dst K:=by
 cases dr with
 |none=>exact BQ h hK
 |some m=>
  match m with
  |0=>exact⟨r,fun S=>(h S).qO,hK⟩
  |1=>exact⟨s.st,r,DS.refl _,BQ h rfl,hK⟩
  |m+2=>exact⟨s.st,r,BQ h rfl,hK⟩
def acH:Option Nat->Bool
 |none=>true
 |some m=>decide (2<=m)
def agN:Option Nat->Bool
 |none=>true
 |some m=>decide (1<=m)
theorem bB{dr:Option Nat}{f:FuncId}{args:List V}{dst:Option Nat}{K:St->Prop}{r:V}{S1:Store}(hm:acH dr=true)(h:bD P f args s.st (fun r' S'=>r'=r/\S'=S1))(hK:K (St.put ⟨s.tm,S1⟩ dst r)):lU P dr f args s dst K:=by
 cases dr with
 |none=>exact .inl ⟨_,h,fun r' S' e=>by rw[e.1,e.2];exact hK⟩
 |some m=>
  match m,hm with
  |0,hm=>cases hm
  |1,hm=>cases hm
  |m+2,_=>exact⟨S1,r,.inl ⟨_,h,fun r' S' e=>by rw[e.1,e.2]⟩,hK⟩
theorem aff{dr:Option Nat}{f:FuncId}{args:List V}{dst:Option Nat}{K:St->Prop}{r:V}{S1:Store}(hm:agN dr=true)(hd:DS s.st S1)(h:bD P f args s.st (fun r' S'=>r'=r/\S'=S1))(hK:K (St.put ⟨s.tm,S1⟩ dst r)):lU P dr f args s dst K:=by
 cases dr with
 |none=>exact .inl ⟨_,h,fun r' S' e=>by rw[e.1,e.2];exact hK⟩
 |some m=>
  match m,hm with
  |0,hm=>cases hm
  |1,_=>exact⟨S1,r,hd,.inl ⟨_,h,fun r' S' e=>by rw[e.1,e.2]⟩,hK⟩
  |m+2,_=>exact⟨S1,r,.inl ⟨_,h,fun r' S' e=>by rw[e.1,e.2]⟩,hK⟩
theorem afg{f:FuncId}{args:List V}{dst:Option Nat}{K:St->Prop}{r:V}(h:TG P f args r)(hK:K (St.put s dst r)):lU P none f args s dst K:=.inr ⟨r,h,hK⟩
def EU(P:Program)(R:Array Oper)(os:List Oper)(K:St->Prop)(s:St):Prop:=yR P R os s K
def EW(P:Program)(E:Md)(R:Array Oper)(os:List Oper)(K:St->Prop)(s:St):Prop:=qL P E R os s K
@[congr] theorem agn {R:Array Oper} {os:List Oper} {s s':St} {K:St->Prop} (h2:s=s'):EU P R os K s=EU P R os K s':=by rw[h2]
@[congr] theorem agp {R:Array Oper} {os:List Oper} {s s':St} {K:St->Prop} (h2:s=s'):EW P E R os K s=EW P E R os K s':=by rw[h2]
section
variable {tm:List (Nat×V)} {R:Array Oper} {o:Oper} {os:List Oper} {K:St->Prop}
theorem aah:yR P R [] ⟨tm,S⟩ K=K ⟨tm,S⟩:=rfl
theorem WY:yR P R (o::os) ⟨tm,S⟩ K=qY P R o ⟨tm,S⟩ (EU P R os K):=rfl
theorem WZ:EU P R [] K ⟨tm,S⟩=K ⟨tm,S⟩:=rfl
theorem Ub:EU P R (o::os) K ⟨tm,S⟩=qY P R o ⟨tm,S⟩ (EU P R os K):=rfl
theorem aai:qL P E R [] ⟨tm,S⟩ K=K ⟨tm,S⟩:=rfl
theorem W9:qL P E R (o::os) ⟨tm,S⟩ K=nk P E R o ⟨tm,S⟩ (EW P E R os K):=rfl
theorem Xa:EW P E R [] K ⟨tm,S⟩=K ⟨tm,S⟩:=rfl
theorem Uc:EW P E R (o::os) K ⟨tm,S⟩=nk P E R o ⟨tm,S⟩ (EW P E R os K):=rfl
end
section
variable {dst:Option Nat} {ty:TypeId} {pos:String} {after:Array Edge} {g:Option (Nat×Bool)} {K:St->Prop}
theorem Qy{t:TypeId}:fU P ⟨dst,.alloc t,ty,pos,after,g⟩ s K=bK P ⟨dst,.alloc t,ty,pos,after,g⟩ s K:=rfl
theorem Xb{t:TypeId}{x:Operand}:fU P ⟨dst,.box t x,ty,pos,after,g⟩ s K=bK P ⟨dst,.box t x,ty,pos,after,g⟩ s K:=rfl
theorem Qz{t:TypeId}{a x:Operand}:fU P ⟨dst,.store t a x,ty,pos,after,g⟩ s K=bK P ⟨dst,.store t a x,ty,pos,after,g⟩ s K:=rfl
theorem Ud{t:TypeId}{a x:Operand}:fU P ⟨dst,.makeSlice t a x,ty,pos,after,g⟩ s K=bK P ⟨dst,.makeSlice t a x,ty,pos,after,g⟩ s K:=rfl
theorem Mx{t:TypeId}{r:Option Operand}:fU P ⟨dst,.makeMap t r,ty,pos,after,g⟩ s K=bK P ⟨dst,.makeMap t r,ty,pos,after,g⟩ s K:=rfl
theorem IC{t:TypeId}{x k v:Operand}:fU P ⟨dst,.mapUpdate t x k v,ty,pos,after,g⟩ s K=bK P ⟨dst,.mapUpdate t x k v,ty,pos,after,g⟩ s K:=rfl
theorem Oo{t:TypeId}{x i:Operand}{b:Bool}:fU P ⟨dst,.lookup t x i b,ty,pos,after,g⟩ s K=bK P ⟨dst,.lookup t x i b,ty,pos,after,g⟩ s K:=rfl
theorem Ue{x:Operand}{as:Array Operand}{ts:Array TypeId}:fU P ⟨dst,.call ⟨.value x,as,ts⟩,ty,pos,after,g⟩ s K=bK P ⟨dst,.call ⟨.value x,as,ts⟩,ty,pos,after,g⟩ s K:=rfl
theorem Xc{as:Array Operand}{ts:Array TypeId}:fU P ⟨dst,.call ⟨.builtin .len,as,ts⟩,ty,pos,after,g⟩ s K=bK P ⟨dst,.call ⟨.builtin .len,as,ts⟩,ty,pos,after,g⟩ s K:=rfl
theorem Xd{as:Array Operand}{ts:Array TypeId}:fU P ⟨dst,.call ⟨.builtin .max,as,ts⟩,ty,pos,after,g⟩ s K=bK P ⟨dst,.call ⟨.builtin .max,as,ts⟩,ty,pos,after,g⟩ s K:=rfl
theorem Xe{as:Array Operand}{ts:Array TypeId}:fU P ⟨dst,.call ⟨.builtin .min,as,ts⟩,ty,pos,after,g⟩ s K=bK P ⟨dst,.call ⟨.builtin .min,as,ts⟩,ty,pos,after,g⟩ s K:=rfl
theorem Uf{x:Operand}:fU P ⟨dst,.move x,ty,pos,after,g⟩ s K=bK P ⟨dst,.move x,ty,pos,after,g⟩ s K:=rfl
theorem Oq{x:Operand}:fU P ⟨dst,.assign x,ty,pos,after,g⟩ s K=bK P ⟨dst,.assign x,ty,pos,after,g⟩ s K:=rfl
theorem Ug{c a b:Operand}:fU P ⟨dst,.pick c a b,ty,pos,after,g⟩ s K=bK P ⟨dst,.pick c a b,ty,pos,after,g⟩ s K:=rfl
theorem Uh{t:TypeId}{a:Operand}:fU P ⟨dst,.load t a,ty,pos,after,g⟩ s K=bK P ⟨dst,.load t a,ty,pos,after,g⟩ s K:=rfl
theorem IE{t:TypeId}{x:Operand}{f:Nat}:fU P ⟨dst,.fieldAddr t x f,ty,pos,after,g⟩ s K=bK P ⟨dst,.fieldAddr t x f,ty,pos,after,g⟩ s K:=rfl
theorem QA{t:TypeId}{x:Operand}{f:Nat}:fU P ⟨dst,.field t x f,ty,pos,after,g⟩ s K=bK P ⟨dst,.field t x f,ty,pos,after,g⟩ s K:=rfl
theorem IG{t:TypeId}{x i:Operand}:fU P ⟨dst,.indexAddr t x i,ty,pos,after,g⟩ s K=bK P ⟨dst,.indexAddr t x i,ty,pos,after,g⟩ s K:=rfl
theorem QB{t:TypeId}{x i:Operand}:fU P ⟨dst,.index t x i,ty,pos,after,g⟩ s K=bK P ⟨dst,.index t x i,ty,pos,after,g⟩ s K:=rfl
theorem QC{op:BinOp}{t u:TypeId}{x y:Operand}:fU P ⟨dst,.binOp op t x y u,ty,pos,after,g⟩ s K=bK P ⟨dst,.binOp op t x y u,ty,pos,after,g⟩ s K:=rfl
theorem Ui{op:UnOp}{t:TypeId}{x:Operand}:fU P ⟨dst,.unOp op t x,ty,pos,after,g⟩ s K=bK P ⟨dst,.unOp op t x,ty,pos,after,g⟩ s K:=rfl
theorem MB{a b:TypeId}{x:Operand}:fU P ⟨dst,.convert a b x,ty,pos,after,g⟩ s K=bK P ⟨dst,.convert a b x,ty,pos,after,g⟩ s K:=rfl
theorem MC{x:Operand}{i:Nat}:fU P ⟨dst,.extract x i,ty,pos,after,g⟩ s K=bK P ⟨dst,.extract x i,ty,pos,after,g⟩ s K:=rfl
theorem Km{fn:Fn}{a b:Array Operand}:fU P ⟨dst,.makeFunc fn a b,ty,pos,after,g⟩ s K=bK P ⟨dst,.makeFunc fn a b,ty,pos,after,g⟩ s K:=rfl
theorem Kn{x:Operand}:fU P ⟨dst,.nilCheck x,ty,pos,after,g⟩ s K=bK P ⟨dst,.nilCheck x,ty,pos,after,g⟩ s K:=rfl
theorem QD{t:TypeId}{x:Operand}{lo hi mx:Option Operand}:fU P ⟨dst,.slice t x lo hi mx,ty,pos,after,g⟩ s K=bK P ⟨dst,.slice t x lo hi mx,ty,pos,after,g⟩ s K:=rfl
theorem QE{t:TypeId}{parts:Array (Nat×Operand)}:fU P ⟨dst,.build t parts,ty,pos,after,g⟩ s K=bK P ⟨dst,.build t parts,ty,pos,after,g⟩ s K:=rfl
theorem Ot{x y:Operand}{t u:TypeId}:fU P ⟨dst,.call ⟨.builtin .append,#[x,y],#[t,u]⟩,ty,pos,after,g⟩ s K=yD P t u (ev s.tm x) (ev s.tm y) s dst K:=rfl
theorem Gq{t:TypeId}{n:Nat}{parts:Array (Nat×Operand)}:fU P ⟨dst,.buildSlice t n parts,ty,pos,after,g⟩ s K=Dq P t s dst K (TK s.st t) (kJ P (ny s.st) t n (Lg s.tm parts.toList)):=rfl
theorem Uj{t:TypeId}:bK P ⟨dst,.alloc t,ty,pos,after,g⟩ s K=qW P t s dst K:=rfl
theorem aaj{t:TypeId}{x:Operand}:bK P ⟨dst,.box t x,ty,pos,after,g⟩ s K=yP (ev s.tm x) s dst K:=rfl
theorem Uk{t:TypeId}{a x:Operand}:bK P ⟨dst,.store t a x,ty,pos,after,g⟩ s K=qX P t (ev s.tm a) (ev s.tm x) s dst K:=rfl
theorem Xf{t:TypeId}{a x:Operand}:bK P ⟨dst,.makeSlice t a x,ty,pos,after,g⟩ s K=uH P t (ev s.tm a) (ev s.tm x) s dst K:=rfl
theorem Ou{t:TypeId}:bK P ⟨dst,.makeMap t none,ty,pos,after,g⟩ s K=qz s dst K:=rfl
theorem Ko{t:TypeId}{x k v:Operand}:bK P ⟨dst,.mapUpdate t x k v,ty,pos,after,g⟩ s K=qA P t (ev s.tm x) (ev s.tm k) (ev s.tm v) s dst K:=rfl
theorem QF{t:TypeId}{x i:Operand}:bK P ⟨dst,.lookup t x i false,ty,pos,after,g⟩ s K=fH s dst K (vD P s.st t (ev s.tm x) (ev s.tm i)):=rfl
theorem ME{t:TypeId}:eO P E ⟨dst,.makeMap t none,ty,pos,after,g⟩ s K=qz s dst K:=rfl
theorem II{t:TypeId}{x k v:Operand}:eO P E ⟨dst,.mapUpdate t x k v,ty,pos,after,g⟩ s K=qA P t (ev s.tm x) (ev s.tm k) (ev s.tm v) s dst K:=rfl
theorem Ov{t:TypeId}{x i:Operand}:eO P E ⟨dst,.lookup t x i false,ty,pos,after,g⟩ s K=fH s dst K (vD P s.st t (ev s.tm x) (ev s.tm i)):=rfl
theorem Xg{c:Call}:bK P ⟨dst,.call c,ty,pos,after,g⟩ s K=lT P c s dst K:=rfl
theorem Xh{x:Operand}:bK P ⟨dst,.move x,ty,pos,after,g⟩ s K=K (s.put dst (ev s.tm x)):=by simp[bK,nval,lS]
theorem QG{x:Operand}:bK P ⟨dst,.assign x,ty,pos,after,g⟩ s K=K (s.put dst (ev s.tm x)):=by simp[bK,nval,lS]
theorem Xi{c a b:Operand}:bK P ⟨dst,.pick c a b,ty,pos,after,g⟩ s K=fH s dst K (EI (ev s.tm c) (ev s.tm a) (ev s.tm b)):=rfl
theorem Xj{t:TypeId}{a:Operand}:bK P ⟨dst,.load t a,ty,pos,after,g⟩ s K=fH s dst K (xY P s.st t (ev s.tm a)):=rfl
theorem Kq{t:TypeId}{x:Operand}{f:Nat}:bK P ⟨dst,.fieldAddr t x f,ty,pos,after,g⟩ s K=fH s dst K (pU P s.st t (ev s.tm x) f):=rfl
theorem Ul{t:TypeId}{x:Operand}{f:Nat}:bK P ⟨dst,.field t x f,ty,pos,after,g⟩ s K=fH s dst K (AP P t (ev s.tm x) f):=rfl
theorem Kr{t:TypeId}{x i:Operand}:bK P ⟨dst,.indexAddr t x i,ty,pos,after,g⟩ s K=fH s dst K (pV P s.st t (ev s.tm x) (ev s.tm i)):=rfl
theorem Um{t:TypeId}{x i:Operand}:bK P ⟨dst,.index t x i,ty,pos,after,g⟩ s K=fH s dst K (AQ P t (ev s.tm x) (ev s.tm i)):=rfl
theorem Un{op:BinOp}{t u:TypeId}{x y:Operand}:bK P ⟨dst,.binOp op t x y u,ty,pos,after,g⟩ s K=fH s dst K (J8 P op t (ev s.tm x) (ev s.tm y)):=rfl
theorem Xk{op:UnOp}{t:TypeId}{x:Operand}:bK P ⟨dst,.unOp op t x,ty,pos,after,g⟩ s K=fH s dst K (R3 op (ev s.tm x)):=rfl
theorem Ow{a b:TypeId}{x:Operand}:bK P ⟨dst,.convert a b x,ty,pos,after,g⟩ s K=fH s dst K (EK P a b (ev s.tm x)):=rfl
theorem Ox{x:Operand}{i:Nat}:bK P ⟨dst,.extract x i,ty,pos,after,g⟩ s K=fH s dst K (vC (ev s.tm x) i):=rfl
theorem MF{fn:Fn}{a b:Array Operand}:bK P ⟨dst,.makeFunc fn a b,ty,pos,after,g⟩ s K=fH s dst K (tq fn (A9 s.tm a.toList) (A9 s.tm b.toList)):=rfl
theorem MG{x:Operand}:bK P ⟨dst,.nilCheck x,ty,pos,after,g⟩ s K=fH s dst K (tu s.st (ev s.tm x)):=rfl
theorem Uo{t:TypeId}{x:Operand}{lo hi mx:Option Operand}:bK P ⟨dst,.slice t x lo hi mx,ty,pos,after,g⟩ s K=fH s dst K (AR P t (ev s.tm x) (Lf s.tm lo) (Lf s.tm hi) (Lf s.tm mx)):=rfl
theorem Uq{t:TypeId}{parts:Array (Nat×Operand)}:bK P ⟨dst,.build t parts,ty,pos,after,g⟩ s K=fH s dst K (AU P t (Lg s.tm parts.toList)):=rfl
theorem IJ{t:TypeId}{n:Nat}{parts:Array (Nat×Operand)}:bK P ⟨dst,.buildSlice t n parts,ty,pos,after,g⟩ s K=fH s dst K (kJ P (ny s.st) t n (Lg s.tm parts.toList)):=rfl
theorem QH{t:TypeId}:eO P E ⟨dst,.alloc t,ty,pos,after,g⟩ s K=qW P t s dst K:=rfl
theorem Xl{t:TypeId}{x:Operand}:eO P E ⟨dst,.box t x,ty,pos,after,g⟩ s K=yP (ev s.tm x) s dst K:=rfl
theorem QI{t:TypeId}{a x:Operand}:eO P E ⟨dst,.store t a x,ty,pos,after,g⟩ s K=qX P t (ev s.tm a) (ev s.tm x) s dst K:=rfl
theorem Ur{t:TypeId}{a x:Operand}:eO P E ⟨dst,.makeSlice t a x,ty,pos,after,g⟩ s K=uH P t (ev s.tm a) (ev s.tm x) s dst K:=rfl
theorem Oy{args:Array Operand}{ts:Array TypeId}:eO P E ⟨dst,.call ⟨.builtin .append,args,ts⟩,ty,pos,after,g⟩ s K=lT P ⟨.builtin .append,args,ts⟩ s dst K:=rfl
theorem Us{x:Operand}:eO P E ⟨dst,.move x,ty,pos,after,g⟩ s K=K (s.put dst (ev s.tm x)):=by simp[eO,oM,nval,lS]
theorem Oz{x:Operand}:eO P E ⟨dst,.assign x,ty,pos,after,g⟩ s K=K (s.put dst (ev s.tm x)):=by simp[eO,oM,nval,lS]
theorem Ut{c a b:Operand}:eO P E ⟨dst,.pick c a b,ty,pos,after,g⟩ s K=fH s dst K (EI (ev s.tm c) (ev s.tm a) (ev s.tm b)):=rfl
theorem Uu{t:TypeId}{a:Operand}:eO P E ⟨dst,.load t a,ty,pos,after,g⟩ s K=fH s dst K (xY P s.st t (ev s.tm a)):=rfl
theorem IK{t:TypeId}{x:Operand}{f:Nat}:eO P E ⟨dst,.fieldAddr t x f,ty,pos,after,g⟩ s K=fH s dst K (pU P s.st t (ev s.tm x) f):=rfl
theorem QJ{t:TypeId}{x:Operand}{f:Nat}:eO P E ⟨dst,.field t x f,ty,pos,after,g⟩ s K=fH s dst K (AP P t (ev s.tm x) f):=rfl
theorem IL{t:TypeId}{x i:Operand}:eO P E ⟨dst,.indexAddr t x i,ty,pos,after,g⟩ s K=fH s dst K (pV P s.st t (ev s.tm x) (ev s.tm i)):=rfl
theorem QK{t:TypeId}{x i:Operand}:eO P E ⟨dst,.index t x i,ty,pos,after,g⟩ s K=fH s dst K (AQ P t (ev s.tm x) (ev s.tm i)):=rfl
theorem QL{op:BinOp}{t u:TypeId}{x y:Operand}:eO P E ⟨dst,.binOp op t x y u,ty,pos,after,g⟩ s K=fH s dst K (J8 P op t (ev s.tm x) (ev s.tm y)):=rfl
theorem Uv{op:UnOp}{t:TypeId}{x:Operand}:eO P E ⟨dst,.unOp op t x,ty,pos,after,g⟩ s K=fH s dst K (R3 op (ev s.tm x)):=rfl
theorem MH{a b:TypeId}{x:Operand}:eO P E ⟨dst,.convert a b x,ty,pos,after,g⟩ s K=fH s dst K (EK P a b (ev s.tm x)):=rfl
theorem MI{x:Operand}{i:Nat}:eO P E ⟨dst,.extract x i,ty,pos,after,g⟩ s K=fH s dst K (vC (ev s.tm x) i):=rfl
theorem Kt{fn:Fn}{a b:Array Operand}:eO P E ⟨dst,.makeFunc fn a b,ty,pos,after,g⟩ s K=fH s dst K (tq fn (A9 s.tm a.toList) (A9 s.tm b.toList)):=rfl
theorem Ku{x:Operand}:eO P E ⟨dst,.nilCheck x,ty,pos,after,g⟩ s K=fH s dst K (tu s.st (ev s.tm x)):=rfl
theorem QM{t:TypeId}{x:Operand}{lo hi mx:Option Operand}:eO P E ⟨dst,.slice t x lo hi mx,ty,pos,after,g⟩ s K=fH s dst K (AR P t (ev s.tm x) (Lf s.tm lo) (Lf s.tm hi) (Lf s.tm mx)):=rfl
theorem QN{t:TypeId}{parts:Array (Nat×Operand)}:eO P E ⟨dst,.build t parts,ty,pos,after,g⟩ s K=fH s dst K (AU P t (Lg s.tm parts.toList)):=rfl
theorem Gs{t:TypeId}{n:Nat}{parts:Array (Nat×Operand)}:eO P E ⟨dst,.buildSlice t n parts,ty,pos,after,g⟩ s K=fH s dst K (kJ P (ny s.st) t n (Lg s.tm parts.toList)):=rfl
theorem Xm{args:Array Operand}{ts:Array TypeId}:eO P E ⟨dst,.call ⟨.builtin .len,args,ts⟩,ty,pos,after,g⟩ s K=fH s dst K (nval P s.st s.tm (.call ⟨.builtin .len,args,ts⟩)):=rfl
theorem Xn{x y:Operand}{ts:Array TypeId}:eO P E ⟨dst,.call ⟨.builtin .max,#[x,y],ts⟩,ty,pos,after,g⟩ s K=fH s dst K (sN true (ev s.tm x) (ev s.tm y)):=rfl
theorem Xo{x y:Operand}{ts:Array TypeId}:eO P E ⟨dst,.call ⟨.builtin .min,#[x,y],ts⟩,ty,pos,after,g⟩ s K=fH s dst K (sN false (ev s.tm x) (ev s.tm y)):=rfl
theorem Uw{x:Operand}{args:Array Operand}{ts:Array TypeId}:eO P E ⟨dst,.call ⟨.value x,args,ts⟩,ty,pos,after,g⟩ s K=vZ P (E (.call ⟨.value x,args,ts⟩)) (ev s.tm x) (A9 s.tm args.toList) s dst K:=by
 simp only[eO,oM];generalize E (.call ⟨.value x,args,ts⟩)=m
 match m with
 |0=>
  simp only[BL];generalize ev s.tm x=fv
  cases fv with
  |c x=>cases x<;>simp[vZ,BU,yX,A9]
  |_=>simp[vZ]
 |1=>
  simp only[bK,lT];generalize ev s.tm x=fv
  cases fv with
  |c x=>cases x<;>simp[vZ,BU,yX,A9]
  |_=>simp[vZ]
 |m+2=>
  simp only[bK,lT];generalize ev s.tm x=fv
  cases fv with
  |c x=>cases x<;>simp[vZ,BU,yX,A9]
  |_=>simp[vZ]
end
def yh(v:V)(A B:St->Prop)(s:St):Prop:=
 match v with
 | .c (.d (.b x))=>Split x A B s
 |_=>False
def CW(P:Program)(N:Nat):Code->(Exit->St->Prop)->St->Prop
 | .seq x y,Q,s=>CW P N x (jq (CW P N y Q) Q) s
 | .region _ R false,Q,s=>yR P R R.toList s (Q .normal)
 | .region _ R true,Q,s=>qL P (Io R N) R R.toList s (Q .normal)
 | .cond c x y,Q,s=>yh (ev s.tm c) (CW P N x Q) (CW P N y Q) s
 | .block id c,Q,s=>CW P N c (uM id Q) s
 | .exit id,Q,s=>Q (.exit id) s
 | .ret,Q,s=>Q .ret s
 | .skip,Q,s=>Q .normal s
 | .loop c,Q,s=>AW P N (.loop c) Q s
 |_,_,_=>False
def agO(N:Nat)(R:Array Oper):Bool:=R.toList.all (fun o=>match o.dst with|some d=>decide (d<N)|none=>true)
def codeOk(N:Nat):Code->Bool
 | .seq x y=>codeOk N x&&codeOk N y
 | .region _ R false=>agO N R
 | .region _ R true=>Kk R N
 | .cond _ x y=>codeOk N x&&codeOk N y
 | .block _ c=>codeOk N c
 | .loop c=>codeOk N c
 |_=>true
theorem jB(fB:P.follows .mixedOrders=true):∀(c:Code)(Q:Exit->St->Prop)(s:St),codeOk N c=true->CW P N c Q s->AW P N c Q s
 | .seq x y,Q,s,ok,h=>by
   simp only[codeOk,Bool.and_eq_true] at ok;refine Ii (AW.mono (jB fB x _ s ok.1 h) fun e s' h'=> ?_)
   cases e with
   |normal=>exact jB fB y Q s' ok.2 h'
   |_=>exact h'
 | .region _ R false,Q,s,ok,h=>WG ok h
 | .region _ R true,Q,s,ok,h=>TT fB ok h
 | .cond c x y,Q,s,ok,h=>by
   simp only[codeOk,Bool.and_eq_true] at ok;simp only[CW,yh] at h;split at h
   ·rename_i b hb;exact EO hb (fun e=>jB fB x Q s ok.1 (h.1 e)) (fun e=>jB fB y Q s ok.2 (h.2 e))
   ·exact h.elim
 | .block id c,Q,s,ok,h=>Gj (jB fB c _ s ok h)
 | .exit id,Q,s,ok,h=>ac7 h
 | .ret,Q,s,ok,h=>aeX h
 | .skip,Q,s,ok,h=>ac6 h
 | .loop c,Q,s,ok,h=>h
 | .rangeFunc _ _ _ _,Q,s,ok,h=>h.elim
 | .scope _,Q,s,ok,h=>h.elim
 | .label _,Q,s,ok,h=>h.elim
 | .goto _,Q,s,ok,h=>h.elim
 | .refuse _,Q,s,ok,h=>h.elim
theorem afh{x y:Code}{Q:Exit->St->Prop}:CW P N (.seq x y) Q s=CW P N x (jq (CW P N y Q) Q) s:=by rw[CW]
theorem Xp{id:Nat}{l:List Oper}{Q:Exit->St->Prop}:CW P N (.region id ⟨l⟩ false) Q s=yR P ⟨l⟩ l s (Q .normal):=by rw[CW]
theorem adp{id:Nat}{l:List Oper}{Q:Exit->St->Prop}:CW P N (.region id ⟨l⟩ true) Q s=qL P (Io ⟨l⟩ N) ⟨l⟩ l s (Q .normal):=by rw[CW]
theorem adq{c:Operand}{x y:Code}{Q:Exit->St->Prop}:CW P N (.cond c x y) Q s=yh (ev s.tm c) (CW P N x Q) (CW P N y Q) s:=by rw[CW]
theorem aak{id:Nat}{c:Code}{Q:Exit->St->Prop}:CW P N (.block id c) Q s=CW P N c (uM id Q) s:=by rw[CW]
theorem adr{id:Nat}{Q:Exit->St->Prop}:CW P N (.exit id) Q s=Q (.exit id) s:=by rw[CW]
theorem afi{Q:Exit->St->Prop}:CW P N .ret Q s=Q .ret s:=by rw[CW]
theorem ads{Q:Exit->St->Prop}:CW P N .skip Q s=Q .normal s:=by rw[CW]
theorem Sg{c:Code}{Q:Exit->St->Prop}:CW P N (.loop c) Q s=AW P N (.loop c) Q s:=by rw[CW]
theorem OA{K:St->Prop}{Q:Exit->St->Prop}:jq K Q .normal s=K s:=rfl
theorem Xq{K:St->Prop}{Q:Exit->St->Prop}:jq K Q .ret s=Q .ret s:=rfl
theorem Ux{K:St->Prop}{Q:Exit->St->Prop}{i:Nat}:jq K Q (.exit i) s=Q (.exit i) s:=rfl
theorem OB{id:Nat}{Q:Exit->St->Prop}:uM id Q .normal s=Q .normal s:=rfl
theorem Xr{id:Nat}{Q:Exit->St->Prop}:uM id Q .ret s=Q .ret s:=rfl
theorem Uy{id i:Nat}{Q:Exit->St->Prop}:uM id Q (.exit i) s=if i=id then Q .normal s else Q (.exit i) s:=rfl
def aal(post:V->Store->Prop)(s:St)(r:R):Prop:=r.1/\match r.2.ret with
 |some v=>post v (fD s.st)
 |none=>False
theorem adt{post:V->Store->Prop}{p:Prop}{v:V}:aal post s (p,v)=(p/\match v.ret with
 |some v=>post v (fD s.st)
 |none=>False):=rfl
def Gt(P:Program)(rs:List ResultVar)(post:V->Store->Prop)(e:Exit)(s:St):Prop:=Zy P rs post e (A8 s)
def OC(P:Program)(rs:List ResultVar)(post:V->Store->Prop)(s:St):Prop:=aal post s (mO P rs s)
theorem aam{rs:List ResultVar}{post:V->Store->Prop}:Gt P rs post .ret s=OC P rs post (A8 s):=rfl
theorem QO{rs:List ResultVar}{post:V->Store->Prop}:Gt P rs post .normal s=OC P rs post (A8 s):=rfl
theorem adu{rs:List ResultVar}{post:V->Store->Prop}{tm:List (Nat×V)}:OC P rs post ⟨tm,S⟩=aal post ⟨tm,S⟩ (mO P rs ⟨tm,S⟩):=rfl
def afj(j:Nat)(es:List (List D))(tm:List (Nat×V)):List (Nat×V):=tm.map fun x=>(x.1,x.2.lQ j es)
theorem Xt{j:Nat}{es:List (List D)}{tm:List (Nat×V)}{t:Nat}:look (afj j es tm) t=(look tm t).lQ j es:=BS (f:=V.lQ j es) rfl tm t
def afk(j:Nat)(tm:List (Nat×V))(own:List Obj)(Ω:Store):Option Obj->St
 |some (.dL _ es)=>⟨afj j es tm,(own.map (Obj.lQ j es)).set j .dead::Ω⟩
 |_=>⟨tm,own::Ω⟩
theorem aan{j:Nat}{tm:List (Nat×V)}{own:List Obj}{Ω:Store}:Iz j ⟨tm,own::Ω⟩=afk j tm own Ω (own[j]?):=by
 unfold Iz
 simp only
 generalize own[j]? =o
 cases o with
 |none=>rfl
 |some o=>cases o<;>rfl
theorem Xu{tm:List (Nat×V)}{own:List Obj}{Ω:Store}:A8 ⟨tm,own::Ω⟩=IB own.length ⟨tm,own::Ω⟩:=rfl
theorem aD{f:FuncId}{fn:Func}{c:Code}{args:List V}{post:V->Store->Prop}{rs:List ResultVar}(fB:P.follows .mixedOrders=true)(hf:P.funcs[f]? =some fn)(hN:fn.ntmps=N)
 (hb:fn.body=some c) (hn:(fn.name== "runtime.NumGoroutine")=false) (hr:fn.results.toList=rs) (hl:Nat.ble args.length N=true) (hok:codeOk N c=true)
 (h:CW P N c (Gt P rs post) ⟨kG (args.map (V.up 1)) 0,[]::S⟩):bD P f args S post:=by
 subst hN;subst hr;exact oo hf hb hn (Nat.le_of_ble_eq_true hl) (yU ru (jB fB c _ _ hok h))
end
theorem Si(n:Int)(h: -9223372036854775808<=n/\n<=9223372036854775807):IntKind.i64.wrap n=n:=IntWalk.i64_in n h
theorem wrap_u8(n:Int)(h:0<=n/\n<=255):IntKind.u8.wrap n=n:=IntWalk.u8_in n h
theorem getD_map{α β:Type}(f:α->β)(l:List α)(i:Nat)(d:β)(h:i<l.length):(l.map f).getD i d=f l[i]:=by
 simp[List.getD,h]
theorem Uz{k:IntKind}{n:Int}:yJ (.int k n)=.c (.d (.i k n)):=rfl
theorem QS{b:Bool}:yJ (.bool b)=.c (.d (.b b)):=rfl
theorem UA{l:List UInt8}:yJ (.string ⟨⟨l⟩⟩)=.c (.d (.s l)):=rfl
theorem QT:yJ (.slice none 0 0)=.c (.bA []):=rfl
theorem aao{tm:List (Nat×V)}{S:Store}{d:Nat}{v:V}:St.put ⟨tm,S⟩ (some d) v=⟨(d,v)::tm,S⟩:=rfl
theorem aap{tm:List (Nat×V)}{S:Store}{v:V}:St.put ⟨tm,S⟩ none v=⟨tm,S⟩:=rfl
theorem afl{a b:V}:EI (.c (.d (.b true))) a b=(True,a):=rfl
theorem afm{a b:V}:EI (.c (.d (.b false))) a b=(True,b):=rfl
theorem QU{tm:List (Nat×V)}{own:List Obj}{Ω:Store}{dst:Option Nat}{o:Obj}{mk:Key->V}{K:St->Prop}:
 newObj ⟨tm,own::Ω⟩ dst o mk K=K (St.put ⟨tm,(own++[o])::Ω⟩ dst (mk (0,own.length))):=rfl
theorem afn{x:C}{s:St}{dst:Option Nat}{K:St->Prop}:yP (.c x) s dst K=newObj s dst (.box [x]) (fun k=>.c (.ptr k 0)) K:=rfl
theorem aaq{x:List C}{s:St}{dst:Option Nat}{K:St->Prop}:yP (.agg x) s dst K=newObj s dst (.box x) (fun k=>.c (.ptr k 0)) K:=rfl
theorem aar{α β:Type}{f:α->Option β}:([]:List α).mapM f=some []:=by simp
theorem Xv{α β:Type}{f:α->Option β}{x:α}{xs:List α}:(x::xs).mapM f=(f x).bind fun y=>(xs.mapM f).bind fun ys=>some (y::ys):=by
 rw[List.mapM_cons];rfl
theorem agP{c:C}:C.down 0 c=some c:=by cases c<;>simp[C.down]
theorem aas{n m j:Nat}{es:List (List D)}:C.down n (.bG (n+m,j) es)=some (.bG (m,j) es):=by simp[C.down]
theorem Xw{n j:Nat}{es:List (List D)}:C.down n (.bG (n,j) es)=some (.bG (0,j) es):=by simp[C.down]
theorem afo{n:Nat}{x:D}:C.down n (.d x)=some (.d x):=rfl
theorem aat{n:Nat}:C.down n .any=some .any:=rfl
theorem aau{n:Nat}{es:List (List D)}:C.down n (.bA es)=some (.bA es):=rfl
theorem aav{n m j off:Nat}:C.down n (.ptr (n+m,j) off)=some (.ptr (m,j) off):=by simp[C.down]
theorem Xx{n j off:Nat}:C.down n (.ptr (n,j) off)=some (.ptr (0,j) off):=by simp[C.down]
theorem aaw{n m:Nat}{es:List (List D)}:C.down n (.jm m es)=some (.jm m es):=rfl
theorem aax{Ω:Store}:ny ([]::Ω)=none:=rfl
theorem aay{cs:List C}{own:List Obj}{Ω:Store}:ny ((.box cs::own)::Ω)=none:=rfl
theorem aaz{z:Nat}{es:List (List D)}{own:List Obj}{Ω:Store}:ny ((.tok z es::own)::Ω)=none:=rfl
theorem Xy{z:Nat}{es:List (List D)}{own:List Obj}{Ω:Store}:ny ((.dL z es::own)::Ω)=none:=rfl
theorem adv{m:List (List UInt8)}{own:List Obj}{Ω:Store}:ny ((.mp m::own)::Ω)=none:=rfl
theorem Xz{own:List Obj}{Ω:Store}:ny ((.dead::own)::Ω)=none:=rfl
theorem XA{n z:Nat}{es:List (List D)}{own:List Obj}{Ω:Store}:ny ((.eD n z es::own)::Ω)=none:=rfl
theorem XB{n:Nat}{own:List Obj}{Ω:Store}:ny ((.seed n::own)::Ω)=some n:=rfl
theorem XC{es x:List (List D)}{z:Nat}{s:St}{dst:Option Nat}{K:St->Prop}:yQ none es s dst z x K=xu (uI s.st) es s dst z x K:=rfl
theorem UC{es x:List (List D)}{z:Nat}{s:St}{dst:Option Nat}{K:St->Prop}:xu false es s dst z x K=newObj s dst (.tok z x) (fun k=>.c (.bG k x)) K:=rfl
theorem XD{es x:List (List D)}{z:Nat}{s:St}{dst:Option Nat}{K:St->Prop}:xu true es s dst z x K=(es.length<x.length/\newObj s dst (.dL z x) (fun k=>.c (.gK k)) K):=rfl
theorem aaA{Ω:Store}:uI ([]::Ω)=false:=rfl
theorem aaB{cs:List C}{own:List Obj}{Ω:Store}:uI ((.box cs::own)::Ω)=false:=rfl
theorem aaC{z:Nat}{es:List (List D)}{own:List Obj}{Ω:Store}:uI ((.tok z es::own)::Ω)=false:=rfl
theorem XE{z:Nat}{es:List (List D)}{own:List Obj}{Ω:Store}:uI ((.dL z es::own)::Ω)=false:=rfl
theorem adw{m:List (List UInt8)}{own:List Obj}{Ω:Store}:uI ((.mp m::own)::Ω)=false:=rfl
theorem XF{own:List Obj}{Ω:Store}:uI ((.dead::own)::Ω)=false:=rfl
theorem XG{n z:Nat}{es:List (List D)}{own:List Obj}{Ω:Store}:uI ((.eD n z es::own)::Ω)=false:=rfl
theorem XH{n:Nat}{own:List Obj}{Ω:Store}:uI ((.seed n::own)::Ω)=false:=rfl
theorem adx{own:List Obj}{Ω:Store}:uI ((.xf []::own)::Ω)=false:=rfl
theorem aaD{own:List Obj}{Ω:Store}{r:List (List D)}{rs:List (List (List D))}:uI ((.xf (r::rs)::own)::Ω)=true:=rfl
theorem aaE{n:Nat}{x:List (List D)}{z:Nat}{s:St}{dst:Option Nat}{K:St->Prop}:yQ (some n) [] s dst z x K=K (St.put ⟨s.tm,s.st⟩ dst (.c (.d (.ol n x)))):=rfl
theorem XI{n:Nat}{y:List D}{es x:List (List D)}{z:Nat}{s:St}{dst:Option Nat}{K:St->Prop}:yQ (some n) (y::es) s dst z x K=newObj s dst (.tok z x) (fun k=>.c (.bG k x)) K:=rfl
theorem UD{n:Nat}{x:List (List D)}{z:Nat}{s:St}{dst:Option Nat}{K:St->Prop}:Aj false n s dst z x K=newObj s dst (.eD n z x) (fun k=>.c (.bG k x)) K:=rfl
theorem XJ{n:Nat}{x:List (List D)}{z:Nat}{s:St}{dst:Option Nat}{K:St->Prop}:Aj true n s dst z x K=K (St.put ⟨s.tm,s.st⟩ dst (.c (.d (.ol n x)))):=rfl
theorem aaF{own:List Obj}{Ω:Store}:TF (own::Ω)=uJ own[1]? :=rfl
theorem UE:uJ none=false:=rfl
theorem XK{cs:List C}:uJ (some (.box cs))=false:=rfl
theorem XL{z:Nat}{es:List (List D)}:uJ (some (.tok z es))=false:=rfl
theorem UF{n z:Nat}{es:List (List D)}:uJ (some (.eD n z es))=false:=rfl
theorem UG{z:Nat}{es:List (List D)}:uJ (some (.dL z es))=false:=rfl
theorem UH:uJ (some .dead)=false:=rfl
theorem aaG{m:List (List UInt8)}:uJ (some (.mp m))=false:=rfl
theorem ady{own:List Obj}{Ω:Store}{t:TypeId}:TK (own::Ω) t=xw own[0]? t:=rfl
theorem XM{t:TypeId}:xw none t=false:=rfl
theorem aaH{t:TypeId}{cs:List C}:xw (some (.box cs)) t=false:=rfl
theorem aaI{t:TypeId}{z:Nat}{es:List (List D)}:xw (some (.tok z es)) t=false:=rfl
theorem XO{t:TypeId}{n z:Nat}{es:List (List D)}:xw (some (.eD n z es)) t=false:=rfl
theorem XP{t:TypeId}{z:Nat}{es:List (List D)}:xw (some (.dL z es)) t=false:=rfl
theorem XQ{t:TypeId}:xw (some .dead) t=false:=rfl
theorem adz{t:TypeId}{m:List (List UInt8)}:xw (some (.mp m)) t=false:=rfl
theorem XR{t:TypeId}{n:Nat}:xw (some (.seed n)) t=false:=rfl
theorem adA{t:TypeId}:xw (some (.xf [])) t=rowIs t:=rfl
theorem aaJ{t:TypeId}{r:List (List D)}{rs:List (List (List D))}:xw (some (.xf (r::rs))) t=false:=rfl
theorem UJ{P:Program}{t:TypeId}{s:St}{dst:Option Nat}{K:St->Prop}{r:R}:Dq P t s dst K false r=fH s dst K r:=rfl
theorem XT{P:Program}{t:TypeId}{s:St}{dst:Option Nat}{K:St->Prop}{p:Prop}{es:List (List D)}:Dq P t s dst K true (p,.c (.bA es))=(match P.underlying t with
 |some (.slice e)=>p/\newObj s dst (.dL (P.cellsOf e) es) (fun k=>.c (.gK k)) K
 |_=>False):=rfl
theorem adB{own:List Obj}{Ω:Store}{rs:List (List (List D))}:ny ((.xf rs::own)::Ω)=none:=rfl
theorem QV:uJ (some (.seed 0))=false:=rfl
theorem QW:uJ (some (.seed 1))=true:=rfl
attribute [go_sem ↓] Qy Xb Qz Ud Mx IC Oo Ue Xc Xd Xe Uf Oq Ug Uh IE QA IG QB QC Ui MB MC Km Kn QD QE Ot Gq
attribute [go_sem] ady XM aaH aaI XO XP XQ adz XR adA aaJ rowIs UJ XT adB yD AX List.getElem?_nil
attribute [go_sem] UC XD aaA aaB aaC XE adw XF XG XH adx aaD XC aaE XI UD XJ aaF UE XK XL UF UG UH aaG QV QW
theorem aaK{P:Program}{t:TypeId}{n:Nat}{parts:List (Nat×V)}:kJ P none t n parts=om P t n parts:=rfl
def acI(m:Nat):R->R
 |(p,.c (.bA es))=>(p,.c (.jm m es))
 |_=>no
theorem aaL{m:Nat}{p:Prop}{es:List (List D)}:acI m (p,.c (.bA es))=(p,.c (.jm m es)):=rfl
theorem aaM{P:Program}{m:Nat}{t:TypeId}{n:Nat}{parts:List (Nat×V)}:kJ P (some m) t n parts=acI m (om P t n parts):=rfl
attribute [go_sem_proc] Nat.reduceEqDiff Nat.reduceAdd Nat.reduceLeDiff Nat.reduceSub Nat.reduceMul Nat.reduceBEq Int.reduceEq Int.reduceLT Int.reduceLE Int.reduceGT Int.reduceGE Int.reduceNeg Int.reduceToNat
attribute [go_sem_proc ↓] reduceIte
attribute [wf_preprocess] decide_eq_true_eq decide_eq_false_iff_not Bool.not_eq_true Bool.not_eq_false Bool.not_eq_eq_eq_not Bool.not_true Bool.not_false Classical.not_not
attribute [go_sem ↓] aah WY WZ Ub aai W9 Xa Uc Qv Qw Oj Ol ado aac WS afh Xp adp adq aak adr afi ads Sg OA Xq Ux OB Xr Uy aam QO Xu Qx Om WV WW WX Xn Xo Uj aaj Uk Xf Ou Ko QF ME II Ov Xg Xh QG Xi Xj Kq Ul Kr Um Un Xk Ow Ox MF MG Uo Uq IJ QH Xl QI Ur Oy Us Oz Ut Uu IK QJ IL QK QL Uv MH MI Kt Ku QM QN Gs Xm Uw
attribute [go_sem] yV T9 Qu aad adu adt yh IB aan afk Xt V.lQ C.lQ Obj.lQ aae aaf aag yX
 TW TY adl Z6 Z7 Z8 adn Z9 ev Uz QS UA QT AO aao aap look afl afm QU afn aaq qW qX uH oL NI
 xY EJ xk headD Tk pU AP zD wC pV AQ Tm Tn J8 R3 EK vC BF AR uw tq capOf tu
 Nn sN vD qz qA rY aR aT C.up V.up xL fA kG V.qO C.qO agP aas Xw afo aat aau aav Xx
 List.map_cons List.map_nil List.append_nil List.nil_append List.length_nil List.length_cons List.cons_append Option.map_some Option.map_none Option.bind_some Option.bind_none
 List.getElem?_cons_zero List.getElem?_cons_succ List.set_cons_zero List.set_cons_succ List.drop_zero List.drop_succ_cons List.drop_nil List.take_zero List.take_succ_cons List.take_nil
 if_true if_false true_and and_true Int.toNat_natCast List.getElem?_toArray List.size_toArray Nat.zero_add Nat.add_zero Bool.false_eq_true Bool.true_eq_false Bool.not_true Bool.not_false reduceCtorEq
 decide_true decide_false List.all_cons List.all_nil Bool.and_true Bool.true_and Option.isSome_some Option.isSome_none Si getD_map aar Xv Hq splice List.length_map BG AU tC om List.size_toArray aax aay aaz Xy adv Xz XA XB aaK aaM aaL aaw
section
variable {P:Program} {S S':Store} {N:Nat} {s:St}
def iA:List Nat->List V->List (Nat×V)
 |t::ts,v::vs=>(t,v)::iA ts vs
 |_,_=>[]
theorem vI(f:Nat->V):∀(ts:List Nat)(t:Nat),look (iA ts (ts.map f)) t=f t\/look (iA ts (ts.map f)) t=.any
 |[],t=>.inr rfl
 |u::us,t=>by
  show(if u=t then f u else look (iA us (us.map f)) t)=f t\/(if u=t then f u else look (iA us (us.map f)) t)=.any;by_cases e:u=t
  ·left;rw[if_pos e,e]
  ·rw[if_neg e];exact vI f us t
def Inv{ι:Type}(N:Nat)(ts:List Nat)(f:ι->List V)(g:ι->Store)(p:ι->Prop)(μ:ι->Nat)(i:ι)(s':St):Prop:=∃j s0,μ j<μ i/\fV N s' s0/\ts.map (look s0.tm)=f j/\s0.st=g j/\p j
theorem cK{ι:Type}{ts:List Nat}{f:ι->List V}{g:ι->Store}{p:ι->Prop}{μ:ι->Nat}{i:ι}(j:ι)(h1:μ j<μ i)(h2:ts.map (look s.tm)=f j)(h3:s.st=g j)(h4:p j):Inv N ts f g p μ i s:=
 ⟨j,s,h1,fV.refl _ _,h2,h3,h4⟩
theorem yY:∀(ts:List Nat)(vs:List V),ts.Nodup->ts.length=vs.length->ts.map (look (iA ts vs))=vs
 |[],[],_,_=>rfl
 |t::ts,v::vs,hn,hl=>by
  have hn':=List.nodup_cons.1 hn;have ih:=yY ts vs hn'.2 (by simpa using hl);simp only[iA,List.map_cons,look,if_true,List.cons.injEq,true_and];rw[<-ih];refine List.map_congr_left fun u hu=> ?_;have hne:t≠u:=fun e=>hn'.1 (e▸hu);rw[if_neg hne,ih]
theorem dD{ι:Type}{ts:List Nat}{f:ι->List V}{g:ι->Store}{p:ι->Prop}{μ:ι->Nat}{i:ι}{tm:List (Nat×V)}{own:List Obj}{Ω:Store}(n:Nat)(hnd:ts.Nodup)(j:ι)(h1:μ j<μ i)(h2:ts.map (look tm)=f j)(h3:own.take n::Ω=g j)
 (hr:kg n (iA ts (f j))=true)(ho:(own.take n).all (Obj.refs n)=true)(h4:p j):Inv N ts f g p μ i ⟨tm,own::Ω⟩:=by
 refine⟨j,⟨iA ts (f j),own.take n::Ω⟩,h1,?_,?_,h3,h4⟩
 ·have hg:fV N ⟨tm,own::Ω⟩ ⟨iA ts (f j),own::Ω⟩:=by
   rw[<-h2];exact Gp fun t=>vI _ ts t
  exact hg.trans (Iu n hr ho)
 ·exact yY ts (f j) hnd (by rw[<-h2];simp)
theorem aZ{ι:Type}{c:Code}{Q:Exit->St->Prop}(fB:P.follows .mixedOrders=true)(hok:codeOk N c=true)(ts:List Nat)(f:ι->List V)(g:ι->Store)(p:ι->Prop)(μ:ι->Nat)(i0:ι)
 (h1:ts.map (look s.tm)=f i0)(h2:s.st=g i0)(h3:p i0)
 (round:∀i,p i->CW P N c (jq (Inv N ts f g p μ i) Q) ⟨iA ts (f i),g i⟩):AW P N (.loop c) Q s:=by
 refine R8 (ι:=ι) (fun i s=>∃s0,fV N s s0/\ts.map (look s0.tm)=f i/\s0.st=g i/\p i) μ i0 ⟨s,fV.refl _ _,h1,h2,h3⟩ fun i s hI=> ?_;obtain⟨s0,hg,h1,h2,h3⟩:=hI;refine jX ?_ hg
 have hr:=(jB fB c _ _ hok (round i h3)).mono (Q':=jq (fun s'=>∃j,μ j<μ i/\∃s0,fV N s' s0/\ts.map (look s0.tm)=f j/\s0.st=g j/\p j) Q) fun e s' h=>by
  cases e with
  |normal=>
   obtain⟨j,s0,a1,a2,a3,a4,a5⟩:=h;exact⟨j,a1,s0,a2,a3,a4,a5⟩
  |_=>exact h
 obtain⟨tm,st⟩:=s0;simp only at h1 h2;subst h2;rw[<-h1] at hr;exact TV hr fun t=>vI _ ts t
theorem aaN:mO P [] s=(True,.eG []):=rfl
theorem aaO{x:ResultVar}:mO P [x] s=uN P s x:=rfl
theorem aaP{x y:ResultVar}{z:List ResultVar}:mO P (x::y::z) s=(match(nA P s (x::y::z)).2 with
 |some ys=>((nA P s (x::y::z)).1,.eG ys)
 |none=>no):=rfl
end
attribute [go_sem] Di MZ
attribute [go_sem] iA aaN aaO aaP uN nA Ij fD V.ret EP
end Go.Ab