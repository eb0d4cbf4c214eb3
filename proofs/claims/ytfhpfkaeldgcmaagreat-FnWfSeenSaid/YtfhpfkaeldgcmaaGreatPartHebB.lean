/-
  SEVERAL TEXTS IN ONE (merged by program): contracts and models, each with its own heading.
-/
import Derived.Test.YtfhpfkaeldgcmaaGreatPartHebA
import Derived.LoopN
import Derived.StillTail
set_option linter.unusedSimpArgs false
set_option linter.unusedVariables false
namespace Go.Ab
def rowIs(t:TypeId):Bool:=t==52||t==57||t==43||t==42
def zK(o:Option Obj)(t:TypeId):Bool:=match o with
 |some (.xf [])=>rowIs t
 |_=>false
def Wu(S:Store)(t:TypeId):Bool:=zK (bn S (0,0)) t
def Ga(P:Program)(t:TypeId)(s:St)(dst:Option Nat)(K:St->Prop)(b:Bool)(r:R):Prop:=
 match b,r with
 |false,r=>r.1/\K (s.put dst r.2)
 |true,(p,.c (.bM es))=>match P.underlying t with
  |some (.slice e)=>p/\newObj s dst (.eZ (P.cellsOf e) es) (fun k=>.c (.iU k)) K
  |_=>False
 |true,_=>False
def Dt(P:Program)(t u:TypeId)(k:Key)(y:V)(s:St)(dst:Option Nat)(K:St->Prop):Prop:=
 match P.underlying t,Qu P u y,bn s.st k with
 |some (.slice e),some ys,some (.eZ bB es)=>bB=P.cellsOf e/\(∀y∈ys,y.length=P.cellsOf e)/\P.bytesOf e<=4096/\(∃zs,iK P e=some zs/\zs.length=P.cellsOf e)/\es.length+ys.length<=1073741824/\
   newObj ⟨s.tm,aY s.st k .dead⟩ dst (.eZ bB (es++ys)) (fun k=>.c (.iU k)) K
 |_,_,_=>False
def Ay(P:Program)(t u:TypeId)(x y:V)(s:St)(dst:Option Nat)(K:St->Prop):Prop:=
 match x with
 | .c (.iU k)=>Dt P t u k y s dst K
 |x=>qG P t u x y s dst K
def gZ(P:Program)(o:Oper)(s:St)(K:St->Prop):Prop:=
 match o.op with
 | .call {callee:=.builtin .append,args:=Cb,argTypes:=ts}=>match Cb.toList,ts.toList with
   |[x,y],[t,u]=>Ay P t u (ev s.tm x) (ev s.tm y) s o.dst K
   |_,_=>False
 | .buildSlice t n parts=>Ga P t s o.dst K (Wu s.st t) (nval P s.st s.tm (.buildSlice t n parts))
 |_=>dw P o s K
section
variable {P:Program} {w w':World} {σ σ':Nat->Nat} {S:Store} {β β':Hs} {N:Nat} {s:St} {a:Act}
theorem eG.lay{own:List Obj}{Ω:Store}{bo:List Value}{bΩ:Hs}{o:Obj}{h:Value}(hS:eG w σ (own::Ω) (bo::bΩ))(hlen:bo.length=own.length)
 (ho:gJ w σ ((own++[o])::Ω) ((bo++[h])::bΩ) o h)(hb:∀b,owns o h b->¬Own (own::Ω) (bo::bΩ) b):
 eG w σ ((own++[o])::Ω) ((bo++[h])::bΩ)/\Keep (own::Ω) (bo::bΩ) ((own++[o])::Ω) ((bo++[h])::bΩ)/\∀b,Own ((own++[o])::Ω) ((bo++[h])::bΩ) b->Own (own::Ω) (bo::bΩ) b\/owns o h b:=by
 have hkeep:Keep (own::Ω) (bo::bΩ) ((own++[o])::Ω) ((bo++[h])::bΩ):=by
  intro k o1 h1;obtain⟨h2,xP,_⟩:=hS.obj k o1 h1;exact⟨o1,jo _ _ _ _ _ h1,by rw[jo _ _ _ _ _ xP,xP];exact .refl _ _⟩
 have hinv:∀k o1 h1,bn ((own++[o])::Ω) k=some o1->bn ((bo++[h])::bΩ) k=some h1->
  (bn (own::Ω) k=some o1/\bn (bo::bΩ) k=some h1)\/(k=(0,own.length)/\o1=o/\h1=h):=by
  intro k o1 h1 e1 e2;rcases kE _ _ _ _ _ e1 with e1|⟨rfl,rfl⟩
  ·left;refine⟨e1,?_⟩;rcases kE _ _ _ _ _ e2 with e2|⟨rfl,rfl⟩
   ·exact e2
   ·rw[bK,hlen] at e1;have:=(List.getElem?_eq_some_iff.1 e1).1;omega
  ·right;rw[<-hlen,dB] at e2;exact⟨rfl,rfl,(Option.some.inj e2).symm⟩
 refine⟨⟨?_,?_,⟨?_,?_⟩,hS.live,hS.wJ⟩,hkeep,?_⟩
 ·intro k o1 h1;rcases kE _ _ _ _ _ h1 with h1|⟨rfl,rfl⟩
  ·obtain⟨h2,xP,hr⟩:=hS.obj k o1 h1;exact⟨h2,jo _ _ _ _ _ xP,hr.mono (fq.refl _ _) (hkeep.drop _) fun b hb=>⟨rfl,rfl⟩⟩
  ·exact⟨h,by rw[<-hlen,dB],ho⟩
 ·intro k k' o1 o2 h1 h2 b e1 e2 e3 e4 e5 e6;rcases hinv k o1 h1 e1 e2 with⟨f1,f2⟩|⟨rfl,rfl,rfl⟩
  ·rcases hinv k' o2 h2 e4 e5 with⟨g1,g2⟩|⟨rfl,rfl,rfl⟩
   ·exact hS.apart _ _ _ _ _ _ _ f1 f2 e3 g1 g2 e6
   ·exact absurd ⟨k,o1,h1,f1,f2,e3⟩ (hb b e6)
  ·rcases hinv k' o2 h2 e4 e5 with⟨g1,g2⟩|⟨rfl,rfl,rfl⟩
   ·exact absurd ⟨k',o2,h2,g1,g2,e6⟩ (hb b e3)
   ·rfl
 ·have:=hS.shape.1;simpa using this
 ·intro l fr hl
  cases l with
  |zero=>
   simp at hl;exact⟨_,rfl,by rw[<-hl];simp[hlen]⟩
  |succ l=>exact hS.shape.2 (l+1) fr hl
 ·rintro b ⟨k,o1,h1,e1,e2,e3⟩;rcases hinv k o1 h1 e1 e2 with⟨f1,f2⟩|⟨rfl,rfl,rfl⟩
  ·exact .inl ⟨k,o1,h1,f1,f2,e3⟩
  ·exact .inr e3
theorem Wv{t u ty e:TypeId}{sv:Value}{size:Nat}{es ys:List (List D)}{yv:Value}(hl:∀b,b<w.heap.size\/σ b=0)
 (ht:P.underlying t=some (.slice e))(hu:KE P u)(hz:∃zs,iK P e=some zs/\zs.length=size)(hsize:P.cellsOf e=size)(hb:P.bytesOf e<=4096)
 (hs:gJ w σ S β (.eZ size es) sv)(hy:y8 P w σ size ys yv)(hlen:es.length+ys.length<=1073741824):
 ∃r w',(Builtin.append_ #[t,u] ty #[sv,yv]).run P w=.ok r w'/\(∀S' β',gJ w' σ S' β' (.eZ size (es++ys)) r)/\w.heap.size<=w'.heap.size/\w'.os=w.os/\w'.output=w.output/\
  fq w σ w' σ/\(∀b,b<w'.heap.size\/σ b=0)/\(∀b,b<w.heap.size->¬owns (.eZ size es) sv b->w'.heap[b]? =w.heap[b]?)/\
  (∀b,owns (.eZ size (es++ys)) r b->owns (.eZ size es) sv b\/w.heap.size<=b)/\r.oneCell'=true:=by
 obtain⟨zs,hzs,hzl⟩:=hz;obtain⟨z,uY,hzc⟩:=tL (w:=w) (σ:=σ) (S:=S) (β:=β) hzs
 have F7:z.cells.size=size:=by have:=hzc.1;simp at this;omega
 have hex:∃info,P.info? e=some info/\info.zero=some z:=by
  unfold iK at hzs
  cases hi:P.info? e with
  |none=>rw[hi] at hzs;cases hzs
  |some i=>
   refine⟨i,rfl,?_⟩
   cases hz:i.zero with
   |none=>rw[hi] at hzs;simp[hz] at hzs
   |some z'=>
    have:(zeroValue e).run P w=.ok z' w:=by simp[zeroValue,typeInfo,hi,hz]
    rw[uY] at this;cases this;rfl
 obtain⟨info,hi,hiz⟩:=hex
 have hib:info.bytes=P.bytesOf e:=by simp[Program.bytesOf,hi]
 have his:info.size=size:=by rw[<-hsize];simp[Program.cellsOf,hi]
 have hs0:=hs;obtain⟨hle,base,sCap,rfl,hcap,h4⟩:=hs;obtain⟨hyl,hys,ya,Qp,Qq,Zi⟩:=hy w rfl;have hall:∀x∈es++ys,x.length=size:=fun x hx=>(List.mem_append.1 hx).elim (hle x) (hys x);have hfl:es.flatten.length=es.length*size:=jI es size hle;have hfy:ys.flatten.length=ys.length*size:=jI ys size hys;have hlen':(es++ys).length=es.length+ys.length:=List.length_append
 have hone:∀v∈ya.toList,v.oneCell'=true:=fun v hv=>by
  obtain⟨j,hj⟩:=List.getElem?_of_mem hv;have hjl:=(List.getElem?_eq_some_iff.1 hj).1;simp at hjl;obtain⟨v',hv',hr⟩:=Zi j _ (List.getElem?_eq_getElem (by omega));rw[Array.getElem?_toList] at hj;rw[hj] at hv';cases hv';exact hr.one
 by_cases hn0:ys.length=0
 ·have acg:ys=[]:=List.eq_nil_of_length_eq_zero hn0;subst acg
  have hya:ya= #[]:=by simpa using Qq
  subst hya;refine⟨_,w,F5 ht hu hi hyl (by rw[his];exact Qp) hcap,fun S' β'=> ?_,Nat.le_refl _,rfl,rfl,fq.refl _ _,hl,fun b _ _=>rfl,fun b hb=>.inl (by simpa using hb),rfl⟩;rw[List.append_nil];exact hs0
 by_cases hroom:es.length+ys.length<=sCap
 ·have hc0:sCap≠0:=by omega
  obtain⟨b,c,ct,rfl,hbc,hσ,hfit,hcells⟩:=h4.resolve_left hc0
  have hmul:es.length*size+ys.length*size<=sCap*size:=by rw[<-Nat.add_mul];exact Nat.mul_le_mul_right _ hroom
  have hrun:=F6 (P:=P) (ty:=ty) (b:=b) (off:=0) ht hu hi hyl (by rw[his];exact Qp) hroom hbc (by rw[his,Qq];omega) hone;rw[his,Nat.zero_add] at hrun;generalize hc2:(c.toList.take (es.length*size)++ya.toList++c.toList.drop (es.length*size+ya.size)).toArray=c2 at hrun
  have AY:c2.size=c.size:=by rw[<-hc2];simp;omega
  have hheap:(w.setRow b c2).heap[b]? =some (.cells c2 ct (0,0)):=setRow_heap w b c c2 ct (0,0) hbc
  have hlow:∀i,i<es.length*size->c2[i]? =c[i]? :=fun i hi=>by
   rw[<-hc2,List.getElem?_toArray,List.append_assoc,List.getElem?_append_left (by simp;omega),List.getElem?_take_of_lt hi,Array.getElem?_toList]
  have hmid:∀j,j<ya.size->c2[es.length*size+j]? =ya[j]? :=fun j hj=>by
   rw[<-hc2,List.getElem?_toArray,List.getElem?_append_left (by simp;omega),List.getElem?_append_right (by simp;omega),<-Array.getElem?_toList];congr 1;simp;omega
  have hn:fq w σ (w.setRow b c2) σ:=by
   intro b1 c1 t1 F3 e1;refine⟨Nat.le_refl _,fun _=>rfl,?_⟩;by_cases hb1:b1=b
   ·subst hb1;rw[hbc] at e1;cases e1;exact⟨c2,hheap,AY,fun i hi=>by omega⟩
   ·exact⟨c1,(gY w b c2 b1 hb1).trans e1,rfl,fun _ _=>rfl⟩
  refine⟨_,_,hrun,fun S' β'=>⟨hall,_,sCap,by rw[hlen'],by omega,.inr ⟨b,c2,ct,rfl,hheap,hσ,by omega,fun j d hj=> ?_⟩⟩,by rw[setRow_size];exact Nat.le_refl _,rfl,rfl,hn,fun x=>by rw[setRow_size];exact hl x,fun x hx hne=> ?_,fun x hx=>.inl ?_,rfl⟩
  ·rw[List.flatten_append] at hj;by_cases hjl:j<es.length*size
   ·rw[List.getElem?_append_left (by omega)] at hj;obtain⟨v,hv,hr⟩:=hcells j d hj;exact⟨v,by rw[hlow j hjl];exact hv,hr.mono hn⟩
   ·rw[List.getElem?_append_right (by omega),hfl] at hj;obtain⟨v,hv,hr⟩:=Zi _ d hj;have hlt:=(Array.getElem?_eq_some_iff.1 hv).1;refine⟨v,?_,hr.mono hn⟩;rw[<-hv,<-hmid _ hlt];congr 1;omega
  ·exact gY _ _ _ _ fun e=>hne (by simp[owns,blk,hc0,e])
  ·simpa [owns,blk] using hx
 ·obtain⟨ah4,_,KG,Qr,KH,Qs⟩:=hy w.drew rfl
  obtain⟨oa,hor,F8,hod⟩:∃oa:Array Value,(Builtin.firstCells size es.length (.slice base es.length sCap)).run P w.drew=.ok oa w.drew/\oa.size=es.length*size/\∀(j:Nat)(d:D),es.flatten[j]? =some d->∃v,oa[j]? =some v/\dM w σ d v:=by
   rcases h4 with h0|⟨b,c,ct,rfl,hbc,hσ,hfit,hcells⟩
   ·have he:es=[]:=List.eq_nil_of_length_eq_zero (by omega);subst he;refine⟨#[],?_,by simp,fun j d hj=>by simp at hj⟩
    cases base with
    |none=>rfl
    |some b=>simp[Builtin.firstCells,loadCells,loadCellsFrom]
   ·have hm:es.length*size<=sCap*size:=Nat.mul_le_mul_right _ hcap;have hbc':w.drew.heap[b]? =some (.cells c ct (0,0)):=hbc;have hex:∀j,j<es.length*size->∃v,c[0+j]? =some v:=fun j hj=>⟨c[0+j]'(by omega),Array.getElem?_eq_getElem (by omega)⟩;obtain⟨hpl,hpv⟩:=y5 c 0 (es.length*size) hex;refine⟨_,wL (a:=⟨b,0,none⟩) rfl hbc' _ hex,by simpa using hpl,fun j d hj=> ?_⟩;obtain⟨v,hv,hr⟩:=hcells j d hj;have hjl:=(List.getElem?_eq_some_iff.1 hj).1;refine⟨v,?_,hr⟩;rw[List.getElem?_toArray,hpv j (by omega),Nat.zero_add];exact hv
  obtain⟨cap,rest,Ig,hrest,hrun⟩:=AZ (P:=P) (ty:=ty) (base:=base) (sCap:=sCap) ht hu hi hiz hyl (by rw[his];exact Qr) (by rw[his];exact hor) (by omega) hlen (by rw[hib];exact hb)
  let w':World:={w.drew with heap:=w.heap.push (.cells (oa++KG++rest) e)}
  have hn:fq w σ w' σ:=by
   intro b1 c1 t1 F3 e1
   have hne:b1≠w.heap.size:=by have:=lt_of_some e1;omega
   refine⟨Nat.le_refl _,fun _=>rfl,c1,?_,rfl,fun _ _=>rfl⟩;simp only[w'];rw[Array.getElem?_push,if_neg hne];exact e1
  have hn':fq w.drew σ w' σ:=hn
  have hheap:w'.heap[w.heap.size]? =some (.cells (oa++KG++rest) e (0,0)):=by simp[w']
  have hσ0:σ w.heap.size=0:=by
   rcases hl w.heap.size with h|h
   ·omega
   ·exact h
  refine⟨_,w',hrun,fun S' β'=>⟨hall,_,cap,by rw[hlen'],by omega,.inr ⟨w.heap.size,_,e,rfl,hheap,hσ0,?_,fun j d hj=> ?_⟩⟩,by simp[w'],rfl,rfl,hn,fun x=> ?_,fun x hx _=> ?_,fun x hx=>.inr ?_,rfl⟩
  ·simp only[Array.size_append,F8,KH,hrest,F7];rw[<-Nat.add_mul,<-Nat.add_mul];exact Nat.mul_le_mul_right _ (by omega)
  ·rw[List.flatten_append] at hj;by_cases hjl:j<es.length*size
   ·rw[List.getElem?_append_left (by omega)] at hj;obtain⟨v,hv,hr⟩:=hod j d hj;refine⟨v,?_,hr.mono hn⟩;rw[Array.append_assoc,Array.getElem?_append_left (by omega)];exact hv
   ·rw[List.getElem?_append_right (by omega),hfl] at hj;obtain⟨v,hv,hr⟩:=Qs _ d hj;have hlt:=(Array.getElem?_eq_some_iff.1 hv).1;refine⟨v,?_,hr.mono hn'⟩;rw[Array.append_assoc,Array.getElem?_append_right (by omega),F8,Array.getElem?_append_left (by omega)];exact hv
  ·simp only[w',Array.size_push];exact(hl x).imp (fun h=>by omega) id
  ·have hne:x≠w.heap.size:=by omega
   simp only[w'];rw[Array.getElem?_push,if_neg hne]
  ·simp only[owns,blk] at hx;split at hx
   ·cases hx
   ·cases hx;exact Nat.le_refl _
theorem QB{o:Oper}{K:St->Prop}{Q:Exit->Act->World->Prop}{t u:TypeId}{x y:Operand}{k:Key}(hrun:∀r w',(Builtin.append_ #[t,u] o.type #[a.eval x,a.eval y]).run P w=.ok r w'->(execOp a.eval o).run P w=.ok (.value r) w')
 (hd:∀d,o.dst=some d->d<N)(hR:jM N s a w σ β)(hx:ev s.tm x=.c (.iU k))(h:Dt P t u k (ev s.tm y) s o.dst K):o.wp P a w (Then N s.st β σ w K) Q:=by
 have hxr:=jw hR.T x;have Qp:=jw hR.T y;rw[hx] at hxr;unfold Dt at h;split at h
 ·rename_i e ys bB es ht hsrc hk;obtain⟨rfl,h1,h2,h3,h5,h6⟩:=h;obtain⟨hu,hsa⟩:=Qx hsrc Qp h1;obtain⟨⟨ob,ho,Ws⟩,hone⟩:=hxr;rw[hk] at ho;cases ho;have hβ:=Ws _ _ rfl;obtain⟨hh,hb,FZ⟩:=hR.S.obj k _ hk;rw[hβ] at hb;cases hb;obtain⟨r,w',hr,hro,hsz,hos,hout,hn,hl,wO,hbk,h1c⟩:=Wv (P:=P) (ty:=o.type) hR.S.live ht hu h3 rfl h2 FZ hsa h5;obtain⟨hS1,hk1,El⟩:=hR.S.set (o':=.dead) (h':=a.eval x) hk hβ hsz hos hout hn hl (fun b h1 h2=>⟨wO b h1 h2,rfl⟩) (.inl rfl) trivial (fun b hb=>by cases hb);have e1:aY β k (a.eval x)=β:=NR (a.eval x) _ _ _ hβ;rw[e1] at hS1 hk1 El;obtain⟨tm,st⟩:=s;have hsh:=hS1.shape
  cases hst:aY st k Obj.dead with
  |nil=>simp only[newObj,hst] at h6
  |cons own Ω=>
   simp only[newObj,hst] at h6
   have ach:eG w' σ (own::Ω) β:=by rw[<-hst];exact hS1
   have hfr:∃bo bΩ,β=bo::bΩ/\bo.length=own.length:=by
    cases β with
    |nil=>have:=ach.shape.1;simp at this
    |cons bo bΩ=>
     refine⟨bo,bΩ,rfl,?_⟩;obtain⟨gr,q1,q2⟩:=ach.shape.2 0 own rfl;simp at q1;rw[q1];exact q2
   obtain⟨bo,bΩ,rfl,hlen⟩:=hfr
   have hnot:∀b,owns (.eZ (P.cellsOf e) (es++ys)) r b->¬Own (own::Ω) (bo::bΩ) b:=by
    intro b hb ⟨k1,o1,h1,e1,e2,e3⟩
    have hin:bn st k1=some o1/\k1≠k:=by
     have I9:bn (aY st k Obj.dead) k1=some o1:=by rw[hst];exact e1
     by_cases q:k1=k
     ·subst q;rw[cO _ _ _ _ hk] at I9;cases I9;cases e3
     ·rw[eX _ _ _ _ (Ne.symm q)] at I9;exact⟨I9,q⟩
    rcases hbk b hb with k2|k2
    ·exact hin.2 (hR.S.apart k1 k o1 _ h1 _ b hin.1 e2 e3 hk hβ k2)
    ·have:=hR.S.Dk ⟨k1,o1,h1,hin.1,e2,e3⟩;omega
   obtain⟨hS2,hk2,hown⟩:=ach.lay hlen (hro _ _) hnot
   have alK:Keep st (bo::bΩ) (own::Ω) (bo::bΩ):=by rw[<-hst];exact hk1
   have Ih:Step st (bo::bΩ) σ w (own::Ω) (bo::bΩ) σ w':=by rw[<-hst];exact El
   refine jL (x:=.c (.iU (0,own.length))) (v:=r) hd hR hS2 (alK.trans hk2) ⟨Ih.size,Ih.os,Ih.output,Ih.far,Ih.near,fun b hb=> ?_⟩ ⟨⟨_,dB _ _ _,fun a b e=> ?_⟩,h1c⟩ (.inl rfl) (hrun _ _ hr) h6
   ·rcases hown b hb with q|q
    ·exact Ih.own b q
    ·rcases hbk b q with q2|q2
     ·exact .inl ⟨k,_,_,hk,hβ,q2⟩
     ·exact .inr q2
   ·rw[<-hlen,dB]
 ·exact h.elim
theorem Zm{o:Oper}{K:St->Prop}{Q:Exit->Act->World->Prop}{t:TypeId}{n:Nat}{parts:Array (Nat×Operand)}(ho:o.op=.buildSlice t n parts)(hd:∀d,o.dst=some d->d<N)(hR:jM N s a w σ β)
 (h:Ga P t s o.dst K (Wu s.st t) (nval P s.st s.tm (.buildSlice t n parts))):o.wp P a w (Then N s.st β σ w K) Q:=by
 unfold Ga at h;split at h
 ·obtain⟨h1,h2⟩:=h;rw[<-ho] at h1 h2;obtain⟨v,w',σ',hrun,hg,hv⟩:=Ky o hR.S hR.T h1;exact pO hd hR hg hv hrun h2
 ·rename_i p es hb hr;split at h
  ·rename_i e ht;obtain⟨hp,h6⟩:=h;have hr':mG P (oz s.st) s.st s.tm (.buildSlice t n parts)=(p,.c (.bM es)):=hr;simp only[mG] at hr'
   cases hlab:oz s.st with
   |some m=>
    rw[hlab] at hr';simp only[kY] at hr';split at hr'<;>cases hr'
   |none=>
    rw[hlab] at hr';simp only[kY,qm,ht] at hr';split at hr'
    ·rename_i es' hes;cases hr';obtain⟨h1,h2,h3⟩:=hp
     obtain⟨ca,hrun,hca,hle,hcells⟩:=BZ (P:=P) (w:=w) (σ:=σ) (S:=s.st) (β:=β) (t:=t) (n:=n) (parts:=parts.toList.map fun x=>(x.1,ev s.tm x.2)) (pv:=parts.toList.map fun x=>(x.1,a.eval x.2)) (by simp)
      (fun j x hx=>by
        rw[List.getElem?_map] at hx ⊢
        cases hc:parts.toList[j]? with
        |none=>rw[hc] at hx;cases hx
        |some y=>rw[hc] at hx;cases hx;exact⟨_,rfl,jw hR.T y.2⟩) ht hes h1 h2 h3
     have hrun':(execOp a.eval o).run P w=.ok (.value (.slice (some ⟨w.heap.size,0,none⟩) n n)) {w with heap:=w.heap.push (.cells ca e)}:=by
      clear h6 hr;obtain⟨dst,op,ty,pos,after,guard⟩:=o;simp only at ho;subst ho;simp[execOp];rw[Qk,hrun];rfl
     have hg:=Ad w σ hR.S.live ca e 0
     have hσ0:σ w.heap.size=0:=by
      rcases hR.S.live w.heap.size with h|h
      ·omega
      ·exact h
     obtain⟨tm,st⟩:=s
     cases st with
     |nil=>exact h6.elim
     |cons own Ω=>
      obtain⟨bo,bΩ,rfl,hlen⟩:=frames hR
      obtain⟨hS',hk,hst⟩:=hR.S.push (o:=.eZ (P.cellsOf e) es) (h:=.slice (some ⟨w.heap.size,0,none⟩) n n) hg hlen
       ⟨hle,some ⟨w.heap.size,0,none⟩,n,by rw[h1],by omega,.inr ⟨w.heap.size,ca,e,rfl,by simp,by simp,by rw[hca,h1];exact Nat.le_refl _,fun j d hj=>by
         obtain⟨v,hv,hr⟩:=hcells j d hj
         exact⟨v,hv,hr.mono hg.near⟩⟩⟩
       (fun b hb=>by
         simp only[owns,blk] at hb;split at hb
         ·cases hb
         ·cases hb;exact Nat.le_refl _)
      refine jL (x:=.c (.iU (0,own.length))) hd hR hS' hk hst ⟨⟨_,dB _ _ _,fun bB es e=> ?_⟩,rfl⟩ (.inl rfl) hrun' h6;rw[<-hlen,dB]
    ·cases hr'
  ·exact h.elim
 ·exact h.elim
theorem Ja(hw:∀{o:Oper}{K:St->Prop}{Q:Exit->Act->World->Prop},(∀d,o.dst=some d->d<N)->dw P o s K->o.wp P a w (Then N s.st β σ w K) Q){o:Oper}{K:St->Prop}{Q:Exit->Act->World->Prop}(hd:∀d,o.dst=some d->d<N)(hR:jM N s a w σ β)(h:gZ P o s K):o.wp P a w (Then N s.st β σ w K) Q:=by
 unfold gZ at h;split at h
 ·rename_i Cb ts ho;split at h
  ·rename_i x y t u hx ht;unfold Ay at h;split at h
   ·rename_i k hk;refine QB (fun r w' hr=> ?_) hd hR hk h;clear h;obtain⟨dst,op,ty,pos,after,guard⟩:=o;simp only at ho;subst ho
    obtain rfl:Cb= #[x,y]:=by rw[<-Array.toArray_toList (xs:=Cb),hx]
    obtain rfl:ts= #[t,u]:=by rw[<-Array.toArray_toList (xs:=ts),ht]
    simp only at hr;simp[execOp,resolve,invoke,builtin,hr]
   ·refine hw hd ?_;unfold dw;rw[ho];simp only[mH,hx,ht];exact h
  ·exact h.elim
 ·rename_i t n parts ho;exact Zm ho hd hR h
 ·exact hw hd h
end
section
variable {P:Program} {w w':World} {σ σ':Nat->Nat} {S:Store} {β β':Hs} {N:Nat} {s:St} {a:Act}
theorem Em{o:Oper}{K:St->Prop}{Q:Exit->Act->World->Prop}(hd:∀d,o.dst=some d->d<N)(hR:jM N s a w σ β)(h:dw P o s K):o.wp P a w (Then N s.st β σ w K) Q:=by
 unfold dw at h;split at h
 ·rename_i t ho;unfold tO at h;split at h
  ·rename_i zs hz;obtain⟨z,uY,hzc⟩:=tL (w:=w) (σ:=σ) (S:=s.st) (β:=β) hz;refine KI (v:=z) (t:=t) hd hR hzc (fun ad w' F9=> ?_) h;obtain⟨dst,op,ty,pos,after,guard⟩:=o;simp only at ho;subst ho;simp[execOp,Instr.alloc,uY,F9]
  ·exact h.elim
 ·rename_i t x ho;unfold A8 at h;split at h
  ·rename_i cs hcs;refine KI (v:=a.eval x) (t:=t) hd hR (wN hcs (jw hR.T x)) (fun ad w' F9=> ?_) h;obtain⟨dst,op,ty,pos,after,guard⟩:=o;simp only at ho;subst ho;simp[execOp,Instr.box,F9]
  ·exact h.elim
 ·rename_i t x y ho;exact Tn ho hd hR h
 ·rename_i t x y ho;exact Wq ho hd hR h
 ·rename_i t ho;exact Qv ho hd hR h
 ·rename_i t x y z ho;exact Qw ho hd hR h
 ·rename_i c ho;exact KJ ho hd hR h
 ·obtain⟨h1,h2⟩:=h;obtain⟨v,w',σ',hrun,hg,hv⟩:=Ky o hR.S hR.T h1;exact pO hd hR hg hv hrun h2
def fV(R:Array Oper)(j:Nat):Option Nat:=(R[j]?).bind (·.dst)
def tT(P:Program)(R:Array Oper)(o:Oper)(s:St)(K:St->Prop):Prop:=
 match o.guard with
 |none=>gZ P o s K
 |some (j,want)=>
  match(fV R j).map (look s.tm) with
  |some (.c (.d (.b x)))=>(x=want->gZ P o s K)/\(x= !want->K (s.put o.dst (.eD [])))
  |some (.eD [])=>K (s.put o.dst (.eD []))
  |_=>False
def Ba(P:Program)(R:Array Oper):List Oper->St->(St->Prop)->Prop
 |[],s,K=>K s
 |o::os,s,K=>tT P R o s fun s'=>Ba P R os s' K
theorem Then.mono{K K':St->Prop}{a':Act}{w':World}(hK:∀s,K s->K' s)(h:Then N S β σ w K a' w'):Then N S β σ w K' a' w':=by
 obtain⟨s',σ',β',h1,h2,h3,h4⟩:=h;exact⟨s',σ',β',h1,h2,h3,hK _ h4⟩
theorem Bb{R:Array Oper}{j:Nat}{x:Bool}(hR:jM N s a w σ β)(h:(fV R j).map (look s.tm)=some (.c (.d (.b x)))):yielded R a.tmps j=some x:=by
 unfold yielded;unfold fV at h
 cases hd:(R[j]?).bind (·.dst) with
 |none=>rw[hd] at h;cases h
 |some d=>
  rw[hd] at h;simp only[Option.map_some,Option.some.injEq] at h;have ht:=hR.T d;rw[h] at ht;obtain⟨ht,_⟩:=ht;simp only[Option.bind_some]
  have hlt:d<a.tmps.size:=by
   rcases Nat.lt_or_ge d a.tmps.size with h|h
   ·exact h
   ·simp[Array.getD,Nat.not_lt.2 h,undef] at ht;cases ht
  have hg:a.tmps.getD d undef=a.tmps[d]:=by simp[Array.getD,hlt]
  rw[hg] at ht;rw[Array.getElem?_eq_getElem hlt];generalize a.tmps[d]=v at ht;cases ht;rfl
theorem FH{R:Array Oper}{j:Nat}(hR:jM N s a w σ β)(h:(fV R j).map (look s.tm)=some (.eD [])):yielded R a.tmps j=none:=by
 unfold yielded;unfold fV at h
 cases hd:(R[j]?).bind (·.dst) with
 |none=>rw[hd] at h;cases h
 |some d=>
  rw[hd] at h;simp only[Option.map_some,Option.some.injEq] at h;have ht:=hR.T d;rw[h] at ht;obtain⟨ar,hv,_⟩:=ht;simp only[Option.bind_some];by_cases hlt:d<a.tmps.size
  ·have hg:a.tmps.getD d undef=a.tmps[d]:=by simp[Array.getD,hlt]
   rw[hg] at hv;rw[Array.getElem?_eq_getElem hlt,hv]
  ·rw[Array.getElem?_eq_none (Nat.le_of_not_lt hlt)]
theorem NT{o:Oper}{K:St->Prop}(hd:∀d,o.dst=some d->d<N)(hR:jM N s a w σ β)(hK:K (s.put o.dst (.eD []))):Then N s.st β σ w K (a.put o.dst undef) w:=by
 have hr:jM N (St.put ⟨s.tm,s.st⟩ o.dst (.eD [])) (a.put o.dst undef) w σ β:=Aw hd hR.size hR.defers hR.S hR.T vU;have he:(s.put o.dst (.eD [])).st=s.st:=kM o.dst s.tm s.st _;exact⟨_,σ,β,hr,by rw[show(St.put ⟨s.tm,s.st⟩ o.dst (.eD [])).st=s.st from he];exact Step.pE (Grow.refl hR.S.live),by rw[show(St.put ⟨s.tm,s.st⟩ o.dst (.eD [])).st=s.st from he];exact Keep.refl _ _,hK⟩
theorem Tp{R:Array Oper}{o:Oper}{K:St->Prop}{Q:Exit->Act->World->Prop}(hd:∀d,o.dst=some d->d<N)(hR:jM N s a w σ β)(h:tT P R o s K):
 if Region.wanted o (yielded R a.tmps) then o.wp P a w (Then N s.st β σ w K) Q else Then N s.st β σ w K (a.put o.dst undef) w:=by
 unfold tT at h;split at h
 ·rename_i hg;rw[if_pos (by simp[Region.wanted,hg])];exact Ja (fun hd h=>Em hd hR h) hd hR h
 ·rename_i j want hg;split at h
  ·rename_i x hx;have hy:=Bb hR hx;by_cases e:x=want
   ·rw[if_pos (by simp[Region.wanted,hg,hy,e])];exact Ja (fun hd h=>Em hd hR h) hd hR (h.1 e)
   ·rw[if_neg (by simp[Region.wanted,hg,hy,e])];exact NT hd hR (h.2 (by cases x<;>cases want<;>simp_all))
  ·rename_i hx;have hy:=FH hR hx;rw[if_neg (by simp[Region.wanted,hg,hy])];exact NT hd hR h
  ·exact h.elim
theorem KL{R:Array Oper}{K:St->Prop}{S0:Store}{β0:Hs}{σ0:Nat->Nat}{w0:World}{Q:Exit->Act->World->Prop}(hQ:∀a w,Then N S0 β0 σ0 w0 K a w->Q .normal a w):
 ∀(n k:Nat),k+n=R.size->(∀o∈R.toList,∀d,o.dst=some d->d<N)->∀(s:St)(a:Act)(w:World)(σ:Nat->Nat)(β:Hs),jM N s a w σ β->Step S0 β0 σ0 w0 s.st β σ w->Keep S0 β0 s.st β->
  Ba P R (R.toList.drop k) s K->wpOps P R Q (List.range' k n) a w
 |0,k,hk,_,s,a,w,σ,β,hR,hst,hkp,h=>by
  have:R.toList.drop k=[]:=by apply List.drop_eq_nil_of_le;simp;omega
  rw[this] at h;exact hQ a w ⟨s,σ,β,hR,hst,hkp,h⟩
 |n+1,k,hk,hd,s,a,w,σ,β,hR,hst,hkp,h=>by
  have hlt:k<R.toList.length:=by simp;omega
  rw[List.drop_eq_getElem_cons hlt] at h;have hg:=Tp (Q:=Q) (fun d e=>hd _ (List.getElem_mem hlt) d e) hR h;rw[List.range'_succ]
  have hRk:R[k]? =some R.toList[k]:=by
   rw[Array.getElem?_eq_getElem (by omega)];simp
  simp only[wpOps,hRk]
  have next:∀a' w',Then N s.st β σ w (fun s'=>Ba P R (R.toList.drop (k+1)) s' K) a' w'->wpOps P R Q (List.range' (k+1) n) a' w':=by
   rintro a' w' ⟨s',σ',β',hR',hst',xY,hK'⟩;exact KL hQ n (k+1) (by omega) hd s' a' w' σ' β' hR' (hst.trans hst') (hkp.trans xY) hK'
  split
  ·rename_i hw;rw[if_pos hw] at hg;exact .inl (Oper.wp_mono next hg)
  ·rename_i hw;rw[if_neg hw] at hg
   exact next _ _ hg
def gT{α:Type}(l:List α):List α:=l.drop 1
def AW(P:Program)(N:Nat)(c:Code)(Q:Exit->St->Prop)(s:St):Prop:=
 ∀(a:Act)(w:World)(σ:Nat->Nat)(β:Hs),jM N s a w σ β->
  c.wp P (fun e a' w'=>∃s' σ' β',jM N s' a' w' σ' β'/\Step s.st β σ w s'.st β' σ' w'/\Keep (gT s.st) (gT β) (gT s'.st) (gT β')/\Q e s') a w
theorem AW.mono{c:Code}{Q Q':Exit->St->Prop}(h:AW P N c Q s)(hq:∀e s,Q e s->Q' e s):AW P N c Q' s:=fun a w σ β hR=>
 wp_mono (h a w σ β hR) fun e a' w' ⟨s',σ',β',h1,h2,h3,h4⟩=>⟨s',σ',β',h1,h2,h3,hq _ _ h4⟩
def jG(K:St->Prop)(Q:Exit->St->Prop):Exit->St->Prop
 | .normal,s=>K s
 |e,s=>Q e s
def wT(id:Nat)(Q:Exit->St->Prop):Exit->St->Prop
 | .exit id',s=>if id'=id then Q .normal s else Q (.exit id') s
 |e,s=>Q e s
theorem KM{x y:Code}{Q:Exit->St->Prop}(h:AW P N x (jG (AW P N y Q) Q) s):AW P N (.seq x y) Q s:=by
 intro a w σ β hR;refine wp_seq (wp_mono (h a w σ β hR) ?_);rintro e a' w' ⟨s',σ',β',h1,h2,h3,h4⟩
 cases e with
 |normal=>
  show y.wp P _ a' w';refine wp_mono (h4 a' w' σ' β' h1) ?_;rintro e a'' w'' ⟨s'',AR,β'',k1,k2,k3,k4⟩;exact⟨s'',AR,β'',k1,h2.trans k2,h3.trans k3,k4⟩
 |_=>exact⟨s',σ',β',h1,h2,h3,h4⟩
theorem QC{c:Code}{e:Exit}{Q:Exit->St->Prop}(hc:∀{Q':Exit->Act->World->Prop}{a:Act}{w:World},Q' e a w->c.wp P Q' a w)(h:Q e s):AW P N c Q s:=
 fun a w σ β hR=>hc ⟨s,σ,β,hR,Step.pE (Grow.refl hR.S.live),Keep.refl _ _,h⟩
theorem aga{Q:Exit->St->Prop}(h:Q .normal s):AW P N .skip Q s:=QC wp_skip h
theorem agb{id:Nat}{Q:Exit->St->Prop}(h:Q (.exit id) s):AW P N (.exit id) Q s:=QC wp_exit h
theorem ah5{Q:Exit->St->Prop}(h:Q .ret s):AW P N .ret Q s:=QC wp_ret h
theorem MN{c:Operand}{x y:Code}{b:Bool}{Q:Exit->St->Prop}(hc:ev s.tm c=.c (.d (.b b)))(ht:b=true->AW P N x Q s)(hf:b=false->AW P N y Q s):AW P N (.cond c x y) Q s:=by
 intro a w σ β hR;have hv:=jw hR.T c;rw[hc] at hv;obtain⟨hv,_⟩:=hv;generalize he:a.eval c=v at hv;cases hv;refine Go.wp_cond he ?_
 cases b with
 |true=>exact ht rfl a w σ β hR
 |false=>exact hf rfl a w σ β hR
theorem JG{id:Nat}{c:Code}{Q:Exit->St->Prop}(h:AW P N c (wT id Q) s):AW P N (.block id c) Q s:=by
 intro a w σ β hR;refine wp_block (wp_mono (h a w σ β hR) ?_);rintro e a' w' ⟨s',σ',β',h1,h2,h3,h4⟩
 cases e with
 |exit id'=>
  show if id'=id then _ else _
  simp only[wT] at h4;split
  ·rename_i e;rw[if_pos e] at h4;exact⟨s',σ',β',h1,h2,h3,h4⟩
  ·rename_i e;rw[if_neg e] at h4;exact⟨s',σ',β',h1,h2,h3,h4⟩
 |_=>exact⟨s',σ',β',h1,h2,h3,h4⟩
theorem Keep.tail{S S':Store}{β β':Hs}(h:Keep S β S' β'):Keep (gT S) (gT β) (gT S') (gT β'):=h.drop 1
theorem Zn{id:Nat}{R:Array Oper}{Q:Exit->St->Prop}(hd:R.toList.all (fun o=>match o.dst with|some d=>decide (d<N)|none=>true)=true)(h:Ba P R R.toList s (Q .normal)):AW P N (.region id R false) Q s:=by
 intro a w σ β hR;refine wp_region ?_;rw[List.range_eq_range'];refine KL (S0:=s.st) (β0:=β) (σ0:=σ) (w0:=w) (K:=Q .normal) (fun a' w' ht=> ?_) R.size 0 (by omega) (fun o ho d e=> ?_) s a w σ β hR (Step.pE (Grow.refl hR.S.live)) (Keep.refl _ _) h
 ·obtain⟨s',σ',β',h1,h2,h3,h4⟩:=ht;exact⟨s',σ',β',h1,h2,h3.tail,h4⟩
 ·have:=List.all_eq_true.1 hd o ho;rw[e] at this;simpa using this
theorem MO{ι:Type}{c:Code}{Q:Exit->St->Prop}(I:ι->St->Prop)(μ:ι->Nat)(i0:ι)(h0:I i0 s)
 (round:∀i s,I i s->AW P N c (jG (fun s'=>∃j,μ j<μ i/\I j s') Q) s):AW P N (.loop c) Q s:=by
 intro a w σ β hR
 have key:∀(n:Nat)(i:ι)(s':St)(a':Act)(w':World)(σ':Nat->Nat)(β':Hs),μ i<n->I i s'->jM N s' a' w' σ' β'->Step s.st β σ w s'.st β' σ' w'->Keep (gT s.st) (gT β) (gT s'.st) (gT β')->
  Code.rounds P c (fun e a' w'=>∃s' σ' β',jM N s' a' w' σ' β'/\Step s.st β σ w s'.st β' σ' w'/\Keep (gT s.st) (gT β) (gT s'.st) (gT β')/\Q e s') n a' w':=by
  intro n
  induction n with
  |zero=>intro i s' a' w' σ' β' h;omega
  |succ n ih=>
   intro i s' a' w' σ' β' hn hI hR' hst hkp;refine wp_mono (round i s' hI a' w' σ' β' hR') ?_;rintro e a'' w'' ⟨s'',AR,β'',k1,k2,k3,k4⟩
   cases e with
   |normal=>
    obtain⟨j,hj,hIj⟩:=k4;exact ih j s'' a'' w'' AR β'' (by omega) hIj k1 (hst.trans k2) (hkp.trans k3)
   |_=>exact⟨s'',AR,β'',k1,hst.trans k2,hkp.trans k3,k4⟩
 exact wp_loop_rounds (μ i0+1) (key (μ i0+1) i0 s a w σ β (by omega) h0 hR (Step.pE (Grow.refl hR.S.live)) (Keep.refl _ _))
end
def lu:List V->Nat->List (Nat×V)
 |[],_=>[]
 |v::vs,i=>(i,v)::lu vs (i+1)
def C.ret:C->Option C
 | .bV (0,_) es=>some (.d (.sl es))
 |c=>c.down 1
def Ii(y:Bool×List C):Option (Bool×List C):=(y.2.mapM C.ret).map fun cs=>(y.1,cs)
def V.ret:V->Option V
 | .c x=>(x.ret).map .c
 | .agg cs=>(cs.mapM C.ret).map .agg
 | .eD xs=>(xs.mapM Ii).map .eD
 | .any=>some .any
def wU(P:Program)(s:St):ResultVar->R
 | .tmp t=>(True,look s.tm t)
 | .cell a t=>Ac P s.st t (look s.tm a)
def KN:V->Option (Bool×List C)
 | .c x=>some (false,[x])
 | .agg cs=>some (true,cs)
 |_=>none
def oC(P:Program)(s:St):List ResultVar->Prop×Option (List (Bool×List C))
 |[]=>(True,some [])
 |x::xs=>((wU P s x).1/\(oC P s xs).1,(KN (wU P s x).2).bind fun y=>(oC P s xs).2.map fun ys=>y::ys)
def nL(P:Program)(rs:List ResultVar)(s:St):R:=
 match rs with
 |[x]=>wU P s x
 |xs=>match(oC P s xs).2 with
  |some ys=>((oC P s xs).1,.eD ys)
  |none=>no
def aci(P:Program)(rs:List ResultVar)(post:V->Store->Prop)(e:Exit)(s:St):Prop:=
 match e with
 | .normal| .ret=>(nL P rs s).1/\match(nL P rs s).2.ret with
   |some r=>post r (gT s.st)
   |none=>False
 |_=>False
section
variable {P:Program} {w w':World} {σ σ':Nat->Nat} {S:Store} {β β':Hs} {N:Nat} {s:St} {a:Act}
theorem QD{cs:List C}{vs:List Value}(n:Nat)(h:fO w σ (S.drop n) (β.drop n) cs vs):fO w σ S β (cs.map (C.up n)) vs:=
 ⟨by simpa using h.1,fun j x hx=>by
   rw[List.getElem?_map] at hx
   cases hc:cs[j]? with
   |none=>rw[hc] at hx;cases hx
   |some y=>
    rw[hc] at hx;cases hx;obtain⟨v,hv,hr,ho⟩:=h.2 j y hc
    exact⟨v,hv,hr.up n,ho⟩⟩
theorem Ij{x:V}{v:Value}(n:Nat)(h:dN w σ (S.drop n) (β.drop n) x v):dN w σ S β (x.up n) v:=by
 cases x with
 |c x=>exact⟨h.1.up n,h.2⟩
 |agg cs=>obtain⟨ar,ha,hc⟩:=h;exact⟨ar,ha,QD n hc⟩
 |eD xs=>
  obtain⟨ar,ha,hl,h2⟩:=h;refine⟨ar,ha,by simpa using hl,fun j y hy=> ?_⟩;rw[List.getElem?_map] at hy
  cases hc:xs[j]? with
  |none=>rw[hc] at hy;cases hy
  |some z=>
   rw[hc] at hy;cases hy;obtain⟨u,hu,h3⟩:=h2 j z hc;refine⟨u,hu,?_⟩;obtain⟨b,cs⟩:=z
   cases b with
   |true=>obtain⟨a',e,hcs⟩:=h3;exact⟨a',e,QD n hcs⟩
   |false=>obtain⟨x,e,hx,ho⟩:=h3;subst e;exact⟨_,rfl,hx.up n,ho⟩
 |any=>exact trivial
theorem JH{c c':C}{v:Value}(h:c.ret=some c')(hc:iq w σ S β c v):iq w σ (S.drop 1) (β.drop 1) c' v:=by
 unfold C.ret at h;split at h
 ·cases h;exact hc.1
 ·exact Ql h hc
theorem NU{xs ys:List C}{vs:List Value}(h:xs.mapM C.ret=some ys)(hc:fO w σ S β xs vs):fO w σ (S.drop 1) (β.drop 1) ys vs:=by
 induction xs generalizing ys vs with
 |nil=>simp at h;subst h;exact⟨hc.1,fun j d hd=>by simp at hd⟩
 |cons x xs ih=>
  rw[List.mapM_cons] at h
  cases hd:C.ret x with
  |none=>rw[hd] at h;simp at h
  |some y=>
   cases hm:xs.mapM C.ret with
   |none=>rw[hd,hm] at h;simp at h
   |some ys'=>
    rw[hd,hm] at h;simp at h;subst h
    cases vs with
    |nil=>have:=hc.1;simp at this
    |cons v vs=>
     obtain⟨l,r⟩:=ih hm (vs:=vs) ⟨by have:=hc.1;simpa using this,fun j y hy=>hc.2 (j+1) y hy⟩;refine⟨by simp[l],fun j e he=> ?_⟩
     cases j with
     |zero=>
      simp at he;subst he;obtain⟨u,hu,hr,ho⟩:=hc.2 0 x rfl;simp at hu;subst hu;exact⟨v,rfl,JH hd hr,ho⟩
     |succ j=>exact r j e he
theorem QE{α γ:Type}(f:α->Option γ):∀(xs:List α)(ys:List γ),xs.mapM f=some ys->ys.length=xs.length/\∀(j:Nat)(y:γ),ys[j]? =some y->∃x,xs[j]? =some x/\f x=some y
 |[],ys,h=>by simp at h;subst h;exact⟨rfl,fun j y hy=>by simp at hy⟩
 |x::xs,ys,h=>by
  rw[List.mapM_cons] at h
  cases hd:f x with
  |none=>rw[hd] at h;simp at h
  |some y=>
   cases hm:xs.mapM f with
   |none=>rw[hd,hm] at h;simp at h
   |some ys'=>
    rw[hd,hm] at h;simp at h;subst h;obtain⟨l,r⟩:=QE f xs ys' hm;refine⟨by simp[l],fun j e he=> ?_⟩
    cases j with
    |zero=>simp at he;subst he;exact⟨x,rfl,hd⟩
    |succ j=>exact r j e he
theorem QF{x y:V}{v:Value}(h:x.ret=some y)(hx:dN w σ S β x v):dN w σ (S.drop 1) (β.drop 1) y v:=by
 cases x with
 |c x=>
  simp only[V.ret] at h
  cases hc:x.ret with
  |none=>rw[hc] at h;cases h
  |some c=>rw[hc] at h;cases h;exact⟨JH hc hx.1,hx.2⟩
 |agg cs=>
  simp only[V.ret] at h
  cases hc:cs.mapM C.ret with
  |none=>rw[hc] at h;cases h
  |some c=>rw[hc] at h;cases h;obtain⟨ar,ha,h2⟩:=hx;exact⟨ar,ha,NU hc h2⟩
 |eD xs=>
  simp only[V.ret] at h
  cases hc:xs.mapM Ii with
  |none=>rw[hc] at h;cases h
  |some ys=>
   rw[hc] at h;cases h;obtain⟨ar,ha,hl,h2⟩:=hx;obtain⟨l,r⟩:=QE _ _ _ hc;refine⟨ar,ha,by rw[l];exact hl,fun j y hy=> ?_⟩;obtain⟨z,hz,hzy⟩:=r j y hy;obtain⟨u,hu,h3⟩:=h2 j z hz;refine⟨u,hu,?_⟩;obtain⟨b,cs⟩:=z;simp only[Ii] at hzy
   cases hm:cs.mapM C.ret with
   |none=>rw[hm] at hzy;cases hzy
   |some cs'=>
    rw[hm] at hzy;cases hzy
    cases b with
    |true=>obtain⟨a',e,hcs⟩:=h3;exact⟨a',e,NU hm hcs⟩
    |false=>
     obtain⟨x,e,hx,ho⟩:=h3;subst e;rw[List.mapM_cons] at hm
     cases hx':C.ret x with
     |none=>rw[hx'] at hm;simp at hm
     |some x'=>
      rw[hx'] at hm;simp at hm;exact⟨x',hm.symm,JH hx' hx,ho⟩
 |any=>cases h;exact trivial
theorem Vh{x:ResultVar}(hR:jM N s a w σ β)(h:(wU P s x).1):
 ∃v,(match x with| .tmp t=>pure (a.tmps.getD t undef)| .cell b t=>do loadVar t (<-asAddr (a.tmps.getD b undef)):Sem Value).run P w=.ok v w/\dN w σ s.st β (wU P s x).2 v:=by
 cases x with
 |tmp t=>exact⟨_,rfl,hR.T t⟩
 |cell b t=>
  obtain⟨v,hrun,hv⟩:=NM (P:=P) (t:=t) hR.S (hR.T b) h;refine⟨v,?_,hv⟩;show(do loadVar t (<-asAddr (a.tmps.getD b undef)):Sem Value).run P w=.ok v w;generalize a.tmps.getD b undef=bv at hrun ⊢
  cases bv with
  |pointer o=>
   cases o with
   |none=>simp[Instr.loadAt,Instr.sureAddr] at hrun
   |some ad=>simpa [Instr.loadAt,Instr.sureAddr,asAddr] using hrun
  |_=>simp[Instr.loadAt,Instr.sureAddr] at hrun
theorem acj{x:V}{y:Bool×List C}{v:Value}(h:KN x=some y)(hx:dN w σ S β x v):MB w σ S β y v:=by
 cases x with
 |c x=>cases h;exact⟨x,rfl,hx.1,hx.2⟩
 |agg cs=>cases h;exact hx
 |eD=>cases h
 |any=>cases h
theorem Vi(hR:jM N s a w σ β):∀(xs:List ResultVar)(ys:List (Bool×List C)),(oC P s xs).1->(oC P s xs).2=some ys->
 ∃vs:List Value,(xs.mapM fun x=>(match x with| .tmp t=>pure (a.tmps.getD t undef)| .cell b t=>do loadVar t (<-asAddr (a.tmps.getD b undef)):Sem Value)).run P w=.ok vs w/\ys.length=vs.length/\
  ∀(j:Nat)(y:Bool×List C),ys[j]? =some y->∃u,vs[j]? =some u/\MB w σ s.st β y u
 |[],ys,_,h=>by simp only[oC] at h;cases h;exact⟨[],by simp,rfl,fun j y hy=>by simp at hy⟩
 |x::xs,ys,h1,h2=>by
  simp only[oC] at h1 h2
  cases hc:KN (wU P s x).2 with
  |none=>rw[hc] at h2;cases h2
  |some y=>
   cases hr:(oC P s xs).2 with
   |none=>rw[hc,hr] at h2;cases h2
   |some ys'=>
    rw[hc,hr] at h2;cases h2;obtain⟨v,hv,hrep⟩:=Vh (P:=P) (x:=x) hR h1.1;obtain⟨vs,hvs,hl,hj⟩:=Vi hR xs ys' h1.2 hr;refine⟨v::vs,?_,by simp[hl],fun j z hz=> ?_⟩
    ·rw[List.mapM_cons];simp only[Sem.run_bind,Result.andThen_ok,Sem.run_pure];rw[hv];simp only[Result.andThen_ok];rw[hvs];rfl
    ·cases j with
     |zero=>simp at hz;subst hz;exact⟨v,rfl,acj hc hrep⟩
     |succ j=>exact hj j z hz
theorem Gb{fn:Func}(hR:jM N s a w σ β)(h:(nL P fn.results.toList s).1):∃v,(results fn a.tmps).run P w=.ok v w/\dN w σ s.st β (nL P fn.results.toList s).2 v:=by
 have hres:fn.results=fn.results.toList.toArray:=by simp
 have hrun:∀vs:List Value,(fn.results.toList.mapM fun x=>(match x with| .tmp t=>pure (a.tmps.getD t undef)| .cell b t=>do loadVar t (<-asAddr (a.tmps.getD b undef)):Sem Value)).run P w=.ok vs w->
  (results fn a.tmps).run P w=.ok (if h:vs.toArray.size=1 then vs.toArray[0] else .tuple vs.toArray) w:=by
  intro vs hvs;unfold results;rw[hres,List.mapM_toArray];simp only[Sem.run_bind,Sem.run_map];have:(fun x=>(match x with| .tmp t=>pure (a.tmps.getD t undef)| .cell b t=>do loadVar t (<-asAddr (a.tmps.getD b undef)):Sem Value))=fun(x:ResultVar)=>(match x with| .tmp t=>pure (a.tmps.getD t undef)| .cell b t=>do loadVar t (<-asAddr (a.tmps.getD b undef)):Sem Value):=rfl
  erw [hvs]
  rfl
 unfold nL at h ⊢;split at h
 ·rename_i x hx;rw[hx] at hrun;obtain⟨v,hv,hrep⟩:=Vh (P:=P) (x:=x) hR h;refine⟨v,?_,hrep⟩
  have:=hrun [v] (by
   rw[List.mapM_cons];simp only[Sem.run_bind,List.mapM_nil,Result.andThen_ok,Sem.run_pure]
   rw[hv];rfl)
  simpa using this
 ·rename_i hne;split at h
  ·rename_i ys hys;obtain⟨vs,hvs,hl,hj⟩:=Vi (P:=P) hR _ ys h hys;have h1:=hrun vs hvs
   have hlen:¬(vs.toArray.size=1):=by
    intro e
    have hl2:ys.length=fn.results.toList.length:=by
     clear hj hvs h1 hrun hne e hl h;generalize fn.results.toList=l at hys
     induction l generalizing ys with
     |nil=>simp only[oC] at hys;cases hys;rfl
     |cons x xs ih=>
      simp only[oC] at hys
      cases hc:KN (wU P s x).2 with
      |none=>rw[hc] at hys;cases hys
      |some y=>
       cases hr:(oC P s xs).2 with
       |none=>rw[hc,hr] at hys;cases hys
       |some ys'=>rw[hc,hr] at hys;cases hys;simp[ih ys' hr]
    simp at e
    have:fn.results.toList.length=1:=by omega
    obtain⟨x,hx⟩:=List.length_eq_one_iff.1 this;exact hne x hx
   rw[dif_neg hlen] at h1;exact⟨_,h1,vs.toArray,rfl,by simpa using hl,fun j y hy=>by simpa using hj j y hy⟩
  ·exact h.elim
theorem eG.En{own:List Obj}{Ω:Store}{bo:List Value}{bΩ:Hs}(h:eG w σ (own::Ω) (bo::bΩ)):eG w σ Ω bΩ:=by
 refine⟨fun k o ho=> ?_,fun k k' o o' h1 h2 b e1 e2 e3 e4 e5 e6=> ?_,⟨by have:=h.shape.1;simpa using this,fun l fr hl=>h.shape.2 (l+1) fr hl⟩,h.live,h.wJ⟩
 ·obtain⟨l,j⟩:=k;obtain⟨hv,hh,hr⟩:=h.obj (l+1,j) o (by rw[bZ];exact ho);rw[bZ] at hh;exact⟨hv,hh,hr⟩
 ·obtain⟨l,j⟩:=k;obtain⟨l',j'⟩:=k';have:=h.apart (l+1,j) (l'+1,j') o o' h1 h2 b (by rw[bZ];exact e1) (by rw[bZ];exact e2) e3 (by rw[bZ];exact e4) (by rw[bZ];exact e5) e6;cases this;rfl
theorem eG.up1(h:eG w σ S β):eG w σ ([]::S) ([]::β):=by
 refine⟨fun k o ho=> ?_,fun k k' o o' h1 h2 b e1 e2 e3 e4 e5 e6=> ?_,⟨by simp[h.shape.1],fun l fr hl=> ?_⟩,h.live,h.wJ⟩
 ·obtain⟨l,j⟩:=k
  cases l with
  |zero=>rw[bK] at ho;simp at ho
  |succ l=>
   rw[bZ] at ho;obtain⟨hv,hh,hr⟩:=h.obj (l,j) o ho;exact⟨hv,by rw[bZ];exact hh,hr⟩
 ·obtain⟨l,j⟩:=k;obtain⟨l',j'⟩:=k'
  cases l with
  |zero=>rw[bK] at e1;simp at e1
  |succ l=>
   cases l' with
   |zero=>rw[bK] at e4;simp at e4
   |succ l'=>
    rw[bZ] at e1 e2 e4 e5;have:=h.apart (l,j) (l',j') o o' h1 h2 b e1 e2 e3 e4 e5 e6;cases this;rfl
 ·cases l with
  |zero=>simp at hl;subst hl;exact⟨[],rfl,rfl⟩
  |succ l=>exact h.shape.2 l fr hl
theorem Az{b:Nat}(h:Own ([]::S) ([]::β) b):Own S β b:=by
 obtain⟨⟨l,j⟩,o,hv,h1,h2,h3⟩:=h
 cases l with
 |zero=>rw[bK] at h1;simp at h1
 |succ l=>rw[bZ] at h1 h2;exact⟨(l,j),o,hv,h1,h2,h3⟩
theorem tV{own:List Obj}{Ω:Store}{bo:List Value}{bΩ:Hs}{b:Nat}(h:Own Ω bΩ b):Own (own::Ω) (bo::bΩ) b:=by
 obtain⟨⟨l,j⟩,o,hv,h1,h2,h3⟩:=h;exact⟨(l+1,j),o,hv,by rw[bZ];exact h1,by rw[bZ];exact h2,h3⟩
theorem Ag:∀(args:List V)(i t:Nat),look (lu args i) t=if i<=t then(args[t-i]?).getD .any else .any
 |[],i,t=>by simp[lu,look]
 |v::args,i,t=>by
  rw[lu,look,Ag args (i+1) t];by_cases h1:i=t
  ·subst h1;simp
  ·rw[if_neg h1];by_cases h2:i+1<=t
   ·rw[if_pos h2,if_pos (by omega)];rw[show t-i=(t-(i+1))+1 from by omega];rfl
   ·rw[if_neg h2,if_neg (by omega)]
theorem uZ{f:FuncId}{fn:Func}{c:Code}{args:List V}{post:V->Store->Prop}(hf:P.funcs[f]? =some fn)(hb:fn.body=some c)(hn:(fn.name== "runtime.NumGoroutine")=false)
 (hl:args.length<=fn.ntmps)(h:AW P fn.ntmps c (aci P fn.results.toList post) ⟨lu (args.map (V.up 1)) 0,[]::S⟩):bY P f args S post:=by
 refine⟨⟨fn,hf,hn,by simp[hb]⟩,fun w σ β vs hS hargs=> ?_⟩;refine calls_of_wp hf hb ?_;have hlen:vs.length=args.length:=hargs.1.symm
 have QG:jM fn.ntmps ⟨lu (args.map (V.up 1)) 0,[]::S⟩ {tmps:=vs.toArray++Array.replicate (fn.ntmps-vs.toArray.size) undef,defers:=[]} w σ ([]::β):=by
  refine⟨by simp;omega,rfl,hS.up1,fun t=> ?_⟩;show dN w σ ([]::S) ([]::β) (look (lu (args.map (V.up 1)) 0) t) _;rw[Ag,if_pos (Nat.zero_le _),Nat.sub_zero,List.getElem?_map]
  cases ha:args[t]? with
  |none=>exact trivial
  |some x=>
   obtain⟨v,hv,hr⟩:=hargs.2 t x ha;have ht:=(List.getElem?_eq_some_iff.1 hv).1
   have:(vs.toArray++Array.replicate (fn.ntmps-vs.toArray.size) undef).getD t undef=v:=by
    rw[Array.getD_eq_getD_getElem?,Array.getElem?_append_left (by simpa using ht)];simp[hv]
   rw[this];exact Ij (S:=[]::S) (β:=[]::β) 1 hr
 refine wp_mono (h _ w σ ([]::β) QG) ?_;rintro e a' w' ⟨s',σ',β',hR,hst,hkp,hq⟩
 have main:(nL P fn.results.toList s').1/\(match(nL P fn.results.toList s').2.ret with|some r=>post r (gT s'.st)|none=>False)->
  a'.defers=[]/\∃v,(results fn a'.tmps).run P w'=.ok v w'/\∃v_1 r S' σ' β',Ending.returned v=Ending.returned v_1/\eG w' σ' S' β'/\Keep S β S' β'/\Step S β σ w S' β' σ' w'/\dN w' σ' S' β' r v_1/\post r S':=by
  rintro⟨q1,q2⟩;obtain⟨v,hv,hrep⟩:=Gb (fn:=fn) hR q1;split at q2
  ·rename_i r hr;obtain⟨tm,st⟩:=s';have aj6:=QF hr hrep;refine⟨hR.defers,v,hv,v,r,gT st,σ',gT β',rfl,?_,hkp,?_,aj6,q2⟩
   ·cases st with
    |nil=>
     cases β' with
     |nil=>exact hR.S
     |cons=>have:=hR.S.shape.1;simp at this
    |cons own Ω=>
     cases β' with
     |nil=>have:=hR.S.shape.1;simp at this
     |cons bo bΩ=>exact hR.S.En
   ·refine⟨hst.size,hst.os,hst.output,fun b hb ho=>hst.far b hb (fun x=>ho (Az x)),hst.near,fun b hb=> ?_⟩
    cases st with
    |nil=>obtain⟨k,o,hv,h1,_⟩:=hb;simp[gT,nu] at h1
    |cons own Ω=>
     cases β' with
     |nil=>obtain⟨k,o,hv,h1,h2,_⟩:=hb;simp[gT,nu] at h2
     |cons bo bΩ=>exact(hst.own b (tV hb)).imp Az id
  ·exact q2.elim
 cases e with
 |normal=>exact main hq
 |ret=>exact main hq
 |_=>exact hq.elim
end
def qH:Op->Bool
 | .alloc _=>true
 | .box _ _=>true
 | .store _ _ _=>true
 | .makeSlice _ _ _=>true
 | .makeMap _ none=>true
 | .mapUpdate _ _ _ _=>true
 | .call {callee:=.builtin .append,args:=_,argTypes:=_}=>true
 |_=>false
def xZ:Op->Bool
 | .store _ _ _=>true
 | .mapUpdate _ _ _ _=>true
 |_=>false
def jl:Op->Bool
 | .call {callee:=.value _,args:=_,argTypes:=_}=>true
 |_=>false
abbrev Md:=Op->Nat
def fG(E:Md)(op:Op):Bool:=qH op||(decide (1<=E op)&&jl op)
def jU(E:Md)(op:Op):Bool:=xZ op||(decide (2<=E op)&&jl op)
theorem acn{E:Md}{op:Op}(h:qH op=true):fG E op=true:=by simp[fG,h]
theorem Zo{E:Md}{op:Op}(h:jU E op=true):fG E op=true:=by
 unfold jU fG at *
 rw[Bool.or_eq_true] at h ⊢;refine h.imp (fun hs=> ?_) (fun h=> ?_)
 ·cases op<;>first|rfl|simp[xZ] at hs
 ·rw[Bool.and_eq_true,decide_eq_true_eq] at h ⊢;exact⟨by omega,h.2⟩
def DS(S S':Store):Prop:=∀k o,bn S k=some o->bn S' k=some o\/((∃z es,rD o z es)/\∃o' z es,bn S' k=some o'/\rD o' z es)
def Eo(P:Program)(tm:List (Nat×V))(c:Call)(r:V):Prop:=
 match c.callee with
 | .value x=>match ev tm x with
   | .c (.fn f caps)=>aX P f (c.args.toList.map (ev tm)++caps.map fun y=>.c (.ptr y.1 y.2)) r
   |_=>False
 |_=>False
def fJ(P:Program)(E:Md)(o:Oper)(s:St)(K:St->Prop):Prop:=
 if qH o.op then dw P o s K else
 match o.op with
 | .call {callee:=.value x,args,argTypes}=>match E (.call {callee:=.value x,args,argTypes}) with
   |0=>∃r,Eo P s.tm {callee:=.value x,args,argTypes} r/\K (s.put o.dst r)
   |1=>∃S' v,DS s.st S'/\dw P o s (fun t=>t=St.put ⟨s.tm,S'⟩ o.dst v)/\K (St.put ⟨s.tm,S'⟩ o.dst v)
   |_=>∃S' v,dw P o s (fun t=>t=St.put ⟨s.tm,S'⟩ o.dst v)/\K (St.put ⟨s.tm,S'⟩ o.dst v)
 |op=>(nval P s.st s.tm op).1/\K (s.put o.dst (nval P s.st s.tm op).2)
def oq(P:Program)(E:Md)(R:Array Oper)(o:Oper)(s:St)(K:St->Prop):Prop:=
 match o.guard with
 |none=>fJ P E o s K
 |some (j,want)=>
  match(fV R j).map (look s.tm) with
  |some (.c (.d (.b x)))=>(x=want->fJ P E o s K)/\(x= !want->K (s.put o.dst (.eD [])))
  |some (.eD [])=>K (s.put o.dst (.eD []))
  |_=>False
def rJ(P:Program)(E:Md)(R:Array Oper):List Oper->St->(St->Prop)->Prop
 |[],s,K=>K s
 |o::os,s,K=>oq P E R o s fun s'=>rJ P E R os s' K
def NV(P:Program)(S:Store)(tm:List (Nat×V))(op:Op)(v:V):Prop:=
 (∃c,op=.call c/\Eo P tm c v)\/((nval P S tm op).1/\v=(nval P S tm op).2)
def gd(R:Array Oper)(o:Oper)(tm:List (Nat×V)):Option Bool:=
 match o.guard with
 |none=>some true
 |some (j,want)=>
  match(fV R j).map (look tm) with
  |some (.c (.d (.b x)))=>some (x==want)
  |some (.eD [])=>some false
  |_=>none
def lC(P:Program)(E:Md)(R:Array Oper)(o:Oper)(s:St)(v:V)(s':St):Prop:=
 (gd R o s.tm=some false/\v=.eD []/\s'=s.put o.dst v)\/
 (gd R o s.tm=some true/\fG E o.op=false/\NV P s.st s.tm o.op v/\s'=s.put o.dst v)\/
 (gd R o s.tm=some true/\fG E o.op=true/\dw P o s (fun t=>t=s')/\s'=St.put ⟨s.tm,s'.st⟩ o.dst v/\(qH o.op=false->jU E o.op=false->DS s.st s'.st))
section
variable {P:Program} {w w':World} {σ σ':Nat->Nat} {S S':Store} {β β':Hs} {N:Nat} {s:St} {a:Act}
theorem qV{dst:Option Nat}{o:Obj}{mk:Key->V}{K:St->Prop}(h:newObj s dst o mk K):∃S' v,newObj s dst o mk (fun t=>t=St.put ⟨s.tm,S'⟩ dst v)/\K (St.put ⟨s.tm,S'⟩ dst v):=by
 unfold newObj at h ⊢;split at h
 ·rename_i own Ω hst;exact⟨_,_,rfl,h⟩
 ·exact h.elim
theorem agc{b:Bool}{es x:List (List D)}{z:Nat}{dst:Option Nat}{K:St->Prop}(h:zJ b es s dst z x K):∃S' v,zJ b es s dst z x (fun t=>t=St.put ⟨s.tm,S'⟩ dst v)/\K (St.put ⟨s.tm,S'⟩ dst v):=by
 cases b with
 |false=>exact qV (o:=.tok z x) (mk:=fun k=>.c (.bV k x)) h
 |true=>
  obtain⟨S',v,h1,h2⟩:=qV (o:=.eZ z x) (mk:=fun k=>.c (.iU k)) h.2;exact⟨S',v,⟨h.1,h1⟩,h2⟩
theorem agd{l:Option Nat}{es x:List (List D)}{z:Nat}{dst:Option Nat}{K:St->Prop}(h:A9 l es s dst z x K):∃S' v,A9 l es s dst z x (fun t=>t=St.put ⟨s.tm,S'⟩ dst v)/\K (St.put ⟨s.tm,S'⟩ dst v):=by
 cases l with
 |none=>exact agc h
 |some n=>
  cases es with
  |nil=>exact⟨s.st,_,rfl,h⟩
  |cons y es=>exact qV (o:=.tok z x) (mk:=fun k=>.c (.bV k x)) h
theorem agf{b:Bool}{n:Nat}{x:List (List D)}{z:Nat}{dst:Option Nat}{K:St->Prop}(h:CX b n s dst z x K):∃S' v,CX b n s dst z x (fun t=>t=St.put ⟨s.tm,S'⟩ dst v)/\K (St.put ⟨s.tm,S'⟩ dst v):=by
 cases b with
 |false=>exact qV (o:=.jD n z x) (mk:=fun k=>.c (.bV k x)) h
 |true=>exact⟨s.st,_,rfl,h⟩
theorem aco{o:Oper}{K:St->Prop}(hD:qH o.op=true)(h:dw P o s K):∃S' v,dw P o s (fun t=>t=St.put ⟨s.tm,S'⟩ o.dst v)/\K (St.put ⟨s.tm,S'⟩ o.dst v):=by
 obtain⟨dst,op,ty,pos,after,guard⟩:=o
 cases op with
 |alloc t=>
  simp only[dw,tO] at h ⊢;split at h
  ·exact qV h
  ·exact h.elim
 |box t x=>
  simp only[dw,A8] at h ⊢;split at h
  ·exact qV h
  ·exact h.elim
 |makeSlice t l c=>
  simp only[dw,wP] at h ⊢;split at h
  ·split at h
   ·obtain⟨h1,h2,h3,h4,h5,h6⟩:=h;obtain⟨S',v,k1,k2⟩:=qV h6;exact⟨S',v,⟨h1,h2,h3,h4,h5,k1⟩,k2⟩
   ·exact h.elim
  ·exact h.elim
 |store t x y=>
  simp only[dw,tQ] at h ⊢;split at h
  ·split at h
   ·obtain⟨h1,h2,h3,h4⟩:=h;exact⟨_,_,⟨h1,h2,h3,rfl⟩,h4⟩
   ·exact h.elim
  ·split at h
   ·obtain⟨h1,h2,h3,h4,h5⟩:=h;exact⟨_,_,⟨h1,h2,h3,h4,rfl⟩,h5⟩
   ·exact h.elim
  ·split at h
   ·split at h
    ·split at h
     ·obtain⟨h1,h2,h3,h4,h5,h6⟩:=h;exact⟨_,_,⟨h1,h2,h3,h4,h5,rfl⟩,h6⟩
     ·exact h.elim
    ·exact h.elim
   ·exact h.elim
  ·exact h.elim
 |makeMap t r=>
  cases r with
  |none=>
   simp only[dw,sM] at h ⊢;exact qV h
  |some r=>simp[qH] at hD
 |mapUpdate t x y z=>
  simp only[dw,sN] at h ⊢;split at h
  ·split at h
   ·exact⟨_,_,rfl,h⟩
   ·exact h.elim
  ·exact h.elim
 |call c=>
  obtain⟨y9,args,wS⟩:=c
  cases y9 with
  |builtin b=>
   cases b with
   |append=>
    simp only[dw,mH] at h ⊢;split at h
    ·simp only[qG] at h ⊢;split at h
     ·obtain⟨h1,h2,h3,h4⟩:=h;split at h4
      ·split at h4
       ·obtain⟨k1,k2,k3,k4⟩:=h4;exact⟨_,_,⟨h1,h2,h3,k1,k2,k3,rfl⟩,k4⟩
       ·obtain⟨k1,k2,k3,k4⟩:=h4;exact⟨_,_,⟨h1,h2,h3,k1,k2,k3,rfl⟩,k4⟩
       ·exact h4.elim
      ·obtain⟨k1,k2,k3⟩:=h4;obtain⟨S',v,l1,l2⟩:=agd k3;exact⟨S',v,⟨h1,h2,h3,k1,k2,l1⟩,l2⟩
      ·obtain⟨k1,k2,k3⟩:=h4;obtain⟨S',v,l1,l2⟩:=agf k3;exact⟨S',v,⟨h1,h2,h3,k1,k2,l1⟩,l2⟩
      ·exact h4.elim
     ·exact h.elim
    ·exact h.elim
   |_=>simp[qH] at hD
  |_=>simp[qH] at hD
 |_=>simp[qH] at hD
theorem Zp{tm tm':List (Nat×V)}{dst:Option Nat}{o:Obj}{mk:Key->V}{v:V}(h:newObj ⟨tm,S⟩ dst o mk (fun t=>t=St.put ⟨tm,S'⟩ dst v))(hd:dst≠none):
 newObj ⟨tm',S⟩ dst o mk (fun t=>t=St.put ⟨tm',S'⟩ dst v):=by
 unfold newObj at h ⊢
 cases S with
 |nil=>exact h
 |cons own Ω=>
  cases dst with
  |none=>exact absurd rfl hd
  |some d=>
   simp only[St.put,St.mk.injEq,List.cons.injEq,Prod.mk.injEq,and_true,true_and] at h ⊢;exact h
theorem Ww{tm tm':List (Nat×V)}{o:Obj}{mk:Key->V}{v:V}(h:newObj ⟨tm,S⟩ none o mk (fun t=>t=St.put ⟨tm,S'⟩ none v)):
 newObj ⟨tm',S⟩ none o mk (fun t=>t=St.put ⟨tm',S'⟩ none v):=by
 unfold newObj at h ⊢
 cases S with
 |nil=>exact h
 |cons own Ω=>
  simp only[St.put,St.mk.injEq,true_and] at h ⊢;exact h
theorem pQ{tm tm':List (Nat×V)}{dst:Option Nat}{o:Obj}{mk:Key->V}{v:V}(h:newObj ⟨tm,S⟩ dst o mk (fun t=>t=St.put ⟨tm,S'⟩ dst v)):
 newObj ⟨tm',S⟩ dst o mk (fun t=>t=St.put ⟨tm',S'⟩ dst v):=by
 cases dst with
 |none=>exact Ww h
 |some d=>exact Zp h (by simp)
theorem u6{tm tm':List (Nat×V)}{dst:Option Nat}{S1 S2:Store}{v v':V}(h:St.put ⟨tm,S1⟩ dst v=St.put ⟨tm,S2⟩ dst v'):St.put ⟨tm',S1⟩ dst v=St.put ⟨tm',S2⟩ dst v':=by
 cases dst with
 |none=>simp only[St.put,St.mk.injEq,true_and] at h ⊢;exact h
 |some d=>simp only[St.put,St.mk.injEq,List.cons.injEq,Prod.mk.injEq,and_true,true_and] at h ⊢;exact h
theorem acp{b:Bool}{es x:List (List D)}{z:Nat}{tm tm':List (Nat×V)}{dst:Option Nat}{v:V}(h:zJ b es ⟨tm,S⟩ dst z x (fun t=>t=St.put ⟨tm,S'⟩ dst v)):
 zJ b es ⟨tm',S⟩ dst z x (fun t=>t=St.put ⟨tm',S'⟩ dst v):=by
 cases b with
 |false=>exact pQ (o:=.tok z x) (mk:=fun k=>.c (.bV k x)) h
 |true=>exact⟨h.1,pQ (o:=.eZ z x) (mk:=fun k=>.c (.iU k)) h.2⟩
theorem acr{l:Option Nat}{es x:List (List D)}{z:Nat}{tm tm':List (Nat×V)}{dst:Option Nat}{v:V}(h:A9 l es ⟨tm,S⟩ dst z x (fun t=>t=St.put ⟨tm,S'⟩ dst v)):
 A9 l es ⟨tm',S⟩ dst z x (fun t=>t=St.put ⟨tm',S'⟩ dst v):=by
 cases l with
 |none=>exact acp h
 |some n=>
  cases es with
  |nil=>exact u6 h
  |cons y es=>exact pQ (o:=.tok z x) (mk:=fun k=>.c (.bV k x)) h
theorem acs{b:Bool}{n:Nat}{x:List (List D)}{z:Nat}{tm tm':List (Nat×V)}{dst:Option Nat}{v:V}(h:CX b n ⟨tm,S⟩ dst z x (fun t=>t=St.put ⟨tm,S'⟩ dst v)):
 CX b n ⟨tm',S⟩ dst z x (fun t=>t=St.put ⟨tm',S'⟩ dst v):=by
 cases b with
 |false=>exact pQ (o:=.jD n z x) (mk:=fun k=>.c (.bV k x)) h
 |true=>exact u6 h
theorem acu{o:Oper}{tm tm':List (Nat×V)}{v:V}(hD:qH o.op=true)(he:∀x∈o.op.operands,ev tm x=ev tm' x)(h:dw P o ⟨tm,S⟩ (fun t=>t=St.put ⟨tm,S'⟩ o.dst v)):
 dw P o ⟨tm',S⟩ (fun t=>t=St.put ⟨tm',S'⟩ o.dst v):=by
 obtain⟨dst,op,ty,pos,after,guard⟩:=o
 cases op with
 |alloc t=>
  simp only[dw,tO] at h ⊢;split at h
  ·exact pQ h
  ·exact h.elim
 |box t x=>
  have e1:=he x (by simp[Op.operands]);simp only[dw,A8,e1] at h ⊢;split at h
  ·exact pQ h
  ·exact h.elim
 |makeSlice t l c=>
  have e1:=he l (by simp[Op.operands]);have e2:=he c (by simp[Op.operands]);simp only[dw,wP,e1,e2] at h ⊢;split at h
  ·split at h
   ·obtain⟨h1,h2,h3,h4,h5,h6⟩:=h;exact⟨h1,h2,h3,h4,h5,pQ h6⟩
   ·exact h.elim
  ·exact h.elim
 |store t x y=>
  have e1:=he x (by simp[Op.operands]);have e2:=he y (by simp[Op.operands]);simp only[dw,tQ,e1,e2] at h ⊢;split at h
  ·split at h
   ·obtain⟨h1,h2,h3,h4⟩:=h;exact⟨h1,h2,h3,u6 h4⟩
   ·exact h.elim
  ·split at h
   ·obtain⟨h1,h2,h3,h4,h5⟩:=h;exact⟨h1,h2,h3,h4,u6 h5⟩
   ·exact h.elim
  ·split at h
   ·split at h
    ·split at h
     ·obtain⟨h1,h2,h3,h4,h5,h6⟩:=h;exact⟨h1,h2,h3,h4,h5,u6 h6⟩
     ·exact h.elim
    ·exact h.elim
   ·exact h.elim
  ·exact h.elim
 |makeMap t r=>
  cases r with
  |none=>
   simp only[dw,sM] at h ⊢;exact pQ h
  |some r=>simp[qH] at hD
 |mapUpdate t x y z=>
  have e1:=he x (by simp[Op.operands]);have e2:=he y (by simp[Op.operands]);have e3:=he z (by simp[Op.operands]);simp only[dw,sN,e1,e2,e3] at h ⊢;split at h
  ·split at h
   ·exact u6 h
   ·exact h.elim
  ·exact h.elim
 |call c=>
  obtain⟨y9,args,wS⟩:=c
  cases y9 with
  |builtin b=>
   cases b with
   |append=>
    simp only[dw,mH] at h ⊢;split at h
    ·rename_i x y t u hxy htu
     have hargs:args= #[x,y]:=by rw[<-Array.toArray_toList (xs:=args),hxy]
     have e1:=he x (by simp[Op.operands,Call.operands,hargs]);have e2:=he y (by simp[Op.operands,Call.operands,hargs]);simp only[qG,e1,e2] at h ⊢;split at h
     ·obtain⟨h1,h2,h3,h4⟩:=h;refine⟨h1,h2,h3,?_⟩;split at h4
      ·split at h4
       ·obtain⟨k1,k2,k3,k4⟩:=h4;exact⟨k1,k2,k3,u6 k4⟩
       ·obtain⟨k1,k2,k3,k4⟩:=h4;exact⟨k1,k2,k3,u6 k4⟩
       ·exact h4.elim
      ·obtain⟨k1,k2,k3⟩:=h4;exact⟨k1,k2,acr k3⟩
      ·obtain⟨k1,k2,k3⟩:=h4;exact⟨k1,k2,acs k3⟩
      ·exact h4.elim
     ·exact h.elim
    ·exact h.elim
   |_=>simp[qH] at hD
  |_=>simp[qH] at hD
 |_=>simp[qH] at hD
theorem acv{f:FuncId}{args:List V}{tm tm':List (Nat×V)}{dst:Option Nat}{v:V}(h:yJ P f args ⟨tm,S⟩ dst (fun t=>t=St.put ⟨tm,S'⟩ dst v)):yJ P f args ⟨tm',S⟩ dst (fun t=>t=St.put ⟨tm',S'⟩ dst v):=by
 rcases h with⟨post,h1,h2⟩|⟨r,h1,h2⟩
 ·exact .inl ⟨post,h1,fun r P8 hp=>u6 (h2 r P8 hp)⟩
 ·exact .inr ⟨r,h1,u6 h2⟩
theorem acw{E:Md}{o:Oper}{tm tm':List (Nat×V)}{v:V}(hD:fG E o.op=true)(he:∀x∈o.op.operands,ev tm x=ev tm' x)(h:dw P o ⟨tm,S⟩ (fun t=>t=St.put ⟨tm,S'⟩ o.dst v)):
 dw P o ⟨tm',S⟩ (fun t=>t=St.put ⟨tm',S'⟩ o.dst v):=by
 by_cases hd:qH o.op=true
 ·exact acu hd he h
 ·have hc:jl o.op=true:=by
   unfold fG at hD;rw[Bool.or_eq_true,Bool.and_eq_true] at hD;rcases hD with h|h
   ·exact absurd h hd
   ·exact h.2
  obtain⟨dst,op,ty,pos,after,guard⟩:=o
  cases op with
  |call c=>
   obtain⟨y9,args,wS⟩:=c
   cases y9 with
   |value x=>
    have h1:args.toList.map (ev tm)=args.toList.map (ev tm'):=List.map_congr_left fun y hy=>he y (by simp[Op.operands,Call.operands];exact .inr (by simpa using hy));have h2:ev tm x=ev tm' x:=he x (by simp[Op.operands,Call.operands]);simp only[dw,mH,h1,h2] at h ⊢;split at h
    ·exact acv h
    ·exact h.elim
   |_=>simp[jl] at hc
  |_=>simp[jl] at hc
theorem agh{tm tm':List (Nat×V)}{op:Op}(he:∀x∈op.operands,ev tm x=ev tm' x):nval P S tm op=nval P S tm' op:=by
 unfold nval mG
 split<;>try rfl
 ·rw[he _ (by simp[Op.operands])]
 ·rw[he _ (by simp[Op.operands])]
 ·rename_i c x y;rw[he c (by simp[Op.operands]),he x (by simp[Op.operands]),he y (by simp[Op.operands])]
 ·rw[he _ (by simp[Op.operands])]
 ·rw[he _ (by simp[Op.operands])]
 ·rw[he _ (by simp[Op.operands])]
 ·rename_i t x i;rw[he x (by simp[Op.operands]),he i (by simp[Op.operands])]
 ·rename_i t x i;rw[he x (by simp[Op.operands]),he i (by simp[Op.operands])]
 ·rename_i op t x y _;rw[he x (by simp[Op.operands]),he y (by simp[Op.operands])]
 ·rw[he _ (by simp[Op.operands])]
 ·rw[he _ (by simp[Op.operands])]
 ·rw[he _ (by simp[Op.operands])]
 ·rename_i fn first caps
  have h1:first.toList.map (ev tm)=first.toList.map (ev tm'):=List.map_congr_left fun x hx=>he x (by simp[Op.operands];exact .inl (by simpa using hx))
  have h2:caps.toList.map (ev tm)=caps.toList.map (ev tm'):=List.map_congr_left fun x hx=>he x (by simp[Op.operands];exact .inr (by simpa using hx));rw[h1,h2]
 ·rw[he _ (by simp[Op.operands])]
 ·rename_i t x lo hi mx;rw[he x (by simp[Op.operands])]
  have h1:lo.map (ev tm)=lo.map (ev tm'):=by
   cases lo with
   |none=>rfl
   |some y=>simp[he y (by simp[Op.operands])]
  have h2:hi.map (ev tm)=hi.map (ev tm'):=by
   cases hi with
   |none=>rfl
   |some y=>simp[he y (by simp[Op.operands])]
  have h3:mx.map (ev tm)=mx.map (ev tm'):=by
   cases mx with
   |none=>rfl
   |some y=>simp[he y (by simp[Op.operands])]
  rw[h1,h2,h3]
 ·rename_i t parts
  have h1:(parts.toList.map fun x=>(x.1,ev tm x.2))=parts.toList.map fun x=>(x.1,ev tm' x.2):=List.map_congr_left fun x hx=>by
   rw[he x.2 (by simp only[Op.operands,List.mem_toArray,List.mem_map];exact⟨x,hx,rfl⟩)]
  rw[h1]
 ·rename_i t n parts
  have h1:(parts.toList.map fun x=>(x.1,ev tm x.2))=parts.toList.map fun x=>(x.1,ev tm' x.2):=List.map_congr_left fun x hx=>by
   rw[he x.2 (by simp only[Op.operands,List.mem_toArray,List.mem_map];exact⟨x,hx,rfl⟩)]
  rw[h1]
 ·rename_i t x i;rw[he x (by simp[Op.operands]),he i (by simp[Op.operands])]
 ·rename_i args wS;split
  ·rename_i x t hx ht
   have hargs:args= #[x]:=by rw[<-Array.toArray_toList (xs:=args),hx]
   rw[he x (by simp[Op.operands,Call.operands,hargs])]
  ·rfl
 ·rename_i args wS;split
  ·rename_i x y hx
   have hargs:args= #[x,y]:=by rw[<-Array.toArray_toList (xs:=args),hx]
   rw[he x (by simp[Op.operands,Call.operands,hargs]),he y (by simp[Op.operands,Call.operands,hargs])]
  ·rfl
 ·rename_i args wS;split
  ·rename_i x y hx
   have hargs:args= #[x,y]:=by rw[<-Array.toArray_toList (xs:=args),hx]
   rw[he x (by simp[Op.operands,Call.operands,hargs]),he y (by simp[Op.operands,Call.operands,hargs])]
  ·rfl
theorem acy{tm tm':List (Nat×V)}{c:Call}{v:V}(he:∀x∈c.operands,ev tm x=ev tm' x)(h:Eo P tm c v):Eo P tm' c v:=by
 unfold Eo at h ⊢;obtain⟨y9,args,wS⟩:=c
 cases y9 with
 |value x=>
  simp only at h ⊢;rw[<-he x (by simp[Call.operands])];have h1:args.toList.map (ev tm)=args.toList.map (ev tm'):=List.map_congr_left fun y hy=>he y (by simp[Call.operands];exact .inr (by simpa using hy));rw[<-h1];exact h
 |_=>exact h
def QH:Obj->Prop
 | .box _=>True
 | .eZ _ _=>True
 | .mp _=>True
 | .xf _=>True
 |_=>False
def Ik(v:V)(k:Key):Prop:=(∃off,v=.c (.ptr k off))\/(∃i off,v=.c (.kI k i off))\/v=.c (.iU k)\/v=.c (.mp k)\/(∃r p,v=.c (.xp k r p))\/∃r p z i off,v=.c (.xq k r p z i off)
def Fix(S S':Store):Prop:=∀k o,bn S k=some o->QH o->bn S' k=some o
theorem Fix.refl(S:Store):Fix S S:=fun _ _ h _=>h
theorem gU{q:Prop}(h:no.1):q:=h.elim
theorem acz{l:Option Nat}{tm:List (Nat×V)}{op:Op}(h:(mG P l S tm op).1)
 (hf:∀x∈op.operands,∀k,Ik (ev tm x) k->
   ∀o,bn S k=some o->QH o->bn S' k=some o):mG P l S' tm op=mG P l S tm op:=by
 unfold mG at h ⊢
 split at h<;>try rfl
 ·rename_i t x;have hf:=hf x (by simp[Op.operands]);unfold Ac at h ⊢;split at h
  ·rfl
  ·split at h
   ·rename_i hx;simp only[hx]
   ·rename_i k off hx;split at h
    ·rename_i cs hk;rw[hf k (.inl ⟨off,hx⟩) _ hk trivial]
    ·exact gU h
   ·rename_i k i off hx;split at h
    ·rename_i bB es hk;rw[hf k (.inr (.inl ⟨i,off,hx⟩)) _ hk trivial]
    ·exact gU h
   ·rename_i k r p z i off hx;split at h
    ·rename_i rs hk;rw[hf k (.inr (.inr (.inr (.inr (.inr ⟨r,p,z,i,off,hx⟩))))) _ hk trivial]
    ·exact gU h
   ·exact gU h
 ·rename_i t x f;have hf:=hf x (by simp[Op.operands]);unfold rE at h ⊢;split at h
  ·split at h
   ·split at h
    ·exact gU h
    ·rename_i fs hs _ fd hfd hne;split at h
     ·rename_i hx;simp[hs,hfd,hne,hx]
     ·rename_i k off hx;split at h
      ·rename_i cs hk;simp only[hs,hfd,hne,if_false,hx,hf k (.inl ⟨off,hx⟩) _ hk trivial,hk]
      ·exact gU h
     ·rename_i k i off hx;split at h
      ·rename_i bB es hk;simp only[hs,hfd,hne,if_false,hx,hf k (.inr (.inl ⟨i,off,hx⟩)) _ hk trivial,hk]
      ·exact gU h
     ·rename_i k r p z i off hx;split at h
      ·rename_i rs hk;simp only[hs,hfd,hne,if_false,hx,hf k (.inr (.inr (.inr (.inr (.inr ⟨r,p,z,i,off,hx⟩))))) _ hk trivial,hk]
      ·exact gU h
     ·exact gU h
   ·exact gU h
  ·exact gU h
 ·rename_i t x i;have hf:=hf x (by simp[Op.operands]);unfold rF at h ⊢;split at h
  ·rename_i e k n' n ht hx hi;split at h
   ·rename_i bB es hk;simp only[ht,hx,hi,hf k (.inr (.inr (.inl hx))) _ hk trivial,hk]
   ·exact gU h
  ·rename_i len e k off n' n ht hx hi;split at h
   ·rename_i cs hk;simp only[ht,hx,hi,hf k (.inl ⟨off,hx⟩) _ hk trivial,hk]
   ·exact gU h
  ·rename_i e k r p n' n ht hx hi;split at h
   ·rename_i rs hk;simp only[ht,hx,hi,hf k (.inr (.inr (.inr (.inr (.inl ⟨r,p,hx⟩))))) _ hk trivial,hk]
   ·exact gU h
  ·rename_i e y n' n hy hy2 ht hx hi;simp only[ht,hx,hi]
  ·exact gU h
 ·rename_i x;have hf:=hf x (by simp[Op.operands]);unfold vS at h ⊢;split at h
  ·rename_i k off hx;split at h
   ·rename_i cs hk;simp only[hx,hf k (.inl ⟨off,hx⟩) _ hk trivial,hk]
   ·exact gU h
  ·rename_i hx;simp only[hx]
  ·exact gU h
 ·rename_i t x i;have hf:=hf x (by simp[Op.operands]);unfold xW at h ⊢;split at h
  ·rename_i kt et k l ht y7 hi;split at h
   ·rename_i m hk hkt hz;simp only[ht,y7,hi,hf k (.inr (.inr (.inr (.inl y7)))) _ hk trivial,hk,hkt,hz]
   ·exact gU h
  ·exact gU h
 ·rename_i args wS;split at h
  ·rename_i x t hx ht
   have hargs:args= #[x]:=by rw[<-Array.toArray_toList (xs:=args),hx]
   have hf:=hf x (by simp[Op.operands,Call.operands,hargs]);unfold Ef at h ⊢;split at h
   ·rename_i l KO y7;simp only[KO,y7]
   ·rename_i n e KO;simp only[KO]
   ·rename_i e k KO y7;split at h
    ·rename_i bB es hk;simp only[KO,y7,hf k (.inr (.inr (.inl y7))) _ hk trivial,hk]
    ·exact gU h
   ·rename_i e k r p KO y7;split at h
    ·rename_i rs hk;simp only[KO,y7,hf k (.inr (.inr (.inr (.inr (.inl ⟨r,p,y7⟩))))) _ hk trivial,hk]
    ·exact gU h
   ·rename_i e y hy hy2 KO y7;simp only[KO,y7]
   ·exact gU h
  ·exact gU h
end
def vJ(acc:List Nat):List Edge->Nat
 |[]=>0
 |e::es=>(if Region.binds .any e then 2^e.on ||| acc.getD e.on 0 else 0) ||| vJ acc es
def masks:List Oper->List Nat->List Nat
 |[],acc=>acc
 |o::os,acc=>masks os (acc++[vJ acc o.after.toList])
def clash(E:Md)(R:Array Oper)(x y:Oper):Bool:= !(x.apart R y)||(fG E x.op&&fG E y.op)||jU E x.op||jU E y.op
def za(E:Md)(R:Array Oper)(N:Nat):Bool:=
 (List.range R.size).all fun j=>
   (match R[j]? with
    |some o=>o.after.toList.all (fun e=> !Region.binds .any e||decide (e.on<j))&&(match o.dst with|some d=>decide (d<N)|none=>true)
    |none=>true)&&
   (List.range j).all fun i=>
     match R[i]?,R[j]? with
     |some x,some y=>((masks R.toList []).getD j 0).testBit i|| !(clash E R x y)
     |_,_=>true
def rM(R:Array Oper)(i j:Nat):Bool:=if i<j then((masks R.toList []).getD j 0).testBit i else((masks R.toList []).getD i 0).testBit j
def lW(E:Md)(R:Array Oper)(x y:Oper):Bool:= !(x.apart R y)||(fG E x.op&&fG E y.op)
def settled(R:Array Oper)(i:Nat):Operand->Bool
 | .tmp t=>(List.range R.size).all fun n=>decide (n<i)|| !(fV R n==some t)
 |_=>true
def rZ(R:Array Oper)(i:Nat)(x:Oper)(j:Nat)(y:Oper):Bool:=jl y.op||match x.op with
 | .store _ a _=>settled R i a&&y.op.operands.toList.all (settled R j)
 |_=>false
def Du(E:Md)(R:Array Oper)(N:Nat):Bool:=
 (List.range R.size).all fun j=>
   (match R[j]? with
    |some o=>o.after.toList.all (fun e=> !Region.binds .any e||decide (e.on<j))&&(match o.dst with|some d=>decide (d<N)|none=>true)
    |none=>true)&&
   (List.range j).all fun i=>
     match R[i]?,R[j]? with
     |some x,some y=>((masks R.toList []).getD j 0).testBit i|| !(lW E R x y||(jU E x.op&& !(rZ R i x j y))||(jU E y.op&& !(rZ R j y i x)))
     |_,_=>true
def Wx(v w:V):Bool:=
 match w with
 | .c (.ptr k _)=>(match v with| .c (.ptr k' _)=>k'.2 !=k.2| .c (.kI k' _ _)=>k'.2 !=k.2|_=>false)
 | .c (.kI k _ _)=>(match v with| .c (.ptr k' _)=>k'.2 !=k.2| .c (.kI k' _ _)=>k'.2 !=k.2|_=>false)
 | .c (.iU k)=>(match v with| .c (.ptr k' _)=>k'.2 !=k.2| .c (.kI k' _ _)=>k'.2 !=k.2|_=>false)
 | .c (.mp k)=>(match v with| .c (.ptr k' _)=>k'.2 !=k.2| .c (.kI k' _ _)=>k'.2 !=k.2|_=>false)
 | .c (.xp _ _ _)=>false
 | .c (.xq _ _ _ _ _ _)=>false
 |_=>true
def Il(E:Md)(R:Array Oper)(tm:List (Nat×V)):Bool:=
 (List.range R.size).all fun i=>match R[i]? with
   |some x=> !(jU E x.op)||match x.op with
    | .store _ a _=>(List.range R.size).all fun j=>match R[j]? with
      |some y=>rM R i j||fG E y.op||jl y.op||y.op.operands.toList.all (fun z=>Wx (ev tm a) (ev tm z))
      |none=>true
    |_=>true
   |none=>true
def MP(R:Array Oper)(i:Nat):Bool:=
 (List.range R.size).all fun j=>decide (j=i)||(if j<i then((masks R.toList []).getD i 0).testBit j else((masks R.toList []).getD j 0).testBit i)
def ze:Op->Option FuncId
 | .call {callee:=.value (.func f),args:=_,argTypes:=_}=>some f
 |_=>none
def yK(R:Array Oper)(m:Nat):Md:=fun op=>if(List.range R.size).all (fun i=>match R[i]? with
 |some o=>(ze op !=ze o.op)||MP R i
 |none=>true) then 2 else m
def x9:Op->Bool
 | .alloc _=>true
 |_=>false
def Gc(E:Md)(R:Array Oper)(p:Nat):Bool:=match R[p]? with
 |some o=>x9 o.op&&o.guard.isNone&&o.dst.isSome&&(List.range R.size).all fun j=>match R[j]? with
  |some y=>decide (j=p)||y.apart R o||(List.range p).all fun i=>match R[i]? with
   |some x=> !(fG E x.op)||(decide (i<j)&&((masks R.toList []).getD j 0).testBit i)
   |none=>true
  |none=>true
 |none=>true
def Zq(E:Md)(R:Array Oper)(p j:Nat)(x y:Oper):Bool:= !(x.apart R y)||(!(decide (j=p))&&((fG E x.op&&fG E y.op)||jU E x.op||jU E y.op))
def Dv(E:Md)(R:Array Oper)(N p:Nat):Bool:=
 Gc E R p&&(List.range R.size).all fun j=>
  (match R[j]? with
   |some o=>o.after.toList.all (fun e=> !Region.binds .any e||decide (e.on<j))&&(match o.dst with|some d=>decide (d<N)|none=>true)
   |none=>true)&&
  (List.range j).all fun i=>
    match R[i]?,R[j]? with
    |some x,some y=>((masks R.toList []).getD j 0).testBit i|| !(Zq E R p j x y)
    |_,_=>true
def Ep(E:Md)(R:Array Oper)(N p:Nat):Bool:=
 Gc E R p&&(List.range R.size).all fun j=>
  (match R[j]? with
   |some o=>o.after.toList.all (fun e=> !Region.binds .any e||decide (e.on<j))&&(match o.dst with|some d=>decide (d<N)|none=>true)
   |none=>true)&&
  (List.range j).all fun i=>
    match R[i]?,R[j]? with
    |some x,some y=>((masks R.toList []).getD j 0).testBit i|| !(!(x.apart R y)||(!(decide (j=p))&&((fG E x.op&&fG E y.op)||(jU E x.op&& !(rZ R i x j y))||(jU E y.op&& !(rZ R j y i x)))))
    |_,_=>true
def acA(R:Array Oper)(p i:Nat):Bool:=
 (List.range R.size).all fun j=>decide (j=i)||decide (j=p)||(if j<i then((masks R.toList []).getD i 0).testBit j else((masks R.toList []).getD j 0).testBit i)
def KP(R:Array Oper)(p:Nat):Md:=fun op=>if(List.range R.size).all (fun i=>match R[i]? with
 |some o=>(ze op !=ze o.op)||acA R p i
 |none=>true) then 2 else 0
def JI(R:Array Oper)(p:Nat):Bool:=match R[p]? with
 |some o=>x9 o.op
 |none=>false
def pOf(R:Array Oper)(N:Nat):Option Nat:=(List.range R.size).find? fun p=>JI R p&&Dv (KP R p) R N p
def ah6(R:Array Oper)(N:Nat):Option Nat:=(List.range R.size).find? fun p=>JI R p&&Ep (KP R p) R N p
def KQ(R:Array Oper)(N:Nat):Md:=if za (yK R 1) R N then yK R 1 else match pOf R N with
 |some p=>KP R p
 |none=>if za (yK R 0) R N then yK R 0 else fun _=>0
def MQ(R:Array Oper)(N:Nat):Bool:=za (KQ R N) R N||match pOf R N with
 |some p=>Dv (KQ R N) R N p
 |none=>false
def r9(R:Array Oper)(N:Nat):Md:=if Du (yK R 1) R N then yK R 1 else match ah6 R N with
 |some p=>KP R p
 |none=>if Du (yK R 0) R N then yK R 0 else fun _=>0
def Er(R:Array Oper)(N:Nat):Bool:=Du (r9 R N) R N||match ah6 R N with
 |some p=>Ep (r9 R N) R N p
 |none=>false
section
variable {P:Program} {E:Md} {w w':World} {σ σ':Nat->Nat} {S S':Store} {β β':Hs} {N:Nat} {s:St} {a:Act} {R:Array Oper}
theorem Gd:∀(l:List Oper)(acc:List Nat)(i:Nat),i<acc.length->(masks l acc)[i]? =acc[i]?
 |[],acc,i,h=>rfl
 |o::os,acc,i,h=>by rw[masks,Gd os _ i (by simp;omega),List.getElem?_append_left h]
theorem QI:∀(l:List Oper)(acc:List Nat)(i:Nat)(o:Oper),l[i]? =some o->
 ∃acc',(∀j,j<acc.length+i->acc'[j]? =(masks l acc)[j]?)/\acc'.length=acc.length+i/\(masks l acc)[acc.length+i]? =some (vJ acc' o.after.toList)
 |[],acc,i,o,h=>by simp at h
 |x::os,acc,0,o,h=>by
  simp at h;subst h;refine⟨acc,fun j hj=> ?_,by simp,?_⟩
  ·rw[masks,Gd os _ j (by simp;omega),List.getElem?_append_left (by omega)]
  ·rw[masks,Nat.add_zero,Gd os _ _ (by simp),List.getElem?_append_right (Nat.le_refl _)];simp
 |x::os,acc,i+1,o,h=>by
  obtain⟨acc',h1,h2,h3⟩:=QI os (acc++[vJ acc x.after.toList]) i o (by simpa using h);refine⟨acc',fun j hj=> ?_,by rw[h2];simp;omega,?_⟩
  ·rw[masks];exact h1 j (by simp;omega)
  ·rw[masks,<-h3];congr 1;simp;omega
theorem Gf{acc:List Nat}{k:Nat}:∀(es:List Edge),(vJ acc es).testBit k=true->∃e∈es,Region.binds .any e=true/\(e.on=k\/(acc.getD e.on 0).testBit k=true)
 |[],h=>by simp[vJ] at h
 |e::es,h=>by
  rw[vJ,Nat.testBit_or,Bool.or_eq_true] at h;rcases h with h|h
  ·by_cases hb:Region.binds .any e=true
   ·rw[if_pos hb,Nat.testBit_or,Bool.or_eq_true] at h;refine⟨e,by simp,hb,?_⟩;rcases h with h|h
    ·left;rw[Nat.testBit_two_pow] at h;simpa using h
    ·exact .inr h
   ·rw[if_neg hb] at h;simp at h
  ·obtain⟨e',he',h'⟩:=Gf es h;exact⟨e',by simp[he'],h'⟩
theorem NW(E:Nat->Prop)(hE:∀i o e,R[i]? =some o->E i->e∈o.after->Region.binds .any e=true->E e.on)(hlt:∀i o e,R[i]? =some o->e∈o.after->Region.binds .any e=true->e.on<i):
 ∀(i:Nat)(o:Oper),R[i]? =some o->(∀e∈o.after,Region.binds .any e=true->E e.on)->∀k,((masks R.toList []).getD i 0).testBit k=true->E k:=by
 intro i
 induction i using Nat.strongRecOn with
 |_ i ih=>
  intro o ho hed k hk;obtain⟨acc',h1,h2,h3⟩:=QI R.toList [] i o (by simpa using ho);simp only[List.length_nil,Nat.zero_add] at h1 h2 h3;rw[List.getD_eq_getElem?_getD,h3] at hk;obtain⟨e,he,hb,hek⟩:=Gf _ hk
  have he':e∈o.after:=by simpa using he
  rcases hek with rfl|hek
  ·exact hed e he' hb
  ·have hon:=hlt i o e ho he' hb;have alL:=hed e he' hb;have hilt:i<R.size:=(Array.getElem?_eq_some_iff.1 ho).1;have hsome:R[e.on]? =some R[e.on]:=Array.getElem?_eq_getElem (by omega);refine ih e.on hon _ hsome (fun e2 he2 hb2=>hE e.on _ e2 hsome alL he2 hb2) k ?_;rw[List.getD_eq_getElem?_getD,h1 e.on (by omega)] at hek;rw[List.getD_eq_getElem?_getD];exact hek
def kF(R:Array Oper)(vs:Nat->V)(E:Nat->Bool)(base:List (Nat×V)):Nat->Nat->V
 |0,t=>look base t
 |k+1,t=>if E k=true/\fV R k=some t then vs k else kF R vs E base k t
theorem C8{vs:Nat->V}{E:Nat->Bool}{base:List (Nat×V)}{t i:Nat}:∀(n:Nat),(∀j,j<n->fV R j=some t->(E j=true<->j<i))->
 kF R vs E base n t=kF R vs (fun _=>true) base (min n i) t
 |0,_=>by simp[kF]
 |n+1,h=>by
  have ih:=C8 (vs:=vs) (base:=base) n (fun j hj hd=>h j (by omega) hd);rw[kF];by_cases hd:fV R n=some t
  ·by_cases hE:E n=true
   ·have hni:=(h n (by omega) hd).1 hE;rw[if_pos ⟨hE,hd⟩,show min (n+1) i=n+1 from by omega,kF,if_pos ⟨rfl,hd⟩]
   ·have hni:¬n<i:=fun hn=>hE ((h n (by omega) hd).2 hn);rw[if_neg (fun x=>hE x.1),ih,show min (n+1) i=min n i from by omega]
  ·rw[if_neg (fun x=>hd x.2),ih];by_cases hni:n<i
   ·rw[show min (n+1) i=n+1 from by omega,show min n i=n from by omega,kF,if_neg (fun x=>hd x.2)]
   ·rw[show min (n+1) i=min n i from by omega]
theorem yL{vs:Nat->V}{E E':Nat->Bool}{base:List (Nat×V)}{t:Nat}:∀(n:Nat),(∀j,j<n->fV R j=some t->E j=E' j)->kF R vs E base n t=kF R vs E' base n t
 |0,_=>rfl
 |n+1,h=>by
  rw[kF,kF,yL n (fun j hj hd=>h j (by omega) hd)];by_cases hd:fV R n=some t
  ·rw[h n (by omega) hd]
  ·rw[if_neg (fun x=>hd x.2),if_neg (fun x=>hd x.2)]
theorem Es{vs:Nat->V}{E:Nat->Bool}{base:List (Nat×V)}{t i:Nat}(hi:E i=true)(hd:fV R i=some t):∀(n:Nat),i<n->(∀j,j<n->i<j->fV R j=some t->E j=false)->kF R vs E base n t=vs i
 |0,h,_=>by omega
 |n+1,h,hj=>by
  rw[kF];by_cases hin:i=n
  ·subst hin;rw[if_pos ⟨hi,hd⟩]
  ·have:¬(E n=true/\fV R n=some t):=fun x=>by
    have:=hj n (by omega) (by omega) x.2;rw[this] at x;simp at x
   rw[if_neg this];exact Es hi hd n (by omega) (fun j hjn hij hdj=>hj j (by omega) hij hdj)
theorem Jb{o:Oper}{s:St}{K:St->Prop}(h:oq P E R o s K):∃v s',lC P E R o s v s'/\K s':=by
 have hN:∀(hg:gd R o s.tm=some true),fJ P E o s K->∃v s',lC P E R o s v s'/\K s':=by
  intro hg hx;unfold fJ at hx;by_cases hD:qH o.op=true
  ·rw[if_pos hD] at hx;obtain⟨S',v,h1,h2⟩:=aco hD hx;exact⟨v,_,.inr (.inr ⟨hg,acn hD,h1,by rw[kM],fun h=>by rw[hD] at h;cases h⟩),h2⟩
  ·rw[if_neg hD] at hx
   have hD':qH o.op=false:=by simpa using hD
   split at hx
   ·rename_i x args wS hop
    have hcv:jl o.op=true:=by rw[hop];rfl
    rw[<-hop] at hx;split at hx
    ·rename_i hE;obtain⟨r,h1,h2⟩:=hx;exact⟨r,_,.inr (.inl ⟨hg,by unfold fG;rw[hD',hE];rfl,.inl ⟨_,hop,h1⟩,rfl⟩),h2⟩
    ·rename_i hE;obtain⟨S',v,h0,h1,h2⟩:=hx;exact⟨v,_,.inr (.inr ⟨hg,by unfold fG;rw[hE,hcv];simp,h1,by rw[kM],fun _ _=>by rw[kM];exact h0⟩),h2⟩
    ·rename_i hE0 hE1;obtain⟨S',v,h1,h2⟩:=hx
     have h3:2<=E o.op:=by
      rcases Nat.lt_or_ge (E o.op) 2 with h|h
      ·exfalso
       have:E o.op=0\/E o.op=1:=by omega
       exact this.elim hE0 hE1
      ·exact h
     exact⟨v,_,.inr (.inr ⟨hg,by unfold fG;rw[hcv,Bool.and_true,Bool.or_eq_true,decide_eq_true_eq];exact .inr (by omega),h1,by rw[kM],fun _ h=>by
      unfold jU at h;rw[hcv,Bool.and_true,Bool.or_eq_false_iff,decide_eq_false_iff_not] at h
      exact absurd h3 h.2⟩),h2⟩
   ·rename_i hne;refine⟨_,_,.inr (.inl ⟨hg,?_,.inr ⟨hx.1,rfl⟩,rfl⟩),hx.2⟩
    have:jl o.op=false:=by
     cases hc:jl o.op with
     |false=>rfl
     |true=>
      exfalso;unfold jl at hc;split at hc
      ·rename_i x a b ho;exact hne _ _ _ ho
      ·cases hc
    unfold fG;rw[hD',this];simp
 unfold oq at h;split at h
 ·rename_i hg;exact hN (by simp only[gd,hg]) h
 ·rename_i j want hg;split at h
  ·rename_i x hx;by_cases e:x=want
   ·exact hN (by simp only[gd,hg,hx,e,beq_self_eq_true]) (h.1 e)
   ·exact⟨.eD [],_,.inl ⟨by simp only[gd,hg,hx];simp[e],rfl,rfl⟩,h.2 (by cases x<;>cases want<;>simp_all)⟩
  ·rename_i hx;exact⟨.eD [],_,.inl ⟨by simp only[gd,hg,hx],rfl,rfl⟩,h⟩
  ·exact h.elim
theorem Gg{F:Oper->St->St->Prop}{D:List Oper->St->Prop}{K:St->Prop}(hnil:∀s,D [] s->K s)(afF:∀o os s,D (o::os) s->∃v s',lC P E R o s v s'/\F o s s'/\D os s'):∀(n k:Nat),k+n=R.size->∀s,D (R.toList.drop k) s->
 ∃(st:Nat->St) (vs:Nat->V),st k=s/\K (st R.size)/\∀i,k<=i->i<R.size->∃o,R[i]? =some o/\lC P E R o (st i) (vs i) (st (i+1))/\F o (st i) (st (i+1))
 |0,k,hk,s,h=>by
  have:R.toList.drop k=[]:=by apply List.drop_eq_nil_of_le;simp;omega
  rw[this] at h;exact⟨fun _=>s,fun _=>.any,rfl,hnil s h,fun i h1 h2=>by omega⟩
 |n+1,k,hk,s,h=>by
  have hlt:k<R.toList.length:=by simp;omega
  rw[List.drop_eq_getElem_cons hlt] at h
  have hRk:R[k]? =some R.toList[k]:=by
   rw[Array.getElem?_eq_getElem (by omega)];simp
  obtain⟨v,s',ht,hf,hd⟩:=afF _ _ s h;obtain⟨st,vs,h1,h2,h3⟩:=Gg hnil afF n (k+1) (by omega) s' hd;refine⟨fun i=>if i=k then s else st i,fun i=>if i=k then v else vs i,by simp,?_,fun i hi1 hi2=> ?_⟩
  ·have:R.size≠k:=by omega
   simp only[if_neg this];exact h2
  ·by_cases e:i=k
   ·subst e;refine⟨_,hRk,?_⟩;simp only[if_true]
    have:i+1≠i:=by omega
    simp only[if_neg this,h1];exact⟨ht,hf⟩
   ·obtain⟨o,ho,ht'⟩:=h3 i (by omega) hi2;refine⟨o,ho,?_⟩
    have:i+1≠k:=by omega
    simp only[if_neg e,if_neg this];exact ht'
theorem Et{K:St->Prop}(n k:Nat)(hk:k+n=R.size)(s:St)(h:rJ P E R (R.toList.drop k) s K):
 ∃(st:Nat->St) (vs:Nat->V),st k=s/\K (st R.size)/\∀i,k<=i->i<R.size->∃o,R[i]? =some o/\lC P E R o (st i) (vs i) (st (i+1)):=by
 obtain⟨st,vs,h1,h2,h3⟩:=Gg (F:=fun _ _ _=>True) (D:=fun os s=>rJ P E R os s K) (fun _ h=>h) (fun o os s h=>by
  obtain⟨v,s',a,b⟩:=Jb h
  exact⟨v,s',a,trivial,b⟩) n k hk s h
 exact⟨st,vs,h1,h2,fun i a b=>by
  obtain⟨o,c,d,_⟩:=h3 i a b
  exact⟨o,c,d⟩⟩
theorem acB{o:Oper}{s s':St}{v:V}(h:lC P E R o s v s'):s'=St.put ⟨s.tm,s'.st⟩ o.dst v:=by
 rcases h with⟨_,_,h⟩|⟨_,_,_,h⟩|⟨_,_,_,h,_⟩
 ·rw[h];cases o.dst<;>rfl
 ·rw[h];cases o.dst<;>rfl
 ·exact h
theorem acC{o:Oper}{s s':St}{v:V}(h:lC P E R o s v s')(hD:fG E o.op=false):s'.st=s.st:=by
 rcases h with⟨_,_,h⟩|⟨_,_,_,h⟩|⟨_,h,_,_⟩
 ·rw[h];cases o.dst<;>rfl
 ·rw[h];cases o.dst<;>rfl
 ·rw[hD] at h;cases h
theorem zf{st:Nat->St}{vs:Nat->V}(h:∀i,i<R.size->∃o,R[i]? =some o/\lC P E R o (st i) (vs i) (st (i+1)))(t:Nat):∀i,i<=R.size->look (st i).tm t=kF R vs (fun _=>true) (st 0).tm i t
 |0,_=>rfl
 |i+1,hi=>by
  obtain⟨o,ho,ht⟩:=h i (by omega);have e:=acB ht;have ih:=zf h t i (by omega);rw[kF,<-ih]
  have hdst:fV R i=o.dst:=by simp[fV,ho]
  rw[hdst,e]
  cases hd:o.dst with
  |none=>simp[St.put]
  |some d=>
   simp only[St.put,look,true_and,Option.some.injEq]
theorem DS.refl(S:Store):DS S S:=fun _ _ h=>.inl h
theorem DS.trans{S1 S2 S3:Store}(h:DS S1 S2)(k:DS S2 S3):DS S1 S3:=by
 intro x o hx;rcases h x o hx with h1|⟨h1,o',z,es,h2,h2'⟩
 ·exact k x o h1
 ·rcases k x _ h2 with h3|⟨_,h3⟩
  ·exact .inr ⟨h1,o',z,es,h3,h2'⟩
  ·exact .inr ⟨h1,h3⟩
theorem DS.push{own:List Obj}{Ω:Store}{o:Obj}:DS (own::Ω) ((own++[o])::Ω):=fun k o' h=>.inl (jo _ _ _ _ _ h)
theorem qW{dst:Option Nat}{o:Obj}{mk:Key->V}{s':St}(h:newObj s dst o mk (fun t=>t=s')):DS s.st s'.st:=by
 unfold newObj at h;split at h
 ·rename_i own Ω hst;rw[<-h,kM,hst];exact DS.push
 ·exact h.elim
theorem agi{b:Bool}{es x:List (List D)}{z:Nat}{dst:Option Nat}{s':St}(h:zJ b es s dst z x (fun t=>t=s')):DS s.st s'.st:=by
 cases b with
 |false=>exact qW (o:=.tok z x) (mk:=fun k=>.c (.bV k x)) h
 |true=>exact qW (o:=.eZ z x) (mk:=fun k=>.c (.iU k)) h.2
theorem agj{l:Option Nat}{es x:List (List D)}{z:Nat}{dst:Option Nat}{s':St}(h:A9 l es s dst z x (fun t=>t=s')):DS s.st s'.st:=by
 cases l with
 |none=>exact agi h
 |some n=>
  cases es with
  |nil=>
   have h:St.put ⟨s.tm,s.st⟩ dst (.c (.d (.ol n x)))=s':=h;rw[<-h,kM];exact DS.refl _
  |cons y es=>exact qW (o:=.tok z x) (mk:=fun k=>.c (.bV k x)) h
theorem agk{b:Bool}{n:Nat}{x:List (List D)}{z:Nat}{dst:Option Nat}{s':St}(h:CX b n s dst z x (fun t=>t=s')):DS s.st s'.st:=by
 cases b with
 |false=>exact qW (o:=.jD n z x) (mk:=fun k=>.c (.bV k x)) h
 |true=>
  have h:St.put ⟨s.tm,s.st⟩ dst (.c (.d (.ol n x)))=s':=h;rw[<-h,kM];exact DS.refl _
theorem acD{o:Oper}{s s':St}(hD:qH o.op=true)(hs:xZ o.op=false)(h:dw P o s (fun t=>t=s')):DS s.st s'.st:=by
 obtain⟨dst,op,ty,pos,after,guard⟩:=o
 cases op with
 |alloc t=>
  simp only[dw,tO] at h;split at h
  ·exact qW h
  ·exact h.elim
 |box t x=>
  simp only[dw,A8] at h;split at h
  ·exact qW h
  ·exact h.elim
 |makeSlice t l c=>
  simp only[dw,wP] at h;split at h
  ·split at h
   ·exact qW h.2.2.2.2.2
   ·exact h.elim
  ·exact h.elim
 |store t x y=>simp[xZ] at hs
 |mapUpdate t x y z=>simp[xZ] at hs
 |makeMap t r=>
  cases r with
  |none=>
   simp only[dw,sM] at h;exact qW h
  |some r=>simp[qH] at hD
 |call c=>
  obtain⟨y9,args,wS⟩:=c
  cases y9 with
  |builtin b=>
   cases b with
   |append=>
    simp only[dw,mH] at h;split at h
    ·simp only[qG] at h;split at h
     ·obtain⟨h1,h2,h3,h4⟩:=h;split at h4
      ·rename_i k es hex;split at h4
       ·rename_i z es' hk;obtain⟨k1,k2,k3,k4⟩:=h4;rw[<-k4,kM];intro k' o' ho';by_cases e:k'=k
        ·subst e;rw[hk] at ho';cases ho';exact .inr ⟨⟨_,_,.inl rfl⟩,_,_,_,cO _ _ _ _ hk,.inl rfl⟩
        ·exact .inl ((eX _ _ _ _ (Ne.symm e)).trans ho')
       ·rename_i n z es' hk;obtain⟨k1,k2,k3,k4⟩:=h4;rw[<-k4,kM];intro k' o' ho';by_cases e:k'=k
        ·subst e;rw[hk] at ho';cases ho';exact .inr ⟨⟨_,_,.inr ⟨_,rfl⟩⟩,_,_,_,cO _ _ _ _ hk,.inr ⟨_,rfl⟩⟩
        ·exact .inl ((eX _ _ _ _ (Ne.symm e)).trans ho')
       ·exact h4.elim
      ·exact agj h4.2.2
      ·exact agk h4.2.2
      ·exact h4.elim
     ·exact h.elim
    ·exact h.elim
   |_=>simp[qH] at hD
  |_=>simp[qH] at hD
 |_=>simp[qH] at hD
theorem acE{o:Oper}{s s':St}{v:V}(h:lC P E R o s v s')(hs:jU E o.op=false):DS s.st s'.st:=by
 rcases h with⟨_,_,h⟩|⟨_,_,_,h⟩|⟨_,hD,h,_,hc⟩
 ·rw[h];cases o.dst<;>exact DS.refl _
 ·rw[h];cases o.dst<;>exact DS.refl _
 ·cases hd:qH o.op with
  |true=>exact acD hd (by unfold jU at hs;rw[Bool.or_eq_false_iff] at hs;exact hs.1) h
  |false=>exact hc hd hs
theorem Dw{st:Nat->St}{vs:Nat->V}(h:∀i,i<R.size->∃o,R[i]? =some o/\lC P E R o (st i) (vs i) (st (i+1))){i:Nat}:∀(m:Nat),i+m<=R.size->(∀j o,i<=j->j<i+m->R[j]? =some o->fG E o.op=false)->(st (i+m)).st=(st i).st
 |0,_,_=>rfl
 |m+1,hm,hj=>by
  obtain⟨o,ho,ht⟩:=h (i+m) (by omega);rw[show i+(m+1)=i+m+1 from rfl,acC ht (hj _ o (by omega) (by omega) ho)];exact Dw h m (by omega) (fun j o h1 h2 h3=>hj j o h1 (by omega) h3)
def KS(k:Key)(S S':Store):Prop:=∀o,bn S k=some o->bn S' k=some o\/((∃z es,rD o z es)/\∃o' z es,bn S' k=some o'/\rD o' z es)
theorem KS.trans{k:Key}{S1 S2 S3:Store}(h:KS k S1 S2)(h':KS k S2 S3):KS k S1 S3:=by
 intro o hx;rcases h o hx with h1|⟨h1,o',z,es,h2,h2'⟩
 ·exact h' o h1
 ·rcases h' _ h2 with h3|⟨_,h3⟩
  ·exact .inr ⟨h1,o',z,es,h3,h2'⟩
  ·exact .inr ⟨h1,h3⟩
theorem Wy{st:Nat->St}{vs:Nat->V}(h:∀i,i<R.size->∃o,R[i]? =some o/\lC P E R o (st i) (vs i) (st (i+1))){i:Nat}{k:Key}:∀(m:Nat),i+m<=R.size->
 (∀j o,i<=j->j<i+m->R[j]? =some o->jU E o.op=false\/bn (st (j+1)).st k=bn (st j).st k)->KS k (st i).st (st (i+m)).st
 |0,_,_=>fun _ hx=>.inl hx
 |m+1,hm,hj=>by
  obtain⟨o,ho,ht⟩:=h (i+m) (by omega);refine(Wy h m (by omega) (fun j o h1 h2 h3=>hj j o h1 (by omega) h3)).trans ?_;rcases hj _ o (by omega) (by omega) ho with hs|hs
  ·exact acE ht hs k
  ·intro x hx;exact .inl (hs.trans hx)
theorem cnt_lt(p q:Nat->Bool):∀(l:List Nat)(i:Nat),(∀x,q x=true->p x=true)->i∈l->p i=true->q i=false->l.countP q<l.countP p
 |[],_,_,h,_,_=>by simp at h
 |x::l,i,h,hi,hp,hq=>by
  rw[List.countP_cons,List.countP_cons];have hle:l.countP q<=l.countP p:=List.countP_mono_left (fun y _ hy=>h y hy);rcases List.mem_cons.1 hi with rfl|hi
  ·rw[hp,hq];simp;omega
  ·have ih:=cnt_lt p q l i h hi hp hq;by_cases hx:q x=true
   ·rw[hx,h x hx];simp;exact ih
   ·have:q x=false:=by simpa using hx
    rw[this];simp
    split<;>omega
end
section
variable {P:Program} {E:Md} {N:Nat} {R:Array Oper}
def mJ(E:Md)(R:Array Oper)(p:Nat)(listed:Array Bool):Prop:=listed.getD p false=true/\p<R.size/\∃j x,j<p/\R[j]? =some x/\fG E x.op=true/\listed.getD j false=false
def Raw(P:Program)(R:Array Oper)(p:Nat)(w0 w:World)(σ:Nat->Nat)(S:Store)(β:Hs)(v:Value):Prop:=
 ∃b c ty,v=.pointer (some ⟨b,0,none⟩)/\w.heap[b]? =some (.cells c ty (0,0))/\σ b=0/\w0.heap.size<=b/\¬Own S β b/\
  ∀o t zs,R[p]? =some o->o.op=.alloc t->iK P t=some zs->∀w σ S β,fO w σ S β zs c.toList
open Classical in
noncomputable def tC(E:Md)(R:Array Oper)(p:Nat)(vs:Nat->V)(listed:Array Bool)(base:List (Nat×V))(t:Nat):V:=
 if mJ E R p listed/\fV R p=some t then .any else kF R vs (fun i=>listed.getD i false) base R.size t
structure Mid(P:Program)(N:Nat)(E:Md)(R:Array Oper)(p:Nat)(st:Nat->St)(vs:Nat->V)(β0:Hs)(σ0:Nat->Nat)(w0:World)(listed:Array Bool)(a:Act)(w:World):Prop where
 size:listed.size=R.size
 closed:∀i o e,R[i]? =some o->listed.getD i false=true->e∈o.after->Region.binds .any e=true->listed.getD e.on false=true
 rep:∃m,m<=R.size/\(∀i o,R[i]? =some o->fG E o.op=true->(i=p->¬mJ E R p listed)->(listed.getD i false=true<->i<m))/\∃σ β,a.tmps.size=N/\a.defers=[]/\eG w σ (st m).st β/\
  (∀t,dN w σ (st m).st β (tC E R p vs listed (st 0).tm t) (a.tmps.getD t undef))/\Step (st 0).st β0 σ0 w0 (st m).st β σ w/\Keep (st 0).st β0 (st m).st β/\
  (mJ E R p listed->m<=p/\∀d,fV R p=some d->Raw P R p w0 w σ (st m).st β (a.tmps.getD d undef))
theorem O7{o:Oper}{x:Operand}{t:Nat}(hx:x∈o.op.operands)(e:x=.tmp t):t∈o.looksAt R:=by
 subst e;exact List.mem_append_left _ (List.mem_filterMap.2 ⟨.tmp t,by simpa using hx,rfl⟩)
theorem Tq{o:Oper}{g d:Nat}{want:Bool}(hg:o.guard=some (g,want))(hd:fV R g=some d):d∈o.looksAt R:=by
 refine List.mem_append_right _ ?_;rw[hg];show d∈((R[g]?).bind (·.dst)).toList;unfold fV at hd
 rw[hd];simp
theorem Bc(h:za E R N=true){i j:Nat}{x y:Oper}(hij:i<j)(hx:R[i]? =some x)(hy:R[j]? =some y)(hc:clash E R x y=true):((masks R.toList []).getD j 0).testBit i=true:=by
 have hj:j<R.size:=(Array.getElem?_eq_some_iff.1 hy).1;have h1:=List.all_eq_true.1 h j (List.mem_range.2 hj);rw[Bool.and_eq_true] at h1;have h2:=List.all_eq_true.1 h1.2 i (List.mem_range.2 hij);rw[hx,hy] at h2;simp only[hc,Bool.not_true,Bool.or_false] at h2;exact h2
theorem QJ(h:za E R N=true){i:Nat}{o:Oper}{e:Edge}(ho:R[i]? =some o)(he:e∈o.after)(hb:Region.binds .any e=true):e.on<i:=by
 have hj:i<R.size:=(Array.getElem?_eq_some_iff.1 ho).1;have h1:=List.all_eq_true.1 h i (List.mem_range.2 hj);rw[Bool.and_eq_true,ho] at h1;have h2:=h1.1;simp only[Bool.and_eq_true] at h2;have h3:=List.all_eq_true.1 h2.1 e (by simpa using he);simpa [hb] using h3
theorem Tt(h:za E R N=true){i:Nat}{o:Oper}(ho:R[i]? =some o):∀d,o.dst=some d->d<N:=by
 intro d hd;have hj:i<R.size:=(Array.getElem?_eq_some_iff.1 ho).1;have h1:=List.all_eq_true.1 h i (List.mem_range.2 hj);rw[Bool.and_eq_true,ho] at h1;have h2:=h1.1;simp only[Bool.and_eq_true,hd] at h2;simpa using h2.2
theorem Wz{x y:Oper}:x.apart R y=y.apart R x:=by
 rw[Bool.eq_iff_iff]
 have key:∀x y:Oper,x.apart R y=true->y.apart R x=true:=fun x y h=>by
  obtain⟨h1,h2,h3⟩:=Oper.apart_spec h;unfold Oper.apart
  cases hx:x.dst<;>cases hy:y.dst<;>simp
  ·rename_i d;exact h3 d hy
  ·rename_i d;exact h1 d hx
  ·rename_i d d';exact⟨⟨h3 d' hy,fun e=>h2 d hx (by rw[hy,e])⟩,h1 d hx⟩
 exact⟨key x y,key y x⟩
theorem Tv{x y:Oper}:lW E R x y=lW E R y x:=by
 unfold lW;rw[Wz,Bool.and_comm (fG E x.op)]
def WA:Op->Bool
 | .move _=>true
 |_=>false
theorem acF{P:Program}{l:Option Nat}{S S':Store}{tm:List (Nat×V)}{op:Op}(h:WA op=true):mG P l S' tm op=mG P l S tm op:=by
 cases op<;>first|rfl|cases h
def refs(tm:List (Nat×V))(o:Oper)(k:Key):Prop:=WA o.op=false/\∃x∈o.op.operands,Ik (ev tm x) k
structure KR(E:Md)(R:Array Oper)(N:Nat)(st:Nat->St)(p:Nat):Prop where
 edge:∀(i:Nat)(o:Oper)(e:Edge),R[i]? =some o->e∈o.after->Region.binds .any e=true->e.on<i
 dst:∀(i:Nat)(o:Oper),R[i]? =some o->∀d,o.dst=some d->d<N
 pair:∀(i j:Nat)(x y:Oper),i<j->R[i]? =some x->R[j]? =some y->lW E R x y=true->((masks R.toList []).getD j 0).testBit i=true\/(j=p/\fG E x.op=true/\x.apart R y=true)
 store:∀(i j:Nat)(x o:Oper),i≠j->R[i]? =some x->R[j]? =some o->jU E x.op=true->fG E o.op=false->jl o.op=false->
  rM R i j=true\/∀k,refs (st j).tm o k->bn (st (i+1)).st k=bn (st i).st k
 pend:∀o,R[p]? =some o->x9 o.op=true/\o.guard=none/\(∃d,o.dst=some d)/\∀j y,j≠p->R[j]? =some y->y.apart R o=false->∀i x,i<p->R[i]? =some x->fG E x.op=true->i<j/\((masks R.toList []).getD j 0).testBit i=true
theorem ah8{st:Nat->St}(h:za E R N=true):KR E R N st R.size where
 edge:=fun i o e h1 h2 h3=>QJ h h1 h2 h3
 dst:=fun i o h1=>Tt h h1
 pair:=fun i j x y hij hx hy hc=>.inl (Bc h hij hx hy (by
  unfold lW at hc;unfold clash
  rw[hc];rfl))
 store:=fun i j x o hij hx ho hs hD hc=>.inl (by
  unfold rM;by_cases e:i<j
  ·rw[if_pos e];exact Bc h e hx ho (by unfold clash;rw[hs];simp)
  ·rw[if_neg e]
   exact Bc h (show j<i by omega) ho hx (by unfold clash;rw[hs];simp))
 pend:=fun o ho=>by rw[Array.getElem?_eq_none (Nat.le_refl _)] at ho;cases ho
theorem MR{p:Nat}(h:Gc E R p=true):∀o,R[p]? =some o->x9 o.op=true/\o.guard=none/\(∃d,o.dst=some d)/\∀j y,j≠p->R[j]? =some y->y.apart R o=false->∀i x,i<p->R[i]? =some x->fG E x.op=true->i<j/\((masks R.toList []).getD j 0).testBit i=true:=by
 intro o ho;unfold Gc at h;rw[ho] at h;simp only[Bool.and_eq_true] at h;obtain⟨⟨⟨h1,h2⟩,h3⟩,h4⟩:=h;refine⟨h1,by simpa using h2,Option.isSome_iff_exists.1 h3,fun j y hj hy hap i x hi hx hD=> ?_⟩;have hjl:j<R.size:=(Array.getElem?_eq_some_iff.1 hy).1;have h5:=List.all_eq_true.1 h4 j (List.mem_range.2 hjl);rw[hy] at h5;simp only[hap,hj,decide_false,Bool.false_or] at h5;have h6:=List.all_eq_true.1 h5 i (List.mem_range.2 hi);rw[hx] at h6;simpa [hD] using h6
theorem tX{o:Oper}(h:x9 o.op=true):fG E o.op=true/\jU E o.op=false/\jl o.op=false:=by
 obtain⟨dst,op,ty,pos,after,guard⟩:=o;cases op<;>simp_all[x9,fG,qH,jU,xZ,jl]
theorem agl{st:Nat->St}{p:Nat}(h0:Dv E R N p=true):KR E R N st p:=by
 unfold Dv at h0;rw[Bool.and_eq_true] at h0;obtain⟨hp,h⟩:=h0;have xQ:=MR hp
 have hpr:∀(i j:Nat)(x y:Oper),i<j->R[i]? =some x->R[j]? =some y->((masks R.toList []).getD j 0).testBit i=true\/(x.apart R y=true/\(j=p\/((fG E x.op&&fG E y.op)=false/\jU E x.op=false/\jU E y.op=false))):=by
  intro i j x y hij hx hy;have hj:j<R.size:=(Array.getElem?_eq_some_iff.1 hy).1;have h1:=List.all_eq_true.1 h j (List.mem_range.2 hj);rw[Bool.and_eq_true] at h1;have h2:=List.all_eq_true.1 h1.2 i (List.mem_range.2 hij);rw[hx,hy] at h2;simp only[Zq] at h2;rw[Bool.or_eq_true] at h2;rcases h2 with h2|h2
  ·exact .inl h2
  ·right;rw[Bool.not_eq_true',Bool.or_eq_false_iff,Bool.not_eq_false'] at h2;refine⟨h2.1,?_⟩;by_cases e:j=p
   ·exact .inl e
   ·right;have h3:=h2.2;simp only[e,decide_false,Bool.not_false,Bool.true_and,Bool.or_eq_false_iff] at h3;exact⟨h3.1.1,h3.1.2,h3.2⟩
 refine⟨?_,?_,?_,?_,xQ⟩
 ·intro i o e ho he hb;have hj:i<R.size:=(Array.getElem?_eq_some_iff.1 ho).1;have h1:=List.all_eq_true.1 h i (List.mem_range.2 hj);rw[Bool.and_eq_true,ho] at h1;have h2:=h1.1;simp only[Bool.and_eq_true] at h2;have h3:=List.all_eq_true.1 h2.1 e (by simpa using he);simpa [hb] using h3
 ·intro i o ho d hd;have hj:i<R.size:=(Array.getElem?_eq_some_iff.1 ho).1;have h1:=List.all_eq_true.1 h i (List.mem_range.2 hj);rw[Bool.and_eq_true,ho] at h1;have h2:=h1.1;simp only[Bool.and_eq_true,hd] at h2;simpa using h2.2
 ·intro i j x y hij hx hy hc;rcases hpr i j x y hij hx hy with h1|⟨h1,h2⟩
  ·exact .inl h1
  ·rcases h2 with h2|⟨h2,_,_⟩
   ·right;unfold lW at hc;rw[h1] at hc;simp only[Bool.not_true,Bool.false_or,Bool.and_eq_true] at hc;exact⟨h2,hc.1,h1⟩
   ·unfold lW at hc;rw[h1,h2] at hc;cases hc
 ·intro i j x o hij hx ho hs hD hc
  have hjp:j≠p:=fun e=>by
   subst e;have:=(tX (E:=E) (xQ o ho).1).1;rw[hD] at this;cases this
  have NY:i≠p:=fun e=>by
   subst e;have:=(tX (E:=E) (xQ x hx).1).2.1;rw[hs] at this;cases this
  left;unfold rM;by_cases e:i<j
  ·rw[if_pos e];rcases hpr i j x o e hx ho with h1|⟨_,h2⟩
   ·exact h1
   ·rcases h2 with h2|⟨_,h2,_⟩
    ·exact absurd h2 hjp
    ·rw[hs] at h2;cases h2
  ·rw[if_neg e];rcases hpr j i o x (by omega) ho hx with h1|⟨_,h2⟩
   ·exact h1
   ·rcases h2 with h2|⟨_,_,h2⟩
    ·exact absurd h2 NY
    ·rw[hs] at h2;cases h2
theorem Oper.Zr{o:Oper}{a:Act}{w:World}{K:Act->World->Prop}{Q:Exit->Act->World->Prop}(hh:o.wp P a w K Q):o.wp P a w (fun a' w'=>K a' w'/\∀d,o.dst≠some d->a'.tmps.getD d undef=a.tmps.getD d undef) Q:=by
 have key:∀(ds:List Deferred)(v:Value)(d:Nat),o.dst≠some d->(({a with defers:=ds}:Act).put o.dst v).tmps.getD d undef=a.tmps.getD d undef:=by
  intro ds v d hd
  cases ho:o.dst with
  |none=>rfl
  |some e=>
   have hne:e≠d:=fun x=>hd (by rw[ho,x]);simp only[Act.put,Array.getD_eq_getD_getElem?];rw[Array.getElem?_setIfInBounds_ne hne]
 unfold Oper.wp at *
 generalize (execOp a.eval o).run P w=r at *
 cases r with
 |ok n w'=>
  cases n<;>simp only[Oper.upon] at hh ⊢ <;>
   first
    |exact⟨hh,fun d hd=>key _ _ d hd⟩
    |exact Calls.mono hh (fun e w'' he=>by cases e<;>first|exact⟨he,fun d hd=>key _ _ d hd⟩|exact he)
    |exact Rows.mono hh (fun _ _ he=>⟨he,fun d hd=>key _ _ d hd⟩)
 |halt x w'=>cases x<;>simp only[Oper.upon] at hh ⊢ <;>exact hh
theorem Gh{a:Act}{dst:Option Nat}{v:Value}{d:Nat}(h:dst≠some d):(a.put dst v).tmps.getD d undef=a.tmps.getD d undef:=by
 cases dst with
 |none=>rfl
 |some e=>
  have hne:e≠d:=fun x=>h (by rw[x]);simp only[Act.put,Array.getD_eq_getD_getElem?];rw[Array.getElem?_setIfInBounds_ne hne]
theorem acG{t:TypeId}{zs:List C}(h:iK P t=some zs):∃z:Value,(∀w,(zeroValue t).run P w=.ok z w)/\∀w σ S β,fO w σ S β zs z.cells.toList:=by
 unfold iK at h
 cases hi:P.info? t with
 |none=>rw[hi] at h;cases h
 |some i=>
  rw[hi] at h
  cases hz:i.zero with
  |none=>simp[hz] at h
  |some z=>
   simp only[Option.bind_some,hz] at h;split at h
   ·rename_i hall;cases h;refine⟨z,fun w=>by simp[zeroValue,typeInfo,hi,hz],fun w σ S β=>⟨by simp,fun j x hx=> ?_⟩⟩;rw[List.getElem?_map] at hx
    cases hv:z.cells.toList[j]? with
    |none=>rw[hv] at hx;cases hx
    |some v=>
     rw[hv] at hx;cases hx;exact⟨v,rfl,Aa _ _ _ _ _,List.all_eq_true.1 hall v (List.mem_of_getElem? hv)⟩
   ·cases h
theorem acH{w w0:World}{σ σ0:Nat->Nat}{S0:Store}{β0:Hs}{own:List Obj}{Ω:Store}{β:Hs}{zs:List C}{b:Nat}{c:Array Value}{ty:TypeId}(hS:eG w σ (own::Ω) β)(hst:Step S0 β0 σ0 w0 (own::Ω) β σ w)(hb:w.heap[b]? =some (.cells c ty (0,0)))(hσ:σ b=0)
 (h0:w0.heap.size<=b)(hno:¬Own (own::Ω) β b)(hz:∀w σ S β,fO w σ S β zs c.toList):
 ∃bo bΩ,β=bo::bΩ/\bo.length=own.length/\eG w σ ((own++[.box zs])::Ω) ((bo++[Value.pointer (some ⟨b,0,none⟩)])::bΩ)/\Keep (own::Ω) β ((own++[.box zs])::Ω) ((bo++[Value.pointer (some ⟨b,0,none⟩)])::bΩ)/\
  Step S0 β0 σ0 w0 ((own++[.box zs])::Ω) ((bo++[Value.pointer (some ⟨b,0,none⟩)])::bΩ) σ w:=by
 cases β with
 |nil=>have:=hS.shape.1;simp at this
 |cons bo bΩ=>
 have hlen:bo.length=own.length:=by
  obtain⟨gr,g1,g2⟩:=hS.shape.2 0 own rfl;simp at g1;rw[g1];exact g2
 refine⟨bo,bΩ,rfl,hlen,?_⟩
 have hkeep:Keep (own::Ω) (bo::bΩ) ((own++[.box zs])::Ω) ((bo++[Value.pointer (some ⟨b,0,none⟩)])::bΩ):=by
  intro k o1 h1;obtain⟨h2,xP,_⟩:=hS.obj k o1 h1;exact⟨o1,jo _ _ _ _ _ h1,by rw[jo _ _ _ _ _ xP,xP];exact .refl _ _⟩
 have hinv:∀k o1 h1,bn ((own++[Obj.box zs])::Ω) k=some o1->bn ((bo++[Value.pointer (some ⟨b,0,none⟩)])::bΩ) k=some h1->
  (bn (own::Ω) k=some o1/\bn (bo::bΩ) k=some h1)\/(k=(0,own.length)/\o1=.box zs/\h1=Value.pointer (some ⟨b,0,none⟩)):=by
  intro k o1 h1 e1 e2;rcases kE _ _ _ _ _ e1 with e1|⟨rfl,rfl⟩
  ·left;refine⟨e1,?_⟩;rcases kE _ _ _ _ _ e2 with e2|⟨rfl,rfl⟩
   ·exact e2
   ·rw[bK,hlen] at e1;have:=(List.getElem?_eq_some_iff.1 e1).1;omega
  ·right;rw[<-hlen,dB] at e2;exact⟨rfl,rfl,(Option.some.inj e2).symm⟩
 have hown:∀x,Own ((own++[Obj.box zs])::Ω) ((bo++[Value.pointer (some ⟨b,0,none⟩)])::bΩ) x->Own (own::Ω) (bo::bΩ) x\/x=b:=by
  rintro x ⟨k,o,h,e1,e2,e3⟩;rcases hinv k o h e1 e2 with⟨f1,f2⟩|⟨rfl,rfl,rfl⟩
  ·exact .inl ⟨k,o,h,f1,f2,e3⟩
  ·right;cases e3;rfl
 have hmono:∀k o h,bn (own::Ω) k=some o->bn (bo::bΩ) k=some h->gJ w σ ((own::Ω).drop k.1) ((bo::bΩ).drop k.1) o h->gJ w σ (((own++[Obj.box zs])::Ω).drop k.1) (((bo++[Value.pointer (some ⟨b,0,none⟩)])::bΩ).drop k.1) o h:=
  fun k o h _ _ hr=>hr.mono (fq.refl _ _) (hkeep.drop _) fun x _=>⟨rfl,rfl⟩
 refine⟨⟨?_,?_,⟨?_,?_⟩,hS.live,hS.wJ⟩,hkeep,⟨hst.size,hst.os,hst.output,fun x hx hn=>hst.far x hx hn,hst.near,fun x hx=> ?_⟩⟩
 ·intro k o1 h1;rcases kE _ _ _ _ _ h1 with h1|⟨rfl,rfl⟩
  ·obtain⟨h2,xP,hr⟩:=hS.obj k o1 h1;exact⟨h2,jo _ _ _ _ _ xP,hmono k o1 h2 h1 xP hr⟩
  ·exact⟨Value.pointer (some ⟨b,0,none⟩),by rw[<-hlen,dB],b,c,ty,rfl,hb,hσ,hz _ _ _ _⟩
 ·intro k k' o1 o2 h1 h2 x e1 e2 e3 e4 e5 e6;rcases hinv k o1 h1 e1 e2 with⟨f1,f2⟩|⟨rfl,rfl,rfl⟩
  ·rcases hinv k' o2 h2 e4 e5 with⟨g1,g2⟩|⟨rfl,rfl,rfl⟩
   ·exact hS.apart _ _ _ _ _ _ _ f1 f2 e3 g1 g2 e6
   ·cases e6;exact absurd ⟨k,o1,h1,f1,f2,e3⟩ hno
  ·rcases hinv k' o2 h2 e4 e5 with⟨g1,g2⟩|⟨rfl,rfl,rfl⟩
   ·cases e3;exact absurd ⟨k',o2,h2,g1,g2,e6⟩ hno
   ·rfl
 ·have:=hS.shape.1;simpa using this
 ·intro l fr hl
  cases l with
  |zero=>simp at hl;subst hl;exact⟨_,rfl,by simp[hlen]⟩
  |succ l=>exact hS.shape.2 (l+1) fr (by simpa using hl)
 ·rcases hown x hx with h|h
  ·exact hst.own x h
  ·subst h;exact .inr h0
theorem KT{st:Nat->St}{vs:Nat->V}{p:Nat}{o:Oper}{d:Nat}{t:TypeId}(ht:lC P E R o (st p) (vs p) (st (p+1)))(hop:o.op=.alloc t)(hg:o.guard=none)(hd:o.dst=some d):
 ∃zs own Ω,iK P t=some zs/\(st p).st=own::Ω/\(st (p+1)).st=(own++[.box zs])::Ω/\vs p=.c (.ptr (0,own.length) 0):=by
 have hgd:gd R o (st p).tm=some true:=by unfold gd;rw[hg]
 rcases ht with⟨h1,_,_⟩|⟨_,hD,_,_⟩|⟨_,hD,hx,hs',_⟩
 ·rw[hgd] at h1;cases h1
 ·rw[(tX (E:=E) (o:=o) (by rw[hop];rfl)).1] at hD;cases hD
 ·obtain⟨dst,op,ty,pos,after,guard⟩:=o;simp only at hop hd;subst hop;subst hd;unfold dw tO at hx;simp only at hx
  cases hz:iK P t with
  |none=>rw[hz] at hx;exact hx.elim
  |some zs=>
   rw[hz] at hx
   generalize st (p+1)=s1 at *
   generalize st p=s0 at *
   obtain⟨tm,S⟩:=s0;simp only[newObj] at hx
   cases S with
   |nil=>exact hx.elim
   |cons own Ω=>
    subst hx;refine⟨zs,own,Ω,rfl,rfl,rfl,?_⟩;simp only[St.put,St.mk.injEq,List.cons.injEq,Prod.mk.injEq,and_true,true_and] at hs';exact hs'.symm
theorem mid_step{st:Nat->St}{vs:Nat->V}{β0:Hs}{σ0:Nat->Nat}{w0:World}{Q:Exit->Act->World->Prop}{p:Nat}(hok:KR E R N st p)
 (hT:∀i,i<R.size->∃o,R[i]? =some o/\lC P E R o (st i) (vs i) (st (i+1))){listed:Array Bool}{a:Act}{w:World}(hM:Mid P N E R p st vs β0 σ0 w0 listed a w){i:Nat}(hi:i∈Region.ready .any R listed):
 wpOp P R Q i (fun a' w'=>Mid P N E R p st vs β0 σ0 w0 (listed.setIfInBounds i true) a' w') a w:=by
 obtain⟨hun,o,ho,Zt⟩:=mem_ready.1 hi;have hlt:i<R.size:=(Array.getElem?_eq_some_iff.1 ho).1;obtain⟨o',ho',ht⟩:=hT i hlt;rw[ho] at ho';cases ho'
 have MS:listed.getD i false=false:=by
  have hs:i<listed.size:=by rw[hM.size];exact hlt
  simp[hs] at hun ⊢;exact hun
 obtain⟨m,hm,hmD,σ,β,hsz,hdf,hS,hrT,hst,hkp,xQ⟩:=hM.rep;have hdn:=hok.dst i o ho
 have hset:(listed.setIfInBounds i true).getD i false=true:=by
  have hs:i<listed.size:=by rw[hM.size];exact hlt
  simp[hs]
 have WB:∀j,(listed.setIfInBounds i true).getD j false=true->j=i\/listed.getD j false=true:=by
  intro j hj;by_cases e:j=i
  ·exact .inl e
  ·rw[getD_set_ne false (Ne.symm e)] at hj;exact .inr hj
 have aj7:∀j,(listed.setIfInBounds i true).getD j false=false->j≠i/\listed.getD j false=false:=by
  intro j hj;by_cases e:j=i
  ·subst e;rw[hset] at hj;cases hj
  ·rw[getD_set_ne false (Ne.symm e)] at hj;exact⟨e,hj⟩
 have WC:∀j x k,R[j]? =some x->listed.getD j false=true->((masks R.toList []).getD j 0).testBit k=true->listed.getD k false=true:=fun j x k hx hE hb=>
  NW (fun k=>listed.getD k false=true) hM.closed hok.edge j x hx (fun e he hb=>hM.closed j x e hx hE he hb) k hb
 have Gi:∀k,((masks R.toList []).getD i 0).testBit k=true->listed.getD k false=true:=fun k hb=>
  NW (fun k=>listed.getD k false=true) hM.closed hok.edge i o ho (fun e he hb=>Zt e he hb) k hb
 have aia:mJ E R p listed->i≠p:=fun h e=>by have h1:=h.1;rw[<-e,MS] at h1;cases h1
 have Eu:∀j x e,R[j]? =some x->(listed.setIfInBounds i true).getD j false=true->e∈x.after->Region.binds .any e=true->(listed.setIfInBounds i true).getD e.on false=true:=by
  intro j x e hx hE he hb;by_cases hji:j=i
  ·subst hji;rw[ho] at hx;cases hx;exact getD_set_true (Zt e he hb)
  ·rw[getD_set_ne false (Ne.symm hji)] at hE;exact getD_set_true (hM.closed j x e hx hE he hb)
 by_cases hA2:i=p/\∃j x,j<p/\R[j]? =some x/\fG E x.op=true/\listed.getD j false=false
 ·
  obtain⟨rfl,j0,x0,hj0,hx0,hD0,hu0⟩:=hA2;obtain⟨hal,hgn,⟨d,hd⟩,_⟩:=hok.pend o ho
  obtain⟨ty,hop⟩:∃ty,o.op=.alloc ty:=by
   cases h:o.op<;>rw[h] at hal<;>first|exact⟨_,rfl⟩|cases hal
  obtain⟨zs,own,Ω,hzs,_,_,_⟩:=KT ht hop hgn hd;obtain⟨z,uY,hzc⟩:=acG hzs
  have hnp:¬mJ E R i listed:=fun h=>by have h1:=h.1;rw[MS] at h1;cases h1
  have hP':mJ E R i (listed.setIfInBounds i true):=⟨hset,hlt,j0,x0,hj0,hx0,hD0,by rw[getD_set_ne false (by omega)];exact hu0⟩
  have hmp:m<=i:=by
   have h1:=hmD j0 x0 hx0 hD0 (fun _=>hnp);rcases Nat.lt_or_ge j0 m with h|h
   ·rw[h1.2 h] at hu0;cases hu0
   ·omega
  have hdi:fV R i=some d:=by simp[fV,ho,hd]
  have hg:=Ad w σ hS.live z.cells ty 0;unfold wpOp;rw[ho]
  simp only
  rw[if_pos (by simp[Region.wanted,hgn])];left
  have hrun:(execOp a.eval o).run P w=.ok (.value (.pointer (some ⟨w.heap.size,0,none⟩))) {w with heap:=w.heap.push (.cells z.cells ty)}:=by
   have F9:(newVar ty z).run P w=.ok ⟨w.heap.size,0,none⟩ {w with heap:=w.heap.push (.cells z.cells ty)}:=rfl;have uY:=uY w;clear hS hrT hst hkp xQ hM hdn ht;obtain⟨dst,op,ty',pos,after,guard⟩:=o;simp only at hop;subst hop;simp[execOp,Instr.alloc,uY,F9]
  unfold Oper.wp;rw[hrun];show Mid P N E R i st vs β0 σ0 w0 _ (a.put o.dst _) _;rw[hd]
  have hdN:d<a.tmps.size:=by rw[hsz];exact hdn d hd
  refine⟨by simpa using hM.size,Eu,m,hm,fun j x hx qA hjp=> ?_,fun b=>if b=w.heap.size then 0 else σ b,β,by simp[Act.put,hsz],hdf,hS.grow hg,fun t=> ?_,hst.trans (Step.pE hg),hkp,fun _=>⟨hmp,fun d' hd'=> ?_⟩⟩
  ·have hji:j≠i:=fun e=>hjp e hP';rw[getD_set_ne false (Ne.symm hji)];exact hmD j x hx qA fun _=>hnp
  ·unfold tC;by_cases e:t=d
   ·subst e;rw[if_pos ⟨hP',hdi⟩];exact trivial
   ·rw[if_neg (fun h=>e (by rw[hdi] at h;exact(Option.some.inj h.2).symm))]
    rw[yL (E':=fun i=>listed.getD i false) R.size (fun j hj hdj=>by
     have hji:j≠i:=fun x=>by rw[x,hdi] at hdj;exact e (Option.some.inj hdj).symm
     exact getD_set_ne false (Ne.symm hji))]
    have h1:=hrT t;unfold tC at h1;rw[if_neg (fun h=>hnp h.1)] at h1;rw[Gh (by intro x;exact e (Option.some.inj x).symm)];exact h1.mono hg.near (Keep.refl _ _)
  ·rw[hdi] at hd';cases hd';refine⟨w.heap.size,z.cells,ty,by simp[Act.put,Array.getD,hdN],by simp,by simp,hst.size,fun h=> ?_,fun o2 t2 zs2 h1 h2 h3=> ?_⟩
   ·have:=hS.Dk h;omega
   ·rw[ho] at h1;cases h1;rw[hop] at h2;cases h2;rw[hzs] at h3;cases h3;exact hzc
 have hA:i=p->∀j x,j<p->R[j]? =some x->fG E x.op=true->listed.getD j false=true:=fun e j x hj hx hD=>by
  cases hl:listed.getD j false with
  |true=>rfl
  |false=>exact absurd ⟨e,j,x,hj,hx,hD,hl⟩ hA2
 have hPP:mJ E R p (listed.setIfInBounds i true)->mJ E R p listed:=by
  rintro⟨h1,h2,j,x,hj,hx,hD,hl⟩;obtain⟨hji,hl⟩:=aj7 j hl;rcases WB p h1 with e|h
  ·rw[hA e.symm j x hj hx hD] at hl;cases hl
  ·exact⟨h,h2,j,x,hj,hx,hD,hl⟩
 have hap:mJ E R p listed->∀po d,R[p]? =some po->po.dst=some d->o.dst≠some d/\d∉o.looksAt R:=by
  rintro hP po d hpo xQ;have Zu:=hP;obtain⟨_,_,j0,x0,hj0,hx0,hD0,hu0⟩:=Zu
  have:o.apart R po=true:=by
   cases hc:o.apart R po with
   |true=>rfl
   |false=>
    have:=(hok.pend po hpo).2.2.2 i o (aia hP) ho hc j0 x0 hj0 hx0 hD0;rw[Gi j0 this.2] at hu0;cases hu0
  obtain⟨q1,q2,q3⟩:=Oper.apart_spec this;exact⟨fun e=>q2 d e xQ,q3 d xQ⟩
 have NY:mJ E R p listed->fG E o.op=true->i<p:=by
  rintro hP hD;have Zu:=hP;obtain⟨_,hpl,j0,x0,hj0,hx0,hD0,hu0⟩:=Zu;have hne:=aia hP;rcases Nat.lt_or_ge i p with h|h
  ·exact h
  ·exfalso;rcases hok.pair j0 i x0 o (by omega) hx0 ho (by simp[lW,hD,hD0]) with hb|⟨e,_⟩
   ·rw[Gi j0 hb] at hu0;cases hu0
   ·exact hne e
 have hbit:∀j x,R[j]? =some x->j≠i->rM R j i=true->(listed.getD j false=true<->j<i):=by
  intro j x hx hne hc;unfold rM at hc;constructor
  ·intro hE;rcases Nat.lt_or_ge j i with h|h
   ·exact h
   ·exfalso;rw[if_neg (by omega)] at hc;have:=WC j x i hx hE hc;rw[MS] at this;cases this
  ·intro hji;rw[if_pos hji] at hc;exact Gi j hc
 have hdone:∀j x,R[j]? =some x->j≠i->(j=p->¬mJ E R p listed)->lW E R x o=true->(listed.getD j false=true<->j<i):=by
  intro j x hx hne hjp hc;by_cases e:j<i
  ·rcases hok.pair j i x o e hx ho hc with hb|⟨e1,hD,_⟩
   ·exact hbit j x hx hne (by unfold rM;rw[if_pos e];exact hb)
   ·exact⟨fun _=>e,fun _=>hA e1 j x (by omega) hx hD⟩
  ·rcases hok.pair i j o x (by omega) ho hx (by rw[Tv];exact hc) with hb|⟨e1,hD,_⟩
   ·exact hbit j x hx hne (by unfold rM;rw[if_neg e];exact hb)
   ·refine⟨fun h=>absurd ⟨e1▸h,?_,i,o,by omega,ho,hD,MS⟩ (hjp e1),fun h=>absurd h e⟩;rw[<-e1];exact(Array.getElem?_eq_some_iff.1 hx).1
 obtain⟨QK,QL⟩:∃QK:List (Nat×V),∀t,look QK t=kF R vs (fun i=>listed.getD i false) (st 0).tm R.size t:=by
  have:∀n,∃qI:List (Nat×V),∀t,look qI t=kF R vs (fun i=>listed.getD i false) (st 0).tm n t:=by
   intro n
   induction n with
   |zero=>exact⟨(st 0).tm,fun t=>rfl⟩
   |succ n ih=>
    obtain⟨tm,h⟩:=ih;by_cases hE:listed.getD n false=true
    ·cases hd:fV R n with
     |none=>exact⟨tm,fun t=>by rw[kF,if_neg (fun x=>by rw[hd] at x;cases x.2)];exact h t⟩
     |some d=>
      refine⟨(n |> vs |> fun v=>(d,v))::tm,fun t=> ?_⟩;rw[kF,look,hd,h t];by_cases e:d=t
      ·rw[if_pos e,if_pos ⟨hE,by rw[e]⟩]
      ·rw[if_neg e,if_neg (fun x=>e (Option.some.inj x.2))]
    ·exact⟨tm,fun t=>by rw[kF,if_neg (fun x=>hE x.1)];exact h t⟩
  exact this R.size
 obtain⟨qI,acI⟩:∃qI:List (Nat×V),∀t,look qI t=tC E R p vs listed (st 0).tm t:=by
  by_cases hP:mJ E R p listed
  ·cases hd:fV R p with
   |none=>exact⟨QK,fun t=>by unfold tC;rw[if_neg (fun h=>by rw[hd] at h;cases h.2)];exact QL t⟩
   |some d=>
    refine⟨(d,.any)::QK,fun t=> ?_⟩;unfold tC;rw[look,hd];by_cases e:d=t
    ·rw[if_pos e,if_pos ⟨hP,by rw[e]⟩]
    ·rw[if_neg e,if_neg (fun x=>e (Option.some.inj x.2))];exact QL t
  ·exact⟨QK,fun t=>by unfold tC;rw[if_neg (fun h=>hP h.1)];exact QL t⟩
 have hPd:∀t,mJ E R p listed->fV R p=some t->∃po,R[p]? =some po/\po.dst=some t:=by
  intro t _ h;unfold fV at h
  cases hpo:R[p]? with
  |none=>rw[hpo] at h;cases h
  |some po=>rw[hpo] at h;exact⟨po,rfl,h⟩
 have afG:∀t∈o.looksAt R,look qI t=look (st i).tm t:=by
  intro t htl;rw[acI];unfold tC
  rw[if_neg (fun h=>by
   obtain⟨po,h1,h2⟩:=hPd t h.1 h.2
   exact(hap h.1 po t h1 h2).2 htl),zf hT t i (by omega)]
  have:=C8 (R:=R) (vs:=vs) (E:=fun i=>listed.getD i false) (base:=(st 0).tm) (t:=t) (i:=i) R.size (fun j hj hd=>by
   by_cases e:j=i
   ·subst e;rw[MS];simp
   ·obtain⟨x,hx⟩:∃x,R[j]? =some x:=⟨_,Array.getElem?_eq_getElem hj⟩
    have hxd:x.dst=some t:=by simpa [fV,hx] using hd
    refine hdone j x hx e (fun e2 hP=> ?_) ?_
    ·subst e2;exact(hap hP x t hx hxd).2 htl
    ·have:x.apart R o=false:=by
      cases hap:x.apart R o with
      |false=>rfl
      |true=>exact absurd htl ((Oper.apart_spec hap).1 t hxd)
     simp[lW,this])
  rw[this,show min R.size i=i from by omega]
 have hR:jM N ⟨qI,(st m).st⟩ a w σ β:=⟨hsz,hdf,hS,fun t=>by show dN w σ (st m).st β (look qI t) _;rw[acI];exact hrT t⟩
 have hev:∀x∈o.op.operands,ev (st i).tm x=ev qI x:=by
  intro x hx
  cases x with
  |tmp t=>show look _ t=look _ t;rw[afG t (O7 hx rfl)]
  |_=>rfl
 have hgd:gd R o qI=gd R o (st i).tm:=by
  unfold gd
  cases hg:o.guard with
  |none=>rfl
  |some gw=>
   obtain⟨g,want⟩:=gw
   simp only
   cases hd:fV R g with
   |none=>rfl
   |some d=>
    simp only[Option.map_some];rw[afG d (Tq hg hd)]
 have alM:∀(S':Store)(t:Nat),kF R vs (fun i_1=>(listed.setIfInBounds i true).getD i_1 false) (st 0).tm R.size t=look (St.put ⟨QK,S'⟩ o.dst (vs i)).tm t:=by
  intro S' t;by_cases hd:o.dst=some t
  ·have hdi:fV R i=some t:=by simp[fV,ho,hd]
   rw[Es (E:=fun i_1=>(listed.setIfInBounds i true).getD i_1 false) hset hdi R.size hlt (fun j hj hij hdj=>by
    obtain⟨x,hx⟩:∃x,R[j]? =some x:=⟨_,Array.getElem?_eq_getElem hj⟩
    have hxd:x.dst=some t:=by simpa [fV,hx] using hdj
    have acJ:x.apart R o=false:=by
     cases hap:x.apart R o with
     |false=>rfl
     |true=>exact absurd hd ((Oper.apart_spec hap).2.1 t hxd)
    have:=hdone j x hx (by omega) (fun e hP=>by
     subst e
     exact(hap hP x t hx hxd).1 hd) (by simp[lW,acJ])
    rw[getD_set_ne false (by omega)]
    cases hE:listed.getD j false with
    |false=>rfl
    |true=>exact absurd (this.1 hE) (by omega))]
   rw[hd];simp[St.put,look]
  ·have hdi:fV R i≠some t:=by simp only[fV,ho,Option.bind_some];exact hd
   rw[yL (E':=fun i=>listed.getD i false) R.size (fun j hj hdj=>by
    have hji:j≠i:=fun e=>hdi (e▸hdj)
    exact getD_set_ne false (Ne.symm hji)),<-QL t]
   cases hdd:o.dst with
   |none=>rfl
   |some d=>
    have hne:d≠t:=fun e=>hd (by rw[hdd,e]);simp[St.put,look,hne]
 have acK:∀(S':Store)(t:Nat),¬(mJ E R p listed/\fV R p=some t)->look (St.put ⟨qI,S'⟩ o.dst (vs i)).tm t=kF R vs (fun i_1=>(listed.setIfInBounds i true).getD i_1 false) (st 0).tm R.size t:=by
  intro S' t hn;rw[alM S' t]
  have h1:look qI t=look QK t:=by rw[acI,QL];unfold tC;rw[if_neg hn]
  cases hdd:o.dst with
  |none=>exact h1
  |some d=>simp only[St.put,look,h1]
 have fin:∀(m':Nat)(a':Act)(w':World)(σ':Nat->Nat)(β':Hs),m'<=R.size->(∀j x,R[j]? =some x->fG E x.op=true->(j=p->¬mJ E R p listed)->((listed.setIfInBounds i true).getD j false=true<->j<m'))->
  (mJ E R p listed->m'<=p)->(∀d,o.dst≠some d->a'.tmps.getD d undef=a.tmps.getD d undef)->
  jM N (St.put ⟨qI,(st m').st⟩ o.dst (vs i)) a' w' σ' β'->Step (st m).st β σ w (st m').st β' σ' w'->Keep (st m).st β (st m').st β'->Mid P N E R p st vs β0 σ0 w0 (listed.setIfInBounds i true) a' w':=by
  intro m' a' w' σ' β' hm' hD' hmp ha' hR' hst' xY;have hS':=hR'.S;have hT':=hR'.T;rw[kM] at hS' hT';by_cases hP:mJ E R p listed
  ·obtain⟨_,hraw⟩:=xQ hP;have Zu:=hP;obtain⟨hp1,hp2,j0,x0,hj0,hx0,hD0,hu0⟩:=Zu;obtain⟨po,hpo⟩:∃po,R[p]? =some po:=⟨_,Array.getElem?_eq_getElem hp2⟩;obtain⟨hal,hgn,⟨d,hd⟩,aj8⟩:=hok.pend po hpo
   have hdp:fV R p=some d:=by simp[fV,hpo,hd]
   have hod:=hap hP po d hpo hd;have hraw:=hraw d hdp;obtain⟨b,c,ty',hv,hb,hσ,h0,hno,hzc⟩:=hraw;have hbl:b<w.heap.size:=lt_of_some hb
   have hb':w'.heap[b]? =some (.cells c ty' (0,0)):=by rw[(hst'.far b hbl hno).1];exact hb
   have hσ':σ' b=0:=by rw[(hst'.far b hbl hno).2];exact hσ
   have hno':¬Own (st m').st β' b:=fun h=>(hst'.own b h).elim hno (fun h=>by omega);have hv':a'.tmps.getD d undef=.pointer (some ⟨b,0,none⟩):=(ha' d hod.1).trans hv;have aj9:Raw P R p w0 w' σ' (st m').st β' (a'.tmps.getD d undef):=⟨b,c,ty',hv',hb',hσ',h0,hno',hzc⟩;by_cases hP':mJ E R p (listed.setIfInBounds i true)
   ·refine⟨by simpa using hM.size,Eu,m',hm',fun j x hx qA hjp=>hD' j x hx qA (fun e=>absurd hP' (hjp e)),σ',β',hR'.size,hR'.defers,hS',fun t=> ?_,hst.trans hst',hkp.trans xY,fun _=>⟨hmp hP,fun d' hd'=>by rw[hdp] at hd';cases hd';exact aj9⟩⟩;unfold tC;by_cases e:fV R p=some t
    ·rw[if_pos ⟨hP',e⟩];exact trivial
    ·rw[if_neg (fun h=>e h.2),<-acK (st m').st t (fun h=>e h.2)];exact hT' t
   ·
    have hpl:(listed.setIfInBounds i true).getD p false=true:=getD_set_true hp1
    have hall:∀j x,j<p->R[j]? =some x->fG E x.op=true->(listed.setIfInBounds i true).getD j false=true:=fun j x hj hx hD=>by
     cases hl:(listed.setIfInBounds i true).getD j false with
     |true=>rfl
     |false=>exact absurd ⟨hpl,hp2,j,x,hj,hx,hD,hl⟩ hP'
    have aib:∀j x,p<j->R[j]? =some x->fG E x.op=true->(listed.setIfInBounds i true).getD j false=false:=fun j x hj hx hD=>by
     cases hl:(listed.setIfInBounds i true).getD j false with
     |false=>rfl
     |true=>
      exfalso;rcases hok.pair j0 j x0 x (by omega) hx0 hx (by simp[lW,hD,hD0]) with hbt|⟨e,_⟩
      ·rcases WB j hl with e|hl
       ·subst e;rw[Gi j0 hbt] at hu0;cases hu0
       ·rw[WC j x j0 hx hl hbt] at hu0;cases hu0
      ·omega
    have aon:=hmp hP
    have hsm:(st p).st=(st m').st:=by
     have:=Dw hT (i:=m') (p-m') (by omega) (fun j x h1 h2 h3=>by
      cases qA:fG E x.op with
      |false=>rfl
      |true=>
       have:=(hD' j x h3 qA (fun e=>by omega)).1 (hall j x (by omega) h3 qA)
       omega)
     rwa [show m'+(p-m')=p from by omega] at this
    obtain⟨po',aic,htp⟩:=hT p hp2;rw[hpo] at aic;cases aic
    obtain⟨ty,hop⟩:∃ty,po.op=.alloc ty:=by
     cases h:po.op<;>rw[h] at hal<;>first|exact⟨_,rfl⟩|cases hal
    obtain⟨zs,own,Ω,hzs,hs0,hs1,hvp⟩:=KT htp hop hgn hd;rw[hsm] at hs0;have Bd:=hst.trans hst';have aie:=hkp.trans xY;rw[hs0] at hS' hT' Bd aie hno';obtain⟨bo,bΩ,rfl,hlen,q1,q2,q3⟩:=acH hS' Bd hb' hσ' h0 hno' (hzc po ty zs hpo hop hzs);rw[<-hs1] at q1 q2 q3;refine⟨by simpa using hM.size,Eu,p+1,by omega,fun j x hx qA _=> ?_,σ',_,hR'.size,hR'.defers,q1,fun t=> ?_,q3,aie.trans q2,fun h=>absurd h hP'⟩
    ·rcases Nat.lt_trichotomy j p with h|h|h
     ·exact⟨fun _=>by omega,fun _=>hall j x h hx qA⟩
     ·subst h;exact⟨fun _=>by omega,fun _=>hpl⟩
     ·rw[aib j x h hx qA];exact⟨fun h=>(by cases h),fun h=>by omega⟩
    ·unfold tC;rw[if_neg (fun h=>hP' h.1)];by_cases e:t=d
     ·subst e
      rw[Es (E:=fun i_1=>(listed.setIfInBounds i true).getD i_1 false) hpl hdp R.size hp2 (fun j hj hpj hdj=>by
       obtain⟨x,hx⟩:∃x,R[j]? =some x:=⟨_,Array.getElem?_eq_getElem hj⟩
       have hxd:x.dst=some t:=by simpa [fV,hx] using hdj
       have acJ:x.apart R po=false:=by
        cases hap:x.apart R po with
        |false=>rfl
        |true=>exact absurd hd ((Oper.apart_spec hap).2.1 t hxd)
       have hbt:=aj8 j x (by omega) hx acJ j0 x0 hj0 hx0 hD0
       cases hl:(listed.setIfInBounds i true).getD j false with
       |false=>rfl
       |true=>
        exfalso;rcases WB j hl with e|hl
        ·subst e;rw[Gi j0 hbt.2] at hu0;cases hu0
        ·rw[WC j x j0 hx hl hbt.2] at hu0;cases hu0),hvp,hv',hs1]
      exact Ve hlen
     ·rw[<-acK (st m').st t (fun h=>e (by rw[hdp] at h;exact(Option.some.inj h.2).symm))];have h1:=hT' t;rw[hs0];exact h1.mono (fq.refl _ _) q2
  ·have hP':¬mJ E R p (listed.setIfInBounds i true):=fun h=>hP (hPP h);refine⟨by simpa using hM.size,Eu,m',hm',fun j x hx qA _=>hD' j x hx qA (fun _=>hP),σ',β',hR'.size,hR'.defers,hS',fun t=> ?_,hst.trans hst',hkp.trans xY,fun h=>absurd h hP'⟩;unfold tC;rw[if_neg (fun h=>hP' h.1),<-acK (st m').st t (fun h=>hP h.1)];exact hT' t
 have keepD:fG E o.op=false->∀j x,R[j]? =some x->fG E x.op=true->(j=p->¬mJ E R p listed)->((listed.setIfInBounds i true).getD j false=true<->j<m):=by
  intro hD j x hx qA hjp
  have hji:j≠i:=fun e=>by rw[e,ho] at hx;cases hx;rw[hD] at qA;cases qA
  rw[getD_set_ne false (Ne.symm hji)];exact hmD j x hx qA hjp
 have hmP:mJ E R p listed->m<=p:=fun h=>(xQ h).1
 have quiet:∀(w':World)(σ':Nat->Nat)(v:Value),fG E o.op=false->Grow w σ w' σ'->dN w' σ' (st m).st β (vs i) v->Mid P N E R p st vs β0 σ0 w0 (listed.setIfInBounds i true) (a.put o.dst v) w':=by
  intro w' σ' v hD hg hv;exact fin m _ w' σ' β hm (keepD hD) hmP (fun d hd=>Gh hd) (Aw hdn hsz hdf (hS.grow hg) (hR.T.mono hg.near (Keep.refl _ _)) hv) (Step.pE hg) (Keep.refl _ _)
 have hDs:fG E o.op=true->∀j x,R[j]? =some x->fG E x.op=true->(j=p->¬mJ E R p listed)->(listed.getD j false=true<->j<i):=by
  intro hD j x hx qA hjp;by_cases e:j=i
  ·subst e;rw[MS];simp
  ·exact hdone j x hx e hjp (by simp[lW,hD,qA])
 have hsame:fG E o.op=true->(st m).st=(st i).st:=by
  intro hD
  have hno:∀j x,R[j]? =some x->(i<=j/\j<m\/m<=j/\j<i)->fG E x.op=false:=by
   intro j x hx hj
   cases qA:fG E x.op with
   |false=>rfl
   |true=>
    have hjp:j=p->¬mJ E R p listed:=fun e hP=>by
     have:=NY hP hD;have:=hmP hP;omega
    have h1:=hDs hD j x hx qA hjp;have h2:=hmD j x hx qA hjp;rcases hj with hj|hj
    ·have:=h1.1 (h2.2 hj.2);omega
    ·have:=h2.1 (h1.2 hj.2);omega
  rcases Nat.le_total i m with h|h
  ·have:=Dw hT (i:=i) (m-i) (by omega) (fun j x h1 h2 h3=>hno j x h3 (.inl ⟨h1,by omega⟩))
   rwa [show i+(m-i)=m from by omega] at this
  ·have:=Dw hT (i:=m) (i-m) (by omega) (fun j x h1 h2 h3=>hno j x h3 (.inr ⟨h1,by omega⟩));rw[show m+(i-m)=i from by omega] at this;exact this.symm
 have Zv:fG E o.op=true->∀j x,R[j]? =some x->fG E x.op=true->(j=p->¬mJ E R p listed)->((listed.setIfInBounds i true).getD j false=true<->j<i+1):=by
  intro hD j x hx qA hjp;by_cases e:j=i
  ·subst e;rw[hset];simp
  ·rw[getD_set_ne false (Ne.symm e),hDs hD j x hx qA hjp];omega
 have hiP:fG E o.op=true->mJ E R p listed->i+1<=p:=fun hD hP=>NY hP hD;unfold wpOp;rw[ho]
 simp only
 have hRR:jM N ⟨qI,(st m).st⟩ a w σ β:=hR;rcases ht with⟨hg,hv,hs'⟩|⟨hg,hD,hv,hs'⟩|⟨hg,hD,hx,hs',_⟩
 ·
  have hw:Region.wanted o (yielded R a.tmps)=false:=by
   rw[<-hgd] at hg;unfold gd at hg;split at hg
   ·cases hg
   ·rename_i j want hgu;split at hg
    ·rename_i x hx;have hy:=Bb (s:=⟨qI,(st m).st⟩) hRR hx
     have hne:x≠want:=by
      intro e;rw[e] at hg;simp at hg
     simp[Region.wanted,hgu,hy,hne]
    ·rename_i hx;have hy:=FH (s:=⟨qI,(st m).st⟩) hRR hx;simp[Region.wanted,hgu,hy]
    ·cases hg
  rw[if_neg (by rw[hw];simp)]
  have hvu:dN w σ (st m).st β (vs i) undef:=by rw[hv];exact vU
  by_cases hD:fG E o.op=true
  ·have hsm:=hsame hD
   have hs1:(st (i+1)).st=(st m).st:=by rw[hsm,hs'];cases o.dst<;>rfl
   refine fin (i+1) _ w σ β hlt (Zv hD) (hiP hD) (fun d hd=>Gh hd) (by rw[hs1];exact Aw hdn hsz hdf hS hR.T hvu) (by rw[hs1];exact Step.pE (Grow.refl hS.live)) (by rw[hs1];exact Keep.refl _ _)
  ·exact quiet w σ undef (by simpa using hD) (Grow.refl hS.live) hvu
 all_goals
  have hw:Region.wanted o (yielded R a.tmps)=true:=by
   rw[<-hgd] at hg;unfold gd at hg;split at hg
   ·rename_i hgu;simp[Region.wanted,hgu]
   ·rename_i j want hgu;split at hg
    ·rename_i x hx;have hy:=Bb (s:=⟨qI,(st m).st⟩) hRR hx;simp at hg;simp[Region.wanted,hgu,hy,hg]
    ·cases hg
    ·cases hg
  rw[if_pos hw];left
 ·
  rcases hv with⟨c,hc,hcn⟩|⟨hcond,hval⟩
  ·have hcn':=acy (tm':=qI) (fun x hx=>hev x (by rw[hc];exact hx)) hcn;unfold Eo at hcn';split at hcn'
   ·rename_i x hcx;split at hcn'
    ·rename_i f caps hex
     have hcall:mH P c ⟨qI,(st m).st⟩ o.dst (fun t=>t=St.put ⟨qI,(st m).st⟩ o.dst (vs i)):=by
      unfold mH;rw[hcx];simp only[hex];exact .inl ⟨_,hcn' (st m).st,fun r S' hp=>by rw[hp.1,hp.2]⟩
     refine Oper.wp_mono ?_ (Oper.Zr (KJ (Q:=Q) hc hdn hRR hcall));rintro a' w' ⟨⟨s'',σ',β',hR',hst',xY,hK⟩,ha'⟩;subst hK;rw[kM] at hst' xY;exact fin m a' w' σ' β' hm (keepD hD) hmP ha' hR' hst' xY
    ·exact hcn'.elim
   ·exact hcn'.elim
  ·have hcv:jl o.op=false:=by
    cases hc:jl o.op with
    |false=>rfl
    |true=>
     exfalso;unfold jl at hc;split at hc
     ·rename_i x b c hop;rw[hop] at hcond;exact gU hcond
     ·cases hc
   have afH:∀k,refs (st i).tm o k->∀j x,R[j]? =some x->(i<=j/\j<m\/m<=j/\j<i)->jU E x.op=false\/bn (st (j+1)).st k=bn (st j).st k:=by
    intro k hk j x hx hj
    cases hs:jU E x.op with
    |false=>exact .inl rfl
    |true=>
     have qA:fG E x.op=true:=Zo hs
     have hji:j≠i:=fun e=>by rw[e,ho] at hx;cases hx;rw[hD] at qA;cases qA
     rcases hok.store j i x o hji hx ho hs hD hcv with hb|hb
     ·have h1:=hbit j x hx hji hb
      have h2:=hmD j x hx qA (fun e=>by
       subst e;have:=(tX (E:=E) (hok.pend x hx).1).2.1
       rw[hs] at this;cases this)
      rcases hj with hj|hj
      ·have:=h1.1 (h2.2 hj.2);omega
      ·have:=h2.1 (h1.2 hj.2);omega
     ·exact .inr (hb k hk)
   have e1:=agh (P:=P) (S:=(st i).st) (tm:=(st i).tm) (tm':=qI) (op:=o.op) hev;rw[e1] at hcond hval
   have e2:mG P (oz (st i).st) (st m).st qI o.op=mG P (oz (st i).st) (st i).st qI o.op:=by
    cases hmv:WA o.op with
    |true=>exact acF hmv
    |false=>
     exact acz (P:=P) (l:=oz (st i).st) (S:=(st i).st) (S':=(st m).st) (tm:=qI) (op:=o.op) hcond (by
     intro x hx k hk ob Zk hbr;have hrf:refs (st i).tm o k:=⟨hmv,x,hx,by rw[hev x hx];exact hk⟩;rcases Nat.le_total i m with h|h
     ·have hds:=Wy hT (i:=i) (k:=k) (m-i) (by omega) (fun j x h1 h2 h3=>afH k hrf j x h3 (.inl ⟨h1,by omega⟩));rw[show i+(m-i)=m from by omega] at hds;rcases hds ob Zk with h'|⟨⟨z,es,e⟩,_⟩
      ·exact h'
      ·rcases e with e|⟨_,e⟩<;>rw[e] at hbr<;>exact hbr.elim
     ·have hds:=Wy hT (i:=m) (k:=k) (i-m) (by omega) (fun j x h1 h2 h3=>afH k hrf j x h3 (.inr ⟨h1,by omega⟩));rw[show m+(i-m)=i from by omega] at hds;have hrx:=jw (a:=a) hR.T x
      have hin:∃o',bn (st m).st k=some o':=by
       rcases hk with⟨off,e⟩|⟨i',off,e⟩|e|e|⟨r',p',e⟩|⟨r',p',z',i',off,e⟩<;>rw[show ev (⟨qI,(st m).st⟩:St).tm x=ev qI x from rfl,e] at hrx<;>obtain⟨⟨o',ho',_⟩,_⟩:=hrx<;>exact⟨o',ho'⟩
      obtain⟨o',ho'⟩:=hin;rcases hds o' ho' with h'|⟨_,o2,z,es,h',e⟩
      ·rw[Zk] at h';cases h';exact ho'
      ·rw[Zk] at h';cases h'
       rcases e with e|⟨_,e⟩<;>rw[e] at hbr<;>exact hbr.elim)
   have aii:(mG P (oz (st i).st) (st m).st qI o.op).1:=by rw[e2];exact hcond
   have hval':vs i=(mG P (oz (st i).st) (st m).st qI o.op).2:=by rw[e2];exact hval
   obtain⟨v,w',σ',hrun,hgr,FE⟩:=I6 (P:=P) _ o hS hR.T aii;unfold Oper.wp;rw[hrun];exact quiet w' σ' v hD hgr (by rw[hval'];exact FE)
 ·have hsm:=hsame hD
  have hx':dw P o ⟨(st i).tm,(st i).st⟩ (fun t=>t=St.put ⟨(st i).tm,(st (i+1)).st⟩ o.dst (vs i)):=by
   rw[hs'] at hx;exact hx
  have hx2:=acw hD hev hx';rw[<-hsm] at hx2;refine Oper.wp_mono ?_ (Oper.Zr (Em (Q:=Q) hdn hRR hx2));rintro a' w' ⟨⟨s'',σ',β',hR',hst',xY,hK⟩,ha'⟩;subst hK;rw[kM] at hst' xY;exact fin (i+1) a' w' σ' β' hlt (Zv hD) (hiP hD) ha' hR' hst' xY
theorem agm{st:Nat->St}{vs:Nat->V}{β0:Hs}{σ0:Nat->Nat}{w0:World}{Q:Exit->Act->World->Prop}{p:Nat}(hok:KR E R N st p)
 (hT:∀i,i<R.size->∃o,R[i]? =some o/\lC P E R o (st i) (vs i) (st (i+1)))(hQ:∀listed a w,Mid P N E R p st vs β0 σ0 w0 listed a w->(∀i,i<R.size->listed.getD i false=true)->Q .normal a w):
 ∀(fuel:Nat)(listed:Array Bool)(a:Act)(w:World),(List.range R.size).countP (fun i=> !listed.getD i false)<=fuel->Mid P N E R p st vs β0 σ0 w0 listed a w->wpAny P .any R Q fuel listed a w:=by
 have hend:∀listed a w,Mid P N E R p st vs β0 σ0 w0 listed a w->Region.ready .any R listed=[]->Q .normal a w:=by
  intro listed a w hM hr;refine hQ listed a w hM ?_;intro i
  induction i using Nat.strongRecOn with
  |_ i ih=>
   intro hi
   cases hE:listed.getD i false with
   |true=>rfl
   |false=>
    exfalso;have ho:R[i]? =some R[i]:=Array.getElem?_eq_getElem hi
    have:i∈Region.ready .any R listed:=by
     rw[mem_ready]
     have hs:i<listed.size:=by rw[hM.size];exact hi
     refine⟨by simp[hs] at hE ⊢;exact hE,_,ho,fun e he hb=> ?_⟩;have hon:=hok.edge i _ e ho he hb;exact ih e.on hon (by omega)
    rw[hr] at this;simp at this
 intro fuel
 induction fuel with
 |zero=>
  intro listed a w hc hM
  have hnone:Region.ready .any R listed=[]:=by
   cases hr:Region.ready .any R listed with
   |nil=>rfl
   |cons i l=>
    exfalso
    have hi:i∈Region.ready .any R listed:=by rw[hr];simp
    obtain⟨hun,o,ho,_⟩:=mem_ready.1 hi;have hlt:=(Array.getElem?_eq_some_iff.1 ho).1
    have hs:i<listed.size:=by rw[hM.size];exact hlt
    have hz:(List.range R.size).countP (fun i=> !listed.getD i false)=0:=by omega
    rw[List.countP_eq_zero] at hz;have:=hz i (List.mem_range.2 hlt);simp[hs] at hun this;rw[hun] at this;cases this
  exact⟨hnone,hend listed a w hM hnone⟩
 |succ fuel ih=>
  intro listed a w hc hM;refine⟨hend listed a w hM,fun i hi=> ?_⟩;refine wpOp_mono (fun a' w' hM'=>ih _ a' w' ?_ hM') (mid_step hok hT hM hi);obtain⟨hun,o,ho,_⟩:=mem_ready.1 hi;have hlt:=(Array.getElem?_eq_some_iff.1 ho).1
  have hs:i<listed.size:=by rw[hM.size];exact hlt
  have:=cnt_lt (fun j=> !listed.getD j false) (fun j=> !(listed.setIfInBounds i true).getD j false) (List.range R.size) i (fun x hx=>by
   by_cases e:x=i
   ·subst e;simp[hs] at hx
   ·rw[getD_set_ne false (Ne.symm e)] at hx;exact hx) (List.mem_range.2 hlt) (by simp[hs] at hun ⊢;exact hun) (by simp[hs])
  omega
theorem Bf{id:Nat}{Q:Exit->St->Prop}{s:St}(eH:P.follows .mixedOrders=true){st:Nat->St}{vs:Nat->V}(h0:st 0=s)(hK:Q .normal (st R.size))
 (hT':∀i,i<R.size->∃o,R[i]? =some o/\lC P E R o (st i) (vs i) (st (i+1))){p:Nat}(hok:KR E R N st p):AW P N (.region id R true) Q s:=by
 intro a w σ β hR;refine wp_region_any eH ?_;have hgd:Grow w σ {w with drawn:=w.drawn+1} σ:=⟨Nat.le_refl _,rfl,rfl,fun _ _=>⟨rfl,rfl⟩,hR.S.live⟩;refine agm (N:=N) (β0:=β) (σ0:=σ) (w0:=w) hok hT' (fun listed a' w' hM hall=> ?_) R.size _ a _ ?_ ?_
 ·obtain⟨m,hm,hmD,σ',β',hsz,hdf,hS,hT2,hst,hkp,_⟩:=hM.rep
  have hnP:¬mJ E R p listed:=by
   rintro⟨_,_,j,x,hj,hx,_,hl⟩;rw[hall j (Array.getElem?_eq_some_iff.1 hx).1] at hl;cases hl
  have hsm:(st R.size).st=(st m).st:=by
   have:=Dw hT' (i:=m) (R.size-m) (by omega) (fun j x h1 h2 h3=>by
    cases qA:fG E x.op with
    |false=>rfl
    |true=>have:=(hmD j x h3 qA (fun _=>hnP)).1 (hall j (Array.getElem?_eq_some_iff.1 h3).1);omega)
   rwa [show m+(R.size-m)=R.size from by omega] at this
  rw[h0] at hst hkp;refine⟨st R.size,σ',β',⟨hsz,hdf,by rw[hsm];exact hS,fun t=> ?_⟩,by rw[hsm];exact hst,by rw[hsm];exact hkp.tail,hK⟩;rw[zf hT' t R.size (Nat.le_refl _),hsm];have:=hT2 t;unfold tC at this;rw[if_neg (fun h=>hnP h.1)] at this;rw[yL (E':=fun _=>true) R.size (fun j hj _=>hall j hj)] at this;exact this
 ·calc (List.range R.size).countP _<=(List.range R.size).length:=List.countP_le_length
   _=R.size:=List.length_range
 ·refine⟨by simp,fun i o e ho hE _ _=> ?_,0,Nat.zero_le _,fun i o ho _=> ?_,σ,β,hR.size,hR.defers,by rw[h0];exact hR.S.grow hgd,fun t=> ?_,by rw[h0];exact Step.pE hgd,Keep.refl _ _,fun h=>by have h1:=h.1;rw[getD_replicate_false] at h1;cases h1⟩
  ·rw[getD_replicate_false] at hE;cases hE
  ·rw[getD_replicate_false];simp
  ·have:kF R vs (fun i=>(Array.replicate R.size false).getD i false) (st 0).tm R.size t=look (st 0).tm t:=by
    have:=C8 (R:=R) (vs:=vs) (E:=fun i=>(Array.replicate R.size false).getD i false) (base:=(st 0).tm) (t:=t) (i:=0) R.size (fun j _ _=>by rw[getD_replicate_false];simp);rw[this,Nat.min_zero];rfl
   unfold tC;rw[if_neg (fun h=>by have h1:=h.1.1;rw[getD_replicate_false] at h1;cases h1),this,h0];exact(hR.T t).mono hgd.near (Keep.refl _ _)
theorem agn{id:Nat}{Q:Exit->St->Prop}{s:St}(eH:P.follows .mixedOrders=true)(hok:za E R N=true)(h:rJ P E R R.toList s (Q .normal)):AW P N (.region id R true) Q s:=by
 obtain⟨st,vs,h0,hK,hT⟩:=Et R.size 0 (by omega) s h;exact Bf eH h0 hK (fun i hi=>hT i (Nat.zero_le i) hi) (ah8 hok)
theorem acM{id p:Nat}{Q:Exit->St->Prop}{s:St}(eH:P.follows .mixedOrders=true)(hok:Dv E R N p=true)(h:rJ P E R R.toList s (Q .normal)):AW P N (.region id R true) Q s:=by
 obtain⟨st,vs,h0,hK,hT⟩:=Et R.size 0 (by omega) s h;exact Bf eH h0 hK (fun i hi=>hT i (Nat.zero_le i) hi) (agl hok)
theorem WE{id:Nat}{Q:Exit->St->Prop}{s:St}(eH:P.follows .mixedOrders=true)(hok:MQ R N=true)(h:rJ P (KQ R N) R R.toList s (Q .normal)):AW P N (.region id R true) Q s:=by
 unfold MQ at hok;rw[Bool.or_eq_true] at hok;rcases hok with hok|hok
 ·exact agn eH hok h
 ·split at hok
  ·exact acM eH hok h
  ·cases hok
theorem WG{v w:V}(h:Wx v w=true){k k':Key}(hv:(∃off,v=.c (.ptr k' off))\/(∃i off,v=.c (.kI k' i off))\/∃r p z i off,v=.c (.xq k' r p z i off))
 (hw:Ik w k):k'≠k:=by
 rintro rfl;rcases hv with⟨_,rfl⟩|⟨_,_,rfl⟩|⟨_,_,_,_,_,rfl⟩<;>rcases hw with⟨_,rfl⟩|⟨_,_,rfl⟩|rfl|rfl|⟨_,_,rfl⟩|⟨_,_,_,_,_,rfl⟩<;>simp[Wx] at h
theorem Jc{o:Oper}{t:TypeId}{a y:Operand}{s s':St}{v:V}(hop:o.op=.store t a y)(h:lC P E R o s v s'){k:Key}
 (hk:∀k',((∃off,ev s.tm a=.c (.ptr k' off))\/(∃i off,ev s.tm a=.c (.kI k' i off))\/∃r p z i off,ev s.tm a=.c (.xq k' r p z i off))->k'≠k):bn s'.st k=bn s.st k:=by
 rcases h with⟨_,_,h⟩|⟨_,_,_,h⟩|⟨_,_,h,_,_⟩
 ·rw[h];cases o.dst<;>rfl
 ·rw[h];cases o.dst<;>rfl
 ·obtain⟨dst,op,ty,pos,after,guard⟩:=o;subst hop;simp only[dw,tQ] at h;split at h
  ·rename_i k' off he;split at h
   ·obtain⟨_,_,_,h4⟩:=h;rw[<-h4,kM];exact eX _ _ _ _ (hk k' (.inl ⟨_,he⟩))
   ·exact h.elim
  ·rename_i k' i off he;split at h
   ·obtain⟨_,_,_,_,h5⟩:=h;rw[<-h5,kM];exact eX _ _ _ _ (hk k' (.inr (.inl ⟨_,_,he⟩)))
   ·exact h.elim
  ·rename_i k' r p z i off he;split at h
   ·split at h
    ·split at h
     ·obtain⟨_,_,_,_,_,h6⟩:=h;rw[<-h6,kM];exact eX _ _ _ _ (hk k' (.inr (.inr ⟨_,_,_,_,_,he⟩)))
     ·exact h.elim
    ·exact h.elim
   ·exact h.elim
  ·exact h.elim
theorem Ah{st:Nat->St}{vs:Nat->V}(hT:∀i,i<R.size->∃o,R[i]? =some o/\lC P E R o (st i) (vs i) (st (i+1))){i:Nat}(hi:i<=R.size){a:Operand}(h:settled R i a=true):
 ev (st R.size).tm a=ev (st i).tm a:=by
 cases a with
 |tmp t=>
  show look _ t=look _ t
  have key:∀n,i+n<=R.size->look (st (i+n)).tm t=look (st i).tm t:=by
   intro n
   induction n with
   |zero=>intro _;rfl
   |succ n ih=>
    intro hn;rw[zf hT t (i+(n+1)) hn,show i+(n+1)=i+n+1 from rfl,kF,if_neg,<-zf hT t (i+n) (by omega),ih (by omega)];rintro⟨_,hd⟩;have:=List.all_eq_true.1 h (i+n) (List.mem_range.2 (by omega));rw[hd] at this;simp at this;omega
  have:=key (R.size-i) (by omega)
  rwa [show i+(R.size-i)=R.size from by omega] at this
 |_=>rfl
theorem NZ{st:Nat->St}{vs:Nat->V}{p:Nat}(hed:∀(i:Nat)(o:Oper),R[i]? =some o->(o.after.toList.all (fun e=> !Region.binds .any e||decide (e.on<i))&&(match o.dst with|some d=>decide (d<N)|none=>true))=true)
 (xQ:∀o,R[p]? =some o->x9 o.op=true/\o.guard=none/\(∃d,o.dst=some d)/\∀j y,j≠p->R[j]? =some y->y.apart R o=false->∀i x,i<p->R[i]? =some x->fG E x.op=true->i<j/\((masks R.toList []).getD j 0).testBit i=true)
 (hp:∀(i j:Nat) (x y:Oper),i<j->R[i]? =some x->R[j]? =some y->((masks R.toList []).getD j 0).testBit i=true\/(x.apart R y=true/\(j=p\/((fG E x.op&&fG E y.op)=false/\(jU E x.op=true->rZ R i x j y=true)/\(jU E y.op=true->rZ R j y i x=true)))))
 (hT:∀i,i<R.size->∃o,R[i]? =some o/\lC P E R o (st i) (vs i) (st (i+1)))(hl:Il E R (st R.size).tm=true):KR E R N st p:=by
 refine⟨?_,?_,?_,?_,xQ⟩
 ·intro i o e ho he hb;have h2:=hed i o ho;simp only[Bool.and_eq_true] at h2;have h3:=List.all_eq_true.1 h2.1 e (by simpa using he);simpa [hb] using h3
 ·intro i o ho d hd;have h2:=hed i o ho;simp only[Bool.and_eq_true,hd] at h2;simpa using h2.2
 ·intro i j x y hij hx hy hc;rcases hp i j x y hij hx hy with h|⟨h1,h⟩
  ·exact .inl h
  ·unfold lW at hc;rw[h1] at hc;simp only[Bool.not_true,Bool.false_or] at hc;rcases h with h|⟨h,_⟩
   ·rw[Bool.and_eq_true] at hc;exact .inr ⟨h,hc.1,h1⟩
   ·rw[hc] at h;cases h
 ·intro i j x o hij hx ho hs hD hc
  have hjp:j≠p:=fun e=>by
   subst e;have:=(tX (E:=E) (xQ o ho).1).1;rw[hD] at this;cases this
  have NY:i≠p:=fun e=>by
   subst e;have:=(tX (E:=E) (xQ x hx).1).2.1;rw[hs] at this;cases this
  cases hb:rM R i j with
  |true=>exact .inl rfl
  |false=>
   refine .inr ?_;rintro k ⟨_,z,hz,hk⟩;have hi:i<R.size:=(Array.getElem?_eq_some_iff.1 hx).1;have hj:j<R.size:=(Array.getElem?_eq_some_iff.1 ho).1
   have hlo:rZ R i x j o=true:=by
    unfold rM at hb;by_cases e:i<j
    ·rw[if_pos e] at hb;rcases hp i j x o e hx ho with h|⟨_,h|⟨_,h,_⟩⟩
     ·rw[hb] at h;cases h
     ·exact absurd h hjp
     ·exact h hs
    ·rw[if_neg e] at hb;rcases hp j i o x (by omega) ho hx with h|⟨_,h|⟨_,_,h⟩⟩
     ·rw[hb] at h;cases h
     ·exact absurd h NY
     ·exact h hs
   unfold rZ at hlo;rw[hc,Bool.false_or] at hlo;split at hlo
   ·rename_i t a y hop;rw[Bool.and_eq_true] at hlo
    have hz':z∈o.op.operands.toList:=by simpa using hz
    have hsz:=List.all_eq_true.1 hlo.2 z hz';have h1:=List.all_eq_true.1 hl i (List.mem_range.2 hi);rw[hx] at h1;simp only[hs,Bool.not_true,Bool.false_or,hop] at h1;have h2:=List.all_eq_true.1 h1 j (List.mem_range.2 hj);rw[ho] at h2;simp only[hb,hD,hc,Bool.false_or] at h2;have h3:=List.all_eq_true.1 h2 z hz';obtain⟨x',hx',ht⟩:=hT i hi;rw[hx] at hx';cases hx';refine Jc hop ht fun k' hk'=> ?_;rw[Ah hT (by omega) hlo.1,Ah hT (by omega) hsz] at h3;exact WG h3 hk' hk
   ·cases hlo
theorem Ev{f:Nat->Nat->Oper->Oper->Bool}(h:((List.range R.size).all fun j=>
 (match R[j]? with
  |some o=>o.after.toList.all (fun e=> !Region.binds .any e||decide (e.on<j))&&(match o.dst with|some d=>decide (d<N)|none=>true)
  |none=>true)&&
 (List.range j).all fun i=>
   match R[i]?,R[j]? with
   |some x,some y=>((masks R.toList []).getD j 0).testBit i|| !(f i j x y)
   |_,_=>true)=true):
 (∀(i:Nat) (o:Oper),R[i]? =some o->(o.after.toList.all (fun e=> !Region.binds .any e||decide (e.on<i))&&(match o.dst with|some d=>decide (d<N)|none=>true))=true)/\
 ∀(i j:Nat)(x y:Oper),i<j->R[i]? =some x->R[j]? =some y->((masks R.toList []).getD j 0).testBit i=true\/f i j x y=false:=by
 refine⟨fun i o ho=> ?_,fun i j x y hij hx hy=> ?_⟩
 ·have hj:i<R.size:=(Array.getElem?_eq_some_iff.1 ho).1;have h1:=List.all_eq_true.1 h i (List.mem_range.2 hj);rw[Bool.and_eq_true,ho] at h1;exact h1.1
 ·have hj:j<R.size:=(Array.getElem?_eq_some_iff.1 hy).1;have h1:=List.all_eq_true.1 h j (List.mem_range.2 hj);rw[Bool.and_eq_true] at h1;have h2:=List.all_eq_true.1 h1.2 i (List.mem_range.2 hij);rw[hx,hy] at h2;simp only[Bool.or_eq_true,Bool.not_eq_true'] at h2;exact h2
theorem acN{st:Nat->St}{vs:Nat->V}(hok:Du E R N=true)(hT:∀i,i<R.size->∃o,R[i]? =some o/\lC P E R o (st i) (vs i) (st (i+1)))(hl:Il E R (st R.size).tm=true):KR E R N st R.size:=by
 obtain⟨h1,h2⟩:=Ev (f:=fun i j x y=>lW E R x y||(jU E x.op&& !(rZ R i x j y))||(jU E y.op&& !(rZ R j y i x))) hok;refine NZ h1 (fun o ho=>by rw[Array.getElem?_eq_none (Nat.le_refl _)] at ho;cases ho) (fun i j x y hij hx hy=>(h2 i j x y hij hx hy).imp id fun h=> ?_) hT hl;simp only[lW,Bool.or_eq_false_iff,Bool.not_eq_false',Bool.and_eq_false_imp] at h;obtain⟨⟨⟨q1,q2⟩,q3⟩,q4⟩:=h;refine⟨q1,.inr ⟨?_,q3,q4⟩⟩
 cases hx:fG E x.op with
 |false=>rfl
 |true=>rw[q2 hx];rfl
theorem Zw{st:Nat->St}{vs:Nat->V}{p:Nat}(hok:Ep E R N p=true)(hT:∀i,i<R.size->∃o,R[i]? =some o/\lC P E R o (st i) (vs i) (st (i+1)))(hl:Il E R (st R.size).tm=true):KR E R N st p:=by
 unfold Ep at hok;rw[Bool.and_eq_true] at hok;obtain⟨h1,h2⟩:=Ev (f:=fun i j x y=> !(x.apart R y)||(!(decide (j=p))&&((fG E x.op&&fG E y.op)||(jU E x.op&& !(rZ R i x j y))||(jU E y.op&& !(rZ R j y i x))))) hok.2;refine NZ h1 (MR hok.1) (fun i j x y hij hx hy=>(h2 i j x y hij hx hy).imp id fun h=> ?_) hT hl;rw[Bool.or_eq_false_iff,Bool.not_eq_false'] at h;refine⟨h.1,?_⟩;by_cases e:j=p
 ·exact .inl e
 ·have h3:=h.2;simp only[e,decide_false,Bool.not_false,Bool.true_and,Bool.or_eq_false_iff] at h3;obtain⟨⟨q2,q3⟩,q4⟩:=h3;exact .inr ⟨q2,fun hx=>by rw[hx] at q3;simpa using q3,fun hy=>by rw[hy] at q4;simpa using q4⟩
theorem QM{id:Nat}{Q:Exit->St->Prop}{s:St}(eH:P.follows .mixedOrders=true)(hok:Du E R N=true)(h:rJ P E R R.toList s (fun s'=>Il E R s'.tm=true/\Q .normal s')):AW P N (.region id R true) Q s:=by
 obtain⟨st,vs,h0,hK,hT⟩:=Et R.size 0 (by omega) s h;have hT':=fun i hi=>hT i (Nat.zero_le i) hi;exact Bf eH h0 hK.2 hT' (acN hok hT' hK.1)
theorem Jd{id:Nat}{Q:Exit->St->Prop}{s:St}(eH:P.follows .mixedOrders=true)(hok:Er R N=true)(h:rJ P (r9 R N) R R.toList s (fun s'=>Il (r9 R N) R s'.tm=true/\Q .normal s')):AW P N (.region id R true) Q s:=by
 unfold Er at hok;rw[Bool.or_eq_true] at hok;rcases hok with hok|hok
 ·exact QM eH hok h
 ·split at hok
  ·obtain⟨st,vs,h0,hK,hT⟩:=Et R.size 0 (by omega) s h;have hT':=fun i hi=>hT i (Nat.zero_le i) hi;exact Bf eH h0 hK.2 hT' (Zw hok hT' hK.1)
  ·cases hok
end
section
variable {P:Program} {w w':World} {σ σ':Nat->Nat} {S S':Store} {β β':Hs} {N:Nat} {s:St} {a:Act}
theorem oD{c:Code}{Q:Exit->St->Prop}{s s':St}(h:AW P N c Q s')
 (hg:∀(a:Act) (w:World) (σ:Nat->Nat) (β:Hs),jM N s a w σ β->∃σ' β',jM N s' a w σ' β'/\Step s.st β σ w s'.st β' σ' w/\Keep (gT s.st) (gT β) (gT s'.st) (gT β')):AW P N c Q s:=by
 intro a w σ β hR;obtain⟨σ',β',hR',hst,hk⟩:=hg a w σ β hR;refine wp_mono (h a w σ' β' hR') ?_;rintro e a' w' ⟨s'',AR,β'',k1,k2,k3,k4⟩;exact⟨s'',AR,β'',k1,hst.trans k2,hk.trans k3,k4⟩
def jh(N:Nat)(s s':St):Prop:=∀(a:Act)(w:World)(σ:Nat->Nat)(β:Hs),jM N s a w σ β->∃σ' β',jM N s' a w σ' β'/\Step s.st β σ w s'.st β' σ' w/\Keep (gT s.st) (gT β) (gT s'.st) (gT β')
theorem jh.refl(N:Nat)(s:St):jh N s s:=fun a w σ β hR=>⟨σ,β,hR,Step.pE (Grow.refl hR.S.live),Keep.refl _ _⟩
theorem jh.trans{s s' s'':St}(h:jh N s s')(k:jh N s' s''):jh N s s'':=fun a w σ β hR=>by
 obtain⟨σ1,β1,r1,st1,k1⟩:=h a w σ β hR;obtain⟨σ2,β2,r2,st2,k2⟩:=k a w σ1 β1 r1;exact⟨σ2,β2,r2,st1.trans st2,k1.trans k2⟩
theorem QN{tm tm':List (Nat×V)}(hl:∀t,look tm' t=look tm t\/look tm' t=.any):jh N ⟨tm,S⟩ ⟨tm',S⟩:=
 fun a w σ β hR=>⟨σ,β,⟨hR.size,hR.defers,hR.S,fun t=>by
  rcases hl t with e|e
  ·show dN w σ S β (look tm' t) _;rw[e];exact hR.T t
  ·show dN w σ S β (look tm' t) _;rw[e];trivial⟩,Step.pE (Grow.refl hR.S.live),Keep.refl _ _⟩
theorem WH{c:Code}{Q:Exit->St->Prop}{tm tm':List (Nat×V)}(h:AW P N c Q ⟨tm',S⟩)(hl:∀t,look tm' t=look tm t\/look tm' t=.any):AW P N c Q ⟨tm,S⟩:=
 oD h fun a w σ β hR=>⟨σ,β,⟨hR.size,hR.defers,hR.S,fun t=>by
  rcases hl t with e|e
  ·show dN w σ S β (look tm' t) _;rw[e];exact hR.T t
  ·show dN w σ S β (look tm' t) _;rw[e];trivial⟩,Step.pE (Grow.refl hR.S.live),Keep.refl _ _⟩
def C.tY:C->C
 | .bV _ es=>.d (.sl es)
 | .bM es=>.d (.sl es)
 |c=>c
def V.tY:V->V
 | .c x=>.c x.tY
 | .agg cs=>.agg (cs.map C.tY)
 |v=>v
theorem QO{c:C}{v:Value}(h:iq w σ S β c v):iq w σ S β c.tY v:=by
 cases c with
 |bV k es=>exact h.1
 |bM es=>exact h.1
 |_=>exact h
theorem QS{x:V}{v:Value}(h:dN w σ S β x v):dN w σ S β x.tY v:=by
 cases x with
 |c x=>exact⟨QO h.1,h.2⟩
 |agg cs=>
  obtain⟨ar,ha,hl,hc⟩:=h;refine⟨ar,ha,by simpa using hl,fun j x hx=> ?_⟩;rw[List.getElem?_map] at hx
  cases hcj:cs[j]? with
  |none=>rw[hcj] at hx;cases hx
  |some y=>
   rw[hcj] at hx;cases hx;obtain⟨v,hv,hr,ho⟩:=hc j y hcj;exact⟨v,hv,QO hr,ho⟩
 |_=>exact h
theorem bY.weaken{f:FuncId}{args args':List V}{post:V->Store->Prop}(h:bY P f args' S post)(hl:args.length=args'.length)
 (hw:∀(j:Nat) (x y:V),args[j]? =some x->args'[j]? =some y->∀w σ β v,dN w σ S β x v->dN w σ S β y v):bY P f args S post:=by
 refine⟨h.1,fun w σ β vs hS hv=>h.2 w σ β vs hS ⟨by rw[<-hl];exact hv.1,fun j y hy=> ?_⟩⟩;have hj:=(List.getElem?_eq_some_iff.1 hy).1;have hx:args[j]? =some (args[j]'(by omega)):=List.getElem?_eq_getElem (by omega);obtain⟨v,h1,h2⟩:=hv.2 j _ hx;exact⟨v,h1,hw j _ y hx hy w σ β v h2⟩
theorem bY.tY{f:FuncId}{args:List V}{post:V->Store->Prop}(h:bY P f (args.map V.tY) S post):bY P f args S post:=
 h.weaken (by simp) fun j x y hx hy w σ β v hr=>by
  rw[List.getElem?_map,hx] at hy;cases hy;exact QS hr
theorem bY.mono{f:FuncId}{args:List V}{post post':V->Store->Prop}(h:bY P f args S post)(hp:∀r S',post r S'->post' r S'):bY P f args S post':=
 ⟨h.1,fun w σ β vs hS hv=>(h.2 w σ β vs hS hv).mono fun e w' ⟨v,r,S',σ',β',h1,h2,h3,h4,h5,h6⟩=>⟨v,r,S',σ',β',h1,h2,h3,h4,h5,hp _ _ h6⟩⟩
theorem Ew{f:FuncId}{args:List V}{s:St}{dst:Option Nat}{K:St->Prop}{r:V}(h:aX P f (args.map V.tY) r)(hK:K (St.put s dst r)):yJ P f args s dst K:=
 .inl ⟨_,(h s.st).tY,fun r' S' hp=>by rw[hp.1,hp.2];exact hK⟩
theorem kN{c:Code}{Q:Exit->St->Prop}{tm:List (Nat×V)}{own:List Obj}{Ω:Store}(t bB:Nat)(es:List (List D))(hv:look tm t=.c (.bM es))(hes:∀e∈es,e.length=bB)
 (h:AW P N c Q ⟨(t,.c (.bV (0,own.length) es))::tm,(own++[.tok bB es])::Ω⟩):AW P N c Q ⟨tm,own::Ω⟩:=by
 refine oD h fun a w σ β hR=> ?_;obtain⟨bo,bΩ,rfl,hlen⟩:=frames hR;have ht:=hR.T t;rw[hv] at ht;obtain⟨⟨hd,ad,n,hval⟩,hone⟩:=ht
 have hn:n=es.length:=by rw[hval] at hd;cases hd<;>rfl
 have hg:Grow w σ w σ:=Grow.refl hR.S.live
 obtain⟨hS',hk,hst⟩:=hR.S.push (o:=.tok bB es) (h:=a.tmps.getD t undef) hg hlen ⟨hd,hes,ad,n,by rw[hval,hn],by omega,.inl hn⟩ (fun b hb=>by
  rw[hval,hn] at hb
  cases ad<;>simp[owns,blk] at hb)
 refine⟨σ,_,⟨hR.size,hR.defers,hS',fun u=> ?_⟩,hst,Keep.refl _ _⟩;show dN w σ _ _ (if t=u then _ else look tm u) _;by_cases e:t=u
 ·subst e;rw[if_pos rfl];refine⟨⟨hd,_,dB _ _ _,fun a b e=> ?_⟩,hone⟩;obtain⟨_,rfl⟩:=qp (lab:=none) e;exact⟨Nat.le_refl _,fun _=>by rw[<-hlen,dB]⟩
 ·rw[if_neg e];exact(hR.T u).mono (fq.refl _ _) hk
def sZ(n:Nat)(k:Key):Bool:=decide (0<k.1)||decide (k.2<n)
def C.refs(n:Nat):C->Bool
 | .bV k _=>sZ n k
 | .ptr k _=>sZ n k
 | .kI k _ _=>sZ n k
 | .iU k=>sZ n k
 | .mp k=>sZ n k
 | .fn _ caps=>caps.all fun x=>sZ n x.1
 | .xp k _ _=>sZ n k
 | .xq k _ _ _ _ _=>sZ n k
 |_=>true
def V.refs(n:Nat):V->Bool
 | .c x=>x.refs n
 | .agg cs=>cs.all (C.refs n)
 | .eD xs=>xs.all fun y=>y.2.all (C.refs n)
 | .any=>true
def Obj.refs(n:Nat):Obj->Bool
 | .box cs=>cs.all (C.refs n)
 |_=>true
theorem iX{α:Type}{own:List α}{Ω:List (List α)}{n:Nat}{k:Key}(h:sZ n k=true):bn (own.take n::Ω) k=bn (own::Ω) k:=by
 obtain⟨l,j⟩:=k
 cases l with
 |zero=>
  simp[sZ] at h;rw[bK,bK,List.getElem?_take_of_lt h]
 |succ l=>rw[bZ,bZ]
theorem lZ{α:Type}{own:List α}{Ω:List (List α)}{n:Nat}{k:Key}{o:α}(h:bn (own.take n::Ω) k=some o):bn (own::Ω) k=some o/\sZ n k=true:=by
 obtain⟨l,j⟩:=k
 cases l with
 |zero=>
  rw[bK] at h ⊢;have hj:=(List.getElem?_eq_some_iff.1 h).1;simp at hj;rw[List.getElem?_take_of_lt (by omega)] at h;exact⟨h,by simp[sZ];omega⟩
 |succ l=>rw[bZ] at h ⊢;exact⟨h,by simp[sZ]⟩
theorem Gj{own:List Obj}{Ω:Store}{bo:List Value}{bΩ:Hs}{n:Nat}{c:C}{v:Value}(hr:c.refs n=true)(h:iq w σ (own::Ω) (bo::bΩ) c v):iq w σ (own.take n::Ω) (bo.take n::bΩ) c v:=by
 cases c with
 |d x=>exact h
 |any=>exact h
 |bM es=>exact h
 |kV cs=>exact h
 |bV k es=>
  obtain⟨h1,o,ho,h2⟩:=h;exact⟨h1,o,(iX hr).trans ho,fun a b e=>by rw[iX hr];exact h2 a b e⟩
 |ptr k off=>
  obtain⟨o,ho,h2⟩:=h;exact⟨o,(iX hr).trans ho,fun a e=>by rw[iX hr];exact h2 a e⟩
 |kI k i off=>
  obtain⟨o,ho,h2⟩:=h;exact⟨o,(iX hr).trans ho,fun a b e=>by rw[iX hr];exact h2 a b e⟩
 |iU k=>
  obtain⟨o,ho,h2⟩:=h;exact⟨o,(iX hr).trans ho,fun a b e=>by rw[iX hr];exact h2 a b e⟩
 |mp k=>
  obtain⟨o,ho,h2⟩:=h;exact⟨o,(iX hr).trans ho,fun a e=>by rw[iX hr];exact h2 a e⟩
 |fn f caps=>
  obtain⟨vs,hv,hl,h2⟩:=h;refine⟨vs,hv,hl,fun j k off e=> ?_⟩;obtain⟨u,hu,h1c,o,ho,h3⟩:=h2 j k off e;have hk:sZ n k=true:=List.all_eq_true.1 hr (k,off) (List.mem_of_getElem? e);exact⟨u,hu,h1c,o,(iX hk).trans ho,fun cs e=>by rw[iX hk];exact h3 cs e⟩
 |nA m es=>exact h
 |xp k r p=>
  obtain⟨o,ho,h2⟩:=h;exact⟨o,(iX hr).trans ho,fun a e=>by rw[iX hr];exact h2 a e⟩
 |xq k r p z i off=>
  obtain⟨o,ho,h2⟩:=h;exact⟨o,(iX hr).trans ho,fun a e=>by rw[iX hr];exact h2 a e⟩
theorem Ey{own:List Obj}{Ω:Store}{bo:List Value}{bΩ:Hs}{n:Nat}{cs:List C}{vs:List Value}(hr:cs.all (C.refs n)=true)(h:fO w σ (own::Ω) (bo::bΩ) cs vs):fO w σ (own.take n::Ω) (bo.take n::bΩ) cs vs:=
 ⟨h.1,fun j x hx=>let⟨v,hv,hc,ho⟩:=h.2 j x hx;⟨v,hv,Gj (List.all_eq_true.1 hr x (List.mem_of_getElem? hx)) hc,ho⟩⟩
theorem Zx{own:List Obj}{Ω:Store}{bo:List Value}{bΩ:Hs}{n:Nat}{x:V}{v:Value}(hr:x.refs n=true)(h:dN w σ (own::Ω) (bo::bΩ) x v):dN w σ (own.take n::Ω) (bo.take n::bΩ) x v:=by
 cases x with
 |c x=>exact⟨Gj hr h.1,h.2⟩
 |agg cs=>obtain⟨ar,ha,hc⟩:=h;exact⟨ar,ha,Ey hr hc⟩
 |eD xs=>
  obtain⟨ar,ha,hl,h2⟩:=h;refine⟨ar,ha,hl,fun j y hy=> ?_⟩;obtain⟨u,hu,h3⟩:=h2 j y hy;have hy':y.2.all (C.refs n)=true:=List.all_eq_true.1 hr y (List.mem_of_getElem? hy);refine⟨u,hu,?_⟩;obtain⟨b,cs⟩:=y
  cases b with
  |true=>obtain⟨a',e,hcs⟩:=h3;exact⟨a',e,Ey hy' hcs⟩
  |false=>
   obtain⟨x,e,hx,ho⟩:=h3;subst e;simp at hy';exact⟨x,rfl,Gj hy' hx,ho⟩
 |any=>trivial
def wV(n:Nat)(tm:List (Nat×V)):Bool:=tm.all fun x=>x.2.refs n
theorem N7{n:Nat}:∀(tm:List (Nat×V))(t:Nat),wV n tm=true->(look tm t).refs n=true
 |[],_,_=>rfl
 |(x,v)::tm,t,h=>by
  simp only[wV,List.all_cons,Bool.and_eq_true] at h;rw[look];split
  ·exact h.1
  ·exact N7 tm t h.2
theorem WI{tm:List (Nat×V)}{own:List Obj}{Ω:Store}(n:Nat)(h1:wV n tm=true)(h2:(own.take n).all (Obj.refs n)=true):jh N ⟨tm,own::Ω⟩ ⟨tm,own.take n::Ω⟩:=by
 intro a w σ β hR;obtain⟨bo,bΩ,rfl,hlen⟩:=frames hR
 have hown:∀b,Own (own.take n::Ω) (bo.take n::bΩ) b->Own (own::Ω) (bo::bΩ) b:=by
  rintro b ⟨k,o,hv,e1,e2,e3⟩;exact⟨k,o,hv,(lZ e1).1,(lZ e2).1,e3⟩
 refine⟨σ,bo.take n::bΩ,⟨hR.size,hR.defers,⟨fun k o ho=> ?_,fun k k' o o' h1 h2 b e1 e2 e3 e4 e5 e6=> ?_,⟨by have:=hR.S.shape.1;simpa using this,fun l fr hl=> ?_⟩,hR.S.live,hR.S.wJ⟩,fun t=>Zx (N7 tm t h1) (hR.T t)⟩,
  ⟨Nat.le_refl _,rfl,rfl,fun _ _ _=>⟨rfl,rfl⟩,fq.refl _ _,fun b hb=>.inl (hown b hb)⟩,Keep.refl _ _⟩
 ·obtain⟨ho',hk⟩:=lZ ho;obtain⟨hv,hh,hr⟩:=hR.S.obj k o ho';refine⟨hv,(iX hk).trans hh,?_⟩;obtain⟨l,j⟩:=k
  cases l with
  |zero=>
   cases o with
   |dead=>trivial
   |box cs=>
    obtain⟨b,cc,t,e,hb,hs,hc⟩:=hr;rw[bK] at ho;have hcs:cs.all (C.refs n)=true:=List.all_eq_true.1 h2 (.box cs) (List.mem_of_getElem? ho);exact⟨b,cc,t,e,hb,hs,Ey hcs hc⟩
   |tok=>exact hr
   |eZ=>exact hr
   |mp=>exact hr
   |jD=>exact hr
   |seed=>exact hr
   |xf=>exact hr
  |succ l=>exact hr
 ·exact hR.S.apart k k' o o' h1 h2 b (lZ e1).1 (lZ e2).1 e3 (lZ e4).1 (lZ e5).1 e6
 ·cases l with
  |zero=>
   simp at hl;subst hl;exact⟨_,rfl,by simp[hlen]⟩
  |succ l=>exact hR.S.shape.2 (l+1) fr hl
def C.mD(j:Nat)(es:List (List D)):C->C
 | .iU (0,i)=>if i=j then .d (.sl es) else .iU (0,i)
 |c=>c
def V.mD(j:Nat)(es:List (List D)):V->V
 | .c x=>.c (x.mD j es)
 | .agg cs=>.agg (cs.map (C.mD j es))
 | .eD xs=>.eD (xs.map fun y=>(y.1,y.2.map (C.mD j es)))
 | .any=>.any
def Obj.mD(j:Nat)(es:List (List D)):Obj->Obj
 | .box cs=>.box (cs.map (C.mD j es))
 |o=>o
theorem Ez{f:V->V}(hf:f .any=.any):∀(tm:List (Nat×V))(t:Nat),look (tm.map fun x=>(x.1,f x.2)) t=f (look tm t)
 |[],_=>hf.symm
 |(x,v)::tm,t=>by
  show(if x=t then f v else look (tm.map fun x=>(x.1,f x.2)) t)=f (if x=t then v else look tm t);split
  ·rfl
  ·exact Ez hf tm t
def V.lT(f:C->C):V->V
 | .c x=>.c (f x)
 | .agg cs=>.agg (cs.map f)
 | .eD xs=>.eD (xs.map fun y=>(y.1,y.2.map f))
 | .any=>.any
def Obj.lT(f:C->C):Obj->Obj
 | .box cs=>.box (cs.map f)
 |o=>o
theorem wW{f:C->C}{own:List Obj}{j i:Nat}:((own.map (Obj.lT f)).set j .dead)[i]? =if i=j then(if j<own.length then some .dead else none) else(own[i]?).map (Obj.lT f):=by
 rw[List.getElem?_set];by_cases e:j=i
 ·subst e;simp
 ·rw[if_neg e,if_neg (Ne.symm e),List.getElem?_map]
theorem vV{f:C->C}{own:List Obj}{Ω:Store}{j:Nat}{oj:Obj}(hj:own[j]? =some oj){k:Key}{o:Obj}(hk:bn (own::Ω) k=some o):
 ∃o',bn ((own.map (Obj.lT f)).set j .dead::Ω) k=some o'/\((k=(0,j)/\o'=.dead)\/(k≠(0,j)/\(o'=o\/o'=o.lT f))):=by
 obtain⟨l,i⟩:=k
 cases l with
 |zero=>
  rw[bK] at hk;by_cases e:i=j
  ·subst e;refine⟨.dead,?_,.inl ⟨rfl,rfl⟩⟩;rw[bK,wW,if_pos rfl,if_pos (List.getElem?_eq_some_iff.1 hj).1]
  ·refine⟨o.lT f,?_,.inr ⟨fun x=>e (by cases x;rfl),.inr rfl⟩⟩;rw[bK,wW,if_neg e,hk];rfl
 |succ l=>exact⟨o,by rw[bZ] at hk ⊢;exact hk,.inr ⟨by simp,.inl rfl⟩⟩
theorem qX{f:C->C}{o o':Obj}(h:o'=o\/o'=o.lT f):(∀z es,rD o' z es->rD o z es)/\(∀z es,o'=.eZ z es->o=.eZ z es)/\(∀m,o'=.mp m->o=.mp m)/\(∀cs,o'=.box cs->∃cs',o=.box cs')/\(∀rs,o'=.xf rs->o=.xf rs):=by
 rcases h with rfl|rfl
 ·exact⟨fun _ _ h=>h,fun _ _ h=>h,fun _ h=>h,fun cs h=>⟨cs,h⟩,fun _ h=>h⟩
 ·cases o<;>simp[Obj.lT,rD]
theorem WJ{f:C->C}{own:List Obj}{Ω:Store}{bo:List Value}{bΩ:Hs}{j:Nat}{oj:Obj}(hj:own[j]? =some oj)(hn:fq w σ w σ'){c:C}{v:Value}(hc:iq w σ (own::Ω) (bo::bΩ) c v):
 iq w σ' ((own.map (Obj.lT f)).set j .dead::Ω) (bo::bΩ) c v:=by
 cases c with
 |d x=>exact dM.mono hn hc
 |any=>trivial
 |bM es'=>exact⟨dM.mono hn hc.1,hc.2⟩
 |nA n es'=>exact⟨dM.mono hn hc.1,hc.2⟩
 |kV cs=>obtain⟨ad,h1,h2⟩:=hc;exact⟨ad,h1,h2.mono hn⟩
 |bV k es'=>
  obtain⟨h1,o,ho,h2⟩:=hc;obtain⟨o',ho',hcase⟩:=vV hj ho;refine⟨dM.mono hn h1,o',ho',fun z e4 e=> ?_⟩;rcases hcase with⟨_,e'⟩|⟨_,e'⟩
  ·rw[e'] at e;rcases e with e|⟨_,e⟩<;>cases e
  ·exact h2 _ _ ((qX e').1 _ _ e)
 |ptr k off=>
  obtain⟨o,ho,h2⟩:=hc;obtain⟨o',ho',hcase⟩:=vV hj ho;refine⟨o',ho',fun cs e=> ?_⟩;rcases hcase with⟨_,e'⟩|⟨_,e'⟩
  ·rw[e'] at e;cases e
  ·obtain⟨cs',e''⟩:=(qX e').2.2.2.1 _ e;exact h2 _ e''
 |kI k i off=>
  obtain⟨o,ho,h2⟩:=hc;obtain⟨o',ho',hcase⟩:=vV hj ho;refine⟨o',ho',fun z e4 e=> ?_⟩;rcases hcase with⟨_,e'⟩|⟨_,e'⟩
  ·rw[e'] at e;cases e
  ·exact h2 _ _ ((qX e').2.1 _ _ e)
 |iU k=>
  obtain⟨o,ho,h2⟩:=hc;obtain⟨o',ho',hcase⟩:=vV hj ho;refine⟨o',ho',fun z e4 e=> ?_⟩;rcases hcase with⟨_,e'⟩|⟨_,e'⟩
  ·rw[e'] at e;cases e
  ·exact h2 _ _ ((qX e').2.1 _ _ e)
 |mp k=>
  obtain⟨o,ho,h2⟩:=hc;obtain⟨o',ho',hcase⟩:=vV hj ho;refine⟨o',ho',fun m e=> ?_⟩;rcases hcase with⟨_,e'⟩|⟨_,e'⟩
  ·rw[e'] at e;cases e
  ·exact h2 _ ((qX e').2.2.1 _ e)
 |fn f caps=>
  obtain⟨vs,hv,hl,h2⟩:=hc;refine⟨vs,hv,hl,fun i k off e=> ?_⟩;obtain⟨u,hu,h1c,o,ho,h3⟩:=h2 i k off e;obtain⟨o',ho',hcase⟩:=vV hj ho;refine⟨u,hu,h1c,o',ho',fun cs e=> ?_⟩;rcases hcase with⟨_,e'⟩|⟨_,e'⟩
  ·rw[e'] at e;cases e
  ·obtain⟨cs',e''⟩:=(qX e').2.2.2.1 _ e;exact h3 _ e''
 |xp k r p=>
  obtain⟨o,ho,h2⟩:=hc;obtain⟨o',ho',hcase⟩:=vV hj ho;refine⟨o',ho',fun rs e=> ?_⟩;rcases hcase with⟨_,e'⟩|⟨_,e'⟩
  ·rw[e'] at e;cases e
  ·exact h2 _ ((qX e').2.2.2.2 _ e)
 |xq k r p z i off=>
  obtain⟨o,ho,h2⟩:=hc;obtain⟨o',ho',hcase⟩:=vV hj ho;refine⟨o',ho',fun rs e=> ?_⟩;rcases hcase with⟨_,e'⟩|⟨_,e'⟩
  ·rw[e'] at e;cases e
  ·exact h2 _ ((qX e').2.2.2.2 _ e)
theorem acO{f:C->C}{tm:List (Nat×V)}{own:List Obj}{Ω:Store}{bo:List Value}{bΩ:Hs}(j:Nat){oj:Obj}{hj:Value}(hoj:own[j]? =some oj)(hbj:bo[j]? =some hj)(hR:jM N ⟨tm,own::Ω⟩ a w σ (bo::bΩ))(hlen:bo.length=own.length)
 (hn:fq w σ w σ')(hch:∀x,¬owns oj hj x->σ' x=σ x)(hlive:∀x,x<w.heap.size\/σ' x=0)
 (hC:∀(c:C) (v:Value),iq w σ (own::Ω) (bo::bΩ) c v->iq w σ' ((own.map (Obj.lT f)).set j .dead::Ω) (bo::bΩ) (f c) v):
 jM N ⟨tm.map fun x=>(x.1,x.2.lT f),(own.map (Obj.lT f)).set j .dead::Ω⟩ a w σ' (bo::bΩ)/\Step (own::Ω) (bo::bΩ) σ w ((own.map (Obj.lT f)).set j .dead::Ω) (bo::bΩ) σ' w:=by
 have PD:∀k o,bn ((own.map (Obj.lT f)).set j .dead::Ω) k=some o->(k=(0,j)/\o=.dead)\/(k≠(0,j)/\∃o0,bn (own::Ω) k=some o0/\(o=o0\/o=o0.lT f)/\(0<k.1->o=o0)/\∀h b,owns o h b<->owns o0 h b):=by
  intro k o hk;obtain⟨l,i⟩:=k
  cases l with
  |zero=>
   rw[bK,wW] at hk;by_cases e:i=j
   ·subst e;rw[if_pos rfl,if_pos (List.getElem?_eq_some_iff.1 hoj).1] at hk;cases hk;exact .inl ⟨rfl,rfl⟩
   ·rw[if_neg e] at hk
    cases ho:own[i]? with
    |none=>rw[ho] at hk;cases hk
    |some o0=>
     rw[ho] at hk;cases hk;refine .inr ⟨fun x=>e (by cases x;rfl),o0,by rw[bK];exact ho,.inr rfl,fun h=>absurd h (by simp),fun h b=> ?_⟩
     cases o0 with
     |box cs=>cases h<;>first|exact Iff.rfl|(rename_i x;cases x<;>exact Iff.rfl)
     |_=>exact Iff.rfl
  |succ l=>rw[bZ] at hk;exact .inr ⟨by simp,o,by rw[bZ];exact hk,.inl rfl,fun _=>rfl,fun _ _=>Iff.rfl⟩
 have hCs:∀(cs:List C)(vs:List Value),fO w σ (own::Ω) (bo::bΩ) cs vs->fO w σ' ((own.map (Obj.lT f)).set j .dead::Ω) (bo::bΩ) (cs.map f) vs:=by
  intro cs vs hc;refine⟨by simpa using hc.1,fun i x hx=> ?_⟩;rw[List.getElem?_map] at hx
  cases hci:cs[i]? with
  |none=>rw[hci] at hx;cases hx
  |some y=>
   rw[hci] at hx;cases hx;obtain⟨v,hv,hr,ho⟩:=hc.2 i y hci;exact⟨v,hv,hC y v hr,ho⟩
 have hother:∀k o h x,k≠(0,j)->bn (own::Ω) k=some o->bn (bo::bΩ) k=some h->owns o h x->σ' x=σ x:=by
  intro k o h x hk e1 e2 e3;refine hch x fun e4=>hk ?_;exact hR.S.apart k (0,j) o _ h _ x e1 e2 e3 (by rw[bK];exact hoj) (by rw[bK];exact hbj) e4
 refine⟨⟨hR.size,hR.defers,⟨fun k o ho=> ?_,fun k k' o o' h1 h2 b' e1 e2 e3 e4 e5 e6=> ?_,⟨by have:=hR.S.shape.1;simpa using this,fun l fr hl=> ?_⟩,hlive,hR.S.wJ.near hn⟩,fun t=> ?_⟩,⟨Nat.le_refl _,rfl,rfl,fun x hx hno=>⟨rfl,?_⟩,hn,fun x hx=> ?_⟩⟩
 ·rcases PD k o ho with⟨rfl,rfl⟩|⟨hk,o0,h0,hcase,hl0,how⟩
  ·exact⟨_,by rw[bK];exact hbj,trivial⟩
  ·obtain⟨hv,hhv,hr⟩:=hR.S.obj k o0 h0;refine⟨hv,hhv,?_⟩;have hbk:∀x,owns o0 hv x->w.heap[x]? =w.heap[x]? /\σ' x=σ x:=fun x e=>⟨rfl,hother k o0 hv x hk h0 hhv e⟩;obtain⟨l,i⟩:=k
   cases l with
   |succ l=>
    rw[hl0 (by simp)];exact gJ.mono hn (Keep.refl _ _) hbk hr
   |zero=>
    cases o0 with
    |box cs=>
     obtain⟨b',cc',t',e',hb',hs',hc'⟩:=hr;subst e'
     have he:o=.box (cs.map f):=by
      rw[bK,wW] at ho;rw[bK] at h0;split at ho
      ·rename_i e;exact absurd (by rw[e]) hk
      ·rw[h0] at ho;cases ho;rfl
     rw[he];exact⟨b',cc',t',rfl,hb',(hbk b' rfl).2.trans hs',hCs _ _ hc'⟩
    |dead=>rcases hcase with rfl|rfl<;>trivial
    |tok z es'=>
     have:o=.tok z es':=by rcases hcase with rfl|rfl<;>rfl
     rw[this];exact gJ.mono (S:=[]) (β:=[]) (o:=(.tok z es')) hn (Keep.refl [] []) hbk hr
    |eZ z es'=>
     have:o=.eZ z es':=by rcases hcase with rfl|rfl<;>rfl
     rw[this];exact gJ.mono (S:=[]) (β:=[]) (o:=(.eZ z es')) hn (Keep.refl [] []) hbk hr
    |mp m=>
     have:o=.mp m:=by rcases hcase with rfl|rfl<;>rfl
     rw[this];exact gJ.mono (S:=[]) (β:=[]) (o:=(.mp m)) hn (Keep.refl [] []) hbk hr
    |jD n z es'=>
     have:o=.jD n z es':=by rcases hcase with rfl|rfl<;>rfl
     rw[this];exact gJ.mono (S:=[]) (β:=[]) (o:=(.jD n z es')) hn (Keep.refl [] []) hbk hr
    |seed n=>rcases hcase with rfl|rfl<;>trivial
    |xf rs=>
     have:o=.xf rs:=by rcases hcase with rfl|rfl<;>rfl
     rw[this];exact gJ.mono (S:=[]) (β:=[]) (o:=(.xf rs)) hn (Keep.refl [] []) hbk hr
 ·rcases PD k o e1 with⟨rfl,rfl⟩|⟨hk,o0,f1,_,_,f2⟩
  ·cases e3
  ·rcases PD k' o' e4 with⟨rfl,rfl⟩|⟨hk',o0',g1,_,_,g2⟩
   ·cases e6
   ·exact hR.S.apart k k' o0 o0' h1 h2 b' f1 e2 ((f2 _ _).1 e3) g1 e5 ((g2 _ _).1 e6)
 ·cases l with
  |zero=>
   simp at hl;subst hl;exact⟨_,rfl,by simp[hlen]⟩
  |succ l=>exact hR.S.shape.2 (l+1) fr hl
 ·show dN w σ' ((own.map (Obj.lT f)).set j .dead::Ω) (bo::bΩ) (look (tm.map fun x=>(x.1,x.2.lT f)) t) _;rw[Ez (f:=V.lT f) rfl];have ht:=hR.T t
  cases hx:look tm t with
  |c x=>rw[hx] at ht;exact⟨hC x _ ht.1,ht.2⟩
  |agg cs=>rw[hx] at ht;obtain⟨ar,e,hc⟩:=ht;exact⟨ar,e,hCs _ _ hc⟩
  |eD xs=>
   rw[hx] at ht;obtain⟨ar,e,hl,h2⟩:=ht;refine⟨ar,e,by simpa using hl,fun i y hy=> ?_⟩;rw[List.getElem?_map] at hy
   cases hxi:xs[i]? with
   |none=>rw[hxi] at hy;cases hy
   |some z=>
    rw[hxi] at hy;cases hy;obtain⟨u,hu,h3⟩:=h2 i z hxi;refine⟨u,hu,?_⟩;obtain⟨bb,cs⟩:=z
    cases bb with
    |true=>obtain⟨a',e',hcs⟩:=h3;exact⟨a',e',hCs _ _ hcs⟩
    |false=>
     obtain⟨x,e',hxr,ho⟩:=h3;subst e';exact⟨_,rfl,hC x _ hxr,ho⟩
  |any=>trivial
 ·exact hch x fun e=>hno ⟨(0,j),_,_,by rw[bK];exact hoj,by rw[bK];exact hbj,e⟩
 ·left;obtain⟨k,o,h1,e1,e2,e3⟩:=hx;rcases PD k o e1 with⟨rfl,rfl⟩|⟨hk,o0,f1,_,_,f2⟩
  ·cases e3
  ·exact⟨k,o0,h1,f1,e2,(f2 _ _).1 e3⟩
theorem acP{j:Nat}{es:List (List D)}:Obj.mD j es=Obj.lT (C.mD j es):=by funext o;cases o<;>rfl
theorem acQ{j:Nat}{es:List (List D)}:V.mD j es=V.lT (C.mD j es):=by funext v;cases v<;>rfl
theorem agp{tm:List (Nat×V)}{own:List Obj}{Ω:Store}(j:Nat)(bB:Nat)(es:List (List D))(hj:own[j]? =some (.eZ bB es))(hR:jM N ⟨tm,own::Ω⟩ a w σ β):
 ∃σ' β',jM N ⟨tm.map fun x=>(x.1,x.2.mD j es),(own.map (Obj.mD j es)).set j .dead::Ω⟩ a w σ' β'/\Step (own::Ω) β σ w ((own.map (Obj.mD j es)).set j .dead::Ω) β' σ' w/\
  Keep (gT (own::Ω)) (gT β) (gT ((own.map (Obj.mD j es)).set j .dead::Ω)) (gT β'):=by
 obtain⟨bo,bΩ,rfl,hlen⟩:=frames hR;obtain⟨hh,hb,hr⟩:=hR.S.obj (0,j) _ (by rw[bK];exact hj);rw[bK] at hb
 obtain⟨σ',hn,hch,hlive,hdata⟩:∃σ',fq w σ w σ'/\(∀x,¬owns (.eZ bB es) hh x->σ' x=σ x)/\(∀x,x<w.heap.size\/σ' x=0)/\dM w σ' (.sl es) hh:=by
  obtain⟨hle,ad,cap,rfl,hcap,h4⟩:=hr;by_cases h0:cap=0
  ·obtain rfl:es=[]:=List.eq_nil_of_length_eq_zero (by omega);exact⟨σ,fq.refl _ _,fun _ _=>rfl,hR.S.live,.nil _ _⟩
  rcases h4 with h4|⟨b,cc,ty,rfl,hbc,hσ,hcz,hcells⟩
  ·exact absurd h4 h0
  have hsz:es.length*bB<=cc.size:=Nat.le_trans (Nat.mul_le_mul_right _ hcap) hcz
  let σ':Nat->Nat:=fun x=>if x=b then es.length*bB else σ x
  have hn:fq w σ w σ':=by
   intro b1 c1 t1 F3 e1;by_cases e:b1=b
   ·subst e;rw[hbc] at e1;cases e1;exact⟨by simp only[σ',if_true];omega,fun h=>by omega,cc,hbc,rfl,fun _ _=>rfl⟩
   ·exact⟨by simp only[σ',if_neg e];exact Nat.le_refl _,fun _=>if_neg e,c1,e1,rfl,fun _ _=>rfl⟩
  refine⟨σ',hn,fun x hx=>if_neg fun e=>hx (by subst e;simp[owns,blk,h0]),fun x=> ?_,?_⟩
  ·by_cases e:x=b
   ·left;subst e;exact lt_of_some hbc
   ·simp only[σ',if_neg e];exact hR.S.live x
  ·have hfl:=jI es bB hle;refine .sl b 0 cap bB es (fun i=>(cc[i]?).getD undef) cc ty (0,0) hcap hle hbc (by simp[σ']) (fun i hi=> ?_) (fun i d hd=> ?_)
   ·obtain⟨v,hv,_⟩:=hcells i _ (List.getElem?_eq_getElem (by omega));simp[hv]
   ·obtain⟨v,hv,hr⟩:=hcells i d hd;simp only[hv,Option.getD_some];exact hr.mono hn
 rw[acP,acQ]
 have:=acO (f:=C.mD j es) j hj hb hR hlen hn hch hlive (fun c v hc=>by
  by_cases hm:c=.iU (0,j)
  ·subst hm;obtain⟨o,ho,h2⟩:=hc;rw[bK,hj] at ho;cases ho;have hv:=h2 _ _ rfl;rw[bK,hb] at hv;cases hv;simp only[C.mD,if_true];exact hdata
  ·have hfr:C.mD j es c=c:=by
    cases c with
    |iU k=>
     obtain⟨l,i⟩:=k
     cases l with
     |zero=>simp only[C.mD];rw[if_neg (fun e=>hm (by rw[e]))]
     |succ l=>rfl
    |_=>rfl
   rw[hfr]
   exact WJ hj hn hc)
 exact⟨σ',_,this.1,this.2,Keep.refl _ _⟩
def C.lab(row:Bool)(j n:Nat)(es:List (List D)):C->C
 | .iU (0,i)=>if i=j/\row=true then .d (.ol n es) else .iU (0,i)
 | .bV (0,i) es'=>if i=j/\row=false/\es'.length=es.length then .d (.ol n es) else .bV (0,i) es'
 |c=>c
def KU(j:Nat)(s:St):St:=
 match s.st with
 |own::Ω=>match own[j]? with
  |some (.eZ _ es)=>⟨s.tm.map fun x=>(x.1,x.2.mD j es),(own.map (Obj.mD j es)).set j .dead::Ω⟩
  |_=>s
 |[]=>s
def KV:Nat->St->St
 |0,s=>s
 |n+1,s=>KV n (KU n s)
def Dx(s:St):St:=
 match s.st with
 |own::_=>KV own.length s
 |[]=>s
theorem Tw(j:Nat)(s:St):jh N s (KU j s):=by
 obtain⟨tm,st⟩:=s
 cases st with
 |nil=>exact jh.refl _ _
 |cons own Ω=>
  unfold KU
  simp only
  split
  ·rename_i z es hj;exact fun a w σ β hR=>agp j z es hj hR
  ·exact jh.refl _ _
theorem Je:∀(n:Nat)(s:St),jh N s (KV n s)
 |0,s=>jh.refl _ _
 |n+1,s=>(Tw n s).trans (Je n _)
theorem tZ(s:St):jh N s (Dx s):=by
 unfold Dx;split
 ·exact Je _ _
 ·exact jh.refl _ _
theorem Gl{c:Code}{Q:Exit->St->Prop}{g:St->St}(hg:∀s,jh N s (g s))(h:AW P N c (fun e s'=>Q e (g s')) s):AW P N c Q s:=by
 intro a w σ β hR;refine wp_mono (h a w σ β hR) ?_;rintro e a' w' ⟨s',σ',β',k1,k2,k3,k4⟩;obtain⟨σ2,β2,r2,st2,kk2⟩:=hg s' a' w' σ' β' k1;exact⟨_,σ2,β2,r2,k2.trans st2,k3.trans kk2,k4⟩
end
section
variable {P:Program} {E:Md} {S S':Store} {N:Nat} {s:St}
def lookO(tm:List (Nat×V))(t:Option Nat):Option V:=t.map (look tm)
theorem QT{tm:List (Nat×V)}{t:Option Nat}:lookO tm t=t.map (look tm):=rfl
theorem WK{tm:List (Nat×V)}{t:Nat}:lookO tm (some t)=some (look tm t):=rfl
theorem WL{tm:List (Nat×V)}:lookO tm none=none:=rfl
def Dy(tm:List (Nat×V))(l:List Operand):List V:=l.map (ev tm)
theorem agq{tm:List (Nat×V)}:Dy tm []=[]:=rfl
theorem acR{tm:List (Nat×V)}{x:Operand}{l:List Operand}:Dy tm (x::l)=ev tm x::Dy tm l:=rfl
def N8(tm:List (Nat×V))(x:Option Operand):Option V:=x.map (ev tm)
theorem acS{tm:List (Nat×V)}{x:Operand}:N8 tm (some x)=some (ev tm x):=rfl
theorem acT{tm:List (Nat×V)}:N8 tm none=none:=rfl
def N9(tm:List (Nat×V))(l:List (Nat×Operand)):List (Nat×V):=l.map fun x=>(x.1,ev tm x.2)
theorem agr{tm:List (Nat×V)}:N9 tm []=[]:=rfl
theorem acU{tm:List (Nat×V)}{i:Nat}{x:Operand}{l:List (Nat×Operand)}:N9 tm ((i,x)::l)=(i,ev tm x)::N9 tm l:=rfl
def Split(x:Bool)(A B:St->Prop)(s:St):Prop:=(x=true->A s)/\(x=false->B s)
theorem aC{x:Bool}{A B:St->Prop}(h1:x=true->A s)(h2:x=false->B s):Split x A B s:=⟨h1,h2⟩
theorem WM{A B:St->Prop}:Split true A B s=A s:=by simp[Split]
theorem Tx{A B:St->Prop}:Split false A B s=B s:=by simp[Split]
def QU(dst:Option Nat)(v:V)(K:St->Prop)(s:St):Prop:=K (s.put dst v)
theorem agt{dst:Option Nat}{v:V}{K:St->Prop}:QU dst v K s=K (s.put dst v):=rfl
def WO(P:Program)(o:Oper)(K:St->Prop)(s:St):Prop:=gZ P o s K
def QV(P:Program)(E:Md)(o:Oper)(K:St->Prop)(s:St):Prop:=fJ P E o s K
theorem acV{o:Oper}{K:St->Prop}:WO P o K s=gZ P o s K:=rfl
theorem Zy{o:Oper}{K:St->Prop}:QV P E o K s=fJ P E o s K:=rfl
def Bg(dst:Option Nat)(want:Bool)(A K:St->Prop)(s:St):Option V->Prop
 |some (.c (.d (.b x)))=>match want with
  |true=>Split x A (QU dst (.eD []) K) s
  |false=>Split x (QU dst (.eD []) K) A s
 |some (.eD [])=>K (s.put dst (.eD []))
 |_=>False
theorem Tz{R:Array Oper}{dst op ty pos after}{K:St->Prop}:tT P R ⟨dst,op,ty,pos,after,none⟩ s K=gZ P ⟨dst,op,ty,pos,after,none⟩ s K:=rfl
theorem TA{R:Array Oper}{dst op ty pos after j want}{K:St->Prop}:tT P R ⟨dst,op,ty,pos,after,some (j,want)⟩ s K=
 Bg dst want (WO P ⟨dst,op,ty,pos,after,some (j,want)⟩ K) K s (lookO s.tm (fV R j)):=by
 show tT P R _ s K=_;simp only[tT,<-QT];generalize lookO s.tm (fV R j)=v
 cases v with
 |none=>rfl
 |some v=>
  cases v with
  |c x=>cases x with
   |d x=>cases x with
    |b x=>cases want<;>simp[Bg,Split,QU,WO,and_comm]
    |_=>rfl
   |_=>rfl
  |eD l=>cases l<;>rfl
  |_=>rfl
theorem QW{R:Array Oper}{dst op ty pos after}{K:St->Prop}:oq P E R ⟨dst,op,ty,pos,after,none⟩ s K=fJ P E ⟨dst,op,ty,pos,after,none⟩ s K:=rfl
theorem QX{R:Array Oper}{dst op ty pos after j want}{K:St->Prop}:oq P E R ⟨dst,op,ty,pos,after,some (j,want)⟩ s K=
 Bg dst want (QV P E ⟨dst,op,ty,pos,after,some (j,want)⟩ K) K s (lookO s.tm (fV R j)):=by
 simp only[oq,<-QT];generalize lookO s.tm (fV R j)=v
 cases v with
 |none=>rfl
 |some v=>
  cases v with
  |c x=>cases x with
   |d x=>cases x with
    |b x=>cases want<;>simp[Bg,Split,QU,QV,and_comm]
    |_=>rfl
   |_=>rfl
  |eD l=>cases l<;>rfl
  |_=>rfl
@[congr] theorem akb {R:Array Oper} {os:List Oper} {s s':St} {K:St->Prop} (h2:s=s'):Ba P R os s K=Ba P R os s' K:=by rw[h2]
@[congr] theorem akc {R:Array Oper} {os:List Oper} {s s':St} {K:St->Prop} (h2:s=s'):rJ P E R os s K=rJ P E R os s' K:=by rw[h2]
@[congr] theorem aij {R:Array Oper} {o:Oper} {s s':St} {K:St->Prop} (h2:s=s'):tT P R o s K=tT P R o s' K:=by rw[h2]
@[congr] theorem ahQ {R:Array Oper} {o:Oper} {s s':St} {K:St->Prop} (h2:s=s'):oq P E R o s K=oq P E R o s' K:=by rw[h2]
@[congr] theorem aik {dst:Option Nat} {want:Bool} {A K:St->Prop} {s s':St} {v v':Option V} (h2:s=s') (h3:v=v'):Bg dst want A K s v=Bg dst want A K s' v':=by rw[h2,h3]
@[congr] theorem ajG {x x':Bool} {A B:St->Prop} {s s':St} (h:x=x') (h2:s=s'):Split x A B s=Split x' A B s':=by rw[h,h2]
@[congr] theorem ajH {o:Oper} {s s':St} {K:St->Prop} (h2:s=s'):dw P o s K=dw P o s' K:=by rw[h2]
@[congr] theorem ajI {o:Oper} {s s':St} {K:St->Prop} (h2:s=s'):gZ P o s K=gZ P o s' K:=by rw[h2]
@[congr] theorem akd {t:TypeId} {s s':St} {dst:Option Nat} {K:St->Prop} {b b':Bool} {r r':R} (h1:s=s') (h2:b=b') (h3:r=r'):Ga P t s dst K b r=Ga P t s' dst K b' r':=by rw[h1,h2,h3]
@[congr] theorem ahR {t u:TypeId} {a a' x x':V} {s s':St} {dst:Option Nat} {K:St->Prop} (h1:a=a') (h3:x=x') (h2:s=s'):Ay P t u a x s dst K=Ay P t u a' x' s' dst K:=by rw[h1,h2,h3]
@[congr] theorem ail {t u:TypeId} {k:Key} {x x':V} {s s':St} {dst:Option Nat} {K:St->Prop} (h3:x=x') (h2:s=s'):Dt P t u k x s dst K=Dt P t u k x' s' dst K:=by rw[h2,h3]
@[congr] theorem ain {o:Oper} {s s':St} {K:St->Prop} (h2:s=s'):fJ P E o s K=fJ P E o s' K:=by rw[h2]
@[congr] theorem ake {l l':Option Nat} {es es' x:List (List D)} {z:Nat} {s s':St} {dst:Option Nat} {K:St->Prop} (h1:l=l') (h2:es=es') (h3:s=s'):A9 l es s dst z x K=A9 l' es' s' dst z x K:=by rw[h1,h2,h3]
@[congr] theorem akf {b b':Bool} {es es' x:List (List D)} {z:Nat} {s s':St} {dst:Option Nat} {K:St->Prop} (h1:b=b') (h2:es=es') (h3:s=s'):zJ b es s dst z x K=zJ b' es' s' dst z x K:=by rw[h1,h2,h3]
@[congr] theorem akg {b b':Bool} {n:Nat} {x:List (List D)} {z:Nat} {s s':St} {dst:Option Nat} {K:St->Prop} (h1:b=b') (h3:s=s'):CX b n s dst z x K=CX b' n s' dst z x K:=by rw[h1,h3]
@[congr] theorem aio {s s':St} {dst:Option Nat} {o o':Obj} {mk:Key->V} {K:St->Prop} (h1:s=s') (h2:o=o'):newObj s dst o mk K=newObj s' dst o' mk K:=by rw[h1,h2]
@[congr] theorem aip {t:TypeId} {s s':St} {dst:Option Nat} {K:St->Prop} (h1:s=s'):tO P t s dst K=tO P t s' dst K:=by rw[h1]
@[congr] theorem akh {v v':V} {s s':St} {dst:Option Nat} {K:St->Prop} (h1:v=v') (h2:s=s'):A8 v s dst K=A8 v' s' dst K:=by rw[h1,h2]
@[congr] theorem aiq {t:TypeId} {a a' x x':V} {s s':St} {dst:Option Nat} {K:St->Prop} (h1:a=a') (h3:x=x') (h2:s=s'):tQ P t a x s dst K=tQ P t a' x' s' dst K:=by rw[h1,h2,h3]
@[congr] theorem ajJ {t:TypeId} {a a' x x':V} {s s':St} {dst:Option Nat} {K:St->Prop} (h1:a=a') (h3:x=x') (h2:s=s'):wP P t a x s dst K=wP P t a' x' s' dst K:=by rw[h1,h2,h3]
@[congr] theorem ahS {t u:TypeId} {a a' x x':V} {s s':St} {dst:Option Nat} {K:St->Prop} (h1:a=a') (h3:x=x') (h2:s=s'):qG P t u a x s dst K=qG P t u a' x' s' dst K:=by rw[h1,h2,h3]
@[congr] theorem ahT {s s':St} {dst:Option Nat} {K:St->Prop} (h2:s=s'):sM s dst K=sM s' dst K:=by rw[h2]
@[congr] theorem ahU {t:TypeId} {a a' x x' y y':V} {s s':St} {dst:Option Nat} {K:St->Prop} (h1:a=a') (h3:x=x') (h4:y=y') (h2:s=s'):sN P t a x y s dst K=sN P t a' x' y' s' dst K:=by rw[h1,h2,h3,h4]
@[congr] theorem ajK {f:FuncId} {args args':List V} {s s':St} {dst:Option Nat} {K:St->Prop} (h1:args=args') (h2:s=s'):yJ P f args s dst K=yJ P f args' s' dst K:=by rw[h1,h2]
@[congr] theorem ajL {c:Call} {s s':St} {dst:Option Nat} {K:St->Prop} (h2:s=s'):mH P c s dst K=mH P c s' dst K:=by rw[h2]
@[congr] theorem ajM {K:St->Prop} {Q:Exit->St->Prop} {e:Exit} {s s':St} (h2:s=s'):jG K Q e s=jG K Q e s':=by rw[h2]
def gI(s:St)(dst:Option Nat)(K:St->Prop)(r:R):Prop:=r.1/\K (s.put dst r.2)
@[congr] theorem ajN {s s':St} {dst:Option Nat} {K:St->Prop} {r r':R} (h1:s=s') (h2:r=r'):gI s dst K r=gI s' dst K r':=by rw[h1,h2]
theorem acW{dst:Option Nat}{K:St->Prop}{p:Prop}{v:V}:gI s dst K (p,v)=(p/\K (s.put dst v)):=rfl
def Bh(caps:List (Key×Nat)):List V:=caps.map fun y=>.c (.ptr y.1 y.2)
def PE(P:Program)(fv:V)(args:List V)(s:St)(dst:Option Nat)(K:St->Prop):Prop:=
 match fv with
 | .c (.fn f caps)=>yJ P f (args++Bh caps) s dst K
 |_=>False
def EA(P:Program)(m:Nat)(f:FuncId)(args:List V)(s:St)(dst:Option Nat)(K:St->Prop):Prop:=
 match m with
 |0=>∃r,aX P f args r/\K (s.put dst r)
 |1=>∃S' v,DS s.st S'/\yJ P f args s dst (fun t=>t=St.put ⟨s.tm,S'⟩ dst v)/\K (St.put ⟨s.tm,S'⟩ dst v)
 |_=>∃S' v,yJ P f args s dst (fun t=>t=St.put ⟨s.tm,S'⟩ dst v)/\K (St.put ⟨s.tm,S'⟩ dst v)
def yM(P:Program)(m:Nat)(fv:V)(args:List V)(s:St)(dst:Option Nat)(K:St->Prop):Prop:=
 match fv with
 | .c (.fn f caps)=>EA P m f (args++Bh caps) s dst K
 |_=>False
@[congr] theorem ajO {fv Zz:V} {args args':List V} {s s':St} {dst:Option Nat} {K:St->Prop} (h1:fv=Zz) (h3:args=args') (h2:s=s'):PE P fv args s dst K=PE P Zz args' s' dst K:=by rw[h1,h2,h3]
@[congr] theorem ajP {m:Nat} {fv Zz:V} {args args':List V} {s s':St} {dst:Option Nat} {K:St->Prop} (h1:fv=Zz) (h3:args=args') (h2:s=s'):yM P m fv args s dst K=yM P m Zz args' s' dst K:=by rw[h1,h2,h3]
@[congr] theorem ajQ {m:Nat} {f:FuncId} {args args':List V} {s s':St} {dst:Option Nat} {K:St->Prop} (h1:args=args') (h2:s=s'):EA P m f args s dst K=EA P m f args' s' dst K:=by rw[h1,h2]
theorem TB{x:Operand}{args:Array Operand}{ts:Array TypeId}{dst:Option Nat}{K:St->Prop}:mH P ⟨.value x,args,ts⟩ s dst K=PE P (ev s.tm x) (Dy s.tm args.toList) s dst K:=rfl
theorem QY{x y:Operand}{t u:TypeId}{dst:Option Nat}{K:St->Prop}:mH P ⟨.builtin .append,#[x,y],#[t,u]⟩ s dst K=qG P t u (ev s.tm x) (ev s.tm y) s dst K:=rfl
theorem ZA{x:Operand}{t:TypeId}{dst:Option Nat}{K:St->Prop}:mH P ⟨.builtin .len,#[x],#[t]⟩ s dst K=gI s dst K (Ef P s.st t (ev s.tm x)):=rfl
theorem ZB{x y:Operand}{ts:Array TypeId}{dst:Option Nat}{K:St->Prop}:mH P ⟨.builtin .max,#[x,y],ts⟩ s dst K=gI s dst K (vH true (ev s.tm x) (ev s.tm y)):=rfl
theorem ZC{x y:Operand}{ts:Array TypeId}{dst:Option Nat}{K:St->Prop}:mH P ⟨.builtin .min,#[x,y],ts⟩ s dst K=gI s dst K (vH false (ev s.tm x) (ev s.tm y)):=rfl
theorem acX{x:Operand}{t:TypeId}{tm:List (Nat×V)}:nval P S tm (.call ⟨.builtin .len,#[x],#[t]⟩)=Ef P S t (ev tm x):=rfl
def iI(P:Program)(mode:Option Nat)(f:FuncId)(args:List V)(s:St)(dst:Option Nat)(K:St->Prop):Prop:=
 match mode with
 |some m=>EA P m f args s dst K
 |none=>yJ P f args s dst K
@[congr] theorem ajR {dr:Option Nat} {f:FuncId} {args args':List V} {s s':St} {dst:Option Nat} {K:St->Prop} (h1:args=args') (h2:s=s'):iI P dr f args s dst K=iI P dr f args' s' dst K:=by rw[h1,h2]
theorem acY{f:Nat}{caps:List (Key×Nat)}{args:List V}{dst:Option Nat}{K:St->Prop}:PE P (.c (.fn f caps)) args s dst K=iI P none f (args++Bh caps) s dst K:=rfl
theorem acZ{m:Nat}{f:Nat}{caps:List (Key×Nat)}{args:List V}{dst:Option Nat}{K:St->Prop}:yM P m (.c (.fn f caps)) args s dst K=iI P (some m) f (args++Bh caps) s dst K:=rfl
theorem aB{dr:Option Nat}{f:FuncId}{args:List V}{dst:Option Nat}{K:St->Prop}{r:V}(h:aX P f (args.map V.tY) r)(hK:K (s.put dst r)):iI P dr f args s dst K:=by
 cases dr with
 |none=>exact Ew h hK
 |some m=>
  match m with
  |0=>exact⟨r,fun S=>(h S).tY,hK⟩
  |1=>exact⟨s.st,r,DS.refl _,Ew h rfl,hK⟩
  |m+2=>exact⟨s.st,r,Ew h rfl,hK⟩
def afI:Option Nat->Bool
 |none=>true
 |some m=>decide (2<=m)
theorem aW{dr:Option Nat}{f:FuncId}{args:List V}{dst:Option Nat}{K:St->Prop}{r:V}{S1:Store}(hm:afI dr=true)(h:bY P f args s.st (fun r' S'=>r'=r/\S'=S1))(hK:K (St.put ⟨s.tm,S1⟩ dst r)):iI P dr f args s dst K:=by
 cases dr with
 |none=>exact .inl ⟨_,h,fun r' S' e=>by rw[e.1,e.2];exact hK⟩
 |some m=>
  match m,hm with
  |0,hm=>cases hm
  |1,hm=>cases hm
  |m+2,_=>exact⟨S1,r,.inl ⟨_,h,fun r' S' e=>by rw[e.1,e.2]⟩,hK⟩
def Im(P:Program)(R:Array Oper)(os:List Oper)(K:St->Prop)(s:St):Prop:=Ba P R os s K
def Io(P:Program)(E:Md)(R:Array Oper)(os:List Oper)(K:St->Prop)(s:St):Prop:=rJ P E R os s K
@[congr] theorem ajS {R:Array Oper} {os:List Oper} {s s':St} {K:St->Prop} (h2:s=s'):Im P R os K s=Im P R os K s':=by rw[h2]
@[congr] theorem ajT {R:Array Oper} {os:List Oper} {s s':St} {K:St->Prop} (h2:s=s'):Io P E R os K s=Io P E R os K s':=by rw[h2]
section
variable {tm:List (Nat×V)} {R:Array Oper} {o:Oper} {os:List Oper} {K:St->Prop}
theorem ac0:Ba P R [] ⟨tm,S⟩ K=K ⟨tm,S⟩:=rfl
theorem ZE:Ba P R (o::os) ⟨tm,S⟩ K=tT P R o ⟨tm,S⟩ (Im P R os K):=rfl
theorem ZF:Im P R [] K ⟨tm,S⟩=K ⟨tm,S⟩:=rfl
theorem WQ:Im P R (o::os) K ⟨tm,S⟩=tT P R o ⟨tm,S⟩ (Im P R os K):=rfl
theorem ac1:rJ P E R [] ⟨tm,S⟩ K=K ⟨tm,S⟩:=rfl
theorem ZG:rJ P E R (o::os) ⟨tm,S⟩ K=oq P E R o ⟨tm,S⟩ (Io P E R os K):=rfl
theorem ZH:Io P E R [] K ⟨tm,S⟩=K ⟨tm,S⟩:=rfl
theorem WR:Io P E R (o::os) K ⟨tm,S⟩=oq P E R o ⟨tm,S⟩ (Io P E R os K):=rfl
end
section
variable {dst:Option Nat} {ty:TypeId} {pos:String} {after:Array Edge} {g:Option (Nat×Bool)} {K:St->Prop}
theorem TD{t:TypeId}:gZ P ⟨dst,.alloc t,ty,pos,after,g⟩ s K=dw P ⟨dst,.alloc t,ty,pos,after,g⟩ s K:=rfl
theorem ZI{t:TypeId}{x:Operand}:gZ P ⟨dst,.box t x,ty,pos,after,g⟩ s K=dw P ⟨dst,.box t x,ty,pos,after,g⟩ s K:=rfl
theorem TF{t:TypeId}{a x:Operand}:gZ P ⟨dst,.store t a x,ty,pos,after,g⟩ s K=dw P ⟨dst,.store t a x,ty,pos,after,g⟩ s K:=rfl
theorem WS{t:TypeId}{a x:Operand}:gZ P ⟨dst,.makeSlice t a x,ty,pos,after,g⟩ s K=dw P ⟨dst,.makeSlice t a x,ty,pos,after,g⟩ s K:=rfl
theorem O8{t:TypeId}{r:Option Operand}:gZ P ⟨dst,.makeMap t r,ty,pos,after,g⟩ s K=dw P ⟨dst,.makeMap t r,ty,pos,after,g⟩ s K:=rfl
theorem KW{t:TypeId}{x k v:Operand}:gZ P ⟨dst,.mapUpdate t x k v,ty,pos,after,g⟩ s K=dw P ⟨dst,.mapUpdate t x k v,ty,pos,after,g⟩ s K:=rfl
theorem QZ{t:TypeId}{x i:Operand}{b:Bool}:gZ P ⟨dst,.lookup t x i b,ty,pos,after,g⟩ s K=dw P ⟨dst,.lookup t x i b,ty,pos,after,g⟩ s K:=rfl
theorem WU{x:Operand}{as:Array Operand}{ts:Array TypeId}:gZ P ⟨dst,.call ⟨.value x,as,ts⟩,ty,pos,after,g⟩ s K=dw P ⟨dst,.call ⟨.value x,as,ts⟩,ty,pos,after,g⟩ s K:=rfl
theorem ZJ{as:Array Operand}{ts:Array TypeId}:gZ P ⟨dst,.call ⟨.builtin .len,as,ts⟩,ty,pos,after,g⟩ s K=dw P ⟨dst,.call ⟨.builtin .len,as,ts⟩,ty,pos,after,g⟩ s K:=rfl
theorem ZK{as:Array Operand}{ts:Array TypeId}:gZ P ⟨dst,.call ⟨.builtin .max,as,ts⟩,ty,pos,after,g⟩ s K=dw P ⟨dst,.call ⟨.builtin .max,as,ts⟩,ty,pos,after,g⟩ s K:=rfl
theorem ZL{as:Array Operand}{ts:Array TypeId}:gZ P ⟨dst,.call ⟨.builtin .min,as,ts⟩,ty,pos,after,g⟩ s K=dw P ⟨dst,.call ⟨.builtin .min,as,ts⟩,ty,pos,after,g⟩ s K:=rfl
theorem WV{x:Operand}:gZ P ⟨dst,.move x,ty,pos,after,g⟩ s K=dw P ⟨dst,.move x,ty,pos,after,g⟩ s K:=rfl
theorem Q0{x:Operand}:gZ P ⟨dst,.assign x,ty,pos,after,g⟩ s K=dw P ⟨dst,.assign x,ty,pos,after,g⟩ s K:=rfl
theorem WW{c a b:Operand}:gZ P ⟨dst,.pick c a b,ty,pos,after,g⟩ s K=dw P ⟨dst,.pick c a b,ty,pos,after,g⟩ s K:=rfl
theorem WX{t:TypeId}{a:Operand}:gZ P ⟨dst,.load t a,ty,pos,after,g⟩ s K=dw P ⟨dst,.load t a,ty,pos,after,g⟩ s K:=rfl
theorem KX{t:TypeId}{x:Operand}{f:Nat}:gZ P ⟨dst,.fieldAddr t x f,ty,pos,after,g⟩ s K=dw P ⟨dst,.fieldAddr t x f,ty,pos,after,g⟩ s K:=rfl
theorem TG{t:TypeId}{x:Operand}{f:Nat}:gZ P ⟨dst,.field t x f,ty,pos,after,g⟩ s K=dw P ⟨dst,.field t x f,ty,pos,after,g⟩ s K:=rfl
theorem KY{t:TypeId}{x i:Operand}:gZ P ⟨dst,.indexAddr t x i,ty,pos,after,g⟩ s K=dw P ⟨dst,.indexAddr t x i,ty,pos,after,g⟩ s K:=rfl
theorem TH{t:TypeId}{x i:Operand}:gZ P ⟨dst,.index t x i,ty,pos,after,g⟩ s K=dw P ⟨dst,.index t x i,ty,pos,after,g⟩ s K:=rfl
theorem TI{op:BinOp}{t u:TypeId}{x y:Operand}:gZ P ⟨dst,.binOp op t x y u,ty,pos,after,g⟩ s K=dw P ⟨dst,.binOp op t x y u,ty,pos,after,g⟩ s K:=rfl
theorem WY{op:UnOp}{t:TypeId}{x:Operand}:gZ P ⟨dst,.unOp op t x,ty,pos,after,g⟩ s K=dw P ⟨dst,.unOp op t x,ty,pos,after,g⟩ s K:=rfl
theorem O9{a b:TypeId}{x:Operand}:gZ P ⟨dst,.convert a b x,ty,pos,after,g⟩ s K=dw P ⟨dst,.convert a b x,ty,pos,after,g⟩ s K:=rfl
theorem Pb{x:Operand}{i:Nat}:gZ P ⟨dst,.extract x i,ty,pos,after,g⟩ s K=dw P ⟨dst,.extract x i,ty,pos,after,g⟩ s K:=rfl
theorem MU{fn:Fn}{a b:Array Operand}:gZ P ⟨dst,.makeFunc fn a b,ty,pos,after,g⟩ s K=dw P ⟨dst,.makeFunc fn a b,ty,pos,after,g⟩ s K:=rfl
theorem MV{x:Operand}:gZ P ⟨dst,.nilCheck x,ty,pos,after,g⟩ s K=dw P ⟨dst,.nilCheck x,ty,pos,after,g⟩ s K:=rfl
theorem TJ{t:TypeId}{x:Operand}{lo hi mx:Option Operand}:gZ P ⟨dst,.slice t x lo hi mx,ty,pos,after,g⟩ s K=dw P ⟨dst,.slice t x lo hi mx,ty,pos,after,g⟩ s K:=rfl
theorem TK{t:TypeId}{parts:Array (Nat×Operand)}:gZ P ⟨dst,.build t parts,ty,pos,after,g⟩ s K=dw P ⟨dst,.build t parts,ty,pos,after,g⟩ s K:=rfl
theorem Q5{x y:Operand}{t u:TypeId}:gZ P ⟨dst,.call ⟨.builtin .append,#[x,y],#[t,u]⟩,ty,pos,after,g⟩ s K=Ay P t u (ev s.tm x) (ev s.tm y) s dst K:=rfl
theorem JJ{t:TypeId}{n:Nat}{parts:Array (Nat×Operand)}:gZ P ⟨dst,.buildSlice t n parts,ty,pos,after,g⟩ s K=Ga P t s dst K (Wu s.st t) (kY P (oz s.st) t n (N9 s.tm parts.toList)):=rfl
theorem WZ{t:TypeId}:dw P ⟨dst,.alloc t,ty,pos,after,g⟩ s K=tO P t s dst K:=rfl
theorem ac2{t:TypeId}{x:Operand}:dw P ⟨dst,.box t x,ty,pos,after,g⟩ s K=A8 (ev s.tm x) s dst K:=rfl
theorem W9{t:TypeId}{a x:Operand}:dw P ⟨dst,.store t a x,ty,pos,after,g⟩ s K=tQ P t (ev s.tm a) (ev s.tm x) s dst K:=rfl
theorem ZM{t:TypeId}{a x:Operand}:dw P ⟨dst,.makeSlice t a x,ty,pos,after,g⟩ s K=wP P t (ev s.tm a) (ev s.tm x) s dst K:=rfl
theorem Q6{t:TypeId}:dw P ⟨dst,.makeMap t none,ty,pos,after,g⟩ s K=sM s dst K:=rfl
theorem MW{t:TypeId}{x k v:Operand}:dw P ⟨dst,.mapUpdate t x k v,ty,pos,after,g⟩ s K=sN P t (ev s.tm x) (ev s.tm k) (ev s.tm v) s dst K:=rfl
theorem TL{t:TypeId}{x i:Operand}:dw P ⟨dst,.lookup t x i false,ty,pos,after,g⟩ s K=gI s dst K (xW P s.st t (ev s.tm x) (ev s.tm i)):=rfl
theorem Pf{t:TypeId}:fJ P E ⟨dst,.makeMap t none,ty,pos,after,g⟩ s K=sM s dst K:=rfl
theorem KZ{t:TypeId}{x k v:Operand}:fJ P E ⟨dst,.mapUpdate t x k v,ty,pos,after,g⟩ s K=sN P t (ev s.tm x) (ev s.tm k) (ev s.tm v) s dst K:=rfl
theorem Q7{t:TypeId}{x i:Operand}:fJ P E ⟨dst,.lookup t x i false,ty,pos,after,g⟩ s K=gI s dst K (xW P s.st t (ev s.tm x) (ev s.tm i)):=rfl
theorem ZN{c:Call}:dw P ⟨dst,.call c,ty,pos,after,g⟩ s K=mH P c s dst K:=rfl
theorem ZO{x:Operand}:dw P ⟨dst,.move x,ty,pos,after,g⟩ s K=K (s.put dst (ev s.tm x)):=by simp[dw,nval,mG]
theorem TM{x:Operand}:dw P ⟨dst,.assign x,ty,pos,after,g⟩ s K=K (s.put dst (ev s.tm x)):=by simp[dw,nval,mG]
theorem ZP{c a b:Operand}:dw P ⟨dst,.pick c a b,ty,pos,after,g⟩ s K=gI s dst K (Ia (ev s.tm c) (ev s.tm a) (ev s.tm b)):=rfl
theorem ZQ{t:TypeId}{a:Operand}:dw P ⟨dst,.load t a,ty,pos,after,g⟩ s K=gI s dst K (Ac P s.st t (ev s.tm a)):=rfl
theorem MX{t:TypeId}{x:Operand}{f:Nat}:dw P ⟨dst,.fieldAddr t x f,ty,pos,after,g⟩ s K=gI s dst K (rE P s.st t (ev s.tm x) f):=rfl
theorem Xa{t:TypeId}{x:Operand}{f:Nat}:dw P ⟨dst,.field t x f,ty,pos,after,g⟩ s K=gI s dst K (Dm P t (ev s.tm x) f):=rfl
theorem MZ{t:TypeId}{x i:Operand}:dw P ⟨dst,.indexAddr t x i,ty,pos,after,g⟩ s K=gI s dst K (rF P s.st t (ev s.tm x) (ev s.tm i)):=rfl
theorem Xb{t:TypeId}{x i:Operand}:dw P ⟨dst,.index t x i,ty,pos,after,g⟩ s K=gI s dst K (Dn P t (ev s.tm x) (ev s.tm i)):=rfl
theorem Xc{op:BinOp}{t u:TypeId}{x y:Operand}:dw P ⟨dst,.binOp op t x y u,ty,pos,after,g⟩ s K=gI s dst K (ME P op t (ev s.tm x) (ev s.tm y)):=rfl
theorem ZR{op:UnOp}{t:TypeId}{x:Operand}:dw P ⟨dst,.unOp op t x,ty,pos,after,g⟩ s K=gI s dst K (Va op (ev s.tm x)):=rfl
theorem Q8{a b:TypeId}{x:Operand}:dw P ⟨dst,.convert a b x,ty,pos,after,g⟩ s K=gI s dst K (Ic P a b (ev s.tm x)):=rfl
theorem Q9{x:Operand}{i:Nat}:dw P ⟨dst,.extract x i,ty,pos,after,g⟩ s K=gI s dst K (xV (ev s.tm x) i):=rfl
theorem Pg{fn:Fn}{a b:Array Operand}:dw P ⟨dst,.makeFunc fn a b,ty,pos,after,g⟩ s K=gI s dst K (vR fn (Dy s.tm a.toList) (Dy s.tm b.toList)):=rfl
theorem Ph{x:Operand}:dw P ⟨dst,.nilCheck x,ty,pos,after,g⟩ s K=gI s dst K (vS s.st (ev s.tm x)):=rfl
theorem Xd{t:TypeId}{x:Operand}{lo hi mx:Option Operand}:dw P ⟨dst,.slice t x lo hi mx,ty,pos,after,g⟩ s K=gI s dst K (Dp P t (ev s.tm x) (N8 s.tm lo) (N8 s.tm hi) (N8 s.tm mx)):=rfl
theorem Xe{t:TypeId}{parts:Array (Nat×Operand)}:dw P ⟨dst,.build t parts,ty,pos,after,g⟩ s K=gI s dst K (Dq P t (N9 s.tm parts.toList)):=rfl
theorem K3{t:TypeId}{n:Nat}{parts:Array (Nat×Operand)}:dw P ⟨dst,.buildSlice t n parts,ty,pos,after,g⟩ s K=gI s dst K (kY P (oz s.st) t n (N9 s.tm parts.toList)):=rfl
theorem TN{t:TypeId}:fJ P E ⟨dst,.alloc t,ty,pos,after,g⟩ s K=tO P t s dst K:=rfl
theorem ZT{t:TypeId}{x:Operand}:fJ P E ⟨dst,.box t x,ty,pos,after,g⟩ s K=A8 (ev s.tm x) s dst K:=rfl
theorem TP{t:TypeId}{a x:Operand}:fJ P E ⟨dst,.store t a x,ty,pos,after,g⟩ s K=tQ P t (ev s.tm a) (ev s.tm x) s dst K:=rfl
theorem Xf{t:TypeId}{a x:Operand}:fJ P E ⟨dst,.makeSlice t a x,ty,pos,after,g⟩ s K=wP P t (ev s.tm a) (ev s.tm x) s dst K:=rfl
theorem Ra{args:Array Operand}{ts:Array TypeId}:fJ P E ⟨dst,.call ⟨.builtin .append,args,ts⟩,ty,pos,after,g⟩ s K=mH P ⟨.builtin .append,args,ts⟩ s dst K:=rfl
theorem Xg{x:Operand}:fJ P E ⟨dst,.move x,ty,pos,after,g⟩ s K=K (s.put dst (ev s.tm x)):=by simp[fJ,qH,nval,mG]
theorem Rb{x:Operand}:fJ P E ⟨dst,.assign x,ty,pos,after,g⟩ s K=K (s.put dst (ev s.tm x)):=by simp[fJ,qH,nval,mG]
theorem Xh{c a b:Operand}:fJ P E ⟨dst,.pick c a b,ty,pos,after,g⟩ s K=gI s dst K (Ia (ev s.tm c) (ev s.tm a) (ev s.tm b)):=rfl
theorem Xi{t:TypeId}{a:Operand}:fJ P E ⟨dst,.load t a,ty,pos,after,g⟩ s K=gI s dst K (Ac P s.st t (ev s.tm a)):=rfl
theorem K4{t:TypeId}{x:Operand}{f:Nat}:fJ P E ⟨dst,.fieldAddr t x f,ty,pos,after,g⟩ s K=gI s dst K (rE P s.st t (ev s.tm x) f):=rfl
theorem TQ{t:TypeId}{x:Operand}{f:Nat}:fJ P E ⟨dst,.field t x f,ty,pos,after,g⟩ s K=gI s dst K (Dm P t (ev s.tm x) f):=rfl
theorem K5{t:TypeId}{x i:Operand}:fJ P E ⟨dst,.indexAddr t x i,ty,pos,after,g⟩ s K=gI s dst K (rF P s.st t (ev s.tm x) (ev s.tm i)):=rfl
theorem TR{t:TypeId}{x i:Operand}:fJ P E ⟨dst,.index t x i,ty,pos,after,g⟩ s K=gI s dst K (Dn P t (ev s.tm x) (ev s.tm i)):=rfl
theorem TS{op:BinOp}{t u:TypeId}{x y:Operand}:fJ P E ⟨dst,.binOp op t x y u,ty,pos,after,g⟩ s K=gI s dst K (ME P op t (ev s.tm x) (ev s.tm y)):=rfl
theorem Xj{op:UnOp}{t:TypeId}{x:Operand}:fJ P E ⟨dst,.unOp op t x,ty,pos,after,g⟩ s K=gI s dst K (Va op (ev s.tm x)):=rfl
theorem Pj{a b:TypeId}{x:Operand}:fJ P E ⟨dst,.convert a b x,ty,pos,after,g⟩ s K=gI s dst K (Ic P a b (ev s.tm x)):=rfl
theorem Pk{x:Operand}{i:Nat}:fJ P E ⟨dst,.extract x i,ty,pos,after,g⟩ s K=gI s dst K (xV (ev s.tm x) i):=rfl
theorem M0{fn:Fn}{a b:Array Operand}:fJ P E ⟨dst,.makeFunc fn a b,ty,pos,after,g⟩ s K=gI s dst K (vR fn (Dy s.tm a.toList) (Dy s.tm b.toList)):=rfl
theorem M4{x:Operand}:fJ P E ⟨dst,.nilCheck x,ty,pos,after,g⟩ s K=gI s dst K (vS s.st (ev s.tm x)):=rfl
theorem TT{t:TypeId}{x:Operand}{lo hi mx:Option Operand}:fJ P E ⟨dst,.slice t x lo hi mx,ty,pos,after,g⟩ s K=gI s dst K (Dp P t (ev s.tm x) (N8 s.tm lo) (N8 s.tm hi) (N8 s.tm mx)):=rfl
theorem TU{t:TypeId}{parts:Array (Nat×Operand)}:fJ P E ⟨dst,.build t parts,ty,pos,after,g⟩ s K=gI s dst K (Dq P t (N9 s.tm parts.toList)):=rfl
theorem JK{t:TypeId}{n:Nat}{parts:Array (Nat×Operand)}:fJ P E ⟨dst,.buildSlice t n parts,ty,pos,after,g⟩ s K=gI s dst K (kY P (oz s.st) t n (N9 s.tm parts.toList)):=rfl
theorem ZU{args:Array Operand}{ts:Array TypeId}:fJ P E ⟨dst,.call ⟨.builtin .len,args,ts⟩,ty,pos,after,g⟩ s K=gI s dst K (nval P s.st s.tm (.call ⟨.builtin .len,args,ts⟩)):=rfl
theorem ZV{x y:Operand}{ts:Array TypeId}:fJ P E ⟨dst,.call ⟨.builtin .max,#[x,y],ts⟩,ty,pos,after,g⟩ s K=gI s dst K (vH true (ev s.tm x) (ev s.tm y)):=rfl
theorem ZW{x y:Operand}{ts:Array TypeId}:fJ P E ⟨dst,.call ⟨.builtin .min,#[x,y],ts⟩,ty,pos,after,g⟩ s K=gI s dst K (vH false (ev s.tm x) (ev s.tm y)):=rfl
theorem Xk{x:Operand}{args:Array Operand}{ts:Array TypeId}:fJ P E ⟨dst,.call ⟨.value x,args,ts⟩,ty,pos,after,g⟩ s K=yM P (E (.call ⟨.value x,args,ts⟩)) (ev s.tm x) (Dy s.tm args.toList) s dst K:=by
 simp only[fJ,qH];generalize E (.call ⟨.value x,args,ts⟩)=m
 match m with
 |0=>
  simp only[Eo];generalize ev s.tm x=fv
  cases fv with
  |c x=>cases x<;>simp[yM,EA,Bh,Dy]
  |_=>simp[yM]
 |1=>
  simp only[dw,mH];generalize ev s.tm x=fv
  cases fv with
  |c x=>cases x<;>simp[yM,EA,Bh,Dy]
  |_=>simp[yM]
 |m+2=>
  simp only[dw,mH];generalize ev s.tm x=fv
  cases fv with
  |c x=>cases x<;>simp[yM,EA,Bh,Dy]
  |_=>simp[yM]
end
def yN(v:V)(A B:St->Prop)(s:St):Prop:=
 match v with
 | .c (.d (.b x))=>Split x A B s
 |_=>False
def CW(P:Program)(N:Nat):Code->(Exit->St->Prop)->St->Prop
 | .seq x y,Q,s=>CW P N x (jG (CW P N y Q) Q) s
 | .region _ R false,Q,s=>Ba P R R.toList s (Q .normal)
 | .region _ R true,Q,s=>rJ P (KQ R N) R R.toList s (Q .normal)
 | .cond c x y,Q,s=>yN (ev s.tm c) (CW P N x Q) (CW P N y Q) s
 | .block id c,Q,s=>CW P N c (wT id Q) s
 | .exit id,Q,s=>Q (.exit id) s
 | .ret,Q,s=>Q .ret s
 | .skip,Q,s=>Q .normal s
 | .loop c,Q,s=>AW P N (.loop c) Q s
 |_,_,_=>False
def aki(N:Nat)(R:Array Oper):Bool:=R.toList.all (fun o=>match o.dst with|some d=>decide (d<N)|none=>true)
def codeOk(N:Nat):Code->Bool
 | .seq x y=>codeOk N x&&codeOk N y
 | .region _ R false=>aki N R
 | .region _ R true=>MQ R N
 | .cond _ x y=>codeOk N x&&codeOk N y
 | .block _ c=>codeOk N c
 | .loop c=>codeOk N c
 |_=>true
theorem gV(eH:P.follows .mixedOrders=true):∀(c:Code)(Q:Exit->St->Prop)(s:St),codeOk N c=true->CW P N c Q s->AW P N c Q s
 | .seq x y,Q,s,ok,h=>by
   simp only[codeOk,Bool.and_eq_true] at ok;refine KM (AW.mono (gV eH x _ s ok.1 h) fun e s' h'=> ?_)
   cases e with
   |normal=>exact gV eH y Q s' ok.2 h'
   |_=>exact h'
 | .region _ R false,Q,s,ok,h=>Zn ok h
 | .region _ R true,Q,s,ok,h=>WE eH ok h
 | .cond c x y,Q,s,ok,h=>by
   simp only[codeOk,Bool.and_eq_true] at ok;simp only[CW,yN] at h;split at h
   ·rename_i b hb;exact MN hb (fun e=>gV eH x Q s ok.1 (h.1 e)) (fun e=>gV eH y Q s ok.2 (h.2 e))
   ·exact h.elim
 | .block id c,Q,s,ok,h=>JG (gV eH c _ s ok h)
 | .exit id,Q,s,ok,h=>agb h
 | .ret,Q,s,ok,h=>ah5 h
 | .skip,Q,s,ok,h=>aga h
 | .loop c,Q,s,ok,h=>h
 | .rangeFunc _ _ _ _,Q,s,ok,h=>h.elim
 | .scope _,Q,s,ok,h=>h.elim
 | .label _,Q,s,ok,h=>h.elim
 | .goto _,Q,s,ok,h=>h.elim
 | .refuse _,Q,s,ok,h=>h.elim
theorem air{x y:Code}{Q:Exit->St->Prop}:CW P N (.seq x y) Q s=CW P N x (jG (CW P N y Q) Q) s:=by rw[CW]
theorem ZX{id:Nat}{l:List Oper}{Q:Exit->St->Prop}:CW P N (.region id ⟨l⟩ false) Q s=Ba P ⟨l⟩ l s (Q .normal):=by rw[CW]
theorem agu{id:Nat}{l:List Oper}{Q:Exit->St->Prop}:CW P N (.region id ⟨l⟩ true) Q s=rJ P (KQ ⟨l⟩ N) ⟨l⟩ l s (Q .normal):=by rw[CW]
theorem agv{c:Operand}{x y:Code}{Q:Exit->St->Prop}:CW P N (.cond c x y) Q s=yN (ev s.tm c) (CW P N x Q) (CW P N y Q) s:=by rw[CW]
theorem ac3{id:Nat}{c:Code}{Q:Exit->St->Prop}:CW P N (.block id c) Q s=CW P N c (wT id Q) s:=by rw[CW]
theorem agw{id:Nat}{Q:Exit->St->Prop}:CW P N (.exit id) Q s=Q (.exit id) s:=by rw[CW]
theorem ais{Q:Exit->St->Prop}:CW P N .ret Q s=Q .ret s:=by rw[CW]
theorem agx{Q:Exit->St->Prop}:CW P N .skip Q s=Q .normal s:=by rw[CW]
theorem M5{c:Code}{Q:Exit->St->Prop}:CW P N (.loop c) Q s=AW P N (.loop c) Q s:=by rw[CW]
theorem Rc{K:St->Prop}{Q:Exit->St->Prop}:jG K Q .normal s=K s:=rfl
theorem ZY{K:St->Prop}{Q:Exit->St->Prop}:jG K Q .ret s=Q .ret s:=rfl
theorem Xl{K:St->Prop}{Q:Exit->St->Prop}{i:Nat}:jG K Q (.exit i) s=Q (.exit i) s:=rfl
theorem Rf{id:Nat}{Q:Exit->St->Prop}:wT id Q .normal s=Q .normal s:=rfl
theorem Z0{id:Nat}{Q:Exit->St->Prop}:wT id Q .ret s=Q .ret s:=rfl
theorem Xm{id i:Nat}{Q:Exit->St->Prop}:wT id Q (.exit i) s=if i=id then Q .normal s else Q (.exit i) s:=rfl
def ac4(post:V->Store->Prop)(s:St)(r:R):Prop:=r.1/\match r.2.ret with
 |some v=>post v (gT s.st)
 |none=>False
theorem agy{post:V->Store->Prop}{p:Prop}{v:V}:ac4 post s (p,v)=(p/\match v.ret with
 |some v=>post v (gT s.st)
 |none=>False):=rfl
def JL(P:Program)(rs:List ResultVar)(post:V->Store->Prop)(e:Exit)(s:St):Prop:=aci P rs post e (Dx s)
def Rh(P:Program)(rs:List ResultVar)(post:V->Store->Prop)(s:St):Prop:=ac4 post s (nL P rs s)
theorem ac5{rs:List ResultVar}{post:V->Store->Prop}:JL P rs post .ret s=Rh P rs post (Dx s):=rfl
theorem TV{rs:List ResultVar}{post:V->Store->Prop}:JL P rs post .normal s=Rh P rs post (Dx s):=rfl
theorem agz{rs:List ResultVar}{post:V->Store->Prop}{tm:List (Nat×V)}:Rh P rs post ⟨tm,S⟩=ac4 post ⟨tm,S⟩ (nL P rs ⟨tm,S⟩):=rfl
def ait(j:Nat)(es:List (List D))(tm:List (Nat×V)):List (Nat×V):=tm.map fun x=>(x.1,x.2.mD j es)
theorem Z4{j:Nat}{es:List (List D)}{tm:List (Nat×V)}{t:Nat}:look (ait j es tm) t=(look tm t).mD j es:=Ez (f:=V.mD j es) rfl tm t
def aiu(j:Nat)(tm:List (Nat×V))(own:List Obj)(Ω:Store):Option Obj->St
 |some (.eZ _ es)=>⟨ait j es tm,(own.map (Obj.mD j es)).set j .dead::Ω⟩
 |_=>⟨tm,own::Ω⟩
theorem ac6{j:Nat}{tm:List (Nat×V)}{own:List Obj}{Ω:Store}:KU j ⟨tm,own::Ω⟩=aiu j tm own Ω (own[j]?):=by
 unfold KU
 simp only
 generalize own[j]? =o
 cases o with
 |none=>rfl
 |some o=>cases o<;>rfl
theorem Z5{tm:List (Nat×V)}{own:List Obj}{Ω:Store}:Dx ⟨tm,own::Ω⟩=KV own.length ⟨tm,own::Ω⟩:=rfl
theorem aP{f:FuncId}{fn:Func}{c:Code}{args:List V}{post:V->Store->Prop}{rs:List ResultVar}(eH:P.follows .mixedOrders=true)(hf:P.funcs[f]? =some fn)(hN:fn.ntmps=N)
 (hb:fn.body=some c) (hn:(fn.name== "runtime.NumGoroutine")=false) (hr:fn.results.toList=rs) (hl:Nat.ble args.length N=true) (hok:codeOk N c=true)
 (h:CW P N c (JL P rs post) ⟨lu (args.map (V.up 1)) 0,[]::S⟩):bY P f args S post:=by
 subst hN;subst hr;exact uZ hf hb hn (Nat.le_of_ble_eq_true hl) (Gl tZ (gV eH c _ _ hok h))
end
theorem agA(n:Int)(h: -9223372036854775808<=n/\n<=9223372036854775807):IntKind.i64.wrap n=n:=IntWalk.i64_in n h
theorem wrap_u8(n:Int)(h:0<=n/\n<=255):IntKind.u8.wrap n=n:=IntWalk.u8_in n h
theorem getD_map{α β:Type}(f:α->β)(l:List α)(i:Nat)(d:β)(h:i<l.length):(l.map f).getD i d=f l[i]:=by
 simp[List.getD,h]
theorem Xn{k:IntKind}{n:Int}:AU (.int k n)=.c (.d (.i k n)):=rfl
theorem TW{b:Bool}:AU (.bool b)=.c (.d (.b b)):=rfl
theorem Xo{l:List UInt8}:AU (.string ⟨⟨l⟩⟩)=.c (.d (.s l)):=rfl
theorem TY:AU (.slice none 0 0)=.c (.bM []):=rfl
theorem ac7{tm:List (Nat×V)}{S:Store}{d:Nat}{v:V}:St.put ⟨tm,S⟩ (some d) v=⟨(d,v)::tm,S⟩:=rfl
theorem ac8{tm:List (Nat×V)}{S:Store}{v:V}:St.put ⟨tm,S⟩ none v=⟨tm,S⟩:=rfl
theorem aiv{a b:V}:Ia (.c (.d (.b true))) a b=(True,a):=rfl
theorem aiw{a b:V}:Ia (.c (.d (.b false))) a b=(True,b):=rfl
theorem T9{tm:List (Nat×V)}{own:List Obj}{Ω:Store}{dst:Option Nat}{o:Obj}{mk:Key->V}{K:St->Prop}:
 newObj ⟨tm,own::Ω⟩ dst o mk K=K (St.put ⟨tm,(own++[o])::Ω⟩ dst (mk (0,own.length))):=rfl
theorem aix{x:C}{s:St}{dst:Option Nat}{K:St->Prop}:A8 (.c x) s dst K=newObj s dst (.box [x]) (fun k=>.c (.ptr k 0)) K:=rfl
theorem ac9{x:List C}{s:St}{dst:Option Nat}{K:St->Prop}:A8 (.agg x) s dst K=newObj s dst (.box x) (fun k=>.c (.ptr k 0)) K:=rfl
theorem ada{α β:Type}{f:α->Option β}:([]:List α).mapM f=some []:=by simp
theorem Z6{α β:Type}{f:α->Option β}{x:α}{xs:List α}:(x::xs).mapM f=(f x).bind fun y=>(xs.mapM f).bind fun ys=>some (y::ys):=by
 rw[List.mapM_cons];rfl
theorem akj{c:C}:C.down 0 c=some c:=by cases c<;>simp[C.down]
theorem adb{n m j:Nat}{es:List (List D)}:C.down n (.bV (n+m,j) es)=some (.bV (m,j) es):=by simp[C.down]
theorem Z7{n j:Nat}{es:List (List D)}:C.down n (.bV (n,j) es)=some (.bV (0,j) es):=by simp[C.down]
theorem aiy{n:Nat}{x:D}:C.down n (.d x)=some (.d x):=rfl
theorem ade{n:Nat}:C.down n .any=some .any:=rfl
theorem adf{n:Nat}{es:List (List D)}:C.down n (.bM es)=some (.bM es):=rfl
theorem adg{n m j off:Nat}:C.down n (.ptr (n+m,j) off)=some (.ptr (m,j) off):=by simp[C.down]
theorem Z8{n j off:Nat}:C.down n (.ptr (n,j) off)=some (.ptr (0,j) off):=by simp[C.down]
theorem adh{n m:Nat}{es:List (List D)}:C.down n (.nA m es)=some (.nA m es):=rfl
theorem adi{Ω:Store}:oz ([]::Ω)=none:=rfl
theorem adj{cs:List C}{own:List Obj}{Ω:Store}:oz ((.box cs::own)::Ω)=none:=rfl
theorem adk{z:Nat}{es:List (List D)}{own:List Obj}{Ω:Store}:oz ((.tok z es::own)::Ω)=none:=rfl
theorem Z9{z:Nat}{es:List (List D)}{own:List Obj}{Ω:Store}:oz ((.eZ z es::own)::Ω)=none:=rfl
theorem agB{m:List (List UInt8)}{own:List Obj}{Ω:Store}:oz ((.mp m::own)::Ω)=none:=rfl
theorem aac{own:List Obj}{Ω:Store}:oz ((.dead::own)::Ω)=none:=rfl
theorem aad{n z:Nat}{es:List (List D)}{own:List Obj}{Ω:Store}:oz ((.jD n z es::own)::Ω)=none:=rfl
theorem aae{n:Nat}{own:List Obj}{Ω:Store}:oz ((.seed n::own)::Ω)=some n:=rfl
theorem aaf{es x:List (List D)}{z:Nat}{s:St}{dst:Option Nat}{K:St->Prop}:A9 none es s dst z x K=zJ (wQ s.st) es s dst z x K:=rfl
theorem Xp{es x:List (List D)}{z:Nat}{s:St}{dst:Option Nat}{K:St->Prop}:zJ false es s dst z x K=newObj s dst (.tok z x) (fun k=>.c (.bV k x)) K:=rfl
theorem aag{es x:List (List D)}{z:Nat}{s:St}{dst:Option Nat}{K:St->Prop}:zJ true es s dst z x K=(es.length<x.length/\newObj s dst (.eZ z x) (fun k=>.c (.iU k)) K):=rfl
theorem adl{Ω:Store}:wQ ([]::Ω)=false:=rfl
theorem adn{cs:List C}{own:List Obj}{Ω:Store}:wQ ((.box cs::own)::Ω)=false:=rfl
theorem ado{z:Nat}{es:List (List D)}{own:List Obj}{Ω:Store}:wQ ((.tok z es::own)::Ω)=false:=rfl
theorem aah{z:Nat}{es:List (List D)}{own:List Obj}{Ω:Store}:wQ ((.eZ z es::own)::Ω)=false:=rfl
theorem agC{m:List (List UInt8)}{own:List Obj}{Ω:Store}:wQ ((.mp m::own)::Ω)=false:=rfl
theorem aai{own:List Obj}{Ω:Store}:wQ ((.dead::own)::Ω)=false:=rfl
theorem aaj{n z:Nat}{es:List (List D)}{own:List Obj}{Ω:Store}:wQ ((.jD n z es::own)::Ω)=false:=rfl
theorem aak{n:Nat}{own:List Obj}{Ω:Store}:wQ ((.seed n::own)::Ω)=false:=rfl
theorem agD{own:List Obj}{Ω:Store}:wQ ((.xf []::own)::Ω)=false:=rfl
theorem adp{own:List Obj}{Ω:Store}{r:List (List D)}{rs:List (List (List D))}:wQ ((.xf (r::rs)::own)::Ω)=true:=rfl
theorem adq{n:Nat}{x:List (List D)}{z:Nat}{s:St}{dst:Option Nat}{K:St->Prop}:A9 (some n) [] s dst z x K=K (St.put ⟨s.tm,s.st⟩ dst (.c (.d (.ol n x)))):=rfl
theorem aal{n:Nat}{y:List D}{es x:List (List D)}{z:Nat}{s:St}{dst:Option Nat}{K:St->Prop}:A9 (some n) (y::es) s dst z x K=newObj s dst (.tok z x) (fun k=>.c (.bV k x)) K:=rfl
theorem Xq{n:Nat}{x:List (List D)}{z:Nat}{s:St}{dst:Option Nat}{K:St->Prop}:CX false n s dst z x K=newObj s dst (.jD n z x) (fun k=>.c (.bV k x)) K:=rfl
theorem aam{n:Nat}{x:List (List D)}{z:Nat}{s:St}{dst:Option Nat}{K:St->Prop}:CX true n s dst z x K=K (St.put ⟨s.tm,s.st⟩ dst (.c (.d (.ol n x)))):=rfl
theorem adr{own:List Obj}{Ω:Store}:Wp (own::Ω)=wR own[1]? :=rfl
theorem Xr:wR none=false:=rfl
theorem aan{cs:List C}:wR (some (.box cs))=false:=rfl
theorem aao{z:Nat}{es:List (List D)}:wR (some (.tok z es))=false:=rfl
theorem Xt{n z:Nat}{es:List (List D)}:wR (some (.jD n z es))=false:=rfl
theorem Xu{z:Nat}{es:List (List D)}:wR (some (.eZ z es))=false:=rfl
theorem Xv:wR (some .dead)=false:=rfl
theorem ads{m:List (List UInt8)}:wR (some (.mp m))=false:=rfl
theorem agE{own:List Obj}{Ω:Store}{t:TypeId}:Wu (own::Ω) t=zK own[0]? t:=rfl
theorem aap{t:TypeId}:zK none t=false:=rfl
theorem adt{t:TypeId}{cs:List C}:zK (some (.box cs)) t=false:=rfl
theorem adu{t:TypeId}{z:Nat}{es:List (List D)}:zK (some (.tok z es)) t=false:=rfl
theorem aaq{t:TypeId}{n z:Nat}{es:List (List D)}:zK (some (.jD n z es)) t=false:=rfl
theorem aar{t:TypeId}{z:Nat}{es:List (List D)}:zK (some (.eZ z es)) t=false:=rfl
theorem aas{t:TypeId}:zK (some .dead) t=false:=rfl
theorem agF{t:TypeId}{m:List (List UInt8)}:zK (some (.mp m)) t=false:=rfl
theorem aat{t:TypeId}{n:Nat}:zK (some (.seed n)) t=false:=rfl
theorem agG{t:TypeId}:zK (some (.xf [])) t=rowIs t:=rfl
theorem adv{t:TypeId}{r:List (List D)}{rs:List (List (List D))}:zK (some (.xf (r::rs))) t=false:=rfl
theorem Xw{P:Program}{t:TypeId}{s:St}{dst:Option Nat}{K:St->Prop}{r:R}:Ga P t s dst K false r=gI s dst K r:=rfl
theorem aau{P:Program}{t:TypeId}{s:St}{dst:Option Nat}{K:St->Prop}{p:Prop}{es:List (List D)}:Ga P t s dst K true (p,.c (.bM es))=(match P.underlying t with
 |some (.slice e)=>p/\newObj s dst (.eZ (P.cellsOf e) es) (fun k=>.c (.iU k)) K
 |_=>False):=rfl
theorem agH{own:List Obj}{Ω:Store}{rs:List (List (List D))}:oz ((.xf rs::own)::Ω)=none:=rfl
theorem Ua:wR (some (.seed 0))=false:=rfl
theorem Ub:wR (some (.seed 1))=true:=rfl
attribute [go_sem ↓] TD ZI TF WS O8 KW QZ WU ZJ ZK ZL WV Q0 WW WX KX TG KY TH TI WY O9 Pb MU MV TJ TK Q5 JJ
attribute [go_sem] agE aap adt adu aaq aar aas agF aat agG adv rowIs Xw aau agH Ay Dt List.getElem?_nil
attribute [go_sem] Xp aag adl adn ado aah agC aai aaj aak agD adp aaf adq aal Xq aam adr Xr aan aao Xt Xu Xv ads Ua Ub
theorem adw{P:Program}{t:TypeId}{n:Nat}{parts:List (Nat×V)}:kY P none t n parts=qm P t n parts:=rfl
def afJ(m:Nat):R->R
 |(p,.c (.bM es))=>(p,.c (.nA m es))
 |_=>no
theorem adx{m:Nat}{p:Prop}{es:List (List D)}:afJ m (p,.c (.bM es))=(p,.c (.nA m es)):=rfl
theorem ady{P:Program}{m:Nat}{t:TypeId}{n:Nat}{parts:List (Nat×V)}:kY P (some m) t n parts=afJ m (qm P t n parts):=rfl
attribute [go_sem_proc] Nat.reduceEqDiff Nat.reduceAdd Nat.reduceLeDiff Nat.reduceSub Nat.reduceMul Nat.reduceBEq Int.reduceEq Int.reduceLT Int.reduceLE Int.reduceGT Int.reduceGE Int.reduceNeg Int.reduceToNat
attribute [go_sem_proc ↓] reduceIte
attribute [wf_preprocess] decide_eq_true_eq decide_eq_false_iff_not Bool.not_eq_true Bool.not_eq_false Bool.not_eq_eq_eq_not Bool.not_true Bool.not_false Classical.not_not
attribute [go_sem ↓] ac0 ZE ZF WQ ac1 ZG ZH WR Tz TA QW QX agt acV Zy air ZX agu agv ac3 agw ais agx M5 Rc ZY Xl Rf Z0 Xm ac5 TV Z5 TB QY ZA ZB ZC ZV ZW WZ ac2 W9 ZM Q6 MW TL Pf KZ Q7 ZN ZO TM ZP ZQ MX Xa MZ Xb Xc ZR Q8 Q9 Pg Ph Xd Xe K3 TN ZT TP Xf Ra Xg Rb Xh Xi K4 TQ K5 TR TS Xj Pj Pk M0 M4 TT TU JK ZU Xk
attribute [go_sem] Bg WM Tx acW agz agy yN KV ac6 aiu Z4 V.mD C.mD Obj.mD acX acY acZ Bh
 WK WL agq acR acS acT agr acU ev Xn TW Xo TY Dl ac7 ac8 look aiv aiw T9 aix ac9 tO tQ wP qG Qu
 Ac Ib zI headD V4 rE Dm BU yZ rF Dn V5 V6 ME Va Ic xV Ef Dp wK vR capOf vS
 Qd vH xW sM sN uX bn aY C.up V.up zR fV lu V.tY C.tY akj adb Z7 aiy ade adf adg Z8
 List.map_cons List.map_nil List.append_nil List.nil_append List.length_nil List.length_cons List.cons_append Option.map_some Option.map_none Option.bind_some Option.bind_none
 List.getElem?_cons_zero List.getElem?_cons_succ List.set_cons_zero List.set_cons_succ List.drop_zero List.drop_succ_cons List.drop_nil List.take_zero List.take_succ_cons List.take_nil
 if_true if_false true_and and_true Int.toNat_natCast List.getElem?_toArray List.size_toArray Nat.zero_add Nat.add_zero Bool.false_eq_true Bool.true_eq_false Bool.not_true Bool.not_false reduceCtorEq
 decide_true decide_false List.all_cons List.all_nil Bool.and_true Bool.true_and Option.isSome_some Option.isSome_none agA getD_map ada Z6 NJ splice List.length_map Eh Dq vT qm List.size_toArray adi adj adk Z9 agB aac aad aae adw ady adx adh
section
variable {P:Program} {S S':Store} {N:Nat} {s:St}
def mX:List Nat->List V->List (Nat×V)
 |t::ts,v::vs=>(t,v)::mX ts vs
 |_,_=>[]
theorem yc(f:Nat->V):∀(ts:List Nat)(t:Nat),look (mX ts (ts.map f)) t=f t\/look (mX ts (ts.map f)) t=.any
 |[],t=>.inr rfl
 |u::us,t=>by
  show(if u=t then f u else look (mX us (us.map f)) t)=f t\/(if u=t then f u else look (mX us (us.map f)) t)=.any;by_cases e:u=t
  ·left;rw[if_pos e,e]
  ·rw[if_neg e];exact yc f us t
def Inv{ι:Type}(N:Nat)(ts:List Nat)(f:ι->List V)(g:ι->Store)(p:ι->Prop)(μ:ι->Nat)(i:ι)(s':St):Prop:=∃j s0,μ j<μ i/\jh N s' s0/\ts.map (look s0.tm)=f j/\s0.st=g j/\p j
theorem bT{ι:Type}{ts:List Nat}{f:ι->List V}{g:ι->Store}{p:ι->Prop}{μ:ι->Nat}{i:ι}(j:ι)(h1:μ j<μ i)(h2:ts.map (look s.tm)=f j)(h3:s.st=g j)(h4:p j):Inv N ts f g p μ i s:=
 ⟨j,s,h1,jh.refl _ _,h2,h3,h4⟩
theorem Gm:∀(ts:List Nat)(vs:List V),ts.Nodup->ts.length=vs.length->ts.map (look (mX ts vs))=vs
 |[],[],_,_=>rfl
 |t::ts,v::vs,hn,hl=>by
  have hn':=List.nodup_cons.1 hn;have ih:=Gm ts vs hn'.2 (by simpa using hl);simp only[mX,List.map_cons,look,if_true,List.cons.injEq,true_and];rw[<-ih];refine List.map_congr_left fun u hu=> ?_;have hne:t≠u:=fun e=>hn'.1 (e▸hu);rw[if_neg hne,ih]
theorem fu{ι:Type}{ts:List Nat}{f:ι->List V}{g:ι->Store}{p:ι->Prop}{μ:ι->Nat}{i:ι}{tm:List (Nat×V)}{own:List Obj}{Ω:Store}(n:Nat)(hnd:ts.Nodup)(j:ι)(h1:μ j<μ i)(h2:ts.map (look tm)=f j)(h3:own.take n::Ω=g j)
 (hr:wV n (mX ts (f j))=true)(ho:(own.take n).all (Obj.refs n)=true)(h4:p j):Inv N ts f g p μ i ⟨tm,own::Ω⟩:=by
 refine⟨j,⟨mX ts (f j),own.take n::Ω⟩,h1,?_,?_,h3,h4⟩
 ·have hg:jh N ⟨tm,own::Ω⟩ ⟨mX ts (f j),own::Ω⟩:=by
   rw[<-h2];exact QN fun t=>yc _ ts t
  exact hg.trans (WI n hr ho)
 ·exact Gm ts (f j) hnd (by rw[<-h2];simp)
theorem bN{ι:Type}{c:Code}{Q:Exit->St->Prop}(eH:P.follows .mixedOrders=true)(hok:codeOk N c=true)(ts:List Nat)(f:ι->List V)(g:ι->Store)(p:ι->Prop)(μ:ι->Nat)(i0:ι)
 (h1:ts.map (look s.tm)=f i0)(h2:s.st=g i0)(h3:p i0)
 (round:∀i,p i->CW P N c (jG (Inv N ts f g p μ i) Q) ⟨mX ts (f i),g i⟩):AW P N (.loop c) Q s:=by
 refine MO (ι:=ι) (fun i s=>∃s0,jh N s s0/\ts.map (look s0.tm)=f i/\s0.st=g i/\p i) μ i0 ⟨s,jh.refl _ _,h1,h2,h3⟩ fun i s hI=> ?_;obtain⟨s0,hg,h1,h2,h3⟩:=hI;refine oD ?_ hg
 have hr:=(gV eH c _ _ hok (round i h3)).mono (Q':=jG (fun s'=>∃j,μ j<μ i/\∃s0,jh N s' s0/\ts.map (look s0.tm)=f j/\s0.st=g j/\p j) Q) fun e s' h=>by
  cases e with
  |normal=>
   obtain⟨j,s0,a1,a2,a3,a4,a5⟩:=h;exact⟨j,a1,s0,a2,a3,a4,a5⟩
  |_=>exact h
 obtain⟨tm,st⟩:=s0;simp only at h1 h2;subst h2;rw[<-h1] at hr;exact WH hr fun t=>yc _ ts t
theorem adz:nL P [] s=(True,.eD []):=rfl
theorem adA{x:ResultVar}:nL P [x] s=wU P s x:=rfl
theorem adB{x y:ResultVar}{z:List ResultVar}:nL P (x::y::z) s=(match(oC P s (x::y::z)).2 with
 |some ys=>((oC P s (x::y::z)).1,.eD ys)
 |none=>no):=rfl
end
attribute [go_sem] FX Pz
attribute [go_sem] mX adz adA adB wU oC KN gT V.ret Ii
section
variable {P:Program} {S S':Store} {N:Nat} {s:St}
theorem aH{α:Type}{fr:List α}{S:List (List α)}{l j:Nat}:bn (fr::S) (1+l,j)=bn S (l,j):=by rw[Nat.add_comm,bZ]
theorem ak{α:Type}{fr:List α}{S:List (List α)}{l j:Nat}{x:α}:aY (fr::S) (1+l,j) x=fr::aY S (l,j) x:=by rw[Nat.add_comm,aY]
theorem aiz{n l j:Nat}:zR n (l,j)=(n+l,j):=rfl
theorem Xx{l j:Nat}{es:List (List D)}:C.ret (.bV (1+l,j) es)=some (.bV (l,j) es):=by
 rw[Nat.add_comm];show C.down 1 (.bV (l+1,j) es)=_;simp[C.down]
theorem ret_tsl_0{j:Nat}{es:List (List D)}:C.ret (.bV (0,j) es)=some (.d (.sl es)):=rfl
theorem akk{x:D}:C.ret (.d x)=some (.d x):=rfl
theorem agI:C.ret .any=some .any:=rfl
theorem agJ{es:List (List D)}:C.ret (.bM es)=some (.bM es):=rfl
theorem agK{n:Nat}{es:List (List D)}:C.ret (.nA n es)=some (.nA n es):=rfl
theorem adC{cs:List D}:C.ret (.kV cs)=some (.kV cs):=rfl
theorem agL{l j off:Nat}:C.ret (.ptr (1+l,j) off)=some (.ptr (l,j) off):=by
 rw[Nat.add_comm];show C.down 1 (.ptr (l+1,j) off)=_;simp[C.down]
theorem agM{j:Nat}{es es':List (List D)}{k:Key}:C.mD j es (.bV k es')=.bV k es':=rfl
theorem akl{x:D}:C.tY (.d x)=.d x:=rfl
theorem agN:C.tY .any=.any:=rfl
theorem agO{k:Key}{off:Nat}:C.tY (.ptr k off)=.ptr k off:=rfl
theorem aiA{f:Nat}{caps:List (Key×Nat)}:C.tY (.fn f caps)=.fn f caps:=rfl
theorem agP{k:Key}:C.tY (.iU k)=.iU k:=rfl
theorem adD{cs:List D}:C.tY (.kV cs)=.kV cs:=rfl
theorem akm{j:Nat}{es:List (List D)}{x:D}:C.mD j es (.d x)=.d x:=rfl
theorem agQ{j:Nat}{es:List (List D)}:C.mD j es .any=.any:=rfl
theorem agR{j:Nat}{es es':List (List D)}:C.mD j es (.bM es')=.bM es':=rfl
theorem agS{j:Nat}{es:List (List D)}{k:Key}{off:Nat}:C.mD j es (.ptr k off)=.ptr k off:=rfl
theorem aiB{j:Nat}{es:List (List D)}{f:Nat}{caps:List (Key×Nat)}:C.mD j es (.fn f caps)=.fn f caps:=rfl
theorem agT{j n:Nat}{es es':List (List D)}:C.mD j es (.nA n es')=.nA n es':=rfl
theorem agU{n:Nat}{es:List (List D)}:C.tY (.nA n es)=.nA n es:=rfl
theorem adE{j:Nat}{es:List (List D)}{cs:List D}:C.mD j es (.kV cs)=.kV cs:=rfl
theorem agV{j i:Nat}{es:List (List D)}:C.mD j es (.iU (0,i))=if i=j then .d (.sl es) else .iU (0,i):=rfl
theorem bY.aiC{f:FuncId}(i:Nat){es:List (List D)}{bB:Nat}{args:List V}{post post':V->Store->Prop}(hi:args[i]? =some (.c (.bM es)))(hes:∀e∈es,e.length=bB)
 (h:bY P f ((args.map (V.up 1)).set i (.c (.bV (0,0) es))) ([.tok bB es]::S) post)
 (hp:∀r fr S',post r (fr::S')->∃r',r.ret=some r'/\post' r' S'):bY P f args S post':=by
 refine⟨h.1,fun w σ β vs hS hargs=> ?_⟩;obtain⟨v,hv0,⟨hd,ad,n,hval⟩,hone⟩:=hargs.2 i _ hi
 ·have hn:n=es.length:=by rw[hval] at hd;cases hd<;>rfl
  have hg:Grow w σ w σ:=Grow.refl hS.live
  obtain⟨hS',hk,hst⟩:=hS.up1.push (o:=.tok bB es) (h:=v) hg rfl ⟨hd,hes,ad,n,by rw[hval,hn],by omega,.inl hn⟩ (fun b hb=>by
   rw[hval,hn] at hb
   cases ad<;>simp[owns,blk] at hb)
  have hargs':rH w σ ([.tok bB es]::S) ([v]::β) ((args.map (V.up 1)).set i (.c (.bV (0,0) es))) vs:=by
   refine⟨by have:=hargs.1;simpa using this,fun j x hx=> ?_⟩;rw[List.getElem?_set] at hx;by_cases e:i=j
   ·subst e;rw[if_pos rfl] at hx;split at hx
    ·cases hx;refine⟨v,hv0,⟨hd,.tok bB es,rfl,fun a b e=> ?_⟩,hone⟩;obtain⟨_,rfl⟩:=qp (lab:=none) e;exact⟨Nat.le_refl _,fun _=>rfl⟩
    ·cases hx
   ·rw[if_neg e,List.getElem?_map] at hx
    cases ha:args[j]? with
    |none=>rw[ha] at hx;cases hx
    |some y=>
     rw[ha] at hx;cases hx;obtain⟨u,hu,hr⟩:=hargs.2 j y ha;exact⟨u,hu,Ij (S:=[.tok bB es]::S) (β:=[v]::β) 1 hr⟩
  refine(h.2 w σ ([v]::β) vs hS' hargs').mono fun e w' ⟨v',r,S1,σ',β',he,hS1,hk1,El,hr1,hpost⟩=> ?_
  have hO:∀b,Own ([.tok bB es]::S) ([v]::β) b->Own S β b:=by
   rintro b ⟨⟨l,j⟩,o,hv,h1,h2,h3⟩
   cases l with
   |zero=>
    rw[bK] at h1 h2
    cases j with
    |zero=>
     cases h1;cases h2;rw[hval,hn] at h3;cases ad<;>simp[owns,blk] at h3
    |succ j=>simp at h1
   |succ l=>rw[bZ] at h1 h2;exact⟨(l,j),o,hv,h1,h2,h3⟩
  cases S1 with
  |nil=>
   obtain⟨o',h1,_⟩:=hk1 (0,0) _ rfl;rw[nu] at h1;cases h1
  |cons fr S1=>
   cases β' with
   |nil=>have:=hS1.shape.1;simp at this
   |cons bo bΩ=>
    obtain⟨r',hr',hp'⟩:=hp r fr S1 hpost;refine⟨v',r',S1,σ',bΩ,he,hS1.En,hk1.drop 1,⟨El.size,El.os,El.output,fun b hb ho=>El.far b hb (fun x=>ho (hO b x)),El.near,fun b hb=>(El.own b (tV hb)).imp (hO b) id⟩,QF hr' hr1,hp'⟩
end
attribute [go_sem] aH ak aiz Xx ret_tsl_0 akk agI agJ adC agL agM akl agN agO aiA agP adD akm agQ agR agS aiB adE agV agK agT agU
end Go.Ab