/-
  SEVERAL TEXTS IN ONE (merged by program): contracts and models, each with its own heading.
-/
import Derived.Test.YtnmjbebcebbmfaaGreatPartHibA
import Derived.LoopN
import Derived.StillTail
set_option linter.unusedSimpArgs false
set_option linter.unusedVariables false
namespace Go.Ab
def rowIs(t:TypeId):Bool:=t==63||t==67||t==75||t==74
def vC(o:Option Obj)(t:TypeId):Bool:=match o with
 |some (.xf [])=>rowIs t
 |_=>false
def Ph(S:Store)(t:TypeId):Bool:=vC (aN S (0,0)) t
def Au(P:Program)(t:TypeId)(s:St)(dst:Option Nat)(K:St->Prop)(b:Bool)(r:R):Prop:=
 match b,r with
 |false,r=>r.1/\K (s.put dst r.2)
 |true,(p,.c (.bF es))=>match P.underlying t with
  |some (.slice e)=>p/\newObj s dst (.cZ (P.cellsOf e) es) (fun k=>.c (.eP k)) K
  |_=>False
 |true,_=>False
def kN(P:Program)(t u:TypeId)(k:Key)(y:V)(s:St)(dst:Option Nat)(K:St->Prop):Prop:=
 match P.underlying t,Kh P u y,aN s.st k with
 |some (.slice e),some ys,some (.cZ aM es)=>aM=P.cellsOf e/\(∀y∈ys,y.length=P.cellsOf e)/\P.bytesOf e<=4096/\(∃zs,gF P e=some zs/\zs.length=P.cellsOf e)/\es.length+ys.length<=1073741824/\
   newObj ⟨s.tm,aP s.st k .dead⟩ dst (.cZ aM (es++ys)) (fun k=>.c (.eP k)) K
 |_,_,_=>False
def wC(P:Program)(t u:TypeId)(x y:V)(s:St)(dst:Option Nat)(K:St->Prop):Prop:=
 match x with
 | .c (.eP k)=>kN P t u k y s dst K
 |x=>lC P t u x y s dst K
def fM(P:Program)(o:Oper)(s:St)(K:St->Prop):Prop:=
 match o.op with
 | .call {callee:=.builtin .append,args:=nX,argTypes:=ts}=>match nX.toList,ts.toList with
   |[x,y],[t,u]=>wC P t u (ev s.tm x) (ev s.tm y) s o.dst K
   |_,_=>False
 | .buildSlice t n parts=>Au P t s o.dst K (Ph s.st t) (nval P s.st s.tm (.buildSlice t n parts))
 |_=>bO P o s K
section
variable {P:Program} {w w':World} {σ σ':Nat->Nat} {S:Store} {β β':Hs} {N:Nat} {s:St} {a:Act}
theorem dM.lay{own:List Obj}{Ω:Store}{bo:List Value}{bΩ:Hs}{o:Obj}{h:Value}(hS:dM w σ (own::Ω) (bo::bΩ))(hlen:bo.length=own.length)
 (ho:eT w σ ((own++[o])::Ω) ((bo++[h])::bΩ) o h)(hb:∀b,owns o h b->¬Own (own::Ω) (bo::bΩ) b):
 dM w σ ((own++[o])::Ω) ((bo++[h])::bΩ)/\Keep (own::Ω) (bo::bΩ) ((own++[o])::Ω) ((bo++[h])::bΩ)/\∀b,Own ((own++[o])::Ω) ((bo++[h])::bΩ) b->Own (own::Ω) (bo::bΩ) b\/owns o h b:=by
 have hkeep:Keep (own::Ω) (bo::bΩ) ((own++[o])::Ω) ((bo++[h])::bΩ):=by
  intro k o1 h1;obtain⟨h2,tF,_⟩:=hS.obj k o1 h1;exact⟨o1,gu _ _ _ _ _ h1,by rw[gu _ _ _ _ _ tF,tF];exact .refl _ _⟩
 have hinv:∀k o1 h1,aN ((own++[o])::Ω) k=some o1->aN ((bo++[h])::bΩ) k=some h1->
  (aN (own::Ω) k=some o1/\aN (bo::bΩ) k=some h1)\/(k=(0,own.length)/\o1=o/\h1=h):=by
  intro k o1 h1 e1 e2;rcases iV _ _ _ _ _ e1 with e1|⟨rfl,rfl⟩
  ·left;refine⟨e1,?_⟩;rcases iV _ _ _ _ _ e2 with e2|⟨rfl,rfl⟩
   ·exact e2
   ·rw[aJ,hlen] at e1;have:=(ai.1 e1).1;omega
  ·right;rw[<-hlen,bL] at e2;exact⟨rfl,rfl,(cD e2).symm⟩
 refine⟨⟨?_,?_,⟨?_,?_⟩,hS.live,hS.qp⟩,hkeep,?_⟩
 ·intro k o1 h1;rcases iV _ _ _ _ _ h1 with h1|⟨rfl,rfl⟩
  ·obtain⟨h2,tF,hr⟩:=hS.obj k o1 h1;exact⟨h2,gu _ _ _ _ _ tF,hr.mono (dR.refl _ _) (hkeep.drop _) fun b hb=>⟨rfl,rfl⟩⟩
  ·exact⟨h,by rw[<-hlen,bL],ho⟩
 ·intro k k' o1 o2 h1 h2 b e1 e2 e3 e4 e5 e6;rcases hinv k o1 h1 e1 e2 with⟨f1,f2⟩|⟨rfl,rfl,rfl⟩
  ·rcases hinv k' o2 h2 e4 e5 with⟨g1,g2⟩|⟨rfl,rfl,rfl⟩
   ·exact hS.apart _ _ _ _ _ _ _ f1 f2 e3 g1 g2 e6
   ·exact absurd ⟨k,o1,h1,f1,f2,e3⟩ (hb b e6)
  ·rcases hinv k' o2 h2 e4 e5 with⟨g1,g2⟩|⟨rfl,rfl,rfl⟩
   ·exact absurd ⟨k',o2,h2,g1,g2,e6⟩ (hb b e3)
   ·rfl
 ·have:=hS.shape.1;simpa using this
 ·intro l fr hl
  cases l with
  |zero=>
   simp at hl;exact⟨_,rfl,by rw[<-hl];simp[hlen]⟩
  |succ l=>exact hS.shape.2 (l+1) fr hl
 ·rintro b ⟨k,o1,h1,e1,e2,e3⟩;rcases hinv k o1 h1 e1 e2 with⟨f1,f2⟩|⟨rfl,rfl,rfl⟩
  ·exact .inl ⟨k,o1,h1,f1,f2,e3⟩
  ·exact .inr e3
theorem Pj{t u ty e:TypeId}{sv:Value}{size:Nat}{es ys:List (List D)}{yv:Value}(hl:∀b,b<w.heap.size\/σ b=0)
 (ht:P.underlying t=some (.slice e))(hu:EA P u)(hz:∃zs,gF P e=some zs/\zs.length=size)(hsize:P.cellsOf e=size)(hb:P.bytesOf e<=4096)
 (hs:eT w σ S β (.cZ size es) sv)(hy:uR P w σ size ys yv)(hlen:es.length+ys.length<=1073741824):
 ∃r w',(Builtin.append_ #[t,u] ty #[sv,yv]).run P w=.ok r w'/\(∀S' β',eT w' σ S' β' (.cZ size (es++ys)) r)/\w.heap.size<=w'.heap.size/\w'.os=w.os/\w'.output=w.output/\
  dR w σ w' σ/\(∀b,b<w'.heap.size\/σ b=0)/\(∀b,b<w.heap.size->¬owns (.cZ size es) sv b->w'.heap[b]? =w.heap[b]?)/\
  (∀b,owns (.cZ size (es++ys)) r b->owns (.cZ size es) sv b\/w.heap.size<=b)/\r.oneCell'=true:=by
 obtain⟨zs,hzs,hzl⟩:=hz;obtain⟨z,qC,hzc⟩:=oZ (w:=w) (σ:=σ) (S:=S) (β:=β) hzs
 have Ao:z.cells.size=size:=by have:=hzc.1;simp at this;omega
 have hex:∃info,P.info? e=some info/\info.zero=some z:=by
  unfold gF at hzs
  cases hi:P.info? e with
  |none=>rw[hi] at hzs;cases hzs
  |some i=>
   refine⟨i,rfl,?_⟩
   cases hz:i.zero with
   |none=>rw[hi] at hzs;simp[hz] at hzs
   |some z'=>
    have:(zeroValue e).run P w=.ok z' w:=by simp[zeroValue,typeInfo,hi,hz]
    rw[qC] at this;cases this;rfl
 obtain⟨info,hi,hiz⟩:=hex
 have hib:info.bytes=P.bytesOf e:=by simp[Program.bytesOf,hi]
 have his:info.size=size:=by rw[<-hsize];simp[Program.cellsOf,hi]
 have hs0:=hs;obtain⟨hle,base,sCap,rfl,hcap,h4⟩:=hs;obtain⟨hyl,hys,ya,J9,Ka,RY⟩:=hy w rfl;have hall:∀x∈es++ys,x.length=size:=fun x hx=>(cR.1 hx).elim (hle x) (hys x);have hfl:es.flatten.length=es.length*size:=iF es size hle;have hfy:ys.flatten.length=ys.length*size:=iF ys size hys;have hlen':(es++ys).length=es.length+ys.length:=ab
 have hone:∀v∈ya.toList,v.oneCell'=true:=fun v hv=>by
  obtain⟨j,hj⟩:=de hv;have hjl:=(ai.1 hj).1;simp at hjl;obtain⟨v',hv',hr⟩:=RY j _ (ag (by omega));rw[bw] at hj;rw[hj] at hv';cases hv';exact hr.one
 by_cases hn0:ys.length=0
 ·have Vd:ys=[]:=co hn0;subst Vd
  have hya:ya= #[]:=by simpa using Ka
  subst hya;refine⟨_,w,Ak ht hu hi hyl (by rw[his];exact J9) hcap,fun S' β'=> ?_,aw _,rfl,rfl,dR.refl _ _,hl,fun b _ _=>rfl,fun b hb=>.inl (by simpa using hb),rfl⟩;rw[cJ];exact hs0
 by_cases hroom:es.length+ys.length<=sCap
 ·have hc0:sCap≠0:=by omega
  obtain⟨b,c,ct,rfl,hbc,hσ,hfit,hcells⟩:=h4.resolve_left hc0
  have hmul:es.length*size+ys.length*size<=sCap*size:=by rw[<-ck];exact ce _ hroom
  have hrun:=Al (P:=P) (ty:=ty) (b:=b) (off:=0) ht hu hi hyl (by rw[his];exact J9) hroom hbc (by rw[his,Ka];omega) hone;rw[his,cT] at hrun;generalize hc2:(c.toList.take (es.length*size)++ya.toList++c.toList.drop (es.length*size+ya.size)).toArray=c2 at hrun
  have wK:c2.size=c.size:=by rw[<-hc2];simp;omega
  have hheap:(w.setRow b c2).heap[b]? =some (.cells c2 ct (0,0)):=setRow_heap w b c c2 ct (0,0) hbc
  have hlow:∀i,i<es.length*size->c2[i]? =c[i]? :=fun i hi=>by
   rw[<-hc2,cA,cH,an (by simp;omega),bu hi,bw]
  have hmid:∀j,j<ya.size->c2[es.length*size+j]? =ya[j]? :=fun j hj=>by
   rw[<-hc2,cA,an (by simp;omega),am (by simp;omega),<-bw];congr 1;simp;omega
  have hn:dR w σ (w.setRow b c2) σ:=by
   intro b1 c1 t1 CK e1;refine⟨aw _,fun _=>rfl,?_⟩;by_cases hb1:b1=b
   ·subst hb1;rw[hbc] at e1;cases e1;exact⟨c2,hheap,wK,fun i hi=>by omega⟩
   ·exact⟨c1,(fJ w b c2 b1 hb1).trans e1,rfl,fun _ _=>rfl⟩
  refine⟨_,_,hrun,fun S' β'=>⟨hall,_,sCap,by rw[hlen'],by omega,.inr ⟨b,c2,ct,rfl,hheap,hσ,by omega,fun j d hj=> ?_⟩⟩,by rw[setRow_size];exact aw _,rfl,rfl,hn,fun x=>by rw[setRow_size];exact hl x,fun x hx hne=> ?_,fun x hx=>.inl ?_,rfl⟩
  ·rw[cF] at hj;by_cases hjl:j<es.length*size
   ·rw[an (by omega)] at hj;obtain⟨v,hv,hr⟩:=hcells j d hj;exact⟨v,by rw[hlow j hjl];exact hv,hr.mono hn⟩
   ·rw[am (by omega),hfl] at hj;obtain⟨v,hv,hr⟩:=RY _ d hj;have hlt:=(aE.1 hv).1;refine⟨v,?_,hr.mono hn⟩;rw[<-hv,<-hmid _ hlt];congr 1;omega
  ·exact fJ _ _ _ _ fun e=>hne (by simp[owns,blk,hc0,e])
  ·simpa [owns,blk] using hx
 ·obtain⟨aaA,_,EC,Ke,ED,Kg⟩:=hy w.drew rfl
  obtain⟨oa,hor,Ap,hod⟩:∃oa:Array Value,(Builtin.firstCells size es.length (.slice base es.length sCap)).run P w.drew=.ok oa w.drew/\oa.size=es.length*size/\∀(j:Nat)(d:D),es.flatten[j]? =some d->∃v,oa[j]? =some v/\dw w σ d v:=by
   rcases h4 with h0|⟨b,c,ct,rfl,hbc,hσ,hfit,hcells⟩
   ·have he:es=[]:=co (by omega);subst he;refine⟨#[],?_,by simp,fun j d hj=>by simp at hj⟩
    cases base with
    |none=>rfl
    |some b=>simp[Builtin.firstCells,loadCells,loadCellsFrom]
   ·have hm:es.length*size<=sCap*size:=ce _ hcap;have hbc':w.drew.heap[b]? =some (.cells c ct (0,0)):=hbc;have hex:∀j,j<es.length*size->∃v,c[0+j]? =some v:=fun j hj=>⟨c[0+j]'(by omega),cb (by omega)⟩;obtain⟨hpl,hpv⟩:=uP c 0 (es.length*size) hex;refine⟨_,rT (a:=⟨b,0,none⟩) rfl hbc' _ hex,by simpa using hpl,fun j d hj=> ?_⟩;obtain⟨v,hv,hr⟩:=hcells j d hj;have hjl:=(ai.1 hj).1;refine⟨v,?_,hr⟩;rw[cA,hpv j (by omega),cT];exact hv
  obtain⟨cap,rest,BJ,hrest,hrun⟩:=wL (P:=P) (ty:=ty) (base:=base) (sCap:=sCap) ht hu hi hiz hyl (by rw[his];exact Ke) (by rw[his];exact hor) (by omega) hlen (by rw[hib];exact hb)
  let w':World:={w.drew with heap:=w.heap.push (.cells (oa++EC++rest) e)}
  have hn:dR w σ w' σ:=by
   intro b1 c1 t1 CK e1
   have hne:b1≠w.heap.size:=by have:=lt_of_some e1;omega
   refine⟨aw _,fun _=>rfl,c1,?_,rfl,fun _ _=>rfl⟩;simp only[w'];rw[cC,if_neg hne];exact e1
  have hn':dR w.drew σ w' σ:=hn
  have hheap:w'.heap[w.heap.size]? =some (.cells (oa++EC++rest) e (0,0)):=by simp[w']
  have Yn:σ w.heap.size=0:=by
   rcases hl w.heap.size with h|h
   ·omega
   ·exact h
  refine⟨_,w',hrun,fun S' β'=>⟨hall,_,cap,by rw[hlen'],by omega,.inr ⟨w.heap.size,_,e,rfl,hheap,Yn,?_,fun j d hj=> ?_⟩⟩,by simp[w'],rfl,rfl,hn,fun x=> ?_,fun x hx _=> ?_,fun x hx=>.inr ?_,rfl⟩
  ·simp only[Array.size_append,Ap,ED,hrest,Ao];rw[<-ck,<-ck];exact ce _ (by omega)
  ·rw[cF] at hj;by_cases hjl:j<es.length*size
   ·rw[an (by omega)] at hj;obtain⟨v,hv,hr⟩:=hod j d hj;refine⟨v,?_,hr.mono hn⟩;rw[dv,cw (by omega)];exact hv
   ·rw[am (by omega),hfl] at hj;obtain⟨v,hv,hr⟩:=Kg _ d hj;have hlt:=(aE.1 hv).1;refine⟨v,?_,hr.mono hn'⟩;rw[dv,ez (by omega),Ap,cw (by omega)];exact hv
  ·simp only[w',eF];exact(hl x).imp (fun h=>by omega) id
  ·have hne:x≠w.heap.size:=by omega
   simp only[w'];rw[cC,if_neg hne]
  ·simp only[owns,blk] at hx;split at hx
   ·cases hx
   ·cases hx;exact aw _
theorem Av{o:Oper}{K:St->Prop}{Q:Exit->Act->World->Prop}{t u:TypeId}{x y:Operand}{k:Key}(hrun:∀r w',(Builtin.append_ #[t,u] o.type #[a.eval x,a.eval y]).run P w=.ok r w'->(execOp a.eval o).run P w=.ok (.value r) w')
 (hd:∀d,o.dst=some d->d<N)(hR:iq N s a w σ β)(hx:ev s.tm x=.c (.eP k))(h:kN P t u k (ev s.tm y) s o.dst K):o.wp P a w (Then N s.st β σ w K) Q:=by
 have NZ:=gV hR.T x;have J9:=gV hR.T y;rw[hx] at NZ;unfold kN at h;split at h
 ·rename_i e ys aM es ht hsrc hk;obtain⟨rfl,h1,h2,h3,h5,h6⟩:=h;obtain⟨hu,hsa⟩:=Kk hsrc J9 h1;obtain⟨⟨ob,ho,Pg⟩,hone⟩:=NZ;rw[hk] at ho;cases ho;have hβ:=Pg _ _ rfl;obtain⟨hh,hb,qx⟩:=hR.S.obj k _ hk;rw[hβ] at hb;cases hb;obtain⟨r,w',hr,hro,hsz,hos,hout,hn,hl,rW,hbk,h1c⟩:=Pj (P:=P) (ty:=o.type) hR.S.live ht hu h3 rfl h2 qx hsa h5;obtain⟨hS1,hk1,y8⟩:=hR.S.set (o':=.dead) (h':=a.eval x) hk hβ hsz hos hout hn hl (fun b h1 h2=>⟨rW b h1 h2,rfl⟩) (.inl rfl) trivial (fun b hb=>by cases hb);have e1:aP β k (a.eval x)=β:=H7 (a.eval x) _ _ _ hβ;rw[e1] at hS1 hk1 y8;obtain⟨tm,st⟩:=s;have hsh:=hS1.shape
  cases hst:aP st k Obj.dead with
  |nil=>simp only[newObj,hst] at h6
  |cons own Ω=>
   simp only[newObj,hst] at h6
   have Ve:dM w' σ (own::Ω) β:=by rw[<-hst];exact hS1
   have hfr:∃bo bΩ,β=bo::bΩ/\bo.length=own.length:=by
    cases β with
    |nil=>have:=Ve.shape.1;simp at this
    |cons bo bΩ=>
     refine⟨bo,bΩ,rfl,?_⟩;obtain⟨gr,q1,q2⟩:=Ve.shape.2 0 own rfl;simp at q1;rw[q1];exact q2
   obtain⟨bo,bΩ,rfl,hlen⟩:=hfr
   have hnot:∀b,owns (.cZ (P.cellsOf e) (es++ys)) r b->¬Own (own::Ω) (bo::bΩ) b:=by
    intro b hb ⟨k1,o1,h1,e1,e2,e3⟩
    have hin:aN st k1=some o1/\k1≠k:=by
     have CO:aN (aP st k Obj.dead) k1=some o1:=by rw[hst];exact e1
     by_cases q:k1=k
     ·subst q;rw[bP _ _ _ _ hk] at CO;cases CO;cases e3
     ·rw[dD _ _ _ _ (Ne.symm q)] at CO;exact⟨CO,q⟩
    rcases hbk b hb with k2|k2
    ·exact hin.2 (hR.S.apart k1 k o1 _ h1 _ b hin.1 e2 e3 hk hβ k2)
    ·have:=hR.S.yA ⟨k1,o1,h1,hin.1,e2,e3⟩;omega
   obtain⟨hS2,hk2,hown⟩:=Ve.lay hlen (hro _ _) hnot
   have adH:Keep st (bo::bΩ) (own::Ω) (bo::bΩ):=by rw[<-hst];exact hk1
   have BK:Step st (bo::bΩ) σ w (own::Ω) (bo::bΩ) σ w':=by rw[<-hst];exact y8
   refine iB (x:=.c (.eP (0,own.length))) (v:=r) hd hR hS2 (adH.trans hk2) ⟨BK.size,BK.os,BK.output,BK.far,BK.near,fun b hb=> ?_⟩ ⟨⟨_,bL _ _ _,fun a b e=> ?_⟩,h1c⟩ (.inl rfl) (hrun _ _ hr) h6
   ·rcases hown b hb with q|q
    ·exact BK.own b q
    ·rcases hbk b q with q2|q2
     ·exact .inl ⟨k,_,_,hk,hβ,q2⟩
     ·exact .inr q2
   ·rw[<-hlen,bL]
 ·exact h.elim
theorem R4{o:Oper}{K:St->Prop}{Q:Exit->Act->World->Prop}{t:TypeId}{n:Nat}{parts:Array (Nat×Operand)}(ho:o.op=.buildSlice t n parts)(hd:∀d,o.dst=some d->d<N)(hR:iq N s a w σ β)
 (h:Au P t s o.dst K (Ph s.st t) (nval P s.st s.tm (.buildSlice t n parts))):o.wp P a w (Then N s.st β σ w K) Q:=by
 unfold Au at h;split at h
 ·obtain⟨h1,h2⟩:=h;rw[<-ho] at h1 h2;obtain⟨v,w',σ',hrun,hg,hv⟩:=Et o hR.S hR.T h1;exact mq hd hR hg hv hrun h2
 ·rename_i p es hb hr;split at h
  ·rename_i e ht;obtain⟨hp,h6⟩:=h;have hr':jY P (lI s.st) s.st s.tm (.buildSlice t n parts)=(p,.c (.bF es)):=hr;simp only[jY] at hr'
   cases hlab:lI s.st with
   |some m=>
    rw[hlab] at hr';simp only[jq] at hr';split at hr'<;>cases hr'
   |none=>
    rw[hlab] at hr';simp only[jq,mP,ht] at hr';split at hr'
    ·rename_i es' hes;cases hr';obtain⟨h1,h2,h3⟩:=hp
     obtain⟨ca,hrun,hca,hle,hcells⟩:=xJ (P:=P) (w:=w) (σ:=σ) (S:=s.st) (β:=β) (t:=t) (n:=n) (parts:=parts.toList.map fun x=>(x.1,ev s.tm x.2)) (pv:=parts.toList.map fun x=>(x.1,a.eval x.2)) (by simp)
      (fun j x hx=>by
        rw[aV] at hx ⊢
        cases hc:parts.toList[j]? with
        |none=>rw[hc] at hx;cases hx
        |some y=>rw[hc] at hx;cases hx;exact⟨_,rfl,gV hR.T y.2⟩) ht hes h1 h2 h3
     have hrun':(execOp a.eval o).run P w=.ok (.value (.slice (some ⟨w.heap.size,0,none⟩) n n)) {w with heap:=w.heap.push (.cells ca e)}:=by
      clear h6 hr;obtain⟨dst,op,ty,pos,after,guard⟩:=o;simp only at ho;subst ho;simp[execOp];rw[J4,hrun];rfl
     have hg:=vS w σ hR.S.live ca e 0
     have Yn:σ w.heap.size=0:=by
      rcases hR.S.live w.heap.size with h|h
      ·omega
      ·exact h
     obtain⟨tm,st⟩:=s
     cases st with
     |nil=>exact h6.elim
     |cons own Ω=>
      obtain⟨bo,bΩ,rfl,hlen⟩:=frames hR
      obtain⟨hS',hk,hst⟩:=hR.S.push (o:=.cZ (P.cellsOf e) es) (h:=.slice (some ⟨w.heap.size,0,none⟩) n n) hg hlen
       ⟨hle,some ⟨w.heap.size,0,none⟩,n,by rw[h1],by omega,.inr ⟨w.heap.size,ca,e,rfl,by simp,by simp,by rw[hca,h1];exact aw _,fun j d hj=>by
         obtain⟨v,hv,hr⟩:=hcells j d hj
         exact⟨v,hv,hr.mono hg.near⟩⟩⟩
       (fun b hb=>by
         simp only[owns,blk] at hb;split at hb
         ·cases hb
         ·cases hb;exact aw _)
      refine iB (x:=.c (.eP (0,own.length))) hd hR hS' hk hst ⟨⟨_,bL _ _ _,fun aM es e=> ?_⟩,rfl⟩ (.inl rfl) hrun' h6;rw[<-hlen,bL]
    ·cases hr'
  ·exact h.elim
 ·exact h.elim
theorem CP(hw:∀{o:Oper}{K:St->Prop}{Q:Exit->Act->World->Prop},(∀d,o.dst=some d->d<N)->bO P o s K->o.wp P a w (Then N s.st β σ w K) Q){o:Oper}{K:St->Prop}{Q:Exit->Act->World->Prop}(hd:∀d,o.dst=some d->d<N)(hR:iq N s a w σ β)(h:fM P o s K):o.wp P a w (Then N s.st β σ w K) Q:=by
 unfold fM at h;split at h
 ·rename_i nX ts ho;split at h
  ·rename_i x y t u hx ht;unfold wC at h;split at h
   ·rename_i k hk;refine Av (fun r w' hr=> ?_) hd hR hk h;clear h;obtain⟨dst,op,ty,pos,after,guard⟩:=o;simp only at ho;subst ho
    obtain rfl:nX= #[x,y]:=by rw[<-bt (xs:=nX),hx]
    obtain rfl:ts= #[t,u]:=by rw[<-bt (xs:=ts),ht]
    simp only at hr;simp[execOp,resolve,invoke,builtin,hr]
   ·refine hw hd ?_;unfold bO;rw[ho];simp only[jy,hx,ht];exact h
  ·exact h.elim
 ·rename_i t n parts ho;exact R4 ho hd hR h
 ·exact hw hd h
end
section
variable {P:Program} {w w':World} {σ σ':Nat->Nat} {S:Store} {β β':Hs} {N:Nat} {s:St} {a:Act}
theorem y9{o:Oper}{K:St->Prop}{Q:Exit->Act->World->Prop}(hd:∀d,o.dst=some d->d<N)(hR:iq N s a w σ β)(h:bO P o s K):o.wp P a w (Then N s.st β σ w K) Q:=by
 unfold bO at h;split at h
 ·rename_i t ho;unfold o7 at h;split at h
  ·rename_i zs hz;obtain⟨z,qC,hzc⟩:=oZ (w:=w) (σ:=σ) (S:=s.st) (β:=β) hz;refine EG (v:=z) (t:=t) hd hR hzc (fun ad w' Ar=> ?_) h;obtain⟨dst,op,ty,pos,after,guard⟩:=o;simp only at ho;subst ho;simp[execOp,Instr.alloc,qC,Ar]
  ·exact h.elim
 ·rename_i t x ho;unfold wM at h;split at h
  ·rename_i cs hcs;refine EG (v:=a.eval x) (t:=t) hd hR (rV hcs (gV hR.T x)) (fun ad w' Ar=> ?_) h;obtain⟨dst,op,ty,pos,after,guard⟩:=o;simp only at ho;subst ho;simp[execOp,Instr.box,Ar]
  ·exact h.elim
 ·rename_i t x y ho;exact Mw ho hd hR h
 ·rename_i t x y ho;exact Pf ho hd hR h
 ·rename_i t ho;exact Ki ho hd hR h
 ·rename_i t x y z ho;exact Kj ho hd hR h
 ·rename_i c ho;exact EH ho hd hR h
 ·obtain⟨h1,h2⟩:=h;obtain⟨v,w',σ',hrun,hg,hv⟩:=Et o hR.S hR.T h1;exact mq hd hR hg hv hrun h2
def eB(R:Array Oper)(j:Nat):Option Nat:=(R[j]?).bind (·.dst)
def o9(P:Program)(R:Array Oper)(o:Oper)(s:St)(K:St->Prop):Prop:=
 match o.guard with
 |none=>fM P o s K
 |some (j,want)=>
  match(eB R j).map (look s.tm) with
  |some (.c (.d (.b x)))=>(x=want->fM P o s K)/\(x= !want->K (s.put o.dst (.gq [])))
  |some (.gq [])=>K (s.put o.dst (.gq []))
  |_=>False
def wO(P:Program)(R:Array Oper):List Oper->St->(St->Prop)->Prop
 |[],s,K=>K s
 |o::os,s,K=>o9 P R o s fun s'=>wO P R os s' K
theorem Then.mono{K K':St->Prop}{a':Act}{w':World}(hK:∀s,K s->K' s)(h:Then N S β σ w K a' w'):Then N S β σ w K' a' w':=by
 obtain⟨s',σ',β',h1,h2,h3,h4⟩:=h;exact⟨s',σ',β',h1,h2,h3,hK _ h4⟩
theorem wP{R:Array Oper}{j:Nat}{x:Bool}(hR:iq N s a w σ β)(h:(eB R j).map (look s.tm)=some (.c (.d (.b x)))):yielded R a.tmps j=some x:=by
 unfold yielded;unfold eB at h
 cases hd:(R[j]?).bind (·.dst) with
 |none=>rw[hd] at h;cases h
 |some d=>
  rw[hd] at h;simp only[cL,cX] at h;have ht:=hR.T d;rw[h] at ht;obtain⟨ht,_⟩:=ht;simp only[dp]
  have hlt:d<a.tmps.size:=by
   rcases ew d a.tmps.size with h|h
   ·exact h
   ·simp[Array.getD,Nat.not_lt.2 h,undef] at ht;cases ht
  have hg:a.tmps.getD d undef=a.tmps[d]:=by simp[Array.getD,hlt]
  rw[hg] at ht;rw[cb hlt];generalize a.tmps[d]=v at ht;cases ht;rfl
theorem zU{R:Array Oper}{j:Nat}(hR:iq N s a w σ β)(h:(eB R j).map (look s.tm)=some (.gq [])):yielded R a.tmps j=none:=by
 unfold yielded;unfold eB at h
 cases hd:(R[j]?).bind (·.dst) with
 |none=>rw[hd] at h;cases h
 |some d=>
  rw[hd] at h;simp only[cL,cX] at h;have ht:=hR.T d;rw[h] at ht;obtain⟨ar,hv,_⟩:=ht;simp only[dp];by_cases hlt:d<a.tmps.size
  ·have hg:a.tmps.getD d undef=a.tmps[d]:=by simp[Array.getD,hlt]
   rw[hg] at hv;rw[cb hlt,hv]
  ·rw[di (Nat.le_of_not_lt hlt)]
theorem H9{o:Oper}{K:St->Prop}(hd:∀d,o.dst=some d->d<N)(hR:iq N s a w σ β)(hK:K (s.put o.dst (.gq []))):Then N s.st β σ w K (a.put o.dst undef) w:=by
 have hr:iq N (St.put ⟨s.tm,s.st⟩ o.dst (.gq [])) (a.put o.dst undef) w σ β:=wB hd hR.size hR.defers hR.S hR.T qX;have he:(s.put o.dst (.gq [])).st=s.st:=iC o.dst s.tm s.st _;exact⟨_,σ,β,hr,by rw[show(St.put ⟨s.tm,s.st⟩ o.dst (.gq [])).st=s.st from he];exact Step.lu (Grow.refl hR.S.live),by rw[show(St.put ⟨s.tm,s.st⟩ o.dst (.gq [])).st=s.st from he];exact Keep.refl _ _,hK⟩
theorem Mx{R:Array Oper}{o:Oper}{K:St->Prop}{Q:Exit->Act->World->Prop}(hd:∀d,o.dst=some d->d<N)(hR:iq N s a w σ β)(h:o9 P R o s K):
 if Region.wanted o (yielded R a.tmps) then o.wp P a w (Then N s.st β σ w K) Q else Then N s.st β σ w K (a.put o.dst undef) w:=by
 unfold o9 at h;split at h
 ·rename_i hg;rw[if_pos (by simp[Region.wanted,hg])];exact CP (fun hd h=>y9 hd hR h) hd hR h
 ·rename_i j want hg;split at h
  ·rename_i x hx;have hy:=wP hR hx;by_cases e:x=want
   ·rw[if_pos (by simp[Region.wanted,hg,hy,e])];exact CP (fun hd h=>y9 hd hR h) hd hR (h.1 e)
   ·rw[if_neg (by simp[Region.wanted,hg,hy,e])];exact H9 hd hR (h.2 (by cases x<;>cases want<;>simp_all))
  ·rename_i hx;have hy:=zU hR hx;rw[if_neg (by simp[Region.wanted,hg,hy])];exact H9 hd hR h
  ·exact h.elim
theorem EI{R:Array Oper}{K:St->Prop}{S0:Store}{β0:Hs}{σ0:Nat->Nat}{w0:World}{Q:Exit->Act->World->Prop}(hQ:∀a w,Then N S0 β0 σ0 w0 K a w->Q .normal a w):
 ∀(n k:Nat),k+n=R.size->(∀o∈R.toList,∀d,o.dst=some d->d<N)->∀(s:St)(a:Act)(w:World)(σ:Nat->Nat)(β:Hs),iq N s a w σ β->Step S0 β0 σ0 w0 s.st β σ w->Keep S0 β0 s.st β->
  wO P R (R.toList.drop k) s K->wpOps P R Q (List.range' k n) a w
 |0,k,hk,_,s,a,w,σ,β,hR,hst,hkp,h=>by
  have:R.toList.drop k=[]:=by apply en;simp;omega
  rw[this] at h;exact hQ a w ⟨s,σ,β,hR,hst,hkp,h⟩
 |n+1,k,hk,hd,s,a,w,σ,β,hR,hst,hkp,h=>by
  have hlt:k<R.toList.length:=by simp;omega
  rw[bh hlt] at h;have hg:=Mx (Q:=Q) (fun d e=>hd _ (ac hlt) d e) hR h;rw[List.range'_succ]
  have hRk:R[k]? =some R.toList[k]:=by
   rw[cb (by omega)];simp
  simp only[wpOps,hRk]
  have next:∀a' w',Then N s.st β σ w (fun s'=>wO P R (R.toList.drop (k+1)) s' K) a' w'->wpOps P R Q (List.range' (k+1) n) a' w':=by
   rintro a' w' ⟨s',σ',β',hR',hst',tO,hK'⟩;exact EI hQ n (k+1) (by omega) hd s' a' w' σ' β' hR' (hst.trans hst') (hkp.trans tO) hK'
  split
  ·rename_i hw;rw[if_pos hw] at hg;exact .inl (Oper.wp_mono next hg)
  ·rename_i hw;rw[if_neg hw] at hg
   exact next _ _ hg
def fF{α:Type}(l:List α):List α:=l.drop 1
def AW(P:Program)(N:Nat)(c:Code)(Q:Exit->St->Prop)(s:St):Prop:=
 ∀(a:Act)(w:World)(σ:Nat->Nat)(β:Hs),iq N s a w σ β->
  c.wp P (fun e a' w'=>∃s' σ' β',iq N s' a' w' σ' β'/\Step s.st β σ w s'.st β' σ' w'/\Keep (fF s.st) (fF β) (fF s'.st) (fF β')/\Q e s') a w
theorem AW.mono{c:Code}{Q Q':Exit->St->Prop}(h:AW P N c Q s)(hq:∀e s,Q e s->Q' e s):AW P N c Q' s:=fun a w σ β hR=>
 wp_mono (h a w σ β hR) fun e a' w' ⟨s',σ',β',h1,h2,h3,h4⟩=>⟨s',σ',β',h1,h2,h3,hq _ _ h4⟩
def gZ(K:St->Prop)(Q:Exit->St->Prop):Exit->St->Prop
 | .normal,s=>K s
 |e,s=>Q e s
def su(id:Nat)(Q:Exit->St->Prop):Exit->St->Prop
 | .exit id',s=>if id'=id then Q .normal s else Q (.exit id') s
 |e,s=>Q e s
theorem R5{x y:Code}{Q:Exit->St->Prop}(h:AW P N x (gZ (AW P N y Q) Q) s):AW P N (.seq x y) Q s:=by
 intro a w σ β hR;refine wp_seq (wp_mono (h a w σ β hR) ?_);rintro e a' w' ⟨s',σ',β',h1,h2,h3,h4⟩
 cases e with
 |normal=>
  show y.wp P _ a' w';refine wp_mono (h4 a' w' σ' β' h1) ?_;rintro e a'' w'' ⟨s'',uN,β'',k1,k2,k3,k4⟩;exact⟨s'',uN,β'',k1,h2.trans k2,h3.trans k3,k4⟩
 |_=>exact⟨s',σ',β',h1,h2,h3,h4⟩
theorem Kq{c:Code}{e:Exit}{Q:Exit->St->Prop}(hc:∀{Q':Exit->Act->World->Prop}{a:Act}{w:World},Q' e a w->c.wp P Q' a w)(h:Q e s):AW P N c Q s:=
 fun a w σ β hR=>hc ⟨s,σ,β,hR,Step.lu (Grow.refl hR.S.live),Keep.refl _ _,h⟩
theorem YU{Q:Exit->St->Prop}(h:Q .normal s):AW P N .skip Q s:=Kq wp_skip h
theorem YV{id:Nat}{Q:Exit->St->Prop}(h:Q (.exit id) s):AW P N (.exit id) Q s:=Kq wp_exit h
theorem aaB{Q:Exit->St->Prop}(h:Q .ret s):AW P N .ret Q s:=Kq wp_ret h
theorem N7{c:Operand}{x y:Code}{b:Bool}{Q:Exit->St->Prop}(hc:ev s.tm c=.c (.d (.b b)))(ht:b=true->AW P N x Q s)(hf:b=false->AW P N y Q s):AW P N (.cond c x y) Q s:=by
 intro a w σ β hR;have hv:=gV hR.T c;rw[hc] at hv;obtain⟨hv,_⟩:=hv;generalize he:a.eval c=v at hv;cases hv;refine Go.wp_cond he ?_
 cases b with
 |true=>exact ht rfl a w σ β hR
 |false=>exact hf rfl a w σ β hR
theorem Kr{id:Nat}{c:Code}{Q:Exit->St->Prop}(h:AW P N c (su id Q) s):AW P N (.block id c) Q s:=by
 intro a w σ β hR;refine wp_block (wp_mono (h a w σ β hR) ?_);rintro e a' w' ⟨s',σ',β',h1,h2,h3,h4⟩
 cases e with
 |exit id'=>
  show if id'=id then _ else _
  simp only[su] at h4;split
  ·rename_i e;rw[if_pos e] at h4;exact⟨s',σ',β',h1,h2,h3,h4⟩
  ·rename_i e;rw[if_neg e] at h4;exact⟨s',σ',β',h1,h2,h3,h4⟩
 |_=>exact⟨s',σ',β',h1,h2,h3,h4⟩
theorem Keep.tail{S S':Store}{β β':Hs}(h:Keep S β S' β'):Keep (fF S) (fF β) (fF S') (fF β'):=h.drop 1
theorem R6{id:Nat}{R:Array Oper}{Q:Exit->St->Prop}(hd:R.toList.all (fun o=>match o.dst with|some d=>decide (d<N)|none=>true)=true)(h:wO P R R.toList s (Q .normal)):AW P N (.region id R false) Q s:=by
 intro a w σ β hR;refine wp_region ?_;rw[List.range_eq_range'];refine EI (S0:=s.st) (β0:=β) (σ0:=σ) (w0:=w) (K:=Q .normal) (fun a' w' ht=> ?_) R.size 0 (by omega) (fun o ho d e=> ?_) s a w σ β hR (Step.lu (Grow.refl hR.S.live)) (Keep.refl _ _) h
 ·obtain⟨s',σ',β',h1,h2,h3,h4⟩:=ht;exact⟨s',σ',β',h1,h2,h3.tail,h4⟩
 ·have:=ax.1 hd o ho;rw[e] at this;simpa using this
theorem Gt{ι:Type}{c:Code}{Q:Exit->St->Prop}(I:ι->St->Prop)(μ:ι->Nat)(i0:ι)(h0:I i0 s)
 (round:∀i s,I i s->AW P N c (gZ (fun s'=>∃j,μ j<μ i/\I j s') Q) s):AW P N (.loop c) Q s:=by
 intro a w σ β hR
 have key:∀(n:Nat)(i:ι)(s':St)(a':Act)(w':World)(σ':Nat->Nat)(β':Hs),μ i<n->I i s'->iq N s' a' w' σ' β'->Step s.st β σ w s'.st β' σ' w'->Keep (fF s.st) (fF β) (fF s'.st) (fF β')->
  Code.rounds P c (fun e a' w'=>∃s' σ' β',iq N s' a' w' σ' β'/\Step s.st β σ w s'.st β' σ' w'/\Keep (fF s.st) (fF β) (fF s'.st) (fF β')/\Q e s') n a' w':=by
  intro n
  induction n with
  |zero=>intro i s' a' w' σ' β' h;omega
  |succ n ih=>
   intro i s' a' w' σ' β' hn hI hR' hst hkp;refine wp_mono (round i s' hI a' w' σ' β' hR') ?_;rintro e a'' w'' ⟨s'',uN,β'',k1,k2,k3,k4⟩
   cases e with
   |normal=>
    obtain⟨j,hj,hIj⟩:=k4;exact ih j s'' a'' w'' uN β'' (by omega) hIj k1 (hst.trans k2) (hkp.trans k3)
   |_=>exact⟨s'',uN,β'',k1,hst.trans k2,hkp.trans k3,k4⟩
 exact wp_loop_rounds (μ i0+1) (key (μ i0+1) i0 s a w σ β (by omega) h0 hR (Step.lu (Grow.refl hR.S.live)) (Keep.refl _ _))
end
def jZ:List V->Nat->List (Nat×V)
 |[],_=>[]
 |v::vs,i=>(i,v)::jZ vs (i+1)
def C.ret:C->Option C
 | .bM (0,_) es=>some (.d (.sl es))
 |c=>c.down 1
def BL(y:Bool×List C):Option (Bool×List C):=(y.2.mapM C.ret).map fun cs=>(y.1,cs)
def V.ret:V->Option V
 | .c x=>(x.ret).map .c
 | .agg cs=>(cs.mapM C.ret).map .agg
 | .gq xs=>(xs.mapM BL).map .gq
 | .any=>some .any
def sw(P:Program)(s:St):ResultVar->R
 | .tmp t=>(True,look s.tm t)
 | .cell a t=>vR P s.st t (look s.tm a)
def EJ:V->Option (Bool×List C)
 | .c x=>some (false,[x])
 | .agg cs=>some (true,cs)
 |_=>none
def lJ(P:Program)(s:St):List ResultVar->Prop×Option (List (Bool×List C))
 |[]=>(True,some [])
 |x::xs=>((sw P s x).1/\(lJ P s xs).1,(EJ (sw P s x).2).bind fun y=>(lJ P s xs).2.map fun ys=>y::ys)
def kS(P:Program)(rs:List ResultVar)(s:St):R:=
 match rs with
 |[x]=>sw P s x
 |xs=>match(lJ P s xs).2 with
  |some ys=>((lJ P s xs).1,.gq ys)
  |none=>no
def Vf(P:Program)(rs:List ResultVar)(post:V->Store->Prop)(e:Exit)(s:St):Prop:=
 match e with
 | .normal| .ret=>(kS P rs s).1/\match(kS P rs s).2.ret with
   |some r=>post r (fF s.st)
   |none=>False
 |_=>False
section
variable {P:Program} {w w':World} {σ σ':Nat->Nat} {S:Store} {β β':Hs} {N:Nat} {s:St} {a:Act}
theorem Kt{cs:List C}{vs:List Value}(n:Nat)(h:dS w σ (S.drop n) (β.drop n) cs vs):dS w σ S β (cs.map (C.up n)) vs:=
 ⟨by simpa using h.1,fun j x hx=>by
   rw[aV] at hx
   cases hc:cs[j]? with
   |none=>rw[hc] at hx;cases hx
   |some y=>
    rw[hc] at hx;cases hx;obtain⟨v,hv,hr,ho⟩:=h.2 j y hc
    exact⟨v,hv,hr.up n,ho⟩⟩
theorem BM{x:V}{v:Value}(n:Nat)(h:cu w σ (S.drop n) (β.drop n) x v):cu w σ S β (x.up n) v:=by
 cases x with
 |c x=>exact⟨h.1.up n,h.2⟩
 |agg cs=>obtain⟨ar,ha,hc⟩:=h;exact⟨ar,ha,Kt n hc⟩
 |gq xs=>
  obtain⟨ar,ha,hl,h2⟩:=h;refine⟨ar,ha,by simpa using hl,fun j y hy=> ?_⟩;rw[aV] at hy
  cases hc:xs[j]? with
  |none=>rw[hc] at hy;cases hy
  |some z=>
   rw[hc] at hy;cases hy;obtain⟨u,hu,h3⟩:=h2 j z hc;refine⟨u,hu,?_⟩;obtain⟨b,cs⟩:=z
   cases b with
   |true=>obtain⟨a',e,hcs⟩:=h3;exact⟨a',e,Kt n hcs⟩
   |false=>obtain⟨x,e,hx,ho⟩:=h3;subst e;exact⟨_,rfl,hx.up n,ho⟩
 |any=>exact trivial
theorem Dr{c c':C}{v:Value}(h:c.ret=some c')(hc:fu w σ S β c v):fu w σ (S.drop 1) (β.drop 1) c' v:=by
 unfold C.ret at h;split at h
 ·cases h;exact hc.1
 ·exact J5 h hc
theorem Ia{xs ys:List C}{vs:List Value}(h:xs.mapM C.ret=some ys)(hc:dS w σ S β xs vs):dS w σ (S.drop 1) (β.drop 1) ys vs:=by
 induction xs generalizing ys vs with
 |nil=>simp at h;subst h;exact⟨hc.1,fun j d hd=>by simp at hd⟩
 |cons x xs ih=>
  rw[cV] at h
  cases hd:C.ret x with
  |none=>rw[hd] at h;simp at h
  |some y=>
   cases hm:xs.mapM C.ret with
   |none=>rw[hd,hm] at h;simp at h
   |some ys'=>
    rw[hd,hm] at h;simp at h;subst h
    cases vs with
    |nil=>have:=hc.1;simp at this
    |cons v vs=>
     obtain⟨l,r⟩:=ih hm (vs:=vs) ⟨by have:=hc.1;simpa using this,fun j y hy=>hc.2 (j+1) y hy⟩;refine⟨by simp[l],fun j e he=> ?_⟩
     cases j with
     |zero=>
      simp at he;subst he;obtain⟨u,hu,hr,ho⟩:=hc.2 0 x rfl;simp at hu;subst hu;exact⟨v,rfl,Dr hd hr,ho⟩
     |succ j=>exact r j e he
theorem Ku{α γ:Type}(f:α->Option γ):∀(xs:List α)(ys:List γ),xs.mapM f=some ys->ys.length=xs.length/\∀(j:Nat)(y:γ),ys[j]? =some y->∃x,xs[j]? =some x/\f x=some y
 |[],ys,h=>by simp at h;subst h;exact⟨rfl,fun j y hy=>by simp at hy⟩
 |x::xs,ys,h=>by
  rw[cV] at h
  cases hd:f x with
  |none=>rw[hd] at h;simp at h
  |some y=>
   cases hm:xs.mapM f with
   |none=>rw[hd,hm] at h;simp at h
   |some ys'=>
    rw[hd,hm] at h;simp at h;subst h;obtain⟨l,r⟩:=Ku f xs ys' hm;refine⟨by simp[l],fun j e he=> ?_⟩
    cases j with
    |zero=>simp at he;subst he;exact⟨x,rfl,hd⟩
    |succ j=>exact r j e he
theorem Kv{x y:V}{v:Value}(h:x.ret=some y)(hx:cu w σ S β x v):cu w σ (S.drop 1) (β.drop 1) y v:=by
 cases x with
 |c x=>
  simp only[V.ret] at h
  cases hc:x.ret with
  |none=>rw[hc] at h;cases h
  |some c=>rw[hc] at h;cases h;exact⟨Dr hc hx.1,hx.2⟩
 |agg cs=>
  simp only[V.ret] at h
  cases hc:cs.mapM C.ret with
  |none=>rw[hc] at h;cases h
  |some c=>rw[hc] at h;cases h;obtain⟨ar,ha,h2⟩:=hx;exact⟨ar,ha,Ia hc h2⟩
 |gq xs=>
  simp only[V.ret] at h
  cases hc:xs.mapM BL with
  |none=>rw[hc] at h;cases h
  |some ys=>
   rw[hc] at h;cases h;obtain⟨ar,ha,hl,h2⟩:=hx;obtain⟨l,r⟩:=Ku _ _ _ hc;refine⟨ar,ha,by rw[l];exact hl,fun j y hy=> ?_⟩;obtain⟨z,hz,hzy⟩:=r j y hy;obtain⟨u,hu,h3⟩:=h2 j z hz;refine⟨u,hu,?_⟩;obtain⟨b,cs⟩:=z;simp only[BL] at hzy
   cases hm:cs.mapM C.ret with
   |none=>rw[hm] at hzy;cases hzy
   |some cs'=>
    rw[hm] at hzy;cases hzy
    cases b with
    |true=>obtain⟨a',e,hcs⟩:=h3;exact⟨a',e,Ia hm hcs⟩
    |false=>
     obtain⟨x,e,hx,ho⟩:=h3;subst e;rw[cV] at hm
     cases hx':C.ret x with
     |none=>rw[hx'] at hm;simp at hm
     |some x'=>
      rw[hx'] at hm;simp at hm;exact⟨x',hm.symm,Dr hx' hx,ho⟩
 |any=>cases h;exact trivial
theorem N8{x:ResultVar}(hR:iq N s a w σ β)(h:(sw P s x).1):
 ∃v,(match x with| .tmp t=>pure (a.tmps.getD t undef)| .cell b t=>do loadVar t (<-asAddr (a.tmps.getD b undef)):Sem Value).run P w=.ok v w/\cu w σ s.st β (sw P s x).2 v:=by
 cases x with
 |tmp t=>exact⟨_,rfl,hR.T t⟩
 |cell b t=>
  obtain⟨v,hrun,hv⟩:=Hz (P:=P) (t:=t) hR.S (hR.T b) h;refine⟨v,?_,hv⟩;show(do loadVar t (<-asAddr (a.tmps.getD b undef)):Sem Value).run P w=.ok v w;generalize a.tmps.getD b undef=bv at hrun ⊢
  cases bv with
  |pointer o=>
   cases o with
   |none=>simp[Instr.loadAt,Instr.sureAddr] at hrun
   |some ad=>simpa [Instr.loadAt,Instr.sureAddr,asAddr] using hrun
  |_=>simp[Instr.loadAt,Instr.sureAddr] at hrun
theorem Vg{x:V}{y:Bool×List C}{v:Value}(h:EJ x=some y)(hx:cu w σ S β x v):Gg w σ S β y v:=by
 cases x with
 |c x=>cases h;exact⟨x,rfl,hx.1,hx.2⟩
 |agg cs=>cases h;exact hx
 |gq=>cases h
 |any=>cases h
theorem N9(hR:iq N s a w σ β):∀(xs:List ResultVar)(ys:List (Bool×List C)),(lJ P s xs).1->(lJ P s xs).2=some ys->
 ∃vs:List Value,(xs.mapM fun x=>(match x with| .tmp t=>pure (a.tmps.getD t undef)| .cell b t=>do loadVar t (<-asAddr (a.tmps.getD b undef)):Sem Value)).run P w=.ok vs w/\ys.length=vs.length/\
  ∀(j:Nat)(y:Bool×List C),ys[j]? =some y->∃u,vs[j]? =some u/\Gg w σ s.st β y u
 |[],ys,_,h=>by simp only[lJ] at h;cases h;exact⟨[],by simp,rfl,fun j y hy=>by simp at hy⟩
 |x::xs,ys,h1,h2=>by
  simp only[lJ] at h1 h2
  cases hc:EJ (sw P s x).2 with
  |none=>rw[hc] at h2;cases h2
  |some y=>
   cases hr:(lJ P s xs).2 with
   |none=>rw[hc,hr] at h2;cases h2
   |some ys'=>
    rw[hc,hr] at h2;cases h2;obtain⟨v,hv,hrep⟩:=N8 (P:=P) (x:=x) hR h1.1;obtain⟨vs,hvs,hl,hj⟩:=N9 hR xs ys' h1.2 hr;refine⟨v::vs,?_,by simp[hl],fun j z hz=> ?_⟩
    ·rw[cV];simp only[Sem.run_bind,Result.andThen_ok,Sem.run_pure];rw[hv];simp only[Result.andThen_ok];rw[hvs];rfl
    ·cases j with
     |zero=>simp at hz;subst hz;exact⟨v,rfl,Vg hc hrep⟩
     |succ j=>exact hj j z hz
theorem Aw{fn:Func}(hR:iq N s a w σ β)(h:(kS P fn.results.toList s).1):∃v,(results fn a.tmps).run P w=.ok v w/\cu w σ s.st β (kS P fn.results.toList s).2 v:=by
 have hres:fn.results=fn.results.toList.toArray:=by simp
 have hrun:∀vs:List Value,(fn.results.toList.mapM fun x=>(match x with| .tmp t=>pure (a.tmps.getD t undef)| .cell b t=>do loadVar t (<-asAddr (a.tmps.getD b undef)):Sem Value)).run P w=.ok vs w->
  (results fn a.tmps).run P w=.ok (if h:vs.toArray.size=1 then vs.toArray[0] else .tuple vs.toArray) w:=by
  intro vs hvs;unfold results;rw[hres,List.mapM_toArray];simp only[Sem.run_bind,Sem.run_map];have:(fun x=>(match x with| .tmp t=>pure (a.tmps.getD t undef)| .cell b t=>do loadVar t (<-asAddr (a.tmps.getD b undef)):Sem Value))=fun(x:ResultVar)=>(match x with| .tmp t=>pure (a.tmps.getD t undef)| .cell b t=>do loadVar t (<-asAddr (a.tmps.getD b undef)):Sem Value):=rfl
  erw [hvs]
  rfl
 unfold kS at h ⊢;split at h
 ·rename_i x hx;rw[hx] at hrun;obtain⟨v,hv,hrep⟩:=N8 (P:=P) (x:=x) hR h;refine⟨v,?_,hrep⟩
  have:=hrun [v] (by
   rw[cV];simp only[Sem.run_bind,List.mapM_nil,Result.andThen_ok,Sem.run_pure]
   rw[hv];rfl)
  simpa using this
 ·rename_i hne;split at h
  ·rename_i ys hys;obtain⟨vs,hvs,hl,hj⟩:=N9 (P:=P) hR _ ys h hys;have h1:=hrun vs hvs
   have hlen:¬(vs.toArray.size=1):=by
    intro e
    have hl2:ys.length=fn.results.toList.length:=by
     clear hj hvs h1 hrun hne e hl h;generalize fn.results.toList=l at hys
     induction l generalizing ys with
     |nil=>simp only[lJ] at hys;cases hys;rfl
     |cons x xs ih=>
      simp only[lJ] at hys
      cases hc:EJ (sw P s x).2 with
      |none=>rw[hc] at hys;cases hys
      |some y=>
       cases hr:(lJ P s xs).2 with
       |none=>rw[hc,hr] at hys;cases hys
       |some ys'=>rw[hc,hr] at hys;cases hys;simp[ih ys' hr]
    simp at e
    have:fn.results.toList.length=1:=by omega
    obtain⟨x,hx⟩:=List.length_eq_one_iff.1 this;exact hne x hx
   rw[dif_neg hlen] at h1;exact⟨_,h1,vs.toArray,rfl,by simpa using hl,fun j y hy=>by simpa using hj j y hy⟩
  ·exact h.elim
theorem dM.BN{own:List Obj}{Ω:Store}{bo:List Value}{bΩ:Hs}(h:dM w σ (own::Ω) (bo::bΩ)):dM w σ Ω bΩ:=by
 refine⟨fun k o ho=> ?_,fun k k' o o' h1 h2 b e1 e2 e3 e4 e5 e6=> ?_,⟨by have:=h.shape.1;simpa using this,fun l fr hl=>h.shape.2 (l+1) fr hl⟩,h.live,h.qp⟩
 ·obtain⟨l,j⟩:=k;obtain⟨hv,hh,hr⟩:=h.obj (l+1,j) o (by rw[bB];exact ho);rw[bB] at hh;exact⟨hv,hh,hr⟩
 ·obtain⟨l,j⟩:=k;obtain⟨l',j'⟩:=k';have:=h.apart (l+1,j) (l'+1,j') o o' h1 h2 b (by rw[bB];exact e1) (by rw[bB];exact e2) e3 (by rw[bB];exact e4) (by rw[bB];exact e5) e6;cases this;rfl
theorem dM.Yp(h:dM w σ S β):dM w σ ([]::S) ([]::β):=by
 refine⟨fun k o ho=> ?_,fun k k' o o' h1 h2 b e1 e2 e3 e4 e5 e6=> ?_,⟨by simp[h.shape.1],fun l fr hl=> ?_⟩,h.live,h.qp⟩
 ·obtain⟨l,j⟩:=k
  cases l with
  |zero=>rw[aJ] at ho;simp at ho
  |succ l=>
   rw[bB] at ho;obtain⟨hv,hh,hr⟩:=h.obj (l,j) o ho;exact⟨hv,by rw[bB];exact hh,hr⟩
 ·obtain⟨l,j⟩:=k;obtain⟨l',j'⟩:=k'
  cases l with
  |zero=>rw[aJ] at e1;simp at e1
  |succ l=>
   cases l' with
   |zero=>rw[aJ] at e4;simp at e4
   |succ l'=>
    rw[bB] at e1 e2 e4 e5;have:=h.apart (l,j) (l',j') o o' h1 h2 b e1 e2 e3 e4 e5 e6;cases this;rfl
 ·cases l with
  |zero=>simp at hl;subst hl;exact⟨[],rfl,rfl⟩
  |succ l=>exact h.shape.2 l fr hl
theorem wD{b:Nat}(h:Own ([]::S) ([]::β) b):Own S β b:=by
 obtain⟨⟨l,j⟩,o,hv,h1,h2,h3⟩:=h
 cases l with
 |zero=>rw[aJ] at h1;simp at h1
 |succ l=>rw[bB] at h1 h2;exact⟨(l,j),o,hv,h1,h2,h3⟩
theorem qY{own:List Obj}{Ω:Store}{bo:List Value}{bΩ:Hs}{b:Nat}(h:Own Ω bΩ b):Own (own::Ω) (bo::bΩ) b:=by
 obtain⟨⟨l,j⟩,o,hv,h1,h2,h3⟩:=h;exact⟨(l+1,j),o,hv,by rw[bB];exact h1,by rw[bB];exact h2,h3⟩
theorem vU:∀(args:List V)(i t:Nat),look (jZ args i) t=if i<=t then(args[t-i]?).getD .any else .any
 |[],i,t=>by simp[jZ,look]
 |v::args,i,t=>by
  rw[jZ,look,vU args (i+1) t];by_cases h1:i=t
  ·subst h1;simp
  ·rw[if_neg h1];by_cases h2:i+1<=t
   ·rw[if_pos h2,if_pos (by omega)];rw[show t-i=(t-(i+1))+1 from by omega];rfl
   ·rw[if_neg h2,if_neg (by omega)]
theorem uz{f:FuncId}{fn:Func}{c:Code}{args:List V}{post:V->Store->Prop}(hf:P.funcs[f]? =some fn)(hb:fn.body=some c)(hn:(fn.name== "runtime.NumGoroutine")=false)
 (hl:args.length<=fn.ntmps)(h:AW P fn.ntmps c (Vf P fn.results.toList post) ⟨jZ (args.map (V.up 1)) 0,[]::S⟩):bK P f args S post:=by
 refine⟨⟨fn,hf,hn,by simp[hb]⟩,fun w σ β vs hS hargs=> ?_⟩;refine calls_of_wp hf hb ?_;have hlen:vs.length=args.length:=hargs.1.symm
 have Kw:iq fn.ntmps ⟨jZ (args.map (V.up 1)) 0,[]::S⟩ {tmps:=vs.toArray++Array.replicate (fn.ntmps-vs.toArray.size) undef,defers:=[]} w σ ([]::β):=by
  refine⟨by simp;omega,rfl,hS.Yp,fun t=> ?_⟩;show cu w σ ([]::S) ([]::β) (look (jZ (args.map (V.up 1)) 0) t) _;rw[vU,if_pos (ao _),Nat.sub_zero,aV]
  cases ha:args[t]? with
  |none=>exact trivial
  |some x=>
   obtain⟨v,hv,hr⟩:=hargs.2 t x ha;have ht:=(ai.1 hv).1
   have:(vs.toArray++Array.replicate (fn.ntmps-vs.toArray.size) undef).getD t undef=v:=by
    rw[cS,cw (by simpa using ht)];simp[hv]
   rw[this];exact BM (S:=[]::S) (β:=[]::β) 1 hr
 refine wp_mono (h _ w σ ([]::β) Kw) ?_;rintro e a' w' ⟨s',σ',β',hR,hst,hkp,hq⟩
 have main:(kS P fn.results.toList s').1/\(match(kS P fn.results.toList s').2.ret with|some r=>post r (fF s'.st)|none=>False)->
  a'.defers=[]/\∃v,(results fn a'.tmps).run P w'=.ok v w'/\∃v_1 r S' σ' β',Ending.returned v=Ending.returned v_1/\dM w' σ' S' β'/\Keep S β S' β'/\Step S β σ w S' β' σ' w'/\cu w' σ' S' β' r v_1/\post r S':=by
  rintro⟨q1,q2⟩;obtain⟨v,hv,hrep⟩:=Aw (fn:=fn) hR q1;split at q2
  ·rename_i r hr;obtain⟨tm,st⟩:=s';have acn:=Kv hr hrep;refine⟨hR.defers,v,hv,v,r,fF st,σ',fF β',rfl,?_,hkp,?_,acn,q2⟩
   ·cases st with
    |nil=>
     cases β' with
     |nil=>exact hR.S
     |cons=>have:=hR.S.shape.1;simp at this
    |cons own Ω=>
     cases β' with
     |nil=>have:=hR.S.shape.1;simp at this
     |cons bo bΩ=>exact hR.S.BN
   ·refine⟨hst.size,hst.os,hst.output,fun b hb ho=>hst.far b hb (fun x=>ho (wD x)),hst.near,fun b hb=> ?_⟩
    cases st with
    |nil=>obtain⟨k,o,hv,h1,_⟩:=hb;simp[fF,kK] at h1
    |cons own Ω=>
     cases β' with
     |nil=>obtain⟨k,o,hv,h1,h2,_⟩:=hb;simp[fF,kK] at h2
     |cons bo bΩ=>exact(hst.own b (qY hb)).imp wD id
  ·exact q2.elim
 cases e with
 |normal=>exact main hq
 |ret=>exact main hq
 |_=>exact hq.elim
end
def mD:Op->Bool
 | .alloc _=>true
 | .box _ _=>true
 | .store _ _ _=>true
 | .makeSlice _ _ _=>true
 | .makeMap _ none=>true
 | .mapUpdate _ _ _ _=>true
 | .call {callee:=.builtin .append,args:=_,argTypes:=_}=>true
 |_=>false
def tQ:Op->Bool
 | .store _ _ _=>true
 | .mapUpdate _ _ _ _=>true
 |_=>false
def gJ:Op->Bool
 | .call {callee:=.value _,args:=_,argTypes:=_}=>true
 |_=>false
def isApp:Op->Bool
 | .call {callee:=.builtin .append,args:=_,argTypes:=_}=>true
 |_=>false
theorem YW{op:Op}(h:isApp op=true):mD op=true:=by
 unfold isApp at h;split at h
 ·rfl
 ·cases h
abbrev Md:=Op->Nat
def dV(E:Md)(op:Op):Bool:=mD op||(decide (1<=E op)&&gJ op)
def iZ(E:Md)(op:Op):Bool:=tQ op||(decide (2<=E op)&&gJ op)||(Nat.ble 3 (E op)&&isApp op)
theorem Vh{E:Md}{op:Op}(h:mD op=true):dV E op=true:=by simp[dV,h]
theorem R7{E:Md}{op:Op}(h:iZ E op=true):dV E op=true:=by
 unfold iZ dV at *
 rw[da,da] at h;rw[da];rcases h with(hs|h)|h
 ·left
  cases op<;>first|rfl|simp[tQ] at hs
 ·right;rw[aq,decide_eq_true_eq] at h ⊢;exact⟨by omega,h.2⟩
 ·rw[aq] at h;exact .inl (YW h.2)
def DS(S S':Store):Prop:=∀k o,aN S k=some o->aN S' k=some o\/((∃z es,lT o z es)/\∃o' z es,aN S' k=some o'/\lT o' z es)
def ze(P:Program)(tm:List (Nat×V))(c:Call)(r:V):Prop:=
 match c.callee with
 | .value x=>match ev tm x with
   | .c (.fn f caps)=>aT P f (c.args.toList.map (ev tm)++caps.map fun y=>.c (.ptr y.1 y.2)) r
   |_=>False
 |_=>False
def Ay(P:Program)(m:Nat)(t u:TypeId)(x y:V)(s:St)(dst:Option Nat)(K:St->Prop):Prop:=
 match x with
 | .c (.eP k)=>Nat.ble 3 m=true/\kN P t u k y s dst K
 |x=>lC P t u x y s dst K
def mY(P:Program)(E:Md)(o:Oper)(s:St)(K:St->Prop):Prop:=
 match o.op with
 | .call {callee:=.builtin .append,args:=nX,argTypes:=ts}=>match nX.toList,ts.toList with
   |[x,y],[t,u]=>Ay P (E (.call {callee:=.builtin .append,args:=nX,argTypes:=ts})) t u (ev s.tm x) (ev s.tm y) s o.dst K
   |_,_=>False
 |_=>bO P o s K
theorem tT{P:Program}{E:Md}{o:Oper}{s:St}{K:St->Prop}(h:isApp o.op=false):mY P E o s K=bO P o s K:=by
 unfold mY;split
 ·rename_i e;rw[e] at h;cases h
 ·rfl
theorem qD{P:Program}{E:Md}{o:Oper}{s:St}{K:St->Prop}(h:mY P E o s K):
 bO P o s K\/∃x y t u k,o.op=.call {callee:=.builtin .append,args:= #[x,y],argTypes:= #[t,u]}/\ev s.tm x=.c (.eP k)/\Nat.ble 3 (E o.op)=true/\kN P t u k (ev s.tm y) s o.dst K:=by
 cases ha:isApp o.op with
 |false=>left;rwa [tT ha] at h
 |true=>
  obtain⟨dst,op,ty,pos,after,guard⟩:=o;unfold isApp at ha;split at ha
  ·rename_i nX ts e;simp only at e;subst e;simp only[mY] at h;split at h
   ·rename_i x y t u hx ht
    obtain rfl:nX= #[x,y]:=by rw[<-bt (xs:=nX),hx]
    obtain rfl:ts= #[t,u]:=by rw[<-bt (xs:=ts),ht]
    unfold Ay at h;split at h
    ·rename_i k hk;exact .inr ⟨x,y,t,u,k,rfl,hk,h.1,h.2⟩
    ·left;simp only[bO,jy];exact h
   ·exact h.elim
  ·cases ha
theorem Ib{P:Program}{E:Md}{o:Oper}{s:St}{K:St->Prop}{x y:Operand}{t u:TypeId}{k:Key}(h1:o.op=.call {callee:=.builtin .append,args:= #[x,y],argTypes:= #[t,u]})(h2:ev s.tm x=.c (.eP k))
 (h3:Nat.ble 3 (E o.op)=true)(h4:kN P t u k (ev s.tm y) s o.dst K):mY P E o s K:=by
 obtain⟨dst,op,ty,pos,after,guard⟩:=o;simp only at h1;subst h1;simp only[mY,Ay,h2];exact⟨h3,h4⟩
theorem CQ{P:Program}{E:Md}{o:Oper}{s:St}{K:St->Prop}(h:bO P o s K)(hx:∀x y t u k,o.op=.call {callee:=.builtin .append,args:= #[x,y],argTypes:= #[t,u]}->ev s.tm x≠ .c (.eP k)):mY P E o s K:=by
 cases ha:isApp o.op with
 |false=>rwa [tT ha]
 |true=>
  obtain⟨dst,op,ty,pos,after,guard⟩:=o;unfold isApp at ha;split at ha
  ·rename_i nX ts e;simp only at e;subst e;simp only[bO,jy] at h;simp only[mY];split at h
   ·rename_i x y t u hx' ht
    obtain rfl:nX= #[x,y]:=by rw[<-bt (xs:=nX),hx']
    obtain rfl:ts= #[t,u]:=by rw[<-bt (xs:=ts),ht]
    simp only
    unfold Ay;split
    ·rename_i k hk;exact absurd hk (hx x y t u k rfl)
    ·exact h
   ·exact h.elim
  ·cases ha
theorem Ic{P:Program}{o:Oper}{s:St}{K:St->Prop}(h:bO P o s K):∀x y t u k,o.op=.call {callee:=.builtin .append,args:= #[x,y],argTypes:= #[t,u]}->ev s.tm x≠ .c (.eP k):=by
 intro x y t u k e hk;obtain⟨dst,op,ty,pos,after,guard⟩:=o;simp only at e;subst e;simp only[bO,jy,lC,hk] at h;split at h
 ·exact h.2.2.2
 ·exact h
def dX(P:Program)(E:Md)(o:Oper)(s:St)(K:St->Prop):Prop:=
 if mD o.op then mY P E o s K else
 match o.op with
 | .call {callee:=.value x,args,argTypes}=>match E (.call {callee:=.value x,args,argTypes}) with
   |0=>∃r,ze P s.tm {callee:=.value x,args,argTypes} r/\K (s.put o.dst r)
   |1=>∃S' v,DS s.st S'/\bO P o s (fun t=>t=St.put ⟨s.tm,S'⟩ o.dst v)/\K (St.put ⟨s.tm,S'⟩ o.dst v)
   |_=>∃S' v,bO P o s (fun t=>t=St.put ⟨s.tm,S'⟩ o.dst v)/\K (St.put ⟨s.tm,S'⟩ o.dst v)
 |op=>(nval P s.st s.tm op).1/\K (s.put o.dst (nval P s.st s.tm op).2)
def lD(P:Program)(E:Md)(R:Array Oper)(o:Oper)(s:St)(K:St->Prop):Prop:=
 match o.guard with
 |none=>dX P E o s K
 |some (j,want)=>
  match(eB R j).map (look s.tm) with
  |some (.c (.d (.b x)))=>(x=want->dX P E o s K)/\(x= !want->K (s.put o.dst (.gq [])))
  |some (.gq [])=>K (s.put o.dst (.gq []))
  |_=>False
def oM(P:Program)(E:Md)(R:Array Oper):List Oper->St->(St->Prop)->Prop
 |[],s,K=>K s
 |o::os,s,K=>lD P E R o s fun s'=>oM P E R os s' K
def NV(P:Program)(S:Store)(tm:List (Nat×V))(op:Op)(v:V):Prop:=
 (∃c,op=.call c/\ze P tm c v)\/((nval P S tm op).1/\v=(nval P S tm op).2)
def gd(R:Array Oper)(o:Oper)(tm:List (Nat×V)):Option Bool:=
 match o.guard with
 |none=>some true
 |some (j,want)=>
  match(eB R j).map (look tm) with
  |some (.c (.d (.b x)))=>some (x==want)
  |some (.gq [])=>some false
  |_=>none
def jA(P:Program)(E:Md)(R:Array Oper)(o:Oper)(s:St)(v:V)(s':St):Prop:=
 (gd R o s.tm=some false/\v=.gq []/\s'=s.put o.dst v)\/
 (gd R o s.tm=some true/\dV E o.op=false/\NV P s.st s.tm o.op v/\s'=s.put o.dst v)\/
 (gd R o s.tm=some true/\dV E o.op=true/\mY P E o s (fun t=>t=s')/\s'=St.put ⟨s.tm,s'.st⟩ o.dst v/\(mD o.op=false->iZ E o.op=false->DS s.st s'.st))
section
variable {P:Program} {w w':World} {σ σ':Nat->Nat} {S S':Store} {β β':Hs} {N:Nat} {s:St} {a:Act}
theorem mE{dst:Option Nat}{o:Obj}{mk:Key->V}{K:St->Prop}(h:newObj s dst o mk K):∃S' v,newObj s dst o mk (fun t=>t=St.put ⟨s.tm,S'⟩ dst v)/\K (St.put ⟨s.tm,S'⟩ dst v):=by
 unfold newObj at h ⊢;split at h
 ·rename_i own Ω hst;exact⟨_,_,rfl,h⟩
 ·exact h.elim
theorem YX{b:Bool}{es x:List (List D)}{z:Nat}{dst:Option Nat}{K:St->Prop}(h:vB b es s dst z x K):∃S' v,vB b es s dst z x (fun t=>t=St.put ⟨s.tm,S'⟩ dst v)/\K (St.put ⟨s.tm,S'⟩ dst v):=by
 cases b with
 |false=>exact mE (o:=.tok z x) (mk:=fun k=>.c (.bM k x)) h
 |true=>
  obtain⟨S',v,h1,h2⟩:=mE (o:=.cZ z x) (mk:=fun k=>.c (.eP k)) h.2;exact⟨S',v,⟨h.1,h1⟩,h2⟩
theorem YZ{l:Option Nat}{es x:List (List D)}{z:Nat}{dst:Option Nat}{K:St->Prop}(h:wN l es s dst z x K):∃S' v,wN l es s dst z x (fun t=>t=St.put ⟨s.tm,S'⟩ dst v)/\K (St.put ⟨s.tm,S'⟩ dst v):=by
 cases l with
 |none=>exact YX h
 |some n=>
  cases es with
  |nil=>exact⟨s.st,_,rfl,h⟩
  |cons y es=>exact mE (o:=.tok z x) (mk:=fun k=>.c (.bM k x)) h
theorem Y0{b:Bool}{n:Nat}{x:List (List D)}{z:Nat}{dst:Option Nat}{K:St->Prop}(h:yg b n s dst z x K):∃S' v,yg b n s dst z x (fun t=>t=St.put ⟨s.tm,S'⟩ dst v)/\K (St.put ⟨s.tm,S'⟩ dst v):=by
 cases b with
 |false=>exact mE (o:=.gX n z x) (mk:=fun k=>.c (.bM k x)) h
 |true=>exact⟨s.st,_,rfl,h⟩
theorem Vi{o:Oper}{K:St->Prop}(hD:mD o.op=true)(h:bO P o s K):∃S' v,bO P o s (fun t=>t=St.put ⟨s.tm,S'⟩ o.dst v)/\K (St.put ⟨s.tm,S'⟩ o.dst v):=by
 obtain⟨dst,op,ty,pos,after,guard⟩:=o
 cases op with
 |alloc t=>
  simp only[bO,o7] at h ⊢;split at h
  ·exact mE h
  ·exact h.elim
 |box t x=>
  simp only[bO,wM] at h ⊢;split at h
  ·exact mE h
  ·exact h.elim
 |makeSlice t l c=>
  simp only[bO,rY] at h ⊢;split at h
  ·split at h
   ·obtain⟨h1,h2,h3,h4,h5,h6⟩:=h;obtain⟨S',v,k1,k2⟩:=mE h6;exact⟨S',v,⟨h1,h2,h3,h4,h5,k1⟩,k2⟩
   ·exact h.elim
  ·exact h.elim
 |store t x y=>
  simp only[bO,o8] at h ⊢;split at h
  ·split at h
   ·obtain⟨h1,h2,h3,h4⟩:=h;exact⟨_,_,⟨h1,h2,h3,rfl⟩,h4⟩
   ·exact h.elim
  ·split at h
   ·obtain⟨h1,h2,h3,h4,h5⟩:=h;exact⟨_,_,⟨h1,h2,h3,h4,rfl⟩,h5⟩
   ·exact h.elim
  ·split at h
   ·split at h
    ·split at h
     ·obtain⟨h1,h2,h3,h4,h5,h6⟩:=h;exact⟨_,_,⟨h1,h2,h3,h4,h5,rfl⟩,h6⟩
     ·exact h.elim
    ·exact h.elim
   ·exact h.elim
  ·exact h.elim
 |makeMap t r=>
  cases r with
  |none=>
   simp only[bO,oz] at h ⊢;exact mE h
  |some r=>simp[mD] at hD
 |mapUpdate t x y z=>
  simp only[bO,oC] at h ⊢;split at h
  ·split at h
   ·exact⟨_,_,rfl,h⟩
   ·exact h.elim
  ·exact h.elim
 |call c=>
  obtain⟨uS,args,sj⟩:=c
  cases uS with
  |builtin b=>
   cases b with
   |append=>
    simp only[bO,jy] at h ⊢;split at h
    ·simp only[lC] at h ⊢;split at h
     ·obtain⟨h1,h2,h3,h4⟩:=h;split at h4
      ·split at h4
       ·obtain⟨k1,k2,k3,k4⟩:=h4;exact⟨_,_,⟨h1,h2,h3,k1,k2,k3,rfl⟩,k4⟩
       ·obtain⟨k1,k2,k3,k4⟩:=h4;exact⟨_,_,⟨h1,h2,h3,k1,k2,k3,rfl⟩,k4⟩
       ·exact h4.elim
      ·obtain⟨k1,k2,k3⟩:=h4;obtain⟨S',v,l1,l2⟩:=YZ k3;exact⟨S',v,⟨h1,h2,h3,k1,k2,l1⟩,l2⟩
      ·obtain⟨k1,k2,k3⟩:=h4;obtain⟨S',v,l1,l2⟩:=Y0 k3;exact⟨S',v,⟨h1,h2,h3,k1,k2,l1⟩,l2⟩
      ·obtain⟨j0,off,j,es,k1,k2,k3⟩:=h4;exact⟨_,_,⟨h1,h2,h3,Dq j0 off j es k1 k2 rfl⟩,k3⟩
      ·exact h4.elim
     ·exact h.elim
    ·exact h.elim
   |_=>simp[mD] at hD
  |_=>simp[mD] at hD
 |_=>simp[mD] at hD
theorem R8{tm tm':List (Nat×V)}{dst:Option Nat}{o:Obj}{mk:Key->V}{v:V}(h:newObj ⟨tm,S⟩ dst o mk (fun t=>t=St.put ⟨tm,S'⟩ dst v))(hd:dst≠none):
 newObj ⟨tm',S⟩ dst o mk (fun t=>t=St.put ⟨tm',S'⟩ dst v):=by
 unfold newObj at h ⊢
 cases S with
 |nil=>exact h
 |cons own Ω=>
  cases dst with
  |none=>exact absurd rfl hd
  |some d=>
   simp only[St.put,St.mk.injEq,eI,Prod.mk.injEq,and_true,true_and] at h ⊢;exact h
theorem Pk{tm tm':List (Nat×V)}{o:Obj}{mk:Key->V}{v:V}(h:newObj ⟨tm,S⟩ none o mk (fun t=>t=St.put ⟨tm,S'⟩ none v)):
 newObj ⟨tm',S⟩ none o mk (fun t=>t=St.put ⟨tm',S'⟩ none v):=by
 unfold newObj at h ⊢
 cases S with
 |nil=>exact h
 |cons own Ω=>
  simp only[St.put,St.mk.injEq,true_and] at h ⊢;exact h
theorem mF{tm tm':List (Nat×V)}{dst:Option Nat}{o:Obj}{mk:Key->V}{v:V}(h:newObj ⟨tm,S⟩ dst o mk (fun t=>t=St.put ⟨tm,S'⟩ dst v)):
 newObj ⟨tm',S⟩ dst o mk (fun t=>t=St.put ⟨tm',S'⟩ dst v):=by
 cases dst with
 |none=>exact Pk h
 |some d=>exact R8 h (by simp)
theorem nY{tm tm':List (Nat×V)}{dst:Option Nat}{S1 S2:Store}{v v':V}(h:St.put ⟨tm,S1⟩ dst v=St.put ⟨tm,S2⟩ dst v'):St.put ⟨tm',S1⟩ dst v=St.put ⟨tm',S2⟩ dst v':=by
 cases dst with
 |none=>simp only[St.put,St.mk.injEq,true_and] at h ⊢;exact h
 |some d=>simp only[St.put,St.mk.injEq,eI,Prod.mk.injEq,and_true,true_and] at h ⊢;exact h
theorem Vj{b:Bool}{es x:List (List D)}{z:Nat}{tm tm':List (Nat×V)}{dst:Option Nat}{v:V}(h:vB b es ⟨tm,S⟩ dst z x (fun t=>t=St.put ⟨tm,S'⟩ dst v)):
 vB b es ⟨tm',S⟩ dst z x (fun t=>t=St.put ⟨tm',S'⟩ dst v):=by
 cases b with
 |false=>exact mF (o:=.tok z x) (mk:=fun k=>.c (.bM k x)) h
 |true=>exact⟨h.1,mF (o:=.cZ z x) (mk:=fun k=>.c (.eP k)) h.2⟩
theorem Vk{l:Option Nat}{es x:List (List D)}{z:Nat}{tm tm':List (Nat×V)}{dst:Option Nat}{v:V}(h:wN l es ⟨tm,S⟩ dst z x (fun t=>t=St.put ⟨tm,S'⟩ dst v)):
 wN l es ⟨tm',S⟩ dst z x (fun t=>t=St.put ⟨tm',S'⟩ dst v):=by
 cases l with
 |none=>exact Vj h
 |some n=>
  cases es with
  |nil=>exact nY h
  |cons y es=>exact mF (o:=.tok z x) (mk:=fun k=>.c (.bM k x)) h
theorem Vl{b:Bool}{n:Nat}{x:List (List D)}{z:Nat}{tm tm':List (Nat×V)}{dst:Option Nat}{v:V}(h:yg b n ⟨tm,S⟩ dst z x (fun t=>t=St.put ⟨tm,S'⟩ dst v)):
 yg b n ⟨tm',S⟩ dst z x (fun t=>t=St.put ⟨tm',S'⟩ dst v):=by
 cases b with
 |false=>exact mF (o:=.gX n z x) (mk:=fun k=>.c (.bM k x)) h
 |true=>exact nY h
theorem Vm{o:Oper}{tm tm':List (Nat×V)}{v:V}(hD:mD o.op=true)(he:∀x∈o.op.operands,ev tm x=ev tm' x)(h:bO P o ⟨tm,S⟩ (fun t=>t=St.put ⟨tm,S'⟩ o.dst v)):
 bO P o ⟨tm',S⟩ (fun t=>t=St.put ⟨tm',S'⟩ o.dst v):=by
 obtain⟨dst,op,ty,pos,after,guard⟩:=o
 cases op with
 |alloc t=>
  simp only[bO,o7] at h ⊢;split at h
  ·exact mF h
  ·exact h.elim
 |box t x=>
  have e1:=he x (by simp[Op.operands]);simp only[bO,wM,e1] at h ⊢;split at h
  ·exact mF h
  ·exact h.elim
 |makeSlice t l c=>
  have e1:=he l (by simp[Op.operands]);have e2:=he c (by simp[Op.operands]);simp only[bO,rY,e1,e2] at h ⊢;split at h
  ·split at h
   ·obtain⟨h1,h2,h3,h4,h5,h6⟩:=h;exact⟨h1,h2,h3,h4,h5,mF h6⟩
   ·exact h.elim
  ·exact h.elim
 |store t x y=>
  have e1:=he x (by simp[Op.operands]);have e2:=he y (by simp[Op.operands]);simp only[bO,o8,e1,e2] at h ⊢;split at h
  ·split at h
   ·obtain⟨h1,h2,h3,h4⟩:=h;exact⟨h1,h2,h3,nY h4⟩
   ·exact h.elim
  ·split at h
   ·obtain⟨h1,h2,h3,h4,h5⟩:=h;exact⟨h1,h2,h3,h4,nY h5⟩
   ·exact h.elim
  ·split at h
   ·split at h
    ·split at h
     ·obtain⟨h1,h2,h3,h4,h5,h6⟩:=h;exact⟨h1,h2,h3,h4,h5,nY h6⟩
     ·exact h.elim
    ·exact h.elim
   ·exact h.elim
  ·exact h.elim
 |makeMap t r=>
  cases r with
  |none=>
   simp only[bO,oz] at h ⊢;exact mF h
  |some r=>simp[mD] at hD
 |mapUpdate t x y z=>
  have e1:=he x (by simp[Op.operands]);have e2:=he y (by simp[Op.operands]);have e3:=he z (by simp[Op.operands]);simp only[bO,oC,e1,e2,e3] at h ⊢;split at h
  ·split at h
   ·exact nY h
   ·exact h.elim
  ·exact h.elim
 |call c=>
  obtain⟨uS,args,sj⟩:=c
  cases uS with
  |builtin b=>
   cases b with
   |append=>
    simp only[bO,jy] at h ⊢;split at h
    ·rename_i x y t u hxy htu
     have hargs:args= #[x,y]:=by rw[<-bt (xs:=args),hxy]
     have e1:=he x (by simp[Op.operands,Call.operands,hargs]);have e2:=he y (by simp[Op.operands,Call.operands,hargs]);simp only[lC,e1,e2] at h ⊢;split at h
     ·obtain⟨h1,h2,h3,h4⟩:=h;refine⟨h1,h2,h3,?_⟩;split at h4
      ·split at h4
       ·obtain⟨k1,k2,k3,k4⟩:=h4;exact⟨k1,k2,k3,nY k4⟩
       ·obtain⟨k1,k2,k3,k4⟩:=h4;exact⟨k1,k2,k3,nY k4⟩
       ·exact h4.elim
      ·obtain⟨k1,k2,k3⟩:=h4;exact⟨k1,k2,Vk k3⟩
      ·obtain⟨k1,k2,k3⟩:=h4;exact⟨k1,k2,Vl k3⟩
      ·obtain⟨j0,off,j,es,k1,k2,k3⟩:=h4;exact Dq j0 off j es k1 k2 (nY k3)
      ·exact h4.elim
     ·exact h.elim
    ·exact h.elim
   |_=>simp[mD] at hD
  |_=>simp[mD] at hD
 |_=>simp[mD] at hD
theorem R9{t u:TypeId}{k:Key}{y:V}{dst:Option Nat}{K:St->Prop}(h:kN P t u k y s dst K):∃S' v,kN P t u k y s dst (fun t=>t=St.put ⟨s.tm,S'⟩ dst v)/\K (St.put ⟨s.tm,S'⟩ dst v):=by
 unfold kN at h ⊢;split at h
 ·obtain⟨h1,h2,h3,h4,h5,h6⟩:=h;obtain⟨S',v,l1,l2⟩:=mE h6;exact⟨S',v,⟨h1,h2,h3,h4,h5,l1⟩,l2⟩
 ·exact h.elim
theorem Vn{E:Md}{o:Oper}{K:St->Prop}(hD:mD o.op=true)(h:mY P E o s K):∃S' v,mY P E o s (fun t=>t=St.put ⟨s.tm,S'⟩ o.dst v)/\K (St.put ⟨s.tm,S'⟩ o.dst v):=by
 rcases qD h with h|⟨x,y,t,u,k,h1,h2,h3,h4⟩
 ·obtain⟨S',v,l1,l2⟩:=Vi hD h;exact⟨S',v,CQ l1 (Ic h),l2⟩
 ·obtain⟨S',v,l1,l2⟩:=R9 h4;exact⟨S',v,Ib h1 h2 h3 l1,l2⟩
theorem Vo{f:FuncId}{args:List V}{tm tm':List (Nat×V)}{dst:Option Nat}{v:V}(h:uy P f args ⟨tm,S⟩ dst (fun t=>t=St.put ⟨tm,S'⟩ dst v)):uy P f args ⟨tm',S⟩ dst (fun t=>t=St.put ⟨tm',S'⟩ dst v):=by
 rcases h with⟨post,h1,h2⟩|⟨r,h1,h2⟩
 ·exact .inl ⟨post,h1,fun r JN hp=>nY (h2 r JN hp)⟩
 ·exact .inr ⟨r,h1,nY h2⟩
theorem Vp{E:Md}{o:Oper}{tm tm':List (Nat×V)}{v:V}(hD:dV E o.op=true)(he:∀x∈o.op.operands,ev tm x=ev tm' x)(h:bO P o ⟨tm,S⟩ (fun t=>t=St.put ⟨tm,S'⟩ o.dst v)):
 bO P o ⟨tm',S⟩ (fun t=>t=St.put ⟨tm',S'⟩ o.dst v):=by
 by_cases hd:mD o.op=true
 ·exact Vm hd he h
 ·have hc:gJ o.op=true:=by
   unfold dV at hD;rw[da,aq] at hD;rcases hD with h|h
   ·exact absurd h hd
   ·exact h.2
  obtain⟨dst,op,ty,pos,after,guard⟩:=o
  cases op with
  |call c=>
   obtain⟨uS,args,sj⟩:=c
   cases uS with
   |value x=>
    have h1:args.toList.map (ev tm)=args.toList.map (ev tm'):=cG fun y hy=>he y (by simp[Op.operands,Call.operands];exact .inr (by simpa using hy));have h2:ev tm x=ev tm' x:=he x (by simp[Op.operands,Call.operands]);simp only[bO,jy,h1,h2] at h ⊢;split at h
    ·exact Vo h
    ·exact h.elim
   |_=>simp[gJ] at hc
  |_=>simp[gJ] at hc
theorem Sb{t u:TypeId}{k:Key}{y:V}{tm tm':List (Nat×V)}{dst:Option Nat}{v:V}(h:kN P t u k y ⟨tm,S⟩ dst (fun t=>t=St.put ⟨tm,S'⟩ dst v)):kN P t u k y ⟨tm',S⟩ dst (fun t=>t=St.put ⟨tm',S'⟩ dst v):=by
 unfold kN at h ⊢;simp only at h ⊢;split at h
 ·obtain⟨h1,h2,h3,h4,h5,h6⟩:=h;refine⟨h1,h2,h3,h4,h5,?_⟩;unfold newObj at h6 ⊢;simp only at h6 ⊢;split at h6
  ·exact nY h6
  ·exact h6.elim
 ·exact h.elim
theorem Vq{E:Md}{o:Oper}{tm tm':List (Nat×V)}{v:V}(hD:dV E o.op=true)(he:∀x∈o.op.operands,ev tm x=ev tm' x)(h:mY P E o ⟨tm,S⟩ (fun t=>t=St.put ⟨tm,S'⟩ o.dst v)):
 mY P E o ⟨tm',S⟩ (fun t=>t=St.put ⟨tm',S'⟩ o.dst v):=by
 rcases qD h with h|⟨x,y,t,u,k,h1,h2,h3,h4⟩
 ·refine CQ (Vp hD he h) fun x y t u k e hk=>Ic h x y t u k e ?_;rw[<-hk];exact he x (by rw[e];simp[Op.operands,Call.operands])
 ·have e1:=he x (by rw[h1];simp[Op.operands,Call.operands]);have e2:=he y (by rw[h1];simp[Op.operands,Call.operands]);simp only at h2 h4;rw[e2] at h4;exact Ib h1 (by simp only;rw[<-e1];exact h2) h3 (Sb h4)
theorem Y1{tm tm':List (Nat×V)}{op:Op}(he:∀x∈op.operands,ev tm x=ev tm' x):nval P S tm op=nval P S tm' op:=by
 unfold nval jY
 split<;>try rfl
 ·rw[he _ (by simp[Op.operands])]
 ·rw[he _ (by simp[Op.operands])]
 ·rename_i c x y;rw[he c (by simp[Op.operands]),he x (by simp[Op.operands]),he y (by simp[Op.operands])]
 ·rw[he _ (by simp[Op.operands])]
 ·rw[he _ (by simp[Op.operands])]
 ·rw[he _ (by simp[Op.operands])]
 ·rename_i t x i;rw[he x (by simp[Op.operands]),he i (by simp[Op.operands])]
 ·rename_i t x i;rw[he x (by simp[Op.operands]),he i (by simp[Op.operands])]
 ·rename_i op t x y _;rw[he x (by simp[Op.operands]),he y (by simp[Op.operands])]
 ·rw[he _ (by simp[Op.operands])]
 ·rw[he _ (by simp[Op.operands])]
 ·rw[he _ (by simp[Op.operands])]
 ·rename_i fn first caps
  have h1:first.toList.map (ev tm)=first.toList.map (ev tm'):=cG fun x hx=>he x (by simp[Op.operands];exact .inl (by simpa using hx))
  have h2:caps.toList.map (ev tm)=caps.toList.map (ev tm'):=cG fun x hx=>he x (by simp[Op.operands];exact .inr (by simpa using hx));rw[h1,h2]
 ·rw[he _ (by simp[Op.operands])]
 ·rename_i t x lo hi mx;rw[he x (by simp[Op.operands])]
  have h1:lo.map (ev tm)=lo.map (ev tm'):=by
   cases lo with
   |none=>rfl
   |some y=>simp[he y (by simp[Op.operands])]
  have h2:hi.map (ev tm)=hi.map (ev tm'):=by
   cases hi with
   |none=>rfl
   |some y=>simp[he y (by simp[Op.operands])]
  have h3:mx.map (ev tm)=mx.map (ev tm'):=by
   cases mx with
   |none=>rfl
   |some y=>simp[he y (by simp[Op.operands])]
  rw[h1,h2,h3]
 ·rename_i t parts
  have h1:(parts.toList.map fun x=>(x.1,ev tm x.2))=parts.toList.map fun x=>(x.1,ev tm' x.2):=cG fun x hx=>by
   rw[he x.2 (by simp only[Op.operands,List.mem_toArray,cp];exact⟨x,hx,rfl⟩)]
  rw[h1]
 ·rename_i t n parts
  have h1:(parts.toList.map fun x=>(x.1,ev tm x.2))=parts.toList.map fun x=>(x.1,ev tm' x.2):=cG fun x hx=>by
   rw[he x.2 (by simp only[Op.operands,List.mem_toArray,cp];exact⟨x,hx,rfl⟩)]
  rw[h1]
 ·rename_i t x i;rw[he x (by simp[Op.operands]),he i (by simp[Op.operands])]
 ·rename_i args sj;split
  ·rename_i x t hx ht
   have hargs:args= #[x]:=by rw[<-bt (xs:=args),hx]
   rw[he x (by simp[Op.operands,Call.operands,hargs])]
  ·rfl
 ·rename_i args sj;split
  ·rename_i x y hx
   have hargs:args= #[x,y]:=by rw[<-bt (xs:=args),hx]
   rw[he x (by simp[Op.operands,Call.operands,hargs]),he y (by simp[Op.operands,Call.operands,hargs])]
  ·rfl
 ·rename_i args sj;split
  ·rename_i x y hx
   have hargs:args= #[x,y]:=by rw[<-bt (xs:=args),hx]
   rw[he x (by simp[Op.operands,Call.operands,hargs]),he y (by simp[Op.operands,Call.operands,hargs])]
  ·rfl
theorem Vr{tm tm':List (Nat×V)}{c:Call}{v:V}(he:∀x∈c.operands,ev tm x=ev tm' x)(h:ze P tm c v):ze P tm' c v:=by
 unfold ze at h ⊢;obtain⟨uS,args,sj⟩:=c
 cases uS with
 |value x=>
  simp only at h ⊢;rw[<-he x (by simp[Call.operands])];have h1:args.toList.map (ev tm)=args.toList.map (ev tm'):=cG fun y hy=>he y (by simp[Call.operands];exact .inr (by simpa using hy));rw[<-h1];exact h
 |_=>exact h
def Ky:Obj->Prop
 | .box _=>True
 | .cZ _ _=>True
 | .mp _=>True
 | .xf _=>True
 |_=>False
def BO(v:V)(k:Key):Prop:=(∃off,v=.c (.ptr k off))\/(∃i off,v=.c (.iO k i off))\/v=.c (.eP k)\/v=.c (.mp k)\/(∃r p,v=.c (.xp k r p))\/∃r p z i off,v=.c (.xq k r p z i off)
def Fix(S S':Store):Prop:=∀k o,aN S k=some o->Ky o->aN S' k=some o
theorem Fix.refl(S:Store):Fix S S:=fun _ _ h _=>h
theorem fG{q:Prop}(h:no.1):q:=h.elim
theorem Vs{l:Option Nat}{tm:List (Nat×V)}{op:Op}(h:(jY P l S tm op).1)
 (hf:∀x∈op.operands,∀k,BO (ev tm x) k->
   ∀o,aN S k=some o->Ky o->aN S' k=some o):jY P l S' tm op=jY P l S tm op:=by
 unfold jY at h ⊢
 split at h<;>try rfl
 ·rename_i t x;have hf:=hf x (by simp[Op.operands]);unfold vR at h ⊢;split at h
  ·rfl
  ·split at h
   ·rename_i hx;simp only[hx]
   ·rename_i k off hx;split at h
    ·rename_i cs hk;rw[hf k (.inl ⟨off,hx⟩) _ hk trivial]
    ·exact fG h
   ·rename_i k i off hx;split at h
    ·rename_i aM es hk;rw[hf k (.inr (.inl ⟨i,off,hx⟩)) _ hk trivial]
    ·exact fG h
   ·rename_i k r p z i off hx;split at h
    ·rename_i rs hk;rw[hf k (.inr (.inr (.inr (.inr (.inr ⟨r,p,z,i,off,hx⟩))))) _ hk trivial]
    ·exact fG h
   ·exact fG h
 ·rename_i t x f;have hf:=hf x (by simp[Op.operands]);unfold nJ at h ⊢;split at h
  ·split at h
   ·split at h
    ·exact fG h
    ·rename_i fs hs _ fd Yq hne;split at h
     ·rename_i hx;simp[hs,Yq,hne,hx]
     ·rename_i k off hx;split at h
      ·rename_i cs hk;simp only[hs,Yq,hne,if_false,hx,hf k (.inl ⟨off,hx⟩) _ hk trivial,hk]
      ·exact fG h
     ·rename_i k i off hx;split at h
      ·rename_i aM es hk;simp only[hs,Yq,hne,if_false,hx,hf k (.inr (.inl ⟨i,off,hx⟩)) _ hk trivial,hk]
      ·exact fG h
     ·rename_i k r p z i off hx;split at h
      ·rename_i rs hk;simp only[hs,Yq,hne,if_false,hx,hf k (.inr (.inr (.inr (.inr (.inr ⟨r,p,z,i,off,hx⟩))))) _ hk trivial,hk]
      ·exact fG h
     ·exact fG h
   ·exact fG h
  ·exact fG h
 ·rename_i t x i;have hf:=hf x (by simp[Op.operands]);unfold nK at h ⊢;split at h
  ·rename_i e k n' n ht hx hi;split at h
   ·rename_i aM es hk;simp only[ht,hx,hi,hf k (.inr (.inr (.inl hx))) _ hk trivial,hk]
   ·exact fG h
  ·rename_i len e k off n' n ht hx hi;split at h
   ·rename_i cs hk;simp only[ht,hx,hi,hf k (.inl ⟨off,hx⟩) _ hk trivial,hk]
   ·exact fG h
  ·rename_i e k r p n' n ht hx hi;split at h
   ·rename_i rs hk;simp only[ht,hx,hi,hf k (.inr (.inr (.inr (.inr (.inl ⟨r,p,hx⟩))))) _ hk trivial,hk]
   ·exact fG h
  ·rename_i e y n' n hy hy2 ht hx hi;simp only[ht,hx,hi]
  ·exact fG h
 ·rename_i x;have hf:=hf x (by simp[Op.operands]);unfold qV at h ⊢;split at h
  ·rename_i k off hx;split at h
   ·rename_i cs hk;simp only[hx,hf k (.inl ⟨off,hx⟩) _ hk trivial,hk]
   ·exact fG h
  ·rename_i hx;simp only[hx]
  ·exact fG h
 ·rename_i t x i;have hf:=hf x (by simp[Op.operands]);unfold tL at h ⊢;split at h
  ·rename_i kt et k l ht uQ hi;split at h
   ·rename_i m hk hkt hz;simp only[ht,uQ,hi,hf k (.inr (.inr (.inr (.inl uQ)))) _ hk trivial,hk,hkt,hz]
   ·exact fG h
  ·exact fG h
 ·rename_i args sj;split at h
  ·rename_i x t hx ht
   have hargs:args= #[x]:=by rw[<-bt (xs:=args),hx]
   have hf:=hf x (by simp[Op.operands,Call.operands,hargs]);unfold yY at h ⊢;split at h
   ·rename_i l EK uQ;simp only[EK,uQ]
   ·rename_i n e EK;simp only[EK]
   ·rename_i e k EK uQ;split at h
    ·rename_i aM es hk;simp only[EK,uQ,hf k (.inr (.inr (.inl uQ))) _ hk trivial,hk]
    ·exact fG h
   ·rename_i e k r p EK uQ;split at h
    ·rename_i rs hk;simp only[EK,uQ,hf k (.inr (.inr (.inr (.inr (.inl ⟨r,p,uQ⟩))))) _ hk trivial,hk]
    ·exact fG h
   ·rename_i e y hy hy2 EK uQ;simp only[EK,uQ]
   ·exact fG h
  ·exact fG h
end
def qN(acc:List Nat):List Edge->Nat
 |[]=>0
 |e::es=>(if Region.binds .any e then 2^e.on ||| acc.getD e.on 0 else 0) ||| qN acc es
def masks:List Oper->List Nat->List Nat
 |[],acc=>acc
 |o::os,acc=>masks os (acc++[qN acc o.after.toList])
def clash(E:Md)(R:Array Oper)(x y:Oper):Bool:= !(x.apart R y)||(dV E x.op&&dV E y.op)||iZ E x.op||iZ E y.op
def uT(E:Md)(R:Array Oper)(N:Nat):Bool:=
 (List.range R.size).all fun j=>
   (match R[j]? with
    |some o=>o.after.toList.all (fun e=> !Region.binds .any e||decide (e.on<j))&&(match o.dst with|some d=>decide (d<N)|none=>true)
    |none=>true)&&
   (List.range j).all fun i=>
     match R[i]?,R[j]? with
     |some x,some y=>((masks R.toList []).getD j 0).testBit i|| !(clash E R x y)
     |_,_=>true
def nL(R:Array Oper)(i j:Nat):Bool:=if i<j then((masks R.toList []).getD j 0).testBit i else((masks R.toList []).getD i 0).testBit j
def jK(E:Md)(R:Array Oper)(x y:Oper):Bool:= !(x.apart R y)||(dV E x.op&&dV E y.op)
def settled(R:Array Oper)(i:Nat):Operand->Bool
 | .tmp t=>(List.range R.size).all fun n=>decide (n<i)|| !(eB R n==some t)
 |_=>true
def qE(R:Array Oper)(i:Nat)(x:Oper)(j:Nat)(y:Oper):Bool:=gJ y.op||match x.op with
 | .store _ a _=>settled R i a&&y.op.operands.toList.all (settled R j)
 |_=>false
def BP(E:Md)(R:Array Oper)(N:Nat):Bool:=
 (List.range R.size).all fun j=>
   (match R[j]? with
    |some o=>o.after.toList.all (fun e=> !Region.binds .any e||decide (e.on<j))&&(match o.dst with|some d=>decide (d<N)|none=>true)
    |none=>true)&&
   (List.range j).all fun i=>
     match R[i]?,R[j]? with
     |some x,some y=>((masks R.toList []).getD j 0).testBit i|| !(jK E R x y||(iZ E x.op&& !(qE R i x j y))||(iZ E y.op&& !(qE R j y i x)))
     |_,_=>true
def Pm(v w:V):Bool:=
 match w with
 | .c (.ptr k _)=>(match v with| .c (.ptr k' _)=>k'.2 !=k.2| .c (.iO k' _ _)=>k'.2 !=k.2|_=>false)
 | .c (.iO k _ _)=>(match v with| .c (.ptr k' _)=>k'.2 !=k.2| .c (.iO k' _ _)=>k'.2 !=k.2|_=>false)
 | .c (.eP k)=>(match v with| .c (.ptr k' _)=>k'.2 !=k.2| .c (.iO k' _ _)=>k'.2 !=k.2|_=>false)
 | .c (.mp k)=>(match v with| .c (.ptr k' _)=>k'.2 !=k.2| .c (.iO k' _ _)=>k'.2 !=k.2|_=>false)
 | .c (.xp _ _ _)=>false
 | .c (.xq _ _ _ _ _ _)=>false
 |_=>true
def Ju(E:Md)(R:Array Oper)(tm:List (Nat×V)):Bool:=
 (List.range R.size).all fun i=>match R[i]? with
   |some x=> !(iZ E x.op)||match x.op with
    | .store _ a _=>(List.range R.size).all fun j=>match R[j]? with
      |some y=>nL R i j||dV E y.op||gJ y.op||y.op.operands.toList.all (fun z=>Pm (ev tm a) (ev tm z))
      |none=>true
    |_=>true
   |none=>true
def Gu(R:Array Oper)(i:Nat):Bool:=
 (List.range R.size).all fun j=>decide (j=i)||(if j<i then((masks R.toList []).getD i 0).testBit j else((masks R.toList []).getD j 0).testBit i)
def uU:Op->Option FuncId
 | .call {callee:=.value (.func f),args:=_,argTypes:=_}=>some f
 |_=>none
def uD(R:Array Oper)(m:Nat):Md:=fun op=>if(List.range R.size).all (fun i=>match R[i]? with
 |some o=>(uU op !=uU o.op)||Gu R i
 |none=>true) then 2 else m
def tV:Op->Bool
 | .alloc _=>true
 |_=>false
def Az(E:Md)(R:Array Oper)(p:Nat):Bool:=match R[p]? with
 |some o=>tV o.op&&o.guard.isNone&&o.dst.isSome&&(List.range R.size).all fun j=>match R[j]? with
  |some y=>decide (j=p)||y.apart R o||(List.range p).all fun i=>match R[i]? with
   |some x=> !(dV E x.op)||(decide (i<j)&&((masks R.toList []).getD j 0).testBit i)
   |none=>true
  |none=>true
 |none=>true
def Sc(E:Md)(R:Array Oper)(p j:Nat)(x y:Oper):Bool:= !(x.apart R y)||(!(decide (j=p))&&((dV E x.op&&dV E y.op)||iZ E x.op||iZ E y.op))
def yJ(E:Md)(R:Array Oper)(N p:Nat):Bool:=
 Az E R p&&(List.range R.size).all fun j=>
  (match R[j]? with
   |some o=>o.after.toList.all (fun e=> !Region.binds .any e||decide (e.on<j))&&(match o.dst with|some d=>decide (d<N)|none=>true)
   |none=>true)&&
  (List.range j).all fun i=>
    match R[i]?,R[j]? with
    |some x,some y=>((masks R.toList []).getD j 0).testBit i|| !(Sc E R p j x y)
    |_,_=>true
def Vt(E:Md)(R:Array Oper)(N p:Nat):Bool:=
 Az E R p&&(List.range R.size).all fun j=>
  (match R[j]? with
   |some o=>o.after.toList.all (fun e=> !Region.binds .any e||decide (e.on<j))&&(match o.dst with|some d=>decide (d<N)|none=>true)
   |none=>true)&&
  (List.range j).all fun i=>
    match R[i]?,R[j]? with
    |some x,some y=>((masks R.toList []).getD j 0).testBit i|| !(!(x.apart R y)||(!(decide (j=p))&&((dV E x.op&&dV E y.op)||(iZ E x.op&& !(qE R i x j y))||(iZ E y.op&& !(qE R j y i x)))))
    |_,_=>true
def Vu(R:Array Oper)(p i:Nat):Bool:=
 (List.range R.size).all fun j=>decide (j=i)||decide (j=p)||(if j<i then((masks R.toList []).getD i 0).testBit j else((masks R.toList []).getD j 0).testBit i)
def EL(R:Array Oper)(p:Nat):Md:=fun op=>if(List.range R.size).all (fun i=>match R[i]? with
 |some o=>(uU op !=uU o.op)||Vu R p i
 |none=>true) then 2 else 0
def Dt(R:Array Oper)(p:Nat):Bool:=match R[p]? with
 |some o=>tV o.op
 |none=>false
def pOf(R:Array Oper)(N:Nat):Option Nat:=(List.range R.size).find? fun p=>Dt R p&&yJ (EL R p) R N p
def adI(R:Array Oper)(N:Nat):Option Nat:=(List.range R.size).find? fun p=>Dt R p&&Vt (EL R p) R N p
def EM(R:Array Oper)(N:Nat):Md:=if uT (uD R 1) R N then uD R 1 else match pOf R N with
 |some p=>EL R p
 |none=>if uT (uD R 0) R N then uD R 0 else fun _=>0
def Gv(R:Array Oper)(N:Nat):Bool:=uT (EM R N) R N||match pOf R N with
 |some p=>yJ (EM R N) R N p
 |none=>false
def uV(R:Array Oper)(N:Nat):Md:=if BP (uD R 1) R N then uD R 1 else match adI R N with
 |some p=>EL R p
 |none=>if BP (uD R 0) R N then uD R 0 else fun _=>0
section
variable {P:Program} {E:Md} {w w':World} {σ σ':Nat->Nat} {S S':Store} {β β':Hs} {N:Nat} {s:St} {a:Act} {R:Array Oper}
theorem AA:∀(l:List Oper)(acc:List Nat)(i:Nat),i<acc.length->(masks l acc)[i]? =acc[i]?
 |[],acc,i,h=>rfl
 |o::os,acc,i,h=>by rw[masks,AA os _ i (by simp;omega),an h]
theorem Kz:∀(l:List Oper)(acc:List Nat)(i:Nat)(o:Oper),l[i]? =some o->
 ∃acc',(∀j,j<acc.length+i->acc'[j]? =(masks l acc)[j]?)/\acc'.length=acc.length+i/\(masks l acc)[acc.length+i]? =some (qN acc' o.after.toList)
 |[],acc,i,o,h=>by simp at h
 |x::os,acc,0,o,h=>by
  simp at h;subst h;refine⟨acc,fun j hj=> ?_,by simp,?_⟩
  ·rw[masks,AA os _ j (by simp;omega),an (by omega)]
  ·rw[masks,eq,AA os _ _ (by simp),am (aw _)];simp
 |x::os,acc,i+1,o,h=>by
  obtain⟨acc',h1,h2,h3⟩:=Kz os (acc++[qN acc x.after.toList]) i o (by simpa using h);refine⟨acc',fun j hj=> ?_,by rw[h2];simp;omega,?_⟩
  ·rw[masks];exact h1 j (by simp;omega)
  ·rw[masks,<-h3];congr 1;simp;omega
theorem AB{acc:List Nat}{k:Nat}:∀(es:List Edge),(qN acc es).testBit k=true->∃e∈es,Region.binds .any e=true/\(e.on=k\/(acc.getD e.on 0).testBit k=true)
 |[],h=>by simp[qN] at h
 |e::es,h=>by
  rw[qN,Nat.testBit_or,da] at h;rcases h with h|h
  ·by_cases hb:Region.binds .any e=true
   ·rw[if_pos hb,Nat.testBit_or,da] at h;refine⟨e,by simp,hb,?_⟩;rcases h with h|h
    ·left;rw[Nat.testBit_two_pow] at h;simpa using h
    ·exact .inr h
   ·rw[if_neg hb] at h;simp at h
  ·obtain⟨e',he',h'⟩:=AB es h;exact⟨e',by simp[he'],h'⟩
theorem Ie(E:Nat->Prop)(hE:∀i o e,R[i]? =some o->E i->e∈o.after->Region.binds .any e=true->E e.on)(hlt:∀i o e,R[i]? =some o->e∈o.after->Region.binds .any e=true->e.on<i):
 ∀(i:Nat)(o:Oper),R[i]? =some o->(∀e∈o.after,Region.binds .any e=true->E e.on)->∀k,((masks R.toList []).getD i 0).testBit k=true->E k:=by
 intro i
 induction i using Nat.strongRecOn with
 |_ i ih=>
  intro o ho hed k hk;obtain⟨acc',h1,h2,h3⟩:=Kz R.toList [] i o (by simpa using ho);simp only[ae,cT] at h1 h2 h3;rw[ch,h3] at hk;obtain⟨e,he,hb,hek⟩:=AB _ hk
  have he':e∈o.after:=by simpa using he
  rcases hek with rfl|hek
  ·exact hed e he' hb
  ·have hon:=hlt i o e ho he' hb;have adJ:=hed e he' hb;have hilt:i<R.size:=(aE.1 ho).1;have hsome:R[e.on]? =some R[e.on]:=cb (by omega);refine ih e.on hon _ hsome (fun e2 he2 hb2=>hE e.on _ e2 hsome adJ he2 hb2) k ?_;rw[ch,h1 e.on (by omega)] at hek;rw[ch];exact hek
def iW(R:Array Oper)(vs:Nat->V)(E:Nat->Bool)(base:List (Nat×V)):Nat->Nat->V
 |0,t=>look base t
 |k+1,t=>if E k=true/\eB R k=some t then vs k else iW R vs E base k t
theorem yj{vs:Nat->V}{E:Nat->Bool}{base:List (Nat×V)}{t i:Nat}:∀(n:Nat),(∀j,j<n->eB R j=some t->(E j=true<->j<i))->
 iW R vs E base n t=iW R vs (fun _=>true) base (min n i) t
 |0,_=>by simp[iW]
 |n+1,h=>by
  have ih:=yj (vs:=vs) (base:=base) n (fun j hj hd=>h j (by omega) hd);rw[iW];by_cases hd:eB R n=some t
  ·by_cases hE:E n=true
   ·have hni:=(h n (by omega) hd).1 hE;rw[if_pos ⟨hE,hd⟩,show min (n+1) i=n+1 from by omega,iW,if_pos ⟨rfl,hd⟩]
   ·have hni:¬n<i:=fun hn=>hE ((h n (by omega) hd).2 hn);rw[if_neg (fun x=>hE x.1),ih,show min (n+1) i=min n i from by omega]
  ·rw[if_neg (fun x=>hd x.2),ih];by_cases hni:n<i
   ·rw[show min (n+1) i=n+1 from by omega,show min n i=n from by omega,iW,if_neg (fun x=>hd x.2)]
   ·rw[show min (n+1) i=min n i from by omega]
theorem uE{vs:Nat->V}{E E':Nat->Bool}{base:List (Nat×V)}{t:Nat}:∀(n:Nat),(∀j,j<n->eB R j=some t->E j=E' j)->iW R vs E base n t=iW R vs E' base n t
 |0,_=>rfl
 |n+1,h=>by
  rw[iW,iW,uE n (fun j hj hd=>h j (by omega) hd)];by_cases hd:eB R n=some t
  ·rw[h n (by omega) hd]
  ·rw[if_neg (fun x=>hd x.2),if_neg (fun x=>hd x.2)]
theorem zf{vs:Nat->V}{E:Nat->Bool}{base:List (Nat×V)}{t i:Nat}(hi:E i=true)(hd:eB R i=some t):∀(n:Nat),i<n->(∀j,j<n->i<j->eB R j=some t->E j=false)->iW R vs E base n t=vs i
 |0,h,_=>by omega
 |n+1,h,hj=>by
  rw[iW];by_cases hin:i=n
  ·subst hin;rw[if_pos ⟨hi,hd⟩]
  ·have:¬(E n=true/\eB R n=some t):=fun x=>by
    have:=hj n (by omega) (by omega) x.2;rw[this] at x;simp at x
   rw[if_neg this];exact zf hi hd n (by omega) (fun j hjn hij hdj=>hj j (by omega) hij hdj)
theorem CR{o:Oper}{s:St}{K:St->Prop}(h:lD P E R o s K):∃v s',jA P E R o s v s'/\K s':=by
 have hN:∀(hg:gd R o s.tm=some true),dX P E o s K->∃v s',jA P E R o s v s'/\K s':=by
  intro hg hx;unfold dX at hx;by_cases hD:mD o.op=true
  ·rw[if_pos hD] at hx;obtain⟨S',v,h1,h2⟩:=Vn hD hx;exact⟨v,_,.inr (.inr ⟨hg,Vh hD,h1,by rw[iC],fun h=>by rw[hD] at h;cases h⟩),h2⟩
  ·rw[if_neg hD] at hx
   have hD':mD o.op=false:=by simpa using hD
   split at hx
   ·rename_i x args sj hop
    have hcv:gJ o.op=true:=by rw[hop];rfl
    rw[<-hop] at hx;split at hx
    ·rename_i hE;obtain⟨r,h1,h2⟩:=hx;exact⟨r,_,.inr (.inl ⟨hg,by unfold dV;rw[hD',hE];rfl,.inl ⟨_,hop,h1⟩,rfl⟩),h2⟩
    ·rename_i hE;obtain⟨S',v,h0,h1,h2⟩:=hx;rw[<-tT (E:=E) (show isApp o.op=false by rw[hop];rfl)] at h1;exact⟨v,_,.inr (.inr ⟨hg,by unfold dV;rw[hE,hcv];simp,h1,by rw[iC],fun _ _=>by rw[iC];exact h0⟩),h2⟩
    ·rename_i hE0 hE1;obtain⟨S',v,h1,h2⟩:=hx
     have h3:2<=E o.op:=by
      rcases ew (E o.op) 2 with h|h
      ·exfalso
       have:E o.op=0\/E o.op=1:=by omega
       exact this.elim hE0 hE1
      ·exact h
     rw[<-tT (E:=E) (show isApp o.op=false by rw[hop];rfl)] at h1
     exact⟨v,_,.inr (.inr ⟨hg,by unfold dV;rw[hcv,bx,da,decide_eq_true_eq];exact .inr (by omega),h1,by rw[iC],fun _ h=>by
      unfold iZ at h;rw[hcv,bx,cz,cz,decide_eq_false_iff_not] at h
      exact absurd h3 h.1.2⟩),h2⟩
   ·rename_i hne;refine⟨_,_,.inr (.inl ⟨hg,?_,.inr ⟨hx.1,rfl⟩,rfl⟩),hx.2⟩
    have:gJ o.op=false:=by
     cases hc:gJ o.op with
     |false=>rfl
     |true=>
      exfalso;unfold gJ at hc;split at hc
      ·rename_i x a b ho;exact hne _ _ _ ho
      ·cases hc
    unfold dV;rw[hD',this];simp
 unfold lD at h;split at h
 ·rename_i hg;exact hN (by simp only[gd,hg]) h
 ·rename_i j want hg;split at h
  ·rename_i x hx;by_cases e:x=want
   ·exact hN (by simp only[gd,hg,hx,e,beq_self_eq_true]) (h.1 e)
   ·exact⟨.gq [],_,.inl ⟨by simp only[gd,hg,hx];simp[e],rfl,rfl⟩,h.2 (by cases x<;>cases want<;>simp_all)⟩
  ·rename_i hx;exact⟨.gq [],_,.inl ⟨by simp only[gd,hg,hx],rfl,rfl⟩,h⟩
  ·exact h.elim
theorem AJ{F:Oper->St->St->Prop}{D:List Oper->St->Prop}{K:St->Prop}(hnil:∀s,D [] s->K s)(Yr:∀o os s,D (o::os) s->∃v s',jA P E R o s v s'/\F o s s'/\D os s'):∀(n k:Nat),k+n=R.size->∀s,D (R.toList.drop k) s->
 ∃(st:Nat->St) (vs:Nat->V),st k=s/\K (st R.size)/\∀i,k<=i->i<R.size->∃o,R[i]? =some o/\jA P E R o (st i) (vs i) (st (i+1))/\F o (st i) (st (i+1))
 |0,k,hk,s,h=>by
  have:R.toList.drop k=[]:=by apply en;simp;omega
  rw[this] at h;exact⟨fun _=>s,fun _=>.any,rfl,hnil s h,fun i h1 h2=>by omega⟩
 |n+1,k,hk,s,h=>by
  have hlt:k<R.toList.length:=by simp;omega
  rw[bh hlt] at h
  have hRk:R[k]? =some R.toList[k]:=by
   rw[cb (by omega)];simp
  obtain⟨v,s',ht,hf,hd⟩:=Yr _ _ s h;obtain⟨st,vs,h1,h2,h3⟩:=AJ hnil Yr n (k+1) (by omega) s' hd;refine⟨fun i=>if i=k then s else st i,fun i=>if i=k then v else vs i,by simp,?_,fun i hi1 hi2=> ?_⟩
  ·have:R.size≠k:=by omega
   simp only[if_neg this];exact h2
  ·by_cases e:i=k
   ·subst e;refine⟨_,hRk,?_⟩;simp only[if_true]
    have:i+1≠i:=by omega
    simp only[if_neg this,h1];exact⟨ht,hf⟩
   ·obtain⟨o,ho,ht'⟩:=h3 i (by omega) hi2;refine⟨o,ho,?_⟩
    have:i+1≠k:=by omega
    simp only[if_neg e,if_neg this];exact ht'
theorem Du{K:St->Prop}(n k:Nat)(hk:k+n=R.size)(s:St)(h:oM P E R (R.toList.drop k) s K):
 ∃(st:Nat->St) (vs:Nat->V),st k=s/\K (st R.size)/\∀i,k<=i->i<R.size->∃o,R[i]? =some o/\jA P E R o (st i) (vs i) (st (i+1)):=by
 obtain⟨st,vs,h1,h2,h3⟩:=AJ (F:=fun _ _ _=>True) (D:=fun os s=>oM P E R os s K) (fun _ h=>h) (fun o os s h=>by
  obtain⟨v,s',a,b⟩:=CR h
  exact⟨v,s',a,trivial,b⟩) n k hk s h
 exact⟨st,vs,h1,h2,fun i a b=>by
  obtain⟨o,c,d,_⟩:=h3 i a b
  exact⟨o,c,d⟩⟩
theorem Vv{o:Oper}{s s':St}{v:V}(h:jA P E R o s v s'):s'=St.put ⟨s.tm,s'.st⟩ o.dst v:=by
 rcases h with⟨_,_,h⟩|⟨_,_,_,h⟩|⟨_,_,_,h,_⟩
 ·rw[h];cases o.dst<;>rfl
 ·rw[h];cases o.dst<;>rfl
 ·exact h
theorem Vw{o:Oper}{s s':St}{v:V}(h:jA P E R o s v s')(hD:dV E o.op=false):s'.st=s.st:=by
 rcases h with⟨_,_,h⟩|⟨_,_,_,h⟩|⟨_,h,_,_⟩
 ·rw[h];cases o.dst<;>rfl
 ·rw[h];cases o.dst<;>rfl
 ·rw[hD] at h;cases h
theorem uW{st:Nat->St}{vs:Nat->V}(h:∀i,i<R.size->∃o,R[i]? =some o/\jA P E R o (st i) (vs i) (st (i+1)))(t:Nat):∀i,i<=R.size->look (st i).tm t=iW R vs (fun _=>true) (st 0).tm i t
 |0,_=>rfl
 |i+1,hi=>by
  obtain⟨o,ho,ht⟩:=h i (by omega);have e:=Vv ht;have ih:=uW h t i (by omega);rw[iW,<-ih]
  have hdst:eB R i=o.dst:=by simp[eB,ho]
  rw[hdst,e]
  cases hd:o.dst with
  |none=>simp[St.put]
  |some d=>
   simp only[St.put,look,true_and,cX]
theorem DS.refl(S:Store):DS S S:=fun _ _ h=>.inl h
theorem DS.trans{S1 S2 S3:Store}(h:DS S1 S2)(k:DS S2 S3):DS S1 S3:=by
 intro x o hx;rcases h x o hx with h1|⟨h1,o',z,es,h2,h2'⟩
 ·exact k x o h1
 ·rcases k x _ h2 with h3|⟨_,h3⟩
  ·exact .inr ⟨h1,o',z,es,h3,h2'⟩
  ·exact .inr ⟨h1,h3⟩
theorem DS.push{own:List Obj}{Ω:Store}{o:Obj}:DS (own::Ω) ((own++[o])::Ω):=fun k o' h=>.inl (gu _ _ _ _ _ h)
theorem nI{dst:Option Nat}{o:Obj}{mk:Key->V}{s':St}(h:newObj s dst o mk (fun t=>t=s')):DS s.st s'.st:=by
 unfold newObj at h;split at h
 ·rename_i own Ω hst;rw[<-h,iC,hst];exact DS.push
 ·exact h.elim
theorem Y2{b:Bool}{es x:List (List D)}{z:Nat}{dst:Option Nat}{s':St}(h:vB b es s dst z x (fun t=>t=s')):DS s.st s'.st:=by
 cases b with
 |false=>exact nI (o:=.tok z x) (mk:=fun k=>.c (.bM k x)) h
 |true=>exact nI (o:=.cZ z x) (mk:=fun k=>.c (.eP k)) h.2
theorem Y3{l:Option Nat}{es x:List (List D)}{z:Nat}{dst:Option Nat}{s':St}(h:wN l es s dst z x (fun t=>t=s')):DS s.st s'.st:=by
 cases l with
 |none=>exact Y2 h
 |some n=>
  cases es with
  |nil=>
   have h:St.put ⟨s.tm,s.st⟩ dst (.c (.d (.ol n x)))=s':=h;rw[<-h,iC];exact DS.refl _
  |cons y es=>exact nI (o:=.tok z x) (mk:=fun k=>.c (.bM k x)) h
theorem Y4{b:Bool}{n:Nat}{x:List (List D)}{z:Nat}{dst:Option Nat}{s':St}(h:yg b n s dst z x (fun t=>t=s')):DS s.st s'.st:=by
 cases b with
 |false=>exact nI (o:=.gX n z x) (mk:=fun k=>.c (.bM k x)) h
 |true=>
  have h:St.put ⟨s.tm,s.st⟩ dst (.c (.d (.ol n x)))=s':=h;rw[<-h,iC];exact DS.refl _
theorem KA{o:Oper}{s s':St}(hD:mD o.op=true)(hs:tQ o.op=false)(h:bO P o s (fun t=>t=s')):DS s.st s'.st:=by
 obtain⟨dst,op,ty,pos,after,guard⟩:=o
 cases op with
 |alloc t=>
  simp only[bO,o7] at h;split at h
  ·exact nI h
  ·exact h.elim
 |box t x=>
  simp only[bO,wM] at h;split at h
  ·exact nI h
  ·exact h.elim
 |makeSlice t l c=>
  simp only[bO,rY] at h;split at h
  ·split at h
   ·exact nI h.2.2.2.2.2
   ·exact h.elim
  ·exact h.elim
 |store t x y=>simp[tQ] at hs
 |mapUpdate t x y z=>simp[tQ] at hs
 |makeMap t r=>
  cases r with
  |none=>
   simp only[bO,oz] at h;exact nI h
  |some r=>simp[mD] at hD
 |call c=>
  obtain⟨uS,args,sj⟩:=c
  cases uS with
  |builtin b=>
   cases b with
   |append=>
    simp only[bO,jy] at h;split at h
    ·simp only[lC] at h;split at h
     ·obtain⟨h1,h2,h3,h4⟩:=h;split at h4
      ·rename_i k es hex;split at h4
       ·rename_i z es' hk;obtain⟨k1,k2,k3,k4⟩:=h4;rw[<-k4,iC];intro k' o' ho';by_cases e:k'=k
        ·subst e;rw[hk] at ho';cases ho';exact .inr ⟨⟨_,_,.inl rfl⟩,_,_,_,bP _ _ _ _ hk,.inl rfl⟩
        ·exact .inl ((dD _ _ _ _ (Ne.symm e)).trans ho')
       ·rename_i n z es' hk;obtain⟨k1,k2,k3,k4⟩:=h4;rw[<-k4,iC];intro k' o' ho';by_cases e:k'=k
        ·subst e;rw[hk] at ho';cases ho';exact .inr ⟨⟨_,_,.inr ⟨_,rfl⟩⟩,_,_,_,bP _ _ _ _ hk,.inr ⟨_,rfl⟩⟩
        ·exact .inl ((dD _ _ _ _ (Ne.symm e)).trans ho')
       ·exact h4.elim
      ·exact Y3 h4.2.2
      ·exact Y4 h4.2.2
      ·obtain⟨j0,off,j,es,⟨cs,l1,l2,l3⟩,k2,k3⟩:=h4;rw[<-k3,iC];intro k' o' ho';by_cases e:k'=(0,j)
       ·subst e;rw[l3] at ho';cases ho';exact .inr ⟨⟨_,_,.inl rfl⟩,_,_,_,bP _ _ _ _ l3,.inl rfl⟩
       ·exact .inl ((dD _ _ _ _ (Ne.symm e)).trans ho')
      ·exact h4.elim
     ·exact h.elim
    ·exact h.elim
   |_=>simp[mD] at hD
  |_=>simp[mD] at hD
 |_=>simp[mD] at hD
theorem Vx{o:Oper}{s s':St}{v:V}(h:jA P E R o s v s')(hs:iZ E o.op=false):DS s.st s'.st:=by
 rcases h with⟨_,_,h⟩|⟨_,_,_,h⟩|⟨_,hD,h,_,hc⟩
 ·rw[h];cases o.dst<;>exact DS.refl _
 ·rw[h];cases o.dst<;>exact DS.refl _
 ·cases hd:mD o.op with
  |true=>
   unfold iZ at hs;rw[cz,cz] at hs;rcases qD h with h|⟨x,y,t,u,k,h1,_,h3,_⟩
   ·exact KA hd hs.1.1 h
   ·have:=hs.2;rw[h3,h1] at this;cases this
  |false=>exact hc hd hs
theorem yK{st:Nat->St}{vs:Nat->V}(h:∀i,i<R.size->∃o,R[i]? =some o/\jA P E R o (st i) (vs i) (st (i+1))){i:Nat}:∀(m:Nat),i+m<=R.size->(∀j o,i<=j->j<i+m->R[j]? =some o->dV E o.op=false)->(st (i+m)).st=(st i).st
 |0,_,_=>rfl
 |m+1,hm,hj=>by
  obtain⟨o,ho,ht⟩:=h (i+m) (by omega);rw[show i+(m+1)=i+m+1 from rfl,Vw ht (hj _ o (by omega) (by omega) ho)];exact yK h m (by omega) (fun j o h1 h2 h3=>hj j o h1 (by omega) h3)
def KS(k:Key)(S S':Store):Prop:=∀o,aN S k=some o->aN S' k=some o\/((∃z es,lT o z es)/\∃o' z es,aN S' k=some o'/\lT o' z es)
theorem KS.same{k:Key}{S S':Store}(h:aN S' k=aN S k):KS k S S':=fun _ hx=>.inl (h.trans hx)
theorem KS.trans{k:Key}{S1 S2 S3:Store}(h:KS k S1 S2)(h':KS k S2 S3):KS k S1 S3:=by
 intro o hx;rcases h o hx with h1|⟨h1,o',z,es,h2,h2'⟩
 ·exact h' o h1
 ·rcases h' _ h2 with h3|⟨_,h3⟩
  ·exact .inr ⟨h1,o',z,es,h3,h2'⟩
  ·exact .inr ⟨h1,h3⟩
theorem Pn{st:Nat->St}{vs:Nat->V}(h:∀i,i<R.size->∃o,R[i]? =some o/\jA P E R o (st i) (vs i) (st (i+1))){i:Nat}{k:Key}:∀(m:Nat),i+m<=R.size->
 (∀j o,i<=j->j<i+m->R[j]? =some o->iZ E o.op=false\/KS k (st j).st (st (j+1)).st)->KS k (st i).st (st (i+m)).st
 |0,_,_=>fun _ hx=>.inl hx
 |m+1,hm,hj=>by
  obtain⟨o,ho,ht⟩:=h (i+m) (by omega);refine(Pn h m (by omega) (fun j o h1 h2 h3=>hj j o h1 (by omega) h3)).trans ?_;rcases hj _ o (by omega) (by omega) ho with hs|hs
  ·exact Vx ht hs k
  ·exact hs
theorem cnt_lt(p q:Nat->Bool):∀(l:List Nat)(i:Nat),(∀x,q x=true->p x=true)->i∈l->p i=true->q i=false->l.countP q<l.countP p
 |[],_,_,h,_,_=>by simp at h
 |x::l,i,h,hi,hp,hq=>by
  rw[List.countP_cons,List.countP_cons];have hle:l.countP q<=l.countP p:=List.countP_mono_left (fun y _ hy=>h y hy);rcases du.1 hi with rfl|hi
  ·rw[hp,hq];simp;omega
  ·have ih:=cnt_lt p q l i h hi hp hq;by_cases hx:q x=true
   ·rw[hx,h x hx];simp;exact ih
   ·have:q x=false:=by simpa using hx
    rw[this];simp
    split<;>omega
end
section
variable {P:Program} {E:Md} {N:Nat} {R:Array Oper}
def j6(E:Md)(R:Array Oper)(p:Nat)(listed:Array Bool):Prop:=listed.getD p false=true/\p<R.size/\∃j x,j<p/\R[j]? =some x/\dV E x.op=true/\listed.getD j false=false
def Raw(P:Program)(R:Array Oper)(p:Nat)(w0 w:World)(σ:Nat->Nat)(S:Store)(β:Hs)(v:Value):Prop:=
 ∃b c ty,v=.pointer (some ⟨b,0,none⟩)/\w.heap[b]? =some (.cells c ty (0,0))/\σ b=0/\w0.heap.size<=b/\¬Own S β b/\
  ∀o t zs,R[p]? =some o->o.op=.alloc t->gF P t=some zs->∀w σ S β,dS w σ S β zs c.toList
open Classical in
noncomputable def oQ(E:Md)(R:Array Oper)(p:Nat)(vs:Nat->V)(listed:Array Bool)(base:List (Nat×V))(t:Nat):V:=
 if j6 E R p listed/\eB R p=some t then .any else iW R vs (fun i=>listed.getD i false) base R.size t
structure Mid(P:Program)(N:Nat)(E:Md)(R:Array Oper)(p:Nat)(st:Nat->St)(vs:Nat->V)(β0:Hs)(σ0:Nat->Nat)(w0:World)(listed:Array Bool)(a:Act)(w:World):Prop where
 size:listed.size=R.size
 closed:∀i o e,R[i]? =some o->listed.getD i false=true->e∈o.after->Region.binds .any e=true->listed.getD e.on false=true
 rep:∃m,m<=R.size/\(∀i o,R[i]? =some o->dV E o.op=true->(i=p->¬j6 E R p listed)->(listed.getD i false=true<->i<m))/\∃σ β,a.tmps.size=N/\a.defers=[]/\dM w σ (st m).st β/\
  (∀t,cu w σ (st m).st β (oQ E R p vs listed (st 0).tm t) (a.tmps.getD t undef))/\Step (st 0).st β0 σ0 w0 (st m).st β σ w/\Keep (st 0).st β0 (st m).st β/\
  (j6 E R p listed->m<=p/\∀d,eB R p=some d->Raw P R p w0 w σ (st m).st β (a.tmps.getD d undef))
theorem Ja{o:Oper}{x:Operand}{t:Nat}(hx:x∈o.op.operands)(e:x=.tmp t):t∈o.looksAt R:=by
 subst e;exact List.mem_append_left _ (List.mem_filterMap.2 ⟨.tmp t,by simpa using hx,rfl⟩)
theorem MB{o:Oper}{g d:Nat}{want:Bool}(hg:o.guard=some (g,want))(hd:eB R g=some d):d∈o.looksAt R:=by
 refine List.mem_append_right _ ?_;rw[hg];show d∈((R[g]?).bind (·.dst)).toList;unfold eB at hd
 rw[hd];simp
theorem wQ(h:uT E R N=true){i j:Nat}{x y:Oper}(hij:i<j)(hx:R[i]? =some x)(hy:R[j]? =some y)(hc:clash E R x y=true):((masks R.toList []).getD j 0).testBit i=true:=by
 have hj:j<R.size:=(aE.1 hy).1;have h1:=ax.1 h j (cd.2 hj);rw[aq] at h1;have h2:=ax.1 h1.2 i (cd.2 hij);rw[hx,hy] at h2;simp only[hc,ed,Bool.or_false] at h2;exact h2
theorem KC(h:uT E R N=true){i:Nat}{o:Oper}{e:Edge}(ho:R[i]? =some o)(he:e∈o.after)(hb:Region.binds .any e=true):e.on<i:=by
 have hj:i<R.size:=(aE.1 ho).1;have h1:=ax.1 h i (cd.2 hj);rw[aq,ho] at h1;have h2:=h1.1;simp only[aq] at h2;have h3:=ax.1 h2.1 e (by simpa using he);simpa [hb] using h3
theorem MC(h:uT E R N=true){i:Nat}{o:Oper}(ho:R[i]? =some o):∀d,o.dst=some d->d<N:=by
 intro d hd;have hj:i<R.size:=(aE.1 ho).1;have h1:=ax.1 h i (cd.2 hj);rw[aq,ho] at h1;have h2:=h1.1;simp only[aq,hd] at h2;simpa using h2.2
theorem Po{x y:Oper}:x.apart R y=y.apart R x:=by
 rw[eh]
 have key:∀x y:Oper,x.apart R y=true->y.apart R x=true:=fun x y h=>by
  obtain⟨h1,h2,h3⟩:=Oper.apart_spec h;unfold Oper.apart
  cases hx:x.dst<;>cases hy:y.dst<;>simp
  ·rename_i d;exact h3 d hy
  ·rename_i d;exact h1 d hx
  ·rename_i d d';exact⟨⟨h3 d' hy,fun e=>h2 d hx (by rw[hy,e])⟩,h1 d hx⟩
 exact⟨key x y,key y x⟩
theorem ME{x y:Oper}:jK E R x y=jK E R y x:=by
 unfold jK;rw[Po,Bool.and_comm (dV E x.op)]
def Pp:Op->Bool
 | .move _=>true
 |_=>false
theorem Vy{P:Program}{l:Option Nat}{S S':Store}{tm:List (Nat×V)}{op:Op}(h:Pp op=true):jY P l S' tm op=jY P l S tm op:=by
 cases op<;>first|rfl|cases h
def refs(tm:List (Nat×V))(o:Oper)(k:Key):Prop:=Pp o.op=false/\∃x∈o.op.operands,BO (ev tm x) k
structure Ig(E:Md)(R:Array Oper)(N:Nat)(st:Nat->St)(p:Nat):Prop where
 edge:∀(i:Nat)(o:Oper)(e:Edge),R[i]? =some o->e∈o.after->Region.binds .any e=true->e.on<i
 dst:∀(i:Nat)(o:Oper),R[i]? =some o->∀d,o.dst=some d->d<N
 pair:∀(i j:Nat)(x y:Oper),i<j->R[i]? =some x->R[j]? =some y->jK E R x y=true->((masks R.toList []).getD j 0).testBit i=true\/(j=p/\dV E x.op=true/\x.apart R y=true)
 store:∀(i j:Nat)(x o:Oper),i≠j->R[i]? =some x->R[j]? =some o->iZ E x.op=true->dV E o.op=false->gJ o.op=false->
  nL R i j=true\/∀k,refs (st j).tm o k->KS k (st i).st (st (i+1)).st
 pend:∀o,R[p]? =some o->tV o.op=true/\o.guard=none/\(∃d,o.dst=some d)/\∀j y,j≠p->R[j]? =some y->y.apart R o=false->∀i x,i<p->R[i]? =some x->dV E x.op=true->i<j/\((masks R.toList []).getD j 0).testBit i=true
theorem aaC{st:Nat->St}(h:uT E R N=true):Ig E R N st R.size where
 edge:=fun i o e h1 h2 h3=>KC h h1 h2 h3
 dst:=fun i o h1=>MC h h1
 pair:=fun i j x y hij hx hy hc=>.inl (wQ h hij hx hy (by
  unfold jK at hc;unfold clash
  rw[hc];rfl))
 store:=fun i j x o hij hx ho hs hD hc=>.inl (by
  unfold nL;by_cases e:i<j
  ·rw[if_pos e];exact wQ h e hx ho (by unfold clash;rw[hs];simp)
  ·rw[if_neg e]
   exact wQ h (show j<i by omega) ho hx (by unfold clash;rw[hs];simp))
 pend:=fun o ho=>by rw[di (aw _)] at ho;cases ho
theorem Oa{p:Nat}(h:Az E R p=true):∀o,R[p]? =some o->tV o.op=true/\o.guard=none/\(∃d,o.dst=some d)/\∀j y,j≠p->R[j]? =some y->y.apart R o=false->∀i x,i<p->R[i]? =some x->dV E x.op=true->i<j/\((masks R.toList []).getD j 0).testBit i=true:=by
 intro o ho;unfold Az at h;rw[ho] at h;simp only[aq] at h;obtain⟨⟨⟨h1,h2⟩,h3⟩,h4⟩:=h;refine⟨h1,by simpa using h2,dE.1 h3,fun j y hj hy hap i x hi hx hD=> ?_⟩;have hjl:j<R.size:=(aE.1 hy).1;have h5:=ax.1 h4 j (cd.2 hjl);rw[hy] at h5;simp only[hap,hj,decide_false,cP] at h5;have h6:=ax.1 h5 i (cd.2 hi);rw[hx] at h6;simpa [hD] using h6
theorem pq{o:Oper}(h:tV o.op=true):dV E o.op=true/\iZ E o.op=false/\gJ o.op=false:=by
 obtain⟨dst,op,ty,pos,after,guard⟩:=o;cases op<;>simp_all[tV,dV,mD,iZ,tQ,gJ,isApp]
theorem Y5{st:Nat->St}{p:Nat}(h0:yJ E R N p=true):Ig E R N st p:=by
 unfold yJ at h0;rw[aq] at h0;obtain⟨hp,h⟩:=h0;have tH:=Oa hp
 have hpr:∀(i j:Nat)(x y:Oper),i<j->R[i]? =some x->R[j]? =some y->((masks R.toList []).getD j 0).testBit i=true\/(x.apart R y=true/\(j=p\/((dV E x.op&&dV E y.op)=false/\iZ E x.op=false/\iZ E y.op=false))):=by
  intro i j x y hij hx hy;have hj:j<R.size:=(aE.1 hy).1;have h1:=ax.1 h j (cd.2 hj);rw[aq] at h1;have h2:=ax.1 h1.2 i (cd.2 hij);rw[hx,hy] at h2;simp only[Sc] at h2;rw[da] at h2;rcases h2 with h2|h2
  ·exact .inl h2
  ·right;rw[ep,cz,ej] at h2;refine⟨h2.1,?_⟩;by_cases e:j=p
   ·exact .inl e
   ·right;have h3:=h2.2;simp only[e,decide_false,ex,bj,cz] at h3;exact⟨h3.1.1,h3.1.2,h3.2⟩
 refine⟨?_,?_,?_,?_,tH⟩
 ·intro i o e ho he hb;have hj:i<R.size:=(aE.1 ho).1;have h1:=ax.1 h i (cd.2 hj);rw[aq,ho] at h1;have h2:=h1.1;simp only[aq] at h2;have h3:=ax.1 h2.1 e (by simpa using he);simpa [hb] using h3
 ·intro i o ho d hd;have hj:i<R.size:=(aE.1 ho).1;have h1:=ax.1 h i (cd.2 hj);rw[aq,ho] at h1;have h2:=h1.1;simp only[aq,hd] at h2;simpa using h2.2
 ·intro i j x y hij hx hy hc;rcases hpr i j x y hij hx hy with h1|⟨h1,h2⟩
  ·exact .inl h1
  ·rcases h2 with h2|⟨h2,_,_⟩
   ·right;unfold jK at hc;rw[h1] at hc;simp only[ed,cP,aq] at hc;exact⟨h2,hc.1,h1⟩
   ·unfold jK at hc;rw[h1,h2] at hc;cases hc
 ·intro i j x o hij hx ho hs hD hc
  have hjp:j≠p:=fun e=>by
   subst e;have:=(pq (E:=E) (tH o ho).1).1;rw[hD] at this;cases this
  have Ih:i≠p:=fun e=>by
   subst e;have:=(pq (E:=E) (tH x hx).1).2.1;rw[hs] at this;cases this
  left;unfold nL;by_cases e:i<j
  ·rw[if_pos e];rcases hpr i j x o e hx ho with h1|⟨_,h2⟩
   ·exact h1
   ·rcases h2 with h2|⟨_,h2,_⟩
    ·exact absurd h2 hjp
    ·rw[hs] at h2;cases h2
  ·rw[if_neg e];rcases hpr j i o x (by omega) ho hx with h1|⟨_,h2⟩
   ·exact h1
   ·rcases h2 with h2|⟨_,_,h2⟩
    ·exact absurd h2 Ih
    ·rw[hs] at h2;cases h2
theorem Oper.Sd{o:Oper}{a:Act}{w:World}{K:Act->World->Prop}{Q:Exit->Act->World->Prop}(hh:o.wp P a w K Q):o.wp P a w (fun a' w'=>K a' w'/\∀d,o.dst≠some d->a'.tmps.getD d undef=a.tmps.getD d undef) Q:=by
 have key:∀(ds:List Deferred)(v:Value)(d:Nat),o.dst≠some d->(({a with defers:=ds}:Act).put o.dst v).tmps.getD d undef=a.tmps.getD d undef:=by
  intro ds v d hd
  cases ho:o.dst with
  |none=>rfl
  |some e=>
   have hne:e≠d:=fun x=>hd (by rw[ho,x]);simp only[Act.put,cS];rw[ea hne]
 unfold Oper.wp at *
 generalize (execOp a.eval o).run P w=r at *
 cases r with
 |ok n w'=>
  cases n<;>simp only[Oper.upon] at hh ⊢ <;>
   first
    |exact⟨hh,fun d hd=>key _ _ d hd⟩
    |exact Calls.mono hh (fun e w'' he=>by cases e<;>first|exact⟨he,fun d hd=>key _ _ d hd⟩|exact he)
    |exact Rows.mono hh (fun _ _ he=>⟨he,fun d hd=>key _ _ d hd⟩)
 |halt x w'=>cases x<;>simp only[Oper.upon] at hh ⊢ <;>exact hh
theorem AL{a:Act}{dst:Option Nat}{v:Value}{d:Nat}(h:dst≠some d):(a.put dst v).tmps.getD d undef=a.tmps.getD d undef:=by
 cases dst with
 |none=>rfl
 |some e=>
  have hne:e≠d:=fun x=>h (by rw[x]);simp only[Act.put,cS];rw[ea hne]
theorem Vz{t:TypeId}{zs:List C}(h:gF P t=some zs):∃z:Value,(∀w,(zeroValue t).run P w=.ok z w)/\∀w σ S β,dS w σ S β zs z.cells.toList:=by
 unfold gF at h
 cases hi:P.info? t with
 |none=>rw[hi] at h;cases h
 |some i=>
  rw[hi] at h
  cases hz:i.zero with
  |none=>simp[hz] at h
  |some z=>
   simp only[dp,hz] at h;split at h
   ·rename_i hall;cases h;refine⟨z,fun w=>by simp[zeroValue,typeInfo,hi,hz],fun w σ S β=>⟨by simp,fun j x hx=> ?_⟩⟩;rw[aV] at hx
    cases hv:z.cells.toList[j]? with
    |none=>rw[hv] at hx;cases hx
    |some v=>
     rw[hv] at hx;cases hx;exact⟨v,rfl,vQ _ _ _ _ _,ax.1 hall v (cq hv)⟩
   ·cases h
theorem VA{w w0:World}{σ σ0:Nat->Nat}{S0:Store}{β0:Hs}{own:List Obj}{Ω:Store}{β:Hs}{zs:List C}{b:Nat}{c:Array Value}{ty:TypeId}(hS:dM w σ (own::Ω) β)(hst:Step S0 β0 σ0 w0 (own::Ω) β σ w)(hb:w.heap[b]? =some (.cells c ty (0,0)))(hσ:σ b=0)
 (h0:w0.heap.size<=b)(hno:¬Own (own::Ω) β b)(hz:∀w σ S β,dS w σ S β zs c.toList):
 ∃bo bΩ,β=bo::bΩ/\bo.length=own.length/\dM w σ ((own++[.box zs])::Ω) ((bo++[Value.pointer (some ⟨b,0,none⟩)])::bΩ)/\Keep (own::Ω) β ((own++[.box zs])::Ω) ((bo++[Value.pointer (some ⟨b,0,none⟩)])::bΩ)/\
  Step S0 β0 σ0 w0 ((own++[.box zs])::Ω) ((bo++[Value.pointer (some ⟨b,0,none⟩)])::bΩ) σ w:=by
 cases β with
 |nil=>have:=hS.shape.1;simp at this
 |cons bo bΩ=>
 have hlen:bo.length=own.length:=by
  obtain⟨gr,g1,g2⟩:=hS.shape.2 0 own rfl;simp at g1;rw[g1];exact g2
 refine⟨bo,bΩ,rfl,hlen,?_⟩
 have hkeep:Keep (own::Ω) (bo::bΩ) ((own++[.box zs])::Ω) ((bo++[Value.pointer (some ⟨b,0,none⟩)])::bΩ):=by
  intro k o1 h1;obtain⟨h2,tF,_⟩:=hS.obj k o1 h1;exact⟨o1,gu _ _ _ _ _ h1,by rw[gu _ _ _ _ _ tF,tF];exact .refl _ _⟩
 have hinv:∀k o1 h1,aN ((own++[Obj.box zs])::Ω) k=some o1->aN ((bo++[Value.pointer (some ⟨b,0,none⟩)])::bΩ) k=some h1->
  (aN (own::Ω) k=some o1/\aN (bo::bΩ) k=some h1)\/(k=(0,own.length)/\o1=.box zs/\h1=Value.pointer (some ⟨b,0,none⟩)):=by
  intro k o1 h1 e1 e2;rcases iV _ _ _ _ _ e1 with e1|⟨rfl,rfl⟩
  ·left;refine⟨e1,?_⟩;rcases iV _ _ _ _ _ e2 with e2|⟨rfl,rfl⟩
   ·exact e2
   ·rw[aJ,hlen] at e1;have:=(ai.1 e1).1;omega
  ·right;rw[<-hlen,bL] at e2;exact⟨rfl,rfl,(cD e2).symm⟩
 have hown:∀x,Own ((own++[Obj.box zs])::Ω) ((bo++[Value.pointer (some ⟨b,0,none⟩)])::bΩ) x->Own (own::Ω) (bo::bΩ) x\/x=b:=by
  rintro x ⟨k,o,h,e1,e2,e3⟩;rcases hinv k o h e1 e2 with⟨f1,f2⟩|⟨rfl,rfl,rfl⟩
  ·exact .inl ⟨k,o,h,f1,f2,e3⟩
  ·right;cases e3;rfl
 have hmono:∀k o h,aN (own::Ω) k=some o->aN (bo::bΩ) k=some h->eT w σ ((own::Ω).drop k.1) ((bo::bΩ).drop k.1) o h->eT w σ (((own++[Obj.box zs])::Ω).drop k.1) (((bo++[Value.pointer (some ⟨b,0,none⟩)])::bΩ).drop k.1) o h:=
  fun k o h _ _ hr=>hr.mono (dR.refl _ _) (hkeep.drop _) fun x _=>⟨rfl,rfl⟩
 refine⟨⟨?_,?_,⟨?_,?_⟩,hS.live,hS.qp⟩,hkeep,⟨hst.size,hst.os,hst.output,fun x hx hn=>hst.far x hx hn,hst.near,fun x hx=> ?_⟩⟩
 ·intro k o1 h1;rcases iV _ _ _ _ _ h1 with h1|⟨rfl,rfl⟩
  ·obtain⟨h2,tF,hr⟩:=hS.obj k o1 h1;exact⟨h2,gu _ _ _ _ _ tF,hmono k o1 h2 h1 tF hr⟩
  ·exact⟨Value.pointer (some ⟨b,0,none⟩),by rw[<-hlen,bL],b,c,ty,rfl,hb,hσ,hz _ _ _ _⟩
 ·intro k k' o1 o2 h1 h2 x e1 e2 e3 e4 e5 e6;rcases hinv k o1 h1 e1 e2 with⟨f1,f2⟩|⟨rfl,rfl,rfl⟩
  ·rcases hinv k' o2 h2 e4 e5 with⟨g1,g2⟩|⟨rfl,rfl,rfl⟩
   ·exact hS.apart _ _ _ _ _ _ _ f1 f2 e3 g1 g2 e6
   ·cases e6;exact absurd ⟨k,o1,h1,f1,f2,e3⟩ hno
  ·rcases hinv k' o2 h2 e4 e5 with⟨g1,g2⟩|⟨rfl,rfl,rfl⟩
   ·cases e3;exact absurd ⟨k',o2,h2,g1,g2,e6⟩ hno
   ·rfl
 ·have:=hS.shape.1;simpa using this
 ·intro l fr hl
  cases l with
  |zero=>simp at hl;subst hl;exact⟨_,rfl,by simp[hlen]⟩
  |succ l=>exact hS.shape.2 (l+1) fr (by simpa using hl)
 ·rcases hown x hx with h|h
  ·exact hst.own x h
  ·subst h;exact .inr h0
theorem MF{w:World}{σ:Nat->Nat}{β:Hs}{s:St}{a:Act}{o:Oper}{K:St->Prop}{Q:Exit->Act->World->Prop}(hd:∀d,o.dst=some d->d<N)(hR:iq N s a w σ β)(h:mY P E o s K):o.wp P a w (Then N s.st β σ w K) Q:=by
 rcases qD h with h|⟨x,y,t,u,k,h1,h2,_,h4⟩
 ·exact y9 hd hR h
 ·refine Av (fun r w' hr=> ?_) hd hR h2 h4;obtain⟨dst,op,ty,pos,after,guard⟩:=o;simp only at h1;subst h1;simp only at hr;simp[execOp,resolve,invoke,builtin,hr]
theorem EN{st:Nat->St}{vs:Nat->V}{p:Nat}{o:Oper}{d:Nat}{t:TypeId}(ht:jA P E R o (st p) (vs p) (st (p+1)))(hop:o.op=.alloc t)(hg:o.guard=none)(hd:o.dst=some d):
 ∃zs own Ω,gF P t=some zs/\(st p).st=own::Ω/\(st (p+1)).st=(own++[.box zs])::Ω/\vs p=.c (.ptr (0,own.length) 0):=by
 have hgd:gd R o (st p).tm=some true:=by unfold gd;rw[hg]
 rcases ht with⟨h1,_,_⟩|⟨_,hD,_,_⟩|⟨_,hD,hx,hs',_⟩
 ·rw[hgd] at h1;cases h1
 ·rw[(pq (E:=E) (o:=o) (by rw[hop];rfl)).1] at hD;cases hD
 ·obtain⟨dst,op,ty,pos,after,guard⟩:=o;simp only at hop hd;subst hop;subst hd;rw[tT rfl] at hx;unfold bO o7 at hx;simp only at hx
  cases hz:gF P t with
  |none=>rw[hz] at hx;exact hx.elim
  |some zs=>
   rw[hz] at hx
   generalize st (p+1)=s1 at *
   generalize st p=s0 at *
   obtain⟨tm,S⟩:=s0;simp only[newObj] at hx
   cases S with
   |nil=>exact hx.elim
   |cons own Ω=>
    subst hx;refine⟨zs,own,Ω,rfl,rfl,rfl,?_⟩;simp only[St.put,St.mk.injEq,eI,Prod.mk.injEq,and_true,true_and] at hs';exact hs'.symm
theorem mid_step{st:Nat->St}{vs:Nat->V}{β0:Hs}{σ0:Nat->Nat}{w0:World}{Q:Exit->Act->World->Prop}{p:Nat}(hok:Ig E R N st p)
 (hT:∀i,i<R.size->∃o,R[i]? =some o/\jA P E R o (st i) (vs i) (st (i+1))){listed:Array Bool}{a:Act}{w:World}(hM:Mid P N E R p st vs β0 σ0 w0 listed a w){i:Nat}(hi:i∈Region.ready .any R listed):
 wpOp P R Q i (fun a' w'=>Mid P N E R p st vs β0 σ0 w0 (listed.setIfInBounds i true) a' w') a w:=by
 obtain⟨hun,o,ho,Sg⟩:=mem_ready.1 hi;have hlt:i<R.size:=(aE.1 ho).1;obtain⟨o',ho',ht⟩:=hT i hlt;rw[ho] at ho';cases ho'
 have Gw:listed.getD i false=false:=by
  have hs:i<listed.size:=by rw[hM.size];exact hlt
  simp[hs] at hun ⊢;exact hun
 obtain⟨m,hm,hmD,σ,β,hsz,hdf,hS,hrT,hst,hkp,tH⟩:=hM.rep;have hdn:=hok.dst i o ho
 have hset:(listed.setIfInBounds i true).getD i false=true:=by
  have hs:i<listed.size:=by rw[hM.size];exact hlt
  simp[hs]
 have Pq:∀j,(listed.setIfInBounds i true).getD j false=true->j=i\/listed.getD j false=true:=by
  intro j hj;by_cases e:j=i
  ·exact .inl e
  ·rw[getD_set_ne false (Ne.symm e)] at hj;exact .inr hj
 have aco:∀j,(listed.setIfInBounds i true).getD j false=false->j≠i/\listed.getD j false=false:=by
  intro j hj;by_cases e:j=i
  ·subst e;rw[hset] at hj;cases hj
  ·rw[getD_set_ne false (Ne.symm e)] at hj;exact⟨e,hj⟩
 have Pt:∀j x k,R[j]? =some x->listed.getD j false=true->((masks R.toList []).getD j 0).testBit k=true->listed.getD k false=true:=fun j x k hx hE hb=>
  Ie (fun k=>listed.getD k false=true) hM.closed hok.edge j x hx (fun e he hb=>hM.closed j x e hx hE he hb) k hb
 have AO:∀k,((masks R.toList []).getD i 0).testBit k=true->listed.getD k false=true:=fun k hb=>
  Ie (fun k=>listed.getD k false=true) hM.closed hok.edge i o ho (fun e he hb=>Sg e he hb) k hb
 have aaE:j6 E R p listed->i≠p:=fun h e=>by have h1:=h.1;rw[<-e,Gw] at h1;cases h1
 have zh:∀j x e,R[j]? =some x->(listed.setIfInBounds i true).getD j false=true->e∈x.after->Region.binds .any e=true->(listed.setIfInBounds i true).getD e.on false=true:=by
  intro j x e hx hE he hb;by_cases hji:j=i
  ·subst hji;rw[ho] at hx;cases hx;exact getD_set_true (Sg e he hb)
  ·rw[getD_set_ne false (Ne.symm hji)] at hE;exact getD_set_true (hM.closed j x e hx hE he hb)
 by_cases hA2:i=p/\∃j x,j<p/\R[j]? =some x/\dV E x.op=true/\listed.getD j false=false
 ·
  obtain⟨rfl,j0,x0,hj0,hx0,hD0,hu0⟩:=hA2;obtain⟨hal,hgn,⟨d,hd⟩,_⟩:=hok.pend o ho
  obtain⟨ty,hop⟩:∃ty,o.op=.alloc ty:=by
   cases h:o.op<;>rw[h] at hal<;>first|exact⟨_,rfl⟩|cases hal
  obtain⟨zs,own,Ω,hzs,_,_,_⟩:=EN ht hop hgn hd;obtain⟨z,qC,hzc⟩:=Vz hzs
  have hnp:¬j6 E R i listed:=fun h=>by have h1:=h.1;rw[Gw] at h1;cases h1
  have hP':j6 E R i (listed.setIfInBounds i true):=⟨hset,hlt,j0,x0,hj0,hx0,hD0,by rw[getD_set_ne false (by omega)];exact hu0⟩
  have hmp:m<=i:=by
   have h1:=hmD j0 x0 hx0 hD0 (fun _=>hnp);rcases ew j0 m with h|h
   ·rw[h1.2 h] at hu0;cases hu0
   ·omega
  have hdi:eB R i=some d:=by simp[eB,ho,hd]
  have hg:=vS w σ hS.live z.cells ty 0;unfold wpOp;rw[ho]
  simp only
  rw[if_pos (by simp[Region.wanted,hgn])];left
  have hrun:(execOp a.eval o).run P w=.ok (.value (.pointer (some ⟨w.heap.size,0,none⟩))) {w with heap:=w.heap.push (.cells z.cells ty)}:=by
   have Ar:(newVar ty z).run P w=.ok ⟨w.heap.size,0,none⟩ {w with heap:=w.heap.push (.cells z.cells ty)}:=rfl;have qC:=qC w;clear hS hrT hst hkp tH hM hdn ht;obtain⟨dst,op,ty',pos,after,guard⟩:=o;simp only at hop;subst hop;simp[execOp,Instr.alloc,qC,Ar]
  unfold Oper.wp;rw[hrun];show Mid P N E R i st vs β0 σ0 w0 _ (a.put o.dst _) _;rw[hd]
  have hdN:d<a.tmps.size:=by rw[hsz];exact hdn d hd
  refine⟨by simpa using hM.size,zh,m,hm,fun j x hx mV hjp=> ?_,fun b=>if b=w.heap.size then 0 else σ b,β,by simp[Act.put,hsz],hdf,hS.grow hg,fun t=> ?_,hst.trans (Step.lu hg),hkp,fun _=>⟨hmp,fun d' hd'=> ?_⟩⟩
  ·have hji:j≠i:=fun e=>hjp e hP';rw[getD_set_ne false (Ne.symm hji)];exact hmD j x hx mV fun _=>hnp
  ·unfold oQ;by_cases e:t=d
   ·subst e;rw[if_pos ⟨hP',hdi⟩];exact trivial
   ·rw[if_neg (fun h=>e (by rw[hdi] at h;exact(cD h.2).symm))]
    rw[uE (E':=fun i=>listed.getD i false) R.size (fun j hj hdj=>by
     have hji:j≠i:=fun x=>by rw[x,hdi] at hdj;exact e (cD hdj).symm
     exact getD_set_ne false (Ne.symm hji))]
    have h1:=hrT t;unfold oQ at h1;rw[if_neg (fun h=>hnp h.1)] at h1;rw[AL (by intro x;exact e (cD x).symm)];exact h1.mono hg.near (Keep.refl _ _)
  ·rw[hdi] at hd';cases hd';refine⟨w.heap.size,z.cells,ty,by simp[Act.put,Array.getD,hdN],by simp,by simp,hst.size,fun h=> ?_,fun o2 t2 zs2 h1 h2 h3=> ?_⟩
   ·have:=hS.yA h;omega
   ·rw[ho] at h1;cases h1;rw[hop] at h2;cases h2;rw[hzs] at h3;cases h3;exact hzc
 have hA:i=p->∀j x,j<p->R[j]? =some x->dV E x.op=true->listed.getD j false=true:=fun e j x hj hx hD=>by
  cases hl:listed.getD j false with
  |true=>rfl
  |false=>exact absurd ⟨e,j,x,hj,hx,hD,hl⟩ hA2
 have hPP:j6 E R p (listed.setIfInBounds i true)->j6 E R p listed:=by
  rintro⟨h1,h2,j,x,hj,hx,hD,hl⟩;obtain⟨hji,hl⟩:=aco j hl;rcases Pq p h1 with e|h
  ·rw[hA e.symm j x hj hx hD] at hl;cases hl
  ·exact⟨h,h2,j,x,hj,hx,hD,hl⟩
 have hap:j6 E R p listed->∀po d,R[p]? =some po->po.dst=some d->o.dst≠some d/\d∉o.looksAt R:=by
  rintro hP po d hpo tH;have Si:=hP;obtain⟨_,_,j0,x0,hj0,hx0,hD0,hu0⟩:=Si
  have:o.apart R po=true:=by
   cases hc:o.apart R po with
   |true=>rfl
   |false=>
    have:=(hok.pend po hpo).2.2.2 i o (aaE hP) ho hc j0 x0 hj0 hx0 hD0;rw[AO j0 this.2] at hu0;cases hu0
  obtain⟨q1,q2,q3⟩:=Oper.apart_spec this;exact⟨fun e=>q2 d e tH,q3 d tH⟩
 have Ih:j6 E R p listed->dV E o.op=true->i<p:=by
  rintro hP hD;have Si:=hP;obtain⟨_,hpl,j0,x0,hj0,hx0,hD0,hu0⟩:=Si;have hne:=aaE hP;rcases ew i p with h|h
  ·exact h
  ·exfalso;rcases hok.pair j0 i x0 o (by omega) hx0 ho (by simp[jK,hD,hD0]) with hb|⟨e,_⟩
   ·rw[AO j0 hb] at hu0;cases hu0
   ·exact hne e
 have hbit:∀j x,R[j]? =some x->j≠i->nL R j i=true->(listed.getD j false=true<->j<i):=by
  intro j x hx hne hc;unfold nL at hc;constructor
  ·intro hE;rcases ew j i with h|h
   ·exact h
   ·exfalso;rw[if_neg (by omega)] at hc;have:=Pt j x i hx hE hc;rw[Gw] at this;cases this
  ·intro hji;rw[if_pos hji] at hc;exact AO j hc
 have hdone:∀j x,R[j]? =some x->j≠i->(j=p->¬j6 E R p listed)->jK E R x o=true->(listed.getD j false=true<->j<i):=by
  intro j x hx hne hjp hc;by_cases e:j<i
  ·rcases hok.pair j i x o e hx ho hc with hb|⟨e1,hD,_⟩
   ·exact hbit j x hx hne (by unfold nL;rw[if_pos e];exact hb)
   ·exact⟨fun _=>e,fun _=>hA e1 j x (by omega) hx hD⟩
  ·rcases hok.pair i j o x (by omega) ho hx (by rw[ME];exact hc) with hb|⟨e1,hD,_⟩
   ·exact hbit j x hx hne (by unfold nL;rw[if_neg e];exact hb)
   ·refine⟨fun h=>absurd ⟨e1▸h,?_,i,o,by omega,ho,hD,Gw⟩ (hjp e1),fun h=>absurd h e⟩;rw[<-e1];exact(aE.1 hx).1
 obtain⟨KD,KE⟩:∃KD:List (Nat×V),∀t,look KD t=iW R vs (fun i=>listed.getD i false) (st 0).tm R.size t:=by
  have:∀n,∃ni:List (Nat×V),∀t,look ni t=iW R vs (fun i=>listed.getD i false) (st 0).tm n t:=by
   intro n
   induction n with
   |zero=>exact⟨(st 0).tm,fun t=>rfl⟩
   |succ n ih=>
    obtain⟨tm,h⟩:=ih;by_cases hE:listed.getD n false=true
    ·cases hd:eB R n with
     |none=>exact⟨tm,fun t=>by rw[iW,if_neg (fun x=>by rw[hd] at x;cases x.2)];exact h t⟩
     |some d=>
      refine⟨(n |> vs |> fun v=>(d,v))::tm,fun t=> ?_⟩;rw[iW,look,hd,h t];by_cases e:d=t
      ·rw[if_pos e,if_pos ⟨hE,by rw[e]⟩]
      ·rw[if_neg e,if_neg (fun x=>e (cD x.2))]
    ·exact⟨tm,fun t=>by rw[iW,if_neg (fun x=>hE x.1)];exact h t⟩
  exact this R.size
 obtain⟨ni,VB⟩:∃ni:List (Nat×V),∀t,look ni t=oQ E R p vs listed (st 0).tm t:=by
  by_cases hP:j6 E R p listed
  ·cases hd:eB R p with
   |none=>exact⟨KD,fun t=>by unfold oQ;rw[if_neg (fun h=>by rw[hd] at h;cases h.2)];exact KE t⟩
   |some d=>
    refine⟨(d,.any)::KD,fun t=> ?_⟩;unfold oQ;rw[look,hd];by_cases e:d=t
    ·rw[if_pos e,if_pos ⟨hP,by rw[e]⟩]
    ·rw[if_neg e,if_neg (fun x=>e (cD x.2))];exact KE t
  ·exact⟨KD,fun t=>by unfold oQ;rw[if_neg (fun h=>hP h.1)];exact KE t⟩
 have hPd:∀t,j6 E R p listed->eB R p=some t->∃po,R[p]? =some po/\po.dst=some t:=by
  intro t _ h;unfold eB at h
  cases hpo:R[p]? with
  |none=>rw[hpo] at h;cases h
  |some po=>rw[hpo] at h;exact⟨po,rfl,h⟩
 have Yt:∀t∈o.looksAt R,look ni t=look (st i).tm t:=by
  intro t htl;rw[VB];unfold oQ
  rw[if_neg (fun h=>by
   obtain⟨po,h1,h2⟩:=hPd t h.1 h.2
   exact(hap h.1 po t h1 h2).2 htl),uW hT t i (by omega)]
  have:=yj (R:=R) (vs:=vs) (E:=fun i=>listed.getD i false) (base:=(st 0).tm) (t:=t) (i:=i) R.size (fun j hj hd=>by
   by_cases e:j=i
   ·subst e;rw[Gw];simp
   ·obtain⟨x,hx⟩:∃x,R[j]? =some x:=⟨_,cb hj⟩
    have hxd:x.dst=some t:=by simpa [eB,hx] using hd
    refine hdone j x hx e (fun e2 hP=> ?_) ?_
    ·subst e2;exact(hap hP x t hx hxd).2 htl
    ·have:x.apart R o=false:=by
      cases hap:x.apart R o with
      |false=>rfl
      |true=>exact absurd htl ((Oper.apart_spec hap).1 t hxd)
     simp[jK,this])
  rw[this,show min R.size i=i from by omega]
 have hR:iq N ⟨ni,(st m).st⟩ a w σ β:=⟨hsz,hdf,hS,fun t=>by show cu w σ (st m).st β (look ni t) _;rw[VB];exact hrT t⟩
 have hev:∀x∈o.op.operands,ev (st i).tm x=ev ni x:=by
  intro x hx
  cases x with
  |tmp t=>show look _ t=look _ t;rw[Yt t (Ja hx rfl)]
  |_=>rfl
 have hgd:gd R o ni=gd R o (st i).tm:=by
  unfold gd
  cases hg:o.guard with
  |none=>rfl
  |some gw=>
   obtain⟨g,want⟩:=gw
   simp only
   cases hd:eB R g with
   |none=>rfl
   |some d=>
    simp only[cL];rw[Yt d (MB hg hd)]
 have adK:∀(S':Store)(t:Nat),iW R vs (fun i_1=>(listed.setIfInBounds i true).getD i_1 false) (st 0).tm R.size t=look (St.put ⟨KD,S'⟩ o.dst (vs i)).tm t:=by
  intro S' t;by_cases hd:o.dst=some t
  ·have hdi:eB R i=some t:=by simp[eB,ho,hd]
   rw[zf (E:=fun i_1=>(listed.setIfInBounds i true).getD i_1 false) hset hdi R.size hlt (fun j hj hij hdj=>by
    obtain⟨x,hx⟩:∃x,R[j]? =some x:=⟨_,cb hj⟩
    have hxd:x.dst=some t:=by simpa [eB,hx] using hdj
    have VD:x.apart R o=false:=by
     cases hap:x.apart R o with
     |false=>rfl
     |true=>exact absurd hd ((Oper.apart_spec hap).2.1 t hxd)
    have:=hdone j x hx (by omega) (fun e hP=>by
     subst e
     exact(hap hP x t hx hxd).1 hd) (by simp[jK,VD])
    rw[getD_set_ne false (by omega)]
    cases hE:listed.getD j false with
    |false=>rfl
    |true=>exact absurd (this.1 hE) (by omega))]
   rw[hd];simp[St.put,look]
  ·have hdi:eB R i≠some t:=by simp only[eB,ho,dp];exact hd
   rw[uE (E':=fun i=>listed.getD i false) R.size (fun j hj hdj=>by
    have hji:j≠i:=fun e=>hdi (e▸hdj)
    exact getD_set_ne false (Ne.symm hji)),<-KE t]
   cases hdd:o.dst with
   |none=>rfl
   |some d=>
    have hne:d≠t:=fun e=>hd (by rw[hdd,e]);simp[St.put,look,hne]
 have VE:∀(S':Store)(t:Nat),¬(j6 E R p listed/\eB R p=some t)->look (St.put ⟨ni,S'⟩ o.dst (vs i)).tm t=iW R vs (fun i_1=>(listed.setIfInBounds i true).getD i_1 false) (st 0).tm R.size t:=by
  intro S' t hn;rw[adK S' t]
  have h1:look ni t=look KD t:=by rw[VB,KE];unfold oQ;rw[if_neg hn]
  cases hdd:o.dst with
  |none=>exact h1
  |some d=>simp only[St.put,look,h1]
 have fin:∀(m':Nat)(a':Act)(w':World)(σ':Nat->Nat)(β':Hs),m'<=R.size->(∀j x,R[j]? =some x->dV E x.op=true->(j=p->¬j6 E R p listed)->((listed.setIfInBounds i true).getD j false=true<->j<m'))->
  (j6 E R p listed->m'<=p)->(∀d,o.dst≠some d->a'.tmps.getD d undef=a.tmps.getD d undef)->
  iq N (St.put ⟨ni,(st m').st⟩ o.dst (vs i)) a' w' σ' β'->Step (st m).st β σ w (st m').st β' σ' w'->Keep (st m).st β (st m').st β'->Mid P N E R p st vs β0 σ0 w0 (listed.setIfInBounds i true) a' w':=by
  intro m' a' w' σ' β' hm' hD' hmp ha' hR' hst' tO;have hS':=hR'.S;have hT':=hR'.T;rw[iC] at hS' hT';by_cases hP:j6 E R p listed
  ·obtain⟨_,hraw⟩:=tH hP;have Si:=hP;obtain⟨hp1,hp2,j0,x0,hj0,hx0,hD0,hu0⟩:=Si;obtain⟨po,hpo⟩:∃po,R[p]? =some po:=⟨_,cb hp2⟩;obtain⟨hal,hgn,⟨d,hd⟩,acp⟩:=hok.pend po hpo
   have hdp:eB R p=some d:=by simp[eB,hpo,hd]
   have hod:=hap hP po d hpo hd;have hraw:=hraw d hdp;obtain⟨b,c,ty',hv,hb,hσ,h0,hno,hzc⟩:=hraw;have hbl:b<w.heap.size:=lt_of_some hb
   have hb':w'.heap[b]? =some (.cells c ty' (0,0)):=by rw[(hst'.far b hbl hno).1];exact hb
   have hσ':σ' b=0:=by rw[(hst'.far b hbl hno).2];exact hσ
   have hno':¬Own (st m').st β' b:=fun h=>(hst'.own b h).elim hno (fun h=>by omega);have hv':a'.tmps.getD d undef=.pointer (some ⟨b,0,none⟩):=(ha' d hod.1).trans hv;have acr:Raw P R p w0 w' σ' (st m').st β' (a'.tmps.getD d undef):=⟨b,c,ty',hv',hb',hσ',h0,hno',hzc⟩;by_cases hP':j6 E R p (listed.setIfInBounds i true)
   ·refine⟨by simpa using hM.size,zh,m',hm',fun j x hx mV hjp=>hD' j x hx mV (fun e=>absurd hP' (hjp e)),σ',β',hR'.size,hR'.defers,hS',fun t=> ?_,hst.trans hst',hkp.trans tO,fun _=>⟨hmp hP,fun d' hd'=>by rw[hdp] at hd';cases hd';exact acr⟩⟩;unfold oQ;by_cases e:eB R p=some t
    ·rw[if_pos ⟨hP',e⟩];exact trivial
    ·rw[if_neg (fun h=>e h.2),<-VE (st m').st t (fun h=>e h.2)];exact hT' t
   ·
    have hpl:(listed.setIfInBounds i true).getD p false=true:=getD_set_true hp1
    have hall:∀j x,j<p->R[j]? =some x->dV E x.op=true->(listed.setIfInBounds i true).getD j false=true:=fun j x hj hx hD=>by
     cases hl:(listed.setIfInBounds i true).getD j false with
     |true=>rfl
     |false=>exact absurd ⟨hpl,hp2,j,x,hj,hx,hD,hl⟩ hP'
    have aaF:∀j x,p<j->R[j]? =some x->dV E x.op=true->(listed.setIfInBounds i true).getD j false=false:=fun j x hj hx hD=>by
     cases hl:(listed.setIfInBounds i true).getD j false with
     |false=>rfl
     |true=>
      exfalso;rcases hok.pair j0 j x0 x (by omega) hx0 hx (by simp[jK,hD,hD0]) with hbt|⟨e,_⟩
      ·rcases Pq j hl with e|hl
       ·subst e;rw[AO j0 hbt] at hu0;cases hu0
       ·rw[Pt j x j0 hx hl hbt] at hu0;cases hu0
      ·omega
    have afL:=hmp hP
    have hsm:(st p).st=(st m').st:=by
     have:=yK hT (i:=m') (p-m') (by omega) (fun j x h1 h2 h3=>by
      cases mV:dV E x.op with
      |false=>rfl
      |true=>
       have:=(hD' j x h3 mV (fun e=>by omega)).1 (hall j x (by omega) h3 mV)
       omega)
     rwa [show m'+(p-m')=p from by omega] at this
    obtain⟨po',aaG,htp⟩:=hT p hp2;rw[hpo] at aaG;cases aaG
    obtain⟨ty,hop⟩:∃ty,po.op=.alloc ty:=by
     cases h:po.op<;>rw[h] at hal<;>first|exact⟨_,rfl⟩|cases hal
    obtain⟨zs,own,Ω,hzs,hs0,hs1,hvp⟩:=EN htp hop hgn hd;rw[hsm] at hs0;have sD:=hst.trans hst';have aaH:=hkp.trans tO;rw[hs0] at hS' hT' sD aaH hno';obtain⟨bo,bΩ,rfl,hlen,q1,q2,q3⟩:=VA hS' sD hb' hσ' h0 hno' (hzc po ty zs hpo hop hzs);rw[<-hs1] at q1 q2 q3;refine⟨by simpa using hM.size,zh,p+1,by omega,fun j x hx mV _=> ?_,σ',_,hR'.size,hR'.defers,q1,fun t=> ?_,q3,aaH.trans q2,fun h=>absurd h hP'⟩
    ·rcases Nat.lt_trichotomy j p with h|h|h
     ·exact⟨fun _=>by omega,fun _=>hall j x h hx mV⟩
     ·subst h;exact⟨fun _=>by omega,fun _=>hpl⟩
     ·rw[aaF j x h hx mV];exact⟨fun h=>(by cases h),fun h=>by omega⟩
    ·unfold oQ;rw[if_neg (fun h=>hP' h.1)];by_cases e:t=d
     ·subst e
      rw[zf (E:=fun i_1=>(listed.setIfInBounds i true).getD i_1 false) hpl hdp R.size hp2 (fun j hj hpj hdj=>by
       obtain⟨x,hx⟩:∃x,R[j]? =some x:=⟨_,cb hj⟩
       have hxd:x.dst=some t:=by simpa [eB,hx] using hdj
       have VD:x.apart R po=false:=by
        cases hap:x.apart R po with
        |false=>rfl
        |true=>exact absurd hd ((Oper.apart_spec hap).2.1 t hxd)
       have hbt:=acp j x (by omega) hx VD j0 x0 hj0 hx0 hD0
       cases hl:(listed.setIfInBounds i true).getD j false with
       |false=>rfl
       |true=>
        exfalso;rcases Pq j hl with e|hl
        ·subst e;rw[AO j0 hbt.2] at hu0;cases hu0
        ·rw[Pt j x j0 hx hl hbt.2] at hu0;cases hu0),hvp,hv',hs1]
      exact NW hlen
     ·rw[<-VE (st m').st t (fun h=>e (by rw[hdp] at h;exact(cD h.2).symm))];have h1:=hT' t;rw[hs0];exact h1.mono (dR.refl _ _) q2
  ·have hP':¬j6 E R p (listed.setIfInBounds i true):=fun h=>hP (hPP h);refine⟨by simpa using hM.size,zh,m',hm',fun j x hx mV _=>hD' j x hx mV (fun _=>hP),σ',β',hR'.size,hR'.defers,hS',fun t=> ?_,hst.trans hst',hkp.trans tO,fun h=>absurd h hP'⟩;unfold oQ;rw[if_neg (fun h=>hP' h.1),<-VE (st m').st t (fun h=>hP h.1)];exact hT' t
 have keepD:dV E o.op=false->∀j x,R[j]? =some x->dV E x.op=true->(j=p->¬j6 E R p listed)->((listed.setIfInBounds i true).getD j false=true<->j<m):=by
  intro hD j x hx mV hjp
  have hji:j≠i:=fun e=>by rw[e,ho] at hx;cases hx;rw[hD] at mV;cases mV
  rw[getD_set_ne false (Ne.symm hji)];exact hmD j x hx mV hjp
 have hmP:j6 E R p listed->m<=p:=fun h=>(tH h).1
 have quiet:∀(w':World)(σ':Nat->Nat)(v:Value),dV E o.op=false->Grow w σ w' σ'->cu w' σ' (st m).st β (vs i) v->Mid P N E R p st vs β0 σ0 w0 (listed.setIfInBounds i true) (a.put o.dst v) w':=by
  intro w' σ' v hD hg hv;exact fin m _ w' σ' β hm (keepD hD) hmP (fun d hd=>AL hd) (wB hdn hsz hdf (hS.grow hg) (hR.T.mono hg.near (Keep.refl _ _)) hv) (Step.lu hg) (Keep.refl _ _)
 have hDs:dV E o.op=true->∀j x,R[j]? =some x->dV E x.op=true->(j=p->¬j6 E R p listed)->(listed.getD j false=true<->j<i):=by
  intro hD j x hx mV hjp;by_cases e:j=i
  ·subst e;rw[Gw];simp
  ·exact hdone j x hx e hjp (by simp[jK,hD,mV])
 have hsame:dV E o.op=true->(st m).st=(st i).st:=by
  intro hD
  have hno:∀j x,R[j]? =some x->(i<=j/\j<m\/m<=j/\j<i)->dV E x.op=false:=by
   intro j x hx hj
   cases mV:dV E x.op with
   |false=>rfl
   |true=>
    have hjp:j=p->¬j6 E R p listed:=fun e hP=>by
     have:=Ih hP hD;have:=hmP hP;omega
    have h1:=hDs hD j x hx mV hjp;have h2:=hmD j x hx mV hjp;rcases hj with hj|hj
    ·have:=h1.1 (h2.2 hj.2);omega
    ·have:=h2.1 (h1.2 hj.2);omega
  rcases Nat.le_total i m with h|h
  ·have:=yK hT (i:=i) (m-i) (by omega) (fun j x h1 h2 h3=>hno j x h3 (.inl ⟨h1,by omega⟩))
   rwa [show i+(m-i)=m from by omega] at this
  ·have:=yK hT (i:=m) (i-m) (by omega) (fun j x h1 h2 h3=>hno j x h3 (.inr ⟨h1,by omega⟩));rw[show m+(i-m)=i from by omega] at this;exact this.symm
 have Sj:dV E o.op=true->∀j x,R[j]? =some x->dV E x.op=true->(j=p->¬j6 E R p listed)->((listed.setIfInBounds i true).getD j false=true<->j<i+1):=by
  intro hD j x hx mV hjp;by_cases e:j=i
  ·subst e;rw[hset];simp
  ·rw[getD_set_ne false (Ne.symm e),hDs hD j x hx mV hjp];omega
 have hiP:dV E o.op=true->j6 E R p listed->i+1<=p:=fun hD hP=>Ih hP hD;unfold wpOp;rw[ho]
 simp only
 have hRR:iq N ⟨ni,(st m).st⟩ a w σ β:=hR;rcases ht with⟨hg,hv,hs'⟩|⟨hg,hD,hv,hs'⟩|⟨hg,hD,hx,hs',_⟩
 ·
  have hw:Region.wanted o (yielded R a.tmps)=false:=by
   rw[<-hgd] at hg;unfold gd at hg;split at hg
   ·cases hg
   ·rename_i j want hgu;split at hg
    ·rename_i x hx;have hy:=wP (s:=⟨ni,(st m).st⟩) hRR hx
     have hne:x≠want:=by
      intro e;rw[e] at hg;simp at hg
     simp[Region.wanted,hgu,hy,hne]
    ·rename_i hx;have hy:=zU (s:=⟨ni,(st m).st⟩) hRR hx;simp[Region.wanted,hgu,hy]
    ·cases hg
  rw[if_neg (by rw[hw];simp)]
  have hvu:cu w σ (st m).st β (vs i) undef:=by rw[hv];exact qX
  by_cases hD:dV E o.op=true
  ·have hsm:=hsame hD
   have hs1:(st (i+1)).st=(st m).st:=by rw[hsm,hs'];cases o.dst<;>rfl
   refine fin (i+1) _ w σ β hlt (Sj hD) (hiP hD) (fun d hd=>AL hd) (by rw[hs1];exact wB hdn hsz hdf hS hR.T hvu) (by rw[hs1];exact Step.lu (Grow.refl hS.live)) (by rw[hs1];exact Keep.refl _ _)
  ·exact quiet w σ undef (by simpa using hD) (Grow.refl hS.live) hvu
 all_goals
  have hw:Region.wanted o (yielded R a.tmps)=true:=by
   rw[<-hgd] at hg;unfold gd at hg;split at hg
   ·rename_i hgu;simp[Region.wanted,hgu]
   ·rename_i j want hgu;split at hg
    ·rename_i x hx;have hy:=wP (s:=⟨ni,(st m).st⟩) hRR hx;simp at hg;simp[Region.wanted,hgu,hy,hg]
    ·cases hg
    ·cases hg
  rw[if_pos hw];left
 ·
  rcases hv with⟨c,hc,hcn⟩|⟨hcond,hval⟩
  ·have hcn':=Vr (tm':=ni) (fun x hx=>hev x (by rw[hc];exact hx)) hcn;unfold ze at hcn';split at hcn'
   ·rename_i x hcx;split at hcn'
    ·rename_i f caps hex
     have hcall:jy P c ⟨ni,(st m).st⟩ o.dst (fun t=>t=St.put ⟨ni,(st m).st⟩ o.dst (vs i)):=by
      unfold jy;rw[hcx];simp only[hex];exact .inl ⟨_,hcn' (st m).st,fun r S' hp=>by rw[hp.1,hp.2]⟩
     refine Oper.wp_mono ?_ (Oper.Sd (EH (Q:=Q) hc hdn hRR hcall));rintro a' w' ⟨⟨s'',σ',β',hR',hst',tO,hK⟩,ha'⟩;subst hK;rw[iC] at hst' tO;exact fin m a' w' σ' β' hm (keepD hD) hmP ha' hR' hst' tO
    ·exact hcn'.elim
   ·exact hcn'.elim
  ·have hcv:gJ o.op=false:=by
    cases hc:gJ o.op with
    |false=>rfl
    |true=>
     exfalso;unfold gJ at hc;split at hc
     ·rename_i x b c hop;rw[hop] at hcond;exact fG hcond
     ·cases hc
   have Yu:∀k,refs (st i).tm o k->∀j x,R[j]? =some x->(i<=j/\j<m\/m<=j/\j<i)->iZ E x.op=false\/KS k (st j).st (st (j+1)).st:=by
    intro k hk j x hx hj
    cases hs:iZ E x.op with
    |false=>exact .inl rfl
    |true=>
     have mV:dV E x.op=true:=R7 hs
     have hji:j≠i:=fun e=>by rw[e,ho] at hx;cases hx;rw[hD] at mV;cases mV
     rcases hok.store j i x o hji hx ho hs hD hcv with hb|hb
     ·have h1:=hbit j x hx hji hb
      have h2:=hmD j x hx mV (fun e=>by
       subst e;have:=(pq (E:=E) (hok.pend x hx).1).2.1
       rw[hs] at this;cases this)
      rcases hj with hj|hj
      ·have:=h1.1 (h2.2 hj.2);omega
      ·have:=h2.1 (h1.2 hj.2);omega
     ·exact .inr (hb k hk)
   have e1:=Y1 (P:=P) (S:=(st i).st) (tm:=(st i).tm) (tm':=ni) (op:=o.op) hev;rw[e1] at hcond hval
   have e2:jY P (lI (st i).st) (st m).st ni o.op=jY P (lI (st i).st) (st i).st ni o.op:=by
    cases hmv:Pp o.op with
    |true=>exact Vy hmv
    |false=>
     exact Vs (P:=P) (l:=lI (st i).st) (S:=(st i).st) (S':=(st m).st) (tm:=ni) (op:=o.op) hcond (by
     intro x hx k hk ob Km hbr;have hrf:refs (st i).tm o k:=⟨hmv,x,hx,by rw[hev x hx];exact hk⟩;rcases Nat.le_total i m with h|h
     ·have hds:=Pn hT (i:=i) (k:=k) (m-i) (by omega) (fun j x h1 h2 h3=>Yu k hrf j x h3 (.inl ⟨h1,by omega⟩));rw[show i+(m-i)=m from by omega] at hds;rcases hds ob Km with h'|⟨⟨z,es,e⟩,_⟩
      ·exact h'
      ·rcases e with e|⟨_,e⟩<;>rw[e] at hbr<;>exact hbr.elim
     ·have hds:=Pn hT (i:=m) (k:=k) (i-m) (by omega) (fun j x h1 h2 h3=>Yu k hrf j x h3 (.inr ⟨h1,by omega⟩));rw[show m+(i-m)=i from by omega] at hds;have hrx:=gV (a:=a) hR.T x
      have hin:∃o',aN (st m).st k=some o':=by
       rcases hk with⟨off,e⟩|⟨i',off,e⟩|e|e|⟨r',p',e⟩|⟨r',p',z',i',off,e⟩<;>rw[show ev (⟨ni,(st m).st⟩:St).tm x=ev ni x from rfl,e] at hrx<;>obtain⟨⟨o',ho',_⟩,_⟩:=hrx<;>exact⟨o',ho'⟩
      obtain⟨o',ho'⟩:=hin;rcases hds o' ho' with h'|⟨_,o2,z,es,h',e⟩
      ·rw[Km] at h';cases h';exact ho'
      ·rw[Km] at h';cases h'
       rcases e with e|⟨_,e⟩<;>rw[e] at hbr<;>exact hbr.elim)
   have aaJ:(jY P (lI (st i).st) (st m).st ni o.op).1:=by rw[e2];exact hcond
   have hval':vs i=(jY P (lI (st i).st) (st m).st ni o.op).2:=by rw[e2];exact hval
   obtain⟨v,w',σ',hrun,hgr,Yo⟩:=CG (P:=P) _ o hS hR.T aaJ;unfold Oper.wp;rw[hrun];exact quiet w' σ' v hD hgr (by rw[hval'];exact Yo)
 ·have hsm:=hsame hD
  have hx':mY P E o ⟨(st i).tm,(st i).st⟩ (fun t=>t=St.put ⟨(st i).tm,(st (i+1)).st⟩ o.dst (vs i)):=by
   rw[hs'] at hx;exact hx
  have hx2:=Vq hD hev hx';rw[<-hsm] at hx2;refine Oper.wp_mono ?_ (Oper.Sd (MF (Q:=Q) hdn hRR hx2));rintro a' w' ⟨⟨s'',σ',β',hR',hst',tO,hK⟩,ha'⟩;subst hK;rw[iC] at hst' tO;exact fin (i+1) a' w' σ' β' hlt (Sj hD) (hiP hD) ha' hR' hst' tO
theorem Y6{st:Nat->St}{vs:Nat->V}{β0:Hs}{σ0:Nat->Nat}{w0:World}{Q:Exit->Act->World->Prop}{p:Nat}(hok:Ig E R N st p)
 (hT:∀i,i<R.size->∃o,R[i]? =some o/\jA P E R o (st i) (vs i) (st (i+1)))(hQ:∀listed a w,Mid P N E R p st vs β0 σ0 w0 listed a w->(∀i,i<R.size->listed.getD i false=true)->Q .normal a w):
 ∀(fuel:Nat)(listed:Array Bool)(a:Act)(w:World),(List.range R.size).countP (fun i=> !listed.getD i false)<=fuel->Mid P N E R p st vs β0 σ0 w0 listed a w->wpAny P .any R Q fuel listed a w:=by
 have hend:∀listed a w,Mid P N E R p st vs β0 σ0 w0 listed a w->Region.ready .any R listed=[]->Q .normal a w:=by
  intro listed a w hM hr;refine hQ listed a w hM ?_;intro i
  induction i using Nat.strongRecOn with
  |_ i ih=>
   intro hi
   cases hE:listed.getD i false with
   |true=>rfl
   |false=>
    exfalso;have ho:R[i]? =some R[i]:=cb hi
    have:i∈Region.ready .any R listed:=by
     rw[mem_ready]
     have hs:i<listed.size:=by rw[hM.size];exact hi
     refine⟨by simp[hs] at hE ⊢;exact hE,_,ho,fun e he hb=> ?_⟩;have hon:=hok.edge i _ e ho he hb;exact ih e.on hon (by omega)
    rw[hr] at this;simp at this
 intro fuel
 induction fuel with
 |zero=>
  intro listed a w hc hM
  have hnone:Region.ready .any R listed=[]:=by
   cases hr:Region.ready .any R listed with
   |nil=>rfl
   |cons i l=>
    exfalso
    have hi:i∈Region.ready .any R listed:=by rw[hr];simp
    obtain⟨hun,o,ho,_⟩:=mem_ready.1 hi;have hlt:=(aE.1 ho).1
    have hs:i<listed.size:=by rw[hM.size];exact hlt
    have hz:(List.range R.size).countP (fun i=> !listed.getD i false)=0:=by omega
    rw[List.countP_eq_zero] at hz;have:=hz i (cd.2 hlt);simp[hs] at hun this;rw[hun] at this;cases this
  exact⟨hnone,hend listed a w hM hnone⟩
 |succ fuel ih=>
  intro listed a w hc hM;refine⟨hend listed a w hM,fun i hi=> ?_⟩;refine wpOp_mono (fun a' w' hM'=>ih _ a' w' ?_ hM') (mid_step hok hT hM hi);obtain⟨hun,o,ho,_⟩:=mem_ready.1 hi;have hlt:=(aE.1 ho).1
  have hs:i<listed.size:=by rw[hM.size];exact hlt
  have:=cnt_lt (fun j=> !listed.getD j false) (fun j=> !(listed.setIfInBounds i true).getD j false) (List.range R.size) i (fun x hx=>by
   by_cases e:x=i
   ·subst e;simp[hs] at hx
   ·rw[getD_set_ne false (Ne.symm e)] at hx;exact hx) (cd.2 hlt) (by simp[hs] at hun ⊢;exact hun) (by simp[hs])
  omega
theorem zi{id:Nat}{Q:Exit->St->Prop}{s:St}(fK:P.follows .mixedOrders=true){st:Nat->St}{vs:Nat->V}(h0:st 0=s)(hK:Q .normal (st R.size))
 (hT':∀i,i<R.size->∃o,R[i]? =some o/\jA P E R o (st i) (vs i) (st (i+1))){p:Nat}(hok:Ig E R N st p):AW P N (.region id R true) Q s:=by
 intro a w σ β hR;refine wp_region_any fK ?_;have hgd:Grow w σ {w with drawn:=w.drawn+1} σ:=⟨aw _,rfl,rfl,fun _ _=>⟨rfl,rfl⟩,hR.S.live⟩;refine Y6 (N:=N) (β0:=β) (σ0:=σ) (w0:=w) hok hT' (fun listed a' w' hM hall=> ?_) R.size _ a _ ?_ ?_
 ·obtain⟨m,hm,hmD,σ',β',hsz,hdf,hS,hT2,hst,hkp,_⟩:=hM.rep
  have hnP:¬j6 E R p listed:=by
   rintro⟨_,_,j,x,hj,hx,_,hl⟩;rw[hall j (aE.1 hx).1] at hl;cases hl
  have hsm:(st R.size).st=(st m).st:=by
   have:=yK hT' (i:=m) (R.size-m) (by omega) (fun j x h1 h2 h3=>by
    cases mV:dV E x.op with
    |false=>rfl
    |true=>have:=(hmD j x h3 mV (fun _=>hnP)).1 (hall j (aE.1 h3).1);omega)
   rwa [show m+(R.size-m)=R.size from by omega] at this
  rw[h0] at hst hkp;refine⟨st R.size,σ',β',⟨hsz,hdf,by rw[hsm];exact hS,fun t=> ?_⟩,by rw[hsm];exact hst,by rw[hsm];exact hkp.tail,hK⟩;rw[uW hT' t R.size (aw _),hsm];have:=hT2 t;unfold oQ at this;rw[if_neg (fun h=>hnP h.1)] at this;rw[uE (E':=fun _=>true) R.size (fun j hj _=>hall j hj)] at this;exact this
 ·calc (List.range R.size).countP _<=(List.range R.size).length:=List.countP_le_length
   _=R.size:=List.length_range
 ·refine⟨by simp,fun i o e ho hE _ _=> ?_,0,ao _,fun i o ho _=> ?_,σ,β,hR.size,hR.defers,by rw[h0];exact hR.S.grow hgd,fun t=> ?_,by rw[h0];exact Step.lu hgd,Keep.refl _ _,fun h=>by have h1:=h.1;rw[getD_replicate_false] at h1;cases h1⟩
  ·rw[getD_replicate_false] at hE;cases hE
  ·rw[getD_replicate_false];simp
  ·have:iW R vs (fun i=>(Array.replicate R.size false).getD i false) (st 0).tm R.size t=look (st 0).tm t:=by
    have:=yj (R:=R) (vs:=vs) (E:=fun i=>(Array.replicate R.size false).getD i false) (base:=(st 0).tm) (t:=t) (i:=0) R.size (fun j _ _=>by rw[getD_replicate_false];simp);rw[this,Nat.min_zero];rfl
   unfold oQ;rw[if_neg (fun h=>by have h1:=h.1.1;rw[getD_replicate_false] at h1;cases h1),this,h0];exact(hR.T t).mono hgd.near (Keep.refl _ _)
theorem Y7{id:Nat}{Q:Exit->St->Prop}{s:St}(fK:P.follows .mixedOrders=true)(hok:uT E R N=true)(h:oM P E R R.toList s (Q .normal)):AW P N (.region id R true) Q s:=by
 obtain⟨st,vs,h0,hK,hT⟩:=Du R.size 0 (by omega) s h;exact zi fK h0 hK (fun i hi=>hT i (ao i) hi) (aaC hok)
theorem VF{id p:Nat}{Q:Exit->St->Prop}{s:St}(fK:P.follows .mixedOrders=true)(hok:yJ E R N p=true)(h:oM P E R R.toList s (Q .normal)):AW P N (.region id R true) Q s:=by
 obtain⟨st,vs,h0,hK,hT⟩:=Du R.size 0 (by omega) s h;exact zi fK h0 hK (fun i hi=>hT i (ao i) hi) (Y5 hok)
theorem Pv{id:Nat}{Q:Exit->St->Prop}{s:St}(fK:P.follows .mixedOrders=true)(hok:Gv R N=true)(h:oM P (EM R N) R R.toList s (Q .normal)):AW P N (.region id R true) Q s:=by
 unfold Gv at hok;rw[da] at hok;rcases hok with hok|hok
 ·exact Y7 fK hok h
 ·split at hok
  ·exact VF fK hok h
  ·cases hok
theorem Pw{v w:V}(h:Pm v w=true){k k':Key}(hv:(∃off,v=.c (.ptr k' off))\/(∃i off,v=.c (.iO k' i off))\/∃r p z i off,v=.c (.xq k' r p z i off))
 (hw:BO w k):k'≠k:=by
 rintro rfl;rcases hv with⟨_,rfl⟩|⟨_,_,rfl⟩|⟨_,_,_,_,_,rfl⟩<;>rcases hw with⟨_,rfl⟩|⟨_,_,rfl⟩|rfl|rfl|⟨_,_,rfl⟩|⟨_,_,_,_,_,rfl⟩<;>simp[Pm] at h
theorem CS{o:Oper}{t:TypeId}{a y:Operand}{s s':St}{v:V}(hop:o.op=.store t a y)(h:jA P E R o s v s'){k:Key}
 (hk:∀k',((∃off,ev s.tm a=.c (.ptr k' off))\/(∃i off,ev s.tm a=.c (.iO k' i off))\/∃r p z i off,ev s.tm a=.c (.xq k' r p z i off))->k'≠k):aN s'.st k=aN s.st k:=by
 rcases h with⟨_,_,h⟩|⟨_,_,_,h⟩|⟨_,_,h,_,_⟩
 ·rw[h];cases o.dst<;>rfl
 ·rw[h];cases o.dst<;>rfl
 ·obtain⟨dst,op,ty,pos,after,guard⟩:=o;subst hop;rw[tT rfl] at h;simp only[bO,o8] at h;split at h
  ·rename_i k' off he;split at h
   ·obtain⟨_,_,_,h4⟩:=h;rw[<-h4,iC];exact dD _ _ _ _ (hk k' (.inl ⟨_,he⟩))
   ·exact h.elim
  ·rename_i k' i off he;split at h
   ·obtain⟨_,_,_,_,h5⟩:=h;rw[<-h5,iC];exact dD _ _ _ _ (hk k' (.inr (.inl ⟨_,_,he⟩)))
   ·exact h.elim
  ·rename_i k' r p z i off he;split at h
   ·split at h
    ·split at h
     ·obtain⟨_,_,_,_,_,h6⟩:=h;rw[<-h6,iC];exact dD _ _ _ _ (hk k' (.inr (.inr ⟨_,_,_,_,_,he⟩)))
     ·exact h.elim
    ·exact h.elim
   ·exact h.elim
  ·exact h.elim
theorem vV{st:Nat->St}{vs:Nat->V}(hT:∀i,i<R.size->∃o,R[i]? =some o/\jA P E R o (st i) (vs i) (st (i+1))){i:Nat}(hi:i<=R.size){a:Operand}(h:settled R i a=true):
 ev (st R.size).tm a=ev (st i).tm a:=by
 cases a with
 |tmp t=>
  show look _ t=look _ t
  have key:∀n,i+n<=R.size->look (st (i+n)).tm t=look (st i).tm t:=by
   intro n
   induction n with
   |zero=>intro _;rfl
   |succ n ih=>
    intro hn;rw[uW hT t (i+(n+1)) hn,show i+(n+1)=i+n+1 from rfl,iW,if_neg,<-uW hT t (i+n) (by omega),ih (by omega)];rintro⟨_,hd⟩;have:=ax.1 h (i+n) (cd.2 (by omega));rw[hd] at this;simp at this;omega
  have:=key (R.size-i) (by omega)
  rwa [show i+(R.size-i)=R.size from by omega] at this
 |_=>rfl
theorem Sk{st:Nat->St}{vs:Nat->V}{p:Nat}(hed:∀(i:Nat)(o:Oper),R[i]? =some o->(o.after.toList.all (fun e=> !Region.binds .any e||decide (e.on<i))&&(match o.dst with|some d=>decide (d<N)|none=>true))=true)
 (tH:∀o,R[p]? =some o->tV o.op=true/\o.guard=none/\(∃d,o.dst=some d)/\∀j y,j≠p->R[j]? =some y->y.apart R o=false->∀i x,i<p->R[i]? =some x->dV E x.op=true->i<j/\((masks R.toList []).getD j 0).testBit i=true)
 (hp:∀(i j:Nat) (x y:Oper),i<j->R[i]? =some x->R[j]? =some y->((masks R.toList []).getD j 0).testBit i=true\/(x.apart R y=true/\(j=p\/((dV E x.op&&dV E y.op)=false/\(iZ E x.op=true->qE R i x j y=true)/\(iZ E y.op=true->qE R j y i x=true)))))
 (hT:∀i,i<R.size->∃o,R[i]? =some o/\jA P E R o (st i) (vs i) (st (i+1)))(hl:Ju E R (st R.size).tm=true):Ig E R N st p:=by
 refine⟨?_,?_,?_,?_,tH⟩
 ·intro i o e ho he hb;have h2:=hed i o ho;simp only[aq] at h2;have h3:=ax.1 h2.1 e (by simpa using he);simpa [hb] using h3
 ·intro i o ho d hd;have h2:=hed i o ho;simp only[aq,hd] at h2;simpa using h2.2
 ·intro i j x y hij hx hy hc;rcases hp i j x y hij hx hy with h|⟨h1,h⟩
  ·exact .inl h
  ·unfold jK at hc;rw[h1] at hc;simp only[ed,cP] at hc;rcases h with h|⟨h,_⟩
   ·rw[aq] at hc;exact .inr ⟨h,hc.1,h1⟩
   ·rw[hc] at h;cases h
 ·intro i j x o hij hx ho hs hD hc
  have hjp:j≠p:=fun e=>by
   subst e;have:=(pq (E:=E) (tH o ho).1).1;rw[hD] at this;cases this
  have Ih:i≠p:=fun e=>by
   subst e;have:=(pq (E:=E) (tH x hx).1).2.1;rw[hs] at this;cases this
  cases hb:nL R i j with
  |true=>exact .inl rfl
  |false=>
   refine .inr ?_;rintro k ⟨_,z,hz,hk⟩;have hi:i<R.size:=(aE.1 hx).1;have hj:j<R.size:=(aE.1 ho).1
   have hlo:qE R i x j o=true:=by
    unfold nL at hb;by_cases e:i<j
    ·rw[if_pos e] at hb;rcases hp i j x o e hx ho with h|⟨_,h|⟨_,h,_⟩⟩
     ·rw[hb] at h;cases h
     ·exact absurd h hjp
     ·exact h hs
    ·rw[if_neg e] at hb;rcases hp j i o x (by omega) ho hx with h|⟨_,h|⟨_,_,h⟩⟩
     ·rw[hb] at h;cases h
     ·exact absurd h Ih
     ·exact h hs
   unfold qE at hlo;rw[hc,cP] at hlo;split at hlo
   ·rename_i t a y hop;rw[aq] at hlo
    have hz':z∈o.op.operands.toList:=by simpa using hz
    have hsz:=ax.1 hlo.2 z hz';have h1:=ax.1 hl i (cd.2 hi);rw[hx] at h1;simp only[hs,ed,cP,hop] at h1;have h2:=ax.1 h1 j (cd.2 hj);rw[ho] at h2;simp only[hb,hD,hc,cP] at h2;have h3:=ax.1 h2 z hz';obtain⟨x',hx',ht⟩:=hT i hi;rw[hx] at hx';cases hx';refine KS.same<|CS hop ht fun k' hk'=> ?_;rw[vV hT (by omega) hlo.1,vV hT (by omega) hsz] at h3;exact Pw h3 hk' hk
   ·cases hlo
theorem EO{f:Nat->Nat->Oper->Oper->Bool}(h:((List.range R.size).all fun j=>
 (match R[j]? with
  |some o=>o.after.toList.all (fun e=> !Region.binds .any e||decide (e.on<j))&&(match o.dst with|some d=>decide (d<N)|none=>true)
  |none=>true)&&
 (List.range j).all fun i=>
   match R[i]?,R[j]? with
   |some x,some y=>((masks R.toList []).getD j 0).testBit i|| !(f i j x y)
   |_,_=>true)=true):
 (∀(i:Nat) (o:Oper),R[i]? =some o->(o.after.toList.all (fun e=> !Region.binds .any e||decide (e.on<i))&&(match o.dst with|some d=>decide (d<N)|none=>true))=true)/\
 ∀(i j:Nat)(x y:Oper),i<j->R[i]? =some x->R[j]? =some y->((masks R.toList []).getD j 0).testBit i=true\/f i j x y=false:=by
 refine⟨fun i o ho=> ?_,fun i j x y hij hx hy=> ?_⟩
 ·have hj:i<R.size:=(aE.1 ho).1;have h1:=ax.1 h i (cd.2 hj);rw[aq,ho] at h1;exact h1.1
 ·have hj:j<R.size:=(aE.1 hy).1;have h1:=ax.1 h j (cd.2 hj);rw[aq] at h1;have h2:=ax.1 h1.2 i (cd.2 hij);rw[hx,hy] at h2;simp only[da,ep] at h2;exact h2
theorem VG{st:Nat->St}{vs:Nat->V}(hok:BP E R N=true)(hT:∀i,i<R.size->∃o,R[i]? =some o/\jA P E R o (st i) (vs i) (st (i+1)))(hl:Ju E R (st R.size).tm=true):Ig E R N st R.size:=by
 obtain⟨h1,h2⟩:=EO (f:=fun i j x y=>jK E R x y||(iZ E x.op&& !(qE R i x j y))||(iZ E y.op&& !(qE R j y i x))) hok;refine Sk h1 (fun o ho=>by rw[di (aw _)] at ho;cases ho) (fun i j x y hij hx hy=>(h2 i j x y hij hx hy).imp id fun h=> ?_) hT hl;simp only[jK,cz,ej,Bool.and_eq_false_imp] at h;obtain⟨⟨⟨q1,q2⟩,q3⟩,q4⟩:=h;refine⟨q1,.inr ⟨?_,q3,q4⟩⟩
 cases hx:dV E x.op with
 |false=>rfl
 |true=>rw[q2 hx];rfl
theorem aaK{id:Nat}{Q:Exit->St->Prop}{s:St}(fK:P.follows .mixedOrders=true)(hok:BP E R N=true)(h:oM P E R R.toList s (fun s'=>Ju E R s'.tm=true/\Q .normal s')):AW P N (.region id R true) Q s:=by
 obtain⟨st,vs,h0,hK,hT⟩:=Du R.size 0 (by omega) s h;have hT':=fun i hi=>hT i (ao i) hi;exact zi fK h0 hK.2 hT' (VG hok hT' hK.1)
end
section
variable {P:Program} {w w':World} {σ σ':Nat->Nat} {S S':Store} {β β':Hs} {N:Nat} {s:St} {a:Act}
theorem lK{c:Code}{Q:Exit->St->Prop}{s s':St}(h:AW P N c Q s')
 (hg:∀(a:Act) (w:World) (σ:Nat->Nat) (β:Hs),iq N s a w σ β->∃σ' β',iq N s' a w σ' β'/\Step s.st β σ w s'.st β' σ' w/\Keep (fF s.st) (fF β) (fF s'.st) (fF β')):AW P N c Q s:=by
 intro a w σ β hR;obtain⟨σ',β',hR',hst,hk⟩:=hg a w σ β hR;refine wp_mono (h a w σ' β' hR') ?_;rintro e a' w' ⟨s'',uN,β'',k1,k2,k3,k4⟩;exact⟨s'',uN,β'',k1,hst.trans k2,hk.trans k3,k4⟩
def gQ(N:Nat)(s s':St):Prop:=∀(a:Act)(w:World)(σ:Nat->Nat)(β:Hs),iq N s a w σ β->∃σ' β',iq N s' a w σ' β'/\Step s.st β σ w s'.st β' σ' w/\Keep (fF s.st) (fF β) (fF s'.st) (fF β')
theorem gQ.refl(N:Nat)(s:St):gQ N s s:=fun a w σ β hR=>⟨σ,β,hR,Step.lu (Grow.refl hR.S.live),Keep.refl _ _⟩
theorem gQ.trans{s s' s'':St}(h:gQ N s s')(k:gQ N s' s''):gQ N s s'':=fun a w σ β hR=>by
 obtain⟨σ1,β1,r1,st1,k1⟩:=h a w σ β hR;obtain⟨σ2,β2,r2,st2,k2⟩:=k a w σ1 β1 r1;exact⟨σ2,β2,r2,st1.trans st2,k1.trans k2⟩
theorem KF{tm tm':List (Nat×V)}(hl:∀t,look tm' t=look tm t\/look tm' t=.any):gQ N ⟨tm,S⟩ ⟨tm',S⟩:=
 fun a w σ β hR=>⟨σ,β,⟨hR.size,hR.defers,hR.S,fun t=>by
  rcases hl t with e|e
  ·show cu w σ S β (look tm' t) _;rw[e];exact hR.T t
  ·show cu w σ S β (look tm' t) _;rw[e];trivial⟩,Step.lu (Grow.refl hR.S.live),Keep.refl _ _⟩
theorem Px{c:Code}{Q:Exit->St->Prop}{tm tm':List (Nat×V)}(h:AW P N c Q ⟨tm',S⟩)(hl:∀t,look tm' t=look tm t\/look tm' t=.any):AW P N c Q ⟨tm,S⟩:=
 lK h fun a w σ β hR=>⟨σ,β,⟨hR.size,hR.defers,hR.S,fun t=>by
  rcases hl t with e|e
  ·show cu w σ S β (look tm' t) _;rw[e];exact hR.T t
  ·show cu w σ S β (look tm' t) _;rw[e];trivial⟩,Step.lu (Grow.refl hR.S.live),Keep.refl _ _⟩
def C.pz:C->C
 | .bM _ es=>.d (.sl es)
 | .bF es=>.d (.sl es)
 |c=>c
def V.pz:V->V
 | .c x=>.c x.pz
 | .agg cs=>.agg (cs.map C.pz)
 |v=>v
theorem KG{c:C}{v:Value}(h:fu w σ S β c v):fu w σ S β c.pz v:=by
 cases c with
 |bM k es=>exact h.1
 |bF es=>exact h.1
 |_=>exact h
theorem KH{x:V}{v:Value}(h:cu w σ S β x v):cu w σ S β x.pz v:=by
 cases x with
 |c x=>exact⟨KG h.1,h.2⟩
 |agg cs=>
  obtain⟨ar,ha,hl,hc⟩:=h;refine⟨ar,ha,by simpa using hl,fun j x hx=> ?_⟩;rw[aV] at hx
  cases hcj:cs[j]? with
  |none=>rw[hcj] at hx;cases hx
  |some y=>
   rw[hcj] at hx;cases hx;obtain⟨v,hv,hr,ho⟩:=hc j y hcj;exact⟨v,hv,KG hr,ho⟩
 |_=>exact h
theorem bK.weaken{f:FuncId}{args args':List V}{post:V->Store->Prop}(h:bK P f args' S post)(hl:args.length=args'.length)
 (hw:∀(j:Nat) (x y:V),args[j]? =some x->args'[j]? =some y->∀w σ β v,cu w σ S β x v->cu w σ S β y v):bK P f args S post:=by
 refine⟨h.1,fun w σ β vs hS hv=>h.2 w σ β vs hS ⟨by rw[<-hl];exact hv.1,fun j y hy=> ?_⟩⟩;have hj:=(ai.1 hy).1;have hx:args[j]? =some (args[j]'(by omega)):=ag (by omega);obtain⟨v,h1,h2⟩:=hv.2 j _ hx;exact⟨v,h1,hw j _ y hx hy w σ β v h2⟩
theorem bK.pz{f:FuncId}{args:List V}{post:V->Store->Prop}(h:bK P f (args.map V.pz) S post):bK P f args S post:=
 h.weaken (by simp) fun j x y hx hy w σ β v hr=>by
  rw[aV,hx] at hy;cases hy;exact KH hr
theorem bK.mono{f:FuncId}{args:List V}{post post':V->Store->Prop}(h:bK P f args S post)(hp:∀r S',post r S'->post' r S'):bK P f args S post':=
 ⟨h.1,fun w σ β vs hS hv=>(h.2 w σ β vs hS hv).mono fun e w' ⟨v,r,S',σ',β',h1,h2,h3,h4,h5,h6⟩=>⟨v,r,S',σ',β',h1,h2,h3,h4,h5,hp _ _ h6⟩⟩
theorem zk{f:FuncId}{args:List V}{s:St}{dst:Option Nat}{K:St->Prop}{r:V}(h:aT P f (args.map V.pz) r)(hK:K (St.put s dst r)):uy P f args s dst K:=
 .inl ⟨_,(h s.st).pz,fun r' S' hp=>by rw[hp.1,hp.2];exact hK⟩
theorem jL{c:Code}{Q:Exit->St->Prop}{tm:List (Nat×V)}{own:List Obj}{Ω:Store}(t aM:Nat)(es:List (List D))(hv:look tm t=.c (.bF es))(hes:∀e∈es,e.length=aM)
 (h:AW P N c Q ⟨(t,.c (.bM (0,own.length) es))::tm,(own++[.tok aM es])::Ω⟩):AW P N c Q ⟨tm,own::Ω⟩:=by
 refine lK h fun a w σ β hR=> ?_;obtain⟨bo,bΩ,rfl,hlen⟩:=frames hR;have ht:=hR.T t;rw[hv] at ht;obtain⟨⟨hd,ad,n,hval⟩,hone⟩:=ht
 have hn:n=es.length:=by rw[hval] at hd;cases hd<;>rfl
 have hg:Grow w σ w σ:=Grow.refl hR.S.live
 obtain⟨hS',hk,hst⟩:=hR.S.push (o:=.tok aM es) (h:=a.tmps.getD t undef) hg hlen ⟨hd,hes,ad,n,by rw[hval,hn],by omega,.inl hn⟩ (fun b hb=>by
  rw[hval,hn] at hb
  cases ad<;>simp[owns,blk] at hb)
 refine⟨σ,_,⟨hR.size,hR.defers,hS',fun u=> ?_⟩,hst,Keep.refl _ _⟩;show cu w σ _ _ (if t=u then _ else look tm u) _;by_cases e:t=u
 ·subst e;rw[if_pos rfl];refine⟨⟨hd,_,bL _ _ _,fun a b e=> ?_⟩,hone⟩;obtain⟨_,rfl⟩:=jP (lab:=none) e;exact⟨aw _,fun _=>by rw[<-hlen,bL]⟩
 ·rw[if_neg e];exact(hR.T u).mono (dR.refl _ _) hk
def mQ(n:Nat)(k:Key):Bool:=decide (0<k.1)||decide (k.2<n)
def C.refs(n:Nat):C->Bool
 | .bM k _=>mQ n k
 | .ptr k _=>mQ n k
 | .iO k _ _=>mQ n k
 | .eP k=>mQ n k
 | .mp k=>mQ n k
 | .fn _ caps=>caps.all fun x=>mQ n x.1
 | .xp k _ _=>mQ n k
 | .xq k _ _ _ _ _=>mQ n k
 | .oW k _ _=>mQ n k
 |_=>true
def V.refs(n:Nat):V->Bool
 | .c x=>x.refs n
 | .agg cs=>cs.all (C.refs n)
 | .gq xs=>xs.all fun y=>y.2.all (C.refs n)
 | .any=>true
def Obj.refs(n:Nat):Obj->Bool
 | .box cs=>cs.all (C.refs n)
 |_=>true
theorem gy{α:Type}{own:List α}{Ω:List (List α)}{n:Nat}{k:Key}(h:mQ n k=true):aN (own.take n::Ω) k=aN (own::Ω) k:=by
 obtain⟨l,j⟩:=k
 cases l with
 |zero=>
  simp[mQ] at h;rw[aJ,aJ,bu h]
 |succ l=>rw[bB,bB]
theorem jQ{α:Type}{own:List α}{Ω:List (List α)}{n:Nat}{k:Key}{o:α}(h:aN (own.take n::Ω) k=some o):aN (own::Ω) k=some o/\mQ n k=true:=by
 obtain⟨l,j⟩:=k
 cases l with
 |zero=>
  rw[aJ] at h ⊢;have hj:=(ai.1 h).1;simp at hj;rw[bu (by omega)] at h;exact⟨h,by simp[mQ];omega⟩
 |succ l=>rw[bB] at h ⊢;exact⟨h,by simp[mQ]⟩
theorem AP{own:List Obj}{Ω:Store}{bo:List Value}{bΩ:Hs}{n:Nat}{c:C}{v:Value}(hr:c.refs n=true)(h:fu w σ (own::Ω) (bo::bΩ) c v):fu w σ (own.take n::Ω) (bo.take n::bΩ) c v:=by
 cases c with
 |d x=>exact h
 |any=>exact h
 |bF es=>exact h
 |iY cs=>exact h
 |bM k es=>
  obtain⟨h1,o,ho,h2⟩:=h;exact⟨h1,o,(gy hr).trans ho,fun a b e=>by rw[gy hr];exact h2 a b e⟩
 |ptr k off=>
  obtain⟨o,ho,h2⟩:=h;exact⟨o,(gy hr).trans ho,fun a e=>by rw[gy hr];exact h2 a e⟩
 |iO k i off=>
  obtain⟨o,ho,h2⟩:=h;exact⟨o,(gy hr).trans ho,fun a b e=>by rw[gy hr];exact h2 a b e⟩
 |eP k=>
  obtain⟨o,ho,h2⟩:=h;exact⟨o,(gy hr).trans ho,fun a b e=>by rw[gy hr];exact h2 a b e⟩
 |mp k=>
  obtain⟨o,ho,h2⟩:=h;exact⟨o,(gy hr).trans ho,fun a e=>by rw[gy hr];exact h2 a e⟩
 |fn f caps=>
  obtain⟨vs,hv,hl,h2⟩:=h;refine⟨vs,hv,hl,fun j k off e=> ?_⟩;obtain⟨u,hu,h1c,o,ho,h3⟩:=h2 j k off e;have hk:mQ n k=true:=ax.1 hr (k,off) (cq e);exact⟨u,hu,h1c,o,(gy hk).trans ho,fun cs e=>by rw[gy hk];exact h3 cs e⟩
 |kF m es=>exact h
 |xp k r p=>
  obtain⟨o,ho,h2⟩:=h;exact⟨o,(gy hr).trans ho,fun a e=>by rw[gy hr];exact h2 a e⟩
 |xq k r p z i off=>
  obtain⟨o,ho,h2⟩:=h;exact⟨o,(gy hr).trans ho,fun a e=>by rw[gy hr];exact h2 a e⟩
 |oW k m u=>
  obtain⟨h1,o,ho,h2⟩:=h;exact⟨h1,o,(gy hr).trans ho,fun a b e=>by rw[gy hr];exact h2 a b e⟩
theorem zl{own:List Obj}{Ω:Store}{bo:List Value}{bΩ:Hs}{n:Nat}{cs:List C}{vs:List Value}(hr:cs.all (C.refs n)=true)(h:dS w σ (own::Ω) (bo::bΩ) cs vs):dS w σ (own.take n::Ω) (bo.take n::bΩ) cs vs:=
 ⟨h.1,fun j x hx=>let⟨v,hv,hc,ho⟩:=h.2 j x hx;⟨v,hv,AP (ax.1 hr x (cq hx)) hc,ho⟩⟩
theorem Sl{own:List Obj}{Ω:Store}{bo:List Value}{bΩ:Hs}{n:Nat}{x:V}{v:Value}(hr:x.refs n=true)(h:cu w σ (own::Ω) (bo::bΩ) x v):cu w σ (own.take n::Ω) (bo.take n::bΩ) x v:=by
 cases x with
 |c x=>exact⟨AP hr h.1,h.2⟩
 |agg cs=>obtain⟨ar,ha,hc⟩:=h;exact⟨ar,ha,zl hr hc⟩
 |gq xs=>
  obtain⟨ar,ha,hl,h2⟩:=h;refine⟨ar,ha,hl,fun j y hy=> ?_⟩;obtain⟨u,hu,h3⟩:=h2 j y hy;have hy':y.2.all (C.refs n)=true:=ax.1 hr y (cq hy);refine⟨u,hu,?_⟩;obtain⟨b,cs⟩:=y
  cases b with
  |true=>obtain⟨a',e,hcs⟩:=h3;exact⟨a',e,zl hy' hcs⟩
  |false=>
   obtain⟨x,e,hx,ho⟩:=h3;subst e;simp at hy';exact⟨x,rfl,AP hy' hx,ho⟩
 |any=>trivial
def nk(n:Nat)(tm:List (Nat×V)):Bool:=tm.all fun x=>x.2.refs n
theorem Ii{n:Nat}:∀(tm:List (Nat×V))(t:Nat),nk n tm=true->(look tm t).refs n=true
 |[],_,_=>rfl
 |(x,v)::tm,t,h=>by
  simp only[nk,ef,aq] at h;rw[look];split
  ·exact h.1
  ·exact Ii tm t h.2
theorem Py{tm:List (Nat×V)}{own:List Obj}{Ω:Store}(n:Nat)(h1:nk n tm=true)(h2:(own.take n).all (Obj.refs n)=true):gQ N ⟨tm,own::Ω⟩ ⟨tm,own.take n::Ω⟩:=by
 intro a w σ β hR;obtain⟨bo,bΩ,rfl,hlen⟩:=frames hR
 have hown:∀b,Own (own.take n::Ω) (bo.take n::bΩ) b->Own (own::Ω) (bo::bΩ) b:=by
  rintro b ⟨k,o,hv,e1,e2,e3⟩;exact⟨k,o,hv,(jQ e1).1,(jQ e2).1,e3⟩
 refine⟨σ,bo.take n::bΩ,⟨hR.size,hR.defers,⟨fun k o ho=> ?_,fun k k' o o' h1 h2 b e1 e2 e3 e4 e5 e6=> ?_,⟨by have:=hR.S.shape.1;simpa using this,fun l fr hl=> ?_⟩,hR.S.live,hR.S.qp⟩,fun t=>Sl (Ii tm t h1) (hR.T t)⟩,
  ⟨aw _,rfl,rfl,fun _ _ _=>⟨rfl,rfl⟩,dR.refl _ _,fun b hb=>.inl (hown b hb)⟩,Keep.refl _ _⟩
 ·obtain⟨ho',hk⟩:=jQ ho;obtain⟨hv,hh,hr⟩:=hR.S.obj k o ho';refine⟨hv,(gy hk).trans hh,?_⟩;obtain⟨l,j⟩:=k
  cases l with
  |zero=>
   cases o with
   |dead=>trivial
   |box cs=>
    obtain⟨b,cc,t,e,hb,hs,hc⟩:=hr;rw[aJ] at ho;have hcs:cs.all (C.refs n)=true:=ax.1 h2 (.box cs) (cq ho);exact⟨b,cc,t,e,hb,hs,zl hcs hc⟩
   |tok=>exact hr
   |cZ=>exact hr
   |mp=>exact hr
   |gX=>exact hr
   |seed=>exact hr
   |xf=>exact hr
  |succ l=>exact hr
 ·exact hR.S.apart k k' o o' h1 h2 b (jQ e1).1 (jQ e2).1 e3 (jQ e4).1 (jQ e5).1 e6
 ·cases l with
  |zero=>
   simp at hl;subst hl;exact⟨_,rfl,by simp[hlen]⟩
  |succ l=>exact hR.S.shape.2 (l+1) fr hl
def C.jT(j:Nat)(es:List (List D)):C->C
 | .eP (0,i)=>if i=j then .d (.sl es) else .eP (0,i)
 |c=>c
def V.jT(j:Nat)(es:List (List D)):V->V
 | .c x=>.c (x.jT j es)
 | .agg cs=>.agg (cs.map (C.jT j es))
 | .gq xs=>.gq (xs.map fun y=>(y.1,y.2.map (C.jT j es)))
 | .any=>.any
def Obj.jT(j:Nat)(es:List (List D)):Obj->Obj
 | .box cs=>.box (cs.map (C.jT j es))
 |o=>o
theorem tX{f:V->V}(hf:f .any=.any):∀(tm:List (Nat×V))(t:Nat),look (tm.map fun x=>(x.1,f x.2)) t=f (look tm t)
 |[],_=>hf.symm
 |(x,v)::tm,t=>by
  show(if x=t then f v else look (tm.map fun x=>(x.1,f x.2)) t)=f (if x=t then v else look tm t);split
  ·rfl
  ·exact tX hf tm t
def V.gN(f:C->C):V->V
 | .c x=>.c (f x)
 | .agg cs=>.agg (cs.map f)
 | .gq xs=>.gq (xs.map fun y=>(y.1,y.2.map f))
 | .any=>.any
def Obj.gN(f:C->C):Obj->Obj
 | .box cs=>.box (cs.map f)
 |o=>o
theorem sF{f:C->C}{own:List Obj}{j i:Nat}:((own.map (Obj.gN f)).set j .dead)[i]? =if i=j then(if j<own.length then some .dead else none) else(own[i]?).map (Obj.gN f):=by
 rw[cM];by_cases e:j=i
 ·subst e;simp
 ·rw[if_neg e,if_neg (Ne.symm e),aV]
theorem pW{f:C->C}{own:List Obj}{Ω:Store}{j:Nat}{oj:Obj}(hj:own[j]? =some oj){k:Key}{o:Obj}(hk:aN (own::Ω) k=some o):
 ∃o',aN ((own.map (Obj.gN f)).set j .dead::Ω) k=some o'/\((k=(0,j)/\o'=.dead)\/(k≠(0,j)/\(o'=o\/o'=o.gN f))):=by
 obtain⟨l,i⟩:=k
 cases l with
 |zero=>
  rw[aJ] at hk;by_cases e:i=j
  ·subst e;refine⟨.dead,?_,.inl ⟨rfl,rfl⟩⟩;rw[aJ,sF,if_pos rfl,if_pos (ai.1 hj).1]
  ·refine⟨o.gN f,?_,.inr ⟨fun x=>e (by cases x;rfl),.inr rfl⟩⟩;rw[aJ,sF,if_neg e,hk];rfl
 |succ l=>exact⟨o,by rw[bB] at hk ⊢;exact hk,.inr ⟨by simp,.inl rfl⟩⟩
theorem kX{f:C->C}{o o':Obj}(h:o'=o\/o'=o.gN f):(∀z es,lT o' z es->lT o z es)/\(∀z es,o'=.cZ z es->o=.cZ z es)/\(∀m,o'=.mp m->o=.mp m)/\(∀cs,o'=.box cs->∃cs',o=.box cs')/\(∀rs,o'=.xf rs->o=.xf rs):=by
 rcases h with rfl|rfl
 ·exact⟨fun _ _ h=>h,fun _ _ h=>h,fun _ h=>h,fun cs h=>⟨cs,h⟩,fun _ h=>h⟩
 ·cases o<;>simp[Obj.gN,lT]
theorem Pz{f:C->C}{own:List Obj}{Ω:Store}{bo:List Value}{bΩ:Hs}{j:Nat}{oj:Obj}(hj:own[j]? =some oj)(hn:dR w σ w σ'){c:C}{v:Value}(hc:fu w σ (own::Ω) (bo::bΩ) c v):
 fu w σ' ((own.map (Obj.gN f)).set j .dead::Ω) (bo::bΩ) c v:=by
 cases c with
 |d x=>exact dw.mono hn hc
 |any=>trivial
 |bF es'=>exact⟨dw.mono hn hc.1,hc.2⟩
 |kF n es'=>exact⟨dw.mono hn hc.1,hc.2⟩
 |iY cs=>obtain⟨ad,h1,h2⟩:=hc;exact⟨ad,h1,h2.mono hn⟩
 |bM k es'=>
  obtain⟨h1,o,ho,h2⟩:=hc;obtain⟨o',ho',hcase⟩:=pW hj ho;refine⟨dw.mono hn h1,o',ho',fun z e4 e=> ?_⟩;rcases hcase with⟨_,e'⟩|⟨_,e'⟩
  ·rw[e'] at e;rcases e with e|⟨_,e⟩<;>cases e
  ·exact h2 _ _ ((kX e').1 _ _ e)
 |ptr k off=>
  obtain⟨o,ho,h2⟩:=hc;obtain⟨o',ho',hcase⟩:=pW hj ho;refine⟨o',ho',fun cs e=> ?_⟩;rcases hcase with⟨_,e'⟩|⟨_,e'⟩
  ·rw[e'] at e;cases e
  ·obtain⟨cs',e''⟩:=(kX e').2.2.2.1 _ e;exact h2 _ e''
 |iO k i off=>
  obtain⟨o,ho,h2⟩:=hc;obtain⟨o',ho',hcase⟩:=pW hj ho;refine⟨o',ho',fun z e4 e=> ?_⟩;rcases hcase with⟨_,e'⟩|⟨_,e'⟩
  ·rw[e'] at e;cases e
  ·exact h2 _ _ ((kX e').2.1 _ _ e)
 |eP k=>
  obtain⟨o,ho,h2⟩:=hc;obtain⟨o',ho',hcase⟩:=pW hj ho;refine⟨o',ho',fun z e4 e=> ?_⟩;rcases hcase with⟨_,e'⟩|⟨_,e'⟩
  ·rw[e'] at e;cases e
  ·exact h2 _ _ ((kX e').2.1 _ _ e)
 |mp k=>
  obtain⟨o,ho,h2⟩:=hc;obtain⟨o',ho',hcase⟩:=pW hj ho;refine⟨o',ho',fun m e=> ?_⟩;rcases hcase with⟨_,e'⟩|⟨_,e'⟩
  ·rw[e'] at e;cases e
  ·exact h2 _ ((kX e').2.2.1 _ e)
 |fn f caps=>
  obtain⟨vs,hv,hl,h2⟩:=hc;refine⟨vs,hv,hl,fun i k off e=> ?_⟩;obtain⟨u,hu,h1c,o,ho,h3⟩:=h2 i k off e;obtain⟨o',ho',hcase⟩:=pW hj ho;refine⟨u,hu,h1c,o',ho',fun cs e=> ?_⟩;rcases hcase with⟨_,e'⟩|⟨_,e'⟩
  ·rw[e'] at e;cases e
  ·obtain⟨cs',e''⟩:=(kX e').2.2.2.1 _ e;exact h3 _ e''
 |xp k r p=>
  obtain⟨o,ho,h2⟩:=hc;obtain⟨o',ho',hcase⟩:=pW hj ho;refine⟨o',ho',fun rs e=> ?_⟩;rcases hcase with⟨_,e'⟩|⟨_,e'⟩
  ·rw[e'] at e;cases e
  ·exact h2 _ ((kX e').2.2.2.2 _ e)
 |xq k r p z i off=>
  obtain⟨o,ho,h2⟩:=hc;obtain⟨o',ho',hcase⟩:=pW hj ho;refine⟨o',ho',fun rs e=> ?_⟩;rcases hcase with⟨_,e'⟩|⟨_,e'⟩
  ·rw[e'] at e;cases e
  ·exact h2 _ ((kX e').2.2.2.2 _ e)
 |oW k m u=>
  obtain⟨h1,o,ho,h2⟩:=hc;obtain⟨o',ho',hcase⟩:=pW hj ho;refine⟨h1,o',ho',fun z e4 e=> ?_⟩;rcases hcase with⟨_,e'⟩|⟨_,e'⟩
  ·rw[e'] at e;rcases e with e|⟨_,e⟩<;>cases e
  ·exact h2 _ _ ((kX e').1 _ _ e)
theorem VH{f:C->C}{tm:List (Nat×V)}{own:List Obj}{Ω:Store}{bo:List Value}{bΩ:Hs}(j:Nat){oj:Obj}{hj:Value}(hoj:own[j]? =some oj)(hbj:bo[j]? =some hj)(hR:iq N ⟨tm,own::Ω⟩ a w σ (bo::bΩ))(hlen:bo.length=own.length)
 (hn:dR w σ w σ')(hch:∀x,¬owns oj hj x->σ' x=σ x)(hlive:∀x,x<w.heap.size\/σ' x=0)
 (hC:∀(c:C) (v:Value),fu w σ (own::Ω) (bo::bΩ) c v->fu w σ' ((own.map (Obj.gN f)).set j .dead::Ω) (bo::bΩ) (f c) v):
 iq N ⟨tm.map fun x=>(x.1,x.2.gN f),(own.map (Obj.gN f)).set j .dead::Ω⟩ a w σ' (bo::bΩ)/\Step (own::Ω) (bo::bΩ) σ w ((own.map (Obj.gN f)).set j .dead::Ω) (bo::bΩ) σ' w:=by
 have Jv:∀k o,aN ((own.map (Obj.gN f)).set j .dead::Ω) k=some o->(k=(0,j)/\o=.dead)\/(k≠(0,j)/\∃o0,aN (own::Ω) k=some o0/\(o=o0\/o=o0.gN f)/\(0<k.1->o=o0)/\∀h b,owns o h b<->owns o0 h b):=by
  intro k o hk;obtain⟨l,i⟩:=k
  cases l with
  |zero=>
   rw[aJ,sF] at hk;by_cases e:i=j
   ·subst e;rw[if_pos rfl,if_pos (ai.1 hoj).1] at hk;cases hk;exact .inl ⟨rfl,rfl⟩
   ·rw[if_neg e] at hk
    cases ho:own[i]? with
    |none=>rw[ho] at hk;cases hk
    |some o0=>
     rw[ho] at hk;cases hk;refine .inr ⟨fun x=>e (by cases x;rfl),o0,by rw[aJ];exact ho,.inr rfl,fun h=>absurd h (by simp),fun h b=> ?_⟩
     cases o0 with
     |box cs=>cases h<;>first|exact ec|(rename_i x;cases x<;>exact ec)
     |_=>exact ec
  |succ l=>rw[bB] at hk;exact .inr ⟨by simp,o,by rw[bB];exact hk,.inl rfl,fun _=>rfl,fun _ _=>ec⟩
 have hCs:∀(cs:List C)(vs:List Value),dS w σ (own::Ω) (bo::bΩ) cs vs->dS w σ' ((own.map (Obj.gN f)).set j .dead::Ω) (bo::bΩ) (cs.map f) vs:=by
  intro cs vs hc;refine⟨by simpa using hc.1,fun i x hx=> ?_⟩;rw[aV] at hx
  cases hci:cs[i]? with
  |none=>rw[hci] at hx;cases hx
  |some y=>
   rw[hci] at hx;cases hx;obtain⟨v,hv,hr,ho⟩:=hc.2 i y hci;exact⟨v,hv,hC y v hr,ho⟩
 have hother:∀k o h x,k≠(0,j)->aN (own::Ω) k=some o->aN (bo::bΩ) k=some h->owns o h x->σ' x=σ x:=by
  intro k o h x hk e1 e2 e3;refine hch x fun e4=>hk ?_;exact hR.S.apart k (0,j) o _ h _ x e1 e2 e3 (by rw[aJ];exact hoj) (by rw[aJ];exact hbj) e4
 refine⟨⟨hR.size,hR.defers,⟨fun k o ho=> ?_,fun k k' o o' h1 h2 b' e1 e2 e3 e4 e5 e6=> ?_,⟨by have:=hR.S.shape.1;simpa using this,fun l fr hl=> ?_⟩,hlive,hR.S.qp.near hn⟩,fun t=> ?_⟩,⟨aw _,rfl,rfl,fun x hx hno=>⟨rfl,?_⟩,hn,fun x hx=> ?_⟩⟩
 ·rcases Jv k o ho with⟨rfl,rfl⟩|⟨hk,o0,h0,hcase,hl0,how⟩
  ·exact⟨_,by rw[aJ];exact hbj,trivial⟩
  ·obtain⟨hv,hhv,hr⟩:=hR.S.obj k o0 h0;refine⟨hv,hhv,?_⟩;have hbk:∀x,owns o0 hv x->w.heap[x]? =w.heap[x]? /\σ' x=σ x:=fun x e=>⟨rfl,hother k o0 hv x hk h0 hhv e⟩;obtain⟨l,i⟩:=k
   cases l with
   |succ l=>
    rw[hl0 (by simp)];exact eT.mono hn (Keep.refl _ _) hbk hr
   |zero=>
    cases o0 with
    |box cs=>
     obtain⟨b',cc',t',e',hb',hs',hc'⟩:=hr;subst e'
     have he:o=.box (cs.map f):=by
      rw[aJ,sF] at ho;rw[aJ] at h0;split at ho
      ·rename_i e;exact absurd (by rw[e]) hk
      ·rw[h0] at ho;cases ho;rfl
     rw[he];exact⟨b',cc',t',rfl,hb',(hbk b' rfl).2.trans hs',hCs _ _ hc'⟩
    |dead=>rcases hcase with rfl|rfl<;>trivial
    |tok z es'=>
     have:o=.tok z es':=by rcases hcase with rfl|rfl<;>rfl
     rw[this];exact eT.mono (S:=[]) (β:=[]) (o:=(.tok z es')) hn (Keep.refl [] []) hbk hr
    |cZ z es'=>
     have:o=.cZ z es':=by rcases hcase with rfl|rfl<;>rfl
     rw[this];exact eT.mono (S:=[]) (β:=[]) (o:=(.cZ z es')) hn (Keep.refl [] []) hbk hr
    |mp m=>
     have:o=.mp m:=by rcases hcase with rfl|rfl<;>rfl
     rw[this];exact eT.mono (S:=[]) (β:=[]) (o:=(.mp m)) hn (Keep.refl [] []) hbk hr
    |gX n z es'=>
     have:o=.gX n z es':=by rcases hcase with rfl|rfl<;>rfl
     rw[this];exact eT.mono (S:=[]) (β:=[]) (o:=(.gX n z es')) hn (Keep.refl [] []) hbk hr
    |seed n=>rcases hcase with rfl|rfl<;>trivial
    |xf rs=>
     have:o=.xf rs:=by rcases hcase with rfl|rfl<;>rfl
     rw[this];exact eT.mono (S:=[]) (β:=[]) (o:=(.xf rs)) hn (Keep.refl [] []) hbk hr
 ·rcases Jv k o e1 with⟨rfl,rfl⟩|⟨hk,o0,f1,_,_,f2⟩
  ·cases e3
  ·rcases Jv k' o' e4 with⟨rfl,rfl⟩|⟨hk',o0',g1,_,_,g2⟩
   ·cases e6
   ·exact hR.S.apart k k' o0 o0' h1 h2 b' f1 e2 ((f2 _ _).1 e3) g1 e5 ((g2 _ _).1 e6)
 ·cases l with
  |zero=>
   simp at hl;subst hl;exact⟨_,rfl,by simp[hlen]⟩
  |succ l=>exact hR.S.shape.2 (l+1) fr hl
 ·show cu w σ' ((own.map (Obj.gN f)).set j .dead::Ω) (bo::bΩ) (look (tm.map fun x=>(x.1,x.2.gN f)) t) _;rw[tX (f:=V.gN f) rfl];have ht:=hR.T t
  cases hx:look tm t with
  |c x=>rw[hx] at ht;exact⟨hC x _ ht.1,ht.2⟩
  |agg cs=>rw[hx] at ht;obtain⟨ar,e,hc⟩:=ht;exact⟨ar,e,hCs _ _ hc⟩
  |gq xs=>
   rw[hx] at ht;obtain⟨ar,e,hl,h2⟩:=ht;refine⟨ar,e,by simpa using hl,fun i y hy=> ?_⟩;rw[aV] at hy
   cases hxi:xs[i]? with
   |none=>rw[hxi] at hy;cases hy
   |some z=>
    rw[hxi] at hy;cases hy;obtain⟨u,hu,h3⟩:=h2 i z hxi;refine⟨u,hu,?_⟩;obtain⟨bb,cs⟩:=z
    cases bb with
    |true=>obtain⟨a',e',hcs⟩:=h3;exact⟨a',e',hCs _ _ hcs⟩
    |false=>
     obtain⟨x,e',NZ,ho⟩:=h3;subst e';exact⟨_,rfl,hC x _ NZ,ho⟩
  |any=>trivial
 ·exact hch x fun e=>hno ⟨(0,j),_,_,by rw[aJ];exact hoj,by rw[aJ];exact hbj,e⟩
 ·left;obtain⟨k,o,h1,e1,e2,e3⟩:=hx;rcases Jv k o e1 with⟨rfl,rfl⟩|⟨hk,o0,f1,_,_,f2⟩
  ·cases e3
  ·exact⟨k,o0,h1,f1,e2,(f2 _ _).1 e3⟩
theorem VI{j:Nat}{es:List (List D)}:Obj.jT j es=Obj.gN (C.jT j es):=by funext o;cases o<;>rfl
theorem VJ{j:Nat}{es:List (List D)}:V.jT j es=V.gN (C.jT j es):=by funext v;cases v<;>rfl
theorem Y8{tm:List (Nat×V)}{own:List Obj}{Ω:Store}(j:Nat)(aM:Nat)(es:List (List D))(hj:own[j]? =some (.cZ aM es))(hR:iq N ⟨tm,own::Ω⟩ a w σ β):
 ∃σ' β',iq N ⟨tm.map fun x=>(x.1,x.2.jT j es),(own.map (Obj.jT j es)).set j .dead::Ω⟩ a w σ' β'/\Step (own::Ω) β σ w ((own.map (Obj.jT j es)).set j .dead::Ω) β' σ' w/\
  Keep (fF (own::Ω)) (fF β) (fF ((own.map (Obj.jT j es)).set j .dead::Ω)) (fF β'):=by
 obtain⟨bo,bΩ,rfl,hlen⟩:=frames hR;obtain⟨hh,hb,hr⟩:=hR.S.obj (0,j) _ (by rw[aJ];exact hj);rw[aJ] at hb
 obtain⟨σ',hn,hch,hlive,hdata⟩:∃σ',dR w σ w σ'/\(∀x,¬owns (.cZ aM es) hh x->σ' x=σ x)/\(∀x,x<w.heap.size\/σ' x=0)/\dw w σ' (.sl es) hh:=by
  obtain⟨hle,ad,cap,rfl,hcap,h4⟩:=hr;by_cases h0:cap=0
  ·obtain rfl:es=[]:=co (by omega);exact⟨σ,dR.refl _ _,fun _ _=>rfl,hR.S.live,.nil _ _⟩
  rcases h4 with h4|⟨b,cc,ty,rfl,hbc,hσ,hcz,hcells⟩
  ·exact absurd h4 h0
  have hsz:es.length*aM<=cc.size:=cx (ce _ hcap) hcz
  let σ':Nat->Nat:=fun x=>if x=b then es.length*aM else σ x
  have hn:dR w σ w σ':=by
   intro b1 c1 t1 CK e1;by_cases e:b1=b
   ·subst e;rw[hbc] at e1;cases e1;exact⟨by simp only[σ',if_true];omega,fun h=>by omega,cc,hbc,rfl,fun _ _=>rfl⟩
   ·exact⟨by simp only[σ',if_neg e];exact aw _,fun _=>if_neg e,c1,e1,rfl,fun _ _=>rfl⟩
  refine⟨σ',hn,fun x hx=>if_neg fun e=>hx (by subst e;simp[owns,blk,h0]),fun x=> ?_,?_⟩
  ·by_cases e:x=b
   ·left;subst e;exact lt_of_some hbc
   ·simp only[σ',if_neg e];exact hR.S.live x
  ·have hfl:=iF es aM hle;refine .sl b 0 cap aM es (fun i=>(cc[i]?).getD undef) cc ty (0,0) hcap hle hbc (by simp[σ']) (fun i hi=> ?_) (fun i d hd=> ?_)
   ·obtain⟨v,hv,_⟩:=hcells i _ (ag (by omega));simp[hv]
   ·obtain⟨v,hv,hr⟩:=hcells i d hd;simp only[hv,dn];exact hr.mono hn
 rw[VI,VJ]
 have:=VH (f:=C.jT j es) j hj hb hR hlen hn hch hlive (fun c v hc=>by
  by_cases hm:c=.eP (0,j)
  ·subst hm;obtain⟨o,ho,h2⟩:=hc;rw[aJ,hj] at ho;cases ho;have hv:=h2 _ _ rfl;rw[aJ,hb] at hv;cases hv;simp only[C.jT,if_true];exact hdata
  ·have hfr:C.jT j es c=c:=by
    cases c with
    |eP k=>
     obtain⟨l,i⟩:=k
     cases l with
     |zero=>simp only[C.jT];rw[if_neg (fun e=>hm (by rw[e]))]
     |succ l=>rfl
    |_=>rfl
   rw[hfr]
   exact Pz hj hn hc)
 exact⟨σ',_,this.1,this.2,Keep.refl _ _⟩
def C.lab(row:Bool)(j n:Nat)(es:List (List D)):C->C
 | .eP (0,i)=>if i=j/\row=true then .d (.ol n es) else .eP (0,i)
 | .bM (0,i) es'=>if i=j/\row=false/\es'.length=es.length then .d (.ol n es) else .bM (0,i) es'
 |c=>c
def EP(j:Nat)(s:St):St:=
 match s.st with
 |own::Ω=>match own[j]? with
  |some (.cZ _ es)=>⟨s.tm.map fun x=>(x.1,x.2.jT j es),(own.map (Obj.jT j es)).set j .dead::Ω⟩
  |_=>s
 |[]=>s
def ER:Nat->St->St
 |0,s=>s
 |n+1,s=>ER n (EP n s)
def yL(s:St):St:=
 match s.st with
 |own::_=>ER own.length s
 |[]=>s
theorem MG(j:Nat)(s:St):gQ N s (EP j s):=by
 obtain⟨tm,st⟩:=s
 cases st with
 |nil=>exact gQ.refl _ _
 |cons own Ω=>
  unfold EP
  simp only
  split
  ·rename_i z es hj;exact fun a w σ β hR=>Y8 j z es hj hR
  ·exact gQ.refl _ _
theorem CU:∀(n:Nat)(s:St),gQ N s (ER n s)
 |0,s=>gQ.refl _ _
 |n+1,s=>(MG n s).trans (CU n _)
theorem sG(s:St):gQ N s (yL s):=by
 unfold yL;split
 ·exact CU _ _
 ·exact gQ.refl _ _
theorem ES{c:Code}{Q:Exit->St->Prop}{g:St->St}(hg:∀s,gQ N s (g s))(h:AW P N c (fun e s'=>Q e (g s')) s):AW P N c Q s:=by
 intro a w σ β hR;refine wp_mono (h a w σ β hR) ?_;rintro e a' w' ⟨s',σ',β',k1,k2,k3,k4⟩;obtain⟨σ2,β2,r2,st2,kk2⟩:=hg s' a' w' σ' β' k1;exact⟨_,σ2,β2,r2,k2.trans st2,k3.trans kk2,k4⟩
end
section
variable {P:Program} {E:Md} {S S':Store} {N:Nat} {s:St}
def lookO(tm:List (Nat×V))(t:Option Nat):Option V:=t.map (look tm)
theorem KI{tm:List (Nat×V)}{t:Option Nat}:lookO tm t=t.map (look tm):=rfl
theorem PD{tm:List (Nat×V)}{t:Nat}:lookO tm (some t)=some (look tm t):=rfl
theorem PE{tm:List (Nat×V)}:lookO tm none=none:=rfl
def yM(tm:List (Nat×V))(l:List Operand):List V:=l.map (ev tm)
theorem Y9{tm:List (Nat×V)}:yM tm []=[]:=rfl
theorem VK{tm:List (Nat×V)}{x:Operand}{l:List Operand}:yM tm (x::l)=ev tm x::yM tm l:=rfl
def Ij(tm:List (Nat×V))(x:Option Operand):Option V:=x.map (ev tm)
theorem VL{tm:List (Nat×V)}{x:Operand}:Ij tm (some x)=some (ev tm x):=rfl
theorem VN{tm:List (Nat×V)}:Ij tm none=none:=rfl
def Ik(tm:List (Nat×V))(l:List (Nat×Operand)):List (Nat×V):=l.map fun x=>(x.1,ev tm x.2)
theorem Za{tm:List (Nat×V)}:Ik tm []=[]:=rfl
theorem VO{tm:List (Nat×V)}{i:Nat}{x:Operand}{l:List (Nat×Operand)}:Ik tm ((i,x)::l)=(i,ev tm x)::Ik tm l:=rfl
def Split(x:Bool)(A B:St->Prop)(s:St):Prop:=(x=true->A s)/\(x=false->B s)
theorem aj{x:Bool}{A B:St->Prop}(h1:x=true->A s)(h2:x=false->B s):Split x A B s:=⟨h1,h2⟩
theorem PG{A B:St->Prop}:Split true A B s=A s:=by simp[Split]
theorem MH{A B:St->Prop}:Split false A B s=B s:=by simp[Split]
def KJ(dst:Option Nat)(v:V)(K:St->Prop)(s:St):Prop:=K (s.put dst v)
theorem Zb{dst:Option Nat}{v:V}{K:St->Prop}:KJ dst v K s=K (s.put dst v):=rfl
def PI(P:Program)(o:Oper)(K:St->Prop)(s:St):Prop:=fM P o s K
def KL(P:Program)(E:Md)(o:Oper)(K:St->Prop)(s:St):Prop:=dX P E o s K
theorem VP{o:Oper}{K:St->Prop}:PI P o K s=fM P o s K:=rfl
theorem Sm{o:Oper}{K:St->Prop}:KL P E o K s=dX P E o s K:=rfl
def wR(dst:Option Nat)(want:Bool)(A K:St->Prop)(s:St):Option V->Prop
 |some (.c (.d (.b x)))=>match want with
  |true=>Split x A (KJ dst (.gq []) K) s
  |false=>Split x (KJ dst (.gq []) K) A s
 |some (.gq [])=>K (s.put dst (.gq []))
 |_=>False
theorem MI{R:Array Oper}{dst op ty pos after}{K:St->Prop}:o9 P R ⟨dst,op,ty,pos,after,none⟩ s K=fM P ⟨dst,op,ty,pos,after,none⟩ s K:=rfl
theorem MJ{R:Array Oper}{dst op ty pos after j want}{K:St->Prop}:o9 P R ⟨dst,op,ty,pos,after,some (j,want)⟩ s K=
 wR dst want (PI P ⟨dst,op,ty,pos,after,some (j,want)⟩ K) K s (lookO s.tm (eB R j)):=by
 show o9 P R _ s K=_;simp only[o9,<-KI];generalize lookO s.tm (eB R j)=v
 cases v with
 |none=>rfl
 |some v=>
  cases v with
  |c x=>cases x with
   |d x=>cases x with
    |b x=>cases want<;>simp[wR,Split,KJ,PI,and_comm]
    |_=>rfl
   |_=>rfl
  |gq l=>cases l<;>rfl
  |_=>rfl
theorem KM{R:Array Oper}{dst op ty pos after}{K:St->Prop}:lD P E R ⟨dst,op,ty,pos,after,none⟩ s K=dX P E ⟨dst,op,ty,pos,after,none⟩ s K:=rfl
theorem KN{R:Array Oper}{dst op ty pos after j want}{K:St->Prop}:lD P E R ⟨dst,op,ty,pos,after,some (j,want)⟩ s K=
 wR dst want (KL P E ⟨dst,op,ty,pos,after,some (j,want)⟩ K) K s (lookO s.tm (eB R j)):=by
 simp only[lD,<-KI];generalize lookO s.tm (eB R j)=v
 cases v with
 |none=>rfl
 |some v=>
  cases v with
  |c x=>cases x with
   |d x=>cases x with
    |b x=>cases want<;>simp[wR,Split,KJ,KL,and_comm]
    |_=>rfl
   |_=>rfl
  |gq l=>cases l<;>rfl
  |_=>rfl
@[congr] theorem acs {R:Array Oper} {os:List Oper} {s s':St} {K:St->Prop} (h2:s=s'):wO P R os s K=wO P R os s' K:=by rw[h2]
@[congr] theorem acu {R:Array Oper} {os:List Oper} {s s':St} {K:St->Prop} (h2:s=s'):oM P E R os s K=oM P E R os s' K:=by rw[h2]
@[congr] theorem aaM {R:Array Oper} {o:Oper} {s s':St} {K:St->Prop} (h2:s=s'):o9 P R o s K=o9 P R o s' K:=by rw[h2]
@[congr] theorem aam {R:Array Oper} {o:Oper} {s s':St} {K:St->Prop} (h2:s=s'):lD P E R o s K=lD P E R o s' K:=by rw[h2]
@[congr] theorem aaN {dst:Option Nat} {want:Bool} {A K:St->Prop} {s s':St} {v v':Option V} (h2:s=s') (h3:v=v'):wR dst want A K s v=wR dst want A K s' v':=by rw[h2,h3]
@[congr] theorem abR {x x':Bool} {A B:St->Prop} {s s':St} (h:x=x') (h2:s=s'):Split x A B s=Split x' A B s':=by rw[h,h2]
@[congr] theorem abS {o:Oper} {s s':St} {K:St->Prop} (h2:s=s'):bO P o s K=bO P o s' K:=by rw[h2]
@[congr] theorem abT {o:Oper} {s s':St} {K:St->Prop} (h2:s=s'):fM P o s K=fM P o s' K:=by rw[h2]
@[congr] theorem acv {t:TypeId} {s s':St} {dst:Option Nat} {K:St->Prop} {b b':Bool} {r r':R} (h1:s=s') (h2:b=b') (h3:r=r'):Au P t s dst K b r=Au P t s' dst K b' r':=by rw[h1,h2,h3]
@[congr] theorem acw {m:Nat} {t u:TypeId} {a a' x x':V} {s s':St} {dst:Option Nat} {K:St->Prop} (h1:a=a') (h3:x=x') (h2:s=s'):Ay P m t u a x s dst K=Ay P m t u a' x' s' dst K:=by rw[h1,h2,h3]
@[congr] theorem aan {t u:TypeId} {a a' x x':V} {s s':St} {dst:Option Nat} {K:St->Prop} (h1:a=a') (h3:x=x') (h2:s=s'):wC P t u a x s dst K=wC P t u a' x' s' dst K:=by rw[h1,h2,h3]
@[congr] theorem aaO {t u:TypeId} {k:Key} {x x':V} {s s':St} {dst:Option Nat} {K:St->Prop} (h3:x=x') (h2:s=s'):kN P t u k x s dst K=kN P t u k x' s' dst K:=by rw[h2,h3]
@[congr] theorem aaP {o:Oper} {s s':St} {K:St->Prop} (h2:s=s'):dX P E o s K=dX P E o s' K:=by rw[h2]
@[congr] theorem acy {l l':Option Nat} {es es' x:List (List D)} {z:Nat} {s s':St} {dst:Option Nat} {K:St->Prop} (h1:l=l') (h2:es=es') (h3:s=s'):wN l es s dst z x K=wN l' es' s' dst z x K:=by rw[h1,h2,h3]
@[congr] theorem acz {b b':Bool} {es es' x:List (List D)} {z:Nat} {s s':St} {dst:Option Nat} {K:St->Prop} (h1:b=b') (h2:es=es') (h3:s=s'):vB b es s dst z x K=vB b' es' s' dst z x K:=by rw[h1,h2,h3]
@[congr] theorem abU {v:Value} {ys:List (List D)} {z:Nat} {s s':St} {dst:Option Nat} {K:St->Prop} (h3:s=s'):EF v ys z s dst K=EF v ys z s' dst K:=by rw[h3]
@[congr] theorem acA {b b':Bool} {n:Nat} {x:List (List D)} {z:Nat} {s s':St} {dst:Option Nat} {K:St->Prop} (h1:b=b') (h3:s=s'):yg b n s dst z x K=yg b' n s' dst z x K:=by rw[h1,h3]
@[congr] theorem aaQ {s s':St} {dst:Option Nat} {o o':Obj} {mk:Key->V} {K:St->Prop} (h1:s=s') (h2:o=o'):newObj s dst o mk K=newObj s' dst o' mk K:=by rw[h1,h2]
@[congr] theorem aaR {t:TypeId} {s s':St} {dst:Option Nat} {K:St->Prop} (h1:s=s'):o7 P t s dst K=o7 P t s' dst K:=by rw[h1]
@[congr] theorem acB {v v':V} {s s':St} {dst:Option Nat} {K:St->Prop} (h1:v=v') (h2:s=s'):wM v s dst K=wM v' s' dst K:=by rw[h1,h2]
@[congr] theorem aaS {t:TypeId} {a a' x x':V} {s s':St} {dst:Option Nat} {K:St->Prop} (h1:a=a') (h3:x=x') (h2:s=s'):o8 P t a x s dst K=o8 P t a' x' s' dst K:=by rw[h1,h2,h3]
@[congr] theorem abV {t:TypeId} {a a' x x':V} {s s':St} {dst:Option Nat} {K:St->Prop} (h1:a=a') (h3:x=x') (h2:s=s'):rY P t a x s dst K=rY P t a' x' s' dst K:=by rw[h1,h2,h3]
@[congr] theorem aao {t u:TypeId} {a a' x x':V} {s s':St} {dst:Option Nat} {K:St->Prop} (h1:a=a') (h3:x=x') (h2:s=s'):lC P t u a x s dst K=lC P t u a' x' s' dst K:=by rw[h1,h2,h3]
@[congr] theorem aap {s s':St} {dst:Option Nat} {K:St->Prop} (h2:s=s'):oz s dst K=oz s' dst K:=by rw[h2]
@[congr] theorem aaq {t:TypeId} {a a' x x' y y':V} {s s':St} {dst:Option Nat} {K:St->Prop} (h1:a=a') (h3:x=x') (h4:y=y') (h2:s=s'):oC P t a x y s dst K=oC P t a' x' y' s' dst K:=by rw[h1,h2,h3,h4]
@[congr] theorem abW {f:FuncId} {args args':List V} {s s':St} {dst:Option Nat} {K:St->Prop} (h1:args=args') (h2:s=s'):uy P f args s dst K=uy P f args' s' dst K:=by rw[h1,h2]
@[congr] theorem abX {c:Call} {s s':St} {dst:Option Nat} {K:St->Prop} (h2:s=s'):jy P c s dst K=jy P c s' dst K:=by rw[h2]
@[congr] theorem abY {K:St->Prop} {Q:Exit->St->Prop} {e:Exit} {s s':St} (h2:s=s'):gZ K Q e s=gZ K Q e s':=by rw[h2]
def eY(s:St)(dst:Option Nat)(K:St->Prop)(r:R):Prop:=r.1/\K (s.put dst r.2)
@[congr] theorem abZ {s s':St} {dst:Option Nat} {K:St->Prop} {r r':R} (h1:s=s') (h2:r=r'):eY s dst K r=eY s' dst K r':=by rw[h1,h2]
theorem VQ{dst:Option Nat}{K:St->Prop}{p:Prop}{v:V}:eY s dst K (p,v)=(p/\K (s.put dst v)):=rfl
def wS(caps:List (Key×Nat)):List V:=caps.map fun y=>.c (.ptr y.1 y.2)
def Jw(P:Program)(fv:V)(args:List V)(s:St)(dst:Option Nat)(K:St->Prop):Prop:=
 match fv with
 | .c (.fn f caps)=>uy P f (args++wS caps) s dst K
 |_=>False
def zm(P:Program)(m:Nat)(f:FuncId)(args:List V)(s:St)(dst:Option Nat)(K:St->Prop):Prop:=
 match m with
 |0=>∃r,aT P f args r/\K (s.put dst r)
 |1=>∃S' v,DS s.st S'/\uy P f args s dst (fun t=>t=St.put ⟨s.tm,S'⟩ dst v)/\K (St.put ⟨s.tm,S'⟩ dst v)
 |_=>∃S' v,uy P f args s dst (fun t=>t=St.put ⟨s.tm,S'⟩ dst v)/\K (St.put ⟨s.tm,S'⟩ dst v)
def uF(P:Program)(m:Nat)(fv:V)(args:List V)(s:St)(dst:Option Nat)(K:St->Prop):Prop:=
 match fv with
 | .c (.fn f caps)=>zm P m f (args++wS caps) s dst K
 |_=>False
@[congr] theorem ab0 {fv Sn:V} {args args':List V} {s s':St} {dst:Option Nat} {K:St->Prop} (h1:fv=Sn) (h3:args=args') (h2:s=s'):Jw P fv args s dst K=Jw P Sn args' s' dst K:=by rw[h1,h2,h3]
@[congr] theorem ab1 {m:Nat} {fv Sn:V} {args args':List V} {s s':St} {dst:Option Nat} {K:St->Prop} (h1:fv=Sn) (h3:args=args') (h2:s=s'):uF P m fv args s dst K=uF P m Sn args' s' dst K:=by rw[h1,h2,h3]
@[congr] theorem ab2 {m:Nat} {f:FuncId} {args args':List V} {s s':St} {dst:Option Nat} {K:St->Prop} (h1:args=args') (h2:s=s'):zm P m f args s dst K=zm P m f args' s' dst K:=by rw[h1,h2]
theorem MK{x:Operand}{args:Array Operand}{ts:Array TypeId}{dst:Option Nat}{K:St->Prop}:jy P ⟨.value x,args,ts⟩ s dst K=Jw P (ev s.tm x) (yM s.tm args.toList) s dst K:=rfl
theorem KO{x y:Operand}{t u:TypeId}{dst:Option Nat}{K:St->Prop}:jy P ⟨.builtin .append,#[x,y],#[t,u]⟩ s dst K=lC P t u (ev s.tm x) (ev s.tm y) s dst K:=rfl
theorem Sq{x:Operand}{t:TypeId}{dst:Option Nat}{K:St->Prop}:jy P ⟨.builtin .len,#[x],#[t]⟩ s dst K=eY s dst K (yY P s.st t (ev s.tm x)):=rfl
theorem Sr{x y:Operand}{ts:Array TypeId}{dst:Option Nat}{K:St->Prop}:jy P ⟨.builtin .max,#[x,y],ts⟩ s dst K=eY s dst K (qL true (ev s.tm x) (ev s.tm y)):=rfl
theorem Sv{x y:Operand}{ts:Array TypeId}{dst:Option Nat}{K:St->Prop}:jy P ⟨.builtin .min,#[x,y],ts⟩ s dst K=eY s dst K (qL false (ev s.tm x) (ev s.tm y)):=rfl
theorem VR{x:Operand}{t:TypeId}{tm:List (Nat×V)}:nval P S tm (.call ⟨.builtin .len,#[x],#[t]⟩)=yY P S t (ev tm x):=rfl
def dQ(P:Program)(mode:Option Nat)(f:FuncId)(args:List V)(s:St)(dst:Option Nat)(K:St->Prop):Prop:=
 match mode with
 |some m=>zm P m f args s dst K
 |none=>uy P f args s dst K
@[congr] theorem ab3 {dr:Option Nat} {f:FuncId} {args args':List V} {s s':St} {dst:Option Nat} {K:St->Prop} (h1:args=args') (h2:s=s'):dQ P dr f args s dst K=dQ P dr f args' s' dst K:=by rw[h1,h2]
theorem VT{f:Nat}{caps:List (Key×Nat)}{args:List V}{dst:Option Nat}{K:St->Prop}:Jw P (.c (.fn f caps)) args s dst K=dQ P none f (args++wS caps) s dst K:=rfl
theorem VU{m:Nat}{f:Nat}{caps:List (Key×Nat)}{args:List V}{dst:Option Nat}{K:St->Prop}:uF P m (.c (.fn f caps)) args s dst K=dQ P (some m) f (args++wS caps) s dst K:=rfl
theorem au{dr:Option Nat}{f:FuncId}{args:List V}{dst:Option Nat}{K:St->Prop}{r:V}(h:aT P f (args.map V.pz) r)(hK:K (s.put dst r)):dQ P dr f args s dst K:=by
 cases dr with
 |none=>exact zk h hK
 |some m=>
  match m with
  |0=>exact⟨r,fun S=>(h S).pz,hK⟩
  |1=>exact⟨s.st,r,DS.refl _,zk h rfl,hK⟩
  |m+2=>exact⟨s.st,r,zk h rfl,hK⟩
def Yv:Option Nat->Bool
 |none=>true
 |some m=>decide (2<=m)
def acC:Option Nat->Bool
 |none=>true
 |some m=>decide (1<=m)
theorem bq{dr:Option Nat}{f:FuncId}{args:List V}{dst:Option Nat}{K:St->Prop}{r:V}{S1:Store}(hm:Yv dr=true)(h:bK P f args s.st (fun r' S'=>r'=r/\S'=S1))(hK:K (St.put ⟨s.tm,S1⟩ dst r)):dQ P dr f args s dst K:=by
 cases dr with
 |none=>exact .inl ⟨_,h,fun r' S' e=>by rw[e.1,e.2];exact hK⟩
 |some m=>
  match m,hm with
  |0,hm=>cases hm
  |1,hm=>cases hm
  |m+2,_=>exact⟨S1,r,.inl ⟨_,h,fun r' S' e=>by rw[e.1,e.2]⟩,hK⟩
theorem aaT{dr:Option Nat}{f:FuncId}{args:List V}{dst:Option Nat}{K:St->Prop}{r:V}{S1:Store}(hm:acC dr=true)(hd:DS s.st S1)(h:bK P f args s.st (fun r' S'=>r'=r/\S'=S1))(hK:K (St.put ⟨s.tm,S1⟩ dst r)):dQ P dr f args s dst K:=by
 cases dr with
 |none=>exact .inl ⟨_,h,fun r' S' e=>by rw[e.1,e.2];exact hK⟩
 |some m=>
  match m,hm with
  |0,hm=>cases hm
  |1,_=>exact⟨S1,r,hd,.inl ⟨_,h,fun r' S' e=>by rw[e.1,e.2]⟩,hK⟩
  |m+2,_=>exact⟨S1,r,.inl ⟨_,h,fun r' S' e=>by rw[e.1,e.2]⟩,hK⟩
theorem aaU{f:FuncId}{args:List V}{dst:Option Nat}{K:St->Prop}{r:V}(h:Pb P f args r)(hK:K (St.put s dst r)):dQ P none f args s dst K:=.inr ⟨r,h,hK⟩
def BQ(P:Program)(R:Array Oper)(os:List Oper)(K:St->Prop)(s:St):Prop:=wO P R os s K
def BR(P:Program)(E:Md)(R:Array Oper)(os:List Oper)(K:St->Prop)(s:St):Prop:=oM P E R os s K
@[congr] theorem ab4 {R:Array Oper} {os:List Oper} {s s':St} {K:St->Prop} (h2:s=s'):BQ P R os K s=BQ P R os K s':=by rw[h2]
@[congr] theorem ab5 {R:Array Oper} {os:List Oper} {s s':St} {K:St->Prop} (h2:s=s'):BR P E R os K s=BR P E R os K s':=by rw[h2]
section
variable {tm:List (Nat×V)} {R:Array Oper} {o:Oper} {os:List Oper} {K:St->Prop}
theorem VW:wO P R [] ⟨tm,S⟩ K=K ⟨tm,S⟩:=rfl
theorem Sw:wO P R (o::os) ⟨tm,S⟩ K=o9 P R o ⟨tm,S⟩ (BQ P R os K):=rfl
theorem Sy:BQ P R [] K ⟨tm,S⟩=K ⟨tm,S⟩:=rfl
theorem PK:BQ P R (o::os) K ⟨tm,S⟩=o9 P R o ⟨tm,S⟩ (BQ P R os K):=rfl
theorem VX:oM P E R [] ⟨tm,S⟩ K=K ⟨tm,S⟩:=rfl
theorem Sz:oM P E R (o::os) ⟨tm,S⟩ K=lD P E R o ⟨tm,S⟩ (BR P E R os K):=rfl
theorem SA:BR P E R [] K ⟨tm,S⟩=K ⟨tm,S⟩:=rfl
theorem PL:BR P E R (o::os) K ⟨tm,S⟩=lD P E R o ⟨tm,S⟩ (BR P E R os K):=rfl
end
section
variable {dst:Option Nat} {ty:TypeId} {pos:String} {after:Array Edge} {g:Option (Nat×Bool)} {K:St->Prop}
theorem ML{t:TypeId}:fM P ⟨dst,.alloc t,ty,pos,after,g⟩ s K=bO P ⟨dst,.alloc t,ty,pos,after,g⟩ s K:=rfl
theorem SB{t:TypeId}{x:Operand}:fM P ⟨dst,.box t x,ty,pos,after,g⟩ s K=bO P ⟨dst,.box t x,ty,pos,after,g⟩ s K:=rfl
theorem MN{t:TypeId}{a x:Operand}:fM P ⟨dst,.store t a x,ty,pos,after,g⟩ s K=bO P ⟨dst,.store t a x,ty,pos,after,g⟩ s K:=rfl
theorem PN{t:TypeId}{a x:Operand}:fM P ⟨dst,.makeSlice t a x,ty,pos,after,g⟩ s K=bO P ⟨dst,.makeSlice t a x,ty,pos,after,g⟩ s K:=rfl
theorem Jb{t:TypeId}{r:Option Operand}:fM P ⟨dst,.makeMap t r,ty,pos,after,g⟩ s K=bO P ⟨dst,.makeMap t r,ty,pos,after,g⟩ s K:=rfl
theorem ET{t:TypeId}{x k v:Operand}:fM P ⟨dst,.mapUpdate t x k v,ty,pos,after,g⟩ s K=bO P ⟨dst,.mapUpdate t x k v,ty,pos,after,g⟩ s K:=rfl
theorem KP{t:TypeId}{x i:Operand}{b:Bool}:fM P ⟨dst,.lookup t x i b,ty,pos,after,g⟩ s K=bO P ⟨dst,.lookup t x i b,ty,pos,after,g⟩ s K:=rfl
theorem PO{x:Operand}{as:Array Operand}{ts:Array TypeId}:fM P ⟨dst,.call ⟨.value x,as,ts⟩,ty,pos,after,g⟩ s K=bO P ⟨dst,.call ⟨.value x,as,ts⟩,ty,pos,after,g⟩ s K:=rfl
theorem SC{as:Array Operand}{ts:Array TypeId}:fM P ⟨dst,.call ⟨.builtin .len,as,ts⟩,ty,pos,after,g⟩ s K=bO P ⟨dst,.call ⟨.builtin .len,as,ts⟩,ty,pos,after,g⟩ s K:=rfl
theorem SE{as:Array Operand}{ts:Array TypeId}:fM P ⟨dst,.call ⟨.builtin .max,as,ts⟩,ty,pos,after,g⟩ s K=bO P ⟨dst,.call ⟨.builtin .max,as,ts⟩,ty,pos,after,g⟩ s K:=rfl
theorem SF{as:Array Operand}{ts:Array TypeId}:fM P ⟨dst,.call ⟨.builtin .min,as,ts⟩,ty,pos,after,g⟩ s K=bO P ⟨dst,.call ⟨.builtin .min,as,ts⟩,ty,pos,after,g⟩ s K:=rfl
theorem PS{x:Operand}:fM P ⟨dst,.move x,ty,pos,after,g⟩ s K=bO P ⟨dst,.move x,ty,pos,after,g⟩ s K:=rfl
theorem KQ{x:Operand}:fM P ⟨dst,.assign x,ty,pos,after,g⟩ s K=bO P ⟨dst,.assign x,ty,pos,after,g⟩ s K:=rfl
theorem PU{c a b:Operand}:fM P ⟨dst,.pick c a b,ty,pos,after,g⟩ s K=bO P ⟨dst,.pick c a b,ty,pos,after,g⟩ s K:=rfl
theorem PV{t:TypeId}{a:Operand}:fM P ⟨dst,.load t a,ty,pos,after,g⟩ s K=bO P ⟨dst,.load t a,ty,pos,after,g⟩ s K:=rfl
theorem EU{t:TypeId}{x:Operand}{f:Nat}:fM P ⟨dst,.fieldAddr t x f,ty,pos,after,g⟩ s K=bO P ⟨dst,.fieldAddr t x f,ty,pos,after,g⟩ s K:=rfl
theorem MO{t:TypeId}{x:Operand}{f:Nat}:fM P ⟨dst,.field t x f,ty,pos,after,g⟩ s K=bO P ⟨dst,.field t x f,ty,pos,after,g⟩ s K:=rfl
theorem EW{t:TypeId}{x i:Operand}:fM P ⟨dst,.indexAddr t x i,ty,pos,after,g⟩ s K=bO P ⟨dst,.indexAddr t x i,ty,pos,after,g⟩ s K:=rfl
theorem MP{t:TypeId}{x i:Operand}:fM P ⟨dst,.index t x i,ty,pos,after,g⟩ s K=bO P ⟨dst,.index t x i,ty,pos,after,g⟩ s K:=rfl
theorem MQ{op:BinOp}{t u:TypeId}{x y:Operand}:fM P ⟨dst,.binOp op t x y u,ty,pos,after,g⟩ s K=bO P ⟨dst,.binOp op t x y u,ty,pos,after,g⟩ s K:=rfl
theorem PW{op:UnOp}{t:TypeId}{x:Operand}:fM P ⟨dst,.unOp op t x,ty,pos,after,g⟩ s K=bO P ⟨dst,.unOp op t x,ty,pos,after,g⟩ s K:=rfl
theorem Jc{a b:TypeId}{x:Operand}:fM P ⟨dst,.convert a b x,ty,pos,after,g⟩ s K=bO P ⟨dst,.convert a b x,ty,pos,after,g⟩ s K:=rfl
theorem Jd{x:Operand}{i:Nat}:fM P ⟨dst,.extract x i,ty,pos,after,g⟩ s K=bO P ⟨dst,.extract x i,ty,pos,after,g⟩ s K:=rfl
theorem Gx{fn:Fn}{a b:Array Operand}:fM P ⟨dst,.makeFunc fn a b,ty,pos,after,g⟩ s K=bO P ⟨dst,.makeFunc fn a b,ty,pos,after,g⟩ s K:=rfl
theorem Gy{x:Operand}:fM P ⟨dst,.nilCheck x,ty,pos,after,g⟩ s K=bO P ⟨dst,.nilCheck x,ty,pos,after,g⟩ s K:=rfl
theorem MR{t:TypeId}{x:Operand}{lo hi mx:Option Operand}:fM P ⟨dst,.slice t x lo hi mx,ty,pos,after,g⟩ s K=bO P ⟨dst,.slice t x lo hi mx,ty,pos,after,g⟩ s K:=rfl
theorem MS{t:TypeId}{parts:Array (Nat×Operand)}:fM P ⟨dst,.build t parts,ty,pos,after,g⟩ s K=bO P ⟨dst,.build t parts,ty,pos,after,g⟩ s K:=rfl
theorem KR{x y:Operand}{t u:TypeId}:fM P ⟨dst,.call ⟨.builtin .append,#[x,y],#[t,u]⟩,ty,pos,after,g⟩ s K=wC P t u (ev s.tm x) (ev s.tm y) s dst K:=rfl
theorem Dv{t:TypeId}{n:Nat}{parts:Array (Nat×Operand)}:fM P ⟨dst,.buildSlice t n parts,ty,pos,after,g⟩ s K=Au P t s dst K (Ph s.st t) (jq P (lI s.st) t n (Ik s.tm parts.toList)):=rfl
theorem PX{t:TypeId}:bO P ⟨dst,.alloc t,ty,pos,after,g⟩ s K=o7 P t s dst K:=rfl
theorem VY{t:TypeId}{x:Operand}:bO P ⟨dst,.box t x,ty,pos,after,g⟩ s K=wM (ev s.tm x) s dst K:=rfl
theorem PY{t:TypeId}{a x:Operand}:bO P ⟨dst,.store t a x,ty,pos,after,g⟩ s K=o8 P t (ev s.tm a) (ev s.tm x) s dst K:=rfl
theorem SG{t:TypeId}{a x:Operand}:bO P ⟨dst,.makeSlice t a x,ty,pos,after,g⟩ s K=rY P t (ev s.tm a) (ev s.tm x) s dst K:=rfl
theorem KT{t:TypeId}:bO P ⟨dst,.makeMap t none,ty,pos,after,g⟩ s K=oz s dst K:=rfl
theorem Gz{t:TypeId}{x k v:Operand}:bO P ⟨dst,.mapUpdate t x k v,ty,pos,after,g⟩ s K=oC P t (ev s.tm x) (ev s.tm k) (ev s.tm v) s dst K:=rfl
theorem MU{t:TypeId}{x i:Operand}:bO P ⟨dst,.lookup t x i false,ty,pos,after,g⟩ s K=eY s dst K (tL P s.st t (ev s.tm x) (ev s.tm i)):=rfl
theorem Je{t:TypeId}:dX P E ⟨dst,.makeMap t none,ty,pos,after,g⟩ s K=oz s dst K:=rfl
theorem EX{t:TypeId}{x k v:Operand}:dX P E ⟨dst,.mapUpdate t x k v,ty,pos,after,g⟩ s K=oC P t (ev s.tm x) (ev s.tm k) (ev s.tm v) s dst K:=rfl
theorem KU{t:TypeId}{x i:Operand}:dX P E ⟨dst,.lookup t x i false,ty,pos,after,g⟩ s K=eY s dst K (tL P s.st t (ev s.tm x) (ev s.tm i)):=rfl
theorem SH{c:Call}:bO P ⟨dst,.call c,ty,pos,after,g⟩ s K=jy P c s dst K:=rfl
theorem SI{x:Operand}:bO P ⟨dst,.move x,ty,pos,after,g⟩ s K=K (s.put dst (ev s.tm x)):=by simp[bO,nval,jY]
theorem MV{x:Operand}:bO P ⟨dst,.assign x,ty,pos,after,g⟩ s K=K (s.put dst (ev s.tm x)):=by simp[bO,nval,jY]
theorem SK{c a b:Operand}:bO P ⟨dst,.pick c a b,ty,pos,after,g⟩ s K=eY s dst K (BF (ev s.tm c) (ev s.tm a) (ev s.tm b)):=rfl
theorem SL{t:TypeId}{a:Operand}:bO P ⟨dst,.load t a,ty,pos,after,g⟩ s K=eY s dst K (vR P s.st t (ev s.tm a)):=rfl
theorem GA{t:TypeId}{x:Operand}{f:Nat}:bO P ⟨dst,.fieldAddr t x f,ty,pos,after,g⟩ s K=eY s dst K (nJ P s.st t (ev s.tm x) f):=rfl
theorem PZ{t:TypeId}{x:Operand}{f:Nat}:bO P ⟨dst,.field t x f,ty,pos,after,g⟩ s K=eY s dst K (yC P t (ev s.tm x) f):=rfl
theorem GD{t:TypeId}{x i:Operand}:bO P ⟨dst,.indexAddr t x i,ty,pos,after,g⟩ s K=eY s dst K (nK P s.st t (ev s.tm x) (ev s.tm i)):=rfl
theorem P5{t:TypeId}{x i:Operand}:bO P ⟨dst,.index t x i,ty,pos,after,g⟩ s K=eY s dst K (yD P t (ev s.tm x) (ev s.tm i)):=rfl
theorem P6{op:BinOp}{t u:TypeId}{x y:Operand}:bO P ⟨dst,.binOp op t x y u,ty,pos,after,g⟩ s K=eY s dst K (Gi P op t (ev s.tm x) (ev s.tm y)):=rfl
theorem SN{op:UnOp}{t:TypeId}{x:Operand}:bO P ⟨dst,.unOp op t x,ty,pos,after,g⟩ s K=eY s dst K (NS op (ev s.tm x)):=rfl
theorem KV{a b:TypeId}{x:Operand}:bO P ⟨dst,.convert a b x,ty,pos,after,g⟩ s K=eY s dst K (BH P a b (ev s.tm x)):=rfl
theorem KW{x:Operand}{i:Nat}:bO P ⟨dst,.extract x i,ty,pos,after,g⟩ s K=eY s dst K (tK (ev s.tm x) i):=rfl
theorem Jf{fn:Fn}{a b:Array Operand}:bO P ⟨dst,.makeFunc fn a b,ty,pos,after,g⟩ s K=eY s dst K (qU fn (yM s.tm a.toList) (yM s.tm b.toList)):=rfl
theorem Jg{x:Operand}:bO P ⟨dst,.nilCheck x,ty,pos,after,g⟩ s K=eY s dst K (qV s.st (ev s.tm x)):=rfl
theorem P7{t:TypeId}{x:Operand}{lo hi mx:Option Operand}:bO P ⟨dst,.slice t x lo hi mx,ty,pos,after,g⟩ s K=eY s dst K (yE P t (ev s.tm x) (Ij s.tm lo) (Ij s.tm hi) (Ij s.tm mx)):=rfl
theorem P8{t:TypeId}{parts:Array (Nat×Operand)}:bO P ⟨dst,.build t parts,ty,pos,after,g⟩ s K=eY s dst K (yF P t (Ik s.tm parts.toList)):=rfl
theorem EY{t:TypeId}{n:Nat}{parts:Array (Nat×Operand)}:bO P ⟨dst,.buildSlice t n parts,ty,pos,after,g⟩ s K=eY s dst K (jq P (lI s.st) t n (Ik s.tm parts.toList)):=rfl
theorem MW{t:TypeId}:dX P E ⟨dst,.alloc t,ty,pos,after,g⟩ s K=o7 P t s dst K:=rfl
theorem SQ{t:TypeId}{x:Operand}:dX P E ⟨dst,.box t x,ty,pos,after,g⟩ s K=wM (ev s.tm x) s dst K:=rfl
theorem MX{t:TypeId}{a x:Operand}:dX P E ⟨dst,.store t a x,ty,pos,after,g⟩ s K=o8 P t (ev s.tm a) (ev s.tm x) s dst K:=rfl
theorem P9{t:TypeId}{a x:Operand}:dX P E ⟨dst,.makeSlice t a x,ty,pos,after,g⟩ s K=rY P t (ev s.tm a) (ev s.tm x) s dst K:=rfl
theorem KX{x y:Operand}{t u:TypeId}:dX P E ⟨dst,.call ⟨.builtin .append,#[x,y],#[t,u]⟩,ty,pos,after,g⟩ s K=Ay P (E (.call ⟨.builtin .append,#[x,y],#[t,u]⟩)) t u (ev s.tm x) (ev s.tm y) s dst K:=rfl
theorem Qa{x:Operand}:dX P E ⟨dst,.move x,ty,pos,after,g⟩ s K=K (s.put dst (ev s.tm x)):=by simp[dX,mD,nval,jY]
theorem KY{x:Operand}:dX P E ⟨dst,.assign x,ty,pos,after,g⟩ s K=K (s.put dst (ev s.tm x)):=by simp[dX,mD,nval,jY]
theorem Qb{c a b:Operand}:dX P E ⟨dst,.pick c a b,ty,pos,after,g⟩ s K=eY s dst K (BF (ev s.tm c) (ev s.tm a) (ev s.tm b)):=rfl
theorem Qc{t:TypeId}{a:Operand}:dX P E ⟨dst,.load t a,ty,pos,after,g⟩ s K=eY s dst K (vR P s.st t (ev s.tm a)):=rfl
theorem EZ{t:TypeId}{x:Operand}{f:Nat}:dX P E ⟨dst,.fieldAddr t x f,ty,pos,after,g⟩ s K=eY s dst K (nJ P s.st t (ev s.tm x) f):=rfl
theorem MZ{t:TypeId}{x:Operand}{f:Nat}:dX P E ⟨dst,.field t x f,ty,pos,after,g⟩ s K=eY s dst K (yC P t (ev s.tm x) f):=rfl
theorem E5{t:TypeId}{x i:Operand}:dX P E ⟨dst,.indexAddr t x i,ty,pos,after,g⟩ s K=eY s dst K (nK P s.st t (ev s.tm x) (ev s.tm i)):=rfl
theorem M0{t:TypeId}{x i:Operand}:dX P E ⟨dst,.index t x i,ty,pos,after,g⟩ s K=eY s dst K (yD P t (ev s.tm x) (ev s.tm i)):=rfl
theorem M4{op:BinOp}{t u:TypeId}{x y:Operand}:dX P E ⟨dst,.binOp op t x y u,ty,pos,after,g⟩ s K=eY s dst K (Gi P op t (ev s.tm x) (ev s.tm y)):=rfl
theorem Qd{op:UnOp}{t:TypeId}{x:Operand}:dX P E ⟨dst,.unOp op t x,ty,pos,after,g⟩ s K=eY s dst K (NS op (ev s.tm x)):=rfl
theorem Jh{a b:TypeId}{x:Operand}:dX P E ⟨dst,.convert a b x,ty,pos,after,g⟩ s K=eY s dst K (BH P a b (ev s.tm x)):=rfl
theorem Ji{x:Operand}{i:Nat}:dX P E ⟨dst,.extract x i,ty,pos,after,g⟩ s K=eY s dst K (tK (ev s.tm x) i):=rfl
theorem GH{fn:Fn}{a b:Array Operand}:dX P E ⟨dst,.makeFunc fn a b,ty,pos,after,g⟩ s K=eY s dst K (qU fn (yM s.tm a.toList) (yM s.tm b.toList)):=rfl
theorem GI{x:Operand}:dX P E ⟨dst,.nilCheck x,ty,pos,after,g⟩ s K=eY s dst K (qV s.st (ev s.tm x)):=rfl
theorem M5{t:TypeId}{x:Operand}{lo hi mx:Option Operand}:dX P E ⟨dst,.slice t x lo hi mx,ty,pos,after,g⟩ s K=eY s dst K (yE P t (ev s.tm x) (Ij s.tm lo) (Ij s.tm hi) (Ij s.tm mx)):=rfl
theorem M6{t:TypeId}{parts:Array (Nat×Operand)}:dX P E ⟨dst,.build t parts,ty,pos,after,g⟩ s K=eY s dst K (yF P t (Ik s.tm parts.toList)):=rfl
theorem Dw{t:TypeId}{n:Nat}{parts:Array (Nat×Operand)}:dX P E ⟨dst,.buildSlice t n parts,ty,pos,after,g⟩ s K=eY s dst K (jq P (lI s.st) t n (Ik s.tm parts.toList)):=rfl
theorem SS{args:Array Operand}{ts:Array TypeId}:dX P E ⟨dst,.call ⟨.builtin .len,args,ts⟩,ty,pos,after,g⟩ s K=eY s dst K (nval P s.st s.tm (.call ⟨.builtin .len,args,ts⟩)):=rfl
theorem SV{x y:Operand}{ts:Array TypeId}:dX P E ⟨dst,.call ⟨.builtin .max,#[x,y],ts⟩,ty,pos,after,g⟩ s K=eY s dst K (qL true (ev s.tm x) (ev s.tm y)):=rfl
theorem SX{x y:Operand}{ts:Array TypeId}:dX P E ⟨dst,.call ⟨.builtin .min,#[x,y],ts⟩,ty,pos,after,g⟩ s K=eY s dst K (qL false (ev s.tm x) (ev s.tm y)):=rfl
theorem Qe{x:Operand}{args:Array Operand}{ts:Array TypeId}:dX P E ⟨dst,.call ⟨.value x,args,ts⟩,ty,pos,after,g⟩ s K=uF P (E (.call ⟨.value x,args,ts⟩)) (ev s.tm x) (yM s.tm args.toList) s dst K:=by
 simp only[dX,mD];generalize E (.call ⟨.value x,args,ts⟩)=m
 match m with
 |0=>
  simp only[ze];generalize ev s.tm x=fv
  cases fv with
  |c x=>cases x<;>simp[uF,zm,wS,yM]
  |_=>simp[uF]
 |1=>
  simp only[bO,jy];generalize ev s.tm x=fv
  cases fv with
  |c x=>cases x<;>simp[uF,zm,wS,yM]
  |_=>simp[uF]
 |m+2=>
  simp only[bO,jy];generalize ev s.tm x=fv
  cases fv with
  |c x=>cases x<;>simp[uF,zm,wS,yM]
  |_=>simp[uF]
end
def vW(v:V)(A B:St->Prop)(s:St):Prop:=
 match v with
 | .c (.d (.b x))=>Split x A B s
 |_=>False
def CW(P:Program)(N:Nat):Code->(Exit->St->Prop)->St->Prop
 | .seq x y,Q,s=>CW P N x (gZ (CW P N y Q) Q) s
 | .region _ R false,Q,s=>wO P R R.toList s (Q .normal)
 | .region _ R true,Q,s=>oM P (EM R N) R R.toList s (Q .normal)
 | .cond c x y,Q,s=>vW (ev s.tm c) (CW P N x Q) (CW P N y Q) s
 | .block id c,Q,s=>CW P N c (su id Q) s
 | .exit id,Q,s=>Q (.exit id) s
 | .ret,Q,s=>Q .ret s
 | .skip,Q,s=>Q .normal s
 | .loop c,Q,s=>AW P N (.loop c) Q s
 |_,_,_=>False
def acD(N:Nat)(R:Array Oper):Bool:=R.toList.all (fun o=>match o.dst with|some d=>decide (d<N)|none=>true)
def codeOk(N:Nat):Code->Bool
 | .seq x y=>codeOk N x&&codeOk N y
 | .region _ R false=>acD N R
 | .region _ R true=>Gv R N
 | .cond _ x y=>codeOk N x&&codeOk N y
 | .block _ c=>codeOk N c
 | .loop c=>codeOk N c
 |_=>true
theorem jR(fK:P.follows .mixedOrders=true):∀(c:Code)(Q:Exit->St->Prop)(s:St),codeOk N c=true->CW P N c Q s->AW P N c Q s
 | .seq x y,Q,s,ok,h=>by
   simp only[codeOk,aq] at ok;refine R5 (AW.mono (jR fK x _ s ok.1 h) fun e s' h'=> ?_)
   cases e with
   |normal=>exact jR fK y Q s' ok.2 h'
   |_=>exact h'
 | .region _ R false,Q,s,ok,h=>R6 ok h
 | .region _ R true,Q,s,ok,h=>Pv fK ok h
 | .cond c x y,Q,s,ok,h=>by
   simp only[codeOk,aq] at ok;simp only[CW,vW] at h;split at h
   ·rename_i b hb;exact N7 hb (fun e=>jR fK x Q s ok.1 (h.1 e)) (fun e=>jR fK y Q s ok.2 (h.2 e))
   ·exact h.elim
 | .block id c,Q,s,ok,h=>Kr (jR fK c _ s ok h)
 | .exit id,Q,s,ok,h=>YV h
 | .ret,Q,s,ok,h=>aaB h
 | .skip,Q,s,ok,h=>YU h
 | .loop c,Q,s,ok,h=>h
 | .rangeFunc _ _ _ _,Q,s,ok,h=>h.elim
 | .scope _,Q,s,ok,h=>h.elim
 | .label _,Q,s,ok,h=>h.elim
 | .goto _,Q,s,ok,h=>h.elim
 | .refuse _,Q,s,ok,h=>h.elim
theorem aaV{x y:Code}{Q:Exit->St->Prop}:CW P N (.seq x y) Q s=CW P N x (gZ (CW P N y Q) Q) s:=by rw[CW]
theorem SY{id:Nat}{l:List Oper}{Q:Exit->St->Prop}:CW P N (.region id ⟨l⟩ false) Q s=wO P ⟨l⟩ l s (Q .normal):=by rw[CW]
theorem Zc{id:Nat}{l:List Oper}{Q:Exit->St->Prop}:CW P N (.region id ⟨l⟩ true) Q s=oM P (EM ⟨l⟩ N) ⟨l⟩ l s (Q .normal):=by rw[CW]
theorem Zd{c:Operand}{x y:Code}{Q:Exit->St->Prop}:CW P N (.cond c x y) Q s=vW (ev s.tm c) (CW P N x Q) (CW P N y Q) s:=by rw[CW]
theorem VZ{id:Nat}{c:Code}{Q:Exit->St->Prop}:CW P N (.block id c) Q s=CW P N c (su id Q) s:=by rw[CW]
theorem Ze{id:Nat}{Q:Exit->St->Prop}:CW P N (.exit id) Q s=Q (.exit id) s:=by rw[CW]
theorem aaW{Q:Exit->St->Prop}:CW P N .ret Q s=Q .ret s:=by rw[CW]
theorem Zf{Q:Exit->St->Prop}:CW P N .skip Q s=Q .normal s:=by rw[CW]
theorem Ob{c:Code}{Q:Exit->St->Prop}:CW P N (.loop c) Q s=AW P N (.loop c) Q s:=by rw[CW]
theorem KZ{K:St->Prop}{Q:Exit->St->Prop}:gZ K Q .normal s=K s:=rfl
theorem S9{K:St->Prop}{Q:Exit->St->Prop}:gZ K Q .ret s=Q .ret s:=rfl
theorem Qf{K:St->Prop}{Q:Exit->St->Prop}{i:Nat}:gZ K Q (.exit i) s=Q (.exit i) s:=rfl
theorem K3{id:Nat}{Q:Exit->St->Prop}:su id Q .normal s=Q .normal s:=rfl
theorem Ta{id:Nat}{Q:Exit->St->Prop}:su id Q .ret s=Q .ret s:=rfl
theorem Qg{id i:Nat}{Q:Exit->St->Prop}:su id Q (.exit i) s=if i=id then Q .normal s else Q (.exit i) s:=rfl
def V3(post:V->Store->Prop)(s:St)(r:R):Prop:=r.1/\match r.2.ret with
 |some v=>post v (fF s.st)
 |none=>False
theorem Zg{post:V->Store->Prop}{p:Prop}{v:V}:V3 post s (p,v)=(p/\match v.ret with
 |some v=>post v (fF s.st)
 |none=>False):=rfl
def GJ(P:Program)(rs:List ResultVar)(post:V->Store->Prop)(e:Exit)(s:St):Prop:=Vf P rs post e (yL s)
def K4(P:Program)(rs:List ResultVar)(post:V->Store->Prop)(s:St):Prop:=V3 post s (kS P rs s)
theorem V4{rs:List ResultVar}{post:V->Store->Prop}:GJ P rs post .ret s=K4 P rs post (yL s):=rfl
theorem M7{rs:List ResultVar}{post:V->Store->Prop}:GJ P rs post .normal s=K4 P rs post (yL s):=rfl
theorem Zh{rs:List ResultVar}{post:V->Store->Prop}{tm:List (Nat×V)}:K4 P rs post ⟨tm,S⟩=V3 post ⟨tm,S⟩ (kS P rs ⟨tm,S⟩):=rfl
def aaX(j:Nat)(es:List (List D))(tm:List (Nat×V)):List (Nat×V):=tm.map fun x=>(x.1,x.2.jT j es)
theorem Tc{j:Nat}{es:List (List D)}{tm:List (Nat×V)}{t:Nat}:look (aaX j es tm) t=(look tm t).jT j es:=tX (f:=V.jT j es) rfl tm t
def aaY(j:Nat)(tm:List (Nat×V))(own:List Obj)(Ω:Store):Option Obj->St
 |some (.cZ _ es)=>⟨aaX j es tm,(own.map (Obj.jT j es)).set j .dead::Ω⟩
 |_=>⟨tm,own::Ω⟩
theorem V5{j:Nat}{tm:List (Nat×V)}{own:List Obj}{Ω:Store}:EP j ⟨tm,own::Ω⟩=aaY j tm own Ω (own[j]?):=by
 unfold EP
 simp only
 generalize own[j]? =o
 cases o with
 |none=>rfl
 |some o=>cases o<;>rfl
theorem Td{tm:List (Nat×V)}{own:List Obj}{Ω:Store}:yL ⟨tm,own::Ω⟩=ER own.length ⟨tm,own::Ω⟩:=rfl
theorem aC{f:FuncId}{fn:Func}{c:Code}{args:List V}{post:V->Store->Prop}{rs:List ResultVar}(fK:P.follows .mixedOrders=true)(hf:P.funcs[f]? =some fn)(hN:fn.ntmps=N)
 (hb:fn.body=some c) (hn:(fn.name== "runtime.NumGoroutine")=false) (hr:fn.results.toList=rs) (hl:Nat.ble args.length N=true) (hok:codeOk N c=true)
 (h:CW P N c (GJ P rs post) ⟨jZ (args.map (V.up 1)) 0,[]::S⟩):bK P f args S post:=by
 subst hN;subst hr;exact uz hf hb hn (dc hl) (ES sG (jR fK c _ _ hok h))
end
theorem Oc(n:Int)(h: -9223372036854775808<=n/\n<=9223372036854775807):IntKind.i64.wrap n=n:=IntWalk.i64_in n h
theorem getD_map{α β:Type}(f:α->β)(l:List α)(i:Nat)(d:β)(h:i<l.length):(l.map f).getD i d=f l[i]:=by
 simp[List.getD,h]
theorem Qh{k:IntKind}{n:Int}:wH (.int k n)=.c (.d (.i k n)):=rfl
theorem M8{b:Bool}:wH (.bool b)=.c (.d (.b b)):=rfl
theorem Qi{l:List UInt8}:wH (.string ⟨⟨l⟩⟩)=.c (.d (.s l)):=rfl
theorem M9:wH (.slice none 0 0)=.c (.bF []):=rfl
theorem V6{tm:List (Nat×V)}{S:Store}{d:Nat}{v:V}:St.put ⟨tm,S⟩ (some d) v=⟨(d,v)::tm,S⟩:=rfl
theorem V7{tm:List (Nat×V)}{S:Store}{v:V}:St.put ⟨tm,S⟩ none v=⟨tm,S⟩:=rfl
theorem aaZ{a b:V}:BF (.c (.d (.b true))) a b=(True,a):=rfl
theorem aa0{a b:V}:BF (.c (.d (.b false))) a b=(True,b):=rfl
theorem Na{tm:List (Nat×V)}{own:List Obj}{Ω:Store}{dst:Option Nat}{o:Obj}{mk:Key->V}{K:St->Prop}:
 newObj ⟨tm,own::Ω⟩ dst o mk K=K (St.put ⟨tm,(own++[o])::Ω⟩ dst (mk (0,own.length))):=rfl
theorem aa1{x:C}{s:St}{dst:Option Nat}{K:St->Prop}:wM (.c x) s dst K=newObj s dst (.box [x]) (fun k=>.c (.ptr k 0)) K:=rfl
theorem V8{x:List C}{s:St}{dst:Option Nat}{K:St->Prop}:wM (.agg x) s dst K=newObj s dst (.box x) (fun k=>.c (.ptr k 0)) K:=rfl
theorem V9{α β:Type}{f:α->Option β}:([]:List α).mapM f=some []:=by simp
theorem Te{α β:Type}{f:α->Option β}{x:α}{xs:List α}:(x::xs).mapM f=(f x).bind fun y=>(xs.mapM f).bind fun ys=>some (y::ys):=by
 rw[cV];rfl
theorem acE{c:C}:C.down 0 c=some c:=by cases c<;>simp[C.down]
theorem Wd{n m j:Nat}{es:List (List D)}:C.down n (.bM (n+m,j) es)=some (.bM (m,j) es):=by simp[C.down]
theorem Tf{n j:Nat}{es:List (List D)}:C.down n (.bM (n,j) es)=some (.bM (0,j) es):=by simp[C.down]
theorem aa2{n:Nat}{x:D}:C.down n (.d x)=some (.d x):=rfl
theorem Wh{n:Nat}:C.down n .any=some .any:=rfl
theorem Wi{n:Nat}{es:List (List D)}:C.down n (.bF es)=some (.bF es):=rfl
theorem Wj{n m j off:Nat}:C.down n (.ptr (n+m,j) off)=some (.ptr (m,j) off):=by simp[C.down]
theorem Tg{n j off:Nat}:C.down n (.ptr (n,j) off)=some (.ptr (0,j) off):=by simp[C.down]
theorem Wl{n m:Nat}{es:List (List D)}:C.down n (.kF m es)=some (.kF m es):=rfl
theorem Wm{Ω:Store}:lI ([]::Ω)=none:=rfl
theorem Wn{cs:List C}{own:List Obj}{Ω:Store}:lI ((.box cs::own)::Ω)=none:=rfl
theorem Wo{z:Nat}{es:List (List D)}{own:List Obj}{Ω:Store}:lI ((.tok z es::own)::Ω)=none:=rfl
theorem Ti{z:Nat}{es:List (List D)}{own:List Obj}{Ω:Store}:lI ((.cZ z es::own)::Ω)=none:=rfl
theorem Zi{m:List (List UInt8)}{own:List Obj}{Ω:Store}:lI ((.mp m::own)::Ω)=none:=rfl
theorem Tj{own:List Obj}{Ω:Store}:lI ((.dead::own)::Ω)=none:=rfl
theorem Tk{n z:Nat}{es:List (List D)}{own:List Obj}{Ω:Store}:lI ((.gX n z es::own)::Ω)=none:=rfl
theorem Tm{n:Nat}{own:List Obj}{Ω:Store}:lI ((.seed n::own)::Ω)=some n:=rfl
theorem Tn{es x:List (List D)}{z:Nat}{s:St}{dst:Option Nat}{K:St->Prop}:wN none es s dst z x K=vB (rZ s.st) es s dst z x K:=rfl
theorem Qj{es x:List (List D)}{z:Nat}{s:St}{dst:Option Nat}{K:St->Prop}:vB false es s dst z x K=newObj s dst (.tok z x) (fun k=>.c (.bM k x)) K:=rfl
theorem Tp{es x:List (List D)}{z:Nat}{s:St}{dst:Option Nat}{K:St->Prop}:vB true es s dst z x K=(es.length<x.length/\newObj s dst (.cZ z x) (fun k=>.c (.eP k)) K):=rfl
theorem Wp{Ω:Store}:rZ ([]::Ω)=false:=rfl
theorem Wq{cs:List C}{own:List Obj}{Ω:Store}:rZ ((.box cs::own)::Ω)=false:=rfl
theorem Ws{z:Nat}{es:List (List D)}{own:List Obj}{Ω:Store}:rZ ((.tok z es::own)::Ω)=false:=rfl
theorem Tq{z:Nat}{es:List (List D)}{own:List Obj}{Ω:Store}:rZ ((.cZ z es::own)::Ω)=false:=rfl
theorem Zj{m:List (List UInt8)}{own:List Obj}{Ω:Store}:rZ ((.mp m::own)::Ω)=false:=rfl
theorem Tt{own:List Obj}{Ω:Store}:rZ ((.dead::own)::Ω)=false:=rfl
theorem Tv{n z:Nat}{es:List (List D)}{own:List Obj}{Ω:Store}:rZ ((.gX n z es::own)::Ω)=false:=rfl
theorem Tw{n:Nat}{own:List Obj}{Ω:Store}:rZ ((.seed n::own)::Ω)=false:=rfl
theorem Zk{own:List Obj}{Ω:Store}:rZ ((.xf []::own)::Ω)=false:=rfl
theorem Wt{own:List Obj}{Ω:Store}{r:List (List D)}{rs:List (List (List D))}:rZ ((.xf (r::rs)::own)::Ω)=true:=rfl
theorem Wu{n:Nat}{x:List (List D)}{z:Nat}{s:St}{dst:Option Nat}{K:St->Prop}:wN (some n) [] s dst z x K=K (St.put ⟨s.tm,s.st⟩ dst (.c (.d (.ol n x)))):=rfl
theorem Tx{n:Nat}{y:List D}{es x:List (List D)}{z:Nat}{s:St}{dst:Option Nat}{K:St->Prop}:wN (some n) (y::es) s dst z x K=newObj s dst (.tok z x) (fun k=>.c (.bM k x)) K:=rfl
theorem Qk{n:Nat}{x:List (List D)}{z:Nat}{s:St}{dst:Option Nat}{K:St->Prop}:yg false n s dst z x K=newObj s dst (.gX n z x) (fun k=>.c (.bM k x)) K:=rfl
theorem Tz{n:Nat}{x:List (List D)}{z:Nat}{s:St}{dst:Option Nat}{K:St->Prop}:yg true n s dst z x K=K (St.put ⟨s.tm,s.st⟩ dst (.c (.d (.ol n x)))):=rfl
theorem Wv{own:List Obj}{Ω:Store}:O9 (own::Ω)=r9 own[1]? :=rfl
theorem Ql:r9 none=false:=rfl
theorem TA{cs:List C}:r9 (some (.box cs))=false:=rfl
theorem TB{z:Nat}{es:List (List D)}:r9 (some (.tok z es))=false:=rfl
theorem Qm{n z:Nat}{es:List (List D)}:r9 (some (.gX n z es))=false:=rfl
theorem Qn{z:Nat}{es:List (List D)}:r9 (some (.cZ z es))=false:=rfl
theorem Qo:r9 (some .dead)=false:=rfl
theorem Ww{m:List (List UInt8)}:r9 (some (.mp m))=false:=rfl
theorem Zl{own:List Obj}{Ω:Store}{t:TypeId}:Ph (own::Ω) t=vC own[0]? t:=rfl
theorem TD{t:TypeId}:vC none t=false:=rfl
theorem Wx{t:TypeId}{cs:List C}:vC (some (.box cs)) t=false:=rfl
theorem Wy{t:TypeId}{z:Nat}{es:List (List D)}:vC (some (.tok z es)) t=false:=rfl
theorem TF{t:TypeId}{n z:Nat}{es:List (List D)}:vC (some (.gX n z es)) t=false:=rfl
theorem TG{t:TypeId}{z:Nat}{es:List (List D)}:vC (some (.cZ z es)) t=false:=rfl
theorem TH{t:TypeId}:vC (some .dead) t=false:=rfl
theorem Zm{t:TypeId}{m:List (List UInt8)}:vC (some (.mp m)) t=false:=rfl
theorem TI{t:TypeId}{n:Nat}:vC (some (.seed n)) t=false:=rfl
theorem Zn{t:TypeId}:vC (some (.xf [])) t=rowIs t:=rfl
theorem Wz{t:TypeId}{r:List (List D)}{rs:List (List (List D))}:vC (some (.xf (r::rs))) t=false:=rfl
theorem Qp{P:Program}{t:TypeId}{s:St}{dst:Option Nat}{K:St->Prop}{r:R}:Au P t s dst K false r=eY s dst K r:=rfl
theorem TJ{P:Program}{t:TypeId}{s:St}{dst:Option Nat}{K:St->Prop}{p:Prop}{es:List (List D)}:Au P t s dst K true (p,.c (.bF es))=(match P.underlying t with
 |some (.slice e)=>p/\newObj s dst (.cZ (P.cellsOf e) es) (fun k=>.c (.eP k)) K
 |_=>False):=rfl
theorem Zo{own:List Obj}{Ω:Store}{rs:List (List (List D))}:lI ((.xf rs::own)::Ω)=none:=rfl
theorem Nb:r9 (some (.seed 0))=false:=rfl
theorem Nc:r9 (some (.seed 1))=true:=rfl
attribute [go_sem ↓] ML SB MN PN Jb ET KP PO SC SE SF PS KQ PU PV EU MO EW MP MQ PW Jc Jd Gx Gy MR MS KR Dv
attribute [go_sem] Zl TD Wx Wy TF TG TH Zm TI Zn Wz rowIs Qp TJ Zo wC Ay kN List.getElem?_nil
attribute [go_sem] Qj Tp Wp Wq Ws Tq Zj Tt Tv Tw Zk Wt Tn Wu Tx Qk Tz Wv Ql TA TB Qm Qn Qo Ww Nb Nc
theorem WA{P:Program}{t:TypeId}{n:Nat}{parts:List (Nat×V)}:jq P none t n parts=mP P t n parts:=rfl
def Yw(m:Nat):R->R
 |(p,.c (.bF es))=>(p,.c (.kF m es))
 |_=>no
theorem WB{m:Nat}{p:Prop}{es:List (List D)}:Yw m (p,.c (.bF es))=(p,.c (.kF m es)):=rfl
theorem WC{P:Program}{m:Nat}{t:TypeId}{n:Nat}{parts:List (Nat×V)}:jq P (some m) t n parts=Yw m (mP P t n parts):=rfl
attribute [go_sem_proc] Nat.reduceEqDiff Nat.reduceAdd Nat.reduceLeDiff Nat.reduceSub Nat.reduceMul Nat.reduceBEq Int.reduceEq Int.reduceLT Int.reduceLE Int.reduceGT Int.reduceGE Int.reduceNeg Int.reduceToNat
attribute [go_sem_proc ↓] reduceIte
attribute [wf_preprocess] decide_eq_true_eq decide_eq_false_iff_not Bool.not_eq_true Bool.not_eq_false Bool.not_eq_eq_eq_not Bool.not_true Bool.not_false Classical.not_not
attribute [go_sem ↓] VW Sw Sy PK VX Sz SA PL MI MJ KM KN Zb VP Sm aaV SY Zc Zd VZ Ze aaW Zf Ob KZ S9 Qf K3 Ta Qg V4 M7 Td MK KO Sq Sr Sv SV SX PX VY PY SG KT Gz MU Je EX KU SH SI MV SK SL GA PZ GD P5 P6 SN KV KW Jf Jg P7 P8 EY MW SQ MX P9 KX Qa KY Qb Qc EZ MZ E5 M0 M4 Qd Jh Ji GH GI M5 M6 Dw SS Qe
attribute [go_sem] wR PG MH VQ Zh Zg vW ER V5 aaY Tc V.jT C.jT Obj.jT VR VT VU wS
 PD PE Y9 VK VL VN Za VO ev Qh M8 Qi M9 yB V6 V7 look aaZ aa0 Na aa1 V8 o7 o8 rY lC Kh
 vR BG rQ headD OU nJ yC xH uO nK yD OV OW Gi OX NS BH tK yY yE rR qU capOf qV
 JV qL tL oz oC qB aN aP C.up V.up uM eB jZ V.pz C.pz acE Wd Tf aa2 Wh Wi Wj Tg
 af ap cJ ba ae aa az cL Option.map_none dp Option.bind_none
 List.getElem?_cons_zero df List.set_cons_zero List.set_cons_succ cQ List.drop_succ_cons List.drop_nil List.take_zero List.take_succ_cons List.take_nil
 if_true if_false true_and and_true cN cA dC cT eq dd Bool.true_eq_false ed ex reduceCtorEq
 decide_true decide_false ef dj bx bj Option.isSome_some Option.isSome_none Oc getD_map V9 Te Hw splice al yZ yF qW mP dC Wm Wn Wo Ti Zi Tj Tk Tm WA WC WB Wl
section
variable {P:Program} {S S':Store} {N:Nat} {s:St}
def jl:List Nat->List V->List (Nat×V)
 |t::ts,v::vs=>(t,v)::jl ts vs
 |_,_=>[]
theorem tY(f:Nat->V):∀(ts:List Nat)(t:Nat),look (jl ts (ts.map f)) t=f t\/look (jl ts (ts.map f)) t=.any
 |[],t=>.inr rfl
 |u::us,t=>by
  show(if u=t then f u else look (jl us (us.map f)) t)=f t\/(if u=t then f u else look (jl us (us.map f)) t)=.any;by_cases e:u=t
  ·left;rw[if_pos e,e]
  ·rw[if_neg e];exact tY f us t
def Inv{ι:Type}(N:Nat)(ts:List Nat)(f:ι->List V)(g:ι->Store)(p:ι->Prop)(μ:ι->Nat)(i:ι)(s':St):Prop:=∃j s0,μ j<μ i/\gQ N s' s0/\ts.map (look s0.tm)=f j/\s0.st=g j/\p j
theorem bU{ι:Type}{ts:List Nat}{f:ι->List V}{g:ι->Store}{p:ι->Prop}{μ:ι->Nat}{i:ι}(j:ι)(h1:μ j<μ i)(h2:ts.map (look s.tm)=f j)(h3:s.st=g j)(h4:p j):Inv N ts f g p μ i s:=
 ⟨j,s,h1,gQ.refl _ _,h2,h3,h4⟩
theorem AQ:∀(ts:List Nat)(vs:List V),ts.Nodup->ts.length=vs.length->ts.map (look (jl ts vs))=vs
 |[],[],_,_=>rfl
 |t::ts,v::vs,hn,hl=>by
  have hn':=List.nodup_cons.1 hn;have ih:=AQ ts vs hn'.2 (by simpa using hl);simp only[jl,af,look,if_true,eI,true_and];rw[<-ih];refine cG fun u hu=> ?_;have hne:t≠u:=fun e=>hn'.1 (e▸hu);rw[if_neg hne,ih]
theorem dL{ι:Type}{ts:List Nat}{f:ι->List V}{g:ι->Store}{p:ι->Prop}{μ:ι->Nat}{i:ι}{tm:List (Nat×V)}{own:List Obj}{Ω:Store}(n:Nat)(hnd:ts.Nodup)(j:ι)(h1:μ j<μ i)(h2:ts.map (look tm)=f j)(h3:own.take n::Ω=g j)
 (hr:nk n (jl ts (f j))=true)(ho:(own.take n).all (Obj.refs n)=true)(h4:p j):Inv N ts f g p μ i ⟨tm,own::Ω⟩:=by
 refine⟨j,⟨jl ts (f j),own.take n::Ω⟩,h1,?_,?_,h3,h4⟩
 ·have hg:gQ N ⟨tm,own::Ω⟩ ⟨jl ts (f j),own::Ω⟩:=by
   rw[<-h2];exact KF fun t=>tY _ ts t
  exact hg.trans (Py n hr ho)
 ·exact AQ ts (f j) hnd (by rw[<-h2];simp)
theorem bn{ι:Type}{c:Code}{Q:Exit->St->Prop}(fK:P.follows .mixedOrders=true)(hok:codeOk N c=true)(ts:List Nat)(f:ι->List V)(g:ι->Store)(p:ι->Prop)(μ:ι->Nat)(i0:ι)
 (h1:ts.map (look s.tm)=f i0)(h2:s.st=g i0)(h3:p i0)
 (round:∀i,p i->CW P N c (gZ (Inv N ts f g p μ i) Q) ⟨jl ts (f i),g i⟩):AW P N (.loop c) Q s:=by
 refine Gt (ι:=ι) (fun i s=>∃s0,gQ N s s0/\ts.map (look s0.tm)=f i/\s0.st=g i/\p i) μ i0 ⟨s,gQ.refl _ _,h1,h2,h3⟩ fun i s hI=> ?_;obtain⟨s0,hg,h1,h2,h3⟩:=hI;refine lK ?_ hg
 have hr:=(jR fK c _ _ hok (round i h3)).mono (Q':=gZ (fun s'=>∃j,μ j<μ i/\∃s0,gQ N s' s0/\ts.map (look s0.tm)=f j/\s0.st=g j/\p j) Q) fun e s' h=>by
  cases e with
  |normal=>
   obtain⟨j,s0,a1,a2,a3,a4,a5⟩:=h;exact⟨j,a1,s0,a2,a3,a4,a5⟩
  |_=>exact h
 obtain⟨tm,st⟩:=s0;simp only at h1 h2;subst h2;rw[<-h1] at hr;exact Px hr fun t=>tY _ ts t
theorem WE:kS P [] s=(True,.gq []):=rfl
theorem WG{x:ResultVar}:kS P [x] s=sw P s x:=rfl
theorem WH{x y:ResultVar}{z:List ResultVar}:kS P (x::y::z) s=(match(lJ P s (x::y::z)).2 with
 |some ys=>((lJ P s (x::y::z)).1,.gq ys)
 |none=>no):=rfl
end
attribute [go_sem] Ag Jt
attribute [go_sem] jl WE WG WH sw lJ EJ fF V.ret BL
end Go.Ab