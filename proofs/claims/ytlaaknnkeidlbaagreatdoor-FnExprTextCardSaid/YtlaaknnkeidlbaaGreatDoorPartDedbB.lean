/-
  SEVERAL TEXTS IN ONE (merged by program): contracts and models, each with its own heading.
-/
import Derived.Test.YtlaaknnkeidlbaaGreatDoorPartDedbA
import Derived.LoopN
import Derived.StillTail
set_option linter.unusedSimpArgs false
set_option linter.unusedVariables false
namespace Go.Ab
def rowIs(t:TypeId):Bool:=t==82||t==86||t==91||t==90
def xu(o:Option Obj)(t:TypeId):Bool:=match o with
 |some (.xf [])=>rowIs t
 |_=>false
def Ut(S:Store)(t:TypeId):Bool:=xu (aN S (0,0)) t
def Dm(P:Program)(t:TypeId)(s:St)(dst:Option Nat)(K:St->Prop)(b:Bool)(r:R):Prop:=
 match b,r with
 |false,r=>r.1/\K (s.put dst r.2)
 |true,(p,.c (.bB es))=>match P.underlying t with
  |some (.slice e)=>p/\newObj s dst (.bU (P.cellsOf e) es) (fun k=>.c (.fD k)) K
  |_=>False
 |true,_=>False
def lU(P:Program)(t u:TypeId)(k:Key)(y:V)(s:St)(dst:Option Nat)(K:St->Prop):Prop:=
 match P.underlying t,Oc P u y,aN s.st k with
 |some (.slice e),some ys,some (.bU aJ es)=>aJ=P.cellsOf e/\(∀y∈ys,y.length=P.cellsOf e)/\P.bytesOf e<=4096/\(∃zs,gK P e=some zs/\zs.length=P.cellsOf e)/\es.length+ys.length<=1073741824/\
   newObj ⟨s.tm,aR s.st k .dead⟩ dst (.bU aJ (es++ys)) (fun k=>.c (.fD k)) K
 |_,_,_=>False
def yB(P:Program)(t u:TypeId)(x y:V)(s:St)(dst:Option Nat)(K:St->Prop):Prop:=
 match x with
 | .c (.fD k)=>lU P t u k y s dst K
 |x=>mG P t u x y s dst K
def fO(P:Program)(o:Oper)(s:St)(K:St->Prop):Prop:=
 match o.op with
 | .call {callee:=.builtin .append,args:=lH,argTypes:=ts}=>match lH.toList,ts.toList with
   |[x,y],[t,u]=>yB P t u (ev s.tm x) (ev s.tm y) s o.dst K
   |_,_=>False
 | .buildSlice t n parts=>Dm P t s o.dst K (Ut s.st t) (nval P s.st s.tm (.buildSlice t n parts))
 |_=>bA P o s K
section
variable {P:Program} {w w':World} {σ σ':Nat->Nat} {S:Store} {β β':Hs} {N:Nat} {s:St} {a:Act}
theorem cZ.lay{own:List Obj}{Ω:Store}{bo:List Value}{bΩ:Hs}{o:Obj}{h:Value}(hS:cZ w σ (own::Ω) (bo::bΩ))(hlen:bo.length=own.length)
 (ho:eT w σ ((own++[o])::Ω) ((bo++[h])::bΩ) o h)(hb:∀b,owns o h b->¬Own (own::Ω) (bo::bΩ) b):
 cZ w σ ((own++[o])::Ω) ((bo++[h])::bΩ)/\Keep (own::Ω) (bo::bΩ) ((own++[o])::Ω) ((bo++[h])::bΩ)/\∀b,Own ((own++[o])::Ω) ((bo++[h])::bΩ) b->Own (own::Ω) (bo::bΩ) b\/owns o h b:=by
 have hkeep:Keep (own::Ω) (bo::bΩ) ((own++[o])::Ω) ((bo++[h])::bΩ):=by
  intro k o1 h1;obtain⟨h2,rW,_⟩:=hS.obj k o1 h1;exact⟨o1,gV _ _ _ _ _ h1,by rw[gV _ _ _ _ _ rW,rW];exact .refl _ _⟩
 have hinv:∀k o1 h1,aN ((own++[o])::Ω) k=some o1->aN ((bo++[h])::bΩ) k=some h1->
  (aN (own::Ω) k=some o1/\aN (bo::bΩ) k=some h1)\/(k=(0,own.length)/\o1=o/\h1=h):=by
  intro k o1 h1 e1 e2;rcases jC _ _ _ _ _ e1 with e1|⟨rfl,rfl⟩
  ·left;refine⟨e1,?_⟩;rcases jC _ _ _ _ _ e2 with e2|⟨rfl,rfl⟩
   ·exact e2
   ·rw[aD,hlen] at e1;have:=(ae.1 e1).1;omega
  ·right;rw[<-hlen,bg] at e2;exact⟨rfl,rfl,(cx e2).symm⟩
 refine⟨⟨?_,?_,⟨?_,?_⟩,hS.live,hS.lX⟩,hkeep,?_⟩
 ·intro k o1 h1;rcases jC _ _ _ _ _ h1 with h1|⟨rfl,rfl⟩
  ·obtain⟨h2,rW,hr⟩:=hS.obj k o1 h1;exact⟨h2,gV _ _ _ _ _ rW,hr.mono (bQ.refl _ _) (hkeep.drop _) fun b hb=>⟨rfl,rfl⟩⟩
  ·exact⟨h,by rw[<-hlen,bg],ho⟩
 ·intro k k' o1 o2 h1 h2 b e1 e2 e3 e4 e5 e6;rcases hinv k o1 h1 e1 e2 with⟨f1,f2⟩|⟨rfl,rfl,rfl⟩
  ·rcases hinv k' o2 h2 e4 e5 with⟨g1,g2⟩|⟨rfl,rfl,rfl⟩
   ·exact hS.apart _ _ _ _ _ _ _ f1 f2 e3 g1 g2 e6
   ·exact absurd ⟨k,o1,h1,f1,f2,e3⟩ (hb b e6)
  ·rcases hinv k' o2 h2 e4 e5 with⟨g1,g2⟩|⟨rfl,rfl,rfl⟩
   ·exact absurd ⟨k',o2,h2,g1,g2,e6⟩ (hb b e3)
   ·rfl
 ·have:=hS.shape.1;simpa using this
 ·intro l fr hl
  cases l with
  |zero=>
   simp at hl;exact⟨_,rfl,by rw[<-hl];simp[hlen]⟩
  |succ l=>exact hS.shape.2 (l+1) fr hl
 ·rintro b ⟨k,o1,h1,e1,e2,e3⟩;rcases hinv k o1 h1 e1 e2 with⟨f1,f2⟩|⟨rfl,rfl,rfl⟩
  ·exact .inl ⟨k,o1,h1,f1,f2,e3⟩
  ·exact .inr e3
theorem aas{z:Nat}{es:List (List D)}{h:Value}(S':Store)(β':Hs)(hr:eT w σ S β (.bU z es) h):eT w σ S' β' (.bU z es) h:=hr
theorem Uu{t u ty e:TypeId}{sv:Value}{size:Nat}{es ys:List (List D)}{yv:Value}(hl:∀b,b<w.heap.size\/σ b=0)
 (ht:P.underlying t=some (.slice e))(hu:Ib P u)(hz:∃zs,gK P e=some zs/\zs.length=size)(hsize:P.cellsOf e=size)(hb:P.bytesOf e<=4096)
 (hs:eT w σ S β (.bU size es) sv)(hy:wB P w σ size ys yv)(hlen:es.length+ys.length<=1073741824):
 ∃r w',(Builtin.append_ #[t,u] ty #[sv,yv]).run P w=.ok r w'/\(∀S' β',eT w' σ S' β' (.bU size (es++ys)) r)/\w.heap.size<=w'.heap.size/\w'.os=w.os/\w'.output=w.output/\
  bQ w σ w' σ/\(∀b,b<w'.heap.size\/σ b=0)/\(∀b,b<w.heap.size->¬owns (.bU size es) sv b->w'.heap[b]? =w.heap[b]?)/\
  (∀b,owns (.bU size (es++ys)) r b->owns (.bU size es) sv b\/w.heap.size<=b)/\r.oneCell'=true:=by
 obtain⟨zs,hzs,hzl⟩:=hz;obtain⟨z,rV,hzc⟩:=qI (w:=w) (σ:=σ) (S:=S) (β:=β) hzs
 have Dj:z.cells.size=size:=by have:=hzc.1;simp at this;omega
 have hex:∃info,P.info? e=some info/\info.zero=some z:=by
  unfold gK at hzs
  cases hi:P.info? e with
  |none=>rw[hi] at hzs;cases hzs
  |some i=>
   refine⟨i,rfl,?_⟩
   cases hz:i.zero with
   |none=>rw[hi] at hzs;simp[hz] at hzs
   |some z'=>
    have:(zeroValue e).run P w=.ok z' w:=by simp[zeroValue,typeInfo,hi,hz]
    rw[rV] at this;cases this;rfl
 obtain⟨info,hi,hiz⟩:=hex
 have hib:info.bytes=P.bytesOf e:=by simp[Program.bytesOf,hi]
 have his:info.size=size:=by rw[<-hsize];simp[Program.cellsOf,hi]
 have hs0:=hs;obtain⟨hle,base,sCap,rfl,hcap,h4⟩:=hs;obtain⟨hyl,hys,ya,Ie,N8,Xv⟩:=hy w rfl;have hall:∀x∈es++ys,x.length=size:=fun x hx=>(ec.1 hx).elim (hle x) (hys x);have hfl:es.flatten.length=es.length*size:=gy es size hle;have hfy:ys.flatten.length=ys.length*size:=gy ys size hys;have hlen':(es++ys).length=es.length+ys.length:=ab
 have hone:∀v∈ya.toList,v.oneCell'=true:=fun v hv=>by
  obtain⟨j,hj⟩:=ea hv;have hjl:=(ae.1 hj).1;simp at hjl;obtain⟨v',hv',hr⟩:=Xv j _ (al (by omega));rw[ch] at hj;rw[hj] at hv';cases hv';exact hr.one
 by_cases hn0:ys.length=0
 ·have aar:ys=[]:=bh hn0;subst aar
  have hya:ya= #[]:=by simpa using N8
  subst hya;refine⟨_,w,Dh ht hu hi hyl (by rw[his];exact Ie) hcap,fun S' β'=> ?_,ax _,rfl,rfl,bQ.refl _ _,hl,fun b _ _=>rfl,fun b hb=>.inl (by simpa using hb),rfl⟩;rw[bw];exact hs0
 by_cases hroom:es.length+ys.length<=sCap
 ·have hc0:sCap≠0:=by omega
  obtain⟨b,c,ct,rfl,hbc,hσ,hfit,hcells⟩:=h4.resolve_left hc0
  have hmul:es.length*size+ys.length*size<=sCap*size:=by rw[<-cw];exact bx _ hroom
  have hrun:=Di (P:=P) (ty:=ty) (b:=b) (off:=0) ht hu hi hyl (by rw[his];exact Ie) hroom hbc (by rw[his,N8];omega) hone;rw[his,cL] at hrun;generalize hc2:(c.toList.take (es.length*size)++ya.toList++c.toList.drop (es.length*size+ya.size)).toArray=c2 at hrun
  have yM:c2.size=c.size:=by rw[<-hc2];simp;omega
  have hheap:(w.setRow b c2).heap[b]? =some (.cells c2 ct (0,0)):=setRow_heap w b c c2 ct (0,0) hbc
  have hlow:∀i,i<es.length*size->c2[i]? =c[i]? :=fun i hi=>by
   rw[<-hc2,cV,bk,an (by simp;omega),bu hi,ch]
  have hmid:∀j,j<ya.size->c2[es.length*size+j]? =ya[j]? :=fun j hj=>by
   rw[<-hc2,cV,an (by simp;omega),ac (by simp;omega),<-ch];congr 1;simp;omega
  have hn:bQ w σ (w.setRow b c2) σ:=by
   intro b1 c1 t1 yN e1;refine⟨ax _,fun _=>rfl,?_⟩;by_cases hb1:b1=b
   ·subst hb1;rw[hbc] at e1;cases e1;exact⟨c2,hheap,yM,fun i hi=>by omega⟩
   ·exact⟨c1,(fK w b c2 b1 hb1).trans e1,rfl,fun _ _=>rfl⟩
  refine⟨_,_,hrun,fun S' β'=>⟨hall,_,sCap,by rw[hlen'],by omega,.inr ⟨b,c2,ct,rfl,hheap,hσ,by omega,fun j d hj=> ?_⟩⟩,by rw[setRow_size];exact ax _,rfl,rfl,hn,fun x=>by rw[setRow_size];exact hl x,fun x hx hne=> ?_,fun x hx=>.inl ?_,rfl⟩
  ·rw[cS] at hj;by_cases hjl:j<es.length*size
   ·rw[an (by omega)] at hj;obtain⟨v,hv,hr⟩:=hcells j d hj;exact⟨v,by rw[hlow j hjl];exact hv,hr.mono hn⟩
   ·rw[ac (by omega),hfl] at hj;obtain⟨v,hv,hr⟩:=Xv _ d hj;have hlt:=(aE.1 hv).1;refine⟨v,?_,hr.mono hn⟩;rw[<-hv,<-hmid _ hlt];congr 1;omega
  ·exact fK _ _ _ _ fun e=>hne (by simp[owns,blk,hc0,e])
  ·simpa [owns,blk] using hx
 ·obtain⟨afX,_,Ig,Oa,Ih,Ob⟩:=hy w.drew rfl
  obtain⟨oa,hor,Dk,hod⟩:∃oa:Array Value,(Builtin.firstCells size es.length (.slice base es.length sCap)).run P w.drew=.ok oa w.drew/\oa.size=es.length*size/\∀(j:Nat)(d:D),es.flatten[j]? =some d->∃v,oa[j]? =some v/\bn w σ d v:=by
   rcases h4 with h0|⟨b,c,ct,rfl,hbc,hσ,hfit,hcells⟩
   ·have he:es=[]:=bh (by omega);subst he;refine⟨#[],?_,by simp,fun j d hj=>by simp at hj⟩
    cases base with
    |none=>rfl
    |some b=>simp[Builtin.firstCells,loadCells,loadCellsFrom]
   ·have hm:es.length*size<=sCap*size:=bx _ hcap;have hbc':w.drew.heap[b]? =some (.cells c ct (0,0)):=hbc;have hex:∀j,j<es.length*size->∃v,c[0+j]? =some v:=fun j hj=>⟨c[0+j]'(by omega),cd (by omega)⟩;obtain⟨hpl,hpv⟩:=wm c 0 (es.length*size) hex;refine⟨_,uj (a:=⟨b,0,none⟩) rfl hbc' _ hex,by simpa using hpl,fun j d hj=> ?_⟩;obtain⟨v,hv,hr⟩:=hcells j d hj;have hjl:=(ae.1 hj).1;refine⟨v,?_,hr⟩;rw[cV,hpv j (by omega),cL];exact hv
  obtain⟨cap,rest,EX,hrest,hrun⟩:=yO (P:=P) (ty:=ty) (base:=base) (sCap:=sCap) ht hu hi hiz hyl (by rw[his];exact Oa) (by rw[his];exact hor) (by omega) hlen (by rw[hib];exact hb)
  let w':World:={w.drew with heap:=w.heap.push (.cells (oa++Ig++rest) e)}
  have hn:bQ w σ w' σ:=by
   intro b1 c1 t1 yN e1
   have hne:b1≠w.heap.size:=by have:=lt_of_some e1;omega
   refine⟨ax _,fun _=>rfl,c1,?_,rfl,fun _ _=>rfl⟩;simp only[w'];rw[dd,if_neg hne];exact e1
  have hn':bQ w.drew σ w' σ:=hn
  have hheap:w'.heap[w.heap.size]? =some (.cells (oa++Ig++rest) e (0,0)):=by simp[w']
  have hσ0:σ w.heap.size=0:=by
   rcases hl w.heap.size with h|h
   ·omega
   ·exact h
  refine⟨_,w',hrun,fun S' β'=>⟨hall,_,cap,by rw[hlen'],by omega,.inr ⟨w.heap.size,_,e,rfl,hheap,hσ0,?_,fun j d hj=> ?_⟩⟩,by simp[w'],rfl,rfl,hn,fun x=> ?_,fun x hx _=> ?_,fun x hx=>.inr ?_,rfl⟩
  ·simp only[Array.size_append,Dk,Ih,hrest,Dj];rw[<-cw,<-cw];exact bx _ (by omega)
  ·rw[cS] at hj;by_cases hjl:j<es.length*size
   ·rw[an (by omega)] at hj;obtain⟨v,hv,hr⟩:=hod j d hj;refine⟨v,?_,hr.mono hn⟩;rw[ew,cC (by omega)];exact hv
   ·rw[ac (by omega),hfl] at hj;obtain⟨v,hv,hr⟩:=Ob _ d hj;have hlt:=(aE.1 hv).1;refine⟨v,?_,hr.mono hn'⟩;rw[ew,eW (by omega),Dk,cC (by omega)];exact hv
  ·simp only[w',fe];exact(hl x).imp (fun h=>by omega) id
  ·have hne:x≠w.heap.size:=by omega
   simp only[w'];rw[dd,if_neg hne]
  ·simp only[owns,blk] at hx;split at hx
   ·cases hx
   ·cases hx;exact ax _
theorem Dn{o:Oper}{K:St->Prop}{Q:Exit->Act->World->Prop}{t u:TypeId}{x y:Operand}{k:Key}(hrun:∀r w',(Builtin.append_ #[t,u] o.type #[a.eval x,a.eval y]).run P w=.ok r w'->(execOp a.eval o).run P w=.ok (.value r) w')
 (hd:∀d,o.dst=some d->d<N)(hR:iI N s a w σ β)(hx:ev s.tm x=.c (.fD k))(h:lU P t u k (ev s.tm y) s o.dst K):o.wp P a w (Then N s.st β σ w K) Q:=by
 have SY:=iH hR.T x;have Ie:=iH hR.T y;rw[hx] at SY;unfold lU at h;split at h
 ·rename_i e ys aJ es ht hsrc hk;obtain⟨rfl,h1,h2,h3,h5,h6⟩:=h;obtain⟨hu,hsa⟩:=Oh hsrc Ie h1;obtain⟨⟨ob,ho,Ur⟩,hone⟩:=SY;rw[hk] at ho;cases ho;have hβ:=Ur _ _ rfl;obtain⟨hh,hb,uq⟩:=hR.S.obj k _ hk;rw[hβ] at hb;cases hb;obtain⟨r,w',hr,hro,hsz,hos,hout,hn,hl,qx,hbk,h1c⟩:=Uu (P:=P) (ty:=o.type) hR.S.live ht hu h3 rfl h2 uq hsa h5;obtain⟨hS1,hk1,afY⟩:=hR.S.set (o':=.dead) (h':=a.eval x) hk hβ hsz hos hout hn hl (fun b h1 h2=>⟨qx b h1 h2,rfl⟩) (.inl rfl) trivial (fun b hb=>by cases hb);have e1:aR β k (a.eval x)=β:=Lm (a.eval x) _ _ _ hβ;rw[e1] at hS1 hk1 afY;obtain⟨tm,st⟩:=s;have hsh:=hS1.shape
  cases hst:aR st k Obj.dead with
  |nil=>simp only[newObj,hst] at h6
  |cons own Ω=>
   simp only[newObj,hst] at h6
   have aat:cZ w' σ (own::Ω) β:=by rw[<-hst];exact hS1
   have hfr:∃bo bΩ,β=bo::bΩ/\bo.length=own.length:=by
    cases β with
    |nil=>have:=aat.shape.1;simp at this
    |cons bo bΩ=>
     refine⟨bo,bΩ,rfl,?_⟩;obtain⟨gr,q1,q2⟩:=aat.shape.2 0 own rfl;simp at q1;rw[q1];exact q2
   obtain⟨bo,bΩ,rfl,hlen⟩:=hfr
   have hnot:∀b,owns (.bU (P.cellsOf e) (es++ys)) r b->¬Own (own::Ω) (bo::bΩ) b:=by
    intro b hb ⟨k1,o1,h1,e1,e2,e3⟩
    have hin:aN st k1=some o1/\k1≠k:=by
     have FT:aN (aR st k Obj.dead) k1=some o1:=by rw[hst];exact e1
     by_cases q:k1=k
     ·subst q;rw[bX _ _ _ _ hk] at FT;cases FT;cases e3
     ·rw[dx _ _ _ _ (Ne.symm q)] at FT;exact⟨FT,q⟩
    rcases hbk b hb with k2|k2
    ·exact hin.2 (hR.S.apart k1 k o1 _ h1 _ b hin.1 e2 e3 hk hβ k2)
    ·have:=hR.S.AA ⟨k1,o1,h1,hin.1,e2,e3⟩;omega
   obtain⟨hS2,hk2,hown⟩:=aat.lay hlen (hro _ _) hnot
   have aau:Keep st (bo::bΩ) (own::Ω) (bo::bΩ):=by rw[<-hst];exact hk1
   have EY:Step st (bo::bΩ) σ w (own::Ω) (bo::bΩ) σ w':=by rw[<-hst];exact afY
   refine jc (x:=.c (.fD (0,own.length))) (v:=r) hd hR hS2 (aau.trans hk2) ⟨EY.size,EY.os,EY.output,EY.far,EY.near,fun b hb=> ?_⟩ ⟨⟨_,bg _ _ _,fun a b e=> ?_⟩,h1c⟩ (.inl rfl) (hrun _ _ hr) h6
   ·rcases hown b hb with q|q
    ·exact EY.own b q
    ·rcases hbk b q with q2|q2
     ·exact .inl ⟨k,_,_,hk,hβ,q2⟩
     ·exact .inr q2
   ·rw[<-hlen,bg]
 ·exact h.elim
theorem Xz{o:Oper}{K:St->Prop}{Q:Exit->Act->World->Prop}{t:TypeId}{n:Nat}{parts:Array (Nat×Operand)}(ho:o.op=.buildSlice t n parts)(hd:∀d,o.dst=some d->d<N)(hR:iI N s a w σ β)
 (h:Dm P t s o.dst K (Ut s.st t) (nval P s.st s.tm (.buildSlice t n parts))):o.wp P a w (Then N s.st β σ w K) Q:=by
 unfold Dm at h;split at h
 ·obtain⟨h1,h2⟩:=h;rw[<-ho] at h1 h2;obtain⟨v,w',σ',hrun,hg,hv⟩:=HY o hR.S hR.T h1;exact nK hd hR hg hv hrun h2
 ·rename_i p es hb hr;split at h
  ·rename_i e ht;obtain⟨hp,h6⟩:=h;have hr':kT P (mJ s.st) s.st s.tm (.buildSlice t n parts)=(p,.c (.bB es)):=hr;simp only[kT] at hr'
   cases hlab:mJ s.st with
   |some m=>
    rw[hlab] at hr';simp only[jU] at hr';split at hr'<;>cases hr'
   |none=>
    rw[hlab] at hr';simp only[jU,oo,ht] at hr';split at hr'
    ·rename_i es' hes;cases hr';obtain⟨h1,h2,h3⟩:=hp
     obtain⟨ca,hrun,hca,hle,hcells⟩:=zJ (P:=P) (w:=w) (σ:=σ) (S:=s.st) (β:=β) (t:=t) (n:=n) (parts:=parts.toList.map fun x=>(x.1,ev s.tm x.2)) (pv:=parts.toList.map fun x=>(x.1,a.eval x.2)) (by simp)
      (fun j x hx=>by
        rw[be] at hx ⊢
        cases hc:parts.toList[j]? with
        |none=>rw[hc] at hx;cases hx
        |some y=>rw[hc] at hx;cases hx;exact⟨_,rfl,iH hR.T y.2⟩) ht hes h1 h2 h3
     have hrun':(execOp a.eval o).run P w=.ok (.value (.slice (some ⟨w.heap.size,0,none⟩) n n)) {w with heap:=w.heap.push (.cells ca e)}:=by
      clear h6 hr;obtain⟨dst,op,ty,pos,after,guard⟩:=o;simp only at ho;subst ho;simp[execOp];rw[NT,hrun];rfl
     have hg:=xR w σ hR.S.live ca e 0
     have hσ0:σ w.heap.size=0:=by
      rcases hR.S.live w.heap.size with h|h
      ·omega
      ·exact h
     obtain⟨tm,st⟩:=s
     cases st with
     |nil=>exact h6.elim
     |cons own Ω=>
      obtain⟨bo,bΩ,rfl,hlen⟩:=frames hR
      obtain⟨hS',hk,hst⟩:=hR.S.push (o:=.bU (P.cellsOf e) es) (h:=.slice (some ⟨w.heap.size,0,none⟩) n n) hg hlen
       ⟨hle,some ⟨w.heap.size,0,none⟩,n,by rw[h1],by omega,.inr ⟨w.heap.size,ca,e,rfl,by simp,by simp,by rw[hca,h1];exact ax _,fun j d hj=>by
         obtain⟨v,hv,hr⟩:=hcells j d hj
         exact⟨v,hv,hr.mono hg.near⟩⟩⟩
       (fun b hb=>by
         simp only[owns,blk] at hb;split at hb
         ·cases hb
         ·cases hb;exact ax _)
      refine jc (x:=.c (.fD (0,own.length))) hd hR hS' hk hst ⟨⟨_,bg _ _ _,fun aJ es e=> ?_⟩,rfl⟩ (.inl rfl) hrun' h6;rw[<-hlen,bg]
    ·cases hr'
  ·exact h.elim
 ·exact h.elim
theorem FU(hw:∀{o:Oper}{K:St->Prop}{Q:Exit->Act->World->Prop},(∀d,o.dst=some d->d<N)->bA P o s K->o.wp P a w (Then N s.st β σ w K) Q){o:Oper}{K:St->Prop}{Q:Exit->Act->World->Prop}(hd:∀d,o.dst=some d->d<N)(hR:iI N s a w σ β)(h:fO P o s K):o.wp P a w (Then N s.st β σ w K) Q:=by
 unfold fO at h;split at h
 ·rename_i lH ts ho;split at h
  ·rename_i x y t u hx ht;unfold yB at h;split at h
   ·rename_i k hk;refine Dn (fun r w' hr=> ?_) hd hR hk h;clear h;obtain⟨dst,op,ty,pos,after,guard⟩:=o;simp only at ho;subst ho
    obtain rfl:lH= #[x,y]:=by rw[<-cf (xs:=lH),hx]
    obtain rfl:ts= #[t,u]:=by rw[<-cf (xs:=ts),ht]
    simp only at hr;simp[execOp,resolve,invoke,builtin,hr]
   ·refine hw hd ?_;unfold bA;rw[ho];simp only[jY,hx,ht];exact h
  ·exact h.elim
 ·rename_i t n parts ho;exact Xz ho hd hR h
 ·exact hw hd h
end
section
variable {P:Program} {w w':World} {σ σ':Nat->Nat} {S:Store} {β β':Hs} {N:Nat} {s:St} {a:Act}
theorem BI{o:Oper}{K:St->Prop}{Q:Exit->Act->World->Prop}(hd:∀d,o.dst=some d->d<N)(hR:iI N s a w σ β)(h:bA P o s K):o.wp P a w (Then N s.st β σ w K) Q:=by
 unfold bA at h;split at h
 ·rename_i t ho;unfold qJ at h;split at h
  ·rename_i zs hz;obtain⟨z,rV,hzc⟩:=qI (w:=w) (σ:=σ) (S:=s.st) (β:=β) hz;refine Ii (v:=z) (t:=t) hd hR hzc (fun ad w' Od=> ?_) h;obtain⟨dst,op,ty,pos,after,guard⟩:=o;simp only at ho;subst ho;simp[execOp,Instr.alloc,rV,Od]
  ·exact h.elim
 ·rename_i t x ho;unfold yP at h;split at h
  ·rename_i cs hcs;refine Ii (v:=a.eval x) (t:=t) hd hR (uo hcs (iH hR.T x)) (fun ad w' Od=> ?_) h;obtain⟨dst,op,ty,pos,after,guard⟩:=o;simp only at ho;subst ho;simp[execOp,Instr.box,Od]
  ·exact h.elim
 ·rename_i t x y ho;exact Q8 ho hd hR h
 ·rename_i t x y ho;exact Uq ho hd hR h
 ·rename_i t ho;exact Oe ho hd hR h
 ·rename_i t x y z ho;exact Og ho hd hR h
 ·rename_i c ho;exact Ij ho hd hR h
 ·obtain⟨h1,h2⟩:=h;obtain⟨v,w',σ',hrun,hg,hv⟩:=HY o hR.S hR.T h1;exact nK hd hR hg hv hrun h2
def eB(R:Array Oper)(j:Nat):Option Nat:=(R[j]?).bind (·.dst)
def qL(P:Program)(R:Array Oper)(o:Oper)(s:St)(K:St->Prop):Prop:=
 match o.guard with
 |none=>fO P o s K
 |some (j,want)=>
  match(eB R j).map (look s.tm) with
  |some (.c (.d (.b x)))=>(x=want->fO P o s K)/\(x= !want->K (s.put o.dst (.dI [])))
  |some (.dI [])=>K (s.put o.dst (.dI []))
  |_=>False
def yR(P:Program)(R:Array Oper):List Oper->St->(St->Prop)->Prop
 |[],s,K=>K s
 |o::os,s,K=>qL P R o s fun s'=>yR P R os s' K
theorem Then.mono{K K':St->Prop}{a':Act}{w':World}(hK:∀s,K s->K' s)(h:Then N S β σ w K a' w'):Then N S β σ w K' a' w':=by
 obtain⟨s',σ',β',h1,h2,h3,h4⟩:=h;exact⟨s',σ',β',h1,h2,h3,hK _ h4⟩
theorem yS{R:Array Oper}{j:Nat}{x:Bool}(hR:iI N s a w σ β)(h:(eB R j).map (look s.tm)=some (.c (.d (.b x)))):yielded R a.tmps j=some x:=by
 unfold yielded;unfold eB at h
 cases hd:(R[j]?).bind (·.dst) with
 |none=>rw[hd] at h;cases h
 |some d=>
  rw[hd] at h;simp only[cQ,cb] at h;have ht:=hR.T d;rw[h] at ht;obtain⟨ht,_⟩:=ht;simp only[dc]
  have hlt:d<a.tmps.size:=by
   rcases ey d a.tmps.size with h|h
   ·exact h
   ·simp[Array.getD,Nat.not_lt.2 h,undef] at ht;cases ht
  have hg:a.tmps.getD d undef=a.tmps[d]:=by simp[Array.getD,hlt]
  rw[hg] at ht;rw[cd hlt];generalize a.tmps[d]=v at ht;cases ht;rfl
theorem CB{R:Array Oper}{j:Nat}(hR:iI N s a w σ β)(h:(eB R j).map (look s.tm)=some (.dI [])):yielded R a.tmps j=none:=by
 unfold yielded;unfold eB at h
 cases hd:(R[j]?).bind (·.dst) with
 |none=>rw[hd] at h;cases h
 |some d=>
  rw[hd] at h;simp only[cQ,cb] at h;have ht:=hR.T d;rw[h] at ht;obtain⟨ar,hv,_⟩:=ht;simp only[dc];by_cases hlt:d<a.tmps.size
  ·have hg:a.tmps.getD d undef=a.tmps[d]:=by simp[Array.getD,hlt]
   rw[hg] at hv;rw[cd hlt,hv]
  ·rw[dj (Nat.le_of_not_lt hlt)]
theorem Lr{o:Oper}{K:St->Prop}(hd:∀d,o.dst=some d->d<N)(hR:iI N s a w σ β)(hK:K (s.put o.dst (.dI []))):Then N s.st β σ w K (a.put o.dst undef) w:=by
 have hr:iI N (St.put ⟨s.tm,s.st⟩ o.dst (.dI [])) (a.put o.dst undef) w σ β:=yA hd hR.size hR.defers hR.S hR.T sW;have he:(s.put o.dst (.dI [])).st=s.st:=jw o.dst s.tm s.st _;exact⟨_,σ,β,hr,by rw[show(St.put ⟨s.tm,s.st⟩ o.dst (.dI [])).st=s.st from he];exact Step.jm (Grow.refl hR.S.live),by rw[show(St.put ⟨s.tm,s.st⟩ o.dst (.dI [])).st=s.st from he];exact Keep.refl _ _,hK⟩
theorem Q9{R:Array Oper}{o:Oper}{K:St->Prop}{Q:Exit->Act->World->Prop}(hd:∀d,o.dst=some d->d<N)(hR:iI N s a w σ β)(h:qL P R o s K):
 if Region.wanted o (yielded R a.tmps) then o.wp P a w (Then N s.st β σ w K) Q else Then N s.st β σ w K (a.put o.dst undef) w:=by
 unfold qL at h;split at h
 ·rename_i hg;rw[if_pos (by simp[Region.wanted,hg])];exact FU (fun hd h=>BI hd hR h) hd hR h
 ·rename_i j want hg;split at h
  ·rename_i x hx;have hy:=yS hR hx;by_cases e:x=want
   ·rw[if_pos (by simp[Region.wanted,hg,hy,e])];exact FU (fun hd h=>BI hd hR h) hd hR (h.1 e)
   ·rw[if_neg (by simp[Region.wanted,hg,hy,e])];exact Lr hd hR (h.2 (by cases x<;>cases want<;>simp_all))
  ·rename_i hx;have hy:=CB hR hx;rw[if_neg (by simp[Region.wanted,hg,hy])];exact Lr hd hR h
  ·exact h.elim
theorem Ik{R:Array Oper}{K:St->Prop}{S0:Store}{β0:Hs}{σ0:Nat->Nat}{w0:World}{Q:Exit->Act->World->Prop}(hQ:∀a w,Then N S0 β0 σ0 w0 K a w->Q .normal a w):
 ∀(n k:Nat),k+n=R.size->(∀o∈R.toList,∀d,o.dst=some d->d<N)->∀(s:St)(a:Act)(w:World)(σ:Nat->Nat)(β:Hs),iI N s a w σ β->Step S0 β0 σ0 w0 s.st β σ w->Keep S0 β0 s.st β->
  yR P R (R.toList.drop k) s K->wpOps P R Q (List.range' k n) a w
 |0,k,hk,_,s,a,w,σ,β,hR,hst,hkp,h=>by
  have:R.toList.drop k=[]:=by apply ee;simp;omega
  rw[this] at h;exact hQ a w ⟨s,σ,β,hR,hst,hkp,h⟩
 |n+1,k,hk,hd,s,a,w,σ,β,hR,hst,hkp,h=>by
  have hlt:k<R.toList.length:=by simp;omega
  rw[bO hlt] at h;have hg:=Q9 (Q:=Q) (fun d e=>hd _ (ap hlt) d e) hR h;rw[List.range'_succ]
  have hRk:R[k]? =some R.toList[k]:=by
   rw[cd (by omega)];simp
  simp only[wpOps,hRk]
  have next:∀a' w',Then N s.st β σ w (fun s'=>yR P R (R.toList.drop (k+1)) s' K) a' w'->wpOps P R Q (List.range' (k+1) n) a' w':=by
   rintro a' w' ⟨s',σ',β',hR',hst',u7,hK'⟩;exact Ik hQ n (k+1) (by omega) hd s' a' w' σ' β' hR' (hst.trans hst') (hkp.trans u7) hK'
  split
  ·rename_i hw;rw[if_pos hw] at hg;exact .inl (Oper.wp_mono next hg)
  ·rename_i hw;rw[if_neg hw] at hg
   exact next _ _ hg
def eX{α:Type}(l:List α):List α:=l.drop 1
def AW(P:Program)(N:Nat)(c:Code)(Q:Exit->St->Prop)(s:St):Prop:=
 ∀(a:Act)(w:World)(σ:Nat->Nat)(β:Hs),iI N s a w σ β->
  c.wp P (fun e a' w'=>∃s' σ' β',iI N s' a' w' σ' β'/\Step s.st β σ w s'.st β' σ' w'/\Keep (eX s.st) (eX β) (eX s'.st) (eX β')/\Q e s') a w
theorem AW.mono{c:Code}{Q Q':Exit->St->Prop}(h:AW P N c Q s)(hq:∀e s,Q e s->Q' e s):AW P N c Q' s:=fun a w σ β hR=>
 wp_mono (h a w σ β hR) fun e a' w' ⟨s',σ',β',h1,h2,h3,h4⟩=>⟨s',σ',β',h1,h2,h3,hq _ _ h4⟩
def kU(K:St->Prop)(Q:Exit->St->Prop):Exit->St->Prop
 | .normal,s=>K s
 |e,s=>Q e s
def uF(id:Nat)(Q:Exit->St->Prop):Exit->St->Prop
 | .exit id',s=>if id'=id then Q .normal s else Q (.exit id') s
 |e,s=>Q e s
theorem Il{x y:Code}{Q:Exit->St->Prop}(h:AW P N x (kU (AW P N y Q) Q) s):AW P N (.seq x y) Q s:=by
 intro a w σ β hR;refine wp_seq (wp_mono (h a w σ β hR) ?_);rintro e a' w' ⟨s',σ',β',h1,h2,h3,h4⟩
 cases e with
 |normal=>
  show y.wp P _ a' w';refine wp_mono (h4 a' w' σ' β' h1) ?_;rintro e a'' w'' ⟨s'',yH,β'',k1,k2,k3,k4⟩;exact⟨s'',yH,β'',k1,h2.trans k2,h3.trans k3,k4⟩
 |_=>exact⟨s',σ',β',h1,h2,h3,h4⟩
theorem Oo{c:Code}{e:Exit}{Q:Exit->St->Prop}(hc:∀{Q':Exit->Act->World->Prop}{a:Act}{w:World},Q' e a w->c.wp P Q' a w)(h:Q e s):AW P N c Q s:=
 fun a w σ β hR=>hc ⟨s,σ,β,hR,Step.jm (Grow.refl hR.S.live),Keep.refl _ _,h⟩
theorem aeb{Q:Exit->St->Prop}(h:Q .normal s):AW P N .skip Q s:=Oo wp_skip h
theorem aec{id:Nat}{Q:Exit->St->Prop}(h:Q (.exit id) s):AW P N (.exit id) Q s:=Oo wp_exit h
theorem afZ{Q:Exit->St->Prop}(h:Q .ret s):AW P N .ret Q s:=Oo wp_ret h
theorem S9{c:Operand}{x y:Code}{b:Bool}{Q:Exit->St->Prop}(hc:ev s.tm c=.c (.d (.b b)))(ht:b=true->AW P N x Q s)(hf:b=false->AW P N y Q s):AW P N (.cond c x y) Q s:=by
 intro a w σ β hR;have hv:=iH hR.T c;rw[hc] at hv;obtain⟨hv,_⟩:=hv;generalize he:a.eval c=v at hv;cases hv;refine Go.wp_cond he ?_
 cases b with
 |true=>exact ht rfl a w σ β hR
 |false=>exact hf rfl a w σ β hR
theorem Oq{id:Nat}{c:Code}{Q:Exit->St->Prop}(h:AW P N c (uF id Q) s):AW P N (.block id c) Q s:=by
 intro a w σ β hR;refine wp_block (wp_mono (h a w σ β hR) ?_);rintro e a' w' ⟨s',σ',β',h1,h2,h3,h4⟩
 cases e with
 |exit id'=>
  show if id'=id then _ else _
  simp only[uF] at h4;split
  ·rename_i e;rw[if_pos e] at h4;exact⟨s',σ',β',h1,h2,h3,h4⟩
  ·rename_i e;rw[if_neg e] at h4;exact⟨s',σ',β',h1,h2,h3,h4⟩
 |_=>exact⟨s',σ',β',h1,h2,h3,h4⟩
theorem Keep.tail{S S':Store}{β β':Hs}(h:Keep S β S' β'):Keep (eX S) (eX β) (eX S') (eX β'):=h.drop 1
theorem XA{id:Nat}{R:Array Oper}{Q:Exit->St->Prop}(hd:R.toList.all (fun o=>match o.dst with|some d=>decide (d<N)|none=>true)=true)(h:yR P R R.toList s (Q .normal)):AW P N (.region id R false) Q s:=by
 intro a w σ β hR;refine wp_region ?_;rw[List.range_eq_range'];refine Ik (S0:=s.st) (β0:=β) (σ0:=σ) (w0:=w) (K:=Q .normal) (fun a' w' ht=> ?_) R.size 0 (by omega) (fun o ho d e=> ?_) s a w σ β hR (Step.jm (Grow.refl hR.S.live)) (Keep.refl _ _) h
 ·obtain⟨s',σ',β',h1,h2,h3,h4⟩:=ht;exact⟨s',σ',β',h1,h2,h3.tail,h4⟩
 ·have:=aS.1 hd o ho;rw[e] at this;simpa using this
theorem Ta{ι:Type}{c:Code}{Q:Exit->St->Prop}(I:ι->St->Prop)(μ:ι->Nat)(i0:ι)(h0:I i0 s)
 (round:∀i s,I i s->AW P N c (kU (fun s'=>∃j,μ j<μ i/\I j s') Q) s):AW P N (.loop c) Q s:=by
 intro a w σ β hR
 have key:∀(n:Nat)(i:ι)(s':St)(a':Act)(w':World)(σ':Nat->Nat)(β':Hs),μ i<n->I i s'->iI N s' a' w' σ' β'->Step s.st β σ w s'.st β' σ' w'->Keep (eX s.st) (eX β) (eX s'.st) (eX β')->
  Code.rounds P c (fun e a' w'=>∃s' σ' β',iI N s' a' w' σ' β'/\Step s.st β σ w s'.st β' σ' w'/\Keep (eX s.st) (eX β) (eX s'.st) (eX β')/\Q e s') n a' w':=by
  intro n
  induction n with
  |zero=>intro i s' a' w' σ' β' h;omega
  |succ n ih=>
   intro i s' a' w' σ' β' hn hI hR' hst hkp;refine wp_mono (round i s' hI a' w' σ' β' hR') ?_;rintro e a'' w'' ⟨s'',yH,β'',k1,k2,k3,k4⟩
   cases e with
   |normal=>
    obtain⟨j,hj,hIj⟩:=k4;exact ih j s'' a'' w'' yH β'' (by omega) hIj k1 (hst.trans k2) (hkp.trans k3)
   |_=>exact⟨s'',yH,β'',k1,hst.trans k2,hkp.trans k3,k4⟩
 exact wp_loop_rounds (μ i0+1) (key (μ i0+1) i0 s a w σ β (by omega) h0 hR (Step.jm (Grow.refl hR.S.live)) (Keep.refl _ _))
end
def jR:List V->Nat->List (Nat×V)
 |[],_=>[]
 |v::vs,i=>(i,v)::jR vs (i+1)
def C.ret:C->Option C
 | .bM (0,_) es=>some (.d (.sl es))
 |c=>c.down 1
def EZ(y:Bool×List C):Option (Bool×List C):=(y.2.mapM C.ret).map fun cs=>(y.1,cs)
def V.ret:V->Option V
 | .c x=>(x.ret).map .c
 | .agg cs=>(cs.mapM C.ret).map .agg
 | .dI xs=>(xs.mapM EZ).map .dI
 | .any=>some .any
def uG(P:Program)(s:St):ResultVar->R
 | .tmp t=>(True,look s.tm t)
 | .cell a t=>xQ P s.st t (look s.tm a)
def Im:V->Option (Bool×List C)
 | .c x=>some (false,[x])
 | .agg cs=>some (true,cs)
 |_=>none
def mM(P:Program)(s:St):List ResultVar->Prop×Option (List (Bool×List C))
 |[]=>(True,some [])
 |x::xs=>((uG P s x).1/\(mM P s xs).1,(Im (uG P s x).2).bind fun y=>(mM P s xs).2.map fun ys=>y::ys)
def lY(P:Program)(rs:List ResultVar)(s:St):R:=
 match rs with
 |[x]=>uG P s x
 |xs=>match(mM P s xs).2 with
  |some ys=>((mM P s xs).1,.dI ys)
  |none=>no
def aav(P:Program)(rs:List ResultVar)(post:V->Store->Prop)(e:Exit)(s:St):Prop:=
 match e with
 | .normal| .ret=>(lY P rs s).1/\match(lY P rs s).2.ret with
   |some r=>post r (eX s.st)
   |none=>False
 |_=>False
section
variable {P:Program} {w w':World} {σ σ':Nat->Nat} {S:Store} {β β':Hs} {N:Nat} {s:St} {a:Act}
theorem Ot{cs:List C}{vs:List Value}(n:Nat)(h:dF w σ (S.drop n) (β.drop n) cs vs):dF w σ S β (cs.map (C.up n)) vs:=
 ⟨by simpa using h.1,fun j x hx=>by
   rw[be] at hx
   cases hc:cs[j]? with
   |none=>rw[hc] at hx;cases hx
   |some y=>
    rw[hc] at hx;cases hx;obtain⟨v,hv,hr,ho⟩:=h.2 j y hc
    exact⟨v,hv,hr.up n,ho⟩⟩
theorem Kw{x:V}{v:Value}(n:Nat)(h:bJ w σ (S.drop n) (β.drop n) x v):bJ w σ S β (x.up n) v:=by
 cases x with
 |c x=>exact⟨h.1.up n,h.2⟩
 |agg cs=>obtain⟨ar,ha,hc⟩:=h;exact⟨ar,ha,Ot n hc⟩
 |dI xs=>
  obtain⟨ar,ha,hl,h2⟩:=h;refine⟨ar,ha,by simpa using hl,fun j y hy=> ?_⟩;rw[be] at hy
  cases hc:xs[j]? with
  |none=>rw[hc] at hy;cases hy
  |some z=>
   rw[hc] at hy;cases hy;obtain⟨u,hu,h3⟩:=h2 j z hc;refine⟨u,hu,?_⟩;obtain⟨b,cs⟩:=z
   cases b with
   |true=>obtain⟨a',e,hcs⟩:=h3;exact⟨a',e,Ot n hcs⟩
   |false=>obtain⟨x,e,hx,ho⟩:=h3;subst e;exact⟨_,rfl,hx.up n,ho⟩
 |any=>exact trivial
theorem Gt{c c':C}{v:Value}(h:c.ret=some c')(hc:dS w σ S β c v):dS w σ (S.drop 1) (β.drop 1) c' v:=by
 unfold C.ret at h;split at h
 ·cases h;exact hc.1
 ·exact NU h hc
theorem Ls{xs ys:List C}{vs:List Value}(h:xs.mapM C.ret=some ys)(hc:dF w σ S β xs vs):dF w σ (S.drop 1) (β.drop 1) ys vs:=by
 induction xs generalizing ys vs with
 |nil=>simp at h;subst h;exact⟨hc.1,fun j d hd=>by simp at hd⟩
 |cons x xs ih=>
  rw[dv] at h
  cases hd:C.ret x with
  |none=>rw[hd] at h;simp at h
  |some y=>
   cases hm:xs.mapM C.ret with
   |none=>rw[hd,hm] at h;simp at h
   |some ys'=>
    rw[hd,hm] at h;simp at h;subst h
    cases vs with
    |nil=>have:=hc.1;simp at this
    |cons v vs=>
     obtain⟨l,r⟩:=ih hm (vs:=vs) ⟨by have:=hc.1;simpa using this,fun j y hy=>hc.2 (j+1) y hy⟩;refine⟨by simp[l],fun j e he=> ?_⟩
     cases j with
     |zero=>
      simp at he;subst he;obtain⟨u,hu,hr,ho⟩:=hc.2 0 x rfl;simp at hu;subst hu;exact⟨v,rfl,Gt hd hr,ho⟩
     |succ j=>exact r j e he
theorem Ou{α γ:Type}(f:α->Option γ):∀(xs:List α)(ys:List γ),xs.mapM f=some ys->ys.length=xs.length/\∀(j:Nat)(y:γ),ys[j]? =some y->∃x,xs[j]? =some x/\f x=some y
 |[],ys,h=>by simp at h;subst h;exact⟨rfl,fun j y hy=>by simp at hy⟩
 |x::xs,ys,h=>by
  rw[dv] at h
  cases hd:f x with
  |none=>rw[hd] at h;simp at h
  |some y=>
   cases hm:xs.mapM f with
   |none=>rw[hd,hm] at h;simp at h
   |some ys'=>
    rw[hd,hm] at h;simp at h;subst h;obtain⟨l,r⟩:=Ou f xs ys' hm;refine⟨by simp[l],fun j e he=> ?_⟩
    cases j with
    |zero=>simp at he;subst he;exact⟨x,rfl,hd⟩
    |succ j=>exact r j e he
theorem aaw{x y:V}{v:Value}(h:x.ret=some y)(hx:bJ w σ S β x v):bJ w σ (S.drop 1) (β.drop 1) y v:=by
 cases x with
 |c x=>
  simp only[V.ret] at h
  cases hc:x.ret with
  |none=>rw[hc] at h;cases h
  |some c=>rw[hc] at h;cases h;exact⟨Gt hc hx.1,hx.2⟩
 |agg cs=>
  simp only[V.ret] at h
  cases hc:cs.mapM C.ret with
  |none=>rw[hc] at h;cases h
  |some c=>rw[hc] at h;cases h;obtain⟨ar,ha,h2⟩:=hx;exact⟨ar,ha,Ls hc h2⟩
 |dI xs=>
  simp only[V.ret] at h
  cases hc:xs.mapM EZ with
  |none=>rw[hc] at h;cases h
  |some ys=>
   rw[hc] at h;cases h;obtain⟨ar,ha,hl,h2⟩:=hx;obtain⟨l,r⟩:=Ou _ _ _ hc;refine⟨ar,ha,by rw[l];exact hl,fun j y hy=> ?_⟩;obtain⟨z,hz,hzy⟩:=r j y hy;obtain⟨u,hu,h3⟩:=h2 j z hz;refine⟨u,hu,?_⟩;obtain⟨b,cs⟩:=z;simp only[EZ] at hzy
   cases hm:cs.mapM C.ret with
   |none=>rw[hm] at hzy;cases hzy
   |some cs'=>
    rw[hm] at hzy;cases hzy
    cases b with
    |true=>obtain⟨a',e,hcs⟩:=h3;exact⟨a',e,Ls hm hcs⟩
    |false=>
     obtain⟨x,e,hx,ho⟩:=h3;subst e;rw[dv] at hm
     cases hx':C.ret x with
     |none=>rw[hx'] at hm;simp at hm
     |some x'=>
      rw[hx'] at hm;simp at hm;exact⟨x',hm.symm,Gt hx' hx,ho⟩
 |any=>cases h;exact trivial
theorem Tc{x:ResultVar}(hR:iI N s a w σ β)(h:(uG P s x).1):
 ∃v,(match x with| .tmp t=>pure (a.tmps.getD t undef)| .cell b t=>do loadVar t (<-asAddr (a.tmps.getD b undef)):Sem Value).run P w=.ok v w/\bJ w σ s.st β (uG P s x).2 v:=by
 cases x with
 |tmp t=>exact⟨_,rfl,hR.T t⟩
 |cell b t=>
  obtain⟨v,hrun,hv⟩:=Lg (P:=P) (t:=t) hR.S (hR.T b) h;refine⟨v,?_,hv⟩;show(do loadVar t (<-asAddr (a.tmps.getD b undef)):Sem Value).run P w=.ok v w;generalize a.tmps.getD b undef=bv at hrun ⊢
  cases bv with
  |pointer o=>
   cases o with
   |none=>simp[Instr.loadAt,Instr.sureAddr] at hrun
   |some ad=>simpa [Instr.loadAt,Instr.sureAddr,asAddr] using hrun
  |_=>simp[Instr.loadAt,Instr.sureAddr] at hrun
theorem aax{x:V}{y:Bool×List C}{v:Value}(h:Im x=some y)(hx:bJ w σ S β x v):Kl w σ S β y v:=by
 cases x with
 |c x=>cases h;exact⟨x,rfl,hx.1,hx.2⟩
 |agg cs=>cases h;exact hx
 |dI=>cases h
 |any=>cases h
theorem Td(hR:iI N s a w σ β):∀(xs:List ResultVar)(ys:List (Bool×List C)),(mM P s xs).1->(mM P s xs).2=some ys->
 ∃vs:List Value,(xs.mapM fun x=>(match x with| .tmp t=>pure (a.tmps.getD t undef)| .cell b t=>do loadVar t (<-asAddr (a.tmps.getD b undef)):Sem Value)).run P w=.ok vs w/\ys.length=vs.length/\
  ∀(j:Nat)(y:Bool×List C),ys[j]? =some y->∃u,vs[j]? =some u/\Kl w σ s.st β y u
 |[],ys,_,h=>by simp only[mM] at h;cases h;exact⟨[],by simp,rfl,fun j y hy=>by simp at hy⟩
 |x::xs,ys,h1,h2=>by
  simp only[mM] at h1 h2
  cases hc:Im (uG P s x).2 with
  |none=>rw[hc] at h2;cases h2
  |some y=>
   cases hr:(mM P s xs).2 with
   |none=>rw[hc,hr] at h2;cases h2
   |some ys'=>
    rw[hc,hr] at h2;cases h2;obtain⟨v,hv,hrep⟩:=Tc (P:=P) (x:=x) hR h1.1;obtain⟨vs,hvs,hl,hj⟩:=Td hR xs ys' h1.2 hr;refine⟨v::vs,?_,by simp[hl],fun j z hz=> ?_⟩
    ·rw[dv];simp only[Sem.run_bind,Result.andThen_ok,Sem.run_pure];rw[hv];simp only[Result.andThen_ok];rw[hvs];rfl
    ·cases j with
     |zero=>simp at hz;subst hz;exact⟨v,rfl,aax hc hrep⟩
     |succ j=>exact hj j z hz
theorem Dp{fn:Func}(hR:iI N s a w σ β)(h:(lY P fn.results.toList s).1):∃v,(results fn a.tmps).run P w=.ok v w/\bJ w σ s.st β (lY P fn.results.toList s).2 v:=by
 have hres:fn.results=fn.results.toList.toArray:=by simp
 have hrun:∀vs:List Value,(fn.results.toList.mapM fun x=>(match x with| .tmp t=>pure (a.tmps.getD t undef)| .cell b t=>do loadVar t (<-asAddr (a.tmps.getD b undef)):Sem Value)).run P w=.ok vs w->
  (results fn a.tmps).run P w=.ok (if h:vs.toArray.size=1 then vs.toArray[0] else .tuple vs.toArray) w:=by
  intro vs hvs;unfold results;rw[hres,List.mapM_toArray];simp only[Sem.run_bind,Sem.run_map];have:(fun x=>(match x with| .tmp t=>pure (a.tmps.getD t undef)| .cell b t=>do loadVar t (<-asAddr (a.tmps.getD b undef)):Sem Value))=fun(x:ResultVar)=>(match x with| .tmp t=>pure (a.tmps.getD t undef)| .cell b t=>do loadVar t (<-asAddr (a.tmps.getD b undef)):Sem Value):=rfl
  erw [hvs]
  rfl
 unfold lY at h ⊢;split at h
 ·rename_i x hx;rw[hx] at hrun;obtain⟨v,hv,hrep⟩:=Tc (P:=P) (x:=x) hR h;refine⟨v,?_,hrep⟩
  have:=hrun [v] (by
   rw[dv];simp only[Sem.run_bind,List.mapM_nil,Result.andThen_ok,Sem.run_pure]
   rw[hv];rfl)
  simpa using this
 ·rename_i hne;split at h
  ·rename_i ys hys;obtain⟨vs,hvs,hl,hj⟩:=Td (P:=P) hR _ ys h hys;have h1:=hrun vs hvs
   have hlen:¬(vs.toArray.size=1):=by
    intro e
    have hl2:ys.length=fn.results.toList.length:=by
     clear hj hvs h1 hrun hne e hl h;generalize fn.results.toList=l at hys
     induction l generalizing ys with
     |nil=>simp only[mM] at hys;cases hys;rfl
     |cons x xs ih=>
      simp only[mM] at hys
      cases hc:Im (uG P s x).2 with
      |none=>rw[hc] at hys;cases hys
      |some y=>
       cases hr:(mM P s xs).2 with
       |none=>rw[hc,hr] at hys;cases hys
       |some ys'=>rw[hc,hr] at hys;cases hys;simp[ih ys' hr]
    simp at e
    have:fn.results.toList.length=1:=by omega
    obtain⟨x,hx⟩:=List.length_eq_one_iff.1 this;exact hne x hx
   rw[dif_neg hlen] at h1;exact⟨_,h1,vs.toArray,rfl,by simpa using hl,fun j y hy=>by simpa using hj j y hy⟩
  ·exact h.elim
theorem cZ.E5{own:List Obj}{Ω:Store}{bo:List Value}{bΩ:Hs}(h:cZ w σ (own::Ω) (bo::bΩ)):cZ w σ Ω bΩ:=by
 refine⟨fun k o ho=> ?_,fun k k' o o' h1 h2 b e1 e2 e3 e4 e5 e6=> ?_,⟨by have:=h.shape.1;simpa using this,fun l fr hl=>h.shape.2 (l+1) fr hl⟩,h.live,h.lX⟩
 ·obtain⟨l,j⟩:=k;obtain⟨hv,hh,hr⟩:=h.obj (l+1,j) o (by rw[aV];exact ho);rw[aV] at hh;exact⟨hv,hh,hr⟩
 ·obtain⟨l,j⟩:=k;obtain⟨l',j'⟩:=k';have:=h.apart (l+1,j) (l'+1,j') o o' h1 h2 b (by rw[aV];exact e1) (by rw[aV];exact e2) e3 (by rw[aV];exact e4) (by rw[aV];exact e5) e6;cases this;rfl
theorem cZ.up1(h:cZ w σ S β):cZ w σ ([]::S) ([]::β):=by
 refine⟨fun k o ho=> ?_,fun k k' o o' h1 h2 b e1 e2 e3 e4 e5 e6=> ?_,⟨by simp[h.shape.1],fun l fr hl=> ?_⟩,h.live,h.lX⟩
 ·obtain⟨l,j⟩:=k
  cases l with
  |zero=>rw[aD] at ho;simp at ho
  |succ l=>
   rw[aV] at ho;obtain⟨hv,hh,hr⟩:=h.obj (l,j) o ho;exact⟨hv,by rw[aV];exact hh,hr⟩
 ·obtain⟨l,j⟩:=k;obtain⟨l',j'⟩:=k'
  cases l with
  |zero=>rw[aD] at e1;simp at e1
  |succ l=>
   cases l' with
   |zero=>rw[aD] at e4;simp at e4
   |succ l'=>
    rw[aV] at e1 e2 e4 e5;have:=h.apart (l,j) (l',j') o o' h1 h2 b e1 e2 e3 e4 e5 e6;cases this;rfl
 ·cases l with
  |zero=>simp at hl;subst hl;exact⟨[],rfl,rfl⟩
  |succ l=>exact h.shape.2 l fr hl
theorem yC{b:Nat}(h:Own ([]::S) ([]::β) b):Own S β b:=by
 obtain⟨⟨l,j⟩,o,hv,h1,h2,h3⟩:=h
 cases l with
 |zero=>rw[aD] at h1;simp at h1
 |succ l=>rw[aV] at h1 h2;exact⟨(l,j),o,hv,h1,h2,h3⟩
theorem sZ{own:List Obj}{Ω:Store}{bo:List Value}{bΩ:Hs}{b:Nat}(h:Own Ω bΩ b):Own (own::Ω) (bo::bΩ) b:=by
 obtain⟨⟨l,j⟩,o,hv,h1,h2,h3⟩:=h;exact⟨(l+1,j),o,hv,by rw[aV];exact h1,by rw[aV];exact h2,h3⟩
theorem xV:∀(args:List V)(i t:Nat),look (jR args i) t=if i<=t then(args[t-i]?).getD .any else .any
 |[],i,t=>by simp[jR,look]
 |v::args,i,t=>by
  rw[jR,look,xV args (i+1) t];by_cases h1:i=t
  ·subst h1;simp
  ·rw[if_neg h1];by_cases h2:i+1<=t
   ·rw[if_pos h2,if_pos (by omega)];rw[show t-i=(t-(i+1))+1 from by omega];rfl
   ·rw[if_neg h2,if_neg (by omega)]
theorem vM{f:FuncId}{fn:Func}{c:Code}{args:List V}{post:V->Store->Prop}(hf:P.funcs[f]? =some fn)(hb:fn.body=some c)(hn:(fn.name== "runtime.NumGoroutine")=false)
 (hl:args.length<=fn.ntmps)(h:AW P fn.ntmps c (aav P fn.results.toList post) ⟨jR (args.map (V.up 1)) 0,[]::S⟩):bL P f args S post:=by
 refine⟨⟨fn,hf,hn,by simp[hb]⟩,fun w σ β vs hS hargs=> ?_⟩;refine calls_of_wp hf hb ?_;have hlen:vs.length=args.length:=hargs.1.symm
 have Ov:iI fn.ntmps ⟨jR (args.map (V.up 1)) 0,[]::S⟩ {tmps:=vs.toArray++Array.replicate (fn.ntmps-vs.toArray.size) undef,defers:=[]} w σ ([]::β):=by
  refine⟨by simp;omega,rfl,hS.up1,fun t=> ?_⟩;show bJ w σ ([]::S) ([]::β) (look (jR (args.map (V.up 1)) 0) t) _;rw[xV,if_pos (ba _),Nat.sub_zero,be]
  cases ha:args[t]? with
  |none=>exact trivial
  |some x=>
   obtain⟨v,hv,hr⟩:=hargs.2 t x ha;have ht:=(ae.1 hv).1
   have:(vs.toArray++Array.replicate (fn.ntmps-vs.toArray.size) undef).getD t undef=v:=by
    rw[dq,cC (by simpa using ht)];simp[hv]
   rw[this];exact Kw (S:=[]::S) (β:=[]::β) 1 hr
 refine wp_mono (h _ w σ ([]::β) Ov) ?_;rintro e a' w' ⟨s',σ',β',hR,hst,hkp,hq⟩
 have main:(lY P fn.results.toList s').1/\(match(lY P fn.results.toList s').2.ret with|some r=>post r (eX s'.st)|none=>False)->
  a'.defers=[]/\∃v,(results fn a'.tmps).run P w'=.ok v w'/\∃v_1 r S' σ' β',Ending.returned v=Ending.returned v_1/\cZ w' σ' S' β'/\Keep S β S' β'/\Step S β σ w S' β' σ' w'/\bJ w' σ' S' β' r v_1/\post r S':=by
  rintro⟨q1,q2⟩;obtain⟨v,hv,hrep⟩:=Dp (fn:=fn) hR q1;split at q2
  ·rename_i r hr;obtain⟨tm,st⟩:=s';have ahN:=aaw hr hrep;refine⟨hR.defers,v,hv,v,r,eX st,σ',eX β',rfl,?_,hkp,?_,ahN,q2⟩
   ·cases st with
    |nil=>
     cases β' with
     |nil=>exact hR.S
     |cons=>have:=hR.S.shape.1;simp at this
    |cons own Ω=>
     cases β' with
     |nil=>have:=hR.S.shape.1;simp at this
     |cons bo bΩ=>exact hR.S.E5
   ·refine⟨hst.size,hst.os,hst.output,fun b hb ho=>hst.far b hb (fun x=>ho (yC x)),hst.near,fun b hb=> ?_⟩
    cases st with
    |nil=>obtain⟨k,o,hv,h1,_⟩:=hb;simp[eX,jV] at h1
    |cons own Ω=>
     cases β' with
     |nil=>obtain⟨k,o,hv,h1,h2,_⟩:=hb;simp[eX,jV] at h2
     |cons bo bΩ=>exact(hst.own b (sZ hb)).imp yC id
  ·exact q2.elim
 cases e with
 |normal=>exact main hq
 |ret=>exact main hq
 |_=>exact hq.elim
end
def nL:Op->Bool
 | .alloc _=>true
 | .box _ _=>true
 | .store _ _ _=>true
 | .makeSlice _ _ _=>true
 | .makeMap _ none=>true
 | .mapUpdate _ _ _ _=>true
 | .call {callee:=.builtin .append,args:=_,argTypes:=_}=>true
 |_=>false
def vg:Op->Bool
 | .store _ _ _=>true
 | .mapUpdate _ _ _ _=>true
 |_=>false
def gP:Op->Bool
 | .call {callee:=.value _,args:=_,argTypes:=_}=>true
 |_=>false
def isApp:Op->Bool
 | .call {callee:=.builtin .append,args:=_,argTypes:=_}=>true
 |_=>false
theorem aed{op:Op}(h:isApp op=true):nL op=true:=by
 unfold isApp at h;split at h
 ·rfl
 ·cases h
abbrev Md:=Op->Nat
def dO(E:Md)(op:Op):Bool:=nL op||(decide (1<=E op)&&gP op)
def jJ(E:Md)(op:Op):Bool:=vg op||(decide (2<=E op)&&gP op)||(Nat.ble 3 (E op)&&isApp op)
theorem aay{E:Md}{op:Op}(h:nL op=true):dO E op=true:=by simp[dO,h]
theorem XB{E:Md}{op:Op}(h:jJ E op=true):dO E op=true:=by
 unfold jJ dO at *
 rw[cW,cW] at h;rw[cW];rcases h with(hs|h)|h
 ·left
  cases op<;>first|rfl|simp[vg] at hs
 ·right;rw[af,decide_eq_true_eq] at h ⊢;exact⟨by omega,h.2⟩
 ·rw[af] at h;exact .inl (aed h.2)
def DS(S S':Store):Prop:=∀k o,aN S k=some o->aN S' k=some o\/((∃z es,nI o z es)/\∃o' z es,aN S' k=some o'/\nI o' z es)
def BJ(P:Program)(tm:List (Nat×V))(c:Call)(r:V):Prop:=
 match c.callee with
 | .value x=>match ev tm x with
   | .c (.fn f caps)=>aF P f (c.args.toList.map (ev tm)++caps.map fun y=>.c (.ptr y.1 y.2)) r
   |_=>False
 |_=>False
def Dq(P:Program)(m:Nat)(t u:TypeId)(x y:V)(s:St)(dst:Option Nat)(K:St->Prop):Prop:=
 match x with
 | .c (.fD k)=>Nat.ble 3 m=true/\lU P t u k y s dst K
 |x=>mG P t u x y s dst K
def oz(P:Program)(E:Md)(o:Oper)(s:St)(K:St->Prop):Prop:=
 match o.op with
 | .call {callee:=.builtin .append,args:=lH,argTypes:=ts}=>match lH.toList,ts.toList with
   |[x,y],[t,u]=>Dq P (E (.call {callee:=.builtin .append,args:=lH,argTypes:=ts})) t u (ev s.tm x) (ev s.tm y) s o.dst K
   |_,_=>False
 |_=>bA P o s K
theorem vk{P:Program}{E:Md}{o:Oper}{s:St}{K:St->Prop}(h:isApp o.op=false):oz P E o s K=bA P o s K:=by
 unfold oz;split
 ·rename_i e;rw[e] at h;cases h
 ·rfl
theorem rX{P:Program}{E:Md}{o:Oper}{s:St}{K:St->Prop}(h:oz P E o s K):
 bA P o s K\/∃x y t u k,o.op=.call {callee:=.builtin .append,args:= #[x,y],argTypes:= #[t,u]}/\ev s.tm x=.c (.fD k)/\Nat.ble 3 (E o.op)=true/\lU P t u k (ev s.tm y) s o.dst K:=by
 cases ha:isApp o.op with
 |false=>left;rwa [vk ha] at h
 |true=>
  obtain⟨dst,op,ty,pos,after,guard⟩:=o;unfold isApp at ha;split at ha
  ·rename_i lH ts e;simp only at e;subst e;simp only[oz] at h;split at h
   ·rename_i x y t u hx ht
    obtain rfl:lH= #[x,y]:=by rw[<-cf (xs:=lH),hx]
    obtain rfl:ts= #[t,u]:=by rw[<-cf (xs:=ts),ht]
    unfold Dq at h;split at h
    ·rename_i k hk;exact .inr ⟨x,y,t,u,k,rfl,hk,h.1,h.2⟩
    ·left;simp only[bA,jY];exact h
   ·exact h.elim
  ·cases ha
theorem Lu{P:Program}{E:Md}{o:Oper}{s:St}{K:St->Prop}{x y:Operand}{t u:TypeId}{k:Key}(h1:o.op=.call {callee:=.builtin .append,args:= #[x,y],argTypes:= #[t,u]})(h2:ev s.tm x=.c (.fD k))
 (h3:Nat.ble 3 (E o.op)=true)(h4:lU P t u k (ev s.tm y) s o.dst K):oz P E o s K:=by
 obtain⟨dst,op,ty,pos,after,guard⟩:=o;simp only at h1;subst h1;simp only[oz,Dq,h2];exact⟨h3,h4⟩
theorem FV{P:Program}{E:Md}{o:Oper}{s:St}{K:St->Prop}(h:bA P o s K)(hx:∀x y t u k,o.op=.call {callee:=.builtin .append,args:= #[x,y],argTypes:= #[t,u]}->ev s.tm x≠ .c (.fD k)):oz P E o s K:=by
 cases ha:isApp o.op with
 |false=>rwa [vk ha]
 |true=>
  obtain⟨dst,op,ty,pos,after,guard⟩:=o;unfold isApp at ha;split at ha
  ·rename_i lH ts e;simp only at e;subst e;simp only[bA,jY] at h;simp only[oz];split at h
   ·rename_i x y t u hx' ht
    obtain rfl:lH= #[x,y]:=by rw[<-cf (xs:=lH),hx']
    obtain rfl:ts= #[t,u]:=by rw[<-cf (xs:=ts),ht]
    simp only
    unfold Dq;split
    ·rename_i k hk;exact absurd hk (hx x y t u k rfl)
    ·exact h
   ·exact h.elim
  ·cases ha
theorem Lv{P:Program}{o:Oper}{s:St}{K:St->Prop}(h:bA P o s K):∀x y t u k,o.op=.call {callee:=.builtin .append,args:= #[x,y],argTypes:= #[t,u]}->ev s.tm x≠ .c (.fD k):=by
 intro x y t u k e hk;obtain⟨dst,op,ty,pos,after,guard⟩:=o;simp only at e;subst e;simp only[bA,jY,mG,hk] at h;split at h
 ·exact h.2.2.2
 ·exact h
def dP(P:Program)(E:Md)(o:Oper)(s:St)(K:St->Prop):Prop:=
 if nL o.op then oz P E o s K else
 match o.op with
 | .call {callee:=.value x,args,argTypes}=>match E (.call {callee:=.value x,args,argTypes}) with
   |0=>∃r,BJ P s.tm {callee:=.value x,args,argTypes} r/\K (s.put o.dst r)
   |1=>∃S' v,DS s.st S'/\bA P o s (fun t=>t=St.put ⟨s.tm,S'⟩ o.dst v)/\K (St.put ⟨s.tm,S'⟩ o.dst v)
   |_=>∃S' v,bA P o s (fun t=>t=St.put ⟨s.tm,S'⟩ o.dst v)/\K (St.put ⟨s.tm,S'⟩ o.dst v)
 |op=>(nval P s.st s.tm op).1/\K (s.put o.dst (nval P s.st s.tm op).2)
def mH(P:Program)(E:Md)(R:Array Oper)(o:Oper)(s:St)(K:St->Prop):Prop:=
 match o.guard with
 |none=>dP P E o s K
 |some (j,want)=>
  match(eB R j).map (look s.tm) with
  |some (.c (.d (.b x)))=>(x=want->dP P E o s K)/\(x= !want->K (s.put o.dst (.dI [])))
  |some (.dI [])=>K (s.put o.dst (.dI []))
  |_=>False
def qy(P:Program)(E:Md)(R:Array Oper):List Oper->St->(St->Prop)->Prop
 |[],s,K=>K s
 |o::os,s,K=>mH P E R o s fun s'=>qy P E R os s' K
def NV(P:Program)(S:Store)(tm:List (Nat×V))(op:Op)(v:V):Prop:=
 (∃c,op=.call c/\BJ P tm c v)\/((nval P S tm op).1/\v=(nval P S tm op).2)
def gd(R:Array Oper)(o:Oper)(tm:List (Nat×V)):Option Bool:=
 match o.guard with
 |none=>some true
 |some (j,want)=>
  match(eB R j).map (look tm) with
  |some (.c (.d (.b x)))=>some (x==want)
  |some (.dI [])=>some false
  |_=>none
def jZ(P:Program)(E:Md)(R:Array Oper)(o:Oper)(s:St)(v:V)(s':St):Prop:=
 (gd R o s.tm=some false/\v=.dI []/\s'=s.put o.dst v)\/
 (gd R o s.tm=some true/\dO E o.op=false/\NV P s.st s.tm o.op v/\s'=s.put o.dst v)\/
 (gd R o s.tm=some true/\dO E o.op=true/\oz P E o s (fun t=>t=s')/\s'=St.put ⟨s.tm,s'.st⟩ o.dst v/\(nL o.op=false->jJ E o.op=false->DS s.st s'.st))
section
variable {P:Program} {w w':World} {σ σ':Nat->Nat} {S S':Store} {β β':Hs} {N:Nat} {s:St} {a:Act}
theorem nM{dst:Option Nat}{o:Obj}{mk:Key->V}{K:St->Prop}(h:newObj s dst o mk K):∃S' v,newObj s dst o mk (fun t=>t=St.put ⟨s.tm,S'⟩ dst v)/\K (St.put ⟨s.tm,S'⟩ dst v):=by
 unfold newObj at h ⊢;split at h
 ·rename_i own Ω hst;exact⟨_,_,rfl,h⟩
 ·exact h.elim
theorem aee{b:Bool}{es x:List (List D)}{z:Nat}{dst:Option Nat}{K:St->Prop}(h:xk b es s dst z x K):∃S' v,xk b es s dst z x (fun t=>t=St.put ⟨s.tm,S'⟩ dst v)/\K (St.put ⟨s.tm,S'⟩ dst v):=by
 cases b with
 |false=>exact nM (o:=.tok z x) (mk:=fun k=>.c (.bM k x)) h
 |true=>
  obtain⟨S',v,h1,h2⟩:=nM (o:=.bU z x) (mk:=fun k=>.c (.fD k)) h.2;exact⟨S',v,⟨h.1,h1⟩,h2⟩
theorem aef{l:Option Nat}{es x:List (List D)}{z:Nat}{dst:Option Nat}{K:St->Prop}(h:yQ l es s dst z x K):∃S' v,yQ l es s dst z x (fun t=>t=St.put ⟨s.tm,S'⟩ dst v)/\K (St.put ⟨s.tm,S'⟩ dst v):=by
 cases l with
 |none=>exact aee h
 |some n=>
  cases es with
  |nil=>exact⟨s.st,_,rfl,h⟩
  |cons y es=>exact nM (o:=.tok z x) (mk:=fun k=>.c (.bM k x)) h
theorem aeg{b:Bool}{n:Nat}{x:List (List D)}{z:Nat}{dst:Option Nat}{K:St->Prop}(h:Aj b n s dst z x K):∃S' v,Aj b n s dst z x (fun t=>t=St.put ⟨s.tm,S'⟩ dst v)/\K (St.put ⟨s.tm,S'⟩ dst v):=by
 cases b with
 |false=>exact nM (o:=.dY n z x) (mk:=fun k=>.c (.bM k x)) h
 |true=>exact⟨s.st,_,rfl,h⟩
theorem aaz{o:Oper}{K:St->Prop}(hD:nL o.op=true)(h:bA P o s K):∃S' v,bA P o s (fun t=>t=St.put ⟨s.tm,S'⟩ o.dst v)/\K (St.put ⟨s.tm,S'⟩ o.dst v):=by
 obtain⟨dst,op,ty,pos,after,guard⟩:=o
 cases op with
 |alloc t=>
  simp only[bA,qJ] at h ⊢;split at h
  ·exact nM h
  ·exact h.elim
 |box t x=>
  simp only[bA,yP] at h ⊢;split at h
  ·exact nM h
  ·exact h.elim
 |makeSlice t l c=>
  simp only[bA,uw] at h ⊢;split at h
  ·split at h
   ·obtain⟨h1,h2,h3,h4,h5,h6⟩:=h;obtain⟨S',v,k1,k2⟩:=nM h6;exact⟨S',v,⟨h1,h2,h3,h4,h5,k1⟩,k2⟩
   ·exact h.elim
  ·exact h.elim
 |store t x y=>
  simp only[bA,qK] at h ⊢;split at h
  ·split at h
   ·obtain⟨h1,h2,h3,h4⟩:=h;exact⟨_,_,⟨h1,h2,h3,rfl⟩,h4⟩
   ·exact h.elim
  ·split at h
   ·obtain⟨h1,h2,h3,h4,h5⟩:=h;exact⟨_,_,⟨h1,h2,h3,h4,rfl⟩,h5⟩
   ·exact h.elim
  ·split at h
   ·split at h
    ·split at h
     ·obtain⟨h1,h2,h3,h4,h5,h6⟩:=h;exact⟨_,_,⟨h1,h2,h3,h4,h5,rfl⟩,h6⟩
     ·exact h.elim
    ·exact h.elim
   ·exact h.elim
  ·exact h.elim
 |makeMap t r=>
  cases r with
  |none=>
   simp only[bA,qg] at h ⊢;exact nM h
  |some r=>simp[nL] at hD
 |mapUpdate t x y z=>
  simp only[bA,qh] at h ⊢;split at h
  ·split at h
   ·exact⟨_,_,rfl,h⟩
   ·exact h.elim
  ·exact h.elim
 |call c=>
  obtain⟨wC,args,uD⟩:=c
  cases wC with
  |builtin b=>
   cases b with
   |append=>
    simp only[bA,jY] at h ⊢;split at h
    ·simp only[mG] at h ⊢;split at h
     ·obtain⟨h1,h2,h3,h4⟩:=h;split at h4
      ·split at h4
       ·obtain⟨k1,k2,k3,k4⟩:=h4;exact⟨_,_,⟨h1,h2,h3,k1,k2,k3,rfl⟩,k4⟩
       ·obtain⟨k1,k2,k3,k4⟩:=h4;exact⟨_,_,⟨h1,h2,h3,k1,k2,k3,rfl⟩,k4⟩
       ·exact h4.elim
      ·obtain⟨k1,k2,k3⟩:=h4;obtain⟨S',v,l1,l2⟩:=aef k3;exact⟨S',v,⟨h1,h2,h3,k1,k2,l1⟩,l2⟩
      ·obtain⟨k1,k2,k3⟩:=h4;obtain⟨S',v,l1,l2⟩:=aeg k3;exact⟨S',v,⟨h1,h2,h3,k1,k2,l1⟩,l2⟩
      ·exact h4.elim
     ·exact h.elim
    ·exact h.elim
   |_=>simp[nL] at hD
  |_=>simp[nL] at hD
 |_=>simp[nL] at hD
theorem XC{tm tm':List (Nat×V)}{dst:Option Nat}{o:Obj}{mk:Key->V}{v:V}(h:newObj ⟨tm,S⟩ dst o mk (fun t=>t=St.put ⟨tm,S'⟩ dst v))(hd:dst≠none):
 newObj ⟨tm',S⟩ dst o mk (fun t=>t=St.put ⟨tm',S'⟩ dst v):=by
 unfold newObj at h ⊢
 cases S with
 |nil=>exact h
 |cons own Ω=>
  cases dst with
  |none=>exact absurd rfl hd
  |some d=>
   simp only[St.put,St.mk.injEq,ed,Prod.mk.injEq,and_true,true_and] at h ⊢;exact h
theorem Uv{tm tm':List (Nat×V)}{o:Obj}{mk:Key->V}{v:V}(h:newObj ⟨tm,S⟩ none o mk (fun t=>t=St.put ⟨tm,S'⟩ none v)):
 newObj ⟨tm',S⟩ none o mk (fun t=>t=St.put ⟨tm',S'⟩ none v):=by
 unfold newObj at h ⊢
 cases S with
 |nil=>exact h
 |cons own Ω=>
  simp only[St.put,St.mk.injEq,true_and] at h ⊢;exact h
theorem nN{tm tm':List (Nat×V)}{dst:Option Nat}{o:Obj}{mk:Key->V}{v:V}(h:newObj ⟨tm,S⟩ dst o mk (fun t=>t=St.put ⟨tm,S'⟩ dst v)):
 newObj ⟨tm',S⟩ dst o mk (fun t=>t=St.put ⟨tm',S'⟩ dst v):=by
 cases dst with
 |none=>exact Uv h
 |some d=>exact XC h (by simp)
theorem qM{tm tm':List (Nat×V)}{dst:Option Nat}{S1 S2:Store}{v v':V}(h:St.put ⟨tm,S1⟩ dst v=St.put ⟨tm,S2⟩ dst v'):St.put ⟨tm',S1⟩ dst v=St.put ⟨tm',S2⟩ dst v':=by
 cases dst with
 |none=>simp only[St.put,St.mk.injEq,true_and] at h ⊢;exact h
 |some d=>simp only[St.put,St.mk.injEq,ed,Prod.mk.injEq,and_true,true_and] at h ⊢;exact h
theorem aaA{b:Bool}{es x:List (List D)}{z:Nat}{tm tm':List (Nat×V)}{dst:Option Nat}{v:V}(h:xk b es ⟨tm,S⟩ dst z x (fun t=>t=St.put ⟨tm,S'⟩ dst v)):
 xk b es ⟨tm',S⟩ dst z x (fun t=>t=St.put ⟨tm',S'⟩ dst v):=by
 cases b with
 |false=>exact nN (o:=.tok z x) (mk:=fun k=>.c (.bM k x)) h
 |true=>exact⟨h.1,nN (o:=.bU z x) (mk:=fun k=>.c (.fD k)) h.2⟩
theorem aaB{l:Option Nat}{es x:List (List D)}{z:Nat}{tm tm':List (Nat×V)}{dst:Option Nat}{v:V}(h:yQ l es ⟨tm,S⟩ dst z x (fun t=>t=St.put ⟨tm,S'⟩ dst v)):
 yQ l es ⟨tm',S⟩ dst z x (fun t=>t=St.put ⟨tm',S'⟩ dst v):=by
 cases l with
 |none=>exact aaA h
 |some n=>
  cases es with
  |nil=>exact qM h
  |cons y es=>exact nN (o:=.tok z x) (mk:=fun k=>.c (.bM k x)) h
theorem aaC{b:Bool}{n:Nat}{x:List (List D)}{z:Nat}{tm tm':List (Nat×V)}{dst:Option Nat}{v:V}(h:Aj b n ⟨tm,S⟩ dst z x (fun t=>t=St.put ⟨tm,S'⟩ dst v)):
 Aj b n ⟨tm',S⟩ dst z x (fun t=>t=St.put ⟨tm',S'⟩ dst v):=by
 cases b with
 |false=>exact nN (o:=.dY n z x) (mk:=fun k=>.c (.bM k x)) h
 |true=>exact qM h
theorem aaD{o:Oper}{tm tm':List (Nat×V)}{v:V}(hD:nL o.op=true)(he:∀x∈o.op.operands,ev tm x=ev tm' x)(h:bA P o ⟨tm,S⟩ (fun t=>t=St.put ⟨tm,S'⟩ o.dst v)):
 bA P o ⟨tm',S⟩ (fun t=>t=St.put ⟨tm',S'⟩ o.dst v):=by
 obtain⟨dst,op,ty,pos,after,guard⟩:=o
 cases op with
 |alloc t=>
  simp only[bA,qJ] at h ⊢;split at h
  ·exact nN h
  ·exact h.elim
 |box t x=>
  have e1:=he x (by simp[Op.operands]);simp only[bA,yP,e1] at h ⊢;split at h
  ·exact nN h
  ·exact h.elim
 |makeSlice t l c=>
  have e1:=he l (by simp[Op.operands]);have e2:=he c (by simp[Op.operands]);simp only[bA,uw,e1,e2] at h ⊢;split at h
  ·split at h
   ·obtain⟨h1,h2,h3,h4,h5,h6⟩:=h;exact⟨h1,h2,h3,h4,h5,nN h6⟩
   ·exact h.elim
  ·exact h.elim
 |store t x y=>
  have e1:=he x (by simp[Op.operands]);have e2:=he y (by simp[Op.operands]);simp only[bA,qK,e1,e2] at h ⊢;split at h
  ·split at h
   ·obtain⟨h1,h2,h3,h4⟩:=h;exact⟨h1,h2,h3,qM h4⟩
   ·exact h.elim
  ·split at h
   ·obtain⟨h1,h2,h3,h4,h5⟩:=h;exact⟨h1,h2,h3,h4,qM h5⟩
   ·exact h.elim
  ·split at h
   ·split at h
    ·split at h
     ·obtain⟨h1,h2,h3,h4,h5,h6⟩:=h;exact⟨h1,h2,h3,h4,h5,qM h6⟩
     ·exact h.elim
    ·exact h.elim
   ·exact h.elim
  ·exact h.elim
 |makeMap t r=>
  cases r with
  |none=>
   simp only[bA,qg] at h ⊢;exact nN h
  |some r=>simp[nL] at hD
 |mapUpdate t x y z=>
  have e1:=he x (by simp[Op.operands]);have e2:=he y (by simp[Op.operands]);have e3:=he z (by simp[Op.operands]);simp only[bA,qh,e1,e2,e3] at h ⊢;split at h
  ·split at h
   ·exact qM h
   ·exact h.elim
  ·exact h.elim
 |call c=>
  obtain⟨wC,args,uD⟩:=c
  cases wC with
  |builtin b=>
   cases b with
   |append=>
    simp only[bA,jY] at h ⊢;split at h
    ·rename_i x y t u hxy htu
     have hargs:args= #[x,y]:=by rw[<-cf (xs:=args),hxy]
     have e1:=he x (by simp[Op.operands,Call.operands,hargs]);have e2:=he y (by simp[Op.operands,Call.operands,hargs]);simp only[mG,e1,e2] at h ⊢;split at h
     ·obtain⟨h1,h2,h3,h4⟩:=h;refine⟨h1,h2,h3,?_⟩;split at h4
      ·split at h4
       ·obtain⟨k1,k2,k3,k4⟩:=h4;exact⟨k1,k2,k3,qM k4⟩
       ·obtain⟨k1,k2,k3,k4⟩:=h4;exact⟨k1,k2,k3,qM k4⟩
       ·exact h4.elim
      ·obtain⟨k1,k2,k3⟩:=h4;exact⟨k1,k2,aaB k3⟩
      ·obtain⟨k1,k2,k3⟩:=h4;exact⟨k1,k2,aaC k3⟩
      ·exact h4.elim
     ·exact h.elim
    ·exact h.elim
   |_=>simp[nL] at hD
  |_=>simp[nL] at hD
 |_=>simp[nL] at hD
theorem XD{t u:TypeId}{k:Key}{y:V}{dst:Option Nat}{K:St->Prop}(h:lU P t u k y s dst K):∃S' v,lU P t u k y s dst (fun t=>t=St.put ⟨s.tm,S'⟩ dst v)/\K (St.put ⟨s.tm,S'⟩ dst v):=by
 unfold lU at h ⊢;split at h
 ·obtain⟨h1,h2,h3,h4,h5,h6⟩:=h;obtain⟨S',v,l1,l2⟩:=nM h6;exact⟨S',v,⟨h1,h2,h3,h4,h5,l1⟩,l2⟩
 ·exact h.elim
theorem aaE{E:Md}{o:Oper}{K:St->Prop}(hD:nL o.op=true)(h:oz P E o s K):∃S' v,oz P E o s (fun t=>t=St.put ⟨s.tm,S'⟩ o.dst v)/\K (St.put ⟨s.tm,S'⟩ o.dst v):=by
 rcases rX h with h|⟨x,y,t,u,k,h1,h2,h3,h4⟩
 ·obtain⟨S',v,l1,l2⟩:=aaz hD h;exact⟨S',v,FV l1 (Lv h),l2⟩
 ·obtain⟨S',v,l1,l2⟩:=XD h4;exact⟨S',v,Lu h1 h2 h3 l1,l2⟩
theorem aaF{f:FuncId}{args:List V}{tm tm':List (Nat×V)}{dst:Option Nat}{v:V}(h:vL P f args ⟨tm,S⟩ dst (fun t=>t=St.put ⟨tm,S'⟩ dst v)):vL P f args ⟨tm',S⟩ dst (fun t=>t=St.put ⟨tm',S'⟩ dst v):=by
 rcases h with⟨post,h1,h2⟩|⟨r,h1,h2⟩
 ·exact .inl ⟨post,h1,fun r NC hp=>qM (h2 r NC hp)⟩
 ·exact .inr ⟨r,h1,qM h2⟩
theorem aaG{E:Md}{o:Oper}{tm tm':List (Nat×V)}{v:V}(hD:dO E o.op=true)(he:∀x∈o.op.operands,ev tm x=ev tm' x)(h:bA P o ⟨tm,S⟩ (fun t=>t=St.put ⟨tm,S'⟩ o.dst v)):
 bA P o ⟨tm',S⟩ (fun t=>t=St.put ⟨tm',S'⟩ o.dst v):=by
 by_cases hd:nL o.op=true
 ·exact aaD hd he h
 ·have hc:gP o.op=true:=by
   unfold dO at hD;rw[cW,af] at hD;rcases hD with h|h
   ·exact absurd h hd
   ·exact h.2
  obtain⟨dst,op,ty,pos,after,guard⟩:=o
  cases op with
  |call c=>
   obtain⟨wC,args,uD⟩:=c
   cases wC with
   |value x=>
    have h1:args.toList.map (ev tm)=args.toList.map (ev tm'):=de fun y hy=>he y (by simp[Op.operands,Call.operands];exact .inr (by simpa using hy));have h2:ev tm x=ev tm' x:=he x (by simp[Op.operands,Call.operands]);simp only[bA,jY,h1,h2] at h ⊢;split at h
    ·exact aaF h
    ·exact h.elim
   |_=>simp[gP] at hc
  |_=>simp[gP] at hc
theorem XE{t u:TypeId}{k:Key}{y:V}{tm tm':List (Nat×V)}{dst:Option Nat}{v:V}(h:lU P t u k y ⟨tm,S⟩ dst (fun t=>t=St.put ⟨tm,S'⟩ dst v)):lU P t u k y ⟨tm',S⟩ dst (fun t=>t=St.put ⟨tm',S'⟩ dst v):=by
 unfold lU at h ⊢;simp only at h ⊢;split at h
 ·obtain⟨h1,h2,h3,h4,h5,h6⟩:=h;refine⟨h1,h2,h3,h4,h5,?_⟩;unfold newObj at h6 ⊢;simp only at h6 ⊢;split at h6
  ·exact qM h6
  ·exact h6.elim
 ·exact h.elim
theorem aaH{E:Md}{o:Oper}{tm tm':List (Nat×V)}{v:V}(hD:dO E o.op=true)(he:∀x∈o.op.operands,ev tm x=ev tm' x)(h:oz P E o ⟨tm,S⟩ (fun t=>t=St.put ⟨tm,S'⟩ o.dst v)):
 oz P E o ⟨tm',S⟩ (fun t=>t=St.put ⟨tm',S'⟩ o.dst v):=by
 rcases rX h with h|⟨x,y,t,u,k,h1,h2,h3,h4⟩
 ·refine FV (aaG hD he h) fun x y t u k e hk=>Lv h x y t u k e ?_;rw[<-hk];exact he x (by rw[e];simp[Op.operands,Call.operands])
 ·have e1:=he x (by rw[h1];simp[Op.operands,Call.operands]);have e2:=he y (by rw[h1];simp[Op.operands,Call.operands]);simp only at h2 h4;rw[e2] at h4;exact Lu h1 (by simp only;rw[<-e1];exact h2) h3 (XE h4)
theorem aeh{tm tm':List (Nat×V)}{op:Op}(he:∀x∈op.operands,ev tm x=ev tm' x):nval P S tm op=nval P S tm' op:=by
 unfold nval kT
 split<;>try rfl
 ·rw[he _ (by simp[Op.operands])]
 ·rw[he _ (by simp[Op.operands])]
 ·rename_i c x y;rw[he c (by simp[Op.operands]),he x (by simp[Op.operands]),he y (by simp[Op.operands])]
 ·rw[he _ (by simp[Op.operands])]
 ·rw[he _ (by simp[Op.operands])]
 ·rw[he _ (by simp[Op.operands])]
 ·rename_i t x i;rw[he x (by simp[Op.operands]),he i (by simp[Op.operands])]
 ·rename_i t x i;rw[he x (by simp[Op.operands]),he i (by simp[Op.operands])]
 ·rename_i op t x y _;rw[he x (by simp[Op.operands]),he y (by simp[Op.operands])]
 ·rw[he _ (by simp[Op.operands])]
 ·rw[he _ (by simp[Op.operands])]
 ·rw[he _ (by simp[Op.operands])]
 ·rename_i fn first caps
  have h1:first.toList.map (ev tm)=first.toList.map (ev tm'):=de fun x hx=>he x (by simp[Op.operands];exact .inl (by simpa using hx))
  have h2:caps.toList.map (ev tm)=caps.toList.map (ev tm'):=de fun x hx=>he x (by simp[Op.operands];exact .inr (by simpa using hx));rw[h1,h2]
 ·rw[he _ (by simp[Op.operands])]
 ·rename_i t x lo hi mx;rw[he x (by simp[Op.operands])]
  have h1:lo.map (ev tm)=lo.map (ev tm'):=by
   cases lo with
   |none=>rfl
   |some y=>simp[he y (by simp[Op.operands])]
  have h2:hi.map (ev tm)=hi.map (ev tm'):=by
   cases hi with
   |none=>rfl
   |some y=>simp[he y (by simp[Op.operands])]
  have h3:mx.map (ev tm)=mx.map (ev tm'):=by
   cases mx with
   |none=>rfl
   |some y=>simp[he y (by simp[Op.operands])]
  rw[h1,h2,h3]
 ·rename_i t parts
  have h1:(parts.toList.map fun x=>(x.1,ev tm x.2))=parts.toList.map fun x=>(x.1,ev tm' x.2):=de fun x hx=>by
   rw[he x.2 (by simp only[Op.operands,List.mem_toArray,da];exact⟨x,hx,rfl⟩)]
  rw[h1]
 ·rename_i t n parts
  have h1:(parts.toList.map fun x=>(x.1,ev tm x.2))=parts.toList.map fun x=>(x.1,ev tm' x.2):=de fun x hx=>by
   rw[he x.2 (by simp only[Op.operands,List.mem_toArray,da];exact⟨x,hx,rfl⟩)]
  rw[h1]
 ·rename_i t x i;rw[he x (by simp[Op.operands]),he i (by simp[Op.operands])]
 ·rename_i args uD;split
  ·rename_i x t hx ht
   have hargs:args= #[x]:=by rw[<-cf (xs:=args),hx]
   rw[he x (by simp[Op.operands,Call.operands,hargs])]
  ·rfl
 ·rename_i args uD;split
  ·rename_i x y hx
   have hargs:args= #[x,y]:=by rw[<-cf (xs:=args),hx]
   rw[he x (by simp[Op.operands,Call.operands,hargs]),he y (by simp[Op.operands,Call.operands,hargs])]
  ·rfl
 ·rename_i args uD;split
  ·rename_i x y hx
   have hargs:args= #[x,y]:=by rw[<-cf (xs:=args),hx]
   rw[he x (by simp[Op.operands,Call.operands,hargs]),he y (by simp[Op.operands,Call.operands,hargs])]
  ·rfl
theorem aaI{tm tm':List (Nat×V)}{c:Call}{v:V}(he:∀x∈c.operands,ev tm x=ev tm' x)(h:BJ P tm c v):BJ P tm' c v:=by
 unfold BJ at h ⊢;obtain⟨wC,args,uD⟩:=c
 cases wC with
 |value x=>
  simp only at h ⊢;rw[<-he x (by simp[Call.operands])];have h1:args.toList.map (ev tm)=args.toList.map (ev tm'):=de fun y hy=>he y (by simp[Call.operands];exact .inr (by simpa using hy));rw[<-h1];exact h
 |_=>exact h
def Ow:Obj->Prop
 | .box _=>True
 | .bU _ _=>True
 | .mp _=>True
 | .xf _=>True
 |_=>False
def E8(v:V)(k:Key):Prop:=(∃off,v=.c (.ptr k off))\/(∃i off,v=.c (.jv k i off))\/v=.c (.fD k)\/v=.c (.mp k)\/(∃r p,v=.c (.xp k r p))\/∃r p z i off,v=.c (.xq k r p z i off)
def Fix(S S':Store):Prop:=∀k o,aN S k=some o->Ow o->aN S' k=some o
theorem Fix.refl(S:Store):Fix S S:=fun _ _ h _=>h
theorem fE{q:Prop}(h:no.1):q:=h.elim
theorem aaJ{l:Option Nat}{tm:List (Nat×V)}{op:Op}(h:(kT P l S tm op).1)
 (hf:∀x∈op.operands,∀k,E8 (ev tm x) k->
   ∀o,aN S k=some o->Ow o->aN S' k=some o):kT P l S' tm op=kT P l S tm op:=by
 unfold kT at h ⊢
 split at h<;>try rfl
 ·rename_i t x;have hf:=hf x (by simp[Op.operands]);unfold xQ at h ⊢;split at h
  ·rfl
  ·split at h
   ·rename_i hx;simp only[hx]
   ·rename_i k off hx;split at h
    ·rename_i cs hk;rw[hf k (.inl ⟨off,hx⟩) _ hk trivial]
    ·exact fE h
   ·rename_i k i off hx;split at h
    ·rename_i aJ es hk;rw[hf k (.inr (.inl ⟨i,off,hx⟩)) _ hk trivial]
    ·exact fE h
   ·rename_i k r p z i off hx;split at h
    ·rename_i rs hk;rw[hf k (.inr (.inr (.inr (.inr (.inr ⟨r,p,z,i,off,hx⟩))))) _ hk trivial]
    ·exact fE h
   ·exact fE h
 ·rename_i t x f;have hf:=hf x (by simp[Op.operands]);unfold oV at h ⊢;split at h
  ·split at h
   ·split at h
    ·exact fE h
    ·rename_i fs hs _ fd hfd hne;split at h
     ·rename_i hx;simp[hs,hfd,hne,hx]
     ·rename_i k off hx;split at h
      ·rename_i cs hk;simp only[hs,hfd,hne,if_false,hx,hf k (.inl ⟨off,hx⟩) _ hk trivial,hk]
      ·exact fE h
     ·rename_i k i off hx;split at h
      ·rename_i aJ es hk;simp only[hs,hfd,hne,if_false,hx,hf k (.inr (.inl ⟨i,off,hx⟩)) _ hk trivial,hk]
      ·exact fE h
     ·rename_i k r p z i off hx;split at h
      ·rename_i rs hk;simp only[hs,hfd,hne,if_false,hx,hf k (.inr (.inr (.inr (.inr (.inr ⟨r,p,z,i,off,hx⟩))))) _ hk trivial,hk]
      ·exact fE h
     ·exact fE h
   ·exact fE h
  ·exact fE h
 ·rename_i t x i;have hf:=hf x (by simp[Op.operands]);unfold oW at h ⊢;split at h
  ·rename_i e k n' n ht hx hi;split at h
   ·rename_i aJ es hk;simp only[ht,hx,hi,hf k (.inr (.inr (.inl hx))) _ hk trivial,hk]
   ·exact fE h
  ·rename_i len e k off n' n ht hx hi;split at h
   ·rename_i cs hk;simp only[ht,hx,hi,hf k (.inl ⟨off,hx⟩) _ hk trivial,hk]
   ·exact fE h
  ·rename_i e k r p n' n ht hx hi;split at h
   ·rename_i rs hk;simp only[ht,hx,hi,hf k (.inr (.inr (.inr (.inr (.inl ⟨r,p,hx⟩))))) _ hk trivial,hk]
   ·exact fE h
  ·rename_i e y n' n hy hy2 ht hx hi;simp only[ht,hx,hi]
  ·exact fE h
 ·rename_i x;have hf:=hf x (by simp[Op.operands]);unfold sU at h ⊢;split at h
  ·rename_i k off hx;split at h
   ·rename_i cs hk;simp only[hx,hf k (.inl ⟨off,hx⟩) _ hk trivial,hk]
   ·exact fE h
  ·rename_i hx;simp only[hx]
  ·exact fE h
 ·rename_i t x i;have hf:=hf x (by simp[Op.operands]);unfold uZ at h ⊢;split at h
  ·rename_i kt et k l ht wu hi;split at h
   ·rename_i m hk hkt hz;simp only[ht,wu,hi,hf k (.inr (.inr (.inr (.inl wu)))) _ hk trivial,hk,hkt,hz]
   ·exact fE h
  ·exact fE h
 ·rename_i args uD;split at h
  ·rename_i x t hx ht
   have hargs:args= #[x]:=by rw[<-cf (xs:=args),hx]
   have hf:=hf x (by simp[Op.operands,Call.operands,hargs]);unfold BA at h ⊢;split at h
   ·rename_i l Io wu;simp only[Io,wu]
   ·rename_i n e Io;simp only[Io]
   ·rename_i e k Io wu;split at h
    ·rename_i aJ es hk;simp only[Io,wu,hf k (.inr (.inr (.inl wu))) _ hk trivial,hk]
    ·exact fE h
   ·rename_i e k r p Io wu;split at h
    ·rename_i rs hk;simp only[Io,wu,hf k (.inr (.inr (.inr (.inr (.inl ⟨r,p,wu⟩))))) _ hk trivial,hk]
    ·exact fE h
   ·rename_i e y hy hy2 Io wu;simp only[Io,wu]
   ·exact fE h
  ·exact fE h
end
def sG(acc:List Nat):List Edge->Nat
 |[]=>0
 |e::es=>(if Region.binds .any e then 2^e.on ||| acc.getD e.on 0 else 0) ||| sG acc es
def masks:List Oper->List Nat->List Nat
 |[],acc=>acc
 |o::os,acc=>masks os (acc++[sG acc o.after.toList])
def clash(E:Md)(R:Array Oper)(x y:Oper):Bool:= !(x.apart R y)||(dO E x.op&&dO E y.op)||jJ E x.op||jJ E y.op
def wD(E:Md)(R:Array Oper)(N:Nat):Bool:=
 (List.range R.size).all fun j=>
   (match R[j]? with
    |some o=>o.after.toList.all (fun e=> !Region.binds .any e||decide (e.on<j))&&(match o.dst with|some d=>decide (d<N)|none=>true)
    |none=>true)&&
   (List.range j).all fun i=>
     match R[i]?,R[j]? with
     |some x,some y=>((masks R.toList []).getD j 0).testBit i|| !(clash E R x y)
     |_,_=>true
def oZ(R:Array Oper)(i j:Nat):Bool:=if i<j then((masks R.toList []).getD j 0).testBit i else((masks R.toList []).getD i 0).testBit j
def kJ(E:Md)(R:Array Oper)(x y:Oper):Bool:= !(x.apart R y)||(dO E x.op&&dO E y.op)
def settled(R:Array Oper)(i:Nat):Operand->Bool
 | .tmp t=>(List.range R.size).all fun n=>decide (n<i)|| !(eB R n==some t)
 |_=>true
def rY(R:Array Oper)(i:Nat)(x:Oper)(j:Nat)(y:Oper):Bool:=gP y.op||match x.op with
 | .store _ a _=>settled R i a&&y.op.operands.toList.all (settled R j)
 |_=>false
def E9(E:Md)(R:Array Oper)(N:Nat):Bool:=
 (List.range R.size).all fun j=>
   (match R[j]? with
    |some o=>o.after.toList.all (fun e=> !Region.binds .any e||decide (e.on<j))&&(match o.dst with|some d=>decide (d<N)|none=>true)
    |none=>true)&&
   (List.range j).all fun i=>
     match R[i]?,R[j]? with
     |some x,some y=>((masks R.toList []).getD j 0).testBit i|| !(kJ E R x y||(jJ E x.op&& !(rY R i x j y))||(jJ E y.op&& !(rY R j y i x)))
     |_,_=>true
def Uw(v w:V):Bool:=
 match w with
 | .c (.ptr k _)=>(match v with| .c (.ptr k' _)=>k'.2 !=k.2| .c (.jv k' _ _)=>k'.2 !=k.2|_=>false)
 | .c (.jv k _ _)=>(match v with| .c (.ptr k' _)=>k'.2 !=k.2| .c (.jv k' _ _)=>k'.2 !=k.2|_=>false)
 | .c (.fD k)=>(match v with| .c (.ptr k' _)=>k'.2 !=k.2| .c (.jv k' _ _)=>k'.2 !=k.2|_=>false)
 | .c (.mp k)=>(match v with| .c (.ptr k' _)=>k'.2 !=k.2| .c (.jv k' _ _)=>k'.2 !=k.2|_=>false)
 | .c (.xp _ _ _)=>false
 | .c (.xq _ _ _ _ _ _)=>false
 |_=>true
def Nh(E:Md)(R:Array Oper)(tm:List (Nat×V)):Bool:=
 (List.range R.size).all fun i=>match R[i]? with
   |some x=> !(jJ E x.op)||match x.op with
    | .store _ a _=>(List.range R.size).all fun j=>match R[j]? with
      |some y=>oZ R i j||dO E y.op||gP y.op||y.op.operands.toList.all (fun z=>Uw (ev tm a) (ev tm z))
      |none=>true
    |_=>true
   |none=>true
def Ky(R:Array Oper)(i:Nat):Bool:=
 (List.range R.size).all fun j=>decide (j=i)||(if j<i then((masks R.toList []).getD i 0).testBit j else((masks R.toList []).getD j 0).testBit i)
def wE:Op->Option FuncId
 | .call {callee:=.value (.func f),args:=_,argTypes:=_}=>some f
 |_=>none
def vN(R:Array Oper)(m:Nat):Md:=fun op=>if(List.range R.size).all (fun i=>match R[i]? with
 |some o=>(wE op !=wE o.op)||Ky R i
 |none=>true) then 2 else m
def vo:Op->Bool
 | .alloc _=>true
 |_=>false
def Dr(E:Md)(R:Array Oper)(p:Nat):Bool:=match R[p]? with
 |some o=>vo o.op&&o.guard.isNone&&o.dst.isSome&&(List.range R.size).all fun j=>match R[j]? with
  |some y=>decide (j=p)||y.apart R o||(List.range p).all fun i=>match R[i]? with
   |some x=> !(dO E x.op)||(decide (i<j)&&((masks R.toList []).getD j 0).testBit i)
   |none=>true
  |none=>true
 |none=>true
def XF(E:Md)(R:Array Oper)(p j:Nat)(x y:Oper):Bool:= !(x.apart R y)||(!(decide (j=p))&&((dO E x.op&&dO E y.op)||jJ E x.op||jJ E y.op))
def AU(E:Md)(R:Array Oper)(N p:Nat):Bool:=
 Dr E R p&&(List.range R.size).all fun j=>
  (match R[j]? with
   |some o=>o.after.toList.all (fun e=> !Region.binds .any e||decide (e.on<j))&&(match o.dst with|some d=>decide (d<N)|none=>true)
   |none=>true)&&
  (List.range j).all fun i=>
    match R[i]?,R[j]? with
    |some x,some y=>((masks R.toList []).getD j 0).testBit i|| !(XF E R p j x y)
    |_,_=>true
def aaK(E:Md)(R:Array Oper)(N p:Nat):Bool:=
 Dr E R p&&(List.range R.size).all fun j=>
  (match R[j]? with
   |some o=>o.after.toList.all (fun e=> !Region.binds .any e||decide (e.on<j))&&(match o.dst with|some d=>decide (d<N)|none=>true)
   |none=>true)&&
  (List.range j).all fun i=>
    match R[i]?,R[j]? with
    |some x,some y=>((masks R.toList []).getD j 0).testBit i|| !(!(x.apart R y)||(!(decide (j=p))&&((dO E x.op&&dO E y.op)||(jJ E x.op&& !(rY R i x j y))||(jJ E y.op&& !(rY R j y i x)))))
    |_,_=>true
def aaL(R:Array Oper)(p i:Nat):Bool:=
 (List.range R.size).all fun j=>decide (j=i)||decide (j=p)||(if j<i then((masks R.toList []).getD i 0).testBit j else((masks R.toList []).getD j 0).testBit i)
def Ip(R:Array Oper)(p:Nat):Md:=fun op=>if(List.range R.size).all (fun i=>match R[i]? with
 |some o=>(wE op !=wE o.op)||aaL R p i
 |none=>true) then 2 else 0
def Gu(R:Array Oper)(p:Nat):Bool:=match R[p]? with
 |some o=>vo o.op
 |none=>false
def pOf(R:Array Oper)(N:Nat):Option Nat:=(List.range R.size).find? fun p=>Gu R p&&AU (Ip R p) R N p
def ajh(R:Array Oper)(N:Nat):Option Nat:=(List.range R.size).find? fun p=>Gu R p&&aaK (Ip R p) R N p
def Iq(R:Array Oper)(N:Nat):Md:=if wD (vN R 1) R N then vN R 1 else match pOf R N with
 |some p=>Ip R p
 |none=>if wD (vN R 0) R N then vN R 0 else fun _=>0
def Kz(R:Array Oper)(N:Nat):Bool:=wD (Iq R N) R N||match pOf R N with
 |some p=>AU (Iq R N) R N p
 |none=>false
def wF(R:Array Oper)(N:Nat):Md:=if E9 (vN R 1) R N then vN R 1 else match ajh R N with
 |some p=>Ip R p
 |none=>if E9 (vN R 0) R N then vN R 0 else fun _=>0
section
variable {P:Program} {E:Md} {w w':World} {σ σ':Nat->Nat} {S S':Store} {β β':Hs} {N:Nat} {s:St} {a:Act} {R:Array Oper}
theorem Dt:∀(l:List Oper)(acc:List Nat)(i:Nat),i<acc.length->(masks l acc)[i]? =acc[i]?
 |[],acc,i,h=>rfl
 |o::os,acc,i,h=>by rw[masks,Dt os _ i (by simp;omega),an h]
theorem Ox:∀(l:List Oper)(acc:List Nat)(i:Nat)(o:Oper),l[i]? =some o->
 ∃acc',(∀j,j<acc.length+i->acc'[j]? =(masks l acc)[j]?)/\acc'.length=acc.length+i/\(masks l acc)[acc.length+i]? =some (sG acc' o.after.toList)
 |[],acc,i,o,h=>by simp at h
 |x::os,acc,0,o,h=>by
  simp at h;subst h;refine⟨acc,fun j hj=> ?_,by simp,?_⟩
  ·rw[masks,Dt os _ j (by simp;omega),an (by omega)]
  ·rw[masks,di,Dt os _ _ (by simp),ac (ax _)];simp
 |x::os,acc,i+1,o,h=>by
  obtain⟨acc',h1,h2,h3⟩:=Ox os (acc++[sG acc x.after.toList]) i o (by simpa using h);refine⟨acc',fun j hj=> ?_,by rw[h2];simp;omega,?_⟩
  ·rw[masks];exact h1 j (by simp;omega)
  ·rw[masks,<-h3];congr 1;simp;omega
theorem Du{acc:List Nat}{k:Nat}:∀(es:List Edge),(sG acc es).testBit k=true->∃e∈es,Region.binds .any e=true/\(e.on=k\/(acc.getD e.on 0).testBit k=true)
 |[],h=>by simp[sG] at h
 |e::es,h=>by
  rw[sG,Nat.testBit_or,cW] at h;rcases h with h|h
  ·by_cases hb:Region.binds .any e=true
   ·rw[if_pos hb,Nat.testBit_or,cW] at h;refine⟨e,by simp,hb,?_⟩;rcases h with h|h
    ·left;rw[Nat.testBit_two_pow] at h;simpa using h
    ·exact .inr h
   ·rw[if_neg hb] at h;simp at h
  ·obtain⟨e',he',h'⟩:=Du es h;exact⟨e',by simp[he'],h'⟩
theorem zL(E:Nat->Prop)(hE:∀i o e,R[i]? =some o->E i->e∈o.after->Region.binds .any e=true->E e.on)(hlt:∀i o e,R[i]? =some o->e∈o.after->Region.binds .any e=true->e.on<i):
 ∀(i:Nat)(o:Oper),R[i]? =some o->(∀e∈o.after,Region.binds .any e=true->E e.on)->∀k,((masks R.toList []).getD i 0).testBit k=true->E k:=by
 intro i
 induction i using Nat.strongRecOn with
 |_ i ih=>
  intro o ho hed k hk;obtain⟨acc',h1,h2,h3⟩:=Ox R.toList [] i o (by simpa using ho);simp only[aq,cL] at h1 h2 h3;rw[cr,h3] at hk;obtain⟨e,he,hb,hek⟩:=Du _ hk
  have he':e∈o.after:=by simpa using he
  rcases hek with rfl|hek
  ·exact hed e he' hb
  ·have hon:=hlt i o e ho he' hb;have aji:=hed e he' hb;have hilt:i<R.size:=(aE.1 ho).1;have hsome:R[e.on]? =some R[e.on]:=cd (by omega);refine ih e.on hon _ hsome (fun e2 he2 hb2=>hE e.on _ e2 hsome aji he2 hb2) k ?_;rw[cr,h1 e.on (by omega)] at hek;rw[cr];exact hek
def jD(R:Array Oper)(vs:Nat->V)(E:Nat->Bool)(base:List (Nat×V)):Nat->Nat->V
 |0,t=>look base t
 |k+1,t=>if E k=true/\eB R k=some t then vs k else jD R vs E base k t
theorem Al{vs:Nat->V}{E:Nat->Bool}{base:List (Nat×V)}{t i:Nat}:∀(n:Nat),(∀j,j<n->eB R j=some t->(E j=true<->j<i))->
 jD R vs E base n t=jD R vs (fun _=>true) base (min n i) t
 |0,_=>by simp[jD]
 |n+1,h=>by
  have ih:=Al (vs:=vs) (base:=base) n (fun j hj hd=>h j (by omega) hd);rw[jD];by_cases hd:eB R n=some t
  ·by_cases hE:E n=true
   ·have hni:=(h n (by omega) hd).1 hE;rw[if_pos ⟨hE,hd⟩,show min (n+1) i=n+1 from by omega,jD,if_pos ⟨rfl,hd⟩]
   ·have hni:¬n<i:=fun hn=>hE ((h n (by omega) hd).2 hn);rw[if_neg (fun x=>hE x.1),ih,show min (n+1) i=min n i from by omega]
  ·rw[if_neg (fun x=>hd x.2),ih];by_cases hni:n<i
   ·rw[show min (n+1) i=n+1 from by omega,show min n i=n from by omega,jD,if_neg (fun x=>hd x.2)]
   ·rw[show min (n+1) i=min n i from by omega]
theorem vO{vs:Nat->V}{E E':Nat->Bool}{base:List (Nat×V)}{t:Nat}:∀(n:Nat),(∀j,j<n->eB R j=some t->E j=E' j)->jD R vs E base n t=jD R vs E' base n t
 |0,_=>rfl
 |n+1,h=>by
  rw[jD,jD,vO n (fun j hj hd=>h j (by omega) hd)];by_cases hd:eB R n=some t
  ·rw[h n (by omega) hd]
  ·rw[if_neg (fun x=>hd x.2),if_neg (fun x=>hd x.2)]
theorem BK{vs:Nat->V}{E:Nat->Bool}{base:List (Nat×V)}{t i:Nat}(hi:E i=true)(hd:eB R i=some t):∀(n:Nat),i<n->(∀j,j<n->i<j->eB R j=some t->E j=false)->jD R vs E base n t=vs i
 |0,h,_=>by omega
 |n+1,h,hj=>by
  rw[jD];by_cases hin:i=n
  ·subst hin;rw[if_pos ⟨hi,hd⟩]
  ·have:¬(E n=true/\eB R n=some t):=fun x=>by
    have:=hj n (by omega) (by omega) x.2;rw[this] at x;simp at x
   rw[if_neg this];exact BK hi hd n (by omega) (fun j hjn hij hdj=>hj j (by omega) hij hdj)
theorem FW{o:Oper}{s:St}{K:St->Prop}(h:mH P E R o s K):∃v s',jZ P E R o s v s'/\K s':=by
 have hN:∀(hg:gd R o s.tm=some true),dP P E o s K->∃v s',jZ P E R o s v s'/\K s':=by
  intro hg hx;unfold dP at hx;by_cases hD:nL o.op=true
  ·rw[if_pos hD] at hx;obtain⟨S',v,h1,h2⟩:=aaE hD hx;exact⟨v,_,.inr (.inr ⟨hg,aay hD,h1,by rw[jw],fun h=>by rw[hD] at h;cases h⟩),h2⟩
  ·rw[if_neg hD] at hx
   have hD':nL o.op=false:=by simpa using hD
   split at hx
   ·rename_i x args uD hop
    have hcv:gP o.op=true:=by rw[hop];rfl
    rw[<-hop] at hx;split at hx
    ·rename_i hE;obtain⟨r,h1,h2⟩:=hx;exact⟨r,_,.inr (.inl ⟨hg,by unfold dO;rw[hD',hE];rfl,.inl ⟨_,hop,h1⟩,rfl⟩),h2⟩
    ·rename_i hE;obtain⟨S',v,h0,h1,h2⟩:=hx;rw[<-vk (E:=E) (show isApp o.op=false by rw[hop];rfl)] at h1;exact⟨v,_,.inr (.inr ⟨hg,by unfold dO;rw[hE,hcv];simp,h1,by rw[jw],fun _ _=>by rw[jw];exact h0⟩),h2⟩
    ·rename_i hE0 hE1;obtain⟨S',v,h1,h2⟩:=hx
     have h3:2<=E o.op:=by
      rcases ey (E o.op) 2 with h|h
      ·exfalso
       have:E o.op=0\/E o.op=1:=by omega
       exact this.elim hE0 hE1
      ·exact h
     rw[<-vk (E:=E) (show isApp o.op=false by rw[hop];rfl)] at h1
     exact⟨v,_,.inr (.inr ⟨hg,by unfold dO;rw[hcv,cF,cW,decide_eq_true_eq];exact .inr (by omega),h1,by rw[jw],fun _ h=>by
      unfold jJ at h;rw[hcv,cF,cR,cR,decide_eq_false_iff_not] at h
      exact absurd h3 h.1.2⟩),h2⟩
   ·rename_i hne;refine⟨_,_,.inr (.inl ⟨hg,?_,.inr ⟨hx.1,rfl⟩,rfl⟩),hx.2⟩
    have:gP o.op=false:=by
     cases hc:gP o.op with
     |false=>rfl
     |true=>
      exfalso;unfold gP at hc;split at hc
      ·rename_i x a b ho;exact hne _ _ _ ho
      ·cases hc
    unfold dO;rw[hD',this];simp
 unfold mH at h;split at h
 ·rename_i hg;exact hN (by simp only[gd,hg]) h
 ·rename_i j want hg;split at h
  ·rename_i x hx;by_cases e:x=want
   ·exact hN (by simp only[gd,hg,hx,e,beq_self_eq_true]) (h.1 e)
   ·exact⟨.dI [],_,.inl ⟨by simp only[gd,hg,hx];simp[e],rfl,rfl⟩,h.2 (by cases x<;>cases want<;>simp_all)⟩
  ·rename_i hx;exact⟨.dI [],_,.inl ⟨by simp only[gd,hg,hx],rfl,rfl⟩,h⟩
  ·exact h.elim
theorem Dv{F:Oper->St->St->Prop}{D:List Oper->St->Prop}{K:St->Prop}(hnil:∀s,D [] s->K s)(adC:∀o os s,D (o::os) s->∃v s',jZ P E R o s v s'/\F o s s'/\D os s'):∀(n k:Nat),k+n=R.size->∀s,D (R.toList.drop k) s->
 ∃(st:Nat->St) (vs:Nat->V),st k=s/\K (st R.size)/\∀i,k<=i->i<R.size->∃o,R[i]? =some o/\jZ P E R o (st i) (vs i) (st (i+1))/\F o (st i) (st (i+1))
 |0,k,hk,s,h=>by
  have:R.toList.drop k=[]:=by apply ee;simp;omega
  rw[this] at h;exact⟨fun _=>s,fun _=>.any,rfl,hnil s h,fun i h1 h2=>by omega⟩
 |n+1,k,hk,s,h=>by
  have hlt:k<R.toList.length:=by simp;omega
  rw[bO hlt] at h
  have hRk:R[k]? =some R.toList[k]:=by
   rw[cd (by omega)];simp
  obtain⟨v,s',ht,hf,hd⟩:=adC _ _ s h;obtain⟨st,vs,h1,h2,h3⟩:=Dv hnil adC n (k+1) (by omega) s' hd;refine⟨fun i=>if i=k then s else st i,fun i=>if i=k then v else vs i,by simp,?_,fun i hi1 hi2=> ?_⟩
  ·have:R.size≠k:=by omega
   simp only[if_neg this];exact h2
  ·by_cases e:i=k
   ·subst e;refine⟨_,hRk,?_⟩;simp only[if_true]
    have:i+1≠i:=by omega
    simp only[if_neg this,h1];exact⟨ht,hf⟩
   ·obtain⟨o,ho,ht'⟩:=h3 i (by omega) hi2;refine⟨o,ho,?_⟩
    have:i+1≠k:=by omega
    simp only[if_neg e,if_neg this];exact ht'
theorem Gv{K:St->Prop}(n k:Nat)(hk:k+n=R.size)(s:St)(h:qy P E R (R.toList.drop k) s K):
 ∃(st:Nat->St) (vs:Nat->V),st k=s/\K (st R.size)/\∀i,k<=i->i<R.size->∃o,R[i]? =some o/\jZ P E R o (st i) (vs i) (st (i+1)):=by
 obtain⟨st,vs,h1,h2,h3⟩:=Dv (F:=fun _ _ _=>True) (D:=fun os s=>qy P E R os s K) (fun _ h=>h) (fun o os s h=>by
  obtain⟨v,s',a,b⟩:=FW h
  exact⟨v,s',a,trivial,b⟩) n k hk s h
 exact⟨st,vs,h1,h2,fun i a b=>by
  obtain⟨o,c,d,_⟩:=h3 i a b
  exact⟨o,c,d⟩⟩
theorem aaM{o:Oper}{s s':St}{v:V}(h:jZ P E R o s v s'):s'=St.put ⟨s.tm,s'.st⟩ o.dst v:=by
 rcases h with⟨_,_,h⟩|⟨_,_,_,h⟩|⟨_,_,_,h,_⟩
 ·rw[h];cases o.dst<;>rfl
 ·rw[h];cases o.dst<;>rfl
 ·exact h
theorem aaN{o:Oper}{s s':St}{v:V}(h:jZ P E R o s v s')(hD:dO E o.op=false):s'.st=s.st:=by
 rcases h with⟨_,_,h⟩|⟨_,_,_,h⟩|⟨_,h,_,_⟩
 ·rw[h];cases o.dst<;>rfl
 ·rw[h];cases o.dst<;>rfl
 ·rw[hD] at h;cases h
theorem wG{st:Nat->St}{vs:Nat->V}(h:∀i,i<R.size->∃o,R[i]? =some o/\jZ P E R o (st i) (vs i) (st (i+1)))(t:Nat):∀i,i<=R.size->look (st i).tm t=jD R vs (fun _=>true) (st 0).tm i t
 |0,_=>rfl
 |i+1,hi=>by
  obtain⟨o,ho,ht⟩:=h i (by omega);have e:=aaM ht;have ih:=wG h t i (by omega);rw[jD,<-ih]
  have hdst:eB R i=o.dst:=by simp[eB,ho]
  rw[hdst,e]
  cases hd:o.dst with
  |none=>simp[St.put]
  |some d=>
   simp only[St.put,look,true_and,cb]
theorem DS.refl(S:Store):DS S S:=fun _ _ h=>.inl h
theorem DS.trans{S1 S2 S3:Store}(h:DS S1 S2)(k:DS S2 S3):DS S1 S3:=by
 intro x o hx;rcases h x o hx with h1|⟨h1,o',z,es,h2,h2'⟩
 ·exact k x o h1
 ·rcases k x _ h2 with h3|⟨_,h3⟩
  ·exact .inr ⟨h1,o',z,es,h3,h2'⟩
  ·exact .inr ⟨h1,h3⟩
theorem DS.push{own:List Obj}{Ω:Store}{o:Obj}:DS (own::Ω) ((own++[o])::Ω):=fun k o' h=>.inl (gV _ _ _ _ _ h)
theorem oP{dst:Option Nat}{o:Obj}{mk:Key->V}{s':St}(h:newObj s dst o mk (fun t=>t=s')):DS s.st s'.st:=by
 unfold newObj at h;split at h
 ·rename_i own Ω hst;rw[<-h,jw,hst];exact DS.push
 ·exact h.elim
theorem aei{b:Bool}{es x:List (List D)}{z:Nat}{dst:Option Nat}{s':St}(h:xk b es s dst z x (fun t=>t=s')):DS s.st s'.st:=by
 cases b with
 |false=>exact oP (o:=.tok z x) (mk:=fun k=>.c (.bM k x)) h
 |true=>exact oP (o:=.bU z x) (mk:=fun k=>.c (.fD k)) h.2
theorem aej{l:Option Nat}{es x:List (List D)}{z:Nat}{dst:Option Nat}{s':St}(h:yQ l es s dst z x (fun t=>t=s')):DS s.st s'.st:=by
 cases l with
 |none=>exact aei h
 |some n=>
  cases es with
  |nil=>
   have h:St.put ⟨s.tm,s.st⟩ dst (.c (.d (.ol n x)))=s':=h;rw[<-h,jw];exact DS.refl _
  |cons y es=>exact oP (o:=.tok z x) (mk:=fun k=>.c (.bM k x)) h
theorem aek{b:Bool}{n:Nat}{x:List (List D)}{z:Nat}{dst:Option Nat}{s':St}(h:Aj b n s dst z x (fun t=>t=s')):DS s.st s'.st:=by
 cases b with
 |false=>exact oP (o:=.dY n z x) (mk:=fun k=>.c (.bM k x)) h
 |true=>
  have h:St.put ⟨s.tm,s.st⟩ dst (.c (.d (.ol n x)))=s':=h;rw[<-h,jw];exact DS.refl _
theorem Oy{o:Oper}{s s':St}(hD:nL o.op=true)(hs:vg o.op=false)(h:bA P o s (fun t=>t=s')):DS s.st s'.st:=by
 obtain⟨dst,op,ty,pos,after,guard⟩:=o
 cases op with
 |alloc t=>
  simp only[bA,qJ] at h;split at h
  ·exact oP h
  ·exact h.elim
 |box t x=>
  simp only[bA,yP] at h;split at h
  ·exact oP h
  ·exact h.elim
 |makeSlice t l c=>
  simp only[bA,uw] at h;split at h
  ·split at h
   ·exact oP h.2.2.2.2.2
   ·exact h.elim
  ·exact h.elim
 |store t x y=>simp[vg] at hs
 |mapUpdate t x y z=>simp[vg] at hs
 |makeMap t r=>
  cases r with
  |none=>
   simp only[bA,qg] at h;exact oP h
  |some r=>simp[nL] at hD
 |call c=>
  obtain⟨wC,args,uD⟩:=c
  cases wC with
  |builtin b=>
   cases b with
   |append=>
    simp only[bA,jY] at h;split at h
    ·simp only[mG] at h;split at h
     ·obtain⟨h1,h2,h3,h4⟩:=h;split at h4
      ·rename_i k es hex;split at h4
       ·rename_i z es' hk;obtain⟨k1,k2,k3,k4⟩:=h4;rw[<-k4,jw];intro k' o' ho';by_cases e:k'=k
        ·subst e;rw[hk] at ho';cases ho';exact .inr ⟨⟨_,_,.inl rfl⟩,_,_,_,bX _ _ _ _ hk,.inl rfl⟩
        ·exact .inl ((dx _ _ _ _ (Ne.symm e)).trans ho')
       ·rename_i n z es' hk;obtain⟨k1,k2,k3,k4⟩:=h4;rw[<-k4,jw];intro k' o' ho';by_cases e:k'=k
        ·subst e;rw[hk] at ho';cases ho';exact .inr ⟨⟨_,_,.inr ⟨_,rfl⟩⟩,_,_,_,bX _ _ _ _ hk,.inr ⟨_,rfl⟩⟩
        ·exact .inl ((dx _ _ _ _ (Ne.symm e)).trans ho')
       ·exact h4.elim
      ·exact aej h4.2.2
      ·exact aek h4.2.2
      ·exact h4.elim
     ·exact h.elim
    ·exact h.elim
   |_=>simp[nL] at hD
  |_=>simp[nL] at hD
 |_=>simp[nL] at hD
theorem aaO{o:Oper}{s s':St}{v:V}(h:jZ P E R o s v s')(hs:jJ E o.op=false):DS s.st s'.st:=by
 rcases h with⟨_,_,h⟩|⟨_,_,_,h⟩|⟨_,hD,h,_,hc⟩
 ·rw[h];cases o.dst<;>exact DS.refl _
 ·rw[h];cases o.dst<;>exact DS.refl _
 ·cases hd:nL o.op with
  |true=>
   unfold jJ at hs;rw[cR,cR] at hs;rcases rX h with h|⟨x,y,t,u,k,h1,_,h3,_⟩
   ·exact Oy hd hs.1.1 h
   ·have:=hs.2;rw[h3,h1] at this;cases this
  |false=>exact hc hd hs
theorem AV{st:Nat->St}{vs:Nat->V}(h:∀i,i<R.size->∃o,R[i]? =some o/\jZ P E R o (st i) (vs i) (st (i+1))){i:Nat}:∀(m:Nat),i+m<=R.size->(∀j o,i<=j->j<i+m->R[j]? =some o->dO E o.op=false)->(st (i+m)).st=(st i).st
 |0,_,_=>rfl
 |m+1,hm,hj=>by
  obtain⟨o,ho,ht⟩:=h (i+m) (by omega);rw[show i+(m+1)=i+m+1 from rfl,aaN ht (hj _ o (by omega) (by omega) ho)];exact AV h m (by omega) (fun j o h1 h2 h3=>hj j o h1 (by omega) h3)
def KS(k:Key)(S S':Store):Prop:=∀o,aN S k=some o->aN S' k=some o\/((∃z es,nI o z es)/\∃o' z es,aN S' k=some o'/\nI o' z es)
theorem KS.same{k:Key}{S S':Store}(h:aN S' k=aN S k):KS k S S':=fun _ hx=>.inl (h.trans hx)
theorem KS.trans{k:Key}{S1 S2 S3:Store}(h:KS k S1 S2)(h':KS k S2 S3):KS k S1 S3:=by
 intro o hx;rcases h o hx with h1|⟨h1,o',z,es,h2,h2'⟩
 ·exact h' o h1
 ·rcases h' _ h2 with h3|⟨_,h3⟩
  ·exact .inr ⟨h1,o',z,es,h3,h2'⟩
  ·exact .inr ⟨h1,h3⟩
theorem Ux{st:Nat->St}{vs:Nat->V}(h:∀i,i<R.size->∃o,R[i]? =some o/\jZ P E R o (st i) (vs i) (st (i+1))){i:Nat}{k:Key}:∀(m:Nat),i+m<=R.size->
 (∀j o,i<=j->j<i+m->R[j]? =some o->jJ E o.op=false\/KS k (st j).st (st (j+1)).st)->KS k (st i).st (st (i+m)).st
 |0,_,_=>fun _ hx=>.inl hx
 |m+1,hm,hj=>by
  obtain⟨o,ho,ht⟩:=h (i+m) (by omega);refine(Ux h m (by omega) (fun j o h1 h2 h3=>hj j o h1 (by omega) h3)).trans ?_;rcases hj _ o (by omega) (by omega) ho with hs|hs
  ·exact aaO ht hs k
  ·exact hs
theorem cnt_lt(p q:Nat->Bool):∀(l:List Nat)(i:Nat),(∀x,q x=true->p x=true)->i∈l->p i=true->q i=false->l.countP q<l.countP p
 |[],_,_,h,_,_=>by simp at h
 |x::l,i,h,hi,hp,hq=>by
  rw[List.countP_cons,List.countP_cons];have hle:l.countP q<=l.countP p:=List.countP_mono_left (fun y _ hy=>h y hy);rcases cA.1 hi with rfl|hi
  ·rw[hp,hq];simp;omega
  ·have ih:=cnt_lt p q l i h hi hp hq;by_cases hx:q x=true
   ·rw[hx,h x hx];simp;exact ih
   ·have:q x=false:=by simpa using hx
    rw[this];simp
    split<;>omega
end
section
variable {P:Program} {E:Md} {N:Nat} {R:Array Oper}
def kV(E:Md)(R:Array Oper)(p:Nat)(listed:Array Bool):Prop:=listed.getD p false=true/\p<R.size/\∃j x,j<p/\R[j]? =some x/\dO E x.op=true/\listed.getD j false=false
def Raw(P:Program)(R:Array Oper)(p:Nat)(w0 w:World)(σ:Nat->Nat)(S:Store)(β:Hs)(v:Value):Prop:=
 ∃b c ty,v=.pointer (some ⟨b,0,none⟩)/\w.heap[b]? =some (.cells c ty (0,0))/\σ b=0/\w0.heap.size<=b/\¬Own S β b/\
  ∀o t zs,R[p]? =some o->o.op=.alloc t->gK P t=some zs->∀w σ S β,dF w σ S β zs c.toList
open Classical in
noncomputable def qB(E:Md)(R:Array Oper)(p:Nat)(vs:Nat->V)(listed:Array Bool)(base:List (Nat×V))(t:Nat):V:=
 if kV E R p listed/\eB R p=some t then .any else jD R vs (fun i=>listed.getD i false) base R.size t
structure Mid(P:Program)(N:Nat)(E:Md)(R:Array Oper)(p:Nat)(st:Nat->St)(vs:Nat->V)(β0:Hs)(σ0:Nat->Nat)(w0:World)(listed:Array Bool)(a:Act)(w:World):Prop where
 size:listed.size=R.size
 closed:∀i o e,R[i]? =some o->listed.getD i false=true->e∈o.after->Region.binds .any e=true->listed.getD e.on false=true
 rep:∃m,m<=R.size/\(∀i o,R[i]? =some o->dO E o.op=true->(i=p->¬kV E R p listed)->(listed.getD i false=true<->i<m))/\∃σ β,a.tmps.size=N/\a.defers=[]/\cZ w σ (st m).st β/\
  (∀t,bJ w σ (st m).st β (qB E R p vs listed (st 0).tm t) (a.tmps.getD t undef))/\Step (st 0).st β0 σ0 w0 (st m).st β σ w/\Keep (st 0).st β0 (st m).st β/\
  (kV E R p listed->m<=p/\∀d,eB R p=some d->Raw P R p w0 w σ (st m).st β (a.tmps.getD d undef))
theorem CF{o:Oper}{x:Operand}{t:Nat}(hx:x∈o.op.operands)(e:x=.tmp t):t∈o.looksAt R:=by
 subst e;exact List.mem_append_left _ (List.mem_filterMap.2 ⟨.tmp t,by simpa using hx,rfl⟩)
theorem Ra{o:Oper}{g d:Nat}{want:Bool}(hg:o.guard=some (g,want))(hd:eB R g=some d):d∈o.looksAt R:=by
 refine List.mem_append_right _ ?_;rw[hg];show d∈((R[g]?).bind (·.dst)).toList;unfold eB at hd
 rw[hd];simp
theorem yU(h:wD E R N=true){i j:Nat}{x y:Oper}(hij:i<j)(hx:R[i]? =some x)(hy:R[j]? =some y)(hc:clash E R x y=true):((masks R.toList []).getD j 0).testBit i=true:=by
 have hj:j<R.size:=(aE.1 hy).1;have h1:=aS.1 h j (bP.2 hj);rw[af] at h1;have h2:=aS.1 h1.2 i (bP.2 hij);rw[hx,hy] at h2;simp only[hc,eL,Bool.or_false] at h2;exact h2
theorem Oz(h:wD E R N=true){i:Nat}{o:Oper}{e:Edge}(ho:R[i]? =some o)(he:e∈o.after)(hb:Region.binds .any e=true):e.on<i:=by
 have hj:i<R.size:=(aE.1 ho).1;have h1:=aS.1 h i (bP.2 hj);rw[af,ho] at h1;have h2:=h1.1;simp only[af] at h2;have h3:=aS.1 h2.1 e (by simpa using he);simpa [hb] using h3
theorem Rb(h:wD E R N=true){i:Nat}{o:Oper}(ho:R[i]? =some o):∀d,o.dst=some d->d<N:=by
 intro d hd;have hj:i<R.size:=(aE.1 ho).1;have h1:=aS.1 h i (bP.2 hj);rw[af,ho] at h1;have h2:=h1.1;simp only[af,hd] at h2;simpa using h2.2
theorem Uy{x y:Oper}:x.apart R y=y.apart R x:=by
 rw[fc]
 have key:∀x y:Oper,x.apart R y=true->y.apart R x=true:=fun x y h=>by
  obtain⟨h1,h2,h3⟩:=Oper.apart_spec h;unfold Oper.apart
  cases hx:x.dst<;>cases hy:y.dst<;>simp
  ·rename_i d;exact h3 d hy
  ·rename_i d;exact h1 d hx
  ·rename_i d d';exact⟨⟨h3 d' hy,fun e=>h2 d hx (by rw[hy,e])⟩,h1 d hx⟩
 exact⟨key x y,key y x⟩
theorem Rc{x y:Oper}:kJ E R x y=kJ E R y x:=by
 unfold kJ;rw[Uy,Bool.and_comm (dO E x.op)]
def Uz:Op->Bool
 | .move _=>true
 |_=>false
theorem aaP{P:Program}{l:Option Nat}{S S':Store}{tm:List (Nat×V)}{op:Op}(h:Uz op=true):kT P l S' tm op=kT P l S tm op:=by
 cases op<;>first|rfl|cases h
def refs(tm:List (Nat×V))(o:Oper)(k:Key):Prop:=Uz o.op=false/\∃x∈o.op.operands,E8 (ev tm x) k
structure Lx(E:Md)(R:Array Oper)(N:Nat)(st:Nat->St)(p:Nat):Prop where
 edge:∀(i:Nat)(o:Oper)(e:Edge),R[i]? =some o->e∈o.after->Region.binds .any e=true->e.on<i
 dst:∀(i:Nat)(o:Oper),R[i]? =some o->∀d,o.dst=some d->d<N
 pair:∀(i j:Nat)(x y:Oper),i<j->R[i]? =some x->R[j]? =some y->kJ E R x y=true->((masks R.toList []).getD j 0).testBit i=true\/(j=p/\dO E x.op=true/\x.apart R y=true)
 store:∀(i j:Nat)(x o:Oper),i≠j->R[i]? =some x->R[j]? =some o->jJ E x.op=true->dO E o.op=false->gP o.op=false->
  oZ R i j=true\/∀k,refs (st j).tm o k->KS k (st i).st (st (i+1)).st
 pend:∀o,R[p]? =some o->vo o.op=true/\o.guard=none/\(∃d,o.dst=some d)/\∀j y,j≠p->R[j]? =some y->y.apart R o=false->∀i x,i<p->R[i]? =some x->dO E x.op=true->i<j/\((masks R.toList []).getD j 0).testBit i=true
theorem af2{st:Nat->St}(h:wD E R N=true):Lx E R N st R.size where
 edge:=fun i o e h1 h2 h3=>Oz h h1 h2 h3
 dst:=fun i o h1=>Rb h h1
 pair:=fun i j x y hij hx hy hc=>.inl (yU h hij hx hy (by
  unfold kJ at hc;unfold clash
  rw[hc];rfl))
 store:=fun i j x o hij hx ho hs hD hc=>.inl (by
  unfold oZ;by_cases e:i<j
  ·rw[if_pos e];exact yU h e hx ho (by unfold clash;rw[hs];simp)
  ·rw[if_neg e]
   exact yU h (show j<i by omega) ho hx (by unfold clash;rw[hs];simp))
 pend:=fun o ho=>by rw[dj (ax _)] at ho;cases ho
theorem Te{p:Nat}(h:Dr E R p=true):∀o,R[p]? =some o->vo o.op=true/\o.guard=none/\(∃d,o.dst=some d)/\∀j y,j≠p->R[j]? =some y->y.apart R o=false->∀i x,i<p->R[i]? =some x->dO E x.op=true->i<j/\((masks R.toList []).getD j 0).testBit i=true:=by
 intro o ho;unfold Dr at h;rw[ho] at h;simp only[af] at h;obtain⟨⟨⟨h1,h2⟩,h3⟩,h4⟩:=h;refine⟨h1,by simpa using h2,eC.1 h3,fun j y hj hy hap i x hi hx hD=> ?_⟩;have hjl:j<R.size:=(aE.1 hy).1;have h5:=aS.1 h4 j (bP.2 hjl);rw[hy] at h5;simp only[hap,hj,decide_false,dm] at h5;have h6:=aS.1 h5 i (bP.2 hi);rw[hx] at h6;simpa [hD] using h6
theorem qN{o:Oper}(h:vo o.op=true):dO E o.op=true/\jJ E o.op=false/\gP o.op=false:=by
 obtain⟨dst,op,ty,pos,after,guard⟩:=o;cases op<;>simp_all[vo,dO,nL,jJ,vg,gP,isApp]
theorem ael{st:Nat->St}{p:Nat}(h0:AU E R N p=true):Lx E R N st p:=by
 unfold AU at h0;rw[af] at h0;obtain⟨hp,h⟩:=h0;have uU:=Te hp
 have hpr:∀(i j:Nat)(x y:Oper),i<j->R[i]? =some x->R[j]? =some y->((masks R.toList []).getD j 0).testBit i=true\/(x.apart R y=true/\(j=p\/((dO E x.op&&dO E y.op)=false/\jJ E x.op=false/\jJ E y.op=false))):=by
  intro i j x y hij hx hy;have hj:j<R.size:=(aE.1 hy).1;have h1:=aS.1 h j (bP.2 hj);rw[af] at h1;have h2:=aS.1 h1.2 i (bP.2 hij);rw[hx,hy] at h2;simp only[XF] at h2;rw[cW] at h2;rcases h2 with h2|h2
  ·exact .inl h2
  ·right;rw[eS,cR,eN] at h2;refine⟨h2.1,?_⟩;by_cases e:j=p
   ·exact .inl e
   ·right;have h3:=h2.2;simp only[e,decide_false,fk,cg,cR] at h3;exact⟨h3.1.1,h3.1.2,h3.2⟩
 refine⟨?_,?_,?_,?_,uU⟩
 ·intro i o e ho he hb;have hj:i<R.size:=(aE.1 ho).1;have h1:=aS.1 h i (bP.2 hj);rw[af,ho] at h1;have h2:=h1.1;simp only[af] at h2;have h3:=aS.1 h2.1 e (by simpa using he);simpa [hb] using h3
 ·intro i o ho d hd;have hj:i<R.size:=(aE.1 ho).1;have h1:=aS.1 h i (bP.2 hj);rw[af,ho] at h1;have h2:=h1.1;simp only[af,hd] at h2;simpa using h2.2
 ·intro i j x y hij hx hy hc;rcases hpr i j x y hij hx hy with h1|⟨h1,h2⟩
  ·exact .inl h1
  ·rcases h2 with h2|⟨h2,_,_⟩
   ·right;unfold kJ at hc;rw[h1] at hc;simp only[eL,dm,af] at hc;exact⟨h2,hc.1,h1⟩
   ·unfold kJ at hc;rw[h1,h2] at hc;cases hc
 ·intro i j x o hij hx ho hs hD hc
  have hjp:j≠p:=fun e=>by
   subst e;have:=(qN (E:=E) (uU o ho).1).1;rw[hD] at this;cases this
  have LA:i≠p:=fun e=>by
   subst e;have:=(qN (E:=E) (uU x hx).1).2.1;rw[hs] at this;cases this
  left;unfold oZ;by_cases e:i<j
  ·rw[if_pos e];rcases hpr i j x o e hx ho with h1|⟨_,h2⟩
   ·exact h1
   ·rcases h2 with h2|⟨_,h2,_⟩
    ·exact absurd h2 hjp
    ·rw[hs] at h2;cases h2
  ·rw[if_neg e];rcases hpr j i o x (by omega) ho hx with h1|⟨_,h2⟩
   ·exact h1
   ·rcases h2 with h2|⟨_,_,h2⟩
    ·exact absurd h2 LA
    ·rw[hs] at h2;cases h2
theorem Oper.XG{o:Oper}{a:Act}{w:World}{K:Act->World->Prop}{Q:Exit->Act->World->Prop}(hh:o.wp P a w K Q):o.wp P a w (fun a' w'=>K a' w'/\∀d,o.dst≠some d->a'.tmps.getD d undef=a.tmps.getD d undef) Q:=by
 have key:∀(ds:List Deferred)(v:Value)(d:Nat),o.dst≠some d->(({a with defers:=ds}:Act).put o.dst v).tmps.getD d undef=a.tmps.getD d undef:=by
  intro ds v d hd
  cases ho:o.dst with
  |none=>rfl
  |some e=>
   have hne:e≠d:=fun x=>hd (by rw[ho,x]);simp only[Act.put,dq];rw[eI hne]
 unfold Oper.wp at *
 generalize (execOp a.eval o).run P w=r at *
 cases r with
 |ok n w'=>
  cases n<;>simp only[Oper.upon] at hh ⊢ <;>
   first
    |exact⟨hh,fun d hd=>key _ _ d hd⟩
    |exact Calls.mono hh (fun e w'' he=>by cases e<;>first|exact⟨he,fun d hd=>key _ _ d hd⟩|exact he)
    |exact Rows.mono hh (fun _ _ he=>⟨he,fun d hd=>key _ _ d hd⟩)
 |halt x w'=>cases x<;>simp only[Oper.upon] at hh ⊢ <;>exact hh
theorem qO{a:Act}{dst:Option Nat}{v:Value}{d:Nat}(h:dst≠some d):(a.put dst v).tmps.getD d undef=a.tmps.getD d undef:=by
 cases dst with
 |none=>rfl
 |some e=>
  have hne:e≠d:=fun x=>h (by rw[x]);simp only[Act.put,dq];rw[eI hne]
theorem aaQ{t:TypeId}{zs:List C}(h:gK P t=some zs):∃z:Value,(∀w,(zeroValue t).run P w=.ok z w)/\∀w σ S β,dF w σ S β zs z.cells.toList:=by
 unfold gK at h
 cases hi:P.info? t with
 |none=>rw[hi] at h;cases h
 |some i=>
  rw[hi] at h
  cases hz:i.zero with
  |none=>simp[hz] at h
  |some z=>
   simp only[dc,hz] at h;split at h
   ·rename_i hall;cases h;refine⟨z,fun w=>by simp[zeroValue,typeInfo,hi,hz],fun w σ S β=>⟨by simp,fun j x hx=> ?_⟩⟩;rw[be] at hx
    cases hv:z.cells.toList[j]? with
    |none=>rw[hv] at hx;cases hx
    |some v=>
     rw[hv] at hx;cases hx;exact⟨v,rfl,xP _ _ _ _ _,aS.1 hall v (cM hv)⟩
   ·cases h
theorem aaR{w w0:World}{σ σ0:Nat->Nat}{S0:Store}{β0:Hs}{own:List Obj}{Ω:Store}{β:Hs}{zs:List C}{b:Nat}{c:Array Value}{ty:TypeId}(hS:cZ w σ (own::Ω) β)(hst:Step S0 β0 σ0 w0 (own::Ω) β σ w)(hb:w.heap[b]? =some (.cells c ty (0,0)))(hσ:σ b=0)
 (h0:w0.heap.size<=b)(hno:¬Own (own::Ω) β b)(hz:∀w σ S β,dF w σ S β zs c.toList):
 ∃bo bΩ,β=bo::bΩ/\bo.length=own.length/\cZ w σ ((own++[.box zs])::Ω) ((bo++[Value.pointer (some ⟨b,0,none⟩)])::bΩ)/\Keep (own::Ω) β ((own++[.box zs])::Ω) ((bo++[Value.pointer (some ⟨b,0,none⟩)])::bΩ)/\
  Step S0 β0 σ0 w0 ((own++[.box zs])::Ω) ((bo++[Value.pointer (some ⟨b,0,none⟩)])::bΩ) σ w:=by
 cases β with
 |nil=>have:=hS.shape.1;simp at this
 |cons bo bΩ=>
 have hlen:bo.length=own.length:=by
  obtain⟨gr,g1,g2⟩:=hS.shape.2 0 own rfl;simp at g1;rw[g1];exact g2
 refine⟨bo,bΩ,rfl,hlen,?_⟩
 have hkeep:Keep (own::Ω) (bo::bΩ) ((own++[.box zs])::Ω) ((bo++[Value.pointer (some ⟨b,0,none⟩)])::bΩ):=by
  intro k o1 h1;obtain⟨h2,rW,_⟩:=hS.obj k o1 h1;exact⟨o1,gV _ _ _ _ _ h1,by rw[gV _ _ _ _ _ rW,rW];exact .refl _ _⟩
 have hinv:∀k o1 h1,aN ((own++[Obj.box zs])::Ω) k=some o1->aN ((bo++[Value.pointer (some ⟨b,0,none⟩)])::bΩ) k=some h1->
  (aN (own::Ω) k=some o1/\aN (bo::bΩ) k=some h1)\/(k=(0,own.length)/\o1=.box zs/\h1=Value.pointer (some ⟨b,0,none⟩)):=by
  intro k o1 h1 e1 e2;rcases jC _ _ _ _ _ e1 with e1|⟨rfl,rfl⟩
  ·left;refine⟨e1,?_⟩;rcases jC _ _ _ _ _ e2 with e2|⟨rfl,rfl⟩
   ·exact e2
   ·rw[aD,hlen] at e1;have:=(ae.1 e1).1;omega
  ·right;rw[<-hlen,bg] at e2;exact⟨rfl,rfl,(cx e2).symm⟩
 have hown:∀x,Own ((own++[Obj.box zs])::Ω) ((bo++[Value.pointer (some ⟨b,0,none⟩)])::bΩ) x->Own (own::Ω) (bo::bΩ) x\/x=b:=by
  rintro x ⟨k,o,h,e1,e2,e3⟩;rcases hinv k o h e1 e2 with⟨f1,f2⟩|⟨rfl,rfl,rfl⟩
  ·exact .inl ⟨k,o,h,f1,f2,e3⟩
  ·right;cases e3;rfl
 have hmono:∀k o h,aN (own::Ω) k=some o->aN (bo::bΩ) k=some h->eT w σ ((own::Ω).drop k.1) ((bo::bΩ).drop k.1) o h->eT w σ (((own++[Obj.box zs])::Ω).drop k.1) (((bo++[Value.pointer (some ⟨b,0,none⟩)])::bΩ).drop k.1) o h:=
  fun k o h _ _ hr=>hr.mono (bQ.refl _ _) (hkeep.drop _) fun x _=>⟨rfl,rfl⟩
 refine⟨⟨?_,?_,⟨?_,?_⟩,hS.live,hS.lX⟩,hkeep,⟨hst.size,hst.os,hst.output,fun x hx hn=>hst.far x hx hn,hst.near,fun x hx=> ?_⟩⟩
 ·intro k o1 h1;rcases jC _ _ _ _ _ h1 with h1|⟨rfl,rfl⟩
  ·obtain⟨h2,rW,hr⟩:=hS.obj k o1 h1;exact⟨h2,gV _ _ _ _ _ rW,hmono k o1 h2 h1 rW hr⟩
  ·exact⟨Value.pointer (some ⟨b,0,none⟩),by rw[<-hlen,bg],b,c,ty,rfl,hb,hσ,hz _ _ _ _⟩
 ·intro k k' o1 o2 h1 h2 x e1 e2 e3 e4 e5 e6;rcases hinv k o1 h1 e1 e2 with⟨f1,f2⟩|⟨rfl,rfl,rfl⟩
  ·rcases hinv k' o2 h2 e4 e5 with⟨g1,g2⟩|⟨rfl,rfl,rfl⟩
   ·exact hS.apart _ _ _ _ _ _ _ f1 f2 e3 g1 g2 e6
   ·cases e6;exact absurd ⟨k,o1,h1,f1,f2,e3⟩ hno
  ·rcases hinv k' o2 h2 e4 e5 with⟨g1,g2⟩|⟨rfl,rfl,rfl⟩
   ·cases e3;exact absurd ⟨k',o2,h2,g1,g2,e6⟩ hno
   ·rfl
 ·have:=hS.shape.1;simpa using this
 ·intro l fr hl
  cases l with
  |zero=>simp at hl;subst hl;exact⟨_,rfl,by simp[hlen]⟩
  |succ l=>exact hS.shape.2 (l+1) fr (by simpa using hl)
 ·rcases hown x hx with h|h
  ·exact hst.own x h
  ·subst h;exact .inr h0
theorem Rf{w:World}{σ:Nat->Nat}{β:Hs}{s:St}{a:Act}{o:Oper}{K:St->Prop}{Q:Exit->Act->World->Prop}(hd:∀d,o.dst=some d->d<N)(hR:iI N s a w σ β)(h:oz P E o s K):o.wp P a w (Then N s.st β σ w K) Q:=by
 rcases rX h with h|⟨x,y,t,u,k,h1,h2,_,h4⟩
 ·exact BI hd hR h
 ·refine Dn (fun r w' hr=> ?_) hd hR h2 h4;obtain⟨dst,op,ty,pos,after,guard⟩:=o;simp only at h1;subst h1;simp only at hr;simp[execOp,resolve,invoke,builtin,hr]
theorem Ir{st:Nat->St}{vs:Nat->V}{p:Nat}{o:Oper}{d:Nat}{t:TypeId}(ht:jZ P E R o (st p) (vs p) (st (p+1)))(hop:o.op=.alloc t)(hg:o.guard=none)(hd:o.dst=some d):
 ∃zs own Ω,gK P t=some zs/\(st p).st=own::Ω/\(st (p+1)).st=(own++[.box zs])::Ω/\vs p=.c (.ptr (0,own.length) 0):=by
 have hgd:gd R o (st p).tm=some true:=by unfold gd;rw[hg]
 rcases ht with⟨h1,_,_⟩|⟨_,hD,_,_⟩|⟨_,hD,hx,hs',_⟩
 ·rw[hgd] at h1;cases h1
 ·rw[(qN (E:=E) (o:=o) (by rw[hop];rfl)).1] at hD;cases hD
 ·obtain⟨dst,op,ty,pos,after,guard⟩:=o;simp only at hop hd;subst hop;subst hd;rw[vk rfl] at hx;unfold bA qJ at hx;simp only at hx
  cases hz:gK P t with
  |none=>rw[hz] at hx;exact hx.elim
  |some zs=>
   rw[hz] at hx
   generalize st (p+1)=s1 at *
   generalize st p=s0 at *
   obtain⟨tm,S⟩:=s0;simp only[newObj] at hx
   cases S with
   |nil=>exact hx.elim
   |cons own Ω=>
    subst hx;refine⟨zs,own,Ω,rfl,rfl,rfl,?_⟩;simp only[St.put,St.mk.injEq,ed,Prod.mk.injEq,and_true,true_and] at hs';exact hs'.symm
theorem mid_step{st:Nat->St}{vs:Nat->V}{β0:Hs}{σ0:Nat->Nat}{w0:World}{Q:Exit->Act->World->Prop}{p:Nat}(hok:Lx E R N st p)
 (hT:∀i,i<R.size->∃o,R[i]? =some o/\jZ P E R o (st i) (vs i) (st (i+1))){listed:Array Bool}{a:Act}{w:World}(hM:Mid P N E R p st vs β0 σ0 w0 listed a w){i:Nat}(hi:i∈Region.ready .any R listed):
 wpOp P R Q i (fun a' w'=>Mid P N E R p st vs β0 σ0 w0 (listed.setIfInBounds i true) a' w') a w:=by
 obtain⟨hun,o,ho,Dw⟩:=mem_ready.1 hi;have hlt:i<R.size:=(aE.1 ho).1;obtain⟨o',ho',ht⟩:=hT i hlt;rw[ho] at ho';cases ho'
 have uH:listed.getD i false=false:=by
  have hs:i<listed.size:=by rw[hM.size];exact hlt
  simp[hs] at hun ⊢;exact hun
 obtain⟨m,hm,hmD,σ,β,hsz,hdf,hS,hrT,hst,hkp,uU⟩:=hM.rep;have hdn:=hok.dst i o ho
 have hset:(listed.setIfInBounds i true).getD i false=true:=by
  have hs:i<listed.size:=by rw[hM.size];exact hlt
  simp[hs]
 have UA:∀j,(listed.setIfInBounds i true).getD j false=true->j=i\/listed.getD j false=true:=by
  intro j hj;by_cases e:j=i
  ·exact .inl e
  ·rw[getD_set_ne false (Ne.symm e)] at hj;exact .inr hj
 have ahO:∀j,(listed.setIfInBounds i true).getD j false=false->j≠i/\listed.getD j false=false:=by
  intro j hj;by_cases e:j=i
  ·subst e;rw[hset] at hj;cases hj
  ·rw[getD_set_ne false (Ne.symm e)] at hj;exact⟨e,hj⟩
 have BL:∀j x k,R[j]? =some x->listed.getD j false=true->((masks R.toList []).getD j 0).testBit k=true->listed.getD k false=true:=fun j x k hx hE hb=>
  zL (fun k=>listed.getD k false=true) hM.closed hok.edge j x hx (fun e he hb=>hM.closed j x e hx hE he hb) k hb
 have wH:∀k,((masks R.toList []).getD i 0).testBit k=true->listed.getD k false=true:=fun k hb=>
  zL (fun k=>listed.getD k false=true) hM.closed hok.edge i o ho (fun e he hb=>Dw e he hb) k hb
 have af4:kV E R p listed->i≠p:=fun h e=>by have h1:=h.1;rw[<-e,uH] at h1;cases h1
 have BM:∀j x e,R[j]? =some x->(listed.setIfInBounds i true).getD j false=true->e∈x.after->Region.binds .any e=true->(listed.setIfInBounds i true).getD e.on false=true:=by
  intro j x e hx hE he hb;by_cases hji:j=i
  ·subst hji;rw[ho] at hx;cases hx;exact getD_set_true (Dw e he hb)
  ·rw[getD_set_ne false (Ne.symm hji)] at hE;exact getD_set_true (hM.closed j x e hx hE he hb)
 by_cases hA2:i=p/\∃j x,j<p/\R[j]? =some x/\dO E x.op=true/\listed.getD j false=false
 ·
  obtain⟨rfl,j0,x0,hj0,hx0,hD0,hu0⟩:=hA2;obtain⟨hal,hgn,⟨d,hd⟩,_⟩:=hok.pend o ho
  obtain⟨ty,hop⟩:∃ty,o.op=.alloc ty:=by
   cases h:o.op<;>rw[h] at hal<;>first|exact⟨_,rfl⟩|cases hal
  obtain⟨zs,own,Ω,hzs,_,_,_⟩:=Ir ht hop hgn hd;obtain⟨z,rV,hzc⟩:=aaQ hzs
  have hnp:¬kV E R i listed:=fun h=>by have h1:=h.1;rw[uH] at h1;cases h1
  have hP':kV E R i (listed.setIfInBounds i true):=⟨hset,hlt,j0,x0,hj0,hx0,hD0,by rw[getD_set_ne false (by omega)];exact hu0⟩
  have hmp:m<=i:=by
   have h1:=hmD j0 x0 hx0 hD0 (fun _=>hnp);rcases ey j0 m with h|h
   ·rw[h1.2 h] at hu0;cases hu0
   ·omega
  have hdi:eB R i=some d:=by simp[eB,ho,hd]
  have hg:=xR w σ hS.live z.cells ty 0;unfold wpOp;rw[ho]
  simp only
  rw[if_pos (by simp[Region.wanted,hgn])];left
  have hrun:(execOp a.eval o).run P w=.ok (.value (.pointer (some ⟨w.heap.size,0,none⟩))) {w with heap:=w.heap.push (.cells z.cells ty)}:=by
   have Od:(newVar ty z).run P w=.ok ⟨w.heap.size,0,none⟩ {w with heap:=w.heap.push (.cells z.cells ty)}:=rfl;have rV:=rV w;clear hS hrT hst hkp uU hM hdn ht;obtain⟨dst,op,ty',pos,after,guard⟩:=o;simp only at hop;subst hop;simp[execOp,Instr.alloc,rV,Od]
  unfold Oper.wp;rw[hrun];show Mid P N E R i st vs β0 σ0 w0 _ (a.put o.dst _) _;rw[hd]
  have hdN:d<a.tmps.size:=by rw[hsz];exact hdn d hd
  refine⟨by simpa using hM.size,BM,m,hm,fun j x hx ou hjp=> ?_,fun b=>if b=w.heap.size then 0 else σ b,β,by simp[Act.put,hsz],hdf,hS.grow hg,fun t=> ?_,hst.trans (Step.jm hg),hkp,fun _=>⟨hmp,fun d' hd'=> ?_⟩⟩
  ·have hji:j≠i:=fun e=>hjp e hP';rw[getD_set_ne false (Ne.symm hji)];exact hmD j x hx ou fun _=>hnp
  ·unfold qB;by_cases e:t=d
   ·subst e;rw[if_pos ⟨hP',hdi⟩];exact trivial
   ·rw[if_neg (fun h=>e (by rw[hdi] at h;exact(cx h.2).symm))]
    rw[vO (E':=fun i=>listed.getD i false) R.size (fun j hj hdj=>by
     have hji:j≠i:=fun x=>by rw[x,hdi] at hdj;exact e (cx hdj).symm
     exact getD_set_ne false (Ne.symm hji))]
    have h1:=hrT t;unfold qB at h1;rw[if_neg (fun h=>hnp h.1)] at h1;rw[qO (by intro x;exact e (cx x).symm)];exact h1.mono hg.near (Keep.refl _ _)
  ·rw[hdi] at hd';cases hd';refine⟨w.heap.size,z.cells,ty,by simp[Act.put,Array.getD,hdN],by simp,by simp,hst.size,fun h=> ?_,fun o2 t2 zs2 h1 h2 h3=> ?_⟩
   ·have:=hS.AA h;omega
   ·rw[ho] at h1;cases h1;rw[hop] at h2;cases h2;rw[hzs] at h3;cases h3;exact hzc
 have hA:i=p->∀j x,j<p->R[j]? =some x->dO E x.op=true->listed.getD j false=true:=fun e j x hj hx hD=>by
  cases hl:listed.getD j false with
  |true=>rfl
  |false=>exact absurd ⟨e,j,x,hj,hx,hD,hl⟩ hA2
 have hPP:kV E R p (listed.setIfInBounds i true)->kV E R p listed:=by
  rintro⟨h1,h2,j,x,hj,hx,hD,hl⟩;obtain⟨hji,hl⟩:=ahO j hl;rcases UA p h1 with e|h
  ·rw[hA e.symm j x hj hx hD] at hl;cases hl
  ·exact⟨h,h2,j,x,hj,hx,hD,hl⟩
 have hap:kV E R p listed->∀po d,R[p]? =some po->po.dst=some d->o.dst≠some d/\d∉o.looksAt R:=by
  rintro hP po d hpo uU;have XH:=hP;obtain⟨_,_,j0,x0,hj0,hx0,hD0,hu0⟩:=XH
  have:o.apart R po=true:=by
   cases hc:o.apart R po with
   |true=>rfl
   |false=>
    have:=(hok.pend po hpo).2.2.2 i o (af4 hP) ho hc j0 x0 hj0 hx0 hD0;rw[wH j0 this.2] at hu0;cases hu0
  obtain⟨q1,q2,q3⟩:=Oper.apart_spec this;exact⟨fun e=>q2 d e uU,q3 d uU⟩
 have LA:kV E R p listed->dO E o.op=true->i<p:=by
  rintro hP hD;have XH:=hP;obtain⟨_,hpl,j0,x0,hj0,hx0,hD0,hu0⟩:=XH;have hne:=af4 hP;rcases ey i p with h|h
  ·exact h
  ·exfalso;rcases hok.pair j0 i x0 o (by omega) hx0 ho (by simp[kJ,hD,hD0]) with hb|⟨e,_⟩
   ·rw[wH j0 hb] at hu0;cases hu0
   ·exact hne e
 have hbit:∀j x,R[j]? =some x->j≠i->oZ R j i=true->(listed.getD j false=true<->j<i):=by
  intro j x hx hne hc;unfold oZ at hc;constructor
  ·intro hE;rcases ey j i with h|h
   ·exact h
   ·exfalso;rw[if_neg (by omega)] at hc;have:=BL j x i hx hE hc;rw[uH] at this;cases this
  ·intro hji;rw[if_pos hji] at hc;exact wH j hc
 have hdone:∀j x,R[j]? =some x->j≠i->(j=p->¬kV E R p listed)->kJ E R x o=true->(listed.getD j false=true<->j<i):=by
  intro j x hx hne hjp hc;by_cases e:j<i
  ·rcases hok.pair j i x o e hx ho hc with hb|⟨e1,hD,_⟩
   ·exact hbit j x hx hne (by unfold oZ;rw[if_pos e];exact hb)
   ·exact⟨fun _=>e,fun _=>hA e1 j x (by omega) hx hD⟩
  ·rcases hok.pair i j o x (by omega) ho hx (by rw[Rc];exact hc) with hb|⟨e1,hD,_⟩
   ·exact hbit j x hx hne (by unfold oZ;rw[if_neg e];exact hb)
   ·refine⟨fun h=>absurd ⟨e1▸h,?_,i,o,by omega,ho,hD,uH⟩ (hjp e1),fun h=>absurd h e⟩;rw[<-e1];exact(aE.1 hx).1
 obtain⟨OA,OB⟩:∃OA:List (Nat×V),∀t,look OA t=jD R vs (fun i=>listed.getD i false) (st 0).tm R.size t:=by
  have:∀n,∃oC:List (Nat×V),∀t,look oC t=jD R vs (fun i=>listed.getD i false) (st 0).tm n t:=by
   intro n
   induction n with
   |zero=>exact⟨(st 0).tm,fun t=>rfl⟩
   |succ n ih=>
    obtain⟨tm,h⟩:=ih;by_cases hE:listed.getD n false=true
    ·cases hd:eB R n with
     |none=>exact⟨tm,fun t=>by rw[jD,if_neg (fun x=>by rw[hd] at x;cases x.2)];exact h t⟩
     |some d=>
      refine⟨(n |> vs |> fun v=>(d,v))::tm,fun t=> ?_⟩;rw[jD,look,hd,h t];by_cases e:d=t
      ·rw[if_pos e,if_pos ⟨hE,by rw[e]⟩]
      ·rw[if_neg e,if_neg (fun x=>e (cx x.2))]
    ·exact⟨tm,fun t=>by rw[jD,if_neg (fun x=>hE x.1)];exact h t⟩
  exact this R.size
 obtain⟨oC,aaS⟩:∃oC:List (Nat×V),∀t,look oC t=qB E R p vs listed (st 0).tm t:=by
  by_cases hP:kV E R p listed
  ·cases hd:eB R p with
   |none=>exact⟨OA,fun t=>by unfold qB;rw[if_neg (fun h=>by rw[hd] at h;cases h.2)];exact OB t⟩
   |some d=>
    refine⟨(d,.any)::OA,fun t=> ?_⟩;unfold qB;rw[look,hd];by_cases e:d=t
    ·rw[if_pos e,if_pos ⟨hP,by rw[e]⟩]
    ·rw[if_neg e,if_neg (fun x=>e (cx x.2))];exact OB t
  ·exact⟨OA,fun t=>by unfold qB;rw[if_neg (fun h=>hP h.1)];exact OB t⟩
 have hPd:∀t,kV E R p listed->eB R p=some t->∃po,R[p]? =some po/\po.dst=some t:=by
  intro t _ h;unfold eB at h
  cases hpo:R[p]? with
  |none=>rw[hpo] at h;cases h
  |some po=>rw[hpo] at h;exact⟨po,rfl,h⟩
 have Iu:∀t∈o.looksAt R,look oC t=look (st i).tm t:=by
  intro t htl;rw[aaS];unfold qB
  rw[if_neg (fun h=>by
   obtain⟨po,h1,h2⟩:=hPd t h.1 h.2
   exact(hap h.1 po t h1 h2).2 htl),wG hT t i (by omega)]
  have:=Al (R:=R) (vs:=vs) (E:=fun i=>listed.getD i false) (base:=(st 0).tm) (t:=t) (i:=i) R.size (fun j hj hd=>by
   by_cases e:j=i
   ·subst e;rw[uH];simp
   ·obtain⟨x,hx⟩:∃x,R[j]? =some x:=⟨_,cd hj⟩
    have hxd:x.dst=some t:=by simpa [eB,hx] using hd
    refine hdone j x hx e (fun e2 hP=> ?_) ?_
    ·subst e2;exact(hap hP x t hx hxd).2 htl
    ·have:x.apart R o=false:=by
      cases hap:x.apart R o with
      |false=>rfl
      |true=>exact absurd htl ((Oper.apart_spec hap).1 t hxd)
     simp[kJ,this])
  rw[this,show min R.size i=i from by omega]
 have hR:iI N ⟨oC,(st m).st⟩ a w σ β:=⟨hsz,hdf,hS,fun t=>by show bJ w σ (st m).st β (look oC t) _;rw[aaS];exact hrT t⟩
 have hev:∀x∈o.op.operands,ev (st i).tm x=ev oC x:=by
  intro x hx
  cases x with
  |tmp t=>show look _ t=look _ t;rw[Iu t (CF hx rfl)]
  |_=>rfl
 have hgd:gd R o oC=gd R o (st i).tm:=by
  unfold gd
  cases hg:o.guard with
  |none=>rfl
  |some gw=>
   obtain⟨g,want⟩:=gw
   simp only
   cases hd:eB R g with
   |none=>rfl
   |some d=>
    simp only[cQ];rw[Iu d (Ra hg hd)]
 have ajj:∀(S':Store)(t:Nat),jD R vs (fun i_1=>(listed.setIfInBounds i true).getD i_1 false) (st 0).tm R.size t=look (St.put ⟨OA,S'⟩ o.dst (vs i)).tm t:=by
  intro S' t;by_cases hd:o.dst=some t
  ·have hdi:eB R i=some t:=by simp[eB,ho,hd]
   rw[BK (E:=fun i_1=>(listed.setIfInBounds i true).getD i_1 false) hset hdi R.size hlt (fun j hj hij hdj=>by
    obtain⟨x,hx⟩:∃x,R[j]? =some x:=⟨_,cd hj⟩
    have hxd:x.dst=some t:=by simpa [eB,hx] using hdj
    have aaT:x.apart R o=false:=by
     cases hap:x.apart R o with
     |false=>rfl
     |true=>exact absurd hd ((Oper.apart_spec hap).2.1 t hxd)
    have:=hdone j x hx (by omega) (fun e hP=>by
     subst e
     exact(hap hP x t hx hxd).1 hd) (by simp[kJ,aaT])
    rw[getD_set_ne false (by omega)]
    cases hE:listed.getD j false with
    |false=>rfl
    |true=>exact absurd (this.1 hE) (by omega))]
   rw[hd];simp[St.put,look]
  ·have hdi:eB R i≠some t:=by simp only[eB,ho,dc];exact hd
   rw[vO (E':=fun i=>listed.getD i false) R.size (fun j hj hdj=>by
    have hji:j≠i:=fun e=>hdi (e▸hdj)
    exact getD_set_ne false (Ne.symm hji)),<-OB t]
   cases hdd:o.dst with
   |none=>rfl
   |some d=>
    have hne:d≠t:=fun e=>hd (by rw[hdd,e]);simp[St.put,look,hne]
 have aaU:∀(S':Store)(t:Nat),¬(kV E R p listed/\eB R p=some t)->look (St.put ⟨oC,S'⟩ o.dst (vs i)).tm t=jD R vs (fun i_1=>(listed.setIfInBounds i true).getD i_1 false) (st 0).tm R.size t:=by
  intro S' t hn;rw[ajj S' t]
  have h1:look oC t=look OA t:=by rw[aaS,OB];unfold qB;rw[if_neg hn]
  cases hdd:o.dst with
  |none=>exact h1
  |some d=>simp only[St.put,look,h1]
 have fin:∀(m':Nat)(a':Act)(w':World)(σ':Nat->Nat)(β':Hs),m'<=R.size->(∀j x,R[j]? =some x->dO E x.op=true->(j=p->¬kV E R p listed)->((listed.setIfInBounds i true).getD j false=true<->j<m'))->
  (kV E R p listed->m'<=p)->(∀d,o.dst≠some d->a'.tmps.getD d undef=a.tmps.getD d undef)->
  iI N (St.put ⟨oC,(st m').st⟩ o.dst (vs i)) a' w' σ' β'->Step (st m).st β σ w (st m').st β' σ' w'->Keep (st m).st β (st m').st β'->Mid P N E R p st vs β0 σ0 w0 (listed.setIfInBounds i true) a' w':=by
  intro m' a' w' σ' β' hm' hD' hmp ha' hR' hst' u7;have hS':=hR'.S;have hT':=hR'.T;rw[jw] at hS' hT';by_cases hP:kV E R p listed
  ·obtain⟨_,hraw⟩:=uU hP;have XH:=hP;obtain⟨hp1,hp2,j0,x0,hj0,hx0,hD0,hu0⟩:=XH;obtain⟨po,hpo⟩:∃po,R[p]? =some po:=⟨_,cd hp2⟩;obtain⟨hal,hgn,⟨d,hd⟩,ahP⟩:=hok.pend po hpo
   have hdp:eB R p=some d:=by simp[eB,hpo,hd]
   have hod:=hap hP po d hpo hd;have hraw:=hraw d hdp;obtain⟨b,c,ty',hv,hb,hσ,h0,hno,hzc⟩:=hraw;have hbl:b<w.heap.size:=lt_of_some hb
   have hb':w'.heap[b]? =some (.cells c ty' (0,0)):=by rw[(hst'.far b hbl hno).1];exact hb
   have hσ':σ' b=0:=by rw[(hst'.far b hbl hno).2];exact hσ
   have hno':¬Own (st m').st β' b:=fun h=>(hst'.own b h).elim hno (fun h=>by omega);have hv':a'.tmps.getD d undef=.pointer (some ⟨b,0,none⟩):=(ha' d hod.1).trans hv;have ahQ:Raw P R p w0 w' σ' (st m').st β' (a'.tmps.getD d undef):=⟨b,c,ty',hv',hb',hσ',h0,hno',hzc⟩;by_cases hP':kV E R p (listed.setIfInBounds i true)
   ·refine⟨by simpa using hM.size,BM,m',hm',fun j x hx ou hjp=>hD' j x hx ou (fun e=>absurd hP' (hjp e)),σ',β',hR'.size,hR'.defers,hS',fun t=> ?_,hst.trans hst',hkp.trans u7,fun _=>⟨hmp hP,fun d' hd'=>by rw[hdp] at hd';cases hd';exact ahQ⟩⟩;unfold qB;by_cases e:eB R p=some t
    ·rw[if_pos ⟨hP',e⟩];exact trivial
    ·rw[if_neg (fun h=>e h.2),<-aaU (st m').st t (fun h=>e h.2)];exact hT' t
   ·
    have hpl:(listed.setIfInBounds i true).getD p false=true:=getD_set_true hp1
    have hall:∀j x,j<p->R[j]? =some x->dO E x.op=true->(listed.setIfInBounds i true).getD j false=true:=fun j x hj hx hD=>by
     cases hl:(listed.setIfInBounds i true).getD j false with
     |true=>rfl
     |false=>exact absurd ⟨hpl,hp2,j,x,hj,hx,hD,hl⟩ hP'
    have af5:∀j x,p<j->R[j]? =some x->dO E x.op=true->(listed.setIfInBounds i true).getD j false=false:=fun j x hj hx hD=>by
     cases hl:(listed.setIfInBounds i true).getD j false with
     |false=>rfl
     |true=>
      exfalso;rcases hok.pair j0 j x0 x (by omega) hx0 hx (by simp[kJ,hD,hD0]) with hbt|⟨e,_⟩
      ·rcases UA j hl with e|hl
       ·subst e;rw[wH j0 hbt] at hu0;cases hu0
       ·rw[BL j x j0 hx hl hbt] at hu0;cases hu0
      ·omega
    have ak0:=hmp hP
    have hsm:(st p).st=(st m').st:=by
     have:=AV hT (i:=m') (p-m') (by omega) (fun j x h1 h2 h3=>by
      cases ou:dO E x.op with
      |false=>rfl
      |true=>
       have:=(hD' j x h3 ou (fun e=>by omega)).1 (hall j x (by omega) h3 ou)
       omega)
     rwa [show m'+(p-m')=p from by omega] at this
    obtain⟨po',af6,htp⟩:=hT p hp2;rw[hpo] at af6;cases af6
    obtain⟨ty,hop⟩:∃ty,po.op=.alloc ty:=by
     cases h:po.op<;>rw[h] at hal<;>first|exact⟨_,rfl⟩|cases hal
    obtain⟨zs,own,Ω,hzs,hs0,hs1,hvp⟩:=Ir htp hop hgn hd;rw[hsm] at hs0;have rO:=hst.trans hst';have af7:=hkp.trans u7;rw[hs0] at hS' hT' rO af7 hno';obtain⟨bo,bΩ,rfl,hlen,q1,q2,q3⟩:=aaR hS' rO hb' hσ' h0 hno' (hzc po ty zs hpo hop hzs);rw[<-hs1] at q1 q2 q3;refine⟨by simpa using hM.size,BM,p+1,by omega,fun j x hx ou _=> ?_,σ',_,hR'.size,hR'.defers,q1,fun t=> ?_,q3,af7.trans q2,fun h=>absurd h hP'⟩
    ·rcases em j p with h|h|h
     ·exact⟨fun _=>by omega,fun _=>hall j x h hx ou⟩
     ·subst h;exact⟨fun _=>by omega,fun _=>hpl⟩
     ·rw[af5 j x h hx ou];exact⟨fun h=>(by cases h),fun h=>by omega⟩
    ·unfold qB;rw[if_neg (fun h=>hP' h.1)];by_cases e:t=d
     ·subst e
      rw[BK (E:=fun i_1=>(listed.setIfInBounds i true).getD i_1 false) hpl hdp R.size hp2 (fun j hj hpj hdj=>by
       obtain⟨x,hx⟩:∃x,R[j]? =some x:=⟨_,cd hj⟩
       have hxd:x.dst=some t:=by simpa [eB,hx] using hdj
       have aaT:x.apart R po=false:=by
        cases hap:x.apart R po with
        |false=>rfl
        |true=>exact absurd hd ((Oper.apart_spec hap).2.1 t hxd)
       have hbt:=ahP j x (by omega) hx aaT j0 x0 hj0 hx0 hD0
       cases hl:(listed.setIfInBounds i true).getD j false with
       |false=>rfl
       |true=>
        exfalso;rcases UA j hl with e|hl
        ·subst e;rw[wH j0 hbt.2] at hu0;cases hu0
        ·rw[BL j x j0 hx hl hbt.2] at hu0;cases hu0),hvp,hv',hs1]
      exact SV hlen
     ·rw[<-aaU (st m').st t (fun h=>e (by rw[hdp] at h;exact(cx h.2).symm))];have h1:=hT' t;rw[hs0];exact h1.mono (bQ.refl _ _) q2
  ·have hP':¬kV E R p (listed.setIfInBounds i true):=fun h=>hP (hPP h);refine⟨by simpa using hM.size,BM,m',hm',fun j x hx ou _=>hD' j x hx ou (fun _=>hP),σ',β',hR'.size,hR'.defers,hS',fun t=> ?_,hst.trans hst',hkp.trans u7,fun h=>absurd h hP'⟩;unfold qB;rw[if_neg (fun h=>hP' h.1),<-aaU (st m').st t (fun h=>hP h.1)];exact hT' t
 have keepD:dO E o.op=false->∀j x,R[j]? =some x->dO E x.op=true->(j=p->¬kV E R p listed)->((listed.setIfInBounds i true).getD j false=true<->j<m):=by
  intro hD j x hx ou hjp
  have hji:j≠i:=fun e=>by rw[e,ho] at hx;cases hx;rw[hD] at ou;cases ou
  rw[getD_set_ne false (Ne.symm hji)];exact hmD j x hx ou hjp
 have hmP:kV E R p listed->m<=p:=fun h=>(uU h).1
 have quiet:∀(w':World)(σ':Nat->Nat)(v:Value),dO E o.op=false->Grow w σ w' σ'->bJ w' σ' (st m).st β (vs i) v->Mid P N E R p st vs β0 σ0 w0 (listed.setIfInBounds i true) (a.put o.dst v) w':=by
  intro w' σ' v hD hg hv;exact fin m _ w' σ' β hm (keepD hD) hmP (fun d hd=>qO hd) (yA hdn hsz hdf (hS.grow hg) (hR.T.mono hg.near (Keep.refl _ _)) hv) (Step.jm hg) (Keep.refl _ _)
 have hDs:dO E o.op=true->∀j x,R[j]? =some x->dO E x.op=true->(j=p->¬kV E R p listed)->(listed.getD j false=true<->j<i):=by
  intro hD j x hx ou hjp;by_cases e:j=i
  ·subst e;rw[uH];simp
  ·exact hdone j x hx e hjp (by simp[kJ,hD,ou])
 have hsame:dO E o.op=true->(st m).st=(st i).st:=by
  intro hD
  have hno:∀j x,R[j]? =some x->(i<=j/\j<m\/m<=j/\j<i)->dO E x.op=false:=by
   intro j x hx hj
   cases ou:dO E x.op with
   |false=>rfl
   |true=>
    have hjp:j=p->¬kV E R p listed:=fun e hP=>by
     have:=LA hP hD;have:=hmP hP;omega
    have h1:=hDs hD j x hx ou hjp;have h2:=hmD j x hx ou hjp;rcases hj with hj|hj
    ·have:=h1.1 (h2.2 hj.2);omega
    ·have:=h2.1 (h1.2 hj.2);omega
  rcases Nat.le_total i m with h|h
  ·have:=AV hT (i:=i) (m-i) (by omega) (fun j x h1 h2 h3=>hno j x h3 (.inl ⟨h1,by omega⟩))
   rwa [show i+(m-i)=m from by omega] at this
  ·have:=AV hT (i:=m) (i-m) (by omega) (fun j x h1 h2 h3=>hno j x h3 (.inr ⟨h1,by omega⟩));rw[show m+(i-m)=i from by omega] at this;exact this.symm
 have XI:dO E o.op=true->∀j x,R[j]? =some x->dO E x.op=true->(j=p->¬kV E R p listed)->((listed.setIfInBounds i true).getD j false=true<->j<i+1):=by
  intro hD j x hx ou hjp;by_cases e:j=i
  ·subst e;rw[hset];simp
  ·rw[getD_set_ne false (Ne.symm e),hDs hD j x hx ou hjp];omega
 have hiP:dO E o.op=true->kV E R p listed->i+1<=p:=fun hD hP=>LA hP hD;unfold wpOp;rw[ho]
 simp only
 have hRR:iI N ⟨oC,(st m).st⟩ a w σ β:=hR;rcases ht with⟨hg,hv,hs'⟩|⟨hg,hD,hv,hs'⟩|⟨hg,hD,hx,hs',_⟩
 ·
  have hw:Region.wanted o (yielded R a.tmps)=false:=by
   rw[<-hgd] at hg;unfold gd at hg;split at hg
   ·cases hg
   ·rename_i j want hgu;split at hg
    ·rename_i x hx;have hy:=yS (s:=⟨oC,(st m).st⟩) hRR hx
     have hne:x≠want:=by
      intro e;rw[e] at hg;simp at hg
     simp[Region.wanted,hgu,hy,hne]
    ·rename_i hx;have hy:=CB (s:=⟨oC,(st m).st⟩) hRR hx;simp[Region.wanted,hgu,hy]
    ·cases hg
  rw[if_neg (by rw[hw];simp)]
  have hvu:bJ w σ (st m).st β (vs i) undef:=by rw[hv];exact sW
  by_cases hD:dO E o.op=true
  ·have hsm:=hsame hD
   have hs1:(st (i+1)).st=(st m).st:=by rw[hsm,hs'];cases o.dst<;>rfl
   refine fin (i+1) _ w σ β hlt (XI hD) (hiP hD) (fun d hd=>qO hd) (by rw[hs1];exact yA hdn hsz hdf hS hR.T hvu) (by rw[hs1];exact Step.jm (Grow.refl hS.live)) (by rw[hs1];exact Keep.refl _ _)
  ·exact quiet w σ undef (by simpa using hD) (Grow.refl hS.live) hvu
 all_goals
  have hw:Region.wanted o (yielded R a.tmps)=true:=by
   rw[<-hgd] at hg;unfold gd at hg;split at hg
   ·rename_i hgu;simp[Region.wanted,hgu]
   ·rename_i j want hgu;split at hg
    ·rename_i x hx;have hy:=yS (s:=⟨oC,(st m).st⟩) hRR hx;simp at hg;simp[Region.wanted,hgu,hy,hg]
    ·cases hg
    ·cases hg
  rw[if_pos hw];left
 ·
  rcases hv with⟨c,hc,hcn⟩|⟨hcond,hval⟩
  ·have hcn':=aaI (tm':=oC) (fun x hx=>hev x (by rw[hc];exact hx)) hcn;unfold BJ at hcn';split at hcn'
   ·rename_i x hcx;split at hcn'
    ·rename_i f caps hex
     have hcall:jY P c ⟨oC,(st m).st⟩ o.dst (fun t=>t=St.put ⟨oC,(st m).st⟩ o.dst (vs i)):=by
      unfold jY;rw[hcx];simp only[hex];exact .inl ⟨_,hcn' (st m).st,fun r S' hp=>by rw[hp.1,hp.2]⟩
     refine Oper.wp_mono ?_ (Oper.XG (Ij (Q:=Q) hc hdn hRR hcall));rintro a' w' ⟨⟨s'',σ',β',hR',hst',u7,hK⟩,ha'⟩;subst hK;rw[jw] at hst' u7;exact fin m a' w' σ' β' hm (keepD hD) hmP ha' hR' hst' u7
    ·exact hcn'.elim
   ·exact hcn'.elim
  ·have hcv:gP o.op=false:=by
    cases hc:gP o.op with
    |false=>rfl
    |true=>
     exfalso;unfold gP at hc;split at hc
     ·rename_i x b c hop;rw[hop] at hcond;exact fE hcond
     ·cases hc
   have adD:∀k,refs (st i).tm o k->∀j x,R[j]? =some x->(i<=j/\j<m\/m<=j/\j<i)->jJ E x.op=false\/KS k (st j).st (st (j+1)).st:=by
    intro k hk j x hx hj
    cases hs:jJ E x.op with
    |false=>exact .inl rfl
    |true=>
     have ou:dO E x.op=true:=XB hs
     have hji:j≠i:=fun e=>by rw[e,ho] at hx;cases hx;rw[hD] at ou;cases ou
     rcases hok.store j i x o hji hx ho hs hD hcv with hb|hb
     ·have h1:=hbit j x hx hji hb
      have h2:=hmD j x hx ou (fun e=>by
       subst e;have:=(qN (E:=E) (hok.pend x hx).1).2.1
       rw[hs] at this;cases this)
      rcases hj with hj|hj
      ·have:=h1.1 (h2.2 hj.2);omega
      ·have:=h2.1 (h1.2 hj.2);omega
     ·exact .inr (hb k hk)
   have e1:=aeh (P:=P) (S:=(st i).st) (tm:=(st i).tm) (tm':=oC) (op:=o.op) hev;rw[e1] at hcond hval
   have e2:kT P (mJ (st i).st) (st m).st oC o.op=kT P (mJ (st i).st) (st i).st oC o.op:=by
    cases hmv:Uz o.op with
    |true=>exact aaP hmv
    |false=>
     exact aaJ (P:=P) (l:=mJ (st i).st) (S:=(st i).st) (S':=(st m).st) (tm:=oC) (op:=o.op) hcond (by
     intro x hx k hk ob Oj hbr;have hrf:refs (st i).tm o k:=⟨hmv,x,hx,by rw[hev x hx];exact hk⟩;rcases Nat.le_total i m with h|h
     ·have hds:=Ux hT (i:=i) (k:=k) (m-i) (by omega) (fun j x h1 h2 h3=>adD k hrf j x h3 (.inl ⟨h1,by omega⟩));rw[show i+(m-i)=m from by omega] at hds;rcases hds ob Oj with h'|⟨⟨z,es,e⟩,_⟩
      ·exact h'
      ·rcases e with e|⟨_,e⟩<;>rw[e] at hbr<;>exact hbr.elim
     ·have hds:=Ux hT (i:=m) (k:=k) (i-m) (by omega) (fun j x h1 h2 h3=>adD k hrf j x h3 (.inr ⟨h1,by omega⟩));rw[show m+(i-m)=i from by omega] at hds;have hrx:=iH (a:=a) hR.T x
      have hin:∃o',aN (st m).st k=some o':=by
       rcases hk with⟨off,e⟩|⟨i',off,e⟩|e|e|⟨r',p',e⟩|⟨r',p',z',i',off,e⟩<;>rw[show ev (⟨oC,(st m).st⟩:St).tm x=ev oC x from rfl,e] at hrx<;>obtain⟨⟨o',ho',_⟩,_⟩:=hrx<;>exact⟨o',ho'⟩
      obtain⟨o',ho'⟩:=hin;rcases hds o' ho' with h'|⟨_,o2,z,es,h',e⟩
      ·rw[Oj] at h';cases h';exact ho'
      ·rw[Oj] at h';cases h'
       rcases e with e|⟨_,e⟩<;>rw[e] at hbr<;>exact hbr.elim)
   have af9:(kT P (mJ (st i).st) (st m).st oC o.op).1:=by rw[e2];exact hcond
   have hval':vs i=(kT P (mJ (st i).st) (st m).st oC o.op).2:=by rw[e2];exact hval
   obtain⟨v,w',σ',hrun,hgr,rH⟩:=FP (P:=P) _ o hS hR.T af9;unfold Oper.wp;rw[hrun];exact quiet w' σ' v hD hgr (by rw[hval'];exact rH)
 ·have hsm:=hsame hD
  have hx':oz P E o ⟨(st i).tm,(st i).st⟩ (fun t=>t=St.put ⟨(st i).tm,(st (i+1)).st⟩ o.dst (vs i)):=by
   rw[hs'] at hx;exact hx
  have hx2:=aaH hD hev hx';rw[<-hsm] at hx2;refine Oper.wp_mono ?_ (Oper.XG (Rf (Q:=Q) hdn hRR hx2));rintro a' w' ⟨⟨s'',σ',β',hR',hst',u7,hK⟩,ha'⟩;subst hK;rw[jw] at hst' u7;exact fin (i+1) a' w' σ' β' hlt (XI hD) (hiP hD) ha' hR' hst' u7
theorem aem{st:Nat->St}{vs:Nat->V}{β0:Hs}{σ0:Nat->Nat}{w0:World}{Q:Exit->Act->World->Prop}{p:Nat}(hok:Lx E R N st p)
 (hT:∀i,i<R.size->∃o,R[i]? =some o/\jZ P E R o (st i) (vs i) (st (i+1)))(hQ:∀listed a w,Mid P N E R p st vs β0 σ0 w0 listed a w->(∀i,i<R.size->listed.getD i false=true)->Q .normal a w):
 ∀(fuel:Nat)(listed:Array Bool)(a:Act)(w:World),(List.range R.size).countP (fun i=> !listed.getD i false)<=fuel->Mid P N E R p st vs β0 σ0 w0 listed a w->wpAny P .any R Q fuel listed a w:=by
 have hend:∀listed a w,Mid P N E R p st vs β0 σ0 w0 listed a w->Region.ready .any R listed=[]->Q .normal a w:=by
  intro listed a w hM hr;refine hQ listed a w hM ?_;intro i
  induction i using Nat.strongRecOn with
  |_ i ih=>
   intro hi
   cases hE:listed.getD i false with
   |true=>rfl
   |false=>
    exfalso;have ho:R[i]? =some R[i]:=cd hi
    have:i∈Region.ready .any R listed:=by
     rw[mem_ready]
     have hs:i<listed.size:=by rw[hM.size];exact hi
     refine⟨by simp[hs] at hE ⊢;exact hE,_,ho,fun e he hb=> ?_⟩;have hon:=hok.edge i _ e ho he hb;exact ih e.on hon (by omega)
    rw[hr] at this;simp at this
 intro fuel
 induction fuel with
 |zero=>
  intro listed a w hc hM
  have hnone:Region.ready .any R listed=[]:=by
   cases hr:Region.ready .any R listed with
   |nil=>rfl
   |cons i l=>
    exfalso
    have hi:i∈Region.ready .any R listed:=by rw[hr];simp
    obtain⟨hun,o,ho,_⟩:=mem_ready.1 hi;have hlt:=(aE.1 ho).1
    have hs:i<listed.size:=by rw[hM.size];exact hlt
    have hz:(List.range R.size).countP (fun i=> !listed.getD i false)=0:=by omega
    rw[List.countP_eq_zero] at hz;have:=hz i (bP.2 hlt);simp[hs] at hun this;rw[hun] at this;cases this
  exact⟨hnone,hend listed a w hM hnone⟩
 |succ fuel ih=>
  intro listed a w hc hM;refine⟨hend listed a w hM,fun i hi=> ?_⟩;refine wpOp_mono (fun a' w' hM'=>ih _ a' w' ?_ hM') (mid_step hok hT hM hi);obtain⟨hun,o,ho,_⟩:=mem_ready.1 hi;have hlt:=(aE.1 ho).1
  have hs:i<listed.size:=by rw[hM.size];exact hlt
  have:=cnt_lt (fun j=> !listed.getD j false) (fun j=> !(listed.setIfInBounds i true).getD j false) (List.range R.size) i (fun x hx=>by
   by_cases e:x=i
   ·subst e;simp[hs] at hx
   ·rw[getD_set_ne false (Ne.symm e)] at hx;exact hx) (bP.2 hlt) (by simp[hs] at hun ⊢;exact hun) (by simp[hs])
  omega
theorem BN{id:Nat}{Q:Exit->St->Prop}{s:St}(dZ:P.follows .mixedOrders=true){st:Nat->St}{vs:Nat->V}(h0:st 0=s)(hK:Q .normal (st R.size))
 (hT':∀i,i<R.size->∃o,R[i]? =some o/\jZ P E R o (st i) (vs i) (st (i+1))){p:Nat}(hok:Lx E R N st p):AW P N (.region id R true) Q s:=by
 intro a w σ β hR;refine wp_region_any dZ ?_;have hgd:Grow w σ {w with drawn:=w.drawn+1} σ:=⟨ax _,rfl,rfl,fun _ _=>⟨rfl,rfl⟩,hR.S.live⟩;refine aem (N:=N) (β0:=β) (σ0:=σ) (w0:=w) hok hT' (fun listed a' w' hM hall=> ?_) R.size _ a _ ?_ ?_
 ·obtain⟨m,hm,hmD,σ',β',hsz,hdf,hS,hT2,hst,hkp,_⟩:=hM.rep
  have hnP:¬kV E R p listed:=by
   rintro⟨_,_,j,x,hj,hx,_,hl⟩;rw[hall j (aE.1 hx).1] at hl;cases hl
  have hsm:(st R.size).st=(st m).st:=by
   have:=AV hT' (i:=m) (R.size-m) (by omega) (fun j x h1 h2 h3=>by
    cases ou:dO E x.op with
    |false=>rfl
    |true=>have:=(hmD j x h3 ou (fun _=>hnP)).1 (hall j (aE.1 h3).1);omega)
   rwa [show m+(R.size-m)=R.size from by omega] at this
  rw[h0] at hst hkp;refine⟨st R.size,σ',β',⟨hsz,hdf,by rw[hsm];exact hS,fun t=> ?_⟩,by rw[hsm];exact hst,by rw[hsm];exact hkp.tail,hK⟩;rw[wG hT' t R.size (ax _),hsm];have:=hT2 t;unfold qB at this;rw[if_neg (fun h=>hnP h.1)] at this;rw[vO (E':=fun _=>true) R.size (fun j hj _=>hall j hj)] at this;exact this
 ·calc (List.range R.size).countP _<=(List.range R.size).length:=List.countP_le_length
   _=R.size:=List.length_range
 ·refine⟨by simp,fun i o e ho hE _ _=> ?_,0,ba _,fun i o ho _=> ?_,σ,β,hR.size,hR.defers,by rw[h0];exact hR.S.grow hgd,fun t=> ?_,by rw[h0];exact Step.jm hgd,Keep.refl _ _,fun h=>by have h1:=h.1;rw[getD_replicate_false] at h1;cases h1⟩
  ·rw[getD_replicate_false] at hE;cases hE
  ·rw[getD_replicate_false];simp
  ·have:jD R vs (fun i=>(Array.replicate R.size false).getD i false) (st 0).tm R.size t=look (st 0).tm t:=by
    have:=Al (R:=R) (vs:=vs) (E:=fun i=>(Array.replicate R.size false).getD i false) (base:=(st 0).tm) (t:=t) (i:=0) R.size (fun j _ _=>by rw[getD_replicate_false];simp);rw[this,Nat.min_zero];rfl
   unfold qB;rw[if_neg (fun h=>by have h1:=h.1.1;rw[getD_replicate_false] at h1;cases h1),this,h0];exact(hR.T t).mono hgd.near (Keep.refl _ _)
theorem aen{id:Nat}{Q:Exit->St->Prop}{s:St}(dZ:P.follows .mixedOrders=true)(hok:wD E R N=true)(h:qy P E R R.toList s (Q .normal)):AW P N (.region id R true) Q s:=by
 obtain⟨st,vs,h0,hK,hT⟩:=Gv R.size 0 (by omega) s h;exact BN dZ h0 hK (fun i hi=>hT i (ba i) hi) (af2 hok)
theorem aaV{id p:Nat}{Q:Exit->St->Prop}{s:St}(dZ:P.follows .mixedOrders=true)(hok:AU E R N p=true)(h:qy P E R R.toList s (Q .normal)):AW P N (.region id R true) Q s:=by
 obtain⟨st,vs,h0,hK,hT⟩:=Gv R.size 0 (by omega) s h;exact BN dZ h0 hK (fun i hi=>hT i (ba i) hi) (ael hok)
theorem UC{id:Nat}{Q:Exit->St->Prop}{s:St}(dZ:P.follows .mixedOrders=true)(hok:Kz R N=true)(h:qy P (Iq R N) R R.toList s (Q .normal)):AW P N (.region id R true) Q s:=by
 unfold Kz at hok;rw[cW] at hok;rcases hok with hok|hok
 ·exact aen dZ hok h
 ·split at hok
  ·exact aaV dZ hok h
  ·cases hok
theorem UD{v w:V}(h:Uw v w=true){k k':Key}(hv:(∃off,v=.c (.ptr k' off))\/(∃i off,v=.c (.jv k' i off))\/∃r p z i off,v=.c (.xq k' r p z i off))
 (hw:E8 w k):k'≠k:=by
 rintro rfl;rcases hv with⟨_,rfl⟩|⟨_,_,rfl⟩|⟨_,_,_,_,_,rfl⟩<;>rcases hw with⟨_,rfl⟩|⟨_,_,rfl⟩|rfl|rfl|⟨_,_,rfl⟩|⟨_,_,_,_,_,rfl⟩<;>simp[Uw] at h
theorem FX{o:Oper}{t:TypeId}{a y:Operand}{s s':St}{v:V}(hop:o.op=.store t a y)(h:jZ P E R o s v s'){k:Key}
 (hk:∀k',((∃off,ev s.tm a=.c (.ptr k' off))\/(∃i off,ev s.tm a=.c (.jv k' i off))\/∃r p z i off,ev s.tm a=.c (.xq k' r p z i off))->k'≠k):aN s'.st k=aN s.st k:=by
 rcases h with⟨_,_,h⟩|⟨_,_,_,h⟩|⟨_,_,h,_,_⟩
 ·rw[h];cases o.dst<;>rfl
 ·rw[h];cases o.dst<;>rfl
 ·obtain⟨dst,op,ty,pos,after,guard⟩:=o;subst hop;rw[vk rfl] at h;simp only[bA,qK] at h;split at h
  ·rename_i k' off he;split at h
   ·obtain⟨_,_,_,h4⟩:=h;rw[<-h4,jw];exact dx _ _ _ _ (hk k' (.inl ⟨_,he⟩))
   ·exact h.elim
  ·rename_i k' i off he;split at h
   ·obtain⟨_,_,_,_,h5⟩:=h;rw[<-h5,jw];exact dx _ _ _ _ (hk k' (.inr (.inl ⟨_,_,he⟩)))
   ·exact h.elim
  ·rename_i k' r p z i off he;split at h
   ·split at h
    ·split at h
     ·obtain⟨_,_,_,_,_,h6⟩:=h;rw[<-h6,jw];exact dx _ _ _ _ (hk k' (.inr (.inr ⟨_,_,_,_,_,he⟩)))
     ·exact h.elim
    ·exact h.elim
   ·exact h.elim
  ·exact h.elim
theorem xW{st:Nat->St}{vs:Nat->V}(hT:∀i,i<R.size->∃o,R[i]? =some o/\jZ P E R o (st i) (vs i) (st (i+1))){i:Nat}(hi:i<=R.size){a:Operand}(h:settled R i a=true):
 ev (st R.size).tm a=ev (st i).tm a:=by
 cases a with
 |tmp t=>
  show look _ t=look _ t
  have key:∀n,i+n<=R.size->look (st (i+n)).tm t=look (st i).tm t:=by
   intro n
   induction n with
   |zero=>intro _;rfl
   |succ n ih=>
    intro hn;rw[wG hT t (i+(n+1)) hn,show i+(n+1)=i+n+1 from rfl,jD,if_neg,<-wG hT t (i+n) (by omega),ih (by omega)];rintro⟨_,hd⟩;have:=aS.1 h (i+n) (bP.2 (by omega));rw[hd] at this;simp at this;omega
  have:=key (R.size-i) (by omega)
  rwa [show i+(R.size-i)=R.size from by omega] at this
 |_=>rfl
theorem XJ{st:Nat->St}{vs:Nat->V}{p:Nat}(hed:∀(i:Nat)(o:Oper),R[i]? =some o->(o.after.toList.all (fun e=> !Region.binds .any e||decide (e.on<i))&&(match o.dst with|some d=>decide (d<N)|none=>true))=true)
 (uU:∀o,R[p]? =some o->vo o.op=true/\o.guard=none/\(∃d,o.dst=some d)/\∀j y,j≠p->R[j]? =some y->y.apart R o=false->∀i x,i<p->R[i]? =some x->dO E x.op=true->i<j/\((masks R.toList []).getD j 0).testBit i=true)
 (hp:∀(i j:Nat) (x y:Oper),i<j->R[i]? =some x->R[j]? =some y->((masks R.toList []).getD j 0).testBit i=true\/(x.apart R y=true/\(j=p\/((dO E x.op&&dO E y.op)=false/\(jJ E x.op=true->rY R i x j y=true)/\(jJ E y.op=true->rY R j y i x=true)))))
 (hT:∀i,i<R.size->∃o,R[i]? =some o/\jZ P E R o (st i) (vs i) (st (i+1)))(hl:Nh E R (st R.size).tm=true):Lx E R N st p:=by
 refine⟨?_,?_,?_,?_,uU⟩
 ·intro i o e ho he hb;have h2:=hed i o ho;simp only[af] at h2;have h3:=aS.1 h2.1 e (by simpa using he);simpa [hb] using h3
 ·intro i o ho d hd;have h2:=hed i o ho;simp only[af,hd] at h2;simpa using h2.2
 ·intro i j x y hij hx hy hc;rcases hp i j x y hij hx hy with h|⟨h1,h⟩
  ·exact .inl h
  ·unfold kJ at hc;rw[h1] at hc;simp only[eL,dm] at hc;rcases h with h|⟨h,_⟩
   ·rw[af] at hc;exact .inr ⟨h,hc.1,h1⟩
   ·rw[hc] at h;cases h
 ·intro i j x o hij hx ho hs hD hc
  have hjp:j≠p:=fun e=>by
   subst e;have:=(qN (E:=E) (uU o ho).1).1;rw[hD] at this;cases this
  have LA:i≠p:=fun e=>by
   subst e;have:=(qN (E:=E) (uU x hx).1).2.1;rw[hs] at this;cases this
  cases hb:oZ R i j with
  |true=>exact .inl rfl
  |false=>
   refine .inr ?_;rintro k ⟨_,z,hz,hk⟩;have hi:i<R.size:=(aE.1 hx).1;have hj:j<R.size:=(aE.1 ho).1
   have hlo:rY R i x j o=true:=by
    unfold oZ at hb;by_cases e:i<j
    ·rw[if_pos e] at hb;rcases hp i j x o e hx ho with h|⟨_,h|⟨_,h,_⟩⟩
     ·rw[hb] at h;cases h
     ·exact absurd h hjp
     ·exact h hs
    ·rw[if_neg e] at hb;rcases hp j i o x (by omega) ho hx with h|⟨_,h|⟨_,_,h⟩⟩
     ·rw[hb] at h;cases h
     ·exact absurd h LA
     ·exact h hs
   unfold rY at hlo;rw[hc,dm] at hlo;split at hlo
   ·rename_i t a y hop;rw[af] at hlo
    have hz':z∈o.op.operands.toList:=by simpa using hz
    have hsz:=aS.1 hlo.2 z hz';have h1:=aS.1 hl i (bP.2 hi);rw[hx] at h1;simp only[hs,eL,dm,hop] at h1;have h2:=aS.1 h1 j (bP.2 hj);rw[ho] at h2;simp only[hb,hD,hc,dm] at h2;have h3:=aS.1 h2 z hz';obtain⟨x',hx',ht⟩:=hT i hi;rw[hx] at hx';cases hx';refine KS.same<|FX hop ht fun k' hk'=> ?_;rw[xW hT (by omega) hlo.1,xW hT (by omega) hsz] at h3;exact UD h3 hk' hk
   ·cases hlo
theorem Iw{f:Nat->Nat->Oper->Oper->Bool}(h:((List.range R.size).all fun j=>
 (match R[j]? with
  |some o=>o.after.toList.all (fun e=> !Region.binds .any e||decide (e.on<j))&&(match o.dst with|some d=>decide (d<N)|none=>true)
  |none=>true)&&
 (List.range j).all fun i=>
   match R[i]?,R[j]? with
   |some x,some y=>((masks R.toList []).getD j 0).testBit i|| !(f i j x y)
   |_,_=>true)=true):
 (∀(i:Nat) (o:Oper),R[i]? =some o->(o.after.toList.all (fun e=> !Region.binds .any e||decide (e.on<i))&&(match o.dst with|some d=>decide (d<N)|none=>true))=true)/\
 ∀(i j:Nat)(x y:Oper),i<j->R[i]? =some x->R[j]? =some y->((masks R.toList []).getD j 0).testBit i=true\/f i j x y=false:=by
 refine⟨fun i o ho=> ?_,fun i j x y hij hx hy=> ?_⟩
 ·have hj:i<R.size:=(aE.1 ho).1;have h1:=aS.1 h i (bP.2 hj);rw[af,ho] at h1;exact h1.1
 ·have hj:j<R.size:=(aE.1 hy).1;have h1:=aS.1 h j (bP.2 hj);rw[af] at h1;have h2:=aS.1 h1.2 i (bP.2 hij);rw[hx,hy] at h2;simp only[cW,eS] at h2;exact h2
theorem aaW{st:Nat->St}{vs:Nat->V}(hok:E9 E R N=true)(hT:∀i,i<R.size->∃o,R[i]? =some o/\jZ P E R o (st i) (vs i) (st (i+1)))(hl:Nh E R (st R.size).tm=true):Lx E R N st R.size:=by
 obtain⟨h1,h2⟩:=Iw (f:=fun i j x y=>kJ E R x y||(jJ E x.op&& !(rY R i x j y))||(jJ E y.op&& !(rY R j y i x))) hok;refine XJ h1 (fun o ho=>by rw[dj (ax _)] at ho;cases ho) (fun i j x y hij hx hy=>(h2 i j x y hij hx hy).imp id fun h=> ?_) hT hl;simp only[kJ,cR,eN,Bool.and_eq_false_imp] at h;obtain⟨⟨⟨q1,q2⟩,q3⟩,q4⟩:=h;refine⟨q1,.inr ⟨?_,q3,q4⟩⟩
 cases hx:dO E x.op with
 |false=>rfl
 |true=>rw[q2 hx];rfl
theorem aga{id:Nat}{Q:Exit->St->Prop}{s:St}(dZ:P.follows .mixedOrders=true)(hok:E9 E R N=true)(h:qy P E R R.toList s (fun s'=>Nh E R s'.tm=true/\Q .normal s')):AW P N (.region id R true) Q s:=by
 obtain⟨st,vs,h0,hK,hT⟩:=Gv R.size 0 (by omega) s h;have hT':=fun i hi=>hT i (ba i) hi;exact BN dZ h0 hK.2 hT' (aaW hok hT' hK.1)
end
section
variable {P:Program} {w w':World} {σ σ':Nat->Nat} {S S':Store} {β β':Hs} {N:Nat} {s:St} {a:Act}
theorem kN{c:Code}{Q:Exit->St->Prop}{s s':St}(h:AW P N c Q s')
 (hg:∀(a:Act) (w:World) (σ:Nat->Nat) (β:Hs),iI N s a w σ β->∃σ' β',iI N s' a w σ' β'/\Step s.st β σ w s'.st β' σ' w/\Keep (eX s.st) (eX β) (eX s'.st) (eX β')):AW P N c Q s:=by
 intro a w σ β hR;obtain⟨σ',β',hR',hst,hk⟩:=hg a w σ β hR;refine wp_mono (h a w σ' β' hR') ?_;rintro e a' w' ⟨s'',yH,β'',k1,k2,k3,k4⟩;exact⟨s'',yH,β'',k1,hst.trans k2,hk.trans k3,k4⟩
def fQ(N:Nat)(s s':St):Prop:=∀(a:Act)(w:World)(σ:Nat->Nat)(β:Hs),iI N s a w σ β->∃σ' β',iI N s' a w σ' β'/\Step s.st β σ w s'.st β' σ' w/\Keep (eX s.st) (eX β) (eX s'.st) (eX β')
theorem fQ.refl(N:Nat)(s:St):fQ N s s:=fun a w σ β hR=>⟨σ,β,hR,Step.jm (Grow.refl hR.S.live),Keep.refl _ _⟩
theorem fQ.trans{s s' s'':St}(h:fQ N s s')(k:fQ N s' s''):fQ N s s'':=fun a w σ β hR=>by
 obtain⟨σ1,β1,r1,st1,k1⟩:=h a w σ β hR;obtain⟨σ2,β2,r2,st2,k2⟩:=k a w σ1 β1 r1;exact⟨σ2,β2,r2,st1.trans st2,k1.trans k2⟩
theorem OC{tm tm':List (Nat×V)}(hl:∀t,look tm' t=look tm t\/look tm' t=.any):fQ N ⟨tm,S⟩ ⟨tm',S⟩:=
 fun a w σ β hR=>⟨σ,β,⟨hR.size,hR.defers,hR.S,fun t=>by
  rcases hl t with e|e
  ·show bJ w σ S β (look tm' t) _;rw[e];exact hR.T t
  ·show bJ w σ S β (look tm' t) _;rw[e];trivial⟩,Step.jm (Grow.refl hR.S.live),Keep.refl _ _⟩
theorem adE{c:Code}{Q:Exit->St->Prop}{tm tm':List (Nat×V)}(h:AW P N c Q ⟨tm',S⟩)(hl:∀t,look tm' t=look tm t\/look tm' t=.any):AW P N c Q ⟨tm,S⟩:=
 kN h fun a w σ β hR=>⟨σ,β,⟨hR.size,hR.defers,hR.S,fun t=>by
  rcases hl t with e|e
  ·show bJ w σ S β (look tm' t) _;rw[e];exact hR.T t
  ·show bJ w σ S β (look tm' t) _;rw[e];trivial⟩,Step.jm (Grow.refl hR.S.live),Keep.refl _ _⟩
def C.qC:C->C
 | .bM _ es=>.d (.sl es)
 | .bB es=>.d (.sl es)
 |c=>c
def V.qC:V->V
 | .c x=>.c x.qC
 | .agg cs=>.agg (cs.map C.qC)
 |v=>v
theorem OD{c:C}{v:Value}(h:dS w σ S β c v):dS w σ S β c.qC v:=by
 cases c with
 |bM k es=>exact h.1
 |bB es=>exact h.1
 |_=>exact h
theorem OE{x:V}{v:Value}(h:bJ w σ S β x v):bJ w σ S β x.qC v:=by
 cases x with
 |c x=>exact⟨OD h.1,h.2⟩
 |agg cs=>
  obtain⟨ar,ha,hl,hc⟩:=h;refine⟨ar,ha,by simpa using hl,fun j x hx=> ?_⟩;rw[be] at hx
  cases hcj:cs[j]? with
  |none=>rw[hcj] at hx;cases hx
  |some y=>
   rw[hcj] at hx;cases hx;obtain⟨v,hv,hr,ho⟩:=hc j y hcj;exact⟨v,hv,OD hr,ho⟩
 |_=>exact h
theorem bL.weaken{f:FuncId}{args args':List V}{post:V->Store->Prop}(h:bL P f args' S post)(hl:args.length=args'.length)
 (hw:∀(j:Nat) (x y:V),args[j]? =some x->args'[j]? =some y->∀w σ β v,bJ w σ S β x v->bJ w σ S β y v):bL P f args S post:=by
 refine⟨h.1,fun w σ β vs hS hv=>h.2 w σ β vs hS ⟨by rw[<-hl];exact hv.1,fun j y hy=> ?_⟩⟩;have hj:=(ae.1 hy).1;have hx:args[j]? =some (args[j]'(by omega)):=al (by omega);obtain⟨v,h1,h2⟩:=hv.2 j _ hx;exact⟨v,h1,hw j _ y hx hy w σ β v h2⟩
theorem bL.qC{f:FuncId}{args:List V}{post:V->Store->Prop}(h:bL P f (args.map V.qC) S post):bL P f args S post:=
 h.weaken (by simp) fun j x y hx hy w σ β v hr=>by
  rw[be,hx] at hy;cases hy;exact OE hr
theorem bL.mono{f:FuncId}{args:List V}{post post':V->Store->Prop}(h:bL P f args S post)(hp:∀r S',post r S'->post' r S'):bL P f args S post':=
 ⟨h.1,fun w σ β vs hS hv=>(h.2 w σ β vs hS hv).mono fun e w' ⟨v,r,S',σ',β',h1,h2,h3,h4,h5,h6⟩=>⟨v,r,S',σ',β',h1,h2,h3,h4,h5,hp _ _ h6⟩⟩
theorem BO{f:FuncId}{args:List V}{s:St}{dst:Option Nat}{K:St->Prop}{r:V}(h:aF P f (args.map V.qC) r)(hK:K (St.put s dst r)):vL P f args s dst K:=
 .inl ⟨_,(h s.st).qC,fun r' S' hp=>by rw[hp.1,hp.2];exact hK⟩
theorem Iy{c:Code}{Q:Exit->St->Prop}{tm:List (Nat×V)}{own:List Obj}{Ω:Store}(t aJ:Nat)(es:List (List D))(hv:look tm t=.c (.bB es))(hes:∀e∈es,e.length=aJ)
 (h:AW P N c Q ⟨(t,.c (.bM (0,own.length) es))::tm,(own++[.tok aJ es])::Ω⟩):AW P N c Q ⟨tm,own::Ω⟩:=by
 refine kN h fun a w σ β hR=> ?_;obtain⟨bo,bΩ,rfl,hlen⟩:=frames hR;have ht:=hR.T t;rw[hv] at ht;obtain⟨⟨hd,ad,n,hval⟩,hone⟩:=ht
 have hn:n=es.length:=by rw[hval] at hd;cases hd<;>rfl
 have hg:Grow w σ w σ:=Grow.refl hR.S.live
 obtain⟨hS',hk,hst⟩:=hR.S.push (o:=.tok aJ es) (h:=a.tmps.getD t undef) hg hlen ⟨hd,hes,ad,n,by rw[hval,hn],by omega,.inl hn⟩ (fun b hb=>by
  rw[hval,hn] at hb
  cases ad<;>simp[owns,blk] at hb)
 refine⟨σ,_,⟨hR.size,hR.defers,hS',fun u=> ?_⟩,hst,Keep.refl _ _⟩;show bJ w σ _ _ (if t=u then _ else look tm u) _;by_cases e:t=u
 ·subst e;rw[if_pos rfl];refine⟨⟨hd,_,bg _ _ _,fun a b e=> ?_⟩,hone⟩;obtain⟨_,rfl⟩:=mK (lab:=none) e;exact⟨ax _,fun _=>by rw[<-hlen,bg]⟩
 ·rw[if_neg e];exact(hR.T u).mono (bQ.refl _ _) hk
theorem vv{c:Code}{Q:Exit->St->Prop}{tm:List (Nat×V)}{own:List Obj}{Ω:Store}(n t aJ:Nat)(es:List (List D))(hv:look tm t=.c (.iT n es)\/(look tm t=.c (.bB es)/\es=[]))(hes:∀e∈es,e.length=aJ)
 (h:AW P N c Q ⟨(t,.c (.bM (0,own.length) es))::tm,(own++[.dY n aJ es])::Ω⟩):AW P N c Q ⟨tm,own::Ω⟩:=by
 refine kN h fun a w σ β hR=> ?_;obtain⟨bo,bΩ,rfl,hlen⟩:=frames hR;have ht:=hR.T t
 have hl:∃ad,a.tmps.getD t undef=.slice ad es.length es.length/\bn w σ (.ol n es) (a.tmps.getD t undef):=by
  rcases hv with hv|⟨hv,rfl⟩
  ·rw[hv] at ht;obtain⟨⟨hd,ad,m,hval⟩,_⟩:=ht
   have hn:m=es.length:=by
    have:=wz hd;rw[hval] at this;cases this<;>rfl
   exact⟨ad,by rw[hval,hn],hd⟩
  ·rw[hv] at ht;obtain⟨⟨hd,ad,m,hval⟩,_⟩:=ht
   have hn:m=0:=by rw[hval] at hd;cases hd<;>rfl
   subst hn;exact⟨ad,hval,by rw[hval];exact .rM _ _ _⟩
 obtain⟨ad,hval,hol⟩:=hl;have hd:=wz hol;have hg:Grow w σ w σ:=Grow.refl hR.S.live
 obtain⟨hS',hk,hst⟩:=hR.S.push (o:=.dY n aJ es) (h:=a.tmps.getD t undef) hg hlen ⟨hd,hes,ad,es.length,hval,ax _,.inl ⟨rfl,hol⟩⟩ (fun b hb=>by
  rw[hval] at hb
  cases ad<;>simp[owns,blk] at hb)
 refine⟨σ,_,⟨hR.size,hR.defers,hS',fun u=> ?_⟩,hst,Keep.refl _ _⟩;show bJ w σ _ _ (if t=u then _ else look tm u) _;by_cases e:t=u
 ·subst e;rw[if_pos rfl];refine⟨⟨hd,_,bg _ _ _,fun a b e=> ?_⟩,by rw[hval];rfl⟩;obtain⟨_,rfl⟩:=mK (lab:=some n) e;exact⟨ax _,fun _=>by rw[<-hlen,bg]⟩
 ·rw[if_neg e];exact(hR.T u).mono (bQ.refl _ _) hk
theorem KA{c:Code}{Q:Exit->St->Prop}{tm:List (Nat×V)}{Ω:Store}(n:Nat)(h:AW P N c Q ⟨tm,[.seed n]::Ω⟩):AW P N c Q ⟨tm,[]::Ω⟩:=by
 refine kN h fun a w σ β hR=> ?_;obtain⟨bo,bΩ,rfl,hlen⟩:=frames hR;obtain⟨hS',hk,hst⟩:=hR.S.push (o:=.seed n) (h:=undef) (Grow.refl hR.S.live) hlen trivial (fun b hb=>by cases hb);exact⟨σ,_,⟨hR.size,hR.defers,hS',fun u=>(hR.T u).mono (bQ.refl _ _) hk⟩,hst,Keep.refl _ _⟩
def uI(n:Nat)(k:Key):Bool:=decide (0<k.1)||decide (k.2<n)
def C.refs(n:Nat):C->Bool
 | .bM k _=>uI n k
 | .ptr k _=>uI n k
 | .jv k _ _=>uI n k
 | .fD k=>uI n k
 | .mp k=>uI n k
 | .fn _ caps=>caps.all fun x=>uI n x.1
 | .xp k _ _=>uI n k
 | .xq k _ _ _ _ _=>uI n k
 |_=>true
def V.refs(n:Nat):V->Bool
 | .c x=>x.refs n
 | .agg cs=>cs.all (C.refs n)
 | .dI xs=>xs.all fun y=>y.2.all (C.refs n)
 | .any=>true
def Obj.refs(n:Nat):Obj->Bool
 | .box cs=>cs.all (C.refs n)
 |_=>true
theorem gW{α:Type}{own:List α}{Ω:List (List α)}{n:Nat}{k:Key}(h:uI n k=true):aN (own.take n::Ω) k=aN (own::Ω) k:=by
 obtain⟨l,j⟩:=k
 cases l with
 |zero=>
  simp[uI] at h;rw[aD,aD,bu h]
 |succ l=>rw[aV,aV]
theorem kP{α:Type}{own:List α}{Ω:List (List α)}{n:Nat}{k:Key}{o:α}(h:aN (own.take n::Ω) k=some o):aN (own::Ω) k=some o/\uI n k=true:=by
 obtain⟨l,j⟩:=k
 cases l with
 |zero=>
  rw[aD] at h ⊢;have hj:=(ae.1 h).1;simp at hj;rw[bu (by omega)] at h;exact⟨h,by simp[uI];omega⟩
 |succ l=>rw[aV] at h ⊢;exact⟨h,by simp[uI]⟩
theorem Dx{own:List Obj}{Ω:Store}{bo:List Value}{bΩ:Hs}{n:Nat}{c:C}{v:Value}(hr:c.refs n=true)(h:dS w σ (own::Ω) (bo::bΩ) c v):dS w σ (own.take n::Ω) (bo.take n::bΩ) c v:=by
 cases c with
 |d x=>exact h
 |any=>exact h
 |bB es=>exact h
 |jI cs=>exact h
 |bM k es=>
  obtain⟨h1,o,ho,h2⟩:=h;exact⟨h1,o,(gW hr).trans ho,fun a b e=>by rw[gW hr];exact h2 a b e⟩
 |ptr k off=>
  obtain⟨o,ho,h2⟩:=h;exact⟨o,(gW hr).trans ho,fun a e=>by rw[gW hr];exact h2 a e⟩
 |jv k i off=>
  obtain⟨o,ho,h2⟩:=h;exact⟨o,(gW hr).trans ho,fun a b e=>by rw[gW hr];exact h2 a b e⟩
 |fD k=>
  obtain⟨o,ho,h2⟩:=h;exact⟨o,(gW hr).trans ho,fun a b e=>by rw[gW hr];exact h2 a b e⟩
 |mp k=>
  obtain⟨o,ho,h2⟩:=h;exact⟨o,(gW hr).trans ho,fun a e=>by rw[gW hr];exact h2 a e⟩
 |fn f caps=>
  obtain⟨vs,hv,hl,h2⟩:=h;refine⟨vs,hv,hl,fun j k off e=> ?_⟩;obtain⟨u,hu,h1c,o,ho,h3⟩:=h2 j k off e;have hk:uI n k=true:=aS.1 hr (k,off) (cM e);exact⟨u,hu,h1c,o,(gW hk).trans ho,fun cs e=>by rw[gW hk];exact h3 cs e⟩
 |iT m es=>exact h
 |xp k r p=>
  obtain⟨o,ho,h2⟩:=h;exact⟨o,(gW hr).trans ho,fun a e=>by rw[gW hr];exact h2 a e⟩
 |xq k r p z i off=>
  obtain⟨o,ho,h2⟩:=h;exact⟨o,(gW hr).trans ho,fun a e=>by rw[gW hr];exact h2 a e⟩
theorem BP{own:List Obj}{Ω:Store}{bo:List Value}{bΩ:Hs}{n:Nat}{cs:List C}{vs:List Value}(hr:cs.all (C.refs n)=true)(h:dF w σ (own::Ω) (bo::bΩ) cs vs):dF w σ (own.take n::Ω) (bo.take n::bΩ) cs vs:=
 ⟨h.1,fun j x hx=>let⟨v,hv,hc,ho⟩:=h.2 j x hx;⟨v,hv,Dx (aS.1 hr x (cM hx)) hc,ho⟩⟩
theorem XK{own:List Obj}{Ω:Store}{bo:List Value}{bΩ:Hs}{n:Nat}{x:V}{v:Value}(hr:x.refs n=true)(h:bJ w σ (own::Ω) (bo::bΩ) x v):bJ w σ (own.take n::Ω) (bo.take n::bΩ) x v:=by
 cases x with
 |c x=>exact⟨Dx hr h.1,h.2⟩
 |agg cs=>obtain⟨ar,ha,hc⟩:=h;exact⟨ar,ha,BP hr hc⟩
 |dI xs=>
  obtain⟨ar,ha,hl,h2⟩:=h;refine⟨ar,ha,hl,fun j y hy=> ?_⟩;obtain⟨u,hu,h3⟩:=h2 j y hy;have hy':y.2.all (C.refs n)=true:=aS.1 hr y (cM hy);refine⟨u,hu,?_⟩;obtain⟨b,cs⟩:=y
  cases b with
  |true=>obtain⟨a',e,hcs⟩:=h3;exact⟨a',e,BP hy' hcs⟩
  |false=>
   obtain⟨x,e,hx,ho⟩:=h3;subst e;simp at hy';exact⟨x,rfl,Dx hy' hx,ho⟩
 |any=>trivial
def Iz(n:Nat)(tm:List (Nat×V)):Bool:=tm.all fun x=>x.2.refs n
theorem LB{n:Nat}:∀(tm:List (Nat×V))(t:Nat),Iz n tm=true->(look tm t).refs n=true
 |[],_,_=>rfl
 |(x,v)::tm,t,h=>by
  simp only[Iz,dT,af] at h;rw[look];split
  ·exact h.1
  ·exact LB tm t h.2
theorem UE{tm:List (Nat×V)}{own:List Obj}{Ω:Store}(n:Nat)(h1:Iz n tm=true)(h2:(own.take n).all (Obj.refs n)=true):fQ N ⟨tm,own::Ω⟩ ⟨tm,own.take n::Ω⟩:=by
 intro a w σ β hR;obtain⟨bo,bΩ,rfl,hlen⟩:=frames hR
 have hown:∀b,Own (own.take n::Ω) (bo.take n::bΩ) b->Own (own::Ω) (bo::bΩ) b:=by
  rintro b ⟨k,o,hv,e1,e2,e3⟩;exact⟨k,o,hv,(kP e1).1,(kP e2).1,e3⟩
 refine⟨σ,bo.take n::bΩ,⟨hR.size,hR.defers,⟨fun k o ho=> ?_,fun k k' o o' h1 h2 b e1 e2 e3 e4 e5 e6=> ?_,⟨by have:=hR.S.shape.1;simpa using this,fun l fr hl=> ?_⟩,hR.S.live,hR.S.lX⟩,fun t=>XK (LB tm t h1) (hR.T t)⟩,
  ⟨ax _,rfl,rfl,fun _ _ _=>⟨rfl,rfl⟩,bQ.refl _ _,fun b hb=>.inl (hown b hb)⟩,Keep.refl _ _⟩
 ·obtain⟨ho',hk⟩:=kP ho;obtain⟨hv,hh,hr⟩:=hR.S.obj k o ho';refine⟨hv,(gW hk).trans hh,?_⟩;obtain⟨l,j⟩:=k
  cases l with
  |zero=>
   cases o with
   |dead=>trivial
   |box cs=>
    obtain⟨b,cc,t,e,hb,hs,hc⟩:=hr;rw[aD] at ho;have hcs:cs.all (C.refs n)=true:=aS.1 h2 (.box cs) (cM ho);exact⟨b,cc,t,e,hb,hs,BP hcs hc⟩
   |tok=>exact hr
   |bU=>exact hr
   |mp=>exact hr
   |dY=>exact hr
   |seed=>exact hr
   |xf=>exact hr
  |succ l=>exact hr
 ·exact hR.S.apart k k' o o' h1 h2 b (kP e1).1 (kP e2).1 e3 (kP e4).1 (kP e5).1 e6
 ·cases l with
  |zero=>
   simp at hl;subst hl;exact⟨_,rfl,by simp[hlen]⟩
  |succ l=>exact hR.S.shape.2 (l+1) fr hl
def C.kR(j:Nat)(es:List (List D)):C->C
 | .fD (0,i)=>if i=j then .d (.sl es) else .fD (0,i)
 |c=>c
def V.kR(j:Nat)(es:List (List D)):V->V
 | .c x=>.c (x.kR j es)
 | .agg cs=>.agg (cs.map (C.kR j es))
 | .dI xs=>.dI (xs.map fun y=>(y.1,y.2.map (C.kR j es)))
 | .any=>.any
def Obj.kR(j:Nat)(es:List (List D)):Obj->Obj
 | .box cs=>.box (cs.map (C.kR j es))
 |o=>o
theorem vw{f:V->V}(hf:f .any=.any):∀(tm:List (Nat×V))(t:Nat),look (tm.map fun x=>(x.1,f x.2)) t=f (look tm t)
 |[],_=>hf.symm
 |(x,v)::tm,t=>by
  show(if x=t then f v else look (tm.map fun x=>(x.1,f x.2)) t)=f (if x=t then v else look tm t);split
  ·rfl
  ·exact vw hf tm t
def V.gI(f:C->C):V->V
 | .c x=>.c (f x)
 | .agg cs=>.agg (cs.map f)
 | .dI xs=>.dI (xs.map fun y=>(y.1,y.2.map f))
 | .any=>.any
def Obj.gI(f:C->C):Obj->Obj
 | .box cs=>.box (cs.map f)
 |o=>o
theorem uJ{f:C->C}{own:List Obj}{j i:Nat}:((own.map (Obj.gI f)).set j .dead)[i]? =if i=j then(if j<own.length then some .dead else none) else(own[i]?).map (Obj.gI f):=by
 rw[eA];by_cases e:j=i
 ·subst e;simp
 ·rw[if_neg e,if_neg (Ne.symm e),be]
theorem tq{f:C->C}{own:List Obj}{Ω:Store}{j:Nat}{oj:Obj}(hj:own[j]? =some oj){k:Key}{o:Obj}(hk:aN (own::Ω) k=some o):
 ∃o',aN ((own.map (Obj.gI f)).set j .dead::Ω) k=some o'/\((k=(0,j)/\o'=.dead)\/(k≠(0,j)/\(o'=o\/o'=o.gI f))):=by
 obtain⟨l,i⟩:=k
 cases l with
 |zero=>
  rw[aD] at hk;by_cases e:i=j
  ·subst e;refine⟨.dead,?_,.inl ⟨rfl,rfl⟩⟩;rw[aD,uJ,if_pos rfl,if_pos (ae.1 hj).1]
  ·refine⟨o.gI f,?_,.inr ⟨fun x=>e (by cases x;rfl),.inr rfl⟩⟩;rw[aD,uJ,if_neg e,hk];rfl
 |succ l=>exact⟨o,by rw[aV] at hk ⊢;exact hk,.inr ⟨by simp,.inl rfl⟩⟩
theorem nO{f:C->C}{o o':Obj}(h:o'=o\/o'=o.gI f):(∀z es,nI o' z es->nI o z es)/\(∀z es,o'=.bU z es->o=.bU z es)/\(∀m,o'=.mp m->o=.mp m)/\(∀cs,o'=.box cs->∃cs',o=.box cs')/\(∀rs,o'=.xf rs->o=.xf rs):=by
 rcases h with rfl|rfl
 ·exact⟨fun _ _ h=>h,fun _ _ h=>h,fun _ h=>h,fun cs h=>⟨cs,h⟩,fun _ h=>h⟩
 ·cases o<;>simp[Obj.gI,nI]
theorem IB{f:C->C}{own:List Obj}{Ω:Store}{bo:List Value}{bΩ:Hs}{j:Nat}{oj:Obj}(hj:own[j]? =some oj)(hn:bQ w σ w σ'){c:C}{v:Value}(hc:dS w σ (own::Ω) (bo::bΩ) c v):
 dS w σ' ((own.map (Obj.gI f)).set j .dead::Ω) (bo::bΩ) c v:=by
 cases c with
 |d x=>exact bn.mono hn hc
 |any=>trivial
 |bB es'=>exact⟨bn.mono hn hc.1,hc.2⟩
 |iT n es'=>exact⟨bn.mono hn hc.1,hc.2⟩
 |jI cs=>obtain⟨ad,h1,h2⟩:=hc;exact⟨ad,h1,h2.mono hn⟩
 |bM k es'=>
  obtain⟨h1,o,ho,h2⟩:=hc;obtain⟨o',ho',hcase⟩:=tq hj ho;refine⟨bn.mono hn h1,o',ho',fun z e4 e=> ?_⟩;rcases hcase with⟨_,e'⟩|⟨_,e'⟩
  ·rw[e'] at e;rcases e with e|⟨_,e⟩<;>cases e
  ·exact h2 _ _ ((nO e').1 _ _ e)
 |ptr k off=>
  obtain⟨o,ho,h2⟩:=hc;obtain⟨o',ho',hcase⟩:=tq hj ho;refine⟨o',ho',fun cs e=> ?_⟩;rcases hcase with⟨_,e'⟩|⟨_,e'⟩
  ·rw[e'] at e;cases e
  ·obtain⟨cs',e''⟩:=(nO e').2.2.2.1 _ e;exact h2 _ e''
 |jv k i off=>
  obtain⟨o,ho,h2⟩:=hc;obtain⟨o',ho',hcase⟩:=tq hj ho;refine⟨o',ho',fun z e4 e=> ?_⟩;rcases hcase with⟨_,e'⟩|⟨_,e'⟩
  ·rw[e'] at e;cases e
  ·exact h2 _ _ ((nO e').2.1 _ _ e)
 |fD k=>
  obtain⟨o,ho,h2⟩:=hc;obtain⟨o',ho',hcase⟩:=tq hj ho;refine⟨o',ho',fun z e4 e=> ?_⟩;rcases hcase with⟨_,e'⟩|⟨_,e'⟩
  ·rw[e'] at e;cases e
  ·exact h2 _ _ ((nO e').2.1 _ _ e)
 |mp k=>
  obtain⟨o,ho,h2⟩:=hc;obtain⟨o',ho',hcase⟩:=tq hj ho;refine⟨o',ho',fun m e=> ?_⟩;rcases hcase with⟨_,e'⟩|⟨_,e'⟩
  ·rw[e'] at e;cases e
  ·exact h2 _ ((nO e').2.2.1 _ e)
 |fn f caps=>
  obtain⟨vs,hv,hl,h2⟩:=hc;refine⟨vs,hv,hl,fun i k off e=> ?_⟩;obtain⟨u,hu,h1c,o,ho,h3⟩:=h2 i k off e;obtain⟨o',ho',hcase⟩:=tq hj ho;refine⟨u,hu,h1c,o',ho',fun cs e=> ?_⟩;rcases hcase with⟨_,e'⟩|⟨_,e'⟩
  ·rw[e'] at e;cases e
  ·obtain⟨cs',e''⟩:=(nO e').2.2.2.1 _ e;exact h3 _ e''
 |xp k r p=>
  obtain⟨o,ho,h2⟩:=hc;obtain⟨o',ho',hcase⟩:=tq hj ho;refine⟨o',ho',fun rs e=> ?_⟩;rcases hcase with⟨_,e'⟩|⟨_,e'⟩
  ·rw[e'] at e;cases e
  ·exact h2 _ ((nO e').2.2.2.2 _ e)
 |xq k r p z i off=>
  obtain⟨o,ho,h2⟩:=hc;obtain⟨o',ho',hcase⟩:=tq hj ho;refine⟨o',ho',fun rs e=> ?_⟩;rcases hcase with⟨_,e'⟩|⟨_,e'⟩
  ·rw[e'] at e;cases e
  ·exact h2 _ ((nO e').2.2.2.2 _ e)
theorem OG{f:C->C}{tm:List (Nat×V)}{own:List Obj}{Ω:Store}{bo:List Value}{bΩ:Hs}(j:Nat){oj:Obj}{hj:Value}(hoj:own[j]? =some oj)(hbj:bo[j]? =some hj)(hR:iI N ⟨tm,own::Ω⟩ a w σ (bo::bΩ))(hlen:bo.length=own.length)
 (hn:bQ w σ w σ')(hch:∀x,¬owns oj hj x->σ' x=σ x)(hlive:∀x,x<w.heap.size\/σ' x=0)
 (hC:∀(c:C) (v:Value),dS w σ (own::Ω) (bo::bΩ) c v->dS w σ' ((own.map (Obj.gI f)).set j .dead::Ω) (bo::bΩ) (f c) v):
 iI N ⟨tm.map fun x=>(x.1,x.2.gI f),(own.map (Obj.gI f)).set j .dead::Ω⟩ a w σ' (bo::bΩ)/\Step (own::Ω) (bo::bΩ) σ w ((own.map (Obj.gI f)).set j .dead::Ω) (bo::bΩ) σ' w:=by
 have Ni:∀k o,aN ((own.map (Obj.gI f)).set j .dead::Ω) k=some o->(k=(0,j)/\o=.dead)\/(k≠(0,j)/\∃o0,aN (own::Ω) k=some o0/\(o=o0\/o=o0.gI f)/\(0<k.1->o=o0)/\∀h b,owns o h b<->owns o0 h b):=by
  intro k o hk;obtain⟨l,i⟩:=k
  cases l with
  |zero=>
   rw[aD,uJ] at hk;by_cases e:i=j
   ·subst e;rw[if_pos rfl,if_pos (ae.1 hoj).1] at hk;cases hk;exact .inl ⟨rfl,rfl⟩
   ·rw[if_neg e] at hk
    cases ho:own[i]? with
    |none=>rw[ho] at hk;cases hk
    |some o0=>
     rw[ho] at hk;cases hk;refine .inr ⟨fun x=>e (by cases x;rfl),o0,by rw[aD];exact ho,.inr rfl,fun h=>absurd h (by simp),fun h b=> ?_⟩
     cases o0 with
     |box cs=>cases h<;>first|exact eK|(rename_i x;cases x<;>exact eK)
     |_=>exact eK
  |succ l=>rw[aV] at hk;exact .inr ⟨by simp,o,by rw[aV];exact hk,.inl rfl,fun _=>rfl,fun _ _=>eK⟩
 have hCs:∀(cs:List C)(vs:List Value),dF w σ (own::Ω) (bo::bΩ) cs vs->dF w σ' ((own.map (Obj.gI f)).set j .dead::Ω) (bo::bΩ) (cs.map f) vs:=by
  intro cs vs hc;refine⟨by simpa using hc.1,fun i x hx=> ?_⟩;rw[be] at hx
  cases hci:cs[i]? with
  |none=>rw[hci] at hx;cases hx
  |some y=>
   rw[hci] at hx;cases hx;obtain⟨v,hv,hr,ho⟩:=hc.2 i y hci;exact⟨v,hv,hC y v hr,ho⟩
 have hother:∀k o h x,k≠(0,j)->aN (own::Ω) k=some o->aN (bo::bΩ) k=some h->owns o h x->σ' x=σ x:=by
  intro k o h x hk e1 e2 e3;refine hch x fun e4=>hk ?_;exact hR.S.apart k (0,j) o _ h _ x e1 e2 e3 (by rw[aD];exact hoj) (by rw[aD];exact hbj) e4
 refine⟨⟨hR.size,hR.defers,⟨fun k o ho=> ?_,fun k k' o o' h1 h2 b' e1 e2 e3 e4 e5 e6=> ?_,⟨by have:=hR.S.shape.1;simpa using this,fun l fr hl=> ?_⟩,hlive,hR.S.lX.near hn⟩,fun t=> ?_⟩,⟨ax _,rfl,rfl,fun x hx hno=>⟨rfl,?_⟩,hn,fun x hx=> ?_⟩⟩
 ·rcases Ni k o ho with⟨rfl,rfl⟩|⟨hk,o0,h0,hcase,hl0,how⟩
  ·exact⟨_,by rw[aD];exact hbj,trivial⟩
  ·obtain⟨hv,hhv,hr⟩:=hR.S.obj k o0 h0;refine⟨hv,hhv,?_⟩;have hbk:∀x,owns o0 hv x->w.heap[x]? =w.heap[x]? /\σ' x=σ x:=fun x e=>⟨rfl,hother k o0 hv x hk h0 hhv e⟩;obtain⟨l,i⟩:=k
   cases l with
   |succ l=>
    rw[hl0 (by simp)];exact eT.mono hn (Keep.refl _ _) hbk hr
   |zero=>
    cases o0 with
    |box cs=>
     obtain⟨b',cc',t',e',hb',hs',hc'⟩:=hr;subst e'
     have he:o=.box (cs.map f):=by
      rw[aD,uJ] at ho;rw[aD] at h0;split at ho
      ·rename_i e;exact absurd (by rw[e]) hk
      ·rw[h0] at ho;cases ho;rfl
     rw[he];exact⟨b',cc',t',rfl,hb',(hbk b' rfl).2.trans hs',hCs _ _ hc'⟩
    |dead=>rcases hcase with rfl|rfl<;>trivial
    |tok z es'=>
     have:o=.tok z es':=by rcases hcase with rfl|rfl<;>rfl
     rw[this];exact eT.mono (S:=[]) (β:=[]) (o:=(.tok z es')) hn (Keep.refl [] []) hbk hr
    |bU z es'=>
     have:o=.bU z es':=by rcases hcase with rfl|rfl<;>rfl
     rw[this];exact eT.mono (S:=[]) (β:=[]) (o:=(.bU z es')) hn (Keep.refl [] []) hbk hr
    |mp m=>
     have:o=.mp m:=by rcases hcase with rfl|rfl<;>rfl
     rw[this];exact eT.mono (S:=[]) (β:=[]) (o:=(.mp m)) hn (Keep.refl [] []) hbk hr
    |dY n z es'=>
     have:o=.dY n z es':=by rcases hcase with rfl|rfl<;>rfl
     rw[this];exact eT.mono (S:=[]) (β:=[]) (o:=(.dY n z es')) hn (Keep.refl [] []) hbk hr
    |seed n=>rcases hcase with rfl|rfl<;>trivial
    |xf rs=>
     have:o=.xf rs:=by rcases hcase with rfl|rfl<;>rfl
     rw[this];exact eT.mono (S:=[]) (β:=[]) (o:=(.xf rs)) hn (Keep.refl [] []) hbk hr
 ·rcases Ni k o e1 with⟨rfl,rfl⟩|⟨hk,o0,f1,_,_,f2⟩
  ·cases e3
  ·rcases Ni k' o' e4 with⟨rfl,rfl⟩|⟨hk',o0',g1,_,_,g2⟩
   ·cases e6
   ·exact hR.S.apart k k' o0 o0' h1 h2 b' f1 e2 ((f2 _ _).1 e3) g1 e5 ((g2 _ _).1 e6)
 ·cases l with
  |zero=>
   simp at hl;subst hl;exact⟨_,rfl,by simp[hlen]⟩
  |succ l=>exact hR.S.shape.2 (l+1) fr hl
 ·show bJ w σ' ((own.map (Obj.gI f)).set j .dead::Ω) (bo::bΩ) (look (tm.map fun x=>(x.1,x.2.gI f)) t) _;rw[vw (f:=V.gI f) rfl];have ht:=hR.T t
  cases hx:look tm t with
  |c x=>rw[hx] at ht;exact⟨hC x _ ht.1,ht.2⟩
  |agg cs=>rw[hx] at ht;obtain⟨ar,e,hc⟩:=ht;exact⟨ar,e,hCs _ _ hc⟩
  |dI xs=>
   rw[hx] at ht;obtain⟨ar,e,hl,h2⟩:=ht;refine⟨ar,e,by simpa using hl,fun i y hy=> ?_⟩;rw[be] at hy
   cases hxi:xs[i]? with
   |none=>rw[hxi] at hy;cases hy
   |some z=>
    rw[hxi] at hy;cases hy;obtain⟨u,hu,h3⟩:=h2 i z hxi;refine⟨u,hu,?_⟩;obtain⟨bb,cs⟩:=z
    cases bb with
    |true=>obtain⟨a',e',hcs⟩:=h3;exact⟨a',e',hCs _ _ hcs⟩
    |false=>
     obtain⟨x,e',SY,ho⟩:=h3;subst e';exact⟨_,rfl,hC x _ SY,ho⟩
  |any=>trivial
 ·exact hch x fun e=>hno ⟨(0,j),_,_,by rw[aD];exact hoj,by rw[aD];exact hbj,e⟩
 ·left;obtain⟨k,o,h1,e1,e2,e3⟩:=hx;rcases Ni k o e1 with⟨rfl,rfl⟩|⟨hk,o0,f1,_,_,f2⟩
  ·cases e3
  ·exact⟨k,o0,h1,f1,e2,(f2 _ _).1 e3⟩
theorem aaX{j:Nat}{es:List (List D)}:Obj.kR j es=Obj.gI (C.kR j es):=by funext o;cases o<;>rfl
theorem aaY{j:Nat}{es:List (List D)}:V.kR j es=V.gI (C.kR j es):=by funext v;cases v<;>rfl
theorem aeo{tm:List (Nat×V)}{own:List Obj}{Ω:Store}(j:Nat)(aJ:Nat)(es:List (List D))(hj:own[j]? =some (.bU aJ es))(hR:iI N ⟨tm,own::Ω⟩ a w σ β):
 ∃σ' β',iI N ⟨tm.map fun x=>(x.1,x.2.kR j es),(own.map (Obj.kR j es)).set j .dead::Ω⟩ a w σ' β'/\Step (own::Ω) β σ w ((own.map (Obj.kR j es)).set j .dead::Ω) β' σ' w/\
  Keep (eX (own::Ω)) (eX β) (eX ((own.map (Obj.kR j es)).set j .dead::Ω)) (eX β'):=by
 obtain⟨bo,bΩ,rfl,hlen⟩:=frames hR;obtain⟨hh,hb,hr⟩:=hR.S.obj (0,j) _ (by rw[aD];exact hj);rw[aD] at hb
 obtain⟨σ',hn,hch,hlive,hdata⟩:∃σ',bQ w σ w σ'/\(∀x,¬owns (.bU aJ es) hh x->σ' x=σ x)/\(∀x,x<w.heap.size\/σ' x=0)/\bn w σ' (.sl es) hh:=by
  obtain⟨hle,ad,cap,rfl,hcap,h4⟩:=hr;by_cases h0:cap=0
  ·obtain rfl:es=[]:=bh (by omega);exact⟨σ,bQ.refl _ _,fun _ _=>rfl,hR.S.live,.nil _ _⟩
  rcases h4 with h4|⟨b,cc,ty,rfl,hbc,hσ,hcz,hcells⟩
  ·exact absurd h4 h0
  have hsz:es.length*aJ<=cc.size:=cp (bx _ hcap) hcz
  let σ':Nat->Nat:=fun x=>if x=b then es.length*aJ else σ x
  have hn:bQ w σ w σ':=by
   intro b1 c1 t1 yN e1;by_cases e:b1=b
   ·subst e;rw[hbc] at e1;cases e1;exact⟨by simp only[σ',if_true];omega,fun h=>by omega,cc,hbc,rfl,fun _ _=>rfl⟩
   ·exact⟨by simp only[σ',if_neg e];exact ax _,fun _=>if_neg e,c1,e1,rfl,fun _ _=>rfl⟩
  refine⟨σ',hn,fun x hx=>if_neg fun e=>hx (by subst e;simp[owns,blk,h0]),fun x=> ?_,?_⟩
  ·by_cases e:x=b
   ·left;subst e;exact lt_of_some hbc
   ·simp only[σ',if_neg e];exact hR.S.live x
  ·have hfl:=gy es aJ hle;refine .sl b 0 cap aJ es (fun i=>(cc[i]?).getD undef) cc ty (0,0) hcap hle hbc (by simp[σ']) (fun i hi=> ?_) (fun i d hd=> ?_)
   ·obtain⟨v,hv,_⟩:=hcells i _ (al (by omega));simp[hv]
   ·obtain⟨v,hv,hr⟩:=hcells i d hd;simp only[hv,cN];exact hr.mono hn
 rw[aaX,aaY]
 have:=OG (f:=C.kR j es) j hj hb hR hlen hn hch hlive (fun c v hc=>by
  by_cases hm:c=.fD (0,j)
  ·subst hm;obtain⟨o,ho,h2⟩:=hc;rw[aD,hj] at ho;cases ho;have hv:=h2 _ _ rfl;rw[aD,hb] at hv;cases hv;simp only[C.kR,if_true];exact hdata
  ·have hfr:C.kR j es c=c:=by
    cases c with
    |fD k=>
     obtain⟨l,i⟩:=k
     cases l with
     |zero=>simp only[C.kR];rw[if_neg (fun e=>hm (by rw[e]))]
     |succ l=>rfl
    |_=>rfl
   rw[hfr]
   exact IB hj hn hc)
 exact⟨σ',_,this.1,this.2,Keep.refl _ _⟩
def C.lab(row:Bool)(j n:Nat)(es:List (List D)):C->C
 | .fD (0,i)=>if i=j/\row=true then .d (.ol n es) else .fD (0,i)
 | .bM (0,i) es'=>if i=j/\row=false/\es'.length=es.length then .d (.ol n es) else .bM (0,i) es'
 |c=>c
def IC(row:Bool)(n aJ:Nat)(es:List (List D)):Obj:=match row with|true=>.bU aJ es|false=>.dY n aJ es
theorem Tf{tm:List (Nat×V)}{own:List Obj}{Ω:Store}(j n:Nat)(aJ:Nat)(es:List (List D))(row:Bool)(hj:own[j]? =some (IC row n aJ es))(hR:iI N ⟨tm,own::Ω⟩ a w σ β):
 ∃σ' β',iI N ⟨tm.map fun x=>(x.1,x.2.gI (C.lab row j n es)),(own.map (Obj.gI (C.lab row j n es))).set j .dead::Ω⟩ a w σ' β'/\Step (own::Ω) β σ w ((own.map (Obj.gI (C.lab row j n es))).set j .dead::Ω) β' σ' w/\
  Keep (eX (own::Ω)) (eX β) (eX ((own.map (Obj.gI (C.lab row j n es))).set j .dead::Ω)) (eX β'):=by
 obtain⟨bo,bΩ,rfl,hlen⟩:=frames hR
 have key:∃hh σ',bo[j]? =some hh/\bQ w σ w σ'/\(∀x,¬owns (IC row n aJ es) hh x->σ' x=σ x)/\(∀x,x<w.heap.size\/σ' x=0)/\bn w σ' (.ol n es) hh:=by
  have XL:∀(b off cap:Nat)(c:Array Value)(t:TypeId),w.heap[b]? =some (.cells c t (0,0))->σ b<=c.size->(∀e∈es,e.length=aJ)->off+es.length*aJ<=c.size->es.length<=cap->off=0/\cap*aJ<=c.size->
   (∀(i:Nat)(d:D),es.flatten[i]? =some d->∃v,c[off+i]? =some v/\bn w σ d v)->
   bQ w σ w (fun x=>if x=b then c.size+1+n else σ x)/\(∀x,x<w.heap.size\/(fun x=>if x=b then c.size+1+n else σ x) x=0)/\bn w (fun x=>if x=b then c.size+1+n else σ x) (.ol n es) (.slice (some ⟨b,off,none⟩) es.length cap):=by
   intro b off cap c t hb hσ hle hsz hcap hx hcells
   have hn:bQ w σ w (fun x=>if x=b then c.size+1+n else σ x):=by
    intro b1 c1 t1 yN e1;by_cases e:b1=b
    ·subst e;rw[hb] at e1;cases e1;exact⟨by simp only[if_true];omega,fun h=>by omega,c,hb,rfl,fun _ _=>rfl⟩
    ·exact⟨by simp only[if_neg e];exact ax _,fun _=>if_neg e,c1,e1,rfl,fun _ _=>rfl⟩
   refine⟨hn,fun x=> ?_,?_⟩
   ·by_cases e:x=b
    ·left;subst e;exact lt_of_some hb
    ·simp only[if_neg e];exact hR.S.live x
   ·have hfl:=gy es aJ hle;refine .ol n b off cap aJ es (fun i=>(c[off+i]?).getD undef) c t hcap hle hb (by simp) hsz (fun i hi=> ?_) (fun i d hd=> ?_) hx
    ·obtain⟨v,hv,_⟩:=hcells i _ (al (by omega));simp[hv]
    ·obtain⟨v,hv,hr⟩:=hcells i d hd;simp only[hv,cN];exact hr.mono hn
  cases row with
  |true=>
   obtain⟨hh,hb,hr⟩:=hR.S.obj (0,j) _ (by rw[aD];exact hj);obtain⟨hle,ad,cap,rfl,hcap,h4⟩:=hr;rw[aD] at hb;by_cases h0:cap=0
   ·obtain rfl:es=[]:=bh (by omega);exact⟨_,σ,hb,bQ.refl _ _,fun _ _=>rfl,hR.S.live,.rM _ _ _⟩
   rcases h4 with h4|⟨b,cc,ty,rfl,hbc,hσ,hcz,hcells⟩
   ·exact absurd h4 h0
   have hsz:es.length*aJ<=cc.size:=cp (bx _ hcap) hcz;obtain⟨k1,k2,k3⟩:=XL b 0 cap cc ty hbc (by omega) hle (by omega) hcap ⟨rfl,hcz⟩ (fun i d hd=>by rw[cL];exact hcells i d hd);exact⟨_,_,hb,k1,fun x hx=>if_neg fun e=>hx (by subst e;simp[IC,owns,blk,h0]),k2,k3⟩
  |false=>
   obtain⟨hh,hb,hr⟩:=hR.S.obj (0,j) _ (by rw[aD];exact hj);obtain⟨h1,hle,ad,cap,rfl,hcap,hcase⟩:=hr;rw[aD] at hb;rcases hcase with⟨h4,h5⟩|⟨h4,b,off,c,t,rfl,hbc,hσ,hfit⟩
   ·exact⟨_,σ,hb,bQ.refl _ _,fun _ _=>rfl,hR.S.live,h5⟩
   ·have hm:es.length*aJ<=cap*aJ:=bx _ hcap
    obtain⟨k1,k2,k3⟩:=XL b off cap c t hbc (by omega) hle (by omega) hcap ⟨by omega,by omega⟩ (fun i d hd=>by
     cases h1 with
     |nil=>simp at hd
     |sl b' off' cap' qw es vals c' t' N9 q1 q2 q3 q4 q5 q6=>
      rw[hbc] at q3;cases q3;have hil:=(ae.1 hd).1;rw[gy es aJ hle] at hil
      have he:qw=aJ:=by
       cases es with
       |nil=>simp at hil
       |cons y ys=>rw[<-q2 y (by simp),hle y (by simp)]
      subst he
      exact⟨_,q5 i hil,q6 i d hd⟩)
    exact⟨_,_,hb,k1,fun x hx=>if_neg fun e=>hx (by subst e;simp[IC,owns,blk,h4]),k2,k3⟩
 obtain⟨hh,σ',hb,hn,hch,hlive,hdata⟩:=key
 have:=OG (f:=C.lab row j n es) j hj hb hR hlen hn hch hlive (fun c v hc=>by
  by_cases hm:c=.fD (0,j)/\row=true
  ·obtain⟨rfl,rfl⟩:=hm;simp only[C.lab,and_self,if_true];obtain⟨o,ho,h2⟩:=hc;rw[aD,hj] at ho;cases ho;have hv:=h2 _ _ rfl;rw[aD,hb] at hv;cases hv;exact hdata
  ·by_cases ht:∃es',c=.bM (0,j) es'/\row=false/\es'.length=es.length
   ·obtain⟨es',rfl,rfl,hl⟩:=ht;simp only[C.lab,hl,and_self,if_true];obtain⟨h1,o,ho,h2⟩:=hc;rw[aD,hj] at ho;cases ho;have hv:=(h2 _ _ (.inr ⟨n,rfl⟩)).2 hl;rw[aD,hb] at hv;cases hv;exact hdata
   ·have hfr:C.lab row j n es c=c:=by
     cases c with
     |fD k=>
      obtain⟨l,i⟩:=k
      cases l with
      |zero=>simp only[C.lab];rw[if_neg (fun e=>hm ⟨by rw[e.1],e.2⟩)]
      |succ l=>rfl
     |bM k es'=>
      obtain⟨l,i⟩:=k
      cases l with
      |zero=>simp only[C.lab];rw[if_neg (fun e=>ht ⟨es',by rw[e.1],e.2⟩)]
      |succ l=>rfl
     |_=>rfl
    rw[hfr]
    exact IB hj hn hc)
 exact⟨σ',_,this.1,this.2,Keep.refl _ _⟩
def IE(j:Nat)(s:St):St:=
 match s.st with
 |own::Ω=>match own[j]? with
  |some (.bU _ es)=>⟨s.tm.map fun x=>(x.1,x.2.kR j es),(own.map (Obj.kR j es)).set j .dead::Ω⟩
  |_=>s
 |[]=>s
def IG:Nat->St->St
 |0,s=>s
 |n+1,s=>IG n (IE n s)
def AX(s:St):St:=
 match s.st with
 |own::_=>IG own.length s
 |[]=>s
theorem Rh(j:Nat)(s:St):fQ N s (IE j s):=by
 obtain⟨tm,st⟩:=s
 cases st with
 |nil=>exact fQ.refl _ _
 |cons own Ω=>
  unfold IE
  simp only
  split
  ·rename_i z es hj;exact fun a w σ β hR=>aeo j z es hj hR
  ·exact fQ.refl _ _
theorem FY:∀(n:Nat)(s:St),fQ N s (IG n s)
 |0,s=>fQ.refl _ _
 |n+1,s=>(Rh n s).trans (FY n _)
theorem Dy(s:St):fQ N s (AX s):=by
 unfold AX;split
 ·exact FY _ _
 ·exact fQ.refl _ _
theorem II{c:Code}{Q:Exit->St->Prop}{g:St->St}(hg:∀s,fQ N s (g s))(h:AW P N c (fun e s'=>Q e (g s')) s):AW P N c Q s:=by
 intro a w σ β hR;refine wp_mono (h a w σ β hR) ?_;rintro e a' w' ⟨s',σ',β',k1,k2,k3,k4⟩;obtain⟨σ2,β2,r2,st2,kk2⟩:=hg s' a' w' σ' β' k1;exact⟨_,σ2,β2,r2,k2.trans st2,k3.trans kk2,k4⟩
end
section
variable {P:Program} {E:Md} {S S':Store} {N:Nat} {s:St}
def lookO(tm:List (Nat×V))(t:Option Nat):Option V:=t.map (look tm)
theorem OH{tm:List (Nat×V)}{t:Option Nat}:lookO tm t=t.map (look tm):=rfl
theorem UF{tm:List (Nat×V)}{t:Nat}:lookO tm (some t)=some (look tm t):=rfl
theorem UG{tm:List (Nat×V)}:lookO tm none=none:=rfl
def AY(tm:List (Nat×V))(l:List Operand):List V:=l.map (ev tm)
theorem aep{tm:List (Nat×V)}:AY tm []=[]:=rfl
theorem aaZ{tm:List (Nat×V)}{x:Operand}{l:List Operand}:AY tm (x::l)=ev tm x::AY tm l:=rfl
def LC(tm:List (Nat×V))(x:Option Operand):Option V:=x.map (ev tm)
theorem aa0{tm:List (Nat×V)}{x:Operand}:LC tm (some x)=some (ev tm x):=rfl
theorem aa1{tm:List (Nat×V)}:LC tm none=none:=rfl
def LD(tm:List (Nat×V))(l:List (Nat×Operand)):List (Nat×V):=l.map fun x=>(x.1,ev tm x.2)
theorem aer{tm:List (Nat×V)}:LD tm []=[]:=rfl
theorem aa2{tm:List (Nat×V)}{i:Nat}{x:Operand}{l:List (Nat×Operand)}:LD tm ((i,x)::l)=(i,ev tm x)::LD tm l:=rfl
def Split(x:Bool)(A B:St->Prop)(s:St):Prop:=(x=true->A s)/\(x=false->B s)
theorem ay{x:Bool}{A B:St->Prop}(h1:x=true->A s)(h2:x=false->B s):Split x A B s:=⟨h1,h2⟩
theorem UH{A B:St->Prop}:Split true A B s=A s:=by simp[Split]
theorem Ri{A B:St->Prop}:Split false A B s=B s:=by simp[Split]
def OI(dst:Option Nat)(v:V)(K:St->Prop)(s:St):Prop:=K (s.put dst v)
theorem aes{dst:Option Nat}{v:V}{K:St->Prop}:OI dst v K s=K (s.put dst v):=rfl
def UJ(P:Program)(o:Oper)(K:St->Prop)(s:St):Prop:=fO P o s K
def OJ(P:Program)(E:Md)(o:Oper)(K:St->Prop)(s:St):Prop:=dP P E o s K
theorem aa3{o:Oper}{K:St->Prop}:UJ P o K s=fO P o s K:=rfl
theorem XM{o:Oper}{K:St->Prop}:OJ P E o K s=dP P E o s K:=rfl
def yV(dst:Option Nat)(want:Bool)(A K:St->Prop)(s:St):Option V->Prop
 |some (.c (.d (.b x)))=>match want with
  |true=>Split x A (OI dst (.dI []) K) s
  |false=>Split x (OI dst (.dI []) K) A s
 |some (.dI [])=>K (s.put dst (.dI []))
 |_=>False
theorem Rj{R:Array Oper}{dst op ty pos after}{K:St->Prop}:qL P R ⟨dst,op,ty,pos,after,none⟩ s K=fO P ⟨dst,op,ty,pos,after,none⟩ s K:=rfl
theorem Rk{R:Array Oper}{dst op ty pos after j want}{K:St->Prop}:qL P R ⟨dst,op,ty,pos,after,some (j,want)⟩ s K=
 yV dst want (UJ P ⟨dst,op,ty,pos,after,some (j,want)⟩ K) K s (lookO s.tm (eB R j)):=by
 show qL P R _ s K=_;simp only[qL,<-OH];generalize lookO s.tm (eB R j)=v
 cases v with
 |none=>rfl
 |some v=>
  cases v with
  |c x=>cases x with
   |d x=>cases x with
    |b x=>cases want<;>simp[yV,Split,OI,UJ,and_comm]
    |_=>rfl
   |_=>rfl
  |dI l=>cases l<;>rfl
  |_=>rfl
theorem OL{R:Array Oper}{dst op ty pos after}{K:St->Prop}:mH P E R ⟨dst,op,ty,pos,after,none⟩ s K=dP P E ⟨dst,op,ty,pos,after,none⟩ s K:=rfl
theorem OM{R:Array Oper}{dst op ty pos after j want}{K:St->Prop}:mH P E R ⟨dst,op,ty,pos,after,some (j,want)⟩ s K=
 yV dst want (OJ P E ⟨dst,op,ty,pos,after,some (j,want)⟩ K) K s (lookO s.tm (eB R j)):=by
 simp only[mH,<-OH];generalize lookO s.tm (eB R j)=v
 cases v with
 |none=>rfl
 |some v=>
  cases v with
  |c x=>cases x with
   |d x=>cases x with
    |b x=>cases want<;>simp[yV,Split,OI,OJ,and_comm]
    |_=>rfl
   |_=>rfl
  |dI l=>cases l<;>rfl
  |_=>rfl
@[congr] theorem ahR {R:Array Oper} {os:List Oper} {s s':St} {K:St->Prop} (h2:s=s'):yR P R os s K=yR P R os s' K:=by rw[h2]
@[congr] theorem ahS {R:Array Oper} {os:List Oper} {s s':St} {K:St->Prop} (h2:s=s'):qy P E R os s K=qy P E R os s' K:=by rw[h2]
@[congr] theorem agc {R:Array Oper} {o:Oper} {s s':St} {K:St->Prop} (h2:s=s'):qL P R o s K=qL P R o s' K:=by rw[h2]
@[congr] theorem afK {R:Array Oper} {o:Oper} {s s':St} {K:St->Prop} (h2:s=s'):mH P E R o s K=mH P E R o s' K:=by rw[h2]
@[congr] theorem agd {dst:Option Nat} {want:Bool} {A K:St->Prop} {s s':St} {v v':Option V} (h2:s=s') (h3:v=v'):yV dst want A K s v=yV dst want A K s' v':=by rw[h2,h3]
@[congr] theorem ahq {x x':Bool} {A B:St->Prop} {s s':St} (h:x=x') (h2:s=s'):Split x A B s=Split x' A B s':=by rw[h,h2]
@[congr] theorem ahr {o:Oper} {s s':St} {K:St->Prop} (h2:s=s'):bA P o s K=bA P o s' K:=by rw[h2]
@[congr] theorem ahs {o:Oper} {s s':St} {K:St->Prop} (h2:s=s'):fO P o s K=fO P o s' K:=by rw[h2]
@[congr] theorem ahT {t:TypeId} {s s':St} {dst:Option Nat} {K:St->Prop} {b b':Bool} {r r':R} (h1:s=s') (h2:b=b') (h3:r=r'):Dm P t s dst K b r=Dm P t s' dst K b' r':=by rw[h1,h2,h3]
@[congr] theorem ahU {m:Nat} {t u:TypeId} {a a' x x':V} {s s':St} {dst:Option Nat} {K:St->Prop} (h1:a=a') (h3:x=x') (h2:s=s'):Dq P m t u a x s dst K=Dq P m t u a' x' s' dst K:=by rw[h1,h2,h3]
@[congr] theorem afL {t u:TypeId} {a a' x x':V} {s s':St} {dst:Option Nat} {K:St->Prop} (h1:a=a') (h3:x=x') (h2:s=s'):yB P t u a x s dst K=yB P t u a' x' s' dst K:=by rw[h1,h2,h3]
@[congr] theorem agf {t u:TypeId} {k:Key} {x x':V} {s s':St} {dst:Option Nat} {K:St->Prop} (h3:x=x') (h2:s=s'):lU P t u k x s dst K=lU P t u k x' s' dst K:=by rw[h2,h3]
@[congr] theorem agh {o:Oper} {s s':St} {K:St->Prop} (h2:s=s'):dP P E o s K=dP P E o s' K:=by rw[h2]
@[congr] theorem ahV {l l':Option Nat} {es es' x:List (List D)} {z:Nat} {s s':St} {dst:Option Nat} {K:St->Prop} (h1:l=l') (h2:es=es') (h3:s=s'):yQ l es s dst z x K=yQ l' es' s' dst z x K:=by rw[h1,h2,h3]
@[congr] theorem ahW {b b':Bool} {es es' x:List (List D)} {z:Nat} {s s':St} {dst:Option Nat} {K:St->Prop} (h1:b=b') (h2:es=es') (h3:s=s'):xk b es s dst z x K=xk b' es' s' dst z x K:=by rw[h1,h2,h3]
@[congr] theorem ahX {b b':Bool} {n:Nat} {x:List (List D)} {z:Nat} {s s':St} {dst:Option Nat} {K:St->Prop} (h1:b=b') (h3:s=s'):Aj b n s dst z x K=Aj b' n s' dst z x K:=by rw[h1,h3]
@[congr] theorem agi {s s':St} {dst:Option Nat} {o o':Obj} {mk:Key->V} {K:St->Prop} (h1:s=s') (h2:o=o'):newObj s dst o mk K=newObj s' dst o' mk K:=by rw[h1,h2]
@[congr] theorem agj {t:TypeId} {s s':St} {dst:Option Nat} {K:St->Prop} (h1:s=s'):qJ P t s dst K=qJ P t s' dst K:=by rw[h1]
@[congr] theorem ahY {v v':V} {s s':St} {dst:Option Nat} {K:St->Prop} (h1:v=v') (h2:s=s'):yP v s dst K=yP v' s' dst K:=by rw[h1,h2]
@[congr] theorem agk {t:TypeId} {a a' x x':V} {s s':St} {dst:Option Nat} {K:St->Prop} (h1:a=a') (h3:x=x') (h2:s=s'):qK P t a x s dst K=qK P t a' x' s' dst K:=by rw[h1,h2,h3]
@[congr] theorem aht {t:TypeId} {a a' x x':V} {s s':St} {dst:Option Nat} {K:St->Prop} (h1:a=a') (h3:x=x') (h2:s=s'):uw P t a x s dst K=uw P t a' x' s' dst K:=by rw[h1,h2,h3]
@[congr] theorem afM {t u:TypeId} {a a' x x':V} {s s':St} {dst:Option Nat} {K:St->Prop} (h1:a=a') (h3:x=x') (h2:s=s'):mG P t u a x s dst K=mG P t u a' x' s' dst K:=by rw[h1,h2,h3]
@[congr] theorem afN {s s':St} {dst:Option Nat} {K:St->Prop} (h2:s=s'):qg s dst K=qg s' dst K:=by rw[h2]
@[congr] theorem afO {t:TypeId} {a a' x x' y y':V} {s s':St} {dst:Option Nat} {K:St->Prop} (h1:a=a') (h3:x=x') (h4:y=y') (h2:s=s'):qh P t a x y s dst K=qh P t a' x' y' s' dst K:=by rw[h1,h2,h3,h4]
@[congr] theorem ahu {f:FuncId} {args args':List V} {s s':St} {dst:Option Nat} {K:St->Prop} (h1:args=args') (h2:s=s'):vL P f args s dst K=vL P f args' s' dst K:=by rw[h1,h2]
@[congr] theorem ahv {c:Call} {s s':St} {dst:Option Nat} {K:St->Prop} (h2:s=s'):jY P c s dst K=jY P c s' dst K:=by rw[h2]
@[congr] theorem ahw {K:St->Prop} {Q:Exit->St->Prop} {e:Exit} {s s':St} (h2:s=s'):kU K Q e s=kU K Q e s':=by rw[h2]
def fA(s:St)(dst:Option Nat)(K:St->Prop)(r:R):Prop:=r.1/\K (s.put dst r.2)
@[congr] theorem ahx {s s':St} {dst:Option Nat} {K:St->Prop} {r r':R} (h1:s=s') (h2:r=r'):fA s dst K r=fA s' dst K r':=by rw[h1,h2]
theorem aa4{dst:Option Nat}{K:St->Prop}{p:Prop}{v:V}:fA s dst K (p,v)=(p/\K (s.put dst v)):=rfl
def yX(caps:List (Key×Nat)):List V:=caps.map fun y=>.c (.ptr y.1 y.2)
def Nj(P:Program)(fv:V)(args:List V)(s:St)(dst:Option Nat)(K:St->Prop):Prop:=
 match fv with
 | .c (.fn f caps)=>vL P f (args++yX caps) s dst K
 |_=>False
def BQ(P:Program)(m:Nat)(f:FuncId)(args:List V)(s:St)(dst:Option Nat)(K:St->Prop):Prop:=
 match m with
 |0=>∃r,aF P f args r/\K (s.put dst r)
 |1=>∃S' v,DS s.st S'/\vL P f args s dst (fun t=>t=St.put ⟨s.tm,S'⟩ dst v)/\K (St.put ⟨s.tm,S'⟩ dst v)
 |_=>∃S' v,vL P f args s dst (fun t=>t=St.put ⟨s.tm,S'⟩ dst v)/\K (St.put ⟨s.tm,S'⟩ dst v)
def vP(P:Program)(m:Nat)(fv:V)(args:List V)(s:St)(dst:Option Nat)(K:St->Prop):Prop:=
 match fv with
 | .c (.fn f caps)=>BQ P m f (args++yX caps) s dst K
 |_=>False
@[congr] theorem ahy {fv XO:V} {args args':List V} {s s':St} {dst:Option Nat} {K:St->Prop} (h1:fv=XO) (h3:args=args') (h2:s=s'):Nj P fv args s dst K=Nj P XO args' s' dst K:=by rw[h1,h2,h3]
@[congr] theorem ahz {m:Nat} {fv XO:V} {args args':List V} {s s':St} {dst:Option Nat} {K:St->Prop} (h1:fv=XO) (h3:args=args') (h2:s=s'):vP P m fv args s dst K=vP P m XO args' s' dst K:=by rw[h1,h2,h3]
@[congr] theorem ahA {m:Nat} {f:FuncId} {args args':List V} {s s':St} {dst:Option Nat} {K:St->Prop} (h1:args=args') (h2:s=s'):BQ P m f args s dst K=BQ P m f args' s' dst K:=by rw[h1,h2]
theorem Rl{x:Operand}{args:Array Operand}{ts:Array TypeId}{dst:Option Nat}{K:St->Prop}:jY P ⟨.value x,args,ts⟩ s dst K=Nj P (ev s.tm x) (AY s.tm args.toList) s dst K:=rfl
theorem OO{x y:Operand}{t u:TypeId}{dst:Option Nat}{K:St->Prop}:jY P ⟨.builtin .append,#[x,y],#[t,u]⟩ s dst K=mG P t u (ev s.tm x) (ev s.tm y) s dst K:=rfl
theorem XP{x:Operand}{t:TypeId}{dst:Option Nat}{K:St->Prop}:jY P ⟨.builtin .len,#[x],#[t]⟩ s dst K=fA s dst K (BA P s.st t (ev s.tm x)):=rfl
theorem XQ{x y:Operand}{ts:Array TypeId}{dst:Option Nat}{K:St->Prop}:jY P ⟨.builtin .max,#[x,y],ts⟩ s dst K=fA s dst K (sD true (ev s.tm x) (ev s.tm y)):=rfl
theorem XR{x y:Operand}{ts:Array TypeId}{dst:Option Nat}{K:St->Prop}:jY P ⟨.builtin .min,#[x,y],ts⟩ s dst K=fA s dst K (sD false (ev s.tm x) (ev s.tm y)):=rfl
theorem aa5{x:Operand}{t:TypeId}{tm:List (Nat×V)}:nval P S tm (.call ⟨.builtin .len,#[x],#[t]⟩)=BA P S t (ev tm x):=rfl
def lI(P:Program)(mode:Option Nat)(f:FuncId)(args:List V)(s:St)(dst:Option Nat)(K:St->Prop):Prop:=
 match mode with
 |some m=>BQ P m f args s dst K
 |none=>vL P f args s dst K
@[congr] theorem ahB {dr:Option Nat} {f:FuncId} {args args':List V} {s s':St} {dst:Option Nat} {K:St->Prop} (h1:args=args') (h2:s=s'):lI P dr f args s dst K=lI P dr f args' s' dst K:=by rw[h1,h2]
theorem aa6{f:Nat}{caps:List (Key×Nat)}{args:List V}{dst:Option Nat}{K:St->Prop}:Nj P (.c (.fn f caps)) args s dst K=lI P none f (args++yX caps) s dst K:=rfl
theorem aa7{m:Nat}{f:Nat}{caps:List (Key×Nat)}{args:List V}{dst:Option Nat}{K:St->Prop}:vP P m (.c (.fn f caps)) args s dst K=lI P (some m) f (args++yX caps) s dst K:=rfl
theorem aA{dr:Option Nat}{f:FuncId}{args:List V}{dst:Option Nat}{K:St->Prop}{r:V}(h:aF P f (args.map V.qC) r)(hK:K (s.put dst r)):lI P dr f args s dst K:=by
 cases dr with
 |none=>exact BO h hK
 |some m=>
  match m with
  |0=>exact⟨r,fun S=>(h S).qC,hK⟩
  |1=>exact⟨s.st,r,DS.refl _,BO h rfl,hK⟩
  |m+2=>exact⟨s.st,r,BO h rfl,hK⟩
def adF:Option Nat->Bool
 |none=>true
 |some m=>decide (2<=m)
theorem aQ{dr:Option Nat}{f:FuncId}{args:List V}{dst:Option Nat}{K:St->Prop}{r:V}{S1:Store}(hm:adF dr=true)(h:bL P f args s.st (fun r' S'=>r'=r/\S'=S1))(hK:K (St.put ⟨s.tm,S1⟩ dst r)):lI P dr f args s dst K:=by
 cases dr with
 |none=>exact .inl ⟨_,h,fun r' S' e=>by rw[e.1,e.2];exact hK⟩
 |some m=>
  match m,hm with
  |0,hm=>cases hm
  |1,hm=>cases hm
  |m+2,_=>exact⟨S1,r,.inl ⟨_,h,fun r' S' e=>by rw[e.1,e.2]⟩,hK⟩
theorem agl{f:FuncId}{args:List V}{dst:Option Nat}{K:St->Prop}{r:V}(h:Uo P f args r)(hK:K (St.put s dst r)):lI P none f args s dst K:=.inr ⟨r,h,hK⟩
def Fb(P:Program)(R:Array Oper)(os:List Oper)(K:St->Prop)(s:St):Prop:=yR P R os s K
def Fe(P:Program)(E:Md)(R:Array Oper)(os:List Oper)(K:St->Prop)(s:St):Prop:=qy P E R os s K
@[congr] theorem ahC {R:Array Oper} {os:List Oper} {s s':St} {K:St->Prop} (h2:s=s'):Fb P R os K s=Fb P R os K s':=by rw[h2]
@[congr] theorem ahD {R:Array Oper} {os:List Oper} {s s':St} {K:St->Prop} (h2:s=s'):Fe P E R os K s=Fe P E R os K s':=by rw[h2]
section
variable {tm:List (Nat×V)} {R:Array Oper} {o:Oper} {os:List Oper} {K:St->Prop}
theorem aa8:yR P R [] ⟨tm,S⟩ K=K ⟨tm,S⟩:=rfl
theorem XT:yR P R (o::os) ⟨tm,S⟩ K=qL P R o ⟨tm,S⟩ (Fb P R os K):=rfl
theorem XU:Fb P R [] K ⟨tm,S⟩=K ⟨tm,S⟩:=rfl
theorem UK:Fb P R (o::os) K ⟨tm,S⟩=qL P R o ⟨tm,S⟩ (Fb P R os K):=rfl
theorem aa9:qy P E R [] ⟨tm,S⟩ K=K ⟨tm,S⟩:=rfl
theorem XV:qy P E R (o::os) ⟨tm,S⟩ K=mH P E R o ⟨tm,S⟩ (Fe P E R os K):=rfl
theorem XW:Fe P E R [] K ⟨tm,S⟩=K ⟨tm,S⟩:=rfl
theorem UL:Fe P E R (o::os) K ⟨tm,S⟩=mH P E R o ⟨tm,S⟩ (Fe P E R os K):=rfl
end
section
variable {dst:Option Nat} {ty:TypeId} {pos:String} {after:Array Edge} {g:Option (Nat×Bool)} {K:St->Prop}
theorem Rm{t:TypeId}:fO P ⟨dst,.alloc t,ty,pos,after,g⟩ s K=bA P ⟨dst,.alloc t,ty,pos,after,g⟩ s K:=rfl
theorem XY{t:TypeId}{x:Operand}:fO P ⟨dst,.box t x,ty,pos,after,g⟩ s K=bA P ⟨dst,.box t x,ty,pos,after,g⟩ s K:=rfl
theorem Rn{t:TypeId}{a x:Operand}:fO P ⟨dst,.store t a x,ty,pos,after,g⟩ s K=bA P ⟨dst,.store t a x,ty,pos,after,g⟩ s K:=rfl
theorem UM{t:TypeId}{a x:Operand}:fO P ⟨dst,.makeSlice t a x,ty,pos,after,g⟩ s K=bA P ⟨dst,.makeSlice t a x,ty,pos,after,g⟩ s K:=rfl
theorem MP{t:TypeId}{r:Option Operand}:fO P ⟨dst,.makeMap t r,ty,pos,after,g⟩ s K=bA P ⟨dst,.makeMap t r,ty,pos,after,g⟩ s K:=rfl
theorem IJ{t:TypeId}{x k v:Operand}:fO P ⟨dst,.mapUpdate t x k v,ty,pos,after,g⟩ s K=bA P ⟨dst,.mapUpdate t x k v,ty,pos,after,g⟩ s K:=rfl
theorem OP{t:TypeId}{x i:Operand}{b:Bool}:fO P ⟨dst,.lookup t x i b,ty,pos,after,g⟩ s K=bA P ⟨dst,.lookup t x i b,ty,pos,after,g⟩ s K:=rfl
theorem UN{x:Operand}{as:Array Operand}{ts:Array TypeId}:fO P ⟨dst,.call ⟨.value x,as,ts⟩,ty,pos,after,g⟩ s K=bA P ⟨dst,.call ⟨.value x,as,ts⟩,ty,pos,after,g⟩ s K:=rfl
theorem XZ{as:Array Operand}{ts:Array TypeId}:fO P ⟨dst,.call ⟨.builtin .len,as,ts⟩,ty,pos,after,g⟩ s K=bA P ⟨dst,.call ⟨.builtin .len,as,ts⟩,ty,pos,after,g⟩ s K:=rfl
theorem X0{as:Array Operand}{ts:Array TypeId}:fO P ⟨dst,.call ⟨.builtin .max,as,ts⟩,ty,pos,after,g⟩ s K=bA P ⟨dst,.call ⟨.builtin .max,as,ts⟩,ty,pos,after,g⟩ s K:=rfl
theorem X3{as:Array Operand}{ts:Array TypeId}:fO P ⟨dst,.call ⟨.builtin .min,as,ts⟩,ty,pos,after,g⟩ s K=bA P ⟨dst,.call ⟨.builtin .min,as,ts⟩,ty,pos,after,g⟩ s K:=rfl
theorem UO{x:Operand}:fO P ⟨dst,.move x,ty,pos,after,g⟩ s K=bA P ⟨dst,.move x,ty,pos,after,g⟩ s K:=rfl
theorem OQ{x:Operand}:fO P ⟨dst,.assign x,ty,pos,after,g⟩ s K=bA P ⟨dst,.assign x,ty,pos,after,g⟩ s K:=rfl
theorem UQ{c a b:Operand}:fO P ⟨dst,.pick c a b,ty,pos,after,g⟩ s K=bA P ⟨dst,.pick c a b,ty,pos,after,g⟩ s K:=rfl
theorem UR{t:TypeId}{a:Operand}:fO P ⟨dst,.load t a,ty,pos,after,g⟩ s K=bA P ⟨dst,.load t a,ty,pos,after,g⟩ s K:=rfl
theorem IK{t:TypeId}{x:Operand}{f:Nat}:fO P ⟨dst,.fieldAddr t x f,ty,pos,after,g⟩ s K=bA P ⟨dst,.fieldAddr t x f,ty,pos,after,g⟩ s K:=rfl
theorem Ro{t:TypeId}{x:Operand}{f:Nat}:fO P ⟨dst,.field t x f,ty,pos,after,g⟩ s K=bA P ⟨dst,.field t x f,ty,pos,after,g⟩ s K:=rfl
theorem IL{t:TypeId}{x i:Operand}:fO P ⟨dst,.indexAddr t x i,ty,pos,after,g⟩ s K=bA P ⟨dst,.indexAddr t x i,ty,pos,after,g⟩ s K:=rfl
theorem Rp{t:TypeId}{x i:Operand}:fO P ⟨dst,.index t x i,ty,pos,after,g⟩ s K=bA P ⟨dst,.index t x i,ty,pos,after,g⟩ s K:=rfl
theorem Rq{op:BinOp}{t u:TypeId}{x y:Operand}:fO P ⟨dst,.binOp op t x y u,ty,pos,after,g⟩ s K=bA P ⟨dst,.binOp op t x y u,ty,pos,after,g⟩ s K:=rfl
theorem UU{op:UnOp}{t:TypeId}{x:Operand}:fO P ⟨dst,.unOp op t x,ty,pos,after,g⟩ s K=bA P ⟨dst,.unOp op t x,ty,pos,after,g⟩ s K:=rfl
theorem MQ{a b:TypeId}{x:Operand}:fO P ⟨dst,.convert a b x,ty,pos,after,g⟩ s K=bA P ⟨dst,.convert a b x,ty,pos,after,g⟩ s K:=rfl
theorem MR{x:Operand}{i:Nat}:fO P ⟨dst,.extract x i,ty,pos,after,g⟩ s K=bA P ⟨dst,.extract x i,ty,pos,after,g⟩ s K:=rfl
theorem KC{fn:Fn}{a b:Array Operand}:fO P ⟨dst,.makeFunc fn a b,ty,pos,after,g⟩ s K=bA P ⟨dst,.makeFunc fn a b,ty,pos,after,g⟩ s K:=rfl
theorem KD{x:Operand}:fO P ⟨dst,.nilCheck x,ty,pos,after,g⟩ s K=bA P ⟨dst,.nilCheck x,ty,pos,after,g⟩ s K:=rfl
theorem Rs{t:TypeId}{x:Operand}{lo hi mx:Option Operand}:fO P ⟨dst,.slice t x lo hi mx,ty,pos,after,g⟩ s K=bA P ⟨dst,.slice t x lo hi mx,ty,pos,after,g⟩ s K:=rfl
theorem Rt{t:TypeId}{parts:Array (Nat×Operand)}:fO P ⟨dst,.build t parts,ty,pos,after,g⟩ s K=bA P ⟨dst,.build t parts,ty,pos,after,g⟩ s K:=rfl
theorem OT{x y:Operand}{t u:TypeId}:fO P ⟨dst,.call ⟨.builtin .append,#[x,y],#[t,u]⟩,ty,pos,after,g⟩ s K=yB P t u (ev s.tm x) (ev s.tm y) s dst K:=rfl
theorem Gw{t:TypeId}{n:Nat}{parts:Array (Nat×Operand)}:fO P ⟨dst,.buildSlice t n parts,ty,pos,after,g⟩ s K=Dm P t s dst K (Ut s.st t) (jU P (mJ s.st) t n (LD s.tm parts.toList)):=rfl
theorem UW{t:TypeId}:bA P ⟨dst,.alloc t,ty,pos,after,g⟩ s K=qJ P t s dst K:=rfl
theorem abb{t:TypeId}{x:Operand}:bA P ⟨dst,.box t x,ty,pos,after,g⟩ s K=yP (ev s.tm x) s dst K:=rfl
theorem UY{t:TypeId}{a x:Operand}:bA P ⟨dst,.store t a x,ty,pos,after,g⟩ s K=qK P t (ev s.tm a) (ev s.tm x) s dst K:=rfl
theorem X4{t:TypeId}{a x:Operand}:bA P ⟨dst,.makeSlice t a x,ty,pos,after,g⟩ s K=uw P t (ev s.tm a) (ev s.tm x) s dst K:=rfl
theorem OU{t:TypeId}:bA P ⟨dst,.makeMap t none,ty,pos,after,g⟩ s K=qg s dst K:=rfl
theorem KE{t:TypeId}{x k v:Operand}:bA P ⟨dst,.mapUpdate t x k v,ty,pos,after,g⟩ s K=qh P t (ev s.tm x) (ev s.tm k) (ev s.tm v) s dst K:=rfl
theorem Ru{t:TypeId}{x i:Operand}:bA P ⟨dst,.lookup t x i false,ty,pos,after,g⟩ s K=fA s dst K (uZ P s.st t (ev s.tm x) (ev s.tm i)):=rfl
theorem MS{t:TypeId}:dP P E ⟨dst,.makeMap t none,ty,pos,after,g⟩ s K=qg s dst K:=rfl
theorem IQ{t:TypeId}{x k v:Operand}:dP P E ⟨dst,.mapUpdate t x k v,ty,pos,after,g⟩ s K=qh P t (ev s.tm x) (ev s.tm k) (ev s.tm v) s dst K:=rfl
theorem OV{t:TypeId}{x i:Operand}:dP P E ⟨dst,.lookup t x i false,ty,pos,after,g⟩ s K=fA s dst K (uZ P s.st t (ev s.tm x) (ev s.tm i)):=rfl
theorem X5{c:Call}:bA P ⟨dst,.call c,ty,pos,after,g⟩ s K=jY P c s dst K:=rfl
theorem X6{x:Operand}:bA P ⟨dst,.move x,ty,pos,after,g⟩ s K=K (s.put dst (ev s.tm x)):=by simp[bA,nval,kT]
theorem Rv{x:Operand}:bA P ⟨dst,.assign x,ty,pos,after,g⟩ s K=K (s.put dst (ev s.tm x)):=by simp[bA,nval,kT]
theorem X7{c a b:Operand}:bA P ⟨dst,.pick c a b,ty,pos,after,g⟩ s K=fA s dst K (ES (ev s.tm c) (ev s.tm a) (ev s.tm b)):=rfl
theorem X8{t:TypeId}{a:Operand}:bA P ⟨dst,.load t a,ty,pos,after,g⟩ s K=fA s dst K (xQ P s.st t (ev s.tm a)):=rfl
theorem KF{t:TypeId}{x:Operand}{f:Nat}:bA P ⟨dst,.fieldAddr t x f,ty,pos,after,g⟩ s K=fA s dst K (oV P s.st t (ev s.tm x) f):=rfl
theorem UZ{t:TypeId}{x:Operand}{f:Nat}:bA P ⟨dst,.field t x f,ty,pos,after,g⟩ s K=fA s dst K (AJ P t (ev s.tm x) f):=rfl
theorem KG{t:TypeId}{x i:Operand}:bA P ⟨dst,.indexAddr t x i,ty,pos,after,g⟩ s K=fA s dst K (oW P s.st t (ev s.tm x) (ev s.tm i)):=rfl
theorem U0{t:TypeId}{x i:Operand}:bA P ⟨dst,.index t x i,ty,pos,after,g⟩ s K=fA s dst K (AL P t (ev s.tm x) (ev s.tm i)):=rfl
theorem U1{op:BinOp}{t u:TypeId}{x y:Operand}:bA P ⟨dst,.binOp op t x y u,ty,pos,after,g⟩ s K=fA s dst K (Kn P op t (ev s.tm x) (ev s.tm y)):=rfl
theorem X9{op:UnOp}{t:TypeId}{x:Operand}:bA P ⟨dst,.unOp op t x,ty,pos,after,g⟩ s K=fA s dst K (SN op (ev s.tm x)):=rfl
theorem OW{a b:TypeId}{x:Operand}:bA P ⟨dst,.convert a b x,ty,pos,after,g⟩ s K=fA s dst K (EU P a b (ev s.tm x)):=rfl
theorem OX{x:Operand}{i:Nat}:bA P ⟨dst,.extract x i,ty,pos,after,g⟩ s K=fA s dst K (uY (ev s.tm x) i):=rfl
theorem MU{fn:Fn}{a b:Array Operand}:bA P ⟨dst,.makeFunc fn a b,ty,pos,after,g⟩ s K=fA s dst K (sS fn (AY s.tm a.toList) (AY s.tm b.toList)):=rfl
theorem MV{x:Operand}:bA P ⟨dst,.nilCheck x,ty,pos,after,g⟩ s K=fA s dst K (sU s.st (ev s.tm x)):=rfl
theorem U2{t:TypeId}{x:Operand}{lo hi mx:Option Operand}:bA P ⟨dst,.slice t x lo hi mx,ty,pos,after,g⟩ s K=fA s dst K (AO P t (ev s.tm x) (LC s.tm lo) (LC s.tm hi) (LC s.tm mx)):=rfl
theorem U3{t:TypeId}{parts:Array (Nat×Operand)}:bA P ⟨dst,.build t parts,ty,pos,after,g⟩ s K=fA s dst K (AP P t (LD s.tm parts.toList)):=rfl
theorem IU{t:TypeId}{n:Nat}{parts:Array (Nat×Operand)}:bA P ⟨dst,.buildSlice t n parts,ty,pos,after,g⟩ s K=fA s dst K (jU P (mJ s.st) t n (LD s.tm parts.toList)):=rfl
theorem Rw{t:TypeId}:dP P E ⟨dst,.alloc t,ty,pos,after,g⟩ s K=qJ P t s dst K:=rfl
theorem Ya{t:TypeId}{x:Operand}:dP P E ⟨dst,.box t x,ty,pos,after,g⟩ s K=yP (ev s.tm x) s dst K:=rfl
theorem Rx{t:TypeId}{a x:Operand}:dP P E ⟨dst,.store t a x,ty,pos,after,g⟩ s K=qK P t (ev s.tm a) (ev s.tm x) s dst K:=rfl
theorem U4{t:TypeId}{a x:Operand}:dP P E ⟨dst,.makeSlice t a x,ty,pos,after,g⟩ s K=uw P t (ev s.tm a) (ev s.tm x) s dst K:=rfl
theorem OY{x y:Operand}{t u:TypeId}:dP P E ⟨dst,.call ⟨.builtin .append,#[x,y],#[t,u]⟩,ty,pos,after,g⟩ s K=Dq P (E (.call ⟨.builtin .append,#[x,y],#[t,u]⟩)) t u (ev s.tm x) (ev s.tm y) s dst K:=rfl
theorem U5{x:Operand}:dP P E ⟨dst,.move x,ty,pos,after,g⟩ s K=K (s.put dst (ev s.tm x)):=by simp[dP,nL,nval,kT]
theorem OZ{x:Operand}:dP P E ⟨dst,.assign x,ty,pos,after,g⟩ s K=K (s.put dst (ev s.tm x)):=by simp[dP,nL,nval,kT]
theorem U6{c a b:Operand}:dP P E ⟨dst,.pick c a b,ty,pos,after,g⟩ s K=fA s dst K (ES (ev s.tm c) (ev s.tm a) (ev s.tm b)):=rfl
theorem U7{t:TypeId}{a:Operand}:dP P E ⟨dst,.load t a,ty,pos,after,g⟩ s K=fA s dst K (xQ P s.st t (ev s.tm a)):=rfl
theorem IV{t:TypeId}{x:Operand}{f:Nat}:dP P E ⟨dst,.fieldAddr t x f,ty,pos,after,g⟩ s K=fA s dst K (oV P s.st t (ev s.tm x) f):=rfl
theorem Ry{t:TypeId}{x:Operand}{f:Nat}:dP P E ⟨dst,.field t x f,ty,pos,after,g⟩ s K=fA s dst K (AJ P t (ev s.tm x) f):=rfl
theorem IW{t:TypeId}{x i:Operand}:dP P E ⟨dst,.indexAddr t x i,ty,pos,after,g⟩ s K=fA s dst K (oW P s.st t (ev s.tm x) (ev s.tm i)):=rfl
theorem Rz{t:TypeId}{x i:Operand}:dP P E ⟨dst,.index t x i,ty,pos,after,g⟩ s K=fA s dst K (AL P t (ev s.tm x) (ev s.tm i)):=rfl
theorem RA{op:BinOp}{t u:TypeId}{x y:Operand}:dP P E ⟨dst,.binOp op t x y u,ty,pos,after,g⟩ s K=fA s dst K (Kn P op t (ev s.tm x) (ev s.tm y)):=rfl
theorem U8{op:UnOp}{t:TypeId}{x:Operand}:dP P E ⟨dst,.unOp op t x,ty,pos,after,g⟩ s K=fA s dst K (SN op (ev s.tm x)):=rfl
theorem MW{a b:TypeId}{x:Operand}:dP P E ⟨dst,.convert a b x,ty,pos,after,g⟩ s K=fA s dst K (EU P a b (ev s.tm x)):=rfl
theorem MX{x:Operand}{i:Nat}:dP P E ⟨dst,.extract x i,ty,pos,after,g⟩ s K=fA s dst K (uY (ev s.tm x) i):=rfl
theorem KH{fn:Fn}{a b:Array Operand}:dP P E ⟨dst,.makeFunc fn a b,ty,pos,after,g⟩ s K=fA s dst K (sS fn (AY s.tm a.toList) (AY s.tm b.toList)):=rfl
theorem KI{x:Operand}:dP P E ⟨dst,.nilCheck x,ty,pos,after,g⟩ s K=fA s dst K (sU s.st (ev s.tm x)):=rfl
theorem RB{t:TypeId}{x:Operand}{lo hi mx:Option Operand}:dP P E ⟨dst,.slice t x lo hi mx,ty,pos,after,g⟩ s K=fA s dst K (AO P t (ev s.tm x) (LC s.tm lo) (LC s.tm hi) (LC s.tm mx)):=rfl
theorem RD{t:TypeId}{parts:Array (Nat×Operand)}:dP P E ⟨dst,.build t parts,ty,pos,after,g⟩ s K=fA s dst K (AP P t (LD s.tm parts.toList)):=rfl
theorem Gx{t:TypeId}{n:Nat}{parts:Array (Nat×Operand)}:dP P E ⟨dst,.buildSlice t n parts,ty,pos,after,g⟩ s K=fA s dst K (jU P (mJ s.st) t n (LD s.tm parts.toList)):=rfl
theorem Yb{args:Array Operand}{ts:Array TypeId}:dP P E ⟨dst,.call ⟨.builtin .len,args,ts⟩,ty,pos,after,g⟩ s K=fA s dst K (nval P s.st s.tm (.call ⟨.builtin .len,args,ts⟩)):=rfl
theorem Yc{x y:Operand}{ts:Array TypeId}:dP P E ⟨dst,.call ⟨.builtin .max,#[x,y],ts⟩,ty,pos,after,g⟩ s K=fA s dst K (sD true (ev s.tm x) (ev s.tm y)):=rfl
theorem Yd{x y:Operand}{ts:Array TypeId}:dP P E ⟨dst,.call ⟨.builtin .min,#[x,y],ts⟩,ty,pos,after,g⟩ s K=fA s dst K (sD false (ev s.tm x) (ev s.tm y)):=rfl
theorem U9{x:Operand}{args:Array Operand}{ts:Array TypeId}:dP P E ⟨dst,.call ⟨.value x,args,ts⟩,ty,pos,after,g⟩ s K=vP P (E (.call ⟨.value x,args,ts⟩)) (ev s.tm x) (AY s.tm args.toList) s dst K:=by
 simp only[dP,nL];generalize E (.call ⟨.value x,args,ts⟩)=m
 match m with
 |0=>
  simp only[BJ];generalize ev s.tm x=fv
  cases fv with
  |c x=>cases x<;>simp[vP,BQ,yX,AY]
  |_=>simp[vP]
 |1=>
  simp only[bA,jY];generalize ev s.tm x=fv
  cases fv with
  |c x=>cases x<;>simp[vP,BQ,yX,AY]
  |_=>simp[vP]
 |m+2=>
  simp only[bA,jY];generalize ev s.tm x=fv
  cases fv with
  |c x=>cases x<;>simp[vP,BQ,yX,AY]
  |_=>simp[vP]
end
def xX(v:V)(A B:St->Prop)(s:St):Prop:=
 match v with
 | .c (.d (.b x))=>Split x A B s
 |_=>False
def CW(P:Program)(N:Nat):Code->(Exit->St->Prop)->St->Prop
 | .seq x y,Q,s=>CW P N x (kU (CW P N y Q) Q) s
 | .region _ R false,Q,s=>yR P R R.toList s (Q .normal)
 | .region _ R true,Q,s=>qy P (Iq R N) R R.toList s (Q .normal)
 | .cond c x y,Q,s=>xX (ev s.tm c) (CW P N x Q) (CW P N y Q) s
 | .block id c,Q,s=>CW P N c (uF id Q) s
 | .exit id,Q,s=>Q (.exit id) s
 | .ret,Q,s=>Q .ret s
 | .skip,Q,s=>Q .normal s
 | .loop c,Q,s=>AW P N (.loop c) Q s
 |_,_,_=>False
def ahZ(N:Nat)(R:Array Oper):Bool:=R.toList.all (fun o=>match o.dst with|some d=>decide (d<N)|none=>true)
def codeOk(N:Nat):Code->Bool
 | .seq x y=>codeOk N x&&codeOk N y
 | .region _ R false=>ahZ N R
 | .region _ R true=>Kz R N
 | .cond _ x y=>codeOk N x&&codeOk N y
 | .block _ c=>codeOk N c
 | .loop c=>codeOk N c
 |_=>true
theorem iV(dZ:P.follows .mixedOrders=true):∀(c:Code)(Q:Exit->St->Prop)(s:St),codeOk N c=true->CW P N c Q s->AW P N c Q s
 | .seq x y,Q,s,ok,h=>by
   simp only[codeOk,af] at ok;refine Il (AW.mono (iV dZ x _ s ok.1 h) fun e s' h'=> ?_)
   cases e with
   |normal=>exact iV dZ y Q s' ok.2 h'
   |_=>exact h'
 | .region _ R false,Q,s,ok,h=>XA ok h
 | .region _ R true,Q,s,ok,h=>UC dZ ok h
 | .cond c x y,Q,s,ok,h=>by
   simp only[codeOk,af] at ok;simp only[CW,xX] at h;split at h
   ·rename_i b hb;exact S9 hb (fun e=>iV dZ x Q s ok.1 (h.1 e)) (fun e=>iV dZ y Q s ok.2 (h.2 e))
   ·exact h.elim
 | .block id c,Q,s,ok,h=>Oq (iV dZ c _ s ok h)
 | .exit id,Q,s,ok,h=>aec h
 | .ret,Q,s,ok,h=>afZ h
 | .skip,Q,s,ok,h=>aeb h
 | .loop c,Q,s,ok,h=>h
 | .rangeFunc _ _ _ _,Q,s,ok,h=>h.elim
 | .scope _,Q,s,ok,h=>h.elim
 | .label _,Q,s,ok,h=>h.elim
 | .goto _,Q,s,ok,h=>h.elim
 | .refuse _,Q,s,ok,h=>h.elim
theorem agm{x y:Code}{Q:Exit->St->Prop}:CW P N (.seq x y) Q s=CW P N x (kU (CW P N y Q) Q) s:=by rw[CW]
theorem Ye{id:Nat}{l:List Oper}{Q:Exit->St->Prop}:CW P N (.region id ⟨l⟩ false) Q s=yR P ⟨l⟩ l s (Q .normal):=by rw[CW]
theorem aeu{id:Nat}{l:List Oper}{Q:Exit->St->Prop}:CW P N (.region id ⟨l⟩ true) Q s=qy P (Iq ⟨l⟩ N) ⟨l⟩ l s (Q .normal):=by rw[CW]
theorem aev{c:Operand}{x y:Code}{Q:Exit->St->Prop}:CW P N (.cond c x y) Q s=xX (ev s.tm c) (CW P N x Q) (CW P N y Q) s:=by rw[CW]
theorem abd{id:Nat}{c:Code}{Q:Exit->St->Prop}:CW P N (.block id c) Q s=CW P N c (uF id Q) s:=by rw[CW]
theorem aew{id:Nat}{Q:Exit->St->Prop}:CW P N (.exit id) Q s=Q (.exit id) s:=by rw[CW]
theorem agn{Q:Exit->St->Prop}:CW P N .ret Q s=Q .ret s:=by rw[CW]
theorem aex{Q:Exit->St->Prop}:CW P N .skip Q s=Q .normal s:=by rw[CW]
theorem Tg{c:Code}{Q:Exit->St->Prop}:CW P N (.loop c) Q s=AW P N (.loop c) Q s:=by rw[CW]
theorem O0{K:St->Prop}{Q:Exit->St->Prop}:kU K Q .normal s=K s:=rfl
theorem Yf{K:St->Prop}{Q:Exit->St->Prop}:kU K Q .ret s=Q .ret s:=rfl
theorem Va{K:St->Prop}{Q:Exit->St->Prop}{i:Nat}:kU K Q (.exit i) s=Q (.exit i) s:=rfl
theorem O1{id:Nat}{Q:Exit->St->Prop}:uF id Q .normal s=Q .normal s:=rfl
theorem Yg{id:Nat}{Q:Exit->St->Prop}:uF id Q .ret s=Q .ret s:=rfl
theorem Vb{id i:Nat}{Q:Exit->St->Prop}:uF id Q (.exit i) s=if i=id then Q .normal s else Q (.exit i) s:=rfl
def abe(post:V->Store->Prop)(s:St)(r:R):Prop:=r.1/\match r.2.ret with
 |some v=>post v (eX s.st)
 |none=>False
theorem aey{post:V->Store->Prop}{p:Prop}{v:V}:abe post s (p,v)=(p/\match v.ret with
 |some v=>post v (eX s.st)
 |none=>False):=rfl
def Vd(P:Program)(rs:List ResultVar)(post:V->Store->Prop)(e:Exit)(s:St):Prop:=aav P rs post e (AX s)
def O3(P:Program)(rs:List ResultVar)(post:V->Store->Prop)(s:St):Prop:=abe post s (lY P rs s)
theorem abf{rs:List ResultVar}{post:V->Store->Prop}:Vd P rs post .ret s=O3 P rs post (AX s):=rfl
theorem RF{rs:List ResultVar}{post:V->Store->Prop}:Vd P rs post .normal s=O3 P rs post (AX s):=rfl
theorem aez{rs:List ResultVar}{post:V->Store->Prop}{tm:List (Nat×V)}:O3 P rs post ⟨tm,S⟩=abe post ⟨tm,S⟩ (lY P rs ⟨tm,S⟩):=rfl
def agp(j:Nat)(es:List (List D))(tm:List (Nat×V)):List (Nat×V):=tm.map fun x=>(x.1,x.2.kR j es)
theorem Yh{j:Nat}{es:List (List D)}{tm:List (Nat×V)}{t:Nat}:look (agp j es tm) t=(look tm t).kR j es:=vw (f:=V.kR j es) rfl tm t
def agq(j:Nat)(tm:List (Nat×V))(own:List Obj)(Ω:Store):Option Obj->St
 |some (.bU _ es)=>⟨agp j es tm,(own.map (Obj.kR j es)).set j .dead::Ω⟩
 |_=>⟨tm,own::Ω⟩
theorem abg{j:Nat}{tm:List (Nat×V)}{own:List Obj}{Ω:Store}:IE j ⟨tm,own::Ω⟩=agq j tm own Ω (own[j]?):=by
 unfold IE
 simp only
 generalize own[j]? =o
 cases o with
 |none=>rfl
 |some o=>cases o<;>rfl
theorem Yi{tm:List (Nat×V)}{own:List Obj}{Ω:Store}:AX ⟨tm,own::Ω⟩=IG own.length ⟨tm,own::Ω⟩:=rfl
theorem aC{f:FuncId}{fn:Func}{c:Code}{args:List V}{post:V->Store->Prop}{rs:List ResultVar}(dZ:P.follows .mixedOrders=true)(hf:P.funcs[f]? =some fn)(hN:fn.ntmps=N)
 (hb:fn.body=some c) (hn:(fn.name== "runtime.NumGoroutine")=false) (hr:fn.results.toList=rs) (hl:Nat.ble args.length N=true) (hok:codeOk N c=true)
 (h:CW P N c (Vd P rs post) ⟨jR (args.map (V.up 1)) 0,[]::S⟩):bL P f args S post:=by
 subst hN;subst hr;exact vM hf hb hn (cX hl) (II Dy (iV dZ c _ _ hok h))
end
end Go.Ab