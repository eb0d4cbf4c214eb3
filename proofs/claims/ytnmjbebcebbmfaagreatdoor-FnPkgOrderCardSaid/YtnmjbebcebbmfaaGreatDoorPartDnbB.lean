/-
  SEVERAL TEXTS IN ONE (merged by program): contracts and models, each with its own heading.
-/
import Derived.Test.YtnmjbebcebbmfaaGreatDoorPartDnbA
import Derived.LoopN
import Derived.StillTail
set_option linter.unusedSimpArgs false
set_option linter.unusedVariables false
namespace Go.Ab
def rowIs(t:TypeId):Bool:=t==63||t==67||t==75||t==74
def Eu(o:Option Obj)(t:TypeId):Bool:=match o with
 |some (.xf [])=>rowIs t
 |_=>false
def adW(S:Store)(t:TypeId):Bool:=Eu (bC S (0,0)) t
def LZ(P:Program)(t:TypeId)(s:St)(dst:Option Nat)(K:St->Prop)(b:Bool)(r:R):Prop:=
 match b,r with
 |false,r=>r.1/\K (s.put dst r.2)
 |true,(p,.c (.bH es))=>match P.underlying t with
  |some (.slice e)=>p/\newObj s dst (.fM (P.cellsOf e) es) (fun k=>.c (.jO k)) K
  |_=>False
 |true,_=>False
def Jy(P:Program)(t u:TypeId)(k:Key)(y:V)(s:St)(dst:Option Nat)(K:St->Prop):Prop:=
 match P.underlying t,X7 P u y,bC s.st k with
 |some (.slice e),some ys,some (.fM bB es)=>bB=P.cellsOf e/\(∀y∈ys,y.length=P.cellsOf e)/\P.bytesOf e<=4096/\(∃zs,j5 P e=some zs/\zs.length=P.cellsOf e)/\es.length+ys.length<=1073741824/\
   newObj ⟨s.tm,bA s.st k .dead⟩ dst (.fM bB (es++ys)) (fun k=>.c (.jO k)) K
 |_,_,_=>False
def FR(P:Program)(t u:TypeId)(x y:V)(s:St)(dst:Option Nat)(K:St->Prop):Prop:=
 match x with
 | .c (.jO k)=>Jy P t u k y s dst K
 |x=>vK P t u x y s dst K
def jv(P:Program)(o:Oper)(s:St)(K:St->Prop):Prop:=
 match o.op with
 | .call {callee:=.builtin .append,args:=Bu,argTypes:=ts}=>match Bu.toList,ts.toList with
   |[x,y],[t,u]=>FR P t u (ev s.tm x) (ev s.tm y) s o.dst K
   |_,_=>False
 | .buildSlice t n parts=>LZ P t s o.dst K (adW s.st t) (nval P s.st s.tm (.buildSlice t n parts))
 |_=>dP P o s K
section
variable {P:Program} {w w':World} {σ σ':Nat->Nat} {S:Store} {β β':Hs} {N:Nat} {s:St} {a:Act}
theorem fC.lay{own:List Obj}{Ω:Store}{bo:List Value}{bΩ:Hs}{o:Obj}{h:Value}(hS:fC w σ (own::Ω) (bo::bΩ))(hlen:bo.length=own.length)
 (ho:iI w σ ((own++[o])::Ω) ((bo++[h])::bΩ) o h)(hb:∀b,owns o h b->¬Own (own::Ω) (bo::bΩ) b):
 fC w σ ((own++[o])::Ω) ((bo++[h])::bΩ)/\Keep (own::Ω) (bo::bΩ) ((own++[o])::Ω) ((bo++[h])::bΩ)/\∀b,Own ((own++[o])::Ω) ((bo++[h])::bΩ) b->Own (own::Ω) (bo::bΩ) b\/owns o h b:=by
 have hkeep:Keep (own::Ω) (bo::bΩ) ((own++[o])::Ω) ((bo++[h])::bΩ):=by
  intro k o1 h1;obtain⟨h2,zx,_⟩:=hS.obj k o1 h1;exact⟨o1,lD _ _ _ _ _ h1,by rw[lD _ _ _ _ _ zx,zx];exact .refl _ _⟩
 have hinv:∀k o1 h1,bC ((own++[o])::Ω) k=some o1->bC ((bo++[h])::bΩ) k=some h1->
  (bC (own::Ω) k=some o1/\bC (bo::bΩ) k=some h1)\/(k=(0,own.length)/\o1=o/\h1=h):=by
  intro k o1 h1 e1 e2;rcases nI _ _ _ _ _ e1 with e1|⟨rfl,rfl⟩
  ·left;refine⟨e1,?_⟩;rcases nI _ _ _ _ _ e2 with e2|⟨rfl,rfl⟩
   ·exact e2
   ·rw[bM,hlen] at e1;have:=(ap.1 e1).1;omega
  ·right;rw[<-hlen,dw] at e2;exact⟨rfl,rfl,(cL e2).symm⟩
 refine⟨⟨?_,?_,⟨?_,?_⟩,hS.live,hS.vH⟩,hkeep,?_⟩
 ·intro k o1 h1;rcases nI _ _ _ _ _ h1 with h1|⟨rfl,rfl⟩
  ·obtain⟨h2,zx,hr⟩:=hS.obj k o1 h1;exact⟨h2,lD _ _ _ _ _ zx,hr.mono (eH.refl _ _) (hkeep.drop _) fun b hb=>⟨rfl,rfl⟩⟩
  ·exact⟨h,by rw[<-hlen,dw],ho⟩
 ·intro k k' o1 o2 h1 h2 b e1 e2 e3 e4 e5 e6;rcases hinv k o1 h1 e1 e2 with⟨f1,f2⟩|⟨rfl,rfl,rfl⟩
  ·rcases hinv k' o2 h2 e4 e5 with⟨g1,g2⟩|⟨rfl,rfl,rfl⟩
   ·exact hS.apart _ _ _ _ _ _ _ f1 f2 e3 g1 g2 e6
   ·exact absurd ⟨k,o1,h1,f1,f2,e3⟩ (hb b e6)
  ·rcases hinv k' o2 h2 e4 e5 with⟨g1,g2⟩|⟨rfl,rfl,rfl⟩
   ·exact absurd ⟨k',o2,h2,g1,g2,e6⟩ (hb b e3)
   ·rfl
 ·have:=hS.shape.1;simpa using this
 ·intro l fr hl
  cases l with
  |zero=>
   simp at hl;exact⟨_,rfl,by rw[<-hl];simp[hlen]⟩
  |succ l=>exact hS.shape.2 (l+1) fr hl
 ·rintro b ⟨k,o1,h1,e1,e2,e3⟩;rcases hinv k o1 h1 e1 e2 with⟨f1,f2⟩|⟨rfl,rfl,rfl⟩
  ·exact .inl ⟨k,o1,h1,f1,f2,e3⟩
  ·exact .inr e3
theorem adX{t u ty e:TypeId}{sv:Value}{size:Nat}{es ys:List (List D)}{yv:Value}(hl:∀b,b<w.heap.size\/σ b=0)
 (ht:P.underlying t=some (.slice e))(hu:QT P u)(hz:∃zs,j5 P e=some zs/\zs.length=size)(hsize:P.cellsOf e=size)(hb:P.bytesOf e<=4096)
 (hs:iI w σ S β (.fM size es) sv)(hy:DK P w σ size ys yv)(hlen:es.length+ys.length<=1073741824):
 ∃r w',(Builtin.append_ #[t,u] ty #[sv,yv]).run P w=.ok r w'/\(∀S' β',iI w' σ S' β' (.fM size (es++ys)) r)/\w.heap.size<=w'.heap.size/\w'.os=w.os/\w'.output=w.output/\
  eH w σ w' σ/\(∀b,b<w'.heap.size\/σ b=0)/\(∀b,b<w.heap.size->¬owns (.fM size es) sv b->w'.heap[b]? =w.heap[b]?)/\
  (∀b,owns (.fM size (es++ys)) r b->owns (.fM size es) sv b\/w.heap.size<=b)/\r.oneCell'=true:=by
 obtain⟨zs,hzs,hzl⟩:=hz;obtain⟨z,zI,hzc⟩:=yh (w:=w) (σ:=σ) (S:=S) (β:=β) hzs
 have LW:z.cells.size=size:=by have:=hzc.1;simp at this;omega
 have hex:∃info,P.info? e=some info/\info.zero=some z:=by
  unfold j5 at hzs
  cases hi:P.info? e with
  |none=>rw[hi] at hzs;cases hzs
  |some i=>
   refine⟨i,rfl,?_⟩
   cases hz:i.zero with
   |none=>rw[hi] at hzs;simp[hz] at hzs
   |some z'=>
    have:(zeroValue e).run P w=.ok z' w:=by simp[zeroValue,typeInfo,hi,hz]
    rw[zI] at this;cases this;rfl
 obtain⟨info,hi,hiz⟩:=hex
 have hib:info.bytes=P.bytesOf e:=by simp[Program.bytesOf,hi]
 have his:info.size=size:=by rw[<-hsize];simp[Program.cellsOf,hi]
 have hs0:=hs;obtain⟨hle,base,sCap,rfl,hcap,h4⟩:=hs;obtain⟨hyl,hys,ya,QV,X4,hyd⟩:=hy w rfl;have hall:∀x∈es++ys,x.length=size:=fun x hx=>(dm.1 hx).elim (hle x) (hys x);have hfl:es.flatten.length=es.length*size:=iT es size hle;have hfy:ys.flatten.length=ys.length*size:=iT ys size hys;have hlen':(es++ys).length=es.length+ys.length:=ae
 have hone:∀v∈ya.toList,v.oneCell'=true:=fun v hv=>by
  obtain⟨j,hj⟩:=em hv;have hjl:=(ap.1 hj).1;simp at hjl;obtain⟨v',hv',hr⟩:=hyd j _ (am gA);rw[cm] at hj;rw[hj] at hv';cases hv';exact hr.one
 by_cases hn0:ys.length=0
 ·have ajO:ys=[]:=bz hn0;subst ajO
  have hya:ya= #[]:=by simpa using X4
  subst hya;refine⟨_,w,LU ht hu hi hyl (by rw[his];exact QV) hcap,fun S' β'=> ?_,ax _,rfl,rfl,eH.refl _ _,hl,fun b _ _=>rfl,fun b hb=>.inl (by simpa using hb),rfl⟩;rw[bm];exact hs0
 by_cases hroom:es.length+ys.length<=sCap
 ·have hc0:sCap≠0:=gA
  obtain⟨b,c,ct,rfl,hbc,hσ,hfit,hcells⟩:=h4.resolve_left hc0
  have hmul:es.length*size+ys.length*size<=sCap*size:=by rw[<-cS];exact cx _ hroom
  have hrun:=Gc (P:=P) (ty:=ty) (b:=b) (off:=0) ht hu hi hyl (by rw[his];exact QV) hroom hbc (by rw[his,X4];omega) hone;rw[his,cG] at hrun;generalize hc2:(c.toList.take (es.length*size)++ya.toList++c.toList.drop (es.length*size+ya.size)).toArray=c2 at hrun
  have Gb:c2.size=c.size:=by rw[<-hc2];simp;omega
  have hheap:(w.setRow b c2).heap[b]? =some (.cells c2 ct (0,0)):=setRow_heap w b c c2 ct (0,0) hbc
  have hlow:∀i,i<es.length*size->c2[i]? =c[i]? :=fun i hi=>by
   rw[<-hc2,dc,cf,aq gR,ck hi,cm]
  have hmid:∀j,j<ya.size->c2[es.length*size+j]? =ya[j]? :=fun j hj=>by
   rw[<-hc2,dc,aq gR,ag gR,<-cm];congr 1;simp;omega
  have hn:eH w σ (w.setRow b c2) σ:=by
   intro b1 c1 t1 DJ e1;refine⟨ax _,fun _=>rfl,?_⟩;by_cases hb1:b1=b
   ·subst hb1;rw[hbc] at e1;cases e1;exact⟨c2,hheap,Gb,fun i hi=>gA⟩
   ·exact⟨c1,(gW w b c2 b1 hb1).trans e1,rfl,fun _ _=>rfl⟩
  refine⟨_,_,hrun,fun S' β'=>⟨hall,_,sCap,by rw[hlen'],gA,.inr ⟨b,c2,ct,rfl,hheap,hσ,gA,fun j d hj=> ?_⟩⟩,by rw[setRow_size];exact ax _,rfl,rfl,hn,fun x=>by rw[setRow_size];exact hl x,fun x hx hne=> ?_,fun x hx=>.inl ?_,rfl⟩
  ·rw[cV] at hj;by_cases hjl:j<es.length*size
   ·rw[aq gA] at hj;obtain⟨v,hv,hr⟩:=hcells j d hj;exact⟨v,by rw[hlow j hjl];exact hv,hr.mono hn⟩
   ·rw[ag gA,hfl] at hj;obtain⟨v,hv,hr⟩:=hyd _ d hj;have hlt:=(bj.1 hv).1;refine⟨v,?_,hr.mono hn⟩;rw[<-hv,<-hmid _ hlt];congr 1;omega
  ·exact gW _ _ _ _ fun e=>hne (by simp[owns,blk,hc0,e])
  ·simpa [owns,blk] using hx
 ·obtain⟨aqi,_,QW,X5,QX,X6⟩:=hy w.drew rfl
  obtain⟨oa,hor,LX,hod⟩:∃oa:Array Value,(Builtin.firstCells size es.length (.slice base es.length sCap)).run P w.drew=.ok oa w.drew/\oa.size=es.length*size/\∀(j:Nat)(d:D),es.flatten[j]? =some d->∃v,oa[j]? =some v/\dO w σ d v:=by
   rcases h4 with h0|⟨b,c,ct,rfl,hbc,hσ,hfit,hcells⟩
   ·have he:es=[]:=bz gA;subst he;refine⟨#[],?_,gL,fun j d hj=>by simp at hj⟩
    cases base with
    |none=>rfl
    |some b=>simp[Builtin.firstCells,loadCells,loadCellsFrom]
   ·have hm:es.length*size<=sCap*size:=cx _ hcap;have hbc':w.drew.heap[b]? =some (.cells c ct (0,0)):=hbc;have hex:∀j,j<es.length*size->∃v,c[0+j]? =some v:=fun j hj=>⟨c[0+j]' gA,cq gA⟩;obtain⟨hpl,hpv⟩:=DI c 0 (es.length*size) hex;refine⟨_,yg (a:=⟨b,0,none⟩) rfl hbc' _ hex,by simpa using hpl,fun j d hj=> ?_⟩;obtain⟨v,hv,hr⟩:=hcells j d hj;have hjl:=(ap.1 hj).1;refine⟨v,?_,hr⟩;rw[dc,hpv j gA,cG];exact hv
  obtain⟨cap,rest,NS,hrest,hrun⟩:=Gd (P:=P) (ty:=ty) (base:=base) (sCap:=sCap) ht hu hi hiz hyl (by rw[his];exact X5) (by rw[his];exact hor) gA hlen (by rw[hib];exact hb)
  let w':World:={w.drew with heap:=w.heap.push (.cells (oa++QW++rest) e)}
  have hn:eH w σ w' σ:=by
   intro b1 c1 t1 DJ e1
   have hne:b1≠w.heap.size:=by have:=lt_of_some e1;omega
   refine⟨ax _,fun _=>rfl,c1,?_,rfl,fun _ _=>rfl⟩;simp only[w'];rw[dj,if_neg hne];exact e1
  have hn':eH w.drew σ w' σ:=hn
  have hheap:w'.heap[w.heap.size]? =some (.cells (oa++QW++rest) e (0,0)):=by simp[w']
  have Yd:σ w.heap.size=0:=by
   rcases hl w.heap.size with h|h
   ·omega
   ·exact h
  refine⟨_,w',hrun,fun S' β'=>⟨hall,_,cap,by rw[hlen'],gA,.inr ⟨w.heap.size,_,e,rfl,hheap,Yd,?_,fun j d hj=> ?_⟩⟩,by simp[w'],rfl,rfl,hn,fun x=> ?_,fun x hx _=> ?_,fun x hx=>.inr ?_,rfl⟩
  ·simp only[Array.size_append,LX,QX,hrest,LW];rw[<-cS,<-cS];exact cx _ gA
  ·rw[cV] at hj;by_cases hjl:j<es.length*size
   ·rw[aq gA] at hj;obtain⟨v,hv,hr⟩:=hod j d hj;refine⟨v,?_,hr.mono hn⟩;rw[fg,cU gA];exact hv
   ·rw[ag gA,hfl] at hj;obtain⟨v,hv,hr⟩:=X6 _ d hj;have hlt:=(bj.1 hv).1;refine⟨v,?_,hr.mono hn'⟩;rw[fg,fY gA,LX,cU gA];exact hv
  ·simp only[w',gl];exact(hl x).imp (fun h=>gA) id
  ·have hne:x≠w.heap.size:=gA
   simp only[w'];rw[dj,if_neg hne]
  ·simp only[owns,blk] at hx;split at hx
   ·cases hx
   ·cases hx;exact ax _
theorem Yf{o:Oper}{K:St->Prop}{Q:Exit->Act->World->Prop}{t u:TypeId}{x y:Operand}{k:Key}(hrun:∀r w',(Builtin.append_ #[t,u] o.type #[a.eval x,a.eval y]).run P w=.ok r w'->(execOp a.eval o).run P w=.ok (.value r) w')
 (hd:∀d,o.dst=some d->d<N)(hR:lU N s a w σ β)(hx:ev s.tm x=.c (.jO k))(h:Jy P t u k (ev s.tm y) s o.dst K):o.wp P a w (Then N s.st β σ w K) Q:=by
 have hxr:=lK hR.T x;have QV:=lK hR.T y;rw[hx] at hxr;unfold Jy at h;split at h
 ·rename_i e ys bB es ht hsrc hk;obtain⟨rfl,h1,h2,h3,h5,h6⟩:=h;obtain⟨hu,hsa⟩:=Ya hsrc QV h1;obtain⟨⟨ob,ho,adU⟩,hone⟩:=hxr;rw[hk] at ho;cases ho;have hβ:=adU _ _ rfl;obtain⟨hh,hb,IZ⟩:=hR.S.obj k _ hk;rw[hβ] at hb;cases hb;obtain⟨r,w',hr,hro,hsz,hos,hout,hn,hl,vJ,hbk,h1c⟩:=adX (P:=P) (ty:=o.type) hR.S.live ht hu h3 rfl h2 IZ hsa h5;obtain⟨hS1,hk1,Ev⟩:=hR.S.set (o':=.dead) (h':=a.eval x) hk hβ hsz hos hout hn hl (fun b h1 h2=>⟨vJ b h1 h2,rfl⟩) (.inl rfl) trivial (fun b hb=>by cases hb);have e1:bA β k (a.eval x)=β:=Ao (a.eval x) _ _ _ hβ;rw[e1] at hS1 hk1 Ev;obtain⟨tm,st⟩:=s;have hsh:=hS1.shape
  cases hst:bA st k Obj.dead with
  |nil=>simp only[newObj,hst] at h6
  |cons own Ω=>
   simp only[newObj,hst] at h6
   have ajP:fC w' σ (own::Ω) β:=by rw[<-hst];exact hS1
   have hfr:∃bo bΩ,β=bo::bΩ/\bo.length=own.length:=by
    cases β with
    |nil=>have:=ajP.shape.1;simp at this
    |cons bo bΩ=>
     refine⟨bo,bΩ,rfl,?_⟩;obtain⟨gr,q1,q2⟩:=ajP.shape.2 0 own rfl;simp at q1;rw[q1];exact q2
   obtain⟨bo,bΩ,rfl,hlen⟩:=hfr
   have hnot:∀b,owns (.fM (P.cellsOf e) (es++ys)) r b->¬Own (own::Ω) (bo::bΩ) b:=by
    intro b hb ⟨k1,o1,h1,e1,e2,e3⟩
    have hin:bC st k1=some o1/\k1≠k:=by
     have OT:bC (bA st k Obj.dead) k1=some o1:=by rw[hst];exact e1
     by_cases q:k1=k
     ·subst q;rw[dA _ _ _ _ hk] at OT;cases OT;cases e3
     ·rw[fV _ _ _ _ (Ne.symm q)] at OT;exact⟨OT,q⟩
    rcases hbk b hb with k2|k2
    ·exact hin.2 (hR.S.apart k1 k o1 _ h1 _ b hin.1 e2 e3 hk hβ k2)
    ·have:=hR.S.Jp ⟨k1,o1,h1,hin.1,e2,e3⟩;omega
   obtain⟨hS2,hk2,hown⟩:=ajP.lay hlen (hro _ _) hnot
   have ajQ:Keep st (bo::bΩ) (own::Ω) (bo::bΩ):=by rw[<-hst];exact hk1
   have NT:Step st (bo::bΩ) σ w (own::Ω) (bo::bΩ) σ w':=by rw[<-hst];exact Ev
   refine mD (x:=.c (.jO (0,own.length))) (v:=r) hd hR hS2 (ajQ.trans hk2) ⟨NT.size,NT.os,NT.output,NT.far,NT.near,fun b hb=> ?_⟩ ⟨⟨_,dw _ _ _,fun a b e=> ?_⟩,h1c⟩ (.inl rfl) (hrun _ _ hr) h6
   ·rcases hown b hb with q|q
    ·exact NT.own b q
    ·rcases hbk b q with q2|q2
     ·exact .inl ⟨k,_,_,hk,hβ,q2⟩
     ·exact .inr q2
   ·rw[<-hlen,dw]
 ·exact h.elim
theorem agK{o:Oper}{K:St->Prop}{Q:Exit->Act->World->Prop}{t:TypeId}{n:Nat}{parts:Array (Nat×Operand)}(ho:o.op=.buildSlice t n parts)(hd:∀d,o.dst=some d->d<N)(hR:lU N s a w σ β)
 (h:LZ P t s o.dst K (adW s.st t) (nval P s.st s.tm (.buildSlice t n parts))):o.wp P a w (Then N s.st β σ w K) Q:=by
 unfold LZ at h;split at h
 ·obtain⟨h1,h2⟩:=h;rw[<-ho] at h1 h2;obtain⟨v,w',σ',hrun,hg,hv⟩:=QK o hR.S hR.T h1;exact uG hd hR hg hv hrun h2
 ·rename_i p es hb hr;split at h
  ·rename_i e ht;obtain⟨hp,h6⟩:=h;have hr':qy P (tH s.st) s.st s.tm (.buildSlice t n parts)=(p,.c (.bH es)):=hr;simp only[qy] at hr'
   cases hlab:tH s.st with
   |some m=>
    rw[hlab] at hr';simp only[oo] at hr';split at hr'<;>cases hr'
   |none=>
    rw[hlab] at hr';simp only[oo,uY,ht] at hr';split at hr'
    ·rename_i es' hes;cases hr';obtain⟨h1,h2,h3⟩:=hp
     obtain⟨ca,hrun,hca,hle,hcells⟩:=Ic (P:=P) (w:=w) (σ:=σ) (S:=s.st) (β:=β) (t:=t) (n:=n) (parts:=parts.toList.map fun x=>(x.1,ev s.tm x.2)) (pv:=parts.toList.map fun x=>(x.1,a.eval x.2)) gL
      (fun j x hx=>by
        rw[bE] at hx ⊢
        cases hc:parts.toList[j]? with
        |none=>rw[hc] at hx;cases hx
        |some y=>rw[hc] at hx;cases hx;exact⟨_,rfl,lK hR.T y.2⟩) ht hes h1 h2 h3
     have hrun':(execOp a.eval o).run P w=.ok (.value (.slice (some ⟨w.heap.size,0,none⟩) n n)) {w with heap:=w.heap.push (.cells ca e)}:=by
      clear h6 hr;obtain⟨dst,op,ty,pos,after,guard⟩:=o;simp only at ho;subst ho;simp[execOp];rw[XW,hrun];rfl
     have hg:=Fg w σ hR.S.live ca e 0
     have Yd:σ w.heap.size=0:=by
      rcases hR.S.live w.heap.size with h|h
      ·omega
      ·exact h
     obtain⟨tm,st⟩:=s
     cases st with
     |nil=>exact h6.elim
     |cons own Ω=>
      obtain⟨bo,bΩ,rfl,hlen⟩:=frames hR
      obtain⟨hS',hk,hst⟩:=hR.S.push (o:=.fM (P.cellsOf e) es) (h:=.slice (some ⟨w.heap.size,0,none⟩) n n) hg hlen
       ⟨hle,some ⟨w.heap.size,0,none⟩,n,by rw[h1],gA,.inr ⟨w.heap.size,ca,e,rfl,gL,gL,by rw[hca,h1];exact ax _,fun j d hj=>by
         obtain⟨v,hv,hr⟩:=hcells j d hj
         exact⟨v,hv,hr.mono hg.near⟩⟩⟩
       (fun b hb=>by
         simp only[owns,blk] at hb;split at hb
         ·cases hb
         ·cases hb;exact ax _)
      refine mD (x:=.c (.jO (0,own.length))) hd hR hS' hk hst ⟨⟨_,dw _ _ _,fun bB es e=> ?_⟩,rfl⟩ (.inl rfl) hrun' h6;rw[<-hlen,dw]
    ·cases hr'
  ·exact h.elim
 ·exact h.elim
theorem OU(hw:∀{o:Oper}{K:St->Prop}{Q:Exit->Act->World->Prop},(∀d,o.dst=some d->d<N)->dP P o s K->o.wp P a w (Then N s.st β σ w K) Q){o:Oper}{K:St->Prop}{Q:Exit->Act->World->Prop}(hd:∀d,o.dst=some d->d<N)(hR:lU N s a w σ β)(h:jv P o s K):o.wp P a w (Then N s.st β σ w K) Q:=by
 unfold jv at h;split at h
 ·rename_i Bu ts ho;split at h
  ·rename_i x y t u hx ht;unfold FR at h;split at h
   ·rename_i k hk;refine Yf (fun r w' hr=> ?_) hd hR hk h;clear h;obtain⟨dst,op,ty,pos,after,guard⟩:=o;simp only at ho;subst ho
    obtain rfl:Bu= #[x,y]:=by rw[<-cH (xs:=Bu),hx]
    obtain rfl:ts= #[t,u]:=by rw[<-cH (xs:=ts),ht]
    simp only at hr;simp[execOp,resolve,invoke,builtin,hr]
   ·refine hw hd ?_;unfold dP;rw[ho];simp only[qz,hx,ht];exact h
  ·exact h.elim
 ·rename_i t n parts ho;exact agK ho hd hR h
 ·exact hw hd h
end
section
variable {P:Program} {w w':World} {σ σ':Nat->Nat} {S:Store} {β β':Hs} {N:Nat} {s:St} {a:Act}
theorem Kk{o:Oper}{K:St->Prop}{Q:Exit->Act->World->Prop}(hd:∀d,o.dst=some d->d<N)(hR:lU N s a w σ β)(h:dP P o s K):o.wp P a w (Then N s.st β σ w K) Q:=by
 unfold dP at h;split at h
 ·rename_i t ho;unfold yj at h;split at h
  ·rename_i zs hz;obtain⟨z,zI,hzc⟩:=yh (w:=w) (σ:=σ) (S:=s.st) (β:=β) hz;refine QY (v:=z) (t:=t) hd hR hzc (fun ad w' QZ=> ?_) h;obtain⟨dst,op,ty,pos,after,guard⟩:=o;simp only at ho;subst ho;simp[execOp,Instr.alloc,zI,QZ]
  ·exact h.elim
 ·rename_i t x ho;unfold Gf at h;split at h
  ·rename_i cs hcs;refine QY (v:=a.eval x) (t:=t) hd hR (Bl hcs (lK hR.T x)) (fun ad w' QZ=> ?_) h;obtain⟨dst,op,ty,pos,after,guard⟩:=o;simp only at ho;subst ho;simp[execOp,Instr.box,QZ]
  ·exact h.elim
 ·rename_i t x y ho;exact aaT ho hd hR h
 ·rename_i t x y ho;exact adT ho hd hR h
 ·rename_i t ho;exact X8 ho hd hR h
 ·rename_i t x y z ho;exact X9 ho hd hR h
 ·rename_i c ho;exact Q0 ho hd hR h
 ·obtain⟨h1,h2⟩:=h;obtain⟨v,w',σ',hrun,hg,hv⟩:=QK o hR.S hR.T h1;exact uG hd hR hg hv hrun h2
def iw(R:Array Oper)(j:Nat):Option Nat:=(R[j]?).bind (·.dst)
def yu(P:Program)(R:Array Oper)(o:Oper)(s:St)(K:St->Prop):Prop:=
 match o.guard with
 |none=>jv P o s K
 |some (j,want)=>
  match(iw R j).map (look s.tm) with
  |some (.c (.d (.b x)))=>(x=want->jv P o s K)/\(x= !want->K (s.put o.dst (.eu [])))
  |some (.eu [])=>K (s.put o.dst (.eu []))
  |_=>False
def Gh(P:Program)(R:Array Oper):List Oper->St->(St->Prop)->Prop
 |[],s,K=>K s
 |o::os,s,K=>yu P R o s fun s'=>Gh P R os s' K
theorem Then.mono{K K':St->Prop}{a':Act}{w':World}(hK:∀s,K s->K' s)(h:Then N S β σ w K a' w'):Then N S β σ w K' a' w':=by
 obtain⟨s',σ',β',h1,h2,h3,h4⟩:=h;exact⟨s',σ',β',h1,h2,h3,hK _ h4⟩
theorem Gi{R:Array Oper}{j:Nat}{x:Bool}(hR:lU N s a w σ β)(h:(iw R j).map (look s.tm)=some (.c (.d (.b x)))):yielded R a.tmps j=some x:=by
 unfold yielded;unfold iw at h
 cases hd:(R[j]?).bind (·.dst) with
 |none=>rw[hd] at h;cases h
 |some d=>
  rw[hd] at h;simp only[dC,cC] at h;have ht:=hR.T d;rw[h] at ht;obtain⟨ht,_⟩:=ht;simp only[dy]
  have hlt:d<a.tmps.size:=by
   rcases fh d a.tmps.size with h|h
   ·exact h
   ·simp[Array.getD,Nat.not_lt.2 h,undef] at ht;cases ht
  have hg:a.tmps.getD d undef=a.tmps[d]:=by simp[Array.getD,hlt]
  rw[hg] at ht;rw[cq hlt];generalize a.tmps[d]=v at ht;cases ht;rfl
theorem Lf{R:Array Oper}{j:Nat}(hR:lU N s a w σ β)(h:(iw R j).map (look s.tm)=some (.eu [])):yielded R a.tmps j=none:=by
 unfold yielded;unfold iw at h
 cases hd:(R[j]?).bind (·.dst) with
 |none=>rw[hd] at h;cases h
 |some d=>
  rw[hd] at h;simp only[dC,cC] at h;have ht:=hR.T d;rw[h] at ht;obtain⟨ar,hv,_⟩:=ht;simp only[dy];by_cases hlt:d<a.tmps.size
  ·have hg:a.tmps.getD d undef=a.tmps[d]:=by simp[Array.getD,hlt]
   rw[hg] at hv;rw[cq hlt,hv]
  ·rw[dE (Nat.le_of_not_lt hlt)]
theorem Vd{o:Oper}{K:St->Prop}(hd:∀d,o.dst=some d->d<N)(hR:lU N s a w σ β)(hK:K (s.put o.dst (.eu []))):Then N s.st β σ w K (a.put o.dst undef) w:=by
 have hr:lU N (St.put ⟨s.tm,s.st⟩ o.dst (.eu [])) (a.put o.dst undef) w σ β:=FQ hd hR.size hR.defers hR.S hR.T Ap;have he:(s.put o.dst (.eu [])).st=s.st:=nR o.dst s.tm s.st _;exact⟨_,σ,β,hr,by rw[show(St.put ⟨s.tm,s.st⟩ o.dst (.eu [])).st=s.st from he];exact Step.oQ (Grow.refl hR.S.live),by rw[show(St.put ⟨s.tm,s.st⟩ o.dst (.eu [])).st=s.st from he];exact Keep.refl _ _,hK⟩
theorem aaU{R:Array Oper}{o:Oper}{K:St->Prop}{Q:Exit->Act->World->Prop}(hd:∀d,o.dst=some d->d<N)(hR:lU N s a w σ β)(h:yu P R o s K):
 if Region.wanted o (yielded R a.tmps) then o.wp P a w (Then N s.st β σ w K) Q else Then N s.st β σ w K (a.put o.dst undef) w:=by
 unfold yu at h;split at h
 ·rename_i hg;rw[if_pos (by simp[Region.wanted,hg])];exact OU (fun hd h=>Kk hd hR h) hd hR h
 ·rename_i j want hg;split at h
  ·rename_i x hx;have hy:=Gi hR hx;by_cases e:x=want
   ·rw[if_pos (by simp[Region.wanted,hg,hy,e])];exact OU (fun hd h=>Kk hd hR h) hd hR (h.1 e)
   ·rw[if_neg (by simp[Region.wanted,hg,hy,e])];exact Vd hd hR (h.2 (by cases x<;>cases want<;>simp_all))
  ·rename_i hx;have hy:=Lf hR hx;rw[if_neg (by simp[Region.wanted,hg,hy])];exact Vd hd hR h
  ·exact h.elim
theorem Q5{R:Array Oper}{K:St->Prop}{S0:Store}{β0:Hs}{σ0:Nat->Nat}{w0:World}{Q:Exit->Act->World->Prop}(hQ:∀a w,Then N S0 β0 σ0 w0 K a w->Q .normal a w):
 ∀(n k:Nat),k+n=R.size->(∀o∈R.toList,∀d,o.dst=some d->d<N)->∀(s:St)(a:Act)(w:World)(σ:Nat->Nat)(β:Hs),lU N s a w σ β->Step S0 β0 σ0 w0 s.st β σ w->Keep S0 β0 s.st β->
  Gh P R (R.toList.drop k) s K->wpOps P R Q (List.range' k n) a w
 |0,k,hk,_,s,a,w,σ,β,hR,hst,hkp,h=>by
  have:R.toList.drop k=[]:=by apply ff;simp;omega
  rw[this] at h;exact hQ a w ⟨s,σ,β,hR,hst,hkp,h⟩
 |n+1,k,hk,hd,s,a,w,σ,β,hR,hst,hkp,h=>by
  have hlt:k<R.toList.length:=gR
  rw[cb hlt] at h;have hg:=aaU (Q:=Q) (fun d e=>hd _ (ac hlt) d e) hR h;rw[List.range'_succ]
  have hRk:R[k]? =some R.toList[k]:=by
   rw[cq gA];simp
  simp only[wpOps,hRk]
  have next:∀a' w',Then N s.st β σ w (fun s'=>Gh P R (R.toList.drop (k+1)) s' K) a' w'->wpOps P R Q (List.range' (k+1) n) a' w':=by
   rintro a' w' ⟨s',σ',β',hR',hst',Ct,hK'⟩;exact Q5 hQ n (k+1) gA hd s' a' w' σ' β' hR' (hst.trans hst') (hkp.trans Ct) hK'
  split
  ·rename_i hw;rw[if_pos hw] at hg;exact .inl (Oper.wp_mono next hg)
  ·rename_i hw;rw[if_neg hw] at hg
   exact next _ _ hg
def iD{α:Type}(l:List α):List α:=l.drop 1
def AW(P:Program)(N:Nat)(c:Code)(Q:Exit->St->Prop)(s:St):Prop:=
 ∀(a:Act)(w:World)(σ:Nat->Nat)(β:Hs),lU N s a w σ β->
  c.wp P (fun e a' w'=>∃s' σ' β',lU N s' a' w' σ' β'/\Step s.st β σ w s'.st β' σ' w'/\Keep (iD s.st) (iD β) (iD s'.st) (iD β')/\Q e s') a w
theorem AW.mono{c:Code}{Q Q':Exit->St->Prop}(h:AW P N c Q s)(hq:∀e s,Q e s->Q' e s):AW P N c Q' s:=fun a w σ β hR=>
 wp_mono (h a w σ β hR) fun e a' w' ⟨s',σ',β',h1,h2,h3,h4⟩=>⟨s',σ',β',h1,h2,h3,hq _ _ h4⟩
def mG(K:St->Prop)(Q:Exit->St->Prop):Exit->St->Prop
 | .normal,s=>K s
 |e,s=>Q e s
def Bv(id:Nat)(Q:Exit->St->Prop):Exit->St->Prop
 | .exit id',s=>if id'=id then Q .normal s else Q (.exit id') s
 |e,s=>Q e s
theorem L6{x y:Code}{Q:Exit->St->Prop}(h:AW P N x (mG (AW P N y Q) Q) s):AW P N (.seq x y) Q s:=by
 intro a w σ β hR;refine wp_seq (wp_mono (h a w σ β hR) ?_);rintro e a' w' ⟨s',σ',β',h1,h2,h3,h4⟩
 cases e with
 |normal=>
  show y.wp P _ a' w';refine wp_mono (h4 a' w' σ' β' h1) ?_;rintro e a'' w'' ⟨s'',F6,β'',k1,k2,k3,k4⟩;exact⟨s'',F6,β'',k1,h2.trans k2,h3.trans k3,k4⟩
 |_=>exact⟨s',σ',β',h1,h2,h3,h4⟩
theorem Yg{c:Code}{e:Exit}{Q:Exit->St->Prop}(hc:∀{Q':Exit->Act->World->Prop}{a:Act}{w:World},Q' e a w->c.wp P Q' a w)(h:Q e s):AW P N c Q s:=
 fun a w σ β hR=>hc ⟨s,σ,β,hR,Step.oQ (Grow.refl hR.S.live),Keep.refl _ _,h⟩
theorem an5{Q:Exit->St->Prop}(h:Q .normal s):AW P N .skip Q s:=Yg wp_skip h
theorem an6{id:Nat}{Q:Exit->St->Prop}(h:Q (.exit id) s):AW P N (.exit id) Q s:=Yg wp_exit h
theorem aqj{Q:Exit->St->Prop}(h:Q .ret s):AW P N .ret Q s:=Yg wp_ret h
theorem NU{c:Operand}{x y:Code}{b:Bool}{Q:Exit->St->Prop}(hc:ev s.tm c=.c (.d (.b b)))(ht:b=true->AW P N x Q s)(hf:b=false->AW P N y Q s):AW P N (.cond c x y) Q s:=by
 intro a w σ β hR;have hv:=lK hR.T c;rw[hc] at hv;obtain⟨hv,_⟩:=hv;generalize he:a.eval c=v at hv;cases hv;refine Go.wp_cond he ?_
 cases b with
 |true=>exact ht rfl a w σ β hR
 |false=>exact hf rfl a w σ β hR
theorem PD{id:Nat}{c:Code}{Q:Exit->St->Prop}(h:AW P N c (Bv id Q) s):AW P N (.block id c) Q s:=by
 intro a w σ β hR;refine wp_block (wp_mono (h a w σ β hR) ?_);rintro e a' w' ⟨s',σ',β',h1,h2,h3,h4⟩
 cases e with
 |exit id'=>
  show if id'=id then _ else _
  simp only[Bv] at h4;split
  ·rename_i e;rw[if_pos e] at h4;exact⟨s',σ',β',h1,h2,h3,h4⟩
  ·rename_i e;rw[if_neg e] at h4;exact⟨s',σ',β',h1,h2,h3,h4⟩
 |_=>exact⟨s',σ',β',h1,h2,h3,h4⟩
theorem Keep.tail{S S':Store}{β β':Hs}(h:Keep S β S' β'):Keep (iD S) (iD β) (iD S') (iD β'):=h.drop 1
theorem agL{id:Nat}{R:Array Oper}{Q:Exit->St->Prop}(hd:R.toList.all (fun o=>match o.dst with|some d=>decide (d<N)|none=>true)=true)(h:Gh P R R.toList s (Q .normal)):AW P N (.region id R false) Q s:=by
 intro a w σ β hR;refine wp_region ?_;rw[List.range_eq_range'];refine Q5 (S0:=s.st) (β0:=β) (σ0:=σ) (w0:=w) (K:=Q .normal) (fun a' w' ht=> ?_) R.size 0 gA (fun o ho d e=> ?_) s a w σ β hR (Step.oQ (Grow.refl hR.S.live)) (Keep.refl _ _) h
 ·obtain⟨s',σ',β',h1,h2,h3,h4⟩:=ht;exact⟨s',σ',β',h1,h2,h3.tail,h4⟩
 ·have:=az.1 hd o ho;rw[e] at this;simpa using this
theorem acE{ι:Type}{c:Code}{Q:Exit->St->Prop}(I:ι->St->Prop)(μ:ι->Nat)(i0:ι)(h0:I i0 s)
 (round:∀i s,I i s->AW P N c (mG (fun s'=>∃j,μ j<μ i/\I j s') Q) s):AW P N (.loop c) Q s:=by
 intro a w σ β hR
 have key:∀(n:Nat)(i:ι)(s':St)(a':Act)(w':World)(σ':Nat->Nat)(β':Hs),μ i<n->I i s'->lU N s' a' w' σ' β'->Step s.st β σ w s'.st β' σ' w'->Keep (iD s.st) (iD β) (iD s'.st) (iD β')->
  Code.rounds P c (fun e a' w'=>∃s' σ' β',lU N s' a' w' σ' β'/\Step s.st β σ w s'.st β' σ' w'/\Keep (iD s.st) (iD β) (iD s'.st) (iD β')/\Q e s') n a' w':=by
  intro n
  induction n with
  |zero=>intro i s' a' w' σ' β' h;omega
  |succ n ih=>
   intro i s' a' w' σ' β' hn hI hR' hst hkp;refine wp_mono (round i s' hI a' w' σ' β' hR') ?_;rintro e a'' w'' ⟨s'',F6,β'',k1,k2,k3,k4⟩
   cases e with
   |normal=>
    obtain⟨j,hj,hIj⟩:=k4;exact ih j s'' a'' w'' F6 β'' gA hIj k1 (hst.trans k2) (hkp.trans k3)
   |_=>exact⟨s'',F6,β'',k1,hst.trans k2,hkp.trans k3,k4⟩
 exact wp_loop_rounds (μ i0+1) (key (μ i0+1) i0 s a w σ β gA h0 hR (Step.oQ (Grow.refl hR.S.live)) (Keep.refl _ _))
end
def mV:List V->Nat->List (Nat×V)
 |[],_=>[]
 |v::vs,i=>(i,v)::mV vs (i+1)
def C.ret:C->Option C
 | .bJ (0,_) es=>some (.d (.sl es))
 |c=>c.down 1
def NW(y:Bool×List C):Option (Bool×List C):=(y.2.mapM C.ret).map fun cs=>(y.1,cs)
def V.ret:V->Option V
 | .c x=>(x.ret).map .c
 | .agg cs=>(cs.mapM C.ret).map .agg
 | .eu xs=>(xs.mapM NW).map .eu
 | .any=>some .any
def Bw(P:Program)(s:St):ResultVar->R
 | .tmp t=>(True,look s.tm t)
 | .cell a t=>Fe P s.st t (look s.tm a)
def Q6:V->Option (Bool×List C)
 | .c x=>some (false,[x])
 | .agg cs=>some (true,cs)
 |_=>none
def tJ(P:Program)(s:St):List ResultVar->Prop×Option (List (Bool×List C))
 |[]=>(True,some [])
 |x::xs=>((Bw P s x).1/\(tJ P s xs).1,(Q6 (Bw P s x).2).bind fun y=>(tJ P s xs).2.map fun ys=>y::ys)
def sj(P:Program)(rs:List ResultVar)(s:St):R:=
 match rs with
 |[x]=>Bw P s x
 |xs=>match(tJ P s xs).2 with
  |some ys=>((tJ P s xs).1,.eu ys)
  |none=>no
def ajR(P:Program)(rs:List ResultVar)(post:V->Store->Prop)(e:Exit)(s:St):Prop:=
 match e with
 | .normal| .ret=>(sj P rs s).1/\match(sj P rs s).2.ret with
   |some r=>post r (iD s.st)
   |none=>False
 |_=>False
section
variable {P:Program} {w w':World} {σ σ':Nat->Nat} {S:Store} {β β':Hs} {N:Nat} {s:St} {a:Act}
theorem Yh{cs:List C}{vs:List Value}(n:Nat)(h:gN w σ (S.drop n) (β.drop n) cs vs):gN w σ S β (cs.map (C.up n)) vs:=
 ⟨by simpa using h.1,fun j x hx=>by
   rw[bE] at hx
   cases hc:cs[j]? with
   |none=>rw[hc] at hx;cases hx
   |some y=>
    rw[hc] at hx;cases hx;obtain⟨v,hv,hr,ho⟩:=h.2 j y hc
    exact⟨v,hv,hr.up n,ho⟩⟩
theorem NY{x:V}{v:Value}(n:Nat)(h:dR w σ (S.drop n) (β.drop n) x v):dR w σ S β (x.up n) v:=by
 cases x with
 |c x=>exact⟨h.1.up n,h.2⟩
 |agg cs=>obtain⟨ar,ha,hc⟩:=h;exact⟨ar,ha,Yh n hc⟩
 |eu xs=>
  obtain⟨ar,ha,hl,h2⟩:=h;refine⟨ar,ha,by simpa using hl,fun j y hy=> ?_⟩;rw[bE] at hy
  cases hc:xs[j]? with
  |none=>rw[hc] at hy;cases hy
  |some z=>
   rw[hc] at hy;cases hy;obtain⟨u,hu,h3⟩:=h2 j z hc;refine⟨u,hu,?_⟩;obtain⟨b,cs⟩:=z
   cases b with
   |true=>obtain⟨a',e,hcs⟩:=h3;exact⟨a',e,Yh n hcs⟩
   |false=>obtain⟨x,e,hx,ho⟩:=h3;subst e;exact⟨_,rfl,hx.up n,ho⟩
 |any=>exact trivial
theorem PE{c c':C}{v:Value}(h:c.ret=some c')(hc:jc w σ S β c v):jc w σ (S.drop 1) (β.drop 1) c' v:=by
 unfold C.ret at h;split at h
 ·cases h;exact hc.1
 ·exact XY h hc
theorem Ve{xs ys:List C}{vs:List Value}(h:xs.mapM C.ret=some ys)(hc:gN w σ S β xs vs):gN w σ (S.drop 1) (β.drop 1) ys vs:=by
 induction xs generalizing ys vs with
 |nil=>simp at h;subst h;exact⟨hc.1,fun j d hd=>by simp at hd⟩
 |cons x xs ih=>
  rw[ef] at h
  cases hd:C.ret x with
  |none=>rw[hd] at h;simp at h
  |some y=>
   cases hm:xs.mapM C.ret with
   |none=>rw[hd,hm] at h;simp at h
   |some ys'=>
    rw[hd,hm] at h;simp at h;subst h
    cases vs with
    |nil=>have:=hc.1;simp at this
    |cons v vs=>
     obtain⟨l,r⟩:=ih hm (vs:=vs) ⟨by have:=hc.1;simpa using this,fun j y hy=>hc.2 (j+1) y hy⟩;refine⟨by simp[l],fun j e he=> ?_⟩
     cases j with
     |zero=>
      simp at he;subst he;obtain⟨u,hu,hr,ho⟩:=hc.2 0 x rfl;simp at hu;subst hu;exact⟨v,rfl,PE hd hr,ho⟩
     |succ j=>exact r j e he
theorem Yi{α γ:Type}(f:α->Option γ):∀(xs:List α)(ys:List γ),xs.mapM f=some ys->ys.length=xs.length/\∀(j:Nat)(y:γ),ys[j]? =some y->∃x,xs[j]? =some x/\f x=some y
 |[],ys,h=>by simp at h;subst h;exact⟨rfl,fun j y hy=>by simp at hy⟩
 |x::xs,ys,h=>by
  rw[ef] at h
  cases hd:f x with
  |none=>rw[hd] at h;simp at h
  |some y=>
   cases hm:xs.mapM f with
   |none=>rw[hd,hm] at h;simp at h
   |some ys'=>
    rw[hd,hm] at h;simp at h;subst h;obtain⟨l,r⟩:=Yi f xs ys' hm;refine⟨by simp[l],fun j e he=> ?_⟩
    cases j with
    |zero=>simp at he;subst he;exact⟨x,rfl,hd⟩
    |succ j=>exact r j e he
theorem Yj{x y:V}{v:Value}(h:x.ret=some y)(hx:dR w σ S β x v):dR w σ (S.drop 1) (β.drop 1) y v:=by
 cases x with
 |c x=>
  simp only[V.ret] at h
  cases hc:x.ret with
  |none=>rw[hc] at h;cases h
  |some c=>rw[hc] at h;cases h;exact⟨PE hc hx.1,hx.2⟩
 |agg cs=>
  simp only[V.ret] at h
  cases hc:cs.mapM C.ret with
  |none=>rw[hc] at h;cases h
  |some c=>rw[hc] at h;cases h;obtain⟨ar,ha,h2⟩:=hx;exact⟨ar,ha,Ve hc h2⟩
 |eu xs=>
  simp only[V.ret] at h
  cases hc:xs.mapM NW with
  |none=>rw[hc] at h;cases h
  |some ys=>
   rw[hc] at h;cases h;obtain⟨ar,ha,hl,h2⟩:=hx;obtain⟨l,r⟩:=Yi _ _ _ hc;refine⟨ar,ha,by rw[l];exact hl,fun j y hy=> ?_⟩;obtain⟨z,hz,hzy⟩:=r j y hy;obtain⟨u,hu,h3⟩:=h2 j z hz;refine⟨u,hu,?_⟩;obtain⟨b,cs⟩:=z;simp only[NW] at hzy
   cases hm:cs.mapM C.ret with
   |none=>rw[hm] at hzy;cases hzy
   |some cs'=>
    rw[hm] at hzy;cases hzy
    cases b with
    |true=>obtain⟨a',e,hcs⟩:=h3;exact⟨a',e,Ve hm hcs⟩
    |false=>
     obtain⟨x,e,hx,ho⟩:=h3;subst e;rw[ef] at hm
     cases hx':C.ret x with
     |none=>rw[hx'] at hm;simp at hm
     |some x'=>
      rw[hx'] at hm;simp at hm;exact⟨x',hm.symm,PE hx' hx,ho⟩
 |any=>cases h;exact trivial
theorem acF{x:ResultVar}(hR:lU N s a w σ β)(h:(Bw P s x).1):
 ∃v,(match x with| .tmp t=>pure (a.tmps.getD t undef)| .cell b t=>do loadVar t (<-asAddr (a.tmps.getD b undef)):Sem Value).run P w=.ok v w/\dR w σ s.st β (Bw P s x).2 v:=by
 cases x with
 |tmp t=>exact⟨_,rfl,hR.T t⟩
 |cell b t=>
  obtain⟨v,hrun,hv⟩:=U5 (P:=P) (t:=t) hR.S (hR.T b) h;refine⟨v,?_,hv⟩;show(do loadVar t (<-asAddr (a.tmps.getD b undef)):Sem Value).run P w=.ok v w;generalize a.tmps.getD b undef=bv at hrun ⊢
  cases bv with
  |pointer o=>
   cases o with
   |none=>simp[Instr.loadAt,Instr.sureAddr] at hrun
   |some ad=>simpa [Instr.loadAt,Instr.sureAddr,asAddr] using hrun
  |_=>simp[Instr.loadAt,Instr.sureAddr] at hrun
theorem ajS{x:V}{y:Bool×List C}{v:Value}(h:Q6 x=some y)(hx:dR w σ S β x v):TN w σ S β y v:=by
 cases x with
 |c x=>cases h;exact⟨x,rfl,hx.1,hx.2⟩
 |agg cs=>cases h;exact hx
 |eu=>cases h
 |any=>cases h
theorem acG(hR:lU N s a w σ β):∀(xs:List ResultVar)(ys:List (Bool×List C)),(tJ P s xs).1->(tJ P s xs).2=some ys->
 ∃vs:List Value,(xs.mapM fun x=>(match x with| .tmp t=>pure (a.tmps.getD t undef)| .cell b t=>do loadVar t (<-asAddr (a.tmps.getD b undef)):Sem Value)).run P w=.ok vs w/\ys.length=vs.length/\
  ∀(j:Nat)(y:Bool×List C),ys[j]? =some y->∃u,vs[j]? =some u/\TN w σ s.st β y u
 |[],ys,_,h=>by simp only[tJ] at h;cases h;exact⟨[],gL,rfl,fun j y hy=>by simp at hy⟩
 |x::xs,ys,h1,h2=>by
  simp only[tJ] at h1 h2
  cases hc:Q6 (Bw P s x).2 with
  |none=>rw[hc] at h2;cases h2
  |some y=>
   cases hr:(tJ P s xs).2 with
   |none=>rw[hc,hr] at h2;cases h2
   |some ys'=>
    rw[hc,hr] at h2;cases h2;obtain⟨v,hv,hrep⟩:=acF (P:=P) (x:=x) hR h1.1;obtain⟨vs,hvs,hl,hj⟩:=acG hR xs ys' h1.2 hr;refine⟨v::vs,?_,by simp[hl],fun j z hz=> ?_⟩
    ·rw[ef];simp only[Sem.run_bind,Result.andThen_ok,Sem.run_pure];rw[hv];simp only[Result.andThen_ok];rw[hvs];rfl
    ·cases j with
     |zero=>simp at hz;subst hz;exact⟨v,rfl,ajS hc hrep⟩
     |succ j=>exact hj j z hz
theorem L8{fn:Func}(hR:lU N s a w σ β)(h:(sj P fn.results.toList s).1):∃v,(results fn a.tmps).run P w=.ok v w/\dR w σ s.st β (sj P fn.results.toList s).2 v:=by
 have hres:fn.results=fn.results.toList.toArray:=gL
 have hrun:∀vs:List Value,(fn.results.toList.mapM fun x=>(match x with| .tmp t=>pure (a.tmps.getD t undef)| .cell b t=>do loadVar t (<-asAddr (a.tmps.getD b undef)):Sem Value)).run P w=.ok vs w->
  (results fn a.tmps).run P w=.ok (if h:vs.toArray.size=1 then vs.toArray[0] else .tuple vs.toArray) w:=by
  intro vs hvs;unfold results;rw[hres,List.mapM_toArray];simp only[Sem.run_bind,Sem.run_map];have:(fun x=>(match x with| .tmp t=>pure (a.tmps.getD t undef)| .cell b t=>do loadVar t (<-asAddr (a.tmps.getD b undef)):Sem Value))=fun(x:ResultVar)=>(match x with| .tmp t=>pure (a.tmps.getD t undef)| .cell b t=>do loadVar t (<-asAddr (a.tmps.getD b undef)):Sem Value):=rfl
  erw [hvs]
  rfl
 unfold sj at h ⊢;split at h
 ·rename_i x hx;rw[hx] at hrun;obtain⟨v,hv,hrep⟩:=acF (P:=P) (x:=x) hR h;refine⟨v,?_,hrep⟩
  have:=hrun [v] (by
   rw[ef];simp only[Sem.run_bind,List.mapM_nil,Result.andThen_ok,Sem.run_pure]
   rw[hv];rfl)
  simpa using this
 ·rename_i hne;split at h
  ·rename_i ys hys;obtain⟨vs,hvs,hl,hj⟩:=acG (P:=P) hR _ ys h hys;have h1:=hrun vs hvs
   have hlen:¬(vs.toArray.size=1):=by
    intro e
    have hl2:ys.length=fn.results.toList.length:=by
     clear hj hvs h1 hrun hne e hl h;generalize fn.results.toList=l at hys
     induction l generalizing ys with
     |nil=>simp only[tJ] at hys;cases hys;rfl
     |cons x xs ih=>
      simp only[tJ] at hys
      cases hc:Q6 (Bw P s x).2 with
      |none=>rw[hc] at hys;cases hys
      |some y=>
       cases hr:(tJ P s xs).2 with
       |none=>rw[hc,hr] at hys;cases hys
       |some ys'=>rw[hc,hr] at hys;cases hys;simp[ih ys' hr]
    simp at e
    have:fn.results.toList.length=1:=gA
    obtain⟨x,hx⟩:=List.length_eq_one_iff.1 this;exact hne x hx
   rw[dif_neg hlen] at h1;exact⟨_,h1,vs.toArray,rfl,by simpa using hl,fun j y hy=>by simpa using hj j y hy⟩
  ·exact h.elim
theorem fC.NZ{own:List Obj}{Ω:Store}{bo:List Value}{bΩ:Hs}(h:fC w σ (own::Ω) (bo::bΩ)):fC w σ Ω bΩ:=by
 refine⟨fun k o ho=> ?_,fun k k' o o' h1 h2 b e1 e2 e3 e4 e5 e6=> ?_,⟨by have:=h.shape.1;simpa using this,fun l fr hl=>h.shape.2 (l+1) fr hl⟩,h.live,h.vH⟩
 ·obtain⟨l,j⟩:=k;obtain⟨hv,hh,hr⟩:=h.obj (l+1,j) o (by rw[dG];exact ho);rw[dG] at hh;exact⟨hv,hh,hr⟩
 ·obtain⟨l,j⟩:=k;obtain⟨l',j'⟩:=k';have:=h.apart (l+1,j) (l'+1,j') o o' h1 h2 b (by rw[dG];exact e1) (by rw[dG];exact e2) e3 (by rw[dG];exact e4) (by rw[dG];exact e5) e6;cases this;rfl
theorem fC.up1(h:fC w σ S β):fC w σ ([]::S) ([]::β):=by
 refine⟨fun k o ho=> ?_,fun k k' o o' h1 h2 b e1 e2 e3 e4 e5 e6=> ?_,⟨by simp[h.shape.1],fun l fr hl=> ?_⟩,h.live,h.vH⟩
 ·obtain⟨l,j⟩:=k
  cases l with
  |zero=>rw[bM] at ho;simp at ho
  |succ l=>
   rw[dG] at ho;obtain⟨hv,hh,hr⟩:=h.obj (l,j) o ho;exact⟨hv,by rw[dG];exact hh,hr⟩
 ·obtain⟨l,j⟩:=k;obtain⟨l',j'⟩:=k'
  cases l with
  |zero=>rw[bM] at e1;simp at e1
  |succ l=>
   cases l' with
   |zero=>rw[bM] at e4;simp at e4
   |succ l'=>
    rw[dG] at e1 e2 e4 e5;have:=h.apart (l,j) (l',j') o o' h1 h2 b e1 e2 e3 e4 e5 e6;cases this;rfl
 ·cases l with
  |zero=>simp at hl;subst hl;exact⟨[],rfl,rfl⟩
  |succ l=>exact h.shape.2 l fr hl
theorem FT{b:Nat}(h:Own ([]::S) ([]::β) b):Own S β b:=by
 obtain⟨⟨l,j⟩,o,hv,h1,h2,h3⟩:=h
 cases l with
 |zero=>rw[bM] at h1;simp at h1
 |succ l=>rw[dG] at h1 h2;exact⟨(l,j),o,hv,h1,h2,h3⟩
theorem Aq{own:List Obj}{Ω:Store}{bo:List Value}{bΩ:Hs}{b:Nat}(h:Own Ω bΩ b):Own (own::Ω) (bo::bΩ) b:=by
 obtain⟨⟨l,j⟩,o,hv,h1,h2,h3⟩:=h;exact⟨(l+1,j),o,hv,by rw[dG];exact h1,by rw[dG];exact h2,h3⟩
theorem Fj:∀(args:List V)(i t:Nat),look (mV args i) t=if i<=t then(args[t-i]?).getD .any else .any
 |[],i,t=>by simp[mV,look]
 |v::args,i,t=>by
  rw[mV,look,Fj args (i+1) t];by_cases h1:i=t
  ·subst h1;simp
  ·rw[if_neg h1];by_cases h2:i+1<=t
   ·rw[if_pos h2,if_pos gA];rw[show t-i=(t-(i+1))+1 from gA];rfl
   ·rw[if_neg h2,if_neg gA]
theorem sP{f:FuncId}{fn:Func}{c:Code}{args:List V}{post:V->Store->Prop}(hf:P.funcs[f]? =some fn)(hb:fn.body=some c)(hn:(fn.name== "runtime.NumGoroutine")=false)
 (hl:args.length<=fn.ntmps)(h:AW P fn.ntmps c (ajR P fn.results.toList post) ⟨mV (args.map (V.up 1)) 0,[]::S⟩):bS P f args S post:=by
 refine⟨⟨fn,hf,hn,by simp[hb]⟩,fun w σ β vs hS hargs=> ?_⟩;refine calls_of_wp hf hb ?_;have hlen:vs.length=args.length:=hargs.1.symm
 have Yk:lU fn.ntmps ⟨mV (args.map (V.up 1)) 0,[]::S⟩ {tmps:=vs.toArray++Array.replicate (fn.ntmps-vs.toArray.size) undef,defers:=[]} w σ ([]::β):=by
  refine⟨gR,rfl,hS.up1,fun t=> ?_⟩;show dR w σ ([]::S) ([]::β) (look (mV (args.map (V.up 1)) 0) t) _;rw[Fj,if_pos (an _),Nat.sub_zero,bE]
  cases ha:args[t]? with
  |none=>exact trivial
  |some x=>
   obtain⟨v,hv,hr⟩:=hargs.2 t x ha;have ht:=(ap.1 hv).1
   have:(vs.toArray++Array.replicate (fn.ntmps-vs.toArray.size) undef).getD t undef=v:=by
    rw[eh,cU (by simpa using ht)];simp[hv]
   rw[this];exact NY (S:=[]::S) (β:=[]::β) 1 hr
 refine wp_mono (h _ w σ ([]::β) Yk) ?_;rintro e a' w' ⟨s',σ',β',hR,hst,hkp,hq⟩
 have main:(sj P fn.results.toList s').1/\(match(sj P fn.results.toList s').2.ret with|some r=>post r (iD s'.st)|none=>False)->
  a'.defers=[]/\∃v,(results fn a'.tmps).run P w'=.ok v w'/\∃v_1 r S' σ' β',Ending.returned v=Ending.returned v_1/\fC w' σ' S' β'/\Keep S β S' β'/\Step S β σ w S' β' σ' w'/\dR w' σ' S' β' r v_1/\post r S':=by
  rintro⟨q1,q2⟩;obtain⟨v,hv,hrep⟩:=L8 (fn:=fn) hR q1;split at q2
  ·rename_i r hr;obtain⟨tm,st⟩:=s';have asD:=Yj hr hrep;refine⟨hR.defers,v,hv,v,r,iD st,σ',iD β',rfl,?_,hkp,?_,asD,q2⟩
   ·cases st with
    |nil=>
     cases β' with
     |nil=>exact hR.S
     |cons=>have:=hR.S.shape.1;simp at this
    |cons own Ω=>
     cases β' with
     |nil=>have:=hR.S.shape.1;simp at this
     |cons bo bΩ=>exact hR.S.NZ
   ·refine⟨hst.size,hst.os,hst.output,fun b hb ho=>hst.far b hb (fun x=>ho (FT x)),hst.near,fun b hb=> ?_⟩
    cases st with
    |nil=>obtain⟨k,o,hv,h1,_⟩:=hb;simp[iD,rH] at h1
    |cons own Ω=>
     cases β' with
     |nil=>obtain⟨k,o,hv,h1,h2,_⟩:=hb;simp[iD,rH] at h2
     |cons bo bΩ=>exact(hst.own b (Aq hb)).imp FT id
  ·exact q2.elim
 cases e with
 |normal=>exact main hq
 |ret=>exact main hq
 |_=>exact hq.elim
end
def vL:Op->Bool
 | .alloc _=>true
 | .box _ _=>true
 | .store _ _ _=>true
 | .makeSlice _ _ _=>true
 | .makeMap _ none=>true
 | .mapUpdate _ _ _ _=>true
 | .call {callee:=.builtin .append,args:=_,argTypes:=_}=>true
 |_=>false
def Cv:Op->Bool
 | .store _ _ _=>true
 | .mapUpdate _ _ _ _=>true
 |_=>false
def kZ:Op->Bool
 | .call {callee:=.value _,args:=_,argTypes:=_}=>true
 |_=>false
abbrev Md:=Op->Nat
def gT(E:Md)(op:Op):Bool:=vL op||(decide (1<=E op)&&kZ op)
def nN(E:Md)(op:Op):Bool:=Cv op||(decide (2<=E op)&&kZ op)
theorem ajT{E:Md}{op:Op}(h:vL op=true):gT E op=true:=by simp[gT,h]
theorem agM{E:Md}{op:Op}(h:nN E op=true):gT E op=true:=by
 unfold nN gT at *
 rw[dk] at h ⊢;refine h.imp (fun hs=> ?_) (fun h=> ?_)
 ·cases op<;>first|rfl|simp[Cv] at hs
 ·rw[ai,decide_eq_true_eq] at h ⊢;exact⟨gA,h.2⟩
def DS(S S':Store):Prop:=∀k o,bC S k=some o->bC S' k=some o\/((∃z es,wC o z es)/\∃o' z es,bC S' k=some o'/\wC o' z es)
def Kl(P:Program)(tm:List (Nat×V))(c:Call)(r:V):Prop:=
 match c.callee with
 | .value x=>match ev tm x with
   | .c (.fn f caps)=>aD P f (c.args.toList.map (ev tm)++caps.map fun y=>.c (.ptr y.1 y.2)) r
   |_=>False
 |_=>False
def gU(P:Program)(E:Md)(o:Oper)(s:St)(K:St->Prop):Prop:=
 if vL o.op then dP P o s K else
 match o.op with
 | .call {callee:=.value x,args,argTypes}=>match E (.call {callee:=.value x,args,argTypes}) with
   |0=>∃r,Kl P s.tm {callee:=.value x,args,argTypes} r/\K (s.put o.dst r)
   |1=>∃S' v,DS s.st S'/\dP P o s (fun t=>t=St.put ⟨s.tm,S'⟩ o.dst v)/\K (St.put ⟨s.tm,S'⟩ o.dst v)
   |_=>∃S' v,dP P o s (fun t=>t=St.put ⟨s.tm,S'⟩ o.dst v)/\K (St.put ⟨s.tm,S'⟩ o.dst v)
 |op=>(nval P s.st s.tm op).1/\K (s.put o.dst (nval P s.st s.tm op).2)
def tC(P:Program)(E:Md)(R:Array Oper)(o:Oper)(s:St)(K:St->Prop):Prop:=
 match o.guard with
 |none=>gU P E o s K
 |some (j,want)=>
  match(iw R j).map (look s.tm) with
  |some (.c (.d (.b x)))=>(x=want->gU P E o s K)/\(x= !want->K (s.put o.dst (.eu [])))
  |some (.eu [])=>K (s.put o.dst (.eu []))
  |_=>False
def xR(P:Program)(E:Md)(R:Array Oper):List Oper->St->(St->Prop)->Prop
 |[],s,K=>K s
 |o::os,s,K=>tC P E R o s fun s'=>xR P E R os s' K
def NV(P:Program)(S:Store)(tm:List (Nat×V))(op:Op)(v:V):Prop:=
 (∃c,op=.call c/\Kl P tm c v)\/((nval P S tm op).1/\v=(nval P S tm op).2)
def gd(R:Array Oper)(o:Oper)(tm:List (Nat×V)):Option Bool:=
 match o.guard with
 |none=>some true
 |some (j,want)=>
  match(iw R j).map (look tm) with
  |some (.c (.d (.b x)))=>some (x==want)
  |some (.eu [])=>some false
  |_=>none
def pQ(P:Program)(E:Md)(R:Array Oper)(o:Oper)(s:St)(v:V)(s':St):Prop:=
 (gd R o s.tm=some false/\v=.eu []/\s'=s.put o.dst v)\/
 (gd R o s.tm=some true/\gT E o.op=false/\NV P s.st s.tm o.op v/\s'=s.put o.dst v)\/
 (gd R o s.tm=some true/\gT E o.op=true/\dP P o s (fun t=>t=s')/\s'=St.put ⟨s.tm,s'.st⟩ o.dst v/\(vL o.op=false->nN E o.op=false->DS s.st s'.st))
section
variable {P:Program} {w w':World} {σ σ':Nat->Nat} {S S':Store} {β β':Hs} {N:Nat} {s:St} {a:Act}
theorem vX{dst:Option Nat}{o:Obj}{mk:Key->V}{K:St->Prop}(h:newObj s dst o mk K):∃S' v,newObj s dst o mk (fun t=>t=St.put ⟨s.tm,S'⟩ dst v)/\K (St.put ⟨s.tm,S'⟩ dst v):=by
 unfold newObj at h ⊢;split at h
 ·rename_i own Ω hst;exact⟨_,_,rfl,h⟩
 ·exact h.elim
theorem an7{b:Bool}{es x:List (List D)}{z:Nat}{dst:Option Nat}{K:St->Prop}(h:Et b es s dst z x K):∃S' v,Et b es s dst z x (fun t=>t=St.put ⟨s.tm,S'⟩ dst v)/\K (St.put ⟨s.tm,S'⟩ dst v):=by
 cases b with
 |false=>exact vX (o:=.tok z x) (mk:=fun k=>.c (.bJ k x)) h
 |true=>
  obtain⟨S',v,h1,h2⟩:=vX (o:=.fM z x) (mk:=fun k=>.c (.jO k)) h.2;exact⟨S',v,⟨h.1,h1⟩,h2⟩
theorem an8{l:Option Nat}{es x:List (List D)}{z:Nat}{dst:Option Nat}{K:St->Prop}(h:Gg l es s dst z x K):∃S' v,Gg l es s dst z x (fun t=>t=St.put ⟨s.tm,S'⟩ dst v)/\K (St.put ⟨s.tm,S'⟩ dst v):=by
 cases l with
 |none=>exact an7 h
 |some n=>
  cases es with
  |nil=>exact⟨s.st,_,rfl,h⟩
  |cons y es=>exact vX (o:=.tok z x) (mk:=fun k=>.c (.bJ k x)) h
theorem an9{b:Bool}{n:Nat}{x:List (List D)}{z:Nat}{dst:Option Nat}{K:St->Prop}(h:I4 b n s dst z x K):∃S' v,I4 b n s dst z x (fun t=>t=St.put ⟨s.tm,S'⟩ dst v)/\K (St.put ⟨s.tm,S'⟩ dst v):=by
 cases b with
 |false=>exact vX (o:=.eP n z x) (mk:=fun k=>.c (.bJ k x)) h
 |true=>exact⟨s.st,_,rfl,h⟩
theorem ajU{o:Oper}{K:St->Prop}(hD:vL o.op=true)(h:dP P o s K):∃S' v,dP P o s (fun t=>t=St.put ⟨s.tm,S'⟩ o.dst v)/\K (St.put ⟨s.tm,S'⟩ o.dst v):=by
 obtain⟨dst,op,ty,pos,after,guard⟩:=o
 cases op with
 |alloc t=>
  simp only[dP,yj] at h ⊢;split at h
  ·exact vX h
  ·exact h.elim
 |box t x=>
  simp only[dP,Gf] at h ⊢;split at h
  ·exact vX h
  ·exact h.elim
 |makeSlice t l c=>
  simp only[dP,Bo] at h ⊢;split at h
  ·split at h
   ·obtain⟨h1,h2,h3,h4,h5,h6⟩:=h;obtain⟨S',v,k1,k2⟩:=vX h6;exact⟨S',v,⟨h1,h2,h3,h4,h5,k1⟩,k2⟩
   ·exact h.elim
  ·exact h.elim
 |store t x y=>
  simp only[dP,yt] at h ⊢;split at h
  ·split at h
   ·obtain⟨h1,h2,h3,h4⟩:=h;exact⟨_,_,⟨h1,h2,h3,rfl⟩,h4⟩
   ·exact h.elim
  ·split at h
   ·obtain⟨h1,h2,h3,h4,h5⟩:=h;exact⟨_,_,⟨h1,h2,h3,h4,rfl⟩,h5⟩
   ·exact h.elim
  ·split at h
   ·split at h
    ·split at h
     ·obtain⟨h1,h2,h3,h4,h5,h6⟩:=h;exact⟨_,_,⟨h1,h2,h3,h4,h5,rfl⟩,h6⟩
     ·exact h.elim
    ·exact h.elim
   ·exact h.elim
  ·exact h.elim
 |makeMap t r=>
  cases r with
  |none=>
   simp only[dP,xD] at h ⊢;exact vX h
  |some r=>simp[vL] at hD
 |mapUpdate t x y z=>
  simp only[dP,xE] at h ⊢;split at h
  ·split at h
   ·exact⟨_,_,rfl,h⟩
   ·exact h.elim
  ·exact h.elim
 |call c=>
  obtain⟨DL,args,Br⟩:=c
  cases DL with
  |builtin b=>
   cases b with
   |append=>
    simp only[dP,qz] at h ⊢;split at h
    ·simp only[vK] at h ⊢;split at h
     ·obtain⟨h1,h2,h3,h4⟩:=h;split at h4
      ·split at h4
       ·obtain⟨k1,k2,k3,k4⟩:=h4;exact⟨_,_,⟨h1,h2,h3,k1,k2,k3,rfl⟩,k4⟩
       ·obtain⟨k1,k2,k3,k4⟩:=h4;exact⟨_,_,⟨h1,h2,h3,k1,k2,k3,rfl⟩,k4⟩
       ·exact h4.elim
      ·obtain⟨k1,k2,k3⟩:=h4;obtain⟨S',v,l1,l2⟩:=an8 k3;exact⟨S',v,⟨h1,h2,h3,k1,k2,l1⟩,l2⟩
      ·obtain⟨k1,k2,k3⟩:=h4;obtain⟨S',v,l1,l2⟩:=an9 k3;exact⟨S',v,⟨h1,h2,h3,k1,k2,l1⟩,l2⟩
      ·exact h4.elim
     ·exact h.elim
    ·exact h.elim
   |_=>simp[vL] at hD
  |_=>simp[vL] at hD
 |_=>simp[vL] at hD
theorem agN{tm tm':List (Nat×V)}{dst:Option Nat}{o:Obj}{mk:Key->V}{v:V}(h:newObj ⟨tm,S⟩ dst o mk (fun t=>t=St.put ⟨tm,S'⟩ dst v))(hd:dst≠none):
 newObj ⟨tm',S⟩ dst o mk (fun t=>t=St.put ⟨tm',S'⟩ dst v):=by
 unfold newObj at h ⊢
 cases S with
 |nil=>exact h
 |cons own Ω=>
  cases dst with
  |none=>exact absurd rfl hd
  |some d=>
   simp only[St.put,St.mk.injEq,eK,Prod.mk.injEq,and_true,true_and] at h ⊢;exact h
theorem adY{tm tm':List (Nat×V)}{o:Obj}{mk:Key->V}{v:V}(h:newObj ⟨tm,S⟩ none o mk (fun t=>t=St.put ⟨tm,S'⟩ none v)):
 newObj ⟨tm',S⟩ none o mk (fun t=>t=St.put ⟨tm',S'⟩ none v):=by
 unfold newObj at h ⊢
 cases S with
 |nil=>exact h
 |cons own Ω=>
  simp only[St.put,St.mk.injEq,true_and] at h ⊢;exact h
theorem uH{tm tm':List (Nat×V)}{dst:Option Nat}{o:Obj}{mk:Key->V}{v:V}(h:newObj ⟨tm,S⟩ dst o mk (fun t=>t=St.put ⟨tm,S'⟩ dst v)):
 newObj ⟨tm',S⟩ dst o mk (fun t=>t=St.put ⟨tm',S'⟩ dst v):=by
 cases dst with
 |none=>exact adY h
 |some d=>exact agN h gL
theorem zJ{tm tm':List (Nat×V)}{dst:Option Nat}{S1 S2:Store}{v v':V}(h:St.put ⟨tm,S1⟩ dst v=St.put ⟨tm,S2⟩ dst v'):St.put ⟨tm',S1⟩ dst v=St.put ⟨tm',S2⟩ dst v':=by
 cases dst with
 |none=>simp only[St.put,St.mk.injEq,true_and] at h ⊢;exact h
 |some d=>simp only[St.put,St.mk.injEq,eK,Prod.mk.injEq,and_true,true_and] at h ⊢;exact h
theorem ajV{b:Bool}{es x:List (List D)}{z:Nat}{tm tm':List (Nat×V)}{dst:Option Nat}{v:V}(h:Et b es ⟨tm,S⟩ dst z x (fun t=>t=St.put ⟨tm,S'⟩ dst v)):
 Et b es ⟨tm',S⟩ dst z x (fun t=>t=St.put ⟨tm',S'⟩ dst v):=by
 cases b with
 |false=>exact uH (o:=.tok z x) (mk:=fun k=>.c (.bJ k x)) h
 |true=>exact⟨h.1,uH (o:=.fM z x) (mk:=fun k=>.c (.jO k)) h.2⟩
theorem ajW{l:Option Nat}{es x:List (List D)}{z:Nat}{tm tm':List (Nat×V)}{dst:Option Nat}{v:V}(h:Gg l es ⟨tm,S⟩ dst z x (fun t=>t=St.put ⟨tm,S'⟩ dst v)):
 Gg l es ⟨tm',S⟩ dst z x (fun t=>t=St.put ⟨tm',S'⟩ dst v):=by
 cases l with
 |none=>exact ajV h
 |some n=>
  cases es with
  |nil=>exact zJ h
  |cons y es=>exact uH (o:=.tok z x) (mk:=fun k=>.c (.bJ k x)) h
theorem ajX{b:Bool}{n:Nat}{x:List (List D)}{z:Nat}{tm tm':List (Nat×V)}{dst:Option Nat}{v:V}(h:I4 b n ⟨tm,S⟩ dst z x (fun t=>t=St.put ⟨tm,S'⟩ dst v)):
 I4 b n ⟨tm',S⟩ dst z x (fun t=>t=St.put ⟨tm',S'⟩ dst v):=by
 cases b with
 |false=>exact uH (o:=.eP n z x) (mk:=fun k=>.c (.bJ k x)) h
 |true=>exact zJ h
theorem ajY{o:Oper}{tm tm':List (Nat×V)}{v:V}(hD:vL o.op=true)(he:∀x∈o.op.operands,ev tm x=ev tm' x)(h:dP P o ⟨tm,S⟩ (fun t=>t=St.put ⟨tm,S'⟩ o.dst v)):
 dP P o ⟨tm',S⟩ (fun t=>t=St.put ⟨tm',S'⟩ o.dst v):=by
 obtain⟨dst,op,ty,pos,after,guard⟩:=o
 cases op with
 |alloc t=>
  simp only[dP,yj] at h ⊢;split at h
  ·exact uH h
  ·exact h.elim
 |box t x=>
  have e1:=he x gS;simp only[dP,Gf,e1] at h ⊢;split at h
  ·exact uH h
  ·exact h.elim
 |makeSlice t l c=>
  have e1:=he l gS;have e2:=he c gS;simp only[dP,Bo,e1,e2] at h ⊢;split at h
  ·split at h
   ·obtain⟨h1,h2,h3,h4,h5,h6⟩:=h;exact⟨h1,h2,h3,h4,h5,uH h6⟩
   ·exact h.elim
  ·exact h.elim
 |store t x y=>
  have e1:=he x gS;have e2:=he y gS;simp only[dP,yt,e1,e2] at h ⊢;split at h
  ·split at h
   ·obtain⟨h1,h2,h3,h4⟩:=h;exact⟨h1,h2,h3,zJ h4⟩
   ·exact h.elim
  ·split at h
   ·obtain⟨h1,h2,h3,h4,h5⟩:=h;exact⟨h1,h2,h3,h4,zJ h5⟩
   ·exact h.elim
  ·split at h
   ·split at h
    ·split at h
     ·obtain⟨h1,h2,h3,h4,h5,h6⟩:=h;exact⟨h1,h2,h3,h4,h5,zJ h6⟩
     ·exact h.elim
    ·exact h.elim
   ·exact h.elim
  ·exact h.elim
 |makeMap t r=>
  cases r with
  |none=>
   simp only[dP,xD] at h ⊢;exact uH h
  |some r=>simp[vL] at hD
 |mapUpdate t x y z=>
  have e1:=he x gS;have e2:=he y gS;have e3:=he z gS;simp only[dP,xE,e1,e2,e3] at h ⊢;split at h
  ·split at h
   ·exact zJ h
   ·exact h.elim
  ·exact h.elim
 |call c=>
  obtain⟨DL,args,Br⟩:=c
  cases DL with
  |builtin b=>
   cases b with
   |append=>
    simp only[dP,qz] at h ⊢;split at h
    ·rename_i x y t u hxy htu
     have hargs:args= #[x,y]:=by rw[<-cH (xs:=args),hxy]
     have e1:=he x (by simp[Op.operands,Call.operands,hargs]);have e2:=he y (by simp[Op.operands,Call.operands,hargs]);simp only[vK,e1,e2] at h ⊢;split at h
     ·obtain⟨h1,h2,h3,h4⟩:=h;refine⟨h1,h2,h3,?_⟩;split at h4
      ·split at h4
       ·obtain⟨k1,k2,k3,k4⟩:=h4;exact⟨k1,k2,k3,zJ k4⟩
       ·obtain⟨k1,k2,k3,k4⟩:=h4;exact⟨k1,k2,k3,zJ k4⟩
       ·exact h4.elim
      ·obtain⟨k1,k2,k3⟩:=h4;exact⟨k1,k2,ajW k3⟩
      ·obtain⟨k1,k2,k3⟩:=h4;exact⟨k1,k2,ajX k3⟩
      ·exact h4.elim
     ·exact h.elim
    ·exact h.elim
   |_=>simp[vL] at hD
  |_=>simp[vL] at hD
 |_=>simp[vL] at hD
theorem ajZ{f:FuncId}{args:List V}{tm tm':List (Nat×V)}{dst:Option Nat}{v:V}(h:Dg P f args ⟨tm,S⟩ dst (fun t=>t=St.put ⟨tm,S'⟩ dst v)):Dg P f args ⟨tm',S⟩ dst (fun t=>t=St.put ⟨tm',S'⟩ dst v):=by
 rcases h with⟨post,h1,h2⟩|⟨r,h1,h2⟩
 ·exact .inl ⟨post,h1,fun r XI hp=>zJ (h2 r XI hp)⟩
 ·exact .inr ⟨r,h1,zJ h2⟩
theorem aj0{E:Md}{o:Oper}{tm tm':List (Nat×V)}{v:V}(hD:gT E o.op=true)(he:∀x∈o.op.operands,ev tm x=ev tm' x)(h:dP P o ⟨tm,S⟩ (fun t=>t=St.put ⟨tm,S'⟩ o.dst v)):
 dP P o ⟨tm',S⟩ (fun t=>t=St.put ⟨tm',S'⟩ o.dst v):=by
 by_cases hd:vL o.op=true
 ·exact ajY hd he h
 ·have hc:kZ o.op=true:=by
   unfold gT at hD;rw[dk,ai] at hD;rcases hD with h|h
   ·exact absurd h hd
   ·exact h.2
  obtain⟨dst,op,ty,pos,after,guard⟩:=o
  cases op with
  |call c=>
   obtain⟨DL,args,Br⟩:=c
   cases DL with
   |value x=>
    have h1:args.toList.map (ev tm)=args.toList.map (ev tm'):=cQ fun y hy=>he y (by simp[Op.operands,Call.operands];exact .inr (by simpa using hy));have h2:ev tm x=ev tm' x:=he x (by simp[Op.operands,Call.operands]);simp only[dP,qz,h1,h2] at h ⊢;split at h
    ·exact ajZ h
    ·exact h.elim
   |_=>simp[kZ] at hc
  |_=>simp[kZ] at hc
theorem aoa{tm tm':List (Nat×V)}{op:Op}(he:∀x∈op.operands,ev tm x=ev tm' x):nval P S tm op=nval P S tm' op:=by
 unfold nval qy
 split<;>try rfl
 ·rw[he _ gS]
 ·rw[he _ gS]
 ·rename_i c x y;rw[he c gS,he x gS,he y gS]
 ·rw[he _ gS]
 ·rw[he _ gS]
 ·rw[he _ gS]
 ·rename_i t x i;rw[he x gS,he i gS]
 ·rename_i t x i;rw[he x gS,he i gS]
 ·rename_i op t x y _;rw[he x gS,he y gS]
 ·rw[he _ gS]
 ·rw[he _ gS]
 ·rw[he _ gS]
 ·rename_i fn first caps
  have h1:first.toList.map (ev tm)=first.toList.map (ev tm'):=cQ fun x hx=>he x (by simp[Op.operands];exact .inl (by simpa using hx))
  have h2:caps.toList.map (ev tm)=caps.toList.map (ev tm'):=cQ fun x hx=>he x (by simp[Op.operands];exact .inr (by simpa using hx));rw[h1,h2]
 ·rw[he _ gS]
 ·rename_i t x lo hi mx;rw[he x gS]
  have h1:lo.map (ev tm)=lo.map (ev tm'):=by
   cases lo with
   |none=>rfl
   |some y=>simp[he y gS]
  have h2:hi.map (ev tm)=hi.map (ev tm'):=by
   cases hi with
   |none=>rfl
   |some y=>simp[he y gS]
  have h3:mx.map (ev tm)=mx.map (ev tm'):=by
   cases mx with
   |none=>rfl
   |some y=>simp[he y gS]
  rw[h1,h2,h3]
 ·rename_i t parts
  have h1:(parts.toList.map fun x=>(x.1,ev tm x.2))=parts.toList.map fun x=>(x.1,ev tm' x.2):=cQ fun x hx=>by
   rw[he x.2 (by simp only[Op.operands,List.mem_toArray,cr];exact⟨x,hx,rfl⟩)]
  rw[h1]
 ·rename_i t n parts
  have h1:(parts.toList.map fun x=>(x.1,ev tm x.2))=parts.toList.map fun x=>(x.1,ev tm' x.2):=cQ fun x hx=>by
   rw[he x.2 (by simp only[Op.operands,List.mem_toArray,cr];exact⟨x,hx,rfl⟩)]
  rw[h1]
 ·rename_i t x i;rw[he x gS,he i gS]
 ·rename_i args Br;split
  ·rename_i x t hx ht
   have hargs:args= #[x]:=by rw[<-cH (xs:=args),hx]
   rw[he x (by simp[Op.operands,Call.operands,hargs])]
  ·rfl
 ·rename_i args Br;split
  ·rename_i x y hx
   have hargs:args= #[x,y]:=by rw[<-cH (xs:=args),hx]
   rw[he x (by simp[Op.operands,Call.operands,hargs]),he y (by simp[Op.operands,Call.operands,hargs])]
  ·rfl
 ·rename_i args Br;split
  ·rename_i x y hx
   have hargs:args= #[x,y]:=by rw[<-cH (xs:=args),hx]
   rw[he x (by simp[Op.operands,Call.operands,hargs]),he y (by simp[Op.operands,Call.operands,hargs])]
  ·rfl
theorem aj1{tm tm':List (Nat×V)}{c:Call}{v:V}(he:∀x∈c.operands,ev tm x=ev tm' x)(h:Kl P tm c v):Kl P tm' c v:=by
 unfold Kl at h ⊢;obtain⟨DL,args,Br⟩:=c
 cases DL with
 |value x=>
  simp only at h ⊢;rw[<-he x (by simp[Call.operands])];have h1:args.toList.map (ev tm)=args.toList.map (ev tm'):=cQ fun y hy=>he y (by simp[Call.operands];exact .inr (by simpa using hy));rw[<-h1];exact h
 |_=>exact h
def Yl:Obj->Prop
 | .box _=>True
 | .fM _ _=>True
 | .mp _=>True
 | .xf _=>True
 |_=>False
def N7(v:V)(k:Key):Prop:=(∃off,v=.c (.ptr k off))\/(∃i off,v=.c (.nM k i off))\/v=.c (.jO k)\/v=.c (.mp k)\/(∃r p,v=.c (.xp k r p))\/∃r p z i off,v=.c (.xq k r p z i off)
def Fix(S S':Store):Prop:=∀k o,bC S k=some o->Yl o->bC S' k=some o
theorem jf{q:Prop}(h:no.1):q:=h.elim
theorem aj2{l:Option Nat}{tm:List (Nat×V)}{op:Op}(h:(qy P l S tm op).1)
 (hf:∀x∈op.operands,∀k,N7 (ev tm x) k->
   ∀o,bC S k=some o->Yl o->bC S' k=some o):qy P l S' tm op=qy P l S tm op:=by
 unfold qy at h ⊢
 split at h<;>try rfl
 ·rename_i t x;have hf:=hf x gS;unfold Fe at h ⊢;split at h
  ·rfl
  ·split at h
   ·rename_i hx;simp only[hx]
   ·rename_i k off hx;split at h
    ·rename_i cs hk;rw[hf k (.inl ⟨off,hx⟩) _ hk trivial]
    ·exact jf h
   ·rename_i k i off hx;split at h
    ·rename_i bB es hk;rw[hf k (.inr (.inl ⟨i,off,hx⟩)) _ hk trivial]
    ·exact jf h
   ·rename_i k r p z i off hx;split at h
    ·rename_i rs hk;rw[hf k (.inr (.inr (.inr (.inr (.inr ⟨r,p,z,i,off,hx⟩))))) _ hk trivial]
    ·exact jf h
   ·exact jf h
 ·rename_i t x f;have hf:=hf x gS;unfold wD at h ⊢;split at h
  ·split at h
   ·split at h
    ·exact jf h
    ·rename_i fs hs _ fd hfd hne;split at h
     ·rename_i hx;simp[hs,hfd,hne,hx]
     ·rename_i k off hx;split at h
      ·rename_i cs hk;simp only[hs,hfd,hne,if_false,hx,hf k (.inl ⟨off,hx⟩) _ hk trivial,hk]
      ·exact jf h
     ·rename_i k i off hx;split at h
      ·rename_i bB es hk;simp only[hs,hfd,hne,if_false,hx,hf k (.inr (.inl ⟨i,off,hx⟩)) _ hk trivial,hk]
      ·exact jf h
     ·rename_i k r p z i off hx;split at h
      ·rename_i rs hk;simp only[hs,hfd,hne,if_false,hx,hf k (.inr (.inr (.inr (.inr (.inr ⟨r,p,z,i,off,hx⟩))))) _ hk trivial,hk]
      ·exact jf h
     ·exact jf h
   ·exact jf h
  ·exact jf h
 ·rename_i t x i;have hf:=hf x gS;unfold wE at h ⊢;split at h
  ·rename_i e k n' n ht hx hi;split at h
   ·rename_i bB es hk;simp only[ht,hx,hi,hf k (.inr (.inr (.inl hx))) _ hk trivial,hk]
   ·exact jf h
  ·rename_i len e k off n' n ht hx hi;split at h
   ·rename_i cs hk;simp only[ht,hx,hi,hf k (.inl ⟨off,hx⟩) _ hk trivial,hk]
   ·exact jf h
  ·rename_i e k r p n' n ht hx hi;split at h
   ·rename_i rs hk;simp only[ht,hx,hi,hf k (.inr (.inr (.inr (.inr (.inl ⟨r,p,hx⟩))))) _ hk trivial,hk]
   ·exact jf h
  ·rename_i e y n' n hy hy2 ht hx hi;simp only[ht,hx,hi]
  ·exact jf h
 ·rename_i x;have hf:=hf x gS;unfold Al at h ⊢;split at h
  ·rename_i k off hx;split at h
   ·rename_i cs hk;simp only[hx,hf k (.inl ⟨off,hx⟩) _ hk trivial,hk]
   ·exact jf h
  ·rename_i hx;simp only[hx]
  ·exact jf h
 ·rename_i t x i;have hf:=hf x gS;unfold Cq at h ⊢;split at h
  ·rename_i kt et k l ht Bh hi;split at h
   ·rename_i m hk hkt hz;simp only[ht,Bh,hi,hf k (.inr (.inr (.inr (.inl Bh)))) _ hk trivial,hk,hkt,hz]
   ·exact jf h
  ·exact jf h
 ·rename_i args Br;split at h
  ·rename_i x t hx ht
   have hargs:args= #[x]:=by rw[<-cH (xs:=args),hx]
   have hf:=hf x (by simp[Op.operands,Call.operands,hargs]);unfold Ke at h ⊢;split at h
   ·rename_i l Q7 Bh;simp only[Q7,Bh]
   ·rename_i n e Q7;simp only[Q7]
   ·rename_i e k Q7 Bh;split at h
    ·rename_i bB es hk;simp only[Q7,Bh,hf k (.inr (.inr (.inl Bh))) _ hk trivial,hk]
    ·exact jf h
   ·rename_i e k r p Q7 Bh;split at h
    ·rename_i rs hk;simp only[Q7,Bh,hf k (.inr (.inr (.inr (.inr (.inl ⟨r,p,Bh⟩))))) _ hk trivial,hk]
    ·exact jf h
   ·rename_i e y hy hy2 Q7 Bh;simp only[Q7,Bh]
   ·exact jf h
  ·exact jf h
end
def zY(acc:List Nat):List Edge->Nat
 |[]=>0
 |e::es=>(if Region.binds .any e then 2^e.on ||| acc.getD e.on 0 else 0) ||| zY acc es
def masks:List Oper->List Nat->List Nat
 |[],acc=>acc
 |o::os,acc=>masks os (acc++[zY acc o.after.toList])
def clash(E:Md)(R:Array Oper)(x y:Oper):Bool:= !(x.apart R y)||(gT E x.op&&gT E y.op)||nN E x.op||nN E y.op
def DN(E:Md)(R:Array Oper)(N:Nat):Bool:=
 (List.range R.size).all fun j=>
   (match R[j]? with
    |some o=>o.after.toList.all (fun e=> !Region.binds .any e||decide (e.on<j))&&(match o.dst with|some d=>decide (d<N)|none=>true)
    |none=>true)&&
   (List.range j).all fun i=>
     match R[i]?,R[j]? with
     |some x,some y=>((masks R.toList []).getD j 0).testBit i|| !(clash E R x y)
     |_,_=>true
def wF(R:Array Oper)(i j:Nat):Bool:=if i<j then((masks R.toList []).getD j 0).testBit i else((masks R.toList []).getD i 0).testBit j
def pU(E:Md)(R:Array Oper)(x y:Oper):Bool:= !(x.apart R y)||(gT E x.op&&gT E y.op)
def settled(R:Array Oper)(i:Nat):Operand->Bool
 | .tmp t=>(List.range R.size).all fun n=>decide (n<i)|| !(iw R n==some t)
 |_=>true
def zK(R:Array Oper)(i:Nat)(x:Oper)(j:Nat)(y:Oper):Bool:=kZ y.op||match x.op with
 | .store _ a _=>settled R i a&&y.op.operands.toList.all (settled R j)
 |_=>false
def N8(E:Md)(R:Array Oper)(N:Nat):Bool:=
 (List.range R.size).all fun j=>
   (match R[j]? with
    |some o=>o.after.toList.all (fun e=> !Region.binds .any e||decide (e.on<j))&&(match o.dst with|some d=>decide (d<N)|none=>true)
    |none=>true)&&
   (List.range j).all fun i=>
     match R[i]?,R[j]? with
     |some x,some y=>((masks R.toList []).getD j 0).testBit i|| !(pU E R x y||(nN E x.op&& !(zK R i x j y))||(nN E y.op&& !(zK R j y i x)))
     |_,_=>true
def adZ(v w:V):Bool:=
 match w with
 | .c (.ptr k _)=>(match v with| .c (.ptr k' _)=>k'.2 !=k.2| .c (.nM k' _ _)=>k'.2 !=k.2|_=>false)
 | .c (.nM k _ _)=>(match v with| .c (.ptr k' _)=>k'.2 !=k.2| .c (.nM k' _ _)=>k'.2 !=k.2|_=>false)
 | .c (.jO k)=>(match v with| .c (.ptr k' _)=>k'.2 !=k.2| .c (.nM k' _ _)=>k'.2 !=k.2|_=>false)
 | .c (.mp k)=>(match v with| .c (.ptr k' _)=>k'.2 !=k.2| .c (.nM k' _ _)=>k'.2 !=k.2|_=>false)
 | .c (.xp _ _ _)=>false
 | .c (.xq _ _ _ _ _ _)=>false
 |_=>true
def Xo(E:Md)(R:Array Oper)(tm:List (Nat×V)):Bool:=
 (List.range R.size).all fun i=>match R[i]? with
   |some x=> !(nN E x.op)||match x.op with
    | .store _ a _=>(List.range R.size).all fun j=>match R[j]? with
      |some y=>wF R i j||gT E y.op||kZ y.op||y.op.operands.toList.all (fun z=>adZ (ev tm a) (ev tm z))
      |none=>true
    |_=>true
   |none=>true
def TY(R:Array Oper)(i:Nat):Bool:=
 (List.range R.size).all fun j=>decide (j=i)||(if j<i then((masks R.toList []).getD i 0).testBit j else((masks R.toList []).getD j 0).testBit i)
def DR:Op->Option FuncId
 | .call {callee:=.value (.func f),args:=_,argTypes:=_}=>some f
 |_=>none
def Dh(R:Array Oper)(m:Nat):Md:=fun op=>if(List.range R.size).all (fun i=>match R[i]? with
 |some o=>(DR op !=DR o.op)||TY R i
 |none=>true) then 2 else m
def Cw:Op->Bool
 | .alloc _=>true
 |_=>false
def L9(E:Md)(R:Array Oper)(p:Nat):Bool:=match R[p]? with
 |some o=>Cw o.op&&o.guard.isNone&&o.dst.isSome&&(List.range R.size).all fun j=>match R[j]? with
  |some y=>decide (j=p)||y.apart R o||(List.range p).all fun i=>match R[i]? with
   |some x=> !(gT E x.op)||(decide (i<j)&&((masks R.toList []).getD j 0).testBit i)
   |none=>true
  |none=>true
 |none=>true
def agO(E:Md)(R:Array Oper)(p j:Nat)(x y:Oper):Bool:= !(x.apart R y)||(!(decide (j=p))&&((gT E x.op&&gT E y.op)||nN E x.op||nN E y.op))
def Jz(E:Md)(R:Array Oper)(N p:Nat):Bool:=
 L9 E R p&&(List.range R.size).all fun j=>
  (match R[j]? with
   |some o=>o.after.toList.all (fun e=> !Region.binds .any e||decide (e.on<j))&&(match o.dst with|some d=>decide (d<N)|none=>true)
   |none=>true)&&
  (List.range j).all fun i=>
    match R[i]?,R[j]? with
    |some x,some y=>((masks R.toList []).getD j 0).testBit i|| !(agO E R p j x y)
    |_,_=>true
def aj3(E:Md)(R:Array Oper)(N p:Nat):Bool:=
 L9 E R p&&(List.range R.size).all fun j=>
  (match R[j]? with
   |some o=>o.after.toList.all (fun e=> !Region.binds .any e||decide (e.on<j))&&(match o.dst with|some d=>decide (d<N)|none=>true)
   |none=>true)&&
  (List.range j).all fun i=>
    match R[i]?,R[j]? with
    |some x,some y=>((masks R.toList []).getD j 0).testBit i|| !(!(x.apart R y)||(!(decide (j=p))&&((gT E x.op&&gT E y.op)||(nN E x.op&& !(zK R i x j y))||(nN E y.op&& !(zK R j y i x)))))
    |_,_=>true
def aj4(R:Array Oper)(p i:Nat):Bool:=
 (List.range R.size).all fun j=>decide (j=i)||decide (j=p)||(if j<i then((masks R.toList []).getD i 0).testBit j else((masks R.toList []).getD j 0).testBit i)
def Q8(R:Array Oper)(p:Nat):Md:=fun op=>if(List.range R.size).all (fun i=>match R[i]? with
 |some o=>(DR op !=DR o.op)||aj4 R p i
 |none=>true) then 2 else 0
def PG(R:Array Oper)(p:Nat):Bool:=match R[p]? with
 |some o=>Cw o.op
 |none=>false
def pOf(R:Array Oper)(N:Nat):Option Nat:=(List.range R.size).find? fun p=>PG R p&&Jz (Q8 R p) R N p
def auz(R:Array Oper)(N:Nat):Option Nat:=(List.range R.size).find? fun p=>PG R p&&aj3 (Q8 R p) R N p
def Q9(R:Array Oper)(N:Nat):Md:=if DN (Dh R 1) R N then Dh R 1 else match pOf R N with
 |some p=>Q8 R p
 |none=>if DN (Dh R 0) R N then Dh R 0 else fun _=>0
def T9(R:Array Oper)(N:Nat):Bool:=DN (Q9 R N) R N||match pOf R N with
 |some p=>Jz (Q9 R N) R N p
 |none=>false
def DT(R:Array Oper)(N:Nat):Md:=if N8 (Dh R 1) R N then Dh R 1 else match auz R N with
 |some p=>Q8 R p
 |none=>if N8 (Dh R 0) R N then Dh R 0 else fun _=>0
section
variable {P:Program} {E:Md} {w w':World} {σ σ':Nat->Nat} {S S':Store} {β β':Hs} {N:Nat} {s:St} {a:Act} {R:Array Oper}
theorem Ma:∀(l:List Oper)(acc:List Nat)(i:Nat),i<acc.length->(masks l acc)[i]? =acc[i]?
 |[],acc,i,h=>rfl
 |o::os,acc,i,h=>by rw[masks,Ma os _ i gR,aq h]
theorem Ym:∀(l:List Oper)(acc:List Nat)(i:Nat)(o:Oper),l[i]? =some o->
 ∃acc',(∀j,j<acc.length+i->acc'[j]? =(masks l acc)[j]?)/\acc'.length=acc.length+i/\(masks l acc)[acc.length+i]? =some (zY acc' o.after.toList)
 |[],acc,i,o,h=>by simp at h
 |x::os,acc,0,o,h=>by
  simp at h;subst h;refine⟨acc,fun j hj=> ?_,gL,?_⟩
  ·rw[masks,Ma os _ j gR,aq gA]
  ·rw[masks,cR,Ma os _ _ gL,ag (ax _)];simp
 |x::os,acc,i+1,o,h=>by
  obtain⟨acc',h1,h2,h3⟩:=Ym os (acc++[zY acc x.after.toList]) i o (by simpa using h);refine⟨acc',fun j hj=> ?_,by rw[h2];simp;omega,?_⟩
  ·rw[masks];exact h1 j gR
  ·rw[masks,<-h3];congr 1;simp;omega
theorem Mc{acc:List Nat}{k:Nat}:∀(es:List Edge),(zY acc es).testBit k=true->∃e∈es,Region.binds .any e=true/\(e.on=k\/(acc.getD e.on 0).testBit k=true)
 |[],h=>by simp[zY] at h
 |e::es,h=>by
  rw[zY,Nat.testBit_or,dk] at h;rcases h with h|h
  ·by_cases hb:Region.binds .any e=true
   ·rw[if_pos hb,Nat.testBit_or,dk] at h;refine⟨e,gL,hb,?_⟩;rcases h with h|h
    ·left;rw[Nat.testBit_two_pow] at h;simpa using h
    ·exact .inr h
   ·rw[if_neg hb] at h;simp at h
  ·obtain⟨e',he',h'⟩:=Mc es h;exact⟨e',by simp[he'],h'⟩
theorem Ig(E:Nat->Prop)(hE:∀i o e,R[i]? =some o->E i->e∈o.after->Region.binds .any e=true->E e.on)(hlt:∀i o e,R[i]? =some o->e∈o.after->Region.binds .any e=true->e.on<i):
 ∀(i:Nat)(o:Oper),R[i]? =some o->(∀e∈o.after,Region.binds .any e=true->E e.on)->∀k,((masks R.toList []).getD i 0).testBit k=true->E k:=by
 intro i
 induction i using Nat.strongRecOn with
 |_ i ih=>
  intro o ho hed k hk;obtain⟨acc',h1,h2,h3⟩:=Ym R.toList [] i o (by simpa using ho);simp only[al,cG] at h1 h2 h3;rw[cz,h3] at hk;obtain⟨e,he,hb,hek⟩:=Mc _ hk
  have he':e∈o.after:=by simpa using he
  rcases hek with rfl|hek
  ·exact hed e he' hb
  ·have hon:=hlt i o e ho he' hb;have auA:=hed e he' hb;have hilt:i<R.size:=(bj.1 ho).1;have hsome:R[e.on]? =some R[e.on]:=cq gA;refine ih e.on hon _ hsome (fun e2 he2 hb2=>hE e.on _ e2 hsome auA he2 hb2) k ?_;rw[cz,h1 e.on gA] at hek;rw[cz];exact hek
def nJ(R:Array Oper)(vs:Nat->V)(E:Nat->Bool)(base:List (Nat×V)):Nat->Nat->V
 |0,t=>look base t
 |k+1,t=>if E k=true/\iw R k=some t then vs k else nJ R vs E base k t
theorem I6{vs:Nat->V}{E:Nat->Bool}{base:List (Nat×V)}{t i:Nat}:∀(n:Nat),(∀j,j<n->iw R j=some t->(E j=true<->j<i))->
 nJ R vs E base n t=nJ R vs (fun _=>true) base (min n i) t
 |0,_=>by simp[nJ]
 |n+1,h=>by
  have ih:=I6 (vs:=vs) (base:=base) n (fun j hj hd=>h j gA hd);rw[nJ];by_cases hd:iw R n=some t
  ·by_cases hE:E n=true
   ·have hni:=(h n gA hd).1 hE;rw[if_pos ⟨hE,hd⟩,show min (n+1) i=n+1 from gA,nJ,if_pos ⟨rfl,hd⟩]
   ·have hni:¬n<i:=fun hn=>hE ((h n gA hd).2 hn);rw[if_neg (fun x=>hE x.1),ih,show min (n+1) i=min n i from gA]
  ·rw[if_neg (fun x=>hd x.2),ih];by_cases hni:n<i
   ·rw[show min (n+1) i=n+1 from gA,show min n i=n from gA,nJ,if_neg (fun x=>hd x.2)]
   ·rw[show min (n+1) i=min n i from gA]
theorem Di{vs:Nat->V}{E E':Nat->Bool}{base:List (Nat×V)}{t:Nat}:∀(n:Nat),(∀j,j<n->iw R j=some t->E j=E' j)->nJ R vs E base n t=nJ R vs E' base n t
 |0,_=>rfl
 |n+1,h=>by
  rw[nJ,nJ,Di n (fun j hj hd=>h j gA hd)];by_cases hd:iw R n=some t
  ·rw[h n gA hd]
  ·rw[if_neg (fun x=>hd x.2),if_neg (fun x=>hd x.2)]
theorem Km{vs:Nat->V}{E:Nat->Bool}{base:List (Nat×V)}{t i:Nat}(hi:E i=true)(hd:iw R i=some t):∀(n:Nat),i<n->(∀j,j<n->i<j->iw R j=some t->E j=false)->nJ R vs E base n t=vs i
 |0,h,_=>by omega
 |n+1,h,hj=>by
  rw[nJ];by_cases hin:i=n
  ·subst hin;rw[if_pos ⟨hi,hd⟩]
  ·have:¬(E n=true/\iw R n=some t):=fun x=>by
    have:=hj n gA gA x.2;rw[this] at x;simp at x
   rw[if_neg this];exact Km hi hd n gA (fun j hjn hij hdj=>hj j gA hij hdj)
theorem OV{o:Oper}{s:St}{K:St->Prop}(h:tC P E R o s K):∃v s',pQ P E R o s v s'/\K s':=by
 have hN:∀(hg:gd R o s.tm=some true),gU P E o s K->∃v s',pQ P E R o s v s'/\K s':=by
  intro hg hx;unfold gU at hx;by_cases hD:vL o.op=true
  ·rw[if_pos hD] at hx;obtain⟨S',v,h1,h2⟩:=ajU hD hx;exact⟨v,_,.inr (.inr ⟨hg,ajT hD,h1,by rw[nR],fun h=>by rw[hD] at h;cases h⟩),h2⟩
  ·rw[if_neg hD] at hx
   have hD':vL o.op=false:=by simpa using hD
   split at hx
   ·rename_i x args Br hop
    have hcv:kZ o.op=true:=by rw[hop];rfl
    rw[<-hop] at hx;split at hx
    ·rename_i hE;obtain⟨r,h1,h2⟩:=hx;exact⟨r,_,.inr (.inl ⟨hg,by unfold gT;rw[hD',hE];rfl,.inl ⟨_,hop,h1⟩,rfl⟩),h2⟩
    ·rename_i hE;obtain⟨S',v,h0,h1,h2⟩:=hx;exact⟨v,_,.inr (.inr ⟨hg,by unfold gT;rw[hE,hcv];simp,h1,by rw[nR],fun _ _=>by rw[nR];exact h0⟩),h2⟩
    ·rename_i hE0 hE1;obtain⟨S',v,h1,h2⟩:=hx
     have h3:2<=E o.op:=by
      rcases fh (E o.op) 2 with h|h
      ·exfalso
       have:E o.op=0\/E o.op=1:=gA
       exact this.elim hE0 hE1
      ·exact h
     exact⟨v,_,.inr (.inr ⟨hg,by unfold gT;rw[hcv,cD,dk,decide_eq_true_eq];exact .inr gA,h1,by rw[nR],fun _ h=>by
      unfold nN at h;rw[hcv,cD,du,decide_eq_false_iff_not] at h
      exact absurd h3 h.2⟩),h2⟩
   ·rename_i hne;refine⟨_,_,.inr (.inl ⟨hg,?_,.inr ⟨hx.1,rfl⟩,rfl⟩),hx.2⟩
    have:kZ o.op=false:=by
     cases hc:kZ o.op with
     |false=>rfl
     |true=>
      exfalso;unfold kZ at hc;split at hc
      ·rename_i x a b ho;exact hne _ _ _ ho
      ·cases hc
    unfold gT;rw[hD',this];simp
 unfold tC at h;split at h
 ·rename_i hg;exact hN (by simp only[gd,hg]) h
 ·rename_i j want hg;split at h
  ·rename_i x hx;by_cases e:x=want
   ·exact hN (by simp only[gd,hg,hx,e,beq_self_eq_true]) (h.1 e)
   ·exact⟨.eu [],_,.inl ⟨by simp only[gd,hg,hx];simp[e],rfl,rfl⟩,h.2 (by cases x<;>cases want<;>simp_all)⟩
  ·rename_i hx;exact⟨.eu [],_,.inl ⟨by simp only[gd,hg,hx],rfl,rfl⟩,h⟩
  ·exact h.elim
theorem Me{F:Oper->St->St->Prop}{D:List Oper->St->Prop}{K:St->Prop}(hnil:∀s,D [] s->K s)(ant:∀o os s,D (o::os) s->∃v s',pQ P E R o s v s'/\F o s s'/\D os s'):∀(n k:Nat),k+n=R.size->∀s,D (R.toList.drop k) s->
 ∃(st:Nat->St) (vs:Nat->V),st k=s/\K (st R.size)/\∀i,k<=i->i<R.size->∃o,R[i]? =some o/\pQ P E R o (st i) (vs i) (st (i+1))/\F o (st i) (st (i+1))
 |0,k,hk,s,h=>by
  have:R.toList.drop k=[]:=by apply ff;simp;omega
  rw[this] at h;exact⟨fun _=>s,fun _=>.any,rfl,hnil s h,fun i h1 h2=>gA⟩
 |n+1,k,hk,s,h=>by
  have hlt:k<R.toList.length:=gR
  rw[cb hlt] at h
  have hRk:R[k]? =some R.toList[k]:=by
   rw[cq gA];simp
  obtain⟨v,s',ht,hf,hd⟩:=ant _ _ s h;obtain⟨st,vs,h1,h2,h3⟩:=Me hnil ant n (k+1) gA s' hd;refine⟨fun i=>if i=k then s else st i,fun i=>if i=k then v else vs i,gL,?_,fun i hi1 hi2=> ?_⟩
  ·have:R.size≠k:=gA
   simp only[if_neg this];exact h2
  ·by_cases e:i=k
   ·subst e;refine⟨_,hRk,?_⟩;simp only[if_true]
    have:i+1≠i:=gA
    simp only[if_neg this,h1];exact⟨ht,hf⟩
   ·obtain⟨o,ho,ht'⟩:=h3 i gA hi2;refine⟨o,ho,?_⟩
    have:i+1≠k:=gA
    simp only[if_neg e,if_neg this];exact ht'
theorem PI{K:St->Prop}(n k:Nat)(hk:k+n=R.size)(s:St)(h:xR P E R (R.toList.drop k) s K):
 ∃(st:Nat->St) (vs:Nat->V),st k=s/\K (st R.size)/\∀i,k<=i->i<R.size->∃o,R[i]? =some o/\pQ P E R o (st i) (vs i) (st (i+1)):=by
 obtain⟨st,vs,h1,h2,h3⟩:=Me (F:=fun _ _ _=>True) (D:=fun os s=>xR P E R os s K) (fun _ h=>h) (fun o os s h=>by
  obtain⟨v,s',a,b⟩:=OV h
  exact⟨v,s',a,trivial,b⟩) n k hk s h
 exact⟨st,vs,h1,h2,fun i a b=>by
  obtain⟨o,c,d,_⟩:=h3 i a b
  exact⟨o,c,d⟩⟩
theorem aj5{o:Oper}{s s':St}{v:V}(h:pQ P E R o s v s'):s'=St.put ⟨s.tm,s'.st⟩ o.dst v:=by
 rcases h with⟨_,_,h⟩|⟨_,_,_,h⟩|⟨_,_,_,h,_⟩
 ·rw[h];cases o.dst<;>rfl
 ·rw[h];cases o.dst<;>rfl
 ·exact h
theorem aj6{o:Oper}{s s':St}{v:V}(h:pQ P E R o s v s')(hD:gT E o.op=false):s'.st=s.st:=by
 rcases h with⟨_,_,h⟩|⟨_,_,_,h⟩|⟨_,h,_,_⟩
 ·rw[h];cases o.dst<;>rfl
 ·rw[h];cases o.dst<;>rfl
 ·rw[hD] at h;cases h
theorem DU{st:Nat->St}{vs:Nat->V}(h:∀i,i<R.size->∃o,R[i]? =some o/\pQ P E R o (st i) (vs i) (st (i+1)))(t:Nat):∀i,i<=R.size->look (st i).tm t=nJ R vs (fun _=>true) (st 0).tm i t
 |0,_=>rfl
 |i+1,hi=>by
  obtain⟨o,ho,ht⟩:=h i gA;have e:=aj5 ht;have ih:=DU h t i gA;rw[nJ,<-ih]
  have hdst:iw R i=o.dst:=by simp[iw,ho]
  rw[hdst,e]
  cases hd:o.dst with
  |none=>simp[St.put]
  |some d=>
   simp only[St.put,look,true_and,cC]
theorem DS.refl(S:Store):DS S S:=fun _ _ h=>.inl h
theorem DS.trans{S1 S2 S3:Store}(h:DS S1 S2)(k:DS S2 S3):DS S1 S3:=by
 intro x o hx;rcases h x o hx with h1|⟨h1,o',z,es,h2,h2'⟩
 ·exact k x o h1
 ·rcases k x _ h2 with h3|⟨_,h3⟩
  ·exact .inr ⟨h1,o',z,es,h3,h2'⟩
  ·exact .inr ⟨h1,h3⟩
theorem DS.push{own:List Obj}{Ω:Store}{o:Obj}:DS (own::Ω) ((own++[o])::Ω):=fun k o' h=>.inl (lD _ _ _ _ _ h)
theorem vY{dst:Option Nat}{o:Obj}{mk:Key->V}{s':St}(h:newObj s dst o mk (fun t=>t=s')):DS s.st s'.st:=by
 unfold newObj at h;split at h
 ·rename_i own Ω hst;rw[<-h,nR,hst];exact DS.push
 ·exact h.elim
theorem aob{b:Bool}{es x:List (List D)}{z:Nat}{dst:Option Nat}{s':St}(h:Et b es s dst z x (fun t=>t=s')):DS s.st s'.st:=by
 cases b with
 |false=>exact vY (o:=.tok z x) (mk:=fun k=>.c (.bJ k x)) h
 |true=>exact vY (o:=.fM z x) (mk:=fun k=>.c (.jO k)) h.2
theorem aoc{l:Option Nat}{es x:List (List D)}{z:Nat}{dst:Option Nat}{s':St}(h:Gg l es s dst z x (fun t=>t=s')):DS s.st s'.st:=by
 cases l with
 |none=>exact aob h
 |some n=>
  cases es with
  |nil=>
   have h:St.put ⟨s.tm,s.st⟩ dst (.c (.d (.ol n x)))=s':=h;rw[<-h,nR];exact DS.refl _
  |cons y es=>exact vY (o:=.tok z x) (mk:=fun k=>.c (.bJ k x)) h
theorem aod{b:Bool}{n:Nat}{x:List (List D)}{z:Nat}{dst:Option Nat}{s':St}(h:I4 b n s dst z x (fun t=>t=s')):DS s.st s'.st:=by
 cases b with
 |false=>exact vY (o:=.eP n z x) (mk:=fun k=>.c (.bJ k x)) h
 |true=>
  have h:St.put ⟨s.tm,s.st⟩ dst (.c (.d (.ol n x)))=s':=h;rw[<-h,nR];exact DS.refl _
theorem aj7{o:Oper}{s s':St}(hD:vL o.op=true)(hs:Cv o.op=false)(h:dP P o s (fun t=>t=s')):DS s.st s'.st:=by
 obtain⟨dst,op,ty,pos,after,guard⟩:=o
 cases op with
 |alloc t=>
  simp only[dP,yj] at h;split at h
  ·exact vY h
  ·exact h.elim
 |box t x=>
  simp only[dP,Gf] at h;split at h
  ·exact vY h
  ·exact h.elim
 |makeSlice t l c=>
  simp only[dP,Bo] at h;split at h
  ·split at h
   ·exact vY h.2.2.2.2.2
   ·exact h.elim
  ·exact h.elim
 |store t x y=>simp[Cv] at hs
 |mapUpdate t x y z=>simp[Cv] at hs
 |makeMap t r=>
  cases r with
  |none=>
   simp only[dP,xD] at h;exact vY h
  |some r=>simp[vL] at hD
 |call c=>
  obtain⟨DL,args,Br⟩:=c
  cases DL with
  |builtin b=>
   cases b with
   |append=>
    simp only[dP,qz] at h;split at h
    ·simp only[vK] at h;split at h
     ·obtain⟨h1,h2,h3,h4⟩:=h;split at h4
      ·rename_i k es hex;split at h4
       ·rename_i z es' hk;obtain⟨k1,k2,k3,k4⟩:=h4;rw[<-k4,nR];intro k' o' ho';by_cases e:k'=k
        ·subst e;rw[hk] at ho';cases ho';exact .inr ⟨⟨_,_,.inl rfl⟩,_,_,_,dA _ _ _ _ hk,.inl rfl⟩
        ·exact .inl ((fV _ _ _ _ (Ne.symm e)).trans ho')
       ·rename_i n z es' hk;obtain⟨k1,k2,k3,k4⟩:=h4;rw[<-k4,nR];intro k' o' ho';by_cases e:k'=k
        ·subst e;rw[hk] at ho';cases ho';exact .inr ⟨⟨_,_,.inr ⟨_,rfl⟩⟩,_,_,_,dA _ _ _ _ hk,.inr ⟨_,rfl⟩⟩
        ·exact .inl ((fV _ _ _ _ (Ne.symm e)).trans ho')
       ·exact h4.elim
      ·exact aoc h4.2.2
      ·exact aod h4.2.2
      ·exact h4.elim
     ·exact h.elim
    ·exact h.elim
   |_=>simp[vL] at hD
  |_=>simp[vL] at hD
 |_=>simp[vL] at hD
theorem aj8{o:Oper}{s s':St}{v:V}(h:pQ P E R o s v s')(hs:nN E o.op=false):DS s.st s'.st:=by
 rcases h with⟨_,_,h⟩|⟨_,_,_,h⟩|⟨_,hD,h,_,hc⟩
 ·rw[h];cases o.dst<;>exact DS.refl _
 ·rw[h];cases o.dst<;>exact DS.refl _
 ·cases hd:vL o.op with
  |true=>exact aj7 hd (by unfold nN at hs;rw[du] at hs;exact hs.1) h
  |false=>exact hc hd hs
theorem JA{st:Nat->St}{vs:Nat->V}(h:∀i,i<R.size->∃o,R[i]? =some o/\pQ P E R o (st i) (vs i) (st (i+1))){i:Nat}:∀(m:Nat),i+m<=R.size->(∀j o,i<=j->j<i+m->R[j]? =some o->gT E o.op=false)->(st (i+m)).st=(st i).st
 |0,_,_=>rfl
 |m+1,hm,hj=>by
  obtain⟨o,ho,ht⟩:=h (i+m) gA;rw[show i+(m+1)=i+m+1 from rfl,aj6 ht (hj _ o gA gA ho)];exact JA h m gA (fun j o h1 h2 h3=>hj j o h1 gA h3)
def KS(k:Key)(S S':Store):Prop:=∀o,bC S k=some o->bC S' k=some o\/((∃z es,wC o z es)/\∃o' z es,bC S' k=some o'/\wC o' z es)
theorem KS.trans{k:Key}{S1 S2 S3:Store}(h:KS k S1 S2)(h':KS k S2 S3):KS k S1 S3:=by
 intro o hx;rcases h o hx with h1|⟨h1,o',z,es,h2,h2'⟩
 ·exact h' o h1
 ·rcases h' _ h2 with h3|⟨_,h3⟩
  ·exact .inr ⟨h1,o',z,es,h3,h2'⟩
  ·exact .inr ⟨h1,h3⟩
theorem ad2{st:Nat->St}{vs:Nat->V}(h:∀i,i<R.size->∃o,R[i]? =some o/\pQ P E R o (st i) (vs i) (st (i+1))){i:Nat}{k:Key}:∀(m:Nat),i+m<=R.size->
 (∀j o,i<=j->j<i+m->R[j]? =some o->nN E o.op=false\/bC (st (j+1)).st k=bC (st j).st k)->KS k (st i).st (st (i+m)).st
 |0,_,_=>fun _ hx=>.inl hx
 |m+1,hm,hj=>by
  obtain⟨o,ho,ht⟩:=h (i+m) gA;refine(ad2 h m gA (fun j o h1 h2 h3=>hj j o h1 gA h3)).trans ?_;rcases hj _ o gA gA ho with hs|hs
  ·exact aj8 ht hs k
  ·intro x hx;exact .inl (hs.trans hx)
theorem cnt_lt(p q:Nat->Bool):∀(l:List Nat)(i:Nat),(∀x,q x=true->p x=true)->i∈l->p i=true->q i=false->l.countP q<l.countP p
 |[],_,_,h,_,_=>by simp at h
 |x::l,i,h,hi,hp,hq=>by
  rw[List.countP_cons,List.countP_cons];have hle:l.countP q<=l.countP p:=List.countP_mono_left (fun y _ hy=>h y hy);rcases cT.1 hi with rfl|hi
  ·rw[hp,hq];simp;omega
  ·have ih:=cnt_lt p q l i h hi hp hq;by_cases hx:q x=true
   ·rw[hx,h x hx];simp;exact ih
   ·have:q x=false:=by simpa using hx
    rw[this];simp
    split<;>omega
end
section
variable {P:Program} {E:Md} {N:Nat} {R:Array Oper}
def qH(E:Md)(R:Array Oper)(p:Nat)(listed:Array Bool):Prop:=listed.getD p false=true/\p<R.size/\∃j x,j<p/\R[j]? =some x/\gT E x.op=true/\listed.getD j false=false
def Raw(P:Program)(R:Array Oper)(p:Nat)(w0 w:World)(σ:Nat->Nat)(S:Store)(β:Hs)(v:Value):Prop:=
 ∃b c ty,v=.pointer (some ⟨b,0,none⟩)/\w.heap[b]? =some (.cells c ty (0,0))/\σ b=0/\w0.heap.size<=b/\¬Own S β b/\
  ∀o t zs,R[p]? =some o->o.op=.alloc t->j5 P t=some zs->∀w σ S β,gN w σ S β zs c.toList
open Classical in
noncomputable def xV(E:Md)(R:Array Oper)(p:Nat)(vs:Nat->V)(listed:Array Bool)(base:List (Nat×V))(t:Nat):V:=
 if qH E R p listed/\iw R p=some t then .any else nJ R vs (fun i=>listed.getD i false) base R.size t
structure Mid(P:Program)(N:Nat)(E:Md)(R:Array Oper)(p:Nat)(st:Nat->St)(vs:Nat->V)(β0:Hs)(σ0:Nat->Nat)(w0:World)(listed:Array Bool)(a:Act)(w:World):Prop where
 size:listed.size=R.size
 closed:∀i o e,R[i]? =some o->listed.getD i false=true->e∈o.after->Region.binds .any e=true->listed.getD e.on false=true
 rep:∃m,m<=R.size/\(∀i o,R[i]? =some o->gT E o.op=true->(i=p->¬qH E R p listed)->(listed.getD i false=true<->i<m))/\∃σ β,a.tmps.size=N/\a.defers=[]/\fC w σ (st m).st β/\
  (∀t,dR w σ (st m).st β (xV E R p vs listed (st 0).tm t) (a.tmps.getD t undef))/\Step (st 0).st β0 σ0 w0 (st m).st β σ w/\Keep (st 0).st β0 (st m).st β/\
  (qH E R p listed->m<=p/\∀d,iw R p=some d->Raw P R p w0 w σ (st m).st β (a.tmps.getD d undef))
theorem Lg{o:Oper}{x:Operand}{t:Nat}(hx:x∈o.op.operands)(e:x=.tmp t):t∈o.looksAt R:=by
 subst e;exact ga _ (List.mem_filterMap.2 ⟨.tmp t,by simpa using hx,rfl⟩)
theorem aaV{o:Oper}{g d:Nat}{want:Bool}(hg:o.guard=some (g,want))(hd:iw R g=some d):d∈o.looksAt R:=by
 refine ep _ ?_;rw[hg];show d∈((R[g]?).bind (·.dst)).toList;unfold iw at hd
 rw[hd];simp
theorem Gl(h:DN E R N=true){i j:Nat}{x y:Oper}(hij:i<j)(hx:R[i]? =some x)(hy:R[j]? =some y)(hc:clash E R x y=true):((masks R.toList []).getD j 0).testBit i=true:=by
 have hj:j<R.size:=(bj.1 hy).1;have h1:=az.1 h j (cw.2 hj);rw[ai] at h1;have h2:=az.1 h1.2 i (cw.2 hij);rw[hx,hy] at h2;simp only[hc,ft,Bool.or_false] at h2;exact h2
theorem Yn(h:DN E R N=true){i:Nat}{o:Oper}{e:Edge}(ho:R[i]? =some o)(he:e∈o.after)(hb:Region.binds .any e=true):e.on<i:=by
 have hj:i<R.size:=(bj.1 ho).1;have h1:=az.1 h i (cw.2 hj);rw[ai,ho] at h1;have h2:=h1.1;simp only[ai] at h2;have h3:=az.1 h2.1 e (by simpa using he);simpa [hb] using h3
theorem aaW(h:DN E R N=true){i:Nat}{o:Oper}(ho:R[i]? =some o):∀d,o.dst=some d->d<N:=by
 intro d hd;have hj:i<R.size:=(bj.1 ho).1;have h1:=az.1 h i (cw.2 hj);rw[ai,ho] at h1;have h2:=h1.1;simp only[ai,hd] at h2;simpa using h2.2
theorem ad3{x y:Oper}:x.apart R y=y.apart R x:=by
 rw[fw]
 have key:∀x y:Oper,x.apart R y=true->y.apart R x=true:=fun x y h=>by
  obtain⟨h1,h2,h3⟩:=Oper.apart_spec h;unfold Oper.apart
  cases hx:x.dst<;>cases hy:y.dst<;>simp
  ·rename_i d;exact h3 d hy
  ·rename_i d;exact h1 d hx
  ·rename_i d d';exact⟨⟨h3 d' hy,fun e=>h2 d hx (by rw[hy,e])⟩,h1 d hx⟩
 exact⟨key x y,key y x⟩
theorem aaX{x y:Oper}:pU E R x y=pU E R y x:=by
 unfold pU;rw[ad3,Bool.and_comm (gT E x.op)]
def ad4:Op->Bool
 | .move _=>true
 |_=>false
theorem aj9{P:Program}{l:Option Nat}{S S':Store}{tm:List (Nat×V)}{op:Op}(h:ad4 op=true):qy P l S' tm op=qy P l S tm op:=by
 cases op<;>first|rfl|cases h
def refs(tm:List (Nat×V))(o:Oper)(k:Key):Prop:=ad4 o.op=false/\∃x∈o.op.operands,N7 (ev tm x) k
structure Vf(E:Md)(R:Array Oper)(N:Nat)(st:Nat->St)(p:Nat):Prop where
 edge:∀(i:Nat)(o:Oper)(e:Edge),R[i]? =some o->e∈o.after->Region.binds .any e=true->e.on<i
 dst:∀(i:Nat)(o:Oper),R[i]? =some o->∀d,o.dst=some d->d<N
 pair:∀(i j:Nat)(x y:Oper),i<j->R[i]? =some x->R[j]? =some y->pU E R x y=true->((masks R.toList []).getD j 0).testBit i=true\/(j=p/\gT E x.op=true/\x.apart R y=true)
 store:∀(i j:Nat)(x o:Oper),i≠j->R[i]? =some x->R[j]? =some o->nN E x.op=true->gT E o.op=false->kZ o.op=false->
  wF R i j=true\/∀k,refs (st j).tm o k->bC (st (i+1)).st k=bC (st i).st k
 pend:∀o,R[p]? =some o->Cw o.op=true/\o.guard=none/\(∃d,o.dst=some d)/\∀j y,j≠p->R[j]? =some y->y.apart R o=false->∀i x,i<p->R[i]? =some x->gT E x.op=true->i<j/\((masks R.toList []).getD j 0).testBit i=true
theorem aql{st:Nat->St}(h:DN E R N=true):Vf E R N st R.size where
 edge:=fun i o e h1 h2 h3=>Yn h h1 h2 h3
 dst:=fun i o h1=>aaW h h1
 pair:=fun i j x y hij hx hy hc=>.inl (Gl h hij hx hy (by
  unfold pU at hc;unfold clash
  rw[hc];rfl))
 store:=fun i j x o hij hx ho hs hD hc=>.inl (by
  unfold wF;by_cases e:i<j
  ·rw[if_pos e];exact Gl h e hx ho (by unfold clash;rw[hs];simp)
  ·rw[if_neg e]
   exact Gl h (show j<i by omega) ho hx (by unfold clash;rw[hs];simp))
 pend:=fun o ho=>by rw[dE (ax _)] at ho;cases ho
theorem acH{p:Nat}(h:L9 E R p=true):∀o,R[p]? =some o->Cw o.op=true/\o.guard=none/\(∃d,o.dst=some d)/\∀j y,j≠p->R[j]? =some y->y.apart R o=false->∀i x,i<p->R[i]? =some x->gT E x.op=true->i<j/\((masks R.toList []).getD j 0).testBit i=true:=by
 intro o ho;unfold L9 at h;rw[ho] at h;simp only[ai] at h;obtain⟨⟨⟨h1,h2⟩,h3⟩,h4⟩:=h;refine⟨h1,by simpa using h2,fl.1 h3,fun j y hj hy hap i x hi hx hD=> ?_⟩;have hjl:j<R.size:=(bj.1 hy).1;have h5:=az.1 h4 j (cw.2 hjl);rw[hy] at h5;simp only[hap,hj,decide_false,ed] at h5;have h6:=az.1 h5 i (cw.2 hi);rw[hx] at h6;simpa [hD] using h6
theorem yw{o:Oper}(h:Cw o.op=true):gT E o.op=true/\nN E o.op=false/\kZ o.op=false:=by
 obtain⟨dst,op,ty,pos,after,guard⟩:=o;cases op<;>simp_all[Cw,gT,vL,nN,Cv,kZ]
theorem aoe{st:Nat->St}{p:Nat}(h0:Jz E R N p=true):Vf E R N st p:=by
 unfold Jz at h0;rw[ai] at h0;obtain⟨hp,h⟩:=h0;have Ch:=acH hp
 have hpr:∀(i j:Nat)(x y:Oper),i<j->R[i]? =some x->R[j]? =some y->((masks R.toList []).getD j 0).testBit i=true\/(x.apart R y=true/\(j=p\/((gT E x.op&&gT E y.op)=false/\nN E x.op=false/\nN E y.op=false))):=by
  intro i j x y hij hx hy;have hj:j<R.size:=(bj.1 hy).1;have h1:=az.1 h j (cw.2 hj);rw[ai] at h1;have h2:=az.1 h1.2 i (cw.2 hij);rw[hx,hy] at h2;simp only[agO] at h2;rw[dk] at h2;rcases h2 with h2|h2
  ·exact .inl h2
  ·right;rw[fj,du,fy] at h2;refine⟨h2.1,?_⟩;by_cases e:j=p
   ·exact .inl e
   ·right;have h3:=h2.2;simp only[e,decide_false,fL,cd,du] at h3;exact⟨h3.1.1,h3.1.2,h3.2⟩
 refine⟨?_,?_,?_,?_,Ch⟩
 ·intro i o e ho he hb;have hj:i<R.size:=(bj.1 ho).1;have h1:=az.1 h i (cw.2 hj);rw[ai,ho] at h1;have h2:=h1.1;simp only[ai] at h2;have h3:=az.1 h2.1 e (by simpa using he);simpa [hb] using h3
 ·intro i o ho d hd;have hj:i<R.size:=(bj.1 ho).1;have h1:=az.1 h i (cw.2 hj);rw[ai,ho] at h1;have h2:=h1.1;simp only[ai,hd] at h2;simpa using h2.2
 ·intro i j x y hij hx hy hc;rcases hpr i j x y hij hx hy with h1|⟨h1,h2⟩
  ·exact .inl h1
  ·rcases h2 with h2|⟨h2,_,_⟩
   ·right;unfold pU at hc;rw[h1] at hc;simp only[ft,ed,ai] at hc;exact⟨h2,hc.1,h1⟩
   ·unfold pU at hc;rw[h1,h2] at hc;cases hc
 ·intro i j x o hij hx ho hs hD hc
  have hjp:j≠p:=fun e=>by
   subst e;have:=(yw (E:=E) (Ch o ho).1).1;rw[hD] at this;cases this
  have Vg:i≠p:=fun e=>by
   subst e;have:=(yw (E:=E) (Ch x hx).1).2.1;rw[hs] at this;cases this
  left;unfold wF;by_cases e:i<j
  ·rw[if_pos e];rcases hpr i j x o e hx ho with h1|⟨_,h2⟩
   ·exact h1
   ·rcases h2 with h2|⟨_,h2,_⟩
    ·exact absurd h2 hjp
    ·rw[hs] at h2;cases h2
  ·rw[if_neg e];rcases hpr j i o x gA ho hx with h1|⟨_,h2⟩
   ·exact h1
   ·rcases h2 with h2|⟨_,_,h2⟩
    ·exact absurd h2 Vg
    ·rw[hs] at h2;cases h2
theorem Oper.agP{o:Oper}{a:Act}{w:World}{K:Act->World->Prop}{Q:Exit->Act->World->Prop}(hh:o.wp P a w K Q):o.wp P a w (fun a' w'=>K a' w'/\∀d,o.dst≠some d->a'.tmps.getD d undef=a.tmps.getD d undef) Q:=by
 have key:∀(ds:List Deferred)(v:Value)(d:Nat),o.dst≠some d->(({a with defers:=ds}:Act).put o.dst v).tmps.getD d undef=a.tmps.getD d undef:=by
  intro ds v d hd
  cases ho:o.dst with
  |none=>rfl
  |some e=>
   have hne:e≠d:=fun x=>hd (by rw[ho,x]);simp only[Act.put,eh];rw[eV hne]
 unfold Oper.wp at *
 generalize (execOp a.eval o).run P w=r at *
 cases r with
 |ok n w'=>
  cases n<;>simp only[Oper.upon] at hh ⊢ <;>
   first
    |exact⟨hh,fun d hd=>key _ _ d hd⟩
    |exact Calls.mono hh (fun e w'' he=>by cases e<;>first|exact⟨he,fun d hd=>key _ _ d hd⟩|exact he)
    |exact Rows.mono hh (fun _ _ he=>⟨he,fun d hd=>key _ _ d hd⟩)
 |halt x w'=>cases x<;>simp only[Oper.upon] at hh ⊢ <;>exact hh
theorem vZ{a:Act}{dst:Option Nat}{v:Value}{d:Nat}(h:dst≠some d):(a.put dst v).tmps.getD d undef=a.tmps.getD d undef:=by
 cases dst with
 |none=>rfl
 |some e=>
  have hne:e≠d:=fun x=>h (by rw[x]);simp only[Act.put,eh];rw[eV hne]
theorem akb{t:TypeId}{zs:List C}(h:j5 P t=some zs):∃z:Value,(∀w,(zeroValue t).run P w=.ok z w)/\∀w σ S β,gN w σ S β zs z.cells.toList:=by
 unfold j5 at h
 cases hi:P.info? t with
 |none=>rw[hi] at h;cases h
 |some i=>
  rw[hi] at h
  cases hz:i.zero with
  |none=>simp[hz] at h
  |some z=>
   simp only[dy,hz] at h;split at h
   ·rename_i hall;cases h;refine⟨z,fun w=>by simp[zeroValue,typeInfo,hi,hz],fun w σ S β=>⟨gL,fun j x hx=> ?_⟩⟩;rw[bE] at hx
    cases hv:z.cells.toList[j]? with
    |none=>rw[hv] at hx;cases hx
    |some v=>
     rw[hv] at hx;cases hx;exact⟨v,rfl,Fb _ _ _ _ _,az.1 hall v (de hv)⟩
   ·cases h
theorem akc{w w0:World}{σ σ0:Nat->Nat}{S0:Store}{β0:Hs}{own:List Obj}{Ω:Store}{β:Hs}{zs:List C}{b:Nat}{c:Array Value}{ty:TypeId}(hS:fC w σ (own::Ω) β)(hst:Step S0 β0 σ0 w0 (own::Ω) β σ w)(hb:w.heap[b]? =some (.cells c ty (0,0)))(hσ:σ b=0)
 (h0:w0.heap.size<=b)(hno:¬Own (own::Ω) β b)(hz:∀w σ S β,gN w σ S β zs c.toList):
 ∃bo bΩ,β=bo::bΩ/\bo.length=own.length/\fC w σ ((own++[.box zs])::Ω) ((bo++[Value.pointer (some ⟨b,0,none⟩)])::bΩ)/\Keep (own::Ω) β ((own++[.box zs])::Ω) ((bo++[Value.pointer (some ⟨b,0,none⟩)])::bΩ)/\
  Step S0 β0 σ0 w0 ((own++[.box zs])::Ω) ((bo++[Value.pointer (some ⟨b,0,none⟩)])::bΩ) σ w:=by
 cases β with
 |nil=>have:=hS.shape.1;simp at this
 |cons bo bΩ=>
 have hlen:bo.length=own.length:=by
  obtain⟨gr,g1,g2⟩:=hS.shape.2 0 own rfl;simp at g1;rw[g1];exact g2
 refine⟨bo,bΩ,rfl,hlen,?_⟩
 have hkeep:Keep (own::Ω) (bo::bΩ) ((own++[.box zs])::Ω) ((bo++[Value.pointer (some ⟨b,0,none⟩)])::bΩ):=by
  intro k o1 h1;obtain⟨h2,zx,_⟩:=hS.obj k o1 h1;exact⟨o1,lD _ _ _ _ _ h1,by rw[lD _ _ _ _ _ zx,zx];exact .refl _ _⟩
 have hinv:∀k o1 h1,bC ((own++[Obj.box zs])::Ω) k=some o1->bC ((bo++[Value.pointer (some ⟨b,0,none⟩)])::bΩ) k=some h1->
  (bC (own::Ω) k=some o1/\bC (bo::bΩ) k=some h1)\/(k=(0,own.length)/\o1=.box zs/\h1=Value.pointer (some ⟨b,0,none⟩)):=by
  intro k o1 h1 e1 e2;rcases nI _ _ _ _ _ e1 with e1|⟨rfl,rfl⟩
  ·left;refine⟨e1,?_⟩;rcases nI _ _ _ _ _ e2 with e2|⟨rfl,rfl⟩
   ·exact e2
   ·rw[bM,hlen] at e1;have:=(ap.1 e1).1;omega
  ·right;rw[<-hlen,dw] at e2;exact⟨rfl,rfl,(cL e2).symm⟩
 have hown:∀x,Own ((own++[Obj.box zs])::Ω) ((bo++[Value.pointer (some ⟨b,0,none⟩)])::bΩ) x->Own (own::Ω) (bo::bΩ) x\/x=b:=by
  rintro x ⟨k,o,h,e1,e2,e3⟩;rcases hinv k o h e1 e2 with⟨f1,f2⟩|⟨rfl,rfl,rfl⟩
  ·exact .inl ⟨k,o,h,f1,f2,e3⟩
  ·right;cases e3;rfl
 have hmono:∀k o h,bC (own::Ω) k=some o->bC (bo::bΩ) k=some h->iI w σ ((own::Ω).drop k.1) ((bo::bΩ).drop k.1) o h->iI w σ (((own++[Obj.box zs])::Ω).drop k.1) (((bo++[Value.pointer (some ⟨b,0,none⟩)])::bΩ).drop k.1) o h:=
  fun k o h _ _ hr=>hr.mono (eH.refl _ _) (hkeep.drop _) fun x _=>⟨rfl,rfl⟩
 refine⟨⟨?_,?_,⟨?_,?_⟩,hS.live,hS.vH⟩,hkeep,⟨hst.size,hst.os,hst.output,fun x hx hn=>hst.far x hx hn,hst.near,fun x hx=> ?_⟩⟩
 ·intro k o1 h1;rcases nI _ _ _ _ _ h1 with h1|⟨rfl,rfl⟩
  ·obtain⟨h2,zx,hr⟩:=hS.obj k o1 h1;exact⟨h2,lD _ _ _ _ _ zx,hmono k o1 h2 h1 zx hr⟩
  ·exact⟨Value.pointer (some ⟨b,0,none⟩),by rw[<-hlen,dw],b,c,ty,rfl,hb,hσ,hz _ _ _ _⟩
 ·intro k k' o1 o2 h1 h2 x e1 e2 e3 e4 e5 e6;rcases hinv k o1 h1 e1 e2 with⟨f1,f2⟩|⟨rfl,rfl,rfl⟩
  ·rcases hinv k' o2 h2 e4 e5 with⟨g1,g2⟩|⟨rfl,rfl,rfl⟩
   ·exact hS.apart _ _ _ _ _ _ _ f1 f2 e3 g1 g2 e6
   ·cases e6;exact absurd ⟨k,o1,h1,f1,f2,e3⟩ hno
  ·rcases hinv k' o2 h2 e4 e5 with⟨g1,g2⟩|⟨rfl,rfl,rfl⟩
   ·cases e3;exact absurd ⟨k',o2,h2,g1,g2,e6⟩ hno
   ·rfl
 ·have:=hS.shape.1;simpa using this
 ·intro l fr hl
  cases l with
  |zero=>simp at hl;subst hl;exact⟨_,rfl,by simp[hlen]⟩
  |succ l=>exact hS.shape.2 (l+1) fr (by simpa using hl)
 ·rcases hown x hx with h|h
  ·exact hst.own x h
  ·subst h;exact .inr h0
theorem Ra{st:Nat->St}{vs:Nat->V}{p:Nat}{o:Oper}{d:Nat}{t:TypeId}(ht:pQ P E R o (st p) (vs p) (st (p+1)))(hop:o.op=.alloc t)(hg:o.guard=none)(hd:o.dst=some d):
 ∃zs own Ω,j5 P t=some zs/\(st p).st=own::Ω/\(st (p+1)).st=(own++[.box zs])::Ω/\vs p=.c (.ptr (0,own.length) 0):=by
 have hgd:gd R o (st p).tm=some true:=by unfold gd;rw[hg]
 rcases ht with⟨h1,_,_⟩|⟨_,hD,_,_⟩|⟨_,hD,hx,hs',_⟩
 ·rw[hgd] at h1;cases h1
 ·rw[(yw (E:=E) (o:=o) (by rw[hop];rfl)).1] at hD;cases hD
 ·obtain⟨dst,op,ty,pos,after,guard⟩:=o;simp only at hop hd;subst hop;subst hd;unfold dP yj at hx;simp only at hx
  cases hz:j5 P t with
  |none=>rw[hz] at hx;exact hx.elim
  |some zs=>
   rw[hz] at hx
   generalize st (p+1)=s1 at *
   generalize st p=s0 at *
   obtain⟨tm,S⟩:=s0;simp only[newObj] at hx
   cases S with
   |nil=>exact hx.elim
   |cons own Ω=>
    subst hx;refine⟨zs,own,Ω,rfl,rfl,rfl,?_⟩;simp only[St.put,St.mk.injEq,eK,Prod.mk.injEq,and_true,true_and] at hs';exact hs'.symm
theorem mid_step{st:Nat->St}{vs:Nat->V}{β0:Hs}{σ0:Nat->Nat}{w0:World}{Q:Exit->Act->World->Prop}{p:Nat}(hok:Vf E R N st p)
 (hT:∀i,i<R.size->∃o,R[i]? =some o/\pQ P E R o (st i) (vs i) (st (i+1))){listed:Array Bool}{a:Act}{w:World}(hM:Mid P N E R p st vs β0 σ0 w0 listed a w){i:Nat}(hi:i∈Region.ready .any R listed):
 wpOp P R Q i (fun a' w'=>Mid P N E R p st vs β0 σ0 w0 (listed.setIfInBounds i true) a' w') a w:=by
 obtain⟨hun,o,ho,Mf⟩:=mem_ready.1 hi;have hlt:i<R.size:=(bj.1 ho).1;obtain⟨o',ho',ht⟩:=hT i hlt;rw[ho] at ho';cases ho'
 have Bz:listed.getD i false=false:=by
  have hs:i<listed.size:=by rw[hM.size];exact hlt
  simp[hs] at hun ⊢;exact hun
 obtain⟨m,hm,hmD,σ,β,hsz,hdf,hS,hrT,hst,hkp,Ch⟩:=hM.rep;have hdn:=hok.dst i o ho
 have hset:(listed.setIfInBounds i true).getD i false=true:=by
  have hs:i<listed.size:=by rw[hM.size];exact hlt
  simp[hs]
 have ad5:∀j,(listed.setIfInBounds i true).getD j false=true->j=i\/listed.getD j false=true:=by
  intro j hj;by_cases e:j=i
  ·exact .inl e
  ·rw[getD_set_ne false (Ne.symm e)] at hj;exact .inr hj
 have asE:∀j,(listed.setIfInBounds i true).getD j false=false->j≠i/\listed.getD j false=false:=by
  intro j hj;by_cases e:j=i
  ·subst e;rw[hset] at hj;cases hj
  ·rw[getD_set_ne false (Ne.symm e)] at hj;exact⟨e,hj⟩
 have Kn:∀j x k,R[j]? =some x->listed.getD j false=true->((masks R.toList []).getD j 0).testBit k=true->listed.getD k false=true:=fun j x k hx hE hb=>
  Ig (fun k=>listed.getD k false=true) hM.closed hok.edge j x hx (fun e he hb=>hM.closed j x e hx hE he hb) k hb
 have DV:∀k,((masks R.toList []).getD i 0).testBit k=true->listed.getD k false=true:=fun k hb=>
  Ig (fun k=>listed.getD k false=true) hM.closed hok.edge i o ho (fun e he hb=>Mf e he hb) k hb
 have aqn:qH E R p listed->i≠p:=fun h e=>by have h1:=h.1;rw[<-e,Bz] at h1;cases h1
 have Ko:∀j x e,R[j]? =some x->(listed.setIfInBounds i true).getD j false=true->e∈x.after->Region.binds .any e=true->(listed.setIfInBounds i true).getD e.on false=true:=by
  intro j x e hx hE he hb;by_cases hji:j=i
  ·subst hji;rw[ho] at hx;cases hx;exact getD_set_true (Mf e he hb)
  ·rw[getD_set_ne false (Ne.symm hji)] at hE;exact getD_set_true (hM.closed j x e hx hE he hb)
 by_cases hA2:i=p/\∃j x,j<p/\R[j]? =some x/\gT E x.op=true/\listed.getD j false=false
 ·
  obtain⟨rfl,j0,x0,hj0,hx0,hD0,hu0⟩:=hA2;obtain⟨hal,hgn,⟨d,hd⟩,_⟩:=hok.pend o ho
  obtain⟨ty,hop⟩:∃ty,o.op=.alloc ty:=by
   cases h:o.op<;>rw[h] at hal<;>first|exact⟨_,rfl⟩|cases hal
  obtain⟨zs,own,Ω,hzs,_,_,_⟩:=Ra ht hop hgn hd;obtain⟨z,zI,hzc⟩:=akb hzs
  have hnp:¬qH E R i listed:=fun h=>by have h1:=h.1;rw[Bz] at h1;cases h1
  have hP':qH E R i (listed.setIfInBounds i true):=⟨hset,hlt,j0,x0,hj0,hx0,hD0,by rw[getD_set_ne false gA];exact hu0⟩
  have hmp:m<=i:=by
   have h1:=hmD j0 x0 hx0 hD0 (fun _=>hnp);rcases fh j0 m with h|h
   ·rw[h1.2 h] at hu0;cases hu0
   ·omega
  have hdi:iw R i=some d:=by simp[iw,ho,hd]
  have hg:=Fg w σ hS.live z.cells ty 0;unfold wpOp;rw[ho]
  simp only
  rw[if_pos (by simp[Region.wanted,hgn])];left
  have hrun:(execOp a.eval o).run P w=.ok (.value (.pointer (some ⟨w.heap.size,0,none⟩))) {w with heap:=w.heap.push (.cells z.cells ty)}:=by
   have QZ:(newVar ty z).run P w=.ok ⟨w.heap.size,0,none⟩ {w with heap:=w.heap.push (.cells z.cells ty)}:=rfl;have zI:=zI w;clear hS hrT hst hkp Ch hM hdn ht;obtain⟨dst,op,ty',pos,after,guard⟩:=o;simp only at hop;subst hop;simp[execOp,Instr.alloc,zI,QZ]
  unfold Oper.wp;rw[hrun];show Mid P N E R i st vs β0 σ0 w0 _ (a.put o.dst _) _;rw[hd]
  have hdN:d<a.tmps.size:=by rw[hsz];exact hdn d hd
  refine⟨by simpa using hM.size,Ko,m,hm,fun j x hx vv hjp=> ?_,fun b=>if b=w.heap.size then 0 else σ b,β,by simp[Act.put,hsz],hdf,hS.grow hg,fun t=> ?_,hst.trans (Step.oQ hg),hkp,fun _=>⟨hmp,fun d' hd'=> ?_⟩⟩
  ·have hji:j≠i:=fun e=>hjp e hP';rw[getD_set_ne false (Ne.symm hji)];exact hmD j x hx vv fun _=>hnp
  ·unfold xV;by_cases e:t=d
   ·subst e;rw[if_pos ⟨hP',hdi⟩];exact trivial
   ·rw[if_neg (fun h=>e (by rw[hdi] at h;exact(cL h.2).symm))]
    rw[Di (E':=fun i=>listed.getD i false) R.size (fun j hj hdj=>by
     have hji:j≠i:=fun x=>by rw[x,hdi] at hdj;exact e (cL hdj).symm
     exact getD_set_ne false (Ne.symm hji))]
    have h1:=hrT t;unfold xV at h1;rw[if_neg (fun h=>hnp h.1)] at h1;rw[vZ (by intro x;exact e (cL x).symm)];exact h1.mono hg.near (Keep.refl _ _)
  ·rw[hdi] at hd';cases hd';refine⟨w.heap.size,z.cells,ty,by simp[Act.put,Array.getD,hdN],gL,gL,hst.size,fun h=> ?_,fun o2 t2 zs2 h1 h2 h3=> ?_⟩
   ·have:=hS.Jp h;omega
   ·rw[ho] at h1;cases h1;rw[hop] at h2;cases h2;rw[hzs] at h3;cases h3;exact hzc
 have hA:i=p->∀j x,j<p->R[j]? =some x->gT E x.op=true->listed.getD j false=true:=fun e j x hj hx hD=>by
  cases hl:listed.getD j false with
  |true=>rfl
  |false=>exact absurd ⟨e,j,x,hj,hx,hD,hl⟩ hA2
 have hPP:qH E R p (listed.setIfInBounds i true)->qH E R p listed:=by
  rintro⟨h1,h2,j,x,hj,hx,hD,hl⟩;obtain⟨hji,hl⟩:=asE j hl;rcases ad5 p h1 with e|h
  ·rw[hA e.symm j x hj hx hD] at hl;cases hl
  ·exact⟨h,h2,j,x,hj,hx,hD,hl⟩
 have hap:qH E R p listed->∀po d,R[p]? =some po->po.dst=some d->o.dst≠some d/\d∉o.looksAt R:=by
  rintro hP po d hpo Ch;have Yo:=hP;obtain⟨_,_,j0,x0,hj0,hx0,hD0,hu0⟩:=Yo
  have:o.apart R po=true:=by
   cases hc:o.apart R po with
   |true=>rfl
   |false=>
    have:=(hok.pend po hpo).2.2.2 i o (aqn hP) ho hc j0 x0 hj0 hx0 hD0;rw[DV j0 this.2] at hu0;cases hu0
  obtain⟨q1,q2,q3⟩:=Oper.apart_spec this;exact⟨fun e=>q2 d e Ch,q3 d Ch⟩
 have Vg:qH E R p listed->gT E o.op=true->i<p:=by
  rintro hP hD;have Yo:=hP;obtain⟨_,hpl,j0,x0,hj0,hx0,hD0,hu0⟩:=Yo;have hne:=aqn hP;rcases fh i p with h|h
  ·exact h
  ·exfalso;rcases hok.pair j0 i x0 o gA hx0 ho (by simp[pU,hD,hD0]) with hb|⟨e,_⟩
   ·rw[DV j0 hb] at hu0;cases hu0
   ·exact hne e
 have hbit:∀j x,R[j]? =some x->j≠i->wF R j i=true->(listed.getD j false=true<->j<i):=by
  intro j x hx hne hc;unfold wF at hc;constructor
  ·intro hE;rcases fh j i with h|h
   ·exact h
   ·exfalso;rw[if_neg gA] at hc;have:=Kn j x i hx hE hc;rw[Bz] at this;cases this
  ·intro hji;rw[if_pos hji] at hc;exact DV j hc
 have hdone:∀j x,R[j]? =some x->j≠i->(j=p->¬qH E R p listed)->pU E R x o=true->(listed.getD j false=true<->j<i):=by
  intro j x hx hne hjp hc;by_cases e:j<i
  ·rcases hok.pair j i x o e hx ho hc with hb|⟨e1,hD,_⟩
   ·exact hbit j x hx hne (by unfold wF;rw[if_pos e];exact hb)
   ·exact⟨fun _=>e,fun _=>hA e1 j x gA hx hD⟩
  ·rcases hok.pair i j o x gA ho hx (by rw[aaX];exact hc) with hb|⟨e1,hD,_⟩
   ·exact hbit j x hx hne (by unfold wF;rw[if_neg e];exact hb)
   ·refine⟨fun h=>absurd ⟨e1▸h,?_,i,o,gA,ho,hD,Bz⟩ (hjp e1),fun h=>absurd h e⟩;rw[<-e1];exact(bj.1 hx).1
 obtain⟨Yp,Yq⟩:∃Yp:List (Nat×V),∀t,look Yp t=nJ R vs (fun i=>listed.getD i false) (st 0).tm R.size t:=by
  have:∀n,∃vM:List (Nat×V),∀t,look vM t=nJ R vs (fun i=>listed.getD i false) (st 0).tm n t:=by
   intro n
   induction n with
   |zero=>exact⟨(st 0).tm,fun t=>rfl⟩
   |succ n ih=>
    obtain⟨tm,h⟩:=ih;by_cases hE:listed.getD n false=true
    ·cases hd:iw R n with
     |none=>exact⟨tm,fun t=>by rw[nJ,if_neg (fun x=>by rw[hd] at x;cases x.2)];exact h t⟩
     |some d=>
      refine⟨(n |> vs |> fun v=>(d,v))::tm,fun t=> ?_⟩;rw[nJ,look,hd,h t];by_cases e:d=t
      ·rw[if_pos e,if_pos ⟨hE,by rw[e]⟩]
      ·rw[if_neg e,if_neg (fun x=>e (cL x.2))]
    ·exact⟨tm,fun t=>by rw[nJ,if_neg (fun x=>hE x.1)];exact h t⟩
  exact this R.size
 obtain⟨vM,akd⟩:∃vM:List (Nat×V),∀t,look vM t=xV E R p vs listed (st 0).tm t:=by
  by_cases hP:qH E R p listed
  ·cases hd:iw R p with
   |none=>exact⟨Yp,fun t=>by unfold xV;rw[if_neg (fun h=>by rw[hd] at h;cases h.2)];exact Yq t⟩
   |some d=>
    refine⟨(d,.any)::Yp,fun t=> ?_⟩;unfold xV;rw[look,hd];by_cases e:d=t
    ·rw[if_pos e,if_pos ⟨hP,by rw[e]⟩]
    ·rw[if_neg e,if_neg (fun x=>e (cL x.2))];exact Yq t
  ·exact⟨Yp,fun t=>by unfold xV;rw[if_neg (fun h=>hP h.1)];exact Yq t⟩
 have hPd:∀t,qH E R p listed->iw R p=some t->∃po,R[p]? =some po/\po.dst=some t:=by
  intro t _ h;unfold iw at h
  cases hpo:R[p]? with
  |none=>rw[hpo] at h;cases h
  |some po=>rw[hpo] at h;exact⟨po,rfl,h⟩
 have Rb:∀t∈o.looksAt R,look vM t=look (st i).tm t:=by
  intro t htl;rw[akd];unfold xV
  rw[if_neg (fun h=>by
   obtain⟨po,h1,h2⟩:=hPd t h.1 h.2
   exact(hap h.1 po t h1 h2).2 htl),DU hT t i gA]
  have:=I6 (R:=R) (vs:=vs) (E:=fun i=>listed.getD i false) (base:=(st 0).tm) (t:=t) (i:=i) R.size (fun j hj hd=>by
   by_cases e:j=i
   ·subst e;rw[Bz];simp
   ·obtain⟨x,hx⟩:∃x,R[j]? =some x:=⟨_,cq hj⟩
    have hxd:x.dst=some t:=by simpa [iw,hx] using hd
    refine hdone j x hx e (fun e2 hP=> ?_) ?_
    ·subst e2;exact(hap hP x t hx hxd).2 htl
    ·have:x.apart R o=false:=by
      cases hap:x.apart R o with
      |false=>rfl
      |true=>exact absurd htl ((Oper.apart_spec hap).1 t hxd)
     simp[pU,this])
  rw[this,show min R.size i=i from gA]
 have hR:lU N ⟨vM,(st m).st⟩ a w σ β:=⟨hsz,hdf,hS,fun t=>by show dR w σ (st m).st β (look vM t) _;rw[akd];exact hrT t⟩
 have hev:∀x∈o.op.operands,ev (st i).tm x=ev vM x:=by
  intro x hx
  cases x with
  |tmp t=>show look _ t=look _ t;rw[Rb t (Lg hx rfl)]
  |_=>rfl
 have hgd:gd R o vM=gd R o (st i).tm:=by
  unfold gd
  cases hg:o.guard with
  |none=>rfl
  |some gw=>
   obtain⟨g,want⟩:=gw
   simp only
   cases hd:iw R g with
   |none=>rfl
   |some d=>
    simp only[dC];rw[Rb d (aaV hg hd)]
 have auB:∀(S':Store)(t:Nat),nJ R vs (fun i_1=>(listed.setIfInBounds i true).getD i_1 false) (st 0).tm R.size t=look (St.put ⟨Yp,S'⟩ o.dst (vs i)).tm t:=by
  intro S' t;by_cases hd:o.dst=some t
  ·have hdi:iw R i=some t:=by simp[iw,ho,hd]
   rw[Km (E:=fun i_1=>(listed.setIfInBounds i true).getD i_1 false) hset hdi R.size hlt (fun j hj hij hdj=>by
    obtain⟨x,hx⟩:∃x,R[j]? =some x:=⟨_,cq hj⟩
    have hxd:x.dst=some t:=by simpa [iw,hx] using hdj
    have ake:x.apart R o=false:=by
     cases hap:x.apart R o with
     |false=>rfl
     |true=>exact absurd hd ((Oper.apart_spec hap).2.1 t hxd)
    have:=hdone j x hx gA (fun e hP=>by
     subst e
     exact(hap hP x t hx hxd).1 hd) (by simp[pU,ake])
    rw[getD_set_ne false gA]
    cases hE:listed.getD j false with
    |false=>rfl
    |true=>exact absurd (this.1 hE) gA)]
   rw[hd];simp[St.put,look]
  ·have hdi:iw R i≠some t:=by simp only[iw,ho,dy];exact hd
   rw[Di (E':=fun i=>listed.getD i false) R.size (fun j hj hdj=>by
    have hji:j≠i:=fun e=>hdi (e▸hdj)
    exact getD_set_ne false (Ne.symm hji)),<-Yq t]
   cases hdd:o.dst with
   |none=>rfl
   |some d=>
    have hne:d≠t:=fun e=>hd (by rw[hdd,e]);simp[St.put,look,hne]
 have akf:∀(S':Store)(t:Nat),¬(qH E R p listed/\iw R p=some t)->look (St.put ⟨vM,S'⟩ o.dst (vs i)).tm t=nJ R vs (fun i_1=>(listed.setIfInBounds i true).getD i_1 false) (st 0).tm R.size t:=by
  intro S' t hn;rw[auB S' t]
  have h1:look vM t=look Yp t:=by rw[akd,Yq];unfold xV;rw[if_neg hn]
  cases hdd:o.dst with
  |none=>exact h1
  |some d=>simp only[St.put,look,h1]
 have fin:∀(m':Nat)(a':Act)(w':World)(σ':Nat->Nat)(β':Hs),m'<=R.size->(∀j x,R[j]? =some x->gT E x.op=true->(j=p->¬qH E R p listed)->((listed.setIfInBounds i true).getD j false=true<->j<m'))->
  (qH E R p listed->m'<=p)->(∀d,o.dst≠some d->a'.tmps.getD d undef=a.tmps.getD d undef)->
  lU N (St.put ⟨vM,(st m').st⟩ o.dst (vs i)) a' w' σ' β'->Step (st m).st β σ w (st m').st β' σ' w'->Keep (st m).st β (st m').st β'->Mid P N E R p st vs β0 σ0 w0 (listed.setIfInBounds i true) a' w':=by
  intro m' a' w' σ' β' hm' hD' hmp ha' hR' hst' Ct;have hS':=hR'.S;have hT':=hR'.T;rw[nR] at hS' hT';by_cases hP:qH E R p listed
  ·obtain⟨_,hraw⟩:=Ch hP;have Yo:=hP;obtain⟨hp1,hp2,j0,x0,hj0,hx0,hD0,hu0⟩:=Yo;obtain⟨po,hpo⟩:∃po,R[p]? =some po:=⟨_,cq hp2⟩;obtain⟨hal,hgn,⟨d,hd⟩,asF⟩:=hok.pend po hpo
   have hdp:iw R p=some d:=by simp[iw,hpo,hd]
   have hod:=hap hP po d hpo hd;have hraw:=hraw d hdp;obtain⟨b,c,ty',hv,hb,hσ,h0,hno,hzc⟩:=hraw;have hbl:b<w.heap.size:=lt_of_some hb
   have hb':w'.heap[b]? =some (.cells c ty' (0,0)):=by rw[(hst'.far b hbl hno).1];exact hb
   have hσ':σ' b=0:=by rw[(hst'.far b hbl hno).2];exact hσ
   have hno':¬Own (st m').st β' b:=fun h=>(hst'.own b h).elim hno (fun h=>gA);have hv':a'.tmps.getD d undef=.pointer (some ⟨b,0,none⟩):=(ha' d hod.1).trans hv;have asG:Raw P R p w0 w' σ' (st m').st β' (a'.tmps.getD d undef):=⟨b,c,ty',hv',hb',hσ',h0,hno',hzc⟩;by_cases hP':qH E R p (listed.setIfInBounds i true)
   ·refine⟨by simpa using hM.size,Ko,m',hm',fun j x hx vv hjp=>hD' j x hx vv (fun e=>absurd hP' (hjp e)),σ',β',hR'.size,hR'.defers,hS',fun t=> ?_,hst.trans hst',hkp.trans Ct,fun _=>⟨hmp hP,fun d' hd'=>by rw[hdp] at hd';cases hd';exact asG⟩⟩;unfold xV;by_cases e:iw R p=some t
    ·rw[if_pos ⟨hP',e⟩];exact trivial
    ·rw[if_neg (fun h=>e h.2),<-akf (st m').st t (fun h=>e h.2)];exact hT' t
   ·
    have hpl:(listed.setIfInBounds i true).getD p false=true:=getD_set_true hp1
    have hall:∀j x,j<p->R[j]? =some x->gT E x.op=true->(listed.setIfInBounds i true).getD j false=true:=fun j x hj hx hD=>by
     cases hl:(listed.setIfInBounds i true).getD j false with
     |true=>rfl
     |false=>exact absurd ⟨hpl,hp2,j,x,hj,hx,hD,hl⟩ hP'
    have aqp:∀j x,p<j->R[j]? =some x->gT E x.op=true->(listed.setIfInBounds i true).getD j false=false:=fun j x hj hx hD=>by
     cases hl:(listed.setIfInBounds i true).getD j false with
     |false=>rfl
     |true=>
      exfalso;rcases hok.pair j0 j x0 x gA hx0 hx (by simp[pU,hD,hD0]) with hbt|⟨e,_⟩
      ·rcases ad5 j hl with e|hl
       ·subst e;rw[DV j0 hbt] at hu0;cases hu0
       ·rw[Kn j x j0 hx hl hbt] at hu0;cases hu0
      ·omega
    have axo:=hmp hP
    have hsm:(st p).st=(st m').st:=by
     have:=JA hT (i:=m') (p-m') gA (fun j x h1 h2 h3=>by
      cases vv:gT E x.op with
      |false=>rfl
      |true=>
       have:=(hD' j x h3 vv (fun e=>gA)).1 (hall j x gA h3 vv)
       omega)
     rwa [show m'+(p-m')=p from gA] at this
    obtain⟨po',aqr,htp⟩:=hT p hp2;rw[hpo] at aqr;cases aqr
    obtain⟨ty,hop⟩:∃ty,po.op=.alloc ty:=by
     cases h:po.op<;>rw[h] at hal<;>first|exact⟨_,rfl⟩|cases hal
    obtain⟨zs,own,Ω,hzs,hs0,hs1,hvp⟩:=Ra htp hop hgn hd;rw[hsm] at hs0;have wG:=hst.trans hst';have aqs:=hkp.trans Ct;rw[hs0] at hS' hT' wG aqs hno';obtain⟨bo,bΩ,rfl,hlen,q1,q2,q3⟩:=akc hS' wG hb' hσ' h0 hno' (hzc po ty zs hpo hop hzs);rw[<-hs1] at q1 q2 q3;refine⟨by simpa using hM.size,Ko,p+1,gA,fun j x hx vv _=> ?_,σ',_,hR'.size,hR'.defers,q1,fun t=> ?_,q3,aqs.trans q2,fun h=>absurd h hP'⟩
    ·rcases eW j p with h|h|h
     ·exact⟨fun _=>gA,fun _=>hall j x h hx vv⟩
     ·subst h;exact⟨fun _=>gA,fun _=>hpl⟩
     ·rw[aqp j x h hx vv];exact⟨fun h=>(by cases h),fun h=>gA⟩
    ·unfold xV;rw[if_neg (fun h=>hP' h.1)];by_cases e:t=d
     ·subst e
      rw[Km (E:=fun i_1=>(listed.setIfInBounds i true).getD i_1 false) hpl hdp R.size hp2 (fun j hj hpj hdj=>by
       obtain⟨x,hx⟩:∃x,R[j]? =some x:=⟨_,cq hj⟩
       have hxd:x.dst=some t:=by simpa [iw,hx] using hdj
       have ake:x.apart R po=false:=by
        cases hap:x.apart R po with
        |false=>rfl
        |true=>exact absurd hd ((Oper.apart_spec hap).2.1 t hxd)
       have hbt:=asF j x gA hx ake j0 x0 hj0 hx0 hD0
       cases hl:(listed.setIfInBounds i true).getD j false with
       |false=>rfl
       |true=>
        exfalso;rcases ad5 j hl with e|hl
        ·subst e;rw[DV j0 hbt.2] at hu0;cases hu0
        ·rw[Kn j x j0 hx hl hbt.2] at hu0;cases hu0),hvp,hv',hs1]
      exact acA hlen
     ·rw[<-akf (st m').st t (fun h=>e (by rw[hdp] at h;exact(cL h.2).symm))];have h1:=hT' t;rw[hs0];exact h1.mono (eH.refl _ _) q2
  ·have hP':¬qH E R p (listed.setIfInBounds i true):=fun h=>hP (hPP h);refine⟨by simpa using hM.size,Ko,m',hm',fun j x hx vv _=>hD' j x hx vv (fun _=>hP),σ',β',hR'.size,hR'.defers,hS',fun t=> ?_,hst.trans hst',hkp.trans Ct,fun h=>absurd h hP'⟩;unfold xV;rw[if_neg (fun h=>hP' h.1),<-akf (st m').st t (fun h=>hP h.1)];exact hT' t
 have keepD:gT E o.op=false->∀j x,R[j]? =some x->gT E x.op=true->(j=p->¬qH E R p listed)->((listed.setIfInBounds i true).getD j false=true<->j<m):=by
  intro hD j x hx vv hjp
  have hji:j≠i:=fun e=>by rw[e,ho] at hx;cases hx;rw[hD] at vv;cases vv
  rw[getD_set_ne false (Ne.symm hji)];exact hmD j x hx vv hjp
 have hmP:qH E R p listed->m<=p:=fun h=>(Ch h).1
 have quiet:∀(w':World)(σ':Nat->Nat)(v:Value),gT E o.op=false->Grow w σ w' σ'->dR w' σ' (st m).st β (vs i) v->Mid P N E R p st vs β0 σ0 w0 (listed.setIfInBounds i true) (a.put o.dst v) w':=by
  intro w' σ' v hD hg hv;exact fin m _ w' σ' β hm (keepD hD) hmP (fun d hd=>vZ hd) (FQ hdn hsz hdf (hS.grow hg) (hR.T.mono hg.near (Keep.refl _ _)) hv) (Step.oQ hg) (Keep.refl _ _)
 have hDs:gT E o.op=true->∀j x,R[j]? =some x->gT E x.op=true->(j=p->¬qH E R p listed)->(listed.getD j false=true<->j<i):=by
  intro hD j x hx vv hjp;by_cases e:j=i
  ·subst e;rw[Bz];simp
  ·exact hdone j x hx e hjp (by simp[pU,hD,vv])
 have hsame:gT E o.op=true->(st m).st=(st i).st:=by
  intro hD
  have hno:∀j x,R[j]? =some x->(i<=j/\j<m\/m<=j/\j<i)->gT E x.op=false:=by
   intro j x hx hj
   cases vv:gT E x.op with
   |false=>rfl
   |true=>
    have hjp:j=p->¬qH E R p listed:=fun e hP=>by
     have:=Vg hP hD;have:=hmP hP;omega
    have h1:=hDs hD j x hx vv hjp;have h2:=hmD j x hx vv hjp;rcases hj with hj|hj
    ·have:=h1.1 (h2.2 hj.2);omega
    ·have:=h2.1 (h1.2 hj.2);omega
  rcases Nat.le_total i m with h|h
  ·have:=JA hT (i:=i) (m-i) gA (fun j x h1 h2 h3=>hno j x h3 (.inl ⟨h1,gA⟩))
   rwa [show i+(m-i)=m from gA] at this
  ·have:=JA hT (i:=m) (i-m) gA (fun j x h1 h2 h3=>hno j x h3 (.inr ⟨h1,gA⟩));rw[show m+(i-m)=i from gA] at this;exact this.symm
 have agQ:gT E o.op=true->∀j x,R[j]? =some x->gT E x.op=true->(j=p->¬qH E R p listed)->((listed.setIfInBounds i true).getD j false=true<->j<i+1):=by
  intro hD j x hx vv hjp;by_cases e:j=i
  ·subst e;rw[hset];simp
  ·rw[getD_set_ne false (Ne.symm e),hDs hD j x hx vv hjp];omega
 have hiP:gT E o.op=true->qH E R p listed->i+1<=p:=fun hD hP=>Vg hP hD;unfold wpOp;rw[ho]
 simp only
 have hRR:lU N ⟨vM,(st m).st⟩ a w σ β:=hR;rcases ht with⟨hg,hv,hs'⟩|⟨hg,hD,hv,hs'⟩|⟨hg,hD,hx,hs',_⟩
 ·
  have hw:Region.wanted o (yielded R a.tmps)=false:=by
   rw[<-hgd] at hg;unfold gd at hg;split at hg
   ·cases hg
   ·rename_i j want hgu;split at hg
    ·rename_i x hx;have hy:=Gi (s:=⟨vM,(st m).st⟩) hRR hx
     have hne:x≠want:=by
      intro e;rw[e] at hg;simp at hg
     simp[Region.wanted,hgu,hy,hne]
    ·rename_i hx;have hy:=Lf (s:=⟨vM,(st m).st⟩) hRR hx;simp[Region.wanted,hgu,hy]
    ·cases hg
  rw[if_neg (by rw[hw];simp)]
  have hvu:dR w σ (st m).st β (vs i) undef:=by rw[hv];exact Ap
  by_cases hD:gT E o.op=true
  ·have hsm:=hsame hD
   have hs1:(st (i+1)).st=(st m).st:=by rw[hsm,hs'];cases o.dst<;>rfl
   refine fin (i+1) _ w σ β hlt (agQ hD) (hiP hD) (fun d hd=>vZ hd) (by rw[hs1];exact FQ hdn hsz hdf hS hR.T hvu) (by rw[hs1];exact Step.oQ (Grow.refl hS.live)) (by rw[hs1];exact Keep.refl _ _)
  ·exact quiet w σ undef (by simpa using hD) (Grow.refl hS.live) hvu
 all_goals
  have hw:Region.wanted o (yielded R a.tmps)=true:=by
   rw[<-hgd] at hg;unfold gd at hg;split at hg
   ·rename_i hgu;simp[Region.wanted,hgu]
   ·rename_i j want hgu;split at hg
    ·rename_i x hx;have hy:=Gi (s:=⟨vM,(st m).st⟩) hRR hx;simp at hg;simp[Region.wanted,hgu,hy,hg]
    ·cases hg
    ·cases hg
  rw[if_pos hw];left
 ·
  rcases hv with⟨c,hc,hcn⟩|⟨hcond,hval⟩
  ·have hcn':=aj1 (tm':=vM) (fun x hx=>hev x (by rw[hc];exact hx)) hcn;unfold Kl at hcn';split at hcn'
   ·rename_i x hcx;split at hcn'
    ·rename_i f caps hex
     have hcall:qz P c ⟨vM,(st m).st⟩ o.dst (fun t=>t=St.put ⟨vM,(st m).st⟩ o.dst (vs i)):=by
      unfold qz;rw[hcx];simp only[hex];exact .inl ⟨_,hcn' (st m).st,fun r S' hp=>by rw[hp.1,hp.2]⟩
     refine Oper.wp_mono ?_ (Oper.agP (Q0 (Q:=Q) hc hdn hRR hcall));rintro a' w' ⟨⟨s'',σ',β',hR',hst',Ct,hK⟩,ha'⟩;subst hK;rw[nR] at hst' Ct;exact fin m a' w' σ' β' hm (keepD hD) hmP ha' hR' hst' Ct
    ·exact hcn'.elim
   ·exact hcn'.elim
  ·have hcv:kZ o.op=false:=by
    cases hc:kZ o.op with
    |false=>rfl
    |true=>
     exfalso;unfold kZ at hc;split at hc
     ·rename_i x b c hop;rw[hop] at hcond;exact jf hcond
     ·cases hc
   have anu:∀k,refs (st i).tm o k->∀j x,R[j]? =some x->(i<=j/\j<m\/m<=j/\j<i)->nN E x.op=false\/bC (st (j+1)).st k=bC (st j).st k:=by
    intro k hk j x hx hj
    cases hs:nN E x.op with
    |false=>exact .inl rfl
    |true=>
     have vv:gT E x.op=true:=agM hs
     have hji:j≠i:=fun e=>by rw[e,ho] at hx;cases hx;rw[hD] at vv;cases vv
     rcases hok.store j i x o hji hx ho hs hD hcv with hb|hb
     ·have h1:=hbit j x hx hji hb
      have h2:=hmD j x hx vv (fun e=>by
       subst e;have:=(yw (E:=E) (hok.pend x hx).1).2.1
       rw[hs] at this;cases this)
      rcases hj with hj|hj
      ·have:=h1.1 (h2.2 hj.2);omega
      ·have:=h2.1 (h1.2 hj.2);omega
     ·exact .inr (hb k hk)
   have e1:=aoa (P:=P) (S:=(st i).st) (tm:=(st i).tm) (tm':=vM) (op:=o.op) hev;rw[e1] at hcond hval
   have e2:qy P (tH (st i).st) (st m).st vM o.op=qy P (tH (st i).st) (st i).st vM o.op:=by
    cases hmv:ad4 o.op with
    |true=>exact aj9 hmv
    |false=>
     exact aj2 (P:=P) (l:=tH (st i).st) (S:=(st i).st) (S':=(st m).st) (tm:=vM) (op:=o.op) hcond (by
     intro x hx k hk ob hob hbr;have hrf:refs (st i).tm o k:=⟨hmv,x,hx,by rw[hev x hx];exact hk⟩;rcases Nat.le_total i m with h|h
     ·have hds:=ad2 hT (i:=i) (k:=k) (m-i) gA (fun j x h1 h2 h3=>anu k hrf j x h3 (.inl ⟨h1,gA⟩));rw[show i+(m-i)=m from gA] at hds;rcases hds ob hob with h'|⟨⟨z,es,e⟩,_⟩
      ·exact h'
      ·rcases e with e|⟨_,e⟩<;>rw[e] at hbr<;>exact hbr.elim
     ·have hds:=ad2 hT (i:=m) (k:=k) (i-m) gA (fun j x h1 h2 h3=>anu k hrf j x h3 (.inr ⟨h1,gA⟩));rw[show m+(i-m)=i from gA] at hds;have hrx:=lK (a:=a) hR.T x
      have hin:∃o',bC (st m).st k=some o':=by
       rcases hk with⟨off,e⟩|⟨i',off,e⟩|e|e|⟨r',p',e⟩|⟨r',p',z',i',off,e⟩<;>rw[show ev (⟨vM,(st m).st⟩:St).tm x=ev vM x from rfl,e] at hrx<;>obtain⟨⟨o',ho',_⟩,_⟩:=hrx<;>exact⟨o',ho'⟩
      obtain⟨o',ho'⟩:=hin;rcases hds o' ho' with h'|⟨_,o2,z,es,h',e⟩
      ·rw[hob] at h';cases h';exact ho'
      ·rw[hob] at h';cases h'
       rcases e with e|⟨_,e⟩<;>rw[e] at hbr<;>exact hbr.elim)
   have aqu:(qy P (tH (st i).st) (st m).st vM o.op).1:=by rw[e2];exact hcond
   have hval':vs i=(qy P (tH (st i).st) (st m).st vM o.op).2:=by rw[e2];exact hval
   obtain⟨v,w',σ',hrun,hgr,zy⟩:=OO (P:=P) _ o hS hR.T aqu;unfold Oper.wp;rw[hrun];exact quiet w' σ' v hD hgr (by rw[hval'];exact zy)
 ·have hsm:=hsame hD
  have hx':dP P o ⟨(st i).tm,(st i).st⟩ (fun t=>t=St.put ⟨(st i).tm,(st (i+1)).st⟩ o.dst (vs i)):=by
   rw[hs'] at hx;exact hx
  have hx2:=aj0 hD hev hx';rw[<-hsm] at hx2;refine Oper.wp_mono ?_ (Oper.agP (Kk (Q:=Q) hdn hRR hx2));rintro a' w' ⟨⟨s'',σ',β',hR',hst',Ct,hK⟩,ha'⟩;subst hK;rw[nR] at hst' Ct;exact fin (i+1) a' w' σ' β' hlt (agQ hD) (hiP hD) ha' hR' hst' Ct
theorem aof{st:Nat->St}{vs:Nat->V}{β0:Hs}{σ0:Nat->Nat}{w0:World}{Q:Exit->Act->World->Prop}{p:Nat}(hok:Vf E R N st p)
 (hT:∀i,i<R.size->∃o,R[i]? =some o/\pQ P E R o (st i) (vs i) (st (i+1)))(hQ:∀listed a w,Mid P N E R p st vs β0 σ0 w0 listed a w->(∀i,i<R.size->listed.getD i false=true)->Q .normal a w):
 ∀(fuel:Nat)(listed:Array Bool)(a:Act)(w:World),(List.range R.size).countP (fun i=> !listed.getD i false)<=fuel->Mid P N E R p st vs β0 σ0 w0 listed a w->wpAny P .any R Q fuel listed a w:=by
 have hend:∀listed a w,Mid P N E R p st vs β0 σ0 w0 listed a w->Region.ready .any R listed=[]->Q .normal a w:=by
  intro listed a w hM hr;refine hQ listed a w hM ?_;intro i
  induction i using Nat.strongRecOn with
  |_ i ih=>
   intro hi
   cases hE:listed.getD i false with
   |true=>rfl
   |false=>
    exfalso;have ho:R[i]? =some R[i]:=cq hi
    have:i∈Region.ready .any R listed:=by
     rw[mem_ready]
     have hs:i<listed.size:=by rw[hM.size];exact hi
     refine⟨by simp[hs] at hE ⊢;exact hE,_,ho,fun e he hb=> ?_⟩;have hon:=hok.edge i _ e ho he hb;exact ih e.on hon gA
    rw[hr] at this;simp at this
 intro fuel
 induction fuel with
 |zero=>
  intro listed a w hc hM
  have hnone:Region.ready .any R listed=[]:=by
   cases hr:Region.ready .any R listed with
   |nil=>rfl
   |cons i l=>
    exfalso
    have hi:i∈Region.ready .any R listed:=by rw[hr];simp
    obtain⟨hun,o,ho,_⟩:=mem_ready.1 hi;have hlt:=(bj.1 ho).1
    have hs:i<listed.size:=by rw[hM.size];exact hlt
    have hz:(List.range R.size).countP (fun i=> !listed.getD i false)=0:=gA
    rw[List.countP_eq_zero] at hz;have:=hz i (cw.2 hlt);simp[hs] at hun this;rw[hun] at this;cases this
  exact⟨hnone,hend listed a w hM hnone⟩
 |succ fuel ih=>
  intro listed a w hc hM;refine⟨hend listed a w hM,fun i hi=> ?_⟩;refine wpOp_mono (fun a' w' hM'=>ih _ a' w' ?_ hM') (mid_step hok hT hM hi);obtain⟨hun,o,ho,_⟩:=mem_ready.1 hi;have hlt:=(bj.1 ho).1
  have hs:i<listed.size:=by rw[hM.size];exact hlt
  have:=cnt_lt (fun j=> !listed.getD j false) (fun j=> !(listed.setIfInBounds i true).getD j false) (List.range R.size) i (fun x hx=>by
   by_cases e:x=i
   ·subst e;simp[hs] at hx
   ·rw[getD_set_ne false (Ne.symm e)] at hx;exact hx) (cw.2 hlt) (by simp[hs] at hun ⊢;exact hun) (by simp[hs])
  omega
theorem Kq{id:Nat}{Q:Exit->St->Prop}{s:St}(gP:P.follows .mixedOrders=true){st:Nat->St}{vs:Nat->V}(h0:st 0=s)(hK:Q .normal (st R.size))
 (hT':∀i,i<R.size->∃o,R[i]? =some o/\pQ P E R o (st i) (vs i) (st (i+1))){p:Nat}(hok:Vf E R N st p):AW P N (.region id R true) Q s:=by
 intro a w σ β hR;refine wp_region_any gP ?_;have hgd:Grow w σ {w with drawn:=w.drawn+1} σ:=⟨ax _,rfl,rfl,fun _ _=>⟨rfl,rfl⟩,hR.S.live⟩;refine aof (N:=N) (β0:=β) (σ0:=σ) (w0:=w) hok hT' (fun listed a' w' hM hall=> ?_) R.size _ a _ ?_ ?_
 ·obtain⟨m,hm,hmD,σ',β',hsz,hdf,hS,Yr,hst,hkp,_⟩:=hM.rep
  have hnP:¬qH E R p listed:=by
   rintro⟨_,_,j,x,hj,hx,_,hl⟩;rw[hall j (bj.1 hx).1] at hl;cases hl
  have hsm:(st R.size).st=(st m).st:=by
   have:=JA hT' (i:=m) (R.size-m) gA (fun j x h1 h2 h3=>by
    cases vv:gT E x.op with
    |false=>rfl
    |true=>have:=(hmD j x h3 vv (fun _=>hnP)).1 (hall j (bj.1 h3).1);omega)
   rwa [show m+(R.size-m)=R.size from gA] at this
  rw[h0] at hst hkp;refine⟨st R.size,σ',β',⟨hsz,hdf,by rw[hsm];exact hS,fun t=> ?_⟩,by rw[hsm];exact hst,by rw[hsm];exact hkp.tail,hK⟩;rw[DU hT' t R.size (ax _),hsm];have:=Yr t;unfold xV at this;rw[if_neg (fun h=>hnP h.1)] at this;rw[Di (E':=fun _=>true) R.size (fun j hj _=>hall j hj)] at this;exact this
 ·calc (List.range R.size).countP _<=(List.range R.size).length:=List.countP_le_length
   _=R.size:=List.length_range
 ·refine⟨gL,fun i o e ho hE _ _=> ?_,0,an _,fun i o ho _=> ?_,σ,β,hR.size,hR.defers,by rw[h0];exact hR.S.grow hgd,fun t=> ?_,by rw[h0];exact Step.oQ hgd,Keep.refl _ _,fun h=>by have h1:=h.1;rw[getD_replicate_false] at h1;cases h1⟩
  ·rw[getD_replicate_false] at hE;cases hE
  ·rw[getD_replicate_false];simp
  ·have:nJ R vs (fun i=>(Array.replicate R.size false).getD i false) (st 0).tm R.size t=look (st 0).tm t:=by
    have:=I6 (R:=R) (vs:=vs) (E:=fun i=>(Array.replicate R.size false).getD i false) (base:=(st 0).tm) (t:=t) (i:=0) R.size (fun j _ _=>by rw[getD_replicate_false];simp);rw[this,Nat.min_zero];rfl
   unfold xV;rw[if_neg (fun h=>by have h1:=h.1.1;rw[getD_replicate_false] at h1;cases h1),this,h0];exact(hR.T t).mono hgd.near (Keep.refl _ _)
theorem aog{id:Nat}{Q:Exit->St->Prop}{s:St}(gP:P.follows .mixedOrders=true)(hok:DN E R N=true)(h:xR P E R R.toList s (Q .normal)):AW P N (.region id R true) Q s:=by
 obtain⟨st,vs,h0,hK,hT⟩:=PI R.size 0 gA s h;exact Kq gP h0 hK (fun i hi=>hT i (an i) hi) (aql hok)
theorem akg{id p:Nat}{Q:Exit->St->Prop}{s:St}(gP:P.follows .mixedOrders=true)(hok:Jz E R N p=true)(h:xR P E R R.toList s (Q .normal)):AW P N (.region id R true) Q s:=by
 obtain⟨st,vs,h0,hK,hT⟩:=PI R.size 0 gA s h;exact Kq gP h0 hK (fun i hi=>hT i (an i) hi) (aoe hok)
theorem ad6{id:Nat}{Q:Exit->St->Prop}{s:St}(gP:P.follows .mixedOrders=true)(hok:T9 R N=true)(h:xR P (Q9 R N) R R.toList s (Q .normal)):AW P N (.region id R true) Q s:=by
 unfold T9 at hok;rw[dk] at hok;rcases hok with hok|hok
 ·exact aog gP hok h
 ·split at hok
  ·exact akg gP hok h
  ·cases hok
theorem ad7{v w:V}(h:adZ v w=true){k k':Key}(hv:(∃off,v=.c (.ptr k' off))\/(∃i off,v=.c (.nM k' i off))\/∃r p z i off,v=.c (.xq k' r p z i off))
 (hw:N7 w k):k'≠k:=by
 rintro rfl;rcases hv with⟨_,rfl⟩|⟨_,_,rfl⟩|⟨_,_,_,_,_,rfl⟩<;>rcases hw with⟨_,rfl⟩|⟨_,_,rfl⟩|rfl|rfl|⟨_,_,rfl⟩|⟨_,_,_,_,_,rfl⟩<;>simp[adZ] at h
theorem OW{o:Oper}{t:TypeId}{a y:Operand}{s s':St}{v:V}(hop:o.op=.store t a y)(h:pQ P E R o s v s'){k:Key}
 (hk:∀k',((∃off,ev s.tm a=.c (.ptr k' off))\/(∃i off,ev s.tm a=.c (.nM k' i off))\/∃r p z i off,ev s.tm a=.c (.xq k' r p z i off))->k'≠k):bC s'.st k=bC s.st k:=by
 rcases h with⟨_,_,h⟩|⟨_,_,_,h⟩|⟨_,_,h,_,_⟩
 ·rw[h];cases o.dst<;>rfl
 ·rw[h];cases o.dst<;>rfl
 ·obtain⟨dst,op,ty,pos,after,guard⟩:=o;subst hop;simp only[dP,yt] at h;split at h
  ·rename_i k' off he;split at h
   ·obtain⟨_,_,_,h4⟩:=h;rw[<-h4,nR];exact fV _ _ _ _ (hk k' (.inl ⟨_,he⟩))
   ·exact h.elim
  ·rename_i k' i off he;split at h
   ·obtain⟨_,_,_,_,h5⟩:=h;rw[<-h5,nR];exact fV _ _ _ _ (hk k' (.inr (.inl ⟨_,_,he⟩)))
   ·exact h.elim
  ·rename_i k' r p z i off he;split at h
   ·split at h
    ·split at h
     ·obtain⟨_,_,_,_,_,h6⟩:=h;rw[<-h6,nR];exact fV _ _ _ _ (hk k' (.inr (.inr ⟨_,_,_,_,_,he⟩)))
     ·exact h.elim
    ·exact h.elim
   ·exact h.elim
  ·exact h.elim
theorem Fp{st:Nat->St}{vs:Nat->V}(hT:∀i,i<R.size->∃o,R[i]? =some o/\pQ P E R o (st i) (vs i) (st (i+1))){i:Nat}(hi:i<=R.size){a:Operand}(h:settled R i a=true):
 ev (st R.size).tm a=ev (st i).tm a:=by
 cases a with
 |tmp t=>
  show look _ t=look _ t
  have key:∀n,i+n<=R.size->look (st (i+n)).tm t=look (st i).tm t:=by
   intro n
   induction n with
   |zero=>intro _;rfl
   |succ n ih=>
    intro hn;rw[DU hT t (i+(n+1)) hn,show i+(n+1)=i+n+1 from rfl,nJ,if_neg,<-DU hT t (i+n) gA,ih gA];rintro⟨_,hd⟩;have:=az.1 h (i+n) (cw.2 gA);rw[hd] at this;simp at this;omega
  have:=key (R.size-i) gA
  rwa [show i+(R.size-i)=R.size from gA] at this
 |_=>rfl
theorem agR{st:Nat->St}{vs:Nat->V}{p:Nat}(hed:∀(i:Nat)(o:Oper),R[i]? =some o->(o.after.toList.all (fun e=> !Region.binds .any e||decide (e.on<i))&&(match o.dst with|some d=>decide (d<N)|none=>true))=true)
 (Ch:∀o,R[p]? =some o->Cw o.op=true/\o.guard=none/\(∃d,o.dst=some d)/\∀j y,j≠p->R[j]? =some y->y.apart R o=false->∀i x,i<p->R[i]? =some x->gT E x.op=true->i<j/\((masks R.toList []).getD j 0).testBit i=true)
 (hp:∀(i j:Nat) (x y:Oper),i<j->R[i]? =some x->R[j]? =some y->((masks R.toList []).getD j 0).testBit i=true\/(x.apart R y=true/\(j=p\/((gT E x.op&&gT E y.op)=false/\(nN E x.op=true->zK R i x j y=true)/\(nN E y.op=true->zK R j y i x=true)))))
 (hT:∀i,i<R.size->∃o,R[i]? =some o/\pQ P E R o (st i) (vs i) (st (i+1)))(hl:Xo E R (st R.size).tm=true):Vf E R N st p:=by
 refine⟨?_,?_,?_,?_,Ch⟩
 ·intro i o e ho he hb;have h2:=hed i o ho;simp only[ai] at h2;have h3:=az.1 h2.1 e (by simpa using he);simpa [hb] using h3
 ·intro i o ho d hd;have h2:=hed i o ho;simp only[ai,hd] at h2;simpa using h2.2
 ·intro i j x y hij hx hy hc;rcases hp i j x y hij hx hy with h|⟨h1,h⟩
  ·exact .inl h
  ·unfold pU at hc;rw[h1] at hc;simp only[ft,ed] at hc;rcases h with h|⟨h,_⟩
   ·rw[ai] at hc;exact .inr ⟨h,hc.1,h1⟩
   ·rw[hc] at h;cases h
 ·intro i j x o hij hx ho hs hD hc
  have hjp:j≠p:=fun e=>by
   subst e;have:=(yw (E:=E) (Ch o ho).1).1;rw[hD] at this;cases this
  have Vg:i≠p:=fun e=>by
   subst e;have:=(yw (E:=E) (Ch x hx).1).2.1;rw[hs] at this;cases this
  cases hb:wF R i j with
  |true=>exact .inl rfl
  |false=>
   refine .inr ?_;rintro k ⟨_,z,hz,hk⟩;have hi:i<R.size:=(bj.1 hx).1;have hj:j<R.size:=(bj.1 ho).1
   have hlo:zK R i x j o=true:=by
    unfold wF at hb;by_cases e:i<j
    ·rw[if_pos e] at hb;rcases hp i j x o e hx ho with h|⟨_,h|⟨_,h,_⟩⟩
     ·rw[hb] at h;cases h
     ·exact absurd h hjp
     ·exact h hs
    ·rw[if_neg e] at hb;rcases hp j i o x gA ho hx with h|⟨_,h|⟨_,_,h⟩⟩
     ·rw[hb] at h;cases h
     ·exact absurd h Vg
     ·exact h hs
   unfold zK at hlo;rw[hc,ed] at hlo;split at hlo
   ·rename_i t a y hop;rw[ai] at hlo
    have hz':z∈o.op.operands.toList:=by simpa using hz
    have hsz:=az.1 hlo.2 z hz';have h1:=az.1 hl i (cw.2 hi);rw[hx] at h1;simp only[hs,ft,ed,hop] at h1;have h2:=az.1 h1 j (cw.2 hj);rw[ho] at h2;simp only[hb,hD,hc,ed] at h2;have h3:=az.1 h2 z hz';obtain⟨x',hx',ht⟩:=hT i hi;rw[hx] at hx';cases hx';refine OW hop ht fun k' hk'=> ?_;rw[Fp hT gA hlo.1,Fp hT gA hsz] at h3;exact ad7 h3 hk' hk
   ·cases hlo
theorem Rc{f:Nat->Nat->Oper->Oper->Bool}(h:((List.range R.size).all fun j=>
 (match R[j]? with
  |some o=>o.after.toList.all (fun e=> !Region.binds .any e||decide (e.on<j))&&(match o.dst with|some d=>decide (d<N)|none=>true)
  |none=>true)&&
 (List.range j).all fun i=>
   match R[i]?,R[j]? with
   |some x,some y=>((masks R.toList []).getD j 0).testBit i|| !(f i j x y)
   |_,_=>true)=true):
 (∀(i:Nat) (o:Oper),R[i]? =some o->(o.after.toList.all (fun e=> !Region.binds .any e||decide (e.on<i))&&(match o.dst with|some d=>decide (d<N)|none=>true))=true)/\
 ∀(i j:Nat)(x y:Oper),i<j->R[i]? =some x->R[j]? =some y->((masks R.toList []).getD j 0).testBit i=true\/f i j x y=false:=by
 refine⟨fun i o ho=> ?_,fun i j x y hij hx hy=> ?_⟩
 ·have hj:i<R.size:=(bj.1 ho).1;have h1:=az.1 h i (cw.2 hj);rw[ai,ho] at h1;exact h1.1
 ·have hj:j<R.size:=(bj.1 hy).1;have h1:=az.1 h j (cw.2 hj);rw[ai] at h1;have h2:=az.1 h1.2 i (cw.2 hij);rw[hx,hy] at h2;simp only[dk,fj] at h2;exact h2
theorem akh{st:Nat->St}{vs:Nat->V}(hok:N8 E R N=true)(hT:∀i,i<R.size->∃o,R[i]? =some o/\pQ P E R o (st i) (vs i) (st (i+1)))(hl:Xo E R (st R.size).tm=true):Vf E R N st R.size:=by
 obtain⟨h1,h2⟩:=Rc (f:=fun i j x y=>pU E R x y||(nN E x.op&& !(zK R i x j y))||(nN E y.op&& !(zK R j y i x))) hok;refine agR h1 (fun o ho=>by rw[dE (ax _)] at ho;cases ho) (fun i j x y hij hx hy=>(h2 i j x y hij hx hy).imp id fun h=> ?_) hT hl;simp only[pU,du,fy,Bool.and_eq_false_imp] at h;obtain⟨⟨⟨q1,q2⟩,q3⟩,q4⟩:=h;refine⟨q1,.inr ⟨?_,q3,q4⟩⟩
 cases hx:gT E x.op with
 |false=>rfl
 |true=>rw[q2 hx];rfl
theorem aqv{id:Nat}{Q:Exit->St->Prop}{s:St}(gP:P.follows .mixedOrders=true)(hok:N8 E R N=true)(h:xR P E R R.toList s (fun s'=>Xo E R s'.tm=true/\Q .normal s')):AW P N (.region id R true) Q s:=by
 obtain⟨st,vs,h0,hK,hT⟩:=PI R.size 0 gA s h;have hT':=fun i hi=>hT i (an i) hi;exact Kq gP h0 hK.2 hT' (akh hok hT' hK.1)
end
section
variable {P:Program} {w w':World} {σ σ':Nat->Nat} {S S':Store} {β β':Hs} {N:Nat} {s:St} {a:Act}
theorem mO{c:Code}{Q:Exit->St->Prop}{s s':St}(h:AW P N c Q s')
 (hg:∀(a:Act) (w:World) (σ:Nat->Nat) (β:Hs),lU N s a w σ β->∃σ' β',lU N s' a w σ' β'/\Step s.st β σ w s'.st β' σ' w/\Keep (iD s.st) (iD β) (iD s'.st) (iD β')):AW P N c Q s:=by
 intro a w σ β hR;obtain⟨σ',β',hR',hst,hk⟩:=hg a w σ β hR;refine wp_mono (h a w σ' β' hR') ?_;rintro e a' w' ⟨s'',F6,β'',k1,k2,k3,k4⟩;exact⟨s'',F6,β'',k1,hst.trans k2,hk.trans k3,k4⟩
def iK(N:Nat)(s s':St):Prop:=∀(a:Act)(w:World)(σ:Nat->Nat)(β:Hs),lU N s a w σ β->∃σ' β',lU N s' a w σ' β'/\Step s.st β σ w s'.st β' σ' w/\Keep (iD s.st) (iD β) (iD s'.st) (iD β')
theorem iK.refl(N:Nat)(s:St):iK N s s:=fun a w σ β hR=>⟨σ,β,hR,Step.oQ (Grow.refl hR.S.live),Keep.refl _ _⟩
theorem iK.trans{s s' s'':St}(h:iK N s s')(k:iK N s' s''):iK N s s'':=fun a w σ β hR=>by
 obtain⟨σ1,β1,r1,st1,k1⟩:=h a w σ β hR;obtain⟨σ2,β2,r2,st2,k2⟩:=k a w σ1 β1 r1;exact⟨σ2,β2,r2,st1.trans st2,k1.trans k2⟩
theorem PK{tm tm':List (Nat×V)}(hl:∀t,look tm' t=look tm t\/look tm' t=.any):iK N ⟨tm,S⟩ ⟨tm',S⟩:=
 fun a w σ β hR=>⟨σ,β,⟨hR.size,hR.defers,hR.S,fun t=>by
  rcases hl t with e|e
  ·show dR w σ S β (look tm' t) _;rw[e];exact hR.T t
  ·show dR w σ S β (look tm' t) _;rw[e];trivial⟩,Step.oQ (Grow.refl hR.S.live),Keep.refl _ _⟩
theorem ad8{c:Code}{Q:Exit->St->Prop}{tm tm':List (Nat×V)}(h:AW P N c Q ⟨tm',S⟩)(hl:∀t,look tm' t=look tm t\/look tm' t=.any):AW P N c Q ⟨tm,S⟩:=
 mO h fun a w σ β hR=>⟨σ,β,⟨hR.size,hR.defers,hR.S,fun t=>by
  rcases hl t with e|e
  ·show dR w σ S β (look tm' t) _;rw[e];exact hR.T t
  ·show dR w σ S β (look tm' t) _;rw[e];trivial⟩,Step.oQ (Grow.refl hR.S.live),Keep.refl _ _⟩
def C.vw:C->C
 | .bJ _ es=>.d (.sl es)
 | .bH es=>.d (.sl es)
 |c=>c
def V.vw:V->V
 | .c x=>.c x.vw
 | .agg cs=>.agg (cs.map C.vw)
 |v=>v
theorem Yt{c:C}{v:Value}(h:jc w σ S β c v):jc w σ S β c.vw v:=by
 cases c with
 |bJ k es=>exact h.1
 |bH es=>exact h.1
 |_=>exact h
theorem Yu{x:V}{v:Value}(h:dR w σ S β x v):dR w σ S β x.vw v:=by
 cases x with
 |c x=>exact⟨Yt h.1,h.2⟩
 |agg cs=>
  obtain⟨ar,ha,hl,hc⟩:=h;refine⟨ar,ha,by simpa using hl,fun j x hx=> ?_⟩;rw[bE] at hx
  cases hcj:cs[j]? with
  |none=>rw[hcj] at hx;cases hx
  |some y=>
   rw[hcj] at hx;cases hx;obtain⟨v,hv,hr,ho⟩:=hc j y hcj;exact⟨v,hv,Yt hr,ho⟩
 |_=>exact h
theorem bS.weaken{f:FuncId}{args args':List V}{post:V->Store->Prop}(h:bS P f args' S post)(hl:args.length=args'.length)
 (hw:∀(j:Nat) (x y:V),args[j]? =some x->args'[j]? =some y->∀w σ β v,dR w σ S β x v->dR w σ S β y v):bS P f args S post:=by
 refine⟨h.1,fun w σ β vs hS hv=>h.2 w σ β vs hS ⟨by rw[<-hl];exact hv.1,fun j y hy=> ?_⟩⟩;have hj:=(ap.1 hy).1;have hx:args[j]? =some (args[j]' gA):=am gA;obtain⟨v,h1,h2⟩:=hv.2 j _ hx;exact⟨v,h1,hw j _ y hx hy w σ β v h2⟩
theorem bS.vw{f:FuncId}{args:List V}{post:V->Store->Prop}(h:bS P f (args.map V.vw) S post):bS P f args S post:=
 h.weaken gL fun j x y hx hy w σ β v hr=>by
  rw[bE,hx] at hy;cases hy;exact Yu hr
theorem bS.mono{f:FuncId}{args:List V}{post post':V->Store->Prop}(h:bS P f args S post)(hp:∀r S',post r S'->post' r S'):bS P f args S post':=
 ⟨h.1,fun w σ β vs hS hv=>(h.2 w σ β vs hS hv).mono fun e w' ⟨v,r,S',σ',β',h1,h2,h3,h4,h5,h6⟩=>⟨v,r,S',σ',β',h1,h2,h3,h4,h5,hp _ _ h6⟩⟩
theorem Kr{f:FuncId}{args:List V}{s:St}{dst:Option Nat}{K:St->Prop}{r:V}(h:aD P f (args.map V.vw) r)(hK:K (St.put s dst r)):Dg P f args s dst K:=
 .inl ⟨_,(h s.st).vw,fun r' S' hp=>by rw[hp.1,hp.2];exact hK⟩
theorem nu{c:Code}{Q:Exit->St->Prop}{tm:List (Nat×V)}{own:List Obj}{Ω:Store}(t bB:Nat)(es:List (List D))(hv:look tm t=.c (.bH es))(hes:∀e∈es,e.length=bB)
 (h:AW P N c Q ⟨(t,.c (.bJ (0,own.length) es))::tm,(own++[.tok bB es])::Ω⟩):AW P N c Q ⟨tm,own::Ω⟩:=by
 refine mO h fun a w σ β hR=> ?_;obtain⟨bo,bΩ,rfl,hlen⟩:=frames hR;have ht:=hR.T t;rw[hv] at ht;obtain⟨⟨hd,ad,n,hval⟩,hone⟩:=ht
 have hn:n=es.length:=by rw[hval] at hd;cases hd<;>rfl
 have hg:Grow w σ w σ:=Grow.refl hR.S.live
 obtain⟨hS',hk,hst⟩:=hR.S.push (o:=.tok bB es) (h:=a.tmps.getD t undef) hg hlen ⟨hd,hes,ad,n,by rw[hval,hn],gA,.inl hn⟩ (fun b hb=>by
  rw[hval,hn] at hb
  cases ad<;>simp[owns,blk] at hb)
 refine⟨σ,_,⟨hR.size,hR.defers,hS',fun u=> ?_⟩,hst,Keep.refl _ _⟩;show dR w σ _ _ (if t=u then _ else look tm u) _;by_cases e:t=u
 ·subst e;rw[if_pos rfl];refine⟨⟨hd,_,dw _ _ _,fun a b e=> ?_⟩,hone⟩;obtain⟨_,rfl⟩:=mM (lab:=none) e;exact⟨ax _,fun _=>by rw[<-hlen,dw]⟩
 ·rw[if_neg e];exact(hR.T u).mono (eH.refl _ _) hk
theorem lV{c:Code}{Q:Exit->St->Prop}{tm:List (Nat×V)}{own:List Obj}{Ω:Store}(n t bB:Nat)(es:List (List D))(hv:look tm t=.c (.mE n es)\/(look tm t=.c (.bH es)/\es=[]))(hes:∀e∈es,e.length=bB)
 (h:AW P N c Q ⟨(t,.c (.bJ (0,own.length) es))::tm,(own++[.eP n bB es])::Ω⟩):AW P N c Q ⟨tm,own::Ω⟩:=by
 refine mO h fun a w σ β hR=> ?_;obtain⟨bo,bΩ,rfl,hlen⟩:=frames hR;have ht:=hR.T t
 have hl:∃ad,a.tmps.getD t undef=.slice ad es.length es.length/\dO w σ (.ol n es) (a.tmps.getD t undef):=by
  rcases hv with hv|⟨hv,rfl⟩
  ·rw[hv] at ht;obtain⟨⟨hd,ad,m,hval⟩,_⟩:=ht
   have hn:m=es.length:=by
    have:=vI hd;rw[hval] at this;cases this<;>rfl
   exact⟨ad,by rw[hval,hn],hd⟩
  ·rw[hv] at ht;obtain⟨⟨hd,ad,m,hval⟩,_⟩:=ht
   have hn:m=0:=by rw[hval] at hd;cases hd<;>rfl
   subst hn;exact⟨ad,hval,by rw[hval];exact .xO _ _ _⟩
 obtain⟨ad,hval,hol⟩:=hl;have hd:=vI hol;have hg:Grow w σ w σ:=Grow.refl hR.S.live
 obtain⟨hS',hk,hst⟩:=hR.S.push (o:=.eP n bB es) (h:=a.tmps.getD t undef) hg hlen ⟨hd,hes,ad,es.length,hval,ax _,.inl ⟨rfl,hol⟩⟩ (fun b hb=>by
  rw[hval] at hb
  cases ad<;>simp[owns,blk] at hb)
 refine⟨σ,_,⟨hR.size,hR.defers,hS',fun u=> ?_⟩,hst,Keep.refl _ _⟩;show dR w σ _ _ (if t=u then _ else look tm u) _;by_cases e:t=u
 ·subst e;rw[if_pos rfl];refine⟨⟨hd,_,dw _ _ _,fun a b e=> ?_⟩,by rw[hval];rfl⟩;obtain⟨_,rfl⟩:=mM (lab:=some n) e;exact⟨ax _,fun _=>by rw[<-hlen,dw]⟩
 ·rw[if_neg e];exact(hR.T u).mono (eH.refl _ _) hk
theorem Ua{c:Code}{Q:Exit->St->Prop}{tm:List (Nat×V)}{Ω:Store}(n:Nat)(h:AW P N c Q ⟨tm,[.seed n]::Ω⟩):AW P N c Q ⟨tm,[]::Ω⟩:=by
 refine mO h fun a w σ β hR=> ?_;obtain⟨bo,bΩ,rfl,hlen⟩:=frames hR;obtain⟨hS',hk,hst⟩:=hR.S.push (o:=.seed n) (h:=undef) (Grow.refl hR.S.live) hlen trivial (fun b hb=>by cases hb);exact⟨σ,_,⟨hR.size,hR.defers,hS',fun u=>(hR.T u).mono (eH.refl _ _) hk⟩,hst,Keep.refl _ _⟩
theorem Gm{tm:List (Nat×V)}{own:List Obj}{Ω:Store}{m:Nat}(n:Nat):iK N ⟨tm,(.seed m::own)::Ω⟩ ⟨tm,(.seed n::own)::Ω⟩:=by
 intro a w σ β hR;obtain⟨bo,bΩ,rfl,hlen⟩:=frames hR;have h0:bC ((Obj.seed m::own)::Ω) (0,0)=some (.seed m):=rfl;obtain⟨h,hh,_⟩:=hR.S.obj (0,0) _ h0;obtain⟨hS',hk,hst⟩:=hR.S.set (o':=.seed n) (h':=h) h0 hh (ax _) rfl rfl (eH.refl _ _) hR.S.live (fun _ _ _=>⟨rfl,rfl⟩) (.inr ⟨n,rfl⟩) trivial (fun b hb=>by cases hb);have e:bA (bo::bΩ) (0,0) h=bo::bΩ:=Ao h _ _ _ hh;rw[e] at hS' hk hst;exact⟨σ,_,⟨hR.size,hR.defers,hS',fun u=>(hR.T u).mono (eH.refl _ _) hk⟩,hst,Keep.refl _ _⟩
theorem oW{c:Code}{Q:Exit->St->Prop}{tm:List (Nat×V)}{own:List Obj}{Ω:Store}{m:Nat}(n:Nat)(h:AW P N c Q ⟨tm,(.seed n::own)::Ω⟩):AW P N c Q ⟨tm,(.seed m::own)::Ω⟩:=mO h (Gm n)
def kR(n:Nat)(k:Key):Bool:=decide (0<k.1)||decide (k.2<n)
def C.refs(n:Nat):C->Bool
 | .bJ k _=>kR n k
 | .ptr k _=>kR n k
 | .nM k _ _=>kR n k
 | .jO k=>kR n k
 | .mp k=>kR n k
 | .fn _ caps=>caps.all fun x=>kR n x.1
 | .xp k _ _=>kR n k
 | .xq k _ _ _ _ _=>kR n k
 |_=>true
def V.refs(n:Nat):V->Bool
 | .c x=>x.refs n
 | .agg cs=>cs.all (C.refs n)
 | .eu xs=>xs.all fun y=>y.2.all (C.refs n)
 | .any=>true
def Obj.refs(n:Nat):Obj->Bool
 | .box cs=>cs.all (C.refs n)
 |_=>true
theorem kG{α:Type}{own:List α}{Ω:List (List α)}{n:Nat}{k:Key}(h:kR n k=true):bC (own.take n::Ω) k=bC (own::Ω) k:=by
 obtain⟨l,j⟩:=k
 cases l with
 |zero=>
  simp[kR] at h;rw[bM,bM,ck h]
 |succ l=>rw[dG,dG]
theorem p9{α:Type}{own:List α}{Ω:List (List α)}{n:Nat}{k:Key}{o:α}(h:bC (own.take n::Ω) k=some o):bC (own::Ω) k=some o/\kR n k=true:=by
 obtain⟨l,j⟩:=k
 cases l with
 |zero=>
  rw[bM] at h ⊢;have hj:=(ap.1 h).1;simp at hj;rw[ck gA] at h;exact⟨h,by simp[kR];omega⟩
 |succ l=>rw[dG] at h ⊢;exact⟨h,by simp[kR]⟩
theorem Mg{own:List Obj}{Ω:Store}{bo:List Value}{bΩ:Hs}{n:Nat}{c:C}{v:Value}(hr:c.refs n=true)(h:jc w σ (own::Ω) (bo::bΩ) c v):jc w σ (own.take n::Ω) (bo.take n::bΩ) c v:=by
 cases c with
 |d x=>exact h
 |any=>exact h
 |bH es=>exact h
 |om cs=>exact h
 |bJ k es=>
  obtain⟨h1,o,ho,h2⟩:=h;exact⟨h1,o,(kG hr).trans ho,fun a b e=>by rw[kG hr];exact h2 a b e⟩
 |ptr k off=>
  obtain⟨o,ho,h2⟩:=h;exact⟨o,(kG hr).trans ho,fun a e=>by rw[kG hr];exact h2 a e⟩
 |nM k i off=>
  obtain⟨o,ho,h2⟩:=h;exact⟨o,(kG hr).trans ho,fun a b e=>by rw[kG hr];exact h2 a b e⟩
 |jO k=>
  obtain⟨o,ho,h2⟩:=h;exact⟨o,(kG hr).trans ho,fun a b e=>by rw[kG hr];exact h2 a b e⟩
 |mp k=>
  obtain⟨o,ho,h2⟩:=h;exact⟨o,(kG hr).trans ho,fun a e=>by rw[kG hr];exact h2 a e⟩
 |fn f caps=>
  obtain⟨vs,hv,hl,h2⟩:=h;refine⟨vs,hv,hl,fun j k off e=> ?_⟩;obtain⟨u,hu,h1c,o,ho,h3⟩:=h2 j k off e;have hk:kR n k=true:=az.1 hr (k,off) (de e);exact⟨u,hu,h1c,o,(kG hk).trans ho,fun cs e=>by rw[kG hk];exact h3 cs e⟩
 |mE m es=>exact h
 |xp k r p=>
  obtain⟨o,ho,h2⟩:=h;exact⟨o,(kG hr).trans ho,fun a e=>by rw[kG hr];exact h2 a e⟩
 |xq k r p z i off=>
  obtain⟨o,ho,h2⟩:=h;exact⟨o,(kG hr).trans ho,fun a e=>by rw[kG hr];exact h2 a e⟩
theorem Kt{own:List Obj}{Ω:Store}{bo:List Value}{bΩ:Hs}{n:Nat}{cs:List C}{vs:List Value}(hr:cs.all (C.refs n)=true)(h:gN w σ (own::Ω) (bo::bΩ) cs vs):gN w σ (own.take n::Ω) (bo.take n::bΩ) cs vs:=
 ⟨h.1,fun j x hx=>let⟨v,hv,hc,ho⟩:=h.2 j x hx;⟨v,hv,Mg (az.1 hr x (de hx)) hc,ho⟩⟩
theorem agS{own:List Obj}{Ω:Store}{bo:List Value}{bΩ:Hs}{n:Nat}{x:V}{v:Value}(hr:x.refs n=true)(h:dR w σ (own::Ω) (bo::bΩ) x v):dR w σ (own.take n::Ω) (bo.take n::bΩ) x v:=by
 cases x with
 |c x=>exact⟨Mg hr h.1,h.2⟩
 |agg cs=>obtain⟨ar,ha,hc⟩:=h;exact⟨ar,ha,Kt hr hc⟩
 |eu xs=>
  obtain⟨ar,ha,hl,h2⟩:=h;refine⟨ar,ha,hl,fun j y hy=> ?_⟩;obtain⟨u,hu,h3⟩:=h2 j y hy;have hy':y.2.all (C.refs n)=true:=az.1 hr y (de hy);refine⟨u,hu,?_⟩;obtain⟨b,cs⟩:=y
  cases b with
  |true=>obtain⟨a',e,hcs⟩:=h3;exact⟨a',e,Kt hy' hcs⟩
  |false=>
   obtain⟨x,e,hx,ho⟩:=h3;subst e;simp at hy';exact⟨x,rfl,Mg hy' hx,ho⟩
 |any=>trivial
def jh(n:Nat)(tm:List (Nat×V)):Bool:=tm.all fun x=>x.2.refs n
theorem Vh{n:Nat}:∀(tm:List (Nat×V))(t:Nat),jh n tm=true->(look tm t).refs n=true
 |[],_,_=>rfl
 |(x,v)::tm,t,h=>by
  simp only[jh,dv,ai] at h;rw[look];split
  ·exact h.1
  ·exact Vh tm t h.2
theorem Rf{tm:List (Nat×V)}{own:List Obj}{Ω:Store}(n:Nat)(h1:jh n tm=true)(h2:(own.take n).all (Obj.refs n)=true):iK N ⟨tm,own::Ω⟩ ⟨tm,own.take n::Ω⟩:=by
 intro a w σ β hR;obtain⟨bo,bΩ,rfl,hlen⟩:=frames hR
 have hown:∀b,Own (own.take n::Ω) (bo.take n::bΩ) b->Own (own::Ω) (bo::bΩ) b:=by
  rintro b ⟨k,o,hv,e1,e2,e3⟩;exact⟨k,o,hv,(p9 e1).1,(p9 e2).1,e3⟩
 refine⟨σ,bo.take n::bΩ,⟨hR.size,hR.defers,⟨fun k o ho=> ?_,fun k k' o o' h1 h2 b e1 e2 e3 e4 e5 e6=> ?_,⟨by have:=hR.S.shape.1;simpa using this,fun l fr hl=> ?_⟩,hR.S.live,hR.S.vH⟩,fun t=>agS (Vh tm t h1) (hR.T t)⟩,
  ⟨ax _,rfl,rfl,fun _ _ _=>⟨rfl,rfl⟩,eH.refl _ _,fun b hb=>.inl (hown b hb)⟩,Keep.refl _ _⟩
 ·obtain⟨ho',hk⟩:=p9 ho;obtain⟨hv,hh,hr⟩:=hR.S.obj k o ho';refine⟨hv,(kG hk).trans hh,?_⟩;obtain⟨l,j⟩:=k
  cases l with
  |zero=>
   cases o with
   |dead=>trivial
   |box cs=>
    obtain⟨b,cc,t,e,hb,hs,hc⟩:=hr;rw[bM] at ho;have hcs:cs.all (C.refs n)=true:=az.1 h2 (.box cs) (de ho);exact⟨b,cc,t,e,hb,hs,Kt hcs hc⟩
   |tok=>exact hr
   |fM=>exact hr
   |mp=>exact hr
   |eP=>exact hr
   |seed=>exact hr
   |xf=>exact hr
  |succ l=>exact hr
 ·exact hR.S.apart k k' o o' h1 h2 b (p9 e1).1 (p9 e2).1 e3 (p9 e4).1 (p9 e5).1 e6
 ·cases l with
  |zero=>
   simp at hl;subst hl;exact⟨_,rfl,by simp[hlen]⟩
  |succ l=>exact hR.S.shape.2 (l+1) fr hl
def C.qj(j:Nat)(es:List (List D)):C->C
 | .jO (0,i)=>if i=j then .d (.sl es) else .jO (0,i)
 |c=>c
def V.qj(j:Nat)(es:List (List D)):V->V
 | .c x=>.c (x.qj j es)
 | .agg cs=>.agg (cs.map (C.qj j es))
 | .eu xs=>.eu (xs.map fun y=>(y.1,y.2.map (C.qj j es)))
 | .any=>.any
def Obj.qj(j:Nat)(es:List (List D)):Obj->Obj
 | .box cs=>.box (cs.map (C.qj j es))
 |o=>o
theorem Ku{f:V->V}(hf:f .any=.any):∀(tm:List (Nat×V))(t:Nat),look (tm.map fun x=>(x.1,f x.2)) t=f (look tm t)
 |[],_=>hf.symm
 |(x,v)::tm,t=>by
  show(if x=t then f v else look (tm.map fun x=>(x.1,f x.2)) t)=f (if x=t then v else look tm t);split
  ·rfl
  ·exact Ku hf tm t
def V.ny(f:C->C):V->V
 | .c x=>.c (f x)
 | .agg cs=>.agg (cs.map f)
 | .eu xs=>.eu (xs.map fun y=>(y.1,y.2.map f))
 | .any=>.any
def Obj.ny(f:C->C):Obj->Obj
 | .box cs=>.box (cs.map f)
 |o=>o
theorem BA{f:C->C}{own:List Obj}{j i:Nat}:((own.map (Obj.ny f)).set j .dead)[i]? =if i=j then(if j<own.length then some .dead else none) else(own[i]?).map (Obj.ny f):=by
 rw[eJ];by_cases e:j=i
 ·subst e;simp
 ·rw[if_neg e,if_neg (Ne.symm e),bE]
theorem Ar{f:C->C}{own:List Obj}{Ω:Store}{j:Nat}{oj:Obj}(hj:own[j]? =some oj){k:Key}{o:Obj}(hk:bC (own::Ω) k=some o):
 ∃o',bC ((own.map (Obj.ny f)).set j .dead::Ω) k=some o'/\((k=(0,j)/\o'=.dead)\/(k≠(0,j)/\(o'=o\/o'=o.ny f))):=by
 obtain⟨l,i⟩:=k
 cases l with
 |zero=>
  rw[bM] at hk;by_cases e:i=j
  ·subst e;refine⟨.dead,?_,.inl ⟨rfl,rfl⟩⟩;rw[bM,BA,if_pos rfl,if_pos (ap.1 hj).1]
  ·refine⟨o.ny f,?_,.inr ⟨fun x=>e (by cases x;rfl),.inr rfl⟩⟩;rw[bM,BA,if_neg e,hk];rfl
 |succ l=>exact⟨o,by rw[dG] at hk ⊢;exact hk,.inr ⟨gL,.inl rfl⟩⟩
theorem wh{f:C->C}{o o':Obj}(h:o'=o\/o'=o.ny f):(∀z es,wC o' z es->wC o z es)/\(∀z es,o'=.fM z es->o=.fM z es)/\(∀m,o'=.mp m->o=.mp m)/\(∀cs,o'=.box cs->∃cs',o=.box cs')/\(∀rs,o'=.xf rs->o=.xf rs):=by
 rcases h with rfl|rfl
 ·exact⟨fun _ _ h=>h,fun _ _ h=>h,fun _ h=>h,fun cs h=>⟨cs,h⟩,fun _ h=>h⟩
 ·cases o<;>simp[Obj.ny,wC]
theorem Rh{f:C->C}{own:List Obj}{Ω:Store}{bo:List Value}{bΩ:Hs}{j:Nat}{oj:Obj}(hj:own[j]? =some oj)(hn:eH w σ w σ'){c:C}{v:Value}(hc:jc w σ (own::Ω) (bo::bΩ) c v):
 jc w σ' ((own.map (Obj.ny f)).set j .dead::Ω) (bo::bΩ) c v:=by
 cases c with
 |d x=>exact dO.mono hn hc
 |any=>trivial
 |bH es'=>exact⟨dO.mono hn hc.1,hc.2⟩
 |mE n es'=>exact⟨dO.mono hn hc.1,hc.2⟩
 |om cs=>obtain⟨ad,h1,h2⟩:=hc;exact⟨ad,h1,h2.mono hn⟩
 |bJ k es'=>
  obtain⟨h1,o,ho,h2⟩:=hc;obtain⟨o',ho',hcase⟩:=Ar hj ho;refine⟨dO.mono hn h1,o',ho',fun z e4 e=> ?_⟩;rcases hcase with⟨_,e'⟩|⟨_,e'⟩
  ·rw[e'] at e;rcases e with e|⟨_,e⟩<;>cases e
  ·exact h2 _ _ ((wh e').1 _ _ e)
 |ptr k off=>
  obtain⟨o,ho,h2⟩:=hc;obtain⟨o',ho',hcase⟩:=Ar hj ho;refine⟨o',ho',fun cs e=> ?_⟩;rcases hcase with⟨_,e'⟩|⟨_,e'⟩
  ·rw[e'] at e;cases e
  ·obtain⟨cs',e''⟩:=(wh e').2.2.2.1 _ e;exact h2 _ e''
 |nM k i off=>
  obtain⟨o,ho,h2⟩:=hc;obtain⟨o',ho',hcase⟩:=Ar hj ho;refine⟨o',ho',fun z e4 e=> ?_⟩;rcases hcase with⟨_,e'⟩|⟨_,e'⟩
  ·rw[e'] at e;cases e
  ·exact h2 _ _ ((wh e').2.1 _ _ e)
 |jO k=>
  obtain⟨o,ho,h2⟩:=hc;obtain⟨o',ho',hcase⟩:=Ar hj ho;refine⟨o',ho',fun z e4 e=> ?_⟩;rcases hcase with⟨_,e'⟩|⟨_,e'⟩
  ·rw[e'] at e;cases e
  ·exact h2 _ _ ((wh e').2.1 _ _ e)
 |mp k=>
  obtain⟨o,ho,h2⟩:=hc;obtain⟨o',ho',hcase⟩:=Ar hj ho;refine⟨o',ho',fun m e=> ?_⟩;rcases hcase with⟨_,e'⟩|⟨_,e'⟩
  ·rw[e'] at e;cases e
  ·exact h2 _ ((wh e').2.2.1 _ e)
 |fn f caps=>
  obtain⟨vs,hv,hl,h2⟩:=hc;refine⟨vs,hv,hl,fun i k off e=> ?_⟩;obtain⟨u,hu,h1c,o,ho,h3⟩:=h2 i k off e;obtain⟨o',ho',hcase⟩:=Ar hj ho;refine⟨u,hu,h1c,o',ho',fun cs e=> ?_⟩;rcases hcase with⟨_,e'⟩|⟨_,e'⟩
  ·rw[e'] at e;cases e
  ·obtain⟨cs',e''⟩:=(wh e').2.2.2.1 _ e;exact h3 _ e''
 |xp k r p=>
  obtain⟨o,ho,h2⟩:=hc;obtain⟨o',ho',hcase⟩:=Ar hj ho;refine⟨o',ho',fun rs e=> ?_⟩;rcases hcase with⟨_,e'⟩|⟨_,e'⟩
  ·rw[e'] at e;cases e
  ·exact h2 _ ((wh e').2.2.2.2 _ e)
 |xq k r p z i off=>
  obtain⟨o,ho,h2⟩:=hc;obtain⟨o',ho',hcase⟩:=Ar hj ho;refine⟨o',ho',fun rs e=> ?_⟩;rcases hcase with⟨_,e'⟩|⟨_,e'⟩
  ·rw[e'] at e;cases e
  ·exact h2 _ ((wh e').2.2.2.2 _ e)
theorem Yv{f:C->C}{tm:List (Nat×V)}{own:List Obj}{Ω:Store}{bo:List Value}{bΩ:Hs}(j:Nat){oj:Obj}{hj:Value}(hoj:own[j]? =some oj)(hbj:bo[j]? =some hj)(hR:lU N ⟨tm,own::Ω⟩ a w σ (bo::bΩ))(hlen:bo.length=own.length)
 (hn:eH w σ w σ')(hch:∀x,¬owns oj hj x->σ' x=σ x)(hlive:∀x,x<w.heap.size\/σ' x=0)
 (hC:∀(c:C) (v:Value),jc w σ (own::Ω) (bo::bΩ) c v->jc w σ' ((own.map (Obj.ny f)).set j .dead::Ω) (bo::bΩ) (f c) v):
 lU N ⟨tm.map fun x=>(x.1,x.2.ny f),(own.map (Obj.ny f)).set j .dead::Ω⟩ a w σ' (bo::bΩ)/\Step (own::Ω) (bo::bΩ) σ w ((own.map (Obj.ny f)).set j .dead::Ω) (bo::bΩ) σ' w:=by
 have Xp:∀k o,bC ((own.map (Obj.ny f)).set j .dead::Ω) k=some o->(k=(0,j)/\o=.dead)\/(k≠(0,j)/\∃o0,bC (own::Ω) k=some o0/\(o=o0\/o=o0.ny f)/\(0<k.1->o=o0)/\∀h b,owns o h b<->owns o0 h b):=by
  intro k o hk;obtain⟨l,i⟩:=k
  cases l with
  |zero=>
   rw[bM,BA] at hk;by_cases e:i=j
   ·subst e;rw[if_pos rfl,if_pos (ap.1 hoj).1] at hk;cases hk;exact .inl ⟨rfl,rfl⟩
   ·rw[if_neg e] at hk
    cases ho:own[i]? with
    |none=>rw[ho] at hk;cases hk
    |some o0=>
     rw[ho] at hk;cases hk;refine .inr ⟨fun x=>e (by cases x;rfl),o0,by rw[bM];exact ho,.inr rfl,fun h=>absurd h gL,fun h b=> ?_⟩
     cases o0 with
     |box cs=>cases h<;>first|exact Iff.rfl|(rename_i x;cases x<;>exact Iff.rfl)
     |_=>exact Iff.rfl
  |succ l=>rw[dG] at hk;exact .inr ⟨gL,o,by rw[dG];exact hk,.inl rfl,fun _=>rfl,fun _ _=>Iff.rfl⟩
 have hCs:∀(cs:List C)(vs:List Value),gN w σ (own::Ω) (bo::bΩ) cs vs->gN w σ' ((own.map (Obj.ny f)).set j .dead::Ω) (bo::bΩ) (cs.map f) vs:=by
  intro cs vs hc;refine⟨by simpa using hc.1,fun i x hx=> ?_⟩;rw[bE] at hx
  cases hci:cs[i]? with
  |none=>rw[hci] at hx;cases hx
  |some y=>
   rw[hci] at hx;cases hx;obtain⟨v,hv,hr,ho⟩:=hc.2 i y hci;exact⟨v,hv,hC y v hr,ho⟩
 have hother:∀k o h x,k≠(0,j)->bC (own::Ω) k=some o->bC (bo::bΩ) k=some h->owns o h x->σ' x=σ x:=by
  intro k o h x hk e1 e2 e3;refine hch x fun e4=>hk ?_;exact hR.S.apart k (0,j) o _ h _ x e1 e2 e3 (by rw[bM];exact hoj) (by rw[bM];exact hbj) e4
 refine⟨⟨hR.size,hR.defers,⟨fun k o ho=> ?_,fun k k' o o' h1 h2 b' e1 e2 e3 e4 e5 e6=> ?_,⟨by have:=hR.S.shape.1;simpa using this,fun l fr hl=> ?_⟩,hlive,hR.S.vH.near hn⟩,fun t=> ?_⟩,⟨ax _,rfl,rfl,fun x hx hno=>⟨rfl,?_⟩,hn,fun x hx=> ?_⟩⟩
 ·rcases Xp k o ho with⟨rfl,rfl⟩|⟨hk,o0,h0,hcase,hl0,how⟩
  ·exact⟨_,by rw[bM];exact hbj,trivial⟩
  ·obtain⟨hv,hhv,hr⟩:=hR.S.obj k o0 h0;refine⟨hv,hhv,?_⟩;have hbk:∀x,owns o0 hv x->w.heap[x]? =w.heap[x]? /\σ' x=σ x:=fun x e=>⟨rfl,hother k o0 hv x hk h0 hhv e⟩;obtain⟨l,i⟩:=k
   cases l with
   |succ l=>
    rw[hl0 gL];exact iI.mono hn (Keep.refl _ _) hbk hr
   |zero=>
    cases o0 with
    |box cs=>
     obtain⟨b',cc',t',e',hb',hs',hc'⟩:=hr;subst e'
     have he:o=.box (cs.map f):=by
      rw[bM,BA] at ho;rw[bM] at h0;split at ho
      ·rename_i e;exact absurd (by rw[e]) hk
      ·rw[h0] at ho;cases ho;rfl
     rw[he];exact⟨b',cc',t',rfl,hb',(hbk b' rfl).2.trans hs',hCs _ _ hc'⟩
    |dead=>rcases hcase with rfl|rfl<;>trivial
    |tok z es'=>
     have:o=.tok z es':=by rcases hcase with rfl|rfl<;>rfl
     rw[this];exact iI.mono (S:=[]) (β:=[]) (o:=(.tok z es')) hn (Keep.refl [] []) hbk hr
    |fM z es'=>
     have:o=.fM z es':=by rcases hcase with rfl|rfl<;>rfl
     rw[this];exact iI.mono (S:=[]) (β:=[]) (o:=(.fM z es')) hn (Keep.refl [] []) hbk hr
    |mp m=>
     have:o=.mp m:=by rcases hcase with rfl|rfl<;>rfl
     rw[this];exact iI.mono (S:=[]) (β:=[]) (o:=(.mp m)) hn (Keep.refl [] []) hbk hr
    |eP n z es'=>
     have:o=.eP n z es':=by rcases hcase with rfl|rfl<;>rfl
     rw[this];exact iI.mono (S:=[]) (β:=[]) (o:=(.eP n z es')) hn (Keep.refl [] []) hbk hr
    |seed n=>rcases hcase with rfl|rfl<;>trivial
    |xf rs=>
     have:o=.xf rs:=by rcases hcase with rfl|rfl<;>rfl
     rw[this];exact iI.mono (S:=[]) (β:=[]) (o:=(.xf rs)) hn (Keep.refl [] []) hbk hr
 ·rcases Xp k o e1 with⟨rfl,rfl⟩|⟨hk,o0,f1,_,_,f2⟩
  ·cases e3
  ·rcases Xp k' o' e4 with⟨rfl,rfl⟩|⟨hk',o0',g1,_,_,g2⟩
   ·cases e6
   ·exact hR.S.apart k k' o0 o0' h1 h2 b' f1 e2 ((f2 _ _).1 e3) g1 e5 ((g2 _ _).1 e6)
 ·cases l with
  |zero=>
   simp at hl;subst hl;exact⟨_,rfl,by simp[hlen]⟩
  |succ l=>exact hR.S.shape.2 (l+1) fr hl
 ·show dR w σ' ((own.map (Obj.ny f)).set j .dead::Ω) (bo::bΩ) (look (tm.map fun x=>(x.1,x.2.ny f)) t) _;rw[Ku (f:=V.ny f) rfl];have ht:=hR.T t
  cases hx:look tm t with
  |c x=>rw[hx] at ht;exact⟨hC x _ ht.1,ht.2⟩
  |agg cs=>rw[hx] at ht;obtain⟨ar,e,hc⟩:=ht;exact⟨ar,e,hCs _ _ hc⟩
  |eu xs=>
   rw[hx] at ht;obtain⟨ar,e,hl,h2⟩:=ht;refine⟨ar,e,by simpa using hl,fun i y hy=> ?_⟩;rw[bE] at hy
   cases hxi:xs[i]? with
   |none=>rw[hxi] at hy;cases hy
   |some z=>
    rw[hxi] at hy;cases hy;obtain⟨u,hu,h3⟩:=h2 i z hxi;refine⟨u,hu,?_⟩;obtain⟨bb,cs⟩:=z
    cases bb with
    |true=>obtain⟨a',e',hcs⟩:=h3;exact⟨a',e',hCs _ _ hcs⟩
    |false=>
     obtain⟨x,e',hxr,ho⟩:=h3;subst e';exact⟨_,rfl,hC x _ hxr,ho⟩
  |any=>trivial
 ·exact hch x fun e=>hno ⟨(0,j),_,_,by rw[bM];exact hoj,by rw[bM];exact hbj,e⟩
 ·left;obtain⟨k,o,h1,e1,e2,e3⟩:=hx;rcases Xp k o e1 with⟨rfl,rfl⟩|⟨hk,o0,f1,_,_,f2⟩
  ·cases e3
  ·exact⟨k,o0,h1,f1,e2,(f2 _ _).1 e3⟩
theorem aki{j:Nat}{es:List (List D)}:Obj.qj j es=Obj.ny (C.qj j es):=by funext o;cases o<;>rfl
theorem akj{j:Nat}{es:List (List D)}:V.qj j es=V.ny (C.qj j es):=by funext v;cases v<;>rfl
theorem aoh{tm:List (Nat×V)}{own:List Obj}{Ω:Store}(j:Nat)(bB:Nat)(es:List (List D))(hj:own[j]? =some (.fM bB es))(hR:lU N ⟨tm,own::Ω⟩ a w σ β):
 ∃σ' β',lU N ⟨tm.map fun x=>(x.1,x.2.qj j es),(own.map (Obj.qj j es)).set j .dead::Ω⟩ a w σ' β'/\Step (own::Ω) β σ w ((own.map (Obj.qj j es)).set j .dead::Ω) β' σ' w/\
  Keep (iD (own::Ω)) (iD β) (iD ((own.map (Obj.qj j es)).set j .dead::Ω)) (iD β'):=by
 obtain⟨bo,bΩ,rfl,hlen⟩:=frames hR;obtain⟨hh,hb,hr⟩:=hR.S.obj (0,j) _ (by rw[bM];exact hj);rw[bM] at hb
 obtain⟨σ',hn,hch,hlive,hdata⟩:∃σ',eH w σ w σ'/\(∀x,¬owns (.fM bB es) hh x->σ' x=σ x)/\(∀x,x<w.heap.size\/σ' x=0)/\dO w σ' (.sl es) hh:=by
  obtain⟨hle,ad,cap,rfl,hcap,h4⟩:=hr;by_cases h0:cap=0
  ·obtain rfl:es=[]:=bz gA;exact⟨σ,eH.refl _ _,fun _ _=>rfl,hR.S.live,.nil _ _⟩
  rcases h4 with h4|⟨b,cc,ty,rfl,hbc,hσ,hcz,hcells⟩
  ·exact absurd h4 h0
  have hsz:es.length*bB<=cc.size:=co (cx _ hcap) hcz
  let σ':Nat->Nat:=fun x=>if x=b then es.length*bB else σ x
  have hn:eH w σ w σ':=by
   intro b1 c1 t1 DJ e1;by_cases e:b1=b
   ·subst e;rw[hbc] at e1;cases e1;exact⟨by simp only[σ',if_true];omega,fun h=>gA,cc,hbc,rfl,fun _ _=>rfl⟩
   ·exact⟨by simp only[σ',if_neg e];exact ax _,fun _=>if_neg e,c1,e1,rfl,fun _ _=>rfl⟩
  refine⟨σ',hn,fun x hx=>if_neg fun e=>hx (by subst e;simp[owns,blk,h0]),fun x=> ?_,?_⟩
  ·by_cases e:x=b
   ·left;subst e;exact lt_of_some hbc
   ·simp only[σ',if_neg e];exact hR.S.live x
  ·have hfl:=iT es bB hle;refine .sl b 0 cap bB es (fun i=>(cc[i]?).getD undef) cc ty (0,0) hcap hle hbc (by simp[σ']) (fun i hi=> ?_) (fun i d hd=> ?_)
   ·obtain⟨v,hv,_⟩:=hcells i _ (am gA);simp[hv]
   ·obtain⟨v,hv,hr⟩:=hcells i d hd;simp only[hv,dq];exact hr.mono hn
 rw[aki,akj]
 have:=Yv (f:=C.qj j es) j hj hb hR hlen hn hch hlive (fun c v hc=>by
  by_cases hm:c=.jO (0,j)
  ·subst hm;obtain⟨o,ho,h2⟩:=hc;rw[bM,hj] at ho;cases ho;have hv:=h2 _ _ rfl;rw[bM,hb] at hv;cases hv;simp only[C.qj,if_true];exact hdata
  ·have hfr:C.qj j es c=c:=by
    cases c with
    |jO k=>
     obtain⟨l,i⟩:=k
     cases l with
     |zero=>simp only[C.qj];rw[if_neg (fun e=>hm (by rw[e]))]
     |succ l=>rfl
    |_=>rfl
   rw[hfr]
   exact Rh hj hn hc)
 exact⟨σ',_,this.1,this.2,Keep.refl _ _⟩
def C.lab(row:Bool)(j n:Nat)(es:List (List D)):C->C
 | .jO (0,i)=>if i=j/\row=true then .d (.ol n es) else .jO (0,i)
 | .bJ (0,i) es'=>if i=j/\row=false/\es'.length=es.length then .d (.ol n es) else .bJ (0,i) es'
 |c=>c
def Ri(row:Bool)(n bB:Nat)(es:List (List D)):Obj:=match row with|true=>.fM bB es|false=>.eP n bB es
theorem acI{tm:List (Nat×V)}{own:List Obj}{Ω:Store}(j n:Nat)(bB:Nat)(es:List (List D))(row:Bool)(hj:own[j]? =some (Ri row n bB es))(hR:lU N ⟨tm,own::Ω⟩ a w σ β):
 ∃σ' β',lU N ⟨tm.map fun x=>(x.1,x.2.ny (C.lab row j n es)),(own.map (Obj.ny (C.lab row j n es))).set j .dead::Ω⟩ a w σ' β'/\Step (own::Ω) β σ w ((own.map (Obj.ny (C.lab row j n es))).set j .dead::Ω) β' σ' w/\
  Keep (iD (own::Ω)) (iD β) (iD ((own.map (Obj.ny (C.lab row j n es))).set j .dead::Ω)) (iD β'):=by
 obtain⟨bo,bΩ,rfl,hlen⟩:=frames hR
 have key:∃hh σ',bo[j]? =some hh/\eH w σ w σ'/\(∀x,¬owns (Ri row n bB es) hh x->σ' x=σ x)/\(∀x,x<w.heap.size\/σ' x=0)/\dO w σ' (.ol n es) hh:=by
  have agT:∀(b off cap:Nat)(c:Array Value)(t:TypeId),w.heap[b]? =some (.cells c t (0,0))->σ b<=c.size->(∀e∈es,e.length=bB)->off+es.length*bB<=c.size->es.length<=cap->off=0/\cap*bB<=c.size->
   (∀(i:Nat)(d:D),es.flatten[i]? =some d->∃v,c[off+i]? =some v/\dO w σ d v)->
   eH w σ w (fun x=>if x=b then c.size+1+n else σ x)/\(∀x,x<w.heap.size\/(fun x=>if x=b then c.size+1+n else σ x) x=0)/\dO w (fun x=>if x=b then c.size+1+n else σ x) (.ol n es) (.slice (some ⟨b,off,none⟩) es.length cap):=by
   intro b off cap c t hb hσ hle hsz hcap hx hcells
   have hn:eH w σ w (fun x=>if x=b then c.size+1+n else σ x):=by
    intro b1 c1 t1 DJ e1;by_cases e:b1=b
    ·subst e;rw[hb] at e1;cases e1;exact⟨by simp only[if_true];omega,fun h=>gA,c,hb,rfl,fun _ _=>rfl⟩
    ·exact⟨by simp only[if_neg e];exact ax _,fun _=>if_neg e,c1,e1,rfl,fun _ _=>rfl⟩
   refine⟨hn,fun x=> ?_,?_⟩
   ·by_cases e:x=b
    ·left;subst e;exact lt_of_some hb
    ·simp only[if_neg e];exact hR.S.live x
   ·have hfl:=iT es bB hle;refine .ol n b off cap bB es (fun i=>(c[off+i]?).getD undef) c t hcap hle hb gL hsz (fun i hi=> ?_) (fun i d hd=> ?_) hx
    ·obtain⟨v,hv,_⟩:=hcells i _ (am gA);simp[hv]
    ·obtain⟨v,hv,hr⟩:=hcells i d hd;simp only[hv,dq];exact hr.mono hn
  cases row with
  |true=>
   obtain⟨hh,hb,hr⟩:=hR.S.obj (0,j) _ (by rw[bM];exact hj);obtain⟨hle,ad,cap,rfl,hcap,h4⟩:=hr;rw[bM] at hb;by_cases h0:cap=0
   ·obtain rfl:es=[]:=bz gA;exact⟨_,σ,hb,eH.refl _ _,fun _ _=>rfl,hR.S.live,.xO _ _ _⟩
   rcases h4 with h4|⟨b,cc,ty,rfl,hbc,hσ,hcz,hcells⟩
   ·exact absurd h4 h0
   have hsz:es.length*bB<=cc.size:=co (cx _ hcap) hcz;obtain⟨k1,k2,k3⟩:=agT b 0 cap cc ty hbc gA hle gA hcap ⟨rfl,hcz⟩ (fun i d hd=>by rw[cG];exact hcells i d hd);exact⟨_,_,hb,k1,fun x hx=>if_neg fun e=>hx (by subst e;simp[Ri,owns,blk,h0]),k2,k3⟩
  |false=>
   obtain⟨hh,hb,hr⟩:=hR.S.obj (0,j) _ (by rw[bM];exact hj);obtain⟨h1,hle,ad,cap,rfl,hcap,hcase⟩:=hr;rw[bM] at hb;rcases hcase with⟨h4,h5⟩|⟨h4,b,off,c,t,rfl,hbc,hσ,hfit⟩
   ·exact⟨_,σ,hb,eH.refl _ _,fun _ _=>rfl,hR.S.live,h5⟩
   ·have hm:es.length*bB<=cap*bB:=cx _ hcap
    obtain⟨k1,k2,k3⟩:=agT b off cap c t hbc gA hle gA hcap ⟨gA,gA⟩ (fun i d hd=>by
     cases h1 with
     |nil=>simp at hd
     |sl b' off' cap' xP es vals c' t' fz' q1 q2 q3 q4 q5 q6=>
      rw[hbc] at q3;cases q3;have hil:=(ap.1 hd).1;rw[iT es bB hle] at hil
      have he:xP=bB:=by
       cases es with
       |nil=>simp at hil
       |cons y ys=>rw[<-q2 y gL,hle y gL]
      subst he
      exact⟨_,q5 i hil,q6 i d hd⟩)
    exact⟨_,_,hb,k1,fun x hx=>if_neg fun e=>hx (by subst e;simp[Ri,owns,blk,h4]),k2,k3⟩
 obtain⟨hh,σ',hb,hn,hch,hlive,hdata⟩:=key
 have:=Yv (f:=C.lab row j n es) j hj hb hR hlen hn hch hlive (fun c v hc=>by
  by_cases hm:c=.jO (0,j)/\row=true
  ·obtain⟨rfl,rfl⟩:=hm;simp only[C.lab,and_self,if_true];obtain⟨o,ho,h2⟩:=hc;rw[bM,hj] at ho;cases ho;have hv:=h2 _ _ rfl;rw[bM,hb] at hv;cases hv;exact hdata
  ·by_cases ht:∃es',c=.bJ (0,j) es'/\row=false/\es'.length=es.length
   ·obtain⟨es',rfl,rfl,hl⟩:=ht;simp only[C.lab,hl,and_self,if_true];obtain⟨h1,o,ho,h2⟩:=hc;rw[bM,hj] at ho;cases ho;have hv:=(h2 _ _ (.inr ⟨n,rfl⟩)).2 hl;rw[bM,hb] at hv;cases hv;exact hdata
   ·have hfr:C.lab row j n es c=c:=by
     cases c with
     |jO k=>
      obtain⟨l,i⟩:=k
      cases l with
      |zero=>simp only[C.lab];rw[if_neg (fun e=>hm ⟨by rw[e.1],e.2⟩)]
      |succ l=>rfl
     |bJ k es'=>
      obtain⟨l,i⟩:=k
      cases l with
      |zero=>simp only[C.lab];rw[if_neg (fun e=>ht ⟨es',by rw[e.1],e.2⟩)]
      |succ l=>rfl
     |_=>rfl
    rw[hfr]
    exact Rh hj hn hc)
 exact⟨σ',_,this.1,this.2,Keep.refl _ _⟩
def Rj(j:Nat)(s:St):St:=
 match s.st with
 |own::Ω=>match own[j]? with
  |some (.fM _ es)=>⟨s.tm.map fun x=>(x.1,x.2.qj j es),(own.map (Obj.qj j es)).set j .dead::Ω⟩
  |_=>s
 |[]=>s
def Rk:Nat->St->St
 |0,s=>s
 |n+1,s=>Rk n (Rj n s)
def JB(s:St):St:=
 match s.st with
 |own::_=>Rk own.length s
 |[]=>s
theorem aaY(j:Nat)(s:St):iK N s (Rj j s):=by
 obtain⟨tm,st⟩:=s
 cases st with
 |nil=>exact iK.refl _ _
 |cons own Ω=>
  unfold Rj
  simp only
  split
  ·rename_i z es hj;exact fun a w σ β hR=>aoh j z es hj hR
  ·exact iK.refl _ _
theorem OX:∀(n:Nat)(s:St),iK N s (Rk n s)
 |0,s=>iK.refl _ _
 |n+1,s=>(aaY n s).trans (OX n _)
theorem yx(s:St):iK N s (JB s):=by
 unfold JB;split
 ·exact OX _ _
 ·exact iK.refl _ _
theorem yA{c:Code}{Q:Exit->St->Prop}{g:St->St}(hg:∀s,iK N s (g s))(h:AW P N c (fun e s'=>Q e (g s')) s):AW P N c Q s:=by
 intro a w σ β hR;refine wp_mono (h a w σ β hR) ?_;rintro e a' w' ⟨s',σ',β',k1,k2,k3,k4⟩;obtain⟨σ2,β2,r2,st2,kk2⟩:=hg s' a' w' σ' β' k1;exact⟨_,σ2,β2,r2,k2.trans st2,k3.trans kk2,k4⟩
end
section
variable {P:Program} {E:Md} {S S':Store} {N:Nat} {s:St}
def lookO(tm:List (Nat×V))(t:Option Nat):Option V:=t.map (look tm)
theorem Yw{tm:List (Nat×V)}{t:Option Nat}:lookO tm t=t.map (look tm):=rfl
theorem ad9{tm:List (Nat×V)}{t:Nat}:lookO tm (some t)=some (look tm t):=rfl
theorem aea{tm:List (Nat×V)}:lookO tm none=none:=rfl
def JC(tm:List (Nat×V))(l:List Operand):List V:=l.map (ev tm)
theorem aoi{tm:List (Nat×V)}:JC tm []=[]:=rfl
theorem akk{tm:List (Nat×V)}{x:Operand}{l:List Operand}:JC tm (x::l)=ev tm x::JC tm l:=rfl
def Vi(tm:List (Nat×V))(x:Option Operand):Option V:=x.map (ev tm)
theorem akl{tm:List (Nat×V)}{x:Operand}:Vi tm (some x)=some (ev tm x):=rfl
theorem akm{tm:List (Nat×V)}:Vi tm none=none:=rfl
def Vj(tm:List (Nat×V))(l:List (Nat×Operand)):List (Nat×V):=l.map fun x=>(x.1,ev tm x.2)
theorem aoj{tm:List (Nat×V)}:Vj tm []=[]:=rfl
theorem akn{tm:List (Nat×V)}{i:Nat}{x:Operand}{l:List (Nat×Operand)}:Vj tm ((i,x)::l)=(i,ev tm x)::Vj tm l:=rfl
def Split(x:Bool)(A B:St->Prop)(s:St):Prop:=(x=true->A s)/\(x=false->B s)
theorem qJ{x:Bool}{A B:St->Prop}(h1:x=true->A s)(h2:x=false->B s):Split x A B s:=⟨h1,h2⟩
theorem aeb{A B:St->Prop}:Split true A B s=A s:=by simp[Split]
theorem aaZ{A B:St->Prop}:Split false A B s=B s:=by simp[Split]
def Yx(dst:Option Nat)(v:V)(K:St->Prop)(s:St):Prop:=K (s.put dst v)
theorem aok{dst:Option Nat}{v:V}{K:St->Prop}:Yx dst v K s=K (s.put dst v):=rfl
def aec(P:Program)(o:Oper)(K:St->Prop)(s:St):Prop:=jv P o s K
def Yy(P:Program)(E:Md)(o:Oper)(K:St->Prop)(s:St):Prop:=gU P E o s K
theorem ako{o:Oper}{K:St->Prop}:aec P o K s=jv P o s K:=rfl
theorem agU{o:Oper}{K:St->Prop}:Yy P E o K s=gU P E o s K:=rfl
def Gn(dst:Option Nat)(want:Bool)(A K:St->Prop)(s:St):Option V->Prop
 |some (.c (.d (.b x)))=>match want with
  |true=>Split x A (Yx dst (.eu []) K) s
  |false=>Split x (Yx dst (.eu []) K) A s
 |some (.eu [])=>K (s.put dst (.eu []))
 |_=>False
theorem aa0{R:Array Oper}{dst op ty pos after}{K:St->Prop}:yu P R ⟨dst,op,ty,pos,after,none⟩ s K=jv P ⟨dst,op,ty,pos,after,none⟩ s K:=rfl
theorem aa1{R:Array Oper}{dst op ty pos after j want}{K:St->Prop}:yu P R ⟨dst,op,ty,pos,after,some (j,want)⟩ s K=
 Gn dst want (aec P ⟨dst,op,ty,pos,after,some (j,want)⟩ K) K s (lookO s.tm (iw R j)):=by
 show yu P R _ s K=_;simp only[yu,<-Yw];generalize lookO s.tm (iw R j)=v
 cases v with
 |none=>rfl
 |some v=>
  cases v with
  |c x=>cases x with
   |d x=>cases x with
    |b x=>cases want<;>simp[Gn,Split,Yx,aec,and_comm]
    |_=>rfl
   |_=>rfl
  |eu l=>cases l<;>rfl
  |_=>rfl
theorem Yz{R:Array Oper}{dst op ty pos after}{K:St->Prop}:tC P E R ⟨dst,op,ty,pos,after,none⟩ s K=gU P E ⟨dst,op,ty,pos,after,none⟩ s K:=rfl
theorem YA{R:Array Oper}{dst op ty pos after j want}{K:St->Prop}:tC P E R ⟨dst,op,ty,pos,after,some (j,want)⟩ s K=
 Gn dst want (Yy P E ⟨dst,op,ty,pos,after,some (j,want)⟩ K) K s (lookO s.tm (iw R j)):=by
 simp only[tC,<-Yw];generalize lookO s.tm (iw R j)=v
 cases v with
 |none=>rfl
 |some v=>
  cases v with
  |c x=>cases x with
   |d x=>cases x with
    |b x=>cases want<;>simp[Gn,Split,Yx,Yy,and_comm]
    |_=>rfl
   |_=>rfl
  |eu l=>cases l<;>rfl
  |_=>rfl
@[congr] theorem asH {R:Array Oper} {os:List Oper} {s s':St} {K:St->Prop} (h2:s=s'):Gh P R os s K=Gh P R os s' K:=by rw[h2]
@[congr] theorem asI {R:Array Oper} {os:List Oper} {s s':St} {K:St->Prop} (h2:s=s'):xR P E R os s K=xR P E R os s' K:=by rw[h2]
@[congr] theorem aqx {R:Array Oper} {o:Oper} {s s':St} {K:St->Prop} (h2:s=s'):yu P R o s K=yu P R o s' K:=by rw[h2]
@[congr] theorem ap5 {R:Array Oper} {o:Oper} {s s':St} {K:St->Prop} (h2:s=s'):tC P E R o s K=tC P E R o s' K:=by rw[h2]
@[congr] theorem aqy {dst:Option Nat} {want:Bool} {A K:St->Prop} {s s':St} {v v':Option V} (h2:s=s') (h3:v=v'):Gn dst want A K s v=Gn dst want A K s' v':=by rw[h2,h3]
@[congr] theorem asa {x x':Bool} {A B:St->Prop} {s s':St} (h:x=x') (h2:s=s'):Split x A B s=Split x' A B s':=by rw[h,h2]
@[congr] theorem asb {o:Oper} {s s':St} {K:St->Prop} (h2:s=s'):dP P o s K=dP P o s' K:=by rw[h2]
@[congr] theorem asc {o:Oper} {s s':St} {K:St->Prop} (h2:s=s'):jv P o s K=jv P o s' K:=by rw[h2]
@[congr] theorem asJ {t:TypeId} {s s':St} {dst:Option Nat} {K:St->Prop} {b b':Bool} {r r':R} (h1:s=s') (h2:b=b') (h3:r=r'):LZ P t s dst K b r=LZ P t s' dst K b' r':=by rw[h1,h2,h3]
@[congr] theorem ap6 {t u:TypeId} {a a' x x':V} {s s':St} {dst:Option Nat} {K:St->Prop} (h1:a=a') (h3:x=x') (h2:s=s'):FR P t u a x s dst K=FR P t u a' x' s' dst K:=by rw[h1,h2,h3]
@[congr] theorem aqz {t u:TypeId} {k:Key} {x x':V} {s s':St} {dst:Option Nat} {K:St->Prop} (h3:x=x') (h2:s=s'):Jy P t u k x s dst K=Jy P t u k x' s' dst K:=by rw[h2,h3]
@[congr] theorem aqA {o:Oper} {s s':St} {K:St->Prop} (h2:s=s'):gU P E o s K=gU P E o s' K:=by rw[h2]
@[congr] theorem asK {l l':Option Nat} {es es' x:List (List D)} {z:Nat} {s s':St} {dst:Option Nat} {K:St->Prop} (h1:l=l') (h2:es=es') (h3:s=s'):Gg l es s dst z x K=Gg l' es' s' dst z x K:=by rw[h1,h2,h3]
@[congr] theorem asL {b b':Bool} {es es' x:List (List D)} {z:Nat} {s s':St} {dst:Option Nat} {K:St->Prop} (h1:b=b') (h2:es=es') (h3:s=s'):Et b es s dst z x K=Et b' es' s' dst z x K:=by rw[h1,h2,h3]
@[congr] theorem asM {b b':Bool} {n:Nat} {x:List (List D)} {z:Nat} {s s':St} {dst:Option Nat} {K:St->Prop} (h1:b=b') (h3:s=s'):I4 b n s dst z x K=I4 b' n s' dst z x K:=by rw[h1,h3]
@[congr] theorem aqB {s s':St} {dst:Option Nat} {o o':Obj} {mk:Key->V} {K:St->Prop} (h1:s=s') (h2:o=o'):newObj s dst o mk K=newObj s' dst o' mk K:=by rw[h1,h2]
@[congr] theorem aqC {t:TypeId} {s s':St} {dst:Option Nat} {K:St->Prop} (h1:s=s'):yj P t s dst K=yj P t s' dst K:=by rw[h1]
@[congr] theorem asN {v v':V} {s s':St} {dst:Option Nat} {K:St->Prop} (h1:v=v') (h2:s=s'):Gf v s dst K=Gf v' s' dst K:=by rw[h1,h2]
@[congr] theorem aqD {t:TypeId} {a a' x x':V} {s s':St} {dst:Option Nat} {K:St->Prop} (h1:a=a') (h3:x=x') (h2:s=s'):yt P t a x s dst K=yt P t a' x' s' dst K:=by rw[h1,h2,h3]
@[congr] theorem ase {t:TypeId} {a a' x x':V} {s s':St} {dst:Option Nat} {K:St->Prop} (h1:a=a') (h3:x=x') (h2:s=s'):Bo P t a x s dst K=Bo P t a' x' s' dst K:=by rw[h1,h2,h3]
@[congr] theorem ap7 {t u:TypeId} {a a' x x':V} {s s':St} {dst:Option Nat} {K:St->Prop} (h1:a=a') (h3:x=x') (h2:s=s'):vK P t u a x s dst K=vK P t u a' x' s' dst K:=by rw[h1,h2,h3]
@[congr] theorem ap8 {s s':St} {dst:Option Nat} {K:St->Prop} (h2:s=s'):xD s dst K=xD s' dst K:=by rw[h2]
@[congr] theorem ap9 {t:TypeId} {a a' x x' y y':V} {s s':St} {dst:Option Nat} {K:St->Prop} (h1:a=a') (h3:x=x') (h4:y=y') (h2:s=s'):xE P t a x y s dst K=xE P t a' x' y' s' dst K:=by rw[h1,h2,h3,h4]
@[congr] theorem asf {f:FuncId} {args args':List V} {s s':St} {dst:Option Nat} {K:St->Prop} (h1:args=args') (h2:s=s'):Dg P f args s dst K=Dg P f args' s' dst K:=by rw[h1,h2]
@[congr] theorem asg {c:Call} {s s':St} {dst:Option Nat} {K:St->Prop} (h2:s=s'):qz P c s dst K=qz P c s' dst K:=by rw[h2]
@[congr] theorem ash {K:St->Prop} {Q:Exit->St->Prop} {e:Exit} {s s':St} (h2:s=s'):mG K Q e s=mG K Q e s':=by rw[h2]
def iL(s:St)(dst:Option Nat)(K:St->Prop)(r:R):Prop:=r.1/\K (s.put dst r.2)
@[congr] theorem asi {s s':St} {dst:Option Nat} {K:St->Prop} {r r':R} (h1:s=s') (h2:r=r'):iL s dst K r=iL s' dst K r':=by rw[h1,h2]
theorem akp{dst:Option Nat}{K:St->Prop}{p:Prop}{v:V}:iL s dst K (p,v)=(p/\K (s.put dst v)):=rfl
def Gp(caps:List (Key×Nat)):List V:=caps.map fun y=>.c (.ptr y.1 y.2)
def Xq(P:Program)(fv:V)(args:List V)(s:St)(dst:Option Nat)(K:St->Prop):Prop:=
 match fv with
 | .c (.fn f caps)=>Dg P f (args++Gp caps) s dst K
 |_=>False
def Kv(P:Program)(m:Nat)(f:FuncId)(args:List V)(s:St)(dst:Option Nat)(K:St->Prop):Prop:=
 match m with
 |0=>∃r,aD P f args r/\K (s.put dst r)
 |1=>∃S' v,DS s.st S'/\Dg P f args s dst (fun t=>t=St.put ⟨s.tm,S'⟩ dst v)/\K (St.put ⟨s.tm,S'⟩ dst v)
 |_=>∃S' v,Dg P f args s dst (fun t=>t=St.put ⟨s.tm,S'⟩ dst v)/\K (St.put ⟨s.tm,S'⟩ dst v)
def Dj(P:Program)(m:Nat)(fv:V)(args:List V)(s:St)(dst:Option Nat)(K:St->Prop):Prop:=
 match fv with
 | .c (.fn f caps)=>Kv P m f (args++Gp caps) s dst K
 |_=>False
@[congr] theorem asj {fv fv':V} {args args':List V} {s s':St} {dst:Option Nat} {K:St->Prop} (h1:fv=fv') (h3:args=args') (h2:s=s'):Xq P fv args s dst K=Xq P fv' args' s' dst K:=by rw[h1,h2,h3]
@[congr] theorem asl {m:Nat} {fv fv':V} {args args':List V} {s s':St} {dst:Option Nat} {K:St->Prop} (h1:fv=fv') (h3:args=args') (h2:s=s'):Dj P m fv args s dst K=Dj P m fv' args' s' dst K:=by rw[h1,h2,h3]
@[congr] theorem asn {m:Nat} {f:FuncId} {args args':List V} {s s':St} {dst:Option Nat} {K:St->Prop} (h1:args=args') (h2:s=s'):Kv P m f args s dst K=Kv P m f args' s' dst K:=by rw[h1,h2]
theorem aa2{x:Operand}{args:Array Operand}{ts:Array TypeId}{dst:Option Nat}{K:St->Prop}:qz P ⟨.value x,args,ts⟩ s dst K=Xq P (ev s.tm x) (JC s.tm args.toList) s dst K:=rfl
theorem YB{x y:Operand}{t u:TypeId}{dst:Option Nat}{K:St->Prop}:qz P ⟨.builtin .append,#[x,y],#[t,u]⟩ s dst K=vK P t u (ev s.tm x) (ev s.tm y) s dst K:=rfl
theorem agW{x:Operand}{t:TypeId}{dst:Option Nat}{K:St->Prop}:qz P ⟨.builtin .len,#[x],#[t]⟩ s dst K=iL s dst K (Ke P s.st t (ev s.tm x)):=rfl
theorem agX{x y:Operand}{ts:Array TypeId}{dst:Option Nat}{K:St->Prop}:qz P ⟨.builtin .max,#[x,y],ts⟩ s dst K=iL s dst K (zW true (ev s.tm x) (ev s.tm y)):=rfl
theorem agY{x y:Operand}{ts:Array TypeId}{dst:Option Nat}{K:St->Prop}:qz P ⟨.builtin .min,#[x,y],ts⟩ s dst K=iL s dst K (zW false (ev s.tm x) (ev s.tm y)):=rfl
theorem akq{x:Operand}{t:TypeId}{tm:List (Nat×V)}:nval P S tm (.call ⟨.builtin .len,#[x],#[t]⟩)=Ke P S t (ev tm x):=rfl
def fH(P:Program)(mode:Option Nat)(f:FuncId)(args:List V)(s:St)(dst:Option Nat)(K:St->Prop):Prop:=
 match mode with
 |some m=>Kv P m f args s dst K
 |none=>Dg P f args s dst K
@[congr] theorem aso {dr:Option Nat} {f:FuncId} {args args':List V} {s s':St} {dst:Option Nat} {K:St->Prop} (h1:args=args') (h2:s=s'):fH P dr f args s dst K=fH P dr f args' s' dst K:=by rw[h1,h2]
theorem akr{f:Nat}{caps:List (Key×Nat)}{args:List V}{dst:Option Nat}{K:St->Prop}:Xq P (.c (.fn f caps)) args s dst K=fH P none f (args++Gp caps) s dst K:=rfl
theorem aks{m:Nat}{f:Nat}{caps:List (Key×Nat)}{args:List V}{dst:Option Nat}{K:St->Prop}:Dj P m (.c (.fn f caps)) args s dst K=fH P (some m) f (args++Gp caps) s dst K:=rfl
theorem bn{dr:Option Nat}{f:FuncId}{args:List V}{dst:Option Nat}{K:St->Prop}{r:V}(h:aD P f (args.map V.vw) r)(hK:K (s.put dst r)):fH P dr f args s dst K:=by
 cases dr with
 |none=>exact Kr h hK
 |some m=>
  match m with
  |0=>exact⟨r,fun S=>(h S).vw,hK⟩
  |1=>exact⟨s.st,r,DS.refl _,Kr h rfl,hK⟩
  |m+2=>exact⟨s.st,r,Kr h rfl,hK⟩
def anv:Option Nat->Bool
 |none=>true
 |some m=>decide (2<=m)
def asO:Option Nat->Bool
 |none=>true
 |some m=>decide (1<=m)
theorem bD{dr:Option Nat}{f:FuncId}{args:List V}{dst:Option Nat}{K:St->Prop}{r:V}{S1:Store}(hm:anv dr=true)(h:bS P f args s.st (fun r' S'=>r'=r/\S'=S1))(hK:K (St.put ⟨s.tm,S1⟩ dst r)):fH P dr f args s dst K:=by
 cases dr with
 |none=>exact .inl ⟨_,h,fun r' S' e=>by rw[e.1,e.2];exact hK⟩
 |some m=>
  match m,hm with
  |0,hm=>cases hm
  |1,hm=>cases hm
  |m+2,_=>exact⟨S1,r,.inl ⟨_,h,fun r' S' e=>by rw[e.1,e.2]⟩,hK⟩
theorem aqE{dr:Option Nat}{f:FuncId}{args:List V}{dst:Option Nat}{K:St->Prop}{r:V}{S1:Store}(hm:asO dr=true)(hd:DS s.st S1)(h:bS P f args s.st (fun r' S'=>r'=r/\S'=S1))(hK:K (St.put ⟨s.tm,S1⟩ dst r)):fH P dr f args s dst K:=by
 cases dr with
 |none=>exact .inl ⟨_,h,fun r' S' e=>by rw[e.1,e.2];exact hK⟩
 |some m=>
  match m,hm with
  |0,hm=>cases hm
  |1,_=>exact⟨S1,r,hd,.inl ⟨_,h,fun r' S' e=>by rw[e.1,e.2]⟩,hK⟩
  |m+2,_=>exact⟨S1,r,.inl ⟨_,h,fun r' S' e=>by rw[e.1,e.2]⟩,hK⟩
theorem aqF{f:FuncId}{args:List V}{dst:Option Nat}{K:St->Prop}{r:V}(h:adS P f args r)(hK:K (St.put s dst r)):fH P none f args s dst K:=.inr ⟨r,h,hK⟩
def N9(P:Program)(R:Array Oper)(os:List Oper)(K:St->Prop)(s:St):Prop:=Gh P R os s K
def Oa(P:Program)(E:Md)(R:Array Oper)(os:List Oper)(K:St->Prop)(s:St):Prop:=xR P E R os s K
@[congr] theorem asq {R:Array Oper} {os:List Oper} {s s':St} {K:St->Prop} (h2:s=s'):N9 P R os K s=N9 P R os K s':=by rw[h2]
@[congr] theorem asr {R:Array Oper} {os:List Oper} {s s':St} {K:St->Prop} (h2:s=s'):Oa P E R os K s=Oa P E R os K s':=by rw[h2]
section
variable {tm:List (Nat×V)} {R:Array Oper} {o:Oper} {os:List Oper} {K:St->Prop}
theorem akt:Gh P R [] ⟨tm,S⟩ K=K ⟨tm,S⟩:=rfl
theorem agZ:Gh P R (o::os) ⟨tm,S⟩ K=yu P R o ⟨tm,S⟩ (N9 P R os K):=rfl
theorem ag0:N9 P R [] K ⟨tm,S⟩=K ⟨tm,S⟩:=rfl
theorem aed:N9 P R (o::os) K ⟨tm,S⟩=yu P R o ⟨tm,S⟩ (N9 P R os K):=rfl
theorem aku:xR P E R [] ⟨tm,S⟩ K=K ⟨tm,S⟩:=rfl
theorem ag1:xR P E R (o::os) ⟨tm,S⟩ K=tC P E R o ⟨tm,S⟩ (Oa P E R os K):=rfl
theorem ag2:Oa P E R [] K ⟨tm,S⟩=K ⟨tm,S⟩:=rfl
theorem aee:Oa P E R (o::os) K ⟨tm,S⟩=tC P E R o ⟨tm,S⟩ (Oa P E R os K):=rfl
end
section
variable {dst:Option Nat} {ty:TypeId} {pos:String} {after:Array Edge} {g:Option (Nat×Bool)} {K:St->Prop}
theorem aa3{t:TypeId}:jv P ⟨dst,.alloc t,ty,pos,after,g⟩ s K=dP P ⟨dst,.alloc t,ty,pos,after,g⟩ s K:=rfl
theorem ag3{t:TypeId}{x:Operand}:jv P ⟨dst,.box t x,ty,pos,after,g⟩ s K=dP P ⟨dst,.box t x,ty,pos,after,g⟩ s K:=rfl
theorem aa4{t:TypeId}{a x:Operand}:jv P ⟨dst,.store t a x,ty,pos,after,g⟩ s K=dP P ⟨dst,.store t a x,ty,pos,after,g⟩ s K:=rfl
theorem aef{t:TypeId}{a x:Operand}:jv P ⟨dst,.makeSlice t a x,ty,pos,after,g⟩ s K=dP P ⟨dst,.makeSlice t a x,ty,pos,after,g⟩ s K:=rfl
theorem WK{t:TypeId}{r:Option Operand}:jv P ⟨dst,.makeMap t r,ty,pos,after,g⟩ s K=dP P ⟨dst,.makeMap t r,ty,pos,after,g⟩ s K:=rfl
theorem Rl{t:TypeId}{x k v:Operand}:jv P ⟨dst,.mapUpdate t x k v,ty,pos,after,g⟩ s K=dP P ⟨dst,.mapUpdate t x k v,ty,pos,after,g⟩ s K:=rfl
theorem YC{t:TypeId}{x i:Operand}{b:Bool}:jv P ⟨dst,.lookup t x i b,ty,pos,after,g⟩ s K=dP P ⟨dst,.lookup t x i b,ty,pos,after,g⟩ s K:=rfl
theorem aeg{x:Operand}{as:Array Operand}{ts:Array TypeId}:jv P ⟨dst,.call ⟨.value x,as,ts⟩,ty,pos,after,g⟩ s K=dP P ⟨dst,.call ⟨.value x,as,ts⟩,ty,pos,after,g⟩ s K:=rfl
theorem ag4{as:Array Operand}{ts:Array TypeId}:jv P ⟨dst,.call ⟨.builtin .len,as,ts⟩,ty,pos,after,g⟩ s K=dP P ⟨dst,.call ⟨.builtin .len,as,ts⟩,ty,pos,after,g⟩ s K:=rfl
theorem ag5{as:Array Operand}{ts:Array TypeId}:jv P ⟨dst,.call ⟨.builtin .max,as,ts⟩,ty,pos,after,g⟩ s K=dP P ⟨dst,.call ⟨.builtin .max,as,ts⟩,ty,pos,after,g⟩ s K:=rfl
theorem ag6{as:Array Operand}{ts:Array TypeId}:jv P ⟨dst,.call ⟨.builtin .min,as,ts⟩,ty,pos,after,g⟩ s K=dP P ⟨dst,.call ⟨.builtin .min,as,ts⟩,ty,pos,after,g⟩ s K:=rfl
theorem aeh{x:Operand}:jv P ⟨dst,.move x,ty,pos,after,g⟩ s K=dP P ⟨dst,.move x,ty,pos,after,g⟩ s K:=rfl
theorem YD{x:Operand}:jv P ⟨dst,.assign x,ty,pos,after,g⟩ s K=dP P ⟨dst,.assign x,ty,pos,after,g⟩ s K:=rfl
theorem aei{c a b:Operand}:jv P ⟨dst,.pick c a b,ty,pos,after,g⟩ s K=dP P ⟨dst,.pick c a b,ty,pos,after,g⟩ s K:=rfl
theorem aej{t:TypeId}{a:Operand}:jv P ⟨dst,.load t a,ty,pos,after,g⟩ s K=dP P ⟨dst,.load t a,ty,pos,after,g⟩ s K:=rfl
theorem Rm{t:TypeId}{x:Operand}{f:Nat}:jv P ⟨dst,.fieldAddr t x f,ty,pos,after,g⟩ s K=dP P ⟨dst,.fieldAddr t x f,ty,pos,after,g⟩ s K:=rfl
theorem aa5{t:TypeId}{x:Operand}{f:Nat}:jv P ⟨dst,.field t x f,ty,pos,after,g⟩ s K=dP P ⟨dst,.field t x f,ty,pos,after,g⟩ s K:=rfl
theorem Rn{t:TypeId}{x i:Operand}:jv P ⟨dst,.indexAddr t x i,ty,pos,after,g⟩ s K=dP P ⟨dst,.indexAddr t x i,ty,pos,after,g⟩ s K:=rfl
theorem aa6{t:TypeId}{x i:Operand}:jv P ⟨dst,.index t x i,ty,pos,after,g⟩ s K=dP P ⟨dst,.index t x i,ty,pos,after,g⟩ s K:=rfl
theorem aa7{op:BinOp}{t u:TypeId}{x y:Operand}:jv P ⟨dst,.binOp op t x y u,ty,pos,after,g⟩ s K=dP P ⟨dst,.binOp op t x y u,ty,pos,after,g⟩ s K:=rfl
theorem aek{op:UnOp}{t:TypeId}{x:Operand}:jv P ⟨dst,.unOp op t x,ty,pos,after,g⟩ s K=dP P ⟨dst,.unOp op t x,ty,pos,after,g⟩ s K:=rfl
theorem WL{a b:TypeId}{x:Operand}:jv P ⟨dst,.convert a b x,ty,pos,after,g⟩ s K=dP P ⟨dst,.convert a b x,ty,pos,after,g⟩ s K:=rfl
theorem WM{x:Operand}{i:Nat}:jv P ⟨dst,.extract x i,ty,pos,after,g⟩ s K=dP P ⟨dst,.extract x i,ty,pos,after,g⟩ s K:=rfl
theorem Ub{fn:Fn}{a b:Array Operand}:jv P ⟨dst,.makeFunc fn a b,ty,pos,after,g⟩ s K=dP P ⟨dst,.makeFunc fn a b,ty,pos,after,g⟩ s K:=rfl
theorem Uc{x:Operand}:jv P ⟨dst,.nilCheck x,ty,pos,after,g⟩ s K=dP P ⟨dst,.nilCheck x,ty,pos,after,g⟩ s K:=rfl
theorem aa8{t:TypeId}{x:Operand}{lo hi mx:Option Operand}:jv P ⟨dst,.slice t x lo hi mx,ty,pos,after,g⟩ s K=dP P ⟨dst,.slice t x lo hi mx,ty,pos,after,g⟩ s K:=rfl
theorem aa9{t:TypeId}{parts:Array (Nat×Operand)}:jv P ⟨dst,.build t parts,ty,pos,after,g⟩ s K=dP P ⟨dst,.build t parts,ty,pos,after,g⟩ s K:=rfl
theorem YE{x y:Operand}{t u:TypeId}:jv P ⟨dst,.call ⟨.builtin .append,#[x,y],#[t,u]⟩,ty,pos,after,g⟩ s K=FR P t u (ev s.tm x) (ev s.tm y) s dst K:=rfl
theorem PN{t:TypeId}{n:Nat}{parts:Array (Nat×Operand)}:jv P ⟨dst,.buildSlice t n parts,ty,pos,after,g⟩ s K=LZ P t s dst K (adW s.st t) (oo P (tH s.st) t n (Vj s.tm parts.toList)):=rfl
theorem ael{t:TypeId}:dP P ⟨dst,.alloc t,ty,pos,after,g⟩ s K=yj P t s dst K:=rfl
theorem akv{t:TypeId}{x:Operand}:dP P ⟨dst,.box t x,ty,pos,after,g⟩ s K=Gf (ev s.tm x) s dst K:=rfl
theorem aem{t:TypeId}{a x:Operand}:dP P ⟨dst,.store t a x,ty,pos,after,g⟩ s K=yt P t (ev s.tm a) (ev s.tm x) s dst K:=rfl
theorem ag7{t:TypeId}{a x:Operand}:dP P ⟨dst,.makeSlice t a x,ty,pos,after,g⟩ s K=Bo P t (ev s.tm a) (ev s.tm x) s dst K:=rfl
theorem YF{t:TypeId}:dP P ⟨dst,.makeMap t none,ty,pos,after,g⟩ s K=xD s dst K:=rfl
theorem Ud{t:TypeId}{x k v:Operand}:dP P ⟨dst,.mapUpdate t x k v,ty,pos,after,g⟩ s K=xE P t (ev s.tm x) (ev s.tm k) (ev s.tm v) s dst K:=rfl
theorem abb{t:TypeId}{x i:Operand}:dP P ⟨dst,.lookup t x i false,ty,pos,after,g⟩ s K=iL s dst K (Cq P s.st t (ev s.tm x) (ev s.tm i)):=rfl
theorem WO{t:TypeId}:gU P E ⟨dst,.makeMap t none,ty,pos,after,g⟩ s K=xD s dst K:=rfl
theorem Ro{t:TypeId}{x k v:Operand}:gU P E ⟨dst,.mapUpdate t x k v,ty,pos,after,g⟩ s K=xE P t (ev s.tm x) (ev s.tm k) (ev s.tm v) s dst K:=rfl
theorem YG{t:TypeId}{x i:Operand}:gU P E ⟨dst,.lookup t x i false,ty,pos,after,g⟩ s K=iL s dst K (Cq P s.st t (ev s.tm x) (ev s.tm i)):=rfl
theorem ag8{c:Call}:dP P ⟨dst,.call c,ty,pos,after,g⟩ s K=qz P c s dst K:=rfl
theorem ag9{x:Operand}:dP P ⟨dst,.move x,ty,pos,after,g⟩ s K=K (s.put dst (ev s.tm x)):=by simp[dP,nval,qy]
theorem abd{x:Operand}:dP P ⟨dst,.assign x,ty,pos,after,g⟩ s K=K (s.put dst (ev s.tm x)):=by simp[dP,nval,qy]
theorem aha{c a b:Operand}:dP P ⟨dst,.pick c a b,ty,pos,after,g⟩ s K=iL s dst K (NN (ev s.tm c) (ev s.tm a) (ev s.tm b)):=rfl
theorem ahb{t:TypeId}{a:Operand}:dP P ⟨dst,.load t a,ty,pos,after,g⟩ s K=iL s dst K (Fe P s.st t (ev s.tm a)):=rfl
theorem Ue{t:TypeId}{x:Operand}{f:Nat}:dP P ⟨dst,.fieldAddr t x f,ty,pos,after,g⟩ s K=iL s dst K (wD P s.st t (ev s.tm x) f):=rfl
theorem aen{t:TypeId}{x:Operand}{f:Nat}:dP P ⟨dst,.field t x f,ty,pos,after,g⟩ s K=iL s dst K (Jr P t (ev s.tm x) f):=rfl
theorem Uf{t:TypeId}{x i:Operand}:dP P ⟨dst,.indexAddr t x i,ty,pos,after,g⟩ s K=iL s dst K (wE P s.st t (ev s.tm x) (ev s.tm i)):=rfl
theorem aeo{t:TypeId}{x i:Operand}:dP P ⟨dst,.index t x i,ty,pos,after,g⟩ s K=iL s dst K (Js P t (ev s.tm x) (ev s.tm i)):=rfl
theorem aep{op:BinOp}{t u:TypeId}{x y:Operand}:dP P ⟨dst,.binOp op t x y u,ty,pos,after,g⟩ s K=iL s dst K (TQ P op t (ev s.tm x) (ev s.tm y)):=rfl
theorem ahc{op:UnOp}{t:TypeId}{x:Operand}:dP P ⟨dst,.unOp op t x,ty,pos,after,g⟩ s K=iL s dst K (unV op (ev s.tm x)):=rfl
theorem YH{a b:TypeId}{x:Operand}:dP P ⟨dst,.convert a b x,ty,pos,after,g⟩ s K=iL s dst K (NQ P a b (ev s.tm x)):=rfl
theorem YI{x:Operand}{i:Nat}:dP P ⟨dst,.extract x i,ty,pos,after,g⟩ s K=iL s dst K (Co (ev s.tm x) i):=rfl
theorem WQ{fn:Fn}{a b:Array Operand}:dP P ⟨dst,.makeFunc fn a b,ty,pos,after,g⟩ s K=iL s dst K (Ak fn (JC s.tm a.toList) (JC s.tm b.toList)):=rfl
theorem WR{x:Operand}:dP P ⟨dst,.nilCheck x,ty,pos,after,g⟩ s K=iL s dst K (Al s.st (ev s.tm x)):=rfl
theorem aer{t:TypeId}{x:Operand}{lo hi mx:Option Operand}:dP P ⟨dst,.slice t x lo hi mx,ty,pos,after,g⟩ s K=iL s dst K (Jt P t (ev s.tm x) (Vi s.tm lo) (Vi s.tm hi) (Vi s.tm mx)):=rfl
theorem aes{t:TypeId}{parts:Array (Nat×Operand)}:dP P ⟨dst,.build t parts,ty,pos,after,g⟩ s K=iL s dst K (Ju P t (Vj s.tm parts.toList)):=rfl
theorem Rp{t:TypeId}{n:Nat}{parts:Array (Nat×Operand)}:dP P ⟨dst,.buildSlice t n parts,ty,pos,after,g⟩ s K=iL s dst K (oo P (tH s.st) t n (Vj s.tm parts.toList)):=rfl
theorem abe{t:TypeId}:gU P E ⟨dst,.alloc t,ty,pos,after,g⟩ s K=yj P t s dst K:=rfl
theorem ahd{t:TypeId}{x:Operand}:gU P E ⟨dst,.box t x,ty,pos,after,g⟩ s K=Gf (ev s.tm x) s dst K:=rfl
theorem abf{t:TypeId}{a x:Operand}:gU P E ⟨dst,.store t a x,ty,pos,after,g⟩ s K=yt P t (ev s.tm a) (ev s.tm x) s dst K:=rfl
theorem aeu{t:TypeId}{a x:Operand}:gU P E ⟨dst,.makeSlice t a x,ty,pos,after,g⟩ s K=Bo P t (ev s.tm a) (ev s.tm x) s dst K:=rfl
theorem YJ{args:Array Operand}{ts:Array TypeId}:gU P E ⟨dst,.call ⟨.builtin .append,args,ts⟩,ty,pos,after,g⟩ s K=qz P ⟨.builtin .append,args,ts⟩ s dst K:=rfl
theorem aev{x:Operand}:gU P E ⟨dst,.move x,ty,pos,after,g⟩ s K=K (s.put dst (ev s.tm x)):=by simp[gU,vL,nval,qy]
theorem YK{x:Operand}:gU P E ⟨dst,.assign x,ty,pos,after,g⟩ s K=K (s.put dst (ev s.tm x)):=by simp[gU,vL,nval,qy]
theorem aew{c a b:Operand}:gU P E ⟨dst,.pick c a b,ty,pos,after,g⟩ s K=iL s dst K (NN (ev s.tm c) (ev s.tm a) (ev s.tm b)):=rfl
theorem aex{t:TypeId}{a:Operand}:gU P E ⟨dst,.load t a,ty,pos,after,g⟩ s K=iL s dst K (Fe P s.st t (ev s.tm a)):=rfl
theorem Rq{t:TypeId}{x:Operand}{f:Nat}:gU P E ⟨dst,.fieldAddr t x f,ty,pos,after,g⟩ s K=iL s dst K (wD P s.st t (ev s.tm x) f):=rfl
theorem abg{t:TypeId}{x:Operand}{f:Nat}:gU P E ⟨dst,.field t x f,ty,pos,after,g⟩ s K=iL s dst K (Jr P t (ev s.tm x) f):=rfl
theorem Rs{t:TypeId}{x i:Operand}:gU P E ⟨dst,.indexAddr t x i,ty,pos,after,g⟩ s K=iL s dst K (wE P s.st t (ev s.tm x) (ev s.tm i)):=rfl
theorem abh{t:TypeId}{x i:Operand}:gU P E ⟨dst,.index t x i,ty,pos,after,g⟩ s K=iL s dst K (Js P t (ev s.tm x) (ev s.tm i)):=rfl
theorem abj{op:BinOp}{t u:TypeId}{x y:Operand}:gU P E ⟨dst,.binOp op t x y u,ty,pos,after,g⟩ s K=iL s dst K (TQ P op t (ev s.tm x) (ev s.tm y)):=rfl
theorem aey{op:UnOp}{t:TypeId}{x:Operand}:gU P E ⟨dst,.unOp op t x,ty,pos,after,g⟩ s K=iL s dst K (unV op (ev s.tm x)):=rfl
theorem WS{a b:TypeId}{x:Operand}:gU P E ⟨dst,.convert a b x,ty,pos,after,g⟩ s K=iL s dst K (NQ P a b (ev s.tm x)):=rfl
theorem WU{x:Operand}{i:Nat}:gU P E ⟨dst,.extract x i,ty,pos,after,g⟩ s K=iL s dst K (Co (ev s.tm x) i):=rfl
theorem Ug{fn:Fn}{a b:Array Operand}:gU P E ⟨dst,.makeFunc fn a b,ty,pos,after,g⟩ s K=iL s dst K (Ak fn (JC s.tm a.toList) (JC s.tm b.toList)):=rfl
theorem Uh{x:Operand}:gU P E ⟨dst,.nilCheck x,ty,pos,after,g⟩ s K=iL s dst K (Al s.st (ev s.tm x)):=rfl
theorem abk{t:TypeId}{x:Operand}{lo hi mx:Option Operand}:gU P E ⟨dst,.slice t x lo hi mx,ty,pos,after,g⟩ s K=iL s dst K (Jt P t (ev s.tm x) (Vi s.tm lo) (Vi s.tm hi) (Vi s.tm mx)):=rfl
theorem abl{t:TypeId}{parts:Array (Nat×Operand)}:gU P E ⟨dst,.build t parts,ty,pos,after,g⟩ s K=iL s dst K (Ju P t (Vj s.tm parts.toList)):=rfl
theorem PO{t:TypeId}{n:Nat}{parts:Array (Nat×Operand)}:gU P E ⟨dst,.buildSlice t n parts,ty,pos,after,g⟩ s K=iL s dst K (oo P (tH s.st) t n (Vj s.tm parts.toList)):=rfl
theorem ahe{args:Array Operand}{ts:Array TypeId}:gU P E ⟨dst,.call ⟨.builtin .len,args,ts⟩,ty,pos,after,g⟩ s K=iL s dst K (nval P s.st s.tm (.call ⟨.builtin .len,args,ts⟩)):=rfl
theorem ahf{x y:Operand}{ts:Array TypeId}:gU P E ⟨dst,.call ⟨.builtin .max,#[x,y],ts⟩,ty,pos,after,g⟩ s K=iL s dst K (zW true (ev s.tm x) (ev s.tm y)):=rfl
theorem ahg{x y:Operand}{ts:Array TypeId}:gU P E ⟨dst,.call ⟨.builtin .min,#[x,y],ts⟩,ty,pos,after,g⟩ s K=iL s dst K (zW false (ev s.tm x) (ev s.tm y)):=rfl
theorem aez{x:Operand}{args:Array Operand}{ts:Array TypeId}:gU P E ⟨dst,.call ⟨.value x,args,ts⟩,ty,pos,after,g⟩ s K=Dj P (E (.call ⟨.value x,args,ts⟩)) (ev s.tm x) (JC s.tm args.toList) s dst K:=by
 simp only[gU,vL];generalize E (.call ⟨.value x,args,ts⟩)=m
 match m with
 |0=>
  simp only[Kl];generalize ev s.tm x=fv
  cases fv with
  |c x=>cases x<;>simp[Dj,Kv,Gp,JC]
  |_=>simp[Dj]
 |1=>
  simp only[dP,qz];generalize ev s.tm x=fv
  cases fv with
  |c x=>cases x<;>simp[Dj,Kv,Gp,JC]
  |_=>simp[Dj]
 |m+2=>
  simp only[dP,qz];generalize ev s.tm x=fv
  cases fv with
  |c x=>cases x<;>simp[Dj,Kv,Gp,JC]
  |_=>simp[Dj]
end
def Fq(v:V)(A B:St->Prop)(s:St):Prop:=
 match v with
 | .c (.d (.b x))=>Split x A B s
 |_=>False
def CW(P:Program)(N:Nat):Code->(Exit->St->Prop)->St->Prop
 | .seq x y,Q,s=>CW P N x (mG (CW P N y Q) Q) s
 | .region _ R false,Q,s=>Gh P R R.toList s (Q .normal)
 | .region _ R true,Q,s=>xR P (Q9 R N) R R.toList s (Q .normal)
 | .cond c x y,Q,s=>Fq (ev s.tm c) (CW P N x Q) (CW P N y Q) s
 | .block id c,Q,s=>CW P N c (Bv id Q) s
 | .exit id,Q,s=>Q (.exit id) s
 | .ret,Q,s=>Q .ret s
 | .skip,Q,s=>Q .normal s
 | .loop c,Q,s=>AW P N (.loop c) Q s
 |_,_,_=>False
def asP(N:Nat)(R:Array Oper):Bool:=R.toList.all (fun o=>match o.dst with|some d=>decide (d<N)|none=>true)
def codeOk(N:Nat):Code->Bool
 | .seq x y=>codeOk N x&&codeOk N y
 | .region _ R false=>asP N R
 | .region _ R true=>T9 R N
 | .cond _ x y=>codeOk N x&&codeOk N y
 | .block _ c=>codeOk N c
 | .loop c=>codeOk N c
 |_=>true
theorem lG(gP:P.follows .mixedOrders=true):∀(c:Code)(Q:Exit->St->Prop)(s:St),codeOk N c=true->CW P N c Q s->AW P N c Q s
 | .seq x y,Q,s,ok,h=>by
   simp only[codeOk,ai] at ok;refine L6 (AW.mono (lG gP x _ s ok.1 h) fun e s' h'=> ?_)
   cases e with
   |normal=>exact lG gP y Q s' ok.2 h'
   |_=>exact h'
 | .region _ R false,Q,s,ok,h=>agL ok h
 | .region _ R true,Q,s,ok,h=>ad6 gP ok h
 | .cond c x y,Q,s,ok,h=>by
   simp only[codeOk,ai] at ok;simp only[CW,Fq] at h;split at h
   ·rename_i b hb;exact NU hb (fun e=>lG gP x Q s ok.1 (h.1 e)) (fun e=>lG gP y Q s ok.2 (h.2 e))
   ·exact h.elim
 | .block id c,Q,s,ok,h=>PD (lG gP c _ s ok h)
 | .exit id,Q,s,ok,h=>an6 h
 | .ret,Q,s,ok,h=>aqj h
 | .skip,Q,s,ok,h=>an5 h
 | .loop c,Q,s,ok,h=>h
 | .rangeFunc _ _ _ _,Q,s,ok,h=>h.elim
 | .scope _,Q,s,ok,h=>h.elim
 | .label _,Q,s,ok,h=>h.elim
 | .goto _,Q,s,ok,h=>h.elim
 | .refuse _,Q,s,ok,h=>h.elim
theorem aqG{x y:Code}{Q:Exit->St->Prop}:CW P N (.seq x y) Q s=CW P N x (mG (CW P N y Q) Q) s:=by rw[CW]
theorem ahh{id:Nat}{l:List Oper}{Q:Exit->St->Prop}:CW P N (.region id ⟨l⟩ false) Q s=Gh P ⟨l⟩ l s (Q .normal):=by rw[CW]
theorem aol{id:Nat}{l:List Oper}{Q:Exit->St->Prop}:CW P N (.region id ⟨l⟩ true) Q s=xR P (Q9 ⟨l⟩ N) ⟨l⟩ l s (Q .normal):=by rw[CW]
theorem aom{c:Operand}{x y:Code}{Q:Exit->St->Prop}:CW P N (.cond c x y) Q s=Fq (ev s.tm c) (CW P N x Q) (CW P N y Q) s:=by rw[CW]
theorem akw{id:Nat}{c:Code}{Q:Exit->St->Prop}:CW P N (.block id c) Q s=CW P N c (Bv id Q) s:=by rw[CW]
theorem aon{id:Nat}{Q:Exit->St->Prop}:CW P N (.exit id) Q s=Q (.exit id) s:=by rw[CW]
theorem aqH{Q:Exit->St->Prop}:CW P N .ret Q s=Q .ret s:=by rw[CW]
theorem aoo{Q:Exit->St->Prop}:CW P N .skip Q s=Q .normal s:=by rw[CW]
theorem acJ{c:Code}{Q:Exit->St->Prop}:CW P N (.loop c) Q s=AW P N (.loop c) Q s:=by rw[CW]
theorem YL{K:St->Prop}{Q:Exit->St->Prop}:mG K Q .normal s=K s:=rfl
theorem ahi{K:St->Prop}{Q:Exit->St->Prop}:mG K Q .ret s=Q .ret s:=rfl
theorem aeA{K:St->Prop}{Q:Exit->St->Prop}{i:Nat}:mG K Q (.exit i) s=Q (.exit i) s:=rfl
theorem YM{id:Nat}{Q:Exit->St->Prop}:Bv id Q .normal s=Q .normal s:=rfl
theorem ahj{id:Nat}{Q:Exit->St->Prop}:Bv id Q .ret s=Q .ret s:=rfl
theorem aeB{id i:Nat}{Q:Exit->St->Prop}:Bv id Q (.exit i) s=if i=id then Q .normal s else Q (.exit i) s:=rfl
def akx(post:V->Store->Prop)(s:St)(r:R):Prop:=r.1/\match r.2.ret with
 |some v=>post v (iD s.st)
 |none=>False
theorem aop{post:V->Store->Prop}{p:Prop}{v:V}:akx post s (p,v)=(p/\match v.ret with
 |some v=>post v (iD s.st)
 |none=>False):=rfl
def PS(P:Program)(rs:List ResultVar)(post:V->Store->Prop)(e:Exit)(s:St):Prop:=ajR P rs post e (JB s)
def YN(P:Program)(rs:List ResultVar)(post:V->Store->Prop)(s:St):Prop:=akx post s (sj P rs s)
theorem aky{rs:List ResultVar}{post:V->Store->Prop}:PS P rs post .ret s=YN P rs post (JB s):=rfl
theorem abm{rs:List ResultVar}{post:V->Store->Prop}:PS P rs post .normal s=YN P rs post (JB s):=rfl
theorem aoq{rs:List ResultVar}{post:V->Store->Prop}{tm:List (Nat×V)}:YN P rs post ⟨tm,S⟩=akx post ⟨tm,S⟩ (sj P rs ⟨tm,S⟩):=rfl
def aqI(j:Nat)(es:List (List D))(tm:List (Nat×V)):List (Nat×V):=tm.map fun x=>(x.1,x.2.qj j es)
theorem ahk{j:Nat}{es:List (List D)}{tm:List (Nat×V)}{t:Nat}:look (aqI j es tm) t=(look tm t).qj j es:=Ku (f:=V.qj j es) rfl tm t
def aqJ(j:Nat)(tm:List (Nat×V))(own:List Obj)(Ω:Store):Option Obj->St
 |some (.fM _ es)=>⟨aqI j es tm,(own.map (Obj.qj j es)).set j .dead::Ω⟩
 |_=>⟨tm,own::Ω⟩
theorem akz{j:Nat}{tm:List (Nat×V)}{own:List Obj}{Ω:Store}:Rj j ⟨tm,own::Ω⟩=aqJ j tm own Ω (own[j]?):=by
 unfold Rj
 simp only
 generalize own[j]? =o
 cases o with
 |none=>rfl
 |some o=>cases o<;>rfl
theorem ahl{tm:List (Nat×V)}{own:List Obj}{Ω:Store}:JB ⟨tm,own::Ω⟩=Rk own.length ⟨tm,own::Ω⟩:=rfl
theorem aB{f:FuncId}{fn:Func}{c:Code}{args:List V}{post:V->Store->Prop}{rs:List ResultVar}(gP:P.follows .mixedOrders=true)(hf:P.funcs[f]? =some fn)(hN:fn.ntmps=N)
 (hb:fn.body=some c) (hn:(fn.name== "runtime.NumGoroutine")=false) (hr:fn.results.toList=rs) (hl:Nat.ble args.length N=true) (hok:codeOk N c=true)
 (h:CW P N c (PS P rs post) ⟨mV (args.map (V.up 1)) 0,[]::S⟩):bS P f args S post:=by
 subst hN;subst hr;exact sP hf hb hn (dd hl) (yA yx (lG gP c _ _ hok h))
end
theorem Ob(n:Int)(h: -9223372036854775808<=n/\n<=9223372036854775807):IntKind.i64.wrap n=n:=IntWalk.i64_in n h
theorem wrap_u8(n:Int)(h:0<=n/\n<=255):IntKind.u8.wrap n=n:=IntWalk.u8_in n h
theorem getD_map{α β:Type}(f:α->β)(l:List α)(i:Nat)(d:β)(h:i<l.length):(l.map f).getD i d=f l[i]:=by
 simp[List.getD,h]
theorem aeC{k:IntKind}{n:Int}:F7 (.int k n)=.c (.d (.i k n)):=rfl
theorem abn{b:Bool}:F7 (.bool b)=.c (.d (.b b)):=rfl
theorem aeD{l:List UInt8}:F7 (.string ⟨⟨l⟩⟩)=.c (.d (.s l)):=rfl
theorem abo:F7 (.slice none 0 0)=.c (.bH []):=rfl
theorem akA{tm:List (Nat×V)}{S:Store}{d:Nat}{v:V}:St.put ⟨tm,S⟩ (some d) v=⟨(d,v)::tm,S⟩:=rfl
theorem akB{tm:List (Nat×V)}{S:Store}{v:V}:St.put ⟨tm,S⟩ none v=⟨tm,S⟩:=rfl
theorem aqK{a b:V}:NN (.c (.d (.b true))) a b=(True,a):=rfl
theorem aqL{a b:V}:NN (.c (.d (.b false))) a b=(True,b):=rfl
theorem abp{tm:List (Nat×V)}{own:List Obj}{Ω:Store}{dst:Option Nat}{o:Obj}{mk:Key->V}{K:St->Prop}:
 newObj ⟨tm,own::Ω⟩ dst o mk K=K (St.put ⟨tm,(own++[o])::Ω⟩ dst (mk (0,own.length))):=rfl
theorem aqM{x:C}{s:St}{dst:Option Nat}{K:St->Prop}:Gf (.c x) s dst K=newObj s dst (.box [x]) (fun k=>.c (.ptr k 0)) K:=rfl
theorem akC{x:List C}{s:St}{dst:Option Nat}{K:St->Prop}:Gf (.agg x) s dst K=newObj s dst (.box x) (fun k=>.c (.ptr k 0)) K:=rfl
theorem akD{α β:Type}{f:α->Option β}:([]:List α).mapM f=some []:=gL
theorem ahm{α β:Type}{f:α->Option β}{x:α}{xs:List α}:(x::xs).mapM f=(f x).bind fun y=>(xs.mapM f).bind fun ys=>some (y::ys):=by
 rw[ef];rfl
theorem asQ{c:C}:C.down 0 c=some c:=by cases c<;>simp[C.down]
theorem akE{n m j:Nat}{es:List (List D)}:C.down n (.bJ (n+m,j) es)=some (.bJ (m,j) es):=by simp[C.down]
theorem ahn{n j:Nat}{es:List (List D)}:C.down n (.bJ (n,j) es)=some (.bJ (0,j) es):=by simp[C.down]
theorem aqN{n:Nat}{x:D}:C.down n (.d x)=some (.d x):=rfl
theorem akF{n:Nat}:C.down n .any=some .any:=rfl
theorem akG{n:Nat}{es:List (List D)}:C.down n (.bH es)=some (.bH es):=rfl
theorem akH{n m j off:Nat}:C.down n (.ptr (n+m,j) off)=some (.ptr (m,j) off):=by simp[C.down]
theorem aho{n j off:Nat}:C.down n (.ptr (n,j) off)=some (.ptr (0,j) off):=by simp[C.down]
theorem akI{n m:Nat}{es:List (List D)}:C.down n (.mE m es)=some (.mE m es):=rfl
theorem akJ{Ω:Store}:tH ([]::Ω)=none:=rfl
theorem akK{cs:List C}{own:List Obj}{Ω:Store}:tH ((.box cs::own)::Ω)=none:=rfl
theorem akL{z:Nat}{es:List (List D)}{own:List Obj}{Ω:Store}:tH ((.tok z es::own)::Ω)=none:=rfl
theorem ahp{z:Nat}{es:List (List D)}{own:List Obj}{Ω:Store}:tH ((.fM z es::own)::Ω)=none:=rfl
theorem aor{m:List (List UInt8)}{own:List Obj}{Ω:Store}:tH ((.mp m::own)::Ω)=none:=rfl
theorem ahq{own:List Obj}{Ω:Store}:tH ((.dead::own)::Ω)=none:=rfl
theorem ahr{n z:Nat}{es:List (List D)}{own:List Obj}{Ω:Store}:tH ((.eP n z es::own)::Ω)=none:=rfl
theorem ahs{n:Nat}{own:List Obj}{Ω:Store}:tH ((.seed n::own)::Ω)=some n:=rfl
theorem aht{es x:List (List D)}{z:Nat}{s:St}{dst:Option Nat}{K:St->Prop}:Gg none es s dst z x K=Et (Bp s.st) es s dst z x K:=rfl
theorem aeE{es x:List (List D)}{z:Nat}{s:St}{dst:Option Nat}{K:St->Prop}:Et false es s dst z x K=newObj s dst (.tok z x) (fun k=>.c (.bJ k x)) K:=rfl
theorem ahu{es x:List (List D)}{z:Nat}{s:St}{dst:Option Nat}{K:St->Prop}:Et true es s dst z x K=(es.length<x.length/\newObj s dst (.fM z x) (fun k=>.c (.jO k)) K):=rfl
theorem akM{Ω:Store}:Bp ([]::Ω)=false:=rfl
theorem akN{cs:List C}{own:List Obj}{Ω:Store}:Bp ((.box cs::own)::Ω)=false:=rfl
theorem akO{z:Nat}{es:List (List D)}{own:List Obj}{Ω:Store}:Bp ((.tok z es::own)::Ω)=false:=rfl
theorem ahv{z:Nat}{es:List (List D)}{own:List Obj}{Ω:Store}:Bp ((.fM z es::own)::Ω)=false:=rfl
theorem aos{m:List (List UInt8)}{own:List Obj}{Ω:Store}:Bp ((.mp m::own)::Ω)=false:=rfl
theorem ahw{own:List Obj}{Ω:Store}:Bp ((.dead::own)::Ω)=false:=rfl
theorem ahx{n z:Nat}{es:List (List D)}{own:List Obj}{Ω:Store}:Bp ((.eP n z es::own)::Ω)=false:=rfl
theorem ahy{n:Nat}{own:List Obj}{Ω:Store}:Bp ((.seed n::own)::Ω)=false:=rfl
theorem aot{own:List Obj}{Ω:Store}:Bp ((.xf []::own)::Ω)=false:=rfl
theorem akP{own:List Obj}{Ω:Store}{r:List (List D)}{rs:List (List (List D))}:Bp ((.xf (r::rs)::own)::Ω)=true:=rfl
theorem akQ{n:Nat}{x:List (List D)}{z:Nat}{s:St}{dst:Option Nat}{K:St->Prop}:Gg (some n) [] s dst z x K=K (St.put ⟨s.tm,s.st⟩ dst (.c (.d (.ol n x)))):=rfl
theorem ahz{n:Nat}{y:List D}{es x:List (List D)}{z:Nat}{s:St}{dst:Option Nat}{K:St->Prop}:Gg (some n) (y::es) s dst z x K=newObj s dst (.tok z x) (fun k=>.c (.bJ k x)) K:=rfl
theorem aeF{n:Nat}{x:List (List D)}{z:Nat}{s:St}{dst:Option Nat}{K:St->Prop}:I4 false n s dst z x K=newObj s dst (.eP n z x) (fun k=>.c (.bJ k x)) K:=rfl
theorem ahA{n:Nat}{x:List (List D)}{z:Nat}{s:St}{dst:Option Nat}{K:St->Prop}:I4 true n s dst z x K=K (St.put ⟨s.tm,s.st⟩ dst (.c (.d (.ol n x)))):=rfl
theorem akR{own:List Obj}{Ω:Store}:adR (own::Ω)=Bq own[1]? :=rfl
theorem aeG:Bq none=false:=rfl
theorem ahB{cs:List C}:Bq (some (.box cs))=false:=rfl
theorem ahC{z:Nat}{es:List (List D)}:Bq (some (.tok z es))=false:=rfl
theorem aeH{n z:Nat}{es:List (List D)}:Bq (some (.eP n z es))=false:=rfl
theorem aeI{z:Nat}{es:List (List D)}:Bq (some (.fM z es))=false:=rfl
theorem aeJ:Bq (some .dead)=false:=rfl
theorem akS{m:List (List UInt8)}:Bq (some (.mp m))=false:=rfl
theorem aou{own:List Obj}{Ω:Store}{t:TypeId}:adW (own::Ω) t=Eu own[0]? t:=rfl
theorem ahD{t:TypeId}:Eu none t=false:=rfl
theorem akT{t:TypeId}{cs:List C}:Eu (some (.box cs)) t=false:=rfl
theorem akU{t:TypeId}{z:Nat}{es:List (List D)}:Eu (some (.tok z es)) t=false:=rfl
theorem ahE{t:TypeId}{n z:Nat}{es:List (List D)}:Eu (some (.eP n z es)) t=false:=rfl
theorem ahF{t:TypeId}{z:Nat}{es:List (List D)}:Eu (some (.fM z es)) t=false:=rfl
theorem ahG{t:TypeId}:Eu (some .dead) t=false:=rfl
theorem aov{t:TypeId}{m:List (List UInt8)}:Eu (some (.mp m)) t=false:=rfl
theorem ahH{t:TypeId}{n:Nat}:Eu (some (.seed n)) t=false:=rfl
theorem aow{t:TypeId}:Eu (some (.xf [])) t=rowIs t:=rfl
theorem akV{t:TypeId}{r:List (List D)}{rs:List (List (List D))}:Eu (some (.xf (r::rs))) t=false:=rfl
theorem aeK{P:Program}{t:TypeId}{s:St}{dst:Option Nat}{K:St->Prop}{r:R}:LZ P t s dst K false r=iL s dst K r:=rfl
theorem ahI{P:Program}{t:TypeId}{s:St}{dst:Option Nat}{K:St->Prop}{p:Prop}{es:List (List D)}:LZ P t s dst K true (p,.c (.bH es))=(match P.underlying t with
 |some (.slice e)=>p/\newObj s dst (.fM (P.cellsOf e) es) (fun k=>.c (.jO k)) K
 |_=>False):=rfl
theorem aox{own:List Obj}{Ω:Store}{rs:List (List (List D))}:tH ((.xf rs::own)::Ω)=none:=rfl
theorem abq:Bq (some (.seed 0))=false:=rfl
theorem abr:Bq (some (.seed 1))=true:=rfl
attribute [go_sem ↓] aa3 ag3 aa4 aef WK Rl YC aeg ag4 ag5 ag6 aeh YD aei aej Rm aa5 Rn aa6 aa7 aek WL WM Ub Uc aa8 aa9 YE PN
attribute [go_sem] aou ahD akT akU ahE ahF ahG aov ahH aow akV rowIs aeK ahI aox FR Jy List.getElem?_nil
attribute [go_sem] aeE ahu akM akN akO ahv aos ahw ahx ahy aot akP aht akQ ahz aeF ahA akR aeG ahB ahC aeH aeI aeJ akS abq abr
theorem akW{P:Program}{t:TypeId}{n:Nat}{parts:List (Nat×V)}:oo P none t n parts=uY P t n parts:=rfl
def anw(m:Nat):R->R
 |(p,.c (.bH es))=>(p,.c (.mE m es))
 |_=>no
theorem akX{m:Nat}{p:Prop}{es:List (List D)}:anw m (p,.c (.bH es))=(p,.c (.mE m es)):=rfl
theorem akY{P:Program}{m:Nat}{t:TypeId}{n:Nat}{parts:List (Nat×V)}:oo P (some m) t n parts=anw m (uY P t n parts):=rfl
attribute [go_sem_proc] Nat.reduceEqDiff Nat.reduceAdd Nat.reduceLeDiff Nat.reduceSub Nat.reduceMul Nat.reduceBEq Int.reduceEq Int.reduceLT Int.reduceLE Int.reduceGT Int.reduceGE Int.reduceNeg Int.reduceToNat
attribute [go_sem_proc ↓] reduceIte
attribute [wf_preprocess] decide_eq_true_eq decide_eq_false_iff_not Bool.not_eq_true Bool.not_eq_false Bool.not_eq_eq_eq_not Bool.not_true Bool.not_false Classical.not_not
attribute [go_sem ↓] akt agZ ag0 aed aku ag1 ag2 aee aa0 aa1 Yz YA aok ako agU aqG ahh aol aom akw aon aqH aoo acJ YL ahi aeA YM ahj aeB aky abm ahl aa2 YB agW agX agY ahf ahg ael akv aem ag7 YF Ud abb WO Ro YG ag8 ag9 abd aha ahb Ue aen Uf aeo aep ahc YH YI WQ WR aer aes Rp abe ahd abf aeu YJ aev YK aew aex Rq abg Rs abh abj aey WS WU Ug Uh abk abl PO ahe aez
attribute [go_sem] Gn aeb aaZ akp aoq aop Fq Rk akz aqJ ahk V.qj C.qj Obj.qj akq akr aks Gp
 ad9 aea aoi akk akl akm aoj akn ev aeC abn aeD abo Jq akA akB look aqK aqL abp aqM akC yj yt Bo vK X7
 Fe NP Bf headD adD wD Jr Ia DF wE Js adE adF TQ adG unV NQ Co Ke Jt Bg Ak capOf Al
 XO zW Cq xD xE zH bC bA C.up V.up EN iw mV V.vw C.vw asQ akE ahn aqN akF akG akH aho
 af aw bm bc al aa ba dC Option.map_none dy Option.bind_none
 fo fa List.set_cons_zero List.set_cons_succ cN di List.drop_nil cE eL List.take_nil
 if_true if_false true_and and_true fk dc ea cG cR cP Bool.true_eq_false ft fL reduceCtorEq
 decide_true decide_false dv eN cD cd Option.isSome_some gt Ob getD_map akD ahm QE splice ab Kg Ju Am uY ea akJ akK akL ahp aor ahq ahr ahs akW akY akX akI
section
variable {P:Program} {S S':Store} {N:Nat} {s:St}
def iy:List Nat->List V->List (Nat×V)
 |t::ts,v::vs=>(t,v)::iy ts vs
 |_,_=>[]
theorem Cx(f:Nat->V):∀(ts:List Nat)(t:Nat),look (iy ts (ts.map f)) t=f t\/look (iy ts (ts.map f)) t=.any
 |[],t=>.inr rfl
 |u::us,t=>by
  show(if u=t then f u else look (iy us (us.map f)) t)=f t\/(if u=t then f u else look (iy us (us.map f)) t)=.any;by_cases e:u=t
  ·left;rw[if_pos e,e]
  ·rw[if_neg e];exact Cx f us t
def Inv{ι:Type}(N:Nat)(ts:List Nat)(f:ι->List V)(g:ι->Store)(p:ι->Prop)(μ:ι->Nat)(i:ι)(s':St):Prop:=∃j s0,μ j<μ i/\iK N s' s0/\ts.map (look s0.tm)=f j/\s0.st=g j/\p j
theorem dH{ι:Type}{ts:List Nat}{f:ι->List V}{g:ι->Store}{p:ι->Prop}{μ:ι->Nat}{i:ι}(j:ι)(h1:μ j<μ i)(h2:ts.map (look s.tm)=f j)(h3:s.st=g j)(h4:p j):Inv N ts f g p μ i s:=
 ⟨j,s,h1,iK.refl _ _,h2,h3,h4⟩
theorem Gq:∀(ts:List Nat)(vs:List V),ts.Nodup->ts.length=vs.length->ts.map (look (iy ts vs))=vs
 |[],[],_,_=>rfl
 |t::ts,v::vs,hn,hl=>by
  have hn':=List.nodup_cons.1 hn;have ih:=Gq ts vs hn'.2 (by simpa using hl);simp only[iy,af,look,if_true,eK,true_and];rw[<-ih];refine cQ fun u hu=> ?_;have hne:t≠u:=fun e=>hn'.1 (e▸hu);rw[if_neg hne,ih]
theorem bR{ι:Type}{ts:List Nat}{f:ι->List V}{g:ι->Store}{p:ι->Prop}{μ:ι->Nat}{i:ι}{tm:List (Nat×V)}{own:List Obj}{Ω:Store}(n:Nat)(hnd:ts.Nodup)(j:ι)(h1:μ j<μ i)(h2:ts.map (look tm)=f j)(h3:own.take n::Ω=g j)
 (hr:jh n (iy ts (f j))=true)(ho:(own.take n).all (Obj.refs n)=true)(h4:p j):Inv N ts f g p μ i ⟨tm,own::Ω⟩:=by
 refine⟨j,⟨iy ts (f j),own.take n::Ω⟩,h1,?_,?_,h3,h4⟩
 ·have hg:iK N ⟨tm,own::Ω⟩ ⟨iy ts (f j),own::Ω⟩:=by
   rw[<-h2];exact PK fun t=>Cx _ ts t
  exact hg.trans (Rf n hr ho)
 ·exact Gq ts (f j) hnd (by rw[<-h2];simp)
theorem aZ{ι:Type}{c:Code}{Q:Exit->St->Prop}(gP:P.follows .mixedOrders=true)(hok:codeOk N c=true)(ts:List Nat)(f:ι->List V)(g:ι->Store)(p:ι->Prop)(μ:ι->Nat)(i0:ι)
 (h1:ts.map (look s.tm)=f i0)(h2:s.st=g i0)(h3:p i0)
 (round:∀i,p i->CW P N c (mG (Inv N ts f g p μ i) Q) ⟨iy ts (f i),g i⟩):AW P N (.loop c) Q s:=by
 refine acE (ι:=ι) (fun i s=>∃s0,iK N s s0/\ts.map (look s0.tm)=f i/\s0.st=g i/\p i) μ i0 ⟨s,iK.refl _ _,h1,h2,h3⟩ fun i s hI=> ?_;obtain⟨s0,hg,h1,h2,h3⟩:=hI;refine mO ?_ hg
 have hr:=(lG gP c _ _ hok (round i h3)).mono (Q':=mG (fun s'=>∃j,μ j<μ i/\∃s0,iK N s' s0/\ts.map (look s0.tm)=f j/\s0.st=g j/\p j) Q) fun e s' h=>by
  cases e with
  |normal=>
   obtain⟨j,s0,a1,a2,a3,a4,a5⟩:=h;exact⟨j,a1,s0,a2,a3,a4,a5⟩
  |_=>exact h
 obtain⟨tm,st⟩:=s0;simp only at h1 h2;subst h2;rw[<-h1] at hr;exact ad8 hr fun t=>Cx _ ts t
theorem akZ:sj P [] s=(True,.eu []):=rfl
theorem ak0{x:ResultVar}:sj P [x] s=Bw P s x:=rfl
theorem ak1{x y:ResultVar}{z:List ResultVar}:sj P (x::y::z) s=(match(tJ P s (x::y::z)).2 with
 |some ys=>((tJ P s (x::y::z)).1,.eu ys)
 |none=>no):=rfl
end
attribute [go_sem] LM Xn
attribute [go_sem] iy akZ ak0 ak1 Bw tJ Q6 iD V.ret NW
end Go.Ab