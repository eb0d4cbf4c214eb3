/-
  SEVERAL TEXTS IN ONE (merged by program): contracts and models, each with its own heading.
-/
import Derived.Test.YtbaefeecjjhhkaaGreatDoorPartOcbA
import Derived.LoopN
import Derived.StillTail
set_option linter.unusedSimpArgs false
set_option linter.unusedVariables false
namespace Go.Ab
def rowIs(t:TypeId):Bool:=false
def Cq(o:Option Obj)(t:TypeId):Bool:=match o with
 |some (.xf [])=>rowIs t
 |_=>false
def aa8(S:Store)(t:TypeId):Bool:=Cq (bA S (0,0)) t
def JL(P:Program)(t:TypeId)(s:St)(dst:Option Nat)(K:St->Prop)(b:Bool)(r:R):Prop:=
 match b,r with
 |false,r=>r.1/\K (s.put dst r.2)
 |true,(p,.c (.bn es))=>match P.underlying t with
  |some (.slice e)=>p/\newObj s dst (.gF (P.cellsOf e) es) (fun k=>.c (.mD k)) K
  |_=>False
 |true,_=>False
def Gp(P:Program)(t u:TypeId)(k:Key)(y:V)(s:St)(dst:Option Nat)(K:St->Prop):Prop:=
 match P.underlying t,Vg P u y,bA s.st k with
 |some (.slice e),some ys,some (.gF aW es)=>aW=P.cellsOf e/\(∀y∈ys,y.length=P.cellsOf e)/\P.bytesOf e<=4096/\(∃zs,jV P e=some zs/\zs.length=P.cellsOf e)/\es.length+ys.length<=1073741824/\
   newObj ⟨s.tm,bJ s.st k .dead⟩ dst (.gF aW (es++ys)) (fun k=>.c (.mD k)) K
 |_,_,_=>False
def DC(P:Program)(t u:TypeId)(x y:V)(s:St)(dst:Option Nat)(K:St->Prop):Prop:=
 match x with
 | .c (.mD k)=>Gp P t u k y s dst K
 |x=>tO P t u x y s dst K
def iZ(P:Program)(o:Oper)(s:St)(K:St->Prop):Prop:=
 match o.op with
 | .call {callee:=.builtin .append,args:=zy,argTypes:=ts}=>match zy.toList,ts.toList with
   |[x,y],[t,u]=>DC P t u (ev s.tm x) (ev s.tm y) s o.dst K
   |_,_=>False
 | .buildSlice t n parts=>JL P t s o.dst K (aa8 s.st t) (nval P s.st s.tm (.buildSlice t n parts))
 |_=>dD P o s K
section
variable {P:Program} {w w':World} {σ σ':Nat->Nat} {S:Store} {β β':Hs} {N:Nat} {s:St} {a:Act}
theorem fH.lay{own:List Obj}{Ω:Store}{bo:List Value}{bΩ:Hs}{o:Obj}{h:Value}(hS:fH w σ (own::Ω) (bo::bΩ))(hlen:bo.length=own.length)
 (ho:iL w σ ((own++[o])::Ω) ((bo++[h])::bΩ) o h)(hb:∀b,owns o h b->¬Own (own::Ω) (bo::bΩ) b):
 fH w σ ((own++[o])::Ω) ((bo++[h])::bΩ)/\Keep (own::Ω) (bo::bΩ) ((own++[o])::Ω) ((bo++[h])::bΩ)/\∀b,Own ((own++[o])::Ω) ((bo++[h])::bΩ) b->Own (own::Ω) (bo::bΩ) b\/owns o h b:=by
 have hkeep:Keep (own::Ω) (bo::bΩ) ((own++[o])::Ω) ((bo++[h])::bΩ):=by
  intro k o1 h1;obtain⟨h2,xP,_⟩:=hS.obj k o1 h1;exact⟨o1,kN _ _ _ _ _ h1,by rw[kN _ _ _ _ _ xP,xP];exact .refl _ _⟩
 have hinv:∀k o1 h1,bA ((own++[o])::Ω) k=some o1->bA ((bo++[h])::bΩ) k=some h1->
  (bA (own::Ω) k=some o1/\bA (bo::bΩ) k=some h1)\/(k=(0,own.length)/\o1=o/\h1=h):=by
  intro k o1 h1 e1 e2;rcases mY _ _ _ _ _ e1 with e1|⟨rfl,rfl⟩
  ·left;refine⟨e1,?_⟩;rcases mY _ _ _ _ _ e2 with e2|⟨rfl,rfl⟩
   ·exact e2
   ·rw[bR,hlen] at e1;have:=(List.getElem?_eq_some_iff.1 e1).1;omega
  ·right;rw[<-hlen,dx] at e2;exact⟨rfl,rfl,(Option.some.inj e2).symm⟩
 refine⟨⟨?_,?_,⟨?_,?_⟩,hS.live,hS.vO⟩,hkeep,?_⟩
 ·intro k o1 h1;rcases mY _ _ _ _ _ h1 with h1|⟨rfl,rfl⟩
  ·obtain⟨h2,xP,hr⟩:=hS.obj k o1 h1;exact⟨h2,kN _ _ _ _ _ xP,hr.mono (eG.refl _ _) (hkeep.drop _) fun b hb=>⟨rfl,rfl⟩⟩
  ·exact⟨h,by rw[<-hlen,dx],ho⟩
 ·intro k k' o1 o2 h1 h2 b e1 e2 e3 e4 e5 e6;rcases hinv k o1 h1 e1 e2 with⟨f1,f2⟩|⟨rfl,rfl,rfl⟩
  ·rcases hinv k' o2 h2 e4 e5 with⟨g1,g2⟩|⟨rfl,rfl,rfl⟩
   ·exact hS.apart _ _ _ _ _ _ _ f1 f2 e3 g1 g2 e6
   ·exact absurd ⟨k,o1,h1,f1,f2,e3⟩ (hb b e6)
  ·rcases hinv k' o2 h2 e4 e5 with⟨g1,g2⟩|⟨rfl,rfl,rfl⟩
   ·exact absurd ⟨k',o2,h2,g1,g2,e6⟩ (hb b e3)
   ·rfl
 ·have:=hS.shape.1;simpa using this
 ·intro l fr hl
  cases l with
  |zero=>
   simp at hl;exact⟨_,rfl,by rw[<-hl];simp[hlen]⟩
  |succ l=>exact hS.shape.2 (l+1) fr hl
 ·rintro b ⟨k,o1,h1,e1,e2,e3⟩;rcases hinv k o1 h1 e1 e2 with⟨f1,f2⟩|⟨rfl,rfl,rfl⟩
  ·exact .inl ⟨k,o1,h1,f1,f2,e3⟩
  ·exact .inr e3
theorem aa9{t u ty e:TypeId}{sv:Value}{size:Nat}{es ys:List (List D)}{yv:Value}(hl:∀b,b<w.heap.size\/σ b=0)
 (ht:P.underlying t=some (.slice e))(hu:R5 P u)(hz:∃zs,jV P e=some zs/\zs.length=size)(hsize:P.cellsOf e=size)(hb:P.bytesOf e<=4096)
 (hs:iL w σ S β (.gF size es) sv)(hy:D6 P w σ size ys yv)(hlen:es.length+ys.length<=1073741824):
 ∃r w',(Builtin.append_ #[t,u] ty #[sv,yv]).run P w=.ok r w'/\(∀S' β',iL w' σ S' β' (.gF size (es++ys)) r)/\w.heap.size<=w'.heap.size/\w'.os=w.os/\w'.output=w.output/\
  eG w σ w' σ/\(∀b,b<w'.heap.size\/σ b=0)/\(∀b,b<w.heap.size->¬owns (.gF size es) sv b->w'.heap[b]? =w.heap[b]?)/\
  (∀b,owns (.gF size (es++ys)) r b->owns (.gF size es) sv b\/w.heap.size<=b)/\r.oneCell'=true:=by
 obtain⟨zs,hzs,hzl⟩:=hz;obtain⟨z,zm,hzc⟩:=yh (w:=w) (σ:=σ) (S:=S) (β:=β) hzs
 have QH:z.cells.size=size:=by have:=hzc.1;simp at this;omega
 have hex:∃info,P.info? e=some info/\info.zero=some z:=by
  unfold jV at hzs
  cases hi:P.info? e with
  |none=>rw[hi] at hzs;cases hzs
  |some i=>
   refine⟨i,rfl,?_⟩
   cases hz:i.zero with
   |none=>rw[hi] at hzs;simp[hz] at hzs
   |some z'=>
    have:(zeroValue e).run P w=.ok z' w:=by simp[zeroValue,typeInfo,hi,hz]
    rw[zm] at this;cases this;rfl
 obtain⟨info,hi,hiz⟩:=hex
 have hib:info.bytes=P.bytesOf e:=by simp[Program.bytesOf,hi]
 have his:info.size=size:=by rw[<-hsize];simp[Program.cellsOf,hi]
 have hs0:=hs;obtain⟨hle,base,sCap,rfl,hcap,h4⟩:=hs;obtain⟨hyl,hys,ya,N9,Ve,hyd⟩:=hy w rfl;have hall:∀x∈es++ys,x.length=size:=fun x hx=>(List.mem_append.1 hx).elim (hle x) (hys x);have hfl:es.flatten.length=es.length*size:=j4 es size hle;have hfy:ys.flatten.length=ys.length*size:=j4 ys size hys;have hlen':(es++ys).length=es.length+ys.length:=List.length_append
 have hone:∀v∈ya.toList,v.oneCell'=true:=fun v hv=>by
  obtain⟨j,hj⟩:=List.getElem?_of_mem hv;have hjl:=(List.getElem?_eq_some_iff.1 hj).1;simp at hjl;obtain⟨v',hv',hr⟩:=hyd j _ (List.getElem?_eq_getElem (by omega));rw[Array.getElem?_toList] at hj;rw[hj] at hv';cases hv';exact hr.one
 by_cases hn0:ys.length=0
 ·have agP:ys=[]:=List.eq_nil_of_length_eq_zero hn0;subst agP
  have hya:ya= #[]:=by simpa using Ve
  subst hya;refine⟨_,w,JG ht hu hi hyl (by rw[his];exact N9) hcap,fun S' β'=> ?_,Nat.le_refl _,rfl,rfl,eG.refl _ _,hl,fun b _ _=>rfl,fun b hb=>.inl (by simpa using hb),rfl⟩;rw[List.append_nil];exact hs0
 by_cases hroom:es.length+ys.length<=sCap
 ·have hc0:sCap≠0:=by omega
  obtain⟨b,c,ct,rfl,hbc,hσ,hfit,hcells⟩:=h4.resolve_left hc0
  have hmul:es.length*size+ys.length*size<=sCap*size:=by rw[<-Nat.add_mul];exact Nat.mul_le_mul_right _ hroom
  have hrun:=JH (P:=P) (ty:=ty) (b:=b) (off:=0) ht hu hi hyl (by rw[his];exact N9) hroom hbc (by rw[his,Ve];omega) hone;rw[his,Nat.zero_add] at hrun;generalize hc2:(c.toList.take (es.length*size)++ya.toList++c.toList.drop (es.length*size+ya.size)).toArray=c2 at hrun
  have D5:c2.size=c.size:=by rw[<-hc2];simp;omega
  have hheap:(w.setRow b c2).heap[b]? =some (.cells c2 ct (0,0)):=setRow_heap w b c c2 ct (0,0) hbc
  have hlow:∀i,i<es.length*size->c2[i]? =c[i]? :=fun i hi=>by
   rw[<-hc2,List.getElem?_toArray,List.append_assoc,List.getElem?_append_left (by simp;omega),List.getElem?_take_of_lt hi,Array.getElem?_toList]
  have hmid:∀j,j<ya.size->c2[es.length*size+j]? =ya[j]? :=fun j hj=>by
   rw[<-hc2,List.getElem?_toArray,List.getElem?_append_left (by simp;omega),List.getElem?_append_right (by simp;omega),<-Array.getElem?_toList];congr 1;simp;omega
  have hn:eG w σ (w.setRow b c2) σ:=by
   intro b1 c1 t1 Gn e1;refine⟨Nat.le_refl _,fun _=>rfl,?_⟩;by_cases hb1:b1=b
   ·subst hb1;rw[hbc] at e1;cases e1;exact⟨c2,hheap,D5,fun i hi=>by omega⟩
   ·exact⟨c1,(iY w b c2 b1 hb1).trans e1,rfl,fun _ _=>rfl⟩
  refine⟨_,_,hrun,fun S' β'=>⟨hall,_,sCap,by rw[hlen'],by omega,.inr ⟨b,c2,ct,rfl,hheap,hσ,by omega,fun j d hj=> ?_⟩⟩,by rw[setRow_size];exact Nat.le_refl _,rfl,rfl,hn,fun x=>by rw[setRow_size];exact hl x,fun x hx hne=> ?_,fun x hx=>.inl ?_,rfl⟩
  ·rw[List.flatten_append] at hj;by_cases hjl:j<es.length*size
   ·rw[List.getElem?_append_left (by omega)] at hj;obtain⟨v,hv,hr⟩:=hcells j d hj;exact⟨v,by rw[hlow j hjl];exact hv,hr.mono hn⟩
   ·rw[List.getElem?_append_right (by omega),hfl] at hj;obtain⟨v,hv,hr⟩:=hyd _ d hj;have hlt:=(Array.getElem?_eq_some_iff.1 hv).1;refine⟨v,?_,hr.mono hn⟩;rw[<-hv,<-hmid _ hlt];congr 1;omega
  ·exact iY _ _ _ _ fun e=>hne (by simp[owns,blk,hc0,e])
  ·simpa [owns,blk] using hx
 ·obtain⟨aqk,_,Z0,agQ,aa2,agR⟩:=hy w.drew rfl
  obtain⟨oa,hor,Vf,hod⟩:∃oa:Array Value,(Builtin.firstCells size es.length (.slice base es.length sCap)).run P w.drew=.ok oa w.drew/\oa.size=es.length*size/\∀(j:Nat)(d:D),es.flatten[j]? =some d->∃v,oa[j]? =some v/\dJ w σ d v:=by
   rcases h4 with h0|⟨b,c,ct,rfl,hbc,hσ,hfit,hcells⟩
   ·have he:es=[]:=List.eq_nil_of_length_eq_zero (by omega);subst he;refine⟨#[],?_,by simp,fun j d hj=>by simp at hj⟩
    cases base with
    |none=>rfl
    |some b=>simp[Builtin.firstCells,loadCells,loadCellsFrom]
   ·have hm:es.length*size<=sCap*size:=Nat.mul_le_mul_right _ hcap;have hbc':w.drew.heap[b]? =some (.cells c ct (0,0)):=hbc;have hex:∀j,j<es.length*size->∃v,c[0+j]? =some v:=fun j hj=>⟨c[0+j]'(by omega),Array.getElem?_eq_getElem (by omega)⟩;obtain⟨hpl,hpv⟩:=BA c 0 (es.length*size) hex;refine⟨_,zk (a:=⟨b,0,none⟩) rfl hbc' _ hex,by simpa using hpl,fun j d hj=> ?_⟩;obtain⟨v,hv,hr⟩:=hcells j d hj;have hjl:=(List.getElem?_eq_some_iff.1 hj).1;refine⟨v,?_,hr⟩;rw[List.getElem?_toArray,hpv j (by omega),Nat.zero_add];exact hv
  obtain⟨cap,rest,NQ,hrest,hrun⟩:=JI (P:=P) (ty:=ty) (base:=base) (sCap:=sCap) ht hu hi hiz hyl (by rw[his];exact agQ) (by rw[his];exact hor) (by omega) hlen (by rw[hib];exact hb)
  let w':World:={w.drew with heap:=w.heap.push (.cells (oa++Z0++rest) e)}
  have hn:eG w σ w' σ:=by
   intro b1 c1 t1 Gn e1
   have hne:b1≠w.heap.size:=by have:=lt_of_some e1;omega
   refine⟨Nat.le_refl _,fun _=>rfl,c1,?_,rfl,fun _ _=>rfl⟩;simp only[w'];rw[Array.getElem?_push,if_neg hne];exact e1
  have hn':eG w.drew σ w' σ:=hn
  have hheap:w'.heap[w.heap.size]? =some (.cells (oa++Z0++rest) e (0,0)):=by simp[w']
  have hσ0:σ w.heap.size=0:=by
   rcases hl w.heap.size with h|h
   ·omega
   ·exact h
  refine⟨_,w',hrun,fun S' β'=>⟨hall,_,cap,by rw[hlen'],by omega,.inr ⟨w.heap.size,_,e,rfl,hheap,hσ0,?_,fun j d hj=> ?_⟩⟩,by simp[w'],rfl,rfl,hn,fun x=> ?_,fun x hx _=> ?_,fun x hx=>.inr ?_,rfl⟩
  ·simp only[Array.size_append,Vf,aa2,hrest,QH];rw[<-Nat.add_mul,<-Nat.add_mul];exact Nat.mul_le_mul_right _ (by omega)
  ·rw[List.flatten_append] at hj;by_cases hjl:j<es.length*size
   ·rw[List.getElem?_append_left (by omega)] at hj;obtain⟨v,hv,hr⟩:=hod j d hj;refine⟨v,?_,hr.mono hn⟩;rw[Array.append_assoc,Array.getElem?_append_left (by omega)];exact hv
   ·rw[List.getElem?_append_right (by omega),hfl] at hj;obtain⟨v,hv,hr⟩:=agR _ d hj;have hlt:=(Array.getElem?_eq_some_iff.1 hv).1;refine⟨v,?_,hr.mono hn'⟩;rw[Array.append_assoc,Array.getElem?_append_right (by omega),Vf,Array.getElem?_append_left (by omega)];exact hv
  ·simp only[w',Array.size_push];exact(hl x).imp (fun h=>by omega) id
  ·have hne:x≠w.heap.size:=by omega
   simp only[w'];rw[Array.getElem?_push,if_neg hne]
  ·simp only[owns,blk] at hx;split at hx
   ·cases hx
   ·cases hx;exact Nat.le_refl _
theorem Vm{o:Oper}{K:St->Prop}{Q:Exit->Act->World->Prop}{t u:TypeId}{x y:Operand}{k:Key}(hrun:∀r w',(Builtin.append_ #[t,u] o.type #[a.eval x,a.eval y]).run P w=.ok r w'->(execOp a.eval o).run P w=.ok (.value r) w')
 (hd:∀d,o.dst=some d->d<N)(hR:lN N s a w σ β)(hx:ev s.tm x=.c (.mD k))(h:Gp P t u k (ev s.tm y) s o.dst K):o.wp P a w (Then N s.st β σ w K) Q:=by
 have hxr:=kW hR.T x;have N9:=kW hR.T y;rw[hx] at hxr;unfold Gp at h;split at h
 ·rename_i e ys aW es ht hsrc hk;obtain⟨rfl,h1,h2,h3,h5,h6⟩:=h;obtain⟨hu,hsa⟩:=Vj hsrc N9 h1;obtain⟨⟨ob,ho,aa6⟩,hone⟩:=hxr;rw[hk] at ho;cases ho;have hβ:=aa6 _ _ rfl;obtain⟨hh,hb,FQ⟩:=hR.S.obj k _ hk;rw[hβ] at hb;cases hb;obtain⟨r,w',hr,hro,hsz,hos,hout,hn,hl,tL,hbk,h1c⟩:=aa9 (P:=P) (ty:=o.type) hR.S.live ht hu h3 rfl h2 FQ hsa h5;obtain⟨hS1,hk1,zA⟩:=hR.S.set (o':=.dead) (h':=a.eval x) hk hβ hsz hos hout hn hl (fun b h1 h2=>⟨tL b h1 h2,rfl⟩) (.inl rfl) trivial (fun b hb=>by cases hb);have e1:bJ β k (a.eval x)=β:=JF (a.eval x) _ _ _ hβ;rw[e1] at hS1 hk1 zA;obtain⟨tm,st⟩:=s;have hsh:=hS1.shape
  cases hst:bJ st k Obj.dead with
  |nil=>simp only[newObj,hst] at h6
  |cons own Ω=>
   simp only[newObj,hst] at h6
   have agS:fH w' σ (own::Ω) β:=by rw[<-hst];exact hS1
   have hfr:∃bo bΩ,β=bo::bΩ/\bo.length=own.length:=by
    cases β with
    |nil=>have:=agS.shape.1;simp at this
    |cons bo bΩ=>
     refine⟨bo,bΩ,rfl,?_⟩;obtain⟨gr,q1,q2⟩:=agS.shape.2 0 own rfl;simp at q1;rw[q1];exact q2
   obtain⟨bo,bΩ,rfl,hlen⟩:=hfr
   have hnot:∀b,owns (.gF (P.cellsOf e) (es++ys)) r b->¬Own (own::Ω) (bo::bΩ) b:=by
    intro b hb ⟨k1,o1,h1,e1,e2,e3⟩
    have hin:bA st k1=some o1/\k1≠k:=by
     have R6:bA (bJ st k Obj.dead) k1=some o1:=by rw[hst];exact e1
     by_cases q:k1=k
     ·subst q;rw[eO _ _ _ _ hk] at R6;cases R6;cases e3
     ·rw[fI _ _ _ _ (Ne.symm q)] at R6;exact⟨R6,q⟩
    rcases hbk b hb with k2|k2
    ·exact hin.2 (hR.S.apart k1 k o1 _ h1 _ b hin.1 e2 e3 hk hβ k2)
    ·have:=hR.S.Gf ⟨k1,o1,h1,hin.1,e2,e3⟩;omega
   obtain⟨hS2,hk2,hown⟩:=agS.lay hlen (hro _ _) hnot
   have agT:Keep st (bo::bΩ) (own::Ω) (bo::bΩ):=by rw[<-hst];exact hk1
   have Lc:Step st (bo::bΩ) σ w (own::Ω) (bo::bΩ) σ w':=by rw[<-hst];exact zA
   refine mO (x:=.c (.mD (0,own.length))) (v:=r) hd hR hS2 (agT.trans hk2) ⟨Lc.size,Lc.os,Lc.output,Lc.far,Lc.near,fun b hb=> ?_⟩ ⟨⟨_,dx _ _ _,fun a b e=> ?_⟩,h1c⟩ (.inl rfl) (hrun _ _ hr) h6
   ·rcases hown b hb with q|q
    ·exact Lc.own b q
    ·rcases hbk b q with q2|q2
     ·exact .inl ⟨k,_,_,hk,hβ,q2⟩
     ·exact .inr q2
   ·rw[<-hlen,dx]
 ·exact h.elim
theorem adR{o:Oper}{K:St->Prop}{Q:Exit->Act->World->Prop}{t:TypeId}{n:Nat}{parts:Array (Nat×Operand)}(ho:o.op=.buildSlice t n parts)(hd:∀d,o.dst=some d->d<N)(hR:lN N s a w σ β)
 (h:JL P t s o.dst K (aa8 s.st t) (nval P s.st s.tm (.buildSlice t n parts))):o.wp P a w (Then N s.st β σ w K) Q:=by
 unfold JL at h;split at h
 ·obtain⟨h1,h2⟩:=h;rw[<-ho] at h1 h2;obtain⟨v,w',σ',hrun,hg,hv⟩:=NT o hR.S hR.T h1;exact sj hd hR hg hv hrun h2
 ·rename_i p es hb hr;split at h
  ·rename_i e ht;obtain⟨hp,h6⟩:=h;have hr':o9 P (rE s.st) s.st s.tm (.buildSlice t n parts)=(p,.c (.bn es)):=hr;simp only[o9] at hr'
   cases hlab:rE s.st with
   |some m=>
    rw[hlab] at hr';simp only[nH] at hr';split at hr'<;>cases hr'
   |none=>
    rw[hlab] at hr';simp only[nH,sP,ht] at hr';split at hr'
    ·rename_i es' hes;cases hr';obtain⟨h1,h2,h3⟩:=hp
     obtain⟨ca,hrun,hca,hle,hcells⟩:=E5 (P:=P) (w:=w) (σ:=σ) (S:=s.st) (β:=β) (t:=t) (n:=n) (parts:=parts.toList.map fun x=>(x.1,ev s.tm x.2)) (pv:=parts.toList.map fun x=>(x.1,a.eval x.2)) (by simp)
      (fun j x hx=>by
        rw[List.getElem?_map] at hx ⊢
        cases hc:parts.toList[j]? with
        |none=>rw[hc] at hx;cases hx
        |some y=>rw[hc] at hx;cases hx;exact⟨_,rfl,kW hR.T y.2⟩) ht hes h1 h2 h3
     have hrun':(execOp a.eval o).run P w=.ok (.value (.slice (some ⟨w.heap.size,0,none⟩) n n)) {w with heap:=w.heap.push (.cells ca e)}:=by
      clear h6 hr;obtain⟨dst,op,ty,pos,after,guard⟩:=o;simp only at ho;subst ho;simp[execOp];rw[U9,hrun];rfl
     have hg:=Dc w σ hR.S.live ca e 0
     have hσ0:σ w.heap.size=0:=by
      rcases hR.S.live w.heap.size with h|h
      ·omega
      ·exact h
     obtain⟨tm,st⟩:=s
     cases st with
     |nil=>exact h6.elim
     |cons own Ω=>
      obtain⟨bo,bΩ,rfl,hlen⟩:=frames hR
      obtain⟨hS',hk,hst⟩:=hR.S.push (o:=.gF (P.cellsOf e) es) (h:=.slice (some ⟨w.heap.size,0,none⟩) n n) hg hlen
       ⟨hle,some ⟨w.heap.size,0,none⟩,n,by rw[h1],by omega,.inr ⟨w.heap.size,ca,e,rfl,by simp,by simp,by rw[hca,h1];exact Nat.le_refl _,fun j d hj=>by
         obtain⟨v,hv,hr⟩:=hcells j d hj
         exact⟨v,hv,hr.mono hg.near⟩⟩⟩
       (fun b hb=>by
         simp only[owns,blk] at hb;split at hb
         ·cases hb
         ·cases hb;exact Nat.le_refl _)
      refine mO (x:=.c (.mD (0,own.length))) hd hR hS' hk hst ⟨⟨_,dx _ _ _,fun aW es e=> ?_⟩,rfl⟩ (.inl rfl) hrun' h6;rw[<-hlen,dx]
    ·cases hr'
  ·exact h.elim
 ·exact h.elim
theorem Mj(hw:∀{o:Oper}{K:St->Prop}{Q:Exit->Act->World->Prop},(∀d,o.dst=some d->d<N)->dD P o s K->o.wp P a w (Then N s.st β σ w K) Q){o:Oper}{K:St->Prop}{Q:Exit->Act->World->Prop}(hd:∀d,o.dst=some d->d<N)(hR:lN N s a w σ β)(h:iZ P o s K):o.wp P a w (Then N s.st β σ w K) Q:=by
 unfold iZ at h;split at h
 ·rename_i zy ts ho;split at h
  ·rename_i x y t u hx ht;unfold DC at h;split at h
   ·rename_i k hk;refine Vm (fun r w' hr=> ?_) hd hR hk h;clear h;obtain⟨dst,op,ty,pos,after,guard⟩:=o;simp only at ho;subst ho
    obtain rfl:zy= #[x,y]:=by rw[<-Array.toArray_toList (xs:=zy),hx]
    obtain rfl:ts= #[t,u]:=by rw[<-Array.toArray_toList (xs:=ts),ht]
    simp only at hr;simp[execOp,resolve,invoke,builtin,hr]
   ·refine hw hd ?_;unfold dD;rw[ho];simp only[pq,hx,ht];exact h
  ·exact h.elim
 ·rename_i t n parts ho;exact adR ho hd hR h
 ·exact hw hd h
end
section
variable {P:Program} {w w':World} {σ σ':Nat->Nat} {S:Store} {β β':Hs} {N:Nat} {s:St} {a:Act}
theorem H7{o:Oper}{K:St->Prop}{Q:Exit->Act->World->Prop}(hd:∀d,o.dst=some d->d<N)(hR:lN N s a w σ β)(h:dD P o s K):o.wp P a w (Then N s.st β σ w K) Q:=by
 unfold dD at h;split at h
 ·rename_i t ho;unfold vZ at h;split at h
  ·rename_i zs hz;obtain⟨z,zm,hzc⟩:=yh (w:=w) (σ:=σ) (S:=s.st) (β:=β) hz;refine Oa (v:=z) (t:=t) hd hR hzc (fun ad w' Ob=> ?_) h;obtain⟨dst,op,ty,pos,after,guard⟩:=o;simp only at ho;subst ho;simp[execOp,Instr.alloc,zm,Ob]
  ·exact h.elim
 ·rename_i t x ho;unfold D7 at h;split at h
  ·rename_i cs hcs;refine Oa (v:=a.eval x) (t:=t) hd hR (zn hcs (kW hR.T x)) (fun ad w' Ob=> ?_) h;obtain⟨dst,op,ty,pos,after,guard⟩:=o;simp only at ho;subst ho;simp[execOp,Instr.box,Ob]
  ·exact h.elim
 ·rename_i t x y ho;exact Yl ho hd hR h
 ·rename_i t x y ho;exact aa5 ho hd hR h
 ·rename_i t ho;exact Vh ho hd hR h
 ·rename_i t x y z ho;exact Vi ho hd hR h
 ·rename_i c ho;exact Oc ho hd hR h
 ·obtain⟨h1,h2⟩:=h;obtain⟨v,w',σ',hrun,hg,hv⟩:=NT o hR.S hR.T h1;exact sj hd hR hg hv hrun h2
def gT(R:Array Oper)(j:Nat):Option Nat:=(R[j]?).bind (·.dst)
def wm(P:Program)(R:Array Oper)(o:Oper)(s:St)(K:St->Prop):Prop:=
 match o.guard with
 |none=>iZ P o s K
 |some (j,want)=>
  match(gT R j).map (look s.tm) with
  |some (.c (.d (.b x)))=>(x=want->iZ P o s K)/\(x= !want->K (s.put o.dst (.dN [])))
  |some (.dN [])=>K (s.put o.dst (.dN []))
  |_=>False
def D9(P:Program)(R:Array Oper):List Oper->St->(St->Prop)->Prop
 |[],s,K=>K s
 |o::os,s,K=>wm P R o s fun s'=>D9 P R os s' K
theorem Then.mono{K K':St->Prop}{a':Act}{w':World}(hK:∀s,K s->K' s)(h:Then N S β σ w K a' w'):Then N S β σ w K' a' w':=by
 obtain⟨s',σ',β',h1,h2,h3,h4⟩:=h;exact⟨s',σ',β',h1,h2,h3,hK _ h4⟩
theorem Ea{R:Array Oper}{j:Nat}{x:Bool}(hR:lN N s a w σ β)(h:(gT R j).map (look s.tm)=some (.c (.d (.b x)))):yielded R a.tmps j=some x:=by
 unfold yielded;unfold gT at h
 cases hd:(R[j]?).bind (·.dst) with
 |none=>rw[hd] at h;cases h
 |some d=>
  rw[hd] at h;simp only[Option.map_some,Option.some.injEq] at h;have ht:=hR.T d;rw[h] at ht;obtain⟨ht,_⟩:=ht;simp only[Option.bind_some]
  have hlt:d<a.tmps.size:=by
   rcases Nat.lt_or_ge d a.tmps.size with h|h
   ·exact h
   ·simp[Array.getD,Nat.not_lt.2 h,undef] at ht;cases ht
  have hg:a.tmps.getD d undef=a.tmps[d]:=by simp[Array.getD,hlt]
  rw[hg] at ht;rw[Array.getElem?_eq_getElem hlt];generalize a.tmps[d]=v at ht;cases ht;rfl
theorem Jh{R:Array Oper}{j:Nat}(hR:lN N s a w σ β)(h:(gT R j).map (look s.tm)=some (.dN [])):yielded R a.tmps j=none:=by
 unfold yielded;unfold gT at h
 cases hd:(R[j]?).bind (·.dst) with
 |none=>rw[hd] at h;cases h
 |some d=>
  rw[hd] at h;simp only[Option.map_some,Option.some.injEq] at h;have ht:=hR.T d;rw[h] at ht;obtain⟨ar,hv,_⟩:=ht;simp only[Option.bind_some];by_cases hlt:d<a.tmps.size
  ·have hg:a.tmps.getD d undef=a.tmps[d]:=by simp[Array.getD,hlt]
   rw[hg] at hv;rw[Array.getElem?_eq_getElem hlt,hv]
  ·rw[Array.getElem?_eq_none (Nat.le_of_not_lt hlt)]
theorem R7{o:Oper}{K:St->Prop}(hd:∀d,o.dst=some d->d<N)(hR:lN N s a w σ β)(hK:K (s.put o.dst (.dN []))):Then N s.st β σ w K (a.put o.dst undef) w:=by
 have hr:lN N (St.put ⟨s.tm,s.st⟩ o.dst (.dN [])) (a.put o.dst undef) w σ β:=Dz hd hR.size hR.defers hR.S hR.T yL;have he:(s.put o.dst (.dN [])).st=s.st:=nk o.dst s.tm s.st _;exact⟨_,σ,β,hr,by rw[show(St.put ⟨s.tm,s.st⟩ o.dst (.dN [])).st=s.st from he];exact Step.lX (Grow.refl hR.S.live),by rw[show(St.put ⟨s.tm,s.st⟩ o.dst (.dN [])).st=s.st from he];exact Keep.refl _ _,hK⟩
theorem Ym{R:Array Oper}{o:Oper}{K:St->Prop}{Q:Exit->Act->World->Prop}(hd:∀d,o.dst=some d->d<N)(hR:lN N s a w σ β)(h:wm P R o s K):
 if Region.wanted o (yielded R a.tmps) then o.wp P a w (Then N s.st β σ w K) Q else Then N s.st β σ w K (a.put o.dst undef) w:=by
 unfold wm at h;split at h
 ·rename_i hg;rw[if_pos (by simp[Region.wanted,hg])];exact Mj (fun hd h=>H7 hd hR h) hd hR h
 ·rename_i j want hg;split at h
  ·rename_i x hx;have hy:=Ea hR hx;by_cases e:x=want
   ·rw[if_pos (by simp[Region.wanted,hg,hy,e])];exact Mj (fun hd h=>H7 hd hR h) hd hR (h.1 e)
   ·rw[if_neg (by simp[Region.wanted,hg,hy,e])];exact R7 hd hR (h.2 (by cases x<;>cases want<;>simp_all))
  ·rename_i hx;have hy:=Jh hR hx;rw[if_neg (by simp[Region.wanted,hg,hy])];exact R7 hd hR h
  ·exact h.elim
theorem Od{R:Array Oper}{K:St->Prop}{S0:Store}{β0:Hs}{σ0:Nat->Nat}{w0:World}{Q:Exit->Act->World->Prop}(hQ:∀a w,Then N S0 β0 σ0 w0 K a w->Q .normal a w):
 ∀(n k:Nat),k+n=R.size->(∀o∈R.toList,∀d,o.dst=some d->d<N)->∀(s:St)(a:Act)(w:World)(σ:Nat->Nat)(β:Hs),lN N s a w σ β->Step S0 β0 σ0 w0 s.st β σ w->Keep S0 β0 s.st β->
  D9 P R (R.toList.drop k) s K->wpOps P R Q (List.range' k n) a w
 |0,k,hk,_,s,a,w,σ,β,hR,hst,hkp,h=>by
  have:R.toList.drop k=[]:=by apply List.drop_eq_nil_of_le;simp;omega
  rw[this] at h;exact hQ a w ⟨s,σ,β,hR,hst,hkp,h⟩
 |n+1,k,hk,hd,s,a,w,σ,β,hR,hst,hkp,h=>by
  have hlt:k<R.toList.length:=by simp;omega
  rw[List.drop_eq_getElem_cons hlt] at h;have hg:=Ym (Q:=Q) (fun d e=>hd _ (List.getElem_mem hlt) d e) hR h;rw[List.range'_succ]
  have hRk:R[k]? =some R.toList[k]:=by
   rw[Array.getElem?_eq_getElem (by omega)];simp
  simp only[wpOps,hRk]
  have next:∀a' w',Then N s.st β σ w (fun s'=>D9 P R (R.toList.drop (k+1)) s' K) a' w'->wpOps P R Q (List.range' (k+1) n) a' w':=by
   rintro a' w' ⟨s',σ',β',hR',hst',Ar,hK'⟩;exact Od hQ n (k+1) (by omega) hd s' a' w' σ' β' hR' (hst.trans hst') (hkp.trans Ar) hK'
  split
  ·rename_i hw;rw[if_pos hw] at hg;exact .inl (Oper.wp_mono next hg)
  ·rename_i hw;rw[if_neg hw] at hg
   exact next _ _ hg
def iq{α:Type}(l:List α):List α:=l.drop 1
def AW(P:Program)(N:Nat)(c:Code)(Q:Exit->St->Prop)(s:St):Prop:=
 ∀(a:Act)(w:World)(σ:Nat->Nat)(β:Hs),lN N s a w σ β->
  c.wp P (fun e a' w'=>∃s' σ' β',lN N s' a' w' σ' β'/\Step s.st β σ w s'.st β' σ' w'/\Keep (iq s.st) (iq β) (iq s'.st) (iq β')/\Q e s') a w
theorem AW.mono{c:Code}{Q Q':Exit->St->Prop}(h:AW P N c Q s)(hq:∀e s,Q e s->Q' e s):AW P N c Q' s:=fun a w σ β hR=>
 wp_mono (h a w σ β hR) fun e a' w' ⟨s',σ',β',h1,h2,h3,h4⟩=>⟨s',σ',β',h1,h2,h3,hq _ _ h4⟩
def lG(K:St->Prop)(Q:Exit->St->Prop):Exit->St->Prop
 | .normal,s=>K s
 |e,s=>Q e s
def zB(id:Nat)(Q:Exit->St->Prop):Exit->St->Prop
 | .exit id',s=>if id'=id then Q .normal s else Q (.exit id') s
 |e,s=>Q e s
theorem JM{x y:Code}{Q:Exit->St->Prop}(h:AW P N x (lG (AW P N y Q) Q) s):AW P N (.seq x y) Q s:=by
 intro a w σ β hR;refine wp_seq (wp_mono (h a w σ β hR) ?_);rintro e a' w' ⟨s',σ',β',h1,h2,h3,h4⟩
 cases e with
 |normal=>
  show y.wp P _ a' w';refine wp_mono (h4 a' w' σ' β' h1) ?_;rintro e a'' w'' ⟨s'',DV,β'',k1,k2,k3,k4⟩;exact⟨s'',DV,β'',k1,h2.trans k2,h3.trans k3,k4⟩
 |_=>exact⟨s',σ',β',h1,h2,h3,h4⟩
theorem Vn{c:Code}{e:Exit}{Q:Exit->St->Prop}(hc:∀{Q':Exit->Act->World->Prop}{a:Act}{w:World},Q' e a w->c.wp P Q' a w)(h:Q e s):AW P N c Q s:=
 fun a w σ β hR=>hc ⟨s,σ,β,hR,Step.lX (Grow.refl hR.S.live),Keep.refl _ _,h⟩
theorem akx{Q:Exit->St->Prop}(h:Q .normal s):AW P N .skip Q s:=Vn wp_skip h
theorem aky{id:Nat}{Q:Exit->St->Prop}(h:Q (.exit id) s):AW P N (.exit id) Q s:=Vn wp_exit h
theorem amv{Q:Exit->St->Prop}(h:Q .ret s):AW P N .ret Q s:=Vn wp_ret h
theorem Ld{c:Operand}{x y:Code}{b:Bool}{Q:Exit->St->Prop}(hc:ev s.tm c=.c (.d (.b b)))(ht:b=true->AW P N x Q s)(hf:b=false->AW P N y Q s):AW P N (.cond c x y) Q s:=by
 intro a w σ β hR;have hv:=kW hR.T c;rw[hc] at hv;obtain⟨hv,_⟩:=hv;generalize he:a.eval c=v at hv;cases hv;refine Go.wp_cond he ?_
 cases b with
 |true=>exact ht rfl a w σ β hR
 |false=>exact hf rfl a w σ β hR
theorem H8{id:Nat}{c:Code}{Q:Exit->St->Prop}(h:AW P N c (zB id Q) s):AW P N (.block id c) Q s:=by
 intro a w σ β hR;refine wp_block (wp_mono (h a w σ β hR) ?_);rintro e a' w' ⟨s',σ',β',h1,h2,h3,h4⟩
 cases e with
 |exit id'=>
  show if id'=id then _ else _
  simp only[zB] at h4;split
  ·rename_i e;rw[if_pos e] at h4;exact⟨s',σ',β',h1,h2,h3,h4⟩
  ·rename_i e;rw[if_neg e] at h4;exact⟨s',σ',β',h1,h2,h3,h4⟩
 |_=>exact⟨s',σ',β',h1,h2,h3,h4⟩
theorem Keep.tail{S S':Store}{β β':Hs}(h:Keep S β S' β'):Keep (iq S) (iq β) (iq S') (iq β'):=h.drop 1
theorem adS{id:Nat}{R:Array Oper}{Q:Exit->St->Prop}(hd:R.toList.all (fun o=>match o.dst with|some d=>decide (d<N)|none=>true)=true)(h:D9 P R R.toList s (Q .normal)):AW P N (.region id R false) Q s:=by
 intro a w σ β hR;refine wp_region ?_;rw[List.range_eq_range'];refine Od (S0:=s.st) (β0:=β) (σ0:=σ) (w0:=w) (K:=Q .normal) (fun a' w' ht=> ?_) R.size 0 (by omega) (fun o ho d e=> ?_) s a w σ β hR (Step.lX (Grow.refl hR.S.live)) (Keep.refl _ _) h
 ·obtain⟨s',σ',β',h1,h2,h3,h4⟩:=ht;exact⟨s',σ',β',h1,h2,h3.tail,h4⟩
 ·have:=List.all_eq_true.1 hd o ho;rw[e] at this;simpa using this
theorem QI{ι:Type}{c:Code}{Q:Exit->St->Prop}(I:ι->St->Prop)(μ:ι->Nat)(i0:ι)(h0:I i0 s)
 (round:∀i s,I i s->AW P N c (lG (fun s'=>∃j,μ j<μ i/\I j s') Q) s):AW P N (.loop c) Q s:=by
 intro a w σ β hR
 have key:∀(n:Nat)(i:ι)(s':St)(a':Act)(w':World)(σ':Nat->Nat)(β':Hs),μ i<n->I i s'->lN N s' a' w' σ' β'->Step s.st β σ w s'.st β' σ' w'->Keep (iq s.st) (iq β) (iq s'.st) (iq β')->
  Code.rounds P c (fun e a' w'=>∃s' σ' β',lN N s' a' w' σ' β'/\Step s.st β σ w s'.st β' σ' w'/\Keep (iq s.st) (iq β) (iq s'.st) (iq β')/\Q e s') n a' w':=by
  intro n
  induction n with
  |zero=>intro i s' a' w' σ' β' h;omega
  |succ n ih=>
   intro i s' a' w' σ' β' hn hI hR' hst hkp;refine wp_mono (round i s' hI a' w' σ' β' hR') ?_;rintro e a'' w'' ⟨s'',DV,β'',k1,k2,k3,k4⟩
   cases e with
   |normal=>
    obtain⟨j,hj,hIj⟩:=k4;exact ih j s'' a'' w'' DV β'' (by omega) hIj k1 (hst.trans k2) (hkp.trans k3)
   |_=>exact⟨s'',DV,β'',k1,hst.trans k2,hkp.trans k3,k4⟩
 exact wp_loop_rounds (μ i0+1) (key (μ i0+1) i0 s a w σ β (by omega) h0 hR (Step.lX (Grow.refl hR.S.live)) (Keep.refl _ _))
end
def pz:List V->Nat->List (Nat×V)
 |[],_=>[]
 |v::vs,i=>(i,v)::pz vs (i+1)
def C.ret:C->Option C
 | .bB (0,_) es=>some (.d (.sl es))
 |c=>c.down 1
def Le(y:Bool×List C):Option (Bool×List C):=(y.2.mapM C.ret).map fun cs=>(y.1,cs)
def V.ret:V->Option V
 | .c x=>(x.ret).map .c
 | .agg cs=>(cs.mapM C.ret).map .agg
 | .dN xs=>(xs.mapM Le).map .dN
 | .any=>some .any
def zC(P:Program)(s:St):ResultVar->R
 | .tmp t=>(True,look s.tm t)
 | .cell a t=>Db P s.st t (look s.tm a)
def Oe:V->Option (Bool×List C)
 | .c x=>some (false,[x])
 | .agg cs=>some (true,cs)
 |_=>none
def rG(P:Program)(s:St):List ResultVar->Prop×Option (List (Bool×List C))
 |[]=>(True,some [])
 |x::xs=>((zC P s x).1/\(rG P s xs).1,(Oe (zC P s x).2).bind fun y=>(rG P s xs).2.map fun ys=>y::ys)
def vQ(P:Program)(rs:List ResultVar)(s:St):R:=
 match rs with
 |[x]=>zC P s x
 |xs=>match(rG P s xs).2 with
  |some ys=>((rG P s xs).1,.dN ys)
  |none=>no
def agU(P:Program)(rs:List ResultVar)(post:V->Store->Prop)(e:Exit)(s:St):Prop:=
 match e with
 | .normal| .ret=>(vQ P rs s).1/\match(vQ P rs s).2.ret with
   |some r=>post r (iq s.st)
   |none=>False
 |_=>False
section
variable {P:Program} {w w':World} {σ σ':Nat->Nat} {S:Store} {β β':Hs} {N:Nat} {s:St} {a:Act}
theorem Vo{cs:List C}{vs:List Value}(n:Nat)(h:gL w σ (S.drop n) (β.drop n) cs vs):gL w σ S β (cs.map (C.up n)) vs:=
 ⟨by simpa using h.1,fun j x hx=>by
   rw[List.getElem?_map] at hx
   cases hc:cs[j]? with
   |none=>rw[hc] at hx;cases hx
   |some y=>
    rw[hc] at hx;cases hx;obtain⟨v,hv,hr,ho⟩:=h.2 j y hc
    exact⟨v,hv,hr.up n,ho⟩⟩
theorem QJ{x:V}{v:Value}(n:Nat)(h:dS w σ (S.drop n) (β.drop n) x v):dS w σ S β (x.up n) v:=by
 cases x with
 |c x=>exact⟨h.1.up n,h.2⟩
 |agg cs=>obtain⟨ar,ha,hc⟩:=h;exact⟨ar,ha,Vo n hc⟩
 |dN xs=>
  obtain⟨ar,ha,hl,h2⟩:=h;refine⟨ar,ha,by simpa using hl,fun j y hy=> ?_⟩;rw[List.getElem?_map] at hy
  cases hc:xs[j]? with
  |none=>rw[hc] at hy;cases hy
  |some z=>
   rw[hc] at hy;cases hy;obtain⟨u,hu,h3⟩:=h2 j z hc;refine⟨u,hu,?_⟩;obtain⟨b,cs⟩:=z
   cases b with
   |true=>obtain⟨a',e,hcs⟩:=h3;exact⟨a',e,Vo n hcs⟩
   |false=>obtain⟨x,e,hx,ho⟩:=h3;subst e;exact⟨_,rfl,hx.up n,ho⟩
 |any=>exact trivial
theorem MV{c c':C}{v:Value}(h:c.ret=some c')(hc:lC w σ S β c v):lC w σ (S.drop 1) (β.drop 1) c' v:=by
 unfold C.ret at h;split at h
 ·cases h;exact hc.1
 ·exact Va h hc
theorem R8{xs ys:List C}{vs:List Value}(h:xs.mapM C.ret=some ys)(hc:gL w σ S β xs vs):gL w σ (S.drop 1) (β.drop 1) ys vs:=by
 induction xs generalizing ys vs with
 |nil=>simp at h;subst h;exact⟨hc.1,fun j d hd=>by simp at hd⟩
 |cons x xs ih=>
  rw[List.mapM_cons] at h
  cases hd:C.ret x with
  |none=>rw[hd] at h;simp at h
  |some y=>
   cases hm:xs.mapM C.ret with
   |none=>rw[hd,hm] at h;simp at h
   |some ys'=>
    rw[hd,hm] at h;simp at h;subst h
    cases vs with
    |nil=>have:=hc.1;simp at this
    |cons v vs=>
     obtain⟨l,r⟩:=ih hm (vs:=vs) ⟨by have:=hc.1;simpa using this,fun j y hy=>hc.2 (j+1) y hy⟩;refine⟨by simp[l],fun j e he=> ?_⟩
     cases j with
     |zero=>
      simp at he;subst he;obtain⟨u,hu,hr,ho⟩:=hc.2 0 x rfl;simp at hu;subst hu;exact⟨v,rfl,MV hd hr,ho⟩
     |succ j=>exact r j e he
theorem Vp{α γ:Type}(f:α->Option γ):∀(xs:List α)(ys:List γ),xs.mapM f=some ys->ys.length=xs.length/\∀(j:Nat)(y:γ),ys[j]? =some y->∃x,xs[j]? =some x/\f x=some y
 |[],ys,h=>by simp at h;subst h;exact⟨rfl,fun j y hy=>by simp at hy⟩
 |x::xs,ys,h=>by
  rw[List.mapM_cons] at h
  cases hd:f x with
  |none=>rw[hd] at h;simp at h
  |some y=>
   cases hm:xs.mapM f with
   |none=>rw[hd,hm] at h;simp at h
   |some ys'=>
    rw[hd,hm] at h;simp at h;subst h;obtain⟨l,r⟩:=Vp f xs ys' hm;refine⟨by simp[l],fun j e he=> ?_⟩
    cases j with
    |zero=>simp at he;subst he;exact⟨x,rfl,hd⟩
    |succ j=>exact r j e he
theorem Vq{x y:V}{v:Value}(h:x.ret=some y)(hx:dS w σ S β x v):dS w σ (S.drop 1) (β.drop 1) y v:=by
 cases x with
 |c x=>
  simp only[V.ret] at h
  cases hc:x.ret with
  |none=>rw[hc] at h;cases h
  |some c=>rw[hc] at h;cases h;exact⟨MV hc hx.1,hx.2⟩
 |agg cs=>
  simp only[V.ret] at h
  cases hc:cs.mapM C.ret with
  |none=>rw[hc] at h;cases h
  |some c=>rw[hc] at h;cases h;obtain⟨ar,ha,h2⟩:=hx;exact⟨ar,ha,R8 hc h2⟩
 |dN xs=>
  simp only[V.ret] at h
  cases hc:xs.mapM Le with
  |none=>rw[hc] at h;cases h
  |some ys=>
   rw[hc] at h;cases h;obtain⟨ar,ha,hl,h2⟩:=hx;obtain⟨l,r⟩:=Vp _ _ _ hc;refine⟨ar,ha,by rw[l];exact hl,fun j y hy=> ?_⟩;obtain⟨z,hz,hzy⟩:=r j y hy;obtain⟨u,hu,h3⟩:=h2 j z hz;refine⟨u,hu,?_⟩;obtain⟨b,cs⟩:=z;simp only[Le] at hzy
   cases hm:cs.mapM C.ret with
   |none=>rw[hm] at hzy;cases hzy
   |some cs'=>
    rw[hm] at hzy;cases hzy
    cases b with
    |true=>obtain⟨a',e,hcs⟩:=h3;exact⟨a',e,R8 hm hcs⟩
    |false=>
     obtain⟨x,e,hx,ho⟩:=h3;subst e;rw[List.mapM_cons] at hm
     cases hx':C.ret x with
     |none=>rw[hx'] at hm;simp at hm
     |some x'=>
      rw[hx'] at hm;simp at hm;exact⟨x',hm.symm,MV hx' hx,ho⟩
 |any=>cases h;exact trivial
theorem Z4{x:ResultVar}(hR:lN N s a w σ β)(h:(zC P s x).1):
 ∃v,(match x with| .tmp t=>pure (a.tmps.getD t undef)| .cell b t=>do loadVar t (<-asAddr (a.tmps.getD b undef)):Sem Value).run P w=.ok v w/\dS w σ s.st β (zC P s x).2 v:=by
 cases x with
 |tmp t=>exact⟨_,rfl,hR.T t⟩
 |cell b t=>
  obtain⟨v,hrun,hv⟩:=RV (P:=P) (t:=t) hR.S (hR.T b) h;refine⟨v,?_,hv⟩;show(do loadVar t (<-asAddr (a.tmps.getD b undef)):Sem Value).run P w=.ok v w;generalize a.tmps.getD b undef=bv at hrun ⊢
  cases bv with
  |pointer o=>
   cases o with
   |none=>simp[Instr.loadAt,Instr.sureAddr] at hrun
   |some ad=>simpa [Instr.loadAt,Instr.sureAddr,asAddr] using hrun
  |_=>simp[Instr.loadAt,Instr.sureAddr] at hrun
theorem agV{x:V}{y:Bool×List C}{v:Value}(h:Oe x=some y)(hx:dS w σ S β x v):Qx w σ S β y v:=by
 cases x with
 |c x=>cases h;exact⟨x,rfl,hx.1,hx.2⟩
 |agg cs=>cases h;exact hx
 |dN=>cases h
 |any=>cases h
theorem Z5(hR:lN N s a w σ β):∀(xs:List ResultVar)(ys:List (Bool×List C)),(rG P s xs).1->(rG P s xs).2=some ys->
 ∃vs:List Value,(xs.mapM fun x=>(match x with| .tmp t=>pure (a.tmps.getD t undef)| .cell b t=>do loadVar t (<-asAddr (a.tmps.getD b undef)):Sem Value)).run P w=.ok vs w/\ys.length=vs.length/\
  ∀(j:Nat)(y:Bool×List C),ys[j]? =some y->∃u,vs[j]? =some u/\Qx w σ s.st β y u
 |[],ys,_,h=>by simp only[rG] at h;cases h;exact⟨[],by simp,rfl,fun j y hy=>by simp at hy⟩
 |x::xs,ys,h1,h2=>by
  simp only[rG] at h1 h2
  cases hc:Oe (zC P s x).2 with
  |none=>rw[hc] at h2;cases h2
  |some y=>
   cases hr:(rG P s xs).2 with
   |none=>rw[hc,hr] at h2;cases h2
   |some ys'=>
    rw[hc,hr] at h2;cases h2;obtain⟨v,hv,hrep⟩:=Z4 (P:=P) (x:=x) hR h1.1;obtain⟨vs,hvs,hl,hj⟩:=Z5 hR xs ys' h1.2 hr;refine⟨v::vs,?_,by simp[hl],fun j z hz=> ?_⟩
    ·rw[List.mapM_cons];simp only[Sem.run_bind,Result.andThen_ok,Sem.run_pure];rw[hv];simp only[Result.andThen_ok];rw[hvs];rfl
    ·cases j with
     |zero=>simp at hz;subst hz;exact⟨v,rfl,agV hc hrep⟩
     |succ j=>exact hj j z hz
theorem R9{fn:Func}(hR:lN N s a w σ β)(h:(vQ P fn.results.toList s).1):∃v,(results fn a.tmps).run P w=.ok v w/\dS w σ s.st β (vQ P fn.results.toList s).2 v:=by
 have hres:fn.results=fn.results.toList.toArray:=by simp
 have hrun:∀vs:List Value,(fn.results.toList.mapM fun x=>(match x with| .tmp t=>pure (a.tmps.getD t undef)| .cell b t=>do loadVar t (<-asAddr (a.tmps.getD b undef)):Sem Value)).run P w=.ok vs w->
  (results fn a.tmps).run P w=.ok (if h:vs.toArray.size=1 then vs.toArray[0] else .tuple vs.toArray) w:=by
  intro vs hvs;unfold results;rw[hres,List.mapM_toArray];simp only[Sem.run_bind,Sem.run_map];have:(fun x=>(match x with| .tmp t=>pure (a.tmps.getD t undef)| .cell b t=>do loadVar t (<-asAddr (a.tmps.getD b undef)):Sem Value))=fun(x:ResultVar)=>(match x with| .tmp t=>pure (a.tmps.getD t undef)| .cell b t=>do loadVar t (<-asAddr (a.tmps.getD b undef)):Sem Value):=rfl
  erw [hvs]
  rfl
 unfold vQ at h ⊢;split at h
 ·rename_i x hx;rw[hx] at hrun;obtain⟨v,hv,hrep⟩:=Z4 (P:=P) (x:=x) hR h;refine⟨v,?_,hrep⟩
  have:=hrun [v] (by
   rw[List.mapM_cons];simp only[Sem.run_bind,List.mapM_nil,Result.andThen_ok,Sem.run_pure]
   rw[hv];rfl)
  simpa using this
 ·rename_i hne;split at h
  ·rename_i ys hys;obtain⟨vs,hvs,hl,hj⟩:=Z5 (P:=P) hR _ ys h hys;have h1:=hrun vs hvs
   have hlen:¬(vs.toArray.size=1):=by
    intro e
    have hl2:ys.length=fn.results.toList.length:=by
     clear hj hvs h1 hrun hne e hl h;generalize fn.results.toList=l at hys
     induction l generalizing ys with
     |nil=>simp only[rG] at hys;cases hys;rfl
     |cons x xs ih=>
      simp only[rG] at hys
      cases hc:Oe (zC P s x).2 with
      |none=>rw[hc] at hys;cases hys
      |some y=>
       cases hr:(rG P s xs).2 with
       |none=>rw[hc,hr] at hys;cases hys
       |some ys'=>rw[hc,hr] at hys;cases hys;simp[ih ys' hr]
    simp at e
    have:fn.results.toList.length=1:=by omega
    obtain⟨x,hx⟩:=List.length_eq_one_iff.1 this;exact hne x hx
   rw[dif_neg hlen] at h1;exact⟨_,h1,vs.toArray,rfl,by simpa using hl,fun j y hy=>by simpa using hj j y hy⟩
  ·exact h.elim
theorem fH.ajW{own:List Obj}{Ω:Store}{bo:List Value}{bΩ:Hs}(h:fH w σ (own::Ω) (bo::bΩ)):fH w σ Ω bΩ:=by
 refine⟨fun k o ho=> ?_,fun k k' o o' h1 h2 b e1 e2 e3 e4 e5 e6=> ?_,⟨by have:=h.shape.1;simpa using this,fun l fr hl=>h.shape.2 (l+1) fr hl⟩,h.live,h.vO⟩
 ·obtain⟨l,j⟩:=k;obtain⟨hv,hh,hr⟩:=h.obj (l+1,j) o (by rw[dA];exact ho);rw[dA] at hh;exact⟨hv,hh,hr⟩
 ·obtain⟨l,j⟩:=k;obtain⟨l',j'⟩:=k';have:=h.apart (l+1,j) (l'+1,j') o o' h1 h2 b (by rw[dA];exact e1) (by rw[dA];exact e2) e3 (by rw[dA];exact e4) (by rw[dA];exact e5) e6;cases this;rfl
theorem fH.up1(h:fH w σ S β):fH w σ ([]::S) ([]::β):=by
 refine⟨fun k o ho=> ?_,fun k k' o o' h1 h2 b e1 e2 e3 e4 e5 e6=> ?_,⟨by simp[h.shape.1],fun l fr hl=> ?_⟩,h.live,h.vO⟩
 ·obtain⟨l,j⟩:=k
  cases l with
  |zero=>rw[bR] at ho;simp at ho
  |succ l=>
   rw[dA] at ho;obtain⟨hv,hh,hr⟩:=h.obj (l,j) o ho;exact⟨hv,by rw[dA];exact hh,hr⟩
 ·obtain⟨l,j⟩:=k;obtain⟨l',j'⟩:=k'
  cases l with
  |zero=>rw[bR] at e1;simp at e1
  |succ l=>
   cases l' with
   |zero=>rw[bR] at e4;simp at e4
   |succ l'=>
    rw[dA] at e1 e2 e4 e5;have:=h.apart (l,j) (l',j') o o' h1 h2 b e1 e2 e3 e4 e5 e6;cases this;rfl
 ·cases l with
  |zero=>simp at hl;subst hl;exact⟨[],rfl,rfl⟩
  |succ l=>exact h.shape.2 l fr hl
theorem Lf{b:Nat}(h:Own ([]::S) ([]::β) b):Own S β b:=by
 obtain⟨⟨l,j⟩,o,hv,h1,h2,h3⟩:=h
 cases l with
 |zero=>rw[bR] at h1;simp at h1
 |succ l=>rw[dA] at h1 h2;exact⟨(l,j),o,hv,h1,h2,h3⟩
theorem Sb{own:List Obj}{Ω:Store}{bo:List Value}{bΩ:Hs}{b:Nat}(h:Own Ω bΩ b):Own (own::Ω) (bo::bΩ) b:=by
 obtain⟨⟨l,j⟩,o,hv,h1,h2,h3⟩:=h;exact⟨(l+1,j),o,hv,by rw[dA];exact h1,by rw[dA];exact h2,h3⟩
theorem H9:∀(args:List V)(i t:Nat),look (pz args i) t=if i<=t then(args[t-i]?).getD .any else .any
 |[],i,t=>by simp[pz,look]
 |v::args,i,t=>by
  rw[pz,look,H9 args (i+1) t];by_cases h1:i=t
  ·subst h1;simp
  ·rw[if_neg h1];by_cases h2:i+1<=t
   ·rw[if_pos h2,if_pos (by omega)];rw[show t-i=(t-(i+1))+1 from by omega];rfl
   ·rw[if_neg h2,if_neg (by omega)]
theorem qW{f:FuncId}{fn:Func}{c:Code}{args:List V}{post:V->Store->Prop}(hf:P.funcs[f]? =some fn)(hb:fn.body=some c)(hn:(fn.name== "runtime.NumGoroutine")=false)
 (hl:args.length<=fn.ntmps)(h:AW P fn.ntmps c (agU P fn.results.toList post) ⟨pz (args.map (V.up 1)) 0,[]::S⟩):dw P f args S post:=by
 refine⟨⟨fn,hf,hn,by simp[hb]⟩,fun w σ β vs hS hargs=> ?_⟩;refine calls_of_wp hf hb ?_;have hlen:vs.length=args.length:=hargs.1.symm
 have agW:lN fn.ntmps ⟨pz (args.map (V.up 1)) 0,[]::S⟩ {tmps:=vs.toArray++Array.replicate (fn.ntmps-vs.toArray.size) undef,defers:=[]} w σ ([]::β):=by
  refine⟨by simp;omega,rfl,hS.up1,fun t=> ?_⟩;show dS w σ ([]::S) ([]::β) (look (pz (args.map (V.up 1)) 0) t) _;rw[H9,if_pos (Nat.zero_le _),Nat.sub_zero,List.getElem?_map]
  cases ha:args[t]? with
  |none=>exact trivial
  |some x=>
   obtain⟨v,hv,hr⟩:=hargs.2 t x ha;have ht:=(List.getElem?_eq_some_iff.1 hv).1
   have:(vs.toArray++Array.replicate (fn.ntmps-vs.toArray.size) undef).getD t undef=v:=by
    rw[Array.getD_eq_getD_getElem?,Array.getElem?_append_left (by simpa using ht)];simp[hv]
   rw[this];exact QJ (S:=[]::S) (β:=[]::β) 1 hr
 refine wp_mono (h _ w σ ([]::β) agW) ?_;rintro e a' w' ⟨s',σ',β',hR,hst,hkp,hq⟩
 have main:(vQ P fn.results.toList s').1/\(match(vQ P fn.results.toList s').2.ret with|some r=>post r (iq s'.st)|none=>False)->
  a'.defers=[]/\∃v,(results fn a'.tmps).run P w'=.ok v w'/\∃v_1 r S' σ' β',Ending.returned v=Ending.returned v_1/\fH w' σ' S' β'/\Keep S β S' β'/\Step S β σ w S' β' σ' w'/\dS w' σ' S' β' r v_1/\post r S':=by
  rintro⟨q1,q2⟩;obtain⟨v,hv,hrep⟩:=R9 (fn:=fn) hR q1;split at q2
  ·rename_i r hr;obtain⟨tm,st⟩:=s';have aoA:=Vq hr hrep;refine⟨hR.defers,v,hv,v,r,iq st,σ',iq β',rfl,?_,hkp,?_,aoA,q2⟩
   ·cases st with
    |nil=>
     cases β' with
     |nil=>exact hR.S
     |cons=>have:=hR.S.shape.1;simp at this
    |cons own Ω=>
     cases β' with
     |nil=>have:=hR.S.shape.1;simp at this
     |cons bo bΩ=>exact hR.S.ajW
   ·refine⟨hst.size,hst.os,hst.output,fun b hb ho=>hst.far b hb (fun x=>ho (Lf x)),hst.near,fun b hb=> ?_⟩
    cases st with
    |nil=>obtain⟨k,o,hv,h1,_⟩:=hb;simp[iq,uz] at h1
    |cons own Ω=>
     cases β' with
     |nil=>obtain⟨k,o,hv,h1,h2,_⟩:=hb;simp[iq,uz] at h2
     |cons bo bΩ=>exact(hst.own b (Sb hb)).imp Lf id
  ·exact q2.elim
 cases e with
 |normal=>exact main hq
 |ret=>exact main hq
 |_=>exact hq.elim
end
def tQ:Op->Bool
 | .alloc _=>true
 | .box _ _=>true
 | .store _ _ _=>true
 | .makeSlice _ _ _=>true
 | .makeMap _ none=>true
 | .mapUpdate _ _ _ _=>true
 | .call {callee:=.builtin .append,args:=_,argTypes:=_}=>true
 |_=>false
def Au:Op->Bool
 | .store _ _ _=>true
 | .mapUpdate _ _ _ _=>true
 |_=>false
def kJ:Op->Bool
 | .call {callee:=.value _,args:=_,argTypes:=_}=>true
 |_=>false
abbrev Md:=Op->Nat
def gD(E:Md)(op:Op):Bool:=tQ op||(decide (1<=E op)&&kJ op)
def l8(E:Md)(op:Op):Bool:=Au op||(decide (2<=E op)&&kJ op)
theorem agX{E:Md}{op:Op}(h:tQ op=true):gD E op=true:=by simp[gD,h]
theorem adT{E:Md}{op:Op}(h:l8 E op=true):gD E op=true:=by
 unfold l8 gD at *
 rw[Bool.or_eq_true] at h ⊢;refine h.imp (fun hs=> ?_) (fun h=> ?_)
 ·cases op<;>first|rfl|simp[Au] at hs
 ·rw[Bool.and_eq_true,decide_eq_true_eq] at h ⊢;exact⟨by omega,h.2⟩
def DS(S S':Store):Prop:=∀k o,bA S k=some o->bA S' k=some o\/((∃z es,uD o z es)/\∃o' z es,bA S' k=some o'/\uD o' z es)
def Ia(P:Program)(tm:List (Nat×V))(c:Call)(r:V):Prop:=
 match c.callee with
 | .value x=>match ev tm x with
   | .c (.fn f caps)=>aC P f (c.args.toList.map (ev tm)++caps.map fun y=>.c (.ptr y.1 y.2)) r
   |_=>False
 |_=>False
def gG(P:Program)(E:Md)(o:Oper)(s:St)(K:St->Prop):Prop:=
 if tQ o.op then dD P o s K else
 match o.op with
 | .call {callee:=.value x,args,argTypes}=>match E (.call {callee:=.value x,args,argTypes}) with
   |0=>∃r,Ia P s.tm {callee:=.value x,args,argTypes} r/\K (s.put o.dst r)
   |1=>∃S' v,DS s.st S'/\dD P o s (fun t=>t=St.put ⟨s.tm,S'⟩ o.dst v)/\K (St.put ⟨s.tm,S'⟩ o.dst v)
   |_=>∃S' v,dD P o s (fun t=>t=St.put ⟨s.tm,S'⟩ o.dst v)/\K (St.put ⟨s.tm,S'⟩ o.dst v)
 |op=>(nval P s.st s.tm op).1/\K (s.put o.dst (nval P s.st s.tm op).2)
def rC(P:Program)(E:Md)(R:Array Oper)(o:Oper)(s:St)(K:St->Prop):Prop:=
 match o.guard with
 |none=>gG P E o s K
 |some (j,want)=>
  match(gT R j).map (look s.tm) with
  |some (.c (.d (.b x)))=>(x=want->gG P E o s K)/\(x= !want->K (s.put o.dst (.dN [])))
  |some (.dN [])=>K (s.put o.dst (.dN []))
  |_=>False
def uH(P:Program)(E:Md)(R:Array Oper):List Oper->St->(St->Prop)->Prop
 |[],s,K=>K s
 |o::os,s,K=>rC P E R o s fun s'=>uH P E R os s' K
def NV(P:Program)(S:Store)(tm:List (Nat×V))(op:Op)(v:V):Prop:=
 (∃c,op=.call c/\Ia P tm c v)\/((nval P S tm op).1/\v=(nval P S tm op).2)
def gd(R:Array Oper)(o:Oper)(tm:List (Nat×V)):Option Bool:=
 match o.guard with
 |none=>some true
 |some (j,want)=>
  match(gT R j).map (look tm) with
  |some (.c (.d (.b x)))=>some (x==want)
  |some (.dN [])=>some false
  |_=>none
def nN(P:Program)(E:Md)(R:Array Oper)(o:Oper)(s:St)(v:V)(s':St):Prop:=
 (gd R o s.tm=some false/\v=.dN []/\s'=s.put o.dst v)\/
 (gd R o s.tm=some true/\gD E o.op=false/\NV P s.st s.tm o.op v/\s'=s.put o.dst v)\/
 (gd R o s.tm=some true/\gD E o.op=true/\dD P o s (fun t=>t=s')/\s'=St.put ⟨s.tm,s'.st⟩ o.dst v/\(tQ o.op=false->l8 E o.op=false->DS s.st s'.st))
section
variable {P:Program} {w w':World} {σ σ':Nat->Nat} {S S':Store} {β β':Hs} {N:Nat} {s:St} {a:Act}
theorem wu{dst:Option Nat}{o:Obj}{mk:Key->V}{K:St->Prop}(h:newObj s dst o mk K):∃S' v,newObj s dst o mk (fun t=>t=St.put ⟨s.tm,S'⟩ dst v)/\K (St.put ⟨s.tm,S'⟩ dst v):=by
 unfold newObj at h ⊢;split at h
 ·rename_i own Ω hst;exact⟨_,_,rfl,h⟩
 ·exact h.elim
theorem akz{l:Option Nat}{es x:List (List D)}{z:Nat}{dst:Option Nat}{K:St->Prop}(h:D8 l es s dst z x K):∃S' v,D8 l es s dst z x (fun t=>t=St.put ⟨s.tm,S'⟩ dst v)/\K (St.put ⟨s.tm,S'⟩ dst v):=by
 cases l with
 |none=>exact wu (o:=.tok z x) (mk:=fun k=>.c (.bB k x)) h
 |some n=>
  cases es with
  |nil=>exact⟨s.st,_,rfl,h⟩
  |cons y es=>exact wu (o:=.tok z x) (mk:=fun k=>.c (.bB k x)) h
theorem akA{b:Bool}{n:Nat}{x:List (List D)}{z:Nat}{dst:Option Nat}{K:St->Prop}(h:FR b n s dst z x K):∃S' v,FR b n s dst z x (fun t=>t=St.put ⟨s.tm,S'⟩ dst v)/\K (St.put ⟨s.tm,S'⟩ dst v):=by
 cases b with
 |false=>exact wu (o:=.eu n z x) (mk:=fun k=>.c (.bB k x)) h
 |true=>exact⟨s.st,_,rfl,h⟩
theorem agY{o:Oper}{K:St->Prop}(hD:tQ o.op=true)(h:dD P o s K):∃S' v,dD P o s (fun t=>t=St.put ⟨s.tm,S'⟩ o.dst v)/\K (St.put ⟨s.tm,S'⟩ o.dst v):=by
 obtain⟨dst,op,ty,pos,after,guard⟩:=o
 cases op with
 |alloc t=>
  simp only[dD,vZ] at h ⊢;split at h
  ·exact wu h
  ·exact h.elim
 |box t x=>
  simp only[dD,D7] at h ⊢;split at h
  ·exact wu h
  ·exact h.elim
 |makeSlice t l c=>
  simp only[dD,zq] at h ⊢;split at h
  ·split at h
   ·obtain⟨h1,h2,h3,h4,h5,h6⟩:=h;obtain⟨S',v,k1,k2⟩:=wu h6;exact⟨S',v,⟨h1,h2,h3,h4,h5,k1⟩,k2⟩
   ·exact h.elim
  ·exact h.elim
 |store t x y=>
  simp only[dD,wh] at h ⊢;split at h
  ·split at h
   ·obtain⟨h1,h2,h3,h4⟩:=h;exact⟨_,_,⟨h1,h2,h3,rfl⟩,h4⟩
   ·exact h.elim
  ·split at h
   ·obtain⟨h1,h2,h3,h4,h5⟩:=h;exact⟨_,_,⟨h1,h2,h3,h4,rfl⟩,h5⟩
   ·exact h.elim
  ·split at h
   ·split at h
    ·split at h
     ·obtain⟨h1,h2,h3,h4,h5,h6⟩:=h;exact⟨_,_,⟨h1,h2,h3,h4,h5,rfl⟩,h6⟩
     ·exact h.elim
    ·exact h.elim
   ·exact h.elim
  ·exact h.elim
 |makeMap t r=>
  cases r with
  |none=>
   simp only[dD,vF] at h ⊢;exact wu h
  |some r=>simp[tQ] at hD
 |mapUpdate t x y z=>
  simp only[dD,vG] at h ⊢;split at h
  ·split at h
   ·exact⟨_,_,rfl,h⟩
   ·exact h.elim
  ·exact h.elim
 |call c=>
  obtain⟨BF,args,zw⟩:=c
  cases BF with
  |builtin b=>
   cases b with
   |append=>
    simp only[dD,pq] at h ⊢;split at h
    ·simp only[tO] at h ⊢;split at h
     ·obtain⟨h1,h2,h3,h4⟩:=h;split at h4
      ·split at h4
       ·obtain⟨k1,k2,k3,k4⟩:=h4;exact⟨_,_,⟨h1,h2,h3,k1,k2,k3,rfl⟩,k4⟩
       ·obtain⟨k1,k2,k3,k4⟩:=h4;exact⟨_,_,⟨h1,h2,h3,k1,k2,k3,rfl⟩,k4⟩
       ·exact h4.elim
      ·obtain⟨k1,k2,k3⟩:=h4;obtain⟨S',v,l1,l2⟩:=akz k3;exact⟨S',v,⟨h1,h2,h3,k1,k2,l1⟩,l2⟩
      ·obtain⟨k1,k2,k3⟩:=h4;obtain⟨S',v,l1,l2⟩:=akA k3;exact⟨S',v,⟨h1,h2,h3,k1,k2,l1⟩,l2⟩
      ·exact h4.elim
     ·exact h.elim
    ·exact h.elim
   |_=>simp[tQ] at hD
  |_=>simp[tQ] at hD
 |_=>simp[tQ] at hD
theorem adU{tm tm':List (Nat×V)}{dst:Option Nat}{o:Obj}{mk:Key->V}{v:V}(h:newObj ⟨tm,S⟩ dst o mk (fun t=>t=St.put ⟨tm,S'⟩ dst v))(hd:dst≠none):
 newObj ⟨tm',S⟩ dst o mk (fun t=>t=St.put ⟨tm',S'⟩ dst v):=by
 unfold newObj at h ⊢
 cases S with
 |nil=>exact h
 |cons own Ω=>
  cases dst with
  |none=>exact absurd rfl hd
  |some d=>
   simp only[St.put,St.mk.injEq,List.cons.injEq,Prod.mk.injEq,and_true,true_and] at h ⊢;exact h
theorem abb{tm tm':List (Nat×V)}{o:Obj}{mk:Key->V}{v:V}(h:newObj ⟨tm,S⟩ none o mk (fun t=>t=St.put ⟨tm,S'⟩ none v)):
 newObj ⟨tm',S⟩ none o mk (fun t=>t=St.put ⟨tm',S'⟩ none v):=by
 unfold newObj at h ⊢
 cases S with
 |nil=>exact h
 |cons own Ω=>
  simp only[St.put,St.mk.injEq,true_and] at h ⊢;exact h
theorem uI{tm tm':List (Nat×V)}{dst:Option Nat}{o:Obj}{mk:Key->V}{v:V}(h:newObj ⟨tm,S⟩ dst o mk (fun t=>t=St.put ⟨tm,S'⟩ dst v)):
 newObj ⟨tm',S⟩ dst o mk (fun t=>t=St.put ⟨tm',S'⟩ dst v):=by
 cases dst with
 |none=>exact abb h
 |some d=>exact adU h (by simp)
theorem xQ{tm tm':List (Nat×V)}{dst:Option Nat}{S1 S2:Store}{v v':V}(h:St.put ⟨tm,S1⟩ dst v=St.put ⟨tm,S2⟩ dst v'):St.put ⟨tm',S1⟩ dst v=St.put ⟨tm',S2⟩ dst v':=by
 cases dst with
 |none=>simp only[St.put,St.mk.injEq,true_and] at h ⊢;exact h
 |some d=>simp only[St.put,St.mk.injEq,List.cons.injEq,Prod.mk.injEq,and_true,true_and] at h ⊢;exact h
theorem agZ{l:Option Nat}{es x:List (List D)}{z:Nat}{tm tm':List (Nat×V)}{dst:Option Nat}{v:V}(h:D8 l es ⟨tm,S⟩ dst z x (fun t=>t=St.put ⟨tm,S'⟩ dst v)):
 D8 l es ⟨tm',S⟩ dst z x (fun t=>t=St.put ⟨tm',S'⟩ dst v):=by
 cases l with
 |none=>exact uI (o:=.tok z x) (mk:=fun k=>.c (.bB k x)) h
 |some n=>
  cases es with
  |nil=>exact xQ h
  |cons y es=>exact uI (o:=.tok z x) (mk:=fun k=>.c (.bB k x)) h
theorem ag0{b:Bool}{n:Nat}{x:List (List D)}{z:Nat}{tm tm':List (Nat×V)}{dst:Option Nat}{v:V}(h:FR b n ⟨tm,S⟩ dst z x (fun t=>t=St.put ⟨tm,S'⟩ dst v)):
 FR b n ⟨tm',S⟩ dst z x (fun t=>t=St.put ⟨tm',S'⟩ dst v):=by
 cases b with
 |false=>exact uI (o:=.eu n z x) (mk:=fun k=>.c (.bB k x)) h
 |true=>exact xQ h
theorem ag1{o:Oper}{tm tm':List (Nat×V)}{v:V}(hD:tQ o.op=true)(he:∀x∈o.op.operands,ev tm x=ev tm' x)(h:dD P o ⟨tm,S⟩ (fun t=>t=St.put ⟨tm,S'⟩ o.dst v)):
 dD P o ⟨tm',S⟩ (fun t=>t=St.put ⟨tm',S'⟩ o.dst v):=by
 obtain⟨dst,op,ty,pos,after,guard⟩:=o
 cases op with
 |alloc t=>
  simp only[dD,vZ] at h ⊢;split at h
  ·exact uI h
  ·exact h.elim
 |box t x=>
  have e1:=he x (by simp[Op.operands]);simp only[dD,D7,e1] at h ⊢;split at h
  ·exact uI h
  ·exact h.elim
 |makeSlice t l c=>
  have e1:=he l (by simp[Op.operands]);have e2:=he c (by simp[Op.operands]);simp only[dD,zq,e1,e2] at h ⊢;split at h
  ·split at h
   ·obtain⟨h1,h2,h3,h4,h5,h6⟩:=h;exact⟨h1,h2,h3,h4,h5,uI h6⟩
   ·exact h.elim
  ·exact h.elim
 |store t x y=>
  have e1:=he x (by simp[Op.operands]);have e2:=he y (by simp[Op.operands]);simp only[dD,wh,e1,e2] at h ⊢;split at h
  ·split at h
   ·obtain⟨h1,h2,h3,h4⟩:=h;exact⟨h1,h2,h3,xQ h4⟩
   ·exact h.elim
  ·split at h
   ·obtain⟨h1,h2,h3,h4,h5⟩:=h;exact⟨h1,h2,h3,h4,xQ h5⟩
   ·exact h.elim
  ·split at h
   ·split at h
    ·split at h
     ·obtain⟨h1,h2,h3,h4,h5,h6⟩:=h;exact⟨h1,h2,h3,h4,h5,xQ h6⟩
     ·exact h.elim
    ·exact h.elim
   ·exact h.elim
  ·exact h.elim
 |makeMap t r=>
  cases r with
  |none=>
   simp only[dD,vF] at h ⊢;exact uI h
  |some r=>simp[tQ] at hD
 |mapUpdate t x y z=>
  have e1:=he x (by simp[Op.operands]);have e2:=he y (by simp[Op.operands]);have e3:=he z (by simp[Op.operands]);simp only[dD,vG,e1,e2,e3] at h ⊢;split at h
  ·split at h
   ·exact xQ h
   ·exact h.elim
  ·exact h.elim
 |call c=>
  obtain⟨BF,args,zw⟩:=c
  cases BF with
  |builtin b=>
   cases b with
   |append=>
    simp only[dD,pq] at h ⊢;split at h
    ·rename_i x y t u hxy htu
     have hargs:args= #[x,y]:=by rw[<-Array.toArray_toList (xs:=args),hxy]
     have e1:=he x (by simp[Op.operands,Call.operands,hargs]);have e2:=he y (by simp[Op.operands,Call.operands,hargs]);simp only[tO,e1,e2] at h ⊢;split at h
     ·obtain⟨h1,h2,h3,h4⟩:=h;refine⟨h1,h2,h3,?_⟩;split at h4
      ·split at h4
       ·obtain⟨k1,k2,k3,k4⟩:=h4;exact⟨k1,k2,k3,xQ k4⟩
       ·obtain⟨k1,k2,k3,k4⟩:=h4;exact⟨k1,k2,k3,xQ k4⟩
       ·exact h4.elim
      ·obtain⟨k1,k2,k3⟩:=h4;exact⟨k1,k2,agZ k3⟩
      ·obtain⟨k1,k2,k3⟩:=h4;exact⟨k1,k2,ag0 k3⟩
      ·exact h4.elim
     ·exact h.elim
    ·exact h.elim
   |_=>simp[tQ] at hD
  |_=>simp[tQ] at hD
 |_=>simp[tQ] at hD
theorem ag2{f:FuncId}{args:List V}{tm tm':List (Nat×V)}{dst:Option Nat}{v:V}(h:Bc P f args ⟨tm,S⟩ dst (fun t=>t=St.put ⟨tm,S'⟩ dst v)):Bc P f args ⟨tm',S⟩ dst (fun t=>t=St.put ⟨tm',S'⟩ dst v):=by
 rcases h with⟨post,h1,h2⟩|⟨r,h1,h2⟩
 ·exact .inl ⟨post,h1,fun r UW hp=>xQ (h2 r UW hp)⟩
 ·exact .inr ⟨r,h1,xQ h2⟩
theorem ag3{E:Md}{o:Oper}{tm tm':List (Nat×V)}{v:V}(hD:gD E o.op=true)(he:∀x∈o.op.operands,ev tm x=ev tm' x)(h:dD P o ⟨tm,S⟩ (fun t=>t=St.put ⟨tm,S'⟩ o.dst v)):
 dD P o ⟨tm',S⟩ (fun t=>t=St.put ⟨tm',S'⟩ o.dst v):=by
 by_cases hd:tQ o.op=true
 ·exact ag1 hd he h
 ·have hc:kJ o.op=true:=by
   unfold gD at hD;rw[Bool.or_eq_true,Bool.and_eq_true] at hD;rcases hD with h|h
   ·exact absurd h hd
   ·exact h.2
  obtain⟨dst,op,ty,pos,after,guard⟩:=o
  cases op with
  |call c=>
   obtain⟨BF,args,zw⟩:=c
   cases BF with
   |value x=>
    have h1:args.toList.map (ev tm)=args.toList.map (ev tm'):=List.map_congr_left fun y hy=>he y (by simp[Op.operands,Call.operands];exact .inr (by simpa using hy));have h2:ev tm x=ev tm' x:=he x (by simp[Op.operands,Call.operands]);simp only[dD,pq,h1,h2] at h ⊢;split at h
    ·exact ag2 h
    ·exact h.elim
   |_=>simp[kJ] at hc
  |_=>simp[kJ] at hc
theorem akB{tm tm':List (Nat×V)}{op:Op}(he:∀x∈op.operands,ev tm x=ev tm' x):nval P S tm op=nval P S tm' op:=by
 unfold nval o9
 split<;>try rfl
 ·rw[he _ (by simp[Op.operands])]
 ·rw[he _ (by simp[Op.operands])]
 ·rename_i c x y;rw[he c (by simp[Op.operands]),he x (by simp[Op.operands]),he y (by simp[Op.operands])]
 ·rw[he _ (by simp[Op.operands])]
 ·rw[he _ (by simp[Op.operands])]
 ·rw[he _ (by simp[Op.operands])]
 ·rename_i t x i;rw[he x (by simp[Op.operands]),he i (by simp[Op.operands])]
 ·rename_i t x i;rw[he x (by simp[Op.operands]),he i (by simp[Op.operands])]
 ·rename_i op t x y _;rw[he x (by simp[Op.operands]),he y (by simp[Op.operands])]
 ·rw[he _ (by simp[Op.operands])]
 ·rw[he _ (by simp[Op.operands])]
 ·rw[he _ (by simp[Op.operands])]
 ·rename_i fn first caps
  have h1:first.toList.map (ev tm)=first.toList.map (ev tm'):=List.map_congr_left fun x hx=>he x (by simp[Op.operands];exact .inl (by simpa using hx))
  have h2:caps.toList.map (ev tm)=caps.toList.map (ev tm'):=List.map_congr_left fun x hx=>he x (by simp[Op.operands];exact .inr (by simpa using hx));rw[h1,h2]
 ·rw[he _ (by simp[Op.operands])]
 ·rename_i t x lo hi mx;rw[he x (by simp[Op.operands])]
  have h1:lo.map (ev tm)=lo.map (ev tm'):=by
   cases lo with
   |none=>rfl
   |some y=>simp[he y (by simp[Op.operands])]
  have h2:hi.map (ev tm)=hi.map (ev tm'):=by
   cases hi with
   |none=>rfl
   |some y=>simp[he y (by simp[Op.operands])]
  have h3:mx.map (ev tm)=mx.map (ev tm'):=by
   cases mx with
   |none=>rfl
   |some y=>simp[he y (by simp[Op.operands])]
  rw[h1,h2,h3]
 ·rename_i t parts
  have h1:(parts.toList.map fun x=>(x.1,ev tm x.2))=parts.toList.map fun x=>(x.1,ev tm' x.2):=List.map_congr_left fun x hx=>by
   rw[he x.2 (by simp only[Op.operands,List.mem_toArray,List.mem_map];exact⟨x,hx,rfl⟩)]
  rw[h1]
 ·rename_i t n parts
  have h1:(parts.toList.map fun x=>(x.1,ev tm x.2))=parts.toList.map fun x=>(x.1,ev tm' x.2):=List.map_congr_left fun x hx=>by
   rw[he x.2 (by simp only[Op.operands,List.mem_toArray,List.mem_map];exact⟨x,hx,rfl⟩)]
  rw[h1]
 ·rename_i t x i;rw[he x (by simp[Op.operands]),he i (by simp[Op.operands])]
 ·rename_i args zw;split
  ·rename_i x t hx ht
   have hargs:args= #[x]:=by rw[<-Array.toArray_toList (xs:=args),hx]
   rw[he x (by simp[Op.operands,Call.operands,hargs])]
  ·rfl
 ·rename_i args zw;split
  ·rename_i x y hx
   have hargs:args= #[x,y]:=by rw[<-Array.toArray_toList (xs:=args),hx]
   rw[he x (by simp[Op.operands,Call.operands,hargs]),he y (by simp[Op.operands,Call.operands,hargs])]
  ·rfl
 ·rename_i args zw;split
  ·rename_i x y hx
   have hargs:args= #[x,y]:=by rw[<-Array.toArray_toList (xs:=args),hx]
   rw[he x (by simp[Op.operands,Call.operands,hargs]),he y (by simp[Op.operands,Call.operands,hargs])]
  ·rfl
theorem ag4{tm tm':List (Nat×V)}{c:Call}{v:V}(he:∀x∈c.operands,ev tm x=ev tm' x)(h:Ia P tm c v):Ia P tm' c v:=by
 unfold Ia at h ⊢;obtain⟨BF,args,zw⟩:=c
 cases BF with
 |value x=>
  simp only at h ⊢;rw[<-he x (by simp[Call.operands])];have h1:args.toList.map (ev tm)=args.toList.map (ev tm'):=List.map_congr_left fun y hy=>he y (by simp[Call.operands];exact .inr (by simpa using hy));rw[<-h1];exact h
 |_=>exact h
def Vr:Obj->Prop
 | .box _=>True
 | .gF _ _=>True
 | .mp _=>True
 | .xf _=>True
 |_=>False
def Lg(v:V)(k:Key):Prop:=(∃off,v=.c (.ptr k off))\/(∃i off,v=.c (.nL k i off))\/v=.c (.mD k)\/v=.c (.mp k)\/(∃r p,v=.c (.xp k r p))\/∃r p z i off,v=.c (.xq k r p z i off)
def Fix(S S':Store):Prop:=∀k o,bA S k=some o->Vr o->bA S' k=some o
theorem iO{q:Prop}(h:no.1):q:=h.elim
theorem ag5{l:Option Nat}{tm:List (Nat×V)}{op:Op}(h:(o9 P l S tm op).1)
 (hf:∀x∈op.operands,∀k,Lg (ev tm x) k->
   ∀o,bA S k=some o->Vr o->bA S' k=some o):o9 P l S' tm op=o9 P l S tm op:=by
 unfold o9 at h ⊢
 split at h<;>try rfl
 ·rename_i t x;have hf:=hf x (by simp[Op.operands]);unfold Db at h ⊢;split at h
  ·rfl
  ·split at h
   ·rename_i hx;simp only[hx]
   ·rename_i k off hx;split at h
    ·rename_i cs hk;rw[hf k (.inl ⟨off,hx⟩) _ hk trivial]
    ·exact iO h
   ·rename_i k i off hx;split at h
    ·rename_i aW es hk;rw[hf k (.inr (.inl ⟨i,off,hx⟩)) _ hk trivial]
    ·exact iO h
   ·rename_i k r p z i off hx;split at h
    ·rename_i rs hk;rw[hf k (.inr (.inr (.inr (.inr (.inr ⟨r,p,z,i,off,hx⟩))))) _ hk trivial]
    ·exact iO h
   ·exact iO h
 ·rename_i t x f;have hf:=hf x (by simp[Op.operands]);unfold uE at h ⊢;split at h
  ·split at h
   ·split at h
    ·exact iO h
    ·rename_i fs hs _ fd hfd hne;split at h
     ·rename_i hx;simp[hs,hfd,hne,hx]
     ·rename_i k off hx;split at h
      ·rename_i cs hk;simp only[hs,hfd,hne,if_false,hx,hf k (.inl ⟨off,hx⟩) _ hk trivial,hk]
      ·exact iO h
     ·rename_i k i off hx;split at h
      ·rename_i aW es hk;simp only[hs,hfd,hne,if_false,hx,hf k (.inr (.inl ⟨i,off,hx⟩)) _ hk trivial,hk]
      ·exact iO h
     ·rename_i k r p z i off hx;split at h
      ·rename_i rs hk;simp only[hs,hfd,hne,if_false,hx,hf k (.inr (.inr (.inr (.inr (.inr ⟨r,p,z,i,off,hx⟩))))) _ hk trivial,hk]
      ·exact iO h
     ·exact iO h
   ·exact iO h
  ·exact iO h
 ·rename_i t x i;have hf:=hf x (by simp[Op.operands]);unfold uF at h ⊢;split at h
  ·rename_i e k n' n ht hx hi;split at h
   ·rename_i aW es hk;simp only[ht,hx,hi,hf k (.inr (.inr (.inl hx))) _ hk trivial,hk]
   ·exact iO h
  ·rename_i len e k off n' n ht hx hi;split at h
   ·rename_i cs hk;simp only[ht,hx,hi,hf k (.inl ⟨off,hx⟩) _ hk trivial,hk]
   ·exact iO h
  ·rename_i e k r p n' n ht hx hi;split at h
   ·rename_i rs hk;simp only[ht,hx,hi,hf k (.inr (.inr (.inr (.inr (.inl ⟨r,p,hx⟩))))) _ hk trivial,hk]
   ·exact iO h
  ·rename_i e y n' n hy hy2 ht hx hi;simp only[ht,hx,hi]
  ·exact iO h
 ·rename_i x;have hf:=hf x (by simp[Op.operands]);unfold yJ at h ⊢;split at h
  ·rename_i k off hx;split at h
   ·rename_i cs hk;simp only[hx,hf k (.inl ⟨off,hx⟩) _ hk trivial,hk]
   ·exact iO h
  ·rename_i hx;simp only[hx]
  ·exact iO h
 ·rename_i t x i;have hf:=hf x (by simp[Op.operands]);unfold Ap at h ⊢;split at h
  ·rename_i kt et k l ht BD hi;split at h
   ·rename_i m hk hkt hz;simp only[ht,BD,hi,hf k (.inr (.inr (.inr (.inl BD)))) _ hk trivial,hk,hkt,hz]
   ·exact iO h
  ·exact iO h
 ·rename_i args zw;split at h
  ·rename_i x t hx ht
   have hargs:args= #[x]:=by rw[<-Array.toArray_toList (xs:=args),hx]
   have hf:=hf x (by simp[Op.operands,Call.operands,hargs]);unfold Hw at h ⊢;split at h
   ·rename_i l Og BD;simp only[Og,BD]
   ·rename_i n e Og;simp only[Og]
   ·rename_i e k Og BD;split at h
    ·rename_i aW es hk;simp only[Og,BD,hf k (.inr (.inr (.inl BD))) _ hk trivial,hk]
    ·exact iO h
   ·rename_i e k r p Og BD;split at h
    ·rename_i rs hk;simp only[Og,BD,hf k (.inr (.inr (.inr (.inr (.inl ⟨r,p,BD⟩))))) _ hk trivial,hk]
    ·exact iO h
   ·rename_i e y hy hy2 Og BD;simp only[Og,BD]
   ·exact iO h
  ·exact iO h
end
def yt(acc:List Nat):List Edge->Nat
 |[]=>0
 |e::es=>(if Region.binds .any e then 2^e.on ||| acc.getD e.on 0 else 0) ||| yt acc es
def masks:List Oper->List Nat->List Nat
 |[],acc=>acc
 |o::os,acc=>masks os (acc++[yt acc o.after.toList])
def clash(E:Md)(R:Array Oper)(x y:Oper):Bool:= !(x.apart R y)||(gD E x.op&&gD E y.op)||l8 E x.op||l8 E y.op
def BG(E:Md)(R:Array Oper)(N:Nat):Bool:=
 (List.range R.size).all fun j=>
   (match R[j]? with
    |some o=>o.after.toList.all (fun e=> !Region.binds .any e||decide (e.on<j))&&(match o.dst with|some d=>decide (d<N)|none=>true)
    |none=>true)&&
   (List.range j).all fun i=>
     match R[i]?,R[j]? with
     |some x,some y=>((masks R.toList []).getD j 0).testBit i|| !(clash E R x y)
     |_,_=>true
def uJ(R:Array Oper)(i j:Nat):Bool:=if i<j then((masks R.toList []).getD j 0).testBit i else((masks R.toList []).getD i 0).testBit j
def oF(E:Md)(R:Array Oper)(x y:Oper):Bool:= !(x.apart R y)||(gD E x.op&&gD E y.op)
def settled(R:Array Oper)(i:Nat):Operand->Bool
 | .tmp t=>(List.range R.size).all fun n=>decide (n<i)|| !(gT R n==some t)
 |_=>true
def uY(R:Array Oper)(i:Nat)(x:Oper)(j:Nat)(y:Oper):Bool:=kJ y.op||match x.op with
 | .store _ a _=>settled R i a&&y.op.operands.toList.all (settled R j)
 |_=>false
def Gq(E:Md)(R:Array Oper)(N:Nat):Bool:=
 (List.range R.size).all fun j=>
   (match R[j]? with
    |some o=>o.after.toList.all (fun e=> !Region.binds .any e||decide (e.on<j))&&(match o.dst with|some d=>decide (d<N)|none=>true)
    |none=>true)&&
   (List.range j).all fun i=>
     match R[i]?,R[j]? with
     |some x,some y=>((masks R.toList []).getD j 0).testBit i|| !(oF E R x y||(l8 E x.op&& !(uY R i x j y))||(l8 E y.op&& !(uY R j y i x)))
     |_,_=>true
def abd(v w:V):Bool:=
 match w with
 | .c (.ptr k _)=>(match v with| .c (.ptr k' _)=>k'.2 !=k.2| .c (.nL k' _ _)=>k'.2 !=k.2|_=>false)
 | .c (.nL k _ _)=>(match v with| .c (.ptr k' _)=>k'.2 !=k.2| .c (.nL k' _ _)=>k'.2 !=k.2|_=>false)
 | .c (.mD k)=>(match v with| .c (.ptr k' _)=>k'.2 !=k.2| .c (.nL k' _ _)=>k'.2 !=k.2|_=>false)
 | .c (.mp k)=>(match v with| .c (.ptr k' _)=>k'.2 !=k.2| .c (.nL k' _ _)=>k'.2 !=k.2|_=>false)
 | .c (.xp _ _ _)=>false
 | .c (.xq _ _ _ _ _ _)=>false
 |_=>true
def Lh(E:Md)(R:Array Oper)(tm:List (Nat×V)):Bool:=
 (List.range R.size).all fun i=>match R[i]? with
   |some x=> !(l8 E x.op)||match x.op with
    | .store _ a _=>(List.range R.size).all fun j=>match R[j]? with
      |some y=>uJ R i j||gD E y.op||kJ y.op||y.op.operands.toList.all (fun z=>abd (ev tm a) (ev tm z))
      |none=>true
    |_=>true
   |none=>true
def QK(R:Array Oper)(i:Nat):Bool:=
 (List.range R.size).all fun j=>decide (j=i)||(if j<i then((masks R.toList []).getD i 0).testBit j else((masks R.toList []).getD j 0).testBit i)
def BH:Op->Option FuncId
 | .call {callee:=.value (.func f),args:=_,argTypes:=_}=>some f
 |_=>none
def Bd(R:Array Oper)(m:Nat):Md:=fun op=>if(List.range R.size).all (fun i=>match R[i]? with
 |some o=>(BH op !=BH o.op)||QK R i
 |none=>true) then 2 else m
def Av:Op->Bool
 | .alloc _=>true
 |_=>false
def JN(E:Md)(R:Array Oper)(p:Nat):Bool:=match R[p]? with
 |some o=>Av o.op&&o.guard.isNone&&o.dst.isSome&&(List.range R.size).all fun j=>match R[j]? with
  |some y=>decide (j=p)||y.apart R o||(List.range p).all fun i=>match R[i]? with
   |some x=> !(gD E x.op)||(decide (i<j)&&((masks R.toList []).getD j 0).testBit i)
   |none=>true
  |none=>true
 |none=>true
def adV(E:Md)(R:Array Oper)(p j:Nat)(x y:Oper):Bool:= !(x.apart R y)||(!(decide (j=p))&&((gD E x.op&&gD E y.op)||l8 E x.op||l8 E y.op))
def Gs(E:Md)(R:Array Oper)(N p:Nat):Bool:=
 JN E R p&&(List.range R.size).all fun j=>
  (match R[j]? with
   |some o=>o.after.toList.all (fun e=> !Region.binds .any e||decide (e.on<j))&&(match o.dst with|some d=>decide (d<N)|none=>true)
   |none=>true)&&
  (List.range j).all fun i=>
    match R[i]?,R[j]? with
    |some x,some y=>((masks R.toList []).getD j 0).testBit i|| !(adV E R p j x y)
    |_,_=>true
def Ib(E:Md)(R:Array Oper)(N p:Nat):Bool:=
 JN E R p&&(List.range R.size).all fun j=>
  (match R[j]? with
   |some o=>o.after.toList.all (fun e=> !Region.binds .any e||decide (e.on<j))&&(match o.dst with|some d=>decide (d<N)|none=>true)
   |none=>true)&&
  (List.range j).all fun i=>
    match R[i]?,R[j]? with
    |some x,some y=>((masks R.toList []).getD j 0).testBit i|| !(!(x.apart R y)||(!(decide (j=p))&&((gD E x.op&&gD E y.op)||(l8 E x.op&& !(uY R i x j y))||(l8 E y.op&& !(uY R j y i x)))))
    |_,_=>true
def ag6(R:Array Oper)(p i:Nat):Bool:=
 (List.range R.size).all fun j=>decide (j=i)||decide (j=p)||(if j<i then((masks R.toList []).getD i 0).testBit j else((masks R.toList []).getD j 0).testBit i)
def Oh(R:Array Oper)(p:Nat):Md:=fun op=>if(List.range R.size).all (fun i=>match R[i]? with
 |some o=>(BH op !=BH o.op)||ag6 R p i
 |none=>true) then 2 else 0
def MW(R:Array Oper)(p:Nat):Bool:=match R[p]? with
 |some o=>Av o.op
 |none=>false
def pOf(R:Array Oper)(N:Nat):Option Nat:=(List.range R.size).find? fun p=>MW R p&&Gs (Oh R p) R N p
def amx(R:Array Oper)(N:Nat):Option Nat:=(List.range R.size).find? fun p=>MW R p&&Ib (Oh R p) R N p
def Oi(R:Array Oper)(N:Nat):Md:=if BG (Bd R 1) R N then Bd R 1 else match pOf R N with
 |some p=>Oh R p
 |none=>if BG (Bd R 0) R N then Bd R 0 else fun _=>0
def QL(R:Array Oper)(N:Nat):Bool:=BG (Oi R N) R N||match pOf R N with
 |some p=>Gs (Oi R N) R N p
 |none=>false
def uZ(R:Array Oper)(N:Nat):Md:=if Gq (Bd R 1) R N then Bd R 1 else match amx R N with
 |some p=>Oh R p
 |none=>if Gq (Bd R 0) R N then Bd R 0 else fun _=>0
def Ic(R:Array Oper)(N:Nat):Bool:=Gq (uZ R N) R N||match amx R N with
 |some p=>Ib (uZ R N) R N p
 |none=>false
section
variable {P:Program} {E:Md} {w w':World} {σ σ':Nat->Nat} {S S':Store} {β β':Hs} {N:Nat} {s:St} {a:Act} {R:Array Oper}
theorem JO:∀(l:List Oper)(acc:List Nat)(i:Nat),i<acc.length->(masks l acc)[i]? =acc[i]?
 |[],acc,i,h=>rfl
 |o::os,acc,i,h=>by rw[masks,JO os _ i (by simp;omega),List.getElem?_append_left h]
theorem Vs:∀(l:List Oper)(acc:List Nat)(i:Nat)(o:Oper),l[i]? =some o->
 ∃acc',(∀j,j<acc.length+i->acc'[j]? =(masks l acc)[j]?)/\acc'.length=acc.length+i/\(masks l acc)[acc.length+i]? =some (yt acc' o.after.toList)
 |[],acc,i,o,h=>by simp at h
 |x::os,acc,0,o,h=>by
  simp at h;subst h;refine⟨acc,fun j hj=> ?_,by simp,?_⟩
  ·rw[masks,JO os _ j (by simp;omega),List.getElem?_append_left (by omega)]
  ·rw[masks,Nat.add_zero,JO os _ _ (by simp),List.getElem?_append_right (Nat.le_refl _)];simp
 |x::os,acc,i+1,o,h=>by
  obtain⟨acc',h1,h2,h3⟩:=Vs os (acc++[yt acc x.after.toList]) i o (by simpa using h);refine⟨acc',fun j hj=> ?_,by rw[h2];simp;omega,?_⟩
  ·rw[masks];exact h1 j (by simp;omega)
  ·rw[masks,<-h3];congr 1;simp;omega
theorem JQ{acc:List Nat}{k:Nat}:∀(es:List Edge),(yt acc es).testBit k=true->∃e∈es,Region.binds .any e=true/\(e.on=k\/(acc.getD e.on 0).testBit k=true)
 |[],h=>by simp[yt] at h
 |e::es,h=>by
  rw[yt,Nat.testBit_or,Bool.or_eq_true] at h;rcases h with h|h
  ·by_cases hb:Region.binds .any e=true
   ·rw[if_pos hb,Nat.testBit_or,Bool.or_eq_true] at h;refine⟨e,by simp,hb,?_⟩;rcases h with h|h
    ·left;rw[Nat.testBit_two_pow] at h;simpa using h
    ·exact .inr h
   ·rw[if_neg hb] at h;simp at h
  ·obtain⟨e',he',h'⟩:=JQ es h;exact⟨e',by simp[he'],h'⟩
theorem E9(E:Nat->Prop)(hE:∀i o e,R[i]? =some o->E i->e∈o.after->Region.binds .any e=true->E e.on)(hlt:∀i o e,R[i]? =some o->e∈o.after->Region.binds .any e=true->e.on<i):
 ∀(i:Nat)(o:Oper),R[i]? =some o->(∀e∈o.after,Region.binds .any e=true->E e.on)->∀k,((masks R.toList []).getD i 0).testBit k=true->E k:=by
 intro i
 induction i using Nat.strongRecOn with
 |_ i ih=>
  intro o ho hed k hk;obtain⟨acc',h1,h2,h3⟩:=Vs R.toList [] i o (by simpa using ho);simp only[List.length_nil,Nat.zero_add] at h1 h2 h3;rw[List.getD_eq_getElem?_getD,h3] at hk;obtain⟨e,he,hb,hek⟩:=JQ _ hk
  have he':e∈o.after:=by simpa using he
  rcases hek with rfl|hek
  ·exact hed e he' hb
  ·have hon:=hlt i o e ho he' hb;have aqm:=hed e he' hb;have hilt:i<R.size:=(Array.getElem?_eq_some_iff.1 ho).1;have hsome:R[e.on]? =some R[e.on]:=Array.getElem?_eq_getElem (by omega);refine ih e.on hon _ hsome (fun e2 he2 hb2=>hE e.on _ e2 hsome aqm he2 hb2) k ?_;rw[List.getD_eq_getElem?_getD,h1 e.on (by omega)] at hek;rw[List.getD_eq_getElem?_getD];exact hek
def mZ(R:Array Oper)(vs:Nat->V)(E:Nat->Bool)(base:List (Nat×V)):Nat->Nat->V
 |0,t=>look base t
 |k+1,t=>if E k=true/\gT R k=some t then vs k else mZ R vs E base k t
theorem FU{vs:Nat->V}{E:Nat->Bool}{base:List (Nat×V)}{t i:Nat}:∀(n:Nat),(∀j,j<n->gT R j=some t->(E j=true<->j<i))->
 mZ R vs E base n t=mZ R vs (fun _=>true) base (min n i) t
 |0,_=>by simp[mZ]
 |n+1,h=>by
  have ih:=FU (vs:=vs) (base:=base) n (fun j hj hd=>h j (by omega) hd);rw[mZ];by_cases hd:gT R n=some t
  ·by_cases hE:E n=true
   ·have hni:=(h n (by omega) hd).1 hE;rw[if_pos ⟨hE,hd⟩,show min (n+1) i=n+1 from by omega,mZ,if_pos ⟨rfl,hd⟩]
   ·have hni:¬n<i:=fun hn=>hE ((h n (by omega) hd).2 hn);rw[if_neg (fun x=>hE x.1),ih,show min (n+1) i=min n i from by omega]
  ·rw[if_neg (fun x=>hd x.2),ih];by_cases hni:n<i
   ·rw[show min (n+1) i=n+1 from by omega,show min n i=n from by omega,mZ,if_neg (fun x=>hd x.2)]
   ·rw[show min (n+1) i=min n i from by omega]
theorem Bf{vs:Nat->V}{E E':Nat->Bool}{base:List (Nat×V)}{t:Nat}:∀(n:Nat),(∀j,j<n->gT R j=some t->E j=E' j)->mZ R vs E base n t=mZ R vs E' base n t
 |0,_=>rfl
 |n+1,h=>by
  rw[mZ,mZ,Bf n (fun j hj hd=>h j (by omega) hd)];by_cases hd:gT R n=some t
  ·rw[h n (by omega) hd]
  ·rw[if_neg (fun x=>hd x.2),if_neg (fun x=>hd x.2)]
theorem Ie{vs:Nat->V}{E:Nat->Bool}{base:List (Nat×V)}{t i:Nat}(hi:E i=true)(hd:gT R i=some t):∀(n:Nat),i<n->(∀j,j<n->i<j->gT R j=some t->E j=false)->mZ R vs E base n t=vs i
 |0,h,_=>by omega
 |n+1,h,hj=>by
  rw[mZ];by_cases hin:i=n
  ·subst hin;rw[if_pos ⟨hi,hd⟩]
  ·have:¬(E n=true/\gT R n=some t):=fun x=>by
    have:=hj n (by omega) (by omega) x.2;rw[this] at x;simp at x
   rw[if_neg this];exact Ie hi hd n (by omega) (fun j hjn hij hdj=>hj j (by omega) hij hdj)
theorem Mk{o:Oper}{s:St}{K:St->Prop}(h:rC P E R o s K):∃v s',nN P E R o s v s'/\K s':=by
 have hN:∀(hg:gd R o s.tm=some true),gG P E o s K->∃v s',nN P E R o s v s'/\K s':=by
  intro hg hx;unfold gG at hx;by_cases hD:tQ o.op=true
  ·rw[if_pos hD] at hx;obtain⟨S',v,h1,h2⟩:=agY hD hx;exact⟨v,_,.inr (.inr ⟨hg,agX hD,h1,by rw[nk],fun h=>by rw[hD] at h;cases h⟩),h2⟩
  ·rw[if_neg hD] at hx
   have hD':tQ o.op=false:=by simpa using hD
   split at hx
   ·rename_i x args zw hop
    have hcv:kJ o.op=true:=by rw[hop];rfl
    rw[<-hop] at hx;split at hx
    ·rename_i hE;obtain⟨r,h1,h2⟩:=hx;exact⟨r,_,.inr (.inl ⟨hg,by unfold gD;rw[hD',hE];rfl,.inl ⟨_,hop,h1⟩,rfl⟩),h2⟩
    ·rename_i hE;obtain⟨S',v,h0,h1,h2⟩:=hx;exact⟨v,_,.inr (.inr ⟨hg,by unfold gD;rw[hE,hcv];simp,h1,by rw[nk],fun _ _=>by rw[nk];exact h0⟩),h2⟩
    ·rename_i hE0 hE1;obtain⟨S',v,h1,h2⟩:=hx
     have h3:2<=E o.op:=by
      rcases Nat.lt_or_ge (E o.op) 2 with h|h
      ·exfalso
       have:E o.op=0\/E o.op=1:=by omega
       exact this.elim hE0 hE1
      ·exact h
     exact⟨v,_,.inr (.inr ⟨hg,by unfold gD;rw[hcv,Bool.and_true,Bool.or_eq_true,decide_eq_true_eq];exact .inr (by omega),h1,by rw[nk],fun _ h=>by
      unfold l8 at h;rw[hcv,Bool.and_true,Bool.or_eq_false_iff,decide_eq_false_iff_not] at h
      exact absurd h3 h.2⟩),h2⟩
   ·rename_i hne;refine⟨_,_,.inr (.inl ⟨hg,?_,.inr ⟨hx.1,rfl⟩,rfl⟩),hx.2⟩
    have:kJ o.op=false:=by
     cases hc:kJ o.op with
     |false=>rfl
     |true=>
      exfalso;unfold kJ at hc;split at hc
      ·rename_i x a b ho;exact hne _ _ _ ho
      ·cases hc
    unfold gD;rw[hD',this];simp
 unfold rC at h;split at h
 ·rename_i hg;exact hN (by simp only[gd,hg]) h
 ·rename_i j want hg;split at h
  ·rename_i x hx;by_cases e:x=want
   ·exact hN (by simp only[gd,hg,hx,e,beq_self_eq_true]) (h.1 e)
   ·exact⟨.dN [],_,.inl ⟨by simp only[gd,hg,hx];simp[e],rfl,rfl⟩,h.2 (by cases x<;>cases want<;>simp_all)⟩
  ·rename_i hx;exact⟨.dN [],_,.inl ⟨by simp only[gd,hg,hx],rfl,rfl⟩,h⟩
  ·exact h.elim
theorem JR{F:Oper->St->St->Prop}{D:List Oper->St->Prop}{K:St->Prop}(hnil:∀s,D [] s->K s)(ajY:∀o os s,D (o::os) s->∃v s',nN P E R o s v s'/\F o s s'/\D os s'):∀(n k:Nat),k+n=R.size->∀s,D (R.toList.drop k) s->
 ∃(st:Nat->St) (vs:Nat->V),st k=s/\K (st R.size)/\∀i,k<=i->i<R.size->∃o,R[i]? =some o/\nN P E R o (st i) (vs i) (st (i+1))/\F o (st i) (st (i+1))
 |0,k,hk,s,h=>by
  have:R.toList.drop k=[]:=by apply List.drop_eq_nil_of_le;simp;omega
  rw[this] at h;exact⟨fun _=>s,fun _=>.any,rfl,hnil s h,fun i h1 h2=>by omega⟩
 |n+1,k,hk,s,h=>by
  have hlt:k<R.toList.length:=by simp;omega
  rw[List.drop_eq_getElem_cons hlt] at h
  have hRk:R[k]? =some R.toList[k]:=by
   rw[Array.getElem?_eq_getElem (by omega)];simp
  obtain⟨v,s',ht,hf,hd⟩:=ajY _ _ s h;obtain⟨st,vs,h1,h2,h3⟩:=JR hnil ajY n (k+1) (by omega) s' hd;refine⟨fun i=>if i=k then s else st i,fun i=>if i=k then v else vs i,by simp,?_,fun i hi1 hi2=> ?_⟩
  ·have:R.size≠k:=by omega
   simp only[if_neg this];exact h2
  ·by_cases e:i=k
   ·subst e;refine⟨_,hRk,?_⟩;simp only[if_true]
    have:i+1≠i:=by omega
    simp only[if_neg this,h1];exact⟨ht,hf⟩
   ·obtain⟨o,ho,ht'⟩:=h3 i (by omega) hi2;refine⟨o,ho,?_⟩
    have:i+1≠k:=by omega
    simp only[if_neg e,if_neg this];exact ht'
theorem Ig{K:St->Prop}(n k:Nat)(hk:k+n=R.size)(s:St)(h:uH P E R (R.toList.drop k) s K):
 ∃(st:Nat->St) (vs:Nat->V),st k=s/\K (st R.size)/\∀i,k<=i->i<R.size->∃o,R[i]? =some o/\nN P E R o (st i) (vs i) (st (i+1)):=by
 obtain⟨st,vs,h1,h2,h3⟩:=JR (F:=fun _ _ _=>True) (D:=fun os s=>uH P E R os s K) (fun _ h=>h) (fun o os s h=>by
  obtain⟨v,s',a,b⟩:=Mk h
  exact⟨v,s',a,trivial,b⟩) n k hk s h
 exact⟨st,vs,h1,h2,fun i a b=>by
  obtain⟨o,c,d,_⟩:=h3 i a b
  exact⟨o,c,d⟩⟩
theorem ag7{o:Oper}{s s':St}{v:V}(h:nN P E R o s v s'):s'=St.put ⟨s.tm,s'.st⟩ o.dst v:=by
 rcases h with⟨_,_,h⟩|⟨_,_,_,h⟩|⟨_,_,_,h,_⟩
 ·rw[h];cases o.dst<;>rfl
 ·rw[h];cases o.dst<;>rfl
 ·exact h
theorem ag8{o:Oper}{s s':St}{v:V}(h:nN P E R o s v s')(hD:gD E o.op=false):s'.st=s.st:=by
 rcases h with⟨_,_,h⟩|⟨_,_,_,h⟩|⟨_,h,_,_⟩
 ·rw[h];cases o.dst<;>rfl
 ·rw[h];cases o.dst<;>rfl
 ·rw[hD] at h;cases h
theorem BI{st:Nat->St}{vs:Nat->V}(h:∀i,i<R.size->∃o,R[i]? =some o/\nN P E R o (st i) (vs i) (st (i+1)))(t:Nat):∀i,i<=R.size->look (st i).tm t=mZ R vs (fun _=>true) (st 0).tm i t
 |0,_=>rfl
 |i+1,hi=>by
  obtain⟨o,ho,ht⟩:=h i (by omega);have e:=ag7 ht;have ih:=BI h t i (by omega);rw[mZ,<-ih]
  have hdst:gT R i=o.dst:=by simp[gT,ho]
  rw[hdst,e]
  cases hd:o.dst with
  |none=>simp[St.put]
  |some d=>
   simp only[St.put,look,true_and,Option.some.injEq]
theorem DS.refl(S:Store):DS S S:=fun _ _ h=>.inl h
theorem DS.trans{S1 S2 S3:Store}(h:DS S1 S2)(k:DS S2 S3):DS S1 S3:=by
 intro x o hx;rcases h x o hx with h1|⟨h1,o',z,es,h2,h2'⟩
 ·exact k x o h1
 ·rcases k x _ h2 with h3|⟨_,h3⟩
  ·exact .inr ⟨h1,o',z,es,h3,h2'⟩
  ·exact .inr ⟨h1,h3⟩
theorem DS.push{own:List Obj}{Ω:Store}{o:Obj}:DS (own::Ω) ((own++[o])::Ω):=fun k o' h=>.inl (kN _ _ _ _ _ h)
theorem wz{dst:Option Nat}{o:Obj}{mk:Key->V}{s':St}(h:newObj s dst o mk (fun t=>t=s')):DS s.st s'.st:=by
 unfold newObj at h;split at h
 ·rename_i own Ω hst;rw[<-h,nk,hst];exact DS.push
 ·exact h.elim
theorem akC{l:Option Nat}{es x:List (List D)}{z:Nat}{dst:Option Nat}{s':St}(h:D8 l es s dst z x (fun t=>t=s')):DS s.st s'.st:=by
 cases l with
 |none=>exact wz (o:=.tok z x) (mk:=fun k=>.c (.bB k x)) h
 |some n=>
  cases es with
  |nil=>
   have h:St.put ⟨s.tm,s.st⟩ dst (.c (.d (.ol n x)))=s':=h;rw[<-h,nk];exact DS.refl _
  |cons y es=>exact wz (o:=.tok z x) (mk:=fun k=>.c (.bB k x)) h
theorem akD{b:Bool}{n:Nat}{x:List (List D)}{z:Nat}{dst:Option Nat}{s':St}(h:FR b n s dst z x (fun t=>t=s')):DS s.st s'.st:=by
 cases b with
 |false=>exact wz (o:=.eu n z x) (mk:=fun k=>.c (.bB k x)) h
 |true=>
  have h:St.put ⟨s.tm,s.st⟩ dst (.c (.d (.ol n x)))=s':=h;rw[<-h,nk];exact DS.refl _
theorem ag9{o:Oper}{s s':St}(hD:tQ o.op=true)(hs:Au o.op=false)(h:dD P o s (fun t=>t=s')):DS s.st s'.st:=by
 obtain⟨dst,op,ty,pos,after,guard⟩:=o
 cases op with
 |alloc t=>
  simp only[dD,vZ] at h;split at h
  ·exact wz h
  ·exact h.elim
 |box t x=>
  simp only[dD,D7] at h;split at h
  ·exact wz h
  ·exact h.elim
 |makeSlice t l c=>
  simp only[dD,zq] at h;split at h
  ·split at h
   ·exact wz h.2.2.2.2.2
   ·exact h.elim
  ·exact h.elim
 |store t x y=>simp[Au] at hs
 |mapUpdate t x y z=>simp[Au] at hs
 |makeMap t r=>
  cases r with
  |none=>
   simp only[dD,vF] at h;exact wz h
  |some r=>simp[tQ] at hD
 |call c=>
  obtain⟨BF,args,zw⟩:=c
  cases BF with
  |builtin b=>
   cases b with
   |append=>
    simp only[dD,pq] at h;split at h
    ·simp only[tO] at h;split at h
     ·obtain⟨h1,h2,h3,h4⟩:=h;split at h4
      ·rename_i k es hex;split at h4
       ·rename_i z es' hk;obtain⟨k1,k2,k3,k4⟩:=h4;rw[<-k4,nk];intro k' o' ho';by_cases e:k'=k
        ·subst e;rw[hk] at ho';cases ho';exact .inr ⟨⟨_,_,.inl rfl⟩,_,_,_,eO _ _ _ _ hk,.inl rfl⟩
        ·exact .inl ((fI _ _ _ _ (Ne.symm e)).trans ho')
       ·rename_i n z es' hk;obtain⟨k1,k2,k3,k4⟩:=h4;rw[<-k4,nk];intro k' o' ho';by_cases e:k'=k
        ·subst e;rw[hk] at ho';cases ho';exact .inr ⟨⟨_,_,.inr ⟨_,rfl⟩⟩,_,_,_,eO _ _ _ _ hk,.inr ⟨_,rfl⟩⟩
        ·exact .inl ((fI _ _ _ _ (Ne.symm e)).trans ho')
       ·exact h4.elim
      ·exact akC h4.2.2
      ·exact akD h4.2.2
      ·exact h4.elim
     ·exact h.elim
    ·exact h.elim
   |_=>simp[tQ] at hD
  |_=>simp[tQ] at hD
 |_=>simp[tQ] at hD
theorem aha{o:Oper}{s s':St}{v:V}(h:nN P E R o s v s')(hs:l8 E o.op=false):DS s.st s'.st:=by
 rcases h with⟨_,_,h⟩|⟨_,_,_,h⟩|⟨_,hD,h,_,hc⟩
 ·rw[h];cases o.dst<;>exact DS.refl _
 ·rw[h];cases o.dst<;>exact DS.refl _
 ·cases hd:tQ o.op with
  |true=>exact ag9 hd (by unfold l8 at hs;rw[Bool.or_eq_false_iff] at hs;exact hs.1) h
  |false=>exact hc hd hs
theorem Gt{st:Nat->St}{vs:Nat->V}(h:∀i,i<R.size->∃o,R[i]? =some o/\nN P E R o (st i) (vs i) (st (i+1))){i:Nat}:∀(m:Nat),i+m<=R.size->(∀j o,i<=j->j<i+m->R[j]? =some o->gD E o.op=false)->(st (i+m)).st=(st i).st
 |0,_,_=>rfl
 |m+1,hm,hj=>by
  obtain⟨o,ho,ht⟩:=h (i+m) (by omega);rw[show i+(m+1)=i+m+1 from rfl,ag8 ht (hj _ o (by omega) (by omega) ho)];exact Gt h m (by omega) (fun j o h1 h2 h3=>hj j o h1 (by omega) h3)
def KS(k:Key)(S S':Store):Prop:=∀o,bA S k=some o->bA S' k=some o\/((∃z es,uD o z es)/\∃o' z es,bA S' k=some o'/\uD o' z es)
theorem KS.trans{k:Key}{S1 S2 S3:Store}(h:KS k S1 S2)(h':KS k S2 S3):KS k S1 S3:=by
 intro o hx;rcases h o hx with h1|⟨h1,o',z,es,h2,h2'⟩
 ·exact h' o h1
 ·rcases h' _ h2 with h3|⟨_,h3⟩
  ·exact .inr ⟨h1,o',z,es,h3,h2'⟩
  ·exact .inr ⟨h1,h3⟩
theorem abe{st:Nat->St}{vs:Nat->V}(h:∀i,i<R.size->∃o,R[i]? =some o/\nN P E R o (st i) (vs i) (st (i+1))){i:Nat}{k:Key}:∀(m:Nat),i+m<=R.size->
 (∀j o,i<=j->j<i+m->R[j]? =some o->l8 E o.op=false\/bA (st (j+1)).st k=bA (st j).st k)->KS k (st i).st (st (i+m)).st
 |0,_,_=>fun _ hx=>.inl hx
 |m+1,hm,hj=>by
  obtain⟨o,ho,ht⟩:=h (i+m) (by omega);refine(abe h m (by omega) (fun j o h1 h2 h3=>hj j o h1 (by omega) h3)).trans ?_;rcases hj _ o (by omega) (by omega) ho with hs|hs
  ·exact aha ht hs k
  ·intro x hx;exact .inl (hs.trans hx)
theorem cnt_lt(p q:Nat->Bool):∀(l:List Nat)(i:Nat),(∀x,q x=true->p x=true)->i∈l->p i=true->q i=false->l.countP q<l.countP p
 |[],_,_,h,_,_=>by simp at h
 |x::l,i,h,hi,hp,hq=>by
  rw[List.countP_cons,List.countP_cons];have hle:l.countP q<=l.countP p:=List.countP_mono_left (fun y _ hy=>h y hy);rcases List.mem_cons.1 hi with rfl|hi
  ·rw[hp,hq];simp;omega
  ·have ih:=cnt_lt p q l i h hi hp hq;by_cases hx:q x=true
   ·rw[hx,h x hx];simp;exact ih
   ·have:q x=false:=by simpa using hx
    rw[this];simp
    split<;>omega
end
section
variable {P:Program} {E:Md} {N:Nat} {R:Array Oper}
def pQ(E:Md)(R:Array Oper)(p:Nat)(listed:Array Bool):Prop:=listed.getD p false=true/\p<R.size/\∃j x,j<p/\R[j]? =some x/\gD E x.op=true/\listed.getD j false=false
def Raw(P:Program)(R:Array Oper)(p:Nat)(w0 w:World)(σ:Nat->Nat)(S:Store)(β:Hs)(v:Value):Prop:=
 ∃b c ty,v=.pointer (some ⟨b,0,none⟩)/\w.heap[b]? =some (.cells c ty (0,0))/\σ b=0/\w0.heap.size<=b/\¬Own S β b/\
  ∀o t zs,R[p]? =some o->o.op=.alloc t->jV P t=some zs->∀w σ S β,gL w σ S β zs c.toList
open Classical in
noncomputable def vU(E:Md)(R:Array Oper)(p:Nat)(vs:Nat->V)(listed:Array Bool)(base:List (Nat×V))(t:Nat):V:=
 if pQ E R p listed/\gT R p=some t then .any else mZ R vs (fun i=>listed.getD i false) base R.size t
structure Mid(P:Program)(N:Nat)(E:Md)(R:Array Oper)(p:Nat)(st:Nat->St)(vs:Nat->V)(β0:Hs)(σ0:Nat->Nat)(w0:World)(listed:Array Bool)(a:Act)(w:World):Prop where
 size:listed.size=R.size
 closed:∀i o e,R[i]? =some o->listed.getD i false=true->e∈o.after->Region.binds .any e=true->listed.getD e.on false=true
 rep:∃m,m<=R.size/\(∀i o,R[i]? =some o->gD E o.op=true->(i=p->¬pQ E R p listed)->(listed.getD i false=true<->i<m))/\∃σ β,a.tmps.size=N/\a.defers=[]/\fH w σ (st m).st β/\
  (∀t,dS w σ (st m).st β (vU E R p vs listed (st 0).tm t) (a.tmps.getD t undef))/\Step (st 0).st β0 σ0 w0 (st m).st β σ w/\Keep (st 0).st β0 (st m).st β/\
  (pQ E R p listed->m<=p/\∀d,gT R p=some d->Raw P R p w0 w σ (st m).st β (a.tmps.getD d undef))
theorem Ji{o:Oper}{x:Operand}{t:Nat}(hx:x∈o.op.operands)(e:x=.tmp t):t∈o.looksAt R:=by
 subst e;exact List.mem_append_left _ (List.mem_filterMap.2 ⟨.tmp t,by simpa using hx,rfl⟩)
theorem Yn{o:Oper}{g d:Nat}{want:Bool}(hg:o.guard=some (g,want))(hd:gT R g=some d):d∈o.looksAt R:=by
 refine List.mem_append_right _ ?_;rw[hg];show d∈((R[g]?).bind (·.dst)).toList;unfold gT at hd
 rw[hd];simp
theorem Ec(h:BG E R N=true){i j:Nat}{x y:Oper}(hij:i<j)(hx:R[i]? =some x)(hy:R[j]? =some y)(hc:clash E R x y=true):((masks R.toList []).getD j 0).testBit i=true:=by
 have hj:j<R.size:=(Array.getElem?_eq_some_iff.1 hy).1;have h1:=List.all_eq_true.1 h j (List.mem_range.2 hj);rw[Bool.and_eq_true] at h1;have h2:=List.all_eq_true.1 h1.2 i (List.mem_range.2 hij);rw[hx,hy] at h2;simp only[hc,Bool.not_true,Bool.or_false] at h2;exact h2
theorem Vt(h:BG E R N=true){i:Nat}{o:Oper}{e:Edge}(ho:R[i]? =some o)(he:e∈o.after)(hb:Region.binds .any e=true):e.on<i:=by
 have hj:i<R.size:=(Array.getElem?_eq_some_iff.1 ho).1;have h1:=List.all_eq_true.1 h i (List.mem_range.2 hj);rw[Bool.and_eq_true,ho] at h1;have h2:=h1.1;simp only[Bool.and_eq_true] at h2;have h3:=List.all_eq_true.1 h2.1 e (by simpa using he);simpa [hb] using h3
theorem Yo(h:BG E R N=true){i:Nat}{o:Oper}(ho:R[i]? =some o):∀d,o.dst=some d->d<N:=by
 intro d hd;have hj:i<R.size:=(Array.getElem?_eq_some_iff.1 ho).1;have h1:=List.all_eq_true.1 h i (List.mem_range.2 hj);rw[Bool.and_eq_true,ho] at h1;have h2:=h1.1;simp only[Bool.and_eq_true,hd] at h2;simpa using h2.2
theorem abf{x y:Oper}:x.apart R y=y.apart R x:=by
 rw[Bool.eq_iff_iff]
 have key:∀x y:Oper,x.apart R y=true->y.apart R x=true:=fun x y h=>by
  obtain⟨h1,h2,h3⟩:=Oper.apart_spec h;unfold Oper.apart
  cases hx:x.dst<;>cases hy:y.dst<;>simp
  ·rename_i d;exact h3 d hy
  ·rename_i d;exact h1 d hx
  ·rename_i d d';exact⟨⟨h3 d' hy,fun e=>h2 d hx (by rw[hy,e])⟩,h1 d hx⟩
 exact⟨key x y,key y x⟩
theorem Yp{x y:Oper}:oF E R x y=oF E R y x:=by
 unfold oF;rw[abf,Bool.and_comm (gD E x.op)]
def abg:Op->Bool
 | .move _=>true
 |_=>false
theorem ahb{P:Program}{l:Option Nat}{S S':Store}{tm:List (Nat×V)}{op:Op}(h:abg op=true):o9 P l S' tm op=o9 P l S tm op:=by
 cases op<;>first|rfl|cases h
def refs(tm:List (Nat×V))(o:Oper)(k:Key):Prop:=abg o.op=false/\∃x∈o.op.operands,Lg (ev tm x) k
structure Oj(E:Md)(R:Array Oper)(N:Nat)(st:Nat->St)(p:Nat):Prop where
 edge:∀(i:Nat)(o:Oper)(e:Edge),R[i]? =some o->e∈o.after->Region.binds .any e=true->e.on<i
 dst:∀(i:Nat)(o:Oper),R[i]? =some o->∀d,o.dst=some d->d<N
 pair:∀(i j:Nat)(x y:Oper),i<j->R[i]? =some x->R[j]? =some y->oF E R x y=true->((masks R.toList []).getD j 0).testBit i=true\/(j=p/\gD E x.op=true/\x.apart R y=true)
 store:∀(i j:Nat)(x o:Oper),i≠j->R[i]? =some x->R[j]? =some o->l8 E x.op=true->gD E o.op=false->kJ o.op=false->
  uJ R i j=true\/∀k,refs (st j).tm o k->bA (st (i+1)).st k=bA (st i).st k
 pend:∀o,R[p]? =some o->Av o.op=true/\o.guard=none/\(∃d,o.dst=some d)/\∀j y,j≠p->R[j]? =some y->y.apart R o=false->∀i x,i<p->R[i]? =some x->gD E x.op=true->i<j/\((masks R.toList []).getD j 0).testBit i=true
theorem amz{st:Nat->St}(h:BG E R N=true):Oj E R N st R.size where
 edge:=fun i o e h1 h2 h3=>Vt h h1 h2 h3
 dst:=fun i o h1=>Yo h h1
 pair:=fun i j x y hij hx hy hc=>.inl (Ec h hij hx hy (by
  unfold oF at hc;unfold clash
  rw[hc];rfl))
 store:=fun i j x o hij hx ho hs hD hc=>.inl (by
  unfold uJ;by_cases e:i<j
  ·rw[if_pos e];exact Ec h e hx ho (by unfold clash;rw[hs];simp)
  ·rw[if_neg e]
   exact Ec h (show j<i by omega) ho hx (by unfold clash;rw[hs];simp))
 pend:=fun o ho=>by rw[Array.getElem?_eq_none (Nat.le_refl _)] at ho;cases ho
theorem QM{p:Nat}(h:JN E R p=true):∀o,R[p]? =some o->Av o.op=true/\o.guard=none/\(∃d,o.dst=some d)/\∀j y,j≠p->R[j]? =some y->y.apart R o=false->∀i x,i<p->R[i]? =some x->gD E x.op=true->i<j/\((masks R.toList []).getD j 0).testBit i=true:=by
 intro o ho;unfold JN at h;rw[ho] at h;simp only[Bool.and_eq_true] at h;obtain⟨⟨⟨h1,h2⟩,h3⟩,h4⟩:=h;refine⟨h1,by simpa using h2,Option.isSome_iff_exists.1 h3,fun j y hj hy hap i x hi hx hD=> ?_⟩;have hjl:j<R.size:=(Array.getElem?_eq_some_iff.1 hy).1;have h5:=List.all_eq_true.1 h4 j (List.mem_range.2 hjl);rw[hy] at h5;simp only[hap,hj,decide_false,Bool.false_or] at h5;have h6:=List.all_eq_true.1 h5 i (List.mem_range.2 hi);rw[hx] at h6;simpa [hD] using h6
theorem wB{o:Oper}(h:Av o.op=true):gD E o.op=true/\l8 E o.op=false/\kJ o.op=false:=by
 obtain⟨dst,op,ty,pos,after,guard⟩:=o;cases op<;>simp_all[Av,gD,tQ,l8,Au,kJ]
theorem akE{st:Nat->St}{p:Nat}(h0:Gs E R N p=true):Oj E R N st p:=by
 unfold Gs at h0;rw[Bool.and_eq_true] at h0;obtain⟨hp,h⟩:=h0;have Ae:=QM hp
 have hpr:∀(i j:Nat)(x y:Oper),i<j->R[i]? =some x->R[j]? =some y->((masks R.toList []).getD j 0).testBit i=true\/(x.apart R y=true/\(j=p\/((gD E x.op&&gD E y.op)=false/\l8 E x.op=false/\l8 E y.op=false))):=by
  intro i j x y hij hx hy;have hj:j<R.size:=(Array.getElem?_eq_some_iff.1 hy).1;have h1:=List.all_eq_true.1 h j (List.mem_range.2 hj);rw[Bool.and_eq_true] at h1;have h2:=List.all_eq_true.1 h1.2 i (List.mem_range.2 hij);rw[hx,hy] at h2;simp only[adV] at h2;rw[Bool.or_eq_true] at h2;rcases h2 with h2|h2
  ·exact .inl h2
  ·right;rw[Bool.not_eq_true',Bool.or_eq_false_iff,Bool.not_eq_false'] at h2;refine⟨h2.1,?_⟩;by_cases e:j=p
   ·exact .inl e
   ·right;have h3:=h2.2;simp only[e,decide_false,Bool.not_false,Bool.true_and,Bool.or_eq_false_iff] at h3;exact⟨h3.1.1,h3.1.2,h3.2⟩
 refine⟨?_,?_,?_,?_,Ae⟩
 ·intro i o e ho he hb;have hj:i<R.size:=(Array.getElem?_eq_some_iff.1 ho).1;have h1:=List.all_eq_true.1 h i (List.mem_range.2 hj);rw[Bool.and_eq_true,ho] at h1;have h2:=h1.1;simp only[Bool.and_eq_true] at h2;have h3:=List.all_eq_true.1 h2.1 e (by simpa using he);simpa [hb] using h3
 ·intro i o ho d hd;have hj:i<R.size:=(Array.getElem?_eq_some_iff.1 ho).1;have h1:=List.all_eq_true.1 h i (List.mem_range.2 hj);rw[Bool.and_eq_true,ho] at h1;have h2:=h1.1;simp only[Bool.and_eq_true,hd] at h2;simpa using h2.2
 ·intro i j x y hij hx hy hc;rcases hpr i j x y hij hx hy with h1|⟨h1,h2⟩
  ·exact .inl h1
  ·rcases h2 with h2|⟨h2,_,_⟩
   ·right;unfold oF at hc;rw[h1] at hc;simp only[Bool.not_true,Bool.false_or,Bool.and_eq_true] at hc;exact⟨h2,hc.1,h1⟩
   ·unfold oF at hc;rw[h1,h2] at hc;cases hc
 ·intro i j x o hij hx ho hs hD hc
  have hjp:j≠p:=fun e=>by
   subst e;have:=(wB (E:=E) (Ae o ho).1).1;rw[hD] at this;cases this
  have Sc:i≠p:=fun e=>by
   subst e;have:=(wB (E:=E) (Ae x hx).1).2.1;rw[hs] at this;cases this
  left;unfold uJ;by_cases e:i<j
  ·rw[if_pos e];rcases hpr i j x o e hx ho with h1|⟨_,h2⟩
   ·exact h1
   ·rcases h2 with h2|⟨_,h2,_⟩
    ·exact absurd h2 hjp
    ·rw[hs] at h2;cases h2
  ·rw[if_neg e];rcases hpr j i o x (by omega) ho hx with h1|⟨_,h2⟩
   ·exact h1
   ·rcases h2 with h2|⟨_,_,h2⟩
    ·exact absurd h2 Sc
    ·rw[hs] at h2;cases h2
theorem Oper.adW{o:Oper}{a:Act}{w:World}{K:Act->World->Prop}{Q:Exit->Act->World->Prop}(hh:o.wp P a w K Q):o.wp P a w (fun a' w'=>K a' w'/\∀d,o.dst≠some d->a'.tmps.getD d undef=a.tmps.getD d undef) Q:=by
 have key:∀(ds:List Deferred)(v:Value)(d:Nat),o.dst≠some d->(({a with defers:=ds}:Act).put o.dst v).tmps.getD d undef=a.tmps.getD d undef:=by
  intro ds v d hd
  cases ho:o.dst with
  |none=>rfl
  |some e=>
   have hne:e≠d:=fun x=>hd (by rw[ho,x]);simp only[Act.put,Array.getD_eq_getD_getElem?];rw[Array.getElem?_setIfInBounds_ne hne]
 unfold Oper.wp at *
 generalize (execOp a.eval o).run P w=r at *
 cases r with
 |ok n w'=>
  cases n<;>simp only[Oper.upon] at hh ⊢ <;>
   first
    |exact⟨hh,fun d hd=>key _ _ d hd⟩
    |exact Calls.mono hh (fun e w'' he=>by cases e<;>first|exact⟨he,fun d hd=>key _ _ d hd⟩|exact he)
    |exact Rows.mono hh (fun _ _ he=>⟨he,fun d hd=>key _ _ d hd⟩)
 |halt x w'=>cases x<;>simp only[Oper.upon] at hh ⊢ <;>exact hh
theorem wC{a:Act}{dst:Option Nat}{v:Value}{d:Nat}(h:dst≠some d):(a.put dst v).tmps.getD d undef=a.tmps.getD d undef:=by
 cases dst with
 |none=>rfl
 |some e=>
  have hne:e≠d:=fun x=>h (by rw[x]);simp only[Act.put,Array.getD_eq_getD_getElem?];rw[Array.getElem?_setIfInBounds_ne hne]
theorem ahc{t:TypeId}{zs:List C}(h:jV P t=some zs):∃z:Value,(∀w,(zeroValue t).run P w=.ok z w)/\∀w σ S β,gL w σ S β zs z.cells.toList:=by
 unfold jV at h
 cases hi:P.info? t with
 |none=>rw[hi] at h;cases h
 |some i=>
  rw[hi] at h
  cases hz:i.zero with
  |none=>simp[hz] at h
  |some z=>
   simp only[Option.bind_some,hz] at h;split at h
   ·rename_i hall;cases h;refine⟨z,fun w=>by simp[zeroValue,typeInfo,hi,hz],fun w σ S β=>⟨by simp,fun j x hx=> ?_⟩⟩;rw[List.getElem?_map] at hx
    cases hv:z.cells.toList[j]? with
    |none=>rw[hv] at hx;cases hx
    |some v=>
     rw[hv] at hx;cases hx;exact⟨v,rfl,Da _ _ _ _ _,List.all_eq_true.1 hall v (List.mem_of_getElem? hv)⟩
   ·cases h
theorem ahd{w w0:World}{σ σ0:Nat->Nat}{S0:Store}{β0:Hs}{own:List Obj}{Ω:Store}{β:Hs}{zs:List C}{b:Nat}{c:Array Value}{ty:TypeId}(hS:fH w σ (own::Ω) β)(hst:Step S0 β0 σ0 w0 (own::Ω) β σ w)(hb:w.heap[b]? =some (.cells c ty (0,0)))(hσ:σ b=0)
 (h0:w0.heap.size<=b)(hno:¬Own (own::Ω) β b)(hz:∀w σ S β,gL w σ S β zs c.toList):
 ∃bo bΩ,β=bo::bΩ/\bo.length=own.length/\fH w σ ((own++[.box zs])::Ω) ((bo++[Value.pointer (some ⟨b,0,none⟩)])::bΩ)/\Keep (own::Ω) β ((own++[.box zs])::Ω) ((bo++[Value.pointer (some ⟨b,0,none⟩)])::bΩ)/\
  Step S0 β0 σ0 w0 ((own++[.box zs])::Ω) ((bo++[Value.pointer (some ⟨b,0,none⟩)])::bΩ) σ w:=by
 cases β with
 |nil=>have:=hS.shape.1;simp at this
 |cons bo bΩ=>
 have hlen:bo.length=own.length:=by
  obtain⟨gr,g1,g2⟩:=hS.shape.2 0 own rfl;simp at g1;rw[g1];exact g2
 refine⟨bo,bΩ,rfl,hlen,?_⟩
 have hkeep:Keep (own::Ω) (bo::bΩ) ((own++[.box zs])::Ω) ((bo++[Value.pointer (some ⟨b,0,none⟩)])::bΩ):=by
  intro k o1 h1;obtain⟨h2,xP,_⟩:=hS.obj k o1 h1;exact⟨o1,kN _ _ _ _ _ h1,by rw[kN _ _ _ _ _ xP,xP];exact .refl _ _⟩
 have hinv:∀k o1 h1,bA ((own++[Obj.box zs])::Ω) k=some o1->bA ((bo++[Value.pointer (some ⟨b,0,none⟩)])::bΩ) k=some h1->
  (bA (own::Ω) k=some o1/\bA (bo::bΩ) k=some h1)\/(k=(0,own.length)/\o1=.box zs/\h1=Value.pointer (some ⟨b,0,none⟩)):=by
  intro k o1 h1 e1 e2;rcases mY _ _ _ _ _ e1 with e1|⟨rfl,rfl⟩
  ·left;refine⟨e1,?_⟩;rcases mY _ _ _ _ _ e2 with e2|⟨rfl,rfl⟩
   ·exact e2
   ·rw[bR,hlen] at e1;have:=(List.getElem?_eq_some_iff.1 e1).1;omega
  ·right;rw[<-hlen,dx] at e2;exact⟨rfl,rfl,(Option.some.inj e2).symm⟩
 have hown:∀x,Own ((own++[Obj.box zs])::Ω) ((bo++[Value.pointer (some ⟨b,0,none⟩)])::bΩ) x->Own (own::Ω) (bo::bΩ) x\/x=b:=by
  rintro x ⟨k,o,h,e1,e2,e3⟩;rcases hinv k o h e1 e2 with⟨f1,f2⟩|⟨rfl,rfl,rfl⟩
  ·exact .inl ⟨k,o,h,f1,f2,e3⟩
  ·right;cases e3;rfl
 have hmono:∀k o h,bA (own::Ω) k=some o->bA (bo::bΩ) k=some h->iL w σ ((own::Ω).drop k.1) ((bo::bΩ).drop k.1) o h->iL w σ (((own++[Obj.box zs])::Ω).drop k.1) (((bo++[Value.pointer (some ⟨b,0,none⟩)])::bΩ).drop k.1) o h:=
  fun k o h _ _ hr=>hr.mono (eG.refl _ _) (hkeep.drop _) fun x _=>⟨rfl,rfl⟩
 refine⟨⟨?_,?_,⟨?_,?_⟩,hS.live,hS.vO⟩,hkeep,⟨hst.size,hst.os,hst.output,fun x hx hn=>hst.far x hx hn,hst.near,fun x hx=> ?_⟩⟩
 ·intro k o1 h1;rcases mY _ _ _ _ _ h1 with h1|⟨rfl,rfl⟩
  ·obtain⟨h2,xP,hr⟩:=hS.obj k o1 h1;exact⟨h2,kN _ _ _ _ _ xP,hmono k o1 h2 h1 xP hr⟩
  ·exact⟨Value.pointer (some ⟨b,0,none⟩),by rw[<-hlen,dx],b,c,ty,rfl,hb,hσ,hz _ _ _ _⟩
 ·intro k k' o1 o2 h1 h2 x e1 e2 e3 e4 e5 e6;rcases hinv k o1 h1 e1 e2 with⟨f1,f2⟩|⟨rfl,rfl,rfl⟩
  ·rcases hinv k' o2 h2 e4 e5 with⟨g1,g2⟩|⟨rfl,rfl,rfl⟩
   ·exact hS.apart _ _ _ _ _ _ _ f1 f2 e3 g1 g2 e6
   ·cases e6;exact absurd ⟨k,o1,h1,f1,f2,e3⟩ hno
  ·rcases hinv k' o2 h2 e4 e5 with⟨g1,g2⟩|⟨rfl,rfl,rfl⟩
   ·cases e3;exact absurd ⟨k',o2,h2,g1,g2,e6⟩ hno
   ·rfl
 ·have:=hS.shape.1;simpa using this
 ·intro l fr hl
  cases l with
  |zero=>simp at hl;subst hl;exact⟨_,rfl,by simp[hlen]⟩
  |succ l=>exact hS.shape.2 (l+1) fr (by simpa using hl)
 ·rcases hown x hx with h|h
  ·exact hst.own x h
  ·subst h;exact .inr h0
theorem Ol{st:Nat->St}{vs:Nat->V}{p:Nat}{o:Oper}{d:Nat}{t:TypeId}(ht:nN P E R o (st p) (vs p) (st (p+1)))(hop:o.op=.alloc t)(hg:o.guard=none)(hd:o.dst=some d):
 ∃zs own Ω,jV P t=some zs/\(st p).st=own::Ω/\(st (p+1)).st=(own++[.box zs])::Ω/\vs p=.c (.ptr (0,own.length) 0):=by
 have hgd:gd R o (st p).tm=some true:=by unfold gd;rw[hg]
 rcases ht with⟨h1,_,_⟩|⟨_,hD,_,_⟩|⟨_,hD,hx,hs',_⟩
 ·rw[hgd] at h1;cases h1
 ·rw[(wB (E:=E) (o:=o) (by rw[hop];rfl)).1] at hD;cases hD
 ·obtain⟨dst,op,ty,pos,after,guard⟩:=o;simp only at hop hd;subst hop;subst hd;unfold dD vZ at hx;simp only at hx
  cases hz:jV P t with
  |none=>rw[hz] at hx;exact hx.elim
  |some zs=>
   rw[hz] at hx
   generalize st (p+1)=s1 at *
   generalize st p=s0 at *
   obtain⟨tm,S⟩:=s0;simp only[newObj] at hx
   cases S with
   |nil=>exact hx.elim
   |cons own Ω=>
    subst hx;refine⟨zs,own,Ω,rfl,rfl,rfl,?_⟩;simp only[St.put,St.mk.injEq,List.cons.injEq,Prod.mk.injEq,and_true,true_and] at hs';exact hs'.symm
theorem mid_step{st:Nat->St}{vs:Nat->V}{β0:Hs}{σ0:Nat->Nat}{w0:World}{Q:Exit->Act->World->Prop}{p:Nat}(hok:Oj E R N st p)
 (hT:∀i,i<R.size->∃o,R[i]? =some o/\nN P E R o (st i) (vs i) (st (i+1))){listed:Array Bool}{a:Act}{w:World}(hM:Mid P N E R p st vs β0 σ0 w0 listed a w){i:Nat}(hi:i∈Region.ready .any R listed):
 wpOp P R Q i (fun a' w'=>Mid P N E R p st vs β0 σ0 w0 (listed.setIfInBounds i true) a' w') a w:=by
 obtain⟨hun,o,ho,JU⟩:=mem_ready.1 hi;have hlt:i<R.size:=(Array.getElem?_eq_some_iff.1 ho).1;obtain⟨o',ho',ht⟩:=hT i hlt;rw[ho] at ho';cases ho'
 have zD:listed.getD i false=false:=by
  have hs:i<listed.size:=by rw[hM.size];exact hlt
  simp[hs] at hun ⊢;exact hun
 obtain⟨m,hm,hmD,σ,β,hsz,hdf,hS,hrT,hst,hkp,Ae⟩:=hM.rep;have hdn:=hok.dst i o ho
 have hset:(listed.setIfInBounds i true).getD i false=true:=by
  have hs:i<listed.size:=by rw[hM.size];exact hlt
  simp[hs]
 have abh:∀j,(listed.setIfInBounds i true).getD j false=true->j=i\/listed.getD j false=true:=by
  intro j hj;by_cases e:j=i
  ·exact .inl e
  ·rw[getD_set_ne false (Ne.symm e)] at hj;exact .inr hj
 have aoB:∀j,(listed.setIfInBounds i true).getD j false=false->j≠i/\listed.getD j false=false:=by
  intro j hj;by_cases e:j=i
  ·subst e;rw[hset] at hj;cases hj
  ·rw[getD_set_ne false (Ne.symm e)] at hj;exact⟨e,hj⟩
 have Ih:∀j x k,R[j]? =some x->listed.getD j false=true->((masks R.toList []).getD j 0).testBit k=true->listed.getD k false=true:=fun j x k hx hE hb=>
  E9 (fun k=>listed.getD k false=true) hM.closed hok.edge j x hx (fun e he hb=>hM.closed j x e hx hE he hb) k hb
 have BJ:∀k,((masks R.toList []).getD i 0).testBit k=true->listed.getD k false=true:=fun k hb=>
  E9 (fun k=>listed.getD k false=true) hM.closed hok.edge i o ho (fun e he hb=>JU e he hb) k hb
 have amB:pQ E R p listed->i≠p:=fun h e=>by have h1:=h.1;rw[<-e,zD] at h1;cases h1
 have Ii:∀j x e,R[j]? =some x->(listed.setIfInBounds i true).getD j false=true->e∈x.after->Region.binds .any e=true->(listed.setIfInBounds i true).getD e.on false=true:=by
  intro j x e hx hE he hb;by_cases hji:j=i
  ·subst hji;rw[ho] at hx;cases hx;exact getD_set_true (JU e he hb)
  ·rw[getD_set_ne false (Ne.symm hji)] at hE;exact getD_set_true (hM.closed j x e hx hE he hb)
 by_cases hA2:i=p/\∃j x,j<p/\R[j]? =some x/\gD E x.op=true/\listed.getD j false=false
 ·
  obtain⟨rfl,j0,x0,hj0,hx0,hD0,hu0⟩:=hA2;obtain⟨hal,hgn,⟨d,hd⟩,_⟩:=hok.pend o ho
  obtain⟨ty,hop⟩:∃ty,o.op=.alloc ty:=by
   cases h:o.op<;>rw[h] at hal<;>first|exact⟨_,rfl⟩|cases hal
  obtain⟨zs,own,Ω,hzs,_,_,_⟩:=Ol ht hop hgn hd;obtain⟨z,zm,hzc⟩:=ahc hzs
  have hnp:¬pQ E R i listed:=fun h=>by have h1:=h.1;rw[zD] at h1;cases h1
  have hP':pQ E R i (listed.setIfInBounds i true):=⟨hset,hlt,j0,x0,hj0,hx0,hD0,by rw[getD_set_ne false (by omega)];exact hu0⟩
  have hmp:m<=i:=by
   have h1:=hmD j0 x0 hx0 hD0 (fun _=>hnp);rcases Nat.lt_or_ge j0 m with h|h
   ·rw[h1.2 h] at hu0;cases hu0
   ·omega
  have hdi:gT R i=some d:=by simp[gT,ho,hd]
  have hg:=Dc w σ hS.live z.cells ty 0;unfold wpOp;rw[ho]
  simp only
  rw[if_pos (by simp[Region.wanted,hgn])];left
  have hrun:(execOp a.eval o).run P w=.ok (.value (.pointer (some ⟨w.heap.size,0,none⟩))) {w with heap:=w.heap.push (.cells z.cells ty)}:=by
   have Ob:(newVar ty z).run P w=.ok ⟨w.heap.size,0,none⟩ {w with heap:=w.heap.push (.cells z.cells ty)}:=rfl;have zm:=zm w;clear hS hrT hst hkp Ae hM hdn ht;obtain⟨dst,op,ty',pos,after,guard⟩:=o;simp only at hop;subst hop;simp[execOp,Instr.alloc,zm,Ob]
  unfold Oper.wp;rw[hrun];show Mid P N E R i st vs β0 σ0 w0 _ (a.put o.dst _) _;rw[hd]
  have hdN:d<a.tmps.size:=by rw[hsz];exact hdn d hd
  refine⟨by simpa using hM.size,Ii,m,hm,fun j x hx sZ hjp=> ?_,fun b=>if b=w.heap.size then 0 else σ b,β,by simp[Act.put,hsz],hdf,hS.grow hg,fun t=> ?_,hst.trans (Step.lX hg),hkp,fun _=>⟨hmp,fun d' hd'=> ?_⟩⟩
  ·have hji:j≠i:=fun e=>hjp e hP';rw[getD_set_ne false (Ne.symm hji)];exact hmD j x hx sZ fun _=>hnp
  ·unfold vU;by_cases e:t=d
   ·subst e;rw[if_pos ⟨hP',hdi⟩];exact trivial
   ·rw[if_neg (fun h=>e (by rw[hdi] at h;exact(Option.some.inj h.2).symm))]
    rw[Bf (E':=fun i=>listed.getD i false) R.size (fun j hj hdj=>by
     have hji:j≠i:=fun x=>by rw[x,hdi] at hdj;exact e (Option.some.inj hdj).symm
     exact getD_set_ne false (Ne.symm hji))]
    have h1:=hrT t;unfold vU at h1;rw[if_neg (fun h=>hnp h.1)] at h1;rw[wC (by intro x;exact e (Option.some.inj x).symm)];exact h1.mono hg.near (Keep.refl _ _)
  ·rw[hdi] at hd';cases hd';refine⟨w.heap.size,z.cells,ty,by simp[Act.put,Array.getD,hdN],by simp,by simp,hst.size,fun h=> ?_,fun o2 t2 zs2 h1 h2 h3=> ?_⟩
   ·have:=hS.Gf h;omega
   ·rw[ho] at h1;cases h1;rw[hop] at h2;cases h2;rw[hzs] at h3;cases h3;exact hzc
 have hA:i=p->∀j x,j<p->R[j]? =some x->gD E x.op=true->listed.getD j false=true:=fun e j x hj hx hD=>by
  cases hl:listed.getD j false with
  |true=>rfl
  |false=>exact absurd ⟨e,j,x,hj,hx,hD,hl⟩ hA2
 have hPP:pQ E R p (listed.setIfInBounds i true)->pQ E R p listed:=by
  rintro⟨h1,h2,j,x,hj,hx,hD,hl⟩;obtain⟨hji,hl⟩:=aoB j hl;rcases abh p h1 with e|h
  ·rw[hA e.symm j x hj hx hD] at hl;cases hl
  ·exact⟨h,h2,j,x,hj,hx,hD,hl⟩
 have hap:pQ E R p listed->∀po d,R[p]? =some po->po.dst=some d->o.dst≠some d/\d∉o.looksAt R:=by
  rintro hP po d hpo Ae;have Vu:=hP;obtain⟨_,_,j0,x0,hj0,hx0,hD0,hu0⟩:=Vu
  have:o.apart R po=true:=by
   cases hc:o.apart R po with
   |true=>rfl
   |false=>
    have:=(hok.pend po hpo).2.2.2 i o (amB hP) ho hc j0 x0 hj0 hx0 hD0;rw[BJ j0 this.2] at hu0;cases hu0
  obtain⟨q1,q2,q3⟩:=Oper.apart_spec this;exact⟨fun e=>q2 d e Ae,q3 d Ae⟩
 have Sc:pQ E R p listed->gD E o.op=true->i<p:=by
  rintro hP hD;have Vu:=hP;obtain⟨_,hpl,j0,x0,hj0,hx0,hD0,hu0⟩:=Vu;have hne:=amB hP;rcases Nat.lt_or_ge i p with h|h
  ·exact h
  ·exfalso;rcases hok.pair j0 i x0 o (by omega) hx0 ho (by simp[oF,hD,hD0]) with hb|⟨e,_⟩
   ·rw[BJ j0 hb] at hu0;cases hu0
   ·exact hne e
 have hbit:∀j x,R[j]? =some x->j≠i->uJ R j i=true->(listed.getD j false=true<->j<i):=by
  intro j x hx hne hc;unfold uJ at hc;constructor
  ·intro hE;rcases Nat.lt_or_ge j i with h|h
   ·exact h
   ·exfalso;rw[if_neg (by omega)] at hc;have:=Ih j x i hx hE hc;rw[zD] at this;cases this
  ·intro hji;rw[if_pos hji] at hc;exact BJ j hc
 have hdone:∀j x,R[j]? =some x->j≠i->(j=p->¬pQ E R p listed)->oF E R x o=true->(listed.getD j false=true<->j<i):=by
  intro j x hx hne hjp hc;by_cases e:j<i
  ·rcases hok.pair j i x o e hx ho hc with hb|⟨e1,hD,_⟩
   ·exact hbit j x hx hne (by unfold uJ;rw[if_pos e];exact hb)
   ·exact⟨fun _=>e,fun _=>hA e1 j x (by omega) hx hD⟩
  ·rcases hok.pair i j o x (by omega) ho hx (by rw[Yp];exact hc) with hb|⟨e1,hD,_⟩
   ·exact hbit j x hx hne (by unfold uJ;rw[if_neg e];exact hb)
   ·refine⟨fun h=>absurd ⟨e1▸h,?_,i,o,by omega,ho,hD,zD⟩ (hjp e1),fun h=>absurd h e⟩;rw[<-e1];exact(Array.getElem?_eq_some_iff.1 hx).1
 obtain⟨Vv,Vw⟩:∃Vv:List (Nat×V),∀t,look Vv t=mZ R vs (fun i=>listed.getD i false) (st 0).tm R.size t:=by
  have:∀n,∃tT:List (Nat×V),∀t,look tT t=mZ R vs (fun i=>listed.getD i false) (st 0).tm n t:=by
   intro n
   induction n with
   |zero=>exact⟨(st 0).tm,fun t=>rfl⟩
   |succ n ih=>
    obtain⟨tm,h⟩:=ih;by_cases hE:listed.getD n false=true
    ·cases hd:gT R n with
     |none=>exact⟨tm,fun t=>by rw[mZ,if_neg (fun x=>by rw[hd] at x;cases x.2)];exact h t⟩
     |some d=>
      refine⟨(n |> vs |> fun v=>(d,v))::tm,fun t=> ?_⟩;rw[mZ,look,hd,h t];by_cases e:d=t
      ·rw[if_pos e,if_pos ⟨hE,by rw[e]⟩]
      ·rw[if_neg e,if_neg (fun x=>e (Option.some.inj x.2))]
    ·exact⟨tm,fun t=>by rw[mZ,if_neg (fun x=>hE x.1)];exact h t⟩
  exact this R.size
 obtain⟨tT,ahe⟩:∃tT:List (Nat×V),∀t,look tT t=vU E R p vs listed (st 0).tm t:=by
  by_cases hP:pQ E R p listed
  ·cases hd:gT R p with
   |none=>exact⟨Vv,fun t=>by unfold vU;rw[if_neg (fun h=>by rw[hd] at h;cases h.2)];exact Vw t⟩
   |some d=>
    refine⟨(d,.any)::Vv,fun t=> ?_⟩;unfold vU;rw[look,hd];by_cases e:d=t
    ·rw[if_pos e,if_pos ⟨hP,by rw[e]⟩]
    ·rw[if_neg e,if_neg (fun x=>e (Option.some.inj x.2))];exact Vw t
  ·exact⟨Vv,fun t=>by unfold vU;rw[if_neg (fun h=>hP h.1)];exact Vw t⟩
 have hPd:∀t,pQ E R p listed->gT R p=some t->∃po,R[p]? =some po/\po.dst=some t:=by
  intro t _ h;unfold gT at h
  cases hpo:R[p]? with
  |none=>rw[hpo] at h;cases h
  |some po=>rw[hpo] at h;exact⟨po,rfl,h⟩
 have Om:∀t∈o.looksAt R,look tT t=look (st i).tm t:=by
  intro t htl;rw[ahe];unfold vU
  rw[if_neg (fun h=>by
   obtain⟨po,h1,h2⟩:=hPd t h.1 h.2
   exact(hap h.1 po t h1 h2).2 htl),BI hT t i (by omega)]
  have:=FU (R:=R) (vs:=vs) (E:=fun i=>listed.getD i false) (base:=(st 0).tm) (t:=t) (i:=i) R.size (fun j hj hd=>by
   by_cases e:j=i
   ·subst e;rw[zD];simp
   ·obtain⟨x,hx⟩:∃x,R[j]? =some x:=⟨_,Array.getElem?_eq_getElem hj⟩
    have hxd:x.dst=some t:=by simpa [gT,hx] using hd
    refine hdone j x hx e (fun e2 hP=> ?_) ?_
    ·subst e2;exact(hap hP x t hx hxd).2 htl
    ·have:x.apart R o=false:=by
      cases hap:x.apart R o with
      |false=>rfl
      |true=>exact absurd htl ((Oper.apart_spec hap).1 t hxd)
     simp[oF,this])
  rw[this,show min R.size i=i from by omega]
 have hR:lN N ⟨tT,(st m).st⟩ a w σ β:=⟨hsz,hdf,hS,fun t=>by show dS w σ (st m).st β (look tT t) _;rw[ahe];exact hrT t⟩
 have hev:∀x∈o.op.operands,ev (st i).tm x=ev tT x:=by
  intro x hx
  cases x with
  |tmp t=>show look _ t=look _ t;rw[Om t (Ji hx rfl)]
  |_=>rfl
 have hgd:gd R o tT=gd R o (st i).tm:=by
  unfold gd
  cases hg:o.guard with
  |none=>rfl
  |some gw=>
   obtain⟨g,want⟩:=gw
   simp only
   cases hd:gT R g with
   |none=>rfl
   |some d=>
    simp only[Option.map_some];rw[Om d (Yn hg hd)]
 have aqn:∀(S':Store)(t:Nat),mZ R vs (fun i_1=>(listed.setIfInBounds i true).getD i_1 false) (st 0).tm R.size t=look (St.put ⟨Vv,S'⟩ o.dst (vs i)).tm t:=by
  intro S' t;by_cases hd:o.dst=some t
  ·have hdi:gT R i=some t:=by simp[gT,ho,hd]
   rw[Ie (E:=fun i_1=>(listed.setIfInBounds i true).getD i_1 false) hset hdi R.size hlt (fun j hj hij hdj=>by
    obtain⟨x,hx⟩:∃x,R[j]? =some x:=⟨_,Array.getElem?_eq_getElem hj⟩
    have hxd:x.dst=some t:=by simpa [gT,hx] using hdj
    have ahf:x.apart R o=false:=by
     cases hap:x.apart R o with
     |false=>rfl
     |true=>exact absurd hd ((Oper.apart_spec hap).2.1 t hxd)
    have:=hdone j x hx (by omega) (fun e hP=>by
     subst e
     exact(hap hP x t hx hxd).1 hd) (by simp[oF,ahf])
    rw[getD_set_ne false (by omega)]
    cases hE:listed.getD j false with
    |false=>rfl
    |true=>exact absurd (this.1 hE) (by omega))]
   rw[hd];simp[St.put,look]
  ·have hdi:gT R i≠some t:=by simp only[gT,ho,Option.bind_some];exact hd
   rw[Bf (E':=fun i=>listed.getD i false) R.size (fun j hj hdj=>by
    have hji:j≠i:=fun e=>hdi (e▸hdj)
    exact getD_set_ne false (Ne.symm hji)),<-Vw t]
   cases hdd:o.dst with
   |none=>rfl
   |some d=>
    have hne:d≠t:=fun e=>hd (by rw[hdd,e]);simp[St.put,look,hne]
 have ahg:∀(S':Store)(t:Nat),¬(pQ E R p listed/\gT R p=some t)->look (St.put ⟨tT,S'⟩ o.dst (vs i)).tm t=mZ R vs (fun i_1=>(listed.setIfInBounds i true).getD i_1 false) (st 0).tm R.size t:=by
  intro S' t hn;rw[aqn S' t]
  have h1:look tT t=look Vv t:=by rw[ahe,Vw];unfold vU;rw[if_neg hn]
  cases hdd:o.dst with
  |none=>exact h1
  |some d=>simp only[St.put,look,h1]
 have fin:∀(m':Nat)(a':Act)(w':World)(σ':Nat->Nat)(β':Hs),m'<=R.size->(∀j x,R[j]? =some x->gD E x.op=true->(j=p->¬pQ E R p listed)->((listed.setIfInBounds i true).getD j false=true<->j<m'))->
  (pQ E R p listed->m'<=p)->(∀d,o.dst≠some d->a'.tmps.getD d undef=a.tmps.getD d undef)->
  lN N (St.put ⟨tT,(st m').st⟩ o.dst (vs i)) a' w' σ' β'->Step (st m).st β σ w (st m').st β' σ' w'->Keep (st m).st β (st m').st β'->Mid P N E R p st vs β0 σ0 w0 (listed.setIfInBounds i true) a' w':=by
  intro m' a' w' σ' β' hm' hD' hmp ha' hR' hst' Ar;have hS':=hR'.S;have hT':=hR'.T;rw[nk] at hS' hT';by_cases hP:pQ E R p listed
  ·obtain⟨_,hraw⟩:=Ae hP;have Vu:=hP;obtain⟨hp1,hp2,j0,x0,hj0,hx0,hD0,hu0⟩:=Vu;obtain⟨po,hpo⟩:∃po,R[p]? =some po:=⟨_,Array.getElem?_eq_getElem hp2⟩;obtain⟨hal,hgn,⟨d,hd⟩,aoC⟩:=hok.pend po hpo
   have hdp:gT R p=some d:=by simp[gT,hpo,hd]
   have hod:=hap hP po d hpo hd;have hraw:=hraw d hdp;obtain⟨b,c,ty',hv,hb,hσ,h0,hno,hzc⟩:=hraw;have hbl:b<w.heap.size:=lt_of_some hb
   have hb':w'.heap[b]? =some (.cells c ty' (0,0)):=by rw[(hst'.far b hbl hno).1];exact hb
   have hσ':σ' b=0:=by rw[(hst'.far b hbl hno).2];exact hσ
   have hno':¬Own (st m').st β' b:=fun h=>(hst'.own b h).elim hno (fun h=>by omega);have hv':a'.tmps.getD d undef=.pointer (some ⟨b,0,none⟩):=(ha' d hod.1).trans hv;have aoD:Raw P R p w0 w' σ' (st m').st β' (a'.tmps.getD d undef):=⟨b,c,ty',hv',hb',hσ',h0,hno',hzc⟩;by_cases hP':pQ E R p (listed.setIfInBounds i true)
   ·refine⟨by simpa using hM.size,Ii,m',hm',fun j x hx sZ hjp=>hD' j x hx sZ (fun e=>absurd hP' (hjp e)),σ',β',hR'.size,hR'.defers,hS',fun t=> ?_,hst.trans hst',hkp.trans Ar,fun _=>⟨hmp hP,fun d' hd'=>by rw[hdp] at hd';cases hd';exact aoD⟩⟩;unfold vU;by_cases e:gT R p=some t
    ·rw[if_pos ⟨hP',e⟩];exact trivial
    ·rw[if_neg (fun h=>e h.2),<-ahg (st m').st t (fun h=>e h.2)];exact hT' t
   ·
    have hpl:(listed.setIfInBounds i true).getD p false=true:=getD_set_true hp1
    have hall:∀j x,j<p->R[j]? =some x->gD E x.op=true->(listed.setIfInBounds i true).getD j false=true:=fun j x hj hx hD=>by
     cases hl:(listed.setIfInBounds i true).getD j false with
     |true=>rfl
     |false=>exact absurd ⟨hpl,hp2,j,x,hj,hx,hD,hl⟩ hP'
    have amD:∀j x,p<j->R[j]? =some x->gD E x.op=true->(listed.setIfInBounds i true).getD j false=false:=fun j x hj hx hD=>by
     cases hl:(listed.setIfInBounds i true).getD j false with
     |false=>rfl
     |true=>
      exfalso;rcases hok.pair j0 j x0 x (by omega) hx0 hx (by simp[oF,hD,hD0]) with hbt|⟨e,_⟩
      ·rcases abh j hl with e|hl
       ·subst e;rw[BJ j0 hbt] at hu0;cases hu0
       ·rw[Ih j x j0 hx hl hbt] at hu0;cases hu0
      ·omega
    have atu:=hmp hP
    have hsm:(st p).st=(st m').st:=by
     have:=Gt hT (i:=m') (p-m') (by omega) (fun j x h1 h2 h3=>by
      cases sZ:gD E x.op with
      |false=>rfl
      |true=>
       have:=(hD' j x h3 sZ (fun e=>by omega)).1 (hall j x (by omega) h3 sZ)
       omega)
     rwa [show m'+(p-m')=p from by omega] at this
    obtain⟨po',amE,htp⟩:=hT p hp2;rw[hpo] at amE;cases amE
    obtain⟨ty,hop⟩:∃ty,po.op=.alloc ty:=by
     cases h:po.op<;>rw[h] at hal<;>first|exact⟨_,rfl⟩|cases hal
    obtain⟨zs,own,Ω,hzs,hs0,hs1,hvp⟩:=Ol htp hop hgn hd;rw[hsm] at hs0;have xI:=hst.trans hst';have amF:=hkp.trans Ar;rw[hs0] at hS' hT' xI amF hno';obtain⟨bo,bΩ,rfl,hlen,q1,q2,q3⟩:=ahd hS' xI hb' hσ' h0 hno' (hzc po ty zs hpo hop hzs);rw[<-hs1] at q1 q2 q3;refine⟨by simpa using hM.size,Ii,p+1,by omega,fun j x hx sZ _=> ?_,σ',_,hR'.size,hR'.defers,q1,fun t=> ?_,q3,amF.trans q2,fun h=>absurd h hP'⟩
    ·rcases Nat.lt_trichotomy j p with h|h|h
     ·exact⟨fun _=>by omega,fun _=>hall j x h hx sZ⟩
     ·subst h;exact⟨fun _=>by omega,fun _=>hpl⟩
     ·rw[amD j x h hx sZ];exact⟨fun h=>(by cases h),fun h=>by omega⟩
    ·unfold vU;rw[if_neg (fun h=>hP' h.1)];by_cases e:t=d
     ·subst e
      rw[Ie (E:=fun i_1=>(listed.setIfInBounds i true).getD i_1 false) hpl hdp R.size hp2 (fun j hj hpj hdj=>by
       obtain⟨x,hx⟩:∃x,R[j]? =some x:=⟨_,Array.getElem?_eq_getElem hj⟩
       have hxd:x.dst=some t:=by simpa [gT,hx] using hdj
       have ahf:x.apart R po=false:=by
        cases hap:x.apart R po with
        |false=>rfl
        |true=>exact absurd hd ((Oper.apart_spec hap).2.1 t hxd)
       have hbt:=aoC j x (by omega) hx ahf j0 x0 hj0 hx0 hD0
       cases hl:(listed.setIfInBounds i true).getD j false with
       |false=>rfl
       |true=>
        exfalso;rcases abh j hl with e|hl
        ·subst e;rw[BJ j0 hbt.2] at hu0;cases hu0
        ·rw[Ih j x j0 hx hl hbt.2] at hu0;cases hu0),hvp,hv',hs1]
      exact ZW hlen
     ·rw[<-ahg (st m').st t (fun h=>e (by rw[hdp] at h;exact(Option.some.inj h.2).symm))];have h1:=hT' t;rw[hs0];exact h1.mono (eG.refl _ _) q2
  ·have hP':¬pQ E R p (listed.setIfInBounds i true):=fun h=>hP (hPP h);refine⟨by simpa using hM.size,Ii,m',hm',fun j x hx sZ _=>hD' j x hx sZ (fun _=>hP),σ',β',hR'.size,hR'.defers,hS',fun t=> ?_,hst.trans hst',hkp.trans Ar,fun h=>absurd h hP'⟩;unfold vU;rw[if_neg (fun h=>hP' h.1),<-ahg (st m').st t (fun h=>hP h.1)];exact hT' t
 have keepD:gD E o.op=false->∀j x,R[j]? =some x->gD E x.op=true->(j=p->¬pQ E R p listed)->((listed.setIfInBounds i true).getD j false=true<->j<m):=by
  intro hD j x hx sZ hjp
  have hji:j≠i:=fun e=>by rw[e,ho] at hx;cases hx;rw[hD] at sZ;cases sZ
  rw[getD_set_ne false (Ne.symm hji)];exact hmD j x hx sZ hjp
 have hmP:pQ E R p listed->m<=p:=fun h=>(Ae h).1
 have quiet:∀(w':World)(σ':Nat->Nat)(v:Value),gD E o.op=false->Grow w σ w' σ'->dS w' σ' (st m).st β (vs i) v->Mid P N E R p st vs β0 σ0 w0 (listed.setIfInBounds i true) (a.put o.dst v) w':=by
  intro w' σ' v hD hg hv;exact fin m _ w' σ' β hm (keepD hD) hmP (fun d hd=>wC hd) (Dz hdn hsz hdf (hS.grow hg) (hR.T.mono hg.near (Keep.refl _ _)) hv) (Step.lX hg) (Keep.refl _ _)
 have hDs:gD E o.op=true->∀j x,R[j]? =some x->gD E x.op=true->(j=p->¬pQ E R p listed)->(listed.getD j false=true<->j<i):=by
  intro hD j x hx sZ hjp;by_cases e:j=i
  ·subst e;rw[zD];simp
  ·exact hdone j x hx e hjp (by simp[oF,hD,sZ])
 have hsame:gD E o.op=true->(st m).st=(st i).st:=by
  intro hD
  have hno:∀j x,R[j]? =some x->(i<=j/\j<m\/m<=j/\j<i)->gD E x.op=false:=by
   intro j x hx hj
   cases sZ:gD E x.op with
   |false=>rfl
   |true=>
    have hjp:j=p->¬pQ E R p listed:=fun e hP=>by
     have:=Sc hP hD;have:=hmP hP;omega
    have h1:=hDs hD j x hx sZ hjp;have h2:=hmD j x hx sZ hjp;rcases hj with hj|hj
    ·have:=h1.1 (h2.2 hj.2);omega
    ·have:=h2.1 (h1.2 hj.2);omega
  rcases Nat.le_total i m with h|h
  ·have:=Gt hT (i:=i) (m-i) (by omega) (fun j x h1 h2 h3=>hno j x h3 (.inl ⟨h1,by omega⟩))
   rwa [show i+(m-i)=m from by omega] at this
  ·have:=Gt hT (i:=m) (i-m) (by omega) (fun j x h1 h2 h3=>hno j x h3 (.inr ⟨h1,by omega⟩));rw[show m+(i-m)=i from by omega] at this;exact this.symm
 have adX:gD E o.op=true->∀j x,R[j]? =some x->gD E x.op=true->(j=p->¬pQ E R p listed)->((listed.setIfInBounds i true).getD j false=true<->j<i+1):=by
  intro hD j x hx sZ hjp;by_cases e:j=i
  ·subst e;rw[hset];simp
  ·rw[getD_set_ne false (Ne.symm e),hDs hD j x hx sZ hjp];omega
 have hiP:gD E o.op=true->pQ E R p listed->i+1<=p:=fun hD hP=>Sc hP hD;unfold wpOp;rw[ho]
 simp only
 have hRR:lN N ⟨tT,(st m).st⟩ a w σ β:=hR;rcases ht with⟨hg,hv,hs'⟩|⟨hg,hD,hv,hs'⟩|⟨hg,hD,hx,hs',_⟩
 ·
  have hw:Region.wanted o (yielded R a.tmps)=false:=by
   rw[<-hgd] at hg;unfold gd at hg;split at hg
   ·cases hg
   ·rename_i j want hgu;split at hg
    ·rename_i x hx;have hy:=Ea (s:=⟨tT,(st m).st⟩) hRR hx
     have hne:x≠want:=by
      intro e;rw[e] at hg;simp at hg
     simp[Region.wanted,hgu,hy,hne]
    ·rename_i hx;have hy:=Jh (s:=⟨tT,(st m).st⟩) hRR hx;simp[Region.wanted,hgu,hy]
    ·cases hg
  rw[if_neg (by rw[hw];simp)]
  have hvu:dS w σ (st m).st β (vs i) undef:=by rw[hv];exact yL
  by_cases hD:gD E o.op=true
  ·have hsm:=hsame hD
   have hs1:(st (i+1)).st=(st m).st:=by rw[hsm,hs'];cases o.dst<;>rfl
   refine fin (i+1) _ w σ β hlt (adX hD) (hiP hD) (fun d hd=>wC hd) (by rw[hs1];exact Dz hdn hsz hdf hS hR.T hvu) (by rw[hs1];exact Step.lX (Grow.refl hS.live)) (by rw[hs1];exact Keep.refl _ _)
  ·exact quiet w σ undef (by simpa using hD) (Grow.refl hS.live) hvu
 all_goals
  have hw:Region.wanted o (yielded R a.tmps)=true:=by
   rw[<-hgd] at hg;unfold gd at hg;split at hg
   ·rename_i hgu;simp[Region.wanted,hgu]
   ·rename_i j want hgu;split at hg
    ·rename_i x hx;have hy:=Ea (s:=⟨tT,(st m).st⟩) hRR hx;simp at hg;simp[Region.wanted,hgu,hy,hg]
    ·cases hg
    ·cases hg
  rw[if_pos hw];left
 ·
  rcases hv with⟨c,hc,hcn⟩|⟨hcond,hval⟩
  ·have hcn':=ag4 (tm':=tT) (fun x hx=>hev x (by rw[hc];exact hx)) hcn;unfold Ia at hcn';split at hcn'
   ·rename_i x hcx;split at hcn'
    ·rename_i f caps hex
     have hcall:pq P c ⟨tT,(st m).st⟩ o.dst (fun t=>t=St.put ⟨tT,(st m).st⟩ o.dst (vs i)):=by
      unfold pq;rw[hcx];simp only[hex];exact .inl ⟨_,hcn' (st m).st,fun r S' hp=>by rw[hp.1,hp.2]⟩
     refine Oper.wp_mono ?_ (Oper.adW (Oc (Q:=Q) hc hdn hRR hcall));rintro a' w' ⟨⟨s'',σ',β',hR',hst',Ar,hK⟩,ha'⟩;subst hK;rw[nk] at hst' Ar;exact fin m a' w' σ' β' hm (keepD hD) hmP ha' hR' hst' Ar
    ·exact hcn'.elim
   ·exact hcn'.elim
  ·have hcv:kJ o.op=false:=by
    cases hc:kJ o.op with
    |false=>rfl
    |true=>
     exfalso;unfold kJ at hc;split at hc
     ·rename_i x b c hop;rw[hop] at hcond;exact iO hcond
     ·cases hc
   have ajZ:∀k,refs (st i).tm o k->∀j x,R[j]? =some x->(i<=j/\j<m\/m<=j/\j<i)->l8 E x.op=false\/bA (st (j+1)).st k=bA (st j).st k:=by
    intro k hk j x hx hj
    cases hs:l8 E x.op with
    |false=>exact .inl rfl
    |true=>
     have sZ:gD E x.op=true:=adT hs
     have hji:j≠i:=fun e=>by rw[e,ho] at hx;cases hx;rw[hD] at sZ;cases sZ
     rcases hok.store j i x o hji hx ho hs hD hcv with hb|hb
     ·have h1:=hbit j x hx hji hb
      have h2:=hmD j x hx sZ (fun e=>by
       subst e;have:=(wB (E:=E) (hok.pend x hx).1).2.1
       rw[hs] at this;cases this)
      rcases hj with hj|hj
      ·have:=h1.1 (h2.2 hj.2);omega
      ·have:=h2.1 (h1.2 hj.2);omega
     ·exact .inr (hb k hk)
   have e1:=akB (P:=P) (S:=(st i).st) (tm:=(st i).tm) (tm':=tT) (op:=o.op) hev;rw[e1] at hcond hval
   have e2:o9 P (rE (st i).st) (st m).st tT o.op=o9 P (rE (st i).st) (st i).st tT o.op:=by
    cases hmv:abg o.op with
    |true=>exact ahb hmv
    |false=>
     exact ag5 (P:=P) (l:=rE (st i).st) (S:=(st i).st) (S':=(st m).st) (tm:=tT) (op:=o.op) hcond (by
     intro x hx k hk ob hob hbr;have hrf:refs (st i).tm o k:=⟨hmv,x,hx,by rw[hev x hx];exact hk⟩;rcases Nat.le_total i m with h|h
     ·have hds:=abe hT (i:=i) (k:=k) (m-i) (by omega) (fun j x h1 h2 h3=>ajZ k hrf j x h3 (.inl ⟨h1,by omega⟩));rw[show i+(m-i)=m from by omega] at hds;rcases hds ob hob with h'|⟨⟨z,es,e⟩,_⟩
      ·exact h'
      ·rcases e with e|⟨_,e⟩<;>rw[e] at hbr<;>exact hbr.elim
     ·have hds:=abe hT (i:=m) (k:=k) (i-m) (by omega) (fun j x h1 h2 h3=>ajZ k hrf j x h3 (.inr ⟨h1,by omega⟩));rw[show m+(i-m)=i from by omega] at hds;have hrx:=kW (a:=a) hR.T x
      have hin:∃o',bA (st m).st k=some o':=by
       rcases hk with⟨off,e⟩|⟨i',off,e⟩|e|e|⟨r',p',e⟩|⟨r',p',z',i',off,e⟩<;>rw[show ev (⟨tT,(st m).st⟩:St).tm x=ev tT x from rfl,e] at hrx<;>obtain⟨⟨o',ho',_⟩,_⟩:=hrx<;>exact⟨o',ho'⟩
      obtain⟨o',ho'⟩:=hin;rcases hds o' ho' with h'|⟨_,o2,z,es,h',e⟩
      ·rw[hob] at h';cases h';exact ho'
      ·rw[hob] at h';cases h'
       rcases e with e|⟨_,e⟩<;>rw[e] at hbr<;>exact hbr.elim)
   have amH:(o9 P (rE (st i).st) (st m).st tT o.op).1:=by rw[e2];exact hcond
   have hval':vs i=(o9 P (rE (st i).st) (st m).st tT o.op).2:=by rw[e2];exact hval
   obtain⟨v,w',σ',hrun,hgr,xG⟩:=Mg (P:=P) _ o hS hR.T amH;unfold Oper.wp;rw[hrun];exact quiet w' σ' v hD hgr (by rw[hval'];exact xG)
 ·have hsm:=hsame hD
  have hx':dD P o ⟨(st i).tm,(st i).st⟩ (fun t=>t=St.put ⟨(st i).tm,(st (i+1)).st⟩ o.dst (vs i)):=by
   rw[hs'] at hx;exact hx
  have hx2:=ag3 hD hev hx';rw[<-hsm] at hx2;refine Oper.wp_mono ?_ (Oper.adW (H7 (Q:=Q) hdn hRR hx2));rintro a' w' ⟨⟨s'',σ',β',hR',hst',Ar,hK⟩,ha'⟩;subst hK;rw[nk] at hst' Ar;exact fin (i+1) a' w' σ' β' hlt (adX hD) (hiP hD) ha' hR' hst' Ar
theorem akF{st:Nat->St}{vs:Nat->V}{β0:Hs}{σ0:Nat->Nat}{w0:World}{Q:Exit->Act->World->Prop}{p:Nat}(hok:Oj E R N st p)
 (hT:∀i,i<R.size->∃o,R[i]? =some o/\nN P E R o (st i) (vs i) (st (i+1)))(hQ:∀listed a w,Mid P N E R p st vs β0 σ0 w0 listed a w->(∀i,i<R.size->listed.getD i false=true)->Q .normal a w):
 ∀(fuel:Nat)(listed:Array Bool)(a:Act)(w:World),(List.range R.size).countP (fun i=> !listed.getD i false)<=fuel->Mid P N E R p st vs β0 σ0 w0 listed a w->wpAny P .any R Q fuel listed a w:=by
 have hend:∀listed a w,Mid P N E R p st vs β0 σ0 w0 listed a w->Region.ready .any R listed=[]->Q .normal a w:=by
  intro listed a w hM hr;refine hQ listed a w hM ?_;intro i
  induction i using Nat.strongRecOn with
  |_ i ih=>
   intro hi
   cases hE:listed.getD i false with
   |true=>rfl
   |false=>
    exfalso;have ho:R[i]? =some R[i]:=Array.getElem?_eq_getElem hi
    have:i∈Region.ready .any R listed:=by
     rw[mem_ready]
     have hs:i<listed.size:=by rw[hM.size];exact hi
     refine⟨by simp[hs] at hE ⊢;exact hE,_,ho,fun e he hb=> ?_⟩;have hon:=hok.edge i _ e ho he hb;exact ih e.on hon (by omega)
    rw[hr] at this;simp at this
 intro fuel
 induction fuel with
 |zero=>
  intro listed a w hc hM
  have hnone:Region.ready .any R listed=[]:=by
   cases hr:Region.ready .any R listed with
   |nil=>rfl
   |cons i l=>
    exfalso
    have hi:i∈Region.ready .any R listed:=by rw[hr];simp
    obtain⟨hun,o,ho,_⟩:=mem_ready.1 hi;have hlt:=(Array.getElem?_eq_some_iff.1 ho).1
    have hs:i<listed.size:=by rw[hM.size];exact hlt
    have hz:(List.range R.size).countP (fun i=> !listed.getD i false)=0:=by omega
    rw[List.countP_eq_zero] at hz;have:=hz i (List.mem_range.2 hlt);simp[hs] at hun this;rw[hun] at this;cases this
  exact⟨hnone,hend listed a w hM hnone⟩
 |succ fuel ih=>
  intro listed a w hc hM;refine⟨hend listed a w hM,fun i hi=> ?_⟩;refine wpOp_mono (fun a' w' hM'=>ih _ a' w' ?_ hM') (mid_step hok hT hM hi);obtain⟨hun,o,ho,_⟩:=mem_ready.1 hi;have hlt:=(Array.getElem?_eq_some_iff.1 ho).1
  have hs:i<listed.size:=by rw[hM.size];exact hlt
  have:=cnt_lt (fun j=> !listed.getD j false) (fun j=> !(listed.setIfInBounds i true).getD j false) (List.range R.size) i (fun x hx=>by
   by_cases e:x=i
   ·subst e;simp[hs] at hx
   ·rw[getD_set_ne false (Ne.symm e)] at hx;exact hx) (List.mem_range.2 hlt) (by simp[hs] at hun ⊢;exact hun) (by simp[hs])
  omega
theorem Ed{id:Nat}{Q:Exit->St->Prop}{s:St}(eP:P.follows .mixedOrders=true){st:Nat->St}{vs:Nat->V}(h0:st 0=s)(hK:Q .normal (st R.size))
 (hT':∀i,i<R.size->∃o,R[i]? =some o/\nN P E R o (st i) (vs i) (st (i+1))){p:Nat}(hok:Oj E R N st p):AW P N (.region id R true) Q s:=by
 intro a w σ β hR;refine wp_region_any eP ?_;have hgd:Grow w σ {w with drawn:=w.drawn+1} σ:=⟨Nat.le_refl _,rfl,rfl,fun _ _=>⟨rfl,rfl⟩,hR.S.live⟩;refine akF (N:=N) (β0:=β) (σ0:=σ) (w0:=w) hok hT' (fun listed a' w' hM hall=> ?_) R.size _ a _ ?_ ?_
 ·obtain⟨m,hm,hmD,σ',β',hsz,hdf,hS,Vx,hst,hkp,_⟩:=hM.rep
  have hnP:¬pQ E R p listed:=by
   rintro⟨_,_,j,x,hj,hx,_,hl⟩;rw[hall j (Array.getElem?_eq_some_iff.1 hx).1] at hl;cases hl
  have hsm:(st R.size).st=(st m).st:=by
   have:=Gt hT' (i:=m) (R.size-m) (by omega) (fun j x h1 h2 h3=>by
    cases sZ:gD E x.op with
    |false=>rfl
    |true=>have:=(hmD j x h3 sZ (fun _=>hnP)).1 (hall j (Array.getElem?_eq_some_iff.1 h3).1);omega)
   rwa [show m+(R.size-m)=R.size from by omega] at this
  rw[h0] at hst hkp;refine⟨st R.size,σ',β',⟨hsz,hdf,by rw[hsm];exact hS,fun t=> ?_⟩,by rw[hsm];exact hst,by rw[hsm];exact hkp.tail,hK⟩;rw[BI hT' t R.size (Nat.le_refl _),hsm];have:=Vx t;unfold vU at this;rw[if_neg (fun h=>hnP h.1)] at this;rw[Bf (E':=fun _=>true) R.size (fun j hj _=>hall j hj)] at this;exact this
 ·calc (List.range R.size).countP _<=(List.range R.size).length:=List.countP_le_length
   _=R.size:=List.length_range
 ·refine⟨by simp,fun i o e ho hE _ _=> ?_,0,Nat.zero_le _,fun i o ho _=> ?_,σ,β,hR.size,hR.defers,by rw[h0];exact hR.S.grow hgd,fun t=> ?_,by rw[h0];exact Step.lX hgd,Keep.refl _ _,fun h=>by have h1:=h.1;rw[getD_replicate_false] at h1;cases h1⟩
  ·rw[getD_replicate_false] at hE;cases hE
  ·rw[getD_replicate_false];simp
  ·have:mZ R vs (fun i=>(Array.replicate R.size false).getD i false) (st 0).tm R.size t=look (st 0).tm t:=by
    have:=FU (R:=R) (vs:=vs) (E:=fun i=>(Array.replicate R.size false).getD i false) (base:=(st 0).tm) (t:=t) (i:=0) R.size (fun j _ _=>by rw[getD_replicate_false];simp);rw[this,Nat.min_zero];rfl
   unfold vU;rw[if_neg (fun h=>by have h1:=h.1.1;rw[getD_replicate_false] at h1;cases h1),this,h0];exact(hR.T t).mono hgd.near (Keep.refl _ _)
theorem akG{id:Nat}{Q:Exit->St->Prop}{s:St}(eP:P.follows .mixedOrders=true)(hok:BG E R N=true)(h:uH P E R R.toList s (Q .normal)):AW P N (.region id R true) Q s:=by
 obtain⟨st,vs,h0,hK,hT⟩:=Ig R.size 0 (by omega) s h;exact Ed eP h0 hK (fun i hi=>hT i (Nat.zero_le i) hi) (amz hok)
theorem ahh{id p:Nat}{Q:Exit->St->Prop}{s:St}(eP:P.follows .mixedOrders=true)(hok:Gs E R N p=true)(h:uH P E R R.toList s (Q .normal)):AW P N (.region id R true) Q s:=by
 obtain⟨st,vs,h0,hK,hT⟩:=Ig R.size 0 (by omega) s h;exact Ed eP h0 hK (fun i hi=>hT i (Nat.zero_le i) hi) (akE hok)
theorem abj{id:Nat}{Q:Exit->St->Prop}{s:St}(eP:P.follows .mixedOrders=true)(hok:QL R N=true)(h:uH P (Oi R N) R R.toList s (Q .normal)):AW P N (.region id R true) Q s:=by
 unfold QL at hok;rw[Bool.or_eq_true] at hok;rcases hok with hok|hok
 ·exact akG eP hok h
 ·split at hok
  ·exact ahh eP hok h
  ·cases hok
theorem abk{v w:V}(h:abd v w=true){k k':Key}(hv:(∃off,v=.c (.ptr k' off))\/(∃i off,v=.c (.nL k' i off))\/∃r p z i off,v=.c (.xq k' r p z i off))
 (hw:Lg w k):k'≠k:=by
 rintro rfl;rcases hv with⟨_,rfl⟩|⟨_,_,rfl⟩|⟨_,_,_,_,_,rfl⟩<;>rcases hw with⟨_,rfl⟩|⟨_,_,rfl⟩|rfl|rfl|⟨_,_,rfl⟩|⟨_,_,_,_,_,rfl⟩<;>simp[abd] at h
theorem Ml{o:Oper}{t:TypeId}{a y:Operand}{s s':St}{v:V}(hop:o.op=.store t a y)(h:nN P E R o s v s'){k:Key}
 (hk:∀k',((∃off,ev s.tm a=.c (.ptr k' off))\/(∃i off,ev s.tm a=.c (.nL k' i off))\/∃r p z i off,ev s.tm a=.c (.xq k' r p z i off))->k'≠k):bA s'.st k=bA s.st k:=by
 rcases h with⟨_,_,h⟩|⟨_,_,_,h⟩|⟨_,_,h,_,_⟩
 ·rw[h];cases o.dst<;>rfl
 ·rw[h];cases o.dst<;>rfl
 ·obtain⟨dst,op,ty,pos,after,guard⟩:=o;subst hop;simp only[dD,wh] at h;split at h
  ·rename_i k' off he;split at h
   ·obtain⟨_,_,_,h4⟩:=h;rw[<-h4,nk];exact fI _ _ _ _ (hk k' (.inl ⟨_,he⟩))
   ·exact h.elim
  ·rename_i k' i off he;split at h
   ·obtain⟨_,_,_,_,h5⟩:=h;rw[<-h5,nk];exact fI _ _ _ _ (hk k' (.inr (.inl ⟨_,_,he⟩)))
   ·exact h.elim
  ·rename_i k' r p z i off he;split at h
   ·split at h
    ·split at h
     ·obtain⟨_,_,_,_,_,h6⟩:=h;rw[<-h6,nk];exact fI _ _ _ _ (hk k' (.inr (.inr ⟨_,_,_,_,_,he⟩)))
     ·exact h.elim
    ·exact h.elim
   ·exact h.elim
  ·exact h.elim
theorem Dg{st:Nat->St}{vs:Nat->V}(hT:∀i,i<R.size->∃o,R[i]? =some o/\nN P E R o (st i) (vs i) (st (i+1))){i:Nat}(hi:i<=R.size){a:Operand}(h:settled R i a=true):
 ev (st R.size).tm a=ev (st i).tm a:=by
 cases a with
 |tmp t=>
  show look _ t=look _ t
  have key:∀n,i+n<=R.size->look (st (i+n)).tm t=look (st i).tm t:=by
   intro n
   induction n with
   |zero=>intro _;rfl
   |succ n ih=>
    intro hn;rw[BI hT t (i+(n+1)) hn,show i+(n+1)=i+n+1 from rfl,mZ,if_neg,<-BI hT t (i+n) (by omega),ih (by omega)];rintro⟨_,hd⟩;have:=List.all_eq_true.1 h (i+n) (List.mem_range.2 (by omega));rw[hd] at this;simp at this;omega
  have:=key (R.size-i) (by omega)
  rwa [show i+(R.size-i)=R.size from by omega] at this
 |_=>rfl
theorem Sd{st:Nat->St}{vs:Nat->V}{p:Nat}(hed:∀(i:Nat)(o:Oper),R[i]? =some o->(o.after.toList.all (fun e=> !Region.binds .any e||decide (e.on<i))&&(match o.dst with|some d=>decide (d<N)|none=>true))=true)
 (Ae:∀o,R[p]? =some o->Av o.op=true/\o.guard=none/\(∃d,o.dst=some d)/\∀j y,j≠p->R[j]? =some y->y.apart R o=false->∀i x,i<p->R[i]? =some x->gD E x.op=true->i<j/\((masks R.toList []).getD j 0).testBit i=true)
 (hp:∀(i j:Nat) (x y:Oper),i<j->R[i]? =some x->R[j]? =some y->((masks R.toList []).getD j 0).testBit i=true\/(x.apart R y=true/\(j=p\/((gD E x.op&&gD E y.op)=false/\(l8 E x.op=true->uY R i x j y=true)/\(l8 E y.op=true->uY R j y i x=true)))))
 (hT:∀i,i<R.size->∃o,R[i]? =some o/\nN P E R o (st i) (vs i) (st (i+1)))(hl:Lh E R (st R.size).tm=true):Oj E R N st p:=by
 refine⟨?_,?_,?_,?_,Ae⟩
 ·intro i o e ho he hb;have h2:=hed i o ho;simp only[Bool.and_eq_true] at h2;have h3:=List.all_eq_true.1 h2.1 e (by simpa using he);simpa [hb] using h3
 ·intro i o ho d hd;have h2:=hed i o ho;simp only[Bool.and_eq_true,hd] at h2;simpa using h2.2
 ·intro i j x y hij hx hy hc;rcases hp i j x y hij hx hy with h|⟨h1,h⟩
  ·exact .inl h
  ·unfold oF at hc;rw[h1] at hc;simp only[Bool.not_true,Bool.false_or] at hc;rcases h with h|⟨h,_⟩
   ·rw[Bool.and_eq_true] at hc;exact .inr ⟨h,hc.1,h1⟩
   ·rw[hc] at h;cases h
 ·intro i j x o hij hx ho hs hD hc
  have hjp:j≠p:=fun e=>by
   subst e;have:=(wB (E:=E) (Ae o ho).1).1;rw[hD] at this;cases this
  have Sc:i≠p:=fun e=>by
   subst e;have:=(wB (E:=E) (Ae x hx).1).2.1;rw[hs] at this;cases this
  cases hb:uJ R i j with
  |true=>exact .inl rfl
  |false=>
   refine .inr ?_;rintro k ⟨_,z,hz,hk⟩;have hi:i<R.size:=(Array.getElem?_eq_some_iff.1 hx).1;have hj:j<R.size:=(Array.getElem?_eq_some_iff.1 ho).1
   have hlo:uY R i x j o=true:=by
    unfold uJ at hb;by_cases e:i<j
    ·rw[if_pos e] at hb;rcases hp i j x o e hx ho with h|⟨_,h|⟨_,h,_⟩⟩
     ·rw[hb] at h;cases h
     ·exact absurd h hjp
     ·exact h hs
    ·rw[if_neg e] at hb;rcases hp j i o x (by omega) ho hx with h|⟨_,h|⟨_,_,h⟩⟩
     ·rw[hb] at h;cases h
     ·exact absurd h Sc
     ·exact h hs
   unfold uY at hlo;rw[hc,Bool.false_or] at hlo;split at hlo
   ·rename_i t a y hop;rw[Bool.and_eq_true] at hlo
    have hz':z∈o.op.operands.toList:=by simpa using hz
    have hsz:=List.all_eq_true.1 hlo.2 z hz';have h1:=List.all_eq_true.1 hl i (List.mem_range.2 hi);rw[hx] at h1;simp only[hs,Bool.not_true,Bool.false_or,hop] at h1;have h2:=List.all_eq_true.1 h1 j (List.mem_range.2 hj);rw[ho] at h2;simp only[hb,hD,hc,Bool.false_or] at h2;have h3:=List.all_eq_true.1 h2 z hz';obtain⟨x',hx',ht⟩:=hT i hi;rw[hx] at hx';cases hx';refine Ml hop ht fun k' hk'=> ?_;rw[Dg hT (by omega) hlo.1,Dg hT (by omega) hsz] at h3;exact abk h3 hk' hk
   ·cases hlo
theorem Ij{f:Nat->Nat->Oper->Oper->Bool}(h:((List.range R.size).all fun j=>
 (match R[j]? with
  |some o=>o.after.toList.all (fun e=> !Region.binds .any e||decide (e.on<j))&&(match o.dst with|some d=>decide (d<N)|none=>true)
  |none=>true)&&
 (List.range j).all fun i=>
   match R[i]?,R[j]? with
   |some x,some y=>((masks R.toList []).getD j 0).testBit i|| !(f i j x y)
   |_,_=>true)=true):
 (∀(i:Nat) (o:Oper),R[i]? =some o->(o.after.toList.all (fun e=> !Region.binds .any e||decide (e.on<i))&&(match o.dst with|some d=>decide (d<N)|none=>true))=true)/\
 ∀(i j:Nat)(x y:Oper),i<j->R[i]? =some x->R[j]? =some y->((masks R.toList []).getD j 0).testBit i=true\/f i j x y=false:=by
 refine⟨fun i o ho=> ?_,fun i j x y hij hx hy=> ?_⟩
 ·have hj:i<R.size:=(Array.getElem?_eq_some_iff.1 ho).1;have h1:=List.all_eq_true.1 h i (List.mem_range.2 hj);rw[Bool.and_eq_true,ho] at h1;exact h1.1
 ·have hj:j<R.size:=(Array.getElem?_eq_some_iff.1 hy).1;have h1:=List.all_eq_true.1 h j (List.mem_range.2 hj);rw[Bool.and_eq_true] at h1;have h2:=List.all_eq_true.1 h1.2 i (List.mem_range.2 hij);rw[hx,hy] at h2;simp only[Bool.or_eq_true,Bool.not_eq_true'] at h2;exact h2
theorem ahi{st:Nat->St}{vs:Nat->V}(hok:Gq E R N=true)(hT:∀i,i<R.size->∃o,R[i]? =some o/\nN P E R o (st i) (vs i) (st (i+1)))(hl:Lh E R (st R.size).tm=true):Oj E R N st R.size:=by
 obtain⟨h1,h2⟩:=Ij (f:=fun i j x y=>oF E R x y||(l8 E x.op&& !(uY R i x j y))||(l8 E y.op&& !(uY R j y i x))) hok;refine Sd h1 (fun o ho=>by rw[Array.getElem?_eq_none (Nat.le_refl _)] at ho;cases ho) (fun i j x y hij hx hy=>(h2 i j x y hij hx hy).imp id fun h=> ?_) hT hl;simp only[oF,Bool.or_eq_false_iff,Bool.not_eq_false',Bool.and_eq_false_imp] at h;obtain⟨⟨⟨q1,q2⟩,q3⟩,q4⟩:=h;refine⟨q1,.inr ⟨?_,q3,q4⟩⟩
 cases hx:gD E x.op with
 |false=>rfl
 |true=>rw[q2 hx];rfl
theorem adY{st:Nat->St}{vs:Nat->V}{p:Nat}(hok:Ib E R N p=true)(hT:∀i,i<R.size->∃o,R[i]? =some o/\nN P E R o (st i) (vs i) (st (i+1)))(hl:Lh E R (st R.size).tm=true):Oj E R N st p:=by
 unfold Ib at hok;rw[Bool.and_eq_true] at hok;obtain⟨h1,h2⟩:=Ij (f:=fun i j x y=> !(x.apart R y)||(!(decide (j=p))&&((gD E x.op&&gD E y.op)||(l8 E x.op&& !(uY R i x j y))||(l8 E y.op&& !(uY R j y i x))))) hok.2;refine Sd h1 (QM hok.1) (fun i j x y hij hx hy=>(h2 i j x y hij hx hy).imp id fun h=> ?_) hT hl;rw[Bool.or_eq_false_iff,Bool.not_eq_false'] at h;refine⟨h.1,?_⟩;by_cases e:j=p
 ·exact .inl e
 ·have h3:=h.2;simp only[e,decide_false,Bool.not_false,Bool.true_and,Bool.or_eq_false_iff] at h3;obtain⟨⟨q2,q3⟩,q4⟩:=h3;exact .inr ⟨q2,fun hx=>by rw[hx] at q3;simpa using q3,fun hy=>by rw[hy] at q4;simpa using q4⟩
theorem Vy{id:Nat}{Q:Exit->St->Prop}{s:St}(eP:P.follows .mixedOrders=true)(hok:Gq E R N=true)(h:uH P E R R.toList s (fun s'=>Lh E R s'.tm=true/\Q .normal s')):AW P N (.region id R true) Q s:=by
 obtain⟨st,vs,h0,hK,hT⟩:=Ig R.size 0 (by omega) s h;have hT':=fun i hi=>hT i (Nat.zero_le i) hi;exact Ed eP h0 hK.2 hT' (ahi hok hT' hK.1)
theorem Mq{id:Nat}{Q:Exit->St->Prop}{s:St}(eP:P.follows .mixedOrders=true)(hok:Ic R N=true)(h:uH P (uZ R N) R R.toList s (fun s'=>Lh (uZ R N) R s'.tm=true/\Q .normal s')):AW P N (.region id R true) Q s:=by
 unfold Ic at hok;rw[Bool.or_eq_true] at hok;rcases hok with hok|hok
 ·exact Vy eP hok h
 ·split at hok
  ·obtain⟨st,vs,h0,hK,hT⟩:=Ig R.size 0 (by omega) s h;have hT':=fun i hi=>hT i (Nat.zero_le i) hi;exact Ed eP h0 hK.2 hT' (adY hok hT' hK.1)
  ·cases hok
end
section
variable {P:Program} {w w':World} {σ σ':Nat->Nat} {S S':Store} {β β':Hs} {N:Nat} {s:St} {a:Act}
theorem ni{c:Code}{Q:Exit->St->Prop}{s s':St}(h:AW P N c Q s')
 (hg:∀(a:Act) (w:World) (σ:Nat->Nat) (β:Hs),lN N s a w σ β->∃σ' β',lN N s' a w σ' β'/\Step s.st β σ w s'.st β' σ' w/\Keep (iq s.st) (iq β) (iq s'.st) (iq β')):AW P N c Q s:=by
 intro a w σ β hR;obtain⟨σ',β',hR',hst,hk⟩:=hg a w σ β hR;refine wp_mono (h a w σ' β' hR') ?_;rintro e a' w' ⟨s'',DV,β'',k1,k2,k3,k4⟩;exact⟨s'',DV,β'',k1,hst.trans k2,hk.trans k3,k4⟩
def gU(N:Nat)(s s':St):Prop:=∀(a:Act)(w:World)(σ:Nat->Nat)(β:Hs),lN N s a w σ β->∃σ' β',lN N s' a w σ' β'/\Step s.st β σ w s'.st β' σ' w/\Keep (iq s.st) (iq β) (iq s'.st) (iq β')
theorem gU.refl(N:Nat)(s:St):gU N s s:=fun a w σ β hR=>⟨σ,β,hR,Step.lX (Grow.refl hR.S.live),Keep.refl _ _⟩
theorem gU.trans{s s' s'':St}(h:gU N s s')(k:gU N s' s''):gU N s s'':=fun a w σ β hR=>by
 obtain⟨σ1,β1,r1,st1,k1⟩:=h a w σ β hR;obtain⟨σ2,β2,r2,st2,k2⟩:=k a w σ1 β1 r1;exact⟨σ2,β2,r2,st1.trans st2,k1.trans k2⟩
theorem MX{tm tm':List (Nat×V)}(hl:∀t,look tm' t=look tm t\/look tm' t=.any):gU N ⟨tm,S⟩ ⟨tm',S⟩:=
 fun a w σ β hR=>⟨σ,β,⟨hR.size,hR.defers,hR.S,fun t=>by
  rcases hl t with e|e
  ·show dS w σ S β (look tm' t) _;rw[e];exact hR.T t
  ·show dS w σ S β (look tm' t) _;rw[e];trivial⟩,Step.lX (Grow.refl hR.S.live),Keep.refl _ _⟩
theorem abl{c:Code}{Q:Exit->St->Prop}{tm tm':List (Nat×V)}(h:AW P N c Q ⟨tm',S⟩)(hl:∀t,look tm' t=look tm t\/look tm' t=.any):AW P N c Q ⟨tm,S⟩:=
 ni h fun a w σ β hR=>⟨σ,β,⟨hR.size,hR.defers,hR.S,fun t=>by
  rcases hl t with e|e
  ·show dS w σ S β (look tm' t) _;rw[e];exact hR.T t
  ·show dS w σ S β (look tm' t) _;rw[e];trivial⟩,Step.lX (Grow.refl hR.S.live),Keep.refl _ _⟩
def C.tq:C->C
 | .bB _ es=>.d (.sl es)
 | .bn es=>.d (.sl es)
 |c=>c
def V.tq:V->V
 | .c x=>.c x.tq
 | .agg cs=>.agg (cs.map C.tq)
 |v=>v
theorem Vz{c:C}{v:Value}(h:lC w σ S β c v):lC w σ S β c.tq v:=by
 cases c with
 |bB k es=>exact h.1
 |bn es=>exact h.1
 |_=>exact h
theorem VA{x:V}{v:Value}(h:dS w σ S β x v):dS w σ S β x.tq v:=by
 cases x with
 |c x=>exact⟨Vz h.1,h.2⟩
 |agg cs=>
  obtain⟨ar,ha,hl,hc⟩:=h;refine⟨ar,ha,by simpa using hl,fun j x hx=> ?_⟩;rw[List.getElem?_map] at hx
  cases hcj:cs[j]? with
  |none=>rw[hcj] at hx;cases hx
  |some y=>
   rw[hcj] at hx;cases hx;obtain⟨v,hv,hr,ho⟩:=hc j y hcj;exact⟨v,hv,Vz hr,ho⟩
 |_=>exact h
theorem dw.weaken{f:FuncId}{args args':List V}{post:V->Store->Prop}(h:dw P f args' S post)(hl:args.length=args'.length)
 (hw:∀(j:Nat) (x y:V),args[j]? =some x->args'[j]? =some y->∀w σ β v,dS w σ S β x v->dS w σ S β y v):dw P f args S post:=by
 refine⟨h.1,fun w σ β vs hS hv=>h.2 w σ β vs hS ⟨by rw[<-hl];exact hv.1,fun j y hy=> ?_⟩⟩;have hj:=(List.getElem?_eq_some_iff.1 hy).1;have hx:args[j]? =some (args[j]'(by omega)):=List.getElem?_eq_getElem (by omega);obtain⟨v,h1,h2⟩:=hv.2 j _ hx;exact⟨v,h1,hw j _ y hx hy w σ β v h2⟩
theorem dw.tq{f:FuncId}{args:List V}{post:V->Store->Prop}(h:dw P f (args.map V.tq) S post):dw P f args S post:=
 h.weaken (by simp) fun j x y hx hy w σ β v hr=>by
  rw[List.getElem?_map,hx] at hy;cases hy;exact VA hr
theorem dw.mono{f:FuncId}{args:List V}{post post':V->Store->Prop}(h:dw P f args S post)(hp:∀r S',post r S'->post' r S'):dw P f args S post':=
 ⟨h.1,fun w σ β vs hS hv=>(h.2 w σ β vs hS hv).mono fun e w' ⟨v,r,S',σ',β',h1,h2,h3,h4,h5,h6⟩=>⟨v,r,S',σ',β',h1,h2,h3,h4,h5,hp _ _ h6⟩⟩
theorem Ik{f:FuncId}{args:List V}{s:St}{dst:Option Nat}{K:St->Prop}{r:V}(h:aC P f (args.map V.tq) r)(hK:K (St.put s dst r)):Bc P f args s dst K:=
 .inl ⟨_,(h s.st).tq,fun r' S' hp=>by rw[hp.1,hp.2];exact hK⟩
theorem lQ{c:Code}{Q:Exit->St->Prop}{tm:List (Nat×V)}{own:List Obj}{Ω:Store}(t aW:Nat)(es:List (List D))(hv:look tm t=.c (.bn es))(hes:∀e∈es,e.length=aW)
 (h:AW P N c Q ⟨(t,.c (.bB (0,own.length) es))::tm,(own++[.tok aW es])::Ω⟩):AW P N c Q ⟨tm,own::Ω⟩:=by
 refine ni h fun a w σ β hR=> ?_;obtain⟨bo,bΩ,rfl,hlen⟩:=frames hR;have ht:=hR.T t;rw[hv] at ht;obtain⟨⟨hd,ad,n,hval⟩,hone⟩:=ht
 have hn:n=es.length:=by rw[hval] at hd;cases hd<;>rfl
 have hg:Grow w σ w σ:=Grow.refl hR.S.live
 obtain⟨hS',hk,hst⟩:=hR.S.push (o:=.tok aW es) (h:=a.tmps.getD t undef) hg hlen ⟨hd,hes,ad,n,by rw[hval,hn],by omega,.inl hn⟩ (fun b hb=>by
  rw[hval,hn] at hb
  cases ad<;>simp[owns,blk] at hb)
 refine⟨σ,_,⟨hR.size,hR.defers,hS',fun u=> ?_⟩,hst,Keep.refl _ _⟩;show dS w σ _ _ (if t=u then _ else look tm u) _;by_cases e:t=u
 ·subst e;rw[if_pos rfl];refine⟨⟨hd,_,dx _ _ _,fun a b e=> ?_⟩,hone⟩;obtain⟨_,rfl⟩:=oL (lab:=none) e;exact⟨Nat.le_refl _,fun _=>by rw[<-hlen,dx]⟩
 ·rw[if_neg e];exact(hR.T u).mono (eG.refl _ _) hk
theorem lD{c:Code}{Q:Exit->St->Prop}{tm:List (Nat×V)}{own:List Obj}{Ω:Store}(n t aW:Nat)(es:List (List D))(hv:look tm t=.c (.lZ n es)\/(look tm t=.c (.bn es)/\es=[]))(hes:∀e∈es,e.length=aW)
 (h:AW P N c Q ⟨(t,.c (.bB (0,own.length) es))::tm,(own++[.eu n aW es])::Ω⟩):AW P N c Q ⟨tm,own::Ω⟩:=by
 refine ni h fun a w σ β hR=> ?_;obtain⟨bo,bΩ,rfl,hlen⟩:=frames hR;have ht:=hR.T t
 have hl:∃ad,a.tmps.getD t undef=.slice ad es.length es.length/\dJ w σ (.ol n es) (a.tmps.getD t undef):=by
  rcases hv with hv|⟨hv,rfl⟩
  ·rw[hv] at ht;obtain⟨⟨hd,ad,m,hval⟩,_⟩:=ht
   have hn:m=es.length:=by
    have:=tK hd;rw[hval] at this;cases this<;>rfl
   exact⟨ad,by rw[hval,hn],hd⟩
  ·rw[hv] at ht;obtain⟨⟨hd,ad,m,hval⟩,_⟩:=ht
   have hn:m=0:=by rw[hval] at hd;cases hd<;>rfl
   subst hn;exact⟨ad,hval,by rw[hval];exact .x9 _ _ _⟩
 obtain⟨ad,hval,hol⟩:=hl;have hd:=tK hol;have hg:Grow w σ w σ:=Grow.refl hR.S.live
 obtain⟨hS',hk,hst⟩:=hR.S.push (o:=.eu n aW es) (h:=a.tmps.getD t undef) hg hlen ⟨hd,hes,ad,es.length,hval,Nat.le_refl _,.inl ⟨rfl,hol⟩⟩ (fun b hb=>by
  rw[hval] at hb
  cases ad<;>simp[owns,blk] at hb)
 refine⟨σ,_,⟨hR.size,hR.defers,hS',fun u=> ?_⟩,hst,Keep.refl _ _⟩;show dS w σ _ _ (if t=u then _ else look tm u) _;by_cases e:t=u
 ·subst e;rw[if_pos rfl];refine⟨⟨hd,_,dx _ _ _,fun a b e=> ?_⟩,by rw[hval];rfl⟩;obtain⟨_,rfl⟩:=oL (lab:=some n) e;exact⟨Nat.le_refl _,fun _=>by rw[<-hlen,dx]⟩
 ·rw[if_neg e];exact(hR.T u).mono (eG.refl _ _) hk
theorem Li{c:Code}{Q:Exit->St->Prop}{tm:List (Nat×V)}{Ω:Store}(n:Nat)(h:AW P N c Q ⟨tm,[.seed n]::Ω⟩):AW P N c Q ⟨tm,[]::Ω⟩:=by
 refine ni h fun a w σ β hR=> ?_;obtain⟨bo,bΩ,rfl,hlen⟩:=frames hR;obtain⟨hS',hk,hst⟩:=hR.S.push (o:=.seed n) (h:=undef) (Grow.refl hR.S.live) hlen trivial (fun b hb=>by cases hb);exact⟨σ,_,⟨hR.size,hR.defers,hS',fun u=>(hR.T u).mono (eG.refl _ _) hk⟩,hst,Keep.refl _ _⟩
theorem Ee{tm:List (Nat×V)}{own:List Obj}{Ω:Store}{m:Nat}(n:Nat):gU N ⟨tm,(.seed m::own)::Ω⟩ ⟨tm,(.seed n::own)::Ω⟩:=by
 intro a w σ β hR;obtain⟨bo,bΩ,rfl,hlen⟩:=frames hR;have h0:bA ((Obj.seed m::own)::Ω) (0,0)=some (.seed m):=rfl;obtain⟨h,hh,_⟩:=hR.S.obj (0,0) _ h0;obtain⟨hS',hk,hst⟩:=hR.S.set (o':=.seed n) (h':=h) h0 hh (Nat.le_refl _) rfl rfl (eG.refl _ _) hR.S.live (fun _ _ _=>⟨rfl,rfl⟩) (.inr ⟨n,rfl⟩) trivial (fun b hb=>by cases hb);have e:bJ (bo::bΩ) (0,0) h=bo::bΩ:=JF h _ _ _ hh;rw[e] at hS' hk hst;exact⟨σ,_,⟨hR.size,hR.defers,hS',fun u=>(hR.T u).mono (eG.refl _ _) hk⟩,hst,Keep.refl _ _⟩
theorem om{c:Code}{Q:Exit->St->Prop}{tm:List (Nat×V)}{own:List Obj}{Ω:Store}{m:Nat}(n:Nat)(h:AW P N c Q ⟨tm,(.seed n::own)::Ω⟩):AW P N c Q ⟨tm,(.seed m::own)::Ω⟩:=ni h (Ee n)
def kr(n:Nat)(k:Key):Bool:=decide (0<k.1)||decide (k.2<n)
def C.refs(n:Nat):C->Bool
 | .bB k _=>kr n k
 | .ptr k _=>kr n k
 | .nL k _ _=>kr n k
 | .mD k=>kr n k
 | .mp k=>kr n k
 | .fn _ caps=>caps.all fun x=>kr n x.1
 | .xp k _ _=>kr n k
 | .xq k _ _ _ _ _=>kr n k
 |_=>true
def V.refs(n:Nat):V->Bool
 | .c x=>x.refs n
 | .agg cs=>cs.all (C.refs n)
 | .dN xs=>xs.all fun y=>y.2.all (C.refs n)
 | .any=>true
def Obj.refs(n:Nat):Obj->Bool
 | .box cs=>cs.all (C.refs n)
 |_=>true
theorem jW{α:Type}{own:List α}{Ω:List (List α)}{n:Nat}{k:Key}(h:kr n k=true):bA (own.take n::Ω) k=bA (own::Ω) k:=by
 obtain⟨l,j⟩:=k
 cases l with
 |zero=>
  simp[kr] at h;rw[bR,bR,List.getElem?_take_of_lt h]
 |succ l=>rw[dA,dA]
theorem oN{α:Type}{own:List α}{Ω:List (List α)}{n:Nat}{k:Key}{o:α}(h:bA (own.take n::Ω) k=some o):bA (own::Ω) k=some o/\kr n k=true:=by
 obtain⟨l,j⟩:=k
 cases l with
 |zero=>
  rw[bR] at h ⊢;have hj:=(List.getElem?_eq_some_iff.1 h).1;simp at hj;rw[List.getElem?_take_of_lt (by omega)] at h;exact⟨h,by simp[kr];omega⟩
 |succ l=>rw[dA] at h ⊢;exact⟨h,by simp[kr]⟩
theorem JV{own:List Obj}{Ω:Store}{bo:List Value}{bΩ:Hs}{n:Nat}{c:C}{v:Value}(hr:c.refs n=true)(h:lC w σ (own::Ω) (bo::bΩ) c v):lC w σ (own.take n::Ω) (bo.take n::bΩ) c v:=by
 cases c with
 |d x=>exact h
 |any=>exact h
 |bn es=>exact h
 |nK cs=>exact h
 |bB k es=>
  obtain⟨h1,o,ho,h2⟩:=h;exact⟨h1,o,(jW hr).trans ho,fun a b e=>by rw[jW hr];exact h2 a b e⟩
 |ptr k off=>
  obtain⟨o,ho,h2⟩:=h;exact⟨o,(jW hr).trans ho,fun a e=>by rw[jW hr];exact h2 a e⟩
 |nL k i off=>
  obtain⟨o,ho,h2⟩:=h;exact⟨o,(jW hr).trans ho,fun a b e=>by rw[jW hr];exact h2 a b e⟩
 |mD k=>
  obtain⟨o,ho,h2⟩:=h;exact⟨o,(jW hr).trans ho,fun a b e=>by rw[jW hr];exact h2 a b e⟩
 |mp k=>
  obtain⟨o,ho,h2⟩:=h;exact⟨o,(jW hr).trans ho,fun a e=>by rw[jW hr];exact h2 a e⟩
 |fn f caps=>
  obtain⟨vs,hv,hl,h2⟩:=h;refine⟨vs,hv,hl,fun j k off e=> ?_⟩;obtain⟨u,hu,h1c,o,ho,h3⟩:=h2 j k off e;have hk:kr n k=true:=List.all_eq_true.1 hr (k,off) (List.mem_of_getElem? e);exact⟨u,hu,h1c,o,(jW hk).trans ho,fun cs e=>by rw[jW hk];exact h3 cs e⟩
 |lZ m es=>exact h
 |xp k r p=>
  obtain⟨o,ho,h2⟩:=h;exact⟨o,(jW hr).trans ho,fun a e=>by rw[jW hr];exact h2 a e⟩
 |xq k r p z i off=>
  obtain⟨o,ho,h2⟩:=h;exact⟨o,(jW hr).trans ho,fun a e=>by rw[jW hr];exact h2 a e⟩
theorem Il{own:List Obj}{Ω:Store}{bo:List Value}{bΩ:Hs}{n:Nat}{cs:List C}{vs:List Value}(hr:cs.all (C.refs n)=true)(h:gL w σ (own::Ω) (bo::bΩ) cs vs):gL w σ (own.take n::Ω) (bo.take n::bΩ) cs vs:=
 ⟨h.1,fun j x hx=>let⟨v,hv,hc,ho⟩:=h.2 j x hx;⟨v,hv,JV (List.all_eq_true.1 hr x (List.mem_of_getElem? hx)) hc,ho⟩⟩
theorem adZ{own:List Obj}{Ω:Store}{bo:List Value}{bΩ:Hs}{n:Nat}{x:V}{v:Value}(hr:x.refs n=true)(h:dS w σ (own::Ω) (bo::bΩ) x v):dS w σ (own.take n::Ω) (bo.take n::bΩ) x v:=by
 cases x with
 |c x=>exact⟨JV hr h.1,h.2⟩
 |agg cs=>obtain⟨ar,ha,hc⟩:=h;exact⟨ar,ha,Il hr hc⟩
 |dN xs=>
  obtain⟨ar,ha,hl,h2⟩:=h;refine⟨ar,ha,hl,fun j y hy=> ?_⟩;obtain⟨u,hu,h3⟩:=h2 j y hy;have hy':y.2.all (C.refs n)=true:=List.all_eq_true.1 hr y (List.mem_of_getElem? hy);refine⟨u,hu,?_⟩;obtain⟨b,cs⟩:=y
  cases b with
  |true=>obtain⟨a',e,hcs⟩:=h3;exact⟨a',e,Il hy' hcs⟩
  |false=>
   obtain⟨x,e,hx,ho⟩:=h3;subst e;simp at hy';exact⟨x,rfl,JV hy' hx,ho⟩
 |any=>trivial
def iR(n:Nat)(tm:List (Nat×V)):Bool:=tm.all fun x=>x.2.refs n
theorem Sg{n:Nat}:∀(tm:List (Nat×V))(t:Nat),iR n tm=true->(look tm t).refs n=true
 |[],_,_=>rfl
 |(x,v)::tm,t,h=>by
  simp only[iR,List.all_cons,Bool.and_eq_true] at h;rw[look];split
  ·exact h.1
  ·exact Sg tm t h.2
theorem Oo{tm:List (Nat×V)}{own:List Obj}{Ω:Store}(n:Nat)(h1:iR n tm=true)(h2:(own.take n).all (Obj.refs n)=true):gU N ⟨tm,own::Ω⟩ ⟨tm,own.take n::Ω⟩:=by
 intro a w σ β hR;obtain⟨bo,bΩ,rfl,hlen⟩:=frames hR
 have hown:∀b,Own (own.take n::Ω) (bo.take n::bΩ) b->Own (own::Ω) (bo::bΩ) b:=by
  rintro b ⟨k,o,hv,e1,e2,e3⟩;exact⟨k,o,hv,(oN e1).1,(oN e2).1,e3⟩
 refine⟨σ,bo.take n::bΩ,⟨hR.size,hR.defers,⟨fun k o ho=> ?_,fun k k' o o' h1 h2 b e1 e2 e3 e4 e5 e6=> ?_,⟨by have:=hR.S.shape.1;simpa using this,fun l fr hl=> ?_⟩,hR.S.live,hR.S.vO⟩,fun t=>adZ (Sg tm t h1) (hR.T t)⟩,
  ⟨Nat.le_refl _,rfl,rfl,fun _ _ _=>⟨rfl,rfl⟩,eG.refl _ _,fun b hb=>.inl (hown b hb)⟩,Keep.refl _ _⟩
 ·obtain⟨ho',hk⟩:=oN ho;obtain⟨hv,hh,hr⟩:=hR.S.obj k o ho';refine⟨hv,(jW hk).trans hh,?_⟩;obtain⟨l,j⟩:=k
  cases l with
  |zero=>
   cases o with
   |dead=>trivial
   |box cs=>
    obtain⟨b,cc,t,e,hb,hs,hc⟩:=hr;rw[bR] at ho;have hcs:cs.all (C.refs n)=true:=List.all_eq_true.1 h2 (.box cs) (List.mem_of_getElem? ho);exact⟨b,cc,t,e,hb,hs,Il hcs hc⟩
   |tok=>exact hr
   |gF=>exact hr
   |mp=>exact hr
   |eu=>exact hr
   |seed=>exact hr
   |xf=>exact hr
  |succ l=>exact hr
 ·exact hR.S.apart k k' o o' h1 h2 b (oN e1).1 (oN e2).1 e3 (oN e4).1 (oN e5).1 e6
 ·cases l with
  |zero=>
   simp at hl;subst hl;exact⟨_,rfl,by simp[hlen]⟩
  |succ l=>exact hR.S.shape.2 (l+1) fr hl
def C.oU(j:Nat)(es:List (List D)):C->C
 | .mD (0,i)=>if i=j then .d (.sl es) else .mD (0,i)
 |c=>c
def V.oU(j:Nat)(es:List (List D)):V->V
 | .c x=>.c (x.oU j es)
 | .agg cs=>.agg (cs.map (C.oU j es))
 | .dN xs=>.dN (xs.map fun y=>(y.1,y.2.map (C.oU j es)))
 | .any=>.any
def Obj.oU(j:Nat)(es:List (List D)):Obj->Obj
 | .box cs=>.box (cs.map (C.oU j es))
 |o=>o
theorem Im{f:V->V}(hf:f .any=.any):∀(tm:List (Nat×V))(t:Nat),look (tm.map fun x=>(x.1,f x.2)) t=f (look tm t)
 |[],_=>hf.symm
 |(x,v)::tm,t=>by
  show(if x=t then f v else look (tm.map fun x=>(x.1,f x.2)) t)=f (if x=t then v else look tm t);split
  ·rfl
  ·exact Im hf tm t
def V.mP(f:C->C):V->V
 | .c x=>.c (f x)
 | .agg cs=>.agg (cs.map f)
 | .dN xs=>.dN (xs.map fun y=>(y.1,y.2.map f))
 | .any=>.any
def Obj.mP(f:C->C):Obj->Obj
 | .box cs=>.box (cs.map f)
 |o=>o
theorem zF{f:C->C}{own:List Obj}{j i:Nat}:((own.map (Obj.mP f)).set j .dead)[i]? =if i=j then(if j<own.length then some .dead else none) else(own[i]?).map (Obj.mP f):=by
 rw[List.getElem?_set];by_cases e:j=i
 ·subst e;simp
 ·rw[if_neg e,if_neg (Ne.symm e),List.getElem?_map]
theorem yM{f:C->C}{own:List Obj}{Ω:Store}{j:Nat}{oj:Obj}(hj:own[j]? =some oj){k:Key}{o:Obj}(hk:bA (own::Ω) k=some o):
 ∃o',bA ((own.map (Obj.mP f)).set j .dead::Ω) k=some o'/\((k=(0,j)/\o'=.dead)\/(k≠(0,j)/\(o'=o\/o'=o.mP f))):=by
 obtain⟨l,i⟩:=k
 cases l with
 |zero=>
  rw[bR] at hk;by_cases e:i=j
  ·subst e;refine⟨.dead,?_,.inl ⟨rfl,rfl⟩⟩;rw[bR,zF,if_pos rfl,if_pos (List.getElem?_eq_some_iff.1 hj).1]
  ·refine⟨o.mP f,?_,.inr ⟨fun x=>e (by cases x;rfl),.inr rfl⟩⟩;rw[bR,zF,if_neg e,hk];rfl
 |succ l=>exact⟨o,by rw[dA] at hk ⊢;exact hk,.inr ⟨by simp,.inl rfl⟩⟩
theorem uo{f:C->C}{o o':Obj}(h:o'=o\/o'=o.mP f):(∀z es,uD o' z es->uD o z es)/\(∀z es,o'=.gF z es->o=.gF z es)/\(∀m,o'=.mp m->o=.mp m)/\(∀cs,o'=.box cs->∃cs',o=.box cs')/\(∀rs,o'=.xf rs->o=.xf rs):=by
 rcases h with rfl|rfl
 ·exact⟨fun _ _ h=>h,fun _ _ h=>h,fun _ h=>h,fun cs h=>⟨cs,h⟩,fun _ h=>h⟩
 ·cases o<;>simp[Obj.mP,uD]
theorem Oq{f:C->C}{own:List Obj}{Ω:Store}{bo:List Value}{bΩ:Hs}{j:Nat}{oj:Obj}(hj:own[j]? =some oj)(hn:eG w σ w σ'){c:C}{v:Value}(hc:lC w σ (own::Ω) (bo::bΩ) c v):
 lC w σ' ((own.map (Obj.mP f)).set j .dead::Ω) (bo::bΩ) c v:=by
 cases c with
 |d x=>exact dJ.mono hn hc
 |any=>trivial
 |bn es'=>exact⟨dJ.mono hn hc.1,hc.2⟩
 |lZ n es'=>exact⟨dJ.mono hn hc.1,hc.2⟩
 |nK cs=>obtain⟨ad,h1,h2⟩:=hc;exact⟨ad,h1,h2.mono hn⟩
 |bB k es'=>
  obtain⟨h1,o,ho,h2⟩:=hc;obtain⟨o',ho',hcase⟩:=yM hj ho;refine⟨dJ.mono hn h1,o',ho',fun z e4 e=> ?_⟩;rcases hcase with⟨_,e'⟩|⟨_,e'⟩
  ·rw[e'] at e;rcases e with e|⟨_,e⟩<;>cases e
  ·exact h2 _ _ ((uo e').1 _ _ e)
 |ptr k off=>
  obtain⟨o,ho,h2⟩:=hc;obtain⟨o',ho',hcase⟩:=yM hj ho;refine⟨o',ho',fun cs e=> ?_⟩;rcases hcase with⟨_,e'⟩|⟨_,e'⟩
  ·rw[e'] at e;cases e
  ·obtain⟨cs',e''⟩:=(uo e').2.2.2.1 _ e;exact h2 _ e''
 |nL k i off=>
  obtain⟨o,ho,h2⟩:=hc;obtain⟨o',ho',hcase⟩:=yM hj ho;refine⟨o',ho',fun z e4 e=> ?_⟩;rcases hcase with⟨_,e'⟩|⟨_,e'⟩
  ·rw[e'] at e;cases e
  ·exact h2 _ _ ((uo e').2.1 _ _ e)
 |mD k=>
  obtain⟨o,ho,h2⟩:=hc;obtain⟨o',ho',hcase⟩:=yM hj ho;refine⟨o',ho',fun z e4 e=> ?_⟩;rcases hcase with⟨_,e'⟩|⟨_,e'⟩
  ·rw[e'] at e;cases e
  ·exact h2 _ _ ((uo e').2.1 _ _ e)
 |mp k=>
  obtain⟨o,ho,h2⟩:=hc;obtain⟨o',ho',hcase⟩:=yM hj ho;refine⟨o',ho',fun m e=> ?_⟩;rcases hcase with⟨_,e'⟩|⟨_,e'⟩
  ·rw[e'] at e;cases e
  ·exact h2 _ ((uo e').2.2.1 _ e)
 |fn f caps=>
  obtain⟨vs,hv,hl,h2⟩:=hc;refine⟨vs,hv,hl,fun i k off e=> ?_⟩;obtain⟨u,hu,h1c,o,ho,h3⟩:=h2 i k off e;obtain⟨o',ho',hcase⟩:=yM hj ho;refine⟨u,hu,h1c,o',ho',fun cs e=> ?_⟩;rcases hcase with⟨_,e'⟩|⟨_,e'⟩
  ·rw[e'] at e;cases e
  ·obtain⟨cs',e''⟩:=(uo e').2.2.2.1 _ e;exact h3 _ e''
 |xp k r p=>
  obtain⟨o,ho,h2⟩:=hc;obtain⟨o',ho',hcase⟩:=yM hj ho;refine⟨o',ho',fun rs e=> ?_⟩;rcases hcase with⟨_,e'⟩|⟨_,e'⟩
  ·rw[e'] at e;cases e
  ·exact h2 _ ((uo e').2.2.2.2 _ e)
 |xq k r p z i off=>
  obtain⟨o,ho,h2⟩:=hc;obtain⟨o',ho',hcase⟩:=yM hj ho;refine⟨o',ho',fun rs e=> ?_⟩;rcases hcase with⟨_,e'⟩|⟨_,e'⟩
  ·rw[e'] at e;cases e
  ·exact h2 _ ((uo e').2.2.2.2 _ e)
theorem VB{f:C->C}{tm:List (Nat×V)}{own:List Obj}{Ω:Store}{bo:List Value}{bΩ:Hs}(j:Nat){oj:Obj}{hj:Value}(hoj:own[j]? =some oj)(hbj:bo[j]? =some hj)(hR:lN N ⟨tm,own::Ω⟩ a w σ (bo::bΩ))(hlen:bo.length=own.length)
 (hn:eG w σ w σ')(hch:∀x,¬owns oj hj x->σ' x=σ x)(hlive:∀x,x<w.heap.size\/σ' x=0)
 (hC:∀(c:C) (v:Value),lC w σ (own::Ω) (bo::bΩ) c v->lC w σ' ((own.map (Obj.mP f)).set j .dead::Ω) (bo::bΩ) (f c) v):
 lN N ⟨tm.map fun x=>(x.1,x.2.mP f),(own.map (Obj.mP f)).set j .dead::Ω⟩ a w σ' (bo::bΩ)/\Step (own::Ω) (bo::bΩ) σ w ((own.map (Obj.mP f)).set j .dead::Ω) (bo::bΩ) σ' w:=by
 have UE:∀k o,bA ((own.map (Obj.mP f)).set j .dead::Ω) k=some o->(k=(0,j)/\o=.dead)\/(k≠(0,j)/\∃o0,bA (own::Ω) k=some o0/\(o=o0\/o=o0.mP f)/\(0<k.1->o=o0)/\∀h b,owns o h b<->owns o0 h b):=by
  intro k o hk;obtain⟨l,i⟩:=k
  cases l with
  |zero=>
   rw[bR,zF] at hk;by_cases e:i=j
   ·subst e;rw[if_pos rfl,if_pos (List.getElem?_eq_some_iff.1 hoj).1] at hk;cases hk;exact .inl ⟨rfl,rfl⟩
   ·rw[if_neg e] at hk
    cases ho:own[i]? with
    |none=>rw[ho] at hk;cases hk
    |some o0=>
     rw[ho] at hk;cases hk;refine .inr ⟨fun x=>e (by cases x;rfl),o0,by rw[bR];exact ho,.inr rfl,fun h=>absurd h (by simp),fun h b=> ?_⟩
     cases o0 with
     |box cs=>cases h<;>first|exact Iff.rfl|(rename_i x;cases x<;>exact Iff.rfl)
     |_=>exact Iff.rfl
  |succ l=>rw[dA] at hk;exact .inr ⟨by simp,o,by rw[dA];exact hk,.inl rfl,fun _=>rfl,fun _ _=>Iff.rfl⟩
 have hCs:∀(cs:List C)(vs:List Value),gL w σ (own::Ω) (bo::bΩ) cs vs->gL w σ' ((own.map (Obj.mP f)).set j .dead::Ω) (bo::bΩ) (cs.map f) vs:=by
  intro cs vs hc;refine⟨by simpa using hc.1,fun i x hx=> ?_⟩;rw[List.getElem?_map] at hx
  cases hci:cs[i]? with
  |none=>rw[hci] at hx;cases hx
  |some y=>
   rw[hci] at hx;cases hx;obtain⟨v,hv,hr,ho⟩:=hc.2 i y hci;exact⟨v,hv,hC y v hr,ho⟩
 have hother:∀k o h x,k≠(0,j)->bA (own::Ω) k=some o->bA (bo::bΩ) k=some h->owns o h x->σ' x=σ x:=by
  intro k o h x hk e1 e2 e3;refine hch x fun e4=>hk ?_;exact hR.S.apart k (0,j) o _ h _ x e1 e2 e3 (by rw[bR];exact hoj) (by rw[bR];exact hbj) e4
 refine⟨⟨hR.size,hR.defers,⟨fun k o ho=> ?_,fun k k' o o' h1 h2 b' e1 e2 e3 e4 e5 e6=> ?_,⟨by have:=hR.S.shape.1;simpa using this,fun l fr hl=> ?_⟩,hlive,hR.S.vO.near hn⟩,fun t=> ?_⟩,⟨Nat.le_refl _,rfl,rfl,fun x hx hno=>⟨rfl,?_⟩,hn,fun x hx=> ?_⟩⟩
 ·rcases UE k o ho with⟨rfl,rfl⟩|⟨hk,o0,h0,hcase,hl0,how⟩
  ·exact⟨_,by rw[bR];exact hbj,trivial⟩
  ·obtain⟨hv,hhv,hr⟩:=hR.S.obj k o0 h0;refine⟨hv,hhv,?_⟩;have hbk:∀x,owns o0 hv x->w.heap[x]? =w.heap[x]? /\σ' x=σ x:=fun x e=>⟨rfl,hother k o0 hv x hk h0 hhv e⟩;obtain⟨l,i⟩:=k
   cases l with
   |succ l=>
    rw[hl0 (by simp)];exact iL.mono hn (Keep.refl _ _) hbk hr
   |zero=>
    cases o0 with
    |box cs=>
     obtain⟨b',cc',t',e',hb',hs',hc'⟩:=hr;subst e'
     have he:o=.box (cs.map f):=by
      rw[bR,zF] at ho;rw[bR] at h0;split at ho
      ·rename_i e;exact absurd (by rw[e]) hk
      ·rw[h0] at ho;cases ho;rfl
     rw[he];exact⟨b',cc',t',rfl,hb',(hbk b' rfl).2.trans hs',hCs _ _ hc'⟩
    |dead=>rcases hcase with rfl|rfl<;>trivial
    |tok z es'=>
     have:o=.tok z es':=by rcases hcase with rfl|rfl<;>rfl
     rw[this];exact iL.mono (S:=[]) (β:=[]) (o:=(.tok z es')) hn (Keep.refl [] []) hbk hr
    |gF z es'=>
     have:o=.gF z es':=by rcases hcase with rfl|rfl<;>rfl
     rw[this];exact iL.mono (S:=[]) (β:=[]) (o:=(.gF z es')) hn (Keep.refl [] []) hbk hr
    |mp m=>
     have:o=.mp m:=by rcases hcase with rfl|rfl<;>rfl
     rw[this];exact iL.mono (S:=[]) (β:=[]) (o:=(.mp m)) hn (Keep.refl [] []) hbk hr
    |eu n z es'=>
     have:o=.eu n z es':=by rcases hcase with rfl|rfl<;>rfl
     rw[this];exact iL.mono (S:=[]) (β:=[]) (o:=(.eu n z es')) hn (Keep.refl [] []) hbk hr
    |seed n=>rcases hcase with rfl|rfl<;>trivial
    |xf rs=>
     have:o=.xf rs:=by rcases hcase with rfl|rfl<;>rfl
     rw[this];exact iL.mono (S:=[]) (β:=[]) (o:=(.xf rs)) hn (Keep.refl [] []) hbk hr
 ·rcases UE k o e1 with⟨rfl,rfl⟩|⟨hk,o0,f1,_,_,f2⟩
  ·cases e3
  ·rcases UE k' o' e4 with⟨rfl,rfl⟩|⟨hk',o0',g1,_,_,g2⟩
   ·cases e6
   ·exact hR.S.apart k k' o0 o0' h1 h2 b' f1 e2 ((f2 _ _).1 e3) g1 e5 ((g2 _ _).1 e6)
 ·cases l with
  |zero=>
   simp at hl;subst hl;exact⟨_,rfl,by simp[hlen]⟩
  |succ l=>exact hR.S.shape.2 (l+1) fr hl
 ·show dS w σ' ((own.map (Obj.mP f)).set j .dead::Ω) (bo::bΩ) (look (tm.map fun x=>(x.1,x.2.mP f)) t) _;rw[Im (f:=V.mP f) rfl];have ht:=hR.T t
  cases hx:look tm t with
  |c x=>rw[hx] at ht;exact⟨hC x _ ht.1,ht.2⟩
  |agg cs=>rw[hx] at ht;obtain⟨ar,e,hc⟩:=ht;exact⟨ar,e,hCs _ _ hc⟩
  |dN xs=>
   rw[hx] at ht;obtain⟨ar,e,hl,h2⟩:=ht;refine⟨ar,e,by simpa using hl,fun i y hy=> ?_⟩;rw[List.getElem?_map] at hy
   cases hxi:xs[i]? with
   |none=>rw[hxi] at hy;cases hy
   |some z=>
    rw[hxi] at hy;cases hy;obtain⟨u,hu,h3⟩:=h2 i z hxi;refine⟨u,hu,?_⟩;obtain⟨bb,cs⟩:=z
    cases bb with
    |true=>obtain⟨a',e',hcs⟩:=h3;exact⟨a',e',hCs _ _ hcs⟩
    |false=>
     obtain⟨x,e',hxr,ho⟩:=h3;subst e';exact⟨_,rfl,hC x _ hxr,ho⟩
  |any=>trivial
 ·exact hch x fun e=>hno ⟨(0,j),_,_,by rw[bR];exact hoj,by rw[bR];exact hbj,e⟩
 ·left;obtain⟨k,o,h1,e1,e2,e3⟩:=hx;rcases UE k o e1 with⟨rfl,rfl⟩|⟨hk,o0,f1,_,_,f2⟩
  ·cases e3
  ·exact⟨k,o0,h1,f1,e2,(f2 _ _).1 e3⟩
theorem ahj{j:Nat}{es:List (List D)}:Obj.oU j es=Obj.mP (C.oU j es):=by funext o;cases o<;>rfl
theorem ahk{j:Nat}{es:List (List D)}:V.oU j es=V.mP (C.oU j es):=by funext v;cases v<;>rfl
theorem akH{tm:List (Nat×V)}{own:List Obj}{Ω:Store}(j:Nat)(aW:Nat)(es:List (List D))(hj:own[j]? =some (.gF aW es))(hR:lN N ⟨tm,own::Ω⟩ a w σ β):
 ∃σ' β',lN N ⟨tm.map fun x=>(x.1,x.2.oU j es),(own.map (Obj.oU j es)).set j .dead::Ω⟩ a w σ' β'/\Step (own::Ω) β σ w ((own.map (Obj.oU j es)).set j .dead::Ω) β' σ' w/\
  Keep (iq (own::Ω)) (iq β) (iq ((own.map (Obj.oU j es)).set j .dead::Ω)) (iq β'):=by
 obtain⟨bo,bΩ,rfl,hlen⟩:=frames hR;obtain⟨hh,hb,hr⟩:=hR.S.obj (0,j) _ (by rw[bR];exact hj);rw[bR] at hb
 obtain⟨σ',hn,hch,hlive,hdata⟩:∃σ',eG w σ w σ'/\(∀x,¬owns (.gF aW es) hh x->σ' x=σ x)/\(∀x,x<w.heap.size\/σ' x=0)/\dJ w σ' (.sl es) hh:=by
  obtain⟨hle,ad,cap,rfl,hcap,h4⟩:=hr;by_cases h0:cap=0
  ·obtain rfl:es=[]:=List.eq_nil_of_length_eq_zero (by omega);exact⟨σ,eG.refl _ _,fun _ _=>rfl,hR.S.live,.nil _ _⟩
  rcases h4 with h4|⟨b,cc,ty,rfl,hbc,hσ,hcz,hcells⟩
  ·exact absurd h4 h0
  have hsz:es.length*aW<=cc.size:=Nat.le_trans (Nat.mul_le_mul_right _ hcap) hcz
  let σ':Nat->Nat:=fun x=>if x=b then es.length*aW else σ x
  have hn:eG w σ w σ':=by
   intro b1 c1 t1 Gn e1;by_cases e:b1=b
   ·subst e;rw[hbc] at e1;cases e1;exact⟨by simp only[σ',if_true];omega,fun h=>by omega,cc,hbc,rfl,fun _ _=>rfl⟩
   ·exact⟨by simp only[σ',if_neg e];exact Nat.le_refl _,fun _=>if_neg e,c1,e1,rfl,fun _ _=>rfl⟩
  refine⟨σ',hn,fun x hx=>if_neg fun e=>hx (by subst e;simp[owns,blk,h0]),fun x=> ?_,?_⟩
  ·by_cases e:x=b
   ·left;subst e;exact lt_of_some hbc
   ·simp only[σ',if_neg e];exact hR.S.live x
  ·have hfl:=j4 es aW hle;refine .sl b 0 cap aW es (fun i=>(cc[i]?).getD undef) cc ty (0,0) hcap hle hbc (by simp[σ']) (fun i hi=> ?_) (fun i d hd=> ?_)
   ·obtain⟨v,hv,_⟩:=hcells i _ (List.getElem?_eq_getElem (by omega));simp[hv]
   ·obtain⟨v,hv,hr⟩:=hcells i d hd;simp only[hv,Option.getD_some];exact hr.mono hn
 rw[ahj,ahk]
 have:=VB (f:=C.oU j es) j hj hb hR hlen hn hch hlive (fun c v hc=>by
  by_cases hm:c=.mD (0,j)
  ·subst hm;obtain⟨o,ho,h2⟩:=hc;rw[bR,hj] at ho;cases ho;have hv:=h2 _ _ rfl;rw[bR,hb] at hv;cases hv;simp only[C.oU,if_true];exact hdata
  ·have hfr:C.oU j es c=c:=by
    cases c with
    |mD k=>
     obtain⟨l,i⟩:=k
     cases l with
     |zero=>simp only[C.oU];rw[if_neg (fun e=>hm (by rw[e]))]
     |succ l=>rfl
    |_=>rfl
   rw[hfr]
   exact Oq hj hn hc)
 exact⟨σ',_,this.1,this.2,Keep.refl _ _⟩
def C.lab(row:Bool)(j n:Nat)(es:List (List D)):C->C
 | .mD (0,i)=>if i=j/\row=true then .d (.ol n es) else .mD (0,i)
 | .bB (0,i) es'=>if i=j/\row=false/\es'.length=es.length then .d (.ol n es) else .bB (0,i) es'
 |c=>c
def Ot(row:Bool)(n aW:Nat)(es:List (List D)):Obj:=match row with|true=>.gF aW es|false=>.eu n aW es
theorem Z6{tm:List (Nat×V)}{own:List Obj}{Ω:Store}(j n:Nat)(aW:Nat)(es:List (List D))(row:Bool)(hj:own[j]? =some (Ot row n aW es))(hR:lN N ⟨tm,own::Ω⟩ a w σ β):
 ∃σ' β',lN N ⟨tm.map fun x=>(x.1,x.2.mP (C.lab row j n es)),(own.map (Obj.mP (C.lab row j n es))).set j .dead::Ω⟩ a w σ' β'/\Step (own::Ω) β σ w ((own.map (Obj.mP (C.lab row j n es))).set j .dead::Ω) β' σ' w/\
  Keep (iq (own::Ω)) (iq β) (iq ((own.map (Obj.mP (C.lab row j n es))).set j .dead::Ω)) (iq β'):=by
 obtain⟨bo,bΩ,rfl,hlen⟩:=frames hR
 have key:∃hh σ',bo[j]? =some hh/\eG w σ w σ'/\(∀x,¬owns (Ot row n aW es) hh x->σ' x=σ x)/\(∀x,x<w.heap.size\/σ' x=0)/\dJ w σ' (.ol n es) hh:=by
  have ad2:∀(b off cap:Nat)(c:Array Value)(t:TypeId),w.heap[b]? =some (.cells c t (0,0))->σ b<=c.size->(∀e∈es,e.length=aW)->off+es.length*aW<=c.size->es.length<=cap->
   (∀(i:Nat)(d:D),es.flatten[i]? =some d->∃v,c[off+i]? =some v/\dJ w σ d v)->
   eG w σ w (fun x=>if x=b then c.size+1+n else σ x)/\(∀x,x<w.heap.size\/(fun x=>if x=b then c.size+1+n else σ x) x=0)/\dJ w (fun x=>if x=b then c.size+1+n else σ x) (.ol n es) (.slice (some ⟨b,off,none⟩) es.length cap):=by
   intro b off cap c t hb hσ hle hsz hcap hcells
   have hn:eG w σ w (fun x=>if x=b then c.size+1+n else σ x):=by
    intro b1 c1 t1 Gn e1;by_cases e:b1=b
    ·subst e;rw[hb] at e1;cases e1;exact⟨by simp only[if_true];omega,fun h=>by omega,c,hb,rfl,fun _ _=>rfl⟩
    ·exact⟨by simp only[if_neg e];exact Nat.le_refl _,fun _=>if_neg e,c1,e1,rfl,fun _ _=>rfl⟩
   refine⟨hn,fun x=> ?_,?_⟩
   ·by_cases e:x=b
    ·left;subst e;exact lt_of_some hb
    ·simp only[if_neg e];exact hR.S.live x
   ·have hfl:=j4 es aW hle;refine .ol n b off cap aW es (fun i=>(c[off+i]?).getD undef) c t hcap hle hb (by simp) hsz (fun i hi=> ?_) (fun i d hd=> ?_)
    ·obtain⟨v,hv,_⟩:=hcells i _ (List.getElem?_eq_getElem (by omega));simp[hv]
    ·obtain⟨v,hv,hr⟩:=hcells i d hd;simp only[hv,Option.getD_some];exact hr.mono hn
  cases row with
  |true=>
   obtain⟨hh,hb,hr⟩:=hR.S.obj (0,j) _ (by rw[bR];exact hj);obtain⟨hle,ad,cap,rfl,hcap,h4⟩:=hr;rw[bR] at hb;by_cases h0:cap=0
   ·obtain rfl:es=[]:=List.eq_nil_of_length_eq_zero (by omega);exact⟨_,σ,hb,eG.refl _ _,fun _ _=>rfl,hR.S.live,.x9 _ _ _⟩
   rcases h4 with h4|⟨b,cc,ty,rfl,hbc,hσ,hcz,hcells⟩
   ·exact absurd h4 h0
   have hsz:es.length*aW<=cc.size:=Nat.le_trans (Nat.mul_le_mul_right _ hcap) hcz;obtain⟨k1,k2,k3⟩:=ad2 b 0 cap cc ty hbc (by omega) hle (by omega) hcap (fun i d hd=>by rw[Nat.zero_add];exact hcells i d hd);exact⟨_,_,hb,k1,fun x hx=>if_neg fun e=>hx (by subst e;simp[Ot,owns,blk,h0]),k2,k3⟩
  |false=>
   obtain⟨hh,hb,hr⟩:=hR.S.obj (0,j) _ (by rw[bR];exact hj);obtain⟨h1,hle,ad,cap,rfl,hcap,hcase⟩:=hr;rw[bR] at hb;rcases hcase with⟨h4,h5⟩|⟨h4,b,off,c,t,rfl,hbc,hσ,hfit⟩
   ·exact⟨_,σ,hb,eG.refl _ _,fun _ _=>rfl,hR.S.live,h5⟩
   ·have hm:es.length*aW<=cap*aW:=Nat.mul_le_mul_right _ hcap
    obtain⟨k1,k2,k3⟩:=ad2 b off cap c t hbc (by omega) hle (by omega) hcap (fun i d hd=>by
     cases h1 with
     |nil=>simp at hd
     |sl b' off' cap' vP es vals c' t' ZY q1 q2 q3 q4 q5 q6=>
      rw[hbc] at q3;cases q3;have hil:=(List.getElem?_eq_some_iff.1 hd).1;rw[j4 es aW hle] at hil
      have he:vP=aW:=by
       cases es with
       |nil=>simp at hil
       |cons y ys=>rw[<-q2 y (by simp),hle y (by simp)]
      subst he
      exact⟨_,q5 i hil,q6 i d hd⟩)
    exact⟨_,_,hb,k1,fun x hx=>if_neg fun e=>hx (by subst e;simp[Ot,owns,blk,h4]),k2,k3⟩
 obtain⟨hh,σ',hb,hn,hch,hlive,hdata⟩:=key
 have:=VB (f:=C.lab row j n es) j hj hb hR hlen hn hch hlive (fun c v hc=>by
  by_cases hm:c=.mD (0,j)/\row=true
  ·obtain⟨rfl,rfl⟩:=hm;simp only[C.lab,and_self,if_true];obtain⟨o,ho,h2⟩:=hc;rw[bR,hj] at ho;cases ho;have hv:=h2 _ _ rfl;rw[bR,hb] at hv;cases hv;exact hdata
  ·by_cases ht:∃es',c=.bB (0,j) es'/\row=false/\es'.length=es.length
   ·obtain⟨es',rfl,rfl,hl⟩:=ht;simp only[C.lab,hl,and_self,if_true];obtain⟨h1,o,ho,h2⟩:=hc;rw[bR,hj] at ho;cases ho;have hv:=(h2 _ _ (.inr ⟨n,rfl⟩)).2 hl;rw[bR,hb] at hv;cases hv;exact hdata
   ·have hfr:C.lab row j n es c=c:=by
     cases c with
     |mD k=>
      obtain⟨l,i⟩:=k
      cases l with
      |zero=>simp only[C.lab];rw[if_neg (fun e=>hm ⟨by rw[e.1],e.2⟩)]
      |succ l=>rfl
     |bB k es'=>
      obtain⟨l,i⟩:=k
      cases l with
      |zero=>simp only[C.lab];rw[if_neg (fun e=>ht ⟨es',by rw[e.1],e.2⟩)]
      |succ l=>rfl
     |_=>rfl
    rw[hfr]
    exact Oq hj hn hc)
 exact⟨σ',_,this.1,this.2,Keep.refl _ _⟩
def Ou(j:Nat)(s:St):St:=
 match s.st with
 |own::Ω=>match own[j]? with
  |some (.gF _ es)=>⟨s.tm.map fun x=>(x.1,x.2.oU j es),(own.map (Obj.oU j es)).set j .dead::Ω⟩
  |_=>s
 |[]=>s
def Ov:Nat->St->St
 |0,s=>s
 |n+1,s=>Ov n (Ou n s)
def Gu(s:St):St:=
 match s.st with
 |own::_=>Ov own.length s
 |[]=>s
theorem Yq(j:Nat)(s:St):gU N s (Ou j s):=by
 obtain⟨tm,st⟩:=s
 cases st with
 |nil=>exact gU.refl _ _
 |cons own Ω=>
  unfold Ou
  simp only
  split
  ·rename_i z es hj;exact fun a w σ β hR=>akH j z es hj hR
  ·exact gU.refl _ _
theorem Mr:∀(n:Nat)(s:St),gU N s (Ov n s)
 |0,s=>gU.refl _ _
 |n+1,s=>(Yq n s).trans (Mr n _)
theorem zG(s:St):gU N s (Gu s):=by
 unfold Gu;split
 ·exact Mr _ _
 ·exact gU.refl _ _
theorem wD{c:Code}{Q:Exit->St->Prop}{g:St->St}(hg:∀s,gU N s (g s))(h:AW P N c (fun e s'=>Q e (g s')) s):AW P N c Q s:=by
 intro a w σ β hR;refine wp_mono (h a w σ β hR) ?_;rintro e a' w' ⟨s',σ',β',k1,k2,k3,k4⟩;obtain⟨σ2,β2,r2,st2,kk2⟩:=hg s' a' w' σ' β' k1;exact⟨_,σ2,β2,r2,k2.trans st2,k3.trans kk2,k4⟩
end
section
variable {P:Program} {E:Md} {S S':Store} {N:Nat} {s:St}
def lookO(tm:List (Nat×V))(t:Option Nat):Option V:=t.map (look tm)
theorem VD{tm:List (Nat×V)}{t:Option Nat}:lookO tm t=t.map (look tm):=rfl
theorem abm{tm:List (Nat×V)}{t:Nat}:lookO tm (some t)=some (look tm t):=rfl
theorem abn{tm:List (Nat×V)}:lookO tm none=none:=rfl
def Gv(tm:List (Nat×V))(l:List Operand):List V:=l.map (ev tm)
theorem akI{tm:List (Nat×V)}:Gv tm []=[]:=rfl
theorem ahl{tm:List (Nat×V)}{x:Operand}{l:List Operand}:Gv tm (x::l)=ev tm x::Gv tm l:=rfl
def Si(tm:List (Nat×V))(x:Option Operand):Option V:=x.map (ev tm)
theorem ahm{tm:List (Nat×V)}{x:Operand}:Si tm (some x)=some (ev tm x):=rfl
theorem ahn{tm:List (Nat×V)}:Si tm none=none:=rfl
def Sj(tm:List (Nat×V))(l:List (Nat×Operand)):List (Nat×V):=l.map fun x=>(x.1,ev tm x.2)
theorem akJ{tm:List (Nat×V)}:Sj tm []=[]:=rfl
theorem aho{tm:List (Nat×V)}{i:Nat}{x:Operand}{l:List (Nat×Operand)}:Sj tm ((i,x)::l)=(i,ev tm x)::Sj tm l:=rfl
def Split(x:Bool)(A B:St->Prop)(s:St):Prop:=(x=true->A s)/\(x=false->B s)
theorem dZ{x:Bool}{A B:St->Prop}(h1:x=true->A s)(h2:x=false->B s):Split x A B s:=⟨h1,h2⟩
theorem abo{A B:St->Prop}:Split true A B s=A s:=by simp[Split]
theorem Yr{A B:St->Prop}:Split false A B s=B s:=by simp[Split]
def VE(dst:Option Nat)(v:V)(K:St->Prop)(s:St):Prop:=K (s.put dst v)
theorem akK{dst:Option Nat}{v:V}{K:St->Prop}:VE dst v K s=K (s.put dst v):=rfl
def abp(P:Program)(o:Oper)(K:St->Prop)(s:St):Prop:=iZ P o s K
def VF(P:Program)(E:Md)(o:Oper)(K:St->Prop)(s:St):Prop:=gG P E o s K
theorem ahp{o:Oper}{K:St->Prop}:abp P o K s=iZ P o s K:=rfl
theorem ad3{o:Oper}{K:St->Prop}:VF P E o K s=gG P E o s K:=rfl
def Ef(dst:Option Nat)(want:Bool)(A K:St->Prop)(s:St):Option V->Prop
 |some (.c (.d (.b x)))=>match want with
  |true=>Split x A (VE dst (.dN []) K) s
  |false=>Split x (VE dst (.dN []) K) A s
 |some (.dN [])=>K (s.put dst (.dN []))
 |_=>False
theorem Yt{R:Array Oper}{dst op ty pos after}{K:St->Prop}:wm P R ⟨dst,op,ty,pos,after,none⟩ s K=iZ P ⟨dst,op,ty,pos,after,none⟩ s K:=rfl
theorem Yu{R:Array Oper}{dst op ty pos after j want}{K:St->Prop}:wm P R ⟨dst,op,ty,pos,after,some (j,want)⟩ s K=
 Ef dst want (abp P ⟨dst,op,ty,pos,after,some (j,want)⟩ K) K s (lookO s.tm (gT R j)):=by
 show wm P R _ s K=_;simp only[wm,<-VD];generalize lookO s.tm (gT R j)=v
 cases v with
 |none=>rfl
 |some v=>
  cases v with
  |c x=>cases x with
   |d x=>cases x with
    |b x=>cases want<;>simp[Ef,Split,VE,abp,and_comm]
    |_=>rfl
   |_=>rfl
  |dN l=>cases l<;>rfl
  |_=>rfl
theorem VG{R:Array Oper}{dst op ty pos after}{K:St->Prop}:rC P E R ⟨dst,op,ty,pos,after,none⟩ s K=gG P E ⟨dst,op,ty,pos,after,none⟩ s K:=rfl
theorem VH{R:Array Oper}{dst op ty pos after j want}{K:St->Prop}:rC P E R ⟨dst,op,ty,pos,after,some (j,want)⟩ s K=
 Ef dst want (VF P E ⟨dst,op,ty,pos,after,some (j,want)⟩ K) K s (lookO s.tm (gT R j)):=by
 simp only[rC,<-VD];generalize lookO s.tm (gT R j)=v
 cases v with
 |none=>rfl
 |some v=>
  cases v with
  |c x=>cases x with
   |d x=>cases x with
    |b x=>cases want<;>simp[Ef,Split,VE,VF,and_comm]
    |_=>rfl
   |_=>rfl
  |dN l=>cases l<;>rfl
  |_=>rfl
@[congr] theorem aoE {R:Array Oper} {os:List Oper} {s s':St} {K:St->Prop} (h2:s=s'):D9 P R os s K=D9 P R os s' K:=by rw[h2]
@[congr] theorem aoF {R:Array Oper} {os:List Oper} {s s':St} {K:St->Prop} (h2:s=s'):uH P E R os s K=uH P E R os s' K:=by rw[h2]
@[congr] theorem amI {R:Array Oper} {o:Oper} {s s':St} {K:St->Prop} (h2:s=s'):wm P R o s K=wm P R o s' K:=by rw[h2]
@[congr] theorem amh {R:Array Oper} {o:Oper} {s s':St} {K:St->Prop} (h2:s=s'):rC P E R o s K=rC P E R o s' K:=by rw[h2]
@[congr] theorem amJ {dst:Option Nat} {want:Bool} {A K:St->Prop} {s s':St} {v v':Option V} (h2:s=s') (h3:v=v'):Ef dst want A K s v=Ef dst want A K s' v':=by rw[h2,h3]
@[congr] theorem aod {x x':Bool} {A B:St->Prop} {s s':St} (h:x=x') (h2:s=s'):Split x A B s=Split x' A B s':=by rw[h,h2]
@[congr] theorem aoe {o:Oper} {s s':St} {K:St->Prop} (h2:s=s'):dD P o s K=dD P o s' K:=by rw[h2]
@[congr] theorem aof {o:Oper} {s s':St} {K:St->Prop} (h2:s=s'):iZ P o s K=iZ P o s' K:=by rw[h2]
@[congr] theorem aoG {t:TypeId} {s s':St} {dst:Option Nat} {K:St->Prop} {b b':Bool} {r r':R} (h1:s=s') (h2:b=b') (h3:r=r'):JL P t s dst K b r=JL P t s' dst K b' r':=by rw[h1,h2,h3]
@[congr] theorem ami {t u:TypeId} {a a' x x':V} {s s':St} {dst:Option Nat} {K:St->Prop} (h1:a=a') (h3:x=x') (h2:s=s'):DC P t u a x s dst K=DC P t u a' x' s' dst K:=by rw[h1,h2,h3]
@[congr] theorem amK {t u:TypeId} {k:Key} {x x':V} {s s':St} {dst:Option Nat} {K:St->Prop} (h3:x=x') (h2:s=s'):Gp P t u k x s dst K=Gp P t u k x' s' dst K:=by rw[h2,h3]
@[congr] theorem amL {o:Oper} {s s':St} {K:St->Prop} (h2:s=s'):gG P E o s K=gG P E o s' K:=by rw[h2]
@[congr] theorem aoH {l l':Option Nat} {es es' x:List (List D)} {z:Nat} {s s':St} {dst:Option Nat} {K:St->Prop} (h1:l=l') (h2:es=es') (h3:s=s'):D8 l es s dst z x K=D8 l' es' s' dst z x K:=by rw[h1,h2,h3]
@[congr] theorem aoI {b b':Bool} {n:Nat} {x:List (List D)} {z:Nat} {s s':St} {dst:Option Nat} {K:St->Prop} (h1:b=b') (h3:s=s'):FR b n s dst z x K=FR b' n s' dst z x K:=by rw[h1,h3]
@[congr] theorem amM {s s':St} {dst:Option Nat} {o o':Obj} {mk:Key->V} {K:St->Prop} (h1:s=s') (h2:o=o'):newObj s dst o mk K=newObj s' dst o' mk K:=by rw[h1,h2]
@[congr] theorem amN {t:TypeId} {s s':St} {dst:Option Nat} {K:St->Prop} (h1:s=s'):vZ P t s dst K=vZ P t s' dst K:=by rw[h1]
@[congr] theorem aoJ {v v':V} {s s':St} {dst:Option Nat} {K:St->Prop} (h1:v=v') (h2:s=s'):D7 v s dst K=D7 v' s' dst K:=by rw[h1,h2]
@[congr] theorem amO {t:TypeId} {a a' x x':V} {s s':St} {dst:Option Nat} {K:St->Prop} (h1:a=a') (h3:x=x') (h2:s=s'):wh P t a x s dst K=wh P t a' x' s' dst K:=by rw[h1,h2,h3]
@[congr] theorem aog {t:TypeId} {a a' x x':V} {s s':St} {dst:Option Nat} {K:St->Prop} (h1:a=a') (h3:x=x') (h2:s=s'):zq P t a x s dst K=zq P t a' x' s' dst K:=by rw[h1,h2,h3]
@[congr] theorem amj {t u:TypeId} {a a' x x':V} {s s':St} {dst:Option Nat} {K:St->Prop} (h1:a=a') (h3:x=x') (h2:s=s'):tO P t u a x s dst K=tO P t u a' x' s' dst K:=by rw[h1,h2,h3]
@[congr] theorem amk {s s':St} {dst:Option Nat} {K:St->Prop} (h2:s=s'):vF s dst K=vF s' dst K:=by rw[h2]
@[congr] theorem aml {t:TypeId} {a a' x x' y y':V} {s s':St} {dst:Option Nat} {K:St->Prop} (h1:a=a') (h3:x=x') (h4:y=y') (h2:s=s'):vG P t a x y s dst K=vG P t a' x' y' s' dst K:=by rw[h1,h2,h3,h4]
@[congr] theorem aoh {f:FuncId} {args args':List V} {s s':St} {dst:Option Nat} {K:St->Prop} (h1:args=args') (h2:s=s'):Bc P f args s dst K=Bc P f args' s' dst K:=by rw[h1,h2]
@[congr] theorem aoi {c:Call} {s s':St} {dst:Option Nat} {K:St->Prop} (h2:s=s'):pq P c s dst K=pq P c s' dst K:=by rw[h2]
@[congr] theorem aoj {K:St->Prop} {Q:Exit->St->Prop} {e:Exit} {s s':St} (h2:s=s'):lG K Q e s=lG K Q e s':=by rw[h2]
def iE(s:St)(dst:Option Nat)(K:St->Prop)(r:R):Prop:=r.1/\K (s.put dst r.2)
@[congr] theorem aok {s s':St} {dst:Option Nat} {K:St->Prop} {r r':R} (h1:s=s') (h2:r=r'):iE s dst K r=iE s' dst K r':=by rw[h1,h2]
theorem ahq{dst:Option Nat}{K:St->Prop}{p:Prop}{v:V}:iE s dst K (p,v)=(p/\K (s.put dst v)):=rfl
def Eh(caps:List (Key×Nat)):List V:=caps.map fun y=>.c (.ptr y.1 y.2)
def UF(P:Program)(fv:V)(args:List V)(s:St)(dst:Option Nat)(K:St->Prop):Prop:=
 match fv with
 | .c (.fn f caps)=>Bc P f (args++Eh caps) s dst K
 |_=>False
def Io(P:Program)(m:Nat)(f:FuncId)(args:List V)(s:St)(dst:Option Nat)(K:St->Prop):Prop:=
 match m with
 |0=>∃r,aC P f args r/\K (s.put dst r)
 |1=>∃S' v,DS s.st S'/\Bc P f args s dst (fun t=>t=St.put ⟨s.tm,S'⟩ dst v)/\K (St.put ⟨s.tm,S'⟩ dst v)
 |_=>∃S' v,Bc P f args s dst (fun t=>t=St.put ⟨s.tm,S'⟩ dst v)/\K (St.put ⟨s.tm,S'⟩ dst v)
def Bg(P:Program)(m:Nat)(fv:V)(args:List V)(s:St)(dst:Option Nat)(K:St->Prop):Prop:=
 match fv with
 | .c (.fn f caps)=>Io P m f (args++Eh caps) s dst K
 |_=>False
@[congr] theorem aol {fv fv':V} {args args':List V} {s s':St} {dst:Option Nat} {K:St->Prop} (h1:fv=fv') (h3:args=args') (h2:s=s'):UF P fv args s dst K=UF P fv' args' s' dst K:=by rw[h1,h2,h3]
@[congr] theorem aom {m:Nat} {fv fv':V} {args args':List V} {s s':St} {dst:Option Nat} {K:St->Prop} (h1:fv=fv') (h3:args=args') (h2:s=s'):Bg P m fv args s dst K=Bg P m fv' args' s' dst K:=by rw[h1,h2,h3]
@[congr] theorem aon {m:Nat} {f:FuncId} {args args':List V} {s s':St} {dst:Option Nat} {K:St->Prop} (h1:args=args') (h2:s=s'):Io P m f args s dst K=Io P m f args' s' dst K:=by rw[h1,h2]
theorem Yv{x:Operand}{args:Array Operand}{ts:Array TypeId}{dst:Option Nat}{K:St->Prop}:pq P ⟨.value x,args,ts⟩ s dst K=UF P (ev s.tm x) (Gv s.tm args.toList) s dst K:=rfl
theorem VI{x y:Operand}{t u:TypeId}{dst:Option Nat}{K:St->Prop}:pq P ⟨.builtin .append,#[x,y],#[t,u]⟩ s dst K=tO P t u (ev s.tm x) (ev s.tm y) s dst K:=rfl
theorem ad5{x:Operand}{t:TypeId}{dst:Option Nat}{K:St->Prop}:pq P ⟨.builtin .len,#[x],#[t]⟩ s dst K=iE s dst K (Hw P s.st t (ev s.tm x)):=rfl
theorem ad6{x y:Operand}{ts:Array TypeId}{dst:Option Nat}{K:St->Prop}:pq P ⟨.builtin .max,#[x,y],ts⟩ s dst K=iE s dst K (yg true (ev s.tm x) (ev s.tm y)):=rfl
theorem ad7{x y:Operand}{ts:Array TypeId}{dst:Option Nat}{K:St->Prop}:pq P ⟨.builtin .min,#[x,y],ts⟩ s dst K=iE s dst K (yg false (ev s.tm x) (ev s.tm y)):=rfl
theorem ahr{x:Operand}{t:TypeId}{tm:List (Nat×V)}:nval P S tm (.call ⟨.builtin .len,#[x],#[t]⟩)=Hw P S t (ev tm x):=rfl
def fA(P:Program)(mode:Option Nat)(f:FuncId)(args:List V)(s:St)(dst:Option Nat)(K:St->Prop):Prop:=
 match mode with
 |some m=>Io P m f args s dst K
 |none=>Bc P f args s dst K
@[congr] theorem aoo {dr:Option Nat} {f:FuncId} {args args':List V} {s s':St} {dst:Option Nat} {K:St->Prop} (h1:args=args') (h2:s=s'):fA P dr f args s dst K=fA P dr f args' s' dst K:=by rw[h1,h2]
theorem ahs{f:Nat}{caps:List (Key×Nat)}{args:List V}{dst:Option Nat}{K:St->Prop}:UF P (.c (.fn f caps)) args s dst K=fA P none f (args++Eh caps) s dst K:=rfl
theorem aht{m:Nat}{f:Nat}{caps:List (Key×Nat)}{args:List V}{dst:Option Nat}{K:St->Prop}:Bg P m (.c (.fn f caps)) args s dst K=fA P (some m) f (args++Eh caps) s dst K:=rfl
theorem aX{dr:Option Nat}{f:FuncId}{args:List V}{dst:Option Nat}{K:St->Prop}{r:V}(h:aC P f (args.map V.tq) r)(hK:K (s.put dst r)):fA P dr f args s dst K:=by
 cases dr with
 |none=>exact Ik h hK
 |some m=>
  match m with
  |0=>exact⟨r,fun S=>(h S).tq,hK⟩
  |1=>exact⟨s.st,r,DS.refl _,Ik h rfl,hK⟩
  |m+2=>exact⟨s.st,r,Ik h rfl,hK⟩
def aj0:Option Nat->Bool
 |none=>true
 |some m=>decide (2<=m)
def aoK:Option Nat->Bool
 |none=>true
 |some m=>decide (1<=m)
theorem cK{dr:Option Nat}{f:FuncId}{args:List V}{dst:Option Nat}{K:St->Prop}{r:V}{S1:Store}(hm:aj0 dr=true)(h:dw P f args s.st (fun r' S'=>r'=r/\S'=S1))(hK:K (St.put ⟨s.tm,S1⟩ dst r)):fA P dr f args s dst K:=by
 cases dr with
 |none=>exact .inl ⟨_,h,fun r' S' e=>by rw[e.1,e.2];exact hK⟩
 |some m=>
  match m,hm with
  |0,hm=>cases hm
  |1,hm=>cases hm
  |m+2,_=>exact⟨S1,r,.inl ⟨_,h,fun r' S' e=>by rw[e.1,e.2]⟩,hK⟩
theorem amP{dr:Option Nat}{f:FuncId}{args:List V}{dst:Option Nat}{K:St->Prop}{r:V}{S1:Store}(hm:aoK dr=true)(hd:DS s.st S1)(h:dw P f args s.st (fun r' S'=>r'=r/\S'=S1))(hK:K (St.put ⟨s.tm,S1⟩ dst r)):fA P dr f args s dst K:=by
 cases dr with
 |none=>exact .inl ⟨_,h,fun r' S' e=>by rw[e.1,e.2];exact hK⟩
 |some m=>
  match m,hm with
  |0,hm=>cases hm
  |1,_=>exact⟨S1,r,hd,.inl ⟨_,h,fun r' S' e=>by rw[e.1,e.2]⟩,hK⟩
  |m+2,_=>exact⟨S1,r,.inl ⟨_,h,fun r' S' e=>by rw[e.1,e.2]⟩,hK⟩
theorem amQ{f:FuncId}{args:List V}{dst:Option Nat}{K:St->Prop}{r:V}(h:aa4 P f args r)(hK:K (St.put s dst r)):fA P none f args s dst K:=.inr ⟨r,h,hK⟩
def Lj(P:Program)(R:Array Oper)(os:List Oper)(K:St->Prop)(s:St):Prop:=D9 P R os s K
def Ll(P:Program)(E:Md)(R:Array Oper)(os:List Oper)(K:St->Prop)(s:St):Prop:=uH P E R os s K
@[congr] theorem aop {R:Array Oper} {os:List Oper} {s s':St} {K:St->Prop} (h2:s=s'):Lj P R os K s=Lj P R os K s':=by rw[h2]
@[congr] theorem aoq {R:Array Oper} {os:List Oper} {s s':St} {K:St->Prop} (h2:s=s'):Ll P E R os K s=Ll P E R os K s':=by rw[h2]
section
variable {tm:List (Nat×V)} {R:Array Oper} {o:Oper} {os:List Oper} {K:St->Prop}
theorem ahu:D9 P R [] ⟨tm,S⟩ K=K ⟨tm,S⟩:=rfl
theorem ad8:D9 P R (o::os) ⟨tm,S⟩ K=wm P R o ⟨tm,S⟩ (Lj P R os K):=rfl
theorem ad9:Lj P R [] K ⟨tm,S⟩=K ⟨tm,S⟩:=rfl
theorem abq:Lj P R (o::os) K ⟨tm,S⟩=wm P R o ⟨tm,S⟩ (Lj P R os K):=rfl
theorem ahv:uH P E R [] ⟨tm,S⟩ K=K ⟨tm,S⟩:=rfl
theorem aea:uH P E R (o::os) ⟨tm,S⟩ K=rC P E R o ⟨tm,S⟩ (Ll P E R os K):=rfl
theorem aeb:Ll P E R [] K ⟨tm,S⟩=K ⟨tm,S⟩:=rfl
theorem abr:Ll P E R (o::os) K ⟨tm,S⟩=rC P E R o ⟨tm,S⟩ (Ll P E R os K):=rfl
end
section
variable {dst:Option Nat} {ty:TypeId} {pos:String} {after:Array Edge} {g:Option (Nat×Bool)} {K:St->Prop}
theorem Yw{t:TypeId}:iZ P ⟨dst,.alloc t,ty,pos,after,g⟩ s K=dD P ⟨dst,.alloc t,ty,pos,after,g⟩ s K:=rfl
theorem aec{t:TypeId}{x:Operand}:iZ P ⟨dst,.box t x,ty,pos,after,g⟩ s K=dD P ⟨dst,.box t x,ty,pos,after,g⟩ s K:=rfl
theorem Yx{t:TypeId}{a x:Operand}:iZ P ⟨dst,.store t a x,ty,pos,after,g⟩ s K=dD P ⟨dst,.store t a x,ty,pos,after,g⟩ s K:=rfl
theorem abt{t:TypeId}{a x:Operand}:iZ P ⟨dst,.makeSlice t a x,ty,pos,after,g⟩ s K=dD P ⟨dst,.makeSlice t a x,ty,pos,after,g⟩ s K:=rfl
theorem T9{t:TypeId}{r:Option Operand}:iZ P ⟨dst,.makeMap t r,ty,pos,after,g⟩ s K=dD P ⟨dst,.makeMap t r,ty,pos,after,g⟩ s K:=rfl
theorem Ow{t:TypeId}{x k v:Operand}:iZ P ⟨dst,.mapUpdate t x k v,ty,pos,after,g⟩ s K=dD P ⟨dst,.mapUpdate t x k v,ty,pos,after,g⟩ s K:=rfl
theorem VJ{t:TypeId}{x i:Operand}{b:Bool}:iZ P ⟨dst,.lookup t x i b,ty,pos,after,g⟩ s K=dD P ⟨dst,.lookup t x i b,ty,pos,after,g⟩ s K:=rfl
theorem abu{x:Operand}{as:Array Operand}{ts:Array TypeId}:iZ P ⟨dst,.call ⟨.value x,as,ts⟩,ty,pos,after,g⟩ s K=dD P ⟨dst,.call ⟨.value x,as,ts⟩,ty,pos,after,g⟩ s K:=rfl
theorem aed{as:Array Operand}{ts:Array TypeId}:iZ P ⟨dst,.call ⟨.builtin .len,as,ts⟩,ty,pos,after,g⟩ s K=dD P ⟨dst,.call ⟨.builtin .len,as,ts⟩,ty,pos,after,g⟩ s K:=rfl
theorem aee{as:Array Operand}{ts:Array TypeId}:iZ P ⟨dst,.call ⟨.builtin .max,as,ts⟩,ty,pos,after,g⟩ s K=dD P ⟨dst,.call ⟨.builtin .max,as,ts⟩,ty,pos,after,g⟩ s K:=rfl
theorem aef{as:Array Operand}{ts:Array TypeId}:iZ P ⟨dst,.call ⟨.builtin .min,as,ts⟩,ty,pos,after,g⟩ s K=dD P ⟨dst,.call ⟨.builtin .min,as,ts⟩,ty,pos,after,g⟩ s K:=rfl
theorem abv{x:Operand}:iZ P ⟨dst,.move x,ty,pos,after,g⟩ s K=dD P ⟨dst,.move x,ty,pos,after,g⟩ s K:=rfl
theorem VK{x:Operand}:iZ P ⟨dst,.assign x,ty,pos,after,g⟩ s K=dD P ⟨dst,.assign x,ty,pos,after,g⟩ s K:=rfl
theorem abw{c a b:Operand}:iZ P ⟨dst,.pick c a b,ty,pos,after,g⟩ s K=dD P ⟨dst,.pick c a b,ty,pos,after,g⟩ s K:=rfl
theorem abx{t:TypeId}{a:Operand}:iZ P ⟨dst,.load t a,ty,pos,after,g⟩ s K=dD P ⟨dst,.load t a,ty,pos,after,g⟩ s K:=rfl
theorem Ox{t:TypeId}{x:Operand}{f:Nat}:iZ P ⟨dst,.fieldAddr t x f,ty,pos,after,g⟩ s K=dD P ⟨dst,.fieldAddr t x f,ty,pos,after,g⟩ s K:=rfl
theorem Yy{t:TypeId}{x:Operand}{f:Nat}:iZ P ⟨dst,.field t x f,ty,pos,after,g⟩ s K=dD P ⟨dst,.field t x f,ty,pos,after,g⟩ s K:=rfl
theorem Oy{t:TypeId}{x i:Operand}:iZ P ⟨dst,.indexAddr t x i,ty,pos,after,g⟩ s K=dD P ⟨dst,.indexAddr t x i,ty,pos,after,g⟩ s K:=rfl
theorem Yz{t:TypeId}{x i:Operand}:iZ P ⟨dst,.index t x i,ty,pos,after,g⟩ s K=dD P ⟨dst,.index t x i,ty,pos,after,g⟩ s K:=rfl
theorem YA{op:BinOp}{t u:TypeId}{x y:Operand}:iZ P ⟨dst,.binOp op t x y u,ty,pos,after,g⟩ s K=dD P ⟨dst,.binOp op t x y u,ty,pos,after,g⟩ s K:=rfl
theorem aby{op:UnOp}{t:TypeId}{x:Operand}:iZ P ⟨dst,.unOp op t x,ty,pos,after,g⟩ s K=dD P ⟨dst,.unOp op t x,ty,pos,after,g⟩ s K:=rfl
theorem Ua{a b:TypeId}{x:Operand}:iZ P ⟨dst,.convert a b x,ty,pos,after,g⟩ s K=dD P ⟨dst,.convert a b x,ty,pos,after,g⟩ s K:=rfl
theorem Ub{x:Operand}{i:Nat}:iZ P ⟨dst,.extract x i,ty,pos,after,g⟩ s K=dD P ⟨dst,.extract x i,ty,pos,after,g⟩ s K:=rfl
theorem QN{fn:Fn}{a b:Array Operand}:iZ P ⟨dst,.makeFunc fn a b,ty,pos,after,g⟩ s K=dD P ⟨dst,.makeFunc fn a b,ty,pos,after,g⟩ s K:=rfl
theorem QO{x:Operand}:iZ P ⟨dst,.nilCheck x,ty,pos,after,g⟩ s K=dD P ⟨dst,.nilCheck x,ty,pos,after,g⟩ s K:=rfl
theorem YB{t:TypeId}{x:Operand}{lo hi mx:Option Operand}:iZ P ⟨dst,.slice t x lo hi mx,ty,pos,after,g⟩ s K=dD P ⟨dst,.slice t x lo hi mx,ty,pos,after,g⟩ s K:=rfl
theorem YC{t:TypeId}{parts:Array (Nat×Operand)}:iZ P ⟨dst,.build t parts,ty,pos,after,g⟩ s K=dD P ⟨dst,.build t parts,ty,pos,after,g⟩ s K:=rfl
theorem VL{x y:Operand}{t u:TypeId}:iZ P ⟨dst,.call ⟨.builtin .append,#[x,y],#[t,u]⟩,ty,pos,after,g⟩ s K=DC P t u (ev s.tm x) (ev s.tm y) s dst K:=rfl
theorem MZ{t:TypeId}{n:Nat}{parts:Array (Nat×Operand)}:iZ P ⟨dst,.buildSlice t n parts,ty,pos,after,g⟩ s K=JL P t s dst K (aa8 s.st t) (nH P (rE s.st) t n (Sj s.tm parts.toList)):=rfl
theorem abz{t:TypeId}:dD P ⟨dst,.alloc t,ty,pos,after,g⟩ s K=vZ P t s dst K:=rfl
theorem ahw{t:TypeId}{x:Operand}:dD P ⟨dst,.box t x,ty,pos,after,g⟩ s K=D7 (ev s.tm x) s dst K:=rfl
theorem abA{t:TypeId}{a x:Operand}:dD P ⟨dst,.store t a x,ty,pos,after,g⟩ s K=wh P t (ev s.tm a) (ev s.tm x) s dst K:=rfl
theorem aeg{t:TypeId}{a x:Operand}:dD P ⟨dst,.makeSlice t a x,ty,pos,after,g⟩ s K=zq P t (ev s.tm a) (ev s.tm x) s dst K:=rfl
theorem VN{t:TypeId}:dD P ⟨dst,.makeMap t none,ty,pos,after,g⟩ s K=vF s dst K:=rfl
theorem QS{t:TypeId}{x k v:Operand}:dD P ⟨dst,.mapUpdate t x k v,ty,pos,after,g⟩ s K=vG P t (ev s.tm x) (ev s.tm k) (ev s.tm v) s dst K:=rfl
theorem YD{t:TypeId}{x i:Operand}:dD P ⟨dst,.lookup t x i false,ty,pos,after,g⟩ s K=iE s dst K (Ap P s.st t (ev s.tm x) (ev s.tm i)):=rfl
theorem Uc{t:TypeId}:gG P E ⟨dst,.makeMap t none,ty,pos,after,g⟩ s K=vF s dst K:=rfl
theorem Oz{t:TypeId}{x k v:Operand}:gG P E ⟨dst,.mapUpdate t x k v,ty,pos,after,g⟩ s K=vG P t (ev s.tm x) (ev s.tm k) (ev s.tm v) s dst K:=rfl
theorem VO{t:TypeId}{x i:Operand}:gG P E ⟨dst,.lookup t x i false,ty,pos,after,g⟩ s K=iE s dst K (Ap P s.st t (ev s.tm x) (ev s.tm i)):=rfl
theorem aeh{c:Call}:dD P ⟨dst,.call c,ty,pos,after,g⟩ s K=pq P c s dst K:=rfl
theorem aei{x:Operand}:dD P ⟨dst,.move x,ty,pos,after,g⟩ s K=K (s.put dst (ev s.tm x)):=by simp[dD,nval,o9]
theorem YE{x:Operand}:dD P ⟨dst,.assign x,ty,pos,after,g⟩ s K=K (s.put dst (ev s.tm x)):=by simp[dD,nval,o9]
theorem aej{c a b:Operand}:dD P ⟨dst,.pick c a b,ty,pos,after,g⟩ s K=iE s dst K (K8 (ev s.tm c) (ev s.tm a) (ev s.tm b)):=rfl
theorem aek{t:TypeId}{a:Operand}:dD P ⟨dst,.load t a,ty,pos,after,g⟩ s K=iE s dst K (Db P s.st t (ev s.tm a)):=rfl
theorem QT{t:TypeId}{x:Operand}{f:Nat}:dD P ⟨dst,.fieldAddr t x f,ty,pos,after,g⟩ s K=iE s dst K (uE P s.st t (ev s.tm x) f):=rfl
theorem abB{t:TypeId}{x:Operand}{f:Nat}:dD P ⟨dst,.field t x f,ty,pos,after,g⟩ s K=iE s dst K (Gh P t (ev s.tm x) f):=rfl
theorem QU{t:TypeId}{x i:Operand}:dD P ⟨dst,.indexAddr t x i,ty,pos,after,g⟩ s K=iE s dst K (uF P s.st t (ev s.tm x) (ev s.tm i)):=rfl
theorem abC{t:TypeId}{x i:Operand}:dD P ⟨dst,.index t x i,ty,pos,after,g⟩ s K=iE s dst K (Gi P t (ev s.tm x) (ev s.tm i)):=rfl
theorem abD{op:BinOp}{t u:TypeId}{x y:Operand}:dD P ⟨dst,.binOp op t x y u,ty,pos,after,g⟩ s K=iE s dst K (Qz P op t (ev s.tm x) (ev s.tm y)):=rfl
theorem ael{op:UnOp}{t:TypeId}{x:Operand}:dD P ⟨dst,.unOp op t x,ty,pos,after,g⟩ s K=iE s dst K (ZT op (ev s.tm x)):=rfl
theorem VP{a b:TypeId}{x:Operand}:dD P ⟨dst,.convert a b x,ty,pos,after,g⟩ s K=iE s dst K (La P a b (ev s.tm x)):=rfl
theorem VQ{x:Operand}{i:Nat}:dD P ⟨dst,.extract x i,ty,pos,after,g⟩ s K=iE s dst K (Ao (ev s.tm x) i):=rfl
theorem Ud{fn:Fn}{a b:Array Operand}:dD P ⟨dst,.makeFunc fn a b,ty,pos,after,g⟩ s K=iE s dst K (yI fn (Gv s.tm a.toList) (Gv s.tm b.toList)):=rfl
theorem Ue{x:Operand}:dD P ⟨dst,.nilCheck x,ty,pos,after,g⟩ s K=iE s dst K (yJ s.st (ev s.tm x)):=rfl
theorem abE{t:TypeId}{x:Operand}{lo hi mx:Option Operand}:dD P ⟨dst,.slice t x lo hi mx,ty,pos,after,g⟩ s K=iE s dst K (Gj P t (ev s.tm x) (Si s.tm lo) (Si s.tm hi) (Si s.tm mx)):=rfl
theorem abF{t:TypeId}{parts:Array (Nat×Operand)}:dD P ⟨dst,.build t parts,ty,pos,after,g⟩ s K=iE s dst K (Gl P t (Sj s.tm parts.toList)):=rfl
theorem OA{t:TypeId}{n:Nat}{parts:Array (Nat×Operand)}:dD P ⟨dst,.buildSlice t n parts,ty,pos,after,g⟩ s K=iE s dst K (nH P (rE s.st) t n (Sj s.tm parts.toList)):=rfl
theorem YF{t:TypeId}:gG P E ⟨dst,.alloc t,ty,pos,after,g⟩ s K=vZ P t s dst K:=rfl
theorem aem{t:TypeId}{x:Operand}:gG P E ⟨dst,.box t x,ty,pos,after,g⟩ s K=D7 (ev s.tm x) s dst K:=rfl
theorem YG{t:TypeId}{a x:Operand}:gG P E ⟨dst,.store t a x,ty,pos,after,g⟩ s K=wh P t (ev s.tm a) (ev s.tm x) s dst K:=rfl
theorem abG{t:TypeId}{a x:Operand}:gG P E ⟨dst,.makeSlice t a x,ty,pos,after,g⟩ s K=zq P t (ev s.tm a) (ev s.tm x) s dst K:=rfl
theorem VR{args:Array Operand}{ts:Array TypeId}:gG P E ⟨dst,.call ⟨.builtin .append,args,ts⟩,ty,pos,after,g⟩ s K=pq P ⟨.builtin .append,args,ts⟩ s dst K:=rfl
theorem abH{x:Operand}:gG P E ⟨dst,.move x,ty,pos,after,g⟩ s K=K (s.put dst (ev s.tm x)):=by simp[gG,tQ,nval,o9]
theorem VT{x:Operand}:gG P E ⟨dst,.assign x,ty,pos,after,g⟩ s K=K (s.put dst (ev s.tm x)):=by simp[gG,tQ,nval,o9]
theorem abI{c a b:Operand}:gG P E ⟨dst,.pick c a b,ty,pos,after,g⟩ s K=iE s dst K (K8 (ev s.tm c) (ev s.tm a) (ev s.tm b)):=rfl
theorem abJ{t:TypeId}{a:Operand}:gG P E ⟨dst,.load t a,ty,pos,after,g⟩ s K=iE s dst K (Db P s.st t (ev s.tm a)):=rfl
theorem OB{t:TypeId}{x:Operand}{f:Nat}:gG P E ⟨dst,.fieldAddr t x f,ty,pos,after,g⟩ s K=iE s dst K (uE P s.st t (ev s.tm x) f):=rfl
theorem YH{t:TypeId}{x:Operand}{f:Nat}:gG P E ⟨dst,.field t x f,ty,pos,after,g⟩ s K=iE s dst K (Gh P t (ev s.tm x) f):=rfl
theorem OC{t:TypeId}{x i:Operand}:gG P E ⟨dst,.indexAddr t x i,ty,pos,after,g⟩ s K=iE s dst K (uF P s.st t (ev s.tm x) (ev s.tm i)):=rfl
theorem YI{t:TypeId}{x i:Operand}:gG P E ⟨dst,.index t x i,ty,pos,after,g⟩ s K=iE s dst K (Gi P t (ev s.tm x) (ev s.tm i)):=rfl
theorem YJ{op:BinOp}{t u:TypeId}{x y:Operand}:gG P E ⟨dst,.binOp op t x y u,ty,pos,after,g⟩ s K=iE s dst K (Qz P op t (ev s.tm x) (ev s.tm y)):=rfl
theorem abK{op:UnOp}{t:TypeId}{x:Operand}:gG P E ⟨dst,.unOp op t x,ty,pos,after,g⟩ s K=iE s dst K (ZT op (ev s.tm x)):=rfl
theorem Uf{a b:TypeId}{x:Operand}:gG P E ⟨dst,.convert a b x,ty,pos,after,g⟩ s K=iE s dst K (La P a b (ev s.tm x)):=rfl
theorem Ug{x:Operand}{i:Nat}:gG P E ⟨dst,.extract x i,ty,pos,after,g⟩ s K=iE s dst K (Ao (ev s.tm x) i):=rfl
theorem QV{fn:Fn}{a b:Array Operand}:gG P E ⟨dst,.makeFunc fn a b,ty,pos,after,g⟩ s K=iE s dst K (yI fn (Gv s.tm a.toList) (Gv s.tm b.toList)):=rfl
theorem QW{x:Operand}:gG P E ⟨dst,.nilCheck x,ty,pos,after,g⟩ s K=iE s dst K (yJ s.st (ev s.tm x)):=rfl
theorem YK{t:TypeId}{x:Operand}{lo hi mx:Option Operand}:gG P E ⟨dst,.slice t x lo hi mx,ty,pos,after,g⟩ s K=iE s dst K (Gj P t (ev s.tm x) (Si s.tm lo) (Si s.tm hi) (Si s.tm mx)):=rfl
theorem YL{t:TypeId}{parts:Array (Nat×Operand)}:gG P E ⟨dst,.build t parts,ty,pos,after,g⟩ s K=iE s dst K (Gl P t (Sj s.tm parts.toList)):=rfl
theorem M0{t:TypeId}{n:Nat}{parts:Array (Nat×Operand)}:gG P E ⟨dst,.buildSlice t n parts,ty,pos,after,g⟩ s K=iE s dst K (nH P (rE s.st) t n (Sj s.tm parts.toList)):=rfl
theorem aen{args:Array Operand}{ts:Array TypeId}:gG P E ⟨dst,.call ⟨.builtin .len,args,ts⟩,ty,pos,after,g⟩ s K=iE s dst K (nval P s.st s.tm (.call ⟨.builtin .len,args,ts⟩)):=rfl
theorem aeo{x y:Operand}{ts:Array TypeId}:gG P E ⟨dst,.call ⟨.builtin .max,#[x,y],ts⟩,ty,pos,after,g⟩ s K=iE s dst K (yg true (ev s.tm x) (ev s.tm y)):=rfl
theorem aep{x y:Operand}{ts:Array TypeId}:gG P E ⟨dst,.call ⟨.builtin .min,#[x,y],ts⟩,ty,pos,after,g⟩ s K=iE s dst K (yg false (ev s.tm x) (ev s.tm y)):=rfl
theorem abL{x:Operand}{args:Array Operand}{ts:Array TypeId}:gG P E ⟨dst,.call ⟨.value x,args,ts⟩,ty,pos,after,g⟩ s K=Bg P (E (.call ⟨.value x,args,ts⟩)) (ev s.tm x) (Gv s.tm args.toList) s dst K:=by
 simp only[gG,tQ];generalize E (.call ⟨.value x,args,ts⟩)=m
 match m with
 |0=>
  simp only[Ia];generalize ev s.tm x=fv
  cases fv with
  |c x=>cases x<;>simp[Bg,Io,Eh,Gv]
  |_=>simp[Bg]
 |1=>
  simp only[dD,pq];generalize ev s.tm x=fv
  cases fv with
  |c x=>cases x<;>simp[Bg,Io,Eh,Gv]
  |_=>simp[Bg]
 |m+2=>
  simp only[dD,pq];generalize ev s.tm x=fv
  cases fv with
  |c x=>cases x<;>simp[Bg,Io,Eh,Gv]
  |_=>simp[Bg]
end
def zH(v:V)(A B:St->Prop)(s:St):Prop:=
 match v with
 | .c (.d (.b x))=>Split x A B s
 |_=>False
def CW(P:Program)(N:Nat):Code->(Exit->St->Prop)->St->Prop
 | .seq x y,Q,s=>CW P N x (lG (CW P N y Q) Q) s
 | .region _ R false,Q,s=>D9 P R R.toList s (Q .normal)
 | .region _ R true,Q,s=>uH P (Oi R N) R R.toList s (Q .normal)
 | .cond c x y,Q,s=>zH (ev s.tm c) (CW P N x Q) (CW P N y Q) s
 | .block id c,Q,s=>CW P N c (zB id Q) s
 | .exit id,Q,s=>Q (.exit id) s
 | .ret,Q,s=>Q .ret s
 | .skip,Q,s=>Q .normal s
 | .loop c,Q,s=>AW P N (.loop c) Q s
 |_,_,_=>False
def aoL(N:Nat)(R:Array Oper):Bool:=R.toList.all (fun o=>match o.dst with|some d=>decide (d<N)|none=>true)
def codeOk(N:Nat):Code->Bool
 | .seq x y=>codeOk N x&&codeOk N y
 | .region _ R false=>aoL N R
 | .region _ R true=>QL R N
 | .cond _ x y=>codeOk N x&&codeOk N y
 | .block _ c=>codeOk N c
 | .loop c=>codeOk N c
 |_=>true
theorem iB(eP:P.follows .mixedOrders=true):∀(c:Code)(Q:Exit->St->Prop)(s:St),codeOk N c=true->CW P N c Q s->AW P N c Q s
 | .seq x y,Q,s,ok,h=>by
   simp only[codeOk,Bool.and_eq_true] at ok;refine JM (AW.mono (iB eP x _ s ok.1 h) fun e s' h'=> ?_)
   cases e with
   |normal=>exact iB eP y Q s' ok.2 h'
   |_=>exact h'
 | .region _ R false,Q,s,ok,h=>adS ok h
 | .region _ R true,Q,s,ok,h=>abj eP ok h
 | .cond c x y,Q,s,ok,h=>by
   simp only[codeOk,Bool.and_eq_true] at ok;simp only[CW,zH] at h;split at h
   ·rename_i b hb;exact Ld hb (fun e=>iB eP x Q s ok.1 (h.1 e)) (fun e=>iB eP y Q s ok.2 (h.2 e))
   ·exact h.elim
 | .block id c,Q,s,ok,h=>H8 (iB eP c _ s ok h)
 | .exit id,Q,s,ok,h=>aky h
 | .ret,Q,s,ok,h=>amv h
 | .skip,Q,s,ok,h=>akx h
 | .loop c,Q,s,ok,h=>h
 | .rangeFunc _ _ _ _,Q,s,ok,h=>h.elim
 | .scope _,Q,s,ok,h=>h.elim
 | .label _,Q,s,ok,h=>h.elim
 | .goto _,Q,s,ok,h=>h.elim
 | .refuse _,Q,s,ok,h=>h.elim
theorem amR{x y:Code}{Q:Exit->St->Prop}:CW P N (.seq x y) Q s=CW P N x (lG (CW P N y Q) Q) s:=by rw[CW]
theorem aer{id:Nat}{l:List Oper}{Q:Exit->St->Prop}:CW P N (.region id ⟨l⟩ false) Q s=D9 P ⟨l⟩ l s (Q .normal):=by rw[CW]
theorem akL{id:Nat}{l:List Oper}{Q:Exit->St->Prop}:CW P N (.region id ⟨l⟩ true) Q s=uH P (Oi ⟨l⟩ N) ⟨l⟩ l s (Q .normal):=by rw[CW]
theorem akM{c:Operand}{x y:Code}{Q:Exit->St->Prop}:CW P N (.cond c x y) Q s=zH (ev s.tm c) (CW P N x Q) (CW P N y Q) s:=by rw[CW]
theorem ahx{id:Nat}{c:Code}{Q:Exit->St->Prop}:CW P N (.block id c) Q s=CW P N c (zB id Q) s:=by rw[CW]
theorem akN{id:Nat}{Q:Exit->St->Prop}:CW P N (.exit id) Q s=Q (.exit id) s:=by rw[CW]
theorem amS{Q:Exit->St->Prop}:CW P N .ret Q s=Q .ret s:=by rw[CW]
theorem akO{Q:Exit->St->Prop}:CW P N .skip Q s=Q .normal s:=by rw[CW]
theorem QX{c:Code}{Q:Exit->St->Prop}:CW P N (.loop c) Q s=AW P N (.loop c) Q s:=by rw[CW]
theorem VU{K:St->Prop}{Q:Exit->St->Prop}:lG K Q .normal s=K s:=rfl
theorem aes{K:St->Prop}{Q:Exit->St->Prop}:lG K Q .ret s=Q .ret s:=rfl
theorem abM{K:St->Prop}{Q:Exit->St->Prop}{i:Nat}:lG K Q (.exit i) s=Q (.exit i) s:=rfl
theorem VW{id:Nat}{Q:Exit->St->Prop}:zB id Q .normal s=Q .normal s:=rfl
theorem aeu{id:Nat}{Q:Exit->St->Prop}:zB id Q .ret s=Q .ret s:=rfl
theorem abN{id i:Nat}{Q:Exit->St->Prop}:zB id Q (.exit i) s=if i=id then Q .normal s else Q (.exit i) s:=rfl
def ahy(post:V->Store->Prop)(s:St)(r:R):Prop:=r.1/\match r.2.ret with
 |some v=>post v (iq s.st)
 |none=>False
theorem akP{post:V->Store->Prop}{p:Prop}{v:V}:ahy post s (p,v)=(p/\match v.ret with
 |some v=>post v (iq s.st)
 |none=>False):=rfl
def QY(P:Program)(rs:List ResultVar)(post:V->Store->Prop)(e:Exit)(s:St):Prop:=agU P rs post e (Gu s)
def VX(P:Program)(rs:List ResultVar)(post:V->Store->Prop)(s:St):Prop:=ahy post s (vQ P rs s)
theorem ahz{rs:List ResultVar}{post:V->Store->Prop}:QY P rs post .ret s=VX P rs post (Gu s):=rfl
theorem YM{rs:List ResultVar}{post:V->Store->Prop}:QY P rs post .normal s=VX P rs post (Gu s):=rfl
theorem akQ{rs:List ResultVar}{post:V->Store->Prop}{tm:List (Nat×V)}:VX P rs post ⟨tm,S⟩=ahy post ⟨tm,S⟩ (vQ P rs ⟨tm,S⟩):=rfl
def amT(j:Nat)(es:List (List D))(tm:List (Nat×V)):List (Nat×V):=tm.map fun x=>(x.1,x.2.oU j es)
theorem aev{j:Nat}{es:List (List D)}{tm:List (Nat×V)}{t:Nat}:look (amT j es tm) t=(look tm t).oU j es:=Im (f:=V.oU j es) rfl tm t
def amU(j:Nat)(tm:List (Nat×V))(own:List Obj)(Ω:Store):Option Obj->St
 |some (.gF _ es)=>⟨amT j es tm,(own.map (Obj.oU j es)).set j .dead::Ω⟩
 |_=>⟨tm,own::Ω⟩
theorem ahA{j:Nat}{tm:List (Nat×V)}{own:List Obj}{Ω:Store}:Ou j ⟨tm,own::Ω⟩=amU j tm own Ω (own[j]?):=by
 unfold Ou
 simp only
 generalize own[j]? =o
 cases o with
 |none=>rfl
 |some o=>cases o<;>rfl
theorem aew{tm:List (Nat×V)}{own:List Obj}{Ω:Store}:Gu ⟨tm,own::Ω⟩=Ov own.length ⟨tm,own::Ω⟩:=rfl
theorem aB{f:FuncId}{fn:Func}{c:Code}{args:List V}{post:V->Store->Prop}{rs:List ResultVar}(eP:P.follows .mixedOrders=true)(hf:P.funcs[f]? =some fn)(hN:fn.ntmps=N)
 (hb:fn.body=some c) (hn:(fn.name== "runtime.NumGoroutine")=false) (hr:fn.results.toList=rs) (hl:Nat.ble args.length N=true) (hok:codeOk N c=true)
 (h:CW P N c (QY P rs post) ⟨pz (args.map (V.up 1)) 0,[]::S⟩):dw P f args S post:=by
 subst hN;subst hr;exact qW hf hb hn (Nat.le_of_ble_eq_true hl) (wD zG (iB eP c _ _ hok h))
end
theorem Lm(n:Int)(h: -9223372036854775808<=n/\n<=9223372036854775807):IntKind.i64.wrap n=n:=IntWalk.i64_in n h
theorem wrap_u8(n:Int)(h:0<=n/\n<=255):IntKind.u8.wrap n=n:=IntWalk.u8_in n h
theorem getD_map{α β:Type}(f:α->β)(l:List α)(i:Nat)(d:β)(h:i<l.length):(l.map f).getD i d=f l[i]:=by
 simp[List.getD,h]
theorem abO{k:IntKind}{n:Int}:DW (.int k n)=.c (.d (.i k n)):=rfl
theorem YN{b:Bool}:DW (.bool b)=.c (.d (.b b)):=rfl
theorem abP{l:List UInt8}:DW (.string ⟨⟨l⟩⟩)=.c (.d (.s l)):=rfl
theorem YO:DW (.slice none 0 0)=.c (.bn []):=rfl
theorem ahB{tm:List (Nat×V)}{S:Store}{d:Nat}{v:V}:St.put ⟨tm,S⟩ (some d) v=⟨(d,v)::tm,S⟩:=rfl
theorem ahC{tm:List (Nat×V)}{S:Store}{v:V}:St.put ⟨tm,S⟩ none v=⟨tm,S⟩:=rfl
theorem amV{a b:V}:K8 (.c (.d (.b true))) a b=(True,a):=rfl
theorem amW{a b:V}:K8 (.c (.d (.b false))) a b=(True,b):=rfl
theorem YP{tm:List (Nat×V)}{own:List Obj}{Ω:Store}{dst:Option Nat}{o:Obj}{mk:Key->V}{K:St->Prop}:
 newObj ⟨tm,own::Ω⟩ dst o mk K=K (St.put ⟨tm,(own++[o])::Ω⟩ dst (mk (0,own.length))):=rfl
theorem amX{x:C}{s:St}{dst:Option Nat}{K:St->Prop}:D7 (.c x) s dst K=newObj s dst (.box [x]) (fun k=>.c (.ptr k 0)) K:=rfl
theorem ahD{x:List C}{s:St}{dst:Option Nat}{K:St->Prop}:D7 (.agg x) s dst K=newObj s dst (.box x) (fun k=>.c (.ptr k 0)) K:=rfl
theorem ahE{α β:Type}{f:α->Option β}:([]:List α).mapM f=some []:=by simp
theorem aex{α β:Type}{f:α->Option β}{x:α}{xs:List α}:(x::xs).mapM f=(f x).bind fun y=>(xs.mapM f).bind fun ys=>some (y::ys):=by
 rw[List.mapM_cons];rfl
theorem aoM{c:C}:C.down 0 c=some c:=by cases c<;>simp[C.down]
theorem ahF{n m j:Nat}{es:List (List D)}:C.down n (.bB (n+m,j) es)=some (.bB (m,j) es):=by simp[C.down]
theorem aey{n j:Nat}{es:List (List D)}:C.down n (.bB (n,j) es)=some (.bB (0,j) es):=by simp[C.down]
theorem amY{n:Nat}{x:D}:C.down n (.d x)=some (.d x):=rfl
theorem ahG{n:Nat}:C.down n .any=some .any:=rfl
theorem ahH{n:Nat}{es:List (List D)}:C.down n (.bn es)=some (.bn es):=rfl
theorem ahI{n m j off:Nat}:C.down n (.ptr (n+m,j) off)=some (.ptr (m,j) off):=by simp[C.down]
theorem aez{n j off:Nat}:C.down n (.ptr (n,j) off)=some (.ptr (0,j) off):=by simp[C.down]
theorem ahJ{n m:Nat}{es:List (List D)}:C.down n (.lZ m es)=some (.lZ m es):=rfl
theorem ahK{Ω:Store}:rE ([]::Ω)=none:=rfl
theorem ahL{cs:List C}{own:List Obj}{Ω:Store}:rE ((.box cs::own)::Ω)=none:=rfl
theorem ahM{z:Nat}{es:List (List D)}{own:List Obj}{Ω:Store}:rE ((.tok z es::own)::Ω)=none:=rfl
theorem aeA{z:Nat}{es:List (List D)}{own:List Obj}{Ω:Store}:rE ((.gF z es::own)::Ω)=none:=rfl
theorem akR{m:List (List UInt8)}{own:List Obj}{Ω:Store}:rE ((.mp m::own)::Ω)=none:=rfl
theorem aeB{own:List Obj}{Ω:Store}:rE ((.dead::own)::Ω)=none:=rfl
theorem aeC{n z:Nat}{es:List (List D)}{own:List Obj}{Ω:Store}:rE ((.eu n z es::own)::Ω)=none:=rfl
theorem aeD{n:Nat}{own:List Obj}{Ω:Store}:rE ((.seed n::own)::Ω)=some n:=rfl
theorem aeE{es x:List (List D)}{z:Nat}{s:St}{dst:Option Nat}{K:St->Prop}:D8 none es s dst z x K=newObj s dst (.tok z x) (fun k=>.c (.bB k x)) K:=rfl
theorem ahN{n:Nat}{x:List (List D)}{z:Nat}{s:St}{dst:Option Nat}{K:St->Prop}:D8 (some n) [] s dst z x K=K (St.put ⟨s.tm,s.st⟩ dst (.c (.d (.ol n x)))):=rfl
theorem aeF{n:Nat}{y:List D}{es x:List (List D)}{z:Nat}{s:St}{dst:Option Nat}{K:St->Prop}:D8 (some n) (y::es) s dst z x K=newObj s dst (.tok z x) (fun k=>.c (.bB k x)) K:=rfl
theorem abQ{n:Nat}{x:List (List D)}{z:Nat}{s:St}{dst:Option Nat}{K:St->Prop}:FR false n s dst z x K=newObj s dst (.eu n z x) (fun k=>.c (.bB k x)) K:=rfl
theorem aeG{n:Nat}{x:List (List D)}{z:Nat}{s:St}{dst:Option Nat}{K:St->Prop}:FR true n s dst z x K=K (St.put ⟨s.tm,s.st⟩ dst (.c (.d (.ol n x)))):=rfl
theorem ahO{own:List Obj}{Ω:Store}:aa3 (own::Ω)=zu own[1]? :=rfl
theorem abR:zu none=false:=rfl
theorem aeH{cs:List C}:zu (some (.box cs))=false:=rfl
theorem aeI{z:Nat}{es:List (List D)}:zu (some (.tok z es))=false:=rfl
theorem abS{n z:Nat}{es:List (List D)}:zu (some (.eu n z es))=false:=rfl
theorem abT{z:Nat}{es:List (List D)}:zu (some (.gF z es))=false:=rfl
theorem abU:zu (some .dead)=false:=rfl
theorem ahP{m:List (List UInt8)}:zu (some (.mp m))=false:=rfl
theorem akS{own:List Obj}{Ω:Store}{t:TypeId}:aa8 (own::Ω) t=Cq own[0]? t:=rfl
theorem aeJ{t:TypeId}:Cq none t=false:=rfl
theorem ahQ{t:TypeId}{cs:List C}:Cq (some (.box cs)) t=false:=rfl
theorem ahR{t:TypeId}{z:Nat}{es:List (List D)}:Cq (some (.tok z es)) t=false:=rfl
theorem aeK{t:TypeId}{n z:Nat}{es:List (List D)}:Cq (some (.eu n z es)) t=false:=rfl
theorem aeL{t:TypeId}{z:Nat}{es:List (List D)}:Cq (some (.gF z es)) t=false:=rfl
theorem aeM{t:TypeId}:Cq (some .dead) t=false:=rfl
theorem akT{t:TypeId}{m:List (List UInt8)}:Cq (some (.mp m)) t=false:=rfl
theorem aeN{t:TypeId}{n:Nat}:Cq (some (.seed n)) t=false:=rfl
theorem akU{t:TypeId}:Cq (some (.xf [])) t=rowIs t:=rfl
theorem ahS{t:TypeId}{r:List (List D)}{rs:List (List (List D))}:Cq (some (.xf (r::rs))) t=false:=rfl
theorem abV{P:Program}{t:TypeId}{s:St}{dst:Option Nat}{K:St->Prop}{r:R}:JL P t s dst K false r=iE s dst K r:=rfl
theorem aeO{P:Program}{t:TypeId}{s:St}{dst:Option Nat}{K:St->Prop}{p:Prop}{es:List (List D)}:JL P t s dst K true (p,.c (.bn es))=(match P.underlying t with
 |some (.slice e)=>p/\newObj s dst (.gF (P.cellsOf e) es) (fun k=>.c (.mD k)) K
 |_=>False):=rfl
theorem akV{own:List Obj}{Ω:Store}{rs:List (List (List D))}:rE ((.xf rs::own)::Ω)=none:=rfl
theorem YQ:zu (some (.seed 0))=false:=rfl
theorem YR:zu (some (.seed 1))=true:=rfl
attribute [go_sem ↓] Yw aec Yx abt T9 Ow VJ abu aed aee aef abv VK abw abx Ox Yy Oy Yz YA aby Ua Ub QN QO YB YC VL MZ
attribute [go_sem] akS aeJ ahQ ahR aeK aeL aeM akT aeN akU ahS rowIs abV aeO akV DC Gp List.getElem?_nil
attribute [go_sem] aeE ahN aeF abQ aeG ahO abR aeH aeI abS abT abU ahP YQ YR
theorem ahT{P:Program}{t:TypeId}{n:Nat}{parts:List (Nat×V)}:nH P none t n parts=sP P t n parts:=rfl
def aj1(m:Nat):R->R
 |(p,.c (.bn es))=>(p,.c (.lZ m es))
 |_=>no
theorem ahU{m:Nat}{p:Prop}{es:List (List D)}:aj1 m (p,.c (.bn es))=(p,.c (.lZ m es)):=rfl
theorem ahV{P:Program}{m:Nat}{t:TypeId}{n:Nat}{parts:List (Nat×V)}:nH P (some m) t n parts=aj1 m (sP P t n parts):=rfl
attribute [go_sem_proc] Nat.reduceEqDiff Nat.reduceAdd Nat.reduceLeDiff Nat.reduceSub Nat.reduceMul Nat.reduceBEq Int.reduceEq Int.reduceLT Int.reduceLE Int.reduceGT Int.reduceGE Int.reduceNeg Int.reduceToNat
attribute [go_sem_proc ↓] reduceIte
attribute [wf_preprocess] decide_eq_true_eq decide_eq_false_iff_not Bool.not_eq_true Bool.not_eq_false Bool.not_eq_eq_eq_not Bool.not_true Bool.not_false Classical.not_not
attribute [go_sem ↓] ahu ad8 ad9 abq ahv aea aeb abr Yt Yu VG VH akK ahp ad3 amR aer akL akM ahx akN amS akO QX VU aes abM VW aeu abN ahz YM aew Yv VI ad5 ad6 ad7 aeo aep abz ahw abA aeg VN QS YD Uc Oz VO aeh aei YE aej aek QT abB QU abC abD ael VP VQ Ud Ue abE abF OA YF aem YG abG VR abH VT abI abJ OB YH OC YI YJ abK Uf Ug QV QW YK YL M0 aen abL
attribute [go_sem] Ef abo Yr ahq akQ akP zH Ov ahA amU aev V.oU C.oU Obj.oU ahr ahs aht Eh
 abm abn akI ahl ahm ahn akJ aho ev abO YN abP YO Gg ahB ahC look amV amW YP amX ahD vZ wh zq tO Vg
 Db K9 Co headD aaP uE Gh EY Bz uF Gi aaQ aaR Qz ZT La Ao Hw Gj zi yI capOf yJ
 U2 yg Ap vF vG xO bA bJ C.up V.up CQ gT pz V.tq C.tq aoM ahF aey amY ahG ahH ahI aez
 List.map_cons List.map_nil List.append_nil List.nil_append List.length_nil List.length_cons List.cons_append Option.map_some Option.map_none Option.bind_some Option.bind_none
 List.getElem?_cons_zero List.getElem?_cons_succ List.set_cons_zero List.set_cons_succ List.drop_zero List.drop_succ_cons List.drop_nil List.take_zero List.take_succ_cons List.take_nil
 if_true if_false true_and and_true Int.toNat_natCast List.getElem?_toArray List.size_toArray Nat.zero_add Nat.add_zero Bool.false_eq_true Bool.true_eq_false Bool.not_true Bool.not_false reduceCtorEq
 decide_true decide_false List.all_cons List.all_nil Bool.and_true Bool.true_and Option.isSome_some Option.isSome_none Lm getD_map ahE aex RQ splice List.length_map Hy Gl yK sP List.size_toArray ahK ahL ahM aeA akR aeB aeC aeD ahT ahV ahU ahJ
section
variable {P:Program} {S S':Store} {N:Nat} {s:St}
def gV:List Nat->List V->List (Nat×V)
 |t::ts,v::vs=>(t,v)::gV ts vs
 |_,_=>[]
theorem yu(f:Nat->V):∀(ts:List Nat)(t:Nat),look (gV ts (ts.map f)) t=f t\/look (gV ts (ts.map f)) t=.any
 |[],t=>.inr rfl
 |u::us,t=>by
  show(if u=t then f u else look (gV us (us.map f)) t)=f t\/(if u=t then f u else look (gV us (us.map f)) t)=.any;by_cases e:u=t
  ·left;rw[if_pos e,e]
  ·rw[if_neg e];exact yu f us t
def Inv{ι:Type}(N:Nat)(ts:List Nat)(f:ι->List V)(g:ι->Store)(p:ι->Prop)(μ:ι->Nat)(i:ι)(s':St):Prop:=∃j s0,μ j<μ i/\gU N s' s0/\ts.map (look s0.tm)=f j/\s0.st=g j/\p j
theorem bV{ι:Type}{ts:List Nat}{f:ι->List V}{g:ι->Store}{p:ι->Prop}{μ:ι->Nat}{i:ι}(j:ι)(h1:μ j<μ i)(h2:ts.map (look s.tm)=f j)(h3:s.st=g j)(h4:p j):Inv N ts f g p μ i s:=
 ⟨j,s,h1,gU.refl _ _,h2,h3,h4⟩
theorem Ei:∀(ts:List Nat)(vs:List V),ts.Nodup->ts.length=vs.length->ts.map (look (gV ts vs))=vs
 |[],[],_,_=>rfl
 |t::ts,v::vs,hn,hl=>by
  have hn':=List.nodup_cons.1 hn;have ih:=Ei ts vs hn'.2 (by simpa using hl);simp only[gV,List.map_cons,look,if_true,List.cons.injEq,true_and];rw[<-ih];refine List.map_congr_left fun u hu=> ?_;have hne:t≠u:=fun e=>hn'.1 (e▸hu);rw[if_neg hne,ih]
theorem bL{ι:Type}{ts:List Nat}{f:ι->List V}{g:ι->Store}{p:ι->Prop}{μ:ι->Nat}{i:ι}{tm:List (Nat×V)}{own:List Obj}{Ω:Store}(n:Nat)(hnd:ts.Nodup)(j:ι)(h1:μ j<μ i)(h2:ts.map (look tm)=f j)(h3:own.take n::Ω=g j)
 (hr:iR n (gV ts (f j))=true)(ho:(own.take n).all (Obj.refs n)=true)(h4:p j):Inv N ts f g p μ i ⟨tm,own::Ω⟩:=by
 refine⟨j,⟨gV ts (f j),own.take n::Ω⟩,h1,?_,?_,h3,h4⟩
 ·have hg:gU N ⟨tm,own::Ω⟩ ⟨gV ts (f j),own::Ω⟩:=by
   rw[<-h2];exact MX fun t=>yu _ ts t
  exact hg.trans (Oo n hr ho)
 ·exact Ei ts (f j) hnd (by rw[<-h2];simp)
theorem aR{ι:Type}{c:Code}{Q:Exit->St->Prop}(eP:P.follows .mixedOrders=true)(hok:codeOk N c=true)(ts:List Nat)(f:ι->List V)(g:ι->Store)(p:ι->Prop)(μ:ι->Nat)(i0:ι)
 (h1:ts.map (look s.tm)=f i0)(h2:s.st=g i0)(h3:p i0)
 (round:∀i,p i->CW P N c (lG (Inv N ts f g p μ i) Q) ⟨gV ts (f i),g i⟩):AW P N (.loop c) Q s:=by
 refine QI (ι:=ι) (fun i s=>∃s0,gU N s s0/\ts.map (look s0.tm)=f i/\s0.st=g i/\p i) μ i0 ⟨s,gU.refl _ _,h1,h2,h3⟩ fun i s hI=> ?_;obtain⟨s0,hg,h1,h2,h3⟩:=hI;refine ni ?_ hg
 have hr:=(iB eP c _ _ hok (round i h3)).mono (Q':=lG (fun s'=>∃j,μ j<μ i/\∃s0,gU N s' s0/\ts.map (look s0.tm)=f j/\s0.st=g j/\p j) Q) fun e s' h=>by
  cases e with
  |normal=>
   obtain⟨j,s0,a1,a2,a3,a4,a5⟩:=h;exact⟨j,a1,s0,a2,a3,a4,a5⟩
  |_=>exact h
 obtain⟨tm,st⟩:=s0;simp only at h1 h2;subst h2;rw[<-h1] at hr;exact abl hr fun t=>yu _ ts t
theorem ahW:vQ P [] s=(True,.dN []):=rfl
theorem ahX{x:ResultVar}:vQ P [x] s=zC P s x:=rfl
theorem ahY{x y:ResultVar}{z:List ResultVar}:vQ P (x::y::z) s=(match(rG P s (x::y::z)).2 with
 |some ys=>((rG P s (x::y::z)).1,.dN ys)
 |none=>no):=rfl
end
attribute [go_sem] Hu NM
attribute [go_sem] gV ahW ahX ahY zC rG Oe iq V.ret Le
section
variable {P:Program} {S S':Store} {N:Nat} {s:St}
theorem cu{α:Type}{fr:List α}{S:List (List α)}{l j:Nat}:bA (fr::S) (1+l,j)=bA S (l,j):=by rw[Nat.add_comm,dA]
theorem dn{α:Type}{fr:List α}{S:List (List α)}{l j:Nat}{x:α}:bJ (fr::S) (1+l,j) x=fr::bJ S (l,j) x:=by rw[Nat.add_comm,bJ]
theorem amZ{n l j:Nat}:CQ n (l,j)=(n+l,j):=rfl
theorem abW{l j:Nat}{es:List (List D)}:C.ret (.bB (1+l,j) es)=some (.bB (l,j) es):=by
 rw[Nat.add_comm];show C.down 1 (.bB (l+1,j) es)=_;simp[C.down]
theorem ret_tsl_0{j:Nat}{es:List (List D)}:C.ret (.bB (0,j) es)=some (.d (.sl es)):=rfl
theorem aoN{x:D}:C.ret (.d x)=some (.d x):=rfl
theorem akW:C.ret .any=some .any:=rfl
theorem akX{es:List (List D)}:C.ret (.bn es)=some (.bn es):=rfl
theorem akY{n:Nat}{es:List (List D)}:C.ret (.lZ n es)=some (.lZ n es):=rfl
theorem ahZ{cs:List D}:C.ret (.nK cs)=some (.nK cs):=rfl
theorem akZ{l j off:Nat}:C.ret (.ptr (1+l,j) off)=some (.ptr (l,j) off):=by
 rw[Nat.add_comm];show C.down 1 (.ptr (l+1,j) off)=_;simp[C.down]
theorem ak0{j:Nat}{es es':List (List D)}{k:Key}:C.oU j es (.bB k es')=.bB k es':=rfl
theorem aoO{x:D}:C.tq (.d x)=.d x:=rfl
theorem ak1:C.tq .any=.any:=rfl
theorem ak2{k:Key}{off:Nat}:C.tq (.ptr k off)=.ptr k off:=rfl
theorem am0{f:Nat}{caps:List (Key×Nat)}:C.tq (.fn f caps)=.fn f caps:=rfl
theorem ak3{k:Key}:C.tq (.mD k)=.mD k:=rfl
theorem ah0{cs:List D}:C.tq (.nK cs)=.nK cs:=rfl
theorem aoP{j:Nat}{es:List (List D)}{x:D}:C.oU j es (.d x)=.d x:=rfl
theorem ak4{j:Nat}{es:List (List D)}:C.oU j es .any=.any:=rfl
theorem ak5{j:Nat}{es es':List (List D)}:C.oU j es (.bn es')=.bn es':=rfl
theorem ak6{j:Nat}{es:List (List D)}{k:Key}{off:Nat}:C.oU j es (.ptr k off)=.ptr k off:=rfl
theorem am1{j:Nat}{es:List (List D)}{f:Nat}{caps:List (Key×Nat)}:C.oU j es (.fn f caps)=.fn f caps:=rfl
theorem ak7{j n:Nat}{es es':List (List D)}:C.oU j es (.lZ n es')=.lZ n es':=rfl
theorem ak8{n:Nat}{es:List (List D)}:C.tq (.lZ n es)=.lZ n es:=rfl
theorem ah1{j:Nat}{es:List (List D)}{cs:List D}:C.oU j es (.nK cs)=.nK cs:=rfl
theorem ak9{j i:Nat}{es:List (List D)}:C.oU j es (.mD (0,i))=if i=j then .d (.sl es) else .mD (0,i):=rfl
theorem dw.ah2{f:FuncId}(i:Nat){es:List (List D)}{aW:Nat}{args:List V}{post post':V->Store->Prop}(hi:args[i]? =some (.c (.bn es)))(hes:∀e∈es,e.length=aW)
 (h:dw P f ((args.map (V.up 1)).set i (.c (.bB (0,0) es))) ([.tok aW es]::S) post)
 (hp:∀r fr S',post r (fr::S')->∃r',r.ret=some r'/\post' r' S'):dw P f args S post':=by
 refine⟨h.1,fun w σ β vs hS hargs=> ?_⟩;obtain⟨v,hv0,⟨hd,ad,n,hval⟩,hone⟩:=hargs.2 i _ hi
 ·have hn:n=es.length:=by rw[hval] at hd;cases hd<;>rfl
  have hg:Grow w σ w σ:=Grow.refl hS.live
  obtain⟨hS',hk,hst⟩:=hS.up1.push (o:=.tok aW es) (h:=v) hg rfl ⟨hd,hes,ad,n,by rw[hval,hn],by omega,.inl hn⟩ (fun b hb=>by
   rw[hval,hn] at hb
   cases ad<;>simp[owns,blk] at hb)
  have hargs':qh w σ ([.tok aW es]::S) ([v]::β) ((args.map (V.up 1)).set i (.c (.bB (0,0) es))) vs:=by
   refine⟨by have:=hargs.1;simpa using this,fun j x hx=> ?_⟩;rw[List.getElem?_set] at hx;by_cases e:i=j
   ·subst e;rw[if_pos rfl] at hx;split at hx
    ·cases hx;refine⟨v,hv0,⟨hd,.tok aW es,rfl,fun a b e=> ?_⟩,hone⟩;obtain⟨_,rfl⟩:=oL (lab:=none) e;exact⟨Nat.le_refl _,fun _=>rfl⟩
    ·cases hx
   ·rw[if_neg e,List.getElem?_map] at hx
    cases ha:args[j]? with
    |none=>rw[ha] at hx;cases hx
    |some y=>
     rw[ha] at hx;cases hx;obtain⟨u,hu,hr⟩:=hargs.2 j y ha;exact⟨u,hu,QJ (S:=[.tok aW es]::S) (β:=[v]::β) 1 hr⟩
  refine(h.2 w σ ([v]::β) vs hS' hargs').mono fun e w' ⟨v',r,S1,σ',β',he,hS1,hk1,zA,hr1,hpost⟩=> ?_
  have hO:∀b,Own ([.tok aW es]::S) ([v]::β) b->Own S β b:=by
   rintro b ⟨⟨l,j⟩,o,hv,h1,h2,h3⟩
   cases l with
   |zero=>
    rw[bR] at h1 h2
    cases j with
    |zero=>
     cases h1;cases h2;rw[hval,hn] at h3;cases ad<;>simp[owns,blk] at h3
    |succ j=>simp at h1
   |succ l=>rw[dA] at h1 h2;exact⟨(l,j),o,hv,h1,h2,h3⟩
  cases S1 with
  |nil=>
   obtain⟨o',h1,_⟩:=hk1 (0,0) _ rfl;rw[uz] at h1;cases h1
  |cons fr S1=>
   cases β' with
   |nil=>have:=hS1.shape.1;simp at this
   |cons bo bΩ=>
    obtain⟨r',hr',hp'⟩:=hp r fr S1 hpost;refine⟨v',r',S1,σ',bΩ,he,hS1.ajW,hk1.drop 1,⟨zA.size,zA.os,zA.output,fun b hb ho=>zA.far b hb (fun x=>ho (hO b x)),zA.near,fun b hb=>(zA.own b (Sb hb)).imp (hO b) id⟩,Vq hr' hr1,hp'⟩
end
attribute [go_sem] cu dn amZ abW ret_tsl_0 aoN akW akX ahZ akZ ak0 aoO ak1 ak2 am0 ak3 ah0 aoP ak4 ak5 ak6 am1 ah1 ak9 akY ak7 ak8
end Go.Ab