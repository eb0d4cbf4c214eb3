/-
  SEVERAL TEXTS IN ONE (merged by program): contracts and models, each with its own heading.
-/
import Derived.Test.YtlaaknnkeidlbaaGreatDoorPartDmbA
import Derived.LoopN
import Derived.StillTail
set_option linter.unusedSimpArgs false
set_option linter.unusedVariables false
namespace Go.Ab
def rowIs(t:TypeId):Bool:=t==82||t==86||t==91||t==90
def Cw(o:Option Obj)(t:TypeId):Bool:=match o with
 |some (.xf [])=>rowIs t
 |_=>false
def aaJ(S:Store)(t:TypeId):Bool:=Cw (bE S (0,0)) t
def JQ(P:Program)(t:TypeId)(s:St)(dst:Option Nat)(K:St->Prop)(b:Bool)(r:R):Prop:=
 match b,r with
 |false,r=>r.1/\K (s.put dst r.2)
 |true,(p,.c (.bF es))=>match P.underlying t with
  |some (.slice e)=>p/\newObj s dst (.fO (P.cellsOf e) es) (fun k=>.c (.jQ k)) K
  |_=>False
 |true,_=>False
def Gy(P:Program)(t u:TypeId)(k:Key)(y:V)(s:St)(dst:Option Nat)(K:St->Prop):Prop:=
 match P.underlying t,Vk P u y,bE s.st k with
 |some (.slice e),some ys,some (.fO bg es)=>bg=P.cellsOf e/\(∀y∈ys,y.length=P.cellsOf e)/\P.bytesOf e<=4096/\(∃zs,jI P e=some zs/\zs.length=P.cellsOf e)/\es.length+ys.length<=1073741824/\
   newObj ⟨s.tm,bG s.st k .dead⟩ dst (.fO bg (es++ys)) (fun k=>.c (.jQ k)) K
 |_,_,_=>False
def DT(P:Program)(t u:TypeId)(x y:V)(s:St)(dst:Option Nat)(K:St->Prop):Prop:=
 match x with
 | .c (.jQ k)=>Gy P t u k y s dst K
 |x=>uq P t u x y s dst K
def iU(P:Program)(o:Oper)(s:St)(K:St->Prop):Prop:=
 match o.op with
 | .call {callee:=.builtin .append,args:=Ee,argTypes:=ts}=>match Ee.toList,ts.toList with
   |[x,y],[t,u]=>DT P t u (ev s.tm x) (ev s.tm y) s o.dst K
   |_,_=>False
 | .buildSlice t n parts=>JQ P t s o.dst K (aaJ s.st t) (nval P s.st s.tm (.buildSlice t n parts))
 |_=>dF P o s K
section
variable {P:Program} {w w':World} {σ σ':Nat->Nat} {S:Store} {β β':Hs} {N:Nat} {s:St} {a:Act}
theorem fA.lay{own:List Obj}{Ω:Store}{bo:List Value}{bΩ:Hs}{o:Obj}{h:Value}(hS:fA w σ (own::Ω) (bo::bΩ))(hlen:bo.length=own.length)
 (ho:gZ w σ ((own++[o])::Ω) ((bo++[h])::bΩ) o h)(hb:∀b,owns o h b->¬Own (own::Ω) (bo::bΩ) b):
 fA w σ ((own++[o])::Ω) ((bo++[h])::bΩ)/\Keep (own::Ω) (bo::bΩ) ((own++[o])::Ω) ((bo++[h])::bΩ)/\∀b,Own ((own++[o])::Ω) ((bo++[h])::bΩ) b->Own (own::Ω) (bo::bΩ) b\/owns o h b:=by
 have hkeep:Keep (own::Ω) (bo::bΩ) ((own++[o])::Ω) ((bo++[h])::bΩ):=by
  intro k o1 h1;obtain⟨h2,yu,_⟩:=hS.obj k o1 h1;exact⟨o1,kD _ _ _ _ _ h1,by rw[kD _ _ _ _ _ yu,yu];exact .refl _ _⟩
 have hinv:∀k o1 h1,bE ((own++[o])::Ω) k=some o1->bE ((bo++[h])::bΩ) k=some h1->
  (bE (own::Ω) k=some o1/\bE (bo::bΩ) k=some h1)\/(k=(0,own.length)/\o1=o/\h1=h):=by
  intro k o1 h1 e1 e2;rcases mM _ _ _ _ _ e1 with e1|⟨rfl,rfl⟩
  ·left;refine⟨e1,?_⟩;rcases mM _ _ _ _ _ e2 with e2|⟨rfl,rfl⟩
   ·exact e2
   ·rw[bK,hlen] at e1;have:=(List.getElem?_eq_some_iff.1 e1).1;omega
  ·right;rw[<-hlen,cu] at e2;exact⟨rfl,rfl,(Option.some.inj e2).symm⟩
 refine⟨⟨?_,?_,⟨?_,?_⟩,hS.live,hS.wh⟩,hkeep,?_⟩
 ·intro k o1 h1;rcases mM _ _ _ _ _ h1 with h1|⟨rfl,rfl⟩
  ·obtain⟨h2,yu,hr⟩:=hS.obj k o1 h1;exact⟨h2,kD _ _ _ _ _ yu,hr.mono (eu.refl _ _) (hkeep.drop _) fun b hb=>⟨rfl,rfl⟩⟩
  ·exact⟨h,by rw[<-hlen,cu],ho⟩
 ·intro k k' o1 o2 h1 h2 b e1 e2 e3 e4 e5 e6;rcases hinv k o1 h1 e1 e2 with⟨f1,f2⟩|⟨rfl,rfl,rfl⟩
  ·rcases hinv k' o2 h2 e4 e5 with⟨g1,g2⟩|⟨rfl,rfl,rfl⟩
   ·exact hS.apart _ _ _ _ _ _ _ f1 f2 e3 g1 g2 e6
   ·exact absurd ⟨k,o1,h1,f1,f2,e3⟩ (hb b e6)
  ·rcases hinv k' o2 h2 e4 e5 with⟨g1,g2⟩|⟨rfl,rfl,rfl⟩
   ·exact absurd ⟨k',o2,h2,g1,g2,e6⟩ (hb b e3)
   ·rfl
 ·have:=hS.shape.1;simpa using this
 ·intro l fr hl
  cases l with
  |zero=>
   simp at hl;exact⟨_,rfl,by rw[<-hl];simp[hlen]⟩
  |succ l=>exact hS.shape.2 (l+1) fr hl
 ·rintro b ⟨k,o1,h1,e1,e2,e3⟩;rcases hinv k o1 h1 e1 e2 with⟨f1,f2⟩|⟨rfl,rfl,rfl⟩
  ·exact .inl ⟨k,o1,h1,f1,f2,e3⟩
  ·exact .inr e3
theorem aaK{t u ty e:TypeId}{sv:Value}{size:Nat}{es ys:List (List D)}{yv:Value}(hl:∀b,b<w.heap.size\/σ b=0)
 (ht:P.underlying t=some (.slice e))(hu:Ot P u)(hz:∃zs,jI P e=some zs/\zs.length=size)(hsize:P.cellsOf e=size)(hb:P.bytesOf e<=4096)
 (hs:gZ w σ S β (.fO size es) sv)(hy:BL P w σ size ys yv)(hlen:es.length+ys.length<=1073741824):
 ∃r w',(Builtin.append_ #[t,u] ty #[sv,yv]).run P w=.ok r w'/\(∀S' β',gZ w' σ S' β' (.fO size (es++ys)) r)/\w.heap.size<=w'.heap.size/\w'.os=w.os/\w'.output=w.output/\
  eu w σ w' σ/\(∀b,b<w'.heap.size\/σ b=0)/\(∀b,b<w.heap.size->¬owns (.fO size es) sv b->w'.heap[b]? =w.heap[b]?)/\
  (∀b,owns (.fO size (es++ys)) r b->owns (.fO size es) sv b\/w.heap.size<=b)/\r.oneCell'=true:=by
 obtain⟨zs,hzs,hzl⟩:=hz;obtain⟨z,yt,hzc⟩:=wM (w:=w) (σ:=σ) (S:=S) (β:=β) hzs
 have JM:z.cells.size=size:=by have:=hzc.1;simp at this;omega
 have hex:∃info,P.info? e=some info/\info.zero=some z:=by
  unfold jI at hzs
  cases hi:P.info? e with
  |none=>rw[hi] at hzs;cases hzs
  |some i=>
   refine⟨i,rfl,?_⟩
   cases hz:i.zero with
   |none=>rw[hi] at hzs;simp[hz] at hzs
   |some z'=>
    have:(zeroValue e).run P w=.ok z' w:=by simp[zeroValue,typeInfo,hi,hz]
    rw[yt] at this;cases this;rfl
 obtain⟨info,hi,hiz⟩:=hex
 have hib:info.bytes=P.bytesOf e:=by simp[Program.bytesOf,hi]
 have his:info.size=size:=by rw[<-hsize];simp[Program.cellsOf,hi]
 have hs0:=hs;obtain⟨hle,base,sCap,rfl,hcap,h4⟩:=hs;obtain⟨hyl,hys,ya,Ov,Vh,hyd⟩:=hy w rfl;have hall:∀x∈es++ys,x.length=size:=fun x hx=>(List.mem_append.1 hx).elim (hle x) (hys x);have hfl:es.flatten.length=es.length*size:=jB es size hle;have ZC:ys.flatten.length=ys.length*size:=jB ys size hys;have hlen':(es++ys).length=es.length+ys.length:=List.length_append
 have hone:∀v∈ya.toList,v.oneCell'=true:=fun v hv=>by
  obtain⟨j,hj⟩:=List.getElem?_of_mem hv;have hjl:=(List.getElem?_eq_some_iff.1 hj).1;simp at hjl;obtain⟨v',hv',hr⟩:=hyd j _ (List.getElem?_eq_getElem (by omega));rw[Array.getElem?_toList] at hj;rw[hj] at hv';cases hv';exact hr.one
 by_cases hn0:ys.length=0
 ·have agC:ys=[]:=List.eq_nil_of_length_eq_zero hn0;subst agC
  have hya:ya= #[]:=by simpa using Vh
  subst hya;refine⟨_,w,JJ ht hu hi hyl (by rw[his];exact Ov) hcap,fun S' β'=> ?_,Nat.le_refl _,rfl,rfl,eu.refl _ _,hl,fun b _ _=>rfl,fun b hb=>.inl (by simpa using hb),rfl⟩;rw[List.append_nil];exact hs0
 by_cases hroom:es.length+ys.length<=sCap
 ·have hc0:sCap≠0:=by omega
  obtain⟨b,c,ct,rfl,hbc,hσ,hfit,hcells⟩:=h4.resolve_left hc0
  have hmul:es.length*size+ys.length*size<=sCap*size:=by rw[<-Nat.add_mul];exact Nat.mul_le_mul_right _ hroom
  have hrun:=JK (P:=P) (ty:=ty) (b:=b) (off:=0) ht hu hi hyl (by rw[his];exact Ov) hroom hbc (by rw[his,Vh];omega) hone;rw[his,Nat.zero_add] at hrun;generalize hc2:(c.toList.take (es.length*size)++ya.toList++c.toList.drop (es.length*size+ya.size)).toArray=c2 at hrun
  have Ea:c2.size=c.size:=by rw[<-hc2];simp;omega
  have hheap:(w.setRow b c2).heap[b]? =some (.cells c2 ct (0,0)):=setRow_heap w b c c2 ct (0,0) hbc
  have hlow:∀i,i<es.length*size->c2[i]? =c[i]? :=fun i hi=>by
   rw[<-hc2,List.getElem?_toArray,List.append_assoc,List.getElem?_append_left (by simp;omega),List.getElem?_take_of_lt hi,Array.getElem?_toList]
  have hmid:∀j,j<ya.size->c2[es.length*size+j]? =ya[j]? :=fun j hj=>by
   rw[<-hc2,List.getElem?_toArray,List.getElem?_append_left (by simp;omega),List.getElem?_append_right (by simp;omega),<-Array.getElem?_toList];congr 1;simp;omega
  have hn:eu w σ (w.setRow b c2) σ:=by
   intro b1 c1 t1 Fj e1;refine⟨Nat.le_refl _,fun _=>rfl,?_⟩;by_cases hb1:b1=b
   ·subst hb1;rw[hbc] at e1;cases e1;exact⟨c2,hheap,Ea,fun i hi=>by omega⟩
   ·exact⟨c1,(iT w b c2 b1 hb1).trans e1,rfl,fun _ _=>rfl⟩
  refine⟨_,_,hrun,fun S' β'=>⟨hall,_,sCap,by rw[hlen'],by omega,.inr ⟨b,c2,ct,rfl,hheap,hσ,by omega,fun j d hj=> ?_⟩⟩,by rw[setRow_size];exact Nat.le_refl _,rfl,rfl,hn,fun x=>by rw[setRow_size];exact hl x,fun x hx hne=> ?_,fun x hx=>.inl ?_,rfl⟩
  ·rw[List.flatten_append] at hj;by_cases hjl:j<es.length*size
   ·rw[List.getElem?_append_left (by omega)] at hj;obtain⟨v,hv,hr⟩:=hcells j d hj;exact⟨v,by rw[hlow j hjl];exact hv,hr.mono hn⟩
   ·rw[List.getElem?_append_right (by omega),hfl] at hj;obtain⟨v,hv,hr⟩:=hyd _ d hj;have hlt:=(Array.getElem?_eq_some_iff.1 hv).1;refine⟨v,?_,hr.mono hn⟩;rw[<-hv,<-hmid _ hlt];congr 1;omega
  ·exact iT _ _ _ _ fun e=>hne (by simp[owns,blk,hc0,e])
  ·simpa [owns,blk] using hx
 ·obtain⟨amZ,_,Ow,Vi,Ox,Vj⟩:=hy w.drew rfl
  obtain⟨oa,hor,JN,hod⟩:∃oa:Array Value,(Builtin.firstCells size es.length (.slice base es.length sCap)).run P w.drew=.ok oa w.drew/\oa.size=es.length*size/\∀(j:Nat)(d:D),es.flatten[j]? =some d->∃v,oa[j]? =some v/\dK w σ d v:=by
   rcases h4 with h0|⟨b,c,ct,rfl,hbc,hσ,hfit,hcells⟩
   ·have he:es=[]:=List.eq_nil_of_length_eq_zero (by omega);subst he;refine⟨#[],?_,by simp,fun j d hj=>by simp at hj⟩
    cases base with
    |none=>rfl
    |some b=>simp[Builtin.firstCells,loadCells,loadCellsFrom]
   ·have hm:es.length*size<=sCap*size:=Nat.mul_le_mul_right _ hcap;have hbc':w.drew.heap[b]? =some (.cells c ct (0,0)):=hbc;have hex:∀j,j<es.length*size->∃v,c[0+j]? =some v:=fun j hj=>⟨c[0+j]'(by omega),Array.getElem?_eq_getElem (by omega)⟩;obtain⟨hpl,hpv⟩:=BK c 0 (es.length*size) hex;refine⟨_,zH (a:=⟨b,0,none⟩) rfl hbc' _ hex,by simpa using hpl,fun j d hj=> ?_⟩;obtain⟨v,hv,hr⟩:=hcells j d hj;have hjl:=(List.getElem?_eq_some_iff.1 hj).1;refine⟨v,?_,hr⟩;rw[List.getElem?_toArray,hpv j (by omega),Nat.zero_add];exact hv
  obtain⟨cap,rest,Lj,hrest,hrun⟩:=Eb (P:=P) (ty:=ty) (base:=base) (sCap:=sCap) ht hu hi hiz hyl (by rw[his];exact Vi) (by rw[his];exact hor) (by omega) hlen (by rw[hib];exact hb)
  let w':World:={w.drew with heap:=w.heap.push (.cells (oa++Ow++rest) e)}
  have hn:eu w σ w' σ:=by
   intro b1 c1 t1 Fj e1
   have hne:b1≠w.heap.size:=by have:=lt_of_some e1;omega
   refine⟨Nat.le_refl _,fun _=>rfl,c1,?_,rfl,fun _ _=>rfl⟩;simp only[w'];rw[Array.getElem?_push,if_neg hne];exact e1
  have hn':eu w.drew σ w' σ:=hn
  have hheap:w'.heap[w.heap.size]? =some (.cells (oa++Ow++rest) e (0,0)):=by simp[w']
  have hσ0:σ w.heap.size=0:=by
   rcases hl w.heap.size with h|h
   ·omega
   ·exact h
  refine⟨_,w',hrun,fun S' β'=>⟨hall,_,cap,by rw[hlen'],by omega,.inr ⟨w.heap.size,_,e,rfl,hheap,hσ0,?_,fun j d hj=> ?_⟩⟩,by simp[w'],rfl,rfl,hn,fun x=> ?_,fun x hx _=> ?_,fun x hx=>.inr ?_,rfl⟩
  ·simp only[Array.size_append,JN,Ox,hrest,JM];rw[<-Nat.add_mul,<-Nat.add_mul];exact Nat.mul_le_mul_right _ (by omega)
  ·rw[List.flatten_append] at hj;by_cases hjl:j<es.length*size
   ·rw[List.getElem?_append_left (by omega)] at hj;obtain⟨v,hv,hr⟩:=hod j d hj;refine⟨v,?_,hr.mono hn⟩;rw[Array.append_assoc,Array.getElem?_append_left (by omega)];exact hv
   ·rw[List.getElem?_append_right (by omega),hfl] at hj;obtain⟨v,hv,hr⟩:=Vj _ d hj;have hlt:=(Array.getElem?_eq_some_iff.1 hv).1;refine⟨v,?_,hr.mono hn'⟩;rw[Array.append_assoc,Array.getElem?_append_right (by omega),JN,Array.getElem?_append_left (by omega)];exact hv
  ·simp only[w',Array.size_push];exact(hl x).imp (fun h=>by omega) id
  ·have hne:x≠w.heap.size:=by omega
   simp only[w'];rw[Array.getElem?_push,if_neg hne]
  ·simp only[owns,blk] at hx;split at hx
   ·cases hx
   ·cases hx;exact Nat.le_refl _
theorem Vr{o:Oper}{K:St->Prop}{Q:Exit->Act->World->Prop}{t u:TypeId}{x y:Operand}{k:Key}(hrun:∀r w',(Builtin.append_ #[t,u] o.type #[a.eval x,a.eval y]).run P w=.ok r w'->(execOp a.eval o).run P w=.ok (.value r) w')
 (hd:∀d,o.dst=some d->d<N)(hR:kQ N s a w σ β)(hx:ev s.tm x=.c (.jQ k))(h:Gy P t u k (ev s.tm y) s o.dst K):o.wp P a w (Then N s.st β σ w K) Q:=by
 have hxr:=kL hR.T x;have Ov:=kL hR.T y;rw[hx] at hxr;unfold Gy at h;split at h
 ·rename_i e ys bg es ht hsrc hk;obtain⟨rfl,h1,h2,h3,h5,h6⟩:=h;obtain⟨hu,hsa⟩:=Vn hsrc Ov h1;obtain⟨⟨ob,ho,aaH⟩,hone⟩:=hxr;rw[hk] at ho;cases ho;have hβ:=aaH _ _ rfl;obtain⟨hh,hb,FX⟩:=hR.S.obj k _ hk;rw[hβ] at hb;cases hb;obtain⟨r,w',hr,hro,hsz,hos,hout,hn,hl,uo,hbk,h1c⟩:=aaK (P:=P) (ty:=o.type) hR.S.live ht hu h3 rfl h2 FX hsa h5;obtain⟨hS1,hk1,Ic⟩:=hR.S.set (o':=.dead) (h':=a.eval x) hk hβ hsz hos hout hn hl (fun b h1 h2=>⟨uo b h1 h2,rfl⟩) (.inl rfl) trivial (fun b hb=>by cases hb);have e1:bG β k (a.eval x)=β:=JH (a.eval x) _ _ _ hβ;rw[e1] at hS1 hk1 Ic;obtain⟨tm,st⟩:=s;have hsh:=hS1.shape
  cases hst:bG st k Obj.dead with
  |nil=>simp only[newObj,hst] at h6
  |cons own Ω=>
   simp only[newObj,hst] at h6
   have agD:fA w' σ (own::Ω) β:=by rw[<-hst];exact hS1
   have hfr:∃bo bΩ,β=bo::bΩ/\bo.length=own.length:=by
    cases β with
    |nil=>have:=agD.shape.1;simp at this
    |cons bo bΩ=>
     refine⟨bo,bΩ,rfl,?_⟩;obtain⟨gr,q1,q2⟩:=agD.shape.2 0 own rfl;simp at q1;rw[q1];exact q2
   obtain⟨bo,bΩ,rfl,hlen⟩:=hfr
   have hnot:∀b,owns (.fO (P.cellsOf e) (es++ys)) r b->¬Own (own::Ω) (bo::bΩ) b:=by
    intro b hb ⟨k1,o1,h1,e1,e2,e3⟩
    have hin:bE st k1=some o1/\k1≠k:=by
     have Ml:bE (bG st k Obj.dead) k1=some o1:=by rw[hst];exact e1
     by_cases q:k1=k
     ·subst q;rw[dL _ _ _ _ hk] at Ml;cases Ml;cases e3
     ·rw[fH _ _ _ _ (Ne.symm q)] at Ml;exact⟨Ml,q⟩
    rcases hbk b hb with k2|k2
    ·exact hin.2 (hR.S.apart k1 k o1 _ h1 _ b hin.1 e2 e3 hk hβ k2)
    ·have:=hR.S.Gp ⟨k1,o1,h1,hin.1,e2,e3⟩;omega
   obtain⟨hS2,hk2,hown⟩:=agD.lay hlen (hro _ _) hnot
   have agE:Keep st (bo::bΩ) (own::Ω) (bo::bΩ):=by rw[<-hst];exact hk1
   have Ll:Step st (bo::bΩ) σ w (own::Ω) (bo::bΩ) σ w':=by rw[<-hst];exact Ic
   refine lF (x:=.c (.jQ (0,own.length))) (v:=r) hd hR hS2 (agE.trans hk2) ⟨Ll.size,Ll.os,Ll.output,Ll.far,Ll.near,fun b hb=> ?_⟩ ⟨⟨_,cu _ _ _,fun a b e=> ?_⟩,h1c⟩ (.inl rfl) (hrun _ _ hr) h6
   ·rcases hown b hb with q|q
    ·exact Ll.own b q
    ·rcases hbk b q with q2|q2
     ·exact .inl ⟨k,_,_,hk,hβ,q2⟩
     ·exact .inr q2
   ·rw[<-hlen,cu]
 ·exact h.elim
theorem adD{o:Oper}{K:St->Prop}{Q:Exit->Act->World->Prop}{t:TypeId}{n:Nat}{parts:Array (Nat×Operand)}(ho:o.op=.buildSlice t n parts)(hd:∀d,o.dst=some d->d<N)(hR:kQ N s a w σ β)
 (h:JQ P t s o.dst K (aaJ s.st t) (nval P s.st s.tm (.buildSlice t n parts))):o.wp P a w (Then N s.st β σ w K) Q:=by
 unfold JQ at h;split at h
 ·obtain⟨h1,h2⟩:=h;rw[<-ho] at h1 h2;obtain⟨v,w',σ',hrun,hg,hv⟩:=Oi o hR.S hR.T h1;exact sH hd hR hg hv hrun h2
 ·rename_i p es hb hr;split at h
  ·rename_i e ht;obtain⟨hp,h6⟩:=h;have hr':oL P (rP s.st) s.st s.tm (.buildSlice t n parts)=(p,.c (.bF es)):=hr;simp only[oL] at hr'
   cases hlab:rP s.st with
   |some m=>
    rw[hlab] at hr';simp only[nH] at hr';split at hr'<;>cases hr'
   |none=>
    rw[hlab] at hr';simp only[nH,tJ,ht] at hr';split at hr'
    ·rename_i es' hes;cases hr';obtain⟨h1,h2,h3⟩:=hp
     obtain⟨ca,hrun,hca,hle,hcells⟩:=Fg (P:=P) (w:=w) (σ:=σ) (S:=s.st) (β:=β) (t:=t) (n:=n) (parts:=parts.toList.map fun x=>(x.1,ev s.tm x.2)) (pv:=parts.toList.map fun x=>(x.1,a.eval x.2)) (by simp)
      (fun j x hx=>by
        rw[List.getElem?_map] at hx ⊢
        cases hc:parts.toList[j]? with
        |none=>rw[hc] at hx;cases hx
        |some y=>rw[hc] at hx;cases hx;exact⟨_,rfl,kL hR.T y.2⟩) ht hes h1 h2 h3
     have hrun':(execOp a.eval o).run P w=.ok (.value (.slice (some ⟨w.heap.size,0,none⟩) n n)) {w with heap:=w.heap.push (.cells ca e)}:=by
      clear h6 hr;obtain⟨dst,op,ty,pos,after,guard⟩:=o;simp only at ho;subst ho;simp[execOp];rw[Vd,hrun];rfl
     have hg:=Dn w σ hR.S.live ca e 0
     have hσ0:σ w.heap.size=0:=by
      rcases hR.S.live w.heap.size with h|h
      ·omega
      ·exact h
     obtain⟨tm,st⟩:=s
     cases st with
     |nil=>exact h6.elim
     |cons own Ω=>
      obtain⟨bo,bΩ,rfl,hlen⟩:=frames hR
      obtain⟨hS',hk,hst⟩:=hR.S.push (o:=.fO (P.cellsOf e) es) (h:=.slice (some ⟨w.heap.size,0,none⟩) n n) hg hlen
       ⟨hle,some ⟨w.heap.size,0,none⟩,n,by rw[h1],by omega,.inr ⟨w.heap.size,ca,e,rfl,by simp,by simp,by rw[hca,h1];exact Nat.le_refl _,fun j d hj=>by
         obtain⟨v,hv,hr⟩:=hcells j d hj
         exact⟨v,hv,hr.mono hg.near⟩⟩⟩
       (fun b hb=>by
         simp only[owns,blk] at hb;split at hb
         ·cases hb
         ·cases hb;exact Nat.le_refl _)
      refine lF (x:=.c (.jQ (0,own.length))) hd hR hS' hk hst ⟨⟨_,cu _ _ _,fun bg es e=> ?_⟩,rfl⟩ (.inl rfl) hrun' h6;rw[<-hlen,cu]
    ·cases hr'
  ·exact h.elim
 ·exact h.elim
theorem Mq(hw:∀{o:Oper}{K:St->Prop}{Q:Exit->Act->World->Prop},(∀d,o.dst=some d->d<N)->dF P o s K->o.wp P a w (Then N s.st β σ w K) Q){o:Oper}{K:St->Prop}{Q:Exit->Act->World->Prop}(hd:∀d,o.dst=some d->d<N)(hR:kQ N s a w σ β)(h:iU P o s K):o.wp P a w (Then N s.st β σ w K) Q:=by
 unfold iU at h;split at h
 ·rename_i Ee ts ho;split at h
  ·rename_i x y t u hx ht;unfold DT at h;split at h
   ·rename_i k hk;refine Vr (fun r w' hr=> ?_) hd hR hk h;clear h;obtain⟨dst,op,ty,pos,after,guard⟩:=o;simp only at ho;subst ho
    obtain rfl:Ee= #[x,y]:=by rw[<-Array.toArray_toList (xs:=Ee),hx]
    obtain rfl:ts= #[t,u]:=by rw[<-Array.toArray_toList (xs:=ts),ht]
    simp only at hr;simp[execOp,resolve,invoke,builtin,hr]
   ·refine hw hd ?_;unfold dF;rw[ho];simp only[oN,hx,ht];exact h
  ·exact h.elim
 ·rename_i t n parts ho;exact adD ho hd hR h
 ·exact hw hd h
end
section
variable {P:Program} {w w':World} {σ σ':Nat->Nat} {S:Store} {β β':Hs} {N:Nat} {s:St} {a:Act}
theorem Ie{o:Oper}{K:St->Prop}{Q:Exit->Act->World->Prop}(hd:∀d,o.dst=some d->d<N)(hR:kQ N s a w σ β)(h:dF P o s K):o.wp P a w (Then N s.st β σ w K) Q:=by
 unfold dF at h;split at h
 ·rename_i t ho;unfold wN at h;split at h
  ·rename_i zs hz;obtain⟨z,yt,hzc⟩:=wM (w:=w) (σ:=σ) (S:=s.st) (β:=β) hz;refine Oy (v:=z) (t:=t) hd hR hzc (fun ad w' Oz=> ?_) h;obtain⟨dst,op,ty,pos,after,guard⟩:=o;simp only at ho;subst ho;simp[execOp,Instr.alloc,yt,Oz]
  ·exact h.elim
 ·rename_i t x ho;unfold Ec at h;split at h
  ·rename_i cs hcs;refine Oy (v:=a.eval x) (t:=t) hd hR (zK hcs (kL hR.T x)) (fun ad w' Oz=> ?_) h;obtain⟨dst,op,ty,pos,after,guard⟩:=o;simp only at ho;subst ho;simp[execOp,Instr.box,Oz]
  ·exact h.elim
 ·rename_i t x y ho;exact X8 ho hd hR h
 ·rename_i t x y ho;exact aaG ho hd hR h
 ·rename_i t ho;exact Vl ho hd hR h
 ·rename_i t x y z ho;exact Vm ho hd hR h
 ·rename_i c ho;exact OA ho hd hR h
 ·obtain⟨h1,h2⟩:=h;obtain⟨v,w',σ',hrun,hg,hv⟩:=Oi o hR.S hR.T h1;exact sH hd hR hg hv hrun h2
def gQ(R:Array Oper)(j:Nat):Option Nat:=(R[j]?).bind (·.dst)
def wP(P:Program)(R:Array Oper)(o:Oper)(s:St)(K:St->Prop):Prop:=
 match o.guard with
 |none=>iU P o s K
 |some (j,want)=>
  match(gQ R j).map (look s.tm) with
  |some (.c (.d (.b x)))=>(x=want->iU P o s K)/\(x= !want->K (s.put o.dst (.fF [])))
  |some (.fF [])=>K (s.put o.dst (.fF []))
  |_=>False
def Ef(P:Program)(R:Array Oper):List Oper->St->(St->Prop)->Prop
 |[],s,K=>K s
 |o::os,s,K=>wP P R o s fun s'=>Ef P R os s' K
theorem Then.mono{K K':St->Prop}{a':Act}{w':World}(hK:∀s,K s->K' s)(h:Then N S β σ w K a' w'):Then N S β σ w K' a' w':=by
 obtain⟨s',σ',β',h1,h2,h3,h4⟩:=h;exact⟨s',σ',β',h1,h2,h3,hK _ h4⟩
theorem Eh{R:Array Oper}{j:Nat}{x:Bool}(hR:kQ N s a w σ β)(h:(gQ R j).map (look s.tm)=some (.c (.d (.b x)))):yielded R a.tmps j=some x:=by
 unfold yielded;unfold gQ at h
 cases hd:(R[j]?).bind (·.dst) with
 |none=>rw[hd] at h;cases h
 |some d=>
  rw[hd] at h;simp only[Option.map_some,Option.some.injEq] at h;have ht:=hR.T d;rw[h] at ht;obtain⟨ht,_⟩:=ht;simp only[Option.bind_some]
  have hlt:d<a.tmps.size:=by
   rcases Nat.lt_or_ge d a.tmps.size with h|h
   ·exact h
   ·simp[Array.getD,Nat.not_lt.2 h,undef] at ht;cases ht
  have hg:a.tmps.getD d undef=a.tmps[d]:=by simp[Array.getD,hlt]
  rw[hg] at ht;rw[Array.getElem?_eq_getElem hlt];generalize a.tmps[d]=v at ht;cases ht;rfl
theorem Jk{R:Array Oper}{j:Nat}(hR:kQ N s a w σ β)(h:(gQ R j).map (look s.tm)=some (.fF [])):yielded R a.tmps j=none:=by
 unfold yielded;unfold gQ at h
 cases hd:(R[j]?).bind (·.dst) with
 |none=>rw[hd] at h;cases h
 |some d=>
  rw[hd] at h;simp only[Option.map_some,Option.some.injEq] at h;have ht:=hR.T d;rw[h] at ht;obtain⟨ar,hv,_⟩:=ht;simp only[Option.bind_some];by_cases hlt:d<a.tmps.size
  ·have hg:a.tmps.getD d undef=a.tmps[d]:=by simp[Array.getD,hlt]
   rw[hg] at hv;rw[Array.getElem?_eq_getElem hlt,hv]
  ·rw[Array.getElem?_eq_none (Nat.le_of_not_lt hlt)]
theorem Sk{o:Oper}{K:St->Prop}(hd:∀d,o.dst=some d->d<N)(hR:kQ N s a w σ β)(hK:K (s.put o.dst (.fF []))):Then N s.st β σ w K (a.put o.dst undef) w:=by
 have hr:kQ N (St.put ⟨s.tm,s.st⟩ o.dst (.fF [])) (a.put o.dst undef) w σ β:=DR hd hR.size hR.defers hR.S hR.T y7;have he:(s.put o.dst (.fF [])).st=s.st:=mZ o.dst s.tm s.st _;exact⟨_,σ,β,hr,by rw[show(St.put ⟨s.tm,s.st⟩ o.dst (.fF [])).st=s.st from he];exact Step.nU (Grow.refl hR.S.live),by rw[show(St.put ⟨s.tm,s.st⟩ o.dst (.fF [])).st=s.st from he];exact Keep.refl _ _,hK⟩
theorem X9{R:Array Oper}{o:Oper}{K:St->Prop}{Q:Exit->Act->World->Prop}(hd:∀d,o.dst=some d->d<N)(hR:kQ N s a w σ β)(h:wP P R o s K):
 if Region.wanted o (yielded R a.tmps) then o.wp P a w (Then N s.st β σ w K) Q else Then N s.st β σ w K (a.put o.dst undef) w:=by
 unfold wP at h;split at h
 ·rename_i hg;rw[if_pos (by simp[Region.wanted,hg])];exact Mq (fun hd h=>Ie hd hR h) hd hR h
 ·rename_i j want hg;split at h
  ·rename_i x hx;have hy:=Eh hR hx;by_cases e:x=want
   ·rw[if_pos (by simp[Region.wanted,hg,hy,e])];exact Mq (fun hd h=>Ie hd hR h) hd hR (h.1 e)
   ·rw[if_neg (by simp[Region.wanted,hg,hy,e])];exact Sk hd hR (h.2 (by cases x<;>cases want<;>simp_all))
  ·rename_i hx;have hy:=Jk hR hx;rw[if_neg (by simp[Region.wanted,hg,hy])];exact Sk hd hR h
  ·exact h.elim
theorem OB{R:Array Oper}{K:St->Prop}{S0:Store}{β0:Hs}{σ0:Nat->Nat}{w0:World}{Q:Exit->Act->World->Prop}(hQ:∀a w,Then N S0 β0 σ0 w0 K a w->Q .normal a w):
 ∀(n k:Nat),k+n=R.size->(∀o∈R.toList,∀d,o.dst=some d->d<N)->∀(s:St)(a:Act)(w:World)(σ:Nat->Nat)(β:Hs),kQ N s a w σ β->Step S0 β0 σ0 w0 s.st β σ w->Keep S0 β0 s.st β->
  Ef P R (R.toList.drop k) s K->wpOps P R Q (List.range' k n) a w
 |0,k,hk,_,s,a,w,σ,β,hR,hst,hkp,h=>by
  have:R.toList.drop k=[]:=by apply List.drop_eq_nil_of_le;simp;omega
  rw[this] at h;exact hQ a w ⟨s,σ,β,hR,hst,hkp,h⟩
 |n+1,k,hk,hd,s,a,w,σ,β,hR,hst,hkp,h=>by
  have hlt:k<R.toList.length:=by simp;omega
  rw[List.drop_eq_getElem_cons hlt] at h;have hg:=X9 (Q:=Q) (fun d e=>hd _ (List.getElem_mem hlt) d e) hR h;rw[List.range'_succ]
  have hRk:R[k]? =some R.toList[k]:=by
   rw[Array.getElem?_eq_getElem (by omega)];simp
  simp only[wpOps,hRk]
  have next:∀a' w',Then N s.st β σ w (fun s'=>Ef P R (R.toList.drop (k+1)) s' K) a' w'->wpOps P R Q (List.range' (k+1) n) a' w':=by
   rintro a' w' ⟨s',σ',β',hR',hst',AB,hK'⟩;exact OB hQ n (k+1) (by omega) hd s' a' w' σ' β' hR' (hst.trans hst') (hkp.trans AB) hK'
  split
  ·rename_i hw;rw[if_pos hw] at hg;exact .inl (Oper.wp_mono next hg)
  ·rename_i hw;rw[if_neg hw] at hg
   exact next _ _ hg
def gW{α:Type}(l:List α):List α:=l.drop 1
def AW(P:Program)(N:Nat)(c:Code)(Q:Exit->St->Prop)(s:St):Prop:=
 ∀(a:Act)(w:World)(σ:Nat->Nat)(β:Hs),kQ N s a w σ β->
  c.wp P (fun e a' w'=>∃s' σ' β',kQ N s' a' w' σ' β'/\Step s.st β σ w s'.st β' σ' w'/\Keep (gW s.st) (gW β) (gW s'.st) (gW β')/\Q e s') a w
theorem AW.mono{c:Code}{Q Q':Exit->St->Prop}(h:AW P N c Q s)(hq:∀e s,Q e s->Q' e s):AW P N c Q' s:=fun a w σ β hR=>
 wp_mono (h a w σ β hR) fun e a' w' ⟨s',σ',β',h1,h2,h3,h4⟩=>⟨s',σ',β',h1,h2,h3,hq _ _ h4⟩
def lY(K:St->Prop)(Q:Exit->St->Prop):Exit->St->Prop
 | .normal,s=>K s
 |e,s=>Q e s
def zR(id:Nat)(Q:Exit->St->Prop):Exit->St->Prop
 | .exit id',s=>if id'=id then Q .normal s else Q (.exit id') s
 |e,s=>Q e s
theorem Vs{x y:Code}{Q:Exit->St->Prop}(h:AW P N x (lY (AW P N y Q) Q) s):AW P N (.seq x y) Q s:=by
 intro a w σ β hR;refine wp_seq (wp_mono (h a w σ β hR) ?_);rintro e a' w' ⟨s',σ',β',h1,h2,h3,h4⟩
 cases e with
 |normal=>
  show y.wp P _ a' w';refine wp_mono (h4 a' w' σ' β' h1) ?_;rintro e a'' w'' ⟨s'',D5,β'',k1,k2,k3,k4⟩;exact⟨s'',D5,β'',k1,h2.trans k2,h3.trans k3,k4⟩
 |_=>exact⟨s',σ',β',h1,h2,h3,h4⟩
theorem Vt{c:Code}{e:Exit}{Q:Exit->St->Prop}(hc:∀{Q':Exit->Act->World->Prop}{a:Act}{w:World},Q' e a w->c.wp P Q' a w)(h:Q e s):AW P N c Q s:=
 fun a w σ β hR=>hc ⟨s,σ,β,hR,Step.nU (Grow.refl hR.S.live),Keep.refl _ _,h⟩
theorem akF{Q:Exit->St->Prop}(h:Q .normal s):AW P N .skip Q s:=Vt wp_skip h
theorem akG{id:Nat}{Q:Exit->St->Prop}(h:Q (.exit id) s):AW P N (.exit id) Q s:=Vt wp_exit h
theorem am0{Q:Exit->St->Prop}(h:Q .ret s):AW P N .ret Q s:=Vt wp_ret h
theorem ZF{c:Operand}{x y:Code}{b:Bool}{Q:Exit->St->Prop}(hc:ev s.tm c=.c (.d (.b b)))(ht:b=true->AW P N x Q s)(hf:b=false->AW P N y Q s):AW P N (.cond c x y) Q s:=by
 intro a w σ β hR;have hv:=kL hR.T c;rw[hc] at hv;obtain⟨hv,_⟩:=hv;generalize he:a.eval c=v at hv;cases hv;refine Go.wp_cond he ?_
 cases b with
 |true=>exact ht rfl a w σ β hR
 |false=>exact hf rfl a w σ β hR
theorem Vu{id:Nat}{c:Code}{Q:Exit->St->Prop}(h:AW P N c (zR id Q) s):AW P N (.block id c) Q s:=by
 intro a w σ β hR;refine wp_block (wp_mono (h a w σ β hR) ?_);rintro e a' w' ⟨s',σ',β',h1,h2,h3,h4⟩
 cases e with
 |exit id'=>
  show if id'=id then _ else _
  simp only[zR] at h4;split
  ·rename_i e;rw[if_pos e] at h4;exact⟨s',σ',β',h1,h2,h3,h4⟩
  ·rename_i e;rw[if_neg e] at h4;exact⟨s',σ',β',h1,h2,h3,h4⟩
 |_=>exact⟨s',σ',β',h1,h2,h3,h4⟩
theorem Keep.tail{S S':Store}{β β':Hs}(h:Keep S β S' β'):Keep (gW S) (gW β) (gW S') (gW β'):=h.drop 1
theorem adE{id:Nat}{R:Array Oper}{Q:Exit->St->Prop}(hd:R.toList.all (fun o=>match o.dst with|some d=>decide (d<N)|none=>true)=true)(h:Ef P R R.toList s (Q .normal)):AW P N (.region id R false) Q s:=by
 intro a w σ β hR;refine wp_region ?_;rw[List.range_eq_range'];refine OB (S0:=s.st) (β0:=β) (σ0:=σ) (w0:=w) (K:=Q .normal) (fun a' w' ht=> ?_) R.size 0 (by omega) (fun o ho d e=> ?_) s a w σ β hR (Step.nU (Grow.refl hR.S.live)) (Keep.refl _ _) h
 ·obtain⟨s',σ',β',h1,h2,h3,h4⟩:=ht;exact⟨s',σ',β',h1,h2,h3.tail,h4⟩
 ·have:=List.all_eq_true.1 hd o ho;rw[e] at this;simpa using this
theorem ZG{ι:Type}{c:Code}{Q:Exit->St->Prop}(I:ι->St->Prop)(μ:ι->Nat)(i0:ι)(h0:I i0 s)
 (round:∀i s,I i s->AW P N c (lY (fun s'=>∃j,μ j<μ i/\I j s') Q) s):AW P N (.loop c) Q s:=by
 intro a w σ β hR
 have key:∀(n:Nat)(i:ι)(s':St)(a':Act)(w':World)(σ':Nat->Nat)(β':Hs),μ i<n->I i s'->kQ N s' a' w' σ' β'->Step s.st β σ w s'.st β' σ' w'->Keep (gW s.st) (gW β) (gW s'.st) (gW β')->
  Code.rounds P c (fun e a' w'=>∃s' σ' β',kQ N s' a' w' σ' β'/\Step s.st β σ w s'.st β' σ' w'/\Keep (gW s.st) (gW β) (gW s'.st) (gW β')/\Q e s') n a' w':=by
  intro n
  induction n with
  |zero=>intro i s' a' w' σ' β' h;omega
  |succ n ih=>
   intro i s' a' w' σ' β' hn hI hR' hst hkp;refine wp_mono (round i s' hI a' w' σ' β' hR') ?_;rintro e a'' w'' ⟨s'',D5,β'',k1,k2,k3,k4⟩
   cases e with
   |normal=>
    obtain⟨j,hj,hIj⟩:=k4;exact ih j s'' a'' w'' D5 β'' (by omega) hIj k1 (hst.trans k2) (hkp.trans k3)
   |_=>exact⟨s'',D5,β'',k1,hst.trans k2,hkp.trans k3,k4⟩
 exact wp_loop_rounds (μ i0+1) (key (μ i0+1) i0 s a w σ β (by omega) h0 hR (Step.nU (Grow.refl hR.S.live)) (Keep.refl _ _))
end
def mO:List V->Nat->List (Nat×V)
 |[],_=>[]
 |v::vs,i=>(i,v)::mO vs (i+1)
def C.ret:C->Option C
 | .bI (0,_) es=>some (.d (.sl es))
 |c=>c.down 1
def Lm(y:Bool×List C):Option (Bool×List C):=(y.2.mapM C.ret).map fun cs=>(y.1,cs)
def V.ret:V->Option V
 | .c x=>(x.ret).map .c
 | .agg cs=>(cs.mapM C.ret).map .agg
 | .fF xs=>(xs.mapM Lm).map .fF
 | .any=>some .any
def zS(P:Program)(s:St):ResultVar->R
 | .tmp t=>(True,look s.tm t)
 | .cell a t=>Dm P s.st t (look s.tm a)
def OC:V->Option (Bool×List C)
 | .c x=>some (false,[x])
 | .agg cs=>some (true,cs)
 |_=>none
def rQ(P:Program)(s:St):List ResultVar->Prop×Option (List (Bool×List C))
 |[]=>(True,some [])
 |x::xs=>((zS P s x).1/\(rQ P s xs).1,(OC (zS P s x).2).bind fun y=>(rQ P s xs).2.map fun ys=>y::ys)
def qO(P:Program)(rs:List ResultVar)(s:St):R:=
 match rs with
 |[x]=>zS P s x
 |xs=>match(rQ P s xs).2 with
  |some ys=>((rQ P s xs).1,.fF ys)
  |none=>no
def agF(P:Program)(rs:List ResultVar)(post:V->Store->Prop)(e:Exit)(s:St):Prop:=
 match e with
 | .normal| .ret=>(qO P rs s).1/\match(qO P rs s).2.ret with
   |some r=>post r (gW s.st)
   |none=>False
 |_=>False
section
variable {P:Program} {w w':World} {σ σ':Nat->Nat} {S:Store} {β β':Hs} {N:Nat} {s:St} {a:Act}
theorem Vv{cs:List C}{vs:List Value}(n:Nat)(h:gu w σ (S.drop n) (β.drop n) cs vs):gu w σ S β (cs.map (C.up n)) vs:=
 ⟨by simpa using h.1,fun j x hx=>by
   rw[List.getElem?_map] at hx
   cases hc:cs[j]? with
   |none=>rw[hc] at hx;cases hx
   |some y=>
    rw[hc] at hx;cases hx;obtain⟨v,hv,hr,ho⟩:=h.2 j y hc
    exact⟨v,hv,hr.up n,ho⟩⟩
theorem Lp{x:V}{v:Value}(n:Nat)(h:dM w σ (S.drop n) (β.drop n) x v):dM w σ S β (x.up n) v:=by
 cases x with
 |c x=>exact⟨h.1.up n,h.2⟩
 |agg cs=>obtain⟨ar,ha,hc⟩:=h;exact⟨ar,ha,Vv n hc⟩
 |fF xs=>
  obtain⟨ar,ha,hl,h2⟩:=h;refine⟨ar,ha,by simpa using hl,fun j y hy=> ?_⟩;rw[List.getElem?_map] at hy
  cases hc:xs[j]? with
  |none=>rw[hc] at hy;cases hy
  |some z=>
   rw[hc] at hy;cases hy;obtain⟨u,hu,h3⟩:=h2 j z hc;refine⟨u,hu,?_⟩;obtain⟨b,cs⟩:=z
   cases b with
   |true=>obtain⟨a',e,hcs⟩:=h3;exact⟨a',e,Vv n hcs⟩
   |false=>obtain⟨x,e,hx,ho⟩:=h3;subst e;exact⟨_,rfl,hx.up n,ho⟩
 |any=>exact trivial
theorem M0{c c':C}{v:Value}(h:c.ret=some c')(hc:iG w σ S β c v):iG w σ (S.drop 1) (β.drop 1) c' v:=by
 unfold C.ret at h;split at h
 ·cases h;exact hc.1
 ·exact Ve h hc
theorem Sl{xs ys:List C}{vs:List Value}(h:xs.mapM C.ret=some ys)(hc:gu w σ S β xs vs):gu w σ (S.drop 1) (β.drop 1) ys vs:=by
 induction xs generalizing ys vs with
 |nil=>simp at h;subst h;exact⟨hc.1,fun j d hd=>by simp at hd⟩
 |cons x xs ih=>
  rw[List.mapM_cons] at h
  cases hd:C.ret x with
  |none=>rw[hd] at h;simp at h
  |some y=>
   cases hm:xs.mapM C.ret with
   |none=>rw[hd,hm] at h;simp at h
   |some ys'=>
    rw[hd,hm] at h;simp at h;subst h
    cases vs with
    |nil=>have:=hc.1;simp at this
    |cons v vs=>
     obtain⟨l,r⟩:=ih hm (vs:=vs) ⟨by have:=hc.1;simpa using this,fun j y hy=>hc.2 (j+1) y hy⟩;refine⟨by simp[l],fun j e he=> ?_⟩
     cases j with
     |zero=>
      simp at he;subst he;obtain⟨u,hu,hr,ho⟩:=hc.2 0 x rfl;simp at hu;subst hu;exact⟨v,rfl,M0 hd hr,ho⟩
     |succ j=>exact r j e he
theorem Vw{α γ:Type}(f:α->Option γ):∀(xs:List α)(ys:List γ),xs.mapM f=some ys->ys.length=xs.length/\∀(j:Nat)(y:γ),ys[j]? =some y->∃x,xs[j]? =some x/\f x=some y
 |[],ys,h=>by simp at h;subst h;exact⟨rfl,fun j y hy=>by simp at hy⟩
 |x::xs,ys,h=>by
  rw[List.mapM_cons] at h
  cases hd:f x with
  |none=>rw[hd] at h;simp at h
  |some y=>
   cases hm:xs.mapM f with
   |none=>rw[hd,hm] at h;simp at h
   |some ys'=>
    rw[hd,hm] at h;simp at h;subst h;obtain⟨l,r⟩:=Vw f xs ys' hm;refine⟨by simp[l],fun j e he=> ?_⟩
    cases j with
    |zero=>simp at he;subst he;exact⟨x,rfl,hd⟩
    |succ j=>exact r j e he
theorem Vx{x y:V}{v:Value}(h:x.ret=some y)(hx:dM w σ S β x v):dM w σ (S.drop 1) (β.drop 1) y v:=by
 cases x with
 |c x=>
  simp only[V.ret] at h
  cases hc:x.ret with
  |none=>rw[hc] at h;cases h
  |some c=>rw[hc] at h;cases h;exact⟨M0 hc hx.1,hx.2⟩
 |agg cs=>
  simp only[V.ret] at h
  cases hc:cs.mapM C.ret with
  |none=>rw[hc] at h;cases h
  |some c=>rw[hc] at h;cases h;obtain⟨ar,ha,h2⟩:=hx;exact⟨ar,ha,Sl hc h2⟩
 |fF xs=>
  simp only[V.ret] at h
  cases hc:xs.mapM Lm with
  |none=>rw[hc] at h;cases h
  |some ys=>
   rw[hc] at h;cases h;obtain⟨ar,ha,hl,h2⟩:=hx;obtain⟨l,r⟩:=Vw _ _ _ hc;refine⟨ar,ha,by rw[l];exact hl,fun j y hy=> ?_⟩;obtain⟨z,hz,hzy⟩:=r j y hy;obtain⟨u,hu,h3⟩:=h2 j z hz;refine⟨u,hu,?_⟩;obtain⟨b,cs⟩:=z;simp only[Lm] at hzy
   cases hm:cs.mapM C.ret with
   |none=>rw[hm] at hzy;cases hzy
   |some cs'=>
    rw[hm] at hzy;cases hzy
    cases b with
    |true=>obtain⟨a',e,hcs⟩:=h3;exact⟨a',e,Sl hm hcs⟩
    |false=>
     obtain⟨x,e,hx,ho⟩:=h3;subst e;rw[List.mapM_cons] at hm
     cases hx':C.ret x with
     |none=>rw[hx'] at hm;simp at hm
     |some x'=>
      rw[hx'] at hm;simp at hm;exact⟨x',hm.symm,M0 hx' hx,ho⟩
 |any=>cases h;exact trivial
theorem ZH{x:ResultVar}(hR:kQ N s a w σ β)(h:(zS P s x).1):
 ∃v,(match x with| .tmp t=>pure (a.tmps.getD t undef)| .cell b t=>do loadVar t (<-asAddr (a.tmps.getD b undef)):Sem Value).run P w=.ok v w/\dM w σ s.st β (zS P s x).2 v:=by
 cases x with
 |tmp t=>exact⟨_,rfl,hR.T t⟩
 |cell b t=>
  obtain⟨v,hrun,hv⟩:=Sb (P:=P) (t:=t) hR.S (hR.T b) h;refine⟨v,?_,hv⟩;show(do loadVar t (<-asAddr (a.tmps.getD b undef)):Sem Value).run P w=.ok v w;generalize a.tmps.getD b undef=bv at hrun ⊢
  cases bv with
  |pointer o=>
   cases o with
   |none=>simp[Instr.loadAt,Instr.sureAddr] at hrun
   |some ad=>simpa [Instr.loadAt,Instr.sureAddr,asAddr] using hrun
  |_=>simp[Instr.loadAt,Instr.sureAddr] at hrun
theorem agG{x:V}{y:Bool×List C}{v:Value}(h:OC x=some y)(hx:dM w σ S β x v):QO w σ S β y v:=by
 cases x with
 |c x=>cases h;exact⟨x,rfl,hx.1,hx.2⟩
 |agg cs=>cases h;exact hx
 |fF=>cases h
 |any=>cases h
theorem ZI(hR:kQ N s a w σ β):∀(xs:List ResultVar)(ys:List (Bool×List C)),(rQ P s xs).1->(rQ P s xs).2=some ys->
 ∃vs:List Value,(xs.mapM fun x=>(match x with| .tmp t=>pure (a.tmps.getD t undef)| .cell b t=>do loadVar t (<-asAddr (a.tmps.getD b undef)):Sem Value)).run P w=.ok vs w/\ys.length=vs.length/\
  ∀(j:Nat)(y:Bool×List C),ys[j]? =some y->∃u,vs[j]? =some u/\QO w σ s.st β y u
 |[],ys,_,h=>by simp only[rQ] at h;cases h;exact⟨[],by simp,rfl,fun j y hy=>by simp at hy⟩
 |x::xs,ys,h1,h2=>by
  simp only[rQ] at h1 h2
  cases hc:OC (zS P s x).2 with
  |none=>rw[hc] at h2;cases h2
  |some y=>
   cases hr:(rQ P s xs).2 with
   |none=>rw[hc,hr] at h2;cases h2
   |some ys'=>
    rw[hc,hr] at h2;cases h2;obtain⟨v,hv,hrep⟩:=ZH (P:=P) (x:=x) hR h1.1;obtain⟨vs,hvs,hl,hj⟩:=ZI hR xs ys' h1.2 hr;refine⟨v::vs,?_,by simp[hl],fun j z hz=> ?_⟩
    ·rw[List.mapM_cons];simp only[Sem.run_bind,Result.andThen_ok,Sem.run_pure];rw[hv];simp only[Result.andThen_ok];rw[hvs];rfl
    ·cases j with
     |zero=>simp at hz;subst hz;exact⟨v,rfl,agG hc hrep⟩
     |succ j=>exact hj j z hz
theorem JR{fn:Func}(hR:kQ N s a w σ β)(h:(qO P fn.results.toList s).1):∃v,(results fn a.tmps).run P w=.ok v w/\dM w σ s.st β (qO P fn.results.toList s).2 v:=by
 have hres:fn.results=fn.results.toList.toArray:=by simp
 have hrun:∀vs:List Value,(fn.results.toList.mapM fun x=>(match x with| .tmp t=>pure (a.tmps.getD t undef)| .cell b t=>do loadVar t (<-asAddr (a.tmps.getD b undef)):Sem Value)).run P w=.ok vs w->
  (results fn a.tmps).run P w=.ok (if h:vs.toArray.size=1 then vs.toArray[0] else .tuple vs.toArray) w:=by
  intro vs hvs;unfold results;rw[hres,List.mapM_toArray];simp only[Sem.run_bind,Sem.run_map];have:(fun x=>(match x with| .tmp t=>pure (a.tmps.getD t undef)| .cell b t=>do loadVar t (<-asAddr (a.tmps.getD b undef)):Sem Value))=fun(x:ResultVar)=>(match x with| .tmp t=>pure (a.tmps.getD t undef)| .cell b t=>do loadVar t (<-asAddr (a.tmps.getD b undef)):Sem Value):=rfl
  erw [hvs]
  rfl
 unfold qO at h ⊢;split at h
 ·rename_i x hx;rw[hx] at hrun;obtain⟨v,hv,hrep⟩:=ZH (P:=P) (x:=x) hR h;refine⟨v,?_,hrep⟩
  have:=hrun [v] (by
   rw[List.mapM_cons];simp only[Sem.run_bind,List.mapM_nil,Result.andThen_ok,Sem.run_pure]
   rw[hv];rfl)
  simpa using this
 ·rename_i hne;split at h
  ·rename_i ys hys;obtain⟨vs,hvs,hl,hj⟩:=ZI (P:=P) hR _ ys h hys;have h1:=hrun vs hvs
   have hlen:¬(vs.toArray.size=1):=by
    intro e
    have hl2:ys.length=fn.results.toList.length:=by
     clear hj hvs h1 hrun hne e hl h;generalize fn.results.toList=l at hys
     induction l generalizing ys with
     |nil=>simp only[rQ] at hys;cases hys;rfl
     |cons x xs ih=>
      simp only[rQ] at hys
      cases hc:OC (zS P s x).2 with
      |none=>rw[hc] at hys;cases hys
      |some y=>
       cases hr:(rQ P s xs).2 with
       |none=>rw[hc,hr] at hys;cases hys
       |some ys'=>rw[hc,hr] at hys;cases hys;simp[ih ys' hr]
    simp at e
    have:fn.results.toList.length=1:=by omega
    obtain⟨x,hx⟩:=List.length_eq_one_iff.1 this;exact hne x hx
   rw[dif_neg hlen] at h1;exact⟨_,h1,vs.toArray,rfl,by simpa using hl,fun j y hy=>by simpa using hj j y hy⟩
  ·exact h.elim
theorem fA.Lr{own:List Obj}{Ω:Store}{bo:List Value}{bΩ:Hs}(h:fA w σ (own::Ω) (bo::bΩ)):fA w σ Ω bΩ:=by
 refine⟨fun k o ho=> ?_,fun k k' o o' h1 h2 b e1 e2 e3 e4 e5 e6=> ?_,⟨by have:=h.shape.1;simpa using this,fun l fr hl=>h.shape.2 (l+1) fr hl⟩,h.live,h.wh⟩
 ·obtain⟨l,j⟩:=k;obtain⟨hv,hh,hr⟩:=h.obj (l+1,j) o (by rw[cZ];exact ho);rw[cZ] at hh;exact⟨hv,hh,hr⟩
 ·obtain⟨l,j⟩:=k;obtain⟨l',j'⟩:=k';have:=h.apart (l+1,j) (l'+1,j') o o' h1 h2 b (by rw[cZ];exact e1) (by rw[cZ];exact e2) e3 (by rw[cZ];exact e4) (by rw[cZ];exact e5) e6;cases this;rfl
theorem fA.up1(h:fA w σ S β):fA w σ ([]::S) ([]::β):=by
 refine⟨fun k o ho=> ?_,fun k k' o o' h1 h2 b e1 e2 e3 e4 e5 e6=> ?_,⟨by simp[h.shape.1],fun l fr hl=> ?_⟩,h.live,h.wh⟩
 ·obtain⟨l,j⟩:=k
  cases l with
  |zero=>rw[bK] at ho;simp at ho
  |succ l=>
   rw[cZ] at ho;obtain⟨hv,hh,hr⟩:=h.obj (l,j) o ho;exact⟨hv,by rw[cZ];exact hh,hr⟩
 ·obtain⟨l,j⟩:=k;obtain⟨l',j'⟩:=k'
  cases l with
  |zero=>rw[bK] at e1;simp at e1
  |succ l=>
   cases l' with
   |zero=>rw[bK] at e4;simp at e4
   |succ l'=>
    rw[cZ] at e1 e2 e4 e5;have:=h.apart (l,j) (l',j') o o' h1 h2 b e1 e2 e3 e4 e5 e6;cases this;rfl
 ·cases l with
  |zero=>simp at hl;subst hl;exact⟨[],rfl,rfl⟩
  |succ l=>exact h.shape.2 l fr hl
theorem DU{b:Nat}(h:Own ([]::S) ([]::β) b):Own S β b:=by
 obtain⟨⟨l,j⟩,o,hv,h1,h2,h3⟩:=h
 cases l with
 |zero=>rw[bK] at h1;simp at h1
 |succ l=>rw[cZ] at h1 h2;exact⟨(l,j),o,hv,h1,h2,h3⟩
theorem y8{own:List Obj}{Ω:Store}{bo:List Value}{bΩ:Hs}{b:Nat}(h:Own Ω bΩ b):Own (own::Ω) (bo::bΩ) b:=by
 obtain⟨⟨l,j⟩,o,hv,h1,h2,h3⟩:=h;exact⟨(l+1,j),o,hv,by rw[cZ];exact h1,by rw[cZ];exact h2,h3⟩
theorem Dq:∀(args:List V)(i t:Nat),look (mO args i) t=if i<=t then(args[t-i]?).getD .any else .any
 |[],i,t=>by simp[mO,look]
 |v::args,i,t=>by
  rw[mO,look,Dq args (i+1) t];by_cases h1:i=t
  ·subst h1;simp
  ·rw[if_neg h1];by_cases h2:i+1<=t
   ·rw[if_pos h2,if_pos (by omega)];rw[show t-i=(t-(i+1))+1 from by omega];rfl
   ·rw[if_neg h2,if_neg (by omega)]
theorem tK{f:FuncId}{fn:Func}{c:Code}{args:List V}{post:V->Store->Prop}(hf:P.funcs[f]? =some fn)(hb:fn.body=some c)(hn:(fn.name== "runtime.NumGoroutine")=false)
 (hl:args.length<=fn.ntmps)(h:AW P fn.ntmps c (agF P fn.results.toList post) ⟨mO (args.map (V.up 1)) 0,[]::S⟩):bX P f args S post:=by
 refine⟨⟨fn,hf,hn,by simp[hb]⟩,fun w σ β vs hS hargs=> ?_⟩;refine calls_of_wp hf hb ?_;have hlen:vs.length=args.length:=hargs.1.symm
 have Vy:kQ fn.ntmps ⟨mO (args.map (V.up 1)) 0,[]::S⟩ {tmps:=vs.toArray++Array.replicate (fn.ntmps-vs.toArray.size) undef,defers:=[]} w σ ([]::β):=by
  refine⟨by simp;omega,rfl,hS.up1,fun t=> ?_⟩;show dM w σ ([]::S) ([]::β) (look (mO (args.map (V.up 1)) 0) t) _;rw[Dq,if_pos (Nat.zero_le _),Nat.sub_zero,List.getElem?_map]
  cases ha:args[t]? with
  |none=>exact trivial
  |some x=>
   obtain⟨v,hv,hr⟩:=hargs.2 t x ha;have ht:=(List.getElem?_eq_some_iff.1 hv).1
   have:(vs.toArray++Array.replicate (fn.ntmps-vs.toArray.size) undef).getD t undef=v:=by
    rw[Array.getD_eq_getD_getElem?,Array.getElem?_append_left (by simpa using ht)];simp[hv]
   rw[this];exact Lp (S:=[]::S) (β:=[]::β) 1 hr
 refine wp_mono (h _ w σ ([]::β) Vy) ?_;rintro e a' w' ⟨s',σ',β',hR,hst,hkp,hq⟩
 have main:(qO P fn.results.toList s').1/\(match(qO P fn.results.toList s').2.ret with|some r=>post r (gW s'.st)|none=>False)->
  a'.defers=[]/\∃v,(results fn a'.tmps).run P w'=.ok v w'/\∃v_1 r S' σ' β',Ending.returned v=Ending.returned v_1/\fA w' σ' S' β'/\Keep S β S' β'/\Step S β σ w S' β' σ' w'/\dM w' σ' S' β' r v_1/\post r S':=by
  rintro⟨q1,q2⟩;obtain⟨v,hv,hrep⟩:=JR (fn:=fn) hR q1;split at q2
  ·rename_i r hr;obtain⟨tm,st⟩:=s';have apb:=Vx hr hrep;refine⟨hR.defers,v,hv,v,r,gW st,σ',gW β',rfl,?_,hkp,?_,apb,q2⟩
   ·cases st with
    |nil=>
     cases β' with
     |nil=>exact hR.S
     |cons=>have:=hR.S.shape.1;simp at this
    |cons own Ω=>
     cases β' with
     |nil=>have:=hR.S.shape.1;simp at this
     |cons bo bΩ=>exact hR.S.Lr
   ·refine⟨hst.size,hst.os,hst.output,fun b hb ho=>hst.far b hb (fun x=>ho (DU x)),hst.near,fun b hb=> ?_⟩
    cases st with
    |nil=>obtain⟨k,o,hv,h1,_⟩:=hb;simp[gW,uR] at h1
    |cons own Ω=>
     cases β' with
     |nil=>obtain⟨k,o,hv,h1,h2,_⟩:=hb;simp[gW,uR] at h2
     |cons bo bΩ=>exact(hst.own b (y8 hb)).imp DU id
  ·exact q2.elim
 cases e with
 |normal=>exact main hq
 |ret=>exact main hq
 |_=>exact hq.elim
end
def uw:Op->Bool
 | .alloc _=>true
 | .box _ _=>true
 | .store _ _ _=>true
 | .makeSlice _ _ _=>true
 | .makeMap _ none=>true
 | .mapUpdate _ _ _ _=>true
 | .call {callee:=.builtin .append,args:=_,argTypes:=_}=>true
 |_=>false
def AJ:Op->Bool
 | .store _ _ _=>true
 | .mapUpdate _ _ _ _=>true
 |_=>false
def kg:Op->Bool
 | .call {callee:=.value _,args:=_,argTypes:=_}=>true
 |_=>false
abbrev Md:=Op->Nat
def gD(E:Md)(op:Op):Bool:=uw op||(decide (1<=E op)&&kg op)
def mX(E:Md)(op:Op):Bool:=AJ op||(decide (2<=E op)&&kg op)
theorem agH{E:Md}{op:Op}(h:uw op=true):gD E op=true:=by simp[gD,h]
theorem adF{E:Md}{op:Op}(h:mX E op=true):gD E op=true:=by
 unfold mX gD at *
 rw[Bool.or_eq_true] at h ⊢;refine h.imp (fun hs=> ?_) (fun h=> ?_)
 ·cases op<;>first|rfl|simp[AJ] at hs
 ·rw[Bool.and_eq_true,decide_eq_true_eq] at h ⊢;exact⟨by omega,h.2⟩
def DS(S S':Store):Prop:=∀k o,bE S k=some o->bE S' k=some o\/((∃z es,uS o z es)/\∃o' z es,bE S' k=some o'/\uS o' z es)
def Ig(P:Program)(tm:List (Nat×V))(c:Call)(r:V):Prop:=
 match c.callee with
 | .value x=>match ev tm x with
   | .c (.fn f caps)=>aF P f (c.args.toList.map (ev tm)++caps.map fun y=>.c (.ptr y.1 y.2)) r
   |_=>False
 |_=>False
def gF(P:Program)(E:Md)(o:Oper)(s:St)(K:St->Prop):Prop:=
 if uw o.op then dF P o s K else
 match o.op with
 | .call {callee:=.value x,args,argTypes}=>match E (.call {callee:=.value x,args,argTypes}) with
   |0=>∃r,Ig P s.tm {callee:=.value x,args,argTypes} r/\K (s.put o.dst r)
   |1=>∃S' v,DS s.st S'/\dF P o s (fun t=>t=St.put ⟨s.tm,S'⟩ o.dst v)/\K (St.put ⟨s.tm,S'⟩ o.dst v)
   |_=>∃S' v,dF P o s (fun t=>t=St.put ⟨s.tm,S'⟩ o.dst v)/\K (St.put ⟨s.tm,S'⟩ o.dst v)
 |op=>(nval P s.st s.tm op).1/\K (s.put o.dst (nval P s.st s.tm op).2)
def rJ(P:Program)(E:Md)(R:Array Oper)(o:Oper)(s:St)(K:St->Prop):Prop:=
 match o.guard with
 |none=>gF P E o s K
 |some (j,want)=>
  match(gQ R j).map (look s.tm) with
  |some (.c (.d (.b x)))=>(x=want->gF P E o s K)/\(x= !want->K (s.put o.dst (.fF [])))
  |some (.fF [])=>K (s.put o.dst (.fF []))
  |_=>False
def wz(P:Program)(E:Md)(R:Array Oper):List Oper->St->(St->Prop)->Prop
 |[],s,K=>K s
 |o::os,s,K=>rJ P E R o s fun s'=>wz P E R os s' K
def NV(P:Program)(S:Store)(tm:List (Nat×V))(op:Op)(v:V):Prop:=
 (∃c,op=.call c/\Ig P tm c v)\/((nval P S tm op).1/\v=(nval P S tm op).2)
def gd(R:Array Oper)(o:Oper)(tm:List (Nat×V)):Option Bool:=
 match o.guard with
 |none=>some true
 |some (j,want)=>
  match(gQ R j).map (look tm) with
  |some (.c (.d (.b x)))=>some (x==want)
  |some (.fF [])=>some false
  |_=>none
def oo(P:Program)(E:Md)(R:Array Oper)(o:Oper)(s:St)(v:V)(s':St):Prop:=
 (gd R o s.tm=some false/\v=.fF []/\s'=s.put o.dst v)\/
 (gd R o s.tm=some true/\gD E o.op=false/\NV P s.st s.tm o.op v/\s'=s.put o.dst v)\/
 (gd R o s.tm=some true/\gD E o.op=true/\dF P o s (fun t=>t=s')/\s'=St.put ⟨s.tm,s'.st⟩ o.dst v/\(uw o.op=false->mX E o.op=false->DS s.st s'.st))
section
variable {P:Program} {w w':World} {σ σ':Nat->Nat} {S S':Store} {β β':Hs} {N:Nat} {s:St} {a:Act}
theorem uJ{dst:Option Nat}{o:Obj}{mk:Key->V}{K:St->Prop}(h:newObj s dst o mk K):∃S' v,newObj s dst o mk (fun t=>t=St.put ⟨s.tm,S'⟩ dst v)/\K (St.put ⟨s.tm,S'⟩ dst v):=by
 unfold newObj at h ⊢;split at h
 ·rename_i own Ω hst;exact⟨_,_,rfl,h⟩
 ·exact h.elim
theorem akH{b:Bool}{es x:List (List D)}{z:Nat}{dst:Option Nat}{K:St->Prop}(h:Cv b es s dst z x K):∃S' v,Cv b es s dst z x (fun t=>t=St.put ⟨s.tm,S'⟩ dst v)/\K (St.put ⟨s.tm,S'⟩ dst v):=by
 cases b with
 |false=>exact uJ (o:=.tok z x) (mk:=fun k=>.c (.bI k x)) h
 |true=>
  obtain⟨S',v,h1,h2⟩:=uJ (o:=.fO z x) (mk:=fun k=>.c (.jQ k)) h.2;exact⟨S',v,⟨h.1,h1⟩,h2⟩
theorem akI{l:Option Nat}{es x:List (List D)}{z:Nat}{dst:Option Nat}{K:St->Prop}(h:Ed l es s dst z x K):∃S' v,Ed l es s dst z x (fun t=>t=St.put ⟨s.tm,S'⟩ dst v)/\K (St.put ⟨s.tm,S'⟩ dst v):=by
 cases l with
 |none=>exact akH h
 |some n=>
  cases es with
  |nil=>exact⟨s.st,_,rfl,h⟩
  |cons y es=>exact uJ (o:=.tok z x) (mk:=fun k=>.c (.bI k x)) h
theorem akJ{b:Bool}{n:Nat}{x:List (List D)}{z:Nat}{dst:Option Nat}{K:St->Prop}(h:FY b n s dst z x K):∃S' v,FY b n s dst z x (fun t=>t=St.put ⟨s.tm,S'⟩ dst v)/\K (St.put ⟨s.tm,S'⟩ dst v):=by
 cases b with
 |false=>exact uJ (o:=.eG n z x) (mk:=fun k=>.c (.bI k x)) h
 |true=>exact⟨s.st,_,rfl,h⟩
theorem agI{o:Oper}{K:St->Prop}(hD:uw o.op=true)(h:dF P o s K):∃S' v,dF P o s (fun t=>t=St.put ⟨s.tm,S'⟩ o.dst v)/\K (St.put ⟨s.tm,S'⟩ o.dst v):=by
 obtain⟨dst,op,ty,pos,after,guard⟩:=o
 cases op with
 |alloc t=>
  simp only[dF,wN] at h ⊢;split at h
  ·exact uJ h
  ·exact h.elim
 |box t x=>
  simp only[dF,Ec] at h ⊢;split at h
  ·exact uJ h
  ·exact h.elim
 |makeSlice t l c=>
  simp only[dF,zM] at h ⊢;split at h
  ·split at h
   ·obtain⟨h1,h2,h3,h4,h5,h6⟩:=h;obtain⟨S',v,k1,k2⟩:=uJ h6;exact⟨S',v,⟨h1,h2,h3,h4,h5,k1⟩,k2⟩
   ·exact h.elim
  ·exact h.elim
 |store t x y=>
  simp only[dF,wO] at h ⊢;split at h
  ·split at h
   ·obtain⟨h1,h2,h3,h4⟩:=h;exact⟨_,_,⟨h1,h2,h3,rfl⟩,h4⟩
   ·exact h.elim
  ·split at h
   ·obtain⟨h1,h2,h3,h4,h5⟩:=h;exact⟨_,_,⟨h1,h2,h3,h4,rfl⟩,h5⟩
   ·exact h.elim
  ·split at h
   ·split at h
    ·split at h
     ·obtain⟨h1,h2,h3,h4,h5,h6⟩:=h;exact⟨_,_,⟨h1,h2,h3,h4,h5,rfl⟩,h6⟩
     ·exact h.elim
    ·exact h.elim
   ·exact h.elim
  ·exact h.elim
 |makeMap t r=>
  cases r with
  |none=>
   simp only[dF,vR] at h ⊢;exact uJ h
  |some r=>simp[uw] at hD
 |mapUpdate t x y z=>
  simp only[dF,vS] at h ⊢;split at h
  ·split at h
   ·exact⟨_,_,rfl,h⟩
   ·exact h.elim
  ·exact h.elim
 |call c=>
  obtain⟨BM,args,zP⟩:=c
  cases BM with
  |builtin b=>
   cases b with
   |append=>
    simp only[dF,oN] at h ⊢;split at h
    ·simp only[uq] at h ⊢;split at h
     ·obtain⟨h1,h2,h3,h4⟩:=h;split at h4
      ·split at h4
       ·obtain⟨k1,k2,k3,k4⟩:=h4;exact⟨_,_,⟨h1,h2,h3,k1,k2,k3,rfl⟩,k4⟩
       ·obtain⟨k1,k2,k3,k4⟩:=h4;exact⟨_,_,⟨h1,h2,h3,k1,k2,k3,rfl⟩,k4⟩
       ·exact h4.elim
      ·obtain⟨k1,k2,k3⟩:=h4;obtain⟨S',v,l1,l2⟩:=akI k3;exact⟨S',v,⟨h1,h2,h3,k1,k2,l1⟩,l2⟩
      ·obtain⟨k1,k2,k3⟩:=h4;obtain⟨S',v,l1,l2⟩:=akJ k3;exact⟨S',v,⟨h1,h2,h3,k1,k2,l1⟩,l2⟩
      ·exact h4.elim
     ·exact h.elim
    ·exact h.elim
   |_=>simp[uw] at hD
  |_=>simp[uw] at hD
 |_=>simp[uw] at hD
theorem adG{tm tm':List (Nat×V)}{dst:Option Nat}{o:Obj}{mk:Key->V}{v:V}(h:newObj ⟨tm,S⟩ dst o mk (fun t=>t=St.put ⟨tm,S'⟩ dst v))(hd:dst≠none):
 newObj ⟨tm',S⟩ dst o mk (fun t=>t=St.put ⟨tm',S'⟩ dst v):=by
 unfold newObj at h ⊢
 cases S with
 |nil=>exact h
 |cons own Ω=>
  cases dst with
  |none=>exact absurd rfl hd
  |some d=>
   simp only[St.put,St.mk.injEq,List.cons.injEq,Prod.mk.injEq,and_true,true_and] at h ⊢;exact h
theorem aaL{tm tm':List (Nat×V)}{o:Obj}{mk:Key->V}{v:V}(h:newObj ⟨tm,S⟩ none o mk (fun t=>t=St.put ⟨tm,S'⟩ none v)):
 newObj ⟨tm',S⟩ none o mk (fun t=>t=St.put ⟨tm',S'⟩ none v):=by
 unfold newObj at h ⊢
 cases S with
 |nil=>exact h
 |cons own Ω=>
  simp only[St.put,St.mk.injEq,true_and] at h ⊢;exact h
theorem sI{tm tm':List (Nat×V)}{dst:Option Nat}{o:Obj}{mk:Key->V}{v:V}(h:newObj ⟨tm,S⟩ dst o mk (fun t=>t=St.put ⟨tm,S'⟩ dst v)):
 newObj ⟨tm',S⟩ dst o mk (fun t=>t=St.put ⟨tm',S'⟩ dst v):=by
 cases dst with
 |none=>exact aaL h
 |some d=>exact adG h (by simp)
theorem yw{tm tm':List (Nat×V)}{dst:Option Nat}{S1 S2:Store}{v v':V}(h:St.put ⟨tm,S1⟩ dst v=St.put ⟨tm,S2⟩ dst v'):St.put ⟨tm',S1⟩ dst v=St.put ⟨tm',S2⟩ dst v':=by
 cases dst with
 |none=>simp only[St.put,St.mk.injEq,true_and] at h ⊢;exact h
 |some d=>simp only[St.put,St.mk.injEq,List.cons.injEq,Prod.mk.injEq,and_true,true_and] at h ⊢;exact h
theorem agJ{b:Bool}{es x:List (List D)}{z:Nat}{tm tm':List (Nat×V)}{dst:Option Nat}{v:V}(h:Cv b es ⟨tm,S⟩ dst z x (fun t=>t=St.put ⟨tm,S'⟩ dst v)):
 Cv b es ⟨tm',S⟩ dst z x (fun t=>t=St.put ⟨tm',S'⟩ dst v):=by
 cases b with
 |false=>exact sI (o:=.tok z x) (mk:=fun k=>.c (.bI k x)) h
 |true=>exact⟨h.1,sI (o:=.fO z x) (mk:=fun k=>.c (.jQ k)) h.2⟩
theorem agK{l:Option Nat}{es x:List (List D)}{z:Nat}{tm tm':List (Nat×V)}{dst:Option Nat}{v:V}(h:Ed l es ⟨tm,S⟩ dst z x (fun t=>t=St.put ⟨tm,S'⟩ dst v)):
 Ed l es ⟨tm',S⟩ dst z x (fun t=>t=St.put ⟨tm',S'⟩ dst v):=by
 cases l with
 |none=>exact agJ h
 |some n=>
  cases es with
  |nil=>exact yw h
  |cons y es=>exact sI (o:=.tok z x) (mk:=fun k=>.c (.bI k x)) h
theorem agL{b:Bool}{n:Nat}{x:List (List D)}{z:Nat}{tm tm':List (Nat×V)}{dst:Option Nat}{v:V}(h:FY b n ⟨tm,S⟩ dst z x (fun t=>t=St.put ⟨tm,S'⟩ dst v)):
 FY b n ⟨tm',S⟩ dst z x (fun t=>t=St.put ⟨tm',S'⟩ dst v):=by
 cases b with
 |false=>exact sI (o:=.eG n z x) (mk:=fun k=>.c (.bI k x)) h
 |true=>exact yw h
theorem agM{o:Oper}{tm tm':List (Nat×V)}{v:V}(hD:uw o.op=true)(he:∀x∈o.op.operands,ev tm x=ev tm' x)(h:dF P o ⟨tm,S⟩ (fun t=>t=St.put ⟨tm,S'⟩ o.dst v)):
 dF P o ⟨tm',S⟩ (fun t=>t=St.put ⟨tm',S'⟩ o.dst v):=by
 obtain⟨dst,op,ty,pos,after,guard⟩:=o
 cases op with
 |alloc t=>
  simp only[dF,wN] at h ⊢;split at h
  ·exact sI h
  ·exact h.elim
 |box t x=>
  have e1:=he x (by simp[Op.operands]);simp only[dF,Ec,e1] at h ⊢;split at h
  ·exact sI h
  ·exact h.elim
 |makeSlice t l c=>
  have e1:=he l (by simp[Op.operands]);have e2:=he c (by simp[Op.operands]);simp only[dF,zM,e1,e2] at h ⊢;split at h
  ·split at h
   ·obtain⟨h1,h2,h3,h4,h5,h6⟩:=h;exact⟨h1,h2,h3,h4,h5,sI h6⟩
   ·exact h.elim
  ·exact h.elim
 |store t x y=>
  have e1:=he x (by simp[Op.operands]);have e2:=he y (by simp[Op.operands]);simp only[dF,wO,e1,e2] at h ⊢;split at h
  ·split at h
   ·obtain⟨h1,h2,h3,h4⟩:=h;exact⟨h1,h2,h3,yw h4⟩
   ·exact h.elim
  ·split at h
   ·obtain⟨h1,h2,h3,h4,h5⟩:=h;exact⟨h1,h2,h3,h4,yw h5⟩
   ·exact h.elim
  ·split at h
   ·split at h
    ·split at h
     ·obtain⟨h1,h2,h3,h4,h5,h6⟩:=h;exact⟨h1,h2,h3,h4,h5,yw h6⟩
     ·exact h.elim
    ·exact h.elim
   ·exact h.elim
  ·exact h.elim
 |makeMap t r=>
  cases r with
  |none=>
   simp only[dF,vR] at h ⊢;exact sI h
  |some r=>simp[uw] at hD
 |mapUpdate t x y z=>
  have e1:=he x (by simp[Op.operands]);have e2:=he y (by simp[Op.operands]);have e3:=he z (by simp[Op.operands]);simp only[dF,vS,e1,e2,e3] at h ⊢;split at h
  ·split at h
   ·exact yw h
   ·exact h.elim
  ·exact h.elim
 |call c=>
  obtain⟨BM,args,zP⟩:=c
  cases BM with
  |builtin b=>
   cases b with
   |append=>
    simp only[dF,oN] at h ⊢;split at h
    ·rename_i x y t u hxy htu
     have hargs:args= #[x,y]:=by rw[<-Array.toArray_toList (xs:=args),hxy]
     have e1:=he x (by simp[Op.operands,Call.operands,hargs]);have e2:=he y (by simp[Op.operands,Call.operands,hargs]);simp only[uq,e1,e2] at h ⊢;split at h
     ·obtain⟨h1,h2,h3,h4⟩:=h;refine⟨h1,h2,h3,?_⟩;split at h4
      ·split at h4
       ·obtain⟨k1,k2,k3,k4⟩:=h4;exact⟨k1,k2,k3,yw k4⟩
       ·obtain⟨k1,k2,k3,k4⟩:=h4;exact⟨k1,k2,k3,yw k4⟩
       ·exact h4.elim
      ·obtain⟨k1,k2,k3⟩:=h4;exact⟨k1,k2,agK k3⟩
      ·obtain⟨k1,k2,k3⟩:=h4;exact⟨k1,k2,agL k3⟩
      ·exact h4.elim
     ·exact h.elim
    ·exact h.elim
   |_=>simp[uw] at hD
  |_=>simp[uw] at hD
 |_=>simp[uw] at hD
theorem agN{f:FuncId}{args:List V}{tm tm':List (Nat×V)}{dst:Option Nat}{v:V}(h:Bl P f args ⟨tm,S⟩ dst (fun t=>t=St.put ⟨tm,S'⟩ dst v)):Bl P f args ⟨tm',S⟩ dst (fun t=>t=St.put ⟨tm',S'⟩ dst v):=by
 rcases h with⟨post,h1,h2⟩|⟨r,h1,h2⟩
 ·exact .inl ⟨post,h1,fun r U0 hp=>yw (h2 r U0 hp)⟩
 ·exact .inr ⟨r,h1,yw h2⟩
theorem agO{E:Md}{o:Oper}{tm tm':List (Nat×V)}{v:V}(hD:gD E o.op=true)(he:∀x∈o.op.operands,ev tm x=ev tm' x)(h:dF P o ⟨tm,S⟩ (fun t=>t=St.put ⟨tm,S'⟩ o.dst v)):
 dF P o ⟨tm',S⟩ (fun t=>t=St.put ⟨tm',S'⟩ o.dst v):=by
 by_cases hd:uw o.op=true
 ·exact agM hd he h
 ·have hc:kg o.op=true:=by
   unfold gD at hD;rw[Bool.or_eq_true,Bool.and_eq_true] at hD;rcases hD with h|h
   ·exact absurd h hd
   ·exact h.2
  obtain⟨dst,op,ty,pos,after,guard⟩:=o
  cases op with
  |call c=>
   obtain⟨BM,args,zP⟩:=c
   cases BM with
   |value x=>
    have h1:args.toList.map (ev tm)=args.toList.map (ev tm'):=List.map_congr_left fun y hy=>he y (by simp[Op.operands,Call.operands];exact .inr (by simpa using hy));have h2:ev tm x=ev tm' x:=he x (by simp[Op.operands,Call.operands]);simp only[dF,oN,h1,h2] at h ⊢;split at h
    ·exact agN h
    ·exact h.elim
   |_=>simp[kg] at hc
  |_=>simp[kg] at hc
theorem akK{tm tm':List (Nat×V)}{op:Op}(he:∀x∈op.operands,ev tm x=ev tm' x):nval P S tm op=nval P S tm' op:=by
 unfold nval oL
 split<;>try rfl
 ·rw[he _ (by simp[Op.operands])]
 ·rw[he _ (by simp[Op.operands])]
 ·rename_i c x y;rw[he c (by simp[Op.operands]),he x (by simp[Op.operands]),he y (by simp[Op.operands])]
 ·rw[he _ (by simp[Op.operands])]
 ·rw[he _ (by simp[Op.operands])]
 ·rw[he _ (by simp[Op.operands])]
 ·rename_i t x i;rw[he x (by simp[Op.operands]),he i (by simp[Op.operands])]
 ·rename_i t x i;rw[he x (by simp[Op.operands]),he i (by simp[Op.operands])]
 ·rename_i op t x y _;rw[he x (by simp[Op.operands]),he y (by simp[Op.operands])]
 ·rw[he _ (by simp[Op.operands])]
 ·rw[he _ (by simp[Op.operands])]
 ·rw[he _ (by simp[Op.operands])]
 ·rename_i fn first caps
  have h1:first.toList.map (ev tm)=first.toList.map (ev tm'):=List.map_congr_left fun x hx=>he x (by simp[Op.operands];exact .inl (by simpa using hx))
  have h2:caps.toList.map (ev tm)=caps.toList.map (ev tm'):=List.map_congr_left fun x hx=>he x (by simp[Op.operands];exact .inr (by simpa using hx));rw[h1,h2]
 ·rw[he _ (by simp[Op.operands])]
 ·rename_i t x lo hi mx;rw[he x (by simp[Op.operands])]
  have h1:lo.map (ev tm)=lo.map (ev tm'):=by
   cases lo with
   |none=>rfl
   |some y=>simp[he y (by simp[Op.operands])]
  have h2:hi.map (ev tm)=hi.map (ev tm'):=by
   cases hi with
   |none=>rfl
   |some y=>simp[he y (by simp[Op.operands])]
  have h3:mx.map (ev tm)=mx.map (ev tm'):=by
   cases mx with
   |none=>rfl
   |some y=>simp[he y (by simp[Op.operands])]
  rw[h1,h2,h3]
 ·rename_i t parts
  have h1:(parts.toList.map fun x=>(x.1,ev tm x.2))=parts.toList.map fun x=>(x.1,ev tm' x.2):=List.map_congr_left fun x hx=>by
   rw[he x.2 (by simp only[Op.operands,List.mem_toArray,List.mem_map];exact⟨x,hx,rfl⟩)]
  rw[h1]
 ·rename_i t n parts
  have h1:(parts.toList.map fun x=>(x.1,ev tm x.2))=parts.toList.map fun x=>(x.1,ev tm' x.2):=List.map_congr_left fun x hx=>by
   rw[he x.2 (by simp only[Op.operands,List.mem_toArray,List.mem_map];exact⟨x,hx,rfl⟩)]
  rw[h1]
 ·rename_i t x i;rw[he x (by simp[Op.operands]),he i (by simp[Op.operands])]
 ·rename_i args zP;split
  ·rename_i x t hx ht
   have hargs:args= #[x]:=by rw[<-Array.toArray_toList (xs:=args),hx]
   rw[he x (by simp[Op.operands,Call.operands,hargs])]
  ·rfl
 ·rename_i args zP;split
  ·rename_i x y hx
   have hargs:args= #[x,y]:=by rw[<-Array.toArray_toList (xs:=args),hx]
   rw[he x (by simp[Op.operands,Call.operands,hargs]),he y (by simp[Op.operands,Call.operands,hargs])]
  ·rfl
 ·rename_i args zP;split
  ·rename_i x y hx
   have hargs:args= #[x,y]:=by rw[<-Array.toArray_toList (xs:=args),hx]
   rw[he x (by simp[Op.operands,Call.operands,hargs]),he y (by simp[Op.operands,Call.operands,hargs])]
  ·rfl
theorem agP{tm tm':List (Nat×V)}{c:Call}{v:V}(he:∀x∈c.operands,ev tm x=ev tm' x)(h:Ig P tm c v):Ig P tm' c v:=by
 unfold Ig at h ⊢;obtain⟨BM,args,zP⟩:=c
 cases BM with
 |value x=>
  simp only at h ⊢;rw[<-he x (by simp[Call.operands])];have h1:args.toList.map (ev tm)=args.toList.map (ev tm'):=List.map_congr_left fun y hy=>he y (by simp[Call.operands];exact .inr (by simpa using hy));rw[<-h1];exact h
 |_=>exact h
def Vz:Obj->Prop
 | .box _=>True
 | .fO _ _=>True
 | .mp _=>True
 | .xf _=>True
 |_=>False
def Ls(v:V)(k:Key):Prop:=(∃off,v=.c (.ptr k off))\/(∃i off,v=.c (.mW k i off))\/v=.c (.jQ k)\/v=.c (.mp k)\/(∃r p,v=.c (.xp k r p))\/∃r p z i off,v=.c (.xq k r p z i off)
def Fix(S S':Store):Prop:=∀k o,bE S k=some o->Vz o->bE S' k=some o
theorem iJ{q:Prop}(h:no.1):q:=h.elim
theorem agQ{l:Option Nat}{tm:List (Nat×V)}{op:Op}(h:(oL P l S tm op).1)
 (hf:∀x∈op.operands,∀k,Ls (ev tm x) k->
   ∀o,bE S k=some o->Vz o->bE S' k=some o):oL P l S' tm op=oL P l S tm op:=by
 unfold oL at h ⊢
 split at h<;>try rfl
 ·rename_i t x;have hf:=hf x (by simp[Op.operands]);unfold Dm at h ⊢;split at h
  ·rfl
  ·split at h
   ·rename_i hx;simp only[hx]
   ·rename_i k off hx;split at h
    ·rename_i cs hk;rw[hf k (.inl ⟨off,hx⟩) _ hk trivial]
    ·exact iJ h
   ·rename_i k i off hx;split at h
    ·rename_i bg es hk;rw[hf k (.inr (.inl ⟨i,off,hx⟩)) _ hk trivial]
    ·exact iJ h
   ·rename_i k r p z i off hx;split at h
    ·rename_i rs hk;rw[hf k (.inr (.inr (.inr (.inr (.inr ⟨r,p,z,i,off,hx⟩))))) _ hk trivial]
    ·exact iJ h
   ·exact iJ h
 ·rename_i t x f;have hf:=hf x (by simp[Op.operands]);unfold uT at h ⊢;split at h
  ·split at h
   ·split at h
    ·exact iJ h
    ·rename_i fs hs _ fd hfd hne;split at h
     ·rename_i hx;simp[hs,hfd,hne,hx]
     ·rename_i k off hx;split at h
      ·rename_i cs hk;simp only[hs,hfd,hne,if_false,hx,hf k (.inl ⟨off,hx⟩) _ hk trivial,hk]
      ·exact iJ h
     ·rename_i k i off hx;split at h
      ·rename_i bg es hk;simp only[hs,hfd,hne,if_false,hx,hf k (.inr (.inl ⟨i,off,hx⟩)) _ hk trivial,hk]
      ·exact iJ h
     ·rename_i k r p z i off hx;split at h
      ·rename_i rs hk;simp only[hs,hfd,hne,if_false,hx,hf k (.inr (.inr (.inr (.inr (.inr ⟨r,p,z,i,off,hx⟩))))) _ hk trivial,hk]
      ·exact iJ h
     ·exact iJ h
   ·exact iJ h
  ·exact iJ h
 ·rename_i t x i;have hf:=hf x (by simp[Op.operands]);unfold uU at h ⊢;split at h
  ·rename_i e k n' n ht hx hi;split at h
   ·rename_i bg es hk;simp only[ht,hx,hi,hf k (.inr (.inr (.inl hx))) _ hk trivial,hk]
   ·exact iJ h
  ·rename_i len e k off n' n ht hx hi;split at h
   ·rename_i cs hk;simp only[ht,hx,hi,hf k (.inl ⟨off,hx⟩) _ hk trivial,hk]
   ·exact iJ h
  ·rename_i e k r p n' n ht hx hi;split at h
   ·rename_i rs hk;simp only[ht,hx,hi,hf k (.inr (.inr (.inr (.inr (.inl ⟨r,p,hx⟩))))) _ hk trivial,hk]
   ·exact iJ h
  ·rename_i e y n' n hy hy2 ht hx hi;simp only[ht,hx,hi]
  ·exact iJ h
 ·rename_i x;have hf:=hf x (by simp[Op.operands]);unfold yZ at h ⊢;split at h
  ·rename_i k off hx;split at h
   ·rename_i cs hk;simp only[hx,hf k (.inl ⟨off,hx⟩) _ hk trivial,hk]
   ·exact iJ h
  ·rename_i hx;simp only[hx]
  ·exact iJ h
 ·rename_i t x i;have hf:=hf x (by simp[Op.operands]);unfold Az at h ⊢;split at h
  ·rename_i kt et k l ht zI hi;split at h
   ·rename_i m hk hkt hz;simp only[ht,zI,hi,hf k (.inr (.inr (.inr (.inl zI)))) _ hk trivial,hk,hkt,hz]
   ·exact iJ h
  ·exact iJ h
 ·rename_i args zP;split at h
  ·rename_i x t hx ht
   have hargs:args= #[x]:=by rw[<-Array.toArray_toList (xs:=args),hx]
   have hf:=hf x (by simp[Op.operands,Call.operands,hargs]);unfold H7 at h ⊢;split at h
   ·rename_i l OD zI;simp only[OD,zI]
   ·rename_i n e OD;simp only[OD]
   ·rename_i e k OD zI;split at h
    ·rename_i bg es hk;simp only[OD,zI,hf k (.inr (.inr (.inl zI))) _ hk trivial,hk]
    ·exact iJ h
   ·rename_i e k r p OD zI;split at h
    ·rename_i rs hk;simp only[OD,zI,hf k (.inr (.inr (.inr (.inr (.inl ⟨r,p,zI⟩))))) _ hk trivial,hk]
    ·exact iJ h
   ·rename_i e y hy hy2 OD zI;simp only[OD,zI]
   ·exact iJ h
  ·exact iJ h
end
def yM(acc:List Nat):List Edge->Nat
 |[]=>0
 |e::es=>(if Region.binds .any e then 2^e.on ||| acc.getD e.on 0 else 0) ||| yM acc es
def masks:List Oper->List Nat->List Nat
 |[],acc=>acc
 |o::os,acc=>masks os (acc++[yM acc o.after.toList])
def clash(E:Md)(R:Array Oper)(x y:Oper):Bool:= !(x.apart R y)||(gD E x.op&&gD E y.op)||mX E x.op||mX E y.op
def BN(E:Md)(R:Array Oper)(N:Nat):Bool:=
 (List.range R.size).all fun j=>
   (match R[j]? with
    |some o=>o.after.toList.all (fun e=> !Region.binds .any e||decide (e.on<j))&&(match o.dst with|some d=>decide (d<N)|none=>true)
    |none=>true)&&
   (List.range j).all fun i=>
     match R[i]?,R[j]? with
     |some x,some y=>((masks R.toList []).getD j 0).testBit i|| !(clash E R x y)
     |_,_=>true
def uV(R:Array Oper)(i j:Nat):Bool:=if i<j then((masks R.toList []).getD j 0).testBit i else((masks R.toList []).getD i 0).testBit j
def oq(E:Md)(R:Array Oper)(x y:Oper):Bool:= !(x.apart R y)||(gD E x.op&&gD E y.op)
def settled(R:Array Oper)(i:Nat):Operand->Bool
 | .tmp t=>(List.range R.size).all fun n=>decide (n<i)|| !(gQ R n==some t)
 |_=>true
def yx(R:Array Oper)(i:Nat)(x:Oper)(j:Nat)(y:Oper):Bool:=kg y.op||match x.op with
 | .store _ a _=>settled R i a&&y.op.operands.toList.all (settled R j)
 |_=>false
def Lu(E:Md)(R:Array Oper)(N:Nat):Bool:=
 (List.range R.size).all fun j=>
   (match R[j]? with
    |some o=>o.after.toList.all (fun e=> !Region.binds .any e||decide (e.on<j))&&(match o.dst with|some d=>decide (d<N)|none=>true)
    |none=>true)&&
   (List.range j).all fun i=>
     match R[i]?,R[j]? with
     |some x,some y=>((masks R.toList []).getD j 0).testBit i|| !(oq E R x y||(mX E x.op&& !(yx R i x j y))||(mX E y.op&& !(yx R j y i x)))
     |_,_=>true
def aaM(v w:V):Bool:=
 match w with
 | .c (.ptr k _)=>(match v with| .c (.ptr k' _)=>k'.2 !=k.2| .c (.mW k' _ _)=>k'.2 !=k.2|_=>false)
 | .c (.mW k _ _)=>(match v with| .c (.ptr k' _)=>k'.2 !=k.2| .c (.mW k' _ _)=>k'.2 !=k.2|_=>false)
 | .c (.jQ k)=>(match v with| .c (.ptr k' _)=>k'.2 !=k.2| .c (.mW k' _ _)=>k'.2 !=k.2|_=>false)
 | .c (.mp k)=>(match v with| .c (.ptr k' _)=>k'.2 !=k.2| .c (.mW k' _ _)=>k'.2 !=k.2|_=>false)
 | .c (.xp _ _ _)=>false
 | .c (.xq _ _ _ _ _ _)=>false
 |_=>true
def UD(E:Md)(R:Array Oper)(tm:List (Nat×V)):Bool:=
 (List.range R.size).all fun i=>match R[i]? with
   |some x=> !(mX E x.op)||match x.op with
    | .store _ a _=>(List.range R.size).all fun j=>match R[j]? with
      |some y=>uV R i j||gD E y.op||kg y.op||y.op.operands.toList.all (fun z=>aaM (ev tm a) (ev tm z))
      |none=>true
    |_=>true
   |none=>true
def Q0(R:Array Oper)(i:Nat):Bool:=
 (List.range R.size).all fun j=>decide (j=i)||(if j<i then((masks R.toList []).getD i 0).testBit j else((masks R.toList []).getD j 0).testBit i)
def BO:Op->Option FuncId
 | .call {callee:=.value (.func f),args:=_,argTypes:=_}=>some f
 |_=>none
def Bn(R:Array Oper)(m:Nat):Md:=fun op=>if(List.range R.size).all (fun i=>match R[i]? with
 |some o=>(BO op !=BO o.op)||Q0 R i
 |none=>true) then 2 else m
def AL:Op->Bool
 | .alloc _=>true
 |_=>false
def JU(E:Md)(R:Array Oper)(p:Nat):Bool:=match R[p]? with
 |some o=>AL o.op&&o.guard.isNone&&o.dst.isSome&&(List.range R.size).all fun j=>match R[j]? with
  |some y=>decide (j=p)||y.apart R o||(List.range p).all fun i=>match R[i]? with
   |some x=> !(gD E x.op)||(decide (i<j)&&((masks R.toList []).getD j 0).testBit i)
   |none=>true
  |none=>true
 |none=>true
def adH(E:Md)(R:Array Oper)(p j:Nat)(x y:Oper):Bool:= !(x.apart R y)||(!(decide (j=p))&&((gD E x.op&&gD E y.op)||mX E x.op||mX E y.op))
def Gz(E:Md)(R:Array Oper)(N p:Nat):Bool:=
 JU E R p&&(List.range R.size).all fun j=>
  (match R[j]? with
   |some o=>o.after.toList.all (fun e=> !Region.binds .any e||decide (e.on<j))&&(match o.dst with|some d=>decide (d<N)|none=>true)
   |none=>true)&&
  (List.range j).all fun i=>
    match R[i]?,R[j]? with
    |some x,some y=>((masks R.toList []).getD j 0).testBit i|| !(adH E R p j x y)
    |_,_=>true
def agR(E:Md)(R:Array Oper)(N p:Nat):Bool:=
 JU E R p&&(List.range R.size).all fun j=>
  (match R[j]? with
   |some o=>o.after.toList.all (fun e=> !Region.binds .any e||decide (e.on<j))&&(match o.dst with|some d=>decide (d<N)|none=>true)
   |none=>true)&&
  (List.range j).all fun i=>
    match R[i]?,R[j]? with
    |some x,some y=>((masks R.toList []).getD j 0).testBit i|| !(!(x.apart R y)||(!(decide (j=p))&&((gD E x.op&&gD E y.op)||(mX E x.op&& !(yx R i x j y))||(mX E y.op&& !(yx R j y i x)))))
    |_,_=>true
def agS(R:Array Oper)(p i:Nat):Bool:=
 (List.range R.size).all fun j=>decide (j=i)||decide (j=p)||(if j<i then((masks R.toList []).getD i 0).testBit j else((masks R.toList []).getD j 0).testBit i)
def OE(R:Array Oper)(p:Nat):Md:=fun op=>if(List.range R.size).all (fun i=>match R[i]? with
 |some o=>(BO op !=BO o.op)||agS R p i
 |none=>true) then 2 else 0
def M4(R:Array Oper)(p:Nat):Bool:=match R[p]? with
 |some o=>AL o.op
 |none=>false
def pOf(R:Array Oper)(N:Nat):Option Nat:=(List.range R.size).find? fun p=>M4 R p&&Gz (OE R p) R N p
def aqS(R:Array Oper)(N:Nat):Option Nat:=(List.range R.size).find? fun p=>M4 R p&&agR (OE R p) R N p
def OG(R:Array Oper)(N:Nat):Md:=if BN (Bn R 1) R N then Bn R 1 else match pOf R N with
 |some p=>OE R p
 |none=>if BN (Bn R 0) R N then Bn R 0 else fun _=>0
def Q5(R:Array Oper)(N:Nat):Bool:=BN (OG R N) R N||match pOf R N with
 |some p=>Gz (OG R N) R N p
 |none=>false
def BP(R:Array Oper)(N:Nat):Md:=if Lu (Bn R 1) R N then Bn R 1 else match aqS R N with
 |some p=>OE R p
 |none=>if Lu (Bn R 0) R N then Bn R 0 else fun _=>0
section
variable {P:Program} {E:Md} {w w':World} {σ σ':Nat->Nat} {S S':Store} {β β':Hs} {N:Nat} {s:St} {a:Act} {R:Array Oper}
theorem JV:∀(l:List Oper)(acc:List Nat)(i:Nat),i<acc.length->(masks l acc)[i]? =acc[i]?
 |[],acc,i,h=>rfl
 |o::os,acc,i,h=>by rw[masks,JV os _ i (by simp;omega),List.getElem?_append_left h]
theorem VA:∀(l:List Oper)(acc:List Nat)(i:Nat)(o:Oper),l[i]? =some o->
 ∃acc',(∀j,j<acc.length+i->acc'[j]? =(masks l acc)[j]?)/\acc'.length=acc.length+i/\(masks l acc)[acc.length+i]? =some (yM acc' o.after.toList)
 |[],acc,i,o,h=>by simp at h
 |x::os,acc,0,o,h=>by
  simp at h;subst h;refine⟨acc,fun j hj=> ?_,by simp,?_⟩
  ·rw[masks,JV os _ j (by simp;omega),List.getElem?_append_left (by omega)]
  ·rw[masks,Nat.add_zero,JV os _ _ (by simp),List.getElem?_append_right (Nat.le_refl _)];simp
 |x::os,acc,i+1,o,h=>by
  obtain⟨acc',h1,h2,h3⟩:=VA os (acc++[yM acc x.after.toList]) i o (by simpa using h);refine⟨acc',fun j hj=> ?_,by rw[h2];simp;omega,?_⟩
  ·rw[masks];exact h1 j (by simp;omega)
  ·rw[masks,<-h3];congr 1;simp;omega
theorem JW{acc:List Nat}{k:Nat}:∀(es:List Edge),(yM acc es).testBit k=true->∃e∈es,Region.binds .any e=true/\(e.on=k\/(acc.getD e.on 0).testBit k=true)
 |[],h=>by simp[yM] at h
 |e::es,h=>by
  rw[yM,Nat.testBit_or,Bool.or_eq_true] at h;rcases h with h|h
  ·by_cases hb:Region.binds .any e=true
   ·rw[if_pos hb,Nat.testBit_or,Bool.or_eq_true] at h;refine⟨e,by simp,hb,?_⟩;rcases h with h|h
    ·left;rw[Nat.testBit_two_pow] at h;simpa using h
    ·exact .inr h
   ·rw[if_neg hb] at h;simp at h
  ·obtain⟨e',he',h'⟩:=JW es h;exact⟨e',by simp[he'],h'⟩
theorem Fq(E:Nat->Prop)(hE:∀i o e,R[i]? =some o->E i->e∈o.after->Region.binds .any e=true->E e.on)(hlt:∀i o e,R[i]? =some o->e∈o.after->Region.binds .any e=true->e.on<i):
 ∀(i:Nat)(o:Oper),R[i]? =some o->(∀e∈o.after,Region.binds .any e=true->E e.on)->∀k,((masks R.toList []).getD i 0).testBit k=true->E k:=by
 intro i
 induction i using Nat.strongRecOn with
 |_ i ih=>
  intro o ho hed k hk;obtain⟨acc',h1,h2,h3⟩:=VA R.toList [] i o (by simpa using ho);simp only[List.length_nil,Nat.zero_add] at h1 h2 h3;rw[List.getD_eq_getElem?_getD,h3] at hk;obtain⟨e,he,hb,hek⟩:=JW _ hk
  have he':e∈o.after:=by simpa using he
  rcases hek with rfl|hek
  ·exact hed e he' hb
  ·have hon:=hlt i o e ho he' hb;have aqT:=hed e he' hb;have hilt:i<R.size:=(Array.getElem?_eq_some_iff.1 ho).1;have hsome:R[e.on]? =some R[e.on]:=Array.getElem?_eq_getElem (by omega);refine ih e.on hon _ hsome (fun e2 he2 hb2=>hE e.on _ e2 hsome aqT he2 hb2) k ?_;rw[List.getD_eq_getElem?_getD,h1 e.on (by omega)] at hek;rw[List.getD_eq_getElem?_getD];exact hek
def mP(R:Array Oper)(vs:Nat->V)(E:Nat->Bool)(base:List (Nat×V)):Nat->Nat->V
 |0,t=>look base t
 |k+1,t=>if E k=true/\gQ R k=some t then vs k else mP R vs E base k t
theorem F3{vs:Nat->V}{E:Nat->Bool}{base:List (Nat×V)}{t i:Nat}:∀(n:Nat),(∀j,j<n->gQ R j=some t->(E j=true<->j<i))->
 mP R vs E base n t=mP R vs (fun _=>true) base (min n i) t
 |0,_=>by simp[mP]
 |n+1,h=>by
  have ih:=F3 (vs:=vs) (base:=base) n (fun j hj hd=>h j (by omega) hd);rw[mP];by_cases hd:gQ R n=some t
  ·by_cases hE:E n=true
   ·have hni:=(h n (by omega) hd).1 hE;rw[if_pos ⟨hE,hd⟩,show min (n+1) i=n+1 from by omega,mP,if_pos ⟨rfl,hd⟩]
   ·have hni:¬n<i:=fun hn=>hE ((h n (by omega) hd).2 hn);rw[if_neg (fun x=>hE x.1),ih,show min (n+1) i=min n i from by omega]
  ·rw[if_neg (fun x=>hd x.2),ih];by_cases hni:n<i
   ·rw[show min (n+1) i=n+1 from by omega,show min n i=n from by omega,mP,if_neg (fun x=>hd x.2)]
   ·rw[show min (n+1) i=min n i from by omega]
theorem Bo{vs:Nat->V}{E E':Nat->Bool}{base:List (Nat×V)}{t:Nat}:∀(n:Nat),(∀j,j<n->gQ R j=some t->E j=E' j)->mP R vs E base n t=mP R vs E' base n t
 |0,_=>rfl
 |n+1,h=>by
  rw[mP,mP,Bo n (fun j hj hd=>h j (by omega) hd)];by_cases hd:gQ R n=some t
  ·rw[h n (by omega) hd]
  ·rw[if_neg (fun x=>hd x.2),if_neg (fun x=>hd x.2)]
theorem Ih{vs:Nat->V}{E:Nat->Bool}{base:List (Nat×V)}{t i:Nat}(hi:E i=true)(hd:gQ R i=some t):∀(n:Nat),i<n->(∀j,j<n->i<j->gQ R j=some t->E j=false)->mP R vs E base n t=vs i
 |0,h,_=>by omega
 |n+1,h,hj=>by
  rw[mP];by_cases hin:i=n
  ·subst hin;rw[if_pos ⟨hi,hd⟩]
  ·have:¬(E n=true/\gQ R n=some t):=fun x=>by
    have:=hj n (by omega) (by omega) x.2;rw[this] at x;simp at x
   rw[if_neg this];exact Ih hi hd n (by omega) (fun j hjn hij hdj=>hj j (by omega) hij hdj)
theorem Mr{o:Oper}{s:St}{K:St->Prop}(h:rJ P E R o s K):∃v s',oo P E R o s v s'/\K s':=by
 have hN:∀(hg:gd R o s.tm=some true),gF P E o s K->∃v s',oo P E R o s v s'/\K s':=by
  intro hg hx;unfold gF at hx;by_cases hD:uw o.op=true
  ·rw[if_pos hD] at hx;obtain⟨S',v,h1,h2⟩:=agI hD hx;exact⟨v,_,.inr (.inr ⟨hg,agH hD,h1,by rw[mZ],fun h=>by rw[hD] at h;cases h⟩),h2⟩
  ·rw[if_neg hD] at hx
   have hD':uw o.op=false:=by simpa using hD
   split at hx
   ·rename_i x args zP hop
    have hcv:kg o.op=true:=by rw[hop];rfl
    rw[<-hop] at hx;split at hx
    ·rename_i hE;obtain⟨r,h1,h2⟩:=hx;exact⟨r,_,.inr (.inl ⟨hg,by unfold gD;rw[hD',hE];rfl,.inl ⟨_,hop,h1⟩,rfl⟩),h2⟩
    ·rename_i hE;obtain⟨S',v,h0,h1,h2⟩:=hx;exact⟨v,_,.inr (.inr ⟨hg,by unfold gD;rw[hE,hcv];simp,h1,by rw[mZ],fun _ _=>by rw[mZ];exact h0⟩),h2⟩
    ·rename_i hE0 hE1;obtain⟨S',v,h1,h2⟩:=hx
     have h3:2<=E o.op:=by
      rcases Nat.lt_or_ge (E o.op) 2 with h|h
      ·exfalso
       have:E o.op=0\/E o.op=1:=by omega
       exact this.elim hE0 hE1
      ·exact h
     exact⟨v,_,.inr (.inr ⟨hg,by unfold gD;rw[hcv,Bool.and_true,Bool.or_eq_true,decide_eq_true_eq];exact .inr (by omega),h1,by rw[mZ],fun _ h=>by
      unfold mX at h;rw[hcv,Bool.and_true,Bool.or_eq_false_iff,decide_eq_false_iff_not] at h
      exact absurd h3 h.2⟩),h2⟩
   ·rename_i hne;refine⟨_,_,.inr (.inl ⟨hg,?_,.inr ⟨hx.1,rfl⟩,rfl⟩),hx.2⟩
    have:kg o.op=false:=by
     cases hc:kg o.op with
     |false=>rfl
     |true=>
      exfalso;unfold kg at hc;split at hc
      ·rename_i x a b ho;exact hne _ _ _ ho
      ·cases hc
    unfold gD;rw[hD',this];simp
 unfold rJ at h;split at h
 ·rename_i hg;exact hN (by simp only[gd,hg]) h
 ·rename_i j want hg;split at h
  ·rename_i x hx;by_cases e:x=want
   ·exact hN (by simp only[gd,hg,hx,e,beq_self_eq_true]) (h.1 e)
   ·exact⟨.fF [],_,.inl ⟨by simp only[gd,hg,hx];simp[e],rfl,rfl⟩,h.2 (by cases x<;>cases want<;>simp_all)⟩
  ·rename_i hx;exact⟨.fF [],_,.inl ⟨by simp only[gd,hg,hx],rfl,rfl⟩,h⟩
  ·exact h.elim
theorem JX{F:Oper->St->St->Prop}{D:List Oper->St->Prop}{K:St->Prop}(hnil:∀s,D [] s->K s)(aj4:∀o os s,D (o::os) s->∃v s',oo P E R o s v s'/\F o s s'/\D os s'):∀(n k:Nat),k+n=R.size->∀s,D (R.toList.drop k) s->
 ∃(st:Nat->St) (vs:Nat->V),st k=s/\K (st R.size)/\∀i,k<=i->i<R.size->∃o,R[i]? =some o/\oo P E R o (st i) (vs i) (st (i+1))/\F o (st i) (st (i+1))
 |0,k,hk,s,h=>by
  have:R.toList.drop k=[]:=by apply List.drop_eq_nil_of_le;simp;omega
  rw[this] at h;exact⟨fun _=>s,fun _=>.any,rfl,hnil s h,fun i h1 h2=>by omega⟩
 |n+1,k,hk,s,h=>by
  have hlt:k<R.toList.length:=by simp;omega
  rw[List.drop_eq_getElem_cons hlt] at h
  have hRk:R[k]? =some R.toList[k]:=by
   rw[Array.getElem?_eq_getElem (by omega)];simp
  obtain⟨v,s',ht,hf,hd⟩:=aj4 _ _ s h;obtain⟨st,vs,h1,h2,h3⟩:=JX hnil aj4 n (k+1) (by omega) s' hd;refine⟨fun i=>if i=k then s else st i,fun i=>if i=k then v else vs i,by simp,?_,fun i hi1 hi2=> ?_⟩
  ·have:R.size≠k:=by omega
   simp only[if_neg this];exact h2
  ·by_cases e:i=k
   ·subst e;refine⟨_,hRk,?_⟩;simp only[if_true]
    have:i+1≠i:=by omega
    simp only[if_neg this,h1];exact⟨ht,hf⟩
   ·obtain⟨o,ho,ht'⟩:=h3 i (by omega) hi2;refine⟨o,ho,?_⟩
    have:i+1≠k:=by omega
    simp only[if_neg e,if_neg this];exact ht'
theorem M5{K:St->Prop}(n k:Nat)(hk:k+n=R.size)(s:St)(h:wz P E R (R.toList.drop k) s K):
 ∃(st:Nat->St) (vs:Nat->V),st k=s/\K (st R.size)/\∀i,k<=i->i<R.size->∃o,R[i]? =some o/\oo P E R o (st i) (vs i) (st (i+1)):=by
 obtain⟨st,vs,h1,h2,h3⟩:=JX (F:=fun _ _ _=>True) (D:=fun os s=>wz P E R os s K) (fun _ h=>h) (fun o os s h=>by
  obtain⟨v,s',a,b⟩:=Mr h
  exact⟨v,s',a,trivial,b⟩) n k hk s h
 exact⟨st,vs,h1,h2,fun i a b=>by
  obtain⟨o,c,d,_⟩:=h3 i a b
  exact⟨o,c,d⟩⟩
theorem agT{o:Oper}{s s':St}{v:V}(h:oo P E R o s v s'):s'=St.put ⟨s.tm,s'.st⟩ o.dst v:=by
 rcases h with⟨_,_,h⟩|⟨_,_,_,h⟩|⟨_,_,_,h,_⟩
 ·rw[h];cases o.dst<;>rfl
 ·rw[h];cases o.dst<;>rfl
 ·exact h
theorem agU{o:Oper}{s s':St}{v:V}(h:oo P E R o s v s')(hD:gD E o.op=false):s'.st=s.st:=by
 rcases h with⟨_,_,h⟩|⟨_,_,_,h⟩|⟨_,h,_,_⟩
 ·rw[h];cases o.dst<;>rfl
 ·rw[h];cases o.dst<;>rfl
 ·rw[hD] at h;cases h
theorem BQ{st:Nat->St}{vs:Nat->V}(h:∀i,i<R.size->∃o,R[i]? =some o/\oo P E R o (st i) (vs i) (st (i+1)))(t:Nat):∀i,i<=R.size->look (st i).tm t=mP R vs (fun _=>true) (st 0).tm i t
 |0,_=>rfl
 |i+1,hi=>by
  obtain⟨o,ho,ht⟩:=h i (by omega);have e:=agT ht;have ih:=BQ h t i (by omega);rw[mP,<-ih]
  have hdst:gQ R i=o.dst:=by simp[gQ,ho]
  rw[hdst,e]
  cases hd:o.dst with
  |none=>simp[St.put]
  |some d=>
   simp only[St.put,look,true_and,Option.some.injEq]
theorem DS.refl(S:Store):DS S S:=fun _ _ h=>.inl h
theorem DS.trans{S1 S2 S3:Store}(h:DS S1 S2)(k:DS S2 S3):DS S1 S3:=by
 intro x o hx;rcases h x o hx with h1|⟨h1,o',z,es,h2,h2'⟩
 ·exact k x o h1
 ·rcases k x _ h2 with h3|⟨_,h3⟩
  ·exact .inr ⟨h1,o',z,es,h3,h2'⟩
  ·exact .inr ⟨h1,h3⟩
theorem DS.push{own:List Obj}{Ω:Store}{o:Obj}:DS (own::Ω) ((own++[o])::Ω):=fun k o' h=>.inl (kD _ _ _ _ _ h)
theorem uK{dst:Option Nat}{o:Obj}{mk:Key->V}{s':St}(h:newObj s dst o mk (fun t=>t=s')):DS s.st s'.st:=by
 unfold newObj at h;split at h
 ·rename_i own Ω hst;rw[<-h,mZ,hst];exact DS.push
 ·exact h.elim
theorem akL{b:Bool}{es x:List (List D)}{z:Nat}{dst:Option Nat}{s':St}(h:Cv b es s dst z x (fun t=>t=s')):DS s.st s'.st:=by
 cases b with
 |false=>exact uK (o:=.tok z x) (mk:=fun k=>.c (.bI k x)) h
 |true=>exact uK (o:=.fO z x) (mk:=fun k=>.c (.jQ k)) h.2
theorem akM{l:Option Nat}{es x:List (List D)}{z:Nat}{dst:Option Nat}{s':St}(h:Ed l es s dst z x (fun t=>t=s')):DS s.st s'.st:=by
 cases l with
 |none=>exact akL h
 |some n=>
  cases es with
  |nil=>
   have h:St.put ⟨s.tm,s.st⟩ dst (.c (.d (.ol n x)))=s':=h;rw[<-h,mZ];exact DS.refl _
  |cons y es=>exact uK (o:=.tok z x) (mk:=fun k=>.c (.bI k x)) h
theorem akN{b:Bool}{n:Nat}{x:List (List D)}{z:Nat}{dst:Option Nat}{s':St}(h:FY b n s dst z x (fun t=>t=s')):DS s.st s'.st:=by
 cases b with
 |false=>exact uK (o:=.eG n z x) (mk:=fun k=>.c (.bI k x)) h
 |true=>
  have h:St.put ⟨s.tm,s.st⟩ dst (.c (.d (.ol n x)))=s':=h;rw[<-h,mZ];exact DS.refl _
theorem agV{o:Oper}{s s':St}(hD:uw o.op=true)(hs:AJ o.op=false)(h:dF P o s (fun t=>t=s')):DS s.st s'.st:=by
 obtain⟨dst,op,ty,pos,after,guard⟩:=o
 cases op with
 |alloc t=>
  simp only[dF,wN] at h;split at h
  ·exact uK h
  ·exact h.elim
 |box t x=>
  simp only[dF,Ec] at h;split at h
  ·exact uK h
  ·exact h.elim
 |makeSlice t l c=>
  simp only[dF,zM] at h;split at h
  ·split at h
   ·exact uK h.2.2.2.2.2
   ·exact h.elim
  ·exact h.elim
 |store t x y=>simp[AJ] at hs
 |mapUpdate t x y z=>simp[AJ] at hs
 |makeMap t r=>
  cases r with
  |none=>
   simp only[dF,vR] at h;exact uK h
  |some r=>simp[uw] at hD
 |call c=>
  obtain⟨BM,args,zP⟩:=c
  cases BM with
  |builtin b=>
   cases b with
   |append=>
    simp only[dF,oN] at h;split at h
    ·simp only[uq] at h;split at h
     ·obtain⟨h1,h2,h3,h4⟩:=h;split at h4
      ·rename_i k es hex;split at h4
       ·rename_i z es' hk;obtain⟨k1,k2,k3,k4⟩:=h4;rw[<-k4,mZ];intro k' o' ho';by_cases e:k'=k
        ·subst e;rw[hk] at ho';cases ho';exact .inr ⟨⟨_,_,.inl rfl⟩,_,_,_,dL _ _ _ _ hk,.inl rfl⟩
        ·exact .inl ((fH _ _ _ _ (Ne.symm e)).trans ho')
       ·rename_i n z es' hk;obtain⟨k1,k2,k3,k4⟩:=h4;rw[<-k4,mZ];intro k' o' ho';by_cases e:k'=k
        ·subst e;rw[hk] at ho';cases ho';exact .inr ⟨⟨_,_,.inr ⟨_,rfl⟩⟩,_,_,_,dL _ _ _ _ hk,.inr ⟨_,rfl⟩⟩
        ·exact .inl ((fH _ _ _ _ (Ne.symm e)).trans ho')
       ·exact h4.elim
      ·exact akM h4.2.2
      ·exact akN h4.2.2
      ·exact h4.elim
     ·exact h.elim
    ·exact h.elim
   |_=>simp[uw] at hD
  |_=>simp[uw] at hD
 |_=>simp[uw] at hD
theorem agW{o:Oper}{s s':St}{v:V}(h:oo P E R o s v s')(hs:mX E o.op=false):DS s.st s'.st:=by
 rcases h with⟨_,_,h⟩|⟨_,_,_,h⟩|⟨_,hD,h,_,hc⟩
 ·rw[h];cases o.dst<;>exact DS.refl _
 ·rw[h];cases o.dst<;>exact DS.refl _
 ·cases hd:uw o.op with
  |true=>exact agV hd (by unfold mX at hs;rw[Bool.or_eq_false_iff] at hs;exact hs.1) h
  |false=>exact hc hd hs
theorem GA{st:Nat->St}{vs:Nat->V}(h:∀i,i<R.size->∃o,R[i]? =some o/\oo P E R o (st i) (vs i) (st (i+1))){i:Nat}:∀(m:Nat),i+m<=R.size->(∀j o,i<=j->j<i+m->R[j]? =some o->gD E o.op=false)->(st (i+m)).st=(st i).st
 |0,_,_=>rfl
 |m+1,hm,hj=>by
  obtain⟨o,ho,ht⟩:=h (i+m) (by omega);rw[show i+(m+1)=i+m+1 from rfl,agU ht (hj _ o (by omega) (by omega) ho)];exact GA h m (by omega) (fun j o h1 h2 h3=>hj j o h1 (by omega) h3)
def KS(k:Key)(S S':Store):Prop:=∀o,bE S k=some o->bE S' k=some o\/((∃z es,uS o z es)/\∃o' z es,bE S' k=some o'/\uS o' z es)
theorem KS.trans{k:Key}{S1 S2 S3:Store}(h:KS k S1 S2)(h':KS k S2 S3):KS k S1 S3:=by
 intro o hx;rcases h o hx with h1|⟨h1,o',z,es,h2,h2'⟩
 ·exact h' o h1
 ·rcases h' _ h2 with h3|⟨_,h3⟩
  ·exact .inr ⟨h1,o',z,es,h3,h2'⟩
  ·exact .inr ⟨h1,h3⟩
theorem aaN{st:Nat->St}{vs:Nat->V}(h:∀i,i<R.size->∃o,R[i]? =some o/\oo P E R o (st i) (vs i) (st (i+1))){i:Nat}{k:Key}:∀(m:Nat),i+m<=R.size->
 (∀j o,i<=j->j<i+m->R[j]? =some o->mX E o.op=false\/bE (st (j+1)).st k=bE (st j).st k)->KS k (st i).st (st (i+m)).st
 |0,_,_=>fun _ hx=>.inl hx
 |m+1,hm,hj=>by
  obtain⟨o,ho,ht⟩:=h (i+m) (by omega);refine(aaN h m (by omega) (fun j o h1 h2 h3=>hj j o h1 (by omega) h3)).trans ?_;rcases hj _ o (by omega) (by omega) ho with hs|hs
  ·exact agW ht hs k
  ·intro x hx;exact .inl (hs.trans hx)
theorem cnt_lt(p q:Nat->Bool):∀(l:List Nat)(i:Nat),(∀x,q x=true->p x=true)->i∈l->p i=true->q i=false->l.countP q<l.countP p
 |[],_,_,h,_,_=>by simp at h
 |x::l,i,h,hi,hp,hq=>by
  rw[List.countP_cons,List.countP_cons];have hle:l.countP q<=l.countP p:=List.countP_mono_left (fun y _ hy=>h y hy);rcases List.mem_cons.1 hi with rfl|hi
  ·rw[hp,hq];simp;omega
  ·have ih:=cnt_lt p q l i h hi hp hq;by_cases hx:q x=true
   ·rw[hx,h x hx];simp;exact ih
   ·have:q x=false:=by simpa using hx
    rw[this];simp
    split<;>omega
end
section
variable {P:Program} {E:Md} {N:Nat} {R:Array Oper}
def pq(E:Md)(R:Array Oper)(p:Nat)(listed:Array Bool):Prop:=listed.getD p false=true/\p<R.size/\∃j x,j<p/\R[j]? =some x/\gD E x.op=true/\listed.getD j false=false
def Raw(P:Program)(R:Array Oper)(p:Nat)(w0 w:World)(σ:Nat->Nat)(S:Store)(β:Hs)(v:Value):Prop:=
 ∃b c ty,v=.pointer (some ⟨b,0,none⟩)/\w.heap[b]? =some (.cells c ty (0,0))/\σ b=0/\w0.heap.size<=b/\¬Own S β b/\
  ∀o t zs,R[p]? =some o->o.op=.alloc t->jI P t=some zs->∀w σ S β,gu w σ S β zs c.toList
open Classical in
noncomputable def wE(E:Md)(R:Array Oper)(p:Nat)(vs:Nat->V)(listed:Array Bool)(base:List (Nat×V))(t:Nat):V:=
 if pq E R p listed/\gQ R p=some t then .any else mP R vs (fun i=>listed.getD i false) base R.size t
structure Mid(P:Program)(N:Nat)(E:Md)(R:Array Oper)(p:Nat)(st:Nat->St)(vs:Nat->V)(β0:Hs)(σ0:Nat->Nat)(w0:World)(listed:Array Bool)(a:Act)(w:World):Prop where
 size:listed.size=R.size
 closed:∀i o e,R[i]? =some o->listed.getD i false=true->e∈o.after->Region.binds .any e=true->listed.getD e.on false=true
 rep:∃m,m<=R.size/\(∀i o,R[i]? =some o->gD E o.op=true->(i=p->¬pq E R p listed)->(listed.getD i false=true<->i<m))/\∃σ β,a.tmps.size=N/\a.defers=[]/\fA w σ (st m).st β/\
  (∀t,dM w σ (st m).st β (wE E R p vs listed (st 0).tm t) (a.tmps.getD t undef))/\Step (st 0).st β0 σ0 w0 (st m).st β σ w/\Keep (st 0).st β0 (st m).st β/\
  (pq E R p listed->m<=p/\∀d,gQ R p=some d->Raw P R p w0 w σ (st m).st β (a.tmps.getD d undef))
theorem Jl{o:Oper}{x:Operand}{t:Nat}(hx:x∈o.op.operands)(e:x=.tmp t):t∈o.looksAt R:=by
 subst e;exact List.mem_append_left _ (List.mem_filterMap.2 ⟨.tmp t,by simpa using hx,rfl⟩)
theorem Ya{o:Oper}{g d:Nat}{want:Bool}(hg:o.guard=some (g,want))(hd:gQ R g=some d):d∈o.looksAt R:=by
 refine List.mem_append_right _ ?_;rw[hg];show d∈((R[g]?).bind (·.dst)).toList;unfold gQ at hd
 rw[hd];simp
theorem Ej(h:BN E R N=true){i j:Nat}{x y:Oper}(hij:i<j)(hx:R[i]? =some x)(hy:R[j]? =some y)(hc:clash E R x y=true):((masks R.toList []).getD j 0).testBit i=true:=by
 have hj:j<R.size:=(Array.getElem?_eq_some_iff.1 hy).1;have h1:=List.all_eq_true.1 h j (List.mem_range.2 hj);rw[Bool.and_eq_true] at h1;have h2:=List.all_eq_true.1 h1.2 i (List.mem_range.2 hij);rw[hx,hy] at h2;simp only[hc,Bool.not_true,Bool.or_false] at h2;exact h2
theorem VB(h:BN E R N=true){i:Nat}{o:Oper}{e:Edge}(ho:R[i]? =some o)(he:e∈o.after)(hb:Region.binds .any e=true):e.on<i:=by
 have hj:i<R.size:=(Array.getElem?_eq_some_iff.1 ho).1;have h1:=List.all_eq_true.1 h i (List.mem_range.2 hj);rw[Bool.and_eq_true,ho] at h1;have h2:=h1.1;simp only[Bool.and_eq_true] at h2;have h3:=List.all_eq_true.1 h2.1 e (by simpa using he);simpa [hb] using h3
theorem Yb(h:BN E R N=true){i:Nat}{o:Oper}(ho:R[i]? =some o):∀d,o.dst=some d->d<N:=by
 intro d hd;have hj:i<R.size:=(Array.getElem?_eq_some_iff.1 ho).1;have h1:=List.all_eq_true.1 h i (List.mem_range.2 hj);rw[Bool.and_eq_true,ho] at h1;have h2:=h1.1;simp only[Bool.and_eq_true,hd] at h2;simpa using h2.2
theorem aaO{x y:Oper}:x.apart R y=y.apart R x:=by
 rw[Bool.eq_iff_iff]
 have key:∀x y:Oper,x.apart R y=true->y.apart R x=true:=fun x y h=>by
  obtain⟨h1,h2,h3⟩:=Oper.apart_spec h;unfold Oper.apart
  cases hx:x.dst<;>cases hy:y.dst<;>simp
  ·rename_i d;exact h3 d hy
  ·rename_i d;exact h1 d hx
  ·rename_i d d';exact⟨⟨h3 d' hy,fun e=>h2 d hx (by rw[hy,e])⟩,h1 d hx⟩
 exact⟨key x y,key y x⟩
theorem Yc{x y:Oper}:oq E R x y=oq E R y x:=by
 unfold oq;rw[aaO,Bool.and_comm (gD E x.op)]
def aaP:Op->Bool
 | .move _=>true
 |_=>false
theorem agX{P:Program}{l:Option Nat}{S S':Store}{tm:List (Nat×V)}{op:Op}(h:aaP op=true):oL P l S' tm op=oL P l S tm op:=by
 cases op<;>first|rfl|cases h
def refs(tm:List (Nat×V))(o:Oper)(k:Key):Prop:=aaP o.op=false/\∃x∈o.op.operands,Ls (ev tm x) k
structure Sm(E:Md)(R:Array Oper)(N:Nat)(st:Nat->St)(p:Nat):Prop where
 edge:∀(i:Nat)(o:Oper)(e:Edge),R[i]? =some o->e∈o.after->Region.binds .any e=true->e.on<i
 dst:∀(i:Nat)(o:Oper),R[i]? =some o->∀d,o.dst=some d->d<N
 pair:∀(i j:Nat)(x y:Oper),i<j->R[i]? =some x->R[j]? =some y->oq E R x y=true->((masks R.toList []).getD j 0).testBit i=true\/(j=p/\gD E x.op=true/\x.apart R y=true)
 store:∀(i j:Nat)(x o:Oper),i≠j->R[i]? =some x->R[j]? =some o->mX E x.op=true->gD E o.op=false->kg o.op=false->
  uV R i j=true\/∀k,refs (st j).tm o k->bE (st (i+1)).st k=bE (st i).st k
 pend:∀o,R[p]? =some o->AL o.op=true/\o.guard=none/\(∃d,o.dst=some d)/\∀j y,j≠p->R[j]? =some y->y.apart R o=false->∀i x,i<p->R[i]? =some x->gD E x.op=true->i<j/\((masks R.toList []).getD j 0).testBit i=true
theorem am2{st:Nat->St}(h:BN E R N=true):Sm E R N st R.size where
 edge:=fun i o e h1 h2 h3=>VB h h1 h2 h3
 dst:=fun i o h1=>Yb h h1
 pair:=fun i j x y hij hx hy hc=>.inl (Ej h hij hx hy (by
  unfold oq at hc;unfold clash
  rw[hc];rfl))
 store:=fun i j x o hij hx ho hs hD hc=>.inl (by
  unfold uV;by_cases e:i<j
  ·rw[if_pos e];exact Ej h e hx ho (by unfold clash;rw[hs];simp)
  ·rw[if_neg e]
   exact Ej h (show j<i by omega) ho hx (by unfold clash;rw[hs];simp))
 pend:=fun o ho=>by rw[Array.getElem?_eq_none (Nat.le_refl _)] at ho;cases ho
theorem ZJ{p:Nat}(h:JU E R p=true):∀o,R[p]? =some o->AL o.op=true/\o.guard=none/\(∃d,o.dst=some d)/\∀j y,j≠p->R[j]? =some y->y.apart R o=false->∀i x,i<p->R[i]? =some x->gD E x.op=true->i<j/\((masks R.toList []).getD j 0).testBit i=true:=by
 intro o ho;unfold JU at h;rw[ho] at h;simp only[Bool.and_eq_true] at h;obtain⟨⟨⟨h1,h2⟩,h3⟩,h4⟩:=h;refine⟨h1,by simpa using h2,Option.isSome_iff_exists.1 h3,fun j y hj hy hap i x hi hx hD=> ?_⟩;have hjl:j<R.size:=(Array.getElem?_eq_some_iff.1 hy).1;have h5:=List.all_eq_true.1 h4 j (List.mem_range.2 hjl);rw[hy] at h5;simp only[hap,hj,decide_false,Bool.false_or] at h5;have h6:=List.all_eq_true.1 h5 i (List.mem_range.2 hi);rw[hx] at h6;simpa [hD] using h6
theorem wQ{o:Oper}(h:AL o.op=true):gD E o.op=true/\mX E o.op=false/\kg o.op=false:=by
 obtain⟨dst,op,ty,pos,after,guard⟩:=o;cases op<;>simp_all[AL,gD,uw,mX,AJ,kg]
theorem akO{st:Nat->St}{p:Nat}(h0:Gz E R N p=true):Sm E R N st p:=by
 unfold Gz at h0;rw[Bool.and_eq_true] at h0;obtain⟨hp,h⟩:=h0;have Aq:=ZJ hp
 have hpr:∀(i j:Nat)(x y:Oper),i<j->R[i]? =some x->R[j]? =some y->((masks R.toList []).getD j 0).testBit i=true\/(x.apart R y=true/\(j=p\/((gD E x.op&&gD E y.op)=false/\mX E x.op=false/\mX E y.op=false))):=by
  intro i j x y hij hx hy;have hj:j<R.size:=(Array.getElem?_eq_some_iff.1 hy).1;have h1:=List.all_eq_true.1 h j (List.mem_range.2 hj);rw[Bool.and_eq_true] at h1;have h2:=List.all_eq_true.1 h1.2 i (List.mem_range.2 hij);rw[hx,hy] at h2;simp only[adH] at h2;rw[Bool.or_eq_true] at h2;rcases h2 with h2|h2
  ·exact .inl h2
  ·right;rw[Bool.not_eq_true',Bool.or_eq_false_iff,Bool.not_eq_false'] at h2;refine⟨h2.1,?_⟩;by_cases e:j=p
   ·exact .inl e
   ·right;have h3:=h2.2;simp only[e,decide_false,Bool.not_false,Bool.true_and,Bool.or_eq_false_iff] at h3;exact⟨h3.1.1,h3.1.2,h3.2⟩
 refine⟨?_,?_,?_,?_,Aq⟩
 ·intro i o e ho he hb;have hj:i<R.size:=(Array.getElem?_eq_some_iff.1 ho).1;have h1:=List.all_eq_true.1 h i (List.mem_range.2 hj);rw[Bool.and_eq_true,ho] at h1;have h2:=h1.1;simp only[Bool.and_eq_true] at h2;have h3:=List.all_eq_true.1 h2.1 e (by simpa using he);simpa [hb] using h3
 ·intro i o ho d hd;have hj:i<R.size:=(Array.getElem?_eq_some_iff.1 ho).1;have h1:=List.all_eq_true.1 h i (List.mem_range.2 hj);rw[Bool.and_eq_true,ho] at h1;have h2:=h1.1;simp only[Bool.and_eq_true,hd] at h2;simpa using h2.2
 ·intro i j x y hij hx hy hc;rcases hpr i j x y hij hx hy with h1|⟨h1,h2⟩
  ·exact .inl h1
  ·rcases h2 with h2|⟨h2,_,_⟩
   ·right;unfold oq at hc;rw[h1] at hc;simp only[Bool.not_true,Bool.false_or,Bool.and_eq_true] at hc;exact⟨h2,hc.1,h1⟩
   ·unfold oq at hc;rw[h1,h2] at hc;cases hc
 ·intro i j x o hij hx ho hs hD hc
  have hjp:j≠p:=fun e=>by
   subst e;have:=(wQ (E:=E) (Aq o ho).1).1;rw[hD] at this;cases this
  have Sn:i≠p:=fun e=>by
   subst e;have:=(wQ (E:=E) (Aq x hx).1).2.1;rw[hs] at this;cases this
  left;unfold uV;by_cases e:i<j
  ·rw[if_pos e];rcases hpr i j x o e hx ho with h1|⟨_,h2⟩
   ·exact h1
   ·rcases h2 with h2|⟨_,h2,_⟩
    ·exact absurd h2 hjp
    ·rw[hs] at h2;cases h2
  ·rw[if_neg e];rcases hpr j i o x (by omega) ho hx with h1|⟨_,h2⟩
   ·exact h1
   ·rcases h2 with h2|⟨_,_,h2⟩
    ·exact absurd h2 Sn
    ·rw[hs] at h2;cases h2
theorem Oper.adI{o:Oper}{a:Act}{w:World}{K:Act->World->Prop}{Q:Exit->Act->World->Prop}(hh:o.wp P a w K Q):o.wp P a w (fun a' w'=>K a' w'/\∀d,o.dst≠some d->a'.tmps.getD d undef=a.tmps.getD d undef) Q:=by
 have key:∀(ds:List Deferred)(v:Value)(d:Nat),o.dst≠some d->(({a with defers:=ds}:Act).put o.dst v).tmps.getD d undef=a.tmps.getD d undef:=by
  intro ds v d hd
  cases ho:o.dst with
  |none=>rfl
  |some e=>
   have hne:e≠d:=fun x=>hd (by rw[ho,x]);simp only[Act.put,Array.getD_eq_getD_getElem?];rw[Array.getElem?_setIfInBounds_ne hne]
 unfold Oper.wp at *
 generalize (execOp a.eval o).run P w=r at *
 cases r with
 |ok n w'=>
  cases n<;>simp only[Oper.upon] at hh ⊢ <;>
   first
    |exact⟨hh,fun d hd=>key _ _ d hd⟩
    |exact Calls.mono hh (fun e w'' he=>by cases e<;>first|exact⟨he,fun d hd=>key _ _ d hd⟩|exact he)
    |exact Rows.mono hh (fun _ _ he=>⟨he,fun d hd=>key _ _ d hd⟩)
 |halt x w'=>cases x<;>simp only[Oper.upon] at hh ⊢ <;>exact hh
theorem wR{a:Act}{dst:Option Nat}{v:Value}{d:Nat}(h:dst≠some d):(a.put dst v).tmps.getD d undef=a.tmps.getD d undef:=by
 cases dst with
 |none=>rfl
 |some e=>
  have hne:e≠d:=fun x=>h (by rw[x]);simp only[Act.put,Array.getD_eq_getD_getElem?];rw[Array.getElem?_setIfInBounds_ne hne]
theorem agY{t:TypeId}{zs:List C}(h:jI P t=some zs):∃z:Value,(∀w,(zeroValue t).run P w=.ok z w)/\∀w σ S β,gu w σ S β zs z.cells.toList:=by
 unfold jI at h
 cases hi:P.info? t with
 |none=>rw[hi] at h;cases h
 |some i=>
  rw[hi] at h
  cases hz:i.zero with
  |none=>simp[hz] at h
  |some z=>
   simp only[Option.bind_some,hz] at h;split at h
   ·rename_i hall;cases h;refine⟨z,fun w=>by simp[zeroValue,typeInfo,hi,hz],fun w σ S β=>⟨by simp,fun j x hx=> ?_⟩⟩;rw[List.getElem?_map] at hx
    cases hv:z.cells.toList[j]? with
    |none=>rw[hv] at hx;cases hx
    |some v=>
     rw[hv] at hx;cases hx;exact⟨v,rfl,Dl _ _ _ _ _,List.all_eq_true.1 hall v (List.mem_of_getElem? hv)⟩
   ·cases h
theorem agZ{w w0:World}{σ σ0:Nat->Nat}{S0:Store}{β0:Hs}{own:List Obj}{Ω:Store}{β:Hs}{zs:List C}{b:Nat}{c:Array Value}{ty:TypeId}(hS:fA w σ (own::Ω) β)(hst:Step S0 β0 σ0 w0 (own::Ω) β σ w)(hb:w.heap[b]? =some (.cells c ty (0,0)))(hσ:σ b=0)
 (h0:w0.heap.size<=b)(hno:¬Own (own::Ω) β b)(hz:∀w σ S β,gu w σ S β zs c.toList):
 ∃bo bΩ,β=bo::bΩ/\bo.length=own.length/\fA w σ ((own++[.box zs])::Ω) ((bo++[Value.pointer (some ⟨b,0,none⟩)])::bΩ)/\Keep (own::Ω) β ((own++[.box zs])::Ω) ((bo++[Value.pointer (some ⟨b,0,none⟩)])::bΩ)/\
  Step S0 β0 σ0 w0 ((own++[.box zs])::Ω) ((bo++[Value.pointer (some ⟨b,0,none⟩)])::bΩ) σ w:=by
 cases β with
 |nil=>have:=hS.shape.1;simp at this
 |cons bo bΩ=>
 have hlen:bo.length=own.length:=by
  obtain⟨gr,g1,g2⟩:=hS.shape.2 0 own rfl;simp at g1;rw[g1];exact g2
 refine⟨bo,bΩ,rfl,hlen,?_⟩
 have hkeep:Keep (own::Ω) (bo::bΩ) ((own++[.box zs])::Ω) ((bo++[Value.pointer (some ⟨b,0,none⟩)])::bΩ):=by
  intro k o1 h1;obtain⟨h2,yu,_⟩:=hS.obj k o1 h1;exact⟨o1,kD _ _ _ _ _ h1,by rw[kD _ _ _ _ _ yu,yu];exact .refl _ _⟩
 have hinv:∀k o1 h1,bE ((own++[Obj.box zs])::Ω) k=some o1->bE ((bo++[Value.pointer (some ⟨b,0,none⟩)])::bΩ) k=some h1->
  (bE (own::Ω) k=some o1/\bE (bo::bΩ) k=some h1)\/(k=(0,own.length)/\o1=.box zs/\h1=Value.pointer (some ⟨b,0,none⟩)):=by
  intro k o1 h1 e1 e2;rcases mM _ _ _ _ _ e1 with e1|⟨rfl,rfl⟩
  ·left;refine⟨e1,?_⟩;rcases mM _ _ _ _ _ e2 with e2|⟨rfl,rfl⟩
   ·exact e2
   ·rw[bK,hlen] at e1;have:=(List.getElem?_eq_some_iff.1 e1).1;omega
  ·right;rw[<-hlen,cu] at e2;exact⟨rfl,rfl,(Option.some.inj e2).symm⟩
 have hown:∀x,Own ((own++[Obj.box zs])::Ω) ((bo++[Value.pointer (some ⟨b,0,none⟩)])::bΩ) x->Own (own::Ω) (bo::bΩ) x\/x=b:=by
  rintro x ⟨k,o,h,e1,e2,e3⟩;rcases hinv k o h e1 e2 with⟨f1,f2⟩|⟨rfl,rfl,rfl⟩
  ·exact .inl ⟨k,o,h,f1,f2,e3⟩
  ·right;cases e3;rfl
 have hmono:∀k o h,bE (own::Ω) k=some o->bE (bo::bΩ) k=some h->gZ w σ ((own::Ω).drop k.1) ((bo::bΩ).drop k.1) o h->gZ w σ (((own++[Obj.box zs])::Ω).drop k.1) (((bo++[Value.pointer (some ⟨b,0,none⟩)])::bΩ).drop k.1) o h:=
  fun k o h _ _ hr=>hr.mono (eu.refl _ _) (hkeep.drop _) fun x _=>⟨rfl,rfl⟩
 refine⟨⟨?_,?_,⟨?_,?_⟩,hS.live,hS.wh⟩,hkeep,⟨hst.size,hst.os,hst.output,fun x hx hn=>hst.far x hx hn,hst.near,fun x hx=> ?_⟩⟩
 ·intro k o1 h1;rcases mM _ _ _ _ _ h1 with h1|⟨rfl,rfl⟩
  ·obtain⟨h2,yu,hr⟩:=hS.obj k o1 h1;exact⟨h2,kD _ _ _ _ _ yu,hmono k o1 h2 h1 yu hr⟩
  ·exact⟨Value.pointer (some ⟨b,0,none⟩),by rw[<-hlen,cu],b,c,ty,rfl,hb,hσ,hz _ _ _ _⟩
 ·intro k k' o1 o2 h1 h2 x e1 e2 e3 e4 e5 e6;rcases hinv k o1 h1 e1 e2 with⟨f1,f2⟩|⟨rfl,rfl,rfl⟩
  ·rcases hinv k' o2 h2 e4 e5 with⟨g1,g2⟩|⟨rfl,rfl,rfl⟩
   ·exact hS.apart _ _ _ _ _ _ _ f1 f2 e3 g1 g2 e6
   ·cases e6;exact absurd ⟨k,o1,h1,f1,f2,e3⟩ hno
  ·rcases hinv k' o2 h2 e4 e5 with⟨g1,g2⟩|⟨rfl,rfl,rfl⟩
   ·cases e3;exact absurd ⟨k',o2,h2,g1,g2,e6⟩ hno
   ·rfl
 ·have:=hS.shape.1;simpa using this
 ·intro l fr hl
  cases l with
  |zero=>simp at hl;subst hl;exact⟨_,rfl,by simp[hlen]⟩
  |succ l=>exact hS.shape.2 (l+1) fr (by simpa using hl)
 ·rcases hown x hx with h|h
  ·exact hst.own x h
  ·subst h;exact .inr h0
theorem OH{st:Nat->St}{vs:Nat->V}{p:Nat}{o:Oper}{d:Nat}{t:TypeId}(ht:oo P E R o (st p) (vs p) (st (p+1)))(hop:o.op=.alloc t)(hg:o.guard=none)(hd:o.dst=some d):
 ∃zs own Ω,jI P t=some zs/\(st p).st=own::Ω/\(st (p+1)).st=(own++[.box zs])::Ω/\vs p=.c (.ptr (0,own.length) 0):=by
 have hgd:gd R o (st p).tm=some true:=by unfold gd;rw[hg]
 rcases ht with⟨h1,_,_⟩|⟨_,hD,_,_⟩|⟨_,hD,hx,hs',_⟩
 ·rw[hgd] at h1;cases h1
 ·rw[(wQ (E:=E) (o:=o) (by rw[hop];rfl)).1] at hD;cases hD
 ·obtain⟨dst,op,ty,pos,after,guard⟩:=o;simp only at hop hd;subst hop;subst hd;unfold dF wN at hx;simp only at hx
  cases hz:jI P t with
  |none=>rw[hz] at hx;exact hx.elim
  |some zs=>
   rw[hz] at hx
   generalize st (p+1)=s1 at *
   generalize st p=s0 at *
   obtain⟨tm,S⟩:=s0;simp only[newObj] at hx
   cases S with
   |nil=>exact hx.elim
   |cons own Ω=>
    subst hx;refine⟨zs,own,Ω,rfl,rfl,rfl,?_⟩;simp only[St.put,St.mk.injEq,List.cons.injEq,Prod.mk.injEq,and_true,true_and] at hs';exact hs'.symm
theorem mid_step{st:Nat->St}{vs:Nat->V}{β0:Hs}{σ0:Nat->Nat}{w0:World}{Q:Exit->Act->World->Prop}{p:Nat}(hok:Sm E R N st p)
 (hT:∀i,i<R.size->∃o,R[i]? =some o/\oo P E R o (st i) (vs i) (st (i+1))){listed:Array Bool}{a:Act}{w:World}(hM:Mid P N E R p st vs β0 σ0 w0 listed a w){i:Nat}(hi:i∈Region.ready .any R listed):
 wpOp P R Q i (fun a' w'=>Mid P N E R p st vs β0 σ0 w0 (listed.setIfInBounds i true) a' w') a w:=by
 obtain⟨hun,o,ho,JY⟩:=mem_ready.1 hi;have hlt:i<R.size:=(Array.getElem?_eq_some_iff.1 ho).1;obtain⟨o',ho',ht⟩:=hT i hlt;rw[ho] at ho';cases ho'
 have zU:listed.getD i false=false:=by
  have hs:i<listed.size:=by rw[hM.size];exact hlt
  simp[hs] at hun ⊢;exact hun
 obtain⟨m,hm,hmD,σ,β,hsz,hdf,hS,hrT,hst,hkp,Aq⟩:=hM.rep;have hdn:=hok.dst i o ho
 have hset:(listed.setIfInBounds i true).getD i false=true:=by
  have hs:i<listed.size:=by rw[hM.size];exact hlt
  simp[hs]
 have aaQ:∀j,(listed.setIfInBounds i true).getD j false=true->j=i\/listed.getD j false=true:=by
  intro j hj;by_cases e:j=i
  ·exact .inl e
  ·rw[getD_set_ne false (Ne.symm e)] at hj;exact .inr hj
 have apc:∀j,(listed.setIfInBounds i true).getD j false=false->j≠i/\listed.getD j false=false:=by
  intro j hj;by_cases e:j=i
  ·subst e;rw[hset] at hj;cases hj
  ·rw[getD_set_ne false (Ne.symm e)] at hj;exact⟨e,hj⟩
 have Ii:∀j x k,R[j]? =some x->listed.getD j false=true->((masks R.toList []).getD j 0).testBit k=true->listed.getD k false=true:=fun j x k hx hE hb=>
  Fq (fun k=>listed.getD k false=true) hM.closed hok.edge j x hx (fun e he hb=>hM.closed j x e hx hE he hb) k hb
 have BR:∀k,((masks R.toList []).getD i 0).testBit k=true->listed.getD k false=true:=fun k hb=>
  Fq (fun k=>listed.getD k false=true) hM.closed hok.edge i o ho (fun e he hb=>JY e he hb) k hb
 have am4:pq E R p listed->i≠p:=fun h e=>by have h1:=h.1;rw[<-e,zU] at h1;cases h1
 have Ij:∀j x e,R[j]? =some x->(listed.setIfInBounds i true).getD j false=true->e∈x.after->Region.binds .any e=true->(listed.setIfInBounds i true).getD e.on false=true:=by
  intro j x e hx hE he hb;by_cases hji:j=i
  ·subst hji;rw[ho] at hx;cases hx;exact getD_set_true (JY e he hb)
  ·rw[getD_set_ne false (Ne.symm hji)] at hE;exact getD_set_true (hM.closed j x e hx hE he hb)
 by_cases hA2:i=p/\∃j x,j<p/\R[j]? =some x/\gD E x.op=true/\listed.getD j false=false
 ·
  obtain⟨rfl,j0,x0,hj0,hx0,hD0,hu0⟩:=hA2;obtain⟨hal,hgn,⟨d,hd⟩,_⟩:=hok.pend o ho
  obtain⟨ty,hop⟩:∃ty,o.op=.alloc ty:=by
   cases h:o.op<;>rw[h] at hal<;>first|exact⟨_,rfl⟩|cases hal
  obtain⟨zs,own,Ω,hzs,_,_,_⟩:=OH ht hop hgn hd;obtain⟨z,yt,hzc⟩:=agY hzs
  have hnp:¬pq E R i listed:=fun h=>by have h1:=h.1;rw[zU] at h1;cases h1
  have hP':pq E R i (listed.setIfInBounds i true):=⟨hset,hlt,j0,x0,hj0,hx0,hD0,by rw[getD_set_ne false (by omega)];exact hu0⟩
  have hmp:m<=i:=by
   have h1:=hmD j0 x0 hx0 hD0 (fun _=>hnp);rcases Nat.lt_or_ge j0 m with h|h
   ·rw[h1.2 h] at hu0;cases hu0
   ·omega
  have hdi:gQ R i=some d:=by simp[gQ,ho,hd]
  have hg:=Dn w σ hS.live z.cells ty 0;unfold wpOp;rw[ho]
  simp only
  rw[if_pos (by simp[Region.wanted,hgn])];left
  have hrun:(execOp a.eval o).run P w=.ok (.value (.pointer (some ⟨w.heap.size,0,none⟩))) {w with heap:=w.heap.push (.cells z.cells ty)}:=by
   have Oz:(newVar ty z).run P w=.ok ⟨w.heap.size,0,none⟩ {w with heap:=w.heap.push (.cells z.cells ty)}:=rfl;have yt:=yt w;clear hS hrT hst hkp Aq hM hdn ht;obtain⟨dst,op,ty',pos,after,guard⟩:=o;simp only at hop;subst hop;simp[execOp,Instr.alloc,yt,Oz]
  unfold Oper.wp;rw[hrun];show Mid P N E R i st vs β0 σ0 w0 _ (a.put o.dst _) _;rw[hd]
  have hdN:d<a.tmps.size:=by rw[hsz];exact hdn d hd
  refine⟨by simpa using hM.size,Ij,m,hm,fun j x hx tZ hjp=> ?_,fun b=>if b=w.heap.size then 0 else σ b,β,by simp[Act.put,hsz],hdf,hS.grow hg,fun t=> ?_,hst.trans (Step.nU hg),hkp,fun _=>⟨hmp,fun d' hd'=> ?_⟩⟩
  ·have hji:j≠i:=fun e=>hjp e hP';rw[getD_set_ne false (Ne.symm hji)];exact hmD j x hx tZ fun _=>hnp
  ·unfold wE;by_cases e:t=d
   ·subst e;rw[if_pos ⟨hP',hdi⟩];exact trivial
   ·rw[if_neg (fun h=>e (by rw[hdi] at h;exact(Option.some.inj h.2).symm))]
    rw[Bo (E':=fun i=>listed.getD i false) R.size (fun j hj hdj=>by
     have hji:j≠i:=fun x=>by rw[x,hdi] at hdj;exact e (Option.some.inj hdj).symm
     exact getD_set_ne false (Ne.symm hji))]
    have h1:=hrT t;unfold wE at h1;rw[if_neg (fun h=>hnp h.1)] at h1;rw[wR (by intro x;exact e (Option.some.inj x).symm)];exact h1.mono hg.near (Keep.refl _ _)
  ·rw[hdi] at hd';cases hd';refine⟨w.heap.size,z.cells,ty,by simp[Act.put,Array.getD,hdN],by simp,by simp,hst.size,fun h=> ?_,fun o2 t2 zs2 h1 h2 h3=> ?_⟩
   ·have:=hS.Gp h;omega
   ·rw[ho] at h1;cases h1;rw[hop] at h2;cases h2;rw[hzs] at h3;cases h3;exact hzc
 have hA:i=p->∀j x,j<p->R[j]? =some x->gD E x.op=true->listed.getD j false=true:=fun e j x hj hx hD=>by
  cases hl:listed.getD j false with
  |true=>rfl
  |false=>exact absurd ⟨e,j,x,hj,hx,hD,hl⟩ hA2
 have hPP:pq E R p (listed.setIfInBounds i true)->pq E R p listed:=by
  rintro⟨h1,h2,j,x,hj,hx,hD,hl⟩;obtain⟨hji,hl⟩:=apc j hl;rcases aaQ p h1 with e|h
  ·rw[hA e.symm j x hj hx hD] at hl;cases hl
  ·exact⟨h,h2,j,x,hj,hx,hD,hl⟩
 have hap:pq E R p listed->∀po d,R[p]? =some po->po.dst=some d->o.dst≠some d/\d∉o.looksAt R:=by
  rintro hP po d hpo Aq;have VD:=hP;obtain⟨_,_,j0,x0,hj0,hx0,hD0,hu0⟩:=VD
  have:o.apart R po=true:=by
   cases hc:o.apart R po with
   |true=>rfl
   |false=>
    have:=(hok.pend po hpo).2.2.2 i o (am4 hP) ho hc j0 x0 hj0 hx0 hD0;rw[BR j0 this.2] at hu0;cases hu0
  obtain⟨q1,q2,q3⟩:=Oper.apart_spec this;exact⟨fun e=>q2 d e Aq,q3 d Aq⟩
 have Sn:pq E R p listed->gD E o.op=true->i<p:=by
  rintro hP hD;have VD:=hP;obtain⟨_,hpl,j0,x0,hj0,hx0,hD0,hu0⟩:=VD;have hne:=am4 hP;rcases Nat.lt_or_ge i p with h|h
  ·exact h
  ·exfalso;rcases hok.pair j0 i x0 o (by omega) hx0 ho (by simp[oq,hD,hD0]) with hb|⟨e,_⟩
   ·rw[BR j0 hb] at hu0;cases hu0
   ·exact hne e
 have hbit:∀j x,R[j]? =some x->j≠i->uV R j i=true->(listed.getD j false=true<->j<i):=by
  intro j x hx hne hc;unfold uV at hc;constructor
  ·intro hE;rcases Nat.lt_or_ge j i with h|h
   ·exact h
   ·exfalso;rw[if_neg (by omega)] at hc;have:=Ii j x i hx hE hc;rw[zU] at this;cases this
  ·intro hji;rw[if_pos hji] at hc;exact BR j hc
 have hdone:∀j x,R[j]? =some x->j≠i->(j=p->¬pq E R p listed)->oq E R x o=true->(listed.getD j false=true<->j<i):=by
  intro j x hx hne hjp hc;by_cases e:j<i
  ·rcases hok.pair j i x o e hx ho hc with hb|⟨e1,hD,_⟩
   ·exact hbit j x hx hne (by unfold uV;rw[if_pos e];exact hb)
   ·exact⟨fun _=>e,fun _=>hA e1 j x (by omega) hx hD⟩
  ·rcases hok.pair i j o x (by omega) ho hx (by rw[Yc];exact hc) with hb|⟨e1,hD,_⟩
   ·exact hbit j x hx hne (by unfold uV;rw[if_neg e];exact hb)
   ·refine⟨fun h=>absurd ⟨e1▸h,?_,i,o,by omega,ho,hD,zU⟩ (hjp e1),fun h=>absurd h e⟩;rw[<-e1];exact(Array.getElem?_eq_some_iff.1 hx).1
 obtain⟨VE,VF⟩:∃VE:List (Nat×V),∀t,look VE t=mP R vs (fun i=>listed.getD i false) (st 0).tm R.size t:=by
  have:∀n,∃uy:List (Nat×V),∀t,look uy t=mP R vs (fun i=>listed.getD i false) (st 0).tm n t:=by
   intro n
   induction n with
   |zero=>exact⟨(st 0).tm,fun t=>rfl⟩
   |succ n ih=>
    obtain⟨tm,h⟩:=ih;by_cases hE:listed.getD n false=true
    ·cases hd:gQ R n with
     |none=>exact⟨tm,fun t=>by rw[mP,if_neg (fun x=>by rw[hd] at x;cases x.2)];exact h t⟩
     |some d=>
      refine⟨(n |> vs |> fun v=>(d,v))::tm,fun t=> ?_⟩;rw[mP,look,hd,h t];by_cases e:d=t
      ·rw[if_pos e,if_pos ⟨hE,by rw[e]⟩]
      ·rw[if_neg e,if_neg (fun x=>e (Option.some.inj x.2))]
    ·exact⟨tm,fun t=>by rw[mP,if_neg (fun x=>hE x.1)];exact h t⟩
  exact this R.size
 obtain⟨uy,ag0⟩:∃uy:List (Nat×V),∀t,look uy t=wE E R p vs listed (st 0).tm t:=by
  by_cases hP:pq E R p listed
  ·cases hd:gQ R p with
   |none=>exact⟨VE,fun t=>by unfold wE;rw[if_neg (fun h=>by rw[hd] at h;cases h.2)];exact VF t⟩
   |some d=>
    refine⟨(d,.any)::VE,fun t=> ?_⟩;unfold wE;rw[look,hd];by_cases e:d=t
    ·rw[if_pos e,if_pos ⟨hP,by rw[e]⟩]
    ·rw[if_neg e,if_neg (fun x=>e (Option.some.inj x.2))];exact VF t
  ·exact⟨VE,fun t=>by unfold wE;rw[if_neg (fun h=>hP h.1)];exact VF t⟩
 have hPd:∀t,pq E R p listed->gQ R p=some t->∃po,R[p]? =some po/\po.dst=some t:=by
  intro t _ h;unfold gQ at h
  cases hpo:R[p]? with
  |none=>rw[hpo] at h;cases h
  |some po=>rw[hpo] at h;exact⟨po,rfl,h⟩
 have OI:∀t∈o.looksAt R,look uy t=look (st i).tm t:=by
  intro t htl;rw[ag0];unfold wE
  rw[if_neg (fun h=>by
   obtain⟨po,h1,h2⟩:=hPd t h.1 h.2
   exact(hap h.1 po t h1 h2).2 htl),BQ hT t i (by omega)]
  have:=F3 (R:=R) (vs:=vs) (E:=fun i=>listed.getD i false) (base:=(st 0).tm) (t:=t) (i:=i) R.size (fun j hj hd=>by
   by_cases e:j=i
   ·subst e;rw[zU];simp
   ·obtain⟨x,hx⟩:∃x,R[j]? =some x:=⟨_,Array.getElem?_eq_getElem hj⟩
    have hxd:x.dst=some t:=by simpa [gQ,hx] using hd
    refine hdone j x hx e (fun e2 hP=> ?_) ?_
    ·subst e2;exact(hap hP x t hx hxd).2 htl
    ·have:x.apart R o=false:=by
      cases hap:x.apart R o with
      |false=>rfl
      |true=>exact absurd htl ((Oper.apart_spec hap).1 t hxd)
     simp[oq,this])
  rw[this,show min R.size i=i from by omega]
 have hR:kQ N ⟨uy,(st m).st⟩ a w σ β:=⟨hsz,hdf,hS,fun t=>by show dM w σ (st m).st β (look uy t) _;rw[ag0];exact hrT t⟩
 have hev:∀x∈o.op.operands,ev (st i).tm x=ev uy x:=by
  intro x hx
  cases x with
  |tmp t=>show look _ t=look _ t;rw[OI t (Jl hx rfl)]
  |_=>rfl
 have hgd:gd R o uy=gd R o (st i).tm:=by
  unfold gd
  cases hg:o.guard with
  |none=>rfl
  |some gw=>
   obtain⟨g,want⟩:=gw
   simp only
   cases hd:gQ R g with
   |none=>rfl
   |some d=>
    simp only[Option.map_some];rw[OI d (Ya hg hd)]
 have aqU:∀(S':Store)(t:Nat),mP R vs (fun i_1=>(listed.setIfInBounds i true).getD i_1 false) (st 0).tm R.size t=look (St.put ⟨VE,S'⟩ o.dst (vs i)).tm t:=by
  intro S' t;by_cases hd:o.dst=some t
  ·have hdi:gQ R i=some t:=by simp[gQ,ho,hd]
   rw[Ih (E:=fun i_1=>(listed.setIfInBounds i true).getD i_1 false) hset hdi R.size hlt (fun j hj hij hdj=>by
    obtain⟨x,hx⟩:∃x,R[j]? =some x:=⟨_,Array.getElem?_eq_getElem hj⟩
    have hxd:x.dst=some t:=by simpa [gQ,hx] using hdj
    have ag1:x.apart R o=false:=by
     cases hap:x.apart R o with
     |false=>rfl
     |true=>exact absurd hd ((Oper.apart_spec hap).2.1 t hxd)
    have:=hdone j x hx (by omega) (fun e hP=>by
     subst e
     exact(hap hP x t hx hxd).1 hd) (by simp[oq,ag1])
    rw[getD_set_ne false (by omega)]
    cases hE:listed.getD j false with
    |false=>rfl
    |true=>exact absurd (this.1 hE) (by omega))]
   rw[hd];simp[St.put,look]
  ·have hdi:gQ R i≠some t:=by simp only[gQ,ho,Option.bind_some];exact hd
   rw[Bo (E':=fun i=>listed.getD i false) R.size (fun j hj hdj=>by
    have hji:j≠i:=fun e=>hdi (e▸hdj)
    exact getD_set_ne false (Ne.symm hji)),<-VF t]
   cases hdd:o.dst with
   |none=>rfl
   |some d=>
    have hne:d≠t:=fun e=>hd (by rw[hdd,e]);simp[St.put,look,hne]
 have ag2:∀(S':Store)(t:Nat),¬(pq E R p listed/\gQ R p=some t)->look (St.put ⟨uy,S'⟩ o.dst (vs i)).tm t=mP R vs (fun i_1=>(listed.setIfInBounds i true).getD i_1 false) (st 0).tm R.size t:=by
  intro S' t hn;rw[aqU S' t]
  have h1:look uy t=look VE t:=by rw[ag0,VF];unfold wE;rw[if_neg hn]
  cases hdd:o.dst with
  |none=>exact h1
  |some d=>simp only[St.put,look,h1]
 have fin:∀(m':Nat)(a':Act)(w':World)(σ':Nat->Nat)(β':Hs),m'<=R.size->(∀j x,R[j]? =some x->gD E x.op=true->(j=p->¬pq E R p listed)->((listed.setIfInBounds i true).getD j false=true<->j<m'))->
  (pq E R p listed->m'<=p)->(∀d,o.dst≠some d->a'.tmps.getD d undef=a.tmps.getD d undef)->
  kQ N (St.put ⟨uy,(st m').st⟩ o.dst (vs i)) a' w' σ' β'->Step (st m).st β σ w (st m').st β' σ' w'->Keep (st m).st β (st m').st β'->Mid P N E R p st vs β0 σ0 w0 (listed.setIfInBounds i true) a' w':=by
  intro m' a' w' σ' β' hm' hD' hmp ha' hR' hst' AB;have hS':=hR'.S;have hT':=hR'.T;rw[mZ] at hS' hT';by_cases hP:pq E R p listed
  ·obtain⟨_,hraw⟩:=Aq hP;have VD:=hP;obtain⟨hp1,hp2,j0,x0,hj0,hx0,hD0,hu0⟩:=VD;obtain⟨po,hpo⟩:∃po,R[p]? =some po:=⟨_,Array.getElem?_eq_getElem hp2⟩;obtain⟨hal,hgn,⟨d,hd⟩,apd⟩:=hok.pend po hpo
   have hdp:gQ R p=some d:=by simp[gQ,hpo,hd]
   have hod:=hap hP po d hpo hd;have hraw:=hraw d hdp;obtain⟨b,c,ty',hv,hb,hσ,h0,hno,hzc⟩:=hraw;have hbl:b<w.heap.size:=lt_of_some hb
   have hb':w'.heap[b]? =some (.cells c ty' (0,0)):=by rw[(hst'.far b hbl hno).1];exact hb
   have hσ':σ' b=0:=by rw[(hst'.far b hbl hno).2];exact hσ
   have hno':¬Own (st m').st β' b:=fun h=>(hst'.own b h).elim hno (fun h=>by omega);have hv':a'.tmps.getD d undef=.pointer (some ⟨b,0,none⟩):=(ha' d hod.1).trans hv;have ape:Raw P R p w0 w' σ' (st m').st β' (a'.tmps.getD d undef):=⟨b,c,ty',hv',hb',hσ',h0,hno',hzc⟩;by_cases hP':pq E R p (listed.setIfInBounds i true)
   ·refine⟨by simpa using hM.size,Ij,m',hm',fun j x hx tZ hjp=>hD' j x hx tZ (fun e=>absurd hP' (hjp e)),σ',β',hR'.size,hR'.defers,hS',fun t=> ?_,hst.trans hst',hkp.trans AB,fun _=>⟨hmp hP,fun d' hd'=>by rw[hdp] at hd';cases hd';exact ape⟩⟩;unfold wE;by_cases e:gQ R p=some t
    ·rw[if_pos ⟨hP',e⟩];exact trivial
    ·rw[if_neg (fun h=>e h.2),<-ag2 (st m').st t (fun h=>e h.2)];exact hT' t
   ·
    have hpl:(listed.setIfInBounds i true).getD p false=true:=getD_set_true hp1
    have hall:∀j x,j<p->R[j]? =some x->gD E x.op=true->(listed.setIfInBounds i true).getD j false=true:=fun j x hj hx hD=>by
     cases hl:(listed.setIfInBounds i true).getD j false with
     |true=>rfl
     |false=>exact absurd ⟨hpl,hp2,j,x,hj,hx,hD,hl⟩ hP'
    have am6:∀j x,p<j->R[j]? =some x->gD E x.op=true->(listed.setIfInBounds i true).getD j false=false:=fun j x hj hx hD=>by
     cases hl:(listed.setIfInBounds i true).getD j false with
     |false=>rfl
     |true=>
      exfalso;rcases hok.pair j0 j x0 x (by omega) hx0 hx (by simp[oq,hD,hD0]) with hbt|⟨e,_⟩
      ·rcases aaQ j hl with e|hl
       ·subst e;rw[BR j0 hbt] at hu0;cases hu0
       ·rw[Ii j x j0 hx hl hbt] at hu0;cases hu0
      ·omega
    have atw:=hmp hP
    have hsm:(st p).st=(st m').st:=by
     have:=GA hT (i:=m') (p-m') (by omega) (fun j x h1 h2 h3=>by
      cases tZ:gD E x.op with
      |false=>rfl
      |true=>
       have:=(hD' j x h3 tZ (fun e=>by omega)).1 (hall j x (by omega) h3 tZ)
       omega)
     rwa [show m'+(p-m')=p from by omega] at this
    obtain⟨po',am7,htp⟩:=hT p hp2;rw[hpo] at am7;cases am7
    obtain⟨ty,hop⟩:∃ty,po.op=.alloc ty:=by
     cases h:po.op<;>rw[h] at hal<;>first|exact⟨_,rfl⟩|cases hal
    obtain⟨zs,own,Ω,hzs,hs0,hs1,hvp⟩:=OH htp hop hgn hd;rw[hsm] at hs0;have xW:=hst.trans hst';have am8:=hkp.trans AB;rw[hs0] at hS' hT' xW am8 hno';obtain⟨bo,bΩ,rfl,hlen,q1,q2,q3⟩:=agZ hS' xW hb' hσ' h0 hno' (hzc po ty zs hpo hop hzs);rw[<-hs1] at q1 q2 q3;refine⟨by simpa using hM.size,Ij,p+1,by omega,fun j x hx tZ _=> ?_,σ',_,hR'.size,hR'.defers,q1,fun t=> ?_,q3,am8.trans q2,fun h=>absurd h hP'⟩
    ·rcases Nat.lt_trichotomy j p with h|h|h
     ·exact⟨fun _=>by omega,fun _=>hall j x h hx tZ⟩
     ·subst h;exact⟨fun _=>by omega,fun _=>hpl⟩
     ·rw[am6 j x h hx tZ];exact⟨fun h=>(by cases h),fun h=>by omega⟩
    ·unfold wE;rw[if_neg (fun h=>hP' h.1)];by_cases e:t=d
     ·subst e
      rw[Ih (E:=fun i_1=>(listed.setIfInBounds i true).getD i_1 false) hpl hdp R.size hp2 (fun j hj hpj hdj=>by
       obtain⟨x,hx⟩:∃x,R[j]? =some x:=⟨_,Array.getElem?_eq_getElem hj⟩
       have hxd:x.dst=some t:=by simpa [gQ,hx] using hdj
       have ag1:x.apart R po=false:=by
        cases hap:x.apart R po with
        |false=>rfl
        |true=>exact absurd hd ((Oper.apart_spec hap).2.1 t hxd)
       have hbt:=apd j x (by omega) hx ag1 j0 x0 hj0 hx0 hD0
       cases hl:(listed.setIfInBounds i true).getD j false with
       |false=>rfl
       |true=>
        exfalso;rcases aaQ j hl with e|hl
        ·subst e;rw[BR j0 hbt.2] at hu0;cases hu0
        ·rw[Ii j x j0 hx hl hbt.2] at hu0;cases hu0),hvp,hv',hs1]
      exact ZA hlen
     ·rw[<-ag2 (st m').st t (fun h=>e (by rw[hdp] at h;exact(Option.some.inj h.2).symm))];have h1:=hT' t;rw[hs0];exact h1.mono (eu.refl _ _) q2
  ·have hP':¬pq E R p (listed.setIfInBounds i true):=fun h=>hP (hPP h);refine⟨by simpa using hM.size,Ij,m',hm',fun j x hx tZ _=>hD' j x hx tZ (fun _=>hP),σ',β',hR'.size,hR'.defers,hS',fun t=> ?_,hst.trans hst',hkp.trans AB,fun h=>absurd h hP'⟩;unfold wE;rw[if_neg (fun h=>hP' h.1),<-ag2 (st m').st t (fun h=>hP h.1)];exact hT' t
 have keepD:gD E o.op=false->∀j x,R[j]? =some x->gD E x.op=true->(j=p->¬pq E R p listed)->((listed.setIfInBounds i true).getD j false=true<->j<m):=by
  intro hD j x hx tZ hjp
  have hji:j≠i:=fun e=>by rw[e,ho] at hx;cases hx;rw[hD] at tZ;cases tZ
  rw[getD_set_ne false (Ne.symm hji)];exact hmD j x hx tZ hjp
 have hmP:pq E R p listed->m<=p:=fun h=>(Aq h).1
 have quiet:∀(w':World)(σ':Nat->Nat)(v:Value),gD E o.op=false->Grow w σ w' σ'->dM w' σ' (st m).st β (vs i) v->Mid P N E R p st vs β0 σ0 w0 (listed.setIfInBounds i true) (a.put o.dst v) w':=by
  intro w' σ' v hD hg hv;exact fin m _ w' σ' β hm (keepD hD) hmP (fun d hd=>wR hd) (DR hdn hsz hdf (hS.grow hg) (hR.T.mono hg.near (Keep.refl _ _)) hv) (Step.nU hg) (Keep.refl _ _)
 have hDs:gD E o.op=true->∀j x,R[j]? =some x->gD E x.op=true->(j=p->¬pq E R p listed)->(listed.getD j false=true<->j<i):=by
  intro hD j x hx tZ hjp;by_cases e:j=i
  ·subst e;rw[zU];simp
  ·exact hdone j x hx e hjp (by simp[oq,hD,tZ])
 have hsame:gD E o.op=true->(st m).st=(st i).st:=by
  intro hD
  have hno:∀j x,R[j]? =some x->(i<=j/\j<m\/m<=j/\j<i)->gD E x.op=false:=by
   intro j x hx hj
   cases tZ:gD E x.op with
   |false=>rfl
   |true=>
    have hjp:j=p->¬pq E R p listed:=fun e hP=>by
     have:=Sn hP hD;have:=hmP hP;omega
    have h1:=hDs hD j x hx tZ hjp;have h2:=hmD j x hx tZ hjp;rcases hj with hj|hj
    ·have:=h1.1 (h2.2 hj.2);omega
    ·have:=h2.1 (h1.2 hj.2);omega
  rcases Nat.le_total i m with h|h
  ·have:=GA hT (i:=i) (m-i) (by omega) (fun j x h1 h2 h3=>hno j x h3 (.inl ⟨h1,by omega⟩))
   rwa [show i+(m-i)=m from by omega] at this
  ·have:=GA hT (i:=m) (i-m) (by omega) (fun j x h1 h2 h3=>hno j x h3 (.inr ⟨h1,by omega⟩));rw[show m+(i-m)=i from by omega] at this;exact this.symm
 have adJ:gD E o.op=true->∀j x,R[j]? =some x->gD E x.op=true->(j=p->¬pq E R p listed)->((listed.setIfInBounds i true).getD j false=true<->j<i+1):=by
  intro hD j x hx tZ hjp;by_cases e:j=i
  ·subst e;rw[hset];simp
  ·rw[getD_set_ne false (Ne.symm e),hDs hD j x hx tZ hjp];omega
 have hiP:gD E o.op=true->pq E R p listed->i+1<=p:=fun hD hP=>Sn hP hD;unfold wpOp;rw[ho]
 simp only
 have hRR:kQ N ⟨uy,(st m).st⟩ a w σ β:=hR;rcases ht with⟨hg,hv,hs'⟩|⟨hg,hD,hv,hs'⟩|⟨hg,hD,hx,hs',_⟩
 ·
  have hw:Region.wanted o (yielded R a.tmps)=false:=by
   rw[<-hgd] at hg;unfold gd at hg;split at hg
   ·cases hg
   ·rename_i j want hgu;split at hg
    ·rename_i x hx;have hy:=Eh (s:=⟨uy,(st m).st⟩) hRR hx
     have hne:x≠want:=by
      intro e;rw[e] at hg;simp at hg
     simp[Region.wanted,hgu,hy,hne]
    ·rename_i hx;have hy:=Jk (s:=⟨uy,(st m).st⟩) hRR hx;simp[Region.wanted,hgu,hy]
    ·cases hg
  rw[if_neg (by rw[hw];simp)]
  have hvu:dM w σ (st m).st β (vs i) undef:=by rw[hv];exact y7
  by_cases hD:gD E o.op=true
  ·have hsm:=hsame hD
   have hs1:(st (i+1)).st=(st m).st:=by rw[hsm,hs'];cases o.dst<;>rfl
   refine fin (i+1) _ w σ β hlt (adJ hD) (hiP hD) (fun d hd=>wR hd) (by rw[hs1];exact DR hdn hsz hdf hS hR.T hvu) (by rw[hs1];exact Step.nU (Grow.refl hS.live)) (by rw[hs1];exact Keep.refl _ _)
  ·exact quiet w σ undef (by simpa using hD) (Grow.refl hS.live) hvu
 all_goals
  have hw:Region.wanted o (yielded R a.tmps)=true:=by
   rw[<-hgd] at hg;unfold gd at hg;split at hg
   ·rename_i hgu;simp[Region.wanted,hgu]
   ·rename_i j want hgu;split at hg
    ·rename_i x hx;have hy:=Eh (s:=⟨uy,(st m).st⟩) hRR hx;simp at hg;simp[Region.wanted,hgu,hy,hg]
    ·cases hg
    ·cases hg
  rw[if_pos hw];left
 ·
  rcases hv with⟨c,hc,hcn⟩|⟨hcond,hval⟩
  ·have hcn':=agP (tm':=uy) (fun x hx=>hev x (by rw[hc];exact hx)) hcn;unfold Ig at hcn';split at hcn'
   ·rename_i x hcx;split at hcn'
    ·rename_i f caps hex
     have hcall:oN P c ⟨uy,(st m).st⟩ o.dst (fun t=>t=St.put ⟨uy,(st m).st⟩ o.dst (vs i)):=by
      unfold oN;rw[hcx];simp only[hex];exact .inl ⟨_,hcn' (st m).st,fun r S' hp=>by rw[hp.1,hp.2]⟩
     refine Oper.wp_mono ?_ (Oper.adI (OA (Q:=Q) hc hdn hRR hcall));rintro a' w' ⟨⟨s'',σ',β',hR',hst',AB,hK⟩,ha'⟩;subst hK;rw[mZ] at hst' AB;exact fin m a' w' σ' β' hm (keepD hD) hmP ha' hR' hst' AB
    ·exact hcn'.elim
   ·exact hcn'.elim
  ·have hcv:kg o.op=false:=by
    cases hc:kg o.op with
    |false=>rfl
    |true=>
     exfalso;unfold kg at hc;split at hc
     ·rename_i x b c hop;rw[hop] at hcond;exact iJ hcond
     ·cases hc
   have aj5:∀k,refs (st i).tm o k->∀j x,R[j]? =some x->(i<=j/\j<m\/m<=j/\j<i)->mX E x.op=false\/bE (st (j+1)).st k=bE (st j).st k:=by
    intro k hk j x hx hj
    cases hs:mX E x.op with
    |false=>exact .inl rfl
    |true=>
     have tZ:gD E x.op=true:=adF hs
     have hji:j≠i:=fun e=>by rw[e,ho] at hx;cases hx;rw[hD] at tZ;cases tZ
     rcases hok.store j i x o hji hx ho hs hD hcv with hb|hb
     ·have h1:=hbit j x hx hji hb
      have h2:=hmD j x hx tZ (fun e=>by
       subst e;have:=(wQ (E:=E) (hok.pend x hx).1).2.1
       rw[hs] at this;cases this)
      rcases hj with hj|hj
      ·have:=h1.1 (h2.2 hj.2);omega
      ·have:=h2.1 (h1.2 hj.2);omega
     ·exact .inr (hb k hk)
   have e1:=akK (P:=P) (S:=(st i).st) (tm:=(st i).tm) (tm':=uy) (op:=o.op) hev;rw[e1] at hcond hval
   have e2:oL P (rP (st i).st) (st m).st uy o.op=oL P (rP (st i).st) (st i).st uy o.op:=by
    cases hmv:aaP o.op with
    |true=>exact agX hmv
    |false=>
     exact agQ (P:=P) (l:=rP (st i).st) (S:=(st i).st) (S':=(st m).st) (tm:=uy) (op:=o.op) hcond (by
     intro x hx k hk ob hob hbr;have hrf:refs (st i).tm o k:=⟨hmv,x,hx,by rw[hev x hx];exact hk⟩;rcases Nat.le_total i m with h|h
     ·have hds:=aaN hT (i:=i) (k:=k) (m-i) (by omega) (fun j x h1 h2 h3=>aj5 k hrf j x h3 (.inl ⟨h1,by omega⟩));rw[show i+(m-i)=m from by omega] at hds;rcases hds ob hob with h'|⟨⟨z,es,e⟩,_⟩
      ·exact h'
      ·rcases e with e|⟨_,e⟩<;>rw[e] at hbr<;>exact hbr.elim
     ·have hds:=aaN hT (i:=m) (k:=k) (i-m) (by omega) (fun j x h1 h2 h3=>aj5 k hrf j x h3 (.inr ⟨h1,by omega⟩));rw[show m+(i-m)=i from by omega] at hds;have hrx:=kL (a:=a) hR.T x
      have hin:∃o',bE (st m).st k=some o':=by
       rcases hk with⟨off,e⟩|⟨i',off,e⟩|e|e|⟨r',p',e⟩|⟨r',p',z',i',off,e⟩<;>rw[show ev (⟨uy,(st m).st⟩:St).tm x=ev uy x from rfl,e] at hrx<;>obtain⟨⟨o',ho',_⟩,_⟩:=hrx<;>exact⟨o',ho'⟩
      obtain⟨o',ho'⟩:=hin;rcases hds o' ho' with h'|⟨_,o2,z,es,h',e⟩
      ·rw[hob] at h';cases h';exact ho'
      ·rw[hob] at h';cases h'
       rcases e with e|⟨_,e⟩<;>rw[e] at hbr<;>exact hbr.elim)
   have ana:(oL P (rP (st i).st) (st m).st uy o.op).1:=by rw[e2];exact hcond
   have hval':vs i=(oL P (rP (st i).st) (st m).st uy o.op).2:=by rw[e2];exact hval
   obtain⟨v,w',σ',hrun,hgr,Fp⟩:=Mi (P:=P) _ o hS hR.T ana;unfold Oper.wp;rw[hrun];exact quiet w' σ' v hD hgr (by rw[hval'];exact Fp)
 ·have hsm:=hsame hD
  have hx':dF P o ⟨(st i).tm,(st i).st⟩ (fun t=>t=St.put ⟨(st i).tm,(st (i+1)).st⟩ o.dst (vs i)):=by
   rw[hs'] at hx;exact hx
  have hx2:=agO hD hev hx';rw[<-hsm] at hx2;refine Oper.wp_mono ?_ (Oper.adI (Ie (Q:=Q) hdn hRR hx2));rintro a' w' ⟨⟨s'',σ',β',hR',hst',AB,hK⟩,ha'⟩;subst hK;rw[mZ] at hst' AB;exact fin (i+1) a' w' σ' β' hlt (adJ hD) (hiP hD) ha' hR' hst' AB
theorem akP{st:Nat->St}{vs:Nat->V}{β0:Hs}{σ0:Nat->Nat}{w0:World}{Q:Exit->Act->World->Prop}{p:Nat}(hok:Sm E R N st p)
 (hT:∀i,i<R.size->∃o,R[i]? =some o/\oo P E R o (st i) (vs i) (st (i+1)))(hQ:∀listed a w,Mid P N E R p st vs β0 σ0 w0 listed a w->(∀i,i<R.size->listed.getD i false=true)->Q .normal a w):
 ∀(fuel:Nat)(listed:Array Bool)(a:Act)(w:World),(List.range R.size).countP (fun i=> !listed.getD i false)<=fuel->Mid P N E R p st vs β0 σ0 w0 listed a w->wpAny P .any R Q fuel listed a w:=by
 have hend:∀listed a w,Mid P N E R p st vs β0 σ0 w0 listed a w->Region.ready .any R listed=[]->Q .normal a w:=by
  intro listed a w hM hr;refine hQ listed a w hM ?_;intro i
  induction i using Nat.strongRecOn with
  |_ i ih=>
   intro hi
   cases hE:listed.getD i false with
   |true=>rfl
   |false=>
    exfalso;have ho:R[i]? =some R[i]:=Array.getElem?_eq_getElem hi
    have:i∈Region.ready .any R listed:=by
     rw[mem_ready]
     have hs:i<listed.size:=by rw[hM.size];exact hi
     refine⟨by simp[hs] at hE ⊢;exact hE,_,ho,fun e he hb=> ?_⟩;have hon:=hok.edge i _ e ho he hb;exact ih e.on hon (by omega)
    rw[hr] at this;simp at this
 intro fuel
 induction fuel with
 |zero=>
  intro listed a w hc hM
  have hnone:Region.ready .any R listed=[]:=by
   cases hr:Region.ready .any R listed with
   |nil=>rfl
   |cons i l=>
    exfalso
    have hi:i∈Region.ready .any R listed:=by rw[hr];simp
    obtain⟨hun,o,ho,_⟩:=mem_ready.1 hi;have hlt:=(Array.getElem?_eq_some_iff.1 ho).1
    have hs:i<listed.size:=by rw[hM.size];exact hlt
    have hz:(List.range R.size).countP (fun i=> !listed.getD i false)=0:=by omega
    rw[List.countP_eq_zero] at hz;have:=hz i (List.mem_range.2 hlt);simp[hs] at hun this;rw[hun] at this;cases this
  exact⟨hnone,hend listed a w hM hnone⟩
 |succ fuel ih=>
  intro listed a w hc hM;refine⟨hend listed a w hM,fun i hi=> ?_⟩;refine wpOp_mono (fun a' w' hM'=>ih _ a' w' ?_ hM') (mid_step hok hT hM hi);obtain⟨hun,o,ho,_⟩:=mem_ready.1 hi;have hlt:=(Array.getElem?_eq_some_iff.1 ho).1
  have hs:i<listed.size:=by rw[hM.size];exact hlt
  have:=cnt_lt (fun j=> !listed.getD j false) (fun j=> !(listed.setIfInBounds i true).getD j false) (List.range R.size) i (fun x hx=>by
   by_cases e:x=i
   ·subst e;simp[hs] at hx
   ·rw[getD_set_ne false (Ne.symm e)] at hx;exact hx) (List.mem_range.2 hlt) (by simp[hs] at hun ⊢;exact hun) (by simp[hs])
  omega
theorem Ik{id:Nat}{Q:Exit->St->Prop}{s:St}(gI:P.follows .mixedOrders=true){st:Nat->St}{vs:Nat->V}(h0:st 0=s)(hK:Q .normal (st R.size))
 (hT':∀i,i<R.size->∃o,R[i]? =some o/\oo P E R o (st i) (vs i) (st (i+1))){p:Nat}(hok:Sm E R N st p):AW P N (.region id R true) Q s:=by
 intro a w σ β hR;refine wp_region_any gI ?_;have hgd:Grow w σ {w with drawn:=w.drawn+1} σ:=⟨Nat.le_refl _,rfl,rfl,fun _ _=>⟨rfl,rfl⟩,hR.S.live⟩;refine akP (N:=N) (β0:=β) (σ0:=σ) (w0:=w) hok hT' (fun listed a' w' hM hall=> ?_) R.size _ a _ ?_ ?_
 ·obtain⟨m,hm,hmD,σ',β',hsz,hdf,hS,VG,hst,hkp,_⟩:=hM.rep
  have hnP:¬pq E R p listed:=by
   rintro⟨_,_,j,x,hj,hx,_,hl⟩;rw[hall j (Array.getElem?_eq_some_iff.1 hx).1] at hl;cases hl
  have hsm:(st R.size).st=(st m).st:=by
   have:=GA hT' (i:=m) (R.size-m) (by omega) (fun j x h1 h2 h3=>by
    cases tZ:gD E x.op with
    |false=>rfl
    |true=>have:=(hmD j x h3 tZ (fun _=>hnP)).1 (hall j (Array.getElem?_eq_some_iff.1 h3).1);omega)
   rwa [show m+(R.size-m)=R.size from by omega] at this
  rw[h0] at hst hkp;refine⟨st R.size,σ',β',⟨hsz,hdf,by rw[hsm];exact hS,fun t=> ?_⟩,by rw[hsm];exact hst,by rw[hsm];exact hkp.tail,hK⟩;rw[BQ hT' t R.size (Nat.le_refl _),hsm];have:=VG t;unfold wE at this;rw[if_neg (fun h=>hnP h.1)] at this;rw[Bo (E':=fun _=>true) R.size (fun j hj _=>hall j hj)] at this;exact this
 ·calc (List.range R.size).countP _<=(List.range R.size).length:=List.countP_le_length
   _=R.size:=List.length_range
 ·refine⟨by simp,fun i o e ho hE _ _=> ?_,0,Nat.zero_le _,fun i o ho _=> ?_,σ,β,hR.size,hR.defers,by rw[h0];exact hR.S.grow hgd,fun t=> ?_,by rw[h0];exact Step.nU hgd,Keep.refl _ _,fun h=>by have h1:=h.1;rw[getD_replicate_false] at h1;cases h1⟩
  ·rw[getD_replicate_false] at hE;cases hE
  ·rw[getD_replicate_false];simp
  ·have:mP R vs (fun i=>(Array.replicate R.size false).getD i false) (st 0).tm R.size t=look (st 0).tm t:=by
    have:=F3 (R:=R) (vs:=vs) (E:=fun i=>(Array.replicate R.size false).getD i false) (base:=(st 0).tm) (t:=t) (i:=0) R.size (fun j _ _=>by rw[getD_replicate_false];simp);rw[this,Nat.min_zero];rfl
   unfold wE;rw[if_neg (fun h=>by have h1:=h.1.1;rw[getD_replicate_false] at h1;cases h1),this,h0];exact(hR.T t).mono hgd.near (Keep.refl _ _)
theorem akQ{id:Nat}{Q:Exit->St->Prop}{s:St}(gI:P.follows .mixedOrders=true)(hok:BN E R N=true)(h:wz P E R R.toList s (Q .normal)):AW P N (.region id R true) Q s:=by
 obtain⟨st,vs,h0,hK,hT⟩:=M5 R.size 0 (by omega) s h;exact Ik gI h0 hK (fun i hi=>hT i (Nat.zero_le i) hi) (am2 hok)
theorem ag3{id p:Nat}{Q:Exit->St->Prop}{s:St}(gI:P.follows .mixedOrders=true)(hok:Gz E R N p=true)(h:wz P E R R.toList s (Q .normal)):AW P N (.region id R true) Q s:=by
 obtain⟨st,vs,h0,hK,hT⟩:=M5 R.size 0 (by omega) s h;exact Ik gI h0 hK (fun i hi=>hT i (Nat.zero_le i) hi) (akO hok)
theorem aaR{id:Nat}{Q:Exit->St->Prop}{s:St}(gI:P.follows .mixedOrders=true)(hok:Q5 R N=true)(h:wz P (OG R N) R R.toList s (Q .normal)):AW P N (.region id R true) Q s:=by
 unfold Q5 at hok;rw[Bool.or_eq_true] at hok;rcases hok with hok|hok
 ·exact akQ gI hok h
 ·split at hok
  ·exact ag3 gI hok h
  ·cases hok
theorem aaS{v w:V}(h:aaM v w=true){k k':Key}(hv:(∃off,v=.c (.ptr k' off))\/(∃i off,v=.c (.mW k' i off))\/∃r p z i off,v=.c (.xq k' r p z i off))
 (hw:Ls w k):k'≠k:=by
 rintro rfl;rcases hv with⟨_,rfl⟩|⟨_,_,rfl⟩|⟨_,_,_,_,_,rfl⟩<;>rcases hw with⟨_,rfl⟩|⟨_,_,rfl⟩|rfl|rfl|⟨_,_,rfl⟩|⟨_,_,_,_,_,rfl⟩<;>simp[aaM] at h
theorem Ms{o:Oper}{t:TypeId}{a y:Operand}{s s':St}{v:V}(hop:o.op=.store t a y)(h:oo P E R o s v s'){k:Key}
 (hk:∀k',((∃off,ev s.tm a=.c (.ptr k' off))\/(∃i off,ev s.tm a=.c (.mW k' i off))\/∃r p z i off,ev s.tm a=.c (.xq k' r p z i off))->k'≠k):bE s'.st k=bE s.st k:=by
 rcases h with⟨_,_,h⟩|⟨_,_,_,h⟩|⟨_,_,h,_,_⟩
 ·rw[h];cases o.dst<;>rfl
 ·rw[h];cases o.dst<;>rfl
 ·obtain⟨dst,op,ty,pos,after,guard⟩:=o;subst hop;simp only[dF,wO] at h;split at h
  ·rename_i k' off he;split at h
   ·obtain⟨_,_,_,h4⟩:=h;rw[<-h4,mZ];exact fH _ _ _ _ (hk k' (.inl ⟨_,he⟩))
   ·exact h.elim
  ·rename_i k' i off he;split at h
   ·obtain⟨_,_,_,_,h5⟩:=h;rw[<-h5,mZ];exact fH _ _ _ _ (hk k' (.inr (.inl ⟨_,_,he⟩)))
   ·exact h.elim
  ·rename_i k' r p z i off he;split at h
   ·split at h
    ·split at h
     ·obtain⟨_,_,_,_,_,h6⟩:=h;rw[<-h6,mZ];exact fH _ _ _ _ (hk k' (.inr (.inr ⟨_,_,_,_,_,he⟩)))
     ·exact h.elim
    ·exact h.elim
   ·exact h.elim
  ·exact h.elim
theorem Dr{st:Nat->St}{vs:Nat->V}(hT:∀i,i<R.size->∃o,R[i]? =some o/\oo P E R o (st i) (vs i) (st (i+1))){i:Nat}(hi:i<=R.size){a:Operand}(h:settled R i a=true):
 ev (st R.size).tm a=ev (st i).tm a:=by
 cases a with
 |tmp t=>
  show look _ t=look _ t
  have key:∀n,i+n<=R.size->look (st (i+n)).tm t=look (st i).tm t:=by
   intro n
   induction n with
   |zero=>intro _;rfl
   |succ n ih=>
    intro hn;rw[BQ hT t (i+(n+1)) hn,show i+(n+1)=i+n+1 from rfl,mP,if_neg,<-BQ hT t (i+n) (by omega),ih (by omega)];rintro⟨_,hd⟩;have:=List.all_eq_true.1 h (i+n) (List.mem_range.2 (by omega));rw[hd] at this;simp at this;omega
  have:=key (R.size-i) (by omega)
  rwa [show i+(R.size-i)=R.size from by omega] at this
 |_=>rfl
theorem adK{st:Nat->St}{vs:Nat->V}{p:Nat}(hed:∀(i:Nat)(o:Oper),R[i]? =some o->(o.after.toList.all (fun e=> !Region.binds .any e||decide (e.on<i))&&(match o.dst with|some d=>decide (d<N)|none=>true))=true)
 (Aq:∀o,R[p]? =some o->AL o.op=true/\o.guard=none/\(∃d,o.dst=some d)/\∀j y,j≠p->R[j]? =some y->y.apart R o=false->∀i x,i<p->R[i]? =some x->gD E x.op=true->i<j/\((masks R.toList []).getD j 0).testBit i=true)
 (hp:∀(i j:Nat) (x y:Oper),i<j->R[i]? =some x->R[j]? =some y->((masks R.toList []).getD j 0).testBit i=true\/(x.apart R y=true/\(j=p\/((gD E x.op&&gD E y.op)=false/\(mX E x.op=true->yx R i x j y=true)/\(mX E y.op=true->yx R j y i x=true)))))
 (hT:∀i,i<R.size->∃o,R[i]? =some o/\oo P E R o (st i) (vs i) (st (i+1)))(hl:UD E R (st R.size).tm=true):Sm E R N st p:=by
 refine⟨?_,?_,?_,?_,Aq⟩
 ·intro i o e ho he hb;have h2:=hed i o ho;simp only[Bool.and_eq_true] at h2;have h3:=List.all_eq_true.1 h2.1 e (by simpa using he);simpa [hb] using h3
 ·intro i o ho d hd;have h2:=hed i o ho;simp only[Bool.and_eq_true,hd] at h2;simpa using h2.2
 ·intro i j x y hij hx hy hc;rcases hp i j x y hij hx hy with h|⟨h1,h⟩
  ·exact .inl h
  ·unfold oq at hc;rw[h1] at hc;simp only[Bool.not_true,Bool.false_or] at hc;rcases h with h|⟨h,_⟩
   ·rw[Bool.and_eq_true] at hc;exact .inr ⟨h,hc.1,h1⟩
   ·rw[hc] at h;cases h
 ·intro i j x o hij hx ho hs hD hc
  have hjp:j≠p:=fun e=>by
   subst e;have:=(wQ (E:=E) (Aq o ho).1).1;rw[hD] at this;cases this
  have Sn:i≠p:=fun e=>by
   subst e;have:=(wQ (E:=E) (Aq x hx).1).2.1;rw[hs] at this;cases this
  cases hb:uV R i j with
  |true=>exact .inl rfl
  |false=>
   refine .inr ?_;rintro k ⟨_,z,hz,hk⟩;have hi:i<R.size:=(Array.getElem?_eq_some_iff.1 hx).1;have hj:j<R.size:=(Array.getElem?_eq_some_iff.1 ho).1
   have hlo:yx R i x j o=true:=by
    unfold uV at hb;by_cases e:i<j
    ·rw[if_pos e] at hb;rcases hp i j x o e hx ho with h|⟨_,h|⟨_,h,_⟩⟩
     ·rw[hb] at h;cases h
     ·exact absurd h hjp
     ·exact h hs
    ·rw[if_neg e] at hb;rcases hp j i o x (by omega) ho hx with h|⟨_,h|⟨_,_,h⟩⟩
     ·rw[hb] at h;cases h
     ·exact absurd h Sn
     ·exact h hs
   unfold yx at hlo;rw[hc,Bool.false_or] at hlo;split at hlo
   ·rename_i t a y hop;rw[Bool.and_eq_true] at hlo
    have hz':z∈o.op.operands.toList:=by simpa using hz
    have hsz:=List.all_eq_true.1 hlo.2 z hz';have h1:=List.all_eq_true.1 hl i (List.mem_range.2 hi);rw[hx] at h1;simp only[hs,Bool.not_true,Bool.false_or,hop] at h1;have h2:=List.all_eq_true.1 h1 j (List.mem_range.2 hj);rw[ho] at h2;simp only[hb,hD,hc,Bool.false_or] at h2;have h3:=List.all_eq_true.1 h2 z hz';obtain⟨x',hx',ht⟩:=hT i hi;rw[hx] at hx';cases hx';refine Ms hop ht fun k' hk'=> ?_;rw[Dr hT (by omega) hlo.1,Dr hT (by omega) hsz] at h3;exact aaS h3 hk' hk
   ·cases hlo
theorem OJ{f:Nat->Nat->Oper->Oper->Bool}(h:((List.range R.size).all fun j=>
 (match R[j]? with
  |some o=>o.after.toList.all (fun e=> !Region.binds .any e||decide (e.on<j))&&(match o.dst with|some d=>decide (d<N)|none=>true)
  |none=>true)&&
 (List.range j).all fun i=>
   match R[i]?,R[j]? with
   |some x,some y=>((masks R.toList []).getD j 0).testBit i|| !(f i j x y)
   |_,_=>true)=true):
 (∀(i:Nat) (o:Oper),R[i]? =some o->(o.after.toList.all (fun e=> !Region.binds .any e||decide (e.on<i))&&(match o.dst with|some d=>decide (d<N)|none=>true))=true)/\
 ∀(i j:Nat)(x y:Oper),i<j->R[i]? =some x->R[j]? =some y->((masks R.toList []).getD j 0).testBit i=true\/f i j x y=false:=by
 refine⟨fun i o ho=> ?_,fun i j x y hij hx hy=> ?_⟩
 ·have hj:i<R.size:=(Array.getElem?_eq_some_iff.1 ho).1;have h1:=List.all_eq_true.1 h i (List.mem_range.2 hj);rw[Bool.and_eq_true,ho] at h1;exact h1.1
 ·have hj:j<R.size:=(Array.getElem?_eq_some_iff.1 hy).1;have h1:=List.all_eq_true.1 h j (List.mem_range.2 hj);rw[Bool.and_eq_true] at h1;have h2:=List.all_eq_true.1 h1.2 i (List.mem_range.2 hij);rw[hx,hy] at h2;simp only[Bool.or_eq_true,Bool.not_eq_true'] at h2;exact h2
theorem ag4{st:Nat->St}{vs:Nat->V}(hok:Lu E R N=true)(hT:∀i,i<R.size->∃o,R[i]? =some o/\oo P E R o (st i) (vs i) (st (i+1)))(hl:UD E R (st R.size).tm=true):Sm E R N st R.size:=by
 obtain⟨h1,h2⟩:=OJ (f:=fun i j x y=>oq E R x y||(mX E x.op&& !(yx R i x j y))||(mX E y.op&& !(yx R j y i x))) hok;refine adK h1 (fun o ho=>by rw[Array.getElem?_eq_none (Nat.le_refl _)] at ho;cases ho) (fun i j x y hij hx hy=>(h2 i j x y hij hx hy).imp id fun h=> ?_) hT hl;simp only[oq,Bool.or_eq_false_iff,Bool.not_eq_false',Bool.and_eq_false_imp] at h;obtain⟨⟨⟨q1,q2⟩,q3⟩,q4⟩:=h;refine⟨q1,.inr ⟨?_,q3,q4⟩⟩
 cases hx:gD E x.op with
 |false=>rfl
 |true=>rw[q2 hx];rfl
theorem anb{id:Nat}{Q:Exit->St->Prop}{s:St}(gI:P.follows .mixedOrders=true)(hok:Lu E R N=true)(h:wz P E R R.toList s (fun s'=>UD E R s'.tm=true/\Q .normal s')):AW P N (.region id R true) Q s:=by
 obtain⟨st,vs,h0,hK,hT⟩:=M5 R.size 0 (by omega) s h;have hT':=fun i hi=>hT i (Nat.zero_le i) hi;exact Ik gI h0 hK.2 hT' (ag4 hok hT' hK.1)
end
section
variable {P:Program} {w w':World} {σ σ':Nat->Nat} {S S':Store} {β β':Hs} {N:Nat} {s:St} {a:Act}
theorem lU{c:Code}{Q:Exit->St->Prop}{s s':St}(h:AW P N c Q s')
 (hg:∀(a:Act) (w:World) (σ:Nat->Nat) (β:Hs),kQ N s a w σ β->∃σ' β',kQ N s' a w σ' β'/\Step s.st β σ w s'.st β' σ' w/\Keep (gW s.st) (gW β) (gW s'.st) (gW β')):AW P N c Q s:=by
 intro a w σ β hR;obtain⟨σ',β',hR',hst,hk⟩:=hg a w σ β hR;refine wp_mono (h a w σ' β' hR') ?_;rintro e a' w' ⟨s'',D5,β'',k1,k2,k3,k4⟩;exact⟨s'',D5,β'',k1,hst.trans k2,hk.trans k3,k4⟩
def ig(N:Nat)(s s':St):Prop:=∀(a:Act)(w:World)(σ:Nat->Nat)(β:Hs),kQ N s a w σ β->∃σ' β',kQ N s' a w σ' β'/\Step s.st β σ w s'.st β' σ' w/\Keep (gW s.st) (gW β) (gW s'.st) (gW β')
theorem ig.refl(N:Nat)(s:St):ig N s s:=fun a w σ β hR=>⟨σ,β,hR,Step.nU (Grow.refl hR.S.live),Keep.refl _ _⟩
theorem ig.trans{s s' s'':St}(h:ig N s s')(k:ig N s' s''):ig N s s'':=fun a w σ β hR=>by
 obtain⟨σ1,β1,r1,st1,k1⟩:=h a w σ β hR;obtain⟨σ2,β2,r2,st2,k2⟩:=k a w σ1 β1 r1;exact⟨σ2,β2,r2,st1.trans st2,k1.trans k2⟩
theorem M6{tm tm':List (Nat×V)}(hl:∀t,look tm' t=look tm t\/look tm' t=.any):ig N ⟨tm,S⟩ ⟨tm',S⟩:=
 fun a w σ β hR=>⟨σ,β,⟨hR.size,hR.defers,hR.S,fun t=>by
  rcases hl t with e|e
  ·show dM w σ S β (look tm' t) _;rw[e];exact hR.T t
  ·show dM w σ S β (look tm' t) _;rw[e];trivial⟩,Step.nU (Grow.refl hR.S.live),Keep.refl _ _⟩
theorem aj6{c:Code}{Q:Exit->St->Prop}{tm tm':List (Nat×V)}(h:AW P N c Q ⟨tm',S⟩)(hl:∀t,look tm' t=look tm t\/look tm' t=.any):AW P N c Q ⟨tm,S⟩:=
 lU h fun a w σ β hR=>⟨σ,β,⟨hR.size,hR.defers,hR.S,fun t=>by
  rcases hl t with e|e
  ·show dM w σ S β (look tm' t) _;rw[e];exact hR.T t
  ·show dM w σ S β (look tm' t) _;rw[e];trivial⟩,Step.nU (Grow.refl hR.S.live),Keep.refl _ _⟩
def C.uf:C->C
 | .bI _ es=>.d (.sl es)
 | .bF es=>.d (.sl es)
 |c=>c
def V.uf:V->V
 | .c x=>.c x.uf
 | .agg cs=>.agg (cs.map C.uf)
 |v=>v
theorem VH{c:C}{v:Value}(h:iG w σ S β c v):iG w σ S β c.uf v:=by
 cases c with
 |bI k es=>exact h.1
 |bF es=>exact h.1
 |_=>exact h
theorem VI{x:V}{v:Value}(h:dM w σ S β x v):dM w σ S β x.uf v:=by
 cases x with
 |c x=>exact⟨VH h.1,h.2⟩
 |agg cs=>
  obtain⟨ar,ha,hl,hc⟩:=h;refine⟨ar,ha,by simpa using hl,fun j x hx=> ?_⟩;rw[List.getElem?_map] at hx
  cases hcj:cs[j]? with
  |none=>rw[hcj] at hx;cases hx
  |some y=>
   rw[hcj] at hx;cases hx;obtain⟨v,hv,hr,ho⟩:=hc j y hcj;exact⟨v,hv,VH hr,ho⟩
 |_=>exact h
theorem bX.weaken{f:FuncId}{args args':List V}{post:V->Store->Prop}(h:bX P f args' S post)(hl:args.length=args'.length)
 (hw:∀(j:Nat) (x y:V),args[j]? =some x->args'[j]? =some y->∀w σ β v,dM w σ S β x v->dM w σ S β y v):bX P f args S post:=by
 refine⟨h.1,fun w σ β vs hS hv=>h.2 w σ β vs hS ⟨by rw[<-hl];exact hv.1,fun j y hy=> ?_⟩⟩;have hj:=(List.getElem?_eq_some_iff.1 hy).1;have hx:args[j]? =some (args[j]'(by omega)):=List.getElem?_eq_getElem (by omega);obtain⟨v,h1,h2⟩:=hv.2 j _ hx;exact⟨v,h1,hw j _ y hx hy w σ β v h2⟩
theorem bX.uf{f:FuncId}{args:List V}{post:V->Store->Prop}(h:bX P f (args.map V.uf) S post):bX P f args S post:=
 h.weaken (by simp) fun j x y hx hy w σ β v hr=>by
  rw[List.getElem?_map,hx] at hy;cases hy;exact VI hr
theorem bX.mono{f:FuncId}{args:List V}{post post':V->Store->Prop}(h:bX P f args S post)(hp:∀r S',post r S'->post' r S'):bX P f args S post':=
 ⟨h.1,fun w σ β vs hS hv=>(h.2 w σ β vs hS hv).mono fun e w' ⟨v,r,S',σ',β',h1,h2,h3,h4,h5,h6⟩=>⟨v,r,S',σ',β',h1,h2,h3,h4,h5,hp _ _ h6⟩⟩
theorem Il{f:FuncId}{args:List V}{s:St}{dst:Option Nat}{K:St->Prop}{r:V}(h:aF P f (args.map V.uf) r)(hK:K (St.put s dst r)):Bl P f args s dst K:=
 .inl ⟨_,(h s.st).uf,fun r' S' hp=>by rw[hp.1,hp.2];exact hK⟩
theorem qG{c:Code}{Q:Exit->St->Prop}{tm:List (Nat×V)}{own:List Obj}{Ω:Store}(t bg:Nat)(es:List (List D))(hv:look tm t=.c (.bF es))(hes:∀e∈es,e.length=bg)
 (h:AW P N c Q ⟨(t,.c (.bI (0,own.length) es))::tm,(own++[.tok bg es])::Ω⟩):AW P N c Q ⟨tm,own::Ω⟩:=by
 refine lU h fun a w σ β hR=> ?_;obtain⟨bo,bΩ,rfl,hlen⟩:=frames hR;have ht:=hR.T t;rw[hv] at ht;obtain⟨⟨hd,ad,n,hval⟩,hone⟩:=ht
 have hn:n=es.length:=by rw[hval] at hd;cases hd<;>rfl
 have hg:Grow w σ w σ:=Grow.refl hR.S.live
 obtain⟨hS',hk,hst⟩:=hR.S.push (o:=.tok bg es) (h:=a.tmps.getD t undef) hg hlen ⟨hd,hes,ad,n,by rw[hval,hn],by omega,.inl hn⟩ (fun b hb=>by
  rw[hval,hn] at hb
  cases ad<;>simp[owns,blk] at hb)
 refine⟨σ,_,⟨hR.size,hR.defers,hS',fun u=> ?_⟩,hst,Keep.refl _ _⟩;show dM w σ _ _ (if t=u then _ else look tm u) _;by_cases e:t=u
 ·subst e;rw[if_pos rfl];refine⟨⟨hd,_,cu _ _ _,fun a b e=> ?_⟩,hone⟩;obtain⟨_,rfl⟩:=lT (lab:=none) e;exact⟨Nat.le_refl _,fun _=>by rw[<-hlen,cu]⟩
 ·rw[if_neg e];exact(hR.T u).mono (eu.refl _ _) hk
theorem kR{c:Code}{Q:Exit->St->Prop}{tm:List (Nat×V)}{own:List Obj}{Ω:Store}(n t bg:Nat)(es:List (List D))(hv:look tm t=.c (.lG n es)\/(look tm t=.c (.bF es)/\es=[]))(hes:∀e∈es,e.length=bg)
 (h:AW P N c Q ⟨(t,.c (.bI (0,own.length) es))::tm,(own++[.eG n bg es])::Ω⟩):AW P N c Q ⟨tm,own::Ω⟩:=by
 refine lU h fun a w σ β hR=> ?_;obtain⟨bo,bΩ,rfl,hlen⟩:=frames hR;have ht:=hR.T t
 have hl:∃ad,a.tmps.getD t undef=.slice ad es.length es.length/\dK w σ (.ol n es) (a.tmps.getD t undef):=by
  rcases hv with hv|⟨hv,rfl⟩
  ·rw[hv] at ht;obtain⟨⟨hd,ad,m,hval⟩,_⟩:=ht
   have hn:m=es.length:=by
    have:=um hd;rw[hval] at this;cases this<;>rfl
   exact⟨ad,by rw[hval,hn],hd⟩
  ·rw[hv] at ht;obtain⟨⟨hd,ad,m,hval⟩,_⟩:=ht
   have hn:m=0:=by rw[hval] at hd;cases hd<;>rfl
   subst hn;exact⟨ad,hval,by rw[hval];exact .yJ _ _ _⟩
 obtain⟨ad,hval,hol⟩:=hl;have hd:=um hol;have hg:Grow w σ w σ:=Grow.refl hR.S.live
 obtain⟨hS',hk,hst⟩:=hR.S.push (o:=.eG n bg es) (h:=a.tmps.getD t undef) hg hlen ⟨hd,hes,ad,es.length,hval,Nat.le_refl _,.inl ⟨rfl,hol⟩⟩ (fun b hb=>by
  rw[hval] at hb
  cases ad<;>simp[owns,blk] at hb)
 refine⟨σ,_,⟨hR.size,hR.defers,hS',fun u=> ?_⟩,hst,Keep.refl _ _⟩;show dM w σ _ _ (if t=u then _ else look tm u) _;by_cases e:t=u
 ·subst e;rw[if_pos rfl];refine⟨⟨hd,_,cu _ _ _,fun a b e=> ?_⟩,by rw[hval];rfl⟩;obtain⟨_,rfl⟩:=lT (lab:=some n) e;exact⟨Nat.le_refl _,fun _=>by rw[<-hlen,cu]⟩
 ·rw[if_neg e];exact(hR.T u).mono (eu.refl _ _) hk
theorem Q6{c:Code}{Q:Exit->St->Prop}{tm:List (Nat×V)}{Ω:Store}(n:Nat)(h:AW P N c Q ⟨tm,[.seed n]::Ω⟩):AW P N c Q ⟨tm,[]::Ω⟩:=by
 refine lU h fun a w σ β hR=> ?_;obtain⟨bo,bΩ,rfl,hlen⟩:=frames hR;obtain⟨hS',hk,hst⟩:=hR.S.push (o:=.seed n) (h:=undef) (Grow.refl hR.S.live) hlen trivial (fun b hb=>by cases hb);exact⟨σ,_,⟨hR.size,hR.defers,hS',fun u=>(hR.T u).mono (eu.refl _ _) hk⟩,hst,Keep.refl _ _⟩
theorem El{tm:List (Nat×V)}{own:List Obj}{Ω:Store}{m:Nat}(n:Nat):ig N ⟨tm,(.seed m::own)::Ω⟩ ⟨tm,(.seed n::own)::Ω⟩:=by
 intro a w σ β hR;obtain⟨bo,bΩ,rfl,hlen⟩:=frames hR;have h0:bE ((Obj.seed m::own)::Ω) (0,0)=some (.seed m):=rfl;obtain⟨h,hh,_⟩:=hR.S.obj (0,0) _ h0;obtain⟨hS',hk,hst⟩:=hR.S.set (o':=.seed n) (h':=h) h0 hh (Nat.le_refl _) rfl rfl (eu.refl _ _) hR.S.live (fun _ _ _=>⟨rfl,rfl⟩) (.inr ⟨n,rfl⟩) trivial (fun b hb=>by cases hb);have e:bG (bo::bΩ) (0,0) h=bo::bΩ:=JH h _ _ _ hh;rw[e] at hS' hk hst;exact⟨σ,_,⟨hR.size,hR.defers,hS',fun u=>(hR.T u).mono (eu.refl _ _) hk⟩,hst,Keep.refl _ _⟩
theorem nY{c:Code}{Q:Exit->St->Prop}{tm:List (Nat×V)}{own:List Obj}{Ω:Store}{m:Nat}(n:Nat)(h:AW P N c Q ⟨tm,(.seed n::own)::Ω⟩):AW P N c Q ⟨tm,(.seed m::own)::Ω⟩:=lU h (El n)
def jY(n:Nat)(k:Key):Bool:=decide (0<k.1)||decide (k.2<n)
def C.refs(n:Nat):C->Bool
 | .bI k _=>jY n k
 | .ptr k _=>jY n k
 | .mW k _ _=>jY n k
 | .jQ k=>jY n k
 | .mp k=>jY n k
 | .fn _ caps=>caps.all fun x=>jY n x.1
 | .xp k _ _=>jY n k
 | .xq k _ _ _ _ _=>jY n k
 |_=>true
def V.refs(n:Nat):V->Bool
 | .c x=>x.refs n
 | .agg cs=>cs.all (C.refs n)
 | .fF xs=>xs.all fun y=>y.2.all (C.refs n)
 | .any=>true
def Obj.refs(n:Nat):Obj->Bool
 | .box cs=>cs.all (C.refs n)
 |_=>true
theorem jR{α:Type}{own:List α}{Ω:List (List α)}{n:Nat}{k:Key}(h:jY n k=true):bE (own.take n::Ω) k=bE (own::Ω) k:=by
 obtain⟨l,j⟩:=k
 cases l with
 |zero=>
  simp[jY] at h;rw[bK,bK,List.getElem?_take_of_lt h]
 |succ l=>rw[cZ,cZ]
theorem oD{α:Type}{own:List α}{Ω:List (List α)}{n:Nat}{k:Key}{o:α}(h:bE (own.take n::Ω) k=some o):bE (own::Ω) k=some o/\jY n k=true:=by
 obtain⟨l,j⟩:=k
 cases l with
 |zero=>
  rw[bK] at h ⊢;have hj:=(List.getElem?_eq_some_iff.1 h).1;simp at hj;rw[List.getElem?_take_of_lt (by omega)] at h;exact⟨h,by simp[jY];omega⟩
 |succ l=>rw[cZ] at h ⊢;exact⟨h,by simp[jY]⟩
theorem JZ{own:List Obj}{Ω:Store}{bo:List Value}{bΩ:Hs}{n:Nat}{c:C}{v:Value}(hr:c.refs n=true)(h:iG w σ (own::Ω) (bo::bΩ) c v):iG w σ (own.take n::Ω) (bo.take n::bΩ) c v:=by
 cases c with
 |d x=>exact h
 |any=>exact h
 |bF es=>exact h
 |nG cs=>exact h
 |bI k es=>
  obtain⟨h1,o,ho,h2⟩:=h;exact⟨h1,o,(jR hr).trans ho,fun a b e=>by rw[jR hr];exact h2 a b e⟩
 |ptr k off=>
  obtain⟨o,ho,h2⟩:=h;exact⟨o,(jR hr).trans ho,fun a e=>by rw[jR hr];exact h2 a e⟩
 |mW k i off=>
  obtain⟨o,ho,h2⟩:=h;exact⟨o,(jR hr).trans ho,fun a b e=>by rw[jR hr];exact h2 a b e⟩
 |jQ k=>
  obtain⟨o,ho,h2⟩:=h;exact⟨o,(jR hr).trans ho,fun a b e=>by rw[jR hr];exact h2 a b e⟩
 |mp k=>
  obtain⟨o,ho,h2⟩:=h;exact⟨o,(jR hr).trans ho,fun a e=>by rw[jR hr];exact h2 a e⟩
 |fn f caps=>
  obtain⟨vs,hv,hl,h2⟩:=h;refine⟨vs,hv,hl,fun j k off e=> ?_⟩;obtain⟨u,hu,h1c,o,ho,h3⟩:=h2 j k off e;have hk:jY n k=true:=List.all_eq_true.1 hr (k,off) (List.mem_of_getElem? e);exact⟨u,hu,h1c,o,(jR hk).trans ho,fun cs e=>by rw[jR hk];exact h3 cs e⟩
 |lG m es=>exact h
 |xp k r p=>
  obtain⟨o,ho,h2⟩:=h;exact⟨o,(jR hr).trans ho,fun a e=>by rw[jR hr];exact h2 a e⟩
 |xq k r p z i off=>
  obtain⟨o,ho,h2⟩:=h;exact⟨o,(jR hr).trans ho,fun a e=>by rw[jR hr];exact h2 a e⟩
theorem Im{own:List Obj}{Ω:Store}{bo:List Value}{bΩ:Hs}{n:Nat}{cs:List C}{vs:List Value}(hr:cs.all (C.refs n)=true)(h:gu w σ (own::Ω) (bo::bΩ) cs vs):gu w σ (own.take n::Ω) (bo.take n::bΩ) cs vs:=
 ⟨h.1,fun j x hx=>let⟨v,hv,hc,ho⟩:=h.2 j x hx;⟨v,hv,JZ (List.all_eq_true.1 hr x (List.mem_of_getElem? hx)) hc,ho⟩⟩
theorem adL{own:List Obj}{Ω:Store}{bo:List Value}{bΩ:Hs}{n:Nat}{x:V}{v:Value}(hr:x.refs n=true)(h:dM w σ (own::Ω) (bo::bΩ) x v):dM w σ (own.take n::Ω) (bo.take n::bΩ) x v:=by
 cases x with
 |c x=>exact⟨JZ hr h.1,h.2⟩
 |agg cs=>obtain⟨ar,ha,hc⟩:=h;exact⟨ar,ha,Im hr hc⟩
 |fF xs=>
  obtain⟨ar,ha,hl,h2⟩:=h;refine⟨ar,ha,hl,fun j y hy=> ?_⟩;obtain⟨u,hu,h3⟩:=h2 j y hy;have hy':y.2.all (C.refs n)=true:=List.all_eq_true.1 hr y (List.mem_of_getElem? hy);refine⟨u,hu,?_⟩;obtain⟨b,cs⟩:=y
  cases b with
  |true=>obtain⟨a',e,hcs⟩:=h3;exact⟨a',e,Im hy' hcs⟩
  |false=>
   obtain⟨x,e,hx,ho⟩:=h3;subst e;simp at hy';exact⟨x,rfl,JZ hy' hx,ho⟩
 |any=>trivial
def iN(n:Nat)(tm:List (Nat×V)):Bool:=tm.all fun x=>x.2.refs n
theorem Sq{n:Nat}:∀(tm:List (Nat×V))(t:Nat),iN n tm=true->(look tm t).refs n=true
 |[],_,_=>rfl
 |(x,v)::tm,t,h=>by
  simp only[iN,List.all_cons,Bool.and_eq_true] at h;rw[look];split
  ·exact h.1
  ·exact Sq tm t h.2
theorem OL{tm:List (Nat×V)}{own:List Obj}{Ω:Store}(n:Nat)(h1:iN n tm=true)(h2:(own.take n).all (Obj.refs n)=true):ig N ⟨tm,own::Ω⟩ ⟨tm,own.take n::Ω⟩:=by
 intro a w σ β hR;obtain⟨bo,bΩ,rfl,hlen⟩:=frames hR
 have hown:∀b,Own (own.take n::Ω) (bo.take n::bΩ) b->Own (own::Ω) (bo::bΩ) b:=by
  rintro b ⟨k,o,hv,e1,e2,e3⟩;exact⟨k,o,hv,(oD e1).1,(oD e2).1,e3⟩
 refine⟨σ,bo.take n::bΩ,⟨hR.size,hR.defers,⟨fun k o ho=> ?_,fun k k' o o' h1 h2 b e1 e2 e3 e4 e5 e6=> ?_,⟨by have:=hR.S.shape.1;simpa using this,fun l fr hl=> ?_⟩,hR.S.live,hR.S.wh⟩,fun t=>adL (Sq tm t h1) (hR.T t)⟩,
  ⟨Nat.le_refl _,rfl,rfl,fun _ _ _=>⟨rfl,rfl⟩,eu.refl _ _,fun b hb=>.inl (hown b hb)⟩,Keep.refl _ _⟩
 ·obtain⟨ho',hk⟩:=oD ho;obtain⟨hv,hh,hr⟩:=hR.S.obj k o ho';refine⟨hv,(jR hk).trans hh,?_⟩;obtain⟨l,j⟩:=k
  cases l with
  |zero=>
   cases o with
   |dead=>trivial
   |box cs=>
    obtain⟨b,cc,t,e,hb,hs,hc⟩:=hr;rw[bK] at ho;have hcs:cs.all (C.refs n)=true:=List.all_eq_true.1 h2 (.box cs) (List.mem_of_getElem? ho);exact⟨b,cc,t,e,hb,hs,Im hcs hc⟩
   |tok=>exact hr
   |fO=>exact hr
   |mp=>exact hr
   |eG=>exact hr
   |seed=>exact hr
   |xf=>exact hr
  |succ l=>exact hr
 ·exact hR.S.apart k k' o o' h1 h2 b (oD e1).1 (oD e2).1 e3 (oD e4).1 (oD e5).1 e6
 ·cases l with
  |zero=>
   simp at hl;subst hl;exact⟨_,rfl,by simp[hlen]⟩
  |succ l=>exact hR.S.shape.2 (l+1) fr hl
def C.oJ(j:Nat)(es:List (List D)):C->C
 | .jQ (0,i)=>if i=j then .d (.sl es) else .jQ (0,i)
 |c=>c
def V.oJ(j:Nat)(es:List (List D)):V->V
 | .c x=>.c (x.oJ j es)
 | .agg cs=>.agg (cs.map (C.oJ j es))
 | .fF xs=>.fF (xs.map fun y=>(y.1,y.2.map (C.oJ j es)))
 | .any=>.any
def Obj.oJ(j:Nat)(es:List (List D)):Obj->Obj
 | .box cs=>.box (cs.map (C.oJ j es))
 |o=>o
theorem Io{f:V->V}(hf:f .any=.any):∀(tm:List (Nat×V))(t:Nat),look (tm.map fun x=>(x.1,f x.2)) t=f (look tm t)
 |[],_=>hf.symm
 |(x,v)::tm,t=>by
  show(if x=t then f v else look (tm.map fun x=>(x.1,f x.2)) t)=f (if x=t then v else look tm t);split
  ·rfl
  ·exact Io hf tm t
def V.mE(f:C->C):V->V
 | .c x=>.c (f x)
 | .agg cs=>.agg (cs.map f)
 | .fF xs=>.fF (xs.map fun y=>(y.1,y.2.map f))
 | .any=>.any
def Obj.mE(f:C->C):Obj->Obj
 | .box cs=>.box (cs.map f)
 |o=>o
theorem zV{f:C->C}{own:List Obj}{j i:Nat}:((own.map (Obj.mE f)).set j .dead)[i]? =if i=j then(if j<own.length then some .dead else none) else(own[i]?).map (Obj.mE f):=by
 rw[List.getElem?_set];by_cases e:j=i
 ·subst e;simp
 ·rw[if_neg e,if_neg (Ne.symm e),List.getElem?_map]
theorem y9{f:C->C}{own:List Obj}{Ω:Store}{j:Nat}{oj:Obj}(hj:own[j]? =some oj){k:Key}{o:Obj}(hk:bE (own::Ω) k=some o):
 ∃o',bE ((own.map (Obj.mE f)).set j .dead::Ω) k=some o'/\((k=(0,j)/\o'=.dead)\/(k≠(0,j)/\(o'=o\/o'=o.mE f))):=by
 obtain⟨l,i⟩:=k
 cases l with
 |zero=>
  rw[bK] at hk;by_cases e:i=j
  ·subst e;refine⟨.dead,?_,.inl ⟨rfl,rfl⟩⟩;rw[bK,zV,if_pos rfl,if_pos (List.getElem?_eq_some_iff.1 hj).1]
  ·refine⟨o.mE f,?_,.inr ⟨fun x=>e (by cases x;rfl),.inr rfl⟩⟩;rw[bK,zV,if_neg e,hk];rfl
 |succ l=>exact⟨o,by rw[cZ] at hk ⊢;exact hk,.inr ⟨by simp,.inl rfl⟩⟩
theorem uL{f:C->C}{o o':Obj}(h:o'=o\/o'=o.mE f):(∀z es,uS o' z es->uS o z es)/\(∀z es,o'=.fO z es->o=.fO z es)/\(∀m,o'=.mp m->o=.mp m)/\(∀cs,o'=.box cs->∃cs',o=.box cs')/\(∀rs,o'=.xf rs->o=.xf rs):=by
 rcases h with rfl|rfl
 ·exact⟨fun _ _ h=>h,fun _ _ h=>h,fun _ h=>h,fun cs h=>⟨cs,h⟩,fun _ h=>h⟩
 ·cases o<;>simp[Obj.mE,uS]
theorem OM{f:C->C}{own:List Obj}{Ω:Store}{bo:List Value}{bΩ:Hs}{j:Nat}{oj:Obj}(hj:own[j]? =some oj)(hn:eu w σ w σ'){c:C}{v:Value}(hc:iG w σ (own::Ω) (bo::bΩ) c v):
 iG w σ' ((own.map (Obj.mE f)).set j .dead::Ω) (bo::bΩ) c v:=by
 cases c with
 |d x=>exact dK.mono hn hc
 |any=>trivial
 |bF es'=>exact⟨dK.mono hn hc.1,hc.2⟩
 |lG n es'=>exact⟨dK.mono hn hc.1,hc.2⟩
 |nG cs=>obtain⟨ad,h1,h2⟩:=hc;exact⟨ad,h1,h2.mono hn⟩
 |bI k es'=>
  obtain⟨h1,o,ho,h2⟩:=hc;obtain⟨o',ho',hcase⟩:=y9 hj ho;refine⟨dK.mono hn h1,o',ho',fun z e4 e=> ?_⟩;rcases hcase with⟨_,e'⟩|⟨_,e'⟩
  ·rw[e'] at e;rcases e with e|⟨_,e⟩<;>cases e
  ·exact h2 _ _ ((uL e').1 _ _ e)
 |ptr k off=>
  obtain⟨o,ho,h2⟩:=hc;obtain⟨o',ho',hcase⟩:=y9 hj ho;refine⟨o',ho',fun cs e=> ?_⟩;rcases hcase with⟨_,e'⟩|⟨_,e'⟩
  ·rw[e'] at e;cases e
  ·obtain⟨cs',e''⟩:=(uL e').2.2.2.1 _ e;exact h2 _ e''
 |mW k i off=>
  obtain⟨o,ho,h2⟩:=hc;obtain⟨o',ho',hcase⟩:=y9 hj ho;refine⟨o',ho',fun z e4 e=> ?_⟩;rcases hcase with⟨_,e'⟩|⟨_,e'⟩
  ·rw[e'] at e;cases e
  ·exact h2 _ _ ((uL e').2.1 _ _ e)
 |jQ k=>
  obtain⟨o,ho,h2⟩:=hc;obtain⟨o',ho',hcase⟩:=y9 hj ho;refine⟨o',ho',fun z e4 e=> ?_⟩;rcases hcase with⟨_,e'⟩|⟨_,e'⟩
  ·rw[e'] at e;cases e
  ·exact h2 _ _ ((uL e').2.1 _ _ e)
 |mp k=>
  obtain⟨o,ho,h2⟩:=hc;obtain⟨o',ho',hcase⟩:=y9 hj ho;refine⟨o',ho',fun m e=> ?_⟩;rcases hcase with⟨_,e'⟩|⟨_,e'⟩
  ·rw[e'] at e;cases e
  ·exact h2 _ ((uL e').2.2.1 _ e)
 |fn f caps=>
  obtain⟨vs,hv,hl,h2⟩:=hc;refine⟨vs,hv,hl,fun i k off e=> ?_⟩;obtain⟨u,hu,h1c,o,ho,h3⟩:=h2 i k off e;obtain⟨o',ho',hcase⟩:=y9 hj ho;refine⟨u,hu,h1c,o',ho',fun cs e=> ?_⟩;rcases hcase with⟨_,e'⟩|⟨_,e'⟩
  ·rw[e'] at e;cases e
  ·obtain⟨cs',e''⟩:=(uL e').2.2.2.1 _ e;exact h3 _ e''
 |xp k r p=>
  obtain⟨o,ho,h2⟩:=hc;obtain⟨o',ho',hcase⟩:=y9 hj ho;refine⟨o',ho',fun rs e=> ?_⟩;rcases hcase with⟨_,e'⟩|⟨_,e'⟩
  ·rw[e'] at e;cases e
  ·exact h2 _ ((uL e').2.2.2.2 _ e)
 |xq k r p z i off=>
  obtain⟨o,ho,h2⟩:=hc;obtain⟨o',ho',hcase⟩:=y9 hj ho;refine⟨o',ho',fun rs e=> ?_⟩;rcases hcase with⟨_,e'⟩|⟨_,e'⟩
  ·rw[e'] at e;cases e
  ·exact h2 _ ((uL e').2.2.2.2 _ e)
theorem VJ{f:C->C}{tm:List (Nat×V)}{own:List Obj}{Ω:Store}{bo:List Value}{bΩ:Hs}(j:Nat){oj:Obj}{hj:Value}(hoj:own[j]? =some oj)(hbj:bo[j]? =some hj)(hR:kQ N ⟨tm,own::Ω⟩ a w σ (bo::bΩ))(hlen:bo.length=own.length)
 (hn:eu w σ w σ')(hch:∀x,¬owns oj hj x->σ' x=σ x)(hlive:∀x,x<w.heap.size\/σ' x=0)
 (hC:∀(c:C) (v:Value),iG w σ (own::Ω) (bo::bΩ) c v->iG w σ' ((own.map (Obj.mE f)).set j .dead::Ω) (bo::bΩ) (f c) v):
 kQ N ⟨tm.map fun x=>(x.1,x.2.mE f),(own.map (Obj.mE f)).set j .dead::Ω⟩ a w σ' (bo::bΩ)/\Step (own::Ω) (bo::bΩ) σ w ((own.map (Obj.mE f)).set j .dead::Ω) (bo::bΩ) σ' w:=by
 have UE:∀k o,bE ((own.map (Obj.mE f)).set j .dead::Ω) k=some o->(k=(0,j)/\o=.dead)\/(k≠(0,j)/\∃o0,bE (own::Ω) k=some o0/\(o=o0\/o=o0.mE f)/\(0<k.1->o=o0)/\∀h b,owns o h b<->owns o0 h b):=by
  intro k o hk;obtain⟨l,i⟩:=k
  cases l with
  |zero=>
   rw[bK,zV] at hk;by_cases e:i=j
   ·subst e;rw[if_pos rfl,if_pos (List.getElem?_eq_some_iff.1 hoj).1] at hk;cases hk;exact .inl ⟨rfl,rfl⟩
   ·rw[if_neg e] at hk
    cases ho:own[i]? with
    |none=>rw[ho] at hk;cases hk
    |some o0=>
     rw[ho] at hk;cases hk;refine .inr ⟨fun x=>e (by cases x;rfl),o0,by rw[bK];exact ho,.inr rfl,fun h=>absurd h (by simp),fun h b=> ?_⟩
     cases o0 with
     |box cs=>cases h<;>first|exact Iff.rfl|(rename_i x;cases x<;>exact Iff.rfl)
     |_=>exact Iff.rfl
  |succ l=>rw[cZ] at hk;exact .inr ⟨by simp,o,by rw[cZ];exact hk,.inl rfl,fun _=>rfl,fun _ _=>Iff.rfl⟩
 have hCs:∀(cs:List C)(vs:List Value),gu w σ (own::Ω) (bo::bΩ) cs vs->gu w σ' ((own.map (Obj.mE f)).set j .dead::Ω) (bo::bΩ) (cs.map f) vs:=by
  intro cs vs hc;refine⟨by simpa using hc.1,fun i x hx=> ?_⟩;rw[List.getElem?_map] at hx
  cases hci:cs[i]? with
  |none=>rw[hci] at hx;cases hx
  |some y=>
   rw[hci] at hx;cases hx;obtain⟨v,hv,hr,ho⟩:=hc.2 i y hci;exact⟨v,hv,hC y v hr,ho⟩
 have hother:∀k o h x,k≠(0,j)->bE (own::Ω) k=some o->bE (bo::bΩ) k=some h->owns o h x->σ' x=σ x:=by
  intro k o h x hk e1 e2 e3;refine hch x fun e4=>hk ?_;exact hR.S.apart k (0,j) o _ h _ x e1 e2 e3 (by rw[bK];exact hoj) (by rw[bK];exact hbj) e4
 refine⟨⟨hR.size,hR.defers,⟨fun k o ho=> ?_,fun k k' o o' h1 h2 b' e1 e2 e3 e4 e5 e6=> ?_,⟨by have:=hR.S.shape.1;simpa using this,fun l fr hl=> ?_⟩,hlive,hR.S.wh.near hn⟩,fun t=> ?_⟩,⟨Nat.le_refl _,rfl,rfl,fun x hx hno=>⟨rfl,?_⟩,hn,fun x hx=> ?_⟩⟩
 ·rcases UE k o ho with⟨rfl,rfl⟩|⟨hk,o0,h0,hcase,hl0,how⟩
  ·exact⟨_,by rw[bK];exact hbj,trivial⟩
  ·obtain⟨hv,hhv,hr⟩:=hR.S.obj k o0 h0;refine⟨hv,hhv,?_⟩;have hbk:∀x,owns o0 hv x->w.heap[x]? =w.heap[x]? /\σ' x=σ x:=fun x e=>⟨rfl,hother k o0 hv x hk h0 hhv e⟩;obtain⟨l,i⟩:=k
   cases l with
   |succ l=>
    rw[hl0 (by simp)];exact gZ.mono hn (Keep.refl _ _) hbk hr
   |zero=>
    cases o0 with
    |box cs=>
     obtain⟨b',cc',t',e',hb',hs',hc'⟩:=hr;subst e'
     have he:o=.box (cs.map f):=by
      rw[bK,zV] at ho;rw[bK] at h0;split at ho
      ·rename_i e;exact absurd (by rw[e]) hk
      ·rw[h0] at ho;cases ho;rfl
     rw[he];exact⟨b',cc',t',rfl,hb',(hbk b' rfl).2.trans hs',hCs _ _ hc'⟩
    |dead=>rcases hcase with rfl|rfl<;>trivial
    |tok z es'=>
     have:o=.tok z es':=by rcases hcase with rfl|rfl<;>rfl
     rw[this];exact gZ.mono (S:=[]) (β:=[]) (o:=(.tok z es')) hn (Keep.refl [] []) hbk hr
    |fO z es'=>
     have:o=.fO z es':=by rcases hcase with rfl|rfl<;>rfl
     rw[this];exact gZ.mono (S:=[]) (β:=[]) (o:=(.fO z es')) hn (Keep.refl [] []) hbk hr
    |mp m=>
     have:o=.mp m:=by rcases hcase with rfl|rfl<;>rfl
     rw[this];exact gZ.mono (S:=[]) (β:=[]) (o:=(.mp m)) hn (Keep.refl [] []) hbk hr
    |eG n z es'=>
     have:o=.eG n z es':=by rcases hcase with rfl|rfl<;>rfl
     rw[this];exact gZ.mono (S:=[]) (β:=[]) (o:=(.eG n z es')) hn (Keep.refl [] []) hbk hr
    |seed n=>rcases hcase with rfl|rfl<;>trivial
    |xf rs=>
     have:o=.xf rs:=by rcases hcase with rfl|rfl<;>rfl
     rw[this];exact gZ.mono (S:=[]) (β:=[]) (o:=(.xf rs)) hn (Keep.refl [] []) hbk hr
 ·rcases UE k o e1 with⟨rfl,rfl⟩|⟨hk,o0,f1,_,_,f2⟩
  ·cases e3
  ·rcases UE k' o' e4 with⟨rfl,rfl⟩|⟨hk',o0',g1,_,_,g2⟩
   ·cases e6
   ·exact hR.S.apart k k' o0 o0' h1 h2 b' f1 e2 ((f2 _ _).1 e3) g1 e5 ((g2 _ _).1 e6)
 ·cases l with
  |zero=>
   simp at hl;subst hl;exact⟨_,rfl,by simp[hlen]⟩
  |succ l=>exact hR.S.shape.2 (l+1) fr hl
 ·show dM w σ' ((own.map (Obj.mE f)).set j .dead::Ω) (bo::bΩ) (look (tm.map fun x=>(x.1,x.2.mE f)) t) _;rw[Io (f:=V.mE f) rfl];have ht:=hR.T t
  cases hx:look tm t with
  |c x=>rw[hx] at ht;exact⟨hC x _ ht.1,ht.2⟩
  |agg cs=>rw[hx] at ht;obtain⟨ar,e,hc⟩:=ht;exact⟨ar,e,hCs _ _ hc⟩
  |fF xs=>
   rw[hx] at ht;obtain⟨ar,e,hl,h2⟩:=ht;refine⟨ar,e,by simpa using hl,fun i y hy=> ?_⟩;rw[List.getElem?_map] at hy
   cases hxi:xs[i]? with
   |none=>rw[hxi] at hy;cases hy
   |some z=>
    rw[hxi] at hy;cases hy;obtain⟨u,hu,h3⟩:=h2 i z hxi;refine⟨u,hu,?_⟩;obtain⟨bb,cs⟩:=z
    cases bb with
    |true=>obtain⟨a',e',hcs⟩:=h3;exact⟨a',e',hCs _ _ hcs⟩
    |false=>
     obtain⟨x,e',hxr,ho⟩:=h3;subst e';exact⟨_,rfl,hC x _ hxr,ho⟩
  |any=>trivial
 ·exact hch x fun e=>hno ⟨(0,j),_,_,by rw[bK];exact hoj,by rw[bK];exact hbj,e⟩
 ·left;obtain⟨k,o,h1,e1,e2,e3⟩:=hx;rcases UE k o e1 with⟨rfl,rfl⟩|⟨hk,o0,f1,_,_,f2⟩
  ·cases e3
  ·exact⟨k,o0,h1,f1,e2,(f2 _ _).1 e3⟩
theorem ag5{j:Nat}{es:List (List D)}:Obj.oJ j es=Obj.mE (C.oJ j es):=by funext o;cases o<;>rfl
theorem ag6{j:Nat}{es:List (List D)}:V.oJ j es=V.mE (C.oJ j es):=by funext v;cases v<;>rfl
theorem akR{tm:List (Nat×V)}{own:List Obj}{Ω:Store}(j:Nat)(bg:Nat)(es:List (List D))(hj:own[j]? =some (.fO bg es))(hR:kQ N ⟨tm,own::Ω⟩ a w σ β):
 ∃σ' β',kQ N ⟨tm.map fun x=>(x.1,x.2.oJ j es),(own.map (Obj.oJ j es)).set j .dead::Ω⟩ a w σ' β'/\Step (own::Ω) β σ w ((own.map (Obj.oJ j es)).set j .dead::Ω) β' σ' w/\
  Keep (gW (own::Ω)) (gW β) (gW ((own.map (Obj.oJ j es)).set j .dead::Ω)) (gW β'):=by
 obtain⟨bo,bΩ,rfl,hlen⟩:=frames hR;obtain⟨hh,hb,hr⟩:=hR.S.obj (0,j) _ (by rw[bK];exact hj);rw[bK] at hb
 obtain⟨σ',hn,hch,hlive,hdata⟩:∃σ',eu w σ w σ'/\(∀x,¬owns (.fO bg es) hh x->σ' x=σ x)/\(∀x,x<w.heap.size\/σ' x=0)/\dK w σ' (.sl es) hh:=by
  obtain⟨hle,ad,cap,rfl,hcap,h4⟩:=hr;by_cases h0:cap=0
  ·obtain rfl:es=[]:=List.eq_nil_of_length_eq_zero (by omega);exact⟨σ,eu.refl _ _,fun _ _=>rfl,hR.S.live,.nil _ _⟩
  rcases h4 with h4|⟨b,cc,ty,rfl,hbc,hσ,hcz,hcells⟩
  ·exact absurd h4 h0
  have hsz:es.length*bg<=cc.size:=Nat.le_trans (Nat.mul_le_mul_right _ hcap) hcz
  let σ':Nat->Nat:=fun x=>if x=b then es.length*bg else σ x
  have hn:eu w σ w σ':=by
   intro b1 c1 t1 Fj e1;by_cases e:b1=b
   ·subst e;rw[hbc] at e1;cases e1;exact⟨by simp only[σ',if_true];omega,fun h=>by omega,cc,hbc,rfl,fun _ _=>rfl⟩
   ·exact⟨by simp only[σ',if_neg e];exact Nat.le_refl _,fun _=>if_neg e,c1,e1,rfl,fun _ _=>rfl⟩
  refine⟨σ',hn,fun x hx=>if_neg fun e=>hx (by subst e;simp[owns,blk,h0]),fun x=> ?_,?_⟩
  ·by_cases e:x=b
   ·left;subst e;exact lt_of_some hbc
   ·simp only[σ',if_neg e];exact hR.S.live x
  ·have hfl:=jB es bg hle;refine .sl b 0 cap bg es (fun i=>(cc[i]?).getD undef) cc ty (0,0) hcap hle hbc (by simp[σ']) (fun i hi=> ?_) (fun i d hd=> ?_)
   ·obtain⟨v,hv,_⟩:=hcells i _ (List.getElem?_eq_getElem (by omega));simp[hv]
   ·obtain⟨v,hv,hr⟩:=hcells i d hd;simp only[hv,Option.getD_some];exact hr.mono hn
 rw[ag5,ag6]
 have:=VJ (f:=C.oJ j es) j hj hb hR hlen hn hch hlive (fun c v hc=>by
  by_cases hm:c=.jQ (0,j)
  ·subst hm;obtain⟨o,ho,h2⟩:=hc;rw[bK,hj] at ho;cases ho;have hv:=h2 _ _ rfl;rw[bK,hb] at hv;cases hv;simp only[C.oJ,if_true];exact hdata
  ·have hfr:C.oJ j es c=c:=by
    cases c with
    |jQ k=>
     obtain⟨l,i⟩:=k
     cases l with
     |zero=>simp only[C.oJ];rw[if_neg (fun e=>hm (by rw[e]))]
     |succ l=>rfl
    |_=>rfl
   rw[hfr]
   exact OM hj hn hc)
 exact⟨σ',_,this.1,this.2,Keep.refl _ _⟩
def C.lab(row:Bool)(j n:Nat)(es:List (List D)):C->C
 | .jQ (0,i)=>if i=j/\row=true then .d (.ol n es) else .jQ (0,i)
 | .bI (0,i) es'=>if i=j/\row=false/\es'.length=es.length then .d (.ol n es) else .bI (0,i) es'
 |c=>c
def OO(row:Bool)(n bg:Nat)(es:List (List D)):Obj:=match row with|true=>.fO bg es|false=>.eG n bg es
theorem ZK{tm:List (Nat×V)}{own:List Obj}{Ω:Store}(j n:Nat)(bg:Nat)(es:List (List D))(row:Bool)(hj:own[j]? =some (OO row n bg es))(hR:kQ N ⟨tm,own::Ω⟩ a w σ β):
 ∃σ' β',kQ N ⟨tm.map fun x=>(x.1,x.2.mE (C.lab row j n es)),(own.map (Obj.mE (C.lab row j n es))).set j .dead::Ω⟩ a w σ' β'/\Step (own::Ω) β σ w ((own.map (Obj.mE (C.lab row j n es))).set j .dead::Ω) β' σ' w/\
  Keep (gW (own::Ω)) (gW β) (gW ((own.map (Obj.mE (C.lab row j n es))).set j .dead::Ω)) (gW β'):=by
 obtain⟨bo,bΩ,rfl,hlen⟩:=frames hR
 have key:∃hh σ',bo[j]? =some hh/\eu w σ w σ'/\(∀x,¬owns (OO row n bg es) hh x->σ' x=σ x)/\(∀x,x<w.heap.size\/σ' x=0)/\dK w σ' (.ol n es) hh:=by
  have adM:∀(b off cap:Nat)(c:Array Value)(t:TypeId),w.heap[b]? =some (.cells c t (0,0))->σ b<=c.size->(∀e∈es,e.length=bg)->off+es.length*bg<=c.size->es.length<=cap->off=0/\cap*bg<=c.size->
   (∀(i:Nat)(d:D),es.flatten[i]? =some d->∃v,c[off+i]? =some v/\dK w σ d v)->
   eu w σ w (fun x=>if x=b then c.size+1+n else σ x)/\(∀x,x<w.heap.size\/(fun x=>if x=b then c.size+1+n else σ x) x=0)/\dK w (fun x=>if x=b then c.size+1+n else σ x) (.ol n es) (.slice (some ⟨b,off,none⟩) es.length cap):=by
   intro b off cap c t hb hσ hle hsz hcap hx hcells
   have hn:eu w σ w (fun x=>if x=b then c.size+1+n else σ x):=by
    intro b1 c1 t1 Fj e1;by_cases e:b1=b
    ·subst e;rw[hb] at e1;cases e1;exact⟨by simp only[if_true];omega,fun h=>by omega,c,hb,rfl,fun _ _=>rfl⟩
    ·exact⟨by simp only[if_neg e];exact Nat.le_refl _,fun _=>if_neg e,c1,e1,rfl,fun _ _=>rfl⟩
   refine⟨hn,fun x=> ?_,?_⟩
   ·by_cases e:x=b
    ·left;subst e;exact lt_of_some hb
    ·simp only[if_neg e];exact hR.S.live x
   ·have hfl:=jB es bg hle;refine .ol n b off cap bg es (fun i=>(c[off+i]?).getD undef) c t hcap hle hb (by simp) hsz (fun i hi=> ?_) (fun i d hd=> ?_) hx
    ·obtain⟨v,hv,_⟩:=hcells i _ (List.getElem?_eq_getElem (by omega));simp[hv]
    ·obtain⟨v,hv,hr⟩:=hcells i d hd;simp only[hv,Option.getD_some];exact hr.mono hn
  cases row with
  |true=>
   obtain⟨hh,hb,hr⟩:=hR.S.obj (0,j) _ (by rw[bK];exact hj);obtain⟨hle,ad,cap,rfl,hcap,h4⟩:=hr;rw[bK] at hb;by_cases h0:cap=0
   ·obtain rfl:es=[]:=List.eq_nil_of_length_eq_zero (by omega);exact⟨_,σ,hb,eu.refl _ _,fun _ _=>rfl,hR.S.live,.yJ _ _ _⟩
   rcases h4 with h4|⟨b,cc,ty,rfl,hbc,hσ,hcz,hcells⟩
   ·exact absurd h4 h0
   have hsz:es.length*bg<=cc.size:=Nat.le_trans (Nat.mul_le_mul_right _ hcap) hcz;obtain⟨k1,k2,k3⟩:=adM b 0 cap cc ty hbc (by omega) hle (by omega) hcap ⟨rfl,hcz⟩ (fun i d hd=>by rw[Nat.zero_add];exact hcells i d hd);exact⟨_,_,hb,k1,fun x hx=>if_neg fun e=>hx (by subst e;simp[OO,owns,blk,h0]),k2,k3⟩
  |false=>
   obtain⟨hh,hb,hr⟩:=hR.S.obj (0,j) _ (by rw[bK];exact hj);obtain⟨h1,hle,ad,cap,rfl,hcap,hcase⟩:=hr;rw[bK] at hb;rcases hcase with⟨h4,h5⟩|⟨h4,b,off,c,t,rfl,hbc,hσ,hfit⟩
   ·exact⟨_,σ,hb,eu.refl _ _,fun _ _=>rfl,hR.S.live,h5⟩
   ·have hm:es.length*bg<=cap*bg:=Nat.mul_le_mul_right _ hcap
    obtain⟨k1,k2,k3⟩:=adM b off cap c t hbc (by omega) hle (by omega) hcap ⟨by omega,by omega⟩ (fun i d hd=>by
     cases h1 with
     |nil=>simp at hd
     |sl b' off' cap' wm es vals c' t' ZE q1 q2 q3 q4 q5 q6=>
      rw[hbc] at q3;cases q3;have hil:=(List.getElem?_eq_some_iff.1 hd).1;rw[jB es bg hle] at hil
      have he:wm=bg:=by
       cases es with
       |nil=>simp at hil
       |cons y ys=>rw[<-q2 y (by simp),hle y (by simp)]
      subst he
      exact⟨_,q5 i hil,q6 i d hd⟩)
    exact⟨_,_,hb,k1,fun x hx=>if_neg fun e=>hx (by subst e;simp[OO,owns,blk,h4]),k2,k3⟩
 obtain⟨hh,σ',hb,hn,hch,hlive,hdata⟩:=key
 have:=VJ (f:=C.lab row j n es) j hj hb hR hlen hn hch hlive (fun c v hc=>by
  by_cases hm:c=.jQ (0,j)/\row=true
  ·obtain⟨rfl,rfl⟩:=hm;simp only[C.lab,and_self,if_true];obtain⟨o,ho,h2⟩:=hc;rw[bK,hj] at ho;cases ho;have hv:=h2 _ _ rfl;rw[bK,hb] at hv;cases hv;exact hdata
  ·by_cases ht:∃es',c=.bI (0,j) es'/\row=false/\es'.length=es.length
   ·obtain⟨es',rfl,rfl,hl⟩:=ht;simp only[C.lab,hl,and_self,if_true];obtain⟨h1,o,ho,h2⟩:=hc;rw[bK,hj] at ho;cases ho;have hv:=(h2 _ _ (.inr ⟨n,rfl⟩)).2 hl;rw[bK,hb] at hv;cases hv;exact hdata
   ·have hfr:C.lab row j n es c=c:=by
     cases c with
     |jQ k=>
      obtain⟨l,i⟩:=k
      cases l with
      |zero=>simp only[C.lab];rw[if_neg (fun e=>hm ⟨by rw[e.1],e.2⟩)]
      |succ l=>rfl
     |bI k es'=>
      obtain⟨l,i⟩:=k
      cases l with
      |zero=>simp only[C.lab];rw[if_neg (fun e=>ht ⟨es',by rw[e.1],e.2⟩)]
      |succ l=>rfl
     |_=>rfl
    rw[hfr]
    exact OM hj hn hc)
 exact⟨σ',_,this.1,this.2,Keep.refl _ _⟩
def OP(j:Nat)(s:St):St:=
 match s.st with
 |own::Ω=>match own[j]? with
  |some (.fO _ es)=>⟨s.tm.map fun x=>(x.1,x.2.oJ j es),(own.map (Obj.oJ j es)).set j .dead::Ω⟩
  |_=>s
 |[]=>s
def OQ:Nat->St->St
 |0,s=>s
 |n+1,s=>OQ n (OP n s)
def GD(s:St):St:=
 match s.st with
 |own::_=>OQ own.length s
 |[]=>s
theorem Yd(j:Nat)(s:St):ig N s (OP j s):=by
 obtain⟨tm,st⟩:=s
 cases st with
 |nil=>exact ig.refl _ _
 |cons own Ω=>
  unfold OP
  simp only
  split
  ·rename_i z es hj;exact fun a w σ β hR=>akR j z es hj hR
  ·exact ig.refl _ _
theorem Mt:∀(n:Nat)(s:St),ig N s (OQ n s)
 |0,s=>ig.refl _ _
 |n+1,s=>(Yd n s).trans (Mt n _)
theorem zW(s:St):ig N s (GD s):=by
 unfold GD;split
 ·exact Mt _ _
 ·exact ig.refl _ _
theorem yA{c:Code}{Q:Exit->St->Prop}{g:St->St}(hg:∀s,ig N s (g s))(h:AW P N c (fun e s'=>Q e (g s')) s):AW P N c Q s:=by
 intro a w σ β hR;refine wp_mono (h a w σ β hR) ?_;rintro e a' w' ⟨s',σ',β',k1,k2,k3,k4⟩;obtain⟨σ2,β2,r2,st2,kk2⟩:=hg s' a' w' σ' β' k1;exact⟨_,σ2,β2,r2,k2.trans st2,k3.trans kk2,k4⟩
end
section
variable {P:Program} {E:Md} {S S':Store} {N:Nat} {s:St}
def lookO(tm:List (Nat×V))(t:Option Nat):Option V:=t.map (look tm)
theorem VK{tm:List (Nat×V)}{t:Option Nat}:lookO tm t=t.map (look tm):=rfl
theorem aaT{tm:List (Nat×V)}{t:Nat}:lookO tm (some t)=some (look tm t):=rfl
theorem aaU{tm:List (Nat×V)}:lookO tm none=none:=rfl
def GH(tm:List (Nat×V))(l:List Operand):List V:=l.map (ev tm)
theorem akS{tm:List (Nat×V)}:GH tm []=[]:=rfl
theorem ag7{tm:List (Nat×V)}{x:Operand}{l:List Operand}:GH tm (x::l)=ev tm x::GH tm l:=rfl
def Sr(tm:List (Nat×V))(x:Option Operand):Option V:=x.map (ev tm)
theorem ag8{tm:List (Nat×V)}{x:Operand}:Sr tm (some x)=some (ev tm x):=rfl
theorem ag9{tm:List (Nat×V)}:Sr tm none=none:=rfl
def Sv(tm:List (Nat×V))(l:List (Nat×Operand)):List (Nat×V):=l.map fun x=>(x.1,ev tm x.2)
theorem akT{tm:List (Nat×V)}:Sv tm []=[]:=rfl
theorem aha{tm:List (Nat×V)}{i:Nat}{x:Operand}{l:List (Nat×Operand)}:Sv tm ((i,x)::l)=(i,ev tm x)::Sv tm l:=rfl
def Split(x:Bool)(A B:St->Prop)(s:St):Prop:=(x=true->A s)/\(x=false->B s)
theorem dS{x:Bool}{A B:St->Prop}(h1:x=true->A s)(h2:x=false->B s):Split x A B s:=⟨h1,h2⟩
theorem aaV{A B:St->Prop}:Split true A B s=A s:=by simp[Split]
theorem Ye{A B:St->Prop}:Split false A B s=B s:=by simp[Split]
def VL(dst:Option Nat)(v:V)(K:St->Prop)(s:St):Prop:=K (s.put dst v)
theorem akU{dst:Option Nat}{v:V}{K:St->Prop}:VL dst v K s=K (s.put dst v):=rfl
def aaW(P:Program)(o:Oper)(K:St->Prop)(s:St):Prop:=iU P o s K
def VN(P:Program)(E:Md)(o:Oper)(K:St->Prop)(s:St):Prop:=gF P E o s K
theorem ahb{o:Oper}{K:St->Prop}:aaW P o K s=iU P o s K:=rfl
theorem adN{o:Oper}{K:St->Prop}:VN P E o K s=gF P E o s K:=rfl
def Em(dst:Option Nat)(want:Bool)(A K:St->Prop)(s:St):Option V->Prop
 |some (.c (.d (.b x)))=>match want with
  |true=>Split x A (VL dst (.fF []) K) s
  |false=>Split x (VL dst (.fF []) K) A s
 |some (.fF [])=>K (s.put dst (.fF []))
 |_=>False
theorem Yf{R:Array Oper}{dst op ty pos after}{K:St->Prop}:wP P R ⟨dst,op,ty,pos,after,none⟩ s K=iU P ⟨dst,op,ty,pos,after,none⟩ s K:=rfl
theorem Yg{R:Array Oper}{dst op ty pos after j want}{K:St->Prop}:wP P R ⟨dst,op,ty,pos,after,some (j,want)⟩ s K=
 Em dst want (aaW P ⟨dst,op,ty,pos,after,some (j,want)⟩ K) K s (lookO s.tm (gQ R j)):=by
 show wP P R _ s K=_;simp only[wP,<-VK];generalize lookO s.tm (gQ R j)=v
 cases v with
 |none=>rfl
 |some v=>
  cases v with
  |c x=>cases x with
   |d x=>cases x with
    |b x=>cases want<;>simp[Em,Split,VL,aaW,and_comm]
    |_=>rfl
   |_=>rfl
  |fF l=>cases l<;>rfl
  |_=>rfl
theorem VO{R:Array Oper}{dst op ty pos after}{K:St->Prop}:rJ P E R ⟨dst,op,ty,pos,after,none⟩ s K=gF P E ⟨dst,op,ty,pos,after,none⟩ s K:=rfl
theorem VP{R:Array Oper}{dst op ty pos after j want}{K:St->Prop}:rJ P E R ⟨dst,op,ty,pos,after,some (j,want)⟩ s K=
 Em dst want (VN P E ⟨dst,op,ty,pos,after,some (j,want)⟩ K) K s (lookO s.tm (gQ R j)):=by
 simp only[rJ,<-VK];generalize lookO s.tm (gQ R j)=v
 cases v with
 |none=>rfl
 |some v=>
  cases v with
  |c x=>cases x with
   |d x=>cases x with
    |b x=>cases want<;>simp[Em,Split,VL,VN,and_comm]
    |_=>rfl
   |_=>rfl
  |fF l=>cases l<;>rfl
  |_=>rfl
@[congr] theorem apf {R:Array Oper} {os:List Oper} {s s':St} {K:St->Prop} (h2:s=s'):Ef P R os s K=Ef P R os s' K:=by rw[h2]
@[congr] theorem apg {R:Array Oper} {os:List Oper} {s s':St} {K:St->Prop} (h2:s=s'):wz P E R os s K=wz P E R os s' K:=by rw[h2]
@[congr] theorem ane {R:Array Oper} {o:Oper} {s s':St} {K:St->Prop} (h2:s=s'):wP P R o s K=wP P R o s' K:=by rw[h2]
@[congr] theorem amM {R:Array Oper} {o:Oper} {s s':St} {K:St->Prop} (h2:s=s'):rJ P E R o s K=rJ P E R o s' K:=by rw[h2]
@[congr] theorem anf {dst:Option Nat} {want:Bool} {A K:St->Prop} {s s':St} {v v':Option V} (h2:s=s') (h3:v=v'):Em dst want A K s v=Em dst want A K s' v':=by rw[h2,h3]
@[congr] theorem aoO {x x':Bool} {A B:St->Prop} {s s':St} (h:x=x') (h2:s=s'):Split x A B s=Split x' A B s':=by rw[h,h2]
@[congr] theorem aoP {o:Oper} {s s':St} {K:St->Prop} (h2:s=s'):dF P o s K=dF P o s' K:=by rw[h2]
@[congr] theorem aoQ {o:Oper} {s s':St} {K:St->Prop} (h2:s=s'):iU P o s K=iU P o s' K:=by rw[h2]
@[congr] theorem aph {t:TypeId} {s s':St} {dst:Option Nat} {K:St->Prop} {b b':Bool} {r r':R} (h1:s=s') (h2:b=b') (h3:r=r'):JQ P t s dst K b r=JQ P t s' dst K b' r':=by rw[h1,h2,h3]
@[congr] theorem amN {t u:TypeId} {a a' x x':V} {s s':St} {dst:Option Nat} {K:St->Prop} (h1:a=a') (h3:x=x') (h2:s=s'):DT P t u a x s dst K=DT P t u a' x' s' dst K:=by rw[h1,h2,h3]
@[congr] theorem ang {t u:TypeId} {k:Key} {x x':V} {s s':St} {dst:Option Nat} {K:St->Prop} (h3:x=x') (h2:s=s'):Gy P t u k x s dst K=Gy P t u k x' s' dst K:=by rw[h2,h3]
@[congr] theorem anh {o:Oper} {s s':St} {K:St->Prop} (h2:s=s'):gF P E o s K=gF P E o s' K:=by rw[h2]
@[congr] theorem apj {l l':Option Nat} {es es' x:List (List D)} {z:Nat} {s s':St} {dst:Option Nat} {K:St->Prop} (h1:l=l') (h2:es=es') (h3:s=s'):Ed l es s dst z x K=Ed l' es' s' dst z x K:=by rw[h1,h2,h3]
@[congr] theorem apk {b b':Bool} {es es' x:List (List D)} {z:Nat} {s s':St} {dst:Option Nat} {K:St->Prop} (h1:b=b') (h2:es=es') (h3:s=s'):Cv b es s dst z x K=Cv b' es' s' dst z x K:=by rw[h1,h2,h3]
@[congr] theorem apl {b b':Bool} {n:Nat} {x:List (List D)} {z:Nat} {s s':St} {dst:Option Nat} {K:St->Prop} (h1:b=b') (h3:s=s'):FY b n s dst z x K=FY b' n s' dst z x K:=by rw[h1,h3]
@[congr] theorem ani {s s':St} {dst:Option Nat} {o o':Obj} {mk:Key->V} {K:St->Prop} (h1:s=s') (h2:o=o'):newObj s dst o mk K=newObj s' dst o' mk K:=by rw[h1,h2]
@[congr] theorem anj {t:TypeId} {s s':St} {dst:Option Nat} {K:St->Prop} (h1:s=s'):wN P t s dst K=wN P t s' dst K:=by rw[h1]
@[congr] theorem apm {v v':V} {s s':St} {dst:Option Nat} {K:St->Prop} (h1:v=v') (h2:s=s'):Ec v s dst K=Ec v' s' dst K:=by rw[h1,h2]
@[congr] theorem ank {t:TypeId} {a a' x x':V} {s s':St} {dst:Option Nat} {K:St->Prop} (h1:a=a') (h3:x=x') (h2:s=s'):wO P t a x s dst K=wO P t a' x' s' dst K:=by rw[h1,h2,h3]
@[congr] theorem aoR {t:TypeId} {a a' x x':V} {s s':St} {dst:Option Nat} {K:St->Prop} (h1:a=a') (h3:x=x') (h2:s=s'):zM P t a x s dst K=zM P t a' x' s' dst K:=by rw[h1,h2,h3]
@[congr] theorem amO {t u:TypeId} {a a' x x':V} {s s':St} {dst:Option Nat} {K:St->Prop} (h1:a=a') (h3:x=x') (h2:s=s'):uq P t u a x s dst K=uq P t u a' x' s' dst K:=by rw[h1,h2,h3]
@[congr] theorem amP {s s':St} {dst:Option Nat} {K:St->Prop} (h2:s=s'):vR s dst K=vR s' dst K:=by rw[h2]
@[congr] theorem amQ {t:TypeId} {a a' x x' y y':V} {s s':St} {dst:Option Nat} {K:St->Prop} (h1:a=a') (h3:x=x') (h4:y=y') (h2:s=s'):vS P t a x y s dst K=vS P t a' x' y' s' dst K:=by rw[h1,h2,h3,h4]
@[congr] theorem aoS {f:FuncId} {args args':List V} {s s':St} {dst:Option Nat} {K:St->Prop} (h1:args=args') (h2:s=s'):Bl P f args s dst K=Bl P f args' s' dst K:=by rw[h1,h2]
@[congr] theorem aoT {c:Call} {s s':St} {dst:Option Nat} {K:St->Prop} (h2:s=s'):oN P c s dst K=oN P c s' dst K:=by rw[h2]
@[congr] theorem aoU {K:St->Prop} {Q:Exit->St->Prop} {e:Exit} {s s':St} (h2:s=s'):lY K Q e s=lY K Q e s':=by rw[h2]
def iq(s:St)(dst:Option Nat)(K:St->Prop)(r:R):Prop:=r.1/\K (s.put dst r.2)
@[congr] theorem aoV {s s':St} {dst:Option Nat} {K:St->Prop} {r r':R} (h1:s=s') (h2:r=r'):iq s dst K r=iq s' dst K r':=by rw[h1,h2]
theorem ahc{dst:Option Nat}{K:St->Prop}{p:Prop}{v:V}:iq s dst K (p,v)=(p/\K (s.put dst v)):=rfl
def En(caps:List (Key×Nat)):List V:=caps.map fun y=>.c (.ptr y.1 y.2)
def UF(P:Program)(fv:V)(args:List V)(s:St)(dst:Option Nat)(K:St->Prop):Prop:=
 match fv with
 | .c (.fn f caps)=>Bl P f (args++En caps) s dst K
 |_=>False
def Ip(P:Program)(m:Nat)(f:FuncId)(args:List V)(s:St)(dst:Option Nat)(K:St->Prop):Prop:=
 match m with
 |0=>∃r,aF P f args r/\K (s.put dst r)
 |1=>∃S' v,DS s.st S'/\Bl P f args s dst (fun t=>t=St.put ⟨s.tm,S'⟩ dst v)/\K (St.put ⟨s.tm,S'⟩ dst v)
 |_=>∃S' v,Bl P f args s dst (fun t=>t=St.put ⟨s.tm,S'⟩ dst v)/\K (St.put ⟨s.tm,S'⟩ dst v)
def Bp(P:Program)(m:Nat)(fv:V)(args:List V)(s:St)(dst:Option Nat)(K:St->Prop):Prop:=
 match fv with
 | .c (.fn f caps)=>Ip P m f (args++En caps) s dst K
 |_=>False
@[congr] theorem aoW {fv fv':V} {args args':List V} {s s':St} {dst:Option Nat} {K:St->Prop} (h1:fv=fv') (h3:args=args') (h2:s=s'):UF P fv args s dst K=UF P fv' args' s' dst K:=by rw[h1,h2,h3]
@[congr] theorem aoX {m:Nat} {fv fv':V} {args args':List V} {s s':St} {dst:Option Nat} {K:St->Prop} (h1:fv=fv') (h3:args=args') (h2:s=s'):Bp P m fv args s dst K=Bp P m fv' args' s' dst K:=by rw[h1,h2,h3]
@[congr] theorem aoY {m:Nat} {f:FuncId} {args args':List V} {s s':St} {dst:Option Nat} {K:St->Prop} (h1:args=args') (h2:s=s'):Ip P m f args s dst K=Ip P m f args' s' dst K:=by rw[h1,h2]
theorem Yh{x:Operand}{args:Array Operand}{ts:Array TypeId}{dst:Option Nat}{K:St->Prop}:oN P ⟨.value x,args,ts⟩ s dst K=UF P (ev s.tm x) (GH s.tm args.toList) s dst K:=rfl
theorem VQ{x y:Operand}{t u:TypeId}{dst:Option Nat}{K:St->Prop}:oN P ⟨.builtin .append,#[x,y],#[t,u]⟩ s dst K=uq P t u (ev s.tm x) (ev s.tm y) s dst K:=rfl
theorem adP{x:Operand}{t:TypeId}{dst:Option Nat}{K:St->Prop}:oN P ⟨.builtin .len,#[x],#[t]⟩ s dst K=iq s dst K (H7 P s.st t (ev s.tm x)):=rfl
theorem adQ{x y:Operand}{ts:Array TypeId}{dst:Option Nat}{K:St->Prop}:oN P ⟨.builtin .max,#[x,y],ts⟩ s dst K=iq s dst K (yK true (ev s.tm x) (ev s.tm y)):=rfl
theorem adR{x y:Operand}{ts:Array TypeId}{dst:Option Nat}{K:St->Prop}:oN P ⟨.builtin .min,#[x,y],ts⟩ s dst K=iq s dst K (yK false (ev s.tm x) (ev s.tm y)):=rfl
theorem ahd{x:Operand}{t:TypeId}{tm:List (Nat×V)}:nval P S tm (.call ⟨.builtin .len,#[x],#[t]⟩)=H7 P S t (ev tm x):=rfl
def fB(P:Program)(mode:Option Nat)(f:FuncId)(args:List V)(s:St)(dst:Option Nat)(K:St->Prop):Prop:=
 match mode with
 |some m=>Ip P m f args s dst K
 |none=>Bl P f args s dst K
@[congr] theorem aoZ {dr:Option Nat} {f:FuncId} {args args':List V} {s s':St} {dst:Option Nat} {K:St->Prop} (h1:args=args') (h2:s=s'):fB P dr f args s dst K=fB P dr f args' s' dst K:=by rw[h1,h2]
theorem ahe{f:Nat}{caps:List (Key×Nat)}{args:List V}{dst:Option Nat}{K:St->Prop}:UF P (.c (.fn f caps)) args s dst K=fB P none f (args++En caps) s dst K:=rfl
theorem ahf{m:Nat}{f:Nat}{caps:List (Key×Nat)}{args:List V}{dst:Option Nat}{K:St->Prop}:Bp P m (.c (.fn f caps)) args s dst K=fB P (some m) f (args++En caps) s dst K:=rfl
theorem bD{dr:Option Nat}{f:FuncId}{args:List V}{dst:Option Nat}{K:St->Prop}{r:V}(h:aF P f (args.map V.uf) r)(hK:K (s.put dst r)):fB P dr f args s dst K:=by
 cases dr with
 |none=>exact Il h hK
 |some m=>
  match m with
  |0=>exact⟨r,fun S=>(h S).uf,hK⟩
  |1=>exact⟨s.st,r,DS.refl _,Il h rfl,hK⟩
  |m+2=>exact⟨s.st,r,Il h rfl,hK⟩
def aj7:Option Nat->Bool
 |none=>true
 |some m=>decide (2<=m)
def apn:Option Nat->Bool
 |none=>true
 |some m=>decide (1<=m)
theorem aW{dr:Option Nat}{f:FuncId}{args:List V}{dst:Option Nat}{K:St->Prop}{r:V}{S1:Store}(hm:aj7 dr=true)(h:bX P f args s.st (fun r' S'=>r'=r/\S'=S1))(hK:K (St.put ⟨s.tm,S1⟩ dst r)):fB P dr f args s dst K:=by
 cases dr with
 |none=>exact .inl ⟨_,h,fun r' S' e=>by rw[e.1,e.2];exact hK⟩
 |some m=>
  match m,hm with
  |0,hm=>cases hm
  |1,hm=>cases hm
  |m+2,_=>exact⟨S1,r,.inl ⟨_,h,fun r' S' e=>by rw[e.1,e.2]⟩,hK⟩
theorem anl{dr:Option Nat}{f:FuncId}{args:List V}{dst:Option Nat}{K:St->Prop}{r:V}{S1:Store}(hm:apn dr=true)(hd:DS s.st S1)(h:bX P f args s.st (fun r' S'=>r'=r/\S'=S1))(hK:K (St.put ⟨s.tm,S1⟩ dst r)):fB P dr f args s dst K:=by
 cases dr with
 |none=>exact .inl ⟨_,h,fun r' S' e=>by rw[e.1,e.2];exact hK⟩
 |some m=>
  match m,hm with
  |0,hm=>cases hm
  |1,_=>exact⟨S1,r,hd,.inl ⟨_,h,fun r' S' e=>by rw[e.1,e.2]⟩,hK⟩
  |m+2,_=>exact⟨S1,r,.inl ⟨_,h,fun r' S' e=>by rw[e.1,e.2]⟩,hK⟩
theorem anm{f:FuncId}{args:List V}{dst:Option Nat}{K:St->Prop}{r:V}(h:aaF P f args r)(hK:K (St.put s dst r)):fB P none f args s dst K:=.inr ⟨r,h,hK⟩
def Lv(P:Program)(R:Array Oper)(os:List Oper)(K:St->Prop)(s:St):Prop:=Ef P R os s K
def Lx(P:Program)(E:Md)(R:Array Oper)(os:List Oper)(K:St->Prop)(s:St):Prop:=wz P E R os s K
@[congr] theorem ao0 {R:Array Oper} {os:List Oper} {s s':St} {K:St->Prop} (h2:s=s'):Lv P R os K s=Lv P R os K s':=by rw[h2]
@[congr] theorem ao1 {R:Array Oper} {os:List Oper} {s s':St} {K:St->Prop} (h2:s=s'):Lx P E R os K s=Lx P E R os K s':=by rw[h2]
section
variable {tm:List (Nat×V)} {R:Array Oper} {o:Oper} {os:List Oper} {K:St->Prop}
theorem ahg:Ef P R [] ⟨tm,S⟩ K=K ⟨tm,S⟩:=rfl
theorem adS:Ef P R (o::os) ⟨tm,S⟩ K=wP P R o ⟨tm,S⟩ (Lv P R os K):=rfl
theorem adT:Lv P R [] K ⟨tm,S⟩=K ⟨tm,S⟩:=rfl
theorem aaX:Lv P R (o::os) K ⟨tm,S⟩=wP P R o ⟨tm,S⟩ (Lv P R os K):=rfl
theorem ahh:wz P E R [] ⟨tm,S⟩ K=K ⟨tm,S⟩:=rfl
theorem adU:wz P E R (o::os) ⟨tm,S⟩ K=rJ P E R o ⟨tm,S⟩ (Lx P E R os K):=rfl
theorem adV:Lx P E R [] K ⟨tm,S⟩=K ⟨tm,S⟩:=rfl
theorem aaY:Lx P E R (o::os) K ⟨tm,S⟩=rJ P E R o ⟨tm,S⟩ (Lx P E R os K):=rfl
end
section
variable {dst:Option Nat} {ty:TypeId} {pos:String} {after:Array Edge} {g:Option (Nat×Bool)} {K:St->Prop}
theorem Yi{t:TypeId}:iU P ⟨dst,.alloc t,ty,pos,after,g⟩ s K=dF P ⟨dst,.alloc t,ty,pos,after,g⟩ s K:=rfl
theorem adW{t:TypeId}{x:Operand}:iU P ⟨dst,.box t x,ty,pos,after,g⟩ s K=dF P ⟨dst,.box t x,ty,pos,after,g⟩ s K:=rfl
theorem Yj{t:TypeId}{a x:Operand}:iU P ⟨dst,.store t a x,ty,pos,after,g⟩ s K=dF P ⟨dst,.store t a x,ty,pos,after,g⟩ s K:=rfl
theorem aaZ{t:TypeId}{a x:Operand}:iU P ⟨dst,.makeSlice t a x,ty,pos,after,g⟩ s K=dF P ⟨dst,.makeSlice t a x,ty,pos,after,g⟩ s K:=rfl
theorem Ua{t:TypeId}{r:Option Operand}:iU P ⟨dst,.makeMap t r,ty,pos,after,g⟩ s K=dF P ⟨dst,.makeMap t r,ty,pos,after,g⟩ s K:=rfl
theorem OT{t:TypeId}{x k v:Operand}:iU P ⟨dst,.mapUpdate t x k v,ty,pos,after,g⟩ s K=dF P ⟨dst,.mapUpdate t x k v,ty,pos,after,g⟩ s K:=rfl
theorem VR{t:TypeId}{x i:Operand}{b:Bool}:iU P ⟨dst,.lookup t x i b,ty,pos,after,g⟩ s K=dF P ⟨dst,.lookup t x i b,ty,pos,after,g⟩ s K:=rfl
theorem aa0{x:Operand}{as:Array Operand}{ts:Array TypeId}:iU P ⟨dst,.call ⟨.value x,as,ts⟩,ty,pos,after,g⟩ s K=dF P ⟨dst,.call ⟨.value x,as,ts⟩,ty,pos,after,g⟩ s K:=rfl
theorem adX{as:Array Operand}{ts:Array TypeId}:iU P ⟨dst,.call ⟨.builtin .len,as,ts⟩,ty,pos,after,g⟩ s K=dF P ⟨dst,.call ⟨.builtin .len,as,ts⟩,ty,pos,after,g⟩ s K:=rfl
theorem adY{as:Array Operand}{ts:Array TypeId}:iU P ⟨dst,.call ⟨.builtin .max,as,ts⟩,ty,pos,after,g⟩ s K=dF P ⟨dst,.call ⟨.builtin .max,as,ts⟩,ty,pos,after,g⟩ s K:=rfl
theorem adZ{as:Array Operand}{ts:Array TypeId}:iU P ⟨dst,.call ⟨.builtin .min,as,ts⟩,ty,pos,after,g⟩ s K=dF P ⟨dst,.call ⟨.builtin .min,as,ts⟩,ty,pos,after,g⟩ s K:=rfl
theorem aa1{x:Operand}:iU P ⟨dst,.move x,ty,pos,after,g⟩ s K=dF P ⟨dst,.move x,ty,pos,after,g⟩ s K:=rfl
theorem VT{x:Operand}:iU P ⟨dst,.assign x,ty,pos,after,g⟩ s K=dF P ⟨dst,.assign x,ty,pos,after,g⟩ s K:=rfl
theorem aa2{c a b:Operand}:iU P ⟨dst,.pick c a b,ty,pos,after,g⟩ s K=dF P ⟨dst,.pick c a b,ty,pos,after,g⟩ s K:=rfl
theorem aa3{t:TypeId}{a:Operand}:iU P ⟨dst,.load t a,ty,pos,after,g⟩ s K=dF P ⟨dst,.load t a,ty,pos,after,g⟩ s K:=rfl
theorem OU{t:TypeId}{x:Operand}{f:Nat}:iU P ⟨dst,.fieldAddr t x f,ty,pos,after,g⟩ s K=dF P ⟨dst,.fieldAddr t x f,ty,pos,after,g⟩ s K:=rfl
theorem Yk{t:TypeId}{x:Operand}{f:Nat}:iU P ⟨dst,.field t x f,ty,pos,after,g⟩ s K=dF P ⟨dst,.field t x f,ty,pos,after,g⟩ s K:=rfl
theorem OV{t:TypeId}{x i:Operand}:iU P ⟨dst,.indexAddr t x i,ty,pos,after,g⟩ s K=dF P ⟨dst,.indexAddr t x i,ty,pos,after,g⟩ s K:=rfl
theorem Yl{t:TypeId}{x i:Operand}:iU P ⟨dst,.index t x i,ty,pos,after,g⟩ s K=dF P ⟨dst,.index t x i,ty,pos,after,g⟩ s K:=rfl
theorem Ym{op:BinOp}{t u:TypeId}{x y:Operand}:iU P ⟨dst,.binOp op t x y u,ty,pos,after,g⟩ s K=dF P ⟨dst,.binOp op t x y u,ty,pos,after,g⟩ s K:=rfl
theorem aa4{op:UnOp}{t:TypeId}{x:Operand}:iU P ⟨dst,.unOp op t x,ty,pos,after,g⟩ s K=dF P ⟨dst,.unOp op t x,ty,pos,after,g⟩ s K:=rfl
theorem Ub{a b:TypeId}{x:Operand}:iU P ⟨dst,.convert a b x,ty,pos,after,g⟩ s K=dF P ⟨dst,.convert a b x,ty,pos,after,g⟩ s K:=rfl
theorem Uc{x:Operand}{i:Nat}:iU P ⟨dst,.extract x i,ty,pos,after,g⟩ s K=dF P ⟨dst,.extract x i,ty,pos,after,g⟩ s K:=rfl
theorem Q7{fn:Fn}{a b:Array Operand}:iU P ⟨dst,.makeFunc fn a b,ty,pos,after,g⟩ s K=dF P ⟨dst,.makeFunc fn a b,ty,pos,after,g⟩ s K:=rfl
theorem Q8{x:Operand}:iU P ⟨dst,.nilCheck x,ty,pos,after,g⟩ s K=dF P ⟨dst,.nilCheck x,ty,pos,after,g⟩ s K:=rfl
theorem Yn{t:TypeId}{x:Operand}{lo hi mx:Option Operand}:iU P ⟨dst,.slice t x lo hi mx,ty,pos,after,g⟩ s K=dF P ⟨dst,.slice t x lo hi mx,ty,pos,after,g⟩ s K:=rfl
theorem Yo{t:TypeId}{parts:Array (Nat×Operand)}:iU P ⟨dst,.build t parts,ty,pos,after,g⟩ s K=dF P ⟨dst,.build t parts,ty,pos,after,g⟩ s K:=rfl
theorem VU{x y:Operand}{t u:TypeId}:iU P ⟨dst,.call ⟨.builtin .append,#[x,y],#[t,u]⟩,ty,pos,after,g⟩ s K=DT P t u (ev s.tm x) (ev s.tm y) s dst K:=rfl
theorem M7{t:TypeId}{n:Nat}{parts:Array (Nat×Operand)}:iU P ⟨dst,.buildSlice t n parts,ty,pos,after,g⟩ s K=JQ P t s dst K (aaJ s.st t) (nH P (rP s.st) t n (Sv s.tm parts.toList)):=rfl
theorem aa5{t:TypeId}:dF P ⟨dst,.alloc t,ty,pos,after,g⟩ s K=wN P t s dst K:=rfl
theorem ahi{t:TypeId}{x:Operand}:dF P ⟨dst,.box t x,ty,pos,after,g⟩ s K=Ec (ev s.tm x) s dst K:=rfl
theorem aa6{t:TypeId}{a x:Operand}:dF P ⟨dst,.store t a x,ty,pos,after,g⟩ s K=wO P t (ev s.tm a) (ev s.tm x) s dst K:=rfl
theorem ad2{t:TypeId}{a x:Operand}:dF P ⟨dst,.makeSlice t a x,ty,pos,after,g⟩ s K=zM P t (ev s.tm a) (ev s.tm x) s dst K:=rfl
theorem VW{t:TypeId}:dF P ⟨dst,.makeMap t none,ty,pos,after,g⟩ s K=vR s dst K:=rfl
theorem Q9{t:TypeId}{x k v:Operand}:dF P ⟨dst,.mapUpdate t x k v,ty,pos,after,g⟩ s K=vS P t (ev s.tm x) (ev s.tm k) (ev s.tm v) s dst K:=rfl
theorem Yp{t:TypeId}{x i:Operand}:dF P ⟨dst,.lookup t x i false,ty,pos,after,g⟩ s K=iq s dst K (Az P s.st t (ev s.tm x) (ev s.tm i)):=rfl
theorem Ud{t:TypeId}:gF P E ⟨dst,.makeMap t none,ty,pos,after,g⟩ s K=vR s dst K:=rfl
theorem OW{t:TypeId}{x k v:Operand}:gF P E ⟨dst,.mapUpdate t x k v,ty,pos,after,g⟩ s K=vS P t (ev s.tm x) (ev s.tm k) (ev s.tm v) s dst K:=rfl
theorem VX{t:TypeId}{x i:Operand}:gF P E ⟨dst,.lookup t x i false,ty,pos,after,g⟩ s K=iq s dst K (Az P s.st t (ev s.tm x) (ev s.tm i)):=rfl
theorem ad3{c:Call}:dF P ⟨dst,.call c,ty,pos,after,g⟩ s K=oN P c s dst K:=rfl
theorem ad4{x:Operand}:dF P ⟨dst,.move x,ty,pos,after,g⟩ s K=K (s.put dst (ev s.tm x)):=by simp[dF,nval,oL]
theorem Yq{x:Operand}:dF P ⟨dst,.assign x,ty,pos,after,g⟩ s K=K (s.put dst (ev s.tm x)):=by simp[dF,nval,oL]
theorem ad5{c a b:Operand}:dF P ⟨dst,.pick c a b,ty,pos,after,g⟩ s K=iq s dst K (Lf (ev s.tm c) (ev s.tm a) (ev s.tm b)):=rfl
theorem ad6{t:TypeId}{a:Operand}:dF P ⟨dst,.load t a,ty,pos,after,g⟩ s K=iq s dst K (Dm P s.st t (ev s.tm a)):=rfl
theorem Ra{t:TypeId}{x:Operand}{f:Nat}:dF P ⟨dst,.fieldAddr t x f,ty,pos,after,g⟩ s K=iq s dst K (uT P s.st t (ev s.tm x) f):=rfl
theorem aa7{t:TypeId}{x:Operand}{f:Nat}:dF P ⟨dst,.field t x f,ty,pos,after,g⟩ s K=iq s dst K (Gs P t (ev s.tm x) f):=rfl
theorem Rb{t:TypeId}{x i:Operand}:dF P ⟨dst,.indexAddr t x i,ty,pos,after,g⟩ s K=iq s dst K (uU P s.st t (ev s.tm x) (ev s.tm i)):=rfl
theorem aa8{t:TypeId}{x i:Operand}:dF P ⟨dst,.index t x i,ty,pos,after,g⟩ s K=iq s dst K (Gt P t (ev s.tm x) (ev s.tm i)):=rfl
theorem aa9{op:BinOp}{t u:TypeId}{x y:Operand}:dF P ⟨dst,.binOp op t x y u,ty,pos,after,g⟩ s K=iq s dst K (QT P op t (ev s.tm x) (ev s.tm y)):=rfl
theorem ad7{op:UnOp}{t:TypeId}{x:Operand}:dF P ⟨dst,.unOp op t x,ty,pos,after,g⟩ s K=iq s dst K (Zx op (ev s.tm x)):=rfl
theorem VY{a b:TypeId}{x:Operand}:dF P ⟨dst,.convert a b x,ty,pos,after,g⟩ s K=iq s dst K (Lh P a b (ev s.tm x)):=rfl
theorem VZ{x:Operand}{i:Nat}:dF P ⟨dst,.extract x i,ty,pos,after,g⟩ s K=iq s dst K (Ay (ev s.tm x) i):=rfl
theorem Ue{fn:Fn}{a b:Array Operand}:dF P ⟨dst,.makeFunc fn a b,ty,pos,after,g⟩ s K=iq s dst K (yY fn (GH s.tm a.toList) (GH s.tm b.toList)):=rfl
theorem Uf{x:Operand}:dF P ⟨dst,.nilCheck x,ty,pos,after,g⟩ s K=iq s dst K (yZ s.st (ev s.tm x)):=rfl
theorem abb{t:TypeId}{x:Operand}{lo hi mx:Option Operand}:dF P ⟨dst,.slice t x lo hi mx,ty,pos,after,g⟩ s K=iq s dst K (Gu P t (ev s.tm x) (Sr s.tm lo) (Sr s.tm hi) (Sr s.tm mx)):=rfl
theorem abd{t:TypeId}{parts:Array (Nat×Operand)}:dF P ⟨dst,.build t parts,ty,pos,after,g⟩ s K=iq s dst K (Gv P t (Sv s.tm parts.toList)):=rfl
theorem OX{t:TypeId}{n:Nat}{parts:Array (Nat×Operand)}:dF P ⟨dst,.buildSlice t n parts,ty,pos,after,g⟩ s K=iq s dst K (nH P (rP s.st) t n (Sv s.tm parts.toList)):=rfl
theorem Yr{t:TypeId}:gF P E ⟨dst,.alloc t,ty,pos,after,g⟩ s K=wN P t s dst K:=rfl
theorem ad8{t:TypeId}{x:Operand}:gF P E ⟨dst,.box t x,ty,pos,after,g⟩ s K=Ec (ev s.tm x) s dst K:=rfl
theorem Yt{t:TypeId}{a x:Operand}:gF P E ⟨dst,.store t a x,ty,pos,after,g⟩ s K=wO P t (ev s.tm a) (ev s.tm x) s dst K:=rfl
theorem abe{t:TypeId}{a x:Operand}:gF P E ⟨dst,.makeSlice t a x,ty,pos,after,g⟩ s K=zM P t (ev s.tm a) (ev s.tm x) s dst K:=rfl
theorem V3{args:Array Operand}{ts:Array TypeId}:gF P E ⟨dst,.call ⟨.builtin .append,args,ts⟩,ty,pos,after,g⟩ s K=oN P ⟨.builtin .append,args,ts⟩ s dst K:=rfl
theorem abf{x:Operand}:gF P E ⟨dst,.move x,ty,pos,after,g⟩ s K=K (s.put dst (ev s.tm x)):=by simp[gF,uw,nval,oL]
theorem V4{x:Operand}:gF P E ⟨dst,.assign x,ty,pos,after,g⟩ s K=K (s.put dst (ev s.tm x)):=by simp[gF,uw,nval,oL]
theorem abg{c a b:Operand}:gF P E ⟨dst,.pick c a b,ty,pos,after,g⟩ s K=iq s dst K (Lf (ev s.tm c) (ev s.tm a) (ev s.tm b)):=rfl
theorem abh{t:TypeId}{a:Operand}:gF P E ⟨dst,.load t a,ty,pos,after,g⟩ s K=iq s dst K (Dm P s.st t (ev s.tm a)):=rfl
theorem OY{t:TypeId}{x:Operand}{f:Nat}:gF P E ⟨dst,.fieldAddr t x f,ty,pos,after,g⟩ s K=iq s dst K (uT P s.st t (ev s.tm x) f):=rfl
theorem Yu{t:TypeId}{x:Operand}{f:Nat}:gF P E ⟨dst,.field t x f,ty,pos,after,g⟩ s K=iq s dst K (Gs P t (ev s.tm x) f):=rfl
theorem OZ{t:TypeId}{x i:Operand}:gF P E ⟨dst,.indexAddr t x i,ty,pos,after,g⟩ s K=iq s dst K (uU P s.st t (ev s.tm x) (ev s.tm i)):=rfl
theorem Yv{t:TypeId}{x i:Operand}:gF P E ⟨dst,.index t x i,ty,pos,after,g⟩ s K=iq s dst K (Gt P t (ev s.tm x) (ev s.tm i)):=rfl
theorem Yw{op:BinOp}{t u:TypeId}{x y:Operand}:gF P E ⟨dst,.binOp op t x y u,ty,pos,after,g⟩ s K=iq s dst K (QT P op t (ev s.tm x) (ev s.tm y)):=rfl
theorem abj{op:UnOp}{t:TypeId}{x:Operand}:gF P E ⟨dst,.unOp op t x,ty,pos,after,g⟩ s K=iq s dst K (Zx op (ev s.tm x)):=rfl
theorem Ug{a b:TypeId}{x:Operand}:gF P E ⟨dst,.convert a b x,ty,pos,after,g⟩ s K=iq s dst K (Lh P a b (ev s.tm x)):=rfl
theorem Uh{x:Operand}{i:Nat}:gF P E ⟨dst,.extract x i,ty,pos,after,g⟩ s K=iq s dst K (Ay (ev s.tm x) i):=rfl
theorem Rc{fn:Fn}{a b:Array Operand}:gF P E ⟨dst,.makeFunc fn a b,ty,pos,after,g⟩ s K=iq s dst K (yY fn (GH s.tm a.toList) (GH s.tm b.toList)):=rfl
theorem Rf{x:Operand}:gF P E ⟨dst,.nilCheck x,ty,pos,after,g⟩ s K=iq s dst K (yZ s.st (ev s.tm x)):=rfl
theorem Yx{t:TypeId}{x:Operand}{lo hi mx:Option Operand}:gF P E ⟨dst,.slice t x lo hi mx,ty,pos,after,g⟩ s K=iq s dst K (Gu P t (ev s.tm x) (Sr s.tm lo) (Sr s.tm hi) (Sr s.tm mx)):=rfl
theorem Yy{t:TypeId}{parts:Array (Nat×Operand)}:gF P E ⟨dst,.build t parts,ty,pos,after,g⟩ s K=iq s dst K (Gv P t (Sv s.tm parts.toList)):=rfl
theorem M8{t:TypeId}{n:Nat}{parts:Array (Nat×Operand)}:gF P E ⟨dst,.buildSlice t n parts,ty,pos,after,g⟩ s K=iq s dst K (nH P (rP s.st) t n (Sv s.tm parts.toList)):=rfl
theorem ad9{args:Array Operand}{ts:Array TypeId}:gF P E ⟨dst,.call ⟨.builtin .len,args,ts⟩,ty,pos,after,g⟩ s K=iq s dst K (nval P s.st s.tm (.call ⟨.builtin .len,args,ts⟩)):=rfl
theorem aea{x y:Operand}{ts:Array TypeId}:gF P E ⟨dst,.call ⟨.builtin .max,#[x,y],ts⟩,ty,pos,after,g⟩ s K=iq s dst K (yK true (ev s.tm x) (ev s.tm y)):=rfl
theorem aeb{x y:Operand}{ts:Array TypeId}:gF P E ⟨dst,.call ⟨.builtin .min,#[x,y],ts⟩,ty,pos,after,g⟩ s K=iq s dst K (yK false (ev s.tm x) (ev s.tm y)):=rfl
theorem abk{x:Operand}{args:Array Operand}{ts:Array TypeId}:gF P E ⟨dst,.call ⟨.value x,args,ts⟩,ty,pos,after,g⟩ s K=Bp P (E (.call ⟨.value x,args,ts⟩)) (ev s.tm x) (GH s.tm args.toList) s dst K:=by
 simp only[gF,uw];generalize E (.call ⟨.value x,args,ts⟩)=m
 match m with
 |0=>
  simp only[Ig];generalize ev s.tm x=fv
  cases fv with
  |c x=>cases x<;>simp[Bp,Ip,En,GH]
  |_=>simp[Bp]
 |1=>
  simp only[dF,oN];generalize ev s.tm x=fv
  cases fv with
  |c x=>cases x<;>simp[Bp,Ip,En,GH]
  |_=>simp[Bp]
 |m+2=>
  simp only[dF,oN];generalize ev s.tm x=fv
  cases fv with
  |c x=>cases x<;>simp[Bp,Ip,En,GH]
  |_=>simp[Bp]
end
def Dt(v:V)(A B:St->Prop)(s:St):Prop:=
 match v with
 | .c (.d (.b x))=>Split x A B s
 |_=>False
def CW(P:Program)(N:Nat):Code->(Exit->St->Prop)->St->Prop
 | .seq x y,Q,s=>CW P N x (lY (CW P N y Q) Q) s
 | .region _ R false,Q,s=>Ef P R R.toList s (Q .normal)
 | .region _ R true,Q,s=>wz P (OG R N) R R.toList s (Q .normal)
 | .cond c x y,Q,s=>Dt (ev s.tm c) (CW P N x Q) (CW P N y Q) s
 | .block id c,Q,s=>CW P N c (zR id Q) s
 | .exit id,Q,s=>Q (.exit id) s
 | .ret,Q,s=>Q .ret s
 | .skip,Q,s=>Q .normal s
 | .loop c,Q,s=>AW P N (.loop c) Q s
 |_,_,_=>False
def apo(N:Nat)(R:Array Oper):Bool:=R.toList.all (fun o=>match o.dst with|some d=>decide (d<N)|none=>true)
def codeOk(N:Nat):Code->Bool
 | .seq x y=>codeOk N x&&codeOk N y
 | .region _ R false=>apo N R
 | .region _ R true=>Q5 R N
 | .cond _ x y=>codeOk N x&&codeOk N y
 | .block _ c=>codeOk N c
 | .loop c=>codeOk N c
 |_=>true
theorem kE(gI:P.follows .mixedOrders=true):∀(c:Code)(Q:Exit->St->Prop)(s:St),codeOk N c=true->CW P N c Q s->AW P N c Q s
 | .seq x y,Q,s,ok,h=>by
   simp only[codeOk,Bool.and_eq_true] at ok;refine Vs (AW.mono (kE gI x _ s ok.1 h) fun e s' h'=> ?_)
   cases e with
   |normal=>exact kE gI y Q s' ok.2 h'
   |_=>exact h'
 | .region _ R false,Q,s,ok,h=>adE ok h
 | .region _ R true,Q,s,ok,h=>aaR gI ok h
 | .cond c x y,Q,s,ok,h=>by
   simp only[codeOk,Bool.and_eq_true] at ok;simp only[CW,Dt] at h;split at h
   ·rename_i b hb;exact ZF hb (fun e=>kE gI x Q s ok.1 (h.1 e)) (fun e=>kE gI y Q s ok.2 (h.2 e))
   ·exact h.elim
 | .block id c,Q,s,ok,h=>Vu (kE gI c _ s ok h)
 | .exit id,Q,s,ok,h=>akG h
 | .ret,Q,s,ok,h=>am0 h
 | .skip,Q,s,ok,h=>akF h
 | .loop c,Q,s,ok,h=>h
 | .rangeFunc _ _ _ _,Q,s,ok,h=>h.elim
 | .scope _,Q,s,ok,h=>h.elim
 | .label _,Q,s,ok,h=>h.elim
 | .goto _,Q,s,ok,h=>h.elim
 | .refuse _,Q,s,ok,h=>h.elim
theorem ano{x y:Code}{Q:Exit->St->Prop}:CW P N (.seq x y) Q s=CW P N x (lY (CW P N y Q) Q) s:=by rw[CW]
theorem aec{id:Nat}{l:List Oper}{Q:Exit->St->Prop}:CW P N (.region id ⟨l⟩ false) Q s=Ef P ⟨l⟩ l s (Q .normal):=by rw[CW]
theorem akV{id:Nat}{l:List Oper}{Q:Exit->St->Prop}:CW P N (.region id ⟨l⟩ true) Q s=wz P (OG ⟨l⟩ N) ⟨l⟩ l s (Q .normal):=by rw[CW]
theorem akW{c:Operand}{x y:Code}{Q:Exit->St->Prop}:CW P N (.cond c x y) Q s=Dt (ev s.tm c) (CW P N x Q) (CW P N y Q) s:=by rw[CW]
theorem ahj{id:Nat}{c:Code}{Q:Exit->St->Prop}:CW P N (.block id c) Q s=CW P N c (zR id Q) s:=by rw[CW]
theorem akX{id:Nat}{Q:Exit->St->Prop}:CW P N (.exit id) Q s=Q (.exit id) s:=by rw[CW]
theorem anp{Q:Exit->St->Prop}:CW P N .ret Q s=Q .ret s:=by rw[CW]
theorem akY{Q:Exit->St->Prop}:CW P N .skip Q s=Q .normal s:=by rw[CW]
theorem ZL{c:Code}{Q:Exit->St->Prop}:CW P N (.loop c) Q s=AW P N (.loop c) Q s:=by rw[CW]
theorem V5{K:St->Prop}{Q:Exit->St->Prop}:lY K Q .normal s=K s:=rfl
theorem aed{K:St->Prop}{Q:Exit->St->Prop}:lY K Q .ret s=Q .ret s:=rfl
theorem abl{K:St->Prop}{Q:Exit->St->Prop}{i:Nat}:lY K Q (.exit i) s=Q (.exit i) s:=rfl
theorem V6{id:Nat}{Q:Exit->St->Prop}:zR id Q .normal s=Q .normal s:=rfl
theorem aee{id:Nat}{Q:Exit->St->Prop}:zR id Q .ret s=Q .ret s:=rfl
theorem abm{id i:Nat}{Q:Exit->St->Prop}:zR id Q (.exit i) s=if i=id then Q .normal s else Q (.exit i) s:=rfl
def ahk(post:V->Store->Prop)(s:St)(r:R):Prop:=r.1/\match r.2.ret with
 |some v=>post v (gW s.st)
 |none=>False
theorem akZ{post:V->Store->Prop}{p:Prop}{v:V}:ahk post s (p,v)=(p/\match v.ret with
 |some v=>post v (gW s.st)
 |none=>False):=rfl
def Rh(P:Program)(rs:List ResultVar)(post:V->Store->Prop)(e:Exit)(s:St):Prop:=agF P rs post e (GD s)
def V7(P:Program)(rs:List ResultVar)(post:V->Store->Prop)(s:St):Prop:=ahk post s (qO P rs s)
theorem ahl{rs:List ResultVar}{post:V->Store->Prop}:Rh P rs post .ret s=V7 P rs post (GD s):=rfl
theorem Yz{rs:List ResultVar}{post:V->Store->Prop}:Rh P rs post .normal s=V7 P rs post (GD s):=rfl
theorem ak0{rs:List ResultVar}{post:V->Store->Prop}{tm:List (Nat×V)}:V7 P rs post ⟨tm,S⟩=ahk post ⟨tm,S⟩ (qO P rs ⟨tm,S⟩):=rfl
def anq(j:Nat)(es:List (List D))(tm:List (Nat×V)):List (Nat×V):=tm.map fun x=>(x.1,x.2.oJ j es)
theorem aef{j:Nat}{es:List (List D)}{tm:List (Nat×V)}{t:Nat}:look (anq j es tm) t=(look tm t).oJ j es:=Io (f:=V.oJ j es) rfl tm t
def anr(j:Nat)(tm:List (Nat×V))(own:List Obj)(Ω:Store):Option Obj->St
 |some (.fO _ es)=>⟨anq j es tm,(own.map (Obj.oJ j es)).set j .dead::Ω⟩
 |_=>⟨tm,own::Ω⟩
theorem ahm{j:Nat}{tm:List (Nat×V)}{own:List Obj}{Ω:Store}:OP j ⟨tm,own::Ω⟩=anr j tm own Ω (own[j]?):=by
 unfold OP
 simp only
 generalize own[j]? =o
 cases o with
 |none=>rfl
 |some o=>cases o<;>rfl
theorem aeg{tm:List (Nat×V)}{own:List Obj}{Ω:Store}:GD ⟨tm,own::Ω⟩=OQ own.length ⟨tm,own::Ω⟩:=rfl
theorem aB{f:FuncId}{fn:Func}{c:Code}{args:List V}{post:V->Store->Prop}{rs:List ResultVar}(gI:P.follows .mixedOrders=true)(hf:P.funcs[f]? =some fn)(hN:fn.ntmps=N)
 (hb:fn.body=some c) (hn:(fn.name== "runtime.NumGoroutine")=false) (hr:fn.results.toList=rs) (hl:Nat.ble args.length N=true) (hok:codeOk N c=true)
 (h:CW P N c (Rh P rs post) ⟨mO (args.map (V.up 1)) 0,[]::S⟩):bX P f args S post:=by
 subst hN;subst hr;exact tK hf hb hn (Nat.le_of_ble_eq_true hl) (yA zW (kE gI c _ _ hok h))
end
theorem LA(n:Int)(h: -9223372036854775808<=n/\n<=9223372036854775807):IntKind.i64.wrap n=n:=IntWalk.i64_in n h
theorem wrap_u8(n:Int)(h:0<=n/\n<=255):IntKind.u8.wrap n=n:=IntWalk.u8_in n h
theorem getD_map{α β:Type}(f:α->β)(l:List α)(i:Nat)(d:β)(h:i<l.length):(l.map f).getD i d=f l[i]:=by
 simp[List.getD,h]
theorem abn{k:IntKind}{n:Int}:D6 (.int k n)=.c (.d (.i k n)):=rfl
theorem YA{b:Bool}:D6 (.bool b)=.c (.d (.b b)):=rfl
theorem abo{l:List UInt8}:D6 (.string ⟨⟨l⟩⟩)=.c (.d (.s l)):=rfl
theorem YB:D6 (.slice none 0 0)=.c (.bF []):=rfl
theorem ahn{tm:List (Nat×V)}{S:Store}{d:Nat}{v:V}:St.put ⟨tm,S⟩ (some d) v=⟨(d,v)::tm,S⟩:=rfl
theorem aho{tm:List (Nat×V)}{S:Store}{v:V}:St.put ⟨tm,S⟩ none v=⟨tm,S⟩:=rfl
theorem ant{a b:V}:Lf (.c (.d (.b true))) a b=(True,a):=rfl
theorem anu{a b:V}:Lf (.c (.d (.b false))) a b=(True,b):=rfl
theorem YC{tm:List (Nat×V)}{own:List Obj}{Ω:Store}{dst:Option Nat}{o:Obj}{mk:Key->V}{K:St->Prop}:
 newObj ⟨tm,own::Ω⟩ dst o mk K=K (St.put ⟨tm,(own++[o])::Ω⟩ dst (mk (0,own.length))):=rfl
theorem anv{x:C}{s:St}{dst:Option Nat}{K:St->Prop}:Ec (.c x) s dst K=newObj s dst (.box [x]) (fun k=>.c (.ptr k 0)) K:=rfl
theorem ahp{x:List C}{s:St}{dst:Option Nat}{K:St->Prop}:Ec (.agg x) s dst K=newObj s dst (.box x) (fun k=>.c (.ptr k 0)) K:=rfl
theorem ahq{α β:Type}{f:α->Option β}:([]:List α).mapM f=some []:=by simp
theorem aeh{α β:Type}{f:α->Option β}{x:α}{xs:List α}:(x::xs).mapM f=(f x).bind fun y=>(xs.mapM f).bind fun ys=>some (y::ys):=by
 rw[List.mapM_cons];rfl
theorem apq{c:C}:C.down 0 c=some c:=by cases c<;>simp[C.down]
theorem ahr{n m j:Nat}{es:List (List D)}:C.down n (.bI (n+m,j) es)=some (.bI (m,j) es):=by simp[C.down]
theorem aei{n j:Nat}{es:List (List D)}:C.down n (.bI (n,j) es)=some (.bI (0,j) es):=by simp[C.down]
theorem anw{n:Nat}{x:D}:C.down n (.d x)=some (.d x):=rfl
theorem ahs{n:Nat}:C.down n .any=some .any:=rfl
theorem aht{n:Nat}{es:List (List D)}:C.down n (.bF es)=some (.bF es):=rfl
theorem ahu{n m j off:Nat}:C.down n (.ptr (n+m,j) off)=some (.ptr (m,j) off):=by simp[C.down]
theorem aej{n j off:Nat}:C.down n (.ptr (n,j) off)=some (.ptr (0,j) off):=by simp[C.down]
theorem ahv{n m:Nat}{es:List (List D)}:C.down n (.lG m es)=some (.lG m es):=rfl
theorem ahw{Ω:Store}:rP ([]::Ω)=none:=rfl
theorem ahx{cs:List C}{own:List Obj}{Ω:Store}:rP ((.box cs::own)::Ω)=none:=rfl
theorem ahy{z:Nat}{es:List (List D)}{own:List Obj}{Ω:Store}:rP ((.tok z es::own)::Ω)=none:=rfl
theorem aek{z:Nat}{es:List (List D)}{own:List Obj}{Ω:Store}:rP ((.fO z es::own)::Ω)=none:=rfl
theorem ak1{m:List (List UInt8)}{own:List Obj}{Ω:Store}:rP ((.mp m::own)::Ω)=none:=rfl
theorem ael{own:List Obj}{Ω:Store}:rP ((.dead::own)::Ω)=none:=rfl
theorem aem{n z:Nat}{es:List (List D)}{own:List Obj}{Ω:Store}:rP ((.eG n z es::own)::Ω)=none:=rfl
theorem aen{n:Nat}{own:List Obj}{Ω:Store}:rP ((.seed n::own)::Ω)=some n:=rfl
theorem aeo{es x:List (List D)}{z:Nat}{s:St}{dst:Option Nat}{K:St->Prop}:Ed none es s dst z x K=Cv (zN s.st) es s dst z x K:=rfl
theorem abp{es x:List (List D)}{z:Nat}{s:St}{dst:Option Nat}{K:St->Prop}:Cv false es s dst z x K=newObj s dst (.tok z x) (fun k=>.c (.bI k x)) K:=rfl
theorem aep{es x:List (List D)}{z:Nat}{s:St}{dst:Option Nat}{K:St->Prop}:Cv true es s dst z x K=(es.length<x.length/\newObj s dst (.fO z x) (fun k=>.c (.jQ k)) K):=rfl
theorem ahz{Ω:Store}:zN ([]::Ω)=false:=rfl
theorem ahA{cs:List C}{own:List Obj}{Ω:Store}:zN ((.box cs::own)::Ω)=false:=rfl
theorem ahB{z:Nat}{es:List (List D)}{own:List Obj}{Ω:Store}:zN ((.tok z es::own)::Ω)=false:=rfl
theorem aer{z:Nat}{es:List (List D)}{own:List Obj}{Ω:Store}:zN ((.fO z es::own)::Ω)=false:=rfl
theorem ak2{m:List (List UInt8)}{own:List Obj}{Ω:Store}:zN ((.mp m::own)::Ω)=false:=rfl
theorem aes{own:List Obj}{Ω:Store}:zN ((.dead::own)::Ω)=false:=rfl
theorem aeu{n z:Nat}{es:List (List D)}{own:List Obj}{Ω:Store}:zN ((.eG n z es::own)::Ω)=false:=rfl
theorem aev{n:Nat}{own:List Obj}{Ω:Store}:zN ((.seed n::own)::Ω)=false:=rfl
theorem ak3{own:List Obj}{Ω:Store}:zN ((.xf []::own)::Ω)=false:=rfl
theorem ahC{own:List Obj}{Ω:Store}{r:List (List D)}{rs:List (List (List D))}:zN ((.xf (r::rs)::own)::Ω)=true:=rfl
theorem ahD{n:Nat}{x:List (List D)}{z:Nat}{s:St}{dst:Option Nat}{K:St->Prop}:Ed (some n) [] s dst z x K=K (St.put ⟨s.tm,s.st⟩ dst (.c (.d (.ol n x)))):=rfl
theorem aew{n:Nat}{y:List D}{es x:List (List D)}{z:Nat}{s:St}{dst:Option Nat}{K:St->Prop}:Ed (some n) (y::es) s dst z x K=newObj s dst (.tok z x) (fun k=>.c (.bI k x)) K:=rfl
theorem abq{n:Nat}{x:List (List D)}{z:Nat}{s:St}{dst:Option Nat}{K:St->Prop}:FY false n s dst z x K=newObj s dst (.eG n z x) (fun k=>.c (.bI k x)) K:=rfl
theorem aex{n:Nat}{x:List (List D)}{z:Nat}{s:St}{dst:Option Nat}{K:St->Prop}:FY true n s dst z x K=K (St.put ⟨s.tm,s.st⟩ dst (.c (.d (.ol n x)))):=rfl
theorem ahE{own:List Obj}{Ω:Store}:aaE (own::Ω)=zO own[1]? :=rfl
theorem abr:zO none=false:=rfl
theorem aey{cs:List C}:zO (some (.box cs))=false:=rfl
theorem aez{z:Nat}{es:List (List D)}:zO (some (.tok z es))=false:=rfl
theorem abt{n z:Nat}{es:List (List D)}:zO (some (.eG n z es))=false:=rfl
theorem abu{z:Nat}{es:List (List D)}:zO (some (.fO z es))=false:=rfl
theorem abv:zO (some .dead)=false:=rfl
theorem ahF{m:List (List UInt8)}:zO (some (.mp m))=false:=rfl
theorem ak4{own:List Obj}{Ω:Store}{t:TypeId}:aaJ (own::Ω) t=Cw own[0]? t:=rfl
theorem aeA{t:TypeId}:Cw none t=false:=rfl
theorem ahG{t:TypeId}{cs:List C}:Cw (some (.box cs)) t=false:=rfl
theorem ahH{t:TypeId}{z:Nat}{es:List (List D)}:Cw (some (.tok z es)) t=false:=rfl
theorem aeB{t:TypeId}{n z:Nat}{es:List (List D)}:Cw (some (.eG n z es)) t=false:=rfl
theorem aeC{t:TypeId}{z:Nat}{es:List (List D)}:Cw (some (.fO z es)) t=false:=rfl
theorem aeD{t:TypeId}:Cw (some .dead) t=false:=rfl
theorem ak5{t:TypeId}{m:List (List UInt8)}:Cw (some (.mp m)) t=false:=rfl
theorem aeE{t:TypeId}{n:Nat}:Cw (some (.seed n)) t=false:=rfl
theorem ak6{t:TypeId}:Cw (some (.xf [])) t=rowIs t:=rfl
theorem ahI{t:TypeId}{r:List (List D)}{rs:List (List (List D))}:Cw (some (.xf (r::rs))) t=false:=rfl
theorem abw{P:Program}{t:TypeId}{s:St}{dst:Option Nat}{K:St->Prop}{r:R}:JQ P t s dst K false r=iq s dst K r:=rfl
theorem aeF{P:Program}{t:TypeId}{s:St}{dst:Option Nat}{K:St->Prop}{p:Prop}{es:List (List D)}:JQ P t s dst K true (p,.c (.bF es))=(match P.underlying t with
 |some (.slice e)=>p/\newObj s dst (.fO (P.cellsOf e) es) (fun k=>.c (.jQ k)) K
 |_=>False):=rfl
theorem ak7{own:List Obj}{Ω:Store}{rs:List (List (List D))}:rP ((.xf rs::own)::Ω)=none:=rfl
theorem YD:zO (some (.seed 0))=false:=rfl
theorem YE:zO (some (.seed 1))=true:=rfl
attribute [go_sem ↓] Yi adW Yj aaZ Ua OT VR aa0 adX adY adZ aa1 VT aa2 aa3 OU Yk OV Yl Ym aa4 Ub Uc Q7 Q8 Yn Yo VU M7
attribute [go_sem] ak4 aeA ahG ahH aeB aeC aeD ak5 aeE ak6 ahI rowIs abw aeF ak7 DT Gy List.getElem?_nil
attribute [go_sem] abp aep ahz ahA ahB aer ak2 aes aeu aev ak3 ahC aeo ahD aew abq aex ahE abr aey aez abt abu abv ahF YD YE
theorem ahJ{P:Program}{t:TypeId}{n:Nat}{parts:List (Nat×V)}:nH P none t n parts=tJ P t n parts:=rfl
def aj8(m:Nat):R->R
 |(p,.c (.bF es))=>(p,.c (.lG m es))
 |_=>no
theorem ahK{m:Nat}{p:Prop}{es:List (List D)}:aj8 m (p,.c (.bF es))=(p,.c (.lG m es)):=rfl
theorem ahL{P:Program}{m:Nat}{t:TypeId}{n:Nat}{parts:List (Nat×V)}:nH P (some m) t n parts=aj8 m (tJ P t n parts):=rfl
attribute [go_sem_proc] Nat.reduceEqDiff Nat.reduceAdd Nat.reduceLeDiff Nat.reduceSub Nat.reduceMul Nat.reduceBEq Int.reduceEq Int.reduceLT Int.reduceLE Int.reduceGT Int.reduceGE Int.reduceNeg Int.reduceToNat
attribute [go_sem_proc ↓] reduceIte
attribute [wf_preprocess] decide_eq_true_eq decide_eq_false_iff_not Bool.not_eq_true Bool.not_eq_false Bool.not_eq_eq_eq_not Bool.not_true Bool.not_false Classical.not_not
attribute [go_sem ↓] ahg adS adT aaX ahh adU adV aaY Yf Yg VO VP akU ahb adN ano aec akV akW ahj akX anp akY ZL V5 aed abl V6 aee abm ahl Yz aeg Yh VQ adP adQ adR aea aeb aa5 ahi aa6 ad2 VW Q9 Yp Ud OW VX ad3 ad4 Yq ad5 ad6 Ra aa7 Rb aa8 aa9 ad7 VY VZ Ue Uf abb abd OX Yr ad8 Yt abe V3 abf V4 abg abh OY Yu OZ Yv Yw abj Ug Uh Rc Rf Yx Yy M8 ad9 abk
attribute [go_sem] Em aaV Ye ahc ak0 akZ Dt OQ ahm anr aef V.oJ C.oJ Obj.oJ ahd ahe ahf En
 aaT aaU akS ag7 ag8 ag9 akT aha ev abn YA abo YB Gq ahn aho look ant anu YC anv ahp wN wO zM uq Vk
 Dm Lg zF headD aaq uT Gs Fb BJ uU Gt aar aas QT aat Zx Lh Ay H7 Gu zG yY capOf yZ
 U5 yK Az vR vS yj bE bG C.up V.up CX gQ mO V.uf C.uf apq ahr aei anw ahs aht ahu aej
 List.map_cons List.map_nil List.append_nil List.nil_append List.length_nil List.length_cons List.cons_append Option.map_some Option.map_none Option.bind_some Option.bind_none
 List.getElem?_cons_zero List.getElem?_cons_succ List.set_cons_zero List.set_cons_succ List.drop_zero List.drop_succ_cons List.drop_nil List.take_zero List.take_succ_cons List.take_nil
 if_true if_false true_and and_true Int.toNat_natCast List.getElem?_toArray List.size_toArray Nat.zero_add Nat.add_zero Bool.false_eq_true Bool.true_eq_false Bool.not_true Bool.not_false reduceCtorEq
 decide_true decide_false List.all_cons List.all_nil Bool.and_true Bool.true_and Option.isSome_some Option.isSome_none LA getD_map ahq aeh R8 splice List.length_map H8 Gv y5 tJ List.size_toArray ahw ahx ahy aek ak1 ael aem aen ahJ ahL ahK ahv
section
variable {P:Program} {S S':Store} {N:Nat} {s:St}
def gT:List Nat->List V->List (Nat×V)
 |t::ts,v::vs=>(t,v)::gT ts vs
 |_,_=>[]
theorem AO(f:Nat->V):∀(ts:List Nat)(t:Nat),look (gT ts (ts.map f)) t=f t\/look (gT ts (ts.map f)) t=.any
 |[],t=>.inr rfl
 |u::us,t=>by
  show(if u=t then f u else look (gT us (us.map f)) t)=f t\/(if u=t then f u else look (gT us (us.map f)) t)=.any;by_cases e:u=t
  ·left;rw[if_pos e,e]
  ·rw[if_neg e];exact AO f us t
def Inv{ι:Type}(N:Nat)(ts:List Nat)(f:ι->List V)(g:ι->Store)(p:ι->Prop)(μ:ι->Nat)(i:ι)(s':St):Prop:=∃j s0,μ j<μ i/\ig N s' s0/\ts.map (look s0.tm)=f j/\s0.st=g j/\p j
theorem dB{ι:Type}{ts:List Nat}{f:ι->List V}{g:ι->Store}{p:ι->Prop}{μ:ι->Nat}{i:ι}(j:ι)(h1:μ j<μ i)(h2:ts.map (look s.tm)=f j)(h3:s.st=g j)(h4:p j):Inv N ts f g p μ i s:=
 ⟨j,s,h1,ig.refl _ _,h2,h3,h4⟩
theorem Eo:∀(ts:List Nat)(vs:List V),ts.Nodup->ts.length=vs.length->ts.map (look (gT ts vs))=vs
 |[],[],_,_=>rfl
 |t::ts,v::vs,hn,hl=>by
  have hn':=List.nodup_cons.1 hn;have ih:=Eo ts vs hn'.2 (by simpa using hl);simp only[gT,List.map_cons,look,if_true,List.cons.injEq,true_and];rw[<-ih];refine List.map_congr_left fun u hu=> ?_;have hne:t≠u:=fun e=>hn'.1 (e▸hu);rw[if_neg hne,ih]
theorem bT{ι:Type}{ts:List Nat}{f:ι->List V}{g:ι->Store}{p:ι->Prop}{μ:ι->Nat}{i:ι}{tm:List (Nat×V)}{own:List Obj}{Ω:Store}(n:Nat)(hnd:ts.Nodup)(j:ι)(h1:μ j<μ i)(h2:ts.map (look tm)=f j)(h3:own.take n::Ω=g j)
 (hr:iN n (gT ts (f j))=true)(ho:(own.take n).all (Obj.refs n)=true)(h4:p j):Inv N ts f g p μ i ⟨tm,own::Ω⟩:=by
 refine⟨j,⟨gT ts (f j),own.take n::Ω⟩,h1,?_,?_,h3,h4⟩
 ·have hg:ig N ⟨tm,own::Ω⟩ ⟨gT ts (f j),own::Ω⟩:=by
   rw[<-h2];exact M6 fun t=>AO _ ts t
  exact hg.trans (OL n hr ho)
 ·exact Eo ts (f j) hnd (by rw[<-h2];simp)
theorem aZ{ι:Type}{c:Code}{Q:Exit->St->Prop}(gI:P.follows .mixedOrders=true)(hok:codeOk N c=true)(ts:List Nat)(f:ι->List V)(g:ι->Store)(p:ι->Prop)(μ:ι->Nat)(i0:ι)
 (h1:ts.map (look s.tm)=f i0)(h2:s.st=g i0)(h3:p i0)
 (round:∀i,p i->CW P N c (lY (Inv N ts f g p μ i) Q) ⟨gT ts (f i),g i⟩):AW P N (.loop c) Q s:=by
 refine ZG (ι:=ι) (fun i s=>∃s0,ig N s s0/\ts.map (look s0.tm)=f i/\s0.st=g i/\p i) μ i0 ⟨s,ig.refl _ _,h1,h2,h3⟩ fun i s hI=> ?_;obtain⟨s0,hg,h1,h2,h3⟩:=hI;refine lU ?_ hg
 have hr:=(kE gI c _ _ hok (round i h3)).mono (Q':=lY (fun s'=>∃j,μ j<μ i/\∃s0,ig N s' s0/\ts.map (look s0.tm)=f j/\s0.st=g j/\p j) Q) fun e s' h=>by
  cases e with
  |normal=>
   obtain⟨j,s0,a1,a2,a3,a4,a5⟩:=h;exact⟨j,a1,s0,a2,a3,a4,a5⟩
  |_=>exact h
 obtain⟨tm,st⟩:=s0;simp only at h1 h2;subst h2;rw[<-h1] at hr;exact aj6 hr fun t=>AO _ ts t
theorem ahM:qO P [] s=(True,.fF []):=rfl
theorem ahN{x:ResultVar}:qO P [x] s=zS P s x:=rfl
theorem ahO{x y:ResultVar}{z:List ResultVar}:qO P (x::y::z) s=(match(rQ P s (x::y::z)).2 with
 |some ys=>((rQ P s (x::y::z)).1,.fF ys)
 |none=>no):=rfl
end
attribute [go_sem] H6 Ob
attribute [go_sem] gT ahM ahN ahO zS rQ OC gW V.ret Lm
end Go.Ab