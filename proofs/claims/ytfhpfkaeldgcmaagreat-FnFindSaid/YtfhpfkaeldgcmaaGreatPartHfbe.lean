/-
  SEVERAL TEXTS IN ONE (merged by program): contracts and models, each with its own heading.
-/
import Derived.Test.YtfhpfkaeldgcmaaGreatPartHfbM
import Derived.Test.YtfhpfkaeldgcmaaGreatPartHfba
import Derived.Test.YtfhpfkaeldgcmaaGreatPartHfbb
import Derived.Test.YtfhpfkaeldgcmaaGreatPartHfbc
import Derived.Test.YtfhpfkaeldgcmaaGreatPartHfbd
import Derived.Lib.FrozenHead2
import Derived.Lib.OthersKept
import Derived.Lib.AppendStr
import Derived.Lib.UnsafeStr
import Derived.Lib.Builder
import Derived.Deep.LoopGhost
import Derived.Deep.AppendLies
import Derived.Laws.ResultCell
import Derived.Deep.RegionHeld3
import Derived.Deep.RegionLaw
import Derived.Lib.SplitLaws
import Derived.Lib.TrimByte
import Derived.Shelf.Strings.Split
import Derived.Shelf.Strings.Trim
set_option maxHeartbeats 8000000
open Go.Proofs Go.Proofs.Tryz
set_option linter.unusedSimpArgs false
set_option linter.unusedVariables false
set_option maxRecDepth 100000
set_option maxRecDepth 4000
set_option maxRecDepth 8000
namespace Go.Ab
open Go.RowKit
def PS(by':List UInt8):List (List UInt8)->List UInt8
 |[]=>[]
 |x::xs=>x++(xs.map fun y=>by'++y).flatten
mutual
def YB:au->List UInt8
 | .mk a l=>if a=[] then [40]++PS [32] (DV l)++[41] else a
def DV:List au->List (List UInt8)
 |[]=>[]
 |x::xs=>YB x::DV xs
end
theorem abo(b:List UInt8):∀l:List (List UInt8),(PS b l).length<=(l.map fun x=>b.length+x.length).sum
 |[]=>by simp[PS]
 |x::xs=>by
  have h:∀ys:List (List UInt8),((ys.map fun y=>b++y).flatten).length=(ys.map fun x=>b.length+x.length).sum:=by
   intro ys
   induction ys with
   |nil=>rfl
   |cons y ys ih=>rw[List.map_cons,List.flatten_cons,List.length_append,List.length_append,ih,List.map_cons,List.sum_cons]
  rw[PS,List.length_append,h,List.map_cons,List.sum_cons];omega
mutual
theorem abp:∀x:au,(YB x).length<=2+3*x.sz
 | .mk a l=>by
   have h:=L6 l;rw[iX,kg];simp only[au.bK,au.aA];rw[YB];split
   ·have:=abo [32] (DV l);simp only[List.length_append,List.length_cons,List.length_nil] at this ⊢;omega
   ·omega
theorem L6:∀l:List au,((DV l).map fun x=>0+1+x.length).sum<=3*l.length+3*dK l
 |[]=>by simp[DV]
 |x::xs=>by
  have h1:=abp x;have h2:=L6 xs;rw[DV,List.map_cons,List.sum_cons,dK,List.length_cons];omega
end
structure JZ(w:World)(σ:Nat->Nat)(B:Nat)(e:TypeId)(v:Value)(l:List au):Prop where
 own:∃xs,w.ownsRow B e 2 v l.length xs/\∀(i:Nat)(d:D),(l.map au.enc).flatten[i]? =some d->∃u,xs[i]? =some u/\dN w σ d u
 free:∀b,v.ownBlock=some b->σ b=0
theorem OJ{w w':World}{B:Nat}{e:TypeId}{z n:Nat}{v:Value}{xs:List Value}(h:w.ownsRow B e z v n xs)(hk:∀b,v.ownBlock=some b->w'.heap[b]? =w.heap[b]?):w'.ownsRow B e z v n xs:=by
 refine⟨h.1,?_⟩;rcases h.2 with hn|⟨g,cap,cur,rfl,hb,hg,rest⟩
 ·exact .inl hn
 ·exact .inr ⟨g,cap,cur,rfl,hb,(hk g rfl).trans hg,rest⟩
theorem JZ.mono{w w':World}{σ σ':Nat->Nat}{B:Nat}{e:TypeId}{v:Value}{l:List au}(h:JZ w σ B e v l)(hn:eG w σ w' σ')(hk:∀b,v.ownBlock=some b->w'.heap[b]? =w.heap[b]? /\σ' b=σ b):JZ w' σ' B e v l:=by
 obtain⟨⟨xs,h1,h2⟩,h3⟩:=h;refine⟨⟨xs,OJ h1 fun b hb=>(hk b hb).1,fun i d hd=> ?_⟩,fun b hb=>(hk b hb).2.trans (h3 b hb)⟩;obtain⟨u,hu,hr⟩:=h2 i d hd;exact⟨u,hu,hr.mono hn⟩
theorem SF(l:List au):∀e∈l.map au.enc,e.length=2:=by
 intro e he;obtain⟨x,_,rfl⟩:=List.mem_map.1 he;rw[au.aj];rfl
theorem JZ.fast{w:World}{σ:Nat->Nat}{B:Nat}{e:TypeId}{v:Value}{l:List au}(h:JZ w σ B e v l)(hl:∀b,b<w.heap.size\/σ b=0):
 ∃σ',eG w σ w σ'/\(∀b,v.ownBlock≠some b->σ' b=σ b)/\(∀b,b<w.heap.size\/σ' b=0)/\dN w σ' (.sl (l.map au.enc)) v:=by
 obtain⟨⟨xs,⟨h1,h2⟩,h3⟩,h4⟩:=h;rcases h2 with⟨rfl,h0⟩|⟨g,cap,cur,rfl,hb,hg,hn,hm,hs,ht⟩
 ·obtain rfl:l=[]:=List.eq_nil_of_length_eq_zero h0;exact⟨σ,eG.refl _ _,fun _ _=>rfl,hl,.nil _ _⟩
 have hn':eG w σ w (fun b=>if b=g then 0+(l.map au.enc).length*2 else σ b):=by
  intro b1 c1 t1 E9 e1;by_cases q:b1=g
  ·subst q;have:=h4 b1 rfl;rw[hg] at e1;cases e1;exact⟨by simp only[if_true];omega,fun h=>by omega,cur,hg,rfl,fun _ _=>rfl⟩
  ·exact⟨by simp only[if_neg q];exact Nat.le_refl _,fun _=>if_neg q,c1,e1,rfl,fun _ _=>rfl⟩
 refine⟨_,hn',fun b hb=>if_neg fun q=>hb (by rw[q];rfl),fun b=> ?_,?_⟩
 ·by_cases q:b=g
  ·left;rw[q];exact lt_of_some hg
  ·simp only[if_neg q];exact hl b
 ·have hlen:(l.map au.enc).length=l.length:=by simp
  have hfl:=jh _ 2 (SF l)
  have:=dN.sl (w:=w) (σ:=fun b=>if b=g then 0+(l.map au.enc).length*2 else σ b) g 0 cap 2 (l.map au.enc) (fun i=>(cur[i]?).getD undef) cur e (0,0) (by omega) (SF l) hg (by simp) (fun i hi=>by
   have:i<cur.size:=by rw[hlen] at hi;have:l.length*2<=cap*2:=Nat.mul_le_mul_right _ hn;omega
   simp[this]) (fun i d hd=>by
   obtain⟨u,hu,hr⟩:=h3 i d hd;have hil:=(List.getElem?_eq_some_iff.1 hd).1;rw[<-ht,List.getElem?_take_of_lt (by omega),Array.getElem?_toList] at hu;simp only[hu,Option.getD_some]
   exact hr.mono hn')
  simp only[List.length_map] at this ⊢;exact this
structure yE(w:World)(σ:Nat->Nat)(B:Nat)(eo e:TypeId)(ov:Value)(hs:List Value)(rs:List (List au)):Prop where
 own:w.ownsRow B eo 1 ov hs.length hs
 free:∀b,ov.ownBlock=some b->σ b=0
 rows:∀(j:Nat)(l:List au),rs[j]? =some l->∃hv,hs[j]? =some hv/\JZ w σ B e hv l/\∀b,hv.ownBlock=some b->ov.ownBlock≠some b
 apart:∀(i j:Nat)(hi hj:Value)(b:Nat),i≠j->i<rs.length->j<rs.length->hs[i]? =some hi->hs[j]? =some hj->hi.ownBlock=some b->hj.ownBlock≠some b
theorem yE.mono{w w':World}{σ σ':Nat->Nat}{B:Nat}{eo e:TypeId}{ov:Value}{hs:List Value}{rs:List (List au)}(h:yE w σ B eo e ov hs rs)(hn:eG w σ w' σ')
 (hk:∀b,b<w.heap.size->σ b=0->w'.heap[b]? =w.heap[b]? /\σ' b=σ b):yE w' σ' B eo e ov hs rs:=by
 have hlt:∀b,ov.ownBlock=some b->b<w.heap.size:=fun b hb=>(h.own.lt b hb).2;refine⟨OJ h.own fun b hb=>(hk b (hlt b hb) (h.free b hb)).1,fun b hb=>(hk b (hlt b hb) (h.free b hb)).2.trans (h.free b hb),fun j l hj=> ?_,h.apart⟩;obtain⟨hv,h1,h2,h3⟩:=h.rows j l hj;refine⟨hv,h1,h2.mono hn fun b hb=> ?_,h3⟩;obtain⟨xs,ho,_⟩:=h2.own;exact hk b (ho.lt b hb).2 (h2.free b hb)
theorem yE.grow{w w':World}{σ σ':Nat->Nat}{B:Nat}{eo e:TypeId}{ov:Value}{hs:List Value}{rs:List (List au)}(h:yE w σ B eo e ov hs rs)(hg:Grow w σ w' σ'):yE w' σ' B eo e ov hs rs:=
 h.mono hg.near fun b hb _=>hg.old b hb
theorem yE.fast{w:World}{σ:Nat->Nat}{B:Nat}{eo e:TypeId}{ov:Value}{hs:List Value}{rs:List (List au)}{l:List au}(h:yE w σ B eo e ov hs (rs++[l]))(hl:∀b,b<w.heap.size\/σ b=0):
 ∃σ' hv,eG w σ w σ'/\(∀b,b<w.heap.size\/σ' b=0)/\(∀b,b<B->σ' b=σ b)/\hs[rs.length]? =some hv/\dN w σ' (.sl (l.map au.enc)) hv/\yE w σ' B eo e ov hs rs:=by
 obtain⟨hv,h1,h2,h3⟩:=h.rows rs.length l (by simp);obtain⟨σ',k1,k2,k3,k4⟩:=h2.fast hl;refine⟨σ',hv,k1,k3,fun b hb=>k2 b fun q=> ?_,h1,k4,h.own,fun b hb=>(k2 b fun q=>h3 b q hb).trans (h.free b hb),fun j l' hj=> ?_,fun i j hi hj b q1 q2 q3=>h.apart i j hi hj b q1 (by simp;omega) (by simp;omega)⟩
 ·obtain⟨xs,ho,_⟩:=h2.own;have:=(ho.lt b q).1;omega
 ·have hjl:=(List.getElem?_eq_some_iff.1 hj).1;obtain⟨hv',g1,g2,g3⟩:=h.rows j l' (by rw[List.getElem?_append_left hjl];exact hj);exact⟨hv',g1,g2.mono k1 fun b hb=>⟨rfl,k2 b fun q=>h.apart j rs.length hv' hv b (by omega) (by simp;omega) (by simp) g1 h1 hb q⟩,g3⟩
def Co(w W:World):Prop:=∀(b:Nat)(c:Array Value)(t:TypeId)(fz:Nat×Nat),w.heap[b]? =some (.cells c t fz)->∃c',W.heap[b]? =some (.cells c' t fz)/\c'.size=c.size
theorem Co.refl(w:World):Co w w:=fun b c t fz h=>⟨c,h,rfl⟩
theorem Co.trans{a b c:World}(h:Co a b)(k:Co b c):Co a c:=fun x y t fz e=>by
 obtain⟨c1,e1,s1⟩:=h x y t fz e;obtain⟨c2,e2,s2⟩:=k x c1 t fz e1;exact⟨c2,e2,s2.trans s1⟩
theorem Co.alloc(w:World)(o:Go.Obj):Co w (w.alloc o):=fun b c t fz e=>⟨c,(Lib.alloc_old w o b (lt_of_some e)).trans e,rfl⟩
theorem yE.put{w W:World}{σ:Nat->Nat}{B g cap j:Nat}{eo e:TypeId}{hs:List Value}{rs:List (List au)}{l':List au}{hv hv':Value}{cur:Array Value}(hl:∀b,b<w.heap.size\/σ b=0)
 (h:yE w σ B eo e (.slice (some ⟨g,0,none⟩) hs.length cap) hs rs)(hj:j<rs.length)(hh:hs[j]? =some hv)(hn:eG w σ W σ)(hg:w.heap[g]? =some (.cells cur eo (0,0)))(hG:W.heap[g]? =some (.cells (cur.setIfInBounds j hv') eo (0,0)))
 (wK:∀b,b<w.heap.size->b≠g->hv.ownBlock≠some b->W.heap[b]? =w.heap[b]?)(hrow:JZ W σ B e hv' l')(hblk:∀b,hv'.ownBlock=some b->hv.ownBlock=some b\/w.heap.size<=b):
 yE W σ B eo e (.slice (some ⟨g,0,none⟩) hs.length cap) (hs.set j hv') (rs.set j l'):=by
 have hgl:=lt_of_some hg;have hg0:σ g=0:=h.free g rfl;obtain⟨l,hlj⟩:∃l,rs[j]? =some l:=⟨_,List.getElem?_eq_getElem hj⟩;obtain⟨hv0,a1,a2,a3⟩:=h.rows j l hlj;rw[hh] at a1;cases a1;have hhl:=(List.getElem?_eq_some_iff.1 hh).1
 have low:∀(i:Nat)(l0:List au)(hv0:Value),rs[i]? =some l0->hs[i]? =some hv0->∀b,hv0.ownBlock=some b->b<w.heap.size:=fun i l0 hv0 e1 e2 b hb=>by
  obtain⟨hv1,c1,c2,_⟩:=h.rows i l0 e1;rw[e2] at c1;cases c1;obtain⟨xs,ho,_⟩:=c2.own;exact(ho.lt b hb).2
 refine⟨?_,h.free,fun i l0 hi=> ?_,fun i k hi hk b hne h1 h2 e1 e2 e3=> ?_⟩
 ·rw[List.length_set];obtain⟨o1,o2⟩:=h.own;refine⟨by rw[List.length_set];exact o1,?_⟩;rcases o2 with⟨o2,_⟩|⟨g0,cap0,aoh,e0,hb0,hg0',hn0,hm0,hs0,ht0⟩
  ·cases o2
  ·cases e0;rw[hg] at hg0';cases hg0';refine .inr ⟨g,cap,_,rfl,hb0,hG,hn0,hm0,by simpa using hs0,?_⟩;rw[Nat.mul_one] at ht0 ⊢;rw[Array.toList_setIfInBounds,List.take_set,ht0]
 ·by_cases q:i=j
  ·subst q
   have:l'=l0:=by
    rw[List.getElem?_set_self hj] at hi;exact Option.some.inj hi
   subst this;refine⟨hv',List.getElem?_set_self hhl,hrow,fun b hb q=> ?_⟩;cases q;rcases hblk g hb with k|k
   ·exact a3 g k rfl
   ·omega
  ·rw[List.getElem?_set_ne (Ne.symm q)] at hi ⊢;obtain⟨hv1,c1,c2,c3⟩:=h.rows i l0 hi;refine⟨hv1,c1,c2.mono hn fun b hb=>⟨wK b (low i l0 hv1 hi c1 b hb) (fun e=>c3 b hb (by rw[e];rfl)) fun e=> ?_,rfl⟩,c3⟩;exact h.apart i j hv1 hv b q (List.getElem?_eq_some_iff.1 hi).1 hj c1 hh hb e
 ·rw[List.length_set] at h1 h2;by_cases q:i=j
  ·subst q;rw[List.getElem?_set_self hhl] at e1;cases e1;rw[List.getElem?_set_ne hne] at e2;intro q3;rcases hblk b e3 with k'|k'
   ·exact h.apart i k hv hk b hne h1 h2 hh e2 k' q3
   ·have:=low k _ hk (List.getElem?_eq_getElem h2) e2 b q3;omega
  ·rw[List.getElem?_set_ne (Ne.symm q)] at e1;by_cases q2:k=j
   ·subst q2;rw[List.getElem?_set_self hhl] at e2;cases e2;intro q3;rcases hblk b q3 with k'|k'
    ·exact h.apart i k hi hv b hne h1 h2 e1 hh e3 k'
    ·have:=low i _ hi (List.getElem?_eq_getElem h1) e1 b e3;omega
   ·rw[List.getElem?_set_ne (Ne.symm q2)] at e2;exact h.apart i k hi hk b hne h1 h2 e1 e2 e3
def ai3(l:List UInt8)(rows:List (List au))(c:Nat):Option (List (List au)):=runT (lex l) rows c
def szR:List (List au)->Nat
 |[]=>0
 |l::r=>l.length+dK l+szR r
structure an5(s:List UInt8)(B R:Nat)(w0:World)(σ0:Nat->Nat)(T eo e:TypeId)(k:Nat)(v4 v5 v6:Value)(w:World):Prop where
 ex:∃(rows:List (List au)) (σ:Nat->Nat) (i c g cap:Nat) (hs:List Value),v4=.slice (some ⟨g,0,none⟩) rows.length cap/\v5=.int .i64 c/\v6=.int .i64 i/\
  hs.length=rows.length/\1<=rows.length/\rows.length<=15/\c<=1800/\i+k=s.length/\ai3 (s.drop i) rows c=ai3 s [[]] 0/\
  yE w σ B eo e v4 hs rows.reverse/\Grow w0 σ0 w σ/\Ar w σ/\(∀l∈rows,l.length<=c)/\szR rows<=2*i/\σ R=0/\w.heap[R]? =some (.cells #[.string ⟨#[]⟩,.slice none 0 0] T (0,0))
theorem YC{s:List UInt8}(h:mq s=false):kI s=dz:=by
 unfold kI;rw[dif_neg (kF h)]
theorem aeS(s:List UInt8):(kI s).sz<=1048576:=by
 cases h:mq s with
 |true=>have:=BZ (Uh h);omega
 |false=>rw[YC h,EL];omega
def fG(p:aM):List (List UInt8):=p.dI.map bF.fName
def gI(p:aM):List (List UInt8):=p.aO.map aR.fName
def fZ(ds:List aR):List (List UInt8):=ds.flatMap fun d=>d.aF.map aH.fName
def fnNames(p:aM):List (List UInt8):=p.dB.map bJ.fName
def qC(ps:List aM):List (List UInt8):=ps.flatMap fG
def qD(ps:List aM):List (List UInt8):=ps.flatMap gI
def qE(ps:List aM):List (List UInt8):=ps.flatMap fun p=>fZ p.aO
def rZ(ps:List aM):List (List UInt8):=ps.flatMap fnNames
noncomputable def jV(ps:List aM):Bool:=dec (qC ps).Nodup&&(dec (qD ps).Nodup&&(dec (qE ps).Nodup&&dec (rZ ps).Nodup))
theorem nX{α β:Type}(f:α->List β){xs:List α}{i:Nat}(hi:i<xs.length):(xs.take (i+1)).flatMap f=(xs.take i).flatMap f++f xs[i]:=by
 rw[List.take_succ_eq_append_getElem hi,List.flatMap_append]
 simp
theorem sV{α β:Type}(f:α->List β)(g:α->List D)(h:∀x,(f x).length<=bD (g x)):∀xs:List α,(xs.flatMap f).length<=aN (xs.map g)
 |[]=>by simp[aN]
 |x::xs=>by
  have h1:=h x;have h2:=sV f g h xs;rw[List.flatMap_cons,List.length_append,List.map_cons,aN];omega
theorem afz(ds:List aR):(fZ ds).length<=aN (ds.map aR.enc):=sV _ _ (fun d=>by
 rw[List.length_map];simp only[aR.aj,bD,aY,D.sz,List.length_map]
 omega) ds
theorem J2(ps:List aM):(qC ps).length<=aN (ps.map aM.enc)/\(qD ps).length<=aN (ps.map aM.enc)/\(qE ps).length<=aN (ps.map aM.enc)/\(rZ ps).length<=aN (ps.map aM.enc):=by
 refine⟨sV _ _ (fun p=> ?_) ps,sV _ _ (fun p=> ?_) ps,sV _ _ (fun p=> ?_) ps,sV _ _ (fun p=> ?_) ps⟩
 ·simp only[fG,aM.aj,bD,aY,D.sz,List.length_map];omega
 ·simp only[gI,aM.aj,bD,aY,D.sz,List.length_map];omega
 ·have:=afz p.aO;simp only[aM.aj,bD,aY,D.sz,List.length_map];omega
 ·simp only[fnNames,aM.aj,bD,aY,D.sz,List.length_map];omega
theorem aM.bounds{x:aM}(h:x.sz<=4194304):x.fName.length<=4194304/\x.iV.length<=4194304/\x.dI.length<=4194304/\x.aO.length<=4194304/\x.dV.length<=4194304/\x.dB.length<=4194304/\(fZ x.aO).length<=4194304:=by
 have:=afz x.aO;simp only[aM.sz,aM.aj,bD,aY,D.sz,List.length_map] at h;omega
theorem bG.bounds{x:bG}(h:x.sz<=4194304):x.aQ.length<=4194304:=by
 simp only[bG.sz,bG.aj,bD,aY,D.sz,List.length_map] at h;omega
def aeT(w:bG)(name:List UInt8):Int:=ail (fun p:aM=>decide (p.fName=name)) w.aQ
theorem Cq(xs:List (List UInt8))(x:List UInt8):xs.map encS++[[D.s x]]=(xs++[x]).map encS:=by simp[encS]
theorem YD(xs ys:List (List UInt8)):xs.map encS++ys.map encS=(xs++ys).map encS:=by simp
theorem Jb(p:aM)(hsz:p.sz<=4194304):bg prog 56 [p.v] (.eu [(false,[.d (.sl ((fG p).map encS))]),(false,[.d (.sl ((gI p).map encS))]),(false,[.d (.sl ((fZ p.aO).map encS))]),(false,[.d (.sl ((fnNames p).map encS))])]):=fun S=>by
 have hb0:=aM.bounds hsz;refine zcx [.tmp 2,.tmp 3,.tmp 4,.tmp 5] func56 ntmps56 ?_;simp -implicitDefEqProofs (disch:=omega) only[go_sem]
 (repeat(with_reducible refine And.intro ?_ ?_;focus first|omega|rfl|assumption|exact⟨_,rfl,rfl⟩|(simp;omega)|(simp;done)))
 refine iZ 6 1 [] rfl (by simp) ?_;refine iZ 7 1 [] rfl (by simp) ?_;refine iZ 8 1 [] rfl (by simp) ?_;refine iZ 9 1 [] rfl (by simp) ?_
 refine bO (ι:=Nat×List (List UInt8)) zmx rfl [1,6,7,8,9,10] (fun y=>[.c (.ptr (0,0) 0),.c (.bS (0,1) (y.2.map encS)),.c (.bS (0,2) []),.c (.bS (0,3) []),.c (.bS (0,4) []),.c (.d (.i .i64 y.1))]) (fun y=>[.box (p.enc.map .d),.tok 1 (y.2.map encS),.tok 1 [],.tok 1 [],.tok 1 []]::S)
  (fun y=>y.1<=p.dI.length/\y.2=(fG p).take y.1) (fun y=>p.dI.length-y.1) (0,[]) rfl ?_ ⟨Nat.zero_le _,rfl⟩ ?_
 ·simp -implicitDefEqProofs (disch:=omega) only[go_sem]
 rintro⟨i,a⟩ ⟨p1,p2⟩;simp only at p1 p2
 have pl:a.length<=p.dI.length:=by rw[p2];simp[fG];omega
 simp -implicitDefEqProofs (disch:=omega) only[go_sem]
 with_reducible refine aD (fun hb=> ?_) (fun hb=> ?_)<;>have h:=hb<;>(try simp only[wf_preprocess] at h)<;>simp -implicitDefEqProofs (disch:=omega) only[go_sem,hb]<;>(repeat(with_reducible refine And.intro ?_ ?_;focus first|omega|rfl|assumption|exact⟨_,rfl,rfl⟩|(simp;omega)|(simp;done)))
 ·have hi:i<p.dI.length:=by omega
  (repeat(with_reducible refine And.intro ?_ ?_;focus first|omega|rfl|assumption|exact⟨_,rfl,rfl⟩|(simp;omega)|(simp;done)))
  rw[Cq];exact cZ (i+1,a++[p.dI[i].fName]) (by simp only;omega) rfl rfl ⟨by simp only;omega,by simp only;rw[p2,jB (by simpa [fG] using hi)];simp[fG]⟩
 have ha:a=fG p:=by rw[p2,List.take_of_length_le (by simp[fG];omega)]
 clear p1 p2 pl hb h;subst ha
 refine bO (ι:=Nat×List (List UInt8)×List (List UInt8)) zmx rfl [1,6,7,8,9,11] (fun y=>[.c (.ptr (0,0) 0),.c (.bS (0,1) ((fG p).map encS)),.c (.bS (0,2) (y.2.1.map encS)),.c (.bS (0,3) (y.2.2.map encS)),.c (.bS (0,4) []),.c (.d (.i .i64 y.1))]) (fun y=>[.box (p.enc.map .d),.tok 1 ((fG p).map encS),.tok 1 (y.2.1.map encS),.tok 1 (y.2.2.map encS),.tok 1 []]::S)
  (fun y=>y.1<=p.aO.length/\y.2.1=(gI p).take y.1/\y.2.2=fZ (p.aO.take y.1)) (fun y=>p.aO.length-y.1) (0,[],[]) rfl ?_ ⟨Nat.zero_le _,rfl,rfl⟩ ?_
 ·simp -implicitDefEqProofs (disch:=omega) only[go_sem]
 rintro⟨i,b,c⟩ ⟨p1,p2,p3⟩;simp only at p1 p2 p3
 have pl:b.length<=p.aO.length:=by rw[p2];simp[gI];omega
 simp -implicitDefEqProofs (disch:=omega) only[go_sem]
 with_reducible refine aD (fun hb=> ?_) (fun hb=> ?_)<;>have h:=hb<;>(try simp only[wf_preprocess] at h)<;>simp -implicitDefEqProofs (disch:=omega) only[go_sem,hb]<;>(repeat(with_reducible refine And.intro ?_ ?_;focus first|omega|rfl|assumption|exact⟨_,rfl,rfl⟩|(simp;omega)|(simp;done)))
 ·have hi:i<p.aO.length:=by omega
  have e3:fZ (p.aO.take (i+1))=c++p.aO[i].aF.map aH.fName:=by rw[p3];exact nX _ hi
  have hcl:(fZ (p.aO.take (i+1))).length<=4194304:=by
   have h1:(fZ (p.aO.take (i+1))).length<=(fZ p.aO).length:=by
    conv=>rhs;rw[<-List.take_append_drop (i+1) p.aO]
    unfold fZ;rw[List.flatMap_append,List.length_append];omega
   omega
  rw[e3,List.length_append,List.length_map] at hcl
  (repeat(with_reducible refine And.intro ?_ ?_;focus first|omega|rfl|assumption|exact⟨_,rfl,rfl⟩|(simp;omega)|(simp;done)))
  rw[Cq]
  refine bO (ι:=Nat×List (List UInt8)) zmx rfl [1,6,7,8,9,11,12] (fun y=>[.c (.ptr (0,0) 0),.c (.bS (0,1) ((fG p).map encS)),.c (.bS (0,2) ((b++[p.aO[i].fName]).map encS)),.c (.bS (0,3) (y.2.map encS)),.c (.bS (0,4) []),.c (.d (.i .i64 i)),.c (.d (.i .i64 y.1))]) (fun y=>[.box (p.enc.map .d),.tok 1 ((fG p).map encS),.tok 1 ((b++[p.aO[i].fName]).map encS),.tok 1 (y.2.map encS),.tok 1 []]::S)
   (fun y=>y.1<=p.aO[i].aF.length/\y.2=c++(p.aO[i].aF.map aH.fName).take y.1) (fun y=>p.aO[i].aF.length-y.1) (0,c) rfl ?_ ⟨Nat.zero_le _,by simp⟩ ?_
  ·simp -implicitDefEqProofs (disch:=omega) only[go_sem]
  rintro⟨k,e⟩ ⟨q1,q2⟩;simp only at q1 q2
  have pl2:e.length<=4194304:=by rw[q2];simp;omega
  simp -implicitDefEqProofs (disch:=omega) only[go_sem]
  (repeat(with_reducible refine And.intro ?_ ?_;focus first|omega|rfl|assumption|exact⟨_,rfl,rfl⟩|(simp;omega)|(simp;done)))
  with_reducible refine aD (fun hb=> ?_) (fun hb=> ?_)<;>have h:=hb<;>(try simp only[wf_preprocess] at h)<;>simp -implicitDefEqProofs (disch:=omega) only[go_sem,hb]<;>(repeat(with_reducible refine And.intro ?_ ?_;focus first|omega|rfl|assumption|exact⟨_,rfl,rfl⟩|(simp;omega)|(simp;done)))
  ·have hk:k<p.aO[i].aF.length:=by omega
   (repeat(with_reducible refine And.intro ?_ ?_;focus first|omega|rfl|assumption|exact⟨_,rfl,rfl⟩|(simp;omega)|(simp;done)))
   rw[Cq];exact cZ (k+1,e++[p.aO[i].aF[k].fName]) (by simp only;omega) rfl rfl ⟨by simp only;omega,by simp only;rw[q2,jB (by simpa using hk)];simp⟩
  ·have hk:k=p.aO[i].aF.length:=by omega
   have he:e=c++p.aO[i].aF.map aH.fName:=by rw[q2,List.take_of_length_le (by simp;omega)]
   exact cZ (i+1,b++[p.aO[i].fName],e) (by simp only;omega) rfl rfl ⟨by simp only;omega,by simp only;rw[p2,jB (by simpa [gI] using hi)];simp[gI],by simp only;rw[e3,he]⟩
 have hb1:b=gI p:=by rw[p2,List.take_of_length_le (by simp[gI];omega)]
 have hc1:c=fZ p.aO:=by rw[p3,List.take_of_length_le (by omega)]
 clear p1 p2 p3 pl hb h;subst hb1;subst hc1
 refine bO (ι:=Nat×List (List UInt8)) zmx rfl [1,6,7,8,9,13] (fun y=>[.c (.ptr (0,0) 0),.c (.bS (0,1) ((fG p).map encS)),.c (.bS (0,2) ((gI p).map encS)),.c (.bS (0,3) ((fZ p.aO).map encS)),.c (.bS (0,4) (y.2.map encS)),.c (.d (.i .i64 y.1))]) (fun y=>[.box (p.enc.map .d),.tok 1 ((fG p).map encS),.tok 1 ((gI p).map encS),.tok 1 ((fZ p.aO).map encS),.tok 1 (y.2.map encS)]::S)
  (fun y=>y.1<=p.dB.length/\y.2=(fnNames p).take y.1) (fun y=>p.dB.length-y.1) (0,[]) rfl ?_ ⟨Nat.zero_le _,rfl⟩ ?_
 ·simp -implicitDefEqProofs (disch:=omega) only[go_sem]
 rintro⟨i,a⟩ ⟨p1,p2⟩;simp only at p1 p2
 have pl:a.length<=p.dB.length:=by rw[p2];simp[fnNames];omega
 simp -implicitDefEqProofs (disch:=omega) only[go_sem]
 with_reducible refine aD (fun hb=> ?_) (fun hb=> ?_)<;>have h:=hb<;>(try simp only[wf_preprocess] at h)<;>simp -implicitDefEqProofs (disch:=omega) only[go_sem,hb]<;>(repeat(with_reducible refine And.intro ?_ ?_;focus first|omega|rfl|assumption|exact⟨_,rfl,rfl⟩|(simp;omega)|(simp;done)))
 ·have hi:i<p.dB.length:=by omega
  (repeat(with_reducible refine And.intro ?_ ?_;focus first|omega|rfl|assumption|exact⟨_,rfl,rfl⟩|(simp;omega)|(simp;done)))
  rw[Cq];exact cZ (i+1,a++[p.dB[i].fName]) (by simp only;omega) rfl rfl ⟨by simp only;omega,by simp only;rw[p2,jB (by simpa [fnNames] using hi)];simp[fnNames]⟩
 ·have ha:a=fnNames p:=by rw[p2,List.take_of_length_le (by simp[fnNames];omega)]
  rw[ha]
theorem GY(w:bG)(hsz:w.sz<=4194304):bg prog 27 [w.v] (.c (.d (.b (jV w.aQ)))):=fun S=>by
 have hb0:=bG.bounds hsz;have hn:=J2 w.aQ
 have hz:aN (w.aQ.map aM.enc)<=4194304:=by
  simp only[bG.sz,bG.aj,bD,aY,D.sz,List.length_map] at hsz;omega
 refine zcx [.tmp 2] func27 ntmps27 ?_;simp -implicitDefEqProofs (disch:=omega) only[go_sem];refine iZ 3 1 [] rfl (by simp) ?_;refine iZ 4 1 [] rfl (by simp) ?_;refine iZ 5 1 [] rfl (by simp) ?_;refine iZ 6 1 [] rfl (by simp) ?_
 refine bO (ι:=Nat×List (List UInt8)×List (List UInt8)×List (List UInt8)×List (List UInt8)) zmx rfl [1,3,4,5,6,7] (fun y=>[.c (.ptr (0,0) 0),.c (.bS (0,1) (y.2.1.map encS)),.c (.bS (0,2) (y.2.2.1.map encS)),.c (.bS (0,3) (y.2.2.2.1.map encS)),.c (.bS (0,4) (y.2.2.2.2.map encS)),.c (.d (.i .i64 y.1))]) (fun y=>[.box (w.enc.map .d),.tok 1 (y.2.1.map encS),.tok 1 (y.2.2.1.map encS),.tok 1 (y.2.2.2.1.map encS),.tok 1 (y.2.2.2.2.map encS)]::S)
  (fun y=>y.1<=w.aQ.length/\y.2.1=qC (w.aQ.take y.1)/\y.2.2.1=qD (w.aQ.take y.1)/\y.2.2.2.1=qE (w.aQ.take y.1)/\y.2.2.2.2=rZ (w.aQ.take y.1)) (fun y=>w.aQ.length-y.1) (0,[],[],[],[]) rfl ?_ ⟨Nat.zero_le _,rfl,rfl,rfl,rfl⟩ ?_
 ·simp -implicitDefEqProofs (disch:=omega) only[go_sem]
 rintro⟨i,a,b,c,d⟩ ⟨p1,p2,p3,p4,p5⟩;simp only at p1 p2 p3 p4 p5;simp -implicitDefEqProofs (disch:=omega) only[go_sem]
 with_reducible refine aD (fun hb=> ?_) (fun hb=> ?_)<;>have h:=hb<;>(try simp only[wf_preprocess] at h)<;>simp -implicitDefEqProofs (disch:=omega) only[go_sem,hb]<;>(repeat(with_reducible refine And.intro ?_ ?_;focus first|omega|rfl|assumption|exact⟨_,rfl,rfl⟩|(simp;omega)|(simp;done)))
 ·have hi:i<w.aQ.length:=by omega
  have hp:w.aQ[i].sz<=4194304:=by
   have hx:w.aQ[i].sz<=aN (w.aQ.map aM.enc):=dx (List.mem_map_of_mem (List.getElem_mem hi));omega
  have sub:∀(f:aM->List (List UInt8)),((w.aQ.take (i+1)).flatMap f).length<=(w.aQ.flatMap f).length:=fun f=>by
   conv=>rhs;rw[<-List.take_append_drop (i+1) w.aQ]
   rw[List.flatMap_append,List.length_append];omega
  have e2:qC (w.aQ.take (i+1))=a++fG w.aQ[i]:=by rw[p2];exact nX _ hi
  have e3:qD (w.aQ.take (i+1))=b++gI w.aQ[i]:=by rw[p3];exact nX _ hi
  have e4:qE (w.aQ.take (i+1))=c++fZ w.aQ[i].aO:=by rw[p4];exact nX _ hi
  have e5:rZ (w.aQ.take (i+1))=d++fnNames w.aQ[i]:=by rw[p5];exact nX _ hi
  have l2:(a++fG w.aQ[i]).length<=4194304:=by rw[<-e2];have:=sub fG;unfold qC at *;omega
  have l3:(b++gI w.aQ[i]).length<=4194304:=by rw[<-e3];have:=sub gI;unfold qD at *;omega
  have l4:(c++fZ w.aQ[i].aO).length<=4194304:=by rw[<-e4];have:=sub (fun p=>fZ p.aO);unfold qE at *;omega
  have l5:(d++fnNames w.aQ[i]).length<=4194304:=by rw[<-e5];have:=sub fnNames;unfold rZ at *;omega
  rw[List.length_append] at l2 l3 l4 l5
  have hc:∀xs:List (List UInt8),∀y∈xs.map encS,y.length=1:=fun xs y hy=>by
   obtain⟨s,_,rfl⟩:=List.mem_map.1 hy;rfl
  (repeat(with_reducible refine And.intro ?_ ?_;focus first|omega|rfl|assumption|exact⟨_,rfl,rfl⟩|(simp;omega)|(simp;done)))
  refine aB (Jb w.aQ[i] hp) ?_;simp -implicitDefEqProofs (disch:=omega) only[go_sem]<;>(repeat(with_reducible refine And.intro ?_ ?_;focus first|omega|rfl|assumption|exact⟨_,rfl,rfl⟩|(simp;omega)|(simp;done)));refine⟨hc _,⟨_,rfl,rfl⟩,by omega,hc _,⟨_,rfl,rfl⟩,by omega,hc _,⟨_,rfl,rfl⟩,by omega,hc _,⟨_,rfl,rfl⟩,by omega,?_⟩;rw[YD,YD,YD,YD];exact cZ (i+1,a++fG w.aQ[i],b++gI w.aQ[i],c++fZ w.aQ[i].aO,d++fnNames w.aQ[i]) (by simp only;omega) rfl rfl ⟨by simp only;omega,e2.symm,e3.symm,e4.symm,e5.symm⟩
 ·have hi:i=w.aQ.length:=by omega
  rw[List.take_of_length_le (by omega)] at p2 p3 p4 p5;subst p2;subst p3;subst p4;subst p5;unfold jV;refine aB (iW (qC w.aQ) (by omega)) ?_;simp -implicitDefEqProofs (disch:=omega) only[go_sem]<;>(repeat(with_reducible refine And.intro ?_ ?_;focus first|omega|rfl|assumption|exact⟨_,rfl,rfl⟩|(simp;omega)|(simp;done)))
  with_reducible refine aD (fun hb=> ?_) (fun hb=> ?_)<;>have h:=hb<;>(try simp only[wf_preprocess] at h)<;>simp -implicitDefEqProofs (disch:=omega) only[go_sem,hb]<;>(repeat(with_reducible refine And.intro ?_ ?_;focus first|omega|rfl|assumption|exact⟨_,rfl,rfl⟩|(simp;omega)|(simp;done)))
  ·refine aB (iW (qD w.aQ) (by omega)) ?_;simp -implicitDefEqProofs (disch:=omega) only[go_sem]<;>(repeat(with_reducible refine And.intro ?_ ?_;focus first|omega|rfl|assumption|exact⟨_,rfl,rfl⟩|(simp;omega)|(simp;done)))
   with_reducible refine aD (fun hb=> ?_) (fun hb=> ?_)<;>have h:=hb<;>(try simp only[wf_preprocess] at h)<;>simp -implicitDefEqProofs (disch:=omega) only[go_sem,hb]<;>(repeat(with_reducible refine And.intro ?_ ?_;focus first|omega|rfl|assumption|exact⟨_,rfl,rfl⟩|(simp;omega)|(simp;done)))
   ·refine aB (iW (qE w.aQ) (by omega)) ?_;simp -implicitDefEqProofs (disch:=omega) only[go_sem]<;>(repeat(with_reducible refine And.intro ?_ ?_;focus first|omega|rfl|assumption|exact⟨_,rfl,rfl⟩|(simp;omega)|(simp;done)))
    with_reducible refine aD (fun hb=> ?_) (fun hb=> ?_)<;>have h:=hb<;>(try simp only[wf_preprocess] at h)<;>simp -implicitDefEqProofs (disch:=omega) only[go_sem,hb]<;>(repeat(with_reducible refine And.intro ?_ ?_;focus first|omega|rfl|assumption|exact⟨_,rfl,rfl⟩|(simp;omega)|(simp;done)))
    ·refine aB (iW (rZ w.aQ) (by omega)) ?_;simp -implicitDefEqProofs (disch:=omega) only[go_sem]<;>(repeat(with_reducible refine And.intro ?_ ?_;focus first|omega|rfl|assumption|exact⟨_,rfl,rfl⟩|(simp;omega)|(simp;done)))
     all_goals exact bN (by simp only[dH ‹(qC w.aQ).Nodup›,dH ‹(qD w.aQ).Nodup›,dH ‹(qE w.aQ).Nodup›,Bool.true_and])
    ·exact bN (by simp only[bM h,Bool.false_and,Bool.and_false])
   ·exact bN (by simp only[bM h,Bool.false_and,Bool.and_false])
  ·exact bN (by simp only[bM h,Bool.false_and])
def zH(a b c d:List (List UInt8))(rest:List Ab.Obj)(S:Store):Store:=
 (.box [.bI [],.bI [],.bI [],.bI []]:: .box [.bS (0,2) (a.map encS),.bS (0,3) (b.map encS),.bS (0,4) (c.map encS),.bS (0,5) (d.map encS)]:: .tok 1 (a.map encS):: .tok 1 (b.map encS):: .tok 1 (c.map encS):: .tok 1 (d.map encS)::rest)::S
theorem UC(ps:List aM)(hl:ps.length<=4194304)(hz:aN (ps.map aM.enc)<=4194304):bg prog 90 [.c (.d (.sl (ps.map aM.enc)))] (.agg [.d (.sl ((qC ps).map encS)),.d (.sl ((qD ps).map encS)),.d (.sl ((qE ps).map encS)),.d (.sl ((rZ ps).map encS))]):=fun S=>by
 have hn:=J2 ps;refine zcx [.cell 2 134] func90 ntmps90 ?_;simp -implicitDefEqProofs (disch:=omega) only[go_sem]
 (repeat(with_reducible refine And.intro ?_ ?_;focus first|omega|rfl|assumption|exact⟨_,rfl,rfl⟩|(simp;omega)|(simp;done)))
 refine qX 1 0 1 [] [.bI [],.bI [],.bI [],.bI []] rfl rfl (by simp) ?_;refine qX 1 1 1 [] [.bS (0,2) [],.bI [],.bI [],.bI []] rfl rfl (by simp) ?_;refine qX 1 2 1 [] [.bS (0,2) [],.bS (0,3) [],.bI [],.bI []] rfl rfl (by simp) ?_;refine qX 1 3 1 [] [.bS (0,2) [],.bS (0,3) [],.bS (0,4) [],.bI []] rfl rfl (by simp) ?_
 refine bO (ι:=Nat×List (List UInt8)×List (List UInt8)×List (List UInt8)×List (List UInt8)) zmx rfl [2,3,15,16,17] (fun y=>[.c (.ptr (0,0) 0),.c (.ptr (0,1) 0),.c (.d (.sl (ps.map aM.enc))),.c (.d (.i .i64 ps.length)),.c (.d (.i .i64 y.1))])
  (fun y=>[.box [.bI [],.bI [],.bI [],.bI []],.box [.bS (0,2) (y.2.1.map encS),.bS (0,3) (y.2.2.1.map encS),.bS (0,4) (y.2.2.2.1.map encS),.bS (0,5) (y.2.2.2.2.map encS)],.tok 1 (y.2.1.map encS),.tok 1 (y.2.2.1.map encS),.tok 1 (y.2.2.2.1.map encS),.tok 1 (y.2.2.2.2.map encS)]::S)
  (fun y=>y.1<=ps.length/\y.2.1=qC (ps.take y.1)/\y.2.2.1=qD (ps.take y.1)/\y.2.2.2.1=qE (ps.take y.1)/\y.2.2.2.2=rZ (ps.take y.1)) (fun y=>ps.length-y.1) (0,[],[],[],[]) rfl rfl ⟨Nat.zero_le _,rfl,rfl,rfl,rfl⟩ ?_
 rintro⟨i,a,b,c,d⟩ ⟨p1,p2,p3,p4,p5⟩;simp only at p1 p2 p3 p4 p5;simp -implicitDefEqProofs (disch:=omega) only[go_sem]
 with_reducible refine aD (fun hb=> ?_) (fun hb=> ?_)<;>have h:=hb<;>(try simp only[wf_preprocess] at h)<;>simp -implicitDefEqProofs (disch:=omega) only[go_sem,hb]<;>(repeat(with_reducible refine And.intro ?_ ?_;focus first|omega|rfl|assumption|exact⟨_,rfl,rfl⟩|(simp;omega)|(simp;done)))
 ·have hi:i<ps.length:=by omega
  have hp:ps[i].sz<=4194304:=by
   have hx:ps[i].sz<=aN (ps.map aM.enc):=dx (List.mem_map_of_mem (List.getElem_mem hi));omega
  (repeat(with_reducible refine And.intro ?_ ?_;focus first|omega|rfl|assumption|exact⟨_,rfl,rfl⟩|(simp;omega)|(simp;done)))
  have sub:∀(f:aM->List (List UInt8)),((ps.take (i+1)).flatMap f).length<=(ps.flatMap f).length:=fun f=>by
   conv=>rhs;rw[<-List.take_append_drop (i+1) ps]
   rw[List.flatMap_append,List.length_append];omega
  have e2:qC (ps.take (i+1))=a++fG ps[i]:=by rw[p2];exact nX _ hi
  have e3:qD (ps.take (i+1))=b++gI ps[i]:=by rw[p3];exact nX _ hi
  have e4:qE (ps.take (i+1))=c++fZ ps[i].aO:=by rw[p4];exact nX _ hi
  have e5:rZ (ps.take (i+1))=d++fnNames ps[i]:=by rw[p5];exact nX _ hi
  have l2:(a++fG ps[i]).length<=4194304:=by rw[<-e2];have:=sub fG;unfold qC at *;omega
  have l3:(b++gI ps[i]).length<=4194304:=by rw[<-e3];have:=sub gI;unfold qD at *;omega
  have l4:(c++fZ ps[i].aO).length<=4194304:=by rw[<-e4];have:=sub (fun p=>fZ p.aO);unfold qE at *;omega
  have l5:(d++fnNames ps[i]).length<=4194304:=by rw[<-e5];have:=sub fnNames;unfold rZ at *;omega
  have hbp:=aM.bounds hp;rw[List.length_append] at l2 l3 l4 l5
  refine bO (ι:=Nat×List (List UInt8)) zmx rfl [2,3,5,15,16,17,22,23,24] (fun y=>[.c (.ptr (0,0) 0),.c (.ptr (0,1) 0),.c (.ptr (0,6) 0),.c (.d (.sl (ps.map aM.enc))),.c (.d (.i .i64 ps.length)),.c (.d (.i .i64 i)),.c (.d (.sl (ps[i].dI.map bF.enc))),.c (.d (.i .i64 ps[i].dI.length)),.c (.d (.i .i64 y.1))]) (fun y=>zH y.2 b c d [.box (ps[i].enc.map .d)] S)
   (fun y=>y.1<=ps[i].dI.length/\y.2=a++(fG ps[i]).take y.1) (fun y=>ps[i].dI.length-y.1) (0,a) rfl ?_ ⟨Nat.zero_le _,by simp⟩ ?_
  ·unfold zH;simp -implicitDefEqProofs (disch:=omega) only[go_sem]
  rintro⟨k,a'⟩ ⟨q1,q2⟩;simp only at q1 q2
  have ql:a'.length<=4194304:=by rw[q2];simp[fG] at *;omega
  unfold zH;simp -implicitDefEqProofs (disch:=omega) only[go_sem]
  with_reducible refine aD (fun hb=> ?_) (fun hb=> ?_)<;>have h:=hb<;>(try simp only[wf_preprocess] at h)<;>simp -implicitDefEqProofs (disch:=omega) only[go_sem,hb]<;>(repeat(with_reducible refine And.intro ?_ ?_;focus first|omega|rfl|assumption|exact⟨_,rfl,rfl⟩|(simp;omega)|(simp;done)))
  ·have hk:k<ps[i].dI.length:=by omega
   have ql':a'.length+1<=4194304:=by rw[q2];simp[fG] at *;omega
   (repeat(with_reducible refine And.intro ?_ ?_;focus first|omega|rfl|assumption|exact⟨_,rfl,rfl⟩|(simp;omega)|(simp;done)))
   rw[Cq];exact dZ 7 (by decide) (k+1,a'++[ps[i].dI[k].fName]) (by simp only;omega) rfl rfl rfl rfl ⟨by simp only;omega,by simp only;rw[q2,jB (by simpa [fG] using hk)];simp[fG]⟩
  have ha:a'=a++fG ps[i]:=by rw[q2,List.take_of_length_le (by simp[fG];omega)]
  clear q1 q2 ql hb h;subst ha
  refine bO (ι:=Nat×List (List UInt8)×List (List UInt8)) zmx rfl [2,3,5,15,16,17,37,38,39] (fun y=>[.c (.ptr (0,0) 0),.c (.ptr (0,1) 0),.c (.ptr (0,6) 0),.c (.d (.sl (ps.map aM.enc))),.c (.d (.i .i64 ps.length)),.c (.d (.i .i64 i)),.c (.d (.sl (ps[i].aO.map aR.enc))),.c (.d (.i .i64 ps[i].aO.length)),.c (.d (.i .i64 y.1))]) (fun y=>zH (a++fG ps[i]) y.2.1 y.2.2 d [.box (ps[i].enc.map .d)] S)
   (fun y=>y.1<=ps[i].aO.length/\y.2.1=b++(gI ps[i]).take y.1/\y.2.2=c++fZ (ps[i].aO.take y.1)) (fun y=>ps[i].aO.length-y.1) (0,b,c) rfl ?_ ⟨Nat.zero_le _,by simp,by simp[fZ]⟩ ?_
  ·unfold zH;simp -implicitDefEqProofs (disch:=omega) only[go_sem]
  rintro⟨k',b',c'⟩ ⟨q1,q2,q3⟩;simp only at q1 q2 q3;unfold zH;simp -implicitDefEqProofs (disch:=omega) only[go_sem]
  with_reducible refine aD (fun hb=> ?_) (fun hb=> ?_)<;>have h:=hb<;>(try simp only[wf_preprocess] at h)<;>simp -implicitDefEqProofs (disch:=omega) only[go_sem,hb]<;>(repeat(with_reducible refine And.intro ?_ ?_;focus first|omega|rfl|assumption|exact⟨_,rfl,rfl⟩|(simp;omega)|(simp;done)))
  ·have hk:k'<ps[i].aO.length:=by omega
   have e6:fZ (ps[i].aO.take (k'+1))=fZ (ps[i].aO.take k')++ps[i].aO[k'].aF.map aH.fName:=nX _ hk
   have hcl:(fZ (ps[i].aO.take (k'+1))).length<=(fZ ps[i].aO).length:=by
    conv=>rhs;rw[<-List.take_append_drop (k'+1) ps[i].aO]
    unfold fZ;rw[List.flatMap_append,List.length_append];omega
   have ql':b'.length+1<=4194304:=by rw[q2];simp[gI] at *;omega
   have qc:c'.length+ps[i].aO[k'].aF.length<=4194304:=by
    rw[e6,List.length_append,List.length_map] at hcl;rw[q3,List.length_append];omega
   (repeat(with_reducible refine And.intro ?_ ?_;focus first|omega|rfl|assumption|exact⟨_,rfl,rfl⟩|(simp;omega)|(simp;done)))
   rw[Cq]
   refine bO (ι:=Nat×List (List UInt8)) zmx rfl [2,3,5,15,16,17,37,38,39,51,52,53] (fun y=>[.c (.ptr (0,0) 0),.c (.ptr (0,1) 0),.c (.ptr (0,6) 0),.c (.d (.sl (ps.map aM.enc))),.c (.d (.i .i64 ps.length)),.c (.d (.i .i64 i)),.c (.d (.sl (ps[i].aO.map aR.enc))),.c (.d (.i .i64 ps[i].aO.length)),.c (.d (.i .i64 k')),.c (.d (.sl (ps[i].aO[k'].aF.map aH.enc))),.c (.d (.i .i64 ps[i].aO[k'].aF.length)),.c (.d (.i .i64 y.1))]) (fun y=>zH (a++fG ps[i]) (b'++[ps[i].aO[k'].fName]) y.2 d [.box (ps[i].enc.map .d),.box (ps[i].aO[k'].enc.map .d)] S)
    (fun y=>y.1<=ps[i].aO[k'].aF.length/\y.2=c'++(ps[i].aO[k'].aF.map aH.fName).take y.1) (fun y=>ps[i].aO[k'].aF.length-y.1) (0,c') rfl ?_ ⟨Nat.zero_le _,by simp⟩ ?_
   ·unfold zH;simp -implicitDefEqProofs (disch:=omega) only[go_sem]
   rintro⟨m,c''⟩ ⟨r1,r2⟩;simp only at r1 r2
   have rl:c''.length<=4194304:=by rw[r2];simp;omega
   unfold zH;simp -implicitDefEqProofs (disch:=omega) only[go_sem]
   with_reducible refine aD (fun hb=> ?_) (fun hb=> ?_)<;>have h:=hb<;>(try simp only[wf_preprocess] at h)<;>simp -implicitDefEqProofs (disch:=omega) only[go_sem,hb]<;>(repeat(with_reducible refine And.intro ?_ ?_;focus first|omega|rfl|assumption|exact⟨_,rfl,rfl⟩|(simp;omega)|(simp;done)))
   ·have hm:m<ps[i].aO[k'].aF.length:=by omega
    have rl':c''.length+1<=4194304:=by rw[r2];simp;omega
    (repeat(with_reducible refine And.intro ?_ ?_;focus first|omega|rfl|assumption|exact⟨_,rfl,rfl⟩|(simp;omega)|(simp;done)))
    rw[Cq];exact dZ 8 (by decide) (m+1,c''++[ps[i].aO[k'].aF[m].fName]) (by simp only;omega) rfl rfl rfl rfl ⟨by simp only;omega,by simp only;rw[r2,jB (by simpa using hm)];simp⟩
   ·have hm:m=ps[i].aO[k'].aF.length:=by omega
    have hc:c''=c'++ps[i].aO[k'].aF.map aH.fName:=by rw[r2,List.take_of_length_le (by simp;omega)]
    exact dZ 7 (by decide) (k'+1,b'++[ps[i].aO[k'].fName],c'') (by simp only;omega) rfl rfl rfl rfl ⟨by simp only;omega,by simp only;rw[q2,jB (by simpa [gI] using hk)];simp[gI],by simp only;rw[hc,e6,q3,List.append_assoc]⟩
  have hb':b'=b++gI ps[i]:=by rw[q2,List.take_of_length_le (by simp[gI];omega)]
  have hc':c'=c++fZ ps[i].aO:=by rw[q3,List.take_of_length_le (by omega)]
  clear q1 q2 q3 hb h;subst hb';subst hc'
  refine bO (ι:=Nat×List (List UInt8)) zmx rfl [2,3,5,15,16,17,67,68,69] (fun y=>[.c (.ptr (0,0) 0),.c (.ptr (0,1) 0),.c (.ptr (0,6) 0),.c (.d (.sl (ps.map aM.enc))),.c (.d (.i .i64 ps.length)),.c (.d (.i .i64 i)),.c (.d (.sl (ps[i].dB.map bJ.enc))),.c (.d (.i .i64 ps[i].dB.length)),.c (.d (.i .i64 y.1))]) (fun y=>zH (a++fG ps[i]) (b++gI ps[i]) (c++fZ ps[i].aO) y.2 [.box (ps[i].enc.map .d)] S)
   (fun y=>y.1<=ps[i].dB.length/\y.2=d++(fnNames ps[i]).take y.1) (fun y=>ps[i].dB.length-y.1) (0,d) rfl ?_ ⟨Nat.zero_le _,by simp⟩ ?_
  ·unfold zH;simp -implicitDefEqProofs (disch:=omega) only[go_sem]
  rintro⟨k4,d'⟩ ⟨q1,q2⟩;simp only at q1 q2
  have ql:d'.length<=4194304:=by rw[q2];simp[fnNames] at *;omega
  unfold zH;simp -implicitDefEqProofs (disch:=omega) only[go_sem]
  with_reducible refine aD (fun hb=> ?_) (fun hb=> ?_)<;>have h:=hb<;>(try simp only[wf_preprocess] at h)<;>simp -implicitDefEqProofs (disch:=omega) only[go_sem,hb]<;>(repeat(with_reducible refine And.intro ?_ ?_;focus first|omega|rfl|assumption|exact⟨_,rfl,rfl⟩|(simp;omega)|(simp;done)))
  ·have hk:k4<ps[i].dB.length:=by omega
   have ql':d'.length+1<=4194304:=by rw[q2];simp[fnNames] at *;omega
   (repeat(with_reducible refine And.intro ?_ ?_;focus first|omega|rfl|assumption|exact⟨_,rfl,rfl⟩|(simp;omega)|(simp;done)))
   rw[Cq];exact dZ 7 (by decide) (k4+1,d'++[ps[i].dB[k4].fName]) (by simp only;omega) rfl rfl rfl rfl ⟨by simp only;omega,by simp only;rw[q2,jB (by simpa [fnNames] using hk)];simp[fnNames]⟩
  ·have hd:d'=d++fnNames ps[i]:=by rw[q2,List.take_of_length_le (by simp[fnNames];omega)]
   exact dZ 6 (by decide) (i+1,a++fG ps[i],b++gI ps[i],c++fZ ps[i].aO,d') (by simp only;omega) rfl rfl rfl rfl ⟨by simp only;omega,e2.symm,e3.symm,e4.symm,by simp only;rw[hd,e5]⟩
 ·have hi:i=ps.length:=by omega
  rw[List.take_of_length_le (by omega)] at p2 p3 p4 p5;rw[p2,p3,p4,p5]
theorem SG(ps:List aM)(hl:ps.length<=4194304)(hz:aN (ps.map aM.enc)<=4194304):bg prog 55 [.c (.d (.sl (ps.map aM.enc)))] (.c (.d (.b (jV ps)))):=fun S=>by
 have hn:=J2 ps;refine zcx [.tmp 2] func55 ntmps55 ?_;simp -implicitDefEqProofs (disch:=omega) only[go_sem];refine aB (UC ps hl hz) ?_;simp -implicitDefEqProofs (disch:=omega) only[go_sem]<;>(repeat(with_reducible refine And.intro ?_ ?_;focus first|omega|rfl|assumption|exact⟨_,rfl,rfl⟩|(simp;omega)|(simp;done)))
 refine bO (ι:=Int) zmx rfl [6,7] (fun i=>[.agg [.d (.sl ((qC ps).map encS)),.d (.sl ((qD ps).map encS)),.d (.sl ((qE ps).map encS)),.d (.sl ((rZ ps).map encS))],.c (.d (.i .i64 i))]) (fun _=>[]::S)
  (fun i=>(0<=i/\i<=4)/\(1<=i->(qC ps).Nodup)/\(2<=i->(qD ps).Nodup)/\(3<=i->(qE ps).Nodup)/\(4<=i->(rZ ps).Nodup)) (fun i=>(4-i).toNat) 0 rfl rfl ⟨⟨by omega,by omega⟩,by omega,by omega,by omega,by omega⟩ ?_
 rintro i ⟨p0,p1,p2,p3,p4⟩
 have hi:i=0\/i=1\/i=2\/i=3\/i=4:=by omega
 rcases hi with rfl|rfl|rfl|rfl|rfl
 ·simp -implicitDefEqProofs (disch:=omega) only[go_sem]
  (repeat(with_reducible refine And.intro ?_ ?_;focus first|omega|rfl|assumption|exact⟨_,rfl,rfl⟩|(simp;omega)|(simp;done)))
  refine aB (tJ (qC ps) (by omega)) ?_;simp -implicitDefEqProofs (disch:=omega) only[go_sem]<;>(repeat(with_reducible refine And.intro ?_ ?_;focus first|omega|rfl|assumption|exact⟨_,rfl,rfl⟩|(simp;omega)|(simp;done)))
  with_reducible refine aD (fun hb=> ?_) (fun hb=> ?_)<;>have h:=hb<;>(try simp only[wf_preprocess] at h)<;>simp -implicitDefEqProofs (disch:=omega) only[go_sem,hb]<;>(repeat(with_reducible refine And.intro ?_ ?_;focus first|omega|rfl|assumption|exact⟨_,rfl,rfl⟩|(simp;omega)|(simp;done)))
  ·exact bN (by unfold jV;rw[bM h];rfl)
  ·exact cZ 1 (by decide) rfl rfl ⟨⟨by omega,by omega⟩,fun _=>h,by omega,by omega,by omega⟩
 ·simp -implicitDefEqProofs (disch:=omega) only[go_sem]
  (repeat(with_reducible refine And.intro ?_ ?_;focus first|omega|rfl|assumption|exact⟨_,rfl,rfl⟩|(simp;omega)|(simp;done)))
  refine aB (tJ (qD ps) (by omega)) ?_;simp -implicitDefEqProofs (disch:=omega) only[go_sem]<;>(repeat(with_reducible refine And.intro ?_ ?_;focus first|omega|rfl|assumption|exact⟨_,rfl,rfl⟩|(simp;omega)|(simp;done)))
  with_reducible refine aD (fun hb=> ?_) (fun hb=> ?_)<;>have h:=hb<;>(try simp only[wf_preprocess] at h)<;>simp -implicitDefEqProofs (disch:=omega) only[go_sem,hb]<;>(repeat(with_reducible refine And.intro ?_ ?_;focus first|omega|rfl|assumption|exact⟨_,rfl,rfl⟩|(simp;omega)|(simp;done)))
  ·exact bN (by unfold jV;rw[bM h];simp)
  ·exact cZ 2 (by decide) rfl rfl ⟨⟨by omega,by omega⟩,fun _=>p1 (by omega),fun _=>h,by omega,by omega⟩
 ·simp -implicitDefEqProofs (disch:=omega) only[go_sem]
  (repeat(with_reducible refine And.intro ?_ ?_;focus first|omega|rfl|assumption|exact⟨_,rfl,rfl⟩|(simp;omega)|(simp;done)))
  refine aB (tJ (qE ps) (by omega)) ?_;simp -implicitDefEqProofs (disch:=omega) only[go_sem]<;>(repeat(with_reducible refine And.intro ?_ ?_;focus first|omega|rfl|assumption|exact⟨_,rfl,rfl⟩|(simp;omega)|(simp;done)))
  with_reducible refine aD (fun hb=> ?_) (fun hb=> ?_)<;>have h:=hb<;>(try simp only[wf_preprocess] at h)<;>simp -implicitDefEqProofs (disch:=omega) only[go_sem,hb]<;>(repeat(with_reducible refine And.intro ?_ ?_;focus first|omega|rfl|assumption|exact⟨_,rfl,rfl⟩|(simp;omega)|(simp;done)))
  ·exact bN (by unfold jV;rw[bM h];simp)
  ·exact cZ 3 (by decide) rfl rfl ⟨⟨by omega,by omega⟩,fun _=>p1 (by omega),fun _=>p2 (by omega),fun _=>h,by omega⟩
 ·simp -implicitDefEqProofs (disch:=omega) only[go_sem]
  (repeat(with_reducible refine And.intro ?_ ?_;focus first|omega|rfl|assumption|exact⟨_,rfl,rfl⟩|(simp;omega)|(simp;done)))
  refine aB (tJ (rZ ps) (by omega)) ?_;simp -implicitDefEqProofs (disch:=omega) only[go_sem]<;>(repeat(with_reducible refine And.intro ?_ ?_;focus first|omega|rfl|assumption|exact⟨_,rfl,rfl⟩|(simp;omega)|(simp;done)))
  with_reducible refine aD (fun hb=> ?_) (fun hb=> ?_)<;>have h:=hb<;>(try simp only[wf_preprocess] at h)<;>simp -implicitDefEqProofs (disch:=omega) only[go_sem,hb]<;>(repeat(with_reducible refine And.intro ?_ ?_;focus first|omega|rfl|assumption|exact⟨_,rfl,rfl⟩|(simp;omega)|(simp;done)))
  ·exact bN (by unfold jV;rw[bM h];simp)
  ·exact cZ 4 (by decide) rfl rfl ⟨⟨by omega,by omega⟩,fun _=>p1 (by omega),fun _=>p2 (by omega),fun _=>p3 (by omega),fun _=>h⟩
 ·simp -implicitDefEqProofs (disch:=omega) only[go_sem];exact bN (by unfold jV;rw[dH (p1 (by omega)),dH (p2 (by omega)),dH (p3 (by omega)),dH (p4 (by omega))];rfl)
theorem GZ(w:bG)(hsz:w.sz<=4194304):bg prog 26 [w.v] (.c (.d (.b (jV w.aQ)))):=fun S=>by
 have hb0:=bG.bounds hsz
 have hz:aN (w.aQ.map aM.enc)<=4194304:=by
  simp only[bG.sz,bG.aj,bD,aY,D.sz,List.length_map] at hsz;omega
 refine zcx [.tmp 2] func26 ntmps26 ?_;simp -implicitDefEqProofs (disch:=omega) only[go_sem];refine aB (SG w.aQ hb0 hz) ?_;simp -implicitDefEqProofs (disch:=omega) only[go_sem]<;>(repeat(with_reducible refine And.intro ?_ ?_;focus first|omega|rfl|assumption|exact⟨_,rfl,rfl⟩|(simp;omega)|(simp;done)))
noncomputable def vP(p:aM):Bool:=p.dI.all fT&&(p.aO.all iQ&&(p.dV.all gK&&p.dB.all mD))
noncomputable def Vv(p:aM):Bool:=validName p.fName&&(dec (p.iV.length<=5)&&(iT p.iV&&(!dec (p.fName∈p.iV)&&dec (p.dI.length+p.aO.length+p.dV.length+p.dB.length<=24))))
noncomputable def validPkg(p:aM):Bool:=Vv p&&(jV [p]&&vP p)
theorem aM.sum(x:aM):x.fName.length+(x.iV.length+aN (x.iV.map encS))+(x.dI.length+aN (x.dI.map bF.enc))+(x.aO.length+aN (x.aO.map aR.enc))+(x.dV.length+aN (x.dV.map aP.enc))+(x.dB.length+aN (x.dB.map bJ.enc))<=x.sz:=by
 simp only[aM.sz,aM.aj,bD,aY,D.sz,List.length_map];omega
theorem ER{α:Type}{f:α->Bool}{xs:List α}{i:Nat}(hi:i<xs.length):(xs.drop i).all f=(f xs[i]&&(xs.drop (i+1)).all f):=by
 rw[List.drop_eq_getElem_cons hi,List.all_cons]
theorem UD(p:aM)(hsz:p.sz<=4194304):bg prog 80 [p.v] (.c (.d (.b (vP p)))):=fun S=>by
 have hs:=aM.sum p;refine zcx [.tmp 2] func80 ntmps80 ?_;simp -implicitDefEqProofs (disch:=omega) only[go_sem]
 refine bO (ι:=Nat) zmx rfl [1,3] (fun i=>[.c (.ptr (0,0) 0),.c (.d (.i .i64 i))]) (fun _=>[.box (p.enc.map .d)]::S)
  (fun i=>i<=p.dI.length/\(p.dI.drop i).all fT=p.dI.all fT) (fun i=>p.dI.length-i) 0 rfl ?_ ⟨Nat.zero_le _,rfl⟩ ?_
 ·simp -implicitDefEqProofs (disch:=omega) only[go_sem]
 rintro i ⟨p1,p2⟩;simp -implicitDefEqProofs (disch:=omega) only[go_sem]
 with_reducible refine aD (fun hb=> ?_) (fun hb=> ?_)<;>have h:=hb<;>(try simp only[wf_preprocess] at h)<;>simp -implicitDefEqProofs (disch:=omega) only[go_sem,hb]<;>(repeat(with_reducible refine And.intro ?_ ?_;focus first|omega|rfl|assumption|exact⟨_,rfl,rfl⟩|(simp;omega)|(simp;done)))
 ·have hi:i<p.dI.length:=by omega
  have hx:p.dI[i].sz<=aN (p.dI.map bF.enc):=dx (List.mem_map_of_mem (List.getElem_mem hi));rw[ER hi] at p2
  (repeat(with_reducible refine And.intro ?_ ?_;focus first|omega|rfl|assumption|exact⟨_,rfl,rfl⟩|(simp;omega)|(simp;done)))
  refine aB (nI p.dI[i] (by omega)) ?_;simp -implicitDefEqProofs (disch:=omega) only[go_sem]<;>(repeat(with_reducible refine And.intro ?_ ?_;focus first|omega|rfl|assumption|exact⟨_,rfl,rfl⟩|(simp;omega)|(simp;done)))
  with_reducible refine aD (fun hb=> ?_) (fun hb=> ?_)<;>have h:=hb<;>(try simp only[wf_preprocess] at h)<;>simp -implicitDefEqProofs (disch:=omega) only[go_sem,hb]<;>(repeat(with_reducible refine And.intro ?_ ?_;focus first|omega|rfl|assumption|exact⟨_,rfl,rfl⟩|(simp;omega)|(simp;done)))
  ·exact bN (by unfold vP;rw[<-p2,h];simp)
  ·rw[h,Bool.true_and] at p2;exact cZ (i+1) (by omega) rfl rfl ⟨by omega,p2⟩
 rw[List.drop_of_length_le (by omega),List.all_nil] at p2;have f3:=p2.symm;clear p2 p1 hb h
 refine bO (ι:=Nat) zmx rfl [1,4] (fun i=>[.c (.ptr (0,0) 0),.c (.d (.i .i64 i))]) (fun _=>[.box (p.enc.map .d)]::S)
  (fun i=>i<=p.aO.length/\(p.aO.drop i).all iQ=p.aO.all iQ) (fun i=>p.aO.length-i) 0 rfl ?_ ⟨Nat.zero_le _,rfl⟩ ?_
 ·simp -implicitDefEqProofs (disch:=omega) only[go_sem]
 rintro i ⟨p1,p2⟩;simp -implicitDefEqProofs (disch:=omega) only[go_sem]
 with_reducible refine aD (fun hb=> ?_) (fun hb=> ?_)<;>have h:=hb<;>(try simp only[wf_preprocess] at h)<;>simp -implicitDefEqProofs (disch:=omega) only[go_sem,hb]<;>(repeat(with_reducible refine And.intro ?_ ?_;focus first|omega|rfl|assumption|exact⟨_,rfl,rfl⟩|(simp;omega)|(simp;done)))
 ·have hi:i<p.aO.length:=by omega
  have hx:p.aO[i].sz<=aN (p.aO.map aR.enc):=dx (List.mem_map_of_mem (List.getElem_mem hi));rw[ER hi] at p2
  (repeat(with_reducible refine And.intro ?_ ?_;focus first|omega|rfl|assumption|exact⟨_,rfl,rfl⟩|(simp;omega)|(simp;done)))
  refine aB (Bo p.aO[i] (by omega)) ?_;simp -implicitDefEqProofs (disch:=omega) only[go_sem]<;>(repeat(with_reducible refine And.intro ?_ ?_;focus first|omega|rfl|assumption|exact⟨_,rfl,rfl⟩|(simp;omega)|(simp;done)))
  with_reducible refine aD (fun hb=> ?_) (fun hb=> ?_)<;>have h:=hb<;>(try simp only[wf_preprocess] at h)<;>simp -implicitDefEqProofs (disch:=omega) only[go_sem,hb]<;>(repeat(with_reducible refine And.intro ?_ ?_;focus first|omega|rfl|assumption|exact⟨_,rfl,rfl⟩|(simp;omega)|(simp;done)))
  ·exact bN (by unfold vP;rw[<-p2,h];simp)
  ·rw[h,Bool.true_and] at p2;exact cZ (i+1) (by omega) rfl rfl ⟨by omega,p2⟩
 rw[List.drop_of_length_le (by omega),List.all_nil] at p2;have f4:=p2.symm;clear p2 p1 hb h
 refine bO (ι:=Nat) zmx rfl [1,5] (fun i=>[.c (.ptr (0,0) 0),.c (.d (.i .i64 i))]) (fun _=>[.box (p.enc.map .d)]::S)
  (fun i=>i<=p.dV.length/\(p.dV.drop i).all gK=p.dV.all gK) (fun i=>p.dV.length-i) 0 rfl ?_ ⟨Nat.zero_le _,rfl⟩ ?_
 ·simp -implicitDefEqProofs (disch:=omega) only[go_sem]
 rintro i ⟨p1,p2⟩;simp -implicitDefEqProofs (disch:=omega) only[go_sem]
 with_reducible refine aD (fun hb=> ?_) (fun hb=> ?_)<;>have h:=hb<;>(try simp only[wf_preprocess] at h)<;>simp -implicitDefEqProofs (disch:=omega) only[go_sem,hb]<;>(repeat(with_reducible refine And.intro ?_ ?_;focus first|omega|rfl|assumption|exact⟨_,rfl,rfl⟩|(simp;omega)|(simp;done)))
 ·have hi:i<p.dV.length:=by omega
  have hx:p.dV[i].sz<=aN (p.dV.map aP.enc):=dx (List.mem_map_of_mem (List.getElem_mem hi));rw[ER hi] at p2
  (repeat(with_reducible refine And.intro ?_ ?_;focus first|omega|rfl|assumption|exact⟨_,rfl,rfl⟩|(simp;omega)|(simp;done)))
  refine aB (mG p.dV[i] (by omega)) ?_;simp -implicitDefEqProofs (disch:=omega) only[go_sem]<;>(repeat(with_reducible refine And.intro ?_ ?_;focus first|omega|rfl|assumption|exact⟨_,rfl,rfl⟩|(simp;omega)|(simp;done)))
  with_reducible refine aD (fun hb=> ?_) (fun hb=> ?_)<;>have h:=hb<;>(try simp only[wf_preprocess] at h)<;>simp -implicitDefEqProofs (disch:=omega) only[go_sem,hb]<;>(repeat(with_reducible refine And.intro ?_ ?_;focus first|omega|rfl|assumption|exact⟨_,rfl,rfl⟩|(simp;omega)|(simp;done)))
  ·exact bN (by unfold vP;rw[<-p2,h];simp)
  ·rw[h,Bool.true_and] at p2;exact cZ (i+1) (by omega) rfl rfl ⟨by omega,p2⟩
 rw[List.drop_of_length_le (by omega),List.all_nil] at p2;have f5:=p2.symm;clear p2 p1 hb h
 refine bO (ι:=Nat) zmx rfl [1,6] (fun i=>[.c (.ptr (0,0) 0),.c (.d (.i .i64 i))]) (fun _=>[.box (p.enc.map .d)]::S)
  (fun i=>i<=p.dB.length/\(p.dB.drop i).all mD=p.dB.all mD) (fun i=>p.dB.length-i) 0 rfl ?_ ⟨Nat.zero_le _,rfl⟩ ?_
 ·simp -implicitDefEqProofs (disch:=omega) only[go_sem]
 rintro i ⟨p1,p2⟩;simp -implicitDefEqProofs (disch:=omega) only[go_sem]
 with_reducible refine aD (fun hb=> ?_) (fun hb=> ?_)<;>have h:=hb<;>(try simp only[wf_preprocess] at h)<;>simp -implicitDefEqProofs (disch:=omega) only[go_sem,hb]<;>(repeat(with_reducible refine And.intro ?_ ?_;focus first|omega|rfl|assumption|exact⟨_,rfl,rfl⟩|(simp;omega)|(simp;done)))
 ·have hi:i<p.dB.length:=by omega
  have hx:p.dB[i].sz<=aN (p.dB.map bJ.enc):=dx (List.mem_map_of_mem (List.getElem_mem hi));rw[ER hi] at p2
  (repeat(with_reducible refine And.intro ?_ ?_;focus first|omega|rfl|assumption|exact⟨_,rfl,rfl⟩|(simp;omega)|(simp;done)))
  refine aB (yu p.dB[i] (by omega)) ?_;simp -implicitDefEqProofs (disch:=omega) only[go_sem]<;>(repeat(with_reducible refine And.intro ?_ ?_;focus first|omega|rfl|assumption|exact⟨_,rfl,rfl⟩|(simp;omega)|(simp;done)))
  with_reducible refine aD (fun hb=> ?_) (fun hb=> ?_)<;>have h:=hb<;>(try simp only[wf_preprocess] at h)<;>simp -implicitDefEqProofs (disch:=omega) only[go_sem,hb]<;>(repeat(with_reducible refine And.intro ?_ ?_;focus first|omega|rfl|assumption|exact⟨_,rfl,rfl⟩|(simp;omega)|(simp;done)))
  ·exact bN (by unfold vP;rw[<-p2,h];simp)
  ·rw[h,Bool.true_and] at p2;exact cZ (i+1) (by omega) rfl rfl ⟨by omega,p2⟩
 rw[List.drop_of_length_le (by omega),List.all_nil] at p2;have f6:=p2.symm;clear p2 p1 hb h;exact bN (by unfold vP;rw[f3,f4,f5,f6];rfl)
def ai4:List UInt8:=[112,97,99,107,97,103,101]
def isK(s:List UInt8)(y:au):Bool:=decide (dM y.aA 0=s)
noncomputable def ES(l:List au):List bF:=(l.filter (isK qO)).map BH
noncomputable def ET(l:List au):List aR:=(l.filter (isK vC)).map xD
noncomputable def EU(l:List au):List aP:=(l.filter (isK tO)).map GR
noncomputable def EW(l:List au):List bJ:=(l.filter (isK Gx)).map GN
noncomputable def sK(y:au):Bool:=if isK qO y=true then BG y else if isK vC y=true then okD y else if isK tO y=true then GQ y else if isK Gx y=true then okF y else false
noncomputable def decP(x:au):aM:=⟨dM x.aA 1,mF x.aA 2,ES (x.aA.drop 3),ET (x.aA.drop 3),EU (x.aA.drop 3),EW (x.aA.drop 3)⟩
noncomputable def afA(x:au):Prop:=iU x=true/\3<=x.aA.length/\dM x.aA 0=ai4/\(gX x.aA 2).bK=[]/\(gX x.aA 2).aA.all (fun y=>decide (y.bK≠[]))=true
noncomputable def L8(x:au):Bool:=dec (afA x/\(∀y∈x.aA.drop 3,sK y=true)/\validPkg (decP x)=true)
def EX:aM:=⟨[],[],[],[],[],[]⟩
noncomputable def OL(x:au):aM:=if L8 x=true then decP x else EX
theorem ai5{x:au}(h:L8 x=false):OL x=EX:=if_neg (by rw[h];decide)
theorem ahj{x:au}(h:L8 x=true):OL x=decP x:=if_pos h
theorem abq{s s':List UInt8}{y:au}(h:isK s y=true)(hs:s≠s'):isK s' y=false:=by
 unfold isK at *
 rw[decide_eq_true_eq] at h;rw[h];exact decide_eq_false hs
theorem EY{α:Type}(s:List UInt8)(f:au->α){l:List au}{i:Nat}(hi:i<l.length):((l.take (i+1)).filter (isK s)).map f=((l.take i).filter (isK s)).map f++if isK s l[i]=true then [f l[i]] else []:=by
 rw[List.take_succ_eq_append_getElem hi,List.filter_append,List.map_append];congr 1;by_cases h:isK s l[i]=true
 ·rw[if_pos h,List.filter_cons,if_pos h];rfl
 ·rw[if_neg h,List.filter_cons,if_neg h];rfl
theorem ahk{α:Type}(s:List UInt8)(f:au->α)(l:List au)(i:Nat):(((l.take i).filter (isK s)).map f).length<=i:=by
 rw[List.length_map];exact Nat.le_trans (List.length_filter_le _ _) (List.length_take_le _ _)
theorem Vw(y:au):(BH y).sz<=y.sz:=by
 unfold BH;split
 ·exact Sw true y
 ·simp[LW,bF.sz,bF.aj,bD,D.sz,aN]
theorem abr(y:au):(xD y).sz<=y.sz:=by
 unfold xD;split
 ·exact Vo true y
 ·simp[aR.sz,aR.aj,bD,D.sz,aN]
theorem abt(y:au):(GR y).sz<=y.sz:=by
 unfold GR;split
 ·exact Vt true y
 ·have:LU.sz=0:=by simp[LU,iN,aP.sz,aP.aj,ay.aj,ay.aV,ay.fName,ay.fArgs,bD,D.sz,aN]
  omega
theorem abu(y:au):(GN y).sz<=y.sz:=by
 unfold GN;split
 ·exact Vs true y
 ·have:LM.sz=0:=by simp[LM,iN,ni,bJ.sz,bJ.aj,ay.aj,ay.aV,ay.fName,ay.fArgs,aC.aj,bD,D.sz,aN,aC.aV,aC.bU,aC.fName,aC.fN,aC.fType,aC.fArgs,aC.bH]
  omega
theorem xG{α:Type}(s:List UInt8)(f:au->α)(e:α->List D)(h:∀y,bD (e (f y))<=y.sz):∀l:List au,aN (((l.filter (isK s)).map f).map e)<=dK l/\((l.filter (isK s)).map f).length<=l.length
 |[]=>⟨Nat.le_refl _,Nat.le_refl _⟩
 |y::l=>by
  obtain⟨h1,h2⟩:=xG s f e h l;rw[List.filter_cons];split
  ·have:=h y;rw[List.map_cons,List.map_cons,aN,dK,List.length_cons,List.length_cons];omega
  ·rw[dK,List.length_cons];omega
theorem ahl{x:au}(h:x.sz<=500000):(decP x).sz<=4194304:=by
 have h1:=R8 x.aA 3;have h2:=gV x
 have h3:(x.aA.drop 3).length<=x.aA.length:=by rw[List.length_drop];omega
 have h4:=nW (gX x.aA 2).aA;have h5:(gX x.aA 2).sz<=dK x.aA:=yB x.aA 2;have h5':=nk (gX x.aA 2);have h6:(dM x.aA 1).length<=dK x.aA:=Nat.le_trans (EM _) (yB x.aA 1);have t1:=xG qO BH bF.enc Vw (x.aA.drop 3);have t2:=xG vC xD aR.enc abr (x.aA.drop 3);have t3:=xG tO GR aP.enc abt (x.aA.drop 3);have t4:=xG Gx GN bJ.enc abu (x.aA.drop 3);have t5:=gV (gX x.aA 2)
 simp only[aM.sz,aM.aj,bD,aY,D.sz,List.length_map,decP,ES,ET,EU,EW,mF,eB] at *
 omega
theorem Vx(x:au)(i:Nat){m:Nat}(h:x.sz<=m):(x.aA.getD i dz).sz<=m:=by
 have:=yB x.aA i;have:=gV x;omega
theorem abv{b:Bool}{l:List au}{i:Nat}(hi:i<l.length):((l.take i).map (CY b)).map aH.enc++[[.s (l[i].aA.getD 0 dz).bK,.sl (((l[i].aA.drop 1).map (eT b)).map ay.enc)]]=((l.take (i+1)).map (CY b)).map aH.enc:=by
 rw[List.take_succ_eq_append_getElem hi,List.map_append,List.map_append];simp only[List.map_cons,List.map_nil,aH.aj];rfl
theorem ahm{x:au}(h:okD x=true):(xD x).fName=(oH false x).fName/\(xD x).aS=(oH false x).aS/\(xD x).aF=(oH false x).aF:=by
 unfold xD;rw[if_pos h,<-aeo h];exact⟨rfl,rfl,rfl⟩
theorem ai6{x:au}(h:okD x=false):xD x=⟨[],[],[]⟩:=by
 unfold xD;rw[if_neg (by rw[h];decide)]
theorem ai7{x:au}(h:x.aA.length=0):okD x=false:=bM fun h1=>by omega
theorem aeU(ok:Bool):Less (.eu [(true,[.d (.s []),.bI [],.bI []]),(false,[.d (.b ok)])]) (.eu [(true,[.d (.s []),.d (.sl []),.d (.sl [])]),(false,[.d (.b ok)])]):=
 (jZ.cons (.cons (.refl _) (.cons (eO _) (.cons (eO _) .nil))) (.refl _)).less
def lc(l:List aH)(n:Nat):List (List D):=eU (l.map aH.enc) n
theorem Np(x:au)(hsz:x.sz<=1048576):bg prog 241 [x.v] (.eu [(true,[.d (.s (xD x).fName),.d (.sl ((xD x).aS.map encS)),.d (.sl ((xD x).aF.map aH.enc))]),(false,[.d (.b (okD x))])]):=bg.of_le fun S=>by
 have h1:=gV x;have hds:=Vo false x;have hos:=agM (d:=oH false x) (by omega);obtain⟨l,hl⟩:∃l,l=x.aA.drop 3:=⟨_,rfl⟩
 have hll:l.length<=1048576:=by rw[hl,List.length_drop];omega
 have hlm:∀y∈l,y.sz<=1048576:=fun y hy=>by
  have:=kY (List.mem_of_mem_drop (hl▸hy));omega
 obtain⟨T,hT⟩:∃T:Nat->List (List D),T=fun i=>((l.take i).map (CY false)).map aH.enc:=⟨_,rfl⟩
 have hT0:T 0=[]:=by rw[hT];rfl
 have iG:∀i,(T i).length<=i:=fun i=>by rw[hT];simp only[List.length_map];exact List.length_take_le _ _
 have hTs:∀i (hi:i<l.length),T i++[[.s (l[i].aA.getD 0 dz).bK,.sl (((l[i].aA.drop 1).map (eT false)).map ay.enc)]]=T (i+1):=fun i hi=>by rw[hT];exact abv hi
 have hTe:T l.length=((oH false x).aF).map aH.enc:=by
  rw[hT];simp only
  rw[List.take_length,hl];rfl
 clear hT;refine zcx [.cell 2 59,.tmp 3] func241 ntmps241 ?_;simp -implicitDefEqProofs (disch:=omega) only[go_sem];refine aB (eX x 1 (by omega) (by omega)) ?_;simp -implicitDefEqProofs (disch:=omega) only[go_sem];refine aB (eX x 2 (by omega) (by omega)) ?_;simp -implicitDefEqProofs (disch:=omega) only[go_sem];refine aB (oI _ (Vx x 2 (by omega))) ?_;simp -implicitDefEqProofs (disch:=omega) only[go_sem]
 (repeat(with_reducible refine And.intro ?_ ?_;focus first|omega|rfl|assumption|exact⟨_,rfl,rfl⟩|(simp;omega)|(simp;done)))
 refine aB (vw x 3 (by omega)) ?_;simp -implicitDefEqProofs (disch:=omega) only[go_sem];rw[<-hl];refine jD 2 2 2 _ rfl rfl ?_
 refine bO (ι:=Nat) zmx rfl [1,2,4,5,6] (fun i=>[.c (.ptr (0,0) 0),.c (.ptr (0,1) 0),.c (.ptr (0,2) 0),.c (.d (.sl (l.map au.enc))),.c (.d (.i .i64 i))])
  (fun i=>[.box [.d (.s x.bK),.d (.sl (x.aA.map au.enc))],.box [.d (.s []),.bI [],.bI []],.box [.d (.s (oH false x).fName),.d (.sl ((oH false x).aS.map encS)),.bS (0,3) (T i)],.tok 2 (T i)]::S)
  (fun i=>i<=l.length) (fun i=>l.length-i) 0 rfl (by rw[hT0];rfl) (Nat.zero_le _) ?_
 intro i hi;have hl':=iG i;simp -implicitDefEqProofs (disch:=omega) only[go_sem]
 with_reducible refine aD (fun hb=> ?_) (fun hb=> ?_)<;>have h:=hb<;>(try simp only[wf_preprocess] at h)<;>simp -implicitDefEqProofs (disch:=omega) only[go_sem,hb]<;>(repeat(with_reducible refine And.intro ?_ ?_;focus first|omega|rfl|assumption|exact⟨_,rfl,rfl⟩|(simp;omega)|(simp;done)))
 ·have hi':i<l.length:=by omega
  have hm:=List.getElem_mem hi';have hs:=hTs i hi';have hz:=hlm _ hm;have hz1:=gV l[i]
  (repeat(with_reducible refine And.intro ?_ ?_;focus first|omega|rfl|assumption|exact⟨_,rfl,rfl⟩|(simp;omega)|(simp;done)))
  refine aB (eX l[i] 0 (by omega) (by omega)) ?_;simp -implicitDefEqProofs (disch:=omega) only[go_sem]
  (repeat(with_reducible refine And.intro ?_ ?_;focus first|omega|rfl|assumption|exact⟨_,rfl,rfl⟩|(simp;omega)|(simp;done)))
  refine aB (vw l[i] 1 (by omega)) ?_;simp -implicitDefEqProofs (disch:=omega) only[go_sem];refine aB (Fv (l[i].aA.drop 1) (by rw[List.length_drop];omega) (fun t ht=>by have:=kY (List.mem_of_mem_drop ht);omega)) ?_;simp -implicitDefEqProofs (disch:=omega) only[go_sem]
  (repeat(with_reducible refine And.intro ?_ ?_;focus first|omega|rfl|assumption|exact⟨_,rfl,rfl⟩|(simp;omega)|(simp;done)))
  rw[hs];exact dZ 4 (by decide) (i+1) (by omega) rfl rfl rfl rfl (by omega)
 ·have hi':i=l.length:=by omega
  subst hi';rw[hTe];clear hTs;refine aB (lU x (by omega)) ?_;simp -implicitDefEqProofs (disch:=omega) only[go_sem]
  have jK:okD x=false->Less (.eu [(true,[.d (.s []),.bI [],.bI []]),(false,[.d (.b false)])]) (.eu [(true,[.d (.s (xD x).fName),.d (.sl ((xD x).aS.map encS)),.d (.sl ((xD x).aF.map aH.enc))]),(false,[.d (.b (okD x))])]):=fun e=>by
   rw[ai6 e,e];exact aeU false
  with_reducible refine aD (fun hb=> ?_) (fun hb=> ?_)<;>have h:=hb<;>(try simp only[wf_preprocess] at h)<;>simp -implicitDefEqProofs (disch:=omega) only[go_sem,hb]<;>(repeat(with_reducible refine And.intro ?_ ?_;focus first|omega|rfl|assumption|exact⟨_,rfl,rfl⟩|(simp;omega)|(simp;done)))
  ·exact jK (bM fun e=>by rw[e.1] at h;cases h)
  have hv:=h
  with_reducible refine aD (fun hb=> ?_) (fun hb=> ?_)<;>have h:=hb<;>(try simp only[wf_preprocess] at h)<;>simp -implicitDefEqProofs (disch:=omega) only[go_sem,hb]<;>(repeat(with_reducible refine And.intro ?_ ?_;focus first|omega|rfl|assumption|exact⟨_,rfl,rfl⟩|(simp;omega)|(simp;done)))
  ·exact jK (ai7 (by omega))
  have hne:x.aA≠[]:=fun e=>by rw[e] at h;exact h rfl
  have hok:=aen hne;rw[hv,Bool.true_and] at hok
  (repeat(with_reducible refine And.intro ?_ ?_;focus first|omega|rfl|assumption|exact⟨_,rfl,rfl⟩|(simp;omega)|(simp;done)))
  refine aB (Uj (oH false x) (by omega)) ?_;simp -implicitDefEqProofs (disch:=omega) only[go_sem];refine aB (qA (RH (oH false x)) x (by omega)) ?_;simp -implicitDefEqProofs (disch:=omega) only[go_sem]
  with_reducible refine aD (fun hb=> ?_) (fun hb=> ?_)<;>have h:=hb<;>(try simp only[wf_preprocess] at h)<;>simp -implicitDefEqProofs (disch:=omega) only[go_sem,hb]<;>(repeat(with_reducible refine And.intro ?_ ?_;focus first|omega|rfl|assumption|exact⟨_,rfl,rfl⟩|(simp;omega)|(simp;done)))
  ·exact jK (by rw[hok];exact bM h)
  ·have hy:okD x=true:=by rw[hok];exact dH h
   obtain⟨e1,e2,e3⟩:=ahm hy;rw[e1,e2,e3,hy];exact jE _
theorem ai8(p:aM):qC [p]=fG p:=by simp[qC]
theorem ai9(p:aM):qD [p]=gI p:=by simp[qD]
theorem aja(p:aM):qE [p]=fZ p.aO:=by simp[qE]
theorem ajb(p:aM):rZ [p]=fnNames p:=by simp[rZ]
theorem L9(p:aM)(hsz:p.sz<=4194304):bg prog 41 [p.v] (.c (.d (.b (validPkg p)))):=fun S=>by
 have hs:=aM.sum p;have hb:=aM.bounds hsz
 have hV:∀s∈p.iV,s.length<=4194304:=fun s h=>by have:=y8 h;omega
 have l1:(fG p).length<=1073741824:=by simp[fG];omega
 have l2:(gI p).length<=1073741824:=by simp[gI];omega
 have l3:(fZ p.aO).length<=1073741824:=by omega
 have l4:(fnNames p).length<=1073741824:=by simp[fnNames];omega
 refine zcx [.tmp 2] func41 ntmps41 ?_;simp -implicitDefEqProofs (disch:=omega) only[go_sem];refine aB (Jb p hsz) ?_;simp -implicitDefEqProofs (disch:=omega) only[go_sem]
 repeat' (first
  |with_reducible refine aD (fun hb=> ?_) (fun hb=> ?_)<;>have h:=hb<;>(try simp only[wf_preprocess] at h)<;>simp -implicitDefEqProofs (disch:=omega) only[go_sem,hb]<;>(repeat(with_reducible refine And.intro ?_ ?_;focus first|omega|rfl|assumption|exact⟨_,rfl,rfl⟩|(simp;omega)|(simp;done)))
  |((with_reducible show iL _ _ 77 _ _ _ _);refine aB (gU p.fName (by omega)) ?_;simp -implicitDefEqProofs (disch:=omega) only[go_sem])
  |((with_reducible show iL _ _ 78 _ _ _ _);refine aB (kG p.iV 5 (by omega) hV) ?_;simp -implicitDefEqProofs (disch:=omega) only[go_sem])
  |((with_reducible show iL _ _ 79 _ _ _ _);refine aB (ou p.iV p.fName (by omega)) ?_;simp -implicitDefEqProofs (disch:=omega) only[go_sem])
  |((with_reducible show iL _ _ 57 _ _ _ _);refine aB (iW (fG p) l1) ?_;simp -implicitDefEqProofs (disch:=omega) only[go_sem])
  |((with_reducible show iL _ _ 57 _ _ _ _);refine aB (iW (gI p) l2) ?_;simp -implicitDefEqProofs (disch:=omega) only[go_sem])
  |((with_reducible show iL _ _ 57 _ _ _ _);refine aB (iW (fZ p.aO) l3) ?_;simp -implicitDefEqProofs (disch:=omega) only[go_sem])
  |((with_reducible show iL _ _ 57 _ _ _ _);refine aB (iW (fnNames p) l4) ?_;simp -implicitDefEqProofs (disch:=omega) only[go_sem])
  |((with_reducible show iL _ _ 80 _ _ _ _);refine aB (UD p hsz) ?_;simp -implicitDefEqProofs (disch:=omega) only[go_sem])
  |(refine bN ?_;unfold validPkg Vv jV;rw[ai8,ai9,aja,ajb];grind [gP,kF,dH,bM]))
noncomputable def Cr(y:au):List (List D):=if isK qO y=true then [(BH y).enc] else []
noncomputable def Ct(y:au):List (List D):=if isK vC y=true then [(xD y).enc] else []
noncomputable def Cv(y:au):List (List D):=if isK tO y=true then [(GR y).enc] else []
noncomputable def addFn(y:au):List (List D):=if isK Gx y=true then [(GN y).enc] else []
theorem sM{s s':List UInt8}{y:au}(h:isK s y=true)(hs:s≠s')(r:List (List D)):(if isK s' y=true then r else [])=[]:=if_neg (by rw[abq h hs];decide)
def Vy(bx br:List C)(nm dp:D)(a b c d:List (List D)):List Obj:=[.box bx,.box br,.box [.d nm,.d dp,.bS (0,3) a,.bS (0,4) b,.bS (0,5) c,.bS (0,6) d],.tok 5 a,.tok 3 b,.tok 12 c,.tok 16 d]
theorem aeV{l:List au}{i:Nat}(hi:i<l.length):(ES (l.take (i+1))).map bF.enc=(ES (l.take i)).map bF.enc++Cr l[i]:=by
 unfold ES Cr;rw[EY _ _ hi,List.map_append];split<;>rfl
theorem aeW{l:List au}{i:Nat}(hi:i<l.length):(ET (l.take (i+1))).map aR.enc=(ET (l.take i)).map aR.enc++Ct l[i]:=by
 unfold ET Ct;rw[EY _ _ hi,List.map_append];split<;>rfl
theorem aeX{l:List au}{i:Nat}(hi:i<l.length):(EU (l.take (i+1))).map aP.enc=(EU (l.take i)).map aP.enc++Cv l[i]:=by
 unfold EU Cv;rw[EY _ _ hi,List.map_append];split<;>rfl
theorem aeY{l:List au}{i:Nat}(hi:i<l.length):(EW (l.take (i+1))).map bJ.enc=(EW (l.take i)).map bJ.enc++addFn l[i]:=by
 unfold EW addFn;rw[EY _ _ hi,List.map_append];split<;>rfl
theorem abw(l:List au)(i:Nat):((ES (l.take i)).map bF.enc).length<=i/\((ET (l.take i)).map aR.enc).length<=i/\((EU (l.take i)).map aP.enc).length<=i/\((EW (l.take i)).map bJ.enc).length<=i:=by
 have h:=fun {α:Type} s (f:au->α)=>ahk s f l i
 simp only[List.length_map,ES,ET,EU,EW] at *
 exact⟨h _ id,h _ id,h _ id,h _ id⟩
def G5:List C:=[.d (.s []),.bI [],.bI [],.bI [],.bI [],.bI []]
def aM.cv(p:aM):List C:=[.d (.s p.fName),.d (.sl (p.iV.map encS)),.d (.sl (p.dI.map bF.enc)),.d (.sl (p.aO.map aR.enc)),.d (.sl (p.dV.map aP.enc)),.d (.sl (p.dB.map bJ.enc))]
theorem ajc(e:aM)(h:e=EX)(ok:Bool):Less (.eu [(true,G5),(false,[.d (.b ok)])]) (.eu [(true,e.cv),(false,[.d (.b ok)])]):=by
 subst h;exact(jZ.cons (.cons (.refl _) (.cons (eO _) (.cons (eO _) (.cons (eO _) (.cons (eO _) (.cons (eO _) .nil)))))) (.refl _)).less
theorem UE(y:au)(hsz:y.sz<=1048576)(bx br:List C)(nm dp:D)(a b c d:List (List D))(Ω:Store)(ha:a.length<=1048576)(hb:b.length<=1048576)(hc:c.length<=1048576)(hd:d.length<=1048576):
 cB prog 221 [.c (.ptr (0,2) 0),y.v] (Vy bx br nm dp a b c d::Ω) (fun r S'=>r=.c (.d (.b (sK y)))/\S'=Vy bx br nm dp (a++Cr y) (b++Ct y) (c++Cv y) (d++addFn y)::Ω):=by
 unfold Vy;refine zcx [.tmp 4] func221 ntmps221 ?_;simp -implicitDefEqProofs (disch:=omega) only[go_sem];refine aB (eX y 0 (by omega) (by omega)) ?_;simp -implicitDefEqProofs (disch:=omega) only[go_sem];have hk:∀s,isK s y=decide ((y.aA.getD 0 dz).bK=s):=fun s=>rfl
 with_reducible refine aD (fun hb=> ?_) (fun hb=> ?_)<;>have h:=hb<;>(try simp only[wf_preprocess] at h)<;>simp -implicitDefEqProofs (disch:=omega) only[go_sem,hb]<;>(repeat(with_reducible refine And.intro ?_ ?_;focus first|omega|rfl|assumption|exact⟨_,rfl,rfl⟩|(simp;omega)|(simp;done)))
 ·have h1:isK qO y=true:=by rw[hk];exact hb
  refine aB (SB y (by omega)) ?_;simp -implicitDefEqProofs (disch:=omega) only[go_sem]
  (repeat(with_reducible refine And.intro ?_ ?_;focus first|omega|rfl|assumption|exact⟨_,rfl,rfl⟩|(simp;omega)|(simp;done)))
  have e0:sK y=BG y:=if_pos h1;have e1:Cr y=[(BH y).enc]:=if_pos h1;have e2:Ct y=[]:=sM h1 (by decide) _;have e3:Cv y=[]:=sM h1 (by decide) _;have e4:addFn y=[]:=sM h1 (by decide) _;rw[e0,e1,e2,e3,e4];simp -implicitDefEqProofs (disch:=omega) only[go_sem]
  (repeat(with_reducible refine And.intro ?_ ?_;focus first|omega|rfl|assumption|exact⟨_,rfl,rfl⟩|(simp;omega)|(simp;done)))
 have n1:isK qO y=false:=by rw[hk];exact hb
 with_reducible refine aD (fun hb=> ?_) (fun hb=> ?_)<;>have h:=hb<;>(try simp only[wf_preprocess] at h)<;>simp -implicitDefEqProofs (disch:=omega) only[go_sem,hb]<;>(repeat(with_reducible refine And.intro ?_ ?_;focus first|omega|rfl|assumption|exact⟨_,rfl,rfl⟩|(simp;omega)|(simp;done)))
 ·have h1:isK vC y=true:=by rw[hk];exact hb
  refine aB (Np y (by omega)) ?_;simp -implicitDefEqProofs (disch:=omega) only[go_sem]
  (repeat(with_reducible refine And.intro ?_ ?_;focus first|omega|rfl|assumption|exact⟨_,rfl,rfl⟩|(simp;omega)|(simp;done)))
  have e0:sK y=okD y:=by unfold sK;simp only[n1,h1,if_false,if_true,Bool.false_eq_true]
  have e1:Cr y=[]:=sM h1 (by decide) _;have e2:Ct y=[(xD y).enc]:=if_pos h1;have e3:Cv y=[]:=sM h1 (by decide) _;have e4:addFn y=[]:=sM h1 (by decide) _;rw[e0,e1,e2,e3,e4];simp -implicitDefEqProofs (disch:=omega) only[go_sem]
  (repeat(with_reducible refine And.intro ?_ ?_;focus first|omega|rfl|assumption|exact⟨_,rfl,rfl⟩|(simp;omega)|(simp;done)))
 have n2:isK vC y=false:=by rw[hk];exact hb
 with_reducible refine aD (fun hb=> ?_) (fun hb=> ?_)<;>have h:=hb<;>(try simp only[wf_preprocess] at h)<;>simp -implicitDefEqProofs (disch:=omega) only[go_sem,hb]<;>(repeat(with_reducible refine And.intro ?_ ?_;focus first|omega|rfl|assumption|exact⟨_,rfl,rfl⟩|(simp;omega)|(simp;done)))
 ·have h1:isK tO y=true:=by rw[hk];exact hb
  refine aB (Uz y (by omega)) ?_;simp -implicitDefEqProofs (disch:=omega) only[go_sem]
  (repeat(with_reducible refine And.intro ?_ ?_;focus first|omega|rfl|assumption|exact⟨_,rfl,rfl⟩|(simp;omega)|(simp;done)))
  have e0:sK y=GQ y:=by unfold sK;simp only[n1,n2,h1,if_false,if_true,Bool.false_eq_true]
  have e1:Cr y=[]:=sM h1 (by decide) _;have e2:Ct y=[]:=sM h1 (by decide) _;have e3:Cv y=[(GR y).enc]:=if_pos h1;have e4:addFn y=[]:=sM h1 (by decide) _;rw[e0,e1,e2,e3,e4];simp -implicitDefEqProofs (disch:=omega) only[go_sem]
  (repeat(with_reducible refine And.intro ?_ ?_;focus first|omega|rfl|assumption|exact⟨_,rfl,rfl⟩|(simp;omega)|(simp;done)))
 have n3:isK tO y=false:=by rw[hk];exact hb
 with_reducible refine aD (fun hb=> ?_) (fun hb=> ?_)<;>have h:=hb<;>(try simp only[wf_preprocess] at h)<;>simp -implicitDefEqProofs (disch:=omega) only[go_sem,hb]<;>(repeat(with_reducible refine And.intro ?_ ?_;focus first|omega|rfl|assumption|exact⟨_,rfl,rfl⟩|(simp;omega)|(simp;done)))
 ·have h1:isK Gx y=true:=by rw[hk];exact hb
  refine aB (Sq y (by omega)) ?_;simp -implicitDefEqProofs (disch:=omega) only[go_sem]
  (repeat(with_reducible refine And.intro ?_ ?_;focus first|omega|rfl|assumption|exact⟨_,rfl,rfl⟩|(simp;omega)|(simp;done)))
  have e0:sK y=okF y:=by unfold sK;simp only[n1,n2,n3,h1,if_false,if_true,Bool.false_eq_true]
  have e1:Cr y=[]:=sM h1 (by decide) _;have e2:Ct y=[]:=sM h1 (by decide) _;have e3:Cv y=[]:=sM h1 (by decide) _;have e4:addFn y=[(GN y).enc]:=if_pos h1;rw[e0,e1,e2,e3,e4];simp -implicitDefEqProofs (disch:=omega) only[go_sem]
  (repeat(with_reducible refine And.intro ?_ ?_;focus first|omega|rfl|assumption|exact⟨_,rfl,rfl⟩|(simp;omega)|(simp;done)))
 have n4:isK Gx y=false:=by rw[hk];exact hb
 unfold sK Cr Ct Cv addFn;simp only[n1,n2,n3,n4,if_false,Bool.false_eq_true,List.append_nil];exact⟨trivial,trivial⟩
theorem UF(x:au)(hsz:x.sz<=1048576):bg prog 192 [x.v] (.eu [(true,(OL x).cv),(false,[.d (.b (L8 x))])]):=bg.of_le fun S=>by
 have h1:=gV x;obtain⟨l,hl⟩:∃l,l=x.aA.drop 3:=⟨_,rfl⟩
 have hll:l.length<=1048576:=by rw[hl,List.length_drop];omega
 have hlen:l.length=x.aA.length-3:=by rw[hl,List.length_drop]
 have hlm:∀y∈l,y.sz<=1048576:=fun y hy=>by
  have:=kY (List.mem_of_mem_drop (hl▸hy));omega
 have jK:L8 x=false->Less (.eu [(true,G5),(false,[.d (.b false)])]) (.eu [(true,(OL x).cv),(false,[.d (.b (L8 x))])]):=fun e=>by
  rw[e];exact ajc _ (ai5 e) false
 have hnm:((x.aA.getD 2 dz).aA).length<=1073741824:=by
  have:=Vx x 2 (Nat.le_refl _);have:=gV (x.aA.getD 2 dz);omega
 refine zcx [.cell 2 77,.tmp 3] func192 ntmps192 ?_;simp -implicitDefEqProofs (disch:=omega) only[go_sem];refine aB (eX x 2 (by omega) (by omega)) ?_;simp -implicitDefEqProofs (disch:=omega) only[go_sem];refine aB (Bu _ hnm) ?_;simp -implicitDefEqProofs (disch:=omega) only[go_sem];refine aB (eX x 1 (by omega) (by omega)) ?_;simp -implicitDefEqProofs (disch:=omega) only[go_sem];refine aB (lU x (by omega)) ?_;simp -implicitDefEqProofs (disch:=omega) only[go_sem]
 with_reducible refine aD (fun hb=> ?_) (fun hb=> ?_)<;>have h:=hb<;>(try simp only[wf_preprocess] at h)<;>simp -implicitDefEqProofs (disch:=omega) only[go_sem,hb]<;>(repeat(with_reducible refine And.intro ?_ ?_;focus first|omega|rfl|assumption|exact⟨_,rfl,rfl⟩|(simp;omega)|(simp;done)))
 ·exact jK (bM fun e=>by rw[e.1.1] at h;cases h)
 have hv:=h
 with_reducible refine aD (fun hb=> ?_) (fun hb=> ?_)<;>have h:=hb<;>(try simp only[wf_preprocess] at h)<;>simp -implicitDefEqProofs (disch:=omega) only[go_sem,hb]<;>(repeat(with_reducible refine And.intro ?_ ?_;focus first|omega|rfl|assumption|exact⟨_,rfl,rfl⟩|(simp;omega)|(simp;done)))
 ·exact jK (bM fun e=>by have:=e.1.2.1;omega)
 have h3:3<=x.aA.length:=by omega
 (repeat(with_reducible refine And.intro ?_ ?_;focus first|omega|rfl|assumption|exact⟨_,rfl,rfl⟩|(simp;omega)|(simp;done)))
 have a0:x.aA[0].bK=dM x.aA 0:=(Am (by omega)).symm;have g2:x.aA[2]=gX x.aA 2:=(aa7 (by omega)).symm
 with_reducible refine aD (fun hb=> ?_) (fun hb=> ?_)<;>have h:=hb<;>(try simp only[wf_preprocess] at h)<;>simp -implicitDefEqProofs (disch:=omega) only[go_sem,hb]<;>(repeat(with_reducible refine And.intro ?_ ?_;focus first|omega|rfl|assumption|exact⟨_,rfl,rfl⟩|(simp;omega)|(simp;done)))
 ·exact jK (bM fun e=>h (a0.trans e.1.2.2.1))
 have hw:dM x.aA 0=ai4:=by rw[<-a0];exact h
 (repeat(with_reducible refine And.intro ?_ ?_;focus first|omega|rfl|assumption|exact⟨_,rfl,rfl⟩|(simp;omega)|(simp;done)))
 with_reducible refine aD (fun hb=> ?_) (fun hb=> ?_)<;>have h:=hb<;>(try simp only[wf_preprocess] at h)<;>simp -implicitDefEqProofs (disch:=omega) only[go_sem,hb]<;>(repeat(with_reducible refine And.intro ?_ ?_;focus first|omega|rfl|assumption|exact⟨_,rfl,rfl⟩|(simp;omega)|(simp;done)))
 ·exact jK (bM fun e=>h (by rw[g2];exact e.1.2.2.2.1))
 have hz2:(gX x.aA 2).bK=[]:=by rw[<-g2];exact h
 with_reducible refine aD (fun hb=> ?_) (fun hb=> ?_)<;>have h:=hb<;>(try simp only[wf_preprocess] at h)<;>simp -implicitDefEqProofs (disch:=omega) only[go_sem,hb]<;>(repeat(with_reducible refine And.intro ?_ ?_;focus first|omega|rfl|assumption|exact⟨_,rfl,rfl⟩|(simp;omega)|(simp;done)))
 ·exact jK (bM fun e=>by have:=e.1.2.2.2.2;unfold allA at h;rw[show(x.aA.getD 2 dz)=gX x.aA 2 from rfl,this] at h;cases h)
 have hall:(gX x.aA 2).aA.all (fun y=>decide (y.bK≠[]))=true:=h;have hhead:afA x:=⟨hv,h3,hw,hz2,hall⟩;have hvs:=BZ hv;refine jD 2 2 5 _ rfl rfl ?_;refine jD 2 3 3 _ rfl rfl ?_;refine jD 2 4 12 _ rfl rfl ?_;refine jD 2 5 16 _ rfl rfl ?_
 refine bO (ι:=Nat) zmx rfl [1,2,6,7] (fun i=>[.c (.ptr (0,0) 0),.c (.ptr (0,1) 0),.c (.ptr (0,2) 0),.c (.d (.i .i64 (i+3:Nat)))])
  (fun i=>Vy [.d (.s x.bK),.d (.sl (x.aA.map au.enc))] G5 (.s (x.aA.getD 1 dz).bK) (.sl ((gy (x.aA.getD 2 dz).aA).map encS)) ((ES (l.take i)).map bF.enc) ((ET (l.take i)).map aR.enc) ((EU (l.take i)).map aP.enc) ((EW (l.take i)).map bJ.enc)::S)
  (fun i=>i<=l.length/\∀j,∀hj:j<l.length,j<i->sK l[j]=true) (fun i=>l.length-i) 0 rfl rfl ⟨Nat.zero_le _,fun j _ h=>by omega⟩ ?_
 rintro i ⟨p1,p2⟩;obtain⟨t1,t2,t3,t4⟩:=abw l i;simp -implicitDefEqProofs (disch:=omega) only[go_sem,Vy]
 with_reducible refine aD (fun hb=> ?_) (fun hb=> ?_)<;>have h:=hb<;>(try simp only[wf_preprocess] at h)<;>simp -implicitDefEqProofs (disch:=omega) only[go_sem,hb]<;>(repeat(with_reducible refine And.intro ?_ ?_;focus first|omega|rfl|assumption|exact⟨_,rfl,rfl⟩|(simp;omega)|(simp;done)))
 ·have hi:i<l.length:=by omega
  have hm:=List.getElem_mem hi;have hz:=hlm _ hm
  have hg:x.aA[i+3]'(by omega)=l[i]:=by
   simp only[hl,List.getElem_drop];congr 1;omega
  (repeat(with_reducible refine And.intro ?_ ?_;focus first|omega|rfl|assumption|exact⟨_,rfl,rfl⟩|(simp;omega)|(simp;done)))
  simp only[hg];have hc:=UE l[i] hz [.d (.s x.bK),.d (.sl (x.aA.map au.enc))] G5 (.s (x.aA.getD 1 dz).bK) (.sl ((gy (x.aA.getD 2 dz).aA).map encS)) _ _ _ _ S (Nat.le_trans t1 (by omega)) (Nat.le_trans t2 (by omega)) (Nat.le_trans t3 (by omega)) (Nat.le_trans t4 (by omega));rw[<-aeV hi,<-aeW hi,<-aeX hi,<-aeY hi] at hc;refine bE rfl hc ?_;simp -implicitDefEqProofs (disch:=omega) only[go_sem,Vy]
  with_reducible refine aD (fun hb=> ?_) (fun hb=> ?_)<;>have h:=hb<;>(try simp only[wf_preprocess] at h)<;>simp -implicitDefEqProofs (disch:=omega) only[go_sem,hb]<;>(repeat(with_reducible refine And.intro ?_ ?_;focus first|omega|rfl|assumption|exact⟨_,rfl,rfl⟩|(simp;omega)|(simp;done)))
  ·exact⟨by decide,jK (bM fun e=>by have:=e.2.1 l[i] (by rw[<-hl];exact hm);rw[this] at h;cases h)⟩
  ·refine cZ (i+1) (by omega) rfl rfl ⟨by omega,fun j hj hji=> ?_⟩;by_cases e:j=i
   ·subst e;exact h
   ·exact p2 j hj (by omega)
 ·have hi:i=l.length:=by omega
  subst hi;rw[List.take_length,hl];refine aB (L9 (decP x) (ahl (by omega))) ?_;simp -implicitDefEqProofs (disch:=omega) only[go_sem]
  have hits:∀y∈x.aA.drop 3,sK y=true:=fun y hy=>by
   rw[<-hl] at hy;obtain⟨j,hj,rfl⟩:=List.mem_iff_getElem.1 hy;exact p2 j hj hj
  with_reducible refine aD (fun hb=> ?_) (fun hb=> ?_)<;>have h:=hb<;>(try simp only[wf_preprocess] at h)<;>simp -implicitDefEqProofs (disch:=omega) only[go_sem,hb]<;>(repeat(with_reducible refine And.intro ?_ ?_;focus first|omega|rfl|assumption|exact⟨_,rfl,rfl⟩|(simp;omega)|(simp;done)))
  ·exact⟨by decide,jK (bM fun e=>by rw[e.2.2] at h;cases h)⟩
  ·have hy:L8 x=true:=dH ⟨hhead,hits,h⟩;rw[ahj hy,hy];exact⟨by decide,jE _⟩
def m2P(p:aM)(n:Nat):Nat:=n+1+(gQ (p.dI.map bF.enc)+1)
def m3P(p:aM)(n:Nat):Nat:=m2P p n+(gQ (p.aO.map aR.enc)+1)
def m4P(p:aM)(n:Nat):Nat:=m3P p n+(gQ (p.dV.map aP.enc)+1)
noncomputable def J3(s:List UInt8):Bool:=mq s&&L8 (kI s)
noncomputable def G6(s:List UInt8):aM:=if mq s=true then OL (kI s) else EX
abbrev aM.cl(p:aM)(n:Nat):List C:=[.d (.s p.fName),.d (.ol n (p.iV.map encS)),.d (.ol (n+1) (eU (p.dI.map bF.enc) (n+1+1))),.d (.ol (m2P p n) (eU (p.aO.map aR.enc) (m2P p n+1))),.d (.ol (m3P p n) (eU (p.dV.map aP.enc) (m3P p n+1))),.d (.ol (m4P p n) (eU (p.dB.map bJ.enc) (m4P p n+1)))]
theorem Pk(s:List UInt8)(hs:s.length<=1048576):bg prog 168 [.c (.d (.s s))] (.eu [(true,(G6 s).cv),(false,[.d (.b (J3 s))])]):=bg.of_le fun S=>by
 have hz:=aeS s;have c1:=Pg s hs;have c2:=UF (kI s) hz
 have jK:mq s=false->Less (.eu [(true,G5),(false,[.d (.b false)])]) (.eu [(true,(G6 s).cv),(false,[.d (.b (J3 s))])]):=fun e=>by
  have e1:G6 s=EX:=if_neg (by rw[e];decide)
  have e2:J3 s=false:=by unfold J3;rw[e];rfl
  rw[e2];exact ajc _ e1 false
 have afB:mq s=true->G6 s=OL (kI s)/\J3 s=L8 (kI s):=fun e=>⟨if_pos e,by unfold J3;rw[e];rfl⟩;obtain⟨X,hX⟩:∃X,X=kI s:=⟨_,rfl⟩;rw[<-hX] at c1 c2 afB;refine zcx [.cell 2 77,.tmp 3] func168 ntmps168 ?_;simp -implicitDefEqProofs (disch:=omega) only[go_sem];refine aB c1 ?_;simp -implicitDefEqProofs (disch:=omega) only[go_sem,au.aj,List.map_cons,List.map_nil]
 with_reducible refine aD (fun hb=> ?_) (fun hb=> ?_)<;>have h:=hb<;>(try simp only[wf_preprocess] at h)<;>simp -implicitDefEqProofs (disch:=omega) only[go_sem,hb]<;>(repeat(with_reducible refine And.intro ?_ ?_;focus first|omega|rfl|assumption|exact⟨_,rfl,rfl⟩|(simp;omega)|(simp;done)))
 ·exact jK h
 ·obtain⟨q1,q2⟩:=afB h;rw[q1,q2];refine aB c2 ?_;simp -implicitDefEqProofs (disch:=omega) only[go_sem,aM.cv];exact jE _
def spl(c:UInt8)(acc:List UInt8):List UInt8->List (List UInt8)
 |[]=>[acc]
 |b::t=>if b=c then acc::spl c [] t else spl c (acc++[b]) t
theorem Nq(c:UInt8):∀(s acc:List UInt8),(spl c acc s).length<=s.length+1/\∀l∈spl c acc s,l.length<=acc.length+s.length
 |[],acc=>by simp[spl]
 |b::t,acc=>by
  rw[spl];split
  ·have:=Nq c t [];refine⟨by simp only[List.length_cons];omega,fun l hl=> ?_⟩;rcases List.mem_cons.1 hl with rfl|hl
   ·omega
   ·have:=this.2 l hl;simp only[List.length_nil,List.length_cons] at *;omega
  ·have:=Nq c t (acc++[b]);refine⟨by simp only[List.length_cons];omega,fun l hl=> ?_⟩;have:=this.2 l hl;simp only[List.length_append,List.length_cons,List.length_nil] at *;omega
def Ma(s:List UInt8):Bool:=s.all fun b=>decide (b=32)
noncomputable def sN:List (List UInt8)->List aM->List aM×Int
 |[],acc=>(acc,-1)
 |l::ls,acc=>if Ma l=true then sN ls acc else if J3 l=true/\acc.length≠5 then sN ls (acc++[G6 l]) else([],acc.length)
noncomputable def G7(s:List UInt8):bG:=⟨(sN (spl 10 [] s) []).1⟩
noncomputable def ajf(s:List UInt8):Int:=(sN (spl 10 [] s) []).2
theorem ahn(x:au):(OL x).sz<=190000:=by
 unfold OL;split
 ·rename_i h;have h:x.sz<=11700:=BZ (gP h).1.1;have h1:=R8 x.aA 3;have h2:=gV x
  have h3:(x.aA.drop 3).length<=x.aA.length:=by rw[List.length_drop];omega
  have h4:=nW (gX x.aA 2).aA;have h5:(gX x.aA 2).sz<=dK x.aA:=yB x.aA 2;have h5':=nk (gX x.aA 2);have h6:(dM x.aA 1).length<=dK x.aA:=Nat.le_trans (EM _) (yB x.aA 1);have t1:=xG qO BH bF.enc Vw (x.aA.drop 3);have t2:=xG vC xD aR.enc abr (x.aA.drop 3);have t3:=xG tO GR aP.enc abt (x.aA.drop 3);have t4:=xG Gx GN bJ.enc abu (x.aA.drop 3);have t5:=gV (gX x.aA 2)
  simp only[aM.sz,aM.aj,bD,aY,D.sz,List.length_map,decP,ES,ET,EU,EW,mF,eB] at *
  omega
 ·simp[EX,aM.sz,aM.aj,bD,D.sz,aN]
theorem aeZ(s:List UInt8):(G6 s).sz<=190000:=by
 unfold G6;split
 ·exact ahn (kI s)
 ·simp[EX,aM.sz,aM.aj,bD,D.sz,aN]
theorem OM:∀a b:List (List D),aN (a++b)=aN a+aN b
 |[],b=>by simp[aN]
 |r::a,b=>by rw[List.cons_append,aN,aN,OM a b];omega
theorem G8:∀(ls:List (List UInt8))(acc:List aM),acc.length<=5->aN (acc.map aM.enc)<=acc.length*190000->(sN ls acc).1.length<=5/\aN ((sN ls acc).1.map aM.enc)<=950000
 |[],acc,h1,h2=>⟨h1,by rw[sN];have:acc.length*190000<=5*190000:=Nat.mul_le_mul_right _ h1;simp only;omega⟩
 |l::ls,acc,h1,h2=>by
  rw[sN];split
  ·exact G8 ls acc h1 h2
  ·split
   ·rename_i h;refine G8 ls _ (by rw[List.length_append,List.length_singleton];omega) ?_;have h3:=aeZ l;rw[List.map_append,OM]
    simp only[List.map_cons,List.map_nil,aN,List.length_append,List.length_singleton] at *
    rw[aM.sz] at h3;omega
   ·exact⟨by simp,by simp[aN]⟩
theorem abx(s:List UInt8):(G7 s).sz<=1048576:=by
 obtain⟨h1,h2⟩:=G8 (spl 10 [] s) [] (by simp) (by simp[aN]);rw[bG.sz];simp only[G7,bG.aj,bD,D.sz,List.length_map];omega
theorem ajg{s:List UInt8}{i a:Nat}(hi:i<s.length)(ha:a<=i):(s.take (i+1)).drop a=(s.take i).drop a++[s[i]]:=by
 rw[List.take_succ_eq_append_getElem hi,List.drop_append_of_le_length (by rw[List.length_take];omega)]
theorem OO(out:List (List UInt8))(x:List UInt8):out.map encS++[[D.s x]]=(out++[x]).map encS:=by simp[encS]
theorem aby(l:List aM)(p:aM):l.map aM.enc++[[.s p.fName,.sl (p.iV.map encS),.sl (p.dI.map bF.enc),.sl (p.aO.map aR.enc),.sl (p.dV.map aP.enc),.sl (p.dB.map bJ.enc)]]=(l++[p]).map aM.enc:=by rw[List.map_append];rfl
theorem SH(s:List UInt8)(hs:s.length<=1073741824):bg prog 167 [.c (.d (.s s))] (.c (.d (.b (Ma s)))):=fun S=>by
 refine zcx [.tmp 2] func167 ntmps167 ?_;simp -implicitDefEqProofs (disch:=omega) only[go_sem]
 refine bO (ι:=Nat) zmx rfl [0,3] (fun i=>[.c (.d (.s s)),.c (.d (.i .i64 i))]) (fun _=>[]::S)
  (fun i=>i<=s.length/\∀j,∀hj:j<s.length,j<i->s[j]=32) (fun i=>s.length-i) 0 rfl rfl ⟨Nat.zero_le _,fun j _ h=>by omega⟩ ?_
 rintro i ⟨p1,p2⟩;simp -implicitDefEqProofs (disch:=omega) only[go_sem]
 with_reducible refine aD (fun hb=> ?_) (fun hb=> ?_)<;>have h:=hb<;>(try simp only[wf_preprocess] at h)<;>simp -implicitDefEqProofs (disch:=omega) only[go_sem,hb]<;>(repeat(with_reducible refine And.intro ?_ ?_;focus first|omega|rfl|assumption|exact⟨_,rfl,rfl⟩|(simp;omega)|(simp;done)))
 ·have hi:i<s.length:=by omega
  (repeat(with_reducible refine And.intro ?_ ?_;focus first|omega|rfl|assumption|exact⟨_,rfl,rfl⟩|(simp;omega)|(simp;done)))
  with_reducible refine aD (fun hb=> ?_) (fun hb=> ?_)<;>have h:=hb<;>(try simp only[wf_preprocess] at h)<;>simp -implicitDefEqProofs (disch:=omega) only[go_sem,hb]<;>(repeat(with_reducible refine And.intro ?_ ?_;focus first|omega|rfl|assumption|exact⟨_,rfl,rfl⟩|(simp;omega)|(simp;done)))
  ·have:Ma s=false:=Bool.eq_false_iff.2 fun e=>h (by
    have:=List.all_eq_true.1 e s[i] (List.getElem_mem hi)
    rw[show s.getD i 0=s[i] by simp[List.getD,hi],of_decide_eq_true this];rfl)
   rw[this]
  ·refine cZ (i+1) (by omega) rfl rfl ⟨by omega,fun j hj hji=> ?_⟩;by_cases e:j=i
   ·subst e;rw[show s.getD j 0=s[j] by simp[List.getD,hi]] at h;exact UInt8.toNat_inj.1 (by rw[show(32:UInt8).toNat=32 from rfl];omega)
   ·exact p2 j hj (by omega)
 ·have:Ma s=true:=List.all_eq_true.2 fun b hb=>by
   obtain⟨j,hj,rfl⟩:=List.mem_iff_getElem.1 hb;exact decide_eq_true (p2 j hj (by omega))
  rw[this]
theorem SI(s:List UInt8)(c:UInt8)(hs:s.length<=1048576):bg prog 166 [.c (.d (.s s)),.c (.d (.i .u8 c.toNat))] (.c (.d (.sl ((spl c [] s).map encS)))):=fun S=>by
 refine zcx [.tmp 4] func166 ntmps166 ?_;simp -implicitDefEqProofs (disch:=omega) only[go_sem];refine iZ 5 1 [] rfl (by simp) ?_
 refine bO (ι:=Nat×Nat×List (List UInt8)) zmx rfl [0,1,5,6,7] (fun y=>[.c (.d (.s s)),.c (.d (.i .u8 c.toNat)),.c (.bS (0,0) (y.2.2.map encS)),.c (.d (.i .i64 y.2.1)),.c (.d (.i .i64 y.1))]) (fun y=>[.tok 1 (y.2.2.map encS)]::S)
  (fun y=>y.2.1<=y.1/\y.2.2.length<=y.1/\((y.1<=s.length/\y.2.2++spl c ((s.take y.1).drop y.2.1) (s.drop y.1)=spl c [] s)\/(y.1=s.length+1/\y.2.2=spl c [] s))) (fun y=>s.length+1-y.1) (0,0,[]) rfl rfl ⟨Nat.le_refl _,Nat.le_refl _,.inl ⟨Nat.zero_le _,by simp⟩⟩ ?_
 rintro⟨i,fr,out⟩ ⟨p1,p2,p3⟩;simp only at p1 p2 p3
 have p4:i<=s.length+1:=by omega
 simp -implicitDefEqProofs (disch:=omega) only[go_sem]
 with_reducible refine aD (fun hb=> ?_) (fun hb=> ?_)<;>have h:=hb<;>(try simp only[wf_preprocess] at h)<;>simp -implicitDefEqProofs (disch:=omega) only[go_sem,hb]<;>(repeat(with_reducible refine And.intro ?_ ?_;focus first|omega|rfl|assumption|exact⟨_,rfl,rfl⟩|(simp;omega)|(simp;done)))
 ·have h1:i<=s.length:=by omega
  have hq:out++spl c ((s.take i).drop fr) (s.drop i)=spl c [] s:=by
   rcases p3 with p3|p3
   ·exact p3.2
   ·omega
  with_reducible refine aD (fun hb=> ?_) (fun hb=> ?_)<;>have h:=hb<;>(try simp only[wf_preprocess] at h)<;>simp -implicitDefEqProofs (disch:=omega) only[go_sem,hb]<;>(repeat(with_reducible refine And.intro ?_ ?_;focus first|omega|rfl|assumption|exact⟨_,rfl,rfl⟩|(simp;omega)|(simp;done)))
  ·have hi:i=s.length:=by omega
   subst hi;rw[List.drop_length,spl] at hq
   (repeat(with_reducible refine And.intro ?_ ?_;focus first|omega|rfl|assumption|exact⟨_,rfl,rfl⟩|(simp;omega)|(simp;done)))
   rw[OO];exact cZ (s.length+1,s.length+1,out++[(s.take s.length).drop fr]) (by simp only;omega) rfl rfl ⟨Nat.le_refl _,by simp only[List.length_append,List.length_singleton];omega,.inr ⟨rfl,hq⟩⟩
  ·have hi:i<s.length:=by omega
   have hg:s.getD i 0=s[i]:=by simp[List.getD,hi]
   (repeat(with_reducible refine And.intro ?_ ?_;focus first|omega|rfl|assumption|exact⟨_,rfl,rfl⟩|(simp;omega)|(simp;done)))
   with_reducible refine aD (fun hb=> ?_) (fun hb=> ?_)<;>have h:=hb<;>(try simp only[wf_preprocess] at h)<;>simp -implicitDefEqProofs (disch:=omega) only[go_sem,hb]<;>(repeat(with_reducible refine And.intro ?_ ?_;focus first|omega|rfl|assumption|exact⟨_,rfl,rfl⟩|(simp;omega)|(simp;done)))
   ·have hc:s[i]=c:=by
     rw[hg] at h;exact UInt8.toNat_inj.1 (by omega)
    rw[List.drop_eq_getElem_cons hi,spl,if_pos hc] at hq
    (repeat(with_reducible refine And.intro ?_ ?_;focus first|omega|rfl|assumption|exact⟨_,rfl,rfl⟩|(simp;omega)|(simp;done)))
    rw[OO];refine cZ (i+1,i+1,out++[(s.take i).drop fr]) (by simp only;omega) rfl rfl ⟨Nat.le_refl _,by simp only[List.length_append,List.length_singleton];omega,.inl ⟨by simp only;omega,?_⟩⟩
    ·simp only
     rw[show(s.take (i+1)).drop (i+1)=[] from List.drop_eq_nil_of_le (by rw[List.length_take];omega),<-hq,List.append_assoc];rfl
   ·have hc:s[i]≠c:=fun e=>h (by rw[hg,e]);rw[List.drop_eq_getElem_cons hi,spl,if_neg hc,<-ajg hi p1] at hq;exact cZ (i+1,fr,out) (by simp only;omega) rfl rfl ⟨by simp only;omega,by simp only;omega,.inl ⟨by simp only;omega,hq⟩⟩
 ·rcases p3 with p3|p3
  ·omega
  ·rw[<-p3.2]
theorem OP{bs:List Int}(hB:Bytes bs)(c c2:Cu bs)(k:Int)(l j:Nat)(S:Store)(hk:bA S (l,j)=some (.box (cur c)))(h2:aX 10 c=(k,c2))(hk3:k=2\/k=3):
 cB prog 102 [.c (.ptr (l,j) 0)] S (fun r S1=>r=(uR k c2).1.v/\S1=bq S (l,j) (.box (cur (uR k c2).2))):=by
 have g:∀x:Ab.Obj,bA (bq S (l,j) x) (l,j)=some x:=fun x=>dw _ _ _ _ hk;have q2:=fun fr:List Ab.Obj=>d9 hB c (1+l) j (fr::S) 10 (by rw[aJ];exact hk) (by omega) (by omega);simp only[h2,ak] at q2;obtain⟨q,hq⟩:∃q,q=uR k c2:=⟨_,rfl⟩;rw[<-hq];refine cB.of_le ?_;refine Ad [67] (rs:=[.cell 2 59]) zmx func102 ntmps102 rfl rfl rfl rfl rfl ?_;simp -implicitDefEqProofs (disch:=omega) only[go_sem];refine aB (fU _) ?_;simp -implicitDefEqProofs (disch:=omega) only[go_sem];refine aB (fU _) ?_;simp -implicitDefEqProofs (disch:=omega) only[go_sem]
 (repeat(with_reducible refine And.intro ?_ ?_;focus first|omega|rfl|assumption|exact⟨_,rfl,rfl⟩|(simp;omega)|(simp;done)))
 refine aB (vO [108,105,115,116] [nO [97]] rfl (by decide) (.inl rfl)) ?_;simp -implicitDefEqProofs (disch:=omega) only[go_sem]
 (repeat(with_reducible refine And.intro ?_ ?_;focus first|omega|rfl|assumption|exact⟨_,rfl,rfl⟩|(simp;omega)|(simp;done)))
 refine bE rfl (q2 _) ?_;rcases hk3 with rfl|rfl
 ·simp only[uR,reduceIte,Int.reduceEq] at hq;simp -implicitDefEqProofs (disch:=omega) only[go_sem,ak,ah];refine bE rfl (iH hB 2 c2 (1+l) j _ (by rw[aJ];exact g _) (by omega)) ?_;simp -implicitDefEqProofs (disch:=omega) only[go_sem,ak,ah]
  (repeat(with_reducible refine And.intro ?_ ?_;focus first|omega|rfl|assumption|exact⟨_,rfl,rfl⟩|(simp;omega)|(simp;done)))
  refine⟨by cases l<;>rfl,?_⟩;simp -implicitDefEqProofs (disch:=omega) only[go_sem,ak,ah];rw[hq]
  first|exact⟨aG rfl,rfl⟩|(refine⟨aG ?_,rfl⟩;simp only[aR.v,List.map_cons,List.map_nil,List.map_append,aU.aj,aH.aj,aI.aj,aT.aj,ay.aj,aC.aj,List.cons_append,List.nil_append];rfl)
 ·simp only[uR,reduceIte,Int.reduceEq] at hq;simp -implicitDefEqProofs (disch:=omega) only[go_sem,ak,ah];refine bZ [true] rfl (dQ hB c2 (1+l) j _ PO (by rw[aJ];exact g _) (by decide) (by decide)) ?_;simp -implicitDefEqProofs (disch:=omega) only[go_sem,ak,ah]
  (repeat(with_reducible refine And.intro ?_ ?_;focus first|omega|rfl|assumption|exact⟨_,rfl,rfl⟩|(simp;omega)|(simp;done)))
  refine⟨by cases l<;>rfl,?_⟩;simp -implicitDefEqProofs (disch:=omega) only[go_sem,ak,ah];rw[hq]
  first|exact⟨aG rfl,rfl⟩|(refine⟨aG ?_,rfl⟩;simp only[aR.v,List.map_cons,List.map_nil,List.map_append,aU.aj,aH.aj,aI.aj,aT.aj,ay.aj,aC.aj,List.cons_append,List.nil_append];rfl)
theorem abz{bs:List Int}(hB:Bytes bs)(c c2:Cu bs)(k:Int)(l j:Nat)(S:Store)(hk:bA S (l,j)=some (.box (cur c)))(h2:aX 10 c=(k,c2))(hk2:k≠2)(hk3:k≠3):
 cB prog 102 [.c (.ptr (l,j) 0)] S (fun r S1=>r=(uR k c2).1.v/\S1=bq S (l,j) (.box (cur (uR k c2).2))):=by
 have g:∀x:Ab.Obj,bA (bq S (l,j) x) (l,j)=some x:=fun x=>dw _ _ _ _ hk;have q2:=fun fr:List Ab.Obj=>d9 hB c (1+l) j (fr::S) 10 (by rw[aJ];exact hk) (by omega) (by omega);simp only[h2,ak] at q2;obtain⟨q,hq⟩:∃q,q=uR k c2:=⟨_,rfl⟩;rw[<-hq];refine cB.of_le ?_;refine pI [67] (rs:=[.cell 2 59]) zmx func102 ntmps102 rfl rfl rfl rfl rfl ?_;simp -implicitDefEqProofs (disch:=omega) only[go_sem];refine aB (fU _) ?_;simp -implicitDefEqProofs (disch:=omega) only[go_sem];refine aB (fU _) ?_;simp -implicitDefEqProofs (disch:=omega) only[go_sem]
 (repeat(with_reducible refine And.intro ?_ ?_;focus first|omega|rfl|assumption|exact⟨_,rfl,rfl⟩|(simp;omega)|(simp;done)))
 refine aB (vO [108,105,115,116] [nO [97]] rfl (by decide) (.inl rfl)) ?_;simp -implicitDefEqProofs (disch:=omega) only[go_sem]
 (repeat(with_reducible refine And.intro ?_ ?_;focus first|omega|rfl|assumption|exact⟨_,rfl,rfl⟩|(simp;omega)|(simp;done)))
 refine bE rfl (q2 _) ?_;simp -implicitDefEqProofs (disch:=omega) only[go_sem,ak,ah]
 with_reducible refine aD (fun hb=> ?_) (fun hb=> ?_)<;>have h:=hb<;>(try simp only[wf_preprocess] at h)<;>simp -implicitDefEqProofs (disch:=omega) only[go_sem,hb,ak,ah]<;>(repeat(with_reducible refine And.intro ?_ ?_;focus first|omega|rfl|assumption|exact⟨_,rfl,rfl⟩|(simp;omega)|(simp;done)))
 ·subst h;simp only[uR,reduceIte,Int.reduceEq] at hq;refine bZ [true] rfl (dQ hB c2 (1+l) j _ Fq (by rw[aJ];exact g _) (by decide) (by decide)) ?_;simp -implicitDefEqProofs (disch:=omega) only[go_sem,ak,ah]
  (repeat(with_reducible refine And.intro ?_ ?_;focus first|omega|rfl|assumption|exact⟨_,rfl,rfl⟩|(simp;omega)|(simp;done)))
  refine⟨by cases l<;>rfl,?_⟩;simp -implicitDefEqProofs (disch:=omega) only[go_sem,ak,ah];rw[hq]
  first|exact⟨aG rfl,rfl⟩|(refine⟨aG ?_,rfl⟩;simp only[aR.v,List.map_cons,List.map_nil,List.map_append,aU.aj,aH.aj,aI.aj,aT.aj,ay.aj,aC.aj,List.cons_append,List.nil_append];rfl)
 have e0:=h
 with_reducible refine aD (fun hb=> ?_) (fun hb=> ?_)<;>have h:=hb<;>(try simp only[wf_preprocess] at h)<;>simp -implicitDefEqProofs (disch:=omega) only[go_sem,hb,ak,ah]<;>(repeat(with_reducible refine And.intro ?_ ?_;focus first|omega|rfl|assumption|exact⟨_,rfl,rfl⟩|(simp;omega)|(simp;done)))
 ·subst h;simp only[uR,reduceIte,Int.reduceEq] at hq;have hx:=iE (n:=2) c2 (by omega);obtain⟨m,hm⟩:∃m:Nat,(aX 2 c2).1=(m:Int):=⟨(aX 2 c2).1.toNat,by omega⟩;have q3:=fun fr:List Ab.Obj=>d9 hB c2 (1+l) j (fr::bq S (l,j) (.box (cur c2))) 2 (by rw[aJ];exact g _) (by omega) (by omega);rw[hm] at hx hq;simp only[hm,ak,ah] at q3;refine bE rfl (q3 _) ?_;simp -implicitDefEqProofs (disch:=omega) only[go_sem,ak,ah]
  (repeat(with_reducible refine And.intro ?_ ?_;focus first|omega|rfl|assumption|exact⟨_,rfl,rfl⟩|(simp;omega)|(simp;done)))
  refine⟨by cases l<;>rfl,?_⟩;simp -implicitDefEqProofs (disch:=omega) only[go_sem,ak,ah];rw[hq]
  have hm2:m=0\/m=1:=by omega
  clear hm q3;rcases hm2 with rfl|rfl
  all_goals
   refine⟨aG ?_,rfl⟩;rfl
 have e1:=h
 with_reducible refine aD (fun hb=> ?_) (fun hb=> ?_)<;>have h:=hb<;>(try simp only[wf_preprocess] at h)<;>simp -implicitDefEqProofs (disch:=omega) only[go_sem,hb,ak,ah]<;>(repeat(with_reducible refine And.intro ?_ ?_;focus first|omega|rfl|assumption|exact⟨_,rfl,rfl⟩|(simp;omega)|(simp;done)))
 ·exact absurd h hk2
 with_reducible refine aD (fun hb=> ?_) (fun hb=> ?_)<;>have h:=hb<;>(try simp only[wf_preprocess] at h)<;>simp -implicitDefEqProofs (disch:=omega) only[go_sem,hb,ak,ah]<;>(repeat(with_reducible refine And.intro ?_ ?_;focus first|omega|rfl|assumption|exact⟨_,rfl,rfl⟩|(simp;omega)|(simp;done)))
 ·exact absurd h hk3
 simp only[uR,if_neg e0,if_neg e1,if_neg hk2,if_neg hk3] at hq;rw[hq]
 first|exact⟨aG rfl,rfl⟩|(refine⟨aG ?_,rfl⟩;simp only[aR.v,List.map_cons,List.map_nil,List.map_append,aU.aj,aH.aj,aI.aj,aT.aj,ay.aj,aC.aj,List.cons_append,List.nil_append];rfl)
theorem YE{bs:List Int}(hB:Bytes bs)(c:Cu bs)(l j:Nat)(S:Store)(hk:bA S (l,j)=some (.box (cur c))):
 cB prog 102 [.c (.ptr (l,j) 0)] S (fun r S1=>r=(Af c).1.v/\S1=bq S (l,j) (.box (cur (Af c).2))):=by
 unfold Af;by_cases h2:(aX 10 c).1=2
 ·exact OP hB c _ _ l j S hk rfl (.inl h2)
 by_cases h3:(aX 10 c).1=3
 ·exact OP hB c _ _ l j S hk rfl (.inr h3)
 ·exact abz hB c _ _ l j S hk rfl h2 h3
def oZ{bs:List Int}(p:aM)(k:Int)(c:Cu bs):aM×Cu bs:=
 if k=0 then(⟨p.fName,p.iV,p.dI++[(xC c).1],p.aO,p.dV,p.dB⟩,(xC c).2) else
 if k=1 then(⟨p.fName,p.iV,p.dI,p.aO++[(Af c).1],p.dV,p.dB⟩,(Af c).2) else
 if k=2 then(⟨p.fName,p.iV,p.dI,p.aO,p.dV++[(instX c).1],p.dB⟩,(instX c).2) else
 (⟨p.fName,p.iV,p.dI,p.aO,p.dV,p.dB++[(LC c).1]⟩,(LC c).2)
def BI{bs:List Int}:Nat->aM->Cu bs->aM×Cu bs
 |0,p,c=>(p,c)
 |n+1,p,c=>BI n (oZ p (aX 4 c).1 (aX 4 c).2).1 (oZ p (aX 4 c).1 (aX 4 c).2).2
def PU:List (List UInt8):=[[],[99,111,114,101]]
theorem YF:fq PU:=by unfold fq;decide
def YG:List (List UInt8):=[[99,111,114,101],[113],[112]]
theorem abA:fq YG:=by unfold fq;decide
def Nr{bs:List Int}(p:aM)(k:Int)(c:Cu bs):aM×Cu bs:=
 if k=0 then(⟨(bQ PU c).1,p.iV,p.dI,p.aO,p.dV,p.dB⟩,(bQ PU c).2) else
 if k=1 then(⟨p.fName,p.iV++[(bQ YG c).1],p.dI,p.aO,p.dV,p.dB⟩,(bQ YG c).2) else(p,c)
def EZ:aM:=⟨[112],[[99,111,114,101]],[],[],[],[]⟩
def ae0{bs:List Int}(p:aM)(c:Cu bs):aM×Cu bs:=Nr p (aX 10 c).1 (aX 10 c).2
def J4{bs:List Int}(c:Cu bs):aM×Cu bs:=
 ae0 (BI (aX 5 c).1.toNat EZ (aX 5 c).2).1 (BI (aX 5 c).1.toNat EZ (aX 5 c).2).2
theorem qg(s:List UInt8)(d:List (List UInt8))(t:List bF)(a:List aR)(i:List aP)(f:List bJ):
 (aM.mk s d t a i f).sz=s.length+(d.length+aN (d.map encS))+(t.length+aN (t.map bF.enc))+(a.length+aN (a.map aR.enc))+(i.length+aN (i.map aP.enc))+(f.length+aN (f.map bJ.enc)):=by
 simp only[aM.sz,aM.aj,bD,aY,D.sz,List.length_map];omega
theorem YH{bs:List Int}(p:aM)(k:Int)(c:Cu bs):(oZ p k c).1.sz<=p.sz+2001/\(oZ p k c).1.fName=p.fName/\(oZ p k c).1.iV=p.iV:=by
 have h0:=qg p.fName p.iV p.dI p.aO p.dV p.dB;rw[aM.eta] at h0;have h1:=aaU c;have h2:=aeh c;have h3:=instX_sz c;have h4:=aiT c;unfold oZ;split
 ·refine⟨?_,rfl,rfl⟩;simp only[qg,List.map_append,pY,List.map_cons,List.map_nil,aN,List.length_append,List.length_cons,List.length_nil,bF.bY];omega
 split
 ·refine⟨?_,rfl,rfl⟩;simp only[qg,List.map_append,pY,List.map_cons,List.map_nil,aN,List.length_append,List.length_cons,List.length_nil,aR.bY];omega
 split
 ·refine⟨?_,rfl,rfl⟩;simp only[qg,List.map_append,pY,List.map_cons,List.map_nil,aN,List.length_append,List.length_cons,List.length_nil,aP.bY];omega
 ·refine⟨?_,rfl,rfl⟩;simp only[qg,List.map_append,pY,List.map_cons,List.map_nil,aN,List.length_append,List.length_cons,List.length_nil,bJ.bY];omega
theorem Vz{bs:List Int}:∀(n:Nat)(p:aM)(c:Cu bs),(BI n p c).1.sz<=p.sz+n*2001
 |0,p,c=>by show p.sz<=_;omega
 |n+1,p,c=>by
  have h1:=(YH p (aX 4 c).1 (aX 4 c).2).1;have h2:=Vz n (oZ p (aX 4 c).1 (aX 4 c).2).1 (oZ p (aX 4 c).1 (aX 4 c).2).2;rw[BI];omega
theorem aho{bs:List Int}(c:Cu bs):(J4 c).1.sz<=9000:=by
 have hr:=iE (n:=5) c (by omega);have h1:=Vz (aX 5 c).1.toNat EZ (aX 5 c).2
 have h0:EZ.sz=6:=by rw[EZ,qg];simp[aN,nE]
 have h2:(aX 5 c).1.toNat<=4:=by omega
 have h3:=Nat.mul_le_mul_right 2001 h2;unfold J4 ae0;generalize (BI (aX 5 c).1.toNat EZ (aX 5 c).2).1=p at h1;generalize (BI (aX 5 c).1.toNat EZ (aX 5 c).2).2=c1;generalize (aX 10 c1).1=k;generalize (aX 10 c1).2=c2;have h4:=gW c2 YF;have h5:=gW c2 abA;have h6:=qg p.fName p.iV p.dI p.aO p.dV p.dB;rw[aM.eta] at h6;unfold Nr;split
 ·simp only[qg];omega
 split
 ·simp only[qg,List.map_append,pY,List.map_cons,List.map_nil,aN,nE,List.length_append,List.length_cons,List.length_nil];omega
 ·show p.sz<=_;omega
theorem abB{bs:List Int}(hB:Bytes bs)(c:Cu bs)(l j:Nat)(S:Store)(hk:bA S (l,j)=some (.box (cur c))):
 cB prog 63 [.c (.ptr (l,j) 0)] S (fun r S1=>r=(J4 c).1.v/\S1=bq S (l,j) (.box (cur (J4 c).2))):=by
 have g:∀x:Ab.Obj,bA (bq S (l,j) x) (l,j)=some x:=fun x=>dw _ _ _ _ hk;unfold J4;have hx:=iE (n:=5) c (by omega);obtain⟨n,hn⟩:∃n:Nat,(aX 5 c).1=(n:Int):=⟨(aX 5 c).1.toNat,by omega⟩;have q0:=fun fr:List Ab.Obj=>d9 hB c (1+l) j (fr::S) 5 (by rw[aJ];exact hk) (by omega) (by omega)
 generalize hc0:(aX 5 c).2=c0 at *
 rw[hn] at hx;simp only[hn,Int.toNat_natCast,ak] at q0 ⊢;obtain⟨R,hR⟩:∃R,R=BI n EZ c0:=⟨_,rfl⟩;rw[<-hR];refine cB.of_le ?_;refine pI [67] (rs:=[.cell 2 77]) zmx func63 ntmps63 rfl rfl rfl rfl rfl ?_;simp -implicitDefEqProofs (disch:=omega) only[go_sem]
 (repeat(with_reducible refine And.intro ?_ ?_;focus first|omega|rfl|assumption|exact⟨_,rfl,rfl⟩|(simp;omega)|(simp;done)))
 refine bE rfl (q0 _) ?_;simp -implicitDefEqProofs (disch:=omega) only[go_sem,ak];refine jD 1 2 5 _ rfl rfl ?_;refine jD 1 3 3 _ rfl rfl ?_;refine jD 1 4 12 _ rfl rfl ?_;refine jD 1 5 16 _ rfl rfl ?_
 refine Jy [67] zmx rfl [0,2,3,4,5] (ι:=Nat×aM×Cu bs) (fun x=>[.c (.ptr (1+l,j) 0),.c (.ptr (0,0) 0),.c (.ptr (0,1) 0),.c (.d (.i .i64 n)),.c (.d (.i .i64 x.1))])
  (fun x=>[.box [.d (.s []),.bI [],.bI [],.bI [],.bI [],.bI []],.box [.d (.s [112]),.bI [[.s [99,111,114,101]]],.bS (0,2) (x.2.1.dI.map bF.enc),.bS (0,3) (x.2.1.aO.map aR.enc),.bS (0,4) (x.2.1.dV.map aP.enc),.bS (0,5) (x.2.1.dB.map bJ.enc)],
    .tok 5 (x.2.1.dI.map bF.enc),.tok 3 (x.2.1.aO.map aR.enc),.tok 12 (x.2.1.dV.map aP.enc),.tok 16 (x.2.1.dB.map bJ.enc)]::bq S (l,j) (.box (cur x.2.2)))
  (fun x=>x.1<=n/\BI (n-x.1) x.2.1 x.2.2=R/\x.2.1.fName=[112]/\x.2.1.iV=[[99,111,114,101]]/\x.2.1.dI.length<=x.1/\x.2.1.aO.length<=x.1/\x.2.1.dV.length<=x.1/\x.2.1.dB.length<=x.1) (fun x=>n-x.1) (0,EZ,c0) rfl rfl ⟨Nat.zero_le _,hR.symm,rfl,rfl,Nat.le_refl _,Nat.le_refl _,Nat.le_refl _,Nat.le_refl _⟩ ?_
 rintro⟨i,⟨pn,pd,pt,pa,pi,pf⟩,d⟩ ⟨p1,p2,p3,p4,p5,p6,p7,p8⟩;simp only at p1 p2 p3 p4 p5 p6 p7 p8;subst p3 p4;simp -implicitDefEqProofs (disch:=omega) only[go_sem,ak,ah]
 with_reducible refine aD (fun hb=> ?_) (fun hb=> ?_)<;>have h:=hb<;>(try simp only[wf_preprocess] at h)<;>simp -implicitDefEqProofs (disch:=omega) only[go_sem,hb,ak,ah]<;>(repeat(with_reducible refine And.intro ?_ ?_;focus first|omega|rfl|assumption|exact⟨_,rfl,rfl⟩|(simp;omega)|(simp;done)))
 ·have ek:n-i=(n-(i+1))+1:=by omega
  rw[ek,BI] at p2;obtain⟨k,hkd⟩:∃k,k=(aX 4 d).1:=⟨_,rfl⟩;obtain⟨d1,hd1⟩:∃d1,d1=(aX 4 d).2:=⟨_,rfl⟩;have q1:=fun fr:List Ab.Obj=>d9 hB d (1+l) j (fr::bq S (l,j) (.box (cur d))) 4 (by rw[aJ];exact g _) (by omega) (by omega);simp only[<-hkd,<-hd1,ak,ah] at q1 p2;refine bE rfl (q1 _) ?_;simp -implicitDefEqProofs (disch:=omega) only[go_sem,ak,ah]
  with_reducible refine aD (fun hb=> ?_) (fun hb=> ?_)<;>have h:=hb<;>(try simp only[wf_preprocess] at h)<;>simp -implicitDefEqProofs (disch:=omega) only[go_sem,hb,ak,ah]<;>(repeat(with_reducible refine And.intro ?_ ?_;focus first|omega|rfl|assumption|exact⟨_,rfl,rfl⟩|(simp;omega)|(simp;done)))
  ·subst h;simp only[oZ,reduceIte] at p2;refine bE rfl (Ur hB d1 (1+l) j _ (by rw[aJ];exact g _)) ?_;simp -implicitDefEqProofs (disch:=omega) only[go_sem,ak,ah]
   (repeat(with_reducible refine And.intro ?_ ?_;focus first|omega|rfl|assumption|exact⟨_,rfl,rfl⟩|(simp;omega)|(simp;done)))
   refine⟨by cases l<;>rfl,?_⟩;simp -implicitDefEqProofs (disch:=omega) only[go_sem,ak,ah];refine dZ 6 (by decide) (i+1,⟨_,_,pt++[(xC d1).1],pa,pi,pf⟩,(xC d1).2) (by simp only;omega) rfl ?_ (by cases l<;>rfl) rfl ⟨by simp only;omega,p2,rfl,rfl,by simp only[List.length_append,List.length_cons,List.length_nil];omega,by simp only;omega,by simp only;omega,by simp only;omega⟩;simp only[List.map_append,List.map_cons,List.map_nil];rfl
  have e0:=h
  with_reducible refine aD (fun hb=> ?_) (fun hb=> ?_)<;>have h:=hb<;>(try simp only[wf_preprocess] at h)<;>simp -implicitDefEqProofs (disch:=omega) only[go_sem,hb,ak,ah]<;>(repeat(with_reducible refine And.intro ?_ ?_;focus first|omega|rfl|assumption|exact⟨_,rfl,rfl⟩|(simp;omega)|(simp;done)))
  ·subst h;simp only[oZ,reduceIte,Int.reduceEq] at p2;refine bE rfl (YE hB d1 (1+l) j _ (by rw[aJ];exact g _)) ?_;simp -implicitDefEqProofs (disch:=omega) only[go_sem,ak,ah]
   (repeat(with_reducible refine And.intro ?_ ?_;focus first|omega|rfl|assumption|exact⟨_,rfl,rfl⟩|(simp;omega)|(simp;done)))
   refine⟨by cases l<;>rfl,?_⟩;simp -implicitDefEqProofs (disch:=omega) only[go_sem,ak,ah];refine dZ 6 (by decide) (i+1,⟨_,_,pt,pa++[(Af d1).1],pi,pf⟩,(Af d1).2) (by simp only;omega) rfl ?_ (by cases l<;>rfl) rfl ⟨by simp only;omega,p2,rfl,rfl,by simp only;omega,by simp only[List.length_append,List.length_cons,List.length_nil];omega,by simp only;omega,by simp only;omega⟩;simp only[List.map_append,List.map_cons,List.map_nil];rfl
  have e1:=h
  with_reducible refine aD (fun hb=> ?_) (fun hb=> ?_)<;>have h:=hb<;>(try simp only[wf_preprocess] at h)<;>simp -implicitDefEqProofs (disch:=omega) only[go_sem,hb,ak,ah]<;>(repeat(with_reducible refine And.intro ?_ ?_;focus first|omega|rfl|assumption|exact⟨_,rfl,rfl⟩|(simp;omega)|(simp;done)))
  ·subst h;simp only[oZ,reduceIte,Int.reduceEq] at p2;refine bE rfl (YA hB d1 (1+l) j _ (by rw[aJ];exact g _)) ?_;simp -implicitDefEqProofs (disch:=omega) only[go_sem,ak,ah]
   (repeat(with_reducible refine And.intro ?_ ?_;focus first|omega|rfl|assumption|exact⟨_,rfl,rfl⟩|(simp;omega)|(simp;done)))
   refine⟨by cases l<;>rfl,?_⟩;simp -implicitDefEqProofs (disch:=omega) only[go_sem,ak,ah];refine dZ 6 (by decide) (i+1,⟨_,_,pt,pa,pi++[(instX d1).1],pf⟩,(instX d1).2) (by simp only;omega) rfl ?_ (by cases l<;>rfl) rfl ⟨by simp only;omega,p2,rfl,rfl,by simp only;omega,by simp only;omega,by simp only[List.length_append,List.length_cons,List.length_nil];omega,by simp only;omega⟩;simp only[List.map_append,List.map_cons,List.map_nil,aP.aj,ay.aj,List.cons_append,List.nil_append];rfl
  have e2:=h;simp only[oZ,if_neg e0,if_neg e1,if_neg e2] at p2;refine bE rfl (aek hB d1 (1+l) j _ (by rw[aJ];exact g _)) ?_;simp -implicitDefEqProofs (disch:=omega) only[go_sem,ak,ah]
  (repeat(with_reducible refine And.intro ?_ ?_;focus first|omega|rfl|assumption|exact⟨_,rfl,rfl⟩|(simp;omega)|(simp;done)))
  refine⟨by cases l<;>rfl,?_⟩;simp -implicitDefEqProofs (disch:=omega) only[go_sem,ak,ah];refine dZ 6 (by decide) (i+1,⟨_,_,pt,pa,pi,pf++[(LC d1).1]⟩,(LC d1).2) (by simp only;omega) rfl ?_ (by cases l<;>rfl) rfl ⟨by simp only;omega,p2,rfl,rfl,by simp only;omega,by simp only;omega,by simp only;omega,by simp only[List.length_append,List.length_cons,List.length_nil];omega⟩;simp only[List.map_append,List.map_cons,List.map_nil,bJ.aj,ay.aj,aC.aj,List.cons_append,List.nil_append];rfl
 ·have ei:n-i=0:=by omega
  rw[ei,BI] at p2;subst p2;unfold ae0;obtain⟨k,hkd⟩:∃k,k=(aX 10 d).1:=⟨_,rfl⟩;obtain⟨d1,hd1⟩:∃d1,d1=(aX 10 d).2:=⟨_,rfl⟩;have q1:=fun fr:List Ab.Obj=>d9 hB d (1+l) j (fr::bq S (l,j) (.box (cur d))) 10 (by rw[aJ];exact g _) (by omega) (by omega);simp only[<-hkd,<-hd1,ak,ah] at q1 ⊢;obtain⟨q,hq⟩:∃q,q=Nr ⟨[112],[[99,111,114,101]],pt,pa,pi,pf⟩ k d1:=⟨_,rfl⟩;rw[<-hq];refine bE rfl (q1 _) ?_;simp -implicitDefEqProofs (disch:=omega) only[go_sem,ak,ah]
  with_reducible refine aD (fun hb=> ?_) (fun hb=> ?_)<;>have h:=hb<;>(try simp only[wf_preprocess] at h)<;>simp -implicitDefEqProofs (disch:=omega) only[go_sem,hb,ak,ah]<;>(repeat(with_reducible refine And.intro ?_ ?_;focus first|omega|rfl|assumption|exact⟨_,rfl,rfl⟩|(simp;omega)|(simp;done)))
  ·subst h;simp only[Nr,reduceIte] at hq;refine bZ [true] rfl (dQ hB d1 (1+l) j _ PU (by rw[aJ];exact g _) (by decide) (by decide)) ?_;simp -implicitDefEqProofs (disch:=omega) only[go_sem,ak,ah];rw[hq];exact⟨aG rfl,rfl⟩
  have e0:=h
  with_reducible refine aD (fun hb=> ?_) (fun hb=> ?_)<;>have h:=hb<;>(try simp only[wf_preprocess] at h)<;>simp -implicitDefEqProofs (disch:=omega) only[go_sem,hb,ak,ah]<;>(repeat(with_reducible refine And.intro ?_ ?_;focus first|omega|rfl|assumption|exact⟨_,rfl,rfl⟩|(simp;omega)|(simp;done)))
  ·subst h;simp only[Nr,reduceIte,Int.reduceEq] at hq;refine bZ [true] rfl (dQ hB d1 (1+l) j _ YG (by rw[aJ];exact g _) (by decide) (by decide)) ?_;simp -implicitDefEqProofs (disch:=omega) only[go_sem,ak,ah]
   (repeat(with_reducible refine And.intro ?_ ?_;focus first|omega|rfl|assumption|exact⟨_,rfl,rfl⟩|(simp;omega)|(simp;done)))
   refine⟨by cases l<;>rfl,?_⟩;simp -implicitDefEqProofs (disch:=omega) only[go_sem,ak,ah];rw[hq];exact⟨aG rfl,rfl⟩
  have e1:=h;simp only[Nr,if_neg e0,if_neg e1] at hq;rw[hq];exact⟨aG rfl,rfl⟩
section
variable {P:Program} {N:Nat} {S S':Store} {f:FuncId} {args:List V}
theorem ahp{fn:Func}{c:Code}{raw:V->List Obj->Store->Prop}{rs:List ResultVar}(fu:P.follows .mixedOrders=true)(hf:P.funcs[f]? =some fn)(hN:fn.ntmps=N)
 (hb:fn.body=some c) (hn:(fn.name== "runtime.NumGoroutine")=false) (hr:fn.results.toList=rs) (hl:Nat.ble args.length N=true) (hok:oV N c=true)
 (h:mR P N c (Nc P rs raw) ⟨kM (args.map (V.up 1)) 0,[]::S⟩):nA P f args S raw:=by
 subst hN;subst hr;exact Gy hf hb hn (Nat.le_of_ble_eq_true hl) (pO fu c _ _ hok h)
theorem nA.akX{z:Nat}{es:List (List D)}{i:Int}(ht:zh S'=true)(h:nA P f args S fun r own S1=>S1=S'/\∃x,r=.eu [(true,[x]),(false,[.d (.i .i64 i)])]/\CU own x z es):
 cB P f args S fun r S1=>r=.eu [(true,[.bS (0,xk S') es]),(false,[.d (.i .i64 i)])]/\S1=Il S' [.tok z es]:=by
 refine⟨h.1,fun w σ β vs hS hv=>(h.2 w σ β vs hS hv).mono fun e w' ⟨v,r,own,S1,bo,β1,σ',q1,q2,q3,q4,q5,q6,x,q7,q8⟩=> ?_⟩;subst q6 q7;obtain⟨a,rfl,hl,hc⟩:=q5;obtain⟨u0,hu0,a0,rfl,hcs⟩:=hc 0 _ rfl;obtain⟨u1,hu1,y1,hy1,hr1,ho1⟩:=hc 1 _ rfl;cases hy1;obtain⟨u,e1,e2,e3⟩:=hcs.2 0 _ rfl;obtain⟨k1,k2⟩:=EG q2 q8 e2
 cases S1 with
 |nil=>cases ht
 |cons fr Ω=>
 have hd:=q2.D9
 obtain⟨bf,bΩ,rfl,hlen⟩:∃bf bΩ,β1=bf::bΩ/\bf.length=fr.length:=by
  cases β1 with
  |nil=>have:=hd.shape.1;simp at this
  |cons bf bΩ=>
   refine⟨bf,bΩ,rfl,?_⟩;obtain⟨gr,q1,q2⟩:=hd.shape.2 0 fr rfl;simp at q1;rw[q1];exact q2
 obtain⟨l1,l2,l3⟩:=hd.lay (o:=.tok z es) (h:=u) hlen (k1 _ _) fun b hb ⟨k,o,hh,f1,f2,f3⟩=>by
  obtain⟨m,g1,g2,g3⟩:=k2 b hb;have:=q2.apart (0,m) (k.1+1,k.2) _ o u hh b (by rw[bL];exact g1) (by rw[bL];exact g3) hb (by rw[bX];exact f1) (by rw[bX];exact f2) f3;cases this
 refine⟨_,.eu [(true,[.bS (0,xk (fr::Ω)) es]),(false,[.d (.i .i64 i)])],_,σ',_,q1,l1,q3.trans l2,⟨q4.size,q4.os,q4.output,q4.far,q4.near,fun b hb=> ?_⟩,⟨a,rfl,hl,fun j y hy=> ?_⟩,rfl,rfl⟩
 ·rcases l3 b hb with q|q
  ·exact q4.own b (tZ q)
  ·obtain⟨m,g1,g2,g3⟩:=k2 b q;exact q4.own b ⟨(0,m),_,u,by rw[bL];exact g1,by rw[bL];exact g3,q⟩
 ·match j,hy with
  |0,hy=>
   cases hy;refine⟨_,hu0,a0,rfl,hcs.1,fun j x hx=> ?_⟩
   match j,hx with
   |0,hx=>
    cases hx;refine⟨u,e1,⟨uH q8 e2,_,by rw[mY];exact dJ _ _ _,fun bB es' e=> ?_⟩,e3⟩;obtain⟨_,rfl⟩:=qj (lab:=none) e;exact⟨Nat.le_refl _,fun _=>by rw[mY,<-hlen,dJ]⟩
   |j+1,hx=>simp at hx
  |1,hy=>
   cases hy;exact⟨u1,hu1,_,rfl,hr1,ho1⟩
  |j+2,hy=>simp at hy
end
noncomputable def nL{bs:List Int}(c:Cu bs):bG×Cu bs:=
 if(bV 5 (jL c).2).1=true then(⟨(G7 (jL c).1).aQ++[(J4 (bV 5 (jL c).2).2).1]⟩,(J4 (bV 5 (jL c).2).2).2) else(G7 (jL c).1,(bV 5 (jL c).2).2)
theorem abC{bs:List Int}(c:Cu bs):(nL c).1.sz<=1100000:=by
 have h1:=abx (jL c).1;have h2:=aho (bV 5 (jL c).2).2;unfold nL;split
 ·obtain⟨l,hl⟩:∃l,l=(G7 (jL c).1).aQ:=⟨_,rfl⟩
  have h3:(bG.mk l).sz<=1048576:=by rw[hl];exact h1
  rw[<-hl];simp only[bG.sz,bG.aj,bD,D.sz,List.length_map,List.map_append,pY,List.map_cons,List.map_nil,aN,aM.bY,List.length_append,List.length_cons,List.length_nil] at h3 ⊢;omega
 ·show(G7 (jL c).1).sz<=_;omega
theorem Ns(s:List UInt8)(hs:s.length<=1048576)(S:Store):nA prog 127 [.c (.d (.s s))] S (fun r own S1=>S1=S/\∃x,r=.eu [(true,[x]),(false,[.d (.i .i64 (ajf s))])]/\CU own x 6 ((G7 s).aQ.map aM.enc)):=by
 have hl0:=Nq 10 s [];unfold G7 ajf;obtain⟨L,hL⟩:∃L,L=spl 10 [] s:=⟨_,rfl⟩;have hsp:=SI s 10 hs;rw[show(10:UInt8).toNat=10 from rfl] at hsp;rw[<-hL] at hsp hl0 ⊢;refine ahp (rs:=[.cell 2 26,.tmp 3]) zmx func127 ntmps127 rfl rfl rfl rfl rfl ?_;simp -implicitDefEqProofs (disch:=omega) only[go_sem];refine aB hsp ?_;simp -implicitDefEqProofs (disch:=omega) only[go_sem];refine jD 1 0 6 _ rfl rfl ?_
 refine yc (ι:=Nat×List aM) zmx rfl [2,4,5,6] (fun y=>[.c (.ptr (0,0) 0),.c (.ptr (0,1) 0),.c (.d (.sl (L.map encS))),.c (.d (.i .i64 y.1))])
  (fun y=>[.box [.bI []],.box [.bS (0,2) (y.2.map aM.enc)],.tok 6 (y.2.map aM.enc)]::S)
  (fun y=>y.1<=L.length/\y.2.length<=5/\sN (L.drop y.1) y.2=sN L []) (fun y=>L.length-y.1) (0,[]) rfl rfl ⟨Nat.zero_le _,by decide,rfl⟩ ?_
 rintro⟨i,acc⟩ ⟨p1,p2,p3⟩;simp only at p1 p2 p3;simp -implicitDefEqProofs (disch:=omega) only[go_sem,encS]
 with_reducible refine aD (fun hb=> ?_) (fun hb=> ?_)<;>have h:=hb<;>(try simp only[wf_preprocess] at h)<;>simp -implicitDefEqProofs (disch:=omega) only[go_sem,hb,encS]<;>(repeat(with_reducible refine And.intro ?_ ?_;focus first|omega|rfl|assumption|exact⟨_,rfl,rfl⟩|(simp;omega)|(simp;done)))
 ·have hi:i<L.length:=by omega
  have hll:L[i].length<=1048576:=by have:=hl0.2 L[i] (List.getElem_mem hi);simp only[List.length_nil] at this;omega
  rw[List.drop_eq_getElem_cons hi,sN] at p3
  (repeat(with_reducible refine And.intro ?_ ?_;focus first|omega|rfl|assumption|exact⟨_,rfl,rfl⟩|(simp;omega)|(simp;done)))
  refine aB (SH L[i] (by omega)) ?_;simp -implicitDefEqProofs (disch:=omega) only[go_sem,encS]
  with_reducible refine aD (fun hb=> ?_) (fun hb=> ?_)<;>have h:=hb<;>(try simp only[wf_preprocess] at h)<;>simp -implicitDefEqProofs (disch:=omega) only[go_sem,hb,encS]<;>(repeat(with_reducible refine And.intro ?_ ?_;focus first|omega|rfl|assumption|exact⟨_,rfl,rfl⟩|(simp;omega)|(simp;done)))
  ·rw[if_pos h] at p3;exact cZ (i+1,acc) (by simp only;omega) rfl rfl ⟨by simp only;omega,p2,p3⟩
  rw[if_neg (by rw[h];decide)] at p3
  (repeat(with_reducible refine And.intro ?_ ?_;focus first|omega|rfl|assumption|exact⟨_,rfl,rfl⟩|(simp;omega)|(simp;done)))
  refine aB (Pk L[i] hll) ?_;simp -implicitDefEqProofs (disch:=omega) only[go_sem,aM.cv]
  with_reducible refine aD (fun hb=> ?_) (fun hb=> ?_)<;>have h:=hb<;>(try simp only[wf_preprocess] at h)<;>simp -implicitDefEqProofs (disch:=omega) only[go_sem,hb]<;>(repeat(with_reducible refine And.intro ?_ ?_;focus first|omega|rfl|assumption|exact⟨_,rfl,rfl⟩|(simp;omega)|(simp;done)))
  ·rw[if_neg (by rw[h];intro e;cases e.1)] at p3
   (repeat(with_reducible refine And.intro ?_ ?_;focus first|omega|rfl|assumption|exact⟨_,rfl,rfl⟩|(simp;omega)|(simp;done)))
   refine⟨by rfl,?_⟩;simp -implicitDefEqProofs (disch:=omega) only[go_sem];rw[<-p3];exact⟨_,rfl,.inr ⟨rfl,fun e he=>by cases he⟩⟩
  have hok:=h
  with_reducible refine aD (fun hb=> ?_) (fun hb=> ?_)<;>have h:=hb<;>(try simp only[wf_preprocess] at h)<;>simp -implicitDefEqProofs (disch:=omega) only[go_sem,hb]<;>(repeat(with_reducible refine And.intro ?_ ?_;focus first|omega|rfl|assumption|exact⟨_,rfl,rfl⟩|(simp;omega)|(simp;done)))
  ·rw[if_neg (by intro e;exact e.2 (by omega))] at p3
   (repeat(with_reducible refine And.intro ?_ ?_;focus first|omega|rfl|assumption|exact⟨_,rfl,rfl⟩|(simp;omega)|(simp;done)))
   refine⟨by rfl,?_⟩;simp -implicitDefEqProofs (disch:=omega) only[go_sem];rw[<-p3];exact⟨_,rfl,.inr ⟨rfl,fun e he=>by cases he⟩⟩
  have h5:=h;rw[if_pos ⟨hok,by omega⟩] at p3
  (repeat(with_reducible refine And.intro ?_ ?_;focus first|omega|rfl|assumption|exact⟨_,rfl,rfl⟩|(simp;omega)|(simp;done)))
  rw[aby];exact dZ 3 (by decide) (i+1,acc++[G6 L[i]]) (by simp only;omega) rfl rfl rfl rfl ⟨by simp only;omega,by simp only[List.length_append,List.length_singleton];omega,p3⟩
 ·have hi:i=L.length:=by omega
  subst hi;rw[List.drop_length,sN] at p3;rw[<-p3];exact⟨_,rfl,.inl ⟨2,rfl,rfl⟩⟩
theorem UG{bs:List Int}(hB:Bytes bs)(c:Cu bs)(l j:Nat)(S:Store)(hk:bA S (l,j)=some (.box (cur c))):
 nA prog 82 [.c (.ptr (l,j) 0)] S (fun r own S1=>S1=bq S (l,j) (.box (cur (jL c).2))/\∃x,r=.agg ([]++x::[])/\CU own x 6 ((G7 (jL c).1).aQ.map aM.enc)):=by
 have hwl:=Yy c;have q1:=fun fr:List Ab.Obj=>UA hB c (1+l) j (fr::S) (by rw[aJ];exact hk);obtain⟨s,hs⟩:∃s,s=(jL c).1:=⟨_,rfl⟩;obtain⟨c1,hc1⟩:∃c1,c1=(jL c).2:=⟨_,rfl⟩;simp only[<-hs,<-hc1,ak] at q1 hwl ⊢;have q2:=fun own:List Ab.Obj=>nA.akX (S':=own::bq S (l,j) (.box (cur c1))) rfl (Ns s (by omega) (own::bq S (l,j) (.box (cur c1))));simp only[Ac,mY,List.cons_append,List.nil_append] at q2;refine Vk [67] (rs:=[.cell 2 26]) zmx func82 ntmps82 rfl rfl rfl rfl rfl ?_;simp -implicitDefEqProofs (disch:=omega) only[go_sem];refine bE rfl (q1 _) ?_;simp -implicitDefEqProofs (disch:=omega) only[go_sem];refine bE rfl (q2 _) ?_;simp -implicitDefEqProofs (disch:=omega) only[go_sem]
 first|exact⟨_,rfl,.inl ⟨1,rfl,rfl⟩⟩|exact⟨rfl,_,rfl,.inl ⟨1,rfl,rfl⟩⟩
theorem Jc{bs:List Int}(hB:Bytes bs)(c:Cu bs)(l j:Nat)(S:Store)(hk:bA S (l,j)=some (.box (cur c))):
 cB prog 43 [.c (.ptr (l,j) 0)] S (fun r S1=>r=(nL c).1.v/\S1=bq S (l,j) (.box (cur (nL c).2))):=by
 have g:∀x:Ab.Obj,bA (bq S (l,j) x) (l,j)=some x:=fun x=>dw _ _ _ _ hk;have hws:=abx (jL c).1
 have q1:=fun own:List Ab.Obj=>nA.push (pre:=[]) (post:=[]) rfl rfl (S':=own::bq S (l,j) (.box (cur (jL c).2))) rfl (by
  have:=UG hB c (1+l) j (own::S) (by rw[aJ];exact hk);rw[ak] at this
  exact this)
 unfold nL;obtain⟨L,hL⟩:∃L,L=(G7 (jL c).1).aQ:=⟨_,rfl⟩
 have hR:G7 (jL c).1=⟨L⟩:=by rw[hL]
 obtain⟨c1,hc1⟩:∃c1,c1=(jL c).2:=⟨_,rfl⟩
 have hLl:L.length<=1048576:=by
  rw[hR] at hws;simp only[bG.sz,bG.aj,bD,D.sz,List.length_map] at hws;omega
 rw[hR];simp only[<-hL,<-hc1,Ac,mY,List.cons_append,List.nil_append] at q1 ⊢;have q2:=fun fr:List Ab.Obj=>iF hB c1 (1+l) j (fr::bq S (l,j) (.box (cur c1))) 5 (by rw[aJ];exact g _) (by omega) (by omega);obtain⟨o,ho⟩:∃o,o=(bV 5 c1).1:=⟨_,rfl⟩;obtain⟨c2,hc2⟩:∃c2,c2=(bV 5 c1).2:=⟨_,rfl⟩;simp only[<-ho,<-hc2,ak,ah] at q2 ⊢;have q3:=fun fr:List Ab.Obj=>abB hB c2 (1+l) j (fr::bq S (l,j) (.box (cur c2))) (by rw[aJ];exact g _);simp only[ak,ah] at q3;refine cB.of_le ?_;refine pI [67] (rs:=[.cell 2 26]) zmx func43 ntmps43 rfl rfl rfl rfl rfl ?_;simp -implicitDefEqProofs (disch:=omega) only[go_sem];refine bE rfl (q1 _) ?_;simp -implicitDefEqProofs (disch:=omega) only[go_sem];refine bE rfl (q2 _) ?_
 cases o with
 |true=>
  simp -implicitDefEqProofs (disch:=omega) only[go_sem,ak,ah];refine bE rfl (q3 _) ?_;simp -implicitDefEqProofs (disch:=omega) only[go_sem,ak,ah]
  (repeat(with_reducible refine And.intro ?_ ?_;focus first|omega|rfl|assumption|exact⟨_,rfl,rfl⟩|(simp;omega)|(simp;done)))
  refine⟨by cases l<;>rfl,?_⟩;simp -implicitDefEqProofs (disch:=omega) only[go_sem,ak,ah];refine aG ?_;simp only[bG.v,List.map_append,List.map_cons,List.map_nil];rfl
 |false=>
  simp -implicitDefEqProofs (disch:=omega) only[go_sem,ak,ah];exact aG rfl
theorem Nt(x:aC)(n:Nat):fF x.enc n=[.i .i64 x.aV,.s x.bU,.s x.fName,.i .i64 x.fN,.i .i64 x.fType.aV,.s x.fType.fName,.ol n (eU (x.fType.fArgs.map ay.enc) (n+1)),
 .ol (n+(gQ (x.fType.fArgs.map ay.enc)+1)) (eU (x.fArgs.map aC.enc) (n+(gQ (x.fType.fArgs.map ay.enc)+1)+1)),
 .ol (n+(gQ (x.fType.fArgs.map ay.enc)+1)+(gQ (x.fArgs.map aC.enc)+1)) (eU (x.bH.map bn.enc) (n+(gQ (x.fType.fArgs.map ay.enc)+1)+(gQ (x.fArgs.map aC.enc)+1)+1))]:=by
 simp only[aC.aj,ay.aj,List.cons_append,List.nil_append,fF,jo,oD,Nat.add_zero]
theorem SK(x:ay)(n:Nat):fF x.enc n=[.i .i64 x.aV,.s x.fName,.ol n (eU (x.fArgs.map ay.enc) (n+1))]:=by
 simp only[ay.aj,fF,jo,oD,Nat.add_zero]
theorem Fy:∀N:Nat,(∀x:aC,SizeOf.sizeOf x<N->∀n:Nat,x.sz<=4194304->bg prog 86 [x.v] (.agg ((fF x.enc n).map .d)))/\
 (∀xs:List aC,SizeOf.sizeOf xs<N->∀n:Nat,xs.length+aN (xs.map aC.enc)<=4194304->bg prog 129 [.c (.d (.sl (xs.map aC.enc)))] (.c (.d (jo (.sl (xs.map aC.enc)) n))))
 |0=>⟨fun x h=>by omega,fun x h=>by omega⟩
 |N+1=>by
  obtain⟨ih,wX⟩:=Fy N;refine⟨fun x hn n hsz=> ?_,fun xs hn n hsz=> ?_⟩
  ·have nu:=aC.jW x;have Ie:=aC.xW x
   have hz:x.fType.sz<=4194304/\x.fArgs.length+aN (x.fArgs.map aC.enc)<=4194304/\x.bH.length+aN (x.bH.map bn.enc)<=4194304:=by
    simp only[aC.sz,aC.aj,bD,aY,D.sz,List.length_map,ay.bY] at hsz;omega
   rw[Nt];obtain⟨n1,h1⟩:∃n1,n1=n+(gQ (x.fType.fArgs.map ay.enc)+1):=⟨_,rfl⟩;obtain⟨m,hm⟩:∃m,m=n1+(gQ (x.fArgs.map aC.enc)+1):=⟨_,rfl⟩;rw[<-h1,<-hm];obtain⟨T,hT⟩:∃T,T=eU (x.bH.map bn.enc) (m+1):=⟨_,rfl⟩
   have iG:T.length=x.bH.length:=by rw[hT,mW,List.length_map]
   rw[<-hT];have hc1:=Gs x.fType n hz.1;rw[SK] at hc1;have hc2:=wX x.fArgs (by omega) n1 hz.2.1;intro S;refine Ew (m) (rs:=[.cell 2 115]) zmx func86 ntmps86 rfl rfl rfl rfl rfl ?_;simp -implicitDefEqProofs (disch:=omega) only[go_sem];refine aB hc1 ?_;simp -implicitDefEqProofs (disch:=omega) only[go_sem];refine aB hc2 ?_;simp -implicitDefEqProofs (disch:=omega) only[go_sem,jo]
   (repeat(with_reducible refine And.intro ?_ ?_;focus first|omega|rfl|assumption|exact⟨_,rfl,rfl⟩|(simp;omega)|(simp;done)))
   obtain⟨L,hL⟩:∃L:Nat->Nat,L=fun i=>m+1+gQ ((x.bH.map bn.enc).take i):=⟨_,rfl⟩;refine Za (L 0) ?_
   refine yc (ι:=Nat×List (List D)) zmx rfl [1,2,3,19,20,21] (fun y=>[.c (.ptr (0,1) 0),.c (.ptr (0,2) 0),.c (.iJ (0,3)),.c (.d (.sl (x.bH.map bn.enc))),.c (.d (.i .i64 x.bH.length)),.c (.d (.i .i64 y.1))])
    (fun y=>[.seed (L y.1),.box [.d (.i .i64 x.aV),.d (.s x.bU),.d (.s x.fName),.d (.i .i64 x.fN),.d (.i .i64 x.fType.aV),.d (.s x.fType.fName),.d (.ol n (eU (x.fType.fArgs.map ay.enc) (n+1))),.d (.ol n1 (eU (x.fArgs.map aC.enc) (n1+1))),.d (.sl (x.bH.map bn.enc))],.box [.d (.i .i64 0),.d (.s []),.d (.s []),.d (.i .i64 0),.d (.i .i64 0),.d (.s []),.bI [],.bI [],.bI []],.eP 11 y.2]::S)
    (fun y=>y.1<=x.bH.length/\mQ 11 y.1 y.2 T) (fun y=>x.bH.length-y.1) (0,_) rfl rfl ⟨Nat.zero_le _,mQ.start (by simp[iG]) rfl⟩ ?_
   rintro⟨i,R⟩ ⟨p1,p2⟩;simp only at p1 p2;simp -implicitDefEqProofs (disch:=omega) only[go_sem]
   with_reducible refine aD (fun hb=> ?_) (fun hb=> ?_)<;>have h:=hb<;>(try simp only[wf_preprocess] at h)<;>simp -implicitDefEqProofs (disch:=omega) only[go_sem,hb]<;>(repeat(with_reducible refine And.intro ?_ ?_;focus first|omega|rfl|assumption|exact⟨_,rfl,rfl⟩|(simp;omega)|(simp;done)))
   ·have hi:i<x.bH.length:=by omega
    have hir:i<(x.bH.map bn.enc).length:=by rw[List.length_map];exact hi
    have hR:=p2.1;rw[iG] at hR;have hs:=List.sizeOf_lt_of_mem (List.getElem_mem hi);have hs':=bn.vV x.bH[i];obtain⟨q,hq⟩:∃q,q=L i:=⟨_,rfl⟩
    have hq':q=m+1+gQ ((x.bH.map bn.enc).take i):=by rw[hq,hL]
    have Bn:T[i]? =some ([.s x.bH[i].fK,.ol q (x.bH[i].aS.map encS)]++fF x.bH[i].fBody.enc (q+(gQ (x.bH[i].aS.map encS)+1))):=by
     rw[hT,yg hir,List.getElem_map,<-hq'];simp only[bn.aj,List.cons_append,List.nil_append,fF,jo,oD,Nat.add_zero,Bl]
    have hx:x.bH[i].sz<=aN (x.bH.map bn.enc):=dx (List.mem_map_of_mem (List.getElem_mem hi));simp only[bn.sz,bn.aj,bD,aY,D.sz,List.length_map,aC.bY,List.cons_append,List.nil_append] at hx;have hb:=ih x.bH[i].fBody (by omega) (q+(gQ (x.bH[i].aS.map encS)+1)) (by omega);rw[Nt] at hb Bn;rw[<-hq];simp only[List.map_cons,List.map_nil,List.cons_append,List.nil_append] at hb Bn
    (repeat(with_reducible refine And.intro ?_ ?_;focus first|omega|rfl|assumption|exact⟨_,rfl,rfl⟩|(simp;omega)|(simp;done)))
    refine⟨yh,⟨_,rfl,rfl⟩,(fun y hy=>by cases hy),by omega,?_⟩;refine aB hb ?_;simp -implicitDefEqProofs (disch:=omega) only[go_sem]
    (repeat(with_reducible refine And.intro ?_ ?_;focus first|omega|rfl|assumption|exact⟨_,rfl,rfl⟩|(simp;omega)|(simp;done)))
    refine⟨by rfl,?_⟩;simp -implicitDefEqProofs (disch:=omega) only[go_sem]
    (repeat(with_reducible refine And.intro ?_ ?_;focus first|omega|rfl|assumption|exact⟨_,rfl,rfl⟩|(simp;omega)|(simp;done)))
    refine adU (L (i+1)) 3 (by decide) (i+1,_) (by simp only;omega) rfl rfl ?_ rfl ⟨by simp only;omega,p2.step Bn rfl⟩;simp[oo,jQ,V.refs,C.refs,oP]
   ·have hi:i=x.bH.length:=by omega
    rw[p2.done (by omega)]
  ·obtain⟨T,hT⟩:∃T,T=eU (xs.map aC.enc) (n+1):=⟨_,rfl⟩
   have iG:T.length=xs.length:=by rw[hT,mW,List.length_map]
   show bg prog 129 [.c (.d (.sl (xs.map aC.enc)))] (.c (.d (.ol n (eU (xs.map aC.enc) (n+1)))));rw[<-hT];intro S;refine Gi (n) (rs:=[.tmp 2]) zmx func129 ntmps129 rfl rfl rfl rfl rfl ?_;simp -implicitDefEqProofs (disch:=omega) only[go_sem]
   (repeat(with_reducible refine And.intro ?_ ?_;focus first|omega|rfl|assumption|exact⟨_,rfl,rfl⟩|(simp;omega)|(simp;done)))
   refine bO (ι:=Nat×List (List D)) zmx rfl [3,9,10,11] (fun y=>[.c (.iJ (0,1)),.c (.d (.sl (xs.map aC.enc))),.c (.d (.i .i64 xs.length)),.c (.d (.i .i64 y.1))]) (fun y=>[.seed n,.eP 9 y.2]::S)
    (fun y=>y.1<=xs.length/\mQ 9 y.1 y.2 T) (fun y=>xs.length-y.1) (0,_) rfl rfl ⟨Nat.zero_le _,mQ.start (by simp[iG]) rfl⟩ ?_
   rintro⟨i,R⟩ ⟨p1,p2⟩;simp only at p1 p2;simp -implicitDefEqProofs (disch:=omega) only[go_sem]
   with_reducible refine aD (fun hb=> ?_) (fun hb=> ?_)<;>have h:=hb<;>(try simp only[wf_preprocess] at h)<;>simp -implicitDefEqProofs (disch:=omega) only[go_sem,hb]<;>(repeat(with_reducible refine And.intro ?_ ?_;focus first|omega|rfl|assumption|exact⟨_,rfl,rfl⟩|(simp;omega)|(simp;done)))
   ·have hi:i<xs.length:=by omega
    have hir:i<(xs.map aC.enc).length:=by rw[List.length_map];exact hi
    have hR:=p2.1;rw[iG] at hR
    have Bn:T[i]? =some (fF (aC.enc xs[i]) (n+1+gQ ((xs.map aC.enc).take i))):=by
     rw[hT,yg hir,List.getElem_map]
    have hx:xs[i].sz<=aN (xs.map aC.enc):=dx (List.mem_map_of_mem (List.getElem_mem hi))
    (repeat(with_reducible refine And.intro ?_ ?_;focus first|omega|rfl|assumption|exact⟨_,rfl,rfl⟩|(simp;omega)|(simp;done)))
    refine aB (ih xs[i] (by have:=List.sizeOf_lt_of_mem (List.getElem_mem hi);omega) (n+1+gQ ((xs.map aC.enc).take i)) (by omega)) ?_;obtain⟨row,hrow⟩:∃row,row=fF (aC.enc xs[i]) (n+1+gQ ((xs.map aC.enc).take i)):=⟨_,rfl⟩
    have hrl:row.length=9:=by rw[hrow,jw,aC.dh]
    rw[<-hrow] at Bn ⊢;simp -implicitDefEqProofs (disch:=omega) only[go_sem,hrl,JC]
    (repeat(with_reducible refine And.intro ?_ ?_;focus first|omega|rfl|assumption|exact⟨_,rfl,rfl⟩|(simp;omega)|(simp;done)))
    refine dZ 2 (by decide) (i+1,_) (by simp only;omega) rfl rfl ?_ rfl ⟨by simp only;omega,p2.step Bn hrl⟩;simp[oo,jQ,V.refs,C.refs,oP]
   ·have hi:i=xs.length:=by omega
    rw[p2.done (by omega)]
def ajh(w:bG)(p:Nat):List (List UInt8):=match w.aQ[p]? with
 |some q=>q.iV
 |none=>[]
def Edge(w:bG)(p j:Nat):Prop:=j<p/\∃d∈ajh w p,aeT w d=(j:Int)
inductive xH(w:bG):Nat->Nat->Prop
 |refl (p:Nat):xH w p p
 |step {p j k:Nat} (h:Edge w p j) (hk:xH w j k):xH w p k
theorem xH.le{w:bG}{p k:Nat}(h:xH w p k):k<=p:=by
 induction h with
 |refl p=>exact Nat.le_refl _
 |step h _ ih=>have:=h.1;omega
theorem xH.trans{w:bG}{p j k:Nat}(h:xH w p j)(h':xH w j k):xH w p k:=by
 induction h with
 |refl p=>exact h'
 |step e _ ih=>exact .step e (ih h')
theorem xH.snoc{w:bG}{p j k:Nat}(h:xH w p j)(e:Edge w j k):xH w p k:=h.trans (.step e (.refl k))
theorem xH.last{w:bG}{i k:Nat}(h:xH w i k):k=i\/∃p,xH w i p/\Edge w p k:=by
 induction h with
 |refl p=>exact .inl rfl
 | @step p j k e hk ih=>
   right;rcases ih with rfl|⟨q,h1,h2⟩
   ·exact⟨p,.refl p,e⟩
   ·exact⟨q,.step e h1,h2⟩
theorem xH.first{w:bG}{p k:Nat}(h:k<p):xH w p k<->∃j,Edge w p j/\xH w j k:=by
 constructor
 ·intro hv
  cases hv with
  |refl=>omega
  |step e hk=>exact⟨_,e,hk⟩
 ·rintro⟨j,e,hk⟩;exact .step e hk
noncomputable def amS(w:bG)(p n:Nat):List Int:=((List.range n).filter fun k=>dec (xH w p k)).map fun k:Nat=>(k:Int)
noncomputable def amT(w:bG)(p:Nat):List Int:=amS w p (p+1)
def akY(w:bG)(i k:Int):Prop:=0<=i/\i<w.aQ.length/\k∈amT w i.toNat
def tQ{α:Type}(f:aM->List α)(p:α->Bool):List aM->Nat->Option (α×Nat)
 |[],_=>none
 |q::qs,i=>match(f q).find? p with
  |some t=>some (t,i)
  |none=>tQ f p qs (i+1)
theorem Mc{α:Type}{f:aM->List α}{p:α->Bool}{ps:List aM}{i:Nat}(hi:i<ps.length):tQ f p (ps.drop i) i=match(f ps[i]).find? p with
 |some t=>some (t,i)
 |none=>tQ f p (ps.drop (i+1)) (i+1):=by
 rw[List.drop_eq_getElem_cons hi,tQ]
theorem OQ{α:Type}{p:α->Bool}{xs:List α}{k:Nat}(hk:k<xs.length):(xs.drop k).find? p=if p xs[k] then some xs[k] else(xs.drop (k+1)).find? p:=by
 rw[List.drop_eq_getElem_cons hk,List.find?_cons];cases p xs[k]<;>rfl
def lQ{α:Type}:Option (α×Nat)->Int
 |some (_,i)=>(i:Int)
 |none=>0
theorem OT{α:Type}{f:aM->List α}{p:α->Bool}:∀{ps:List aM}{i:Nat}{t:α}{j:Nat},tQ f p ps i=some (t,j)->∃q∈ps,t∈f q
 |[],i,t,j,h=>by cases h
 |q::qs,i,t,j,h=>by
  rw[tQ] at h
  cases hf:(f q).find? p with
  |some u=>
   rw[hf] at h;injection h with h;injection h with h1 h2;subst h1;exact⟨q,by simp,List.mem_of_find?_eq_some hf⟩
  |none=>
   rw[hf] at h;obtain⟨q',h1,h2⟩:=OT h;exact⟨q',by simp[h1],h2⟩
def iD(w:bG)(name:List UInt8):Option (bF×Nat):=tQ aM.dI (fun t=>decide (t.fName=name)) w.aQ 0
def Jd:Option (bF×Nat)->List C
 |some (t,_)=>t.enc.map .d
 |none=>[.d (.s []),.bI [],.d (.b false),.d (.b false),.bI []]
theorem bG.afC{w:bG}{i:Nat}(hi:i<w.aQ.length)(h:w.sz<=4194304):w.aQ[i].dI.length<=4194304:=by
 have hx:w.aQ[i].sz<=aN (w.aQ.map aM.enc):=dx (List.mem_map_of_mem (List.getElem_mem hi));simp only[bG.sz,bG.aj,bD,aY,D.sz,List.length_map] at h;simp only[aM.sz,aM.aj,bD,aY,D.sz,List.length_map] at hx;omega
def abD(w:bG)(name:List UInt8):Option (aR×Nat):=tQ aM.aO (fun t=>decide (t.fName=name)) w.aQ 0
theorem bG.afD{w:bG}{i:Nat}(hi:i<w.aQ.length)(h:w.sz<=4194304):w.aQ[i].aO.length<=4194304:=by
 have hx:w.aQ[i].sz<=aN (w.aQ.map aM.enc):=dx (List.mem_map_of_mem (List.getElem_mem hi));simp only[bG.sz,bG.aj,bD,aY,D.sz,List.length_map] at h;simp only[aM.sz,aM.aj,bD,aY,D.sz,List.length_map] at hx;omega
theorem UH(w:bG)(name:List UInt8)(hsz:w.sz<=4194304):bg prog 47 [w.v,.c (.d (.s name))] (.eu [(true,Jd (iD w name)),(false,[.d (.i .i64 (lQ (iD w name)))]),(false,[.d (.b (iD w name).isSome)])]):=fun S=>by
 have hb0:w.aQ.length<=4194304:=by
  simp only[bG.sz,bG.aj,bD,aY,D.sz,List.length_map] at hsz;omega
 refine zcx [.cell 4 54,.tmp 5,.tmp 6] func47 ntmps47 ?_;simp -implicitDefEqProofs (disch:=omega) only[go_sem]
 refine bO (ι:=Nat) zmx rfl [1,4,12,13,14] (fun i=>[.c (.d (.s name)),.c (.ptr (0,1) 0),.c (.d (.sl (w.aQ.map aM.enc))),.c (.d (.i .i64 w.aQ.length)),.c (.d (.i .i64 i))]) (fun _=>[.box (w.enc.map .d),.box [.d (.s []),.bI [],.d (.b false),.d (.b false),.bI []]]::S)
  (fun i=>i<=w.aQ.length/\tQ aM.dI (fun t=>decide (t.fName=name)) (w.aQ.drop i) i=iD w name) (fun i=>w.aQ.length-i) 0 rfl ?_ ⟨Nat.zero_le _,rfl⟩ ?_
 ·simp -implicitDefEqProofs (disch:=omega) only[go_sem]
 rintro i ⟨p1,p2⟩;simp -implicitDefEqProofs (disch:=omega) only[go_sem]
 with_reducible refine aD (fun hb=> ?_) (fun hb=> ?_)<;>have h:=hb<;>(try simp only[wf_preprocess] at h)<;>simp -implicitDefEqProofs (disch:=omega) only[go_sem,hb]<;>(repeat(with_reducible refine And.intro ?_ ?_;focus first|omega|rfl|assumption|exact⟨_,rfl,rfl⟩|(simp;omega)|(simp;done)))
 ·have hi:i<w.aQ.length:=by omega
  have hln:=bG.afC hi hsz;rw[Mc hi] at p2
  (repeat(with_reducible refine And.intro ?_ ?_;focus first|omega|rfl|assumption|exact⟨_,rfl,rfl⟩|(simp;omega)|(simp;done)))
  refine bO (ι:=Nat) zmx rfl [1,4,7,12,13,14,20,21,22] (fun k=>[.c (.d (.s name)),.c (.ptr (0,1) 0),.c (.d (.i .i64 i)),.c (.d (.sl (w.aQ.map aM.enc))),.c (.d (.i .i64 w.aQ.length)),.c (.d (.i .i64 i)),.c (.d (.sl (w.aQ[i].dI.map bF.enc))),.c (.d (.i .i64 w.aQ[i].dI.length)),.c (.d (.i .i64 k))])
   (fun _=>[.box (w.enc.map .d),.box [.d (.s []),.bI [],.d (.b false),.d (.b false),.bI []],.box (w.aQ[i].enc.map .d)]::S)
   (fun k=>k<=w.aQ[i].dI.length/\(w.aQ[i].dI.drop k).find? (fun t=>decide (t.fName=name))=w.aQ[i].dI.find? (fun t=>decide (t.fName=name))) (fun k=>w.aQ[i].dI.length-k) 0 rfl ?_ ⟨Nat.zero_le _,rfl⟩ ?_
  ·simp -implicitDefEqProofs (disch:=omega) only[go_sem]
  rintro k ⟨q1,q2⟩;simp -implicitDefEqProofs (disch:=omega) only[go_sem]
  with_reducible refine aD (fun hb=> ?_) (fun hb=> ?_)<;>have h:=hb<;>(try simp only[wf_preprocess] at h)<;>simp -implicitDefEqProofs (disch:=omega) only[go_sem,hb]<;>(repeat(with_reducible refine And.intro ?_ ?_;focus first|omega|rfl|assumption|exact⟨_,rfl,rfl⟩|(simp;omega)|(simp;done)))
  ·have hk:k<w.aQ[i].dI.length:=by omega
   rw[OQ hk] at q2
   (repeat(with_reducible refine And.intro ?_ ?_;focus first|omega|rfl|assumption|exact⟨_,rfl,rfl⟩|(simp;omega)|(simp;done)))
   with_reducible refine aD (fun hb=> ?_) (fun hb=> ?_)<;>have h:=hb<;>(try simp only[wf_preprocess] at h)<;>simp -implicitDefEqProofs (disch:=omega) only[go_sem,hb]<;>(repeat(with_reducible refine And.intro ?_ ?_;focus first|omega|rfl|assumption|exact⟨_,rfl,rfl⟩|(simp;omega)|(simp;done)))
   ·rw[if_pos (by simpa using h)] at q2;rw[<-q2] at p2;rw[<-p2]
    first|rfl|(simp only[Jd,lQ];simp -implicitDefEqProofs (disch:=omega) only[go_sem];done)
   ·rw[if_neg (by simpa using h)] at q2;exact dZ 3 (by decide) (k+1) (by omega) rfl rfl rfl rfl ⟨by omega,q2⟩
  ·rw[List.drop_of_length_le (by omega),List.find?_nil] at q2;rw[<-q2] at p2;exact dZ 2 (by decide) (i+1) (by omega) rfl rfl rfl rfl ⟨by omega,p2⟩
 ·rw[List.drop_of_length_le (by omega),tQ] at p2;rw[<-p2]
  first|rfl|(simp only[Jd,lQ];simp -implicitDefEqProofs (disch:=omega) only[go_sem];done)
theorem UJ(w:bG)(name:List UInt8)(hsz:w.sz<=4194304):bg prog 49 [w.v,.c (.d (.s name))] (.eu [(true,Jd (iD w name)),(false,[.d (.i .i64 (lQ (iD w name)))]),(false,[.d (.b (iD w name).isSome)])]):=fun S=>by
 have hb0:w.aQ.length<=4194304:=by
  simp only[bG.sz,bG.aj,bD,aY,D.sz,List.length_map] at hsz;omega
 refine zcx [.cell 4 54,.tmp 5,.tmp 6] func49 ntmps49 ?_;simp -implicitDefEqProofs (disch:=omega) only[go_sem]
 refine bO (ι:=Nat) zmx rfl [1,2,4,7] (fun i=>[.c (.d (.s name)),.c (.ptr (0,0) 0),.c (.ptr (0,1) 0),.c (.d (.i .i64 i))]) (fun _=>[.box (w.enc.map .d),.box [.d (.s []),.bI [],.d (.b false),.d (.b false),.bI []]]::S)
  (fun i=>i<=w.aQ.length/\tQ aM.dI (fun t=>decide (t.fName=name)) (w.aQ.drop i) i=iD w name) (fun i=>w.aQ.length-i) 0 rfl ?_ ⟨Nat.zero_le _,rfl⟩ ?_
 ·simp -implicitDefEqProofs (disch:=omega) only[go_sem]
 rintro i ⟨p1,p2⟩;simp -implicitDefEqProofs (disch:=omega) only[go_sem]
 with_reducible refine aD (fun hb=> ?_) (fun hb=> ?_)<;>have h:=hb<;>(try simp only[wf_preprocess] at h)<;>simp -implicitDefEqProofs (disch:=omega) only[go_sem,hb]<;>(repeat(with_reducible refine And.intro ?_ ?_;focus first|omega|rfl|assumption|exact⟨_,rfl,rfl⟩|(simp;omega)|(simp;done)))
 ·have hi:i<w.aQ.length:=by omega
  have hln:=bG.afC hi hsz;rw[Mc hi] at p2
  (repeat(with_reducible refine And.intro ?_ ?_;focus first|omega|rfl|assumption|exact⟨_,rfl,rfl⟩|(simp;omega)|(simp;done)))
  refine bO (ι:=Nat) zmx rfl [1,2,4,7,8] (fun k=>[.c (.d (.s name)),.c (.ptr (0,0) 0),.c (.ptr (0,1) 0),.c (.d (.i .i64 i)),.c (.d (.i .i64 k))])
   (fun _=>[.box (w.enc.map .d),.box [.d (.s []),.bI [],.d (.b false),.d (.b false),.bI []]]::S)
   (fun k=>k<=w.aQ[i].dI.length/\(w.aQ[i].dI.drop k).find? (fun t=>decide (t.fName=name))=w.aQ[i].dI.find? (fun t=>decide (t.fName=name))) (fun k=>w.aQ[i].dI.length-k) 0 rfl ?_ ⟨Nat.zero_le _,rfl⟩ ?_
  ·simp -implicitDefEqProofs (disch:=omega) only[go_sem]
  rintro k ⟨q1,q2⟩;simp -implicitDefEqProofs (disch:=omega) only[go_sem]
  (repeat(with_reducible refine And.intro ?_ ?_;focus first|omega|rfl|assumption|exact⟨_,rfl,rfl⟩|(simp;omega)|(simp;done)))
  with_reducible refine aD (fun hb=> ?_) (fun hb=> ?_)<;>have h:=hb<;>(try simp only[wf_preprocess] at h)<;>simp -implicitDefEqProofs (disch:=omega) only[go_sem,hb]<;>(repeat(with_reducible refine And.intro ?_ ?_;focus first|omega|rfl|assumption|exact⟨_,rfl,rfl⟩|(simp;omega)|(simp;done)))
  ·have hk:k<w.aQ[i].dI.length:=by omega
   rw[OQ hk] at q2
   (repeat(with_reducible refine And.intro ?_ ?_;focus first|omega|rfl|assumption|exact⟨_,rfl,rfl⟩|(simp;omega)|(simp;done)))
   with_reducible refine aD (fun hb=> ?_) (fun hb=> ?_)<;>have h:=hb<;>(try simp only[wf_preprocess] at h)<;>simp -implicitDefEqProofs (disch:=omega) only[go_sem,hb]<;>(repeat(with_reducible refine And.intro ?_ ?_;focus first|omega|rfl|assumption|exact⟨_,rfl,rfl⟩|(simp;omega)|(simp;done)))
   ·rw[if_pos (by simpa using h)] at q2;rw[<-q2] at p2
    (repeat(with_reducible refine And.intro ?_ ?_;focus first|omega|rfl|assumption|exact⟨_,rfl,rfl⟩|(simp;omega)|(simp;done)))
    rw[<-p2]
    first|rfl|(simp only[Jd,lQ];simp -implicitDefEqProofs (disch:=omega) only[go_sem];done)
   ·rw[if_neg (by simpa using h)] at q2;exact cZ (k+1) (by omega) rfl rfl ⟨by omega,q2⟩
  ·rw[List.drop_of_length_le (by omega),List.find?_nil] at q2;rw[<-q2] at p2;exact cZ (i+1) (by omega) rfl rfl ⟨by omega,p2⟩
 ·rw[List.drop_of_length_le (by omega),tQ] at p2;rw[<-p2]
  first|rfl|(simp only[Jd,lQ];simp -implicitDefEqProofs (disch:=omega) only[go_sem];done)
theorem akZ{xs:List ay}{i:Nat}(hi:i<xs.length):(xs.take i).map ay.enc++[[D.i .i64 xs[i].aV,D.s xs[i].fName,D.sl (xs[i].fArgs.map ay.enc)]]=(xs.take (i+1)).map ay.enc:=by
 rw[List.take_succ_eq_append_getElem hi,List.map_append,List.map_cons,List.map_nil,ay.aj]
theorem aji{xs:List aH}{i:Nat}(hi:i<xs.length):(xs.take i).map aH.enc++[[D.s xs[i].fName,D.sl (xs[i].gH.map ay.enc)]]=(xs.take (i+1)).map aH.enc:=by
 rw[List.take_succ_eq_append_getElem hi,List.map_append,List.map_cons,List.map_nil,aH.aj]
theorem E5:∀N:Nat,(∀x:ay,SizeOf.sizeOf x<N->x.sz<=4194304->bg prog 130 [x.v] x.v)/\
 (∀xs:List ay,SizeOf.sizeOf xs<N->xs.length+aN (xs.map ay.enc)<=4194304->bg prog 89 [.c (.d (.sl (xs.map ay.enc)))] (.c (.d (.sl (xs.map ay.enc)))))
 |0=>⟨fun x h=>by omega,fun x h=>by omega⟩
 |N+1=>by
  obtain⟨ih,wX⟩:=E5 N;refine⟨fun x hn hsz=> ?_,fun xs hn hsz=> ?_⟩
  ·intro S;have nu:=ay.jW x;simp only[ay.sz,ay.aj,bD,D.sz,List.length_map] at hsz;refine Gq (rs:=[.cell 2 41]) zmx func130 ntmps130 rfl rfl rfl rfl rfl ?_;simp -implicitDefEqProofs (disch:=omega) only[go_sem];refine aB (wX x.fArgs (by omega) (by omega)) ?_;simp -implicitDefEqProofs (disch:=omega) only[go_sem];refine⟨by rfl,?_⟩;simp -implicitDefEqProofs (disch:=omega) only[go_sem]
  ·intro S;refine zcx [.tmp 2] func89 ntmps89 ?_;simp -implicitDefEqProofs (disch:=omega) only[go_sem]
   (repeat(with_reducible refine And.intro ?_ ?_;focus first|omega|rfl|assumption|exact⟨_,rfl,rfl⟩|(simp;omega)|(simp;done)))
   refine iZ 3 3 [] rfl (by simp) ?_
   refine bO (ι:=Nat) zmx rfl [0,3,4] (fun i=>[.c (.d (.sl (xs.map ay.enc))),.c (.bS (0,0) ((xs.take i).map ay.enc)),.c (.d (.i .i64 i))]) (fun i=>[.tok 3 ((xs.take i).map ay.enc)]::S)
    (fun i=>i<=xs.length) (fun i=>xs.length-i) 0 rfl rfl (Nat.zero_le _) ?_
   intro i hi;simp -implicitDefEqProofs (disch:=omega) only[go_sem]
   with_reducible refine aD (fun hb=> ?_) (fun hb=> ?_)<;>have h:=hb<;>(try simp only[wf_preprocess] at h)<;>simp -implicitDefEqProofs (disch:=omega) only[go_sem,hb]<;>(repeat(with_reducible refine And.intro ?_ ?_;focus first|omega|rfl|assumption|exact⟨_,rfl,rfl⟩|(simp;omega)|(simp;done)))
   ·have hi':i<xs.length:=by omega
    have hx:xs[i].sz<=aN (xs.map ay.enc):=dx (List.mem_map_of_mem (List.getElem_mem hi'));have hl:(xs.take i).length<=i:=List.length_take_le _ _
    (repeat(with_reducible refine And.intro ?_ ?_;focus first|omega|rfl|assumption|exact⟨_,rfl,rfl⟩|(simp;omega)|(simp;done)))
    refine aB (ih xs[i] (by have:=List.sizeOf_lt_of_mem (List.getElem_mem hi');omega) (by omega)) ?_;simp -implicitDefEqProofs (disch:=omega) only[go_sem]
    (repeat(with_reducible refine And.intro ?_ ?_;focus first|omega|rfl|assumption|exact⟨_,rfl,rfl⟩|(simp;omega)|(simp;done)))
    rw[akZ hi'];exact cZ (i+1) (by omega) rfl rfl (by omega)
   ·have hi':i=xs.length:=by omega
    rw[hi',List.take_length]
theorem C8(xs:List ay)(h:xs.length+aN (xs.map ay.enc)<=4194304):bg prog 89 [.c (.d (.sl (xs.map ay.enc)))] (.c (.d (.sl (xs.map ay.enc)))):=(E5 _).2 xs (Nat.lt_succ_self _) h
theorem Me(x:aR)(hsz:x.sz<=4194304):bg prog 54 [x.v] x.v:=fun S=>by
 have hz:x.aS.length<=4194304/\x.aF.length+aN (x.aF.map aH.enc)<=4194304:=by
  simp only[aR.sz,aR.aj,bD,aY,D.sz,List.length_map] at hsz;omega
 refine zcx [.cell 2 59] func54 ntmps54 ?_;simp -implicitDefEqProofs (disch:=omega) only[go_sem]
 (repeat(with_reducible refine And.intro ?_ ?_;focus first|omega|rfl|assumption|exact⟨_,rfl,rfl⟩|(simp;omega)|(simp;done)))
 refine iZ 3 2 [] rfl (by simp) ?_
 refine bO (ι:=Nat) zmx rfl [1,2,3,4] (fun i=>[.c (.ptr (0,0) 0),.c (.ptr (0,1) 0),.c (.bS (0,2) ((x.aF.take i).map aH.enc)),.c (.d (.i .i64 i))])
  (fun i=>[.box [.d (.s x.fName),.d (.sl (x.aS.map encS)),.d (.sl (x.aF.map aH.enc))],.box [.d (.s []),.bI [],.bI []],.tok 2 ((x.aF.take i).map aH.enc)]::S)
  (fun i=>i<=x.aF.length) (fun i=>x.aF.length-i) 0 rfl rfl (Nat.zero_le _) ?_
 intro i hi;simp -implicitDefEqProofs (disch:=omega) only[go_sem]
 with_reducible refine aD (fun hb=> ?_) (fun hb=> ?_)<;>have h:=hb<;>(try simp only[wf_preprocess] at h)<;>simp -implicitDefEqProofs (disch:=omega) only[go_sem,hb]<;>(repeat(with_reducible refine And.intro ?_ ?_;focus first|omega|rfl|assumption|exact⟨_,rfl,rfl⟩|(simp;omega)|(simp;done)))
 ·have hi':i<x.aF.length:=by omega
  have hx:x.aF[i].sz<=aN (x.aF.map aH.enc):=dx (List.mem_map_of_mem (List.getElem_mem hi'));simp only[aH.sz,aH.aj,bD,D.sz,List.length_map] at hx;have hl:(x.aF.take i).length<=i:=List.length_take_le _ _
  (repeat(with_reducible refine And.intro ?_ ?_;focus first|omega|rfl|assumption|exact⟨_,rfl,rfl⟩|(simp;omega)|(simp;done)))
  refine aB (C8 x.aF[i].gH (by omega)) ?_;simp -implicitDefEqProofs (disch:=omega) only[go_sem]
  (repeat(with_reducible refine And.intro ?_ ?_;focus first|omega|rfl|assumption|exact⟨_,rfl,rfl⟩|(simp;omega)|(simp;done)))
  rw[aji hi'];exact cZ (i+1) (by omega) rfl rfl (by omega)
 ·have hi':i=x.aF.length:=by omega
  rw[hi',List.take_length];exact⟨yh,⟨_,rfl,rfl⟩,(fun y hy=>by cases hy),by omega,rfl⟩
theorem Cw{cs cs':List C}{xs:List (Bool×List C)}(h:∀w σ S β vs,fD w σ S β cs vs->fD w σ S β cs' vs):Less (.eu ((true,cs)::xs)) (.eu ((true,cs')::xs)):=by
 rintro w σ S β v ⟨a,ha,hl,hc⟩;obtain⟨u,hu,a',rfl,hcs⟩:=hc 0 _ rfl;refine⟨a,ha,hl,fun j y hy=> ?_⟩
 cases j with
 |zero=>simp at hy;subst hy;exact⟨_,hu,a',rfl,h _ _ _ _ _ hcs⟩
 |succ j=>exact hc (j+1) y (by simpa using hy)
theorem Cx{w:World}{σ:Nat->Nat}{S:Store}{β:Hs}{v:Value}(n:Nat)(h:gJ w σ S β (.bI []) v):gJ w σ S β (.d (.ol n [])) v:=by
 obtain⟨hd,ad,m,hval⟩:=h
 have hm:m=0:=by rw[hval] at hd;cases hd<;>rfl
 subst hm;rw[hval];exact .xO _ _ _
theorem Mf{cs cs':List C}{w:World}{σ:Nat->Nat}{S:Store}{β:Hs}{vs:List Value}(hl:cs'.length=cs.length)(h:∀(j:Nat)(x y:C),cs[j]? =some x->cs'[j]? =some y->∀v,gJ w σ S β x v->gJ w σ S β y v)(hc:fD w σ S β cs vs):fD w σ S β cs' vs:=by
 refine⟨hl.trans hc.1,fun j y hy=> ?_⟩
 have hj:j<cs.length:=by rw[<-hl];exact(List.getElem?_eq_some_iff.1 hy).1
 obtain⟨v,h1,h2,h3⟩:=hc.2 j _ (List.getElem?_eq_getElem hj);exact⟨v,h1,h j _ y (List.getElem?_eq_getElem hj) hy v h2,h3⟩
theorem SL(x:aC)(n:Nat)(h:x.sz<=4194304):bg prog 86 [x.v] (.agg ((fF x.enc n).map .d)):=(Fy _).1 x (Nat.lt_succ_self _) n h
theorem ak0{xs:List aC}{i:Nat}(hi:i<xs.length):(xs.take i).map aC.enc++[[D.i .i64 xs[i].aV,D.s xs[i].bU,D.s xs[i].fName,D.i .i64 xs[i].fN,D.i .i64 xs[i].fType.aV,D.s xs[i].fType.fName,D.sl (xs[i].fType.fArgs.map ay.enc),D.sl (xs[i].fArgs.map aC.enc),D.sl (xs[i].bH.map bn.enc)]]=(xs.take (i+1)).map aC.enc:=by
 rw[List.take_succ_eq_append_getElem hi,List.map_append,List.map_cons,List.map_nil,aC.aj,ay.aj];rfl
theorem ak1{xs:List bn}{i:Nat}(hi:i<xs.length):(xs.take i).map bn.enc++[[D.s xs[i].fK,D.sl (xs[i].aS.map encS),D.i .i64 xs[i].fBody.aV,D.s xs[i].fBody.bU,D.s xs[i].fBody.fName,D.i .i64 xs[i].fBody.fN,D.i .i64 xs[i].fBody.fType.aV,D.s xs[i].fBody.fType.fName,D.sl (xs[i].fBody.fType.fArgs.map ay.enc),D.sl (xs[i].fBody.fArgs.map aC.enc),D.sl (xs[i].fBody.bH.map bn.enc)]]=(xs.take (i+1)).map bn.enc:=by
 rw[List.take_succ_eq_append_getElem hi,List.map_append,List.map_cons,List.map_nil,bn.aj,aC.aj,ay.aj];rfl
theorem Je:∀N:Nat,∀x:aC,SizeOf.sizeOf x<N->x.sz<=4194304->bg prog 131 [x.v] x.v
 |0=>fun x h=>by omega
 |N+1=>by
  have ih:=Je N;intro x hn hsz S;have nu:=aC.jW x;have Ie:=aC.xW x
  have hz:x.fType.sz<=4194304/\x.fArgs.length+aN (x.fArgs.map aC.enc)<=4194304/\x.bH.length+aN (x.bH.map bn.enc)<=4194304:=by
   simp only[aC.sz,aC.aj,bD,aY,D.sz,List.length_map,ay.bY] at hsz;omega
  have hzt:=hz.1;simp only[ay.sz,ay.aj,bD,D.sz,List.length_map] at hzt;refine Gq (rs:=[.cell 2 115]) zmx func131 ntmps131 rfl rfl rfl rfl rfl ?_;simp -implicitDefEqProofs (disch:=omega) only[go_sem];refine aB (C8 x.fType.fArgs (by omega)) ?_;simp -implicitDefEqProofs (disch:=omega) only[go_sem];refine⟨by rfl,?_⟩;simp -implicitDefEqProofs (disch:=omega) only[go_sem]
  (repeat(with_reducible refine And.intro ?_ ?_;focus first|omega|rfl|assumption|exact⟨_,rfl,rfl⟩|(simp;omega)|(simp;done)))
  refine iZ 3 9 [] rfl (by simp) ?_
  refine yc (ι:=Nat) zmx rfl [1,2,3,4] (fun i=>[.c (.ptr (0,0) 0),.c (.ptr (0,1) 0),.c (.bS (0,2) ((x.fArgs.take i).map aC.enc)),.c (.d (.i .i64 i))])
   (fun i=>[.box [.d (.i .i64 x.aV),.d (.s x.bU),.d (.s x.fName),.d (.i .i64 x.fN),.d (.i .i64 x.fType.aV),.d (.s x.fType.fName),.d (.sl (x.fType.fArgs.map ay.enc)),.d (.sl (x.fArgs.map aC.enc)),.d (.sl (x.bH.map bn.enc))],.box [.d (.i .i64 0),.d (.s []),.d (.s []),.d (.i .i64 0),.d (.i .i64 0),.d (.s []),.bI [],.bI [],.bI []],.tok 9 ((x.fArgs.take i).map aC.enc)]::S)
   (fun i=>i<=x.fArgs.length) (fun i=>x.fArgs.length-i) 0 rfl rfl (Nat.zero_le _) ?_
  ·intro i hi;simp -implicitDefEqProofs (disch:=omega) only[go_sem]
   with_reducible refine aD (fun hb=> ?_) (fun hb=> ?_)<;>have h:=hb<;>(try simp only[wf_preprocess] at h)<;>simp -implicitDefEqProofs (disch:=omega) only[go_sem,hb]<;>(repeat(with_reducible refine And.intro ?_ ?_;focus first|omega|rfl|assumption|exact⟨_,rfl,rfl⟩|(simp;omega)|(simp;done)))
   ·have hi':i<x.fArgs.length:=by omega
    have hx:x.fArgs[i].sz<=aN (x.fArgs.map aC.enc):=dx (List.mem_map_of_mem (List.getElem_mem hi'));have hl:(x.fArgs.take i).length<=i:=List.length_take_le _ _
    (repeat(with_reducible refine And.intro ?_ ?_;focus first|omega|rfl|assumption|exact⟨_,rfl,rfl⟩|(simp;omega)|(simp;done)))
    refine aB (ih x.fArgs[i] (by have:=List.sizeOf_lt_of_mem (List.getElem_mem hi');omega) (by omega)) ?_;simp -implicitDefEqProofs (disch:=omega) only[go_sem]
    (repeat(with_reducible refine And.intro ?_ ?_;focus first|omega|rfl|assumption|exact⟨_,rfl,rfl⟩|(simp;omega)|(simp;done)))
    rw[ak0 hi'];exact cZ (i+1) (by omega) rfl rfl (by omega)
   have hi':i=x.fArgs.length:=by omega
   rw[hi',List.take_length]
   (repeat(with_reducible refine And.intro ?_ ?_;focus first|omega|rfl|assumption|exact⟨_,rfl,rfl⟩|(simp;omega)|(simp;done)))
   refine iZ 5 11 [] rfl (by simp) ?_
   refine yc (ι:=Nat) zmx rfl [1,2,3,5,6] (fun i=>[.c (.ptr (0,0) 0),.c (.ptr (0,1) 0),.c (.bS (0,2) (x.fArgs.map aC.enc)),.c (.bS (0,3) ((x.bH.take i).map bn.enc)),.c (.d (.i .i64 i))])
    (fun i=>[.box [.d (.i .i64 x.aV),.d (.s x.bU),.d (.s x.fName),.d (.i .i64 x.fN),.d (.i .i64 x.fType.aV),.d (.s x.fType.fName),.d (.sl (x.fType.fArgs.map ay.enc)),.d (.sl (x.fArgs.map aC.enc)),.d (.sl (x.bH.map bn.enc))],.box [.d (.i .i64 0),.d (.s []),.d (.s []),.d (.i .i64 0),.d (.i .i64 0),.d (.s []),.bI [],.bI [],.bI []],.tok 9 (x.fArgs.map aC.enc),.tok 11 ((x.bH.take i).map bn.enc)]::S)
    (fun i=>i<=x.bH.length) (fun i=>x.bH.length-i) 0 rfl rfl (Nat.zero_le _) ?_
   intro i hi;simp -implicitDefEqProofs (disch:=omega) only[go_sem]
   with_reducible refine aD (fun hb=> ?_) (fun hb=> ?_)<;>have h:=hb<;>(try simp only[wf_preprocess] at h)<;>simp -implicitDefEqProofs (disch:=omega) only[go_sem,hb]<;>(repeat(with_reducible refine And.intro ?_ ?_;focus first|omega|rfl|assumption|exact⟨_,rfl,rfl⟩|(simp;omega)|(simp;done)))
   ·have hi':i<x.bH.length:=by omega
    have hs:=List.sizeOf_lt_of_mem (List.getElem_mem hi');have hs':=bn.vV x.bH[i];have hx:x.bH[i].sz<=aN (x.bH.map bn.enc):=dx (List.mem_map_of_mem (List.getElem_mem hi'));simp only[bn.sz,bn.aj,bD,aY,D.sz,List.length_map,aC.bY,List.cons_append,List.nil_append] at hx;have hl:(x.bH.take i).length<=i:=List.length_take_le _ _
    (repeat(with_reducible refine And.intro ?_ ?_;focus first|omega|rfl|assumption|exact⟨_,rfl,rfl⟩|(simp;omega)|(simp;done)))
    refine⟨yh,⟨_,rfl,rfl⟩,(fun y hy=>by cases hy),by omega,⟨by omega,hi'⟩,?_⟩;refine aB (ih x.bH[i].fBody (by omega) (by omega)) ?_;simp -implicitDefEqProofs (disch:=omega) only[go_sem]
    (repeat(with_reducible refine And.intro ?_ ?_;focus first|omega|rfl|assumption|exact⟨_,rfl,rfl⟩|(simp;omega)|(simp;done)))
    trace_state
    refine⟨by rfl,?_⟩;simp -implicitDefEqProofs (disch:=omega) only[go_sem];rw[ak1 hi'];refine dZ 4 (by decide) (i+1) (by omega) rfl rfl ?_ rfl (by omega);simp[oo,jQ,V.refs,C.refs,oP]
   ·have hi':i=x.bH.length:=by omega
    rw[hi',List.take_length]
    all_goals rfl
theorem bF.bounds{x:bF}(h:x.sz<=4194304):x.fName.length<=4194304/\x.cO.length<=4194304/\x.aK.length<=4194304:=by
 simp only[bF.sz,bF.aj,bD,aY,D.sz,List.length_map] at h;omega
theorem aI.bounds{x:aI}(h:x.sz<=4194304):x.fName.length<=4194304/\x.bP.length<=4194304/\x.cu.sz<=4194304/\x.aS.length<=4194304/\x.fBody.sz<=4194304/\∀t∈x.bP,t.sz<=4194304:=by
 simp only[aI.sz,aI.aj,bD,aY,D.sz,List.length_map,ay.bY,aC.bY] at h;refine⟨by omega,by omega,by omega,by omega,by omega,fun t ht=> ?_⟩;have hx:t.sz<=aN (x.bP.map ay.enc):=dx (List.mem_map_of_mem ht);omega
noncomputable def YI{α:Type}(w:bG)(i:Int):Option (α×Nat)->Bool
 |some (_,p)=>dec (akY w i p)
 |none=>false
abbrev an6(w:bG)(vis:List Int):V:=.agg [.d (.sl (w.aQ.map aM.enc)),.d (.sl (vis.map encI))]
noncomputable def ahq(w:bG)(i:Int)(name:List UInt8):Int:=
 if YI w i (iD w name)=true then(match iD w name with|some (t,_)=>if agF t=true then 0 else 5|none=>3) else 3
noncomputable def VA(w:bG)(i:Int)(k:Int)(name:List UInt8)(n:Nat):Int:=
 if k=1 then 0 else if k=2 then(if Bb name=true then 0 else if YI w i (abD w name)=true then(match abD w name with|some (d,_)=>if n=d.aS.length then 0 else 2|none=>1) else 1)
 else if k=3 then(if YI w i (iD w name)=true then(match iD w name with|some (t,_)=>if t.bW=true then 0 else 4|none=>3) else 3)
 else if k=4 then ahq w i name else 1
mutual
noncomputable def abE(w:bG)(i:Int):ay->Int
 | .mk k n a=>if VA w i k n a.length=0 then VB w i a else VA w i k n a.length
noncomputable def VB(w:bG)(i:Int):List ay->Int
 |[]=>0
 |t::ts=>if abE w i t=0 then VB w i ts else abE w i t
end
theorem aU.KY{b:aU}(h:b.sz<=4194304):b.fType.sz<=4194304:=by
 simp only[aU.sz,aU.aj,bD,aY,D.sz,List.length_map,ay.bY] at h;omega
def oN(name:List UInt8):List aH->Nat->Option Nat
 |[],_=>none
 |c::cs,k=>if c.fName=name then some k else oN name cs (k+1)
def l8(name:List UInt8):List aR->Option (aR×Nat)
 |[]=>none
 |d::ds=>match oN name d.aF 0 with
  |some k=>some (d,k)
  |none=>l8 name ds
def ctorA(name:List UInt8):List aM->Option (aR×Nat)
 |[]=>none
 |q::qs=>match l8 name q.aO with
  |some x=>some x
  |none=>ctorA name qs
def j5(w:bG)(name:List UInt8):Option (aR×Nat):=ctorA name w.aQ
theorem Mg{name:List UInt8}{cs:List aH}{k:Nat}(hk:k<cs.length):oN name (cs.drop k) k=if cs[k].fName=name then some k else oN name (cs.drop (k+1)) (k+1):=by
 rw[List.drop_eq_getElem_cons hk,oN]
theorem Mh{name:List UInt8}{ds:List aR}{k:Nat}(hk:k<ds.length):l8 name (ds.drop k)=match oN name ds[k].aF 0 with
 |some j=>some (ds[k],j)
 |none=>l8 name (ds.drop (k+1)):=by
 rw[List.drop_eq_getElem_cons hk,l8]
theorem Mi{name:List UInt8}{qs:List aM}{k:Nat}(hk:k<qs.length):ctorA name (qs.drop k)=match l8 name qs[k].aO with
 |some x=>some x
 |none=>ctorA name (qs.drop (k+1)):=by
 rw[List.drop_eq_getElem_cons hk,ctorA]
theorem SN{name:List UInt8}:∀{cs:List aH}{i k:Nat},oN name cs i=some k->i<=k/\k<i+cs.length
 |[],i,k,h=>by cases h
 |c::cs,i,k,h=>by
  rw[oN] at h;by_cases e:c.fName=name
  ·rw[if_pos e] at h;injection h with h;subst h
   simp
  ·rw[if_neg e] at h;have:=SN h;simp only[List.length_cons];omega
theorem OU{name:List UInt8}:∀{ds:List aR}{d:aR}{k:Nat},l8 name ds=some (d,k)->d∈ds/\k<d.aF.length
 |[],d,k,h=>by cases h
 |e::ds,d,k,h=>by
  rw[l8] at h
  cases hf:oN name e.aF 0 with
  |none=>
   rw[hf] at h;obtain⟨h1,h2⟩:=OU (ds:=ds) h;exact⟨by simp[h1],h2⟩
  |some j=>
   rw[hf] at h;injection h with h;injection h with h1 h2;subst h1;subst h2;have:=SN hf;exact⟨by simp,by omega⟩
theorem OV{name:List UInt8}:∀{qs:List aM}{d:aR}{k:Nat},ctorA name qs=some (d,k)->(∃q∈qs,d∈q.aO)/\k<d.aF.length
 |[],d,k,h=>by cases h
 |q::qs,d,k,h=>by
  rw[ctorA] at h
  cases hf:l8 name q.aO with
  |none=>
   rw[hf] at h;obtain⟨⟨q',h0,h1⟩,h2⟩:=OV (qs:=qs) h;exact⟨⟨q',by simp[h0],h1⟩,h2⟩
  |some x=>
   rw[hf] at h;injection h with h;subst h;have:=OU hf;exact⟨⟨q,by simp,this.1⟩,this.2⟩
def Jf:Option (aR×Nat)->List C
 |some (t,_)=>t.enc.map .d
 |none=>[.d (.s []),.bI [],.bI []]
theorem aR.afE{d:aR}(h:d.sz<=4194304):d.aF.length<=4194304:=by
 simp only[aR.sz,aR.aj,bD,aY,D.sz,List.length_map] at h;omega
theorem bG.ajj{w:bG}{i k:Nat}(hi:i<w.aQ.length)(hk:k<w.aQ[i].aO.length)(h:w.sz<=4194304):w.aQ[i].aO[k].sz<=4194304:=by
 have hx:w.aQ[i].sz<=aN (w.aQ.map aM.enc):=dx (List.mem_map_of_mem (List.getElem_mem hi));have hy:w.aQ[i].aO[k].sz<=aN (w.aQ[i].aO.map aR.enc):=dx (List.mem_map_of_mem (List.getElem_mem hk));simp only[bG.sz,bG.aj,bD,aY,D.sz,List.length_map] at h;simp only[aM.sz,aM.aj,bD,aY,D.sz,List.length_map] at hx;omega
theorem UK(w:bG)(name:List UInt8)(hsz:w.sz<=4194304):bg prog 51 [w.v,.c (.d (.s name))] (.eu [(true,Jf (j5 w name)),(false,[.d (.i .i64 (lQ (j5 w name)))]),(false,[.d (.b (j5 w name).isSome)])]):=fun S=>by
 have hb0:=bG.bounds hsz;refine zcx [.cell 4 59,.tmp 5,.tmp 6] func51 ntmps51 ?_;simp -implicitDefEqProofs (disch:=omega) only[go_sem]
 refine bO (ι:=Nat) zmx rfl [1,4,14,15,16] (fun i=>[.c (.d (.s name)),.c (.ptr (0,1) 0),.c (.d (.sl (w.aQ.map aM.enc))),.c (.d (.i .i64 w.aQ.length)),.c (.d (.i .i64 i))]) (fun _=>[.box (w.enc.map .d),.box [.d (.s []),.bI [],.bI []]]::S)
  (fun i=>i<=w.aQ.length/\ctorA name (w.aQ.drop i)=j5 w name) (fun i=>w.aQ.length-i) 0 rfl ?_ ⟨Nat.zero_le _,rfl⟩ ?_
 ·simp -implicitDefEqProofs (disch:=omega) only[go_sem]
 rintro i ⟨p1,p2⟩;simp -implicitDefEqProofs (disch:=omega) only[go_sem]
 with_reducible refine aD (fun hb=> ?_) (fun hb=> ?_)<;>have h:=hb<;>(try simp only[wf_preprocess] at h)<;>simp -implicitDefEqProofs (disch:=omega) only[go_sem,hb]<;>(repeat(with_reducible refine And.intro ?_ ?_;focus first|omega|rfl|assumption|exact⟨_,rfl,rfl⟩|(simp;omega)|(simp;done)))
 ·have hi:i<w.aQ.length:=by omega
  have hln:=bG.afD hi hsz;rw[Mi hi] at p2
  (repeat(with_reducible refine And.intro ?_ ?_;focus first|omega|rfl|assumption|exact⟨_,rfl,rfl⟩|(simp;omega)|(simp;done)))
  refine bO (ι:=Nat) zmx rfl [1,4,14,15,16,21,22,23] (fun k=>[.c (.d (.s name)),.c (.ptr (0,1) 0),.c (.d (.sl (w.aQ.map aM.enc))),.c (.d (.i .i64 w.aQ.length)),.c (.d (.i .i64 i)),.c (.d (.sl (w.aQ[i].aO.map aR.enc))),.c (.d (.i .i64 w.aQ[i].aO.length)),.c (.d (.i .i64 k))])
   (fun _=>[.box (w.enc.map .d),.box [.d (.s []),.bI [],.bI []],.box (w.aQ[i].enc.map .d)]::S)
   (fun k=>k<=w.aQ[i].aO.length/\l8 name (w.aQ[i].aO.drop k)=l8 name w.aQ[i].aO) (fun k=>w.aQ[i].aO.length-k) 0 rfl ?_ ⟨Nat.zero_le _,rfl⟩ ?_
  ·simp -implicitDefEqProofs (disch:=omega) only[go_sem]
  rintro k ⟨q1,q2⟩;simp -implicitDefEqProofs (disch:=omega) only[go_sem]
  with_reducible refine aD (fun hb=> ?_) (fun hb=> ?_)<;>have h:=hb<;>(try simp only[wf_preprocess] at h)<;>simp -implicitDefEqProofs (disch:=omega) only[go_sem,hb]<;>(repeat(with_reducible refine And.intro ?_ ?_;focus first|omega|rfl|assumption|exact⟨_,rfl,rfl⟩|(simp;omega)|(simp;done)))
  ·have hk:k<w.aQ[i].aO.length:=by omega
   have hlc:=aR.afE (bG.ajj hi hk hsz);rw[Mh hk] at q2
   (repeat(with_reducible refine And.intro ?_ ?_;focus first|omega|rfl|assumption|exact⟨_,rfl,rfl⟩|(simp;omega)|(simp;done)))
   refine bO (ι:=Nat) zmx rfl [1,4,10,14,15,16,21,22,23,28,29,30] (fun j=>[.c (.d (.s name)),.c (.ptr (0,1) 0),.c (.ptr (0,3) 0),.c (.d (.sl (w.aQ.map aM.enc))),.c (.d (.i .i64 w.aQ.length)),.c (.d (.i .i64 i)),.c (.d (.sl (w.aQ[i].aO.map aR.enc))),.c (.d (.i .i64 w.aQ[i].aO.length)),.c (.d (.i .i64 k)),.c (.d (.sl (w.aQ[i].aO[k].aF.map aH.enc))),.c (.d (.i .i64 w.aQ[i].aO[k].aF.length)),.c (.d (.i .i64 j))])
    (fun _=>[.box (w.enc.map .d),.box [.d (.s []),.bI [],.bI []],.box (w.aQ[i].enc.map .d),.box (w.aQ[i].aO[k].enc.map .d)]::S)
    (fun j=>j<=w.aQ[i].aO[k].aF.length/\oN name (w.aQ[i].aO[k].aF.drop j) j=oN name w.aQ[i].aO[k].aF 0) (fun j=>w.aQ[i].aO[k].aF.length-j) 0 rfl ?_ ⟨Nat.zero_le _,rfl⟩ ?_
   ·simp -implicitDefEqProofs (disch:=omega) only[go_sem]
   rintro j ⟨r1,r2⟩;simp -implicitDefEqProofs (disch:=omega) only[go_sem]
   with_reducible refine aD (fun hb=> ?_) (fun hb=> ?_)<;>have h:=hb<;>(try simp only[wf_preprocess] at h)<;>simp -implicitDefEqProofs (disch:=omega) only[go_sem,hb]<;>(repeat(with_reducible refine And.intro ?_ ?_;focus first|omega|rfl|assumption|exact⟨_,rfl,rfl⟩|(simp;omega)|(simp;done)))
   ·have hj:j<w.aQ[i].aO[k].aF.length:=by omega
    rw[Mg hj] at r2
    (repeat(with_reducible refine And.intro ?_ ?_;focus first|omega|rfl|assumption|exact⟨_,rfl,rfl⟩|(simp;omega)|(simp;done)))
    with_reducible refine aD (fun hb=> ?_) (fun hb=> ?_)<;>have h:=hb<;>(try simp only[wf_preprocess] at h)<;>simp -implicitDefEqProofs (disch:=omega) only[go_sem,hb]<;>(repeat(with_reducible refine And.intro ?_ ?_;focus first|omega|rfl|assumption|exact⟨_,rfl,rfl⟩|(simp;omega)|(simp;done)))
    ·rw[if_pos (by simpa using h)] at r2;rw[<-r2] at q2;rw[<-q2] at p2;rw[<-p2]
     first|rfl|(simp only[Jf,lQ];simp -implicitDefEqProofs (disch:=omega) only[go_sem];done)
    ·rw[if_neg (by simpa using h)] at r2;exact dZ 4 (by decide) (j+1) (by omega) rfl rfl rfl rfl ⟨by omega,r2⟩
   ·rw[List.drop_of_length_le (by omega),oN] at r2;rw[<-r2] at q2;exact dZ 3 (by decide) (k+1) (by omega) rfl rfl rfl rfl ⟨by omega,q2⟩
  ·rw[List.drop_of_length_le (by omega),l8] at q2;rw[<-q2] at p2;exact dZ 2 (by decide) (i+1) (by omega) rfl rfl rfl rfl ⟨by omega,p2⟩
 ·rw[List.drop_of_length_le (by omega),ctorA] at p2;rw[<-p2]
  first|rfl|(simp only[Jf,lQ];simp -implicitDefEqProofs (disch:=omega) only[go_sem];done)
theorem UL(w:bG)(name:List UInt8)(hsz:w.sz<=4194304):bg prog 53 [w.v,.c (.d (.s name))] (.eu [(true,Jf (j5 w name)),(false,[.d (.i .i64 (lQ (j5 w name)))]),(false,[.d (.b (j5 w name).isSome)])]):=fun S=>by
 have hb0:=bG.bounds hsz;refine zcx [.cell 4 59,.tmp 5,.tmp 6] func53 ntmps53 ?_;simp -implicitDefEqProofs (disch:=omega) only[go_sem]
 refine bO (ι:=Nat) zmx rfl [1,2,4,7] (fun i=>[.c (.d (.s name)),.c (.ptr (0,0) 0),.c (.ptr (0,1) 0),.c (.d (.i .i64 i))]) (fun _=>[.box (w.enc.map .d),.box [.d (.s []),.bI [],.bI []]]::S)
  (fun i=>i<=w.aQ.length/\ctorA name (w.aQ.drop i)=j5 w name) (fun i=>w.aQ.length-i) 0 rfl ?_ ⟨Nat.zero_le _,rfl⟩ ?_
 ·simp -implicitDefEqProofs (disch:=omega) only[go_sem]
 rintro i ⟨p1,p2⟩;simp -implicitDefEqProofs (disch:=omega) only[go_sem]
 with_reducible refine aD (fun hb=> ?_) (fun hb=> ?_)<;>have h:=hb<;>(try simp only[wf_preprocess] at h)<;>simp -implicitDefEqProofs (disch:=omega) only[go_sem,hb]<;>(repeat(with_reducible refine And.intro ?_ ?_;focus first|omega|rfl|assumption|exact⟨_,rfl,rfl⟩|(simp;omega)|(simp;done)))
 ·have hi:i<w.aQ.length:=by omega
  have hln:=bG.afD hi hsz;rw[Mi hi] at p2
  (repeat(with_reducible refine And.intro ?_ ?_;focus first|omega|rfl|assumption|exact⟨_,rfl,rfl⟩|(simp;omega)|(simp;done)))
  refine bO (ι:=Nat) zmx rfl [1,2,4,7,8] (fun k=>[.c (.d (.s name)),.c (.ptr (0,0) 0),.c (.ptr (0,1) 0),.c (.d (.i .i64 i)),.c (.d (.i .i64 k))])
   (fun _=>[.box (w.enc.map .d),.box [.d (.s []),.bI [],.bI []]]::S)
   (fun k=>k<=w.aQ[i].aO.length/\l8 name (w.aQ[i].aO.drop k)=l8 name w.aQ[i].aO) (fun k=>w.aQ[i].aO.length-k) 0 rfl ?_ ⟨Nat.zero_le _,rfl⟩ ?_
  ·simp -implicitDefEqProofs (disch:=omega) only[go_sem]
  rintro k ⟨q1,q2⟩;simp -implicitDefEqProofs (disch:=omega) only[go_sem]
  (repeat(with_reducible refine And.intro ?_ ?_;focus first|omega|rfl|assumption|exact⟨_,rfl,rfl⟩|(simp;omega)|(simp;done)))
  with_reducible refine aD (fun hb=> ?_) (fun hb=> ?_)<;>have h:=hb<;>(try simp only[wf_preprocess] at h)<;>simp -implicitDefEqProofs (disch:=omega) only[go_sem,hb]<;>(repeat(with_reducible refine And.intro ?_ ?_;focus first|omega|rfl|assumption|exact⟨_,rfl,rfl⟩|(simp;omega)|(simp;done)))
  ·have hk:k<w.aQ[i].aO.length:=by omega
   have hlc:=aR.afE (bG.ajj hi hk hsz);rw[Mh hk] at q2
   (repeat(with_reducible refine And.intro ?_ ?_;focus first|omega|rfl|assumption|exact⟨_,rfl,rfl⟩|(simp;omega)|(simp;done)))
   refine bO (ι:=Nat) zmx rfl [1,2,4,7,8,9,10] (fun j=>[.c (.d (.s name)),.c (.ptr (0,0) 0),.c (.ptr (0,1) 0),.c (.d (.i .i64 i)),.c (.d (.i .i64 k)),.c (.ptr (0,2) 0),.c (.d (.i .i64 j))])
    (fun _=>[.box (w.enc.map .d),.box [.d (.s []),.bI [],.bI []],.box (w.aQ[i].aO[k].enc.map .d)]::S)
    (fun j=>j<=w.aQ[i].aO[k].aF.length/\oN name (w.aQ[i].aO[k].aF.drop j) j=oN name w.aQ[i].aO[k].aF 0) (fun j=>w.aQ[i].aO[k].aF.length-j) 0 rfl ?_ ⟨Nat.zero_le _,rfl⟩ ?_
   ·simp -implicitDefEqProofs (disch:=omega) only[go_sem]
   rintro j ⟨r1,r2⟩;simp -implicitDefEqProofs (disch:=omega) only[go_sem]
   (repeat(with_reducible refine And.intro ?_ ?_;focus first|omega|rfl|assumption|exact⟨_,rfl,rfl⟩|(simp;omega)|(simp;done)))
   with_reducible refine aD (fun hb=> ?_) (fun hb=> ?_)<;>have h:=hb<;>(try simp only[wf_preprocess] at h)<;>simp -implicitDefEqProofs (disch:=omega) only[go_sem,hb]<;>(repeat(with_reducible refine And.intro ?_ ?_;focus first|omega|rfl|assumption|exact⟨_,rfl,rfl⟩|(simp;omega)|(simp;done)))
   ·have hj:j<w.aQ[i].aO[k].aF.length:=by omega
    rw[Mg hj] at r2
    (repeat(with_reducible refine And.intro ?_ ?_;focus first|omega|rfl|assumption|exact⟨_,rfl,rfl⟩|(simp;omega)|(simp;done)))
    with_reducible refine aD (fun hb=> ?_) (fun hb=> ?_)<;>have h:=hb<;>(try simp only[wf_preprocess] at h)<;>simp -implicitDefEqProofs (disch:=omega) only[go_sem,hb]<;>(repeat(with_reducible refine And.intro ?_ ?_;focus first|omega|rfl|assumption|exact⟨_,rfl,rfl⟩|(simp;omega)|(simp;done)))
    ·rw[if_pos (by simpa using h)] at r2;rw[<-r2] at q2;rw[<-q2] at p2;rw[<-p2]
     first|rfl|(simp only[Jf,lQ];simp -implicitDefEqProofs (disch:=omega) only[go_sem];done)
    ·rw[if_neg (by simpa using h)] at r2;exact cZ (j+1) (by omega) rfl rfl ⟨by omega,r2⟩
   ·rw[List.drop_of_length_le (by omega),oN] at r2;rw[<-r2] at q2;exact dZ 2 (by decide) (k+1) (by omega) rfl rfl rfl rfl ⟨by omega,q2⟩
  ·rw[List.drop_of_length_le (by omega),l8] at q2;rw[<-q2] at p2;exact cZ (i+1) (by omega) rfl rfl ⟨by omega,p2⟩
 ·rw[List.drop_of_length_le (by omega),ctorA] at p2;rw[<-p2]
  first|rfl|(simp only[Jf,lQ];simp -implicitDefEqProofs (disch:=omega) only[go_sem];done)
theorem ajk{xs:List aI}{i:Nat}(hi:i<xs.length):(xs.take i).map aI.enc++[[D.s xs[i].fName,D.sl (xs[i].bP.map ay.enc),D.i .i64 xs[i].cu.aV,D.s xs[i].cu.fName,D.sl (xs[i].cu.fArgs.map ay.enc),D.b xs[i].gT,D.sl (xs[i].aS.map encS),
 D.i .i64 xs[i].fBody.aV,D.s xs[i].fBody.bU,D.s xs[i].fBody.fName,D.i .i64 xs[i].fBody.fN,D.i .i64 xs[i].fBody.fType.aV,D.s xs[i].fBody.fType.fName,D.sl (xs[i].fBody.fType.fArgs.map ay.enc),D.sl (xs[i].fBody.fArgs.map aC.enc),D.sl (xs[i].fBody.bH.map bn.enc)]]=(xs.take (i+1)).map aI.enc:=by
 rw[List.take_succ_eq_append_getElem hi,List.map_append,List.map_cons,List.map_nil,aI.aj,ay.aj,aC.aj,ay.aj];rfl
def zP(w:bG)(name:List UInt8):bF:=match iD w name with
 |some (t,_)=>t
 |none=>⟨[],[],false,false,[]⟩
theorem abF{w:bG}{name:List UInt8}:(zP w name).sz<=w.sz:=by
 unfold zP;split
 ·rename_i t j h;obtain⟨q,h1,h2⟩:=OT h;have k1:q.sz<=aN (w.aQ.map aM.enc):=dx (List.mem_map_of_mem h1);have k2:t.sz<=aN (q.dI.map bF.enc):=dx (List.mem_map_of_mem h2)
  have e1:w.sz=w.aQ.length+aN (w.aQ.map aM.enc):=by simp[bG.sz,bG.aj,bD,D.sz]
  simp only[aM.sz,aM.aj,bD,D.sz,List.length_map] at k1;omega
 ·simp[bF.sz,bF.enc,bD,D.sz,aN]
theorem Jg{α:Type}{f:aM->List α}{p:α->Bool}:∀{ps:List aM}{i:Nat}{t:α}{j:Nat},tQ f p ps i=some (t,j)->p t=true
 |[],i,t,j,h=>by cases h
 |q::qs,i,t,j,h=>by
  rw[tQ] at h
  cases hf:(f q).find? p with
  |some u=>
   rw[hf] at h;injection h with h;injection h with h1 h2;subst h1;exact List.find?_some hf
  |none=>
   rw[hf] at h;exact Jg h
theorem ae1{w:bG}{name:List UInt8}(h:(iD w name).isSome=true):(zP w name).fName=name:=by
 unfold zP
 cases hq:iD w name with
 |none=>rw[hq] at h;cases h
 |some x=>obtain⟨t,j⟩:=x;exact of_decide_eq_true (Jg (p:=fun t:bF=>decide (t.fName=name)) hq)
theorem Mj{name:List UInt8}:∀{cs:List aH}{i k:Nat},oN name cs i=some k->∃(h:k-i<cs.length),i<=k/\cs[k-i].fName=name
 |[],i,k,h=>by cases h
 |c::cs,i,k,h=>by
  rw[oN] at h;by_cases e:c.fName=name
  ·rw[if_pos e] at h;injection h with h;subst h;simp[e]
  ·rw[if_neg e] at h;obtain⟨h1,h2,h3⟩:=Mj h;obtain⟨m,rfl⟩:∃m,k=i+1+m:=⟨k-(i+1),by omega⟩
   have e1:i+1+m-i=m+1:=by omega
   have e2:i+1+m-(i+1)=m:=by omega
   simp only[e2] at h1 h3;simp only[e1,List.length_cons,List.getElem_cons_succ];exact⟨by omega,by omega,h3⟩
theorem Mk{name:List UInt8}:∀{ds:List aR}{d:aR}{k:Nat},l8 name ds=some (d,k)->∃(h:k<d.aF.length),d.aF[k].fName=name
 |[],d,k,h=>by cases h
 |e::ds,d,k,h=>by
  rw[l8] at h
  cases hf:oN name e.aF 0 with
  |none=>rw[hf] at h;exact Mk h
  |some j=>
   rw[hf] at h;injection h with h;injection h with h1 h2;subst h1;subst h2;obtain⟨a,_,b⟩:=Mj hf;exact⟨a,b⟩
theorem Ml{name:List UInt8}:∀{qs:List aM}{d:aR}{k:Nat},ctorA name qs=some (d,k)->∃(h:k<d.aF.length),d.aF[k].fName=name
 |[],d,k,h=>by cases h
 |q::qs,d,k,h=>by
  rw[ctorA] at h
  cases hf:l8 name q.aO with
  |none=>rw[hf] at h;exact Ml h
  |some x=>
   rw[hf] at h;injection h with h;subst h;exact Mk hf
theorem Pm(x:bF)(n:Nat)(hsz:x.sz<=4194304):bg prog 48 [x.v] (.agg ((fF x.enc n).map .d)):=fun S=>by
 have hz:x.cO.length<=4194304/\x.aK.length+aN (x.aK.map aI.enc)<=4194304:=by
  simp only[bF.sz,bF.aj,bD,aY,D.sz,List.length_map] at hsz;omega
 obtain⟨m,hm⟩:∃m,m=n+(gQ (x.cO.map encS)+1):=⟨_,rfl⟩;obtain⟨T,hT⟩:∃T,T=eU (x.aK.map aI.enc) (m+1):=⟨_,rfl⟩
 have iG:T.length=x.aK.length:=by rw[hT,mW,List.length_map]
 have hE:fF x.enc n=[.s x.fName,.ol n (x.cO.map encS),.b x.lV,.b x.bW,.ol m T]:=by
  simp only[bF.aj,List.cons_append,List.nil_append,fF,jo,uy,oD,Nat.add_zero,Bl,hT,hm]
 rw[hE];refine Ew (m) (rs:=[.cell 2 54]) zmx func48 ntmps48 rfl rfl rfl rfl rfl ?_;simp -implicitDefEqProofs (disch:=omega) only[go_sem];refine aB (zA x.cO (by omega) n) ?_;simp -implicitDefEqProofs (disch:=omega) only[go_sem]
 (repeat(with_reducible refine And.intro ?_ ?_;focus first|omega|rfl|assumption|exact⟨_,rfl,rfl⟩|(simp;omega)|(simp;done)))
 refine yc (ι:=Nat×List (List D)) zmx rfl [1,2,3,15,16,17] (fun y=>[.c (.ptr (0,1) 0),.c (.ptr (0,2) 0),.c (.iJ (0,3)),.c (.d (.sl (x.aK.map aI.enc))),.c (.d (.i .i64 x.aK.length)),.c (.d (.i .i64 y.1))])
  (fun y=>[.seed m,.box [.d (.s x.fName),.d (.ol n (x.cO.map encS)),.d (.b x.lV),.d (.b x.bW),.d (.sl (x.aK.map aI.enc))],.box [.d (.s []),.bI [],.d (.b false),.d (.b false),.bI []],.eP 16 y.2]::S)
  (fun y=>y.1<=x.aK.length/\mQ 16 y.1 y.2 T) (fun y=>x.aK.length-y.1) (0,_) rfl rfl ⟨Nat.zero_le _,mQ.start (by simp[iG]) rfl⟩ ?_
 rintro⟨i,R⟩ ⟨p1,p2⟩;simp only at p1 p2;simp -implicitDefEqProofs (disch:=omega) only[go_sem]
 with_reducible refine aD (fun hb=> ?_) (fun hb=> ?_)<;>have h:=hb<;>(try simp only[wf_preprocess] at h)<;>simp -implicitDefEqProofs (disch:=omega) only[go_sem,hb]<;>(repeat(with_reducible refine And.intro ?_ ?_;focus first|omega|rfl|assumption|exact⟨_,rfl,rfl⟩|(simp;omega)|(simp;done)))
 ·have hi:i<x.aK.length:=by omega
  have hir:i<(x.aK.map aI.enc).length:=by rw[List.length_map];exact hi
  have hR:=p2.1;rw[iG] at hR;have hx:x.aK[i].sz<=aN (x.aK.map aI.enc):=dx (List.mem_map_of_mem (List.getElem_mem hi));simp only[aI.sz,aI.aj,bD,aY,D.sz,List.length_map,aC.bY,ay.bY,List.cons_append,List.nil_append] at hx;obtain⟨g,hg⟩:∃g,g=x.aK[i]:=⟨_,rfl⟩;obtain⟨q,hq⟩:∃q,q=m+1+gQ ((x.aK.map aI.enc).take i):=⟨_,rfl⟩;obtain⟨q1,e1⟩:∃q1,q1=q+(gQ (x.aK[i].bP.map ay.enc)+1):=⟨_,rfl⟩;obtain⟨q2,e2⟩:∃q2,q2=q1+(gQ (x.aK[i].cu.fArgs.map ay.enc)+1):=⟨_,rfl⟩;obtain⟨q3,e3⟩:∃q3,q3=q2+(gQ (x.aK[i].aS.map encS)+1):=⟨_,rfl⟩
  have Bn:T[i]? =some ([.s x.aK[i].fName,.ol q (eU (x.aK[i].bP.map ay.enc) (q+1)),.i .i64 x.aK[i].cu.aV,.s x.aK[i].cu.fName,.ol q1 (eU (x.aK[i].cu.fArgs.map ay.enc) (q1+1)),.b x.aK[i].gT,.ol q2 (x.aK[i].aS.map encS)]++fF x.aK[i].fBody.enc q3):=by
   rw[hT,yg hir,List.getElem_map,<-hq];simp only[aI.aj,ay.aj,List.cons_append,List.nil_append,fF,jo,oD,Nat.add_zero,Bl,<-e1,<-e2,<-e3]
  have h1:=Fj x.aK[i].bP q (by omega);have h2:=Gs x.aK[i].cu q1 (by omega);have h3:=zA x.aK[i].aS (by omega) q2;have h4:=SL x.aK[i].fBody q3 (by omega);rw[SK] at h2;rw[Nt] at h4 Bn;simp only[List.map_cons,List.map_nil,List.cons_append,List.nil_append] at h2 h4 Bn
  (repeat(with_reducible refine And.intro ?_ ?_;focus first|omega|rfl|assumption|exact⟨_,rfl,rfl⟩|(simp;omega)|(simp;done)))
  refine aB h1 ?_;simp -implicitDefEqProofs (disch:=omega) only[go_sem,jo];refine aB h2 ?_;simp -implicitDefEqProofs (disch:=omega) only[go_sem];refine aB h3 ?_;simp -implicitDefEqProofs (disch:=omega) only[go_sem];refine aB h4 ?_;simp -implicitDefEqProofs (disch:=omega) only[go_sem]
  (repeat(with_reducible refine And.intro ?_ ?_;focus first|omega|rfl|assumption|exact⟨_,rfl,rfl⟩|(simp;omega)|(simp;done)))
  refine dZ 4 (by decide) (i+1,_) (by simp only;omega) rfl rfl ?_ rfl ⟨by simp only;omega,p2.step Bn rfl⟩;simp[oo,jQ,V.refs,C.refs,oP]
 ·have hi:i=x.aK.length:=by omega
  rw[p2.done (by omega)]
theorem Nu(w:bG)(name:List UInt8)(hsz:w.sz<=4194304)(n:Nat):bg prog 21 [w.v,.c (.d (.s name))] (.eu [(true,(fF (zP w name).enc n).map .d),(false,[.d (.i .i64 (lQ (iD w name)))]),(false,[.d (.b (iD w name).isSome)])]):=by
 have hd:=abF (w:=w) (name:=name);have h0:=UH w name hsz
 cases hq:iD w name with
 |none=>
  have e:zP w name=⟨[],[],false,false,[]⟩:=by unfold zP;rw[hq]
  rw[e];rw[hq] at h0;simp only[Jd,lQ,Option.isSome_none] at h0 ⊢
  have hE:(fF (⟨[],[],false,false,[]⟩:bF).enc n).map C.d=[.d (.s []),.d (.ol n []),.d (.b false),.d (.b false),.d (.ol (n+1) [])]:=by simp[bF.enc,fF,jo,oD,gQ,eU]
  rw[hE];refine bg.less (r:=.eu [(true,[.d (.s []),.bI [],.d (.b false),.d (.b false),.bI []]),(false,[.d (.i .i64 0)]),(false,[.d (.b false)])]) (fun S=> ?_) (Cw fun w σ S β vs hc=>Mf (cs:=[.d (.s []),.bI [],.d (.b false),.d (.b false),.bI []]) rfl (fun j x y hx hy v hv=> ?_) hc)
  ·refine zcx [.cell 4 54,.tmp 5,.tmp 6] func21 ntmps21 ?_;simp -implicitDefEqProofs (disch:=omega) only[go_sem];refine aB h0 ?_;simp -implicitDefEqProofs (disch:=omega) only[go_sem]
  ·match j,hx,hy with
   |0,hx,hy=>cases hx;cases hy;exact hv
   |1,hx,hy=>cases hx;cases hy;exact Cx _ hv
   |2,hx,hy=>cases hx;cases hy;exact hv
   |3,hx,hy=>cases hx;cases hy;exact hv
   |4,hx,hy=>cases hx;cases hy;exact Cx _ hv
   |j+5,hx,hy=>simp at hx
 |some p=>
  intro S;obtain⟨t,j⟩:=p
  have e:zP w name=t:=by unfold zP;rw[hq]
  rw[e] at hd ⊢;rw[hq] at h0;have h1:=Pm t n (by omega);obtain⟨row,hrow⟩:∃row,row=fF t.enc n:=⟨_,rfl⟩
  have hE:∃a b c d e,row=[a,b,c,d,e]:=by
   rw[hrow,bF.aj];exact⟨_,_,_,_,_,rfl⟩
  rw[<-hrow] at h1 ⊢;obtain⟨a,b,c,d,e',rfl⟩:=hE;clear hrow;simp only[Jd,lQ,Option.isSome_some,bF.aj,List.map_cons,List.map_nil] at h0 h1 ⊢;refine zcx [.cell 4 54,.tmp 5,.tmp 6] func21 ntmps21 ?_;simp -implicitDefEqProofs (disch:=omega) only[go_sem];refine aB h0 ?_;simp -implicitDefEqProofs (disch:=omega) only[go_sem];refine aB h1 ?_;simp -implicitDefEqProofs (disch:=omega) only[go_sem]
theorem Pn(w:bG)(name:List UInt8)(hsz:w.sz<=4194304):bg prog 21 [w.v,.c (.d (.s name))] (.eu [(true,(zP w name).enc.map .d),(false,[.d (.i .i64 (lQ (iD w name)))]),(false,[.d (.b (iD w name).isSome)])]):=
 bg.less (Nu w name hsz 0) (Cw fun w σ S β vs h=>Od h)
theorem YJ(x:ay)(h:x.sz<=4194304):bg prog 130 [x.v] x.v:=(E5 _).1 x (Nat.lt_succ_self _) h
theorem UM(x:aC)(h:x.sz<=4194304):bg prog 131 [x.v] x.v:=Je _ x (Nat.lt_succ_self _) h
theorem abG(x:aI)(hsz:x.sz<=4194304):bg prog 88 [x.v] x.v:=fun S=>by
 have hz:x.bP.length+aN (x.bP.map ay.enc)<=4194304/\x.cu.sz<=4194304/\x.aS.length<=4194304/\x.fBody.sz<=4194304:=by
  simp only[aI.sz,aI.aj,bD,aY,D.sz,List.length_map,aC.bY,ay.bY,List.cons_append,List.nil_append] at hsz;omega
 refine zcx [.cell 2 131] func88 ntmps88 ?_;simp -implicitDefEqProofs (disch:=omega) only[go_sem];refine aB (C8 x.bP (by omega)) ?_;simp -implicitDefEqProofs (disch:=omega) only[go_sem];refine aB (YJ x.cu (by omega)) ?_;simp -implicitDefEqProofs (disch:=omega) only[go_sem];refine⟨yh,⟨_,rfl,rfl⟩,(fun y hy=>by cases hy),by omega,?_⟩;refine aB (UM x.fBody (by omega)) ?_;simp -implicitDefEqProofs (disch:=omega) only[go_sem]
 all_goals rfl
theorem Jh(x:bF)(hsz:x.sz<=4194304):bg prog 50 [x.v] x.v:=fun S=>by
 have hz:x.cO.length<=4194304/\x.aK.length+aN (x.aK.map aI.enc)<=4194304:=by
  simp only[bF.sz,bF.aj,bD,aY,D.sz,List.length_map] at hsz;omega
 refine zcx [.cell 2 54] func50 ntmps50 ?_;simp -implicitDefEqProofs (disch:=omega) only[go_sem]
 (repeat(with_reducible refine And.intro ?_ ?_;focus first|omega|rfl|assumption|exact⟨_,rfl,rfl⟩|(simp;omega)|(simp;done)))
 refine iZ 3 16 [] rfl (by simp) ?_
 refine bO (ι:=Nat) zmx rfl [1,2,3,4] (fun i=>[.c (.ptr (0,0) 0),.c (.ptr (0,1) 0),.c (.bS (0,2) ((x.aK.take i).map aI.enc)),.c (.d (.i .i64 i))])
  (fun i=>[.box [.d (.s x.fName),.d (.sl (x.cO.map encS)),.d (.b x.lV),.d (.b x.bW),.d (.sl (x.aK.map aI.enc))],.box [.d (.s []),.bI [],.d (.b false),.d (.b false),.bI []],.tok 16 ((x.aK.take i).map aI.enc)]::S)
  (fun i=>i<=x.aK.length) (fun i=>x.aK.length-i) 0 rfl rfl (Nat.zero_le _) ?_
 intro i hi;simp -implicitDefEqProofs (disch:=omega) only[go_sem]
 with_reducible refine aD (fun hb=> ?_) (fun hb=> ?_)<;>have h:=hb<;>(try simp only[wf_preprocess] at h)<;>simp -implicitDefEqProofs (disch:=omega) only[go_sem,hb]<;>(repeat(with_reducible refine And.intro ?_ ?_;focus first|omega|rfl|assumption|exact⟨_,rfl,rfl⟩|(simp;omega)|(simp;done)))
 ·have hi':i<x.aK.length:=by omega
  have hx:x.aK[i].sz<=aN (x.aK.map aI.enc):=dx (List.mem_map_of_mem (List.getElem_mem hi'));have hl:(x.aK.take i).length<=i:=List.length_take_le _ _
  (repeat(with_reducible refine And.intro ?_ ?_;focus first|omega|rfl|assumption|exact⟨_,rfl,rfl⟩|(simp;omega)|(simp;done)))
  refine aB (abG x.aK[i] (by omega)) ?_;simp -implicitDefEqProofs (disch:=omega) only[go_sem]
  (repeat(with_reducible refine And.intro ?_ ?_;focus first|omega|rfl|assumption|exact⟨_,rfl,rfl⟩|(simp;omega)|(simp;done)))
  rw[ajk hi'];exact cZ (i+1) (by omega) rfl rfl (by omega)
 ·have hi':i=x.aK.length:=by omega
  rw[hi',List.take_length];exact⟨yh,⟨_,rfl,rfl⟩,(fun y hy=>by cases hy),by omega,rfl⟩
theorem Po(w:bG)(name:List UInt8)(hsz:w.sz<=4194304):bg prog 22 [w.v,.c (.d (.s name))] (.eu [(true,(zP w name).enc.map .d),(false,[.d (.i .i64 (lQ (iD w name)))]),(false,[.d (.b (iD w name).isSome)])]):=fun S=>by
 have hd:=abF (w:=w) (name:=name);have h0:=UJ w name hsz
 cases hq:iD w name with
 |none=>
  have e:zP w name=⟨[],[],false,false,[]⟩:=by unfold zP;rw[hq]
  rw[e];rw[hq] at h0;simp only[Jd,lQ,Option.isSome_none] at h0 ⊢;have h1:=Jh ⟨[],[],false,false,[]⟩ (by decide);refine zcx [.cell 4 54,.tmp 5,.tmp 6] func22 ntmps22 ?_;simp -implicitDefEqProofs (disch:=omega) only[go_sem];refine aB h0 ?_;simp -implicitDefEqProofs (disch:=omega) only[go_sem];refine aB h1 ?_;simp -implicitDefEqProofs (disch:=omega) only[go_sem]
  all_goals rfl
 |some p=>
  obtain⟨t,j⟩:=p
  have e:zP w name=t:=by unfold zP;rw[hq]
  rw[e] at hd ⊢;rw[hq] at h0;simp only[Jd,lQ,Option.isSome_some,bF.aj,List.map_cons,List.map_nil] at h0 ⊢;refine zcx [.cell 4 54,.tmp 5,.tmp 6] func22 ntmps22 ?_;simp -implicitDefEqProofs (disch:=omega) only[go_sem];refine aB h0 ?_;simp -implicitDefEqProofs (disch:=omega) only[go_sem];refine aB (Jh t (by omega)) ?_;simp -implicitDefEqProofs (disch:=omega) only[go_sem]
  all_goals rfl
def zu(w:bG)(name:List UInt8):aR:=match j5 w name with
 |some (t,_)=>t
 |none=>⟨[],[],[]⟩
theorem SQ{w:bG}{name:List UInt8}:(zu w name).sz<=w.sz:=by
 unfold zu;split
 ·rename_i t j h;obtain⟨⟨q,h1,h2⟩,_⟩:=OV h;have k1:q.sz<=aN (w.aQ.map aM.enc):=dx (List.mem_map_of_mem h1);have k2:t.sz<=aN (q.aO.map aR.enc):=dx (List.mem_map_of_mem h2)
  have e1:w.sz=w.aQ.length+aN (w.aQ.map aM.enc):=by simp[bG.sz,bG.aj,bD,D.sz]
  simp only[aM.sz,aM.aj,bD,D.sz,List.length_map] at k1;omega
 ·simp[aR.sz,aR.enc,bD,D.sz,aN]
theorem Pp(w:bG)(name:List UInt8)(hsz:w.sz<=4194304):bg prog 25 [w.v,.c (.d (.s name))] (.eu [(true,(zu w name).enc.map .d),(false,[.d (.i .i64 (lQ (j5 w name)))]),(false,[.d (.b (j5 w name).isSome)])]):=fun S=>by
 have hd:=SQ (w:=w) (name:=name);have h0:=UL w name hsz
 cases hq:j5 w name with
 |none=>
  have e:zu w name=⟨[],[],[]⟩:=by unfold zu;rw[hq]
  rw[e];rw[hq] at h0;simp only[Jf,lQ,Option.isSome_none] at h0 ⊢;have h1:=Me ⟨[],[],[]⟩ (by decide);refine zcx [.cell 4 59,.tmp 5,.tmp 6] func25 ntmps25 ?_;simp -implicitDefEqProofs (disch:=omega) only[go_sem];refine aB h0 ?_;simp -implicitDefEqProofs (disch:=omega) only[go_sem];refine aB h1 ?_;simp -implicitDefEqProofs (disch:=omega) only[go_sem]
  all_goals rfl
 |some p=>
  obtain⟨t,j⟩:=p
  have e:zu w name=t:=by unfold zu;rw[hq]
  rw[e] at hd ⊢;rw[hq] at h0;simp only[Jf,lQ,Option.isSome_some,aR.aj,List.map_cons,List.map_nil] at h0 ⊢;refine zcx [.cell 4 59,.tmp 5,.tmp 6] func25 ntmps25 ?_;simp -implicitDefEqProofs (disch:=omega) only[go_sem];refine aB h0 ?_;simp -implicitDefEqProofs (disch:=omega) only[go_sem];refine aB (Me t (by omega)) ?_;simp -implicitDefEqProofs (disch:=omega) only[go_sem]
  all_goals rfl
theorem Nv(w:bG)(name:List UInt8)(hsz:w.sz<=4194304)(n:Nat):bg prog 24 [w.v,.c (.d (.s name))] (.eu [(true,(fF (zu w name).enc n).map .d),(false,[.d (.i .i64 (lQ (j5 w name)))]),(false,[.d (.b (j5 w name).isSome)])]):=by
 have hd:=SQ (w:=w) (name:=name);have h0:=UK w name hsz
 cases hq:j5 w name with
 |none=>
  have e:zu w name=⟨[],[],[]⟩:=by unfold zu;rw[hq]
  rw[e];rw[hq] at h0;simp only[Jf,lQ,Option.isSome_none] at h0 ⊢
  have hE:(fF (⟨[],[],[]⟩:aR).enc n).map C.d=[.d (.s []),.d (.ol n []),.d (.ol (n+1) [])]:=by simp[aR.enc,fF,jo,oD,gQ,eU]
  rw[hE];refine bg.less (r:=.eu [(true,[.d (.s []),.bI [],.bI []]),(false,[.d (.i .i64 0)]),(false,[.d (.b false)])]) (fun S=> ?_) (Cw fun w σ S β vs hc=>Mf (cs:=[.d (.s []),.bI [],.bI []]) rfl (fun j x y hx hy v hv=> ?_) hc)
  ·refine zcx [.cell 4 59,.tmp 5,.tmp 6] func24 ntmps24 ?_;simp -implicitDefEqProofs (disch:=omega) only[go_sem];refine aB h0 ?_;simp -implicitDefEqProofs (disch:=omega) only[go_sem]
  ·match j,hx,hy with
   |0,hx,hy=>cases hx;cases hy;exact hv
   |1,hx,hy=>cases hx;cases hy;exact Cx _ hv
   |2,hx,hy=>cases hx;cases hy;exact Cx _ hv
   |j+3,hx,hy=>simp at hx
 |some p=>
  intro S;obtain⟨t,j⟩:=p
  have e:zu w name=t:=by unfold zu;rw[hq]
  rw[e] at hd ⊢;rw[hq] at h0;have h1:=RF t n (by omega);obtain⟨row,hrow⟩:∃row,row=fF t.enc n:=⟨_,rfl⟩
  have hE:∃a b c,row=[a,b,c]:=by
   rw[hrow,aR.aj];exact⟨_,_,_,rfl⟩
  rw[<-hrow] at h1 ⊢;obtain⟨a,b,c,rfl⟩:=hE;clear hrow;simp only[Jf,lQ,Option.isSome_some,aR.aj,List.map_cons,List.map_nil] at h0 h1 ⊢;refine zcx [.cell 4 59,.tmp 5,.tmp 6] func24 ntmps24 ?_;simp -implicitDefEqProofs (disch:=omega) only[go_sem];refine aB h0 ?_;simp -implicitDefEqProofs (disch:=omega) only[go_sem];refine aB h1 ?_;simp -implicitDefEqProofs (disch:=omega) only[go_sem]
theorem Pq(w:bG)(name:List UInt8)(hsz:w.sz<=4194304):bg prog 24 [w.v,.c (.d (.s name))] (.eu [(true,(zu w name).enc.map .d),(false,[.d (.i .i64 (lQ (j5 w name)))]),(false,[.d (.b (j5 w name).isSome)])]):=
 bg.less (Nv w name hsz 0) (Cw fun w σ S β vs h=>Od h)
noncomputable def SS:List (List UInt8):=[[115,104,111,119],[111,114,100],[115,101,110,100],[122,122]]
noncomputable def SV:List (List UInt8):=[[99,111,110,115],[110,111,110,101],[112,97,105,114],[122,122]]
end Go.Ab
namespace Go.Proofs.YtfhpfkaeldgcmaaGreat.fnFind
open Go Go.Ab
theorem ae2{bs:List Int}(hB:Bytes bs):bg prog 20 [.c (.d (.sl (bs.map zy)))]
 (.eu [(true,[.d (.sl ((nL (tu bs)).1.aQ.map aM.enc))]),(false,[.d (.s (bQ SS (nL (tu bs)).2).1)])]):=fun S=>by
 have q1:=fun(l j:Nat) (S:Store) (hk:bA S (l,j)=some (.box (cur (tu bs))))=>Jc hB (tu bs) l j S hk;obtain⟨w,hw⟩:∃w,w=(nL (tu bs)).1:=⟨_,rfl⟩;obtain⟨c1,hc1⟩:∃c1,c1=(nL (tu bs)).2:=⟨_,rfl⟩;rw[<-hw,<-hc1] at q1 ⊢;have q2:=fun(l j:Nat) (S:Store) (hk:bA S (l,j)=some (.box (cur c1)))=>dQ hB c1 l j S SS hk (by decide) (by decide);obtain⟨s,hs⟩:∃s,s=(bQ SS c1).1:=⟨_,rfl⟩;obtain⟨c2,hc2⟩:∃c2,c2=(bQ SS c1).2:=⟨_,rfl⟩;rw[<-hs,<-hc2] at q2;rw[<-hs];refine zcx [.cell 2 26,.tmp 3] func20 ntmps20 ?_;simp -implicitDefEqProofs (disch:=omega) only[go_sem];refine bE rfl (Rk hB _ _) ?_;simp -implicitDefEqProofs (disch:=omega) only[go_sem];refine bE rfl (q1 0 1 _ rfl) ?_;simp -implicitDefEqProofs (disch:=omega) only[go_sem];refine bZ [true] rfl (q2 0 1 _ rfl) ?_;simp -implicitDefEqProofs (disch:=omega) only[go_sem]
 (repeat(with_reducible refine And.intro ?_ ?_;focus first|omega|rfl|assumption|exact⟨_,rfl,rfl⟩|(simp;omega)|(simp;done)))
 first|done|rfl
theorem ae3{bs:List Int}(hB:Bytes bs):bg prog 23 [.c (.d (.sl (bs.map zy)))]
 (.eu [(true,[.d (.sl ((nL (tu bs)).1.aQ.map aM.enc))]),(false,[.d (.s (bQ SV (nL (tu bs)).2).1)])]):=fun S=>by
 have q1:=fun(l j:Nat) (S:Store) (hk:bA S (l,j)=some (.box (cur (tu bs))))=>Jc hB (tu bs) l j S hk;obtain⟨w,hw⟩:∃w,w=(nL (tu bs)).1:=⟨_,rfl⟩;obtain⟨c1,hc1⟩:∃c1,c1=(nL (tu bs)).2:=⟨_,rfl⟩;rw[<-hw,<-hc1] at q1 ⊢;have q2:=fun(l j:Nat) (S:Store) (hk:bA S (l,j)=some (.box (cur c1)))=>dQ hB c1 l j S SV hk (by decide) (by decide);obtain⟨s,hs⟩:∃s,s=(bQ SV c1).1:=⟨_,rfl⟩;obtain⟨c2,hc2⟩:∃c2,c2=(bQ SV c1).2:=⟨_,rfl⟩;rw[<-hs,<-hc2] at q2;rw[<-hs];refine zcx [.cell 2 26,.tmp 3] func23 ntmps23 ?_;simp -implicitDefEqProofs (disch:=omega) only[go_sem];refine bE rfl (Rk hB _ _) ?_;simp -implicitDefEqProofs (disch:=omega) only[go_sem];refine bE rfl (q1 0 1 _ rfl) ?_;simp -implicitDefEqProofs (disch:=omega) only[go_sem];refine bZ [true] rfl (q2 0 1 _ rfl) ?_;simp -implicitDefEqProofs (disch:=omega) only[go_sem]
 (repeat(with_reducible refine And.intro ?_ ?_;focus first|omega|rfl|assumption|exact⟨_,rfl,rfl⟩|(simp;omega)|(simp;done)))
 first|done|rfl
theorem law(x0:List Int)(b0:∀x∈x0,0<=x/\x<=255):cB prog 5 [.c (.d (.sl (x0.map zy)))] [] (fun r _=>r=.c (.d (.b true))):=by
 refine Gq (rs:=[.tmp 2]) zmx func5 ntmps5 rfl rfl rfl rfl rfl ?_;simp -implicitDefEqProofs (disch:=omega) only[go_sem];refine aB (aik x0) ?_;simp -implicitDefEqProofs (disch:=omega) only[go_sem]
 with_reducible refine aD (fun hb=> ?_) (fun hb=> ?_)<;>have h:=hb<;>(try simp only[wf_preprocess] at h)<;>simp -implicitDefEqProofs (disch:=omega) only[go_sem,hb]<;>(repeat(with_reducible refine And.intro ?_ ?_;focus first|omega|rfl|assumption|exact⟨_,rfl,rfl⟩|(simp;omega)|(simp;done)))
 have hBs:Bytes x0:=⟨by omega,b0⟩;have p1:=ae2 hBs;have p2:=ae3 hBs;have hws:=abC (tu x0);obtain⟨w,hw⟩:∃w,w=(nL (tu x0)).1:=⟨_,rfl⟩;obtain⟨s,hs⟩:∃s,s=(bQ SS (nL (tu x0)).2).1:=⟨_,rfl⟩;obtain⟨c,hc⟩:∃c,c=(bQ SV (nL (tu x0)).2).1:=⟨_,rfl⟩;rw[<-hw,<-hs] at p1;rw[<-hw,<-hc] at p2;rw[<-hw] at hws;clear hw hs hc;have hb0:=bG.bounds (show w.sz<=4194304 by omega);have e1:=Pn w s (by omega);have e2:=Po w s (by omega);have e3:=Pq w c (by omega);have e4:=Pp w c (by omega);have e5:=GZ w (by omega);have e6:=GY w (by omega);have n1:=ae1 (w:=w) (name:=s);obtain⟨t,ht⟩:∃t,t=zP w s:=⟨_,rfl⟩;obtain⟨B,hB⟩:∃B,B=(iD w s).isSome:=⟨_,rfl⟩;obtain⟨I,hI⟩:∃I,I=lQ (iD w s):=⟨_,rfl⟩;rw[<-ht,<-hB,<-hI] at e1 e2;rw[<-ht,<-hB] at n1;clear ht hB hI
 have n2:(j5 w c).isSome=true->∃k:Nat,lQ (j5 w c)=(k:Int)/\∃h:k<(zu w c).aF.length,(zu w c).aF[k].fName=c:=by
  intro h;unfold zu
  cases hq:j5 w c with
  |none=>rw[hq] at h;cases h
  |some x=>obtain⟨d,k⟩:=x;exact⟨k,rfl,Ml hq⟩
 have hd:=SQ (w:=w) (name:=c);obtain⟨d,hd'⟩:∃d,d=zu w c:=⟨_,rfl⟩;obtain⟨B2,hB2⟩:∃B2,B2=(j5 w c).isSome:=⟨_,rfl⟩;obtain⟨I2,hI2⟩:∃I2,I2=lQ (j5 w c):=⟨_,rfl⟩;rw[<-hd',<-hB2,<-hI2] at e3 e4;rw[<-hd',<-hB2,<-hI2] at n2;rw[<-hd'] at hd;clear hd' hB2 hI2;obtain⟨U,hU⟩:∃U,U=jV w.aQ:=⟨_,rfl⟩;rw[<-hU] at e5 e6;clear hU
 have hdl:d.aF.length<=4194304:=by
  simp only[aR.sz,aR.aj,bD,aY,D.sz,List.length_map] at hd;omega
 simp only[bF.aj,aR.aj,List.map_cons,List.map_nil] at e1 e2 e3 e4;refine aB p1 ?_;simp -implicitDefEqProofs (disch:=omega) only[go_sem];refine aB e1 ?_;simp -implicitDefEqProofs (disch:=omega) only[go_sem];refine aB e2 ?_;have step:∀b:Bool,B=b->b=true->decide (t.fName=s)=true:=fun b h1 h2=>decide_eq_true (n1 (h1.trans h2))
 cases B with
 |false=>
  simp -implicitDefEqProofs (disch:=omega) only[go_sem,decide_true,Bool.not_true,Bool.not_false];refine aB p2 ?_;simp -implicitDefEqProofs (disch:=omega) only[go_sem];refine aB e3 ?_;simp -implicitDefEqProofs (disch:=omega) only[go_sem];refine aB e4 ?_
  cases B2 with
  |false=>
   simp -implicitDefEqProofs (disch:=omega) only[go_sem,Bool.not_false];refine aB e5 ?_
   cases U with
   |false=>
    simp -implicitDefEqProofs (disch:=omega) only[go_sem,Bool.not_true,Bool.not_false]
    first|done|rfl
   |true=>
    simp -implicitDefEqProofs (disch:=omega) only[go_sem,Bool.not_true,Bool.not_false];refine aB e6 ?_;simp -implicitDefEqProofs (disch:=omega) only[go_sem]
    first|done|rfl
  |true=>
   obtain⟨k,rfl,hk,hkn⟩:=n2 rfl;have d2:decide ((k:Int)<(d.aF.length:Int))=true:=decide_eq_true (by omega);have d3:decide (d.aF[k].fName=c)=true:=decide_eq_true hkn;simp -implicitDefEqProofs (disch:=omega) only[go_sem,d2,d3,Bool.not_true]
   (repeat(with_reducible refine And.intro ?_ ?_;focus first|omega|rfl|assumption|exact⟨_,rfl,rfl⟩|(simp;omega)|(simp;done)))
   refine aB e5 ?_
   cases U with
   |false=>
    simp -implicitDefEqProofs (disch:=omega) only[go_sem,Bool.not_true,Bool.not_false]
    first|done|rfl
   |true=>
    simp -implicitDefEqProofs (disch:=omega) only[go_sem,Bool.not_true,Bool.not_false];refine aB e6 ?_;simp -implicitDefEqProofs (disch:=omega) only[go_sem]
    first|done|rfl
 |true=>
  have d1:=step true rfl rfl;simp -implicitDefEqProofs (disch:=omega) only[go_sem,decide_true,d1,Bool.not_true,Bool.not_false];refine aB p2 ?_;simp -implicitDefEqProofs (disch:=omega) only[go_sem];refine aB e3 ?_;simp -implicitDefEqProofs (disch:=omega) only[go_sem];refine aB e4 ?_
  cases B2 with
  |false=>
   simp -implicitDefEqProofs (disch:=omega) only[go_sem,Bool.not_false];refine aB e5 ?_
   cases U with
   |false=>
    simp -implicitDefEqProofs (disch:=omega) only[go_sem,Bool.not_true,Bool.not_false]
    first|done|rfl
   |true=>
    simp -implicitDefEqProofs (disch:=omega) only[go_sem,Bool.not_true,Bool.not_false];refine aB e6 ?_;simp -implicitDefEqProofs (disch:=omega) only[go_sem]
    first|done|rfl
  |true=>
   obtain⟨k,rfl,hk,hkn⟩:=n2 rfl;have d2:decide ((k:Int)<(d.aF.length:Int))=true:=decide_eq_true (by omega);have d3:decide (d.aF[k].fName=c)=true:=decide_eq_true hkn;simp -implicitDefEqProofs (disch:=omega) only[go_sem,d2,d3,Bool.not_true]
   (repeat(with_reducible refine And.intro ?_ ?_;focus first|omega|rfl|assumption|exact⟨_,rfl,rfl⟩|(simp;omega)|(simp;done)))
   refine aB e5 ?_
   cases U with
   |false=>
    simp -implicitDefEqProofs (disch:=omega) only[go_sem,Bool.not_true,Bool.not_false]
    first|done|rfl
   |true=>
    simp -implicitDefEqProofs (disch:=omega) only[go_sem,Bool.not_true,Bool.not_false];refine aB e6 ?_;simp -implicitDefEqProofs (disch:=omega) only[go_sem]
    first|done|rfl
end Go.Proofs.YtfhpfkaeldgcmaaGreat.fnFind
namespace Go.Ab
theorem abH{P:Program}{n:Nat}{t:TypeId}{ds:List D}(h:WT P n t ds):∃m,n=m+1:=by
 cases n with
 |zero=>exact h.elim
 |succ m=>exact⟨m,rfl⟩
theorem ajl{P:Program}{n:Nat}{t:TypeId}{k:IntKind}{ds:List D}(ht:P.underlying t=some (.int k))(h:WT P n t ds):∃x,ds=[.i k x]/\(Lit.int k x).wf=true:=by
 obtain⟨m,rfl⟩:=abH h;simp only[WT,ht] at h;exact h
theorem ae4{P:Program}{n:Nat}{t e:TypeId}{ds:List D}(ht:P.underlying t=some (.slice e))(h:WT P n t ds):∃es m,m<n/\ds=[.sl es]/\∀x∈es,WT P m e x:=by
 obtain⟨m,rfl⟩:=abH h;simp only[WT,ht] at h;obtain⟨es,h1,_,h2⟩:=h;exact⟨es,m,by omega,h1,fun x hx=>(h2 x hx).2⟩
theorem VD{P:Program}{W:TypeId->List D->Prop}(hW:∀t ds,W t ds->AY ds):∀(fs:List Field)(ds:List D),WTF P W fs ds->AY ds
 |[],ds,h=>by
  have h:ds=[]:=h;rw[h];exact AZ
 |f::fs,ds,h=>by
  obtain⟨a,b,rfl,_,h1,h2⟩:=h;exact TS.2 ⟨hW _ _ h1,VD hW fs b h2⟩
theorem SX{P:Program}:∀(n:Nat)(t:TypeId)(ds:List D),WT P n t ds->AY ds
 |0,t,ds,h=>h.elim
 |n+1,t,ds,h=>by
  simp only[WT] at h;split at h
  ·obtain⟨b,rfl⟩:=h;exact BP.2 ⟨.b _,AZ⟩
  ·obtain⟨b,rfl,_⟩:=h;exact BP.2 ⟨.i _ _,AZ⟩
  ·obtain⟨l,rfl,hl⟩:=h;exact BP.2 ⟨.s _ hl,AZ⟩
  ·obtain⟨es,rfl,hl,hh⟩:=h;exact BP.2 ⟨.sl _ hl fun e he d hd=>SX n _ e (hh e he).2 d hd,AZ⟩
  ·exact VD (SX n) _ _ h
  ·exact h.elim
end Go.Ab