/-
  SEVERAL TEXTS IN ONE (merged by program): contracts and models, each with its own heading.
-/
import Derived.Test.YtfhpfkaeldgcmaaGreatPartHebM
import Derived.Test.YtfhpfkaeldgcmaaGreatPartHeba
import Derived.Test.YtfhpfkaeldgcmaaGreatPartHebb
import Derived.Test.YtfhpfkaeldgcmaaGreatPartHebc
import Derived.Test.YtfhpfkaeldgcmaaGreatPartHebd
import Derived.Lib.FrozenHead2
import Derived.Lib.OthersKept
import Derived.Lib.AppendStr
import Derived.Lib.UnsafeStr
import Derived.Lib.Builder
import Derived.Deep.LoopGhost
import Derived.Deep.AppendLies
import Derived.Laws.ResultCell
import Derived.Deep.RegionHeld3
import Derived.Deep.RegionLaw
import Derived.Lib.SplitLaws
import Derived.Lib.TrimByte
import Derived.Shelf.Strings.Split
import Derived.Shelf.Strings.Trim
set_option maxHeartbeats 8000000
open Go.Proofs Go.Proofs.Tryz
set_option linter.unusedSimpArgs false
set_option linter.unusedVariables false
set_option maxRecDepth 100000
set_option maxRecDepth 4000
set_option maxRecDepth 8000
namespace Go.Ab
open Go.RowKit
def P5(by':List UInt8):List (List UInt8)->List UInt8
 |[]=>[]
 |x::xs=>x++(xs.map fun y=>by'++y).flatten
mutual
def YP:au->List UInt8
 | .mk a l=>if a=[] then [40]++P5 [32] (Ec l)++[41] else a
def Ec:List au->List (List UInt8)
 |[]=>[]
 |x::xs=>YP x::Ec xs
end
theorem abK(b:List UInt8):∀l:List (List UInt8),(P5 b l).length<=(l.map fun x=>b.length+x.length).sum
 |[]=>by simp[P5]
 |x::xs=>by
  have h:∀ys:List (List UInt8),((ys.map fun y=>b++y).flatten).length=(ys.map fun x=>b.length+x.length).sum:=by
   intro ys
   induction ys with
   |nil=>rfl
   |cons y ys ih=>rw[List.map_cons,List.flatten_cons,List.length_append,List.length_append,ih,List.map_cons,List.sum_cons]
  rw[P5,List.length_append,h,List.map_cons,List.sum_cons];omega
mutual
theorem abM:∀x:au,(YP x).length<=2+3*x.sz
 | .mk a l=>by
   have h:=Mr l;rw[iV,jV];simp only[au.bH,au.aA];rw[YP];split
   ·have:=abK [32] (Ec l);simp only[List.length_append,List.length_cons,List.length_nil] at this ⊢;omega
   ·omega
theorem Mr:∀l:List au,((Ec l).map fun x=>0+1+x.length).sum<=3*l.length+3*dH l
 |[]=>by simp[Ec]
 |x::xs=>by
  have h1:=abM x;have h2:=Mr xs;rw[Ec,List.map_cons,List.sum_cons,dH,List.length_cons];omega
end
structure Kk(w:World)(σ:Nat->Nat)(B:Nat)(e:TypeId)(v:Value)(l:List au):Prop where
 own:∃xs,w.ownsRow B e 2 v l.length xs/\∀(i:Nat)(d:D),(l.map au.enc).flatten[i]? =some d->∃u,xs[i]? =some u/\dM w σ d u
 free:∀b,v.ownBlock=some b->σ b=0
theorem OW{w w':World}{B:Nat}{e:TypeId}{z n:Nat}{v:Value}{xs:List Value}(h:w.ownsRow B e z v n xs)(hk:∀b,v.ownBlock=some b->w'.heap[b]? =w.heap[b]?):w'.ownsRow B e z v n xs:=by
 refine⟨h.1,?_⟩;rcases h.2 with hn|⟨g,cap,cur,rfl,hb,hg,rest⟩
 ·exact .inl hn
 ·exact .inr ⟨g,cap,cur,rfl,hb,(hk g rfl).trans hg,rest⟩
theorem Kk.mono{w w':World}{σ σ':Nat->Nat}{B:Nat}{e:TypeId}{v:Value}{l:List au}(h:Kk w σ B e v l)(hn:fq w σ w' σ')(hk:∀b,v.ownBlock=some b->w'.heap[b]? =w.heap[b]? /\σ' b=σ b):Kk w' σ' B e v l:=by
 obtain⟨⟨xs,h1,h2⟩,h3⟩:=h;refine⟨⟨xs,OW h1 fun b hb=>(hk b hb).1,fun i d hd=> ?_⟩,fun b hb=>(hk b hb).2.trans (h3 b hb)⟩;obtain⟨u,hu,hr⟩:=h2 i d hd;exact⟨u,hu,hr.mono hn⟩
theorem SS(l:List au):∀e∈l.map au.enc,e.length=2:=by
 intro e he;obtain⟨x,_,rfl⟩:=List.mem_map.1 he;rw[au.aj];rfl
theorem Kk.fast{w:World}{σ:Nat->Nat}{B:Nat}{e:TypeId}{v:Value}{l:List au}(h:Kk w σ B e v l)(hl:∀b,b<w.heap.size\/σ b=0):
 ∃σ',fq w σ w σ'/\(∀b,v.ownBlock≠some b->σ' b=σ b)/\(∀b,b<w.heap.size\/σ' b=0)/\dM w σ' (.sl (l.map au.enc)) v:=by
 obtain⟨⟨xs,⟨h1,h2⟩,h3⟩,h4⟩:=h;rcases h2 with⟨rfl,h0⟩|⟨g,cap,cur,rfl,hb,hg,hn,hm,hs,ht⟩
 ·obtain rfl:l=[]:=List.eq_nil_of_length_eq_zero h0;exact⟨σ,fq.refl _ _,fun _ _=>rfl,hl,.nil _ _⟩
 have hn':fq w σ w (fun b=>if b=g then 0+(l.map au.enc).length*2 else σ b):=by
  intro b1 c1 t1 F3 e1;by_cases q:b1=g
  ·subst q;have:=h4 b1 rfl;rw[hg] at e1;cases e1;exact⟨by simp only[if_true];omega,fun h=>by omega,cur,hg,rfl,fun _ _=>rfl⟩
  ·exact⟨by simp only[if_neg q];exact Nat.le_refl _,fun _=>if_neg q,c1,e1,rfl,fun _ _=>rfl⟩
 refine⟨_,hn',fun b hb=>if_neg fun q=>hb (by rw[q];rfl),fun b=> ?_,?_⟩
 ·by_cases q:b=g
  ·left;rw[q];exact lt_of_some hg
  ·simp only[if_neg q];exact hl b
 ·have hlen:(l.map au.enc).length=l.length:=by simp
  have hfl:=jI _ 2 (SS l)
  have:=dM.sl (w:=w) (σ:=fun b=>if b=g then 0+(l.map au.enc).length*2 else σ b) g 0 cap 2 (l.map au.enc) (fun i=>(cur[i]?).getD undef) cur e (0,0) (by omega) (SS l) hg (by simp) (fun i hi=>by
   have:i<cur.size:=by rw[hlen] at hi;have:l.length*2<=cap*2:=Nat.mul_le_mul_right _ hn;omega
   simp[this]) (fun i d hd=>by
   obtain⟨u,hu,hr⟩:=h3 i d hd;have hil:=(List.getElem?_eq_some_iff.1 hd).1;rw[<-ht,List.getElem?_take_of_lt (by omega),Array.getElem?_toList] at hu;simp only[hu,Option.getD_some]
   exact hr.mono hn')
  simp only[List.length_map] at this ⊢;exact this
structure yH(w:World)(σ:Nat->Nat)(B:Nat)(eo e:TypeId)(ov:Value)(hs:List Value)(rs:List (List au)):Prop where
 own:w.ownsRow B eo 1 ov hs.length hs
 free:∀b,ov.ownBlock=some b->σ b=0
 rows:∀(j:Nat)(l:List au),rs[j]? =some l->∃hv,hs[j]? =some hv/\Kk w σ B e hv l/\∀b,hv.ownBlock=some b->ov.ownBlock≠some b
 apart:∀(i j:Nat)(hi hj:Value)(b:Nat),i≠j->i<rs.length->j<rs.length->hs[i]? =some hi->hs[j]? =some hj->hi.ownBlock=some b->hj.ownBlock≠some b
theorem yH.mono{w w':World}{σ σ':Nat->Nat}{B:Nat}{eo e:TypeId}{ov:Value}{hs:List Value}{rs:List (List au)}(h:yH w σ B eo e ov hs rs)(hn:fq w σ w' σ')
 (hk:∀b,b<w.heap.size->σ b=0->w'.heap[b]? =w.heap[b]? /\σ' b=σ b):yH w' σ' B eo e ov hs rs:=by
 have hlt:∀b,ov.ownBlock=some b->b<w.heap.size:=fun b hb=>(h.own.lt b hb).2;refine⟨OW h.own fun b hb=>(hk b (hlt b hb) (h.free b hb)).1,fun b hb=>(hk b (hlt b hb) (h.free b hb)).2.trans (h.free b hb),fun j l hj=> ?_,h.apart⟩;obtain⟨hv,h1,h2,h3⟩:=h.rows j l hj;refine⟨hv,h1,h2.mono hn fun b hb=> ?_,h3⟩;obtain⟨xs,ho,_⟩:=h2.own;exact hk b (ho.lt b hb).2 (h2.free b hb)
theorem yH.grow{w w':World}{σ σ':Nat->Nat}{B:Nat}{eo e:TypeId}{ov:Value}{hs:List Value}{rs:List (List au)}(h:yH w σ B eo e ov hs rs)(hg:Grow w σ w' σ'):yH w' σ' B eo e ov hs rs:=
 h.mono hg.near fun b hb _=>hg.old b hb
theorem yH.fast{w:World}{σ:Nat->Nat}{B:Nat}{eo e:TypeId}{ov:Value}{hs:List Value}{rs:List (List au)}{l:List au}(h:yH w σ B eo e ov hs (rs++[l]))(hl:∀b,b<w.heap.size\/σ b=0):
 ∃σ' hv,fq w σ w σ'/\(∀b,b<w.heap.size\/σ' b=0)/\(∀b,b<B->σ' b=σ b)/\hs[rs.length]? =some hv/\dM w σ' (.sl (l.map au.enc)) hv/\yH w σ' B eo e ov hs rs:=by
 obtain⟨hv,h1,h2,h3⟩:=h.rows rs.length l (by simp);obtain⟨σ',k1,k2,k3,k4⟩:=h2.fast hl;refine⟨σ',hv,k1,k3,fun b hb=>k2 b fun q=> ?_,h1,k4,h.own,fun b hb=>(k2 b fun q=>h3 b q hb).trans (h.free b hb),fun j l' hj=> ?_,fun i j hi hj b q1 q2 q3=>h.apart i j hi hj b q1 (by simp;omega) (by simp;omega)⟩
 ·obtain⟨xs,ho,_⟩:=h2.own;have:=(ho.lt b q).1;omega
 ·have hjl:=(List.getElem?_eq_some_iff.1 hj).1;obtain⟨hv',g1,g2,g3⟩:=h.rows j l' (by rw[List.getElem?_append_left hjl];exact hj);exact⟨hv',g1,g2.mono k1 fun b hb=>⟨rfl,k2 b fun q=>h.apart j rs.length hv' hv b (by omega) (by simp;omega) (by simp) g1 h1 hb q⟩,g3⟩
def CJ(w W:World):Prop:=∀(b:Nat)(c:Array Value)(t:TypeId)(fz:Nat×Nat),w.heap[b]? =some (.cells c t fz)->∃c',W.heap[b]? =some (.cells c' t fz)/\c'.size=c.size
theorem CJ.refl(w:World):CJ w w:=fun b c t fz h=>⟨c,h,rfl⟩
theorem CJ.trans{a b c:World}(h:CJ a b)(k:CJ b c):CJ a c:=fun x y t fz e=>by
 obtain⟨c1,e1,s1⟩:=h x y t fz e;obtain⟨c2,e2,s2⟩:=k x c1 t fz e1;exact⟨c2,e2,s2.trans s1⟩
theorem CJ.alloc(w:World)(o:Go.Obj):CJ w (w.alloc o):=fun b c t fz e=>⟨c,(Lib.alloc_old w o b (lt_of_some e)).trans e,rfl⟩
theorem yH.put{w W:World}{σ:Nat->Nat}{B g cap j:Nat}{eo e:TypeId}{hs:List Value}{rs:List (List au)}{l':List au}{hv hv':Value}{cur:Array Value}(hl:∀b,b<w.heap.size\/σ b=0)
 (h:yH w σ B eo e (.slice (some ⟨g,0,none⟩) hs.length cap) hs rs)(hj:j<rs.length)(hh:hs[j]? =some hv)(hn:fq w σ W σ)(hg:w.heap[g]? =some (.cells cur eo (0,0)))(hG:W.heap[g]? =some (.cells (cur.setIfInBounds j hv') eo (0,0)))
 (wO:∀b,b<w.heap.size->b≠g->hv.ownBlock≠some b->W.heap[b]? =w.heap[b]?)(hrow:Kk W σ B e hv' l')(hblk:∀b,hv'.ownBlock=some b->hv.ownBlock=some b\/w.heap.size<=b):
 yH W σ B eo e (.slice (some ⟨g,0,none⟩) hs.length cap) (hs.set j hv') (rs.set j l'):=by
 have hgl:=lt_of_some hg;have hg0:σ g=0:=h.free g rfl;obtain⟨l,hlj⟩:∃l,rs[j]? =some l:=⟨_,List.getElem?_eq_getElem hj⟩;obtain⟨hv0,a1,a2,a3⟩:=h.rows j l hlj;rw[hh] at a1;cases a1;have hhl:=(List.getElem?_eq_some_iff.1 hh).1
 have low:∀(i:Nat)(l0:List au)(hv0:Value),rs[i]? =some l0->hs[i]? =some hv0->∀b,hv0.ownBlock=some b->b<w.heap.size:=fun i l0 hv0 e1 e2 b hb=>by
  obtain⟨hv1,c1,c2,_⟩:=h.rows i l0 e1;rw[e2] at c1;cases c1;obtain⟨xs,ho,_⟩:=c2.own;exact(ho.lt b hb).2
 refine⟨?_,h.free,fun i l0 hi=> ?_,fun i k hi hk b hne h1 h2 e1 e2 e3=> ?_⟩
 ·rw[List.length_set];obtain⟨o1,o2⟩:=h.own;refine⟨by rw[List.length_set];exact o1,?_⟩;rcases o2 with⟨o2,_⟩|⟨g0,cap0,aow,e0,hb0,hg0',hn0,hm0,hs0,ht0⟩
  ·cases o2
  ·cases e0;rw[hg] at hg0';cases hg0';refine .inr ⟨g,cap,_,rfl,hb0,hG,hn0,hm0,by simpa using hs0,?_⟩;rw[Nat.mul_one] at ht0 ⊢;rw[Array.toList_setIfInBounds,List.take_set,ht0]
 ·by_cases q:i=j
  ·subst q
   have:l'=l0:=by
    rw[List.getElem?_set_self hj] at hi;exact Option.some.inj hi
   subst this;refine⟨hv',List.getElem?_set_self hhl,hrow,fun b hb q=> ?_⟩;cases q;rcases hblk g hb with k|k
   ·exact a3 g k rfl
   ·omega
  ·rw[List.getElem?_set_ne (Ne.symm q)] at hi ⊢;obtain⟨hv1,c1,c2,c3⟩:=h.rows i l0 hi;refine⟨hv1,c1,c2.mono hn fun b hb=>⟨wO b (low i l0 hv1 hi c1 b hb) (fun e=>c3 b hb (by rw[e];rfl)) fun e=> ?_,rfl⟩,c3⟩;exact h.apart i j hv1 hv b q (List.getElem?_eq_some_iff.1 hi).1 hj c1 hh hb e
 ·rw[List.length_set] at h1 h2;by_cases q:i=j
  ·subst q;rw[List.getElem?_set_self hhl] at e1;cases e1;rw[List.getElem?_set_ne hne] at e2;intro q3;rcases hblk b e3 with k'|k'
   ·exact h.apart i k hv hk b hne h1 h2 hh e2 k' q3
   ·have:=low k _ hk (List.getElem?_eq_getElem h2) e2 b q3;omega
  ·rw[List.getElem?_set_ne (Ne.symm q)] at e1;by_cases q2:k=j
   ·subst q2;rw[List.getElem?_set_self hhl] at e2;cases e2;intro q3;rcases hblk b q3 with k'|k'
    ·exact h.apart i k hi hv b hne h1 h2 e1 hh e3 k'
    ·have:=low i _ hi (List.getElem?_eq_getElem h1) e1 b e3;omega
   ·rw[List.getElem?_set_ne (Ne.symm q2)] at e2;exact h.apart i k hi hk b hne h1 h2 e1 e2 e3
def ajq(l:List UInt8)(rows:List (List au))(c:Nat):Option (List (List au)):=runT (lex l) rows c
def szR:List (List au)->Nat
 |[]=>0
 |l::r=>l.length+dH l+szR r
structure aok(s:List UInt8)(B R:Nat)(w0:World)(σ0:Nat->Nat)(T eo e:TypeId)(k:Nat)(v4 v5 v6:Value)(w:World):Prop where
 ex:∃(rows:List (List au)) (σ:Nat->Nat) (i c g cap:Nat) (hs:List Value),v4=.slice (some ⟨g,0,none⟩) rows.length cap/\v5=.int .i64 c/\v6=.int .i64 i/\
  hs.length=rows.length/\1<=rows.length/\rows.length<=15/\c<=1800/\i+k=s.length/\ajq (s.drop i) rows c=ajq s [[]] 0/\
  yH w σ B eo e v4 hs rows.reverse/\Grow w0 σ0 w σ/\AQ w σ/\(∀l∈rows,l.length<=c)/\szR rows<=2*i/\σ R=0/\w.heap[R]? =some (.cells #[.string ⟨#[]⟩,.slice none 0 0] T (0,0))
theorem YQ{s:List UInt8}(h:l8 s=false):ku s=dh:=by
 unfold ku;rw[dif_neg (j6 h)]
theorem afh(s:List UInt8):(ku s).sz<=1048576:=by
 cases h:l8 s with
 |true=>have:=Cn (Ut h);omega
 |false=>rw[YQ h,E5];omega
def j5(p:aK):List (List UInt8):=p.dJ.map bD.fName
def nk(p:aK):List (List UInt8):=p.bI.map bg.fName
def lN(ds:List bg):List (List UInt8):=ds.flatMap fun d=>d.aZ.map aN.fName
def fnNames(p:aK):List (List UInt8):=p.dK.map bF.fName
def YR(ps:List aK):List (List UInt8):=ps.flatMap j5
def YS(ps:List aK):List (List UInt8):=ps.flatMap nk
def YT(ps:List aK):List (List UInt8):=ps.flatMap fun p=>lN p.bI
def YU(ps:List aK):List (List UInt8):=ps.flatMap fnNames
noncomputable def Jw(ps:List aK):Bool:=dec (YR ps).Nodup&&(dec (YS ps).Nodup&&(dec (YT ps).Nodup&&dec (YU ps).Nodup))
theorem abN{α β:Type}(f:α->List β){xs:List α}{i:Nat}(hi:i<xs.length):(xs.take (i+1)).flatMap f=(xs.take i).flatMap f++f xs[i]:=by
 rw[List.take_succ_eq_append_getElem hi,List.flatMap_append]
 simp
theorem Jy{α β:Type}(f:α->List β)(g:α->List D)(h:∀x,(f x).length<=bG (g x)):∀xs:List α,(xs.flatMap f).length<=aQ (xs.map g)
 |[]=>by simp[aQ]
 |x::xs=>by
  have h1:=h x;have h2:=Jy f g h xs;rw[List.flatMap_cons,List.length_append,List.map_cons,aQ];omega
theorem alh(ds:List bg):(lN ds).length<=aQ (ds.map bg.enc):=Jy _ _ (fun d=>by
 rw[List.length_map];simp only[bg.aj,bG,bC,D.sz,List.length_map]
 omega) ds
theorem aK.bounds{x:aK}(h:x.sz<=4194304):x.fName.length<=4194304/\x.dP.length<=4194304/\x.dJ.length<=4194304/\x.bI.length<=4194304/\x.dX.length<=4194304/\x.dK.length<=4194304/\(lN x.bI).length<=4194304:=by
 have:=alh x.bI;simp only[aK.sz,aK.aj,bG,bC,D.sz,List.length_map] at h;omega
theorem aM.bounds{x:aM}(h:x.sz<=4194304):x.aG.length<=4194304:=by
 simp only[aM.sz,aM.aj,bG,bC,D.sz,List.length_map] at h;omega
def gB(w:aM)(name:List UInt8):Int:=pV (fun p:aK=>decide (p.fName=name)) w.aG
theorem xL(w:aM)(name:List UInt8)(hsz:w.sz<=4194304):aX prog 36 [w.v,.c (.d (.s name))] (.c (.d (.i .i64 (gB w name)))):=fun S=>by
 have hb0:=aM.bounds hsz;refine zcx [.tmp 4] func36 ntmps36 ?_;simp -implicitDefEqProofs (disch:=omega) only[go_sem]
 refine bN (ι:=Nat) zmx rfl [1,2,5] (fun i=>[.c (.d (.s name)),.c (.ptr (0,0) 0),.c (.d (.i .i64 i))]) (fun _=>[.box (w.enc.map .d)]::S)
  (fun i=>i<=w.aG.length/\∀j,∀hj:j<w.aG.length,j<i->(fun p:aK=>decide (p.fName=name)) w.aG[j]=false) (fun i=>w.aG.length-i) 0 rfl ?_ ⟨Nat.zero_le _,fun j _ h=>by omega⟩ ?_
 ·simp -implicitDefEqProofs (disch:=omega) only[go_sem]
 rintro i ⟨p1,p2⟩;simp -implicitDefEqProofs (disch:=omega) only[go_sem]
 with_reducible refine aC (fun hb=> ?_) (fun hb=> ?_)<;>have h:=hb<;>(try simp only[wf_preprocess] at h)<;>simp -implicitDefEqProofs (disch:=omega) only[go_sem,hb]<;>(repeat(with_reducible refine And.intro ?_ ?_;focus first|omega|rfl|assumption|exact⟨_,rfl,rfl⟩|(simp;omega)|(simp;done)))
 ·have hi:i<w.aG.length:=by omega
  (repeat(with_reducible refine And.intro ?_ ?_;focus first|omega|rfl|assumption|exact⟨_,rfl,rfl⟩|(simp;omega)|(simp;done)))
  with_reducible refine aC (fun hb=> ?_) (fun hb=> ?_)<;>have h:=hb<;>(try simp only[wf_preprocess] at h)<;>simp -implicitDefEqProofs (disch:=omega) only[go_sem,hb]<;>(repeat(with_reducible refine And.intro ?_ ?_;focus first|omega|rfl|assumption|exact⟨_,rfl,rfl⟩|(simp;omega)|(simp;done)))
  ·unfold gB;rw[sO (p:=fun p:aK=>decide (p.fName=name)) hi p2 hb]
  ·refine bT (i+1) (by omega) rfl rfl ⟨by omega,fun j hj hji=> ?_⟩;by_cases e:j=i
   ·subst e;exact hb
   ·exact p2 j hj (by omega)
 ·unfold gB;rw[vY (p:=fun p:aK=>decide (p.fName=name)) (fun j hj=>p2 j hj (by omega))]
theorem Nv(name:List UInt8)(cs:List C)(rest:List Ab.Obj)(S:Store)(p:aK):uJ prog 66 [((0,1),0)] ((.box cs:: .box [.d (.s name)]::rest)::S) [p.v] (.c (.d (.b (decide (p.fName=name))))):=fun F=>by
 refine zcx [.tmp 3] func66 ntmps66 ?_;simp -implicitDefEqProofs (disch:=omega) only[go_sem]
theorem Ms(w:aM)(name:List UInt8)(hsz:w.sz<=4194304):aX prog 34 [w.v,.c (.d (.s name))] (.c (.d (.i .i64 (gB w name)))):=fun S=>by
 have hb0:=aM.bounds hsz;refine zcx [.tmp 4] func34 ntmps34 ?_;simp -implicitDefEqProofs (disch:=omega) only[go_sem];refine aW rfl (FU 66 [((0,1),0)] _ w.aG (fun p=>decide (p.fName=name)) (by omega) fun p hp=>Nv name _ [] S p) ?_;simp -implicitDefEqProofs (disch:=omega) only[go_sem];rfl
theorem P6(xs:List (List UInt8))(x:List UInt8):xs.map encS++[[D.s x]]=(xs++[x]).map encS:=by simp[encS]
theorem UO(p:aK)(hsz:p.sz<=4194304):aX prog 56 [p.v] (.eD [(false,[.d (.sl ((j5 p).map encS))]),(false,[.d (.sl ((nk p).map encS))]),(false,[.d (.sl ((lN p.bI).map encS))]),(false,[.d (.sl ((fnNames p).map encS))])]):=fun S=>by
 have hb0:=aK.bounds hsz;refine zcx [.tmp 2,.tmp 3,.tmp 4,.tmp 5] func56 ntmps56 ?_;simp -implicitDefEqProofs (disch:=omega) only[go_sem]
 (repeat(with_reducible refine And.intro ?_ ?_;focus first|omega|rfl|assumption|exact⟨_,rfl,rfl⟩|(simp;omega)|(simp;done)))
 refine kN 6 1 [] rfl (by simp) ?_;refine kN 7 1 [] rfl (by simp) ?_;refine kN 8 1 [] rfl (by simp) ?_;refine kN 9 1 [] rfl (by simp) ?_
 refine bN (ι:=Nat×List (List UInt8)) zmx rfl [1,6,7,8,9,10] (fun y=>[.c (.ptr (0,0) 0),.c (.bV (0,1) (y.2.map encS)),.c (.bV (0,2) []),.c (.bV (0,3) []),.c (.bV (0,4) []),.c (.d (.i .i64 y.1))]) (fun y=>[.box (p.enc.map .d),.tok 1 (y.2.map encS),.tok 1 [],.tok 1 [],.tok 1 []]::S)
  (fun y=>y.1<=p.dJ.length/\y.2=(j5 p).take y.1) (fun y=>p.dJ.length-y.1) (0,[]) rfl ?_ ⟨Nat.zero_le _,rfl⟩ ?_
 ·simp -implicitDefEqProofs (disch:=omega) only[go_sem]
 rintro⟨i,a⟩ ⟨p1,p2⟩;simp only at p1 p2
 have pl:a.length<=p.dJ.length:=by rw[p2];simp[j5];omega
 simp -implicitDefEqProofs (disch:=omega) only[go_sem]
 with_reducible refine aC (fun hb=> ?_) (fun hb=> ?_)<;>have h:=hb<;>(try simp only[wf_preprocess] at h)<;>simp -implicitDefEqProofs (disch:=omega) only[go_sem,hb]<;>(repeat(with_reducible refine And.intro ?_ ?_;focus first|omega|rfl|assumption|exact⟨_,rfl,rfl⟩|(simp;omega)|(simp;done)))
 ·have hi:i<p.dJ.length:=by omega
  (repeat(with_reducible refine And.intro ?_ ?_;focus first|omega|rfl|assumption|exact⟨_,rfl,rfl⟩|(simp;omega)|(simp;done)))
  rw[P6];exact bT (i+1,a++[p.dJ[i].fName]) (by simp only;omega) rfl rfl ⟨by simp only;omega,by simp only;rw[p2,nZ (by simpa [j5] using hi)];simp[j5]⟩
 have ha:a=j5 p:=by rw[p2,List.take_of_length_le (by simp[j5];omega)]
 clear p1 p2 pl hb h;subst ha
 refine bN (ι:=Nat×List (List UInt8)×List (List UInt8)) zmx rfl [1,6,7,8,9,11] (fun y=>[.c (.ptr (0,0) 0),.c (.bV (0,1) ((j5 p).map encS)),.c (.bV (0,2) (y.2.1.map encS)),.c (.bV (0,3) (y.2.2.map encS)),.c (.bV (0,4) []),.c (.d (.i .i64 y.1))]) (fun y=>[.box (p.enc.map .d),.tok 1 ((j5 p).map encS),.tok 1 (y.2.1.map encS),.tok 1 (y.2.2.map encS),.tok 1 []]::S)
  (fun y=>y.1<=p.bI.length/\y.2.1=(nk p).take y.1/\y.2.2=lN (p.bI.take y.1)) (fun y=>p.bI.length-y.1) (0,[],[]) rfl ?_ ⟨Nat.zero_le _,rfl,rfl⟩ ?_
 ·simp -implicitDefEqProofs (disch:=omega) only[go_sem]
 rintro⟨i,b,c⟩ ⟨p1,p2,p3⟩;simp only at p1 p2 p3
 have pl:b.length<=p.bI.length:=by rw[p2];simp[nk];omega
 simp -implicitDefEqProofs (disch:=omega) only[go_sem]
 with_reducible refine aC (fun hb=> ?_) (fun hb=> ?_)<;>have h:=hb<;>(try simp only[wf_preprocess] at h)<;>simp -implicitDefEqProofs (disch:=omega) only[go_sem,hb]<;>(repeat(with_reducible refine And.intro ?_ ?_;focus first|omega|rfl|assumption|exact⟨_,rfl,rfl⟩|(simp;omega)|(simp;done)))
 ·have hi:i<p.bI.length:=by omega
  have e3:lN (p.bI.take (i+1))=c++p.bI[i].aZ.map aN.fName:=by rw[p3];exact abN _ hi
  have hcl:(lN (p.bI.take (i+1))).length<=4194304:=by
   have h1:(lN (p.bI.take (i+1))).length<=(lN p.bI).length:=by
    conv=>rhs;rw[<-List.take_append_drop (i+1) p.bI]
    unfold lN;rw[List.flatMap_append,List.length_append];omega
   omega
  rw[e3,List.length_append,List.length_map] at hcl
  (repeat(with_reducible refine And.intro ?_ ?_;focus first|omega|rfl|assumption|exact⟨_,rfl,rfl⟩|(simp;omega)|(simp;done)))
  rw[P6]
  refine bN (ι:=Nat×List (List UInt8)) zmx rfl [1,6,7,8,9,11,12] (fun y=>[.c (.ptr (0,0) 0),.c (.bV (0,1) ((j5 p).map encS)),.c (.bV (0,2) ((b++[p.bI[i].fName]).map encS)),.c (.bV (0,3) (y.2.map encS)),.c (.bV (0,4) []),.c (.d (.i .i64 i)),.c (.d (.i .i64 y.1))]) (fun y=>[.box (p.enc.map .d),.tok 1 ((j5 p).map encS),.tok 1 ((b++[p.bI[i].fName]).map encS),.tok 1 (y.2.map encS),.tok 1 []]::S)
   (fun y=>y.1<=p.bI[i].aZ.length/\y.2=c++(p.bI[i].aZ.map aN.fName).take y.1) (fun y=>p.bI[i].aZ.length-y.1) (0,c) rfl ?_ ⟨Nat.zero_le _,by simp⟩ ?_
  ·simp -implicitDefEqProofs (disch:=omega) only[go_sem]
  rintro⟨k,e⟩ ⟨q1,q2⟩;simp only at q1 q2
  have pl2:e.length<=4194304:=by rw[q2];simp;omega
  simp -implicitDefEqProofs (disch:=omega) only[go_sem]
  (repeat(with_reducible refine And.intro ?_ ?_;focus first|omega|rfl|assumption|exact⟨_,rfl,rfl⟩|(simp;omega)|(simp;done)))
  with_reducible refine aC (fun hb=> ?_) (fun hb=> ?_)<;>have h:=hb<;>(try simp only[wf_preprocess] at h)<;>simp -implicitDefEqProofs (disch:=omega) only[go_sem,hb]<;>(repeat(with_reducible refine And.intro ?_ ?_;focus first|omega|rfl|assumption|exact⟨_,rfl,rfl⟩|(simp;omega)|(simp;done)))
  ·have hk:k<p.bI[i].aZ.length:=by omega
   (repeat(with_reducible refine And.intro ?_ ?_;focus first|omega|rfl|assumption|exact⟨_,rfl,rfl⟩|(simp;omega)|(simp;done)))
   rw[P6];exact bT (k+1,e++[p.bI[i].aZ[k].fName]) (by simp only;omega) rfl rfl ⟨by simp only;omega,by simp only;rw[q2,nZ (by simpa using hk)];simp⟩
  ·have hk:k=p.bI[i].aZ.length:=by omega
   have he:e=c++p.bI[i].aZ.map aN.fName:=by rw[q2,List.take_of_length_le (by simp;omega)]
   exact bT (i+1,b++[p.bI[i].fName],e) (by simp only;omega) rfl rfl ⟨by simp only;omega,by simp only;rw[p2,nZ (by simpa [nk] using hi)];simp[nk],by simp only;rw[e3,he]⟩
 have hb1:b=nk p:=by rw[p2,List.take_of_length_le (by simp[nk];omega)]
 have hc1:c=lN p.bI:=by rw[p3,List.take_of_length_le (by omega)]
 clear p1 p2 p3 pl hb h;subst hb1;subst hc1
 refine bN (ι:=Nat×List (List UInt8)) zmx rfl [1,6,7,8,9,13] (fun y=>[.c (.ptr (0,0) 0),.c (.bV (0,1) ((j5 p).map encS)),.c (.bV (0,2) ((nk p).map encS)),.c (.bV (0,3) ((lN p.bI).map encS)),.c (.bV (0,4) (y.2.map encS)),.c (.d (.i .i64 y.1))]) (fun y=>[.box (p.enc.map .d),.tok 1 ((j5 p).map encS),.tok 1 ((nk p).map encS),.tok 1 ((lN p.bI).map encS),.tok 1 (y.2.map encS)]::S)
  (fun y=>y.1<=p.dK.length/\y.2=(fnNames p).take y.1) (fun y=>p.dK.length-y.1) (0,[]) rfl ?_ ⟨Nat.zero_le _,rfl⟩ ?_
 ·simp -implicitDefEqProofs (disch:=omega) only[go_sem]
 rintro⟨i,a⟩ ⟨p1,p2⟩;simp only at p1 p2
 have pl:a.length<=p.dK.length:=by rw[p2];simp[fnNames];omega
 simp -implicitDefEqProofs (disch:=omega) only[go_sem]
 with_reducible refine aC (fun hb=> ?_) (fun hb=> ?_)<;>have h:=hb<;>(try simp only[wf_preprocess] at h)<;>simp -implicitDefEqProofs (disch:=omega) only[go_sem,hb]<;>(repeat(with_reducible refine And.intro ?_ ?_;focus first|omega|rfl|assumption|exact⟨_,rfl,rfl⟩|(simp;omega)|(simp;done)))
 ·have hi:i<p.dK.length:=by omega
  (repeat(with_reducible refine And.intro ?_ ?_;focus first|omega|rfl|assumption|exact⟨_,rfl,rfl⟩|(simp;omega)|(simp;done)))
  rw[P6];exact bT (i+1,a++[p.dK[i].fName]) (by simp only;omega) rfl rfl ⟨by simp only;omega,by simp only;rw[p2,nZ (by simpa [fnNames] using hi)];simp[fnNames]⟩
 ·have ha:a=fnNames p:=by rw[p2,List.take_of_length_le (by simp[fnNames];omega)]
  rw[ha]
noncomputable def vQ(p:aK):Bool:=p.dJ.all fQ&&(p.bI.all iO&&(p.dX.all gH&&p.dK.all l9))
noncomputable def VN(p:aK):Bool:=validName p.fName&&(dec (p.dP.length<=5)&&(iQ p.dP&&(!dec (p.fName∈p.dP)&&dec (p.dJ.length+p.bI.length+p.dX.length+p.dK.length<=24))))
noncomputable def validPkg(p:aK):Bool:=VN p&&(Jw [p]&&vQ p)
theorem aK.sum(x:aK):x.fName.length+(x.dP.length+aQ (x.dP.map encS))+(x.dJ.length+aQ (x.dJ.map bD.enc))+(x.bI.length+aQ (x.bI.map bg.enc))+(x.dX.length+aQ (x.dX.map aJ.enc))+(x.dK.length+aQ (x.dK.map bF.enc))<=x.sz:=by
 simp only[aK.sz,aK.aj,bG,bC,D.sz,List.length_map];omega
theorem Fg{α:Type}{f:α->Bool}{xs:List α}{i:Nat}(hi:i<xs.length):(xs.drop i).all f=(f xs[i]&&(xs.drop (i+1)).all f):=by
 rw[List.drop_eq_getElem_cons hi,List.all_cons]
theorem UQ(p:aK)(hsz:p.sz<=4194304):aX prog 80 [p.v] (.c (.d (.b (vQ p)))):=fun S=>by
 have hs:=aK.sum p;refine zcx [.tmp 2] func80 ntmps80 ?_;simp -implicitDefEqProofs (disch:=omega) only[go_sem]
 refine bN (ι:=Nat) zmx rfl [1,3] (fun i=>[.c (.ptr (0,0) 0),.c (.d (.i .i64 i))]) (fun _=>[.box (p.enc.map .d)]::S)
  (fun i=>i<=p.dJ.length/\(p.dJ.drop i).all fQ=p.dJ.all fQ) (fun i=>p.dJ.length-i) 0 rfl ?_ ⟨Nat.zero_le _,rfl⟩ ?_
 ·simp -implicitDefEqProofs (disch:=omega) only[go_sem]
 rintro i ⟨p1,p2⟩;simp -implicitDefEqProofs (disch:=omega) only[go_sem]
 with_reducible refine aC (fun hb=> ?_) (fun hb=> ?_)<;>have h:=hb<;>(try simp only[wf_preprocess] at h)<;>simp -implicitDefEqProofs (disch:=omega) only[go_sem,hb]<;>(repeat(with_reducible refine And.intro ?_ ?_;focus first|omega|rfl|assumption|exact⟨_,rfl,rfl⟩|(simp;omega)|(simp;done)))
 ·have hi:i<p.dJ.length:=by omega
  have hx:p.dJ[i].sz<=aQ (p.dJ.map bD.enc):=dO (List.mem_map_of_mem (List.getElem_mem hi));rw[Fg hi] at p2
  (repeat(with_reducible refine And.intro ?_ ?_;focus first|omega|rfl|assumption|exact⟨_,rfl,rfl⟩|(simp;omega)|(simp;done)))
  refine aB (nI p.dJ[i] (by omega)) ?_;simp -implicitDefEqProofs (disch:=omega) only[go_sem]<;>(repeat(with_reducible refine And.intro ?_ ?_;focus first|omega|rfl|assumption|exact⟨_,rfl,rfl⟩|(simp;omega)|(simp;done)))
  with_reducible refine aC (fun hb=> ?_) (fun hb=> ?_)<;>have h:=hb<;>(try simp only[wf_preprocess] at h)<;>simp -implicitDefEqProofs (disch:=omega) only[go_sem,hb]<;>(repeat(with_reducible refine And.intro ?_ ?_;focus first|omega|rfl|assumption|exact⟨_,rfl,rfl⟩|(simp;omega)|(simp;done)))
  ·exact bL (by unfold vQ;rw[<-p2,h];simp)
  ·rw[h,Bool.true_and] at p2;exact bT (i+1) (by omega) rfl rfl ⟨by omega,p2⟩
 rw[List.drop_of_length_le (by omega),List.all_nil] at p2;have f3:=p2.symm;clear p2 p1 hb h
 refine bN (ι:=Nat) zmx rfl [1,4] (fun i=>[.c (.ptr (0,0) 0),.c (.d (.i .i64 i))]) (fun _=>[.box (p.enc.map .d)]::S)
  (fun i=>i<=p.bI.length/\(p.bI.drop i).all iO=p.bI.all iO) (fun i=>p.bI.length-i) 0 rfl ?_ ⟨Nat.zero_le _,rfl⟩ ?_
 ·simp -implicitDefEqProofs (disch:=omega) only[go_sem]
 rintro i ⟨p1,p2⟩;simp -implicitDefEqProofs (disch:=omega) only[go_sem]
 with_reducible refine aC (fun hb=> ?_) (fun hb=> ?_)<;>have h:=hb<;>(try simp only[wf_preprocess] at h)<;>simp -implicitDefEqProofs (disch:=omega) only[go_sem,hb]<;>(repeat(with_reducible refine And.intro ?_ ?_;focus first|omega|rfl|assumption|exact⟨_,rfl,rfl⟩|(simp;omega)|(simp;done)))
 ·have hi:i<p.bI.length:=by omega
  have hx:p.bI[i].sz<=aQ (p.bI.map bg.enc):=dO (List.mem_map_of_mem (List.getElem_mem hi));rw[Fg hi] at p2
  (repeat(with_reducible refine And.intro ?_ ?_;focus first|omega|rfl|assumption|exact⟨_,rfl,rfl⟩|(simp;omega)|(simp;done)))
  refine aB (BD p.bI[i] (by omega)) ?_;simp -implicitDefEqProofs (disch:=omega) only[go_sem]<;>(repeat(with_reducible refine And.intro ?_ ?_;focus first|omega|rfl|assumption|exact⟨_,rfl,rfl⟩|(simp;omega)|(simp;done)))
  with_reducible refine aC (fun hb=> ?_) (fun hb=> ?_)<;>have h:=hb<;>(try simp only[wf_preprocess] at h)<;>simp -implicitDefEqProofs (disch:=omega) only[go_sem,hb]<;>(repeat(with_reducible refine And.intro ?_ ?_;focus first|omega|rfl|assumption|exact⟨_,rfl,rfl⟩|(simp;omega)|(simp;done)))
  ·exact bL (by unfold vQ;rw[<-p2,h];simp)
  ·rw[h,Bool.true_and] at p2;exact bT (i+1) (by omega) rfl rfl ⟨by omega,p2⟩
 rw[List.drop_of_length_le (by omega),List.all_nil] at p2;have f4:=p2.symm;clear p2 p1 hb h
 refine bN (ι:=Nat) zmx rfl [1,5] (fun i=>[.c (.ptr (0,0) 0),.c (.d (.i .i64 i))]) (fun _=>[.box (p.enc.map .d)]::S)
  (fun i=>i<=p.dX.length/\(p.dX.drop i).all gH=p.dX.all gH) (fun i=>p.dX.length-i) 0 rfl ?_ ⟨Nat.zero_le _,rfl⟩ ?_
 ·simp -implicitDefEqProofs (disch:=omega) only[go_sem]
 rintro i ⟨p1,p2⟩;simp -implicitDefEqProofs (disch:=omega) only[go_sem]
 with_reducible refine aC (fun hb=> ?_) (fun hb=> ?_)<;>have h:=hb<;>(try simp only[wf_preprocess] at h)<;>simp -implicitDefEqProofs (disch:=omega) only[go_sem,hb]<;>(repeat(with_reducible refine And.intro ?_ ?_;focus first|omega|rfl|assumption|exact⟨_,rfl,rfl⟩|(simp;omega)|(simp;done)))
 ·have hi:i<p.dX.length:=by omega
  have hx:p.dX[i].sz<=aQ (p.dX.map aJ.enc):=dO (List.mem_map_of_mem (List.getElem_mem hi));rw[Fg hi] at p2
  (repeat(with_reducible refine And.intro ?_ ?_;focus first|omega|rfl|assumption|exact⟨_,rfl,rfl⟩|(simp;omega)|(simp;done)))
  refine aB (mq p.dX[i] (by omega)) ?_;simp -implicitDefEqProofs (disch:=omega) only[go_sem]<;>(repeat(with_reducible refine And.intro ?_ ?_;focus first|omega|rfl|assumption|exact⟨_,rfl,rfl⟩|(simp;omega)|(simp;done)))
  with_reducible refine aC (fun hb=> ?_) (fun hb=> ?_)<;>have h:=hb<;>(try simp only[wf_preprocess] at h)<;>simp -implicitDefEqProofs (disch:=omega) only[go_sem,hb]<;>(repeat(with_reducible refine And.intro ?_ ?_;focus first|omega|rfl|assumption|exact⟨_,rfl,rfl⟩|(simp;omega)|(simp;done)))
  ·exact bL (by unfold vQ;rw[<-p2,h];simp)
  ·rw[h,Bool.true_and] at p2;exact bT (i+1) (by omega) rfl rfl ⟨by omega,p2⟩
 rw[List.drop_of_length_le (by omega),List.all_nil] at p2;have f5:=p2.symm;clear p2 p1 hb h
 refine bN (ι:=Nat) zmx rfl [1,6] (fun i=>[.c (.ptr (0,0) 0),.c (.d (.i .i64 i))]) (fun _=>[.box (p.enc.map .d)]::S)
  (fun i=>i<=p.dK.length/\(p.dK.drop i).all l9=p.dK.all l9) (fun i=>p.dK.length-i) 0 rfl ?_ ⟨Nat.zero_le _,rfl⟩ ?_
 ·simp -implicitDefEqProofs (disch:=omega) only[go_sem]
 rintro i ⟨p1,p2⟩;simp -implicitDefEqProofs (disch:=omega) only[go_sem]
 with_reducible refine aC (fun hb=> ?_) (fun hb=> ?_)<;>have h:=hb<;>(try simp only[wf_preprocess] at h)<;>simp -implicitDefEqProofs (disch:=omega) only[go_sem,hb]<;>(repeat(with_reducible refine And.intro ?_ ?_;focus first|omega|rfl|assumption|exact⟨_,rfl,rfl⟩|(simp;omega)|(simp;done)))
 ·have hi:i<p.dK.length:=by omega
  have hx:p.dK[i].sz<=aQ (p.dK.map bF.enc):=dO (List.mem_map_of_mem (List.getElem_mem hi));rw[Fg hi] at p2
  (repeat(with_reducible refine And.intro ?_ ?_;focus first|omega|rfl|assumption|exact⟨_,rfl,rfl⟩|(simp;omega)|(simp;done)))
  refine aB (yA p.dK[i] (by omega)) ?_;simp -implicitDefEqProofs (disch:=omega) only[go_sem]<;>(repeat(with_reducible refine And.intro ?_ ?_;focus first|omega|rfl|assumption|exact⟨_,rfl,rfl⟩|(simp;omega)|(simp;done)))
  with_reducible refine aC (fun hb=> ?_) (fun hb=> ?_)<;>have h:=hb<;>(try simp only[wf_preprocess] at h)<;>simp -implicitDefEqProofs (disch:=omega) only[go_sem,hb]<;>(repeat(with_reducible refine And.intro ?_ ?_;focus first|omega|rfl|assumption|exact⟨_,rfl,rfl⟩|(simp;omega)|(simp;done)))
  ·exact bL (by unfold vQ;rw[<-p2,h];simp)
  ·rw[h,Bool.true_and] at p2;exact bT (i+1) (by omega) rfl rfl ⟨by omega,p2⟩
 rw[List.drop_of_length_le (by omega),List.all_nil] at p2;have f6:=p2.symm;clear p2 p1 hb h;exact bL (by unfold vQ;rw[f3,f4,f5,f6];rfl)
def ajr:List UInt8:=[112,97,99,107,97,103,101]
def isK(s:List UInt8)(y:au):Bool:=decide (dL y.aA 0=s)
noncomputable def Fh(l:List au):List bD:=(l.filter (isK qP)).map BQ
noncomputable def Fj(l:List au):List bg:=(l.filter (isK vD)).map xJ
noncomputable def Fp(l:List au):List aJ:=(l.filter (isK tJ)).map Ho
noncomputable def Fq(l:List au):List bF:=(l.filter (isK GX)).map Hg
noncomputable def sH(y:au):Bool:=if isK qP y=true then BP y else if isK vD y=true then okD y else if isK tJ y=true then Hl y else if isK GX y=true then okF y else false
noncomputable def decP(x:au):aK:=⟨dL x.aA 1,mo x.aA 2,Fh (x.aA.drop 3),Fj (x.aA.drop 3),Fp (x.aA.drop 3),Fq (x.aA.drop 3)⟩
noncomputable def afZ(x:au):Prop:=iR x=true/\3<=x.aA.length/\dL x.aA 0=ajr/\(gX x.aA 2).bH=[]/\(gX x.aA 2).aA.all (fun y=>decide (y.bH≠[]))=true
noncomputable def Mt(x:au):Bool:=dec (afZ x/\(∀y∈x.aA.drop 3,sH y=true)/\validPkg (decP x)=true)
def Fu:aK:=⟨[],[],[],[],[],[]⟩
noncomputable def OX(x:au):aK:=if Mt x=true then decP x else Fu
theorem ajs{x:au}(h:Mt x=false):OX x=Fu:=if_neg (by rw[h];decide)
theorem ahH{x:au}(h:Mt x=true):OX x=decP x:=if_pos h
theorem abO{s s':List UInt8}{y:au}(h:isK s y=true)(hs:s≠s'):isK s' y=false:=by
 unfold isK at *
 rw[decide_eq_true_eq] at h;rw[h];exact decide_eq_false hs
theorem Fv{α:Type}(s:List UInt8)(f:au->α){l:List au}{i:Nat}(hi:i<l.length):((l.take (i+1)).filter (isK s)).map f=((l.take i).filter (isK s)).map f++if isK s l[i]=true then [f l[i]] else []:=by
 rw[List.take_succ_eq_append_getElem hi,List.filter_append,List.map_append];congr 1;by_cases h:isK s l[i]=true
 ·rw[if_pos h,List.filter_cons,if_pos h];rfl
 ·rw[if_neg h,List.filter_cons,if_neg h];rfl
theorem ahI{α:Type}(s:List UInt8)(f:au->α)(l:List au)(i:Nat):(((l.take i).filter (isK s)).map f).length<=i:=by
 rw[List.length_map];exact Nat.le_trans (List.length_filter_le _ _) (List.length_take_le _ _)
theorem VO(y:au):(BQ y).sz<=y.sz:=by
 unfold BQ;split
 ·exact SG true y
 ·simp[Mj,bD.sz,bD.aj,bG,D.sz,aQ]
theorem abP(y:au):(xJ y).sz<=y.sz:=by
 unfold xJ;split
 ·exact VF true y
 ·simp[bg.sz,bg.aj,bG,D.sz,aQ]
theorem abQ(y:au):(Ho y).sz<=y.sz:=by
 unfold Ho;split
 ·exact VK true y
 ·have:Mh.sz=0:=by simp[Mh,iL,aJ.sz,aJ.aj,ay.aj,ay.aV,ay.fName,ay.fArgs,bG,D.sz,aQ]
  omega
theorem abR(y:au):(Hg y).sz<=y.sz:=by
 unfold Hg;split
 ·exact VJ true y
 ·have:Me.sz=0:=by simp[Me,iL,mU,bF.sz,bF.aj,ay.aj,ay.aV,ay.fName,ay.fArgs,aD.aj,bG,D.sz,aQ,aD.aV,aD.bW,aD.fName,aD.fN,aD.fType,aD.fArgs,aD.bP]
  omega
theorem xM{α:Type}(s:List UInt8)(f:au->α)(e:α->List D)(h:∀y,bG (e (f y))<=y.sz):∀l:List au,aQ (((l.filter (isK s)).map f).map e)<=dH l/\((l.filter (isK s)).map f).length<=l.length
 |[]=>⟨Nat.le_refl _,Nat.le_refl _⟩
 |y::l=>by
  obtain⟨h1,h2⟩:=xM s f e h l;rw[List.filter_cons];split
  ·have:=h y;rw[List.map_cons,List.map_cons,aQ,dH,List.length_cons,List.length_cons];omega
  ·rw[dH,List.length_cons];omega
theorem ahJ{x:au}(h:x.sz<=500000):(decP x).sz<=4194304:=by
 have h1:=Sk x.aA 3;have h2:=gM x
 have h3:(x.aA.drop 3).length<=x.aA.length:=by rw[List.length_drop];omega
 have h4:=oo (gX x.aA 2).aA;have h5:(gX x.aA 2).sz<=dH x.aA:=yE x.aA 2;have h5':=mV (gX x.aA 2);have h6:(dL x.aA 1).length<=dH x.aA:=Nat.le_trans (E8 _) (yE x.aA 1);have t1:=xM qP BQ bD.enc VO (x.aA.drop 3);have t2:=xM vD xJ bg.enc abP (x.aA.drop 3);have t3:=xM tJ Ho aJ.enc abQ (x.aA.drop 3);have t4:=xM GX Hg bF.enc abR (x.aA.drop 3);have t5:=gM (gX x.aA 2)
 simp only[aK.sz,aK.aj,bG,bC,D.sz,List.length_map,decP,Fh,Fj,Fp,Fq,mo,eu] at *
 omega
theorem VP(x:au)(i:Nat){m:Nat}(h:x.sz<=m):(x.aA.getD i dh).sz<=m:=by
 have:=yE x.aA i;have:=gM x;omega
theorem abS{b:Bool}{l:List au}{i:Nat}(hi:i<l.length):((l.take i).map (Di b)).map aN.enc++[[.s (l[i].aA.getD 0 dh).bH,.sl (((l[i].aA.drop 1).map (eP b)).map ay.enc)]]=((l.take (i+1)).map (Di b)).map aN.enc:=by
 rw[List.take_succ_eq_append_getElem hi,List.map_append,List.map_append];simp only[List.map_cons,List.map_nil,aN.aj];rfl
theorem ahK{x:au}(h:okD x=true):(xJ x).fName=(oL false x).fName/\(xJ x).aU=(oL false x).aU/\(xJ x).aZ=(oL false x).aZ:=by
 unfold xJ;rw[if_pos h,<-aeP h];exact⟨rfl,rfl,rfl⟩
theorem ajt{x:au}(h:okD x=false):xJ x=⟨[],[],[]⟩:=by
 unfold xJ;rw[if_neg (by rw[h];decide)]
theorem aju{x:au}(h:x.aA.length=0):okD x=false:=bJ fun h1=>by omega
theorem afi(ok:Bool):Less (.eD [(true,[.d (.s []),.bM [],.bM []]),(false,[.d (.b ok)])]) (.eD [(true,[.d (.s []),.d (.sl []),.d (.sl [])]),(false,[.d (.b ok)])]):=
 (jP.cons (.cons (.refl _) (.cons (eO _) (.cons (eO _) .nil))) (.refl _)).less
def lc(l:List aN)(n:Nat):List (List D):=ig (l.map aN.enc) n
theorem Nw(x:au)(hsz:x.sz<=1048576):aX prog 241 [x.v] (.eD [(true,[.d (.s (xJ x).fName),.d (.sl ((xJ x).aU.map encS)),.d (.sl ((xJ x).aZ.map aN.enc))]),(false,[.d (.b (okD x))])]):=aX.of_le fun S=>by
 have h1:=gM x;have hds:=VF false x;have hos:=aha (d:=oL false x) (by omega);obtain⟨l,hl⟩:∃l,l=x.aA.drop 3:=⟨_,rfl⟩
 have hll:l.length<=1048576:=by rw[hl,List.length_drop];omega
 have hlm:∀y∈l,y.sz<=1048576:=fun y hy=>by
  have:=kQ (List.mem_of_mem_drop (hl▸hy));omega
 obtain⟨T,hT⟩:∃T:Nat->List (List D),T=fun i=>((l.take i).map (Di false)).map aN.enc:=⟨_,rfl⟩
 have hT0:T 0=[]:=by rw[hT];rfl
 have jY:∀i,(T i).length<=i:=fun i=>by rw[hT];simp only[List.length_map];exact List.length_take_le _ _
 have hTs:∀i (hi:i<l.length),T i++[[.s (l[i].aA.getD 0 dh).bH,.sl (((l[i].aA.drop 1).map (eP false)).map ay.enc)]]=T (i+1):=fun i hi=>by rw[hT];exact abS hi
 have hTe:T l.length=((oL false x).aZ).map aN.enc:=by
  rw[hT];simp only
  rw[List.take_length,hl];rfl
 clear hT;refine zcx [.cell 2 59,.tmp 3] func241 ntmps241 ?_;simp -implicitDefEqProofs (disch:=omega) only[go_sem];refine aB (eT x 1 (by omega) (by omega)) ?_;simp -implicitDefEqProofs (disch:=omega) only[go_sem];refine aB (eT x 2 (by omega) (by omega)) ?_;simp -implicitDefEqProofs (disch:=omega) only[go_sem];refine aB (oN _ (VP x 2 (by omega))) ?_;simp -implicitDefEqProofs (disch:=omega) only[go_sem]
 (repeat(with_reducible refine And.intro ?_ ?_;focus first|omega|rfl|assumption|exact⟨_,rfl,rfl⟩|(simp;omega)|(simp;done)))
 refine aB (vB x 3 (by omega)) ?_;simp -implicitDefEqProofs (disch:=omega) only[go_sem];rw[<-hl];refine jr 2 2 2 _ rfl rfl ?_
 refine bN (ι:=Nat) zmx rfl [1,2,4,5,6] (fun i=>[.c (.ptr (0,0) 0),.c (.ptr (0,1) 0),.c (.ptr (0,2) 0),.c (.d (.sl (l.map au.enc))),.c (.d (.i .i64 i))])
  (fun i=>[.box [.d (.s x.bH),.d (.sl (x.aA.map au.enc))],.box [.d (.s []),.bM [],.bM []],.box [.d (.s (oL false x).fName),.d (.sl ((oL false x).aU.map encS)),.bV (0,3) (T i)],.tok 2 (T i)]::S)
  (fun i=>i<=l.length) (fun i=>l.length-i) 0 rfl (by rw[hT0];rfl) (Nat.zero_le _) ?_
 intro i hi;have hl':=jY i;simp -implicitDefEqProofs (disch:=omega) only[go_sem]
 with_reducible refine aC (fun hb=> ?_) (fun hb=> ?_)<;>have h:=hb<;>(try simp only[wf_preprocess] at h)<;>simp -implicitDefEqProofs (disch:=omega) only[go_sem,hb]<;>(repeat(with_reducible refine And.intro ?_ ?_;focus first|omega|rfl|assumption|exact⟨_,rfl,rfl⟩|(simp;omega)|(simp;done)))
 ·have hi':i<l.length:=by omega
  have hm:=List.getElem_mem hi';have hs:=hTs i hi';have hz:=hlm _ hm;have hz1:=gM l[i]
  (repeat(with_reducible refine And.intro ?_ ?_;focus first|omega|rfl|assumption|exact⟨_,rfl,rfl⟩|(simp;omega)|(simp;done)))
  refine aB (eT l[i] 0 (by omega) (by omega)) ?_;simp -implicitDefEqProofs (disch:=omega) only[go_sem]
  (repeat(with_reducible refine And.intro ?_ ?_;focus first|omega|rfl|assumption|exact⟨_,rfl,rfl⟩|(simp;omega)|(simp;done)))
  refine aB (vB l[i] 1 (by omega)) ?_;simp -implicitDefEqProofs (disch:=omega) only[go_sem];refine aB (FP (l[i].aA.drop 1) (by rw[List.length_drop];omega) (fun t ht=>by have:=kQ (List.mem_of_mem_drop ht);omega)) ?_;simp -implicitDefEqProofs (disch:=omega) only[go_sem]
  (repeat(with_reducible refine And.intro ?_ ?_;focus first|omega|rfl|assumption|exact⟨_,rfl,rfl⟩|(simp;omega)|(simp;done)))
  rw[hs];exact fu 4 (by decide) (i+1) (by omega) rfl rfl rfl rfl (by omega)
 ·have hi':i=l.length:=by omega
  subst hi';rw[hTe];clear hTs;refine aB (lS x (by omega)) ?_;simp -implicitDefEqProofs (disch:=omega) only[go_sem]
  have jB:okD x=false->Less (.eD [(true,[.d (.s []),.bM [],.bM []]),(false,[.d (.b false)])]) (.eD [(true,[.d (.s (xJ x).fName),.d (.sl ((xJ x).aU.map encS)),.d (.sl ((xJ x).aZ.map aN.enc))]),(false,[.d (.b (okD x))])]):=fun e=>by
   rw[ajt e,e];exact afi false
  with_reducible refine aC (fun hb=> ?_) (fun hb=> ?_)<;>have h:=hb<;>(try simp only[wf_preprocess] at h)<;>simp -implicitDefEqProofs (disch:=omega) only[go_sem,hb]<;>(repeat(with_reducible refine And.intro ?_ ?_;focus first|omega|rfl|assumption|exact⟨_,rfl,rfl⟩|(simp;omega)|(simp;done)))
  ·exact jB (bJ fun e=>by rw[e.1] at h;cases h)
  have hv:=h
  with_reducible refine aC (fun hb=> ?_) (fun hb=> ?_)<;>have h:=hb<;>(try simp only[wf_preprocess] at h)<;>simp -implicitDefEqProofs (disch:=omega) only[go_sem,hb]<;>(repeat(with_reducible refine And.intro ?_ ?_;focus first|omega|rfl|assumption|exact⟨_,rfl,rfl⟩|(simp;omega)|(simp;done)))
  ·exact jB (aju (by omega))
  have hne:x.aA≠[]:=fun e=>by rw[e] at h;exact h rfl
  have hok:=aeO hne;rw[hv,Bool.true_and] at hok
  (repeat(with_reducible refine And.intro ?_ ?_;focus first|omega|rfl|assumption|exact⟨_,rfl,rfl⟩|(simp;omega)|(simp;done)))
  refine aB (Uv (oL false x) (by omega)) ?_;simp -implicitDefEqProofs (disch:=omega) only[go_sem];refine aB (qC (RQ (oL false x)) x (by omega)) ?_;simp -implicitDefEqProofs (disch:=omega) only[go_sem]
  with_reducible refine aC (fun hb=> ?_) (fun hb=> ?_)<;>have h:=hb<;>(try simp only[wf_preprocess] at h)<;>simp -implicitDefEqProofs (disch:=omega) only[go_sem,hb]<;>(repeat(with_reducible refine And.intro ?_ ?_;focus first|omega|rfl|assumption|exact⟨_,rfl,rfl⟩|(simp;omega)|(simp;done)))
  ·exact jB (by rw[hok];exact bJ h)
  ·have hy:okD x=true:=by rw[hok];exact dD h
   obtain⟨e1,e2,e3⟩:=ahK hy;rw[e1,e2,e3,hy];exact jv _
theorem Hu{α:Type}(p:α->Bool)(xs:List α):(pV p xs= -1/\∀j,∀hj:j<xs.length,p xs[j]=false)\/∃j:Nat,∃hj:j<xs.length,pV p xs=j/\p xs[j]=true/\∀k,∀hk:k<xs.length,k<j->p xs[k]=false:=by
 by_cases h:xs.any p=true
 ·right;have hlt:xs.findIdx p<xs.length:=List.findIdx_lt_length_of_exists (List.any_eq_true.1 h);refine⟨xs.findIdx p,hlt,by unfold pV;rw[if_pos h],List.findIdx_getElem,fun k hk hkj=> ?_⟩;have:=List.not_of_lt_findIdx hkj;simpa using this
 ·left;have hf:∀j,∀hj:j<xs.length,p xs[j]=false:=fun j hj=>Bool.eq_false_iff.2 fun hx=>h (List.any_eq_true.2 ⟨_,List.getElem_mem hj,hx⟩);exact⟨vY hf,hf⟩
def oU(w:aM):List (List UInt8):=w.aG.map aK.fName
def SV(w:aM)(i:Nat):Prop:=∀p,w.aG[i]? =some p->validPkg p=true/\∀d∈p.dP,d∈(oU w).take i
def SX(w:aM):Prop:=(∀i,i<w.aG.length->SV w i)/\(oU w).Nodup/\w.aG.length<=5
theorem Pw{w:aM}{i:Nat}(hi:i<w.aG.length)(hn:(oU w).Nodup):gB w w.aG[i].fName=i:=by
 unfold gB;refine sO (p:=fun p:aK=>decide (p.fName=w.aG[i].fName)) hi (fun j hj hji=> ?_) (by simp);simp only[decide_eq_false_iff_not];intro e;unfold oU at hn;rw[List.nodup_iff_pairwise_ne,List.pairwise_iff_getElem] at hn;have:=hn j i (by simpa using hj) (by simpa using hi) hji;simp only[List.getElem_map] at this;exact this e
theorem Ny{w:aM}{i:Nat}(hi:i<w.aG.length)(h:gB w w.aG[i].fName=i):∀j,∀hj:j<i,w.aG[j].fName≠w.aG[i].fName:=by
 intro j hj e;unfold gB at h;rcases Hu (fun p:aK=>decide (p.fName=w.aG[i].fName)) w.aG with⟨h1,h2⟩|⟨k,hk,h1,h2,h3⟩
 ·have:=h2 i hi;simp at this
 ·have hki:k=i:=by omega
  have:=h3 j (by omega) (by omega);simp only[decide_eq_false_iff_not] at this;exact this e
theorem Nz{w:aM}(h:∀i,∀hi:i<w.aG.length,gB w w.aG[i].fName=i):(oU w).Nodup:=by
 unfold oU;rw[List.nodup_iff_pairwise_ne,List.pairwise_iff_getElem];intro j i hj hi hji;simp only[List.getElem_map,List.length_map] at hj hi ⊢;exact Ny hi (h i hi) j hji
theorem ahL{w:aM}{i:Nat}(hi:i<=w.aG.length)(d:List UInt8):(0<=gB w d/\gB w d<=(i:Int)-1)<->d∈(oU w).take i:=by
 unfold gB oU;rcases Hu (fun p:aK=>decide (p.fName=d)) w.aG with⟨h1,h2⟩|⟨k,hk,h1,h2,h3⟩
 ·rw[h1];refine⟨fun h=>by omega,fun h=> ?_⟩;obtain⟨j,hj,e⟩:=List.getElem_of_mem h;simp only[List.length_take,List.length_map] at hj;simp only[List.getElem_take,List.getElem_map] at e;have:=h2 j (by omega);simp only[decide_eq_false_iff_not] at this;exact absurd e this
 ·rw[h1];simp only[decide_eq_true_eq] at h2;constructor
  ·intro h
   have hki:k<i:=by omega
   rw[<-h2]
   have:((w.aG.map aK.fName).take i)[k]'(by simp;omega)=w.aG[k].fName:=by simp
   rw[<-this];exact List.getElem_mem _
  ·intro h;obtain⟨j,hj,e⟩:=List.getElem_of_mem h;simp only[List.length_take,List.length_map] at hj;simp only[List.getElem_take,List.getElem_map] at e;refine⟨by omega,?_⟩;rcases Nat.lt_or_ge j k with hjk|hjk
   ·have:=h3 j (by omega) hjk;simp only[decide_eq_false_iff_not] at this;exact absurd e this
   ·omega
theorem ajv(p:aK):YR [p]=j5 p:=by simp[YR]
theorem ajw(p:aK):YS [p]=nk p:=by simp[YS]
theorem ajx(p:aK):YT [p]=lN p.bI:=by simp[YT]
theorem ajy(p:aK):YU [p]=fnNames p:=by simp[YU]
theorem aM.am7{w:aM}{i:Nat}(hi:i<w.aG.length)(h:w.sz<=4194304):w.aG[i].sz<=4194304:=by
 have hx:w.aG[i].sz<=aQ (w.aG.map aK.enc):=dO (List.mem_map_of_mem (List.getElem_mem hi));simp only[aM.sz,aM.aj,bG,bC,D.sz,List.length_map] at h;omega
theorem CK(p:aK)(hsz:p.sz<=4194304):aX prog 41 [p.v] (.c (.d (.b (validPkg p)))):=fun S=>by
 have hs:=aK.sum p;have hb:=aK.bounds hsz
 have hV:∀s∈p.dP,s.length<=4194304:=fun s h=>by have:=zo h;omega
 have l1:(j5 p).length<=1073741824:=by simp[j5];omega
 have l2:(nk p).length<=1073741824:=by simp[nk];omega
 have l3:(lN p.bI).length<=1073741824:=by omega
 have l4:(fnNames p).length<=1073741824:=by simp[fnNames];omega
 refine zcx [.tmp 2] func41 ntmps41 ?_;simp -implicitDefEqProofs (disch:=omega) only[go_sem];refine aB (UO p hsz) ?_;simp -implicitDefEqProofs (disch:=omega) only[go_sem]
 repeat' (first
  |with_reducible refine aC (fun hb=> ?_) (fun hb=> ?_)<;>have h:=hb<;>(try simp only[wf_preprocess] at h)<;>simp -implicitDefEqProofs (disch:=omega) only[go_sem,hb]<;>(repeat(with_reducible refine And.intro ?_ ?_;focus first|omega|rfl|assumption|exact⟨_,rfl,rfl⟩|(simp;omega)|(simp;done)))
  |((with_reducible show iI _ _ 77 _ _ _ _);refine aB (gL p.fName (by omega)) ?_;simp -implicitDefEqProofs (disch:=omega) only[go_sem])
  |((with_reducible show iI _ _ 78 _ _ _ _);refine aB (kg p.dP 5 (by omega) hV) ?_;simp -implicitDefEqProofs (disch:=omega) only[go_sem])
  |((with_reducible show iI _ _ 79 _ _ _ _);refine aB (oF p.dP p.fName (by omega)) ?_;simp -implicitDefEqProofs (disch:=omega) only[go_sem])
  |((with_reducible show iI _ _ 57 _ _ _ _);refine aB (mY (j5 p) l1) ?_;simp -implicitDefEqProofs (disch:=omega) only[go_sem])
  |((with_reducible show iI _ _ 57 _ _ _ _);refine aB (mY (nk p) l2) ?_;simp -implicitDefEqProofs (disch:=omega) only[go_sem])
  |((with_reducible show iI _ _ 57 _ _ _ _);refine aB (mY (lN p.bI) l3) ?_;simp -implicitDefEqProofs (disch:=omega) only[go_sem])
  |((with_reducible show iI _ _ 57 _ _ _ _);refine aB (mY (fnNames p) l4) ?_;simp -implicitDefEqProofs (disch:=omega) only[go_sem])
  |((with_reducible show iI _ _ 80 _ _ _ _);refine aB (UQ p hsz) ?_;simp -implicitDefEqProofs (disch:=omega) only[go_sem])
  |(refine bL ?_;unfold validPkg VN Jw;rw[ajv,ajw,ajx,ajy];grind [gD,j6,dD,bJ]))
theorem Kl(w:aM)(hsz:w.sz<=4194304):aX prog 13 [w.v] (.c (.d (.b (dec (SX w))))):=fun S=>by
 have hb0:=aM.bounds hsz
 have bad:∀i,∀hi:i<w.aG.length,¬(validPkg w.aG[i]=true/\∀d∈w.aG[i].dP,d∈(oU w).take i)->V.c (.d (.b false))=V.c (.d (.b (dec (SX w)))):=fun i hi h=>
  bL (bJ fun x=>h (x.1 i hi _ (List.getElem?_eq_getElem hi))).symm
 refine zcx [.tmp 2] func13 ntmps13 ?_;simp -implicitDefEqProofs (disch:=omega) only[go_sem]
 refine bN (ι:=Nat) zmx rfl [1,3] (fun i=>[.c (.ptr (0,0) 0),.c (.d (.i .i64 i))]) (fun _=>[.box (w.enc.map .d)]::S)
  (fun i=>i<=w.aG.length/\∀j,∀hj:j<w.aG.length,j<i->SV w j/\gB w w.aG[j].fName=j) (fun i=>w.aG.length-i) 0 rfl ?_ ⟨Nat.zero_le _,fun j _ h=>by omega⟩ ?_
 ·simp -implicitDefEqProofs (disch:=omega) only[go_sem]
 rintro i ⟨p1,p3⟩;simp -implicitDefEqProofs (disch:=omega) only[go_sem]
 with_reducible refine aC (fun hb=> ?_) (fun hb=> ?_)<;>have h:=hb<;>(try simp only[wf_preprocess] at h)<;>simp -implicitDefEqProofs (disch:=omega) only[go_sem,hb]<;>(repeat(with_reducible refine And.intro ?_ ?_;focus first|omega|rfl|assumption|exact⟨_,rfl,rfl⟩|(simp;omega)|(simp;done)))
 ·have hi:i<w.aG.length:=by omega
  have hz:=aM.am7 hi hsz;have hd:=(aK.bounds hz).2.1
  (repeat(with_reducible refine And.intro ?_ ?_;focus first|omega|rfl|assumption|exact⟨_,rfl,rfl⟩|(simp;omega)|(simp;done)))
  refine aB (CK w.aG[i] hz) ?_;simp -implicitDefEqProofs (disch:=omega) only[go_sem]<;>(repeat(with_reducible refine And.intro ?_ ?_;focus first|omega|rfl|assumption|exact⟨_,rfl,rfl⟩|(simp;omega)|(simp;done)))
  with_reducible refine aC (fun hb=> ?_) (fun hb=> ?_)<;>have h:=hb<;>(try simp only[wf_preprocess] at h)<;>simp -implicitDefEqProofs (disch:=omega) only[go_sem,hb]<;>(repeat(with_reducible refine And.intro ?_ ?_;focus first|omega|rfl|assumption|exact⟨_,rfl,rfl⟩|(simp;omega)|(simp;done)))
  ·exact bad i hi (fun x=>by rw[h] at x;cases x.1)
  have k1:=h
  (repeat(with_reducible refine And.intro ?_ ?_;focus first|omega|rfl|assumption|exact⟨_,rfl,rfl⟩|(simp;omega)|(simp;done)))
  refine aB (xL w w.aG[i].fName hsz) ?_;simp -implicitDefEqProofs (disch:=omega) only[go_sem]<;>(repeat(with_reducible refine And.intro ?_ ?_;focus first|omega|rfl|assumption|exact⟨_,rfl,rfl⟩|(simp;omega)|(simp;done)))
  with_reducible refine aC (fun hb=> ?_) (fun hb=> ?_)<;>have h:=hb<;>(try simp only[wf_preprocess] at h)<;>simp -implicitDefEqProofs (disch:=omega) only[go_sem,hb]<;>(repeat(with_reducible refine And.intro ?_ ?_;focus first|omega|rfl|assumption|exact⟨_,rfl,rfl⟩|(simp;omega)|(simp;done)))
  ·exact bL (bJ fun x=>h (Pw hi x.2.1)).symm
  have k2:=h
  (repeat(with_reducible refine And.intro ?_ ?_;focus first|omega|rfl|assumption|exact⟨_,rfl,rfl⟩|(simp;omega)|(simp;done)))
  refine bN (ι:=Nat) zmx rfl [1,3,4,5] (fun k=>[.c (.ptr (0,0) 0),.c (.d (.i .i64 i)),.c (.ptr (0,1) 0),.c (.d (.i .i64 k))]) (fun _=>[.box (w.enc.map .d),.box (w.aG[i].enc.map .d)]::S)
   (fun k=>k<=w.aG[i].dP.length/\∀j,∀hj:j<w.aG[i].dP.length,j<k->w.aG[i].dP[j]∈(oU w).take i) (fun k=>w.aG[i].dP.length-k) 0 rfl ?_ ⟨Nat.zero_le _,fun j _ h=>by omega⟩ ?_
  ·simp -implicitDefEqProofs (disch:=omega) only[go_sem]
  rintro k ⟨q1,q2⟩;simp -implicitDefEqProofs (disch:=omega) only[go_sem]
  with_reducible refine aC (fun hb=> ?_) (fun hb=> ?_)<;>have h:=hb<;>(try simp only[wf_preprocess] at h)<;>simp -implicitDefEqProofs (disch:=omega) only[go_sem,hb]<;>(repeat(with_reducible refine And.intro ?_ ?_;focus first|omega|rfl|assumption|exact⟨_,rfl,rfl⟩|(simp;omega)|(simp;done)))
  ·have hk:k<w.aG[i].dP.length:=by omega
   (repeat(with_reducible refine And.intro ?_ ?_;focus first|omega|rfl|assumption|exact⟨_,rfl,rfl⟩|(simp;omega)|(simp;done)))
   refine aB (xL w w.aG[i].dP[k] hsz) ?_;simp -implicitDefEqProofs (disch:=omega) only[go_sem]<;>(repeat(with_reducible refine And.intro ?_ ?_;focus first|omega|rfl|assumption|exact⟨_,rfl,rfl⟩|(simp;omega)|(simp;done)));refine aB (wh (gB w w.aG[i].dP[k]) 0 (i-1)) ?_;simp -implicitDefEqProofs (disch:=omega) only[go_sem]<;>(repeat(with_reducible refine And.intro ?_ ?_;focus first|omega|rfl|assumption|exact⟨_,rfl,rfl⟩|(simp;omega)|(simp;done)));rw[gG (ahL (w:=w) (i:=i) (by omega) w.aG[i].dP[k])]
   with_reducible refine aC (fun hb=> ?_) (fun hb=> ?_)<;>have h:=hb<;>(try simp only[wf_preprocess] at h)<;>simp -implicitDefEqProofs (disch:=omega) only[go_sem,hb]<;>(repeat(with_reducible refine And.intro ?_ ?_;focus first|omega|rfl|assumption|exact⟨_,rfl,rfl⟩|(simp;omega)|(simp;done)))
   ·exact bad i hi (fun x=>h (x.2 _ (List.getElem_mem hk)))
   ·have k3:=h
    exact bT (k+1) (by omega) rfl rfl ⟨by omega,fun j hj hji=>by
     by_cases e:j=k
     ·subst e;exact k3
     ·exact q2 j hj (by omega)⟩
  ·refine fu 1 (by decide) (i+1) (by omega) rfl rfl rfl rfl ⟨by omega,fun j hj hji=> ?_⟩;by_cases e:j=i
   ·subst e;refine⟨fun p hp=> ?_,k2⟩;rw[List.getElem?_eq_getElem hi] at hp;cases hp
    exact⟨k1,fun d hd=>by
     obtain⟨m,hm,em⟩:=List.getElem_of_mem hd
     rw[<-em];exact q2 m hm (by omega)⟩
   ·exact p3 j hj (by omega)
 ·have hn:(oU w).Nodup:=Nz fun j hj=>(p3 j hj (by omega)).2;refine bL ?_;rw[nM];exact gG ⟨fun x=>⟨fun j hj=>(p3 j hj (by omega)).1,hn,by omega⟩,fun x=>by have:=x.2.2;omega⟩
noncomputable def CO(y:au):List (List D):=if isK qP y=true then [(BQ y).enc] else []
noncomputable def CP(y:au):List (List D):=if isK vD y=true then [(xJ y).enc] else []
noncomputable def CQ(y:au):List (List D):=if isK tJ y=true then [(Ho y).enc] else []
noncomputable def addFn(y:au):List (List D):=if isK GX y=true then [(Hg y).enc] else []
theorem sI{s s':List UInt8}{y:au}(h:isK s y=true)(hs:s≠s')(r:List (List D)):(if isK s' y=true then r else [])=[]:=if_neg (by rw[abO h hs];decide)
def VQ(bx br:List C)(nm dp:D)(a b c d:List (List D)):List Obj:=[.box bx,.box br,.box [.d nm,.d dp,.bV (0,3) a,.bV (0,4) b,.bV (0,5) c,.bV (0,6) d],.tok 5 a,.tok 3 b,.tok 12 c,.tok 16 d]
theorem afj{l:List au}{i:Nat}(hi:i<l.length):(Fh (l.take (i+1))).map bD.enc=(Fh (l.take i)).map bD.enc++CO l[i]:=by
 unfold Fh CO;rw[Fv _ _ hi,List.map_append];split<;>rfl
theorem afk{l:List au}{i:Nat}(hi:i<l.length):(Fj (l.take (i+1))).map bg.enc=(Fj (l.take i)).map bg.enc++CP l[i]:=by
 unfold Fj CP;rw[Fv _ _ hi,List.map_append];split<;>rfl
theorem afl{l:List au}{i:Nat}(hi:i<l.length):(Fp (l.take (i+1))).map aJ.enc=(Fp (l.take i)).map aJ.enc++CQ l[i]:=by
 unfold Fp CQ;rw[Fv _ _ hi,List.map_append];split<;>rfl
theorem afm{l:List au}{i:Nat}(hi:i<l.length):(Fq (l.take (i+1))).map bF.enc=(Fq (l.take i)).map bF.enc++addFn l[i]:=by
 unfold Fq addFn;rw[Fv _ _ hi,List.map_append];split<;>rfl
theorem abT(l:List au)(i:Nat):((Fh (l.take i)).map bD.enc).length<=i/\((Fj (l.take i)).map bg.enc).length<=i/\((Fp (l.take i)).map aJ.enc).length<=i/\((Fq (l.take i)).map bF.enc).length<=i:=by
 have h:=fun {α:Type} s (f:au->α)=>ahI s f l i
 simp only[List.length_map,Fh,Fj,Fp,Fq] at *
 exact⟨h _ id,h _ id,h _ id,h _ id⟩
def Hw:List C:=[.d (.s []),.bM [],.bM [],.bM [],.bM [],.bM []]
def aK.cv(p:aK):List C:=[.d (.s p.fName),.d (.sl (p.dP.map encS)),.d (.sl (p.dJ.map bD.enc)),.d (.sl (p.bI.map bg.enc)),.d (.sl (p.dX.map aJ.enc)),.d (.sl (p.dK.map bF.enc))]
theorem ajz(e:aK)(h:e=Fu)(ok:Bool):Less (.eD [(true,Hw),(false,[.d (.b ok)])]) (.eD [(true,e.cv),(false,[.d (.b ok)])]):=by
 subst h;exact(jP.cons (.cons (.refl _) (.cons (eO _) (.cons (eO _) (.cons (eO _) (.cons (eO _) (.cons (eO _) .nil)))))) (.refl _)).less
theorem UR(y:au)(hsz:y.sz<=1048576)(bx br:List C)(nm dp:D)(a b c d:List (List D))(Ω:Store)(ha:a.length<=1048576)(hb:b.length<=1048576)(hc:c.length<=1048576)(hd:d.length<=1048576):
 bY prog 221 [.c (.ptr (0,2) 0),y.v] (VQ bx br nm dp a b c d::Ω) (fun r S'=>r=.c (.d (.b (sH y)))/\S'=VQ bx br nm dp (a++CO y) (b++CP y) (c++CQ y) (d++addFn y)::Ω):=by
 unfold VQ;refine zcx [.tmp 4] func221 ntmps221 ?_;simp -implicitDefEqProofs (disch:=omega) only[go_sem];refine aB (eT y 0 (by omega) (by omega)) ?_;simp -implicitDefEqProofs (disch:=omega) only[go_sem];have hk:∀s,isK s y=decide ((y.aA.getD 0 dh).bH=s):=fun s=>rfl
 with_reducible refine aC (fun hb=> ?_) (fun hb=> ?_)<;>have h:=hb<;>(try simp only[wf_preprocess] at h)<;>simp -implicitDefEqProofs (disch:=omega) only[go_sem,hb]<;>(repeat(with_reducible refine And.intro ?_ ?_;focus first|omega|rfl|assumption|exact⟨_,rfl,rfl⟩|(simp;omega)|(simp;done)))
 ·have h1:isK qP y=true:=by rw[hk];exact hb
  refine aB (SL y (by omega)) ?_;simp -implicitDefEqProofs (disch:=omega) only[go_sem]
  (repeat(with_reducible refine And.intro ?_ ?_;focus first|omega|rfl|assumption|exact⟨_,rfl,rfl⟩|(simp;omega)|(simp;done)))
  have e0:sH y=BP y:=if_pos h1;have e1:CO y=[(BQ y).enc]:=if_pos h1;have e2:CP y=[]:=sI h1 (by decide) _;have e3:CQ y=[]:=sI h1 (by decide) _;have e4:addFn y=[]:=sI h1 (by decide) _;rw[e0,e1,e2,e3,e4];simp -implicitDefEqProofs (disch:=omega) only[go_sem]
  (repeat(with_reducible refine And.intro ?_ ?_;focus first|omega|rfl|assumption|exact⟨_,rfl,rfl⟩|(simp;omega)|(simp;done)))
 have n1:isK qP y=false:=by rw[hk];exact hb
 with_reducible refine aC (fun hb=> ?_) (fun hb=> ?_)<;>have h:=hb<;>(try simp only[wf_preprocess] at h)<;>simp -implicitDefEqProofs (disch:=omega) only[go_sem,hb]<;>(repeat(with_reducible refine And.intro ?_ ?_;focus first|omega|rfl|assumption|exact⟨_,rfl,rfl⟩|(simp;omega)|(simp;done)))
 ·have h1:isK vD y=true:=by rw[hk];exact hb
  refine aB (Nw y (by omega)) ?_;simp -implicitDefEqProofs (disch:=omega) only[go_sem]
  (repeat(with_reducible refine And.intro ?_ ?_;focus first|omega|rfl|assumption|exact⟨_,rfl,rfl⟩|(simp;omega)|(simp;done)))
  have e0:sH y=okD y:=by unfold sH;simp only[n1,h1,if_false,if_true,Bool.false_eq_true]
  have e1:CO y=[]:=sI h1 (by decide) _;have e2:CP y=[(xJ y).enc]:=if_pos h1;have e3:CQ y=[]:=sI h1 (by decide) _;have e4:addFn y=[]:=sI h1 (by decide) _;rw[e0,e1,e2,e3,e4];simp -implicitDefEqProofs (disch:=omega) only[go_sem]
  (repeat(with_reducible refine And.intro ?_ ?_;focus first|omega|rfl|assumption|exact⟨_,rfl,rfl⟩|(simp;omega)|(simp;done)))
 have n2:isK vD y=false:=by rw[hk];exact hb
 with_reducible refine aC (fun hb=> ?_) (fun hb=> ?_)<;>have h:=hb<;>(try simp only[wf_preprocess] at h)<;>simp -implicitDefEqProofs (disch:=omega) only[go_sem,hb]<;>(repeat(with_reducible refine And.intro ?_ ?_;focus first|omega|rfl|assumption|exact⟨_,rfl,rfl⟩|(simp;omega)|(simp;done)))
 ·have h1:isK tJ y=true:=by rw[hk];exact hb
  refine aB (UM y (by omega)) ?_;simp -implicitDefEqProofs (disch:=omega) only[go_sem]
  (repeat(with_reducible refine And.intro ?_ ?_;focus first|omega|rfl|assumption|exact⟨_,rfl,rfl⟩|(simp;omega)|(simp;done)))
  have e0:sH y=Hl y:=by unfold sH;simp only[n1,n2,h1,if_false,if_true,Bool.false_eq_true]
  have e1:CO y=[]:=sI h1 (by decide) _;have e2:CP y=[]:=sI h1 (by decide) _;have e3:CQ y=[(Ho y).enc]:=if_pos h1;have e4:addFn y=[]:=sI h1 (by decide) _;rw[e0,e1,e2,e3,e4];simp -implicitDefEqProofs (disch:=omega) only[go_sem]
  (repeat(with_reducible refine And.intro ?_ ?_;focus first|omega|rfl|assumption|exact⟨_,rfl,rfl⟩|(simp;omega)|(simp;done)))
 have n3:isK tJ y=false:=by rw[hk];exact hb
 with_reducible refine aC (fun hb=> ?_) (fun hb=> ?_)<;>have h:=hb<;>(try simp only[wf_preprocess] at h)<;>simp -implicitDefEqProofs (disch:=omega) only[go_sem,hb]<;>(repeat(with_reducible refine And.intro ?_ ?_;focus first|omega|rfl|assumption|exact⟨_,rfl,rfl⟩|(simp;omega)|(simp;done)))
 ·have h1:isK GX y=true:=by rw[hk];exact hb
  refine aB (SC y (by omega)) ?_;simp -implicitDefEqProofs (disch:=omega) only[go_sem]
  (repeat(with_reducible refine And.intro ?_ ?_;focus first|omega|rfl|assumption|exact⟨_,rfl,rfl⟩|(simp;omega)|(simp;done)))
  have e0:sH y=okF y:=by unfold sH;simp only[n1,n2,n3,h1,if_false,if_true,Bool.false_eq_true]
  have e1:CO y=[]:=sI h1 (by decide) _;have e2:CP y=[]:=sI h1 (by decide) _;have e3:CQ y=[]:=sI h1 (by decide) _;have e4:addFn y=[(Hg y).enc]:=if_pos h1;rw[e0,e1,e2,e3,e4];simp -implicitDefEqProofs (disch:=omega) only[go_sem]
  (repeat(with_reducible refine And.intro ?_ ?_;focus first|omega|rfl|assumption|exact⟨_,rfl,rfl⟩|(simp;omega)|(simp;done)))
 have n4:isK GX y=false:=by rw[hk];exact hb
 unfold sH CO CP CQ addFn;simp only[n1,n2,n3,n4,if_false,Bool.false_eq_true,List.append_nil];exact⟨trivial,trivial⟩
theorem UU(x:au)(hsz:x.sz<=1048576):aX prog 192 [x.v] (.eD [(true,(OX x).cv),(false,[.d (.b (Mt x))])]):=aX.of_le fun S=>by
 have h1:=gM x;obtain⟨l,hl⟩:∃l,l=x.aA.drop 3:=⟨_,rfl⟩
 have hll:l.length<=1048576:=by rw[hl,List.length_drop];omega
 have hlen:l.length=x.aA.length-3:=by rw[hl,List.length_drop]
 have hlm:∀y∈l,y.sz<=1048576:=fun y hy=>by
  have:=kQ (List.mem_of_mem_drop (hl▸hy));omega
 have jB:Mt x=false->Less (.eD [(true,Hw),(false,[.d (.b false)])]) (.eD [(true,(OX x).cv),(false,[.d (.b (Mt x))])]):=fun e=>by
  rw[e];exact ajz _ (ajs e) false
 have hnm:((x.aA.getD 2 dh).aA).length<=1073741824:=by
  have:=VP x 2 (Nat.le_refl _);have:=gM (x.aA.getD 2 dh);omega
 refine zcx [.cell 2 77,.tmp 3] func192 ntmps192 ?_;simp -implicitDefEqProofs (disch:=omega) only[go_sem];refine aB (eT x 2 (by omega) (by omega)) ?_;simp -implicitDefEqProofs (disch:=omega) only[go_sem];refine aB (BI _ hnm) ?_;simp -implicitDefEqProofs (disch:=omega) only[go_sem];refine aB (eT x 1 (by omega) (by omega)) ?_;simp -implicitDefEqProofs (disch:=omega) only[go_sem];refine aB (lS x (by omega)) ?_;simp -implicitDefEqProofs (disch:=omega) only[go_sem]
 with_reducible refine aC (fun hb=> ?_) (fun hb=> ?_)<;>have h:=hb<;>(try simp only[wf_preprocess] at h)<;>simp -implicitDefEqProofs (disch:=omega) only[go_sem,hb]<;>(repeat(with_reducible refine And.intro ?_ ?_;focus first|omega|rfl|assumption|exact⟨_,rfl,rfl⟩|(simp;omega)|(simp;done)))
 ·exact jB (bJ fun e=>by rw[e.1.1] at h;cases h)
 have hv:=h
 with_reducible refine aC (fun hb=> ?_) (fun hb=> ?_)<;>have h:=hb<;>(try simp only[wf_preprocess] at h)<;>simp -implicitDefEqProofs (disch:=omega) only[go_sem,hb]<;>(repeat(with_reducible refine And.intro ?_ ?_;focus first|omega|rfl|assumption|exact⟨_,rfl,rfl⟩|(simp;omega)|(simp;done)))
 ·exact jB (bJ fun e=>by have:=e.1.2.1;omega)
 have h3:3<=x.aA.length:=by omega
 (repeat(with_reducible refine And.intro ?_ ?_;focus first|omega|rfl|assumption|exact⟨_,rfl,rfl⟩|(simp;omega)|(simp;done)))
 have a0:x.aA[0].bH=dL x.aA 0:=(AJ (by omega)).symm;have g2:x.aA[2]=gX x.aA 2:=(abw (by omega)).symm
 with_reducible refine aC (fun hb=> ?_) (fun hb=> ?_)<;>have h:=hb<;>(try simp only[wf_preprocess] at h)<;>simp -implicitDefEqProofs (disch:=omega) only[go_sem,hb]<;>(repeat(with_reducible refine And.intro ?_ ?_;focus first|omega|rfl|assumption|exact⟨_,rfl,rfl⟩|(simp;omega)|(simp;done)))
 ·exact jB (bJ fun e=>h (a0.trans e.1.2.2.1))
 have hw:dL x.aA 0=ajr:=by rw[<-a0];exact h
 (repeat(with_reducible refine And.intro ?_ ?_;focus first|omega|rfl|assumption|exact⟨_,rfl,rfl⟩|(simp;omega)|(simp;done)))
 with_reducible refine aC (fun hb=> ?_) (fun hb=> ?_)<;>have h:=hb<;>(try simp only[wf_preprocess] at h)<;>simp -implicitDefEqProofs (disch:=omega) only[go_sem,hb]<;>(repeat(with_reducible refine And.intro ?_ ?_;focus first|omega|rfl|assumption|exact⟨_,rfl,rfl⟩|(simp;omega)|(simp;done)))
 ·exact jB (bJ fun e=>h (by rw[g2];exact e.1.2.2.2.1))
 have hz2:(gX x.aA 2).bH=[]:=by rw[<-g2];exact h
 with_reducible refine aC (fun hb=> ?_) (fun hb=> ?_)<;>have h:=hb<;>(try simp only[wf_preprocess] at h)<;>simp -implicitDefEqProofs (disch:=omega) only[go_sem,hb]<;>(repeat(with_reducible refine And.intro ?_ ?_;focus first|omega|rfl|assumption|exact⟨_,rfl,rfl⟩|(simp;omega)|(simp;done)))
 ·exact jB (bJ fun e=>by have:=e.1.2.2.2.2;unfold allA at h;rw[show(x.aA.getD 2 dh)=gX x.aA 2 from rfl,this] at h;cases h)
 have hall:(gX x.aA 2).aA.all (fun y=>decide (y.bH≠[]))=true:=h;have hhead:afZ x:=⟨hv,h3,hw,hz2,hall⟩;have hvs:=Cn hv;refine jr 2 2 5 _ rfl rfl ?_;refine jr 2 3 3 _ rfl rfl ?_;refine jr 2 4 12 _ rfl rfl ?_;refine jr 2 5 16 _ rfl rfl ?_
 refine bN (ι:=Nat) zmx rfl [1,2,6,7] (fun i=>[.c (.ptr (0,0) 0),.c (.ptr (0,1) 0),.c (.ptr (0,2) 0),.c (.d (.i .i64 (i+3:Nat)))])
  (fun i=>VQ [.d (.s x.bH),.d (.sl (x.aA.map au.enc))] Hw (.s (x.aA.getD 1 dh).bH) (.sl ((gq (x.aA.getD 2 dh).aA).map encS)) ((Fh (l.take i)).map bD.enc) ((Fj (l.take i)).map bg.enc) ((Fp (l.take i)).map aJ.enc) ((Fq (l.take i)).map bF.enc)::S)
  (fun i=>i<=l.length/\∀j,∀hj:j<l.length,j<i->sH l[j]=true) (fun i=>l.length-i) 0 rfl rfl ⟨Nat.zero_le _,fun j _ h=>by omega⟩ ?_
 rintro i ⟨p1,p2⟩;obtain⟨t1,t2,t3,t4⟩:=abT l i;simp -implicitDefEqProofs (disch:=omega) only[go_sem,VQ]
 with_reducible refine aC (fun hb=> ?_) (fun hb=> ?_)<;>have h:=hb<;>(try simp only[wf_preprocess] at h)<;>simp -implicitDefEqProofs (disch:=omega) only[go_sem,hb]<;>(repeat(with_reducible refine And.intro ?_ ?_;focus first|omega|rfl|assumption|exact⟨_,rfl,rfl⟩|(simp;omega)|(simp;done)))
 ·have hi:i<l.length:=by omega
  have hm:=List.getElem_mem hi;have hz:=hlm _ hm
  have hg:x.aA[i+3]'(by omega)=l[i]:=by
   simp only[hl,List.getElem_drop];congr 1;omega
  (repeat(with_reducible refine And.intro ?_ ?_;focus first|omega|rfl|assumption|exact⟨_,rfl,rfl⟩|(simp;omega)|(simp;done)))
  simp only[hg];have hc:=UR l[i] hz [.d (.s x.bH),.d (.sl (x.aA.map au.enc))] Hw (.s (x.aA.getD 1 dh).bH) (.sl ((gq (x.aA.getD 2 dh).aA).map encS)) _ _ _ _ S (Nat.le_trans t1 (by omega)) (Nat.le_trans t2 (by omega)) (Nat.le_trans t3 (by omega)) (Nat.le_trans t4 (by omega));rw[<-afj hi,<-afk hi,<-afl hi,<-afm hi] at hc;refine aW rfl hc ?_;simp -implicitDefEqProofs (disch:=omega) only[go_sem,VQ]
  with_reducible refine aC (fun hb=> ?_) (fun hb=> ?_)<;>have h:=hb<;>(try simp only[wf_preprocess] at h)<;>simp -implicitDefEqProofs (disch:=omega) only[go_sem,hb]<;>(repeat(with_reducible refine And.intro ?_ ?_;focus first|omega|rfl|assumption|exact⟨_,rfl,rfl⟩|(simp;omega)|(simp;done)))
  ·exact⟨by decide,jB (bJ fun e=>by have:=e.2.1 l[i] (by rw[<-hl];exact hm);rw[this] at h;cases h)⟩
  ·refine bT (i+1) (by omega) rfl rfl ⟨by omega,fun j hj hji=> ?_⟩;by_cases e:j=i
   ·subst e;exact h
   ·exact p2 j hj (by omega)
 ·have hi:i=l.length:=by omega
  subst hi;rw[List.take_length,hl];refine aB (CK (decP x) (ahJ (by omega))) ?_;simp -implicitDefEqProofs (disch:=omega) only[go_sem]
  have hits:∀y∈x.aA.drop 3,sH y=true:=fun y hy=>by
   rw[<-hl] at hy;obtain⟨j,hj,rfl⟩:=List.mem_iff_getElem.1 hy;exact p2 j hj hj
  with_reducible refine aC (fun hb=> ?_) (fun hb=> ?_)<;>have h:=hb<;>(try simp only[wf_preprocess] at h)<;>simp -implicitDefEqProofs (disch:=omega) only[go_sem,hb]<;>(repeat(with_reducible refine And.intro ?_ ?_;focus first|omega|rfl|assumption|exact⟨_,rfl,rfl⟩|(simp;omega)|(simp;done)))
  ·exact⟨by decide,jB (bJ fun e=>by rw[e.2.2] at h;cases h)⟩
  ·have hy:Mt x=true:=dD ⟨hhead,hits,h⟩;rw[ahH hy,hy];exact⟨by decide,jv _⟩
def m2P(p:aK)(n:Nat):Nat:=n+1+(wZ (p.dJ.map bD.enc)+1)
def m3P(p:aK)(n:Nat):Nat:=m2P p n+(wZ (p.bI.map bg.enc)+1)
def m4P(p:aK)(n:Nat):Nat:=m3P p n+(wZ (p.dX.map aJ.enc)+1)
noncomputable def Km(s:List UInt8):Bool:=l8 s&&Mt (ku s)
noncomputable def Hy(s:List UInt8):aK:=if l8 s=true then OX (ku s) else Fu
abbrev aK.cl(p:aK)(n:Nat):List C:=[.d (.s p.fName),.d (.ol n (p.dP.map encS)),.d (.ol (n+1) (ig (p.dJ.map bD.enc) (n+1+1))),.d (.ol (m2P p n) (ig (p.bI.map bg.enc) (m2P p n+1))),.d (.ol (m3P p n) (ig (p.dX.map aJ.enc) (m3P p n+1))),.d (.ol (m4P p n) (ig (p.dK.map bF.enc) (m4P p n+1)))]
theorem Px(s:List UInt8)(hs:s.length<=1048576):aX prog 168 [.c (.d (.s s))] (.eD [(true,(Hy s).cv),(false,[.d (.b (Km s))])]):=aX.of_le fun S=>by
 have hz:=afh s;have c1:=Pq s hs;have c2:=UU (ku s) hz
 have jB:l8 s=false->Less (.eD [(true,Hw),(false,[.d (.b false)])]) (.eD [(true,(Hy s).cv),(false,[.d (.b (Km s))])]):=fun e=>by
  have e1:Hy s=Fu:=if_neg (by rw[e];decide)
  have e2:Km s=false:=by unfold Km;rw[e];rfl
  rw[e2];exact ajz _ e1 false
 have af0:l8 s=true->Hy s=OX (ku s)/\Km s=Mt (ku s):=fun e=>⟨if_pos e,by unfold Km;rw[e];rfl⟩;obtain⟨X,hX⟩:∃X,X=ku s:=⟨_,rfl⟩;rw[<-hX] at c1 c2 af0;refine zcx [.cell 2 77,.tmp 3] func168 ntmps168 ?_;simp -implicitDefEqProofs (disch:=omega) only[go_sem];refine aB c1 ?_;simp -implicitDefEqProofs (disch:=omega) only[go_sem,au.aj,List.map_cons,List.map_nil]
 with_reducible refine aC (fun hb=> ?_) (fun hb=> ?_)<;>have h:=hb<;>(try simp only[wf_preprocess] at h)<;>simp -implicitDefEqProofs (disch:=omega) only[go_sem,hb]<;>(repeat(with_reducible refine And.intro ?_ ?_;focus first|omega|rfl|assumption|exact⟨_,rfl,rfl⟩|(simp;omega)|(simp;done)))
 ·exact jB h
 ·obtain⟨q1,q2⟩:=af0 h;rw[q1,q2];refine aB c2 ?_;simp -implicitDefEqProofs (disch:=omega) only[go_sem,aK.cv];exact jv _
def spl(c:UInt8)(acc:List UInt8):List UInt8->List (List UInt8)
 |[]=>[acc]
 |b::t=>if b=c then acc::spl c [] t else spl c (acc++[b]) t
theorem NA(c:UInt8):∀(s acc:List UInt8),(spl c acc s).length<=s.length+1/\∀l∈spl c acc s,l.length<=acc.length+s.length
 |[],acc=>by simp[spl]
 |b::t,acc=>by
  rw[spl];split
  ·have:=NA c t [];refine⟨by simp only[List.length_cons];omega,fun l hl=> ?_⟩;rcases List.mem_cons.1 hl with rfl|hl
   ·omega
   ·have:=this.2 l hl;simp only[List.length_nil,List.length_cons] at *;omega
  ·have:=NA c t (acc++[b]);refine⟨by simp only[List.length_cons];omega,fun l hl=> ?_⟩;have:=this.2 l hl;simp only[List.length_append,List.length_cons,List.length_nil] at *;omega
def Mv(s:List UInt8):Bool:=s.all fun b=>decide (b=32)
noncomputable def sJ:List (List UInt8)->List aK->List aK×Int
 |[],acc=>(acc,-1)
 |l::ls,acc=>if Mv l=true then sJ ls acc else if Km l=true/\acc.length≠5 then sJ ls (acc++[Hy l]) else([],acc.length)
noncomputable def Hz(s:List UInt8):aM:=⟨(sJ (spl 10 [] s) []).1⟩
noncomputable def ajC(s:List UInt8):Int:=(sJ (spl 10 [] s) []).2
theorem ahM(x:au):(OX x).sz<=190000:=by
 unfold OX;split
 ·rename_i h;have h:x.sz<=11700:=Cn (gD h).1.1;have h1:=Sk x.aA 3;have h2:=gM x
  have h3:(x.aA.drop 3).length<=x.aA.length:=by rw[List.length_drop];omega
  have h4:=oo (gX x.aA 2).aA;have h5:(gX x.aA 2).sz<=dH x.aA:=yE x.aA 2;have h5':=mV (gX x.aA 2);have h6:(dL x.aA 1).length<=dH x.aA:=Nat.le_trans (E8 _) (yE x.aA 1);have t1:=xM qP BQ bD.enc VO (x.aA.drop 3);have t2:=xM vD xJ bg.enc abP (x.aA.drop 3);have t3:=xM tJ Ho aJ.enc abQ (x.aA.drop 3);have t4:=xM GX Hg bF.enc abR (x.aA.drop 3);have t5:=gM (gX x.aA 2)
  simp only[aK.sz,aK.aj,bG,bC,D.sz,List.length_map,decP,Fh,Fj,Fp,Fq,mo,eu] at *
  omega
 ·simp[Fu,aK.sz,aK.aj,bG,D.sz,aQ]
theorem afn(s:List UInt8):(Hy s).sz<=190000:=by
 unfold Hy;split
 ·exact ahM (ku s)
 ·simp[Fu,aK.sz,aK.aj,bG,D.sz,aQ]
theorem OY:∀a b:List (List D),aQ (a++b)=aQ a+aQ b
 |[],b=>by simp[aQ]
 |r::a,b=>by rw[List.cons_append,aQ,aQ,OY a b];omega
theorem HV:∀(ls:List (List UInt8))(acc:List aK),acc.length<=5->aQ (acc.map aK.enc)<=acc.length*190000->(sJ ls acc).1.length<=5/\aQ ((sJ ls acc).1.map aK.enc)<=950000
 |[],acc,h1,h2=>⟨h1,by rw[sJ];have:acc.length*190000<=5*190000:=Nat.mul_le_mul_right _ h1;simp only;omega⟩
 |l::ls,acc,h1,h2=>by
  rw[sJ];split
  ·exact HV ls acc h1 h2
  ·split
   ·rename_i h;refine HV ls _ (by rw[List.length_append,List.length_singleton];omega) ?_;have h3:=afn l;rw[List.map_append,OY]
    simp only[List.map_cons,List.map_nil,aQ,List.length_append,List.length_singleton] at *
    rw[aK.sz] at h3;omega
   ·exact⟨by simp,by simp[aQ]⟩
theorem abU(s:List UInt8):(Hz s).sz<=1048576:=by
 obtain⟨h1,h2⟩:=HV (spl 10 [] s) [] (by simp) (by simp[aQ]);rw[aM.sz];simp only[Hz,aM.aj,bG,D.sz,List.length_map];omega
theorem ajD{s:List UInt8}{i a:Nat}(hi:i<s.length)(ha:a<=i):(s.take (i+1)).drop a=(s.take i).drop a++[s[i]]:=by
 rw[List.take_succ_eq_append_getElem hi,List.drop_append_of_le_length (by rw[List.length_take];omega)]
theorem OZ(out:List (List UInt8))(x:List UInt8):out.map encS++[[D.s x]]=(out++[x]).map encS:=by simp[encS]
theorem abV(l:List aK)(p:aK):l.map aK.enc++[[.s p.fName,.sl (p.dP.map encS),.sl (p.dJ.map bD.enc),.sl (p.bI.map bg.enc),.sl (p.dX.map aJ.enc),.sl (p.dK.map bF.enc)]]=(l++[p]).map aK.enc:=by rw[List.map_append];rfl
theorem SY(s:List UInt8)(hs:s.length<=1073741824):aX prog 167 [.c (.d (.s s))] (.c (.d (.b (Mv s)))):=fun S=>by
 refine zcx [.tmp 2] func167 ntmps167 ?_;simp -implicitDefEqProofs (disch:=omega) only[go_sem]
 refine bN (ι:=Nat) zmx rfl [0,3] (fun i=>[.c (.d (.s s)),.c (.d (.i .i64 i))]) (fun _=>[]::S)
  (fun i=>i<=s.length/\∀j,∀hj:j<s.length,j<i->s[j]=32) (fun i=>s.length-i) 0 rfl rfl ⟨Nat.zero_le _,fun j _ h=>by omega⟩ ?_
 rintro i ⟨p1,p2⟩;simp -implicitDefEqProofs (disch:=omega) only[go_sem]
 with_reducible refine aC (fun hb=> ?_) (fun hb=> ?_)<;>have h:=hb<;>(try simp only[wf_preprocess] at h)<;>simp -implicitDefEqProofs (disch:=omega) only[go_sem,hb]<;>(repeat(with_reducible refine And.intro ?_ ?_;focus first|omega|rfl|assumption|exact⟨_,rfl,rfl⟩|(simp;omega)|(simp;done)))
 ·have hi:i<s.length:=by omega
  (repeat(with_reducible refine And.intro ?_ ?_;focus first|omega|rfl|assumption|exact⟨_,rfl,rfl⟩|(simp;omega)|(simp;done)))
  with_reducible refine aC (fun hb=> ?_) (fun hb=> ?_)<;>have h:=hb<;>(try simp only[wf_preprocess] at h)<;>simp -implicitDefEqProofs (disch:=omega) only[go_sem,hb]<;>(repeat(with_reducible refine And.intro ?_ ?_;focus first|omega|rfl|assumption|exact⟨_,rfl,rfl⟩|(simp;omega)|(simp;done)))
  ·have:Mv s=false:=Bool.eq_false_iff.2 fun e=>h (by
    have:=List.all_eq_true.1 e s[i] (List.getElem_mem hi)
    rw[show s.getD i 0=s[i] by simp[List.getD,hi],of_decide_eq_true this];rfl)
   rw[this]
  ·refine bT (i+1) (by omega) rfl rfl ⟨by omega,fun j hj hji=> ?_⟩;by_cases e:j=i
   ·subst e;rw[show s.getD j 0=s[j] by simp[List.getD,hi]] at h;exact UInt8.toNat_inj.1 (by rw[show(32:UInt8).toNat=32 from rfl];omega)
   ·exact p2 j hj (by omega)
 ·have:Mv s=true:=List.all_eq_true.2 fun b hb=>by
   obtain⟨j,hj,rfl⟩:=List.mem_iff_getElem.1 hb;exact decide_eq_true (p2 j hj (by omega))
  rw[this]
theorem S9(s:List UInt8)(c:UInt8)(hs:s.length<=1048576):aX prog 166 [.c (.d (.s s)),.c (.d (.i .u8 c.toNat))] (.c (.d (.sl ((spl c [] s).map encS)))):=fun S=>by
 refine zcx [.tmp 4] func166 ntmps166 ?_;simp -implicitDefEqProofs (disch:=omega) only[go_sem];refine kN 5 1 [] rfl (by simp) ?_
 refine bN (ι:=Nat×Nat×List (List UInt8)) zmx rfl [0,1,5,6,7] (fun y=>[.c (.d (.s s)),.c (.d (.i .u8 c.toNat)),.c (.bV (0,0) (y.2.2.map encS)),.c (.d (.i .i64 y.2.1)),.c (.d (.i .i64 y.1))]) (fun y=>[.tok 1 (y.2.2.map encS)]::S)
  (fun y=>y.2.1<=y.1/\y.2.2.length<=y.1/\((y.1<=s.length/\y.2.2++spl c ((s.take y.1).drop y.2.1) (s.drop y.1)=spl c [] s)\/(y.1=s.length+1/\y.2.2=spl c [] s))) (fun y=>s.length+1-y.1) (0,0,[]) rfl rfl ⟨Nat.le_refl _,Nat.le_refl _,.inl ⟨Nat.zero_le _,by simp⟩⟩ ?_
 rintro⟨i,fr,out⟩ ⟨p1,p2,p3⟩;simp only at p1 p2 p3
 have p4:i<=s.length+1:=by omega
 simp -implicitDefEqProofs (disch:=omega) only[go_sem]
 with_reducible refine aC (fun hb=> ?_) (fun hb=> ?_)<;>have h:=hb<;>(try simp only[wf_preprocess] at h)<;>simp -implicitDefEqProofs (disch:=omega) only[go_sem,hb]<;>(repeat(with_reducible refine And.intro ?_ ?_;focus first|omega|rfl|assumption|exact⟨_,rfl,rfl⟩|(simp;omega)|(simp;done)))
 ·have h1:i<=s.length:=by omega
  have hq:out++spl c ((s.take i).drop fr) (s.drop i)=spl c [] s:=by
   rcases p3 with p3|p3
   ·exact p3.2
   ·omega
  with_reducible refine aC (fun hb=> ?_) (fun hb=> ?_)<;>have h:=hb<;>(try simp only[wf_preprocess] at h)<;>simp -implicitDefEqProofs (disch:=omega) only[go_sem,hb]<;>(repeat(with_reducible refine And.intro ?_ ?_;focus first|omega|rfl|assumption|exact⟨_,rfl,rfl⟩|(simp;omega)|(simp;done)))
  ·have hi:i=s.length:=by omega
   subst hi;rw[List.drop_length,spl] at hq
   (repeat(with_reducible refine And.intro ?_ ?_;focus first|omega|rfl|assumption|exact⟨_,rfl,rfl⟩|(simp;omega)|(simp;done)))
   rw[OZ];exact bT (s.length+1,s.length+1,out++[(s.take s.length).drop fr]) (by simp only;omega) rfl rfl ⟨Nat.le_refl _,by simp only[List.length_append,List.length_singleton];omega,.inr ⟨rfl,hq⟩⟩
  ·have hi:i<s.length:=by omega
   have hg:s.getD i 0=s[i]:=by simp[List.getD,hi]
   (repeat(with_reducible refine And.intro ?_ ?_;focus first|omega|rfl|assumption|exact⟨_,rfl,rfl⟩|(simp;omega)|(simp;done)))
   with_reducible refine aC (fun hb=> ?_) (fun hb=> ?_)<;>have h:=hb<;>(try simp only[wf_preprocess] at h)<;>simp -implicitDefEqProofs (disch:=omega) only[go_sem,hb]<;>(repeat(with_reducible refine And.intro ?_ ?_;focus first|omega|rfl|assumption|exact⟨_,rfl,rfl⟩|(simp;omega)|(simp;done)))
   ·have hc:s[i]=c:=by
     rw[hg] at h;exact UInt8.toNat_inj.1 (by omega)
    rw[List.drop_eq_getElem_cons hi,spl,if_pos hc] at hq
    (repeat(with_reducible refine And.intro ?_ ?_;focus first|omega|rfl|assumption|exact⟨_,rfl,rfl⟩|(simp;omega)|(simp;done)))
    rw[OZ];refine bT (i+1,i+1,out++[(s.take i).drop fr]) (by simp only;omega) rfl rfl ⟨Nat.le_refl _,by simp only[List.length_append,List.length_singleton];omega,.inl ⟨by simp only;omega,?_⟩⟩
    ·simp only
     rw[show(s.take (i+1)).drop (i+1)=[] from List.drop_eq_nil_of_le (by rw[List.length_take];omega),<-hq,List.append_assoc];rfl
   ·have hc:s[i]≠c:=fun e=>h (by rw[hg,e]);rw[List.drop_eq_getElem_cons hi,spl,if_neg hc,<-ajD hi p1] at hq;exact bT (i+1,fr,out) (by simp only;omega) rfl rfl ⟨by simp only;omega,by simp only;omega,.inl ⟨by simp only;omega,hq⟩⟩
 ·rcases p3 with p3|p3
  ·omega
  ·rw[<-p3.2]
theorem O0{bs:List Int}(hB:Bytes bs)(c c2:Cu bs)(k:Int)(l j:Nat)(S:Store)(hk:bn S (l,j)=some (.box (cur c)))(h2:aT 10 c=(k,c2))(hk3:k=2\/k=3):
 bY prog 102 [.c (.ptr (l,j) 0)] S (fun r S1=>r=(uQ k c2).1.v/\S1=aY S (l,j) (.box (cur (uQ k c2).2))):=by
 have g:∀x:Ab.Obj,bn (aY S (l,j) x) (l,j)=some x:=fun x=>cO _ _ _ _ hk;have q2:=fun fr:List Ab.Obj=>dR hB c (1+l) j (fr::S) 10 (by rw[aH];exact hk) (by omega) (by omega);simp only[h2,ak] at q2;obtain⟨q,hq⟩:∃q,q=uQ k c2:=⟨_,rfl⟩;rw[<-hq];refine bY.of_le ?_;refine Ao [67] (rs:=[.cell 2 59]) zmx func102 ntmps102 rfl rfl rfl rfl rfl ?_;simp -implicitDefEqProofs (disch:=omega) only[go_sem];refine aB (fT _) ?_;simp -implicitDefEqProofs (disch:=omega) only[go_sem];refine aB (fT _) ?_;simp -implicitDefEqProofs (disch:=omega) only[go_sem]
 (repeat(with_reducible refine And.intro ?_ ?_;focus first|omega|rfl|assumption|exact⟨_,rfl,rfl⟩|(simp;omega)|(simp;done)))
 refine aB (rU [108,105,115,116] [nQ [97]] rfl (by decide) (.inl rfl)) ?_;simp -implicitDefEqProofs (disch:=omega) only[go_sem]
 (repeat(with_reducible refine And.intro ?_ ?_;focus first|omega|rfl|assumption|exact⟨_,rfl,rfl⟩|(simp;omega)|(simp;done)))
 refine aW rfl (q2 _) ?_;rcases hk3 with rfl|rfl
 ·simp only[uQ,reduceIte,Int.reduceEq] at hq;simp -implicitDefEqProofs (disch:=omega) only[go_sem,ak,ah];refine aW rfl (iF hB 2 c2 (1+l) j _ (by rw[aH];exact g _) (by omega)) ?_;simp -implicitDefEqProofs (disch:=omega) only[go_sem,ak,ah]
  (repeat(with_reducible refine And.intro ?_ ?_;focus first|omega|rfl|assumption|exact⟨_,rfl,rfl⟩|(simp;omega)|(simp;done)))
  refine⟨by cases l<;>rfl,?_⟩;simp -implicitDefEqProofs (disch:=omega) only[go_sem,ak,ah];rw[hq]
  first|exact⟨aF rfl,rfl⟩|(refine⟨aF ?_,rfl⟩;simp only[bg.v,List.map_cons,List.map_nil,List.map_append,aS.aj,aN.aj,aI.aj,aR.aj,ay.aj,aD.aj,List.cons_append,List.nil_append];rfl)
 ·simp only[uQ,reduceIte,Int.reduceEq] at hq;simp -implicitDefEqProofs (disch:=omega) only[go_sem,ak,ah];refine cu [true] rfl (dS hB c2 (1+l) j _ PZ (by rw[aH];exact g _) (by decide) (by decide)) ?_;simp -implicitDefEqProofs (disch:=omega) only[go_sem,ak,ah]
  (repeat(with_reducible refine And.intro ?_ ?_;focus first|omega|rfl|assumption|exact⟨_,rfl,rfl⟩|(simp;omega)|(simp;done)))
  refine⟨by cases l<;>rfl,?_⟩;simp -implicitDefEqProofs (disch:=omega) only[go_sem,ak,ah];rw[hq]
  first|exact⟨aF rfl,rfl⟩|(refine⟨aF ?_,rfl⟩;simp only[bg.v,List.map_cons,List.map_nil,List.map_append,aS.aj,aN.aj,aI.aj,aR.aj,ay.aj,aD.aj,List.cons_append,List.nil_append];rfl)
theorem abW{bs:List Int}(hB:Bytes bs)(c c2:Cu bs)(k:Int)(l j:Nat)(S:Store)(hk:bn S (l,j)=some (.box (cur c)))(h2:aT 10 c=(k,c2))(hk2:k≠2)(hk3:k≠3):
 bY prog 102 [.c (.ptr (l,j) 0)] S (fun r S1=>r=(uQ k c2).1.v/\S1=aY S (l,j) (.box (cur (uQ k c2).2))):=by
 have g:∀x:Ab.Obj,bn (aY S (l,j) x) (l,j)=some x:=fun x=>cO _ _ _ _ hk;have q2:=fun fr:List Ab.Obj=>dR hB c (1+l) j (fr::S) 10 (by rw[aH];exact hk) (by omega) (by omega);simp only[h2,ak] at q2;obtain⟨q,hq⟩:∃q,q=uQ k c2:=⟨_,rfl⟩;rw[<-hq];refine bY.of_le ?_;refine nY [67] (rs:=[.cell 2 59]) zmx func102 ntmps102 rfl rfl rfl rfl rfl ?_;simp -implicitDefEqProofs (disch:=omega) only[go_sem];refine aB (fT _) ?_;simp -implicitDefEqProofs (disch:=omega) only[go_sem];refine aB (fT _) ?_;simp -implicitDefEqProofs (disch:=omega) only[go_sem]
 (repeat(with_reducible refine And.intro ?_ ?_;focus first|omega|rfl|assumption|exact⟨_,rfl,rfl⟩|(simp;omega)|(simp;done)))
 refine aB (rU [108,105,115,116] [nQ [97]] rfl (by decide) (.inl rfl)) ?_;simp -implicitDefEqProofs (disch:=omega) only[go_sem]
 (repeat(with_reducible refine And.intro ?_ ?_;focus first|omega|rfl|assumption|exact⟨_,rfl,rfl⟩|(simp;omega)|(simp;done)))
 refine aW rfl (q2 _) ?_;simp -implicitDefEqProofs (disch:=omega) only[go_sem,ak,ah]
 with_reducible refine aC (fun hb=> ?_) (fun hb=> ?_)<;>have h:=hb<;>(try simp only[wf_preprocess] at h)<;>simp -implicitDefEqProofs (disch:=omega) only[go_sem,hb,ak,ah]<;>(repeat(with_reducible refine And.intro ?_ ?_;focus first|omega|rfl|assumption|exact⟨_,rfl,rfl⟩|(simp;omega)|(simp;done)))
 ·subst h;simp only[uQ,reduceIte,Int.reduceEq] at hq;refine cu [true] rfl (dS hB c2 (1+l) j _ FM (by rw[aH];exact g _) (by decide) (by decide)) ?_;simp -implicitDefEqProofs (disch:=omega) only[go_sem,ak,ah]
  (repeat(with_reducible refine And.intro ?_ ?_;focus first|omega|rfl|assumption|exact⟨_,rfl,rfl⟩|(simp;omega)|(simp;done)))
  refine⟨by cases l<;>rfl,?_⟩;simp -implicitDefEqProofs (disch:=omega) only[go_sem,ak,ah];rw[hq]
  first|exact⟨aF rfl,rfl⟩|(refine⟨aF ?_,rfl⟩;simp only[bg.v,List.map_cons,List.map_nil,List.map_append,aS.aj,aN.aj,aI.aj,aR.aj,ay.aj,aD.aj,List.cons_append,List.nil_append];rfl)
 have e0:=h
 with_reducible refine aC (fun hb=> ?_) (fun hb=> ?_)<;>have h:=hb<;>(try simp only[wf_preprocess] at h)<;>simp -implicitDefEqProofs (disch:=omega) only[go_sem,hb,ak,ah]<;>(repeat(with_reducible refine And.intro ?_ ?_;focus first|omega|rfl|assumption|exact⟨_,rfl,rfl⟩|(simp;omega)|(simp;done)))
 ·subst h;simp only[uQ,reduceIte,Int.reduceEq] at hq;have hx:=gK (n:=2) c2 (by omega);obtain⟨m,hm⟩:∃m:Nat,(aT 2 c2).1=(m:Int):=⟨(aT 2 c2).1.toNat,by omega⟩;have q3:=fun fr:List Ab.Obj=>dR hB c2 (1+l) j (fr::aY S (l,j) (.box (cur c2))) 2 (by rw[aH];exact g _) (by omega) (by omega);rw[hm] at hx hq;simp only[hm,ak,ah] at q3;refine aW rfl (q3 _) ?_;simp -implicitDefEqProofs (disch:=omega) only[go_sem,ak,ah]
  (repeat(with_reducible refine And.intro ?_ ?_;focus first|omega|rfl|assumption|exact⟨_,rfl,rfl⟩|(simp;omega)|(simp;done)))
  refine⟨by cases l<;>rfl,?_⟩;simp -implicitDefEqProofs (disch:=omega) only[go_sem,ak,ah];rw[hq]
  have hm2:m=0\/m=1:=by omega
  clear hm q3;rcases hm2 with rfl|rfl
  all_goals
   refine⟨aF ?_,rfl⟩;rfl
 have e1:=h
 with_reducible refine aC (fun hb=> ?_) (fun hb=> ?_)<;>have h:=hb<;>(try simp only[wf_preprocess] at h)<;>simp -implicitDefEqProofs (disch:=omega) only[go_sem,hb,ak,ah]<;>(repeat(with_reducible refine And.intro ?_ ?_;focus first|omega|rfl|assumption|exact⟨_,rfl,rfl⟩|(simp;omega)|(simp;done)))
 ·exact absurd h hk2
 with_reducible refine aC (fun hb=> ?_) (fun hb=> ?_)<;>have h:=hb<;>(try simp only[wf_preprocess] at h)<;>simp -implicitDefEqProofs (disch:=omega) only[go_sem,hb,ak,ah]<;>(repeat(with_reducible refine And.intro ?_ ?_;focus first|omega|rfl|assumption|exact⟨_,rfl,rfl⟩|(simp;omega)|(simp;done)))
 ·exact absurd h hk3
 simp only[uQ,if_neg e0,if_neg e1,if_neg hk2,if_neg hk3] at hq;rw[hq]
 first|exact⟨aF rfl,rfl⟩|(refine⟨aF ?_,rfl⟩;simp only[bg.v,List.map_cons,List.map_nil,List.map_append,aS.aj,aN.aj,aI.aj,aR.aj,ay.aj,aD.aj,List.cons_append,List.nil_append];rfl)
theorem YV{bs:List Int}(hB:Bytes bs)(c:Cu bs)(l j:Nat)(S:Store)(hk:bn S (l,j)=some (.box (cur c))):
 bY prog 102 [.c (.ptr (l,j) 0)] S (fun r S1=>r=(Aq c).1.v/\S1=aY S (l,j) (.box (cur (Aq c).2))):=by
 unfold Aq;by_cases h2:(aT 10 c).1=2
 ·exact O0 hB c _ _ l j S hk rfl (.inl h2)
 by_cases h3:(aT 10 c).1=3
 ·exact O0 hB c _ _ l j S hk rfl (.inr h3)
 ·exact abW hB c _ _ l j S hk rfl h2 h3
def pG{bs:List Int}(p:aK)(k:Int)(c:Cu bs):aK×Cu bs:=
 if k=0 then(⟨p.fName,p.dP,p.dJ++[(xI c).1],p.bI,p.dX,p.dK⟩,(xI c).2) else
 if k=1 then(⟨p.fName,p.dP,p.dJ,p.bI++[(Aq c).1],p.dX,p.dK⟩,(Aq c).2) else
 if k=2 then(⟨p.fName,p.dP,p.dJ,p.bI,p.dX++[(instX c).1],p.dK⟩,(instX c).2) else
 (⟨p.fName,p.dP,p.dJ,p.bI,p.dX,p.dK++[(LZ c).1]⟩,(LZ c).2)
def BR{bs:List Int}:Nat->aK->Cu bs->aK×Cu bs
 |0,p,c=>(p,c)
 |n+1,p,c=>BR n (pG p (aT 4 c).1 (aT 4 c).2).1 (pG p (aT 4 c).1 (aT 4 c).2).2
def P7:List (List UInt8):=[[],[99,111,114,101]]
theorem YW:eY P7:=by unfold eY;decide
def YX:List (List UInt8):=[[99,111,114,101],[113],[112]]
theorem abX:eY YX:=by unfold eY;decide
def NC{bs:List Int}(p:aK)(k:Int)(c:Cu bs):aK×Cu bs:=
 if k=0 then(⟨(bR P7 c).1,p.dP,p.dJ,p.bI,p.dX,p.dK⟩,(bR P7 c).2) else
 if k=1 then(⟨p.fName,p.dP++[(bR YX c).1],p.dJ,p.bI,p.dX,p.dK⟩,(bR YX c).2) else(p,c)
def Fw:aK:=⟨[112],[[99,111,114,101]],[],[],[],[]⟩
def afo{bs:List Int}(p:aK)(c:Cu bs):aK×Cu bs:=NC p (aT 10 c).1 (aT 10 c).2
def Kn{bs:List Int}(c:Cu bs):aK×Cu bs:=
 afo (BR (aT 5 c).1.toNat Fw (aT 5 c).2).1 (BR (aT 5 c).1.toNat Fw (aT 5 c).2).2
theorem ql(s:List UInt8)(d:List (List UInt8))(t:List bD)(a:List bg)(i:List aJ)(f:List bF):
 (aK.mk s d t a i f).sz=s.length+(d.length+aQ (d.map encS))+(t.length+aQ (t.map bD.enc))+(a.length+aQ (a.map bg.enc))+(i.length+aQ (i.map aJ.enc))+(f.length+aQ (f.map bF.enc)):=by
 simp only[aK.sz,aK.aj,bG,bC,D.sz,List.length_map];omega
theorem YZ{bs:List Int}(p:aK)(k:Int)(c:Cu bs):(pG p k c).1.sz<=p.sz+2001/\(pG p k c).1.fName=p.fName/\(pG p k c).1.dP=p.dP:=by
 have h0:=ql p.fName p.dP p.dJ p.bI p.dX p.dK;rw[aK.eta] at h0;have h1:=abh c;have h2:=aeI c;have h3:=instX_sz c;have h4:=ajg c;unfold pG;split
 ·refine⟨?_,rfl,rfl⟩;simp only[ql,List.map_append,om,List.map_cons,List.map_nil,aQ,List.length_append,List.length_cons,List.length_nil,bD.cK];omega
 split
 ·refine⟨?_,rfl,rfl⟩;simp only[ql,List.map_append,om,List.map_cons,List.map_nil,aQ,List.length_append,List.length_cons,List.length_nil,bg.cK];omega
 split
 ·refine⟨?_,rfl,rfl⟩;simp only[ql,List.map_append,om,List.map_cons,List.map_nil,aQ,List.length_append,List.length_cons,List.length_nil,aJ.cK];omega
 ·refine⟨?_,rfl,rfl⟩;simp only[ql,List.map_append,om,List.map_cons,List.map_nil,aQ,List.length_append,List.length_cons,List.length_nil,bF.cK];omega
theorem VR{bs:List Int}:∀(n:Nat)(p:aK)(c:Cu bs),(BR n p c).1.sz<=p.sz+n*2001
 |0,p,c=>by show p.sz<=_;omega
 |n+1,p,c=>by
  have h1:=(YZ p (aT 4 c).1 (aT 4 c).2).1;have h2:=VR n (pG p (aT 4 c).1 (aT 4 c).2).1 (pG p (aT 4 c).1 (aT 4 c).2).2;rw[BR];omega
theorem ahN{bs:List Int}(c:Cu bs):(Kn c).1.sz<=9000:=by
 have hr:=gK (n:=5) c (by omega);have h1:=VR (aT 5 c).1.toNat Fw (aT 5 c).2
 have h0:Fw.sz=6:=by rw[Fw,ql];simp[aQ,ny]
 have h2:(aT 5 c).1.toNat<=4:=by omega
 have h3:=Nat.mul_le_mul_right 2001 h2;unfold Kn afo;generalize (BR (aT 5 c).1.toNat Fw (aT 5 c).2).1=p at h1;generalize (BR (aT 5 c).1.toNat Fw (aT 5 c).2).2=c1;generalize (aT 10 c1).1=k;generalize (aT 10 c1).2=c2;have h4:=gN c2 YW;have h5:=gN c2 abX;have h6:=ql p.fName p.dP p.dJ p.bI p.dX p.dK;rw[aK.eta] at h6;unfold NC;split
 ·simp only[ql];omega
 split
 ·simp only[ql,List.map_append,om,List.map_cons,List.map_nil,aQ,ny,List.length_append,List.length_cons,List.length_nil];omega
 ·show p.sz<=_;omega
theorem abY{bs:List Int}(hB:Bytes bs)(c:Cu bs)(l j:Nat)(S:Store)(hk:bn S (l,j)=some (.box (cur c))):
 bY prog 63 [.c (.ptr (l,j) 0)] S (fun r S1=>r=(Kn c).1.v/\S1=aY S (l,j) (.box (cur (Kn c).2))):=by
 have g:∀x:Ab.Obj,bn (aY S (l,j) x) (l,j)=some x:=fun x=>cO _ _ _ _ hk;unfold Kn;have hx:=gK (n:=5) c (by omega);obtain⟨n,hn⟩:∃n:Nat,(aT 5 c).1=(n:Int):=⟨(aT 5 c).1.toNat,by omega⟩;have q0:=fun fr:List Ab.Obj=>dR hB c (1+l) j (fr::S) 5 (by rw[aH];exact hk) (by omega) (by omega)
 generalize hc0:(aT 5 c).2=c0 at *
 rw[hn] at hx;simp only[hn,Int.toNat_natCast,ak] at q0 ⊢;obtain⟨R,hR⟩:∃R,R=BR n Fw c0:=⟨_,rfl⟩;rw[<-hR];refine bY.of_le ?_;refine nY [67] (rs:=[.cell 2 77]) zmx func63 ntmps63 rfl rfl rfl rfl rfl ?_;simp -implicitDefEqProofs (disch:=omega) only[go_sem]
 (repeat(with_reducible refine And.intro ?_ ?_;focus first|omega|rfl|assumption|exact⟨_,rfl,rfl⟩|(simp;omega)|(simp;done)))
 refine aW rfl (q0 _) ?_;simp -implicitDefEqProofs (disch:=omega) only[go_sem,ak];refine jr 1 2 5 _ rfl rfl ?_;refine jr 1 3 3 _ rfl rfl ?_;refine jr 1 4 12 _ rfl rfl ?_;refine jr 1 5 16 _ rfl rfl ?_
 refine JO [67] zmx rfl [0,2,3,4,5] (ι:=Nat×aK×Cu bs) (fun x=>[.c (.ptr (1+l,j) 0),.c (.ptr (0,0) 0),.c (.ptr (0,1) 0),.c (.d (.i .i64 n)),.c (.d (.i .i64 x.1))])
  (fun x=>[.box [.d (.s []),.bM [],.bM [],.bM [],.bM [],.bM []],.box [.d (.s [112]),.bM [[.s [99,111,114,101]]],.bV (0,2) (x.2.1.dJ.map bD.enc),.bV (0,3) (x.2.1.bI.map bg.enc),.bV (0,4) (x.2.1.dX.map aJ.enc),.bV (0,5) (x.2.1.dK.map bF.enc)],
    .tok 5 (x.2.1.dJ.map bD.enc),.tok 3 (x.2.1.bI.map bg.enc),.tok 12 (x.2.1.dX.map aJ.enc),.tok 16 (x.2.1.dK.map bF.enc)]::aY S (l,j) (.box (cur x.2.2)))
  (fun x=>x.1<=n/\BR (n-x.1) x.2.1 x.2.2=R/\x.2.1.fName=[112]/\x.2.1.dP=[[99,111,114,101]]/\x.2.1.dJ.length<=x.1/\x.2.1.bI.length<=x.1/\x.2.1.dX.length<=x.1/\x.2.1.dK.length<=x.1) (fun x=>n-x.1) (0,Fw,c0) rfl rfl ⟨Nat.zero_le _,hR.symm,rfl,rfl,Nat.le_refl _,Nat.le_refl _,Nat.le_refl _,Nat.le_refl _⟩ ?_
 rintro⟨i,⟨pn,pd,pt,pa,pi,pf⟩,d⟩ ⟨p1,p2,p3,p4,p5,p6,p7,p8⟩;simp only at p1 p2 p3 p4 p5 p6 p7 p8;subst p3 p4;simp -implicitDefEqProofs (disch:=omega) only[go_sem,ak,ah]
 with_reducible refine aC (fun hb=> ?_) (fun hb=> ?_)<;>have h:=hb<;>(try simp only[wf_preprocess] at h)<;>simp -implicitDefEqProofs (disch:=omega) only[go_sem,hb,ak,ah]<;>(repeat(with_reducible refine And.intro ?_ ?_;focus first|omega|rfl|assumption|exact⟨_,rfl,rfl⟩|(simp;omega)|(simp;done)))
 ·have ek:n-i=(n-(i+1))+1:=by omega
  rw[ek,BR] at p2;obtain⟨k,hkd⟩:∃k,k=(aT 4 d).1:=⟨_,rfl⟩;obtain⟨d1,hd1⟩:∃d1,d1=(aT 4 d).2:=⟨_,rfl⟩;have q1:=fun fr:List Ab.Obj=>dR hB d (1+l) j (fr::aY S (l,j) (.box (cur d))) 4 (by rw[aH];exact g _) (by omega) (by omega);simp only[<-hkd,<-hd1,ak,ah] at q1 p2;refine aW rfl (q1 _) ?_;simp -implicitDefEqProofs (disch:=omega) only[go_sem,ak,ah]
  with_reducible refine aC (fun hb=> ?_) (fun hb=> ?_)<;>have h:=hb<;>(try simp only[wf_preprocess] at h)<;>simp -implicitDefEqProofs (disch:=omega) only[go_sem,hb,ak,ah]<;>(repeat(with_reducible refine And.intro ?_ ?_;focus first|omega|rfl|assumption|exact⟨_,rfl,rfl⟩|(simp;omega)|(simp;done)))
  ·subst h;simp only[pG,reduceIte] at p2;refine aW rfl (UD hB d1 (1+l) j _ (by rw[aH];exact g _)) ?_;simp -implicitDefEqProofs (disch:=omega) only[go_sem,ak,ah]
   (repeat(with_reducible refine And.intro ?_ ?_;focus first|omega|rfl|assumption|exact⟨_,rfl,rfl⟩|(simp;omega)|(simp;done)))
   refine⟨by cases l<;>rfl,?_⟩;simp -implicitDefEqProofs (disch:=omega) only[go_sem,ak,ah];refine fu 6 (by decide) (i+1,⟨_,_,pt++[(xI d1).1],pa,pi,pf⟩,(xI d1).2) (by simp only;omega) rfl ?_ (by cases l<;>rfl) rfl ⟨by simp only;omega,p2,rfl,rfl,by simp only[List.length_append,List.length_cons,List.length_nil];omega,by simp only;omega,by simp only;omega,by simp only;omega⟩;simp only[List.map_append,List.map_cons,List.map_nil];rfl
  have e0:=h
  with_reducible refine aC (fun hb=> ?_) (fun hb=> ?_)<;>have h:=hb<;>(try simp only[wf_preprocess] at h)<;>simp -implicitDefEqProofs (disch:=omega) only[go_sem,hb,ak,ah]<;>(repeat(with_reducible refine And.intro ?_ ?_;focus first|omega|rfl|assumption|exact⟨_,rfl,rfl⟩|(simp;omega)|(simp;done)))
  ·subst h;simp only[pG,reduceIte,Int.reduceEq] at p2;refine aW rfl (YV hB d1 (1+l) j _ (by rw[aH];exact g _)) ?_;simp -implicitDefEqProofs (disch:=omega) only[go_sem,ak,ah]
   (repeat(with_reducible refine And.intro ?_ ?_;focus first|omega|rfl|assumption|exact⟨_,rfl,rfl⟩|(simp;omega)|(simp;done)))
   refine⟨by cases l<;>rfl,?_⟩;simp -implicitDefEqProofs (disch:=omega) only[go_sem,ak,ah];refine fu 6 (by decide) (i+1,⟨_,_,pt,pa++[(Aq d1).1],pi,pf⟩,(Aq d1).2) (by simp only;omega) rfl ?_ (by cases l<;>rfl) rfl ⟨by simp only;omega,p2,rfl,rfl,by simp only;omega,by simp only[List.length_append,List.length_cons,List.length_nil];omega,by simp only;omega,by simp only;omega⟩;simp only[List.map_append,List.map_cons,List.map_nil];rfl
  have e1:=h
  with_reducible refine aC (fun hb=> ?_) (fun hb=> ?_)<;>have h:=hb<;>(try simp only[wf_preprocess] at h)<;>simp -implicitDefEqProofs (disch:=omega) only[go_sem,hb,ak,ah]<;>(repeat(with_reducible refine And.intro ?_ ?_;focus first|omega|rfl|assumption|exact⟨_,rfl,rfl⟩|(simp;omega)|(simp;done)))
  ·subst h;simp only[pG,reduceIte,Int.reduceEq] at p2;refine aW rfl (YO hB d1 (1+l) j _ (by rw[aH];exact g _)) ?_;simp -implicitDefEqProofs (disch:=omega) only[go_sem,ak,ah]
   (repeat(with_reducible refine And.intro ?_ ?_;focus first|omega|rfl|assumption|exact⟨_,rfl,rfl⟩|(simp;omega)|(simp;done)))
   refine⟨by cases l<;>rfl,?_⟩;simp -implicitDefEqProofs (disch:=omega) only[go_sem,ak,ah];refine fu 6 (by decide) (i+1,⟨_,_,pt,pa,pi++[(instX d1).1],pf⟩,(instX d1).2) (by simp only;omega) rfl ?_ (by cases l<;>rfl) rfl ⟨by simp only;omega,p2,rfl,rfl,by simp only;omega,by simp only;omega,by simp only[List.length_append,List.length_cons,List.length_nil];omega,by simp only;omega⟩;simp only[List.map_append,List.map_cons,List.map_nil,aJ.aj,ay.aj,List.cons_append,List.nil_append];rfl
  have e2:=h;simp only[pG,if_neg e0,if_neg e1,if_neg e2] at p2;refine aW rfl (aeL hB d1 (1+l) j _ (by rw[aH];exact g _)) ?_;simp -implicitDefEqProofs (disch:=omega) only[go_sem,ak,ah]
  (repeat(with_reducible refine And.intro ?_ ?_;focus first|omega|rfl|assumption|exact⟨_,rfl,rfl⟩|(simp;omega)|(simp;done)))
  refine⟨by cases l<;>rfl,?_⟩;simp -implicitDefEqProofs (disch:=omega) only[go_sem,ak,ah];refine fu 6 (by decide) (i+1,⟨_,_,pt,pa,pi,pf++[(LZ d1).1]⟩,(LZ d1).2) (by simp only;omega) rfl ?_ (by cases l<;>rfl) rfl ⟨by simp only;omega,p2,rfl,rfl,by simp only;omega,by simp only;omega,by simp only;omega,by simp only[List.length_append,List.length_cons,List.length_nil];omega⟩;simp only[List.map_append,List.map_cons,List.map_nil,bF.aj,ay.aj,aD.aj,List.cons_append,List.nil_append];rfl
 ·have ei:n-i=0:=by omega
  rw[ei,BR] at p2;subst p2;unfold afo;obtain⟨k,hkd⟩:∃k,k=(aT 10 d).1:=⟨_,rfl⟩;obtain⟨d1,hd1⟩:∃d1,d1=(aT 10 d).2:=⟨_,rfl⟩;have q1:=fun fr:List Ab.Obj=>dR hB d (1+l) j (fr::aY S (l,j) (.box (cur d))) 10 (by rw[aH];exact g _) (by omega) (by omega);simp only[<-hkd,<-hd1,ak,ah] at q1 ⊢;obtain⟨q,hq⟩:∃q,q=NC ⟨[112],[[99,111,114,101]],pt,pa,pi,pf⟩ k d1:=⟨_,rfl⟩;rw[<-hq];refine aW rfl (q1 _) ?_;simp -implicitDefEqProofs (disch:=omega) only[go_sem,ak,ah]
  with_reducible refine aC (fun hb=> ?_) (fun hb=> ?_)<;>have h:=hb<;>(try simp only[wf_preprocess] at h)<;>simp -implicitDefEqProofs (disch:=omega) only[go_sem,hb,ak,ah]<;>(repeat(with_reducible refine And.intro ?_ ?_;focus first|omega|rfl|assumption|exact⟨_,rfl,rfl⟩|(simp;omega)|(simp;done)))
  ·subst h;simp only[NC,reduceIte] at hq;refine cu [true] rfl (dS hB d1 (1+l) j _ P7 (by rw[aH];exact g _) (by decide) (by decide)) ?_;simp -implicitDefEqProofs (disch:=omega) only[go_sem,ak,ah];rw[hq];exact⟨aF rfl,rfl⟩
  have e0:=h
  with_reducible refine aC (fun hb=> ?_) (fun hb=> ?_)<;>have h:=hb<;>(try simp only[wf_preprocess] at h)<;>simp -implicitDefEqProofs (disch:=omega) only[go_sem,hb,ak,ah]<;>(repeat(with_reducible refine And.intro ?_ ?_;focus first|omega|rfl|assumption|exact⟨_,rfl,rfl⟩|(simp;omega)|(simp;done)))
  ·subst h;simp only[NC,reduceIte,Int.reduceEq] at hq;refine cu [true] rfl (dS hB d1 (1+l) j _ YX (by rw[aH];exact g _) (by decide) (by decide)) ?_;simp -implicitDefEqProofs (disch:=omega) only[go_sem,ak,ah]
   (repeat(with_reducible refine And.intro ?_ ?_;focus first|omega|rfl|assumption|exact⟨_,rfl,rfl⟩|(simp;omega)|(simp;done)))
   refine⟨by cases l<;>rfl,?_⟩;simp -implicitDefEqProofs (disch:=omega) only[go_sem,ak,ah];rw[hq];exact⟨aF rfl,rfl⟩
  have e1:=h;simp only[NC,if_neg e0,if_neg e1] at hq;rw[hq];exact⟨aF rfl,rfl⟩
section
variable {P:Program} {N:Nat} {S S':Store} {f:FuncId} {args:List V}
theorem ahO{fn:Func}{c:Code}{raw:V->List Obj->Store->Prop}{rs:List ResultVar}(eH:P.follows .mixedOrders=true)(hf:P.funcs[f]? =some fn)(hN:fn.ntmps=N)
 (hb:fn.body=some c) (hn:(fn.name== "runtime.NumGoroutine")=false) (hr:fn.results.toList=rs) (hl:Nat.ble args.length N=true) (hok:sQ N c=true)
 (h:nC P N c (Nl P rs raw) ⟨lu (args.map (V.up 1)) 0,[]::S⟩):ng P f args S raw:=by
 subst hN;subst hr;exact GY hf hb hn (Nat.le_of_ble_eq_true hl) (uq eH c _ _ hok h)
theorem ng.ali{z:Nat}{es:List (List D)}{i:Int}(ht:zy S'=true)(h:ng P f args S fun r own S1=>S1=S'/\∃x,r=.eD [(true,[x]),(false,[.d (.i .i64 i)])]/\Df own x z es):
 bY P f args S fun r S1=>r=.eD [(true,[.bV (0,xC S') es]),(false,[.d (.i .i64 i)])]/\S1=IU S' [.tok z es]:=by
 refine⟨h.1,fun w σ β vs hS hv=>(h.2 w σ β vs hS hv).mono fun e w' ⟨v,r,own,S1,bo,β1,σ',q1,q2,q3,q4,q5,q6,x,q7,q8⟩=> ?_⟩;subst q6 q7;obtain⟨a,rfl,hl,hc⟩:=q5;obtain⟨u0,hu0,a0,rfl,hcs⟩:=hc 0 _ rfl;obtain⟨u1,hu1,y1,hy1,hr1,ho1⟩:=hc 1 _ rfl;cases hy1;obtain⟨u,e1,e2,e3⟩:=hcs.2 0 _ rfl;obtain⟨k1,k2⟩:=ET q2 q8 e2
 cases S1 with
 |nil=>cases ht
 |cons fr Ω=>
 have hd:=q2.En
 obtain⟨bf,bΩ,rfl,hlen⟩:∃bf bΩ,β1=bf::bΩ/\bf.length=fr.length:=by
  cases β1 with
  |nil=>have:=hd.shape.1;simp at this
  |cons bf bΩ=>
   refine⟨bf,bΩ,rfl,?_⟩;obtain⟨gr,q1,q2⟩:=hd.shape.2 0 fr rfl;simp at q1;rw[q1];exact q2
 obtain⟨l1,l2,l3⟩:=hd.lay (o:=.tok z es) (h:=u) hlen (k1 _ _) fun b hb ⟨k,o,hh,f1,f2,f3⟩=>by
  obtain⟨m,g1,g2,g3⟩:=k2 b hb;have:=q2.apart (0,m) (k.1+1,k.2) _ o u hh b (by rw[bK];exact g1) (by rw[bK];exact g3) hb (by rw[bZ];exact f1) (by rw[bZ];exact f2) f3;cases this
 refine⟨_,.eD [(true,[.bV (0,xC (fr::Ω)) es]),(false,[.d (.i .i64 i)])],_,σ',_,q1,l1,q3.trans l2,⟨q4.size,q4.os,q4.output,q4.far,q4.near,fun b hb=> ?_⟩,⟨a,rfl,hl,fun j y hy=> ?_⟩,rfl,rfl⟩
 ·rcases l3 b hb with q|q
  ·exact q4.own b (tV q)
  ·obtain⟨m,g1,g2,g3⟩:=k2 b q;exact q4.own b ⟨(0,m),_,u,by rw[bK];exact g1,by rw[bK];exact g3,q⟩
 ·match j,hy with
  |0,hy=>
   cases hy;refine⟨_,hu0,a0,rfl,hcs.1,fun j x hx=> ?_⟩
   match j,hx with
   |0,hx=>
    cases hx;refine⟨u,e1,⟨uE q8 e2,_,by rw[mP];exact dB _ _ _,fun bB es' e=> ?_⟩,e3⟩;obtain⟨_,rfl⟩:=qp (lab:=none) e;exact⟨Nat.le_refl _,fun _=>by rw[mP,<-hlen,dB]⟩
   |j+1,hx=>simp at hx
  |1,hy=>
   cases hy;exact⟨u1,hu1,_,rfl,hr1,ho1⟩
  |j+2,hy=>simp at hy
end
noncomputable def oV{bs:List Int}(c:Cu bs):aM×Cu bs:=
 if(bU 5 (jC c).2).1=true then(⟨(Hz (jC c).1).aG++[(Kn (bU 5 (jC c).2).2).1]⟩,(Kn (bU 5 (jC c).2).2).2) else(Hz (jC c).1,(bU 5 (jC c).2).2)
theorem abZ{bs:List Int}(c:Cu bs):(oV c).1.sz<=1100000:=by
 have h1:=abU (jC c).1;have h2:=ahN (bU 5 (jC c).2).2;unfold oV;split
 ·obtain⟨l,hl⟩:∃l,l=(Hz (jC c).1).aG:=⟨_,rfl⟩
  have h3:(aM.mk l).sz<=1048576:=by rw[hl];exact h1
  rw[<-hl];simp only[aM.sz,aM.aj,bG,D.sz,List.length_map,List.map_append,om,List.map_cons,List.map_nil,aQ,aK.cK,List.length_append,List.length_cons,List.length_nil] at h3 ⊢;omega
 ·show(Hz (jC c).1).sz<=_;omega
theorem ND(s:List UInt8)(hs:s.length<=1048576)(S:Store):ng prog 127 [.c (.d (.s s))] S (fun r own S1=>S1=S/\∃x,r=.eD [(true,[x]),(false,[.d (.i .i64 (ajC s))])]/\Df own x 6 ((Hz s).aG.map aK.enc)):=by
 have hl0:=NA 10 s [];unfold Hz ajC;obtain⟨L,hL⟩:∃L,L=spl 10 [] s:=⟨_,rfl⟩;have hsp:=S9 s 10 hs;rw[show(10:UInt8).toNat=10 from rfl] at hsp;rw[<-hL] at hsp hl0 ⊢;refine ahO (rs:=[.cell 2 26,.tmp 3]) zmx func127 ntmps127 rfl rfl rfl rfl rfl ?_;simp -implicitDefEqProofs (disch:=omega) only[go_sem];refine aB hsp ?_;simp -implicitDefEqProofs (disch:=omega) only[go_sem];refine jr 1 0 6 _ rfl rfl ?_
 refine aen (ι:=Nat×List aK) zmx rfl [2,4,5,6] (fun y=>[.c (.ptr (0,0) 0),.c (.ptr (0,1) 0),.c (.d (.sl (L.map encS))),.c (.d (.i .i64 y.1))])
  (fun y=>[.box [.bM []],.box [.bV (0,2) (y.2.map aK.enc)],.tok 6 (y.2.map aK.enc)]::S)
  (fun y=>y.1<=L.length/\y.2.length<=5/\sJ (L.drop y.1) y.2=sJ L []) (fun y=>L.length-y.1) (0,[]) rfl rfl ⟨Nat.zero_le _,by decide,rfl⟩ ?_
 rintro⟨i,acc⟩ ⟨p1,p2,p3⟩;simp only at p1 p2 p3;simp -implicitDefEqProofs (disch:=omega) only[go_sem,encS]
 with_reducible refine aC (fun hb=> ?_) (fun hb=> ?_)<;>have h:=hb<;>(try simp only[wf_preprocess] at h)<;>simp -implicitDefEqProofs (disch:=omega) only[go_sem,hb,encS]<;>(repeat(with_reducible refine And.intro ?_ ?_;focus first|omega|rfl|assumption|exact⟨_,rfl,rfl⟩|(simp;omega)|(simp;done)))
 ·have hi:i<L.length:=by omega
  have hll:L[i].length<=1048576:=by have:=hl0.2 L[i] (List.getElem_mem hi);simp only[List.length_nil] at this;omega
  rw[List.drop_eq_getElem_cons hi,sJ] at p3
  (repeat(with_reducible refine And.intro ?_ ?_;focus first|omega|rfl|assumption|exact⟨_,rfl,rfl⟩|(simp;omega)|(simp;done)))
  refine aB (SY L[i] (by omega)) ?_;simp -implicitDefEqProofs (disch:=omega) only[go_sem,encS]
  with_reducible refine aC (fun hb=> ?_) (fun hb=> ?_)<;>have h:=hb<;>(try simp only[wf_preprocess] at h)<;>simp -implicitDefEqProofs (disch:=omega) only[go_sem,hb,encS]<;>(repeat(with_reducible refine And.intro ?_ ?_;focus first|omega|rfl|assumption|exact⟨_,rfl,rfl⟩|(simp;omega)|(simp;done)))
  ·rw[if_pos h] at p3;exact bT (i+1,acc) (by simp only;omega) rfl rfl ⟨by simp only;omega,p2,p3⟩
  rw[if_neg (by rw[h];decide)] at p3
  (repeat(with_reducible refine And.intro ?_ ?_;focus first|omega|rfl|assumption|exact⟨_,rfl,rfl⟩|(simp;omega)|(simp;done)))
  refine aB (Px L[i] hll) ?_;simp -implicitDefEqProofs (disch:=omega) only[go_sem,aK.cv]
  with_reducible refine aC (fun hb=> ?_) (fun hb=> ?_)<;>have h:=hb<;>(try simp only[wf_preprocess] at h)<;>simp -implicitDefEqProofs (disch:=omega) only[go_sem,hb]<;>(repeat(with_reducible refine And.intro ?_ ?_;focus first|omega|rfl|assumption|exact⟨_,rfl,rfl⟩|(simp;omega)|(simp;done)))
  ·rw[if_neg (by rw[h];intro e;cases e.1)] at p3
   (repeat(with_reducible refine And.intro ?_ ?_;focus first|omega|rfl|assumption|exact⟨_,rfl,rfl⟩|(simp;omega)|(simp;done)))
   refine⟨by rfl,?_⟩;simp -implicitDefEqProofs (disch:=omega) only[go_sem];rw[<-p3];exact⟨_,rfl,.inr ⟨rfl,fun e he=>by cases he⟩⟩
  have hok:=h
  with_reducible refine aC (fun hb=> ?_) (fun hb=> ?_)<;>have h:=hb<;>(try simp only[wf_preprocess] at h)<;>simp -implicitDefEqProofs (disch:=omega) only[go_sem,hb]<;>(repeat(with_reducible refine And.intro ?_ ?_;focus first|omega|rfl|assumption|exact⟨_,rfl,rfl⟩|(simp;omega)|(simp;done)))
  ·rw[if_neg (by intro e;exact e.2 (by omega))] at p3
   (repeat(with_reducible refine And.intro ?_ ?_;focus first|omega|rfl|assumption|exact⟨_,rfl,rfl⟩|(simp;omega)|(simp;done)))
   refine⟨by rfl,?_⟩;simp -implicitDefEqProofs (disch:=omega) only[go_sem];rw[<-p3];exact⟨_,rfl,.inr ⟨rfl,fun e he=>by cases he⟩⟩
  have h5:=h;rw[if_pos ⟨hok,by omega⟩] at p3
  (repeat(with_reducible refine And.intro ?_ ?_;focus first|omega|rfl|assumption|exact⟨_,rfl,rfl⟩|(simp;omega)|(simp;done)))
  rw[abV];exact fu 3 (by decide) (i+1,acc++[Hy L[i]]) (by simp only;omega) rfl rfl rfl rfl ⟨by simp only;omega,by simp only[List.length_append,List.length_singleton];omega,p3⟩
 ·have hi:i=L.length:=by omega
  subst hi;rw[List.drop_length,sJ] at p3;rw[<-p3];exact⟨_,rfl,.inl ⟨2,rfl,rfl⟩⟩
theorem UW{bs:List Int}(hB:Bytes bs)(c:Cu bs)(l j:Nat)(S:Store)(hk:bn S (l,j)=some (.box (cur c))):
 ng prog 82 [.c (.ptr (l,j) 0)] S (fun r own S1=>S1=aY S (l,j) (.box (cur (jC c).2))/\∃x,r=.agg ([]++x::[])/\Df own x 6 ((Hz (jC c).1).aG.map aK.enc)):=by
 have hwl:=YM c;have q1:=fun fr:List Ab.Obj=>UN hB c (1+l) j (fr::S) (by rw[aH];exact hk);obtain⟨s,hs⟩:∃s,s=(jC c).1:=⟨_,rfl⟩;obtain⟨c1,hc1⟩:∃c1,c1=(jC c).2:=⟨_,rfl⟩;simp only[<-hs,<-hc1,ak] at q1 hwl ⊢;have q2:=fun own:List Ab.Obj=>ng.ali (S':=own::aY S (l,j) (.box (cur c1))) rfl (ND s (by omega) (own::aY S (l,j) (.box (cur c1))));simp only[Al,mP,List.cons_append,List.nil_append] at q2;refine VA [67] (rs:=[.cell 2 26]) zmx func82 ntmps82 rfl rfl rfl rfl rfl ?_;simp -implicitDefEqProofs (disch:=omega) only[go_sem];refine aW rfl (q1 _) ?_;simp -implicitDefEqProofs (disch:=omega) only[go_sem];refine aW rfl (q2 _) ?_;simp -implicitDefEqProofs (disch:=omega) only[go_sem]
 first|exact⟨_,rfl,.inl ⟨1,rfl,rfl⟩⟩|exact⟨rfl,_,rfl,.inl ⟨1,rfl,rfl⟩⟩
theorem UY{bs:List Int}(hB:Bytes bs)(c:Cu bs)(l j:Nat)(S:Store)(hk:bn S (l,j)=some (.box (cur c))):
 bY prog 43 [.c (.ptr (l,j) 0)] S (fun r S1=>r=(oV c).1.v/\S1=aY S (l,j) (.box (cur (oV c).2))):=by
 have g:∀x:Ab.Obj,bn (aY S (l,j) x) (l,j)=some x:=fun x=>cO _ _ _ _ hk;have hws:=abU (jC c).1
 have q1:=fun own:List Ab.Obj=>ng.push (pre:=[]) (post:=[]) rfl rfl (S':=own::aY S (l,j) (.box (cur (jC c).2))) rfl (by
  have:=UW hB c (1+l) j (own::S) (by rw[aH];exact hk);rw[ak] at this
  exact this)
 unfold oV;obtain⟨L,hL⟩:∃L,L=(Hz (jC c).1).aG:=⟨_,rfl⟩
 have hR:Hz (jC c).1=⟨L⟩:=by rw[hL]
 obtain⟨c1,hc1⟩:∃c1,c1=(jC c).2:=⟨_,rfl⟩
 have hLl:L.length<=1048576:=by
  rw[hR] at hws;simp only[aM.sz,aM.aj,bG,D.sz,List.length_map] at hws;omega
 rw[hR];simp only[<-hL,<-hc1,Al,mP,List.cons_append,List.nil_append] at q1 ⊢;have q2:=fun fr:List Ab.Obj=>iE hB c1 (1+l) j (fr::aY S (l,j) (.box (cur c1))) 5 (by rw[aH];exact g _) (by omega) (by omega);obtain⟨o,ho⟩:∃o,o=(bU 5 c1).1:=⟨_,rfl⟩;obtain⟨c2,hc2⟩:∃c2,c2=(bU 5 c1).2:=⟨_,rfl⟩;simp only[<-ho,<-hc2,ak,ah] at q2 ⊢;have q3:=fun fr:List Ab.Obj=>abY hB c2 (1+l) j (fr::aY S (l,j) (.box (cur c2))) (by rw[aH];exact g _);simp only[ak,ah] at q3;refine bY.of_le ?_;refine nY [67] (rs:=[.cell 2 26]) zmx func43 ntmps43 rfl rfl rfl rfl rfl ?_;simp -implicitDefEqProofs (disch:=omega) only[go_sem];refine aW rfl (q1 _) ?_;simp -implicitDefEqProofs (disch:=omega) only[go_sem];refine aW rfl (q2 _) ?_
 cases o with
 |true=>
  simp -implicitDefEqProofs (disch:=omega) only[go_sem,ak,ah];refine aW rfl (q3 _) ?_;simp -implicitDefEqProofs (disch:=omega) only[go_sem,ak,ah]
  (repeat(with_reducible refine And.intro ?_ ?_;focus first|omega|rfl|assumption|exact⟨_,rfl,rfl⟩|(simp;omega)|(simp;done)))
  refine⟨by cases l<;>rfl,?_⟩;simp -implicitDefEqProofs (disch:=omega) only[go_sem,ak,ah];refine aF ?_;simp only[aM.v,List.map_append,List.map_cons,List.map_nil];rfl
 |false=>
  simp -implicitDefEqProofs (disch:=omega) only[go_sem,ak,ah];exact aF rfl
def Ta(w:aM)(p:Nat):List (List UInt8):=match w.aG[p]? with
 |some q=>q.dP
 |none=>[]
theorem O1{w:aM}{p:Nat}(h:p<w.aG.length):Ta w p=w.aG[p].dP:=by
 unfold Ta;rw[List.getElem?_eq_getElem h]
def Edge(w:aM)(p j:Nat):Prop:=j<p/\∃d∈Ta w p,gB w d=(j:Int)
inductive kX(w:aM):Nat->Nat->Prop
 |refl (p:Nat):kX w p p
 |step {p j k:Nat} (h:Edge w p j) (hk:kX w j k):kX w p k
theorem kX.le{w:aM}{p k:Nat}(h:kX w p k):k<=p:=by
 induction h with
 |refl p=>exact Nat.le_refl _
 |step h _ ih=>have:=h.1;omega
theorem kX.trans{w:aM}{p j k:Nat}(h:kX w p j)(h':kX w j k):kX w p k:=by
 induction h with
 |refl p=>exact h'
 |step e _ ih=>exact .step e (ih h')
theorem kX.snoc{w:aM}{p j k:Nat}(h:kX w p j)(e:Edge w j k):kX w p k:=h.trans (.step e (.refl k))
theorem kX.last{w:aM}{i k:Nat}(h:kX w i k):k=i\/∃p,kX w i p/\Edge w p k:=by
 induction h with
 |refl p=>exact .inl rfl
 | @step p j k e hk ih=>
   right;rcases ih with rfl|⟨q,h1,h2⟩
   ·exact⟨p,.refl p,e⟩
   ·exact⟨q,.step e h1,h2⟩
theorem kX.first{w:aM}{p k:Nat}(h:k<p):kX w p k<->∃j,Edge w p j/\kX w j k:=by
 constructor
 ·intro hv
  cases hv with
  |refl=>omega
  |step e hk=>exact⟨_,e,hk⟩
 ·rintro⟨j,e,hk⟩;exact .step e hk
noncomputable def uI(w:aM)(p n:Nat):List Int:=((List.range n).filter fun k=>dec (kX w p k)).map fun k:Nat=>(k:Int)
noncomputable def oW(w:aM)(p:Nat):List Int:=uI w p (p+1)
theorem BS{w:aM}{p n:Nat}(h:kX w p n):uI w p (n+1)=uI w p n++[(n:Int)]:=by
 unfold uI;rw[List.range_succ,List.filter_append,List.map_append];simp[dD h]
theorem IX{w:aM}{p n:Nat}(h:¬kX w p n):uI w p (n+1)=uI w p n:=by
 unfold uI;rw[List.range_succ,List.filter_append,List.map_append];simp[bJ h]
theorem Fx(w:aM)(p n:Nat):(uI w p n).length<=n:=by
 unfold uI;rw[List.length_map];exact Nat.le_trans (List.length_filter_le _ _) (by simp)
theorem afp{w:aM}{p n:Nat}{k:Int}:k∈uI w p n<->∃m:Nat,m<n/\k=m/\kX w p m:=by
 unfold uI;rw[List.mem_map];constructor
 ·rintro⟨m,hm,e⟩;rw[List.mem_filter,List.mem_range,yO] at hm;exact⟨m,hm.1,e.symm,hm.2⟩
 ·rintro⟨m,h1,h2,h3⟩;exact⟨m,by rw[List.mem_filter,List.mem_range,yO];exact⟨h1,h3⟩,h2.symm⟩
theorem Fy{w:aM}{p:Nat}{k:Int}:k∈oW w p<->∃m:Nat,k=m/\kX w p m:=by
 unfold oW;rw[afp];constructor
 ·rintro⟨m,_,h2,h3⟩;exact⟨m,h2,h3⟩
 ·rintro⟨m,h2,h3⟩;exact⟨m,by have:=h3.le;omega,h2,h3⟩
theorem Tc{w:aM}{p k:Nat}:(k:Int)∈oW w p<->kX w p k:=by
 rw[Fy];constructor
 ·rintro⟨m,h2,h3⟩
  have:k=m:=by omega
  rw[this];exact h3
 ·intro h;exact⟨k,rfl,h⟩
def tK(w:aM)(i k:Int):Prop:=0<=i/\i<w.aG.length/\k∈oW w i.toNat
def Met(w:aM)(i n m:Nat):Prop:=m=i\/∃p,n<=p/\kX w i p/\Edge w p m
theorem afq{w:aM}{i m:Nat}(h:m<=i):Met w i (m+1) m<->kX w i m:=by
 constructor
 ·rintro(rfl|⟨p,_,h1,h2⟩)
  ·exact .refl _
  ·exact h1.snoc h2
 ·intro h;rcases h.last with h1|⟨p,h1,h2⟩
  ·exact .inl h1
  ·exact .inr ⟨p,by have:=h2.1;omega,h1,h2⟩
theorem ahP{w:aM}{i n m:Nat}(h:n<=m)(hm:m<=i):Met w i n m<->kX w i m:=by
 constructor
 ·rintro(rfl|⟨p,_,h1,h2⟩)
  ·exact .refl _
  ·exact h1.snoc h2
 ·intro h';rcases h'.last with h1|⟨p,h1,h2⟩
  ·exact .inl h1
  ·exact .inr ⟨p,by have:=h2.1;omega,h1,h2⟩
theorem afr{w:aM}{i n m:Nat}(h:¬kX w i n):Met w i n m<->Met w i (n+1) m:=by
 constructor
 ·rintro(h1|⟨p,h0,h1,h2⟩)
  ·exact .inl h1
  ·by_cases e:p=n
   ·subst e;exact absurd h1 h
   ·exact .inr ⟨p,by omega,h1,h2⟩
 ·rintro(h1|⟨p,h0,h1,h2⟩)
  ·exact .inl h1
  ·exact .inr ⟨p,by omega,h1,h2⟩
theorem afs{w:aM}{i n m:Nat}(h:kX w i n):Met w i n m<->Met w i (n+1) m\/Edge w n m:=by
 constructor
 ·rintro(h1|⟨p,h0,h1,h2⟩)
  ·exact .inl (.inl h1)
  ·by_cases e:p=n
   ·subst e;exact .inr h2
   ·exact .inl (.inr ⟨p,by omega,h1,h2⟩)
 ·rintro((h1|⟨p,h0,h1,h2⟩)|h1)
  ·exact .inl h1
  ·exact .inr ⟨p,by omega,h1,h2⟩
  ·exact .inr ⟨n,Nat.le_refl _,h,h1⟩
noncomputable def iJ(P:Nat->Prop)(n:Nat):List (List D):=(List.range n).map fun m=>[D.b (dec (P m))]
theorem qz(P:Nat->Prop)(n:Nat):(iJ P n).length=n:=by simp[iJ]
theorem yY{P:Nat->Prop}{n i:Nat}(h:i<n):(iJ P n)[i]? =some [D.b (dec (P i))]:=by
 simp[iJ,h]
theorem UZ{P Q:Nat->Prop}{n j:Nat}(h:∀m,m<n->(Q m<->P m\/m=j))(hj:j<n):(iJ P n).set j [D.b true]=iJ Q n:=by
 apply List.ext_getElem?;intro m;rw[List.getElem?_set];by_cases hm:m<n
 ·by_cases e:j=m
  ·subst e;rw[if_pos rfl,if_pos (by rw[qz];exact hj),yY hj,dD ((h j hj).2 (.inr rfl))]
  ·rw[if_neg e,yY hm,yY hm];rw[gG ((h m hm).trans ⟨fun x=>x.elim id (fun y=>absurd y.symm e),.inl⟩)]
 ·have h1:(iJ P n)[m]? =none:=List.getElem?_eq_none (by rw[qz];omega);have h2:(iJ Q n)[m]? =none:=List.getElem?_eq_none (by rw[qz];omega);rw[h1,h2];split
  ·omega
  ·rfl
theorem sK{P Q:Nat->Prop}{n:Nat}(h:∀m,m<n->(P m<->Q m)):iJ P n=iJ Q n:=by
 unfold iJ
 exact List.map_congr_left fun m hm=>by rw[gG (h m (List.mem_range.1 hm))]
def qE{α:Type}(f:aK->List α)(p:α->Bool):List aK->Nat->Option (α×Nat)
 |[],_=>none
 |q::qs,i=>match(f q).find? p with
  |some t=>some (t,i)
  |none=>qE f p qs (i+1)
theorem Av{α:Type}{f:aK->List α}{p:α->Bool}{ps:List aK}{i:Nat}(hi:i<ps.length):qE f p (ps.drop i) i=match(f ps[i]).find? p with
 |some t=>some (t,i)
 |none=>qE f p (ps.drop (i+1)) (i+1):=by
 rw[List.drop_eq_getElem_cons hi,qE]
theorem CR{α:Type}{p:α->Bool}{xs:List α}{k:Nat}(hk:k<xs.length):(xs.drop k).find? p=if p xs[k] then some xs[k] else(xs.drop (k+1)).find? p:=by
 rw[List.drop_eq_getElem_cons hk,List.find?_cons];cases p xs[k]<;>rfl
def pz{α:Type}:Option (α×Nat)->Int
 |some (_,i)=>(i:Int)
 |none=>0
theorem HY{α:Type}{f:aK->List α}{p:α->Bool}:∀{ps:List aK}{i:Nat}{t:α}{j:Nat},qE f p ps i=some (t,j)->∃q∈ps,t∈f q
 |[],i,t,j,h=>by cases h
 |q::qs,i,t,j,h=>by
  rw[qE] at h
  cases hf:(f q).find? p with
  |some u=>
   rw[hf] at h;injection h with h;injection h with h1 h2;subst h1;exact⟨q,by simp,List.mem_of_find?_eq_some hf⟩
  |none=>
   rw[hf] at h;obtain⟨q',h1,h2⟩:=HY h;exact⟨q',by simp[h1],h2⟩
def gQ(w:aM)(name:List UInt8):Option (bD×Nat):=qE aK.dJ (fun t=>decide (t.fName=name)) w.aG 0
def wI:Option (bD×Nat)->List C
 |some (t,_)=>t.enc.map .d
 |none=>[.d (.s []),.bM [],.d (.b false),.d (.b false),.bM []]
theorem aM.af2{w:aM}{i:Nat}(hi:i<w.aG.length)(h:w.sz<=4194304):w.aG[i].dJ.length<=4194304:=by
 have hx:w.aG[i].sz<=aQ (w.aG.map aK.enc):=dO (List.mem_map_of_mem (List.getElem_mem hi));simp only[aM.sz,aM.aj,bG,bC,D.sz,List.length_map] at h;simp only[aK.sz,aK.aj,bG,bC,D.sz,List.length_map] at hx;omega
def jT(w:aM)(name:List UInt8):Option (bg×Nat):=qE aK.bI (fun t=>decide (t.fName=name)) w.aG 0
def zZ:Option (bg×Nat)->List C
 |some (t,_)=>t.enc.map .d
 |none=>[.d (.s []),.bM [],.bM []]
theorem aM.af3{w:aM}{i:Nat}(hi:i<w.aG.length)(h:w.sz<=4194304):w.aG[i].bI.length<=4194304:=by
 have hx:w.aG[i].sz<=aQ (w.aG.map aK.enc):=dO (List.mem_map_of_mem (List.getElem_mem hi));simp only[aM.sz,aM.aj,bG,bC,D.sz,List.length_map] at h;simp only[aK.sz,aK.aj,bG,bC,D.sz,List.length_map] at hx;omega
theorem U0(w:aM)(name:List UInt8)(hsz:w.sz<=4194304):aX prog 47 [w.v,.c (.d (.s name))] (.eD [(true,wI (gQ w name)),(false,[.d (.i .i64 (pz (gQ w name)))]),(false,[.d (.b (gQ w name).isSome)])]):=fun S=>by
 have hb0:w.aG.length<=4194304:=by
  simp only[aM.sz,aM.aj,bG,bC,D.sz,List.length_map] at hsz;omega
 refine zcx [.cell 4 54,.tmp 5,.tmp 6] func47 ntmps47 ?_;simp -implicitDefEqProofs (disch:=omega) only[go_sem]
 refine bN (ι:=Nat) zmx rfl [1,4,12,13,14] (fun i=>[.c (.d (.s name)),.c (.ptr (0,1) 0),.c (.d (.sl (w.aG.map aK.enc))),.c (.d (.i .i64 w.aG.length)),.c (.d (.i .i64 i))]) (fun _=>[.box (w.enc.map .d),.box [.d (.s []),.bM [],.d (.b false),.d (.b false),.bM []]]::S)
  (fun i=>i<=w.aG.length/\qE aK.dJ (fun t=>decide (t.fName=name)) (w.aG.drop i) i=gQ w name) (fun i=>w.aG.length-i) 0 rfl ?_ ⟨Nat.zero_le _,rfl⟩ ?_
 ·simp -implicitDefEqProofs (disch:=omega) only[go_sem]
 rintro i ⟨p1,p2⟩;simp -implicitDefEqProofs (disch:=omega) only[go_sem]
 with_reducible refine aC (fun hb=> ?_) (fun hb=> ?_)<;>have h:=hb<;>(try simp only[wf_preprocess] at h)<;>simp -implicitDefEqProofs (disch:=omega) only[go_sem,hb]<;>(repeat(with_reducible refine And.intro ?_ ?_;focus first|omega|rfl|assumption|exact⟨_,rfl,rfl⟩|(simp;omega)|(simp;done)))
 ·have hi:i<w.aG.length:=by omega
  have hln:=aM.af2 hi hsz;rw[Av hi] at p2
  (repeat(with_reducible refine And.intro ?_ ?_;focus first|omega|rfl|assumption|exact⟨_,rfl,rfl⟩|(simp;omega)|(simp;done)))
  refine bN (ι:=Nat) zmx rfl [1,4,7,12,13,14,20,21,22] (fun k=>[.c (.d (.s name)),.c (.ptr (0,1) 0),.c (.d (.i .i64 i)),.c (.d (.sl (w.aG.map aK.enc))),.c (.d (.i .i64 w.aG.length)),.c (.d (.i .i64 i)),.c (.d (.sl (w.aG[i].dJ.map bD.enc))),.c (.d (.i .i64 w.aG[i].dJ.length)),.c (.d (.i .i64 k))])
   (fun _=>[.box (w.enc.map .d),.box [.d (.s []),.bM [],.d (.b false),.d (.b false),.bM []],.box (w.aG[i].enc.map .d)]::S)
   (fun k=>k<=w.aG[i].dJ.length/\(w.aG[i].dJ.drop k).find? (fun t=>decide (t.fName=name))=w.aG[i].dJ.find? (fun t=>decide (t.fName=name))) (fun k=>w.aG[i].dJ.length-k) 0 rfl ?_ ⟨Nat.zero_le _,rfl⟩ ?_
  ·simp -implicitDefEqProofs (disch:=omega) only[go_sem]
  rintro k ⟨q1,q2⟩;simp -implicitDefEqProofs (disch:=omega) only[go_sem]
  with_reducible refine aC (fun hb=> ?_) (fun hb=> ?_)<;>have h:=hb<;>(try simp only[wf_preprocess] at h)<;>simp -implicitDefEqProofs (disch:=omega) only[go_sem,hb]<;>(repeat(with_reducible refine And.intro ?_ ?_;focus first|omega|rfl|assumption|exact⟨_,rfl,rfl⟩|(simp;omega)|(simp;done)))
  ·have hk:k<w.aG[i].dJ.length:=by omega
   rw[CR hk] at q2
   (repeat(with_reducible refine And.intro ?_ ?_;focus first|omega|rfl|assumption|exact⟨_,rfl,rfl⟩|(simp;omega)|(simp;done)))
   with_reducible refine aC (fun hb=> ?_) (fun hb=> ?_)<;>have h:=hb<;>(try simp only[wf_preprocess] at h)<;>simp -implicitDefEqProofs (disch:=omega) only[go_sem,hb]<;>(repeat(with_reducible refine And.intro ?_ ?_;focus first|omega|rfl|assumption|exact⟨_,rfl,rfl⟩|(simp;omega)|(simp;done)))
   ·rw[if_pos (by simpa using h)] at q2;rw[<-q2] at p2;rw[<-p2]
    first|rfl|(simp only[wI,pz];simp -implicitDefEqProofs (disch:=omega) only[go_sem];done)
   ·rw[if_neg (by simpa using h)] at q2;exact fu 3 (by decide) (k+1) (by omega) rfl rfl rfl rfl ⟨by omega,q2⟩
  ·rw[List.drop_of_length_le (by omega),List.find?_nil] at q2;rw[<-q2] at p2;exact fu 2 (by decide) (i+1) (by omega) rfl rfl rfl rfl ⟨by omega,p2⟩
 ·rw[List.drop_of_length_le (by omega),qE] at p2;rw[<-p2]
  first|rfl|(simp only[wI,pz];simp -implicitDefEqProofs (disch:=omega) only[go_sem];done)
theorem U1(w:aM)(name:List UInt8)(hsz:w.sz<=4194304):aX prog 49 [w.v,.c (.d (.s name))] (.eD [(true,wI (gQ w name)),(false,[.d (.i .i64 (pz (gQ w name)))]),(false,[.d (.b (gQ w name).isSome)])]):=fun S=>by
 have hb0:w.aG.length<=4194304:=by
  simp only[aM.sz,aM.aj,bG,bC,D.sz,List.length_map] at hsz;omega
 refine zcx [.cell 4 54,.tmp 5,.tmp 6] func49 ntmps49 ?_;simp -implicitDefEqProofs (disch:=omega) only[go_sem]
 refine bN (ι:=Nat) zmx rfl [1,2,4,7] (fun i=>[.c (.d (.s name)),.c (.ptr (0,0) 0),.c (.ptr (0,1) 0),.c (.d (.i .i64 i))]) (fun _=>[.box (w.enc.map .d),.box [.d (.s []),.bM [],.d (.b false),.d (.b false),.bM []]]::S)
  (fun i=>i<=w.aG.length/\qE aK.dJ (fun t=>decide (t.fName=name)) (w.aG.drop i) i=gQ w name) (fun i=>w.aG.length-i) 0 rfl ?_ ⟨Nat.zero_le _,rfl⟩ ?_
 ·simp -implicitDefEqProofs (disch:=omega) only[go_sem]
 rintro i ⟨p1,p2⟩;simp -implicitDefEqProofs (disch:=omega) only[go_sem]
 with_reducible refine aC (fun hb=> ?_) (fun hb=> ?_)<;>have h:=hb<;>(try simp only[wf_preprocess] at h)<;>simp -implicitDefEqProofs (disch:=omega) only[go_sem,hb]<;>(repeat(with_reducible refine And.intro ?_ ?_;focus first|omega|rfl|assumption|exact⟨_,rfl,rfl⟩|(simp;omega)|(simp;done)))
 ·have hi:i<w.aG.length:=by omega
  have hln:=aM.af2 hi hsz;rw[Av hi] at p2
  (repeat(with_reducible refine And.intro ?_ ?_;focus first|omega|rfl|assumption|exact⟨_,rfl,rfl⟩|(simp;omega)|(simp;done)))
  refine bN (ι:=Nat) zmx rfl [1,2,4,7,8] (fun k=>[.c (.d (.s name)),.c (.ptr (0,0) 0),.c (.ptr (0,1) 0),.c (.d (.i .i64 i)),.c (.d (.i .i64 k))])
   (fun _=>[.box (w.enc.map .d),.box [.d (.s []),.bM [],.d (.b false),.d (.b false),.bM []]]::S)
   (fun k=>k<=w.aG[i].dJ.length/\(w.aG[i].dJ.drop k).find? (fun t=>decide (t.fName=name))=w.aG[i].dJ.find? (fun t=>decide (t.fName=name))) (fun k=>w.aG[i].dJ.length-k) 0 rfl ?_ ⟨Nat.zero_le _,rfl⟩ ?_
  ·simp -implicitDefEqProofs (disch:=omega) only[go_sem]
  rintro k ⟨q1,q2⟩;simp -implicitDefEqProofs (disch:=omega) only[go_sem]
  (repeat(with_reducible refine And.intro ?_ ?_;focus first|omega|rfl|assumption|exact⟨_,rfl,rfl⟩|(simp;omega)|(simp;done)))
  with_reducible refine aC (fun hb=> ?_) (fun hb=> ?_)<;>have h:=hb<;>(try simp only[wf_preprocess] at h)<;>simp -implicitDefEqProofs (disch:=omega) only[go_sem,hb]<;>(repeat(with_reducible refine And.intro ?_ ?_;focus first|omega|rfl|assumption|exact⟨_,rfl,rfl⟩|(simp;omega)|(simp;done)))
  ·have hk:k<w.aG[i].dJ.length:=by omega
   rw[CR hk] at q2
   (repeat(with_reducible refine And.intro ?_ ?_;focus first|omega|rfl|assumption|exact⟨_,rfl,rfl⟩|(simp;omega)|(simp;done)))
   with_reducible refine aC (fun hb=> ?_) (fun hb=> ?_)<;>have h:=hb<;>(try simp only[wf_preprocess] at h)<;>simp -implicitDefEqProofs (disch:=omega) only[go_sem,hb]<;>(repeat(with_reducible refine And.intro ?_ ?_;focus first|omega|rfl|assumption|exact⟨_,rfl,rfl⟩|(simp;omega)|(simp;done)))
   ·rw[if_pos (by simpa using h)] at q2;rw[<-q2] at p2
    (repeat(with_reducible refine And.intro ?_ ?_;focus first|omega|rfl|assumption|exact⟨_,rfl,rfl⟩|(simp;omega)|(simp;done)))
    rw[<-p2]
    first|rfl|(simp only[wI,pz];simp -implicitDefEqProofs (disch:=omega) only[go_sem];done)
   ·rw[if_neg (by simpa using h)] at q2;exact bT (k+1) (by omega) rfl rfl ⟨by omega,q2⟩
  ·rw[List.drop_of_length_le (by omega),List.find?_nil] at q2;rw[<-q2] at p2;exact bT (i+1) (by omega) rfl rfl ⟨by omega,p2⟩
 ·rw[List.drop_of_length_le (by omega),qE] at p2;rw[<-p2]
  first|rfl|(simp only[wI,pz];simp -implicitDefEqProofs (disch:=omega) only[go_sem];done)
theorem U2(w:aM)(name:List UInt8)(hsz:w.sz<=4194304):aX prog 171 [w.v,.c (.d (.s name))] (.eD [(true,zZ (jT w name)),(false,[.d (.i .i64 (pz (jT w name)))]),(false,[.d (.b (jT w name).isSome)])]):=fun S=>by
 have hb0:w.aG.length<=4194304:=by
  simp only[aM.sz,aM.aj,bG,bC,D.sz,List.length_map] at hsz;omega
 refine zcx [.cell 4 59,.tmp 5,.tmp 6] func171 ntmps171 ?_;simp -implicitDefEqProofs (disch:=omega) only[go_sem]
 refine bN (ι:=Nat) zmx rfl [1,4,12,13,14] (fun i=>[.c (.d (.s name)),.c (.ptr (0,1) 0),.c (.d (.sl (w.aG.map aK.enc))),.c (.d (.i .i64 w.aG.length)),.c (.d (.i .i64 i))]) (fun _=>[.box (w.enc.map .d),.box [.d (.s []),.bM [],.bM []]]::S)
  (fun i=>i<=w.aG.length/\qE aK.bI (fun t=>decide (t.fName=name)) (w.aG.drop i) i=jT w name) (fun i=>w.aG.length-i) 0 rfl ?_ ⟨Nat.zero_le _,rfl⟩ ?_
 ·simp -implicitDefEqProofs (disch:=omega) only[go_sem]
 rintro i ⟨p1,p2⟩;simp -implicitDefEqProofs (disch:=omega) only[go_sem]
 with_reducible refine aC (fun hb=> ?_) (fun hb=> ?_)<;>have h:=hb<;>(try simp only[wf_preprocess] at h)<;>simp -implicitDefEqProofs (disch:=omega) only[go_sem,hb]<;>(repeat(with_reducible refine And.intro ?_ ?_;focus first|omega|rfl|assumption|exact⟨_,rfl,rfl⟩|(simp;omega)|(simp;done)))
 ·have hi:i<w.aG.length:=by omega
  have hln:=aM.af3 hi hsz;rw[Av hi] at p2
  (repeat(with_reducible refine And.intro ?_ ?_;focus first|omega|rfl|assumption|exact⟨_,rfl,rfl⟩|(simp;omega)|(simp;done)))
  refine bN (ι:=Nat) zmx rfl [1,4,7,12,13,14,20,21,22] (fun k=>[.c (.d (.s name)),.c (.ptr (0,1) 0),.c (.d (.i .i64 i)),.c (.d (.sl (w.aG.map aK.enc))),.c (.d (.i .i64 w.aG.length)),.c (.d (.i .i64 i)),.c (.d (.sl (w.aG[i].bI.map bg.enc))),.c (.d (.i .i64 w.aG[i].bI.length)),.c (.d (.i .i64 k))])
   (fun _=>[.box (w.enc.map .d),.box [.d (.s []),.bM [],.bM []],.box (w.aG[i].enc.map .d)]::S)
   (fun k=>k<=w.aG[i].bI.length/\(w.aG[i].bI.drop k).find? (fun t=>decide (t.fName=name))=w.aG[i].bI.find? (fun t=>decide (t.fName=name))) (fun k=>w.aG[i].bI.length-k) 0 rfl ?_ ⟨Nat.zero_le _,rfl⟩ ?_
  ·simp -implicitDefEqProofs (disch:=omega) only[go_sem]
  rintro k ⟨q1,q2⟩;simp -implicitDefEqProofs (disch:=omega) only[go_sem]
  with_reducible refine aC (fun hb=> ?_) (fun hb=> ?_)<;>have h:=hb<;>(try simp only[wf_preprocess] at h)<;>simp -implicitDefEqProofs (disch:=omega) only[go_sem,hb]<;>(repeat(with_reducible refine And.intro ?_ ?_;focus first|omega|rfl|assumption|exact⟨_,rfl,rfl⟩|(simp;omega)|(simp;done)))
  ·have hk:k<w.aG[i].bI.length:=by omega
   rw[CR hk] at q2
   (repeat(with_reducible refine And.intro ?_ ?_;focus first|omega|rfl|assumption|exact⟨_,rfl,rfl⟩|(simp;omega)|(simp;done)))
   with_reducible refine aC (fun hb=> ?_) (fun hb=> ?_)<;>have h:=hb<;>(try simp only[wf_preprocess] at h)<;>simp -implicitDefEqProofs (disch:=omega) only[go_sem,hb]<;>(repeat(with_reducible refine And.intro ?_ ?_;focus first|omega|rfl|assumption|exact⟨_,rfl,rfl⟩|(simp;omega)|(simp;done)))
   ·rw[if_pos (by simpa using h)] at q2;rw[<-q2] at p2;rw[<-p2]
    first|rfl|(simp only[zZ,pz];simp -implicitDefEqProofs (disch:=omega) only[go_sem];done)
   ·rw[if_neg (by simpa using h)] at q2;exact fu 3 (by decide) (k+1) (by omega) rfl rfl rfl rfl ⟨by omega,q2⟩
  ·rw[List.drop_of_length_le (by omega),List.find?_nil] at q2;rw[<-q2] at p2;exact fu 2 (by decide) (i+1) (by omega) rfl rfl rfl rfl ⟨by omega,p2⟩
 ·rw[List.drop_of_length_le (by omega),qE] at p2;rw[<-p2]
  first|rfl|(simp only[zZ,pz];simp -implicitDefEqProofs (disch:=omega) only[go_sem];done)
theorem U3(w:aM)(name:List UInt8)(hsz:w.sz<=4194304):aX prog 140 [w.v,.c (.d (.s name))] (.eD [(true,zZ (jT w name)),(false,[.d (.i .i64 (pz (jT w name)))]),(false,[.d (.b (jT w name).isSome)])]):=fun S=>by
 have hb0:w.aG.length<=4194304:=by
  simp only[aM.sz,aM.aj,bG,bC,D.sz,List.length_map] at hsz;omega
 refine zcx [.cell 4 59,.tmp 5,.tmp 6] func140 ntmps140 ?_;simp -implicitDefEqProofs (disch:=omega) only[go_sem]
 refine bN (ι:=Nat) zmx rfl [1,2,4,7] (fun i=>[.c (.d (.s name)),.c (.ptr (0,0) 0),.c (.ptr (0,1) 0),.c (.d (.i .i64 i))]) (fun _=>[.box (w.enc.map .d),.box [.d (.s []),.bM [],.bM []]]::S)
  (fun i=>i<=w.aG.length/\qE aK.bI (fun t=>decide (t.fName=name)) (w.aG.drop i) i=jT w name) (fun i=>w.aG.length-i) 0 rfl ?_ ⟨Nat.zero_le _,rfl⟩ ?_
 ·simp -implicitDefEqProofs (disch:=omega) only[go_sem]
 rintro i ⟨p1,p2⟩;simp -implicitDefEqProofs (disch:=omega) only[go_sem]
 with_reducible refine aC (fun hb=> ?_) (fun hb=> ?_)<;>have h:=hb<;>(try simp only[wf_preprocess] at h)<;>simp -implicitDefEqProofs (disch:=omega) only[go_sem,hb]<;>(repeat(with_reducible refine And.intro ?_ ?_;focus first|omega|rfl|assumption|exact⟨_,rfl,rfl⟩|(simp;omega)|(simp;done)))
 ·have hi:i<w.aG.length:=by omega
  have hln:=aM.af3 hi hsz;rw[Av hi] at p2
  (repeat(with_reducible refine And.intro ?_ ?_;focus first|omega|rfl|assumption|exact⟨_,rfl,rfl⟩|(simp;omega)|(simp;done)))
  refine bN (ι:=Nat) zmx rfl [1,2,4,7,8] (fun k=>[.c (.d (.s name)),.c (.ptr (0,0) 0),.c (.ptr (0,1) 0),.c (.d (.i .i64 i)),.c (.d (.i .i64 k))])
   (fun _=>[.box (w.enc.map .d),.box [.d (.s []),.bM [],.bM []]]::S)
   (fun k=>k<=w.aG[i].bI.length/\(w.aG[i].bI.drop k).find? (fun t=>decide (t.fName=name))=w.aG[i].bI.find? (fun t=>decide (t.fName=name))) (fun k=>w.aG[i].bI.length-k) 0 rfl ?_ ⟨Nat.zero_le _,rfl⟩ ?_
  ·simp -implicitDefEqProofs (disch:=omega) only[go_sem]
  rintro k ⟨q1,q2⟩;simp -implicitDefEqProofs (disch:=omega) only[go_sem]
  (repeat(with_reducible refine And.intro ?_ ?_;focus first|omega|rfl|assumption|exact⟨_,rfl,rfl⟩|(simp;omega)|(simp;done)))
  with_reducible refine aC (fun hb=> ?_) (fun hb=> ?_)<;>have h:=hb<;>(try simp only[wf_preprocess] at h)<;>simp -implicitDefEqProofs (disch:=omega) only[go_sem,hb]<;>(repeat(with_reducible refine And.intro ?_ ?_;focus first|omega|rfl|assumption|exact⟨_,rfl,rfl⟩|(simp;omega)|(simp;done)))
  ·have hk:k<w.aG[i].bI.length:=by omega
   rw[CR hk] at q2
   (repeat(with_reducible refine And.intro ?_ ?_;focus first|omega|rfl|assumption|exact⟨_,rfl,rfl⟩|(simp;omega)|(simp;done)))
   with_reducible refine aC (fun hb=> ?_) (fun hb=> ?_)<;>have h:=hb<;>(try simp only[wf_preprocess] at h)<;>simp -implicitDefEqProofs (disch:=omega) only[go_sem,hb]<;>(repeat(with_reducible refine And.intro ?_ ?_;focus first|omega|rfl|assumption|exact⟨_,rfl,rfl⟩|(simp;omega)|(simp;done)))
   ·rw[if_pos (by simpa using h)] at q2;rw[<-q2] at p2
    (repeat(with_reducible refine And.intro ?_ ?_;focus first|omega|rfl|assumption|exact⟨_,rfl,rfl⟩|(simp;omega)|(simp;done)))
    rw[<-p2]
    first|rfl|(simp only[zZ,pz];simp -implicitDefEqProofs (disch:=omega) only[go_sem];done)
   ·rw[if_neg (by simpa using h)] at q2;exact bT (k+1) (by omega) rfl rfl ⟨by omega,q2⟩
  ·rw[List.drop_of_length_le (by omega),List.find?_nil] at q2;rw[<-q2] at p2;exact bT (i+1) (by omega) rfl rfl ⟨by omega,p2⟩
 ·rw[List.drop_of_length_le (by omega),qE] at p2;rw[<-p2]
  first|rfl|(simp only[zZ,pz];simp -implicitDefEqProofs (disch:=omega) only[go_sem];done)
theorem aM.ab0{w:aM}{i:Nat}(hi:i<w.aG.length)(h:w.sz<=4194304):w.aG[i].sz<=4194304:=by
 have hx:w.aG[i].sz<=aQ (w.aG.map aK.enc):=dO (List.mem_map_of_mem (List.getElem_mem hi));simp only[aM.sz,aM.aj,bG,bC,D.sz,List.length_map] at h;omega
theorem aK.Td{p:aK}(h:p.sz<=4194304):p.dP.length<=4194304:=by
 simp only[aK.sz,aK.aj,bG,bC,D.sz,List.length_map] at h;omega
theorem Y0(xs:List Int)(n:Int):xs.map encI++[[D.i .i64 n]]=(xs++[n]).map encI:=by simp[encI]
theorem Te{P Q:Nat->Prop}{n j:Nat}(h:∀m,m<n->(Q m<->P m\/m=j))(hj:j<n):(iJ P n).set j (qF ((iJ P n).getD j []) 0 [D.b true])=iJ Q n:=by
 have:(iJ P n).getD j []=[D.b (dec (P j))]:=by simp[iJ,List.getD,hj]
 rw[this];exact UZ h hj
theorem Y1(n:Nat):List.replicate n [D.b false]=iJ (fun _=>False) n:=by
 apply List.ext_getElem?;intro m;by_cases h:m<n
 ·rw[yY h,List.getElem?_replicate,if_pos h,Ob]
 ·rw[List.getElem?_replicate,if_neg h,List.getElem?_eq_none (by rw[qz];omega)]
theorem Jz(xs:List Int)(x:Int)(hl:xs.length<=1073741824):aX prog 37 [.c (.d (.sl (xs.map encI))),.c (.d (.i .i64 x))] (.c (.d (.b (dec (x∈xs))))):=fun S=>by
 refine zcx [.tmp 4] func37 ntmps37 ?_;simp -implicitDefEqProofs (disch:=omega) only[go_sem]
 refine bN (ι:=Nat) zmx rfl [0,1,5] (fun i=>[.c (.d (.sl (xs.map encI))),.c (.d (.i .i64 x)),.c (.d (.i .i64 i))]) (fun _=>[]::S)
  (fun i=>i<=xs.length/\∀j,j<i->∀h:j<xs.length,xs[j]≠x) (fun i=>xs.length-i) 0 rfl rfl ⟨Nat.zero_le _,fun j h=>by omega⟩ ?_
 rintro i ⟨p1,p2⟩;simp -implicitDefEqProofs (disch:=omega) only[go_sem]
 with_reducible refine aC (fun hb=> ?_) (fun hb=> ?_)<;>have h:=hb<;>(try simp only[wf_preprocess] at h)<;>simp -implicitDefEqProofs (disch:=omega) only[go_sem,hb]<;>(repeat(with_reducible refine And.intro ?_ ?_;focus first|omega|rfl|assumption|exact⟨_,rfl,rfl⟩|(simp;omega)|(simp;done)))
 ·have hi:i<xs.length:=by omega
  with_reducible refine aC (fun hb=> ?_) (fun hb=> ?_)<;>have h:=hb<;>(try simp only[wf_preprocess] at h)<;>simp -implicitDefEqProofs (disch:=omega) only[go_sem,hb]<;>(repeat(with_reducible refine And.intro ?_ ?_;focus first|omega|rfl|assumption|exact⟨_,rfl,rfl⟩|(simp;omega)|(simp;done)))
  ·exact bL (dD (by rw[<-h];exact List.getElem_mem hi)).symm
  ·refine bT (i+1) (by omega) rfl rfl ⟨by omega,fun j hj hl=> ?_⟩;by_cases e:j=i
   ·subst e;exact h
   ·exact p2 j (by omega) hl
 ·refine bL (bJ fun hm=> ?_).symm;obtain⟨j,h1,h2⟩:=List.getElem_of_mem hm;exact p2 j (by omega) h1 h2
theorem ab1(xs:List Int)(x:Int)(hl:xs.length<=1073741824):aX prog 81 [.c (.d (.sl (xs.map encI))),.c (.d (.i .i64 x))] (.c (.d (.i .i64 (pV (fun y=>decide (y=x)) xs)))):=fun S=>by
 refine zcx [.tmp 4] func81 ntmps81 ?_;simp -implicitDefEqProofs (disch:=omega) only[go_sem]
 refine bN (ι:=Nat) zmx rfl [0,1,7,8] (fun i=>[.c (.d (.sl (xs.map encI))),.c (.d (.i .i64 x)),.c (.d (.i .i64 xs.length)),.c (.d (.i .i64 i))]) (fun _=>[]::S)
  (fun i=>i<=xs.length/\∀j,∀hj:j<xs.length,j<i->(fun y=>decide (y=x)) xs[j]=false) (fun i=>xs.length-i) 0 rfl rfl ⟨Nat.zero_le _,fun j _ h=>by omega⟩ ?_
 rintro i ⟨p1,p2⟩;simp -implicitDefEqProofs (disch:=omega) only[go_sem]
 with_reducible refine aC (fun hb=> ?_) (fun hb=> ?_)<;>have h:=hb<;>(try simp only[wf_preprocess] at h)<;>simp -implicitDefEqProofs (disch:=omega) only[go_sem,hb]<;>(repeat(with_reducible refine And.intro ?_ ?_;focus first|omega|rfl|assumption|exact⟨_,rfl,rfl⟩|(simp;omega)|(simp;done)))
 ·have hi:i<xs.length:=by omega
  with_reducible refine aC (fun hb=> ?_) (fun hb=> ?_)<;>have h:=hb<;>(try simp only[wf_preprocess] at h)<;>simp -implicitDefEqProofs (disch:=omega) only[go_sem,hb]<;>(repeat(with_reducible refine And.intro ?_ ?_;focus first|omega|rfl|assumption|exact⟨_,rfl,rfl⟩|(simp;omega)|(simp;done)))
  ·rw[sO (p:=fun y=>decide (y=x)) hi p2 (by first|simpa using h|simpa using h.symm)]
  ·refine bT (i+1) (by omega) rfl rfl ⟨by omega,fun j hj hji=> ?_⟩;by_cases e:j=i
   ·subst e;simp only[decide_eq_false_iff_not];exact fun y=>h y.symm
   ·exact p2 j hj (by omega)
 ·rw[vY (p:=fun y=>decide (y=x)) (fun j hj=>p2 j hj (by omega))]
theorem HZ(xs:List Int)(x:Int)(hl:xs.length<=1073741824):aX prog 42 [.c (.d (.sl (xs.map encI))),.c (.d (.i .i64 x))] (.c (.d (.b (dec (x∈xs))))):=fun S=>by
 refine zcx [.tmp 4] func42 ntmps42 ?_;simp -implicitDefEqProofs (disch:=omega) only[go_sem];refine aB (ab1 xs x hl) ?_;simp -implicitDefEqProofs (disch:=omega) only[go_sem]<;>(repeat(with_reducible refine And.intro ?_ ?_;focus first|omega|rfl|assumption|exact⟨_,rfl,rfl⟩|(simp;omega)|(simp;done)));refine bL (EF.trans ?_);by_cases h:x∈xs
 ·rw[dD h];exact List.any_eq_true.2 ⟨x,h,by simp⟩
 ·rw[bJ h];exact Bool.eq_false_iff.2 fun hx=>by
   obtain⟨y,hy,e⟩:=List.any_eq_true.1 hx;simp at e;exact h (e▸hy)
theorem Y2(w:aM)(i:Nat)(hsz:w.sz<=4194304)(hi:i<w.aG.length):aX prog 11 [w.v,.c (.d (.i .i64 i))] (.c (.d (.sl ((oW w i).map encI)))):=fun S=>by
 have hb0:=aM.bounds hsz;have hl:∀p,(oW w p).length<=p+1:=fun p=>Fx w p (p+1)
 have rg:∀n j:Nat,j<n->((List.range n).map fun q=>[D.sl ((oW w q).map encI)]).getD j []=[D.sl ((oW w j).map encI)]:=fun n j h=>by simp[List.getD,h]
 refine zcx [.tmp 4] func11 ntmps11 ?_;simp -implicitDefEqProofs (disch:=omega) only[go_sem];refine aB (wh i 0 (w.aG.length-1)) ?_;simp -implicitDefEqProofs (disch:=omega) only[go_sem]<;>(repeat(with_reducible refine And.intro ?_ ?_;focus first|omega|rfl|assumption|exact⟨_,rfl,rfl⟩|(simp;omega)|(simp;done)))
 with_reducible refine aC (fun hb=> ?_) (fun hb=> ?_)<;>have h:=hb<;>(try simp only[wf_preprocess] at h)<;>simp -implicitDefEqProofs (disch:=omega) only[go_sem,hb]<;>(repeat(with_reducible refine And.intro ?_ ?_;focus first|omega|rfl|assumption|exact⟨_,rfl,rfl⟩|(simp;omega)|(simp;done)))
 ·omega
 (repeat(with_reducible refine And.intro ?_ ?_;focus first|omega|rfl|assumption|exact⟨_,rfl,rfl⟩|(simp;omega)|(simp;done)))
 refine kN 5 1 [] rfl (by simp) ?_
 refine bN (ι:=Nat) zmx rfl [1,2,5,6] (fun p=>[.c (.d (.i .i64 i)),.c (.ptr (0,0) 0),.c (.bV (0,1) ((List.range p).map fun q=>[.sl ((oW w q).map encI)])),.c (.d (.i .i64 p))]) (fun p=>[.box (w.enc.map .d),.tok 1 ((List.range p).map fun q=>[.sl ((oW w q).map encI)])]::S)
  (fun p=>p<=i+1) (fun p=>i+1-p) 0 rfl ?_ (Nat.zero_le _) ?_
 ·simp -implicitDefEqProofs (disch:=omega) only[go_sem];rfl
 intro p hp;simp -implicitDefEqProofs (disch:=omega) only[go_sem]
 with_reducible refine aC (fun hb=> ?_) (fun hb=> ?_)<;>have h:=hb<;>(try simp only[wf_preprocess] at h)<;>simp -implicitDefEqProofs (disch:=omega) only[go_sem,hb]<;>(repeat(with_reducible refine And.intro ?_ ?_;focus first|omega|rfl|assumption|exact⟨_,rfl,rfl⟩|(simp;omega)|(simp;done)))
 ·have hpi:p<=i:=by omega
  (repeat(with_reducible refine And.intro ?_ ?_;focus first|omega|rfl|assumption|exact⟨_,rfl,rfl⟩|(simp;omega)|(simp;done)))
  refine kN 7 1 [] rfl (by simp) ?_
  refine bN (ι:=Nat) zmx rfl [1,2,5,6,7,8] (fun k=>[.c (.d (.i .i64 i)),.c (.ptr (0,0) 0),.c (.bV (0,1) ((List.range p).map fun q=>[.sl ((oW w q).map encI)])),.c (.d (.i .i64 p)),.c (.bV (0,2) ((uI w p k).map encI)),.c (.d (.i .i64 k))])
   (fun k=>[.box (w.enc.map .d),.tok 1 ((List.range p).map fun q=>[.sl ((oW w q).map encI)]),.tok 1 ((uI w p k).map encI)]::S)
   (fun k=>k<=p) (fun k=>p-k) 0 rfl ?_ (Nat.zero_le _) ?_
  ·simp -implicitDefEqProofs (disch:=omega) only[go_sem];rfl
  intro k hk;have hkl:=Fx w p k;simp -implicitDefEqProofs (disch:=omega) only[go_sem]
  with_reducible refine aC (fun hb=> ?_) (fun hb=> ?_)<;>have h:=hb<;>(try simp only[wf_preprocess] at h)<;>simp -implicitDefEqProofs (disch:=omega) only[go_sem,hb]<;>(repeat(with_reducible refine And.intro ?_ ?_;focus first|omega|rfl|assumption|exact⟨_,rfl,rfl⟩|(simp;omega)|(simp;done)))
  ·have hkp:k<p:=by omega
   have hf:=kX.first (w:=w) hkp
   have hpl:p<w.aG.length:=by omega
   have hdl:=aK.Td (aM.ab0 hpl hsz);have hdo:=O1 hpl
   refine bN (ι:=Nat) zmx rfl [1,2,5,6,7,8,9] (fun d=>[.c (.d (.i .i64 i)),.c (.ptr (0,0) 0),.c (.bV (0,1) ((List.range p).map fun q=>[.sl ((oW w q).map encI)])),.c (.d (.i .i64 p)),.c (.bV (0,2) ((uI w p k).map encI)),.c (.d (.i .i64 k)),.c (.d (.i .i64 d))])
    (fun _=>[.box (w.enc.map .d),.tok 1 ((List.range p).map fun q=>[.sl ((oW w q).map encI)]),.tok 1 ((uI w p k).map encI)]::S)
    (fun d=>d<=w.aG[p].dP.length/\∀e,∀he:e<w.aG[p].dP.length,e<d->∀j:Nat,j<p->gB w w.aG[p].dP[e]=(j:Int)->¬kX w j k) (fun d=>w.aG[p].dP.length-d) 0 rfl ?_ ⟨Nat.zero_le _,fun e he h=>by omega⟩ ?_
   ·simp -implicitDefEqProofs (disch:=omega) only[go_sem]
   rintro d ⟨q1,q2⟩;simp -implicitDefEqProofs (disch:=omega) only[go_sem]
   (repeat(with_reducible refine And.intro ?_ ?_;focus first|omega|rfl|assumption|exact⟨_,rfl,rfl⟩|(simp;omega)|(simp;done)))
   with_reducible refine aC (fun hb=> ?_) (fun hb=> ?_)<;>have h:=hb<;>(try simp only[wf_preprocess] at h)<;>simp -implicitDefEqProofs (disch:=omega) only[go_sem,hb]<;>(repeat(with_reducible refine And.intro ?_ ?_;focus first|omega|rfl|assumption|exact⟨_,rfl,rfl⟩|(simp;omega)|(simp;done)))
   ·have hd:d<w.aG[p].dP.length:=by omega
    (repeat(with_reducible refine And.intro ?_ ?_;focus first|omega|rfl|assumption|exact⟨_,rfl,rfl⟩|(simp;omega)|(simp;done)))
    refine aB (xL w w.aG[p].dP[d] hsz) ?_;simp -implicitDefEqProofs (disch:=omega) only[go_sem]<;>(repeat(with_reducible refine And.intro ?_ ?_;focus first|omega|rfl|assumption|exact⟨_,rfl,rfl⟩|(simp;omega)|(simp;done)))
    have miss:(∀j:Nat,j<p->gB w w.aG[p].dP[d]=(j:Int)->¬kX w j k)->∀e,∀he:e<w.aG[p].dP.length,e<d+1->∀j:Nat,j<p->gB w w.aG[p].dP[e]=(j:Int)->¬kX w j k:=fun h e he hed=>by
     by_cases e':e=d
     ·subst e';exact h
     ·exact q2 e he (by omega)
    with_reducible refine aC (fun hb=> ?_) (fun hb=> ?_)<;>have h:=hb<;>(try simp only[wf_preprocess] at h)<;>simp -implicitDefEqProofs (disch:=omega) only[go_sem,hb]<;>(repeat(with_reducible refine And.intro ?_ ?_;focus first|omega|rfl|assumption|exact⟨_,rfl,rfl⟩|(simp;omega)|(simp;done)))
    ·have h0:=h
     with_reducible refine aC (fun hb=> ?_) (fun hb=> ?_)<;>have h:=hb<;>(try simp only[wf_preprocess] at h)<;>simp -implicitDefEqProofs (disch:=omega) only[go_sem,hb]<;>(repeat(with_reducible refine And.intro ?_ ?_;focus first|omega|rfl|assumption|exact⟨_,rfl,rfl⟩|(simp;omega)|(simp;done)))
     ·obtain⟨j,hj⟩:∃j:Nat,gB w w.aG[p].dP[d]=(j:Int):=⟨_,(Int.toNat_of_nonneg h0).symm⟩
      have hjp:j<p:=by omega
      have hlj:=hl j;have hr:=rg p j hjp;rw[hj];simp -implicitDefEqProofs (disch:=omega) only[go_sem,List.length_range,hr]
      (repeat(with_reducible refine And.intro ?_ ?_;focus first|omega|rfl|assumption|exact⟨_,rfl,rfl⟩|(simp;omega)|(simp;done)))
      refine aB (Jz (oW w j) k (by omega)) ?_;simp -implicitDefEqProofs (disch:=omega) only[go_sem]<;>(repeat(with_reducible refine And.intro ?_ ?_;focus first|omega|rfl|assumption|exact⟨_,rfl,rfl⟩|(simp;omega)|(simp;done)));rw[gG Tc]
      with_reducible refine aC (fun hb=> ?_) (fun hb=> ?_)<;>have h:=hb<;>(try simp only[wf_preprocess] at h)<;>simp -implicitDefEqProofs (disch:=omega) only[go_sem,hb]<;>(repeat(with_reducible refine And.intro ?_ ?_;focus first|omega|rfl|assumption|exact⟨_,rfl,rfl⟩|(simp;omega)|(simp;done)))
      ·have hv:kX w p k:=hf.2 ⟨j,⟨hjp,_,by rw[hdo];exact List.getElem_mem hd,hj⟩,h⟩
       (repeat(with_reducible refine And.intro ?_ ?_;focus first|omega|rfl|assumption|exact⟨_,rfl,rfl⟩|(simp;omega)|(simp;done)))
       rw[Y0];exact bT (k+1) (by omega) (by rw[BS hv];rfl) (by rw[BS hv]) (by omega)
      ·have F9:=h
       (repeat(with_reducible refine And.intro ?_ ?_;focus first|omega|rfl|assumption|exact⟨_,rfl,rfl⟩|(simp;omega)|(simp;done)))
       exact bT (d+1) (by omega) rfl rfl ⟨by omega,miss fun j' h1 h2=>by
        have:j'=j:=by omega
        rw[this];exact F9⟩
     ·exact bT (d+1) (by omega) rfl rfl ⟨by omega,miss fun j' h1 h2=>by omega⟩
    ·exact bT (d+1) (by omega) rfl rfl ⟨by omega,miss fun j' h1 h2=>by omega⟩
   ·have hd:d=w.aG[p].dP.length:=by omega
    have hv:¬kX w p k:=fun hv=>by
     obtain⟨j,⟨h1,x,h2,h3⟩,h4⟩:=hf.1 hv;rw[hdo] at h2;obtain⟨e,he,ee⟩:=List.getElem_of_mem h2;exact q2 e he (by omega) j h1 (by rw[ee];exact h3) h4
    exact bT (k+1) (by omega) (by rw[IX hv];rfl) (by rw[IX hv]) (by omega)
  ·have hkp:k=p:=by omega
   subst hkp;have e1:=BS (kX.refl (w:=w) k)
   have e2:(List.range (k+1)).map (fun q=>[D.sl ((oW w q).map encI)])=(List.range k).map (fun q=>[D.sl ((oW w q).map encI)])++[[D.sl ((oW w k).map encI)]]:=by rw[List.range_succ,List.map_append];rfl
   first|refine⟨by simp only[List.length_range];omega,?_⟩|skip
   (repeat(with_reducible refine And.intro ?_ ?_;focus first|omega|rfl|assumption|exact⟨_,rfl,rfl⟩|(simp;omega)|(simp;done)))
   rw[Y0,<-e1];exact fu 2 (by decide) (k+1) (by omega) (by rw[e2];rfl) (by rw[e2];rfl) rfl rfl (by omega)
 ·have hp:p=i+1:=by omega
  subst hp;have hr:=rg (i+1) i (by omega)
  have hrl:((List.range (i+1)).map fun q=>[D.sl ((oW w q).map encI)]).length=i+1:=by simp
  generalize ((List.range (i+1)).map fun q=>[D.sl ((oW w q).map encI)])=R at hr hrl ⊢;simp -implicitDefEqProofs (disch:=omega) only[go_sem,hr,hrl]
  first|exact⟨by omega,by simp⟩|trace_state
theorem Y3(w:aM)(i:Nat)(hsz:w.sz<=4194304)(hi:i<w.aG.length):aX prog 9 [w.v,.c (.d (.i .i64 i))] (.c (.d (.sl ((oW w i).map encI)))):=fun S=>by
 have hb0:=aM.bounds hsz
 have hge:∀P:Nat->Prop,∀j,j<i+1->(iJ P (i+1)).getD j []=[D.b (dec (P j))]:=fun P j h=>by simp[iJ,List.getD,h]
 refine zcx [.tmp 4] func9 ntmps9 ?_;simp -implicitDefEqProofs (disch:=omega) only[go_sem]
 with_reducible refine aC (fun hb=> ?_) (fun hb=> ?_)<;>have h:=hb<;>(try simp only[wf_preprocess] at h)<;>simp -implicitDefEqProofs (disch:=omega) only[go_sem,hb]<;>(repeat(with_reducible refine And.intro ?_ ?_;focus first|omega|rfl|assumption|exact⟨_,rfl,rfl⟩|(simp;omega)|(simp;done)))
 ·omega
 with_reducible refine aC (fun hb=> ?_) (fun hb=> ?_)<;>have h:=hb<;>(try simp only[wf_preprocess] at h)<;>simp -implicitDefEqProofs (disch:=omega) only[go_sem,hb]<;>(repeat(with_reducible refine And.intro ?_ ?_;focus first|omega|rfl|assumption|exact⟨_,rfl,rfl⟩|(simp;omega)|(simp;done)))
 ·omega
 (repeat(with_reducible refine And.intro ?_ ?_;focus first|omega|rfl|assumption|exact⟨_,rfl,rfl⟩|(simp;omega)|(simp;done)))
 rw[show((i:Int)+1).toNat=i+1 by omega,Y1,Te (Q:=Met w i (i+1)) (fun m hm=>⟨fun h=>.inr (h.elim id fun⟨p,h1,h2,_⟩=>by have:=h2.le;omega),fun h=>h.elim False.elim .inl⟩) (by omega)]
 refine bN (ι:=Nat) zmx rfl [2,5,6] (fun n=>[.c (.ptr (0,0) 0),.c (.iU (0,1)),.c (.d (.i .i64 ((n:Int)-1)))]) (fun n=>[.box (w.enc.map .d),.eZ 1 (iJ (Met w i n) (i+1))]::S)
  (fun n=>n<=i+1) (fun n=>n) (i+1) ?_ ?_ (Nat.le_refl _) ?_
 ·simp only[List.map_cons,List.map_nil];simp -implicitDefEqProofs (disch:=omega) only[go_sem]
  simp
 ·simp -implicitDefEqProofs (disch:=omega) only[go_sem]
 intro n hn;simp -implicitDefEqProofs (disch:=omega) only[go_sem]
 with_reducible refine aC (fun hb=> ?_) (fun hb=> ?_)<;>have h:=hb<;>(try simp only[wf_preprocess] at h)<;>simp -implicitDefEqProofs (disch:=omega) only[go_sem,hb]<;>(repeat(with_reducible refine And.intro ?_ ?_;focus first|omega|rfl|assumption|exact⟨_,rfl,rfl⟩|(simp;omega)|(simp;done)))
 ·obtain⟨k,rfl⟩:∃k,n=k+1:=⟨n-1,by omega⟩
  have ek:((k+1:Nat):Int)-1=(k:Int):=by omega
  have hk:=hge (Met w i (k+1)) k (by omega)
  have hkl:k<w.aG.length:=by omega
  rw[ek];simp -implicitDefEqProofs (disch:=omega) only[go_sem,hk,qz]
  (repeat(with_reducible refine And.intro ?_ ?_;focus first|omega|rfl|assumption|exact⟨_,rfl,rfl⟩|(simp;omega)|(simp;done)))
  rw[gG (afq (w:=w) (i:=i) (m:=k) (by omega))]
  with_reducible refine aC (fun hb=> ?_) (fun hb=> ?_)<;>have h:=hb<;>(try simp only[wf_preprocess] at h)<;>simp -implicitDefEqProofs (disch:=omega) only[go_sem,hb]<;>(repeat(with_reducible refine And.intro ?_ ?_;focus first|omega|rfl|assumption|exact⟨_,rfl,rfl⟩|(simp;omega)|(simp;done)))
  ·have hv:=h;have e:=sK (n:=i+1) (P:=Met w i (k+1)) (Q:=Met w i k) fun m _=>(afr hv).symm
   (repeat(with_reducible refine And.intro ?_ ?_;focus first|omega|rfl|assumption|exact⟨_,rfl,rfl⟩|(simp;omega)|(simp;done)))
   exact bT k (by omega) rfl (by rw[<-e]) (by omega)
  ·have hv:=h;have hdl:=aK.Td (aM.ab0 hkl hsz);have hdo:=O1 hkl
   (repeat(with_reducible refine And.intro ?_ ?_;focus first|omega|rfl|assumption|exact⟨_,rfl,rfl⟩|(simp;omega)|(simp;done)))
   refine bN (ι:=Nat) zmx rfl [2,5,6,43,44,45] (fun d=>[.c (.ptr (0,0) 0),.c (.iU (0,1)),.c (.d (.i .i64 k)),.c (.d (.sl (w.aG[k].dP.map encS))),.c (.d (.i .i64 w.aG[k].dP.length)),.c (.d (.i .i64 d))])
    (fun d=>[.box (w.enc.map .d),.eZ 1 (iJ (fun m=>Met w i (k+1) m\/∃e,∃he:e<w.aG[k].dP.length,e<d/\gB w w.aG[k].dP[e]=(m:Int)/\m<k) (i+1))]::S)
    (fun d=>d<=w.aG[k].dP.length) (fun d=>w.aG[k].dP.length-d) 0 rfl ?_ (Nat.zero_le _) ?_
   ·simp -implicitDefEqProofs (disch:=omega) only[go_sem];rw[sK (P:=Met w i (k+1)) (Q:=fun m=>Met w i (k+1) m\/∃e,∃he:e<w.aG[k].dP.length,e<0/\gB w w.aG[k].dP[e]=(m:Int)/\m<k) fun m _=>⟨.inl,fun h=>h.elim id fun⟨e,_,h,_⟩=>by omega⟩]
   intro d hd;simp -implicitDefEqProofs (disch:=omega) only[go_sem]
   with_reducible refine aC (fun hb=> ?_) (fun hb=> ?_)<;>have h:=hb<;>(try simp only[wf_preprocess] at h)<;>simp -implicitDefEqProofs (disch:=omega) only[go_sem,hb]<;>(repeat(with_reducible refine And.intro ?_ ?_;focus first|omega|rfl|assumption|exact⟨_,rfl,rfl⟩|(simp;omega)|(simp;done)))
   ·have hdd:d<w.aG[k].dP.length:=by omega
    have stay:(∀m:Nat,gB w w.aG[k].dP[d]=(m:Int)->¬m<k)->iJ (fun m=>Met w i (k+1) m\/∃e,∃he:e<w.aG[k].dP.length,e<d/\gB w w.aG[k].dP[e]=(m:Int)/\m<k) (i+1)=iJ (fun m=>Met w i (k+1) m\/∃e,∃he:e<w.aG[k].dP.length,e<d+1/\gB w w.aG[k].dP[e]=(m:Int)/\m<k) (i+1):=fun hno=>
     sK fun m _=>⟨fun h=>h.imp id fun⟨e,h1,h2,h3⟩=>⟨e,h1,by omega,h3⟩,fun h=>h.imp id fun⟨e,h1,h2,h3,h4⟩=>by
      by_cases e':e=d
      ·subst e';exact absurd h4 (hno m h3)
      ·exact⟨e,h1,by omega,h3,h4⟩⟩
    (repeat(with_reducible refine And.intro ?_ ?_;focus first|omega|rfl|assumption|exact⟨_,rfl,rfl⟩|(simp;omega)|(simp;done)))
    refine aB (Ms w w.aG[k].dP[d] hsz) ?_;simp -implicitDefEqProofs (disch:=omega) only[go_sem]<;>(repeat(with_reducible refine And.intro ?_ ?_;focus first|omega|rfl|assumption|exact⟨_,rfl,rfl⟩|(simp;omega)|(simp;done)))
    with_reducible refine aC (fun hb=> ?_) (fun hb=> ?_)<;>have h:=hb<;>(try simp only[wf_preprocess] at h)<;>simp -implicitDefEqProofs (disch:=omega) only[go_sem,hb]<;>(repeat(with_reducible refine And.intro ?_ ?_;focus first|omega|rfl|assumption|exact⟨_,rfl,rfl⟩|(simp;omega)|(simp;done)))
    ·have h0:=h
     with_reducible refine aC (fun hb=> ?_) (fun hb=> ?_)<;>have h:=hb<;>(try simp only[wf_preprocess] at h)<;>simp -implicitDefEqProofs (disch:=omega) only[go_sem,hb]<;>(repeat(with_reducible refine And.intro ?_ ?_;focus first|omega|rfl|assumption|exact⟨_,rfl,rfl⟩|(simp;omega)|(simp;done)))
     ·obtain⟨j,hj⟩:∃j:Nat,gB w w.aG[k].dP[d]=(j:Int):=⟨_,(Int.toNat_of_nonneg h0).symm⟩
      have hjk:j<k:=by omega
      rw[hj];simp -implicitDefEqProofs (disch:=omega) only[go_sem,qz]
      (repeat(with_reducible refine And.intro ?_ ?_;focus first|omega|rfl|assumption|exact⟨_,rfl,rfl⟩|(simp;omega)|(simp;done)))
      rw[Te (Q:=fun m=>Met w i (k+1) m\/∃e,∃he:e<w.aG[k].dP.length,e<d+1/\gB w w.aG[k].dP[e]=(m:Int)/\m<k) (fun m _=>⟨fun h=>by
         rcases h with h|⟨e,h1,h2,h3,h4⟩
         ·exact .inl (.inl h)
         ·by_cases e':e=d
          ·subst e';right;omega
          ·exact .inl (.inr ⟨e,h1,by omega,h3,h4⟩),fun h=>by
         rcases h with(h|⟨e,h1,h2,h3⟩)|h
         ·exact .inl h
         ·exact .inr ⟨e,h1,by omega,h3⟩
         ·exact .inr ⟨d,hdd,by omega,by rw[h];exact hj,by omega⟩⟩) (by omega)]
      exact bT (d+1) (by omega) rfl rfl (by omega)
     ·exact bT (d+1) (by omega) rfl (by rw[<-stay fun m h1 h2=>by omega]) (by omega)
    ·exact bT (d+1) (by omega) rfl (by rw[<-stay fun m h1 h2=>by omega]) (by omega)
   ·have hd':d=w.aG[k].dP.length:=by omega
    have e:=sK (n:=i+1) (P:=fun m=>Met w i (k+1) m\/∃e,∃he:e<w.aG[k].dP.length,e<d/\gB w w.aG[k].dP[e]=(m:Int)/\m<k) (Q:=Met w i k) fun m _=>by
     rw[afs hv];constructor
     ·rintro(h|⟨e,h1,h2,h3,h4⟩)
      ·exact .inl h
      ·exact .inr ⟨h4,_,by rw[hdo];exact List.getElem_mem h1,h3⟩
     ·rintro(h|⟨h4,x,h1,h3⟩)
      ·exact .inl h
      ·rw[hdo] at h1;obtain⟨e,he,ee⟩:=List.getElem_of_mem h1;exact .inr ⟨e,he,by omega,by rw[ee];exact h3,h4⟩
    exact bT k (by omega) rfl (by rw[<-e]) (by omega)
 have hn0:n=0:=by omega
 subst hn0;rw[sK (P:=Met w i 0) (Q:=kX w i) fun m hm=>ahP (by omega) (by omega)];have hgv:=hge (kX w i);have hbl:=qz (kX w i) (i+1);generalize hR:iJ (kX w i) (i+1)=R at hgv hbl ⊢;simp -implicitDefEqProofs (disch:=omega) only[go_sem,hbl]
 (repeat(with_reducible refine And.intro ?_ ?_;focus first|omega|rfl|assumption|exact⟨_,rfl,rfl⟩|(simp;omega)|(simp;done)))
 refine kN 10 1 [] rfl (by simp) ?_
 refine bN (ι:=Nat) zmx rfl [10,64,65,66] (fun m=>[.c (.bV (0,2) ((uI w i m).map encI)),.c (.iU (0,1)),.c (.d (.i .i64 ((i+1:Nat):Int))),.c (.d (.i .i64 m))]) (fun m=>[.box (w.enc.map .d),.eZ 1 R,.tok 1 ((uI w i m).map encI)]::S)
  (fun m=>m<=i+1) (fun m=>i+1-m) 0 ?_ ?_ (Nat.zero_le _) ?_
 ·rfl
 ·simp -implicitDefEqProofs (disch:=omega) only[go_sem];rfl
 intro m hm;have hml:=Fx w i m;simp -implicitDefEqProofs (disch:=omega) only[go_sem]
 with_reducible refine aC (fun hb=> ?_) (fun hb=> ?_)<;>have h:=hb<;>(try simp only[wf_preprocess] at h)<;>simp -implicitDefEqProofs (disch:=omega) only[go_sem,hb]<;>(repeat(with_reducible refine And.intro ?_ ?_;focus first|omega|rfl|assumption|exact⟨_,rfl,rfl⟩|(simp;omega)|(simp;done)))
 ·have hmi:m<i+1:=by omega
  have hg:=hgv m hmi;simp -implicitDefEqProofs (disch:=omega) only[go_sem,hg,hbl]
  (repeat(with_reducible refine And.intro ?_ ?_;focus first|omega|rfl|assumption|exact⟨_,rfl,rfl⟩|(simp;omega)|(simp;done)))
  with_reducible refine aC (fun hb=> ?_) (fun hb=> ?_)<;>have h:=hb<;>(try simp only[wf_preprocess] at h)<;>simp -implicitDefEqProofs (disch:=omega) only[go_sem,hb]<;>(repeat(with_reducible refine And.intro ?_ ?_;focus first|omega|rfl|assumption|exact⟨_,rfl,rfl⟩|(simp;omega)|(simp;done)))
  ·have hv:=h
   (repeat(with_reducible refine And.intro ?_ ?_;focus first|omega|rfl|assumption|exact⟨_,rfl,rfl⟩|(simp;omega)|(simp;done)))
   rw[Y0];exact bT (m+1) (by omega) (by rw[BS hv];rfl) (by rw[BS hv]) (by omega)
  ·have hv:=h;exact bT (m+1) (by omega) (by rw[IX hv];rfl) (by rw[IX hv]) (by omega)
 ·have hmi:m=i+1:=by omega
  rw[hmi];rfl
noncomputable def oZ(w:aM)(i:Int):List Int:=if 0<=i/\i<w.aG.length then oW w i.toNat else []
theorem U4(w:aM)(i:Int)(hsz:w.sz<=4194304)(hi: -9223372036854775808<=i/\i<=9223372036854775807):aX prog 11 [w.v,.c (.d (.i .i64 i))] (.c (.d (.sl ((oZ w i).map encI)))):=by
 have hb0:=aM.bounds hsz;by_cases h:0<=i/\i<w.aG.length
 ·obtain⟨n,rfl⟩:=Int.eq_ofNat_of_zero_le h.1;have h1:=Y2 w n hsz (by omega);unfold oZ;rw[if_pos h];exact h1
 ·unfold oZ;rw[if_neg h];refine aX.less (fun S=> ?_) Rj;refine zcx [.tmp 4] func11 ntmps11 ?_;simp -implicitDefEqProofs (disch:=omega) only[go_sem];refine aB (wh i 0 (w.aG.length-1)) ?_;simp -implicitDefEqProofs (disch:=omega) only[go_sem]<;>(repeat(with_reducible refine And.intro ?_ ?_;focus first|omega|rfl|assumption|exact⟨_,rfl,rfl⟩|(simp;omega)|(simp;done)))
  with_reducible refine aC (fun hb=> ?_) (fun hb=> ?_)<;>have h:=hb<;>(try simp only[wf_preprocess] at h)<;>simp -implicitDefEqProofs (disch:=omega) only[go_sem,hb]<;>(repeat(with_reducible refine And.intro ?_ ?_;focus first|omega|rfl|assumption|exact⟨_,rfl,rfl⟩|(simp;omega)|(simp;done)))
  ·omega
theorem JA(w:aM)(i:Int)(hsz:w.sz<=4194304)(hi: -9223372036854775808<=i/\i<=9223372036854775807):aX prog 9 [w.v,.c (.d (.i .i64 i))] (.c (.d (.sl ((oZ w i).map encI)))):=by
 have hb0:=aM.bounds hsz;by_cases h0:0<=i/\i<w.aG.length
 ·obtain⟨n,rfl⟩:=Int.eq_ofNat_of_zero_le h0.1;have h1:=Y3 w n hsz (by omega);unfold oZ;rw[if_pos h0];exact h1
 ·unfold oZ;rw[if_neg h0];refine aX.less (fun S=> ?_) Rj;refine zcx [.tmp 4] func9 ntmps9 ?_;simp -implicitDefEqProofs (disch:=omega) only[go_sem]
  repeat' (first|with_reducible refine aC (fun hb=> ?_) (fun hb=> ?_)<;>have h:=hb<;>(try simp only[wf_preprocess] at h)<;>simp -implicitDefEqProofs (disch:=omega) only[go_sem,hb]<;>(repeat(with_reducible refine And.intro ?_ ?_;focus first|omega|rfl|assumption|exact⟨_,rfl,rfl⟩|(simp;omega)|(simp;done))))
  all_goals first|omega|rfl
theorem Ko{w:aM}{i k:Int}:k∈oZ w i<->tK w i k:=by
 unfold oZ tK;split
 ·rename_i h;exact⟨fun x=>⟨h.1,h.2,x⟩,fun x=>x.2.2⟩
 ·rename_i h;exact⟨fun x=>absurd x (by simp),fun x=>absurd ⟨x.1,x.2.1⟩ h⟩
theorem Fz{w:aM}{i:Int}(h:w.aG.length<=4194304):(oZ w i).length<=4194304:=by
 unfold oZ;split
 ·rename_i hi;have:=Fx w i.toNat (i.toNat+1);unfold oW;omega
 ·simp
theorem H6(w:aM)(i k:Int)(hsz:w.sz<=4194304)(hi: -9223372036854775808<=i/\i<=9223372036854775807):aX prog 139 [w.v,.c (.d (.i .i64 i)),.c (.d (.i .i64 k))] (.c (.d (.b (dec (tK w i k))))):=fun S=>by
 have hb0:=aM.bounds hsz;have hl:=Fz (w:=w) (i:=i) hb0;have hm:=gG (Ko (w:=w) (i:=i) (k:=k));refine zcx [.tmp 6] func139 ntmps139 ?_;simp -implicitDefEqProofs (disch:=omega) only[go_sem];refine aB (U4 w i hsz hi) ?_;simp -implicitDefEqProofs (disch:=omega) only[go_sem];refine aB (Jz (oZ w i) k (by omega)) ?_;simp -implicitDefEqProofs (disch:=omega) only[go_sem]<;>(repeat(with_reducible refine And.intro ?_ ?_;focus first|omega|rfl|assumption|exact⟨_,rfl,rfl⟩|(simp;omega)|(simp;done)));exact bL hm
theorem Tf(w:aM)(i k:Int)(hsz:w.sz<=4194304)(hi: -9223372036854775808<=i/\i<=9223372036854775807):aX prog 14 [w.v,.c (.d (.i .i64 i)),.c (.d (.i .i64 k))] (.c (.d (.b (dec (tK w i k))))):=fun S=>by
 have hb0:=aM.bounds hsz;have hl:=Fz (w:=w) (i:=i) hb0;have hm:=gG (Ko (w:=w) (i:=i) (k:=k));refine zcx [.tmp 6] func14 ntmps14 ?_;simp -implicitDefEqProofs (disch:=omega) only[go_sem];refine aB (JA w i hsz hi) ?_;simp -implicitDefEqProofs (disch:=omega) only[go_sem];refine aB (HZ (oZ w i) k (by omega)) ?_;simp -implicitDefEqProofs (disch:=omega) only[go_sem]<;>(repeat(with_reducible refine And.intro ?_ ?_;focus first|omega|rfl|assumption|exact⟨_,rfl,rfl⟩|(simp;omega)|(simp;done)));exact bL hm
theorem bD.bounds{x:bD}(h:x.sz<=4194304):x.fName.length<=4194304/\x.dG.length<=4194304/\x.aO.length<=4194304:=by
 simp only[bD.sz,bD.aj,bG,bC,D.sz,List.length_map] at h;omega
theorem bD.af4{x:bD}{i:Nat}(hi:i<x.aO.length)(h:x.sz<=4194304):x.aO[i].sz<=4194304:=by
 have hx:x.aO[i].sz<=aQ (x.aO.map aI.enc):=dO (List.mem_map_of_mem (List.getElem_mem hi));simp only[bD.sz,bD.aj,bG,bC,D.sz,List.length_map] at h;omega
theorem aI.bounds{x:aI}(h:x.sz<=4194304):x.fName.length<=4194304/\x.bO.length<=4194304/\x.dn.sz<=4194304/\x.aU.length<=4194304/\x.fBody.sz<=4194304/\∀t∈x.bO,t.sz<=4194304:=by
 simp only[aI.sz,aI.aj,bG,bC,D.sz,List.length_map,ay.cK,aD.cK] at h;refine⟨by omega,by omega,by omega,by omega,by omega,fun t ht=> ?_⟩;have hx:t.sz<=aQ (x.bO.map ay.enc):=dO (List.mem_map_of_mem ht);omega
theorem NG(t:bD)(hsz:t.sz<=4194304):aX prog 138 [t.v] (.c (.d (.b (sP t)))):=fun S=>by
 have hts:=bD.bounds hsz
 have bad:∀i,∀hi:i<t.aO.length,mentions t.aO[i]=true->sP t=false:=fun i hi h=>by
  unfold sP;rw[show t.aO.any mentions=true from List.any_eq_true.2 ⟨_,List.getElem_mem hi,h⟩]
  simp
 refine zcx [.tmp 2] func138 ntmps138 ?_;simp -implicitDefEqProofs (disch:=omega) only[go_sem]
 refine bN (ι:=Nat) zmx rfl [1,3] (fun i=>[.c (.ptr (0,0) 0),.c (.d (.i .i64 i))]) (fun _=>[.box (t.enc.map .d)]::S)
  (fun i=>i<=t.aO.length/\∀j,∀hj:j<t.aO.length,j<i->mentions t.aO[j]=false) (fun i=>t.aO.length-i) 0 rfl ?_ ⟨Nat.zero_le _,fun j _ h=>by omega⟩ ?_
 ·simp -implicitDefEqProofs (disch:=omega) only[go_sem]
 rintro i ⟨p1,p2⟩;simp -implicitDefEqProofs (disch:=omega) only[go_sem]
 with_reducible refine aC (fun hb=> ?_) (fun hb=> ?_)<;>have h:=hb<;>(try simp only[wf_preprocess] at h)<;>simp -implicitDefEqProofs (disch:=omega) only[go_sem,hb]<;>(repeat(with_reducible refine And.intro ?_ ?_;focus first|omega|rfl|assumption|exact⟨_,rfl,rfl⟩|(simp;omega)|(simp;done)))
 ·have hi:i<t.aO.length:=by omega
  have hg:=aI.bounds (bD.af4 hi hsz)
  (repeat(with_reducible refine And.intro ?_ ?_;focus first|omega|rfl|assumption|exact⟨_,rfl,rfl⟩|(simp;omega)|(simp;done)))
  refine aB (zN yR t.aO[i].dn (by omega)) ?_;simp -implicitDefEqProofs (disch:=omega) only[go_sem]<;>(repeat(with_reducible refine And.intro ?_ ?_;focus first|omega|rfl|assumption|exact⟨_,rfl,rfl⟩|(simp;omega)|(simp;done)))
  with_reducible refine aC (fun hb=> ?_) (fun hb=> ?_)<;>have h:=hb<;>(try simp only[wf_preprocess] at h)<;>simp -implicitDefEqProofs (disch:=omega) only[go_sem,hb]<;>(repeat(with_reducible refine And.intro ?_ ?_;focus first|omega|rfl|assumption|exact⟨_,rfl,rfl⟩|(simp;omega)|(simp;done)))
  ·rw[bad i hi (by unfold mentions;rw[h];rfl)]
  have hr:=h
  refine bN (ι:=Nat) zmx rfl [1,3,4] (fun k=>[.c (.ptr (0,0) 0),.c (.d (.i .i64 i)),.c (.d (.i .i64 k))]) (fun _=>[.box (t.enc.map .d)]::S)
   (fun k=>k<=t.aO[i].bO.length/\∀j,∀hj:j<t.aO[i].bO.length,j<k->occurs yR t.aO[i].bO[j]=false) (fun k=>t.aO[i].bO.length-k) 0 rfl ?_ ⟨Nat.zero_le _,fun j _ h=>by omega⟩ ?_
  ·simp -implicitDefEqProofs (disch:=omega) only[go_sem]
  rintro k ⟨q1,q2⟩;simp -implicitDefEqProofs (disch:=omega) only[go_sem]
  (repeat(with_reducible refine And.intro ?_ ?_;focus first|omega|rfl|assumption|exact⟨_,rfl,rfl⟩|(simp;omega)|(simp;done)))
  with_reducible refine aC (fun hb=> ?_) (fun hb=> ?_)<;>have h:=hb<;>(try simp only[wf_preprocess] at h)<;>simp -implicitDefEqProofs (disch:=omega) only[go_sem,hb]<;>(repeat(with_reducible refine And.intro ?_ ?_;focus first|omega|rfl|assumption|exact⟨_,rfl,rfl⟩|(simp;omega)|(simp;done)))
  ·have hk:k<t.aO[i].bO.length:=by omega
   (repeat(with_reducible refine And.intro ?_ ?_;focus first|omega|rfl|assumption|exact⟨_,rfl,rfl⟩|(simp;omega)|(simp;done)))
   refine aB (zN yR t.aO[i].bO[k] (hg.2.2.2.2.2 _ (List.getElem_mem hk))) ?_;simp -implicitDefEqProofs (disch:=omega) only[go_sem]<;>(repeat(with_reducible refine And.intro ?_ ?_;focus first|omega|rfl|assumption|exact⟨_,rfl,rfl⟩|(simp;omega)|(simp;done)))
   with_reducible refine aC (fun hb=> ?_) (fun hb=> ?_)<;>have h:=hb<;>(try simp only[wf_preprocess] at h)<;>simp -implicitDefEqProofs (disch:=omega) only[go_sem,hb]<;>(repeat(with_reducible refine And.intro ?_ ?_;focus first|omega|rfl|assumption|exact⟨_,rfl,rfl⟩|(simp;omega)|(simp;done)))
   ·rw[bad i hi (by unfold mentions;rw[show t.aO[i].bO.any (occurs yR)=true from List.any_eq_true.2 ⟨_,List.getElem_mem hk,h⟩];simp)]
   ·refine bT (k+1) (by omega) rfl rfl ⟨by omega,fun j hj hjk=> ?_⟩;by_cases e:j=k
    ·subst e;exact h
    ·exact q2 j hj (by omega)
  ·refine bT (i+1) (by omega) rfl rfl ⟨by omega,fun j hj hji=> ?_⟩;by_cases e:j=i
   ·subst e;unfold mentions;rw[hr,Bool.false_or];refine Bool.eq_false_iff.2 fun hx=> ?_;obtain⟨u,hu,ho⟩:=List.any_eq_true.1 hx;obtain⟨m,hm,e⟩:=List.getElem_of_mem hu;rw[<-e,q2 m hm (by omega)] at ho;cases ho
   ·exact p2 j hj (by omega)
 ·have hn:t.aO.any mentions=false:=Bool.eq_false_iff.2 fun hx=>by
   obtain⟨u,hu,ho⟩:=List.any_eq_true.1 hx;obtain⟨m,hm,e⟩:=List.getElem_of_mem hu;rw[<-e,p2 m hm (by omega)] at ho;cases ho
  exact bL (by unfold sP;rw[hn];simp)
theorem Mw(g:aI)(hsz:g.sz<=4194304):aX prog 194 [g.v] (.c (.d (.b (mentions g)))):=fun S=>by
 have hg:=aI.bounds hsz
 have hcl:∀x∈g.bO,aX prog 224 [x.v] (.c (.d (.b (occurs yR x)))):=fun x hx S=>by
  refine zcx [.tmp 2] func224 ntmps224 ?_;simp -implicitDefEqProofs (disch:=omega) only[go_sem];refine aB (FK yR x (hg.2.2.2.2.2 x hx)) ?_;simp -implicitDefEqProofs (disch:=omega) only[go_sem]<;>(repeat(with_reducible refine And.intro ?_ ?_;focus first|omega|rfl|assumption|exact⟨_,rfl,rfl⟩|(simp;omega)|(simp;done)))
 refine zcx [.tmp 2] func194 ntmps194 ?_;simp -implicitDefEqProofs (disch:=omega) only[go_sem];refine aB (FK yR g.dn (by omega)) ?_;simp -implicitDefEqProofs (disch:=omega) only[go_sem]<;>(repeat(with_reducible refine And.intro ?_ ?_;focus first|omega|rfl|assumption|exact⟨_,rfl,rfl⟩|(simp;omega)|(simp;done)))
 with_reducible refine aC (fun hb=> ?_) (fun hb=> ?_)<;>have h:=hb<;>(try simp only[wf_preprocess] at h)<;>simp -implicitDefEqProofs (disch:=omega) only[go_sem,hb]<;>(repeat(with_reducible refine And.intro ?_ ?_;focus first|omega|rfl|assumption|exact⟨_,rfl,rfl⟩|(simp;omega)|(simp;done)))
 ·exact bL (by unfold mentions;rw[h];rfl)
 ·refine aW rfl (FT 224 [] _ g.bO (occurs yR) (by omega) fun x hx=>uJ.Vk (hcl x hx)) ?_;simp -implicitDefEqProofs (disch:=omega) only[go_sem];exact bL (by unfold mentions;rw[h];rfl)
theorem NH(t:bD)(hsz:t.sz<=4194304):aX prog 173 [t.v] (.c (.d (.b (sP t)))):=fun S=>by
 have hts:=bD.bounds hsz;refine zcx [.tmp 2] func173 ntmps173 ?_;simp -implicitDefEqProofs (disch:=omega) only[go_sem]
 with_reducible refine aC (fun hb=> ?_) (fun hb=> ?_)<;>have h:=hb<;>(try simp only[wf_preprocess] at h)<;>simp -implicitDefEqProofs (disch:=omega) only[go_sem,hb]<;>(repeat(with_reducible refine And.intro ?_ ?_;focus first|omega|rfl|assumption|exact⟨_,rfl,rfl⟩|(simp;omega)|(simp;done)))
 ·refine aW rfl (Br 194 [] _ t.aO mentions (by omega) fun x hx=>uJ.Vk (Mw x (by obtain⟨i,hi,e⟩:=List.getElem_of_mem hx;rw[<-e];exact bD.af4 hi hsz))) ?_;simp -implicitDefEqProofs (disch:=omega) only[go_sem];exact bL (by unfold sP;rw[h];rfl)
 ·exact bL (by unfold sP;rw[h];rfl)
noncomputable def o9{α:Type}(w:aM)(i:Int):Option (α×Nat)->Bool
 |some (_,p)=>dec (tK w i p)
 |none=>false
abbrev CS(w:aM)(vis:List Int):V:=.agg [.d (.sl (w.aG.map aK.enc)),.d (.sl (vis.map encI))]
theorem JB{α:Type}(w:aM)(i:Int)(r:Option (α×Nat)):o9 w i r=(r.isSome&&dec (pz r∈oZ w i)):=by
 cases r with
 |none=>rfl
 |some x=>obtain⟨t,p⟩:=x;simp only[o9,Option.isSome_some,Bool.true_and,pz];exact gG Ko.symm
noncomputable def pI(w:aM)(i:Int)(name:List UInt8):Int:=
 if o9 w i (gQ w name)=true then(match gQ w name with|some (t,_)=>if sP t=true then 0 else 5|none=>3) else 3
noncomputable def gF(w:aM)(i:Int)(k:Int)(name:List UInt8)(n:Nat):Int:=
 if k=1 then 0 else if k=2 then(if uf name=true then 0 else if o9 w i (jT w name)=true then(match jT w name with|some (d,_)=>if n=d.aU.length then 0 else 2|none=>1) else 1)
 else if k=3 then(if o9 w i (gQ w name)=true then(match gQ w name with|some (t,_)=>if t.bX=true then 0 else 4|none=>3) else 3)
 else if k=4 then pI w i name else 1
mutual
noncomputable def mW(w:aM)(i:Int):ay->Int
 | .mk k n a=>if gF w i k n a.length=0 then lQ w i a else gF w i k n a.length
noncomputable def lQ(w:aM)(i:Int):List ay->Int
 |[]=>0
 |t::ts=>if mW w i t=0 then lQ w i ts else mW w i t
end
theorem O3(w:aM)(i:Int)(t:ay):mW w i t=if gF w i t.aV t.fName t.fArgs.length=0 then lQ w i t.fArgs else gF w i t.aV t.fName t.fArgs.length:=by cases t;rw[mW];rfl
theorem H7{w:aM}{i:Int}{ts:List ay}{k:Nat}(hk:k<ts.length):lQ w i (ts.drop k)=if mW w i ts[k]=0 then lQ w i (ts.drop (k+1)) else mW w i ts[k]:=by
 rw[List.drop_eq_getElem_cons hk,lQ]
theorem uS{α:Type}{w:aM}{i:Int}{r:Option (α×Nat)}(h:o9 w i r=true):∃t p,r=some (t,p):=by
 cases r with
 |none=>cases h
 |some x=>exact⟨x.1,x.2,rfl⟩
theorem Mx{w:aM}{name:List UInt8}{t:bD}{p:Nat}(h:gQ w name=some (t,p))(hsz:w.sz<=4194304):t.sz<=4194304:=by
 obtain⟨q,h1,h2⟩:=HY h;have a:q.sz<=aQ (w.aG.map aK.enc):=dO (List.mem_map_of_mem h1);have b:t.sz<=aQ (q.dJ.map bD.enc):=dO (List.mem_map_of_mem h2);simp only[aM.sz,aM.aj,bG,bC,D.sz,List.length_map] at hsz;simp only[aK.sz,aK.aj,bG,bC,D.sz,List.length_map] at a;omega
theorem O4{w:aM}{name:List UInt8}{t:bg}{p:Nat}(h:jT w name=some (t,p))(hsz:w.sz<=4194304):t.sz<=4194304:=by
 obtain⟨q,h1,h2⟩:=HY h;have a:q.sz<=aQ (w.aG.map aK.enc):=dO (List.mem_map_of_mem h1);have b:t.sz<=aQ (q.bI.map bg.enc):=dO (List.mem_map_of_mem h2);simp only[aM.sz,aM.aj,bG,bC,D.sz,List.length_map] at hsz;simp only[aK.sz,aK.aj,bG,bC,D.sz,List.length_map] at a;omega
theorem bg.Tg{d:bg}(h:d.sz<=4194304):d.aU.length<=4194304:=by
 simp only[bg.sz,bg.aj,bG,bC,D.sz,List.length_map] at h;omega
theorem ab2(w:aM)(i:Int)(hsz:w.sz<=4194304)(hi: -9223372036854775808<=i/\i<=9223372036854775807):aX prog 59 [w.v,.c (.d (.i .i64 i))] (CS w (oZ w i)):=fun S=>by
 refine zcx [.cell 4 97] func59 ntmps59 ?_;simp -implicitDefEqProofs (disch:=omega) only[go_sem];refine aB (JA w i hsz hi) ?_;simp -implicitDefEqProofs (disch:=omega) only[go_sem]
theorem VT(w:aM)(vis:List Int)(hl:vis.length<=1073741824)(k:Int):aX prog 172 [CS w vis,.c (.d (.i .i64 k))] (.c (.d (.b (dec (k∈vis))))):=fun S=>by
 refine zcx [.tmp 4] func172 ntmps172 ?_;simp -implicitDefEqProofs (disch:=omega) only[go_sem];refine aB (HZ vis k hl) ?_;simp -implicitDefEqProofs (disch:=omega) only[go_sem]<;>(repeat(with_reducible refine And.intro ?_ ?_;focus first|omega|rfl|assumption|exact⟨_,rfl,rfl⟩|(simp;omega)|(simp;done)))
theorem H8(w:aM)(i:Int)(name:List UInt8)(hsz:w.sz<=4194304):aX prog 136 [CS w (oZ w i),.c (.d (.s name))] (.eD [(true,wI (gQ w name)),(false,[.d (.b (o9 w i (gQ w name)))])]):=fun S=>by
 have hb0:=aM.bounds hsz;have hl:=Fz (w:=w) (i:=i) hb0;have hs:=JB w i (gQ w name);refine Cj (rs:=[.cell 4 54,.tmp 5]) zmx func136 ntmps136 rfl rfl rfl rfl rfl ?_;simp -implicitDefEqProofs (disch:=omega) only[go_sem];refine aB (U0 w name hsz) ?_;generalize gQ w name=r at hs ⊢
 cases r with
 |none=>
  simp -implicitDefEqProofs (disch:=omega) only[go_sem,wI,pz,Option.isSome_none];refine⟨by rfl,?_⟩;simp -implicitDefEqProofs (disch:=omega) only[go_sem];rfl
 |some x=>
  obtain⟨t,p⟩:=x;simp -implicitDefEqProofs (disch:=omega) only[go_sem,wI,pz,Option.isSome_some];refine aB (VT w (oZ w i) (by omega) p) ?_;simp -implicitDefEqProofs (disch:=omega) only[go_sem];refine⟨by rfl,?_⟩;simp -implicitDefEqProofs (disch:=omega) only[go_sem];rw[hs];rfl
theorem U5(w:aM)(i:Int)(name:List UInt8)(hsz:w.sz<=4194304):aX prog 135 [CS w (oZ w i),.c (.d (.s name))] (.eD [(true,zZ (jT w name)),(false,[.d (.b (o9 w i (jT w name)))])]):=fun S=>by
 have hb0:=aM.bounds hsz;have hl:=Fz (w:=w) (i:=i) hb0;have hs:=JB w i (jT w name);refine Cj (rs:=[.cell 4 59,.tmp 5]) zmx func135 ntmps135 rfl rfl rfl rfl rfl ?_;simp -implicitDefEqProofs (disch:=omega) only[go_sem];refine aB (U2 w name hsz) ?_;generalize jT w name=r at hs ⊢
 cases r with
 |none=>
  simp -implicitDefEqProofs (disch:=omega) only[go_sem,zZ,pz,Option.isSome_none];refine⟨by rfl,?_⟩;simp -implicitDefEqProofs (disch:=omega) only[go_sem];rfl
 |some x=>
  obtain⟨t,p⟩:=x;simp -implicitDefEqProofs (disch:=omega) only[go_sem,zZ,pz,Option.isSome_some];refine aB (VT w (oZ w i) (by omega) p) ?_;simp -implicitDefEqProofs (disch:=omega) only[go_sem];refine⟨by rfl,?_⟩;simp -implicitDefEqProofs (disch:=omega) only[go_sem];rw[hs];rfl
theorem JC(w:aM)(i:Int)(name:List UInt8)(hsz:w.sz<=4194304)(hi: -9223372036854775808<=i/\i<=9223372036854775807):aX prog 98 [w.v,.c (.d (.i .i64 i)),.c (.d (.s name))] (.eD [(true,wI (gQ w name)),(false,[.d (.b (o9 w i (gQ w name)))])]):=fun S=>by
 refine Cj (rs:=[.cell 6 54,.tmp 7]) zmx func98 ntmps98 rfl rfl rfl rfl rfl ?_;simp -implicitDefEqProofs (disch:=omega) only[go_sem];refine aB (U1 w name hsz) ?_;generalize gQ w name=r
 cases r with
 |none=>
  simp -implicitDefEqProofs (disch:=omega) only[go_sem,wI,pz,Option.isSome_none];refine⟨by rfl,?_⟩;simp -implicitDefEqProofs (disch:=omega) only[go_sem];rfl
 |some x=>
  obtain⟨t,p⟩:=x;simp -implicitDefEqProofs (disch:=omega) only[go_sem,wI,pz,Option.isSome_some];refine aB (H6 w i p hsz hi) ?_;simp -implicitDefEqProofs (disch:=omega) only[go_sem];refine⟨by rfl,?_⟩;simp -implicitDefEqProofs (disch:=omega) only[go_sem];rfl
theorem Y4(w:aM)(i:Int)(name:List UInt8)(hsz:w.sz<=4194304)(hi: -9223372036854775808<=i/\i<=9223372036854775807):aX prog 100 [w.v,.c (.d (.i .i64 i)),.c (.d (.s name))] (.eD [(true,zZ (jT w name)),(false,[.d (.b (o9 w i (jT w name)))])]):=fun S=>by
 refine Cj (rs:=[.cell 6 59,.tmp 7]) zmx func100 ntmps100 rfl rfl rfl rfl rfl ?_;simp -implicitDefEqProofs (disch:=omega) only[go_sem];refine aB (U3 w name hsz) ?_;generalize jT w name=r
 cases r with
 |none=>
  simp -implicitDefEqProofs (disch:=omega) only[go_sem,zZ,pz,Option.isSome_none];refine⟨by rfl,?_⟩;simp -implicitDefEqProofs (disch:=omega) only[go_sem];rfl
 |some x=>
  obtain⟨t,p⟩:=x;simp -implicitDefEqProofs (disch:=omega) only[go_sem,zZ,pz,Option.isSome_some];refine aB (H6 w i p hsz hi) ?_;simp -implicitDefEqProofs (disch:=omega) only[go_sem];refine⟨by rfl,?_⟩;simp -implicitDefEqProofs (disch:=omega) only[go_sem];rfl
theorem Y5(w:aM)(i:Int)(name:List UInt8)(hsz:w.sz<=4194304):aX prog 137 [CS w (oZ w i),.c (.d (.s name))] (.c (.d (.i .i64 (pI w i name)))):=fun S=>by
 refine zcx [.tmp 4] func137 ntmps137 ?_;simp -implicitDefEqProofs (disch:=omega) only[go_sem];refine aB (H8 w i name hsz) ?_;simp -implicitDefEqProofs (disch:=omega) only[go_sem]
 cases hs:o9 w i (gQ w name) with
 |false=>
  cases hr:gQ w name<;>(simp -implicitDefEqProofs (disch:=omega) only[go_sem,wI];exact int_eq (by unfold pI;rw[hs];rfl))
 |true=>
  obtain⟨t,p,ht⟩:=uS hs
  have hd:pI w i name=if sP t=true then 0 else 5:=by unfold pI;rw[if_pos hs,ht]
  simp -implicitDefEqProofs (disch:=omega) only[go_sem,ht,wI];refine aB (NH t (Mx ht hsz)) ?_;simp -implicitDefEqProofs (disch:=omega) only[go_sem]
  with_reducible refine aC (fun hb=> ?_) (fun hb=> ?_)<;>have h:=hb<;>(try simp only[wf_preprocess] at h)<;>simp -implicitDefEqProofs (disch:=omega) only[go_sem,hb]<;>(repeat(with_reducible refine And.intro ?_ ?_;focus first|omega|rfl|assumption|exact⟨_,rfl,rfl⟩|(simp;omega)|(simp;done)))
  ·exact int_eq (by rw[hd,h];rfl)
  ·exact int_eq (by rw[hd,h];rfl)
theorem ab3(w:aM)(i:Int)(name:List UInt8)(hsz:w.sz<=4194304)(hi: -9223372036854775808<=i/\i<=9223372036854775807):aX prog 97 [w.v,.c (.d (.i .i64 i)),.c (.d (.s name))] (.c (.d (.i .i64 (pI w i name)))):=fun S=>by
 refine zcx [.tmp 6] func97 ntmps97 ?_;simp -implicitDefEqProofs (disch:=omega) only[go_sem];refine aB (JC w i name hsz hi) ?_;simp -implicitDefEqProofs (disch:=omega) only[go_sem]
 cases hs:o9 w i (gQ w name) with
 |false=>
  cases hr:gQ w name<;>(simp -implicitDefEqProofs (disch:=omega) only[go_sem,wI];exact int_eq (by unfold pI;rw[hs];rfl))
 |true=>
  obtain⟨t,p,ht⟩:=uS hs
  have hd:pI w i name=if sP t=true then 0 else 5:=by unfold pI;rw[if_pos hs,ht]
  simp -implicitDefEqProofs (disch:=omega) only[go_sem,ht,wI];refine aB (NG t (Mx ht hsz)) ?_;simp -implicitDefEqProofs (disch:=omega) only[go_sem]
  with_reducible refine aC (fun hb=> ?_) (fun hb=> ?_)<;>have h:=hb<;>(try simp only[wf_preprocess] at h)<;>simp -implicitDefEqProofs (disch:=omega) only[go_sem,hb]<;>(repeat(with_reducible refine And.intro ?_ ?_;focus first|omega|rfl|assumption|exact⟨_,rfl,rfl⟩|(simp;omega)|(simp;done)))
  ·exact int_eq (by rw[hd,h];rfl)
  ·exact int_eq (by rw[hd,h];rfl)
theorem U6(w:aM)(i:Int)(t:ay)(hsz:w.sz<=4194304)(ht:t.sz<=4194304):aX prog 95 [CS w (oZ w i),t.v] (.c (.d (.i .i64 (gF w i t.aV t.fName t.fArgs.length)))):=fun S=>by
 have hl:=zn ht;refine zcx [.tmp 4] func95 ntmps95 ?_;simp -implicitDefEqProofs (disch:=omega) only[go_sem]
 with_reducible refine aC (fun hb=> ?_) (fun hb=> ?_)<;>have h:=hb<;>(try simp only[wf_preprocess] at h)<;>simp -implicitDefEqProofs (disch:=omega) only[go_sem,hb]<;>(repeat(with_reducible refine And.intro ?_ ?_;focus first|omega|rfl|assumption|exact⟨_,rfl,rfl⟩|(simp;omega)|(simp;done)))
 ·exact int_eq (by unfold gF;rw[if_pos h])
 have k1:=h
 with_reducible refine aC (fun hb=> ?_) (fun hb=> ?_)<;>have h:=hb<;>(try simp only[wf_preprocess] at h)<;>simp -implicitDefEqProofs (disch:=omega) only[go_sem,hb]<;>(repeat(with_reducible refine And.intro ?_ ?_;focus first|omega|rfl|assumption|exact⟨_,rfl,rfl⟩|(simp;omega)|(simp;done)))
 ·have k2:=h;refine aB (Rw t.fName) ?_;simp -implicitDefEqProofs (disch:=omega) only[go_sem]<;>(repeat(with_reducible refine And.intro ?_ ?_;focus first|omega|rfl|assumption|exact⟨_,rfl,rfl⟩|(simp;omega)|(simp;done)))
  with_reducible refine aC (fun hb=> ?_) (fun hb=> ?_)<;>have h:=hb<;>(try simp only[wf_preprocess] at h)<;>simp -implicitDefEqProofs (disch:=omega) only[go_sem,hb]<;>(repeat(with_reducible refine And.intro ?_ ?_;focus first|omega|rfl|assumption|exact⟨_,rfl,rfl⟩|(simp;omega)|(simp;done)))
  ·exact int_eq (by unfold gF;rw[if_neg k1,if_pos k2,if_pos h])
  have k3:¬uf t.fName=true:=by rw[h];simp
  refine aB (U5 w i t.fName hsz) ?_;simp -implicitDefEqProofs (disch:=omega) only[go_sem]
  cases hs:o9 w i (jT w t.fName) with
  |false=>
   cases hr:jT w t.fName<;>(simp -implicitDefEqProofs (disch:=omega) only[go_sem,zZ];exact int_eq (by unfold gF;rw[if_neg k1,if_pos k2,if_neg k3,if_neg (by rw[hs];simp)]))
  |true=>
   obtain⟨d,p,hd⟩:=uS hs;have hdl:=bg.Tg (O4 hd hsz)
   have he:gF w i t.aV t.fName t.fArgs.length=if t.fArgs.length=d.aU.length then 0 else 2:=by unfold gF;rw[if_neg k1,if_pos k2,if_neg k3,if_pos hs,hd]
   simp -implicitDefEqProofs (disch:=omega) only[go_sem,hd,zZ]
   with_reducible refine aC (fun hb=> ?_) (fun hb=> ?_)<;>have h:=hb<;>(try simp only[wf_preprocess] at h)<;>simp -implicitDefEqProofs (disch:=omega) only[go_sem,hb]<;>(repeat(with_reducible refine And.intro ?_ ?_;focus first|omega|rfl|assumption|exact⟨_,rfl,rfl⟩|(simp;omega)|(simp;done)))
   ·exact int_eq (by rw[he,if_neg (by omega)])
   ·exact int_eq (by rw[he,if_pos (by omega)])
 have k2:=h
 with_reducible refine aC (fun hb=> ?_) (fun hb=> ?_)<;>have h:=hb<;>(try simp only[wf_preprocess] at h)<;>simp -implicitDefEqProofs (disch:=omega) only[go_sem,hb]<;>(repeat(with_reducible refine And.intro ?_ ?_;focus first|omega|rfl|assumption|exact⟨_,rfl,rfl⟩|(simp;omega)|(simp;done)))
 ·have k3:=h;refine aB (H8 w i t.fName hsz) ?_;simp -implicitDefEqProofs (disch:=omega) only[go_sem]
  cases hs:o9 w i (gQ w t.fName) with
  |false=>
   cases hr:gQ w t.fName<;>(simp -implicitDefEqProofs (disch:=omega) only[go_sem,wI];exact int_eq (by unfold gF;rw[if_neg k1,if_neg k2,if_pos k3,if_neg (by rw[hs];simp)]))
  |true=>
   obtain⟨d,p,hd⟩:=uS hs
   have he:gF w i t.aV t.fName t.fArgs.length=if d.bX=true then 0 else 4:=by unfold gF;rw[if_neg k1,if_neg k2,if_pos k3,if_pos hs,hd]
   simp -implicitDefEqProofs (disch:=omega) only[go_sem,hd,wI]
   with_reducible refine aC (fun hb=> ?_) (fun hb=> ?_)<;>have h:=hb<;>(try simp only[wf_preprocess] at h)<;>simp -implicitDefEqProofs (disch:=omega) only[go_sem,hb]<;>(repeat(with_reducible refine And.intro ?_ ?_;focus first|omega|rfl|assumption|exact⟨_,rfl,rfl⟩|(simp;omega)|(simp;done)))
   ·exact int_eq (by rw[he,h];rfl)
   ·exact int_eq (by rw[he,h];rfl)
 have k3:=h
 with_reducible refine aC (fun hb=> ?_) (fun hb=> ?_)<;>have h:=hb<;>(try simp only[wf_preprocess] at h)<;>simp -implicitDefEqProofs (disch:=omega) only[go_sem,hb]<;>(repeat(with_reducible refine And.intro ?_ ?_;focus first|omega|rfl|assumption|exact⟨_,rfl,rfl⟩|(simp;omega)|(simp;done)))
 ·have k4:=h;refine aB (Y5 w i t.fName hsz) ?_;simp -implicitDefEqProofs (disch:=omega) only[go_sem];exact int_eq (by unfold gF;rw[if_neg k1,if_neg k2,if_neg k3,if_pos k4])
 ·exact int_eq (by unfold gF;rw[if_neg k1,if_neg k2,if_neg k3,if_neg h])
theorem Y6(w:aM)(i:Int)(t:ay)(hsz:w.sz<=4194304)(hi: -9223372036854775808<=i/\i<=9223372036854775807)(ht:t.sz<=4194304):aX prog 61 [w.v,.c (.d (.i .i64 i)),t.v] (.c (.d (.i .i64 (gF w i t.aV t.fName t.fArgs.length)))):=fun S=>by
 have hl:=zn ht;refine zcx [.tmp 6] func61 ntmps61 ?_;simp -implicitDefEqProofs (disch:=omega) only[go_sem]
 with_reducible refine aC (fun hb=> ?_) (fun hb=> ?_)<;>have h:=hb<;>(try simp only[wf_preprocess] at h)<;>simp -implicitDefEqProofs (disch:=omega) only[go_sem,hb]<;>(repeat(with_reducible refine And.intro ?_ ?_;focus first|omega|rfl|assumption|exact⟨_,rfl,rfl⟩|(simp;omega)|(simp;done)))
 ·exact int_eq (by unfold gF;rw[if_pos h])
 have k1:=h
 with_reducible refine aC (fun hb=> ?_) (fun hb=> ?_)<;>have h:=hb<;>(try simp only[wf_preprocess] at h)<;>simp -implicitDefEqProofs (disch:=omega) only[go_sem,hb]<;>(repeat(with_reducible refine And.intro ?_ ?_;focus first|omega|rfl|assumption|exact⟨_,rfl,rfl⟩|(simp;omega)|(simp;done)))
 ·have k4:=h;refine aB (ab3 w i t.fName hsz hi) ?_;simp -implicitDefEqProofs (disch:=omega) only[go_sem];exact int_eq (by unfold gF;rw[if_neg k1,if_neg (by omega),if_neg (by omega),if_pos k4])
 have k4:=h
 with_reducible refine aC (fun hb=> ?_) (fun hb=> ?_)<;>have h:=hb<;>(try simp only[wf_preprocess] at h)<;>simp -implicitDefEqProofs (disch:=omega) only[go_sem,hb]<;>(repeat(with_reducible refine And.intro ?_ ?_;focus first|omega|rfl|assumption|exact⟨_,rfl,rfl⟩|(simp;omega)|(simp;done)))
 ·have k3:=h;refine aB (JC w i t.fName hsz hi) ?_;simp -implicitDefEqProofs (disch:=omega) only[go_sem]
  cases hs:o9 w i (gQ w t.fName) with
  |false=>
   cases hr:gQ w t.fName<;>(simp -implicitDefEqProofs (disch:=omega) only[go_sem,wI];exact int_eq (by unfold gF;rw[if_neg k1,if_neg (by omega),if_pos k3,if_neg (by rw[hs];simp)]))
  |true=>
   obtain⟨d,p,hd⟩:=uS hs
   have he:gF w i t.aV t.fName t.fArgs.length=if d.bX=true then 0 else 4:=by unfold gF;rw[if_neg k1,if_neg (by omega),if_pos k3,if_pos hs,hd]
   simp -implicitDefEqProofs (disch:=omega) only[go_sem,hd,wI]
   with_reducible refine aC (fun hb=> ?_) (fun hb=> ?_)<;>have h:=hb<;>(try simp only[wf_preprocess] at h)<;>simp -implicitDefEqProofs (disch:=omega) only[go_sem,hb]<;>(repeat(with_reducible refine And.intro ?_ ?_;focus first|omega|rfl|assumption|exact⟨_,rfl,rfl⟩|(simp;omega)|(simp;done)))
   ·exact int_eq (by rw[he,h];rfl)
   ·exact int_eq (by rw[he,h];rfl)
 have k3:=h
 with_reducible refine aC (fun hb=> ?_) (fun hb=> ?_)<;>have h:=hb<;>(try simp only[wf_preprocess] at h)<;>simp -implicitDefEqProofs (disch:=omega) only[go_sem,hb]<;>(repeat(with_reducible refine And.intro ?_ ?_;focus first|omega|rfl|assumption|exact⟨_,rfl,rfl⟩|(simp;omega)|(simp;done)))
 ·have k2:=h;refine aB (Oj t.fName) ?_;simp -implicitDefEqProofs (disch:=omega) only[go_sem]<;>(repeat(with_reducible refine And.intro ?_ ?_;focus first|omega|rfl|assumption|exact⟨_,rfl,rfl⟩|(simp;omega)|(simp;done)))
  with_reducible refine aC (fun hb=> ?_) (fun hb=> ?_)<;>have h:=hb<;>(try simp only[wf_preprocess] at h)<;>simp -implicitDefEqProofs (disch:=omega) only[go_sem,hb]<;>(repeat(with_reducible refine And.intro ?_ ?_;focus first|omega|rfl|assumption|exact⟨_,rfl,rfl⟩|(simp;omega)|(simp;done)))
  ·exact int_eq (by unfold gF;rw[if_neg k1,if_pos k2,if_pos h])
  have k5:¬uf t.fName=true:=by rw[h];simp
  refine aB (Y4 w i t.fName hsz hi) ?_;simp -implicitDefEqProofs (disch:=omega) only[go_sem]
  cases hs:o9 w i (jT w t.fName) with
  |false=>
   cases hr:jT w t.fName<;>(simp -implicitDefEqProofs (disch:=omega) only[go_sem,zZ];exact int_eq (by unfold gF;rw[if_neg k1,if_pos k2,if_neg k5,if_neg (by rw[hs];simp)]))
  |true=>
   obtain⟨d,p,hd⟩:=uS hs;have hdl:=bg.Tg (O4 hd hsz)
   have he:gF w i t.aV t.fName t.fArgs.length=if t.fArgs.length=d.aU.length then 0 else 2:=by unfold gF;rw[if_neg k1,if_pos k2,if_neg k5,if_pos hs,hd]
   simp -implicitDefEqProofs (disch:=omega) only[go_sem,hd,zZ]
   with_reducible refine aC (fun hb=> ?_) (fun hb=> ?_)<;>have h:=hb<;>(try simp only[wf_preprocess] at h)<;>simp -implicitDefEqProofs (disch:=omega) only[go_sem,hb]<;>(repeat(with_reducible refine And.intro ?_ ?_;focus first|omega|rfl|assumption|exact⟨_,rfl,rfl⟩|(simp;omega)|(simp;done)))
   ·exact int_eq (by rw[he,if_neg (by omega)])
   ·exact int_eq (by rw[he,if_pos (by omega)])
 ·exact int_eq (by unfold gF;rw[if_neg k1,if_neg h,if_neg k3,if_neg k4])
theorem Py(w:aM)(i:Int)(hsz:w.sz<=4194304):∀n:Nat,(∀t:ay,SizeOf.sizeOf t<n->t.sz<=4194304->aX prog 60 [CS w (oZ w i),t.v] (.c (.d (.i .i64 (mW w i t)))))/\
 (∀ts:List ay,SizeOf.sizeOf ts<n->ts.length<=4194304->(∀t∈ts,t.sz<=4194304)->aX prog 96 [CS w (oZ w i),.c (.d (.sl (ts.map ay.enc)))] (.c (.d (.i .i64 (lQ w i ts))))):=by
 intro n
 induction n with
 |zero=>exact⟨fun t h=>by omega,fun ts h=>by omega⟩
 |succ n ih=>
  obtain⟨ih1,ih2⟩:=ih;refine⟨fun t hn ht S=> ?_,fun ts hn hl hall S=> ?_⟩
  ·have nO:=ay.j3 t;have hts:=zn ht;have he:=O3 w i t
   have hall:∀u∈t.fArgs,u.sz<=4194304:=fun u hu=>by
    obtain⟨j,hj,e⟩:=List.getElem_of_mem hu;rw[<-e];exact(wm hj ht).1
   refine zcx [.tmp 4] func60 ntmps60 ?_;simp -implicitDefEqProofs (disch:=omega) only[go_sem];refine aB (U6 w i t hsz ht) ?_;simp -implicitDefEqProofs (disch:=omega) only[go_sem]
   with_reducible refine aC (fun hb=> ?_) (fun hb=> ?_)<;>have h:=hb<;>(try simp only[wf_preprocess] at h)<;>simp -implicitDefEqProofs (disch:=omega) only[go_sem,hb]<;>(repeat(with_reducible refine And.intro ?_ ?_;focus first|omega|rfl|assumption|exact⟨_,rfl,rfl⟩|(simp;omega)|(simp;done)))
   ·exact int_eq (by rw[he,if_neg h])
   ·have k:=h;refine aB (ih2 t.fArgs (by omega) hts.1 hall) ?_;simp -implicitDefEqProofs (disch:=omega) only[go_sem];exact int_eq (by rw[he,if_pos k])
  ·refine zcx [.tmp 4] func96 ntmps96 ?_;simp -implicitDefEqProofs (disch:=omega) only[go_sem]
   refine bN (ι:=Nat) zmx rfl [2,8,9,10] (fun k=>[.c (.ptr (0,0) 0),.c (.d (.sl (ts.map ay.enc))),.c (.d (.i .i64 ts.length)),.c (.d (.i .i64 k))]) (fun _=>[.box [.d (.sl (w.aG.map aK.enc)),.d (.sl ((oZ w i).map encI))]]::S)
    (fun k=>k<=ts.length/\lQ w i (ts.drop k)=lQ w i ts) (fun k=>ts.length-k) 0 rfl rfl ⟨Nat.zero_le _,rfl⟩ ?_
   rintro k ⟨p1,p2⟩;simp -implicitDefEqProofs (disch:=omega) only[go_sem]
   with_reducible refine aC (fun hb=> ?_) (fun hb=> ?_)<;>have h:=hb<;>(try simp only[wf_preprocess] at h)<;>simp -implicitDefEqProofs (disch:=omega) only[go_sem,hb]<;>(repeat(with_reducible refine And.intro ?_ ?_;focus first|omega|rfl|assumption|exact⟨_,rfl,rfl⟩|(simp;omega)|(simp;done)))
   ·have hk:k<ts.length:=by omega
    have hs:=List.sizeOf_lt_of_mem (List.getElem_mem hk);rw[H7 hk] at p2
    (repeat(with_reducible refine And.intro ?_ ?_;focus first|omega|rfl|assumption|exact⟨_,rfl,rfl⟩|(simp;omega)|(simp;done)))
    refine aB (ih1 ts[k] (by omega) (hall _ (List.getElem_mem hk))) ?_;simp -implicitDefEqProofs (disch:=omega) only[go_sem]
    with_reducible refine aC (fun hb=> ?_) (fun hb=> ?_)<;>have h:=hb<;>(try simp only[wf_preprocess] at h)<;>simp -implicitDefEqProofs (disch:=omega) only[go_sem,hb]<;>(repeat(with_reducible refine And.intro ?_ ?_;focus first|omega|rfl|assumption|exact⟨_,rfl,rfl⟩|(simp;omega)|(simp;done)))
    ·rw[if_neg h] at p2;exact int_eq p2
    ·rw[if_pos h] at p2;exact fu 1 (by decide) (k+1) (by omega) rfl rfl rfl rfl ⟨by omega,p2⟩
   ·rw[List.drop_of_length_le (by omega),lQ] at p2;exact int_eq p2
theorem Kq(w:aM)(i:Int)(t:ay)(hsz:w.sz<=4194304)(ht:t.sz<=4194304)(hi: -9223372036854775808<=i/\i<=9223372036854775807):aX prog 29 [w.v,.c (.d (.i .i64 i)),t.v] (.c (.d (.i .i64 (mW w i t)))):=fun S=>by
 refine zcx [.tmp 6] func29 ntmps29 ?_;simp -implicitDefEqProofs (disch:=omega) only[go_sem];refine aB (ab2 w i hsz hi) ?_;simp -implicitDefEqProofs (disch:=omega) only[go_sem];refine aB ((Py w i hsz _).1 t (Nat.lt_succ_self _) ht) ?_;simp -implicitDefEqProofs (disch:=omega) only[go_sem]
theorem I4(w:aM)(i:Int)(hsz:w.sz<=4194304)(hi: -9223372036854775808<=i/\i<=9223372036854775807):∀n:Nat,∀t:ay,SizeOf.sizeOf t<n->t.sz<=4194304->aX prog 30 [w.v,.c (.d (.i .i64 i)),t.v] (.c (.d (.i .i64 (mW w i t)))):=by
 intro n
 induction n with
 |zero=>intro t h;omega
 |succ n ih=>
  intro t hn ht S;have nO:=ay.j3 t;have hts:=zn ht;have he:=O3 w i t
  have hall:∀u∈t.fArgs,u.sz<=4194304:=fun u hu=>by
   obtain⟨j,hj,e⟩:=List.getElem_of_mem hu;rw[<-e];exact(wm hj ht).1
  refine zcx [.tmp 6] func30 ntmps30 ?_;simp -implicitDefEqProofs (disch:=omega) only[go_sem];refine aB (Y6 w i t hsz hi ht) ?_;simp -implicitDefEqProofs (disch:=omega) only[go_sem]
  refine bN (ι:=Nat×Int) zmx rfl [1,3,5,7,8] (fun y=>[.c (.d (.i .i64 i)),.c (.ptr (0,0) 0),.c (.ptr (0,1) 0),.c (.d (.i .i64 y.2)),.c (.d (.i .i64 y.1))]) (fun _=>[.box (w.enc.map .d),.box (t.enc.map .d)]::S)
   (fun y=>y.1<=t.fArgs.length/\(if y.2=0 then lQ w i (t.fArgs.drop y.1) else y.2)=mW w i t) (fun y=>t.fArgs.length-y.1) (0,gF w i t.aV t.fName t.fArgs.length) rfl ?_ ⟨Nat.zero_le _,he.symm⟩ ?_
  ·simp -implicitDefEqProofs (disch:=omega) only[go_sem]
  rintro⟨k,c⟩ ⟨p1,p2⟩;simp only at p1 p2;simp -implicitDefEqProofs (disch:=omega) only[go_sem]
  with_reducible refine aC (fun hb=> ?_) (fun hb=> ?_)<;>have h:=hb<;>(try simp only[wf_preprocess] at h)<;>simp -implicitDefEqProofs (disch:=omega) only[go_sem,hb]<;>(repeat(with_reducible refine And.intro ?_ ?_;focus first|omega|rfl|assumption|exact⟨_,rfl,rfl⟩|(simp;omega)|(simp;done)))
  ·have hk:k<t.fArgs.length:=by omega
   have hs:=List.sizeOf_lt_of_mem (List.getElem_mem hk)
   with_reducible refine aC (fun hb=> ?_) (fun hb=> ?_)<;>have h:=hb<;>(try simp only[wf_preprocess] at h)<;>simp -implicitDefEqProofs (disch:=omega) only[go_sem,hb]<;>(repeat(with_reducible refine And.intro ?_ ?_;focus first|omega|rfl|assumption|exact⟨_,rfl,rfl⟩|(simp;omega)|(simp;done)))
   ·rw[if_pos h,H7 hk] at p2
    (repeat(with_reducible refine And.intro ?_ ?_;focus first|omega|rfl|assumption|exact⟨_,rfl,rfl⟩|(simp;omega)|(simp;done)))
    refine aB (ih t.fArgs[k] (by omega) (hall _ (List.getElem_mem hk))) ?_;simp -implicitDefEqProofs (disch:=omega) only[go_sem];exact bT (k+1,mW w i t.fArgs[k]) (by simp only;omega) rfl rfl ⟨by simp only;omega,p2⟩
   ·rw[if_neg h] at p2;exact int_eq p2
  ·have hk:k=t.fArgs.length:=by omega
   rw[hk,List.drop_length,lQ] at p2;refine int_eq ?_;rw[<-p2];split<;>omega
theorem Kr(w:aM)(i:Int)(t:ay)(hsz:w.sz<=4194304)(ht:t.sz<=4194304)(hi: -9223372036854775808<=i/\i<=9223372036854775807):aX prog 30 [w.v,.c (.d (.i .i64 i)),t.v] (.c (.d (.i .i64 (mW w i t)))):=I4 w i hsz hi _ t (Nat.lt_succ_self _) ht
theorem U7{w:aM}{k i p:Int}(h:tK w k i)(h':tK w i p):tK w k p:=by
 obtain⟨h1,h2,h3⟩:=h;obtain⟨g1,g2,g3⟩:=h';obtain⟨m,rfl,hm⟩:=Fy.1 h3;obtain⟨n,rfl,hn⟩:=Fy.1 g3;rw[Int.toNat_natCast] at hn;exact⟨h1,h2,Fy.2 ⟨n,rfl,hm.trans hn⟩⟩
theorem FB{α:Type}{w:aM}{k i:Int}(h:tK w k i){r:Option (α×Nat)}(hr:o9 w i r=true):o9 w k r=true:=by
 cases r with
 |none=>cases hr
 |some x=>obtain⟨t,p⟩:=x;exact dD (U7 h (gD hr))
theorem aft{w:aM}{k i:Int}(h:tK w k i){name:List UInt8}(hz:pI w i name=0):pI w k name=0:=by
 unfold pI at hz ⊢;split at hz
 ·rename_i hs;rw[if_pos (FB h hs)];exact hz
 ·cases hz
theorem afu{w:aM}{k i:Int}(h:tK w k i){kd:Int}{name:List UInt8}{n:Nat}(hz:gF w i kd name n=0):gF w k kd name n=0:=by
 unfold gF at hz ⊢;split
 ·rfl
 rename_i k1;rw[if_neg k1] at hz;split
 ·rename_i k2;rw[if_pos k2] at hz;split
  ·rfl
  rename_i hb;rw[if_neg hb] at hz;split at hz
  ·rename_i hs;rw[if_pos (FB h hs)];exact hz
  ·cases hz
 rename_i k2;rw[if_neg k2] at hz;split
 ·rename_i k3;rw[if_pos k3] at hz;split at hz
  ·rename_i hs;rw[if_pos (FB h hs)];exact hz
  ·cases hz
 rename_i k3;rw[if_neg k3] at hz;split
 ·rename_i k4;rw[if_pos k4] at hz;exact aft h hz
 ·rename_i k4;rw[if_neg k4] at hz;exact hz
mutual
theorem VU{w:aM}{k i:Int}(h:tK w k i):∀t:ay,mW w i t=0->mW w k t=0
 | .mk kd n a,hz=>by
   rw[mW] at hz ⊢;split at hz
   ·rename_i ho;rw[if_pos (afu h ho)];exact Ti h a hz
   ·rename_i ho;exact absurd hz ho
theorem Ti{w:aM}{k i:Int}(h:tK w k i):∀ts:List ay,lQ w i ts=0->lQ w k ts=0
 |[],_=>by rw[lQ]
 |t::ts,hz=>by
  rw[lQ] at hz ⊢;split at hz
  ·rename_i ho;rw[if_pos (VU h t ho)];exact Ti h ts hz
  ·rename_i ho;exact absurd hz ho
end
theorem Tj:∀(n:Nat)(t:ay),(Cv n t).sz=t.sz+5*n
 |0,t=>rfl
 |n+1,t=>by rw[Cv,Tj n,D6];simp only[List.length_cons,List.length_nil];omega
theorem FC(k:Int)(s:List UInt8)(a:List ay):(ay.mk k s a).sz=s.length+(a.length+aQ (a.map ay.enc)):=by
 simp only[ay.sz,ay.aj,bG,D.sz,List.length_map,ay.fName,ay.fArgs];omega
theorem ab4:∀s∈LW,s.length<=9:=by decide
theorem ab5{bs:List Int}(c:Cu bs):(Am c).1.sz<=300:=by
 have h0:=vP 3 c;unfold Am;generalize (kT 3 c).1=t at h0;generalize (kT 3 c).2=c1;have ht:=FC t.aV t.fName t.fArgs;rw[ay.eta] at ht;have h1:(bR LW (aT 12 c1).2).1.length<=9:=ab4 _ (zk _ (by decide))
 have hi:bG nS.enc=3:=by rw[ay.cK,nS,D5];rfl
 have hb:bG boolT.enc=4:=by rw[ay.cK,boolT,D5];rfl
 unfold Yp;split
 ·simp only[FC];omega
 split
 ·simp only[FC];omega
 split
 ·simp only[FC,List.map_append,om,List.map_cons,List.map_nil,aQ,hi,hb,List.length_append,List.length_cons,List.length_nil];omega
 split
 ·simp only[Tj];omega
 ·show t.sz<=_;omega
end Go.Ab
namespace Go.Proofs.YtfhpfkaeldgcmaaGreat.fnWfSeen
open Go Go.Ab
theorem afv{bs:List Int}(hB:Bytes bs):aX prog 28 [.c (.d (.sl (bs.map Bp)))]
 (.eD [(true,[.d (.sl ((oV (vK bs)).1.aG.map aK.enc))]),(false,[.d (.i .i64 ((aT 4 (oV (vK bs)).2).1-1))]),(true,(Am (aT 4 (oV (vK bs)).2).2).1.enc.map .d)]):=fun S=>by
 have q1:=fun(l j:Nat) (S:Store) (hk:bn S (l,j)=some (.box (cur (vK bs))))=>UY hB (vK bs) l j S hk;obtain⟨w,hw⟩:∃w,w=(oV (vK bs)).1:=⟨_,rfl⟩;obtain⟨c1,hc1⟩:∃c1,c1=(oV (vK bs)).2:=⟨_,rfl⟩;rw[<-hw,<-hc1] at q1 ⊢;have hr:=gK (n:=4) c1 (by omega);have q2:=fun(l j:Nat) (S:Store) (hk:bn S (l,j)=some (.box (cur c1)))=>dR hB c1 l j S 4 hk (by omega) (by omega);obtain⟨k,hk⟩:∃k,k=(aT 4 c1).1:=⟨_,rfl⟩;obtain⟨c2,hc2⟩:∃c2,c2=(aT 4 c1).2:=⟨_,rfl⟩;rw[<-hk,<-hc2] at q2 ⊢;rw[<-hk] at hr;have q3:=fun(l j:Nat) (S:Store) (hk:bn S (l,j)=some (.box (cur c2)))=>abe hB c2 l j S hk;obtain⟨t,ht⟩:∃t,t=(Am c2).1:=⟨_,rfl⟩;obtain⟨c3,hc3⟩:∃c3,c3=(Am c2).2:=⟨_,rfl⟩;rw[<-ht,<-hc3] at q3;rw[<-ht];refine zcx [.cell 2 26,.tmp 3,.cell 4 41] func28 ntmps28 ?_;simp -implicitDefEqProofs (disch:=omega) only[go_sem];refine aW rfl (ad4 hB _ _) ?_;simp -implicitDefEqProofs (disch:=omega) only[go_sem];refine aW rfl (q1 0 2 _ rfl) ?_;simp -implicitDefEqProofs (disch:=omega) only[go_sem];refine aW rfl (q2 0 2 _ rfl) ?_;simp -implicitDefEqProofs (disch:=omega) only[go_sem];refine aW rfl (q3 0 2 _ rfl) ?_;simp -implicitDefEqProofs (disch:=omega) only[go_sem]
 (repeat(with_reducible refine And.intro ?_ ?_;focus first|omega|rfl|assumption|exact⟨_,rfl,rfl⟩|(simp;omega)|(simp;done)))
 first|done|rfl
theorem law(x0:List Int)(b0:∀x∈x0,0<=x/\x<=255):bY prog 6 [.c (.d (.sl (x0.map Bp)))] [] (fun r _=>r=.c (.d (.b true))):=by
 refine zcx [.tmp 2] func6 ntmps6 ?_;simp -implicitDefEqProofs (disch:=omega) only[go_sem];refine aB (aiK x0) ?_;simp -implicitDefEqProofs (disch:=omega) only[go_sem]
 with_reducible refine aC (fun hb=> ?_) (fun hb=> ?_)<;>have h:=hb<;>(try simp only[wf_preprocess] at h)<;>simp -implicitDefEqProofs (disch:=omega) only[go_sem,hb]<;>(repeat(with_reducible refine And.intro ?_ ?_;focus first|omega|rfl|assumption|exact⟨_,rfl,rfl⟩|(simp;omega)|(simp;done)))
 have hBs:Bytes x0:=⟨by omega,b0⟩;have p1:=afv hBs;have hws:=abZ (vK x0);have hts:=ab5 (aT 4 (oV (vK x0)).2).2;have hrs:=gK (n:=4) (oV (vK x0)).2 (by omega);obtain⟨w,hw⟩:∃w,w=(oV (vK x0)).1:=⟨_,rfl⟩;obtain⟨t,ht⟩:∃t,t=(Am (aT 4 (oV (vK x0)).2).2).1:=⟨_,rfl⟩;obtain⟨i,hi⟩:∃i,i=(aT 4 (oV (vK x0)).2).1-1:=⟨_,rfl⟩;rw[<-hw,<-ht,<-hi] at p1;rw[<-hw] at hws;rw[<-ht] at hts
 have hil: -1<=i/\i<=3:=by omega
 clear hw ht hi hrs;have hb0:=aM.bounds (show w.sz<=4194304 by omega);simp only[ay.aj,List.map_cons,List.map_nil] at p1;have e1:=Kl w (by omega);have e2:=fun(j:Int) (h: -9223372036854775808<=j/\j<=9223372036854775807)=>Kq w j t (by omega) (by omega) h;have e3:=Kr w i t (by omega) (by omega) (by omega);have e4:=fun(j:Int) (h: -9223372036854775808<=j/\j<=9223372036854775807)=>Tf w j i (by omega) h;refine aB p1 ?_;simp -implicitDefEqProofs (disch:=omega) only[go_sem];refine aB e1 ?_
 cases hdv:dec (SX w) with
 |false=>
  simp -implicitDefEqProofs (disch:=omega) only[go_sem,Bool.not_false];refine aB (e2 i (by omega)) ?_;simp -implicitDefEqProofs (disch:=omega) only[go_sem];refine aB e3 ?_;simp -implicitDefEqProofs (disch:=omega) only[go_sem]
  first|done|rfl
 |true=>
  simp -implicitDefEqProofs (disch:=omega) only[go_sem,Bool.not_true];refine aB (e2 i (by omega)) ?_;by_cases hz:mW w i t=0
  ·rw[hz];simp -implicitDefEqProofs (disch:=omega) only[go_sem,Bool.not_true]
   refine bN (ι:=Nat) zmx rfl [3,4,5,6] (fun k=>[.c (.ptr (0,0) 0),.c (.d (.i .i64 i)),.c (.ptr (0,1) 0),.c (.d (.i .i64 k))]) (fun _=>[[.box [.d (.sl (w.aG.map aK.enc))],.box [.d (.i .i64 t.aV),.d (.s t.fName),.d (.sl (t.fArgs.map ay.enc))]]])
    (fun k=>k<=w.aG.length) (fun k=>w.aG.length-k) 0 rfl rfl (Nat.zero_le _) ?_
   intro k hk;simp -implicitDefEqProofs (disch:=omega) only[go_sem]
   with_reducible refine aC (fun hb=> ?_) (fun hb=> ?_)<;>have h:=hb<;>(try simp only[wf_preprocess] at h)<;>simp -implicitDefEqProofs (disch:=omega) only[go_sem,hb]<;>(repeat(with_reducible refine And.intro ?_ ?_;focus first|omega|rfl|assumption|exact⟨_,rfl,rfl⟩|(simp;omega)|(simp;done)))
   ·have hk':k<w.aG.length:=by omega
    refine aB (e4 k (by omega)) ?_
    cases hv:dec (tK w k i) with
    |false=>
     simp -implicitDefEqProofs (disch:=omega) only[go_sem]
     (repeat(with_reducible refine And.intro ?_ ?_;focus first|omega|rfl|assumption|exact⟨_,rfl,rfl⟩|(simp;omega)|(simp;done)))
     exact bT (k+1) (by omega) rfl rfl (by omega)
    |true=>
     simp -implicitDefEqProofs (disch:=omega) only[go_sem];refine aB (e2 k (by omega)) ?_;rw[VU (gD hv) t hz];simp -implicitDefEqProofs (disch:=omega) only[go_sem,Bool.not_true]
     (repeat(with_reducible refine And.intro ?_ ?_;focus first|omega|rfl|assumption|exact⟨_,rfl,rfl⟩|(simp;omega)|(simp;done)))
     exact bT (k+1) (by omega) rfl rfl (by omega)
  ·have d1:decide (mW w i t=0)=false:=decide_eq_false hz;simp -implicitDefEqProofs (disch:=omega) only[go_sem,d1,Bool.not_false];refine aB (e2 i (by omega)) ?_;simp -implicitDefEqProofs (disch:=omega) only[go_sem];refine aB e3 ?_;simp -implicitDefEqProofs (disch:=omega) only[go_sem]
   first|done|rfl
end Go.Proofs.YtfhpfkaeldgcmaaGreat.fnWfSeen
namespace Go.Ab
theorem ab6{P:Program}{n:Nat}{t:TypeId}{ds:List D}(h:WT P n t ds):∃m,n=m+1:=by
 cases n with
 |zero=>exact h.elim
 |succ m=>exact⟨m,rfl⟩
theorem ajF{P:Program}{n:Nat}{t:TypeId}{k:IntKind}{ds:List D}(ht:P.underlying t=some (.int k))(h:WT P n t ds):∃x,ds=[.i k x]/\(Lit.int k x).wf=true:=by
 obtain⟨m,rfl⟩:=ab6 h;simp only[WT,ht] at h;exact h
theorem afw{P:Program}{n:Nat}{t e:TypeId}{ds:List D}(ht:P.underlying t=some (.slice e))(h:WT P n t ds):∃es m,m<n/\ds=[.sl es]/\∀x∈es,WT P m e x:=by
 obtain⟨m,rfl⟩:=ab6 h;simp only[WT,ht] at h;obtain⟨es,h1,_,h2⟩:=h;exact⟨es,m,by omega,h1,fun x hx=>(h2 x hx).2⟩
theorem VW{P:Program}{W:TypeId->List D->Prop}(hW:∀t ds,W t ds->Bj ds):∀(fs:List Field)(ds:List D),WTF P W fs ds->Bj ds
 |[],ds,h=>by
  have h:ds=[]:=h;rw[h];exact Bl
 |f::fs,ds,h=>by
  obtain⟨a,b,rfl,_,h1,h2⟩:=h;exact Ue.2 ⟨hW _ _ h1,VW hW fs b h2⟩
theorem Tk{P:Program}:∀(n:Nat)(t:TypeId)(ds:List D),WT P n t ds->Bj ds
 |0,t,ds,h=>h.elim
 |n+1,t,ds,h=>by
  simp only[WT] at h;split at h
  ·obtain⟨b,rfl⟩:=h;exact Cg.2 ⟨.b _,Bl⟩
  ·obtain⟨b,rfl,_⟩:=h;exact Cg.2 ⟨.i _ _,Bl⟩
  ·obtain⟨l,rfl,hl⟩:=h;exact Cg.2 ⟨.s _ hl,Bl⟩
  ·obtain⟨es,rfl,hl,hh⟩:=h;exact Cg.2 ⟨.sl _ hl fun e he d hd=>Tk n _ e (hh e he).2 d hd,Bl⟩
  ·exact VW (Tk n) _ _ h
  ·exact h.elim
end Go.Ab