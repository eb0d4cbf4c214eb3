/-
  SEVERAL TEXTS IN ONE (merged by program): contracts and models, each with its own heading.
-/
import Derived.Test.YtfhpfkaeldgcmaaGreatPartHdbM
import Derived.Test.YtfhpfkaeldgcmaaGreatPartHdba
import Derived.Test.YtfhpfkaeldgcmaaGreatPartHdbb
import Derived.Test.YtfhpfkaeldgcmaaGreatPartHdbc
import Derived.Test.YtfhpfkaeldgcmaaGreatPartHdbd
import Derived.Lib.FrozenHead2
import Derived.Lib.OthersKept
import Derived.Lib.AppendStr
import Derived.Lib.UnsafeStr
import Derived.Lib.Builder
import Derived.Deep.LoopGhost
import Derived.Deep.AppendLies
import Derived.Laws.ResultCell
import Derived.Deep.RegionHeld3
import Derived.Deep.RegionLaw
import Derived.Lib.SplitLaws
import Derived.Lib.TrimByte
import Derived.Shelf.Strings.Split
import Derived.Shelf.Strings.Trim
set_option maxHeartbeats 8000000
open Go.Proofs Go.Proofs.Tryz
set_option linter.unusedSimpArgs false
set_option linter.unusedVariables false
set_option maxRecDepth 100000
set_option maxRecDepth 4000
set_option maxRecDepth 8000
namespace Go.Ab
open Go.RowKit
def OV(by':List UInt8):List (List UInt8)->List UInt8
 |[]=>[]
 |x::xs=>x++(xs.map fun y=>by'++y).flatten
mutual
def XJ:au->List UInt8
 | .mk a l=>if a=[] then [40]++OV [32] (Dm l)++[41] else a
def Dm:List au->List (List UInt8)
 |[]=>[]
 |x::xs=>XJ x::Dm xs
end
theorem aaG(b:List UInt8):∀l:List (List UInt8),(OV b l).length<=(l.map fun x=>b.length+x.length).sum
 |[]=>by simp[OV]
 |x::xs=>by
  have h:∀ys:List (List UInt8),((ys.map fun y=>b++y).flatten).length=(ys.map fun x=>b.length+x.length).sum:=by
   intro ys
   induction ys with
   |nil=>rfl
   |cons y ys ih=>rw[List.map_cons,List.flatten_cons,List.length_append,List.length_append,ih,List.map_cons,List.sum_cons]
  rw[OV,List.length_append,h,List.map_cons,List.sum_cons];omega
mutual
theorem aaH:∀x:au,(XJ x).length<=2+3*x.sz
 | .mk a l=>by
   have h:=Lj l;rw[iT,jV];simp only[au.bC,au.aA];rw[XJ];split
   ·have:=aaG [32] (Dm l);simp only[List.length_append,List.length_cons,List.length_nil] at this ⊢;omega
   ·omega
theorem Lj:∀l:List au,((Dm l).map fun x=>0+1+x.length).sum<=3*l.length+3*dI l
 |[]=>by simp[Dm]
 |x::xs=>by
  have h1:=aaH x;have h2:=Lj xs;rw[Dm,List.map_cons,List.sum_cons,dI,List.length_cons];omega
end
structure Js(w:World)(σ:Nat->Nat)(B:Nat)(e:TypeId)(v:Value)(l:List au):Prop where
 own:∃xs,w.ownsRow B e 2 v l.length xs/\∀(i:Nat)(d:D),(l.map au.enc).flatten[i]? =some d->∃u,xs[i]? =some u/\dM w σ d u
 free:∀b,v.ownBlock=some b->σ b=0
theorem NW{w w':World}{B:Nat}{e:TypeId}{z n:Nat}{v:Value}{xs:List Value}(h:w.ownsRow B e z v n xs)(hk:∀b,v.ownBlock=some b->w'.heap[b]? =w.heap[b]?):w'.ownsRow B e z v n xs:=by
 refine⟨h.1,?_⟩;rcases h.2 with hn|⟨g,cap,cur,rfl,hb,hg,rest⟩
 ·exact .inl hn
 ·exact .inr ⟨g,cap,cur,rfl,hb,(hk g rfl).trans hg,rest⟩
theorem Js.mono{w w':World}{σ σ':Nat->Nat}{B:Nat}{e:TypeId}{v:Value}{l:List au}(h:Js w σ B e v l)(hn:eD w σ w' σ')(hk:∀b,v.ownBlock=some b->w'.heap[b]? =w.heap[b]? /\σ' b=σ b):Js w' σ' B e v l:=by
 obtain⟨⟨xs,h1,h2⟩,h3⟩:=h;refine⟨⟨xs,NW h1 fun b hb=>(hk b hb).1,fun i d hd=> ?_⟩,fun b hb=>(hk b hb).2.trans (h3 b hb)⟩;obtain⟨u,hu,hr⟩:=h2 i d hd;exact⟨u,hu,hr.mono hn⟩
theorem RJ(l:List au):∀e∈l.map au.enc,e.length=2:=by
 intro e he;obtain⟨x,_,rfl⟩:=List.mem_map.1 he;rw[au.aj];rfl
theorem Js.fast{w:World}{σ:Nat->Nat}{B:Nat}{e:TypeId}{v:Value}{l:List au}(h:Js w σ B e v l)(hl:∀b,b<w.heap.size\/σ b=0):
 ∃σ',eD w σ w σ'/\(∀b,v.ownBlock≠some b->σ' b=σ b)/\(∀b,b<w.heap.size\/σ' b=0)/\dM w σ' (.sl (l.map au.enc)) v:=by
 obtain⟨⟨xs,⟨h1,h2⟩,h3⟩,h4⟩:=h;rcases h2 with⟨rfl,h0⟩|⟨g,cap,cur,rfl,hb,hg,hn,hm,hs,ht⟩
 ·obtain rfl:l=[]:=List.eq_nil_of_length_eq_zero h0;exact⟨σ,eD.refl _ _,fun _ _=>rfl,hl,.nil _ _⟩
 have hn':eD w σ w (fun b=>if b=g then 0+(l.map au.enc).length*2 else σ b):=by
  intro b1 c1 t1 EF e1;by_cases q:b1=g
  ·subst q;have:=h4 b1 rfl;rw[hg] at e1;cases e1;exact⟨by simp only[if_true];omega,fun h=>by omega,cur,hg,rfl,fun _ _=>rfl⟩
  ·exact⟨by simp only[if_neg q];exact Nat.le_refl _,fun _=>if_neg q,c1,e1,rfl,fun _ _=>rfl⟩
 refine⟨_,hn',fun b hb=>if_neg fun q=>hb (by rw[q];rfl),fun b=> ?_,?_⟩
 ·by_cases q:b=g
  ·left;rw[q];exact lt_of_some hg
  ·simp only[if_neg q];exact hl b
 ·have hlen:(l.map au.enc).length=l.length:=by simp
  have hfl:=jc _ 2 (RJ l)
  have:=dM.sl (w:=w) (σ:=fun b=>if b=g then 0+(l.map au.enc).length*2 else σ b) g 0 cap 2 (l.map au.enc) (fun i=>(cur[i]?).getD undef) cur e (0,0) (by omega) (RJ l) hg (by simp) (fun i hi=>by
   have:i<cur.size:=by rw[hlen] at hi;have:l.length*2<=cap*2:=Nat.mul_le_mul_right _ hn;omega
   simp[this]) (fun i d hd=>by
   obtain⟨u,hu,hr⟩:=h3 i d hd;have hil:=(List.getElem?_eq_some_iff.1 hd).1;rw[<-ht,List.getElem?_take_of_lt (by omega),Array.getElem?_toList] at hu;simp only[hu,Option.getD_some]
   exact hr.mono hn')
  simp only[List.length_map] at this ⊢;exact this
structure xR(w:World)(σ:Nat->Nat)(B:Nat)(eo e:TypeId)(ov:Value)(hs:List Value)(rs:List (List au)):Prop where
 own:w.ownsRow B eo 1 ov hs.length hs
 free:∀b,ov.ownBlock=some b->σ b=0
 rows:∀(j:Nat)(l:List au),rs[j]? =some l->∃hv,hs[j]? =some hv/\Js w σ B e hv l/\∀b,hv.ownBlock=some b->ov.ownBlock≠some b
 apart:∀(i j:Nat)(hi hj:Value)(b:Nat),i≠j->i<rs.length->j<rs.length->hs[i]? =some hi->hs[j]? =some hj->hi.ownBlock=some b->hj.ownBlock≠some b
theorem xR.mono{w w':World}{σ σ':Nat->Nat}{B:Nat}{eo e:TypeId}{ov:Value}{hs:List Value}{rs:List (List au)}(h:xR w σ B eo e ov hs rs)(hn:eD w σ w' σ')
 (hk:∀b,b<w.heap.size->σ b=0->w'.heap[b]? =w.heap[b]? /\σ' b=σ b):xR w' σ' B eo e ov hs rs:=by
 have hlt:∀b,ov.ownBlock=some b->b<w.heap.size:=fun b hb=>(h.own.lt b hb).2;refine⟨NW h.own fun b hb=>(hk b (hlt b hb) (h.free b hb)).1,fun b hb=>(hk b (hlt b hb) (h.free b hb)).2.trans (h.free b hb),fun j l hj=> ?_,h.apart⟩;obtain⟨hv,h1,h2,h3⟩:=h.rows j l hj;refine⟨hv,h1,h2.mono hn fun b hb=> ?_,h3⟩;obtain⟨xs,ho,_⟩:=h2.own;exact hk b (ho.lt b hb).2 (h2.free b hb)
theorem xR.grow{w w':World}{σ σ':Nat->Nat}{B:Nat}{eo e:TypeId}{ov:Value}{hs:List Value}{rs:List (List au)}(h:xR w σ B eo e ov hs rs)(hg:Grow w σ w' σ'):xR w' σ' B eo e ov hs rs:=
 h.mono hg.near fun b hb _=>hg.old b hb
theorem xR.fast{w:World}{σ:Nat->Nat}{B:Nat}{eo e:TypeId}{ov:Value}{hs:List Value}{rs:List (List au)}{l:List au}(h:xR w σ B eo e ov hs (rs++[l]))(hl:∀b,b<w.heap.size\/σ b=0):
 ∃σ' hv,eD w σ w σ'/\(∀b,b<w.heap.size\/σ' b=0)/\(∀b,b<B->σ' b=σ b)/\hs[rs.length]? =some hv/\dM w σ' (.sl (l.map au.enc)) hv/\xR w σ' B eo e ov hs rs:=by
 obtain⟨hv,h1,h2,h3⟩:=h.rows rs.length l (by simp);obtain⟨σ',k1,k2,k3,k4⟩:=h2.fast hl;refine⟨σ',hv,k1,k3,fun b hb=>k2 b fun q=> ?_,h1,k4,h.own,fun b hb=>(k2 b fun q=>h3 b q hb).trans (h.free b hb),fun j l' hj=> ?_,fun i j hi hj b q1 q2 q3=>h.apart i j hi hj b q1 (by simp;omega) (by simp;omega)⟩
 ·obtain⟨xs,ho,_⟩:=h2.own;have:=(ho.lt b q).1;omega
 ·have hjl:=(List.getElem?_eq_some_iff.1 hj).1;obtain⟨hv',g1,g2,g3⟩:=h.rows j l' (by rw[List.getElem?_append_left hjl];exact hj);exact⟨hv',g1,g2.mono k1 fun b hb=>⟨rfl,k2 b fun q=>h.apart j rs.length hv' hv b (by omega) (by simp;omega) (by simp) g1 h1 hb q⟩,g3⟩
def BP(w W:World):Prop:=∀(b:Nat)(c:Array Value)(t:TypeId)(fz:Nat×Nat),w.heap[b]? =some (.cells c t fz)->∃c',W.heap[b]? =some (.cells c' t fz)/\c'.size=c.size
theorem BP.refl(w:World):BP w w:=fun b c t fz h=>⟨c,h,rfl⟩
theorem BP.trans{a b c:World}(h:BP a b)(k:BP b c):BP a c:=fun x y t fz e=>by
 obtain⟨c1,e1,s1⟩:=h x y t fz e;obtain⟨c2,e2,s2⟩:=k x c1 t fz e1;exact⟨c2,e2,s2.trans s1⟩
theorem BP.alloc(w:World)(o:Go.Obj):BP w (w.alloc o):=fun b c t fz e=>⟨c,(Lib.alloc_old w o b (lt_of_some e)).trans e,rfl⟩
theorem xR.put{w W:World}{σ:Nat->Nat}{B g cap j:Nat}{eo e:TypeId}{hs:List Value}{rs:List (List au)}{l':List au}{hv hv':Value}{cur:Array Value}(hl:∀b,b<w.heap.size\/σ b=0)
 (h:xR w σ B eo e (.slice (some ⟨g,0,none⟩) hs.length cap) hs rs)(hj:j<rs.length)(hh:hs[j]? =some hv)(hn:eD w σ W σ)(hg:w.heap[g]? =some (.cells cur eo (0,0)))(hG:W.heap[g]? =some (.cells (cur.setIfInBounds j hv') eo (0,0)))
 (vW:∀b,b<w.heap.size->b≠g->hv.ownBlock≠some b->W.heap[b]? =w.heap[b]?)(hrow:Js W σ B e hv' l')(hblk:∀b,hv'.ownBlock=some b->hv.ownBlock=some b\/w.heap.size<=b):
 xR W σ B eo e (.slice (some ⟨g,0,none⟩) hs.length cap) (hs.set j hv') (rs.set j l'):=by
 have hgl:=lt_of_some hg;have hg0:σ g=0:=h.free g rfl;obtain⟨l,hlj⟩:∃l,rs[j]? =some l:=⟨_,List.getElem?_eq_getElem hj⟩;obtain⟨hv0,a1,a2,a3⟩:=h.rows j l hlj;rw[hh] at a1;cases a1;have hhl:=(List.getElem?_eq_some_iff.1 hh).1
 have low:∀(i:Nat)(l0:List au)(hv0:Value),rs[i]? =some l0->hs[i]? =some hv0->∀b,hv0.ownBlock=some b->b<w.heap.size:=fun i l0 hv0 e1 e2 b hb=>by
  obtain⟨hv1,c1,c2,_⟩:=h.rows i l0 e1;rw[e2] at c1;cases c1;obtain⟨xs,ho,_⟩:=c2.own;exact(ho.lt b hb).2
 refine⟨?_,h.free,fun i l0 hi=> ?_,fun i k hi hk b hne h1 h2 e1 e2 e3=> ?_⟩
 ·rw[List.length_set];obtain⟨o1,o2⟩:=h.own;refine⟨by rw[List.length_set];exact o1,?_⟩;rcases o2 with⟨o2,_⟩|⟨g0,cap0,ang,e0,hb0,hg0',hn0,hm0,hs0,ht0⟩
  ·cases o2
  ·cases e0;rw[hg] at hg0';cases hg0';refine .inr ⟨g,cap,_,rfl,hb0,hG,hn0,hm0,by simpa using hs0,?_⟩;rw[Nat.mul_one] at ht0 ⊢;rw[Array.toList_setIfInBounds,List.take_set,ht0]
 ·by_cases q:i=j
  ·subst q
   have:l'=l0:=by
    rw[List.getElem?_set_self hj] at hi;exact Option.some.inj hi
   subst this;refine⟨hv',List.getElem?_set_self hhl,hrow,fun b hb q=> ?_⟩;cases q;rcases hblk g hb with k|k
   ·exact a3 g k rfl
   ·omega
  ·rw[List.getElem?_set_ne (Ne.symm q)] at hi ⊢;obtain⟨hv1,c1,c2,c3⟩:=h.rows i l0 hi;refine⟨hv1,c1,c2.mono hn fun b hb=>⟨vW b (low i l0 hv1 hi c1 b hb) (fun e=>c3 b hb (by rw[e];rfl)) fun e=> ?_,rfl⟩,c3⟩;exact h.apart i j hv1 hv b q (List.getElem?_eq_some_iff.1 hi).1 hj c1 hh hb e
 ·rw[List.length_set] at h1 h2;by_cases q:i=j
  ·subst q;rw[List.getElem?_set_self hhl] at e1;cases e1;rw[List.getElem?_set_ne hne] at e2;intro q3;rcases hblk b e3 with k'|k'
   ·exact h.apart i k hv hk b hne h1 h2 hh e2 k' q3
   ·have:=low k _ hk (List.getElem?_eq_getElem h2) e2 b q3;omega
  ·rw[List.getElem?_set_ne (Ne.symm q)] at e1;by_cases q2:k=j
   ·subst q2;rw[List.getElem?_set_self hhl] at e2;cases e2;intro q3;rcases hblk b q3 with k'|k'
    ·exact h.apart i k hi hv b hne h1 h2 e1 hh e3 k'
    ·have:=low i _ hi (List.getElem?_eq_getElem h1) e1 b e3;omega
   ·rw[List.getElem?_set_ne (Ne.symm q2)] at e2;exact h.apart i k hi hk b hne h1 h2 e1 e2 e3
def ah9(l:List UInt8)(rows:List (List au))(c:Nat):Option (List (List au)):=runT (lex l) rows c
def szR:List (List au)->Nat
 |[]=>0
 |l::r=>l.length+dI l+szR r
structure am3(s:List UInt8)(B R:Nat)(w0:World)(σ0:Nat->Nat)(T eo e:TypeId)(k:Nat)(v4 v5 v6:Value)(w:World):Prop where
 ex:∃(rows:List (List au)) (σ:Nat->Nat) (i c g cap:Nat) (hs:List Value),v4=.slice (some ⟨g,0,none⟩) rows.length cap/\v5=.int .i64 c/\v6=.int .i64 i/\
  hs.length=rows.length/\1<=rows.length/\rows.length<=15/\c<=1800/\i+k=s.length/\ah9 (s.drop i) rows c=ah9 s [[]] 0/\
  xR w σ B eo e v4 hs rows.reverse/\Grow w0 σ0 w σ/\zW w σ/\(∀l∈rows,l.length<=c)/\szR rows<=2*i/\σ R=0/\w.heap[R]? =some (.cells #[.string ⟨#[]⟩,.slice none 0 0] T (0,0))
theorem XK{s:List UInt8}(h:lX s=false):kr s=dw:=by
 unfold kr;rw[dif_neg (j5 h)]
theorem ad8(s:List UInt8):(kr s).sz<=1048576:=by
 cases h:lX s with
 |true=>have:=BA (Tg h);omega
 |false=>rw[XK h,En];omega
def j3(p:aP):List (List UInt8):=p.eX.map bG.fName
def ng(p:aP):List (List UInt8):=p.bM.map bB.fName
def lI(ds:List bB):List (List UInt8):=ds.flatMap fun d=>d.aW.map aJ.fName
def fnNames(p:aP):List (List UInt8):=p.dK.map bA.fName
def XL(ps:List aP):List (List UInt8):=ps.flatMap j3
def XM(ps:List aP):List (List UInt8):=ps.flatMap ng
def XO(ps:List aP):List (List UInt8):=ps.flatMap fun p=>lI p.bM
def XP(ps:List aP):List (List UInt8):=ps.flatMap fnNames
noncomputable def Iw(ps:List aP):Bool:=dec (XL ps).Nodup&&(dec (XM ps).Nodup&&(dec (XO ps).Nodup&&dec (XP ps).Nodup))
theorem aaI{α β:Type}(f:α->List β){xs:List α}{i:Nat}(hi:i<xs.length):(xs.take (i+1)).flatMap f=(xs.take i).flatMap f++f xs[i]:=by
 rw[List.take_succ_eq_append_getElem hi,List.flatMap_append]
 simp
theorem Iy{α β:Type}(f:α->List β)(g:α->List D)(h:∀x,(f x).length<=bF (g x)):∀xs:List α,(xs.flatMap f).length<=aI (xs.map g)
 |[]=>by simp[aI]
 |x::xs=>by
  have h1:=h x;have h2:=Iy f g h xs;rw[List.flatMap_cons,List.length_append,List.map_cons,aI];omega
theorem aj4(ds:List bB):(lI ds).length<=aI (ds.map bB.enc):=Iy _ _ (fun d=>by
 rw[List.length_map];simp only[bB.aj,bF,bL,D.sz,List.length_map]
 omega) ds
theorem aP.bounds{x:aP}(h:x.sz<=4194304):x.fName.length<=4194304/\x.iR.length<=4194304/\x.eX.length<=4194304/\x.bM.length<=4194304/\x.bZ.length<=4194304/\x.dK.length<=4194304/\(lI x.bM).length<=4194304:=by
 have:=aj4 x.bM;simp only[aP.sz,aP.aj,bF,bL,D.sz,List.length_map] at h;omega
theorem bR.bounds{x:bR}(h:x.sz<=4194304):x.bJ.length<=4194304:=by
 simp only[bR.sz,bR.aj,bF,bL,D.sz,List.length_map] at h;omega
def ad9(w:bR)(name:List UInt8):Int:=aht (fun p:aP=>decide (p.fName=name)) w.bJ
theorem OW(xs:List (List UInt8))(x:List UInt8):xs.map encS++[[D.s x]]=(xs++[x]).map encS:=by simp[encS]
theorem TI(p:aP)(hsz:p.sz<=4194304):bq prog 56 [p.v] (.eH [(false,[.d (.sl ((j3 p).map encS))]),(false,[.d (.sl ((ng p).map encS))]),(false,[.d (.sl ((lI p.bM).map encS))]),(false,[.d (.sl ((fnNames p).map encS))])]):=fun S=>by
 have hb0:=aP.bounds hsz;refine zcx [.tmp 2,.tmp 3,.tmp 4,.tmp 5] func56 ntmps56 ?_;simp -implicitDefEqProofs (disch:=omega) only[go_sem]
 (repeat(with_reducible refine And.intro ?_ ?_;focus first|omega|rfl|assumption|exact⟨_,rfl,rfl⟩|(simp;omega)|(simp;done)))
 refine lq 6 1 [] rfl (by simp) ?_;refine lq 7 1 [] rfl (by simp) ?_;refine lq 8 1 [] rfl (by simp) ?_;refine lq 9 1 [] rfl (by simp) ?_
 refine bT (ι:=Nat×List (List UInt8)) zmx rfl [1,6,7,8,9,10] (fun y=>[.c (.ptr (0,0) 0),.c (.bX (0,1) (y.2.map encS)),.c (.bX (0,2) []),.c (.bX (0,3) []),.c (.bX (0,4) []),.c (.d (.i .i64 y.1))]) (fun y=>[.box (p.enc.map .d),.tok 1 (y.2.map encS),.tok 1 [],.tok 1 [],.tok 1 []]::S)
  (fun y=>y.1<=p.eX.length/\y.2=(j3 p).take y.1) (fun y=>p.eX.length-y.1) (0,[]) rfl ?_ ⟨Nat.zero_le _,rfl⟩ ?_
 ·simp -implicitDefEqProofs (disch:=omega) only[go_sem]
 rintro⟨i,a⟩ ⟨p1,p2⟩;simp only at p1 p2
 have pl:a.length<=p.eX.length:=by rw[p2];simp[j3];omega
 simp -implicitDefEqProofs (disch:=omega) only[go_sem]
 with_reducible refine aD (fun hb=> ?_) (fun hb=> ?_)<;>have h:=hb<;>(try simp only[wf_preprocess] at h)<;>simp -implicitDefEqProofs (disch:=omega) only[go_sem,hb]<;>(repeat(with_reducible refine And.intro ?_ ?_;focus first|omega|rfl|assumption|exact⟨_,rfl,rfl⟩|(simp;omega)|(simp;done)))
 ·have hi:i<p.eX.length:=by omega
  (repeat(with_reducible refine And.intro ?_ ?_;focus first|omega|rfl|assumption|exact⟨_,rfl,rfl⟩|(simp;omega)|(simp;done)))
  rw[OW];exact dG (i+1,a++[p.eX[i].fName]) (by simp only;omega) rfl rfl ⟨by simp only;omega,by simp only;rw[p2,nP (by simpa [j3] using hi)];simp[j3]⟩
 have ha:a=j3 p:=by rw[p2,List.take_of_length_le (by simp[j3];omega)]
 clear p1 p2 pl hb h;subst ha
 refine bT (ι:=Nat×List (List UInt8)×List (List UInt8)) zmx rfl [1,6,7,8,9,11] (fun y=>[.c (.ptr (0,0) 0),.c (.bX (0,1) ((j3 p).map encS)),.c (.bX (0,2) (y.2.1.map encS)),.c (.bX (0,3) (y.2.2.map encS)),.c (.bX (0,4) []),.c (.d (.i .i64 y.1))]) (fun y=>[.box (p.enc.map .d),.tok 1 ((j3 p).map encS),.tok 1 (y.2.1.map encS),.tok 1 (y.2.2.map encS),.tok 1 []]::S)
  (fun y=>y.1<=p.bM.length/\y.2.1=(ng p).take y.1/\y.2.2=lI (p.bM.take y.1)) (fun y=>p.bM.length-y.1) (0,[],[]) rfl ?_ ⟨Nat.zero_le _,rfl,rfl⟩ ?_
 ·simp -implicitDefEqProofs (disch:=omega) only[go_sem]
 rintro⟨i,b,c⟩ ⟨p1,p2,p3⟩;simp only at p1 p2 p3
 have pl:b.length<=p.bM.length:=by rw[p2];simp[ng];omega
 simp -implicitDefEqProofs (disch:=omega) only[go_sem]
 with_reducible refine aD (fun hb=> ?_) (fun hb=> ?_)<;>have h:=hb<;>(try simp only[wf_preprocess] at h)<;>simp -implicitDefEqProofs (disch:=omega) only[go_sem,hb]<;>(repeat(with_reducible refine And.intro ?_ ?_;focus first|omega|rfl|assumption|exact⟨_,rfl,rfl⟩|(simp;omega)|(simp;done)))
 ·have hi:i<p.bM.length:=by omega
  have e3:lI (p.bM.take (i+1))=c++p.bM[i].aW.map aJ.fName:=by rw[p3];exact aaI _ hi
  have hcl:(lI (p.bM.take (i+1))).length<=4194304:=by
   have h1:(lI (p.bM.take (i+1))).length<=(lI p.bM).length:=by
    conv=>rhs;rw[<-List.take_append_drop (i+1) p.bM]
    unfold lI;rw[List.flatMap_append,List.length_append];omega
   omega
  rw[e3,List.length_append,List.length_map] at hcl
  (repeat(with_reducible refine And.intro ?_ ?_;focus first|omega|rfl|assumption|exact⟨_,rfl,rfl⟩|(simp;omega)|(simp;done)))
  rw[OW]
  refine bT (ι:=Nat×List (List UInt8)) zmx rfl [1,6,7,8,9,11,12] (fun y=>[.c (.ptr (0,0) 0),.c (.bX (0,1) ((j3 p).map encS)),.c (.bX (0,2) ((b++[p.bM[i].fName]).map encS)),.c (.bX (0,3) (y.2.map encS)),.c (.bX (0,4) []),.c (.d (.i .i64 i)),.c (.d (.i .i64 y.1))]) (fun y=>[.box (p.enc.map .d),.tok 1 ((j3 p).map encS),.tok 1 ((b++[p.bM[i].fName]).map encS),.tok 1 (y.2.map encS),.tok 1 []]::S)
   (fun y=>y.1<=p.bM[i].aW.length/\y.2=c++(p.bM[i].aW.map aJ.fName).take y.1) (fun y=>p.bM[i].aW.length-y.1) (0,c) rfl ?_ ⟨Nat.zero_le _,by simp⟩ ?_
  ·simp -implicitDefEqProofs (disch:=omega) only[go_sem]
  rintro⟨k,e⟩ ⟨q1,q2⟩;simp only at q1 q2
  have pl2:e.length<=4194304:=by rw[q2];simp;omega
  simp -implicitDefEqProofs (disch:=omega) only[go_sem]
  (repeat(with_reducible refine And.intro ?_ ?_;focus first|omega|rfl|assumption|exact⟨_,rfl,rfl⟩|(simp;omega)|(simp;done)))
  with_reducible refine aD (fun hb=> ?_) (fun hb=> ?_)<;>have h:=hb<;>(try simp only[wf_preprocess] at h)<;>simp -implicitDefEqProofs (disch:=omega) only[go_sem,hb]<;>(repeat(with_reducible refine And.intro ?_ ?_;focus first|omega|rfl|assumption|exact⟨_,rfl,rfl⟩|(simp;omega)|(simp;done)))
  ·have hk:k<p.bM[i].aW.length:=by omega
   (repeat(with_reducible refine And.intro ?_ ?_;focus first|omega|rfl|assumption|exact⟨_,rfl,rfl⟩|(simp;omega)|(simp;done)))
   rw[OW];exact dG (k+1,e++[p.bM[i].aW[k].fName]) (by simp only;omega) rfl rfl ⟨by simp only;omega,by simp only;rw[q2,nP (by simpa using hk)];simp⟩
  ·have hk:k=p.bM[i].aW.length:=by omega
   have he:e=c++p.bM[i].aW.map aJ.fName:=by rw[q2,List.take_of_length_le (by simp;omega)]
   exact dG (i+1,b++[p.bM[i].fName],e) (by simp only;omega) rfl rfl ⟨by simp only;omega,by simp only;rw[p2,nP (by simpa [ng] using hi)];simp[ng],by simp only;rw[e3,he]⟩
 have hb1:b=ng p:=by rw[p2,List.take_of_length_le (by simp[ng];omega)]
 have hc1:c=lI p.bM:=by rw[p3,List.take_of_length_le (by omega)]
 clear p1 p2 p3 pl hb h;subst hb1;subst hc1
 refine bT (ι:=Nat×List (List UInt8)) zmx rfl [1,6,7,8,9,13] (fun y=>[.c (.ptr (0,0) 0),.c (.bX (0,1) ((j3 p).map encS)),.c (.bX (0,2) ((ng p).map encS)),.c (.bX (0,3) ((lI p.bM).map encS)),.c (.bX (0,4) (y.2.map encS)),.c (.d (.i .i64 y.1))]) (fun y=>[.box (p.enc.map .d),.tok 1 ((j3 p).map encS),.tok 1 ((ng p).map encS),.tok 1 ((lI p.bM).map encS),.tok 1 (y.2.map encS)]::S)
  (fun y=>y.1<=p.dK.length/\y.2=(fnNames p).take y.1) (fun y=>p.dK.length-y.1) (0,[]) rfl ?_ ⟨Nat.zero_le _,rfl⟩ ?_
 ·simp -implicitDefEqProofs (disch:=omega) only[go_sem]
 rintro⟨i,a⟩ ⟨p1,p2⟩;simp only at p1 p2
 have pl:a.length<=p.dK.length:=by rw[p2];simp[fnNames];omega
 simp -implicitDefEqProofs (disch:=omega) only[go_sem]
 with_reducible refine aD (fun hb=> ?_) (fun hb=> ?_)<;>have h:=hb<;>(try simp only[wf_preprocess] at h)<;>simp -implicitDefEqProofs (disch:=omega) only[go_sem,hb]<;>(repeat(with_reducible refine And.intro ?_ ?_;focus first|omega|rfl|assumption|exact⟨_,rfl,rfl⟩|(simp;omega)|(simp;done)))
 ·have hi:i<p.dK.length:=by omega
  (repeat(with_reducible refine And.intro ?_ ?_;focus first|omega|rfl|assumption|exact⟨_,rfl,rfl⟩|(simp;omega)|(simp;done)))
  rw[OW];exact dG (i+1,a++[p.dK[i].fName]) (by simp only;omega) rfl rfl ⟨by simp only;omega,by simp only;rw[p2,nP (by simpa [fnNames] using hi)];simp[fnNames]⟩
 ·have ha:a=fnNames p:=by rw[p2,List.take_of_length_le (by simp[fnNames];omega)]
  rw[ha]
noncomputable def vo(p:aP):Bool:=p.eX.all fP&&(p.bM.all iO&&(p.bZ.all gH&&p.dK.all lY))
noncomputable def UE(p:aP):Bool:=validName p.fName&&(dec (p.iR.length<=5)&&(iP p.iR&&(!dec (p.fName∈p.iR)&&dec (p.eX.length+p.bM.length+p.bZ.length+p.dK.length<=24))))
noncomputable def validPkg(p:aP):Bool:=UE p&&(Iw [p]&&vo p)
theorem aP.sum(x:aP):x.fName.length+(x.iR.length+aI (x.iR.map encS))+(x.eX.length+aI (x.eX.map bG.enc))+(x.bM.length+aI (x.bM.map bB.enc))+(x.bZ.length+aI (x.bZ.map aH.enc))+(x.dK.length+aI (x.dK.map bA.enc))<=x.sz:=by
 simp only[aP.sz,aP.aj,bF,bL,D.sz,List.length_map];omega
theorem Et{α:Type}{f:α->Bool}{xs:List α}{i:Nat}(hi:i<xs.length):(xs.drop i).all f=(f xs[i]&&(xs.drop (i+1)).all f):=by
 rw[List.drop_eq_getElem_cons hi,List.all_cons]
theorem TJ(p:aP)(hsz:p.sz<=4194304):bq prog 80 [p.v] (.c (.d (.b (vo p)))):=fun S=>by
 have hs:=aP.sum p;refine zcx [.tmp 2] func80 ntmps80 ?_;simp -implicitDefEqProofs (disch:=omega) only[go_sem]
 refine bT (ι:=Nat) zmx rfl [1,3] (fun i=>[.c (.ptr (0,0) 0),.c (.d (.i .i64 i))]) (fun _=>[.box (p.enc.map .d)]::S)
  (fun i=>i<=p.eX.length/\(p.eX.drop i).all fP=p.eX.all fP) (fun i=>p.eX.length-i) 0 rfl ?_ ⟨Nat.zero_le _,rfl⟩ ?_
 ·simp -implicitDefEqProofs (disch:=omega) only[go_sem]
 rintro i ⟨p1,p2⟩;simp -implicitDefEqProofs (disch:=omega) only[go_sem]
 with_reducible refine aD (fun hb=> ?_) (fun hb=> ?_)<;>have h:=hb<;>(try simp only[wf_preprocess] at h)<;>simp -implicitDefEqProofs (disch:=omega) only[go_sem,hb]<;>(repeat(with_reducible refine And.intro ?_ ?_;focus first|omega|rfl|assumption|exact⟨_,rfl,rfl⟩|(simp;omega)|(simp;done)))
 ·have hi:i<p.eX.length:=by omega
  have hx:p.eX[i].sz<=aI (p.eX.map bG.enc):=dV (List.mem_map_of_mem (List.getElem_mem hi));rw[Et hi] at p2
  (repeat(with_reducible refine And.intro ?_ ?_;focus first|omega|rfl|assumption|exact⟨_,rfl,rfl⟩|(simp;omega)|(simp;done)))
  refine aB (nC p.eX[i] (by omega)) ?_;simp -implicitDefEqProofs (disch:=omega) only[go_sem]<;>(repeat(with_reducible refine And.intro ?_ ?_;focus first|omega|rfl|assumption|exact⟨_,rfl,rfl⟩|(simp;omega)|(simp;done)))
  with_reducible refine aD (fun hb=> ?_) (fun hb=> ?_)<;>have h:=hb<;>(try simp only[wf_preprocess] at h)<;>simp -implicitDefEqProofs (disch:=omega) only[go_sem,hb]<;>(repeat(with_reducible refine And.intro ?_ ?_;focus first|omega|rfl|assumption|exact⟨_,rfl,rfl⟩|(simp;omega)|(simp;done)))
  ·exact bO (by unfold vo;rw[<-p2,h];simp)
  ·rw[h,Bool.true_and] at p2;exact dG (i+1) (by omega) rfl rfl ⟨by omega,p2⟩
 rw[List.drop_of_length_le (by omega),List.all_nil] at p2;have f3:=p2.symm;clear p2 p1 hb h
 refine bT (ι:=Nat) zmx rfl [1,4] (fun i=>[.c (.ptr (0,0) 0),.c (.d (.i .i64 i))]) (fun _=>[.box (p.enc.map .d)]::S)
  (fun i=>i<=p.bM.length/\(p.bM.drop i).all iO=p.bM.all iO) (fun i=>p.bM.length-i) 0 rfl ?_ ⟨Nat.zero_le _,rfl⟩ ?_
 ·simp -implicitDefEqProofs (disch:=omega) only[go_sem]
 rintro i ⟨p1,p2⟩;simp -implicitDefEqProofs (disch:=omega) only[go_sem]
 with_reducible refine aD (fun hb=> ?_) (fun hb=> ?_)<;>have h:=hb<;>(try simp only[wf_preprocess] at h)<;>simp -implicitDefEqProofs (disch:=omega) only[go_sem,hb]<;>(repeat(with_reducible refine And.intro ?_ ?_;focus first|omega|rfl|assumption|exact⟨_,rfl,rfl⟩|(simp;omega)|(simp;done)))
 ·have hi:i<p.bM.length:=by omega
  have hx:p.bM[i].sz<=aI (p.bM.map bB.enc):=dV (List.mem_map_of_mem (List.getElem_mem hi));rw[Et hi] at p2
  (repeat(with_reducible refine And.intro ?_ ?_;focus first|omega|rfl|assumption|exact⟨_,rfl,rfl⟩|(simp;omega)|(simp;done)))
  refine aB (AP p.bM[i] (by omega)) ?_;simp -implicitDefEqProofs (disch:=omega) only[go_sem]<;>(repeat(with_reducible refine And.intro ?_ ?_;focus first|omega|rfl|assumption|exact⟨_,rfl,rfl⟩|(simp;omega)|(simp;done)))
  with_reducible refine aD (fun hb=> ?_) (fun hb=> ?_)<;>have h:=hb<;>(try simp only[wf_preprocess] at h)<;>simp -implicitDefEqProofs (disch:=omega) only[go_sem,hb]<;>(repeat(with_reducible refine And.intro ?_ ?_;focus first|omega|rfl|assumption|exact⟨_,rfl,rfl⟩|(simp;omega)|(simp;done)))
  ·exact bO (by unfold vo;rw[<-p2,h];simp)
  ·rw[h,Bool.true_and] at p2;exact dG (i+1) (by omega) rfl rfl ⟨by omega,p2⟩
 rw[List.drop_of_length_le (by omega),List.all_nil] at p2;have f4:=p2.symm;clear p2 p1 hb h
 refine bT (ι:=Nat) zmx rfl [1,5] (fun i=>[.c (.ptr (0,0) 0),.c (.d (.i .i64 i))]) (fun _=>[.box (p.enc.map .d)]::S)
  (fun i=>i<=p.bZ.length/\(p.bZ.drop i).all gH=p.bZ.all gH) (fun i=>p.bZ.length-i) 0 rfl ?_ ⟨Nat.zero_le _,rfl⟩ ?_
 ·simp -implicitDefEqProofs (disch:=omega) only[go_sem]
 rintro i ⟨p1,p2⟩;simp -implicitDefEqProofs (disch:=omega) only[go_sem]
 with_reducible refine aD (fun hb=> ?_) (fun hb=> ?_)<;>have h:=hb<;>(try simp only[wf_preprocess] at h)<;>simp -implicitDefEqProofs (disch:=omega) only[go_sem,hb]<;>(repeat(with_reducible refine And.intro ?_ ?_;focus first|omega|rfl|assumption|exact⟨_,rfl,rfl⟩|(simp;omega)|(simp;done)))
 ·have hi:i<p.bZ.length:=by omega
  have hx:p.bZ[i].sz<=aI (p.bZ.map aH.enc):=dV (List.mem_map_of_mem (List.getElem_mem hi));rw[Et hi] at p2
  (repeat(with_reducible refine And.intro ?_ ?_;focus first|omega|rfl|assumption|exact⟨_,rfl,rfl⟩|(simp;omega)|(simp;done)))
  refine aB (l8 p.bZ[i] (by omega)) ?_;simp -implicitDefEqProofs (disch:=omega) only[go_sem]<;>(repeat(with_reducible refine And.intro ?_ ?_;focus first|omega|rfl|assumption|exact⟨_,rfl,rfl⟩|(simp;omega)|(simp;done)))
  with_reducible refine aD (fun hb=> ?_) (fun hb=> ?_)<;>have h:=hb<;>(try simp only[wf_preprocess] at h)<;>simp -implicitDefEqProofs (disch:=omega) only[go_sem,hb]<;>(repeat(with_reducible refine And.intro ?_ ?_;focus first|omega|rfl|assumption|exact⟨_,rfl,rfl⟩|(simp;omega)|(simp;done)))
  ·exact bO (by unfold vo;rw[<-p2,h];simp)
  ·rw[h,Bool.true_and] at p2;exact dG (i+1) (by omega) rfl rfl ⟨by omega,p2⟩
 rw[List.drop_of_length_le (by omega),List.all_nil] at p2;have f5:=p2.symm;clear p2 p1 hb h
 refine bT (ι:=Nat) zmx rfl [1,6] (fun i=>[.c (.ptr (0,0) 0),.c (.d (.i .i64 i))]) (fun _=>[.box (p.enc.map .d)]::S)
  (fun i=>i<=p.dK.length/\(p.dK.drop i).all lY=p.dK.all lY) (fun i=>p.dK.length-i) 0 rfl ?_ ⟨Nat.zero_le _,rfl⟩ ?_
 ·simp -implicitDefEqProofs (disch:=omega) only[go_sem]
 rintro i ⟨p1,p2⟩;simp -implicitDefEqProofs (disch:=omega) only[go_sem]
 with_reducible refine aD (fun hb=> ?_) (fun hb=> ?_)<;>have h:=hb<;>(try simp only[wf_preprocess] at h)<;>simp -implicitDefEqProofs (disch:=omega) only[go_sem,hb]<;>(repeat(with_reducible refine And.intro ?_ ?_;focus first|omega|rfl|assumption|exact⟨_,rfl,rfl⟩|(simp;omega)|(simp;done)))
 ·have hi:i<p.dK.length:=by omega
  have hx:p.dK[i].sz<=aI (p.dK.map bA.enc):=dV (List.mem_map_of_mem (List.getElem_mem hi));rw[Et hi] at p2
  (repeat(with_reducible refine And.intro ?_ ?_;focus first|omega|rfl|assumption|exact⟨_,rfl,rfl⟩|(simp;omega)|(simp;done)))
  refine aB (xJ p.dK[i] (by omega)) ?_;simp -implicitDefEqProofs (disch:=omega) only[go_sem]<;>(repeat(with_reducible refine And.intro ?_ ?_;focus first|omega|rfl|assumption|exact⟨_,rfl,rfl⟩|(simp;omega)|(simp;done)))
  with_reducible refine aD (fun hb=> ?_) (fun hb=> ?_)<;>have h:=hb<;>(try simp only[wf_preprocess] at h)<;>simp -implicitDefEqProofs (disch:=omega) only[go_sem,hb]<;>(repeat(with_reducible refine And.intro ?_ ?_;focus first|omega|rfl|assumption|exact⟨_,rfl,rfl⟩|(simp;omega)|(simp;done)))
  ·exact bO (by unfold vo;rw[<-p2,h];simp)
  ·rw[h,Bool.true_and] at p2;exact dG (i+1) (by omega) rfl rfl ⟨by omega,p2⟩
 rw[List.drop_of_length_le (by omega),List.all_nil] at p2;have f6:=p2.symm;clear p2 p1 hb h;exact bO (by unfold vo;rw[f3,f4,f5,f6];rfl)
def aia:List UInt8:=[112,97,99,107,97,103,101]
def isK(s:List UInt8)(y:au):Bool:=decide (dL y.aA 0=s)
noncomputable def Eu(l:List au):List bG:=(l.filter (isK qD)).map Bd
noncomputable def Ev(l:List au):List bB:=(l.filter (isK uQ)).map wQ
noncomputable def Ew(l:List au):List aH:=(l.filter (isK sO)).map Gj
noncomputable def Ey(l:List au):List bA:=(l.filter (isK F6)).map Gh
noncomputable def rX(y:au):Bool:=if isK qD y=true then Bc y else if isK uQ y=true then okD y else if isK sO y=true then Gi y else if isK F6 y=true then okF y else false
noncomputable def decP(x:au):aP:=⟨dL x.aA 1,l7 x.aA 2,Eu (x.aA.drop 3),Ev (x.aA.drop 3),Ew (x.aA.drop 3),Ey (x.aA.drop 3)⟩
noncomputable def aeO(x:au):Prop:=iQ x=true/\3<=x.aA.length/\dL x.aA 0=aia/\(gX x.aA 2).bC=[]/\(gX x.aA 2).aA.all (fun y=>decide (y.bC≠[]))=true
noncomputable def Ll(x:au):Bool:=dec (aeO x/\(∀y∈x.aA.drop 3,rX y=true)/\validPkg (decP x)=true)
def Ez:aP:=⟨[],[],[],[],[],[]⟩
noncomputable def NY(x:au):aP:=if Ll x=true then decP x else Ez
theorem aib{x:au}(h:Ll x=false):NY x=Ez:=if_neg (by rw[h];decide)
theorem agv{x:au}(h:Ll x=true):NY x=decP x:=if_pos h
theorem aaJ{s s':List UInt8}{y:au}(h:isK s y=true)(hs:s≠s'):isK s' y=false:=by
 unfold isK at *
 rw[decide_eq_true_eq] at h;rw[h];exact decide_eq_false hs
theorem EA{α:Type}(s:List UInt8)(f:au->α){l:List au}{i:Nat}(hi:i<l.length):((l.take (i+1)).filter (isK s)).map f=((l.take i).filter (isK s)).map f++if isK s l[i]=true then [f l[i]] else []:=by
 rw[List.take_succ_eq_append_getElem hi,List.filter_append,List.map_append];congr 1;by_cases h:isK s l[i]=true
 ·rw[if_pos h,List.filter_cons,if_pos h];rfl
 ·rw[if_neg h,List.filter_cons,if_neg h];rfl
theorem agw{α:Type}(s:List UInt8)(f:au->α)(l:List au)(i:Nat):(((l.take i).filter (isK s)).map f).length<=i:=by
 rw[List.length_map];exact Nat.le_trans (List.length_filter_le _ _) (List.length_take_le _ _)
theorem UF(y:au):(Bd y).sz<=y.sz:=by
 unfold Bd;split
 ·exact RA true y
 ·simp[Lf,bG.sz,bG.aj,bF,D.sz,aI]
theorem aaK(y:au):(wQ y).sz<=y.sz:=by
 unfold wQ;split
 ·exact Uw true y
 ·simp[bB.sz,bB.aj,bF,D.sz,aI]
theorem aaL(y:au):(Gj y).sz<=y.sz:=by
 unfold Gj;split
 ·exact UC true y
 ·have:Ld.sz=0:=by simp[Ld,iL,aH.sz,aH.aj,ay.aj,ay.aR,ay.fName,ay.fArgs,bF,D.sz,aI]
  omega
theorem aaM(y:au):(Gh y).sz<=y.sz:=by
 unfold Gh;split
 ·exact UA true y
 ·have:La.sz=0:=by simp[La,iL,mU,bA.sz,bA.aj,ay.aj,ay.aR,ay.fName,ay.fArgs,aC.aj,bF,D.sz,aI,aC.aR,aC.bU,aC.fName,aC.fN,aC.fType,aC.fArgs,aC.bE]
  omega
theorem wS{α:Type}(s:List UInt8)(f:au->α)(e:α->List D)(h:∀y,bF (e (f y))<=y.sz):∀l:List au,aI (((l.filter (isK s)).map f).map e)<=dI l/\((l.filter (isK s)).map f).length<=l.length
 |[]=>⟨Nat.le_refl _,Nat.le_refl _⟩
 |y::l=>by
  obtain⟨h1,h2⟩:=wS s f e h l;rw[List.filter_cons];split
  ·have:=h y;rw[List.map_cons,List.map_cons,aI,dI,List.length_cons,List.length_cons];omega
  ·rw[dI,List.length_cons];omega
theorem agx{x:au}(h:x.sz<=500000):(decP x).sz<=4194304:=by
 have h1:=Rk x.aA 3;have h2:=gN x
 have h3:(x.aA.drop 3).length<=x.aA.length:=by rw[List.length_drop];omega
 have h4:=nS (gX x.aA 2).aA;have h5:(gX x.aA 2).sz<=dI x.aA:=xO x.aA 2;have h5':=mV (gX x.aA 2);have h6:(dL x.aA 1).length<=dI x.aA:=Nat.le_trans (Eo _) (xO x.aA 1);have t1:=wS qD Bd bG.enc UF (x.aA.drop 3);have t2:=wS uQ wQ bB.enc aaK (x.aA.drop 3);have t3:=wS sO Gj aH.enc aaL (x.aA.drop 3);have t4:=wS F6 Gh bA.enc aaM (x.aA.drop 3);have t5:=gN (gX x.aA 2)
 simp only[aP.sz,aP.aj,bF,bL,D.sz,List.length_map,decP,Eu,Ev,Ew,Ey,l7,dZ] at *
 omega
theorem UG(x:au)(i:Nat){m:Nat}(h:x.sz<=m):(x.aA.getD i dw).sz<=m:=by
 have:=xO x.aA i;have:=gN x;omega
theorem aaN{b:Bool}{l:List au}{i:Nat}(hi:i<l.length):((l.take i).map (Cq b)).map aJ.enc++[[.s (l[i].aA.getD 0 dw).bC,.sl (((l[i].aA.drop 1).map (eP b)).map ay.enc)]]=((l.take (i+1)).map (Cq b)).map aJ.enc:=by
 rw[List.take_succ_eq_append_getElem hi,List.map_append,List.map_append];simp only[List.map_cons,List.map_nil,aJ.aj];rfl
theorem agy{x:au}(h:okD x=true):(wQ x).fName=(ou false x).fName/\(wQ x).aO=(ou false x).aO/\(wQ x).aW=(ou false x).aW:=by
 unfold wQ;rw[if_pos h,<-adF h];exact⟨rfl,rfl,rfl⟩
theorem aic{x:au}(h:okD x=false):wQ x=⟨[],[],[]⟩:=by
 unfold wQ;rw[if_neg (by rw[h];decide)]
theorem aie{x:au}(h:x.aA.length=0):okD x=false:=bK fun h1=>by omega
theorem aea(ok:Bool):Less (.eH [(true,[.d (.s []),.bI [],.bI []]),(false,[.d (.b ok)])]) (.eH [(true,[.d (.s []),.d (.sl []),.d (.sl [])]),(false,[.d (.b ok)])]):=
 (jR.cons (.cons (.refl _) (.cons (eG _) (.cons (eG _) .nil))) (.refl _)).less
def lc(l:List aJ)(n:Nat):List (List D):=eu (l.map aJ.enc) n
theorem MH(x:au)(hsz:x.sz<=1048576):bq prog 241 [x.v] (.eH [(true,[.d (.s (wQ x).fName),.d (.sl ((wQ x).aO.map encS)),.d (.sl ((wQ x).aW.map aJ.enc))]),(false,[.d (.b (okD x))])]):=bq.of_le fun S=>by
 have h1:=gN x;have hds:=Uw false x;have hos:=afT (d:=ou false x) (by omega);obtain⟨l,hl⟩:∃l,l=x.aA.drop 3:=⟨_,rfl⟩
 have hll:l.length<=1048576:=by rw[hl,List.length_drop];omega
 have hlm:∀y∈l,y.sz<=1048576:=fun y hy=>by
  have:=kR (List.mem_of_mem_drop (hl▸hy));omega
 obtain⟨T,hT⟩:∃T:Nat->List (List D),T=fun i=>((l.take i).map (Cq false)).map aJ.enc:=⟨_,rfl⟩
 have hT0:T 0=[]:=by rw[hT];rfl
 have iE:∀i,(T i).length<=i:=fun i=>by rw[hT];simp only[List.length_map];exact List.length_take_le _ _
 have hTs:∀i (hi:i<l.length),T i++[[.s (l[i].aA.getD 0 dw).bC,.sl (((l[i].aA.drop 1).map (eP false)).map ay.enc)]]=T (i+1):=fun i hi=>by rw[hT];exact aaN hi
 have hTe:T l.length=((ou false x).aW).map aJ.enc:=by
  rw[hT];simp only
  rw[List.take_length,hl];rfl
 clear hT;refine zcx [.cell 2 59,.tmp 3] func241 ntmps241 ?_;simp -implicitDefEqProofs (disch:=omega) only[go_sem];refine aB (eT x 1 (by omega) (by omega)) ?_;simp -implicitDefEqProofs (disch:=omega) only[go_sem];refine aB (eT x 2 (by omega) (by omega)) ?_;simp -implicitDefEqProofs (disch:=omega) only[go_sem];refine aB (ow _ (UG x 2 (by omega))) ?_;simp -implicitDefEqProofs (disch:=omega) only[go_sem]
 (repeat(with_reducible refine And.intro ?_ ?_;focus first|omega|rfl|assumption|exact⟨_,rfl,rfl⟩|(simp;omega)|(simp;done)))
 refine aB (uO x 3 (by omega)) ?_;simp -implicitDefEqProofs (disch:=omega) only[go_sem];rw[<-hl];refine jr 2 2 2 _ rfl rfl ?_
 refine bT (ι:=Nat) zmx rfl [1,2,4,5,6] (fun i=>[.c (.ptr (0,0) 0),.c (.ptr (0,1) 0),.c (.ptr (0,2) 0),.c (.d (.sl (l.map au.enc))),.c (.d (.i .i64 i))])
  (fun i=>[.box [.d (.s x.bC),.d (.sl (x.aA.map au.enc))],.box [.d (.s []),.bI [],.bI []],.box [.d (.s (ou false x).fName),.d (.sl ((ou false x).aO.map encS)),.bX (0,3) (T i)],.tok 2 (T i)]::S)
  (fun i=>i<=l.length) (fun i=>l.length-i) 0 rfl (by rw[hT0];rfl) (Nat.zero_le _) ?_
 intro i hi;have hl':=iE i;simp -implicitDefEqProofs (disch:=omega) only[go_sem]
 with_reducible refine aD (fun hb=> ?_) (fun hb=> ?_)<;>have h:=hb<;>(try simp only[wf_preprocess] at h)<;>simp -implicitDefEqProofs (disch:=omega) only[go_sem,hb]<;>(repeat(with_reducible refine And.intro ?_ ?_;focus first|omega|rfl|assumption|exact⟨_,rfl,rfl⟩|(simp;omega)|(simp;done)))
 ·have hi':i<l.length:=by omega
  have hm:=List.getElem_mem hi';have hs:=hTs i hi';have hz:=hlm _ hm;have hz1:=gN l[i]
  (repeat(with_reducible refine And.intro ?_ ?_;focus first|omega|rfl|assumption|exact⟨_,rfl,rfl⟩|(simp;omega)|(simp;done)))
  refine aB (eT l[i] 0 (by omega) (by omega)) ?_;simp -implicitDefEqProofs (disch:=omega) only[go_sem]
  (repeat(with_reducible refine And.intro ?_ ?_;focus first|omega|rfl|assumption|exact⟨_,rfl,rfl⟩|(simp;omega)|(simp;done)))
  refine aB (uO l[i] 1 (by omega)) ?_;simp -implicitDefEqProofs (disch:=omega) only[go_sem];refine aB (EP (l[i].aA.drop 1) (by rw[List.length_drop];omega) (fun t ht=>by have:=kR (List.mem_of_mem_drop ht);omega)) ?_;simp -implicitDefEqProofs (disch:=omega) only[go_sem]
  (repeat(with_reducible refine And.intro ?_ ?_;focus first|omega|rfl|assumption|exact⟨_,rfl,rfl⟩|(simp;omega)|(simp;done)))
  rw[hs];exact fu 4 (by decide) (i+1) (by omega) rfl rfl rfl rfl (by omega)
 ·have hi':i=l.length:=by omega
  subst hi';rw[hTe];clear hTs;refine aB (lJ x (by omega)) ?_;simp -implicitDefEqProofs (disch:=omega) only[go_sem]
  have jE:okD x=false->Less (.eH [(true,[.d (.s []),.bI [],.bI []]),(false,[.d (.b false)])]) (.eH [(true,[.d (.s (wQ x).fName),.d (.sl ((wQ x).aO.map encS)),.d (.sl ((wQ x).aW.map aJ.enc))]),(false,[.d (.b (okD x))])]):=fun e=>by
   rw[aic e,e];exact aea false
  with_reducible refine aD (fun hb=> ?_) (fun hb=> ?_)<;>have h:=hb<;>(try simp only[wf_preprocess] at h)<;>simp -implicitDefEqProofs (disch:=omega) only[go_sem,hb]<;>(repeat(with_reducible refine And.intro ?_ ?_;focus first|omega|rfl|assumption|exact⟨_,rfl,rfl⟩|(simp;omega)|(simp;done)))
  ·exact jE (bK fun e=>by rw[e.1] at h;cases h)
  have hv:=h
  with_reducible refine aD (fun hb=> ?_) (fun hb=> ?_)<;>have h:=hb<;>(try simp only[wf_preprocess] at h)<;>simp -implicitDefEqProofs (disch:=omega) only[go_sem,hb]<;>(repeat(with_reducible refine And.intro ?_ ?_;focus first|omega|rfl|assumption|exact⟨_,rfl,rfl⟩|(simp;omega)|(simp;done)))
  ·exact jE (aie (by omega))
  have hne:x.aA≠[]:=fun e=>by rw[e] at h;exact h rfl
  have hok:=adE hne;rw[hv,Bool.true_and] at hok
  (repeat(with_reducible refine And.intro ?_ ?_;focus first|omega|rfl|assumption|exact⟨_,rfl,rfl⟩|(simp;omega)|(simp;done)))
  refine aB (Tj (ou false x) (by omega)) ?_;simp -implicitDefEqProofs (disch:=omega) only[go_sem];refine aB (qh (QV (ou false x)) x (by omega)) ?_;simp -implicitDefEqProofs (disch:=omega) only[go_sem]
  with_reducible refine aD (fun hb=> ?_) (fun hb=> ?_)<;>have h:=hb<;>(try simp only[wf_preprocess] at h)<;>simp -implicitDefEqProofs (disch:=omega) only[go_sem,hb]<;>(repeat(with_reducible refine And.intro ?_ ?_;focus first|omega|rfl|assumption|exact⟨_,rfl,rfl⟩|(simp;omega)|(simp;done)))
  ·exact jE (by rw[hok];exact bK h)
  ·have hy:okD x=true:=by rw[hok];exact dQ h
   obtain⟨e1,e2,e3⟩:=agy hy;rw[e1,e2,e3,hy];exact jv _
theorem aif(p:aP):XL [p]=j3 p:=by simp[XL]
theorem aii(p:aP):XM [p]=ng p:=by simp[XM]
theorem aij(p:aP):XO [p]=lI p.bM:=by simp[XO]
theorem aik(p:aP):XP [p]=fnNames p:=by simp[XP]
theorem Lm(p:aP)(hsz:p.sz<=4194304):bq prog 41 [p.v] (.c (.d (.b (validPkg p)))):=fun S=>by
 have hs:=aP.sum p;have hb:=aP.bounds hsz
 have hV:∀s∈p.iR,s.length<=4194304:=fun s h=>by have:=yI h;omega
 have l1:(j3 p).length<=1073741824:=by simp[j3];omega
 have l2:(ng p).length<=1073741824:=by simp[ng];omega
 have l3:(lI p.bM).length<=1073741824:=by omega
 have l4:(fnNames p).length<=1073741824:=by simp[fnNames];omega
 refine zcx [.tmp 2] func41 ntmps41 ?_;simp -implicitDefEqProofs (disch:=omega) only[go_sem];refine aB (TI p hsz) ?_;simp -implicitDefEqProofs (disch:=omega) only[go_sem]
 repeat' (first
  |with_reducible refine aD (fun hb=> ?_) (fun hb=> ?_)<;>have h:=hb<;>(try simp only[wf_preprocess] at h)<;>simp -implicitDefEqProofs (disch:=omega) only[go_sem,hb]<;>(repeat(with_reducible refine And.intro ?_ ?_;focus first|omega|rfl|assumption|exact⟨_,rfl,rfl⟩|(simp;omega)|(simp;done)))
  |((with_reducible show iJ _ _ 77 _ _ _ _);refine aB (gM p.fName (by omega)) ?_;simp -implicitDefEqProofs (disch:=omega) only[go_sem])
  |((with_reducible show iJ _ _ 78 _ _ _ _);refine aB (j6 p.iR 5 (by omega) hV) ?_;simp -implicitDefEqProofs (disch:=omega) only[go_sem])
  |((with_reducible show iJ _ _ 79 _ _ _ _);refine aB (nZ p.iR p.fName (by omega)) ?_;simp -implicitDefEqProofs (disch:=omega) only[go_sem])
  |((with_reducible show iJ _ _ 57 _ _ _ _);refine aB (mW (j3 p) l1) ?_;simp -implicitDefEqProofs (disch:=omega) only[go_sem])
  |((with_reducible show iJ _ _ 57 _ _ _ _);refine aB (mW (ng p) l2) ?_;simp -implicitDefEqProofs (disch:=omega) only[go_sem])
  |((with_reducible show iJ _ _ 57 _ _ _ _);refine aB (mW (lI p.bM) l3) ?_;simp -implicitDefEqProofs (disch:=omega) only[go_sem])
  |((with_reducible show iJ _ _ 57 _ _ _ _);refine aB (mW (fnNames p) l4) ?_;simp -implicitDefEqProofs (disch:=omega) only[go_sem])
  |((with_reducible show iJ _ _ 80 _ _ _ _);refine aB (TJ p hsz) ?_;simp -implicitDefEqProofs (disch:=omega) only[go_sem])
  |(refine bO ?_;unfold validPkg UE Iw;rw[aif,aii,aij,aik];grind [gL,j5,dQ,bK]))
noncomputable def BQ(y:au):List (List D):=if isK qD y=true then [(Bd y).enc] else []
noncomputable def BR(y:au):List (List D):=if isK uQ y=true then [(wQ y).enc] else []
noncomputable def BS(y:au):List (List D):=if isK sO y=true then [(Gj y).enc] else []
noncomputable def addFn(y:au):List (List D):=if isK F6 y=true then [(Gh y).enc] else []
theorem rY{s s':List UInt8}{y:au}(h:isK s y=true)(hs:s≠s')(r:List (List D)):(if isK s' y=true then r else [])=[]:=if_neg (by rw[aaJ h hs];decide)
def UH(bx br:List C)(nm dp:D)(a b c d:List (List D)):List Obj:=[.box bx,.box br,.box [.d nm,.d dp,.bX (0,3) a,.bX (0,4) b,.bX (0,5) c,.bX (0,6) d],.tok 5 a,.tok 3 b,.tok 12 c,.tok 16 d]
theorem aeb{l:List au}{i:Nat}(hi:i<l.length):(Eu (l.take (i+1))).map bG.enc=(Eu (l.take i)).map bG.enc++BQ l[i]:=by
 unfold Eu BQ;rw[EA _ _ hi,List.map_append];split<;>rfl
theorem aec{l:List au}{i:Nat}(hi:i<l.length):(Ev (l.take (i+1))).map bB.enc=(Ev (l.take i)).map bB.enc++BR l[i]:=by
 unfold Ev BR;rw[EA _ _ hi,List.map_append];split<;>rfl
theorem aed{l:List au}{i:Nat}(hi:i<l.length):(Ew (l.take (i+1))).map aH.enc=(Ew (l.take i)).map aH.enc++BS l[i]:=by
 unfold Ew BS;rw[EA _ _ hi,List.map_append];split<;>rfl
theorem aee{l:List au}{i:Nat}(hi:i<l.length):(Ey (l.take (i+1))).map bA.enc=(Ey (l.take i)).map bA.enc++addFn l[i]:=by
 unfold Ey addFn;rw[EA _ _ hi,List.map_append];split<;>rfl
theorem aaO(l:List au)(i:Nat):((Eu (l.take i)).map bG.enc).length<=i/\((Ev (l.take i)).map bB.enc).length<=i/\((Ew (l.take i)).map aH.enc).length<=i/\((Ey (l.take i)).map bA.enc).length<=i:=by
 have h:=fun {α:Type} s (f:au->α)=>agw s f l i
 simp only[List.length_map,Eu,Ev,Ew,Ey] at *
 exact⟨h _ id,h _ id,h _ id,h _ id⟩
def Gp:List C:=[.d (.s []),.bI [],.bI [],.bI [],.bI [],.bI []]
def aP.cv(p:aP):List C:=[.d (.s p.fName),.d (.sl (p.iR.map encS)),.d (.sl (p.eX.map bG.enc)),.d (.sl (p.bM.map bB.enc)),.d (.sl (p.bZ.map aH.enc)),.d (.sl (p.dK.map bA.enc))]
theorem ail(e:aP)(h:e=Ez)(ok:Bool):Less (.eH [(true,Gp),(false,[.d (.b ok)])]) (.eH [(true,e.cv),(false,[.d (.b ok)])]):=by
 subst h;exact(jR.cons (.cons (.refl _) (.cons (eG _) (.cons (eG _) (.cons (eG _) (.cons (eG _) (.cons (eG _) .nil)))))) (.refl _)).less
theorem TK(y:au)(hsz:y.sz<=1048576)(bx br:List C)(nm dp:D)(a b c d:List (List D))(Ω:Store)(ha:a.length<=1048576)(hb:b.length<=1048576)(hc:c.length<=1048576)(hd:d.length<=1048576):
 cB prog 221 [.c (.ptr (0,2) 0),y.v] (UH bx br nm dp a b c d::Ω) (fun r S'=>r=.c (.d (.b (rX y)))/\S'=UH bx br nm dp (a++BQ y) (b++BR y) (c++BS y) (d++addFn y)::Ω):=by
 unfold UH;refine zcx [.tmp 4] func221 ntmps221 ?_;simp -implicitDefEqProofs (disch:=omega) only[go_sem];refine aB (eT y 0 (by omega) (by omega)) ?_;simp -implicitDefEqProofs (disch:=omega) only[go_sem];have hk:∀s,isK s y=decide ((y.aA.getD 0 dw).bC=s):=fun s=>rfl
 with_reducible refine aD (fun hb=> ?_) (fun hb=> ?_)<;>have h:=hb<;>(try simp only[wf_preprocess] at h)<;>simp -implicitDefEqProofs (disch:=omega) only[go_sem,hb]<;>(repeat(with_reducible refine And.intro ?_ ?_;focus first|omega|rfl|assumption|exact⟨_,rfl,rfl⟩|(simp;omega)|(simp;done)))
 ·have h1:isK qD y=true:=by rw[hk];exact hb
  refine aB (RG y (by omega)) ?_;simp -implicitDefEqProofs (disch:=omega) only[go_sem]
  (repeat(with_reducible refine And.intro ?_ ?_;focus first|omega|rfl|assumption|exact⟨_,rfl,rfl⟩|(simp;omega)|(simp;done)))
  have e0:rX y=Bc y:=if_pos h1;have e1:BQ y=[(Bd y).enc]:=if_pos h1;have e2:BR y=[]:=rY h1 (by decide) _;have e3:BS y=[]:=rY h1 (by decide) _;have e4:addFn y=[]:=rY h1 (by decide) _;rw[e0,e1,e2,e3,e4];simp -implicitDefEqProofs (disch:=omega) only[go_sem]
  (repeat(with_reducible refine And.intro ?_ ?_;focus first|omega|rfl|assumption|exact⟨_,rfl,rfl⟩|(simp;omega)|(simp;done)))
 have n1:isK qD y=false:=by rw[hk];exact hb
 with_reducible refine aD (fun hb=> ?_) (fun hb=> ?_)<;>have h:=hb<;>(try simp only[wf_preprocess] at h)<;>simp -implicitDefEqProofs (disch:=omega) only[go_sem,hb]<;>(repeat(with_reducible refine And.intro ?_ ?_;focus first|omega|rfl|assumption|exact⟨_,rfl,rfl⟩|(simp;omega)|(simp;done)))
 ·have h1:isK uQ y=true:=by rw[hk];exact hb
  refine aB (MH y (by omega)) ?_;simp -implicitDefEqProofs (disch:=omega) only[go_sem]
  (repeat(with_reducible refine And.intro ?_ ?_;focus first|omega|rfl|assumption|exact⟨_,rfl,rfl⟩|(simp;omega)|(simp;done)))
  have e0:rX y=okD y:=by unfold rX;simp only[n1,h1,if_false,if_true,Bool.false_eq_true]
  have e1:BQ y=[]:=rY h1 (by decide) _;have e2:BR y=[(wQ y).enc]:=if_pos h1;have e3:BS y=[]:=rY h1 (by decide) _;have e4:addFn y=[]:=rY h1 (by decide) _;rw[e0,e1,e2,e3,e4];simp -implicitDefEqProofs (disch:=omega) only[go_sem]
  (repeat(with_reducible refine And.intro ?_ ?_;focus first|omega|rfl|assumption|exact⟨_,rfl,rfl⟩|(simp;omega)|(simp;done)))
 have n2:isK uQ y=false:=by rw[hk];exact hb
 with_reducible refine aD (fun hb=> ?_) (fun hb=> ?_)<;>have h:=hb<;>(try simp only[wf_preprocess] at h)<;>simp -implicitDefEqProofs (disch:=omega) only[go_sem,hb]<;>(repeat(with_reducible refine And.intro ?_ ?_;focus first|omega|rfl|assumption|exact⟨_,rfl,rfl⟩|(simp;omega)|(simp;done)))
 ·have h1:isK sO y=true:=by rw[hk];exact hb
  refine aB (TG y (by omega)) ?_;simp -implicitDefEqProofs (disch:=omega) only[go_sem]
  (repeat(with_reducible refine And.intro ?_ ?_;focus first|omega|rfl|assumption|exact⟨_,rfl,rfl⟩|(simp;omega)|(simp;done)))
  have e0:rX y=Gi y:=by unfold rX;simp only[n1,n2,h1,if_false,if_true,Bool.false_eq_true]
  have e1:BQ y=[]:=rY h1 (by decide) _;have e2:BR y=[]:=rY h1 (by decide) _;have e3:BS y=[(Gj y).enc]:=if_pos h1;have e4:addFn y=[]:=rY h1 (by decide) _;rw[e0,e1,e2,e3,e4];simp -implicitDefEqProofs (disch:=omega) only[go_sem]
  (repeat(with_reducible refine And.intro ?_ ?_;focus first|omega|rfl|assumption|exact⟨_,rfl,rfl⟩|(simp;omega)|(simp;done)))
 have n3:isK sO y=false:=by rw[hk];exact hb
 with_reducible refine aD (fun hb=> ?_) (fun hb=> ?_)<;>have h:=hb<;>(try simp only[wf_preprocess] at h)<;>simp -implicitDefEqProofs (disch:=omega) only[go_sem,hb]<;>(repeat(with_reducible refine And.intro ?_ ?_;focus first|omega|rfl|assumption|exact⟨_,rfl,rfl⟩|(simp;omega)|(simp;done)))
 ·have h1:isK F6 y=true:=by rw[hk];exact hb
  refine aB (Rx y (by omega)) ?_;simp -implicitDefEqProofs (disch:=omega) only[go_sem]
  (repeat(with_reducible refine And.intro ?_ ?_;focus first|omega|rfl|assumption|exact⟨_,rfl,rfl⟩|(simp;omega)|(simp;done)))
  have e0:rX y=okF y:=by unfold rX;simp only[n1,n2,n3,h1,if_false,if_true,Bool.false_eq_true]
  have e1:BQ y=[]:=rY h1 (by decide) _;have e2:BR y=[]:=rY h1 (by decide) _;have e3:BS y=[]:=rY h1 (by decide) _;have e4:addFn y=[(Gh y).enc]:=if_pos h1;rw[e0,e1,e2,e3,e4];simp -implicitDefEqProofs (disch:=omega) only[go_sem]
  (repeat(with_reducible refine And.intro ?_ ?_;focus first|omega|rfl|assumption|exact⟨_,rfl,rfl⟩|(simp;omega)|(simp;done)))
 have n4:isK F6 y=false:=by rw[hk];exact hb
 unfold rX BQ BR BS addFn;simp only[n1,n2,n3,n4,if_false,Bool.false_eq_true,List.append_nil];exact⟨trivial,trivial⟩
theorem TL(x:au)(hsz:x.sz<=1048576):bq prog 192 [x.v] (.eH [(true,(NY x).cv),(false,[.d (.b (Ll x))])]):=bq.of_le fun S=>by
 have h1:=gN x;obtain⟨l,hl⟩:∃l,l=x.aA.drop 3:=⟨_,rfl⟩
 have hll:l.length<=1048576:=by rw[hl,List.length_drop];omega
 have hlen:l.length=x.aA.length-3:=by rw[hl,List.length_drop]
 have hlm:∀y∈l,y.sz<=1048576:=fun y hy=>by
  have:=kR (List.mem_of_mem_drop (hl▸hy));omega
 have jE:Ll x=false->Less (.eH [(true,Gp),(false,[.d (.b false)])]) (.eH [(true,(NY x).cv),(false,[.d (.b (Ll x))])]):=fun e=>by
  rw[e];exact ail _ (aib e) false
 have hnm:((x.aA.getD 2 dw).aA).length<=1073741824:=by
  have:=UG x 2 (Nat.le_refl _);have:=gN (x.aA.getD 2 dw);omega
 refine zcx [.cell 2 77,.tmp 3] func192 ntmps192 ?_;simp -implicitDefEqProofs (disch:=omega) only[go_sem];refine aB (eT x 2 (by omega) (by omega)) ?_;simp -implicitDefEqProofs (disch:=omega) only[go_sem];refine aB (AX _ hnm) ?_;simp -implicitDefEqProofs (disch:=omega) only[go_sem];refine aB (eT x 1 (by omega) (by omega)) ?_;simp -implicitDefEqProofs (disch:=omega) only[go_sem];refine aB (lJ x (by omega)) ?_;simp -implicitDefEqProofs (disch:=omega) only[go_sem]
 with_reducible refine aD (fun hb=> ?_) (fun hb=> ?_)<;>have h:=hb<;>(try simp only[wf_preprocess] at h)<;>simp -implicitDefEqProofs (disch:=omega) only[go_sem,hb]<;>(repeat(with_reducible refine And.intro ?_ ?_;focus first|omega|rfl|assumption|exact⟨_,rfl,rfl⟩|(simp;omega)|(simp;done)))
 ·exact jE (bK fun e=>by rw[e.1.1] at h;cases h)
 have hv:=h
 with_reducible refine aD (fun hb=> ?_) (fun hb=> ?_)<;>have h:=hb<;>(try simp only[wf_preprocess] at h)<;>simp -implicitDefEqProofs (disch:=omega) only[go_sem,hb]<;>(repeat(with_reducible refine And.intro ?_ ?_;focus first|omega|rfl|assumption|exact⟨_,rfl,rfl⟩|(simp;omega)|(simp;done)))
 ·exact jE (bK fun e=>by have:=e.1.2.1;omega)
 have h3:3<=x.aA.length:=by omega
 (repeat(with_reducible refine And.intro ?_ ?_;focus first|omega|rfl|assumption|exact⟨_,rfl,rfl⟩|(simp;omega)|(simp;done)))
 have a0:x.aA[0].bC=dL x.aA 0:=(zR (by omega)).symm;have g2:x.aA[2]=gX x.aA 2:=(aas (by omega)).symm
 with_reducible refine aD (fun hb=> ?_) (fun hb=> ?_)<;>have h:=hb<;>(try simp only[wf_preprocess] at h)<;>simp -implicitDefEqProofs (disch:=omega) only[go_sem,hb]<;>(repeat(with_reducible refine And.intro ?_ ?_;focus first|omega|rfl|assumption|exact⟨_,rfl,rfl⟩|(simp;omega)|(simp;done)))
 ·exact jE (bK fun e=>h (a0.trans e.1.2.2.1))
 have hw:dL x.aA 0=aia:=by rw[<-a0];exact h
 (repeat(with_reducible refine And.intro ?_ ?_;focus first|omega|rfl|assumption|exact⟨_,rfl,rfl⟩|(simp;omega)|(simp;done)))
 with_reducible refine aD (fun hb=> ?_) (fun hb=> ?_)<;>have h:=hb<;>(try simp only[wf_preprocess] at h)<;>simp -implicitDefEqProofs (disch:=omega) only[go_sem,hb]<;>(repeat(with_reducible refine And.intro ?_ ?_;focus first|omega|rfl|assumption|exact⟨_,rfl,rfl⟩|(simp;omega)|(simp;done)))
 ·exact jE (bK fun e=>h (by rw[g2];exact e.1.2.2.2.1))
 have hz2:(gX x.aA 2).bC=[]:=by rw[<-g2];exact h
 with_reducible refine aD (fun hb=> ?_) (fun hb=> ?_)<;>have h:=hb<;>(try simp only[wf_preprocess] at h)<;>simp -implicitDefEqProofs (disch:=omega) only[go_sem,hb]<;>(repeat(with_reducible refine And.intro ?_ ?_;focus first|omega|rfl|assumption|exact⟨_,rfl,rfl⟩|(simp;omega)|(simp;done)))
 ·exact jE (bK fun e=>by have:=e.1.2.2.2.2;unfold allA at h;rw[show(x.aA.getD 2 dw)=gX x.aA 2 from rfl,this] at h;cases h)
 have hall:(gX x.aA 2).aA.all (fun y=>decide (y.bC≠[]))=true:=h;have hhead:aeO x:=⟨hv,h3,hw,hz2,hall⟩;have hvs:=BA hv;refine jr 2 2 5 _ rfl rfl ?_;refine jr 2 3 3 _ rfl rfl ?_;refine jr 2 4 12 _ rfl rfl ?_;refine jr 2 5 16 _ rfl rfl ?_
 refine bT (ι:=Nat) zmx rfl [1,2,6,7] (fun i=>[.c (.ptr (0,0) 0),.c (.ptr (0,1) 0),.c (.ptr (0,2) 0),.c (.d (.i .i64 (i+3:Nat)))])
  (fun i=>UH [.d (.s x.bC),.d (.sl (x.aA.map au.enc))] Gp (.s (x.aA.getD 1 dw).bC) (.sl ((gq (x.aA.getD 2 dw).aA).map encS)) ((Eu (l.take i)).map bG.enc) ((Ev (l.take i)).map bB.enc) ((Ew (l.take i)).map aH.enc) ((Ey (l.take i)).map bA.enc)::S)
  (fun i=>i<=l.length/\∀j,∀hj:j<l.length,j<i->rX l[j]=true) (fun i=>l.length-i) 0 rfl rfl ⟨Nat.zero_le _,fun j _ h=>by omega⟩ ?_
 rintro i ⟨p1,p2⟩;obtain⟨t1,t2,t3,t4⟩:=aaO l i;simp -implicitDefEqProofs (disch:=omega) only[go_sem,UH]
 with_reducible refine aD (fun hb=> ?_) (fun hb=> ?_)<;>have h:=hb<;>(try simp only[wf_preprocess] at h)<;>simp -implicitDefEqProofs (disch:=omega) only[go_sem,hb]<;>(repeat(with_reducible refine And.intro ?_ ?_;focus first|omega|rfl|assumption|exact⟨_,rfl,rfl⟩|(simp;omega)|(simp;done)))
 ·have hi:i<l.length:=by omega
  have hm:=List.getElem_mem hi;have hz:=hlm _ hm
  have hg:x.aA[i+3]'(by omega)=l[i]:=by
   simp only[hl,List.getElem_drop];congr 1;omega
  (repeat(with_reducible refine And.intro ?_ ?_;focus first|omega|rfl|assumption|exact⟨_,rfl,rfl⟩|(simp;omega)|(simp;done)))
  simp only[hg];have hc:=TK l[i] hz [.d (.s x.bC),.d (.sl (x.aA.map au.enc))] Gp (.s (x.aA.getD 1 dw).bC) (.sl ((gq (x.aA.getD 2 dw).aA).map encS)) _ _ _ _ S (Nat.le_trans t1 (by omega)) (Nat.le_trans t2 (by omega)) (Nat.le_trans t3 (by omega)) (Nat.le_trans t4 (by omega));rw[<-aeb hi,<-aec hi,<-aed hi,<-aee hi] at hc;refine bn rfl hc ?_;simp -implicitDefEqProofs (disch:=omega) only[go_sem,UH]
  with_reducible refine aD (fun hb=> ?_) (fun hb=> ?_)<;>have h:=hb<;>(try simp only[wf_preprocess] at h)<;>simp -implicitDefEqProofs (disch:=omega) only[go_sem,hb]<;>(repeat(with_reducible refine And.intro ?_ ?_;focus first|omega|rfl|assumption|exact⟨_,rfl,rfl⟩|(simp;omega)|(simp;done)))
  ·exact⟨by decide,jE (bK fun e=>by have:=e.2.1 l[i] (by rw[<-hl];exact hm);rw[this] at h;cases h)⟩
  ·refine dG (i+1) (by omega) rfl rfl ⟨by omega,fun j hj hji=> ?_⟩;by_cases e:j=i
   ·subst e;exact h
   ·exact p2 j hj (by omega)
 ·have hi:i=l.length:=by omega
  subst hi;rw[List.take_length,hl];refine aB (Lm (decP x) (agx (by omega))) ?_;simp -implicitDefEqProofs (disch:=omega) only[go_sem]
  have hits:∀y∈x.aA.drop 3,rX y=true:=fun y hy=>by
   rw[<-hl] at hy;obtain⟨j,hj,rfl⟩:=List.mem_iff_getElem.1 hy;exact p2 j hj hj
  with_reducible refine aD (fun hb=> ?_) (fun hb=> ?_)<;>have h:=hb<;>(try simp only[wf_preprocess] at h)<;>simp -implicitDefEqProofs (disch:=omega) only[go_sem,hb]<;>(repeat(with_reducible refine And.intro ?_ ?_;focus first|omega|rfl|assumption|exact⟨_,rfl,rfl⟩|(simp;omega)|(simp;done)))
  ·exact⟨by decide,jE (bK fun e=>by rw[e.2.2] at h;cases h)⟩
  ·have hy:Ll x=true:=dQ ⟨hhead,hits,h⟩;rw[agv hy,hy];exact⟨by decide,jv _⟩
def m2P(p:aP)(n:Nat):Nat:=n+1+(gQ (p.eX.map bG.enc)+1)
def m3P(p:aP)(n:Nat):Nat:=m2P p n+(gQ (p.bM.map bB.enc)+1)
def m4P(p:aP)(n:Nat):Nat:=m3P p n+(gQ (p.bZ.map aH.enc)+1)
noncomputable def Jt(s:List UInt8):Bool:=lX s&&Ll (kr s)
noncomputable def Gq(s:List UInt8):aP:=if lX s=true then NY (kr s) else Ez
abbrev aP.cl(p:aP)(n:Nat):List C:=[.d (.s p.fName),.d (.ol n (p.iR.map encS)),.d (.ol (n+1) (eu (p.eX.map bG.enc) (n+1+1))),.d (.ol (m2P p n) (eu (p.bM.map bB.enc) (m2P p n+1))),.d (.ol (m3P p n) (eu (p.bZ.map aH.enc) (m3P p n+1))),.d (.ol (m4P p n) (eu (p.dK.map bA.enc) (m4P p n+1)))]
theorem Oz(s:List UInt8)(hs:s.length<=1048576):bq prog 168 [.c (.d (.s s))] (.eH [(true,(Gq s).cv),(false,[.d (.b (Jt s))])]):=bq.of_le fun S=>by
 have hz:=ad8 s;have c1:=Ow s hs;have c2:=TL (kr s) hz
 have jE:lX s=false->Less (.eH [(true,Gp),(false,[.d (.b false)])]) (.eH [(true,(Gq s).cv),(false,[.d (.b (Jt s))])]):=fun e=>by
  have e1:Gq s=Ez:=if_neg (by rw[e];decide)
  have e2:Jt s=false:=by unfold Jt;rw[e];rfl
  rw[e2];exact ail _ e1 false
 have aeP:lX s=true->Gq s=NY (kr s)/\Jt s=Ll (kr s):=fun e=>⟨if_pos e,by unfold Jt;rw[e];rfl⟩;obtain⟨X,hX⟩:∃X,X=kr s:=⟨_,rfl⟩;rw[<-hX] at c1 c2 aeP;refine zcx [.cell 2 77,.tmp 3] func168 ntmps168 ?_;simp -implicitDefEqProofs (disch:=omega) only[go_sem];refine aB c1 ?_;simp -implicitDefEqProofs (disch:=omega) only[go_sem,au.aj,List.map_cons,List.map_nil]
 with_reducible refine aD (fun hb=> ?_) (fun hb=> ?_)<;>have h:=hb<;>(try simp only[wf_preprocess] at h)<;>simp -implicitDefEqProofs (disch:=omega) only[go_sem,hb]<;>(repeat(with_reducible refine And.intro ?_ ?_;focus first|omega|rfl|assumption|exact⟨_,rfl,rfl⟩|(simp;omega)|(simp;done)))
 ·exact jE h
 ·obtain⟨q1,q2⟩:=aeP h;rw[q1,q2];refine aB c2 ?_;simp -implicitDefEqProofs (disch:=omega) only[go_sem,aP.cv];exact jv _
def spl(c:UInt8)(acc:List UInt8):List UInt8->List (List UInt8)
 |[]=>[acc]
 |b::t=>if b=c then acc::spl c [] t else spl c (acc++[b]) t
theorem MI(c:UInt8):∀(s acc:List UInt8),(spl c acc s).length<=s.length+1/\∀l∈spl c acc s,l.length<=acc.length+s.length
 |[],acc=>by simp[spl]
 |b::t,acc=>by
  rw[spl];split
  ·have:=MI c t [];refine⟨by simp only[List.length_cons];omega,fun l hl=> ?_⟩;rcases List.mem_cons.1 hl with rfl|hl
   ·omega
   ·have:=this.2 l hl;simp only[List.length_nil,List.length_cons] at *;omega
  ·have:=MI c t (acc++[b]);refine⟨by simp only[List.length_cons];omega,fun l hl=> ?_⟩;have:=this.2 l hl;simp only[List.length_append,List.length_cons,List.length_nil] at *;omega
def Lp(s:List UInt8):Bool:=s.all fun b=>decide (b=32)
noncomputable def rZ:List (List UInt8)->List aP->List aP×Int
 |[],acc=>(acc,-1)
 |l::ls,acc=>if Lp l=true then rZ ls acc else if Jt l=true/\acc.length≠5 then rZ ls (acc++[Gq l]) else([],acc.length)
noncomputable def Gs(s:List UInt8):bR:=⟨(rZ (spl 10 [] s) []).1⟩
noncomputable def aip(s:List UInt8):Int:=(rZ (spl 10 [] s) []).2
theorem agz(x:au):(NY x).sz<=190000:=by
 unfold NY;split
 ·rename_i h;have h:x.sz<=11700:=BA (gL h).1.1;have h1:=Rk x.aA 3;have h2:=gN x
  have h3:(x.aA.drop 3).length<=x.aA.length:=by rw[List.length_drop];omega
  have h4:=nS (gX x.aA 2).aA;have h5:(gX x.aA 2).sz<=dI x.aA:=xO x.aA 2;have h5':=mV (gX x.aA 2);have h6:(dL x.aA 1).length<=dI x.aA:=Nat.le_trans (Eo _) (xO x.aA 1);have t1:=wS qD Bd bG.enc UF (x.aA.drop 3);have t2:=wS uQ wQ bB.enc aaK (x.aA.drop 3);have t3:=wS sO Gj aH.enc aaL (x.aA.drop 3);have t4:=wS F6 Gh bA.enc aaM (x.aA.drop 3);have t5:=gN (gX x.aA 2)
  simp only[aP.sz,aP.aj,bF,bL,D.sz,List.length_map,decP,Eu,Ev,Ew,Ey,l7,dZ] at *
  omega
 ·simp[Ez,aP.sz,aP.aj,bF,D.sz,aI]
theorem aef(s:List UInt8):(Gq s).sz<=190000:=by
 unfold Gq;split
 ·exact agz (kr s)
 ·simp[Ez,aP.sz,aP.aj,bF,D.sz,aI]
theorem NZ:∀a b:List (List D),aI (a++b)=aI a+aI b
 |[],b=>by simp[aI]
 |r::a,b=>by rw[List.cons_append,aI,aI,NZ a b];omega
theorem Gt:∀(ls:List (List UInt8))(acc:List aP),acc.length<=5->aI (acc.map aP.enc)<=acc.length*190000->(rZ ls acc).1.length<=5/\aI ((rZ ls acc).1.map aP.enc)<=950000
 |[],acc,h1,h2=>⟨h1,by rw[rZ];have:acc.length*190000<=5*190000:=Nat.mul_le_mul_right _ h1;simp only;omega⟩
 |l::ls,acc,h1,h2=>by
  rw[rZ];split
  ·exact Gt ls acc h1 h2
  ·split
   ·rename_i h;refine Gt ls _ (by rw[List.length_append,List.length_singleton];omega) ?_;have h3:=aef l;rw[List.map_append,NZ]
    simp only[List.map_cons,List.map_nil,aI,List.length_append,List.length_singleton] at *
    rw[aP.sz] at h3;omega
   ·exact⟨by simp,by simp[aI]⟩
theorem aaP(s:List UInt8):(Gs s).sz<=1048576:=by
 obtain⟨h1,h2⟩:=Gt (spl 10 [] s) [] (by simp) (by simp[aI]);rw[bR.sz];simp only[Gs,bR.aj,bF,D.sz,List.length_map];omega
theorem aiq{s:List UInt8}{i a:Nat}(hi:i<s.length)(ha:a<=i):(s.take (i+1)).drop a=(s.take i).drop a++[s[i]]:=by
 rw[List.take_succ_eq_append_getElem hi,List.drop_append_of_le_length (by rw[List.length_take];omega)]
theorem N7(out:List (List UInt8))(x:List UInt8):out.map encS++[[D.s x]]=(out++[x]).map encS:=by simp[encS]
theorem aaQ(l:List aP)(p:aP):l.map aP.enc++[[.s p.fName,.sl (p.iR.map encS),.sl (p.eX.map bG.enc),.sl (p.bM.map bB.enc),.sl (p.bZ.map aH.enc),.sl (p.dK.map bA.enc)]]=(l++[p]).map aP.enc:=by rw[List.map_append];rfl
theorem RL(s:List UInt8)(hs:s.length<=1073741824):bq prog 167 [.c (.d (.s s))] (.c (.d (.b (Lp s)))):=fun S=>by
 refine zcx [.tmp 2] func167 ntmps167 ?_;simp -implicitDefEqProofs (disch:=omega) only[go_sem]
 refine bT (ι:=Nat) zmx rfl [0,3] (fun i=>[.c (.d (.s s)),.c (.d (.i .i64 i))]) (fun _=>[]::S)
  (fun i=>i<=s.length/\∀j,∀hj:j<s.length,j<i->s[j]=32) (fun i=>s.length-i) 0 rfl rfl ⟨Nat.zero_le _,fun j _ h=>by omega⟩ ?_
 rintro i ⟨p1,p2⟩;simp -implicitDefEqProofs (disch:=omega) only[go_sem]
 with_reducible refine aD (fun hb=> ?_) (fun hb=> ?_)<;>have h:=hb<;>(try simp only[wf_preprocess] at h)<;>simp -implicitDefEqProofs (disch:=omega) only[go_sem,hb]<;>(repeat(with_reducible refine And.intro ?_ ?_;focus first|omega|rfl|assumption|exact⟨_,rfl,rfl⟩|(simp;omega)|(simp;done)))
 ·have hi:i<s.length:=by omega
  (repeat(with_reducible refine And.intro ?_ ?_;focus first|omega|rfl|assumption|exact⟨_,rfl,rfl⟩|(simp;omega)|(simp;done)))
  with_reducible refine aD (fun hb=> ?_) (fun hb=> ?_)<;>have h:=hb<;>(try simp only[wf_preprocess] at h)<;>simp -implicitDefEqProofs (disch:=omega) only[go_sem,hb]<;>(repeat(with_reducible refine And.intro ?_ ?_;focus first|omega|rfl|assumption|exact⟨_,rfl,rfl⟩|(simp;omega)|(simp;done)))
  ·have:Lp s=false:=Bool.eq_false_iff.2 fun e=>h (by
    have:=List.all_eq_true.1 e s[i] (List.getElem_mem hi)
    rw[show s.getD i 0=s[i] by simp[List.getD,hi],of_decide_eq_true this];rfl)
   rw[this]
  ·refine dG (i+1) (by omega) rfl rfl ⟨by omega,fun j hj hji=> ?_⟩;by_cases e:j=i
   ·subst e;rw[show s.getD j 0=s[j] by simp[List.getD,hi]] at h;exact UInt8.toNat_inj.1 (by rw[show(32:UInt8).toNat=32 from rfl];omega)
   ·exact p2 j hj (by omega)
 ·have:Lp s=true:=List.all_eq_true.2 fun b hb=>by
   obtain⟨j,hj,rfl⟩:=List.mem_iff_getElem.1 hb;exact decide_eq_true (p2 j hj (by omega))
  rw[this]
theorem RN(s:List UInt8)(c:UInt8)(hs:s.length<=1048576):bq prog 166 [.c (.d (.s s)),.c (.d (.i .u8 c.toNat))] (.c (.d (.sl ((spl c [] s).map encS)))):=fun S=>by
 refine zcx [.tmp 4] func166 ntmps166 ?_;simp -implicitDefEqProofs (disch:=omega) only[go_sem];refine lq 5 1 [] rfl (by simp) ?_
 refine bT (ι:=Nat×Nat×List (List UInt8)) zmx rfl [0,1,5,6,7] (fun y=>[.c (.d (.s s)),.c (.d (.i .u8 c.toNat)),.c (.bX (0,0) (y.2.2.map encS)),.c (.d (.i .i64 y.2.1)),.c (.d (.i .i64 y.1))]) (fun y=>[.tok 1 (y.2.2.map encS)]::S)
  (fun y=>y.2.1<=y.1/\y.2.2.length<=y.1/\((y.1<=s.length/\y.2.2++spl c ((s.take y.1).drop y.2.1) (s.drop y.1)=spl c [] s)\/(y.1=s.length+1/\y.2.2=spl c [] s))) (fun y=>s.length+1-y.1) (0,0,[]) rfl rfl ⟨Nat.le_refl _,Nat.le_refl _,.inl ⟨Nat.zero_le _,by simp⟩⟩ ?_
 rintro⟨i,fr,out⟩ ⟨p1,p2,p3⟩;simp only at p1 p2 p3
 have p4:i<=s.length+1:=by omega
 simp -implicitDefEqProofs (disch:=omega) only[go_sem]
 with_reducible refine aD (fun hb=> ?_) (fun hb=> ?_)<;>have h:=hb<;>(try simp only[wf_preprocess] at h)<;>simp -implicitDefEqProofs (disch:=omega) only[go_sem,hb]<;>(repeat(with_reducible refine And.intro ?_ ?_;focus first|omega|rfl|assumption|exact⟨_,rfl,rfl⟩|(simp;omega)|(simp;done)))
 ·have h1:i<=s.length:=by omega
  have hq:out++spl c ((s.take i).drop fr) (s.drop i)=spl c [] s:=by
   rcases p3 with p3|p3
   ·exact p3.2
   ·omega
  with_reducible refine aD (fun hb=> ?_) (fun hb=> ?_)<;>have h:=hb<;>(try simp only[wf_preprocess] at h)<;>simp -implicitDefEqProofs (disch:=omega) only[go_sem,hb]<;>(repeat(with_reducible refine And.intro ?_ ?_;focus first|omega|rfl|assumption|exact⟨_,rfl,rfl⟩|(simp;omega)|(simp;done)))
  ·have hi:i=s.length:=by omega
   subst hi;rw[List.drop_length,spl] at hq
   (repeat(with_reducible refine And.intro ?_ ?_;focus first|omega|rfl|assumption|exact⟨_,rfl,rfl⟩|(simp;omega)|(simp;done)))
   rw[N7];exact dG (s.length+1,s.length+1,out++[(s.take s.length).drop fr]) (by simp only;omega) rfl rfl ⟨Nat.le_refl _,by simp only[List.length_append,List.length_singleton];omega,.inr ⟨rfl,hq⟩⟩
  ·have hi:i<s.length:=by omega
   have hg:s.getD i 0=s[i]:=by simp[List.getD,hi]
   (repeat(with_reducible refine And.intro ?_ ?_;focus first|omega|rfl|assumption|exact⟨_,rfl,rfl⟩|(simp;omega)|(simp;done)))
   with_reducible refine aD (fun hb=> ?_) (fun hb=> ?_)<;>have h:=hb<;>(try simp only[wf_preprocess] at h)<;>simp -implicitDefEqProofs (disch:=omega) only[go_sem,hb]<;>(repeat(with_reducible refine And.intro ?_ ?_;focus first|omega|rfl|assumption|exact⟨_,rfl,rfl⟩|(simp;omega)|(simp;done)))
   ·have hc:s[i]=c:=by
     rw[hg] at h;exact UInt8.toNat_inj.1 (by omega)
    rw[List.drop_eq_getElem_cons hi,spl,if_pos hc] at hq
    (repeat(with_reducible refine And.intro ?_ ?_;focus first|omega|rfl|assumption|exact⟨_,rfl,rfl⟩|(simp;omega)|(simp;done)))
    rw[N7];refine dG (i+1,i+1,out++[(s.take i).drop fr]) (by simp only;omega) rfl rfl ⟨Nat.le_refl _,by simp only[List.length_append,List.length_singleton];omega,.inl ⟨by simp only;omega,?_⟩⟩
    ·simp only
     rw[show(s.take (i+1)).drop (i+1)=[] from List.drop_eq_nil_of_le (by rw[List.length_take];omega),<-hq,List.append_assoc];rfl
   ·have hc:s[i]≠c:=fun e=>h (by rw[hg,e]);rw[List.drop_eq_getElem_cons hi,spl,if_neg hc,<-aiq hi p1] at hq;exact dG (i+1,fr,out) (by simp only;omega) rfl rfl ⟨by simp only;omega,by simp only;omega,.inl ⟨by simp only;omega,hq⟩⟩
 ·rcases p3 with p3|p3
  ·omega
  ·rw[<-p3.2]
theorem N8{bs:List Int}(hB:Bytes bs)(c c2:Cu bs)(k:Int)(l j:Nat)(S:Store)(hk:bg S (l,j)=some (.box (cur c)))(h2:aT 10 c=(k,c2))(hk3:k=2\/k=3):
 cB prog 102 [.c (.ptr (l,j) 0)] S (fun r S1=>r=(uq k c2).1.v/\S1=aX S (l,j) (.box (cur (uq k c2).2))):=by
 have g:∀x:Ab.Obj,bg (aX S (l,j) x) (l,j)=some x:=fun x=>dn _ _ _ _ hk;have q2:=fun fr:List Ab.Obj=>dY hB c (1+l) j (fr::S) 10 (by rw[aG];exact hk) (by omega) (by omega);simp only[h2,ak] at q2;obtain⟨q,hq⟩:∃q,q=uq k c2:=⟨_,rfl⟩;rw[<-hq];refine cB.of_le ?_;refine zG [67] (rs:=[.cell 2 59]) zmx func102 ntmps102 rfl rfl rfl rfl rfl ?_;simp -implicitDefEqProofs (disch:=omega) only[go_sem];refine aB (fQ _) ?_;simp -implicitDefEqProofs (disch:=omega) only[go_sem];refine aB (fQ _) ?_;simp -implicitDefEqProofs (disch:=omega) only[go_sem]
 (repeat(with_reducible refine And.intro ?_ ?_;focus first|omega|rfl|assumption|exact⟨_,rfl,rfl⟩|(simp;omega)|(simp;done)))
 refine aB (vk [108,105,115,116] [nJ [97]] rfl (by decide) (.inl rfl)) ?_;simp -implicitDefEqProofs (disch:=omega) only[go_sem]
 (repeat(with_reducible refine And.intro ?_ ?_;focus first|omega|rfl|assumption|exact⟨_,rfl,rfl⟩|(simp;omega)|(simp;done)))
 refine bn rfl (q2 _) ?_;rcases hk3 with rfl|rfl
 ·simp only[uq,reduceIte,Int.reduceEq] at hq;simp -implicitDefEqProofs (disch:=omega) only[go_sem,ak,ah];refine bn rfl (iF hB 2 c2 (1+l) j _ (by rw[aG];exact g _) (by omega)) ?_;simp -implicitDefEqProofs (disch:=omega) only[go_sem,ak,ah]
  (repeat(with_reducible refine And.intro ?_ ?_;focus first|omega|rfl|assumption|exact⟨_,rfl,rfl⟩|(simp;omega)|(simp;done)))
  refine⟨by cases l<;>rfl,?_⟩;simp -implicitDefEqProofs (disch:=omega) only[go_sem,ak,ah];rw[hq]
  first|exact⟨aF rfl,rfl⟩|(refine⟨aF ?_,rfl⟩;simp only[bB.v,List.map_cons,List.map_nil,List.map_append,aM.aj,aJ.aj,aK.aj,aN.aj,ay.aj,aC.aj,List.cons_append,List.nil_append];rfl)
 ·simp only[uq,reduceIte,Int.reduceEq] at hq;simp -implicitDefEqProofs (disch:=omega) only[go_sem,ak,ah];refine cu [true] rfl (dS hB c2 (1+l) j _ OU (by rw[aG];exact g _) (by decide) (by decide)) ?_;simp -implicitDefEqProofs (disch:=omega) only[go_sem,ak,ah]
  (repeat(with_reducible refine And.intro ?_ ?_;focus first|omega|rfl|assumption|exact⟨_,rfl,rfl⟩|(simp;omega)|(simp;done)))
  refine⟨by cases l<;>rfl,?_⟩;simp -implicitDefEqProofs (disch:=omega) only[go_sem,ak,ah];rw[hq]
  first|exact⟨aF rfl,rfl⟩|(refine⟨aF ?_,rfl⟩;simp only[bB.v,List.map_cons,List.map_nil,List.map_append,aM.aj,aJ.aj,aK.aj,aN.aj,ay.aj,aC.aj,List.cons_append,List.nil_append];rfl)
theorem aaR{bs:List Int}(hB:Bytes bs)(c c2:Cu bs)(k:Int)(l j:Nat)(S:Store)(hk:bg S (l,j)=some (.box (cur c)))(h2:aT 10 c=(k,c2))(hk2:k≠2)(hk3:k≠3):
 cB prog 102 [.c (.ptr (l,j) 0)] S (fun r S1=>r=(uq k c2).1.v/\S1=aX S (l,j) (.box (cur (uq k c2).2))):=by
 have g:∀x:Ab.Obj,bg (aX S (l,j) x) (l,j)=some x:=fun x=>dn _ _ _ _ hk;have q2:=fun fr:List Ab.Obj=>dY hB c (1+l) j (fr::S) 10 (by rw[aG];exact hk) (by omega) (by omega);simp only[h2,ak] at q2;obtain⟨q,hq⟩:∃q,q=uq k c2:=⟨_,rfl⟩;rw[<-hq];refine cB.of_le ?_;refine oZ [67] (rs:=[.cell 2 59]) zmx func102 ntmps102 rfl rfl rfl rfl rfl ?_;simp -implicitDefEqProofs (disch:=omega) only[go_sem];refine aB (fQ _) ?_;simp -implicitDefEqProofs (disch:=omega) only[go_sem];refine aB (fQ _) ?_;simp -implicitDefEqProofs (disch:=omega) only[go_sem]
 (repeat(with_reducible refine And.intro ?_ ?_;focus first|omega|rfl|assumption|exact⟨_,rfl,rfl⟩|(simp;omega)|(simp;done)))
 refine aB (vk [108,105,115,116] [nJ [97]] rfl (by decide) (.inl rfl)) ?_;simp -implicitDefEqProofs (disch:=omega) only[go_sem]
 (repeat(with_reducible refine And.intro ?_ ?_;focus first|omega|rfl|assumption|exact⟨_,rfl,rfl⟩|(simp;omega)|(simp;done)))
 refine bn rfl (q2 _) ?_;simp -implicitDefEqProofs (disch:=omega) only[go_sem,ak,ah]
 with_reducible refine aD (fun hb=> ?_) (fun hb=> ?_)<;>have h:=hb<;>(try simp only[wf_preprocess] at h)<;>simp -implicitDefEqProofs (disch:=omega) only[go_sem,hb,ak,ah]<;>(repeat(with_reducible refine And.intro ?_ ?_;focus first|omega|rfl|assumption|exact⟨_,rfl,rfl⟩|(simp;omega)|(simp;done)))
 ·subst h;simp only[uq,reduceIte,Int.reduceEq] at hq;refine cu [true] rfl (dS hB c2 (1+l) j _ EN (by rw[aG];exact g _) (by decide) (by decide)) ?_;simp -implicitDefEqProofs (disch:=omega) only[go_sem,ak,ah]
  (repeat(with_reducible refine And.intro ?_ ?_;focus first|omega|rfl|assumption|exact⟨_,rfl,rfl⟩|(simp;omega)|(simp;done)))
  refine⟨by cases l<;>rfl,?_⟩;simp -implicitDefEqProofs (disch:=omega) only[go_sem,ak,ah];rw[hq]
  first|exact⟨aF rfl,rfl⟩|(refine⟨aF ?_,rfl⟩;simp only[bB.v,List.map_cons,List.map_nil,List.map_append,aM.aj,aJ.aj,aK.aj,aN.aj,ay.aj,aC.aj,List.cons_append,List.nil_append];rfl)
 have e0:=h
 with_reducible refine aD (fun hb=> ?_) (fun hb=> ?_)<;>have h:=hb<;>(try simp only[wf_preprocess] at h)<;>simp -implicitDefEqProofs (disch:=omega) only[go_sem,hb,ak,ah]<;>(repeat(with_reducible refine And.intro ?_ ?_;focus first|omega|rfl|assumption|exact⟨_,rfl,rfl⟩|(simp;omega)|(simp;done)))
 ·subst h;simp only[uq,reduceIte,Int.reduceEq] at hq;have hx:=iC (n:=2) c2 (by omega);obtain⟨m,hm⟩:∃m:Nat,(aT 2 c2).1=(m:Int):=⟨(aT 2 c2).1.toNat,by omega⟩;have q3:=fun fr:List Ab.Obj=>dY hB c2 (1+l) j (fr::aX S (l,j) (.box (cur c2))) 2 (by rw[aG];exact g _) (by omega) (by omega);rw[hm] at hx hq;simp only[hm,ak,ah] at q3;refine bn rfl (q3 _) ?_;simp -implicitDefEqProofs (disch:=omega) only[go_sem,ak,ah]
  (repeat(with_reducible refine And.intro ?_ ?_;focus first|omega|rfl|assumption|exact⟨_,rfl,rfl⟩|(simp;omega)|(simp;done)))
  refine⟨by cases l<;>rfl,?_⟩;simp -implicitDefEqProofs (disch:=omega) only[go_sem,ak,ah];rw[hq]
  have hm2:m=0\/m=1:=by omega
  clear hm q3;rcases hm2 with rfl|rfl
  all_goals
   refine⟨aF ?_,rfl⟩;rfl
 have e1:=h
 with_reducible refine aD (fun hb=> ?_) (fun hb=> ?_)<;>have h:=hb<;>(try simp only[wf_preprocess] at h)<;>simp -implicitDefEqProofs (disch:=omega) only[go_sem,hb,ak,ah]<;>(repeat(with_reducible refine And.intro ?_ ?_;focus first|omega|rfl|assumption|exact⟨_,rfl,rfl⟩|(simp;omega)|(simp;done)))
 ·exact absurd h hk2
 with_reducible refine aD (fun hb=> ?_) (fun hb=> ?_)<;>have h:=hb<;>(try simp only[wf_preprocess] at h)<;>simp -implicitDefEqProofs (disch:=omega) only[go_sem,hb,ak,ah]<;>(repeat(with_reducible refine And.intro ?_ ?_;focus first|omega|rfl|assumption|exact⟨_,rfl,rfl⟩|(simp;omega)|(simp;done)))
 ·exact absurd h hk3
 simp only[uq,if_neg e0,if_neg e1,if_neg hk2,if_neg hk3] at hq;rw[hq]
 first|exact⟨aF rfl,rfl⟩|(refine⟨aF ?_,rfl⟩;simp only[bB.v,List.map_cons,List.map_nil,List.map_append,aM.aj,aJ.aj,aK.aj,aN.aj,ay.aj,aC.aj,List.cons_append,List.nil_append];rfl)
theorem XQ{bs:List Int}(hB:Bytes bs)(c:Cu bs)(l j:Nat)(S:Store)(hk:bg S (l,j)=some (.box (cur c))):
 cB prog 102 [.c (.ptr (l,j) 0)] S (fun r S1=>r=(zJ c).1.v/\S1=aX S (l,j) (.box (cur (zJ c).2))):=by
 unfold zJ;by_cases h2:(aT 10 c).1=2
 ·exact N8 hB c _ _ l j S hk rfl (.inl h2)
 by_cases h3:(aT 10 c).1=3
 ·exact N8 hB c _ _ l j S hk rfl (.inr h3)
 ·exact aaR hB c _ _ l j S hk rfl h2 h3
def oN{bs:List Int}(p:aP)(k:Int)(c:Cu bs):aP×Cu bs:=
 if k=0 then(⟨p.fName,p.iR,p.eX++[(wP c).1],p.bM,p.bZ,p.dK⟩,(wP c).2) else
 if k=1 then(⟨p.fName,p.iR,p.eX,p.bM++[(zJ c).1],p.bZ,p.dK⟩,(zJ c).2) else
 if k=2 then(⟨p.fName,p.iR,p.eX,p.bM,p.bZ++[(instX c).1],p.dK⟩,(instX c).2) else
 (⟨p.fName,p.iR,p.eX,p.bM,p.bZ,p.dK++[(K4 c).1]⟩,(K4 c).2)
def Bf{bs:List Int}:Nat->aP->Cu bs->aP×Cu bs
 |0,p,c=>(p,c)
 |n+1,p,c=>Bf n (oN p (aT 4 c).1 (aT 4 c).2).1 (oN p (aT 4 c).1 (aT 4 c).2).2
def OX:List (List UInt8):=[[],[99,111,114,101]]
theorem XR:eZ OX:=by unfold eZ;decide
def XT:List (List UInt8):=[[99,111,114,101],[113],[112]]
theorem aaS:eZ XT:=by unfold eZ;decide
def MJ{bs:List Int}(p:aP)(k:Int)(c:Cu bs):aP×Cu bs:=
 if k=0 then(⟨(bP OX c).1,p.iR,p.eX,p.bM,p.bZ,p.dK⟩,(bP OX c).2) else
 if k=1 then(⟨p.fName,p.iR++[(bP XT c).1],p.eX,p.bM,p.bZ,p.dK⟩,(bP XT c).2) else(p,c)
def EB:aP:=⟨[112],[[99,111,114,101]],[],[],[],[]⟩
def aeg{bs:List Int}(p:aP)(c:Cu bs):aP×Cu bs:=MJ p (aT 10 c).1 (aT 10 c).2
def Ju{bs:List Int}(c:Cu bs):aP×Cu bs:=
 aeg (Bf (aT 5 c).1.toNat EB (aT 5 c).2).1 (Bf (aT 5 c).1.toNat EB (aT 5 c).2).2
theorem pV(s:List UInt8)(d:List (List UInt8))(t:List bG)(a:List bB)(i:List aH)(f:List bA):
 (aP.mk s d t a i f).sz=s.length+(d.length+aI (d.map encS))+(t.length+aI (t.map bG.enc))+(a.length+aI (a.map bB.enc))+(i.length+aI (i.map aH.enc))+(f.length+aI (f.map bA.enc)):=by
 simp only[aP.sz,aP.aj,bF,bL,D.sz,List.length_map];omega
theorem XU{bs:List Int}(p:aP)(k:Int)(c:Cu bs):(oN p k c).1.sz<=p.sz+2001/\(oN p k c).1.fName=p.fName/\(oN p k c).1.iR=p.iR:=by
 have h0:=pV p.fName p.iR p.eX p.bM p.bZ p.dK;rw[aP.eta] at h0;have h1:=aaf c;have h2:=ady c;have h3:=instX_sz c;have h4:=ahZ c;unfold oN;split
 ·refine⟨?_,rfl,rfl⟩;simp only[pV,List.map_append,pO,List.map_cons,List.map_nil,aI,List.length_append,List.length_cons,List.length_nil,bG.cK];omega
 split
 ·refine⟨?_,rfl,rfl⟩;simp only[pV,List.map_append,pO,List.map_cons,List.map_nil,aI,List.length_append,List.length_cons,List.length_nil,bB.cK];omega
 split
 ·refine⟨?_,rfl,rfl⟩;simp only[pV,List.map_append,pO,List.map_cons,List.map_nil,aI,List.length_append,List.length_cons,List.length_nil,aH.cK];omega
 ·refine⟨?_,rfl,rfl⟩;simp only[pV,List.map_append,pO,List.map_cons,List.map_nil,aI,List.length_append,List.length_cons,List.length_nil,bA.cK];omega
theorem UJ{bs:List Int}:∀(n:Nat)(p:aP)(c:Cu bs),(Bf n p c).1.sz<=p.sz+n*2001
 |0,p,c=>by show p.sz<=_;omega
 |n+1,p,c=>by
  have h1:=(XU p (aT 4 c).1 (aT 4 c).2).1;have h2:=UJ n (oN p (aT 4 c).1 (aT 4 c).2).1 (oN p (aT 4 c).1 (aT 4 c).2).2;rw[Bf];omega
theorem agA{bs:List Int}(c:Cu bs):(Ju c).1.sz<=9000:=by
 have hr:=iC (n:=5) c (by omega);have h1:=UJ (aT 5 c).1.toNat EB (aT 5 c).2
 have h0:EB.sz=6:=by rw[EB,pV];simp[aI,nk]
 have h2:(aT 5 c).1.toNat<=4:=by omega
 have h3:=Nat.mul_le_mul_right 2001 h2;unfold Ju aeg;generalize (Bf (aT 5 c).1.toNat EB (aT 5 c).2).1=p at h1;generalize (Bf (aT 5 c).1.toNat EB (aT 5 c).2).2=c1;generalize (aT 10 c1).1=k;generalize (aT 10 c1).2=c2;have h4:=gP c2 XR;have h5:=gP c2 aaS;have h6:=pV p.fName p.iR p.eX p.bM p.bZ p.dK;rw[aP.eta] at h6;unfold MJ;split
 ·simp only[pV];omega
 split
 ·simp only[pV,List.map_append,pO,List.map_cons,List.map_nil,aI,nk,List.length_append,List.length_cons,List.length_nil];omega
 ·show p.sz<=_;omega
theorem aaT{bs:List Int}(hB:Bytes bs)(c:Cu bs)(l j:Nat)(S:Store)(hk:bg S (l,j)=some (.box (cur c))):
 cB prog 63 [.c (.ptr (l,j) 0)] S (fun r S1=>r=(Ju c).1.v/\S1=aX S (l,j) (.box (cur (Ju c).2))):=by
 have g:∀x:Ab.Obj,bg (aX S (l,j) x) (l,j)=some x:=fun x=>dn _ _ _ _ hk;unfold Ju;have hx:=iC (n:=5) c (by omega);obtain⟨n,hn⟩:∃n:Nat,(aT 5 c).1=(n:Int):=⟨(aT 5 c).1.toNat,by omega⟩;have q0:=fun fr:List Ab.Obj=>dY hB c (1+l) j (fr::S) 5 (by rw[aG];exact hk) (by omega) (by omega)
 generalize hc0:(aT 5 c).2=c0 at *
 rw[hn] at hx;simp only[hn,Int.toNat_natCast,ak] at q0 ⊢;obtain⟨R,hR⟩:∃R,R=Bf n EB c0:=⟨_,rfl⟩;rw[<-hR];refine cB.of_le ?_;refine oZ [67] (rs:=[.cell 2 77]) zmx func63 ntmps63 rfl rfl rfl rfl rfl ?_;simp -implicitDefEqProofs (disch:=omega) only[go_sem]
 (repeat(with_reducible refine And.intro ?_ ?_;focus first|omega|rfl|assumption|exact⟨_,rfl,rfl⟩|(simp;omega)|(simp;done)))
 refine bn rfl (q0 _) ?_;simp -implicitDefEqProofs (disch:=omega) only[go_sem,ak];refine jr 1 2 5 _ rfl rfl ?_;refine jr 1 3 3 _ rfl rfl ?_;refine jr 1 4 12 _ rfl rfl ?_;refine jr 1 5 16 _ rfl rfl ?_
 refine IZ [67] zmx rfl [0,2,3,4,5] (ι:=Nat×aP×Cu bs) (fun x=>[.c (.ptr (1+l,j) 0),.c (.ptr (0,0) 0),.c (.ptr (0,1) 0),.c (.d (.i .i64 n)),.c (.d (.i .i64 x.1))])
  (fun x=>[.box [.d (.s []),.bI [],.bI [],.bI [],.bI [],.bI []],.box [.d (.s [112]),.bI [[.s [99,111,114,101]]],.bX (0,2) (x.2.1.eX.map bG.enc),.bX (0,3) (x.2.1.bM.map bB.enc),.bX (0,4) (x.2.1.bZ.map aH.enc),.bX (0,5) (x.2.1.dK.map bA.enc)],
    .tok 5 (x.2.1.eX.map bG.enc),.tok 3 (x.2.1.bM.map bB.enc),.tok 12 (x.2.1.bZ.map aH.enc),.tok 16 (x.2.1.dK.map bA.enc)]::aX S (l,j) (.box (cur x.2.2)))
  (fun x=>x.1<=n/\Bf (n-x.1) x.2.1 x.2.2=R/\x.2.1.fName=[112]/\x.2.1.iR=[[99,111,114,101]]/\x.2.1.eX.length<=x.1/\x.2.1.bM.length<=x.1/\x.2.1.bZ.length<=x.1/\x.2.1.dK.length<=x.1) (fun x=>n-x.1) (0,EB,c0) rfl rfl ⟨Nat.zero_le _,hR.symm,rfl,rfl,Nat.le_refl _,Nat.le_refl _,Nat.le_refl _,Nat.le_refl _⟩ ?_
 rintro⟨i,⟨pn,pd,pt,pa,pi,pf⟩,d⟩ ⟨p1,p2,p3,p4,p5,p6,p7,p8⟩;simp only at p1 p2 p3 p4 p5 p6 p7 p8;subst p3 p4;simp -implicitDefEqProofs (disch:=omega) only[go_sem,ak,ah]
 with_reducible refine aD (fun hb=> ?_) (fun hb=> ?_)<;>have h:=hb<;>(try simp only[wf_preprocess] at h)<;>simp -implicitDefEqProofs (disch:=omega) only[go_sem,hb,ak,ah]<;>(repeat(with_reducible refine And.intro ?_ ?_;focus first|omega|rfl|assumption|exact⟨_,rfl,rfl⟩|(simp;omega)|(simp;done)))
 ·have ek:n-i=(n-(i+1))+1:=by omega
  rw[ek,Bf] at p2;obtain⟨k,hkd⟩:∃k,k=(aT 4 d).1:=⟨_,rfl⟩;obtain⟨d1,hd1⟩:∃d1,d1=(aT 4 d).2:=⟨_,rfl⟩;have q1:=fun fr:List Ab.Obj=>dY hB d (1+l) j (fr::aX S (l,j) (.box (cur d))) 4 (by rw[aG];exact g _) (by omega) (by omega);simp only[<-hkd,<-hd1,ak,ah] at q1 p2;refine bn rfl (q1 _) ?_;simp -implicitDefEqProofs (disch:=omega) only[go_sem,ak,ah]
  with_reducible refine aD (fun hb=> ?_) (fun hb=> ?_)<;>have h:=hb<;>(try simp only[wf_preprocess] at h)<;>simp -implicitDefEqProofs (disch:=omega) only[go_sem,hb,ak,ah]<;>(repeat(with_reducible refine And.intro ?_ ?_;focus first|omega|rfl|assumption|exact⟨_,rfl,rfl⟩|(simp;omega)|(simp;done)))
  ·subst h;simp only[oN,reduceIte] at p2;refine bn rfl (Tv hB d1 (1+l) j _ (by rw[aG];exact g _)) ?_;simp -implicitDefEqProofs (disch:=omega) only[go_sem,ak,ah]
   (repeat(with_reducible refine And.intro ?_ ?_;focus first|omega|rfl|assumption|exact⟨_,rfl,rfl⟩|(simp;omega)|(simp;done)))
   refine⟨by cases l<;>rfl,?_⟩;simp -implicitDefEqProofs (disch:=omega) only[go_sem,ak,ah];refine fu 6 (by decide) (i+1,⟨_,_,pt++[(wP d1).1],pa,pi,pf⟩,(wP d1).2) (by simp only;omega) rfl ?_ (by cases l<;>rfl) rfl ⟨by simp only;omega,p2,rfl,rfl,by simp only[List.length_append,List.length_cons,List.length_nil];omega,by simp only;omega,by simp only;omega,by simp only;omega⟩;simp only[List.map_append,List.map_cons,List.map_nil];rfl
  have e0:=h
  with_reducible refine aD (fun hb=> ?_) (fun hb=> ?_)<;>have h:=hb<;>(try simp only[wf_preprocess] at h)<;>simp -implicitDefEqProofs (disch:=omega) only[go_sem,hb,ak,ah]<;>(repeat(with_reducible refine And.intro ?_ ?_;focus first|omega|rfl|assumption|exact⟨_,rfl,rfl⟩|(simp;omega)|(simp;done)))
  ·subst h;simp only[oN,reduceIte,Int.reduceEq] at p2;refine bn rfl (XQ hB d1 (1+l) j _ (by rw[aG];exact g _)) ?_;simp -implicitDefEqProofs (disch:=omega) only[go_sem,ak,ah]
   (repeat(with_reducible refine And.intro ?_ ?_;focus first|omega|rfl|assumption|exact⟨_,rfl,rfl⟩|(simp;omega)|(simp;done)))
   refine⟨by cases l<;>rfl,?_⟩;simp -implicitDefEqProofs (disch:=omega) only[go_sem,ak,ah];refine fu 6 (by decide) (i+1,⟨_,_,pt,pa++[(zJ d1).1],pi,pf⟩,(zJ d1).2) (by simp only;omega) rfl ?_ (by cases l<;>rfl) rfl ⟨by simp only;omega,p2,rfl,rfl,by simp only;omega,by simp only[List.length_append,List.length_cons,List.length_nil];omega,by simp only;omega,by simp only;omega⟩;simp only[List.map_append,List.map_cons,List.map_nil];rfl
  have e1:=h
  with_reducible refine aD (fun hb=> ?_) (fun hb=> ?_)<;>have h:=hb<;>(try simp only[wf_preprocess] at h)<;>simp -implicitDefEqProofs (disch:=omega) only[go_sem,hb,ak,ah]<;>(repeat(with_reducible refine And.intro ?_ ?_;focus first|omega|rfl|assumption|exact⟨_,rfl,rfl⟩|(simp;omega)|(simp;done)))
  ·subst h;simp only[oN,reduceIte,Int.reduceEq] at p2;refine bn rfl (XI hB d1 (1+l) j _ (by rw[aG];exact g _)) ?_;simp -implicitDefEqProofs (disch:=omega) only[go_sem,ak,ah]
   (repeat(with_reducible refine And.intro ?_ ?_;focus first|omega|rfl|assumption|exact⟨_,rfl,rfl⟩|(simp;omega)|(simp;done)))
   refine⟨by cases l<;>rfl,?_⟩;simp -implicitDefEqProofs (disch:=omega) only[go_sem,ak,ah];refine fu 6 (by decide) (i+1,⟨_,_,pt,pa,pi++[(instX d1).1],pf⟩,(instX d1).2) (by simp only;omega) rfl ?_ (by cases l<;>rfl) rfl ⟨by simp only;omega,p2,rfl,rfl,by simp only;omega,by simp only;omega,by simp only[List.length_append,List.length_cons,List.length_nil];omega,by simp only;omega⟩;simp only[List.map_append,List.map_cons,List.map_nil,aH.aj,ay.aj,List.cons_append,List.nil_append];rfl
  have e2:=h;simp only[oN,if_neg e0,if_neg e1,if_neg e2] at p2;refine bn rfl (adB hB d1 (1+l) j _ (by rw[aG];exact g _)) ?_;simp -implicitDefEqProofs (disch:=omega) only[go_sem,ak,ah]
  (repeat(with_reducible refine And.intro ?_ ?_;focus first|omega|rfl|assumption|exact⟨_,rfl,rfl⟩|(simp;omega)|(simp;done)))
  refine⟨by cases l<;>rfl,?_⟩;simp -implicitDefEqProofs (disch:=omega) only[go_sem,ak,ah];refine fu 6 (by decide) (i+1,⟨_,_,pt,pa,pi,pf++[(K4 d1).1]⟩,(K4 d1).2) (by simp only;omega) rfl ?_ (by cases l<;>rfl) rfl ⟨by simp only;omega,p2,rfl,rfl,by simp only;omega,by simp only;omega,by simp only;omega,by simp only[List.length_append,List.length_cons,List.length_nil];omega⟩;simp only[List.map_append,List.map_cons,List.map_nil,bA.aj,ay.aj,aC.aj,List.cons_append,List.nil_append];rfl
 ·have ei:n-i=0:=by omega
  rw[ei,Bf] at p2;subst p2;unfold aeg;obtain⟨k,hkd⟩:∃k,k=(aT 10 d).1:=⟨_,rfl⟩;obtain⟨d1,hd1⟩:∃d1,d1=(aT 10 d).2:=⟨_,rfl⟩;have q1:=fun fr:List Ab.Obj=>dY hB d (1+l) j (fr::aX S (l,j) (.box (cur d))) 10 (by rw[aG];exact g _) (by omega) (by omega);simp only[<-hkd,<-hd1,ak,ah] at q1 ⊢;obtain⟨q,hq⟩:∃q,q=MJ ⟨[112],[[99,111,114,101]],pt,pa,pi,pf⟩ k d1:=⟨_,rfl⟩;rw[<-hq];refine bn rfl (q1 _) ?_;simp -implicitDefEqProofs (disch:=omega) only[go_sem,ak,ah]
  with_reducible refine aD (fun hb=> ?_) (fun hb=> ?_)<;>have h:=hb<;>(try simp only[wf_preprocess] at h)<;>simp -implicitDefEqProofs (disch:=omega) only[go_sem,hb,ak,ah]<;>(repeat(with_reducible refine And.intro ?_ ?_;focus first|omega|rfl|assumption|exact⟨_,rfl,rfl⟩|(simp;omega)|(simp;done)))
  ·subst h;simp only[MJ,reduceIte] at hq;refine cu [true] rfl (dS hB d1 (1+l) j _ OX (by rw[aG];exact g _) (by decide) (by decide)) ?_;simp -implicitDefEqProofs (disch:=omega) only[go_sem,ak,ah];rw[hq];exact⟨aF rfl,rfl⟩
  have e0:=h
  with_reducible refine aD (fun hb=> ?_) (fun hb=> ?_)<;>have h:=hb<;>(try simp only[wf_preprocess] at h)<;>simp -implicitDefEqProofs (disch:=omega) only[go_sem,hb,ak,ah]<;>(repeat(with_reducible refine And.intro ?_ ?_;focus first|omega|rfl|assumption|exact⟨_,rfl,rfl⟩|(simp;omega)|(simp;done)))
  ·subst h;simp only[MJ,reduceIte,Int.reduceEq] at hq;refine cu [true] rfl (dS hB d1 (1+l) j _ XT (by rw[aG];exact g _) (by decide) (by decide)) ?_;simp -implicitDefEqProofs (disch:=omega) only[go_sem,ak,ah]
   (repeat(with_reducible refine And.intro ?_ ?_;focus first|omega|rfl|assumption|exact⟨_,rfl,rfl⟩|(simp;omega)|(simp;done)))
   refine⟨by cases l<;>rfl,?_⟩;simp -implicitDefEqProofs (disch:=omega) only[go_sem,ak,ah];rw[hq];exact⟨aF rfl,rfl⟩
  have e1:=h;simp only[MJ,if_neg e0,if_neg e1] at hq;rw[hq];exact⟨aF rfl,rfl⟩
section
variable {P:Program} {N:Nat} {S S':Store} {f:FuncId} {args:List V}
theorem agB{fn:Func}{c:Code}{raw:V->List Obj->Store->Prop}{rs:List ResultVar}(fq:P.follows .mixedOrders=true)(hf:P.funcs[f]? =some fn)(hN:fn.ntmps=N)
 (hb:fn.body=some c) (hn:(fn.name== "runtime.NumGoroutine")=false) (hr:fn.results.toList=rs) (hl:Nat.ble args.length N=true) (hok:oK N c=true)
 (h:mI P N c (Mt P rs raw) ⟨kE (args.map (V.up 1)) 0,[]::S⟩):mY P f args S raw:=by
 subst hN;subst hr;exact F7 hf hb hn (Nat.le_of_ble_eq_true hl) (pz fq c _ _ hok h)
theorem mY.aj5{z:Nat}{es:List (List D)}{i:Int}(ht:yO S'=true)(h:mY P f args S fun r own S1=>S1=S'/\∃x,r=.eH [(true,[x]),(false,[.d (.i .i64 i)])]/\Cm own x z es):
 cB P f args S fun r S1=>r=.eH [(true,[.bX (0,wK S') es]),(false,[.d (.i .i64 i)])]/\S1=Hg S' [.tok z es]:=by
 refine⟨h.1,fun w σ β vs hS hv=>(h.2 w σ β vs hS hv).mono fun e w' ⟨v,r,own,S1,bo,β1,σ',q1,q2,q3,q4,q5,q6,x,q7,q8⟩=> ?_⟩;subst q6 q7;obtain⟨a,rfl,hl,hc⟩:=q5;obtain⟨u0,hu0,a0,rfl,hcs⟩:=hc 0 _ rfl;obtain⟨u1,hu1,y1,hy1,hr1,ho1⟩:=hc 1 _ rfl;cases hy1;obtain⟨u,e1,e2,e3⟩:=hcs.2 0 _ rfl;obtain⟨k1,k2⟩:=Eh q2 q8 e2
 cases S1 with
 |nil=>cases ht
 |cons fr Ω=>
 have hd:=q2.Dx
 obtain⟨bf,bΩ,rfl,hlen⟩:∃bf bΩ,β1=bf::bΩ/\bf.length=fr.length:=by
  cases β1 with
  |nil=>have:=hd.shape.1;simp at this
  |cons bf bΩ=>
   refine⟨bf,bΩ,rfl,?_⟩;obtain⟨gr,q1,q2⟩:=hd.shape.2 0 fr rfl;simp at q1;rw[q1];exact q2
 obtain⟨l1,l2,l3⟩:=hd.lay (o:=.tok z es) (h:=u) hlen (k1 _ _) fun b hb ⟨k,o,hh,f1,f2,f3⟩=>by
  obtain⟨m,g1,g2,g3⟩:=k2 b hb;have:=q2.apart (0,m) (k.1+1,k.2) _ o u hh b (by rw[bD];exact g1) (by rw[bD];exact g3) hb (by rw[bY];exact f1) (by rw[bY];exact f2) f3;cases this
 refine⟨_,.eH [(true,[.bX (0,wK (fr::Ω)) es]),(false,[.d (.i .i64 i)])],_,σ',_,q1,l1,q3.trans l2,⟨q4.size,q4.os,q4.output,q4.far,q4.near,fun b hb=> ?_⟩,⟨a,rfl,hl,fun j y hy=> ?_⟩,rfl,rfl⟩
 ·rcases l3 b hb with q|q
  ·exact q4.own b (sV q)
  ·obtain⟨m,g1,g2,g3⟩:=k2 b q;exact q4.own b ⟨(0,m),_,u,by rw[bD];exact g1,by rw[bD];exact g3,q⟩
 ·match j,hy with
  |0,hy=>
   cases hy;refine⟨_,hu0,a0,rfl,hcs.1,fun j x hx=> ?_⟩
   match j,hx with
   |0,hx=>
    cases hx;refine⟨u,e1,⟨tV q8 e2,_,by rw[mP];exact dH _ _ _,fun aY es' e=> ?_⟩,e3⟩;obtain⟨_,rfl⟩:=pX (lab:=none) e;exact⟨Nat.le_refl _,fun _=>by rw[mP,<-hlen,dH]⟩
   |j+1,hx=>simp at hx
  |1,hy=>
   cases hy;exact⟨u1,hu1,_,rfl,hr1,ho1⟩
  |j+2,hy=>simp at hy
end
noncomputable def Bg{bs:List Int}(c:Cu bs):bR×Cu bs:=
 if(bW 5 (jF c).2).1=true then(⟨(Gs (jF c).1).bJ++[(Ju (bW 5 (jF c).2).2).1]⟩,(Ju (bW 5 (jF c).2).2).2) else(Gs (jF c).1,(bW 5 (jF c).2).2)
theorem aaU{bs:List Int}(c:Cu bs):(Bg c).1.sz<=1100000:=by
 have h1:=aaP (jF c).1;have h2:=agA (bW 5 (jF c).2).2;unfold Bg;split
 ·obtain⟨l,hl⟩:∃l,l=(Gs (jF c).1).bJ:=⟨_,rfl⟩
  have h3:(bR.mk l).sz<=1048576:=by rw[hl];exact h1
  rw[<-hl];simp only[bR.sz,bR.aj,bF,D.sz,List.length_map,List.map_append,pO,List.map_cons,List.map_nil,aI,aP.cK,List.length_append,List.length_cons,List.length_nil] at h3 ⊢;omega
 ·show(Gs (jF c).1).sz<=_;omega
theorem MK(s:List UInt8)(hs:s.length<=1048576)(S:Store):mY prog 127 [.c (.d (.s s))] S (fun r own S1=>S1=S/\∃x,r=.eH [(true,[x]),(false,[.d (.i .i64 (aip s))])]/\Cm own x 6 ((Gs s).bJ.map aP.enc)):=by
 have hl0:=MI 10 s [];unfold Gs aip;obtain⟨L,hL⟩:∃L,L=spl 10 [] s:=⟨_,rfl⟩;have hsp:=RN s 10 hs;rw[show(10:UInt8).toNat=10 from rfl] at hsp;rw[<-hL] at hsp hl0 ⊢;refine agB (rs:=[.cell 2 26,.tmp 3]) zmx func127 ntmps127 rfl rfl rfl rfl rfl ?_;simp -implicitDefEqProofs (disch:=omega) only[go_sem];refine aB hsp ?_;simp -implicitDefEqProofs (disch:=omega) only[go_sem];refine jr 1 0 6 _ rfl rfl ?_
 refine AL (ι:=Nat×List aP) zmx rfl [2,4,5,6] (fun y=>[.c (.ptr (0,0) 0),.c (.ptr (0,1) 0),.c (.d (.sl (L.map encS))),.c (.d (.i .i64 y.1))])
  (fun y=>[.box [.bI []],.box [.bX (0,2) (y.2.map aP.enc)],.tok 6 (y.2.map aP.enc)]::S)
  (fun y=>y.1<=L.length/\y.2.length<=5/\rZ (L.drop y.1) y.2=rZ L []) (fun y=>L.length-y.1) (0,[]) rfl rfl ⟨Nat.zero_le _,by decide,rfl⟩ ?_
 rintro⟨i,acc⟩ ⟨p1,p2,p3⟩;simp only at p1 p2 p3;simp -implicitDefEqProofs (disch:=omega) only[go_sem,encS]
 with_reducible refine aD (fun hb=> ?_) (fun hb=> ?_)<;>have h:=hb<;>(try simp only[wf_preprocess] at h)<;>simp -implicitDefEqProofs (disch:=omega) only[go_sem,hb,encS]<;>(repeat(with_reducible refine And.intro ?_ ?_;focus first|omega|rfl|assumption|exact⟨_,rfl,rfl⟩|(simp;omega)|(simp;done)))
 ·have hi:i<L.length:=by omega
  have hll:L[i].length<=1048576:=by have:=hl0.2 L[i] (List.getElem_mem hi);simp only[List.length_nil] at this;omega
  rw[List.drop_eq_getElem_cons hi,rZ] at p3
  (repeat(with_reducible refine And.intro ?_ ?_;focus first|omega|rfl|assumption|exact⟨_,rfl,rfl⟩|(simp;omega)|(simp;done)))
  refine aB (RL L[i] (by omega)) ?_;simp -implicitDefEqProofs (disch:=omega) only[go_sem,encS]
  with_reducible refine aD (fun hb=> ?_) (fun hb=> ?_)<;>have h:=hb<;>(try simp only[wf_preprocess] at h)<;>simp -implicitDefEqProofs (disch:=omega) only[go_sem,hb,encS]<;>(repeat(with_reducible refine And.intro ?_ ?_;focus first|omega|rfl|assumption|exact⟨_,rfl,rfl⟩|(simp;omega)|(simp;done)))
  ·rw[if_pos h] at p3;exact dG (i+1,acc) (by simp only;omega) rfl rfl ⟨by simp only;omega,p2,p3⟩
  rw[if_neg (by rw[h];decide)] at p3
  (repeat(with_reducible refine And.intro ?_ ?_;focus first|omega|rfl|assumption|exact⟨_,rfl,rfl⟩|(simp;omega)|(simp;done)))
  refine aB (Oz L[i] hll) ?_;simp -implicitDefEqProofs (disch:=omega) only[go_sem,aP.cv]
  with_reducible refine aD (fun hb=> ?_) (fun hb=> ?_)<;>have h:=hb<;>(try simp only[wf_preprocess] at h)<;>simp -implicitDefEqProofs (disch:=omega) only[go_sem,hb]<;>(repeat(with_reducible refine And.intro ?_ ?_;focus first|omega|rfl|assumption|exact⟨_,rfl,rfl⟩|(simp;omega)|(simp;done)))
  ·rw[if_neg (by rw[h];intro e;cases e.1)] at p3
   (repeat(with_reducible refine And.intro ?_ ?_;focus first|omega|rfl|assumption|exact⟨_,rfl,rfl⟩|(simp;omega)|(simp;done)))
   refine⟨by rfl,?_⟩;simp -implicitDefEqProofs (disch:=omega) only[go_sem];rw[<-p3];exact⟨_,rfl,.inr ⟨rfl,fun e he=>by cases he⟩⟩
  have hok:=h
  with_reducible refine aD (fun hb=> ?_) (fun hb=> ?_)<;>have h:=hb<;>(try simp only[wf_preprocess] at h)<;>simp -implicitDefEqProofs (disch:=omega) only[go_sem,hb]<;>(repeat(with_reducible refine And.intro ?_ ?_;focus first|omega|rfl|assumption|exact⟨_,rfl,rfl⟩|(simp;omega)|(simp;done)))
  ·rw[if_neg (by intro e;exact e.2 (by omega))] at p3
   (repeat(with_reducible refine And.intro ?_ ?_;focus first|omega|rfl|assumption|exact⟨_,rfl,rfl⟩|(simp;omega)|(simp;done)))
   refine⟨by rfl,?_⟩;simp -implicitDefEqProofs (disch:=omega) only[go_sem];rw[<-p3];exact⟨_,rfl,.inr ⟨rfl,fun e he=>by cases he⟩⟩
  have h5:=h;rw[if_pos ⟨hok,by omega⟩] at p3
  (repeat(with_reducible refine And.intro ?_ ?_;focus first|omega|rfl|assumption|exact⟨_,rfl,rfl⟩|(simp;omega)|(simp;done)))
  rw[aaQ];exact fu 3 (by decide) (i+1,acc++[Gq L[i]]) (by simp only;omega) rfl rfl rfl rfl ⟨by simp only;omega,by simp only[List.length_append,List.length_singleton];omega,p3⟩
 ·have hi:i=L.length:=by omega
  subst hi;rw[List.drop_length,rZ] at p3;rw[<-p3];exact⟨_,rfl,.inl ⟨2,rfl,rfl⟩⟩
theorem TM{bs:List Int}(hB:Bytes bs)(c:Cu bs)(l j:Nat)(S:Store)(hk:bg S (l,j)=some (.box (cur c))):
 mY prog 82 [.c (.ptr (l,j) 0)] S (fun r own S1=>S1=aX S (l,j) (.box (cur (jF c).2))/\∃x,r=.agg ([]++x::[])/\Cm own x 6 ((Gs (jF c).1).bJ.map aP.enc)):=by
 have hwl:=XG c;have q1:=fun fr:List Ab.Obj=>TH hB c (1+l) j (fr::S) (by rw[aG];exact hk);obtain⟨s,hs⟩:∃s,s=(jF c).1:=⟨_,rfl⟩;obtain⟨c1,hc1⟩:∃c1,c1=(jF c).2:=⟨_,rfl⟩;simp only[<-hs,<-hc1,ak] at q1 hwl ⊢;have q2:=fun own:List Ab.Obj=>mY.aj5 (S':=own::aX S (l,j) (.box (cur c1))) rfl (MK s (by omega) (own::aX S (l,j) (.box (cur c1))));simp only[zF,mP,List.cons_append,List.nil_append] at q2;refine Us [67] (rs:=[.cell 2 26]) zmx func82 ntmps82 rfl rfl rfl rfl rfl ?_;simp -implicitDefEqProofs (disch:=omega) only[go_sem];refine bn rfl (q1 _) ?_;simp -implicitDefEqProofs (disch:=omega) only[go_sem];refine bn rfl (q2 _) ?_;simp -implicitDefEqProofs (disch:=omega) only[go_sem]
 first|exact⟨_,rfl,.inl ⟨1,rfl,rfl⟩⟩|exact⟨rfl,_,rfl,.inl ⟨1,rfl,rfl⟩⟩
theorem TN{bs:List Int}(hB:Bytes bs)(c:Cu bs)(l j:Nat)(S:Store)(hk:bg S (l,j)=some (.box (cur c))):
 cB prog 43 [.c (.ptr (l,j) 0)] S (fun r S1=>r=(Bg c).1.v/\S1=aX S (l,j) (.box (cur (Bg c).2))):=by
 have g:∀x:Ab.Obj,bg (aX S (l,j) x) (l,j)=some x:=fun x=>dn _ _ _ _ hk;have hws:=aaP (jF c).1
 have q1:=fun own:List Ab.Obj=>mY.push (pre:=[]) (post:=[]) rfl rfl (S':=own::aX S (l,j) (.box (cur (jF c).2))) rfl (by
  have:=TM hB c (1+l) j (own::S) (by rw[aG];exact hk);rw[ak] at this
  exact this)
 unfold Bg;obtain⟨L,hL⟩:∃L,L=(Gs (jF c).1).bJ:=⟨_,rfl⟩
 have hR:Gs (jF c).1=⟨L⟩:=by rw[hL]
 obtain⟨c1,hc1⟩:∃c1,c1=(jF c).2:=⟨_,rfl⟩
 have hLl:L.length<=1048576:=by
  rw[hR] at hws;simp only[bR.sz,bR.aj,bF,D.sz,List.length_map] at hws;omega
 rw[hR];simp only[<-hL,<-hc1,zF,mP,List.cons_append,List.nil_append] at q1 ⊢;have q2:=fun fr:List Ab.Obj=>iD hB c1 (1+l) j (fr::aX S (l,j) (.box (cur c1))) 5 (by rw[aG];exact g _) (by omega) (by omega);obtain⟨o,ho⟩:∃o,o=(bW 5 c1).1:=⟨_,rfl⟩;obtain⟨c2,hc2⟩:∃c2,c2=(bW 5 c1).2:=⟨_,rfl⟩;simp only[<-ho,<-hc2,ak,ah] at q2 ⊢;have q3:=fun fr:List Ab.Obj=>aaT hB c2 (1+l) j (fr::aX S (l,j) (.box (cur c2))) (by rw[aG];exact g _);simp only[ak,ah] at q3;refine cB.of_le ?_;refine oZ [67] (rs:=[.cell 2 26]) zmx func43 ntmps43 rfl rfl rfl rfl rfl ?_;simp -implicitDefEqProofs (disch:=omega) only[go_sem];refine bn rfl (q1 _) ?_;simp -implicitDefEqProofs (disch:=omega) only[go_sem];refine bn rfl (q2 _) ?_
 cases o with
 |true=>
  simp -implicitDefEqProofs (disch:=omega) only[go_sem,ak,ah];refine bn rfl (q3 _) ?_;simp -implicitDefEqProofs (disch:=omega) only[go_sem,ak,ah]
  (repeat(with_reducible refine And.intro ?_ ?_;focus first|omega|rfl|assumption|exact⟨_,rfl,rfl⟩|(simp;omega)|(simp;done)))
  refine⟨by cases l<;>rfl,?_⟩;simp -implicitDefEqProofs (disch:=omega) only[go_sem,ak,ah];refine aF ?_;simp only[bR.v,List.map_append,List.map_cons,List.map_nil];rfl
 |false=>
  simp -implicitDefEqProofs (disch:=omega) only[go_sem,ak,ah];exact aF rfl
def air(w:bR)(p:Nat):List (List UInt8):=match w.bJ[p]? with
 |some q=>q.iR
 |none=>[]
def Edge(w:bR)(p j:Nat):Prop:=j<p/\∃d∈air w p,ad9 w d=(j:Int)
inductive wY(w:bR):Nat->Nat->Prop
 |refl (p:Nat):wY w p p
 |step {p j k:Nat} (h:Edge w p j) (hk:wY w j k):wY w p k
theorem wY.le{w:bR}{p k:Nat}(h:wY w p k):k<=p:=by
 induction h with
 |refl p=>exact Nat.le_refl _
 |step h _ ih=>have:=h.1;omega
theorem wY.trans{w:bR}{p j k:Nat}(h:wY w p j)(h':wY w j k):wY w p k:=by
 induction h with
 |refl p=>exact h'
 |step e _ ih=>exact .step e (ih h')
theorem wY.snoc{w:bR}{p j k:Nat}(h:wY w p j)(e:Edge w j k):wY w p k:=h.trans (.step e (.refl k))
theorem wY.last{w:bR}{i k:Nat}(h:wY w i k):k=i\/∃p,wY w i p/\Edge w p k:=by
 induction h with
 |refl p=>exact .inl rfl
 | @step p j k e hk ih=>
   right;rcases ih with rfl|⟨q,h1,h2⟩
   ·exact⟨p,.refl p,e⟩
   ·exact⟨q,.step e h1,h2⟩
theorem wY.first{w:bR}{p k:Nat}(h:k<p):wY w p k<->∃j,Edge w p j/\wY w j k:=by
 constructor
 ·intro hv
  cases hv with
  |refl=>omega
  |step e hk=>exact⟨_,e,hk⟩
 ·rintro⟨j,e,hk⟩;exact .step e hk
def mF(p:Nat)(n:Nat):List bH:=(List.range n).map fun j:Nat=>⟨(p:Int),(j:Int)⟩
theorem EC:∀a b:List (List D),aI (a++b)=aI a+aI b
 |[],b=>by simp[aI]
 |r::a,b=>by rw[List.cons_append,aI,aI,EC a b];omega
def allI(ps:List aP):Nat->List bH
 |0=>[]
 |m+1=>allI ps m++mF m ((ps.getD m ⟨[],[],[],[],[],[]⟩).bZ.length)
theorem yX(p n:Nat):(mF p n).length=n:=by simp[mF]
theorem XV(p n:Nat):mF p n++[⟨p,n⟩]=mF p (n+1):=by simp[mF,List.range_succ]
theorem xS{ps:List aP}{m:Nat}(h:m<ps.length):allI ps (m+1)=allI ps m++mF m ps[m].bZ.length:=by
 rw[allI,List.getD_eq_getElem?_getD,List.getElem?_eq_getElem h];rfl
theorem aP.inst_len(x:aP):x.bZ.length<=x.sz:=by
 simp only[aP.sz,aP.aj,bF,D.sz,List.length_map];omega
theorem RO{ps:List aP}:∀m,m<=ps.length->(allI ps m).length<=aI ((ps.take m).map aP.enc)
 |0,_=>Nat.zero_le _
 |m+1,h=>by
  have h1:=RO (ps:=ps) m (by omega);have h2:=aP.inst_len ps[m];rw[xS (by omega),List.length_append,yX,List.take_succ_eq_append_getElem (by omega),List.map_append,EC,List.map_cons,List.map_nil,aI,aI,aP.cK];omega
theorem ML{ps:List aP}(m:Nat)(h:m<=ps.length):(allI ps m).length<=aI (ps.map aP.enc):=by
 have h1:=RO m h
 have h2:aI (ps.map aP.enc)=aI ((ps.take m).map aP.enc)+aI ((ps.drop m).map aP.enc):=by
  rw[<-EC,<-List.map_append,List.take_append_drop]
 omega
theorem aeQ(xs:List bH)(p n:Nat):(xs++mF p n).map bH.enc++[[D.i .i64 p,D.i .i64 n]]=(xs++mF p (n+1)).map bH.enc:=by
 rw[<-XV,<-List.append_assoc,List.map_append (l₁:=xs++mF p n)];rfl
theorem XW(w:bR)(hsz:w.sz<=4194304):bq prog 16 [w.v] (.c (.d (.sl ((allI w.bJ w.bJ.length).map bH.enc)))):=fun S=>by
 have hb0:=bR.bounds hsz
 have hsr:aI (w.bJ.map aP.enc)<=4194304:=by
  have:w.sz=w.bJ.length+aI (w.bJ.map aP.enc):=by simp[bR.sz,bR.aj,bF,D.sz]
  omega
 refine zcx [.tmp 2] func16 ntmps16 ?_;simp -implicitDefEqProofs (disch:=omega) only[go_sem]
 (repeat(with_reducible refine And.intro ?_ ?_;focus first|omega|rfl|assumption|exact⟨_,rfl,rfl⟩|(simp;omega)|(simp;done)))
 refine lq 3 2 [] rfl (by simp) ?_
 refine bT (ι:=Nat) zmx rfl [3,9,10,11] (fun i=>[.c (.bX (0,1) ((allI w.bJ i).map bH.enc)),.c (.d (.sl (w.bJ.map aP.enc))),.c (.d (.i .i64 w.bJ.length)),.c (.d (.i .i64 i))]) (fun i=>[.box (w.enc.map .d),.tok 2 ((allI w.bJ i).map bH.enc)]::S)
  (fun i=>i<=w.bJ.length) (fun i=>w.bJ.length-i) 0 ?_ ?_ (Nat.zero_le _) ?_
 ·rfl
 ·simp -implicitDefEqProofs (disch:=omega) only[go_sem];rfl
 intro i hi
 have refs:∀a b,ny 2 (jC [3,9,10,11] [.c (.bX (0,1) a),.c (.d (.sl (w.bJ.map aP.enc))),.c (.d (.i .i64 w.bJ.length)),.c (.d (.i .i64 b))])=true:=fun a b=>by simp[ny,jC,V.refs,C.refs,oH]
 simp -implicitDefEqProofs (disch:=omega) only[go_sem]
 with_reducible refine aD (fun hb=> ?_) (fun hb=> ?_)<;>have h:=hb<;>(try simp only[wf_preprocess] at h)<;>simp -implicitDefEqProofs (disch:=omega) only[go_sem,hb]<;>(repeat(with_reducible refine And.intro ?_ ?_;focus first|omega|rfl|assumption|exact⟨_,rfl,rfl⟩|(simp;omega)|(simp;done)))
 ·have hi':i<w.bJ.length:=by omega
  have hne:=ML (ps:=w.bJ) (i+1) (by omega);rw[xS hi',List.length_append,yX] at hne
  (repeat(with_reducible refine And.intro ?_ ?_;focus first|omega|rfl|assumption|exact⟨_,rfl,rfl⟩|(simp;omega)|(simp;done)))
  refine bT (ι:=Nat) zmx rfl [3,4,9,10,11,18,19] (fun j=>[.c (.bX (0,1) ((allI w.bJ i++mF i j).map bH.enc)),.c (.d (.i .i64 i)),.c (.d (.sl (w.bJ.map aP.enc))),.c (.d (.i .i64 w.bJ.length)),.c (.d (.i .i64 i)),.c (.d (.i .i64 w.bJ[i].bZ.length)),.c (.d (.i .i64 j))])
   (fun j=>[.box (w.enc.map .d),.tok 2 ((allI w.bJ i++mF i j).map bH.enc),.box (w.bJ[i].enc.map .d)]::S)
   (fun j=>j<=w.bJ[i].bZ.length) (fun j=>w.bJ[i].bZ.length-j) 0 ?_ ?_ (Nat.zero_le _) ?_
  ·rw[show mF i 0=[] from rfl,List.append_nil];rfl
  ·rw[show mF i 0=[] from rfl,List.append_nil];simp -implicitDefEqProofs (disch:=omega) only[go_sem]
  intro j hj;have hjl:=yX i j;simp -implicitDefEqProofs (disch:=omega) only[go_sem]
  with_reducible refine aD (fun hb=> ?_) (fun hb=> ?_)<;>have h:=hb<;>(try simp only[wf_preprocess] at h)<;>simp -implicitDefEqProofs (disch:=omega) only[go_sem,hb]<;>(repeat(with_reducible refine And.intro ?_ ?_;focus first|omega|rfl|assumption|exact⟨_,rfl,rfl⟩|(simp;omega)|(simp;done)))
  ·have hj':j<w.bJ[i].bZ.length:=by omega
   (repeat(with_reducible refine And.intro ?_ ?_;focus first|omega|rfl|assumption|exact⟨_,rfl,rfl⟩|(simp;omega)|(simp;done)))
   rw[aeQ];exact dG (j+1) (by omega) rfl rfl (by omega)
  ·have ej:j=w.bJ[i].bZ.length:=by omega
   subst ej;rw[<-xS hi'];exact fu 2 (by decide) (i+1) (by omega) rfl rfl (refs _ _) rfl (by omega)
 ·have ei:i=w.bJ.length:=by omega
  rw[ei]
theorem XY(w:bR)(hsz:w.sz<=4194304):bq prog 18 [w.v] (.c (.d (.sl ((allI w.bJ w.bJ.length).map bH.enc)))):=fun S=>by
 have hb0:=bR.bounds hsz
 have hsr:aI (w.bJ.map aP.enc)<=4194304:=by
  have:w.sz=w.bJ.length+aI (w.bJ.map aP.enc):=by simp[bR.sz,bR.aj,bF,D.sz]
  omega
 refine zcx [.tmp 2] func18 ntmps18 ?_;simp -implicitDefEqProofs (disch:=omega) only[go_sem]
 (repeat(with_reducible refine And.intro ?_ ?_;focus first|omega|rfl|assumption|exact⟨_,rfl,rfl⟩|(simp;omega)|(simp;done)))
 refine lq 3 2 [] rfl (by simp) ?_
 refine bT (ι:=Nat) zmx rfl [1,3,4] (fun i=>[.c (.ptr (0,0) 0),.c (.bX (0,1) ((allI w.bJ i).map bH.enc)),.c (.d (.i .i64 i))]) (fun i=>[.box (w.enc.map .d),.tok 2 ((allI w.bJ i).map bH.enc)]::S)
  (fun i=>i<=w.bJ.length) (fun i=>w.bJ.length-i) 0 ?_ ?_ (Nat.zero_le _) ?_
 ·rfl
 ·simp -implicitDefEqProofs (disch:=omega) only[go_sem];rfl
 intro i hi;simp -implicitDefEqProofs (disch:=omega) only[go_sem]
 with_reducible refine aD (fun hb=> ?_) (fun hb=> ?_)<;>have h:=hb<;>(try simp only[wf_preprocess] at h)<;>simp -implicitDefEqProofs (disch:=omega) only[go_sem,hb]<;>(repeat(with_reducible refine And.intro ?_ ?_;focus first|omega|rfl|assumption|exact⟨_,rfl,rfl⟩|(simp;omega)|(simp;done)))
 ·have hi':i<w.bJ.length:=by omega
  have hne:=ML (ps:=w.bJ) (i+1) (by omega);rw[xS hi',List.length_append,yX] at hne
  refine bT (ι:=Nat) zmx rfl [1,3,4,5] (fun j=>[.c (.ptr (0,0) 0),.c (.bX (0,1) ((allI w.bJ i++mF i j).map bH.enc)),.c (.d (.i .i64 i)),.c (.d (.i .i64 j))])
   (fun j=>[.box (w.enc.map .d),.tok 2 ((allI w.bJ i++mF i j).map bH.enc)]::S)
   (fun j=>j<=w.bJ[i].bZ.length) (fun j=>w.bJ[i].bZ.length-j) 0 ?_ ?_ (Nat.zero_le _) ?_
  ·rw[show mF i 0=[] from rfl,List.append_nil];rfl
  ·rw[show mF i 0=[] from rfl,List.append_nil];simp -implicitDefEqProofs (disch:=omega) only[go_sem]
  intro j hj;have hjl:=yX i j;simp -implicitDefEqProofs (disch:=omega) only[go_sem]
  (repeat(with_reducible refine And.intro ?_ ?_;focus first|omega|rfl|assumption|exact⟨_,rfl,rfl⟩|(simp;omega)|(simp;done)))
  with_reducible refine aD (fun hb=> ?_) (fun hb=> ?_)<;>have h:=hb<;>(try simp only[wf_preprocess] at h)<;>simp -implicitDefEqProofs (disch:=omega) only[go_sem,hb]<;>(repeat(with_reducible refine And.intro ?_ ?_;focus first|omega|rfl|assumption|exact⟨_,rfl,rfl⟩|(simp;omega)|(simp;done)))
  ·have hj':j<w.bJ[i].bZ.length:=by omega
   (repeat(with_reducible refine And.intro ?_ ?_;focus first|omega|rfl|assumption|exact⟨_,rfl,rfl⟩|(simp;omega)|(simp;done)))
   rw[aeQ];exact dG (j+1) (by omega) rfl rfl (by omega)
  ·have ej:j=w.bJ[i].bZ.length:=by omega
   subst ej;rw[<-xS hi'];exact dG (i+1) (by omega) rfl rfl (by omega)
 ·have ei:i=w.bJ.length:=by omega
  rw[ei]
theorem MN(x:aC)(n:Nat):fV x.enc n=[.i .i64 x.aR,.s x.bU,.s x.fName,.i .i64 x.fN,.i .i64 x.fType.aR,.s x.fType.fName,.ol n (eu (x.fType.fArgs.map ay.enc) (n+1)),
 .ol (n+(gQ (x.fType.fArgs.map ay.enc)+1)) (eu (x.fArgs.map aC.enc) (n+(gQ (x.fType.fArgs.map ay.enc)+1)+1)),
 .ol (n+(gQ (x.fType.fArgs.map ay.enc)+1)+(gQ (x.fArgs.map aC.enc)+1)) (eu (x.bE.map aZ.enc) (n+(gQ (x.fType.fArgs.map ay.enc)+1)+(gQ (x.fArgs.map aC.enc)+1)+1))]:=by
 simp only[aC.aj,ay.aj,List.cons_append,List.nil_append,fV,jQ,qz,Nat.add_zero]
theorem Jv(x:ay)(n:Nat):fV x.enc n=[.i .i64 x.aR,.s x.fName,.ol n (eu (x.fArgs.map ay.enc) (n+1))]:=by
 simp only[ay.aj,fV,jQ,qz,Nat.add_zero]
theorem MO(xs:List aM)(n:Nat)(hsz:xs.length+aI (xs.map aM.enc)<=4194304):bq prog 85 [.c (.d (.sl (xs.map aM.enc)))] (.c (.d (jQ (.sl (xs.map aM.enc)) n))):=by
 obtain⟨T,hT⟩:∃T,T=eu (xs.map aM.enc) (n+1):=⟨_,rfl⟩
 have iE:T.length=xs.length:=by rw[hT,mM,List.length_map]
 show bq prog 85 [.c (.d (.sl (xs.map aM.enc)))] (.c (.d (.ol n (eu (xs.map aM.enc) (n+1)))));rw[<-hT];intro S;refine D7 (n) (rs:=[.tmp 2]) zmx func85 ntmps85 rfl rfl rfl rfl rfl ?_;simp -implicitDefEqProofs (disch:=omega) only[go_sem]
 (repeat(with_reducible refine And.intro ?_ ?_;focus first|omega|rfl|assumption|exact⟨_,rfl,rfl⟩|(simp;omega)|(simp;done)))
 refine AL (ι:=Nat×List (List D)) zmx rfl [3,9,10,11] (fun y=>[.c (.iH (0,1)),.c (.d (.sl (xs.map aM.enc))),.c (.d (.i .i64 xs.length)),.c (.d (.i .i64 y.1))]) (fun y=>[.seed n,.eO 4 y.2]::S)
  (fun y=>y.1<=xs.length/\mH 4 y.1 y.2 T) (fun y=>xs.length-y.1) (0,_) rfl rfl ⟨Nat.zero_le _,mH.start (by simp[iE]) rfl⟩ ?_
 rintro⟨i,R⟩ ⟨p1,p2⟩;simp only at p1 p2;simp -implicitDefEqProofs (disch:=omega) only[go_sem]
 with_reducible refine aD (fun hb=> ?_) (fun hb=> ?_)<;>have h:=hb<;>(try simp only[wf_preprocess] at h)<;>simp -implicitDefEqProofs (disch:=omega) only[go_sem,hb]<;>(repeat(with_reducible refine And.intro ?_ ?_;focus first|omega|rfl|assumption|exact⟨_,rfl,rfl⟩|(simp;omega)|(simp;done)))
 ·have hi:i<xs.length:=by omega
  have hir:i<(xs.map aM.enc).length:=by rw[List.length_map];exact hi
  have hR:=p2.1;rw[iE] at hR;obtain⟨q,hq⟩:∃q,q=n+1+gQ ((xs.map aM.enc).take i):=⟨_,rfl⟩
  have AO:T[i]? =some [.s xs[i].bU,.i .i64 xs[i].fType.aR,.s xs[i].fType.fName,.ol q (eu (xs[i].fType.fArgs.map ay.enc) (q+1))]:=by
   rw[hT,xG hir,List.getElem_map,<-hq];simp only[aM.aj,ay.aj,List.cons_append,List.nil_append,fV,jQ,qz,Nat.add_zero]
  have hx:xs[i].sz<=aI (xs.map aM.enc):=dV (List.mem_map_of_mem (List.getElem_mem hi));simp only[aM.sz,aM.aj,bF,bL,D.sz,List.length_map,ay.cK,List.cons_append,List.nil_append] at hx;have hc:=wF xs[i].fType q (by omega);rw[Jv] at hc
  (repeat(with_reducible refine And.intro ?_ ?_;focus first|omega|rfl|assumption|exact⟨_,rfl,rfl⟩|(simp;omega)|(simp;done)))
  refine aB hc ?_;simp -implicitDefEqProofs (disch:=omega) only[go_sem]
  (repeat(with_reducible refine And.intro ?_ ?_;focus first|omega|rfl|assumption|exact⟨_,rfl,rfl⟩|(simp;omega)|(simp;done)))
  refine⟨by rfl,?_⟩;simp -implicitDefEqProofs (disch:=omega) only[go_sem]
  (repeat(with_reducible refine And.intro ?_ ?_;focus first|omega|rfl|assumption|exact⟨_,rfl,rfl⟩|(simp;omega)|(simp;done)))
  refine fu 2 (by decide) (i+1,_) (by simp only;omega) rfl rfl ?_ rfl ⟨by simp only;omega,p2.step AO rfl⟩;simp[ny,jC,V.refs,C.refs,oH]
 ·have hi:i=xs.length:=by omega
  rw[p2.done (by omega)]
theorem ET:∀N:Nat,(∀x:aC,SizeOf.sizeOf x<N->∀n:Nat,x.sz<=4194304->bq prog 86 [x.v] (.agg ((fV x.enc n).map .d)))/\
 (∀xs:List aC,SizeOf.sizeOf xs<N->∀n:Nat,xs.length+aI (xs.map aC.enc)<=4194304->bq prog 129 [.c (.d (.sl (xs.map aC.enc)))] (.c (.d (jQ (.sl (xs.map aC.enc)) n))))
 |0=>⟨fun x h=>by omega,fun x h=>by omega⟩
 |N+1=>by
  obtain⟨ih,yL⟩:=ET N;refine⟨fun x hn n hsz=> ?_,fun xs hn n hsz=> ?_⟩
  ·have oF:=aC.kQ x;have KO:=aC.zP x
   have hz:x.fType.sz<=4194304/\x.fArgs.length+aI (x.fArgs.map aC.enc)<=4194304/\x.bE.length+aI (x.bE.map aZ.enc)<=4194304:=by
    simp only[aC.sz,aC.aj,bF,bL,D.sz,List.length_map,ay.cK] at hsz;omega
   rw[MN];obtain⟨n1,h1⟩:∃n1,n1=n+(gQ (x.fType.fArgs.map ay.enc)+1):=⟨_,rfl⟩;obtain⟨m,hm⟩:∃m,m=n1+(gQ (x.fArgs.map aC.enc)+1):=⟨_,rfl⟩;rw[<-h1,<-hm];obtain⟨T,hT⟩:∃T,T=eu (x.bE.map aZ.enc) (m+1):=⟨_,rfl⟩
   have iE:T.length=x.bE.length:=by rw[hT,mM,List.length_map]
   rw[<-hT];have hc1:=wF x.fType n hz.1;rw[Jv] at hc1;have hc2:=yL x.fArgs (by omega) n1 hz.2.1;intro S;refine D7 (m) (rs:=[.cell 2 115]) zmx func86 ntmps86 rfl rfl rfl rfl rfl ?_;simp -implicitDefEqProofs (disch:=omega) only[go_sem];refine aB hc1 ?_;simp -implicitDefEqProofs (disch:=omega) only[go_sem];refine aB hc2 ?_;simp -implicitDefEqProofs (disch:=omega) only[go_sem,jQ]
   (repeat(with_reducible refine And.intro ?_ ?_;focus first|omega|rfl|assumption|exact⟨_,rfl,rfl⟩|(simp;omega)|(simp;done)))
   obtain⟨L,hL⟩:∃L:Nat->Nat,L=fun i=>m+1+gQ ((x.bE.map aZ.enc).take i):=⟨_,rfl⟩;refine Yr (L 0) ?_
   refine AL (ι:=Nat×List (List D)) zmx rfl [1,2,3,19,20,21] (fun y=>[.c (.ptr (0,1) 0),.c (.ptr (0,2) 0),.c (.iH (0,3)),.c (.d (.sl (x.bE.map aZ.enc))),.c (.d (.i .i64 x.bE.length)),.c (.d (.i .i64 y.1))])
    (fun y=>[.seed (L y.1),.box [.d (.i .i64 x.aR),.d (.s x.bU),.d (.s x.fName),.d (.i .i64 x.fN),.d (.i .i64 x.fType.aR),.d (.s x.fType.fName),.d (.ol n (eu (x.fType.fArgs.map ay.enc) (n+1))),.d (.ol n1 (eu (x.fArgs.map aC.enc) (n1+1))),.d (.sl (x.bE.map aZ.enc))],.box [.d (.i .i64 0),.d (.s []),.d (.s []),.d (.i .i64 0),.d (.i .i64 0),.d (.s []),.bI [],.bI [],.bI []],.eO 11 y.2]::S)
    (fun y=>y.1<=x.bE.length/\mH 11 y.1 y.2 T) (fun y=>x.bE.length-y.1) (0,_) rfl rfl ⟨Nat.zero_le _,mH.start (by simp[iE]) rfl⟩ ?_
   rintro⟨i,R⟩ ⟨p1,p2⟩;simp only at p1 p2;simp -implicitDefEqProofs (disch:=omega) only[go_sem]
   with_reducible refine aD (fun hb=> ?_) (fun hb=> ?_)<;>have h:=hb<;>(try simp only[wf_preprocess] at h)<;>simp -implicitDefEqProofs (disch:=omega) only[go_sem,hb]<;>(repeat(with_reducible refine And.intro ?_ ?_;focus first|omega|rfl|assumption|exact⟨_,rfl,rfl⟩|(simp;omega)|(simp;done)))
   ·have hi:i<x.bE.length:=by omega
    have hir:i<(x.bE.map aZ.enc).length:=by rw[List.length_map];exact hi
    have hR:=p2.1;rw[iE] at hR;have hs:=List.sizeOf_lt_of_mem (List.getElem_mem hi);have hs':=aZ.xB x.bE[i];obtain⟨q,hq⟩:∃q,q=L i:=⟨_,rfl⟩
    have hq':q=m+1+gQ ((x.bE.map aZ.enc).take i):=by rw[hq,hL]
    have AO:T[i]? =some ([.s x.bE[i].fK,.ol q (x.bE[i].aO.map encS)]++fV x.bE[i].fBody.enc (q+(gQ (x.bE[i].aO.map encS)+1))):=by
     rw[hT,xG hir,List.getElem_map,<-hq'];simp only[aZ.aj,List.cons_append,List.nil_append,fV,jQ,qz,Nat.add_zero,D9]
    have hx:x.bE[i].sz<=aI (x.bE.map aZ.enc):=dV (List.mem_map_of_mem (List.getElem_mem hi));simp only[aZ.sz,aZ.aj,bF,bL,D.sz,List.length_map,aC.cK,List.cons_append,List.nil_append] at hx;have hb:=ih x.bE[i].fBody (by omega) (q+(gQ (x.bE[i].aO.map encS)+1)) (by omega);rw[MN] at hb AO;rw[<-hq];simp only[List.map_cons,List.map_nil,List.cons_append,List.nil_append] at hb AO
    (repeat(with_reducible refine And.intro ?_ ?_;focus first|omega|rfl|assumption|exact⟨_,rfl,rfl⟩|(simp;omega)|(simp;done)))
    refine⟨QT,⟨_,rfl,rfl⟩,(fun y hy=>by cases hy),by omega,?_⟩;refine aB hb ?_;simp -implicitDefEqProofs (disch:=omega) only[go_sem]
    (repeat(with_reducible refine And.intro ?_ ?_;focus first|omega|rfl|assumption|exact⟨_,rfl,rfl⟩|(simp;omega)|(simp;done)))
    refine⟨by rfl,?_⟩;simp -implicitDefEqProofs (disch:=omega) only[go_sem]
    (repeat(with_reducible refine And.intro ?_ ?_;focus first|omega|rfl|assumption|exact⟨_,rfl,rfl⟩|(simp;omega)|(simp;done)))
    refine ac9 (L (i+1)) 3 (by decide) (i+1,_) (by simp only;omega) rfl rfl ?_ rfl ⟨by simp only;omega,p2.step AO rfl⟩;simp[ny,jC,V.refs,C.refs,oH]
   ·have hi:i=x.bE.length:=by omega
    rw[p2.done (by omega)]
  ·obtain⟨T,hT⟩:∃T,T=eu (xs.map aC.enc) (n+1):=⟨_,rfl⟩
   have iE:T.length=xs.length:=by rw[hT,mM,List.length_map]
   show bq prog 129 [.c (.d (.sl (xs.map aC.enc)))] (.c (.d (.ol n (eu (xs.map aC.enc) (n+1)))));rw[<-hT];intro S;refine FT (n) (rs:=[.tmp 2]) zmx func129 ntmps129 rfl rfl rfl rfl rfl ?_;simp -implicitDefEqProofs (disch:=omega) only[go_sem]
   (repeat(with_reducible refine And.intro ?_ ?_;focus first|omega|rfl|assumption|exact⟨_,rfl,rfl⟩|(simp;omega)|(simp;done)))
   refine bT (ι:=Nat×List (List D)) zmx rfl [3,9,10,11] (fun y=>[.c (.iH (0,1)),.c (.d (.sl (xs.map aC.enc))),.c (.d (.i .i64 xs.length)),.c (.d (.i .i64 y.1))]) (fun y=>[.seed n,.eO 9 y.2]::S)
    (fun y=>y.1<=xs.length/\mH 9 y.1 y.2 T) (fun y=>xs.length-y.1) (0,_) rfl rfl ⟨Nat.zero_le _,mH.start (by simp[iE]) rfl⟩ ?_
   rintro⟨i,R⟩ ⟨p1,p2⟩;simp only at p1 p2;simp -implicitDefEqProofs (disch:=omega) only[go_sem]
   with_reducible refine aD (fun hb=> ?_) (fun hb=> ?_)<;>have h:=hb<;>(try simp only[wf_preprocess] at h)<;>simp -implicitDefEqProofs (disch:=omega) only[go_sem,hb]<;>(repeat(with_reducible refine And.intro ?_ ?_;focus first|omega|rfl|assumption|exact⟨_,rfl,rfl⟩|(simp;omega)|(simp;done)))
   ·have hi:i<xs.length:=by omega
    have hir:i<(xs.map aC.enc).length:=by rw[List.length_map];exact hi
    have hR:=p2.1;rw[iE] at hR
    have AO:T[i]? =some (fV (aC.enc xs[i]) (n+1+gQ ((xs.map aC.enc).take i))):=by
     rw[hT,xG hir,List.getElem_map]
    have hx:xs[i].sz<=aI (xs.map aC.enc):=dV (List.mem_map_of_mem (List.getElem_mem hi))
    (repeat(with_reducible refine And.intro ?_ ?_;focus first|omega|rfl|assumption|exact⟨_,rfl,rfl⟩|(simp;omega)|(simp;done)))
    refine aB (ih xs[i] (by have:=List.sizeOf_lt_of_mem (List.getElem_mem hi);omega) (n+1+gQ ((xs.map aC.enc).take i)) (by omega)) ?_;obtain⟨row,hrow⟩:∃row,row=fV (aC.enc xs[i]) (n+1+gQ ((xs.map aC.enc).take i)):=⟨_,rfl⟩
    have hrl:row.length=9:=by rw[hrow,jl,aC.cZ]
    rw[<-hrow] at AO ⊢;simp -implicitDefEqProofs (disch:=omega) only[go_sem,hrl,I7]
    (repeat(with_reducible refine And.intro ?_ ?_;focus first|omega|rfl|assumption|exact⟨_,rfl,rfl⟩|(simp;omega)|(simp;done)))
    refine fu 2 (by decide) (i+1,_) (by simp only;omega) rfl rfl ?_ rfl ⟨by simp only;omega,p2.step AO hrl⟩;simp[ny,jC,V.refs,C.refs,oH]
   ·have hi:i=xs.length:=by omega
    rw[p2.done (by omega)]
theorem N9{cs cs':List C}{xs:List (Bool×List C)}(h:∀w σ S β vs,fD w σ S β cs vs->fD w σ S β cs' vs):Less (.eH ((true,cs)::xs)) (.eH ((true,cs')::xs)):=by
 rintro w σ S β v ⟨a,ha,hl,hc⟩;obtain⟨u,hu,a',rfl,hcs⟩:=hc 0 _ rfl;refine⟨a,ha,hl,fun j y hy=> ?_⟩
 cases j with
 |zero=>simp at hy;subst hy;exact⟨_,hu,a',rfl,h _ _ _ _ _ hcs⟩
 |succ j=>exact hc (j+1) y (by simpa using hy)
theorem yY{w:World}{σ:Nat->Nat}{S:Store}{β:Hs}{v:Value}(n:Nat)(h:gF w σ S β (.bI []) v):gF w σ S β (.d (.ol n [])) v:=by
 obtain⟨hd,ad,m,hval⟩:=h
 have hm:m=0:=by rw[hval] at hd;cases hd<;>rfl
 subst hm;rw[hval];exact .wZ _ _ _
theorem XZ{cs cs':List C}{w:World}{σ:Nat->Nat}{S:Store}{β:Hs}{vs:List Value}(hl:cs'.length=cs.length)(h:∀(j:Nat)(x y:C),cs[j]? =some x->cs'[j]? =some y->∀v,gF w σ S β x v->gF w σ S β y v)(hc:fD w σ S β cs vs):fD w σ S β cs' vs:=by
 refine⟨hl.trans hc.1,fun j y hy=> ?_⟩
 have hj:j<cs.length:=by rw[<-hl];exact(List.getElem?_eq_some_iff.1 hy).1
 obtain⟨v,h1,h2,h3⟩:=hc.2 j _ (List.getElem?_eq_getElem hj);exact⟨v,h1,h j _ y (List.getElem?_eq_getElem hj) hy v h2,h3⟩
theorem RP(x:aC)(n:Nat)(h:x.sz<=4194304):bq prog 86 [x.v] (.agg ((fV x.enc n).map .d)):=(ET _).1 x (Nat.lt_succ_self _) n h
theorem Jw(x:aH)(n:Nat)(hsz:x.sz<=4194304):bq prog 45 [x.v] (.agg ((fV x.enc n).map .d)):=fun S=>by
 have hz:x.aO.length<=4194304/\x.dA.sz<=4194304/\x.dO.length+aI (x.dO.map aM.enc)<=4194304/\x.bV.sz<=4194304/\x.aQ.length+aI (x.aQ.map aN.enc)<=4194304:=by
  simp only[aH.sz,aH.aj,bF,bL,D.sz,List.length_map,ay.cK] at hsz;omega
 obtain⟨n1,e1⟩:∃n1,n1=n+(gQ (x.aO.map encS)+1):=⟨_,rfl⟩;obtain⟨n2,e2⟩:∃n2,n2=n1+(gQ (x.dA.fArgs.map ay.enc)+1):=⟨_,rfl⟩;obtain⟨n3,e3⟩:∃n3,n3=n2+(gQ (x.dO.map aM.enc)+1):=⟨_,rfl⟩;obtain⟨m,hm⟩:∃m,m=n3+(gQ (x.bV.fArgs.map ay.enc)+1):=⟨_,rfl⟩;obtain⟨T,hT⟩:∃T,T=eu (x.aQ.map aN.enc) (m+1):=⟨_,rfl⟩
 have iE:T.length=x.aQ.length:=by rw[hT,mM,List.length_map]
 have hE:fV x.enc n=[.s x.bU,.ol n (x.aO.map encS),.i .i64 x.dA.aR,.s x.dA.fName,.ol n1 (eu (x.dA.fArgs.map ay.enc) (n1+1)),.ol n2 (eu (x.dO.map aM.enc) (n2+1)),.b x.iA,.b x.fB,
  .i .i64 x.bV.aR,.s x.bV.fName,.ol n3 (eu (x.bV.fArgs.map ay.enc) (n3+1)),.ol m T]:=by
  simp only[aH.aj,ay.aj,List.cons_append,List.nil_append,fV,jQ,qz,Nat.add_zero,D9,<-e1,<-e2,<-e3,<-hm,<-hT]
 rw[hE];have c1:=wF x.dA n1 hz.2.1;have c2:=MO x.dO n2 hz.2.2.1;have c3:=wF x.bV n3 hz.2.2.2.1;rw[Jv] at c1 c3;refine D7 (m) (rs:=[.cell 2 45]) zmx func45 ntmps45 rfl rfl rfl rfl rfl ?_;simp -implicitDefEqProofs (disch:=omega) only[go_sem];refine aB (EK x.aO (by omega) n) ?_;simp -implicitDefEqProofs (disch:=omega) only[go_sem];refine aB c1 ?_;simp -implicitDefEqProofs (disch:=omega) only[go_sem];refine aB c2 ?_;simp -implicitDefEqProofs (disch:=omega) only[go_sem,jQ];refine aB c3 ?_;simp -implicitDefEqProofs (disch:=omega) only[go_sem]
 (repeat(with_reducible refine And.intro ?_ ?_;focus first|omega|rfl|assumption|exact⟨_,rfl,rfl⟩|(simp;omega)|(simp;done)))
 refine AL (ι:=Nat×List (List D)) zmx rfl [1,2,3,27,28,29] (fun y=>[.c (.ptr (0,1) 0),.c (.ptr (0,2) 0),.c (.iH (0,3)),.c (.d (.sl (x.aQ.map aN.enc))),.c (.d (.i .i64 x.aQ.length)),.c (.d (.i .i64 y.1))])
  (fun y=>[.seed m,.box [.d (.s x.bU),.d (.ol n (x.aO.map encS)),.d (.i .i64 x.dA.aR),.d (.s x.dA.fName),.d (.ol n1 (eu (x.dA.fArgs.map ay.enc) (n1+1))),.d (.ol n2 (eu (x.dO.map aM.enc) (n2+1))),.d (.b x.iA),.d (.b x.fB),
    .d (.i .i64 x.bV.aR),.d (.s x.bV.fName),.d (.ol n3 (eu (x.bV.fArgs.map ay.enc) (n3+1))),.d (.sl (x.aQ.map aN.enc))],
    .box [.d (.s []),.bI [],.d (.i .i64 0),.d (.s []),.bI [],.bI [],.d (.b false),.d (.b false),.d (.i .i64 0),.d (.s []),.bI [],.bI []],.eO 11 y.2]::S)
  (fun y=>y.1<=x.aQ.length/\mH 11 y.1 y.2 T) (fun y=>x.aQ.length-y.1) (0,_) rfl rfl ⟨Nat.zero_le _,mH.start (by simp[iE]) rfl⟩ ?_
 rintro⟨i,R⟩ ⟨p1,p2⟩;simp only at p1 p2;simp -implicitDefEqProofs (disch:=omega) only[go_sem]
 with_reducible refine aD (fun hb=> ?_) (fun hb=> ?_)<;>have h:=hb<;>(try simp only[wf_preprocess] at h)<;>simp -implicitDefEqProofs (disch:=omega) only[go_sem,hb]<;>(repeat(with_reducible refine And.intro ?_ ?_;focus first|omega|rfl|assumption|exact⟨_,rfl,rfl⟩|(simp;omega)|(simp;done)))
 ·have hi:i<x.aQ.length:=by omega
  have hir:i<(x.aQ.map aN.enc).length:=by rw[List.length_map];exact hi
  have hR:=p2.1;rw[iE] at hR;obtain⟨q,hq⟩:∃q,q=m+1+gQ ((x.aQ.map aN.enc).take i):=⟨_,rfl⟩
  have AO:T[i]? =some ([.s x.aQ[i].fName,.ol q (x.aQ[i].aO.map encS)]++fV x.aQ[i].fBody.enc (q+(gQ (x.aQ[i].aO.map encS)+1))):=by
   rw[hT,xG hir,List.getElem_map,<-hq];simp only[aN.aj,List.cons_append,List.nil_append,fV,jQ,qz,Nat.add_zero,D9]
  have hx:x.aQ[i].sz<=aI (x.aQ.map aN.enc):=dV (List.mem_map_of_mem (List.getElem_mem hi));simp only[aN.sz,aN.aj,bF,bL,D.sz,List.length_map,aC.cK,List.cons_append,List.nil_append] at hx;have hb:=RP x.aQ[i].fBody (q+(gQ (x.aQ[i].aO.map encS)+1)) (by omega);rw[MN] at hb AO;simp only[List.map_cons,List.map_nil,List.cons_append,List.nil_append] at hb AO
  (repeat(with_reducible refine And.intro ?_ ?_;focus first|omega|rfl|assumption|exact⟨_,rfl,rfl⟩|(simp;omega)|(simp;done)))
  refine aB (EK x.aQ[i].aO (by omega) q) ?_;simp -implicitDefEqProofs (disch:=omega) only[go_sem];refine aB hb ?_;simp -implicitDefEqProofs (disch:=omega) only[go_sem]
  (repeat(with_reducible refine And.intro ?_ ?_;focus first|omega|rfl|assumption|exact⟨_,rfl,rfl⟩|(simp;omega)|(simp;done)))
  refine⟨by rfl,?_⟩;simp -implicitDefEqProofs (disch:=omega) only[go_sem]
  (repeat(with_reducible refine And.intro ?_ ?_;focus first|omega|rfl|assumption|exact⟨_,rfl,rfl⟩|(simp;omega)|(simp;done)))
  refine fu 4 (by decide) (i+1,_) (by simp only;omega) rfl rfl ?_ rfl ⟨by simp only;omega,p2.step AO rfl⟩;simp[ny,jC,V.refs,C.refs,oH]
 ·have hi:i=x.aQ.length:=by omega
  rw[p2.done (by omega)]
def zI:aH:=⟨[],[],.mk 0 [] [],[],false,false,.mk 0 [] [],[]⟩
def instAt(w:bR)(r:bH):Option aH:=
 if 0<=r.gG/\0<=r.yG then(w.bJ[r.gG.toNat]?).bind fun p=>p.bZ[r.yG.toNat]? else none
theorem instAt_neg{w:bR}{r:bH}(h:r.gG<0\/r.yG<0):instAt w r=none:=if_neg fun x=>by omega
theorem instAt_big{w:bR}{r:bH}(h0:0<=r.gG)(h:w.bJ.length<=r.gG.toNat):instAt w r=none:=by
 unfold instAt;rw[List.getElem?_eq_none h,Option.bind_none,ite_self]
theorem instAt_far{w:bR}{r:bH}(hp:r.gG.toNat<w.bJ.length)(h:w.bJ[r.gG.toNat].bZ.length<=r.yG.toNat):instAt w r=none:=by
 unfold instAt;rw[List.getElem?_eq_getElem hp,Option.bind_some,List.getElem?_eq_none h,ite_self]
theorem instAt_in{w:bR}{r:bH}(h0:0<=r.gG/\0<=r.yG)(hp:r.gG.toNat<w.bJ.length)(h:r.yG.toNat<w.bJ[r.gG.toNat].bZ.length):instAt w r=some w.bJ[r.gG.toNat].bZ[r.yG.toNat]:=by
 unfold instAt;rw[if_pos h0,List.getElem?_eq_getElem hp,Option.bind_some,List.getElem?_eq_getElem h]
def inC:Option aH->List C
 |some t=>t.enc.map .d
 |none=>[.d (.s []),.bI [],.d (.i .i64 0),.d (.s []),.bI [],.bI [],.d (.b false),.d (.b false),.d (.i .i64 0),.d (.s []),.bI [],.bI []]
theorem TP(w:bR)(r:bH)(hsz:w.sz<=4194304):
 bq prog 44 [w.v,r.v] (.eH [(true,inC (instAt w r)),(false,[.d (.b (instAt w r).isSome)])]):=fun S=>by
 have hb0:=bR.bounds hsz;refine Nv (rs:=[.cell 4 45,.tmp 5]) zmx func44 ntmps44 rfl rfl rfl rfl rfl ?_;simp -implicitDefEqProofs (disch:=omega) only[go_sem]
 with_reducible refine aD (fun hb=> ?_) (fun hb=> ?_)<;>have h:=hb<;>(try simp only[wf_preprocess] at h)<;>simp -implicitDefEqProofs (disch:=omega) only[go_sem,hb]<;>(repeat(with_reducible refine And.intro ?_ ?_;focus first|omega|rfl|assumption|exact⟨_,rfl,rfl⟩|(simp;omega)|(simp;done)))
 ·refine⟨by rfl,?_⟩;simp -implicitDefEqProofs (disch:=omega) only[go_sem];rw[instAt_neg (.inl h)];rfl
 have k1:=h
 with_reducible refine aD (fun hb=> ?_) (fun hb=> ?_)<;>have h:=hb<;>(try simp only[wf_preprocess] at h)<;>simp -implicitDefEqProofs (disch:=omega) only[go_sem,hb]<;>(repeat(with_reducible refine And.intro ?_ ?_;focus first|omega|rfl|assumption|exact⟨_,rfl,rfl⟩|(simp;omega)|(simp;done)))
 ·refine⟨by rfl,?_⟩;simp -implicitDefEqProofs (disch:=omega) only[go_sem];rw[instAt_big (by omega) (by omega)];rfl
 have k2:=h
 with_reducible refine aD (fun hb=> ?_) (fun hb=> ?_)<;>have h:=hb<;>(try simp only[wf_preprocess] at h)<;>simp -implicitDefEqProofs (disch:=omega) only[go_sem,hb]<;>(repeat(with_reducible refine And.intro ?_ ?_;focus first|omega|rfl|assumption|exact⟨_,rfl,rfl⟩|(simp;omega)|(simp;done)))
 ·refine⟨by rfl,?_⟩;simp -implicitDefEqProofs (disch:=omega) only[go_sem];rw[instAt_neg (.inr h)];rfl
 have k3:=h
 have hp:r.gG.toNat<w.bJ.length:=by omega
 (repeat(with_reducible refine And.intro ?_ ?_;focus first|omega|rfl|assumption|exact⟨_,rfl,rfl⟩|(simp;omega)|(simp;done)))
 refine⟨by rfl,?_⟩;simp -implicitDefEqProofs (disch:=omega) only[go_sem]
 with_reducible refine aD (fun hb=> ?_) (fun hb=> ?_)<;>have h:=hb<;>(try simp only[wf_preprocess] at h)<;>simp -implicitDefEqProofs (disch:=omega) only[go_sem,hb]<;>(repeat(with_reducible refine And.intro ?_ ?_;focus first|omega|rfl|assumption|exact⟨_,rfl,rfl⟩|(simp;omega)|(simp;done)))
 ·rw[instAt_far hp (by omega)];rfl
 have k4:=h
 have hq:r.yG.toNat<w.bJ[r.gG.toNat].bZ.length:=by omega
 rw[instAt_in ⟨by omega,by omega⟩ hp hq]
 (repeat(with_reducible refine And.intro ?_ ?_;focus first|omega|rfl|assumption|exact⟨_,rfl,rfl⟩|(simp;omega)|(simp;done)))
 refine⟨by rfl,?_⟩;simp -implicitDefEqProofs (disch:=omega) only[go_sem];simp only[inC,aH.aj,ay.aj,List.map_cons,List.map_nil,List.cons_append,List.nil_append,List.map_append]
structure Hq(p:Prop):Prop where
 out:p
theorem S0{c:Bool}{s:St}{A B:St->Prop}{P Q:Prop}{A':P->Prop}{B':Q->Prop}(k:c=true->(h:P)->A' h)(k2:c=false->(h:Q)->B' h)(e:Hq (c=true->(h:P)->A' h)->c=true->A s:=by intro k hb;have h:=hb;(try simp only[wf_preprocess] at h);simp -implicitDefEqProofs (disch:=omega) only[go_sem,hb]<;>(repeat(with_reducible refine And.intro ?_ ?_;focus first|omega|rfl|assumption|exact⟨_,rfl,rfl⟩|(simp;omega)|(simp;done)));exact k.out hb h)
 (e2:Hq (c=false->(h:Q)->B' h)->c=false->B s:=by intro k hb;have h:=hb;(try simp only[wf_preprocess] at h);simp -implicitDefEqProofs (disch:=omega) only[go_sem,hb]<;>(repeat(with_reducible refine And.intro ?_ ?_;focus first|omega|rfl|assumption|exact⟨_,rfl,rfl⟩|(simp;omega)|(simp;done)));exact k.out hb h):Split c A B s:=aD (e ⟨k⟩) (e2 ⟨k2⟩)
theorem S1{c:Bool}{s:St}{A B:St->Prop}{Q:Prop}{B':Q->Prop}(k2:c=false->(h:Q)->B' h)(e:c=true->A s:=by intro hb;have h:=hb;(try simp only[wf_preprocess] at h);simp -implicitDefEqProofs (disch:=omega) only[go_sem,hb]<;>(repeat(with_reducible refine And.intro ?_ ?_;focus first|omega|rfl|assumption|exact⟨_,rfl,rfl⟩|(simp;omega)|(simp;done)));done)
 (e2:Hq (c=false->(h:Q)->B' h)->c=false->B s:=by intro k hb;have h:=hb;(try simp only[wf_preprocess] at h);simp -implicitDefEqProofs (disch:=omega) only[go_sem,hb]<;>(repeat(with_reducible refine And.intro ?_ ?_;focus first|omega|rfl|assumption|exact⟨_,rfl,rfl⟩|(simp;omega)|(simp;done)));exact k.out hb h):Split c A B s:=aD e (e2 ⟨k2⟩)
theorem S2{c:Bool}{s:St}{A B:St->Prop}{P:Prop}{A':P->Prop}(k:c=true->(h:P)->A' h)(e:Hq (c=true->(h:P)->A' h)->c=true->A s:=by intro k hb;have h:=hb;(try simp only[wf_preprocess] at h);simp -implicitDefEqProofs (disch:=omega) only[go_sem,hb]<;>(repeat(with_reducible refine And.intro ?_ ?_;focus first|omega|rfl|assumption|exact⟨_,rfl,rfl⟩|(simp;omega)|(simp;done)));exact k.out hb h)
 (e2:c=false->B s:=by intro hb;have h:=hb;(try simp only[wf_preprocess] at h);simp -implicitDefEqProofs (disch:=omega) only[go_sem,hb]<;>(repeat(with_reducible refine And.intro ?_ ?_;focus first|omega|rfl|assumption|exact⟨_,rfl,rfl⟩|(simp;omega)|(simp;done)));done):Split c A B s:=aD (e ⟨k⟩) e2
theorem S3{c:Bool}{s:St}{A B:St->Prop}(e:c=true->A s:=by intro hb;have h:=hb;(try simp only[wf_preprocess] at h);simp -implicitDefEqProofs (disch:=omega) only[go_sem,hb]<;>(repeat(with_reducible refine And.intro ?_ ?_;focus first|omega|rfl|assumption|exact⟨_,rfl,rfl⟩|(simp;omega)|(simp;done)));done)(e2:c=false->B s:=by intro hb;have h:=hb;(try simp only[wf_preprocess] at h);simp -implicitDefEqProofs (disch:=omega) only[go_sem,hb]<;>(repeat(with_reducible refine And.intro ?_ ?_;focus first|omega|rfl|assumption|exact⟨_,rfl,rfl⟩|(simp;omega)|(simp;done)));done):Split c A B s:=aD e e2
section
variable {P:Program} {s:St} {dr:Option Nat} {f:FuncId} {args:List V} {dst:Option Nat} {K:St->Prop} {r:V}
end
def Oa(w:bR)(r:bH):aH:=(instAt w r).getD zI
theorem ais{w:bR}{r:bH}:(Oa w r).sz<=w.sz:=by
 have hz0:zI.sz=0:=by decide
 unfold Oa instAt;split
 ·cases hp:w.bJ[r.gG.toNat]? with
  |none=>(show zI.sz<=w.sz;omega)
  |some q=>
   rw[Option.bind_some]
   cases hi:q.bZ[r.yG.toNat]? with
   |none=>(show zI.sz<=w.sz;omega)
   |some t=>
    have k1:q.sz<=aI (w.bJ.map aP.enc):=dV (List.mem_map_of_mem (List.mem_of_getElem? hp));have k2:t.sz<=aI (q.bZ.map aH.enc):=dV (List.mem_map_of_mem (List.mem_of_getElem? hi))
    have e1:w.sz=w.bJ.length+aI (w.bJ.map aP.enc):=by simp[bR.sz,bR.aj,bF,D.sz]
    simp only[aP.sz,aP.aj,bF,D.sz,List.length_map] at k1;show t.sz<=w.sz;omega
 ·(show zI.sz<=w.sz;omega)
theorem MP(w:bR)(r:bH)(hsz:w.sz<=4194304)(n:Nat):bq prog 19 [w.v,r.v] (.eH [(true,(fV (Oa w r).enc n).map .d),(false,[.d (.b (instAt w r).isSome)])]):=by
 have hd:=ais (w:=w) (r:=r);have h0:=TP w r hsz
 cases hq:instAt w r with
 |none=>
  have e:Oa w r=zI:=by unfold Oa;rw[hq];rfl
  rw[e];rw[hq] at h0;simp only[inC,Option.isSome_none] at h0 ⊢;have hE:∃a b c d e:Nat,(fV zI.enc n).map C.d=[.d (.s []),.d (.ol a []),.d (.i .i64 0),.d (.s []),.d (.ol b []),.d (.ol c []),.d (.b false),.d (.b false),.d (.i .i64 0),.d (.s []),.d (.ol d []),.d (.ol e [])]:=⟨_,_,_,_,_,rfl⟩;obtain⟨a,b,c,d,e,hE⟩:=hE;rw[hE];refine bq.less (r:=.eH [(true,[.d (.s []),.bI [],.d (.i .i64 0),.d (.s []),.bI [],.bI [],.d (.b false),.d (.b false),.d (.i .i64 0),.d (.s []),.bI [],.bI []]),(false,[.d (.b false)])]) (fun S=> ?_) (N9 fun w σ S β vs hc=>XZ (cs:=[.d (.s []),.bI [],.d (.i .i64 0),.d (.s []),.bI [],.bI [],.d (.b false),.d (.b false),.d (.i .i64 0),.d (.s []),.bI [],.bI []]) rfl (fun j x y hx hy v hv=> ?_) hc)
  ·refine zcx [.cell 4 45,.tmp 5] func19 ntmps19 ?_;simp -implicitDefEqProofs (disch:=omega) only[go_sem];refine aB h0 ?_;simp -implicitDefEqProofs (disch:=omega) only[go_sem]
  ·match j,hx,hy with
   |0,hx,hy=>cases hx;cases hy;exact hv
   |1,hx,hy=>cases hx;cases hy;exact yY _ hv
   |2,hx,hy=>cases hx;cases hy;exact hv
   |3,hx,hy=>cases hx;cases hy;exact hv
   |4,hx,hy=>cases hx;cases hy;exact yY _ hv
   |5,hx,hy=>cases hx;cases hy;exact yY _ hv
   |6,hx,hy=>cases hx;cases hy;exact hv
   |7,hx,hy=>cases hx;cases hy;exact hv
   |8,hx,hy=>cases hx;cases hy;exact hv
   |9,hx,hy=>cases hx;cases hy;exact hv
   |10,hx,hy=>cases hx;cases hy;exact yY _ hv
   |11,hx,hy=>cases hx;cases hy;exact yY _ hv
   |j+12,hx,hy=>simp at hx
 |some t=>
  intro S
  have e:Oa w r=t:=by unfold Oa;rw[hq];rfl
  rw[e] at hd ⊢;rw[hq] at h0;have h1:=Jw t n (by omega);obtain⟨row,hrow⟩:∃row,row=fV t.enc n:=⟨_,rfl⟩
  have hE:∃a0 a1 a2 a3 a4 a5 a6 a7 a8 a9 b0 b1,row=[a0,a1,a2,a3,a4,a5,a6,a7,a8,a9,b0,b1]:=by
   rw[hrow,aH.aj,ay.aj,ay.aj];exact⟨_,_,_,_,_,_,_,_,_,_,_,_,rfl⟩
  rw[<-hrow] at h1 ⊢;obtain⟨a0,a1,a2,a3,a4,a5,a6,a7,a8,a9,b0,b1,rfl⟩:=hE;clear hrow;simp only[inC,Option.isSome_some,aH.aj,ay.aj,List.map_cons,List.map_nil,List.cons_append,List.nil_append] at h0 h1 ⊢;refine zcx [.cell 4 45,.tmp 5] func19 ntmps19 ?_;simp -implicitDefEqProofs (disch:=omega) only[go_sem];refine aB h0 ?_;simp -implicitDefEqProofs (disch:=omega) only[go_sem];refine aB h1 ?_;simp -implicitDefEqProofs (disch:=omega) only[go_sem]
theorem OA(w:bR)(r:bH)(hsz:w.sz<=4194304):bq prog 19 [w.v,r.v] (.eH [(true,(Oa w r).enc.map .d),(false,[.d (.b (instAt w r).isSome)])]):=
 bq.less (MP w r hsz 0) (N9 fun w σ S β vs h=>ZO h)
theorem Jy{ps:List aP}:∀m,m<=ps.length->∀r∈allI ps m,∃(p a:Nat) (hp:p<ps.length),p<m/\r=⟨(p:Int),(a:Int)⟩/\a<ps[p].bZ.length
 |0,_,r,h=>by cases h
 |m+1,hm,r,h=>by
  rw[xS (by omega)] at h;rcases List.mem_append.1 h with h|h
  ·obtain⟨p,a,hp,h1,h2,h3⟩:=Jy m (by omega) r h;exact⟨p,a,hp,by omega,h2,h3⟩
  ·unfold mF at h;obtain⟨a,ha,rfl⟩:=List.mem_map.1 h;exact⟨m,a,by omega,by omega,rfl,List.mem_range.1 ha⟩
theorem Iz{ps:List aP}:∀m,m<=ps.length->(allI ps m).Pairwise fun a b=>a.gG<=b.gG
 |0,_=>List.Pairwise.nil
 |m+1,hm=>by
  rw[xS (by omega),List.pairwise_append];refine⟨Iz m (by omega),?_,fun a ha b hb=> ?_⟩
  ·unfold mF;rw[List.pairwise_map];exact List.pairwise_of_forall fun _ _=>Int.le_refl _
  ·obtain⟨p,q,hp,h1,rfl,h3⟩:=Jy m (by omega) a ha;unfold mF at hb;obtain⟨c,_,rfl⟩:=List.mem_map.1 hb
   simp only
   omega
theorem instAt_all{w:bR}{r:bH}(h:r∈allI w.bJ w.bJ.length):(instAt w r).isSome=true:=by
 obtain⟨p,a,hp,h1,rfl,h3⟩:=Jy _ (Nat.le_refl _) r h;unfold instAt;rw[if_pos ⟨by simp,by simp⟩];simp only[Int.toNat_natCast,List.getElem?_eq_getElem hp,Option.bind_some,List.getElem?_eq_getElem h3,Option.isSome_some]
end Go.Ab
namespace Go.Proofs.YtfhpfkaeldgcmaaGreat.fnInsts
open Go Go.Ab
theorem aei{bs:List Int}(hB:Bytes bs):bq prog 15 [.c (.d (.sl (bs.map Av)))] (Bg (Me bs)).1.v:=fun S=>by
 refine zcx [.cell 2 26] func15 ntmps15 ?_;simp -implicitDefEqProofs (disch:=omega) only[go_sem];refine bn rfl (acT hB _ _) ?_;simp -implicitDefEqProofs (disch:=omega) only[go_sem];refine bn rfl (TN hB (Me bs) 0 1 _ rfl) ?_;simp -implicitDefEqProofs (disch:=omega) only[go_sem]
 first|done|rfl
theorem RQ(xs:List bH)(hl:xs.length<=1073741824):bq prog 17 [.c (.d (.sl (xs.map bH.enc))),.c (.d (.sl (xs.map bH.enc)))] (.c (.d (.b true))):=fun S=>by
 have d0:decide ((xs.length:Int)=(xs.length:Int))=true:=decide_eq_true rfl
 have hp:pairTy prog 49=true:=by kernel_rfl
 refine zcx [.tmp 4] func17 ntmps17 ?_;simp -implicitDefEqProofs (disch:=omega) only[go_sem,d0,Bool.not_true]
 refine bT (ι:=Nat) zmx rfl [0,1,5] (fun i=>[.c (.d (.sl (xs.map bH.enc))),.c (.d (.sl (xs.map bH.enc))),.c (.d (.i .i64 i))]) (fun _=>[]::S)
  (fun i=>i<=xs.length) (fun i=>xs.length-i) 0 rfl rfl (Nat.zero_le _) ?_
 intro i hi;simp -implicitDefEqProofs (disch:=omega) only[go_sem,bH.aj]
 with_reducible refine aD (fun hb=> ?_) (fun hb=> ?_)<;>have h:=hb<;>(try simp only[wf_preprocess] at h)<;>simp -implicitDefEqProofs (disch:=omega) only[go_sem,hb,bH.aj]<;>(repeat(with_reducible refine And.intro ?_ ?_;focus first|omega|rfl|assumption|exact⟨_,rfl,rfl⟩|(simp;omega)|(simp;done)))
 ·have hi':i<xs.length:=by omega
  have d1:decide (xs[i].gG=xs[i].gG/\xs[i].yG=xs[i].yG)=true:=decide_eq_true ⟨rfl,rfl⟩;exact dG (i+1) (by omega) rfl rfl (by omega)
theorem law(x0:List Int)(b0:∀x∈x0,0<=x/\x<=255):cB prog 4 [.c (.d (.sl (x0.map Av)))] [] (fun r _=>r=.c (.d (.b true))):=by
 refine Nv (rs:=[.tmp 2]) zmx func4 ntmps4 rfl rfl rfl rfl rfl ?_;simp -implicitDefEqProofs (disch:=omega) only[go_sem];refine aB (ahs x0) ?_;simp -implicitDefEqProofs (disch:=omega) only[go_sem]
 with_reducible refine aD (fun hb=> ?_) (fun hb=> ?_)<;>have h:=hb<;>(try simp only[wf_preprocess] at h)<;>simp -implicitDefEqProofs (disch:=omega) only[go_sem,hb]<;>(repeat(with_reducible refine And.intro ?_ ?_;focus first|omega|rfl|assumption|exact⟨_,rfl,rfl⟩|(simp;omega)|(simp;done)))
 have hBs:Bytes x0:=⟨by omega,b0⟩;have p1:=aei hBs;have hws:=aaU (Me x0);obtain⟨w,hw⟩:∃w,w=(Bg (Me x0)).1:=⟨_,rfl⟩;rw[<-hw] at p1 hws;clear hw;have hb0:=bR.bounds (show w.sz<=4194304 by omega);have e1:=XW w (by omega);have e2:=XY w (by omega);have e3:=fun r=>OA w r (by omega);have hat:=fun(i:Nat) (hi:i<(allI w.bJ w.bJ.length).length)=>instAt_all (List.getElem_mem hi);have hso:=List.pairwise_iff_getElem.1 (Iz (ps:=w.bJ) _ (Nat.le_refl _));have hle:=ML (ps:=w.bJ) _ (Nat.le_refl _)
 have hlen:(allI w.bJ w.bJ.length).length<=4194304:=by
  simp only[bR.sz,bR.aj,bF,D.sz,List.length_map] at hws;omega
 obtain⟨xs,hxs⟩:∃xs,xs=allI w.bJ w.bJ.length:=⟨_,rfl⟩;simp only[<-hxs] at e1 e2 hat hso hlen;clear hle;have e4:=RQ xs (by omega);refine aB p1 ?_;simp -implicitDefEqProofs (disch:=omega) only[go_sem];refine aB e1 ?_;simp -implicitDefEqProofs (disch:=omega) only[go_sem];refine aB e2 ?_;simp -implicitDefEqProofs (disch:=omega) only[go_sem];refine aB e4 ?_;simp -implicitDefEqProofs (disch:=omega) only[go_sem]
 refine AL (ι:=Nat) zmx rfl [3,4,5] (fun i=>[.c (.ptr (0,0) 0),.c (.d (.sl (xs.map bH.enc))),.c (.d (.i .i64 i))]) (fun _=>[[.box [.d (.sl (w.bJ.map aP.enc))]]])
  (fun i=>i<=xs.length) (fun i=>xs.length-i) 0 rfl rfl (Nat.zero_le _) ?_
 intro i hi;simp -implicitDefEqProofs (disch:=omega) only[go_sem]
 with_reducible refine aD (fun hb=> ?_) (fun hb=> ?_)<;>have h:=hb<;>(try simp only[wf_preprocess] at h)<;>simp -implicitDefEqProofs (disch:=omega) only[go_sem,hb]<;>(repeat(with_reducible refine And.intro ?_ ?_;focus first|omega|rfl|assumption|exact⟨_,rfl,rfl⟩|(simp;omega)|(simp;done)))
 ·have hi':i<xs.length:=by omega
  (repeat(with_reducible refine And.intro ?_ ?_;focus first|omega|rfl|assumption|exact⟨_,rfl,rfl⟩|(simp;omega)|(simp;done)))
  refine aB (e3 xs[i]) ?_;rw[hat i hi'];simp -implicitDefEqProofs (disch:=omega) only[go_sem,Bool.not_true];refine⟨by rfl,?_⟩;by_cases h0:i=0
  ·subst h0;have d0:decide ((0:Int)<((0:Nat):Int))=false:=rfl;simp -implicitDefEqProofs (disch:=omega) only[go_sem,d0,Bool.not_true]
   (repeat(with_reducible refine And.intro ?_ ?_;focus first|omega|rfl|assumption|exact⟨_,rfl,rfl⟩|(simp;omega)|(simp;done)))
   refine⟨by rfl,?_⟩;simp -implicitDefEqProofs (disch:=omega) only[go_sem,d0,Bool.not_true]
   (repeat(with_reducible refine And.intro ?_ ?_;focus first|omega|rfl|assumption|exact⟨_,rfl,rfl⟩|(simp;omega)|(simp;done)))
   exact fu 1 (by decide) (0+1) (by omega) rfl rfl rfl rfl (by omega)
  ·have d0:decide ((0:Int)<(i:Int))=true:=decide_eq_true (by omega);obtain⟨m,rfl⟩:∃m,i=m+1:=⟨i-1,by omega⟩;have hle:=hso m (m+1) (by omega) hi' (by omega)
   have e5:(((m+1:Nat):Int)-1)=(m:Int):=by omega
   have hm:m<xs.length:=by omega
   have d1:decide (xs[m+1].gG<xs[m].gG)=false:=decide_eq_false (by omega);simp -implicitDefEqProofs (disch:=omega) only[go_sem,d0,Bool.not_true,e5]
   (repeat(with_reducible refine And.intro ?_ ?_;focus first|omega|rfl|assumption|exact⟨_,rfl,rfl⟩|(simp;omega)|(simp;done)))
   simp -implicitDefEqProofs (disch:=omega) only[go_sem,d0,d1,e5,Bool.not_true,bH.aj]
   (repeat(with_reducible refine And.intro ?_ ?_;focus first|omega|rfl|assumption|exact⟨_,rfl,rfl⟩|(simp;omega)|(simp;done)))
   refine⟨by rfl,?_⟩;simp -implicitDefEqProofs (disch:=omega) only[go_sem,d0,d1,Bool.not_true]
   (repeat(with_reducible refine And.intro ?_ ?_;focus first|omega|rfl|assumption|exact⟨_,rfl,rfl⟩|(simp;omega)|(simp;done)))
   exact fu 1 (by decide) (m+1+1) (by omega) rfl rfl rfl rfl (by omega)
end Go.Proofs.YtfhpfkaeldgcmaaGreat.fnInsts
namespace Go.Ab
theorem aaV{P:Program}{n:Nat}{t:TypeId}{ds:List D}(h:WT P n t ds):∃m,n=m+1:=by
 cases n with
 |zero=>exact h.elim
 |succ m=>exact⟨m,rfl⟩
theorem ait{P:Program}{n:Nat}{t:TypeId}{k:IntKind}{ds:List D}(ht:P.underlying t=some (.int k))(h:WT P n t ds):∃x,ds=[.i k x]/\(Lit.int k x).wf=true:=by
 obtain⟨m,rfl⟩:=aaV h;simp only[WT,ht] at h;exact h
theorem aej{P:Program}{n:Nat}{t e:TypeId}{ds:List D}(ht:P.underlying t=some (.slice e))(h:WT P n t ds):∃es m,m<n/\ds=[.sl es]/\∀x∈es,WT P m e x:=by
 obtain⟨m,rfl⟩:=aaV h;simp only[WT,ht] at h;obtain⟨es,h1,_,h2⟩:=h;exact⟨es,m,by omega,h1,fun x hx=>(h2 x hx).2⟩
theorem UK{P:Program}{W:TypeId->List D->Prop}(hW:∀t ds,W t ds->Ao ds):∀(fs:List Field)(ds:List D),WTF P W fs ds->Ao ds
 |[],ds,h=>by
  have h:ds=[]:=h;rw[h];exact Ap
 |f::fs,ds,h=>by
  obtain⟨a,b,rfl,_,h1,h2⟩:=h;exact SK.2 ⟨hW _ _ h1,UK hW fs b h2⟩
theorem RU{P:Program}:∀(n:Nat)(t:TypeId)(ds:List D),WT P n t ds->Ao ds
 |0,t,ds,h=>h.elim
 |n+1,t,ds,h=>by
  simp only[WT] at h;split at h
  ·obtain⟨b,rfl⟩:=h;exact Br.2 ⟨.b _,Ap⟩
  ·obtain⟨b,rfl,_⟩:=h;exact Br.2 ⟨.i _ _,Ap⟩
  ·obtain⟨l,rfl,hl⟩:=h;exact Br.2 ⟨.s _ hl,Ap⟩
  ·obtain⟨es,rfl,hl,hh⟩:=h;exact Br.2 ⟨.sl _ hl fun e he d hd=>RU n _ e (hh e he).2 d hd,Ap⟩
  ·exact UK (RU n) _ _ h
  ·exact h.elim
end Go.Ab