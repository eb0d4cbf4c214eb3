/-
  SEVERAL TEXTS IN ONE (merged by program): contracts and models, each with its own heading.
-/
import Derived.Test.YtnmjbebcebbmfaaGreatDoorPartDnbD
import Derived.Test.YtnmjbebcebbmfaaGreatDoorPartDnbS
import Derived.Test.YtnmjbebcebbmfaaGreatDoorPartDnbZ
import Derived.Lib.FrozenHead2
import Derived.Lib.OthersKept
import Derived.Lib.AppendStr
import Derived.Lib.UnsafeStr
import Derived.Lib.Builder
import Derived.Deep.LoopGhost
import Derived.Deep.AppendLies
import Derived.Laws.ResultCell
import Derived.Lib.AppendZeros
import Derived.Deep.RegionHeld3
import Derived.Deep.RegionLaw
set_option maxHeartbeats 8000000
open Go.Proofs Go.Proofs.Tryz
set_option linter.unusedSimpArgs false
set_option linter.unusedVariables false
set_option maxRecDepth 100000
namespace Go.Ab
open Go.RowKit
theorem aiR:(prog.info? 127).map (·.size)=some 2:=by kernel_rfl
theorem arC:liesAt prog prog.depth 127 (2/prog.cellsOf 127) 0 127 1=true:=by kernel_rfl
theorem aiS:(prog.info? 5).map (fun i=>(i.zero,i.size,i.bytes))=some (some (.int .u8 0),1,1):=by kernel_rfl
theorem ZU(b:Nat)(w:World)(h0:w.cell? ⟨b,0,none⟩=some (.pointer (some ⟨b,0,none⟩))):
 Calls prog 195 #[.pointer (some ⟨b,0,none⟩)] w fun e w'=>e=.returned (.tuple #[])/\w'=w:=by
 obtain⟨j,hj,_⟩:=Option.map_eq_some_iff.1 aiR
 go_enter func195,ntmps195
 go_wp2
 rw[Lib.run_neq_ptr_same w _ underlying125 hj]
 go_wp2
 go_end0
 exact⟨rfl,rfl⟩
theorem Xf(b:Nat)(w:World)(h0:w.cell? ⟨b,0,none⟩=some (.pointer none))(hsh:w.shape? b=some (127,2))(hfz:w.frozen? ⟨b,0,none⟩=false):
 Calls prog 195 #[.pointer (some ⟨b,0,none⟩)] w fun e w'=>e=.returned (.tuple #[])/\w'=w.setCell ⟨b,0,none⟩ (.pointer (some ⟨b,0,none⟩)):=by
 obtain⟨j,hj,hjs⟩:=Option.map_eq_some_iff.1 aiR
 go_enter func195,ntmps195
 go_wp2
 rw[Lib.run_to_unsafe w ⟨b,0,none⟩ underlying125 underlying224 hj (by rw[hjs];decide) hsh (Nat.zero_lt_succ 1)];simp only[Result.andThen];rw[Oper.upon_value]
 go_wp2
 rw[run_callFunc_extern func221 (by kernel_rfl) (by kernel_rfl) (by kernel_rfl) (e:=Extern.AbiNoEscape.same) (by kernel_rfl)];rw[Lib.run_noEscape];simp only[Result.andThen];rw[Oper.upon_value]
 go_wp2
 rw[Lib.run_from_unsafe w ⟨b,0,none⟩ underlying224 underlying125 hj hsh arC];simp only[Result.andThen];rw[Oper.upon_value]
 go_wp2
 go_end0
 exact⟨rfl,rfl⟩
theorem ac6(B b:Nat)(bs:List Value)(w:World)(h:Lib.IsBuilderF 127 5 B b bs w):
 Calls prog 195 #[.pointer (some ⟨b,0,none⟩)] w fun e w'=>e=.returned (.tuple #[])/\(Lib.BuilderAtF 127 5 B b (.pointer (some ⟨b,0,none⟩)) bs w'/\Below B w w'/\Lib.OthersKept 5 (some b) w w'):=by
 rcases h with h|h
 ·refine(Xf b w h.cell0 h.shape h.frozen0).mono ?_;rintro e w' ⟨rfl,rfl⟩;exact⟨rfl,h.used _,(Below.refl B w).setCell (p:=⟨b,0,none⟩) h.1 _,(Lib.OthersKept.refl _ _ w).setCell ⟨b,0,none⟩ rfl _⟩
 ·refine(ZU b w h.cell0).mono ?_;rintro e w' ⟨rfl,rfl⟩;exact⟨rfl,h,Below.refl B _,Lib.OthersKept.refl _ _ _⟩
theorem K3(B b:Nat)(bs:List Value)(c:Int)(w:World)(h:Lib.IsBuilderF 127 5 B b bs w)(hlen:bs.length+1<=140737488355328)(hBw:B<=w.heap.size):
 Calls prog 152 #[.pointer (some ⟨b,0,none⟩),.int .u8 c] w fun e w'=>e=.returned .nilIface/\(Lib.BuilderAtF 127 5 B b (.pointer (some ⟨b,0,none⟩)) (bs++[.int .u8 c]) w'/\Below B w w'/\Lib.OthersKept 5 (some b) w w'):=by
 obtain⟨i0,hi,hz0,hz1,hz2⟩:=info_parts aiS
 go_enter func152,ntmps152
 go_wp2_with (go_at_call 195;refine(ac6 B b bs _ h).mono ?_)
 rintro e w1 ⟨rfl,⟨hB,v,hbk,hown,hne⟩,hb1,hk1⟩
 have c0:w1.cell? ⟨b,0,none⟩=some (.pointer (some ⟨b,0,none⟩)):=by rw[Lib.cell_of_heap hbk];rfl
 have c1:w1.cell? ⟨b,1,none⟩=some v:=by rw[Lib.cell_of_heap hbk];rfl
 go_wp2_with (at_builtin;refine wpList_append_ownF _ rfl _ _ 22 rfl B 5 i0 (.int .u8 0) 1 1 underlying22 hi hz0 hz1 hz2 rfl gE _ _ _ rfl (hown.alloc _) ⟨w1.heap.size,0,none⟩ 1 1 [.int .u8 c] rfl rfl ?c1 ?c2 ?c3 ?c4 ?c5 ?_)
 case c1=>
  intro j u hj
  match j,hj with
  |0,hj=>simp at hj;subst hj;simp[Addr.add]
 case c2=>intro u hu;simp at hu;subst hu;rfl
 case c3=>unfold maxLen;omega
 case c4=>omega
 case c5=>have:=hb1.size;simp;omega
 intro v' w2 hown' hgrow _
 have hlt:b<w1.heap.size:=by
  rcases fh b w1.heap.size with h'|h'
  ·exact h'
  ·simp[dE h'] at hbk
 have hb2:w2.heap[b]? =some (.cells #[.pointer (some ⟨b,0,none⟩),v] 127 (0,0)):=by
  rw[hgrow.block b gR (fun e=>hne e.symm),Lib.alloc_old w1 _ b hlt];exact hbk
 have d0:w2.cell? ⟨b,0,none⟩=some (.pointer (some ⟨b,0,none⟩)):=by rw[Lib.cell_of_heap hb2];rfl
 have d1:w2.cell? ⟨b,1,none⟩=some v:=by rw[Lib.cell_of_heap hb2];rfl
 have f1:w2.frozen? ⟨b,1,none⟩=false:=Lib.frozen_of_heap hb2 1
 obtain⟨g,cap,rfl⟩:∃g cap,v'=.slice (some ⟨g,0,none⟩) (bs.length+1) cap:=by
  rcases hown'.2 with⟨_,h0⟩|⟨g,cap,cur,fz,hv,_⟩
  ·omega
  ·exact⟨g,cap,hv⟩
 go_wp2
 go_ret
 refine⟨rfl,?_,?_,((hk1.alloc _).grown hgrow (Lib.ownsRowF_kind (hown.alloc _))).setCell ⟨b,1,none⟩ rfl _⟩
 ·exact Lib.BuilderAtF.put (T:=127) (e:=5) hB hb2 (bs':=bs++[.int .u8 c]) (by simpa using hown') gE
 ·exact((hb1.alloc (by have:=hb1.size;omega) _).grown hgrow (by have:=hb1.size;simp;omega) (fun k hk=>(hown.lt k hk).1)).setCell (p:=⟨b,1,none⟩) hB _
theorem ZV(B b:Nat)(bs:List Value)(s:ByteArray)(w:World)(h:Lib.IsBuilderF 127 5 B b bs w)(hlen:bs.length+s.size<=140737488355328)(hBw:B<=w.heap.size):
 Calls prog 151 #[.pointer (some ⟨b,0,none⟩),.string s] w fun e w'=>e=.returned (.tuple #[.int .i64 s.size,.nilIface])/\(Lib.BuilderAtF 127 5 B b (.pointer (some ⟨b,0,none⟩)) (bs++Lib.strCells s) w'/\Below B w w'/\Lib.OthersKept 5 (some b) w w'):=by
 obtain⟨i0,hi,hz0,hz1,hz2⟩:=info_parts aiS
 go_enter func151,ntmps151
 go_wp2_with (go_at_call 195;refine(ac6 B b bs _ h).mono ?_)
 rintro e w1 ⟨rfl,⟨hB,v,hbk,hown,hne⟩,hb1,hk1⟩
 have c0:w1.cell? ⟨b,0,none⟩=some (.pointer (some ⟨b,0,none⟩)):=by rw[Lib.cell_of_heap hbk];rfl
 have c1:w1.cell? ⟨b,1,none⟩=some v:=by rw[Lib.cell_of_heap hbk];rfl
 go_wp2_with (at_builtin;refine Lib.wpList_append_own_stringF _ rfl _ _ 22 9 rfl B 5 i0 underlying22 underlying9 hi hz0 hz1 hz2 _ _ _ rfl hown s rfl ?c3 ?c4 ?c5 ?_)
 case c3=>unfold maxLen;omega
 case c4=>omega
 case c5=>have:=hb1.size;omega
 intro v' w2 hown' hgrow _
 have hlt:b<w1.heap.size:=by
  rcases fh b w1.heap.size with h'|h'
  ·exact h'
  ·simp[dE h'] at hbk
 have hb2:w2.heap[b]? =some (.cells #[.pointer (some ⟨b,0,none⟩),v] 127 (0,0)):=by
  rw[hgrow.block b hlt (fun e=>hne e.symm)];exact hbk
 have d0:w2.cell? ⟨b,0,none⟩=some (.pointer (some ⟨b,0,none⟩)):=by rw[Lib.cell_of_heap hb2];rfl
 have d1:w2.cell? ⟨b,1,none⟩=some v:=by rw[Lib.cell_of_heap hb2];rfl
 have f1:w2.frozen? ⟨b,1,none⟩=false:=Lib.frozen_of_heap hb2 1
 obtain⟨ao,n',cap,rfl⟩:∃ao n' cap,v'=.slice ao n' cap:=by
  rcases hown'.2 with⟨hv,_⟩|⟨g,cap,cur,fz,hv,_⟩
  ·exact⟨_,_,_,hv⟩
  ·exact⟨_,_,_,hv⟩
 go_wp2
 go_ret2
 refine⟨rfl,?_,?_,(hk1.grown hgrow (Lib.ownsRowF_kind hown)).setCell ⟨b,1,none⟩ rfl _⟩
 ·exact Lib.BuilderAtF.put (T:=127) (e:=5) hB hb2 (bs':=bs++Lib.strCells s) (by simpa [Lib.strCells_length] using hown') gE
 ·exact(hb1.grown hgrow (by have:=hb1.size;omega) (fun k hk=>(hown.lt k hk).1)).setCell (p:=⟨b,1,none⟩) hB _
theorem afS(B b:Nat)(l:List UInt8)(w:World)(h:Lib.IsBuilderF 127 5 B b (Lib.byteCells l) w)(h0:l≠[]):
 Calls prog 84 #[.pointer (some ⟨b,0,none⟩)] w fun e w'=>e=.returned (.string ⟨l.toArray⟩)/\Below B w w':=by
 obtain⟨p,hA⟩:∃p,Lib.BuilderAtF 127 5 B b p (Lib.byteCells l) w:=h.elim (fun x=>⟨_,x⟩) (fun x=>⟨_,x⟩);obtain⟨hB,v,hbk,hown,-⟩:=hA
 have hl:l.length≠0:=by simpa using h0
 rw[Lib.byteCells_length] at hown;have hcell:=fun g hg=>hown.cells (g:=g) hg;obtain⟨-,⟨-,hz⟩|⟨g,cap,cur,fz,rfl,hbg,hg,-,hnc,hcm,hcs,-⟩⟩:=hown
 ·exact absurd hz hl
 have hg':w.drew.heap[g]? =some (.cells cur 5 fz):=hg;have hb':w.drew.heap[b]? =some (.cells #[p,.slice (some ⟨g,0,none⟩) l.length cap] 127 (0,0)):=hbk
 have c1:w.drew.cell? ⟨b,1,none⟩=some (.slice (some ⟨g,0,none⟩) l.length cap):=by rw[Lib.cell_of_heap hb'];rfl
 have hSD:(Builtin.unsafeSliceData_ #[22] 184 #[.slice (some ⟨g,0,none⟩) l.length cap]).run prog w.drew=.ok (.pointer (some ⟨g,0,none⟩)) w.drew:=
  Lib.run_unsafeSliceData_row _ _ _ _ _ _ gA
 have hUS:(Builtin.unsafeString_ #[184,3] 9 #[.pointer (some ⟨g,0,none⟩),.int .i64 l.length]).run prog w.drew=.ok (.string ⟨l.toArray⟩) (w.drew.freeze ⟨g,0,none⟩ l.length):=
  Lib.run_unsafeString_row w.drew 184 3 9 5 underlying184 (by kernel_rfl) g cur.size (by simp[World.shape?,hg']) l h0 gA (by unfold maxLen at hcm;omega) fun j x hx=>
   hcell g rfl j (.int .u8 x.toNat) (by simp[Lib.byteCells,hx])
 clear hcell hg' hb'
 go_enter func84,ntmps84
 go_wp2
 go_region
 all_goals (go_wp2;go_ret;exact⟨rfl,Lib.below_freeze (Below.drew (Below.refl B w)) (p:=⟨g,0,none⟩) hbg _⟩)
def iN(by':List UInt8):List (List UInt8)->List UInt8
 |[]=>[]
 |x::xs=>x++(xs.map fun y=>by'++y).flatten
theorem afT(b:List UInt8)(l:List (List UInt8))(x:List UInt8):iN b (l++[x])=if l=[] then x else iN b l++b++x:=by
 cases l with
 |nil=>simp[iN]
 |cons y l=>simp[iN,cf]
mutual
def iO:ah->List UInt8
 | .mk a l=>if a=[] then [40]++iN [32] (nX l)++[41] else a
def nX:List ah->List (List UInt8)
 |[]=>[]
 |x::xs=>iO x::nX xs
end
theorem K4:∀l,nX l=l.map iO
 |[]=>rfl
 |x::xs=>by rw[nX,af,K4 xs]
theorem ZW(x:ah):iO x=if x.aI=[] then [40]++iN [32] (x.aj.map iO)++[41] else x.aI:=by cases x;rw[iO,K4];rfl
theorem Td(b:List UInt8)(l:List (List UInt8))(i:Nat)(hi:i<l.length):iN b (l.take (i+1))=if i=0 then l[i] else iN b (l.take i)++b++l[i]:=by
 rw[bu hi,afT];by_cases h:i=0
 ·rw[if_pos h,if_pos (by rw[h];rfl)]
 ·rw[if_neg h,if_neg (fun e=>h (by have:=congrArg List.length e;rw[cj,al] at this;omega))]
theorem amA(b:List UInt8)(hb:b.length=1):∀l:List (List UInt8),l.length<=(iN b l).length+1
 |[]=>by simp
 |x::xs=>by
  have h:∀ys:List (List UInt8),ys.length<=((ys.map fun y=>b++y).flatten).length:=by
   intro ys
   induction ys with
   |nil=>simp
   |cons y ys ih=>rw[af,cF,ae,ae,aa];omega
  have:=h xs;rw[iN,ae,aa];omega
theorem afU(b:List UInt8)(l:List (List UInt8))(i:Nat):(iN b (l.take i)).length<=(iN b l).length:=by
 by_cases hi:i<l.length
 ·have:∀k,i+k<=l.length->(iN b (l.take i)).length<=(iN b (l.take (i+k))).length:=by
   intro k
   induction k with
   |zero=>intro _;exact ax _
   |succ k ih=>
    intro hk;have h1:=ih gA;rw[<-ec,Td b l (i+k) gA];split
    ·rename_i h0
     have:i=0:=gA
     subst this;simp[iN]
    ·simp only[ae];omega
  have:=this (l.length-i) gA
  rwa [show i+(l.length-i)=l.length by omega,ch] at this
 ·rw[aE gA];exact ax _
theorem aiT(b:List UInt8):∀l:List (List UInt8),(iN b l).length<=(l.map fun x=>b.length+x.length).sum
 |[]=>by simp[iN]
 |x::xs=>by
  have h:∀ys:List (List UInt8),((ys.map fun y=>b++y).flatten).length=(ys.map fun x=>b.length+x.length).sum:=by
   intro ys
   induction ys with
   |nil=>rfl
   |cons y ys ih=>rw[af,cF,ae,ae,ih,af,ez]
  rw[iN,ae,h,af,ez];omega
mutual
theorem Nh:∀x:ah,(iO x).length<=2+3*x.sz
 | .mk a l=>by
   have h:=Te l;rw[iM,jU];simp only[ah.aI,ah.aj];rw[iO];split
   ·have:=aiT [32] (nX l);simp only[ae,aa,al] at this ⊢;omega
   ·omega
theorem Te:∀l:List ah,((nX l).map fun x=>0+1+x.length).sum<=3*l.length+3*dx l
 |[]=>by simp[nX]
 |x::xs=>by
  have h1:=Nh x;have h2:=Te xs;rw[nX,af,ez,dx,aa];omega
end
def K5(x:ah):List UInt8:=if dQ x=true then iO x else []
def BZ(x:ah):List UInt8:=if x.aI=[]/\x.aj.length=0 then [] else K5 x
theorem ZX(x:ah):(x.aI=[]/\x.aj.length=0)<->x=cZ:=by
 refine⟨fun⟨h1,h2⟩=>ah.ext h1 (bz h2),fun h=>by rw[h];exact⟨rfl,rfl⟩⟩
theorem aiU{x:ah}(h:x=cZ):BZ x=[]:=by
 unfold BZ;rw[if_pos ((ZX _).2 h)]
theorem aiV{x:ah}(h:¬x=cZ):BZ x=K5 x:=by
 unfold BZ;rw[if_neg (fun e=>h ((ZX _).1 e))]
theorem amB(x:ah):(BZ x).length<=40000:=by
 unfold BZ K5;split
 ·simp
 ·split
  ·rename_i h;have:=qN h;have:=Nh x;omega
  ·simp
theorem arD{w:World}{σ:Nat->Nat}{xs:List ah}{lv:Value}(h:dO w σ (.sl (xs.map ah.enc)) lv):∃a cap,lv=.slice a xs.length cap/\∀i (hi:i<xs.length),∃k off,a=some ⟨k,off,none⟩/\∃c t fz u,
 w.heap[k]? =some (.cells c t fz)/\c[off+i*2]? =some (.string ⟨xs[i].aI.toArray⟩)/\c[off+(i*2+1)]? =some u/\dO w σ (.sl (xs[i].aj.map ah.enc)) u:=by
 generalize he:xs.map ah.enc=es at h
 have hl:es.length=xs.length:=by rw[<-he,ab]
 cases h with
 |nil a cap=>
  have h0:xs.length=0:=hl.symm;exact⟨a,cap,by rw[h0],fun i hi=>absurd hi gA⟩
 |sl k off cap bB es vals c t fz hcap hlen hb hσ hc hv=>
  refine⟨_,cap,by rw[hl],fun i hi=>⟨k,off,rfl,c,t,fz,?_⟩⟩
  have e1:es[i]' gA=[.s xs[i].aI,.sl (xs[i].aj.map ah.enc)]:=by
   subst he;rw[bp,ah.aC]
   first|rfl|done
  have hz:bB=2:=by
   have:=hlen _ (ac (l:=es) (n:=i) gA);rw[e1] at this;exact this.symm
  subst hz;have hf:∀o (ho:o<2),es.flatten[i*2+o]? =(es[i]' gA)[o]? :=fun o ho=>flat_get es 2 hlen i o gA ho;have h0:=hv (i*2+0) (.s xs[i].aI) (by rw[hf 0 gA,e1];rfl);have h1:=hv (i*2+1) (.sl (xs[i].aj.map ah.enc)) (by rw[hf 1 gA,e1];rfl);refine⟨vals (i*2+1),hb,?_,hc _ gA,h1⟩;have:=hc (i*2+0) gA;generalize vals (i*2+0)=v0 at h0 this;cases h0;exact this
theorem aiW{w:World}{σ:Nat->Nat}{es:List (List D)}{u:Value}(h:dO w σ (.sl es) u):∃a n c,u=.slice a n c:=by
 cases h with
 |nil a c=>exact⟨_,_,_,rfl⟩
 |sl=>exact⟨_,_,_,rfl⟩
theorem Tf(w0:World)(σ:Nat->Nat):∀(n:Nat)(x:ah),x.sz<n->∀(b:Nat)(bs:List Value)(w:World)(lv:Value),dO w0 σ (.sl (x.aj.map ah.enc)) lv->Below w0.heap.size w0 w->
 Lib.IsBuilderF 127 5 w0.heap.size b bs w->bs.length+(iO x).length<=140737488355328->
 Calls prog 83 #[.pointer (some ⟨b,0,none⟩),.agg #[.string ⟨x.aI.toArray⟩,lv]] w fun e w'=>e=.returned (.tuple #[])/\Lib.IsBuilderF 127 5 w0.heap.size b (bs++Lib.byteCells (iO x)) w'/\Below w0.heap.size w w'/\Lib.OthersKept 5 (some b) w w'
 |0=>fun x h=>by omega
 |n+1=>fun x hx b bs w lv hr hbw h hlen=>by
  obtain⟨B,hB⟩:∃B,B=w0.heap.size:=⟨_,rfl⟩
  have hBw:B<=w.heap.size:=by rw[hB];exact hbw.size
  rw[<-hB] at hbw h ⊢
  cases x with|mk s xs=> ?_
  simp only[ah.aI,ah.aj] at *
  have ih:=Tf w0 σ n;rw[<-hB] at ih;have HB:Aside (B=w0.heap.size):=hB;clear hB;by_cases ha:s=[]
  ·subst ha
   have ht:iO (.mk [] xs)=[40]++iN [32] (xs.map iO)++[41]:=by rw[iO,if_pos rfl,K4]
   rw[ht] at hlen ⊢
   have hx:∀i (hi:i<xs.length),xs[i].sz<n:=fun i hi=>by
    have h1:=gY (ac hi);rw[iM,jU] at hx;simp only[ah.aI,ah.aj,al] at hx;omega
   simp only[ae,aa,al] at hlen;have hj:=amA [32] rfl (xs.map iO);rw[ab] at hj;obtain⟨ad,cap,rfl,hrow⟩:=arD hr;clear hr;obtain⟨T,hT⟩:∃T,T=[40]++iN [32] (xs.map iO)++[41]:=⟨_,rfl⟩;rw[<-hT];have HT:Aside (T=[40]++iN [32] (xs.map iO)++[41]):=hT;clear hT ht
   go_enter func83,ntmps83
   go_wp2_with (go_at_call 152;refine(K3 B b bs 40 _ (h.alloc _) ?_ ?_).mono ?_)
   ·omega
   ·simp;omega
   rintro e w1 ⟨rfl,h1,hb1,hk1⟩
   have hbne:w.heap.size≠b:=fun e=>by
    have:b<w.heap.size:=h.elim (fun z=>z.lt) (fun z=>z.lt);omega
   have c1:w1.cell? ⟨w.heap.size,1,none⟩=some (.slice ad xs.length cap):=by
    have:=hk1 w.heap.size _ (heap_alloc_new w _) (fun z=>hbne (cL z)) (fun c fz z=>by cases z);rw[Lib.cell_of_heap this];rfl
   have hb1':Below B w w1:=((Below.refl B w).alloc hBw _).trans hb1;have ajQ:Lib.OthersKept 5 (some b) w w1:=((Lib.OthersKept.refl _ _ w).alloc _).trans hk1;clear hb1 hk1
   go_wp2
   go_loopg [18] xs.length (fun g v wx=>∃i:Nat,i+g=xs.length/\v=.int .i64 i/\Lib.IsBuilderF 127 5 B b (bs++Lib.byteCells ([40]++iN [32] ((xs.map iO).take i))) wx/\Below B w wx/\Lib.OthersKept 5 (some b) w wx)
   case atStart=>exact⟨0,gA,rfl,.inr (by simpa [Lib.byteCells,iN] using h1),hb1',ajQ⟩
   case round=>
    obtain⟨i,hi,rfl,hbd,hbx,hkx⟩:=hrel
    cases gk with
    |zero=>
     obtain rfl:i=xs.length:=gA
     rw[aE gL] at hbd
     go_wp2_with (go_at_call 152;refine(K3 B b _ 41 _ hbd ?_ ?_).mono ?_)
     ·simp only[ae,Lib.byteCells_length,aa,al];omega
     ·exact co hBw hbx.size
     rintro e w2 ⟨rfl,h2,hb2,hk2⟩
     go_wp2
     go_end0
     rw[HT.out];refine⟨rfl,.inr ?_,hbx.trans hb2,hkx.trans hk2⟩;rw[Lib.byteCells_append,<-cf];exact h2
    |succ g=>
     have hil:i<xs.length:=gA
     have hx:=hx i hil;obtain⟨k,off,rfl,c,t,fz,u,hk,hc0,hc1,XV⟩:=hrow i hil;obtain⟨ua,un,uc,rfl⟩:=aiW XV;clear hrow
     have hkB:k<B:=by
      rw[HB.out];exact(bj.1 hk).1
     have hkr:wr.heap[k]? =some (.cells c t fz):=by rw[(hbw.trans hbx).block k hkB];exact hk
     have d0:wr.cell? ⟨k,off+i*2,none⟩=some (.string ⟨xs[i].aI.toArray⟩):=by rw[Lib.cell_of_heap hkr];exact hc0
     have d1:wr.cell? ⟨k,off+i*2+1,none⟩=some (.slice ua un uc):=by rw[Lib.cell_of_heap hkr];exact hc1
     have htk:(iN [32] ((xs.map iO).take (i+1))).length<=(iN [32] (xs.map iO)).length:=afU _ _ _;have hst:=Td [32] (xs.map iO) i (by simpa using hil);by_cases hi0:i=0
     ·rw[if_pos hi0,bp] at hst;rw[hst] at htk;have HST:Aside (iN [32] ((xs.map iO).take (i+1))=iO xs[i]):=hst;have HI:Aside (i=0):=hi0
      have hng:¬(0:Int)<(i:Int):=gA
      clear hst hi0
      have hc:=ih xs[i] hx b _ (wr.alloc (.cells #[.string ⟨xs[i].aI.toArray⟩,.slice ua un uc] 26)) _ XV (hbw.trans (hbx.trans ((Below.refl B wr).alloc (co hBw hbx.size) _))) (hbd.alloc _) (by
       simp only[ae,Lib.byteCells_length,aa,al]
       have hz:iN [32] ((xs.map iO).take i)=[]:=by rw[HI.out];rfl
       rw[hz,al];omega)
      go_wp2_with (go_at_call 83;refine hc.mono ?_;rintro e w2 ⟨rfl,h2,hb2,hk2⟩)
      go_roundg g
      case measure=>omega
      case rel=>
       refine⟨i+1,gA,rfl,?_,hbx.trans (((Below.refl B wr).alloc (co hBw hbx.size) _).trans hb2),hkx.trans (((Lib.OthersKept.refl _ _ wr).alloc _).trans hk2)⟩;rw[HST.out]
       have hz:iN [32] ((xs.map iO).take i)=[]:=by rw[HI.out];rfl
       rw[hz,bm,cf,<-Lib.byteCells_append] at h2;exact h2
     ·rw[if_neg hi0,bp] at hst;rw[hst] at htk;have HST:Aside (iN [32] ((xs.map iO).take (i+1))=iN [32] ((xs.map iO).take i)++[32]++iO xs[i]):=hst
      have hpg:(0:Int)<(i:Int):=gA
      clear hst;simp only[ae,aa,al] at htk
      go_wp2_with (go_at_call 152;refine(K3 B b _ 32 _ (hbd.alloc _) ?_ ?_).mono ?_)
      ·simp only[ae,Lib.byteCells_length,aa,al];omega
      ·exact co (co hBw hbx.size) gL
      rintro e w2 ⟨rfl,h2,hb2,hk2⟩;have hwr:b<wr.heap.size:=hbd.elim (fun z=>z.lt) (fun z=>z.lt);have hq:w2.heap[wr.heap.size]? =_:=hk2 wr.heap.size _ (heap_alloc_new wr _) (fun z=>by have:=cL z;omega) (fun c fz z=>by cases z)
      have q0:w2.cell? ⟨wr.heap.size,0,none⟩=some (.string ⟨xs[i].aI.toArray⟩):=by rw[Lib.cell_of_heap hq];rfl
      have q1:w2.cell? ⟨wr.heap.size,1,none⟩=some (.slice ua un uc):=by rw[Lib.cell_of_heap hq];rfl
      have hb2':Below B wr w2:=((Below.refl B wr).alloc (co hBw hbx.size) _).trans hb2;have avU:Lib.OthersKept 5 (some b) wr w2:=((Lib.OthersKept.refl _ _ wr).alloc _).trans hk2
      have hc:=ih xs[i] hx b _ w2 _ XV (hbw.trans (hbx.trans hb2')) (.inr h2) (by
       simp only[ae,Lib.byteCells_length,aa,al];omega)
      clear hq hb2 hk2
      go_wp2_with (go_at_call 83;refine hc.mono ?_;rintro e w3 ⟨rfl,h3,hb3,hk3⟩)
      go_roundg g
      case measure=>omega
      case rel=>
       refine⟨i+1,gA,rfl,?_,hbx.trans (hb2'.trans hb3),hkx.trans (avU.trans hk3)⟩;rw[HST.out];simpa [Lib.byteCells,cf] using h3
  ·have ht:iO (.mk s xs)=s:=by rw[iO,if_neg ha]
   rw[ht] at hlen ⊢;clear ht hx
   go_enter func83,ntmps83
   have hm:s.isEmpty=false:=by simpa using ha
   go_wp2_with (go_at_call 151;refine(ZV B b bs _ _ (h.alloc _) ?_ ?_).mono ?_)
   ·exact hlen
   ·simp;omega
   ·rintro e w1 ⟨rfl,h1,hb1,hk1⟩
    go_wp2
    refine bodyPost_ret (results_none rfl _ _ _) rfl ?_;rw[Lib.strCells_eq] at h1;exact⟨rfl,.inr h1,((Below.refl B w).alloc hBw _).trans hb1,((Lib.OthersKept.refl _ _ w).alloc _).trans hk1⟩
theorem amC{w:World}{σ:Nat->Nat}(hl:∀b,b<w.heap.size\/σ b=0)(hg:mF w σ):fC w σ [] []:=
 ⟨fun k o h=>(by cases h),fun k k' o o' h h' b h1=>(by cases h1),⟨rfl,fun l fr h=>(by cases h)⟩,hl,hg⟩
theorem FM{P:Program}{f:FuncId}{args:List V}{r:V}(h:aD P f args r){w:World}{σ:Nat->Nat}(hl:∀b,b<w.heap.size\/σ b=0)(hg:mF w σ){vs:List Value}(hv:pO w σ [] [] args vs):
 Calls P f vs.toArray w fun e w'=>∃v σ',e=.returned v/\dR w' σ' [] [] r v/\Grow w σ w' σ'/\mF w' σ':=
 ((h []).2 w σ [] vs (amC hl hg) hv).mono fun e w' ⟨v,r',S',σ',β',he,hS,hk,hst,zy,hr,hS'⟩=>by
   subst hr hS'
   cases β' with
   |cons a l=>have:=hS.shape.1;simp at this
   |nil=>exact⟨v,σ',he,zy,⟨hst.size,hst.os,hst.output,fun b hb=>hst.far b hb (fun⟨k,o,h,e,_⟩=>by cases e),hS.live⟩,hS.vH⟩
theorem ZY{x:V}{vs:List Value}{w:World}{σ:Nat->Nat}{S:Store}{β:Hs}(h:pO w σ S β [x] vs):∃v,vs=[v]/\dR w σ S β x v:=by
 obtain⟨hl,h⟩:=h;obtain⟨v,e0,h0⟩:=h 0 x rfl
 match vs,hl,e0 with
 |[a],_,e0=>simp at e0;subst e0;exact⟨_,rfl,h0⟩
theorem amD(x:ah):iO x≠[]:=by
 rw[ZW];split
 ·simp
 ·assumption
theorem arE{w:World}{σ:Nat->Nat}{S:Store}{β:Hs}{x:ah}{u:Value}(h:dR w σ S β x.v u):∃lv,u=.agg #[.string ⟨x.aI.toArray⟩,lv]/\dO w σ (.sl (x.aj.map ah.enc)) lv/\lv.oneCell'=true:=by
 rw[<-ah.Ml,ah.aC] at h;obtain⟨a,rfl,hl,h⟩:=h;obtain⟨v0,e0,h0,_⟩:=h 0 _ rfl;obtain⟨v1,e1,h1,h1c⟩:=h 1 _ rfl
 obtain rfl:v0=.string ⟨x.aI.toArray⟩:=by cases h0;rfl
 refine⟨v1,?_,h1,h1c⟩
 have:a.toList=[.string ⟨x.aI.toArray⟩,v1]:=by
  match hq:a.toList,hl,e0,e1 with
  |[p,q],_,e0,e1=>simp at e0 e1;rw[e0,e1]
 rw[<-this]
theorem ab2(x:ah)(hsz:x.sz<=67108864)(w:World)(σ:Nat->Nat)(hl:∀b,b<w.heap.size\/σ b=0)(hgl:mF w σ)(lv:Value)(hr:dO w σ (.sl (x.aj.map ah.enc)) lv)(hlv:lv.oneCell'=true):
 Calls prog 28 #[.agg #[.string ⟨x.aI.toArray⟩,lv]] w fun e w'=>e=.returned (.string ⟨(K5 x).toArray⟩)/\∃σ',Grow w σ w' σ'/\mF w' σ':=by
 obtain⟨wb,hwb⟩:∃wb,wb=w.alloc (.cells #[.string ⟨x.aI.toArray⟩,lv] 26):=⟨_,rfl⟩
 have hg0:Grow w σ wb σ:=by
  rw[hwb];refine⟨gL,rfl,rfl,fun b hb=>⟨Lib.alloc_old w _ b hb,rfl⟩,fun b=> ?_⟩;rcases hl b with h|h
  ·left;simp;omega
  ·exact .inr h
 have hrb:=dO.mono hg0.near hr
 have hv:pO wb σ [] [] [x.v] [.agg #[.string ⟨x.aI.toArray⟩,lv]]:=by
  refine⟨rfl,fun j y hy=> ?_⟩
  match j,hy with
  |0,hy=>
   simp at hy;subst hy;refine⟨_,rfl,?_⟩;rw[<-ah.Ml,ah.aC];refine⟨_,rfl,rfl,fun j y hy=> ?_⟩
   match j,hy with
   |0,hy=>simp at hy;subst hy;exact⟨_,rfl,.s _,rfl⟩
   |1,hy=>simp at hy;subst hy;exact⟨_,rfl,hrb,hlv⟩
 have hc:=FM (rJ x hsz) hg0.live (hgl.near hg0.near) hv
 have hc:Calls prog 56 #[.agg #[.string ⟨x.aI.toArray⟩,lv]] wb fun e w'=>e=.returned (.bool (dQ x))/\∃σ',Grow wb σ w' σ'/\mF w' σ':=
  hc.mono fun e w' ⟨v,σ',he,zy,hg,hgl⟩=>by
   obtain rfl:v=.bool (dQ x):=by cases zy.1;rfl
   exact⟨he,σ',hg,hgl⟩
 rw[hwb] at hc hg0;have HF:Aside (K5 x=if dQ x=true then iO x else []):=rfl;obtain⟨T,hT⟩:∃T,T=K5 x:=⟨_,rfl⟩;rw[<-hT] at HF ⊢;clear hT;by_cases vV:dQ x=true
 ·rw[if_pos vV] at HF;rw[vV] at hc
  go_enter func28,ntmps28
  go_wp2_with (go_at_call 56;refine hc.mono ?_)
  rintro e w1 ⟨rfl,σ1,hg1,CY⟩
  have hlt:w.heap.size<(w.alloc (.cells #[.string ⟨x.aI.toArray⟩,lv] 26)).heap.size:=gL
  have hq:w1.heap[w.heap.size]? =_:=(hg1.old _ hlt).1.trans (heap_alloc_new w _)
  have c0:w1.cell? ⟨w.heap.size,0,none⟩=some (.string ⟨x.aI.toArray⟩):=by rw[Lib.cell_of_heap hq];rfl
  have c1:w1.cell? ⟨w.heap.size,1,none⟩=some lv:=by rw[Lib.cell_of_heap hq];rfl
  have hlt1:w.heap.size<w1.heap.size:=df hlt hg1.size;have hq1:=(Lib.alloc_old w1 (.cells #[.pointer none,.slice none 0 0] 127) _ hlt1).trans hq
  have d0:(w1.alloc (.cells #[.pointer none,.slice none 0 0] 127)).cell? ⟨w.heap.size,0,none⟩=some (.string ⟨x.aI.toArray⟩):=by rw[Lib.cell_of_heap hq1];rfl
  have d1:(w1.alloc (.cells #[.pointer none,.slice none 0 0] 127)).cell? ⟨w.heap.size,1,none⟩=some lv:=by rw[Lib.cell_of_heap hq1];rfl
  have hr1:dO w1 σ1 (.sl (x.aj.map ah.enc)) lv:=dO.mono (hg0.trans hg1).near hr
  have hbd:Lib.IsBuilderF 127 5 w1.heap.size w1.heap.size [] (w1.alloc (.cells #[.pointer none,.slice none 0 0] 127)):=
   .inl ⟨ax _,_,heap_alloc_new w1 _,⟨rfl,.inl ⟨rfl,rfl⟩⟩,by simp[Value.ownBlock]⟩
  have hW:=Tf w1 σ1 (x.sz+1) x (cg _) w1.heap.size [] _ lv hr1 ((Below.refl _ w1).alloc (ax _) _) hbd (by
   have:=Nh x
   simp only[al];omega)
  clear hq hbd hq1
  go_wp2_with (go_at_call 83;refine hW.mono ?_)
  rintro e w2 ⟨rfl,h2,hb2,hk2⟩;rw[bc] at h2;have hT:=afS w1.heap.size w1.heap.size (iO x) w2 h2 (amD x)
  go_wp2_with (go_at_call 84;refine hT.mono ?_)
  rintro e w3 ⟨rfl,hb3⟩
  go_wp2
  go_ret
  rw[HF.out];have hb:Below w1.heap.size w1 w3:=(((Below.refl _ w1).alloc (ax _) _).trans hb2).trans hb3;have hg3:Grow w1 σ1 w3 σ1:=⟨hb.size,hb.os,hb.output,fun k hk=>⟨hb.block k hk,rfl⟩,fun k=>(hg1.live k).elim (fun h=>.inl (df h hb.size)) .inr⟩;exact⟨rfl,σ1,(hg0.trans hg1).trans hg3,CY.near hg3.near⟩
 ·rw[if_neg vV] at HF;simp only[Bool.not_eq_true] at vV;rw[vV] at hc
  go_enter func28,ntmps28
  go_wp2_with (go_at_call 56;refine hc.mono ?_;rintro e w1 ⟨rfl,σ1,hg1,CY⟩)
  go_ret
  rw[HF.out];exact⟨rfl,σ1,hg0.trans hg1,CY⟩
theorem UE(x:ah)(hsz:x.sz<=67108864):aD prog 28 [x.v] (.c (.d (.s (K5 x)))):=fun S=>by
 refine⟨⟨_,func28,by kernel_rfl,by kernel_rfl⟩,fun w σ β vs hS hv=> ?_⟩;obtain⟨u,rfl,hu⟩:=ZY hv;obtain⟨lv,rfl,hr,hlv⟩:=arE hu;refine(ab2 x hsz w σ hS.live hS.vH lv hr hlv).mono fun e w' ⟨he,σ',hg,_⟩=> ?_;exact⟨_,.c (.d (.s (K5 x))),S,σ',β,he,hS.grow hg,Keep.refl _ _,Step.oQ hg,⟨.s _,rfl⟩,rfl,rfl⟩
structure EK(w:World)(σ:Nat->Nat)(B:Nat)(e:TypeId)(v:Value)(l:List ah):Prop where
 own:∃xs,w.ownsRow B e 2 v l.length xs/\∀(i:Nat)(d:D),(l.map ah.enc).flatten[i]? =some d->∃u,xs[i]? =some u/\dO w σ d u
 free:∀b,v.ownBlock=some b->σ b=0
theorem IC{w w':World}{B:Nat}{e:TypeId}{z n:Nat}{v:Value}{xs:List Value}(h:w.ownsRow B e z v n xs)(hk:∀b,v.ownBlock=some b->w'.heap[b]? =w.heap[b]?):w'.ownsRow B e z v n xs:=by
 refine⟨h.1,?_⟩;rcases h.2 with hn|⟨g,cap,cur,rfl,hb,hg,rest⟩
 ·exact .inl hn
 ·exact .inr ⟨g,cap,cur,rfl,hb,(hk g rfl).trans hg,rest⟩
theorem EK.mono{w w':World}{σ σ':Nat->Nat}{B:Nat}{e:TypeId}{v:Value}{l:List ah}(h:EK w σ B e v l)(hn:eH w σ w' σ')(hk:∀b,v.ownBlock=some b->w'.heap[b]? =w.heap[b]? /\σ' b=σ b):EK w' σ' B e v l:=by
 obtain⟨⟨xs,h1,h2⟩,h3⟩:=h;refine⟨⟨xs,IC h1 fun b hb=>(hk b hb).1,fun i d hd=> ?_⟩,fun b hb=>(hk b hb).2.trans (h3 b hb)⟩;obtain⟨u,hu,hr⟩:=h2 i d hd;exact⟨u,hu,hr.mono hn⟩
theorem G8(l:List ah):∀e∈l.map ah.enc,e.length=2:=by
 intro e he;obtain⟨x,_,rfl⟩:=cr.1 he;rw[ah.aC];rfl
theorem EK.fast{w:World}{σ:Nat->Nat}{B:Nat}{e:TypeId}{v:Value}{l:List ah}(h:EK w σ B e v l)(hl:∀b,b<w.heap.size\/σ b=0):
 ∃σ',eH w σ w σ'/\(∀b,v.ownBlock≠some b->σ' b=σ b)/\(∀b,b<w.heap.size\/σ' b=0)/\dO w σ' (.sl (l.map ah.enc)) v:=by
 obtain⟨⟨xs,⟨h1,h2⟩,h3⟩,h4⟩:=h;rcases h2 with⟨rfl,h0⟩|⟨g,cap,cur,rfl,hb,hg,hn,hm,hs,ht⟩
 ·obtain rfl:l=[]:=bz h0;exact⟨σ,eH.refl _ _,fun _ _=>rfl,hl,.nil _ _⟩
 have hn':eH w σ w (fun b=>if b=g then 0+(l.map ah.enc).length*2 else σ b):=by
  intro b1 c1 t1 DJ e1;by_cases q:b1=g
  ·subst q;have:=h4 b1 rfl;rw[hg] at e1;cases e1;exact⟨by simp only[if_true];omega,fun h=>gA,cur,hg,rfl,fun _ _=>rfl⟩
  ·exact⟨by simp only[if_neg q];exact ax _,fun _=>if_neg q,c1,e1,rfl,fun _ _=>rfl⟩
 refine⟨_,hn',fun b hb=>if_neg fun q=>hb (by rw[q];rfl),fun b=> ?_,?_⟩
 ·by_cases q:b=g
  ·left;rw[q];exact lt_of_some hg
  ·simp only[if_neg q];exact hl b
 ·have hlen:(l.map ah.enc).length=l.length:=gL
  have hfl:=iT _ 2 (G8 l)
  have:=dO.sl (w:=w) (σ:=fun b=>if b=g then 0+(l.map ah.enc).length*2 else σ b) g 0 cap 2 (l.map ah.enc) (fun i=>(cur[i]?).getD undef) cur e (0,0) gA (G8 l) hg gL (fun i hi=>by
   have:i<cur.size:=by rw[hlen] at hi;have:l.length*2<=cap*2:=cx _ hn;omega
   simp[this]) (fun i d hd=>by
   obtain⟨u,hu,hr⟩:=h3 i d hd;have hil:=(ap.1 hd).1;rw[<-ht,ck gA,cm] at hu;simp only[hu,dq]
   exact hr.mono hn')
  simp only[ab] at this ⊢;exact this
structure kQ(w:World)(σ:Nat->Nat)(B:Nat)(eo e:TypeId)(ov:Value)(hs:List Value)(rs:List (List ah)):Prop where
 own:w.ownsRow B eo 1 ov hs.length hs
 free:∀b,ov.ownBlock=some b->σ b=0
 rows:∀(j:Nat)(l:List ah),rs[j]? =some l->∃hv,hs[j]? =some hv/\EK w σ B e hv l/\∀b,hv.ownBlock=some b->ov.ownBlock≠some b
 apart:∀(i j:Nat)(hi hj:Value)(b:Nat),i≠j->i<rs.length->j<rs.length->hs[i]? =some hi->hs[j]? =some hj->hi.ownBlock=some b->hj.ownBlock≠some b
theorem kQ.mono{w w':World}{σ σ':Nat->Nat}{B:Nat}{eo e:TypeId}{ov:Value}{hs:List Value}{rs:List (List ah)}(h:kQ w σ B eo e ov hs rs)(hn:eH w σ w' σ')
 (hk:∀b,b<w.heap.size->σ b=0->w'.heap[b]? =w.heap[b]? /\σ' b=σ b):kQ w' σ' B eo e ov hs rs:=by
 have hlt:∀b,ov.ownBlock=some b->b<w.heap.size:=fun b hb=>(h.own.lt b hb).2;refine⟨IC h.own fun b hb=>(hk b (hlt b hb) (h.free b hb)).1,fun b hb=>(hk b (hlt b hb) (h.free b hb)).2.trans (h.free b hb),fun j l hj=> ?_,h.apart⟩;obtain⟨hv,h1,h2,h3⟩:=h.rows j l hj;refine⟨hv,h1,h2.mono hn fun b hb=> ?_,h3⟩;obtain⟨xs,ho,_⟩:=h2.own;exact hk b (ho.lt b hb).2 (h2.free b hb)
theorem kQ.grow{w w':World}{σ σ':Nat->Nat}{B:Nat}{eo e:TypeId}{ov:Value}{hs:List Value}{rs:List (List ah)}(h:kQ w σ B eo e ov hs rs)(hg:Grow w σ w' σ'):kQ w' σ' B eo e ov hs rs:=
 h.mono hg.near fun b hb _=>hg.old b hb
theorem kQ.fast{w:World}{σ:Nat->Nat}{B:Nat}{eo e:TypeId}{ov:Value}{hs:List Value}{rs:List (List ah)}{l:List ah}(h:kQ w σ B eo e ov hs (rs++[l]))(hl:∀b,b<w.heap.size\/σ b=0):
 ∃σ' hv,eH w σ w σ'/\(∀b,b<w.heap.size\/σ' b=0)/\(∀b,b<B->σ' b=σ b)/\hs[rs.length]? =some hv/\dO w σ' (.sl (l.map ah.enc)) hv/\kQ w σ' B eo e ov hs rs:=by
 obtain⟨hv,h1,h2,h3⟩:=h.rows rs.length l gL;obtain⟨σ',k1,k2,k3,k4⟩:=h2.fast hl;refine⟨σ',hv,k1,k3,fun b hb=>k2 b fun q=> ?_,h1,k4,h.own,fun b hb=>(k2 b fun q=>h3 b q hb).trans (h.free b hb),fun j l' hj=> ?_,fun i j hi hj b q1 q2 q3=>h.apart i j hi hj b q1 gR gR⟩
 ·obtain⟨xs,ho,_⟩:=h2.own;have:=(ho.lt b q).1;omega
 ·have hjl:=(ap.1 hj).1;obtain⟨hv',g1,g2,g3⟩:=h.rows j l' (by rw[aq hjl];exact hj);exact⟨hv',g1,g2.mono k1 fun b hb=>⟨rfl,k2 b fun q=>h.apart j rs.length hv' hv b gA gR gL g1 h1 hb q⟩,g3⟩
def rE(w W:World):Prop:=∀(b:Nat)(c:Array Value)(t:TypeId)(fz:Nat×Nat),w.heap[b]? =some (.cells c t fz)->∃c',W.heap[b]? =some (.cells c' t fz)/\c'.size=c.size
theorem rE.trans{a b c:World}(h:rE a b)(k:rE b c):rE a c:=fun x y t fz e=>by
 obtain⟨c1,e1,s1⟩:=h x y t fz e;obtain⟨c2,e2,s2⟩:=k x c1 t fz e1;exact⟨c2,e2,s2.trans s1⟩
theorem rE.setCell(w:World)(a:Addr)(v:Value)(ha:a.spot=none):rE w (w.setCell a v):=fun b c t fz e=>by
 obtain⟨bb,off,sp⟩:=a;simp only at ha;subst ha;by_cases q:bb=b
 ·subst q;exact⟨c.setIfInBounds off v,by simp[World.setCell,db,e],gL⟩
 ·exact⟨c,by simp[World.setCell,db,q,e],rfl⟩
theorem rE.alloc(w:World)(o:Go.Obj):rE w (w.alloc o):=fun b c t fz e=>⟨c,(Lib.alloc_old w o b (lt_of_some e)).trans e,rfl⟩
theorem Oy{w W:World}{σ:Nat->Nat}(hs:rE w W)(hf:∀b,σ b≠0->W.heap[b]? =w.heap[b]?):eH w σ W σ:=by
 intro b c t fz e;refine⟨ax _,fun _=>rfl,?_⟩;by_cases h0:σ b=0
 ·obtain⟨c',e',hz⟩:=hs b c t fz e;exact⟨c',e',hz,fun i hi=>gA⟩
 ·exact⟨c,(hf b h0).trans e,rfl,fun _ _=>rfl⟩
theorem kQ.put{w W:World}{σ:Nat->Nat}{B g cap j:Nat}{eo e:TypeId}{hs:List Value}{rs:List (List ah)}{l':List ah}{hv hv':Value}{cur:Array Value}(hl:∀b,b<w.heap.size\/σ b=0)
 (h:kQ w σ B eo e (.slice (some ⟨g,0,none⟩) hs.length cap) hs rs)(hj:j<rs.length)(hh:hs[j]? =some hv)(hn:eH w σ W σ)(hg:w.heap[g]? =some (.cells cur eo (0,0)))(hG:W.heap[g]? =some (.cells (cur.setIfInBounds j hv') eo (0,0)))
 (vJ:∀b,b<w.heap.size->b≠g->hv.ownBlock≠some b->W.heap[b]? =w.heap[b]?)(hrow:EK W σ B e hv' l')(hblk:∀b,hv'.ownBlock=some b->hv.ownBlock=some b\/w.heap.size<=b):
 kQ W σ B eo e (.slice (some ⟨g,0,none⟩) hs.length cap) (hs.set j hv') (rs.set j l'):=by
 have hgl:=lt_of_some hg;have hg0:σ g=0:=h.free g rfl;obtain⟨l,hlj⟩:∃l,rs[j]? =some l:=⟨_,am hj⟩;obtain⟨hv0,a1,a2,a3⟩:=h.rows j l hlj;rw[hh] at a1;cases a1;have Ls:=(ap.1 hh).1
 have low:∀(i:Nat)(l0:List ah)(hv0:Value),rs[i]? =some l0->hs[i]? =some hv0->∀b,hv0.ownBlock=some b->b<w.heap.size:=fun i l0 hv0 e1 e2 b hb=>by
  obtain⟨hv1,c1,c2,_⟩:=h.rows i l0 e1;rw[e2] at c1;cases c1;obtain⟨xs,ho,_⟩:=c2.own;exact(ho.lt b hb).2
 refine⟨?_,h.free,fun i l0 hi=> ?_,fun i k hi hk b hne h1 h2 e1 e2 e3=> ?_⟩
 ·rw[cW];obtain⟨o1,o2⟩:=h.own;refine⟨by rw[cW];exact o1,?_⟩;rcases o2 with⟨o2,_⟩|⟨g0,cap0,axv,e0,hb0,hg0',hn0,hm0,hs0,ht0⟩
  ·cases o2
  ·cases e0;rw[hg] at hg0';cases hg0';refine .inr ⟨g,cap,_,rfl,hb0,hG,hn0,hm0,by simpa using hs0,?_⟩;rw[Nat.mul_one] at ht0 ⊢;rw[eQ,List.take_set,ht0]
 ·by_cases q:i=j
  ·subst q
   have:l'=l0:=by
    rw[dS hj] at hi;exact cL hi
   subst this;refine⟨hv',dS Ls,hrow,fun b hb q=> ?_⟩;cases q;rcases hblk g hb with k|k
   ·exact a3 g k rfl
   ·omega
  ·rw[eE (Ne.symm q)] at hi ⊢;obtain⟨hv1,c1,c2,c3⟩:=h.rows i l0 hi;refine⟨hv1,c1,c2.mono hn fun b hb=>⟨vJ b (low i l0 hv1 hi c1 b hb) (fun e=>c3 b hb (by rw[e];rfl)) fun e=> ?_,rfl⟩,c3⟩;exact h.apart i j hv1 hv b q (ap.1 hi).1 hj c1 hh hb e
 ·rw[cW] at h1 h2;by_cases q:i=j
  ·subst q;rw[dS Ls] at e1;cases e1;rw[eE hne] at e2;intro q3;rcases hblk b e3 with k'|k'
   ·exact h.apart i k hv hk b hne h1 h2 hh e2 k' q3
   ·have:=low k _ hk (am h2) e2 b q3;omega
  ·rw[eE (Ne.symm q)] at e1;by_cases q2:k=j
   ·subst q2;rw[dS Ls] at e2;cases e2;intro q3;rcases hblk b q3 with k'|k'
    ·exact h.apart i k hi hv b hne h1 h2 e1 hh e3 k'
    ·have:=low i _ hi (am h1) e1 b e3;omega
   ·rw[eE (Ne.symm q2)] at e2;exact h.apart i k hi hk b hne h1 h2 e1 e2 e3
theorem Ni{P:Program}(w:World)(base:Nat)(t ty e:TypeId)(i:TypeInfo)(z:Value)(size bytes:Nat)(ht:P.underlying t=some (.slice e))(hi:P.info? e=some i)(hz:i.zero=some z)
 (hsize:i.size=size)(hby:i.bytes=bytes)(hzs:z.cells.size=size)(hsz:0<size)
 (v:Value)(n:Nat)(xs:List Value)(hown:w.ownsRow base e size v n xs)
 (a:Addr)(m c:Nat)(news:List Value)(hl:news.length=m*size)(hnews:∀j u,news[j]? =some u->w.cell? (a.add j)=some u)(h1:∀u∈news,u.oneCell'=true)
 (hm:0<m)(h63:n+m<=maxLen)(hbytes:(n+m)*bytes<=140737488355328)(hbase:base<=w.heap.size):
 ∃g cap w',(Builtin.append_ #[t,t] ty #[v,.slice (some a) m c]).run P w=.ok (.slice (some ⟨g,0,none⟩) (n+m) cap) w'/\w'.ownsRow base e size (.slice (some ⟨g,0,none⟩) (n+m) cap) (n+m) (xs++news)/\w.grownBy w' v.ownBlock/\
  (v.ownBlock=some g\/g=w.heap.size)/\g<w'.heap.size/\rE w w':=by
 obtain⟨g,cap,w',hr,h2,h3,h4,h5⟩:=run_append_lies (P:=P) w t ty base e i z size bytes ht hi hz hsize hby hzs hsz v n xs hown a m c news hl hnews h1 hm h63 hbytes hbase w.heap.size rfl;refine⟨g,cap,w',hr,h2,h3,h4,h5,fun b cc tt fz hb=> ?_⟩;by_cases q:v.ownBlock=some b
 rotate_left
 ·exact⟨cc,(h3.block b (lt_of_some hb) fun e=>q e.symm).trans hb,rfl⟩
 rcases hown.2 with⟨rfl,_⟩|⟨g0,cap0,cur,rfl,hbg,hg,hnc,hcm,hcs,htake⟩
 ·cases q
 cases q;rw[hg] at hb;cases hb;subst hsize;by_cases hroom:n+m<=cap0
 ·have hr':=run_append_roomF (P:=P) w t ty e i ht hi g0 n cap0 cc (0,0) hg (an _) a m c news hl hnews h1 hroom (by rw[hl,hcs,<-cS];exact cx _ hroom);rw[hr] at hr';injection hr' with _ hw;subst hw;refine⟨_,setRow_heap w g0 cc _ e _ hg,?_⟩
  have hmul:n*i.size+m*i.size<=cap0*i.size:=by rw[<-cS];exact cx _ hroom
  simp only[ea,ae,cj,bk,cp];omega
 ·have holds:∀j u,xs[j]? =some u->w.cell? ((⟨g0,0,none⟩:Addr).add j)=some u:=hown.cells (g:=g0) rfl;have hr':=run_append_grow (P:=P) w t ty e i z ht hi hz ⟨g0,0,none⟩ n cap0 xs hown.1 holds a m c news hl hnews gA (by simp only[maxLen] at h63;omega) (growslice_fits (by simp only[maxLen] at h63;omega) (by rw[hby];exact hbytes));rw[hr] at hr';injection hr' with _ hw;subst hw;exact⟨cc,(Lib.alloc_old w.drew _ _ (lt_of_some hg)).trans hg,rfl⟩
theorem amE(w:World)(σ:Nat->Nat)(B:Nat)(e:TypeId):EK w σ B e (.slice none 0 0) []:=
 ⟨⟨[],⟨rfl,.inl ⟨rfl,rfl⟩⟩,fun i d hd=>by cases hd⟩,fun b hb=>by cases hb⟩
theorem amF{P:Program}{w w0:World}{σ σ0:Nat->Nat}{B g n cap:Nat}{eo e ty t:TypeId}{hs:List Value}{rs:List (List ah)}{i:TypeInfo}{bytes:Nat}(ht:P.underlying t=some (.slice eo))(hi:P.info? eo=some i)(hz:i.zero=some (.slice none 0 0))
 (hsize:i.size=1)(hby:i.bytes=bytes)(h:kQ w σ B eo e (.slice (some ⟨g,0,none⟩) n cap) hs rs)(hn:hs.length=n)(hr:rs.length=n)(hbz:bytes<=1024)(hn2:n<=1048576)
 (ad:Addr)(c:Nat)(hc:w.cell? ad=some (.slice none 0 0))(had:ad.add 0=ad)(hl:∀b,b<w.heap.size\/σ b=0)(hB:B<=w.heap.size):
 ∃g' cap' w',(Builtin.append_ #[t,t] ty #[.slice (some ⟨g,0,none⟩) n cap,.slice (some ad) 1 c]).run P w=.ok (.slice (some ⟨g',0,none⟩) (n+1) cap') w'/\
  kQ w' σ B eo e (.slice (some ⟨g',0,none⟩) (n+1) cap') (hs++[.slice none 0 0]) (rs++[[]])/\eH w σ w' σ/\(∀b,b<w.heap.size->b≠g->w'.heap[b]? =w.heap[b]?)/\w.heap.size<=w'.heap.size/\w'.os=w.os/\w'.output=w.output:=by
 subst hn
 obtain⟨g',cap',w',q1,q2,q3,q4,q5,q6⟩:=Ni (P:=P) w B t ty eo i (.slice none 0 0) 1 bytes ht hi hz hsize hby rfl gA _ _ _ h.own ad 1 c [.slice none 0 0] rfl (fun j u hu=>by
  match j,hu with
  |0,hu=>cases hu;rw[had];exact hc
  |j+1,hu=>cases hu) (fun u hu=>by rw[ej.1 hu];rfl) gA (by unfold maxLen;omega) (by
   have:(hs.length+1)*bytes<=(1048576+1)*1024:=gx gA hbz
   omega) hB
 have hg0:σ g=0:=h.free g rfl;have hold:∀b,b<w.heap.size->b≠g->w'.heap[b]? =w.heap[b]? :=fun b hb hne=>q3.block b hb fun e=>hne (cL e);have hnr:eH w σ w' σ:=Oy q6 fun b hb=>hold b ((hl b).elim id fun e=>absurd e hb) fun e=>hb (by rw[e];exact hg0);refine⟨g',cap',w',q1,?_,hnr,hold,q3.size,q3.os,q3.output⟩;have hgl:g<w.heap.size:=(h.own.lt g rfl).2;have q4':g'=g\/g'=w.heap.size:=q4.elim (fun e=>.inl (cL e).symm) .inr;refine⟨by rw[ae];exact q2,fun b hb=> ?_,fun j l hj=> ?_,fun a b ha hb x hne h1 h2 e1 e2 e3=> ?_⟩
 ·cases hb;rcases q4' with rfl|rfl
  ·exact hg0
  ·exact(hl _).elim (fun h=>absurd h (Nat.lt_irrefl _)) id
 ·by_cases hjr:j<rs.length
  ·rw[aq hjr] at hj;obtain⟨hv,a1,a2,a3⟩:=h.rows j l hj;obtain⟨xs,ho,_⟩:=a2.own;refine⟨hv,by rw[aq (ap.1 a1).1];exact a1,a2.mono hnr fun b hb=>⟨hold b (ho.lt b hb).2 fun e=>a3 b hb (by rw[e];rfl),rfl⟩,fun b hb q=> ?_⟩;cases q;rcases q4' with rfl|rfl
   ·exact a3 _ hb rfl
   ·exact absurd (ho.lt _ hb).2 (Nat.lt_irrefl _)
  ·have hj0:j=rs.length:=by
    have:=(ap.1 hj).1;simp at this;omega
   subst hj0;rw[ag (ax _),cM] at hj;cases hj;exact⟨.slice none 0 0,by rw[ag gA,hr,cM];rfl,amE _ _ _ _,fun b hb=>by cases hb⟩
 ·by_cases ha':a<rs.length
  ·by_cases hb':b<rs.length
   ·rw[aq gA] at e1 e2;exact h.apart a b ha hb x hne ha' hb' e1 e2 e3
   ·have:b=rs.length:=by simp at h2;omega
    subst this;rw[ag gA,hr,cM] at e2;cases e2;intro q;cases q
  ·have:a=rs.length:=by simp at h1;omega
   subst this;rw[ag gA,hr,cM] at e1;cases e1;cases e3
theorem afV{w:World}(o:Go.Obj){b j:Nat}{u:Value}(h:w.cell? ⟨b,j,none⟩=some u):(w.alloc o).cell? ⟨b,j,none⟩=some u:=by
 cases hb:w.heap[b]? with
 |none=>simp[World.cell?,hb] at h
 |some o'=>
  rw[<-h];exact World.cell?_of_block (Lib.alloc_old w o b (lt_of_some hb))
theorem Tg{w:World}{σ:Nat->Nat}{B g cap n:Nat}{eo e:TypeId}{hs:List Value}{rs:List (List ah)}(h:kQ w σ B eo e (.slice (some ⟨g,0,none⟩) n cap) hs rs)(j:Nat):w.frozen? ⟨g,j,none⟩=false:=by
 rcases h.own.2 with⟨h1,_⟩|⟨g0,cap0,cur,e0,_,hg,_⟩
 ·cases h1
 ·simp only[Value.slice.injEq,cC,Addr.mk.injEq,and_true] at e0;obtain⟨rfl,_,rfl⟩:=e0;exact Lib.frozen_of_heap hg j
theorem lC{w:World}{g j b:Nat}{v:Value}(h:b≠g):(w.setCell ⟨g,j,none⟩ v).heap[b]? =w.heap[b]? :=by
 simp[World.setCell,db,Ne.symm h]
theorem Qr{w:World}{g j:Nat}{v:Value}{cur:Array Value}{t:TypeId}{fz:Nat×Nat}(h:w.heap[g]? =some (.cells cur t fz)):(w.setCell ⟨g,j,none⟩ v).heap[g]? =some (.cells (cur.setIfInBounds j v) t fz):=by
 simp[World.setCell,db,h]
theorem amG{w:World}{σ:Nat->Nat}{B g n cap:Nat}{eo e:TypeId}{hs:List Value}{hv:Value}{rs:List (List ah)}(h:kQ w σ B eo e (.slice (some ⟨g,0,none⟩) (n+1) cap) (hs++[hv]) rs)(hn:hs.length=n)(hr:rs.length<=n):
 kQ w σ B eo e (.slice (some ⟨g,0,none⟩) n cap) hs rs:=by
 refine⟨?_,h.free,fun j l' hj=> ?_,fun i j hi hj b hne h1 h2 e1 e2=> ?_⟩
 ·obtain⟨o1,o2⟩:=h.own;refine⟨by rw[hn];omega,?_⟩;rcases o2 with⟨o2,_⟩|⟨g0,cap0,cur,e0,hb,hg,hnc,hm,hsz,ht⟩
  ·cases o2
  ·simp only[Value.slice.injEq,cC,Addr.mk.injEq,and_true] at e0;obtain⟨rfl,_,rfl⟩:=e0;refine .inr ⟨g,cap,cur,by rw[hn],hb,hg,?_,hm,hsz,?_⟩
   ·rw[ae] at hnc;omega
   ·have:=congrArg (List.take (hs.length*1)) ht;rw[List.take_take,ae,gj gL] at this;rw[this,Nat.mul_one,List.take_append_of_le_length (ax _),ch]
 ·have hjl:=(ap.1 hj).1;obtain⟨hv',a1,a2,a3⟩:=h.rows j l' hj;rw[aq gA] at a1;exact⟨hv',a1,a2,a3⟩
 ·have i1:=(ap.1 e1).1;have j1:=(ap.1 e2).1;exact h.apart i j hi hj b hne h1 h2 (by rw[aq i1];exact e1) (by rw[aq j1];exact e2)
theorem Z0{W:World}{σ:Nat->Nat}{B:Nat}{e:TypeId}{v:Value}{l:List ah}{ys:List Value}{x:ah}{lv:Value}
 (hown:W.ownsRow B e 2 v (l.length+1) (ys++[.string ⟨x.aI.toArray⟩,lv]))(hys:ys.length=l.length*2)
 (hy:∀(i:Nat) (d:D),(l.map ah.enc).flatten[i]? =some d->∃u,ys[i]? =some u/\dO W σ d u)(hx:dO W σ (.sl (x.aj.map ah.enc)) lv)(hf:∀b,v.ownBlock=some b->σ b=0):EK W σ B e v (l++[x]):=by
 have hfl:(l.map ah.enc).flatten.length=l.length*2:=by
  have:=iT (l.map ah.enc) 2 (G8 l);simpa using this
 have e1:([x].map ah.enc).flatten=[.s x.aI,.sl (x.aj.map ah.enc)]:=by
  rw[List.map_singleton,List.flatten_singleton,ah.aC]
 refine⟨⟨_,by rw[ae,eg];exact hown,fun i d hd=> ?_⟩,hf⟩;rw[bw,cV,e1] at hd;by_cases hi:i<l.length*2
 ·rw[aq gA] at hd;obtain⟨u,hu,hr⟩:=hy i d hd;exact⟨u,by rw[aq gA];exact hu,hr⟩
 ·rw[ag gA,hfl] at hd
  have hw:(ys++[Value.string ⟨x.aI.toArray⟩,lv])[i]? =[Value.string ⟨x.aI.toArray⟩,lv][i-l.length*2]? :=by
   rw[ag gA,hys]
  rw[hw];generalize i-l.length*2=k at hd
  match k,hd with
  |0,hd=>simp at hd;subst hd;exact⟨_,rfl,.s _⟩
  |1,hd=>simp at hd;subst hd;exact⟨_,rfl,hx⟩
  |k+2,hd=>simp at hd
theorem apu{w w2:World}{σ:Nat->Nat}{B g cap j:Nat}{eo e:TypeId}{hs:List Value}{rs:List (List ah)}{l:List ah}{hv hv':Value}{x:ah}{lv:Value}{ys:List Value}(hl:∀b,b<w.heap.size\/σ b=0)
 (hst:kQ w σ B eo e (.slice (some ⟨g,0,none⟩) hs.length cap) hs rs)(hjl:rs[j]? =some l)(hh:hs[j]? =some hv)
 (hown:w2.ownsRow B e 2 hv' (l.length+1) (ys++[.string ⟨x.aI.toArray⟩,lv]))(hys:ys.length=l.length*2)
 (hy:∀(i:Nat) (d:D),(l.map ah.enc).flatten[i]? =some d->∃u,ys[i]? =some u/\dO w σ d u)(hx:dO w σ (.sl (x.aj.map ah.enc)) lv)
 (h12:∀b,b<w.heap.size->hv.ownBlock≠some b->w2.heap[b]? =w.heap[b]?)(hsm:rE w w2)(hblk:∀b,hv'.ownBlock=some b->hv.ownBlock=some b\/w.heap.size<=b):
 eH w σ (w2.setCell ⟨g,j,none⟩ hv') σ/\kQ (w2.setCell ⟨g,j,none⟩ hv') σ B eo e (.slice (some ⟨g,0,none⟩) hs.length cap) (hs.set j hv') (rs.set j (l++[x]))/\
  ∀b,b<w.heap.size->b≠g->hv.ownBlock≠some b->(w2.setCell ⟨g,j,none⟩ hv').heap[b]? =w.heap[b]? :=by
 obtain⟨hv0,a1,a2,a3⟩:=hst.rows j l hjl;rw[hh] at a1;cases a1;have hg0:σ g=0:=hst.free g rfl;have Nj:hv.ownBlock≠some g:=fun q=>a3 g q rfl
 obtain⟨cur,hg⟩:∃cur,w.heap[g]? =some (.cells cur eo (0,0)):=by
  rcases hst.own.2 with⟨o2,_⟩|⟨g0,cap0,cur,e0,hb,hg,_⟩
  ·cases o2
  ·cases e0;exact⟨cur,hg⟩
 have hgl:=lt_of_some hg;have hg2:=(h12 g hgl Nj).trans hg;have vJ:∀b,b<w.heap.size->b≠g->hv.ownBlock≠some b->(w2.setCell ⟨g,j,none⟩ hv').heap[b]? =w.heap[b]? :=fun b h1 h2 h3=>(lC h2).trans (h12 b h1 h3)
 have Bt:eH w σ (w2.setCell ⟨g,j,none⟩ hv') σ:=Oy (hsm.trans (rE.setCell _ _ _ rfl)) fun b hb=>
  vJ b ((hl b).resolve_right hb) (fun q=>hb (by rw[q];exact hg0)) fun q=>hb (a2.free b q)
 have hne:∀b,hv'.ownBlock=some b->b≠g:=fun b hb q=>by
  subst q;rcases hblk b hb with k|k
  ·exact Nj k
  ·omega
 have hrow:EK (w2.setCell ⟨g,j,none⟩ hv') σ B e hv' (l++[x]):=Z0 (IC hown fun b hb=>lC (hne b hb)) hys (fun i d hd=>by
  obtain⟨u,hu,hr⟩:=hy i d hd
  exact⟨u,hu,hr.mono Bt⟩) (hx.mono Bt) fun b hb=>by
   rcases hblk b hb with k|k
   ·exact a2.free b k
   ·exact(hl b).resolve_left gA
 exact⟨Bt,kQ.put hl hst (ap.1 hjl).1 hh Bt hg (Qr hg2) vJ hrow hblk,vJ⟩
theorem Z4{w:World}{σ:Nat->Nat}{B g g1 cap jQ j:Nat}{eo e:TypeId}{hs:List Value}{rs:List (List ah)}{l:List ah}{x0 x:ah}{lv:Value}(hl:∀b,b<w.heap.size\/σ b=0)
 (hst:kQ w σ B eo e (.slice (some ⟨g,0,none⟩) hs.length cap) hs rs)(hjl:rs[j]? =some (l++[x0]))(hh:hs[j]? =some (.slice (some ⟨g1,0,none⟩) (l.length+1) jQ))(hx:dO w σ (.sl (x.aj.map ah.enc)) lv):
 eH w σ ((w.setCell ⟨g1,l.length*2,none⟩ (.string ⟨x.aI.toArray⟩)).setCell ⟨g1,l.length*2+1,none⟩ lv) σ/\
  kQ ((w.setCell ⟨g1,l.length*2,none⟩ (.string ⟨x.aI.toArray⟩)).setCell ⟨g1,l.length*2+1,none⟩ lv) σ B eo e (.slice (some ⟨g,0,none⟩) hs.length cap) hs (rs.set j (l++[x]))/\
  ∀b,b≠g1->((w.setCell ⟨g1,l.length*2,none⟩ (.string ⟨x.aI.toArray⟩)).setCell ⟨g1,l.length*2+1,none⟩ lv).heap[b]? =w.heap[b]? :=by
 obtain⟨W,hW⟩:∃W,W=(w.setCell ⟨g1,l.length*2,none⟩ (.string ⟨x.aI.toArray⟩)).setCell ⟨g1,l.length*2+1,none⟩ lv:=⟨_,rfl⟩;obtain⟨hv0,a1,a2,a3⟩:=hst.rows j _ hjl;rw[hh] at a1;cases a1;have hg0:σ g=0:=hst.free g rfl;have Nj:g≠g1:=fun q=>a3 g1 rfl (by rw[q];rfl)
 have XD:∀b,b≠g1->W.heap[b]? =w.heap[b]? :=fun b hb=>by rw[hW,lC hb,lC hb]
 obtain⟨cur,hg,hcur⟩:∃cur,w.heap[g]? =some (.cells cur eo (0,0))/\cur.toList.take hs.length=hs:=by
  rcases hst.own.2 with⟨o2,_⟩|⟨g0,cap0,cur,e0,hb,hg,_,_,_,ht⟩
  ·cases o2
  ·cases e0;exact⟨cur,hg,by rw[Nat.mul_one] at ht;exact ht⟩
 have hjh:=(ap.1 hh).1
 have hself:cur.setIfInBounds j (.slice (some ⟨g1,0,none⟩) (l.length+1) jQ)=cur:=by
  have h1:cur.toList[j]? =some (.slice (some ⟨g1,0,none⟩) (l.length+1) jQ):=by
   have q:(cur.toList.take hs.length)[j]? =hs[j]? :=by rw[hcur]
   rw[<-hh,<-q,ck hjh]
  obtain⟨h2,h3⟩:=ap.1 h1;refine Array.ext' ?_;rw[eQ,<-h3,List.set_getElem_self]
 have arF:hs.set j (.slice (some ⟨g1,0,none⟩) (l.length+1) jQ)=hs:=by
  obtain⟨h2,h3⟩:=ap.1 hh;rw[<-h3,List.set_getElem_self]
 have hsame:rE w W:=by
  rw[hW];exact(rE.setCell _ _ _ rfl).trans (rE.setCell _ _ _ rfl)
 have Bt:eH w σ W σ:=Oy hsame fun b hb=>XD b fun q=>hb (a2.free b (by rw[q];rfl));obtain⟨⟨xs,ho,hxs⟩,hf⟩:=a2;obtain⟨ho1,ho2⟩:=ho;rw[ae,eg] at ho1 ho2
 obtain⟨sM,hb1,hg1,hc1,hc2,hc3,ht1⟩:∃sM,B<=g1/\w.heap[g1]? =some (.cells sM e (0,0))/\l.length+1<=jQ/\jQ<=maxLen/\sM.size=jQ*2/\sM.toList.take ((l.length+1)*2)=xs:=by
  rcases ho2 with⟨o2,_⟩|⟨g0,cap0,cur,e0,q⟩
  ·cases o2
  ·simp only[Value.slice.injEq,cC,Addr.mk.injEq,and_true] at e0;obtain⟨rfl,_,rfl⟩:=e0;exact⟨cur,q⟩
 have hW1:W.heap[g1]? =some (.cells ((sM.setIfInBounds (l.length*2) (.string ⟨x.aI.toArray⟩)).setIfInBounds (l.length*2+1) lv) e (0,0)):=by
  rw[hW];exact Qr (Qr hg1)
 have hrow:EK W σ B e (.slice (some ⟨g1,0,none⟩) (l.length+1) jQ) (l++[x]):=by
  have hys:(xs.take (l.length*2)).length=l.length*2:=by rw[cj];omega
  refine Z0 (ys:=xs.take (l.length*2)) (lv:=lv) ⟨by simp only[ae,hys,aa,al];omega,.inr ⟨g1,jQ,_,rfl,hb1,hW1,hc1,hc2,by simpa using hc3,?_⟩⟩ hys (fun i d hd=> ?_) (hx.mono Bt) hf
  ·rw[eQ,eQ,List.take_set,List.take_set,ht1];refine dl fun i=> ?_;rcases eW i (l.length*2) with h|h|h
   ·rw[eE gA,eE gA,aq gA,ck h]
   ·subst h;rw[eE gA,dS gA,ag gA,hys,cM];rfl
   ·rw[ag gA,hys];by_cases h2:i=l.length*2+1
    ·subst h2;rw[dS (by rw[cW];omega),cY];rfl
    ·rw[cn (by simp only[cW];omega),cn (by simp only[aa,al];omega)]
  ·have hfl:(l.map ah.enc).flatten.length=l.length*2:=by
    have:=iT (l.map ah.enc) 2 (G8 l);simpa using this
   have hi:=(ap.1 hd).1;obtain⟨u,hu,hr⟩:=hxs i d (by rw[bw,cV,aq hi];exact hd);exact⟨u,by rw[ck gA];exact hu,hr.mono Bt⟩
 rw[<-hW];refine⟨Bt,?_,XD⟩;have:=kQ.put (hv':=.slice (some ⟨g1,0,none⟩) (l.length+1) jQ) hl hst (ap.1 hjl).1 hh Bt hg (by rw[hself];exact(XD g Nj).trans hg) (fun b _ _ h3=>XD b fun q=>h3 (by rw[q];rfl)) hrow (fun b hb=>.inl hb);rw[arF] at this;exact this
theorem atH{wq:World}{u v:Value}{T:TypeId}:∀j x,([u,v]:List Value)[j]? =some x->(wq.drew.alloc (.cells #[u,v] T)).cell? ((⟨wq.heap.size,0,none⟩:Addr).add j)=some x:=by
 intro j x hx;exact World.news_of_block (heap_alloc_new wq.drew (.cells #[u,v] T)) j x hx
theorem aiX{w W:World}{σ σ':Nat->Nat}(h:Grow w σ W σ'):Grow w σ W.drew σ':=⟨h.size,h.os,h.output,h.old,h.live⟩
theorem G9{w wq W:World}{σ σ1:Nat->Nat}{B:Nat}(hg:Grow w σ wq σ1)(hsz:wq.heap.size<=W.heap.size)(hos:W.os=wq.os)(hout:W.output=wq.output)(hlow:∀b,b<B->W.heap[b]? =wq.heap[b]?)(hB:w.heap.size<=B):Grow w σ W σ1:=
 ⟨co hg.size hsz,hos.trans hg.os,hout.trans hg.output,fun b hb=>⟨(hlow b (df hb hB)).trans (hg.old b hb).1,(hg.old b hb).2⟩,fun b=>(hg.live b).elim (fun h=>.inl (df h hsz)) .inr⟩
theorem He{P:Program}{wq:World}{σ:Nat->Nat}{B g cap j n:Nat}{eo e t:TypeId}(ty:TypeId){hs:List Value}{rs:List (List ah)}{y:List ah}{ya:Option Addr}{zD:Nat}{i:TypeInfo}(ht:P.underlying t=some (.slice e))(hi:P.info? e=some i)
 (hz:i.zero=some (.agg #[.string ⟨#[]⟩,.slice none 0 0]))(hsize:i.size=2)(hby:i.bytes=40)(hl:∀b,b<wq.heap.size\/σ b=0)(hB:B<=wq.heap.size)(hst:kQ wq σ B eo e (.slice (some ⟨g,0,none⟩) n cap) hs rs)(hn:hs.length=n)
 (hjl:rs[j]? =some y)(hh:hs[j]? =some (.slice ya y.length zD))(hy:y.length<=1048576)(x:ah){u lv:Value}(hu: .string ⟨x.aI.toArray⟩=u)(hx:dO wq σ (.sl (x.aj.map ah.enc)) lv)(h1:lv.oneCell'=true)(T:TypeId):
 ∃g1 jQ w2,(Builtin.append_ #[t,t] ty #[.slice ya y.length zD,.slice (some ⟨wq.heap.size,0,none⟩) 1 1]).run P (wq.drew.alloc (.cells #[u,lv] T))=.ok (.slice (some ⟨g1,0,none⟩) (y.length+1) jQ) w2/\
  w2.cell? ⟨g,j,none⟩=some (.slice ya y.length zD)/\w2.frozen? ⟨g,j,none⟩=false/\g1≠g/\(∃sM:Array Value,w2.heap[g1]? =some (.cells sM e (0,0))/\(y.length+1)*2<=sM.size)/\y.length+1<=jQ/\
  eH wq σ (w2.setCell ⟨g,j,none⟩ (.slice (some ⟨g1,0,none⟩) (y.length+1) jQ)) σ/\
  kQ (w2.setCell ⟨g,j,none⟩ (.slice (some ⟨g1,0,none⟩) (y.length+1) jQ)) σ B eo e (.slice (some ⟨g,0,none⟩) n cap) (hs.set j (.slice (some ⟨g1,0,none⟩) (y.length+1) jQ)) (rs.set j (y++[x]))/\
  wq.heap.size<=w2.heap.size/\w2.os=wq.os/\w2.output=wq.output/\B<=g/\B<=g1/\∀b,b<B->w2.heap[b]? =wq.heap[b]? :=by
 subst hn hu;obtain⟨hv0,a1,a2,a3⟩:=hst.rows j y hjl;rw[hh] at a1;cases a1;have hrow:=a2;obtain⟨⟨ys,hown,hrep⟩,hfree⟩:=a2;have hyb:∀b,(Value.slice ya y.length zD).ownBlock=some b->B<=b/\b<wq.heap.size:=fun b hb=>hown.lt b hb;have Nj:(Value.slice ya y.length zD).ownBlock≠some g:=fun q=>a3 g q rfl;have hgl:B<=g/\g<wq.heap.size:=hst.own.lt g rfl;have hown1:(wq.drew.alloc (.cells #[.string ⟨x.aI.toArray⟩,lv] T)).ownsRow B e 2 (.slice ya y.length zD) y.length ys:=IC hown fun b hb=>Lib.alloc_old wq.drew _ b (hyb b hb).2
 obtain⟨g1,jQ,w2,q1,q2,q3,q4,q5,q6⟩:=Ni (P:=P) (wq.drew.alloc (.cells #[.string ⟨x.aI.toArray⟩,lv] T)) B t ty e i _ 2 40 ht hi hz hsize hby rfl gA _ _ _ hown1 ⟨wq.heap.size,0,none⟩ 1 1 [.string ⟨x.aI.toArray⟩,lv] rfl atH (fun u hu=>by
  rcases cT.1 hu with rfl|hu
  ·rfl
  ·rw[ej.1 hu];exact h1) gA (by unfold maxLen;omega) gA (by
   rw[show(wq.drew.alloc (.cells #[.string ⟨x.aI.toArray⟩,lv] T)).heap.size=wq.heap.size+1 by simp];omega)
 have hsz1:(wq.drew.alloc (.cells #[.string ⟨x.aI.toArray⟩,lv] T)).heap.size=wq.heap.size+1:=gL
 have h12:∀b,b<wq.heap.size->(Value.slice ya y.length zD).ownBlock≠some b->w2.heap[b]? =wq.heap[b]? :=fun b h1 h2=>(q3.block b gA fun e=>h2 e.symm).trans (Lib.alloc_old wq.drew _ b h1);have hsm:rE wq w2:=rE.trans (rE.alloc wq.drew _) q6
 have hblk:∀b,(Value.slice (some ⟨g1,0,none⟩) (y.length+1) jQ).ownBlock=some b->(Value.slice ya y.length zD).ownBlock=some b\/wq.heap.size<=b:=fun b hb=>by
  cases hb;rcases q4 with h|h
  ·exact .inl h
  ·right;show wq.heap.size<=g1;omega
 have hg1:g1≠g:=fun q=>by
  rcases hblk g1 rfl with h|h
  ·rw[q] at h;exact Nj h
  ·omega
 have hB1:B<=g1:=by
  rcases hblk g1 rfl with h|h
  ·exact(hyb g1 h).1
  ·omega
 obtain⟨n1,n2,n3⟩:=apu hl hst hjl hh q2 hown.1 hrep hx h12 hsm hblk
 obtain⟨sM,c1,c2,c3⟩:∃sM:Array Value,w2.heap[g1]? =some (.cells sM e (0,0))/\(y.length+1)*2<=sM.size/\y.length+1<=jQ:=by
  rcases q2.2 with⟨h,_⟩|⟨g0,cap0,cur,e0,_,hg,hc1,_,hc3,_⟩
  ·cases h
  ·cases e0;exact⟨cur,hg,by rw[hc3];exact cx _ hc1,hc1⟩
 have hkg:=h12 g hgl.2 Nj;refine⟨g1,jQ,w2,q1,?_,?_,hg1,⟨sM,c1,c2⟩,c3,n1,n2,?_,q3.os,q3.output,hgl.1,hB1,fun b hb=>h12 b gA fun q=> ?_⟩
 ·have hj:=hst.own.cells (g:=g) rfl j _ hh;rw[show(⟨g,0,none⟩:Addr).add j=⟨g,j,none⟩ by unfold Addr.add;split<;>simp_all] at hj;rw[<-hj];exact World.cell?_of_block hkg
 ·exact(World.frozen?_of_block hkg).trans (Tg hst j)
 ·have:=q3.size;omega
 ·have:=(hyb b q).1;omega
theorem Z5{w wq:World}{σ σ1 σ2:Nat->Nat}{B:Nat}(hg:Grow w σ wq σ1)(h:∀b,b<B->σ2 b=σ1 b)(hl:∀b,b<wq.heap.size\/σ2 b=0)(hB:w.heap.size<=B):Grow w σ wq σ2:=
 ⟨hg.size,hg.os,hg.output,fun b hb=>⟨(hg.old b hb).1,(h b (df hb hB)).trans (hg.old b hb).2⟩,hl⟩
theorem yU{α:Type}(l:List α)(a b:α)(n:Nat)(h:l.length=n):(l++[a]).set n b=l++[b]:=by
 subst h
 simp
theorem apv{w:World}{σ:Nat->Nat}{B g cap n:Nat}{eo e:TypeId}{hs:List Value}{rs:List (List ah)}(h:kQ w σ B eo e (.slice (some ⟨g,0,none⟩) n cap) hs rs):n<=cap:=by
 rcases h.own.2 with⟨h1,_⟩|⟨g0,cap0,cur,e0,_,hg,h2,_⟩
 ·cases h1
 ·simp only[Value.slice.injEq,cC,Addr.mk.injEq,and_true] at e0;obtain⟨_,rfl,rfl⟩:=e0;exact h2
theorem set_comm{w:World}{g g1 i j:Nat}{u v:Value}(h:g≠g1):(w.setCell ⟨g1,i,none⟩ u).setCell ⟨g,j,none⟩ v=(w.setCell ⟨g,j,none⟩ v).setCell ⟨g1,i,none⟩ u:=by
 have hh:((w.setCell ⟨g1,i,none⟩ u).setCell ⟨g,j,none⟩ v).heap=((w.setCell ⟨g,j,none⟩ v).setCell ⟨g1,i,none⟩ u).heap:=by
  refine Array.ext_getElem? fun b=> ?_;by_cases h1:b=g
  ·subst h1;rw[lC (w:=w.setCell _ _) h];simp[World.setCell,db,Ne.symm h]
  ·rw[lC h1];by_cases h2:b=g1
   ·subst h2;simp[World.setCell,db,h]
   ·rw[lC h2,lC h2,lC h1]
 unfold World.setCell at hh ⊢;simp only at hh ⊢;rw[hh]
theorem Ti{p:UInt8->Bool}:∀(n:Nat)(l:List UInt8),(∀a∈l.take n,p a=true)->(l.length=n\/∃a,l[n]? =some a/\p a=false)->l.takeWhile p=l.take n/\l.dropWhile p=l.drop n
 |0,l,_,h=>by
  rcases h with h|⟨a,h1,h2⟩
  ·have:=bz h;subst this;exact⟨rfl,rfl⟩
  ·cases l with
   |nil=>simp at h1
   |cons b l=>
    simp at h1;subst h1;simp[List.takeWhile,List.dropWhile,h2]
 |n+1,l,ha,h=>by
  cases l with
  |nil=>
   rcases h with h|⟨a,h1,h2⟩
   ·simp at h
   ·simp at h1
  |cons b l=>
   have hb:p b=true:=ha b gL;have ih:=Ti n l (fun a hm=>ha a (by simp[hm])) (by simpa using h);simp[List.takeWhile,List.dropWhile,hb,ih.1,ih.2]
theorem apw(s:List UInt8)(i e:Nat):(⟨s.toArray⟩:ByteArray).extract i e=⟨((s.take e).drop i).toArray⟩:=by
 refine ByteArray.ext ?_;rw[ByteArray.data_extract];simp[List.extract_toArray,List.drop_take]
def jg(l:List UInt8)(rows:List (List ah))(c:Nat):Option (List (List ah)):=runT (lex l) rows c
theorem Tj(s:List UInt8):jg s [[]] 0=Ah (s.length+1) s [[]] 0:=(Ai _ _ _ _ (cg _)).symm
theorem amH(rows:List (List ah))(c:Nat):jg [] rows c=some rows:=by unfold jg;rw[lex_nil rfl,runT]
theorem afW{b:UInt8}{u:List UInt8}(h:mq b=true)(rows:List (List ah))(c:Nat):jg (b::u) rows c=jg u rows c:=by
 unfold jg;rw[<-yT (b::u),FK h,yT]
theorem apx(u:List UInt8)(rows:List (List ah))(c:Nat):jg (40::u) rows c=if 15<rows.length+1\/1800<c+1 then none else jg u ([]::rows) (c+1):=by
 unfold jg;rw[lJ (tX gE),if_neg gE,if_pos rfl,runT]
theorem apy(u:List UInt8)(x y:List ah)(z:List (List ah))(c:Nat):jg (41::u) (x::y::z) c=if 1800<c+1 then none else jg u ((y++[bL x])::z) (c+1):=by
 unfold jg;rw[lJ (tX gE),if_neg gE,if_neg gE,if_pos rfl,runT]
theorem amI(u:List UInt8)(x:List ah)(c:Nat):jg (41::u) [x] c=none:=by
 unfold jg;rw[lJ (tX gE),if_neg gE,if_neg gE,if_pos rfl];simp[runT]
theorem apz{b:UInt8}(u:List UInt8)(x:List ah)(z:List (List ah))(c:Nat)(h:bV b=true):jg (b::u) (x::z) c=if 1800<c+1 then none else jg (u.dropWhile bV) ((x++[bN (b::u.takeWhile bV)])::z) (c+1):=by
 unfold jg;rw[lJ (tX (Nf h).1),if_pos h,runT]
theorem amJ{b:UInt8}(u:List UInt8)(rows:List (List ah))(c:Nat)(h1:mq b=false)(h2:b≠40)(h3:b≠41)(h4:bV b=false):jg (b::u) rows c=none:=by
 unfold jg;rw[lJ (tX h1),if_neg (by rw[h4];decide),if_neg h2,if_neg h3];cases rows<;>simp[runT]
theorem aiY{s u:List UInt8}{b:UInt8}{i e:Nat}(x:List ah)(z:List (List ah))(c:Nat)(hd:s.drop i=b::u)(hb:bV b=true)(hie:i<e)(hall:∀a∈(s.drop i).take (e-i),bV a=true)
 (hstop:e=s.length\/∃a,s[e]? =some a/\bV a=false):jg (b::u) (x::z) c=if 1800<c+1 then none else jg (s.drop e) ((x++[bN ((s.take e).drop i)])::z) (c+1):=by
 have hw:=Ti (p:=bV) (e-i) (s.drop i) hall (by
  rcases hstop with h|⟨a,h1,h2⟩
  ·left;rw[bk,h]
  ·right;exact⟨a,by rw[cI,show i+(e-i)=e by omega];exact h1,h2⟩)
 rw[fR,show i+(e-i)=e by omega,<-List.drop_take] at hw;rw[apz u x z c hb,<-hw.1,<-hw.2,hd];simp[List.takeWhile,List.dropWhile,hb]
def Nk:List (List ah)->Nat
 |[]=>0
 |l::r=>l.length+dx l+Nk r
structure atI(s:List UInt8)(B R:Nat)(w0:World)(σ0:Nat->Nat)(T eo e:TypeId)(k:Nat)(v4 v5 v6:Value)(w:World):Prop where
 ex:∃(rows:List (List ah)) (σ:Nat->Nat) (i c g cap:Nat) (hs:List Value),v4=.slice (some ⟨g,0,none⟩) rows.length cap/\v5=.int .i64 c/\v6=.int .i64 i/\
  hs.length=rows.length/\1<=rows.length/\rows.length<=15/\c<=1800/\i+k=s.length/\jg (s.drop i) rows c=jg s [[]] 0/\
  kQ w σ B eo e v4 hs rows.reverse/\Grow w0 σ0 w σ/\mF w σ/\(∀l∈rows,l.length<=c)/\Nk rows<=2*i/\σ R=0/\w.heap[R]? =some (.cells #[.string ⟨#[]⟩,.slice none 0 0] T (0,0))
theorem avV(w:World)(σ:Nat->Nat)(hl:∀b,b<w.heap.size\/σ b=0)(T eo e:TypeId):
 kQ ((w.alloc (.cells #[.string ⟨#[]⟩,.slice none 0 0] T)).alloc (.cells #[.slice none 0 0] eo)) σ (w.heap.size+1) eo e (.slice (some ⟨w.heap.size+1,0,none⟩) 1 1) [.slice none 0 0] [[]]:=by
 have hz:(w.alloc (.cells #[.string ⟨#[]⟩,.slice none 0 0] T)).heap.size=w.heap.size+1:=gL
 refine⟨⟨rfl,.inr ⟨w.heap.size+1,1,#[.slice none 0 0],rfl,ax _,?_,ax _,gE,rfl,rfl⟩⟩,fun b hb=> ?_,fun j l hj=> ?_,fun i j hi hj b hne h1 h2=> ?_⟩
 ·rw[<-hz];exact heap_alloc_new _ _
 ·cases hb;rcases hl (w.heap.size+1) with h|h
  ·omega
  ·exact h
 ·match j,hj with
  |0,hj=>
   cases hj;exact⟨_,rfl,⟨⟨[],⟨rfl,.inl ⟨rfl,rfl⟩⟩,fun i d hd=>by cases hd⟩,fun b hb=>by cases hb⟩,fun b hb=>by cases hb⟩
  |j+1,hj=>cases hj
 ·simp only[aa,al] at h1 h2;omega
theorem Dy{w:World}{σ:Nat->Nat}(hl:∀b,b<w.heap.size\/σ b=0)(o:Go.Obj):Grow w σ (w.alloc o) σ:=
 ⟨gL,rfl,rfl,fun b hb=>⟨Lib.alloc_old w o b hb,rfl⟩,fun b=>(hl b).elim (fun h=>.inl gR) .inr⟩
theorem UF{s:List UInt8}{i:Nat}(h:i<s.length):i<(⟨s.toArray⟩:ByteArray).size:=by simpa [ByteArray.size] using h
theorem byte_at{s:List UInt8}{i:Nat}(h:i<s.length):(⟨s.toArray⟩:ByteArray)[i]'(UF h)=s[i]:=by
 show s.toArray[i]'_=_
 simp
theorem Nl(g j:Nat):(⟨g,0,none⟩:Addr).add j=⟨g,j,none⟩:=by unfold Addr.add;split<;>simp_all
theorem yV{w:World}{σ:Nat->Nat}{B g cap n:Nat}{eo e:TypeId}{hs:List Value}{rs:List (List ah)}(h:kQ w σ B eo e (.slice (some ⟨g,0,none⟩) n cap) hs rs){j:Nat}{u:Value}(hj:hs[j]? =some u):w.cell? ⟨g,j,none⟩=some u:=by
 have:=h.own.cells (g:=g) rfl j u hj
 rwa [Nl] at this
theorem K6{w:World}{σ:Nat->Nat}{B:Nat}{e:TypeId}{v:Value}{l:List ah}(h:EK w σ B e v l):
 ∃a cap,v=.slice a l.length cap/\∀i (hi:i<l.length),∃g u,a=some ⟨g,0,none⟩/\w.cell? ⟨g,i*2,none⟩=some (.string ⟨l[i].aI.toArray⟩)/\w.cell? ⟨g,i*2+1,none⟩=some u/\dO w σ (.sl (l[i].aj.map ah.enc)) u:=by
 obtain⟨⟨xs,ho,hx⟩,hf⟩:=h
 obtain⟨a,cap,rfl⟩:∃a cap,v=.slice a l.length cap:=by
  rcases ho.2 with⟨rfl,h0⟩|⟨g,cap,cur,rfl,_⟩
  ·exact⟨none,0,by rw[h0]⟩
  ·exact⟨_,_,rfl⟩
 refine⟨a,cap,rfl,fun i hi=> ?_⟩;rcases ho.2 with⟨h1,h0⟩|⟨g,cap0,cur,h1,_⟩
 ·omega
 ·cases h1;have hl:∀y∈l.map ah.enc,y.length=2:=G8 l
  have e1:(l.map ah.enc)[i]'(by simpa using hi)=[.s l[i].aI,.sl (l[i].aj.map ah.enc)]:=by rw[bp,ah.aC];first|rfl|done
  have hg:∀o (hoo:o<2),(l.map ah.enc).flatten[i*2+o]? =([.s l[i].aI,.sl (l[i].aj.map ah.enc)]:List D)[o]? :=fun o hoo=>by
   rw[flat_get _ 2 hl i o (by simpa using hi) hoo,e1]
  obtain⟨u0,k0,r0⟩:=hx (i*2+0) _ (hg 0 gA);obtain⟨u1,k1,r1⟩:=hx (i*2+1) _ (hg 1 gA);have c0:=ho.cells (g:=g) rfl _ _ k0;have c1:=ho.cells (g:=g) rfl _ _ k1;rw[Nl] at c0 c1;refine⟨g,u1,rfl,?_,c1,r1⟩;cases r0;exact c0
def afX(s:List UInt8)(w:World)(σ:Nat->Nat)(e:Ending)(w':World):Prop:=
 ∃lv σ',e=.returned (.tuple #[.agg #[.string ⟨(kg s).aI.toArray⟩,lv],.bool (lu s)])/\dO w' σ' (.sl ((kg s).aj.map ah.enc)) lv/\Grow w σ w' σ'/\mF w' σ'
theorem Tk{s:List UInt8}{w W:World}{σ σ1:Nat->Nat}(h:∀x,Ah (s.length+1) s [[]] 0=some [[x]]->dQ x=false)(hg:Grow w σ W σ1)(hl:mF W σ1):
 afX s w σ (.returned (.tuple #[.agg #[.string ⟨#[]⟩,.slice none 0 0],.bool false])) W:=by
 have hno:∀x,¬Denotes s x:=fun x hx=>by
  have h1:=h x (Dx hx);have h2:=hx.1;rw[h1] at h2;cases h2
 obtain⟨h1,h2⟩:=ZR hno;refine⟨.slice none 0 0,σ1,?_,?_,hg,hl⟩
 ·rw[h1,h2];rfl
 ·rw[h2];exact .nil _ _
theorem Aj{s:List UInt8}{w W:World}{σ σ1:Nat->Nat}(h:jg s [[]] 0=none)(hg:Grow w σ W σ1)(hl:mF W σ1):
 afX s w σ (.returned (.tuple #[.agg #[.string ⟨#[]⟩,.slice none 0 0],.bool false])) W:=
 Tk (fun x hx=>by rw[<-Tj,h] at hx;cases hx) hg hl
theorem apA{s:List UInt8}{w W:World}{σ σ1:Nat->Nat}{x:ah}{lv:Value}(h:Ah (s.length+1) s [[]] 0=some [[x]])(hv:dQ x=true)(hr:dO W σ1 (.sl (x.aj.map ah.enc)) lv)(hg:Grow w σ W σ1)(hl:mF W σ1):
 afX s w σ (.returned (.tuple #[.agg #[.string ⟨x.aI.toArray⟩,lv],.bool true])) W:=by
 have h1:=(Ng s).1.1 ⟨x,h,hv⟩;have h2:=(Ng s).2 x h hv;exact⟨lv,σ1,by rw[h1,h2],by rw[h2];exact hr,hg,hl⟩
theorem aiZ{w wa w1:World}{σ σ1:Nat->Nat}{g:Nat}(hg:Grow w σ wa σ1)(hsz:wa.heap.size<=w1.heap.size)(hos:w1.os=wa.os)(hout:w1.output=wa.output)(hold:∀b,b<wa.heap.size->b≠g->w1.heap[b]? =wa.heap[b]?)(hgB:w.heap.size<=g):Grow w σ w1 σ1:=
 ⟨co hg.size hsz,hos.trans hg.os,hout.trans hg.output,fun b hb=>⟨(hold b (df hb hg.size) gA).trans (hg.old b hb).1,(hg.old b hb).2⟩,fun b=>(hg.live b).elim (fun h=>.inl (df h hsz)) .inr⟩
theorem Nn{w w':World}{σ σ':Nat->Nat}(hg:Grow w σ w' σ'){b j:Nat}{u:Value}(h:w.cell? ⟨b,j,none⟩=some u):w'.cell? ⟨b,j,none⟩=some u:=by
 cases hb:w.heap[b]? with
 |none=>simp[World.cell?,hb] at h
 |some o=>
  have:=(hg.old b (lt_of_some hb)).1;simp only[World.cell?,this] at h ⊢;exact h
theorem arG{w:World}{σ:Nat->Nat}(b:UInt8):pO w σ [] [] [.c (.d (.i .u8 b.toNat))] [.int .u8 b.toNat]:=by
 refine⟨rfl,fun j y hy=> ?_⟩
 match j,hy with
 |0,hy=>
  simp at hy;subst hy;exact⟨_,rfl,.i _ _,rfl⟩
theorem avW{w:World}{σ:Nat->Nat}{x:ah}{la:Option Addr}{ln lc:Nat}(h:dO w σ (.sl (x.aj.map ah.enc)) (.slice la ln lc)):pO w σ [] [] [x.v] [.agg #[.string ⟨x.aI.toArray⟩,.slice la ln lc]]:=by
 refine⟨rfl,fun j y hy=> ?_⟩
 match j,hy with
 |0,hy=>
  simp at hy;subst hy;refine⟨_,rfl,?_⟩;rw[<-ah.Ml,ah.aC];refine⟨_,rfl,rfl,fun j y hy=> ?_⟩
  match j,hy with
  |0,hy=>simp at hy;subst hy;exact⟨_,rfl,.s _,rfl⟩
  |1,hy=>simp at hy;subst hy;exact⟨_,rfl,h,rfl⟩
theorem qR{w:World}{R:Nat}{a b x y:Value}{T:TypeId}{fr:Nat×Nat}(h:w.heap[R]? =some (.cells #[a,b] T fr)):((w.setCell ⟨R,0,none⟩ x).setCell ⟨R,1,none⟩ y).heap[R]? =some (.cells #[x,y] T fr):=by
 simp[World.setCell,db,h]
theorem qU{w wr:World}{σ σ1:Nat->Nat}{R:Nat}{x y:Value}(hg:Grow w σ wr σ1)(hl:mF wr σ1)(hR:w.heap.size<=R)(h0:σ1 R=0):
 Grow w σ ((wr.setCell ⟨R,0,none⟩ x).setCell ⟨R,1,none⟩ y) σ1/\mF ((wr.setCell ⟨R,0,none⟩ x).setCell ⟨R,1,none⟩ y) σ1/\eH wr σ1 ((wr.setCell ⟨R,0,none⟩ x).setCell ⟨R,1,none⟩ y) σ1:=by
 have hs:((wr.setCell ⟨R,0,none⟩ x).setCell ⟨R,1,none⟩ y).heap.size=wr.heap.size:=by simp[World.setCell]
 have ho:∀b,b≠R->((wr.setCell ⟨R,0,none⟩ x).setCell ⟨R,1,none⟩ y).heap[b]? =wr.heap[b]? :=fun b hb=>by
  simp[World.setCell,db,Ne.symm hb]
 have hn:eH wr σ1 ((wr.setCell ⟨R,0,none⟩ x).setCell ⟨R,1,none⟩ y) σ1:=Oy ((rE.setCell wr _ x rfl).trans (rE.setCell _ _ y rfl)) fun b hb=>ho b fun e=>hb (by rw[e];exact h0);refine⟨⟨by rw[hs];exact hg.size,hg.os,hg.output,fun b hb=>⟨(ho b gA).trans (hg.old b hb).1,(hg.old b hb).2⟩,fun b=>by rw[hs];exact hg.live b⟩,hl.near hn,hn⟩
theorem qV{tmps:Array Value}{W:World}{R:Nat}{a lv:Value}{q:Bool}{post:Ending->World->Prop}(h2:tmps.getD 2 undef=.pointer (some ⟨R,0,none⟩))(h3:tmps.getD 3 undef=.bool q)
 (hW:W.heap[R]? =some (.cells #[a,lv] 26 (0,0)))(hp:post (.returned (.tuple #[.agg #[a,lv],.bool q])) W):bodyPost prog Tryz.f29 post .ret ⟨tmps,[]⟩ W:=by
 have c0:W.cell? ⟨R,0,none⟩=some a:=by rw[Lib.cell_of_heap hW];rfl
 have c1:W.cell? ⟨R,1,none⟩=some lv:=by rw[Lib.cell_of_heap hW];rfl
 refine bodyPost_ret (v:=.tuple #[.agg #[a,lv],.bool q]) ?_ rfl hp;rw[results_cell_tmp rfl,h2,h3]
 go_simp
theorem ai0:(prog.info? 26).map (fun i=>(i.zero,i.size,i.bytes))=some (some (.agg #[.string ⟨#[]⟩,.slice none 0 0]),2,40):=by kernel_rfl
theorem amK:(prog.info? 24).map (fun i=>(i.zero,i.size,i.bytes))=some (some (.slice none 0 0),1,24):=by kernel_rfl
theorem afY(s:List UInt8)(w:World)(σ:Nat->Nat)(hl:∀b,b<w.heap.size\/σ b=0)(hgl:mF w σ)(hs:s.length<=33554432):
 Calls prog 29 #[.string ⟨s.toArray⟩] w (afX s w σ):=by
 go_enter func29,ntmps29
 go_wp2
 go_loopg [4,5,6] s.length (fun k v4 v5 v6 wr=>atI s (w.heap.size+1) w.heap.size w σ 26 24 26 k v4 v5 v6 wr)
 case atStart=>
  have hg1:=Dy hl (.cells #[.string ⟨#[]⟩,.slice none 0 0] 26);have hg2:=hg1.trans (Dy hg1.live (.cells #[.slice none 0 0] 24));refine⟨[[]],σ,0,0,_,_,[.slice none 0 0],rfl,rfl,rfl,rfl,gE,gE,gE,gA,rfl,avV w σ hl _ _ _,hg2,hgl.near hg2.near,gL,by simp[Nk,dx],(hl w.heap.size).elim (fun h=>gA) id,?_⟩;rw[Lib.alloc_old _ _ _ gL];exact heap_alloc_new _ _
 case round=>
  obtain⟨rows,σ1,i,c,g,cap,hv,rfl,rfl,rfl,e1,e2,e3,e4,e5,e6,hst,hgr,CY,hlen,Z6,J2,hR⟩:=hrel
  have r0:wr.cell? ⟨w.heap.size,0,none⟩=some (.string ⟨#[]⟩):=by rw[Lib.cell_of_heap hR];rfl
  have r1:wr.cell? ⟨w.heap.size,1,none⟩=some (.slice none 0 0):=by rw[Lib.cell_of_heap hR];rfl
  have z0:=Lib.frozen_of_heap hR 0;have z1:=Lib.frozen_of_heap hR 1;have HZ:Aside (wr.heap[w.heap.size]? =some (.cells #[.string ⟨#[]⟩,.slice none 0 0] 26 (0,0))):=hR;clear hR
  cases gk with
  |zero=>
   have hi:i=s.length:=gA
   subst hi
   have hrun:jg s [[]] 0=some rows:=by rw[<-e6,cy,amH]
   have HR:Aside (Ah (s.length+1) s [[]] 0=some rows):=(Tj s).symm.trans hrun;clear e6 hrun;by_cases h1:rows.length=1
   ·obtain⟨l,rfl⟩:∃l,rows=[l]:=by
     match rows,h1 with
     |[l],_=>exact⟨l,rfl⟩
    obtain⟨h0,rfl⟩:∃h0,hv=[h0]:=by
     match hv,e1 with
     |[h0],_=>exact⟨h0,rfl⟩
    have c0:=yV hst (j:=0) rfl;obtain⟨hv',q1,q2,_⟩:=hst.rows 0 l rfl;cases q1;obtain⟨a0,cap0,rfl,hrow⟩:=K6 q2;clear hst q2 e1;by_cases h2:l.length=1
    ·obtain⟨x,rfl⟩:∃x,l=[x]:=by
      match l,h2 with
      |[x],_=>exact⟨x,rfl⟩
     obtain⟨g1,lv,rfl,d0,d1,hlv⟩:=hrow 0 gL;clear hrow;simp only[List.getElem_cons_zero,Nat.zero_mul,cG] at d0 d1 hlv
     simp only[aa,al,cG] at *
     have hxs:x.sz<=67108864:=by simp only[Nk,dx,aa,al] at Z6;omega
     obtain⟨la,ln,lc,rfl⟩:=aiW hlv;have hc:=FM (rJ x hxs) hgr.live CY (avW hlv)
     have hc:Calls prog 56 #[.agg #[.string ⟨x.aI.toArray⟩,.slice la ln lc]] wr fun e w'=>e=.returned (.bool (dQ x))/\∃σ',Grow wr σ1 w' σ'/\mF w' σ':=
      hc.mono fun e w' ⟨v,σ',he,zy,hg,hgl⟩=>by
       obtain rfl:v=.bool (dQ x):=by cases zy.1;rfl
       exact⟨he,σ',hg,hgl⟩
     have HL:Aside (dO wr σ1 (.sl (x.aj.map ah.enc)) (.slice la ln lc)):=hlv;clear hlv hlen Z6;have zF:w.heap.size<wr.heap.size:=lt_of_some HZ.out;by_cases vV:dQ x=true
     ·rw[vV] at hc;have HV:Aside (dQ x=true):=vV;clear vV
      go_wp2_with (go_at_call 56;refine hc.mono ?_)
      rintro e w1 ⟨rfl,σ2,hg2,Qs⟩;have c0':=Nn hg2 c0;have d0':=Nn hg2 d0;have d1':=Nn hg2 d1;have hR':=(hg2.old _ zF).1.trans HZ.out
      have r0':w1.cell? ⟨w.heap.size,0,none⟩=some (.string ⟨#[]⟩):=by rw[Lib.cell_of_heap hR'];rfl
      have r1':w1.cell? ⟨w.heap.size,1,none⟩=some (.slice none 0 0):=by rw[Lib.cell_of_heap hR'];rfl
      have z0':=Lib.frozen_of_heap hR' 0;have z1':=Lib.frozen_of_heap hR' 1;have Cn:Aside (w1.heap[w.heap.size]? =some (.cells #[.string ⟨#[]⟩,.slice none 0 0] 26 (0,0))):=hR';clear hR' c0 d0 d1 r0 r1 z0 z1
      go_wp2
      have hG:=qU (x:=.string ⟨x.aI.toArray⟩) (y:=.slice la ln lc) (hgr.trans hg2) Qs (ax _) (((hg2.old _ zF).2).trans J2);exact qV (R:=w.heap.size) rfl rfl (qR Cn.out) (apA HR.out HV.out ((HL.out.mono hg2.near).mono hG.2.2) hG.1 hG.2.1)
     ·have vV:dQ x=false:=by simpa using vV
      rw[vV] at hc;have HV:Aside (dQ x=false):=vV;clear vV
      go_wp2_with (go_at_call 56;refine hc.mono ?_)
      rintro e w1 ⟨rfl,σ2,hg2,Qs⟩;have hR':=(hg2.old _ zF).1.trans HZ.out
      have r0':w1.cell? ⟨w.heap.size,0,none⟩=some (.string ⟨#[]⟩):=by rw[Lib.cell_of_heap hR'];rfl
      have r1':w1.cell? ⟨w.heap.size,1,none⟩=some (.slice none 0 0):=by rw[Lib.cell_of_heap hR'];rfl
      have z0':=Lib.frozen_of_heap hR' 0;have z1':=Lib.frozen_of_heap hR' 1;have Cn:Aside (w1.heap[w.heap.size]? =some (.cells #[.string ⟨#[]⟩,.slice none 0 0] 26 (0,0))):=hR';clear hR' c0 d0 d1 r0 r1 z0 z1
      go_wp2
      have hG:=qU (x:=.string ⟨#[]⟩) (y:=.slice none 0 0) (hgr.trans hg2) Qs (ax _) (((hg2.old _ zF).2).trans J2);refine qV (R:=w.heap.size) rfl rfl (qR Cn.out) (Tk (fun y hx=> ?_) hG.1 hG.2.1);have:=HR.out.symm.trans hx;simp only[cC,eK,and_true] at this;rw[<-this];exact HV.out
    ·have h3:¬(l.length:Int)=1:=gA
     clear hrow
     simp only[aa,al,cG] at *
     go_wp2
     have hG:=qU (x:=.string ⟨#[]⟩) (y:=.slice none 0 0) hgr CY (ax _) J2;refine qV (R:=w.heap.size) rfl rfl (qR HZ.out) (Tk (fun x hx=> ?_) hG.1 hG.2.1);have:=HR.out.symm.trans hx;simp only[cC,eK,and_true] at this;rw[this] at h2;exact absurd rfl h2
   ·have h3:¬(rows.length:Int)=1:=gA
    clear hst
    go_wp2
    have hG:=qU (x:=.string ⟨#[]⟩) (y:=.slice none 0 0) hgr CY (ax _) J2;refine qV (R:=w.heap.size) rfl rfl (qR HZ.out) (Tk (fun x hx=> ?_) hG.1 hG.2.1);have:=HR.out.symm.trans hx;simp only[cC] at this;rw[this] at h1;exact absurd rfl h1
  |succ k=>
   have hi:i<s.length:=gA
   obtain⟨b,hb⟩:∃b,s[i]=b:=⟨_,rfl⟩
   have hdrop:s.drop i=b::s.drop (i+1):=by rw[cb hi,hb]
   rw[hdrop] at e6;have HA:Aside (jg (b::s.drop (i+1)) rows c=jg s [[]] 0):=e6;have HB:Aside (s[i]=b):=hb;have HD:Aside (s.drop i=b::s.drop (i+1)):=hdrop;have hx:((⟨s.toArray⟩:ByteArray)[i]'(UF hi)).toNat=b.toNat:=congrArg UInt8.toNat ((byte_at hi).trans hb);clear e6 hb hdrop;by_cases hbl:mq b=true
   ·have HN:Aside (jg (s.drop (i+1)) rows c=jg s [[]] 0):=(afW hbl _ _).symm.trans HA.out
    have h32:b.toNat=32\/b.toNat=10:=by unfold mq at hbl;simpa using hbl
    clear hbl;rcases h32 with h32|h32
    all_goals
     rw[h32] at hx;clear h32
     go_wp2
     go_roundg k
     case measure=>omega
     case rel=>exact⟨rows,σ1,i+1,c,g,cap,hv,rfl,rfl,rfl,e1,e2,e3,e4,gA,HN.out,hst,hgr,CY,hlen,gA,J2,HZ.out⟩
   have Nq:mq b=false:=by simpa using hbl
   clear hbl;have hgB:w.heap.size+1<=g/\g<wr.heap.size:=hst.own.lt g rfl;have hlr:rows.reverse.length=rows.length:=List.length_reverse;by_cases S9:b=40
   ·subst S9;have HN:Aside ((if 15<rows.length+1\/1800<c+1 then none else jg (s.drop (i+1)) ([]::rows) (c+1))=jg s [[]] 0):=(apx _ _ _).symm.trans HA.out;rw[show(40:UInt8).toNat=40 from rfl] at hx;clear Nq;obtain⟨i0,hi0,hz0,hz1,hz2⟩:=info_parts amK;have hga:=Dy hgr.live (.cells #[.slice none 0 0] 24);have zF:w.heap.size<wr.heap.size:=lt_of_some HZ.out;obtain⟨g',cap',w1,hrun,hst',hnr,hold,hsz,hos,hout⟩:=amF (P:=prog) (w0:=w) (σ0:=σ) (ty:=130) underlying130 hi0 hz0 hz1 hz2 (hst.grow hga) e1 hlr gE gA ⟨wr.heap.size,0,none⟩ 1 (by rw[Lib.cell_of_heap (heap_alloc_new wr _)];rfl) (Nl _ _) hga.live gR;have J3:w1.heap[w.heap.size]? =some (.cells #[.string ⟨#[]⟩,.slice none 0 0] 26 (0,0)):=(hold _ gR gA).trans ((Lib.alloc_old wr _ _ zF).trans HZ.out);have hG1:=aiZ (hgr.trans hga) hsz hos hout hold gA;have hGl:=(CY.near hga.near).near hnr
    have r0':w1.cell? ⟨w.heap.size,0,none⟩=some (.string ⟨#[]⟩):=by rw[Lib.cell_of_heap J3];rfl
    have r1':w1.cell? ⟨w.heap.size,1,none⟩=some (.slice none 0 0):=by rw[Lib.cell_of_heap J3];rfl
    have z0':=Lib.frozen_of_heap J3 0;have z1':=Lib.frozen_of_heap J3 1;have Cn:Aside (w1.heap[w.heap.size]? =some (.cells #[.string ⟨#[]⟩,.slice none 0 0] 26 (0,0))):=J3;have HST:Aside (kQ w1 σ1 (w.heap.size+1) 24 26 (.slice (some ⟨g',0,none⟩) (rows.length+1) cap') (hv++[.slice none 0 0]) (rows.reverse++[[]])):=hst';clear hst hst' J3 hold hnr r0 r1 z0 z1 hi0 hz0 hz1 hz2 hsz hos hout hlr;by_cases hl1:15<rows.length+1
    ·have afZ:(15:Int)<(rows.length:Int)+1:=gA
     go_wp2_with (at_builtin;refine Lib.wpList_append_run _ rfl _ _ _ _ rfl _ _ rfl rfl _ _ hrun ?_)
     have hG:=qU (x:=.string ⟨#[]⟩) (y:=.slice none 0 0) hG1 hGl (ax _) J2;refine qV (R:=w.heap.size) rfl rfl (qR Cn.out) (Aj ?_ hG.1 hG.2.1);rw[<-HN.out,if_pos (.inl hl1)]
    ·have afZ:¬(15:Int)<(rows.length:Int)+1:=gA
     by_cases hl2:1800<c+1
     ·have Qt:(1800:Int)<(c:Int)+1:=gA
      go_wp2_with (at_builtin;refine Lib.wpList_append_run _ rfl _ _ _ _ rfl _ _ rfl rfl _ _ hrun ?_)
      have hG:=qU (x:=.string ⟨#[]⟩) (y:=.slice none 0 0) hG1 hGl (ax _) J2;refine qV (R:=w.heap.size) rfl rfl (qR Cn.out) (Aj ?_ hG.1 hG.2.1);rw[<-HN.out,if_pos (.inr hl2)]
     ·have Qt:¬(1800:Int)<(c:Int)+1:=gA
      have hnx:jg (s.drop (i+1)) ([]::rows) (c+1)=jg s [[]] 0:=by rw[<-HN.out,if_neg gA]
      have Z7:Aside (jg (s.drop (i+1)) ([]::rows) (c+1)=jg s [[]] 0):=hnx;clear hnx
      go_wp2_with (at_builtin;refine Lib.wpList_append_run _ rfl _ _ _ _ rfl _ _ rfl rfl _ _ hrun ?_)
      go_roundg k
      case measure=>omega
      case rel=>
       refine⟨[]::rows,σ1,i+1,c+1,g',cap',hv++[.slice none 0 0],rfl,rfl,rfl,by simp[e1],gL,by simp only[aa];omega,gA,gA,Z7.out,?_,hG1,hGl,fun l hl=> ?_,by simp only[Nk,dx,al];omega,J2,Cn.out⟩
       ·rw[eb];exact HST.out
       ·rcases cT.1 hl with rfl|hl
        ·simp
        ·have:=hlen l hl;omega
   have atJ:¬b.toNat=32/\¬b.toNat=10/\¬b.toNat=40:=by
    unfold mq at Nq;simp only[du,decide_eq_false_iff_not] at Nq;exact⟨Nq.1,Nq.2,fun e=>S9 (gm.1 e)⟩
   obtain⟨n32,n10,n40⟩:=atJ;by_cases Wh:b=41
   ·subst Wh;rw[show(41:UInt8).toNat=41 from rfl] at hx;clear Nq n32 n10 n40 S9;by_cases h1:rows.length=1
    ·obtain⟨l,rfl⟩:∃l,rows=[l]:=by
      match rows,h1 with
      |[l],_=>exact⟨l,rfl⟩
     have HN:Aside (none=jg s [[]] 0):=(amI _ _ _).symm.trans HA.out;clear hst h1 hlen hlr
     simp only[aa,al,cG] at *
     go_wp2
     have hG:=qU (x:=.string ⟨#[]⟩) (y:=.slice none 0 0) hgr CY (ax _) J2;exact qV (R:=w.heap.size) rfl rfl (qR HZ.out) (Aj HN.out.symm hG.1 hG.2.1)
    ·obtain⟨x,y,z,rfl⟩:∃x y z,rows=x::y::z:=by
      match rows,e2,h1 with
      |x::y::z,_,_=>exact⟨x,y,z,rfl⟩
     have HN:Aside ((if 1800<c+1 then none else jg (s.drop (i+1)) ((y++[bL x])::z) (c+1))=jg s [[]] 0):=(apy _ _ _ _ _).symm.trans HA.out;simp only[aa] at e1 e2 e3 h1 hlr;have q0:((z.length:Int)+1==0)=false:=beq_false_of_ne gA
     simp only[aa] at *
     clear h1
     obtain⟨hz,yv,xv,rfl,hzl⟩:∃hz yv xv,hv=hz++[yv,xv]/\hz.length=z.length:=⟨hv.take z.length,hv[z.length]' gA,hv[z.length+1]' gA,by
      conv=>lhs;rw[<-da z.length hv]
      rw[cb gA,cb gA,ff gA],gR⟩
     have yf:=Tg hst z.length;have yc:=yV hst (j:=z.length) (u:=yv) (by rw[ag gA,hzl,cM];rfl);have xc:=yV hst (j:=z.length+1) (u:=xv) (by rw[ag gA,hzl,cY];rfl);obtain⟨yv',b1,b2,b3⟩:=hst.rows z.length y gL;rw[ag gA,hzl,cM] at b1
     obtain rfl:yv=yv':=by simpa using b1
     obtain⟨xv',d1,d2,d3⟩:=hst.rows (z.length+1) x gL;rw[ag gA,hzl,cY] at d1
     obtain rfl:xv=xv':=by simpa using d1
     obtain⟨ya,zD,rfl,_⟩:=K6 b2;obtain⟨xa,wS,rfl,_⟩:=K6 d2;obtain⟨yxs,amL,arJ⟩:=b2.own;clear b1 d1
     have i1:(0:Int)<=(z.length:Int):=gA
     have i2:(z.length:Int)<(z.length:Int)+1+1:=gA
     have i3:(0:Int)<=(z.length:Int)+1:=gA
     have i4:(z.length:Int)+1<(z.length:Int)+1+1:=gA
     have hsub:(z.length:Int)+1-1=(z.length:Int):=gA
     have hwr:IntKind.i64.wrap ((z.length:Int)+1-1)=(z.length:Int):=by rw[hsub];exact Ob _ gA
     have hwr2:IntKind.i64.wrap (z.length:Int)=(z.length:Int):=Ob _ gA;have Nj:some g≠(Value.slice ya y.length zD).ownBlock:=fun e=>b3 g e.symm rfl;obtain⟨iS,hiS,hzS,hsS,hbS⟩:=info_parts ai0
     have hyl:y.length<=1800:=by have:=hlen y gL;omega
     have hyb:∀b,(Value.slice ya y.length zD).ownBlock=some b->b<wr.heap.size:=fun b hb=>(amL.lt b hb).2
     go_wp2
     go_region
     all_goals go_wp2
     all_goals
      refine Qm fun wq hwq=> ?_;obtain⟨o16,hq⟩:∃o,wq=(wr.alloc o).drew:=⟨_,hwq⟩;clear hwq;have hcp:z.length+1+1<=cap:=apv hst
      have hcp1:(z.length:Int)+1<=(cap:Int):=gA
      have hcp2:(0:Int)<=(z.length:Int)+1:=gA
      have hga:=aiX (Dy hgr.live o16);rw[<-hq] at hga
      have hqs:wq.heap.size=wr.heap.size+1:=by rw[hq];simp
      clear hq
      have EL:kQ wq σ1 (w.heap.size+1) 24 26 (.slice (some ⟨g,0,none⟩) (z.length+1+1) cap) ((hz++[Value.slice ya y.length zD])++[Value.slice xa x.length wS]) ((z.reverse++[y])++[x]):=by
       have:=hst.grow hga;simpa using this
      obtain⟨σ2,xv2,f1,f2,f3,f4,f5,f6⟩:=EL.fast hga.live
      obtain rfl:Value.slice xa x.length wS=xv2:=by
       rw[ag gR] at f4;simpa [hzl] using f4
      have wG:=amG f6 gR gL
     ·obtain⟨g1,jQ,w2,hrun,s1,s2,s3,⟨sM,s4,s5⟩,s6,s7,s8,s9,s10,s11,s12,s13,Nr⟩:=He (P:=prog) (j:=z.length) 24 underlying24 hiS hzS hsS hbS f2 gA wG gR (y:=y) gL (by rw[ag gA,hzl,cM];rfl) gA (bL x) (u:=.string ⟨#[]⟩) rfl f5 rfl 26;obtain⟨wa,uU⟩:∃wa,wa=w2.setCell ⟨g,z.length,none⟩ (.slice (some ⟨g1,0,none⟩) (y.length+1) jQ):=⟨_,rfl⟩;rw[<-uU] at s7 s8
      obtain⟨W,e0,Ca,Lu,Ns⟩:∃W:Nat->World,W 0=wq.drew/\W 1=wq.drew.alloc (.cells #[.string ⟨#[]⟩,.slice xa x.length wS] 26)/\W 3=w2/\W 7=wa:=
       ⟨fun m=>if m=0 then wq.drew else if m=1 then wq.drew.alloc (.cells #[.string ⟨#[]⟩,.slice xa x.length wS] 26) else if m=3 then w2 else wa,rfl,rfl,rfl,rfl⟩
      have yq:wq.cell? ⟨g,z.length,none⟩=some (.slice ya y.length zD):=yV EL (j:=z.length) (by rw[cf,ag gA,hzl,cM];rfl);have xq:wq.cell? ⟨g,z.length+1,none⟩=some (.slice xa x.length wS):=yV EL (j:=z.length+1) (by rw[cf,ag gA,hzl,cY];rfl);refine FD 152 [13,14,16] [[0,1,3],[0,1,3],[0,1,3],[0,1],[0,1],[0,1],[0,1],[0,1],[0],[0],[0],[0],[0],[0],[1],[3],[3]] W (by kernel_rfl) (by kernel_rfl) rfl e0 ?_;refine dB.anyS (.slice (some ⟨g,0,none⟩) (z.length+1+1) cap) ?_;refine dB.anyS (.int .i64 (z.length+1)) ?_;refine dB.anyS (.int .i64 z.length) ?_;refine dB.anyS (.slice (some ⟨g,0,none⟩) (z.length+1+1) cap) ?_;refine dB.anyS (.int .i64 (z.length+1)) ?_;refine dB.anyS (.int .i64 z.length) ?_;refine dB.anyS (.pointer (some ⟨g,z.length,none⟩)) ?_;refine dB.afB (.slice ya y.length zD) e0 e0 Ca Ca ?_;refine dB.anyS (.slice (some ⟨g,0,none⟩) (z.length+1+1) cap) ?_;refine dB.anyS (.int .i64 (z.length+1)) ?_;refine dB.anyS (.pointer (some ⟨g,z.length+1,none⟩)) ?_;refine dB.afA (.slice xa x.length wS) e0 e0 ?_;refine dB.anyS (.agg #[.string ⟨#[]⟩,.slice xa x.length wS]) ?_;refine dB.afA (.slice (some ⟨wq.heap.size,0,none⟩) 1 1) e0 Ca ?_;refine dB.BN (.slice (some ⟨g1,0,none⟩) (y.length+1) jQ) Ca Lu (Dt rfl (by go_simp) (by go_simp) hrun) ?_;refine dB.anyS (.pointer (some ⟨g,z.length,none⟩)) ?_;refine dB.BN undef Lu Ns (yQ (by rw[uU];go_simp)) ?_;refine dB.done ?_;rw[show W (2^ [13,14,16].length-1)=wa from Ns];have zF:w.heap.size<wr.heap.size:=lt_of_some HZ.out
      have E5:wa.heap[w.heap.size]? =some (.cells #[.string ⟨#[]⟩,.slice none 0 0] 26 (0,0)):=by
       rw[uU,lC gA,Nr _ gA,(hga.old _ zF).1];exact HZ.out
      have Wj:Grow w σ wa σ2:=G9 (B:=w.heap.size+1) (Z5 (hgr.trans hga) f3 f2 gA) (by rw[uU];simpa [World.setCell] using s9) (by rw[uU];exact s10) (by rw[uU];exact s11) (fun b hb=>by rw[uU,lC gA];exact Nr b hb) gA;have UG:mF wa σ2:=((CY.near hga.near).near f1).near s7;have Nt:σ2 w.heap.size=0:=(f3 _ gA).trans J2
      have Wl:kQ wa σ2 (w.heap.size+1) 24 26 (.slice (some ⟨g,0,none⟩) (z.length+1) cap) (hz++[.slice (some ⟨g1,0,none⟩) (y.length+1) jQ]) ((y++[bL x])::z).reverse:=by
       rw[yU _ _ _ _ hzl,yU _ _ _ _ gL] at s8;rw[eb];exact s8
      have hsz1:dx (y++[bL x])=dx y+(x.length+dx x):=by
       rw[gQ,dx,dx,jH,cR]
      have Tm:Nk ((y++[bL x])::z)<=2*(i+1):=by
       simp only[Nk,hsz1,ae,eg] at Z6 ⊢;omega
      have Kj:∀l∈(y++[bL x])::z,l.length<=c+1:=fun l hl=>by
       rcases cT.1 hl with rfl|hl
       ·have:=hlen y gL;simp only[ae,eg];omega
       ·have:=hlen l (by simp[hl]);omega
      have r0':wa.cell? ⟨w.heap.size,0,none⟩=some (.string ⟨#[]⟩):=by rw[Lib.cell_of_heap E5];rfl
      have r1':wa.cell? ⟨w.heap.size,1,none⟩=some (.slice none 0 0):=by rw[Lib.cell_of_heap E5];rfl
      have z0':=Lib.frozen_of_heap E5 0;have z1':=Lib.frozen_of_heap E5 1;have HST:Aside (kQ wa σ2 (w.heap.size+1) 24 26 (.slice (some ⟨g,0,none⟩) (z.length+1) cap) (hz++[.slice (some ⟨g1,0,none⟩) (y.length+1) jQ]) ((y++[bL x])::z).reverse):=Wl;have Cn:Aside (wa.heap[w.heap.size]? =some (.cells #[.string ⟨#[]⟩,.slice none 0 0] 26 (0,0))):=E5;clear e0 Ca Lu Ns uU s1 s2 s3 s4 s5 s6 s7 s8 Wl s9 s10 s11 s12 s13 Nr hrun yq xq wG f6 f5 f4 EL hst E5 r0 r1 z0 z1 yc xc yf arJ amL b2 d2
      have afZ:¬(15:Int)<(z.length:Int)+1:=gA
      by_cases hl2:1800<c+1
      ·have Qt:(1800:Int)<(c:Int)+1:=gA
       go_wp2
       have hG:=qU (x:=.string ⟨#[]⟩) (y:=.slice none 0 0) Wj UG (ax _) Nt;refine qV (R:=w.heap.size) rfl rfl (qR Cn.out) (Aj ?_ hG.1 hG.2.1);rw[<-HN.out,if_pos hl2]
      ·have Qt:¬(1800:Int)<(c:Int)+1:=gA
       have Z7:Aside (jg (s.drop (i+1)) ((y++[bL x])::z) (c+1)=jg s [[]] 0):=by
        have:=HN.out;rw[if_neg hl2] at this;exact this
       go_wp2
       go_roundg k
       case measure=>omega
       case rel=>
        exact⟨(y++[bL x])::z,σ2,i+1,c+1,g,cap,_,rfl,rfl,rfl,by simp[hzl],gL,by simp only[aa];omega,gA,gA,Z7.out,HST.out,Wj,UG,Kj,Tm,Nt,Cn.out⟩
     ·obtain⟨g1,jQ,w2,hrun,s1,s2,s3,⟨sM,s4,s5⟩,s6,s7,s8,s9,s10,s11,s12,s13,Nr⟩:=He (P:=prog) (j:=z.length) 24 underlying24 hiS hzS hsS hbS f2 gA wG gR (y:=y) gL (by rw[ag gA,hzl,cM];rfl) gA cZ (u:=.string ⟨#[]⟩) (lv:=.slice none 0 0) rfl (.nil _ _) rfl 26;obtain⟨wa,uU⟩:∃wa,wa=w2.setCell ⟨g,z.length,none⟩ (.slice (some ⟨g1,0,none⟩) (y.length+1) jQ):=⟨_,rfl⟩;rw[<-uU] at s7 s8
      obtain⟨W,e0,Ca,Lu,Ns⟩:∃W:Nat->World,W 0=wq.drew/\W 1=wq.drew.alloc (.cells #[.string ⟨#[]⟩,.slice none 0 0] 26)/\W 3=w2/\W 7=wa:=
       ⟨fun m=>if m=0 then wq.drew else if m=1 then wq.drew.alloc (.cells #[.string ⟨#[]⟩,.slice none 0 0] 26) else if m=3 then w2 else wa,rfl,rfl,rfl,rfl⟩
      have yq:wq.cell? ⟨g,z.length,none⟩=some (.slice ya y.length zD):=yV EL (j:=z.length) (by rw[cf,ag gA,hzl,cM];rfl);have xq:wq.cell? ⟨g,z.length+1,none⟩=some (.slice xa x.length wS):=yV EL (j:=z.length+1) (by rw[cf,ag gA,hzl,cY];rfl);refine FD 152 [14,15,17] [[0,1],[0,1],[0,1],[0,1],[0,1],[0,1],[0,1],[0,1],[0,1],[0,1],[0,1],[0,1],[0,1],[0,1],[0],[1],[3],[3]] W (by kernel_rfl) (by kernel_rfl) rfl e0 ?_;refine dB.anyS (.slice (some ⟨g,0,none⟩) (z.length+1+1) cap) ?_;refine dB.anyS (.int .i64 (z.length+1)) ?_;refine dB.anyS (.int .i64 z.length) ?_;refine dB.anyS (.slice (some ⟨g,0,none⟩) (z.length+1+1) cap) ?_;refine dB.anyS (.int .i64 (z.length+1)) ?_;refine dB.anyS (.int .i64 z.length) ?_;refine dB.anyS (.pointer (some ⟨g,z.length,none⟩)) ?_;refine dB.afB (.slice ya y.length zD) e0 e0 Ca Ca ?_;refine dB.anyS (.slice (some ⟨g,0,none⟩) (z.length+1+1) cap) ?_;refine dB.anyS (.int .i64 (z.length+1)) ?_;refine dB.anyS (.pointer (some ⟨g,z.length+1,none⟩)) ?_;refine dB.afB (.slice xa x.length wS) e0 e0 Ca Ca ?_;refine dB.anyS (.agg #[.string ⟨#[]⟩,.slice xa x.length wS]) ?_;refine dB.anyS (.int .i64 y.length) ?_;refine dB.afA (.slice (some ⟨wq.heap.size,0,none⟩) 1 1) e0 Ca ?_;refine dB.BN (.slice (some ⟨g1,0,none⟩) (y.length+1) jQ) Ca Lu (Dt rfl (by go_simp) (by go_simp) hrun) ?_;refine dB.anyS (.pointer (some ⟨g,z.length,none⟩)) ?_;refine dB.BN undef Lu Ns (yQ (by rw[uU];go_simp)) ?_;refine dB.done ?_;rw[show W (2^ [14,15,17].length-1)=wa from Ns];have zF:w.heap.size<wr.heap.size:=lt_of_some HZ.out
      have E5:wa.heap[w.heap.size]? =some (.cells #[.string ⟨#[]⟩,.slice none 0 0] 26 (0,0)):=by
       rw[uU,lC gA,Nr _ gA,(hga.old _ zF).1];exact HZ.out
      have Wj:Grow w σ wa σ2:=G9 (B:=w.heap.size+1) (Z5 (hgr.trans hga) f3 f2 gA) (by rw[uU];simpa [World.setCell] using s9) (by rw[uU];exact s10) (by rw[uU];exact s11) (fun b hb=>by rw[uU,lC gA];exact Nr b hb) gA;have UG:mF wa σ2:=((CY.near hga.near).near f1).near s7;have Nt:σ2 w.heap.size=0:=(f3 _ gA).trans J2
      have Wl:kQ wa σ2 (w.heap.size+1) 24 26 (.slice (some ⟨g,0,none⟩) (z.length+1) cap) (hz++[.slice (some ⟨g1,0,none⟩) (y.length+1) jQ]) ((y++[cZ])::z).reverse:=by
       rw[yU _ _ _ _ hzl,yU _ _ _ _ gL] at s8;rw[eb];exact s8
      have gne:g1≠w.heap.size:=gA
      have amM:w.heap.size≠g1:=gA
      have Jh:wa.heap[g1]? =some (.cells sM 26 (0,0)):=by rw[uU,lC s3];exact s4
      have m1:(0:Int)<=(y.length:Int):=gA
      have m2:(y.length:Int)<(y.length:Int)+1:=gA
      have d0:wa.cell? ⟨g1,y.length*2,none⟩=some (sM[y.length*2]' gA):=by rw[Lib.cell_of_heap Jh];simp
      have d1:wa.cell? ⟨g1,y.length*2+1,none⟩=some (sM[y.length*2+1]' gA):=by rw[Lib.cell_of_heap Jh];simp
      have dz0:=Lib.frozen_of_heap Jh (y.length*2);have dz1:=Lib.frozen_of_heap Jh (y.length*2+1);obtain⟨t1,t2,t3⟩:=Z4 (x:=bL x) (lv:=.slice xa x.length wS) (j:=z.length) (g1:=g1) (jQ:=jQ) Wj.live (by rw[show(hz++[Value.slice (some ⟨g1,0,none⟩) (y.length+1) jQ]).length=z.length+1 by simp[hzl]];exact Wl) (by rw[eb,ag gL,List.length_reverse,cM];rfl) (by rw[ag gA,hzl,cM];rfl) (f5.mono s7);rw[show(hz++[Value.slice (some ⟨g1,0,none⟩) (y.length+1) jQ]).length=z.length+1 by simp[hzl],eb,yU _ _ _ _ gL,<-eb] at t2;have hGb:=G9 Wj (W:=(wa.setCell ⟨g1,y.length*2,none⟩ (.string ⟨(bL x).aI.toArray⟩)).setCell ⟨g1,y.length*2+1,none⟩ (.slice xa x.length wS)) (by simp[World.setCell]) rfl rfl (fun b hb=>t3 b gA) (Nat.le_succ w.heap.size);have Z8:=UG.near t1;have hRb:=(t3 w.heap.size amM).trans E5
      have hsz1:dx (y++[bL x])=dx y+(x.length+dx x):=by
       rw[gQ,dx,dx,jH,cR]
      have Tm:Nk ((y++[bL x])::z)<=2*(i+1):=by
       simp only[Nk,hsz1,ae,eg] at Z6 ⊢;omega
      have Kj:∀l∈(y++[bL x])::z,l.length<=c+1:=fun l hl=>by
       rcases cT.1 hl with rfl|hl
       ·have:=hlen y gL;simp only[ae,eg];omega
       ·have:=hlen l (by simp[hl]);omega
      have r0':wa.cell? ⟨w.heap.size,0,none⟩=some (.string ⟨#[]⟩):=by rw[Lib.cell_of_heap E5];rfl
      have r1':wa.cell? ⟨w.heap.size,1,none⟩=some (.slice none 0 0):=by rw[Lib.cell_of_heap E5];rfl
      have z0':=Lib.frozen_of_heap E5 0;have z1':=Lib.frozen_of_heap E5 1;have HST:Aside (kQ ((wa.setCell ⟨g1,y.length*2,none⟩ (.string ⟨(bL x).aI.toArray⟩)).setCell ⟨g1,y.length*2+1,none⟩ (.slice xa x.length wS)) σ2 (w.heap.size+1) 24 26 (.slice (some ⟨g,0,none⟩) (z.length+1) cap) (hz++[.slice (some ⟨g1,0,none⟩) (y.length+1) jQ]) ((y++[bL x])::z).reverse):=t2;have Cn:Aside (((wa.setCell ⟨g1,y.length*2,none⟩ (.string ⟨(bL x).aI.toArray⟩)).setCell ⟨g1,y.length*2+1,none⟩ (.slice xa x.length wS)).heap[w.heap.size]? =some (.cells #[.string ⟨#[]⟩,.slice none 0 0] 26 (0,0))):=hRb;clear e0 Ca Lu Ns uU s1 s2 s3 s4 s6 s7 s8 Wl s9 s10 s11 s12 s13 Nr hrun yq xq wG f6 f5 f4 EL hst E5 hRb t1 t2 t3 r0 r1 z0 z1 yc xc yf arJ amL b2 d2
      have afZ:¬(15:Int)<(z.length:Int)+1:=gA
      by_cases hl2:1800<c+1
      ·have Qt:(1800:Int)<(c:Int)+1:=gA
       go_wp2
       have hG:=qU (x:=.string ⟨#[]⟩) (y:=.slice none 0 0) hGb Z8 (ax _) Nt;refine qV (R:=w.heap.size) rfl rfl (qR Cn.out) (Aj ?_ hG.1 hG.2.1);rw[<-HN.out,if_pos hl2]
      ·have Qt:¬(1800:Int)<(c:Int)+1:=gA
       have Z7:Aside (jg (s.drop (i+1)) ((y++[bL x])::z) (c+1)=jg s [[]] 0):=by
        have:=HN.out;rw[if_neg hl2] at this;exact this
       go_wp2
       go_roundg k
       case measure=>omega
       case rel=>
        exact⟨(y++[bL x])::z,σ2,i+1,c+1,g,cap,_,rfl,rfl,rfl,by simp[hzl],gL,by simp only[aa];omega,gA,gA,Z7.out,HST.out,hGb,Z8,Kj,Tm,Nt,Cn.out⟩
   have n41:¬b.toNat=41:=fun e=>Wh (gm.1 e);have q41:((b.toNat:Int)==41)=false:=beq_false_of_ne gA;have q32:((b.toNat:Int)==32)=false:=beq_false_of_ne gA;have q10:((b.toNat:Int)==10)=false:=beq_false_of_ne gA;have q40:((b.toNat:Int)==40)=false:=beq_false_of_ne gA;clear n41 n32 n10 n40;have HBL:Aside (mq b=false/\b≠40/\b≠41):=⟨Nq,S9,Wh⟩;clear Nq S9 Wh;have hc:=FM (Ey b) hgr.live CY (arG b)
   have hc:Calls prog 85 #[.int .u8 b.toNat] wr fun e w'=>e=.returned (.bool (bV b))/\∃σ',Grow wr σ1 w' σ'/\mF w' σ':=
    hc.mono fun e w' ⟨v,σ',he,zy,hg,hgl⟩=>by
     obtain rfl:v=.bool (bV b):=by cases zy.1;rfl
     exact⟨he,σ',hg,hgl⟩
   have zF:w.heap.size<wr.heap.size:=lt_of_some HZ.out
   cases hat:bV b with
   |false=>
    rw[hat] at hc;have HN:Aside (none=jg s [[]] 0):=(amJ _ _ _ HBL.out.1 HBL.out.2.1 HBL.out.2.2 hat).symm.trans HA.out;clear hat hst hlr
    go_wp2_with (go_at_call 85;refine hc.mono ?_)
    rintro e w1 ⟨rfl,σ2,hg2,Qs⟩;have J3:=(hg2.old _ zF).1.trans HZ.out
    have r0':w1.cell? ⟨w.heap.size,0,none⟩=some (.string ⟨#[]⟩):=by rw[Lib.cell_of_heap J3];rfl
    have r1':w1.cell? ⟨w.heap.size,1,none⟩=some (.slice none 0 0):=by rw[Lib.cell_of_heap J3];rfl
    have z0':=Lib.frozen_of_heap J3 0;have z1':=Lib.frozen_of_heap J3 1;have Cn:Aside (w1.heap[w.heap.size]? =some (.cells #[.string ⟨#[]⟩,.slice none 0 0] 26 (0,0))):=J3;clear J3 r0 r1 z0 z1
    go_wp2
    have hG:=qU (x:=.string ⟨#[]⟩) (y:=.slice none 0 0) (hgr.trans hg2) Qs (ax _) (((hg2.old _ zF).2).trans J2);exact qV (R:=w.heap.size) rfl rfl (qR Cn.out) (Aj HN.out.symm hG.1 hG.2.1)
   |true=>
    obtain⟨x,z,rfl⟩:∃x z,rows=x::z:=by
     match rows,e2 with
     |x::z,_=>exact⟨x,z,rfl⟩
    rw[hat] at hc;have hwd:=fun e=>aiY (s:=s) (i:=i) (e:=e) x z c HD.out hat
    have HWD:Aside (∀e,i<e->(∀a∈(s.drop i).take (e-i),bV a=true)->(e=s.length\/∃a,s[e]? =some a/\bV a=false)->(if 1800<c+1 then none else jg (s.drop e) ((x++[bN ((s.take e).drop i)])::z) (c+1))=jg s [[]] 0):=
     fun e h1 h2 h3=>(hwd e h1 h2 h3).symm.trans HA.out
    have HAT:Aside (bV b=true):=hat;clear hwd hat HBL
    simp only[aa] at *
    obtain⟨wo,rfl⟩:∃wo,wo=wr:=⟨_,rfl⟩
    go_wp2_with (go_at_call 85;refine hc.mono ?_)
    rintro e w1 ⟨rfl,σ2,hg2,Qs⟩
    go_wp2
    go_loopg [9] (s.length-i) (fun k v9 wx=>∃e:Nat,v9=.int .i64 e/\e+k=s.length/\i<=e/\(∀a∈(s.drop i).take (e-i),bV a=true)/\∃σx,Grow wo σ1 wx σx/\mF wx σx)
    case atStart=>exact⟨i,rfl,gA,ax _,gL,σ2,hg2,Qs⟩
    case round=>
     obtain⟨e,rfl,g1,g2,g3,σx,g4,g5⟩:=hrel;rcases(by cases gk<;>simp:gk=0\/∃k2,gk=k2+1) with rfl|⟨k2,rfl⟩
     focus
      have HES:Aside (e=s.length):=by show e=s.length;omega
      have hne:¬(e:Int)<(s.length:Int):=gA
      go_wp2
      refine Qm fun wq hwq=> ?_;obtain⟨σq,Z9,arM⟩:∃σq,Grow wo σ1 wq σq/\mF wq σq:=⟨σx,by rw[hwq];exact g4,by rw[hwq];exact g5⟩;clear hwq;have HW:=HWD.out e (by have:=HES.out;omega) g3 (.inl HES.out)
      have hie:i<e:=by have:=HES.out;omega
     rotate_left
     focus
      have hel:e<s.length:=gA
      obtain⟨b2,hb2⟩:∃b2,s[e]=b2:=⟨_,rfl⟩;have hx2:((⟨s.toArray⟩:ByteArray)[e]'(UF hel)).toNat=b2.toNat:=congrArg UInt8.toNat ((byte_at hel).trans hb2)
      have HB2:Aside (s[e]? =some b2):=by
       show s[e]? =some b2;rw[am hel,hb2]
      clear hb2;have hc2:=FM (Ey b2) g4.live g5 (arG b2)
      have hc2:Calls prog 85 #[.int .u8 b2.toNat] wr fun e w'=>e=.returned (.bool (bV b2))/\∃σ',Grow wr σx w' σ'/\mF w' σ':=
       hc2.mono fun e w' ⟨v,σ',he,zy,hg,hgl⟩=>by
        obtain rfl:v=.bool (bV b2):=by cases zy.1;rfl
        exact⟨he,σ',hg,hgl⟩
      cases UH:bV b2
     focus
      rw[UH] at hc2;have af0:Aside (bV b2=false):=UH;clear UH
      go_wp2_with (go_at_call 85;refine hc2.mono ?_)
      rintro e' w2 ⟨rfl,σ3,hg3,amN⟩
      go_wp2
      refine Qm fun wq hwq=> ?_;obtain⟨σq,Z9,arM⟩:∃σq,Grow wo σ1 wq σq/\mF wq σq:=⟨σ3,by rw[hwq];exact g4.trans hg3,by rw[hwq];exact amN⟩;clear hwq
      have hie:i<e:=by
       rcases fh i e with h|h
       ·exact h
       ·have he:e=i:=gA
        have h1:=HB2.out;rw[he,am hi,HB.out] at h1;cases h1;have:=af0.out;rw[HAT.out] at this;cases this
      have HW:=HWD.out e hie g3 (.inr ⟨b2,HB2.out,af0.out⟩)
     rotate_left
     ·rw[UH] at hc2;have af0:Aside (bV b2=true):=UH;clear UH
      go_wp2_with (go_at_call 85;refine hc2.mono ?_)
      rintro e' w2 ⟨rfl,σ3,hg3,amN⟩
      go_wp2
      go_roundg k2
      case measure=>omega
      case rel=>
       refine⟨e+1,rfl,gA,gA,fun a ha=> ?_,σ3,g4.trans hg3,amN⟩;rw[show e+1-i=(e-i)+1 by omega,List.take_add_one,cI,show i+(e-i)=e by omega,HB2.out] at ha;rcases dm.1 ha with ha|ha
       ·exact g3 a ha
       ·simp at ha;subst ha;exact af0.out
     all_goals
      replace HW:Aside ((if 1800<c+1 then none else jg (s.drop e) ((x++[bN ((s.take e).drop i)])::z) (c+1))=jg s [[]] 0):=HW
      have HWL:Aside (((s.take e).drop i).length=e-i):=by
       show((s.take e).drop i).length=e-i;rw[bk,cj];omega
      obtain⟨hz,xv,rfl,hzl⟩:∃hz xv,hv=hz++[xv]/\hz.length=z.length:=⟨hv.take z.length,hv[z.length]' gA,by
       conv=>lhs;rw[<-da z.length hv]
       rw[cb gA,ff gA],gR⟩
      have EL:kQ wq σq (w.heap.size+1) 24 26 (.slice (some ⟨g,0,none⟩) (z.length+1) cap) (hz++[xv]) (z.reverse++[x]):=by
       have:=hst.grow Z9;simpa using this
      obtain⟨xv',d1,d2,d3⟩:=EL.rows z.length x gL;rw[ag gA,hzl,cM] at d1
      obtain rfl:xv=xv':=by simpa using d1
      obtain⟨xa,wS,rfl,_⟩:=K6 d2;clear d1 d2 d3;obtain⟨iS,hiS,hzS,hsS,hbS⟩:=info_parts ai0
      have hxl:x.length<=1800:=by have:=hlen x gL;omega
      have hBq:w.heap.size+1<=wq.heap.size:=by have:=hgB.1;have:=hgB.2;have:=Z9.size;omega
      have xq:wq.cell? ⟨g,z.length,none⟩=some (.slice xa x.length wS):=yV EL (j:=z.length) (by rw[ag gA,hzl,cM];rfl);obtain⟨q1,jQ,w5,hrun,s1,s2,s3,⟨sM,s4,s5⟩,s6,s7,s8,s9,s10,s11,s12,s13,Nr⟩:=He (P:=prog) (j:=z.length) 24 underlying24 hiS hzS hsS hbS Z9.live hBq EL gR (y:=x) gL (by rw[ag gA,hzl,cM];rfl) gA cZ (u:=.string ⟨#[]⟩) (lv:=.slice none 0 0) rfl (.nil _ _) rfl 26;obtain⟨wa,uU⟩:∃wa,wa=w5.setCell ⟨g,z.length,none⟩ (.slice (some ⟨q1,0,none⟩) (x.length+1) jQ):=⟨_,rfl⟩;rw[<-uU] at s7 s8;obtain⟨w7,hw7⟩:∃w7,w7=(w5.setCell ⟨q1,x.length*2,none⟩ (.string ⟨((s.take e).drop i).toArray⟩)).setCell ⟨q1,x.length*2+1,none⟩ (.slice none 0 0):=⟨_,rfl⟩;obtain⟨wb,hwb⟩:∃wb,wb=(wa.setCell ⟨q1,x.length*2,none⟩ (.string ⟨((s.take e).drop i).toArray⟩)).setCell ⟨q1,x.length*2+1,none⟩ (.slice none 0 0):=⟨_,rfl⟩
      have hcm:w7.setCell ⟨g,z.length,none⟩ (.slice (some ⟨q1,0,none⟩) (x.length+1) jQ)=wb:=by
       rw[hw7,hwb,uU,set_comm (Ne.symm s3),set_comm (Ne.symm s3)]
      have s1':w7.cell? ⟨g,z.length,none⟩=some (.slice xa x.length wS):=by
       rw[<-s1];exact World.cell?_of_block (by rw[hw7];exact(lC (Ne.symm s3)).trans (lC (Ne.symm s3)))
      have s2':w7.frozen? ⟨g,z.length,none⟩=false:=by
       rw[<-s2];exact World.frozen?_of_block (by rw[hw7];exact(lC (Ne.symm s3)).trans (lC (Ne.symm s3)))
      have Jh:wa.heap[q1]? =some (.cells sM 26 (0,0)):=by rw[uU,lC s3];exact s4
      have xq1:(wq.alloc (.cells #[.string ⟨#[]⟩,.slice none 0 0] 26)).cell? ⟨g,z.length,none⟩=some (.slice xa x.length wS):=afV _ xq
      have m1:(0:Int)<=(x.length:Int):=gA
      have m2:(x.length:Int)<(x.length:Int)+1:=gA
      have m3:(0:Int)<=(z.length:Int):=gA
      have m4:(z.length:Int)<(z.length:Int)+1:=gA
      have m5:(0:Int)<=(i:Int):=gA
      have m6:(i:Int)<=(e:Int):=gA
      have m7:(e:Int)<=(s.length:Int):=gA
      have d0:wa.cell? ⟨q1,x.length*2,none⟩=some (sM[x.length*2]' gA):=by rw[Lib.cell_of_heap Jh];simp
      have d1:wa.cell? ⟨q1,x.length*2+1,none⟩=some (sM[x.length*2+1]' gA):=by rw[Lib.cell_of_heap Jh];simp
      have dz0:=Lib.frozen_of_heap Jh (x.length*2);have dz1:=Lib.frozen_of_heap Jh (x.length*2+1)
      have c0:w5.cell? ⟨q1,x.length*2,none⟩=some (sM[x.length*2]' gA):=by rw[Lib.cell_of_heap s4];simp
      have c1:w5.cell? ⟨q1,x.length*2+1,none⟩=some (sM[x.length*2+1]' gA):=by rw[Lib.cell_of_heap s4];simp
      have cz0:=Lib.frozen_of_heap s4 (x.length*2);have cz1:=Lib.frozen_of_heap s4 (x.length*2+1)
      obtain⟨W,e0,Ca,Lu,Ns,amO,af2⟩:∃W:Nat->World,W 0=wq.drew/\W 1=wq.drew.alloc (.cells #[.string ⟨#[]⟩,.slice none 0 0] 26)/\W 3=w5/\W 7=w7/\W 11=wa/\W 15=wb:=
       ⟨fun m=>if m=0 then wq.drew else if m=1 then wq.drew.alloc (.cells #[.string ⟨#[]⟩,.slice none 0 0] 26) else if m=3 then w5 else if m=7 then w7 else if m=11 then wa else wb,rfl,rfl,rfl,rfl,rfl,rfl⟩
      refine FD 152 [10,11,13,15] [[0,1],[0,1],[0,1],[0,1],[0,1],[0,1],[0,1],[0,1],[0,1],[0,1],[0],[1],[3,11],[3,11],[3,7],[3,7]] W (by kernel_rfl) (by kernel_rfl) rfl e0 ?_;refine dB.anyS (.slice (some ⟨g,0,none⟩) (z.length+1) cap) ?_;refine dB.anyS (.int .i64 z.length) ?_;refine dB.anyS (.pointer (some ⟨g,z.length,none⟩)) ?_;refine dB.afB (.slice xa x.length wS) e0 e0 Ca Ca ?_;refine dB.anyS (.string ⟨s.toArray⟩) ?_;refine dB.anyS (.int .i64 i) ?_;refine dB.anyS (.int .i64 e) ?_;refine dB.any (.string ⟨((s.take e).drop i).toArray⟩) rfl (fun w=>nQ (by go_simp;exact apw s i e)) ?_;refine dB.anyS (.agg #[.string ⟨((s.take e).drop i).toArray⟩,.slice none 0 0]) ?_;refine dB.anyS (.int .i64 x.length) ?_;refine dB.afA (.slice (some ⟨wq.heap.size,0,none⟩) 1 1) e0 Ca ?_;refine dB.BN (.slice (some ⟨q1,0,none⟩) (x.length+1) jQ) Ca Lu (Dt rfl (by go_simp) (by go_simp) hrun) ?_;refine dB.anyS (.pointer (some ⟨q1,x.length*2,none⟩)) ?_;refine dB.at2 undef Lu Ns amO af2 (yQ (by rw[hw7];go_simp)) (yQ (by rw[hwb];go_simp)) ?_;refine dB.anyS (.pointer (some ⟨g,z.length,none⟩)) ?_;refine dB.at2 undef Lu amO Ns af2 (yQ (by rw[uU];go_simp)) (yQ (by rw[<-hcm];go_simp)) ?_;refine dB.done ?_;rw[show W (2^ [10,11,13,15].length-1)=wb from af2];have zF:w.heap.size<wo.heap.size:=lt_of_some HZ.out
      have E5:wa.heap[w.heap.size]? =some (.cells #[.string ⟨#[]⟩,.slice none 0 0] 26 (0,0)):=by
       rw[uU,lC gA,Nr _ gA,(Z9.old _ zF).1];exact HZ.out
      have Wj:Grow w σ wa σq:=G9 (B:=w.heap.size+1) (hgr.trans Z9) (by rw[uU];simpa [World.setCell] using s9) (by rw[uU];exact s10) (by rw[uU];exact s11) (fun b hb=>by rw[uU,lC gA];exact Nr b hb) gA;have UG:mF wa σq:=arM.near s7;have Nt:σq w.heap.size=0:=(Z9.old _ zF).2.trans J2
      have Wl:kQ wa σq (w.heap.size+1) 24 26 (.slice (some ⟨g,0,none⟩) (z.length+1) cap) (hz++[(.slice (some ⟨q1,0,none⟩) (x.length+1) jQ)]) ((x++[cZ])::z).reverse:=by
       rw[yU _ _ _ _ hzl,yU _ _ _ _ gL] at s8;rw[eb];exact s8
      have gne:q1≠w.heap.size:=gA
      have amM:w.heap.size≠q1:=gA
      obtain⟨t1,t2,t3⟩:=Z4 (x:=bN ((s.take e).drop i)) (lv:=.slice none 0 0) (j:=z.length) (g1:=q1) (jQ:=jQ) Wj.live (by rw[show(hz++[Value.slice (some ⟨q1,0,none⟩) (x.length+1) jQ]).length=z.length+1 by simp[hzl]];exact Wl) (by rw[eb,ag gL,List.length_reverse,cM];rfl) (by rw[ag gA,hzl,cM];rfl) (.nil _ _);rw[show(hz++[Value.slice (some ⟨q1,0,none⟩) (x.length+1) jQ]).length=z.length+1 by simp[hzl],eb,yU _ _ _ _ gL,<-eb] at t2
      have t3':∀b,b≠q1->wb.heap[b]? =wa.heap[b]? :=by rw[hwb];exact t3
      have hGb:Grow w σ wb σq:=G9 Wj (by rw[hwb];simp[World.setCell]) (by rw[hwb];rfl) (by rw[hwb];rfl) (fun b hb=>t3' b gA) (Nat.le_succ w.heap.size)
      have Z8:mF wb σq:=by rw[hwb];exact UG.near t1
      have hRb:=(t3' w.heap.size amM).trans E5
      have HST:Aside (kQ wb σq (w.heap.size+1) 24 26 (.slice (some ⟨g,0,none⟩) (z.length+1) cap) (hz++[(.slice (some ⟨q1,0,none⟩) (x.length+1) jQ)]) ((x++[bN ((s.take e).drop i)])::z).reverse):=by
       show kQ wb _ _ _ _ _ _ _;rw[hwb];exact t2
      have hsz1:dx (x++[bN ((s.take e).drop i)])=dx x+(e-i):=by
       rw[gQ,dx,dx,jY,cR,HWL.out]
      have Tm:Nk ((x++[bN ((s.take e).drop i)])::z)<=2*e:=by
       simp only[Nk,hsz1,ae,eg] at Z6 ⊢;omega
      have Kj:∀l∈(x++[bN ((s.take e).drop i)])::z,l.length<=c+1:=fun l hl=>by
       rcases cT.1 hl with rfl|hl
       ·have:=hlen x gL;simp only[ae,eg];omega
       ·have:=hlen l (by simp[hl]);omega
      have r0':wb.cell? ⟨w.heap.size,0,none⟩=some (.string ⟨#[]⟩):=by rw[Lib.cell_of_heap hRb];rfl
      have r1':wb.cell? ⟨w.heap.size,1,none⟩=some (.slice none 0 0):=by rw[Lib.cell_of_heap hRb];rfl
      have z0':=Lib.frozen_of_heap hRb 0;have z1':=Lib.frozen_of_heap hRb 1;have Cn:Aside (wb.heap[w.heap.size]? =some (.cells #[.string ⟨#[]⟩,.slice none 0 0] 26 (0,0))):=hRb;clear e0 Ca Lu Ns amO af2 hcm d0 d1 dz0 dz1 c0 c1 cz0 cz1 Jh s1' s2' hwb hw7 uU s1 s2 s3 s4 s6 s7 s8 Wl s9 s10 s11 s12 s13 Nr hrun xq xq1 EL hst E5 hRb t1 t2 t3 t3' r0 r1 z0 z1
      have afZ:¬(15:Int)<(z.length:Int)+1:=gA
      by_cases hl2:1800<c+1
      ·have Qt:(1800:Int)<(c:Int)+1:=gA
       go_wp2
       have hG:=qU (x:=.string ⟨#[]⟩) (y:=.slice none 0 0) hGb Z8 (ax _) Nt;refine qV (R:=w.heap.size) rfl rfl (qR Cn.out) (Aj ?_ hG.1 hG.2.1);rw[<-HW.out,if_pos hl2]
      ·have Qt:¬(1800:Int)<(c:Int)+1:=gA
       have Z7:Aside (jg (s.drop e) ((x++[bN ((s.take e).drop i)])::z) (c+1)=jg s [[]] 0):=by
        have:=HW.out;rw[if_neg hl2] at this;exact this
       go_wp2
       go_roundg (s.length-e)
       case measure=>omega
       case rel=>
        exact⟨(x++[bN ((s.take e).drop i)])::z,σq,e,c+1,g,cap,_,rfl,rfl,rfl,by simp[hzl],gL,by simp only[aa];omega,gA,gA,Z7.out,HST.out,hGb,Z8,Kj,Tm,Nt,Cn.out⟩
end Go.Ab