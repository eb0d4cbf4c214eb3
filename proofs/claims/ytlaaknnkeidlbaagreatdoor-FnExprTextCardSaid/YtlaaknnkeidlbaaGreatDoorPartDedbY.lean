/-
  SEVERAL TEXTS IN ONE (merged by program): contracts and models, each with its own heading.
-/
import Derived.Test.YtlaaknnkeidlbaaGreatDoorPartDedbF
import Derived.Test.YtlaaknnkeidlbaaGreatDoorPartDedbR
import Derived.Lib.FrozenHead2
import Derived.Lib.OthersKept
import Derived.Lib.AppendStr
import Derived.Lib.UnsafeStr
import Derived.Lib.Builder
import Derived.Deep.LoopGhost
import Derived.Deep.AppendLies
import Derived.Laws.ResultCell
import Derived.Lib.AppendZeros
import Derived.Deep.RegionHeld3
import Derived.Deep.RegionLaw
set_option maxHeartbeats 8000000
open Go.Proofs Go.Proofs.Tryz
set_option linter.unusedSimpArgs false
set_option linter.unusedVariables false
set_option maxRecDepth 100000
namespace Go.Ab
open Go.RowKit
theorem ZR:(prog.info? 120).map (·.size)=some 2:=by kernel_rfl
theorem ag6:liesAt prog prog.depth 120 (2/prog.cellsOf 120) 0 120 1=true:=by kernel_rfl
theorem ZT:(prog.info? 5).map (fun i=>(i.zero,i.size,i.bytes))=some (some (.int .u8 0),1,1):=by kernel_rfl
theorem Qy(b:Nat)(w:World)(h0:w.cell? ⟨b,0,none⟩=some (.pointer (some ⟨b,0,none⟩))):
 Calls prog 235 #[.pointer (some ⟨b,0,none⟩)] w fun e w'=>e=.returned (.tuple #[])/\w'=w:=by
 obtain⟨j,hj,_⟩:=Option.map_eq_some_iff.1 ZR
 go_enter func235,ntmps235
 go_wp2
 rw[Lib.run_neq_ptr_same w _ underlying118 hj]
 go_wp2
 go_end0
 exact⟨rfl,rfl⟩
theorem Nb(b:Nat)(w:World)(h0:w.cell? ⟨b,0,none⟩=some (.pointer none))(hsh:w.shape? b=some (120,2))(hfz:w.frozen? ⟨b,0,none⟩=false):
 Calls prog 235 #[.pointer (some ⟨b,0,none⟩)] w fun e w'=>e=.returned (.tuple #[])/\w'=w.setCell ⟨b,0,none⟩ (.pointer (some ⟨b,0,none⟩)):=by
 obtain⟨j,hj,hjs⟩:=Option.map_eq_some_iff.1 ZR
 go_enter func235,ntmps235
 go_wp2
 rw[Lib.run_to_unsafe w ⟨b,0,none⟩ underlying118 underlying247 hj (by rw[hjs];decide) hsh (Nat.zero_lt_succ 1)];simp only[Result.andThen];rw[Oper.upon_value]
 go_wp2
 rw[run_callFunc_extern func262 (by kernel_rfl) (by kernel_rfl) (by kernel_rfl) (e:=Extern.AbiNoEscape.same) (by kernel_rfl)];rw[Lib.run_noEscape];simp only[Result.andThen];rw[Oper.upon_value]
 go_wp2
 rw[Lib.run_from_unsafe w ⟨b,0,none⟩ underlying247 underlying118 hj hsh ag6];simp only[Result.andThen];rw[Oper.upon_value]
 go_wp2
 go_end0
 exact⟨rfl,rfl⟩
theorem TM(B b:Nat)(bs:List Value)(w:World)(h:Lib.IsBuilderF 120 5 B b bs w):
 Calls prog 235 #[.pointer (some ⟨b,0,none⟩)] w fun e w'=>e=.returned (.tuple #[])/\(Lib.BuilderAtF 120 5 B b (.pointer (some ⟨b,0,none⟩)) bs w'/\Below B w w'/\Lib.OthersKept 5 (some b) w w'):=by
 rcases h with h|h
 ·refine(Nb b w h.cell0 h.shape h.frozen0).mono ?_;rintro e w' ⟨rfl,rfl⟩;exact⟨rfl,h.used _,(Below.refl B w).setCell (p:=⟨b,0,none⟩) h.1 _,(Lib.OthersKept.refl _ _ w).setCell ⟨b,0,none⟩ rfl _⟩
 ·refine(Qy b w h.cell0).mono ?_;rintro e w' ⟨rfl,rfl⟩;exact⟨rfl,h,Below.refl B _,Lib.OthersKept.refl _ _ _⟩
theorem Cr(B b:Nat)(bs:List Value)(c:Int)(w:World)(h:Lib.IsBuilderF 120 5 B b bs w)(hlen:bs.length+1<=140737488355328)(hBw:B<=w.heap.size):
 Calls prog 173 #[.pointer (some ⟨b,0,none⟩),.int .u8 c] w fun e w'=>e=.returned .nilIface/\(Lib.BuilderAtF 120 5 B b (.pointer (some ⟨b,0,none⟩)) (bs++[.int .u8 c]) w'/\Below B w w'/\Lib.OthersKept 5 (some b) w w'):=by
 obtain⟨i0,hi,hz0,hz1,hz2⟩:=info_parts ZT
 go_enter func173,ntmps173
 go_wp2_with (go_at_call 235;refine(TM B b bs _ h).mono ?_)
 rintro e w1 ⟨rfl,⟨hB,v,hbk,hown,hne⟩,hb1,hk1⟩
 have c0:w1.cell? ⟨b,0,none⟩=some (.pointer (some ⟨b,0,none⟩)):=by rw[Lib.cell_of_heap hbk];rfl
 have c1:w1.cell? ⟨b,1,none⟩=some v:=by rw[Lib.cell_of_heap hbk];rfl
 go_wp2_with (at_builtin;refine wpList_append_ownF _ rfl _ _ 22 rfl B 5 i0 (.int .u8 0) 1 1 underlying22 hi hz0 hz1 hz2 rfl (by decide) _ _ _ rfl (hown.alloc _) ⟨w1.heap.size,0,none⟩ 1 1 [.int .u8 c] rfl rfl ?c1 ?c2 ?c3 ?c4 ?c5 ?_)
 case c1=>
  intro j u hj
  match j,hj with
  |0,hj=>simp at hj;subst hj;simp[Addr.add]
 case c2=>intro u hu;simp at hu;subst hu;rfl
 case c3=>unfold maxLen;omega
 case c4=>omega
 case c5=>have:=hb1.size;simp;omega
 intro v' w2 hown' hgrow _
 have hlt:b<w1.heap.size:=by
  rcases ey b w1.heap.size with h'|h'
  ·exact h'
  ·simp[dj h'] at hbk
 have hb2:w2.heap[b]? =some (.cells #[.pointer (some ⟨b,0,none⟩),v] 120 (0,0)):=by
  rw[hgrow.block b (by simp;omega) (fun e=>hne e.symm),Lib.alloc_old w1 _ b hlt];exact hbk
 have d0:w2.cell? ⟨b,0,none⟩=some (.pointer (some ⟨b,0,none⟩)):=by rw[Lib.cell_of_heap hb2];rfl
 have d1:w2.cell? ⟨b,1,none⟩=some v:=by rw[Lib.cell_of_heap hb2];rfl
 have f1:w2.frozen? ⟨b,1,none⟩=false:=Lib.frozen_of_heap hb2 1
 obtain⟨g,cap,rfl⟩:∃g cap,v'=.slice (some ⟨g,0,none⟩) (bs.length+1) cap:=by
  rcases hown'.2 with⟨_,h0⟩|⟨g,cap,cur,fz,hv,_⟩
  ·omega
  ·exact⟨g,cap,hv⟩
 go_wp2
 go_ret
 refine⟨rfl,?_,?_,((hk1.alloc _).grown hgrow (Lib.ownsRowF_kind (hown.alloc _))).setCell ⟨b,1,none⟩ rfl _⟩
 ·exact Lib.BuilderAtF.put (T:=120) (e:=5) hB hb2 (bs':=bs++[.int .u8 c]) (by simpa using hown') (by decide)
 ·exact((hb1.alloc (by have:=hb1.size;omega) _).grown hgrow (by have:=hb1.size;simp;omega) (fun k hk=>(hown.lt k hk).1)).setCell (p:=⟨b,1,none⟩) hB _
theorem Qz(B b:Nat)(bs:List Value)(s:ByteArray)(w:World)(h:Lib.IsBuilderF 120 5 B b bs w)(hlen:bs.length+s.size<=140737488355328)(hBw:B<=w.heap.size):
 Calls prog 172 #[.pointer (some ⟨b,0,none⟩),.string s] w fun e w'=>e=.returned (.tuple #[.int .i64 s.size,.nilIface])/\(Lib.BuilderAtF 120 5 B b (.pointer (some ⟨b,0,none⟩)) (bs++Lib.strCells s) w'/\Below B w w'/\Lib.OthersKept 5 (some b) w w'):=by
 obtain⟨i0,hi,hz0,hz1,hz2⟩:=info_parts ZT
 go_enter func172,ntmps172
 go_wp2_with (go_at_call 235;refine(TM B b bs _ h).mono ?_)
 rintro e w1 ⟨rfl,⟨hB,v,hbk,hown,hne⟩,hb1,hk1⟩
 have c0:w1.cell? ⟨b,0,none⟩=some (.pointer (some ⟨b,0,none⟩)):=by rw[Lib.cell_of_heap hbk];rfl
 have c1:w1.cell? ⟨b,1,none⟩=some v:=by rw[Lib.cell_of_heap hbk];rfl
 go_wp2_with (at_builtin;refine Lib.wpList_append_own_stringF _ rfl _ _ 22 9 rfl B 5 i0 underlying22 underlying9 hi hz0 hz1 hz2 _ _ _ rfl hown s rfl ?c3 ?c4 ?c5 ?_)
 case c3=>unfold maxLen;omega
 case c4=>omega
 case c5=>have:=hb1.size;omega
 intro v' w2 hown' hgrow _
 have hlt:b<w1.heap.size:=by
  rcases ey b w1.heap.size with h'|h'
  ·exact h'
  ·simp[dj h'] at hbk
 have hb2:w2.heap[b]? =some (.cells #[.pointer (some ⟨b,0,none⟩),v] 120 (0,0)):=by
  rw[hgrow.block b hlt (fun e=>hne e.symm)];exact hbk
 have d0:w2.cell? ⟨b,0,none⟩=some (.pointer (some ⟨b,0,none⟩)):=by rw[Lib.cell_of_heap hb2];rfl
 have d1:w2.cell? ⟨b,1,none⟩=some v:=by rw[Lib.cell_of_heap hb2];rfl
 have f1:w2.frozen? ⟨b,1,none⟩=false:=Lib.frozen_of_heap hb2 1
 obtain⟨ao,n',cap,rfl⟩:∃ao n' cap,v'=.slice ao n' cap:=by
  rcases hown'.2 with⟨hv,_⟩|⟨g,cap,cur,fz,hv,_⟩
  ·exact⟨_,_,_,hv⟩
  ·exact⟨_,_,_,hv⟩
 go_wp2
 go_ret2
 refine⟨rfl,?_,?_,(hk1.grown hgrow (Lib.ownsRowF_kind hown)).setCell ⟨b,1,none⟩ rfl _⟩
 ·exact Lib.BuilderAtF.put (T:=120) (e:=5) hB hb2 (bs':=bs++Lib.strCells s) (by simpa [Lib.strCells_length] using hown') (by decide)
 ·exact(hb1.grown hgrow (by have:=hb1.size;omega) (fun k hk=>(hown.lt k hk).1)).setCell (p:=⟨b,1,none⟩) hB _
theorem WI(B b:Nat)(l:List UInt8)(w:World)(h:Lib.IsBuilderF 120 5 B b (Lib.byteCells l) w)(h0:l≠[]):
 Calls prog 81 #[.pointer (some ⟨b,0,none⟩)] w fun e w'=>e=.returned (.string ⟨l.toArray⟩)/\Below B w w':=by
 obtain⟨p,hA⟩:∃p,Lib.BuilderAtF 120 5 B b p (Lib.byteCells l) w:=h.elim (fun x=>⟨_,x⟩) (fun x=>⟨_,x⟩);obtain⟨hB,v,hbk,hown,-⟩:=hA
 have hl:l.length≠0:=by simpa using h0
 rw[Lib.byteCells_length] at hown;have hcell:=fun g hg=>hown.cells (g:=g) hg;obtain⟨-,⟨-,hz⟩|⟨g,cap,cur,fz,rfl,hbg,hg,-,hnc,hcm,hcs,-⟩⟩:=hown
 ·exact absurd hz hl
 have hg':w.drew.heap[g]? =some (.cells cur 5 fz):=hg;have hb':w.drew.heap[b]? =some (.cells #[p,.slice (some ⟨g,0,none⟩) l.length cap] 120 (0,0)):=hbk
 have c1:w.drew.cell? ⟨b,1,none⟩=some (.slice (some ⟨g,0,none⟩) l.length cap):=by rw[Lib.cell_of_heap hb'];rfl
 have hSD:(Builtin.unsafeSliceData_ #[22] 194 #[.slice (some ⟨g,0,none⟩) l.length cap]).run prog w.drew=.ok (.pointer (some ⟨g,0,none⟩)) w.drew:=
  Lib.run_unsafeSliceData_row _ _ _ _ _ _ (by omega)
 have hUS:(Builtin.unsafeString_ #[194,3] 9 #[.pointer (some ⟨g,0,none⟩),.int .i64 l.length]).run prog w.drew=.ok (.string ⟨l.toArray⟩) (w.drew.freeze ⟨g,0,none⟩ l.length):=
  Lib.run_unsafeString_row w.drew 194 3 9 5 underlying194 (by kernel_rfl) g cur.size (by simp[World.shape?,hg']) l h0 (by omega) (by unfold maxLen at hcm;omega) fun j x hx=>
   hcell g rfl j (.int .u8 x.toNat) (by simp[Lib.byteCells,hx])
 clear hcell hg' hb'
 go_enter func81,ntmps81
 go_wp2
 go_region
 all_goals (go_wp2;go_ret;exact⟨rfl,Lib.below_freeze (Below.drew (Below.refl B w)) (p:=⟨g,0,none⟩) hbg _⟩)
def dM(by':List UInt8):List (List UInt8)->List UInt8
 |[]=>[]
 |x::xs=>x++(xs.map fun y=>by'++y).flatten
theorem WJ(b:List UInt8)(l:List (List UInt8))(x:List UInt8):dM b (l++[x])=if l=[] then x else dM b l++b++x:=by
 cases l with
 |nil=>simp[dM]
 |cons y l=>simp[dM,bk]
mutual
def dH:ah->List UInt8
 | .mk a l=>if a=[] then [40]++dM [32] (jP l)++[41] else a
def jP:List ah->List (List UInt8)
 |[]=>[]
 |x::xs=>dH x::jP xs
end
theorem Ct:∀l,jP l=l.map dH
 |[]=>rfl
 |x::xs=>by rw[jP,ag,Ct xs]
theorem G6(x:ah):dH x=if x.aI=[] then [40]++dM [32] (x.ak.map dH)++[41] else x.aI:=by cases x;rw[dH,Ct];rfl
theorem Cv(b:List UInt8)(l:List (List UInt8))(i:Nat)(hi:i<l.length):dM b (l.take (i+1))=if i=0 then l[i] else dM b (l.take i)++b++l[i]:=by
 rw[bp hi,WJ];by_cases h:i=0
 ·rw[if_pos h,if_pos (by rw[h];rfl)]
 ·rw[if_neg h,if_neg (fun e=>h (by have:=congrArg List.length e;rw[bm,aq] at this;omega))]
theorem acW(b:List UInt8)(hb:b.length=1):∀l:List (List UInt8),l.length<=(dM b l).length+1
 |[]=>by simp
 |x::xs=>by
  have h:∀ys:List (List UInt8),ys.length<=((ys.map fun y=>b++y).flatten).length:=by
   intro ys
   induction ys with
   |nil=>simp
   |cons y ys ih=>rw[ag,cn,ab,ab,aa];omega
  have:=h xs;rw[dM,ab,aa];omega
theorem J5(b:List UInt8)(l:List (List UInt8))(i:Nat):(dM b (l.take i)).length<=(dM b l).length:=by
 by_cases hi:i<l.length
 ·have:∀k,i+k<=l.length->(dM b (l.take i)).length<=(dM b (l.take (i+k))).length:=by
   intro k
   induction k with
   |zero=>intro _;exact ax _
   |succ k ih=>
    intro hk;have h1:=ih (by omega);rw[<-dl,Cv b l (i+k) (by omega)];split
    ·rename_i h0
     have:i=0:=by omega
     subst this;simp[dM]
    ·simp only[ab];omega
  have:=this (l.length-i) (by omega)
  rwa [show i+(l.length-i)=l.length by omega,co] at this
 ·rw[cm (by omega)];exact ax _
theorem ZU(b:List UInt8):∀l:List (List UInt8),(dM b l).length<=(l.map fun x=>b.length+x.length).sum
 |[]=>by simp[dM]
 |x::xs=>by
  have h:∀ys:List (List UInt8),((ys.map fun y=>b++y).flatten).length=(ys.map fun x=>b.length+x.length).sum:=by
   intro ys
   induction ys with
   |nil=>rfl
   |cons y ys ih=>rw[ag,cn,ab,ab,ih,ag,fb]
  rw[dM,ab,h,ag,fb];omega
mutual
theorem Ac:∀x:ah,(dH x).length<=2+3*x.sz
 | .mk a l=>by
   have h:=J6 l;rw[iQ,j6];simp only[ah.aI,ah.ak];rw[dH];split
   ·have:=ZU [32] (jP l);simp only[ab,aa,aq] at this ⊢;omega
   ·omega
theorem J6:∀l:List ah,((jP l).map fun x=>0+1+x.length).sum<=3*l.length+3*dD l
 |[]=>by simp[jP]
 |x::xs=>by
  have h1:=Ac x;have h2:=J6 xs;rw[jP,ag,fb,dD,aa];omega
end
def og(l:List UInt8):List (List D):=l.map fun b=>[D.i .u8 b.toNat]
theorem CX(a b:List UInt8):og (a++b)=og a++og b:=by unfold og;rw[bi]
theorem CY(a:List UInt8):(og a).length=a.length:=by unfold og;rw[ai]
theorem SE(a:List UInt8):(og a).map Hr=a:=by
 unfold og;rw[fh]
 conv=>rhs;rw[<-List.map_id a]
 refine de fun b _=> ?_;show UInt8.ofNat ((b.toNat:Int)).toNat=b;rw[eb,UInt8.ofNat_toNat]
theorem WK(a:List UInt8):∀y∈og a,y=[.i .u8 (Bz y)]:=fun y hy=>by
 obtain⟨b,_,rfl⟩:=da.1 hy;rfl
def sP(x:ah):List UInt8:=if dJ x=true then dH x else []
def oN(x:ah):List UInt8:=if x.aI=[]/\x.ak.length=0 then [] else sP x
theorem QA(x:ah):(x.aI=[]/\x.ak.length=0)<->x=gF:=by
 refine⟨fun⟨h1,h2⟩=>ah.ext h1 (bh h2),fun h=>by rw[h];exact⟨rfl,rfl⟩⟩
theorem ZV{x:ah}(h:x=gF):oN x=[]:=by
 unfold oN;rw[if_pos ((QA _).2 h)]
theorem ZW{x:ah}(h:¬x=gF):oN x=sP x:=by
 unfold oN;rw[if_neg (fun e=>h ((QA _).1 e))]
theorem ag7{x:ah}(h:¬x.aI=[]):oN x=sP x:=by
 unfold oN;rw[if_neg (fun e=>h e.1)]
theorem ag8{x:ah}(h:¬x.ak.length=0):oN x=sP x:=by
 unfold oN;rw[if_neg (fun e=>h e.2)]
theorem ag9{x:ah}(h:x.aI=[])(h':x.ak.length=0):oN x=[]:=by
 unfold oN;rw[if_pos ⟨h,h'⟩]
theorem acX(x:ah):(oN x).length<=40000:=by
 unfold oN sP;split
 ·simp
 ·split
  ·rename_i h;have:=wN h;have:=Ac x;omega
  ·simp
theorem aha{w:World}{σ:Nat->Nat}{xs:List ah}{lv:Value}(h:bn w σ (.sl (xs.map ah.enc)) lv):∃a cap,lv=.slice a xs.length cap/\∀i (hi:i<xs.length),∃k off,a=some ⟨k,off,none⟩/\∃c t fz u,
 w.heap[k]? =some (.cells c t fz)/\c[off+i*2]? =some (.string ⟨xs[i].aI.toArray⟩)/\c[off+(i*2+1)]? =some u/\bn w σ (.sl (xs[i].ak.map ah.enc)) u:=by
 generalize he:xs.map ah.enc=es at h
 have hl:es.length=xs.length:=by rw[<-he,ai]
 cases h with
 |nil a cap=>
  have h0:xs.length=0:=hl.symm;exact⟨a,cap,by rw[h0],fun i hi=>absurd hi (by omega)⟩
 |sl k off cap aJ es vals c t fz hcap hlen hb hσ hc hv=>
  refine⟨_,cap,by rw[hl],fun i hi=>⟨k,off,rfl,c,t,fz,?_⟩⟩
  have e1:es[i]'(by omega)=[.s xs[i].aI,.sl (xs[i].ak.map ah.enc)]:=by
   subst he;rw[cj,ah.aB]
   first|rfl|done
  have hz:aJ=2:=by
   have:=hlen _ (ap (l:=es) (n:=i) (by omega));rw[e1] at this;exact this.symm
  subst hz;have hf:∀o (ho:o<2),es.flatten[i*2+o]? =(es[i]'(by omega))[o]? :=fun o ho=>flat_get es 2 hlen i o (by omega) ho;have h0:=hv (i*2+0) (.s xs[i].aI) (by rw[hf 0 (by omega),e1];rfl);have h1:=hv (i*2+1) (.sl (xs[i].ak.map ah.enc)) (by rw[hf 1 (by omega),e1];rfl);refine⟨vals (i*2+1),hb,?_,hc _ (by omega),h1⟩;have:=hc (i*2+0) (by omega);generalize vals (i*2+0)=v0 at h0 this;cases h0;exact this
theorem ZX{w:World}{σ:Nat->Nat}{es:List (List D)}{u:Value}(h:bn w σ (.sl es) u):∃a n c,u=.slice a n c:=by
 cases h with
 |nil a c=>exact⟨_,_,_,rfl⟩
 |sl=>exact⟨_,_,_,rfl⟩
theorem J7(w0:World)(σ:Nat->Nat):∀(n:Nat)(x:ah),x.sz<n->∀(b:Nat)(bs:List Value)(w:World)(lv:Value),bn w0 σ (.sl (x.ak.map ah.enc)) lv->Below w0.heap.size w0 w->
 Lib.IsBuilderF 120 5 w0.heap.size b bs w->bs.length+(dH x).length<=140737488355328->
 Calls prog 80 #[.pointer (some ⟨b,0,none⟩),.agg #[.string ⟨x.aI.toArray⟩,lv]] w fun e w'=>e=.returned (.tuple #[])/\Lib.IsBuilderF 120 5 w0.heap.size b (bs++Lib.byteCells (dH x)) w'/\Below w0.heap.size w w'/\Lib.OthersKept 5 (some b) w w'
 |0=>fun x h=>by omega
 |n+1=>fun x hx b bs w lv hr hbw h hlen=>by
  obtain⟨B,hB⟩:∃B,B=w0.heap.size:=⟨_,rfl⟩
  have hBw:B<=w.heap.size:=by rw[hB];exact hbw.size
  rw[<-hB] at hbw h ⊢
  cases x with|mk s xs=> ?_
  simp only[ah.aI,ah.ak] at *
  have ih:=J7 w0 σ n;rw[<-hB] at ih;have HB:Aside (B=w0.heap.size):=hB;clear hB;by_cases ha:s=[]
  ·subst ha
   have ht:dH (.mk [] xs)=[40]++dM [32] (xs.map dH)++[41]:=by rw[dH,if_pos rfl,Ct]
   rw[ht] at hlen ⊢
   have hx:∀i (hi:i<xs.length),xs[i].sz<n:=fun i hi=>by
    have h1:=nD (ap hi);rw[iQ,j6] at hx;simp only[ah.aI,ah.ak,aq] at hx;omega
   simp only[ab,aa,aq] at hlen;have hj:=acW [32] rfl (xs.map dH);rw[ai] at hj;obtain⟨ad,cap,rfl,hrow⟩:=aha hr;clear hr;obtain⟨T,hT⟩:∃T,T=[40]++dM [32] (xs.map dH)++[41]:=⟨_,rfl⟩;rw[<-hT];have HT:Aside (T=[40]++dM [32] (xs.map dH)++[41]):=hT;clear hT ht
   go_enter func80,ntmps80
   go_wp2_with (go_at_call 173;refine(Cr B b bs 40 _ (h.alloc _) ?_ ?_).mono ?_)
   ·omega
   ·simp;omega
   rintro e w1 ⟨rfl,h1,hb1,hk1⟩
   have hbne:w.heap.size≠b:=fun e=>by
    have:b<w.heap.size:=h.elim (fun z=>z.lt) (fun z=>z.lt);omega
   have c1:w1.cell? ⟨w.heap.size,1,none⟩=some (.slice ad xs.length cap):=by
    have:=hk1 w.heap.size _ (heap_alloc_new w _) (fun z=>hbne (cx z)) (fun c fz z=>by cases z);rw[Lib.cell_of_heap this];rfl
   have hb1':Below B w w1:=((Below.refl B w).alloc hBw _).trans hb1;have aau:Lib.OthersKept 5 (some b) w w1:=((Lib.OthersKept.refl _ _ w).alloc _).trans hk1;clear hb1 hk1
   go_wp2
   go_loopg [18] xs.length (fun g v wx=>∃i:Nat,i+g=xs.length/\v=.int .i64 i/\Lib.IsBuilderF 120 5 B b (bs++Lib.byteCells ([40]++dM [32] ((xs.map dH).take i))) wx/\Below B w wx/\Lib.OthersKept 5 (some b) w wx)
   case atStart=>exact⟨0,by omega,rfl,.inr (by simpa [Lib.byteCells,dM] using h1),hb1',aau⟩
   case round=>
    obtain⟨i,hi,rfl,hbd,hbx,hkx⟩:=hrel
    cases gk with
    |zero=>
     obtain rfl:i=xs.length:=by omega
     rw[cm (by simp)] at hbd
     go_wp2_with (go_at_call 173;refine(Cr B b _ 41 _ hbd ?_ ?_).mono ?_)
     ·simp only[ab,Lib.byteCells_length,aa,aq];omega
     ·exact cp hBw hbx.size
     rintro e w2 ⟨rfl,h2,hb2,hk2⟩
     go_wp2
     go_end0
     rw[HT.out];refine⟨rfl,.inr ?_,hbx.trans hb2,hkx.trans hk2⟩;rw[Lib.byteCells_append,<-bk];exact h2
    |succ g=>
     have hil:i<xs.length:=by omega
     have hx:=hx i hil;obtain⟨k,off,rfl,c,t,fz,u,hk,hc0,hc1,NS⟩:=hrow i hil;obtain⟨ua,un,uc,rfl⟩:=ZX NS;clear hrow
     have hkB:k<B:=by
      rw[HB.out];exact(aE.1 hk).1
     have hkr:wr.heap[k]? =some (.cells c t fz):=by rw[(hbw.trans hbx).block k hkB];exact hk
     have d0:wr.cell? ⟨k,off+i*2,none⟩=some (.string ⟨xs[i].aI.toArray⟩):=by rw[Lib.cell_of_heap hkr];exact hc0
     have d1:wr.cell? ⟨k,off+i*2+1,none⟩=some (.slice ua un uc):=by rw[Lib.cell_of_heap hkr];exact hc1
     have htk:(dM [32] ((xs.map dH).take (i+1))).length<=(dM [32] (xs.map dH)).length:=J5 _ _ _;have hst:=Cv [32] (xs.map dH) i (by simpa using hil);by_cases hi0:i=0
     ·rw[if_pos hi0,cj] at hst;rw[hst] at htk;have HST:Aside (dM [32] ((xs.map dH).take (i+1))=dH xs[i]):=hst;have HI:Aside (i=0):=hi0
      have hng:¬(0:Int)<(i:Int):=by omega
      clear hst hi0
      have hc:=ih xs[i] hx b _ (wr.alloc (.cells #[.string ⟨xs[i].aI.toArray⟩,.slice ua un uc] 37)) _ NS (hbw.trans (hbx.trans ((Below.refl B wr).alloc (cp hBw hbx.size) _))) (hbd.alloc _) (by
       simp only[ab,Lib.byteCells_length,aa,aq]
       have hz:dM [32] ((xs.map dH).take i)=[]:=by rw[HI.out];rfl
       rw[hz,aq];omega)
      go_wp2_with (go_at_call 80;refine hc.mono ?_;rintro e w2 ⟨rfl,h2,hb2,hk2⟩)
      go_roundg g
      case measure=>omega
      case rel=>
       refine⟨i+1,by omega,rfl,?_,hbx.trans (((Below.refl B wr).alloc (cp hBw hbx.size) _).trans hb2),hkx.trans (((Lib.OthersKept.refl _ _ wr).alloc _).trans hk2)⟩;rw[HST.out]
       have hz:dM [32] ((xs.map dH).take i)=[]:=by rw[HI.out];rfl
       rw[hz,bw,bk,<-Lib.byteCells_append] at h2;exact h2
     ·rw[if_neg hi0,cj] at hst;rw[hst] at htk;have HST:Aside (dM [32] ((xs.map dH).take (i+1))=dM [32] ((xs.map dH).take i)++[32]++dH xs[i]):=hst
      have hpg:(0:Int)<(i:Int):=by omega
      clear hst;simp only[ab,aa,aq] at htk
      go_wp2_with (go_at_call 173;refine(Cr B b _ 32 _ (hbd.alloc _) ?_ ?_).mono ?_)
      ·simp only[ab,Lib.byteCells_length,aa,aq];omega
      ·exact cp (cp hBw hbx.size) (by simp)
      rintro e w2 ⟨rfl,h2,hb2,hk2⟩;have hwr:b<wr.heap.size:=hbd.elim (fun z=>z.lt) (fun z=>z.lt);have hq:w2.heap[wr.heap.size]? =_:=hk2 wr.heap.size _ (heap_alloc_new wr _) (fun z=>by have:=cx z;omega) (fun c fz z=>by cases z)
      have q0:w2.cell? ⟨wr.heap.size,0,none⟩=some (.string ⟨xs[i].aI.toArray⟩):=by rw[Lib.cell_of_heap hq];rfl
      have q1:w2.cell? ⟨wr.heap.size,1,none⟩=some (.slice ua un uc):=by rw[Lib.cell_of_heap hq];rfl
      have hb2':Below B wr w2:=((Below.refl B wr).alloc (cp hBw hbx.size) _).trans hb2;have aj2:Lib.OthersKept 5 (some b) wr w2:=((Lib.OthersKept.refl _ _ wr).alloc _).trans hk2
      have hc:=ih xs[i] hx b _ w2 _ NS (hbw.trans (hbx.trans hb2')) (.inr h2) (by
       simp only[ab,Lib.byteCells_length,aa,aq];omega)
      clear hq hb2 hk2
      go_wp2_with (go_at_call 80;refine hc.mono ?_;rintro e w3 ⟨rfl,h3,hb3,hk3⟩)
      go_roundg g
      case measure=>omega
      case rel=>
       refine⟨i+1,by omega,rfl,?_,hbx.trans (hb2'.trans hb3),hkx.trans (aj2.trans hk3)⟩;rw[HST.out];simpa [Lib.byteCells,bk] using h3
  ·have ht:dH (.mk s xs)=s:=by rw[dH,if_neg ha]
   rw[ht] at hlen ⊢;clear ht hx
   go_enter func80,ntmps80
   have hm:s.isEmpty=false:=by simpa using ha
   go_wp2_with (go_at_call 172;refine(Qz B b bs _ _ (h.alloc _) ?_ ?_).mono ?_)
   ·exact hlen
   ·simp;omega
   ·rintro e w1 ⟨rfl,h1,hb1,hk1⟩
    go_wp2
    refine bodyPost_ret (results_none rfl _ _ _) rfl ?_;rw[Lib.strCells_eq] at h1;exact⟨rfl,.inr h1,((Below.refl B w).alloc hBw _).trans hb1,((Lib.OthersKept.refl _ _ w).alloc _).trans hk1⟩
theorem acY{w:World}{σ:Nat->Nat}(hl:∀b,b<w.heap.size\/σ b=0)(hg:iU w σ):cZ w σ [] []:=
 ⟨fun k o h=>(by cases h),fun k k' o o' h h' b h1=>(by cases h1),⟨rfl,fun l fr h=>(by cases h)⟩,hl,hg⟩
theorem yw{P:Program}{f:FuncId}{args:List V}{r:V}(h:aF P f args r){w:World}{σ:Nat->Nat}(hl:∀b,b<w.heap.size\/σ b=0)(hg:iU w σ){vs:List Value}(hv:jX w σ [] [] args vs):
 Calls P f vs.toArray w fun e w'=>∃v σ',e=.returned v/\bJ w' σ' [] [] r v/\Grow w σ w' σ'/\iU w' σ':=
 ((h []).2 w σ [] vs (acY hl hg) hv).mono fun e w' ⟨v,r',S',σ',β',he,hS,hk,hst,rH,hr,hS'⟩=>by
   subst hr hS'
   cases β' with
   |cons a l=>have:=hS.shape.1;simp at this
   |nil=>exact⟨v,σ',he,rH,⟨hst.size,hst.os,hst.output,fun b hb=>hst.far b hb (fun⟨k,o,h,e,_⟩=>by cases e),hS.live⟩,hS.lX⟩
theorem QB{x:V}{vs:List Value}{w:World}{σ:Nat->Nat}{S:Store}{β:Hs}(h:jX w σ S β [x] vs):∃v,vs=[v]/\bJ w σ S β x v:=by
 obtain⟨hl,h⟩:=h;obtain⟨v,e0,h0⟩:=h 0 x rfl
 match vs,hl,e0 with
 |[a],_,e0=>simp at e0;subst e0;exact⟨_,rfl,h0⟩
theorem acZ(x:ah):dH x≠[]:=by
 rw[G6];split
 ·simp
 ·assumption
theorem ahb{w:World}{σ:Nat->Nat}{S:Store}{β:Hs}{x:ah}{u:Value}(h:bJ w σ S β x.v u):∃lv,u=.agg #[.string ⟨x.aI.toArray⟩,lv]/\bn w σ (.sl (x.ak.map ah.enc)) lv/\lv.oneCell'=true:=by
 rw[<-ah.ny,ah.aB] at h;obtain⟨a,rfl,hl,h⟩:=h;obtain⟨v0,e0,h0,_⟩:=h 0 _ rfl;obtain⟨v1,e1,h1,h1c⟩:=h 1 _ rfl
 obtain rfl:v0=.string ⟨x.aI.toArray⟩:=by cases h0;rfl
 refine⟨v1,?_,h1,h1c⟩
 have:a.toList=[.string ⟨x.aI.toArray⟩,v1]:=by
  match hq:a.toList,hl,e0,e1 with
  |[p,q],_,e0,e1=>simp at e0 e1;rw[e0,e1]
 rw[<-this]
theorem SF(x:ah)(hsz:x.sz<=67108864)(w:World)(σ:Nat->Nat)(hl:∀b,b<w.heap.size\/σ b=0)(hgl:iU w σ)(lv:Value)(hr:bn w σ (.sl (x.ak.map ah.enc)) lv)(hlv:lv.oneCell'=true):
 Calls prog 30 #[.agg #[.string ⟨x.aI.toArray⟩,lv]] w fun e w'=>e=.returned (.string ⟨(sP x).toArray⟩)/\∃σ',Grow w σ w' σ'/\iU w' σ':=by
 obtain⟨wb,hwb⟩:∃wb,wb=w.alloc (.cells #[.string ⟨x.aI.toArray⟩,lv] 37):=⟨_,rfl⟩
 have hg0:Grow w σ wb σ:=by
  rw[hwb];refine⟨by simp,rfl,rfl,fun b hb=>⟨Lib.alloc_old w _ b hb,rfl⟩,fun b=> ?_⟩;rcases hl b with h|h
  ·left;simp;omega
  ·exact .inr h
 have hrb:=bn.mono hg0.near hr
 have hv:jX wb σ [] [] [x.v] [.agg #[.string ⟨x.aI.toArray⟩,lv]]:=by
  refine⟨rfl,fun j y hy=> ?_⟩
  match j,hy with
  |0,hy=>
   simp at hy;subst hy;refine⟨_,rfl,?_⟩;rw[<-ah.ny,ah.aB];refine⟨_,rfl,rfl,fun j y hy=> ?_⟩
   match j,hy with
   |0,hy=>simp at hy;subst hy;exact⟨_,rfl,.s _,rfl⟩
   |1,hy=>simp at hy;subst hy;exact⟨_,rfl,hrb,hlv⟩
 have hc:=yw (pU x hsz) hg0.live (hgl.near hg0.near) hv
 have hc:Calls prog 38 #[.agg #[.string ⟨x.aI.toArray⟩,lv]] wb fun e w'=>e=.returned (.bool (dJ x))/\∃σ',Grow wb σ w' σ'/\iU w' σ':=
  hc.mono fun e w' ⟨v,σ',he,rH,hg,hgl⟩=>by
   obtain rfl:v=.bool (dJ x):=by cases rH.1;rfl
   exact⟨he,σ',hg,hgl⟩
 rw[hwb] at hc hg0;have HF:Aside (sP x=if dJ x=true then dH x else []):=rfl;obtain⟨T,hT⟩:∃T,T=sP x:=⟨_,rfl⟩;rw[<-hT] at HF ⊢;clear hT;by_cases uR:dJ x=true
 ·rw[if_pos uR] at HF;rw[uR] at hc
  go_enter func30,ntmps30
  go_wp2_with (go_at_call 38;refine hc.mono ?_)
  rintro e w1 ⟨rfl,σ1,hg1,vJ⟩
  have hlt:w.heap.size<(w.alloc (.cells #[.string ⟨x.aI.toArray⟩,lv] 37)).heap.size:=by simp
  have hq:w1.heap[w.heap.size]? =_:=(hg1.old _ hlt).1.trans (heap_alloc_new w _)
  have c0:w1.cell? ⟨w.heap.size,0,none⟩=some (.string ⟨x.aI.toArray⟩):=by rw[Lib.cell_of_heap hq];rfl
  have c1:w1.cell? ⟨w.heap.size,1,none⟩=some lv:=by rw[Lib.cell_of_heap hq];rfl
  have hlt1:w.heap.size<w1.heap.size:=cP hlt hg1.size;have hq1:=(Lib.alloc_old w1 (.cells #[.pointer none,.slice none 0 0] 120) _ hlt1).trans hq
  have d0:(w1.alloc (.cells #[.pointer none,.slice none 0 0] 120)).cell? ⟨w.heap.size,0,none⟩=some (.string ⟨x.aI.toArray⟩):=by rw[Lib.cell_of_heap hq1];rfl
  have d1:(w1.alloc (.cells #[.pointer none,.slice none 0 0] 120)).cell? ⟨w.heap.size,1,none⟩=some lv:=by rw[Lib.cell_of_heap hq1];rfl
  have hr1:bn w1 σ1 (.sl (x.ak.map ah.enc)) lv:=bn.mono (hg0.trans hg1).near hr
  have hbd:Lib.IsBuilderF 120 5 w1.heap.size w1.heap.size [] (w1.alloc (.cells #[.pointer none,.slice none 0 0] 120)):=
   .inl ⟨ax _,_,heap_alloc_new w1 _,⟨rfl,.inl ⟨rfl,rfl⟩⟩,by simp[Value.ownBlock]⟩
  have hW:=J7 w1 σ1 (x.sz+1) x (br _) w1.heap.size [] _ lv hr1 ((Below.refl _ w1).alloc (ax _) _) hbd (by
   have:=Ac x
   simp only[aq];omega)
  clear hq hbd hq1
  go_wp2_with (go_at_call 80;refine hW.mono ?_)
  rintro e w2 ⟨rfl,h2,hb2,hk2⟩;rw[aw] at h2;have hT:=WI w1.heap.size w1.heap.size (dH x) w2 h2 (acZ x)
  go_wp2_with (go_at_call 81;refine hT.mono ?_)
  rintro e w3 ⟨rfl,hb3⟩
  go_wp2
  go_ret
  rw[HF.out];have hb:Below w1.heap.size w1 w3:=(((Below.refl _ w1).alloc (ax _) _).trans hb2).trans hb3;have hg3:Grow w1 σ1 w3 σ1:=⟨hb.size,hb.os,hb.output,fun k hk=>⟨hb.block k hk,rfl⟩,fun k=>(hg1.live k).elim (fun h=>.inl (cP h hb.size)) .inr⟩;exact⟨rfl,σ1,(hg0.trans hg1).trans hg3,vJ.near hg3.near⟩
 ·rw[if_neg uR] at HF;simp only[Bool.not_eq_true] at uR;rw[uR] at hc
  go_enter func30,ntmps30
  go_wp2_with (go_at_call 38;refine hc.mono ?_;rintro e w1 ⟨rfl,σ1,hg1,vJ⟩)
  go_ret
  rw[HF.out];exact⟨rfl,σ1,hg0.trans hg1,vJ⟩
theorem K4(x:ah)(hsz:x.sz<=67108864):aF prog 30 [x.v] (.c (.d (.s (sP x)))):=fun S=>by
 refine⟨⟨_,func30,by kernel_rfl,by kernel_rfl⟩,fun w σ β vs hS hv=> ?_⟩;obtain⟨u,rfl,hu⟩:=QB hv;obtain⟨lv,rfl,hr,hlv⟩:=ahb hu;refine(SF x hsz w σ hS.live hS.lX lv hr hlv).mono fun e w' ⟨he,σ',hg,_⟩=> ?_;exact⟨_,.c (.d (.s (sP x))),S,σ',β,he,hS.grow hg,Keep.refl _ _,Step.jm hg,⟨.s _,rfl⟩,rfl,rfl⟩
structure xD(w:World)(σ:Nat->Nat)(B:Nat)(e:TypeId)(v:Value)(l:List ah):Prop where
 own:∃xs,w.ownsRow B e 2 v l.length xs/\∀(i:Nat)(d:D),(l.map ah.enc).flatten[i]? =some d->∃u,xs[i]? =some u/\bn w σ d u
 free:∀b,v.ownBlock=some b->σ b=0
theorem Ad{w w':World}{B:Nat}{e:TypeId}{z n:Nat}{v:Value}{xs:List Value}(h:w.ownsRow B e z v n xs)(hk:∀b,v.ownBlock=some b->w'.heap[b]? =w.heap[b]?):w'.ownsRow B e z v n xs:=by
 refine⟨h.1,?_⟩;rcases h.2 with hn|⟨g,cap,cur,rfl,hb,hg,rest⟩
 ·exact .inl hn
 ·exact .inr ⟨g,cap,cur,rfl,hb,(hk g rfl).trans hg,rest⟩
theorem xD.mono{w w':World}{σ σ':Nat->Nat}{B:Nat}{e:TypeId}{v:Value}{l:List ah}(h:xD w σ B e v l)(hn:bQ w σ w' σ')(hk:∀b,v.ownBlock=some b->w'.heap[b]? =w.heap[b]? /\σ' b=σ b):xD w' σ' B e v l:=by
 obtain⟨⟨xs,h1,h2⟩,h3⟩:=h;refine⟨⟨xs,Ad h1 fun b hb=>(hk b hb).1,fun i d hd=> ?_⟩,fun b hb=>(hk b hb).2.trans (h3 b hb)⟩;obtain⟨u,hu,hr⟩:=h2 i d hd;exact⟨u,hu,hr.mono hn⟩
theorem zA(l:List ah):∀e∈l.map ah.enc,e.length=2:=by
 intro e he;obtain⟨x,_,rfl⟩:=da.1 he;rw[ah.aB];rfl
theorem xD.fast{w:World}{σ:Nat->Nat}{B:Nat}{e:TypeId}{v:Value}{l:List ah}(h:xD w σ B e v l)(hl:∀b,b<w.heap.size\/σ b=0):
 ∃σ',bQ w σ w σ'/\(∀b,v.ownBlock≠some b->σ' b=σ b)/\(∀b,b<w.heap.size\/σ' b=0)/\bn w σ' (.sl (l.map ah.enc)) v:=by
 obtain⟨⟨xs,⟨h1,h2⟩,h3⟩,h4⟩:=h;rcases h2 with⟨rfl,h0⟩|⟨g,cap,cur,rfl,hb,hg,hn,hm,hs,ht⟩
 ·obtain rfl:l=[]:=bh h0;exact⟨σ,bQ.refl _ _,fun _ _=>rfl,hl,.nil _ _⟩
 have hn':bQ w σ w (fun b=>if b=g then 0+(l.map ah.enc).length*2 else σ b):=by
  intro b1 c1 t1 yN e1;by_cases q:b1=g
  ·subst q;have:=h4 b1 rfl;rw[hg] at e1;cases e1;exact⟨by simp only[if_true];omega,fun h=>by omega,cur,hg,rfl,fun _ _=>rfl⟩
  ·exact⟨by simp only[if_neg q];exact ax _,fun _=>if_neg q,c1,e1,rfl,fun _ _=>rfl⟩
 refine⟨_,hn',fun b hb=>if_neg fun q=>hb (by rw[q];rfl),fun b=> ?_,?_⟩
 ·by_cases q:b=g
  ·left;rw[q];exact lt_of_some hg
  ·simp only[if_neg q];exact hl b
 ·have hlen:(l.map ah.enc).length=l.length:=by simp
  have hfl:=gy _ 2 (zA l)
  have:=bn.sl (w:=w) (σ:=fun b=>if b=g then 0+(l.map ah.enc).length*2 else σ b) g 0 cap 2 (l.map ah.enc) (fun i=>(cur[i]?).getD undef) cur e (0,0) (by omega) (zA l) hg (by simp) (fun i hi=>by
   have:i<cur.size:=by rw[hlen] at hi;have:l.length*2<=cap*2:=bx _ hn;omega
   simp[this]) (fun i d hd=>by
   obtain⟨u,hu,hr⟩:=h3 i d hd;have hil:=(ae.1 hd).1;rw[<-ht,bu (by omega),ch] at hu;simp only[hu,cN]
   exact hr.mono hn')
  simp only[ai] at this ⊢;exact this
structure gZ(w:World)(σ:Nat->Nat)(B:Nat)(eo e:TypeId)(ov:Value)(hs:List Value)(rs:List (List ah)):Prop where
 own:w.ownsRow B eo 1 ov hs.length hs
 free:∀b,ov.ownBlock=some b->σ b=0
 rows:∀(j:Nat)(l:List ah),rs[j]? =some l->∃hv,hs[j]? =some hv/\xD w σ B e hv l/\∀b,hv.ownBlock=some b->ov.ownBlock≠some b
 apart:∀(i j:Nat)(hi hj:Value)(b:Nat),i≠j->i<rs.length->j<rs.length->hs[i]? =some hi->hs[j]? =some hj->hi.ownBlock=some b->hj.ownBlock≠some b
theorem gZ.mono{w w':World}{σ σ':Nat->Nat}{B:Nat}{eo e:TypeId}{ov:Value}{hs:List Value}{rs:List (List ah)}(h:gZ w σ B eo e ov hs rs)(hn:bQ w σ w' σ')
 (hk:∀b,b<w.heap.size->σ b=0->w'.heap[b]? =w.heap[b]? /\σ' b=σ b):gZ w' σ' B eo e ov hs rs:=by
 have hlt:∀b,ov.ownBlock=some b->b<w.heap.size:=fun b hb=>(h.own.lt b hb).2;refine⟨Ad h.own fun b hb=>(hk b (hlt b hb) (h.free b hb)).1,fun b hb=>(hk b (hlt b hb) (h.free b hb)).2.trans (h.free b hb),fun j l hj=> ?_,h.apart⟩;obtain⟨hv,h1,h2,h3⟩:=h.rows j l hj;refine⟨hv,h1,h2.mono hn fun b hb=> ?_,h3⟩;obtain⟨xs,ho,_⟩:=h2.own;exact hk b (ho.lt b hb).2 (h2.free b hb)
theorem gZ.grow{w w':World}{σ σ':Nat->Nat}{B:Nat}{eo e:TypeId}{ov:Value}{hs:List Value}{rs:List (List ah)}(h:gZ w σ B eo e ov hs rs)(hg:Grow w σ w' σ'):gZ w' σ' B eo e ov hs rs:=
 h.mono hg.near fun b hb _=>hg.old b hb
theorem gZ.fast{w:World}{σ:Nat->Nat}{B:Nat}{eo e:TypeId}{ov:Value}{hs:List Value}{rs:List (List ah)}{l:List ah}(h:gZ w σ B eo e ov hs (rs++[l]))(hl:∀b,b<w.heap.size\/σ b=0):
 ∃σ' hv,bQ w σ w σ'/\(∀b,b<w.heap.size\/σ' b=0)/\(∀b,b<B->σ' b=σ b)/\hs[rs.length]? =some hv/\bn w σ' (.sl (l.map ah.enc)) hv/\gZ w σ' B eo e ov hs rs:=by
 obtain⟨hv,h1,h2,h3⟩:=h.rows rs.length l (by simp);obtain⟨σ',k1,k2,k3,k4⟩:=h2.fast hl;refine⟨σ',hv,k1,k3,fun b hb=>k2 b fun q=> ?_,h1,k4,h.own,fun b hb=>(k2 b fun q=>h3 b q hb).trans (h.free b hb),fun j l' hj=> ?_,fun i j hi hj b q1 q2 q3=>h.apart i j hi hj b q1 (by simp;omega) (by simp;omega)⟩
 ·obtain⟨xs,ho,_⟩:=h2.own;have:=(ho.lt b q).1;omega
 ·have hjl:=(ae.1 hj).1;obtain⟨hv',g1,g2,g3⟩:=h.rows j l' (by rw[an hjl];exact hj);exact⟨hv',g1,g2.mono k1 fun b hb=>⟨rfl,k2 b fun q=>h.apart j rs.length hv' hv b (by omega) (by simp;omega) (by simp) g1 h1 hb q⟩,g3⟩
def kI(w W:World):Prop:=∀(b:Nat)(c:Array Value)(t:TypeId)(fz:Nat×Nat),w.heap[b]? =some (.cells c t fz)->∃c',W.heap[b]? =some (.cells c' t fz)/\c'.size=c.size
theorem kI.refl(w:World):kI w w:=fun b c t fz h=>⟨c,h,rfl⟩
theorem kI.trans{a b c:World}(h:kI a b)(k:kI b c):kI a c:=fun x y t fz e=>by
 obtain⟨c1,e1,s1⟩:=h x y t fz e;obtain⟨c2,e2,s2⟩:=k x c1 t fz e1;exact⟨c2,e2,s2.trans s1⟩
theorem kI.setCell(w:World)(a:Addr)(v:Value)(ha:a.spot=none):kI w (w.setCell a v):=fun b c t fz e=>by
 obtain⟨bb,off,sp⟩:=a;simp only at ha;subst ha;by_cases q:bb=b
 ·subst q;exact⟨c.setIfInBounds off v,by simp[World.setCell,cU,e],by simp⟩
 ·exact⟨c,by simp[World.setCell,cU,q,e],rfl⟩
theorem kI.alloc(w:World)(o:Go.Obj):kI w (w.alloc o):=fun b c t fz e=>⟨c,(Lib.alloc_old w o b (lt_of_some e)).trans e,rfl⟩
theorem FH{w W:World}{σ:Nat->Nat}(hs:kI w W)(hf:∀b,σ b≠0->W.heap[b]? =w.heap[b]?):bQ w σ W σ:=by
 intro b c t fz e;refine⟨ax _,fun _=>rfl,?_⟩;by_cases h0:σ b=0
 ·obtain⟨c',e',hz⟩:=hs b c t fz e;exact⟨c',e',hz,fun i hi=>by omega⟩
 ·exact⟨c,(hf b h0).trans e,rfl,fun _ _=>rfl⟩
theorem gZ.put{w W:World}{σ:Nat->Nat}{B g cap j:Nat}{eo e:TypeId}{hs:List Value}{rs:List (List ah)}{l':List ah}{hv hv':Value}{cur:Array Value}(hl:∀b,b<w.heap.size\/σ b=0)
 (h:gZ w σ B eo e (.slice (some ⟨g,0,none⟩) hs.length cap) hs rs)(hj:j<rs.length)(hh:hs[j]? =some hv)(hn:bQ w σ W σ)(hg:w.heap[g]? =some (.cells cur eo (0,0)))(hG:W.heap[g]? =some (.cells (cur.setIfInBounds j hv') eo (0,0)))
 (qx:∀b,b<w.heap.size->b≠g->hv.ownBlock≠some b->W.heap[b]? =w.heap[b]?)(hrow:xD W σ B e hv' l')(hblk:∀b,hv'.ownBlock=some b->hv.ownBlock=some b\/w.heap.size<=b):
 gZ W σ B eo e (.slice (some ⟨g,0,none⟩) hs.length cap) (hs.set j hv') (rs.set j l'):=by
 have hgl:=lt_of_some hg;have hg0:σ g=0:=h.free g rfl;obtain⟨l,hlj⟩:∃l,rs[j]? =some l:=⟨_,al hj⟩;obtain⟨hv0,a1,a2,a3⟩:=h.rows j l hlj;rw[hh] at a1;cases a1;have CR:=(ae.1 hh).1
 have low:∀(i:Nat)(l0:List ah)(hv0:Value),rs[i]? =some l0->hs[i]? =some hv0->∀b,hv0.ownBlock=some b->b<w.heap.size:=fun i l0 hv0 e1 e2 b hb=>by
  obtain⟨hv1,c1,c2,_⟩:=h.rows i l0 e1;rw[e2] at c1;cases c1;obtain⟨xs,ho,_⟩:=c2.own;exact(ho.lt b hb).2
 refine⟨?_,h.free,fun i l0 hi=> ?_,fun i k hi hk b hne h1 h2 e1 e2 e3=> ?_⟩
 ·rw[cy];obtain⟨o1,o2⟩:=h.own;refine⟨by rw[cy];exact o1,?_⟩;rcases o2 with⟨o2,_⟩|⟨g0,cap0,ak9,e0,hb0,hg0',hn0,hm0,hs0,ht0⟩
  ·cases o2
  ·cases e0;rw[hg] at hg0';cases hg0';refine .inr ⟨g,cap,_,rfl,hb0,hG,hn0,hm0,by simpa using hs0,?_⟩;rw[Nat.mul_one] at ht0 ⊢;rw[ef,List.take_set,ht0]
 ·by_cases q:i=j
  ·subst q
   have:l'=l0:=by
    rw[cD hj] at hi;exact cx hi
   subst this;refine⟨hv',cD CR,hrow,fun b hb q=> ?_⟩;cases q;rcases hblk g hb with k|k
   ·exact a3 g k rfl
   ·omega
  ·rw[cT (Ne.symm q)] at hi ⊢;obtain⟨hv1,c1,c2,c3⟩:=h.rows i l0 hi;refine⟨hv1,c1,c2.mono hn fun b hb=>⟨qx b (low i l0 hv1 hi c1 b hb) (fun e=>c3 b hb (by rw[e];rfl)) fun e=> ?_,rfl⟩,c3⟩;exact h.apart i j hv1 hv b q (ae.1 hi).1 hj c1 hh hb e
 ·rw[cy] at h1 h2;by_cases q:i=j
  ·subst q;rw[cD CR] at e1;cases e1;rw[cT hne] at e2;intro q3;rcases hblk b e3 with k'|k'
   ·exact h.apart i k hv hk b hne h1 h2 hh e2 k' q3
   ·have:=low k _ hk (al h2) e2 b q3;omega
  ·rw[cT (Ne.symm q)] at e1;by_cases q2:k=j
   ·subst q2;rw[cD CR] at e2;cases e2;intro q3;rcases hblk b q3 with k'|k'
    ·exact h.apart i k hi hv b hne h1 h2 e1 hh e3 k'
    ·have:=low i _ hi (al h1) e1 b e3;omega
   ·rw[cT (Ne.symm q2)] at e2;exact h.apart i k hi hk b hne h1 h2 e1 e2 e3
theorem EC{P:Program}(w:World)(base:Nat)(t ty e:TypeId)(i:TypeInfo)(z:Value)(size bytes:Nat)(ht:P.underlying t=some (.slice e))(hi:P.info? e=some i)(hz:i.zero=some z)
 (hsize:i.size=size)(hby:i.bytes=bytes)(hzs:z.cells.size=size)(hsz:0<size)
 (v:Value)(n:Nat)(xs:List Value)(hown:w.ownsRow base e size v n xs)
 (a:Addr)(m c:Nat)(news:List Value)(hl:news.length=m*size)(hnews:∀j u,news[j]? =some u->w.cell? (a.add j)=some u)(h1:∀u∈news,u.oneCell'=true)
 (hm:0<m)(h63:n+m<=maxLen)(hbytes:(n+m)*bytes<=140737488355328)(hbase:base<=w.heap.size):
 ∃g cap w',(Builtin.append_ #[t,t] ty #[v,.slice (some a) m c]).run P w=.ok (.slice (some ⟨g,0,none⟩) (n+m) cap) w'/\w'.ownsRow base e size (.slice (some ⟨g,0,none⟩) (n+m) cap) (n+m) (xs++news)/\w.grownBy w' v.ownBlock/\
  (v.ownBlock=some g\/g=w.heap.size)/\g<w'.heap.size/\kI w w':=by
 obtain⟨g,cap,w',hr,h2,h3,h4,h5⟩:=run_append_lies (P:=P) w t ty base e i z size bytes ht hi hz hsize hby hzs hsz v n xs hown a m c news hl hnews h1 hm h63 hbytes hbase w.heap.size rfl;refine⟨g,cap,w',hr,h2,h3,h4,h5,fun b cc tt fz hb=> ?_⟩;by_cases q:v.ownBlock=some b
 rotate_left
 ·exact⟨cc,(h3.block b (lt_of_some hb) fun e=>q e.symm).trans hb,rfl⟩
 rcases hown.2 with⟨rfl,_⟩|⟨g0,cap0,cur,rfl,hbg,hg,hnc,hcm,hcs,htake⟩
 ·cases q
 cases q;rw[hg] at hb;cases hb;subst hsize;by_cases hroom:n+m<=cap0
 ·have hr':=run_append_roomF (P:=P) w t ty e i ht hi g0 n cap0 cc (0,0) hg (ba _) a m c news hl hnews h1 hroom (by rw[hl,hcs,<-cw];exact bx _ hroom);rw[hr] at hr';injection hr' with _ hw;subst hw;refine⟨_,setRow_heap w g0 cc _ e _ hg,?_⟩
  have hmul:n*i.size+m*i.size<=cap0*i.size:=by rw[<-cw];exact bx _ hroom
  simp only[ej,ab,bm,bj,bz];omega
 ·have holds:∀j u,xs[j]? =some u->w.cell? ((⟨g0,0,none⟩:Addr).add j)=some u:=hown.cells (g:=g0) rfl;have hr':=run_append_grow (P:=P) w t ty e i z ht hi hz ⟨g0,0,none⟩ n cap0 xs hown.1 holds a m c news hl hnews (by omega) (by simp only[maxLen] at h63;omega) (growslice_fits (by simp only[maxLen] at h63;omega) (by rw[hby];exact hbytes));rw[hr] at hr';injection hr' with _ hw;subst hw;exact⟨cc,(Lib.alloc_old w.drew _ _ (lt_of_some hg)).trans hg,rfl⟩
theorem ac0(w:World)(σ:Nat->Nat)(B:Nat)(e:TypeId):xD w σ B e (.slice none 0 0) []:=
 ⟨⟨[],⟨rfl,.inl ⟨rfl,rfl⟩⟩,fun i d hd=>by cases hd⟩,fun b hb=>by cases hb⟩
theorem ac1{P:Program}{w w0:World}{σ σ0:Nat->Nat}{B g n cap:Nat}{eo e ty t:TypeId}{hs:List Value}{rs:List (List ah)}{i:TypeInfo}{bytes:Nat}(ht:P.underlying t=some (.slice eo))(hi:P.info? eo=some i)(hz:i.zero=some (.slice none 0 0))
 (hsize:i.size=1)(hby:i.bytes=bytes)(h:gZ w σ B eo e (.slice (some ⟨g,0,none⟩) n cap) hs rs)(hn:hs.length=n)(hr:rs.length=n)(hbz:bytes<=1024)(hn2:n<=1048576)
 (ad:Addr)(c:Nat)(hc:w.cell? ad=some (.slice none 0 0))(had:ad.add 0=ad)(hl:∀b,b<w.heap.size\/σ b=0)(hB:B<=w.heap.size):
 ∃g' cap' w',(Builtin.append_ #[t,t] ty #[.slice (some ⟨g,0,none⟩) n cap,.slice (some ad) 1 c]).run P w=.ok (.slice (some ⟨g',0,none⟩) (n+1) cap') w'/\
  gZ w' σ B eo e (.slice (some ⟨g',0,none⟩) (n+1) cap') (hs++[.slice none 0 0]) (rs++[[]])/\bQ w σ w' σ/\(∀b,b<w.heap.size->b≠g->w'.heap[b]? =w.heap[b]?)/\w.heap.size<=w'.heap.size/\w'.os=w.os/\w'.output=w.output:=by
 subst hn
 obtain⟨g',cap',w',q1,q2,q3,q4,q5,q6⟩:=EC (P:=P) w B t ty eo i (.slice none 0 0) 1 bytes ht hi hz hsize hby rfl (by omega) _ _ _ h.own ad 1 c [.slice none 0 0] rfl (fun j u hu=>by
  match j,hu with
  |0,hu=>cases hu;rw[had];exact hc
  |j+1,hu=>cases hu) (fun u hu=>by rw[eQ.1 hu];rfl) (by omega) (by unfold maxLen;omega) (by
   have:(hs.length+1)*bytes<=(1048576+1)*1024:=fj (by omega) hbz
   omega) hB
 have hg0:σ g=0:=h.free g rfl;have hold:∀b,b<w.heap.size->b≠g->w'.heap[b]? =w.heap[b]? :=fun b hb hne=>q3.block b hb fun e=>hne (cx e);have hnr:bQ w σ w' σ:=FH q6 fun b hb=>hold b ((hl b).elim id fun e=>absurd e hb) fun e=>hb (by rw[e];exact hg0);refine⟨g',cap',w',q1,?_,hnr,hold,q3.size,q3.os,q3.output⟩;have hgl:g<w.heap.size:=(h.own.lt g rfl).2;have q4':g'=g\/g'=w.heap.size:=q4.elim (fun e=>.inl (cx e).symm) .inr;refine⟨by rw[ab];exact q2,fun b hb=> ?_,fun j l hj=> ?_,fun a b ha hb x hne h1 h2 e1 e2 e3=> ?_⟩
 ·cases hb;rcases q4' with rfl|rfl
  ·exact hg0
  ·exact(hl _).elim (fun h=>absurd h (Nat.lt_irrefl _)) id
 ·by_cases hjr:j<rs.length
  ·rw[an hjr] at hj;obtain⟨hv,a1,a2,a3⟩:=h.rows j l hj;obtain⟨xs,ho,_⟩:=a2.own;refine⟨hv,by rw[an (ae.1 a1).1];exact a1,a2.mono hnr fun b hb=>⟨hold b (ho.lt b hb).2 fun e=>a3 b hb (by rw[e];rfl),rfl⟩,fun b hb q=> ?_⟩;cases q;rcases q4' with rfl|rfl
   ·exact a3 _ hb rfl
   ·exact absurd (ho.lt _ hb).2 (Nat.lt_irrefl _)
  ·have hj0:j=rs.length:=by
    have:=(ae.1 hj).1;simp at this;omega
   subst hj0;rw[ac (ax _),cq] at hj;cases hj;exact⟨.slice none 0 0,by rw[ac (by omega),hr,cq];rfl,ac0 _ _ _ _,fun b hb=>by cases hb⟩
 ·by_cases ha':a<rs.length
  ·by_cases hb':b<rs.length
   ·rw[an (by omega)] at e1 e2;exact h.apart a b ha hb x hne ha' hb' e1 e2 e3
   ·have:b=rs.length:=by simp at h2;omega
    subst this;rw[ac (by omega),hr,cq] at e2;cases e2;intro q;cases q
  ·have:a=rs.length:=by simp at h1;omega
   subst this;rw[ac (by omega),hr,cq] at e1;cases e1;cases e3
theorem WL{w:World}(o:Go.Obj){b j:Nat}{u:Value}(h:w.cell? ⟨b,j,none⟩=some u):(w.alloc o).cell? ⟨b,j,none⟩=some u:=by
 cases hb:w.heap[b]? with
 |none=>simp[World.cell?,hb] at h
 |some o'=>
  rw[<-h];exact World.cell?_of_block (Lib.alloc_old w o b (lt_of_some hb))
theorem J8{w:World}{σ:Nat->Nat}{B g cap n:Nat}{eo e:TypeId}{hs:List Value}{rs:List (List ah)}(h:gZ w σ B eo e (.slice (some ⟨g,0,none⟩) n cap) hs rs)(j:Nat):w.frozen? ⟨g,j,none⟩=false:=by
 rcases h.own.2 with⟨h1,_⟩|⟨g0,cap0,cur,e0,_,hg,_⟩
 ·cases h1
 ·simp only[Value.slice.injEq,cb,Addr.mk.injEq,and_true] at e0;obtain⟨rfl,_,rfl⟩:=e0;exact Lib.frozen_of_heap hg j
theorem iB{w:World}{g j b:Nat}{v:Value}(h:b≠g):(w.setCell ⟨g,j,none⟩ v).heap[b]? =w.heap[b]? :=by
 simp[World.setCell,cU,Ne.symm h]
theorem G7{w:World}{g j:Nat}{v:Value}{cur:Array Value}{t:TypeId}{fz:Nat×Nat}(h:w.heap[g]? =some (.cells cur t fz)):(w.setCell ⟨g,j,none⟩ v).heap[g]? =some (.cells (cur.setIfInBounds j v) t fz):=by
 simp[World.setCell,cU,h]
theorem ac2{w:World}{σ:Nat->Nat}{B g n cap:Nat}{eo e:TypeId}{hs:List Value}{hv:Value}{rs:List (List ah)}(h:gZ w σ B eo e (.slice (some ⟨g,0,none⟩) (n+1) cap) (hs++[hv]) rs)(hn:hs.length=n)(hr:rs.length<=n):
 gZ w σ B eo e (.slice (some ⟨g,0,none⟩) n cap) hs rs:=by
 refine⟨?_,h.free,fun j l' hj=> ?_,fun i j hi hj b hne h1 h2 e1 e2=> ?_⟩
 ·obtain⟨o1,o2⟩:=h.own;refine⟨by rw[hn];omega,?_⟩;rcases o2 with⟨o2,_⟩|⟨g0,cap0,cur,e0,hb,hg,hnc,hm,hsz,ht⟩
  ·cases o2
  ·simp only[Value.slice.injEq,cb,Addr.mk.injEq,and_true] at e0;obtain⟨rfl,_,rfl⟩:=e0;refine .inr ⟨g,cap,cur,by rw[hn],hb,hg,?_,hm,hsz,?_⟩
   ·rw[ab] at hnc;omega
   ·have:=congrArg (List.take (hs.length*1)) ht;rw[List.take_take,ab,Nat.min_eq_left (by simp)] at this;rw[this,Nat.mul_one,List.take_append_of_le_length (ax _),co]
 ·have hjl:=(ae.1 hj).1;obtain⟨hv',a1,a2,a3⟩:=h.rows j l' hj;rw[an (by omega)] at a1;exact⟨hv',a1,a2,a3⟩
 ·have i1:=(ae.1 e1).1;have j1:=(ae.1 e2).1;exact h.apart i j hi hj b hne h1 h2 (by rw[an i1];exact e1) (by rw[an j1];exact e2)
theorem QC{W:World}{σ:Nat->Nat}{B:Nat}{e:TypeId}{v:Value}{l:List ah}{ys:List Value}{x:ah}{lv:Value}
 (hown:W.ownsRow B e 2 v (l.length+1) (ys++[.string ⟨x.aI.toArray⟩,lv]))(hys:ys.length=l.length*2)
 (hy:∀(i:Nat) (d:D),(l.map ah.enc).flatten[i]? =some d->∃u,ys[i]? =some u/\bn W σ d u)(hx:bn W σ (.sl (x.ak.map ah.enc)) lv)(hf:∀b,v.ownBlock=some b->σ b=0):xD W σ B e v (l++[x]):=by
 have hfl:(l.map ah.enc).flatten.length=l.length*2:=by
  have:=gy (l.map ah.enc) 2 (zA l);simpa using this
 have e1:([x].map ah.enc).flatten=[.s x.aI,.sl (x.ak.map ah.enc)]:=by
  rw[List.map_singleton,List.flatten_singleton,ah.aB]
 refine⟨⟨_,by rw[ab,dp];exact hown,fun i d hd=> ?_⟩,hf⟩;rw[bi,cS,e1] at hd;by_cases hi:i<l.length*2
 ·rw[an (by omega)] at hd;obtain⟨u,hu,hr⟩:=hy i d hd;exact⟨u,by rw[an (by omega)];exact hu,hr⟩
 ·rw[ac (by omega),hfl] at hd
  have hw:(ys++[Value.string ⟨x.aI.toArray⟩,lv])[i]? =[Value.string ⟨x.aI.toArray⟩,lv][i-l.length*2]? :=by
   rw[ac (by omega),hys]
  rw[hw];generalize i-l.length*2=k at hd
  match k,hd with
  |0,hd=>simp at hd;subst hd;exact⟨_,rfl,.s _⟩
  |1,hd=>simp at hd;subst hd;exact⟨_,rfl,hx⟩
  |k+2,hd=>simp at hd
theorem afx{w w2:World}{σ:Nat->Nat}{B g cap j:Nat}{eo e:TypeId}{hs:List Value}{rs:List (List ah)}{l:List ah}{hv hv':Value}{x:ah}{lv:Value}{ys:List Value}(hl:∀b,b<w.heap.size\/σ b=0)
 (hst:gZ w σ B eo e (.slice (some ⟨g,0,none⟩) hs.length cap) hs rs)(hjl:rs[j]? =some l)(hh:hs[j]? =some hv)
 (hown:w2.ownsRow B e 2 hv' (l.length+1) (ys++[.string ⟨x.aI.toArray⟩,lv]))(hys:ys.length=l.length*2)
 (hy:∀(i:Nat) (d:D),(l.map ah.enc).flatten[i]? =some d->∃u,ys[i]? =some u/\bn w σ d u)(hx:bn w σ (.sl (x.ak.map ah.enc)) lv)
 (h12:∀b,b<w.heap.size->hv.ownBlock≠some b->w2.heap[b]? =w.heap[b]?)(hsm:kI w w2)(hblk:∀b,hv'.ownBlock=some b->hv.ownBlock=some b\/w.heap.size<=b):
 bQ w σ (w2.setCell ⟨g,j,none⟩ hv') σ/\gZ (w2.setCell ⟨g,j,none⟩ hv') σ B eo e (.slice (some ⟨g,0,none⟩) hs.length cap) (hs.set j hv') (rs.set j (l++[x]))/\
  ∀b,b<w.heap.size->b≠g->hv.ownBlock≠some b->(w2.setCell ⟨g,j,none⟩ hv').heap[b]? =w.heap[b]? :=by
 obtain⟨hv0,a1,a2,a3⟩:=hst.rows j l hjl;rw[hh] at a1;cases a1;have hg0:σ g=0:=hst.free g rfl;have ED:hv.ownBlock≠some g:=fun q=>a3 g q rfl
 obtain⟨cur,hg⟩:∃cur,w.heap[g]? =some (.cells cur eo (0,0)):=by
  rcases hst.own.2 with⟨o2,_⟩|⟨g0,cap0,cur,e0,hb,hg,_⟩
  ·cases o2
  ·cases e0;exact⟨cur,hg⟩
 have hgl:=lt_of_some hg;have hg2:=(h12 g hgl ED).trans hg;have qx:∀b,b<w.heap.size->b≠g->hv.ownBlock≠some b->(w2.setCell ⟨g,j,none⟩ hv').heap[b]? =w.heap[b]? :=fun b h1 h2 h3=>(iB h2).trans (h12 b h1 h3)
 have uE:bQ w σ (w2.setCell ⟨g,j,none⟩ hv') σ:=FH (hsm.trans (kI.setCell _ _ _ rfl)) fun b hb=>
  qx b ((hl b).resolve_right hb) (fun q=>hb (by rw[q];exact hg0)) fun q=>hb (a2.free b q)
 have hne:∀b,hv'.ownBlock=some b->b≠g:=fun b hb q=>by
  subst q;rcases hblk b hb with k|k
  ·exact ED k
  ·omega
 have hrow:xD (w2.setCell ⟨g,j,none⟩ hv') σ B e hv' (l++[x]):=QC (Ad hown fun b hb=>iB (hne b hb)) hys (fun i d hd=>by
  obtain⟨u,hu,hr⟩:=hy i d hd
  exact⟨u,hu,hr.mono uE⟩) (hx.mono uE) fun b hb=>by
   rcases hblk b hb with k|k
   ·exact a2.free b k
   ·exact(hl b).resolve_left (by omega)
 exact⟨uE,gZ.put hl hst (ae.1 hjl).1 hh uE hg (G7 hg2) qx hrow hblk,qx⟩
theorem QD{w:World}{σ:Nat->Nat}{B g g1 cap gH j:Nat}{eo e:TypeId}{hs:List Value}{rs:List (List ah)}{l:List ah}{x0 x:ah}{lv:Value}(hl:∀b,b<w.heap.size\/σ b=0)
 (hst:gZ w σ B eo e (.slice (some ⟨g,0,none⟩) hs.length cap) hs rs)(hjl:rs[j]? =some (l++[x0]))(hh:hs[j]? =some (.slice (some ⟨g1,0,none⟩) (l.length+1) gH))(hx:bn w σ (.sl (x.ak.map ah.enc)) lv):
 bQ w σ ((w.setCell ⟨g1,l.length*2,none⟩ (.string ⟨x.aI.toArray⟩)).setCell ⟨g1,l.length*2+1,none⟩ lv) σ/\
  gZ ((w.setCell ⟨g1,l.length*2,none⟩ (.string ⟨x.aI.toArray⟩)).setCell ⟨g1,l.length*2+1,none⟩ lv) σ B eo e (.slice (some ⟨g,0,none⟩) hs.length cap) hs (rs.set j (l++[x]))/\
  ∀b,b≠g1->((w.setCell ⟨g1,l.length*2,none⟩ (.string ⟨x.aI.toArray⟩)).setCell ⟨g1,l.length*2+1,none⟩ lv).heap[b]? =w.heap[b]? :=by
 obtain⟨W,hW⟩:∃W,W=(w.setCell ⟨g1,l.length*2,none⟩ (.string ⟨x.aI.toArray⟩)).setCell ⟨g1,l.length*2+1,none⟩ lv:=⟨_,rfl⟩;obtain⟨hv0,a1,a2,a3⟩:=hst.rows j _ hjl;rw[hh] at a1;cases a1;have hg0:σ g=0:=hst.free g rfl;have ED:g≠g1:=fun q=>a3 g1 rfl (by rw[q];rfl)
 have Nw:∀b,b≠g1->W.heap[b]? =w.heap[b]? :=fun b hb=>by rw[hW,iB hb,iB hb]
 obtain⟨cur,hg,hcur⟩:∃cur,w.heap[g]? =some (.cells cur eo (0,0))/\cur.toList.take hs.length=hs:=by
  rcases hst.own.2 with⟨o2,_⟩|⟨g0,cap0,cur,e0,hb,hg,_,_,_,ht⟩
  ·cases o2
  ·cases e0;exact⟨cur,hg,by rw[Nat.mul_one] at ht;exact ht⟩
 have hjh:=(ae.1 hh).1
 have hself:cur.setIfInBounds j (.slice (some ⟨g1,0,none⟩) (l.length+1) gH)=cur:=by
  have h1:cur.toList[j]? =some (.slice (some ⟨g1,0,none⟩) (l.length+1) gH):=by
   have q:(cur.toList.take hs.length)[j]? =hs[j]? :=by rw[hcur]
   rw[<-hh,<-q,bu hjh]
  obtain⟨h2,h3⟩:=ae.1 h1;refine Array.ext' ?_;rw[ef,<-h3,List.set_getElem_self]
 have ahc:hs.set j (.slice (some ⟨g1,0,none⟩) (l.length+1) gH)=hs:=by
  obtain⟨h2,h3⟩:=ae.1 hh;rw[<-h3,List.set_getElem_self]
 have hsame:kI w W:=by
  rw[hW];exact(kI.setCell _ _ _ rfl).trans (kI.setCell _ _ _ rfl)
 have uE:bQ w σ W σ:=FH hsame fun b hb=>Nw b fun q=>hb (a2.free b (by rw[q];rfl));obtain⟨⟨xs,ho,hxs⟩,hf⟩:=a2;obtain⟨ho1,ho2⟩:=ho;rw[ab,dp] at ho1 ho2
 obtain⟨l9,hb1,hg1,hc1,hc2,hc3,ht1⟩:∃l9,B<=g1/\w.heap[g1]? =some (.cells l9 e (0,0))/\l.length+1<=gH/\gH<=maxLen/\l9.size=gH*2/\l9.toList.take ((l.length+1)*2)=xs:=by
  rcases ho2 with⟨o2,_⟩|⟨g0,cap0,cur,e0,q⟩
  ·cases o2
  ·simp only[Value.slice.injEq,cb,Addr.mk.injEq,and_true] at e0;obtain⟨rfl,_,rfl⟩:=e0;exact⟨cur,q⟩
 have hW1:W.heap[g1]? =some (.cells ((l9.setIfInBounds (l.length*2) (.string ⟨x.aI.toArray⟩)).setIfInBounds (l.length*2+1) lv) e (0,0)):=by
  rw[hW];exact G7 (G7 hg1)
 have hrow:xD W σ B e (.slice (some ⟨g1,0,none⟩) (l.length+1) gH) (l++[x]):=by
  have hys:(xs.take (l.length*2)).length=l.length*2:=by rw[bm];omega
  refine QC (ys:=xs.take (l.length*2)) (lv:=lv) ⟨by simp only[ab,hys,aa,aq];omega,.inr ⟨g1,gH,_,rfl,hb1,hW1,hc1,hc2,by simpa using hc3,?_⟩⟩ hys (fun i d hd=> ?_) (hx.mono uE) hf
  ·rw[ef,ef,List.take_set,List.take_set,ht1];refine dy fun i=> ?_;rcases em i (l.length*2) with h|h|h
   ·rw[cT (by omega),cT (by omega),an (by omega),bu h]
   ·subst h;rw[cT (by omega),cD (by omega),ac (by omega),hys,cq];rfl
   ·rw[ac (by omega),hys];by_cases h2:i=l.length*2+1
    ·subst h2;rw[cD (by rw[cy];omega),cz];rfl
    ·rw[ck (by simp only[cy];omega),ck (by simp only[aa,aq];omega)]
  ·have hfl:(l.map ah.enc).flatten.length=l.length*2:=by
    have:=gy (l.map ah.enc) 2 (zA l);simpa using this
   have hi:=(ae.1 hd).1;obtain⟨u,hu,hr⟩:=hxs i d (by rw[bi,cS,an hi];exact hd);exact⟨u,by rw[bu (by omega)];exact hu,hr.mono uE⟩
 rw[<-hW];refine⟨uE,?_,Nw⟩;have:=gZ.put (hv':=.slice (some ⟨g1,0,none⟩) (l.length+1) gH) hl hst (ae.1 hjl).1 hh uE hg (by rw[hself];exact(Nw g ED).trans hg) (fun b _ _ h3=>Nw b fun q=>h3 (by rw[q];rfl)) hrow (fun b hb=>.inl hb);rw[ahc] at this;exact this
theorem aiI{wq:World}{u v:Value}{T:TypeId}:∀j x,([u,v]:List Value)[j]? =some x->(wq.drew.alloc (.cells #[u,v] T)).cell? ((⟨wq.heap.size,0,none⟩:Addr).add j)=some x:=by
 intro j x hx;exact World.news_of_block (heap_alloc_new wq.drew (.cells #[u,v] T)) j x hx
theorem ZY{w W:World}{σ σ':Nat->Nat}(h:Grow w σ W σ'):Grow w σ W.drew σ':=⟨h.size,h.os,h.output,h.old,h.live⟩
theorem zB{w wq W:World}{σ σ1:Nat->Nat}{B:Nat}(hg:Grow w σ wq σ1)(hsz:wq.heap.size<=W.heap.size)(hos:W.os=wq.os)(hout:W.output=wq.output)(hlow:∀b,b<B->W.heap[b]? =wq.heap[b]?)(hB:w.heap.size<=B):Grow w σ W σ1:=
 ⟨cp hg.size hsz,hos.trans hg.os,hout.trans hg.output,fun b hb=>⟨(hlow b (cP hb hB)).trans (hg.old b hb).1,(hg.old b hb).2⟩,fun b=>(hg.live b).elim (fun h=>.inl (cP h hsz)) .inr⟩
theorem zC{P:Program}{wq:World}{σ:Nat->Nat}{B g cap j n:Nat}{eo e t:TypeId}(ty:TypeId){hs:List Value}{rs:List (List ah)}{y:List ah}{ya:Option Addr}{rQ:Nat}{i:TypeInfo}(ht:P.underlying t=some (.slice e))(hi:P.info? e=some i)
 (hz:i.zero=some (.agg #[.string ⟨#[]⟩,.slice none 0 0]))(hsize:i.size=2)(hby:i.bytes=40)(hl:∀b,b<wq.heap.size\/σ b=0)(hB:B<=wq.heap.size)(hst:gZ wq σ B eo e (.slice (some ⟨g,0,none⟩) n cap) hs rs)(hn:hs.length=n)
 (hjl:rs[j]? =some y)(hh:hs[j]? =some (.slice ya y.length rQ))(hy:y.length<=1048576)(x:ah){u lv:Value}(hu: .string ⟨x.aI.toArray⟩=u)(hx:bn wq σ (.sl (x.ak.map ah.enc)) lv)(h1:lv.oneCell'=true)(T:TypeId):
 ∃g1 gH w2,(Builtin.append_ #[t,t] ty #[.slice ya y.length rQ,.slice (some ⟨wq.heap.size,0,none⟩) 1 1]).run P (wq.drew.alloc (.cells #[u,lv] T))=.ok (.slice (some ⟨g1,0,none⟩) (y.length+1) gH) w2/\
  w2.cell? ⟨g,j,none⟩=some (.slice ya y.length rQ)/\w2.frozen? ⟨g,j,none⟩=false/\g1≠g/\(∃l9:Array Value,w2.heap[g1]? =some (.cells l9 e (0,0))/\(y.length+1)*2<=l9.size)/\y.length+1<=gH/\
  bQ wq σ (w2.setCell ⟨g,j,none⟩ (.slice (some ⟨g1,0,none⟩) (y.length+1) gH)) σ/\
  gZ (w2.setCell ⟨g,j,none⟩ (.slice (some ⟨g1,0,none⟩) (y.length+1) gH)) σ B eo e (.slice (some ⟨g,0,none⟩) n cap) (hs.set j (.slice (some ⟨g1,0,none⟩) (y.length+1) gH)) (rs.set j (y++[x]))/\
  wq.heap.size<=w2.heap.size/\w2.os=wq.os/\w2.output=wq.output/\B<=g/\B<=g1/\∀b,b<B->w2.heap[b]? =wq.heap[b]? :=by
 subst hn hu;obtain⟨hv0,a1,a2,a3⟩:=hst.rows j y hjl;rw[hh] at a1;cases a1;have hrow:=a2;obtain⟨⟨ys,hown,hrep⟩,hfree⟩:=a2;have hyb:∀b,(Value.slice ya y.length rQ).ownBlock=some b->B<=b/\b<wq.heap.size:=fun b hb=>hown.lt b hb;have ED:(Value.slice ya y.length rQ).ownBlock≠some g:=fun q=>a3 g q rfl;have hgl:B<=g/\g<wq.heap.size:=hst.own.lt g rfl;have hown1:(wq.drew.alloc (.cells #[.string ⟨x.aI.toArray⟩,lv] T)).ownsRow B e 2 (.slice ya y.length rQ) y.length ys:=Ad hown fun b hb=>Lib.alloc_old wq.drew _ b (hyb b hb).2
 obtain⟨g1,gH,w2,q1,q2,q3,q4,q5,q6⟩:=EC (P:=P) (wq.drew.alloc (.cells #[.string ⟨x.aI.toArray⟩,lv] T)) B t ty e i _ 2 40 ht hi hz hsize hby rfl (by omega) _ _ _ hown1 ⟨wq.heap.size,0,none⟩ 1 1 [.string ⟨x.aI.toArray⟩,lv] rfl aiI (fun u hu=>by
  rcases cA.1 hu with rfl|hu
  ·rfl
  ·rw[eQ.1 hu];exact h1) (by omega) (by unfold maxLen;omega) (by omega) (by
   rw[show(wq.drew.alloc (.cells #[.string ⟨x.aI.toArray⟩,lv] T)).heap.size=wq.heap.size+1 by simp];omega)
 have hsz1:(wq.drew.alloc (.cells #[.string ⟨x.aI.toArray⟩,lv] T)).heap.size=wq.heap.size+1:=by simp
 have h12:∀b,b<wq.heap.size->(Value.slice ya y.length rQ).ownBlock≠some b->w2.heap[b]? =wq.heap[b]? :=fun b h1 h2=>(q3.block b (by omega) fun e=>h2 e.symm).trans (Lib.alloc_old wq.drew _ b h1);have hsm:kI wq w2:=kI.trans (kI.alloc wq.drew _) q6
 have hblk:∀b,(Value.slice (some ⟨g1,0,none⟩) (y.length+1) gH).ownBlock=some b->(Value.slice ya y.length rQ).ownBlock=some b\/wq.heap.size<=b:=fun b hb=>by
  cases hb;rcases q4 with h|h
  ·exact .inl h
  ·right;show wq.heap.size<=g1;omega
 have hg1:g1≠g:=fun q=>by
  rcases hblk g1 rfl with h|h
  ·rw[q] at h;exact ED h
  ·omega
 have hB1:B<=g1:=by
  rcases hblk g1 rfl with h|h
  ·exact(hyb g1 h).1
  ·omega
 obtain⟨n1,n2,n3⟩:=afx hl hst hjl hh q2 hown.1 hrep hx h12 hsm hblk
 obtain⟨l9,c1,c2,c3⟩:∃l9:Array Value,w2.heap[g1]? =some (.cells l9 e (0,0))/\(y.length+1)*2<=l9.size/\y.length+1<=gH:=by
  rcases q2.2 with⟨h,_⟩|⟨g0,cap0,cur,e0,_,hg,hc1,_,hc3,_⟩
  ·cases h
  ·cases e0;exact⟨cur,hg,by rw[hc3];exact bx _ hc1,hc1⟩
 have hkg:=h12 g hgl.2 ED;refine⟨g1,gH,w2,q1,?_,?_,hg1,⟨l9,c1,c2⟩,c3,n1,n2,?_,q3.os,q3.output,hgl.1,hB1,fun b hb=>h12 b (by omega) fun q=> ?_⟩
 ·have hj:=hst.own.cells (g:=g) rfl j _ hh;rw[show(⟨g,0,none⟩:Addr).add j=⟨g,j,none⟩ by unfold Addr.add;split<;>simp_all] at hj;rw[<-hj];exact World.cell?_of_block hkg
 ·exact(World.frozen?_of_block hkg).trans (J8 hst j)
 ·have:=q3.size;omega
 ·have:=(hyb b q).1;omega
theorem QE{w wq:World}{σ σ1 σ2:Nat->Nat}{B:Nat}(hg:Grow w σ wq σ1)(h:∀b,b<B->σ2 b=σ1 b)(hl:∀b,b<wq.heap.size\/σ2 b=0)(hB:w.heap.size<=B):Grow w σ wq σ2:=
 ⟨hg.size,hg.os,hg.output,fun b hb=>⟨(hg.old b hb).1,(h b (cP hb hB)).trans (hg.old b hb).2⟩,hl⟩
theorem rA{α:Type}(l:List α)(a b:α)(n:Nat)(h:l.length=n):(l++[a]).set n b=l++[b]:=by
 subst h
 simp
theorem afy{w:World}{σ:Nat->Nat}{B g cap n:Nat}{eo e:TypeId}{hs:List Value}{rs:List (List ah)}(h:gZ w σ B eo e (.slice (some ⟨g,0,none⟩) n cap) hs rs):n<=cap:=by
 rcases h.own.2 with⟨h1,_⟩|⟨g0,cap0,cur,e0,_,hg,h2,_⟩
 ·cases h1
 ·simp only[Value.slice.injEq,cb,Addr.mk.injEq,and_true] at e0;obtain⟨_,rfl,rfl⟩:=e0;exact h2
theorem set_comm{w:World}{g g1 i j:Nat}{u v:Value}(h:g≠g1):(w.setCell ⟨g1,i,none⟩ u).setCell ⟨g,j,none⟩ v=(w.setCell ⟨g,j,none⟩ v).setCell ⟨g1,i,none⟩ u:=by
 have hh:((w.setCell ⟨g1,i,none⟩ u).setCell ⟨g,j,none⟩ v).heap=((w.setCell ⟨g,j,none⟩ v).setCell ⟨g1,i,none⟩ u).heap:=by
  refine Array.ext_getElem? fun b=> ?_;by_cases h1:b=g
  ·subst h1;rw[iB (w:=w.setCell _ _) h];simp[World.setCell,cU,Ne.symm h]
  ·rw[iB h1];by_cases h2:b=g1
   ·subst h2;simp[World.setCell,cU,h]
   ·rw[iB h2,iB h2,iB h1]
 unfold World.setCell at hh ⊢;simp only at hh ⊢;rw[hh]
theorem J9{p:UInt8->Bool}:∀(n:Nat)(l:List UInt8),(∀a∈l.take n,p a=true)->(l.length=n\/∃a,l[n]? =some a/\p a=false)->l.takeWhile p=l.take n/\l.dropWhile p=l.drop n
 |0,l,_,h=>by
  rcases h with h|⟨a,h1,h2⟩
  ·have:=bh h;subst this;exact⟨rfl,rfl⟩
  ·cases l with
   |nil=>simp at h1
   |cons b l=>
    simp at h1;subst h1;simp[List.takeWhile,List.dropWhile,h2]
 |n+1,l,ha,h=>by
  cases l with
  |nil=>
   rcases h with h|⟨a,h1,h2⟩
   ·simp at h
   ·simp at h1
  |cons b l=>
   have hb:p b=true:=ha b (by simp);have ih:=J9 n l (fun a hm=>ha a (by simp[hm])) (by simpa using h);simp[List.takeWhile,List.dropWhile,hb,ih.1,ih.2]
theorem afz(s:List UInt8)(i e:Nat):(⟨s.toArray⟩:ByteArray).extract i e=⟨((s.take e).drop i).toArray⟩:=by
 refine ByteArray.ext ?_;rw[ByteArray.data_extract];simp[List.extract_toArray,List.drop_take]
def lQ(P:Program)(o:Oper)(ρ:Operand->Value)(w:World)(v:Value)(w':World):Prop:=(execOp ρ o).run P w=.ok (.value v) w'\/((execOp ρ o).run P w=.ok .skip w'/\v=undef)
theorem lQ.wp{P:Program}{o:Oper}{a:Act}{w w':World}{v:Value}{K:Act->World->Prop}{Q:Exit->Act->World->Prop}(h:lQ P o a.eval w v w')(hK:K (a.put o.dst v) w'):o.wp P a w K Q:=by
 unfold Oper.wp;rcases h with h|⟨h,rfl⟩
 ·rw[h];exact hK
 ·rw[h];exact hK
def pJ(dw:List Nat)(i m:Nat):Nat:=if dw.contains i then m ||| 2^dw.idxOf i else m
def bE(P:Program)(dw:List Nat)(W:Nat->World)(K:Act->Prop):List Oper->List (List Nat)->Nat->Act->Prop
 |[],_,_,a=>K a
 |o::l,rs,i,a=>∃v,(∀m∈rs.headD [],lQ P o a.eval (W m) v (W (pJ dw i m)))/\bE P dw W K l rs.tail (i+1) (a.put o.dst v)
theorem TN{P:Program}{dw:List Nat}{W:Nat->World}{K:Act->Prop}:∀(l:List Oper)(rs:List (List Nat))(i:Nat)(a:Act),bE P dw W K l rs i a->
 ∃(vs:Nat->Value) (A:Nat->Act),A 0=a/\(∀j o,l[j]? =some o->A (j+1)=(A j).put o.dst (vs j)/\∀m∈rs.getD j [],lQ P o (A j).eval (W m) (vs j) (W (pJ dw (i+j) m)))/\K (A l.length)
 |[],rs,i,a,h=>⟨fun _=>undef,fun _=>a,rfl,fun j o hj=>by simp at hj,h⟩
 |o::l,rs,i,a,h=>by
  obtain⟨v,h1,h2⟩:=h;obtain⟨vs,A,k0,k1,k2⟩:=TN l rs.tail (i+1) _ h2;refine⟨fun j=>match j with|0=>v|j+1=>vs j,fun j=>match j with|0=>a|j+1=>A j,rfl,fun j o' hj=> ?_,k2⟩
  cases j with
  |zero=>
   simp only[eJ,cb] at hj;subst hj;refine⟨k0,fun m hm=>h1 m ?_⟩
   cases rs with
   |nil=>simp at hm
   |cons r rs=>simpa using hm
  |succ j=>
   simp only[dt] at hj;obtain⟨q1,q2⟩:=k1 j o' hj;refine⟨q1,fun m hm=> ?_⟩
   have:=q2 m (by cases rs with
    |nil=>simp at hm
    |cons r rs=>simpa using hm)
   rw[show i+(j+1)=i+1+j by omega];exact this
def WM(R:Array Oper)(dw:List Nat)(i m:Nat):Bool:=
 (List.range dw.length).all fun k=>if m.testBit k then !((masks R.toList []).getD (dw.getD k 0) 0).testBit i&&dw.getD k 0 !=i&&(List.range dw.length).all (fun k'=> !((masks R.toList []).getD (dw.getD k 0) 0).testBit (dw.getD k' 0)||m.testBit k')
   else !((masks R.toList []).getD i 0).testBit (dw.getD k 0)
def ac3(R:Array Oper)(N:Nat)(dw:List Nat)(rng:List (List Nat)):Bool:=
 ((List.range R.size).all fun j=>
   (match R[j]? with
    |some o=>o.guard.isNone&&(match o.op with| .select .. =>false|_=>true)&&o.after.toList.all (fun e=> !Region.binds .any e||decide (e.on<j))&&(match o.dst with|some d=>decide (d<N)|none=>true)
    |none=>true)&&
   ((List.range j).all fun i=>
     match R[i]?,R[j]? with
     |some x,some y=>(((masks R.toList []).getD j 0).testBit i||x.apart R y)&&(x.dst.isNone||x.dst !=y.dst)
     |_,_=>true)&&
   ((List.range (2^dw.length)).all fun m=> !(WM R dw j m)||(rng.getD j []).contains m))&&
 (List.range dw.length).all fun k'=>decide (dw.getD k' 0<R.size)&&(List.range k').all fun k=>dw.getD k 0 !=dw.getD k' 0
section
variable {P:Program} {R:Array Oper} {N:Nat} {dw:List Nat} {rng:List (List Nat)} {W:Nat->World} {vs:Nat->Value} {A:Nat->Act}
structure Ny(R:Array Oper)(N:Nat)(dw:List Nat)(rng:List (List Nat)):Prop where
 guard:∀(j:Nat)(o:Oper),R[j]? =some o->o.guard=none
 aiJ:∀(j:Nat)(o:Oper),R[j]? =some o->∀cs b,o.op≠ .select cs b
 edge:∀(i:Nat)(o:Oper)(e:Edge),R[i]? =some o->e∈o.after->Region.binds .any e=true->e.on<i
 dst:∀(i:Nat)(o:Oper),R[i]? =some o->∀d,o.dst=some d->d<N
 pair:∀(i j:Nat)(x y:Oper),i<j->R[i]? =some x->R[j]? =some y->((masks R.toList []).getD j 0).testBit i=true\/x.apart R y=true
 one:∀(i j:Nat)(x y:Oper)(d:Nat),R[i]? =some x->R[j]? =some y->x.dst=some d->y.dst=some d->i=j
 rng:∀(j m:Nat),j<R.size->m<2^dw.length->WM R dw j m=true->m∈rng.getD j []
 ac4:∀k,k<dw.length->dw.getD k 0<R.size
 apart:∀k k',k<k'->k'<dw.length->dw.getD k 0≠dw.getD k' 0
theorem ac5(h:ac3 R N dw rng=true):Ny R N dw rng:=by
 unfold ac3 at h;rw[af] at h;obtain⟨h1,h2⟩:=h;have H:∀(j:Nat)(o:Oper),R[j]? =some o->_:=fun j o ho=>aS.1 h1 j (bP.2 (aE.1 ho).1)
 have H0:∀(j:Nat)(o:Oper),R[j]? =some o->o.guard.isNone=true/\(match o.op with| .select .. =>false|_=>true)=true/\o.after.toList.all (fun e=> !Region.binds .any e||decide (e.on<j))=true/\(match o.dst with|some d=>decide (d<N)|none=>true)=true:=by
  intro j o ho;have:=H j o ho;simp only[ho,af] at this;exact⟨this.1.1.1.1.1,this.1.1.1.1.2,this.1.1.1.2,this.1.1.2⟩
 have H1:∀(i j:Nat)(x y:Oper),i<j->R[i]? =some x->R[j]? =some y->((((masks R.toList []).getD j 0).testBit i||x.apart R y)&&(x.dst.isNone||x.dst !=y.dst))=true:=by
  intro i j x y hij hx hy;have:=H j y hy;simp only[af] at this;have:=aS.1 this.1.2 i (bP.2 hij);simp only[hx,hy] at this;exact this
 have H2:∀(i j:Nat)(x y:Oper)(d:Nat),i<j->R[i]? =some x->R[j]? =some y->x.dst=some d->y.dst=some d->False:=by
  intro i j x y d hij hx hy h1 h2;have:=H1 i j x y hij hx hy;simp[h1,h2] at this
 refine⟨fun j o ho=>by simpa using (H0 j o ho).1,fun j o ho cs b e=> ?_,fun i o e ho he hb=> ?_,fun i o ho d hd=> ?_,fun i j x y hij hx hy=> ?_,fun i j x y d hx hy h1 h2=> ?_,fun j m hj hm hp=> ?_,fun k hk=> ?_,fun k k' hkk hk=> ?_⟩
 ·have:=(H0 j o ho).2.1;rw[e] at this;cases this
 ·have:=aS.1 (H0 i o ho).2.2.1 e (by simpa using he);simpa [hb] using this
 ·have:=(H0 i o ho).2.2.2;rw[hd] at this;simpa using this
 ·have:=H1 i j x y hij hx hy;rw[af,cW] at this;exact this.1
 ·rcases em i j with h|h|h
  ·exact(H2 i j x y d h hx hy h1 h2).elim
  ·exact h
  ·exact(H2 j i y x d h hy hx h2 h1).elim
 ·have:=aS.1 h1 j (bP.2 hj);rw[af] at this;have:=aS.1 this.2 m (bP.2 hm);simpa [hp] using this
 ·have:=aS.1 h2 k (bP.2 hk);rw[af] at this;simpa using this.1
 ·have:=aS.1 h2 k' (bP.2 hk);rw[af] at this;have:=aS.1 this.2 k (bP.2 hkk);simpa using this
structure WO(R:Array Oper)(dw:List Nat)(W:Nat->World)(vs:Nat->Value)(a0:Act)(listed:Array Bool)(a:Act)(w:World):Prop where
 size:listed.size=R.size
 closed:∀i o e,R[i]? =some o->listed.getD i false=true->e∈o.after->Region.binds .any e=true->listed.getD e.on false=true
 wld:∃m,m<2^dw.length/\(∀k,k<dw.length->(listed.getD (dw.getD k 0) false=true<->m.testBit k=true))/\w=W m
 defs:a.defers=a0.defers
 WQ:a.tmps.size=a0.tmps.size
 got:∀j o t,R[j]? =some o->o.dst=some t->listed.getD j false=true->a.tmps.getD t undef=vs j
 old:∀t,(∀j o,R[j]? =some o->o.dst=some t->listed.getD j false=false)->a.tmps.getD t undef=a0.tmps.getD t undef
theorem QF(a:Act)(d:Option Nat)(v:Value):(a.put d v).tmps.size=a.tmps.size:=by cases d<;>simp[Act.put]
theorem put_defers(a:Act)(d:Option Nat)(v:Value):(a.put d v).defers=a.defers:=by cases d<;>rfl
theorem QG{a:Act}{d:Nat}{v:Value}(h:d<a.tmps.size):(a.put (some d) v).tmps.getD d undef=v:=by simp[Act.put,h]
theorem QH(hok:Ny R N dw rng){a0:Act}(hN:a0.tmps.size=N)(MI:A 0=a0)(hA:∀j o,R[j]? =some o->A (j+1)=(A j).put o.dst (vs j)):
 ∀n,n<=R.size->(A n).tmps.size=N/\(A n).defers=a0.defers/\(∀t,(∀j o,j<n->R[j]? =some o->o.dst≠some t)->(A n).tmps.getD t undef=a0.tmps.getD t undef)/\(∀j o t,j<n->R[j]? =some o->o.dst=some t->(A n).tmps.getD t undef=vs j):=by
 intro n
 induction n with
 |zero=>intro _;rw[MI];exact⟨hN,rfl,fun _ _=>rfl,fun j o t hj=>by omega⟩
 |succ n ih=>
  intro hn;obtain⟨i1,i2,i3,i4⟩:=ih (by omega);have ho:R[n]? =some R[n]:=cd (by omega);have hAn:=hA n _ ho;refine⟨by rw[hAn,QF];exact i1,by rw[hAn,put_defers];exact i2,fun t ht=> ?_,fun j o t hj hjo hd=> ?_⟩
  ·rw[hAn,qO (ht n _ (by omega) ho)];exact i3 t fun j o hj hjo=>ht j o (by omega) hjo
  ·by_cases e:j=n
   ·subst e;rw[ho] at hjo;cases hjo;rw[hAn,hd,QG (by rw[i1];exact hok.dst _ _ ho _ hd)]
   ·rw[hAn,qO fun q=>e (hok.one j n _ _ t hjo ho hd q)];exact i4 j o t (by omega) hjo hd
theorem Z0{Q:Exit->Act->World->Prop}(hok:Ny R N dw rng){a0:Act}(hN:a0.tmps.size=N)(MI:A 0=a0)
 (hA:∀j o,R[j]? =some o->A (j+1)=(A j).put o.dst (vs j)/\∀m∈rng.getD j [],lQ P o (A j).eval (W m) (vs j) (W (pJ dw j m)))
 {listed:Array Bool}{a:Act}{w:World}(hM:WO R dw W vs a0 listed a w){i:Nat}(hi:i∈Region.ready .any R listed):
 wpOp P R Q i (fun a' w'=>WO R dw W vs a0 (listed.setIfInBounds i true) a' w') a w:=by
 obtain⟨hun,o,ho,Dw⟩:=mem_ready.1 hi;have hlt:i<R.size:=(aE.1 ho).1
 have hls:i<listed.size:=by rw[hM.size];exact hlt
 have uH:listed.getD i false=false:=by simp[hls] at hun ⊢;exact hun
 have hset:(listed.setIfInBounds i true).getD i false=true:=by simp[hls]
 have BL:∀j x k,R[j]? =some x->listed.getD j false=true->((masks R.toList []).getD j 0).testBit k=true->listed.getD k false=true:=fun j x k hx hE hb=>
  zL (fun k=>listed.getD k false=true) hM.closed hok.edge j x hx (fun e he hb=>hM.closed j x e hx hE he hb) k hb
 have wH:∀k,((masks R.toList []).getD i 0).testBit k=true->listed.getD k false=true:=fun k hb=>
  zL (fun k=>listed.getD k false=true) hM.closed hok.edge i o ho (fun e he hb=>Dw e he hb) k hb
 obtain⟨m,hm,hmk,rfl⟩:=hM.wld;obtain⟨c1,c2,c3,c4⟩:=QH hok hN MI (fun j o h=>(hA j o h).1) i (by omega)
 have hev:∀x∈o.op.operands,a.eval x=(A i).eval x:=by
  intro x hx
  cases x with
  |tmp t=>
   have Iu:t∈o.looksAt R:=CF hx rfl;show a.tmps.getD t undef=(A i).tmps.getD t undef;by_cases hw:∃(j:Nat) (y:Oper),j<i/\R[j]? =some y/\y.dst=some t
   ·obtain⟨j,y,hj,hy,hd⟩:=hw;rw[c4 j y t hj hy hd];refine hM.got j y t hy hd (wH j ?_);rcases hok.pair j i y o hj hy ho with h|h
    ·exact h
    ·exact absurd Iu ((Oper.apart_spec h).1 t hd)
   ·rw[c3 t fun j y hj hy hd=>hw ⟨j,y,hj,hy,hd⟩];refine hM.old t fun j y hy hd=> ?_
    cases hl:listed.getD j false with
    |false=>rfl
    |true=>
     exfalso;rcases em j i with h|h|h
     ·exact hw ⟨j,y,h,hy,hd⟩
     ·subst h;rw[uH] at hl;cases hl
     ·rcases hok.pair i j o y h ho hy with k|k
      ·rw[BL j y i hy hl k] at uH;cases uH
      ·exact(Oper.apart_spec k).2.2 t hd Iu
  |_=>rfl
 have aj3:m∈rng.getD i []:=by
  refine hok.rng i m hlt hm ?_;unfold WM;refine aS.2 fun k hk=> ?_;have hk:=bP.1 hk
  cases q:m.testBit k with
  |false=>
   rw[if_neg (by decide)]
   cases hb:((masks R.toList []).getD i 0).testBit (dw.getD k 0) with
   |false=>rfl
   |true=>
    have:=(hmk k hk).1 (wH _ hb);rw[q] at this;cases this
  |true=>
   rw[if_pos rfl];have hl:=(hmk k hk).2 q;have he:R[dw.getD k 0]? =some (R[dw.getD k 0]'(hok.ac4 k hk)):=cd (hok.ac4 k hk);rw[af,af];refine⟨⟨?_,?_⟩,aS.2 fun k' hk'=> ?_⟩
   ·cases hb:((masks R.toList []).getD (dw.getD k 0) 0).testBit i with
    |false=>rfl
    |true=>rw[BL _ _ i he hl hb] at uH;cases uH
   ·rw[bne_iff_ne];intro e;rw[e,uH] at hl;cases hl
   ·cases hb:((masks R.toList []).getD (dw.getD k 0) 0).testBit (dw.getD k' 0) with
    |false=>rfl
    |true=>exact(hmk k' (bP.1 hk')).1 (BL _ _ _ he hl hb)
 have hdo:=(hA i o ho).2 m aj3;unfold lQ at hdo;rw[<-execOp_congr o (hok.aiJ i o ho) hev] at hdo;unfold wpOp;simp only[ho];rw[if_pos (by simp[Region.wanted,hok.guard i o ho])];refine .inl (lQ.wp hdo ?_);refine⟨by simpa using hM.size,fun j x e hx hE he hb=> ?_,?_,by rw[put_defers];exact hM.defs,by rw[QF];exact hM.WQ,fun j y t hy hd hl=> ?_,fun t ht=> ?_⟩
 ·by_cases hji:j=i
  ·subst hji;rw[ho] at hx;cases hx;exact getD_set_true (Dw e he hb)
  ·rw[getD_set_ne false (Ne.symm hji)] at hE;exact getD_set_true (hM.closed j x e hx hE he hb)
 ·by_cases hie:i∈dw
  ·obtain⟨k,hk,rfl⟩:∃k,k<dw.length/\dw.getD k 0=i:=by
    obtain⟨k,hk,e⟩:=cJ hie;exact⟨k,hk,by simp[hk,e]⟩
   have hix:dw.idxOf (dw.getD k 0)=k:=by
    have h1:dw.idxOf (dw.getD k 0)<dw.length:=List.idxOf_lt_length_iff.2 hie
    have h2:dw.getD (dw.idxOf (dw.getD k 0)) 0=dw.getD k 0:=by
     rw[cr,al h1,cN];exact List.getElem_idxOf h1
    rcases em (dw.idxOf (dw.getD k 0)) k with h|h|h
    ·exact absurd h2 (hok.apart _ k h hk)
    ·exact h
    ·exact absurd h2.symm (hok.apart k _ h h1)
   refine⟨m ||| 2^k,Nat.or_lt_two_pow hm (Nat.pow_lt_pow_right (by decide) hk),fun k' hk'=> ?_,?_⟩
   ·rw[Nat.testBit_or,Nat.testBit_two_pow];by_cases e:k'=k
    ·subst e;rw[hset,decide_eq_true rfl,Bool.or_true]
    ·have hne:dw.getD k 0≠dw.getD k' 0:=by
      rcases em k k' with h|h|h
      ·exact hok.apart k k' h hk'
      ·exact absurd h.symm e
      ·exact(hok.apart k' k h hk).symm
     rw[getD_set_ne false hne,hmk k' hk'];simp[Ne.symm e]
   ·unfold pJ;rw[if_pos (by simpa using hie),hix]
  ·refine⟨m,hm,fun k hk=> ?_,by unfold pJ;rw[if_neg (by simpa using hie)]⟩;have hne:i≠dw.getD k 0:=fun e=>hie (by rw[e];simp[hk]);rw[getD_set_ne false hne];exact hmk k hk
 ·by_cases hji:j=i
  ·subst hji;rw[ho] at hy;cases hy;rw[hd,QG (by rw[hM.WQ,hN];exact hok.dst _ _ ho _ hd)]
  ·rw[getD_set_ne false (Ne.symm hji)] at hl;rw[qO fun q=>hji (hok.one j i _ _ t hy ho hd q)];exact hM.got j y t hy hd hl
 ·have hne:o.dst≠some t:=fun q=>by
   have:=ht i o ho q;rw[hset] at this;cases this
  rw[qO hne];refine hM.old t fun j y hy hd=> ?_;have:=ht j y hy hd;by_cases hji:j=i
  ·subst hji;exact uH
  ·rw[getD_set_ne false (Ne.symm hji)] at this;exact this
theorem ac6{Q:Exit->Act->World->Prop}(hok:Ny R N dw rng){a0:Act}(hN:a0.tmps.size=N)(MI:A 0=a0)
 (hA:∀j o,R[j]? =some o->A (j+1)=(A j).put o.dst (vs j)/\∀m∈rng.getD j [],lQ P o (A j).eval (W m) (vs j) (W (pJ dw j m)))
 (hQ:Q .normal (A R.size) (W (2^dw.length-1))):
 ∀(fuel:Nat)(listed:Array Bool)(a:Act)(w:World),(List.range R.size).countP (fun i=> !listed.getD i false)<=fuel->WO R dw W vs a0 listed a w->wpAny P .any R Q fuel listed a w:=by
 have hend:∀listed a w,WO R dw W vs a0 listed a w->Region.ready .any R listed=[]->Q .normal a w:=by
  intro listed a w hM hr
  have hall:∀i,i<R.size->listed.getD i false=true:=by
   intro i
   induction i using Nat.strongRecOn with
   |_ i ih=>
    intro hi
    cases hE:listed.getD i false with
    |true=>rfl
    |false=>
     exfalso;have ho:R[i]? =some R[i]:=cd hi
     have:i∈Region.ready .any R listed:=by
      rw[mem_ready]
      have hs:i<listed.size:=by rw[hM.size];exact hi
      refine⟨by simp[hs] at hE ⊢;exact hE,_,ho,fun e he hb=> ?_⟩;have hon:=hok.edge i _ e ho he hb;exact ih e.on hon (by omega)
     rw[hr] at this;simp at this
  obtain⟨m,hm,hmk,rfl⟩:=hM.wld;obtain⟨c1,c2,c3,c4⟩:=QH hok hN MI (fun j o h=>(hA j o h).1) R.size (ax _)
  have hme:m=2^dw.length-1:=by
   refine Nat.eq_of_testBit_eq fun k=> ?_;rw[Nat.testBit_two_pow_sub_one];by_cases q:k<dw.length
   ·rw[(hmk k q).1 (hall _ (hok.ac4 k q)),decide_eq_true q]
   ·rw[decide_eq_false q];exact Nat.testBit_lt_two_pow (cP hm (Nat.pow_le_pow_right (by decide) (by omega)))
  subst hme
  have hae:a=A R.size:=by
   have hg:∀t,a.tmps.getD t undef=(A R.size).tmps.getD t undef:=by
    intro t;by_cases hw:∃(j:Nat) (y:Oper),R[j]? =some y/\y.dst=some t
    ·obtain⟨j,y,hy,hd⟩:=hw;have hj:=(aE.1 hy).1;rw[c4 j y t hj hy hd];exact hM.got j y t hy hd (hall j hj)
    ·rw[c3 t fun j y _ hy hd=>hw ⟨j,y,hy,hd⟩];exact hM.old t fun j y hy hd=>absurd ⟨j,y,hy,hd⟩ hw
   have hs:a.tmps.size=(A R.size).tmps.size:=by rw[hM.WQ,hN,c1]
   have ht:a.tmps=(A R.size).tmps:=by
    refine Array.ext hs fun t h1 h2=> ?_;have:=hg t;simpa [h1,h2] using this
   have hd:a.defers=(A R.size).defers:=hM.defs.trans c2.symm;obtain⟨QI,ad1⟩:=a
   generalize A R.size=b at *
   obtain⟨bt,bd⟩:=b;simp only at ht hd;rw[ht,hd]
  rw[hae];exact hQ
 intro fuel
 induction fuel with
 |zero=>
  intro listed a w hc hM
  have hnone:Region.ready .any R listed=[]:=by
   cases hr:Region.ready .any R listed with
   |nil=>rfl
   |cons i l=>
    exfalso
    have hi:i∈Region.ready .any R listed:=by rw[hr];simp
    obtain⟨hun,o,ho,_⟩:=mem_ready.1 hi;have hlt:=(aE.1 ho).1
    have hs:i<listed.size:=by rw[hM.size];exact hlt
    have hz:(List.range R.size).countP (fun i=> !listed.getD i false)=0:=by omega
    rw[List.countP_eq_zero] at hz;have:=hz i (bP.2 hlt);simp[hs] at hun this;rw[hun] at this;cases this
  exact⟨hnone,hend listed a w hM hnone⟩
 |succ fuel ih=>
  intro listed a w hc hM;refine⟨hend listed a w hM,fun i hi=> ?_⟩;refine wpOp_mono (fun a' w' hM'=>ih _ a' w' ?_ hM') (Z0 hok hN MI hA hM hi);obtain⟨hun,o,ho,_⟩:=mem_ready.1 hi;have hlt:=(aE.1 ho).1
  have hs:i<listed.size:=by rw[hM.size];exact hlt
  have:=cnt_lt (fun j=> !listed.getD j false) (fun j=> !(listed.setIfInBounds i true).getD j false) (List.range R.size) i (fun x hx=>by
   by_cases e:x=i
   ·subst e;simp[hs] at hx
   ·rw[getD_set_ne false (Ne.symm e)] at hx;exact hx) (bP.2 hlt) (by simp[hs] at hun ⊢;exact hun) (by simp[hs])
  omega
end
theorem Cw{P:Program}{id:Nat}{Q:Exit->Act->World->Prop}{a:Act}{w:World}{l:List Oper}(N:Nat)(dw:List Nat)(rng:List (List Nat))(W:Nat->World)(hm:P.follows .mixedOrders=true)(hB:ac3 l.toArray N dw rng=true)
 (hN:a.tmps.size=N)(h0:W 0=w.drew)(h:bE P dw W (fun a'=>Q .normal a' (W (2^dw.length-1))) l rng 0 a):(Code.region id l.toArray true).wp P Q a w:=by
 refine wp_region_any hm ?_;have hok:=ac5 hB;obtain⟨vs,A,k0,k1,k2⟩:=TN l rng 0 a h;refine ac6 (W:=W) (vs:=vs) (A:=A) hok hN k0 (fun j o hj=> ?_) (by simpa using k2) _ _ _ _ ?_ ⟨by simp,fun i o e _ hl=> ?_,⟨0,Nat.two_pow_pos _,fun k hk=> ?_,h0.symm⟩,rfl,rfl,fun j o t _ _ hl=> ?_,fun t _=>rfl⟩
 ·have:=k1 j o (by simpa using hj);rw[cL] at this;exact this
 ·exact cp List.countP_le_length (by simp)
 ·rw[getD_replicate_false] at hl;cases hl
 ·rw[getD_replicate_false];simp
 ·rw[getD_replicate_false] at hl;cases hl
theorem G8{P:Program}{Q:Exit->Act->World->Prop}{a:Act}{w:World}{c:Code}(h:∀W,W=w->c.wp P Q a W):c.wp P Q a w:=h w rfl
section
variable {P:Program} {dw:List Nat} {W:Nat->World} {K:Act->Prop} {o:Oper} {l:List Oper} {rs:List (List Nat)} {i:Nat} {a:Act}
theorem bE.step(v:Value){r:List Nat}(h:∀m∈r,lQ P o a.eval (W m) v (W (pJ dw i m)))(hk:bE P dw W K l rs (i+1) (a.put o.dst v)):bE P dw W K (o::l) (r::rs) i a:=⟨v,h,hk⟩
theorem ac7{m:Nat}(he:dw.contains i=false):pJ dw i m=m:=by unfold pJ;rw[he];rfl
theorem bE.done(h:K a):bE P dw W K [] rs i a:=h
theorem bE.any(v:Value){r:List Nat}(he:dw.contains i=false)(h:∀w,lQ P o a.eval w v w)(hk:bE P dw W K l rs (i+1) (a.put o.dst v)):bE P dw W K (o::l) (r::rs) i a:=
 ⟨v,fun m _=>by rw[ac7 he];exact h _,hk⟩
theorem bE.QI(v:Value){m:Nat}{w w':World}(hw:W m=w)(hw':W (pJ dw i m)=w')(h:lQ P o a.eval w v w')(hk:bE P dw W K l rs (i+1) (a.put o.dst v)):bE P dw W K (o::l) ([m]::rs) i a:=
 ⟨v,fun k hk=>by
   have:k=m:=by simpa using hk
   subst this;rw[hw,hw'];exact h,hk⟩
theorem bE.at2(v:Value){m n:Nat}{w w' u u':World}(hw:W m=w)(hw':W (pJ dw i m)=w')(hu:W n=u)(hu':W (pJ dw i n)=u')(h:lQ P o a.eval w v w')(h2:lQ P o a.eval u v u')(hk:bE P dw W K l rs (i+1) (a.put o.dst v)):
 bE P dw W K (o::l) ([m,n]::rs) i a:=
 ⟨v,fun k hk=>by
   have:k=m\/k=n:=by simpa using hk
   rcases this with rfl|rfl
   ·rw[hw,hw'];exact h
   ·rw[hu,hu'];exact h2,hk⟩
theorem zD{ρ:Operand->Value}{w w':World}{v:Value}(h:(execOp ρ o).run P w=.ok (.value v) w'):lQ P o ρ w v w':=.inl h
theorem uf{ρ:Operand->Value}{w w':World}(h:(execOp ρ o).run P w=.ok .skip w'):lQ P o ρ w undef w':=.inr ⟨h,rfl⟩
theorem Ay{ρ:Operand->Value}{w w':World}{s x:Operand}{t:TypeId}{v u r:Value}(ho:o.op=.call {callee:=.builtin .append,args:= #[s,x],argTypes:= #[t,t]})(hs:ρ s=v)(hx:ρ x=u)
 (hr:(Builtin.append_ #[t,t] o.type #[v,u]).run P w=.ok r w'):lQ P o ρ w r w':=by
 left;unfold execOp;simp only[ho,resolve,invoke,builtin,Sem.run_bind,Sem.run_pure,Result.andThen_ok,List.map_toArray,ag,az,hs,hx,hr]
theorem bE.anyS(v:Value){r:List Nat}(hk:bE P dw W K l rs (i+1) (a.put o.dst v))(he:dw.contains i=false:=by rfl)(h:∀w,lQ P o a.eval w v w:=by intro w;exact zD (by go_simp)):bE P dw W K (o::l) (r::rs) i a:=bE.any v he h hk
theorem bE.WR(v:Value){m:Nat}{w w':World}(hw:W m=w)(hw':W (pJ dw i m)=w')(hk:bE P dw W K l rs (i+1) (a.put o.dst v))(h:lQ P o a.eval w v w':=by exact zD (by go_simp)):bE P dw W K (o::l) ([m]::rs) i a:=bE.QI v hw hw' h hk
theorem bE.WS(v:Value){m n:Nat}{w w' u u':World}(hw:W m=w)(hw':W (pJ dw i m)=w')(hu:W n=u)(hu':W (pJ dw i n)=u')(hk:bE P dw W K l rs (i+1) (a.put o.dst v))(h:lQ P o a.eval w v w':=by exact zD (by go_simp))(h2:lQ P o a.eval u v u':=by exact zD (by go_simp)):
 bE P dw W K (o::l) ([m,n]::rs) i a:=bE.at2 v hw hw' hu hu' h h2 hk
end
def fH(l:List UInt8)(rows:List (List ah))(c:Nat):Option (List (List ah)):=runT (lex l) rows c
theorem Ka(s:List UInt8):fH s [[]] 0=sK (s.length+1) s [[]] 0:=(sM _ _ _ _ (br _)).symm
theorem ac8(rows:List (List ah))(c:Nat):fH [] rows c=some rows:=by unfold fH;rw[lex_nil rfl,runT]
theorem WU{b:UInt8}{u:List UInt8}(h:lC b=true)(rows:List (List ah))(c:Nat):fH (b::u) rows c=fH u rows c:=by
 unfold fH;rw[<-sJ (b::u),Co h,sJ]
theorem afA(u:List UInt8)(rows:List (List ah))(c:Nat):fH (40::u) rows c=if 15<rows.length+1\/1800<c+1 then none else fH u ([]::rows) (c+1):=by
 unfold fH;rw[jM (oq (by decide)),if_neg (by decide),if_pos rfl,runT]
theorem afB(u:List UInt8)(x y:List ah)(z:List (List ah))(c:Nat):fH (41::u) (x::y::z) c=if 1800<c+1 then none else fH u ((y++[dh x])::z) (c+1):=by
 unfold fH;rw[jM (oq (by decide)),if_neg (by decide),if_neg (by decide),if_pos rfl,runT]
theorem ac9(u:List UInt8)(x:List ah)(c:Nat):fH (41::u) [x] c=none:=by
 unfold fH;rw[jM (oq (by decide)),if_neg (by decide),if_neg (by decide),if_pos rfl];simp[runT]
theorem afC{b:UInt8}(u:List UInt8)(x:List ah)(z:List (List ah))(c:Nat)(h:aY b=true):fH (b::u) (x::z) c=if 1800<c+1 then none else fH (u.dropWhile aY) ((x++[aM (b::u.takeWhile aY)])::z) (c+1):=by
 unfold fH;rw[jM (oq (Ep h).1),if_pos h,runT]
theorem ada{b:UInt8}(u:List UInt8)(rows:List (List ah))(c:Nat)(h1:lC b=false)(h2:b≠40)(h3:b≠41)(h4:aY b=false):fH (b::u) rows c=none:=by
 unfold fH;rw[jM (oq h1),if_neg (by rw[h4];decide),if_neg h2,if_neg h3];cases rows<;>simp[runT]
theorem Z4{s u:List UInt8}{b:UInt8}{i e:Nat}(x:List ah)(z:List (List ah))(c:Nat)(hd:s.drop i=b::u)(hb:aY b=true)(hie:i<e)(hall:∀a∈(s.drop i).take (e-i),aY a=true)
 (hstop:e=s.length\/∃a,s[e]? =some a/\aY a=false):fH (b::u) (x::z) c=if 1800<c+1 then none else fH (s.drop e) ((x++[aM ((s.take e).drop i)])::z) (c+1):=by
 have hw:=J9 (p:=aY) (e-i) (s.drop i) hall (by
  rcases hstop with h|⟨a,h1,h2⟩
  ·left;rw[bj,h]
  ·right;exact⟨a,by rw[cI,show i+(e-i)=e by omega];exact h1,h2⟩)
 rw[List.drop_drop,show i+(e-i)=e by omega,<-List.drop_take] at hw;rw[afC u x z c hb,<-hw.1,<-hw.2,hd];simp[List.takeWhile,List.dropWhile,hb]
def EF:List (List ah)->Nat
 |[]=>0
 |l::r=>l.length+dD l+EF r
structure aiK(s:List UInt8)(B R:Nat)(w0:World)(σ0:Nat->Nat)(T eo e:TypeId)(k:Nat)(v4 v5 v6:Value)(w:World):Prop where
 ex:∃(rows:List (List ah)) (σ:Nat->Nat) (i c g cap:Nat) (hs:List Value),v4=.slice (some ⟨g,0,none⟩) rows.length cap/\v5=.int .i64 c/\v6=.int .i64 i/\
  hs.length=rows.length/\1<=rows.length/\rows.length<=15/\c<=1800/\i+k=s.length/\fH (s.drop i) rows c=fH s [[]] 0/\
  gZ w σ B eo e v4 hs rows.reverse/\Grow w0 σ0 w σ/\iU w σ/\(∀l∈rows,l.length<=c)/\EF rows<=2*i/\σ R=0/\w.heap[R]? =some (.cells #[.string ⟨#[]⟩,.slice none 0 0] T (0,0))
theorem aj4(w:World)(σ:Nat->Nat)(hl:∀b,b<w.heap.size\/σ b=0)(T eo e:TypeId):
 gZ ((w.alloc (.cells #[.string ⟨#[]⟩,.slice none 0 0] T)).alloc (.cells #[.slice none 0 0] eo)) σ (w.heap.size+1) eo e (.slice (some ⟨w.heap.size+1,0,none⟩) 1 1) [.slice none 0 0] [[]]:=by
 have hz:(w.alloc (.cells #[.string ⟨#[]⟩,.slice none 0 0] T)).heap.size=w.heap.size+1:=by simp
 refine⟨⟨rfl,.inr ⟨w.heap.size+1,1,#[.slice none 0 0],rfl,ax _,?_,ax _,by decide,rfl,rfl⟩⟩,fun b hb=> ?_,fun j l hj=> ?_,fun i j hi hj b hne h1 h2=> ?_⟩
 ·rw[<-hz];exact heap_alloc_new _ _
 ·cases hb;rcases hl (w.heap.size+1) with h|h
  ·omega
  ·exact h
 ·match j,hj with
  |0,hj=>
   cases hj;exact⟨_,rfl,⟨⟨[],⟨rfl,.inl ⟨rfl,rfl⟩⟩,fun i d hd=>by cases hd⟩,fun b hb=>by cases hb⟩,fun b hb=>by cases hb⟩
  |j+1,hj=>cases hj
 ·simp only[aa,aq] at h1 h2;omega
theorem vZ{w:World}{σ:Nat->Nat}(hl:∀b,b<w.heap.size\/σ b=0)(o:Go.Obj):Grow w σ (w.alloc o) σ:=
 ⟨by simp,rfl,rfl,fun b hb=>⟨Lib.alloc_old w o b hb,rfl⟩,fun b=>(hl b).elim (fun h=>.inl (by simp;omega)) .inr⟩
theorem K5{s:List UInt8}{i:Nat}(h:i<s.length):i<(⟨s.toArray⟩:ByteArray).size:=by simpa [ByteArray.size] using h
theorem byte_at{s:List UInt8}{i:Nat}(h:i<s.length):(⟨s.toArray⟩:ByteArray)[i]'(K5 h)=s[i]:=by
 show s.toArray[i]'_=_
 simp
theorem EG(g j:Nat):(⟨g,0,none⟩:Addr).add j=⟨g,j,none⟩:=by unfold Addr.add;split<;>simp_all
theorem rC{w:World}{σ:Nat->Nat}{B g cap n:Nat}{eo e:TypeId}{hs:List Value}{rs:List (List ah)}(h:gZ w σ B eo e (.slice (some ⟨g,0,none⟩) n cap) hs rs){j:Nat}{u:Value}(hj:hs[j]? =some u):w.cell? ⟨g,j,none⟩=some u:=by
 have:=h.own.cells (g:=g) rfl j u hj
 rwa [EG] at this
theorem Cx{w:World}{σ:Nat->Nat}{B:Nat}{e:TypeId}{v:Value}{l:List ah}(h:xD w σ B e v l):
 ∃a cap,v=.slice a l.length cap/\∀i (hi:i<l.length),∃g u,a=some ⟨g,0,none⟩/\w.cell? ⟨g,i*2,none⟩=some (.string ⟨l[i].aI.toArray⟩)/\w.cell? ⟨g,i*2+1,none⟩=some u/\bn w σ (.sl (l[i].ak.map ah.enc)) u:=by
 obtain⟨⟨xs,ho,hx⟩,hf⟩:=h
 obtain⟨a,cap,rfl⟩:∃a cap,v=.slice a l.length cap:=by
  rcases ho.2 with⟨rfl,h0⟩|⟨g,cap,cur,rfl,_⟩
  ·exact⟨none,0,by rw[h0]⟩
  ·exact⟨_,_,rfl⟩
 refine⟨a,cap,rfl,fun i hi=> ?_⟩;rcases ho.2 with⟨h1,h0⟩|⟨g,cap0,cur,h1,_⟩
 ·omega
 ·cases h1;have hl:∀y∈l.map ah.enc,y.length=2:=zA l
  have e1:(l.map ah.enc)[i]'(by simpa using hi)=[.s l[i].aI,.sl (l[i].ak.map ah.enc)]:=by rw[cj,ah.aB];first|rfl|done
  have hg:∀o (hoo:o<2),(l.map ah.enc).flatten[i*2+o]? =([.s l[i].aI,.sl (l[i].ak.map ah.enc)]:List D)[o]? :=fun o hoo=>by
   rw[flat_get _ 2 hl i o (by simpa using hi) hoo,e1]
  obtain⟨u0,k0,r0⟩:=hx (i*2+0) _ (hg 0 (by omega));obtain⟨u1,k1,r1⟩:=hx (i*2+1) _ (hg 1 (by omega));have c0:=ho.cells (g:=g) rfl _ _ k0;have c1:=ho.cells (g:=g) rfl _ _ k1;rw[EG] at c0 c1;refine⟨g,u1,rfl,?_,c1,r1⟩;cases r0;exact c0
def WV(s:List UInt8)(w:World)(σ:Nat->Nat)(e:Ending)(w':World):Prop:=
 ∃lv σ',e=.returned (.tuple #[.agg #[.string ⟨(kC s).aI.toArray⟩,lv],.bool (lK s)])/\bn w' σ' (.sl ((kC s).ak.map ah.enc)) lv/\Grow w σ w' σ'/\iU w' σ'
theorem Kc{s:List UInt8}{w W:World}{σ σ1:Nat->Nat}(h:∀x,sK (s.length+1) s [[]] 0=some [[x]]->dJ x=false)(hg:Grow w σ W σ1)(hl:iU W σ1):
 WV s w σ (.returned (.tuple #[.agg #[.string ⟨#[]⟩,.slice none 0 0],.bool false])) W:=by
 have hno:∀x,¬Denotes s x:=fun x hx=>by
  have h1:=h x (vX hx);have h2:=hx.1;rw[h1] at h2;cases h2
 obtain⟨h1,h2⟩:=acO hno;refine⟨.slice none 0 0,σ1,?_,?_,hg,hl⟩
 ·rw[h1,h2];rfl
 ·rw[h2];exact .nil _ _
theorem sQ{s:List UInt8}{w W:World}{σ σ1:Nat->Nat}(h:fH s [[]] 0=none)(hg:Grow w σ W σ1)(hl:iU W σ1):
 WV s w σ (.returned (.tuple #[.agg #[.string ⟨#[]⟩,.slice none 0 0],.bool false])) W:=
 Kc (fun x hx=>by rw[<-Ka,h] at hx;cases hx) hg hl
theorem afD{s:List UInt8}{w W:World}{σ σ1:Nat->Nat}{x:ah}{lv:Value}(h:sK (s.length+1) s [[]] 0=some [[x]])(hv:dJ x=true)(hr:bn W σ1 (.sl (x.ak.map ah.enc)) lv)(hg:Grow w σ W σ1)(hl:iU W σ1):
 WV s w σ (.returned (.tuple #[.agg #[.string ⟨x.aI.toArray⟩,lv],.bool true])) W:=by
 have h1:=(Es s).1.1 ⟨x,h,hv⟩;have h2:=(Es s).2 x h hv;exact⟨lv,σ1,by rw[h1,h2],by rw[h2];exact hr,hg,hl⟩
theorem Z5{w wa w1:World}{σ σ1:Nat->Nat}{g:Nat}(hg:Grow w σ wa σ1)(hsz:wa.heap.size<=w1.heap.size)(hos:w1.os=wa.os)(hout:w1.output=wa.output)(hold:∀b,b<wa.heap.size->b≠g->w1.heap[b]? =wa.heap[b]?)(hgB:w.heap.size<=g):Grow w σ w1 σ1:=
 ⟨cp hg.size hsz,hos.trans hg.os,hout.trans hg.output,fun b hb=>⟨(hold b (cP hb hg.size) (by omega)).trans (hg.old b hb).1,(hg.old b hb).2⟩,fun b=>(hg.live b).elim (fun h=>.inl (cP h hsz)) .inr⟩
theorem EH{w w':World}{σ σ':Nat->Nat}(hg:Grow w σ w' σ'){b j:Nat}{u:Value}(h:w.cell? ⟨b,j,none⟩=some u):w'.cell? ⟨b,j,none⟩=some u:=by
 cases hb:w.heap[b]? with
 |none=>simp[World.cell?,hb] at h
 |some o=>
  have:=(hg.old b (lt_of_some hb)).1;simp only[World.cell?,this] at h ⊢;exact h
theorem ahd{w:World}{σ:Nat->Nat}(b:UInt8):jX w σ [] [] [.c (.d (.i .u8 b.toNat))] [.int .u8 b.toNat]:=by
 refine⟨rfl,fun j y hy=> ?_⟩
 match j,hy with
 |0,hy=>
  simp at hy;subst hy;exact⟨_,rfl,.i _ _,rfl⟩
theorem aj5{w:World}{σ:Nat->Nat}{x:ah}{la:Option Addr}{ln lc:Nat}(h:bn w σ (.sl (x.ak.map ah.enc)) (.slice la ln lc)):jX w σ [] [] [x.v] [.agg #[.string ⟨x.aI.toArray⟩,.slice la ln lc]]:=by
 refine⟨rfl,fun j y hy=> ?_⟩
 match j,hy with
 |0,hy=>
  simp at hy;subst hy;refine⟨_,rfl,?_⟩;rw[<-ah.ny,ah.aB];refine⟨_,rfl,rfl,fun j y hy=> ?_⟩
  match j,hy with
  |0,hy=>simp at hy;subst hy;exact⟨_,rfl,.s _,rfl⟩
  |1,hy=>simp at hy;subst hy;exact⟨_,rfl,h,rfl⟩
theorem lD{w:World}{R:Nat}{a b x y:Value}{T:TypeId}{fr:Nat×Nat}(h:w.heap[R]? =some (.cells #[a,b] T fr)):((w.setCell ⟨R,0,none⟩ x).setCell ⟨R,1,none⟩ y).heap[R]? =some (.cells #[x,y] T fr):=by
 simp[World.setCell,cU,h]
theorem lF{w wr:World}{σ σ1:Nat->Nat}{R:Nat}{x y:Value}(hg:Grow w σ wr σ1)(hl:iU wr σ1)(hR:w.heap.size<=R)(h0:σ1 R=0):
 Grow w σ ((wr.setCell ⟨R,0,none⟩ x).setCell ⟨R,1,none⟩ y) σ1/\iU ((wr.setCell ⟨R,0,none⟩ x).setCell ⟨R,1,none⟩ y) σ1/\bQ wr σ1 ((wr.setCell ⟨R,0,none⟩ x).setCell ⟨R,1,none⟩ y) σ1:=by
 have hs:((wr.setCell ⟨R,0,none⟩ x).setCell ⟨R,1,none⟩ y).heap.size=wr.heap.size:=by simp[World.setCell]
 have ho:∀b,b≠R->((wr.setCell ⟨R,0,none⟩ x).setCell ⟨R,1,none⟩ y).heap[b]? =wr.heap[b]? :=fun b hb=>by
  simp[World.setCell,cU,Ne.symm hb]
 have hn:bQ wr σ1 ((wr.setCell ⟨R,0,none⟩ x).setCell ⟨R,1,none⟩ y) σ1:=FH ((kI.setCell wr _ x rfl).trans (kI.setCell _ _ y rfl)) fun b hb=>ho b fun e=>hb (by rw[e];exact h0);refine⟨⟨by rw[hs];exact hg.size,hg.os,hg.output,fun b hb=>⟨(ho b (by omega)).trans (hg.old b hb).1,(hg.old b hb).2⟩,fun b=>by rw[hs];exact hg.live b⟩,hl.near hn,hn⟩
theorem lG{tmps:Array Value}{W:World}{R:Nat}{a lv:Value}{q:Bool}{post:Ending->World->Prop}(h2:tmps.getD 2 undef=.pointer (some ⟨R,0,none⟩))(h3:tmps.getD 3 undef=.bool q)
 (hW:W.heap[R]? =some (.cells #[a,lv] 37 (0,0)))(hp:post (.returned (.tuple #[.agg #[a,lv],.bool q])) W):bodyPost prog Tryz.f31 post .ret ⟨tmps,[]⟩ W:=by
 have c0:W.cell? ⟨R,0,none⟩=some a:=by rw[Lib.cell_of_heap hW];rfl
 have c1:W.cell? ⟨R,1,none⟩=some lv:=by rw[Lib.cell_of_heap hW];rfl
 refine bodyPost_ret (v:=.tuple #[.agg #[a,lv],.bool q]) ?_ rfl hp;rw[results_cell_tmp rfl,h2,h3]
 go_simp
theorem Z6:(prog.info? 37).map (fun i=>(i.zero,i.size,i.bytes))=some (some (.agg #[.string ⟨#[]⟩,.slice none 0 0]),2,40):=by kernel_rfl
theorem adb:(prog.info? 35).map (fun i=>(i.zero,i.size,i.bytes))=some (some (.slice none 0 0),1,24):=by kernel_rfl
theorem WW(s:List UInt8)(w:World)(σ:Nat->Nat)(hl:∀b,b<w.heap.size\/σ b=0)(hgl:iU w σ)(hs:s.length<=33554432):
 Calls prog 31 #[.string ⟨s.toArray⟩] w (WV s w σ):=by
 go_enter func31,ntmps31
 go_wp2
 go_loopg [4,5,6] s.length (fun k v4 v5 v6 wr=>aiK s (w.heap.size+1) w.heap.size w σ 37 35 37 k v4 v5 v6 wr)
 case atStart=>
  have hg1:=vZ hl (.cells #[.string ⟨#[]⟩,.slice none 0 0] 37);have hg2:=hg1.trans (vZ hg1.live (.cells #[.slice none 0 0] 35));refine⟨[[]],σ,0,0,_,_,[.slice none 0 0],rfl,rfl,rfl,rfl,by decide,by decide,by decide,by omega,rfl,aj4 w σ hl _ _ _,hg2,hgl.near hg2.near,by simp,by simp[EF,dD],(hl w.heap.size).elim (fun h=>by omega) id,?_⟩;rw[Lib.alloc_old _ _ _ (by simp)];exact heap_alloc_new _ _
 case round=>
  obtain⟨rows,σ1,i,c,g,cap,hv,rfl,rfl,rfl,e1,e2,e3,e4,e5,e6,hst,hgr,vJ,hlen,QJ,Bo,hR⟩:=hrel
  have r0:wr.cell? ⟨w.heap.size,0,none⟩=some (.string ⟨#[]⟩):=by rw[Lib.cell_of_heap hR];rfl
  have r1:wr.cell? ⟨w.heap.size,1,none⟩=some (.slice none 0 0):=by rw[Lib.cell_of_heap hR];rfl
  have z0:=Lib.frozen_of_heap hR 0;have z1:=Lib.frozen_of_heap hR 1;have HZ:Aside (wr.heap[w.heap.size]? =some (.cells #[.string ⟨#[]⟩,.slice none 0 0] 37 (0,0))):=hR;clear hR
  cases gk with
  |zero=>
   have hi:i=s.length:=by omega
   subst hi
   have hrun:fH s [[]] 0=some rows:=by rw[<-e6,cH,ac8]
   have HR:Aside (sK (s.length+1) s [[]] 0=some rows):=(Ka s).symm.trans hrun;clear e6 hrun;by_cases h1:rows.length=1
   ·obtain⟨l,rfl⟩:∃l,rows=[l]:=by
     match rows,h1 with
     |[l],_=>exact⟨l,rfl⟩
    obtain⟨h0,rfl⟩:∃h0,hv=[h0]:=by
     match hv,e1 with
     |[h0],_=>exact⟨h0,rfl⟩
    have c0:=rC hst (j:=0) rfl;obtain⟨hv',q1,q2,_⟩:=hst.rows 0 l rfl;cases q1;obtain⟨a0,cap0,rfl,hrow⟩:=Cx q2;clear hst q2 e1;by_cases h2:l.length=1
    ·obtain⟨x,rfl⟩:∃x,l=[x]:=by
      match l,h2 with
      |[x],_=>exact⟨x,rfl⟩
     obtain⟨g1,lv,rfl,d0,d1,hlv⟩:=hrow 0 (by simp);clear hrow;simp only[List.getElem_cons_zero,Nat.zero_mul,cL] at d0 d1 hlv
     simp only[aa,aq,cL] at *
     have hxs:x.sz<=67108864:=by simp only[EF,dD,aa,aq] at QJ;omega
     obtain⟨la,ln,lc,rfl⟩:=ZX hlv;have hc:=yw (pU x hxs) hgr.live vJ (aj5 hlv)
     have hc:Calls prog 38 #[.agg #[.string ⟨x.aI.toArray⟩,.slice la ln lc]] wr fun e w'=>e=.returned (.bool (dJ x))/\∃σ',Grow wr σ1 w' σ'/\iU w' σ':=
      hc.mono fun e w' ⟨v,σ',he,rH,hg,hgl⟩=>by
       obtain rfl:v=.bool (dJ x):=by cases rH.1;rfl
       exact⟨he,σ',hg,hgl⟩
     have HL:Aside (bn wr σ1 (.sl (x.ak.map ah.enc)) (.slice la ln lc)):=hlv;clear hlv hlen QJ;have rR:w.heap.size<wr.heap.size:=lt_of_some HZ.out;by_cases uR:dJ x=true
     ·rw[uR] at hc;have HV:Aside (dJ x=true):=uR;clear uR
      go_wp2_with (go_at_call 38;refine hc.mono ?_)
      rintro e w1 ⟨rfl,σ2,hg2,G9⟩;have c0':=EH hg2 c0;have d0':=EH hg2 d0;have d1':=EH hg2 d1;have hR':=(hg2.old _ rR).1.trans HZ.out
      have r0':w1.cell? ⟨w.heap.size,0,none⟩=some (.string ⟨#[]⟩):=by rw[Lib.cell_of_heap hR'];rfl
      have r1':w1.cell? ⟨w.heap.size,1,none⟩=some (.slice none 0 0):=by rw[Lib.cell_of_heap hR'];rfl
      have TP:=Lib.frozen_of_heap hR' 0;have z1':=Lib.frozen_of_heap hR' 1;have uX:Aside (w1.heap[w.heap.size]? =some (.cells #[.string ⟨#[]⟩,.slice none 0 0] 37 (0,0))):=hR';clear hR' c0 d0 d1 r0 r1 z0 z1
      go_wp2
      have hG:=lF (x:=.string ⟨x.aI.toArray⟩) (y:=.slice la ln lc) (hgr.trans hg2) G9 (ax _) (((hg2.old _ rR).2).trans Bo);exact lG (R:=w.heap.size) rfl rfl (lD uX.out) (afD HR.out HV.out ((HL.out.mono hg2.near).mono hG.2.2) hG.1 hG.2.1)
     ·have uR:dJ x=false:=by simpa using uR
      rw[uR] at hc;have HV:Aside (dJ x=false):=uR;clear uR
      go_wp2_with (go_at_call 38;refine hc.mono ?_)
      rintro e w1 ⟨rfl,σ2,hg2,G9⟩;have hR':=(hg2.old _ rR).1.trans HZ.out
      have r0':w1.cell? ⟨w.heap.size,0,none⟩=some (.string ⟨#[]⟩):=by rw[Lib.cell_of_heap hR'];rfl
      have r1':w1.cell? ⟨w.heap.size,1,none⟩=some (.slice none 0 0):=by rw[Lib.cell_of_heap hR'];rfl
      have TP:=Lib.frozen_of_heap hR' 0;have z1':=Lib.frozen_of_heap hR' 1;have uX:Aside (w1.heap[w.heap.size]? =some (.cells #[.string ⟨#[]⟩,.slice none 0 0] 37 (0,0))):=hR';clear hR' c0 d0 d1 r0 r1 z0 z1
      go_wp2
      have hG:=lF (x:=.string ⟨#[]⟩) (y:=.slice none 0 0) (hgr.trans hg2) G9 (ax _) (((hg2.old _ rR).2).trans Bo);refine lG (R:=w.heap.size) rfl rfl (lD uX.out) (Kc (fun y hx=> ?_) hG.1 hG.2.1);have:=HR.out.symm.trans hx;simp only[cb,ed,and_true] at this;rw[<-this];exact HV.out
    ·have h3:¬(l.length:Int)=1:=by omega
     clear hrow
     simp only[aa,aq,cL] at *
     go_wp2
     have hG:=lF (x:=.string ⟨#[]⟩) (y:=.slice none 0 0) hgr vJ (ax _) Bo;refine lG (R:=w.heap.size) rfl rfl (lD HZ.out) (Kc (fun x hx=> ?_) hG.1 hG.2.1);have:=HR.out.symm.trans hx;simp only[cb,ed,and_true] at this;rw[this] at h2;exact absurd rfl h2
   ·have h3:¬(rows.length:Int)=1:=by omega
    clear hst
    go_wp2
    have hG:=lF (x:=.string ⟨#[]⟩) (y:=.slice none 0 0) hgr vJ (ax _) Bo;refine lG (R:=w.heap.size) rfl rfl (lD HZ.out) (Kc (fun x hx=> ?_) hG.1 hG.2.1);have:=HR.out.symm.trans hx;simp only[cb] at this;rw[this] at h1;exact absurd rfl h1
  |succ k=>
   have hi:i<s.length:=by omega
   obtain⟨b,hb⟩:∃b,s[i]=b:=⟨_,rfl⟩
   have hdrop:s.drop i=b::s.drop (i+1):=by rw[bO hi,hb]
   rw[hdrop] at e6;have HA:Aside (fH (b::s.drop (i+1)) rows c=fH s [[]] 0):=e6;have HB:Aside (s[i]=b):=hb;have HD:Aside (s.drop i=b::s.drop (i+1)):=hdrop;have hx:((⟨s.toArray⟩:ByteArray)[i]'(K5 hi)).toNat=b.toNat:=congrArg UInt8.toNat ((byte_at hi).trans hb);clear e6 hb hdrop;by_cases hbl:lC b=true
   ·have HN:Aside (fH (s.drop (i+1)) rows c=fH s [[]] 0):=(WU hbl _ _).symm.trans HA.out
    have h32:b.toNat=32\/b.toNat=10:=by unfold lC at hbl;simpa using hbl
    clear hbl;rcases h32 with h32|h32
    all_goals
     rw[h32] at hx;clear h32
     go_wp2
     go_roundg k
     case measure=>omega
     case rel=>exact⟨rows,σ1,i+1,c,g,cap,hv,rfl,rfl,rfl,e1,e2,e3,e4,by omega,HN.out,hst,hgr,vJ,hlen,by omega,Bo,HZ.out⟩
   have EJ:lC b=false:=by simpa using hbl
   clear hbl;have hgB:w.heap.size+1<=g/\g<wr.heap.size:=hst.own.lt g rfl;have hlr:rows.reverse.length=rows.length:=List.length_reverse;by_cases JK:b=40
   ·subst JK;have HN:Aside ((if 15<rows.length+1\/1800<c+1 then none else fH (s.drop (i+1)) ([]::rows) (c+1))=fH s [[]] 0):=(afA _ _ _).symm.trans HA.out;rw[show(40:UInt8).toNat=40 from rfl] at hx;clear EJ;obtain⟨i0,hi0,hz0,hz1,hz2⟩:=info_parts adb;have hga:=vZ hgr.live (.cells #[.slice none 0 0] 35);have rR:w.heap.size<wr.heap.size:=lt_of_some HZ.out;obtain⟨g',cap',w1,hrun,hst',hnr,hold,hsz,hos,hout⟩:=ac1 (P:=prog) (w0:=w) (σ0:=σ) (ty:=123) underlying123 hi0 hz0 hz1 hz2 (hst.grow hga) e1 hlr (by decide) (by omega) ⟨wr.heap.size,0,none⟩ 1 (by rw[Lib.cell_of_heap (heap_alloc_new wr _)];rfl) (EG _ _) hga.live (by simp;omega);have Bp:w1.heap[w.heap.size]? =some (.cells #[.string ⟨#[]⟩,.slice none 0 0] 37 (0,0)):=(hold _ (by simp;omega) (by omega)).trans ((Lib.alloc_old wr _ _ rR).trans HZ.out);have hG1:=Z5 (hgr.trans hga) hsz hos hout hold (by omega);have hGl:=(vJ.near hga.near).near hnr
    have r0':w1.cell? ⟨w.heap.size,0,none⟩=some (.string ⟨#[]⟩):=by rw[Lib.cell_of_heap Bp];rfl
    have r1':w1.cell? ⟨w.heap.size,1,none⟩=some (.slice none 0 0):=by rw[Lib.cell_of_heap Bp];rfl
    have TP:=Lib.frozen_of_heap Bp 0;have z1':=Lib.frozen_of_heap Bp 1;have uX:Aside (w1.heap[w.heap.size]? =some (.cells #[.string ⟨#[]⟩,.slice none 0 0] 37 (0,0))):=Bp;have HST:Aside (gZ w1 σ1 (w.heap.size+1) 35 37 (.slice (some ⟨g',0,none⟩) (rows.length+1) cap') (hv++[.slice none 0 0]) (rows.reverse++[[]])):=hst';clear hst hst' Bp hold hnr r0 r1 z0 z1 hi0 hz0 hz1 hz2 hsz hos hout hlr;by_cases hl1:15<rows.length+1
    ·have WX:(15:Int)<(rows.length:Int)+1:=by omega
     go_wp2_with (at_builtin;refine Lib.wpList_append_run _ rfl _ _ _ _ rfl _ _ rfl rfl _ _ hrun ?_)
     have hG:=lF (x:=.string ⟨#[]⟩) (y:=.slice none 0 0) hG1 hGl (ax _) Bo;refine lG (R:=w.heap.size) rfl rfl (lD uX.out) (sQ ?_ hG.1 hG.2.1);rw[<-HN.out,if_pos (.inl hl1)]
    ·have WX:¬(15:Int)<(rows.length:Int)+1:=by omega
     by_cases hl2:1800<c+1
     ·have He:(1800:Int)<(c:Int)+1:=by omega
      go_wp2_with (at_builtin;refine Lib.wpList_append_run _ rfl _ _ _ _ rfl _ _ rfl rfl _ _ hrun ?_)
      have hG:=lF (x:=.string ⟨#[]⟩) (y:=.slice none 0 0) hG1 hGl (ax _) Bo;refine lG (R:=w.heap.size) rfl rfl (lD uX.out) (sQ ?_ hG.1 hG.2.1);rw[<-HN.out,if_pos (.inr hl2)]
     ·have He:¬(1800:Int)<(c:Int)+1:=by omega
      have hnx:fH (s.drop (i+1)) ([]::rows) (c+1)=fH s [[]] 0:=by rw[<-HN.out,if_neg (by omega)]
      have QK:Aside (fH (s.drop (i+1)) ([]::rows) (c+1)=fH s [[]] 0):=hnx;clear hnx
      go_wp2_with (at_builtin;refine Lib.wpList_append_run _ rfl _ _ _ _ rfl _ _ rfl rfl _ _ hrun ?_)
      go_roundg k
      case measure=>omega
      case rel=>
       refine⟨[]::rows,σ1,i+1,c+1,g',cap',hv++[.slice none 0 0],rfl,rfl,rfl,by simp[e1],by simp,by simp only[aa];omega,by omega,by omega,QK.out,?_,hG1,hGl,fun l hl=> ?_,by simp only[EF,dD,aq];omega,Bo,uX.out⟩
       ·rw[dk];exact HST.out
       ·rcases cA.1 hl with rfl|hl
        ·simp
        ·have:=hlen l hl;omega
   have aiL:¬b.toNat=32/\¬b.toNat=10/\¬b.toNat=40:=by
    unfold lC at EJ;simp only[cR,decide_eq_false_iff_not] at EJ;exact⟨EJ.1,EJ.2,fun e=>JK (UInt8.toNat_inj.1 e)⟩
   obtain⟨n32,n10,n40⟩:=aiL;by_cases Ml:b=41
   ·subst Ml;rw[show(41:UInt8).toNat=41 from rfl] at hx;clear EJ n32 n10 n40 JK;by_cases h1:rows.length=1
    ·obtain⟨l,rfl⟩:∃l,rows=[l]:=by
      match rows,h1 with
      |[l],_=>exact⟨l,rfl⟩
     have HN:Aside (none=fH s [[]] 0):=(ac9 _ _ _).symm.trans HA.out;clear hst h1 hlen hlr
     simp only[aa,aq,cL] at *
     go_wp2
     have hG:=lF (x:=.string ⟨#[]⟩) (y:=.slice none 0 0) hgr vJ (ax _) Bo;exact lG (R:=w.heap.size) rfl rfl (lD HZ.out) (sQ HN.out.symm hG.1 hG.2.1)
    ·obtain⟨x,y,z,rfl⟩:∃x y z,rows=x::y::z:=by
      match rows,e2,h1 with
      |x::y::z,_,_=>exact⟨x,y,z,rfl⟩
     have HN:Aside ((if 1800<c+1 then none else fH (s.drop (i+1)) ((y++[dh x])::z) (c+1))=fH s [[]] 0):=(afB _ _ _ _ _).symm.trans HA.out;simp only[aa] at e1 e2 e3 h1 hlr;have q0:((z.length:Int)+1==0)=false:=beq_false_of_ne (by omega)
     simp only[aa] at *
     clear h1
     obtain⟨hz,yv,xv,rfl,hzl⟩:∃hz yv xv,hv=hz++[yv,xv]/\hz.length=z.length:=⟨hv.take z.length,hv[z.length]'(by omega),hv[z.length+1]'(by omega),by
      conv=>lhs;rw[<-dC z.length hv]
      rw[bO (by omega),bO (by omega),ee (by omega)],by simp;omega⟩
     have yf:=J8 hst z.length;have yc:=rC hst (j:=z.length) (u:=yv) (by rw[ac (by omega),hzl,cq];rfl);have xc:=rC hst (j:=z.length+1) (u:=xv) (by rw[ac (by omega),hzl,cz];rfl);obtain⟨yv',b1,b2,b3⟩:=hst.rows z.length y (by simp);rw[ac (by omega),hzl,cq] at b1
     obtain rfl:yv=yv':=by simpa using b1
     obtain⟨xv',d1,d2,d3⟩:=hst.rows (z.length+1) x (by simp);rw[ac (by omega),hzl,cz] at d1
     obtain rfl:xv=xv':=by simpa using d1
     obtain⟨ya,rQ,rfl,_⟩:=Cx b2;obtain⟨xa,pK,rfl,_⟩:=Cx d2;obtain⟨yxs,ade,ahg⟩:=b2.own;clear b1 d1
     have i1:(0:Int)<=(z.length:Int):=by omega
     have i2:(z.length:Int)<(z.length:Int)+1+1:=by omega
     have i3:(0:Int)<=(z.length:Int)+1:=by omega
     have i4:(z.length:Int)+1<(z.length:Int)+1+1:=by omega
     have hsub:(z.length:Int)+1-1=(z.length:Int):=by omega
     have hwr:IntKind.i64.wrap ((z.length:Int)+1-1)=(z.length:Int):=by rw[hsub];exact Fg _ (by omega)
     have hwr2:IntKind.i64.wrap (z.length:Int)=(z.length:Int):=Fg _ (by omega);have ED:some g≠(Value.slice ya y.length rQ).ownBlock:=fun e=>b3 g e.symm rfl;obtain⟨iS,hiS,hzS,hsS,hbS⟩:=info_parts Z6
     have hyl:y.length<=1800:=by have:=hlen y (by simp);omega
     have hyb:∀b,(Value.slice ya y.length rQ).ownBlock=some b->b<wr.heap.size:=fun b hb=>(ade.lt b hb).2
     go_wp2
     go_region
     all_goals go_wp2
     all_goals
      refine G8 fun wq hwq=> ?_;obtain⟨o16,hq⟩:∃o,wq=(wr.alloc o).drew:=⟨_,hwq⟩;clear hwq;have hcp:z.length+1+1<=cap:=afy hst
      have hcp1:(z.length:Int)+1<=(cap:Int):=by omega
      have hcp2:(0:Int)<=(z.length:Int)+1:=by omega
      have hga:=ZY (vZ hgr.live o16);rw[<-hq] at hga
      have hqs:wq.heap.size=wr.heap.size+1:=by rw[hq];simp
      clear hq
      have xE:gZ wq σ1 (w.heap.size+1) 35 37 (.slice (some ⟨g,0,none⟩) (z.length+1+1) cap) ((hz++[Value.slice ya y.length rQ])++[Value.slice xa x.length pK]) ((z.reverse++[y])++[x]):=by
       have:=hst.grow hga;simpa using this
      obtain⟨σ2,xv2,f1,f2,f3,f4,f5,f6⟩:=xE.fast hga.live
      obtain rfl:Value.slice xa x.length pK=xv2:=by
       rw[ac (by simp;omega)] at f4;simpa [hzl] using f4
      have rO:=ac2 f6 (by simp;omega) (by simp)
     ·obtain⟨g1,gH,w2,hrun,s1,s2,s3,⟨l9,s4,s5⟩,s6,s7,s8,s9,s10,s11,s12,s13,EK⟩:=zC (P:=prog) (j:=z.length) 35 underlying35 hiS hzS hsS hbS f2 (by omega) rO (by simp;omega) (y:=y) (by simp) (by rw[ac (by omega),hzl,cq];rfl) (by omega) (dh x) (u:=.string ⟨#[]⟩) rfl f5 rfl 37;obtain⟨wa,oh⟩:∃wa,wa=w2.setCell ⟨g,z.length,none⟩ (.slice (some ⟨g1,0,none⟩) (y.length+1) gH):=⟨_,rfl⟩;rw[<-oh] at s7 s8
      obtain⟨W,e0,uS,CZ,EL⟩:∃W:Nat->World,W 0=wq.drew/\W 1=wq.drew.alloc (.cells #[.string ⟨#[]⟩,.slice xa x.length pK] 37)/\W 3=w2/\W 7=wa:=
       ⟨fun m=>if m=0 then wq.drew else if m=1 then wq.drew.alloc (.cells #[.string ⟨#[]⟩,.slice xa x.length pK] 37) else if m=3 then w2 else wa,rfl,rfl,rfl,rfl⟩
      have yq:wq.cell? ⟨g,z.length,none⟩=some (.slice ya y.length rQ):=rC xE (j:=z.length) (by rw[bk,ac (by omega),hzl,cq];rfl);have xq:wq.cell? ⟨g,z.length+1,none⟩=some (.slice xa x.length pK):=rC xE (j:=z.length+1) (by rw[bk,ac (by omega),hzl,cz];rfl);refine Cw 152 [13,14,16] [[0,1,3],[0,1,3],[0,1,3],[0,1],[0,1],[0,1],[0,1],[0,1],[0],[0],[0],[0],[0],[0],[1],[3],[3]] W (by kernel_rfl) (by kernel_rfl) rfl e0 ?_;refine bE.anyS (.slice (some ⟨g,0,none⟩) (z.length+1+1) cap) ?_;refine bE.anyS (.int .i64 (z.length+1)) ?_;refine bE.anyS (.int .i64 z.length) ?_;refine bE.anyS (.slice (some ⟨g,0,none⟩) (z.length+1+1) cap) ?_;refine bE.anyS (.int .i64 (z.length+1)) ?_;refine bE.anyS (.int .i64 z.length) ?_;refine bE.anyS (.pointer (some ⟨g,z.length,none⟩)) ?_;refine bE.WS (.slice ya y.length rQ) e0 e0 uS uS ?_;refine bE.anyS (.slice (some ⟨g,0,none⟩) (z.length+1+1) cap) ?_;refine bE.anyS (.int .i64 (z.length+1)) ?_;refine bE.anyS (.pointer (some ⟨g,z.length+1,none⟩)) ?_;refine bE.WR (.slice xa x.length pK) e0 e0 ?_;refine bE.anyS (.agg #[.string ⟨#[]⟩,.slice xa x.length pK]) ?_;refine bE.WR (.slice (some ⟨wq.heap.size,0,none⟩) 1 1) e0 uS ?_;refine bE.QI (.slice (some ⟨g1,0,none⟩) (y.length+1) gH) uS CZ (Ay rfl (by go_simp) (by go_simp) hrun) ?_;refine bE.anyS (.pointer (some ⟨g,z.length,none⟩)) ?_;refine bE.QI undef CZ EL (uf (by rw[oh];go_simp)) ?_;refine bE.done ?_;rw[show W (2^ [13,14,16].length-1)=wa from EL];have rR:w.heap.size<wr.heap.size:=lt_of_some HZ.out
      have xM:wa.heap[w.heap.size]? =some (.cells #[.string ⟨#[]⟩,.slice none 0 0] 37 (0,0)):=by
       rw[oh,iB (by omega),EK _ (by omega),(hga.old _ rR).1];exact HZ.out
      have MJ:Grow w σ wa σ2:=zB (B:=w.heap.size+1) (QE (hgr.trans hga) f3 f2 (by omega)) (by rw[oh];simpa [World.setCell] using s9) (by rw[oh];exact s10) (by rw[oh];exact s11) (fun b hb=>by rw[oh,iB (by omega)];exact EK b hb) (by omega);have K6:iU wa σ2:=((vJ.near hga.near).near f1).near s7;have EM:σ2 w.heap.size=0:=(f3 _ (by omega)).trans Bo
      have MK:gZ wa σ2 (w.heap.size+1) 35 37 (.slice (some ⟨g,0,none⟩) (z.length+1) cap) (hz++[.slice (some ⟨g1,0,none⟩) (y.length+1) gH]) ((y++[dh x])::z).reverse:=by
       rw[rA _ _ _ _ hzl,rA _ _ _ _ (by simp)] at s8;rw[dk];exact s8
      have hsz1:dD (y++[dh x])=dD y+(x.length+dD x):=by
       rw[jF,dD,dD,yD,di]
      have Ke:EF ((y++[dh x])::z)<=2*(i+1):=by
       simp only[EF,hsz1,ab,dp] at QJ ⊢;omega
      have BH:∀l∈(y++[dh x])::z,l.length<=c+1:=fun l hl=>by
       rcases cA.1 hl with rfl|hl
       ·have:=hlen y (by simp);simp only[ab,dp];omega
       ·have:=hlen l (by simp[hl]);omega
      have r0':wa.cell? ⟨w.heap.size,0,none⟩=some (.string ⟨#[]⟩):=by rw[Lib.cell_of_heap xM];rfl
      have r1':wa.cell? ⟨w.heap.size,1,none⟩=some (.slice none 0 0):=by rw[Lib.cell_of_heap xM];rfl
      have TP:=Lib.frozen_of_heap xM 0;have z1':=Lib.frozen_of_heap xM 1;have HST:Aside (gZ wa σ2 (w.heap.size+1) 35 37 (.slice (some ⟨g,0,none⟩) (z.length+1) cap) (hz++[.slice (some ⟨g1,0,none⟩) (y.length+1) gH]) ((y++[dh x])::z).reverse):=MK;have uX:Aside (wa.heap[w.heap.size]? =some (.cells #[.string ⟨#[]⟩,.slice none 0 0] 37 (0,0))):=xM;clear e0 uS CZ EL oh s1 s2 s3 s4 s5 s6 s7 s8 MK s9 s10 s11 s12 s13 EK hrun yq xq rO f6 f5 f4 xE hst xM r0 r1 z0 z1 yc xc yf ahg ade b2 d2
      have WX:¬(15:Int)<(z.length:Int)+1:=by omega
      by_cases hl2:1800<c+1
      ·have He:(1800:Int)<(c:Int)+1:=by omega
       go_wp2
       have hG:=lF (x:=.string ⟨#[]⟩) (y:=.slice none 0 0) MJ K6 (ax _) EM;refine lG (R:=w.heap.size) rfl rfl (lD uX.out) (sQ ?_ hG.1 hG.2.1);rw[<-HN.out,if_pos hl2]
      ·have He:¬(1800:Int)<(c:Int)+1:=by omega
       have QK:Aside (fH (s.drop (i+1)) ((y++[dh x])::z) (c+1)=fH s [[]] 0):=by
        have:=HN.out;rw[if_neg hl2] at this;exact this
       go_wp2
       go_roundg k
       case measure=>omega
       case rel=>
        exact⟨(y++[dh x])::z,σ2,i+1,c+1,g,cap,_,rfl,rfl,rfl,by simp[hzl],by simp,by simp only[aa];omega,by omega,by omega,QK.out,HST.out,MJ,K6,BH,Ke,EM,uX.out⟩
     ·obtain⟨g1,gH,w2,hrun,s1,s2,s3,⟨l9,s4,s5⟩,s6,s7,s8,s9,s10,s11,s12,s13,EK⟩:=zC (P:=prog) (j:=z.length) 35 underlying35 hiS hzS hsS hbS f2 (by omega) rO (by simp;omega) (y:=y) (by simp) (by rw[ac (by omega),hzl,cq];rfl) (by omega) gF (u:=.string ⟨#[]⟩) (lv:=.slice none 0 0) rfl (.nil _ _) rfl 37;obtain⟨wa,oh⟩:∃wa,wa=w2.setCell ⟨g,z.length,none⟩ (.slice (some ⟨g1,0,none⟩) (y.length+1) gH):=⟨_,rfl⟩;rw[<-oh] at s7 s8
      obtain⟨W,e0,uS,CZ,EL⟩:∃W:Nat->World,W 0=wq.drew/\W 1=wq.drew.alloc (.cells #[.string ⟨#[]⟩,.slice none 0 0] 37)/\W 3=w2/\W 7=wa:=
       ⟨fun m=>if m=0 then wq.drew else if m=1 then wq.drew.alloc (.cells #[.string ⟨#[]⟩,.slice none 0 0] 37) else if m=3 then w2 else wa,rfl,rfl,rfl,rfl⟩
      have yq:wq.cell? ⟨g,z.length,none⟩=some (.slice ya y.length rQ):=rC xE (j:=z.length) (by rw[bk,ac (by omega),hzl,cq];rfl);have xq:wq.cell? ⟨g,z.length+1,none⟩=some (.slice xa x.length pK):=rC xE (j:=z.length+1) (by rw[bk,ac (by omega),hzl,cz];rfl);refine Cw 152 [14,15,17] [[0,1],[0,1],[0,1],[0,1],[0,1],[0,1],[0,1],[0,1],[0,1],[0,1],[0,1],[0,1],[0,1],[0,1],[0],[1],[3],[3]] W (by kernel_rfl) (by kernel_rfl) rfl e0 ?_;refine bE.anyS (.slice (some ⟨g,0,none⟩) (z.length+1+1) cap) ?_;refine bE.anyS (.int .i64 (z.length+1)) ?_;refine bE.anyS (.int .i64 z.length) ?_;refine bE.anyS (.slice (some ⟨g,0,none⟩) (z.length+1+1) cap) ?_;refine bE.anyS (.int .i64 (z.length+1)) ?_;refine bE.anyS (.int .i64 z.length) ?_;refine bE.anyS (.pointer (some ⟨g,z.length,none⟩)) ?_;refine bE.WS (.slice ya y.length rQ) e0 e0 uS uS ?_;refine bE.anyS (.slice (some ⟨g,0,none⟩) (z.length+1+1) cap) ?_;refine bE.anyS (.int .i64 (z.length+1)) ?_;refine bE.anyS (.pointer (some ⟨g,z.length+1,none⟩)) ?_;refine bE.WS (.slice xa x.length pK) e0 e0 uS uS ?_;refine bE.anyS (.agg #[.string ⟨#[]⟩,.slice xa x.length pK]) ?_;refine bE.anyS (.int .i64 y.length) ?_;refine bE.WR (.slice (some ⟨wq.heap.size,0,none⟩) 1 1) e0 uS ?_;refine bE.QI (.slice (some ⟨g1,0,none⟩) (y.length+1) gH) uS CZ (Ay rfl (by go_simp) (by go_simp) hrun) ?_;refine bE.anyS (.pointer (some ⟨g,z.length,none⟩)) ?_;refine bE.QI undef CZ EL (uf (by rw[oh];go_simp)) ?_;refine bE.done ?_;rw[show W (2^ [14,15,17].length-1)=wa from EL];have rR:w.heap.size<wr.heap.size:=lt_of_some HZ.out
      have xM:wa.heap[w.heap.size]? =some (.cells #[.string ⟨#[]⟩,.slice none 0 0] 37 (0,0)):=by
       rw[oh,iB (by omega),EK _ (by omega),(hga.old _ rR).1];exact HZ.out
      have MJ:Grow w σ wa σ2:=zB (B:=w.heap.size+1) (QE (hgr.trans hga) f3 f2 (by omega)) (by rw[oh];simpa [World.setCell] using s9) (by rw[oh];exact s10) (by rw[oh];exact s11) (fun b hb=>by rw[oh,iB (by omega)];exact EK b hb) (by omega);have K6:iU wa σ2:=((vJ.near hga.near).near f1).near s7;have EM:σ2 w.heap.size=0:=(f3 _ (by omega)).trans Bo
      have MK:gZ wa σ2 (w.heap.size+1) 35 37 (.slice (some ⟨g,0,none⟩) (z.length+1) cap) (hz++[.slice (some ⟨g1,0,none⟩) (y.length+1) gH]) ((y++[gF])::z).reverse:=by
       rw[rA _ _ _ _ hzl,rA _ _ _ _ (by simp)] at s8;rw[dk];exact s8
      have gne:g1≠w.heap.size:=by omega
      have adf:w.heap.size≠g1:=by omega
      have Az:wa.heap[g1]? =some (.cells l9 37 (0,0)):=by rw[oh,iB s3];exact s4
      have m1:(0:Int)<=(y.length:Int):=by omega
      have m2:(y.length:Int)<(y.length:Int)+1:=by omega
      have d0:wa.cell? ⟨g1,y.length*2,none⟩=some (l9[y.length*2]'(by omega)):=by rw[Lib.cell_of_heap Az];simp
      have d1:wa.cell? ⟨g1,y.length*2+1,none⟩=some (l9[y.length*2+1]'(by omega)):=by rw[Lib.cell_of_heap Az];simp
      have dz0:=Lib.frozen_of_heap Az (y.length*2);have dz1:=Lib.frozen_of_heap Az (y.length*2+1);obtain⟨t1,t2,t3⟩:=QD (x:=dh x) (lv:=.slice xa x.length pK) (j:=z.length) (g1:=g1) (gH:=gH) MJ.live (by rw[show(hz++[Value.slice (some ⟨g1,0,none⟩) (y.length+1) gH]).length=z.length+1 by simp[hzl]];exact MK) (by rw[dk,ac (by simp),List.length_reverse,cq];rfl) (by rw[ac (by omega),hzl,cq];rfl) (f5.mono s7);rw[show(hz++[Value.slice (some ⟨g1,0,none⟩) (y.length+1) gH]).length=z.length+1 by simp[hzl],dk,rA _ _ _ _ (by simp),<-dk] at t2;have Z7:=zB MJ (W:=(wa.setCell ⟨g1,y.length*2,none⟩ (.string ⟨(dh x).aI.toArray⟩)).setCell ⟨g1,y.length*2+1,none⟩ (.slice xa x.length pK)) (by simp[World.setCell]) rfl rfl (fun b hb=>t3 b (by omega)) (Nat.le_succ w.heap.size);have QL:=K6.near t1;have hRb:=(t3 w.heap.size adf).trans xM
      have hsz1:dD (y++[dh x])=dD y+(x.length+dD x):=by
       rw[jF,dD,dD,yD,di]
      have Ke:EF ((y++[dh x])::z)<=2*(i+1):=by
       simp only[EF,hsz1,ab,dp] at QJ ⊢;omega
      have BH:∀l∈(y++[dh x])::z,l.length<=c+1:=fun l hl=>by
       rcases cA.1 hl with rfl|hl
       ·have:=hlen y (by simp);simp only[ab,dp];omega
       ·have:=hlen l (by simp[hl]);omega
      have r0':wa.cell? ⟨w.heap.size,0,none⟩=some (.string ⟨#[]⟩):=by rw[Lib.cell_of_heap xM];rfl
      have r1':wa.cell? ⟨w.heap.size,1,none⟩=some (.slice none 0 0):=by rw[Lib.cell_of_heap xM];rfl
      have TP:=Lib.frozen_of_heap xM 0;have z1':=Lib.frozen_of_heap xM 1;have HST:Aside (gZ ((wa.setCell ⟨g1,y.length*2,none⟩ (.string ⟨(dh x).aI.toArray⟩)).setCell ⟨g1,y.length*2+1,none⟩ (.slice xa x.length pK)) σ2 (w.heap.size+1) 35 37 (.slice (some ⟨g,0,none⟩) (z.length+1) cap) (hz++[.slice (some ⟨g1,0,none⟩) (y.length+1) gH]) ((y++[dh x])::z).reverse):=t2;have uX:Aside (((wa.setCell ⟨g1,y.length*2,none⟩ (.string ⟨(dh x).aI.toArray⟩)).setCell ⟨g1,y.length*2+1,none⟩ (.slice xa x.length pK)).heap[w.heap.size]? =some (.cells #[.string ⟨#[]⟩,.slice none 0 0] 37 (0,0))):=hRb;clear e0 uS CZ EL oh s1 s2 s3 s4 s6 s7 s8 MK s9 s10 s11 s12 s13 EK hrun yq xq rO f6 f5 f4 xE hst xM hRb t1 t2 t3 r0 r1 z0 z1 yc xc yf ahg ade b2 d2
      have WX:¬(15:Int)<(z.length:Int)+1:=by omega
      by_cases hl2:1800<c+1
      ·have He:(1800:Int)<(c:Int)+1:=by omega
       go_wp2
       have hG:=lF (x:=.string ⟨#[]⟩) (y:=.slice none 0 0) Z7 QL (ax _) EM;refine lG (R:=w.heap.size) rfl rfl (lD uX.out) (sQ ?_ hG.1 hG.2.1);rw[<-HN.out,if_pos hl2]
      ·have He:¬(1800:Int)<(c:Int)+1:=by omega
       have QK:Aside (fH (s.drop (i+1)) ((y++[dh x])::z) (c+1)=fH s [[]] 0):=by
        have:=HN.out;rw[if_neg hl2] at this;exact this
       go_wp2
       go_roundg k
       case measure=>omega
       case rel=>
        exact⟨(y++[dh x])::z,σ2,i+1,c+1,g,cap,_,rfl,rfl,rfl,by simp[hzl],by simp,by simp only[aa];omega,by omega,by omega,QK.out,HST.out,Z7,QL,BH,Ke,EM,uX.out⟩
   have n41:¬b.toNat=41:=fun e=>Ml (UInt8.toNat_inj.1 e);have q41:((b.toNat:Int)==41)=false:=beq_false_of_ne (by omega);have q32:((b.toNat:Int)==32)=false:=beq_false_of_ne (by omega);have q10:((b.toNat:Int)==10)=false:=beq_false_of_ne (by omega);have q40:((b.toNat:Int)==40)=false:=beq_false_of_ne (by omega);clear n41 n32 n10 n40;have HBL:Aside (lC b=false/\b≠40/\b≠41):=⟨EJ,JK,Ml⟩;clear EJ JK Ml;have hc:=yw (xw b) hgr.live vJ (ahd b)
   have hc:Calls prog 82 #[.int .u8 b.toNat] wr fun e w'=>e=.returned (.bool (aY b))/\∃σ',Grow wr σ1 w' σ'/\iU w' σ':=
    hc.mono fun e w' ⟨v,σ',he,rH,hg,hgl⟩=>by
     obtain rfl:v=.bool (aY b):=by cases rH.1;rfl
     exact⟨he,σ',hg,hgl⟩
   have rR:w.heap.size<wr.heap.size:=lt_of_some HZ.out
   cases hat:aY b with
   |false=>
    rw[hat] at hc;have HN:Aside (none=fH s [[]] 0):=(ada _ _ _ HBL.out.1 HBL.out.2.1 HBL.out.2.2 hat).symm.trans HA.out;clear hat hst hlr
    go_wp2_with (go_at_call 82;refine hc.mono ?_)
    rintro e w1 ⟨rfl,σ2,hg2,G9⟩;have Bp:=(hg2.old _ rR).1.trans HZ.out
    have r0':w1.cell? ⟨w.heap.size,0,none⟩=some (.string ⟨#[]⟩):=by rw[Lib.cell_of_heap Bp];rfl
    have r1':w1.cell? ⟨w.heap.size,1,none⟩=some (.slice none 0 0):=by rw[Lib.cell_of_heap Bp];rfl
    have TP:=Lib.frozen_of_heap Bp 0;have z1':=Lib.frozen_of_heap Bp 1;have uX:Aside (w1.heap[w.heap.size]? =some (.cells #[.string ⟨#[]⟩,.slice none 0 0] 37 (0,0))):=Bp;clear Bp r0 r1 z0 z1
    go_wp2
    have hG:=lF (x:=.string ⟨#[]⟩) (y:=.slice none 0 0) (hgr.trans hg2) G9 (ax _) (((hg2.old _ rR).2).trans Bo);exact lG (R:=w.heap.size) rfl rfl (lD uX.out) (sQ HN.out.symm hG.1 hG.2.1)
   |true=>
    obtain⟨x,z,rfl⟩:∃x z,rows=x::z:=by
     match rows,e2 with
     |x::z,_=>exact⟨x,z,rfl⟩
    rw[hat] at hc;have hwd:=fun e=>Z4 (s:=s) (i:=i) (e:=e) x z c HD.out hat
    have HWD:Aside (∀e,i<e->(∀a∈(s.drop i).take (e-i),aY a=true)->(e=s.length\/∃a,s[e]? =some a/\aY a=false)->(if 1800<c+1 then none else fH (s.drop e) ((x++[aM ((s.take e).drop i)])::z) (c+1))=fH s [[]] 0):=
     fun e h1 h2 h3=>(hwd e h1 h2 h3).symm.trans HA.out
    have HAT:Aside (aY b=true):=hat;clear hwd hat HBL
    simp only[aa] at *
    obtain⟨wo,rfl⟩:∃wo,wo=wr:=⟨_,rfl⟩
    go_wp2_with (go_at_call 82;refine hc.mono ?_)
    rintro e w1 ⟨rfl,σ2,hg2,G9⟩
    go_wp2
    go_loopg [9] (s.length-i) (fun k v9 wx=>∃e:Nat,v9=.int .i64 e/\e+k=s.length/\i<=e/\(∀a∈(s.drop i).take (e-i),aY a=true)/\∃σx,Grow wo σ1 wx σx/\iU wx σx)
    case atStart=>exact⟨i,rfl,by omega,ax _,by simp,σ2,hg2,G9⟩
    case round=>
     obtain⟨e,rfl,g1,g2,g3,σx,g4,g5⟩:=hrel;rcases(by cases gk<;>simp:gk=0\/∃k2,gk=k2+1) with rfl|⟨k2,rfl⟩
     focus
      have HES:Aside (e=s.length):=by show e=s.length;omega
      have hne:¬(e:Int)<(s.length:Int):=by omega
      go_wp2
      refine G8 fun wq hwq=> ?_;obtain⟨σq,QM,ahj⟩:∃σq,Grow wo σ1 wq σq/\iU wq σq:=⟨σx,by rw[hwq];exact g4,by rw[hwq];exact g5⟩;clear hwq;have HW:=HWD.out e (by have:=HES.out;omega) g3 (.inl HES.out)
      have hie:i<e:=by have:=HES.out;omega
     rotate_left
     focus
      have hel:e<s.length:=by omega
      obtain⟨b2,hb2⟩:∃b2,s[e]=b2:=⟨_,rfl⟩;have hx2:((⟨s.toArray⟩:ByteArray)[e]'(K5 hel)).toNat=b2.toNat:=congrArg UInt8.toNat ((byte_at hel).trans hb2)
      have HB2:Aside (s[e]? =some b2):=by
       show s[e]? =some b2;rw[al hel,hb2]
      clear hb2;have hc2:=yw (xw b2) g4.live g5 (ahd b2)
      have hc2:Calls prog 82 #[.int .u8 b2.toNat] wr fun e w'=>e=.returned (.bool (aY b2))/\∃σ',Grow wr σx w' σ'/\iU w' σ':=
       hc2.mono fun e w' ⟨v,σ',he,rH,hg,hgl⟩=>by
        obtain rfl:v=.bool (aY b2):=by cases rH.1;rfl
        exact⟨he,σ',hg,hgl⟩
      cases K7:aY b2
     focus
      rw[K7] at hc2;have WY:Aside (aY b2=false):=K7;clear K7
      go_wp2_with (go_at_call 82;refine hc2.mono ?_)
      rintro e' w2 ⟨rfl,σ3,hg3,adg⟩
      go_wp2
      refine G8 fun wq hwq=> ?_;obtain⟨σq,QM,ahj⟩:∃σq,Grow wo σ1 wq σq/\iU wq σq:=⟨σ3,by rw[hwq];exact g4.trans hg3,by rw[hwq];exact adg⟩;clear hwq
      have hie:i<e:=by
       rcases ey i e with h|h
       ·exact h
       ·have he:e=i:=by omega
        have h1:=HB2.out;rw[he,al hi,HB.out] at h1;cases h1;have:=WY.out;rw[HAT.out] at this;cases this
      have HW:=HWD.out e hie g3 (.inr ⟨b2,HB2.out,WY.out⟩)
     rotate_left
     ·rw[K7] at hc2;have WY:Aside (aY b2=true):=K7;clear K7
      go_wp2_with (go_at_call 82;refine hc2.mono ?_)
      rintro e' w2 ⟨rfl,σ3,hg3,adg⟩
      go_wp2
      go_roundg k2
      case measure=>omega
      case rel=>
       refine⟨e+1,rfl,by omega,by omega,fun a ha=> ?_,σ3,g4.trans hg3,adg⟩;rw[show e+1-i=(e-i)+1 by omega,List.take_add_one,cI,show i+(e-i)=e by omega,HB2.out] at ha;rcases ec.1 ha with ha|ha
       ·exact g3 a ha
       ·simp at ha;subst ha;exact WY.out
     all_goals
      replace HW:Aside ((if 1800<c+1 then none else fH (s.drop e) ((x++[aM ((s.take e).drop i)])::z) (c+1))=fH s [[]] 0):=HW
      have HWL:Aside (((s.take e).drop i).length=e-i):=by
       show((s.take e).drop i).length=e-i;rw[bj,bm];omega
      obtain⟨hz,xv,rfl,hzl⟩:∃hz xv,hv=hz++[xv]/\hz.length=z.length:=⟨hv.take z.length,hv[z.length]'(by omega),by
       conv=>lhs;rw[<-dC z.length hv]
       rw[bO (by omega),ee (by omega)],by simp;omega⟩
      have xE:gZ wq σq (w.heap.size+1) 35 37 (.slice (some ⟨g,0,none⟩) (z.length+1) cap) (hz++[xv]) (z.reverse++[x]):=by
       have:=hst.grow QM;simpa using this
      obtain⟨xv',d1,d2,d3⟩:=xE.rows z.length x (by simp);rw[ac (by omega),hzl,cq] at d1
      obtain rfl:xv=xv':=by simpa using d1
      obtain⟨xa,pK,rfl,_⟩:=Cx d2;clear d1 d2 d3;obtain⟨iS,hiS,hzS,hsS,hbS⟩:=info_parts Z6
      have hxl:x.length<=1800:=by have:=hlen x (by simp);omega
      have hBq:w.heap.size+1<=wq.heap.size:=by have:=hgB.1;have:=hgB.2;have:=QM.size;omega
      have xq:wq.cell? ⟨g,z.length,none⟩=some (.slice xa x.length pK):=rC xE (j:=z.length) (by rw[ac (by omega),hzl,cq];rfl);obtain⟨q1,gH,w5,hrun,s1,s2,s3,⟨l9,s4,s5⟩,s6,s7,s8,s9,s10,s11,s12,s13,EK⟩:=zC (P:=prog) (j:=z.length) 35 underlying35 hiS hzS hsS hbS QM.live hBq xE (by simp;omega) (y:=x) (by simp) (by rw[ac (by omega),hzl,cq];rfl) (by omega) gF (u:=.string ⟨#[]⟩) (lv:=.slice none 0 0) rfl (.nil _ _) rfl 37;obtain⟨wa,oh⟩:∃wa,wa=w5.setCell ⟨g,z.length,none⟩ (.slice (some ⟨q1,0,none⟩) (x.length+1) gH):=⟨_,rfl⟩;rw[<-oh] at s7 s8;obtain⟨w7,hw7⟩:∃w7,w7=(w5.setCell ⟨q1,x.length*2,none⟩ (.string ⟨((s.take e).drop i).toArray⟩)).setCell ⟨q1,x.length*2+1,none⟩ (.slice none 0 0):=⟨_,rfl⟩;obtain⟨wb,hwb⟩:∃wb,wb=(wa.setCell ⟨q1,x.length*2,none⟩ (.string ⟨((s.take e).drop i).toArray⟩)).setCell ⟨q1,x.length*2+1,none⟩ (.slice none 0 0):=⟨_,rfl⟩
      have hcm:w7.setCell ⟨g,z.length,none⟩ (.slice (some ⟨q1,0,none⟩) (x.length+1) gH)=wb:=by
       rw[hw7,hwb,oh,set_comm (Ne.symm s3),set_comm (Ne.symm s3)]
      have s1':w7.cell? ⟨g,z.length,none⟩=some (.slice xa x.length pK):=by
       rw[<-s1];exact World.cell?_of_block (by rw[hw7];exact(iB (Ne.symm s3)).trans (iB (Ne.symm s3)))
      have s2':w7.frozen? ⟨g,z.length,none⟩=false:=by
       rw[<-s2];exact World.frozen?_of_block (by rw[hw7];exact(iB (Ne.symm s3)).trans (iB (Ne.symm s3)))
      have Az:wa.heap[q1]? =some (.cells l9 37 (0,0)):=by rw[oh,iB s3];exact s4
      have xq1:(wq.alloc (.cells #[.string ⟨#[]⟩,.slice none 0 0] 37)).cell? ⟨g,z.length,none⟩=some (.slice xa x.length pK):=WL _ xq
      have m1:(0:Int)<=(x.length:Int):=by omega
      have m2:(x.length:Int)<(x.length:Int)+1:=by omega
      have m3:(0:Int)<=(z.length:Int):=by omega
      have m4:(z.length:Int)<(z.length:Int)+1:=by omega
      have m5:(0:Int)<=(i:Int):=by omega
      have m6:(i:Int)<=(e:Int):=by omega
      have m7:(e:Int)<=(s.length:Int):=by omega
      have d0:wa.cell? ⟨q1,x.length*2,none⟩=some (l9[x.length*2]'(by omega)):=by rw[Lib.cell_of_heap Az];simp
      have d1:wa.cell? ⟨q1,x.length*2+1,none⟩=some (l9[x.length*2+1]'(by omega)):=by rw[Lib.cell_of_heap Az];simp
      have dz0:=Lib.frozen_of_heap Az (x.length*2);have dz1:=Lib.frozen_of_heap Az (x.length*2+1)
      have c0:w5.cell? ⟨q1,x.length*2,none⟩=some (l9[x.length*2]'(by omega)):=by rw[Lib.cell_of_heap s4];simp
      have c1:w5.cell? ⟨q1,x.length*2+1,none⟩=some (l9[x.length*2+1]'(by omega)):=by rw[Lib.cell_of_heap s4];simp
      have cz0:=Lib.frozen_of_heap s4 (x.length*2);have cz1:=Lib.frozen_of_heap s4 (x.length*2+1)
      obtain⟨W,e0,uS,CZ,EL,adh,WZ⟩:∃W:Nat->World,W 0=wq.drew/\W 1=wq.drew.alloc (.cells #[.string ⟨#[]⟩,.slice none 0 0] 37)/\W 3=w5/\W 7=w7/\W 11=wa/\W 15=wb:=
       ⟨fun m=>if m=0 then wq.drew else if m=1 then wq.drew.alloc (.cells #[.string ⟨#[]⟩,.slice none 0 0] 37) else if m=3 then w5 else if m=7 then w7 else if m=11 then wa else wb,rfl,rfl,rfl,rfl,rfl,rfl⟩
      refine Cw 152 [10,11,13,15] [[0,1],[0,1],[0,1],[0,1],[0,1],[0,1],[0,1],[0,1],[0,1],[0,1],[0],[1],[3,11],[3,11],[3,7],[3,7]] W (by kernel_rfl) (by kernel_rfl) rfl e0 ?_;refine bE.anyS (.slice (some ⟨g,0,none⟩) (z.length+1) cap) ?_;refine bE.anyS (.int .i64 z.length) ?_;refine bE.anyS (.pointer (some ⟨g,z.length,none⟩)) ?_;refine bE.WS (.slice xa x.length pK) e0 e0 uS uS ?_;refine bE.anyS (.string ⟨s.toArray⟩) ?_;refine bE.anyS (.int .i64 i) ?_;refine bE.anyS (.int .i64 e) ?_;refine bE.any (.string ⟨((s.take e).drop i).toArray⟩) rfl (fun w=>zD (by go_simp;exact afz s i e)) ?_;refine bE.anyS (.agg #[.string ⟨((s.take e).drop i).toArray⟩,.slice none 0 0]) ?_;refine bE.anyS (.int .i64 x.length) ?_;refine bE.WR (.slice (some ⟨wq.heap.size,0,none⟩) 1 1) e0 uS ?_;refine bE.QI (.slice (some ⟨q1,0,none⟩) (x.length+1) gH) uS CZ (Ay rfl (by go_simp) (by go_simp) hrun) ?_;refine bE.anyS (.pointer (some ⟨q1,x.length*2,none⟩)) ?_;refine bE.at2 undef CZ EL adh WZ (uf (by rw[hw7];go_simp)) (uf (by rw[hwb];go_simp)) ?_;refine bE.anyS (.pointer (some ⟨g,z.length,none⟩)) ?_;refine bE.at2 undef CZ adh EL WZ (uf (by rw[oh];go_simp)) (uf (by rw[<-hcm];go_simp)) ?_;refine bE.done ?_;rw[show W (2^ [10,11,13,15].length-1)=wb from WZ];have rR:w.heap.size<wo.heap.size:=lt_of_some HZ.out
      have xM:wa.heap[w.heap.size]? =some (.cells #[.string ⟨#[]⟩,.slice none 0 0] 37 (0,0)):=by
       rw[oh,iB (by omega),EK _ (by omega),(QM.old _ rR).1];exact HZ.out
      have MJ:Grow w σ wa σq:=zB (B:=w.heap.size+1) (hgr.trans QM) (by rw[oh];simpa [World.setCell] using s9) (by rw[oh];exact s10) (by rw[oh];exact s11) (fun b hb=>by rw[oh,iB (by omega)];exact EK b hb) (by omega);have K6:iU wa σq:=ahj.near s7;have EM:σq w.heap.size=0:=(QM.old _ rR).2.trans Bo
      have MK:gZ wa σq (w.heap.size+1) 35 37 (.slice (some ⟨g,0,none⟩) (z.length+1) cap) (hz++[(.slice (some ⟨q1,0,none⟩) (x.length+1) gH)]) ((x++[gF])::z).reverse:=by
       rw[rA _ _ _ _ hzl,rA _ _ _ _ (by simp)] at s8;rw[dk];exact s8
      have gne:q1≠w.heap.size:=by omega
      have adf:w.heap.size≠q1:=by omega
      obtain⟨t1,t2,t3⟩:=QD (x:=aM ((s.take e).drop i)) (lv:=.slice none 0 0) (j:=z.length) (g1:=q1) (gH:=gH) MJ.live (by rw[show(hz++[Value.slice (some ⟨q1,0,none⟩) (x.length+1) gH]).length=z.length+1 by simp[hzl]];exact MK) (by rw[dk,ac (by simp),List.length_reverse,cq];rfl) (by rw[ac (by omega),hzl,cq];rfl) (.nil _ _);rw[show(hz++[Value.slice (some ⟨q1,0,none⟩) (x.length+1) gH]).length=z.length+1 by simp[hzl],dk,rA _ _ _ _ (by simp),<-dk] at t2
      have t3':∀b,b≠q1->wb.heap[b]? =wa.heap[b]? :=by rw[hwb];exact t3
      have Z7:Grow w σ wb σq:=zB MJ (by rw[hwb];simp[World.setCell]) (by rw[hwb];rfl) (by rw[hwb];rfl) (fun b hb=>t3' b (by omega)) (Nat.le_succ w.heap.size)
      have QL:iU wb σq:=by rw[hwb];exact K6.near t1
      have hRb:=(t3' w.heap.size adf).trans xM
      have HST:Aside (gZ wb σq (w.heap.size+1) 35 37 (.slice (some ⟨g,0,none⟩) (z.length+1) cap) (hz++[(.slice (some ⟨q1,0,none⟩) (x.length+1) gH)]) ((x++[aM ((s.take e).drop i)])::z).reverse):=by
       show gZ wb _ _ _ _ _ _ _;rw[hwb];exact t2
      have hsz1:dD (x++[aM ((s.take e).drop i)])=dD x+(e-i):=by
       rw[jF,dD,dD,nE,di,HWL.out]
      have Ke:EF ((x++[aM ((s.take e).drop i)])::z)<=2*e:=by
       simp only[EF,hsz1,ab,dp] at QJ ⊢;omega
      have BH:∀l∈(x++[aM ((s.take e).drop i)])::z,l.length<=c+1:=fun l hl=>by
       rcases cA.1 hl with rfl|hl
       ·have:=hlen x (by simp);simp only[ab,dp];omega
       ·have:=hlen l (by simp[hl]);omega
      have r0':wb.cell? ⟨w.heap.size,0,none⟩=some (.string ⟨#[]⟩):=by rw[Lib.cell_of_heap hRb];rfl
      have r1':wb.cell? ⟨w.heap.size,1,none⟩=some (.slice none 0 0):=by rw[Lib.cell_of_heap hRb];rfl
      have TP:=Lib.frozen_of_heap hRb 0;have z1':=Lib.frozen_of_heap hRb 1;have uX:Aside (wb.heap[w.heap.size]? =some (.cells #[.string ⟨#[]⟩,.slice none 0 0] 37 (0,0))):=hRb;clear e0 uS CZ EL adh WZ hcm d0 d1 dz0 dz1 c0 c1 cz0 cz1 Az s1' s2' hwb hw7 oh s1 s2 s3 s4 s6 s7 s8 MK s9 s10 s11 s12 s13 EK hrun xq xq1 xE hst xM hRb t1 t2 t3 t3' r0 r1 z0 z1
      have WX:¬(15:Int)<(z.length:Int)+1:=by omega
      by_cases hl2:1800<c+1
      ·have He:(1800:Int)<(c:Int)+1:=by omega
       go_wp2
       have hG:=lF (x:=.string ⟨#[]⟩) (y:=.slice none 0 0) Z7 QL (ax _) EM;refine lG (R:=w.heap.size) rfl rfl (lD uX.out) (sQ ?_ hG.1 hG.2.1);rw[<-HW.out,if_pos hl2]
      ·have He:¬(1800:Int)<(c:Int)+1:=by omega
       have QK:Aside (fH (s.drop e) ((x++[aM ((s.take e).drop i)])::z) (c+1)=fH s [[]] 0):=by
        have:=HW.out;rw[if_neg hl2] at this;exact this
       go_wp2
       go_roundg (s.length-e)
       case measure=>omega
       case rel=>
        exact⟨(x++[aM ((s.take e).drop i)])::z,σq,e,c+1,g,cap,_,rfl,rfl,rfl,by simp[hzl],by simp,by simp only[aa];omega,by omega,by omega,QK.out,HST.out,Z7,QL,BH,Ke,EM,uX.out⟩
end Go.Ab