/-
  SEVERAL TEXTS IN ONE (merged by program): contracts and models, each with its own heading.
-/
import Derived.Test.YtlaaknnkeidlbaaGreatDoorPartDmbD
import Derived.Test.YtlaaknnkeidlbaaGreatDoorPartDmbP
import Derived.Test.YtlaaknnkeidlbaaGreatDoorPartDmbV
import Derived.Lib.FrozenHead2
import Derived.Lib.OthersKept
import Derived.Lib.AppendStr
import Derived.Lib.UnsafeStr
import Derived.Lib.Builder
import Derived.Deep.LoopGhost
import Derived.Deep.AppendLies
import Derived.Laws.ResultCell
import Derived.Lib.AppendZeros
import Derived.Deep.RegionHeld3
import Derived.Deep.RegionLaw
set_option maxHeartbeats 8000000
open Go.Proofs Go.Proofs.Tryz
set_option linter.unusedSimpArgs false
set_option linter.unusedVariables false
set_option maxRecDepth 100000
namespace Go.Ab
open Go.RowKit
theorem afC:(prog.info? 120).map (·.size)=some 2:=by kernel_rfl
theorem aob:liesAt prog prog.depth 120 (2/prog.cellsOf 120) 0 120 1=true:=by kernel_rfl
theorem afD:(prog.info? 5).map (fun i=>(i.zero,i.size,i.bytes))=some (some (.int .u8 0),1,1):=by kernel_rfl
theorem Xo(b:Nat)(w:World)(h0:w.cell? ⟨b,0,none⟩=some (.pointer (some ⟨b,0,none⟩))):
 Calls prog 235 #[.pointer (some ⟨b,0,none⟩)] w fun e w'=>e=.returned (.tuple #[])/\w'=w:=by
 obtain⟨j,hj,_⟩:=Option.map_eq_some_iff.1 afC
 go_enter func235,ntmps235
 go_wp2
 rw[Lib.run_neq_ptr_same w _ underlying118 hj]
 go_wp2
 go_end0
 exact⟨rfl,rfl⟩
theorem Uu(b:Nat)(w:World)(h0:w.cell? ⟨b,0,none⟩=some (.pointer none))(hsh:w.shape? b=some (120,2))(hfz:w.frozen? ⟨b,0,none⟩=false):
 Calls prog 235 #[.pointer (some ⟨b,0,none⟩)] w fun e w'=>e=.returned (.tuple #[])/\w'=w.setCell ⟨b,0,none⟩ (.pointer (some ⟨b,0,none⟩)):=by
 obtain⟨j,hj,hjs⟩:=Option.map_eq_some_iff.1 afC
 go_enter func235,ntmps235
 go_wp2
 rw[Lib.run_to_unsafe w ⟨b,0,none⟩ underlying118 underlying247 hj (by rw[hjs];decide) hsh (Nat.zero_lt_succ 1)];simp only[Result.andThen];rw[Oper.upon_value]
 go_wp2
 rw[run_callFunc_extern func262 (by kernel_rfl) (by kernel_rfl) (by kernel_rfl) (e:=Extern.AbiNoEscape.same) (by kernel_rfl)];rw[Lib.run_noEscape];simp only[Result.andThen];rw[Oper.upon_value]
 go_wp2
 rw[Lib.run_from_unsafe w ⟨b,0,none⟩ underlying247 underlying118 hj hsh aob];simp only[Result.andThen];rw[Oper.upon_value]
 go_wp2
 go_end0
 exact⟨rfl,rfl⟩
theorem Z6(B b:Nat)(bs:List Value)(w:World)(h:Lib.IsBuilderF 120 5 B b bs w):
 Calls prog 235 #[.pointer (some ⟨b,0,none⟩)] w fun e w'=>e=.returned (.tuple #[])/\(Lib.BuilderAtF 120 5 B b (.pointer (some ⟨b,0,none⟩)) bs w'/\Below B w w'/\Lib.OthersKept 5 (some b) w w'):=by
 rcases h with h|h
 ·refine(Uu b w h.cell0 h.shape h.frozen0).mono ?_;rintro e w' ⟨rfl,rfl⟩;exact⟨rfl,h.used _,(Below.refl B w).setCell (p:=⟨b,0,none⟩) h.1 _,(Lib.OthersKept.refl _ _ w).setCell ⟨b,0,none⟩ rfl _⟩
 ·refine(Xo b w h.cell0).mono ?_;rintro e w' ⟨rfl,rfl⟩;exact⟨rfl,h,Below.refl B _,Lib.OthersKept.refl _ _ _⟩
theorem I9(B b:Nat)(bs:List Value)(c:Int)(w:World)(h:Lib.IsBuilderF 120 5 B b bs w)(hlen:bs.length+1<=140737488355328)(hBw:B<=w.heap.size):
 Calls prog 173 #[.pointer (some ⟨b,0,none⟩),.int .u8 c] w fun e w'=>e=.returned .nilIface/\(Lib.BuilderAtF 120 5 B b (.pointer (some ⟨b,0,none⟩)) (bs++[.int .u8 c]) w'/\Below B w w'/\Lib.OthersKept 5 (some b) w w'):=by
 obtain⟨i0,hi,hz0,hz1,hz2⟩:=info_parts afD
 go_enter func173,ntmps173
 go_wp2_with (go_at_call 235;refine(Z6 B b bs _ h).mono ?_)
 rintro e w1 ⟨rfl,⟨hB,v,hbk,hown,hne⟩,hb1,hk1⟩
 have c0:w1.cell? ⟨b,0,none⟩=some (.pointer (some ⟨b,0,none⟩)):=by rw[Lib.cell_of_heap hbk];rfl
 have c1:w1.cell? ⟨b,1,none⟩=some v:=by rw[Lib.cell_of_heap hbk];rfl
 go_wp2_with (at_builtin;refine wpList_append_ownF _ rfl _ _ 22 rfl B 5 i0 (.int .u8 0) 1 1 underlying22 hi hz0 hz1 hz2 rfl (by decide) _ _ _ rfl (hown.alloc _) ⟨w1.heap.size,0,none⟩ 1 1 [.int .u8 c] rfl rfl ?c1 ?c2 ?c3 ?c4 ?c5 ?_)
 case c1=>
  intro j u hj
  match j,hj with
  |0,hj=>simp at hj;subst hj;simp[Addr.add]
 case c2=>intro u hu;simp at hu;subst hu;rfl
 case c3=>unfold maxLen;omega
 case c4=>omega
 case c5=>have:=hb1.size;simp;omega
 intro v' w2 hown' hgrow _
 have hlt:b<w1.heap.size:=by
  rcases Nat.lt_or_ge b w1.heap.size with h'|h'
  ·exact h'
  ·simp[Array.getElem?_eq_none h'] at hbk
 have hb2:w2.heap[b]? =some (.cells #[.pointer (some ⟨b,0,none⟩),v] 120 (0,0)):=by
  rw[hgrow.block b (by simp;omega) (fun e=>hne e.symm),Lib.alloc_old w1 _ b hlt];exact hbk
 have d0:w2.cell? ⟨b,0,none⟩=some (.pointer (some ⟨b,0,none⟩)):=by rw[Lib.cell_of_heap hb2];rfl
 have d1:w2.cell? ⟨b,1,none⟩=some v:=by rw[Lib.cell_of_heap hb2];rfl
 have f1:w2.frozen? ⟨b,1,none⟩=false:=Lib.frozen_of_heap hb2 1
 obtain⟨g,cap,rfl⟩:∃g cap,v'=.slice (some ⟨g,0,none⟩) (bs.length+1) cap:=by
  rcases hown'.2 with⟨_,h0⟩|⟨g,cap,cur,fz,hv,_⟩
  ·omega
  ·exact⟨g,cap,hv⟩
 go_wp2
 go_ret
 refine⟨rfl,?_,?_,((hk1.alloc _).grown hgrow (Lib.ownsRowF_kind (hown.alloc _))).setCell ⟨b,1,none⟩ rfl _⟩
 ·exact Lib.BuilderAtF.put (T:=120) (e:=5) hB hb2 (bs':=bs++[.int .u8 c]) (by simpa using hown') (by decide)
 ·exact((hb1.alloc (by have:=hb1.size;omega) _).grown hgrow (by have:=hb1.size;simp;omega) (fun k hk=>(hown.lt k hk).1)).setCell (p:=⟨b,1,none⟩) hB _
theorem Xp(B b:Nat)(bs:List Value)(s:ByteArray)(w:World)(h:Lib.IsBuilderF 120 5 B b bs w)(hlen:bs.length+s.size<=140737488355328)(hBw:B<=w.heap.size):
 Calls prog 172 #[.pointer (some ⟨b,0,none⟩),.string s] w fun e w'=>e=.returned (.tuple #[.int .i64 s.size,.nilIface])/\(Lib.BuilderAtF 120 5 B b (.pointer (some ⟨b,0,none⟩)) (bs++Lib.strCells s) w'/\Below B w w'/\Lib.OthersKept 5 (some b) w w'):=by
 obtain⟨i0,hi,hz0,hz1,hz2⟩:=info_parts afD
 go_enter func172,ntmps172
 go_wp2_with (go_at_call 235;refine(Z6 B b bs _ h).mono ?_)
 rintro e w1 ⟨rfl,⟨hB,v,hbk,hown,hne⟩,hb1,hk1⟩
 have c0:w1.cell? ⟨b,0,none⟩=some (.pointer (some ⟨b,0,none⟩)):=by rw[Lib.cell_of_heap hbk];rfl
 have c1:w1.cell? ⟨b,1,none⟩=some v:=by rw[Lib.cell_of_heap hbk];rfl
 go_wp2_with (at_builtin;refine Lib.wpList_append_own_stringF _ rfl _ _ 22 9 rfl B 5 i0 underlying22 underlying9 hi hz0 hz1 hz2 _ _ _ rfl hown s rfl ?c3 ?c4 ?c5 ?_)
 case c3=>unfold maxLen;omega
 case c4=>omega
 case c5=>have:=hb1.size;omega
 intro v' w2 hown' hgrow _
 have hlt:b<w1.heap.size:=by
  rcases Nat.lt_or_ge b w1.heap.size with h'|h'
  ·exact h'
  ·simp[Array.getElem?_eq_none h'] at hbk
 have hb2:w2.heap[b]? =some (.cells #[.pointer (some ⟨b,0,none⟩),v] 120 (0,0)):=by
  rw[hgrow.block b hlt (fun e=>hne e.symm)];exact hbk
 have d0:w2.cell? ⟨b,0,none⟩=some (.pointer (some ⟨b,0,none⟩)):=by rw[Lib.cell_of_heap hb2];rfl
 have d1:w2.cell? ⟨b,1,none⟩=some v:=by rw[Lib.cell_of_heap hb2];rfl
 have f1:w2.frozen? ⟨b,1,none⟩=false:=Lib.frozen_of_heap hb2 1
 obtain⟨ao,n',cap,rfl⟩:∃ao n' cap,v'=.slice ao n' cap:=by
  rcases hown'.2 with⟨hv,_⟩|⟨g,cap,cur,fz,hv,_⟩
  ·exact⟨_,_,_,hv⟩
  ·exact⟨_,_,_,hv⟩
 go_wp2
 go_ret2
 refine⟨rfl,?_,?_,(hk1.grown hgrow (Lib.ownsRowF_kind hown)).setCell ⟨b,1,none⟩ rfl _⟩
 ·exact Lib.BuilderAtF.put (T:=120) (e:=5) hB hb2 (bs':=bs++Lib.strCells s) (by simpa [Lib.strCells_length] using hown') (by decide)
 ·exact(hb1.grown hgrow (by have:=hb1.size;omega) (fun k hk=>(hown.lt k hk).1)).setCell (p:=⟨b,1,none⟩) hB _
theorem acN(B b:Nat)(l:List UInt8)(w:World)(h:Lib.IsBuilderF 120 5 B b (Lib.byteCells l) w)(h0:l≠[]):
 Calls prog 81 #[.pointer (some ⟨b,0,none⟩)] w fun e w'=>e=.returned (.string ⟨l.toArray⟩)/\Below B w w':=by
 obtain⟨p,hA⟩:∃p,Lib.BuilderAtF 120 5 B b p (Lib.byteCells l) w:=h.elim (fun x=>⟨_,x⟩) (fun x=>⟨_,x⟩);obtain⟨hB,v,hbk,hown,-⟩:=hA
 have hl:l.length≠0:=by simpa using h0
 rw[Lib.byteCells_length] at hown;have hcell:=fun g hg=>hown.cells (g:=g) hg;obtain⟨-,⟨-,hz⟩|⟨g,cap,cur,fz,rfl,hbg,hg,-,hnc,hcm,hcs,-⟩⟩:=hown
 ·exact absurd hz hl
 have hg':w.drew.heap[g]? =some (.cells cur 5 fz):=hg;have hb':w.drew.heap[b]? =some (.cells #[p,.slice (some ⟨g,0,none⟩) l.length cap] 120 (0,0)):=hbk
 have c1:w.drew.cell? ⟨b,1,none⟩=some (.slice (some ⟨g,0,none⟩) l.length cap):=by rw[Lib.cell_of_heap hb'];rfl
 have hSD:(Builtin.unsafeSliceData_ #[22] 194 #[.slice (some ⟨g,0,none⟩) l.length cap]).run prog w.drew=.ok (.pointer (some ⟨g,0,none⟩)) w.drew:=
  Lib.run_unsafeSliceData_row _ _ _ _ _ _ (by omega)
 have hUS:(Builtin.unsafeString_ #[194,3] 9 #[.pointer (some ⟨g,0,none⟩),.int .i64 l.length]).run prog w.drew=.ok (.string ⟨l.toArray⟩) (w.drew.freeze ⟨g,0,none⟩ l.length):=
  Lib.run_unsafeString_row w.drew 194 3 9 5 underlying194 (by kernel_rfl) g cur.size (by simp[World.shape?,hg']) l h0 (by omega) (by unfold maxLen at hcm;omega) fun j x hx=>
   hcell g rfl j (.int .u8 x.toNat) (by simp[Lib.byteCells,hx])
 clear hcell hg' hb'
 go_enter func81,ntmps81
 go_wp2
 go_region
 all_goals (go_wp2;go_ret;exact⟨rfl,Lib.below_freeze (Below.drew (Below.refl B w)) (p:=⟨g,0,none⟩) hbg _⟩)
def fZ(by':List UInt8):List (List UInt8)->List UInt8
 |[]=>[]
 |x::xs=>x++(xs.map fun y=>by'++y).flatten
theorem acO(b:List UInt8)(l:List (List UInt8))(x:List UInt8):fZ b (l++[x])=if l=[] then x else fZ b l++b++x:=by
 cases l with
 |nil=>simp[fZ]
 |cons y l=>simp[fZ,List.append_assoc]
mutual
def gy:ah->List UInt8
 | .mk a l=>if a=[] then [40]++fZ [32] (ny l)++[41] else a
def ny:List ah->List (List UInt8)
 |[]=>[]
 |x::xs=>gy x::ny xs
end
theorem Ja:∀l,ny l=l.map gy
 |[]=>rfl
 |x::xs=>by rw[ny,List.map_cons,Ja xs]
theorem NM(x:ah):gy x=if x.aQ=[] then [40]++fZ [32] (x.aj.map gy)++[41] else x.aQ:=by cases x;rw[gy,Ja];rfl
theorem Jb(b:List UInt8)(l:List (List UInt8))(i:Nat)(hi:i<l.length):fZ b (l.take (i+1))=if i=0 then l[i] else fZ b (l.take i)++b++l[i]:=by
 rw[List.take_succ_eq_append_getElem hi,acO];by_cases h:i=0
 ·rw[if_pos h,if_pos (by rw[h];rfl)]
 ·rw[if_neg h,if_neg (fun e=>h (by have:=congrArg List.length e;rw[List.length_take,List.length_nil] at this;omega))]
theorem ajh(b:List UInt8)(hb:b.length=1):∀l:List (List UInt8),l.length<=(fZ b l).length+1
 |[]=>by simp
 |x::xs=>by
  have h:∀ys:List (List UInt8),ys.length<=((ys.map fun y=>b++y).flatten).length:=by
   intro ys
   induction ys with
   |nil=>simp
   |cons y ys ih=>rw[List.map_cons,List.flatten_cons,List.length_append,List.length_append,List.length_cons];omega
  have:=h xs;rw[fZ,List.length_append,List.length_cons];omega
theorem Qp(b:List UInt8)(l:List (List UInt8))(i:Nat):(fZ b (l.take i)).length<=(fZ b l).length:=by
 by_cases hi:i<l.length
 ·have:∀k,i+k<=l.length->(fZ b (l.take i)).length<=(fZ b (l.take (i+k))).length:=by
   intro k
   induction k with
   |zero=>intro _;exact Nat.le_refl _
   |succ k ih=>
    intro hk;have h1:=ih (by omega);rw[<-Nat.add_assoc,Jb b l (i+k) (by omega)];split
    ·rename_i h0
     have:i=0:=by omega
     subst this;simp[fZ]
    ·simp only[List.length_append];omega
  have:=this (l.length-i) (by omega)
  rwa [show i+(l.length-i)=l.length by omega,List.take_length] at this
 ·rw[List.take_of_length_le (by omega)];exact Nat.le_refl _
theorem afE(b:List UInt8):∀l:List (List UInt8),(fZ b l).length<=(l.map fun x=>b.length+x.length).sum
 |[]=>by simp[fZ]
 |x::xs=>by
  have h:∀ys:List (List UInt8),((ys.map fun y=>b++y).flatten).length=(ys.map fun x=>b.length+x.length).sum:=by
   intro ys
   induction ys with
   |nil=>rfl
   |cons y ys ih=>rw[List.map_cons,List.flatten_cons,List.length_append,List.length_append,ih,List.map_cons,List.sum_cons]
  rw[fZ,List.length_append,h,List.map_cons,List.sum_cons];omega
mutual
theorem FM:∀x:ah,(gy x).length<=2+3*x.sz
 | .mk a l=>by
   have h:=Qq l;rw[jP,kZ];simp only[ah.aQ,ah.aj];rw[gy];split
   ·have:=afE [32] (ny l);simp only[List.length_append,List.length_cons,List.length_nil] at this ⊢;omega
   ·omega
theorem Qq:∀l:List ah,((ny l).map fun x=>0+1+x.length).sum<=3*l.length+3*dA l
 |[]=>by simp[ny]
 |x::xs=>by
  have h1:=FM x;have h2:=Qq xs;rw[ny,List.map_cons,List.sum_cons,dA,List.length_cons];omega
end
def sZ(l:List UInt8):List (List D):=l.map fun b=>[D.i .u8 b.toNat]
theorem Jw(a b:List UInt8):sZ (a++b)=sZ a++sZ b:=by unfold sZ;rw[List.map_append]
theorem Jy(a:List UInt8):(sZ a).length=a.length:=by unfold sZ;rw[List.length_map]
theorem Zf(a:List UInt8):(sZ a).map Ob=a:=by
 unfold sZ;rw[List.map_map]
 conv=>rhs;rw[<-List.map_id a]
 refine List.map_congr_left fun b _=> ?_;show UInt8.ofNat ((b.toNat:Int)).toNat=b;rw[Int.toNat_natCast,UInt8.ofNat_toNat]
theorem acP(a:List UInt8):∀y∈sZ a,y=[.i .u8 (H6 y)]:=fun y hy=>by
 obtain⟨b,_,rfl⟩:=List.mem_map.1 hy;rfl
def Bf(x:ah):List UInt8:=if dV x=true then gy x else []
def vE(x:ah):List UInt8:=if x.aQ=[]/\x.aj.length=0 then [] else Bf x
theorem Xq(x:ah):(x.aQ=[]/\x.aj.length=0)<->x=eY:=by
 refine⟨fun⟨h1,h2⟩=>ah.ext h1 (List.eq_nil_of_length_eq_zero h2),fun h=>by rw[h];exact⟨rfl,rfl⟩⟩
theorem afF{x:ah}(h:x=eY):vE x=[]:=by
 unfold vE;rw[if_pos ((Xq _).2 h)]
theorem afG{x:ah}(h:¬x=eY):vE x=Bf x:=by
 unfold vE;rw[if_neg (fun e=>h ((Xq _).1 e))]
theorem aoc{x:ah}(h:¬x.aj.length=0):vE x=Bf x:=by
 unfold vE;rw[if_neg (fun e=>h e.2)]
theorem aod{x:ah}(h:x.aQ=[])(h':x.aj.length=0):vE x=[]:=by
 unfold vE;rw[if_pos ⟨h,h'⟩]
theorem aji(x:ah):(vE x).length<=40000:=by
 unfold vE Bf;split
 ·simp
 ·split
  ·rename_i h;have:=uN h;have:=FM x;omega
  ·simp
theorem aoe{w:World}{σ:Nat->Nat}{xs:List ah}{lv:Value}(h:dK w σ (.sl (xs.map ah.enc)) lv):∃a cap,lv=.slice a xs.length cap/\∀i (hi:i<xs.length),∃k off,a=some ⟨k,off,none⟩/\∃c t fz u,
 w.heap[k]? =some (.cells c t fz)/\c[off+i*2]? =some (.string ⟨xs[i].aQ.toArray⟩)/\c[off+(i*2+1)]? =some u/\dK w σ (.sl (xs[i].aj.map ah.enc)) u:=by
 generalize he:xs.map ah.enc=es at h
 have hl:es.length=xs.length:=by rw[<-he,List.length_map]
 cases h with
 |nil a cap=>
  have h0:xs.length=0:=hl.symm;exact⟨a,cap,by rw[h0],fun i hi=>absurd hi (by omega)⟩
 |sl k off cap bg es vals c t fz hcap hlen hb hσ hc hv=>
  refine⟨_,cap,by rw[hl],fun i hi=>⟨k,off,rfl,c,t,fz,?_⟩⟩
  have e1:es[i]'(by omega)=[.s xs[i].aQ,.sl (xs[i].aj.map ah.enc)]:=by
   subst he;rw[List.getElem_map,ah.aJ]
   first|rfl|done
  have hz:bg=2:=by
   have:=hlen _ (List.getElem_mem (l:=es) (n:=i) (by omega));rw[e1] at this;exact this.symm
  subst hz;have hf:∀o (ho:o<2),es.flatten[i*2+o]? =(es[i]'(by omega))[o]? :=fun o ho=>flat_get es 2 hlen i o (by omega) ho;have h0:=hv (i*2+0) (.s xs[i].aQ) (by rw[hf 0 (by omega),e1];rfl);have h1:=hv (i*2+1) (.sl (xs[i].aj.map ah.enc)) (by rw[hf 1 (by omega),e1];rfl);refine⟨vals (i*2+1),hb,?_,hc _ (by omega),h1⟩;have:=hc (i*2+0) (by omega);generalize vals (i*2+0)=v0 at h0 this;cases h0;exact this
theorem afH{w:World}{σ:Nat->Nat}{es:List (List D)}{u:Value}(h:dK w σ (.sl es) u):∃a n c,u=.slice a n c:=by
 cases h with
 |nil a c=>exact⟨_,_,_,rfl⟩
 |sl=>exact⟨_,_,_,rfl⟩
theorem Qr(w0:World)(σ:Nat->Nat):∀(n:Nat)(x:ah),x.sz<n->∀(b:Nat)(bs:List Value)(w:World)(lv:Value),dK w0 σ (.sl (x.aj.map ah.enc)) lv->Below w0.heap.size w0 w->
 Lib.IsBuilderF 120 5 w0.heap.size b bs w->bs.length+(gy x).length<=140737488355328->
 Calls prog 80 #[.pointer (some ⟨b,0,none⟩),.agg #[.string ⟨x.aQ.toArray⟩,lv]] w fun e w'=>e=.returned (.tuple #[])/\Lib.IsBuilderF 120 5 w0.heap.size b (bs++Lib.byteCells (gy x)) w'/\Below w0.heap.size w w'/\Lib.OthersKept 5 (some b) w w'
 |0=>fun x h=>by omega
 |n+1=>fun x hx b bs w lv hr hbw h hlen=>by
  obtain⟨B,hB⟩:∃B,B=w0.heap.size:=⟨_,rfl⟩
  have hBw:B<=w.heap.size:=by rw[hB];exact hbw.size
  rw[<-hB] at hbw h ⊢
  cases x with|mk s xs=> ?_
  simp only[ah.aQ,ah.aj] at *
  have ih:=Qr w0 σ n;rw[<-hB] at ih;have HB:Aside (B=w0.heap.size):=hB;clear hB;by_cases ha:s=[]
  ·subst ha
   have ht:gy (.mk [] xs)=[40]++fZ [32] (xs.map gy)++[41]:=by rw[gy,if_pos rfl,Ja]
   rw[ht] at hlen ⊢
   have hx:∀i (hi:i<xs.length),xs[i].sz<n:=fun i hi=>by
    have h1:=kT (List.getElem_mem hi);rw[jP,kZ] at hx;simp only[ah.aQ,ah.aj,List.length_nil] at hx;omega
   simp only[List.length_append,List.length_cons,List.length_nil] at hlen;have hj:=ajh [32] rfl (xs.map gy);rw[List.length_map] at hj;obtain⟨ad,cap,rfl,hrow⟩:=aoe hr;clear hr;obtain⟨T,hT⟩:∃T,T=[40]++fZ [32] (xs.map gy)++[41]:=⟨_,rfl⟩;rw[<-hT];have HT:Aside (T=[40]++fZ [32] (xs.map gy)++[41]):=hT;clear hT ht
   go_enter func80,ntmps80
   go_wp2_with (go_at_call 173;refine(I9 B b bs 40 _ (h.alloc _) ?_ ?_).mono ?_)
   ·omega
   ·simp;omega
   rintro e w1 ⟨rfl,h1,hb1,hk1⟩
   have hbne:w.heap.size≠b:=fun e=>by
    have:b<w.heap.size:=h.elim (fun z=>z.lt) (fun z=>z.lt);omega
   have c1:w1.cell? ⟨w.heap.size,1,none⟩=some (.slice ad xs.length cap):=by
    have:=hk1 w.heap.size _ (heap_alloc_new w _) (fun z=>hbne (Option.some.inj z)) (fun c fz z=>by cases z);rw[Lib.cell_of_heap this];rfl
   have hb1':Below B w w1:=((Below.refl B w).alloc hBw _).trans hb1;have agE:Lib.OthersKept 5 (some b) w w1:=((Lib.OthersKept.refl _ _ w).alloc _).trans hk1;clear hb1 hk1
   go_wp2
   go_loopg [18] xs.length (fun g v wx=>∃i:Nat,i+g=xs.length/\v=.int .i64 i/\Lib.IsBuilderF 120 5 B b (bs++Lib.byteCells ([40]++fZ [32] ((xs.map gy).take i))) wx/\Below B w wx/\Lib.OthersKept 5 (some b) w wx)
   case atStart=>exact⟨0,by omega,rfl,.inr (by simpa [Lib.byteCells,fZ] using h1),hb1',agE⟩
   case round=>
    obtain⟨i,hi,rfl,hbd,hbx,hkx⟩:=hrel
    cases gk with
    |zero=>
     obtain rfl:i=xs.length:=by omega
     rw[List.take_of_length_le (by simp)] at hbd
     go_wp2_with (go_at_call 173;refine(I9 B b _ 41 _ hbd ?_ ?_).mono ?_)
     ·simp only[List.length_append,Lib.byteCells_length,List.length_cons,List.length_nil];omega
     ·exact Nat.le_trans hBw hbx.size
     rintro e w2 ⟨rfl,h2,hb2,hk2⟩
     go_wp2
     go_end0
     rw[HT.out];refine⟨rfl,.inr ?_,hbx.trans hb2,hkx.trans hk2⟩;rw[Lib.byteCells_append,<-List.append_assoc];exact h2
    |succ g=>
     have hil:i<xs.length:=by omega
     have hx:=hx i hil;obtain⟨k,off,rfl,c,t,fz,u,hk,hc0,hc1,Vb⟩:=hrow i hil;obtain⟨ua,un,uc,rfl⟩:=afH Vb;clear hrow
     have hkB:k<B:=by
      rw[HB.out];exact(Array.getElem?_eq_some_iff.1 hk).1
     have hkr:wr.heap[k]? =some (.cells c t fz):=by rw[(hbw.trans hbx).block k hkB];exact hk
     have d0:wr.cell? ⟨k,off+i*2,none⟩=some (.string ⟨xs[i].aQ.toArray⟩):=by rw[Lib.cell_of_heap hkr];exact hc0
     have d1:wr.cell? ⟨k,off+i*2+1,none⟩=some (.slice ua un uc):=by rw[Lib.cell_of_heap hkr];exact hc1
     have htk:(fZ [32] ((xs.map gy).take (i+1))).length<=(fZ [32] (xs.map gy)).length:=Qp _ _ _;have hst:=Jb [32] (xs.map gy) i (by simpa using hil);by_cases hi0:i=0
     ·rw[if_pos hi0,List.getElem_map] at hst;rw[hst] at htk;have HST:Aside (fZ [32] ((xs.map gy).take (i+1))=gy xs[i]):=hst;have HI:Aside (i=0):=hi0
      have hng:¬(0:Int)<(i:Int):=by omega
      clear hst hi0
      have hc:=ih xs[i] hx b _ (wr.alloc (.cells #[.string ⟨xs[i].aQ.toArray⟩,.slice ua un uc] 37)) _ Vb (hbw.trans (hbx.trans ((Below.refl B wr).alloc (Nat.le_trans hBw hbx.size) _))) (hbd.alloc _) (by
       simp only[List.length_append,Lib.byteCells_length,List.length_cons,List.length_nil]
       have hz:fZ [32] ((xs.map gy).take i)=[]:=by rw[HI.out];rfl
       rw[hz,List.length_nil];omega)
      go_wp2_with (go_at_call 80;refine hc.mono ?_;rintro e w2 ⟨rfl,h2,hb2,hk2⟩)
      go_roundg g
      case measure=>omega
      case rel=>
       refine⟨i+1,by omega,rfl,?_,hbx.trans (((Below.refl B wr).alloc (Nat.le_trans hBw hbx.size) _).trans hb2),hkx.trans (((Lib.OthersKept.refl _ _ wr).alloc _).trans hk2)⟩;rw[HST.out]
       have hz:fZ [32] ((xs.map gy).take i)=[]:=by rw[HI.out];rfl
       rw[hz,List.append_nil,List.append_assoc,<-Lib.byteCells_append] at h2;exact h2
     ·rw[if_neg hi0,List.getElem_map] at hst;rw[hst] at htk;have HST:Aside (fZ [32] ((xs.map gy).take (i+1))=fZ [32] ((xs.map gy).take i)++[32]++gy xs[i]):=hst
      have hpg:(0:Int)<(i:Int):=by omega
      clear hst;simp only[List.length_append,List.length_cons,List.length_nil] at htk
      go_wp2_with (go_at_call 173;refine(I9 B b _ 32 _ (hbd.alloc _) ?_ ?_).mono ?_)
      ·simp only[List.length_append,Lib.byteCells_length,List.length_cons,List.length_nil];omega
      ·exact Nat.le_trans (Nat.le_trans hBw hbx.size) (by simp)
      rintro e w2 ⟨rfl,h2,hb2,hk2⟩;have hwr:b<wr.heap.size:=hbd.elim (fun z=>z.lt) (fun z=>z.lt);have hq:w2.heap[wr.heap.size]? =_:=hk2 wr.heap.size _ (heap_alloc_new wr _) (fun z=>by have:=Option.some.inj z;omega) (fun c fz z=>by cases z)
      have q0:w2.cell? ⟨wr.heap.size,0,none⟩=some (.string ⟨xs[i].aQ.toArray⟩):=by rw[Lib.cell_of_heap hq];rfl
      have q1:w2.cell? ⟨wr.heap.size,1,none⟩=some (.slice ua un uc):=by rw[Lib.cell_of_heap hq];rfl
      have hb2':Below B wr w2:=((Below.refl B wr).alloc (Nat.le_trans hBw hbx.size) _).trans hb2;have ash:Lib.OthersKept 5 (some b) wr w2:=((Lib.OthersKept.refl _ _ wr).alloc _).trans hk2
      have hc:=ih xs[i] hx b _ w2 _ Vb (hbw.trans (hbx.trans hb2')) (.inr h2) (by
       simp only[List.length_append,Lib.byteCells_length,List.length_cons,List.length_nil];omega)
      clear hq hb2 hk2
      go_wp2_with (go_at_call 80;refine hc.mono ?_;rintro e w3 ⟨rfl,h3,hb3,hk3⟩)
      go_roundg g
      case measure=>omega
      case rel=>
       refine⟨i+1,by omega,rfl,?_,hbx.trans (hb2'.trans hb3),hkx.trans (ash.trans hk3)⟩;rw[HST.out];simpa [Lib.byteCells,List.append_assoc] using h3
  ·have ht:gy (.mk s xs)=s:=by rw[gy,if_neg ha]
   rw[ht] at hlen ⊢;clear ht hx
   go_enter func80,ntmps80
   have hm:s.isEmpty=false:=by simpa using ha
   go_wp2_with (go_at_call 172;refine(Xp B b bs _ _ (h.alloc _) ?_ ?_).mono ?_)
   ·exact hlen
   ·simp;omega
   ·rintro e w1 ⟨rfl,h1,hb1,hk1⟩
    go_wp2
    refine bodyPost_ret (results_none rfl _ _ _) rfl ?_;rw[Lib.strCells_eq] at h1;exact⟨rfl,.inr h1,((Below.refl B w).alloc hBw _).trans hb1,((Lib.OthersKept.refl _ _ w).alloc _).trans hk1⟩
theorem ajj{w:World}{σ:Nat->Nat}(hl:∀b,b<w.heap.size\/σ b=0)(hg:lS w σ):fA w σ [] []:=
 ⟨fun k o h=>(by cases h),fun k k' o o' h h' b h1=>(by cases h1),⟨rfl,fun l fr h=>(by cases h)⟩,hl,hg⟩
theorem DL{P:Program}{f:FuncId}{args:List V}{r:V}(h:aF P f args r){w:World}{σ:Nat->Nat}(hl:∀b,b<w.heap.size\/σ b=0)(hg:lS w σ){vs:List Value}(hv:oM w σ [] [] args vs):
 Calls P f vs.toArray w fun e w'=>∃v σ',e=.returned v/\dM w' σ' [] [] r v/\Grow w σ w' σ'/\lS w' σ':=
 ((h []).2 w σ [] vs (ajj hl hg) hv).mono fun e w' ⟨v,r',S',σ',β',he,hS,hk,hst,Fp,hr,hS'⟩=>by
   subst hr hS'
   cases β' with
   |cons a l=>have:=hS.shape.1;simp at this
   |nil=>exact⟨v,σ',he,Fp,⟨hst.size,hst.os,hst.output,fun b hb=>hst.far b hb (fun⟨k,o,h,e,_⟩=>by cases e),hS.live⟩,hS.wh⟩
theorem Xr{x:V}{vs:List Value}{w:World}{σ:Nat->Nat}{S:Store}{β:Hs}(h:oM w σ S β [x] vs):∃v,vs=[v]/\dM w σ S β x v:=by
 obtain⟨hl,h⟩:=h;obtain⟨v,e0,h0⟩:=h 0 x rfl
 match vs,hl,e0 with
 |[a],_,e0=>simp at e0;subst e0;exact⟨_,rfl,h0⟩
theorem ajk(x:ah):gy x≠[]:=by
 rw[NM];split
 ·simp
 ·assumption
theorem aof{w:World}{σ:Nat->Nat}{S:Store}{β:Hs}{x:ah}{u:Value}(h:dM w σ S β x.v u):∃lv,u=.agg #[.string ⟨x.aQ.toArray⟩,lv]/\dK w σ (.sl (x.aj.map ah.enc)) lv/\lv.oneCell'=true:=by
 rw[<-ah.Na,ah.aJ] at h;obtain⟨a,rfl,hl,h⟩:=h;obtain⟨v0,e0,h0,_⟩:=h 0 _ rfl;obtain⟨v1,e1,h1,h1c⟩:=h 1 _ rfl
 obtain rfl:v0=.string ⟨x.aQ.toArray⟩:=by cases h0;rfl
 refine⟨v1,?_,h1,h1c⟩
 have:a.toList=[.string ⟨x.aQ.toArray⟩,v1]:=by
  match hq:a.toList,hl,e0,e1 with
  |[p,q],_,e0,e1=>simp at e0 e1;rw[e0,e1]
 rw[<-this]
theorem Zg(x:ah)(hsz:x.sz<=67108864)(w:World)(σ:Nat->Nat)(hl:∀b,b<w.heap.size\/σ b=0)(hgl:lS w σ)(lv:Value)(hr:dK w σ (.sl (x.aj.map ah.enc)) lv)(hlv:lv.oneCell'=true):
 Calls prog 30 #[.agg #[.string ⟨x.aQ.toArray⟩,lv]] w fun e w'=>e=.returned (.string ⟨(Bf x).toArray⟩)/\∃σ',Grow w σ w' σ'/\lS w' σ':=by
 obtain⟨wb,hwb⟩:∃wb,wb=w.alloc (.cells #[.string ⟨x.aQ.toArray⟩,lv] 37):=⟨_,rfl⟩
 have hg0:Grow w σ wb σ:=by
  rw[hwb];refine⟨by simp,rfl,rfl,fun b hb=>⟨Lib.alloc_old w _ b hb,rfl⟩,fun b=> ?_⟩;rcases hl b with h|h
  ·left;simp;omega
  ·exact .inr h
 have hrb:=dK.mono hg0.near hr
 have hv:oM wb σ [] [] [x.v] [.agg #[.string ⟨x.aQ.toArray⟩,lv]]:=by
  refine⟨rfl,fun j y hy=> ?_⟩
  match j,hy with
  |0,hy=>
   simp at hy;subst hy;refine⟨_,rfl,?_⟩;rw[<-ah.Na,ah.aJ];refine⟨_,rfl,rfl,fun j y hy=> ?_⟩
   match j,hy with
   |0,hy=>simp at hy;subst hy;exact⟨_,rfl,.s _,rfl⟩
   |1,hy=>simp at hy;subst hy;exact⟨_,rfl,hrb,hlv⟩
 have hc:=DL (qy x hsz) hg0.live (hgl.near hg0.near) hv
 have hc:Calls prog 38 #[.agg #[.string ⟨x.aQ.toArray⟩,lv]] wb fun e w'=>e=.returned (.bool (dV x))/\∃σ',Grow wb σ w' σ'/\lS w' σ':=
  hc.mono fun e w' ⟨v,σ',he,Fp,hg,hgl⟩=>by
   obtain rfl:v=.bool (dV x):=by cases Fp.1;rfl
   exact⟨he,σ',hg,hgl⟩
 rw[hwb] at hc hg0;have HF:Aside (Bf x=if dV x=true then gy x else []):=rfl;obtain⟨T,hT⟩:∃T,T=Bf x:=⟨_,rfl⟩;rw[<-hT] at HF ⊢;clear hT;by_cases uH:dV x=true
 ·rw[if_pos uH] at HF;rw[uH] at hc
  go_enter func30,ntmps30
  go_wp2_with (go_at_call 38;refine hc.mono ?_)
  rintro e w1 ⟨rfl,σ1,hg1,Bg⟩
  have hlt:w.heap.size<(w.alloc (.cells #[.string ⟨x.aQ.toArray⟩,lv] 37)).heap.size:=by simp
  have hq:w1.heap[w.heap.size]? =_:=(hg1.old _ hlt).1.trans (heap_alloc_new w _)
  have c0:w1.cell? ⟨w.heap.size,0,none⟩=some (.string ⟨x.aQ.toArray⟩):=by rw[Lib.cell_of_heap hq];rfl
  have c1:w1.cell? ⟨w.heap.size,1,none⟩=some lv:=by rw[Lib.cell_of_heap hq];rfl
  have hlt1:w.heap.size<w1.heap.size:=Nat.lt_of_lt_of_le hlt hg1.size;have hq1:=(Lib.alloc_old w1 (.cells #[.pointer none,.slice none 0 0] 120) _ hlt1).trans hq
  have d0:(w1.alloc (.cells #[.pointer none,.slice none 0 0] 120)).cell? ⟨w.heap.size,0,none⟩=some (.string ⟨x.aQ.toArray⟩):=by rw[Lib.cell_of_heap hq1];rfl
  have d1:(w1.alloc (.cells #[.pointer none,.slice none 0 0] 120)).cell? ⟨w.heap.size,1,none⟩=some lv:=by rw[Lib.cell_of_heap hq1];rfl
  have hr1:dK w1 σ1 (.sl (x.aj.map ah.enc)) lv:=dK.mono (hg0.trans hg1).near hr
  have hbd:Lib.IsBuilderF 120 5 w1.heap.size w1.heap.size [] (w1.alloc (.cells #[.pointer none,.slice none 0 0] 120)):=
   .inl ⟨Nat.le_refl _,_,heap_alloc_new w1 _,⟨rfl,.inl ⟨rfl,rfl⟩⟩,by simp[Value.ownBlock]⟩
  have hW:=Qr w1 σ1 (x.sz+1) x (Nat.lt_succ_self _) w1.heap.size [] _ lv hr1 ((Below.refl _ w1).alloc (Nat.le_refl _) _) hbd (by
   have:=FM x
   simp only[List.length_nil];omega)
  clear hq hbd hq1
  go_wp2_with (go_at_call 80;refine hW.mono ?_)
  rintro e w2 ⟨rfl,h2,hb2,hk2⟩;rw[List.nil_append] at h2;have hT:=acN w1.heap.size w1.heap.size (gy x) w2 h2 (ajk x)
  go_wp2_with (go_at_call 81;refine hT.mono ?_)
  rintro e w3 ⟨rfl,hb3⟩
  go_wp2
  go_ret
  rw[HF.out];have hb:Below w1.heap.size w1 w3:=(((Below.refl _ w1).alloc (Nat.le_refl _) _).trans hb2).trans hb3;have hg3:Grow w1 σ1 w3 σ1:=⟨hb.size,hb.os,hb.output,fun k hk=>⟨hb.block k hk,rfl⟩,fun k=>(hg1.live k).elim (fun h=>.inl (Nat.lt_of_lt_of_le h hb.size)) .inr⟩;exact⟨rfl,σ1,(hg0.trans hg1).trans hg3,Bg.near hg3.near⟩
 ·rw[if_neg uH] at HF;simp only[Bool.not_eq_true] at uH;rw[uH] at hc
  go_enter func30,ntmps30
  go_wp2_with (go_at_call 38;refine hc.mono ?_;rintro e w1 ⟨rfl,σ1,hg1,Bg⟩)
  go_ret
  rw[HF.out];exact⟨rfl,σ1,hg0.trans hg1,Bg⟩
theorem RF(x:ah)(hsz:x.sz<=67108864):aF prog 30 [x.v] (.c (.d (.s (Bf x)))):=fun S=>by
 refine⟨⟨_,func30,by kernel_rfl,by kernel_rfl⟩,fun w σ β vs hS hv=> ?_⟩;obtain⟨u,rfl,hu⟩:=Xr hv;obtain⟨lv,rfl,hr,hlv⟩:=aof hu;refine(Zg x hsz w σ hS.live hS.wh lv hr hlv).mono fun e w' ⟨he,σ',hg,_⟩=> ?_;exact⟨_,.c (.d (.s (Bf x))),S,σ',β,he,hS.grow hg,Keep.refl _ _,Step.nU hg,⟨.s _,rfl⟩,rfl,rfl⟩
structure CR(w:World)(σ:Nat->Nat)(B:Nat)(e:TypeId)(v:Value)(l:List ah):Prop where
 own:∃xs,w.ownsRow B e 2 v l.length xs/\∀(i:Nat)(d:D),(l.map ah.enc).flatten[i]? =some d->∃u,xs[i]? =some u/\dK w σ d u
 free:∀b,v.ownBlock=some b->σ b=0
theorem FN{w w':World}{B:Nat}{e:TypeId}{z n:Nat}{v:Value}{xs:List Value}(h:w.ownsRow B e z v n xs)(hk:∀b,v.ownBlock=some b->w'.heap[b]? =w.heap[b]?):w'.ownsRow B e z v n xs:=by
 refine⟨h.1,?_⟩;rcases h.2 with hn|⟨g,cap,cur,rfl,hb,hg,rest⟩
 ·exact .inl hn
 ·exact .inr ⟨g,cap,cur,rfl,hb,(hk g rfl).trans hg,rest⟩
theorem CR.mono{w w':World}{σ σ':Nat->Nat}{B:Nat}{e:TypeId}{v:Value}{l:List ah}(h:CR w σ B e v l)(hn:eu w σ w' σ')(hk:∀b,v.ownBlock=some b->w'.heap[b]? =w.heap[b]? /\σ' b=σ b):CR w' σ' B e v l:=by
 obtain⟨⟨xs,h1,h2⟩,h3⟩:=h;refine⟨⟨xs,FN h1 fun b hb=>(hk b hb).1,fun i d hd=> ?_⟩,fun b hb=>(hk b hb).2.trans (h3 b hb)⟩;obtain⟨u,hu,hr⟩:=h2 i d hd;exact⟨u,hu,hr.mono hn⟩
theorem ES(l:List ah):∀e∈l.map ah.enc,e.length=2:=by
 intro e he;obtain⟨x,_,rfl⟩:=List.mem_map.1 he;rw[ah.aJ];rfl
theorem CR.fast{w:World}{σ:Nat->Nat}{B:Nat}{e:TypeId}{v:Value}{l:List ah}(h:CR w σ B e v l)(hl:∀b,b<w.heap.size\/σ b=0):
 ∃σ',eu w σ w σ'/\(∀b,v.ownBlock≠some b->σ' b=σ b)/\(∀b,b<w.heap.size\/σ' b=0)/\dK w σ' (.sl (l.map ah.enc)) v:=by
 obtain⟨⟨xs,⟨h1,h2⟩,h3⟩,h4⟩:=h;rcases h2 with⟨rfl,h0⟩|⟨g,cap,cur,rfl,hb,hg,hn,hm,hs,ht⟩
 ·obtain rfl:l=[]:=List.eq_nil_of_length_eq_zero h0;exact⟨σ,eu.refl _ _,fun _ _=>rfl,hl,.nil _ _⟩
 have hn':eu w σ w (fun b=>if b=g then 0+(l.map ah.enc).length*2 else σ b):=by
  intro b1 c1 t1 Fj e1;by_cases q:b1=g
  ·subst q;have:=h4 b1 rfl;rw[hg] at e1;cases e1;exact⟨by simp only[if_true];omega,fun h=>by omega,cur,hg,rfl,fun _ _=>rfl⟩
  ·exact⟨by simp only[if_neg q];exact Nat.le_refl _,fun _=>if_neg q,c1,e1,rfl,fun _ _=>rfl⟩
 refine⟨_,hn',fun b hb=>if_neg fun q=>hb (by rw[q];rfl),fun b=> ?_,?_⟩
 ·by_cases q:b=g
  ·left;rw[q];exact lt_of_some hg
  ·simp only[if_neg q];exact hl b
 ·have hlen:(l.map ah.enc).length=l.length:=by simp
  have hfl:=jB _ 2 (ES l)
  have:=dK.sl (w:=w) (σ:=fun b=>if b=g then 0+(l.map ah.enc).length*2 else σ b) g 0 cap 2 (l.map ah.enc) (fun i=>(cur[i]?).getD undef) cur e (0,0) (by omega) (ES l) hg (by simp) (fun i hi=>by
   have:i<cur.size:=by rw[hlen] at hi;have:l.length*2<=cap*2:=Nat.mul_le_mul_right _ hn;omega
   simp[this]) (fun i d hd=>by
   obtain⟨u,hu,hr⟩:=h3 i d hd;have hil:=(List.getElem?_eq_some_iff.1 hd).1;rw[<-ht,List.getElem?_take_of_lt (by omega),Array.getElem?_toList] at hu;simp only[hu,Option.getD_some]
   exact hr.mono hn')
  simp only[List.length_map] at this ⊢;exact this
structure jX(w:World)(σ:Nat->Nat)(B:Nat)(eo e:TypeId)(ov:Value)(hs:List Value)(rs:List (List ah)):Prop where
 own:w.ownsRow B eo 1 ov hs.length hs
 free:∀b,ov.ownBlock=some b->σ b=0
 rows:∀(j:Nat)(l:List ah),rs[j]? =some l->∃hv,hs[j]? =some hv/\CR w σ B e hv l/\∀b,hv.ownBlock=some b->ov.ownBlock≠some b
 apart:∀(i j:Nat)(hi hj:Value)(b:Nat),i≠j->i<rs.length->j<rs.length->hs[i]? =some hi->hs[j]? =some hj->hi.ownBlock=some b->hj.ownBlock≠some b
theorem jX.mono{w w':World}{σ σ':Nat->Nat}{B:Nat}{eo e:TypeId}{ov:Value}{hs:List Value}{rs:List (List ah)}(h:jX w σ B eo e ov hs rs)(hn:eu w σ w' σ')
 (hk:∀b,b<w.heap.size->σ b=0->w'.heap[b]? =w.heap[b]? /\σ' b=σ b):jX w' σ' B eo e ov hs rs:=by
 have hlt:∀b,ov.ownBlock=some b->b<w.heap.size:=fun b hb=>(h.own.lt b hb).2;refine⟨FN h.own fun b hb=>(hk b (hlt b hb) (h.free b hb)).1,fun b hb=>(hk b (hlt b hb) (h.free b hb)).2.trans (h.free b hb),fun j l hj=> ?_,h.apart⟩;obtain⟨hv,h1,h2,h3⟩:=h.rows j l hj;refine⟨hv,h1,h2.mono hn fun b hb=> ?_,h3⟩;obtain⟨xs,ho,_⟩:=h2.own;exact hk b (ho.lt b hb).2 (h2.free b hb)
theorem jX.grow{w w':World}{σ σ':Nat->Nat}{B:Nat}{eo e:TypeId}{ov:Value}{hs:List Value}{rs:List (List ah)}(h:jX w σ B eo e ov hs rs)(hg:Grow w σ w' σ'):jX w' σ' B eo e ov hs rs:=
 h.mono hg.near fun b hb _=>hg.old b hb
theorem jX.fast{w:World}{σ:Nat->Nat}{B:Nat}{eo e:TypeId}{ov:Value}{hs:List Value}{rs:List (List ah)}{l:List ah}(h:jX w σ B eo e ov hs (rs++[l]))(hl:∀b,b<w.heap.size\/σ b=0):
 ∃σ' hv,eu w σ w σ'/\(∀b,b<w.heap.size\/σ' b=0)/\(∀b,b<B->σ' b=σ b)/\hs[rs.length]? =some hv/\dK w σ' (.sl (l.map ah.enc)) hv/\jX w σ' B eo e ov hs rs:=by
 obtain⟨hv,h1,h2,h3⟩:=h.rows rs.length l (by simp);obtain⟨σ',k1,k2,k3,k4⟩:=h2.fast hl;refine⟨σ',hv,k1,k3,fun b hb=>k2 b fun q=> ?_,h1,k4,h.own,fun b hb=>(k2 b fun q=>h3 b q hb).trans (h.free b hb),fun j l' hj=> ?_,fun i j hi hj b q1 q2 q3=>h.apart i j hi hj b q1 (by simp;omega) (by simp;omega)⟩
 ·obtain⟨xs,ho,_⟩:=h2.own;have:=(ho.lt b q).1;omega
 ·have hjl:=(List.getElem?_eq_some_iff.1 hj).1;obtain⟨hv',g1,g2,g3⟩:=h.rows j l' (by rw[List.getElem?_append_left hjl];exact hj);exact⟨hv',g1,g2.mono k1 fun b hb=>⟨rfl,k2 b fun q=>h.apart j rs.length hv' hv b (by omega) (by simp;omega) (by simp) g1 h1 hb q⟩,g3⟩
def qm(w W:World):Prop:=∀(b:Nat)(c:Array Value)(t:TypeId)(fz:Nat×Nat),w.heap[b]? =some (.cells c t fz)->∃c',W.heap[b]? =some (.cells c' t fz)/\c'.size=c.size
theorem qm.trans{a b c:World}(h:qm a b)(k:qm b c):qm a c:=fun x y t fz e=>by
 obtain⟨c1,e1,s1⟩:=h x y t fz e;obtain⟨c2,e2,s2⟩:=k x c1 t fz e1;exact⟨c2,e2,s2.trans s1⟩
theorem qm.setCell(w:World)(a:Addr)(v:Value)(ha:a.spot=none):qm w (w.setCell a v):=fun b c t fz e=>by
 obtain⟨bb,off,sp⟩:=a;simp only at ha;subst ha;by_cases q:bb=b
 ·subst q;exact⟨c.setIfInBounds off v,by simp[World.setCell,Array.getElem?_modify,e],by simp⟩
 ·exact⟨c,by simp[World.setCell,Array.getElem?_modify,q,e],rfl⟩
theorem qm.alloc(w:World)(o:Go.Obj):qm w (w.alloc o):=fun b c t fz e=>⟨c,(Lib.alloc_old w o b (lt_of_some e)).trans e,rfl⟩
theorem L8{w W:World}{σ:Nat->Nat}(hs:qm w W)(hf:∀b,σ b≠0->W.heap[b]? =w.heap[b]?):eu w σ W σ:=by
 intro b c t fz e;refine⟨Nat.le_refl _,fun _=>rfl,?_⟩;by_cases h0:σ b=0
 ·obtain⟨c',e',hz⟩:=hs b c t fz e;exact⟨c',e',hz,fun i hi=>by omega⟩
 ·exact⟨c,(hf b h0).trans e,rfl,fun _ _=>rfl⟩
theorem jX.put{w W:World}{σ:Nat->Nat}{B g cap j:Nat}{eo e:TypeId}{hs:List Value}{rs:List (List ah)}{l':List ah}{hv hv':Value}{cur:Array Value}(hl:∀b,b<w.heap.size\/σ b=0)
 (h:jX w σ B eo e (.slice (some ⟨g,0,none⟩) hs.length cap) hs rs)(hj:j<rs.length)(hh:hs[j]? =some hv)(hn:eu w σ W σ)(hg:w.heap[g]? =some (.cells cur eo (0,0)))(hG:W.heap[g]? =some (.cells (cur.setIfInBounds j hv') eo (0,0)))
 (uo:∀b,b<w.heap.size->b≠g->hv.ownBlock≠some b->W.heap[b]? =w.heap[b]?)(hrow:CR W σ B e hv' l')(hblk:∀b,hv'.ownBlock=some b->hv.ownBlock=some b\/w.heap.size<=b):
 jX W σ B eo e (.slice (some ⟨g,0,none⟩) hs.length cap) (hs.set j hv') (rs.set j l'):=by
 have hgl:=lt_of_some hg;have hg0:σ g=0:=h.free g rfl;obtain⟨l,hlj⟩:∃l,rs[j]? =some l:=⟨_,List.getElem?_eq_getElem hj⟩;obtain⟨hv0,a1,a2,a3⟩:=h.rows j l hlj;rw[hh] at a1;cases a1;have Jv:=(List.getElem?_eq_some_iff.1 hh).1
 have low:∀(i:Nat)(l0:List ah)(hv0:Value),rs[i]? =some l0->hs[i]? =some hv0->∀b,hv0.ownBlock=some b->b<w.heap.size:=fun i l0 hv0 e1 e2 b hb=>by
  obtain⟨hv1,c1,c2,_⟩:=h.rows i l0 e1;rw[e2] at c1;cases c1;obtain⟨xs,ho,_⟩:=c2.own;exact(ho.lt b hb).2
 refine⟨?_,h.free,fun i l0 hi=> ?_,fun i k hi hk b hne h1 h2 e1 e2 e3=> ?_⟩
 ·rw[List.length_set];obtain⟨o1,o2⟩:=h.own;refine⟨by rw[List.length_set];exact o1,?_⟩;rcases o2 with⟨o2,_⟩|⟨g0,cap0,atF,e0,hb0,hg0',hn0,hm0,hs0,ht0⟩
  ·cases o2
  ·cases e0;rw[hg] at hg0';cases hg0';refine .inr ⟨g,cap,_,rfl,hb0,hG,hn0,hm0,by simpa using hs0,?_⟩;rw[Nat.mul_one] at ht0 ⊢;rw[Array.toList_setIfInBounds,List.take_set,ht0]
 ·by_cases q:i=j
  ·subst q
   have:l'=l0:=by
    rw[List.getElem?_set_self hj] at hi;exact Option.some.inj hi
   subst this;refine⟨hv',List.getElem?_set_self Jv,hrow,fun b hb q=> ?_⟩;cases q;rcases hblk g hb with k|k
   ·exact a3 g k rfl
   ·omega
  ·rw[List.getElem?_set_ne (Ne.symm q)] at hi ⊢;obtain⟨hv1,c1,c2,c3⟩:=h.rows i l0 hi;refine⟨hv1,c1,c2.mono hn fun b hb=>⟨uo b (low i l0 hv1 hi c1 b hb) (fun e=>c3 b hb (by rw[e];rfl)) fun e=> ?_,rfl⟩,c3⟩;exact h.apart i j hv1 hv b q (List.getElem?_eq_some_iff.1 hi).1 hj c1 hh hb e
 ·rw[List.length_set] at h1 h2;by_cases q:i=j
  ·subst q;rw[List.getElem?_set_self Jv] at e1;cases e1;rw[List.getElem?_set_ne hne] at e2;intro q3;rcases hblk b e3 with k'|k'
   ·exact h.apart i k hv hk b hne h1 h2 hh e2 k' q3
   ·have:=low k _ hk (List.getElem?_eq_getElem h2) e2 b q3;omega
  ·rw[List.getElem?_set_ne (Ne.symm q)] at e1;by_cases q2:k=j
   ·subst q2;rw[List.getElem?_set_self Jv] at e2;cases e2;intro q3;rcases hblk b q3 with k'|k'
    ·exact h.apart i k hi hv b hne h1 h2 e1 hh e3 k'
    ·have:=low i _ hi (List.getElem?_eq_getElem h1) e1 b e3;omega
   ·rw[List.getElem?_set_ne (Ne.symm q2)] at e2;exact h.apart i k hi hk b hne h1 h2 e1 e2 e3
theorem KO{P:Program}(w:World)(base:Nat)(t ty e:TypeId)(i:TypeInfo)(z:Value)(size bytes:Nat)(ht:P.underlying t=some (.slice e))(hi:P.info? e=some i)(hz:i.zero=some z)
 (hsize:i.size=size)(hby:i.bytes=bytes)(hzs:z.cells.size=size)(hsz:0<size)
 (v:Value)(n:Nat)(xs:List Value)(hown:w.ownsRow base e size v n xs)
 (a:Addr)(m c:Nat)(news:List Value)(hl:news.length=m*size)(hnews:∀j u,news[j]? =some u->w.cell? (a.add j)=some u)(h1:∀u∈news,u.oneCell'=true)
 (hm:0<m)(h63:n+m<=maxLen)(hbytes:(n+m)*bytes<=140737488355328)(hbase:base<=w.heap.size):
 ∃g cap w',(Builtin.append_ #[t,t] ty #[v,.slice (some a) m c]).run P w=.ok (.slice (some ⟨g,0,none⟩) (n+m) cap) w'/\w'.ownsRow base e size (.slice (some ⟨g,0,none⟩) (n+m) cap) (n+m) (xs++news)/\w.grownBy w' v.ownBlock/\
  (v.ownBlock=some g\/g=w.heap.size)/\g<w'.heap.size/\qm w w':=by
 obtain⟨g,cap,w',hr,h2,h3,h4,h5⟩:=run_append_lies (P:=P) w t ty base e i z size bytes ht hi hz hsize hby hzs hsz v n xs hown a m c news hl hnews h1 hm h63 hbytes hbase w.heap.size rfl;refine⟨g,cap,w',hr,h2,h3,h4,h5,fun b cc tt fz hb=> ?_⟩;by_cases q:v.ownBlock=some b
 rotate_left
 ·exact⟨cc,(h3.block b (lt_of_some hb) fun e=>q e.symm).trans hb,rfl⟩
 rcases hown.2 with⟨rfl,_⟩|⟨g0,cap0,cur,rfl,hbg,hg,hnc,hcm,hcs,htake⟩
 ·cases q
 cases q;rw[hg] at hb;cases hb;subst hsize;by_cases hroom:n+m<=cap0
 ·have hr':=run_append_roomF (P:=P) w t ty e i ht hi g0 n cap0 cc (0,0) hg (Nat.zero_le _) a m c news hl hnews h1 hroom (by rw[hl,hcs,<-Nat.add_mul];exact Nat.mul_le_mul_right _ hroom);rw[hr] at hr';injection hr' with _ hw;subst hw;refine⟨_,setRow_heap w g0 cc _ e _ hg,?_⟩
  have hmul:n*i.size+m*i.size<=cap0*i.size:=by rw[<-Nat.add_mul];exact Nat.mul_le_mul_right _ hroom
  simp only[List.size_toArray,List.length_append,List.length_take,List.length_drop,Array.length_toList];omega
 ·have holds:∀j u,xs[j]? =some u->w.cell? ((⟨g0,0,none⟩:Addr).add j)=some u:=hown.cells (g:=g0) rfl;have hr':=run_append_grow (P:=P) w t ty e i z ht hi hz ⟨g0,0,none⟩ n cap0 xs hown.1 holds a m c news hl hnews (by omega) (by simp only[maxLen] at h63;omega) (growslice_fits (by simp only[maxLen] at h63;omega) (by rw[hby];exact hbytes));rw[hr] at hr';injection hr' with _ hw;subst hw;exact⟨cc,(Lib.alloc_old w.drew _ _ (lt_of_some hg)).trans hg,rfl⟩
theorem ajl(w:World)(σ:Nat->Nat)(B:Nat)(e:TypeId):CR w σ B e (.slice none 0 0) []:=
 ⟨⟨[],⟨rfl,.inl ⟨rfl,rfl⟩⟩,fun i d hd=>by cases hd⟩,fun b hb=>by cases hb⟩
theorem ajm{P:Program}{w w0:World}{σ σ0:Nat->Nat}{B g n cap:Nat}{eo e ty t:TypeId}{hs:List Value}{rs:List (List ah)}{i:TypeInfo}{bytes:Nat}(ht:P.underlying t=some (.slice eo))(hi:P.info? eo=some i)(hz:i.zero=some (.slice none 0 0))
 (hsize:i.size=1)(hby:i.bytes=bytes)(h:jX w σ B eo e (.slice (some ⟨g,0,none⟩) n cap) hs rs)(hn:hs.length=n)(hr:rs.length=n)(hbz:bytes<=1024)(hn2:n<=1048576)
 (ad:Addr)(c:Nat)(hc:w.cell? ad=some (.slice none 0 0))(had:ad.add 0=ad)(hl:∀b,b<w.heap.size\/σ b=0)(hB:B<=w.heap.size):
 ∃g' cap' w',(Builtin.append_ #[t,t] ty #[.slice (some ⟨g,0,none⟩) n cap,.slice (some ad) 1 c]).run P w=.ok (.slice (some ⟨g',0,none⟩) (n+1) cap') w'/\
  jX w' σ B eo e (.slice (some ⟨g',0,none⟩) (n+1) cap') (hs++[.slice none 0 0]) (rs++[[]])/\eu w σ w' σ/\(∀b,b<w.heap.size->b≠g->w'.heap[b]? =w.heap[b]?)/\w.heap.size<=w'.heap.size/\w'.os=w.os/\w'.output=w.output:=by
 subst hn
 obtain⟨g',cap',w',q1,q2,q3,q4,q5,q6⟩:=KO (P:=P) w B t ty eo i (.slice none 0 0) 1 bytes ht hi hz hsize hby rfl (by omega) _ _ _ h.own ad 1 c [.slice none 0 0] rfl (fun j u hu=>by
  match j,hu with
  |0,hu=>cases hu;rw[had];exact hc
  |j+1,hu=>cases hu) (fun u hu=>by rw[List.mem_singleton.1 hu];rfl) (by omega) (by unfold maxLen;omega) (by
   have:(hs.length+1)*bytes<=(1048576+1)*1024:=Nat.mul_le_mul (by omega) hbz
   omega) hB
 have hg0:σ g=0:=h.free g rfl;have hold:∀b,b<w.heap.size->b≠g->w'.heap[b]? =w.heap[b]? :=fun b hb hne=>q3.block b hb fun e=>hne (Option.some.inj e);have hnr:eu w σ w' σ:=L8 q6 fun b hb=>hold b ((hl b).elim id fun e=>absurd e hb) fun e=>hb (by rw[e];exact hg0);refine⟨g',cap',w',q1,?_,hnr,hold,q3.size,q3.os,q3.output⟩;have hgl:g<w.heap.size:=(h.own.lt g rfl).2;have q4':g'=g\/g'=w.heap.size:=q4.elim (fun e=>.inl (Option.some.inj e).symm) .inr;refine⟨by rw[List.length_append];exact q2,fun b hb=> ?_,fun j l hj=> ?_,fun a b ha hb x hne h1 h2 e1 e2 e3=> ?_⟩
 ·cases hb;rcases q4' with rfl|rfl
  ·exact hg0
  ·exact(hl _).elim (fun h=>absurd h (Nat.lt_irrefl _)) id
 ·by_cases hjr:j<rs.length
  ·rw[List.getElem?_append_left hjr] at hj;obtain⟨hv,a1,a2,a3⟩:=h.rows j l hj;obtain⟨xs,ho,_⟩:=a2.own;refine⟨hv,by rw[List.getElem?_append_left (List.getElem?_eq_some_iff.1 a1).1];exact a1,a2.mono hnr fun b hb=>⟨hold b (ho.lt b hb).2 fun e=>a3 b hb (by rw[e];rfl),rfl⟩,fun b hb q=> ?_⟩;cases q;rcases q4' with rfl|rfl
   ·exact a3 _ hb rfl
   ·exact absurd (ho.lt _ hb).2 (Nat.lt_irrefl _)
  ·have hj0:j=rs.length:=by
    have:=(List.getElem?_eq_some_iff.1 hj).1;simp at this;omega
   subst hj0;rw[List.getElem?_append_right (Nat.le_refl _),Nat.sub_self] at hj;cases hj;exact⟨.slice none 0 0,by rw[List.getElem?_append_right (by omega),hr,Nat.sub_self];rfl,ajl _ _ _ _,fun b hb=>by cases hb⟩
 ·by_cases ha':a<rs.length
  ·by_cases hb':b<rs.length
   ·rw[List.getElem?_append_left (by omega)] at e1 e2;exact h.apart a b ha hb x hne ha' hb' e1 e2 e3
   ·have:b=rs.length:=by simp at h2;omega
    subst this;rw[List.getElem?_append_right (by omega),hr,Nat.sub_self] at e2;cases e2;intro q;cases q
  ·have:a=rs.length:=by simp at h1;omega
   subst this;rw[List.getElem?_append_right (by omega),hr,Nat.sub_self] at e1;cases e1;cases e3
theorem acQ{w:World}(o:Go.Obj){b j:Nat}{u:Value}(h:w.cell? ⟨b,j,none⟩=some u):(w.alloc o).cell? ⟨b,j,none⟩=some u:=by
 cases hb:w.heap[b]? with
 |none=>simp[World.cell?,hb] at h
 |some o'=>
  rw[<-h];exact World.cell?_of_block (Lib.alloc_old w o b (lt_of_some hb))
theorem Qs{w:World}{σ:Nat->Nat}{B g cap n:Nat}{eo e:TypeId}{hs:List Value}{rs:List (List ah)}(h:jX w σ B eo e (.slice (some ⟨g,0,none⟩) n cap) hs rs)(j:Nat):w.frozen? ⟨g,j,none⟩=false:=by
 rcases h.own.2 with⟨h1,_⟩|⟨g0,cap0,cur,e0,_,hg,_⟩
 ·cases h1
 ·simp only[Value.slice.injEq,Option.some.injEq,Addr.mk.injEq,and_true] at e0;obtain⟨rfl,_,rfl⟩:=e0;exact Lib.frozen_of_heap hg j
theorem kC{w:World}{g j b:Nat}{v:Value}(h:b≠g):(w.setCell ⟨g,j,none⟩ v).heap[b]? =w.heap[b]? :=by
 simp[World.setCell,Array.getElem?_modify,Ne.symm h]
theorem NN{w:World}{g j:Nat}{v:Value}{cur:Array Value}{t:TypeId}{fz:Nat×Nat}(h:w.heap[g]? =some (.cells cur t fz)):(w.setCell ⟨g,j,none⟩ v).heap[g]? =some (.cells (cur.setIfInBounds j v) t fz):=by
 simp[World.setCell,Array.getElem?_modify,h]
theorem ajn{w:World}{σ:Nat->Nat}{B g n cap:Nat}{eo e:TypeId}{hs:List Value}{hv:Value}{rs:List (List ah)}(h:jX w σ B eo e (.slice (some ⟨g,0,none⟩) (n+1) cap) (hs++[hv]) rs)(hn:hs.length=n)(hr:rs.length<=n):
 jX w σ B eo e (.slice (some ⟨g,0,none⟩) n cap) hs rs:=by
 refine⟨?_,h.free,fun j l' hj=> ?_,fun i j hi hj b hne h1 h2 e1 e2=> ?_⟩
 ·obtain⟨o1,o2⟩:=h.own;refine⟨by rw[hn];omega,?_⟩;rcases o2 with⟨o2,_⟩|⟨g0,cap0,cur,e0,hb,hg,hnc,hm,hsz,ht⟩
  ·cases o2
  ·simp only[Value.slice.injEq,Option.some.injEq,Addr.mk.injEq,and_true] at e0;obtain⟨rfl,_,rfl⟩:=e0;refine .inr ⟨g,cap,cur,by rw[hn],hb,hg,?_,hm,hsz,?_⟩
   ·rw[List.length_append] at hnc;omega
   ·have:=congrArg (List.take (hs.length*1)) ht;rw[List.take_take,List.length_append,Nat.min_eq_left (by simp)] at this;rw[this,Nat.mul_one,List.take_append_of_le_length (Nat.le_refl _),List.take_length]
 ·have hjl:=(List.getElem?_eq_some_iff.1 hj).1;obtain⟨hv',a1,a2,a3⟩:=h.rows j l' hj;rw[List.getElem?_append_left (by omega)] at a1;exact⟨hv',a1,a2,a3⟩
 ·have i1:=(List.getElem?_eq_some_iff.1 e1).1;have j1:=(List.getElem?_eq_some_iff.1 e2).1;exact h.apart i j hi hj b hne h1 h2 (by rw[List.getElem?_append_left i1];exact e1) (by rw[List.getElem?_append_left j1];exact e2)
theorem Xt{W:World}{σ:Nat->Nat}{B:Nat}{e:TypeId}{v:Value}{l:List ah}{ys:List Value}{x:ah}{lv:Value}
 (hown:W.ownsRow B e 2 v (l.length+1) (ys++[.string ⟨x.aQ.toArray⟩,lv]))(hys:ys.length=l.length*2)
 (hy:∀(i:Nat) (d:D),(l.map ah.enc).flatten[i]? =some d->∃u,ys[i]? =some u/\dK W σ d u)(hx:dK W σ (.sl (x.aj.map ah.enc)) lv)(hf:∀b,v.ownBlock=some b->σ b=0):CR W σ B e v (l++[x]):=by
 have hfl:(l.map ah.enc).flatten.length=l.length*2:=by
  have:=jB (l.map ah.enc) 2 (ES l);simpa using this
 have e1:([x].map ah.enc).flatten=[.s x.aQ,.sl (x.aj.map ah.enc)]:=by
  rw[List.map_singleton,List.flatten_singleton,ah.aJ]
 refine⟨⟨_,by rw[List.length_append,List.length_singleton];exact hown,fun i d hd=> ?_⟩,hf⟩;rw[List.map_append,List.flatten_append,e1] at hd;by_cases hi:i<l.length*2
 ·rw[List.getElem?_append_left (by omega)] at hd;obtain⟨u,hu,hr⟩:=hy i d hd;exact⟨u,by rw[List.getElem?_append_left (by omega)];exact hu,hr⟩
 ·rw[List.getElem?_append_right (by omega),hfl] at hd
  have hw:(ys++[Value.string ⟨x.aQ.toArray⟩,lv])[i]? =[Value.string ⟨x.aQ.toArray⟩,lv][i-l.length*2]? :=by
   rw[List.getElem?_append_right (by omega),hys]
  rw[hw];generalize i-l.length*2=k at hd
  match k,hd with
  |0,hd=>simp at hd;subst hd;exact⟨_,rfl,.s _⟩
  |1,hd=>simp at hd;subst hd;exact⟨_,rfl,hx⟩
  |k+2,hd=>simp at hd
theorem alZ{w w2:World}{σ:Nat->Nat}{B g cap j:Nat}{eo e:TypeId}{hs:List Value}{rs:List (List ah)}{l:List ah}{hv hv':Value}{x:ah}{lv:Value}{ys:List Value}(hl:∀b,b<w.heap.size\/σ b=0)
 (hst:jX w σ B eo e (.slice (some ⟨g,0,none⟩) hs.length cap) hs rs)(hjl:rs[j]? =some l)(hh:hs[j]? =some hv)
 (hown:w2.ownsRow B e 2 hv' (l.length+1) (ys++[.string ⟨x.aQ.toArray⟩,lv]))(hys:ys.length=l.length*2)
 (hy:∀(i:Nat) (d:D),(l.map ah.enc).flatten[i]? =some d->∃u,ys[i]? =some u/\dK w σ d u)(hx:dK w σ (.sl (x.aj.map ah.enc)) lv)
 (h12:∀b,b<w.heap.size->hv.ownBlock≠some b->w2.heap[b]? =w.heap[b]?)(hsm:qm w w2)(hblk:∀b,hv'.ownBlock=some b->hv.ownBlock=some b\/w.heap.size<=b):
 eu w σ (w2.setCell ⟨g,j,none⟩ hv') σ/\jX (w2.setCell ⟨g,j,none⟩ hv') σ B eo e (.slice (some ⟨g,0,none⟩) hs.length cap) (hs.set j hv') (rs.set j (l++[x]))/\
  ∀b,b<w.heap.size->b≠g->hv.ownBlock≠some b->(w2.setCell ⟨g,j,none⟩ hv').heap[b]? =w.heap[b]? :=by
 obtain⟨hv0,a1,a2,a3⟩:=hst.rows j l hjl;rw[hh] at a1;cases a1;have hg0:σ g=0:=hst.free g rfl;have KP:hv.ownBlock≠some g:=fun q=>a3 g q rfl
 obtain⟨cur,hg⟩:∃cur,w.heap[g]? =some (.cells cur eo (0,0)):=by
  rcases hst.own.2 with⟨o2,_⟩|⟨g0,cap0,cur,e0,hb,hg,_⟩
  ·cases o2
  ·cases e0;exact⟨cur,hg⟩
 have hgl:=lt_of_some hg;have hg2:=(h12 g hgl KP).trans hg;have uo:∀b,b<w.heap.size->b≠g->hv.ownBlock≠some b->(w2.setCell ⟨g,j,none⟩ hv').heap[b]? =w.heap[b]? :=fun b h1 h2 h3=>(kC h2).trans (h12 b h1 h3)
 have zQ:eu w σ (w2.setCell ⟨g,j,none⟩ hv') σ:=L8 (hsm.trans (qm.setCell _ _ _ rfl)) fun b hb=>
  uo b ((hl b).resolve_right hb) (fun q=>hb (by rw[q];exact hg0)) fun q=>hb (a2.free b q)
 have hne:∀b,hv'.ownBlock=some b->b≠g:=fun b hb q=>by
  subst q;rcases hblk b hb with k|k
  ·exact KP k
  ·omega
 have hrow:CR (w2.setCell ⟨g,j,none⟩ hv') σ B e hv' (l++[x]):=Xt (FN hown fun b hb=>kC (hne b hb)) hys (fun i d hd=>by
  obtain⟨u,hu,hr⟩:=hy i d hd
  exact⟨u,hu,hr.mono zQ⟩) (hx.mono zQ) fun b hb=>by
   rcases hblk b hb with k|k
   ·exact a2.free b k
   ·exact(hl b).resolve_left (by omega)
 exact⟨zQ,jX.put hl hst (List.getElem?_eq_some_iff.1 hjl).1 hh zQ hg (NN hg2) uo hrow hblk,uo⟩
theorem Xu{w:World}{σ:Nat->Nat}{B g g1 cap jy j:Nat}{eo e:TypeId}{hs:List Value}{rs:List (List ah)}{l:List ah}{x0 x:ah}{lv:Value}(hl:∀b,b<w.heap.size\/σ b=0)
 (hst:jX w σ B eo e (.slice (some ⟨g,0,none⟩) hs.length cap) hs rs)(hjl:rs[j]? =some (l++[x0]))(hh:hs[j]? =some (.slice (some ⟨g1,0,none⟩) (l.length+1) jy))(hx:dK w σ (.sl (x.aj.map ah.enc)) lv):
 eu w σ ((w.setCell ⟨g1,l.length*2,none⟩ (.string ⟨x.aQ.toArray⟩)).setCell ⟨g1,l.length*2+1,none⟩ lv) σ/\
  jX ((w.setCell ⟨g1,l.length*2,none⟩ (.string ⟨x.aQ.toArray⟩)).setCell ⟨g1,l.length*2+1,none⟩ lv) σ B eo e (.slice (some ⟨g,0,none⟩) hs.length cap) hs (rs.set j (l++[x]))/\
  ∀b,b≠g1->((w.setCell ⟨g1,l.length*2,none⟩ (.string ⟨x.aQ.toArray⟩)).setCell ⟨g1,l.length*2+1,none⟩ lv).heap[b]? =w.heap[b]? :=by
 obtain⟨W,hW⟩:∃W,W=(w.setCell ⟨g1,l.length*2,none⟩ (.string ⟨x.aQ.toArray⟩)).setCell ⟨g1,l.length*2+1,none⟩ lv:=⟨_,rfl⟩;obtain⟨hv0,a1,a2,a3⟩:=hst.rows j _ hjl;rw[hh] at a1;cases a1;have hg0:σ g=0:=hst.free g rfl;have KP:g≠g1:=fun q=>a3 g1 rfl (by rw[q];rfl)
 have UU:∀b,b≠g1->W.heap[b]? =w.heap[b]? :=fun b hb=>by rw[hW,kC hb,kC hb]
 obtain⟨cur,hg,hcur⟩:∃cur,w.heap[g]? =some (.cells cur eo (0,0))/\cur.toList.take hs.length=hs:=by
  rcases hst.own.2 with⟨o2,_⟩|⟨g0,cap0,cur,e0,hb,hg,_,_,_,ht⟩
  ·cases o2
  ·cases e0;exact⟨cur,hg,by rw[Nat.mul_one] at ht;exact ht⟩
 have hjh:=(List.getElem?_eq_some_iff.1 hh).1
 have hself:cur.setIfInBounds j (.slice (some ⟨g1,0,none⟩) (l.length+1) jy)=cur:=by
  have h1:cur.toList[j]? =some (.slice (some ⟨g1,0,none⟩) (l.length+1) jy):=by
   have q:(cur.toList.take hs.length)[j]? =hs[j]? :=by rw[hcur]
   rw[<-hh,<-q,List.getElem?_take_of_lt hjh]
  obtain⟨h2,h3⟩:=List.getElem?_eq_some_iff.1 h1;refine Array.ext' ?_;rw[Array.toList_setIfInBounds,<-h3,List.set_getElem_self]
 have aog:hs.set j (.slice (some ⟨g1,0,none⟩) (l.length+1) jy)=hs:=by
  obtain⟨h2,h3⟩:=List.getElem?_eq_some_iff.1 hh;rw[<-h3,List.set_getElem_self]
 have hsame:qm w W:=by
  rw[hW];exact(qm.setCell _ _ _ rfl).trans (qm.setCell _ _ _ rfl)
 have zQ:eu w σ W σ:=L8 hsame fun b hb=>UU b fun q=>hb (a2.free b (by rw[q];rfl));obtain⟨⟨xs,ho,hxs⟩,hf⟩:=a2;obtain⟨ho1,ho2⟩:=ho;rw[List.length_append,List.length_singleton] at ho1 ho2
 obtain⟨qY,hb1,hg1,hc1,hc2,hc3,ht1⟩:∃qY,B<=g1/\w.heap[g1]? =some (.cells qY e (0,0))/\l.length+1<=jy/\jy<=maxLen/\qY.size=jy*2/\qY.toList.take ((l.length+1)*2)=xs:=by
  rcases ho2 with⟨o2,_⟩|⟨g0,cap0,cur,e0,q⟩
  ·cases o2
  ·simp only[Value.slice.injEq,Option.some.injEq,Addr.mk.injEq,and_true] at e0;obtain⟨rfl,_,rfl⟩:=e0;exact⟨cur,q⟩
 have hW1:W.heap[g1]? =some (.cells ((qY.setIfInBounds (l.length*2) (.string ⟨x.aQ.toArray⟩)).setIfInBounds (l.length*2+1) lv) e (0,0)):=by
  rw[hW];exact NN (NN hg1)
 have hrow:CR W σ B e (.slice (some ⟨g1,0,none⟩) (l.length+1) jy) (l++[x]):=by
  have hys:(xs.take (l.length*2)).length=l.length*2:=by rw[List.length_take];omega
  refine Xt (ys:=xs.take (l.length*2)) (lv:=lv) ⟨by simp only[List.length_append,hys,List.length_cons,List.length_nil];omega,.inr ⟨g1,jy,_,rfl,hb1,hW1,hc1,hc2,by simpa using hc3,?_⟩⟩ hys (fun i d hd=> ?_) (hx.mono zQ) hf
  ·rw[Array.toList_setIfInBounds,Array.toList_setIfInBounds,List.take_set,List.take_set,ht1];refine List.ext_getElem? fun i=> ?_;rcases Nat.lt_trichotomy i (l.length*2) with h|h|h
   ·rw[List.getElem?_set_ne (by omega),List.getElem?_set_ne (by omega),List.getElem?_append_left (by omega),List.getElem?_take_of_lt h]
   ·subst h;rw[List.getElem?_set_ne (by omega),List.getElem?_set_self (by omega),List.getElem?_append_right (by omega),hys,Nat.sub_self];rfl
   ·rw[List.getElem?_append_right (by omega),hys];by_cases h2:i=l.length*2+1
    ·subst h2;rw[List.getElem?_set_self (by rw[List.length_set];omega),Nat.add_sub_cancel_left];rfl
    ·rw[List.getElem?_eq_none (by simp only[List.length_set];omega),List.getElem?_eq_none (by simp only[List.length_cons,List.length_nil];omega)]
  ·have hfl:(l.map ah.enc).flatten.length=l.length*2:=by
    have:=jB (l.map ah.enc) 2 (ES l);simpa using this
   have hi:=(List.getElem?_eq_some_iff.1 hd).1;obtain⟨u,hu,hr⟩:=hxs i d (by rw[List.map_append,List.flatten_append,List.getElem?_append_left hi];exact hd);exact⟨u,by rw[List.getElem?_take_of_lt (by omega)];exact hu,hr.mono zQ⟩
 rw[<-hW];refine⟨zQ,?_,UU⟩;have:=jX.put (hv':=.slice (some ⟨g1,0,none⟩) (l.length+1) jy) hl hst (List.getElem?_eq_some_iff.1 hjl).1 hh zQ hg (by rw[hself];exact(UU g KP).trans hg) (fun b _ _ h3=>UU b fun q=>h3 (by rw[q];rfl)) hrow (fun b hb=>.inl hb);rw[aog] at this;exact this
theorem aqd{wq:World}{u v:Value}{T:TypeId}:∀j x,([u,v]:List Value)[j]? =some x->(wq.drew.alloc (.cells #[u,v] T)).cell? ((⟨wq.heap.size,0,none⟩:Addr).add j)=some x:=by
 intro j x hx;exact World.news_of_block (heap_alloc_new wq.drew (.cells #[u,v] T)) j x hx
theorem afI{w W:World}{σ σ':Nat->Nat}(h:Grow w σ W σ'):Grow w σ W.drew σ':=⟨h.size,h.os,h.output,h.old,h.live⟩
theorem ET{w wq W:World}{σ σ1:Nat->Nat}{B:Nat}(hg:Grow w σ wq σ1)(hsz:wq.heap.size<=W.heap.size)(hos:W.os=wq.os)(hout:W.output=wq.output)(hlow:∀b,b<B->W.heap[b]? =wq.heap[b]?)(hB:w.heap.size<=B):Grow w σ W σ1:=
 ⟨Nat.le_trans hg.size hsz,hos.trans hg.os,hout.trans hg.output,fun b hb=>⟨(hlow b (Nat.lt_of_lt_of_le hb hB)).trans (hg.old b hb).1,(hg.old b hb).2⟩,fun b=>(hg.live b).elim (fun h=>.inl (Nat.lt_of_lt_of_le h hsz)) .inr⟩
theorem EU{P:Program}{wq:World}{σ:Nat->Nat}{B g cap j n:Nat}{eo e t:TypeId}(ty:TypeId){hs:List Value}{rs:List (List ah)}{y:List ah}{ya:Option Addr}{xZ:Nat}{i:TypeInfo}(ht:P.underlying t=some (.slice e))(hi:P.info? e=some i)
 (hz:i.zero=some (.agg #[.string ⟨#[]⟩,.slice none 0 0]))(hsize:i.size=2)(hby:i.bytes=40)(hl:∀b,b<wq.heap.size\/σ b=0)(hB:B<=wq.heap.size)(hst:jX wq σ B eo e (.slice (some ⟨g,0,none⟩) n cap) hs rs)(hn:hs.length=n)
 (hjl:rs[j]? =some y)(hh:hs[j]? =some (.slice ya y.length xZ))(hy:y.length<=1048576)(x:ah){u lv:Value}(hu: .string ⟨x.aQ.toArray⟩=u)(hx:dK wq σ (.sl (x.aj.map ah.enc)) lv)(h1:lv.oneCell'=true)(T:TypeId):
 ∃g1 jy w2,(Builtin.append_ #[t,t] ty #[.slice ya y.length xZ,.slice (some ⟨wq.heap.size,0,none⟩) 1 1]).run P (wq.drew.alloc (.cells #[u,lv] T))=.ok (.slice (some ⟨g1,0,none⟩) (y.length+1) jy) w2/\
  w2.cell? ⟨g,j,none⟩=some (.slice ya y.length xZ)/\w2.frozen? ⟨g,j,none⟩=false/\g1≠g/\(∃qY:Array Value,w2.heap[g1]? =some (.cells qY e (0,0))/\(y.length+1)*2<=qY.size)/\y.length+1<=jy/\
  eu wq σ (w2.setCell ⟨g,j,none⟩ (.slice (some ⟨g1,0,none⟩) (y.length+1) jy)) σ/\
  jX (w2.setCell ⟨g,j,none⟩ (.slice (some ⟨g1,0,none⟩) (y.length+1) jy)) σ B eo e (.slice (some ⟨g,0,none⟩) n cap) (hs.set j (.slice (some ⟨g1,0,none⟩) (y.length+1) jy)) (rs.set j (y++[x]))/\
  wq.heap.size<=w2.heap.size/\w2.os=wq.os/\w2.output=wq.output/\B<=g/\B<=g1/\∀b,b<B->w2.heap[b]? =wq.heap[b]? :=by
 subst hn hu;obtain⟨hv0,a1,a2,a3⟩:=hst.rows j y hjl;rw[hh] at a1;cases a1;have hrow:=a2;obtain⟨⟨ys,hown,hrep⟩,hfree⟩:=a2;have hyb:∀b,(Value.slice ya y.length xZ).ownBlock=some b->B<=b/\b<wq.heap.size:=fun b hb=>hown.lt b hb;have KP:(Value.slice ya y.length xZ).ownBlock≠some g:=fun q=>a3 g q rfl;have hgl:B<=g/\g<wq.heap.size:=hst.own.lt g rfl;have hown1:(wq.drew.alloc (.cells #[.string ⟨x.aQ.toArray⟩,lv] T)).ownsRow B e 2 (.slice ya y.length xZ) y.length ys:=FN hown fun b hb=>Lib.alloc_old wq.drew _ b (hyb b hb).2
 obtain⟨g1,jy,w2,q1,q2,q3,q4,q5,q6⟩:=KO (P:=P) (wq.drew.alloc (.cells #[.string ⟨x.aQ.toArray⟩,lv] T)) B t ty e i _ 2 40 ht hi hz hsize hby rfl (by omega) _ _ _ hown1 ⟨wq.heap.size,0,none⟩ 1 1 [.string ⟨x.aQ.toArray⟩,lv] rfl aqd (fun u hu=>by
  rcases List.mem_cons.1 hu with rfl|hu
  ·rfl
  ·rw[List.mem_singleton.1 hu];exact h1) (by omega) (by unfold maxLen;omega) (by omega) (by
   rw[show(wq.drew.alloc (.cells #[.string ⟨x.aQ.toArray⟩,lv] T)).heap.size=wq.heap.size+1 by simp];omega)
 have hsz1:(wq.drew.alloc (.cells #[.string ⟨x.aQ.toArray⟩,lv] T)).heap.size=wq.heap.size+1:=by simp
 have h12:∀b,b<wq.heap.size->(Value.slice ya y.length xZ).ownBlock≠some b->w2.heap[b]? =wq.heap[b]? :=fun b h1 h2=>(q3.block b (by omega) fun e=>h2 e.symm).trans (Lib.alloc_old wq.drew _ b h1);have hsm:qm wq w2:=qm.trans (qm.alloc wq.drew _) q6
 have hblk:∀b,(Value.slice (some ⟨g1,0,none⟩) (y.length+1) jy).ownBlock=some b->(Value.slice ya y.length xZ).ownBlock=some b\/wq.heap.size<=b:=fun b hb=>by
  cases hb;rcases q4 with h|h
  ·exact .inl h
  ·right;show wq.heap.size<=g1;omega
 have hg1:g1≠g:=fun q=>by
  rcases hblk g1 rfl with h|h
  ·rw[q] at h;exact KP h
  ·omega
 have hB1:B<=g1:=by
  rcases hblk g1 rfl with h|h
  ·exact(hyb g1 h).1
  ·omega
 obtain⟨n1,n2,n3⟩:=alZ hl hst hjl hh q2 hown.1 hrep hx h12 hsm hblk
 obtain⟨qY,c1,c2,c3⟩:∃qY:Array Value,w2.heap[g1]? =some (.cells qY e (0,0))/\(y.length+1)*2<=qY.size/\y.length+1<=jy:=by
  rcases q2.2 with⟨h,_⟩|⟨g0,cap0,cur,e0,_,hg,hc1,_,hc3,_⟩
  ·cases h
  ·cases e0;exact⟨cur,hg,by rw[hc3];exact Nat.mul_le_mul_right _ hc1,hc1⟩
 have hkg:=h12 g hgl.2 KP;refine⟨g1,jy,w2,q1,?_,?_,hg1,⟨qY,c1,c2⟩,c3,n1,n2,?_,q3.os,q3.output,hgl.1,hB1,fun b hb=>h12 b (by omega) fun q=> ?_⟩
 ·have hj:=hst.own.cells (g:=g) rfl j _ hh;rw[show(⟨g,0,none⟩:Addr).add j=⟨g,j,none⟩ by unfold Addr.add;split<;>simp_all] at hj;rw[<-hj];exact World.cell?_of_block hkg
 ·exact(World.frozen?_of_block hkg).trans (Qs hst j)
 ·have:=q3.size;omega
 ·have:=(hyb b q).1;omega
theorem Xv{w wq:World}{σ σ1 σ2:Nat->Nat}{B:Nat}(hg:Grow w σ wq σ1)(h:∀b,b<B->σ2 b=σ1 b)(hl:∀b,b<wq.heap.size\/σ2 b=0)(hB:w.heap.size<=B):Grow w σ wq σ2:=
 ⟨hg.size,hg.os,hg.output,fun b hb=>⟨(hg.old b hb).1,(h b (Nat.lt_of_lt_of_le hb hB)).trans (hg.old b hb).2⟩,hl⟩
theorem xB{α:Type}(l:List α)(a b:α)(n:Nat)(h:l.length=n):(l++[a]).set n b=l++[b]:=by
 subst h
 simp
theorem al0{w:World}{σ:Nat->Nat}{B g cap n:Nat}{eo e:TypeId}{hs:List Value}{rs:List (List ah)}(h:jX w σ B eo e (.slice (some ⟨g,0,none⟩) n cap) hs rs):n<=cap:=by
 rcases h.own.2 with⟨h1,_⟩|⟨g0,cap0,cur,e0,_,hg,h2,_⟩
 ·cases h1
 ·simp only[Value.slice.injEq,Option.some.injEq,Addr.mk.injEq,and_true] at e0;obtain⟨_,rfl,rfl⟩:=e0;exact h2
theorem set_comm{w:World}{g g1 i j:Nat}{u v:Value}(h:g≠g1):(w.setCell ⟨g1,i,none⟩ u).setCell ⟨g,j,none⟩ v=(w.setCell ⟨g,j,none⟩ v).setCell ⟨g1,i,none⟩ u:=by
 have hh:((w.setCell ⟨g1,i,none⟩ u).setCell ⟨g,j,none⟩ v).heap=((w.setCell ⟨g,j,none⟩ v).setCell ⟨g1,i,none⟩ u).heap:=by
  refine Array.ext_getElem? fun b=> ?_;by_cases h1:b=g
  ·subst h1;rw[kC (w:=w.setCell _ _) h];simp[World.setCell,Array.getElem?_modify,Ne.symm h]
  ·rw[kC h1];by_cases h2:b=g1
   ·subst h2;simp[World.setCell,Array.getElem?_modify,h]
   ·rw[kC h2,kC h2,kC h1]
 unfold World.setCell at hh ⊢;simp only at hh ⊢;rw[hh]
theorem Qt{p:UInt8->Bool}:∀(n:Nat)(l:List UInt8),(∀a∈l.take n,p a=true)->(l.length=n\/∃a,l[n]? =some a/\p a=false)->l.takeWhile p=l.take n/\l.dropWhile p=l.drop n
 |0,l,_,h=>by
  rcases h with h|⟨a,h1,h2⟩
  ·have:=List.eq_nil_of_length_eq_zero h;subst this;exact⟨rfl,rfl⟩
  ·cases l with
   |nil=>simp at h1
   |cons b l=>
    simp at h1;subst h1;simp[List.takeWhile,List.dropWhile,h2]
 |n+1,l,ha,h=>by
  cases l with
  |nil=>
   rcases h with h|⟨a,h1,h2⟩
   ·simp at h
   ·simp at h1
  |cons b l=>
   have hb:p b=true:=ha b (by simp);have ih:=Qt n l (fun a hm=>ha a (by simp[hm])) (by simpa using h);simp[List.takeWhile,List.dropWhile,hb,ih.1,ih.2]
theorem al1(s:List UInt8)(i e:Nat):(⟨s.toArray⟩:ByteArray).extract i e=⟨((s.take e).drop i).toArray⟩:=by
 refine ByteArray.ext ?_;rw[ByteArray.data_extract];simp[List.extract_toArray,List.drop_take]
def iM(l:List UInt8)(rows:List (List ah))(c:Nat):Option (List (List ah)):=runT (lex l) rows c
theorem Qu(s:List UInt8):iM s [[]] 0=yU (s.length+1) s [[]] 0:=(yV _ _ _ _ (Nat.lt_succ_self _)).symm
theorem ajo(rows:List (List ah))(c:Nat):iM [] rows c=some rows:=by unfold iM;rw[lex_nil rfl,runT]
theorem acR{b:UInt8}{u:List UInt8}(h:pU b=true)(rows:List (List ah))(c:Nat):iM (b::u) rows c=iM u rows c:=by
 unfold iM;rw[<-Bd (b::u),I8 h,Bd]
theorem al2(u:List UInt8)(rows:List (List ah))(c:Nat):iM (40::u) rows c=if 15<rows.length+1\/1800<c+1 then none else iM u ([]::rows) (c+1):=by
 unfold iM;rw[rV (tV (by decide)),if_neg (by decide),if_pos rfl,runT]
theorem al3(u:List UInt8)(x y:List ah)(z:List (List ah))(c:Nat):iM (41::u) (x::y::z) c=if 1800<c+1 then none else iM u ((y++[bH x])::z) (c+1):=by
 unfold iM;rw[rV (tV (by decide)),if_neg (by decide),if_neg (by decide),if_pos rfl,runT]
theorem ajp(u:List UInt8)(x:List ah)(c:Nat):iM (41::u) [x] c=none:=by
 unfold iM;rw[rV (tV (by decide)),if_neg (by decide),if_neg (by decide),if_pos rfl];simp[runT]
theorem al4{b:UInt8}(u:List UInt8)(x:List ah)(z:List (List ah))(c:Nat)(h:dh b=true):iM (b::u) (x::z) c=if 1800<c+1 then none else iM (u.dropWhile dh) ((x++[bN (b::u.takeWhile dh)])::z) (c+1):=by
 unfold iM;rw[rV (tV (KL h).1),if_pos h,runT]
theorem ajq{b:UInt8}(u:List UInt8)(rows:List (List ah))(c:Nat)(h1:pU b=false)(h2:b≠40)(h3:b≠41)(h4:dh b=false):iM (b::u) rows c=none:=by
 unfold iM;rw[rV (tV h1),if_neg (by rw[h4];decide),if_neg h2,if_neg h3];cases rows<;>simp[runT]
theorem afJ{s u:List UInt8}{b:UInt8}{i e:Nat}(x:List ah)(z:List (List ah))(c:Nat)(hd:s.drop i=b::u)(hb:dh b=true)(hie:i<e)(hall:∀a∈(s.drop i).take (e-i),dh a=true)
 (hstop:e=s.length\/∃a,s[e]? =some a/\dh a=false):iM (b::u) (x::z) c=if 1800<c+1 then none else iM (s.drop e) ((x++[bN ((s.take e).drop i)])::z) (c+1):=by
 have hw:=Qt (p:=dh) (e-i) (s.drop i) hall (by
  rcases hstop with h|⟨a,h1,h2⟩
  ·left;rw[List.length_drop,h]
  ·right;exact⟨a,by rw[List.getElem?_drop,show i+(e-i)=e by omega];exact h1,h2⟩)
 rw[List.drop_drop,show i+(e-i)=e by omega,<-List.drop_take] at hw;rw[al4 u x z c hb,<-hw.1,<-hw.2,hd];simp[List.takeWhile,List.dropWhile,hb]
def KQ:List (List ah)->Nat
 |[]=>0
 |l::r=>l.length+dA l+KQ r
structure aqe(s:List UInt8)(B R:Nat)(w0:World)(σ0:Nat->Nat)(T eo e:TypeId)(k:Nat)(v4 v5 v6:Value)(w:World):Prop where
 ex:∃(rows:List (List ah)) (σ:Nat->Nat) (i c g cap:Nat) (hs:List Value),v4=.slice (some ⟨g,0,none⟩) rows.length cap/\v5=.int .i64 c/\v6=.int .i64 i/\
  hs.length=rows.length/\1<=rows.length/\rows.length<=15/\c<=1800/\i+k=s.length/\iM (s.drop i) rows c=iM s [[]] 0/\
  jX w σ B eo e v4 hs rows.reverse/\Grow w0 σ0 w σ/\lS w σ/\(∀l∈rows,l.length<=c)/\KQ rows<=2*i/\σ R=0/\w.heap[R]? =some (.cells #[.string ⟨#[]⟩,.slice none 0 0] T (0,0))
theorem asi(w:World)(σ:Nat->Nat)(hl:∀b,b<w.heap.size\/σ b=0)(T eo e:TypeId):
 jX ((w.alloc (.cells #[.string ⟨#[]⟩,.slice none 0 0] T)).alloc (.cells #[.slice none 0 0] eo)) σ (w.heap.size+1) eo e (.slice (some ⟨w.heap.size+1,0,none⟩) 1 1) [.slice none 0 0] [[]]:=by
 have hz:(w.alloc (.cells #[.string ⟨#[]⟩,.slice none 0 0] T)).heap.size=w.heap.size+1:=by simp
 refine⟨⟨rfl,.inr ⟨w.heap.size+1,1,#[.slice none 0 0],rfl,Nat.le_refl _,?_,Nat.le_refl _,by decide,rfl,rfl⟩⟩,fun b hb=> ?_,fun j l hj=> ?_,fun i j hi hj b hne h1 h2=> ?_⟩
 ·rw[<-hz];exact heap_alloc_new _ _
 ·cases hb;rcases hl (w.heap.size+1) with h|h
  ·omega
  ·exact h
 ·match j,hj with
  |0,hj=>
   cases hj;exact⟨_,rfl,⟨⟨[],⟨rfl,.inl ⟨rfl,rfl⟩⟩,fun i d hd=>by cases hd⟩,fun b hb=>by cases hb⟩,fun b hb=>by cases hb⟩
  |j+1,hj=>cases hj
 ·simp only[List.length_cons,List.length_nil] at h1 h2;omega
theorem BH{w:World}{σ:Nat->Nat}(hl:∀b,b<w.heap.size\/σ b=0)(o:Go.Obj):Grow w σ (w.alloc o) σ:=
 ⟨by simp,rfl,rfl,fun b hb=>⟨Lib.alloc_old w o b hb,rfl⟩,fun b=>(hl b).elim (fun h=>.inl (by simp;omega)) .inr⟩
theorem RG{s:List UInt8}{i:Nat}(h:i<s.length):i<(⟨s.toArray⟩:ByteArray).size:=by simpa [ByteArray.size] using h
theorem byte_at{s:List UInt8}{i:Nat}(h:i<s.length):(⟨s.toArray⟩:ByteArray)[i]'(RG h)=s[i]:=by
 show s.toArray[i]'_=_
 simp
theorem KR(g j:Nat):(⟨g,0,none⟩:Addr).add j=⟨g,j,none⟩:=by unfold Addr.add;split<;>simp_all
theorem xC{w:World}{σ:Nat->Nat}{B g cap n:Nat}{eo e:TypeId}{hs:List Value}{rs:List (List ah)}(h:jX w σ B eo e (.slice (some ⟨g,0,none⟩) n cap) hs rs){j:Nat}{u:Value}(hj:hs[j]? =some u):w.cell? ⟨g,j,none⟩=some u:=by
 have:=h.own.cells (g:=g) rfl j u hj
 rwa [KR] at this
theorem Jc{w:World}{σ:Nat->Nat}{B:Nat}{e:TypeId}{v:Value}{l:List ah}(h:CR w σ B e v l):
 ∃a cap,v=.slice a l.length cap/\∀i (hi:i<l.length),∃g u,a=some ⟨g,0,none⟩/\w.cell? ⟨g,i*2,none⟩=some (.string ⟨l[i].aQ.toArray⟩)/\w.cell? ⟨g,i*2+1,none⟩=some u/\dK w σ (.sl (l[i].aj.map ah.enc)) u:=by
 obtain⟨⟨xs,ho,hx⟩,hf⟩:=h
 obtain⟨a,cap,rfl⟩:∃a cap,v=.slice a l.length cap:=by
  rcases ho.2 with⟨rfl,h0⟩|⟨g,cap,cur,rfl,_⟩
  ·exact⟨none,0,by rw[h0]⟩
  ·exact⟨_,_,rfl⟩
 refine⟨a,cap,rfl,fun i hi=> ?_⟩;rcases ho.2 with⟨h1,h0⟩|⟨g,cap0,cur,h1,_⟩
 ·omega
 ·cases h1;have hl:∀y∈l.map ah.enc,y.length=2:=ES l
  have e1:(l.map ah.enc)[i]'(by simpa using hi)=[.s l[i].aQ,.sl (l[i].aj.map ah.enc)]:=by rw[List.getElem_map,ah.aJ];first|rfl|done
  have hg:∀o (hoo:o<2),(l.map ah.enc).flatten[i*2+o]? =([.s l[i].aQ,.sl (l[i].aj.map ah.enc)]:List D)[o]? :=fun o hoo=>by
   rw[flat_get _ 2 hl i o (by simpa using hi) hoo,e1]
  obtain⟨u0,k0,r0⟩:=hx (i*2+0) _ (hg 0 (by omega));obtain⟨u1,k1,r1⟩:=hx (i*2+1) _ (hg 1 (by omega));have c0:=ho.cells (g:=g) rfl _ _ k0;have c1:=ho.cells (g:=g) rfl _ _ k1;rw[KR] at c0 c1;refine⟨g,u1,rfl,?_,c1,r1⟩;cases r0;exact c0
def acS(s:List UInt8)(w:World)(σ:Nat->Nat)(e:Ending)(w':World):Prop:=
 ∃lv σ',e=.returned (.tuple #[.agg #[.string ⟨(nR s).aQ.toArray⟩,lv],.bool (qj s)])/\dK w' σ' (.sl ((nR s).aj.map ah.enc)) lv/\Grow w σ w' σ'/\lS w' σ'
theorem Qv{s:List UInt8}{w W:World}{σ σ1:Nat->Nat}(h:∀x,yU (s.length+1) s [[]] 0=some [[x]]->dV x=false)(hg:Grow w σ W σ1)(hl:lS W σ1):
 acS s w σ (.returned (.tuple #[.agg #[.string ⟨#[]⟩,.slice none 0 0],.bool false])) W:=by
 have hno:∀x,¬Denotes s x:=fun x hx=>by
  have h1:=h x (BG hx);have h2:=hx.1;rw[h1] at h2;cases h2
 obtain⟨h1,h2⟩:=ajg hno;refine⟨.slice none 0 0,σ1,?_,?_,hg,hl⟩
 ·rw[h1,h2];rfl
 ·rw[h2];exact .nil _ _
theorem yX{s:List UInt8}{w W:World}{σ σ1:Nat->Nat}(h:iM s [[]] 0=none)(hg:Grow w σ W σ1)(hl:lS W σ1):
 acS s w σ (.returned (.tuple #[.agg #[.string ⟨#[]⟩,.slice none 0 0],.bool false])) W:=
 Qv (fun x hx=>by rw[<-Qu,h] at hx;cases hx) hg hl
theorem al5{s:List UInt8}{w W:World}{σ σ1:Nat->Nat}{x:ah}{lv:Value}(h:yU (s.length+1) s [[]] 0=some [[x]])(hv:dV x=true)(hr:dK W σ1 (.sl (x.aj.map ah.enc)) lv)(hg:Grow w σ W σ1)(hl:lS W σ1):
 acS s w σ (.returned (.tuple #[.agg #[.string ⟨x.aQ.toArray⟩,lv],.bool true])) W:=by
 have h1:=(KN s).1.1 ⟨x,h,hv⟩;have h2:=(KN s).2 x h hv;exact⟨lv,σ1,by rw[h1,h2],by rw[h2];exact hr,hg,hl⟩
theorem afK{w wa w1:World}{σ σ1:Nat->Nat}{g:Nat}(hg:Grow w σ wa σ1)(hsz:wa.heap.size<=w1.heap.size)(hos:w1.os=wa.os)(hout:w1.output=wa.output)(hold:∀b,b<wa.heap.size->b≠g->w1.heap[b]? =wa.heap[b]?)(hgB:w.heap.size<=g):Grow w σ w1 σ1:=
 ⟨Nat.le_trans hg.size hsz,hos.trans hg.os,hout.trans hg.output,fun b hb=>⟨(hold b (Nat.lt_of_lt_of_le hb hg.size) (by omega)).trans (hg.old b hb).1,(hg.old b hb).2⟩,fun b=>(hg.live b).elim (fun h=>.inl (Nat.lt_of_lt_of_le h hsz)) .inr⟩
theorem KT{w w':World}{σ σ':Nat->Nat}(hg:Grow w σ w' σ'){b j:Nat}{u:Value}(h:w.cell? ⟨b,j,none⟩=some u):w'.cell? ⟨b,j,none⟩=some u:=by
 cases hb:w.heap[b]? with
 |none=>simp[World.cell?,hb] at h
 |some o=>
  have:=(hg.old b (lt_of_some hb)).1;simp only[World.cell?,this] at h ⊢;exact h
theorem aoh{w:World}{σ:Nat->Nat}(b:UInt8):oM w σ [] [] [.c (.d (.i .u8 b.toNat))] [.int .u8 b.toNat]:=by
 refine⟨rfl,fun j y hy=> ?_⟩
 match j,hy with
 |0,hy=>
  simp at hy;subst hy;exact⟨_,rfl,.i _ _,rfl⟩
theorem asj{w:World}{σ:Nat->Nat}{x:ah}{la:Option Addr}{ln lc:Nat}(h:dK w σ (.sl (x.aj.map ah.enc)) (.slice la ln lc)):oM w σ [] [] [x.v] [.agg #[.string ⟨x.aQ.toArray⟩,.slice la ln lc]]:=by
 refine⟨rfl,fun j y hy=> ?_⟩
 match j,hy with
 |0,hy=>
  simp at hy;subst hy;refine⟨_,rfl,?_⟩;rw[<-ah.Na,ah.aJ];refine⟨_,rfl,rfl,fun j y hy=> ?_⟩
  match j,hy with
  |0,hy=>simp at hy;subst hy;exact⟨_,rfl,.s _,rfl⟩
  |1,hy=>simp at hy;subst hy;exact⟨_,rfl,h,rfl⟩
theorem pV{w:World}{R:Nat}{a b x y:Value}{T:TypeId}{fr:Nat×Nat}(h:w.heap[R]? =some (.cells #[a,b] T fr)):((w.setCell ⟨R,0,none⟩ x).setCell ⟨R,1,none⟩ y).heap[R]? =some (.cells #[x,y] T fr):=by
 simp[World.setCell,Array.getElem?_modify,h]
theorem pW{w wr:World}{σ σ1:Nat->Nat}{R:Nat}{x y:Value}(hg:Grow w σ wr σ1)(hl:lS wr σ1)(hR:w.heap.size<=R)(h0:σ1 R=0):
 Grow w σ ((wr.setCell ⟨R,0,none⟩ x).setCell ⟨R,1,none⟩ y) σ1/\lS ((wr.setCell ⟨R,0,none⟩ x).setCell ⟨R,1,none⟩ y) σ1/\eu wr σ1 ((wr.setCell ⟨R,0,none⟩ x).setCell ⟨R,1,none⟩ y) σ1:=by
 have hs:((wr.setCell ⟨R,0,none⟩ x).setCell ⟨R,1,none⟩ y).heap.size=wr.heap.size:=by simp[World.setCell]
 have ho:∀b,b≠R->((wr.setCell ⟨R,0,none⟩ x).setCell ⟨R,1,none⟩ y).heap[b]? =wr.heap[b]? :=fun b hb=>by
  simp[World.setCell,Array.getElem?_modify,Ne.symm hb]
 have hn:eu wr σ1 ((wr.setCell ⟨R,0,none⟩ x).setCell ⟨R,1,none⟩ y) σ1:=L8 ((qm.setCell wr _ x rfl).trans (qm.setCell _ _ y rfl)) fun b hb=>ho b fun e=>hb (by rw[e];exact h0);refine⟨⟨by rw[hs];exact hg.size,hg.os,hg.output,fun b hb=>⟨(ho b (by omega)).trans (hg.old b hb).1,(hg.old b hb).2⟩,fun b=>by rw[hs];exact hg.live b⟩,hl.near hn,hn⟩
theorem pX{tmps:Array Value}{W:World}{R:Nat}{a lv:Value}{q:Bool}{post:Ending->World->Prop}(h2:tmps.getD 2 undef=.pointer (some ⟨R,0,none⟩))(h3:tmps.getD 3 undef=.bool q)
 (hW:W.heap[R]? =some (.cells #[a,lv] 37 (0,0)))(hp:post (.returned (.tuple #[.agg #[a,lv],.bool q])) W):bodyPost prog Tryz.f31 post .ret ⟨tmps,[]⟩ W:=by
 have c0:W.cell? ⟨R,0,none⟩=some a:=by rw[Lib.cell_of_heap hW];rfl
 have c1:W.cell? ⟨R,1,none⟩=some lv:=by rw[Lib.cell_of_heap hW];rfl
 refine bodyPost_ret (v:=.tuple #[.agg #[a,lv],.bool q]) ?_ rfl hp;rw[results_cell_tmp rfl,h2,h3]
 go_simp
theorem afL:(prog.info? 37).map (fun i=>(i.zero,i.size,i.bytes))=some (some (.agg #[.string ⟨#[]⟩,.slice none 0 0]),2,40):=by kernel_rfl
theorem ajr:(prog.info? 35).map (fun i=>(i.zero,i.size,i.bytes))=some (some (.slice none 0 0),1,24):=by kernel_rfl
theorem acT(s:List UInt8)(w:World)(σ:Nat->Nat)(hl:∀b,b<w.heap.size\/σ b=0)(hgl:lS w σ)(hs:s.length<=33554432):
 Calls prog 31 #[.string ⟨s.toArray⟩] w (acS s w σ):=by
 go_enter func31,ntmps31
 go_wp2
 go_loopg [4,5,6] s.length (fun k v4 v5 v6 wr=>aqe s (w.heap.size+1) w.heap.size w σ 37 35 37 k v4 v5 v6 wr)
 case atStart=>
  have hg1:=BH hl (.cells #[.string ⟨#[]⟩,.slice none 0 0] 37);have hg2:=hg1.trans (BH hg1.live (.cells #[.slice none 0 0] 35));refine⟨[[]],σ,0,0,_,_,[.slice none 0 0],rfl,rfl,rfl,rfl,by decide,by decide,by decide,by omega,rfl,asi w σ hl _ _ _,hg2,hgl.near hg2.near,by simp,by simp[KQ,dA],(hl w.heap.size).elim (fun h=>by omega) id,?_⟩;rw[Lib.alloc_old _ _ _ (by simp)];exact heap_alloc_new _ _
 case round=>
  obtain⟨rows,σ1,i,c,g,cap,hv,rfl,rfl,rfl,e1,e2,e3,e4,e5,e6,hst,hgr,Bg,hlen,Xw,Hg,hR⟩:=hrel
  have r0:wr.cell? ⟨w.heap.size,0,none⟩=some (.string ⟨#[]⟩):=by rw[Lib.cell_of_heap hR];rfl
  have r1:wr.cell? ⟨w.heap.size,1,none⟩=some (.slice none 0 0):=by rw[Lib.cell_of_heap hR];rfl
  have z0:=Lib.frozen_of_heap hR 0;have z1:=Lib.frozen_of_heap hR 1;have HZ:Aside (wr.heap[w.heap.size]? =some (.cells #[.string ⟨#[]⟩,.slice none 0 0] 37 (0,0))):=hR;clear hR
  cases gk with
  |zero=>
   have hi:i=s.length:=by omega
   subst hi
   have hrun:iM s [[]] 0=some rows:=by rw[<-e6,List.drop_length,ajo]
   have HR:Aside (yU (s.length+1) s [[]] 0=some rows):=(Qu s).symm.trans hrun;clear e6 hrun;by_cases h1:rows.length=1
   ·obtain⟨l,rfl⟩:∃l,rows=[l]:=by
     match rows,h1 with
     |[l],_=>exact⟨l,rfl⟩
    obtain⟨h0,rfl⟩:∃h0,hv=[h0]:=by
     match hv,e1 with
     |[h0],_=>exact⟨h0,rfl⟩
    have c0:=xC hst (j:=0) rfl;obtain⟨hv',q1,q2,_⟩:=hst.rows 0 l rfl;cases q1;obtain⟨a0,cap0,rfl,hrow⟩:=Jc q2;clear hst q2 e1;by_cases h2:l.length=1
    ·obtain⟨x,rfl⟩:∃x,l=[x]:=by
      match l,h2 with
      |[x],_=>exact⟨x,rfl⟩
     obtain⟨g1,lv,rfl,d0,d1,hlv⟩:=hrow 0 (by simp);clear hrow;simp only[List.getElem_cons_zero,Nat.zero_mul,Nat.zero_add] at d0 d1 hlv
     simp only[List.length_cons,List.length_nil,Nat.zero_add] at *
     have hxs:x.sz<=67108864:=by simp only[KQ,dA,List.length_cons,List.length_nil] at Xw;omega
     obtain⟨la,ln,lc,rfl⟩:=afH hlv;have hc:=DL (qy x hxs) hgr.live Bg (asj hlv)
     have hc:Calls prog 38 #[.agg #[.string ⟨x.aQ.toArray⟩,.slice la ln lc]] wr fun e w'=>e=.returned (.bool (dV x))/\∃σ',Grow wr σ1 w' σ'/\lS w' σ':=
      hc.mono fun e w' ⟨v,σ',he,Fp,hg,hgl⟩=>by
       obtain rfl:v=.bool (dV x):=by cases Fp.1;rfl
       exact⟨he,σ',hg,hgl⟩
     have HL:Aside (dK wr σ1 (.sl (x.aj.map ah.enc)) (.slice la ln lc)):=hlv;clear hlv hlen Xw;have x9:w.heap.size<wr.heap.size:=lt_of_some HZ.out;by_cases uH:dV x=true
     ·rw[uH] at hc;have HV:Aside (dV x=true):=uH;clear uH
      go_wp2_with (go_at_call 38;refine hc.mono ?_)
      rintro e w1 ⟨rfl,σ2,hg2,NP⟩;have c0':=KT hg2 c0;have d0':=KT hg2 d0;have d1':=KT hg2 d1;have hR':=(hg2.old _ x9).1.trans HZ.out
      have r0':w1.cell? ⟨w.heap.size,0,none⟩=some (.string ⟨#[]⟩):=by rw[Lib.cell_of_heap hR'];rfl
      have r1':w1.cell? ⟨w.heap.size,1,none⟩=some (.slice none 0 0):=by rw[Lib.cell_of_heap hR'];rfl
      have Z7:=Lib.frozen_of_heap hR' 0;have z1':=Lib.frozen_of_heap hR' 1;have Aw:Aside (w1.heap[w.heap.size]? =some (.cells #[.string ⟨#[]⟩,.slice none 0 0] 37 (0,0))):=hR';clear hR' c0 d0 d1 r0 r1 z0 z1
      go_wp2
      have hG:=pW (x:=.string ⟨x.aQ.toArray⟩) (y:=.slice la ln lc) (hgr.trans hg2) NP (Nat.le_refl _) (((hg2.old _ x9).2).trans Hg);exact pX (R:=w.heap.size) rfl rfl (pV Aw.out) (al5 HR.out HV.out ((HL.out.mono hg2.near).mono hG.2.2) hG.1 hG.2.1)
     ·have uH:dV x=false:=by simpa using uH
      rw[uH] at hc;have HV:Aside (dV x=false):=uH;clear uH
      go_wp2_with (go_at_call 38;refine hc.mono ?_)
      rintro e w1 ⟨rfl,σ2,hg2,NP⟩;have hR':=(hg2.old _ x9).1.trans HZ.out
      have r0':w1.cell? ⟨w.heap.size,0,none⟩=some (.string ⟨#[]⟩):=by rw[Lib.cell_of_heap hR'];rfl
      have r1':w1.cell? ⟨w.heap.size,1,none⟩=some (.slice none 0 0):=by rw[Lib.cell_of_heap hR'];rfl
      have Z7:=Lib.frozen_of_heap hR' 0;have z1':=Lib.frozen_of_heap hR' 1;have Aw:Aside (w1.heap[w.heap.size]? =some (.cells #[.string ⟨#[]⟩,.slice none 0 0] 37 (0,0))):=hR';clear hR' c0 d0 d1 r0 r1 z0 z1
      go_wp2
      have hG:=pW (x:=.string ⟨#[]⟩) (y:=.slice none 0 0) (hgr.trans hg2) NP (Nat.le_refl _) (((hg2.old _ x9).2).trans Hg);refine pX (R:=w.heap.size) rfl rfl (pV Aw.out) (Qv (fun y hx=> ?_) hG.1 hG.2.1);have:=HR.out.symm.trans hx;simp only[Option.some.injEq,List.cons.injEq,and_true] at this;rw[<-this];exact HV.out
    ·have h3:¬(l.length:Int)=1:=by omega
     clear hrow
     simp only[List.length_cons,List.length_nil,Nat.zero_add] at *
     go_wp2
     have hG:=pW (x:=.string ⟨#[]⟩) (y:=.slice none 0 0) hgr Bg (Nat.le_refl _) Hg;refine pX (R:=w.heap.size) rfl rfl (pV HZ.out) (Qv (fun x hx=> ?_) hG.1 hG.2.1);have:=HR.out.symm.trans hx;simp only[Option.some.injEq,List.cons.injEq,and_true] at this;rw[this] at h2;exact absurd rfl h2
   ·have h3:¬(rows.length:Int)=1:=by omega
    clear hst
    go_wp2
    have hG:=pW (x:=.string ⟨#[]⟩) (y:=.slice none 0 0) hgr Bg (Nat.le_refl _) Hg;refine pX (R:=w.heap.size) rfl rfl (pV HZ.out) (Qv (fun x hx=> ?_) hG.1 hG.2.1);have:=HR.out.symm.trans hx;simp only[Option.some.injEq] at this;rw[this] at h1;exact absurd rfl h1
  |succ k=>
   have hi:i<s.length:=by omega
   obtain⟨b,hb⟩:∃b,s[i]=b:=⟨_,rfl⟩
   have hdrop:s.drop i=b::s.drop (i+1):=by rw[List.drop_eq_getElem_cons hi,hb]
   rw[hdrop] at e6;have HA:Aside (iM (b::s.drop (i+1)) rows c=iM s [[]] 0):=e6;have HB:Aside (s[i]=b):=hb;have HD:Aside (s.drop i=b::s.drop (i+1)):=hdrop;have hx:((⟨s.toArray⟩:ByteArray)[i]'(RG hi)).toNat=b.toNat:=congrArg UInt8.toNat ((byte_at hi).trans hb);clear e6 hb hdrop;by_cases hbl:pU b=true
   ·have HN:Aside (iM (s.drop (i+1)) rows c=iM s [[]] 0):=(acR hbl _ _).symm.trans HA.out
    have h32:b.toNat=32\/b.toNat=10:=by unfold pU at hbl;simpa using hbl
    clear hbl;rcases h32 with h32|h32
    all_goals
     rw[h32] at hx;clear h32
     go_wp2
     go_roundg k
     case measure=>omega
     case rel=>exact⟨rows,σ1,i+1,c,g,cap,hv,rfl,rfl,rfl,e1,e2,e3,e4,by omega,HN.out,hst,hgr,Bg,hlen,by omega,Hg,HZ.out⟩
   have KV:pU b=false:=by simpa using hbl
   clear hbl;have hgB:w.heap.size+1<=g/\g<wr.heap.size:=hst.own.lt g rfl;have hlr:rows.reverse.length=rows.length:=List.length_reverse;by_cases Qn:b=40
   ·subst Qn;have HN:Aside ((if 15<rows.length+1\/1800<c+1 then none else iM (s.drop (i+1)) ([]::rows) (c+1))=iM s [[]] 0):=(al2 _ _ _).symm.trans HA.out;rw[show(40:UInt8).toNat=40 from rfl] at hx;clear KV;obtain⟨i0,hi0,hz0,hz1,hz2⟩:=info_parts ajr;have hga:=BH hgr.live (.cells #[.slice none 0 0] 35);have x9:w.heap.size<wr.heap.size:=lt_of_some HZ.out;obtain⟨g',cap',w1,hrun,hst',hnr,hold,hsz,hos,hout⟩:=ajm (P:=prog) (w0:=w) (σ0:=σ) (ty:=123) underlying123 hi0 hz0 hz1 hz2 (hst.grow hga) e1 hlr (by decide) (by omega) ⟨wr.heap.size,0,none⟩ 1 (by rw[Lib.cell_of_heap (heap_alloc_new wr _)];rfl) (KR _ _) hga.live (by simp;omega);have Hl:w1.heap[w.heap.size]? =some (.cells #[.string ⟨#[]⟩,.slice none 0 0] 37 (0,0)):=(hold _ (by simp;omega) (by omega)).trans ((Lib.alloc_old wr _ _ x9).trans HZ.out);have hG1:=afK (hgr.trans hga) hsz hos hout hold (by omega);have hGl:=(Bg.near hga.near).near hnr
    have r0':w1.cell? ⟨w.heap.size,0,none⟩=some (.string ⟨#[]⟩):=by rw[Lib.cell_of_heap Hl];rfl
    have r1':w1.cell? ⟨w.heap.size,1,none⟩=some (.slice none 0 0):=by rw[Lib.cell_of_heap Hl];rfl
    have Z7:=Lib.frozen_of_heap Hl 0;have z1':=Lib.frozen_of_heap Hl 1;have Aw:Aside (w1.heap[w.heap.size]? =some (.cells #[.string ⟨#[]⟩,.slice none 0 0] 37 (0,0))):=Hl;have HST:Aside (jX w1 σ1 (w.heap.size+1) 35 37 (.slice (some ⟨g',0,none⟩) (rows.length+1) cap') (hv++[.slice none 0 0]) (rows.reverse++[[]])):=hst';clear hst hst' Hl hold hnr r0 r1 z0 z1 hi0 hz0 hz1 hz2 hsz hos hout hlr;by_cases hl1:15<rows.length+1
    ·have acU:(15:Int)<(rows.length:Int)+1:=by omega
     go_wp2_with (at_builtin;refine Lib.wpList_append_run _ rfl _ _ _ _ rfl _ _ rfl rfl _ _ hrun ?_)
     have hG:=pW (x:=.string ⟨#[]⟩) (y:=.slice none 0 0) hG1 hGl (Nat.le_refl _) Hg;refine pX (R:=w.heap.size) rfl rfl (pV Aw.out) (yX ?_ hG.1 hG.2.1);rw[<-HN.out,if_pos (.inl hl1)]
    ·have acU:¬(15:Int)<(rows.length:Int)+1:=by omega
     by_cases hl2:1800<c+1
     ·have NQ:(1800:Int)<(c:Int)+1:=by omega
      go_wp2_with (at_builtin;refine Lib.wpList_append_run _ rfl _ _ _ _ rfl _ _ rfl rfl _ _ hrun ?_)
      have hG:=pW (x:=.string ⟨#[]⟩) (y:=.slice none 0 0) hG1 hGl (Nat.le_refl _) Hg;refine pX (R:=w.heap.size) rfl rfl (pV Aw.out) (yX ?_ hG.1 hG.2.1);rw[<-HN.out,if_pos (.inr hl2)]
     ·have NQ:¬(1800:Int)<(c:Int)+1:=by omega
      have hnx:iM (s.drop (i+1)) ([]::rows) (c+1)=iM s [[]] 0:=by rw[<-HN.out,if_neg (by omega)]
      have Xx:Aside (iM (s.drop (i+1)) ([]::rows) (c+1)=iM s [[]] 0):=hnx;clear hnx
      go_wp2_with (at_builtin;refine Lib.wpList_append_run _ rfl _ _ _ _ rfl _ _ rfl rfl _ _ hrun ?_)
      go_roundg k
      case measure=>omega
      case rel=>
       refine⟨[]::rows,σ1,i+1,c+1,g',cap',hv++[.slice none 0 0],rfl,rfl,rfl,by simp[e1],by simp,by simp only[List.length_cons];omega,by omega,by omega,Xx.out,?_,hG1,hGl,fun l hl=> ?_,by simp only[KQ,dA,List.length_nil];omega,Hg,Aw.out⟩
       ·rw[List.reverse_cons];exact HST.out
       ·rcases List.mem_cons.1 hl with rfl|hl
        ·simp
        ·have:=hlen l hl;omega
   have aqf:¬b.toNat=32/\¬b.toNat=10/\¬b.toNat=40:=by
    unfold pU at KV;simp only[Bool.or_eq_false_iff,decide_eq_false_iff_not] at KV;exact⟨KV.1,KV.2,fun e=>Qn (UInt8.toNat_inj.1 e)⟩
   obtain⟨n32,n10,n40⟩:=aqf;by_cases TI:b=41
   ·subst TI;rw[show(41:UInt8).toNat=41 from rfl] at hx;clear KV n32 n10 n40 Qn;by_cases h1:rows.length=1
    ·obtain⟨l,rfl⟩:∃l,rows=[l]:=by
      match rows,h1 with
      |[l],_=>exact⟨l,rfl⟩
     have HN:Aside (none=iM s [[]] 0):=(ajp _ _ _).symm.trans HA.out;clear hst h1 hlen hlr
     simp only[List.length_cons,List.length_nil,Nat.zero_add] at *
     go_wp2
     have hG:=pW (x:=.string ⟨#[]⟩) (y:=.slice none 0 0) hgr Bg (Nat.le_refl _) Hg;exact pX (R:=w.heap.size) rfl rfl (pV HZ.out) (yX HN.out.symm hG.1 hG.2.1)
    ·obtain⟨x,y,z,rfl⟩:∃x y z,rows=x::y::z:=by
      match rows,e2,h1 with
      |x::y::z,_,_=>exact⟨x,y,z,rfl⟩
     have HN:Aside ((if 1800<c+1 then none else iM (s.drop (i+1)) ((y++[bH x])::z) (c+1))=iM s [[]] 0):=(al3 _ _ _ _ _).symm.trans HA.out;simp only[List.length_cons] at e1 e2 e3 h1 hlr;have q0:((z.length:Int)+1==0)=false:=beq_false_of_ne (by omega)
     simp only[List.length_cons] at *
     clear h1
     obtain⟨hz,yv,xv,rfl,hzl⟩:∃hz yv xv,hv=hz++[yv,xv]/\hz.length=z.length:=⟨hv.take z.length,hv[z.length]'(by omega),hv[z.length+1]'(by omega),by
      conv=>lhs;rw[<-List.take_append_drop z.length hv]
      rw[List.drop_eq_getElem_cons (by omega),List.drop_eq_getElem_cons (by omega),List.drop_eq_nil_of_le (by omega)],by simp;omega⟩
     have yf:=Qs hst z.length;have yc:=xC hst (j:=z.length) (u:=yv) (by rw[List.getElem?_append_right (by omega),hzl,Nat.sub_self];rfl);have xc:=xC hst (j:=z.length+1) (u:=xv) (by rw[List.getElem?_append_right (by omega),hzl,Nat.add_sub_cancel_left];rfl);obtain⟨yv',b1,b2,b3⟩:=hst.rows z.length y (by simp);rw[List.getElem?_append_right (by omega),hzl,Nat.sub_self] at b1
     obtain rfl:yv=yv':=by simpa using b1
     obtain⟨xv',d1,d2,d3⟩:=hst.rows (z.length+1) x (by simp);rw[List.getElem?_append_right (by omega),hzl,Nat.add_sub_cancel_left] at d1
     obtain rfl:xv=xv':=by simpa using d1
     obtain⟨ya,xZ,rfl,_⟩:=Jc b2;obtain⟨xa,vF,rfl,_⟩:=Jc d2;obtain⟨yxs,ajs,aok⟩:=b2.own;clear b1 d1
     have i1:(0:Int)<=(z.length:Int):=by omega
     have i2:(z.length:Int)<(z.length:Int)+1+1:=by omega
     have i3:(0:Int)<=(z.length:Int)+1:=by omega
     have i4:(z.length:Int)+1<(z.length:Int)+1+1:=by omega
     have hsub:(z.length:Int)+1-1=(z.length:Int):=by omega
     have hwr:IntKind.i64.wrap ((z.length:Int)+1-1)=(z.length:Int):=by rw[hsub];exact LA _ (by omega)
     have hwr2:IntKind.i64.wrap (z.length:Int)=(z.length:Int):=LA _ (by omega);have KP:some g≠(Value.slice ya y.length xZ).ownBlock:=fun e=>b3 g e.symm rfl;obtain⟨iS,hiS,hzS,hsS,hbS⟩:=info_parts afL
     have hyl:y.length<=1800:=by have:=hlen y (by simp);omega
     have hyb:∀b,(Value.slice ya y.length xZ).ownBlock=some b->b<wr.heap.size:=fun b hb=>(ajs.lt b hb).2
     go_wp2
     go_region
     all_goals go_wp2
     all_goals
      refine NG fun wq hwq=> ?_;obtain⟨o16,hq⟩:∃o,wq=(wr.alloc o).drew:=⟨_,hwq⟩;clear hwq;have hcp:z.length+1+1<=cap:=al0 hst
      have hcp1:(z.length:Int)+1<=(cap:Int):=by omega
      have hcp2:(0:Int)<=(z.length:Int)+1:=by omega
      have hga:=afI (BH hgr.live o16);rw[<-hq] at hga
      have hqs:wq.heap.size=wr.heap.size+1:=by rw[hq];simp
      clear hq
      have CS:jX wq σ1 (w.heap.size+1) 35 37 (.slice (some ⟨g,0,none⟩) (z.length+1+1) cap) ((hz++[Value.slice ya y.length xZ])++[Value.slice xa x.length vF]) ((z.reverse++[y])++[x]):=by
       have:=hst.grow hga;simpa using this
      obtain⟨σ2,xv2,f1,f2,f3,f4,f5,f6⟩:=CS.fast hga.live
      obtain rfl:Value.slice xa x.length vF=xv2:=by
       rw[List.getElem?_append_right (by simp;omega)] at f4;simpa [hzl] using f4
      have xW:=ajn f6 (by simp;omega) (by simp)
     ·obtain⟨g1,jy,w2,hrun,s1,s2,s3,⟨qY,s4,s5⟩,s6,s7,s8,s9,s10,s11,s12,s13,KW⟩:=EU (P:=prog) (j:=z.length) 35 underlying35 hiS hzS hsS hbS f2 (by omega) xW (by simp;omega) (y:=y) (by simp) (by rw[List.getElem?_append_right (by omega),hzl,Nat.sub_self];rfl) (by omega) (bH x) (u:=.string ⟨#[]⟩) rfl f5 rfl 37;obtain⟨wa,tq⟩:∃wa,wa=w2.setCell ⟨g,z.length,none⟩ (.slice (some ⟨g1,0,none⟩) (y.length+1) jy):=⟨_,rfl⟩;rw[<-tq] at s7 s8
      obtain⟨W,e0,Al,Jz,KX⟩:∃W:Nat->World,W 0=wq.drew/\W 1=wq.drew.alloc (.cells #[.string ⟨#[]⟩,.slice xa x.length vF] 37)/\W 3=w2/\W 7=wa:=
       ⟨fun m=>if m=0 then wq.drew else if m=1 then wq.drew.alloc (.cells #[.string ⟨#[]⟩,.slice xa x.length vF] 37) else if m=3 then w2 else wa,rfl,rfl,rfl,rfl⟩
      have yq:wq.cell? ⟨g,z.length,none⟩=some (.slice ya y.length xZ):=xC CS (j:=z.length) (by rw[List.append_assoc,List.getElem?_append_right (by omega),hzl,Nat.sub_self];rfl);have xq:wq.cell? ⟨g,z.length+1,none⟩=some (.slice xa x.length vF):=xC CS (j:=z.length+1) (by rw[List.append_assoc,List.getElem?_append_right (by omega),hzl,Nat.add_sub_cancel_left];rfl);refine I4 152 [13,14,16] [[0,1,3],[0,1,3],[0,1,3],[0,1],[0,1],[0,1],[0,1],[0,1],[0],[0],[0],[0],[0],[0],[1],[3],[3]] W (by kernel_rfl) (by kernel_rfl) rfl e0 ?_;refine dG.anyS (.slice (some ⟨g,0,none⟩) (z.length+1+1) cap) ?_;refine dG.anyS (.int .i64 (z.length+1)) ?_;refine dG.anyS (.int .i64 z.length) ?_;refine dG.anyS (.slice (some ⟨g,0,none⟩) (z.length+1+1) cap) ?_;refine dG.anyS (.int .i64 (z.length+1)) ?_;refine dG.anyS (.int .i64 z.length) ?_;refine dG.anyS (.pointer (some ⟨g,z.length,none⟩)) ?_;refine dG.acv (.slice ya y.length xZ) e0 e0 Al Al ?_;refine dG.anyS (.slice (some ⟨g,0,none⟩) (z.length+1+1) cap) ?_;refine dG.anyS (.int .i64 (z.length+1)) ?_;refine dG.anyS (.pointer (some ⟨g,z.length+1,none⟩)) ?_;refine dG.acu (.slice xa x.length vF) e0 e0 ?_;refine dG.anyS (.agg #[.string ⟨#[]⟩,.slice xa x.length vF]) ?_;refine dG.acu (.slice (some ⟨wq.heap.size,0,none⟩) 1 1) e0 Al ?_;refine dG.Xd (.slice (some ⟨g1,0,none⟩) (y.length+1) jy) Al Jz (Gb rfl (by go_simp) (by go_simp) hrun) ?_;refine dG.anyS (.pointer (some ⟨g,z.length,none⟩)) ?_;refine dG.Xd undef Jz KX (zq (by rw[tq];go_simp)) ?_;refine dG.done ?_;rw[show W (2^ [13,14,16].length-1)=wa from KX];have x9:w.heap.size<wr.heap.size:=lt_of_some HZ.out
      have Dh:wa.heap[w.heap.size]? =some (.cells #[.string ⟨#[]⟩,.slice none 0 0] 37 (0,0)):=by
       rw[tq,kC (by omega),KW _ (by omega),(hga.old _ x9).1];exact HZ.out
      have TK:Grow w σ wa σ2:=ET (B:=w.heap.size+1) (Xv (hgr.trans hga) f3 f2 (by omega)) (by rw[tq];simpa [World.setCell] using s9) (by rw[tq];exact s10) (by rw[tq];exact s11) (fun b hb=>by rw[tq,kC (by omega)];exact KW b hb) (by omega);have RH:lS wa σ2:=((Bg.near hga.near).near f1).near s7;have KY:σ2 w.heap.size=0:=(f3 _ (by omega)).trans Hg
      have TL:jX wa σ2 (w.heap.size+1) 35 37 (.slice (some ⟨g,0,none⟩) (z.length+1) cap) (hz++[.slice (some ⟨g1,0,none⟩) (y.length+1) jy]) ((y++[bH x])::z).reverse:=by
       rw[xB _ _ _ _ hzl,xB _ _ _ _ (by simp)] at s8;rw[List.reverse_cons];exact s8
      have hsz1:dA (y++[bH x])=dA y+(x.length+dA x):=by
       rw[gL,dA,dA,jl,Nat.add_zero]
      have Qw:KQ ((y++[bH x])::z)<=2*(i+1):=by
       simp only[KQ,hsz1,List.length_append,List.length_singleton] at Xw ⊢;omega
      have Ib:∀l∈(y++[bH x])::z,l.length<=c+1:=fun l hl=>by
       rcases List.mem_cons.1 hl with rfl|hl
       ·have:=hlen y (by simp);simp only[List.length_append,List.length_singleton];omega
       ·have:=hlen l (by simp[hl]);omega
      have r0':wa.cell? ⟨w.heap.size,0,none⟩=some (.string ⟨#[]⟩):=by rw[Lib.cell_of_heap Dh];rfl
      have r1':wa.cell? ⟨w.heap.size,1,none⟩=some (.slice none 0 0):=by rw[Lib.cell_of_heap Dh];rfl
      have Z7:=Lib.frozen_of_heap Dh 0;have z1':=Lib.frozen_of_heap Dh 1;have HST:Aside (jX wa σ2 (w.heap.size+1) 35 37 (.slice (some ⟨g,0,none⟩) (z.length+1) cap) (hz++[.slice (some ⟨g1,0,none⟩) (y.length+1) jy]) ((y++[bH x])::z).reverse):=TL;have Aw:Aside (wa.heap[w.heap.size]? =some (.cells #[.string ⟨#[]⟩,.slice none 0 0] 37 (0,0))):=Dh;clear e0 Al Jz KX tq s1 s2 s3 s4 s5 s6 s7 s8 TL s9 s10 s11 s12 s13 KW hrun yq xq xW f6 f5 f4 CS hst Dh r0 r1 z0 z1 yc xc yf aok ajs b2 d2
      have acU:¬(15:Int)<(z.length:Int)+1:=by omega
      by_cases hl2:1800<c+1
      ·have NQ:(1800:Int)<(c:Int)+1:=by omega
       go_wp2
       have hG:=pW (x:=.string ⟨#[]⟩) (y:=.slice none 0 0) TK RH (Nat.le_refl _) KY;refine pX (R:=w.heap.size) rfl rfl (pV Aw.out) (yX ?_ hG.1 hG.2.1);rw[<-HN.out,if_pos hl2]
      ·have NQ:¬(1800:Int)<(c:Int)+1:=by omega
       have Xx:Aside (iM (s.drop (i+1)) ((y++[bH x])::z) (c+1)=iM s [[]] 0):=by
        have:=HN.out;rw[if_neg hl2] at this;exact this
       go_wp2
       go_roundg k
       case measure=>omega
       case rel=>
        exact⟨(y++[bH x])::z,σ2,i+1,c+1,g,cap,_,rfl,rfl,rfl,by simp[hzl],by simp,by simp only[List.length_cons];omega,by omega,by omega,Xx.out,HST.out,TK,RH,Ib,Qw,KY,Aw.out⟩
     ·obtain⟨g1,jy,w2,hrun,s1,s2,s3,⟨qY,s4,s5⟩,s6,s7,s8,s9,s10,s11,s12,s13,KW⟩:=EU (P:=prog) (j:=z.length) 35 underlying35 hiS hzS hsS hbS f2 (by omega) xW (by simp;omega) (y:=y) (by simp) (by rw[List.getElem?_append_right (by omega),hzl,Nat.sub_self];rfl) (by omega) eY (u:=.string ⟨#[]⟩) (lv:=.slice none 0 0) rfl (.nil _ _) rfl 37;obtain⟨wa,tq⟩:∃wa,wa=w2.setCell ⟨g,z.length,none⟩ (.slice (some ⟨g1,0,none⟩) (y.length+1) jy):=⟨_,rfl⟩;rw[<-tq] at s7 s8
      obtain⟨W,e0,Al,Jz,KX⟩:∃W:Nat->World,W 0=wq.drew/\W 1=wq.drew.alloc (.cells #[.string ⟨#[]⟩,.slice none 0 0] 37)/\W 3=w2/\W 7=wa:=
       ⟨fun m=>if m=0 then wq.drew else if m=1 then wq.drew.alloc (.cells #[.string ⟨#[]⟩,.slice none 0 0] 37) else if m=3 then w2 else wa,rfl,rfl,rfl,rfl⟩
      have yq:wq.cell? ⟨g,z.length,none⟩=some (.slice ya y.length xZ):=xC CS (j:=z.length) (by rw[List.append_assoc,List.getElem?_append_right (by omega),hzl,Nat.sub_self];rfl);have xq:wq.cell? ⟨g,z.length+1,none⟩=some (.slice xa x.length vF):=xC CS (j:=z.length+1) (by rw[List.append_assoc,List.getElem?_append_right (by omega),hzl,Nat.add_sub_cancel_left];rfl);refine I4 152 [14,15,17] [[0,1],[0,1],[0,1],[0,1],[0,1],[0,1],[0,1],[0,1],[0,1],[0,1],[0,1],[0,1],[0,1],[0,1],[0],[1],[3],[3]] W (by kernel_rfl) (by kernel_rfl) rfl e0 ?_;refine dG.anyS (.slice (some ⟨g,0,none⟩) (z.length+1+1) cap) ?_;refine dG.anyS (.int .i64 (z.length+1)) ?_;refine dG.anyS (.int .i64 z.length) ?_;refine dG.anyS (.slice (some ⟨g,0,none⟩) (z.length+1+1) cap) ?_;refine dG.anyS (.int .i64 (z.length+1)) ?_;refine dG.anyS (.int .i64 z.length) ?_;refine dG.anyS (.pointer (some ⟨g,z.length,none⟩)) ?_;refine dG.acv (.slice ya y.length xZ) e0 e0 Al Al ?_;refine dG.anyS (.slice (some ⟨g,0,none⟩) (z.length+1+1) cap) ?_;refine dG.anyS (.int .i64 (z.length+1)) ?_;refine dG.anyS (.pointer (some ⟨g,z.length+1,none⟩)) ?_;refine dG.acv (.slice xa x.length vF) e0 e0 Al Al ?_;refine dG.anyS (.agg #[.string ⟨#[]⟩,.slice xa x.length vF]) ?_;refine dG.anyS (.int .i64 y.length) ?_;refine dG.acu (.slice (some ⟨wq.heap.size,0,none⟩) 1 1) e0 Al ?_;refine dG.Xd (.slice (some ⟨g1,0,none⟩) (y.length+1) jy) Al Jz (Gb rfl (by go_simp) (by go_simp) hrun) ?_;refine dG.anyS (.pointer (some ⟨g,z.length,none⟩)) ?_;refine dG.Xd undef Jz KX (zq (by rw[tq];go_simp)) ?_;refine dG.done ?_;rw[show W (2^ [14,15,17].length-1)=wa from KX];have x9:w.heap.size<wr.heap.size:=lt_of_some HZ.out
      have Dh:wa.heap[w.heap.size]? =some (.cells #[.string ⟨#[]⟩,.slice none 0 0] 37 (0,0)):=by
       rw[tq,kC (by omega),KW _ (by omega),(hga.old _ x9).1];exact HZ.out
      have TK:Grow w σ wa σ2:=ET (B:=w.heap.size+1) (Xv (hgr.trans hga) f3 f2 (by omega)) (by rw[tq];simpa [World.setCell] using s9) (by rw[tq];exact s10) (by rw[tq];exact s11) (fun b hb=>by rw[tq,kC (by omega)];exact KW b hb) (by omega);have RH:lS wa σ2:=((Bg.near hga.near).near f1).near s7;have KY:σ2 w.heap.size=0:=(f3 _ (by omega)).trans Hg
      have TL:jX wa σ2 (w.heap.size+1) 35 37 (.slice (some ⟨g,0,none⟩) (z.length+1) cap) (hz++[.slice (some ⟨g1,0,none⟩) (y.length+1) jy]) ((y++[eY])::z).reverse:=by
       rw[xB _ _ _ _ hzl,xB _ _ _ _ (by simp)] at s8;rw[List.reverse_cons];exact s8
      have gne:g1≠w.heap.size:=by omega
      have ajt:w.heap.size≠g1:=by omega
      have Gh:wa.heap[g1]? =some (.cells qY 37 (0,0)):=by rw[tq,kC s3];exact s4
      have m1:(0:Int)<=(y.length:Int):=by omega
      have m2:(y.length:Int)<(y.length:Int)+1:=by omega
      have d0:wa.cell? ⟨g1,y.length*2,none⟩=some (qY[y.length*2]'(by omega)):=by rw[Lib.cell_of_heap Gh];simp
      have d1:wa.cell? ⟨g1,y.length*2+1,none⟩=some (qY[y.length*2+1]'(by omega)):=by rw[Lib.cell_of_heap Gh];simp
      have dz0:=Lib.frozen_of_heap Gh (y.length*2);have dz1:=Lib.frozen_of_heap Gh (y.length*2+1);obtain⟨t1,t2,t3⟩:=Xu (x:=bH x) (lv:=.slice xa x.length vF) (j:=z.length) (g1:=g1) (jy:=jy) TK.live (by rw[show(hz++[Value.slice (some ⟨g1,0,none⟩) (y.length+1) jy]).length=z.length+1 by simp[hzl]];exact TL) (by rw[List.reverse_cons,List.getElem?_append_right (by simp),List.length_reverse,Nat.sub_self];rfl) (by rw[List.getElem?_append_right (by omega),hzl,Nat.sub_self];rfl) (f5.mono s7);rw[show(hz++[Value.slice (some ⟨g1,0,none⟩) (y.length+1) jy]).length=z.length+1 by simp[hzl],List.reverse_cons,xB _ _ _ _ (by simp),<-List.reverse_cons] at t2;have hGb:=ET TK (W:=(wa.setCell ⟨g1,y.length*2,none⟩ (.string ⟨(bH x).aQ.toArray⟩)).setCell ⟨g1,y.length*2+1,none⟩ (.slice xa x.length vF)) (by simp[World.setCell]) rfl rfl (fun b hb=>t3 b (by omega)) (Nat.le_succ w.heap.size);have Xy:=RH.near t1;have hRb:=(t3 w.heap.size ajt).trans Dh
      have hsz1:dA (y++[bH x])=dA y+(x.length+dA x):=by
       rw[gL,dA,dA,jl,Nat.add_zero]
      have Qw:KQ ((y++[bH x])::z)<=2*(i+1):=by
       simp only[KQ,hsz1,List.length_append,List.length_singleton] at Xw ⊢;omega
      have Ib:∀l∈(y++[bH x])::z,l.length<=c+1:=fun l hl=>by
       rcases List.mem_cons.1 hl with rfl|hl
       ·have:=hlen y (by simp);simp only[List.length_append,List.length_singleton];omega
       ·have:=hlen l (by simp[hl]);omega
      have r0':wa.cell? ⟨w.heap.size,0,none⟩=some (.string ⟨#[]⟩):=by rw[Lib.cell_of_heap Dh];rfl
      have r1':wa.cell? ⟨w.heap.size,1,none⟩=some (.slice none 0 0):=by rw[Lib.cell_of_heap Dh];rfl
      have Z7:=Lib.frozen_of_heap Dh 0;have z1':=Lib.frozen_of_heap Dh 1;have HST:Aside (jX ((wa.setCell ⟨g1,y.length*2,none⟩ (.string ⟨(bH x).aQ.toArray⟩)).setCell ⟨g1,y.length*2+1,none⟩ (.slice xa x.length vF)) σ2 (w.heap.size+1) 35 37 (.slice (some ⟨g,0,none⟩) (z.length+1) cap) (hz++[.slice (some ⟨g1,0,none⟩) (y.length+1) jy]) ((y++[bH x])::z).reverse):=t2;have Aw:Aside (((wa.setCell ⟨g1,y.length*2,none⟩ (.string ⟨(bH x).aQ.toArray⟩)).setCell ⟨g1,y.length*2+1,none⟩ (.slice xa x.length vF)).heap[w.heap.size]? =some (.cells #[.string ⟨#[]⟩,.slice none 0 0] 37 (0,0))):=hRb;clear e0 Al Jz KX tq s1 s2 s3 s4 s6 s7 s8 TL s9 s10 s11 s12 s13 KW hrun yq xq xW f6 f5 f4 CS hst Dh hRb t1 t2 t3 r0 r1 z0 z1 yc xc yf aok ajs b2 d2
      have acU:¬(15:Int)<(z.length:Int)+1:=by omega
      by_cases hl2:1800<c+1
      ·have NQ:(1800:Int)<(c:Int)+1:=by omega
       go_wp2
       have hG:=pW (x:=.string ⟨#[]⟩) (y:=.slice none 0 0) hGb Xy (Nat.le_refl _) KY;refine pX (R:=w.heap.size) rfl rfl (pV Aw.out) (yX ?_ hG.1 hG.2.1);rw[<-HN.out,if_pos hl2]
      ·have NQ:¬(1800:Int)<(c:Int)+1:=by omega
       have Xx:Aside (iM (s.drop (i+1)) ((y++[bH x])::z) (c+1)=iM s [[]] 0):=by
        have:=HN.out;rw[if_neg hl2] at this;exact this
       go_wp2
       go_roundg k
       case measure=>omega
       case rel=>
        exact⟨(y++[bH x])::z,σ2,i+1,c+1,g,cap,_,rfl,rfl,rfl,by simp[hzl],by simp,by simp only[List.length_cons];omega,by omega,by omega,Xx.out,HST.out,hGb,Xy,Ib,Qw,KY,Aw.out⟩
   have n41:¬b.toNat=41:=fun e=>TI (UInt8.toNat_inj.1 e);have q41:((b.toNat:Int)==41)=false:=beq_false_of_ne (by omega);have q32:((b.toNat:Int)==32)=false:=beq_false_of_ne (by omega);have q10:((b.toNat:Int)==10)=false:=beq_false_of_ne (by omega);have q40:((b.toNat:Int)==40)=false:=beq_false_of_ne (by omega);clear n41 n32 n10 n40;have HBL:Aside (pU b=false/\b≠40/\b≠41):=⟨KV,Qn,TI⟩;clear KV Qn TI;have hc:=DL (Cy b) hgr.live Bg (aoh b)
   have hc:Calls prog 82 #[.int .u8 b.toNat] wr fun e w'=>e=.returned (.bool (dh b))/\∃σ',Grow wr σ1 w' σ'/\lS w' σ':=
    hc.mono fun e w' ⟨v,σ',he,Fp,hg,hgl⟩=>by
     obtain rfl:v=.bool (dh b):=by cases Fp.1;rfl
     exact⟨he,σ',hg,hgl⟩
   have x9:w.heap.size<wr.heap.size:=lt_of_some HZ.out
   cases hat:dh b with
   |false=>
    rw[hat] at hc;have HN:Aside (none=iM s [[]] 0):=(ajq _ _ _ HBL.out.1 HBL.out.2.1 HBL.out.2.2 hat).symm.trans HA.out;clear hat hst hlr
    go_wp2_with (go_at_call 82;refine hc.mono ?_)
    rintro e w1 ⟨rfl,σ2,hg2,NP⟩;have Hl:=(hg2.old _ x9).1.trans HZ.out
    have r0':w1.cell? ⟨w.heap.size,0,none⟩=some (.string ⟨#[]⟩):=by rw[Lib.cell_of_heap Hl];rfl
    have r1':w1.cell? ⟨w.heap.size,1,none⟩=some (.slice none 0 0):=by rw[Lib.cell_of_heap Hl];rfl
    have Z7:=Lib.frozen_of_heap Hl 0;have z1':=Lib.frozen_of_heap Hl 1;have Aw:Aside (w1.heap[w.heap.size]? =some (.cells #[.string ⟨#[]⟩,.slice none 0 0] 37 (0,0))):=Hl;clear Hl r0 r1 z0 z1
    go_wp2
    have hG:=pW (x:=.string ⟨#[]⟩) (y:=.slice none 0 0) (hgr.trans hg2) NP (Nat.le_refl _) (((hg2.old _ x9).2).trans Hg);exact pX (R:=w.heap.size) rfl rfl (pV Aw.out) (yX HN.out.symm hG.1 hG.2.1)
   |true=>
    obtain⟨x,z,rfl⟩:∃x z,rows=x::z:=by
     match rows,e2 with
     |x::z,_=>exact⟨x,z,rfl⟩
    rw[hat] at hc;have hwd:=fun e=>afJ (s:=s) (i:=i) (e:=e) x z c HD.out hat
    have HWD:Aside (∀e,i<e->(∀a∈(s.drop i).take (e-i),dh a=true)->(e=s.length\/∃a,s[e]? =some a/\dh a=false)->(if 1800<c+1 then none else iM (s.drop e) ((x++[bN ((s.take e).drop i)])::z) (c+1))=iM s [[]] 0):=
     fun e h1 h2 h3=>(hwd e h1 h2 h3).symm.trans HA.out
    have HAT:Aside (dh b=true):=hat;clear hwd hat HBL
    simp only[List.length_cons] at *
    obtain⟨wo,rfl⟩:∃wo,wo=wr:=⟨_,rfl⟩
    go_wp2_with (go_at_call 82;refine hc.mono ?_)
    rintro e w1 ⟨rfl,σ2,hg2,NP⟩
    go_wp2
    go_loopg [9] (s.length-i) (fun k v9 wx=>∃e:Nat,v9=.int .i64 e/\e+k=s.length/\i<=e/\(∀a∈(s.drop i).take (e-i),dh a=true)/\∃σx,Grow wo σ1 wx σx/\lS wx σx)
    case atStart=>exact⟨i,rfl,by omega,Nat.le_refl _,by simp,σ2,hg2,NP⟩
    case round=>
     obtain⟨e,rfl,g1,g2,g3,σx,g4,g5⟩:=hrel;rcases(by cases gk<;>simp:gk=0\/∃k2,gk=k2+1) with rfl|⟨k2,rfl⟩
     focus
      have HES:Aside (e=s.length):=by show e=s.length;omega
      have hne:¬(e:Int)<(s.length:Int):=by omega
      go_wp2
      refine NG fun wq hwq=> ?_;obtain⟨σq,Xz,aon⟩:∃σq,Grow wo σ1 wq σq/\lS wq σq:=⟨σx,by rw[hwq];exact g4,by rw[hwq];exact g5⟩;clear hwq;have HW:=HWD.out e (by have:=HES.out;omega) g3 (.inl HES.out)
      have hie:i<e:=by have:=HES.out;omega
     rotate_left
     focus
      have hel:e<s.length:=by omega
      obtain⟨b2,hb2⟩:∃b2,s[e]=b2:=⟨_,rfl⟩;have hx2:((⟨s.toArray⟩:ByteArray)[e]'(RG hel)).toNat=b2.toNat:=congrArg UInt8.toNat ((byte_at hel).trans hb2)
      have HB2:Aside (s[e]? =some b2):=by
       show s[e]? =some b2;rw[List.getElem?_eq_getElem hel,hb2]
      clear hb2;have hc2:=DL (Cy b2) g4.live g5 (aoh b2)
      have hc2:Calls prog 82 #[.int .u8 b2.toNat] wr fun e w'=>e=.returned (.bool (dh b2))/\∃σ',Grow wr σx w' σ'/\lS w' σ':=
       hc2.mono fun e w' ⟨v,σ',he,Fp,hg,hgl⟩=>by
        obtain rfl:v=.bool (dh b2):=by cases Fp.1;rfl
        exact⟨he,σ',hg,hgl⟩
      cases RI:dh b2
     focus
      rw[RI] at hc2;have acV:Aside (dh b2=false):=RI;clear RI
      go_wp2_with (go_at_call 82;refine hc2.mono ?_)
      rintro e' w2 ⟨rfl,σ3,hg3,aju⟩
      go_wp2
      refine NG fun wq hwq=> ?_;obtain⟨σq,Xz,aon⟩:∃σq,Grow wo σ1 wq σq/\lS wq σq:=⟨σ3,by rw[hwq];exact g4.trans hg3,by rw[hwq];exact aju⟩;clear hwq
      have hie:i<e:=by
       rcases Nat.lt_or_ge i e with h|h
       ·exact h
       ·have he:e=i:=by omega
        have h1:=HB2.out;rw[he,List.getElem?_eq_getElem hi,HB.out] at h1;cases h1;have:=acV.out;rw[HAT.out] at this;cases this
      have HW:=HWD.out e hie g3 (.inr ⟨b2,HB2.out,acV.out⟩)
     rotate_left
     ·rw[RI] at hc2;have acV:Aside (dh b2=true):=RI;clear RI
      go_wp2_with (go_at_call 82;refine hc2.mono ?_)
      rintro e' w2 ⟨rfl,σ3,hg3,aju⟩
      go_wp2
      go_roundg k2
      case measure=>omega
      case rel=>
       refine⟨e+1,rfl,by omega,by omega,fun a ha=> ?_,σ3,g4.trans hg3,aju⟩;rw[show e+1-i=(e-i)+1 by omega,List.take_add_one,List.getElem?_drop,show i+(e-i)=e by omega,HB2.out] at ha;rcases List.mem_append.1 ha with ha|ha
       ·exact g3 a ha
       ·simp at ha;subst ha;exact acV.out
     all_goals
      replace HW:Aside ((if 1800<c+1 then none else iM (s.drop e) ((x++[bN ((s.take e).drop i)])::z) (c+1))=iM s [[]] 0):=HW
      have HWL:Aside (((s.take e).drop i).length=e-i):=by
       show((s.take e).drop i).length=e-i;rw[List.length_drop,List.length_take];omega
      obtain⟨hz,xv,rfl,hzl⟩:∃hz xv,hv=hz++[xv]/\hz.length=z.length:=⟨hv.take z.length,hv[z.length]'(by omega),by
       conv=>lhs;rw[<-List.take_append_drop z.length hv]
       rw[List.drop_eq_getElem_cons (by omega),List.drop_eq_nil_of_le (by omega)],by simp;omega⟩
      have CS:jX wq σq (w.heap.size+1) 35 37 (.slice (some ⟨g,0,none⟩) (z.length+1) cap) (hz++[xv]) (z.reverse++[x]):=by
       have:=hst.grow Xz;simpa using this
      obtain⟨xv',d1,d2,d3⟩:=CS.rows z.length x (by simp);rw[List.getElem?_append_right (by omega),hzl,Nat.sub_self] at d1
      obtain rfl:xv=xv':=by simpa using d1
      obtain⟨xa,vF,rfl,_⟩:=Jc d2;clear d1 d2 d3;obtain⟨iS,hiS,hzS,hsS,hbS⟩:=info_parts afL
      have hxl:x.length<=1800:=by have:=hlen x (by simp);omega
      have hBq:w.heap.size+1<=wq.heap.size:=by have:=hgB.1;have:=hgB.2;have:=Xz.size;omega
      have xq:wq.cell? ⟨g,z.length,none⟩=some (.slice xa x.length vF):=xC CS (j:=z.length) (by rw[List.getElem?_append_right (by omega),hzl,Nat.sub_self];rfl);obtain⟨q1,jy,w5,hrun,s1,s2,s3,⟨qY,s4,s5⟩,s6,s7,s8,s9,s10,s11,s12,s13,KW⟩:=EU (P:=prog) (j:=z.length) 35 underlying35 hiS hzS hsS hbS Xz.live hBq CS (by simp;omega) (y:=x) (by simp) (by rw[List.getElem?_append_right (by omega),hzl,Nat.sub_self];rfl) (by omega) eY (u:=.string ⟨#[]⟩) (lv:=.slice none 0 0) rfl (.nil _ _) rfl 37;obtain⟨wa,tq⟩:∃wa,wa=w5.setCell ⟨g,z.length,none⟩ (.slice (some ⟨q1,0,none⟩) (x.length+1) jy):=⟨_,rfl⟩;rw[<-tq] at s7 s8;obtain⟨w7,hw7⟩:∃w7,w7=(w5.setCell ⟨q1,x.length*2,none⟩ (.string ⟨((s.take e).drop i).toArray⟩)).setCell ⟨q1,x.length*2+1,none⟩ (.slice none 0 0):=⟨_,rfl⟩;obtain⟨wb,hwb⟩:∃wb,wb=(wa.setCell ⟨q1,x.length*2,none⟩ (.string ⟨((s.take e).drop i).toArray⟩)).setCell ⟨q1,x.length*2+1,none⟩ (.slice none 0 0):=⟨_,rfl⟩
      have hcm:w7.setCell ⟨g,z.length,none⟩ (.slice (some ⟨q1,0,none⟩) (x.length+1) jy)=wb:=by
       rw[hw7,hwb,tq,set_comm (Ne.symm s3),set_comm (Ne.symm s3)]
      have s1':w7.cell? ⟨g,z.length,none⟩=some (.slice xa x.length vF):=by
       rw[<-s1];exact World.cell?_of_block (by rw[hw7];exact(kC (Ne.symm s3)).trans (kC (Ne.symm s3)))
      have s2':w7.frozen? ⟨g,z.length,none⟩=false:=by
       rw[<-s2];exact World.frozen?_of_block (by rw[hw7];exact(kC (Ne.symm s3)).trans (kC (Ne.symm s3)))
      have Gh:wa.heap[q1]? =some (.cells qY 37 (0,0)):=by rw[tq,kC s3];exact s4
      have xq1:(wq.alloc (.cells #[.string ⟨#[]⟩,.slice none 0 0] 37)).cell? ⟨g,z.length,none⟩=some (.slice xa x.length vF):=acQ _ xq
      have m1:(0:Int)<=(x.length:Int):=by omega
      have m2:(x.length:Int)<(x.length:Int)+1:=by omega
      have m3:(0:Int)<=(z.length:Int):=by omega
      have m4:(z.length:Int)<(z.length:Int)+1:=by omega
      have m5:(0:Int)<=(i:Int):=by omega
      have m6:(i:Int)<=(e:Int):=by omega
      have m7:(e:Int)<=(s.length:Int):=by omega
      have d0:wa.cell? ⟨q1,x.length*2,none⟩=some (qY[x.length*2]'(by omega)):=by rw[Lib.cell_of_heap Gh];simp
      have d1:wa.cell? ⟨q1,x.length*2+1,none⟩=some (qY[x.length*2+1]'(by omega)):=by rw[Lib.cell_of_heap Gh];simp
      have dz0:=Lib.frozen_of_heap Gh (x.length*2);have dz1:=Lib.frozen_of_heap Gh (x.length*2+1)
      have c0:w5.cell? ⟨q1,x.length*2,none⟩=some (qY[x.length*2]'(by omega)):=by rw[Lib.cell_of_heap s4];simp
      have c1:w5.cell? ⟨q1,x.length*2+1,none⟩=some (qY[x.length*2+1]'(by omega)):=by rw[Lib.cell_of_heap s4];simp
      have cz0:=Lib.frozen_of_heap s4 (x.length*2);have cz1:=Lib.frozen_of_heap s4 (x.length*2+1)
      obtain⟨W,e0,Al,Jz,KX,ajv,acW⟩:∃W:Nat->World,W 0=wq.drew/\W 1=wq.drew.alloc (.cells #[.string ⟨#[]⟩,.slice none 0 0] 37)/\W 3=w5/\W 7=w7/\W 11=wa/\W 15=wb:=
       ⟨fun m=>if m=0 then wq.drew else if m=1 then wq.drew.alloc (.cells #[.string ⟨#[]⟩,.slice none 0 0] 37) else if m=3 then w5 else if m=7 then w7 else if m=11 then wa else wb,rfl,rfl,rfl,rfl,rfl,rfl⟩
      refine I4 152 [10,11,13,15] [[0,1],[0,1],[0,1],[0,1],[0,1],[0,1],[0,1],[0,1],[0,1],[0,1],[0],[1],[3,11],[3,11],[3,7],[3,7]] W (by kernel_rfl) (by kernel_rfl) rfl e0 ?_;refine dG.anyS (.slice (some ⟨g,0,none⟩) (z.length+1) cap) ?_;refine dG.anyS (.int .i64 z.length) ?_;refine dG.anyS (.pointer (some ⟨g,z.length,none⟩)) ?_;refine dG.acv (.slice xa x.length vF) e0 e0 Al Al ?_;refine dG.anyS (.string ⟨s.toArray⟩) ?_;refine dG.anyS (.int .i64 i) ?_;refine dG.anyS (.int .i64 e) ?_;refine dG.any (.string ⟨((s.take e).drop i).toArray⟩) rfl (fun w=>EM (by go_simp;exact al1 s i e)) ?_;refine dG.anyS (.agg #[.string ⟨((s.take e).drop i).toArray⟩,.slice none 0 0]) ?_;refine dG.anyS (.int .i64 x.length) ?_;refine dG.acu (.slice (some ⟨wq.heap.size,0,none⟩) 1 1) e0 Al ?_;refine dG.Xd (.slice (some ⟨q1,0,none⟩) (x.length+1) jy) Al Jz (Gb rfl (by go_simp) (by go_simp) hrun) ?_;refine dG.anyS (.pointer (some ⟨q1,x.length*2,none⟩)) ?_;refine dG.at2 undef Jz KX ajv acW (zq (by rw[hw7];go_simp)) (zq (by rw[hwb];go_simp)) ?_;refine dG.anyS (.pointer (some ⟨g,z.length,none⟩)) ?_;refine dG.at2 undef Jz ajv KX acW (zq (by rw[tq];go_simp)) (zq (by rw[<-hcm];go_simp)) ?_;refine dG.done ?_;rw[show W (2^ [10,11,13,15].length-1)=wb from acW];have x9:w.heap.size<wo.heap.size:=lt_of_some HZ.out
      have Dh:wa.heap[w.heap.size]? =some (.cells #[.string ⟨#[]⟩,.slice none 0 0] 37 (0,0)):=by
       rw[tq,kC (by omega),KW _ (by omega),(Xz.old _ x9).1];exact HZ.out
      have TK:Grow w σ wa σq:=ET (B:=w.heap.size+1) (hgr.trans Xz) (by rw[tq];simpa [World.setCell] using s9) (by rw[tq];exact s10) (by rw[tq];exact s11) (fun b hb=>by rw[tq,kC (by omega)];exact KW b hb) (by omega);have RH:lS wa σq:=aon.near s7;have KY:σq w.heap.size=0:=(Xz.old _ x9).2.trans Hg
      have TL:jX wa σq (w.heap.size+1) 35 37 (.slice (some ⟨g,0,none⟩) (z.length+1) cap) (hz++[(.slice (some ⟨q1,0,none⟩) (x.length+1) jy)]) ((x++[eY])::z).reverse:=by
       rw[xB _ _ _ _ hzl,xB _ _ _ _ (by simp)] at s8;rw[List.reverse_cons];exact s8
      have gne:q1≠w.heap.size:=by omega
      have ajt:w.heap.size≠q1:=by omega
      obtain⟨t1,t2,t3⟩:=Xu (x:=bN ((s.take e).drop i)) (lv:=.slice none 0 0) (j:=z.length) (g1:=q1) (jy:=jy) TK.live (by rw[show(hz++[Value.slice (some ⟨q1,0,none⟩) (x.length+1) jy]).length=z.length+1 by simp[hzl]];exact TL) (by rw[List.reverse_cons,List.getElem?_append_right (by simp),List.length_reverse,Nat.sub_self];rfl) (by rw[List.getElem?_append_right (by omega),hzl,Nat.sub_self];rfl) (.nil _ _);rw[show(hz++[Value.slice (some ⟨q1,0,none⟩) (x.length+1) jy]).length=z.length+1 by simp[hzl],List.reverse_cons,xB _ _ _ _ (by simp),<-List.reverse_cons] at t2
      have t3':∀b,b≠q1->wb.heap[b]? =wa.heap[b]? :=by rw[hwb];exact t3
      have hGb:Grow w σ wb σq:=ET TK (by rw[hwb];simp[World.setCell]) (by rw[hwb];rfl) (by rw[hwb];rfl) (fun b hb=>t3' b (by omega)) (Nat.le_succ w.heap.size)
      have Xy:lS wb σq:=by rw[hwb];exact RH.near t1
      have hRb:=(t3' w.heap.size ajt).trans Dh
      have HST:Aside (jX wb σq (w.heap.size+1) 35 37 (.slice (some ⟨g,0,none⟩) (z.length+1) cap) (hz++[(.slice (some ⟨q1,0,none⟩) (x.length+1) jy)]) ((x++[bN ((s.take e).drop i)])::z).reverse):=by
       show jX wb _ _ _ _ _ _ _;rw[hwb];exact t2
      have hsz1:dA (x++[bN ((s.take e).drop i)])=dA x+(e-i):=by
       rw[gL,dA,dA,jM,Nat.add_zero,HWL.out]
      have Qw:KQ ((x++[bN ((s.take e).drop i)])::z)<=2*e:=by
       simp only[KQ,hsz1,List.length_append,List.length_singleton] at Xw ⊢;omega
      have Ib:∀l∈(x++[bN ((s.take e).drop i)])::z,l.length<=c+1:=fun l hl=>by
       rcases List.mem_cons.1 hl with rfl|hl
       ·have:=hlen x (by simp);simp only[List.length_append,List.length_singleton];omega
       ·have:=hlen l (by simp[hl]);omega
      have r0':wb.cell? ⟨w.heap.size,0,none⟩=some (.string ⟨#[]⟩):=by rw[Lib.cell_of_heap hRb];rfl
      have r1':wb.cell? ⟨w.heap.size,1,none⟩=some (.slice none 0 0):=by rw[Lib.cell_of_heap hRb];rfl
      have Z7:=Lib.frozen_of_heap hRb 0;have z1':=Lib.frozen_of_heap hRb 1;have Aw:Aside (wb.heap[w.heap.size]? =some (.cells #[.string ⟨#[]⟩,.slice none 0 0] 37 (0,0))):=hRb;clear e0 Al Jz KX ajv acW hcm d0 d1 dz0 dz1 c0 c1 cz0 cz1 Gh s1' s2' hwb hw7 tq s1 s2 s3 s4 s6 s7 s8 TL s9 s10 s11 s12 s13 KW hrun xq xq1 CS hst Dh hRb t1 t2 t3 t3' r0 r1 z0 z1
      have acU:¬(15:Int)<(z.length:Int)+1:=by omega
      by_cases hl2:1800<c+1
      ·have NQ:(1800:Int)<(c:Int)+1:=by omega
       go_wp2
       have hG:=pW (x:=.string ⟨#[]⟩) (y:=.slice none 0 0) hGb Xy (Nat.le_refl _) KY;refine pX (R:=w.heap.size) rfl rfl (pV Aw.out) (yX ?_ hG.1 hG.2.1);rw[<-HW.out,if_pos hl2]
      ·have NQ:¬(1800:Int)<(c:Int)+1:=by omega
       have Xx:Aside (iM (s.drop e) ((x++[bN ((s.take e).drop i)])::z) (c+1)=iM s [[]] 0):=by
        have:=HW.out;rw[if_neg hl2] at this;exact this
       go_wp2
       go_roundg (s.length-e)
       case measure=>omega
       case rel=>
        exact⟨(x++[bN ((s.take e).drop i)])::z,σq,e,c+1,g,cap,_,rfl,rfl,rfl,by simp[hzl],by simp,by simp only[List.length_cons];omega,by omega,by omega,Xx.out,HST.out,hGb,Xy,Ib,Qw,KY,Aw.out⟩
end Go.Ab