/-
  SEVERAL TEXTS IN ONE (merged by program): contracts and models, each with its own heading.
-/
import Derived.Test.YtbaefeecjjhhkaaGreatDoorPartOcbD
import Derived.Test.YtbaefeecjjhhkaaGreatDoorPartOcbH
import Derived.Lib.FrozenHead2
import Derived.Lib.OthersKept
import Derived.Lib.AppendStr
import Derived.Lib.UnsafeStr
import Derived.Lib.Builder
import Derived.Deep.LoopGhost
set_option maxHeartbeats 8000000
open Go.Proofs Go.Proofs.Tryz
set_option linter.unusedSimpArgs false
set_option linter.unusedVariables false
set_option maxRecDepth 100000
namespace Go.Ab
open Go.RowKit
theorem afk:(prog.info? 122).map (·.size)=some 2:=by kernel_rfl
theorem ane:liesAt prog prog.depth 122 (2/prog.cellsOf 122) 0 122 1=true:=by kernel_rfl
theorem afl:(prog.info? 5).map (fun i=>(i.zero,i.size,i.bytes))=some (some (.int .u8 0),1,1):=by kernel_rfl
theorem WA(b:Nat)(w:World)(h0:w.cell? ⟨b,0,none⟩=some (.pointer (some ⟨b,0,none⟩))):
 Calls prog 131 #[.pointer (some ⟨b,0,none⟩)] w fun e w'=>e=.returned (.tuple #[])/\w'=w:=by
 obtain⟨j,hj,_⟩:=Option.map_eq_some_iff.1 afk
 go_enter func131,ntmps131
 go_wp2
 rw[Lib.run_neq_ptr_same w _ underlying120 hj]
 go_wp2
 go_end0
 exact⟨rfl,rfl⟩
theorem Jq(b:Nat)(w:World)(h0:w.cell? ⟨b,0,none⟩=some (.pointer none))(hsh:w.shape? b=some (122,2))(hfz:w.frozen? ⟨b,0,none⟩=false):
 Calls prog 131 #[.pointer (some ⟨b,0,none⟩)] w fun e w'=>e=.returned (.tuple #[])/\w'=w.setCell ⟨b,0,none⟩ (.pointer (some ⟨b,0,none⟩)):=by
 obtain⟨j,hj,hjs⟩:=Option.map_eq_some_iff.1 afk
 go_enter func131,ntmps131
 go_wp2
 rw[Lib.run_to_unsafe w ⟨b,0,none⟩ underlying120 underlying208 hj (by rw[hjs];decide) hsh (Nat.zero_lt_succ 1)];simp only[Result.andThen];rw[Oper.upon_value]
 go_wp2
 rw[run_callFunc_extern func189 (by kernel_rfl) (by kernel_rfl) (by kernel_rfl) (e:=Extern.AbiNoEscape.same) (by kernel_rfl)];rw[Lib.run_noEscape];simp only[Result.andThen];rw[Oper.upon_value]
 go_wp2
 rw[Lib.run_from_unsafe w ⟨b,0,none⟩ underlying208 underlying120 hj hsh ane];simp only[Result.andThen];rw[Oper.upon_value]
 go_wp2
 go_end0
 exact⟨rfl,rfl⟩
theorem aad(B b:Nat)(bs:List Value)(w:World)(h:Lib.IsBuilderF 122 5 B b bs w):
 Calls prog 131 #[.pointer (some ⟨b,0,none⟩)] w fun e w'=>e=.returned (.tuple #[])/\(Lib.BuilderAtF 122 5 B b (.pointer (some ⟨b,0,none⟩)) bs w'/\Below B w w'/\Lib.OthersKept 5 (some b) w w'):=by
 rcases h with h|h
 ·refine(Jq b w h.cell0 h.shape h.frozen0).mono ?_;rintro e w' ⟨rfl,rfl⟩;exact⟨rfl,h.used _,(Below.refl B w).setCell (p:=⟨b,0,none⟩) h.1 _,(Lib.OthersKept.refl _ _ w).setCell ⟨b,0,none⟩ rfl _⟩
 ·refine(WA b w h.cell0).mono ?_;rintro e w' ⟨rfl,rfl⟩;exact⟨rfl,h,Below.refl B _,Lib.OthersKept.refl _ _ _⟩
theorem IG(B b:Nat)(bs:List Value)(c:Int)(w:World)(h:Lib.IsBuilderF 122 5 B b bs w)(hlen:bs.length+1<=140737488355328)(hBw:B<=w.heap.size):
 Calls prog 130 #[.pointer (some ⟨b,0,none⟩),.int .u8 c] w fun e w'=>e=.returned .nilIface/\(Lib.BuilderAtF 122 5 B b (.pointer (some ⟨b,0,none⟩)) (bs++[.int .u8 c]) w'/\Below B w w'/\Lib.OthersKept 5 (some b) w w'):=by
 obtain⟨i0,hi,hz0,hz1,hz2⟩:=info_parts afl
 go_enter func130,ntmps130
 go_wp2_with (go_at_call 131;refine(aad B b bs _ h).mono ?_)
 rintro e w1 ⟨rfl,⟨hB,v,hbk,hown,hne⟩,hb1,hk1⟩
 have c0:w1.cell? ⟨b,0,none⟩=some (.pointer (some ⟨b,0,none⟩)):=by rw[Lib.cell_of_heap hbk];rfl
 have c1:w1.cell? ⟨b,1,none⟩=some v:=by rw[Lib.cell_of_heap hbk];rfl
 go_wp2_with (at_builtin;refine wpList_append_ownF _ rfl _ _ 22 rfl B 5 i0 (.int .u8 0) 1 1 underlying22 hi hz0 hz1 hz2 rfl (by decide) _ _ _ rfl (hown.alloc _) ⟨w1.heap.size,0,none⟩ 1 1 [.int .u8 c] rfl rfl ?c1 ?c2 ?c3 ?c4 ?c5 ?_)
 case c1=>
  intro j u hj
  match j,hj with
  |0,hj=>simp at hj;subst hj;simp[Addr.add]
 case c2=>intro u hu;simp at hu;subst hu;rfl
 case c3=>unfold maxLen;omega
 case c4=>omega
 case c5=>have:=hb1.size;simp;omega
 intro v' w2 hown' hgrow _
 have hlt:b<w1.heap.size:=by
  rcases Nat.lt_or_ge b w1.heap.size with h'|h'
  ·exact h'
  ·simp[Array.getElem?_eq_none h'] at hbk
 have hb2:w2.heap[b]? =some (.cells #[.pointer (some ⟨b,0,none⟩),v] 122 (0,0)):=by
  rw[hgrow.block b (by simp;omega) (fun e=>hne e.symm),Lib.alloc_old w1 _ b hlt];exact hbk
 have d0:w2.cell? ⟨b,0,none⟩=some (.pointer (some ⟨b,0,none⟩)):=by rw[Lib.cell_of_heap hb2];rfl
 have d1:w2.cell? ⟨b,1,none⟩=some v:=by rw[Lib.cell_of_heap hb2];rfl
 have f1:w2.frozen? ⟨b,1,none⟩=false:=Lib.frozen_of_heap hb2 1
 obtain⟨g,cap,rfl⟩:∃g cap,v'=.slice (some ⟨g,0,none⟩) (bs.length+1) cap:=by
  rcases hown'.2 with⟨_,h0⟩|⟨g,cap,cur,fz,hv,_⟩
  ·omega
  ·exact⟨g,cap,hv⟩
 go_wp2
 go_ret
 refine⟨rfl,?_,?_,((hk1.alloc _).grown hgrow (Lib.ownsRowF_kind (hown.alloc _))).setCell ⟨b,1,none⟩ rfl _⟩
 ·exact Lib.BuilderAtF.put (T:=122) (e:=5) hB hb2 (bs':=bs++[.int .u8 c]) (by simpa using hown') (by decide)
 ·exact((hb1.alloc (by have:=hb1.size;omega) _).grown hgrow (by have:=hb1.size;simp;omega) (fun k hk=>(hown.lt k hk).1)).setCell (p:=⟨b,1,none⟩) hB _
theorem zM(B b:Nat)(bs:List Value)(s:ByteArray)(w:World)(h:Lib.IsBuilderF 122 5 B b bs w)(hlen:bs.length+s.size<=140737488355328)(hBw:B<=w.heap.size):
 Calls prog 77 #[.pointer (some ⟨b,0,none⟩),.string s] w fun e w'=>e=.returned (.tuple #[.int .i64 s.size,.nilIface])/\(Lib.BuilderAtF 122 5 B b (.pointer (some ⟨b,0,none⟩)) (bs++Lib.strCells s) w'/\Below B w w'/\Lib.OthersKept 5 (some b) w w'):=by
 obtain⟨i0,hi,hz0,hz1,hz2⟩:=info_parts afl
 go_enter func77,ntmps77
 go_wp2_with (go_at_call 131;refine(aad B b bs _ h).mono ?_)
 rintro e w1 ⟨rfl,⟨hB,v,hbk,hown,hne⟩,hb1,hk1⟩
 have c0:w1.cell? ⟨b,0,none⟩=some (.pointer (some ⟨b,0,none⟩)):=by rw[Lib.cell_of_heap hbk];rfl
 have c1:w1.cell? ⟨b,1,none⟩=some v:=by rw[Lib.cell_of_heap hbk];rfl
 go_wp2_with (at_builtin;refine Lib.wpList_append_own_stringF _ rfl _ _ 22 9 rfl B 5 i0 underlying22 underlying9 hi hz0 hz1 hz2 _ _ _ rfl hown s rfl ?c3 ?c4 ?c5 ?_)
 case c3=>unfold maxLen;omega
 case c4=>omega
 case c5=>have:=hb1.size;omega
 intro v' w2 hown' hgrow _
 have hlt:b<w1.heap.size:=by
  rcases Nat.lt_or_ge b w1.heap.size with h'|h'
  ·exact h'
  ·simp[Array.getElem?_eq_none h'] at hbk
 have hb2:w2.heap[b]? =some (.cells #[.pointer (some ⟨b,0,none⟩),v] 122 (0,0)):=by
  rw[hgrow.block b hlt (fun e=>hne e.symm)];exact hbk
 have d0:w2.cell? ⟨b,0,none⟩=some (.pointer (some ⟨b,0,none⟩)):=by rw[Lib.cell_of_heap hb2];rfl
 have d1:w2.cell? ⟨b,1,none⟩=some v:=by rw[Lib.cell_of_heap hb2];rfl
 have f1:w2.frozen? ⟨b,1,none⟩=false:=Lib.frozen_of_heap hb2 1
 obtain⟨ao,n',cap,rfl⟩:∃ao n' cap,v'=.slice ao n' cap:=by
  rcases hown'.2 with⟨hv,_⟩|⟨g,cap,cur,fz,hv,_⟩
  ·exact⟨_,_,_,hv⟩
  ·exact⟨_,_,_,hv⟩
 go_wp2
 go_ret2
 refine⟨rfl,?_,?_,(hk1.grown hgrow (Lib.ownsRowF_kind hown)).setCell ⟨b,1,none⟩ rfl _⟩
 ·exact Lib.BuilderAtF.put (T:=122) (e:=5) hB hb2 (bs':=bs++Lib.strCells s) (by simpa [Lib.strCells_length] using hown') (by decide)
 ·exact(hb1.grown hgrow (by have:=hb1.size;omega) (fun k hk=>(hown.lt k hk).1)).setCell (p:=⟨b,1,none⟩) hB _
theorem Pb(B b:Nat)(l:List UInt8)(w:World)(h:Lib.IsBuilderF 122 5 B b (Lib.byteCells l) w)(h0:l≠[]):
 Calls prog 75 #[.pointer (some ⟨b,0,none⟩)] w fun e w'=>e=.returned (.string ⟨l.toArray⟩)/\Below B w w':=by
 obtain⟨p,hA⟩:∃p,Lib.BuilderAtF 122 5 B b p (Lib.byteCells l) w:=h.elim (fun x=>⟨_,x⟩) (fun x=>⟨_,x⟩);obtain⟨hB,v,hbk,hown,-⟩:=hA
 have hl:l.length≠0:=by simpa using h0
 rw[Lib.byteCells_length] at hown;have hcell:=fun g hg=>hown.cells (g:=g) hg;obtain⟨-,⟨-,hz⟩|⟨g,cap,cur,fz,rfl,hbg,hg,-,hnc,hcm,hcs,-⟩⟩:=hown
 ·exact absurd hz hl
 have hg':w.drew.heap[g]? =some (.cells cur 5 fz):=hg;have hb':w.drew.heap[b]? =some (.cells #[p,.slice (some ⟨g,0,none⟩) l.length cap] 122 (0,0)):=hbk
 have c1:w.drew.cell? ⟨b,1,none⟩=some (.slice (some ⟨g,0,none⟩) l.length cap):=by rw[Lib.cell_of_heap hb'];rfl
 have hSD:(Builtin.unsafeSliceData_ #[22] 171 #[.slice (some ⟨g,0,none⟩) l.length cap]).run prog w.drew=.ok (.pointer (some ⟨g,0,none⟩)) w.drew:=
  Lib.run_unsafeSliceData_row _ _ _ _ _ _ (by omega)
 have hUS:(Builtin.unsafeString_ #[171,3] 9 #[.pointer (some ⟨g,0,none⟩),.int .i64 l.length]).run prog w.drew=.ok (.string ⟨l.toArray⟩) (w.drew.freeze ⟨g,0,none⟩ l.length):=
  Lib.run_unsafeString_row w.drew 171 3 9 5 underlying171 (by kernel_rfl) g cur.size (by simp[World.shape?,hg']) l h0 (by omega) (by unfold maxLen at hcm;omega) fun j x hx=>
   hcell g rfl j (.int .u8 x.toNat) (by simp[Lib.byteCells,hx])
 clear hcell hg' hb'
 go_enter func75,ntmps75
 go_wp2
 go_region
 all_goals (go_wp2;go_ret;exact⟨rfl,Lib.below_freeze (Below.drew (Below.refl B w)) (p:=⟨g,0,none⟩) hbg _⟩)
def dL(by':List UInt8):List (List UInt8)->List UInt8
 |[]=>[]
 |x::xs=>x++(xs.map fun y=>by'++y).flatten
theorem aco(b:List UInt8)(l:List (List UInt8))(x:List UInt8):dL b (l++[x])=if l=[] then x else dL b l++b++x:=by
 cases l with
 |nil=>simp[dL]
 |cons y l=>simp[dL,List.append_assoc]
mutual
def fT:aj->List UInt8
 | .mk a l=>if a=[] then [40]++dL [32] (lg l)++[41] else a
def lg:List aj->List (List UInt8)
 |[]=>[]
 |x::xs=>fT x::lg xs
end
theorem II:∀l,lg l=l.map fT
 |[]=>rfl
 |x::xs=>by rw[lg,List.map_cons,II xs]
theorem IJ(x:aj):fT x=if x.aG=[] then [40]++dL [32] (x.ah.map fT)++[41] else x.aG:=by cases x;rw[fT,II];rfl
theorem Dm(b:List UInt8)(l:List (List UInt8))(i:Nat)(hi:i<l.length):dL b (l.take (i+1))=if i=0 then l[i] else dL b (l.take i)++b++l[i]:=by
 rw[List.take_succ_eq_append_getElem hi,aco];by_cases h:i=0
 ·rw[if_pos h,if_pos (by rw[h];rfl)]
 ·rw[if_neg h,if_neg (fun e=>h (by have:=congrArg List.length e;rw[List.length_take,List.length_nil] at this;omega))]
theorem aiA(b:List UInt8)(hb:b.length=1):∀l:List (List UInt8),l.length<=(dL b l).length+1
 |[]=>by simp
 |x::xs=>by
  have h:∀ys:List (List UInt8),ys.length<=((ys.map fun y=>b++y).flatten).length:=by
   intro ys
   induction ys with
   |nil=>simp
   |cons y ys ih=>rw[List.map_cons,List.flatten_cons,List.length_append,List.length_append,List.length_cons];omega
  have:=h xs;rw[dL,List.length_append,List.length_cons];omega
theorem Dn(b:List UInt8)(l:List (List UInt8))(i:Nat):(dL b (l.take i)).length<=(dL b l).length:=by
 by_cases hi:i<l.length
 ·have:∀k,i+k<=l.length->(dL b (l.take i)).length<=(dL b (l.take (i+k))).length:=by
   intro k
   induction k with
   |zero=>intro _;exact Nat.le_refl _
   |succ k ih=>
    intro hk;have h1:=ih (by omega);rw[<-Nat.add_assoc,Dm b l (i+k) (by omega)];split
    ·rename_i h0
     have:i=0:=by omega
     subst this;simp[dL]
    ·simp only[List.length_append];omega
  have:=this (l.length-i) (by omega)
  rwa [show i+(l.length-i)=l.length by omega,List.take_length] at this
 ·rw[List.take_of_length_le (by omega)];exact Nat.le_refl _
theorem Kj(b:List UInt8):∀l:List (List UInt8),(dL b l).length<=(l.map fun x=>b.length+x.length).sum
 |[]=>by simp[dL]
 |x::xs=>by
  have h:∀ys:List (List UInt8),((ys.map fun y=>b++y).flatten).length=(ys.map fun x=>b.length+x.length).sum:=by
   intro ys
   induction ys with
   |nil=>rfl
   |cons y ys ih=>rw[List.map_cons,List.flatten_cons,List.length_append,List.length_append,ih,List.map_cons,List.sum_cons]
  rw[dL,List.length_append,h,List.map_cons,List.sum_cons];omega
mutual
theorem Fp:∀x:aj,(fT x).length<=2+3*x.sz
 | .mk a l=>by
   have h:=Pf l;rw[jH,lS];simp only[aj.aG,aj.ah];rw[fT];split
   ·have:=Kj [32] (lg l);simp only[List.length_append,List.length_cons,List.length_nil] at this ⊢;omega
   ·omega
theorem Pf:∀l:List aj,((lg l).map fun x=>0+1+x.length).sum<=3*l.length+3*cZ l
 |[]=>by simp[lg]
 |x::xs=>by
  have h1:=Fp x;have h2:=Pf xs;rw[lg,List.map_cons,List.sum_cons,cZ,List.length_cons];omega
end
def sJ(l:List UInt8):List (List D):=l.map fun b=>[D.i .u8 b.toNat]
theorem Jr(a b:List UInt8):sJ (a++b)=sJ a++sJ b:=by unfold sJ;rw[List.map_append]
theorem Js(a:List UInt8):(sJ a).length=a.length:=by unfold sJ;rw[List.length_map]
theorem Zc(a:List UInt8):(sJ a).map NM=a:=by
 unfold sJ;rw[List.map_map]
 conv=>rhs;rw[<-List.map_id a]
 refine List.map_congr_left fun b _=> ?_;show UInt8.ofNat ((b.toNat:Int)).toNat=b;rw[Int.toNat_natCast,UInt8.ofNat_toNat]
theorem acp(a:List UInt8):∀y∈sJ a,y=[.i .u8 (Hu y)]:=fun y hy=>by
 obtain⟨b,_,rfl⟩:=List.mem_map.1 hy;rfl
def zN(x:aj):List UInt8:=if dI x=true then fT x else []
def l9(x:aj):List UInt8:=if x.aG=[]/\x.ah.length=0 then [] else zN x
theorem WB(x:aj):(x.aG=[]/\x.ah.length=0)<->x=bT:=by
 refine⟨fun⟨h1,h2⟩=>aj.ext h1 (List.eq_nil_of_length_eq_zero h2),fun h=>by rw[h];exact⟨rfl,rfl⟩⟩
theorem afm{x:aj}(h:x=bT):l9 x=[]:=by
 unfold l9;rw[if_pos ((WB _).2 h)]
theorem afn{x:aj}(h:¬x=bT):l9 x=zN x:=by
 unfold l9;rw[if_neg (fun e=>h ((WB _).1 e))]
theorem anf{x:aj}(h:¬x.ah.length=0):l9 x=zN x:=by
 unfold l9;rw[if_neg (fun e=>h e.2)]
theorem ang{x:aj}(h:x.aG=[])(h':x.ah.length=0):l9 x=[]:=by
 unfold l9;rw[if_pos ⟨h,h'⟩]
theorem WC(x:aj):(l9 x).length<=40000:=by
 unfold l9 zN;split
 ·simp
 ·split
  ·rename_i h;have:=qZ h;have:=Fp x;omega
  ·simp
theorem anh{w:World}{σ:Nat->Nat}{xs:List aj}{lv:Value}(h:dJ w σ (.sl (xs.map aj.enc)) lv):∃a cap,lv=.slice a xs.length cap/\∀i (hi:i<xs.length),∃k off,a=some ⟨k,off,none⟩/\∃c t fz u,
 w.heap[k]? =some (.cells c t fz)/\c[off+i*2]? =some (.string ⟨xs[i].aG.toArray⟩)/\c[off+(i*2+1)]? =some u/\dJ w σ (.sl (xs[i].ah.map aj.enc)) u:=by
 generalize he:xs.map aj.enc=es at h
 have hl:es.length=xs.length:=by rw[<-he,List.length_map]
 cases h with
 |nil a cap=>
  have h0:xs.length=0:=hl.symm;exact⟨a,cap,by rw[h0],fun i hi=>absurd hi (by omega)⟩
 |sl k off cap aW es vals c t fz hcap hlen hb hσ hc hv=>
  refine⟨_,cap,by rw[hl],fun i hi=>⟨k,off,rfl,c,t,fz,?_⟩⟩
  have e1:es[i]'(by omega)=[.s xs[i].aG,.sl (xs[i].ah.map aj.enc)]:=by
   subst he;rw[List.getElem_map,aj.aQ]
   first|rfl|done
  have hz:aW=2:=by
   have:=hlen _ (List.getElem_mem (l:=es) (n:=i) (by omega));rw[e1] at this;exact this.symm
  subst hz;have hf:∀o (ho:o<2),es.flatten[i*2+o]? =(es[i]'(by omega))[o]? :=fun o ho=>flat_get es 2 hlen i o (by omega) ho;have h0:=hv (i*2+0) (.s xs[i].aG) (by rw[hf 0 (by omega),e1];rfl);have h1:=hv (i*2+1) (.sl (xs[i].ah.map aj.enc)) (by rw[hf 1 (by omega),e1];rfl);refine⟨vals (i*2+1),hb,?_,hc _ (by omega),h1⟩;have:=hc (i*2+0) (by omega);generalize vals (i*2+0)=v0 at h0 this;cases h0;exact this
theorem afo{w:World}{σ:Nat->Nat}{es:List (List D)}{u:Value}(h:dJ w σ (.sl es) u):∃a n c,u=.slice a n c:=by
 cases h with
 |nil a c=>exact⟨_,_,_,rfl⟩
 |sl=>exact⟨_,_,_,rfl⟩
theorem Pg(w0:World)(σ:Nat->Nat):∀(n:Nat)(x:aj),x.sz<n->∀(b:Nat)(bs:List Value)(w:World)(lv:Value),dJ w0 σ (.sl (x.ah.map aj.enc)) lv->Below w0.heap.size w0 w->
 Lib.IsBuilderF 122 5 w0.heap.size b bs w->bs.length+(fT x).length<=140737488355328->
 Calls prog 74 #[.pointer (some ⟨b,0,none⟩),.agg #[.string ⟨x.aG.toArray⟩,lv]] w fun e w'=>e=.returned (.tuple #[])/\Lib.IsBuilderF 122 5 w0.heap.size b (bs++Lib.byteCells (fT x)) w'/\Below w0.heap.size w w'/\Lib.OthersKept 5 (some b) w w'
 |0=>fun x h=>by omega
 |n+1=>fun x hx b bs w lv hr hbw h hlen=>by
  obtain⟨B,hB⟩:∃B,B=w0.heap.size:=⟨_,rfl⟩
  have hBw:B<=w.heap.size:=by rw[hB];exact hbw.size
  rw[<-hB] at hbw h ⊢
  cases x with|mk s xs=> ?_
  simp only[aj.aG,aj.ah] at *
  have ih:=Pg w0 σ n;rw[<-hB] at ih;have HB:Aside (B=w0.heap.size):=hB;clear hB;by_cases ha:s=[]
  ·subst ha
   have ht:fT (.mk [] xs)=[40]++dL [32] (xs.map fT)++[41]:=by rw[fT,if_pos rfl,II]
   rw[ht] at hlen ⊢
   have hx:∀i (hi:i<xs.length),xs[i].sz<n:=fun i hi=>by
    have h1:=gZ (List.getElem_mem hi);rw[jH,lS] at hx;simp only[aj.aG,aj.ah,List.length_nil] at hx;omega
   simp only[List.length_append,List.length_cons,List.length_nil] at hlen;have hj:=aiA [32] rfl (xs.map fT);rw[List.length_map] at hj;obtain⟨ad,cap,rfl,hrow⟩:=anh hr;clear hr;obtain⟨T,hT⟩:∃T,T=[40]++dL [32] (xs.map fT)++[41]:=⟨_,rfl⟩;rw[<-hT];have HT:Aside (T=[40]++dL [32] (xs.map fT)++[41]):=hT;clear hT ht
   go_enter func74,ntmps74
   go_wp2_with (go_at_call 130;refine(IG B b bs 40 _ (h.alloc _) ?_ ?_).mono ?_)
   ·omega
   ·simp;omega
   rintro e w1 ⟨rfl,h1,hb1,hk1⟩
   have hbne:w.heap.size≠b:=fun e=>by
    have:b<w.heap.size:=h.elim (fun z=>z.lt) (fun z=>z.lt);omega
   have c1:w1.cell? ⟨w.heap.size,1,none⟩=some (.slice ad xs.length cap):=by
    have:=hk1 w.heap.size _ (heap_alloc_new w _) (fun z=>hbne (Option.some.inj z)) (fun c fz z=>by cases z);rw[Lib.cell_of_heap this];rfl
   have hb1':Below B w w1:=((Below.refl B w).alloc hBw _).trans hb1;have agT:Lib.OthersKept 5 (some b) w w1:=((Lib.OthersKept.refl _ _ w).alloc _).trans hk1;clear hb1 hk1
   go_wp2
   go_loopg [18] xs.length (fun g v wx=>∃i:Nat,i+g=xs.length/\v=.int .i64 i/\Lib.IsBuilderF 122 5 B b (bs++Lib.byteCells ([40]++dL [32] ((xs.map fT).take i))) wx/\Below B w wx/\Lib.OthersKept 5 (some b) w wx)
   case atStart=>exact⟨0,by omega,rfl,.inr (by simpa [Lib.byteCells,dL] using h1),hb1',agT⟩
   case round=>
    obtain⟨i,hi,rfl,hbd,hbx,hkx⟩:=hrel
    cases gk with
    |zero=>
     obtain rfl:i=xs.length:=by omega
     rw[List.take_of_length_le (by simp)] at hbd
     go_wp2_with (go_at_call 130;refine(IG B b _ 41 _ hbd ?_ ?_).mono ?_)
     ·simp only[List.length_append,Lib.byteCells_length,List.length_cons,List.length_nil];omega
     ·exact Nat.le_trans hBw hbx.size
     rintro e w2 ⟨rfl,h2,hb2,hk2⟩
     go_wp2
     go_end0
     rw[HT.out];refine⟨rfl,.inr ?_,hbx.trans hb2,hkx.trans hk2⟩;rw[Lib.byteCells_append,<-List.append_assoc];exact h2
    |succ g=>
     have hil:i<xs.length:=by omega
     have hx:=hx i hil;obtain⟨k,off,rfl,c,t,fz,u,hk,hc0,hc1,U8⟩:=hrow i hil;obtain⟨ua,un,uc,rfl⟩:=afo U8;clear hrow
     have hkB:k<B:=by
      rw[HB.out];exact(Array.getElem?_eq_some_iff.1 hk).1
     have hkr:wr.heap[k]? =some (.cells c t fz):=by rw[(hbw.trans hbx).block k hkB];exact hk
     have d0:wr.cell? ⟨k,off+i*2,none⟩=some (.string ⟨xs[i].aG.toArray⟩):=by rw[Lib.cell_of_heap hkr];exact hc0
     have d1:wr.cell? ⟨k,off+i*2+1,none⟩=some (.slice ua un uc):=by rw[Lib.cell_of_heap hkr];exact hc1
     have htk:(dL [32] ((xs.map fT).take (i+1))).length<=(dL [32] (xs.map fT)).length:=Dn _ _ _;have hst:=Dm [32] (xs.map fT) i (by simpa using hil);by_cases hi0:i=0
     ·rw[if_pos hi0,List.getElem_map] at hst;rw[hst] at htk;have HST:Aside (dL [32] ((xs.map fT).take (i+1))=fT xs[i]):=hst;have HI:Aside (i=0):=hi0
      have hng:¬(0:Int)<(i:Int):=by omega
      clear hst hi0
      have hc:=ih xs[i] hx b _ (wr.alloc (.cells #[.string ⟨xs[i].aG.toArray⟩,.slice ua un uc] 64)) _ U8 (hbw.trans (hbx.trans ((Below.refl B wr).alloc (Nat.le_trans hBw hbx.size) _))) (hbd.alloc _) (by
       simp only[List.length_append,Lib.byteCells_length,List.length_cons,List.length_nil]
       have hz:dL [32] ((xs.map fT).take i)=[]:=by rw[HI.out];rfl
       rw[hz,List.length_nil];omega)
      go_wp2_with (go_at_call 74;refine hc.mono ?_;rintro e w2 ⟨rfl,h2,hb2,hk2⟩)
      go_roundg g
      case measure=>omega
      case rel=>
       refine⟨i+1,by omega,rfl,?_,hbx.trans (((Below.refl B wr).alloc (Nat.le_trans hBw hbx.size) _).trans hb2),hkx.trans (((Lib.OthersKept.refl _ _ wr).alloc _).trans hk2)⟩;rw[HST.out]
       have hz:dL [32] ((xs.map fT).take i)=[]:=by rw[HI.out];rfl
       rw[hz,List.append_nil,List.append_assoc,<-Lib.byteCells_append] at h2;exact h2
     ·rw[if_neg hi0,List.getElem_map] at hst;rw[hst] at htk;have HST:Aside (dL [32] ((xs.map fT).take (i+1))=dL [32] ((xs.map fT).take i)++[32]++fT xs[i]):=hst
      have hpg:(0:Int)<(i:Int):=by omega
      clear hst;simp only[List.length_append,List.length_cons,List.length_nil] at htk
      go_wp2_with (go_at_call 130;refine(IG B b _ 32 _ (hbd.alloc _) ?_ ?_).mono ?_)
      ·simp only[List.length_append,Lib.byteCells_length,List.length_cons,List.length_nil];omega
      ·exact Nat.le_trans (Nat.le_trans hBw hbx.size) (by simp)
      rintro e w2 ⟨rfl,h2,hb2,hk2⟩;have hwr:b<wr.heap.size:=hbd.elim (fun z=>z.lt) (fun z=>z.lt);have hq:w2.heap[wr.heap.size]? =_:=hk2 wr.heap.size _ (heap_alloc_new wr _) (fun z=>by have:=Option.some.inj z;omega) (fun c fz z=>by cases z)
      have q0:w2.cell? ⟨wr.heap.size,0,none⟩=some (.string ⟨xs[i].aG.toArray⟩):=by rw[Lib.cell_of_heap hq];rfl
      have q1:w2.cell? ⟨wr.heap.size,1,none⟩=some (.slice ua un uc):=by rw[Lib.cell_of_heap hq];rfl
      have hb2':Below B wr w2:=((Below.refl B wr).alloc (Nat.le_trans hBw hbx.size) _).trans hb2;have arA:Lib.OthersKept 5 (some b) wr w2:=((Lib.OthersKept.refl _ _ wr).alloc _).trans hk2
      have hc:=ih xs[i] hx b _ w2 _ U8 (hbw.trans (hbx.trans hb2')) (.inr h2) (by
       simp only[List.length_append,Lib.byteCells_length,List.length_cons,List.length_nil];omega)
      clear hq hb2 hk2
      go_wp2_with (go_at_call 74;refine hc.mono ?_;rintro e w3 ⟨rfl,h3,hb3,hk3⟩)
      go_roundg g
      case measure=>omega
      case rel=>
       refine⟨i+1,by omega,rfl,?_,hbx.trans (hb2'.trans hb3),hkx.trans (arA.trans hk3)⟩;rw[HST.out];simpa [Lib.byteCells,List.append_assoc] using h3
  ·have ht:fT (.mk s xs)=s:=by rw[fT,if_neg ha]
   rw[ht] at hlen ⊢;clear ht hx
   go_enter func74,ntmps74
   have hm:s.isEmpty=false:=by simpa using ha
   go_wp2_with (go_at_call 77;refine(zM B b bs _ _ (h.alloc _) ?_ ?_).mono ?_)
   ·exact hlen
   ·simp;omega
   ·rintro e w1 ⟨rfl,h1,hb1,hk1⟩
    go_wp2
    refine bodyPost_ret (results_none rfl _ _ _) rfl ?_;rw[Lib.strCells_eq] at h1;exact⟨rfl,.inr h1,((Below.refl B w).alloc hBw _).trans hb1,((Lib.OthersKept.refl _ _ w).alloc _).trans hk1⟩
theorem aiB{w:World}{σ:Nat->Nat}(hl:∀b,b<w.heap.size\/σ b=0)(hg:l7 w σ):fH w σ [] []:=
 ⟨fun k o h=>(by cases h),fun k k' o o' h h' b h1=>(by cases h1),⟨rfl,fun l fr h=>(by cases h)⟩,hl,hg⟩
theorem Dp{P:Program}{f:FuncId}{args:List V}{r:V}(h:aC P f args r){w:World}{σ:Nat->Nat}(hl:∀b,b<w.heap.size\/σ b=0)(hg:l7 w σ){vs:List Value}(hv:qh w σ [] [] args vs):
 Calls P f vs.toArray w fun e w'=>∃v σ',e=.returned v/\dS w' σ' [] [] r v/\Grow w σ w' σ'/\l7 w' σ':=
 ((h []).2 w σ [] vs (aiB hl hg) hv).mono fun e w' ⟨v,r',S',σ',β',he,hS,hk,hst,xG,hr,hS'⟩=>by
   subst hr hS'
   cases β' with
   |cons a l=>have:=hS.shape.1;simp at this
   |nil=>exact⟨v,σ',he,xG,⟨hst.size,hst.os,hst.output,fun b hb=>hst.far b hb (fun⟨k,o,h,e,_⟩=>by cases e),hS.live⟩,hS.vO⟩
theorem WE{x:V}{vs:List Value}{w:World}{σ:Nat->Nat}{S:Store}{β:Hs}(h:qh w σ S β [x] vs):∃v,vs=[v]/\dS w σ S β x v:=by
 obtain⟨hl,h⟩:=h;obtain⟨v,e0,h0⟩:=h 0 x rfl
 match vs,hl,e0 with
 |[a],_,e0=>simp at e0;subst e0;exact⟨_,rfl,h0⟩
theorem aiC(x:aj):fT x≠[]:=by
 rw[IJ];split
 ·simp
 ·assumption
theorem ani{w:World}{σ:Nat->Nat}{S:Store}{β:Hs}{x:aj}{u:Value}(h:dS w σ S β x.v u):∃lv,u=.agg #[.string ⟨x.aG.toArray⟩,lv]/\dJ w σ (.sl (x.ah.map aj.enc)) lv/\lv.oneCell'=true:=by
 rw[<-aj.M5,aj.aQ] at h;obtain⟨a,rfl,hl,h⟩:=h;obtain⟨v0,e0,h0,_⟩:=h 0 _ rfl;obtain⟨v1,e1,h1,h1c⟩:=h 1 _ rfl
 obtain rfl:v0=.string ⟨x.aG.toArray⟩:=by cases h0;rfl
 refine⟨v1,?_,h1,h1c⟩
 have:a.toList=[.string ⟨x.aG.toArray⟩,v1]:=by
  match hq:a.toList,hl,e0,e1 with
  |[p,q],_,e0,e1=>simp at e0 e1;rw[e0,e1]
 rw[<-this]
theorem Zd(x:aj)(hsz:x.sz<=67108864)(w:World)(σ:Nat->Nat)(hl:∀b,b<w.heap.size\/σ b=0)(hgl:l7 w σ)(lv:Value)(hr:dJ w σ (.sl (x.ah.map aj.enc)) lv)(hlv:lv.oneCell'=true):
 Calls prog 42 #[.agg #[.string ⟨x.aG.toArray⟩,lv]] w fun e w'=>e=.returned (.string ⟨(zN x).toArray⟩)/\∃σ',Grow w σ w' σ'/\l7 w' σ':=by
 obtain⟨wb,hwb⟩:∃wb,wb=w.alloc (.cells #[.string ⟨x.aG.toArray⟩,lv] 64):=⟨_,rfl⟩
 have hg0:Grow w σ wb σ:=by
  rw[hwb];refine⟨by simp,rfl,rfl,fun b hb=>⟨Lib.alloc_old w _ b hb,rfl⟩,fun b=> ?_⟩;rcases hl b with h|h
  ·left;simp;omega
  ·exact .inr h
 have hrb:=dJ.mono hg0.near hr
 have hv:qh wb σ [] [] [x.v] [.agg #[.string ⟨x.aG.toArray⟩,lv]]:=by
  refine⟨rfl,fun j y hy=> ?_⟩
  match j,hy with
  |0,hy=>
   simp at hy;subst hy;refine⟨_,rfl,?_⟩;rw[<-aj.M5,aj.aQ];refine⟨_,rfl,rfl,fun j y hy=> ?_⟩
   match j,hy with
   |0,hy=>simp at hy;subst hy;exact⟨_,rfl,.s _,rfl⟩
   |1,hy=>simp at hy;subst hy;exact⟨_,rfl,hrb,hlv⟩
 have hc:=Dp (qB x hsz) hg0.live (hgl.near hg0.near) hv
 have hc:Calls prog 53 #[.agg #[.string ⟨x.aG.toArray⟩,lv]] wb fun e w'=>e=.returned (.bool (dI x))/\∃σ',Grow wb σ w' σ'/\l7 w' σ':=
  hc.mono fun e w' ⟨v,σ',he,xG,hg,hgl⟩=>by
   obtain rfl:v=.bool (dI x):=by cases xG.1;rfl
   exact⟨he,σ',hg,hgl⟩
 rw[hwb] at hc hg0;have HF:Aside (zN x=if dI x=true then fT x else []):=rfl;obtain⟨T,hT⟩:∃T,T=zN x:=⟨_,rfl⟩;rw[<-hT] at HF ⊢;clear hT;by_cases tY:dI x=true
 ·rw[if_pos tY] at HF;rw[tY] at hc
  go_enter func42,ntmps42
  go_wp2_with (go_at_call 53;refine hc.mono ?_)
  rintro e w1 ⟨rfl,σ1,hg1,Az⟩
  have hlt:w.heap.size<(w.alloc (.cells #[.string ⟨x.aG.toArray⟩,lv] 64)).heap.size:=by simp
  have hq:w1.heap[w.heap.size]? =_:=(hg1.old _ hlt).1.trans (heap_alloc_new w _)
  have c0:w1.cell? ⟨w.heap.size,0,none⟩=some (.string ⟨x.aG.toArray⟩):=by rw[Lib.cell_of_heap hq];rfl
  have c1:w1.cell? ⟨w.heap.size,1,none⟩=some lv:=by rw[Lib.cell_of_heap hq];rfl
  have hlt1:w.heap.size<w1.heap.size:=Nat.lt_of_lt_of_le hlt hg1.size;have hq1:=(Lib.alloc_old w1 (.cells #[.pointer none,.slice none 0 0] 122) _ hlt1).trans hq
  have d0:(w1.alloc (.cells #[.pointer none,.slice none 0 0] 122)).cell? ⟨w.heap.size,0,none⟩=some (.string ⟨x.aG.toArray⟩):=by rw[Lib.cell_of_heap hq1];rfl
  have d1:(w1.alloc (.cells #[.pointer none,.slice none 0 0] 122)).cell? ⟨w.heap.size,1,none⟩=some lv:=by rw[Lib.cell_of_heap hq1];rfl
  have hr1:dJ w1 σ1 (.sl (x.ah.map aj.enc)) lv:=dJ.mono (hg0.trans hg1).near hr
  have hbd:Lib.IsBuilderF 122 5 w1.heap.size w1.heap.size [] (w1.alloc (.cells #[.pointer none,.slice none 0 0] 122)):=
   .inl ⟨Nat.le_refl _,_,heap_alloc_new w1 _,⟨rfl,.inl ⟨rfl,rfl⟩⟩,by simp[Value.ownBlock]⟩
  have hW:=Pg w1 σ1 (x.sz+1) x (Nat.lt_succ_self _) w1.heap.size [] _ lv hr1 ((Below.refl _ w1).alloc (Nat.le_refl _) _) hbd (by
   have:=Fp x
   simp only[List.length_nil];omega)
  clear hq hbd hq1
  go_wp2_with (go_at_call 74;refine hW.mono ?_)
  rintro e w2 ⟨rfl,h2,hb2,hk2⟩;rw[List.nil_append] at h2;have hT:=Pb w1.heap.size w1.heap.size (fT x) w2 h2 (aiC x)
  go_wp2_with (go_at_call 75;refine hT.mono ?_)
  rintro e w3 ⟨rfl,hb3⟩
  go_wp2
  go_ret
  rw[HF.out];have hb:Below w1.heap.size w1 w3:=(((Below.refl _ w1).alloc (Nat.le_refl _) _).trans hb2).trans hb3;have hg3:Grow w1 σ1 w3 σ1:=⟨hb.size,hb.os,hb.output,fun k hk=>⟨hb.block k hk,rfl⟩,fun k=>(hg1.live k).elim (fun h=>.inl (Nat.lt_of_lt_of_le h hb.size)) .inr⟩;exact⟨rfl,σ1,(hg0.trans hg1).trans hg3,Az.near hg3.near⟩
 ·rw[if_neg tY] at HF;simp only[Bool.not_eq_true] at tY;rw[tY] at hc
  go_enter func42,ntmps42
  go_wp2_with (go_at_call 53;refine hc.mono ?_;rintro e w1 ⟨rfl,σ1,hg1,Az⟩)
  go_ret
  rw[HF.out];exact⟨rfl,σ1,hg0.trans hg1,Az⟩
theorem Rc(x:aj)(hsz:x.sz<=67108864):aC prog 42 [x.v] (.c (.d (.s (zN x)))):=fun S=>by
 refine⟨⟨_,func42,by kernel_rfl,by kernel_rfl⟩,fun w σ β vs hS hv=> ?_⟩;obtain⟨u,rfl,hu⟩:=WE hv;obtain⟨lv,rfl,hr,hlv⟩:=ani hu;refine(Zd x hsz w σ hS.live hS.vO lv hr hlv).mono fun e w' ⟨he,σ',hg,_⟩=> ?_;exact⟨_,.c (.d (.s (zN x))),S,σ',β,he,hS.grow hg,Keep.refl _ _,Step.lX hg,⟨.s _,rfl⟩,rfl,rfl⟩
end Go.Ab