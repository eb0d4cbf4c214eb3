/-
  SEVERAL TEXTS IN ONE (merged by program): contracts and models, each with its own heading.
-/
import Derived.Orders
import Derived.Tactics
import Derived.RowKit3
import Derived.Laws.Strings
import Derived.Laws.Entries
import Derived.Laws.Cells
import Derived.MapKept
import Derived.Laws.BytesArg
import Derived.Laws.CopyRow
import Derived.IntWalk
import Derived.Laws.Externs
theorem Go.Ab.gA{p:Prop}(h:p:=by omega):p:=h
theorem Go.Ab.gC{p:Prop}(h:p:=by simp only;omega):p:=h
theorem Go.Ab.gE{p:Prop}(h:p:=by decide):p:=h
theorem Go.Ab.gL{p:Prop}(h:p:=by simp):p:=h
theorem Go.Ab.gO{p:Prop}(h:p:=by rw[aW];exact g _):p:=h
theorem Go.Ab.gR{p:Prop}(h:p:=by simp;omega):p:=h
theorem Go.Ab.gS{p:Prop}(h:p:=by simp[Op.operands]):p:=h
theorem Go.Ab.hH{p:Prop}(h:p:=by first|omega|(simp only[ae,aa,al];omega)):p:=h
theorem Go.Ab.hJ{p:Prop}(h:p:=by rw[ab];exact hi):p:=h
open Go
abbrev Go.Ab.aa:=@List.length_cons
abbrev Go.Ab.ab:=@List.length_map
abbrev Go.Ab.ac:=@List.getElem_mem
abbrev Go.Ab.ae:=@List.length_append
abbrev Go.Ab.af:=@List.map_cons
abbrev Go.Ab.ag:=@List.getElem?_append_right
abbrev Go.Ab.ai:=@Bool.and_eq_true
abbrev Go.Ab.al:=@List.length_nil
abbrev Go.Ab.am:=@List.getElem?_eq_getElem
abbrev Go.Ab.an:=@Nat.zero_le
abbrev Go.Ab.ap:=@List.getElem?_eq_some_iff
abbrev Go.Ab.aq:=@List.getElem?_append_left
abbrev Go.Ab.aw:=@List.map_nil
abbrev Go.Ab.ax:=@Nat.le_refl
abbrev Go.Ab.az:=@List.all_eq_true
abbrev Go.Ab.aE:=@List.take_of_length_le
abbrev Go.Ab.ba:=@List.cons_append
abbrev Go.Ab.bc:=@List.nil_append
abbrev Go.Ab.be:=@List.mem_map_of_mem
abbrev Go.Ab.bh:=@List.sizeOf_lt_of_mem
abbrev Go.Ab.bi:=@List.length_take_le
abbrev Go.Ab.bj:=@Array.getElem?_eq_some_iff
abbrev Go.Ab.bk:=@List.length_drop
abbrev Go.Ab.bm:=@List.append_nil
abbrev Go.Ab.bp:=@List.getElem_map
abbrev Go.Ab.bu:=@List.take_succ_eq_append_getElem
abbrev Go.Ab.bw:=@List.map_append
abbrev Go.Ab.bz:=@List.eq_nil_of_length_eq_zero
abbrev Go.Ab.bE:=@List.getElem?_map
abbrev Go.Ab.cb:=@List.drop_eq_getElem_cons
abbrev Go.Ab.cd:=@Bool.true_and
abbrev Go.Ab.cf:=@List.append_assoc
abbrev Go.Ab.cg:=@Nat.lt_succ_self
abbrev Go.Ab.ch:=@List.take_length
abbrev Go.Ab.ci:=@List.getElem_of_mem
abbrev Go.Ab.cj:=@List.length_take
abbrev Go.Ab.ck:=@List.getElem?_take_of_lt
abbrev Go.Ab.cm:=@Array.getElem?_toList
abbrev Go.Ab.cn:=@List.getElem?_eq_none
abbrev Go.Ab.co:=@Nat.le_trans
abbrev Go.Ab.cp:=@Array.length_toList
abbrev Go.Ab.cq:=@Array.getElem?_eq_getElem
abbrev Go.Ab.cr:=@List.mem_map
abbrev Go.Ab.cw:=@List.mem_range
abbrev Go.Ab.cx:=@Nat.mul_le_mul_right
abbrev Go.Ab.cy:=@List.drop_length
abbrev Go.Ab.cz:=@List.getD_eq_getElem?_getD
abbrev Go.Ab.cA:=@List.drop_of_length_le
abbrev Go.Ab.cC:=@Option.some.injEq
abbrev Go.Ab.cD:=@Bool.and_true
abbrev Go.Ab.cE:=@List.take_zero
abbrev Go.Ab.cF:=@List.flatten_cons
abbrev Go.Ab.cG:=@Nat.zero_add
abbrev Go.Ab.cH:=@Array.toArray_toList
abbrev Go.Ab.cI:=@List.getElem?_drop
abbrev Go.Ab.cJ:=@List.mem_of_mem_drop
abbrev Go.Ab.cL:=@Option.some.inj
abbrev Go.Ab.cM:=@Nat.sub_self
abbrev Go.Ab.cN:=@List.drop_zero
abbrev Go.Ab.cP:=@Bool.false_eq_true
abbrev Go.Ab.cQ:=@List.map_congr_left
abbrev Go.Ab.cR:=@Nat.add_zero
abbrev Go.Ab.cS:=@Nat.add_mul
abbrev Go.Ab.cT:=@List.mem_cons
abbrev Go.Ab.cU:=@Array.getElem?_append_left
abbrev Go.Ab.cV:=@List.flatten_append
abbrev Go.Ab.cW:=@List.length_set
abbrev Go.Ab.cX:=@Bool.and_self
abbrev Go.Ab.cY:=@Nat.add_sub_cancel_left
abbrev Go.Ab.da:=@List.take_append_drop
abbrev Go.Ab.db:=@Array.getElem?_modify
abbrev Go.Ab.dc:=@List.getElem?_toArray
abbrev Go.Ab.dd:=@Nat.le_of_ble_eq_true
abbrev Go.Ab.de:=@List.mem_of_getElem?
abbrev Go.Ab.df:=@Nat.lt_of_lt_of_le
abbrev Go.Ab.dg:=@List.filter_append
abbrev Go.Ab.di:=@List.drop_succ_cons
abbrev Go.Ab.dj:=@Array.getElem?_push
abbrev Go.Ab.dk:=@Bool.or_eq_true
abbrev Go.Ab.dl:=@List.ext_getElem?
abbrev Go.Ab.dm:=@List.mem_append
abbrev Go.Ab.dq:=@Option.getD_some
abbrev Go.Ab.dt:=@List.map_drop
abbrev Go.Ab.du:=@Bool.or_eq_false_iff
abbrev Go.Ab.dv:=@List.all_cons
abbrev Go.Ab.dy:=@Option.bind_some
abbrev Go.Ab.dC:=@Option.map_some
abbrev Go.Ab.dE:=@Array.getElem?_eq_none
abbrev Go.Ab.dS:=@List.getElem?_set_self
abbrev Go.Ab.ea:=@List.size_toArray
abbrev Go.Ab.eb:=@List.reverse_cons
abbrev Go.Ab.ec:=@Nat.add_assoc
abbrev Go.Ab.ed:=@Bool.false_or
abbrev Go.Ab.ee:=@List.map_take
abbrev Go.Ab.ef:=@List.mapM_cons
abbrev Go.Ab.eg:=@List.length_singleton
abbrev Go.Ab.eh:=@Array.getD_eq_getD_getElem?
abbrev Go.Ab.ej:=@List.mem_singleton
abbrev Go.Ab.em:=@List.getElem?_of_mem
abbrev Go.Ab.en:=@Bool.false_and
abbrev Go.Ab.ep:=@List.mem_append_right
abbrev Go.Ab.eq:=@Nat.add_comm
abbrev Go.Ab.ew:=@List.map_map
abbrev Go.Ab.ey:=@List.mem_cons_self
abbrev Go.Ab.ez:=@List.sum_cons
abbrev Go.Ab.eA:=@List.mem_of_mem_take
abbrev Go.Ab.eC:=@List.mem_cons_of_mem
abbrev Go.Ab.eE:=@List.getElem?_set_ne
abbrev Go.Ab.eJ:=@List.getElem?_set
abbrev Go.Ab.eK:=@List.cons.injEq
abbrev Go.Ab.eL:=@List.take_succ_cons
abbrev Go.Ab.eM:=@List.dropWhile_cons
abbrev Go.Ab.eN:=@List.all_nil
abbrev Go.Ab.eQ:=@Array.toList_setIfInBounds
abbrev Go.Ab.eR:=@Prod.ext
abbrev Go.Ab.eS:=@List.dropWhile_suffix
abbrev Go.Ab.eV:=@Array.getElem?_setIfInBounds_ne
abbrev Go.Ab.eW:=@Nat.lt_trichotomy
abbrev Go.Ab.eX:=@Bool.eq_false_iff
abbrev Go.Ab.fa:=@List.getElem?_cons_succ
abbrev Go.Ab.fb:=@List.getD_cons_zero
abbrev Go.Ab.fc:=@List.not_mem_nil
abbrev Go.Ab.fe:=@List.flatten_nil
abbrev Go.Ab.ff:=@List.drop_eq_nil_of_le
abbrev Go.Ab.fg:=@Array.append_assoc
abbrev Go.Ab.fh:=@Nat.lt_or_ge
abbrev Go.Ab.fi:=@List.foldl_cons
abbrev Go.Ab.fj:=@Bool.not_eq_true'
abbrev Go.Ab.fk:=@Int.toNat_natCast
abbrev Go.Ab.fl:=@Option.isSome_iff_exists
abbrev Go.Ab.fm:=@List.length_pos_iff
abbrev Go.Ab.fo:=@List.getElem?_cons_zero
abbrev Go.Ab.fp:=@List.not_all_eq_any_not
abbrev Go.Ab.ft:=@Bool.not_true
abbrev Go.Ab.fw:=@Bool.eq_iff_iff
abbrev Go.Ab.fx:=@Nat.eq_zero_or_pos
abbrev Go.Ab.fy:=@Bool.not_eq_false'
abbrev Go.Ab.fL:=@Bool.not_false
abbrev Go.Ab.fR:=@List.drop_drop
abbrev Go.Ab.fS:=@List.cons.sizeOf_spec
abbrev Go.Ab.fW:=@Bool.and_assoc
abbrev Go.Ab.fX:=@List.append_eq
abbrev Go.Ab.fY:=@Array.getElem?_append_right
abbrev Go.Ab.ga:=@List.mem_append_left
abbrev Go.Ab.gc:=@Nat.pow_le_pow_right
abbrev Go.Ab.ge:=@List.suffix_refl
abbrev Go.Ab.gf:=@List.suffix_cons
abbrev Go.Ab.gg:=@List.any_cons
abbrev Go.Ab.gh:=@List.flatMap_append
abbrev Go.Ab.gj:=@Nat.min_eq_left
abbrev Go.Ab.gl:=@Array.size_push
abbrev Go.Ab.gm:=@UInt8.toNat_inj
abbrev Go.Ab.gp:=@List.getLastD_eq_getLast?
abbrev Go.Ab.gt:=@Option.isSome_none
abbrev Go.Ab.gv:=@Nat.pow_succ
abbrev Go.Ab.gx:=@Nat.mul_le_mul
set_option linter.unusedSimpArgs false
set_option linter.unusedVariables false
namespace Go.Ab
inductive D where
 |b (x:Bool)
 |i (k:IntKind) (n:Int)
 |s (l:List UInt8)
 |sl (es:List (List D))
 |o (v:Value)
 |ol (n:Nat) (es:List (List D))
abbrev Key:=Nat×Nat
inductive C where
 |d (x:D)
 |any
 |bJ (k:Key) (es:List (List D))
 |bH (es:List (List D))
 |ptr (k:Key) (off:Nat)
 |om (cs:List D)
 |nM (k:Key) (i off:Nat)
 |jO (k:Key)
 |fn (f:Nat) (caps:List (Key×Nat))
 |mp (k:Key)
 |mE (n:Nat) (es:List (List D))
 |xp (k:Key) (r:Nat) (p:List (Nat×Nat))
 |xq (k:Key) (r:Nat) (p:List (Nat×Nat)) (z i off:Nat)
inductive V where
 |c (x:C)
 |agg (cs:List C)
 |eu (xs:List (Bool×List C))
 |any
inductive Obj where
 |dead
 |box (cs:List C)
 |tok (bB:Nat) (es:List (List D))
 |fM (bB:Nat) (es:List (List D))
 |mp (m:List (List UInt8))
 |eP (n bB:Nat) (es:List (List D))
 |seed (n:Nat)
 |xf (rs:List (List (List D)))
abbrev Store:=List (List Obj)
abbrev Hs:=List (List Value)
def bC{α:Type}:List (List α)->Key->Option α
 |[],_=>none
 |fr::_,(0,j)=>fr[j]?
 |_::S,(l+1,j)=>bC S (l,j)
def bA{α:Type}:List (List α)->Key->α->List (List α)
 |[],_,_=>[]
 |fr::S,(0,j),x=>fr.set j x::S
 |fr::S,(l+1,j),x=>fr::bA S (l,j) x
def EN(n:Nat)(k:Key):Key:=(n+k.1,k.2)
def C.up(n:Nat):C->C
 | .d x=>.d x
 | .any=>.any
 | .bJ k es=>.bJ (EN n k) es
 | .bH es=>.bH es
 | .ptr k off=>.ptr (EN n k) off
 | .om cs=>.om cs
 | .nM k i off=>.nM (EN n k) i off
 | .jO k=>.jO (EN n k)
 | .fn f caps=>.fn f (caps.map fun x=>(EN n x.1,x.2))
 | .mp k=>.mp (EN n k)
 | .mE m es=>.mE m es
 | .xp k r p=>.xp (EN n k) r p
 | .xq k r p z i off=>.xq (EN n k) r p z i off
def V.up(n:Nat):V->V
 | .c x=>.c (x.up n)
 | .agg cs=>.agg (cs.map (C.up n))
 | .eu xs=>.eu (xs.map fun y=>(y.1,y.2.map (C.up n)))
 | .any=>.any
theorem rH{α:Type}(k:Key):bC ([]:List (List α)) k=none:=by unfold bC;rfl
theorem bM{α:Type}(fr:List α)(S:List (List α))(j:Nat):bC (fr::S) (0,j)=fr[j]? :=by rw[bC]
theorem dG{α:Type}(fr:List α)(S:List (List α))(l j:Nat):bC (fr::S) (l+1,j)=bC S (l,j):=by rw[bC]
theorem fF{α:Type}:∀(n:Nat)(S:List (List α))(k:Key),bC (S.drop n) k=bC S (EN n k)
 |0,S,(l,j)=>by simp[EN]
 |n+1,[],k=>by simp[rH]
 |n+1,fr::S,(l,j)=>by
  rw[di,fF n S (l,j)];show _=bC (fr::S) (n+1+l,j);rw[show n+1+l=(n+l)+1 from gA,dG];rfl
theorem dA{α:Type}(x:α):∀(S:List (List α))(k:Key)(y:α),bC S k=some y->bC (bA S k x) k=some x
 |[],k,y,h=>by rw[rH] at h;cases h
 |fr::S,(0,j),y,h=>by
  rw[bM] at h;rw[bA,bM];have:=ap.1 h;simp[this.1]
 |fr::S,(l+1,j),y,h=>by
  rw[dG] at h;rw[bA,dG];exact dA x S (l,j) y h
theorem fV{α:Type}(x:α):∀(S:List (List α))(k k':Key),k≠k'->bC (bA S k x) k'=bC S k'
 |[],k,k',_=>by simp[bA]
 |fr::S,(0,j),(0,j'),h=>by
  have:j≠j':=fun e=>h (by rw[e]);rw[bA,bM,bM];simp[this]
 |fr::S,(0,j),(l'+1,j'),h=>by rw[bA,dG,dG]
 |fr::S,(l+1,j),(0,j'),h=>by rw[bA,bM,bM]
 |fr::S,(l+1,j),(l'+1,j'),h=>by
  rw[bA,dG,dG];exact fV x S (l,j) (l',j') (fun e=>h (by injection e with e1 e2;rw[e1,e2]))
inductive dO(w:World)(σ:Nat->Nat):D->Value->Prop
 |b (x:Bool):dO w σ (.b x) (.bool x)
 |i (k:IntKind) (n:Int):dO w σ (.i k n) (.int k n)
 |s (l:List UInt8):dO w σ (.s l) (.string ⟨l.toArray⟩)
 |o (v:Value) (h:v.oneCell'=true):dO w σ (.o v) v
 |nil (a:Option Addr) (cap:Nat):dO w σ (.sl []) (.slice a 0 cap)
 |sl (b off cap bB:Nat) (es:List (List D)) (vals:Nat->Value) (c:Array Value) (t:TypeId) (fz:Nat×Nat)
   (hcap:es.length<=cap) (hlen:∀e∈es,e.length=bB) (hb:w.heap[b]? =some (.cells c t fz)) (hσ:off+es.length*bB<=σ b)
   (hc:∀j,j<es.length*bB->c[off+j]? =some (vals j)) (hv:∀(j:Nat)(d:D),es.flatten[j]? =some d->dO w σ d (vals j)):
   dO w σ (.sl es) (.slice (some ⟨b,off,none⟩) es.length cap)
 |xO (n:Nat) (a:Option Addr) (cap:Nat):dO w σ (.ol n []) (.slice a 0 cap)
 |ol (n b off cap bB:Nat) (es:List (List D)) (vals:Nat->Value) (c:Array Value) (t:TypeId)
   (hcap:es.length<=cap) (hlen:∀e∈es,e.length=bB) (hb:w.heap[b]? =some (.cells c t (0,0))) (hσ:σ b=c.size+1+n) (hfit:off+es.length*bB<=c.size)
   (hc:∀j,j<es.length*bB->c[off+j]? =some (vals j)) (hv:∀(j:Nat)(d:D),es.flatten[j]? =some d->dO w σ d (vals j)) (hx:off=0/\cap*bB<=c.size):
   dO w σ (.ol n es) (.slice (some ⟨b,off,none⟩) es.length cap)
def kid(T:Value)(i o:Nat):Option Value:=
 match T with
 |Value.tuple a=>match(a[1]? :Option Value) with
  |some (Value.tuple rows)=>match(rows[i]? :Option Value) with
   |some (Value.tuple ks)=>match(ks[o]? :Option Value) with
    |some (Value.tuple a)=>some (Value.tuple a)
    |_=>none
   |_=>none
  |_=>none
 |_=>none
def hdr(T:Value):Option Value:=
 match T with
 |Value.tuple a=>(a[0]? :Option Value)
 |_=>none
def uE:Value->List (Nat×Nat)->Option Value
 |T,[]=>some T
 |T,(i,o)::p=>(kid T i o).bind fun u=>uE u p
inductive qG:Value->Nat->Prop
 |here {T:Value} {a:Addr} {n cap:Nat}:hdr T=some (.slice (some a) n cap)->0<n->qG T a.block
 |kid {T u:Value} {i o b:Nat}:kid T i o=some u->qG u b->qG T b
def cellAt(es:List (List D))(i o:Nat):Option D:=(es[i]?).bind fun r=>r[o]?
def SD:D->Value->Prop
 | .b x,v=>v=.bool x
 | .i k n,v=>v=.int k n
 | .s l,v=>v=.string ⟨l.toArray⟩
 |_,_=>False
inductive vG(w:World):List (List D)->Value->Prop
 |nil (a:Option Addr) (cap:Nat) (T:Value) (h:hdr T=some (.slice a 0 cap)) (hk:∀i o,kid T i o=none):vG w [] T
 |mk (b off cap z:Nat) (es:List (List D)) (T:Value) (c:Array Value) (t:TypeId) (vals kids:Nat->Nat->Value) (hh:hdr T=some (.slice (some ⟨b,off,none⟩) es.length cap))
   (hne:es≠[]) (hcap:es.length<=cap) (hlen:∀e∈es,e.length=z) (hb:w.heap[b]? =some (.cells c t (0,0))) (hfit:off+es.length*z<=c.size)
   (hc:∀i o d,cellAt es i o=some d->c[off+(i*z+o)]? =some (vals i o))
   (hs:∀i o d,cellAt es i o=some d->(∃es',d=.sl es')\/SD d (vals i o))
   (hk:∀i o es',cellAt es i o=some (.sl es')->kid T i o=some (kids i o)/\hdr (kids i o)=some (vals i o))
   (hx:∀i o es',cellAt es i o=some (.sl es')->vG w es' (kids i o))
   (hself:∀i o u,kid T i o=some u->¬qG u b)
   (hap:∀i o i' o' u u' x,(i,o)≠(i',o')->kid T i o=some u->kid T i' o'=some u'->qG u x->qG u' x->False)
   (Es:∀i o u,kid T i o=some u->∃es',cellAt es i o=some (.sl es')):vG w es T
def zG(h:Value)(r:Nat):Option Value:=
 match h with
 |Value.tuple Ts=>(Ts[r]? :Option Value)
 |_=>none
def QD(h:Value)(r:Nat)(p:List (Nat×Nat)):Option Value:=((zG h r).bind fun T=>uE T p).bind hdr
def NM(h:Value)(b:Nat):Prop:=∃r T,zG h r=some T/\qG T b
def wC(o:Obj)(bB:Nat)(es:List (List D)):Prop:=o=.tok bB es\/∃n,o=.eP n bB es
def adz(w:World)(σ:Nat->Nat)(cs:List D)(a:Addr):Prop:=
 ∃c t fz,a.spot=none/\w.heap[a.block]? =some (.cells c t fz)/\a.off+cs.length<=σ a.block/\
  ∀(j:Nat)(d:D),cs[j]? =some d->∃v:Value,c[a.off+j]? =some v/\dO w σ d v
def jc(w:World)(σ:Nat->Nat)(S:Store)(β:Hs):C->Value->Prop
 | .d x,v=>dO w σ x v
 | .any,_=>True
 | .bH es,v=>dO w σ (.sl es) v/\∃a n,v=.slice a n n
 | .bJ k es,v=>dO w σ (.sl es) v/\∃o,bC S k=some o/\∀bB es',wC o bB es'->es.length<=es'.length/\(es.length=es'.length->bC β k=some v)
 | .ptr k off,v=>∃o,bC S k=some o/\∀cs,o=.box cs->∃b,bC β k=some (.pointer (some ⟨b,0,none⟩))/\v=.pointer (some ⟨b,off,none⟩)
 | .om cs,v=>∃a,v=.pointer (some a)/\adz w σ cs a
 | .nM k i off,v=>∃o,bC S k=some o/\∀bB es,o=.fM bB es->∃b n cap,bC β k=some (.slice (some ⟨b,0,none⟩) n cap)/\v=.pointer (some ⟨b,i*bB+off,none⟩)
 | .jO k,v=>∃o,bC S k=some o/\∀bB es,o=.fM bB es->bC β k=some v
 | .fn f caps,v=>∃vs:Array Value,v=.func (.func f) #[] vs/\vs.size=caps.length/\
    ∀(j:Nat)(k:Key)(off:Nat),caps[j]? =some (k,off)->∃u:Value,vs[j]? =some u/\u.oneCell'=true/\∃o,bC S k=some o/\∀cs,o=.box cs->∃b,bC β k=some (Value.pointer (some ⟨b,0,none⟩))/\u=Value.pointer (some ⟨b,off,none⟩)
 | .mp k,v=>∃o,bC S k=some o/\∀m,o=.mp m->bC β k=some v
 | .mE m es,v=>dO w σ (.ol m es) v/\∃a n,v=.slice a n n
 | .xp k r p,v=>∃o,bC S k=some o/\∀rs,o=.xf rs->∃h,bC β k=some h/\QD h r p=some v
 | .xq k r p z i off,v=>∃o,bC S k=some o/\∀rs,o=.xf rs->∃h b a n cap,bC β k=some h/\QD h r p=some (.slice (some ⟨b,a,none⟩) n cap)/\v=.pointer (some ⟨b,a+i*z+off,none⟩)
def gN(w:World)(σ:Nat->Nat)(S:Store)(β:Hs)(cs:List C)(vs:List Value):Prop:=
 cs.length=vs.length/\∀(j:Nat)(x:C),cs[j]? =some x->∃v:Value,vs[j]? =some v/\jc w σ S β x v/\v.oneCell'=true
def TN(w:World)(σ:Nat->Nat)(S:Store)(β:Hs)(y:Bool×List C)(u:Value):Prop:=
 match y with
 |(true,cs)=>∃a':Array Value,u=Value.agg a'/\gN w σ S β cs a'.toList
 |(false,cs)=>∃x,cs=[x]/\jc w σ S β x u/\u.oneCell'=true
def dR(w:World)(σ:Nat->Nat)(S:Store)(β:Hs):V->Value->Prop
 | .c x,v=>jc w σ S β x v/\v.oneCell'=true
 | .agg cs,v=>∃a:Array Value,v=.agg a/\gN w σ S β cs a.toList
 | .eu xs,v=>∃a:Array Value,v=.tuple a/\xs.length=a.size/\
    ∀(j:Nat)(y:Bool×List C),xs[j]? =some y->∃u:Value,a[j]? =some u/\TN w σ S β y u
 | .any,_=>True
def blk:Obj->Value->Option Nat
 | .box _,.pointer (some a)=>some a.block
 | .tok _ es,.slice (some a) _ cap=>if cap=es.length then none else some a.block
 | .eP _ _ es,.slice (some a) _ cap=>if cap=es.length then none else some a.block
 | .fM _ _,.slice (some a) _ cap=>if cap=0 then none else some a.block
 | .mp _,.map r=>r
 |_,_=>none
def owns:Obj->Value->Nat->Prop
 | .xf _,h,b=>NM h b
 |o,h,b=>blk o h=some b
def iI(w:World)(σ:Nat->Nat)(S:Store)(β:Hs):Obj->Value->Prop
 | .dead,_=>True
 | .box cs,h=>∃b c t,h=.pointer (some ⟨b,0,none⟩)/\w.heap[b]? =some (.cells c t (0,0))/\σ b=0/\gN w σ S β cs c.toList
 | .tok bB es,h=>dO w σ (.sl es) h/\(∀e∈es,e.length=bB)/\∃a cap,h=.slice a es.length cap/\es.length<=cap/\
    (cap=es.length\/∃b off c t,a=some ⟨b,off,none⟩/\w.heap[b]? =some (.cells c t (0,0))/\σ b=off+es.length*bB/\off+cap*bB<=c.size/\off=0)
 | .fM bB es,h=>(∀e∈es,e.length=bB)/\∃a cap,h=.slice a es.length cap/\es.length<=cap/\(cap=0\/∃b c t,a=some ⟨b,0,none⟩/\w.heap[b]? =some (.cells c t (0,0))/\σ b=0/\
    cap*bB<=c.size/\∀(j:Nat)(x:D),es.flatten[j]? =some x->∃v:Value,c[j]? =some v/\dO w σ x v)
 | .mp m,h=>∃(b:Nat) (es:Array MapEntry) (clock:Nat),h=.map (some b)/\w.heap[b]? =some (.map es clock)/\σ b=0/\
    es.toList.map (fun e=>(e.key,e.val))=m.map (fun l=>(Value.string ⟨l.toArray⟩,Value.bool true))
 | .eP n bB es,h=>dO w σ (.sl es) h/\(∀e∈es,e.length=bB)/\∃a cap,h=.slice a es.length cap/\es.length<=cap/\
    ((cap=es.length/\dO w σ (.ol n es) h)\/(cap≠es.length/\∃b off c t,a=some ⟨b,off,none⟩/\w.heap[b]? =some (.cells c t (0,0))/\σ b=off+es.length*bB/\off+cap*bB<=c.size/\off=0))
 | .seed _,_=>True
 | .xf rs,h=>(∀r es,rs[r]? =some es->∃T,zG h r=some T/\vG w es T)/\(∀r T,zG h r=some T->r<rs.length)/\(∀b,NM h b->σ b=0)/\
    ∀r r' T T' x,r≠r'->zG h r=some T->zG h r'=some T'->qG T x->qG T' x->False
def Own(S:Store)(β:Hs)(b:Nat):Prop:=∃k o h,bC S k=some o/\bC β k=some h/\owns o h b
def acs:List (Nat×(List Value->Prop)):=[(3,fun l=>l=(List.range 20).map fun i=>Value.int .u64 (10^i:Nat)),(2,fun l=>∃te pe,l=[Value.iface te pe]),(1,fun l=>∃te pe,l=[Value.iface te pe])]
def mF(w:World)(σ:Nat->Nat):Prop:=∀g p,(g,p)∈acs->∃c t fz,w.heap[g]? =some (.cells c t fz)/\p c.toList/\c.size<=σ g
structure fC(w:World)(σ:Nat->Nat)(S:Store)(β:Hs):Prop where
 obj:∀k o,bC S k=some o->∃h,bC β k=some h/\iI w σ (S.drop k.1) (β.drop k.1) o h
 apart:∀k k' o o' h h' b,bC S k=some o->bC β k=some h->owns o h b->bC S k'=some o'->bC β k'=some h'->owns o' h' b->k=k'
 shape:S.length=β.length/\∀(l:Nat)(fr:List Obj),S[l]? =some fr->∃gr:List Value,β[l]? =some gr/\gr.length=fr.length
 live:∀b,b<w.heap.size\/σ b=0
 vH:mF w σ
def nZ(o:Obj)(h:Option Value)(o':Obj)(h':Option Value):Prop:=
 o'=.dead\/match o with
  | .dead=>o'=.dead
  | .box _=>(∃cs,o'=.box cs)/\h'=h
  | .tok _ es=>∃bB es',o'=.tok bB es'/\es.length<=es'.length/\(es.length=es'.length->h'=h)
  | .fM bB _=>(∃es',o'=.fM bB es')/\h'=h
  | .mp _=>(∃m,o'=.mp m)/\h'=h
  | .eP n _ es=>∃bB es',o'=.eP n bB es'/\es.length<=es'.length/\(es.length=es'.length->h'=h)
  | .seed _=>∃n,o'=.seed n
  | .xf _=>(∃rs,o'=.xf rs)/\h'=h
def Keep(S:Store)(β:Hs)(S':Store)(β':Hs):Prop:=
 ∀k o,bC S k=some o->∃o',bC S' k=some o'/\nZ o (bC β k) o' (bC β' k)
structure Step(S:Store)(β:Hs)(σ:Nat->Nat)(w:World)(S':Store)(β':Hs)(σ':Nat->Nat)(w':World):Prop where
 size:w.heap.size<=w'.heap.size
 os:w'.os=w.os
 output:w'.output=w.output
 far:∀b,b<w.heap.size->¬Own S β b->w'.heap[b]? =w.heap[b]? /\σ' b=σ b
 near:∀b c t fz,w.heap[b]? =some (.cells c t fz)->σ b<=σ' b/\(c.size<σ b->σ' b=σ b)/\∃c',w'.heap[b]? =some (.cells c' t fz)/\c'.size=c.size/\∀i,i<σ b->c'[i]? =c[i]?
 own:∀b,Own S' β' b->Own S β b\/w.heap.size<=b
def eH(w:World)(σ:Nat->Nat)(w':World)(σ':Nat->Nat):Prop:=
 ∀b c t fz,w.heap[b]? =some (.cells c t fz)->σ b<=σ' b/\(c.size<σ b->σ' b=σ b)/\∃c',w'.heap[b]? =some (.cells c' t fz)/\c'.size=c.size/\∀i,i<σ b->c'[i]? =c[i]?
theorem eH.refl(w:World)(σ:Nat->Nat):eH w σ w σ:=fun _ c _ _ h=>⟨ax _,fun _=>rfl,c,h,rfl,fun _ _=>rfl⟩
theorem mF.near{w σ w' σ'}(h:mF w σ)(hn:eH w σ w' σ'):mF w' σ':=fun g p hm=>by
 obtain⟨c,t,fz,h1,h2,h3⟩:=h g p hm;obtain⟨n1,_,c',n2,n3,n4⟩:=hn g c t fz h1
 have e:c'=c:=by
  apply Array.ext_getElem?;intro i;by_cases hi:i<c.size
  ·exact n4 i gA
  ·rw[dE gA,dE gA]
 subst e;exact⟨c',t,fz,n2,h2,co h3 n1⟩
theorem eH.trans{w σ w' σ' w'' F6}(h:eH w σ w' σ')(k:eH w' σ' w'' F6):eH w σ w'' F6:=by
 intro b c t fz hb;obtain⟨h1,hs,c',h2,h3,h4⟩:=h b c t fz hb;obtain⟨k1,ks,c'',k2,k3,k4⟩:=k b c' t fz h2;exact⟨co h1 k1,fun e=>(ks (by rw[h3,hs e];exact e)).trans (hs e),c'',k2,k3.trans h3,fun i hi=>(k4 i (df hi h1)).trans (h4 i hi)⟩
theorem dO.mono{w σ w' σ'}(hn:eH w σ w' σ'){d:D}{v:Value}(h:dO w σ d v):dO w' σ' d v:=by
 induction h with
 |b x=>exact .b x
 |i k n=>exact .i k n
 |s l=>exact .s l
 |o v h=>exact .o v h
 |nil a cap=>exact .nil a cap
 |sl b off cap bB es vals c t fz hcap hlen hb hσ hc hv ih=>
  obtain⟨h1,_,c',h2,h3,h4⟩:=hn b c t fz hb;exact .sl b off cap bB es vals c' t fz hcap hlen h2 (co hσ h1) (fun j hj=>by rw[h4 _ gA];exact hc j hj) ih
 |xO n a cap=>exact .xO n a cap
 |ol n b off cap bB es vals c t hcap hlen hb hσ hfit hc hv hx ih=>
  obtain⟨h1,hs,c',h2,h3,h4⟩:=hn b c t _ hb;exact .ol n b off cap bB es vals c' t hcap hlen h2 (by rw[hs gA,h3];exact hσ) gA (fun j hj=>by rw[h4 _ gA];exact hc j hj) ih ⟨hx.1,by have:=hx.2;omega⟩
theorem adz.mono{w σ w' σ'}(hn:eH w σ w' σ'){cs:List D}{a:Addr}(h:adz w σ cs a):adz w' σ' cs a:=by
 obtain⟨c,t,fz,hs,hb,hl,hc⟩:=h;obtain⟨h1,_,c',h2,h3,h4⟩:=hn _ c t fz hb;refine⟨c',t,fz,hs,h2,co hl h1,fun j d hj=> ?_⟩;obtain⟨v,hv,hd⟩:=hc j d hj;have hjl:j<cs.length:=(ap.1 hj).1;exact⟨v,by rw[h4 _ gA];exact hv,hd.mono hn⟩
theorem nZ.refl(o:Obj)(h:Option Value):nZ o h o h:=by
 cases o with
 |dead=>exact .inl rfl
 |box cs=>exact .inr ⟨⟨cs,rfl⟩,rfl⟩
 |tok bB es=>exact .inr ⟨bB,es,rfl,ax _,fun _=>rfl⟩
 |fM bB es=>exact .inr ⟨⟨es,rfl⟩,rfl⟩
 |mp m=>exact .inr ⟨⟨m,rfl⟩,rfl⟩
 |eP n bB es=>exact .inr ⟨bB,es,rfl,ax _,fun _=>rfl⟩
 |seed n=>exact .inr ⟨n,rfl⟩
 |xf rs=>exact .inr ⟨⟨rs,rfl⟩,rfl⟩
theorem Keep.refl(S:Store)(β:Hs):Keep S β S β:=fun _ o h=>⟨o,h,.refl _ _⟩
theorem nZ.trans{o o' o'':Obj}{h h' h'':Option Value}(a:nZ o h o' h')(b:nZ o' h' o'' h''):nZ o h o'' h'':=by
 rcases b with rfl|b
 ·exact .inl rfl
 rcases a with rfl|a
 ·exact .inl b
 refine .inr ?_
 cases o with
 |dead=>subst a;exact b
 |box cs=>obtain⟨⟨cs',rfl⟩,rfl⟩:=a;exact b
 |tok bB es=>
  obtain⟨xP,es',rfl,h1,h2⟩:=a;obtain⟨adA,es'',rfl,k1,k2⟩:=b;exact⟨adA,es'',rfl,co h1 k1,fun e=>(k2 gA).trans (h2 gA)⟩
 |fM bB es=>obtain⟨⟨es',rfl⟩,rfl⟩:=a;exact b
 |mp m=>obtain⟨⟨m',rfl⟩,rfl⟩:=a;exact b
 |eP n bB es=>
  obtain⟨xP,es',rfl,h1,h2⟩:=a;obtain⟨adA,es'',rfl,k1,k2⟩:=b;exact⟨adA,es'',rfl,co h1 k1,fun e=>(k2 gA).trans (h2 gA)⟩
 |seed n=>obtain⟨n',rfl⟩:=a;exact b
 |xf rs=>obtain⟨⟨rs',rfl⟩,rfl⟩:=a;exact b
theorem Keep.trans{S β S' β' XI β''}(a:Keep S β S' β')(b:Keep S' β' XI β''):Keep S β XI β'':=by
 intro k o h;obtain⟨o',h',ho⟩:=a k o h;obtain⟨o'',h'',ho'⟩:=b k o' h';exact⟨o'',h'',ho.trans ho'⟩
theorem XJ{o:Obj}{h h':Option Value}{o':Obj}(k:nZ o h o' h'){cs':List C}(e:o'=.box cs'):(∃cs,o=.box cs)/\h'=h:=by
 subst e;rcases k with k|k
 ·cases k
 ·cases o with
  |dead=>cases k
  |box cs=>exact⟨⟨cs,rfl⟩,k.2⟩
  |tok=>obtain⟨_,_,k,_⟩:=k;cases k
  |fM=>obtain⟨⟨_,k⟩,_⟩:=k;cases k
  |mp=>obtain⟨⟨_,k⟩,_⟩:=k;cases k
  |eP=>obtain⟨_,_,k,_⟩:=k;cases k
  |seed=>obtain⟨_,k⟩:=k;cases k
  |xf=>obtain⟨⟨_,k⟩,_⟩:=k;cases k
theorem ajI{o:Obj}{h h':Option Value}{o':Obj}(k:nZ o h o' h'){xP:Nat}{es':List (List D)}(e:o'=.tok xP es'):
 ∃bB es,o=.tok bB es/\es.length<=es'.length/\(es.length=es'.length->h'=h):=by
 subst e;rcases k with k|k
 ·cases k
 ·cases o with
  |dead=>cases k
  |box=>obtain⟨⟨_,k⟩,_⟩:=k;cases k
  |tok bB es=>obtain⟨_,_,k,k1,k2⟩:=k;cases k;exact⟨bB,es,rfl,k1,k2⟩
  |fM=>obtain⟨⟨_,k⟩,_⟩:=k;cases k
  |mp=>obtain⟨⟨_,k⟩,_⟩:=k;cases k
  |eP=>obtain⟨_,_,k,_⟩:=k;cases k
  |seed=>obtain⟨_,k⟩:=k;cases k
  |xf=>obtain⟨⟨_,k⟩,_⟩:=k;cases k
theorem agw{o:Obj}{h h':Option Value}{o':Obj}(k:nZ o h o' h'){n xP:Nat}{es':List (List D)}(e:o'=.eP n xP es'):
 ∃bB es,o=.eP n bB es/\es.length<=es'.length/\(es.length=es'.length->h'=h):=by
 subst e;rcases k with k|k
 ·cases k
 ·cases o with
  |dead=>cases k
  |box=>obtain⟨⟨_,k⟩,_⟩:=k;cases k
  |tok=>obtain⟨_,_,k,_⟩:=k;cases k
  |fM=>obtain⟨⟨_,k⟩,_⟩:=k;cases k
  |mp=>obtain⟨⟨_,k⟩,_⟩:=k;cases k
  |eP n bB es=>obtain⟨_,_,k,k1,k2⟩:=k;cases k;exact⟨bB,es,rfl,k1,k2⟩
  |seed=>obtain⟨_,k⟩:=k;cases k
  |xf=>obtain⟨⟨_,k⟩,_⟩:=k;cases k
theorem adB{o:Obj}{h h':Option Value}{o':Obj}(k:nZ o h o' h'){xP:Nat}{es':List (List D)}(e:wC o' xP es'):
 ∃bB es,wC o bB es/\es.length<=es'.length/\(es.length=es'.length->h'=h):=by
 rcases e with e|⟨n,e⟩
 ·obtain⟨a,b,c,d⟩:=ajI k e;exact⟨a,b,.inl c,d⟩
 ·obtain⟨a,b,c,d⟩:=agw k e;exact⟨a,b,.inr ⟨n,c⟩,d⟩
theorem acu{o:Obj}{h h':Option Value}{o':Obj}(k:nZ o h o' h'){rs':List (List (List D))}(e:o'=.xf rs'):(∃rs,o=.xf rs)/\h'=h:=by
 subst e;rcases k with k|k
 ·cases k
 ·cases o with
  |dead=>cases k
  |box=>obtain⟨⟨_,k⟩,_⟩:=k;cases k
  |tok=>obtain⟨_,_,k,_⟩:=k;cases k
  |fM=>obtain⟨⟨_,k⟩,_⟩:=k;cases k
  |mp=>obtain⟨⟨_,k⟩,_⟩:=k;cases k
  |eP=>obtain⟨_,_,k,_⟩:=k;cases k
  |seed=>obtain⟨_,k⟩:=k;cases k
  |xf rs=>exact⟨⟨rs,rfl⟩,k.2⟩
theorem U3{o:Obj}{h h':Option Value}{o':Obj}(k:nZ o h o' h'){xP:Nat}{es':List (List D)}(e:o'=.fM xP es'):(∃es,o=.fM xP es)/\h'=h:=by
 subst e;rcases k with k|k
 ·cases k
 ·cases o with
  |dead=>cases k
  |box=>obtain⟨⟨_,k⟩,_⟩:=k;cases k
  |tok=>obtain⟨_,_,k,_⟩:=k;cases k
  |fM bB es=>obtain⟨⟨_,k⟩,e⟩:=k;cases k;exact⟨⟨es,rfl⟩,e⟩
  |mp=>obtain⟨⟨_,k⟩,_⟩:=k;cases k
  |eP=>obtain⟨_,_,k,_⟩:=k;cases k
  |seed=>obtain⟨_,k⟩:=k;cases k
  |xf=>obtain⟨⟨_,k⟩,_⟩:=k;cases k
theorem an1{o:Obj}{h h':Option Value}{o':Obj}(k:nZ o h o' h'){m':List (List UInt8)}(e:o'=.mp m'):(∃m,o=.mp m)/\h'=h:=by
 subst e;rcases k with k|k
 ·cases k
 ·cases o with
  |dead=>cases k
  |box=>obtain⟨⟨_,k⟩,_⟩:=k;cases k
  |tok=>obtain⟨_,_,k,_⟩:=k;cases k
  |fM=>obtain⟨⟨_,k⟩,_⟩:=k;cases k
  |mp m=>exact⟨⟨m,rfl⟩,k.2⟩
  |eP=>obtain⟨_,_,k,_⟩:=k;cases k
  |seed=>obtain⟨_,k⟩:=k;cases k
  |xf=>obtain⟨⟨_,k⟩,_⟩:=k;cases k
theorem jc.mono{w σ w' σ'}{S:Store}{β:Hs}{S':Store}{β':Hs}(hn:eH w σ w' σ')(hk:Keep S β S' β'){c:C}{v:Value}(h:jc w σ S β c v):jc w' σ' S' β' c v:=by
 cases c with
 |d x=>exact dO.mono hn h
 |any=>exact True.intro
 |bH es=>exact⟨dO.mono hn h.1,h.2⟩
 |bJ k es=>
  obtain⟨h1,o,ho,h2⟩:=h;obtain⟨o',ho',hko⟩:=hk k o ho;refine⟨h1.mono hn,o',ho',fun bB es' e=> ?_⟩;obtain⟨aut,es0,e0,l0,q0⟩:=adB hko e;obtain⟨l1,q1⟩:=h2 aut es0 e0;exact⟨co l1 l0,fun e'=>(q0 gA).trans (q1 gA)⟩
 |ptr k off=>
  obtain⟨o,ho,h2⟩:=h;obtain⟨o',ho',hko⟩:=hk k o ho;refine⟨o',ho',fun cs e=> ?_⟩;obtain⟨⟨cs0,e0⟩,q⟩:=XJ hko e;obtain⟨b,hb,hv⟩:=h2 cs0 e0;exact⟨b,q.trans hb,hv⟩
 |om cs=>obtain⟨a,ha,hp⟩:=h;exact⟨a,ha,hp.mono hn⟩
 |nM k i off=>
  obtain⟨o,ho,h2⟩:=h;obtain⟨o',ho',hko⟩:=hk k o ho;refine⟨o',ho',fun bB es e=> ?_⟩;obtain⟨⟨es0,e0⟩,q⟩:=U3 hko e;obtain⟨b,n,cap,hb,hv⟩:=h2 bB es0 e0;exact⟨b,n,cap,q.trans hb,hv⟩
 |jO k=>
  obtain⟨o,ho,h2⟩:=h;obtain⟨o',ho',hko⟩:=hk k o ho;refine⟨o',ho',fun bB es e=> ?_⟩;obtain⟨⟨es0,e0⟩,q⟩:=U3 hko e;exact q.trans (h2 bB es0 e0)
 |fn f caps=>
  obtain⟨vs,hv,hs,h2⟩:=h;refine⟨vs,hv,hs,fun j k off e=> ?_⟩;obtain⟨u,hu,h1c,o,ho,h3⟩:=h2 j k off e;obtain⟨o',ho',hko⟩:=hk k o ho;refine⟨u,hu,h1c,o',ho',fun cs e=> ?_⟩;obtain⟨⟨cs0,e0⟩,q⟩:=XJ hko e;obtain⟨b,hb,hv⟩:=h3 cs0 e0;exact⟨b,q.trans hb,hv⟩
 |mp k=>
  obtain⟨o,ho,h2⟩:=h;obtain⟨o',ho',hko⟩:=hk k o ho;refine⟨o',ho',fun m e=> ?_⟩;obtain⟨⟨m0,e0⟩,q⟩:=an1 hko e;exact q.trans (h2 m0 e0)
 |mE n es=>exact⟨dO.mono hn h.1,h.2⟩
 |xp k r p=>
  obtain⟨o,ho,h2⟩:=h;obtain⟨o',ho',hko⟩:=hk k o ho;refine⟨o',ho',fun rs e=> ?_⟩;obtain⟨⟨rs0,e0⟩,q⟩:=acu hko e;obtain⟨hh,a1,a2⟩:=h2 rs0 e0;exact⟨hh,q.trans a1,a2⟩
 |xq k r p z i off=>
  obtain⟨o,ho,h2⟩:=h;obtain⟨o',ho',hko⟩:=hk k o ho;refine⟨o',ho',fun rs e=> ?_⟩;obtain⟨⟨rs0,e0⟩,q⟩:=acu hko e;obtain⟨hh,b,a,n,cap,a1,a2⟩:=h2 rs0 e0;exact⟨hh,b,a,n,cap,q.trans a1,a2⟩
theorem gN.mono{w σ w' σ'}{S:Store}{β:Hs}{S':Store}{β':Hs}(hn:eH w σ w' σ')(hk:Keep S β S' β'){cs:List C}{vs:List Value}(h:gN w σ S β cs vs):gN w' σ' S' β' cs vs:=
 ⟨h.1,fun j x hx=>let⟨v,hv,hc,ho⟩:=h.2 j x hx;⟨v,hv,hc.mono hn hk,ho⟩⟩
theorem dR.mono{w σ w' σ'}{S:Store}{β:Hs}{S':Store}{β':Hs}(hn:eH w σ w' σ')(hk:Keep S β S' β'){x:V}{v:Value}(h:dR w σ S β x v):dR w' σ' S' β' x v:=by
 cases x with
 |c x=>exact⟨h.1.mono hn hk,h.2⟩
 |agg cs=>obtain⟨a,ha,hc⟩:=h;exact⟨a,ha,hc.mono hn hk⟩
 |eu xs=>
  obtain⟨a,ha,hl,h2⟩:=h;refine⟨a,ha,hl,fun j y hy=> ?_⟩;obtain⟨u,hu,h3⟩:=h2 j y hy;refine⟨u,hu,?_⟩;obtain⟨t,cs⟩:=y
  cases t with
  |true=>obtain⟨a',ha',hc⟩:=h3;exact⟨a',ha',hc.mono hn hk⟩
  |false=>obtain⟨x,hx,hc,ho⟩:=h3;exact⟨x,hx,hc.mono hn hk,ho⟩
 |any=>exact True.intro
theorem Keep.drop{S β S' β'}(h:Keep S β S' β')(n:Nat):Keep (S.drop n) (β.drop n) (S'.drop n) (β'.drop n):=by
 intro k o ho;rw[fF] at ho;obtain⟨o',ho',hk⟩:=h _ o ho;exact⟨o',by rw[fF];exact ho',by rw[fF,fF];exact hk⟩
theorem vG.frame{w w':World}{es:List (List D)}{T:Value}(h:vG w es T)(hf:∀b,qG T b->w'.heap[b]? =w.heap[b]?):vG w' es T:=by
 induction h with
 |nil a cap T h hk=>exact .nil a cap T h hk
 |mk b off cap z es T c t vals kids hh hne hcap hlen hb hfit hc hs hk hx hself hap Es ih=>
  have hpos:0<es.length:=fm.2 hne;refine .mk b off cap z es T c t vals kids hh hne hcap hlen ?_ hfit hc hs hk (fun i o es' e=>ih i o es' e fun x hx=>hf x (.kid (hk i o es' e).1 hx)) hself hap Es;have hw:=hf b (.here hh hpos);exact hw.trans hb
theorem iI.mono{w σ w' σ'}{S:Store}{β:Hs}{S':Store}{β':Hs}(hn:eH w σ w' σ')(hk:Keep S β S' β'){o:Obj}{h:Value}
 (hf:∀b,owns o h b->w'.heap[b]? =w.heap[b]? /\σ' b=σ b)(hr:iI w σ S β o h):iI w' σ' S' β' o h:=by
 cases o with
 |dead=>exact True.intro
 |box cs=>
  obtain⟨b,c,t,rfl,hb,hs,hc⟩:=hr;obtain⟨f1,f2⟩:=hf b rfl;exact⟨b,c,t,rfl,f1.trans hb,f2.trans hs,hc.mono hn hk⟩
 |tok bB es=>
  obtain⟨h1,h2,a,cap,rfl,h3,h4⟩:=hr;refine⟨h1.mono hn,h2,a,cap,rfl,h3,?_⟩;by_cases hcap:cap=es.length
  ·exact .inl hcap
  rcases h4 with h4|⟨b,off,c,t,rfl,hb,hs,hl⟩
  ·exact .inl h4
  ·obtain⟨f1,f2⟩:=hf b (by simp[owns,blk,hcap]);exact .inr ⟨b,off,c,t,rfl,f1.trans hb,f2.trans hs,hl⟩
 |eP n bB es=>
  obtain⟨h1,h2,a,cap,rfl,h3,h4⟩:=hr;refine⟨h1.mono hn,h2,a,cap,rfl,h3,?_⟩;rcases h4 with⟨h4,h5⟩|⟨hcap,b,off,c,t,rfl,hb,hs,hl⟩
  ·exact .inl ⟨h4,h5.mono hn⟩
  ·obtain⟨f1,f2⟩:=hf b (by simp[owns,blk,hcap]);exact .inr ⟨hcap,b,off,c,t,rfl,f1.trans hb,f2.trans hs,hl⟩
 |seed n=>exact trivial
 |xf rs=>
  obtain⟨h1,h2,h3,h4⟩:=hr;refine⟨fun r es e=> ?_,h2,fun b hb=>(hf b hb).2.trans (h3 b hb),h4⟩;obtain⟨T,a1,a2⟩:=h1 r es e;exact⟨T,a1,a2.frame fun b hb=>(hf b ⟨r,T,a1,hb⟩).1⟩
 |fM bB es=>
  obtain⟨hl,a,cap,rfl,hcap,h4⟩:=hr;refine⟨hl,a,cap,rfl,hcap,?_⟩;by_cases h0:cap=0
  ·exact .inl h0
  ·rcases h4 with h4|⟨b,c,t,rfl,hb,hs,hz,hc⟩
   ·exact .inl h4
   ·obtain⟨f1,f2⟩:=hf b (by simp[owns,blk,h0]);exact .inr ⟨b,c,t,rfl,f1.trans hb,f2.trans hs,hz,fun j x hx=>let⟨v,hv,hd⟩:=hc j x hx;⟨v,hv,hd.mono hn⟩⟩
 |mp m=>
  obtain⟨b,es,cl,rfl,hb,hs,he⟩:=hr;obtain⟨f1,f2⟩:=hf b rfl;exact⟨b,es,cl,rfl,f1.trans hb,f2.trans hs,he⟩
theorem LJ{w:World}{σ:Nat->Nat}{S:Store}{β:Hs}{bB i:Nat}{es:List (List D)}{h:Value}(hr:iI w σ S β (.fM bB es) h)(hi:i<es.length):
 ∃b c t cap,h=.slice (some ⟨b,0,none⟩) es.length cap/\es.length<=cap/\cap≠0/\w.heap[b]? =some (.cells c t (0,0))/\σ b=0/\(∀e∈es,e.length=bB)/\cap*bB<=c.size/\es.length*bB<=c.size/\
  ∀(j:Nat)(x:D),es.flatten[j]? =some x->∃v:Value,c[j]? =some v/\dO w σ x v:=by
 obtain⟨hl,a,cap,rfl,hcap,h4⟩:=hr;rcases h4 with h4|⟨b,c,t,rfl,hb,hs,hz,hc⟩
 ·omega
 ·exact⟨b,c,t,cap,rfl,hcap,gA,hb,hs,hl,hz,co (cx _ hcap) hz,hc⟩
structure Grow(w:World)(σ:Nat->Nat)(w':World)(σ':Nat->Nat):Prop where
 size:w.heap.size<=w'.heap.size
 os:w'.os=w.os
 output:w'.output=w.output
 old:∀b,b<w.heap.size->w'.heap[b]? =w.heap[b]? /\σ' b=σ b
 live:∀b,b<w'.heap.size\/σ' b=0
theorem Grow.refl{w:World}{σ:Nat->Nat}(hl:∀b,b<w.heap.size\/σ b=0):Grow w σ w σ:=⟨ax _,rfl,rfl,fun _ _=>⟨rfl,rfl⟩,hl⟩
theorem lt_of_some{w:World}{b:Nat}{o:Go.Obj}(h:w.heap[b]? =some o):b<w.heap.size:=(bj.1 h).1
theorem Grow.near{w σ w' σ'}(h:Grow w σ w' σ'):eH w σ w' σ':=by
 intro b c t fz hb;obtain⟨h1,h2⟩:=h.old b (lt_of_some hb);exact⟨Nat.le_of_eq h2.symm,fun _=>h2,c,h1.trans hb,rfl,fun _ _=>rfl⟩
theorem Grow.trans{w σ w' σ' w'' F6}(h:Grow w σ w' σ')(k:Grow w' σ' w'' F6):Grow w σ w'' F6:=
 ⟨co h.size k.size,k.os.trans h.os,k.output.trans h.output,fun b hb=>by
   obtain⟨h1,h2⟩:=h.old b hb;obtain⟨k1,k2⟩:=k.old b (df hb h.size)
   exact⟨k1.trans h1,k2.trans h2⟩,k.live⟩
theorem vG.an2{w:World}{es:List (List D)}{T:Value}(h:vG w es T):∀b,qG T b->b<w.heap.size:=by
 induction h with
 |nil a cap T h hk=>
  intro b hb
  cases hb with
  |here h1 h2=>rw[h] at h1;cases h1;omega
  |kid h1 h2=>rw[hk] at h1;cases h1
 |mk b0 off cap z es T c t vals kids hh hne hcap hlen hb0 hfit hc hs hk hx hself hap Es ih=>
  intro b hb
  cases hb with
  |here h1 h2=>rw[hh] at h1;cases h1;exact lt_of_some hb0
  | @kid T u i o b h1 h2=>
    obtain⟨es',e⟩:=Es i o u h1;have:=(hk i o es' e).1;rw[h1] at this;cases this;exact ih i o es' e b h2
theorem Ka{w σ S β}{o:Obj}{h:Value}(hr:iI w σ S β o h){b:Nat}(hb:owns o h b):b<w.heap.size:=by
 cases o with
 |dead=>cases hb
 |box cs=>obtain⟨b',c,t,rfl,hb',_⟩:=hr;cases hb;exact lt_of_some hb'
 |tok bB es=>
  replace hb:blk (.tok bB es) h=some b:=hb
  obtain⟨h1,h2,a,cap,rfl,h3,h4⟩:=hr
  cases a with
  |none=>cases hb
  |some a=>
   simp only[blk] at hb;split at hb
   ·cases hb
   ·rename_i hne;rcases h4 with h4|⟨b',off,c,t,e,hb',_⟩
    ·exact absurd h4 hne
    ·cases e;cases hb;exact lt_of_some hb'
 |fM bB es=>
  replace hb:blk (.fM bB es) h=some b:=hb
  obtain⟨_,a,cap,rfl,_,h4⟩:=hr
  cases a with
  |none=>cases hb
  |some a=>
   simp only[blk] at hb;split at hb
   ·cases hb
   ·rename_i hne;rcases h4 with h4|⟨b',c,t,e,hb',_⟩
    ·exact absurd h4 hne
    ·cases e;cases hb;exact lt_of_some hb'
 |mp m=>obtain⟨b',es,cl,rfl,hb',_⟩:=hr;cases hb;exact lt_of_some hb'
 |eP n bB es=>
  replace hb:blk (.eP n bB es) h=some b:=hb
  obtain⟨h1,h2,a,cap,rfl,h3,h4⟩:=hr
  cases a with
  |none=>cases hb
  |some a=>
   simp only[blk] at hb;split at hb
   ·cases hb
   ·rename_i hne;rcases h4 with⟨h4,_⟩|⟨_,b',off,c,t,e,hb',_⟩
    ·exact absurd h4 hne
    ·cases e;cases hb;exact lt_of_some hb'
 |seed n=>cases hb
 |xf rs=>
  obtain⟨r,T,h1,h2⟩:=(show NM h b from hb);obtain⟨q1,q2,_⟩:=hr;have hlt:=q2 r T h1;obtain⟨T',e1,e2⟩:=q1 r rs[r] (am hlt);rw[h1] at e1;cases e1;exact e2.an2 b h2
theorem fC.Jp{w σ S β}(hs:fC w σ S β){b:Nat}(h:Own S β b):b<w.heap.size:=by
 obtain⟨k,o,hv,ho,hh,hb⟩:=h;obtain⟨hv',hh',hr⟩:=hs.obj k o ho;rw[hh] at hh';cases hh';exact Ka hr hb
theorem fC.grow{w σ w' σ'}{S:Store}{β:Hs}(hg:Grow w σ w' σ')(hs:fC w σ S β):fC w' σ' S β:=by
 refine⟨fun k o ho=> ?_,hs.apart,hs.shape,hg.live,hs.vH.near hg.near⟩;obtain⟨h,hh,hr⟩:=hs.obj k o ho;exact⟨h,hh,hr.mono hg.near (Keep.refl _ _) fun b hb=>hg.old b (Ka hr hb)⟩
theorem Step.oQ{w σ w' σ'}{S:Store}{β:Hs}(hg:Grow w σ w' σ'):Step S β σ w S β σ' w':=
 ⟨hg.size,hg.os,hg.output,fun b hb _=>hg.old b hb,hg.near,fun _ h=>.inl h⟩
theorem Step.trans{S β σ w S' β' σ' w' XI β'' F6 w''}(h:Step S β σ w S' β' σ' w')(k:Step S' β' σ' w' XI β'' F6 w''):Step S β σ w XI β'' F6 w'':=
 ⟨co h.size k.size,k.os.trans h.os,k.output.trans h.output,
  fun b hb ho=>by
   obtain⟨h1,h2⟩:=h.far b hb ho;obtain⟨k1,k2⟩:=k.far b (df hb h.size) (fun o=>(h.own b o).elim ho (fun x=>absurd hb gA))
   exact⟨k1.trans h1,k2.trans h2⟩,
  eH.trans h.near k.near,
  fun b o=>(k.own b o).elim (fun o=>h.own b o) (fun x=>.inr (co h.size x))⟩
def look:List (Nat×V)->Nat->V
 |[],_=>.any
 |(a,v)::r,t=>if a=t then v else look r t
def Jq:Value->C
 | .bool b=>.d (.b b)
 | .int k n=>.d (.i k n)
 | .string s=>.d (.s s.data.toList)
 | .slice none 0 0=>.bH []
 | .pointer none=>.d (.o (.pointer none))
 | .nilIface=>.d (.o .nilIface)
 | .nilFunc=>.d (.o .nilFunc)
 | .map none=>.d (.o (.map none))
 |_=>.any
def F7:Value->V
 | .agg a=>if a.toList.all Value.oneCell' then .agg (a.toList.map Jq) else .any
 | .tuple _=>.any
 |v=>.c (Jq v)
def ev(tm:List (Nat×V)):Operand->V
 | .tmp t=>look tm t
 | .const v=>F7 v
 | .global _=>.any
 | .func f=>.c (.fn f [])
def Kc(w:World)(σ:Nat->Nat)(S:Store)(β:Hs)(tm:List (Nat×V))(a:Act):Prop:=∀t,dR w σ S β (look tm t) (a.tmps.getD t undef)
theorem Fb(w:World)(σ:Nat->Nat)(S:Store)(β:Hs)(v:Value):jc w σ S β (Jq v) v:=by
 unfold Jq;split
 ·exact .b _
 ·exact .i _ _
 ·rename_i s;exact .s s.data.toList
 ·exact⟨.nil _ _,_,_,rfl⟩
 ·exact .o _ rfl
 ·exact .o _ rfl
 ·exact .o _ rfl
 ·exact .o _ rfl
 ·exact True.intro
theorem adC(w:World)(σ:Nat->Nat)(S:Store)(β:Hs)(v:Value):dR w σ S β (F7 v) v:=by
 cases v with
 |agg a=>
  simp only[F7];split
  ·rename_i h;refine⟨a,rfl,gL,fun j x hx=> ?_⟩;rw[bE] at hx
   cases hv:a.toList[j]? with
   |none=>rw[hv] at hx;cases hx
   |some v=>
    rw[hv] at hx;cases hx;exact⟨v,rfl,Fb _ _ _ _ _,az.1 h v (de hv)⟩
  ·exact True.intro
 |tuple vs=>exact True.intro
 |_=>exact⟨Fb _ _ _ _ _,rfl⟩
theorem lK{w σ S β tm}{a:Act}(h:Kc w σ S β tm a)(x:Operand):dR w σ S β (ev tm x) (a.eval x):=by
 cases x with
 |tmp t=>exact h t
 |const v=>exact adC _ _ _ _ v
 |global g=>exact True.intro
 |func f=>exact⟨⟨#[],rfl,rfl,fun j k off e=>by simp at e⟩,rfl⟩
theorem Kc.mono{w σ w' σ'}{S:Store}{β:Hs}{S':Store}{β':Hs}{tm:List (Nat×V)}{a:Act}(hn:eH w σ w' σ')(hk:Keep S β S' β')(h:Kc w σ S β tm a):Kc w' σ' S' β' tm a:=
 fun t=>(h t).mono hn hk
abbrev R:=Prop×V
def no:R:=(False,.any)
def QE:C->Option D
 | .d x=>some x
 | .bJ _ es=>some (.sl es)
 | .bH es=>some (.sl es)
 | .mE n es=>some (.ol n es)
 |_=>none
def atP:List (List D)->List (Nat×Nat)->Option (List (List D))
 |es,[]=>some es
 |es,(i,o)::p=>match cellAt es i o with
  |some (.sl es')=>atP es' p
  |_=>none
def TP:List (List D)->List (Nat×Nat)->List (List D)->List (List D)
 |_,[],new=>new
 |es,(i,o)::p,new=>match cellAt es i o with
  |some (.sl es')=>es.set i ((es.getD i []).set o (.sl (TP es' p new)))
  |_=>es
def atR(rs:List (List (List D)))(r:Nat)(p:List (Nat×Nat)):Option (List (List D)):=(rs[r]?).bind fun es=>atP es p
def LK(rs:List (List (List D)))(r:Nat)(p:List (Nat×Nat))(new:List (List D)):List (List (List D)):=rs.set r (TP (rs.getD r []) p new)
def tH(S:Store):Option Nat:=
 match bC S (0,0) with
 |some (.seed n)=>some n
 |_=>none
def XK:D->Bool
 | .b _=>true
 | .i _ _=>true
 | .s _=>true
 |_=>false
def zH:V->Option (List C)
 | .c x=>some [x]
 | .agg cs=>some cs
 |_=>none
def Bf(P:Program)(t:TypeId):Bool:=
 match P.underlying t with
 |some (.struct _)|some (.array _ _)=>true
 |_=>false
def NN(c a b:V):R:=
 match c with
 | .c (.d (.b x))=>(True,if x then a else b)
 |_=>no
def headD:List D->R
 |x::_=>(True,.c (.d x))
 |[]=>no
def adD:List C->R
 |x::_=>(True,.c x)
 |[]=>no
def NP(P:Program)(t:TypeId)(cs:List D):R:=
 if Bf P t then(P.cellsOf t<=cs.length,.agg ((cs.take (P.cellsOf t)).map .d)) else headD cs
def Fe(P:Program)(S:Store)(t:TypeId)(a:V):R:=
 match P.underlying t with
 |none=>no
 |some _=>
  match a with
  | .c (.om cs)=>NP P t cs
  | .c (.ptr k off)=>
    match bC S k with
    |some (.box cs)=>
     if Bf P t then(off+P.cellsOf t<=cs.length,.agg (((cs.drop off).take (P.cellsOf t)).map (C.up k.1))) else adD ((cs.drop off).map (C.up k.1))
    |_=>no
  | .c (.nM k i off)=>
    match bC S k with
    |some (.fM _ es)=>((NP P t ((es.getD i []).drop off)).1/\i<es.length,(NP P t ((es.getD i []).drop off)).2)
    |_=>no
  | .c (.xq k r p z i off)=>
    match bC S k with
    |some (.xf rs)=>
     match atR rs r p with
     |some es=>if Bf P t then no else
      match cellAt es i off with
      |some (.sl _)=>((es.getD i []).length=z,.c (.xp k r (p++[(i,off)])))
      |some d=>if XK d=true then((es.getD i []).length=z,.c (.d d)) else no
      |none=>no
     |none=>no
    |_=>no
  |_=>no
def wD(P:Program)(S:Store)(s:TypeId)(x:V)(f:Nat):R:=
 match P.underlying s with
 |some (.struct fs)=>
  match fs[f]? with
  |some fd=>
   if P.cellsOf fd.type=0 then no else
   match x with
   | .c (.om cs)=>(fd.offset<=cs.length,.c (.om (cs.drop fd.offset)))
   | .c (.ptr k off)=>match bC S k with
     |some (.box _)=>(True,.c (.ptr k (off+fd.offset)))
     |_=>no
   | .c (.nM k i off)=>match bC S k with
     |some (.fM _ _)=>(True,.c (.nM k i (off+fd.offset)))
     |_=>no
   | .c (.xq k r p z i off)=>match bC S k with
     |some (.xf _)=>(True,.c (.xq k r p z i (off+fd.offset)))
     |_=>no
   |_=>no
  |none=>no
 |_=>no
def Ia(P:Program)(t:TypeId)(cs:List C)(off:Nat):R:=
 match P.underlying t with
 |none=>no
 |some _=>if Bf P t then(off+P.cellsOf t<=cs.length,.agg ((cs.drop off).take (P.cellsOf t))) else adD (cs.drop off)
def Jr(P:Program)(t:TypeId)(x:V)(f:Nat):R:=
 match P.underlying t,x with
 |some (.struct fs),.agg cs=>
  match fs[f]? with
  |some fd=>Ia P fd.type cs fd.offset
  |none=>no
 |_,_=>no
def DF:C->Option (List (List D))
 | .d (.sl es)=>some es
 | .d (.ol _ es)=>some es
 | .bJ _ es=>some es
 | .bH es=>some es
 | .mE _ es=>some es
 |_=>none
def wE(P:Program)(S:Store)(t:TypeId)(x i:V):R:=
 match P.underlying t,x,i with
 |some (.slice e),.c (.jO k),.c (.d (.i _ n))=>
  match bC S k with
  |some (.fM bB es)=>(0<=n/\n.toNat<es.length/\bB=P.cellsOf e/\(P.info? e).isSome=true,.c (.nM k n.toNat 0))
  |_=>no
 |some (.array len e),.c (.ptr k off),.c (.d (.i _ n))=>
  match bC S k with
  |some (.box _)=>(0<=n/\n.toNat<len/\(P.info? e).isSome=true,.c (.ptr k (off+n.toNat*P.cellsOf e)))
  |_=>no
 |some (.slice e),.c (.xp k r p),.c (.d (.i _ n))=>
  match bC S k with
  |some (.xf rs)=>
   match atR rs r p with
   |some es=>(0<=n/\n.toNat<es.length/\(P.info? e).isSome=true,.c (.xq k r p (P.cellsOf e) n.toNat 0))
   |none=>no
  |_=>no
 |some (.slice e),.c x,.c (.d (.i _ n))=>
  match DF x with
  |some es=>(0<=n/\n.toNat<es.length/\(es.getD n.toNat []).length=P.cellsOf e/\(P.info? e).isSome=true,.c (.om (es.getD n.toNat [])))
  |none=>no
 |_,_,_=>no
def Js(P:Program)(t:TypeId)(x i:V):R:=
 match P.underlying t,x,i with
 |some .string,.c (.d (.s l)),.c (.d (.i _ n))=>(0<=n/\n.toNat<l.length,.c (.d (.i .u8 ((l.getD n.toNat 0).toNat))))
 |some (.array len e),.agg cs,.c (.d (.i _ n))=>((Ia P e cs (n.toNat*P.cellsOf e)).1/\0<=n/\n.toNat<len,(Ia P e cs (n.toNat*P.cellsOf e)).2)
 |_,_,_=>no
def IX(k:IntKind)(a b:Int):Int:=k.wrap (BitVec.ofInt k.bits a &&& BitVec.ofInt k.bits b).toNat
def orK(k:IntKind)(a b:Int):Int:=k.wrap (BitVec.ofInt k.bits a ||| BitVec.ofInt k.bits b).toNat
def XL(k:IntKind)(a b:Int):Int:=k.wrap (BitVec.ofInt k.bits a ^^^ BitVec.ofInt k.bits b).toNat
def XM(k:IntKind)(a b:Int):Int:=k.wrap (a*2^min b.toNat k.bits)
def Pw(k:IntKind)(a b:Int):Int:=a.fdiv (2^min b.toNat k.bits)
def XO(op:BinOp)(k:IntKind)(a b:Int):R:=
 match op with
 | .shl=>(0<=b,.c (.d (.i k (XM k a b))))
 | .shr=>(0<=b,.c (.d (.i k (Pw k a b))))
 |_=>no
def adE(op:BinOp)(k:IntKind)(a b:Int):R:=
 match op with
 | .and=>(True,.c (.d (.i k (IX k a b))))
 | .or=>(True,.c (.d (.i k (orK k a b))))
 | .xor=>(True,.c (.d (.i k (XL k a b))))
 | .shl=>XO .shl k a b
 | .shr=>XO .shr k a b
 | .add=>(True,.c (.d (.i k (k.wrap (a+b)))))
 | .sub=>(True,.c (.d (.i k (k.wrap (a-b)))))
 | .mul=>(True,.c (.d (.i k (k.wrap (a*b)))))
 | .quo=>(b≠0,.c (.d (.i k (k.wrap (a.tdiv b)))))
 | .rem=>(b≠0,.c (.d (.i k (a.tmod b))))
 | .eql=>(True,.c (.d (.b (decide (a=b)))))
 | .neq=>(True,.c (.d (.b (!decide (a=b)))))
 | .lss=>(True,.c (.d (.b (decide (a<b)))))
 | .leq=>(True,.c (.d (.b (decide (a<=b)))))
 | .gtr=>(True,.c (.d (.b (decide (b<a)))))
 | .geq=>(True,.c (.d (.b (decide (b<=a)))))
 |_=>no
def adF(op:BinOp)(a b:List UInt8):R:=
 match op with
 | .add=>(a.length+b.length<=1099511627776,.c (.d (.s (a++b))))
 | .eql=>(True,.c (.d (.b (decide (a=b)))))
 | .neq=>(True,.c (.d (.b (!decide (a=b)))))
 | .lss=>(True,.c (.d (.b (Op.bytesLess a b))))
 |_=>no
def intTy(P:Program)(t:TypeId):Bool:=
 match P.underlying t with
 |some (.int _)=>true
 |_=>false
def pairTy(P:Program)(t:TypeId):Bool:=
 !P.eqGuardType P.depth t&& !P.stoodInHeld t&&match P.underlying t with
 |some (.struct fs)=>match fs.toList with
  |[f,g]=>f.name != "_" &&g.name != "_" &&f.offset==0&&g.offset==1&&intTy P f.type&&intTy P g.type
  |_=>false
 |_=>false
def adG(P:Program)(op:BinOp)(t:TypeId)(xs ys:List C):R:=
 match xs,ys with
 |[.d (.i k a),.d (.i l b)],[.d (.i k' a'),.d (.i l' b')]=>match op with
  | .eql=>(pairTy P t=true/\k=k'/\l=l',.c (.d (.b (decide (a=a'/\b=b')))))
  | .neq=>(pairTy P t=true/\k=k'/\l=l',.c (.d (.b (!decide (a=a'/\b=b')))))
  |_=>no
 |_,_=>no
def TQ(P:Program)(op:BinOp)(t:TypeId)(x y:V):R:=
 match x,y with
 | .agg xs,.agg ys=>adG P op t xs ys
 | .c (.d (.i k a)),.c (.d (.i k' b))=>if k=k' then adE op k a b else XO op k a b
 | .c (.d (.s a)),.c (.d (.s b))=>adF op a b
 | .c (.d (.b a)),.c (.d (.b b))=>
   match P.underlying t,op with
   |some .bool,.eql=>(True,.c (.d (.b (decide (a=b)))))
   |some .bool,.neq=>(True,.c (.d (.b (!decide (a=b)))))
   |_,_=>no
 |_,_=>no
def unV(op:UnOp)(x:V):R:=
 match op,x with
 | .not,.c (.d (.b x))=>(True,.c (.d (.b (!x))))
 | .neg,.c (.d (.i k n))=>(True,.c (.d (.i k (k.wrap (0-n)))))
 |_,_=>no
def LM:List D->Int
 |[.i .u8 n]=>n
 |_=>0
def Xn(r:List D):UInt8:=UInt8.ofNat (LM r).toNat
def NQ(P:Program)(s t:TypeId)(x:V):R:=
 match P.underlying s,P.underlying t,x with
 |some _,some (.int k),.c (.d (.i _ n))=>(True,.c (.d (.i k (k.wrap n))))
 |some .string,some .string,.c (.d (.s l))=>(True,.c (.d (.s l)))
 |some (.slice e),some .string,.c x=>
  match P.underlying e,DF x with
  |some (.int .u8),some es=>(∀y∈es,y=[.i .u8 (LM y)],.c (.d (.s (es.map Xn))))
  |_,_=>no
 |_,_,_=>no
def Co(x:V)(i:Nat):R:=
 match x with
 | .eu xs=>match xs[i]? with
   |some (true,cs)=>(True,.agg cs)
   |some (false,[c])=>(True,.c c)
   |_=>no
 |_=>no
def capOf:V->Option (Key×Nat)
 | .c (.ptr k off)=>some (k,off)
 |_=>none
def Ak(fn:Fn)(first caps:List V):R:=
 match fn,first with
 | .func f,[]=>match caps.mapM capOf with
   |some l=>(True,.c (.fn f l))
   |none=>no
 |_,_=>no
def Al(S:Store)(x:V):R:=
 match x with
 | .c (.ptr k off)=>match bC S k with
   |some (.box _)=>(True,.c (.ptr k off))
   |_=>no
 | .c (.om cs)=>(True,.c (.om cs))
 |_=>no
def Ke(P:Program)(S:Store)(t:TypeId)(x:V):R:=
 match P.underlying t,x with
 |some .string,.c (.d (.s l))=>(True,.c (.d (.i .i64 l.length)))
 |some (.array n _),_=>(True,.c (.d (.i .i64 n)))
 |some (.slice _),.c (.jO k)=>match bC S k with
  |some (.fM _ es)=>(True,.c (.d (.i .i64 es.length)))
  |_=>no
 |some (.slice _),.c (.xp k r p)=>match bC S k with
  |some (.xf rs)=>match atR rs r p with
   |some es=>(True,.c (.d (.i .i64 es.length)))
   |none=>no
  |_=>no
 |some (.slice _),.c x=>match DF x with
  |some es=>(True,.c (.d (.i .i64 es.length)))
  |none=>no
 |_,_=>no
def Bg(x:Option V)(d:Int):Option Int:=
 match x with
 |none=>some d
 |some (.c (.d (.i _ n)))=>some n
 |_=>none
def Jt(P:Program)(t:TypeId)(x:V)(lo hi mx:Option V):R:=
 match P.underlying t,x,mx with
 |some .string,.c (.d (.s l)),none=>
  match Bg lo 0,Bg hi l.length with
  |some a,some b=>(0<=a/\a<=b/\b<=l.length,.c (.d (.s ((l.take b.toNat).drop a.toNat))))
  |_,_=>no
 |some (.slice e),.c x,none=>
  match DF x with
  |some es=>
   match Bg lo 0,Bg hi es.length with
   |some a,some b=>(0<=a/\a<=b/\b<=es.length/\(∀y∈es,y.length=P.cellsOf e)/\(P.info? e).isSome=true,.c (.d (.sl ((es.take b.toNat).drop a.toNat))))
   |_,_=>no
  |none=>no
 |_,_,_=>no
def splice(cells:List C)(off:Nat)(xs:List C):List C:=cells.take off++xs++cells.drop (off+xs.length)
def Kg(place:Nat->Option (Nat×Nat)):List C->List (Nat×V)->Option (List C)
 |cells,[]=>some cells
 |cells,(i,v)::rest=>
  match place i,zH v with
  |some (off,size),some xs=>if xs.length=size/\off+size<=cells.length then Kg place (splice cells off xs) rest else none
  |_,_=>none
def j5(P:Program)(t:TypeId):Option (List C):=((P.info? t).bind (·.zero)).bind fun z=>if z.cells.toList.all Value.oneCell' then some (z.cells.toList.map Jq) else none
def Ju(P:Program)(t:TypeId)(parts:List (Nat×V)):R:=
 match P.underlying t,j5 P t with
 |some (.struct fs),some zs=>
  match Kg (fun i=>(fs[i]?).map fun f=>(f.offset,P.cellsOf f.type)) zs parts with
  |some cs=>(fs.toList.all (fun f=>(P.info? f.type).isSome)=true,.agg cs)
  |none=>no
 |some (.array _ e),some zs=>
  match Kg (fun i=>some (i*P.cellsOf e,P.cellsOf e)) zs parts with
  |some cs=>((P.info? e).isSome=true,.agg cs)
  |none=>no
 |_,_=>no
def Am(size:Nat):List (Nat×V)->Nat->Option (List (List D))
 |[],_=>some []
 |(i,v)::rest,k=>
  if i=k then
   match(zH v).bind (·.mapM QE),Am size rest (k+1) with
   |some xs,some es=>if xs.length=size then some (xs::es) else none
   |_,_=>none
  else none
def uY(P:Program)(t:TypeId)(n:Nat)(parts:List (Nat×V)):R:=
 match P.underlying t with
 |some (.slice e)=>
  match Am (P.cellsOf e) parts 0 with
  |some es=>(es.length=n/\n*P.cellsOf e<=16777216/\(j5 P e).isSome=true,.c (.bH es))
  |none=>no
 |_=>no
def oo(P:Program)(l:Option Nat)(t:TypeId)(n:Nat)(parts:List (Nat×V)):R:=
 match l with
 |none=>uY P t n parts
 |some m=>match uY P t n parts with
  |(p,.c (.bH es))=>(p,.c (.mE m es))
  |_=>no
def zeroV(P:Program)(t:TypeId):Option Value:=(P.info? t).bind (·.zero)
def Cq(P:Program)(S:Store)(t:TypeId)(x i:V):R:=
 match P.underlying t,x,i with
 |some (.map kt et),.c (.mp k),.c (.d (.s l))=>
  match bC S k,P.underlying kt,zeroV P et with
  |some (.mp m),some .string,some (.bool false)=>(True,.c (.d (.b (decide (l∈m)))))
  |_,_,_=>no
 |_,_,_=>no
def zW(mx:Bool):V->V->R
 | .c (.d (.i k a)),.c (.d (.i _ b))=>(True,.c (.d (.i k (match mx with|true=>max a b|false=>min a b))))
 |_,_=>no
def qy(P:Program)(l:Option Nat)(S:Store)(tm:List (Nat×V)):Op->R
 | .move x=>(True,ev tm x)
 | .assign x=>(True,ev tm x)
 | .pick c a b=>NN (ev tm c) (ev tm a) (ev tm b)
 | .load t a=>Fe P S t (ev tm a)
 | .fieldAddr s x f=>wD P S s (ev tm x) f
 | .field t x f=>Jr P t (ev tm x) f
 | .indexAddr t x i=>wE P S t (ev tm x) (ev tm i)
 | .index t x i=>Js P t (ev tm x) (ev tm i)
 | .binOp op t x y _=>TQ P op t (ev tm x) (ev tm y)
 | .unOp op _ x=>unV op (ev tm x)
 | .convert s t x=>NQ P s t (ev tm x)
 | .extract x i=>Co (ev tm x) i
 | .makeFunc fn first caps=>Ak fn (first.toList.map (ev tm)) (caps.toList.map (ev tm))
 | .nilCheck x=>Al S (ev tm x)
 | .slice t x lo hi mx=>Jt P t (ev tm x) (lo.map (ev tm)) (hi.map (ev tm)) (mx.map (ev tm))
 | .build t parts=>Ju P t (parts.toList.map fun x=>(x.1,ev tm x.2))
 | .buildSlice t n parts=>oo P l t n (parts.toList.map fun x=>(x.1,ev tm x.2))
 | .lookup t x i false=>Cq P S t (ev tm x) (ev tm i)
 | .call {callee:=.builtin .len,args,argTypes}=>
   match args.toList,argTypes.toList with
   |[x],[t]=>Ke P S t (ev tm x)
   |_,_=>no
 | .call {callee:=.builtin .max,args,argTypes:=_}=>
   match args.toList with
   |[x,y]=>zW true (ev tm x) (ev tm y)
   |_=>no
 | .call {callee:=.builtin .min,args,argTypes:=_}=>
   match args.toList with
   |[x,y]=>zW false (ev tm x) (ev tm y)
   |_=>no
 |_=>no
def nval(P:Program)(S:Store)(tm:List (Nat×V))(op:Op):R:=qy P (tH S) S tm op
section
variable {P:Program} {w:World} {σ:Nat->Nat} {S:Store} {β:Hs}
def Does(P:Program)(m:Sem Value)(w:World)(σ:Nat->Nat)(S:Store)(β:Hs)(r:R):Prop:=
 r.1->∃v w' σ',m.run P w=.ok v w'/\Grow w σ w' σ'/\dR w' σ' S β r.2 v
theorem Does.no{m:Sem Value}:Does P m w σ S β no:=fun h=>h.elim
theorem Does.here{m:Sem Value}{r:R}{v:Value}(hl:∀b,b<w.heap.size\/σ b=0)(h:r.1->m.run P w=.ok v w/\dR w σ S β r.2 v):Does P m w σ S β r:=
 fun hr=>⟨v,w,σ,(h hr).1,.refl hl,(h hr).2⟩
theorem info_of_underlying{t:TypeId}{d:TypeDesc}(h:P.underlying t=some d):(P.info? t).isSome=true:=by
 unfold Program.underlying at h;split at h<;>simp_all
theorem kY{t:TypeId}(h:(P.info? t).isSome=true):(sizeOf t).run P w=.ok (P.cellsOf t) w:=by
 obtain⟨i,hi⟩:=fl.1 h;simp[sizeOf,typeInfo,hi,Program.cellsOf]
theorem F8{t:TypeId}{d:TypeDesc}(h:P.underlying t=some d):(sizeOf t).run P w=.ok (P.cellsOf t) w:=kY (info_of_underlying h)
theorem uF{t:TypeId}{d:TypeDesc}(h:P.underlying t=some d):(isAgg t).run P w=.ok (Bf P t) w:=by
 simp only[isAgg,Sem.run_bind,run_underlying h,Result.andThen_ok,Bf,h];cases d<;>rfl
theorem addr_add(a:Addr)(n:Nat)(h:a.spot=none):a.add n=⟨a.block,a.off+n,none⟩:=by
 unfold Addr.add;split
 ·rename_i e;subst e;cases a;simp_all
 ·rfl
theorem cell_of{b off:Nat}{c:Array Value}{t:TypeId}{fz:Nat×Nat}(h:w.heap[b]? =some (.cells c t fz)):w.cell? ⟨b,off,none⟩=c[off]? :=by
 simp[World.cell?,h]
theorem DI(c:Array Value)(off n:Nat)(h:∀j,j<n->∃v,c[off+j]? =some v):
 ((c.toList.drop off).take n).length=n/\∀j,j<n->((c.toList.drop off).take n)[j]? =c[off+j]? :=by
 have hl:n=0\/off+n<=c.size:=by
  cases n with
  |zero=>exact .inl rfl
  |succ n=>
   obtain⟨v,hv⟩:=h n gA;have:=(bj.1 hv).1;exact .inr gA
 constructor
 ·simp only[cj,bk,cp];omega
 ·intro j hj;rw[ck hj,cI,cm]
theorem yg{a:Addr}{c:Array Value}{t:TypeId}{fz:Nat×Nat}(hs:a.spot=none)(hb:w.heap[a.block]? =some (.cells c t fz))(n:Nat)
 (h:∀j,j<n->∃v,c[a.off+j]? =some v):(loadCells a n).run P w=.ok ((c.toList.drop a.off).take n).toArray w:=by
 obtain⟨hl,hv⟩:=DI c a.off n h
 have:=run_loadCells_list (P:=P) w a ((c.toList.drop a.off).take n) (fun j v hj=>by
  rw[addr_add _ _ hs,cell_of hb,<-hv j (by rw[<-hl];exact(ap.1 hj).1)];exact hj)
 rwa [hl] at this
theorem dO.one{d:D}{v:Value}(h:dO w σ d v):v.oneCell'=true:=by
 cases h with
 |o v h=>exact h
 |_=>rfl
theorem ajJ{a:Addr}{c:Array Value}{cs:List D}{n:Nat}
 (hc:∀(j:Nat) (d:D),cs[j]? =some d->∃v:Value,c[a.off+j]? =some v/\dO w σ d v)(hn:n<=cs.length):
 gN w σ S β ((cs.take n).map .d) ((c.toList.drop a.off).take n):=by
 have hex:∀j,j<n->∃v,c[a.off+j]? =some v:=fun j hj=>by
  obtain⟨v,hv,_⟩:=hc j cs[j] (am gA);exact⟨v,hv⟩
 obtain⟨hl,hv⟩:=DI c a.off n hex;refine⟨by rw[hl];simp;omega,fun j x hx=> ?_⟩;rw[bE] at hx
 cases hd:(cs.take n)[j]? with
 |none=>rw[hd] at hx;cases hx
 |some d=>
  rw[hd] at hx;cases hx
  have hj:j<n:=by
   have:=(ap.1 hd).1;simp at this;omega
  rw[ck hj] at hd;obtain⟨v,hcv,hr⟩:=hc j d hd;exact⟨v,by rw[hv j hj];exact hcv,hr,hr.one⟩
theorem flat_get{α:Type}:∀(es:List (List α))(bB:Nat),(∀e∈es,e.length=bB)->∀(i r:Nat)(hi:i<es.length),r<bB->es.flatten[i*bB+r]? =es[i][r]?
 |[],_,_,i,r,hi,_=>by simp at hi
 |e::es,bB,h,0,r,_,hr=>by
  have he:e.length=bB:=h e gL;simp only[cF,Nat.zero_mul,cG,List.getElem_cons_zero];rw[aq gA]
 |e::es,bB,h,i+1,r,hi,hr=>by
  have he:e.length=bB:=h e gL;simp only[cF,List.getElem_cons_succ];rw[ag (by rw[he,cS];omega)];rw[show(i+1)*bB+r-e.length=i*bB+r from by rw[he,cS];omega];exact flat_get es bB (fun x hx=>h x (by simp[hx])) i r (by simpa using hi) hr
theorem iT{α:Type}:∀(es:List (List α))(bB:Nat),(∀e∈es,e.length=bB)->es.flatten.length=es.length*bB
 |[],_,_=>by simp
 |e::es,bB,h=>by
  rw[cF,ae,h e gL,iT es bB (fun x hx=>h x (by simp[hx])),aa,cS];omega
def Here(P:Program)(m:Sem Value)(w:World)(σ:Nat->Nat)(S:Store)(β:Hs)(r:R):Prop:=r.1->∃v,m.run P w=.ok v w/\dR w σ S β r.2 v
theorem Here.no{m:Sem Value}:Here P m w σ S β no:=fun h=>h.elim
theorem Here.does{m:Sem Value}{r:R}(hl:∀b,b<w.heap.size\/σ b=0)(h:Here P m w σ S β r):Does P m w σ S β r:=fun hr=>let⟨v,h1,h2⟩:=h hr;⟨v,w,σ,h1,.refl hl,h2⟩
theorem QF{t:TypeId}{d:TypeDesc}{cs:List D}{a:Addr}{c:Array Value}{ty:TypeId}{fz:Nat×Nat}(ht:P.underlying t=some d)
 (hs:a.spot=none)(hb:w.heap[a.block]? =some (.cells c ty fz))(hc:∀(j:Nat) (d:D),cs[j]? =some d->∃v:Value,c[a.off+j]? =some v/\dO w σ d v):
 Here P (Instr.loadAt t (.pointer (some a))) w σ S β (NP P t cs):=by
 unfold NP;split
 ·rename_i hagg;intro hn;refine⟨_,?_,⟨_,rfl,by simpa using ajJ hc hn⟩⟩;simp[Instr.loadAt,Instr.sureAddr,loadVar,uF ht,hagg,F8 ht]
  rw[yg hs hb _ (fun j hj=>by
   obtain⟨v,hv,_⟩:=hc j cs[j] (am (df hj hn))
   exact⟨v,hv⟩)]
  rfl
 ·rename_i hagg
  cases cs with
  |nil=>exact Here.no
  |cons x cs=>
   intro _;obtain⟨v,hv,hr⟩:=hc 0 x rfl;refine⟨v,?_,hr,hr.one⟩
   have hcell:w.cell? a=some v:=by
    have:a=⟨a.block,a.off,none⟩:=by cases a;simp_all
    rw[this,cell_of hb];exact hv
   have Ib:Bf P t=false:=by simpa using hagg
   simp[Instr.loadAt,Instr.sureAddr,loadVar,uF ht,Ib,hcell]
theorem jc.up{c:C}{v:Value}(n:Nat)(h:jc w σ (S.drop n) (β.drop n) c v):jc w σ S β (c.up n) v:=by
 cases c with
 |d x=>exact h
 |any=>exact True.intro
 |bH es=>exact h
 |bJ k es=>
  obtain⟨h1,o,ho,h2⟩:=h;rw[fF] at ho;exact⟨h1,o,ho,fun bB es' e=>by have:=h2 bB es' e;rw[fF] at this;exact this⟩
 |ptr k off=>
  obtain⟨o,ho,h2⟩:=h;rw[fF] at ho;exact⟨o,ho,fun cs e=>by have:=h2 cs e;simp only[fF] at this;exact this⟩
 |om cs=>exact h
 |nM k i off=>
  obtain⟨o,ho,h2⟩:=h;rw[fF] at ho;exact⟨o,ho,fun bB es e=>by have:=h2 bB es e;simp only[fF] at this;exact this⟩
 |jO k=>
  obtain⟨o,ho,h2⟩:=h;rw[fF] at ho;exact⟨o,ho,fun bB es e=>by have:=h2 bB es e;rw[fF] at this;exact this⟩
 |fn f caps=>
  obtain⟨vs,hv,hs,h2⟩:=h;refine⟨vs,hv,by simpa using hs,fun j k off e=> ?_⟩;rw[bE] at e
  cases hc:caps[j]? with
  |none=>rw[hc] at e;cases e
  |some x=>
   rw[hc] at e;obtain⟨k0,ajK⟩:=x;cases e;obtain⟨u,hu,h1c,o,ho,h3⟩:=h2 j k0 ajK hc;rw[fF] at ho;exact⟨u,hu,h1c,o,ho,fun cs e=>by have:=h3 cs e;simp only[fF] at this;exact this⟩
 |mp k=>
  obtain⟨o,ho,h2⟩:=h;rw[fF] at ho;exact⟨o,ho,fun m e=>by have:=h2 m e;rw[fF] at this;exact this⟩
 |mE m es=>exact h
 |xp k r p=>
  obtain⟨o,ho,h2⟩:=h;rw[fF] at ho;exact⟨o,ho,fun rs e=>by have:=h2 rs e;rw[fF] at this;exact this⟩
 |xq k r p z i off=>
  obtain⟨o,ho,h2⟩:=h;rw[fF] at ho;exact⟨o,ho,fun rs e=>by have:=h2 rs e;rw[fF] at this;exact this⟩
theorem OM{i o:Nat}:∀(p:List (Nat×Nat))(T:Value),uE T (p++[(i,o)])=(uE T p).bind fun u=>kid u i o
 |[],T=>by
  show(kid T i o).bind (fun u=>some u)=kid T i o;cases kid T i o<;>rfl
 |(a,b)::p,T=>by
  show(kid T a b).bind (fun u=>uE u (p++[(i,o)]))=((kid T a b).bind fun u=>uE u p).bind _
  cases kid T a b with
  |none=>rfl
  |some u=>exact OM p u
theorem vG.sub{es:List (List D)}{T:Value}(h:vG w es T){i o:Nat}{es':List (List D)}(hc:cellAt es i o=some (.sl es')):∃u,kid T i o=some u/\vG w es' u:=by
 cases h with
 |nil=>simp[cellAt] at hc
 |mk b off cap z es T c t vals kids hh hne hcap hlen hb hfit hcv hs hk hx hself hap Es=>exact⟨_,(hk i o es' hc).1,hx i o es' hc⟩
theorem vG.at_:∀(p:List (Nat×Nat)){es:List (List D)}{T:Value}{es':List (List D)},vG w es T->atP es p=some es'->∃T',uE T p=some T'/\vG w es' T'/\∀b,qG T' b->qG T b
 |[],es,T,es',h,e=>by cases e;exact⟨T,rfl,h,fun _ h=>h⟩
 |(i,o)::p,es,T,es',h,e=>by
  rw[atP] at e;split at e
  ·rename_i es1 hc;obtain⟨u,k1,k2⟩:=h.sub hc;obtain⟨T',a,b,c⟩:=at_ p k2 e;exact⟨T',by rw[uE,k1];exact a,b,fun x hx=>.kid k1 (c x hx)⟩
  ·cases e
theorem vG.U4{es:List (List D)}{T:Value}(h:vG w es T):∃a cap,hdr T=some (.slice a es.length cap):=by
 cases h with
 |nil a cap T h hk=>exact⟨a,cap,h⟩
 |mk b off cap z es T c t vals kids hh=>exact⟨_,_,hh⟩
theorem NR{k:Key}{rs:List (List (List D))}{r:Nat}{p:List (Nat×Nat)}{es:List (List D)}(hS:fC w σ S β)(hk:bC S k=some (.xf rs))(hes:atR rs r p=some es):
 ∃h T T',bC β k=some h/\zG h r=some T/\uE T p=some T'/\vG w es T'/\QD h r p=hdr T'/\∀b,qG T' b->NM h b:=by
 obtain⟨h,hh,h1,h2,h3,h4⟩:=hS.obj k _ hk;unfold atR at hes
 cases hr:rs[r]? with
 |none=>rw[hr] at hes;cases hes
 |some es0=>
  rw[hr] at hes;obtain⟨T,a1,a2⟩:=h1 r es0 hr;obtain⟨T',b1,b2,b3⟩:=a2.at_ p hes;refine⟨h,T,T',hh,a1,b1,b2,?_,fun b hb=>⟨r,T,a1,b3 b hb⟩⟩;unfold QD;rw[a1];show(uE T p).bind hdr=_;rw[b1];rfl
theorem F9{es:List (List D)}{i o:Nat}{d:D}(h:cellAt es i o=some d):∃hi:i<es.length,o<es[i].length:=by
 unfold cellAt at h
 cases hr:es[i]? with
 |none=>rw[hr] at h;cases h
 |some row=>
  rw[hr] at h;obtain⟨hi,e⟩:=ap.1 hr;refine⟨hi,?_⟩;rw[e];exact(ap.1 (show row[o]? =some d from h)).1
theorem QG{t:TypeId}{td:TypeDesc}(ht:P.underlying t=some td)(hagg:Bf P t=false){k:Key}{r z i off:Nat}{p:List (Nat×Nat)}{rs:List (List (List D))}{es:List (List D)}{xv:Value}{d:D}
 (hS:fC w σ S β)(hk:bC S k=some (.xf rs))(hes:atR rs r p=some es)(hx:jc w σ S β (.xq k r p z i off) xv)(hc:cellAt es i off=some d)(hz:(es.getD i []).length=z):
 ∃v,(Instr.loadAt t xv).run P w=.ok v w/\v.oneCell'=true/\((∃es',d=.sl es'/\jc w σ S β (.xp k r (p++[(i,off)])) v)\/SD d v):=by
 obtain⟨h,T,T',hh,hr,hT',hE,hhd,_⟩:=NR hS hk hes;obtain⟨o,ho,hx2⟩:=hx;rw[hk] at ho;cases ho;obtain⟨h',b,a,n,cap,e1,e2,rfl⟩:=hx2 rs rfl;rw[hh] at e1;cases e1;rw[hhd] at e2;obtain⟨hi,hoff⟩:=F9 hc
 cases hE with
 |nil=>simp at hi
 |mk b0 ajK cap0 z0 es T' c t0 vals kids hh0 hne hcap hlen hb hfit hcv hs hkd Bh hself hap Es=>
  rw[hh0] at e2;cases e2
  have hz0:z=z0:=by rw[<-hz,<-hlen _ (ac hi)];simp[List.getD,hi]
  subst hz0;have hcell:=hcv i off d hc;refine⟨vals i off,?_,?_,?_⟩
  ·have:w.cell? ⟨b,a+i*z+off,none⟩=some (vals i off):=by rw[cell_of hb,ec];exact hcell
   simp[Instr.loadAt,Instr.sureAddr,loadVar,uF ht,hagg,this]
  ·rcases hs i off d hc with⟨es',rfl⟩|hsd
   ·obtain⟨k1,k2⟩:=hkd i off es' hc;obtain⟨a',cap',e⟩:=(Bh i off es' hc).U4;rw[e] at k2;rw[<-cL k2];rfl
   ·cases d<;>first|exact hsd.elim|(rw[show vals i off=_ from hsd];rfl)
  ·rcases hs i off d hc with⟨es',rfl⟩|hsd
   ·obtain⟨k1,k2⟩:=hkd i off es' hc;refine .inl ⟨es',rfl,_,hk,fun rs' e=>⟨h,hh,?_⟩⟩;unfold QD;rw[hr];show(uE T (p++[(i,off)])).bind hdr=_;rw[OM,hT'];show(kid T' i off).bind hdr=_;rw[k1];exact k2
   ·exact .inr hsd
theorem agx{d:D}{v:Value}(h:SD d v):dO w σ d v:=by
 cases d<;>first|exact h.elim|(rw[show v=_ from h];constructor)
theorem U5{t:TypeId}{x:V}{xv:Value}(hS:fC w σ S β)(hx:dR w σ S β x xv):Here P (Instr.loadAt t xv) w σ S β (Fe P S t x):=by
 unfold Fe;split
 ·exact Here.no
 rename_i d ht;split
 ·rename_i cs;obtain⟨⟨a,rfl,hp⟩,_⟩:=hx;obtain⟨c,ty,fz,hs,hb,hσ,hc⟩:=hp;exact QF ht hs hb hc
 ·rename_i k off;split
  ·rename_i cs hk;obtain⟨⟨o,ho,h2⟩,_⟩:=hx;rw[hk] at ho;cases ho;obtain⟨b,hb,rfl⟩:=h2 cs rfl;obtain⟨h,hh,hr⟩:=hS.obj k _ hk;rw[hb] at hh;cases hh;obtain⟨b',c,ty,e,hbc,hσ,hl,hc⟩:=hr;cases e
   have hcell:∀(j:Nat)(x:C),cs[j]? =some x->∃v:Value,c[j]? =some v/\jc w σ S β (x.up k.1) v/\v.oneCell'=true:=fun j x hj=>by
    obtain⟨v,hv,hr,ho⟩:=hc j x hj;rw[cm] at hv;exact⟨v,hv,hr.up k.1,ho⟩
   split
   ·rename_i hagg;intro hn;have hn':off+P.cellsOf t<=cs.length:=hn
    have hex:∀j,j<P.cellsOf t->∃v,c[off+j]? =some v:=fun j hj=>by
     obtain⟨v,hv,_⟩:=hcell (off+j) cs[off+j] (am gA);exact⟨v,hv⟩
    obtain⟨hpl,hpv⟩:=DI c off _ hex;refine⟨.agg ((c.toList.drop off).take (P.cellsOf t)).toArray,?_,⟨_,rfl,?_,fun j x hx=> ?_⟩⟩
    ·simp[Instr.loadAt,Instr.sureAddr,loadVar,uF ht,hagg,F8 ht];rw[yg (a:=⟨b,off,none⟩) rfl hbc _ hex];rfl
    ·simp only[hpl];simp;omega
    ·rw[bE] at hx
     cases hd:((cs.drop off).take (P.cellsOf t))[j]? with
     |none=>rw[hd] at hx;cases hx
     |some y=>
      rw[hd] at hx;cases hx
      have hj:j<P.cellsOf t:=by
       have:=(ap.1 hd).1;simp at this;omega
      rw[ck hj,cI] at hd;obtain⟨v,hv,hr,ho⟩:=hcell _ y hd;exact⟨v,by rw[hpv j hj];exact hv,hr,ho⟩
   ·rename_i hagg
    have Ib:Bf P t=false:=by simpa using hagg
    cases hd:cs.drop off with
    |nil=>exact Here.no
    |cons y ys=>
     intro _
     have hy:cs[off]? =some y:=by
      have:(cs.drop off)[0]? =some y:=by rw[hd];rfl
      simpa [cI] using this
     obtain⟨v,hv,hr,ho⟩:=hcell off y hy;refine⟨v,?_,hr,ho⟩;simp[Instr.loadAt,Instr.sureAddr,loadVar,uF ht,Ib,cell_of hbc,hv]
  ·exact Here.no
 ·rename_i k i off;split
  ·rename_i bB es hk;obtain⟨⟨o,ho,h2⟩,_⟩:=hx;rw[hk] at ho;cases ho;obtain⟨b,n,cap,hb,rfl⟩:=h2 bB es rfl;obtain⟨h,hh,hr⟩:=hS.obj k _ hk;rw[hb] at hh;cases hh;rintro⟨h1,hi⟩;obtain⟨b',c,ty,cap',e,hcap,_,hbc,hσ,hlen,_,hz,hc⟩:=LJ hr hi;cases e
   have hcell:∀(j:Nat)(d:D),((es.getD i []).drop off)[j]? =some d->∃v:Value,c[i*bB+off+j]? =some v/\dO w σ d v:=fun j d hj=>by
    have hge:es.getD i []=es[i]:=by simp[List.getD,hi]
    rw[hge,cI] at hj
    have hlt:off+j<bB:=by
     have:=(ap.1 hj).1;rw[hlen _ (ac hi)] at this;exact this
    have hfl:es.flatten[i*bB+(off+j)]? =some d:=by
     rw[<-hj];exact flat_get es bB hlen i (off+j) hi hlt
    obtain⟨v,hv,hr⟩:=hc _ d hfl;exact⟨v,by rw[ec];exact hv,hr⟩
   exact QF (a:=⟨b,i*bB+off,none⟩) ht rfl hbc hcell h1
  ·exact Here.no
 ·rename_i k r p z i off;split
  ·rename_i rs hk;split
   ·rename_i es hes;split
    ·exact Here.no
    rename_i hagg
    have Ib:Bf P t=false:=by simpa using hagg
    split
    ·rename_i es' hc;intro hz;obtain⟨v,h1,h2,h3⟩:=QG ht Ib hS hk hes hx.1 hc hz;rcases h3 with⟨_,_,h3⟩|h3
     ·exact⟨v,h1,h3,h2⟩
     ·exact h3.elim
    ·rename_i d hne hc;split
     ·rename_i hd;intro hz;obtain⟨v,h1,h2,h3⟩:=QG ht Ib hS hk hes hx.1 hc hz;rcases h3 with⟨es',e,_⟩|h3
      ·exact absurd e (hne es')
      ·exact⟨v,h1,agx h3,h2⟩
     ·exact Here.no
    ·exact Here.no
   ·exact Here.no
  ·exact Here.no
 ·exact Here.no
theorem agy{t:TypeId}{x:V}{xv:Value}(hS:fC w σ S β)(hx:dR w σ S β x xv):Does P (Instr.loadAt t xv) w σ S β (Fe P S t x):=(U5 hS hx).does hS.live
end
section
variable {P:Program} {w:World} {σ:Nat->Nat} {S:Store} {β:Hs}
theorem aqb{t:TypeId}(h:P.cellsOf t≠0):(P.info? t).isSome=true:=by
 unfold Program.cellsOf at h
 cases hi:P.info? t with
 |none=>rw[hi] at h;exact absurd rfl h
 |some i=>rfl
theorem TR{s:TypeId}{x:V}{xv:Value}{f:Nat}(hS:fC w σ S β)(hx:dR w σ S β x xv):
 Does P (Instr.fieldAt s xv f) w σ S β (wD P S s x f):=by
 unfold wD;split
 ·rename_i fs hs;split
  ·rename_i fd hf;split
   ·exact Does.no
   rename_i hne;have hf':fs[f]? =some fd:=hf
   have base:∀a:Addr,a.spot=none->(Instr.fieldAt s (.pointer (some a)) f).run P w=.ok (.pointer (some ⟨a.block,a.off+fd.offset,none⟩)) w:=fun a ha=>by
    simp[Instr.fieldAt,run_underlying hs,hf',Instr.sureAddr,fieldPlace,kY (aqb hne),hne,addr_add _ _ ha]
   split
   ·rename_i cs;obtain⟨⟨a,rfl,c,ty,fz,ha,hb,hσ,hc⟩,_⟩:=hx;refine Does.here hS.live fun hle=>⟨base a ha,⟨_,rfl,c,ty,fz,rfl,hb,?_,fun j d hj=> ?_⟩,rfl⟩
    ·have hle':fd.offset<=cs.length:=hle;simp only[bk];omega
    ·rw[cI] at hj;obtain⟨v,hv,hr⟩:=hc _ d hj;exact⟨v,by simp only[ec];exact hv,hr⟩
   ·rename_i k off;split
    ·rename_i cs hk;obtain⟨⟨o,ho,h2⟩,_⟩:=hx;rw[hk] at ho;cases ho;obtain⟨b,hb,rfl⟩:=h2 cs rfl;exact Does.here hS.live fun _=>⟨base _ rfl,⟨_,hk,fun cs' e=>⟨b,hb,rfl⟩⟩,rfl⟩
    ·exact Does.no
   ·rename_i k i off;split
    ·rename_i bB es hk;obtain⟨⟨o,ho,h2⟩,_⟩:=hx;rw[hk] at ho;cases ho;obtain⟨b,n,cap,hb,rfl⟩:=h2 bB es rfl;exact Does.here hS.live fun _=>⟨base _ rfl,⟨_,hk,fun xP es' e=>by cases e;exact⟨b,n,cap,hb,by rw[ec]⟩⟩,rfl⟩
    ·exact Does.no
   ·rename_i k r p z i off;split
    ·rename_i rs hk;obtain⟨⟨o,ho,h2⟩,_⟩:=hx;rw[hk] at ho;cases ho;obtain⟨h,b,a,n,cap,e1,e2,rfl⟩:=h2 rs rfl;exact Does.here hS.live fun _=>⟨base _ rfl,⟨_,hk,fun rs' e=>by cases e;exact⟨h,b,a,n,cap,e1,e2,by simp only[ec]⟩⟩,rfl⟩
    ·exact Does.no
   ·exact Does.no
  ·exact Does.no
 ·exact Does.no
theorem ajL{cs:List C}{a:Array Value}(h:gN w σ S β cs a.toList){t:TypeId}{off:Nat}:
 Does P (part t a off) w σ S β (Ia P t cs off)\/¬(∀b,b<w.heap.size\/σ b=0):=by
 by_cases hl:∀b,b<w.heap.size\/σ b=0
 ·left;unfold Ia;split
  ·exact Does.no
  rename_i d ht;split
  ·rename_i hagg;refine Does.here (v:=.agg (a.extract off (off+P.cellsOf t))) hl fun hn=>⟨?_,⟨_,rfl,?_,fun j x hx=> ?_⟩⟩
   ·simp[part,uF ht,hagg,F8 ht]
   ·have hn':off+P.cellsOf t<=cs.length:=hn;have:=h.1;simp at this;simp;omega
   ·have hn':off+P.cellsOf t<=cs.length:=hn
    have hj:j<P.cellsOf t:=by
     have:=(ap.1 hx).1;simp at this;omega
    rw[ck hj,cI] at hx;obtain⟨v,hv,hr,ho⟩:=h.2 _ x hx;refine⟨v,?_,hr,ho⟩
    have hlt:off+j<a.size:=by
     have:=(ap.1 hv).1;simpa using this
    rw[cm] at hv ⊢;rw[Array.getElem?_extract_of_lt gA,<-hv,cq hlt]
  ·rename_i hagg
   have Ib:Bf P t=false:=by simpa using hagg
   cases hd:cs.drop off with
   |nil=>exact Does.no
   |cons y ys=>
    have hy:cs[off]? =some y:=by
     have:(cs.drop off)[0]? =some y:=by rw[hd];rfl
     simpa [cI] using this
    obtain⟨v,hv,hr,ho⟩:=h.2 off y hy;rw[cm] at hv;exact Does.here hl fun _=>⟨by simp[part,uF ht,Ib,hv],hr,ho⟩
 ·exact .inr hl
theorem U6{cs:List C}{a:Array Value}(hS:fC w σ S β)(h:gN w σ S β cs a.toList){t:TypeId}{off:Nat}:
 Does P (part t a off) w σ S β (Ia P t cs off):=(ajL h).resolve_right (fun n=>n hS.live)
theorem adH{t:TypeId}{x:V}{xv:Value}{f:Nat}(hS:fC w σ S β)(hx:dR w σ S β x xv):Does P (Instr.field t xv f) w σ S β (Jr P t x f):=by
 unfold Jr;split
 ·rename_i fs cs hs;split
  ·rename_i fd hf;have hf':fs[f]? =some fd:=hf;obtain⟨a,rfl,hc⟩:=hx;intro hn;obtain⟨v,w',σ',hrun,hg,hr⟩:=U6 (P:=P) (t:=fd.type) (off:=fd.offset) hS hc hn;exact⟨v,w',σ',by simp[Instr.field,run_underlying hs,hf',asAgg,hrun],hg,hr⟩
  ·exact Does.no
 ·exact Does.no
theorem vI{n:Nat}{es:List (List D)}{v:Value}(h:dO w σ (.ol n es) v):dO w σ (.sl es) v:=by
 cases h with
 |xO n a cap=>exact .nil a cap
 |ol n b off cap bB es vals c t hcap hlen hb hσ hfit hc hv hx=>exact .sl b off cap bB es vals c t (0,0) hcap hlen hb gA hc hv
theorem Bj{x:C}{es:List (List D)}{v:Value}(h:DF x=some es)(hx:jc w σ S β x v):dO w σ (.sl es) v:=by
 cases x<;>simp only[DF] at h<;>first|(cases h;done)|skip
 ·rename_i d;cases d<;>simp at h
  ·subst h;exact hx
  ·subst h;exact vI hx
 ·cases h;exact hx.1
 ·cases h;exact hx.1
 ·cases h;exact vI hx.1
theorem TS{t:TypeId}{x i:V}{xv iv:Value}(hS:fC w σ S β)(hx:dR w σ S β x xv)(hi:dR w σ S β i iv):
 Does P (Instr.indexAt t xv iv) w σ S β (wE P S t x i):=by
 unfold wE;split
 ·rename_i e k n' n ht;split
  ·rename_i bB es hk;obtain⟨hi1,_⟩:=hi;cases hi1;obtain⟨⟨o,ho,h2⟩,_⟩:=hx;rw[hk] at ho;cases ho;have hh:=h2 bB es rfl;obtain⟨h,hh',hr⟩:=hS.obj k _ hk;rw[hh] at hh';cases hh';by_cases h3:n.toNat<es.length
   rotate_left
   ·exact fun hn=>absurd hn.2.1 h3
   obtain⟨b,c,ty,cap,rfl,hcap,_,hbc,hσ,hlen,_,hz,hc⟩:=LJ hr h3;refine Does.here (v:=.pointer (some ⟨b,n.toNat*P.cellsOf e,none⟩)) hS.live ?_;rintro⟨h1,-,h4,h5⟩;refine⟨?_,⟨_,hk,fun xP es' e'=> ?_⟩,rfl⟩
   ·have hlt:n<(es.length:Int):=gA
    simp only[Instr.indexAt,asIntOf,Sem.run_bind,Sem.run_pure,Result.andThen_ok,run_underlying ht];simp[h1,hlt,kY h5,addr_add]
   ·cases e';exact⟨b,_,_,hh,by rw[h4];simp⟩
  ·exact Does.no
 ·rename_i len e k off n' n ht;split
  ·rename_i cs hk;obtain⟨hi1,_⟩:=hi;cases hi1;obtain⟨⟨o,ho,h2⟩,_⟩:=hx;rw[hk] at ho;cases ho;obtain⟨b,hb,rfl⟩:=h2 cs rfl;refine Does.here (v:=.pointer (some ⟨b,off+n.toNat*P.cellsOf e,none⟩)) hS.live ?_;rintro⟨h1,h3,h5⟩;refine⟨?_,⟨_,hk,fun cs' e'=>⟨b,hb,rfl⟩⟩,rfl⟩
   have hlt:n<(len:Int):=gA
   simp only[Instr.indexAt,asIntOf,Sem.run_bind,Sem.run_pure,Result.andThen_ok,run_underlying ht];simp[h1,hlt,kY h5,addr_add,Instr.sureAddr]
  ·exact Does.no
 ·rename_i e k r p n' n ht;split
  ·rename_i rs hk;split
   ·rename_i es hes;obtain⟨hi1,_⟩:=hi;cases hi1;obtain⟨h,T,T',hh,hr,hT',hE,hhd,_⟩:=NR hS hk hes;obtain⟨⟨o,ho,hx2⟩,_⟩:=hx;rw[hk] at ho;cases ho;obtain⟨h',e1,e2⟩:=hx2 rs rfl;rw[hh] at e1;cases e1;rw[hhd] at e2
    cases hE with
    |nil=>exact fun h=>absurd h.2.1 gL
    |mk b off cap z es T' c t0 vals kids hh0 hne hcap hlen hb hfit hcv hs hkd Bh hself hap Es=>
     rw[hh0] at e2;cases e2;refine Does.here (v:=.pointer (some ⟨b,off+n.toNat*P.cellsOf e,none⟩)) hS.live ?_;rintro⟨h1,h3,h5⟩;refine⟨?_,⟨_,hk,fun rs' e'=>⟨h,b,off,_,cap,hh,by rw[hhd];exact hh0,rfl⟩⟩,rfl⟩
     have hlt:n<(es.length:Int):=gA
     simp only[Instr.indexAt,asIntOf,Sem.run_bind,Sem.run_pure,Result.andThen_ok,run_underlying ht];simp[h1,hlt,kY h5,addr_add]
   ·exact Does.no
  ·exact Does.no
 ·rename_i e x n' n _ _ ht;split
  ·rename_i es hes;obtain⟨hi1,_⟩:=hi;cases hi1;have hd:=Bj hes hx.1
   cases hd with
   |nil a cap=>exact fun h=>absurd h.2.1 gL
   |sl b off cap bB es vals c ty fz hcap hlen hb hσ hc hv=>
    refine Does.here (v:=.pointer (some ⟨b,off+n.toNat*P.cellsOf e,none⟩)) hS.live ?_;rintro⟨h1,h3,h4,h5⟩
    have hge:es.getD n.toNat []=es[n.toNat]:=by simp[List.getD,h3]
    have adI:bB=P.cellsOf e:=by rw[<-h4,hge,hlen _ (ac h3)]
    refine⟨?_,⟨_,rfl,c,ty,fz,rfl,hb,?_,fun j d hj=> ?_⟩,rfl⟩
    ·have hlt:n<(es.length:Int):=gA
     simp only[Instr.indexAt,asIntOf,Sem.run_bind,Sem.run_pure,Result.andThen_ok,run_underlying ht];simp[h1,hlt,kY h5,addr_add]
    ·have:(n.toNat+1)*bB<=es.length*bB:=cx _ h3;rw[cS,Nat.one_mul] at this
     simp only
     rw[h4,<-adI];omega
    ·rw[hge] at hj
     have hj':j<bB:=by
      have:=(ap.1 hj).1
      rwa [hlen _ (ac h3)] at this
     have hfl:=flat_get es bB hlen n.toNat j h3 hj';rw[hj] at hfl
     have hlt:n.toNat*bB+j<es.length*bB:=by
      have:(n.toNat+1)*bB<=es.length*bB:=cx _ h3;rw[cS,Nat.one_mul] at this;omega
     refine⟨vals (n.toNat*bB+j),?_,hv _ d hfl⟩;have:=hc _ hlt;rw[adI] at this ⊢;rw[<-ec] at this;exact this
  ·exact Does.no
 ·exact Does.no
theorem adJ{t:TypeId}{x i:V}{xv iv:Value}(hS:fC w σ S β)(hx:dR w σ S β x xv)(hi:dR w σ S β i iv):
 Does P (Instr.index t xv iv) w σ S β (Js P t x i):=by
 unfold Js;split
 ·rename_i l k n ht;obtain⟨hi1,_⟩:=hi;cases hi1;obtain⟨hx1,_⟩:=hx;cases hx1;refine Does.here (v:=.int .u8 ((l.getD n.toNat 0).toNat)) hS.live ?_;rintro⟨h1,h2⟩;refine⟨?_,.i _ _,rfl⟩
  have hg:(⟨l.toArray⟩:ByteArray)[n.toNat]? =some (l.getD n.toNat 0):=by
   have hs:n.toNat<(⟨l.toArray⟩:ByteArray).size:=by simpa [ByteArray.size] using h2
   rw[getElem?_pos (⟨l.toArray⟩:ByteArray) n.toNat hs];simp only[ByteArray.getElem_eq_getElem_data,List.getElem_toArray,List.getD,am h2,dq]
  simp only[Instr.index,asIntOf,Sem.run_bind,Sem.run_pure,Result.andThen_ok,run_underlying ht,h1,if_true,hg]
 ·rename_i len e cs k n ht;obtain⟨hi1,_⟩:=hi;cases hi1;obtain⟨a,rfl,hc⟩:=hx;rintro⟨h0,h1,h2⟩;obtain⟨v,w',σ',hrun,hg,hr⟩:=U6 (P:=P) (t:=e) (off:=n.toNat*P.cellsOf e) hS hc h0;refine⟨v,w',σ',?_,hg,hr⟩
  have hlt:n<(len:Int):=gA
  have hinfo:(P.info? e).isSome=true:=by
   unfold Ia at h0;split at h0
   ·exact h0.elim
   ·rename_i d hd;exact info_of_underlying hd
  simp only[Instr.index,asIntOf,Sem.run_bind,Sem.run_pure,Result.andThen_ok,run_underlying ht,h1,hlt,and_self,if_true,kY hinfo,hrun]
 ·exact Does.no
end
section
variable {P:Program} {w:World} {σ:Nat->Nat} {S:Store} {β:Hs}
theorem Px{α:Type}[BEq α][LawfulBEq α][DecidableEq α](a b:α):(a==b)=decide (a=b):=by rw[fw];simp
theorem adK{op:BinOp}{k:IntKind}{a b:Int}{t:TypeId}(hl:∀b,b<w.heap.size\/σ b=0):Does P (binOp op t (.int k a) (.int k b)) w σ S β (adE op k a b):=by
 have hi:∀(op':BinOp)(n:Int),((binOp op t (.int k a) (.int k b)).run P w=.ok (.int k n) w)->Does P (binOp op t (.int k a) (.int k b)) w σ S β (True,.c (.d (.i k n))):=
  fun _ n h=>Does.here hl fun _=>⟨h,.i _ _,rfl⟩
 have hb:∀(x:Bool),((binOp op t (.int k a) (.int k b)).run P w=.ok (.bool x) w)->Does P (binOp op t (.int k a) (.int k b)) w σ S β (True,.c (.d (.b x))):=
  fun x h=>Does.here hl fun _=>⟨h,.b _,rfl⟩
 cases op with
 |and=>exact hi .add _ (by simp[binOp,Op.intBits,IX,orK,XL])
 |or=>exact hi .add _ (by simp[binOp,Op.intBits,IX,orK,XL])
 |xor=>exact hi .add _ (by simp[binOp,Op.intBits,IX,orK,XL])
 |shl=>intro h;replace h:0<=b:=h;exact hi .add _ (by simp[binOp,Op.shift,Int.not_lt.2 h,XM,Pw]) trivial
 |shr=>intro h;replace h:0<=b:=h;exact hi .add _ (by simp[binOp,Op.shift,Int.not_lt.2 h,XM,Pw]) trivial
 |add=>exact hi .add _ (by simp[binOp,Op.intArith])
 |sub=>exact hi .add _ (by simp[binOp,Op.intArith])
 |mul=>exact hi .add _ (by simp[binOp,Op.intArith])
 |quo=>intro h;replace h:b≠0:=h;exact hi .add _ (by simp[binOp,Op.intDiv,h]) trivial
 |rem=>intro h;replace h:b≠0:=h;exact hi .add _ (by simp[binOp,Op.intDiv,h]) trivial
 |eql=>exact hb _ (by simp[binOp,Op.intCmp,Px])
 |neq=>exact hb _ (by simp[binOp,Op.intCmp,bne,Px])
 |lss=>exact hb _ (by simp[binOp,Op.intCmp])
 |leq=>exact hb _ (by simp[binOp,Op.intCmp])
 |gtr=>exact hb _ (by simp[binOp,Op.intCmp])
 |geq=>exact hb _ (by simp[binOp,Op.intCmp])
 |_=>exact Does.no
theorem agz{op:BinOp}{k k':IntKind}{a b:Int}{t:TypeId}(hl:∀b,b<w.heap.size\/σ b=0):Does P (binOp op t (.int k a) (.int k' b)) w σ S β (XO op k a b):=by
 have hi:∀(n:Int),((binOp op t (.int k a) (.int k' b)).run P w=.ok (.int k n) w)->Does P (binOp op t (.int k a) (.int k' b)) w σ S β (True,.c (.d (.i k n))):=
  fun n h=>Does.here hl fun _=>⟨h,.i _ _,rfl⟩
 cases op with
 |shl=>intro h;replace h:0<=b:=h;exact hi _ (by simp[binOp,Op.shift,Int.not_lt.2 h,XM,Pw]) trivial
 |shr=>intro h;replace h:0<=b:=h;exact hi _ (by simp[binOp,Op.shift,Int.not_lt.2 h,XM,Pw]) trivial
 |_=>exact Does.no
theorem agA(a b:List UInt8):(⟨a.toArray⟩:ByteArray)++⟨b.toArray⟩=⟨(a++b).toArray⟩:=by
 apply ByteArray.ext;simp[ByteArray.data_append]
theorem adL{op:BinOp}{a b:List UInt8}{t:TypeId}(hl:∀b,b<w.heap.size\/σ b=0):Does P (binOp op t (.string ⟨a.toArray⟩) (.string ⟨b.toArray⟩)) w σ S β (adF op a b):=by
 have hb:∀(x:Bool),((binOp op t (.string ⟨a.toArray⟩) (.string ⟨b.toArray⟩)).run P w=.ok (.bool x) w)->Does P (binOp op t (.string ⟨a.toArray⟩) (.string ⟨b.toArray⟩)) w σ S β (True,.c (.d (.b x))):=
  fun x h=>Does.here hl fun _=>⟨h,.b _,rfl⟩
 cases op with
 |add=>
  intro h
  replace h:a.length+b.length<=1099511627776:=h
  refine⟨_,w,σ,?_,.refl hl,.s _,rfl⟩
  have h1:¬(IntKind.i64.max<((a.length+b.length:Nat):Int)):=by
   have:IntKind.i64.max=9223372036854775807:=gE
   omega
  simp only[binOp,Op.stringOp,ByteArray.size,ea,gt_iff_lt,if_neg h1,agA,Sem.run_pure]
 |eql=>exact hb _ (by simp[binOp,Op.stringOp,ByteArray.toList_eq,Px])
 |neq=>exact hb _ (by simp[binOp,Op.stringOp,ByteArray.toList_eq,Px])
 |lss=>exact hb _ (by simp[binOp,Op.stringOp,ByteArray.toList_eq])
 |_=>exact Does.no
theorem LP{u:TypeId}(h:intTy P u=true){a:Array Value}{off:Nat}{v:Value}(ha:a[off]? =some v):(part u a off).run P w=.ok v w:=by
 unfold intTy at h;split at h
 ·rename_i k hk
  have hagg:Bf P u=false:=by simp[Bf,hk]
  simp[part,uF hk,hagg,ha]
 ·cases h
theorem uo{d:Nat}{u:TypeId}(h:intTy P u=true){k:IntKind}{a b:Int}:(Op.equalIn (d+1) u (.int k a) (.int k b)).run P w=.ok (decide (a=b)) w:=by
 unfold intTy at h;split at h
 ·rename_i k' hk;rw[Op.equalIn];simp[run_underlying hk,Px]
 ·cases h
theorem Jv{d:Nat}{t:TypeId}(h:pairTy P t=true){k l:IntKind}{a b a' b':Int}:
 (Op.equalIn (d+2) t (.agg #[.int k a,.int l b]) (.agg #[.int k a',.int l b'])).run P w=.ok (decide (a=a'/\b=b')) w:=by
 unfold pairTy at h;simp only[ai,fj] at h;obtain⟨⟨_,h2⟩,h3⟩:=h;split at h3
 case h_2=>cases h3
 rename_i fs hfs;obtain⟨fs⟩:=fs;simp only at h3;split at h3
 case h_2=>cases h3
 rename_i f g;simp only[ai,bne_iff_ne,ne_eq,beq_iff_eq] at h3;obtain⟨⟨⟨⟨⟨n1,n2⟩,o1⟩,o2⟩,i1⟩,i2⟩:=h3;rw[Op.equalIn];have p1:∀x y:Value,(part f.type #[x,y] f.offset).run P w=.ok x w:=fun x y=>LP i1 (by rw[o1];rfl);have p2:∀x y:Value,(part g.type #[x,y] g.offset).run P w=.ok y w:=fun x y=>LP i2 (by rw[o2];rfl);by_cases e1:a=a'
 ·by_cases e2:b=b'
  ·simp[run_underlying hfs,h2,n1,n2,p1,p2,uo i1,uo i2,e1,e2]
  ·simp[run_underlying hfs,h2,n1,n2,p1,p2,uo i1,uo i2,e1,e2]
 ·simp[run_underlying hfs,h2,n1,n2,p1,p2,uo i1,uo i2,e1]
theorem QH{t:TypeId}(h:pairTy P t=true){op:BinOp}{ox oy:Operand}{xs ys:Array Value}:(eqGuard op t ox oy (.agg xs) (.agg ys)).run P w=.ok () w:=by
 unfold pairTy at h;simp only[ai,fj] at h;obtain⟨⟨h1,_⟩,_⟩:=h;unfold eqGuard;cases op<;>simp[h1]
theorem U7{k l:IntKind}{a b:Int}{v:Value}(h:dR w σ S β (.agg [.d (.i k a),.d (.i l b)]) v):v=.agg #[.int k a,.int l b]:=by
 obtain⟨⟨x⟩,rfl,h1,h2⟩:=h;obtain⟨u,e1,r1,_⟩:=h2 0 _ rfl;obtain⟨u',e2,r2,_⟩:=h2 1 _ rfl;cases r1;cases r2
 match x,h1 with
 |[y,z],_=>
  cases e1;cases e2;rfl
theorem ajM{op:BinOp}{t:TypeId}{ox oy:Operand}{x y:V}{xv yv:Value}(hS:fC w σ S β)(hx:dR w σ S β x xv)(hy:dR w σ S β y yv):
 Does P (do eqGuard op t ox oy xv yv;binOp op t xv yv) w σ S β (TQ P op t x y):=by
 have gi:∀k a k' b,(eqGuard op t ox oy (.int k a) (.int k' b)).run P w=.ok () w:=fun k a k' b=>by unfold eqGuard;cases op<;>rfl
 have gs:∀a b,(eqGuard op t ox oy (.string a) (.string b)).run P w=.ok () w:=fun a b=>by unfold eqGuard;cases op<;>rfl
 have gb:∀a b,(eqGuard op t ox oy (.bool a) (.bool b)).run P w=.ok () w:=fun a b=>by unfold eqGuard;cases op<;>rfl
 unfold TQ;split
 ·rename_i xs ys;unfold adG;split
  case h_2=>exact Does.no
  rename_i k a l b k' a' l' b';have e1:=U7 hx;have e2:=U7 hy;subst e1 e2;split
  ·rintro⟨hp,rfl,rfl⟩;refine Does.here hS.live (fun _=>⟨?_,.b _,rfl⟩) ⟨hp,rfl,rfl⟩;simp only[Sem.run_bind,QH hp,Result.andThen_ok,binOp,Op.equal];rw[show Op.maxDepth=9998+2 from rfl,Jv hp];rfl
  ·rintro⟨hp,rfl,rfl⟩;refine Does.here hS.live (fun _=>⟨?_,.b _,rfl⟩) ⟨hp,rfl,rfl⟩;simp only[Sem.run_bind,QH hp,Result.andThen_ok,binOp,Op.equal];rw[show Op.maxDepth=9998+2 from rfl,Jv hp];rfl
  ·exact Does.no
 ·rename_i k a k' b;split
  ·rename_i hk;subst hk;obtain⟨hx1,_⟩:=hx;obtain⟨hy1,_⟩:=hy;cases hx1;cases hy1;intro hr;obtain⟨v,w',σ',hrun,hg⟩:=adK (P:=P) (t:=t) hS.live hr;exact⟨v,w',σ',by simp[gi,hrun],hg⟩
  ·obtain⟨hx1,_⟩:=hx;obtain⟨hy1,_⟩:=hy;cases hx1;cases hy1;intro hr;obtain⟨v,w',σ',hrun,hg⟩:=agz (P:=P) (t:=t) (k':=k') hS.live hr;exact⟨v,w',σ',by simp[gi,hrun],hg⟩
 ·rename_i a b;obtain⟨hx1,_⟩:=hx;obtain⟨hy1,_⟩:=hy;cases hx1;cases hy1;intro hr;obtain⟨v,w',σ',hrun,hg⟩:=adL (P:=P) (t:=t) hS.live hr;exact⟨v,w',σ',by simp[gs,hrun],hg⟩
 ·rename_i a b;obtain⟨hx1,_⟩:=hx;obtain⟨hy1,_⟩:=hy;cases hx1;cases hy1;split
  ·rename_i ht;refine Does.here hS.live fun _=>⟨?_,.b _,rfl⟩;simp only[Sem.run_bind,gb,Result.andThen_ok,binOp];show((Op.equalIn (9999+1) t (.bool a) (.bool b)).run P w).andThen _=_;rw[Op.equalIn];simp[run_underlying ht,Px]
  ·rename_i ht;refine Does.here hS.live fun _=>⟨?_,.b _,rfl⟩;simp only[Sem.run_bind,gb,Result.andThen_ok,binOp];show((Op.equalIn (9999+1) t (.bool a) (.bool b)).run P w).andThen _=_;rw[Op.equalIn];simp[run_underlying ht,Px]
  ·exact Does.no
 ·exact Does.no
theorem an3{op:UnOp}{x:V}{xv:Value}(hS:fC w σ S β)(hx:dR w σ S β x xv):Does P (Op.unary op xv) w σ S β (unV op x):=by
 unfold unV;split
 ·obtain⟨hx1,_⟩:=hx;cases hx1;exact Does.here hS.live fun _=>⟨rfl,.b _,rfl⟩
 ·obtain⟨hx1,_⟩:=hx;cases hx1;exact Does.here hS.live fun _=>⟨rfl,.i _ _,rfl⟩
 ·exact Does.no
theorem agB{s t:TypeId}{x:V}{xv:Value}(hS:fC w σ S β)(hx:dR w σ S β x xv):Does P (convert s t xv) w σ S β (NQ P s t x):=by
 unfold NQ;split
 ·rename_i d k k' n hs ht;obtain⟨hx1,_⟩:=hx;cases hx1;refine Does.here hS.live fun _=>⟨?_,.i _ _,rfl⟩;simp only[convert,Sem.run_bind,run_underlying hs,run_underlying ht,Result.andThen_ok];cases d<;>rfl
 ·rename_i l hs ht;obtain⟨hx1,_⟩:=hx;cases hx1;refine Does.here hS.live fun _=>⟨?_,.s _,rfl⟩;simp[convert,run_underlying hs,run_underlying ht]
 ·rename_i e x hs ht;split
  ·rename_i es he hes;have hd:=Bj hes hx.1;intro hall
   replace hall:∀y∈es,y=[.i .u8 (LM y)]:=hall
   refine⟨.string ⟨(es.map Xn).toArray⟩,w,σ,?_,.refl hS.live,.s _,rfl⟩
   cases hd with
   |nil a cap=>
    rw[run_convert_bytes_string w s t e _ _ _ hs he ht]
    cases a with
    |none=>simp[Conv.bytesToString];rfl
    |some a=>
     rw[run_bytesToString w a 0 cap [] (by simp[loadCells,loadCellsFrom])];rfl
   |sl b off cap bB es vals c ty fz hcap hlen hb hσ hc hv=>
    have hrow:∀i,∀hi:i<es.length,es[i]=[.i .u8 (LM es[i])]:=fun i hi=>hall _ (ac hi)
    have hz:0<es.length->bB=1:=fun h=>by
     have h1:=hlen _ (ac h);rw[hrow 0 h] at h1;exact h1.symm
    rw[run_convert_bytes_arg w s e hs he b off es.length cap (es.map LM) gL (fun i hi=> ?_) t ht]
    ·congr 2;simp[strOfNums,Xn]
    ·have h1:=hz gA;subst h1;rw[cell_of hb,hc i gA];have hfl:=flat_get es 1 hlen i 0 hi gA;rw[Nat.mul_one,cR,hrow i hi] at hfl;have:=hv i _ hfl
     have hvi:∀u,dO w σ (.i .u8 (LM es[i])) u->u=.int .u8 (LM es[i]):=fun u hu=>by cases hu;rfl
     rw[hvi _ this];simp[List.getD,hi]
  ·exact Does.no
 ·exact Does.no
theorem XP{x:V}{xv:Value}{i:Nat}(hS:fC w σ S β)(hx:dR w σ S β x xv):Does P (Instr.extract xv i) w σ S β (Co x i):=by
 unfold Co;split
 ·rename_i xs;obtain⟨a,rfl,hl,h2⟩:=hx;split
  ·rename_i cs hi;obtain⟨u,hu,a',rfl,hc⟩:=h2 i _ hi;exact Does.here hS.live fun _=>⟨by simp[Instr.extract,hu],a',rfl,hc⟩
  ·rename_i c hi;obtain⟨u,hu,y,hy,hc,ho⟩:=h2 i _ hi;cases hy;exact Does.here hS.live fun _=>⟨by simp[Instr.extract,hu],hc,ho⟩
  ·exact Does.no
 ·exact Does.no
theorem XQ:∀(caps:List V)(l:List (Key×Nat)),caps.mapM capOf=some l->∀(vs:List Value),caps.length=vs.length->(∀(j:Nat)(x:V),caps[j]? =some x->∃v,vs[j]? =some v/\dR w σ S β x v)->
 l.length=vs.length/\∀(j:Nat)(k:Key)(off:Nat),l[j]? =some (k,off)->∃u:Value,vs[j]? =some u/\u.oneCell'=true/\∃o,bC S k=some o/\∀cs,o=.box cs->∃b,bC β k=some (Value.pointer (some ⟨b,0,none⟩))/\u=Value.pointer (some ⟨b,off,none⟩)
 |[],l,h,vs,hl,_=>by
  simp at h;subst h;exact⟨hl,fun j k off e=>by simp at e⟩
 |x::caps,l,h,[],hl,_=>by simp at hl
 |x::caps,l,h,v::vs,hl,hv=>by
  rw[ef] at h
  cases hx:capOf x with
  |none=>rw[hx] at h;simp at h
  |some ko=>
   cases hm:caps.mapM capOf with
   |none=>rw[hx,hm] at h;simp at h
   |some l'=>
    rw[hx,hm] at h;simp at h;subst h;obtain⟨hl',hj'⟩:=XQ caps l' hm vs (by simpa using hl) (fun j x hx=>hv (j+1) x hx);refine⟨by simp[hl'],fun j k off e=> ?_⟩
    cases j with
    |zero=>
     simp at e;subst e;obtain⟨u,hu,hr⟩:=hv 0 x rfl;refine⟨u,hu,?_⟩;unfold capOf at hx;split at hx
     ·cases hx;exact⟨hr.2,hr.1⟩
     ·cases hx
    |succ j=>exact hj' j k off e
theorem WI{fn:Fn}{first caps:List V}{fv cv:List Value}(hS:fC w σ S β)(hf:first.length=fv.length)(hl:caps.length=cv.length)
 (hc:∀(j:Nat) (x:V),caps[j]? =some x->∃v,cv[j]? =some v/\dR w σ S β x v):Does P (Instr.makeFunc fn fv.toArray cv.toArray) w σ S β (Ak fn first caps):=by
 unfold Ak;split
 ·rename_i f;split
  ·rename_i l hm
   have:fv=[]:=by cases fv with|nil=>rfl|cons=>simp at hf
   subst this;obtain⟨h1,h2⟩:=XQ caps l hm cv hl hc;exact Does.here hS.live fun _=>⟨rfl,⟨_,rfl,by simpa using h1.symm,fun j k off e=>by simpa using h2 j k off e⟩,rfl⟩
  ·exact Does.no
 ·exact Does.no
theorem acy{es:Array MapEntry}{m:List (List UInt8)}(hes:es.toList.map (fun e=>(e.key,e.val))=m.map (fun l=>(Value.string ⟨l.toArray⟩,Value.bool true))):
 (∀e∈es.toList,MapKept.IsKey .string e.key)/\(∀e∈es.toList,e.val=.bool true)/\∀l:List UInt8,l∈m<->∃e∈es.toList,e.key=.string ⟨l.toArray⟩:=by
 have h1:∀e∈es.toList,∃l∈m,e.key=.string ⟨l.toArray⟩/\e.val=.bool true:=fun e he=>by
  have:=be (f:=fun e:MapEntry=>(e.key,e.val)) he;rw[hes] at this;obtain⟨l,hl,e1⟩:=cr.1 this;injection e1 with e1 e2;exact⟨l,hl,e1.symm,e2.symm⟩
 refine⟨fun e he=> ?_,fun e he=>(h1 e he).choose_spec.2.2,fun l=>⟨fun hl=> ?_,fun⟨e,he,hk⟩=> ?_⟩⟩
 ·obtain⟨l,_,h,_⟩:=h1 e he;rw[h];trivial
 ·have:=be (f:=fun l:List UInt8=>(Value.string ⟨l.toArray⟩,Value.bool true)) hl;rw[<-hes] at this;obtain⟨e,he,e1⟩:=cr.1 this;injection e1 with e1 e2;exact⟨e,he,e1⟩
 ·obtain⟨l',hl,h,_⟩:=h1 e he;rw[h] at hk;injection hk with hk;injection hk with hk
  have:l'=l:=by simpa using congrArg Array.toList hk
  rw[<-this];exact hl
theorem aaS{t:TypeId}{x i:V}{xv iv:Value}(hS:fC w σ S β)(hx:dR w σ S β x xv)(hi:dR w σ S β i iv):Does P (Instr.lookup t xv iv false) w σ S β (Cq P S t x i):=by
 unfold Cq;split
 ·rename_i kt et k l ht;split
  ·rename_i m hk hkt hz;obtain⟨⟨o,ho,h2⟩,_⟩:=hx;rw[hk] at ho;cases ho;have hh:=h2 m rfl;obtain⟨h,hh',hr⟩:=hS.obj k _ hk;rw[hh] at hh';cases hh';obtain⟨b,es,clock,rfl,hb,_,hes⟩:=hr;obtain⟨hi1,_⟩:=hi;cases hi1;refine Does.here (v:=.bool (decide (l∈m))) hS.live fun _=> ?_;obtain⟨hks,hvs,hmem⟩:=acy hes;have hkey:MapKept.IsKey .string (.string ⟨l.toArray⟩):=trivial
   have zI:(zeroValue et).run P w=.ok (.bool false) w:=by
    unfold zeroV at hz
    cases hi:P.info? et with
    |none=>rw[hi] at hz;cases hz
    |some info=>
     rw[hi] at hz;simp only[dy] at hz;simp[zeroValue,typeInfo,hi,hz]
   rcases MapKept.findNow_spec hkey es.toList 0 hks with⟨h1,h3⟩|⟨j,e0,h1,h3,h4⟩
   ·have hn:l∉m:=fun hl=>by
     obtain⟨e,he,hke⟩:=(hmem l).1 hl;exact h3 e he hke
    refine⟨?_,.b _,rfl⟩;rw[decide_eq_false hn];simp[Instr.lookup,run_underlying ht,MapKept.run_getObj_map hb,MapKept.run_checkKey hkt hkey,MapKept.run_findKey hkt h1,zI,Result.andThen]
   ·have he0:e0∈es.toList:=de h3;have hy:l∈m:=(hmem l).2 ⟨e0,he0,h4⟩;have hv:=hvs e0 he0;refine⟨?_,.b _,rfl⟩;rw[decide_eq_true hy];simp[Instr.lookup,run_underlying ht,MapKept.run_getObj_map hb,MapKept.run_checkKey hkt hkey,MapKept.run_findKey hkt h1,Result.andThen,hv]
  ·exact Does.no
 ·exact Does.no
theorem XR{ts:Array TypeId}{ty:TypeId}{x y:V}{xv yv:Value}(hS:fC w σ S β)(hx:dR w σ S β x xv)(hy:dR w σ S β y yv):Does P (Builtin.max_ ts ty #[xv,yv]) w σ S β (zW true x y):=by
 unfold zW;split
 ·rename_i k a k' b;obtain⟨hx1,_⟩:=hx;cases hx1;obtain⟨hy1,_⟩:=hy;cases hy1
  have e:(if b>a then b else a)=max a b:=by split<;>omega
  exact Does.here hS.live fun _=>⟨by simp[Builtin.max_,Builtin.max2,<-e],.i _ _,rfl⟩
 ·exact Does.no
theorem XT{ts:Array TypeId}{ty:TypeId}{x y:V}{xv yv:Value}(hS:fC w σ S β)(hx:dR w σ S β x xv)(hy:dR w σ S β y yv):Does P (Builtin.min_ ts ty #[xv,yv]) w σ S β (zW false x y):=by
 unfold zW;split
 ·rename_i k a k' b;obtain⟨hx1,_⟩:=hx;cases hx1;obtain⟨hy1,_⟩:=hy;cases hy1
  have e:(if b<a then b else a)=min a b:=by split<;>omega
  exact Does.here hS.live fun _=>⟨by simp[Builtin.min_,Builtin.min2,<-e],.i _ _,rfl⟩
 ·exact Does.no
theorem XU{t ty:TypeId}{x:V}{xv:Value}(hS:fC w σ S β)(hx:dR w σ S β x xv):Does P (Builtin.len_ #[t] ty #[xv]) w σ S β (Ke P S t x):=by
 unfold Ke;split
 ·rename_i l ht;obtain⟨hx1,_⟩:=hx;cases hx1;refine Does.here hS.live fun _=>⟨?_,.i _ _,rfl⟩;have hsz:(⟨l.toArray⟩:ByteArray).size=l.length:=ea;simp[Builtin.len_,run_underlying ht,goInt,hsz]
 ·rename_i n e ht;exact Does.here hS.live fun _=>⟨by simp[Builtin.len_,run_underlying ht,goInt],.i _ _,rfl⟩
 ·rename_i e k ht;split
  ·rename_i bB es hk;obtain⟨⟨o,ho,h2⟩,_⟩:=hx;rw[hk] at ho;cases ho;have hh:=h2 bB es rfl;obtain⟨h,hh',hr⟩:=hS.obj k _ hk;rw[hh] at hh';cases hh';obtain⟨_,ad,cap,rfl,_⟩:=hr;exact Does.here hS.live fun _=>⟨by simp[Builtin.len_,run_underlying ht,goInt],.i _ _,rfl⟩
  ·exact Does.no
 ·rename_i e k r p ht;split
  ·rename_i rs hk;split
   ·rename_i es hes;obtain⟨h,T,T',hh,hr,hT',hE,hhd,_⟩:=NR hS hk hes;obtain⟨⟨o,ho,hx2⟩,_⟩:=hx;rw[hk] at ho;cases ho;obtain⟨h',e1,e2⟩:=hx2 rs rfl;rw[hh] at e1;cases e1;obtain⟨a,cap,e3⟩:=hE.U4;rw[hhd,e3] at e2;cases e2;exact Does.here hS.live fun _=>⟨by simp[Builtin.len_,run_underlying ht,goInt],.i _ _,rfl⟩
   ·exact Does.no
  ·exact Does.no
 ·rename_i e x _ _ ht;split
  ·rename_i es hes;have hd:=Bj hes hx.1
   cases hd with
   |nil a cap=>exact Does.here hS.live fun _=>⟨by simp[Builtin.len_,run_underlying ht,goInt],.i _ _,rfl⟩
   |sl b off cap bB es vals c ty fz hcap hlen hb hσ hc hv=>exact Does.here hS.live fun _=>⟨by simp[Builtin.len_,run_underlying ht,goInt],.i _ _,rfl⟩
  ·exact Does.no
 ·exact Does.no
theorem xU(k:IntKind)(n:Int)(y:Nat)(code:BoundsCode)(h0:0<=n)(h1:n<=y):(Instr.sliceBound (.int k n) y code).run P w=.ok n.toNat w:=by
 simp[Instr.sliceBound,asIntOf,h0,h1]
theorem TT{x:V}{n:Int}{v:Value}(h:Bg (some x) 0=some n\/∃d,Bg (some x) d=some n)(hx:dR w σ S β x v):∃k,v=.int k n:=by
 have h':∃d,Bg (some x) d=some n:=h.elim (fun h=>⟨0,h⟩) id;obtain⟨d,h'⟩:=h';unfold Bg at h';split at h'
 ·rename_i h;cases h
 ·rename_i k n' he;cases he;cases h';obtain⟨hx1,_⟩:=hx;cases hx1;exact⟨_,rfl⟩
 ·cases h'
def TU(w:World)(σ:Nat->Nat)(S:Store)(β:Hs):Option V->Option Value->Prop
 |none,none=>True
 |some x,some v=>dR w σ S β x v
 |_,_=>False
theorem Kh{isS:Bool}{len cap:Nat}{lo hi:Option V}{lv hv:Option Value}{a b:Int}(hlo:TU w σ S β lo lv)(hhi:TU w σ S β hi hv)
 (ha:Bg lo 0=some a)(hb:Bg hi len=some b)(h0:0<=a)(h1:a<=b)(h2:b<=len)(h3:len<=cap):
 (Instr.sliceBounds isS len cap lv hv none).run P w=.ok (a.toNat,b.toNat,cap) w:=by
 have hbc:b<=(cap:Int):=gA
 have hab:a<=((b.toNat:Nat):Int):=gA
 cases hi with
 |none=>
  cases hv with
  |some v=>exact hhi.elim
  |none=>
   cases hb
   cases lo with
   |none=>
    cases lv with
    |some v=>exact hlo.elim
    |none=>cases ha;simp[Instr.sliceBounds]
   |some x=>
    cases lv with
    |none=>exact hlo.elim
    |some v=>
     obtain⟨k,rfl⟩:=TT (.inl ha) hlo;simp[Instr.sliceBounds,xU k a len .sliceB h0 h1]
 |some y=>
  cases hv with
  |none=>exact hhi.elim
  |some v=>
   obtain⟨k,rfl⟩:=TT (.inr ⟨_,hb⟩) hhi
   have hb0:0<=b:=gA
   cases lo with
   |none=>
    cases lv with
    |some v=>exact hlo.elim
    |none=>cases ha;cases isS<;>simp[Instr.sliceBounds,xU k b cap _ hb0 hbc]
   |some x=>
    cases lv with
    |none=>exact hlo.elim
    |some v=>
     obtain⟨k',rfl⟩:=TT (.inl ha) hlo;cases isS<;>simp[Instr.sliceBounds,xU k b cap _ hb0 hbc,xU k' a b.toNat .sliceB h0 hab]
theorem U8{α:Type}(es:List (List α))(bB:Nat)(h:∀e∈es,e.length=bB)(n:Nat)(hn:n<=es.length)(j:Nat):((es.drop n).flatten)[j]? =es.flatten[n*bB+j]? :=by
 have:es.flatten=(es.take n).flatten++(es.drop n).flatten:=by rw[<-cV,da]
 rw[this]
 have hl:(es.take n).flatten.length=n*bB:=by
  rw[iT _ bB (fun e he=>h e (eA he)),cj,gj hn]
 rw[ag gA,hl,cY]
theorem adM{t:TypeId}{x:V}{lo hi mx:Option V}{xv:Value}{lv hv mv:Option Value}(hS:fC w σ S β)(hx:dR w σ S β x xv)(hlo:TU w σ S β lo lv)(hhi:TU w σ S β hi hv)
 (hmx:TU w σ S β mx mv):Does P (Instr.sliceAt t xv lv hv mv) w σ S β (Jt P t x lo hi mx):=by
 unfold Jt;split
 ·rename_i l ht
  cases mv with
  |some v=>exact hmx.elim
  |none=>
   obtain⟨hx1,_⟩:=hx;cases hx1;split
   ·rename_i a b ha hb;rintro⟨h0,h1,h2⟩;refine⟨_,w,σ,?_,.refl hS.live,.s _,rfl⟩;have hsz:(⟨l.toArray⟩:ByteArray).size=l.length:=ea;have hb':=Kh (P:=P) (isS:=false) hlo hhi ha hb h0 h1 h2 (ax l.length);simp only[Instr.sliceAt,Instr.slice,Sem.run_bind,run_underlying ht,Result.andThen_ok,hsz];simp only[gt,cP,if_false,Sem.run_bind,Sem.run_pure,Result.andThen_ok,hb'];congr 2;apply ByteArray.ext;apply Array.ext';rw[ByteArray.data_extract];simp[List.drop_take]
   ·exact Does.no
 ·rename_i e x ht
  cases mv with
  |some v=>exact hmx.elim
  |none=>
   split
   ·rename_i es hes;split
    ·rename_i a b ha hb;have hd:=Bj hes hx.1;intro⟨h0,h1,h2,h3,h4⟩
     cases hd with
     |nil a' cap=>
      have hb':=Kh (P:=P) (isS:=true) hlo hhi ha hb h0 h1 h2 (an cap)
      have hb0:b=0:=by simp at h2;omega
      have ha0:a=0:=gA
      refine⟨.slice (if cap=a.toNat then a' else a'.map (·.add (a.toNat*P.cellsOf e))) (b.toNat-a.toNat) (cap-a.toNat),w,σ,?_,.refl hS.live,?_,?_⟩
      ·simp only[Instr.sliceAt,Instr.slice,Sem.run_bind,run_underlying ht,Result.andThen_ok,al] at hb' ⊢;simp only[hb',Result.andThen_ok,Sem.run_bind,kY h4,Sem.run_pure]
      ·subst hb0;subst ha0;simp;exact .nil _ _
      ·rfl
     |sl bl off cap bB es vals c ty fz hcap hlen hbk hσ hc hv=>
      have hb':=Kh (P:=P) (isS:=true) hlo hhi ha hb h0 h1 h2 hcap
      have hal:a.toNat<=es.length:=gA
      have hbl:b.toNat<=es.length:=gA
      have adI:es=[]\/bB=P.cellsOf e:=by
       cases es with
       |nil=>exact .inl rfl
       |cons y ys=>exact .inr (by rw[<-hlen y gL,h3 y gL])
      have hln:((es.take b.toNat).drop a.toNat).length=b.toNat-a.toNat:=gR
      refine⟨.slice (if cap=a.toNat then some ⟨bl,off,none⟩ else some ⟨bl,off+a.toNat*P.cellsOf e,none⟩) (b.toNat-a.toNat) (cap-a.toNat),w,σ,?_,.refl hS.live,?_,rfl⟩
      ·simp only[Instr.sliceAt,Instr.slice,Sem.run_bind,run_underlying ht,Result.andThen_ok,hb',kY h4,Sem.run_pure];split
       ·rfl
       ·simp[addr_add]
      ·by_cases hz:b.toNat-a.toNat=0
       ·have:((es.take b.toNat).drop a.toNat)=[]:=bz gA;simp only[this,hz];exact .nil _ _
       ·have NS:cap≠a.toNat:=gA
        have hne:es≠[]:=by intro e;subst e;simp at hbl;omega
        have he:bB=P.cellsOf e:=adI.resolve_left hne;rw[if_neg NS];show dO w σ _ _;rw[<-hln,<-he]
        have hmul:a.toNat*bB+(b.toNat-a.toNat)*bB<=es.length*bB:=by
         rw[<-cS];exact cx _ gA
        have hlt':∀e∈es.take b.toNat,e.length=bB:=fun e he=>hlen e (eA he);refine .sl bl (off+a.toNat*bB) (cap-a.toNat) bB _ (fun j=>vals (a.toNat*bB+j)) c ty fz gA (fun e he=>hlen e (eA (cJ he))) hbk ?_ ?_ ?_
        ·rw[hln];omega
        ·intro j hj;rw[hln] at hj;rw[ec];exact hc _ gA
        ·intro j d hj;rw[U8 _ bB hlt' _ gR] at hj
         have hj2:es.flatten[a.toNat*bB+j]? =some d:=by
          have hsplit:es.flatten=(es.take b.toNat).flatten++(es.drop b.toNat).flatten:=by rw[<-cV,da]
          rw[hsplit,aq (ap.1 hj).1];exact hj
         exact hv _ d hj2
    ·exact Does.no
   ·exact Does.no
 ·exact Does.no
end
section
variable {P:Program} {w:World} {σ:Nat->Nat} {S:Store} {β:Hs}
theorem Bl{x:V}{v:Value}{xs:List C}(h:zH x=some xs)(hx:dR w σ S β x v):gN w σ S β xs v.cells.toList:=by
 cases x with
 |c x=>
  cases h;obtain⟨h1,h2⟩:=hx
  have:v.cells= #[v]:=by cases v<;>first|rfl|(simp[Value.oneCell'] at h2)
  rw[this];refine⟨rfl,fun j y hy=> ?_⟩
  cases j with
  |zero=>simp at hy;subst hy;exact⟨v,rfl,h1,h2⟩
  |succ j=>simp at hy
 |agg cs=>
  cases h;obtain⟨a,rfl,hc⟩:=hx;exact hc
 |eu=>cases h
 |any=>cases h
theorem foldl_set(off:Nat):∀(vs:List Value)(k:Nat)(arr:Array Value),off+k+vs.length<=arr.size->
 ((vs.zipIdx k).foldl (fun(cs:Array Value) (x:Value×Nat)=>cs.setIfInBounds (off+x.2) x.1) arr).toList=arr.toList.take (off+k)++vs++arr.toList.drop (off+k+vs.length)
 |[],k,arr,_=>by simp
 |v::vs,k,arr,h=>by
  have hl:off+k<arr.size:=by simp at h;omega
  rw[List.zipIdx_cons,fi,foldl_set off vs (k+1) _ (by simp at h ⊢;omega)];simp only[eQ,aa]
  have e1:(arr.toList.set (off+k) v).take (off+(k+1))=arr.toList.take (off+k)++[v]:=by
   rw[<-ec,bu (by simpa using hl)];rw[List.take_set_of_le gA]
   simp
  have e2:(arr.toList.set (off+k) v).drop (off+(k+1)+vs.length)=arr.toList.drop (off+k+(vs.length+1)):=by
   rw[List.drop_set_of_lt gA];congr 1;omega
  rw[e1,e2]
  simp
theorem U9(v:Value)(off:Nat)(cells:Array Value)(h:off+v.cells.size<=cells.size):
 (v.cells.zipIdx.foldl (fun cs (c,j)=>cs.setIfInBounds (off+j) c) cells).toList=cells.toList.take off++v.cells.toList++cells.toList.drop (off+v.cells.size):=by
 have:=foldl_set off v.cells.toList 0 cells (by simpa using h);rw[<-Array.foldl_toList,Array.toList_zipIdx];simpa using this
theorem QI{cells xs:List C}{cv xv:List Value}{off:Nat}(hc:gN w σ S β cells cv)(hx:gN w σ S β xs xv)(hl:off+xs.length<=cells.length):
 gN w σ S β (splice cells off xs) (cv.take off++xv++cv.drop (off+xv.length)):=by
 have l1:=hc.1;have l2:=hx.1;refine⟨by simp[splice];omega,fun j y hy=> ?_⟩;unfold splice at hy;by_cases h1:j<off
 ·rw[cf,aq gR,ck h1] at hy;obtain⟨v,hv,r⟩:=hc.2 j y hy;exact⟨v,by rw[cf,aq gR,ck h1];exact hv,r⟩
 ·by_cases h2:j<off+xs.length
  ·rw[aq gR,ag gR] at hy
   have e:(cells.take off).length=off:=gR
   rw[e] at hy;obtain⟨v,hv,r⟩:=hx.2 _ y hy;refine⟨v,?_,r⟩;rw[aq gR,ag gR]
   have e':(cv.take off).length=off:=gR
   rw[e'];exact hv
  ·rw[ag gR,cI] at hy;obtain⟨v,hv,r⟩:=hc.2 _ y hy;refine⟨v,?_,r⟩;rw[ag gR,cI];rw[<-hv];congr 1
   simp
   omega
theorem Py(place:Nat->Option (Nat×Nat)):∀(parts:List (Nat×V))(pv:List (Nat×Value))(cells cs:List C)(ca:Array Value),Kg place cells parts=some cs->gN w σ S β cells ca.toList->
 parts.length=pv.length->(∀(j:Nat)(x:Nat×V),parts[j]? =some x->∃v,pv[j]? =some (x.1,v)/\dR w σ S β x.2 v)->∃vW,Instr.fill place ca pv=some vW/\gN w σ S β cs vW.toList
 |[],[],cells,cs,ca,h,hc,_,_=>by
  simp only[Kg] at h;cases h;exact⟨ca,rfl,hc⟩
 |[],_::_,_,_,_,_,_,h,_=>by simp at h
 |_::_,[],_,_,_,_,_,h,_=>by simp at h
 |(i,x)::parts,(i',v)::pv,cells,cs,ca,h,hc,hl,hp=>by
  obtain⟨v',hv,hr⟩:=hp 0 (i,x) rfl;simp at hv;obtain⟨rfl,rfl⟩:=hv;simp only[Kg] at h;split at h
  ·rename_i off size xs hpl hcx;split at h
   ·rename_i hcond;obtain⟨h1,h2⟩:=hcond;have hx:=Bl hcx hr;have lx:=hx.1;have lc:=hc.1;simp at lx lc;have hs:=QI (off:=off) hc hx gA
    have hsz:v.cells.size=size:=gA
    have hst:=U9 v off ca gA;simp only[cp] at hs;rw[<-hst] at hs;obtain⟨vW,hf,hcs⟩:=Py place parts pv _ cs _ h hs (by simpa using hl) (fun j x hx=>hp (j+1) x hx);refine⟨vW,?_,hcs⟩;rw[Instr.fill,hpl]
    have hcc:(v.cells.size≠size||off+v.cells.size>ca.size)=false:=gR
    simp only[hcc,cP,if_false];exact hf
   ·cases h
  ·cases h
theorem Le{α:Type}(f:α->Sem (Nat×Nat))(g:α->Nat×Nat):∀(l:List α),(∀x∈l,(f x).run P w=.ok (g x) w)->(l.mapM f).run P w=.ok (l.map g) w
 |[],_=>by simp
 |x::l,h=>by
  rw[ef];simp[h x gL,Le f g l (fun y hy=>h y (by simp[hy]))]
theorem yh{t:TypeId}{zs:List C}(h:j5 P t=some zs):∃z,(zeroValue t).run P w=.ok z w/\gN w σ S β zs z.cells.toList:=by
 unfold j5 at h
 cases hi:P.info? t with
 |none=>rw[hi] at h;cases h
 |some i=>
  rw[hi] at h
  cases hz:i.zero with
  |none=>simp[hz] at h
  |some z=>
   simp only[dy,hz] at h;split at h
   ·rename_i hall;cases h;refine⟨z,by simp[zeroValue,typeInfo,hi,hz],gL,fun j x hx=> ?_⟩;rw[bE] at hx
    cases hv:z.cells.toList[j]? with
    |none=>rw[hv] at hx;cases hx
    |some v=>
     rw[hv] at hx;cases hx;exact⟨v,rfl,Fb _ _ _ _ _,az.1 hall v (de hv)⟩
   ·cases h
theorem adN{t:TypeId}{parts:List (Nat×V)}{pv:List (Nat×Value)}(hS:fC w σ S β)(hl:parts.length=pv.length)
 (hp:∀(j:Nat) (x:Nat×V),parts[j]? =some x->∃v,pv[j]? =some (x.1,v)/\dR w σ S β x.2 v):Does P (Instr.build t pv.toArray) w σ S β (Ju P t parts):=by
 unfold Ju;split
 ·rename_i fs zs ht hz;split
  ·rename_i cs hf;intro aqc
   have hinfo:∀f∈fs.toList,(P.info? f.type).isSome=true:=fun f hf=>by simpa using az.1 aqc f hf
   obtain⟨z,zI,hzc⟩:=yh (w:=w) (σ:=σ) (S:=S) (β:=β) hz;obtain⟨ca,adO,hcs⟩:=Py _ parts pv zs cs z.cells hf hzc hl hp;refine⟨.agg ca,w,σ,?_,.refl hS.live,ca,rfl,hcs⟩
   have hm:(fs.mapM fun(f:Field)=>do pure (f.offset,<-sizeOf f.type)).run P w=.ok (fs.map fun(f:Field)=>(f.offset,P.cellsOf f.type)) w:=by
    have h1:=Le (P:=P) (w:=w) (fun f:Field=>do pure (f.offset,<-sizeOf f.type)) (fun f=>(f.offset,P.cellsOf f.type)) fs.toList
     (fun f hf=>by simp[kY (hinfo f hf)])
    have h2:fs=fs.toList.toArray:=gL
    rw[h2,List.mapM_toArray];simp only[Sem.run_map,h1,Result.andThen_ok,List.map_toArray]
   simp only[Instr.build,Sem.run_bind,zI,Result.andThen_ok,run_underlying ht,hm]
   have hpl:(fun(i:Nat)=>(fs.map fun(f:Field)=>(f.offset,P.cellsOf f.type))[i]?)=fun(i:Nat)=>(fs[i]?).map fun(f:Field)=>(f.offset,P.cellsOf f.type):=by
    funext i;simp
   have:Instr.fill (fun i=>(fs.map fun(f:Field)=>(f.offset,P.cellsOf f.type))[i]?) z.cells pv.toArray.toList=some ca:=by rw[hpl];exact adO
   simp only[this];rfl
  ·exact Does.no
 ·rename_i len e zs ht hz;split
  ·rename_i cs hf;intro hinfo;obtain⟨z,zI,hzc⟩:=yh (w:=w) (σ:=σ) (S:=S) (β:=β) hz;obtain⟨ca,adO,hcs⟩:=Py _ parts pv zs cs z.cells hf hzc hl hp;refine⟨.agg ca,w,σ,?_,.refl hS.live,ca,rfl,hcs⟩;have aqd:Instr.fill (fun i=>some (i*P.cellsOf e,P.cellsOf e)) z.cells pv.toArray.toList=some ca:=adO;simp only[Instr.build,Sem.run_bind,zI,Result.andThen_ok,run_underlying ht,kY hinfo,aqd];rfl
  ·exact Does.no
 ·exact Does.no
theorem TV{xs:List C}{ds:List D}{vs:List Value}(h:xs.mapM QE=some ds)(hx:gN w σ S β xs vs):ds.length=vs.length/\∀(j:Nat)(d:D),ds[j]? =some d->∃v,vs[j]? =some v/\dO w σ d v:=by
 induction xs generalizing ds vs with
 |nil=>simp at h;subst h;exact⟨hx.1,fun j d hd=>by simp at hd⟩
 |cons x xs ih=>
  rw[ef] at h
  cases hd:QE x with
  |none=>rw[hd] at h;simp at h
  |some d=>
   cases hm:xs.mapM QE with
   |none=>rw[hd,hm] at h;simp at h
   |some ds'=>
    rw[hd,hm] at h;simp at h;subst h
    cases vs with
    |nil=>have:=hx.1;simp at this
    |cons v vs=>
     have hx':gN w σ S β xs vs:=⟨by have:=hx.1;simpa using this,fun j y hy=>hx.2 (j+1) y hy⟩;obtain⟨l,r⟩:=ih hm hx';refine⟨by simp[l],fun j e he=> ?_⟩
     cases j with
     |zero=>
      simp at he;subst he;obtain⟨u,hu,hr,_⟩:=hx.2 0 x rfl;simp at hu;subst hu;refine⟨v,rfl,?_⟩;cases x<;>simp only[QE] at hd<;>cases hd
      ·exact hr
      ·exact hr.1
      ·exact hr.1
      ·exact hr.1
     |succ j=>exact r j e he
theorem Va(size:Nat):∀(parts:List (Nat×V))(k:Nat)(es:List (List D))(pv:List (Nat×Value))(ca:Array Value),Am size parts k=some es->parts.length=pv.length->
 (∀(j:Nat) (x:Nat×V),parts[j]? =some x->∃v,pv[j]? =some (x.1,v)/\dR w σ S β x.2 v)->(k+es.length)*size<=ca.size->
 ∃vW,Instr.fill (fun i=>some (i*size,size)) ca pv=some vW/\vW.size=ca.size/\(∀e∈es,e.length=size)/\
  (∀j,j<k*size->vW[j]? =ca[j]?)/\∀(j:Nat) (d:D),es.flatten[j]? =some d->∃v,vW[k*size+j]? =some v/\dO w σ d v
 |[],k,es,pv,ca,h,hl,_,_=>by
  simp only[Am] at h;cases h
  cases pv with
  |cons=>simp at hl
  |nil=>exact⟨ca,rfl,rfl,gL,fun _ _=>rfl,fun j d hd=>by simp at hd⟩
 |(i,x)::parts,k,es,[],ca,h,hl,_,_=>by simp at hl
 |(i,x)::parts,k,es,(i',v)::pv,ca,h,hl,hp,hsz=>by
  obtain⟨v',hv,hr⟩:=hp 0 (i,x) rfl;simp at hv;obtain⟨rfl,rfl⟩:=hv;simp only[Am] at h;split at h
  ·rename_i hik;subst hik;split at h
   ·rename_i ds es' hds hes;split at h
    ·rename_i hlen;cases h
     cases hcx:zH x with
     |none=>rw[hcx] at hds;cases hds
     |some xs=>
      rw[hcx] at hds;have hx:=Bl hcx hr;obtain⟨l1,hD⟩:=TV hds hx;simp at l1
      have hsv:v.cells.size=size:=gA
      have axm:(i'+(es'.length+1))*size=i'*size+es'.length*size+size:=by
       rw[cS,cS];omega
      simp only[aa] at hsz;have hst:=U9 v (i'*size) ca gA;generalize auu:v.cells.zipIdx.foldl (fun cs (c,j)=>cs.setIfInBounds (i'*size+j) c) ca=ca1 at hst
      have hs1:ca1.size=ca.size:=by
       have:=congrArg List.length hst;simp at this;omega
      obtain⟨vW,hf,hs',hle,hlow,hrep⟩:=Va size parts (i'+1) es' pv ca1 hes (by simpa using hl) (fun j x hx=>hp (j+1) x hx) (by rw[hs1];rw[ec,eq 1];exact hsz)
      have hm1:(i'+1)*size=i'*size+size:=by rw[cS,Nat.one_mul]
      refine⟨vW,?_,hs'.trans hs1,?_,?_,?_⟩
      ·rw[Instr.fill]
       have hcc:(v.cells.size≠size||i'*size+v.cells.size>ca.size)=false:=gR
       simp only[hcc,cP,if_false];rw[<-hf,<-auu]
      ·intro e he;rcases cT.1 he with rfl|he
       ·exact hlen
       ·exact hle e he
      ·intro j hj;rw[hlow j gA,<-cm,hst,cf,aq gR,ck hj,cm]
      ·intro j d hd;rw[cF] at hd;by_cases hj:j<size
       ·rw[aq gA] at hd;obtain⟨u,hu,XV⟩:=hD j d hd;refine⟨u,?_,XV⟩;rw[hlow _ gA,<-cm,hst,aq gR,ag gR];rw[<-hu];congr 1;simp;omega
       ·rw[ag gA] at hd;obtain⟨u,hu,XV⟩:=hrep _ d hd;refine⟨u,?_,XV⟩;rw[<-hu];congr 1;omega
    ·cases h
   ·cases h
  ·cases h
theorem Ic{t e:TypeId}{n:Nat}{parts:List (Nat×V)}{pv:List (Nat×Value)}{es:List (List D)}(hl:parts.length=pv.length)
 (hp:∀(j:Nat) (x:Nat×V),parts[j]? =some x->∃v,pv[j]? =some (x.1,v)/\dR w σ S β x.2 v)(ht:P.underlying t=some (.slice e))(hes:Am (P.cellsOf e) parts 0=some es)
 (h1:es.length=n)(h2:n*P.cellsOf e<=16777216)(h3:(j5 P e).isSome=true):
 ∃ca:Array Value,(Instr.buildSlice t n pv.toArray).run P w=.ok (.slice (some ⟨w.heap.size,0,none⟩) n n) {w with heap:=w.heap.push (.cells ca e)}/\ca.size=es.length*P.cellsOf e/\(∀r∈es,r.length=P.cellsOf e)/\
  ∀(j:Nat)(d:D),es.flatten[j]? =some d->∃v,ca[j]? =some v/\dO w σ d v:=by
 obtain⟨zs,hzs⟩:=fl.1 h3;obtain⟨z,zI,hzc⟩:=yh (w:=w) (σ:=σ) (S:=S) (β:=β) hzs
 have hinfo:(P.info? e).isSome=true:=by
  unfold j5 at hzs
  cases hi:P.info? e with
  |none=>rw[hi] at hzs;cases hzs
  |some i=>rfl
 let zero:Array Value:=if n*P.cellsOf e=0 then #[] else z.cells
 let ca:Array Value:=(Array.range (n*P.cellsOf e)).map (zero[· % zero.size]!)
 have hcas:ca.size=n*P.cellsOf e:=by simp[ca]
 obtain⟨vW,hf,hs',hle,hlow,hrep⟩:=Va (w:=w) (σ:=σ) (S:=S) (β:=β) (P.cellsOf e) parts 0 es pv ca hes hl hp (by rw[hcas,h1];simp);refine⟨vW,?_,by rw[hs',hcas,<-h1],hle,fun j d hd=> ?_⟩
 ·have h2':¬(n*P.cellsOf e>2^24):=gA
  have hf':Instr.fill (fun i=>some (i*P.cellsOf e,P.cellsOf e)) ((Array.range (n*P.cellsOf e)).map fun x=>zero[x % zero.size]!) pv=some vW:=hf;simp only[Instr.buildSlice,Sem.run_bind,run_underlying ht,Result.andThen_ok,kY hinfo,if_neg h2'];by_cases h0:n*P.cellsOf e=0
  ·have hz:zero= #[]:=if_pos h0;rw[hz] at hf';simp only[if_pos h0,Sem.run_bind,Sem.run_pure,Result.andThen_ok,hf'];rfl
  ·have hz:zero=z.cells:=if_neg h0;rw[hz] at hf';simp only[if_neg h0,Sem.run_bind,zI,Sem.run_pure,Result.andThen_ok,hf'];rfl
 ·obtain⟨v,hv,hr⟩:=hrep j d hd;simp at hv;exact⟨v,hv,hr⟩
theorem Jw(lim:Nat){t e:TypeId}{n:Nat}{parts:List (Nat×V)}{pv:List (Nat×Value)}{es:List (List D)}(hS:fC w σ S β)(hl:parts.length=pv.length)
 (hp:∀(j:Nat) (x:Nat×V),parts[j]? =some x->∃v,pv[j]? =some (x.1,v)/\dR w σ S β x.2 v)(ht:P.underlying t=some (.slice e))(hes:Am (P.cellsOf e) parts 0=some es)
 (h1:es.length=n)(h2:n*P.cellsOf e<=16777216)(h3:(j5 P e).isSome=true)(hlim:n*P.cellsOf e<=lim):
 ∃v w' σ',(Instr.buildSlice t n pv.toArray).run P w=.ok v w'/\Grow w σ w' σ'/\(∃a n,v=.slice a n n)/\dO w' σ' (.sl es) v/\∀m,lim=n*P.cellsOf e+1+m->dO w' σ' (.ol m es) v:=by
 obtain⟨vW,hrun,hsz,hle,hrep⟩:=Ic (P:=P) hl hp ht hes h1 h2 h3
 let w':World:={w with heap:=w.heap.push (.cells vW e)}
 let σ':Nat->Nat:=fun b=>if b=w.heap.size then lim else σ b
 have hg:Grow w σ w' σ':=by
  refine⟨by simp[w'],rfl,rfl,fun b hb=> ?_,fun b=> ?_⟩
  ·have:b≠w.heap.size:=gA
   simp only[w',σ'];refine⟨?_,if_neg this⟩;rw[dj,if_neg this]
  ·simp only[w',σ',gl];by_cases hb:b=w.heap.size
   ·left;omega
   ·rw[if_neg hb];exact(hS.live b).imp (fun h=>gA) id
 have hb':w'.heap[w.heap.size]? =some (.cells vW e (0,0)):=by simp[w']
 have hcell:∀j,j<es.length*P.cellsOf e->vW[0+j]? =some (vW.getD j undef):=fun j hj=>by
  have:j<vW.size:=by rw[hsz];exact hj
  simp[Array.getD,this]
 have hval:∀(j:Nat)(d:D),es.flatten[j]? =some d->dO w' σ' d (vW.getD j undef):=fun j d hd=>by
  obtain⟨v,hv,hr⟩:=hrep j d hd;have hlt:=(bj.1 hv)
  have:vW.getD j undef=v:=by
   obtain⟨hlt,e⟩:=hlt;simp[Array.getD,hlt,e]
  rw[this];exact hr.mono hg.near
 refine⟨.slice (some ⟨w.heap.size,0,none⟩) n n,w',σ',hrun,hg,⟨_,_,rfl⟩,?_,fun m hm=> ?_⟩
 ·rw[<-h1]
  cases Ki:es with
  |nil=>exact .nil _ _
  |cons y ys=>
   rw[<-Ki];exact .sl w.heap.size 0 es.length (P.cellsOf e) es (fun j=>vW.getD j undef) vW e (0,0) (ax _) hle hb' (by simp[σ',h1];omega) hcell hval
 ·rw[<-h1]
  cases Ki:es with
  |nil=>exact .xO _ _ _
  |cons y ys=>
   rw[<-Ki];exact .ol m w.heap.size 0 es.length (P.cellsOf e) es (fun j=>vW.getD j undef) vW e (ax _) hle hb' (by simp[σ',hsz,h1];omega) (by rw[hsz];omega) hcell hval ⟨rfl,by rw[hsz];exact ax _⟩
theorem QJ{l:Option Nat}{t:TypeId}{n:Nat}{parts:List (Nat×V)}{pv:List (Nat×Value)}(hS:fC w σ S β)(hl:parts.length=pv.length)
 (hp:∀(j:Nat) (x:Nat×V),parts[j]? =some x->∃v,pv[j]? =some (x.1,v)/\dR w σ S β x.2 v):Does P (Instr.buildSlice t n pv.toArray) w σ S β (oo P l t n parts):=by
 unfold oo uY;split
 ·split
  ·rename_i e ht;split
   ·rename_i es hes;rintro⟨h1,h2,h3⟩;obtain⟨v,w',σ',k1,k2,k3,k4,_⟩:=Jw (n*P.cellsOf e) hS hl hp ht hes h1 h2 h3 (ax _);obtain⟨a,m,rfl⟩:=k3;exact⟨_,w',σ',k1,k2,⟨k4,_,_,rfl⟩,rfl⟩
   ·exact Does.no
  ·exact Does.no
 ·rename_i m;split
  ·rename_i p es hb;split at hb
   ·rename_i e ht;split at hb
    ·rename_i es' hes;cases hb;rintro⟨h1,h2,h3⟩;obtain⟨v,w',σ',k1,k2,k3,k4,k5⟩:=Jw (n*P.cellsOf e+1+m) hS hl hp ht hes h1 h2 h3 gA;obtain⟨a,m',rfl⟩:=k3;exact⟨_,w',σ',k1,k2,⟨k5 m rfl,_,_,rfl⟩,rfl⟩
    ·cases hb
   ·cases hb
  ·exact Does.no
end
section
variable {P:Program} {w:World} {σ:Nat->Nat} {S:Store} {β:Hs} {tm:List (Nat×V)} {a:Act}
theorem XW{α γ:Type}(f:α->γ)(xs:Array α):xs.map f=(xs.toList.map f).toArray:=by apply Array.ext';simp
theorem mU{m:Sem Value}{r:R}{e:Sem Next}(he:e=(do pure (.value (<-m))))(h:Does P m w σ S β r)(hr:r.1):
 ∃v w' σ',e.run P w=.ok (.value v) w'/\Grow w σ w' σ'/\dR w' σ' S β r.2 v:=by
 obtain⟨v,w',σ',hrun,hg,hv⟩:=h hr;exact⟨v,w',σ',by rw[he];simp[hrun],hg,hv⟩
theorem TW(hT:Kc w σ S β tm a)(x:Option Operand):TU w σ S β (x.map (ev tm)) (x.map a.eval):=by
 cases x with
 |none=>trivial
 |some x=>exact lK hT x
theorem OO(l:Option Nat)(o:Oper)(hS:fC w σ S β)(hT:Kc w σ S β tm a)(h:(qy P l S tm o.op).1):
 ∃v w' σ',(execOp a.eval o).run P w=.ok (.value v) w'/\Grow w σ w' σ'/\dR w' σ' S β (qy P l S tm o.op).2 v:=by
 have hev:=fun x=>lK hT x;obtain⟨dst,op,ty,pos,after,guard⟩:=o;simp only at h ⊢;unfold qy at h ⊢
 split at h<;>try(simp only[] at h ⊢)
 ·exact⟨_,w,σ,rfl,.refl hS.live,hev _⟩
 ·exact⟨_,w,σ,rfl,.refl hS.live,hev _⟩
 ·rename_i c x y;unfold NN at h ⊢;split at h
  ·rename_i b hb;have hc:=hev c;rw[hb] at hc;obtain⟨hc1,_⟩:=hc;cases hc':a.eval c<;>rw[hc'] at hc1<;>cases hc1;refine⟨if b then a.eval x else a.eval y,w,σ,?_,.refl hS.live,?_⟩
   ·simp[execOp,hc',asBool]
   ·cases b
    ·exact hev y
    ·exact hev x
  ·exact h.elim
 ·exact mU rfl (agy hS (hev _)) h
 ·exact mU rfl (TR hS (hev _)) h
 ·exact mU rfl (adH hS (hev _)) h
 ·exact mU rfl (TS hS (hev _) (hev _)) h
 ·exact mU rfl (adJ hS (hev _) (hev _)) h
 ·exact mU rfl (ajM hS (hev _) (hev _)) h
 ·exact mU rfl (an3 hS (hev _)) h
 ·exact mU rfl (agB hS (hev _)) h
 ·exact mU rfl (XP hS (hev _)) h
 ·rename_i fn first caps
  have hm:=WI (P:=P) (fn:=fn) (first:=first.toList.map (ev tm)) (caps:=caps.toList.map (ev tm)) (fv:=first.toList.map a.eval) (cv:=caps.toList.map a.eval) hS gL gL
   (fun j x hx=>by
     rw[bE] at hx ⊢
     cases hc:caps.toList[j]? with
     |none=>rw[hc] at hx;cases hx
     |some y=>rw[hc] at hx;cases hx;exact⟨_,rfl,hev y⟩)
  refine mU ?_ hm h;simp[execOp];rw[XW,XW]
 ·rename_i x;unfold Al at h ⊢;split at h
  ·rename_i k off hx;split at h
   ·rename_i cs hk;have hc:=hev x;rw[hx] at hc;obtain⟨⟨o,ho,h2⟩,h3⟩:=hc;rw[hk] at ho;cases ho;obtain⟨b,hb,hv⟩:=h2 cs rfl;refine⟨_,w,σ,?_,.refl hS.live,⟨_,hk,fun cs' e=>⟨b,hb,rfl⟩⟩,rfl⟩;simp[execOp,hv]
   ·exact h.elim
  ·rename_i cs hx;have hc:=hev x;rw[hx] at hc;obtain⟨⟨ad,hv,hp⟩,h3⟩:=hc;refine⟨_,w,σ,?_,.refl hS.live,⟨ad,rfl,hp⟩,rfl⟩;simp[execOp,hv]
  ·exact h.elim
 ·rename_i t x lo hi mx;exact mU rfl (adM hS (hev _) (TW hT lo) (TW hT hi) (TW hT mx)) h
 ·rename_i t parts
  have hm:=adN (P:=P) (t:=t) (parts:=parts.toList.map fun x=>(x.1,ev tm x.2)) (pv:=parts.toList.map fun x=>(x.1,a.eval x.2)) hS gL
   (fun j x hx=>by
     rw[bE] at hx ⊢
     cases hc:parts.toList[j]? with
     |none=>rw[hc] at hx;cases hx
     |some y=>rw[hc] at hx;cases hx;exact⟨_,rfl,hev y.2⟩)
  refine mU ?_ hm h;simp[execOp];rw[XW]
 ·rename_i t n parts
  have hm:=QJ (P:=P) (l:=l) (t:=t) (n:=n) (parts:=parts.toList.map fun x=>(x.1,ev tm x.2)) (pv:=parts.toList.map fun x=>(x.1,a.eval x.2)) hS gL
   (fun j x hx=>by
     rw[bE] at hx ⊢
     cases hc:parts.toList[j]? with
     |none=>rw[hc] at hx;cases hx
     |some y=>rw[hc] at hx;cases hx;exact⟨_,rfl,hev y.2⟩)
  refine mU ?_ hm h;simp[execOp];rw[XW]
 ·exact mU rfl (aaS hS (hev _) (hev _)) h
 ·rename_i args argTypes;split at h
  ·rename_i x t hx ht
   obtain rfl:args= #[x]:=by rw[<-cH (xs:=args),hx]
   obtain rfl:argTypes= #[t]:=by rw[<-cH (xs:=argTypes),ht]
   obtain⟨v,w',σ',hrun,hg,hv⟩:=XU (P:=P) (t:=t) (ty:=ty) hS (hev x) h;refine⟨v,w',σ',?_,hg,hv⟩;simp[execOp,resolve,invoke,builtin,hrun]
  ·exact h.elim
 ·rename_i args argTypes;split at h
  ·rename_i x y hx
   obtain rfl:args= #[x,y]:=by rw[<-cH (xs:=args),hx]
   obtain⟨v,w',σ',hrun,hg,hv⟩:=XR (P:=P) (ts:=argTypes) (ty:=ty) hS (hev x) (hev y) h;refine⟨v,w',σ',?_,hg,hv⟩;simp[execOp,resolve,invoke,builtin,hrun]
  ·exact h.elim
 ·rename_i args argTypes;split at h
  ·rename_i x y hx
   obtain rfl:args= #[x,y]:=by rw[<-cH (xs:=args),hx]
   obtain⟨v,w',σ',hrun,hg,hv⟩:=XT (P:=P) (ts:=argTypes) (ty:=ty) hS (hev x) (hev y) h;refine⟨v,w',σ',?_,hg,hv⟩;simp[execOp,resolve,invoke,builtin,hrun]
  ·exact h.elim
 ·exact h.elim
theorem QK(o:Oper)(hS:fC w σ S β)(hT:Kc w σ S β tm a)(h:(nval P S tm o.op).1):
 ∃v w' σ',(execOp a.eval o).run P w=.ok (.value v) w'/\Grow w σ w' σ'/\dR w' σ' S β (nval P S tm o.op).2 v:=OO (tH S) o hS hT h
end
section
variable {P:Program} {w w':World} {σ σ':Nat->Nat} {S:Store} {β:Hs}
theorem lD{α:Type}(fr:List α)(S:List (List α))(x:α)(k:Key)(y:α)(h:bC (fr::S) k=some y):bC ((fr++[x])::S) k=some y:=by
 obtain⟨l,j⟩:=k
 cases l with
 |zero=>
  rw[bM] at h ⊢;rw[aq (ap.1 h).1];exact h
 |succ l=>rw[dG] at h ⊢;exact h
theorem nI{α:Type}(fr:List α)(S:List (List α))(x:α)(k:Key)(y:α)(h:bC ((fr++[x])::S) k=some y):
 bC (fr::S) k=some y\/(k=(0,fr.length)/\y=x):=by
 obtain⟨l,j⟩:=k
 cases l with
 |zero=>
  rw[bM] at h ⊢;by_cases hj:j<fr.length
  ·left;rw[aq hj] at h;exact h
  ·right;have hlt:=(ap.1 h).1;simp at hlt
   have hj':j=fr.length:=gA
   subst hj';rw[ag (ax _)] at h;simp at h;exact⟨rfl,h.symm⟩
 |succ l=>left;rw[dG] at h ⊢;exact h
theorem dw{α:Type}(fr:List α)(S:List (List α))(x:α):bC ((fr++[x])::S) (0,fr.length)=some x:=by rw[bM];simp
theorem fC.push{own:List Obj}{Ω:Store}{bo:List Value}{bΩ:Hs}{o:Obj}{h:Value}(hS:fC w σ (own::Ω) (bo::bΩ))(hg:Grow w σ w' σ')
 (hlen:bo.length=own.length)
 (ho:iI w' σ' ((own++[o])::Ω) ((bo++[h])::bΩ) o h)(hb:∀b,owns o h b->w.heap.size<=b):
 fC w' σ' ((own++[o])::Ω) ((bo++[h])::bΩ)/\Keep (own::Ω) (bo::bΩ) ((own++[o])::Ω) ((bo++[h])::bΩ)/\Step (own::Ω) (bo::bΩ) σ w ((own++[o])::Ω) ((bo++[h])::bΩ) σ' w':=by
 have hkeep:Keep (own::Ω) (bo::bΩ) ((own++[o])::Ω) ((bo++[h])::bΩ):=by
  intro k o1 h1;obtain⟨h2,zx,_⟩:=hS.obj k o1 h1;exact⟨o1,lD _ _ _ _ _ h1,by rw[lD _ _ _ _ _ zx,zx];exact .refl _ _⟩
 have hinv:∀k o1 h1,bC ((own++[o])::Ω) k=some o1->bC ((bo++[h])::bΩ) k=some h1->
  (bC (own::Ω) k=some o1/\bC (bo::bΩ) k=some h1)\/(k=(0,own.length)/\o1=o/\h1=h):=by
  intro k o1 h1 e1 e2;rcases nI _ _ _ _ _ e1 with e1|⟨rfl,rfl⟩
  ·left;refine⟨e1,?_⟩;rcases nI _ _ _ _ _ e2 with e2|⟨rfl,rfl⟩
   ·exact e2
   ·rw[bM,hlen] at e1;have:=(ap.1 e1).1;omega
  ·right;rw[<-hlen,dw] at e2;exact⟨rfl,rfl,(cL e2).symm⟩
 refine⟨⟨?_,?_,⟨?_,?_⟩,hg.live,hS.vH.near hg.near⟩,hkeep,⟨hg.size,hg.os,hg.output,fun b hb _=>hg.old b hb,hg.near,?_⟩⟩
 ·intro k o1 h1;rcases nI _ _ _ _ _ h1 with h1|⟨rfl,rfl⟩
  ·obtain⟨h2,zx,hr⟩:=hS.obj k o1 h1;exact⟨h2,lD _ _ _ _ _ zx,hr.mono hg.near (hkeep.drop _) fun b hb=>hg.old b (Ka hr hb)⟩
  ·exact⟨h,by rw[<-hlen,dw],ho⟩
 ·intro k k' o1 o2 h1 h2 b e1 e2 e3 e4 e5 e6;rcases hinv k o1 h1 e1 e2 with⟨f1,f2⟩|⟨rfl,rfl,rfl⟩
  ·rcases hinv k' o2 h2 e4 e5 with⟨g1,g2⟩|⟨rfl,rfl,rfl⟩
   ·exact hS.apart _ _ _ _ _ _ _ f1 f2 e3 g1 g2 e6
   ·have:=hS.Jp ⟨k,o1,h1,f1,f2,e3⟩;have:=hb b e6;omega
  ·rcases hinv k' o2 h2 e4 e5 with⟨g1,g2⟩|⟨rfl,rfl,rfl⟩
   ·have:=hS.Jp ⟨k',o2,h2,g1,g2,e6⟩;have:=hb b e3;omega
   ·rfl
 ·have:=hS.shape.1;simpa using this
 ·intro l fr hl
  cases l with
  |zero=>
   simp at hl;exact⟨_,rfl,by rw[<-hl];simp[hlen]⟩
  |succ l=>exact hS.shape.2 (l+1) fr hl
 ·rintro b ⟨k,o1,h1,e1,e2,e3⟩;rcases hinv k o1 h1 e1 e2 with⟨f1,f2⟩|⟨rfl,rfl,rfl⟩
  ·exact .inl ⟨k,o1,h1,f1,f2,e3⟩
  ·exact .inr (hb b e3)
theorem IY{α:Type}(x:α):∀(S:List (List α))(k:Key),(bA S k x).length=S.length
 |[],_=>rfl
 |fr::S,(0,j)=>rfl
 |fr::S,(l+1,j)=>by rw[bA,aa,IY x S (l,j)];rfl
theorem QL{α:Type}(x:α):∀(S:List (List α))(k:Key)(l:Nat)(fr:List α),(bA S k x)[l]? =some fr->∃fr',S[l]? =some fr'/\fr'.length=fr.length
 |[],_,_,_,h=>by simp[bA] at h
 |Ie::S,(0,j),0,fr,h=>by simp[bA] at h;exact⟨Ie,rfl,by rw[<-h];simp⟩
 |Ie::S,(0,j),l+1,fr,h=>by rw[bA] at h;exact⟨fr,h,rfl⟩
 |Ie::S,(k+1,j),0,fr,h=>by simp[bA] at h;exact⟨Ie,rfl,by rw[<-h]⟩
 |Ie::S,(k+1,j),l+1,fr,h=>by
  rw[bA] at h;obtain⟨fr',h1,h2⟩:=QL x S (k,j) l fr h;exact⟨fr',h1,h2⟩
theorem OP{α:Type}(x:α):∀(S:List (List α))(k:Key)(l:Nat)(fr:List α),S[l]? =some fr->∃fr',(bA S k x)[l]? =some fr'/\fr'.length=fr.length
 |[],_,_,_,h=>by simp at h
 |Ie::S,(0,j),0,fr,h=>by simp at h;subst h;exact⟨_,rfl,gL⟩
 |Ie::S,(0,j),l+1,fr,h=>by rw[bA];exact⟨fr,h,rfl⟩
 |Ie::S,(k+1,j),0,fr,h=>by simp at h;subst h;exact⟨_,rfl,rfl⟩
 |Ie::S,(k+1,j),l+1,fr,h=>by
  rw[bA];exact OP x S (k,j) l fr h
theorem fC.set{k:Key}{o o':Obj}{h h':Value}(hS:fC w σ S β)(hk:bC S k=some o)(hh:bC β k=some h)
 (hsz:w.heap.size<=w'.heap.size)(hos:w'.os=w.os)(hout:w'.output=w.output)(hn:eH w σ w' σ')(hl:∀b,b<w'.heap.size\/σ' b=0)
 (vJ:∀b,b<w.heap.size->¬owns o h b->w'.heap[b]? =w.heap[b]? /\σ' b=σ b)(hkeep:nZ o (some h) o' (some h'))
 (IZ:iI w' σ' ((bA S k o').drop k.1) ((bA β k h').drop k.1) o' h')(hb:∀b,owns o' h' b->owns o h b\/w.heap.size<=b):
 fC w' σ' (bA S k o') (bA β k h')/\Keep S β (bA S k o') (bA β k h')/\Step S β σ w (bA S k o') (bA β k h') σ' w':=by
 have hk':=dA o' S k o hk;have hh':=dA h' β k h hh;have hne:∀k1,k1≠k->bC (bA S k o') k1=bC S k1/\bC (bA β k h') k1=bC β k1:=fun k1 e=>⟨fV _ _ _ _ (Ne.symm e),fV _ _ _ _ (Ne.symm e)⟩
 have hK:Keep S β (bA S k o') (bA β k h'):=by
  intro k1 o1 h1;by_cases e:k1=k
  ·subst e;rw[hk] at h1;cases h1;exact⟨o',hk',by rw[hh,hh'];exact hkeep⟩
  ·obtain⟨e1,e2⟩:=hne k1 e;exact⟨o1,e1.trans h1,by rw[e2];exact .refl _ _⟩
 have hother:∀k1 o1 h1 b,k1≠k->bC S k1=some o1->bC β k1=some h1->owns o1 h1 b->¬owns o h b:=by
  intro k1 o1 h1 b e e1 e2 e3 e4;exact e (hS.apart _ _ _ _ _ _ _ e1 e2 e3 hk hh e4)
 refine⟨⟨?_,?_,⟨?_,?_⟩,hl,hS.vH.near hn⟩,hK,⟨hsz,hos,hout,?_,hn,?_⟩⟩
 ·intro k1 o1 e1;by_cases e:k1=k
  ·subst e;rw[hk'] at e1;cases e1;exact⟨h',hh',IZ⟩
  ·obtain⟨f1,f2⟩:=hne k1 e;rw[f1] at e1;obtain⟨h1,e2,hr⟩:=hS.obj k1 o1 e1;exact⟨h1,f2.trans e2,hr.mono hn (hK.drop _) fun b e3=>vJ b (Ka hr e3) (hother k1 o1 h1 b e e1 e2 e3)⟩
 ·intro k1 k2 o1 o2 h1 h2 b e1 e2 e3 e4 e5 e6;by_cases c1:k1=k
  ·by_cases c2:k2=k
   ·rw[c1,c2]
   ·subst c1;rw[hk'] at e1;cases e1;rw[hh'] at e2;cases e2;obtain⟨f1,f2⟩:=hne k2 c2;rw[f1] at e4;rw[f2] at e5;rcases hb b e3 with e|e
    ·exact absurd e (hother k2 o2 h2 b c2 e4 e5 e6)
    ·have:=hS.Jp ⟨k2,o2,h2,e4,e5,e6⟩;omega
  ·obtain⟨f1,f2⟩:=hne k1 c1;rw[f1] at e1;rw[f2] at e2;by_cases c2:k2=k
   ·subst c2;rw[hk'] at e4;cases e4;rw[hh'] at e5;cases e5;rcases hb b e6 with e|e
    ·exact absurd e (hother k1 o1 h1 b c1 e1 e2 e3)
    ·have:=hS.Jp ⟨k1,o1,h1,e1,e2,e3⟩;omega
   ·obtain⟨g1,g2⟩:=hne k2 c2;rw[g1] at e4;rw[g2] at e5;exact hS.apart _ _ _ _ _ _ _ e1 e2 e3 e4 e5 e6
 ·rw[IY,IY];exact hS.shape.1
 ·intro l fr hl;obtain⟨fr',h1,h2⟩:=QL _ _ _ _ _ hl;obtain⟨gr,h3,h4⟩:=hS.shape.2 l fr' h1;obtain⟨gr',h5,h6⟩:=OP h' β k l gr h3;exact⟨gr',h5,gA⟩
 ·intro b hb1 hb2;exact vJ b hb1 (fun e=>hb2 ⟨k,o,h,hk,hh,e⟩)
 ·rintro b ⟨k1,o1,h1,e1,e2,e3⟩;by_cases e:k1=k
  ·subst e;rw[hk'] at e1;cases e1;rw[hh'] at e2;cases e2;exact(hb b e3).imp (fun e=>⟨_,_,_,hk,hh,e⟩) id
  ·obtain⟨f1,f2⟩:=hne k1 e;rw[f1] at e1;rw[f2] at e2;exact .inl ⟨k1,o1,h1,e1,e2,e3⟩
theorem Ao{α:Type}(x:α):∀(S:List (List α))(k:Key)(y:α),bC S k=some y->bA S k y=S
 |[],_,_,_=>rfl
 |fr::S,(0,j),y,h=>by
  rw[bM] at h;rw[bA];congr 1;have:=ap.1 h;obtain⟨h1,h2⟩:=this
  rw[<-h2];simp
 |fr::S,(l+1,j),y,h=>by
  rw[dG] at h;rw[bA,Ao x S (l,j) y h]
end
structure St where
 tm:List (Nat×V)
 st:Store
def St.put(s:St)(dst:Option Nat)(v:V):St:=
 match dst with
 |some d=>⟨(d,v)::s.tm,s.st⟩
 |none=>s
def C.down(n:Nat):C->Option C
 | .d x=>some (.d x)
 | .any=>some .any
 | .bH es=>some (.bH es)
 | .om cs=>some (.om cs)
 | .bJ k es=>if n<=k.1 then some (.bJ (k.1-n,k.2) es) else none
 | .ptr k off=>if n<=k.1 then some (.ptr (k.1-n,k.2) off) else none
 | .nM k i off=>if n<=k.1 then some (.nM (k.1-n,k.2) i off) else none
 | .jO k=>if n<=k.1 then some (.jO (k.1-n,k.2)) else none
 | .mp k=>if n<=k.1 then some (.mp (k.1-n,k.2)) else none
 | .fn f caps=>if n=0 then some (.fn f caps) else none
 | .mE m es=>some (.mE m es)
 | .xp k r p=>if n<=k.1 then some (.xp (k.1-n,k.2) r p) else none
 | .xq k r p z i off=>if n<=k.1 then some (.xq (k.1-n,k.2) r p z i off) else none
section
variable {P:Program} {w w':World} {σ σ':Nat->Nat} {S:Store} {β:Hs}
theorem ow{n:Nat}{k:Key}(h:n<=k.1):EN n (k.1-n,k.2)=k:=by
 obtain⟨l,j⟩:=k;show(n+(l-n),j)=(l,j);rw[Nat.add_sub_cancel' h]
theorem XY{n:Nat}{c c':C}{v:Value}(h:c.down n=some c')(hc:jc w σ S β c v):jc w σ (S.drop n) (β.drop n) c' v:=by
 cases c with
 |d x=>cases h;exact hc
 |any=>cases h;exact trivial
 |bH es=>cases h;exact hc
 |om cs=>cases h;exact hc
 |bJ k es=>
  simp only[C.down] at h;split at h
  ·rename_i hn;cases h;obtain⟨h1,o,ho,h2⟩:=hc;exact⟨h1,o,by rw[fF,ow hn];exact ho,fun a b e=>by rw[fF,ow hn];exact h2 a b e⟩
  ·cases h
 |ptr k off=>
  simp only[C.down] at h;split at h
  ·rename_i hn;cases h;obtain⟨o,ho,h2⟩:=hc;exact⟨o,by rw[fF,ow hn];exact ho,fun a e=>by simp only[fF,ow hn];exact h2 a e⟩
  ·cases h
 |nM k i off=>
  simp only[C.down] at h;split at h
  ·rename_i hn;cases h;obtain⟨o,ho,h2⟩:=hc;exact⟨o,by rw[fF,ow hn];exact ho,fun a b e=>by simp only[fF,ow hn];exact h2 a b e⟩
  ·cases h
 |jO k=>
  simp only[C.down] at h;split at h
  ·rename_i hn;cases h;obtain⟨o,ho,h2⟩:=hc;exact⟨o,by rw[fF,ow hn];exact ho,fun a b e=>by rw[fF,ow hn];exact h2 a b e⟩
  ·cases h
 |mp k=>
  simp only[C.down] at h;split at h
  ·rename_i hn;cases h;obtain⟨o,ho,h2⟩:=hc;exact⟨o,by rw[fF,ow hn];exact ho,fun a e=>by rw[fF,ow hn];exact h2 a e⟩
  ·cases h
 |fn f caps=>
  simp only[C.down] at h;split at h
  ·rename_i hn;cases h;subst hn;simpa using hc
  ·cases h
 |mE m es=>cases h;exact hc
 |xp k r p=>
  simp only[C.down] at h;split at h
  ·rename_i hn;cases h;obtain⟨o,ho,h2⟩:=hc;exact⟨o,by rw[fF,ow hn];exact ho,fun a e=>by rw[fF,ow hn];exact h2 a e⟩
  ·cases h
 |xq k r p z i off=>
  simp only[C.down] at h;split at h
  ·rename_i hn;cases h;obtain⟨o,ho,h2⟩:=hc;exact⟨o,by rw[fF,ow hn];exact ho,fun a e=>by rw[fF,ow hn];exact h2 a e⟩
  ·cases h
theorem agC{n:Nat}{xs ys:List C}{vs:List Value}(h:xs.mapM (C.down n)=some ys)(hc:gN w σ S β xs vs):gN w σ (S.drop n) (β.drop n) ys vs:=by
 induction xs generalizing ys vs with
 |nil=>simp at h;subst h;exact⟨hc.1,fun j d hd=>by simp at hd⟩
 |cons x xs ih=>
  rw[ef] at h
  cases hd:C.down n x with
  |none=>rw[hd] at h;simp at h
  |some y=>
   cases hm:xs.mapM (C.down n) with
   |none=>rw[hd,hm] at h;simp at h
   |some ys'=>
    rw[hd,hm] at h;simp at h;subst h
    cases vs with
    |nil=>have:=hc.1;simp at this
    |cons v vs=>
     obtain⟨l,r⟩:=ih hm (vs:=vs) ⟨by have:=hc.1;simpa using this,fun j y hy=>hc.2 (j+1) y hy⟩;refine⟨by simp[l],fun j e he=> ?_⟩
     cases j with
     |zero=>
      simp at he;subst he;obtain⟨u,hu,hr,ho⟩:=hc.2 0 x rfl;simp at hu;subst hu;exact⟨v,rfl,XY hd hr,ho⟩
     |succ j=>exact r j e he
theorem Fg(w:World)(σ:Nat->Nat)(hl:∀b,b<w.heap.size\/σ b=0)(c:Array Value)(t:TypeId)(n:Nat):
 Grow w σ {w with heap:=w.heap.push (.cells c t)} (fun b=>if b=w.heap.size then n else σ b):=by
 refine⟨gL,rfl,rfl,fun b hb=> ?_,fun b=> ?_⟩
 ·have:b≠w.heap.size:=gA
  refine⟨?_,if_neg this⟩
  simp only
  rw[dj,if_neg this]
 ·simp only[gl];by_cases hb:b=w.heap.size
  ·left;omega
  ·rw[if_neg hb];exact(hl b).imp (fun h=>gA) id
theorem an4{own:List Obj}{Ω:Store}{bo:List Value}{bΩ:Hs}{cs:List C}{v:Value}{t:TypeId}(hS:fC w σ (own::Ω) (bo::bΩ))(hlen:bo.length=own.length)
 (hc:gN w σ (own::Ω) (bo::bΩ) cs v.cells.toList):
 ∃w' σ' h,(newVar t v).run P w=.ok ⟨w.heap.size,0,none⟩ w'/\h=Value.pointer (some ⟨w.heap.size,0,none⟩)/\
  fC w' σ' ((own++[.box cs])::Ω) ((bo++[h])::bΩ)/\Keep (own::Ω) (bo::bΩ) ((own++[.box cs])::Ω) ((bo++[h])::bΩ)/\Step (own::Ω) (bo::bΩ) σ w ((own++[.box cs])::Ω) ((bo++[h])::bΩ) σ' w':=by
 have hg:=Fg w σ hS.live v.cells t 0;refine⟨{w with heap:=w.heap.push (.cells v.cells t)},fun b=>if b=w.heap.size then 0 else σ b,_,rfl,rfl,?_⟩;refine hS.push hg hlen ⟨w.heap.size,v.cells,t,rfl,gL,gL,?_⟩ (fun b hb=>by cases hb;exact ax _);refine hc.mono hg.near ?_;intro k o1 h1;obtain⟨h2,zx,_⟩:=hS.obj k o1 h1;exact⟨o1,lD _ _ _ _ _ h1,by rw[lD _ _ _ _ _ zx,zx];exact .refl _ _⟩
theorem acA{own:List Obj}{Ω:Store}{bo:List Value}{bΩ:Hs}{cs:List C}{b:Nat}(hlen:bo.length=own.length):
 dR w σ ((own++[.box cs])::Ω) ((bo++[Value.pointer (some ⟨b,0,none⟩)])::bΩ) (.c (.ptr (0,own.length) 0)) (.pointer (some ⟨b,0,none⟩)):=
 ⟨⟨_,dw _ _ _,fun cs' _=>⟨b,by rw[<-hlen,dw],rfl⟩⟩,rfl⟩
theorem gW(w:World)(g:Nat)(c:Array Value)(b:Nat)(h:b≠g):(w.setRow g c).heap[b]? =w.heap[b]? :=by
 simp only[World.setRow,db];rw[if_neg (Ne.symm h)]
theorem setRow_size(w:World)(g:Nat)(c:Array Value):(w.setRow g c).heap.size=w.heap.size:=by simp[World.setRow]
theorem Ga{t:TypeId}{b off:Nat}{v:Value}{c:Array Value}{ty:TypeId}(hi:(P.info? t).isSome=true)(hsz:v.cells.size=P.cellsOf t)
 (hb:w.heap[b]? =some (.cells c ty (0,0)))(hle:off+v.cells.size<=c.size)(hone:∀x∈v.cells.toList,x.oneCell'=true):
 (Instr.storeAt t (.pointer (some ⟨b,off,none⟩)) v).run P w=.ok () (w.setRow b (c.toList.take off++v.cells.toList++c.toList.drop (off+v.cells.size)).toArray):=by
 have h:=run_storeCells_at (P:=P) b off ty v.cells.toList 0 c w hb (by simpa using hle) hone;simp only[cR,cp] at h;simp only[Instr.storeAt,Instr.sureAddr,storeVar,Sem.run_bind,Sem.run_pure,Result.andThen_ok,kY hi,hsz,ne_eq,not_true_eq_false,if_false,h]
theorem agD{k:Key}{off:Nat}{t:TypeId}{cs xs:List C}{av xv:Value}(hS:fC w σ S β)(ha:dR w σ S β (.c (.ptr k off)) av)(hk:bC S k=some (.box cs))
 (hx:gN w σ (S.drop k.1) (β.drop k.1) xs xv.cells.toList)(h1:xs.length=P.cellsOf t)(h2:off+xs.length<=cs.length)(h3:(P.info? t).isSome=true):
 ∃w' σ' h,(Instr.storeAt t av xv).run P w=.ok () w'/\bC β k=some h/\
  fC w' σ' (bA S k (.box (splice cs off xs))) (bA β k h)/\Keep S β (bA S k (.box (splice cs off xs))) (bA β k h)/\Step S β σ w (bA S k (.box (splice cs off xs))) (bA β k h) σ' w':=by
 obtain⟨⟨o,ho,hp⟩,_⟩:=ha;rw[hk] at ho;cases ho;obtain⟨b,hb,rfl⟩:=hp cs rfl;obtain⟨h,hh,hr⟩:=hS.obj k _ hk;rw[hb] at hh;cases hh;obtain⟨b',c,ty,e,hbc,hσ,hcs⟩:=hr;cases e;have l1:=hcs.1;have l2:=hx.1;simp at l1 l2
 have hrun:=Ga (P:=P) (off:=off) (v:=xv) h3 gA hbc gA (fun x hx'=>by
  obtain⟨j,hj⟩:=em hx';obtain⟨hjl,_⟩:=ap.1 hj;obtain⟨v,hv,_,ho⟩:=hx.2 j (xs[j]'(by rw[l2];simpa using hjl)) (am _)
  rw[hj] at hv;cases hv;exact ho)
 generalize hc2:(c.toList.take off++xv.cells.toList++c.toList.drop (off+xv.cells.size)).toArray=c2 at hrun
 have Gb:c2.size=c.size:=by rw[<-hc2];simp;omega
 have hheap:(w.setRow b c2).heap[b]? =some (.cells c2 ty (0,0)):=setRow_heap w b c c2 ty (0,0) hbc;have hlt:b<w.heap.size:=lt_of_some hbc
 have hn:eH w σ (w.setRow b c2) σ:=by
  intro b1 c1 t1 DJ e1;refine⟨ax _,fun _=>rfl,?_⟩;by_cases hb1:b1=b
  ·subst hb1;rw[hbc] at e1;cases e1;exact⟨c2,hheap,Gb,fun i hi=>by rw[hσ] at hi;omega⟩
  ·exact⟨c1,(gW w b c2 b1 hb1).trans e1,rfl,fun _ _=>rfl⟩
 have QM:nZ (.box cs) (some (Value.pointer (some ⟨b,0,none⟩))) (.box (splice cs off xs)) (some (Value.pointer (some ⟨b,0,none⟩))):=.inr ⟨⟨_,rfl⟩,rfl⟩
 have ank:Keep S β (bA S k (.box (splice cs off xs))) (bA β k (Value.pointer (some ⟨b,0,none⟩))):=by
  intro k1 o1 e1;by_cases e:k1=k
  ·subst e;rw[hk] at e1;cases e1;exact⟨_,dA _ S k1 _ hk,by rw[hb,dA _ β k1 _ hb];exact QM⟩
  ·exact⟨o1,(fV _ _ _ _ (Ne.symm e)).trans e1,by rw[fV _ _ _ _ (Ne.symm e)];exact .refl _ _⟩
 refine⟨w.setRow b c2,σ,_,hrun,hb,?_⟩;refine hS.set hk hb (Nat.le_of_eq (setRow_size _ _ _).symm) rfl rfl hn (fun x=>by rw[setRow_size];exact hS.live x) (fun b1 hb1 hne=>⟨gW _ _ _ _ (fun e=>hne (by rw[e];rfl)),rfl⟩) QM ?_ (fun b1 e=>.inl e);refine⟨b,c2,ty,rfl,hheap,hσ,?_⟩;have hsp:=QI (off:=off) (hcs.mono hn (ank.drop k.1)) (hx.mono hn (ank.drop k.1)) gA
 have e2:c2.toList=c.toList.take off++xv.cells.toList++c.toList.drop (off+xv.cells.toList.length):=by rw[<-hc2];simp
 rw[e2];exact hsp
def Cr(cells:List D)(off:Nat)(xs:List D):List D:=cells.take off++xs++cells.drop (off+xs.length)
theorem X0{α:Type}:∀(es:List (List α))(bB:Nat)(i:Nat)(e:List α),(∀x∈es,x.length=bB)->e.length=bB->i<es.length->
 (es.set i e).flatten=es.flatten.take (i*bB)++e++es.flatten.drop (i*bB+bB)
 |[],_,_,_,_,_,h=>by simp at h
 |x::es,bB,0,e,h,he,_=>by
  have hx:x.length=bB:=h x gL;simp[<-hx]
 |x::es,bB,i+1,e,h,he,hi=>by
  have hx:x.length=bB:=h x gL;rw[List.set_cons_succ,cF,cF,X0 es bB i e (fun y hy=>h y (by simp[hy])) he (by simpa using hi)]
  have e1:(i+1)*bB=x.length+i*bB:=by rw[cS,hx];omega
  have e2:(i+1)*bB+bB=x.length+(i*bB+bB):=gA
  rw[e2,e1,List.take_length_add_append,List.drop_length_add_append]
  simp
theorem agE{k:Key}{i off bB:Nat}{t:TypeId}{es:List (List D)}{ds:List D}{av xv:Value}(hS:fC w σ S β)(ha:dR w σ S β (.c (.nM k i off)) av)(hk:bC S k=some (.fM bB es))
 (hx:ds.length=xv.cells.size/\∀(j:Nat) (d:D),ds[j]? =some d->∃v,xv.cells.toList[j]? =some v/\dO w σ d v)(h1:ds.length=P.cellsOf t)(h2:off+ds.length<=bB)(hi:i<es.length)(h3:(P.info? t).isSome=true):
 ∃w' σ' h,(Instr.storeAt t av xv).run P w=.ok () w'/\bC β k=some h/\
  fC w' σ' (bA S k (.fM bB (es.set i (Cr (es.getD i []) off ds)))) (bA β k h)/\Keep S β (bA S k (.fM bB (es.set i (Cr (es.getD i []) off ds)))) (bA β k h)/\
  Step S β σ w (bA S k (.fM bB (es.set i (Cr (es.getD i []) off ds)))) (bA β k h) σ' w':=by
 obtain⟨⟨o,ho,hp⟩,_⟩:=ha;rw[hk] at ho;cases ho;obtain⟨b,n,cap,hb,rfl⟩:=hp bB es rfl;obtain⟨h,hh,hr⟩:=hS.obj k _ hk;rw[hb] at hh;cases hh;obtain⟨b',c,ty,cap',e,hcap,hc0,hbc,hσ,hlen,asx,hcsz,hcs⟩:=LJ hr hi;cases e;obtain⟨l2,hds⟩:=hx
 have hmul:i*bB+bB<=es.length*bB:=by
  have:(i+1)*bB<=es.length*bB:=cx _ hi
  rwa [cS,Nat.one_mul] at this
 have hrun:=Ga (P:=P) (off:=i*bB+off) (v:=xv) h3 gA hbc gA (fun x hx'=>by
  obtain⟨j,hj⟩:=em hx';obtain⟨hjl,_⟩:=ap.1 hj;obtain⟨v,hv,hr⟩:=hds j (ds[j]'(by rw[l2];simpa using hjl)) (am _)
  rw[hj] at hv;cases hv;exact hr.one)
 generalize hc2:(c.toList.take (i*bB+off)++xv.cells.toList++c.toList.drop (i*bB+off+xv.cells.size)).toArray=c2 at hrun
 have Gb:c2.size=c.size:=by rw[<-hc2];simp;omega
 have hheap:(w.setRow b c2).heap[b]? =some (.cells c2 ty (0,0)):=setRow_heap w b c c2 ty (0,0) hbc
 have hn:eH w σ (w.setRow b c2) σ:=by
  intro b1 c1 t1 DJ e1;refine⟨ax _,fun _=>rfl,?_⟩;by_cases hb1:b1=b
  ·subst hb1;rw[hbc] at e1;cases e1;exact⟨c2,hheap,Gb,fun i hi=>by rw[hσ] at hi;omega⟩
  ·exact⟨c1,(gW w b c2 b1 hb1).trans e1,rfl,fun _ _=>rfl⟩
 have hge:es.getD i []=es[i]:=by simp[List.getD,hi]
 have hel:es[i].length=bB:=hlen _ (ac hi)
 have aqe:(Cr (es.getD i []) off ds).length=bB:=by
  rw[hge];simp only[Cr,ae,cj,bk,hel];omega
 refine⟨w.setRow b c2,σ,_,hrun,hb,?_⟩
 refine hS.set hk hb (Nat.le_of_eq (setRow_size _ _ _).symm) rfl rfl hn (fun x=>by rw[setRow_size];exact hS.live x) (fun b1 hb1 hne=>⟨gW _ _ _ _ (fun e=>hne (by rw[e];simp[owns,blk,hc0])),rfl⟩)
  (.inr ⟨⟨_,rfl⟩,rfl⟩) ?_ (fun b1 e=>.inl e)
 refine⟨?_,_,cap,by rw[cW],by rw[cW];exact hcap,.inr ⟨b,c2,ty,rfl,hheap,hσ,by rw[Gb];exact asx,?_⟩⟩
 ·intro e he;rcases List.mem_or_eq_of_mem_set he with he|rfl
  ·exact hlen e he
  ·exact aqe
 ·intro j x hj;rw[X0 es bB i _ hlen aqe hi] at hj;have hfl:=iT es bB hlen
  have adP:c2[j]? =(c.toList.take (i*bB+off)++xv.cells.toList++c.toList.drop (i*bB+off+xv.cells.size))[j]? :=by rw[<-hc2];simp
  have old:∀y,es.flatten[j]? =some y->(j<i*bB+off\/i*bB+off+ds.length<=j)->∃v,c2[j]? =some v/\dO (w.setRow b c2) σ y v:=by
   intro y hy hout;obtain⟨v,hv,hr⟩:=hcs j y hy;refine⟨v,?_,hr.mono hn⟩;rw[adP];have hjc:=(bj.1 hv).1;rcases hout with hout|hout
   ·rw[cf,aq (by simp only[ae,cj,bk,cp];omega),ck hout,cm];exact hv
   ·rw[ag (by simp only[ae,cj,bk,cp];omega),cI];rw[<-hv,<-cm];congr 1;simp only[ae,cj,bk,cp];omega
  by_cases c1:j<i*bB
  ·rw[cf,aq (by simp only[ae,cj,bk,cp];omega),ck c1] at hj;exact old x hj (.inl gA)
  ·by_cases c2':j<i*bB+bB
   ·rw[aq (by simp only[ae,cj,bk,cp];omega),ag (by simp only[ae,cj,bk,cp];omega)] at hj
    have et:(es.flatten.take (i*bB)).length=i*bB:=by simp only[ae,cj,bk,cp];omega
    rw[et] at hj;unfold Cr at hj;rw[hge] at hj;by_cases c3:j-i*bB<off
    ·rw[cf,aq (by simp only[ae,cj,bk,cp];omega),ck c3] at hj;have:=flat_get es bB hlen i (j-i*bB) hi gA;rw[show i*bB+(j-i*bB)=j from gA] at this;exact old x (this.trans hj) (.inl gA)
    ·by_cases c4:j-i*bB<off+ds.length
     ·rw[aq (by simp only[ae,cj,bk,cp];omega),ag (by simp only[ae,cj,bk,cp];omega)] at hj
      have et2:(es[i].take off).length=off:=by simp only[ae,cj,bk,cp];omega
      rw[et2] at hj;obtain⟨v,hv,hr⟩:=hds _ x hj;refine⟨v,?_,hr.mono hn⟩;rw[adP,aq (by simp only[ae,cj,bk,cp];omega),ag (by simp only[ae,cj,bk,cp];omega)];rw[<-hv];congr 1;simp only[ae,cj,bk,cp];omega
     ·rw[ag (by simp only[ae,cj,bk,cp];omega),cI] at hj;have:=flat_get es bB hlen i (j-i*bB) hi gA;rw[show i*bB+(j-i*bB)=j from gA] at this;refine old x ?_ (.inr gA);rw[this,<-hj];congr 1;simp only[ae,cj,bk,cp];omega
   ·rw[ag (by simp only[ae,cj,bk,cp];omega),cI] at hj;refine old x ?_ (.inr gA);rw[<-hj];congr 1;simp only[ae,cj,bk,cp];omega
theorem QN{es:List (List D)}{i o i' o':Nat}{d x:D}(h:cellAt es i o=some x):cellAt (es.set i ((es.getD i []).set o d)) i' o'=if i'=i/\o'=o then some d else cellAt es i' o':=by
 obtain⟨hi,ho⟩:=F9 h
 have hge:es.getD i []=es[i]:=by simp[List.getD,hi]
 rw[hge];unfold cellAt;rw[eJ];by_cases e:i=i'
 ·subst e;rw[if_pos rfl,if_pos hi];show(es[i].set o d)[o']? =_;rw[eJ,am hi]
  show _=if i=i/\o'=o then some d else es[i][o']?
  by_cases e2:o=o'
  ·subst e2;simp[ho]
  ·rw[if_neg e2,if_neg (fun h=>e2 h.2.symm)]
 ·rw[if_neg e,if_neg (fun h=>e h.1.symm)]
theorem X3{es:List (List D)}{i o z:Nat}{d x:D}(h:cellAt es i o=some x)(hl:∀e∈es,e.length=z):∀e∈es.set i ((es.getD i []).set o d),e.length=z:=by
 obtain⟨hi,ho⟩:=F9 h
 have hge:es.getD i []=es[i]:=by simp[List.getD,hi]
 intro e he;rcases List.mem_or_eq_of_mem_set he with he|rfl
 ·exact hl e he
 ·rw[cW,hge];exact hl _ (ac hi)
theorem vG.upd{T':Value}{new:List (List D)}(hN:vG w' new T'):∀(p:List (Nat×Nat)){es:List (List D)}{T:Value}{es':List (List D)},vG w es T->atP es p=some es'->uE T p=some T'->
 (∀b,qG T b->¬qG T' b->w'.heap[b]? =w.heap[b]?)->vG w' (TP es p new) T
 |[],es,T,es',h,e,ht,hf=>by cases ht;exact hN
 |(i,o)::p,es,T,es',h,e,ht,hf=>by
  rw[atP] at e;split at e
  ·rename_i es1 hc;rw[TP,hc]
   simp only
   have h0:=h
   cases h with
   |nil=>simp[cellAt] at hc
   |mk b off cap z es T c t vals kids hh hne hcap hlen hb hfit hcv hs hk hx hself hap Es=>
    obtain⟨k1,k2⟩:=hk i o es1 hc;rw[uE,k1] at ht;have hT':uE (kids i o) p=some T':=ht
    have hsub:∀x,qG T' x->qG (kids i o) x:=fun x hx'=>by
     obtain⟨T2,q1,q2,q3⟩:=(hx i o es1 hc).at_ p e;rw[hT'] at q1;cases q1;exact q3 x hx'
    have ih:=upd hN p (hx i o es1 hc) e hT' fun x h1 h2=>hf x (.kid k1 h1) h2;have hpos:0<es.length:=fm.2 hne;have hbw:w'.heap[b]? =some (.cells c t (0,0)):=(hf b (.here hh hpos) (fun q=>hself i o _ k1 (hsub b q))).trans hb
    have hcs:∀i' o',cellAt (es.set i ((es.getD i []).set o (.sl (TP es1 p new)))) i' o'=if i'=i/\o'=o then some (.sl (TP es1 p new)) else cellAt es i' o':=fun i' o'=>QN hc
    refine .mk b off cap z _ T c t vals kids (by rw[cW];exact hh) (fun e=>hne ((List.set_eq_nil_iff _ _).1 e)) (by rw[cW];exact hcap) (X3 hc hlen) hbw (by rw[cW];exact hfit)
     (fun i' o' d hd=> ?_) (fun i' o' d hd=> ?_) (fun i' o' e' hd=> ?_) (fun i' o' e' hd=> ?_) hself hap (fun i' o' u hu=> ?_)
    ·rw[hcs] at hd;split at hd
     ·rename_i q;obtain⟨rfl,rfl⟩:=q;exact hcv _ _ _ hc
     ·exact hcv _ _ _ hd
    ·rw[hcs] at hd;split at hd
     ·cases hd;exact .inl ⟨_,rfl⟩
     ·exact hs _ _ _ hd
    ·rw[hcs] at hd;split at hd
     ·rename_i q;obtain⟨rfl,rfl⟩:=q;exact⟨k1,k2⟩
     ·exact hk _ _ _ hd
    ·rw[hcs] at hd;split at hd
     ·rename_i q;obtain⟨rfl,rfl⟩:=q;cases hd;exact ih
     ·rename_i q;refine(hx _ _ _ hd).frame fun x hx'=>hf x (.kid (hk _ _ _ hd).1 hx') fun h2=> ?_;exact hap i' o' i o _ _ x (fun e=>q (by cases e;exact⟨rfl,rfl⟩)) (hk _ _ _ hd).1 k1 hx' (hsub x h2)
    ·rw[hcs];split
     ·exact⟨_,rfl⟩
     ·exact Es _ _ _ hu
  ·cases e
theorem ajN{k:Key}{r z i off:Nat}{p:List (Nat×Nat)}{t:TypeId}{rs:List (List (List D))}{es:List (List D)}{d d0:D}{av xv v:Value}(hS:fC w σ S β)(ha:dR w σ S β (.c (.xq k r p z i off)) av)
 (hk:bC S k=some (.xf rs))(hes:atR rs r p=some es)(hc:cellAt es i off=some d0)(hd0:XK d0=true)(hd:XK d=true)(hz:(es.getD i []).length=z)(hxv:xv.cells.toList=[v])(hv:dO w σ d v)
 (h1:P.cellsOf t=1)(h3:(P.info? t).isSome=true):
 ∃w' σ' h,(Instr.storeAt t av xv).run P w=.ok () w'/\bC β k=some h/\
  fC w' σ' (bA S k (.xf (LK rs r p (es.set i ((es.getD i []).set off d))))) (bA β k h)/\Keep S β (bA S k (.xf (LK rs r p (es.set i ((es.getD i []).set off d))))) (bA β k h)/\
  Step S β σ w (bA S k (.xf (LK rs r p (es.set i ((es.getD i []).set off d))))) (bA β k h) σ' w':=by
 obtain⟨h,T,T',hh,hr,hT',hE,hhd,hown⟩:=NR hS hk hes;obtain⟨⟨o,ho,hx2⟩,_⟩:=ha;rw[hk] at ho;cases ho;obtain⟨h',b,a,n,cap,e1,e2,rfl⟩:=hx2 rs rfl;rw[hh] at e1;cases e1;rw[hhd] at e2;obtain⟨hi,hoff⟩:=F9 hc
 have hsz:xv.cells.size=1:=by rw[<-cp,hxv];rfl
 obtain⟨Df,IZ⟩:=hS.obj k _ hk;rw[hh] at IZ;obtain⟨asy,hX⟩:=IZ;cases asy;obtain⟨hX1,hX2,hX3,hX4⟩:=hX
 cases hE with
 |nil=>simp at hi
 |mk b0 ajK cap0 z0 es T' c t0 vals kids hh0 hne hcap hlen hb hfit hcv hs hkd Bh hself hap Es=>
  rw[hh0] at e2;cases e2
  have hz0:z=z0:=by rw[<-hz,<-hlen _ (ac hi)];simp[List.getD,hi]
  subst hz0;have hpos:0<es.length:=fm.2 hne
  have hol:off<z:=by rw[<-hlen _ (ac hi)];exact hoff
  have hmul:i*z+z<=es.length*z:=by
   have:(i+1)*z<=es.length*z:=cx _ hi
   rwa [cS,Nat.one_mul] at this
  have hrun:=Ga (P:=P) (off:=a+i*z+off) (v:=xv) h3 gA hb gA (fun x hx'=>by
   rw[hxv] at hx';simp at hx'
   subst hx';exact hv.one)
  generalize hc2:(c.toList.take (a+i*z+off)++xv.cells.toList++c.toList.drop (a+i*z+off+xv.cells.size)).toArray=c2 at hrun
  have Gb:c2.size=c.size:=by rw[<-hc2];simp;omega
  have adP:∀j,c2[j]? =if j=a+i*z+off then some v else c[j]? :=fun j=>by
   rw[<-hc2,hxv,hsz,dc];by_cases e:j=a+i*z+off
   ·subst e;rw[if_pos rfl,aq gR,ag gR]
    simp
    rw[show a+i*z+off-min (a+i*z+off) c.size=0 by omega];rfl
   ·rw[if_neg e];by_cases hlt:j<a+i*z+off
    ·rw[cf,aq gR,ck hlt,cm]
    ·rw[ag gR,cI,cm];congr 1
     simp
     omega
  have hheap:(w.setRow b c2).heap[b]? =some (.cells c2 t0 (0,0)):=setRow_heap w b c c2 t0 (0,0) hb;have OQ:NM h b:=hown b (.here hh0 hpos);have hσ:=hX3 b OQ
  have hn:eH w σ (w.setRow b c2) σ:=by
   intro b1 c1 t1 DJ e1;refine⟨ax _,fun _=>rfl,?_⟩;by_cases hb1:b1=b
   ·subst hb1;rw[hb] at e1;cases e1;exact⟨c2,hheap,Gb,fun i hi=>by rw[hσ] at hi;omega⟩
   ·exact⟨c1,(gW w b c2 b1 hb1).trans e1,rfl,fun _ _=>rfl⟩
  have hsd:SD d v:=by
   cases d<;>first|(cases hd;done)|(cases hv;rfl)
  have hcs:∀i' o',cellAt (es.set i ((es.getD i []).set off d)) i' o'=if i'=i/\o'=off then some d else cellAt es i' o':=fun i' o'=>QN hc
  have aqf:∀e',d≠ .sl e':=fun e' e=>by subst e;cases hd
  have hidx:∀i' o',(∃x,cellAt es i' o'=some x)->a+(i'*z+o')=a+i*z+off->i'=i/\o'=off:=fun i' o' ⟨x,hx⟩ e=>by
   obtain⟨hi',ho'⟩:=F9 hx;rw[hlen _ (ac hi')] at ho'
   have e':i'*z+o'=i*z+off:=gA
   have hz0:0<z:=gA
   have d1:(i'*z+o') /z=i':=by rw[Nat.mul_comm,Nat.mul_add_div hz0,Nat.div_eq_of_lt ho'];omega
   have d2:(i*z+off) /z=i:=by rw[Nat.mul_comm,Nat.mul_add_div hz0,Nat.div_eq_of_lt hol];omega
   have d3:i'=i:=by rw[<-d1,<-d2,e']
   subst d3;exact⟨rfl,gA⟩
  have asz:vG (w.setRow b c2) (es.set i ((es.getD i []).set off d)) T':=by
   refine .mk b a cap z _ T' c2 t0 (fun i' o'=>if i'=i/\o'=off then v else vals i' o') kids (by rw[cW];exact hh0) (fun e=>hne ((List.set_eq_nil_iff _ _).1 e)) (by rw[cW];exact hcap) (X3 hc hlen) hheap
    (by rw[cW,Gb];exact hfit) (fun i' o' x hx'=> ?_) (fun i' o' x hx'=> ?_) (fun i' o' e' hx'=> ?_) (fun i' o' e' hx'=> ?_) hself hap (fun i' o' u hu=> ?_)
   ·rw[hcs] at hx';rw[adP];split at hx'
    ·rename_i q;obtain⟨rfl,rfl⟩:=q;rw[if_pos gA,if_pos ⟨rfl,rfl⟩]
    ·rename_i q;rw[if_neg (fun e=>q (hidx i' o' ⟨x,hx'⟩ e)),if_neg q];exact hcv _ _ _ hx'
   ·rw[hcs] at hx';split at hx'
    ·rename_i q;cases hx';right;simp only[if_pos q];exact hsd
    ·rename_i q;simp only[if_neg q];exact hs _ _ _ hx'
   ·rw[hcs] at hx';split at hx'
    ·cases hx';exact absurd rfl (aqf e')
    ·rename_i q;simp only[if_neg q];exact hkd _ _ _ hx'
   ·rw[hcs] at hx';split at hx'
    ·cases hx';exact absurd rfl (aqf e')
    ·refine(Bh _ _ _ hx').frame fun x hx1=>gW _ _ _ _ fun e=> ?_;subst e;exact hself _ _ _ (hkd _ _ _ hx').1 hx1
   ·rw[hcs];obtain⟨e',he'⟩:=Es _ _ _ hu;rw[if_neg (fun q=>by obtain⟨rfl,rfl⟩:=q;rw[hc] at he';cases he';cases hd0)];exact⟨e',he'⟩
  have QM:nZ (.xf rs) (some h) (.xf (LK rs r p (es.set i ((es.getD i []).set off d)))) (some h):=.inr ⟨⟨_,rfl⟩,rfl⟩;refine⟨w.setRow b c2,σ,_,hrun,hh,?_⟩;refine hS.set hk hh (Nat.le_of_eq (setRow_size _ _ _).symm) rfl rfl hn (fun x=>by rw[setRow_size];exact hS.live x) (fun b1 hb1 hne1=>⟨gW _ _ _ _ (fun e=>hne1 (by subst e;exact OQ)),rfl⟩) QM ?_ (fun b1 e=>.inl e);refine⟨fun r' es' hr'=> ?_,fun r' T1 hT1=>by rw[LK,cW];exact hX2 r' T1 hT1,hX3,hX4⟩;unfold atR at hes
  cases hrr:rs[r]? with
  |none=>rw[hrr] at hes;cases hes
  |some es0=>
   rw[hrr] at hes;have hrl:=(ap.1 hrr).1
   have auv:rs.getD r []=es0:=by simp[List.getD,hrr]
   rw[LK,eJ,auv] at hr';by_cases er:r=r'
   ·subst er;rw[if_pos rfl,if_pos hrl] at hr';cases hr';obtain⟨T1,q1,q2⟩:=hX1 r es0 hrr;rw[hr] at q1;cases q1;refine⟨T,hr,vG.upd asz p q2 hes hT' fun x h1' h2'=>gW _ _ _ _ fun e=> ?_⟩;subst e;exact h2' (.here hh0 hpos)
   ·rw[if_neg er] at hr';obtain⟨T1,q1,q2⟩:=hX1 r' es' hr';refine⟨T1,q1,q2.frame fun x hx1=>gW _ _ _ _ fun e=> ?_⟩;subst e;obtain⟨T2,w4,w5⟩:=hX1 r es0 hrr;rw[hr] at w4;cases w4;obtain⟨T3,w1,w2,w3⟩:=w5.at_ p hes;rw[hT'] at w1;cases w1;exact hX4 r r' T T1 x er hr q1 (w3 x (.here hh0 hpos)) hx1
end
section
variable {P:Program} {w w':World} {σ σ':Nat->Nat} {S:Store} {β:Hs}
theorem Vb(newLen:Nat):∀(r c:Nat),c<=2*newLen+512->Builtin.growBy newLen r c<=2*newLen+512
 |0,c,h=>h
 |r+1,c,h=>by
  unfold Builtin.growBy;split
  ·exact h
  ·exact Vb newLen r _ gA
theorem QO(newLen oldCap:Nat)(h:oldCap<newLen):Builtin.nextslicecap newLen oldCap<=2*newLen+512:=by
 unfold Builtin.nextslicecap;split
 ·omega
 ·split
  ·omega
  ·exact Vb _ _ _ gA
def Src(P:Program)(w:World)(σ:Nat->Nat)(size:Nat)(ys:List (List D))(v:Value):Prop:=
 (Builtin.lenOf v).run P w=.ok ys.length w/\(∀y∈ys,y.length=size)/\
 ∃a:Array Value,(Builtin.firstCells size ys.length v).run P w=.ok a w/\a.size=ys.length*size/\∀(j:Nat)(d:D),ys.flatten[j]? =some d->∃v,a[j]? =some v/\dO w σ d v
theorem LQ{ys:List (List D)}{v:Value}{size:Nat}(h:dO w σ (.sl ys) v)(hsz:∀y∈ys,y.length=size):Src P w σ size ys v:=by
 cases h with
 |nil a cap=>
  refine⟨rfl,hsz,#[],?_,gL,fun j d hj=>by simp at hj⟩
  cases a with
  |none=>rfl
  |some a=>simp[Builtin.firstCells,loadCells,loadCellsFrom]
 |sl b off cap bB es vals c t fz hcap hlen hb hσ hc hv=>
  by_cases hne:ys=[]
  ·subst hne;exact⟨rfl,hsz,#[],by simp[Builtin.firstCells,loadCells,loadCellsFrom],gL,fun j d hj=>by simp at hj⟩
  have he:bB=size:=by
   cases ys with
   |nil=>exact absurd rfl hne
   |cons y ys=>rw[<-hlen y gL,hsz y gL]
  subst he;obtain⟨hl,hv'⟩:=DI c off (ys.length*bB) (fun j hj=>⟨_,hc j hj⟩);refine⟨rfl,hsz,_,yg (a:=⟨b,off,none⟩) rfl hb _ (fun j hj=>⟨_,hc j hj⟩),by simpa using hl,fun j d hj=> ?_⟩
  have hjl:j<ys.length*bB:=by
   have:=(ap.1 hj).1
   rwa [iT ys bB hlen] at this
  refine⟨vals j,?_,hv j d hj⟩;rw[dc,hv' j hjl];exact hc j hjl
theorem QS(l:List UInt8):Src P w σ 1 (l.map fun b=>[D.i .u8 b.toNat]) (.string ⟨l.toArray⟩):=by
 have hsz:(⟨l.toArray⟩:ByteArray).size=l.length:=ea;refine⟨by simp[Builtin.lenOf,hsz],gL,(l.toArray.map fun b=>Value.int .u8 b.toNat),?_,gL,fun j d hj=> ?_⟩
 ·simp only[Builtin.firstCells,ab,Sem.run_pure];congr 2;rw[ByteArray.data_extract]
  simp
 ·have hf:(l.map fun b=>[D.i .u8 b.toNat]).flatten=l.map fun b=>D.i .u8 b.toNat:=by
   clear hj hsz
   induction l with
   |nil=>rfl
   |cons a l ih=>rw[af,cF,ih];rfl
  rw[hf,bE] at hj
  cases hl:l[j]? with
  |none=>rw[hl] at hj;cases hj
  |some b=>
   rw[hl] at hj;cases hj;exact⟨.int .u8 b.toNat,by simp[hl],.i _ _⟩
def QT(P:Program)(u:TypeId):Prop:=(∃e,P.underlying u=some (.slice e))\/P.underlying u=some .string
theorem LU{t u ty e:TypeId}{base:Option Addr}{sLen sCap:Nat}{yv:Value}{i:TypeInfo}(ht:P.underlying t=some (.slice e))(hu:QT P u)(hi:P.info? e=some i)
 (hn:(Builtin.lenOf yv).run P w=.ok 0 w)(hf:(Builtin.firstCells i.size 0 yv).run P w=.ok #[] w)(hroom:sLen<=sCap):
 (Builtin.append_ #[t,u] ty #[.slice base sLen sCap,yv]).run P w=.ok (.slice base sLen sCap) w:=by
 rcases hu with⟨e',hu⟩|hu<;>cases base<;>
  simp[Builtin.append_,run_underlying ht,run_underlying hu,sizeOf,typeInfo,hi,hn,hf,hroom,storeCells]
theorem Gc{t u ty e:TypeId}{b off:Nat}{sLen sCap m:Nat}{yv:Value}{i:TypeInfo}{ya c:Array Value}{et:TypeId}(ht:P.underlying t=some (.slice e))(hu:QT P u)(hi:P.info? e=some i)
 (hn:(Builtin.lenOf yv).run P w=.ok m w)(hf:(Builtin.firstCells i.size m yv).run P w=.ok ya w)(hroom:sLen+m<=sCap)
 (hb:w.heap[b]? =some (.cells c et (0,0)))(hfit:off+sLen*i.size+ya.size<=c.size)(h1:∀v∈ya.toList,v.oneCell'=true):
 (Builtin.append_ #[t,u] ty #[.slice (some ⟨b,off,none⟩) sLen sCap,yv]).run P w=
   .ok (.slice (some ⟨b,off,none⟩) (sLen+m) sCap) (w.setRow b (c.toList.take (off+sLen*i.size)++ya.toList++c.toList.drop (off+sLen*i.size+ya.size)).toArray):=by
 have hst:=run_storeCells_at P b (off+sLen*i.size) et ya.toList 0 c w hb (by simpa using hfit) h1;simp only[cR,cp] at hst;have ha:(⟨b,off,none⟩:Addr).add (sLen*i.size)=⟨b,off+sLen*i.size,none⟩:=addr_add _ _ rfl
 rcases hu with⟨e',hu⟩|hu<;>
  simp[Builtin.append_,run_underlying ht,run_underlying hu,sizeOf,typeInfo,hi,hn,hf,hroom,ha,hst]
theorem Gd{t u ty e:TypeId}{base:Option Addr}{sLen sCap m:Nat}{yv:Value}{i:TypeInfo}{z:Value}{oa ya:Array Value}(ht:P.underlying t=some (.slice e))(hu:QT P u)(hi:P.info? e=some i)
 (hz:i.zero=some z)(hn:(Builtin.lenOf yv).run P w=.ok m w)(hf:(Builtin.firstCells i.size m yv).run P w.drew=.ok ya w.drew)(ho:(Builtin.firstCells i.size sLen (.slice base sLen sCap)).run P w.drew=.ok oa w.drew)
 (hroom:sCap<sLen+m)(h63:sLen+m<=1073741824)(hby:i.bytes<=4096):
 ∃(cap:Nat) (rest:Array Value),sLen+m<=cap/\rest.size=(cap-(sLen+m))*z.cells.size/\(Builtin.append_ #[t,u] ty #[.slice base sLen sCap,yv]).run P w=
  .ok (.slice (some ⟨w.heap.size,0,none⟩) (sLen+m) cap) {w.drew with heap:=w.heap.push (.cells (oa++ya++rest) e)}:=by
 have hn1:=QO (sLen+m) sCap hroom
 have h48:¬(281474976710656<Builtin.nextslicecap (sLen+m) sCap*i.bytes):=by
  have:Builtin.nextslicecap (sLen+m) sCap*i.bytes<=(2*(sLen+m)+512)*4096:=gx hn1 hby;omega
 have h63':¬(9223372036854775807<((sLen+m:Nat):Int)):=gA
 have hroom':¬(sLen+m<=sCap):=gA
 refine⟨(Question.appendCap (sLen+m) sCap e).cut (w.tape w.drawn (Question.appendCap (sLen+m) sCap e)),Builtin.zeroCells z.cells ((Question.appendCap (sLen+m) sCap e).cut (w.tape w.drawn (Question.appendCap (sLen+m) sCap e))-(sLen+m)),by simp[Question.cut],by simp[Builtin.zeroCells],?_⟩
 have hmax:IntKind.i64.max=9223372036854775807:=gE
 rcases hu with⟨e',hu⟩|hu<;>
  simp[Builtin.append_,run_underlying ht,run_underlying hu,sizeOf,typeInfo,zeroValue,hi,hz,hn,hroom',h48,hmax,Question.forced,newRow]
 all_goals
  have asA:¬(9223372036854775807<(sLen:Int)+(m:Int)):=gA
  simp[asA,hf,ho];rfl
theorem eH.drew(w:World)(σ:Nat->Nat):eH w σ w.drew σ:=fun b c t fz h=>⟨ax _,fun _=>rfl,c,h,rfl,fun _ _=>rfl⟩
def ku:Option Nat->Nat->List (List D)->Obj
 |none,z,es=>.tok z es
 |some n,z,es=>.eP n z es
def Pz(lab:Option Nat)(full:Prop)[Decidable full](used size:Nat):Nat:=
 match lab with
 |none=>used
 |some n=>if full then size+1+n else used
theorem acB{lab:Option Nat}{full:Prop}[Decidable full]{used size:Nat}(h:used<=size):used<=Pz lab full used size:=by
 unfold Pz;split
 ·exact ax _
 ·split<;>omega
theorem zX{lab:Option Nat}{z n cap:Nat}{es:List (List D)}{a:Addr}:blk (ku lab z es) (.slice (some a) n cap)=if cap=es.length then none else some a.block:=by cases lab<;>rfl
theorem sO{lab:Option Nat}{z:Nat}{es:List (List D)}{h:Value}{b:Nat}:owns (ku lab z es) h b<->blk (ku lab z es) h=some b:=by cases lab<;>exact Iff.rfl
theorem Fh{lab:Option Nat}{z:Nat}{es:List (List D)}{h:Value}(hr:iI w σ S β (ku lab z es) h):dO w σ (.sl es) h/\(∀e∈es,e.length=z)/\∃a cap,h=.slice a es.length cap/\es.length<=cap/\
 (cap=es.length\/∃b off c t,a=some ⟨b,off,none⟩/\w.heap[b]? =some (.cells c t (0,0))/\σ b=off+es.length*z/\off+cap*z<=c.size/\off=0):=by
 cases lab with
 |none=>exact hr
 |some n=>
  obtain⟨h1,h2,a,cap,h3,h4,h5⟩:=hr;exact⟨h1,h2,a,cap,h3,h4,h5.imp (fun h=>h.1) (fun h=>h.2)⟩
theorem adQ{lab:Option Nat}{z:Nat}{es:List (List D)}:wC (ku lab z es) z es:=by
 cases lab with
 |none=>exact .inl rfl
 |some n=>exact .inr ⟨n,rfl⟩
theorem mM{lab:Option Nat}{z z':Nat}{es es':List (List D)}(h:wC (ku lab z es) z' es'):z'=z/\es'=es:=by
 cases lab with
 |none=>rcases h with h|⟨n,h⟩<;>cases h;exact⟨rfl,rfl⟩
 |some n=>rcases h with h|⟨n,h⟩<;>cases h;exact⟨rfl,rfl⟩
theorem agF{lab:Option Nat}{z:Nat}{es es':List (List D)}{h h':Option Value}(hl:es.length<=es'.length)(he:es.length=es'.length->h'=h):nZ (ku lab z es) h (ku lab z es') h':=by
 cases lab with
 |none=>exact .inr ⟨z,es',rfl,hl,he⟩
 |some n=>exact .inr ⟨z,es',rfl,hl,he⟩
theorem QU{lab:Option Nat}{w':World}{σ':Nat->Nat}{b off len cap size:Nat}{es:List (List D)}{c:Array Value}{t:TypeId}(hlen:∀e∈es,e.length=size)(hl:len=es.length)(hcap:len<=cap)
 (hb:w'.heap[b]? =some (.cells c t (0,0)))(hσ:σ' b=Pz lab (cap=es.length) (off+es.length*size) c.size)(hfit:off+cap*size<=c.size/\off=0)
 (hc:∀(j:Nat) (d:D),es.flatten[j]? =some d->∃v,c[off+j]? =some v/\dO w' σ' d v)(S':Store)(β':Hs):
 iI w' σ' S' β' (ku lab size es) (.slice (some ⟨b,off,none⟩) len cap):=by
 subst hl;have hfl:=iT es size hlen
 have hex:∀j,j<es.length*size->c[off+j]? =some ((c[off+j]?).getD undef):=fun j hj=>by
  obtain⟨v,hv,_⟩:=hc j _ (am gA);simp[hv]
 have hv:∀(j:Nat)(d:D),es.flatten[j]? =some d->dO w' σ' d ((c[off+j]?).getD undef):=fun j d hd=>by
  obtain⟨v,hv,hr⟩:=hc j d hd;simp only[hv,dq];exact hr
 have hm:es.length*size<=cap*size:=cx _ hcap
 have hsl:dO w' σ' (.sl es) (.slice (some ⟨b,off,none⟩) es.length cap):=
  .sl b off cap size es (fun j=>(c[off+j]?).getD undef) c t (0,0) hcap hlen hb (by rw[hσ];exact acB gA) hex hv
 cases lab with
 |none=>exact⟨hsl,hlen,_,cap,rfl,hcap,.inr ⟨b,off,c,t,rfl,hb,hσ,hfit⟩⟩
 |some n=>
  refine⟨hsl,hlen,_,cap,rfl,hcap,?_⟩;by_cases hf:cap=es.length
  ·refine .inl ⟨hf,.ol n b off cap size es (fun j=>(c[off+j]?).getD undef) c t hcap hlen hb ?_ gA hex hv ⟨gA,gA⟩⟩;rw[hσ,Pz,if_pos hf]
  ·exact .inr ⟨hf,b,off,c,t,rfl,hb,by rw[hσ,Pz,if_neg hf],hfit⟩
def DK(P:Program)(w:World)(σ:Nat->Nat)(size:Nat)(ys:List (List D))(v:Value):Prop:=∀w':World,w'.heap=w.heap->Src P w' σ size ys v
theorem LV{ys:List (List D)}{v:Value}{size:Nat}(h:dO w σ (.sl ys) v)(hsz:∀y∈ys,y.length=size):DK P w σ size ys v:=
 fun w' e=>LQ (h.mono fun b c t fz hb=>⟨ax _,fun _=>rfl,c,by rw[e];exact hb,rfl,fun _ _=>rfl⟩) hsz
theorem WJ(l:List UInt8):DK P w σ 1 (l.map fun b=>[D.i .u8 b.toNat]) (.string ⟨l.toArray⟩):=fun _ _=>QS l
theorem Bn{lab:Option Nat}{t u ty e:TypeId}{sv:Value}{size:Nat}{es ys:List (List D)}{yv:Value}(hl:∀b,b<w.heap.size\/σ b=0)
 (ht:P.underlying t=some (.slice e))(hu:QT P u)(hz:∃zs,j5 P e=some zs/\zs.length=size)(hsize:P.cellsOf e=size)(hb:P.bytesOf e<=4096)
 (hs:iI w σ S β (ku lab size es) sv)(hy:DK P w σ size ys yv)(hlen:es.length+ys.length<=1073741824):
 ∃r w' σ',(Builtin.append_ #[t,u] ty #[sv,yv]).run P w=.ok r w'/\(∀S' β',iI w' σ' S' β' (ku lab size (es++ys)) r)/\w.heap.size<=w'.heap.size/\w'.os=w.os/\w'.output=w.output/\
  eH w σ w' σ'/\(∀b,b<w'.heap.size\/σ' b=0)/\(∀b,b<w.heap.size->¬owns (ku lab size es) sv b->w'.heap[b]? =w.heap[b]? /\σ' b=σ b)/\
  (∀b,owns (ku lab size (es++ys)) r b->owns (ku lab size es) sv b\/w.heap.size<=b)/\(ys.length=0->r=sv)/\r.oneCell'=true:=by
 obtain⟨zs,hzs,hzl⟩:=hz;obtain⟨z,zI,hzc⟩:=yh (w:=w) (σ:=σ) (S:=S) (β:=β) hzs
 have LW:z.cells.size=size:=by have:=hzc.1;simp at this;omega
 have hex:∃info,P.info? e=some info/\info.zero=some z:=by
  unfold j5 at hzs
  cases hi:P.info? e with
  |none=>rw[hi] at hzs;cases hzs
  |some i=>
   refine⟨i,rfl,?_⟩
   cases hz:i.zero with
   |none=>rw[hi] at hzs;simp[hz] at hzs
   |some z'=>
    have:(zeroValue e).run P w=.ok z' w:=by simp[zeroValue,typeInfo,hi,hz]
    rw[zI] at this;cases this;rfl
 obtain⟨info,hi,hiz⟩:=hex
 have hib:info.bytes=P.bytesOf e:=by simp[Program.bytesOf,hi]
 have his:info.size=size:=by rw[<-hsize];simp[Program.cellsOf,hi]
 have hs0:=hs;obtain⟨hsd,hle,base,sCap,rfl,hcap,auw⟩:=Fh hs;obtain⟨hyl,hys,ya,QV,X4,hyd⟩:=hy w rfl;have hall:∀x∈es++ys,x.length=size:=fun x hx=>(dm.1 hx).elim (hle x) (hys x);have hfl:es.flatten.length=es.length*size:=iT es size hle;have hfy:ys.flatten.length=ys.length*size:=iT ys size hys
 have hone:∀v∈ya.toList,v.oneCell'=true:=fun v hv=>by
  obtain⟨j,hj⟩:=em hv;have hjl:=(ap.1 hj).1;simp at hjl;obtain⟨v',hv',hr⟩:=hyd j _ (am gA);rw[cm] at hj;rw[hj] at hv';cases hv';exact hr.one
 by_cases hn0:ys.length=0
 ·have ajO:ys=[]:=bz hn0;subst ajO
  have hya:ya= #[]:=by simpa using X4
  subst hya;refine⟨_,w,σ,LU ht hu hi hyl (by rw[his];exact QV) hcap,fun S' β'=> ?_,ax _,rfl,rfl,eH.refl _ _,hl,fun b _ _=>⟨rfl,rfl⟩,fun b hb=>.inl (by simpa using hb),fun _=>rfl,rfl⟩;rw[bm];cases lab<;>exact hs0
 by_cases hroom:es.length+ys.length<=sCap
 ·obtain⟨b,off,c,ct,rfl,hbc,hσ,hfit⟩:=auw.resolve_left gA
  have hmul:es.length*size+ys.length*size<=sCap*size:=by rw[<-cS];exact cx _ hroom
  have hrun:=Gc (P:=P) (ty:=ty) (b:=b) (off:=off) ht hu hi hyl (by rw[his];exact QV) hroom hbc (by rw[his,X4];omega) hone;rw[his] at hrun;generalize hc2:(c.toList.take (off+es.length*size)++ya.toList++c.toList.drop (off+es.length*size+ya.size)).toArray=c2 at hrun
  have Gb:c2.size=c.size:=by rw[<-hc2];simp;omega
  have hheap:(w.setRow b c2).heap[b]? =some (.cells c2 ct (0,0)):=setRow_heap w b c c2 ct (0,0) hbc;have hblt:=lt_of_some hbc
  have hlow:∀i,i<off+es.length*size->c2[i]? =c[i]? :=fun i hi=>by
   rw[<-hc2,dc,cf,aq gR,ck hi,cm]
  have hmid:∀j,j<ya.size->c2[off+es.length*size+j]? =ya[j]? :=fun j hj=>by
   rw[<-hc2,dc,aq gR,ag gR,<-cm];congr 1;simp;omega
  have hlen':(es++ys).length=es.length+ys.length:=ae
  have hn:eH w σ (w.setRow b c2) (fun x=>if x=b then Pz lab (sCap=(es++ys).length) (off+(es++ys).length*size) c2.size else σ x):=by
   intro b1 c1 t1 DJ e1;by_cases hb1:b1=b
   ·subst hb1;rw[hbc] at e1;cases e1;refine⟨by simp only[if_true];rw[hσ];exact co (by rw[hlen',cS];omega) (acB (by rw[hlen',cS];omega)),fun hh=>by rw[hσ] at hh;omega,c2,hheap,Gb,fun i hi=>hlow i (by rw[hσ] at hi;omega)⟩
   ·exact⟨by simp only[if_neg hb1];exact ax _,fun _=>if_neg hb1,c1,(gW w b c2 b1 hb1).trans e1,rfl,fun _ _=>rfl⟩
  have aqg:sCap≠es.length:=gA
  refine⟨_,_,_,hrun,fun S' β'=> ?_,by rw[setRow_size];exact ax _,rfl,rfl,hn,fun x=> ?_,fun x hx hne=> ?_,fun x hx=> ?_,fun h=>absurd h hn0,rfl⟩
  ·refine QU hall hlen'.symm hroom hheap gL gA (fun j d hj=> ?_) S' β';rw[cV] at hj;by_cases hjl:j<es.length*size
   ·rw[aq gA] at hj
    cases hsd with
    |nil=>simp at hj
    |sl b' off' cap' xP es' vals c' t' fz' NS Kj hb' hσ' hc' hv'=>
     rw[hbc] at hb';cases hb'
     have hes:xP=size:=by
      cases es with
      |nil=>simp at hjl
      |cons y ys'=>rw[<-Kj y gL,hle y gL]
     subst hes;refine⟨vals j,?_,(hv' j d hj).mono hn⟩;rw[hlow _ gA];exact hc' j hjl
   ·rw[ag gA,hfl] at hj;obtain⟨v,hv,hr⟩:=hyd _ d hj;have hlt:=(bj.1 hv).1;refine⟨v,?_,hr.mono hn⟩;rw[<-hv,<-hmid _ hlt];congr 1;omega
  ·rw[setRow_size];by_cases hxb:x=b
   ·left;omega
   ·simp only[if_neg hxb];exact hl x
  ·have hxb:x≠b:=fun e=>hne (by rw[sO,zX,if_neg aqg,e]);exact⟨gW _ _ _ _ hxb,if_neg hxb⟩
  ·left;rw[sO,zX] at hx ⊢;split at hx
   ·cases hx
   ·rw[if_neg aqg];exact hx
 ·obtain⟨aqi,_,QW,X5,QX,X6⟩:=hy w.drew rfl;obtain⟨_,_,oa,hor,LX,hod⟩:=LQ (P:=P) (hsd.mono (eH.drew w σ)) hle;obtain⟨cap,rest,NS,hrest,hrun⟩:=Gd (P:=P) (ty:=ty) (base:=base) (sCap:=sCap) ht hu hi hiz hyl (by rw[his];exact X5) (by rw[his];exact hor) gA hlen (by rw[hib];exact hb)
  let w':World:={w.drew with heap:=w.heap.push (.cells (oa++QW++rest) e)}
  let σ':Nat->Nat:=fun x=>if x=w.heap.size then Pz lab (cap=(es++ys).length) (0+(es++ys).length*size) (oa++QW++rest).size else σ x
  have hn:eH w σ w' σ':=by
   intro b1 c1 t1 DJ e1;have hlt:=lt_of_some e1
   have hne:b1≠w.heap.size:=gA
   refine⟨by simp only[σ',if_neg hne];exact ax _,fun _=>if_neg hne,c1,?_,rfl,fun _ _=>rfl⟩;simp only[w'];rw[dj,if_neg hne];exact e1
  have hn':eH w.drew σ w' σ':=hn
  have hheap:w'.heap[w.heap.size]? =some (.cells (oa++QW++rest) e (0,0)):=by simp[w']
  have hlen':(es++ys).length=es.length+ys.length:=ae;refine⟨_,w',σ',hrun,fun S' β'=> ?_,by simp[w'],rfl,rfl,hn,fun x=> ?_,fun x hx _=> ?_,fun x hx=> ?_,fun h=>absurd h hn0,rfl⟩
  ·refine QU (σ':=σ') (off:=0) hall hlen'.symm NS hheap (by simp only[σ',if_true]) ?_ (fun j d hj=> ?_) S' β'
   ·refine⟨?_,rfl⟩;simp only[Array.size_append,LX,QX,hrest,LW,cG];rw[<-cS,<-cS];exact cx _ gA
   ·rw[cV] at hj;rw[cG];by_cases hjl:j<es.length*size
    ·rw[aq gA] at hj;obtain⟨v,hv,hr⟩:=hod j d hj;refine⟨v,?_,hr.mono hn'⟩;rw[fg,cU gA];exact hv
    ·rw[ag gA,hfl] at hj;obtain⟨v,hv,hr⟩:=X6 _ d hj;have hlt:=(bj.1 hv).1;refine⟨v,?_,hr.mono hn'⟩;rw[fg,fY gA,LX,cU gA];exact hv
  ·simp only[w',σ',gl];by_cases hxb:x=w.heap.size
   ·left;omega
   ·rw[if_neg hxb];exact(hl x).imp (fun h=>gA) id
  ·have hne:x≠w.heap.size:=gA
   refine⟨?_,if_neg hne⟩;simp only[w'];rw[dj,if_neg hne]
  ·right;rw[sO,zX] at hx;split at hx
   ·cases hx
   ·cases hx;exact ax _
end
def newObj(s:St)(dst:Option Nat)(o:Obj)(mk:Key->V)(K:St->Prop):Prop:=
 match s.st with
 |own::Ω=>K (St.put ⟨s.tm,(own++[o])::Ω⟩ dst (mk (0,own.length)))
 |[]=>False
def yj(P:Program)(t:TypeId)(s:St)(dst:Option Nat)(K:St->Prop):Prop:=
 match j5 P t with
 |some zs=>newObj s dst (.box zs) (fun k=>.c (.ptr k 0)) K
 |none=>False
def Gf(v:V)(s:St)(dst:Option Nat)(K:St->Prop):Prop:=
 match zH v with
 |some cs=>newObj s dst (.box cs) (fun k=>.c (.ptr k 0)) K
 |none=>False
def yt(P:Program)(t:TypeId)(a x:V)(s:St)(dst:Option Nat)(K:St->Prop):Prop:=
 match a with
 | .c (.ptr k off)=>
   match bC s.st k,(zH x).bind (·.mapM (C.down k.1)) with
   |some (.box cs),some xs=>xs.length=P.cellsOf t/\off+xs.length<=cs.length/\(P.info? t).isSome=true/\K (St.put ⟨s.tm,bA s.st k (.box (splice cs off xs))⟩ dst (.eu []))
   |_,_=>False
 | .c (.nM k i off)=>
   match bC s.st k,(zH x).bind (·.mapM QE) with
   |some (.fM bB es),some ds=>ds.length=P.cellsOf t/\off+ds.length<=bB/\i<es.length/\(P.info? t).isSome=true/\
     K (St.put ⟨s.tm,bA s.st k (.fM bB (es.set i (Cr (es.getD i []) off ds)))⟩ dst (.eu []))
   |_,_=>False
 | .c (.xq k r p z i off)=>
   match bC s.st k,x with
   |some (.xf rs),.c (.d d)=>
    match atR rs r p with
    |some es=>
     match cellAt es i off with
     |some d0=>XK d0=true/\XK d=true/\(es.getD i []).length=z/\P.cellsOf t=1/\(P.info? t).isSome=true/\
       K (St.put ⟨s.tm,bA s.st k (.xf (LK rs r p (es.set i ((es.getD i []).set off d))))⟩ dst (.eu []))
     |none=>False
    |none=>False
   |_,_=>False
 |_=>False
def Bo(P:Program)(t:TypeId)(l c:V)(s:St)(dst:Option Nat)(K:St->Prop):Prop:=
 match P.underlying t,l,c with
 |some (.slice e),.c (.d (.i _ n)),.c (.d (.i _ m))=>
  match(j5 P e).bind (·.mapM QE) with
  |some zd=>zd.length=P.cellsOf e/\P.bytesOf e<=4096/\0<=n/\n<=1073741824/\n=m/\newObj s dst (.fM (P.cellsOf e) (List.replicate n.toNat zd)) (fun k=>.c (.jO k)) K
  |none=>False
 |_,_,_=>False
def xD(s:St)(dst:Option Nat)(K:St->Prop):Prop:=newObj s dst (.mp []) (fun k=>.c (.mp k)) K
def LY(l:List UInt8)(m:List (List UInt8)):List (List UInt8):=if l∈m then m else m++[l]
def xE(P:Program)(t:TypeId)(x k v:V)(s:St)(dst:Option Nat)(K:St->Prop):Prop:=
 match P.underlying t,x,k,v with
 |some (.map kt _),.c (.mp key),.c (.d (.s l)),.c (.d (.b true))=>
  match bC s.st key,P.underlying kt with
  |some (.mp m),some .string=>K (St.put ⟨s.tm,bA s.st key (.mp (LY l m))⟩ dst (.eu []))
  |_,_=>False
 |_,_,_,_=>False
def X7(P:Program)(u:TypeId)(v:V):Option (List (List D)):=
 match P.underlying u,v with
 |some (.slice _),.c x=>DF x
 |some .string,.c (.d (.s l))=>some (l.map fun b=>[D.i .u8 b.toNat])
 |_,_=>none
def Bp(S:Store):Bool:=match S with
 |(.xf (_::_)::_)::_=>true
 |_=>false
def Et(b:Bool)(es:List (List D))(s:St)(dst:Option Nat)(z:Nat)(x:List (List D))(K:St->Prop):Prop:=
 match b with
 |false=>newObj s dst (.tok z x) (fun k=>.c (.bJ k x)) K
 |true=>es.length<x.length/\newObj s dst (.fM z x) (fun k=>.c (.jO k)) K
def Gg(l:Option Nat)(es:List (List D))(s:St)(dst:Option Nat)(z:Nat)(x:List (List D))(K:St->Prop):Prop:=
 match l with
 |none=>Et (Bp s.st) es s dst z x K
 |some n=>match es with
  |[]=>K (St.put ⟨s.tm,s.st⟩ dst (.c (.d (.ol n x))))
  |_::_=>newObj s dst (.tok z x) (fun k=>.c (.bJ k x)) K
def Bq:Option Obj->Bool
 |some (.seed (_+1))=>true
 |_=>false
def adR(S:Store):Bool:=Bq (bC S (0,1))
def I4(b:Bool)(n:Nat)(s:St)(dst:Option Nat)(z:Nat)(x:List (List D))(K:St->Prop):Prop:=
 match b with
 |false=>newObj s dst (.eP n z x) (fun k=>.c (.bJ k x)) K
 |true=>K (St.put ⟨s.tm,s.st⟩ dst (.c (.d (.ol n x))))
def vK(P:Program)(t u:TypeId)(x y:V)(s:St)(dst:Option Nat)(K:St->Prop):Prop:=
 match P.underlying t,X7 P u y with
 |some (.slice e),some ys=>
  (∀y∈ys,y.length=P.cellsOf e)/\P.bytesOf e<=4096/\(∃zs,j5 P e=some zs/\zs.length=P.cellsOf e)/\
  match x with
  | .c (.bJ k es)=>
    match bC s.st k with
    |some (.tok bB es')=>bB=P.cellsOf e/\es'=es/\es.length+ys.length<=1073741824/\K (St.put ⟨s.tm,bA s.st k (.tok bB (es++ys))⟩ dst (.c (.bJ k (es++ys))))
    |some (.eP n bB es')=>bB=P.cellsOf e/\es'=es/\es.length+ys.length<=1073741824/\K (St.put ⟨s.tm,bA s.st k (.eP n bB (es++ys))⟩ dst (.c (.bJ k (es++ys))))
    |_=>False
  | .c (.bH es)=>(∀y∈es,y.length=P.cellsOf e)/\es.length+ys.length<=1073741824/\Gg (tH s.st) es s dst (P.cellsOf e) (es++ys) K
  | .c (.mE n es)=>(∀y∈es,y.length=P.cellsOf e)/\es.length+ys.length<=1073741824/\I4 (adR s.st) n s dst (P.cellsOf e) (es++ys) K
  |_=>False
 |_,_=>False
def Known(P:Program)(f:FuncId):Prop:=∃fn,P.funcs[f]? =some fn/\(fn.name== "runtime.NumGoroutine")=false/\fn.body.isSome=true
def pO(w:World)(σ:Nat->Nat)(S:Store)(β:Hs)(xs:List V)(vs:List Value):Prop:=
 xs.length=vs.length/\∀(j:Nat)(x:V),xs[j]? =some x->∃v:Value,vs[j]? =some v/\dR w σ S β x v
def bS(P:Program)(f:FuncId)(args:List V)(S:Store)(post:V->Store->Prop):Prop:=
 Known P f/\∀w σ β vs,fC w σ S β->pO w σ S β args vs->
  Calls P f vs.toArray w fun e w'=>∃v r S' σ' β',e=.returned v/\fC w' σ' S' β'/\Keep S β S' β'/\Step S β σ w S' β' σ' w'/\dR w' σ' S' β' r v/\post r S'
def aD(P:Program)(f:FuncId)(args:List V)(r:V):Prop:=∀S,bS P f args S fun r' S'=>r'=r/\S'=S
def adS(P:Program)(f:FuncId)(args:List V)(r:V):Prop:=
 ∃fn e,P.funcs[f]? =some fn/\(fn.name== "runtime.NumGoroutine")=false/\fn.body.isNone=true/\Extern.findNext fn=none/\Extern.find fn=some e/\
  ∀w σ S β vs,fC w σ S β->pO w σ S β args vs->∃v,(e vs.toArray).run P w=.ok v w/\dR w σ S β r v
def Dg(P:Program)(f:FuncId)(args:List V)(s:St)(dst:Option Nat)(K:St->Prop):Prop:=
 (∃post,bS P f args s.st post/\∀r S',post r S'->K (St.put ⟨s.tm,S'⟩ dst r))\/(∃r,adS P f args r/\K (St.put s dst r))
def qz(P:Program)(c:Call)(s:St)(dst:Option Nat)(K:St->Prop):Prop:=
 match c.callee with
 | .value x=>
   match ev s.tm x with
   | .c (.fn f caps)=>Dg P f (c.args.toList.map (ev s.tm)++caps.map fun y=>.c (.ptr y.1 y.2)) s dst K
   |_=>False
 | .builtin .append=>
   match c.args.toList,c.argTypes.toList with
   |[x,y],[t,u]=>vK P t u (ev s.tm x) (ev s.tm y) s dst K
   |_,_=>False
 | .builtin .len=>
   match c.args.toList,c.argTypes.toList with
   |[x],[t]=>(Ke P s.st t (ev s.tm x)).1/\K (s.put dst (Ke P s.st t (ev s.tm x)).2)
   |_,_=>False
 | .builtin .max=>
   match c.args.toList with
   |[x,y]=>(zW true (ev s.tm x) (ev s.tm y)).1/\K (s.put dst (zW true (ev s.tm x) (ev s.tm y)).2)
   |_=>False
 | .builtin .min=>
   match c.args.toList with
   |[x,y]=>(zW false (ev s.tm x) (ev s.tm y)).1/\K (s.put dst (zW false (ev s.tm x) (ev s.tm y)).2)
   |_=>False
 |_=>False
def dP(P:Program)(o:Oper)(s:St)(K:St->Prop):Prop:=
 match o.op with
 | .alloc t=>yj P t s o.dst K
 | .box _ x=>Gf (ev s.tm x) s o.dst K
 | .store t a x=>yt P t (ev s.tm a) (ev s.tm x) s o.dst K
 | .makeSlice t l c=>Bo P t (ev s.tm l) (ev s.tm c) s o.dst K
 | .makeMap _ none=>xD s o.dst K
 | .mapUpdate t m k v=>xE P t (ev s.tm m) (ev s.tm k) (ev s.tm v) s o.dst K
 | .call c=>qz P c s o.dst K
 |op=>(nval P s.st s.tm op).1/\K (s.put o.dst (nval P s.st s.tm op).2)
structure lU(N:Nat)(s:St)(a:Act)(w:World)(σ:Nat->Nat)(β:Hs):Prop where
 size:a.tmps.size=N
 defers:a.defers=[]
 S:fC w σ s.st β
 T:Kc w σ s.st β s.tm a
def Then(N:Nat)(S:Store)(β:Hs)(σ:Nat->Nat)(w:World)(K:St->Prop)(a':Act)(w':World):Prop:=
 ∃s' σ' β',lU N s' a' w' σ' β'/\Step S β σ w s'.st β' σ' w'/\Keep S β s'.st β'/\K s'
section
variable {P:Program} {w w':World} {σ σ':Nat->Nat} {S:Store} {β β':Hs} {N:Nat} {s:St} {a:Act}
theorem FQ{S':Store}{tm:List (Nat×V)}{dst:Option Nat}{x:V}{v:Value}(hd:∀d,dst=some d->d<N)(hsz:a.tmps.size=N)(hdf:a.defers=[])(hS:fC w' σ' S' β')(hT:Kc w' σ' S' β' tm a)(hx:dR w' σ' S' β' x v):
 lU N (St.put ⟨tm,S'⟩ dst x) (a.put dst v) w' σ' β':=by
 cases dst with
 |none=>exact⟨hsz,hdf,hS,hT⟩
 |some d=>
  refine⟨by simp[Act.put,hsz],hdf,hS,fun t=> ?_⟩;show dR w' σ' S' β' (if d=t then x else look tm t) ((a.tmps.setIfInBounds d v).getD t undef)
  have hlt:d<a.tmps.size:=by rw[hsz];exact hd d rfl
  by_cases e:d=t
  ·subst e;rw[if_pos rfl];simp[Array.getD,hlt];exact hx
  ·rw[if_neg e]
   have:(a.tmps.setIfInBounds d v).getD t undef=a.tmps.getD t undef:=by
    simp only[eh];rw[eV e]
   rw[this];exact hT t
theorem uG{o:Oper}{K:St->Prop}{Q:Exit->Act->World->Prop}{x:V}{v:Value}(hd:∀d,o.dst=some d->d<N)(hR:lU N s a w σ β)(hg:Grow w σ w' σ')
 (hx:dR w' σ' s.st β x v)(hrun:(execOp a.eval o).run P w=.ok (.value v) w')(hK:K (s.put o.dst x)):o.wp P a w (Then N s.st β σ w K) Q:=by
 unfold Oper.wp;rw[hrun];show Then N s.st β σ w K (a.put o.dst v) w';have hr:lU N (St.put ⟨s.tm,s.st⟩ o.dst x) (a.put o.dst v) w' σ' β:=FQ hd hR.size hR.defers (hR.S.grow hg) (hR.T.mono hg.near (Keep.refl _ _)) hx;refine⟨s.put o.dst x,σ',β,hr,?_,?_,hK⟩
 ·have:(s.put o.dst x).st=s.st:=by cases h:o.dst<;>rfl
  rw[this];exact Step.oQ hg
 ·have:(s.put o.dst x).st=s.st:=by cases h:o.dst<;>rfl
  rw[this];exact Keep.refl _ _
theorem nR(dst:Option Nat)(tm:List (Nat×V))(S:Store)(x:V):(St.put ⟨tm,S⟩ dst x).st=S:=by cases dst<;>rfl
theorem mD{o:Oper}{K:St->Prop}{Q:Exit->Act->World->Prop}{S':Store}{x:V}{v:Value}{nx:Next}(hd:∀d,o.dst=some d->d<N)(hR:lU N s a w σ β)(hS:fC w' σ' S' β')(hk:Keep s.st β S' β')
 (hst:Step s.st β σ w S' β' σ' w')(hx:dR w' σ' S' β' x v)(hnx:nx=.value v\/(nx=.skip/\v=undef))(hrun:(execOp a.eval o).run P w=.ok nx w')(hK:K (St.put ⟨s.tm,S'⟩ o.dst x)):
 o.wp P a w (Then N s.st β σ w K) Q:=by
 unfold Oper.wp;rw[hrun];have hr:lU N (St.put ⟨s.tm,S'⟩ o.dst x) (a.put o.dst v) w' σ' β':=FQ hd hR.size hR.defers hS (hR.T.mono hst.near hk) hx;have anl:Then N s.st β σ w K (a.put o.dst v) w':=⟨_,σ',β',hr,by rw[nR];exact hst,by rw[nR];exact hk,hK⟩;rcases hnx with rfl|⟨rfl,rfl⟩
 ·exact anl
 ·exact anl
theorem Ap:dR w σ S β (.eu []) undef:=⟨#[],rfl,rfl,fun j y h=>by simp at h⟩
theorem QY{o:Oper}{K:St->Prop}{Q:Exit->Act->World->Prop}{cs:List C}{v:Value}{t:TypeId}(hd:∀d,o.dst=some d->d<N)(hR:lU N s a w σ β)
 (hc:gN w σ s.st β cs v.cells.toList)(hrun:∀ad w',(newVar t v).run P w=.ok ad w'->(execOp a.eval o).run P w=.ok (.value (.pointer (some ad))) w')(h:newObj s o.dst (.box cs) (fun k=>.c (.ptr k 0)) K):
 o.wp P a w (Then N s.st β σ w K) Q:=by
 obtain⟨tm,st⟩:=s
 cases st with
 |nil=>exact h.elim
 |cons own Ω=>
  cases β with
  |nil=>have:=hR.S.shape.1;simp at this
  |cons bo bΩ=>
   have hlen:bo.length=own.length:=by
    obtain⟨gr,h1,h2⟩:=hR.S.shape.2 0 own rfl;simp at h1;rw[h1];exact h2
   obtain⟨w',σ',h',QZ,rfl,hS',hk,hst⟩:=an4 (P:=P) (t:=t) hR.S hlen hc;exact mD hd hR hS' hk hst (acA hlen) (.inl rfl) (hrun _ _ QZ) h
theorem frames{tm:List (Nat×V)}{own:List Obj}{Ω:Store}(hR:lU N ⟨tm,own::Ω⟩ a w σ β):∃bo bΩ,β=bo::bΩ/\bo.length=own.length:=by
 cases β with
 |nil=>have:=hR.S.shape.1;simp at this
 |cons bo bΩ=>
  refine⟨bo,bΩ,rfl,?_⟩;obtain⟨gr,h1,h2⟩:=hR.S.shape.2 0 own rfl;simp at h1;rw[h1];exact h2
theorem aaT{o:Oper}{K:St->Prop}{Q:Exit->Act->World->Prop}{t:TypeId}{x y:Operand}(ho:o.op=.store t x y)(hd:∀d,o.dst=some d->d<N)(hR:lU N s a w σ β)
 (h:yt P t (ev s.tm x) (ev s.tm y) s o.dst K):o.wp P a w (Then N s.st β σ w K) Q:=by
 have hx:=lK hR.T x;have hy:=lK hR.T y
 have hrun:∀w',(Instr.storeAt t (a.eval x) (a.eval y)).run P w=.ok () w'->(execOp a.eval o).run P w=.ok .skip w':=by
  intro w' hst;clear h;obtain⟨dst,op,ty,pos,after,guard⟩:=o;simp only at ho;subst ho;simp[execOp,hst]
 unfold yt at h;split at h
 ·rename_i k off hex;rw[hex] at hx;split at h
  ·rename_i cs xs hk hxs;obtain⟨h1,h2,h3,h4⟩:=h
   cases hcv:zH (ev s.tm y) with
   |none=>rw[hcv] at hxs;cases hxs
   |some ys=>
    rw[hcv] at hxs;obtain⟨w',σ',hh,hrs,hb,hS',hkp,hst⟩:=agD (P:=P) (t:=t) hR.S hx hk (agC hxs (Bl hcv hy)) h1 h2 h3;exact mD hd hR hS' hkp hst Ap (.inr ⟨rfl,rfl⟩) (hrun _ hrs) h4
  ·exact h.elim
 ·rename_i k i off hex;rw[hex] at hx;split at h
  ·rename_i bB es ds hk hds;obtain⟨h1,h2,h3,h4,h5⟩:=h
   cases hcv:zH (ev s.tm y) with
   |none=>rw[hcv] at hds;cases hds
   |some ys=>
    rw[hcv] at hds;obtain⟨l1,l2⟩:=TV hds (Bl hcv hy);obtain⟨w',σ',hh,hrs,hb,hS',hkp,hst⟩:=agE (P:=P) (t:=t) hR.S hx hk ⟨by simpa using l1,l2⟩ h1 h2 h3 h4;exact mD hd hR hS' hkp hst Ap (.inr ⟨rfl,rfl⟩) (hrun _ hrs) h5
  ·exact h.elim
 ·rename_i k r p z i off hex;rw[hex] at hx;split at h
  ·rename_i rs d hk hey;rw[hey] at hy;split at h
   ·rename_i es hes;split at h
    ·rename_i d0 hc;obtain⟨h1,h2,h3,h4,h5,h6⟩:=h
     have hcl:(a.eval y).cells.toList=[a.eval y]:=by
      obtain⟨hy1,_⟩:=hy;generalize a.eval y=yv at hy1
      cases d<;>first|(cases h2;done)|(cases hy1;rfl)
     obtain⟨w',σ',hh,hrs,hb,hS',hkp,hst⟩:=ajN (P:=P) (t:=t) hR.S hx hk hes hc h1 h2 h3 hcl hy.1 h4 h5;exact mD hd hR hS' hkp hst Ap (.inr ⟨rfl,rfl⟩) (hrun _ hrs) h6
    ·exact h.elim
   ·exact h.elim
  ·exact h.elim
 ·exact h.elim
theorem adT{o:Oper}{K:St->Prop}{Q:Exit->Act->World->Prop}{t:TypeId}{x y:Operand}(ho:o.op=.makeSlice t x y)(hd:∀d,o.dst=some d->d<N)(hR:lU N s a w σ β)
 (h:Bo P t (ev s.tm x) (ev s.tm y) s o.dst K):o.wp P a w (Then N s.st β σ w K) Q:=by
 have hx:=lK hR.T x;have hy:=lK hR.T y;unfold Bo at h;split at h
 ·rename_i e k1 n k2 m ht hex hey;rw[hex] at hx;rw[hey] at hy;obtain⟨hx1,_⟩:=hx;obtain⟨hy1,_⟩:=hy;generalize hxe:a.eval x=xv at hx1;generalize hye:a.eval y=yv at hy1;cases hx1;cases hy1;split at h
  ·rename_i zd hzd;obtain⟨h1,hb,h2,h3,h4,h5⟩:=h;subst h4
   cases hzs:j5 P e with
   |none=>rw[hzs] at hzd;cases hzd
   |some zs=>
    rw[hzs] at hzd;obtain⟨z,zI,hzc⟩:=yh (w:=w) (σ:=σ) (S:=s.st) (β:=β) hzs;obtain⟨l1,l2⟩:=TV hzd hzc
    have hinfo:(P.info? e).isSome=true:=by
     unfold j5 at hzs
     cases hi:P.info? e with
     |none=>rw[hi] at hzs;cases hzs
     |some i=>rfl
    obtain⟨info,hi⟩:=fl.1 hinfo
    have hib:info.bytes=P.bytesOf e:=by simp[Program.bytesOf,hi]
    have his:info.size=P.cellsOf e:=by simp[Program.cellsOf,hi]
    have LW:z.cells.size=P.cellsOf e:=by simp at l1;omega
    obtain⟨nn,rfl⟩:=Int.eq_ofNat_of_zero_le h2
    have hwrap:IntKind.i64.wrap (nn:Int)=(nn:Int):=by
     exact IntWalk.i64_in _ gA
    have hnb:¬(281474976710656<(info.bytes:Int)*nn):=by
     have:info.bytes*nn<=4096*1073741824:=gx gA gA
     have h':((info.bytes*nn:Nat):Int)<=4398046511104:=gA
     rw[Int.natCast_mul] at h';omega
    have anm:¬((nn:Int)<0):=gA
    let zero:Array Value:=if nn*P.cellsOf e=0 then #[] else z.cells
    let row:Array Value:=(Array.range (nn*P.cellsOf e)).map (zero[· % zero.size]!)
    have hrun:(execOp a.eval o).run P w=.ok (.value (.slice (some ⟨w.heap.size,0,none⟩) nn nn)) {w with heap:=w.heap.push (.cells row e)}:=by
     obtain⟨dst,op,ty,pos,after,guard⟩:=o;simp only at ho;subst ho
     have hrow:∀z',z'=zero->(Array.range (nn*P.cellsOf e)).map (z'[· % z'.size]!)=row:=fun z' e=>by rw[e]
     by_cases h0:nn*P.cellsOf e=0
     ·have hz0:zero= #[]:=if_pos h0;have hr:=hrow #[] hz0.symm;simp only[execOp,hxe,hye,Instr.makeSlice,Sem.run_bind,run_underlying ht,Result.andThen_ok,asInt,asIntOf,Sem.run_pure,typeInfo,run_program,hi,hwrap,run_askRoom,sizeOf,his,h0,if_true,fk];simp[hnb,anm,newRow,<-hr,h0,hi,his]
     ·have hz0:zero=z.cells:=if_neg h0;have hr:=hrow z.cells hz0.symm;have auy:(zeroValue e).run P w=.ok z w:=zI;simp only[execOp,hxe,hye,Instr.makeSlice,Sem.run_bind,run_underlying ht,Result.andThen_ok,asInt,asIntOf,Sem.run_pure,typeInfo,run_program,hi,hwrap,run_askRoom,sizeOf,his,h0,if_false,fk];simp[hnb,anm,newRow,<-hr,h0,auy,hi,his]
    obtain⟨tm,st⟩:=s
    cases st with
    |nil=>exact h5.elim
    |cons own Ω=>
     obtain⟨bo,bΩ,rfl,hlen⟩:=frames hR;have hg:=Fg w σ hR.S.live row e 0
     have hrs:row.size=nn*P.cellsOf e:=by simp[row]
     have asB:(List.replicate nn zd).flatten.length=nn*P.cellsOf e:=by
      rw[iT _ (P.cellsOf e) (fun e he=>by rw[List.eq_of_mem_replicate he];exact h1)];simp
     obtain⟨hS',hk,hst⟩:=hR.S.push (o:=.fM (P.cellsOf e) (List.replicate nn zd)) (h:=.slice (some ⟨w.heap.size,0,none⟩) nn nn) hg hlen (by
      refine⟨fun e he=>by rw[List.eq_of_mem_replicate he];exact h1,some ⟨w.heap.size,0,none⟩,nn,gL,gL,.inr ⟨w.heap.size,row,e,rfl,gL,gL,by simp[hrs],fun j d hj=> ?_⟩⟩
      have hjl:j<nn*P.cellsOf e:=by rw[<-asB];exact(ap.1 hj).1
      have hpos:0<P.cellsOf e:=by
       rcases fx (P.cellsOf e) with h|h
       ·rw[h] at hjl;simp at hjl
       ·exact h
      have hz0:zero=z.cells:=if_neg gA
      have hdm:j/P.cellsOf e<(List.replicate nn zd).length:=by
       rw[List.length_replicate];exact(Nat.div_lt_iff_lt_mul hpos).2 hjl
      have hfg:=flat_get (List.replicate nn zd) (P.cellsOf e) (fun e he=>by rw[List.eq_of_mem_replicate he];exact h1) (j/P.cellsOf e) (j % P.cellsOf e) hdm (Nat.mod_lt _ hpos);rw[Nat.mul_comm,Nat.div_add_mod] at hfg;rw[hj,List.getElem_replicate] at hfg;obtain⟨v,hv,hr⟩:=l2 _ d hfg.symm;refine⟨v,?_,hr.mono hg.near⟩
      have hlt:j % P.cellsOf e<z.cells.size:=by rw[LW];exact Nat.mod_lt _ hpos
      have hv':z.cells[j % P.cellsOf e]? =some v:=by simpa using hv
      simp only[row,Array.getElem?_map,Array.getElem?_range,hjl,if_true,dC,hz0,LW];rw[getElem!_pos z.cells (j % P.cellsOf e) hlt];rw[cq hlt] at hv'
      exact hv') (fun b hb=>by
       simp only[owns,blk] at hb;split at hb
       ·cases hb
       ·cases hb;exact ax _)
     refine mD (x:=.c (.jO (0,own.length))) hd hR hS' hk hst ⟨⟨_,dw _ _ _,fun bB es e=> ?_⟩,rfl⟩ (.inl rfl) hrun (by rw[fk] at h5;exact h5);rw[<-hlen,dw]
  ·exact h.elim
 ·exact h.elim
theorem X8{o:Oper}{K:St->Prop}{Q:Exit->Act->World->Prop}{t:TypeId}(ho:o.op=.makeMap t none)(hd:∀d,o.dst=some d->d<N)(hR:lU N s a w σ β)
 (h:xD s o.dst K):o.wp P a w (Then N s.st β σ w K) Q:=by
 obtain⟨tm,st⟩:=s
 cases st with
 |nil=>exact h.elim
 |cons own Ω=>
  obtain⟨bo,bΩ,rfl,hlen⟩:=frames hR
  let w':World:={w with heap:=w.heap.push (.map #[] 0)}
  have hrun:(execOp a.eval o).run P w=.ok (.value (.map (some w.heap.size))) w':=by
   obtain⟨dst,op,ty,pos,after,guard⟩:=o;simp only at ho;subst ho;simp[execOp,Instr.makeMap,newObj,w']
  have hg:Grow w σ w' σ:=⟨by simp[w'],rfl,rfl,fun b hb=>⟨by simp[w',dj,Nat.ne_of_lt hb],rfl⟩,fun b=>by
   rcases hR.S.live b with h|h
   ·exact .inl (by simp[w'];omega)
   ·exact .inr h⟩
  have hs0:σ w.heap.size=0:=by
   rcases hR.S.live w.heap.size with h|h
   ·omega
   ·exact h
  obtain⟨hS',hk,hst⟩:=hR.S.push (o:=.mp []) (h:=.map (some w.heap.size)) hg hlen ⟨w.heap.size,#[],0,rfl,by simp[w'],hs0,rfl⟩ (fun b hb=>by cases hb;exact ax _);refine mD (x:=.c (.mp (0,own.length))) hd hR hS' hk hst ⟨⟨_,dw _ _ _,fun m e=> ?_⟩,rfl⟩ (.inl rfl) hrun h;rw[<-hlen,dw]
theorem X9{o:Oper}{K:St->Prop}{Q:Exit->Act->World->Prop}{t:TypeId}{x y z:Operand}(ho:o.op=.mapUpdate t x y z)(hd:∀d,o.dst=some d->d<N)(hR:lU N s a w σ β)
 (h:xE P t (ev s.tm x) (ev s.tm y) (ev s.tm z) s o.dst K):o.wp P a w (Then N s.st β σ w K) Q:=by
 have hx:=lK hR.T x;have hy:=lK hR.T y;have hz:=lK hR.T z;unfold xE at h;split at h
 ·rename_i kt et key l ht hex hey hez;rw[hex] at hx;rw[hey] at hy;rw[hez] at hz;split at h
  ·rename_i m hk hkt;obtain⟨⟨o',ho',h2⟩,_⟩:=hx;rw[hk] at ho';cases ho';have hh:=h2 m rfl;obtain⟨hv,hh',hr⟩:=hR.S.obj key _ hk;rw[hh] at hh';cases hh';generalize hxe:a.eval x=xv at hh hr;generalize hye:a.eval y=yv at hy;generalize hze:a.eval z=zv at hz;obtain⟨b,es,clock,rfl,hb,hσ,hes⟩:=hr;obtain⟨hy1,_⟩:=hy;cases hy1;obtain⟨hz1,_⟩:=hz;cases hz1;obtain⟨hks,hvs,hmem⟩:=acy hes;have hkey:MapKept.IsKey .string (.string ⟨l.toArray⟩):=trivial
   have main:∃es' clock',(Instr.mapUpdate t (.map (some b)) (.string ⟨l.toArray⟩) (.bool true)).run P w=.ok () {w with heap:=w.heap.setIfInBounds b (.map es' clock')}/\
    es'.toList.map (fun e=>(e.key,e.val))=(LY l m).map (fun l=>(Value.string ⟨l.toArray⟩,Value.bool true)):=by
    rcases MapKept.findNow_spec hkey es.toList 0 hks with⟨h1,h3⟩|⟨j,e0,h1,h3,h4⟩
    ·have hn:l∉m:=fun hl=>by
      obtain⟨e,he,hke⟩:=(hmem l).1 hl;exact h3 e he hke
     refine⟨es.push ⟨.string ⟨l.toArray⟩,.bool true,clock⟩,clock+1,?_,?_⟩
     ·simp[Instr.mapUpdate,run_underlying ht,MapKept.run_getObj_map hb,MapKept.run_checkKey hkt hkey,MapKept.run_findKey hkt h1,MapKept.run_setObj_map _ hb,Result.andThen]
     ·rw[LY,if_neg hn,Array.toList_push,bw,bw,hes];rfl
    ·have hj:es[j]? =some e0:=by simpa using h3
     have he0:e0∈es.toList:=de h3;have hy:l∈m:=(hmem l).2 ⟨e0,he0,h4⟩;refine⟨es.modify j (fun e'=>{e' with key:=.string ⟨l.toArray⟩,val:=.bool true}),clock,?_,?_⟩
     ·simp[Instr.mapUpdate,run_underlying ht,MapKept.run_getObj_map hb,MapKept.run_checkKey hkt hkey,MapKept.run_findKey hkt h1,hj,h4,MapKept.run_keyThatStays hkey,MapKept.run_setObj_map _ hb,Result.andThen]
     ·rw[LY,if_pos hy,<-hes];refine dl fun i=> ?_;simp only[bE,cm,db];by_cases e:j=i
      ·subst e;rw[if_pos rfl,hj];simp only[dC,cC,Prod.mk.injEq];exact⟨h4.symm,(hvs e0 he0).symm⟩
      ·rw[if_neg e]
   obtain⟨es',clock',hrun,hes'⟩:=main;have hlt:b<w.heap.size:=lt_of_some hb
   have hne:∀b',b'≠b->(w.heap.setIfInBounds b (.map es' clock'))[b']? =w.heap[b']? :=fun b' hb'=>by simp[Ne.symm hb']
   have hn:eH w σ {w with heap:=w.heap.setIfInBounds b (.map es' clock')} σ:=by
    intro b1 c1 t1 DJ e1;refine⟨ax _,fun _=>rfl,c1,?_,rfl,fun _ _=>rfl⟩;by_cases hb1:b1=b
    ·subst hb1;rw[hb] at e1;cases e1
    ·exact(hne b1 hb1).trans e1
   obtain⟨hS',hkp,hst⟩:=hR.S.set (w':={w with heap:=w.heap.setIfInBounds b (.map es' clock')}) (σ':=σ) (o':=.mp (LY l m)) (h':=.map (some b)) hk hh gL rfl rfl hn (fun x=>by simpa using hR.S.live x)
    (fun b1 hb1 hbk=>⟨hne b1 (fun e=>hbk (by rw[e];rfl)),rfl⟩) (.inr ⟨⟨_,rfl⟩,rfl⟩) ⟨b,es',clock',rfl,by simp[hlt],hσ,hes'⟩ (fun b1 e=>.inl e)
   refine mD hd hR hS' hkp hst Ap (.inr ⟨rfl,rfl⟩) ?_ h;obtain⟨dst,op,ty,pos,after,guard⟩:=o;simp only at ho;subst ho;simp[execOp,hxe,hye,hze,hrun]
  ·exact h.elim
 ·exact h.elim
end
section
variable {P:Program} {w w':World} {σ σ':Nat->Nat} {S:Store} {β β':Hs} {N:Nat} {s:St} {a:Act}
theorem Ya{u:TypeId}{x:V}{ys:List (List D)}{v:Value}{size:Nat}(h:X7 P u x=some ys)(hx:dR w σ S β x v)(hsz:∀y∈ys,y.length=size):QT P u/\DK P w σ size ys v:=by
 unfold X7 at h;split at h
 ·rename_i e x hu;exact⟨.inl ⟨e,hu⟩,LV (Bj h hx.1) hsz⟩
 ·rename_i l hu;cases h;obtain⟨hx1,_⟩:=hx;cases hx1;refine⟨.inr hu,?_⟩
  cases l with
  |nil=>
   intro w' e;obtain⟨h1,h2,ar,h3,h4,h5⟩:=QS (P:=P) (w:=w') (σ:=σ) [];have hb:(⟨[].toArray⟩:ByteArray)=⟨#[]⟩:=rfl;refine⟨h1,fun y hy=>by simp at hy,#[],?_,gL,fun j d hj=>by simp at hj⟩;simp[Builtin.firstCells]
  |cons b l=>
   have:size=1:=by have:=hsz [D.i .u8 b.toNat] gL;simpa using this.symm
   subst this;exact WJ (b::l)
 ·cases h
theorem Yb{m z:Nat}{x:List (List D)}{r:Value}{w:World}{σ:Nat->Nat}{S:Store}{β:Hs}(hob:iI w σ S β (ku (some m) z x) r)(hlive:∀b,b<w.heap.size\/σ b=0):
 ∃σ2,dO w σ2 (.ol m x) r/\(∀b,σ2 b=σ b\/owns (ku (some m) z x) r b)/\∀b,b<w.heap.size\/σ2 b=0:=by
 obtain⟨h1,hle,ad,cap,rfl,hcap,hcase⟩:=hob;rcases hcase with⟨h4,h5⟩|⟨h4,b,off,c,t,rfl,hbc,hσ,hfit⟩
 ·exact⟨σ,h5,fun _=>.inl rfl,hlive⟩
 ·have hm:x.length*z<=cap*z:=cx _ hcap
  have hn:eH w σ w (fun y=>if y=b then c.size+1+m else σ y):=by
   intro b1 c1 t1 DJ e1;by_cases e:b1=b
   ·subst e;rw[hbc] at e1;cases e1;exact⟨by simp only[if_true];omega,fun h=>gA,c,hbc,rfl,fun _ _=>rfl⟩
   ·exact⟨by simp only[if_neg e];exact ax _,fun _=>if_neg e,c1,e1,rfl,fun _ _=>rfl⟩
  refine⟨fun y=>if y=b then c.size+1+m else σ y,?_,fun y=> ?_,fun y=> ?_⟩
  ·have hfl:=iT x z hle
   have hcells:∀(i:Nat)(d:D),x.flatten[i]? =some d->∃v,c[off+i]? =some v/\dO w σ d v:=fun i d hd=>by
    cases h1 with
    |nil=>simp at hd
    |sl b' off' cap' xP es vals c' t' fz' q1 q2 q3 q4 q5 q6=>
     rw[hbc] at q3;cases q3;have hil:=(ap.1 hd).1;rw[hfl] at hil
     have he:xP=z:=by
      cases x with
      |nil=>simp at hil
      |cons y ys=>rw[<-q2 y gL,hle y gL]
     subst he;exact⟨_,q5 i hil,q6 i d hd⟩
   refine .ol m b off cap z x (fun i=>(c[off+i]?).getD undef) c t hcap hle hbc gL gA (fun i hi=> ?_) (fun i d hd=> ?_) ⟨gA,gA⟩
   ·obtain⟨v,hv,_⟩:=hcells i _ (am gA);simp[hv]
   ·obtain⟨v,hv,hr⟩:=hcells i d hd;simp only[hv,dq];exact hr.mono hn
  ·by_cases e:y=b
   ·subst e;right;rw[sO,zX,if_neg gA]
   ·left;exact if_neg e
  ·by_cases e:y=b
   ·left;subst e;exact lt_of_some hbc
   ·simp only[if_neg e];exact hlive y
theorem Yc{t u ty e:TypeId}{sv:Value}{size:Nat}{es ys:List (List D)}{yv:Value}(hl:∀b,b<w.heap.size\/σ b=0)
 (ht:P.underlying t=some (.slice e))(hu:QT P u)(hz:∃zs,j5 P e=some zs/\zs.length=size)(hsize:P.cellsOf e=size)(hb:P.bytesOf e<=4096)
 (hsd:dO w σ (.sl es) sv)(hle:∀e∈es,e.length=size)(hfull:∃ad n,sv=.slice ad n n)(hy:DK P w σ size ys yv)(hne:es.length<(es++ys).length)(hlen:es.length+ys.length<=1073741824):
 ∃r w',(Builtin.append_ #[t,u] ty #[sv,yv]).run P w=.ok r w'/\(∀S' β',iI w' σ S' β' (.fM size (es++ys)) r)/\Grow w σ w' σ/\(∀b,owns (.fM size (es++ys)) r b->w.heap.size<=b)/\r.oneCell'=true:=by
 obtain⟨zs,hzs,hzl⟩:=hz;obtain⟨z,zI,hzc⟩:=yh (w:=w) (σ:=σ) (S:=[]) (β:=[]) hzs
 have LW:z.cells.size=size:=by have:=hzc.1;simp at this;omega
 have hex:∃info,P.info? e=some info/\info.zero=some z:=by
  unfold j5 at hzs
  cases hi:P.info? e with
  |none=>rw[hi] at hzs;cases hzs
  |some i=>
   refine⟨i,rfl,?_⟩
   cases hz:i.zero with
   |none=>rw[hi] at hzs;simp[hz] at hzs
   |some z'=>
    have:(zeroValue e).run P w=.ok z' w:=by simp[zeroValue,typeInfo,hi,hz]
    rw[zI] at this;cases this;rfl
 obtain⟨info,hi,hiz⟩:=hex
 have hib:info.bytes=P.bytesOf e:=by simp[Program.bytesOf,hi]
 have his:info.size=size:=by rw[<-hsize];simp[Program.cellsOf,hi]
 have hlen':(es++ys).length=es.length+ys.length:=ae;obtain⟨base,sCap,rfl⟩:=hfull
 have hn:sCap=es.length:=by cases hsd<;>rfl
 subst hn;obtain⟨hyl,hys,_⟩:=hy w rfl;have hall:∀x∈es++ys,x.length=size:=fun x hx=>(dm.1 hx).elim (hle x) (hys x);have hfl:es.flatten.length=es.length*size:=iT es size hle;have hfy:ys.flatten.length=ys.length*size:=iT ys size hys;obtain⟨aqi,_,QW,X5,QX,X6⟩:=hy w.drew rfl;obtain⟨_,_,oa,hor,LX,hod⟩:=LQ (P:=P) (hsd.mono (eH.drew w σ)) hle;obtain⟨cap,rest,NS,hrest,hrun⟩:=Gd (P:=P) (ty:=ty) (base:=base) (sCap:=es.length) ht hu hi hiz hyl (by rw[his];exact X5) (by rw[his];exact hor) gA hlen (by rw[hib];exact hb)
 let w':World:={w.drew with heap:=w.heap.push (.cells (oa++QW++rest) e)}
 have hn:eH w σ w' σ:=by
  intro b1 c1 t1 DJ e1
  have hne:b1≠w.heap.size:=by have:=lt_of_some e1;omega
  refine⟨ax _,fun _=>rfl,c1,?_,rfl,fun _ _=>rfl⟩;simp only[w'];rw[dj,if_neg hne];exact e1
 have hn':eH w.drew σ w' σ:=hn
 have hheap:w'.heap[w.heap.size]? =some (.cells (oa++QW++rest) e (0,0)):=by simp[w']
 have Yd:σ w.heap.size=0:=by
  rcases hl w.heap.size with h|h
  ·omega
  ·exact h
 refine⟨_,w',hrun,fun S' β'=>⟨hall,_,cap,by rw[hlen'],gA,.inr ⟨w.heap.size,_,e,rfl,hheap,Yd,?_,fun j d hj=> ?_⟩⟩,⟨by simp[w'],rfl,rfl,fun x hx=> ?_,fun x=> ?_⟩,fun x hx=> ?_,rfl⟩
 ·simp only[Array.size_append,LX,QX,hrest,LW];rw[<-cS,<-cS];exact cx _ gA
 ·rw[cV] at hj;by_cases hjl:j<es.length*size
  ·rw[aq gA] at hj;obtain⟨v,hv,hr⟩:=hod j d hj;refine⟨v,?_,hr.mono hn'⟩;rw[fg,cU gA];exact hv
  ·rw[ag gA,hfl] at hj;obtain⟨v,hv,hr⟩:=X6 _ d hj;have hlt:=(bj.1 hv).1;refine⟨v,?_,hr.mono hn'⟩;rw[fg,fY gA,LX,cU gA];exact hv
 ·have hne:x≠w.heap.size:=gA
  simp only[w'];rw[dj,if_neg hne];exact⟨rfl,trivial⟩
 ·simp only[w',gl];exact(hl x).imp (fun h=>gA) id
 ·simp only[owns,blk] at hx;split at hx
  ·cases hx
  ·cases hx;exact ax _
theorem Ye{o:Oper}{K:St->Prop}{Q:Exit->Act->World->Prop}{t u:TypeId}{x y:Operand}{c:Call}(ho:o.op=.call c)(hc:c.callee=.builtin .append)(hca:c.args.toList=[x,y])
 (hct:c.argTypes.toList=[t,u])(hd:∀d,o.dst=some d->d<N)(hR:lU N s a w σ β)(h:vK P t u (ev s.tm x) (ev s.tm y) s o.dst K):o.wp P a w (Then N s.st β σ w K) Q:=by
 have hx:=lK hR.T x;have hy:=lK hR.T y
 have hrun:∀r w',(Builtin.append_ #[t,u] o.type #[a.eval x,a.eval y]).run P w=.ok r w'->(execOp a.eval o).run P w=.ok (.value r) w':=by
  intro r w' hr;clear h;obtain⟨dst,op,ty,pos,after,guard⟩:=o;simp only at ho;subst ho;obtain⟨DL,args,Br⟩:=c;simp only at hc hca hct;subst hc
  obtain rfl:args= #[x,y]:=by rw[<-cH (xs:=args),hca]
  obtain rfl:Br= #[t,u]:=by rw[<-cH (xs:=Br),hct]
  simp only at hr;simp[execOp,resolve,invoke,builtin,hr]
 have grown:∀(lab:Option Nat)(k:Key)(e:TypeId)(es ys:List (List D)),P.underlying t=some (.slice e)->QT P u->DK P w σ (P.cellsOf e) ys (a.eval y)->P.bytesOf e<=4096->(∃zs,j5 P e=some zs/\zs.length=P.cellsOf e)->
  dR w σ s.st β (.c (.bJ k es)) (a.eval x)->bC s.st k=some (ku lab (P.cellsOf e) es)->es.length+ys.length<=1073741824->K (St.put ⟨s.tm,bA s.st k (ku lab (P.cellsOf e) (es++ys))⟩ o.dst (.c (.bJ k (es++ys))))->
  o.wp P a w (Then N s.st β σ w K) Q:=by
  intro lab k e es ys ht hu hsa h2 h3 hx hk h5 h6;obtain⟨⟨hd1,o1,ho1,adU⟩,hone⟩:=hx;rw[hk] at ho1;cases ho1;obtain⟨_,hl2⟩:=adU _ _ adQ;have hβ:=hl2 rfl;obtain⟨hh,hb,IZ⟩:=hR.S.obj k _ hk;rw[hβ] at hb;cases hb
  have Df:iI w σ s.st β (ku lab (P.cellsOf e) es) (a.eval x):=by cases lab<;>exact IZ
  obtain⟨r,w',σ',hr,hro,hsz,hos,hout,hn,hl,vJ,hbk,hzero,h1c⟩:=Bn (P:=P) (ty:=o.type) hR.S.live ht hu h3 rfl h2 Df hsa h5;have hlen:(es++ys).length=es.length+ys.length:=ae
  obtain⟨hS',hkp,hst⟩:=hR.S.set hk hβ hsz hos hout hn hl vJ
   (agF gA (fun e=>by rw[hzero gA])) (hro _ _) hbk
  refine mD (x:=.c (.bJ k (es++ys))) (v:=r) hd hR hS' hkp hst ⟨⟨(Fh (hro s.st β)).1,_,dA _ _ _ _ hk,fun a b e=> ?_⟩,h1c⟩ (.inl rfl) (hrun _ _ hr) h6;obtain⟨_,rfl⟩:=mM e;exact⟨ax _,fun _=>dA _ _ _ _ hβ⟩
 have fresh:∀(lab:Option Nat)(e:TypeId)(es ys:List (List D)),P.underlying t=some (.slice e)->QT P u->DK P w σ (P.cellsOf e) ys (a.eval y)->P.bytesOf e<=4096->(∃zs,j5 P e=some zs/\zs.length=P.cellsOf e)->
  iI w σ s.st β (ku lab (P.cellsOf e) es) (a.eval x)->(∃ad n,a.eval x=.slice ad n n)->es.length+ys.length<=1073741824->newObj s o.dst (ku lab (P.cellsOf e) (es++ys)) (fun k=>.c (.bJ k (es++ys))) K->
  o.wp P a w (Then N s.st β σ w K) Q:=by
  intro lab e es ys ht hu hsa h2 h3 Df hv h6 h7;obtain⟨ad,n,hv⟩:=hv
  have hbk0:blk (ku lab (P.cellsOf e) es) (a.eval x)=none:=by
   obtain⟨hd1,_⟩:=Fh Df;rw[hv] at hd1 ⊢
   have hn:n=es.length:=by cases hd1<;>rfl
   subst hn
   cases ad with
   |none=>cases lab<;>rfl
   |some ad=>rw[zX,if_pos rfl]
  obtain⟨r,w',σ',hr,hro,hsz,hos,hout,hn,hl,vJ,hbk,hzero,h1c⟩:=Bn (P:=P) (ty:=o.type) hR.S.live ht hu h3 rfl h2 Df hsa h6;have hg:Grow w σ w' σ':=⟨hsz,hos,hout,fun b hb=>vJ b hb (by rw[sO,hbk0];simp),hl⟩;obtain⟨tm,st⟩:=s
  cases st with
  |nil=>exact h7.elim
  |cons own Ω=>
   obtain⟨bo,bΩ,rfl,hlen⟩:=frames hR
   obtain⟨hS',hkp,hst⟩:=hR.S.push (o:=ku lab (P.cellsOf e) (es++ys)) (h:=r) hg hlen (hro _ _) (fun b hb=>by
    rcases hbk b hb with h|h
    ·rw[sO,hbk0] at h;cases h
    ·exact h)
   refine mD (x:=.c (.bJ (0,own.length) (es++ys))) (v:=r) hd hR hS' hkp hst ⟨⟨(Fh (hro [] [])).1,_,dw _ _ _,fun a b e=> ?_⟩,h1c⟩ (.inl rfl) (hrun _ _ hr) h7;obtain⟨_,rfl⟩:=mM e;exact⟨ax _,fun _=>by rw[<-hlen,dw]⟩
 unfold vK at h;split at h
 ·rename_i e ys ht hsrc;obtain⟨h1,h2,h3,h4⟩:=h;obtain⟨hu,hsa⟩:=Ya hsrc hy h1;split at h4
  ·rename_i k es hex;rw[hex] at hx;split at h4
   ·rename_i bB es' hk;obtain⟨rfl,rfl,h5,h6⟩:=h4;exact grown none k e es' ys ht hu hsa h2 h3 hx hk h5 h6
   ·rename_i n bB es' hk;obtain⟨rfl,rfl,h5,h6⟩:=h4;exact grown (some n) k e es' ys ht hu hsa h2 h3 hx hk h5 h6
   ·exact h4.elim
  ·rename_i es hex;rw[hex] at hx;obtain⟨h5,h6,h7⟩:=h4;obtain⟨⟨hd1,ad,n,hv⟩,hone⟩:=hx
   have hn:n=es.length:=by rw[hv] at hd1;cases hd1<;>rfl
   have hplain:iI w σ s.st β (ku none (P.cellsOf e) es) (a.eval x):=⟨hd1,h5,ad,n,by rw[hv,hn],gA,.inl hn⟩
   cases hl:tH s.st with
   |none=>
    rw[hl] at h7;have h7:Et (Bp s.st) es s o.dst (P.cellsOf e) (es++ys) K:=h7
    cases hra:Bp s.st with
    |false=>rw[hra] at h7;exact fresh none e es ys ht hu hsa h2 h3 hplain ⟨ad,n,hv⟩ h6 h7
    |true=>
     rw[hra] at h7;obtain⟨h8,h9⟩:=h7;obtain⟨r,w',hr,hro,hg,hbk,h1c⟩:=Yc (P:=P) (ty:=o.type) hR.S.live ht hu h3 rfl h2 hd1 h5 ⟨ad,n,hv⟩ hsa h8 h6;obtain⟨tm,st⟩:=s
     cases st with
     |nil=>exact h9.elim
     |cons own Ω=>
      obtain⟨bo,bΩ,rfl,hlen⟩:=frames hR;obtain⟨hS',hkp,hst⟩:=hR.S.push (o:=.fM (P.cellsOf e) (es++ys)) (h:=r) hg hlen (hro _ _) hbk;refine mD (x:=.c (.jO (0,own.length))) (v:=r) hd hR hS' hkp hst ⟨⟨_,dw _ _ _,fun a b e=> ?_⟩,h1c⟩ (.inl rfl) (hrun _ _ hr) h9;rw[<-hlen,dw]
   |some m=>
    rw[hl] at h7
    cases es with
    |nil=>
     have Df:iI w σ s.st β (ku (some m) (P.cellsOf e) []) (a.eval x):=⟨hd1,h5,ad,n,by rw[hv,hn],gA,.inl ⟨hn,by rw[hv,hn];exact .xO _ _ _⟩⟩
     have hbk0:blk (ku (some m) (P.cellsOf e) []) (a.eval x)=none:=by
      rw[hv,hn]
      cases ad with
      |none=>rfl
      |some ad=>rw[zX,if_pos rfl]
     obtain⟨r,w',σ',hr,hro,hsz,hos,hout,Bt,hlv,vJ,hbk,hzero,h1c⟩:=Bn (P:=P) (ty:=o.type) hR.S.live ht hu h3 rfl h2 Df hsa h6;obtain⟨σ2,k1,k2,k3⟩:=Yb (hro s.st β) hlv
     have hg:Grow w σ w' σ2:=⟨hsz,hos,hout,fun b hb=>by
      obtain⟨f1,f2⟩:=vJ b hb (by rw[sO,hbk0];simp);refine⟨f1,?_⟩;rcases k2 b with k|k
      ·rw[k,f2]
      ·rcases hbk b k with h|h
       ·rw[sO,hbk0] at h;cases h
       ·omega,k3⟩
     exact uG (x:=.c (.d (.ol m ([]++ys)))) hd hR hg ⟨k1,h1c⟩ (hrun _ _ hr) h7
    |cons y es=>exact fresh none e (y::es) ys ht hu hsa h2 h3 hplain ⟨ad,n,hv⟩ h6 h7
  ·rename_i m es hex;rw[hex] at hx;obtain⟨h5,h6,h7⟩:=h4;obtain⟨⟨hd1,ad,n,hv⟩,hone⟩:=hx;have hd2:=vI hd1
   have hn:n=es.length:=by rw[hv] at hd2;cases hd2<;>rfl
   have Df:iI w σ s.st β (ku (some m) (P.cellsOf e) es) (a.eval x):=⟨hd2,h5,ad,n,by rw[hv,hn],gA,.inl ⟨hn,hd1⟩⟩
   cases hs:adR s.st with
   |false=>
    rw[hs] at h7;exact fresh (some m) e es ys ht hu hsa h2 h3 Df ⟨ad,n,hv⟩ h6 h7
   |true=>
    rw[hs] at h7
    have hbk0:blk (ku (some m) (P.cellsOf e) es) (a.eval x)=none:=by
     rw[hv,hn]
     cases ad with
     |none=>rfl
     |some ad=>rw[zX,if_pos rfl]
    obtain⟨r,w',σ',hr,hro,hsz,hos,hout,Bt,hlv,vJ,hbk,hzero,h1c⟩:=Bn (P:=P) (ty:=o.type) hR.S.live ht hu h3 rfl h2 Df hsa h6;obtain⟨σ2,k1,k2,k3⟩:=Yb (hro s.st β) hlv
    have hg:Grow w σ w' σ2:=⟨hsz,hos,hout,fun b hb=>by
     obtain⟨f1,f2⟩:=vJ b hb (by rw[sO,hbk0];simp);refine⟨f1,?_⟩;rcases k2 b with k|k
     ·rw[k,f2]
     ·rcases hbk b k with h|h
      ·rw[sO,hbk0] at h;cases h
      ·omega,k3⟩
    exact uG (x:=.c (.d (.ol m (es++ys)))) hd hR hg ⟨k1,h1c⟩ (hrun _ _ hr) h7
  ·exact h4.elim
 ·exact h.elim
theorem agJ{l:List Operand}(hR:lU N s a w σ β):pO w σ s.st β (l.map (ev s.tm)) (l.map a.eval):=
 ⟨gL,fun j x hx=>by
   rw[bE] at hx ⊢
   cases hl:l[j]? with
   |none=>rw[hl] at hx;cases hx
   |some y=>rw[hl] at hx;cases hx;exact⟨_,rfl,lK hR.T y⟩⟩
theorem pO.append{xs ys:List V}{vs us:List Value}(h:pO w σ S β xs vs)(k:pO w σ S β ys us):pO w σ S β (xs++ys) (vs++us):=by
 refine⟨by simp[h.1,k.1],fun j x hx=> ?_⟩;by_cases hj:j<xs.length
 ·rw[aq hj] at hx;rw[aq (by rw[<-h.1];exact hj)];exact h.2 j x hx
 ·rw[ag gA] at hx;rw[ag (by rw[<-h.1];omega),<-h.1];exact k.2 _ x hx
theorem Q0{o:Oper}{K:St->Prop}{Q:Exit->Act->World->Prop}{c:Call}(ho:o.op=.call c)(hd:∀d,o.dst=some d->d<N)(hR:lU N s a w σ β)(h:qz P c s o.dst K):
 o.wp P a w (Then N s.st β σ w K) Q:=by
 unfold qz at h;split at h
 ·rename_i x hcx;split at h
  ·rename_i f caps hex;have hx:=lK hR.T x;rw[hex] at hx;obtain⟨⟨vs,hv,hvl,asC⟩,_⟩:=hx
   have hargs:pO w σ s.st β (c.args.toList.map (ev s.tm)++caps.map fun y=>V.c (.ptr y.1 y.2)) (c.args.toList.map a.eval++vs.toList):=by
    refine(agJ hR).append ⟨by simp[hvl],fun j z hz=> ?_⟩;rw[bE] at hz
    cases hcj:caps[j]? with
    |none=>rw[hcj] at hz;cases hz
    |some y=>
     rw[hcj] at hz;cases hz;obtain⟨k,off⟩:=y;obtain⟨u,hu,h1c,o1,ho1,h2⟩:=asC j k off hcj;exact⟨u,by simpa using hu,⟨o1,ho1,h2⟩,h1c⟩
   have harr:(c.args.toList.map a.eval++vs.toList).toArray=c.args.map a.eval++vs:=by
    apply Array.ext';simp
   rcases h with⟨post,⟨⟨fn,hf,hnm,hbd⟩,hcall⟩,hK⟩|⟨r,⟨fn,e,hf,hnm,hbd,hfn,hfe,hrun⟩,hK⟩
   ·have hcl:=hcall w σ β _ hR.S hargs
    have hrun:(execOp a.eval o).run P w=.ok (.enter f (c.args.toList.map a.eval++vs.toList).toArray) w:=by
     clear hK hcl hcall hargs;obtain⟨dst,op,ty,pos,after,guard⟩:=o;simp only at ho;subst ho;obtain⟨DL,args,Br⟩:=c;simp only at hcx;subst hcx
     have hbn:fn.body.isNone=false:=by cases hb:fn.body<;>simp_all
     simp only at harr;simp only[execOp,Sem.run_bind,resolve,hv,Deferred.ofValue,Sem.run_pure,Result.andThen_ok,invoke,callFunc,run_program,hf,hnm,hbn,harr]
     simp
    unfold Oper.wp;rw[hrun];refine Calls.mono hcl fun e w' he=> ?_;obtain⟨v,r,S',σ',β',rfl,hS',hkp,hst,hr,hpost⟩:=he;show Then N s.st β σ w K (a.put o.dst v) w';exact⟨_,σ',β',FQ hd hR.size hR.defers hS' (hR.T.mono hst.near hkp) hr,by rw[nR];exact hst,by rw[nR];exact hkp,hK r S' hpost⟩
   ·obtain⟨v,zy,hrep⟩:=hrun w σ s.st β _ hR.S hargs;refine uG hd hR (Grow.refl hR.S.live) hrep ?_ hK;have h1:=run_callFunc_extern (P:=P) hf hnm hbd hfn hfe (c.args.toList.map a.eval++vs.toList).toArray w;rw[zy,harr] at h1;clear hK hargs zy;obtain⟨dst,op,ty,pos,after,guard⟩:=o;simp only at ho;subst ho;obtain⟨DL,args,Br⟩:=c;simp only at hcx;subst hcx;simp only[execOp,Sem.run_bind,resolve,hv,Deferred.ofValue,Sem.run_pure,Result.andThen_ok,invoke];simpa using h1
  ·exact h.elim
 ·rename_i hcb;split at h
  ·rename_i x y t u hca hct;exact Ye ho hcb hca hct hd hR h
  ·exact h.elim
 ·rename_i hcb;split at h
  ·rename_i x t hca hct;obtain⟨h1,h2⟩:=h;obtain⟨v,w',σ',hrun,hg,hv⟩:=XU (P:=P) (t:=t) (ty:=o.type) hR.S (lK hR.T x) h1;refine uG hd hR hg hv ?_ h2;obtain⟨dst,op,ty,pos,after,guard⟩:=o;simp only at ho;subst ho;obtain⟨DL,args,Br⟩:=c;simp only at hcb hca hct;subst hcb
   obtain rfl:args= #[x]:=by rw[<-cH (xs:=args),hca]
   obtain rfl:Br= #[t]:=by rw[<-cH (xs:=Br),hct]
   simp only at hrun;simp[execOp,resolve,invoke,builtin,hrun]
  ·exact h.elim
 ·rename_i hcb;split at h
  ·rename_i x y hca;obtain⟨h1,h2⟩:=h;obtain⟨v,w',σ',hrun,hg,hv⟩:=XR (P:=P) (ts:=c.argTypes) (ty:=o.type) hR.S (lK hR.T x) (lK hR.T y) h1;refine uG hd hR hg hv ?_ h2;obtain⟨dst,op,ty,pos,after,guard⟩:=o;simp only at ho;subst ho;obtain⟨DL,args,Br⟩:=c;simp only at hcb hca;subst hcb
   obtain rfl:args= #[x,y]:=by rw[<-cH (xs:=args),hca]
   simp only at hrun;simp[execOp,resolve,invoke,builtin,hrun]
  ·exact h.elim
 ·rename_i hcb;split at h
  ·rename_i x y hca;obtain⟨h1,h2⟩:=h;obtain⟨v,w',σ',hrun,hg,hv⟩:=XT (P:=P) (ts:=c.argTypes) (ty:=o.type) hR.S (lK hR.T x) (lK hR.T y) h1;refine uG hd hR hg hv ?_ h2;obtain⟨dst,op,ty,pos,after,guard⟩:=o;simp only at ho;subst ho;obtain⟨DL,args,Br⟩:=c;simp only at hcb hca;subst hcb
   obtain rfl:args= #[x,y]:=by rw[<-cH (xs:=args),hca]
   simp only at hrun;simp[execOp,resolve,invoke,builtin,hrun]
  ·exact h.elim
 ·exact h.elim
end
end Go.Ab