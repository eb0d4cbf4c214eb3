/-
  SEVERAL TEXTS IN ONE (merged by program): contracts and models, each with its own heading.
-/
import Derived.Orders
import Derived.Tactics
import Derived.RowKit3
import Derived.Laws.Strings
import Derived.Laws.Entries
import Derived.Laws.Cells
import Derived.MapKept
import Derived.Laws.BytesArg
import Derived.Laws.CopyRow
import Derived.IntWalk
import Derived.Laws.Externs
open Go
abbrev Go.Ab.aa:=@List.length_cons
abbrev Go.Ab.ab:=@List.length_append
abbrev Go.Ab.ac:=@List.getElem_mem
abbrev Go.Ab.ae:=@List.length_nil
abbrev Go.Ab.af:=@List.map_cons
abbrev Go.Ab.ag:=@List.getElem?_eq_getElem
abbrev Go.Ab.ai:=@List.getElem?_eq_some_iff
abbrev Go.Ab.al:=@List.length_map
abbrev Go.Ab.am:=@List.getElem?_append_right
abbrev Go.Ab.an:=@List.getElem?_append_left
abbrev Go.Ab.ao:=@Nat.zero_le
abbrev Go.Ab.ap:=@List.map_nil
abbrev Go.Ab.aq:=@Bool.and_eq_true
abbrev Go.Ab.aw:=@Nat.le_refl
abbrev Go.Ab.ax:=@List.all_eq_true
abbrev Go.Ab.az:=@List.cons_append
abbrev Go.Ab.aE:=@Array.getElem?_eq_some_iff
abbrev Go.Ab.aV:=@List.getElem?_map
abbrev Go.Ab.ba:=@List.nil_append
abbrev Go.Ab.bc:=@List.map_append
abbrev Go.Ab.bd:=@List.mem_map_of_mem
abbrev Go.Ab.be:=@List.sizeOf_lt_of_mem
abbrev Go.Ab.bh:=@List.drop_eq_getElem_cons
abbrev Go.Ab.bi:=@List.take_of_length_le
abbrev Go.Ab.bj:=@Bool.true_and
abbrev Go.Ab.bk:=@List.length_take
abbrev Go.Ab.bm:=@List.getElem_of_mem
abbrev Go.Ab.bp:=@List.getElem?_eq_none
abbrev Go.Ab.br:=@Array.length_toList
abbrev Go.Ab.bt:=@Array.toArray_toList
abbrev Go.Ab.bu:=@List.getElem?_take_of_lt
abbrev Go.Ab.bw:=@Array.getElem?_toList
abbrev Go.Ab.bx:=@Bool.and_true
abbrev Go.Ab.bz:=@List.drop_of_length_le
abbrev Go.Ab.cb:=@Array.getElem?_eq_getElem
abbrev Go.Ab.cd:=@List.mem_range
abbrev Go.Ab.ce:=@Nat.mul_le_mul_right
abbrev Go.Ab.cf:=@List.length_drop
abbrev Go.Ab.cg:=@Nat.lt_succ_self
abbrev Go.Ab.ch:=@List.getD_eq_getElem?_getD
abbrev Go.Ab.ci:=@List.flatten_cons
abbrev Go.Ab.cj:=@List.drop_length
abbrev Go.Ab.ck:=@Nat.add_mul
abbrev Go.Ab.cm:=@Bool.and_self
abbrev Go.Ab.cn:=@List.length_set
abbrev Go.Ab.co:=@List.eq_nil_of_length_eq_zero
abbrev Go.Ab.cp:=@List.mem_map
abbrev Go.Ab.cq:=@List.mem_of_getElem?
abbrev Go.Ab.cr:=@List.getElem?_drop
abbrev Go.Ab.cw:=@Array.getElem?_append_left
abbrev Go.Ab.cx:=@Nat.le_trans
abbrev Go.Ab.cy:=@List.ext_getElem?
abbrev Go.Ab.cz:=@Bool.or_eq_false_iff
abbrev Go.Ab.cA:=@List.getElem?_toArray
abbrev Go.Ab.cC:=@Array.getElem?_push
abbrev Go.Ab.cD:=@Option.some.inj
abbrev Go.Ab.cE:=@List.take_succ_eq_append_getElem
abbrev Go.Ab.cF:=@List.flatten_append
abbrev Go.Ab.cG:=@List.map_congr_left
abbrev Go.Ab.cH:=@List.append_assoc
abbrev Go.Ab.cI:=@Nat.add_sub_cancel_left
abbrev Go.Ab.cJ:=@List.append_nil
abbrev Go.Ab.cL:=@Option.map_some
abbrev Go.Ab.cM:=@List.getElem?_set
abbrev Go.Ab.cN:=@Int.toNat_natCast
abbrev Go.Ab.cP:=@Bool.false_or
abbrev Go.Ab.cQ:=@List.drop_zero
abbrev Go.Ab.cR:=@List.mem_append
abbrev Go.Ab.cS:=@Array.getD_eq_getD_getElem?
abbrev Go.Ab.cT:=@Nat.zero_add
abbrev Go.Ab.cU:=@Nat.sub_self
abbrev Go.Ab.cV:=@List.mapM_cons
abbrev Go.Ab.cW:=@List.getElem?_set_self
abbrev Go.Ab.cX:=@Option.some.injEq
abbrev Go.Ab.cY:=@Bool.eq_false_iff
abbrev Go.Ab.da:=@Bool.or_eq_true
abbrev Go.Ab.db:=@List.take_append_drop
abbrev Go.Ab.dc:=@Nat.le_of_ble_eq_true
abbrev Go.Ab.dd:=@Bool.false_eq_true
abbrev Go.Ab.de:=@List.getElem?_of_mem
abbrev Go.Ab.df:=@List.getElem?_cons_succ
abbrev Go.Ab.di:=@Array.getElem?_eq_none
abbrev Go.Ab.dj:=@List.all_nil
abbrev Go.Ab.dm:=@Nat.add_assoc
abbrev Go.Ab.dn:=@Option.getD_some
abbrev Go.Ab.dp:=@Option.bind_some
abbrev Go.Ab.dt:=@List.mem_singleton
abbrev Go.Ab.du:=@List.mem_cons
abbrev Go.Ab.dv:=@Array.append_assoc
abbrev Go.Ab.dA:=@List.foldl_cons
abbrev Go.Ab.dC:=@List.size_toArray
abbrev Go.Ab.dE:=@Option.isSome_iff_exists
abbrev Go.Ab.dT:=@Nat.add_comm
abbrev Go.Ab.ea:=@Array.getElem?_setIfInBounds_ne
abbrev Go.Ab.eb:=@List.not_all_eq_any_not
abbrev Go.Ab.ec:=@Iff.rfl
abbrev Go.Ab.ed:=@Bool.not_true
abbrev Go.Ab.ef:=@List.all_cons
abbrev Go.Ab.eg:=@List.sum_cons
abbrev Go.Ab.eh:=@Bool.eq_iff_iff
abbrev Go.Ab.ej:=@Bool.not_eq_false'
abbrev Go.Ab.en:=@List.drop_eq_nil_of_le
abbrev Go.Ab.eo:=@Prod.ext
abbrev Go.Ab.ep:=@Bool.not_eq_true'
abbrev Go.Ab.eq:=@Nat.add_zero
abbrev Go.Ab.ew:=@Nat.lt_or_ge
abbrev Go.Ab.ex:=@Bool.not_false
abbrev Go.Ab.ey:=@Bool.and_assoc
abbrev Go.Ab.ez:=@Array.getElem?_append_right
abbrev Go.Ab.eA:=@List.getElem?_set_ne
abbrev Go.Ab.eC:=@List.length_pos_iff
abbrev Go.Ab.eE:=@List.flatMap_append
abbrev Go.Ab.eF:=@Array.size_push
abbrev Go.Ab.eI:=@List.cons.injEq
abbrev Go.Ab.eJ:=@Nat.lt_of_lt_of_le
set_option linter.unusedSimpArgs false
set_option linter.unusedVariables false
namespace Go.Ab
inductive D where
 |b (x:Bool)
 |i (k:IntKind) (n:Int)
 |s (l:List UInt8)
 |sl (es:List (List D))
 |o (v:Value)
 |ol (n:Nat) (es:List (List D))
abbrev Key:=Nat×Nat
inductive C where
 |d (x:D)
 |any
 |bM (k:Key) (es:List (List D))
 |bF (es:List (List D))
 |ptr (k:Key) (off:Nat)
 |iY (cs:List D)
 |iO (k:Key) (i off:Nat)
 |eP (k:Key)
 |fn (f:Nat) (caps:List (Key×Nat))
 |mp (k:Key)
 |kF (n:Nat) (es:List (List D))
 |xp (k:Key) (r:Nat) (p:List (Nat×Nat))
 |xq (k:Key) (r:Nat) (p:List (Nat×Nat)) (z i off:Nat)
 |oW (k:Key) (m:Nat) (v:Value)
inductive V where
 |c (x:C)
 |agg (cs:List C)
 |gq (xs:List (Bool×List C))
 |any
inductive Obj where
 |dead
 |box (cs:List C)
 |tok (aM:Nat) (es:List (List D))
 |cZ (aM:Nat) (es:List (List D))
 |mp (m:List (List UInt8))
 |gX (n aM:Nat) (es:List (List D))
 |seed (n:Nat)
 |xf (rs:List (List (List D)))
abbrev Store:=List (List Obj)
abbrev Hs:=List (List Value)
def aN{α:Type}:List (List α)->Key->Option α
 |[],_=>none
 |fr::_,(0,j)=>fr[j]?
 |_::S,(l+1,j)=>aN S (l,j)
def aP{α:Type}:List (List α)->Key->α->List (List α)
 |[],_,_=>[]
 |fr::S,(0,j),x=>fr.set j x::S
 |fr::S,(l+1,j),x=>fr::aP S (l,j) x
def uM(n:Nat)(k:Key):Key:=(n+k.1,k.2)
def C.up(n:Nat):C->C
 | .d x=>.d x
 | .any=>.any
 | .bM k es=>.bM (uM n k) es
 | .bF es=>.bF es
 | .ptr k off=>.ptr (uM n k) off
 | .iY cs=>.iY cs
 | .iO k i off=>.iO (uM n k) i off
 | .eP k=>.eP (uM n k)
 | .fn f caps=>.fn f (caps.map fun x=>(uM n x.1,x.2))
 | .mp k=>.mp (uM n k)
 | .kF m es=>.kF m es
 | .xp k r p=>.xp (uM n k) r p
 | .xq k r p z i off=>.xq (uM n k) r p z i off
 | .oW k m v=>.oW (uM n k) m v
def V.up(n:Nat):V->V
 | .c x=>.c (x.up n)
 | .agg cs=>.agg (cs.map (C.up n))
 | .gq xs=>.gq (xs.map fun y=>(y.1,y.2.map (C.up n)))
 | .any=>.any
theorem kK{α:Type}(k:Key):aN ([]:List (List α)) k=none:=by unfold aN;rfl
theorem aJ{α:Type}(fr:List α)(S:List (List α))(j:Nat):aN (fr::S) (0,j)=fr[j]? :=by rw[aN]
theorem bB{α:Type}(fr:List α)(S:List (List α))(l j:Nat):aN (fr::S) (l+1,j)=aN S (l,j):=by rw[aN]
theorem dH{α:Type}:∀(n:Nat)(S:List (List α))(k:Key),aN (S.drop n) k=aN S (uM n k)
 |0,S,(l,j)=>by simp[uM]
 |n+1,[],k=>by simp[kK]
 |n+1,fr::S,(l,j)=>by
  rw[List.drop_succ_cons,dH n S (l,j)];show _=aN (fr::S) (n+1+l,j);rw[show n+1+l=(n+l)+1 from by omega,bB];rfl
theorem bP{α:Type}(x:α):∀(S:List (List α))(k:Key)(y:α),aN S k=some y->aN (aP S k x) k=some x
 |[],k,y,h=>by rw[kK] at h;cases h
 |fr::S,(0,j),y,h=>by
  rw[aJ] at h;rw[aP,aJ];have:=ai.1 h;simp[this.1]
 |fr::S,(l+1,j),y,h=>by
  rw[bB] at h;rw[aP,bB];exact bP x S (l,j) y h
theorem dD{α:Type}(x:α):∀(S:List (List α))(k k':Key),k≠k'->aN (aP S k x) k'=aN S k'
 |[],k,k',_=>by simp[aP]
 |fr::S,(0,j),(0,j'),h=>by
  have:j≠j':=fun e=>h (by rw[e]);rw[aP,aJ,aJ];simp[this]
 |fr::S,(0,j),(l'+1,j'),h=>by rw[aP,bB,bB]
 |fr::S,(l+1,j),(0,j'),h=>by rw[aP,aJ,aJ]
 |fr::S,(l+1,j),(l'+1,j'),h=>by
  rw[aP,bB,bB];exact dD x S (l,j) (l',j') (fun e=>h (by injection e with e1 e2;rw[e1,e2]))
inductive dw(w:World)(σ:Nat->Nat):D->Value->Prop
 |b (x:Bool):dw w σ (.b x) (.bool x)
 |i (k:IntKind) (n:Int):dw w σ (.i k n) (.int k n)
 |s (l:List UInt8):dw w σ (.s l) (.string ⟨l.toArray⟩)
 |o (v:Value) (h:v.oneCell'=true):dw w σ (.o v) v
 |nil (a:Option Addr) (cap:Nat):dw w σ (.sl []) (.slice a 0 cap)
 |sl (b off cap aM:Nat) (es:List (List D)) (vals:Nat->Value) (c:Array Value) (t:TypeId) (fz:Nat×Nat)
   (hcap:es.length<=cap) (hlen:∀e∈es,e.length=aM) (hb:w.heap[b]? =some (.cells c t fz)) (hσ:off+es.length*aM<=σ b)
   (hc:∀j,j<es.length*aM->c[off+j]? =some (vals j)) (hv:∀(j:Nat)(d:D),es.flatten[j]? =some d->dw w σ d (vals j)):
   dw w σ (.sl es) (.slice (some ⟨b,off,none⟩) es.length cap)
 |wF (n:Nat) (a:Option Addr) (cap:Nat):dw w σ (.ol n []) (.slice a 0 cap)
 |ol (n b off cap aM:Nat) (es:List (List D)) (vals:Nat->Value) (c:Array Value) (t:TypeId)
   (hcap:es.length<=cap) (hlen:∀e∈es,e.length=aM) (hb:w.heap[b]? =some (.cells c t (0,0))) (hσ:σ b=c.size+1+n) (hfit:off+es.length*aM<=c.size)
   (hc:∀j,j<es.length*aM->c[off+j]? =some (vals j)) (hv:∀(j:Nat)(d:D),es.flatten[j]? =some d->dw w σ d (vals j)) (hx:off=0/\cap*aM<=c.size):
   dw w σ (.ol n es) (.slice (some ⟨b,off,none⟩) es.length cap)
def kid(T:Value)(i o:Nat):Option Value:=
 match T with
 |Value.tuple a=>match(a[1]? :Option Value) with
  |some (Value.tuple rows)=>match(rows[i]? :Option Value) with
   |some (Value.tuple ks)=>match(ks[o]? :Option Value) with
    |some (Value.tuple a)=>some (Value.tuple a)
    |_=>none
   |_=>none
  |_=>none
 |_=>none
def hdr(T:Value):Option Value:=
 match T with
 |Value.tuple a=>(a[0]? :Option Value)
 |_=>none
def l8:Value->List (Nat×Nat)->Option Value
 |T,[]=>some T
 |T,(i,o)::p=>(kid T i o).bind fun u=>l8 u p
inductive jm:Value->Nat->Prop
 |here {T:Value} {a:Addr} {n cap:Nat}:hdr T=some (.slice (some a) n cap)->0<n->jm T a.block
 |kid {T u:Value} {i o b:Nat}:kid T i o=some u->jm u b->jm T b
def cellAt(es:List (List D))(i o:Nat):Option D:=(es[i]?).bind fun r=>r[o]?
def SD:D->Value->Prop
 | .b x,v=>v=.bool x
 | .i k n,v=>v=.int k n
 | .s l,v=>v=.string ⟨l.toArray⟩
 |_,_=>False
inductive l9(w:World):List (List D)->Value->Prop
 |nil (a:Option Addr) (cap:Nat) (T:Value) (h:hdr T=some (.slice a 0 cap)) (hk:∀i o,kid T i o=none):l9 w [] T
 |mk (b off cap z:Nat) (es:List (List D)) (T:Value) (c:Array Value) (t:TypeId) (vals kids:Nat->Nat->Value) (hh:hdr T=some (.slice (some ⟨b,off,none⟩) es.length cap))
   (hne:es≠[]) (hcap:es.length<=cap) (hlen:∀e∈es,e.length=z) (hb:w.heap[b]? =some (.cells c t (0,0))) (hfit:off+es.length*z<=c.size)
   (hc:∀i o d,cellAt es i o=some d->c[off+(i*z+o)]? =some (vals i o))
   (hs:∀i o d,cellAt es i o=some d->(∃es',d=.sl es')\/SD d (vals i o))
   (hk:∀i o es',cellAt es i o=some (.sl es')->kid T i o=some (kids i o)/\hdr (kids i o)=some (vals i o))
   (hx:∀i o es',cellAt es i o=some (.sl es')->l9 w es' (kids i o))
   (hself:∀i o u,kid T i o=some u->¬jm u b)
   (hap:∀i o i' o' u u' x,(i,o)≠(i',o')->kid T i o=some u->kid T i' o'=some u'->jm u x->jm u' x->False)
   (oL:∀i o u,kid T i o=some u->∃es',cellAt es i o=some (.sl es')):l9 w es T
def nW(h:Value)(r:Nat):Option Value:=
 match h with
 |Value.tuple Ts=>(Ts[r]? :Option Value)
 |_=>none
def yV(h:Value)(r:Nat)(p:List (Nat×Nat)):Option Value:=((nW h r).bind fun T=>l8 T p).bind hdr
def jX(h:Value)(b:Nat):Prop:=∃r T,nW h r=some T/\jm T b
def lT(o:Obj)(aM:Nat)(es:List (List D)):Prop:=o=.tok aM es\/∃n,o=.gX n aM es
def OP(w:World)(σ:Nat->Nat)(cs:List D)(a:Addr):Prop:=
 ∃c t fz,a.spot=none/\w.heap[a.block]? =some (.cells c t fz)/\a.off+cs.length<=σ a.block/\
  ∀(j:Nat)(d:D),cs[j]? =some d->∃v:Value,c[a.off+j]? =some v/\dw w σ d v
def fu(w:World)(σ:Nat->Nat)(S:Store)(β:Hs):C->Value->Prop
 | .d x,v=>dw w σ x v
 | .any,_=>True
 | .bF es,v=>dw w σ (.sl es) v/\∃a n,v=.slice a n n
 | .bM k es,v=>dw w σ (.sl es) v/\∃o,aN S k=some o/\∀aM es',lT o aM es'->es.length<=es'.length/\(es.length=es'.length->aN β k=some v)
 | .ptr k off,v=>∃o,aN S k=some o/\∀cs,o=.box cs->∃b,aN β k=some (.pointer (some ⟨b,0,none⟩))/\v=.pointer (some ⟨b,off,none⟩)
 | .iY cs,v=>∃a,v=.pointer (some a)/\OP w σ cs a
 | .iO k i off,v=>∃o,aN S k=some o/\∀aM es,o=.cZ aM es->∃b n cap,aN β k=some (.slice (some ⟨b,0,none⟩) n cap)/\v=.pointer (some ⟨b,i*aM+off,none⟩)
 | .eP k,v=>∃o,aN S k=some o/\∀aM es,o=.cZ aM es->aN β k=some v
 | .fn f caps,v=>∃vs:Array Value,v=.func (.func f) #[] vs/\vs.size=caps.length/\
    ∀(j:Nat)(k:Key)(off:Nat),caps[j]? =some (k,off)->∃u:Value,vs[j]? =some u/\u.oneCell'=true/\∃o,aN S k=some o/\∀cs,o=.box cs->∃b,aN β k=some (Value.pointer (some ⟨b,0,none⟩))/\u=Value.pointer (some ⟨b,off,none⟩)
 | .mp k,v=>∃o,aN S k=some o/\∀m,o=.mp m->aN β k=some v
 | .kF m es,v=>dw w σ (.ol m es) v/\∃a n,v=.slice a n n
 | .xp k r p,v=>∃o,aN S k=some o/\∀rs,o=.xf rs->∃h,aN β k=some h/\yV h r p=some v
 | .xq k r p z i off,v=>∃o,aN S k=some o/\∀rs,o=.xf rs->∃h b a n cap,aN β k=some h/\yV h r p=some (.slice (some ⟨b,a,none⟩) n cap)/\v=.pointer (some ⟨b,a+i*z+off,none⟩)
 | .oW k m u,v=>(u=v/\v.oneCell'=true)/\∃o,aN S k=some o/\∀aM es',lT o aM es'->m<=es'.length/\(m=es'.length->aN β k=some v)
def dS(w:World)(σ:Nat->Nat)(S:Store)(β:Hs)(cs:List C)(vs:List Value):Prop:=
 cs.length=vs.length/\∀(j:Nat)(x:C),cs[j]? =some x->∃v:Value,vs[j]? =some v/\fu w σ S β x v/\v.oneCell'=true
def Gg(w:World)(σ:Nat->Nat)(S:Store)(β:Hs)(y:Bool×List C)(u:Value):Prop:=
 match y with
 |(true,cs)=>∃a':Array Value,u=Value.agg a'/\dS w σ S β cs a'.toList
 |(false,cs)=>∃x,cs=[x]/\fu w σ S β x u/\u.oneCell'=true
def cu(w:World)(σ:Nat->Nat)(S:Store)(β:Hs):V->Value->Prop
 | .c x,v=>fu w σ S β x v/\v.oneCell'=true
 | .agg cs,v=>∃a:Array Value,v=.agg a/\dS w σ S β cs a.toList
 | .gq xs,v=>∃a:Array Value,v=.tuple a/\xs.length=a.size/\
    ∀(j:Nat)(y:Bool×List C),xs[j]? =some y->∃u:Value,a[j]? =some u/\Gg w σ S β y u
 | .any,_=>True
def blk:Obj->Value->Option Nat
 | .box _,.pointer (some a)=>some a.block
 | .tok _ es,.slice (some a) _ cap=>if cap=es.length then none else some a.block
 | .gX _ _ es,.slice (some a) _ cap=>if cap=es.length then none else some a.block
 | .cZ _ _,.slice (some a) _ cap=>if cap=0 then none else some a.block
 | .mp _,.map r=>r
 |_,_=>none
def owns:Obj->Value->Nat->Prop
 | .xf _,h,b=>jX h b
 |o,h,b=>blk o h=some b
def eT(w:World)(σ:Nat->Nat)(S:Store)(β:Hs):Obj->Value->Prop
 | .dead,_=>True
 | .box cs,h=>∃b c t,h=.pointer (some ⟨b,0,none⟩)/\w.heap[b]? =some (.cells c t (0,0))/\σ b=0/\dS w σ S β cs c.toList
 | .tok aM es,h=>dw w σ (.sl es) h/\(∀e∈es,e.length=aM)/\∃a cap,h=.slice a es.length cap/\es.length<=cap/\
    (cap=es.length\/∃b off c t,a=some ⟨b,off,none⟩/\w.heap[b]? =some (.cells c t (0,0))/\σ b=off+es.length*aM/\off+cap*aM<=c.size/\off=0)
 | .cZ aM es,h=>(∀e∈es,e.length=aM)/\∃a cap,h=.slice a es.length cap/\es.length<=cap/\(cap=0\/∃b c t,a=some ⟨b,0,none⟩/\w.heap[b]? =some (.cells c t (0,0))/\σ b=0/\
    cap*aM<=c.size/\∀(j:Nat)(x:D),es.flatten[j]? =some x->∃v:Value,c[j]? =some v/\dw w σ x v)
 | .mp m,h=>∃(b:Nat) (es:Array MapEntry) (clock:Nat),h=.map (some b)/\w.heap[b]? =some (.map es clock)/\σ b=0/\
    es.toList.map (fun e=>(e.key,e.val))=m.map (fun l=>(Value.string ⟨l.toArray⟩,Value.bool true))
 | .gX n aM es,h=>dw w σ (.sl es) h/\(∀e∈es,e.length=aM)/\∃a cap,h=.slice a es.length cap/\es.length<=cap/\
    ((cap=es.length/\dw w σ (.ol n es) h)\/(cap≠es.length/\∃b off c t,a=some ⟨b,off,none⟩/\w.heap[b]? =some (.cells c t (0,0))/\σ b=off+es.length*aM/\off+cap*aM<=c.size/\off=0))
 | .seed _,_=>True
 | .xf rs,h=>(∀r es,rs[r]? =some es->∃T,nW h r=some T/\l9 w es T)/\(∀r T,nW h r=some T->r<rs.length)/\(∀b,jX h b->σ b=0)/\
    ∀r r' T T' x,r≠r'->nW h r=some T->nW h r'=some T'->jm T x->jm T' x->False
def Own(S:Store)(β:Hs)(b:Nat):Prop:=∃k o h,aN S k=some o/\aN β k=some h/\owns o h b
def YP:List (Nat×(List Value->Prop)):=[]
def xZ(w:World)(σ:Nat->Nat):Prop:=∀g p,(g,p)∈YP->∃c t fz,w.heap[g]? =some (.cells c t fz)/\p c.toList/\c.size<=σ g
structure dM(w:World)(σ:Nat->Nat)(S:Store)(β:Hs):Prop where
 obj:∀k o,aN S k=some o->∃h,aN β k=some h/\eT w σ (S.drop k.1) (β.drop k.1) o h
 apart:∀k k' o o' h h' b,aN S k=some o->aN β k=some h->owns o h b->aN S k'=some o'->aN β k'=some h'->owns o' h' b->k=k'
 shape:S.length=β.length/\∀(l:Nat)(fr:List Obj),S[l]? =some fr->∃gr:List Value,β[l]? =some gr/\gr.length=fr.length
 live:∀b,b<w.heap.size\/σ b=0
 qp:xZ w σ
def iU(o:Obj)(h:Option Value)(o':Obj)(h':Option Value):Prop:=
 o'=.dead\/match o with
  | .dead=>o'=.dead
  | .box _=>(∃cs,o'=.box cs)/\h'=h
  | .tok _ es=>∃aM es',o'=.tok aM es'/\es.length<=es'.length/\(es.length=es'.length->h'=h)
  | .cZ aM _=>(∃es',o'=.cZ aM es')/\h'=h
  | .mp _=>(∃m,o'=.mp m)/\h'=h
  | .gX n _ es=>∃aM es',o'=.gX n aM es'/\es.length<=es'.length/\(es.length=es'.length->h'=h)
  | .seed _=>∃n,o'=.seed n
  | .xf _=>(∃rs,o'=.xf rs)/\h'=h
def Keep(S:Store)(β:Hs)(S':Store)(β':Hs):Prop:=
 ∀k o,aN S k=some o->∃o',aN S' k=some o'/\iU o (aN β k) o' (aN β' k)
structure Step(S:Store)(β:Hs)(σ:Nat->Nat)(w:World)(S':Store)(β':Hs)(σ':Nat->Nat)(w':World):Prop where
 size:w.heap.size<=w'.heap.size
 os:w'.os=w.os
 output:w'.output=w.output
 far:∀b,b<w.heap.size->¬Own S β b->w'.heap[b]? =w.heap[b]? /\σ' b=σ b
 near:∀b c t fz,w.heap[b]? =some (.cells c t fz)->σ b<=σ' b/\(c.size<σ b->σ' b=σ b)/\∃c',w'.heap[b]? =some (.cells c' t fz)/\c'.size=c.size/\∀i,i<σ b->c'[i]? =c[i]?
 own:∀b,Own S' β' b->Own S β b\/w.heap.size<=b
def dR(w:World)(σ:Nat->Nat)(w':World)(σ':Nat->Nat):Prop:=
 ∀b c t fz,w.heap[b]? =some (.cells c t fz)->σ b<=σ' b/\(c.size<σ b->σ' b=σ b)/\∃c',w'.heap[b]? =some (.cells c' t fz)/\c'.size=c.size/\∀i,i<σ b->c'[i]? =c[i]?
theorem dR.refl(w:World)(σ:Nat->Nat):dR w σ w σ:=fun _ c _ _ h=>⟨aw _,fun _=>rfl,c,h,rfl,fun _ _=>rfl⟩
theorem xZ.near{w σ w' σ'}(h:xZ w σ)(hn:dR w σ w' σ'):xZ w' σ':=fun g p hm=>by
 obtain⟨c,t,fz,h1,h2,h3⟩:=h g p hm;obtain⟨n1,_,c',n2,n3,n4⟩:=hn g c t fz h1
 have e:c'=c:=by
  apply Array.ext_getElem?;intro i;by_cases hi:i<c.size
  ·exact n4 i (by omega)
  ·rw[di (by omega),di (by omega)]
 subst e;exact⟨c',t,fz,n2,h2,cx h3 n1⟩
theorem xZ.le{w σ σ'}(h:xZ w σ)(hs:∀b,σ b<=σ' b):xZ w σ':=fun g p hm=>by
 obtain⟨c,t,fz,h1,h2,h3⟩:=h g p hm;exact⟨c,t,fz,h1,h2,cx h3 (hs g)⟩
theorem dR.trans{w σ w' σ' w'' uN}(h:dR w σ w' σ')(k:dR w' σ' w'' uN):dR w σ w'' uN:=by
 intro b c t fz hb;obtain⟨h1,hs,c',h2,h3,h4⟩:=h b c t fz hb;obtain⟨k1,ks,c'',k2,k3,k4⟩:=k b c' t fz h2;exact⟨cx h1 k1,fun e=>(ks (by rw[h3,hs e];exact e)).trans (hs e),c'',k2,k3.trans h3,fun i hi=>(k4 i (eJ hi h1)).trans (h4 i hi)⟩
theorem dw.mono{w σ w' σ'}(hn:dR w σ w' σ'){d:D}{v:Value}(h:dw w σ d v):dw w' σ' d v:=by
 induction h with
 |b x=>exact .b x
 |i k n=>exact .i k n
 |s l=>exact .s l
 |o v h=>exact .o v h
 |nil a cap=>exact .nil a cap
 |sl b off cap aM es vals c t fz hcap hlen hb hσ hc hv ih=>
  obtain⟨h1,_,c',h2,h3,h4⟩:=hn b c t fz hb;exact .sl b off cap aM es vals c' t fz hcap hlen h2 (cx hσ h1) (fun j hj=>by rw[h4 _ (by omega)];exact hc j hj) ih
 |wF n a cap=>exact .wF n a cap
 |ol n b off cap aM es vals c t hcap hlen hb hσ hfit hc hv hx ih=>
  obtain⟨h1,hs,c',h2,h3,h4⟩:=hn b c t _ hb;exact .ol n b off cap aM es vals c' t hcap hlen h2 (by rw[hs (by omega),h3];exact hσ) (by omega) (fun j hj=>by rw[h4 _ (by omega)];exact hc j hj) ih ⟨hx.1,by have:=hx.2;omega⟩
theorem OP.mono{w σ w' σ'}(hn:dR w σ w' σ'){cs:List D}{a:Addr}(h:OP w σ cs a):OP w' σ' cs a:=by
 obtain⟨c,t,fz,hs,hb,hl,hc⟩:=h;obtain⟨h1,_,c',h2,h3,h4⟩:=hn _ c t fz hb;refine⟨c',t,fz,hs,h2,cx hl h1,fun j d hj=> ?_⟩;obtain⟨v,hv,hd⟩:=hc j d hj;have hjl:j<cs.length:=(ai.1 hj).1;exact⟨v,by rw[h4 _ (by omega)];exact hv,hd.mono hn⟩
theorem iU.refl(o:Obj)(h:Option Value):iU o h o h:=by
 cases o with
 |dead=>exact .inl rfl
 |box cs=>exact .inr ⟨⟨cs,rfl⟩,rfl⟩
 |tok aM es=>exact .inr ⟨aM,es,rfl,aw _,fun _=>rfl⟩
 |cZ aM es=>exact .inr ⟨⟨es,rfl⟩,rfl⟩
 |mp m=>exact .inr ⟨⟨m,rfl⟩,rfl⟩
 |gX n aM es=>exact .inr ⟨aM,es,rfl,aw _,fun _=>rfl⟩
 |seed n=>exact .inr ⟨n,rfl⟩
 |xf rs=>exact .inr ⟨⟨rs,rfl⟩,rfl⟩
theorem Keep.refl(S:Store)(β:Hs):Keep S β S β:=fun _ o h=>⟨o,h,.refl _ _⟩
theorem iU.trans{o o' o'':Obj}{h h' h'':Option Value}(a:iU o h o' h')(b:iU o' h' o'' h''):iU o h o'' h'':=by
 rcases b with rfl|b
 ·exact .inl rfl
 rcases a with rfl|a
 ·exact .inl b
 refine .inr ?_
 cases o with
 |dead=>subst a;exact b
 |box cs=>obtain⟨⟨cs',rfl⟩,rfl⟩:=a;exact b
 |tok aM es=>
  obtain⟨qw,es',rfl,h1,h2⟩:=a;obtain⟨OQ,es'',rfl,k1,k2⟩:=b;exact⟨OQ,es'',rfl,cx h1 k1,fun e=>(k2 (by omega)).trans (h2 (by omega))⟩
 |cZ aM es=>obtain⟨⟨es',rfl⟩,rfl⟩:=a;exact b
 |mp m=>obtain⟨⟨m',rfl⟩,rfl⟩:=a;exact b
 |gX n aM es=>
  obtain⟨qw,es',rfl,h1,h2⟩:=a;obtain⟨OQ,es'',rfl,k1,k2⟩:=b;exact⟨OQ,es'',rfl,cx h1 k1,fun e=>(k2 (by omega)).trans (h2 (by omega))⟩
 |seed n=>obtain⟨n',rfl⟩:=a;exact b
 |xf rs=>obtain⟨⟨rs',rfl⟩,rfl⟩:=a;exact b
theorem Keep.trans{S β S' β' JN β''}(a:Keep S β S' β')(b:Keep S' β' JN β''):Keep S β JN β'':=by
 intro k o h;obtain⟨o',h',ho⟩:=a k o h;obtain⟨o'',h'',ho'⟩:=b k o' h';exact⟨o'',h'',ho.trans ho'⟩
theorem JO{o:Obj}{h h':Option Value}{o':Obj}(k:iU o h o' h'){cs':List C}(e:o'=.box cs'):(∃cs,o=.box cs)/\h'=h:=by
 subst e;rcases k with k|k
 ·cases k
 ·cases o with
  |dead=>cases k
  |box cs=>exact⟨⟨cs,rfl⟩,k.2⟩
  |tok=>obtain⟨_,_,k,_⟩:=k;cases k
  |cZ=>obtain⟨⟨_,k⟩,_⟩:=k;cases k
  |mp=>obtain⟨⟨_,k⟩,_⟩:=k;cases k
  |gX=>obtain⟨_,_,k,_⟩:=k;cases k
  |seed=>obtain⟨_,k⟩:=k;cases k
  |xf=>obtain⟨⟨_,k⟩,_⟩:=k;cases k
theorem U5{o:Obj}{h h':Option Value}{o':Obj}(k:iU o h o' h'){qw:Nat}{es':List (List D)}(e:o'=.tok qw es'):
 ∃aM es,o=.tok aM es/\es.length<=es'.length/\(es.length=es'.length->h'=h):=by
 subst e;rcases k with k|k
 ·cases k
 ·cases o with
  |dead=>cases k
  |box=>obtain⟨⟨_,k⟩,_⟩:=k;cases k
  |tok aM es=>obtain⟨_,_,k,k1,k2⟩:=k;cases k;exact⟨aM,es,rfl,k1,k2⟩
  |cZ=>obtain⟨⟨_,k⟩,_⟩:=k;cases k
  |mp=>obtain⟨⟨_,k⟩,_⟩:=k;cases k
  |gX=>obtain⟨_,_,k,_⟩:=k;cases k
  |seed=>obtain⟨_,k⟩:=k;cases k
  |xf=>obtain⟨⟨_,k⟩,_⟩:=k;cases k
theorem RI{o:Obj}{h h':Option Value}{o':Obj}(k:iU o h o' h'){n qw:Nat}{es':List (List D)}(e:o'=.gX n qw es'):
 ∃aM es,o=.gX n aM es/\es.length<=es'.length/\(es.length=es'.length->h'=h):=by
 subst e;rcases k with k|k
 ·cases k
 ·cases o with
  |dead=>cases k
  |box=>obtain⟨⟨_,k⟩,_⟩:=k;cases k
  |tok=>obtain⟨_,_,k,_⟩:=k;cases k
  |cZ=>obtain⟨⟨_,k⟩,_⟩:=k;cases k
  |mp=>obtain⟨⟨_,k⟩,_⟩:=k;cases k
  |gX n aM es=>obtain⟨_,_,k,k1,k2⟩:=k;cases k;exact⟨aM,es,rfl,k1,k2⟩
  |seed=>obtain⟨_,k⟩:=k;cases k
  |xf=>obtain⟨⟨_,k⟩,_⟩:=k;cases k
theorem Em{o:Obj}{h h':Option Value}{o':Obj}(k:iU o h o' h'){qw:Nat}{es':List (List D)}(e:lT o' qw es'):
 ∃aM es,lT o aM es/\es.length<=es'.length/\(es.length=es'.length->h'=h):=by
 rcases e with e|⟨n,e⟩
 ·obtain⟨a,b,c,d⟩:=U5 k e;exact⟨a,b,.inl c,d⟩
 ·obtain⟨a,b,c,d⟩:=RI k e;exact⟨a,b,.inr ⟨n,c⟩,d⟩
theorem NQ{o:Obj}{h h':Option Value}{o':Obj}(k:iU o h o' h'){rs':List (List (List D))}(e:o'=.xf rs'):(∃rs,o=.xf rs)/\h'=h:=by
 subst e;rcases k with k|k
 ·cases k
 ·cases o with
  |dead=>cases k
  |box=>obtain⟨⟨_,k⟩,_⟩:=k;cases k
  |tok=>obtain⟨_,_,k,_⟩:=k;cases k
  |cZ=>obtain⟨⟨_,k⟩,_⟩:=k;cases k
  |mp=>obtain⟨⟨_,k⟩,_⟩:=k;cases k
  |gX=>obtain⟨_,_,k,_⟩:=k;cases k
  |seed=>obtain⟨_,k⟩:=k;cases k
  |xf rs=>exact⟨⟨rs,rfl⟩,k.2⟩
theorem Hu{o:Obj}{h h':Option Value}{o':Obj}(k:iU o h o' h'){qw:Nat}{es':List (List D)}(e:o'=.cZ qw es'):(∃es,o=.cZ qw es)/\h'=h:=by
 subst e;rcases k with k|k
 ·cases k
 ·cases o with
  |dead=>cases k
  |box=>obtain⟨⟨_,k⟩,_⟩:=k;cases k
  |tok=>obtain⟨_,_,k,_⟩:=k;cases k
  |cZ aM es=>obtain⟨⟨_,k⟩,e⟩:=k;cases k;exact⟨⟨es,rfl⟩,e⟩
  |mp=>obtain⟨⟨_,k⟩,_⟩:=k;cases k
  |gX=>obtain⟨_,_,k,_⟩:=k;cases k
  |seed=>obtain⟨_,k⟩:=k;cases k
  |xf=>obtain⟨⟨_,k⟩,_⟩:=k;cases k
theorem YQ{o:Obj}{h h':Option Value}{o':Obj}(k:iU o h o' h'){m':List (List UInt8)}(e:o'=.mp m'):(∃m,o=.mp m)/\h'=h:=by
 subst e;rcases k with k|k
 ·cases k
 ·cases o with
  |dead=>cases k
  |box=>obtain⟨⟨_,k⟩,_⟩:=k;cases k
  |tok=>obtain⟨_,_,k,_⟩:=k;cases k
  |cZ=>obtain⟨⟨_,k⟩,_⟩:=k;cases k
  |mp m=>exact⟨⟨m,rfl⟩,k.2⟩
  |gX=>obtain⟨_,_,k,_⟩:=k;cases k
  |seed=>obtain⟨_,k⟩:=k;cases k
  |xf=>obtain⟨⟨_,k⟩,_⟩:=k;cases k
theorem fu.mono{w σ w' σ'}{S:Store}{β:Hs}{S':Store}{β':Hs}(hn:dR w σ w' σ')(hk:Keep S β S' β'){c:C}{v:Value}(h:fu w σ S β c v):fu w' σ' S' β' c v:=by
 cases c with
 |d x=>exact dw.mono hn h
 |any=>exact True.intro
 |bF es=>exact⟨dw.mono hn h.1,h.2⟩
 |bM k es=>
  obtain⟨h1,o,ho,h2⟩:=h;obtain⟨o',ho',hko⟩:=hk k o ho;refine⟨h1.mono hn,o',ho',fun aM es' e=> ?_⟩;obtain⟨U6,es0,e0,l0,q0⟩:=Em hko e;obtain⟨l1,q1⟩:=h2 U6 es0 e0;exact⟨cx l1 l0,fun e'=>(q0 (by omega)).trans (q1 (by omega))⟩
 |ptr k off=>
  obtain⟨o,ho,h2⟩:=h;obtain⟨o',ho',hko⟩:=hk k o ho;refine⟨o',ho',fun cs e=> ?_⟩;obtain⟨⟨cs0,e0⟩,q⟩:=JO hko e;obtain⟨b,hb,hv⟩:=h2 cs0 e0;exact⟨b,q.trans hb,hv⟩
 |iY cs=>obtain⟨a,ha,hp⟩:=h;exact⟨a,ha,hp.mono hn⟩
 |iO k i off=>
  obtain⟨o,ho,h2⟩:=h;obtain⟨o',ho',hko⟩:=hk k o ho;refine⟨o',ho',fun aM es e=> ?_⟩;obtain⟨⟨es0,e0⟩,q⟩:=Hu hko e;obtain⟨b,n,cap,hb,hv⟩:=h2 aM es0 e0;exact⟨b,n,cap,q.trans hb,hv⟩
 |eP k=>
  obtain⟨o,ho,h2⟩:=h;obtain⟨o',ho',hko⟩:=hk k o ho;refine⟨o',ho',fun aM es e=> ?_⟩;obtain⟨⟨es0,e0⟩,q⟩:=Hu hko e;exact q.trans (h2 aM es0 e0)
 |fn f caps=>
  obtain⟨vs,hv,hs,h2⟩:=h;refine⟨vs,hv,hs,fun j k off e=> ?_⟩;obtain⟨u,hu,h1c,o,ho,h3⟩:=h2 j k off e;obtain⟨o',ho',hko⟩:=hk k o ho;refine⟨u,hu,h1c,o',ho',fun cs e=> ?_⟩;obtain⟨⟨cs0,e0⟩,q⟩:=JO hko e;obtain⟨b,hb,hv⟩:=h3 cs0 e0;exact⟨b,q.trans hb,hv⟩
 |mp k=>
  obtain⟨o,ho,h2⟩:=h;obtain⟨o',ho',hko⟩:=hk k o ho;refine⟨o',ho',fun m e=> ?_⟩;obtain⟨⟨m0,e0⟩,q⟩:=YQ hko e;exact q.trans (h2 m0 e0)
 |kF n es=>exact⟨dw.mono hn h.1,h.2⟩
 |xp k r p=>
  obtain⟨o,ho,h2⟩:=h;obtain⟨o',ho',hko⟩:=hk k o ho;refine⟨o',ho',fun rs e=> ?_⟩;obtain⟨⟨rs0,e0⟩,q⟩:=NQ hko e;obtain⟨hh,a1,a2⟩:=h2 rs0 e0;exact⟨hh,q.trans a1,a2⟩
 |xq k r p z i off=>
  obtain⟨o,ho,h2⟩:=h;obtain⟨o',ho',hko⟩:=hk k o ho;refine⟨o',ho',fun rs e=> ?_⟩;obtain⟨⟨rs0,e0⟩,q⟩:=NQ hko e;obtain⟨hh,b,a,n,cap,a1,a2⟩:=h2 rs0 e0;exact⟨hh,b,a,n,cap,q.trans a1,a2⟩
 |oW k m u=>
  obtain⟨h1,o,ho,h2⟩:=h;obtain⟨o',ho',hko⟩:=hk k o ho;refine⟨h1,o',ho',fun aM es' e=> ?_⟩;obtain⟨U6,es0,e0,l0,q0⟩:=Em hko e;obtain⟨l1,q1⟩:=h2 U6 es0 e0;exact⟨cx l1 l0,fun e'=>(q0 (by omega)).trans (q1 (by omega))⟩
theorem dS.mono{w σ w' σ'}{S:Store}{β:Hs}{S':Store}{β':Hs}(hn:dR w σ w' σ')(hk:Keep S β S' β'){cs:List C}{vs:List Value}(h:dS w σ S β cs vs):dS w' σ' S' β' cs vs:=
 ⟨h.1,fun j x hx=>let⟨v,hv,hc,ho⟩:=h.2 j x hx;⟨v,hv,hc.mono hn hk,ho⟩⟩
theorem cu.mono{w σ w' σ'}{S:Store}{β:Hs}{S':Store}{β':Hs}(hn:dR w σ w' σ')(hk:Keep S β S' β'){x:V}{v:Value}(h:cu w σ S β x v):cu w' σ' S' β' x v:=by
 cases x with
 |c x=>exact⟨h.1.mono hn hk,h.2⟩
 |agg cs=>obtain⟨a,ha,hc⟩:=h;exact⟨a,ha,hc.mono hn hk⟩
 |gq xs=>
  obtain⟨a,ha,hl,h2⟩:=h;refine⟨a,ha,hl,fun j y hy=> ?_⟩;obtain⟨u,hu,h3⟩:=h2 j y hy;refine⟨u,hu,?_⟩;obtain⟨t,cs⟩:=y
  cases t with
  |true=>obtain⟨a',ha',hc⟩:=h3;exact⟨a',ha',hc.mono hn hk⟩
  |false=>obtain⟨x,hx,hc,ho⟩:=h3;exact⟨x,hx,hc.mono hn hk,ho⟩
 |any=>exact True.intro
theorem Keep.drop{S β S' β'}(h:Keep S β S' β')(n:Nat):Keep (S.drop n) (β.drop n) (S'.drop n) (β'.drop n):=by
 intro k o ho;rw[dH] at ho;obtain⟨o',ho',hk⟩:=h _ o ho;exact⟨o',by rw[dH];exact ho',by rw[dH,dH];exact hk⟩
theorem l9.frame{w w':World}{es:List (List D)}{T:Value}(h:l9 w es T)(hf:∀b,jm T b->w'.heap[b]? =w.heap[b]?):l9 w' es T:=by
 induction h with
 |nil a cap T h hk=>exact .nil a cap T h hk
 |mk b off cap z es T c t vals kids hh hne hcap hlen hb hfit hc hs hk hx hself hap oL ih=>
  have hpos:0<es.length:=eC.2 hne;refine .mk b off cap z es T c t vals kids hh hne hcap hlen ?_ hfit hc hs hk (fun i o es' e=>ih i o es' e fun x hx=>hf x (.kid (hk i o es' e).1 hx)) hself hap oL;have hw:=hf b (.here hh hpos);exact hw.trans hb
theorem eT.mono{w σ w' σ'}{S:Store}{β:Hs}{S':Store}{β':Hs}(hn:dR w σ w' σ')(hk:Keep S β S' β'){o:Obj}{h:Value}
 (hf:∀b,owns o h b->w'.heap[b]? =w.heap[b]? /\σ' b=σ b)(hr:eT w σ S β o h):eT w' σ' S' β' o h:=by
 cases o with
 |dead=>exact True.intro
 |box cs=>
  obtain⟨b,c,t,rfl,hb,hs,hc⟩:=hr;obtain⟨f1,f2⟩:=hf b rfl;exact⟨b,c,t,rfl,f1.trans hb,f2.trans hs,hc.mono hn hk⟩
 |tok aM es=>
  obtain⟨h1,h2,a,cap,rfl,h3,h4⟩:=hr;refine⟨h1.mono hn,h2,a,cap,rfl,h3,?_⟩;by_cases hcap:cap=es.length
  ·exact .inl hcap
  rcases h4 with h4|⟨b,off,c,t,rfl,hb,hs,hl⟩
  ·exact .inl h4
  ·obtain⟨f1,f2⟩:=hf b (by simp[owns,blk,hcap]);exact .inr ⟨b,off,c,t,rfl,f1.trans hb,f2.trans hs,hl⟩
 |gX n aM es=>
  obtain⟨h1,h2,a,cap,rfl,h3,h4⟩:=hr;refine⟨h1.mono hn,h2,a,cap,rfl,h3,?_⟩;rcases h4 with⟨h4,h5⟩|⟨hcap,b,off,c,t,rfl,hb,hs,hl⟩
  ·exact .inl ⟨h4,h5.mono hn⟩
  ·obtain⟨f1,f2⟩:=hf b (by simp[owns,blk,hcap]);exact .inr ⟨hcap,b,off,c,t,rfl,f1.trans hb,f2.trans hs,hl⟩
 |seed n=>exact trivial
 |xf rs=>
  obtain⟨h1,h2,h3,h4⟩:=hr;refine⟨fun r es e=> ?_,h2,fun b hb=>(hf b hb).2.trans (h3 b hb),h4⟩;obtain⟨T,a1,a2⟩:=h1 r es e;exact⟨T,a1,a2.frame fun b hb=>(hf b ⟨r,T,a1,hb⟩).1⟩
 |cZ aM es=>
  obtain⟨hl,a,cap,rfl,hcap,h4⟩:=hr;refine⟨hl,a,cap,rfl,hcap,?_⟩;by_cases h0:cap=0
  ·exact .inl h0
  ·rcases h4 with h4|⟨b,c,t,rfl,hb,hs,hz,hc⟩
   ·exact .inl h4
   ·obtain⟨f1,f2⟩:=hf b (by simp[owns,blk,h0]);exact .inr ⟨b,c,t,rfl,f1.trans hb,f2.trans hs,hz,fun j x hx=>let⟨v,hv,hd⟩:=hc j x hx;⟨v,hv,hd.mono hn⟩⟩
 |mp m=>
  obtain⟨b,es,cl,rfl,hb,hs,he⟩:=hr;obtain⟨f1,f2⟩:=hf b rfl;exact⟨b,es,cl,rfl,f1.trans hb,f2.trans hs,he⟩
theorem Ae{w:World}{σ:Nat->Nat}{S:Store}{β:Hs}{aM i:Nat}{es:List (List D)}{h:Value}(hr:eT w σ S β (.cZ aM es) h)(hi:i<es.length):
 ∃b c t cap,h=.slice (some ⟨b,0,none⟩) es.length cap/\es.length<=cap/\cap≠0/\w.heap[b]? =some (.cells c t (0,0))/\σ b=0/\(∀e∈es,e.length=aM)/\cap*aM<=c.size/\es.length*aM<=c.size/\
  ∀(j:Nat)(x:D),es.flatten[j]? =some x->∃v:Value,c[j]? =some v/\dw w σ x v:=by
 obtain⟨hl,a,cap,rfl,hcap,h4⟩:=hr;rcases h4 with h4|⟨b,c,t,rfl,hb,hs,hz,hc⟩
 ·omega
 ·exact⟨b,c,t,cap,rfl,hcap,by omega,hb,hs,hl,hz,cx (ce _ hcap) hz,hc⟩
structure Grow(w:World)(σ:Nat->Nat)(w':World)(σ':Nat->Nat):Prop where
 size:w.heap.size<=w'.heap.size
 os:w'.os=w.os
 output:w'.output=w.output
 old:∀b,b<w.heap.size->w'.heap[b]? =w.heap[b]? /\σ' b=σ b
 live:∀b,b<w'.heap.size\/σ' b=0
theorem Grow.refl{w:World}{σ:Nat->Nat}(hl:∀b,b<w.heap.size\/σ b=0):Grow w σ w σ:=⟨aw _,rfl,rfl,fun _ _=>⟨rfl,rfl⟩,hl⟩
theorem lt_of_some{w:World}{b:Nat}{o:Go.Obj}(h:w.heap[b]? =some o):b<w.heap.size:=(aE.1 h).1
theorem Grow.near{w σ w' σ'}(h:Grow w σ w' σ'):dR w σ w' σ':=by
 intro b c t fz hb;obtain⟨h1,h2⟩:=h.old b (lt_of_some hb);exact⟨Nat.le_of_eq h2.symm,fun _=>h2,c,h1.trans hb,rfl,fun _ _=>rfl⟩
theorem Grow.trans{w σ w' σ' w'' uN}(h:Grow w σ w' σ')(k:Grow w' σ' w'' uN):Grow w σ w'' uN:=
 ⟨cx h.size k.size,k.os.trans h.os,k.output.trans h.output,fun b hb=>by
   obtain⟨h1,h2⟩:=h.old b hb;obtain⟨k1,k2⟩:=k.old b (eJ hb h.size)
   exact⟨k1.trans h1,k2.trans h2⟩,k.live⟩
theorem l9.YR{w:World}{es:List (List D)}{T:Value}(h:l9 w es T):∀b,jm T b->b<w.heap.size:=by
 induction h with
 |nil a cap T h hk=>
  intro b hb
  cases hb with
  |here h1 h2=>rw[h] at h1;cases h1;omega
  |kid h1 h2=>rw[hk] at h1;cases h1
 |mk b0 off cap z es T c t vals kids hh hne hcap hlen hb0 hfit hc hs hk hx hself hap oL ih=>
  intro b hb
  cases hb with
  |here h1 h2=>rw[hh] at h1;cases h1;exact lt_of_some hb0
  | @kid T u i o b h1 h2=>
    obtain⟨es',e⟩:=oL i o u h1;have:=(hk i o es' e).1;rw[h1] at this;cases this;exact ih i o es' e b h2
theorem wG{w σ S β}{o:Obj}{h:Value}(hr:eT w σ S β o h){b:Nat}(hb:owns o h b):b<w.heap.size:=by
 cases o with
 |dead=>cases hb
 |box cs=>obtain⟨b',c,t,rfl,hb',_⟩:=hr;cases hb;exact lt_of_some hb'
 |tok aM es=>
  replace hb:blk (.tok aM es) h=some b:=hb
  obtain⟨h1,h2,a,cap,rfl,h3,h4⟩:=hr
  cases a with
  |none=>cases hb
  |some a=>
   simp only[blk] at hb;split at hb
   ·cases hb
   ·rename_i hne;rcases h4 with h4|⟨b',off,c,t,e,hb',_⟩
    ·exact absurd h4 hne
    ·cases e;cases hb;exact lt_of_some hb'
 |cZ aM es=>
  replace hb:blk (.cZ aM es) h=some b:=hb
  obtain⟨_,a,cap,rfl,_,h4⟩:=hr
  cases a with
  |none=>cases hb
  |some a=>
   simp only[blk] at hb;split at hb
   ·cases hb
   ·rename_i hne;rcases h4 with h4|⟨b',c,t,e,hb',_⟩
    ·exact absurd h4 hne
    ·cases e;cases hb;exact lt_of_some hb'
 |mp m=>obtain⟨b',es,cl,rfl,hb',_⟩:=hr;cases hb;exact lt_of_some hb'
 |gX n aM es=>
  replace hb:blk (.gX n aM es) h=some b:=hb
  obtain⟨h1,h2,a,cap,rfl,h3,h4⟩:=hr
  cases a with
  |none=>cases hb
  |some a=>
   simp only[blk] at hb;split at hb
   ·cases hb
   ·rename_i hne;rcases h4 with⟨h4,_⟩|⟨_,b',off,c,t,e,hb',_⟩
    ·exact absurd h4 hne
    ·cases e;cases hb;exact lt_of_some hb'
 |seed n=>cases hb
 |xf rs=>
  obtain⟨r,T,h1,h2⟩:=(show jX h b from hb);obtain⟨q1,q2,_⟩:=hr;have hlt:=q2 r T h1;obtain⟨T',e1,e2⟩:=q1 r rs[r] (ag hlt);rw[h1] at e1;cases e1;exact e2.YR b h2
theorem dM.yA{w σ S β}(hs:dM w σ S β){b:Nat}(h:Own S β b):b<w.heap.size:=by
 obtain⟨k,o,hv,ho,hh,hb⟩:=h;obtain⟨hv',hh',hr⟩:=hs.obj k o ho;rw[hh] at hh';cases hh';exact wG hr hb
theorem dM.grow{w σ w' σ'}{S:Store}{β:Hs}(hg:Grow w σ w' σ')(hs:dM w σ S β):dM w' σ' S β:=by
 refine⟨fun k o ho=> ?_,hs.apart,hs.shape,hg.live,hs.qp.near hg.near⟩;obtain⟨h,hh,hr⟩:=hs.obj k o ho;exact⟨h,hh,hr.mono hg.near (Keep.refl _ _) fun b hb=>hg.old b (wG hr hb)⟩
theorem Step.lu{w σ w' σ'}{S:Store}{β:Hs}(hg:Grow w σ w' σ'):Step S β σ w S β σ' w':=
 ⟨hg.size,hg.os,hg.output,fun b hb _=>hg.old b hb,hg.near,fun _ h=>.inl h⟩
theorem Step.trans{S β σ w S' β' σ' w' JN β'' uN w''}(h:Step S β σ w S' β' σ' w')(k:Step S' β' σ' w' JN β'' uN w''):Step S β σ w JN β'' uN w'':=
 ⟨cx h.size k.size,k.os.trans h.os,k.output.trans h.output,
  fun b hb ho=>by
   obtain⟨h1,h2⟩:=h.far b hb ho;obtain⟨k1,k2⟩:=k.far b (eJ hb h.size) (fun o=>(h.own b o).elim ho (fun x=>absurd hb (by omega)))
   exact⟨k1.trans h1,k2.trans h2⟩,
  dR.trans h.near k.near,
  fun b o=>(k.own b o).elim (fun o=>h.own b o) (fun x=>.inr (cx h.size x))⟩
def look:List (Nat×V)->Nat->V
 |[],_=>.any
 |(a,v)::r,t=>if a=t then v else look r t
def yB:Value->C
 | .bool b=>.d (.b b)
 | .int k n=>.d (.i k n)
 | .string s=>.d (.s s.data.toList)
 | .slice none 0 0=>.bF []
 | .pointer none=>.d (.o (.pointer none))
 | .nilIface=>.d (.o .nilIface)
 | .nilFunc=>.d (.o .nilFunc)
 | .map none=>.d (.o (.map none))
 |_=>.any
def wH:Value->V
 | .agg a=>if a.toList.all Value.oneCell' then .agg (a.toList.map yB) else .any
 | .tuple _=>.any
 |v=>.c (yB v)
def ev(tm:List (Nat×V)):Operand->V
 | .tmp t=>look tm t
 | .const v=>wH v
 | .global _=>.any
 | .func f=>.c (.fn f [])
def yX(w:World)(σ:Nat->Nat)(S:Store)(β:Hs)(tm:List (Nat×V))(a:Act):Prop:=∀t,cu w σ S β (look tm t) (a.tmps.getD t undef)
theorem vQ(w:World)(σ:Nat->Nat)(S:Store)(β:Hs)(v:Value):fu w σ S β (yB v) v:=by
 unfold yB;split
 ·exact .b _
 ·exact .i _ _
 ·rename_i s;exact .s s.data.toList
 ·exact⟨.nil _ _,_,_,rfl⟩
 ·exact .o _ rfl
 ·exact .o _ rfl
 ·exact .o _ rfl
 ·exact .o _ rfl
 ·exact True.intro
theorem OT(w:World)(σ:Nat->Nat)(S:Store)(β:Hs)(v:Value):cu w σ S β (wH v) v:=by
 cases v with
 |agg a=>
  simp only[wH];split
  ·rename_i h;refine⟨a,rfl,by simp,fun j x hx=> ?_⟩;rw[aV] at hx
   cases hv:a.toList[j]? with
   |none=>rw[hv] at hx;cases hx
   |some v=>
    rw[hv] at hx;cases hx;exact⟨v,rfl,vQ _ _ _ _ _,ax.1 h v (cq hv)⟩
  ·exact True.intro
 |tuple vs=>exact True.intro
 |_=>exact⟨vQ _ _ _ _ _,rfl⟩
theorem gV{w σ S β tm}{a:Act}(h:yX w σ S β tm a)(x:Operand):cu w σ S β (ev tm x) (a.eval x):=by
 cases x with
 |tmp t=>exact h t
 |const v=>exact OT _ _ _ _ v
 |global g=>exact True.intro
 |func f=>exact⟨⟨#[],rfl,rfl,fun j k off e=>by simp at e⟩,rfl⟩
theorem yX.mono{w σ w' σ'}{S:Store}{β:Hs}{S':Store}{β':Hs}{tm:List (Nat×V)}{a:Act}(hn:dR w σ w' σ')(hk:Keep S β S' β')(h:yX w σ S β tm a):yX w' σ' S' β' tm a:=
 fun t=>(h t).mono hn hk
abbrev R:=Prop×V
def no:R:=(False,.any)
def Hw:C->Option D
 | .d x=>some x
 | .bM _ es=>some (.sl es)
 | .bF es=>some (.sl es)
 | .kF n es=>some (.ol n es)
 | .oW _ _ v=>some (.o v)
 |_=>none
def NR:List (List D)->List (Nat×Nat)->Option (List (List D))
 |es,[]=>some es
 |es,(i,o)::p=>match cellAt es i o with
  |some (.sl es')=>NR es' p
  |_=>none
def Gh:List (List D)->List (Nat×Nat)->List (List D)->List (List D)
 |_,[],new=>new
 |es,(i,o)::p,new=>match cellAt es i o with
  |some (.sl es')=>es.set i ((es.getD i []).set o (.sl (Gh es' p new)))
  |_=>es
def atR(rs:List (List (List D)))(r:Nat)(p:List (Nat×Nat)):Option (List (List D)):=(rs[r]?).bind fun es=>NR es p
def Af(rs:List (List (List D)))(r:Nat)(p:List (Nat×Nat))(new:List (List D)):List (List (List D)):=rs.set r (Gh (rs.getD r []) p new)
def lI(S:Store):Option Nat:=
 match aN S (0,0) with
 |some (.seed n)=>some n
 |_=>none
def JQ:D->Bool
 | .b _=>true
 | .i _ _=>true
 | .s _=>true
 |_=>false
def qB:V->Option (List C)
 | .c x=>some [x]
 | .agg cs=>some cs
 |_=>none
def rQ(P:Program)(t:TypeId):Bool:=
 match P.underlying t with
 |some (.struct _)|some (.array _ _)=>true
 |_=>false
def BF(c a b:V):R:=
 match c with
 | .c (.d (.b x))=>(True,if x then a else b)
 |_=>no
def headD:List D->R
 |x::_=>(True,.c (.d x))
 |[]=>no
def OU:List C->R
 |x::_=>(True,.c x)
 |[]=>no
def BG(P:Program)(t:TypeId)(cs:List D):R:=
 if rQ P t then(P.cellsOf t<=cs.length,.agg ((cs.take (P.cellsOf t)).map .d)) else headD cs
def vR(P:Program)(S:Store)(t:TypeId)(a:V):R:=
 match P.underlying t with
 |none=>no
 |some _=>
  match a with
  | .c (.iY cs)=>BG P t cs
  | .c (.ptr k off)=>
    match aN S k with
    |some (.box cs)=>
     if rQ P t then(off+P.cellsOf t<=cs.length,.agg (((cs.drop off).take (P.cellsOf t)).map (C.up k.1))) else OU ((cs.drop off).map (C.up k.1))
    |_=>no
  | .c (.iO k i off)=>
    match aN S k with
    |some (.cZ _ es)=>((BG P t ((es.getD i []).drop off)).1/\i<es.length,(BG P t ((es.getD i []).drop off)).2)
    |_=>no
  | .c (.xq k r p z i off)=>
    match aN S k with
    |some (.xf rs)=>
     match atR rs r p with
     |some es=>if rQ P t then no else
      match cellAt es i off with
      |some (.sl _)=>((es.getD i []).length=z,.c (.xp k r (p++[(i,off)])))
      |some d=>if JQ d=true then((es.getD i []).length=z,.c (.d d)) else no
      |none=>no
     |none=>no
    |_=>no
  |_=>no
def nJ(P:Program)(S:Store)(s:TypeId)(x:V)(f:Nat):R:=
 match P.underlying s with
 |some (.struct fs)=>
  match fs[f]? with
  |some fd=>
   if P.cellsOf fd.type=0 then no else
   match x with
   | .c (.iY cs)=>(fd.offset<=cs.length,.c (.iY (cs.drop fd.offset)))
   | .c (.ptr k off)=>match aN S k with
     |some (.box _)=>(True,.c (.ptr k (off+fd.offset)))
     |_=>no
   | .c (.iO k i off)=>match aN S k with
     |some (.cZ _ _)=>(True,.c (.iO k i (off+fd.offset)))
     |_=>no
   | .c (.xq k r p z i off)=>match aN S k with
     |some (.xf _)=>(True,.c (.xq k r p z i (off+fd.offset)))
     |_=>no
   |_=>no
  |none=>no
 |_=>no
def xH(P:Program)(t:TypeId)(cs:List C)(off:Nat):R:=
 match P.underlying t with
 |none=>no
 |some _=>if rQ P t then(off+P.cellsOf t<=cs.length,.agg ((cs.drop off).take (P.cellsOf t))) else OU (cs.drop off)
def yC(P:Program)(t:TypeId)(x:V)(f:Nat):R:=
 match P.underlying t,x with
 |some (.struct fs),.agg cs=>
  match fs[f]? with
  |some fd=>xH P fd.type cs fd.offset
  |none=>no
 |_,_=>no
def uO:C->Option (List (List D))
 | .d (.sl es)=>some es
 | .d (.ol _ es)=>some es
 | .bM _ es=>some es
 | .bF es=>some es
 | .kF _ es=>some es
 |_=>none
def nK(P:Program)(S:Store)(t:TypeId)(x i:V):R:=
 match P.underlying t,x,i with
 |some (.slice e),.c (.eP k),.c (.d (.i _ n))=>
  match aN S k with
  |some (.cZ aM es)=>(0<=n/\n.toNat<es.length/\aM=P.cellsOf e/\(P.info? e).isSome=true,.c (.iO k n.toNat 0))
  |_=>no
 |some (.array len e),.c (.ptr k off),.c (.d (.i _ n))=>
  match aN S k with
  |some (.box _)=>(0<=n/\n.toNat<len/\(P.info? e).isSome=true,.c (.ptr k (off+n.toNat*P.cellsOf e)))
  |_=>no
 |some (.slice e),.c (.xp k r p),.c (.d (.i _ n))=>
  match aN S k with
  |some (.xf rs)=>
   match atR rs r p with
   |some es=>(0<=n/\n.toNat<es.length/\(P.info? e).isSome=true,.c (.xq k r p (P.cellsOf e) n.toNat 0))
   |none=>no
  |_=>no
 |some (.slice e),.c x,.c (.d (.i _ n))=>
  match uO x with
  |some es=>(0<=n/\n.toNat<es.length/\(es.getD n.toNat []).length=P.cellsOf e/\(P.info? e).isSome=true,.c (.iY (es.getD n.toNat [])))
  |none=>no
 |_,_,_=>no
def yD(P:Program)(t:TypeId)(x i:V):R:=
 match P.underlying t,x,i with
 |some .string,.c (.d (.s l)),.c (.d (.i _ n))=>(0<=n/\n.toNat<l.length,.c (.d (.i .u8 ((l.getD n.toNat 0).toNat))))
 |some (.array len e),.agg cs,.c (.d (.i _ n))=>((xH P e cs (n.toNat*P.cellsOf e)).1/\0<=n/\n.toNat<len,(xH P e cs (n.toNat*P.cellsOf e)).2)
 |_,_,_=>no
def x9(k:IntKind)(a b:Int):Int:=k.wrap (BitVec.ofInt k.bits a &&& BitVec.ofInt k.bits b).toNat
def Yi(k:IntKind)(a b:Int):Int:=k.wrap (BitVec.ofInt k.bits a ||| BitVec.ofInt k.bits b).toNat
def JR(k:IntKind)(a b:Int):Int:=k.wrap (BitVec.ofInt k.bits a ^^^ BitVec.ofInt k.bits b).toNat
def JU(k:IntKind)(a b:Int):Int:=k.wrap (a*2^min b.toNat k.bits)
def Dl(k:IntKind)(a b:Int):Int:=a.fdiv (2^min b.toNat k.bits)
def JV(op:BinOp)(k:IntKind)(a b:Int):R:=
 match op with
 | .shl=>(0<=b,.c (.d (.i k (JU k a b))))
 | .shr=>(0<=b,.c (.d (.i k (Dl k a b))))
 |_=>no
def OV(op:BinOp)(k:IntKind)(a b:Int):R:=
 match op with
 | .and=>(True,.c (.d (.i k (x9 k a b))))
 | .or=>(True,.c (.d (.i k (Yi k a b))))
 | .xor=>(True,.c (.d (.i k (JR k a b))))
 | .shl=>JV .shl k a b
 | .shr=>JV .shr k a b
 | .add=>(True,.c (.d (.i k (k.wrap (a+b)))))
 | .sub=>(True,.c (.d (.i k (k.wrap (a-b)))))
 | .mul=>(True,.c (.d (.i k (k.wrap (a*b)))))
 | .quo=>(b≠0,.c (.d (.i k (k.wrap (a.tdiv b)))))
 | .rem=>(b≠0,.c (.d (.i k (a.tmod b))))
 | .eql=>(True,.c (.d (.b (decide (a=b)))))
 | .neq=>(True,.c (.d (.b (!decide (a=b)))))
 | .lss=>(True,.c (.d (.b (decide (a<b)))))
 | .leq=>(True,.c (.d (.b (decide (a<=b)))))
 | .gtr=>(True,.c (.d (.b (decide (b<a)))))
 | .geq=>(True,.c (.d (.b (decide (b<=a)))))
 |_=>no
def OW(op:BinOp)(a b:List UInt8):R:=
 match op with
 | .add=>(a.length+b.length<=1099511627776,.c (.d (.s (a++b))))
 | .eql=>(True,.c (.d (.b (decide (a=b)))))
 | .neq=>(True,.c (.d (.b (!decide (a=b)))))
 | .lss=>(True,.c (.d (.b (Op.bytesLess a b))))
 |_=>no
def intTy(P:Program)(t:TypeId):Bool:=
 match P.underlying t with
 |some (.int _)=>true
 |_=>false
def pairTy(P:Program)(t:TypeId):Bool:=
 !P.eqGuardType P.depth t&& !P.stoodInHeld t&&match P.underlying t with
 |some (.struct fs)=>match fs.toList with
  |[f,g]=>f.name != "_" &&g.name != "_" &&f.offset==0&&g.offset==1&&intTy P f.type&&intTy P g.type
  |_=>false
 |_=>false
def OX(P:Program)(op:BinOp)(t:TypeId)(xs ys:List C):R:=
 match xs,ys with
 |[.d (.i k a),.d (.i l b)],[.d (.i k' a'),.d (.i l' b')]=>match op with
  | .eql=>(pairTy P t=true/\k=k'/\l=l',.c (.d (.b (decide (a=a'/\b=b')))))
  | .neq=>(pairTy P t=true/\k=k'/\l=l',.c (.d (.b (!decide (a=a'/\b=b')))))
  |_=>no
 |_,_=>no
def Gi(P:Program)(op:BinOp)(t:TypeId)(x y:V):R:=
 match x,y with
 | .agg xs,.agg ys=>OX P op t xs ys
 | .c (.d (.i k a)),.c (.d (.i k' b))=>if k=k' then OV op k a b else JV op k a b
 | .c (.d (.s a)),.c (.d (.s b))=>OW op a b
 | .c (.d (.b a)),.c (.d (.b b))=>
   match P.underlying t,op with
   |some .bool,.eql=>(True,.c (.d (.b (decide (a=b)))))
   |some .bool,.neq=>(True,.c (.d (.b (!decide (a=b)))))
   |_,_=>no
 |_,_=>no
def NS(op:UnOp)(x:V):R:=
 match op,x with
 | .not,.c (.d (.b x))=>(True,.c (.d (.b (!x))))
 | .neg,.c (.d (.i k n))=>(True,.c (.d (.i k (k.wrap (0-n)))))
 |_,_=>no
def Ag:List D->Int
 |[.i .u8 n]=>n
 |_=>0
def Jt(r:List D):UInt8:=UInt8.ofNat (Ag r).toNat
def BH(P:Program)(s t:TypeId)(x:V):R:=
 match P.underlying s,P.underlying t,x with
 |some _,some (.int k),.c (.d (.i _ n))=>(True,.c (.d (.i k (k.wrap n))))
 |some .string,some .string,.c (.d (.s l))=>(True,.c (.d (.s l)))
 |some (.slice e),some .string,.c x=>
  match P.underlying e,uO x with
  |some (.int .u8),some es=>(∀y∈es,y=[.i .u8 (Ag y)],.c (.d (.s (es.map Jt))))
  |_,_=>no
 |_,_,_=>no
def tK(x:V)(i:Nat):R:=
 match x with
 | .gq xs=>match xs[i]? with
   |some (true,cs)=>(True,.agg cs)
   |some (false,[c])=>(True,.c c)
   |_=>no
 |_=>no
def capOf:V->Option (Key×Nat)
 | .c (.ptr k off)=>some (k,off)
 |_=>none
def qU(fn:Fn)(first caps:List V):R:=
 match fn,first with
 | .func f,[]=>match caps.mapM capOf with
   |some l=>(True,.c (.fn f l))
   |none=>no
 |_,_=>no
def qV(S:Store)(x:V):R:=
 match x with
 | .c (.ptr k off)=>match aN S k with
   |some (.box _)=>(True,.c (.ptr k off))
   |_=>no
 | .c (.iY cs)=>(True,.c (.iY cs))
 |_=>no
def yY(P:Program)(S:Store)(t:TypeId)(x:V):R:=
 match P.underlying t,x with
 |some .string,.c (.d (.s l))=>(True,.c (.d (.i .i64 l.length)))
 |some (.array n _),_=>(True,.c (.d (.i .i64 n)))
 |some (.slice _),.c (.eP k)=>match aN S k with
  |some (.cZ _ es)=>(True,.c (.d (.i .i64 es.length)))
  |_=>no
 |some (.slice _),.c (.xp k r p)=>match aN S k with
  |some (.xf rs)=>match atR rs r p with
   |some es=>(True,.c (.d (.i .i64 es.length)))
   |none=>no
  |_=>no
 |some (.slice _),.c x=>match uO x with
  |some es=>(True,.c (.d (.i .i64 es.length)))
  |none=>no
 |_,_=>no
def rR(x:Option V)(d:Int):Option Int:=
 match x with
 |none=>some d
 |some (.c (.d (.i _ n)))=>some n
 |_=>none
def yE(P:Program)(t:TypeId)(x:V)(lo hi mx:Option V):R:=
 match P.underlying t,x,mx with
 |some .string,.c (.d (.s l)),none=>
  match rR lo 0,rR hi l.length with
  |some a,some b=>(0<=a/\a<=b/\b<=l.length,.c (.d (.s ((l.take b.toNat).drop a.toNat))))
  |_,_=>no
 |some (.slice e),.c x,none=>
  match uO x with
  |some es=>
   match rR lo 0,rR hi es.length with
   |some a,some b=>(0<=a/\a<=b/\b<=es.length/\(∀y∈es,y.length=P.cellsOf e)/\(P.info? e).isSome=true,.c (.d (.sl ((es.take b.toNat).drop a.toNat))))
   |_,_=>no
  |none=>no
 |_,_,_=>no
def splice(cells:List C)(off:Nat)(xs:List C):List C:=cells.take off++xs++cells.drop (off+xs.length)
def yZ(place:Nat->Option (Nat×Nat)):List C->List (Nat×V)->Option (List C)
 |cells,[]=>some cells
 |cells,(i,v)::rest=>
  match place i,qB v with
  |some (off,size),some xs=>if xs.length=size/\off+size<=cells.length then yZ place (splice cells off xs) rest else none
  |_,_=>none
def gF(P:Program)(t:TypeId):Option (List C):=((P.info? t).bind (·.zero)).bind fun z=>if z.cells.toList.all Value.oneCell' then some (z.cells.toList.map yB) else none
def yF(P:Program)(t:TypeId)(parts:List (Nat×V)):R:=
 match P.underlying t,gF P t with
 |some (.struct fs),some zs=>
  match yZ (fun i=>(fs[i]?).map fun f=>(f.offset,P.cellsOf f.type)) zs parts with
  |some cs=>(fs.toList.all (fun f=>(P.info? f.type).isSome)=true,.agg cs)
  |none=>no
 |some (.array _ e),some zs=>
  match yZ (fun i=>some (i*P.cellsOf e,P.cellsOf e)) zs parts with
  |some cs=>((P.info? e).isSome=true,.agg cs)
  |none=>no
 |_,_=>no
def qW(size:Nat):List (Nat×V)->Nat->Option (List (List D))
 |[],_=>some []
 |(i,v)::rest,k=>
  if i=k then
   match(qB v).bind (·.mapM Hw),qW size rest (k+1) with
   |some xs,some es=>if xs.length=size then some (xs::es) else none
   |_,_=>none
  else none
def mP(P:Program)(t:TypeId)(n:Nat)(parts:List (Nat×V)):R:=
 match P.underlying t with
 |some (.slice e)=>
  match qW (P.cellsOf e) parts 0 with
  |some es=>(es.length=n/\n*P.cellsOf e<=16777216/\(gF P e).isSome=true,.c (.bF es))
  |none=>no
 |_=>no
def jq(P:Program)(l:Option Nat)(t:TypeId)(n:Nat)(parts:List (Nat×V)):R:=
 match l with
 |none=>mP P t n parts
 |some m=>match mP P t n parts with
  |(p,.c (.bF es))=>(p,.c (.kF m es))
  |_=>no
def zeroV(P:Program)(t:TypeId):Option Value:=(P.info? t).bind (·.zero)
def tL(P:Program)(S:Store)(t:TypeId)(x i:V):R:=
 match P.underlying t,x,i with
 |some (.map kt et),.c (.mp k),.c (.d (.s l))=>
  match aN S k,P.underlying kt,zeroV P et with
  |some (.mp m),some .string,some (.bool false)=>(True,.c (.d (.b (decide (l∈m)))))
  |_,_,_=>no
 |_,_,_=>no
def qL(mx:Bool):V->V->R
 | .c (.d (.i k a)),.c (.d (.i _ b))=>(True,.c (.d (.i k (match mx with|true=>max a b|false=>min a b))))
 |_,_=>no
def jY(P:Program)(l:Option Nat)(S:Store)(tm:List (Nat×V)):Op->R
 | .move x=>(True,ev tm x)
 | .assign x=>(True,ev tm x)
 | .pick c a b=>BF (ev tm c) (ev tm a) (ev tm b)
 | .load t a=>vR P S t (ev tm a)
 | .fieldAddr s x f=>nJ P S s (ev tm x) f
 | .field t x f=>yC P t (ev tm x) f
 | .indexAddr t x i=>nK P S t (ev tm x) (ev tm i)
 | .index t x i=>yD P t (ev tm x) (ev tm i)
 | .binOp op t x y _=>Gi P op t (ev tm x) (ev tm y)
 | .unOp op _ x=>NS op (ev tm x)
 | .convert s t x=>BH P s t (ev tm x)
 | .extract x i=>tK (ev tm x) i
 | .makeFunc fn first caps=>qU fn (first.toList.map (ev tm)) (caps.toList.map (ev tm))
 | .nilCheck x=>qV S (ev tm x)
 | .slice t x lo hi mx=>yE P t (ev tm x) (lo.map (ev tm)) (hi.map (ev tm)) (mx.map (ev tm))
 | .build t parts=>yF P t (parts.toList.map fun x=>(x.1,ev tm x.2))
 | .buildSlice t n parts=>jq P l t n (parts.toList.map fun x=>(x.1,ev tm x.2))
 | .lookup t x i false=>tL P S t (ev tm x) (ev tm i)
 | .call {callee:=.builtin .len,args,argTypes}=>
   match args.toList,argTypes.toList with
   |[x],[t]=>yY P S t (ev tm x)
   |_,_=>no
 | .call {callee:=.builtin .max,args,argTypes:=_}=>
   match args.toList with
   |[x,y]=>qL true (ev tm x) (ev tm y)
   |_=>no
 | .call {callee:=.builtin .min,args,argTypes:=_}=>
   match args.toList with
   |[x,y]=>qL false (ev tm x) (ev tm y)
   |_=>no
 |_=>no
def nval(P:Program)(S:Store)(tm:List (Nat×V))(op:Op):R:=jY P (lI S) S tm op
section
variable {P:Program} {w:World} {σ:Nat->Nat} {S:Store} {β:Hs}
def Does(P:Program)(m:Sem Value)(w:World)(σ:Nat->Nat)(S:Store)(β:Hs)(r:R):Prop:=
 r.1->∃v w' σ',m.run P w=.ok v w'/\Grow w σ w' σ'/\cu w' σ' S β r.2 v
theorem Does.no{m:Sem Value}:Does P m w σ S β no:=fun h=>h.elim
theorem Does.here{m:Sem Value}{r:R}{v:Value}(hl:∀b,b<w.heap.size\/σ b=0)(h:r.1->m.run P w=.ok v w/\cu w σ S β r.2 v):Does P m w σ S β r:=
 fun hr=>⟨v,w,σ,(h hr).1,.refl hl,(h hr).2⟩
theorem info_of_underlying{t:TypeId}{d:TypeDesc}(h:P.underlying t=some d):(P.info? t).isSome=true:=by
 unfold Program.underlying at h;split at h<;>simp_all
theorem gT{t:TypeId}(h:(P.info? t).isSome=true):(sizeOf t).run P w=.ok (P.cellsOf t) w:=by
 obtain⟨i,hi⟩:=dE.1 h;simp[sizeOf,typeInfo,hi,Program.cellsOf]
theorem wI{t:TypeId}{d:TypeDesc}(h:P.underlying t=some d):(sizeOf t).run P w=.ok (P.cellsOf t) w:=gT (info_of_underlying h)
theorem mh{t:TypeId}{d:TypeDesc}(h:P.underlying t=some d):(isAgg t).run P w=.ok (rQ P t) w:=by
 simp only[isAgg,Sem.run_bind,run_underlying h,Result.andThen_ok,rQ,h];cases d<;>rfl
theorem addr_add(a:Addr)(n:Nat)(h:a.spot=none):a.add n=⟨a.block,a.off+n,none⟩:=by
 unfold Addr.add;split
 ·rename_i e;subst e;cases a;simp_all
 ·rfl
theorem cell_of{b off:Nat}{c:Array Value}{t:TypeId}{fz:Nat×Nat}(h:w.heap[b]? =some (.cells c t fz)):w.cell? ⟨b,off,none⟩=c[off]? :=by
 simp[World.cell?,h]
theorem uP(c:Array Value)(off n:Nat)(h:∀j,j<n->∃v,c[off+j]? =some v):
 ((c.toList.drop off).take n).length=n/\∀j,j<n->((c.toList.drop off).take n)[j]? =c[off+j]? :=by
 have hl:n=0\/off+n<=c.size:=by
  cases n with
  |zero=>exact .inl rfl
  |succ n=>
   obtain⟨v,hv⟩:=h n (by omega);have:=(aE.1 hv).1;exact .inr (by omega)
 constructor
 ·simp only[bk,cf,br];omega
 ·intro j hj;rw[bu hj,cr,bw]
theorem rT{a:Addr}{c:Array Value}{t:TypeId}{fz:Nat×Nat}(hs:a.spot=none)(hb:w.heap[a.block]? =some (.cells c t fz))(n:Nat)
 (h:∀j,j<n->∃v,c[a.off+j]? =some v):(loadCells a n).run P w=.ok ((c.toList.drop a.off).take n).toArray w:=by
 obtain⟨hl,hv⟩:=uP c a.off n h
 have:=run_loadCells_list (P:=P) w a ((c.toList.drop a.off).take n) (fun j v hj=>by
  rw[addr_add _ _ hs,cell_of hb,<-hv j (by rw[<-hl];exact(ai.1 hj).1)];exact hj)
 rwa [hl] at this
theorem dw.one{d:D}{v:Value}(h:dw w σ d v):v.oneCell'=true:=by
 cases h with
 |o v h=>exact h
 |_=>rfl
theorem U7{a:Addr}{c:Array Value}{cs:List D}{n:Nat}
 (hc:∀(j:Nat) (d:D),cs[j]? =some d->∃v:Value,c[a.off+j]? =some v/\dw w σ d v)(hn:n<=cs.length):
 dS w σ S β ((cs.take n).map .d) ((c.toList.drop a.off).take n):=by
 have hex:∀j,j<n->∃v,c[a.off+j]? =some v:=fun j hj=>by
  obtain⟨v,hv,_⟩:=hc j cs[j] (ag (by omega));exact⟨v,hv⟩
 obtain⟨hl,hv⟩:=uP c a.off n hex;refine⟨by rw[hl];simp;omega,fun j x hx=> ?_⟩;rw[aV] at hx
 cases hd:(cs.take n)[j]? with
 |none=>rw[hd] at hx;cases hx
 |some d=>
  rw[hd] at hx;cases hx
  have hj:j<n:=by
   have:=(ai.1 hd).1;simp at this;omega
  rw[bu hj] at hd;obtain⟨v,hcv,hr⟩:=hc j d hd;exact⟨v,by rw[hv j hj];exact hcv,hr,hr.one⟩
theorem flat_get{α:Type}:∀(es:List (List α))(aM:Nat),(∀e∈es,e.length=aM)->∀(i r:Nat)(hi:i<es.length),r<aM->es.flatten[i*aM+r]? =es[i][r]?
 |[],_,_,i,r,hi,_=>by simp at hi
 |e::es,aM,h,0,r,_,hr=>by
  have he:e.length=aM:=h e (by simp);simp only[ci,Nat.zero_mul,cT,List.getElem_cons_zero];rw[an (by omega)]
 |e::es,aM,h,i+1,r,hi,hr=>by
  have he:e.length=aM:=h e (by simp);simp only[ci,List.getElem_cons_succ];rw[am (by rw[he,ck];omega)];rw[show(i+1)*aM+r-e.length=i*aM+r from by rw[he,ck];omega];exact flat_get es aM (fun x hx=>h x (by simp[hx])) i r (by simpa using hi) hr
theorem iF{α:Type}:∀(es:List (List α))(aM:Nat),(∀e∈es,e.length=aM)->es.flatten.length=es.length*aM
 |[],_,_=>by simp
 |e::es,aM,h=>by
  rw[ci,ab,h e (by simp),iF es aM (fun x hx=>h x (by simp[hx])),aa,ck];omega
def Here(P:Program)(m:Sem Value)(w:World)(σ:Nat->Nat)(S:Store)(β:Hs)(r:R):Prop:=r.1->∃v,m.run P w=.ok v w/\cu w σ S β r.2 v
theorem Here.no{m:Sem Value}:Here P m w σ S β no:=fun h=>h.elim
theorem Here.does{m:Sem Value}{r:R}(hl:∀b,b<w.heap.size\/σ b=0)(h:Here P m w σ S β r):Does P m w σ S β r:=fun hr=>let⟨v,h1,h2⟩:=h hr;⟨v,w,σ,h1,.refl hl,h2⟩
theorem En{t:TypeId}{d:TypeDesc}{cs:List D}{a:Addr}{c:Array Value}{ty:TypeId}{fz:Nat×Nat}(ht:P.underlying t=some d)
 (hs:a.spot=none)(hb:w.heap[a.block]? =some (.cells c ty fz))(hc:∀(j:Nat) (d:D),cs[j]? =some d->∃v:Value,c[a.off+j]? =some v/\dw w σ d v):
 Here P (Instr.loadAt t (.pointer (some a))) w σ S β (BG P t cs):=by
 unfold BG;split
 ·rename_i hagg;intro hn;refine⟨_,?_,⟨_,rfl,by simpa using U7 hc hn⟩⟩;simp[Instr.loadAt,Instr.sureAddr,loadVar,mh ht,hagg,wI ht]
  rw[rT hs hb _ (fun j hj=>by
   obtain⟨v,hv,_⟩:=hc j cs[j] (ag (eJ hj hn))
   exact⟨v,hv⟩)]
  rfl
 ·rename_i hagg
  cases cs with
  |nil=>exact Here.no
  |cons x cs=>
   intro _;obtain⟨v,hv,hr⟩:=hc 0 x rfl;refine⟨v,?_,hr,hr.one⟩
   have hcell:w.cell? a=some v:=by
    have:a=⟨a.block,a.off,none⟩:=by cases a;simp_all
    rw[this,cell_of hb];exact hv
   have xI:rQ P t=false:=by simpa using hagg
   simp[Instr.loadAt,Instr.sureAddr,loadVar,mh ht,xI,hcell]
theorem fu.up{c:C}{v:Value}(n:Nat)(h:fu w σ (S.drop n) (β.drop n) c v):fu w σ S β (c.up n) v:=by
 cases c with
 |d x=>exact h
 |any=>exact True.intro
 |bF es=>exact h
 |bM k es=>
  obtain⟨h1,o,ho,h2⟩:=h;rw[dH] at ho;exact⟨h1,o,ho,fun aM es' e=>by have:=h2 aM es' e;rw[dH] at this;exact this⟩
 |ptr k off=>
  obtain⟨o,ho,h2⟩:=h;rw[dH] at ho;exact⟨o,ho,fun cs e=>by have:=h2 cs e;simp only[dH] at this;exact this⟩
 |iY cs=>exact h
 |iO k i off=>
  obtain⟨o,ho,h2⟩:=h;rw[dH] at ho;exact⟨o,ho,fun aM es e=>by have:=h2 aM es e;simp only[dH] at this;exact this⟩
 |eP k=>
  obtain⟨o,ho,h2⟩:=h;rw[dH] at ho;exact⟨o,ho,fun aM es e=>by have:=h2 aM es e;rw[dH] at this;exact this⟩
 |fn f caps=>
  obtain⟨vs,hv,hs,h2⟩:=h;refine⟨vs,hv,by simpa using hs,fun j k off e=> ?_⟩;rw[aV] at e
  cases hc:caps[j]? with
  |none=>rw[hc] at e;cases e
  |some x=>
   rw[hc] at e;obtain⟨k0,U8⟩:=x;cases e;obtain⟨u,hu,h1c,o,ho,h3⟩:=h2 j k0 U8 hc;rw[dH] at ho;exact⟨u,hu,h1c,o,ho,fun cs e=>by have:=h3 cs e;simp only[dH] at this;exact this⟩
 |mp k=>
  obtain⟨o,ho,h2⟩:=h;rw[dH] at ho;exact⟨o,ho,fun m e=>by have:=h2 m e;rw[dH] at this;exact this⟩
 |kF m es=>exact h
 |xp k r p=>
  obtain⟨o,ho,h2⟩:=h;rw[dH] at ho;exact⟨o,ho,fun rs e=>by have:=h2 rs e;rw[dH] at this;exact this⟩
 |xq k r p z i off=>
  obtain⟨o,ho,h2⟩:=h;rw[dH] at ho;exact⟨o,ho,fun rs e=>by have:=h2 rs e;rw[dH] at this;exact this⟩
 |oW k m u=>
  obtain⟨h1,o,ho,h2⟩:=h;rw[dH] at ho;exact⟨h1,o,ho,fun aM es' e=>by have:=h2 aM es' e;rw[dH] at this;exact this⟩
theorem CF{i o:Nat}:∀(p:List (Nat×Nat))(T:Value),l8 T (p++[(i,o)])=(l8 T p).bind fun u=>kid u i o
 |[],T=>by
  show(kid T i o).bind (fun u=>some u)=kid T i o;cases kid T i o<;>rfl
 |(a,b)::p,T=>by
  show(kid T a b).bind (fun u=>l8 u (p++[(i,o)]))=((kid T a b).bind fun u=>l8 u p).bind _
  cases kid T a b with
  |none=>rfl
  |some u=>exact CF p u
theorem l9.sub{es:List (List D)}{T:Value}(h:l9 w es T){i o:Nat}{es':List (List D)}(hc:cellAt es i o=some (.sl es')):∃u,kid T i o=some u/\l9 w es' u:=by
 cases h with
 |nil=>simp[cellAt] at hc
 |mk b off cap z es T c t vals kids hh hne hcap hlen hb hfit hcv hs hk hx hself hap oL=>exact⟨_,(hk i o es' hc).1,hx i o es' hc⟩
theorem l9.at_:∀(p:List (Nat×Nat)){es:List (List D)}{T:Value}{es':List (List D)},l9 w es T->NR es p=some es'->∃T',l8 T p=some T'/\l9 w es' T'/\∀b,jm T' b->jm T b
 |[],es,T,es',h,e=>by cases e;exact⟨T,rfl,h,fun _ h=>h⟩
 |(i,o)::p,es,T,es',h,e=>by
  rw[NR] at e;split at e
  ·rename_i es1 hc;obtain⟨u,k1,k2⟩:=h.sub hc;obtain⟨T',a,b,c⟩:=at_ p k2 e;exact⟨T',by rw[l8,k1];exact a,b,fun x hx=>.kid k1 (c x hx)⟩
  ·cases e
theorem l9.Hy{es:List (List D)}{T:Value}(h:l9 w es T):∃a cap,hdr T=some (.slice a es.length cap):=by
 cases h with
 |nil a cap T h hk=>exact⟨a,cap,h⟩
 |mk b off cap z es T c t vals kids hh=>exact⟨_,_,hh⟩
theorem BI{k:Key}{rs:List (List (List D))}{r:Nat}{p:List (Nat×Nat)}{es:List (List D)}(hS:dM w σ S β)(hk:aN S k=some (.xf rs))(hes:atR rs r p=some es):
 ∃h T T',aN β k=some h/\nW h r=some T/\l8 T p=some T'/\l9 w es T'/\yV h r p=hdr T'/\∀b,jm T' b->jX h b:=by
 obtain⟨h,hh,h1,h2,h3,h4⟩:=hS.obj k _ hk;unfold atR at hes
 cases hr:rs[r]? with
 |none=>rw[hr] at hes;cases hes
 |some es0=>
  rw[hr] at hes;obtain⟨T,a1,a2⟩:=h1 r es0 hr;obtain⟨T',b1,b2,b3⟩:=a2.at_ p hes;refine⟨h,T,T',hh,a1,b1,b2,?_,fun b hb=>⟨r,T,a1,b3 b hb⟩⟩;unfold yV;rw[a1];show(l8 T p).bind hdr=_;rw[b1];rfl
theorem tN{es:List (List D)}{i o:Nat}{d:D}(h:cellAt es i o=some d):∃hi:i<es.length,o<es[i].length:=by
 unfold cellAt at h
 cases hr:es[i]? with
 |none=>rw[hr] at h;cases h
 |some row=>
  rw[hr] at h;obtain⟨hi,e⟩:=ai.1 hr;refine⟨hi,?_⟩;rw[e];exact(ai.1 (show row[o]? =some d from h)).1
theorem Eo{t:TypeId}{td:TypeDesc}(ht:P.underlying t=some td)(hagg:rQ P t=false){k:Key}{r z i off:Nat}{p:List (Nat×Nat)}{rs:List (List (List D))}{es:List (List D)}{xv:Value}{d:D}
 (hS:dM w σ S β)(hk:aN S k=some (.xf rs))(hes:atR rs r p=some es)(hx:fu w σ S β (.xq k r p z i off) xv)(hc:cellAt es i off=some d)(hz:(es.getD i []).length=z):
 ∃v,(Instr.loadAt t xv).run P w=.ok v w/\v.oneCell'=true/\((∃es',d=.sl es'/\fu w σ S β (.xp k r (p++[(i,off)])) v)\/SD d v):=by
 obtain⟨h,T,T',hh,hr,hT',hE,hhd,_⟩:=BI hS hk hes;obtain⟨o,ho,hx2⟩:=hx;rw[hk] at ho;cases ho;obtain⟨h',b,a,n,cap,e1,e2,rfl⟩:=hx2 rs rfl;rw[hh] at e1;cases e1;rw[hhd] at e2;obtain⟨hi,hoff⟩:=tN hc
 cases hE with
 |nil=>simp at hi
 |mk b0 U8 cap0 z0 es T' c t0 vals kids hh0 hne hcap hlen hb hfit hcv hs hkd uQ hself hap oL=>
  rw[hh0] at e2;cases e2
  have hz0:z=z0:=by rw[<-hz,<-hlen _ (ac hi)];simp[List.getD,hi]
  subst hz0;have hcell:=hcv i off d hc;refine⟨vals i off,?_,?_,?_⟩
  ·have:w.cell? ⟨b,a+i*z+off,none⟩=some (vals i off):=by rw[cell_of hb,dm];exact hcell
   simp[Instr.loadAt,Instr.sureAddr,loadVar,mh ht,hagg,this]
  ·rcases hs i off d hc with⟨es',rfl⟩|hsd
   ·obtain⟨k1,k2⟩:=hkd i off es' hc;obtain⟨a',cap',e⟩:=(uQ i off es' hc).Hy;rw[e] at k2;rw[<-cD k2];rfl
   ·cases d<;>first|exact hsd.elim|(rw[show vals i off=_ from hsd];rfl)
  ·rcases hs i off d hc with⟨es',rfl⟩|hsd
   ·obtain⟨k1,k2⟩:=hkd i off es' hc;refine .inl ⟨es',rfl,_,hk,fun rs' e=>⟨h,hh,?_⟩⟩;unfold yV;rw[hr];show(l8 T (p++[(i,off)])).bind hdr=_;rw[CF,hT'];show(kid T' i off).bind hdr=_;rw[k1];exact k2
   ·exact .inr hsd
theorem JW{d:D}{v:Value}(h:SD d v):dw w σ d v:=by
 cases d<;>first|exact h.elim|(rw[show v=_ from h];constructor)
theorem Hz{t:TypeId}{x:V}{xv:Value}(hS:dM w σ S β)(hx:cu w σ S β x xv):Here P (Instr.loadAt t xv) w σ S β (vR P S t x):=by
 unfold vR;split
 ·exact Here.no
 rename_i d ht;split
 ·rename_i cs;obtain⟨⟨a,rfl,hp⟩,_⟩:=hx;obtain⟨c,ty,fz,hs,hb,hσ,hc⟩:=hp;exact En ht hs hb hc
 ·rename_i k off;split
  ·rename_i cs hk;obtain⟨⟨o,ho,h2⟩,_⟩:=hx;rw[hk] at ho;cases ho;obtain⟨b,hb,rfl⟩:=h2 cs rfl;obtain⟨h,hh,hr⟩:=hS.obj k _ hk;rw[hb] at hh;cases hh;obtain⟨b',c,ty,e,hbc,hσ,hl,hc⟩:=hr;cases e
   have hcell:∀(j:Nat)(x:C),cs[j]? =some x->∃v:Value,c[j]? =some v/\fu w σ S β (x.up k.1) v/\v.oneCell'=true:=fun j x hj=>by
    obtain⟨v,hv,hr,ho⟩:=hc j x hj;rw[bw] at hv;exact⟨v,hv,hr.up k.1,ho⟩
   split
   ·rename_i hagg;intro hn;have hn':off+P.cellsOf t<=cs.length:=hn
    have hex:∀j,j<P.cellsOf t->∃v,c[off+j]? =some v:=fun j hj=>by
     obtain⟨v,hv,_⟩:=hcell (off+j) cs[off+j] (ag (by omega));exact⟨v,hv⟩
    obtain⟨hpl,hpv⟩:=uP c off _ hex;refine⟨.agg ((c.toList.drop off).take (P.cellsOf t)).toArray,?_,⟨_,rfl,?_,fun j x hx=> ?_⟩⟩
    ·simp[Instr.loadAt,Instr.sureAddr,loadVar,mh ht,hagg,wI ht];rw[rT (a:=⟨b,off,none⟩) rfl hbc _ hex];rfl
    ·simp only[hpl];simp;omega
    ·rw[aV] at hx
     cases hd:((cs.drop off).take (P.cellsOf t))[j]? with
     |none=>rw[hd] at hx;cases hx
     |some y=>
      rw[hd] at hx;cases hx
      have hj:j<P.cellsOf t:=by
       have:=(ai.1 hd).1;simp at this;omega
      rw[bu hj,cr] at hd;obtain⟨v,hv,hr,ho⟩:=hcell _ y hd;exact⟨v,by rw[hpv j hj];exact hv,hr,ho⟩
   ·rename_i hagg
    have xI:rQ P t=false:=by simpa using hagg
    cases hd:cs.drop off with
    |nil=>exact Here.no
    |cons y ys=>
     intro _
     have hy:cs[off]? =some y:=by
      have:(cs.drop off)[0]? =some y:=by rw[hd];rfl
      simpa [cr] using this
     obtain⟨v,hv,hr,ho⟩:=hcell off y hy;refine⟨v,?_,hr,ho⟩;simp[Instr.loadAt,Instr.sureAddr,loadVar,mh ht,xI,cell_of hbc,hv]
  ·exact Here.no
 ·rename_i k i off;split
  ·rename_i aM es hk;obtain⟨⟨o,ho,h2⟩,_⟩:=hx;rw[hk] at ho;cases ho;obtain⟨b,n,cap,hb,rfl⟩:=h2 aM es rfl;obtain⟨h,hh,hr⟩:=hS.obj k _ hk;rw[hb] at hh;cases hh;rintro⟨h1,hi⟩;obtain⟨b',c,ty,cap',e,hcap,_,hbc,hσ,hlen,_,hz,hc⟩:=Ae hr hi;cases e
   have hcell:∀(j:Nat)(d:D),((es.getD i []).drop off)[j]? =some d->∃v:Value,c[i*aM+off+j]? =some v/\dw w σ d v:=fun j d hj=>by
    have hge:es.getD i []=es[i]:=by simp[List.getD,hi]
    rw[hge,cr] at hj
    have hlt:off+j<aM:=by
     have:=(ai.1 hj).1;rw[hlen _ (ac hi)] at this;exact this
    have hfl:es.flatten[i*aM+(off+j)]? =some d:=by
     rw[<-hj];exact flat_get es aM hlen i (off+j) hi hlt
    obtain⟨v,hv,hr⟩:=hc _ d hfl;exact⟨v,by rw[dm];exact hv,hr⟩
   exact En (a:=⟨b,i*aM+off,none⟩) ht rfl hbc hcell h1
  ·exact Here.no
 ·rename_i k r p z i off;split
  ·rename_i rs hk;split
   ·rename_i es hes;split
    ·exact Here.no
    rename_i hagg
    have xI:rQ P t=false:=by simpa using hagg
    split
    ·rename_i es' hc;intro hz;obtain⟨v,h1,h2,h3⟩:=Eo ht xI hS hk hes hx.1 hc hz;rcases h3 with⟨_,_,h3⟩|h3
     ·exact⟨v,h1,h3,h2⟩
     ·exact h3.elim
    ·rename_i d hne hc;split
     ·rename_i hd;intro hz;obtain⟨v,h1,h2,h3⟩:=Eo ht xI hS hk hes hx.1 hc hz;rcases h3 with⟨es',e,_⟩|h3
      ·exact absurd e (hne es')
      ·exact⟨v,h1,JW h3,h2⟩
     ·exact Here.no
    ·exact Here.no
   ·exact Here.no
  ·exact Here.no
 ·exact Here.no
theorem RJ{t:TypeId}{x:V}{xv:Value}(hS:dM w σ S β)(hx:cu w σ S β x xv):Does P (Instr.loadAt t xv) w σ S β (vR P S t x):=(Hz hS hx).does hS.live
end
section
variable {P:Program} {w:World} {σ:Nat->Nat} {S:Store} {β:Hs}
theorem aas{t:TypeId}(h:P.cellsOf t≠0):(P.info? t).isSome=true:=by
 unfold Program.cellsOf at h
 cases hi:P.info? t with
 |none=>rw[hi] at h;exact absurd rfl h
 |some i=>rfl
theorem Gj{s:TypeId}{x:V}{xv:Value}{f:Nat}(hS:dM w σ S β)(hx:cu w σ S β x xv):
 Does P (Instr.fieldAt s xv f) w σ S β (nJ P S s x f):=by
 unfold nJ;split
 ·rename_i fs hs;split
  ·rename_i fd hf;split
   ·exact Does.no
   rename_i hne;have hf':fs[f]? =some fd:=hf
   have base:∀a:Addr,a.spot=none->(Instr.fieldAt s (.pointer (some a)) f).run P w=.ok (.pointer (some ⟨a.block,a.off+fd.offset,none⟩)) w:=fun a ha=>by
    simp[Instr.fieldAt,run_underlying hs,hf',Instr.sureAddr,fieldPlace,gT (aas hne),hne,addr_add _ _ ha]
   split
   ·rename_i cs;obtain⟨⟨a,rfl,c,ty,fz,ha,hb,hσ,hc⟩,_⟩:=hx;refine Does.here hS.live fun hle=>⟨base a ha,⟨_,rfl,c,ty,fz,rfl,hb,?_,fun j d hj=> ?_⟩,rfl⟩
    ·have hle':fd.offset<=cs.length:=hle;simp only[cf];omega
    ·rw[cr] at hj;obtain⟨v,hv,hr⟩:=hc _ d hj;exact⟨v,by simp only[dm];exact hv,hr⟩
   ·rename_i k off;split
    ·rename_i cs hk;obtain⟨⟨o,ho,h2⟩,_⟩:=hx;rw[hk] at ho;cases ho;obtain⟨b,hb,rfl⟩:=h2 cs rfl;exact Does.here hS.live fun _=>⟨base _ rfl,⟨_,hk,fun cs' e=>⟨b,hb,rfl⟩⟩,rfl⟩
    ·exact Does.no
   ·rename_i k i off;split
    ·rename_i aM es hk;obtain⟨⟨o,ho,h2⟩,_⟩:=hx;rw[hk] at ho;cases ho;obtain⟨b,n,cap,hb,rfl⟩:=h2 aM es rfl;exact Does.here hS.live fun _=>⟨base _ rfl,⟨_,hk,fun qw es' e=>by cases e;exact⟨b,n,cap,hb,by rw[dm]⟩⟩,rfl⟩
    ·exact Does.no
   ·rename_i k r p z i off;split
    ·rename_i rs hk;obtain⟨⟨o,ho,h2⟩,_⟩:=hx;rw[hk] at ho;cases ho;obtain⟨h,b,a,n,cap,e1,e2,rfl⟩:=h2 rs rfl;exact Does.here hS.live fun _=>⟨base _ rfl,⟨_,hk,fun rs' e=>by cases e;exact⟨h,b,a,n,cap,e1,e2,by simp only[dm]⟩⟩,rfl⟩
    ·exact Does.no
   ·exact Does.no
  ·exact Does.no
 ·exact Does.no
theorem U9{cs:List C}{a:Array Value}(h:dS w σ S β cs a.toList){t:TypeId}{off:Nat}:
 Does P (part t a off) w σ S β (xH P t cs off)\/¬(∀b,b<w.heap.size\/σ b=0):=by
 by_cases hl:∀b,b<w.heap.size\/σ b=0
 ·left;unfold xH;split
  ·exact Does.no
  rename_i d ht;split
  ·rename_i hagg;refine Does.here (v:=.agg (a.extract off (off+P.cellsOf t))) hl fun hn=>⟨?_,⟨_,rfl,?_,fun j x hx=> ?_⟩⟩
   ·simp[part,mh ht,hagg,wI ht]
   ·have hn':off+P.cellsOf t<=cs.length:=hn;have:=h.1;simp at this;simp;omega
   ·have hn':off+P.cellsOf t<=cs.length:=hn
    have hj:j<P.cellsOf t:=by
     have:=(ai.1 hx).1;simp at this;omega
    rw[bu hj,cr] at hx;obtain⟨v,hv,hr,ho⟩:=h.2 _ x hx;refine⟨v,?_,hr,ho⟩
    have hlt:off+j<a.size:=by
     have:=(ai.1 hv).1;simpa using this
    rw[bw] at hv ⊢;rw[Array.getElem?_extract_of_lt (by omega),<-hv,cb hlt]
  ·rename_i hagg
   have xI:rQ P t=false:=by simpa using hagg
   cases hd:cs.drop off with
   |nil=>exact Does.no
   |cons y ys=>
    have hy:cs[off]? =some y:=by
     have:(cs.drop off)[0]? =some y:=by rw[hd];rfl
     simpa [cr] using this
    obtain⟨v,hv,hr,ho⟩:=h.2 off y hy;rw[bw] at hv;exact Does.here hl fun _=>⟨by simp[part,mh ht,xI,hv],hr,ho⟩
 ·exact .inr hl
theorem HV{cs:List C}{a:Array Value}(hS:dM w σ S β)(h:dS w σ S β cs a.toList){t:TypeId}{off:Nat}:
 Does P (part t a off) w σ S β (xH P t cs off):=(U9 h).resolve_right (fun n=>n hS.live)
theorem OY{t:TypeId}{x:V}{xv:Value}{f:Nat}(hS:dM w σ S β)(hx:cu w σ S β x xv):Does P (Instr.field t xv f) w σ S β (yC P t x f):=by
 unfold yC;split
 ·rename_i fs cs hs;split
  ·rename_i fd hf;have hf':fs[f]? =some fd:=hf;obtain⟨a,rfl,hc⟩:=hx;intro hn;obtain⟨v,w',σ',hrun,hg,hr⟩:=HV (P:=P) (t:=fd.type) (off:=fd.offset) hS hc hn;exact⟨v,w',σ',by simp[Instr.field,run_underlying hs,hf',asAgg,hrun],hg,hr⟩
  ·exact Does.no
 ·exact Does.no
theorem Ah{n:Nat}{es:List (List D)}{v:Value}(h:dw w σ (.ol n es) v):dw w σ (.sl es) v:=by
 cases h with
 |wF n a cap=>exact .nil a cap
 |ol n b off cap aM es vals c t hcap hlen hb hσ hfit hc hv hx=>exact .sl b off cap aM es vals c t (0,0) hcap hlen hb (by omega) hc hv
theorem rU{x:C}{es:List (List D)}{v:Value}(h:uO x=some es)(hx:fu w σ S β x v):dw w σ (.sl es) v:=by
 cases x<;>simp only[uO] at h<;>first|(cases h;done)|skip
 ·rename_i d;cases d<;>simp at h
  ·subst h;exact hx
  ·subst h;exact Ah hx
 ·cases h;exact hx.1
 ·cases h;exact hx.1
 ·cases h;exact Ah hx.1
theorem Gl{t:TypeId}{x i:V}{xv iv:Value}(hS:dM w σ S β)(hx:cu w σ S β x xv)(hi:cu w σ S β i iv):
 Does P (Instr.indexAt t xv iv) w σ S β (nK P S t x i):=by
 unfold nK;split
 ·rename_i e k n' n ht;split
  ·rename_i aM es hk;obtain⟨hi1,_⟩:=hi;cases hi1;obtain⟨⟨o,ho,h2⟩,_⟩:=hx;rw[hk] at ho;cases ho;have hh:=h2 aM es rfl;obtain⟨h,hh',hr⟩:=hS.obj k _ hk;rw[hh] at hh';cases hh';by_cases h3:n.toNat<es.length
   rotate_left
   ·exact fun hn=>absurd hn.2.1 h3
   obtain⟨b,c,ty,cap,rfl,hcap,_,hbc,hσ,hlen,_,hz,hc⟩:=Ae hr h3;refine Does.here (v:=.pointer (some ⟨b,n.toNat*P.cellsOf e,none⟩)) hS.live ?_;rintro⟨h1,-,h4,h5⟩;refine⟨?_,⟨_,hk,fun qw es' e'=> ?_⟩,rfl⟩
   ·have hlt:n<(es.length:Int):=by omega
    simp only[Instr.indexAt,asIntOf,Sem.run_bind,Sem.run_pure,Result.andThen_ok,run_underlying ht];simp[h1,hlt,gT h5,addr_add]
   ·cases e';exact⟨b,_,_,hh,by rw[h4];simp⟩
  ·exact Does.no
 ·rename_i len e k off n' n ht;split
  ·rename_i cs hk;obtain⟨hi1,_⟩:=hi;cases hi1;obtain⟨⟨o,ho,h2⟩,_⟩:=hx;rw[hk] at ho;cases ho;obtain⟨b,hb,rfl⟩:=h2 cs rfl;refine Does.here (v:=.pointer (some ⟨b,off+n.toNat*P.cellsOf e,none⟩)) hS.live ?_;rintro⟨h1,h3,h5⟩;refine⟨?_,⟨_,hk,fun cs' e'=>⟨b,hb,rfl⟩⟩,rfl⟩
   have hlt:n<(len:Int):=by omega
   simp only[Instr.indexAt,asIntOf,Sem.run_bind,Sem.run_pure,Result.andThen_ok,run_underlying ht];simp[h1,hlt,gT h5,addr_add,Instr.sureAddr]
  ·exact Does.no
 ·rename_i e k r p n' n ht;split
  ·rename_i rs hk;split
   ·rename_i es hes;obtain⟨hi1,_⟩:=hi;cases hi1;obtain⟨h,T,T',hh,hr,hT',hE,hhd,_⟩:=BI hS hk hes;obtain⟨⟨o,ho,hx2⟩,_⟩:=hx;rw[hk] at ho;cases ho;obtain⟨h',e1,e2⟩:=hx2 rs rfl;rw[hh] at e1;cases e1;rw[hhd] at e2
    cases hE with
    |nil=>exact fun h=>absurd h.2.1 (by simp)
    |mk b off cap z es T' c t0 vals kids hh0 hne hcap hlen hb hfit hcv hs hkd uQ hself hap oL=>
     rw[hh0] at e2;cases e2;refine Does.here (v:=.pointer (some ⟨b,off+n.toNat*P.cellsOf e,none⟩)) hS.live ?_;rintro⟨h1,h3,h5⟩;refine⟨?_,⟨_,hk,fun rs' e'=>⟨h,b,off,_,cap,hh,by rw[hhd];exact hh0,rfl⟩⟩,rfl⟩
     have hlt:n<(es.length:Int):=by omega
     simp only[Instr.indexAt,asIntOf,Sem.run_bind,Sem.run_pure,Result.andThen_ok,run_underlying ht];simp[h1,hlt,gT h5,addr_add]
   ·exact Does.no
  ·exact Does.no
 ·rename_i e x n' n _ _ ht;split
  ·rename_i es hes;obtain⟨hi1,_⟩:=hi;cases hi1;have hd:=rU hes hx.1
   cases hd with
   |nil a cap=>exact fun h=>absurd h.2.1 (by simp)
   |sl b off cap aM es vals c ty fz hcap hlen hb hσ hc hv=>
    refine Does.here (v:=.pointer (some ⟨b,off+n.toNat*P.cellsOf e,none⟩)) hS.live ?_;rintro⟨h1,h3,h4,h5⟩
    have hge:es.getD n.toNat []=es[n.toNat]:=by simp[List.getD,h3]
    have OZ:aM=P.cellsOf e:=by rw[<-h4,hge,hlen _ (ac h3)]
    refine⟨?_,⟨_,rfl,c,ty,fz,rfl,hb,?_,fun j d hj=> ?_⟩,rfl⟩
    ·have hlt:n<(es.length:Int):=by omega
     simp only[Instr.indexAt,asIntOf,Sem.run_bind,Sem.run_pure,Result.andThen_ok,run_underlying ht];simp[h1,hlt,gT h5,addr_add]
    ·have:(n.toNat+1)*aM<=es.length*aM:=ce _ h3;rw[ck,Nat.one_mul] at this
     simp only
     rw[h4,<-OZ];omega
    ·rw[hge] at hj
     have hj':j<aM:=by
      have:=(ai.1 hj).1
      rwa [hlen _ (ac h3)] at this
     have hfl:=flat_get es aM hlen n.toNat j h3 hj';rw[hj] at hfl
     have hlt:n.toNat*aM+j<es.length*aM:=by
      have:(n.toNat+1)*aM<=es.length*aM:=ce _ h3;rw[ck,Nat.one_mul] at this;omega
     refine⟨vals (n.toNat*aM+j),?_,hv _ d hfl⟩;have:=hc _ hlt;rw[OZ] at this ⊢;rw[<-dm] at this;exact this
  ·exact Does.no
 ·exact Does.no
theorem O0{t:TypeId}{x i:V}{xv iv:Value}(hS:dM w σ S β)(hx:cu w σ S β x xv)(hi:cu w σ S β i iv):
 Does P (Instr.index t xv iv) w σ S β (yD P t x i):=by
 unfold yD;split
 ·rename_i l k n ht;obtain⟨hi1,_⟩:=hi;cases hi1;obtain⟨hx1,_⟩:=hx;cases hx1;refine Does.here (v:=.int .u8 ((l.getD n.toNat 0).toNat)) hS.live ?_;rintro⟨h1,h2⟩;refine⟨?_,.i _ _,rfl⟩
  have hg:(⟨l.toArray⟩:ByteArray)[n.toNat]? =some (l.getD n.toNat 0):=by
   have hs:n.toNat<(⟨l.toArray⟩:ByteArray).size:=by simpa [ByteArray.size] using h2
   rw[getElem?_pos (⟨l.toArray⟩:ByteArray) n.toNat hs];simp only[ByteArray.getElem_eq_getElem_data,List.getElem_toArray,List.getD,ag h2,dn]
  simp only[Instr.index,asIntOf,Sem.run_bind,Sem.run_pure,Result.andThen_ok,run_underlying ht,h1,if_true,hg]
 ·rename_i len e cs k n ht;obtain⟨hi1,_⟩:=hi;cases hi1;obtain⟨a,rfl,hc⟩:=hx;rintro⟨h0,h1,h2⟩;obtain⟨v,w',σ',hrun,hg,hr⟩:=HV (P:=P) (t:=e) (off:=n.toNat*P.cellsOf e) hS hc h0;refine⟨v,w',σ',?_,hg,hr⟩
  have hlt:n<(len:Int):=by omega
  have hinfo:(P.info? e).isSome=true:=by
   unfold xH at h0;split at h0
   ·exact h0.elim
   ·rename_i d hd;exact info_of_underlying hd
  simp only[Instr.index,asIntOf,Sem.run_bind,Sem.run_pure,Result.andThen_ok,run_underlying ht,h1,hlt,and_self,if_true,gT hinfo,hrun]
 ·exact Does.no
end
section
variable {P:Program} {w:World} {σ:Nat->Nat} {S:Store} {β:Hs}
theorem Dm{α:Type}[BEq α][LawfulBEq α][DecidableEq α](a b:α):(a==b)=decide (a=b):=by rw[eh];simp
theorem O1{op:BinOp}{k:IntKind}{a b:Int}{t:TypeId}(hl:∀b,b<w.heap.size\/σ b=0):Does P (binOp op t (.int k a) (.int k b)) w σ S β (OV op k a b):=by
 have hi:∀(op':BinOp)(n:Int),((binOp op t (.int k a) (.int k b)).run P w=.ok (.int k n) w)->Does P (binOp op t (.int k a) (.int k b)) w σ S β (True,.c (.d (.i k n))):=
  fun _ n h=>Does.here hl fun _=>⟨h,.i _ _,rfl⟩
 have hb:∀(x:Bool),((binOp op t (.int k a) (.int k b)).run P w=.ok (.bool x) w)->Does P (binOp op t (.int k a) (.int k b)) w σ S β (True,.c (.d (.b x))):=
  fun x h=>Does.here hl fun _=>⟨h,.b _,rfl⟩
 cases op with
 |and=>exact hi .add _ (by simp[binOp,Op.intBits,x9,Yi,JR])
 |or=>exact hi .add _ (by simp[binOp,Op.intBits,x9,Yi,JR])
 |xor=>exact hi .add _ (by simp[binOp,Op.intBits,x9,Yi,JR])
 |shl=>intro h;replace h:0<=b:=h;exact hi .add _ (by simp[binOp,Op.shift,Int.not_lt.2 h,JU,Dl]) trivial
 |shr=>intro h;replace h:0<=b:=h;exact hi .add _ (by simp[binOp,Op.shift,Int.not_lt.2 h,JU,Dl]) trivial
 |add=>exact hi .add _ (by simp[binOp,Op.intArith])
 |sub=>exact hi .add _ (by simp[binOp,Op.intArith])
 |mul=>exact hi .add _ (by simp[binOp,Op.intArith])
 |quo=>intro h;replace h:b≠0:=h;exact hi .add _ (by simp[binOp,Op.intDiv,h]) trivial
 |rem=>intro h;replace h:b≠0:=h;exact hi .add _ (by simp[binOp,Op.intDiv,h]) trivial
 |eql=>exact hb _ (by simp[binOp,Op.intCmp,Dm])
 |neq=>exact hb _ (by simp[binOp,Op.intCmp,bne,Dm])
 |lss=>exact hb _ (by simp[binOp,Op.intCmp])
 |leq=>exact hb _ (by simp[binOp,Op.intCmp])
 |gtr=>exact hb _ (by simp[binOp,Op.intCmp])
 |geq=>exact hb _ (by simp[binOp,Op.intCmp])
 |_=>exact Does.no
theorem RL{op:BinOp}{k k':IntKind}{a b:Int}{t:TypeId}(hl:∀b,b<w.heap.size\/σ b=0):Does P (binOp op t (.int k a) (.int k' b)) w σ S β (JV op k a b):=by
 have hi:∀(n:Int),((binOp op t (.int k a) (.int k' b)).run P w=.ok (.int k n) w)->Does P (binOp op t (.int k a) (.int k' b)) w σ S β (True,.c (.d (.i k n))):=
  fun n h=>Does.here hl fun _=>⟨h,.i _ _,rfl⟩
 cases op with
 |shl=>intro h;replace h:0<=b:=h;exact hi _ (by simp[binOp,Op.shift,Int.not_lt.2 h,JU,Dl]) trivial
 |shr=>intro h;replace h:0<=b:=h;exact hi _ (by simp[binOp,Op.shift,Int.not_lt.2 h,JU,Dl]) trivial
 |_=>exact Does.no
theorem RN(a b:List UInt8):(⟨a.toArray⟩:ByteArray)++⟨b.toArray⟩=⟨(a++b).toArray⟩:=by
 apply ByteArray.ext;simp[ByteArray.data_append]
theorem O3{op:BinOp}{a b:List UInt8}{t:TypeId}(hl:∀b,b<w.heap.size\/σ b=0):Does P (binOp op t (.string ⟨a.toArray⟩) (.string ⟨b.toArray⟩)) w σ S β (OW op a b):=by
 have hb:∀(x:Bool),((binOp op t (.string ⟨a.toArray⟩) (.string ⟨b.toArray⟩)).run P w=.ok (.bool x) w)->Does P (binOp op t (.string ⟨a.toArray⟩) (.string ⟨b.toArray⟩)) w σ S β (True,.c (.d (.b x))):=
  fun x h=>Does.here hl fun _=>⟨h,.b _,rfl⟩
 cases op with
 |add=>
  intro h
  replace h:a.length+b.length<=1099511627776:=h
  refine⟨_,w,σ,?_,.refl hl,.s _,rfl⟩
  have h1:¬(IntKind.i64.max<((a.length+b.length:Nat):Int)):=by
   have:IntKind.i64.max=9223372036854775807:=by decide
   omega
  simp only[binOp,Op.stringOp,ByteArray.size,dC,gt_iff_lt,if_neg h1,RN,Sem.run_pure]
 |eql=>exact hb _ (by simp[binOp,Op.stringOp,ByteArray.toList_eq,Dm])
 |neq=>exact hb _ (by simp[binOp,Op.stringOp,ByteArray.toList_eq,Dm])
 |lss=>exact hb _ (by simp[binOp,Op.stringOp,ByteArray.toList_eq])
 |_=>exact Does.no
theorem Ai{u:TypeId}(h:intTy P u=true){a:Array Value}{off:Nat}{v:Value}(ha:a[off]? =some v):(part u a off).run P w=.ok v w:=by
 unfold intTy at h;split at h
 ·rename_i k hk
  have hagg:rQ P u=false:=by simp[rQ,hk]
  simp[part,mh hk,hagg,ha]
 ·cases h
theorem lX{d:Nat}{u:TypeId}(h:intTy P u=true){k:IntKind}{a b:Int}:(Op.equalIn (d+1) u (.int k a) (.int k b)).run P w=.ok (decide (a=b)) w:=by
 unfold intTy at h;split at h
 ·rename_i k' hk;rw[Op.equalIn];simp[run_underlying hk,Dm]
 ·cases h
theorem yG{d:Nat}{t:TypeId}(h:pairTy P t=true){k l:IntKind}{a b a' b':Int}:
 (Op.equalIn (d+2) t (.agg #[.int k a,.int l b]) (.agg #[.int k a',.int l b'])).run P w=.ok (decide (a=a'/\b=b')) w:=by
 unfold pairTy at h;simp only[aq,ep] at h;obtain⟨⟨_,h2⟩,h3⟩:=h;split at h3
 case h_2=>cases h3
 rename_i fs hfs;obtain⟨fs⟩:=fs;simp only at h3;split at h3
 case h_2=>cases h3
 rename_i f g;simp only[aq,bne_iff_ne,ne_eq,beq_iff_eq] at h3;obtain⟨⟨⟨⟨⟨n1,n2⟩,o1⟩,o2⟩,i1⟩,i2⟩:=h3;rw[Op.equalIn];have p1:∀x y:Value,(part f.type #[x,y] f.offset).run P w=.ok x w:=fun x y=>Ai i1 (by rw[o1];rfl);have p2:∀x y:Value,(part g.type #[x,y] g.offset).run P w=.ok y w:=fun x y=>Ai i2 (by rw[o2];rfl);by_cases e1:a=a'
 ·by_cases e2:b=b'
  ·simp[run_underlying hfs,h2,n1,n2,p1,p2,lX i1,lX i2,e1,e2]
  ·simp[run_underlying hfs,h2,n1,n2,p1,p2,lX i1,lX i2,e1,e2]
 ·simp[run_underlying hfs,h2,n1,n2,p1,p2,lX i1,lX i2,e1]
theorem Ep{t:TypeId}(h:pairTy P t=true){op:BinOp}{ox oy:Operand}{xs ys:Array Value}:(eqGuard op t ox oy (.agg xs) (.agg ys)).run P w=.ok () w:=by
 unfold pairTy at h;simp only[aq,ep] at h;obtain⟨⟨h1,_⟩,_⟩:=h;unfold eqGuard;cases op<;>simp[h1]
theorem HY{k l:IntKind}{a b:Int}{v:Value}(h:cu w σ S β (.agg [.d (.i k a),.d (.i l b)]) v):v=.agg #[.int k a,.int l b]:=by
 obtain⟨⟨x⟩,rfl,h1,h2⟩:=h;obtain⟨u,e1,r1,_⟩:=h2 0 _ rfl;obtain⟨u',e2,r2,_⟩:=h2 1 _ rfl;cases r1;cases r2
 match x,h1 with
 |[y,z],_=>
  cases e1;cases e2;rfl
theorem Va{op:BinOp}{t:TypeId}{ox oy:Operand}{x y:V}{xv yv:Value}(hS:dM w σ S β)(hx:cu w σ S β x xv)(hy:cu w σ S β y yv):
 Does P (do eqGuard op t ox oy xv yv;binOp op t xv yv) w σ S β (Gi P op t x y):=by
 have gi:∀k a k' b,(eqGuard op t ox oy (.int k a) (.int k' b)).run P w=.ok () w:=fun k a k' b=>by unfold eqGuard;cases op<;>rfl
 have gs:∀a b,(eqGuard op t ox oy (.string a) (.string b)).run P w=.ok () w:=fun a b=>by unfold eqGuard;cases op<;>rfl
 have gb:∀a b,(eqGuard op t ox oy (.bool a) (.bool b)).run P w=.ok () w:=fun a b=>by unfold eqGuard;cases op<;>rfl
 unfold Gi;split
 ·rename_i xs ys;unfold OX;split
  case h_2=>exact Does.no
  rename_i k a l b k' a' l' b';have e1:=HY hx;have e2:=HY hy;subst e1 e2;split
  ·rintro⟨hp,rfl,rfl⟩;refine Does.here hS.live (fun _=>⟨?_,.b _,rfl⟩) ⟨hp,rfl,rfl⟩;simp only[Sem.run_bind,Ep hp,Result.andThen_ok,binOp,Op.equal];rw[show Op.maxDepth=9998+2 from rfl,yG hp];rfl
  ·rintro⟨hp,rfl,rfl⟩;refine Does.here hS.live (fun _=>⟨?_,.b _,rfl⟩) ⟨hp,rfl,rfl⟩;simp only[Sem.run_bind,Ep hp,Result.andThen_ok,binOp,Op.equal];rw[show Op.maxDepth=9998+2 from rfl,yG hp];rfl
  ·exact Does.no
 ·rename_i k a k' b;split
  ·rename_i hk;subst hk;obtain⟨hx1,_⟩:=hx;obtain⟨hy1,_⟩:=hy;cases hx1;cases hy1;intro hr;obtain⟨v,w',σ',hrun,hg⟩:=O1 (P:=P) (t:=t) hS.live hr;exact⟨v,w',σ',by simp[gi,hrun],hg⟩
  ·obtain⟨hx1,_⟩:=hx;obtain⟨hy1,_⟩:=hy;cases hx1;cases hy1;intro hr;obtain⟨v,w',σ',hrun,hg⟩:=RL (P:=P) (t:=t) (k':=k') hS.live hr;exact⟨v,w',σ',by simp[gi,hrun],hg⟩
 ·rename_i a b;obtain⟨hx1,_⟩:=hx;obtain⟨hy1,_⟩:=hy;cases hx1;cases hy1;intro hr;obtain⟨v,w',σ',hrun,hg⟩:=O3 (P:=P) (t:=t) hS.live hr;exact⟨v,w',σ',by simp[gs,hrun],hg⟩
 ·rename_i a b;obtain⟨hx1,_⟩:=hx;obtain⟨hy1,_⟩:=hy;cases hx1;cases hy1;split
  ·rename_i ht;refine Does.here hS.live fun _=>⟨?_,.b _,rfl⟩;simp only[Sem.run_bind,gb,Result.andThen_ok,binOp];show((Op.equalIn (9999+1) t (.bool a) (.bool b)).run P w).andThen _=_;rw[Op.equalIn];simp[run_underlying ht,Dm]
  ·rename_i ht;refine Does.here hS.live fun _=>⟨?_,.b _,rfl⟩;simp only[Sem.run_bind,gb,Result.andThen_ok,binOp];show((Op.equalIn (9999+1) t (.bool a) (.bool b)).run P w).andThen _=_;rw[Op.equalIn];simp[run_underlying ht,Dm]
  ·exact Does.no
 ·exact Does.no
theorem YS{op:UnOp}{x:V}{xv:Value}(hS:dM w σ S β)(hx:cu w σ S β x xv):Does P (Op.unary op xv) w σ S β (NS op x):=by
 unfold NS;split
 ·obtain⟨hx1,_⟩:=hx;cases hx1;exact Does.here hS.live fun _=>⟨rfl,.b _,rfl⟩
 ·obtain⟨hx1,_⟩:=hx;cases hx1;exact Does.here hS.live fun _=>⟨rfl,.i _ _,rfl⟩
 ·exact Does.no
theorem RO{s t:TypeId}{x:V}{xv:Value}(hS:dM w σ S β)(hx:cu w σ S β x xv):Does P (convert s t xv) w σ S β (BH P s t x):=by
 unfold BH;split
 ·rename_i d k k' n hs ht;obtain⟨hx1,_⟩:=hx;cases hx1;refine Does.here hS.live fun _=>⟨?_,.i _ _,rfl⟩;simp only[convert,Sem.run_bind,run_underlying hs,run_underlying ht,Result.andThen_ok];cases d<;>rfl
 ·rename_i l hs ht;obtain⟨hx1,_⟩:=hx;cases hx1;refine Does.here hS.live fun _=>⟨?_,.s _,rfl⟩;simp[convert,run_underlying hs,run_underlying ht]
 ·rename_i e x hs ht;split
  ·rename_i es he hes;have hd:=rU hes hx.1;intro hall
   replace hall:∀y∈es,y=[.i .u8 (Ag y)]:=hall
   refine⟨.string ⟨(es.map Jt).toArray⟩,w,σ,?_,.refl hS.live,.s _,rfl⟩
   cases hd with
   |nil a cap=>
    rw[run_convert_bytes_string w s t e _ _ _ hs he ht]
    cases a with
    |none=>simp[Conv.bytesToString];rfl
    |some a=>
     rw[run_bytesToString w a 0 cap [] (by simp[loadCells,loadCellsFrom])];rfl
   |sl b off cap aM es vals c ty fz hcap hlen hb hσ hc hv=>
    have hrow:∀i,∀hi:i<es.length,es[i]=[.i .u8 (Ag es[i])]:=fun i hi=>hall _ (ac hi)
    have hz:0<es.length->aM=1:=fun h=>by
     have h1:=hlen _ (ac h);rw[hrow 0 h] at h1;exact h1.symm
    rw[run_convert_bytes_arg w s e hs he b off es.length cap (es.map Ag) (by simp) (fun i hi=> ?_) t ht]
    ·congr 2;simp[strOfNums,Jt]
    ·have h1:=hz (by omega);subst h1;rw[cell_of hb,hc i (by omega)];have hfl:=flat_get es 1 hlen i 0 hi (by omega);rw[Nat.mul_one,eq,hrow i hi] at hfl;have:=hv i _ hfl
     have hvi:∀u,dw w σ (.i .u8 (Ag es[i])) u->u=.int .u8 (Ag es[i]):=fun u hu=>by cases hu;rfl
     rw[hvi _ this];simp[List.getD,hi]
  ·exact Does.no
 ·exact Does.no
theorem JX{x:V}{xv:Value}{i:Nat}(hS:dM w σ S β)(hx:cu w σ S β x xv):Does P (Instr.extract xv i) w σ S β (tK x i):=by
 unfold tK;split
 ·rename_i xs;obtain⟨a,rfl,hl,h2⟩:=hx;split
  ·rename_i cs hi;obtain⟨u,hu,a',rfl,hc⟩:=h2 i _ hi;exact Does.here hS.live fun _=>⟨by simp[Instr.extract,hu],a',rfl,hc⟩
  ·rename_i c hi;obtain⟨u,hu,y,hy,hc,ho⟩:=h2 i _ hi;cases hy;exact Does.here hS.live fun _=>⟨by simp[Instr.extract,hu],hc,ho⟩
  ·exact Does.no
 ·exact Does.no
theorem JY:∀(caps:List V)(l:List (Key×Nat)),caps.mapM capOf=some l->∀(vs:List Value),caps.length=vs.length->(∀(j:Nat)(x:V),caps[j]? =some x->∃v,vs[j]? =some v/\cu w σ S β x v)->
 l.length=vs.length/\∀(j:Nat)(k:Key)(off:Nat),l[j]? =some (k,off)->∃u:Value,vs[j]? =some u/\u.oneCell'=true/\∃o,aN S k=some o/\∀cs,o=.box cs->∃b,aN β k=some (Value.pointer (some ⟨b,0,none⟩))/\u=Value.pointer (some ⟨b,off,none⟩)
 |[],l,h,vs,hl,_=>by
  simp at h;subst h;exact⟨hl,fun j k off e=>by simp at e⟩
 |x::caps,l,h,[],hl,_=>by simp at hl
 |x::caps,l,h,v::vs,hl,hv=>by
  rw[cV] at h
  cases hx:capOf x with
  |none=>rw[hx] at h;simp at h
  |some ko=>
   cases hm:caps.mapM capOf with
   |none=>rw[hx,hm] at h;simp at h
   |some l'=>
    rw[hx,hm] at h;simp at h;subst h;obtain⟨hl',hj'⟩:=JY caps l' hm vs (by simpa using hl) (fun j x hx=>hv (j+1) x hx);refine⟨by simp[hl'],fun j k off e=> ?_⟩
    cases j with
    |zero=>
     simp at e;subst e;obtain⟨u,hu,hr⟩:=hv 0 x rfl;refine⟨u,hu,?_⟩;unfold capOf at hx;split at hx
     ·cases hx;exact⟨hr.2,hr.1⟩
     ·cases hx
    |succ j=>exact hj' j k off e
theorem I8{fn:Fn}{first caps:List V}{fv cv:List Value}(hS:dM w σ S β)(hf:first.length=fv.length)(hl:caps.length=cv.length)
 (hc:∀(j:Nat) (x:V),caps[j]? =some x->∃v,cv[j]? =some v/\cu w σ S β x v):Does P (Instr.makeFunc fn fv.toArray cv.toArray) w σ S β (qU fn first caps):=by
 unfold qU;split
 ·rename_i f;split
  ·rename_i l hm
   have:fv=[]:=by cases fv with|nil=>rfl|cons=>simp at hf
   subst this;obtain⟨h1,h2⟩:=JY caps l hm cv hl hc;exact Does.here hS.live fun _=>⟨rfl,⟨_,rfl,by simpa using h1.symm,fun j k off e=>by simpa using h2 j k off e⟩,rfl⟩
  ·exact Does.no
 ·exact Does.no
theorem NT{es:Array MapEntry}{m:List (List UInt8)}(hes:es.toList.map (fun e=>(e.key,e.val))=m.map (fun l=>(Value.string ⟨l.toArray⟩,Value.bool true))):
 (∀e∈es.toList,MapKept.IsKey .string e.key)/\(∀e∈es.toList,e.val=.bool true)/\∀l:List UInt8,l∈m<->∃e∈es.toList,e.key=.string ⟨l.toArray⟩:=by
 have h1:∀e∈es.toList,∃l∈m,e.key=.string ⟨l.toArray⟩/\e.val=.bool true:=fun e he=>by
  have:=bd (f:=fun e:MapEntry=>(e.key,e.val)) he;rw[hes] at this;obtain⟨l,hl,e1⟩:=cp.1 this;injection e1 with e1 e2;exact⟨l,hl,e1.symm,e2.symm⟩
 refine⟨fun e he=> ?_,fun e he=>(h1 e he).choose_spec.2.2,fun l=>⟨fun hl=> ?_,fun⟨e,he,hk⟩=> ?_⟩⟩
 ·obtain⟨l,_,h,_⟩:=h1 e he;rw[h];trivial
 ·have:=bd (f:=fun l:List UInt8=>(Value.string ⟨l.toArray⟩,Value.bool true)) hl;rw[<-hes] at this;obtain⟨e,he,e1⟩:=cp.1 this;injection e1 with e1 e2;exact⟨e,he,e1⟩
 ·obtain⟨l',hl,h,_⟩:=h1 e he;rw[h] at hk;injection hk with hk;injection hk with hk
  have:l'=l:=by simpa using congrArg Array.toList hk
  rw[<-this];exact hl
theorem Mv{t:TypeId}{x i:V}{xv iv:Value}(hS:dM w σ S β)(hx:cu w σ S β x xv)(hi:cu w σ S β i iv):Does P (Instr.lookup t xv iv false) w σ S β (tL P S t x i):=by
 unfold tL;split
 ·rename_i kt et k l ht;split
  ·rename_i m hk hkt hz;obtain⟨⟨o,ho,h2⟩,_⟩:=hx;rw[hk] at ho;cases ho;have hh:=h2 m rfl;obtain⟨h,hh',hr⟩:=hS.obj k _ hk;rw[hh] at hh';cases hh';obtain⟨b,es,clock,rfl,hb,_,hes⟩:=hr;obtain⟨hi1,_⟩:=hi;cases hi1;refine Does.here (v:=.bool (decide (l∈m))) hS.live fun _=> ?_;obtain⟨hks,hvs,hmem⟩:=NT hes;have hkey:MapKept.IsKey .string (.string ⟨l.toArray⟩):=trivial
   have qC:(zeroValue et).run P w=.ok (.bool false) w:=by
    unfold zeroV at hz
    cases hi:P.info? et with
    |none=>rw[hi] at hz;cases hz
    |some info=>
     rw[hi] at hz;simp only[dp] at hz;simp[zeroValue,typeInfo,hi,hz]
   rcases MapKept.findNow_spec hkey es.toList 0 hks with⟨h1,h3⟩|⟨j,e0,h1,h3,h4⟩
   ·have hn:l∉m:=fun hl=>by
     obtain⟨e,he,hke⟩:=(hmem l).1 hl;exact h3 e he hke
    refine⟨?_,.b _,rfl⟩;rw[decide_eq_false hn];simp[Instr.lookup,run_underlying ht,MapKept.run_getObj_map hb,MapKept.run_checkKey hkt hkey,MapKept.run_findKey hkt h1,qC,Result.andThen]
   ·have he0:e0∈es.toList:=cq h3;have hy:l∈m:=(hmem l).2 ⟨e0,he0,h4⟩;have hv:=hvs e0 he0;refine⟨?_,.b _,rfl⟩;rw[decide_eq_true hy];simp[Instr.lookup,run_underlying ht,MapKept.run_getObj_map hb,MapKept.run_checkKey hkt hkey,MapKept.run_findKey hkt h1,Result.andThen,hv]
  ·exact Does.no
 ·exact Does.no
theorem JZ{ts:Array TypeId}{ty:TypeId}{x y:V}{xv yv:Value}(hS:dM w σ S β)(hx:cu w σ S β x xv)(hy:cu w σ S β y yv):Does P (Builtin.max_ ts ty #[xv,yv]) w σ S β (qL true x y):=by
 unfold qL;split
 ·rename_i k a k' b;obtain⟨hx1,_⟩:=hx;cases hx1;obtain⟨hy1,_⟩:=hy;cases hy1
  have e:(if b>a then b else a)=max a b:=by split<;>omega
  exact Does.here hS.live fun _=>⟨by simp[Builtin.max_,Builtin.max2,<-e],.i _ _,rfl⟩
 ·exact Does.no
theorem J2{ts:Array TypeId}{ty:TypeId}{x y:V}{xv yv:Value}(hS:dM w σ S β)(hx:cu w σ S β x xv)(hy:cu w σ S β y yv):Does P (Builtin.min_ ts ty #[xv,yv]) w σ S β (qL false x y):=by
 unfold qL;split
 ·rename_i k a k' b;obtain⟨hx1,_⟩:=hx;cases hx1;obtain⟨hy1,_⟩:=hy;cases hy1
  have e:(if b<a then b else a)=min a b:=by split<;>omega
  exact Does.here hS.live fun _=>⟨by simp[Builtin.min_,Builtin.min2,<-e],.i _ _,rfl⟩
 ·exact Does.no
theorem J3{t ty:TypeId}{x:V}{xv:Value}(hS:dM w σ S β)(hx:cu w σ S β x xv):Does P (Builtin.len_ #[t] ty #[xv]) w σ S β (yY P S t x):=by
 unfold yY;split
 ·rename_i l ht;obtain⟨hx1,_⟩:=hx;cases hx1;refine Does.here hS.live fun _=>⟨?_,.i _ _,rfl⟩;have hsz:(⟨l.toArray⟩:ByteArray).size=l.length:=dC;simp[Builtin.len_,run_underlying ht,goInt,hsz]
 ·rename_i n e ht;exact Does.here hS.live fun _=>⟨by simp[Builtin.len_,run_underlying ht,goInt],.i _ _,rfl⟩
 ·rename_i e k ht;split
  ·rename_i aM es hk;obtain⟨⟨o,ho,h2⟩,_⟩:=hx;rw[hk] at ho;cases ho;have hh:=h2 aM es rfl;obtain⟨h,hh',hr⟩:=hS.obj k _ hk;rw[hh] at hh';cases hh';obtain⟨_,ad,cap,rfl,_⟩:=hr;exact Does.here hS.live fun _=>⟨by simp[Builtin.len_,run_underlying ht,goInt],.i _ _,rfl⟩
  ·exact Does.no
 ·rename_i e k r p ht;split
  ·rename_i rs hk;split
   ·rename_i es hes;obtain⟨h,T,T',hh,hr,hT',hE,hhd,_⟩:=BI hS hk hes;obtain⟨⟨o,ho,hx2⟩,_⟩:=hx;rw[hk] at ho;cases ho;obtain⟨h',e1,e2⟩:=hx2 rs rfl;rw[hh] at e1;cases e1;obtain⟨a,cap,e3⟩:=hE.Hy;rw[hhd,e3] at e2;cases e2;exact Does.here hS.live fun _=>⟨by simp[Builtin.len_,run_underlying ht,goInt],.i _ _,rfl⟩
   ·exact Does.no
  ·exact Does.no
 ·rename_i e x _ _ ht;split
  ·rename_i es hes;have hd:=rU hes hx.1
   cases hd with
   |nil a cap=>exact Does.here hS.live fun _=>⟨by simp[Builtin.len_,run_underlying ht,goInt],.i _ _,rfl⟩
   |sl b off cap aM es vals c ty fz hcap hlen hb hσ hc hv=>exact Does.here hS.live fun _=>⟨by simp[Builtin.len_,run_underlying ht,goInt],.i _ _,rfl⟩
  ·exact Does.no
 ·exact Does.no
theorem oP(k:IntKind)(n:Int)(y:Nat)(code:BoundsCode)(h0:0<=n)(h1:n<=y):(Instr.sliceBound (.int k n) y code).run P w=.ok n.toNat w:=by
 simp[Instr.sliceBound,asIntOf,h0,h1]
theorem Gm{x:V}{n:Int}{v:Value}(h:rR (some x) 0=some n\/∃d,rR (some x) d=some n)(hx:cu w σ S β x v):∃k,v=.int k n:=by
 have h':∃d,rR (some x) d=some n:=h.elim (fun h=>⟨0,h⟩) id;obtain⟨d,h'⟩:=h';unfold rR at h';split at h'
 ·rename_i h;cases h
 ·rename_i k n' he;cases he;cases h';obtain⟨hx1,_⟩:=hx;cases hx1;exact⟨_,rfl⟩
 ·cases h'
def Gn(w:World)(σ:Nat->Nat)(S:Store)(β:Hs):Option V->Option Value->Prop
 |none,none=>True
 |some x,some v=>cu w σ S β x v
 |_,_=>False
theorem y5{NU:Bool}{len cap:Nat}{lo hi:Option V}{lv hv:Option Value}{a b:Int}(hlo:Gn w σ S β lo lv)(hhi:Gn w σ S β hi hv)
 (ha:rR lo 0=some a)(hb:rR hi len=some b)(h0:0<=a)(h1:a<=b)(h2:b<=len)(h3:len<=cap):
 (Instr.sliceBounds NU len cap lv hv none).run P w=.ok (a.toNat,b.toNat,cap) w:=by
 have hbc:b<=(cap:Int):=by omega
 have hab:a<=((b.toNat:Nat):Int):=by omega
 cases hi with
 |none=>
  cases hv with
  |some v=>exact hhi.elim
  |none=>
   cases hb
   cases lo with
   |none=>
    cases lv with
    |some v=>exact hlo.elim
    |none=>cases ha;simp[Instr.sliceBounds]
   |some x=>
    cases lv with
    |none=>exact hlo.elim
    |some v=>
     obtain⟨k,rfl⟩:=Gm (.inl ha) hlo;simp[Instr.sliceBounds,oP k a len .sliceB h0 h1]
 |some y=>
  cases hv with
  |none=>exact hhi.elim
  |some v=>
   obtain⟨k,rfl⟩:=Gm (.inr ⟨_,hb⟩) hhi
   have hb0:0<=b:=by omega
   cases lo with
   |none=>
    cases lv with
    |some v=>exact hlo.elim
    |none=>cases ha;cases NU<;>simp[Instr.sliceBounds,oP k b cap _ hb0 hbc]
   |some x=>
    cases lv with
    |none=>exact hlo.elim
    |some v=>
     obtain⟨k',rfl⟩:=Gm (.inl ha) hlo;cases NU<;>simp[Instr.sliceBounds,oP k b cap _ hb0 hbc,oP k' a b.toNat .sliceB h0 hab]
theorem RP{α:Type}(es:List (List α))(aM:Nat)(h:∀e∈es,e.length=aM)(n:Nat)(hn:n<=es.length)(j:Nat):((es.drop n).flatten)[j]? =es.flatten[n*aM+j]? :=by
 have:es.flatten=(es.take n).flatten++(es.drop n).flatten:=by rw[<-cF,db]
 rw[this]
 have hl:(es.take n).flatten.length=n*aM:=by
  rw[iF _ aM (fun e he=>h e (List.mem_of_mem_take he)),bk,Nat.min_eq_left hn]
 rw[am (by omega),hl,cI]
theorem O4{t:TypeId}{x:V}{lo hi mx:Option V}{xv:Value}{lv hv mv:Option Value}(hS:dM w σ S β)(hx:cu w σ S β x xv)(hlo:Gn w σ S β lo lv)(hhi:Gn w σ S β hi hv)
 (hmx:Gn w σ S β mx mv):Does P (Instr.sliceAt t xv lv hv mv) w σ S β (yE P t x lo hi mx):=by
 unfold yE;split
 ·rename_i l ht
  cases mv with
  |some v=>exact hmx.elim
  |none=>
   obtain⟨hx1,_⟩:=hx;cases hx1;split
   ·rename_i a b ha hb;rintro⟨h0,h1,h2⟩;refine⟨_,w,σ,?_,.refl hS.live,.s _,rfl⟩;have hsz:(⟨l.toArray⟩:ByteArray).size=l.length:=dC;have hb':=y5 (P:=P) (NU:=false) hlo hhi ha hb h0 h1 h2 (aw l.length);simp only[Instr.sliceAt,Instr.slice,Sem.run_bind,run_underlying ht,Result.andThen_ok,hsz];simp only[Option.isSome_none,dd,if_false,Sem.run_bind,Sem.run_pure,Result.andThen_ok,hb'];congr 2;apply ByteArray.ext;apply Array.ext';rw[ByteArray.data_extract];simp[List.drop_take]
   ·exact Does.no
 ·rename_i e x ht
  cases mv with
  |some v=>exact hmx.elim
  |none=>
   split
   ·rename_i es hes;split
    ·rename_i a b ha hb;have hd:=rU hes hx.1;intro⟨h0,h1,h2,h3,h4⟩
     cases hd with
     |nil a' cap=>
      have hb':=y5 (P:=P) (NU:=true) hlo hhi ha hb h0 h1 h2 (ao cap)
      have hb0:b=0:=by simp at h2;omega
      have ha0:a=0:=by omega
      refine⟨.slice (if cap=a.toNat then a' else a'.map (·.add (a.toNat*P.cellsOf e))) (b.toNat-a.toNat) (cap-a.toNat),w,σ,?_,.refl hS.live,?_,?_⟩
      ·simp only[Instr.sliceAt,Instr.slice,Sem.run_bind,run_underlying ht,Result.andThen_ok,ae] at hb' ⊢;simp only[hb',Result.andThen_ok,Sem.run_bind,gT h4,Sem.run_pure]
      ·subst hb0;subst ha0;simp;exact .nil _ _
      ·rfl
     |sl bl off cap aM es vals c ty fz hcap hlen hbk hσ hc hv=>
      have hb':=y5 (P:=P) (NU:=true) hlo hhi ha hb h0 h1 h2 hcap
      have hal:a.toNat<=es.length:=by omega
      have hbl:b.toNat<=es.length:=by omega
      have OZ:es=[]\/aM=P.cellsOf e:=by
       cases es with
       |nil=>exact .inl rfl
       |cons y ys=>exact .inr (by rw[<-hlen y (by simp),h3 y (by simp)])
      have hln:((es.take b.toNat).drop a.toNat).length=b.toNat-a.toNat:=by simp;omega
      refine⟨.slice (if cap=a.toNat then some ⟨bl,off,none⟩ else some ⟨bl,off+a.toNat*P.cellsOf e,none⟩) (b.toNat-a.toNat) (cap-a.toNat),w,σ,?_,.refl hS.live,?_,rfl⟩
      ·simp only[Instr.sliceAt,Instr.slice,Sem.run_bind,run_underlying ht,Result.andThen_ok,hb',gT h4,Sem.run_pure];split
       ·rfl
       ·simp[addr_add]
      ·by_cases hz:b.toNat-a.toNat=0
       ·have:((es.take b.toNat).drop a.toNat)=[]:=co (by omega);simp only[this,hz];exact .nil _ _
       ·have BJ:cap≠a.toNat:=by omega
        have hne:es≠[]:=by intro e;subst e;simp at hbl;omega
        have he:aM=P.cellsOf e:=OZ.resolve_left hne;rw[if_neg BJ];show dw w σ _ _;rw[<-hln,<-he]
        have hmul:a.toNat*aM+(b.toNat-a.toNat)*aM<=es.length*aM:=by
         rw[<-ck];exact ce _ (by omega)
        have hlt':∀e∈es.take b.toNat,e.length=aM:=fun e he=>hlen e (List.mem_of_mem_take he);refine .sl bl (off+a.toNat*aM) (cap-a.toNat) aM _ (fun j=>vals (a.toNat*aM+j)) c ty fz (by omega) (fun e he=>hlen e (List.mem_of_mem_take (List.mem_of_mem_drop he))) hbk ?_ ?_ ?_
        ·rw[hln];omega
        ·intro j hj;rw[hln] at hj;rw[dm];exact hc _ (by omega)
        ·intro j d hj;rw[RP _ aM hlt' _ (by simp;omega)] at hj
         have hj2:es.flatten[a.toNat*aM+j]? =some d:=by
          have hsplit:es.flatten=(es.take b.toNat).flatten++(es.drop b.toNat).flatten:=by rw[<-cF,db]
          rw[hsplit,an (ai.1 hj).1];exact hj
         exact hv _ d hj2
    ·exact Does.no
   ·exact Does.no
 ·exact Does.no
end
section
variable {P:Program} {w:World} {σ:Nat->Nat} {S:Store} {β:Hs}
theorem rV{x:V}{v:Value}{xs:List C}(h:qB x=some xs)(hx:cu w σ S β x v):dS w σ S β xs v.cells.toList:=by
 cases x with
 |c x=>
  cases h;obtain⟨h1,h2⟩:=hx
  have:v.cells= #[v]:=by cases v<;>first|rfl|(simp[Value.oneCell'] at h2)
  rw[this];refine⟨rfl,fun j y hy=> ?_⟩
  cases j with
  |zero=>simp at hy;subst hy;exact⟨v,rfl,h1,h2⟩
  |succ j=>simp at hy
 |agg cs=>
  cases h;obtain⟨a,rfl,hc⟩:=hx;exact hc
 |gq=>cases h
 |any=>cases h
theorem foldl_set(off:Nat):∀(vs:List Value)(k:Nat)(arr:Array Value),off+k+vs.length<=arr.size->
 ((vs.zipIdx k).foldl (fun(cs:Array Value) (x:Value×Nat)=>cs.setIfInBounds (off+x.2) x.1) arr).toList=arr.toList.take (off+k)++vs++arr.toList.drop (off+k+vs.length)
 |[],k,arr,_=>by simp
 |v::vs,k,arr,h=>by
  have hl:off+k<arr.size:=by simp at h;omega
  rw[List.zipIdx_cons,dA,foldl_set off vs (k+1) _ (by simp at h ⊢;omega)];simp only[Array.toList_setIfInBounds,aa]
  have e1:(arr.toList.set (off+k) v).take (off+(k+1))=arr.toList.take (off+k)++[v]:=by
   rw[<-dm,cE (by simpa using hl)];rw[List.take_set_of_le (by omega)]
   simp
  have e2:(arr.toList.set (off+k) v).drop (off+(k+1)+vs.length)=arr.toList.drop (off+k+(vs.length+1)):=by
   rw[List.drop_set_of_lt (by omega)];congr 1;omega
  rw[e1,e2]
  simp
theorem HZ(v:Value)(off:Nat)(cells:Array Value)(h:off+v.cells.size<=cells.size):
 (v.cells.zipIdx.foldl (fun cs (c,j)=>cs.setIfInBounds (off+j) c) cells).toList=cells.toList.take off++v.cells.toList++cells.toList.drop (off+v.cells.size):=by
 have:=foldl_set off v.cells.toList 0 cells (by simpa using h);rw[<-Array.foldl_toList,Array.toList_zipIdx];simpa using this
theorem Er{cells xs:List C}{cv xv:List Value}{off:Nat}(hc:dS w σ S β cells cv)(hx:dS w σ S β xs xv)(hl:off+xs.length<=cells.length):
 dS w σ S β (splice cells off xs) (cv.take off++xv++cv.drop (off+xv.length)):=by
 have l1:=hc.1;have l2:=hx.1;refine⟨by simp[splice];omega,fun j y hy=> ?_⟩;unfold splice at hy;by_cases h1:j<off
 ·rw[cH,an (by simp;omega),bu h1] at hy;obtain⟨v,hv,r⟩:=hc.2 j y hy;exact⟨v,by rw[cH,an (by simp;omega),bu h1];exact hv,r⟩
 ·by_cases h2:j<off+xs.length
  ·rw[an (by simp;omega),am (by simp;omega)] at hy
   have e:(cells.take off).length=off:=by simp;omega
   rw[e] at hy;obtain⟨v,hv,r⟩:=hx.2 _ y hy;refine⟨v,?_,r⟩;rw[an (by simp;omega),am (by simp;omega)]
   have e':(cv.take off).length=off:=by simp;omega
   rw[e'];exact hv
  ·rw[am (by simp;omega),cr] at hy;obtain⟨v,hv,r⟩:=hc.2 _ y hy;refine⟨v,?_,r⟩;rw[am (by simp;omega),cr];rw[<-hv];congr 1
   simp
   omega
theorem Dn(place:Nat->Option (Nat×Nat)):∀(parts:List (Nat×V))(pv:List (Nat×Value))(cells cs:List C)(ca:Array Value),yZ place cells parts=some cs->dS w σ S β cells ca.toList->
 parts.length=pv.length->(∀(j:Nat)(x:Nat×V),parts[j]? =some x->∃v,pv[j]? =some (x.1,v)/\cu w σ S β x.2 v)->∃nH,Instr.fill place ca pv=some nH/\dS w σ S β cs nH.toList
 |[],[],cells,cs,ca,h,hc,_,_=>by
  simp only[yZ] at h;cases h;exact⟨ca,rfl,hc⟩
 |[],_::_,_,_,_,_,_,h,_=>by simp at h
 |_::_,[],_,_,_,_,_,h,_=>by simp at h
 |(i,x)::parts,(i',v)::pv,cells,cs,ca,h,hc,hl,hp=>by
  obtain⟨v',hv,hr⟩:=hp 0 (i,x) rfl;simp at hv;obtain⟨rfl,rfl⟩:=hv;simp only[yZ] at h;split at h
  ·rename_i off size xs hpl hcx;split at h
   ·rename_i hcond;obtain⟨h1,h2⟩:=hcond;have hx:=rV hcx hr;have lx:=hx.1;have lc:=hc.1;simp at lx lc;have hs:=Er (off:=off) hc hx (by omega)
    have hsz:v.cells.size=size:=by omega
    have hst:=HZ v off ca (by omega);simp only[br] at hs;rw[<-hst] at hs;obtain⟨nH,hf,hcs⟩:=Dn place parts pv _ cs _ h hs (by simpa using hl) (fun j x hx=>hp (j+1) x hx);refine⟨nH,?_,hcs⟩;rw[Instr.fill,hpl]
    have hcc:(v.cells.size≠size||off+v.cells.size>ca.size)=false:=by simp;omega
    simp only[hcc,dd,if_false];exact hf
   ·cases h
  ·cases h
theorem zS{α:Type}(f:α->Sem (Nat×Nat))(g:α->Nat×Nat):∀(l:List α),(∀x∈l,(f x).run P w=.ok (g x) w)->(l.mapM f).run P w=.ok (l.map g) w
 |[],_=>by simp
 |x::l,h=>by
  rw[cV];simp[h x (by simp),zS f g l (fun y hy=>h y (by simp[hy]))]
theorem oZ{t:TypeId}{zs:List C}(h:gF P t=some zs):∃z,(zeroValue t).run P w=.ok z w/\dS w σ S β zs z.cells.toList:=by
 unfold gF at h
 cases hi:P.info? t with
 |none=>rw[hi] at h;cases h
 |some i=>
  rw[hi] at h
  cases hz:i.zero with
  |none=>simp[hz] at h
  |some z=>
   simp only[dp,hz] at h;split at h
   ·rename_i hall;cases h;refine⟨z,by simp[zeroValue,typeInfo,hi,hz],by simp,fun j x hx=> ?_⟩;rw[aV] at hx
    cases hv:z.cells.toList[j]? with
    |none=>rw[hv] at hx;cases hx
    |some v=>
     rw[hv] at hx;cases hx;exact⟨v,rfl,vQ _ _ _ _ _,ax.1 hall v (cq hv)⟩
   ·cases h
theorem O5{t:TypeId}{parts:List (Nat×V)}{pv:List (Nat×Value)}(hS:dM w σ S β)(hl:parts.length=pv.length)
 (hp:∀(j:Nat) (x:Nat×V),parts[j]? =some x->∃v,pv[j]? =some (x.1,v)/\cu w σ S β x.2 v):Does P (Instr.build t pv.toArray) w σ S β (yF P t parts):=by
 unfold yF;split
 ·rename_i fs zs ht hz;split
  ·rename_i cs hf;intro aat
   have hinfo:∀f∈fs.toList,(P.info? f.type).isSome=true:=fun f hf=>by simpa using ax.1 aat f hf
   obtain⟨z,qC,hzc⟩:=oZ (w:=w) (σ:=σ) (S:=S) (β:=β) hz;obtain⟨ca,O6,hcs⟩:=Dn _ parts pv zs cs z.cells hf hzc hl hp;refine⟨.agg ca,w,σ,?_,.refl hS.live,ca,rfl,hcs⟩
   have hm:(fs.mapM fun(f:Field)=>do pure (f.offset,<-sizeOf f.type)).run P w=.ok (fs.map fun(f:Field)=>(f.offset,P.cellsOf f.type)) w:=by
    have h1:=zS (P:=P) (w:=w) (fun f:Field=>do pure (f.offset,<-sizeOf f.type)) (fun f=>(f.offset,P.cellsOf f.type)) fs.toList
     (fun f hf=>by simp[gT (hinfo f hf)])
    have h2:fs=fs.toList.toArray:=by simp
    rw[h2,List.mapM_toArray];simp only[Sem.run_map,h1,Result.andThen_ok,List.map_toArray]
   simp only[Instr.build,Sem.run_bind,qC,Result.andThen_ok,run_underlying ht,hm]
   have hpl:(fun(i:Nat)=>(fs.map fun(f:Field)=>(f.offset,P.cellsOf f.type))[i]?)=fun(i:Nat)=>(fs[i]?).map fun(f:Field)=>(f.offset,P.cellsOf f.type):=by
    funext i;simp
   have:Instr.fill (fun i=>(fs.map fun(f:Field)=>(f.offset,P.cellsOf f.type))[i]?) z.cells pv.toArray.toList=some ca:=by rw[hpl];exact O6
   simp only[this];rfl
  ·exact Does.no
 ·rename_i len e zs ht hz;split
  ·rename_i cs hf;intro hinfo;obtain⟨z,qC,hzc⟩:=oZ (w:=w) (σ:=σ) (S:=S) (β:=β) hz;obtain⟨ca,O6,hcs⟩:=Dn _ parts pv zs cs z.cells hf hzc hl hp;refine⟨.agg ca,w,σ,?_,.refl hS.live,ca,rfl,hcs⟩;have aau:Instr.fill (fun i=>some (i*P.cellsOf e,P.cellsOf e)) z.cells pv.toArray.toList=some ca:=O6;simp only[Instr.build,Sem.run_bind,qC,Result.andThen_ok,run_underlying ht,gT hinfo,aau];rfl
  ·exact Does.no
 ·exact Does.no
theorem Gp{xs:List C}{ds:List D}{vs:List Value}(h:xs.mapM Hw=some ds)(hx:dS w σ S β xs vs):ds.length=vs.length/\∀(j:Nat)(d:D),ds[j]? =some d->∃v,vs[j]? =some v/\dw w σ d v:=by
 induction xs generalizing ds vs with
 |nil=>simp at h;subst h;exact⟨hx.1,fun j d hd=>by simp at hd⟩
 |cons x xs ih=>
  rw[cV] at h
  cases hd:Hw x with
  |none=>rw[hd] at h;simp at h
  |some d=>
   cases hm:xs.mapM Hw with
   |none=>rw[hd,hm] at h;simp at h
   |some ds'=>
    rw[hd,hm] at h;simp at h;subst h
    cases vs with
    |nil=>have:=hx.1;simp at this
    |cons v vs=>
     have hx':dS w σ S β xs vs:=⟨by have:=hx.1;simpa using this,fun j y hy=>hx.2 (j+1) y hy⟩;obtain⟨l,r⟩:=ih hm hx';refine⟨by simp[l],fun j e he=> ?_⟩
     cases j with
     |zero=>
      simp at he;subst he;obtain⟨u,hu,hr,_⟩:=hx.2 0 x rfl;simp at hu;subst hu;refine⟨v,rfl,?_⟩;cases x<;>simp only[Hw] at hd<;>cases hd
      ·exact hr
      ·exact hr.1
      ·exact hr.1
      ·exact hr.1
      ·obtain⟨⟨rfl,h1⟩,_⟩:=hr;exact .o _ h1
     |succ j=>exact r j e he
theorem H6(size:Nat):∀(parts:List (Nat×V))(k:Nat)(es:List (List D))(pv:List (Nat×Value))(ca:Array Value),qW size parts k=some es->parts.length=pv.length->
 (∀(j:Nat) (x:Nat×V),parts[j]? =some x->∃v,pv[j]? =some (x.1,v)/\cu w σ S β x.2 v)->(k+es.length)*size<=ca.size->
 ∃nH,Instr.fill (fun i=>some (i*size,size)) ca pv=some nH/\nH.size=ca.size/\(∀e∈es,e.length=size)/\
  (∀j,j<k*size->nH[j]? =ca[j]?)/\∀(j:Nat) (d:D),es.flatten[j]? =some d->∃v,nH[k*size+j]? =some v/\dw w σ d v
 |[],k,es,pv,ca,h,hl,_,_=>by
  simp only[qW] at h;cases h
  cases pv with
  |cons=>simp at hl
  |nil=>exact⟨ca,rfl,rfl,by simp,fun _ _=>rfl,fun j d hd=>by simp at hd⟩
 |(i,x)::parts,k,es,[],ca,h,hl,_,_=>by simp at hl
 |(i,x)::parts,k,es,(i',v)::pv,ca,h,hl,hp,hsz=>by
  obtain⟨v',hv,hr⟩:=hp 0 (i,x) rfl;simp at hv;obtain⟨rfl,rfl⟩:=hv;simp only[qW] at h;split at h
  ·rename_i hik;subst hik;split at h
   ·rename_i ds es' hds hes;split at h
    ·rename_i hlen;cases h
     cases hcx:qB x with
     |none=>rw[hcx] at hds;cases hds
     |some xs=>
      rw[hcx] at hds;have hx:=rV hcx hr;obtain⟨l1,hD⟩:=Gp hds hx;simp at l1
      have hsv:v.cells.size=size:=by omega
      have afJ:(i'+(es'.length+1))*size=i'*size+es'.length*size+size:=by
       rw[ck,ck];omega
      simp only[aa] at hsz;have hst:=HZ v (i'*size) ca (by omega);generalize adC:v.cells.zipIdx.foldl (fun cs (c,j)=>cs.setIfInBounds (i'*size+j) c) ca=ca1 at hst
      have hs1:ca1.size=ca.size:=by
       have:=congrArg List.length hst;simp at this;omega
      obtain⟨nH,hf,hs',hle,hlow,hrep⟩:=H6 size parts (i'+1) es' pv ca1 hes (by simpa using hl) (fun j x hx=>hp (j+1) x hx) (by rw[hs1];rw[dm,dT 1];exact hsz)
      have hm1:(i'+1)*size=i'*size+size:=by rw[ck,Nat.one_mul]
      refine⟨nH,?_,hs'.trans hs1,?_,?_,?_⟩
      ·rw[Instr.fill]
       have hcc:(v.cells.size≠size||i'*size+v.cells.size>ca.size)=false:=by simp;omega
       simp only[hcc,dd,if_false];rw[<-hf,<-adC]
      ·intro e he;rcases du.1 he with rfl|he
       ·exact hlen
       ·exact hle e he
      ·intro j hj;rw[hlow j (by omega),<-bw,hst,cH,an (by simp;omega),bu hj,bw]
      ·intro j d hd;rw[ci] at hd;by_cases hj:j<size
       ·rw[an (by omega)] at hd;obtain⟨u,hu,hru⟩:=hD j d hd;refine⟨u,?_,hru⟩;rw[hlow _ (by omega),<-bw,hst,an (by simp;omega),am (by simp;omega)];rw[<-hu];congr 1;simp;omega
       ·rw[am (by omega)] at hd;obtain⟨u,hu,hru⟩:=hrep _ d hd;refine⟨u,?_,hru⟩;rw[<-hu];congr 1;omega
    ·cases h
   ·cases h
  ·cases h
theorem xJ{t e:TypeId}{n:Nat}{parts:List (Nat×V)}{pv:List (Nat×Value)}{es:List (List D)}(hl:parts.length=pv.length)
 (hp:∀(j:Nat) (x:Nat×V),parts[j]? =some x->∃v,pv[j]? =some (x.1,v)/\cu w σ S β x.2 v)(ht:P.underlying t=some (.slice e))(hes:qW (P.cellsOf e) parts 0=some es)
 (h1:es.length=n)(h2:n*P.cellsOf e<=16777216)(h3:(gF P e).isSome=true):
 ∃ca:Array Value,(Instr.buildSlice t n pv.toArray).run P w=.ok (.slice (some ⟨w.heap.size,0,none⟩) n n) {w with heap:=w.heap.push (.cells ca e)}/\ca.size=es.length*P.cellsOf e/\(∀r∈es,r.length=P.cellsOf e)/\
  ∀(j:Nat)(d:D),es.flatten[j]? =some d->∃v,ca[j]? =some v/\dw w σ d v:=by
 obtain⟨zs,hzs⟩:=dE.1 h3;obtain⟨z,qC,hzc⟩:=oZ (w:=w) (σ:=σ) (S:=S) (β:=β) hzs
 have hinfo:(P.info? e).isSome=true:=by
  unfold gF at hzs
  cases hi:P.info? e with
  |none=>rw[hi] at hzs;cases hzs
  |some i=>rfl
 let zero:Array Value:=if n*P.cellsOf e=0 then #[] else z.cells
 let ca:Array Value:=(Array.range (n*P.cellsOf e)).map (zero[· % zero.size]!)
 have hcas:ca.size=n*P.cellsOf e:=by simp[ca]
 obtain⟨nH,hf,hs',hle,hlow,hrep⟩:=H6 (w:=w) (σ:=σ) (S:=S) (β:=β) (P.cellsOf e) parts 0 es pv ca hes hl hp (by rw[hcas,h1];simp);refine⟨nH,?_,by rw[hs',hcas,<-h1],hle,fun j d hd=> ?_⟩
 ·have h2':¬(n*P.cellsOf e>2^24):=by omega
  have hf':Instr.fill (fun i=>some (i*P.cellsOf e,P.cellsOf e)) ((Array.range (n*P.cellsOf e)).map fun x=>zero[x % zero.size]!) pv=some nH:=hf;simp only[Instr.buildSlice,Sem.run_bind,run_underlying ht,Result.andThen_ok,gT hinfo,if_neg h2'];by_cases h0:n*P.cellsOf e=0
  ·have hz:zero= #[]:=if_pos h0;rw[hz] at hf';simp only[if_pos h0,Sem.run_bind,Sem.run_pure,Result.andThen_ok,hf'];rfl
  ·have hz:zero=z.cells:=if_neg h0;rw[hz] at hf';simp only[if_neg h0,Sem.run_bind,qC,Sem.run_pure,Result.andThen_ok,hf'];rfl
 ·obtain⟨v,hv,hr⟩:=hrep j d hd;simp at hv;exact⟨v,hv,hr⟩
theorem yH(lim:Nat){t e:TypeId}{n:Nat}{parts:List (Nat×V)}{pv:List (Nat×Value)}{es:List (List D)}(hS:dM w σ S β)(hl:parts.length=pv.length)
 (hp:∀(j:Nat) (x:Nat×V),parts[j]? =some x->∃v,pv[j]? =some (x.1,v)/\cu w σ S β x.2 v)(ht:P.underlying t=some (.slice e))(hes:qW (P.cellsOf e) parts 0=some es)
 (h1:es.length=n)(h2:n*P.cellsOf e<=16777216)(h3:(gF P e).isSome=true)(hlim:n*P.cellsOf e<=lim):
 ∃v w' σ',(Instr.buildSlice t n pv.toArray).run P w=.ok v w'/\Grow w σ w' σ'/\(∃a n,v=.slice a n n)/\dw w' σ' (.sl es) v/\∀m,lim=n*P.cellsOf e+1+m->dw w' σ' (.ol m es) v:=by
 obtain⟨nH,hrun,hsz,hle,hrep⟩:=xJ (P:=P) hl hp ht hes h1 h2 h3
 let w':World:={w with heap:=w.heap.push (.cells nH e)}
 let σ':Nat->Nat:=fun b=>if b=w.heap.size then lim else σ b
 have hg:Grow w σ w' σ':=by
  refine⟨by simp[w'],rfl,rfl,fun b hb=> ?_,fun b=> ?_⟩
  ·have:b≠w.heap.size:=by omega
   simp only[w',σ'];refine⟨?_,if_neg this⟩;rw[cC,if_neg this]
  ·simp only[w',σ',eF];by_cases hb:b=w.heap.size
   ·left;omega
   ·rw[if_neg hb];exact(hS.live b).imp (fun h=>by omega) id
 have hb':w'.heap[w.heap.size]? =some (.cells nH e (0,0)):=by simp[w']
 have hcell:∀j,j<es.length*P.cellsOf e->nH[0+j]? =some (nH.getD j undef):=fun j hj=>by
  have:j<nH.size:=by rw[hsz];exact hj
  simp[Array.getD,this]
 have hval:∀(j:Nat)(d:D),es.flatten[j]? =some d->dw w' σ' d (nH.getD j undef):=fun j d hd=>by
  obtain⟨v,hv,hr⟩:=hrep j d hd;have hlt:=(aE.1 hv)
  have:nH.getD j undef=v:=by
   obtain⟨hlt,e⟩:=hlt;simp[Array.getD,hlt,e]
  rw[this];exact hr.mono hg.near
 refine⟨.slice (some ⟨w.heap.size,0,none⟩) n n,w',σ',hrun,hg,⟨_,_,rfl⟩,?_,fun m hm=> ?_⟩
 ·rw[<-h1]
  cases y7:es with
  |nil=>exact .nil _ _
  |cons y ys=>
   rw[<-y7];exact .sl w.heap.size 0 es.length (P.cellsOf e) es (fun j=>nH.getD j undef) nH e (0,0) (aw _) hle hb' (by simp[σ',h1];omega) hcell hval
 ·rw[<-h1]
  cases y7:es with
  |nil=>exact .wF _ _ _
  |cons y ys=>
   rw[<-y7];exact .ol m w.heap.size 0 es.length (P.cellsOf e) es (fun j=>nH.getD j undef) nH e (aw _) hle hb' (by simp[σ',hsz,h1];omega) (by rw[hsz];omega) hcell hval ⟨rfl,by rw[hsz];exact aw _⟩
theorem Es{l:Option Nat}{t:TypeId}{n:Nat}{parts:List (Nat×V)}{pv:List (Nat×Value)}(hS:dM w σ S β)(hl:parts.length=pv.length)
 (hp:∀(j:Nat) (x:Nat×V),parts[j]? =some x->∃v,pv[j]? =some (x.1,v)/\cu w σ S β x.2 v):Does P (Instr.buildSlice t n pv.toArray) w σ S β (jq P l t n parts):=by
 unfold jq mP;split
 ·split
  ·rename_i e ht;split
   ·rename_i es hes;rintro⟨h1,h2,h3⟩;obtain⟨v,w',σ',k1,k2,k3,k4,_⟩:=yH (n*P.cellsOf e) hS hl hp ht hes h1 h2 h3 (aw _);obtain⟨a,m,rfl⟩:=k3;exact⟨_,w',σ',k1,k2,⟨k4,_,_,rfl⟩,rfl⟩
   ·exact Does.no
  ·exact Does.no
 ·rename_i m;split
  ·rename_i p es hb;split at hb
   ·rename_i e ht;split at hb
    ·rename_i es' hes;cases hb;rintro⟨h1,h2,h3⟩;obtain⟨v,w',σ',k1,k2,k3,k4,k5⟩:=yH (n*P.cellsOf e+1+m) hS hl hp ht hes h1 h2 h3 (by omega);obtain⟨a,m',rfl⟩:=k3;exact⟨_,w',σ',k1,k2,⟨k5 m rfl,_,_,rfl⟩,rfl⟩
    ·cases hb
   ·cases hb
  ·exact Does.no
end
section
variable {P:Program} {w:World} {σ:Nat->Nat} {S:Store} {β:Hs} {tm:List (Nat×V)} {a:Act}
theorem J4{α γ:Type}(f:α->γ)(xs:Array α):xs.map f=(xs.toList.map f).toArray:=by apply Array.ext';simp
theorem iI{m:Sem Value}{r:R}{e:Sem Next}(he:e=(do pure (.value (<-m))))(h:Does P m w σ S β r)(hr:r.1):
 ∃v w' σ',e.run P w=.ok (.value v) w'/\Grow w σ w' σ'/\cu w' σ' S β r.2 v:=by
 obtain⟨v,w',σ',hrun,hg,hv⟩:=h hr;exact⟨v,w',σ',by rw[he];simp[hrun],hg,hv⟩
theorem Gq(hT:yX w σ S β tm a)(x:Option Operand):Gn w σ S β (x.map (ev tm)) (x.map a.eval):=by
 cases x with
 |none=>trivial
 |some x=>exact gV hT x
theorem CG(l:Option Nat)(o:Oper)(hS:dM w σ S β)(hT:yX w σ S β tm a)(h:(jY P l S tm o.op).1):
 ∃v w' σ',(execOp a.eval o).run P w=.ok (.value v) w'/\Grow w σ w' σ'/\cu w' σ' S β (jY P l S tm o.op).2 v:=by
 have hev:=fun x=>gV hT x;obtain⟨dst,op,ty,pos,after,guard⟩:=o;simp only at h ⊢;unfold jY at h ⊢
 split at h<;>try(simp only[] at h ⊢)
 ·exact⟨_,w,σ,rfl,.refl hS.live,hev _⟩
 ·exact⟨_,w,σ,rfl,.refl hS.live,hev _⟩
 ·rename_i c x y;unfold BF at h ⊢;split at h
  ·rename_i b hb;have hc:=hev c;rw[hb] at hc;obtain⟨hc1,_⟩:=hc;cases hc':a.eval c<;>rw[hc'] at hc1<;>cases hc1;refine⟨if b then a.eval x else a.eval y,w,σ,?_,.refl hS.live,?_⟩
   ·simp[execOp,hc',asBool]
   ·cases b
    ·exact hev y
    ·exact hev x
  ·exact h.elim
 ·exact iI rfl (RJ hS (hev _)) h
 ·exact iI rfl (Gj hS (hev _)) h
 ·exact iI rfl (OY hS (hev _)) h
 ·exact iI rfl (Gl hS (hev _) (hev _)) h
 ·exact iI rfl (O0 hS (hev _) (hev _)) h
 ·exact iI rfl (Va hS (hev _) (hev _)) h
 ·exact iI rfl (YS hS (hev _)) h
 ·exact iI rfl (RO hS (hev _)) h
 ·exact iI rfl (JX hS (hev _)) h
 ·rename_i fn first caps
  have hm:=I8 (P:=P) (fn:=fn) (first:=first.toList.map (ev tm)) (caps:=caps.toList.map (ev tm)) (fv:=first.toList.map a.eval) (cv:=caps.toList.map a.eval) hS (by simp) (by simp)
   (fun j x hx=>by
     rw[aV] at hx ⊢
     cases hc:caps.toList[j]? with
     |none=>rw[hc] at hx;cases hx
     |some y=>rw[hc] at hx;cases hx;exact⟨_,rfl,hev y⟩)
  refine iI ?_ hm h;simp[execOp];rw[J4,J4]
 ·rename_i x;unfold qV at h ⊢;split at h
  ·rename_i k off hx;split at h
   ·rename_i cs hk;have hc:=hev x;rw[hx] at hc;obtain⟨⟨o,ho,h2⟩,h3⟩:=hc;rw[hk] at ho;cases ho;obtain⟨b,hb,hv⟩:=h2 cs rfl;refine⟨_,w,σ,?_,.refl hS.live,⟨_,hk,fun cs' e=>⟨b,hb,rfl⟩⟩,rfl⟩;simp[execOp,hv]
   ·exact h.elim
  ·rename_i cs hx;have hc:=hev x;rw[hx] at hc;obtain⟨⟨ad,hv,hp⟩,h3⟩:=hc;refine⟨_,w,σ,?_,.refl hS.live,⟨ad,rfl,hp⟩,rfl⟩;simp[execOp,hv]
  ·exact h.elim
 ·rename_i t x lo hi mx;exact iI rfl (O4 hS (hev _) (Gq hT lo) (Gq hT hi) (Gq hT mx)) h
 ·rename_i t parts
  have hm:=O5 (P:=P) (t:=t) (parts:=parts.toList.map fun x=>(x.1,ev tm x.2)) (pv:=parts.toList.map fun x=>(x.1,a.eval x.2)) hS (by simp)
   (fun j x hx=>by
     rw[aV] at hx ⊢
     cases hc:parts.toList[j]? with
     |none=>rw[hc] at hx;cases hx
     |some y=>rw[hc] at hx;cases hx;exact⟨_,rfl,hev y.2⟩)
  refine iI ?_ hm h;simp[execOp];rw[J4]
 ·rename_i t n parts
  have hm:=Es (P:=P) (l:=l) (t:=t) (n:=n) (parts:=parts.toList.map fun x=>(x.1,ev tm x.2)) (pv:=parts.toList.map fun x=>(x.1,a.eval x.2)) hS (by simp)
   (fun j x hx=>by
     rw[aV] at hx ⊢
     cases hc:parts.toList[j]? with
     |none=>rw[hc] at hx;cases hx
     |some y=>rw[hc] at hx;cases hx;exact⟨_,rfl,hev y.2⟩)
  refine iI ?_ hm h;simp[execOp];rw[J4]
 ·exact iI rfl (Mv hS (hev _) (hev _)) h
 ·rename_i args argTypes;split at h
  ·rename_i x t hx ht
   obtain rfl:args= #[x]:=by rw[<-bt (xs:=args),hx]
   obtain rfl:argTypes= #[t]:=by rw[<-bt (xs:=argTypes),ht]
   obtain⟨v,w',σ',hrun,hg,hv⟩:=J3 (P:=P) (t:=t) (ty:=ty) hS (hev x) h;refine⟨v,w',σ',?_,hg,hv⟩;simp[execOp,resolve,invoke,builtin,hrun]
  ·exact h.elim
 ·rename_i args argTypes;split at h
  ·rename_i x y hx
   obtain rfl:args= #[x,y]:=by rw[<-bt (xs:=args),hx]
   obtain⟨v,w',σ',hrun,hg,hv⟩:=JZ (P:=P) (ts:=argTypes) (ty:=ty) hS (hev x) (hev y) h;refine⟨v,w',σ',?_,hg,hv⟩;simp[execOp,resolve,invoke,builtin,hrun]
  ·exact h.elim
 ·rename_i args argTypes;split at h
  ·rename_i x y hx
   obtain rfl:args= #[x,y]:=by rw[<-bt (xs:=args),hx]
   obtain⟨v,w',σ',hrun,hg,hv⟩:=J2 (P:=P) (ts:=argTypes) (ty:=ty) hS (hev x) (hev y) h;refine⟨v,w',σ',?_,hg,hv⟩;simp[execOp,resolve,invoke,builtin,hrun]
  ·exact h.elim
 ·exact h.elim
theorem Et(o:Oper)(hS:dM w σ S β)(hT:yX w σ S β tm a)(h:(nval P S tm o.op).1):
 ∃v w' σ',(execOp a.eval o).run P w=.ok (.value v) w'/\Grow w σ w' σ'/\cu w' σ' S β (nval P S tm o.op).2 v:=CG (lI S) o hS hT h
end
section
variable {P:Program} {w w':World} {σ σ':Nat->Nat} {S:Store} {β:Hs}
theorem gu{α:Type}(fr:List α)(S:List (List α))(x:α)(k:Key)(y:α)(h:aN (fr::S) k=some y):aN ((fr++[x])::S) k=some y:=by
 obtain⟨l,j⟩:=k
 cases l with
 |zero=>
  rw[aJ] at h ⊢;rw[an (ai.1 h).1];exact h
 |succ l=>rw[bB] at h ⊢;exact h
theorem iV{α:Type}(fr:List α)(S:List (List α))(x:α)(k:Key)(y:α)(h:aN ((fr++[x])::S) k=some y):
 aN (fr::S) k=some y\/(k=(0,fr.length)/\y=x):=by
 obtain⟨l,j⟩:=k
 cases l with
 |zero=>
  rw[aJ] at h ⊢;by_cases hj:j<fr.length
  ·left;rw[an hj] at h;exact h
  ·right;have hlt:=(ai.1 h).1;simp at hlt
   have hj':j=fr.length:=by omega
   subst hj';rw[am (aw _)] at h;simp at h;exact⟨rfl,h.symm⟩
 |succ l=>left;rw[bB] at h ⊢;exact h
theorem bL{α:Type}(fr:List α)(S:List (List α))(x:α):aN ((fr++[x])::S) (0,fr.length)=some x:=by rw[aJ];simp
theorem dM.push{own:List Obj}{Ω:Store}{bo:List Value}{bΩ:Hs}{o:Obj}{h:Value}(hS:dM w σ (own::Ω) (bo::bΩ))(hg:Grow w σ w' σ')
 (hlen:bo.length=own.length)
 (ho:eT w' σ' ((own++[o])::Ω) ((bo++[h])::bΩ) o h)(hb:∀b,owns o h b->w.heap.size<=b):
 dM w' σ' ((own++[o])::Ω) ((bo++[h])::bΩ)/\Keep (own::Ω) (bo::bΩ) ((own++[o])::Ω) ((bo++[h])::bΩ)/\Step (own::Ω) (bo::bΩ) σ w ((own++[o])::Ω) ((bo++[h])::bΩ) σ' w':=by
 have hkeep:Keep (own::Ω) (bo::bΩ) ((own++[o])::Ω) ((bo++[h])::bΩ):=by
  intro k o1 h1;obtain⟨h2,tF,_⟩:=hS.obj k o1 h1;exact⟨o1,gu _ _ _ _ _ h1,by rw[gu _ _ _ _ _ tF,tF];exact .refl _ _⟩
 have hinv:∀k o1 h1,aN ((own++[o])::Ω) k=some o1->aN ((bo++[h])::bΩ) k=some h1->
  (aN (own::Ω) k=some o1/\aN (bo::bΩ) k=some h1)\/(k=(0,own.length)/\o1=o/\h1=h):=by
  intro k o1 h1 e1 e2;rcases iV _ _ _ _ _ e1 with e1|⟨rfl,rfl⟩
  ·left;refine⟨e1,?_⟩;rcases iV _ _ _ _ _ e2 with e2|⟨rfl,rfl⟩
   ·exact e2
   ·rw[aJ,hlen] at e1;have:=(ai.1 e1).1;omega
  ·right;rw[<-hlen,bL] at e2;exact⟨rfl,rfl,(cD e2).symm⟩
 refine⟨⟨?_,?_,⟨?_,?_⟩,hg.live,hS.qp.near hg.near⟩,hkeep,⟨hg.size,hg.os,hg.output,fun b hb _=>hg.old b hb,hg.near,?_⟩⟩
 ·intro k o1 h1;rcases iV _ _ _ _ _ h1 with h1|⟨rfl,rfl⟩
  ·obtain⟨h2,tF,hr⟩:=hS.obj k o1 h1;exact⟨h2,gu _ _ _ _ _ tF,hr.mono hg.near (hkeep.drop _) fun b hb=>hg.old b (wG hr hb)⟩
  ·exact⟨h,by rw[<-hlen,bL],ho⟩
 ·intro k k' o1 o2 h1 h2 b e1 e2 e3 e4 e5 e6;rcases hinv k o1 h1 e1 e2 with⟨f1,f2⟩|⟨rfl,rfl,rfl⟩
  ·rcases hinv k' o2 h2 e4 e5 with⟨g1,g2⟩|⟨rfl,rfl,rfl⟩
   ·exact hS.apart _ _ _ _ _ _ _ f1 f2 e3 g1 g2 e6
   ·have:=hS.yA ⟨k,o1,h1,f1,f2,e3⟩;have:=hb b e6;omega
  ·rcases hinv k' o2 h2 e4 e5 with⟨g1,g2⟩|⟨rfl,rfl,rfl⟩
   ·have:=hS.yA ⟨k',o2,h2,g1,g2,e6⟩;have:=hb b e3;omega
   ·rfl
 ·have:=hS.shape.1;simpa using this
 ·intro l fr hl
  cases l with
  |zero=>
   simp at hl;exact⟨_,rfl,by rw[<-hl];simp[hlen]⟩
  |succ l=>exact hS.shape.2 (l+1) fr hl
 ·rintro b ⟨k,o1,h1,e1,e2,e3⟩;rcases hinv k o1 h1 e1 e2 with⟨f1,f2⟩|⟨rfl,rfl,rfl⟩
  ·exact .inl ⟨k,o1,h1,f1,f2,e3⟩
  ·exact .inr (hb b e3)
theorem yc{α:Type}(x:α):∀(S:List (List α))(k:Key),(aP S k x).length=S.length
 |[],_=>rfl
 |fr::S,(0,j)=>rfl
 |fr::S,(l+1,j)=>by rw[aP,aa,yc x S (l,j)];rfl
theorem Eu{α:Type}(x:α):∀(S:List (List α))(k:Key)(l:Nat)(fr:List α),(aP S k x)[l]? =some fr->∃fr',S[l]? =some fr'/\fr'.length=fr.length
 |[],_,_,_,h=>by simp[aP] at h
 |xK::S,(0,j),0,fr,h=>by simp[aP] at h;exact⟨xK,rfl,by rw[<-h];simp⟩
 |xK::S,(0,j),l+1,fr,h=>by rw[aP] at h;exact⟨fr,h,rfl⟩
 |xK::S,(k+1,j),0,fr,h=>by simp[aP] at h;exact⟨xK,rfl,by rw[<-h]⟩
 |xK::S,(k+1,j),l+1,fr,h=>by
  rw[aP] at h;obtain⟨fr',h1,h2⟩:=Eu x S (k,j) l fr h;exact⟨fr',h1,h2⟩
theorem CJ{α:Type}(x:α):∀(S:List (List α))(k:Key)(l:Nat)(fr:List α),S[l]? =some fr->∃fr',(aP S k x)[l]? =some fr'/\fr'.length=fr.length
 |[],_,_,_,h=>by simp at h
 |xK::S,(0,j),0,fr,h=>by simp at h;subst h;exact⟨_,rfl,by simp⟩
 |xK::S,(0,j),l+1,fr,h=>by rw[aP];exact⟨fr,h,rfl⟩
 |xK::S,(k+1,j),0,fr,h=>by simp at h;subst h;exact⟨_,rfl,rfl⟩
 |xK::S,(k+1,j),l+1,fr,h=>by
  rw[aP];exact CJ x S (k,j) l fr h
theorem dM.set{k:Key}{o o':Obj}{h h':Value}(hS:dM w σ S β)(hk:aN S k=some o)(hh:aN β k=some h)
 (hsz:w.heap.size<=w'.heap.size)(hos:w'.os=w.os)(hout:w'.output=w.output)(hn:dR w σ w' σ')(hl:∀b,b<w'.heap.size\/σ' b=0)
 (rW:∀b,b<w.heap.size->¬owns o h b->w'.heap[b]? =w.heap[b]? /\σ' b=σ b)(hkeep:iU o (some h) o' (some h'))
 (qx:eT w' σ' ((aP S k o').drop k.1) ((aP β k h').drop k.1) o' h')(hb:∀b,owns o' h' b->owns o h b\/w.heap.size<=b):
 dM w' σ' (aP S k o') (aP β k h')/\Keep S β (aP S k o') (aP β k h')/\Step S β σ w (aP S k o') (aP β k h') σ' w':=by
 have hk':=bP o' S k o hk;have hh':=bP h' β k h hh;have hne:∀k1,k1≠k->aN (aP S k o') k1=aN S k1/\aN (aP β k h') k1=aN β k1:=fun k1 e=>⟨dD _ _ _ _ (Ne.symm e),dD _ _ _ _ (Ne.symm e)⟩
 have hK:Keep S β (aP S k o') (aP β k h'):=by
  intro k1 o1 h1;by_cases e:k1=k
  ·subst e;rw[hk] at h1;cases h1;exact⟨o',hk',by rw[hh,hh'];exact hkeep⟩
  ·obtain⟨e1,e2⟩:=hne k1 e;exact⟨o1,e1.trans h1,by rw[e2];exact .refl _ _⟩
 have hother:∀k1 o1 h1 b,k1≠k->aN S k1=some o1->aN β k1=some h1->owns o1 h1 b->¬owns o h b:=by
  intro k1 o1 h1 b e e1 e2 e3 e4;exact e (hS.apart _ _ _ _ _ _ _ e1 e2 e3 hk hh e4)
 refine⟨⟨?_,?_,⟨?_,?_⟩,hl,hS.qp.near hn⟩,hK,⟨hsz,hos,hout,?_,hn,?_⟩⟩
 ·intro k1 o1 e1;by_cases e:k1=k
  ·subst e;rw[hk'] at e1;cases e1;exact⟨h',hh',qx⟩
  ·obtain⟨f1,f2⟩:=hne k1 e;rw[f1] at e1;obtain⟨h1,e2,hr⟩:=hS.obj k1 o1 e1;exact⟨h1,f2.trans e2,hr.mono hn (hK.drop _) fun b e3=>rW b (wG hr e3) (hother k1 o1 h1 b e e1 e2 e3)⟩
 ·intro k1 k2 o1 o2 h1 h2 b e1 e2 e3 e4 e5 e6;by_cases c1:k1=k
  ·by_cases c2:k2=k
   ·rw[c1,c2]
   ·subst c1;rw[hk'] at e1;cases e1;rw[hh'] at e2;cases e2;obtain⟨f1,f2⟩:=hne k2 c2;rw[f1] at e4;rw[f2] at e5;rcases hb b e3 with e|e
    ·exact absurd e (hother k2 o2 h2 b c2 e4 e5 e6)
    ·have:=hS.yA ⟨k2,o2,h2,e4,e5,e6⟩;omega
  ·obtain⟨f1,f2⟩:=hne k1 c1;rw[f1] at e1;rw[f2] at e2;by_cases c2:k2=k
   ·subst c2;rw[hk'] at e4;cases e4;rw[hh'] at e5;cases e5;rcases hb b e6 with e|e
    ·exact absurd e (hother k1 o1 h1 b c1 e1 e2 e3)
    ·have:=hS.yA ⟨k1,o1,h1,e1,e2,e3⟩;omega
   ·obtain⟨g1,g2⟩:=hne k2 c2;rw[g1] at e4;rw[g2] at e5;exact hS.apart _ _ _ _ _ _ _ e1 e2 e3 e4 e5 e6
 ·rw[yc,yc];exact hS.shape.1
 ·intro l fr hl;obtain⟨fr',h1,h2⟩:=Eu _ _ _ _ _ hl;obtain⟨gr,h3,h4⟩:=hS.shape.2 l fr' h1;obtain⟨gr',h5,h6⟩:=CJ h' β k l gr h3;exact⟨gr',h5,by omega⟩
 ·intro b hb1 hb2;exact rW b hb1 (fun e=>hb2 ⟨k,o,h,hk,hh,e⟩)
 ·rintro b ⟨k1,o1,h1,e1,e2,e3⟩;by_cases e:k1=k
  ·subst e;rw[hk'] at e1;cases e1;rw[hh'] at e2;cases e2;exact(hb b e3).imp (fun e=>⟨_,_,_,hk,hh,e⟩) id
  ·obtain⟨f1,f2⟩:=hne k1 e;rw[f1] at e1;rw[f2] at e2;exact .inl ⟨k1,o1,h1,e1,e2,e3⟩
theorem H7{α:Type}(x:α):∀(S:List (List α))(k:Key)(y:α),aN S k=some y->aP S k y=S
 |[],_,_,_=>rfl
 |fr::S,(0,j),y,h=>by
  rw[aJ] at h;rw[aP];congr 1;have:=ai.1 h;obtain⟨h1,h2⟩:=this
  rw[<-h2];simp
 |fr::S,(l+1,j),y,h=>by
  rw[bB] at h;rw[aP,H7 x S (l,j) y h]
end
structure St where
 tm:List (Nat×V)
 st:Store
def St.put(s:St)(dst:Option Nat)(v:V):St:=
 match dst with
 |some d=>⟨(d,v)::s.tm,s.st⟩
 |none=>s
def C.down(n:Nat):C->Option C
 | .d x=>some (.d x)
 | .any=>some .any
 | .bF es=>some (.bF es)
 | .iY cs=>some (.iY cs)
 | .bM k es=>if n<=k.1 then some (.bM (k.1-n,k.2) es) else none
 | .ptr k off=>if n<=k.1 then some (.ptr (k.1-n,k.2) off) else none
 | .iO k i off=>if n<=k.1 then some (.iO (k.1-n,k.2) i off) else none
 | .eP k=>if n<=k.1 then some (.eP (k.1-n,k.2)) else none
 | .mp k=>if n<=k.1 then some (.mp (k.1-n,k.2)) else none
 | .fn f caps=>if n=0 then some (.fn f caps) else none
 | .kF m es=>some (.kF m es)
 | .xp k r p=>if n<=k.1 then some (.xp (k.1-n,k.2) r p) else none
 | .xq k r p z i off=>if n<=k.1 then some (.xq (k.1-n,k.2) r p z i off) else none
 | .oW k m u=>if n<=k.1 then some (.oW (k.1-n,k.2) m u) else none
section
variable {P:Program} {w w':World} {σ σ':Nat->Nat} {S:Store} {β:Hs}
theorem iG{n:Nat}{k:Key}(h:n<=k.1):uM n (k.1-n,k.2)=k:=by
 obtain⟨l,j⟩:=k;show(n+(l-n),j)=(l,j);rw[Nat.add_sub_cancel' h]
theorem J5{n:Nat}{c c':C}{v:Value}(h:c.down n=some c')(hc:fu w σ S β c v):fu w σ (S.drop n) (β.drop n) c' v:=by
 cases c with
 |d x=>cases h;exact hc
 |any=>cases h;exact trivial
 |bF es=>cases h;exact hc
 |iY cs=>cases h;exact hc
 |bM k es=>
  simp only[C.down] at h;split at h
  ·rename_i hn;cases h;obtain⟨h1,o,ho,h2⟩:=hc;exact⟨h1,o,by rw[dH,iG hn];exact ho,fun a b e=>by rw[dH,iG hn];exact h2 a b e⟩
  ·cases h
 |ptr k off=>
  simp only[C.down] at h;split at h
  ·rename_i hn;cases h;obtain⟨o,ho,h2⟩:=hc;exact⟨o,by rw[dH,iG hn];exact ho,fun a e=>by simp only[dH,iG hn];exact h2 a e⟩
  ·cases h
 |iO k i off=>
  simp only[C.down] at h;split at h
  ·rename_i hn;cases h;obtain⟨o,ho,h2⟩:=hc;exact⟨o,by rw[dH,iG hn];exact ho,fun a b e=>by simp only[dH,iG hn];exact h2 a b e⟩
  ·cases h
 |eP k=>
  simp only[C.down] at h;split at h
  ·rename_i hn;cases h;obtain⟨o,ho,h2⟩:=hc;exact⟨o,by rw[dH,iG hn];exact ho,fun a b e=>by rw[dH,iG hn];exact h2 a b e⟩
  ·cases h
 |mp k=>
  simp only[C.down] at h;split at h
  ·rename_i hn;cases h;obtain⟨o,ho,h2⟩:=hc;exact⟨o,by rw[dH,iG hn];exact ho,fun a e=>by rw[dH,iG hn];exact h2 a e⟩
  ·cases h
 |fn f caps=>
  simp only[C.down] at h;split at h
  ·rename_i hn;cases h;subst hn;simpa using hc
  ·cases h
 |kF m es=>cases h;exact hc
 |xp k r p=>
  simp only[C.down] at h;split at h
  ·rename_i hn;cases h;obtain⟨o,ho,h2⟩:=hc;exact⟨o,by rw[dH,iG hn];exact ho,fun a e=>by rw[dH,iG hn];exact h2 a e⟩
  ·cases h
 |xq k r p z i off=>
  simp only[C.down] at h;split at h
  ·rename_i hn;cases h;obtain⟨o,ho,h2⟩:=hc;exact⟨o,by rw[dH,iG hn];exact ho,fun a e=>by rw[dH,iG hn];exact h2 a e⟩
  ·cases h
 |oW k m u=>
  simp only[C.down] at h;split at h
  ·rename_i hn;cases h;obtain⟨h1,o,ho,h2⟩:=hc;exact⟨h1,o,by rw[dH,iG hn];exact ho,fun a b e=>by rw[dH,iG hn];exact h2 a b e⟩
  ·cases h
theorem RQ{n:Nat}{xs ys:List C}{vs:List Value}(h:xs.mapM (C.down n)=some ys)(hc:dS w σ S β xs vs):dS w σ (S.drop n) (β.drop n) ys vs:=by
 induction xs generalizing ys vs with
 |nil=>simp at h;subst h;exact⟨hc.1,fun j d hd=>by simp at hd⟩
 |cons x xs ih=>
  rw[cV] at h
  cases hd:C.down n x with
  |none=>rw[hd] at h;simp at h
  |some y=>
   cases hm:xs.mapM (C.down n) with
   |none=>rw[hd,hm] at h;simp at h
   |some ys'=>
    rw[hd,hm] at h;simp at h;subst h
    cases vs with
    |nil=>have:=hc.1;simp at this
    |cons v vs=>
     obtain⟨l,r⟩:=ih hm (vs:=vs) ⟨by have:=hc.1;simpa using this,fun j y hy=>hc.2 (j+1) y hy⟩;refine⟨by simp[l],fun j e he=> ?_⟩
     cases j with
     |zero=>
      simp at he;subst he;obtain⟨u,hu,hr,ho⟩:=hc.2 0 x rfl;simp at hu;subst hu;exact⟨v,rfl,J5 hd hr,ho⟩
     |succ j=>exact r j e he
theorem vS(w:World)(σ:Nat->Nat)(hl:∀b,b<w.heap.size\/σ b=0)(c:Array Value)(t:TypeId)(n:Nat):
 Grow w σ {w with heap:=w.heap.push (.cells c t)} (fun b=>if b=w.heap.size then n else σ b):=by
 refine⟨by simp,rfl,rfl,fun b hb=> ?_,fun b=> ?_⟩
 ·have:b≠w.heap.size:=by omega
  refine⟨?_,if_neg this⟩
  simp only
  rw[cC,if_neg this]
 ·simp only[eF];by_cases hb:b=w.heap.size
  ·left;omega
  ·rw[if_neg hb];exact(hl b).imp (fun h=>by omega) id
theorem YT{own:List Obj}{Ω:Store}{bo:List Value}{bΩ:Hs}{cs:List C}{v:Value}{t:TypeId}(hS:dM w σ (own::Ω) (bo::bΩ))(hlen:bo.length=own.length)
 (hc:dS w σ (own::Ω) (bo::bΩ) cs v.cells.toList):
 ∃w' σ' h,(newVar t v).run P w=.ok ⟨w.heap.size,0,none⟩ w'/\h=Value.pointer (some ⟨w.heap.size,0,none⟩)/\
  dM w' σ' ((own++[.box cs])::Ω) ((bo++[h])::bΩ)/\Keep (own::Ω) (bo::bΩ) ((own++[.box cs])::Ω) ((bo++[h])::bΩ)/\Step (own::Ω) (bo::bΩ) σ w ((own++[.box cs])::Ω) ((bo++[h])::bΩ) σ' w':=by
 have hg:=vS w σ hS.live v.cells t 0;refine⟨{w with heap:=w.heap.push (.cells v.cells t)},fun b=>if b=w.heap.size then 0 else σ b,_,rfl,rfl,?_⟩;refine hS.push hg hlen ⟨w.heap.size,v.cells,t,rfl,by simp,by simp,?_⟩ (fun b hb=>by cases hb;exact aw _);refine hc.mono hg.near ?_;intro k o1 h1;obtain⟨h2,tF,_⟩:=hS.obj k o1 h1;exact⟨o1,gu _ _ _ _ _ h1,by rw[gu _ _ _ _ _ tF,tF];exact .refl _ _⟩
theorem NW{own:List Obj}{Ω:Store}{bo:List Value}{bΩ:Hs}{cs:List C}{b:Nat}(hlen:bo.length=own.length):
 cu w σ ((own++[.box cs])::Ω) ((bo++[Value.pointer (some ⟨b,0,none⟩)])::bΩ) (.c (.ptr (0,own.length) 0)) (.pointer (some ⟨b,0,none⟩)):=
 ⟨⟨_,bL _ _ _,fun cs' _=>⟨b,by rw[<-hlen,bL],rfl⟩⟩,rfl⟩
theorem fJ(w:World)(g:Nat)(c:Array Value)(b:Nat)(h:b≠g):(w.setRow g c).heap[b]? =w.heap[b]? :=by
 simp only[World.setRow,Array.getElem?_modify];rw[if_neg (Ne.symm h)]
theorem setRow_size(w:World)(g:Nat)(c:Array Value):(w.setRow g c).heap.size=w.heap.size:=by simp[World.setRow]
theorem wJ{t:TypeId}{b off:Nat}{v:Value}{c:Array Value}{ty:TypeId}(hi:(P.info? t).isSome=true)(hsz:v.cells.size=P.cellsOf t)
 (hb:w.heap[b]? =some (.cells c ty (0,0)))(hle:off+v.cells.size<=c.size)(hone:∀x∈v.cells.toList,x.oneCell'=true):
 (Instr.storeAt t (.pointer (some ⟨b,off,none⟩)) v).run P w=.ok () (w.setRow b (c.toList.take off++v.cells.toList++c.toList.drop (off+v.cells.size)).toArray):=by
 have h:=run_storeCells_at (P:=P) b off ty v.cells.toList 0 c w hb (by simpa using hle) hone;simp only[eq,br] at h;simp only[Instr.storeAt,Instr.sureAddr,storeVar,Sem.run_bind,Sem.run_pure,Result.andThen_ok,gT hi,hsz,ne_eq,not_true_eq_false,if_false,h]
theorem RS{k:Key}{off:Nat}{t:TypeId}{cs xs:List C}{av xv:Value}(hS:dM w σ S β)(ha:cu w σ S β (.c (.ptr k off)) av)(hk:aN S k=some (.box cs))
 (hx:dS w σ (S.drop k.1) (β.drop k.1) xs xv.cells.toList)(h1:xs.length=P.cellsOf t)(h2:off+xs.length<=cs.length)(h3:(P.info? t).isSome=true):
 ∃w' σ' h,(Instr.storeAt t av xv).run P w=.ok () w'/\aN β k=some h/\
  dM w' σ' (aP S k (.box (splice cs off xs))) (aP β k h)/\Keep S β (aP S k (.box (splice cs off xs))) (aP β k h)/\Step S β σ w (aP S k (.box (splice cs off xs))) (aP β k h) σ' w':=by
 obtain⟨⟨o,ho,hp⟩,_⟩:=ha;rw[hk] at ho;cases ho;obtain⟨b,hb,rfl⟩:=hp cs rfl;obtain⟨h,hh,hr⟩:=hS.obj k _ hk;rw[hb] at hh;cases hh;obtain⟨b',c,ty,e,hbc,hσ,hcs⟩:=hr;cases e;have l1:=hcs.1;have l2:=hx.1;simp at l1 l2
 have hrun:=wJ (P:=P) (off:=off) (v:=xv) h3 (by omega) hbc (by omega) (fun x hx'=>by
  obtain⟨j,hj⟩:=de hx';obtain⟨hjl,_⟩:=ai.1 hj;obtain⟨v,hv,_,ho⟩:=hx.2 j (xs[j]'(by rw[l2];simpa using hjl)) (ag _)
  rw[hj] at hv;cases hv;exact ho)
 generalize hc2:(c.toList.take off++xv.cells.toList++c.toList.drop (off+xv.cells.size)).toArray=c2 at hrun
 have wK:c2.size=c.size:=by rw[<-hc2];simp;omega
 have hheap:(w.setRow b c2).heap[b]? =some (.cells c2 ty (0,0)):=setRow_heap w b c c2 ty (0,0) hbc;have hlt:b<w.heap.size:=lt_of_some hbc
 have hn:dR w σ (w.setRow b c2) σ:=by
  intro b1 c1 t1 CK e1;refine⟨aw _,fun _=>rfl,?_⟩;by_cases hb1:b1=b
  ·subst hb1;rw[hbc] at e1;cases e1;exact⟨c2,hheap,wK,fun i hi=>by rw[hσ] at hi;omega⟩
  ·exact⟨c1,(fJ w b c2 b1 hb1).trans e1,rfl,fun _ _=>rfl⟩
 have Ev:iU (.box cs) (some (Value.pointer (some ⟨b,0,none⟩))) (.box (splice cs off xs)) (some (Value.pointer (some ⟨b,0,none⟩))):=.inr ⟨⟨_,rfl⟩,rfl⟩
 have Yj:Keep S β (aP S k (.box (splice cs off xs))) (aP β k (Value.pointer (some ⟨b,0,none⟩))):=by
  intro k1 o1 e1;by_cases e:k1=k
  ·subst e;rw[hk] at e1;cases e1;exact⟨_,bP _ S k1 _ hk,by rw[hb,bP _ β k1 _ hb];exact Ev⟩
  ·exact⟨o1,(dD _ _ _ _ (Ne.symm e)).trans e1,by rw[dD _ _ _ _ (Ne.symm e)];exact .refl _ _⟩
 refine⟨w.setRow b c2,σ,_,hrun,hb,?_⟩;refine hS.set hk hb (Nat.le_of_eq (setRow_size _ _ _).symm) rfl rfl hn (fun x=>by rw[setRow_size];exact hS.live x) (fun b1 hb1 hne=>⟨fJ _ _ _ _ (fun e=>hne (by rw[e];rfl)),rfl⟩) Ev ?_ (fun b1 e=>.inl e);refine⟨b,c2,ty,rfl,hheap,hσ,?_⟩;have hsp:=Er (off:=off) (hcs.mono hn (Yj.drop k.1)) (hx.mono hn (Yj.drop k.1)) (by omega)
 have e2:c2.toList=c.toList.take off++xv.cells.toList++c.toList.drop (off+xv.cells.toList.length):=by rw[<-hc2];simp
 rw[e2];exact hsp
def ng(cells:List D)(off:Nat)(xs:List D):List D:=cells.take off++xs++cells.drop (off+xs.length)
theorem J6{α:Type}:∀(es:List (List α))(aM:Nat)(i:Nat)(e:List α),(∀x∈es,x.length=aM)->e.length=aM->i<es.length->
 (es.set i e).flatten=es.flatten.take (i*aM)++e++es.flatten.drop (i*aM+aM)
 |[],_,_,_,_,_,h=>by simp at h
 |x::es,aM,0,e,h,he,_=>by
  have hx:x.length=aM:=h x (by simp);simp[<-hx]
 |x::es,aM,i+1,e,h,he,hi=>by
  have hx:x.length=aM:=h x (by simp);rw[List.set_cons_succ,ci,ci,J6 es aM i e (fun y hy=>h y (by simp[hy])) he (by simpa using hi)]
  have e1:(i+1)*aM=x.length+i*aM:=by rw[ck,hx];omega
  have e2:(i+1)*aM+aM=x.length+(i*aM+aM):=by omega
  rw[e2,e1,List.take_length_add_append,List.drop_length_add_append]
  simp
theorem RV{k:Key}{i off aM:Nat}{t:TypeId}{es:List (List D)}{ds:List D}{av xv:Value}(hS:dM w σ S β)(ha:cu w σ S β (.c (.iO k i off)) av)(hk:aN S k=some (.cZ aM es))
 (hx:ds.length=xv.cells.size/\∀(j:Nat) (d:D),ds[j]? =some d->∃v,xv.cells.toList[j]? =some v/\dw w σ d v)(h1:ds.length=P.cellsOf t)(h2:off+ds.length<=aM)(hi:i<es.length)(h3:(P.info? t).isSome=true):
 ∃w' σ' h,(Instr.storeAt t av xv).run P w=.ok () w'/\aN β k=some h/\
  dM w' σ' (aP S k (.cZ aM (es.set i (ng (es.getD i []) off ds)))) (aP β k h)/\Keep S β (aP S k (.cZ aM (es.set i (ng (es.getD i []) off ds)))) (aP β k h)/\
  Step S β σ w (aP S k (.cZ aM (es.set i (ng (es.getD i []) off ds)))) (aP β k h) σ' w':=by
 obtain⟨⟨o,ho,hp⟩,_⟩:=ha;rw[hk] at ho;cases ho;obtain⟨b,n,cap,hb,rfl⟩:=hp aM es rfl;obtain⟨h,hh,hr⟩:=hS.obj k _ hk;rw[hb] at hh;cases hh;obtain⟨b',c,ty,cap',e,hcap,hc0,hbc,hσ,hlen,ab9,hcsz,hcs⟩:=Ae hr hi;cases e;obtain⟨l2,hds⟩:=hx
 have hmul:i*aM+aM<=es.length*aM:=by
  have:(i+1)*aM<=es.length*aM:=ce _ hi
  rwa [ck,Nat.one_mul] at this
 have hrun:=wJ (P:=P) (off:=i*aM+off) (v:=xv) h3 (by omega) hbc (by omega) (fun x hx'=>by
  obtain⟨j,hj⟩:=de hx';obtain⟨hjl,_⟩:=ai.1 hj;obtain⟨v,hv,hr⟩:=hds j (ds[j]'(by rw[l2];simpa using hjl)) (ag _)
  rw[hj] at hv;cases hv;exact hr.one)
 generalize hc2:(c.toList.take (i*aM+off)++xv.cells.toList++c.toList.drop (i*aM+off+xv.cells.size)).toArray=c2 at hrun
 have wK:c2.size=c.size:=by rw[<-hc2];simp;omega
 have hheap:(w.setRow b c2).heap[b]? =some (.cells c2 ty (0,0)):=setRow_heap w b c c2 ty (0,0) hbc
 have hn:dR w σ (w.setRow b c2) σ:=by
  intro b1 c1 t1 CK e1;refine⟨aw _,fun _=>rfl,?_⟩;by_cases hb1:b1=b
  ·subst hb1;rw[hbc] at e1;cases e1;exact⟨c2,hheap,wK,fun i hi=>by rw[hσ] at hi;omega⟩
  ·exact⟨c1,(fJ w b c2 b1 hb1).trans e1,rfl,fun _ _=>rfl⟩
 have hge:es.getD i []=es[i]:=by simp[List.getD,hi]
 have hel:es[i].length=aM:=hlen _ (ac hi)
 have aaw:(ng (es.getD i []) off ds).length=aM:=by
  rw[hge];simp only[ng,ab,bk,cf,hel];omega
 refine⟨w.setRow b c2,σ,_,hrun,hb,?_⟩
 refine hS.set hk hb (Nat.le_of_eq (setRow_size _ _ _).symm) rfl rfl hn (fun x=>by rw[setRow_size];exact hS.live x) (fun b1 hb1 hne=>⟨fJ _ _ _ _ (fun e=>hne (by rw[e];simp[owns,blk,hc0])),rfl⟩)
  (.inr ⟨⟨_,rfl⟩,rfl⟩) ?_ (fun b1 e=>.inl e)
 refine⟨?_,_,cap,by rw[cn],by rw[cn];exact hcap,.inr ⟨b,c2,ty,rfl,hheap,hσ,by rw[wK];exact ab9,?_⟩⟩
 ·intro e he;rcases List.mem_or_eq_of_mem_set he with he|rfl
  ·exact hlen e he
  ·exact aaw
 ·intro j x hj;rw[J6 es aM i _ hlen aaw hi] at hj;have hfl:=iF es aM hlen
  have O7:c2[j]? =(c.toList.take (i*aM+off)++xv.cells.toList++c.toList.drop (i*aM+off+xv.cells.size))[j]? :=by rw[<-hc2];simp
  have old:∀y,es.flatten[j]? =some y->(j<i*aM+off\/i*aM+off+ds.length<=j)->∃v,c2[j]? =some v/\dw (w.setRow b c2) σ y v:=by
   intro y hy hout;obtain⟨v,hv,hr⟩:=hcs j y hy;refine⟨v,?_,hr.mono hn⟩;rw[O7];have hjc:=(aE.1 hv).1;rcases hout with hout|hout
   ·rw[cH,an (by simp only[ab,bk,cf,br];omega),bu hout,bw];exact hv
   ·rw[am (by simp only[ab,bk,cf,br];omega),cr];rw[<-hv,<-bw];congr 1;simp only[ab,bk,cf,br];omega
  by_cases c1:j<i*aM
  ·rw[cH,an (by simp only[ab,bk,cf,br];omega),bu c1] at hj;exact old x hj (.inl (by omega))
  ·by_cases c2':j<i*aM+aM
   ·rw[an (by simp only[ab,bk,cf,br];omega),am (by simp only[ab,bk,cf,br];omega)] at hj
    have et:(es.flatten.take (i*aM)).length=i*aM:=by simp only[ab,bk,cf,br];omega
    rw[et] at hj;unfold ng at hj;rw[hge] at hj;by_cases c3:j-i*aM<off
    ·rw[cH,an (by simp only[ab,bk,cf,br];omega),bu c3] at hj;have:=flat_get es aM hlen i (j-i*aM) hi (by omega);rw[show i*aM+(j-i*aM)=j from by omega] at this;exact old x (this.trans hj) (.inl (by omega))
    ·by_cases c4:j-i*aM<off+ds.length
     ·rw[an (by simp only[ab,bk,cf,br];omega),am (by simp only[ab,bk,cf,br];omega)] at hj
      have et2:(es[i].take off).length=off:=by simp only[ab,bk,cf,br];omega
      rw[et2] at hj;obtain⟨v,hv,hr⟩:=hds _ x hj;refine⟨v,?_,hr.mono hn⟩;rw[O7,an (by simp only[ab,bk,cf,br];omega),am (by simp only[ab,bk,cf,br];omega)];rw[<-hv];congr 1;simp only[ab,bk,cf,br];omega
     ·rw[am (by simp only[ab,bk,cf,br];omega),cr] at hj;have:=flat_get es aM hlen i (j-i*aM) hi (by omega);rw[show i*aM+(j-i*aM)=j from by omega] at this;refine old x ?_ (.inr (by omega));rw[this,<-hj];congr 1;simp only[ab,bk,cf,br];omega
   ·rw[am (by simp only[ab,bk,cf,br];omega),cr] at hj;refine old x ?_ (.inr (by omega));rw[<-hj];congr 1;simp only[ab,bk,cf,br];omega
theorem Ew{es:List (List D)}{i o i' o':Nat}{d x:D}(h:cellAt es i o=some x):cellAt (es.set i ((es.getD i []).set o d)) i' o'=if i'=i/\o'=o then some d else cellAt es i' o':=by
 obtain⟨hi,ho⟩:=tN h
 have hge:es.getD i []=es[i]:=by simp[List.getD,hi]
 rw[hge];unfold cellAt;rw[cM];by_cases e:i=i'
 ·subst e;rw[if_pos rfl,if_pos hi];show(es[i].set o d)[o']? =_;rw[cM,ag hi]
  show _=if i=i/\o'=o then some d else es[i][o']?
  by_cases e2:o=o'
  ·subst e2;simp[ho]
  ·rw[if_neg e2,if_neg (fun h=>e2 h.2.symm)]
 ·rw[if_neg e,if_neg (fun h=>e h.1.symm)]
theorem J7{es:List (List D)}{i o z:Nat}{d x:D}(h:cellAt es i o=some x)(hl:∀e∈es,e.length=z):∀e∈es.set i ((es.getD i []).set o d),e.length=z:=by
 obtain⟨hi,ho⟩:=tN h
 have hge:es.getD i []=es[i]:=by simp[List.getD,hi]
 intro e he;rcases List.mem_or_eq_of_mem_set he with he|rfl
 ·exact hl e he
 ·rw[cn,hge];exact hl _ (ac hi)
theorem l9.upd{T':Value}{new:List (List D)}(hN:l9 w' new T'):∀(p:List (Nat×Nat)){es:List (List D)}{T:Value}{es':List (List D)},l9 w es T->NR es p=some es'->l8 T p=some T'->
 (∀b,jm T b->¬jm T' b->w'.heap[b]? =w.heap[b]?)->l9 w' (Gh es p new) T
 |[],es,T,es',h,e,ht,hf=>by cases ht;exact hN
 |(i,o)::p,es,T,es',h,e,ht,hf=>by
  rw[NR] at e;split at e
  ·rename_i es1 hc;rw[Gh,hc]
   simp only
   have h0:=h
   cases h with
   |nil=>simp[cellAt] at hc
   |mk b off cap z es T c t vals kids hh hne hcap hlen hb hfit hcv hs hk hx hself hap oL=>
    obtain⟨k1,k2⟩:=hk i o es1 hc;rw[l8,k1] at ht;have hT':l8 (kids i o) p=some T':=ht
    have hsub:∀x,jm T' x->jm (kids i o) x:=fun x hx'=>by
     obtain⟨T2,q1,q2,q3⟩:=(hx i o es1 hc).at_ p e;rw[hT'] at q1;cases q1;exact q3 x hx'
    have ih:=upd hN p (hx i o es1 hc) e hT' fun x h1 h2=>hf x (.kid k1 h1) h2;have hpos:0<es.length:=eC.2 hne;have hbw:w'.heap[b]? =some (.cells c t (0,0)):=(hf b (.here hh hpos) (fun q=>hself i o _ k1 (hsub b q))).trans hb
    have hcs:∀i' o',cellAt (es.set i ((es.getD i []).set o (.sl (Gh es1 p new)))) i' o'=if i'=i/\o'=o then some (.sl (Gh es1 p new)) else cellAt es i' o':=fun i' o'=>Ew hc
    refine .mk b off cap z _ T c t vals kids (by rw[cn];exact hh) (fun e=>hne ((List.set_eq_nil_iff _ _).1 e)) (by rw[cn];exact hcap) (J7 hc hlen) hbw (by rw[cn];exact hfit)
     (fun i' o' d hd=> ?_) (fun i' o' d hd=> ?_) (fun i' o' e' hd=> ?_) (fun i' o' e' hd=> ?_) hself hap (fun i' o' u hu=> ?_)
    ·rw[hcs] at hd;split at hd
     ·rename_i q;obtain⟨rfl,rfl⟩:=q;exact hcv _ _ _ hc
     ·exact hcv _ _ _ hd
    ·rw[hcs] at hd;split at hd
     ·cases hd;exact .inl ⟨_,rfl⟩
     ·exact hs _ _ _ hd
    ·rw[hcs] at hd;split at hd
     ·rename_i q;obtain⟨rfl,rfl⟩:=q;exact⟨k1,k2⟩
     ·exact hk _ _ _ hd
    ·rw[hcs] at hd;split at hd
     ·rename_i q;obtain⟨rfl,rfl⟩:=q;cases hd;exact ih
     ·rename_i q;refine(hx _ _ _ hd).frame fun x hx'=>hf x (.kid (hk _ _ _ hd).1 hx') fun h2=> ?_;exact hap i' o' i o _ _ x (fun e=>q (by cases e;exact⟨rfl,rfl⟩)) (hk _ _ _ hd).1 k1 hx' (hsub x h2)
    ·rw[hcs];split
     ·exact⟨_,rfl⟩
     ·exact oL _ _ _ hu
  ·cases e
theorem Vb{k:Key}{r z i off:Nat}{p:List (Nat×Nat)}{t:TypeId}{rs:List (List (List D))}{es:List (List D)}{d d0:D}{av xv v:Value}(hS:dM w σ S β)(ha:cu w σ S β (.c (.xq k r p z i off)) av)
 (hk:aN S k=some (.xf rs))(hes:atR rs r p=some es)(hc:cellAt es i off=some d0)(hd0:JQ d0=true)(hd:JQ d=true)(hz:(es.getD i []).length=z)(hxv:xv.cells.toList=[v])(hv:dw w σ d v)
 (h1:P.cellsOf t=1)(h3:(P.info? t).isSome=true):
 ∃w' σ' h,(Instr.storeAt t av xv).run P w=.ok () w'/\aN β k=some h/\
  dM w' σ' (aP S k (.xf (Af rs r p (es.set i ((es.getD i []).set off d))))) (aP β k h)/\Keep S β (aP S k (.xf (Af rs r p (es.set i ((es.getD i []).set off d))))) (aP β k h)/\
  Step S β σ w (aP S k (.xf (Af rs r p (es.set i ((es.getD i []).set off d))))) (aP β k h) σ' w':=by
 obtain⟨h,T,T',hh,hr,hT',hE,hhd,hown⟩:=BI hS hk hes;obtain⟨⟨o,ho,hx2⟩,_⟩:=ha;rw[hk] at ho;cases ho;obtain⟨h',b,a,n,cap,e1,e2,rfl⟩:=hx2 rs rfl;rw[hh] at e1;cases e1;rw[hhd] at e2;obtain⟨hi,hoff⟩:=tN hc
 have hsz:xv.cells.size=1:=by rw[<-br,hxv];rfl
 obtain⟨uw,qx⟩:=hS.obj k _ hk;rw[hh] at qx;obtain⟨acd,hX⟩:=qx;cases acd;obtain⟨hX1,hX2,J8,Yk⟩:=hX
 cases hE with
 |nil=>simp at hi
 |mk b0 U8 cap0 z0 es T' c t0 vals kids hh0 hne hcap hlen hb hfit hcv hs hkd uQ hself hap oL=>
  rw[hh0] at e2;cases e2
  have hz0:z=z0:=by rw[<-hz,<-hlen _ (ac hi)];simp[List.getD,hi]
  subst hz0;have hpos:0<es.length:=eC.2 hne
  have hol:off<z:=by rw[<-hlen _ (ac hi)];exact hoff
  have hmul:i*z+z<=es.length*z:=by
   have:(i+1)*z<=es.length*z:=ce _ hi
   rwa [ck,Nat.one_mul] at this
  have hrun:=wJ (P:=P) (off:=a+i*z+off) (v:=xv) h3 (by omega) hb (by omega) (fun x hx'=>by
   rw[hxv] at hx';simp at hx'
   subst hx';exact hv.one)
  generalize hc2:(c.toList.take (a+i*z+off)++xv.cells.toList++c.toList.drop (a+i*z+off+xv.cells.size)).toArray=c2 at hrun
  have wK:c2.size=c.size:=by rw[<-hc2];simp;omega
  have O7:∀j,c2[j]? =if j=a+i*z+off then some v else c[j]? :=fun j=>by
   rw[<-hc2,hxv,hsz,cA];by_cases e:j=a+i*z+off
   ·subst e;rw[if_pos rfl,an (by simp;omega),am (by simp;omega)]
    simp
    rw[show a+i*z+off-min (a+i*z+off) c.size=0 by omega];rfl
   ·rw[if_neg e];by_cases hlt:j<a+i*z+off
    ·rw[cH,an (by simp;omega),bu hlt,bw]
    ·rw[am (by simp;omega),cr,bw];congr 1
     simp
     omega
  have hheap:(w.setRow b c2).heap[b]? =some (.cells c2 t0 (0,0)):=setRow_heap w b c c2 t0 (0,0) hb;have yI:jX h b:=hown b (.here hh0 hpos);have hσ:=J8 b yI
  have hn:dR w σ (w.setRow b c2) σ:=by
   intro b1 c1 t1 CK e1;refine⟨aw _,fun _=>rfl,?_⟩;by_cases hb1:b1=b
   ·subst hb1;rw[hb] at e1;cases e1;exact⟨c2,hheap,wK,fun i hi=>by rw[hσ] at hi;omega⟩
   ·exact⟨c1,(fJ w b c2 b1 hb1).trans e1,rfl,fun _ _=>rfl⟩
  have hsd:SD d v:=by
   cases d<;>first|(cases hd;done)|(cases hv;rfl)
  have hcs:∀i' o',cellAt (es.set i ((es.getD i []).set off d)) i' o'=if i'=i/\o'=off then some d else cellAt es i' o':=fun i' o'=>Ew hc
  have aax:∀e',d≠ .sl e':=fun e' e=>by subst e;cases hd
  have hidx:∀i' o',(∃x,cellAt es i' o'=some x)->a+(i'*z+o')=a+i*z+off->i'=i/\o'=off:=fun i' o' ⟨x,hx⟩ e=>by
   obtain⟨hi',ho'⟩:=tN hx;rw[hlen _ (ac hi')] at ho'
   have e':i'*z+o'=i*z+off:=by omega
   have hz0:0<z:=by omega
   have d1:(i'*z+o') /z=i':=by rw[Nat.mul_comm,Nat.mul_add_div hz0,Nat.div_eq_of_lt ho'];omega
   have d2:(i*z+off) /z=i:=by rw[Nat.mul_comm,Nat.mul_add_div hz0,Nat.div_eq_of_lt hol];omega
   have d3:i'=i:=by rw[<-d1,<-d2,e']
   subst d3;exact⟨rfl,by omega⟩
  have ace:l9 (w.setRow b c2) (es.set i ((es.getD i []).set off d)) T':=by
   refine .mk b a cap z _ T' c2 t0 (fun i' o'=>if i'=i/\o'=off then v else vals i' o') kids (by rw[cn];exact hh0) (fun e=>hne ((List.set_eq_nil_iff _ _).1 e)) (by rw[cn];exact hcap) (J7 hc hlen) hheap
    (by rw[cn,wK];exact hfit) (fun i' o' x hx'=> ?_) (fun i' o' x hx'=> ?_) (fun i' o' e' hx'=> ?_) (fun i' o' e' hx'=> ?_) hself hap (fun i' o' u hu=> ?_)
   ·rw[hcs] at hx';rw[O7];split at hx'
    ·rename_i q;obtain⟨rfl,rfl⟩:=q;rw[if_pos (by omega),if_pos ⟨rfl,rfl⟩]
    ·rename_i q;rw[if_neg (fun e=>q (hidx i' o' ⟨x,hx'⟩ e)),if_neg q];exact hcv _ _ _ hx'
   ·rw[hcs] at hx';split at hx'
    ·rename_i q;cases hx';right;simp only[if_pos q];exact hsd
    ·rename_i q;simp only[if_neg q];exact hs _ _ _ hx'
   ·rw[hcs] at hx';split at hx'
    ·cases hx';exact absurd rfl (aax e')
    ·rename_i q;simp only[if_neg q];exact hkd _ _ _ hx'
   ·rw[hcs] at hx';split at hx'
    ·cases hx';exact absurd rfl (aax e')
    ·refine(uQ _ _ _ hx').frame fun x hx1=>fJ _ _ _ _ fun e=> ?_;subst e;exact hself _ _ _ (hkd _ _ _ hx').1 hx1
   ·rw[hcs];obtain⟨e',he'⟩:=oL _ _ _ hu;rw[if_neg (fun q=>by obtain⟨rfl,rfl⟩:=q;rw[hc] at he';cases he';cases hd0)];exact⟨e',he'⟩
  have Ev:iU (.xf rs) (some h) (.xf (Af rs r p (es.set i ((es.getD i []).set off d)))) (some h):=.inr ⟨⟨_,rfl⟩,rfl⟩;refine⟨w.setRow b c2,σ,_,hrun,hh,?_⟩;refine hS.set hk hh (Nat.le_of_eq (setRow_size _ _ _).symm) rfl rfl hn (fun x=>by rw[setRow_size];exact hS.live x) (fun b1 hb1 hne1=>⟨fJ _ _ _ _ (fun e=>hne1 (by subst e;exact yI)),rfl⟩) Ev ?_ (fun b1 e=>.inl e);refine⟨fun r' es' hr'=> ?_,fun r' T1 hT1=>by rw[Af,cn];exact hX2 r' T1 hT1,J8,Yk⟩;unfold atR at hes
  cases hrr:rs[r]? with
  |none=>rw[hrr] at hes;cases hes
  |some es0=>
   rw[hrr] at hes;have hrl:=(ai.1 hrr).1
   have adD:rs.getD r []=es0:=by simp[List.getD,hrr]
   rw[Af,cM,adD] at hr';by_cases er:r=r'
   ·subst er;rw[if_pos rfl,if_pos hrl] at hr';cases hr';obtain⟨T1,q1,q2⟩:=hX1 r es0 hrr;rw[hr] at q1;cases q1;refine⟨T,hr,l9.upd ace p q2 hes hT' fun x h1' h2'=>fJ _ _ _ _ fun e=> ?_⟩;subst e;exact h2' (.here hh0 hpos)
   ·rw[if_neg er] at hr';obtain⟨T1,q1,q2⟩:=hX1 r' es' hr';refine⟨T1,q1,q2.frame fun x hx1=>fJ _ _ _ _ fun e=> ?_⟩;subst e;obtain⟨T2,w4,w5⟩:=hX1 r es0 hrr;rw[hr] at w4;cases w4;obtain⟨T3,w1,w2,w3⟩:=w5.at_ p hes;rw[hT'] at w1;cases w1;exact Yk r r' T T1 x er hr q1 (w3 x (.here hh0 hpos)) hx1
end
section
variable {P:Program} {w w':World} {σ σ':Nat->Nat} {S:Store} {β:Hs}
theorem H8(newLen:Nat):∀(r c:Nat),c<=2*newLen+512->Builtin.growBy newLen r c<=2*newLen+512
 |0,c,h=>h
 |r+1,c,h=>by
  unfold Builtin.growBy;split
  ·exact h
  ·exact H8 newLen r _ (by omega)
theorem Ey(newLen oldCap:Nat)(h:oldCap<newLen):Builtin.nextslicecap newLen oldCap<=2*newLen+512:=by
 unfold Builtin.nextslicecap;split
 ·omega
 ·split
  ·omega
  ·exact H8 _ _ _ (by omega)
def Src(P:Program)(w:World)(σ:Nat->Nat)(size:Nat)(ys:List (List D))(v:Value):Prop:=
 (Builtin.lenOf v).run P w=.ok ys.length w/\(∀y∈ys,y.length=size)/\
 ∃a:Array Value,(Builtin.firstCells size ys.length v).run P w=.ok a w/\a.size=ys.length*size/\∀(j:Nat)(d:D),ys.flatten[j]? =some d->∃v,a[j]? =some v/\dw w σ d v
theorem Aj{ys:List (List D)}{v:Value}{size:Nat}(h:dw w σ (.sl ys) v)(hsz:∀y∈ys,y.length=size):Src P w σ size ys v:=by
 cases h with
 |nil a cap=>
  refine⟨rfl,hsz,#[],?_,by simp,fun j d hj=>by simp at hj⟩
  cases a with
  |none=>rfl
  |some a=>simp[Builtin.firstCells,loadCells,loadCellsFrom]
 |sl b off cap aM es vals c t fz hcap hlen hb hσ hc hv=>
  by_cases hne:ys=[]
  ·subst hne;exact⟨rfl,hsz,#[],by simp[Builtin.firstCells,loadCells,loadCellsFrom],by simp,fun j d hj=>by simp at hj⟩
  have he:aM=size:=by
   cases ys with
   |nil=>exact absurd rfl hne
   |cons y ys=>rw[<-hlen y (by simp),hsz y (by simp)]
  subst he;obtain⟨hl,hv'⟩:=uP c off (ys.length*aM) (fun j hj=>⟨_,hc j hj⟩);refine⟨rfl,hsz,_,rT (a:=⟨b,off,none⟩) rfl hb _ (fun j hj=>⟨_,hc j hj⟩),by simpa using hl,fun j d hj=> ?_⟩
  have hjl:j<ys.length*aM:=by
   have:=(ai.1 hj).1
   rwa [iF ys aM hlen] at this
  refine⟨vals j,?_,hv j d hj⟩;rw[cA,hv' j hjl];exact hc j hjl
theorem Ez(l:List UInt8):Src P w σ 1 (l.map fun b=>[D.i .u8 b.toNat]) (.string ⟨l.toArray⟩):=by
 have hsz:(⟨l.toArray⟩:ByteArray).size=l.length:=dC;refine⟨by simp[Builtin.lenOf,hsz],by simp,(l.toArray.map fun b=>Value.int .u8 b.toNat),?_,by simp,fun j d hj=> ?_⟩
 ·simp only[Builtin.firstCells,al,Sem.run_pure];congr 2;rw[ByteArray.data_extract]
  simp
 ·have hf:(l.map fun b=>[D.i .u8 b.toNat]).flatten=l.map fun b=>D.i .u8 b.toNat:=by
   clear hj hsz
   induction l with
   |nil=>rfl
   |cons a l ih=>rw[af,ci,ih];rfl
  rw[hf,aV] at hj
  cases hl:l[j]? with
  |none=>rw[hl] at hj;cases hj
  |some b=>
   rw[hl] at hj;cases hj;exact⟨.int .u8 b.toNat,by simp[hl],.i _ _⟩
def EA(P:Program)(u:TypeId):Prop:=(∃e,P.underlying u=some (.slice e))\/P.underlying u=some .string
theorem Ak{t u ty e:TypeId}{base:Option Addr}{sLen sCap:Nat}{yv:Value}{i:TypeInfo}(ht:P.underlying t=some (.slice e))(hu:EA P u)(hi:P.info? e=some i)
 (hn:(Builtin.lenOf yv).run P w=.ok 0 w)(hf:(Builtin.firstCells i.size 0 yv).run P w=.ok #[] w)(hroom:sLen<=sCap):
 (Builtin.append_ #[t,u] ty #[.slice base sLen sCap,yv]).run P w=.ok (.slice base sLen sCap) w:=by
 rcases hu with⟨e',hu⟩|hu<;>cases base<;>
  simp[Builtin.append_,run_underlying ht,run_underlying hu,sizeOf,typeInfo,hi,hn,hf,hroom,storeCells]
theorem Al{t u ty e:TypeId}{b off:Nat}{sLen sCap m:Nat}{yv:Value}{i:TypeInfo}{ya c:Array Value}{et:TypeId}(ht:P.underlying t=some (.slice e))(hu:EA P u)(hi:P.info? e=some i)
 (hn:(Builtin.lenOf yv).run P w=.ok m w)(hf:(Builtin.firstCells i.size m yv).run P w=.ok ya w)(hroom:sLen+m<=sCap)
 (hb:w.heap[b]? =some (.cells c et (0,0)))(hfit:off+sLen*i.size+ya.size<=c.size)(h1:∀v∈ya.toList,v.oneCell'=true):
 (Builtin.append_ #[t,u] ty #[.slice (some ⟨b,off,none⟩) sLen sCap,yv]).run P w=
   .ok (.slice (some ⟨b,off,none⟩) (sLen+m) sCap) (w.setRow b (c.toList.take (off+sLen*i.size)++ya.toList++c.toList.drop (off+sLen*i.size+ya.size)).toArray):=by
 have hst:=run_storeCells_at P b (off+sLen*i.size) et ya.toList 0 c w hb (by simpa using hfit) h1;simp only[eq,br] at hst;have ha:(⟨b,off,none⟩:Addr).add (sLen*i.size)=⟨b,off+sLen*i.size,none⟩:=addr_add _ _ rfl
 rcases hu with⟨e',hu⟩|hu<;>
  simp[Builtin.append_,run_underlying ht,run_underlying hu,sizeOf,typeInfo,hi,hn,hf,hroom,ha,hst]
theorem wL{t u ty e:TypeId}{base:Option Addr}{sLen sCap m:Nat}{yv:Value}{i:TypeInfo}{z:Value}{oa ya:Array Value}(ht:P.underlying t=some (.slice e))(hu:EA P u)(hi:P.info? e=some i)
 (hz:i.zero=some z)(hn:(Builtin.lenOf yv).run P w=.ok m w)(hf:(Builtin.firstCells i.size m yv).run P w.drew=.ok ya w.drew)(ho:(Builtin.firstCells i.size sLen (.slice base sLen sCap)).run P w.drew=.ok oa w.drew)
 (hroom:sCap<sLen+m)(h63:sLen+m<=1073741824)(hby:i.bytes<=4096):
 ∃(cap:Nat) (rest:Array Value),sLen+m<=cap/\rest.size=(cap-(sLen+m))*z.cells.size/\(Builtin.append_ #[t,u] ty #[.slice base sLen sCap,yv]).run P w=
  .ok (.slice (some ⟨w.heap.size,0,none⟩) (sLen+m) cap) {w.drew with heap:=w.heap.push (.cells (oa++ya++rest) e)}:=by
 have hn1:=Ey (sLen+m) sCap hroom
 have h48:¬(281474976710656<Builtin.nextslicecap (sLen+m) sCap*i.bytes):=by
  have:Builtin.nextslicecap (sLen+m) sCap*i.bytes<=(2*(sLen+m)+512)*4096:=Nat.mul_le_mul hn1 hby;omega
 have h63':¬(9223372036854775807<((sLen+m:Nat):Int)):=by omega
 have hroom':¬(sLen+m<=sCap):=by omega
 refine⟨(Question.appendCap (sLen+m) sCap e).cut (w.tape w.drawn (Question.appendCap (sLen+m) sCap e)),Builtin.zeroCells z.cells ((Question.appendCap (sLen+m) sCap e).cut (w.tape w.drawn (Question.appendCap (sLen+m) sCap e))-(sLen+m)),by simp[Question.cut],by simp[Builtin.zeroCells],?_⟩
 have hmax:IntKind.i64.max=9223372036854775807:=by decide
 rcases hu with⟨e',hu⟩|hu<;>
  simp[Builtin.append_,run_underlying ht,run_underlying hu,sizeOf,typeInfo,zeroValue,hi,hz,hn,hroom',h48,hmax,Question.forced,newRow]
 all_goals
  have acf:¬(9223372036854775807<(sLen:Int)+(m:Int)):=by omega
  simp[acf,hf,ho];rfl
theorem dR.drew(w:World)(σ:Nat->Nat):dR w σ w.drew σ:=fun b c t fz h=>⟨aw _,fun _=>rfl,c,h,rfl,fun _ _=>rfl⟩
def gH:Option Nat->Nat->List (List D)->Obj
 |none,z,es=>.tok z es
 |some n,z,es=>.gX n z es
def Dp(lab:Option Nat)(full:Prop)[Decidable full](used size:Nat):Nat:=
 match lab with
 |none=>used
 |some n=>if full then size+1+n else used
theorem NY{lab:Option Nat}{full:Prop}[Decidable full]{used size:Nat}(h:used<=size):used<=Dp lab full used size:=by
 unfold Dp;split
 ·exact aw _
 ·split<;>omega
theorem qM{lab:Option Nat}{z n cap:Nat}{es:List (List D)}{a:Addr}:blk (gH lab z es) (.slice (some a) n cap)=if cap=es.length then none else some a.block:=by cases lab<;>rfl
theorem kW{lab:Option Nat}{z:Nat}{es:List (List D)}{h:Value}{b:Nat}:owns (gH lab z es) h b<->blk (gH lab z es) h=some b:=by cases lab<;>exact ec
theorem vT{lab:Option Nat}{z:Nat}{es:List (List D)}{h:Value}(hr:eT w σ S β (gH lab z es) h):dw w σ (.sl es) h/\(∀e∈es,e.length=z)/\∃a cap,h=.slice a es.length cap/\es.length<=cap/\
 (cap=es.length\/∃b off c t,a=some ⟨b,off,none⟩/\w.heap[b]? =some (.cells c t (0,0))/\σ b=off+es.length*z/\off+cap*z<=c.size/\off=0):=by
 cases lab with
 |none=>exact hr
 |some n=>
  obtain⟨h1,h2,a,cap,h3,h4,h5⟩:=hr;exact⟨h1,h2,a,cap,h3,h4,h5.imp (fun h=>h.1) (fun h=>h.2)⟩
theorem O8{lab:Option Nat}{z:Nat}{es:List (List D)}:lT (gH lab z es) z es:=by
 cases lab with
 |none=>exact .inl rfl
 |some n=>exact .inr ⟨n,rfl⟩
theorem jP{lab:Option Nat}{z z':Nat}{es es':List (List D)}(h:lT (gH lab z es) z' es'):z'=z/\es'=es:=by
 cases lab with
 |none=>rcases h with h|⟨n,h⟩<;>cases h;exact⟨rfl,rfl⟩
 |some n=>rcases h with h|⟨n,h⟩<;>cases h;exact⟨rfl,rfl⟩
theorem RX{lab:Option Nat}{z:Nat}{es es':List (List D)}{h h':Option Value}(hl:es.length<=es'.length)(he:es.length=es'.length->h'=h):iU (gH lab z es) h (gH lab z es') h':=by
 cases lab with
 |none=>exact .inr ⟨z,es',rfl,hl,he⟩
 |some n=>exact .inr ⟨z,es',rfl,hl,he⟩
theorem EB{lab:Option Nat}{w':World}{σ':Nat->Nat}{b off len cap size:Nat}{es:List (List D)}{c:Array Value}{t:TypeId}(hlen:∀e∈es,e.length=size)(hl:len=es.length)(hcap:len<=cap)
 (hb:w'.heap[b]? =some (.cells c t (0,0)))(hσ:σ' b=Dp lab (cap=es.length) (off+es.length*size) c.size)(hfit:off+cap*size<=c.size/\off=0)
 (hc:∀(j:Nat) (d:D),es.flatten[j]? =some d->∃v,c[off+j]? =some v/\dw w' σ' d v)(S':Store)(β':Hs):
 eT w' σ' S' β' (gH lab size es) (.slice (some ⟨b,off,none⟩) len cap):=by
 subst hl;have hfl:=iF es size hlen
 have hex:∀j,j<es.length*size->c[off+j]? =some ((c[off+j]?).getD undef):=fun j hj=>by
  obtain⟨v,hv,_⟩:=hc j _ (ag (by omega));simp[hv]
 have hv:∀(j:Nat)(d:D),es.flatten[j]? =some d->dw w' σ' d ((c[off+j]?).getD undef):=fun j d hd=>by
  obtain⟨v,hv,hr⟩:=hc j d hd;simp only[hv,dn];exact hr
 have hm:es.length*size<=cap*size:=ce _ hcap
 have hsl:dw w' σ' (.sl es) (.slice (some ⟨b,off,none⟩) es.length cap):=
  .sl b off cap size es (fun j=>(c[off+j]?).getD undef) c t (0,0) hcap hlen hb (by rw[hσ];exact NY (by omega)) hex hv
 cases lab with
 |none=>exact⟨hsl,hlen,_,cap,rfl,hcap,.inr ⟨b,off,c,t,rfl,hb,hσ,hfit⟩⟩
 |some n=>
  refine⟨hsl,hlen,_,cap,rfl,hcap,?_⟩;by_cases hf:cap=es.length
  ·refine .inl ⟨hf,.ol n b off cap size es (fun j=>(c[off+j]?).getD undef) c t hcap hlen hb ?_ (by omega) hex hv ⟨by omega,by omega⟩⟩;rw[hσ,Dp,if_pos hf]
  ·exact .inr ⟨hf,b,off,c,t,rfl,hb,by rw[hσ,Dp,if_neg hf],hfit⟩
def uR(P:Program)(w:World)(σ:Nat->Nat)(size:Nat)(ys:List (List D))(v:Value):Prop:=∀w':World,w'.heap=w.heap->Src P w' σ size ys v
theorem Am{ys:List (List D)}{v:Value}{size:Nat}(h:dw w σ (.sl ys) v)(hsz:∀y∈ys,y.length=size):uR P w σ size ys v:=
 fun w' e=>Aj (h.mono fun b c t fz hb=>⟨aw _,fun _=>rfl,c,by rw[e];exact hb,rfl,fun _ _=>rfl⟩) hsz
theorem I9(l:List UInt8):uR P w σ 1 (l.map fun b=>[D.i .u8 b.toNat]) (.string ⟨l.toArray⟩):=fun _ _=>Ez l
theorem rX{lab:Option Nat}{t u ty e:TypeId}{sv:Value}{size:Nat}{es ys:List (List D)}{yv:Value}(hl:∀b,b<w.heap.size\/σ b=0)
 (ht:P.underlying t=some (.slice e))(hu:EA P u)(hz:∃zs,gF P e=some zs/\zs.length=size)(hsize:P.cellsOf e=size)(hb:P.bytesOf e<=4096)
 (hs:eT w σ S β (gH lab size es) sv)(hy:uR P w σ size ys yv)(hlen:es.length+ys.length<=1073741824):
 ∃r w' σ',(Builtin.append_ #[t,u] ty #[sv,yv]).run P w=.ok r w'/\(∀S' β',eT w' σ' S' β' (gH lab size (es++ys)) r)/\w.heap.size<=w'.heap.size/\w'.os=w.os/\w'.output=w.output/\
  dR w σ w' σ'/\(∀b,b<w'.heap.size\/σ' b=0)/\(∀b,b<w.heap.size->¬owns (gH lab size es) sv b->w'.heap[b]? =w.heap[b]? /\σ' b=σ b)/\
  (∀b,owns (gH lab size (es++ys)) r b->owns (gH lab size es) sv b\/w.heap.size<=b)/\(ys.length=0->r=sv)/\r.oneCell'=true:=by
 obtain⟨zs,hzs,hzl⟩:=hz;obtain⟨z,qC,hzc⟩:=oZ (w:=w) (σ:=σ) (S:=S) (β:=β) hzs
 have Ao:z.cells.size=size:=by have:=hzc.1;simp at this;omega
 have hex:∃info,P.info? e=some info/\info.zero=some z:=by
  unfold gF at hzs
  cases hi:P.info? e with
  |none=>rw[hi] at hzs;cases hzs
  |some i=>
   refine⟨i,rfl,?_⟩
   cases hz:i.zero with
   |none=>rw[hi] at hzs;simp[hz] at hzs
   |some z'=>
    have:(zeroValue e).run P w=.ok z' w:=by simp[zeroValue,typeInfo,hi,hz]
    rw[qC] at this;cases this;rfl
 obtain⟨info,hi,hiz⟩:=hex
 have hib:info.bytes=P.bytesOf e:=by simp[Program.bytesOf,hi]
 have his:info.size=size:=by rw[<-hsize];simp[Program.cellsOf,hi]
 have hs0:=hs;obtain⟨hsd,hle,base,sCap,rfl,hcap,adE⟩:=vT hs;obtain⟨hyl,hys,ya,J9,Ka,RY⟩:=hy w rfl;have hall:∀x∈es++ys,x.length=size:=fun x hx=>(cR.1 hx).elim (hle x) (hys x);have hfl:es.flatten.length=es.length*size:=iF es size hle;have hfy:ys.flatten.length=ys.length*size:=iF ys size hys
 have hone:∀v∈ya.toList,v.oneCell'=true:=fun v hv=>by
  obtain⟨j,hj⟩:=de hv;have hjl:=(ai.1 hj).1;simp at hjl;obtain⟨v',hv',hr⟩:=RY j _ (ag (by omega));rw[bw] at hj;rw[hj] at hv';cases hv';exact hr.one
 by_cases hn0:ys.length=0
 ·have Vd:ys=[]:=co hn0;subst Vd
  have hya:ya= #[]:=by simpa using Ka
  subst hya;refine⟨_,w,σ,Ak ht hu hi hyl (by rw[his];exact J9) hcap,fun S' β'=> ?_,aw _,rfl,rfl,dR.refl _ _,hl,fun b _ _=>⟨rfl,rfl⟩,fun b hb=>.inl (by simpa using hb),fun _=>rfl,rfl⟩;rw[cJ];cases lab<;>exact hs0
 by_cases hroom:es.length+ys.length<=sCap
 ·obtain⟨b,off,c,ct,rfl,hbc,hσ,hfit⟩:=adE.resolve_left (by omega)
  have hmul:es.length*size+ys.length*size<=sCap*size:=by rw[<-ck];exact ce _ hroom
  have hrun:=Al (P:=P) (ty:=ty) (b:=b) (off:=off) ht hu hi hyl (by rw[his];exact J9) hroom hbc (by rw[his,Ka];omega) hone;rw[his] at hrun;generalize hc2:(c.toList.take (off+es.length*size)++ya.toList++c.toList.drop (off+es.length*size+ya.size)).toArray=c2 at hrun
  have wK:c2.size=c.size:=by rw[<-hc2];simp;omega
  have hheap:(w.setRow b c2).heap[b]? =some (.cells c2 ct (0,0)):=setRow_heap w b c c2 ct (0,0) hbc;have hblt:=lt_of_some hbc
  have hlow:∀i,i<off+es.length*size->c2[i]? =c[i]? :=fun i hi=>by
   rw[<-hc2,cA,cH,an (by simp;omega),bu hi,bw]
  have hmid:∀j,j<ya.size->c2[off+es.length*size+j]? =ya[j]? :=fun j hj=>by
   rw[<-hc2,cA,an (by simp;omega),am (by simp;omega),<-bw];congr 1;simp;omega
  have hlen':(es++ys).length=es.length+ys.length:=ab
  have hn:dR w σ (w.setRow b c2) (fun x=>if x=b then Dp lab (sCap=(es++ys).length) (off+(es++ys).length*size) c2.size else σ x):=by
   intro b1 c1 t1 CK e1;by_cases hb1:b1=b
   ·subst hb1;rw[hbc] at e1;cases e1;refine⟨by simp only[if_true];rw[hσ];exact cx (by rw[hlen',ck];omega) (NY (by rw[hlen',ck];omega)),fun hh=>by rw[hσ] at hh;omega,c2,hheap,wK,fun i hi=>hlow i (by rw[hσ] at hi;omega)⟩
   ·exact⟨by simp only[if_neg hb1];exact aw _,fun _=>if_neg hb1,c1,(fJ w b c2 b1 hb1).trans e1,rfl,fun _ _=>rfl⟩
  have aay:sCap≠es.length:=by omega
  refine⟨_,_,_,hrun,fun S' β'=> ?_,by rw[setRow_size];exact aw _,rfl,rfl,hn,fun x=> ?_,fun x hx hne=> ?_,fun x hx=> ?_,fun h=>absurd h hn0,rfl⟩
  ·refine EB hall hlen'.symm hroom hheap (by simp) (by omega) (fun j d hj=> ?_) S' β';rw[cF] at hj;by_cases hjl:j<es.length*size
   ·rw[an (by omega)] at hj
    cases hsd with
    |nil=>simp at hj
    |sl b' off' cap' qw es' vals c' t' Kc BJ acg hb' hσ' hc' hv'=>
     rw[hbc] at hb';cases hb'
     have hes:qw=size:=by
      cases es with
      |nil=>simp at hjl
      |cons y ys'=>rw[<-acg y (by simp),hle y (by simp)]
     subst hes;refine⟨vals j,?_,(hv' j d hj).mono hn⟩;rw[hlow _ (by omega)];exact hc' j hjl
   ·rw[am (by omega),hfl] at hj;obtain⟨v,hv,hr⟩:=RY _ d hj;have hlt:=(aE.1 hv).1;refine⟨v,?_,hr.mono hn⟩;rw[<-hv,<-hmid _ hlt];congr 1;omega
  ·rw[setRow_size];by_cases hxb:x=b
   ·left;omega
   ·simp only[if_neg hxb];exact hl x
  ·have hxb:x≠b:=fun e=>hne (by rw[kW,qM,if_neg aay,e]);exact⟨fJ _ _ _ _ hxb,if_neg hxb⟩
  ·left;rw[kW,qM] at hx ⊢;split at hx
   ·cases hx
   ·rw[if_neg aay];exact hx
 ·obtain⟨aaA,_,EC,Ke,ED,Kg⟩:=hy w.drew rfl;obtain⟨_,_,oa,hor,Ap,hod⟩:=Aj (P:=P) (hsd.mono (dR.drew w σ)) hle;obtain⟨cap,rest,BJ,hrest,hrun⟩:=wL (P:=P) (ty:=ty) (base:=base) (sCap:=sCap) ht hu hi hiz hyl (by rw[his];exact Ke) (by rw[his];exact hor) (by omega) hlen (by rw[hib];exact hb)
  let w':World:={w.drew with heap:=w.heap.push (.cells (oa++EC++rest) e)}
  let σ':Nat->Nat:=fun x=>if x=w.heap.size then Dp lab (cap=(es++ys).length) (0+(es++ys).length*size) (oa++EC++rest).size else σ x
  have hn:dR w σ w' σ':=by
   intro b1 c1 t1 CK e1;have hlt:=lt_of_some e1
   have hne:b1≠w.heap.size:=by omega
   refine⟨by simp only[σ',if_neg hne];exact aw _,fun _=>if_neg hne,c1,?_,rfl,fun _ _=>rfl⟩;simp only[w'];rw[cC,if_neg hne];exact e1
  have hn':dR w.drew σ w' σ':=hn
  have hheap:w'.heap[w.heap.size]? =some (.cells (oa++EC++rest) e (0,0)):=by simp[w']
  have hlen':(es++ys).length=es.length+ys.length:=ab;refine⟨_,w',σ',hrun,fun S' β'=> ?_,by simp[w'],rfl,rfl,hn,fun x=> ?_,fun x hx _=> ?_,fun x hx=> ?_,fun h=>absurd h hn0,rfl⟩
  ·refine EB (σ':=σ') (off:=0) hall hlen'.symm BJ hheap (by simp only[σ',if_true]) ?_ (fun j d hj=> ?_) S' β'
   ·refine⟨?_,rfl⟩;simp only[Array.size_append,Ap,ED,hrest,Ao,cT];rw[<-ck,<-ck];exact ce _ (by omega)
   ·rw[cF] at hj;rw[cT];by_cases hjl:j<es.length*size
    ·rw[an (by omega)] at hj;obtain⟨v,hv,hr⟩:=hod j d hj;refine⟨v,?_,hr.mono hn'⟩;rw[dv,cw (by omega)];exact hv
    ·rw[am (by omega),hfl] at hj;obtain⟨v,hv,hr⟩:=Kg _ d hj;have hlt:=(aE.1 hv).1;refine⟨v,?_,hr.mono hn'⟩;rw[dv,ez (by omega),Ap,cw (by omega)];exact hv
  ·simp only[w',σ',eF];by_cases hxb:x=w.heap.size
   ·left;omega
   ·rw[if_neg hxb];exact(hl x).imp (fun h=>by omega) id
  ·have hne:x≠w.heap.size:=by omega
   refine⟨?_,if_neg hne⟩;simp only[w'];rw[cC,if_neg hne]
  ·right;rw[kW,qM] at hx;split at hx
   ·cases hx
   ·cases hx;exact aw _
end
def newObj(s:St)(dst:Option Nat)(o:Obj)(mk:Key->V)(K:St->Prop):Prop:=
 match s.st with
 |own::Ω=>K (St.put ⟨s.tm,(own++[o])::Ω⟩ dst (mk (0,own.length)))
 |[]=>False
def o7(P:Program)(t:TypeId)(s:St)(dst:Option Nat)(K:St->Prop):Prop:=
 match gF P t with
 |some zs=>newObj s dst (.box zs) (fun k=>.c (.ptr k 0)) K
 |none=>False
def wM(v:V)(s:St)(dst:Option Nat)(K:St->Prop):Prop:=
 match qB v with
 |some cs=>newObj s dst (.box cs) (fun k=>.c (.ptr k 0)) K
 |none=>False
def o8(P:Program)(t:TypeId)(a x:V)(s:St)(dst:Option Nat)(K:St->Prop):Prop:=
 match a with
 | .c (.ptr k off)=>
   match aN s.st k,(qB x).bind (·.mapM (C.down k.1)) with
   |some (.box cs),some xs=>xs.length=P.cellsOf t/\off+xs.length<=cs.length/\(P.info? t).isSome=true/\K (St.put ⟨s.tm,aP s.st k (.box (splice cs off xs))⟩ dst (.gq []))
   |_,_=>False
 | .c (.iO k i off)=>
   match aN s.st k,(qB x).bind (·.mapM Hw) with
   |some (.cZ aM es),some ds=>ds.length=P.cellsOf t/\off+ds.length<=aM/\i<es.length/\(P.info? t).isSome=true/\
     K (St.put ⟨s.tm,aP s.st k (.cZ aM (es.set i (ng (es.getD i []) off ds)))⟩ dst (.gq []))
   |_,_=>False
 | .c (.xq k r p z i off)=>
   match aN s.st k,x with
   |some (.xf rs),.c (.d d)=>
    match atR rs r p with
    |some es=>
     match cellAt es i off with
     |some d0=>JQ d0=true/\JQ d=true/\(es.getD i []).length=z/\P.cellsOf t=1/\(P.info? t).isSome=true/\
       K (St.put ⟨s.tm,aP s.st k (.xf (Af rs r p (es.set i ((es.getD i []).set off d))))⟩ dst (.gq []))
     |none=>False
    |none=>False
   |_,_=>False
 |_=>False
def rY(P:Program)(t:TypeId)(l c:V)(s:St)(dst:Option Nat)(K:St->Prop):Prop:=
 match P.underlying t,l,c with
 |some (.slice e),.c (.d (.i _ n)),.c (.d (.i _ m))=>
  match(gF P e).bind (·.mapM Hw) with
  |some zd=>zd.length=P.cellsOf e/\P.bytesOf e<=4096/\0<=n/\n<=1073741824/\n=m/\newObj s dst (.cZ (P.cellsOf e) (List.replicate n.toNat zd)) (fun k=>.c (.eP k)) K
  |none=>False
 |_,_,_=>False
def oz(s:St)(dst:Option Nat)(K:St->Prop):Prop:=newObj s dst (.mp []) (fun k=>.c (.mp k)) K
def Aq(l:List UInt8)(m:List (List UInt8)):List (List UInt8):=if l∈m then m else m++[l]
def oC(P:Program)(t:TypeId)(x k v:V)(s:St)(dst:Option Nat)(K:St->Prop):Prop:=
 match P.underlying t,x,k,v with
 |some (.map kt _),.c (.mp key),.c (.d (.s l)),.c (.d (.b true))=>
  match aN s.st key,P.underlying kt with
  |some (.mp m),some .string=>K (St.put ⟨s.tm,aP s.st key (.mp (Aq l m))⟩ dst (.gq []))
  |_,_=>False
 |_,_,_,_=>False
def Kh(P:Program)(u:TypeId)(v:V):Option (List (List D)):=
 match P.underlying u,v with
 |some (.slice _),.c x=>uO x
 |some .string,.c (.d (.s l))=>some (l.map fun b=>[D.i .u8 b.toNat])
 |_,_=>none
def rZ(S:Store):Bool:=match S with
 |(.xf (_::_)::_)::_=>true
 |_=>false
def vB(b:Bool)(es:List (List D))(s:St)(dst:Option Nat)(z:Nat)(x:List (List D))(K:St->Prop):Prop:=
 match b with
 |false=>newObj s dst (.tok z x) (fun k=>.c (.bM k x)) K
 |true=>es.length<x.length/\newObj s dst (.cZ z x) (fun k=>.c (.eP k)) K
def wN(l:Option Nat)(es:List (List D))(s:St)(dst:Option Nat)(z:Nat)(x:List (List D))(K:St->Prop):Prop:=
 match l with
 |none=>vB (rZ s.st) es s dst z x K
 |some n=>match es with
  |[]=>K (St.put ⟨s.tm,s.st⟩ dst (.c (.d (.ol n x))))
  |_::_=>newObj s dst (.tok z x) (fun k=>.c (.bM k x)) K
def r9:Option Obj->Bool
 |some (.seed (_+1))=>true
 |_=>false
def O9(S:Store):Bool:=r9 (aN S (0,1))
def yg(b:Bool)(n:Nat)(s:St)(dst:Option Nat)(z:Nat)(x:List (List D))(K:St->Prop):Prop:=
 match b with
 |false=>newObj s dst (.gX n z x) (fun k=>.c (.bM k x)) K
 |true=>K (St.put ⟨s.tm,s.st⟩ dst (.c (.d (.ol n x))))
def Linked(S:Store)(j0 off j z:Nat)(es:List (List D))(v:Value):Prop:=
 ∃cs,aN S (0,j0)=some (.box cs)/\cs[off]? =some (.oW (0,j) es.length v)/\aN S (0,j)=some (.tok z es)
def EF(v:Value)(ys:List (List D))(z:Nat)(s:St)(dst:Option Nat)(K:St->Prop):Prop:=
 ∃j0 off j es,Linked s.st j0 off j z es v/\es.length+ys.length<=1073741824/\K (St.put ⟨s.tm,aP s.st (0,j) (.tok z (es++ys))⟩ dst (.c (.bM (0,j) (es++ys))))
theorem Dq{v:Value}{ys:List (List D)}{z:Nat}{s:St}{dst:Option Nat}{K:St->Prop}(j0 off j:Nat)(es:List (List D))(h:Linked s.st j0 off j z es v)(hl:es.length+ys.length<=1073741824)
 (hk:K (St.put ⟨s.tm,aP s.st (0,j) (.tok z (es++ys))⟩ dst (.c (.bM (0,j) (es++ys))))):EF v ys z s dst K:=by unfold EF;exact⟨j0,off,j,es,h,hl,hk⟩
def lC(P:Program)(t u:TypeId)(x y:V)(s:St)(dst:Option Nat)(K:St->Prop):Prop:=
 match P.underlying t,Kh P u y with
 |some (.slice e),some ys=>
  (∀y∈ys,y.length=P.cellsOf e)/\P.bytesOf e<=4096/\(∃zs,gF P e=some zs/\zs.length=P.cellsOf e)/\
  match x with
  | .c (.bM k es)=>
    match aN s.st k with
    |some (.tok aM es')=>aM=P.cellsOf e/\es'=es/\es.length+ys.length<=1073741824/\K (St.put ⟨s.tm,aP s.st k (.tok aM (es++ys))⟩ dst (.c (.bM k (es++ys))))
    |some (.gX n aM es')=>aM=P.cellsOf e/\es'=es/\es.length+ys.length<=1073741824/\K (St.put ⟨s.tm,aP s.st k (.gX n aM (es++ys))⟩ dst (.c (.bM k (es++ys))))
    |_=>False
  | .c (.bF es)=>(∀y∈es,y.length=P.cellsOf e)/\es.length+ys.length<=1073741824/\wN (lI s.st) es s dst (P.cellsOf e) (es++ys) K
  | .c (.kF n es)=>(∀y∈es,y.length=P.cellsOf e)/\es.length+ys.length<=1073741824/\yg (O9 s.st) n s dst (P.cellsOf e) (es++ys) K
  | .c (.d (.o v))=>EF v ys (P.cellsOf e) s dst K
  |_=>False
 |_,_=>False
def Known(P:Program)(f:FuncId):Prop:=∃fn,P.funcs[f]? =some fn/\(fn.name== "runtime.NumGoroutine")=false/\fn.body.isSome=true
def mX(w:World)(σ:Nat->Nat)(S:Store)(β:Hs)(xs:List V)(vs:List Value):Prop:=
 xs.length=vs.length/\∀(j:Nat)(x:V),xs[j]? =some x->∃v:Value,vs[j]? =some v/\cu w σ S β x v
def bK(P:Program)(f:FuncId)(args:List V)(S:Store)(post:V->Store->Prop):Prop:=
 Known P f/\∀w σ β vs,dM w σ S β->mX w σ S β args vs->
  Calls P f vs.toArray w fun e w'=>∃v r S' σ' β',e=.returned v/\dM w' σ' S' β'/\Keep S β S' β'/\Step S β σ w S' β' σ' w'/\cu w' σ' S' β' r v/\post r S'
def aT(P:Program)(f:FuncId)(args:List V)(r:V):Prop:=∀S,bK P f args S fun r' S'=>r'=r/\S'=S
def Pb(P:Program)(f:FuncId)(args:List V)(r:V):Prop:=
 ∃fn e,P.funcs[f]? =some fn/\(fn.name== "runtime.NumGoroutine")=false/\fn.body.isNone=true/\Extern.findNext fn=none/\Extern.find fn=some e/\
  ∀w σ S β vs,dM w σ S β->mX w σ S β args vs->∃v,(e vs.toArray).run P w=.ok v w/\cu w σ S β r v
def uy(P:Program)(f:FuncId)(args:List V)(s:St)(dst:Option Nat)(K:St->Prop):Prop:=
 (∃post,bK P f args s.st post/\∀r S',post r S'->K (St.put ⟨s.tm,S'⟩ dst r))\/(∃r,Pb P f args r/\K (St.put s dst r))
def jy(P:Program)(c:Call)(s:St)(dst:Option Nat)(K:St->Prop):Prop:=
 match c.callee with
 | .value x=>
   match ev s.tm x with
   | .c (.fn f caps)=>uy P f (c.args.toList.map (ev s.tm)++caps.map fun y=>.c (.ptr y.1 y.2)) s dst K
   |_=>False
 | .builtin .append=>
   match c.args.toList,c.argTypes.toList with
   |[x,y],[t,u]=>lC P t u (ev s.tm x) (ev s.tm y) s dst K
   |_,_=>False
 | .builtin .len=>
   match c.args.toList,c.argTypes.toList with
   |[x],[t]=>(yY P s.st t (ev s.tm x)).1/\K (s.put dst (yY P s.st t (ev s.tm x)).2)
   |_,_=>False
 | .builtin .max=>
   match c.args.toList with
   |[x,y]=>(qL true (ev s.tm x) (ev s.tm y)).1/\K (s.put dst (qL true (ev s.tm x) (ev s.tm y)).2)
   |_=>False
 | .builtin .min=>
   match c.args.toList with
   |[x,y]=>(qL false (ev s.tm x) (ev s.tm y)).1/\K (s.put dst (qL false (ev s.tm x) (ev s.tm y)).2)
   |_=>False
 |_=>False
def bO(P:Program)(o:Oper)(s:St)(K:St->Prop):Prop:=
 match o.op with
 | .alloc t=>o7 P t s o.dst K
 | .box _ x=>wM (ev s.tm x) s o.dst K
 | .store t a x=>o8 P t (ev s.tm a) (ev s.tm x) s o.dst K
 | .makeSlice t l c=>rY P t (ev s.tm l) (ev s.tm c) s o.dst K
 | .makeMap _ none=>oz s o.dst K
 | .mapUpdate t m k v=>oC P t (ev s.tm m) (ev s.tm k) (ev s.tm v) s o.dst K
 | .call c=>jy P c s o.dst K
 |op=>(nval P s.st s.tm op).1/\K (s.put o.dst (nval P s.st s.tm op).2)
structure iq(N:Nat)(s:St)(a:Act)(w:World)(σ:Nat->Nat)(β:Hs):Prop where
 size:a.tmps.size=N
 defers:a.defers=[]
 S:dM w σ s.st β
 T:yX w σ s.st β s.tm a
def Then(N:Nat)(S:Store)(β:Hs)(σ:Nat->Nat)(w:World)(K:St->Prop)(a':Act)(w':World):Prop:=
 ∃s' σ' β',iq N s' a' w' σ' β'/\Step S β σ w s'.st β' σ' w'/\Keep S β s'.st β'/\K s'
section
variable {P:Program} {w w':World} {σ σ':Nat->Nat} {S:Store} {β β':Hs} {N:Nat} {s:St} {a:Act}
theorem wB{S':Store}{tm:List (Nat×V)}{dst:Option Nat}{x:V}{v:Value}(hd:∀d,dst=some d->d<N)(hsz:a.tmps.size=N)(hdf:a.defers=[])(hS:dM w' σ' S' β')(hT:yX w' σ' S' β' tm a)(hx:cu w' σ' S' β' x v):
 iq N (St.put ⟨tm,S'⟩ dst x) (a.put dst v) w' σ' β':=by
 cases dst with
 |none=>exact⟨hsz,hdf,hS,hT⟩
 |some d=>
  refine⟨by simp[Act.put,hsz],hdf,hS,fun t=> ?_⟩;show cu w' σ' S' β' (if d=t then x else look tm t) ((a.tmps.setIfInBounds d v).getD t undef)
  have hlt:d<a.tmps.size:=by rw[hsz];exact hd d rfl
  by_cases e:d=t
  ·subst e;rw[if_pos rfl];simp[Array.getD,hlt];exact hx
  ·rw[if_neg e]
   have:(a.tmps.setIfInBounds d v).getD t undef=a.tmps.getD t undef:=by
    simp only[cS];rw[ea e]
   rw[this];exact hT t
theorem mq{o:Oper}{K:St->Prop}{Q:Exit->Act->World->Prop}{x:V}{v:Value}(hd:∀d,o.dst=some d->d<N)(hR:iq N s a w σ β)(hg:Grow w σ w' σ')
 (hx:cu w' σ' s.st β x v)(hrun:(execOp a.eval o).run P w=.ok (.value v) w')(hK:K (s.put o.dst x)):o.wp P a w (Then N s.st β σ w K) Q:=by
 unfold Oper.wp;rw[hrun];show Then N s.st β σ w K (a.put o.dst v) w';have hr:iq N (St.put ⟨s.tm,s.st⟩ o.dst x) (a.put o.dst v) w' σ' β:=wB hd hR.size hR.defers (hR.S.grow hg) (hR.T.mono hg.near (Keep.refl _ _)) hx;refine⟨s.put o.dst x,σ',β,hr,?_,?_,hK⟩
 ·have:(s.put o.dst x).st=s.st:=by cases h:o.dst<;>rfl
  rw[this];exact Step.lu hg
 ·have:(s.put o.dst x).st=s.st:=by cases h:o.dst<;>rfl
  rw[this];exact Keep.refl _ _
theorem iC(dst:Option Nat)(tm:List (Nat×V))(S:Store)(x:V):(St.put ⟨tm,S⟩ dst x).st=S:=by cases dst<;>rfl
theorem iB{o:Oper}{K:St->Prop}{Q:Exit->Act->World->Prop}{S':Store}{x:V}{v:Value}{nx:Next}(hd:∀d,o.dst=some d->d<N)(hR:iq N s a w σ β)(hS:dM w' σ' S' β')(hk:Keep s.st β S' β')
 (hst:Step s.st β σ w S' β' σ' w')(hx:cu w' σ' S' β' x v)(hnx:nx=.value v\/(nx=.skip/\v=undef))(hrun:(execOp a.eval o).run P w=.ok nx w')(hK:K (St.put ⟨s.tm,S'⟩ o.dst x)):
 o.wp P a w (Then N s.st β σ w K) Q:=by
 unfold Oper.wp;rw[hrun];have hr:iq N (St.put ⟨s.tm,S'⟩ o.dst x) (a.put o.dst v) w' σ' β':=wB hd hR.size hR.defers hS (hR.T.mono hst.near hk) hx;have Yl:Then N s.st β σ w K (a.put o.dst v) w':=⟨_,σ',β',hr,by rw[iC];exact hst,by rw[iC];exact hk,hK⟩;rcases hnx with rfl|⟨rfl,rfl⟩
 ·exact Yl
 ·exact Yl
theorem qX:cu w σ S β (.gq []) undef:=⟨#[],rfl,rfl,fun j y h=>by simp at h⟩
theorem EG{o:Oper}{K:St->Prop}{Q:Exit->Act->World->Prop}{cs:List C}{v:Value}{t:TypeId}(hd:∀d,o.dst=some d->d<N)(hR:iq N s a w σ β)
 (hc:dS w σ s.st β cs v.cells.toList)(hrun:∀ad w',(newVar t v).run P w=.ok ad w'->(execOp a.eval o).run P w=.ok (.value (.pointer (some ad))) w')(h:newObj s o.dst (.box cs) (fun k=>.c (.ptr k 0)) K):
 o.wp P a w (Then N s.st β σ w K) Q:=by
 obtain⟨tm,st⟩:=s
 cases st with
 |nil=>exact h.elim
 |cons own Ω=>
  cases β with
  |nil=>have:=hR.S.shape.1;simp at this
  |cons bo bΩ=>
   have hlen:bo.length=own.length:=by
    obtain⟨gr,h1,h2⟩:=hR.S.shape.2 0 own rfl;simp at h1;rw[h1];exact h2
   obtain⟨w',σ',h',Ar,rfl,hS',hk,hst⟩:=YT (P:=P) (t:=t) hR.S hlen hc;exact iB hd hR hS' hk hst (NW hlen) (.inl rfl) (hrun _ _ Ar) h
theorem frames{tm:List (Nat×V)}{own:List Obj}{Ω:Store}(hR:iq N ⟨tm,own::Ω⟩ a w σ β):∃bo bΩ,β=bo::bΩ/\bo.length=own.length:=by
 cases β with
 |nil=>have:=hR.S.shape.1;simp at this
 |cons bo bΩ=>
  refine⟨bo,bΩ,rfl,?_⟩;obtain⟨gr,h1,h2⟩:=hR.S.shape.2 0 own rfl;simp at h1;rw[h1];exact h2
theorem Mw{o:Oper}{K:St->Prop}{Q:Exit->Act->World->Prop}{t:TypeId}{x y:Operand}(ho:o.op=.store t x y)(hd:∀d,o.dst=some d->d<N)(hR:iq N s a w σ β)
 (h:o8 P t (ev s.tm x) (ev s.tm y) s o.dst K):o.wp P a w (Then N s.st β σ w K) Q:=by
 have hx:=gV hR.T x;have hy:=gV hR.T y
 have hrun:∀w',(Instr.storeAt t (a.eval x) (a.eval y)).run P w=.ok () w'->(execOp a.eval o).run P w=.ok .skip w':=by
  intro w' hst;clear h;obtain⟨dst,op,ty,pos,after,guard⟩:=o;simp only at ho;subst ho;simp[execOp,hst]
 unfold o8 at h;split at h
 ·rename_i k off hex;rw[hex] at hx;split at h
  ·rename_i cs xs hk hxs;obtain⟨h1,h2,h3,h4⟩:=h
   cases hcv:qB (ev s.tm y) with
   |none=>rw[hcv] at hxs;cases hxs
   |some ys=>
    rw[hcv] at hxs;obtain⟨w',σ',hh,hrs,hb,hS',hkp,hst⟩:=RS (P:=P) (t:=t) hR.S hx hk (RQ hxs (rV hcv hy)) h1 h2 h3;exact iB hd hR hS' hkp hst qX (.inr ⟨rfl,rfl⟩) (hrun _ hrs) h4
  ·exact h.elim
 ·rename_i k i off hex;rw[hex] at hx;split at h
  ·rename_i aM es ds hk hds;obtain⟨h1,h2,h3,h4,h5⟩:=h
   cases hcv:qB (ev s.tm y) with
   |none=>rw[hcv] at hds;cases hds
   |some ys=>
    rw[hcv] at hds;obtain⟨l1,l2⟩:=Gp hds (rV hcv hy);obtain⟨w',σ',hh,hrs,hb,hS',hkp,hst⟩:=RV (P:=P) (t:=t) hR.S hx hk ⟨by simpa using l1,l2⟩ h1 h2 h3 h4;exact iB hd hR hS' hkp hst qX (.inr ⟨rfl,rfl⟩) (hrun _ hrs) h5
  ·exact h.elim
 ·rename_i k r p z i off hex;rw[hex] at hx;split at h
  ·rename_i rs d hk RZ;rw[RZ] at hy;split at h
   ·rename_i es hes;split at h
    ·rename_i d0 hc;obtain⟨h1,h2,h3,h4,h5,h6⟩:=h
     have hcl:(a.eval y).cells.toList=[a.eval y]:=by
      obtain⟨hy1,_⟩:=hy;generalize a.eval y=yv at hy1
      cases d<;>first|(cases h2;done)|(cases hy1;rfl)
     obtain⟨w',σ',hh,hrs,hb,hS',hkp,hst⟩:=Vb (P:=P) (t:=t) hR.S hx hk hes hc h1 h2 h3 hcl hy.1 h4 h5;exact iB hd hR hS' hkp hst qX (.inr ⟨rfl,rfl⟩) (hrun _ hrs) h6
    ·exact h.elim
   ·exact h.elim
  ·exact h.elim
 ·exact h.elim
theorem Pf{o:Oper}{K:St->Prop}{Q:Exit->Act->World->Prop}{t:TypeId}{x y:Operand}(ho:o.op=.makeSlice t x y)(hd:∀d,o.dst=some d->d<N)(hR:iq N s a w σ β)
 (h:rY P t (ev s.tm x) (ev s.tm y) s o.dst K):o.wp P a w (Then N s.st β σ w K) Q:=by
 have hx:=gV hR.T x;have hy:=gV hR.T y;unfold rY at h;split at h
 ·rename_i e k1 n k2 m ht hex RZ;rw[hex] at hx;rw[RZ] at hy;obtain⟨hx1,_⟩:=hx;obtain⟨hy1,_⟩:=hy;generalize hxe:a.eval x=xv at hx1;generalize hye:a.eval y=yv at hy1;cases hx1;cases hy1;split at h
  ·rename_i zd hzd;obtain⟨h1,hb,h2,h3,h4,h5⟩:=h;subst h4
   cases hzs:gF P e with
   |none=>rw[hzs] at hzd;cases hzd
   |some zs=>
    rw[hzs] at hzd;obtain⟨z,qC,hzc⟩:=oZ (w:=w) (σ:=σ) (S:=s.st) (β:=β) hzs;obtain⟨l1,l2⟩:=Gp hzd hzc
    have hinfo:(P.info? e).isSome=true:=by
     unfold gF at hzs
     cases hi:P.info? e with
     |none=>rw[hi] at hzs;cases hzs
     |some i=>rfl
    obtain⟨info,hi⟩:=dE.1 hinfo
    have hib:info.bytes=P.bytesOf e:=by simp[Program.bytesOf,hi]
    have his:info.size=P.cellsOf e:=by simp[Program.cellsOf,hi]
    have Ao:z.cells.size=P.cellsOf e:=by simp at l1;omega
    obtain⟨nn,rfl⟩:=Int.eq_ofNat_of_zero_le h2
    have hwrap:IntKind.i64.wrap (nn:Int)=(nn:Int):=by
     exact IntWalk.i64_in _ (by omega)
    have hnb:¬(281474976710656<(info.bytes:Int)*nn):=by
     have:info.bytes*nn<=4096*1073741824:=Nat.mul_le_mul (by omega) (by omega)
     have h':((info.bytes*nn:Nat):Int)<=4398046511104:=by omega
     rw[Int.natCast_mul] at h';omega
    have Ym:¬((nn:Int)<0):=by omega
    let zero:Array Value:=if nn*P.cellsOf e=0 then #[] else z.cells
    let row:Array Value:=(Array.range (nn*P.cellsOf e)).map (zero[· % zero.size]!)
    have hrun:(execOp a.eval o).run P w=.ok (.value (.slice (some ⟨w.heap.size,0,none⟩) nn nn)) {w with heap:=w.heap.push (.cells row e)}:=by
     obtain⟨dst,op,ty,pos,after,guard⟩:=o;simp only at ho;subst ho
     have hrow:∀z',z'=zero->(Array.range (nn*P.cellsOf e)).map (z'[· % z'.size]!)=row:=fun z' e=>by rw[e]
     by_cases h0:nn*P.cellsOf e=0
     ·have hz0:zero= #[]:=if_pos h0;have hr:=hrow #[] hz0.symm;simp only[execOp,hxe,hye,Instr.makeSlice,Sem.run_bind,run_underlying ht,Result.andThen_ok,asInt,asIntOf,Sem.run_pure,typeInfo,run_program,hi,hwrap,run_askRoom,sizeOf,his,h0,if_true,cN];simp[hnb,Ym,newRow,<-hr,h0,hi,his]
     ·have hz0:zero=z.cells:=if_neg h0;have hr:=hrow z.cells hz0.symm;have adF:(zeroValue e).run P w=.ok z w:=qC;simp only[execOp,hxe,hye,Instr.makeSlice,Sem.run_bind,run_underlying ht,Result.andThen_ok,asInt,asIntOf,Sem.run_pure,typeInfo,run_program,hi,hwrap,run_askRoom,sizeOf,his,h0,if_false,cN];simp[hnb,Ym,newRow,<-hr,h0,adF,hi,his]
    obtain⟨tm,st⟩:=s
    cases st with
    |nil=>exact h5.elim
    |cons own Ω=>
     obtain⟨bo,bΩ,rfl,hlen⟩:=frames hR;have hg:=vS w σ hR.S.live row e 0
     have hrs:row.size=nn*P.cellsOf e:=by simp[row]
     have ach:(List.replicate nn zd).flatten.length=nn*P.cellsOf e:=by
      rw[iF _ (P.cellsOf e) (fun e he=>by rw[List.eq_of_mem_replicate he];exact h1)];simp
     obtain⟨hS',hk,hst⟩:=hR.S.push (o:=.cZ (P.cellsOf e) (List.replicate nn zd)) (h:=.slice (some ⟨w.heap.size,0,none⟩) nn nn) hg hlen (by
      refine⟨fun e he=>by rw[List.eq_of_mem_replicate he];exact h1,some ⟨w.heap.size,0,none⟩,nn,by simp,by simp,.inr ⟨w.heap.size,row,e,rfl,by simp,by simp,by simp[hrs],fun j d hj=> ?_⟩⟩
      have hjl:j<nn*P.cellsOf e:=by rw[<-ach];exact(ai.1 hj).1
      have hpos:0<P.cellsOf e:=by
       rcases Nat.eq_zero_or_pos (P.cellsOf e) with h|h
       ·rw[h] at hjl;simp at hjl
       ·exact h
      have hz0:zero=z.cells:=if_neg (by omega)
      have hdm:j/P.cellsOf e<(List.replicate nn zd).length:=by
       rw[List.length_replicate];exact(Nat.div_lt_iff_lt_mul hpos).2 hjl
      have hfg:=flat_get (List.replicate nn zd) (P.cellsOf e) (fun e he=>by rw[List.eq_of_mem_replicate he];exact h1) (j/P.cellsOf e) (j % P.cellsOf e) hdm (Nat.mod_lt _ hpos);rw[Nat.mul_comm,Nat.div_add_mod] at hfg;rw[hj,List.getElem_replicate] at hfg;obtain⟨v,hv,hr⟩:=l2 _ d hfg.symm;refine⟨v,?_,hr.mono hg.near⟩
      have hlt:j % P.cellsOf e<z.cells.size:=by rw[Ao];exact Nat.mod_lt _ hpos
      have hv':z.cells[j % P.cellsOf e]? =some v:=by simpa using hv
      simp only[row,Array.getElem?_map,Array.getElem?_range,hjl,if_true,cL,hz0,Ao];rw[getElem!_pos z.cells (j % P.cellsOf e) hlt];rw[cb hlt] at hv'
      exact hv') (fun b hb=>by
       simp only[owns,blk] at hb;split at hb
       ·cases hb
       ·cases hb;exact aw _)
     refine iB (x:=.c (.eP (0,own.length))) hd hR hS' hk hst ⟨⟨_,bL _ _ _,fun aM es e=> ?_⟩,rfl⟩ (.inl rfl) hrun (by rw[cN] at h5;exact h5);rw[<-hlen,bL]
  ·exact h.elim
 ·exact h.elim
theorem Ki{o:Oper}{K:St->Prop}{Q:Exit->Act->World->Prop}{t:TypeId}(ho:o.op=.makeMap t none)(hd:∀d,o.dst=some d->d<N)(hR:iq N s a w σ β)
 (h:oz s o.dst K):o.wp P a w (Then N s.st β σ w K) Q:=by
 obtain⟨tm,st⟩:=s
 cases st with
 |nil=>exact h.elim
 |cons own Ω=>
  obtain⟨bo,bΩ,rfl,hlen⟩:=frames hR
  let w':World:={w with heap:=w.heap.push (.map #[] 0)}
  have hrun:(execOp a.eval o).run P w=.ok (.value (.map (some w.heap.size))) w':=by
   obtain⟨dst,op,ty,pos,after,guard⟩:=o;simp only at ho;subst ho;simp[execOp,Instr.makeMap,newObj,w']
  have hg:Grow w σ w' σ:=⟨by simp[w'],rfl,rfl,fun b hb=>⟨by simp[w',cC,Nat.ne_of_lt hb],rfl⟩,fun b=>by
   rcases hR.S.live b with h|h
   ·exact .inl (by simp[w'];omega)
   ·exact .inr h⟩
  have hs0:σ w.heap.size=0:=by
   rcases hR.S.live w.heap.size with h|h
   ·omega
   ·exact h
  obtain⟨hS',hk,hst⟩:=hR.S.push (o:=.mp []) (h:=.map (some w.heap.size)) hg hlen ⟨w.heap.size,#[],0,rfl,by simp[w'],hs0,rfl⟩ (fun b hb=>by cases hb;exact aw _);refine iB (x:=.c (.mp (0,own.length))) hd hR hS' hk hst ⟨⟨_,bL _ _ _,fun m e=> ?_⟩,rfl⟩ (.inl rfl) hrun h;rw[<-hlen,bL]
theorem Kj{o:Oper}{K:St->Prop}{Q:Exit->Act->World->Prop}{t:TypeId}{x y z:Operand}(ho:o.op=.mapUpdate t x y z)(hd:∀d,o.dst=some d->d<N)(hR:iq N s a w σ β)
 (h:oC P t (ev s.tm x) (ev s.tm y) (ev s.tm z) s o.dst K):o.wp P a w (Then N s.st β σ w K) Q:=by
 have hx:=gV hR.T x;have hy:=gV hR.T y;have hz:=gV hR.T z;unfold oC at h;split at h
 ·rename_i kt et key l ht hex RZ hez;rw[hex] at hx;rw[RZ] at hy;rw[hez] at hz;split at h
  ·rename_i m hk hkt;obtain⟨⟨o',ho',h2⟩,_⟩:=hx;rw[hk] at ho';cases ho';have hh:=h2 m rfl;obtain⟨hv,hh',hr⟩:=hR.S.obj key _ hk;rw[hh] at hh';cases hh';generalize hxe:a.eval x=xv at hh hr;generalize hye:a.eval y=yv at hy;generalize hze:a.eval z=zv at hz;obtain⟨b,es,clock,rfl,hb,hσ,hes⟩:=hr;obtain⟨hy1,_⟩:=hy;cases hy1;obtain⟨hz1,_⟩:=hz;cases hz1;obtain⟨hks,hvs,hmem⟩:=NT hes;have hkey:MapKept.IsKey .string (.string ⟨l.toArray⟩):=trivial
   have main:∃es' clock',(Instr.mapUpdate t (.map (some b)) (.string ⟨l.toArray⟩) (.bool true)).run P w=.ok () {w with heap:=w.heap.setIfInBounds b (.map es' clock')}/\
    es'.toList.map (fun e=>(e.key,e.val))=(Aq l m).map (fun l=>(Value.string ⟨l.toArray⟩,Value.bool true)):=by
    rcases MapKept.findNow_spec hkey es.toList 0 hks with⟨h1,h3⟩|⟨j,e0,h1,h3,h4⟩
    ·have hn:l∉m:=fun hl=>by
      obtain⟨e,he,hke⟩:=(hmem l).1 hl;exact h3 e he hke
     refine⟨es.push ⟨.string ⟨l.toArray⟩,.bool true,clock⟩,clock+1,?_,?_⟩
     ·simp[Instr.mapUpdate,run_underlying ht,MapKept.run_getObj_map hb,MapKept.run_checkKey hkt hkey,MapKept.run_findKey hkt h1,MapKept.run_setObj_map _ hb,Result.andThen]
     ·rw[Aq,if_neg hn,Array.toList_push,bc,bc,hes];rfl
    ·have hj:es[j]? =some e0:=by simpa using h3
     have he0:e0∈es.toList:=cq h3;have hy:l∈m:=(hmem l).2 ⟨e0,he0,h4⟩;refine⟨es.modify j (fun e'=>{e' with key:=.string ⟨l.toArray⟩,val:=.bool true}),clock,?_,?_⟩
     ·simp[Instr.mapUpdate,run_underlying ht,MapKept.run_getObj_map hb,MapKept.run_checkKey hkt hkey,MapKept.run_findKey hkt h1,hj,h4,MapKept.run_keyThatStays hkey,MapKept.run_setObj_map _ hb,Result.andThen]
     ·rw[Aq,if_pos hy,<-hes];refine cy fun i=> ?_;simp only[aV,bw,Array.getElem?_modify];by_cases e:j=i
      ·subst e;rw[if_pos rfl,hj];simp only[cL,cX,Prod.mk.injEq];exact⟨h4.symm,(hvs e0 he0).symm⟩
      ·rw[if_neg e]
   obtain⟨es',clock',hrun,hes'⟩:=main;have hlt:b<w.heap.size:=lt_of_some hb
   have hne:∀b',b'≠b->(w.heap.setIfInBounds b (.map es' clock'))[b']? =w.heap[b']? :=fun b' hb'=>by simp[Ne.symm hb']
   have hn:dR w σ {w with heap:=w.heap.setIfInBounds b (.map es' clock')} σ:=by
    intro b1 c1 t1 CK e1;refine⟨aw _,fun _=>rfl,c1,?_,rfl,fun _ _=>rfl⟩;by_cases hb1:b1=b
    ·subst hb1;rw[hb] at e1;cases e1
    ·exact(hne b1 hb1).trans e1
   obtain⟨hS',hkp,hst⟩:=hR.S.set (w':={w with heap:=w.heap.setIfInBounds b (.map es' clock')}) (σ':=σ) (o':=.mp (Aq l m)) (h':=.map (some b)) hk hh (by simp) rfl rfl hn (fun x=>by simpa using hR.S.live x)
    (fun b1 hb1 hbk=>⟨hne b1 (fun e=>hbk (by rw[e];rfl)),rfl⟩) (.inr ⟨⟨_,rfl⟩,rfl⟩) ⟨b,es',clock',rfl,by simp[hlt],hσ,hes'⟩ (fun b1 e=>.inl e)
   refine iB hd hR hS' hkp hst qX (.inr ⟨rfl,rfl⟩) ?_ h;obtain⟨dst,op,ty,pos,after,guard⟩:=o;simp only at ho;subst ho;simp[execOp,hxe,hye,hze,hrun]
  ·exact h.elim
 ·exact h.elim
end
section
variable {P:Program} {w w':World} {σ σ':Nat->Nat} {S:Store} {β β':Hs} {N:Nat} {s:St} {a:Act}
theorem Kk{u:TypeId}{x:V}{ys:List (List D)}{v:Value}{size:Nat}(h:Kh P u x=some ys)(hx:cu w σ S β x v)(hsz:∀y∈ys,y.length=size):EA P u/\uR P w σ size ys v:=by
 unfold Kh at h;split at h
 ·rename_i e x hu;exact⟨.inl ⟨e,hu⟩,Am (rU h hx.1) hsz⟩
 ·rename_i l hu;cases h;obtain⟨hx1,_⟩:=hx;cases hx1;refine⟨.inr hu,?_⟩
  cases l with
  |nil=>
   intro w' e;obtain⟨h1,h2,ar,h3,h4,h5⟩:=Ez (P:=P) (w:=w') (σ:=σ) [];have hb:(⟨[].toArray⟩:ByteArray)=⟨#[]⟩:=rfl;refine⟨h1,fun y hy=>by simp at hy,#[],?_,by simp,fun j d hj=>by simp at hj⟩;simp[Builtin.firstCells]
  |cons b l=>
   have:size=1:=by have:=hsz [D.i .u8 b.toNat] (by simp);simpa using this.symm
   subst this;exact I9 (b::l)
 ·cases h
theorem Kl{m z:Nat}{x:List (List D)}{r:Value}{w:World}{σ:Nat->Nat}{S:Store}{β:Hs}(Km:eT w σ S β (gH (some m) z x) r)(hlive:∀b,b<w.heap.size\/σ b=0):
 ∃σ2,dw w σ2 (.ol m x) r/\(∀b,σ2 b=σ b\/owns (gH (some m) z x) r b)/\∀b,b<w.heap.size\/σ2 b=0:=by
 obtain⟨h1,hle,ad,cap,rfl,hcap,hcase⟩:=Km;rcases hcase with⟨h4,h5⟩|⟨h4,b,off,c,t,rfl,hbc,hσ,hfit⟩
 ·exact⟨σ,h5,fun _=>.inl rfl,hlive⟩
 ·have hm:x.length*z<=cap*z:=ce _ hcap
  have hn:dR w σ w (fun y=>if y=b then c.size+1+m else σ y):=by
   intro b1 c1 t1 CK e1;by_cases e:b1=b
   ·subst e;rw[hbc] at e1;cases e1;exact⟨by simp only[if_true];omega,fun h=>by omega,c,hbc,rfl,fun _ _=>rfl⟩
   ·exact⟨by simp only[if_neg e];exact aw _,fun _=>if_neg e,c1,e1,rfl,fun _ _=>rfl⟩
  refine⟨fun y=>if y=b then c.size+1+m else σ y,?_,fun y=> ?_,fun y=> ?_⟩
  ·have hfl:=iF x z hle
   have hcells:∀(i:Nat)(d:D),x.flatten[i]? =some d->∃v,c[off+i]? =some v/\dw w σ d v:=fun i d hd=>by
    cases h1 with
    |nil=>simp at hd
    |sl b' off' cap' qw es vals c' t' Kc q1 q2 q3 q4 q5 q6=>
     rw[hbc] at q3;cases q3;have hil:=(ai.1 hd).1;rw[hfl] at hil
     have he:qw=z:=by
      cases x with
      |nil=>simp at hil
      |cons y ys=>rw[<-q2 y (by simp),hle y (by simp)]
     subst he;exact⟨_,q5 i hil,q6 i d hd⟩
   refine .ol m b off cap z x (fun i=>(c[off+i]?).getD undef) c t hcap hle hbc (by simp) (by omega) (fun i hi=> ?_) (fun i d hd=> ?_) ⟨by omega,by omega⟩
   ·obtain⟨v,hv,_⟩:=hcells i _ (ag (by omega));simp[hv]
   ·obtain⟨v,hv,hr⟩:=hcells i d hd;simp only[hv,dn];exact hr.mono hn
  ·by_cases e:y=b
   ·subst e;right;rw[kW,qM,if_neg (by omega)]
   ·left;exact if_neg e
  ·by_cases e:y=b
   ·left;subst e;exact lt_of_some hbc
   ·simp only[if_neg e];exact hlive y
theorem Kn{t u ty e:TypeId}{sv:Value}{size:Nat}{es ys:List (List D)}{yv:Value}(hl:∀b,b<w.heap.size\/σ b=0)
 (ht:P.underlying t=some (.slice e))(hu:EA P u)(hz:∃zs,gF P e=some zs/\zs.length=size)(hsize:P.cellsOf e=size)(hb:P.bytesOf e<=4096)
 (hsd:dw w σ (.sl es) sv)(hle:∀e∈es,e.length=size)(hfull:∃ad n,sv=.slice ad n n)(hy:uR P w σ size ys yv)(hne:es.length<(es++ys).length)(hlen:es.length+ys.length<=1073741824):
 ∃r w',(Builtin.append_ #[t,u] ty #[sv,yv]).run P w=.ok r w'/\(∀S' β',eT w' σ S' β' (.cZ size (es++ys)) r)/\Grow w σ w' σ/\(∀b,owns (.cZ size (es++ys)) r b->w.heap.size<=b)/\r.oneCell'=true:=by
 obtain⟨zs,hzs,hzl⟩:=hz;obtain⟨z,qC,hzc⟩:=oZ (w:=w) (σ:=σ) (S:=[]) (β:=[]) hzs
 have Ao:z.cells.size=size:=by have:=hzc.1;simp at this;omega
 have hex:∃info,P.info? e=some info/\info.zero=some z:=by
  unfold gF at hzs
  cases hi:P.info? e with
  |none=>rw[hi] at hzs;cases hzs
  |some i=>
   refine⟨i,rfl,?_⟩
   cases hz:i.zero with
   |none=>rw[hi] at hzs;simp[hz] at hzs
   |some z'=>
    have:(zeroValue e).run P w=.ok z' w:=by simp[zeroValue,typeInfo,hi,hz]
    rw[qC] at this;cases this;rfl
 obtain⟨info,hi,hiz⟩:=hex
 have hib:info.bytes=P.bytesOf e:=by simp[Program.bytesOf,hi]
 have his:info.size=size:=by rw[<-hsize];simp[Program.cellsOf,hi]
 have hlen':(es++ys).length=es.length+ys.length:=ab;obtain⟨base,sCap,rfl⟩:=hfull
 have hn:sCap=es.length:=by cases hsd<;>rfl
 subst hn;obtain⟨hyl,hys,_⟩:=hy w rfl;have hall:∀x∈es++ys,x.length=size:=fun x hx=>(cR.1 hx).elim (hle x) (hys x);have hfl:es.flatten.length=es.length*size:=iF es size hle;have hfy:ys.flatten.length=ys.length*size:=iF ys size hys;obtain⟨aaA,_,EC,Ke,ED,Kg⟩:=hy w.drew rfl;obtain⟨_,_,oa,hor,Ap,hod⟩:=Aj (P:=P) (hsd.mono (dR.drew w σ)) hle;obtain⟨cap,rest,BJ,hrest,hrun⟩:=wL (P:=P) (ty:=ty) (base:=base) (sCap:=es.length) ht hu hi hiz hyl (by rw[his];exact Ke) (by rw[his];exact hor) (by omega) hlen (by rw[hib];exact hb)
 let w':World:={w.drew with heap:=w.heap.push (.cells (oa++EC++rest) e)}
 have hn:dR w σ w' σ:=by
  intro b1 c1 t1 CK e1
  have hne:b1≠w.heap.size:=by have:=lt_of_some e1;omega
  refine⟨aw _,fun _=>rfl,c1,?_,rfl,fun _ _=>rfl⟩;simp only[w'];rw[cC,if_neg hne];exact e1
 have hn':dR w.drew σ w' σ:=hn
 have hheap:w'.heap[w.heap.size]? =some (.cells (oa++EC++rest) e (0,0)):=by simp[w']
 have Yn:σ w.heap.size=0:=by
  rcases hl w.heap.size with h|h
  ·omega
  ·exact h
 refine⟨_,w',hrun,fun S' β'=>⟨hall,_,cap,by rw[hlen'],by omega,.inr ⟨w.heap.size,_,e,rfl,hheap,Yn,?_,fun j d hj=> ?_⟩⟩,⟨by simp[w'],rfl,rfl,fun x hx=> ?_,fun x=> ?_⟩,fun x hx=> ?_,rfl⟩
 ·simp only[Array.size_append,Ap,ED,hrest,Ao];rw[<-ck,<-ck];exact ce _ (by omega)
 ·rw[cF] at hj;by_cases hjl:j<es.length*size
  ·rw[an (by omega)] at hj;obtain⟨v,hv,hr⟩:=hod j d hj;refine⟨v,?_,hr.mono hn'⟩;rw[dv,cw (by omega)];exact hv
  ·rw[am (by omega),hfl] at hj;obtain⟨v,hv,hr⟩:=Kg _ d hj;have hlt:=(aE.1 hv).1;refine⟨v,?_,hr.mono hn'⟩;rw[dv,ez (by omega),Ap,cw (by omega)];exact hv
 ·have hne:x≠w.heap.size:=by omega
  simp only[w'];rw[cC,if_neg hne];exact⟨rfl,trivial⟩
 ·simp only[w',eF];exact(hl x).imp (fun h=>by omega) id
 ·simp only[owns,blk] at hx;split at hx
  ·cases hx
  ·cases hx;exact aw _
theorem Ko{o:Oper}{K:St->Prop}{Q:Exit->Act->World->Prop}{t u:TypeId}{x y:Operand}{c:Call}(ho:o.op=.call c)(hc:c.callee=.builtin .append)(hca:c.args.toList=[x,y])
 (hct:c.argTypes.toList=[t,u])(hd:∀d,o.dst=some d->d<N)(hR:iq N s a w σ β)(h:lC P t u (ev s.tm x) (ev s.tm y) s o.dst K):o.wp P a w (Then N s.st β σ w K) Q:=by
 have hx:=gV hR.T x;have hy:=gV hR.T y
 have hrun:∀r w',(Builtin.append_ #[t,u] o.type #[a.eval x,a.eval y]).run P w=.ok r w'->(execOp a.eval o).run P w=.ok (.value r) w':=by
  intro r w' hr;clear h;obtain⟨dst,op,ty,pos,after,guard⟩:=o;simp only at ho;subst ho;obtain⟨uS,args,sj⟩:=c;simp only at hc hca hct;subst hc
  obtain rfl:args= #[x,y]:=by rw[<-bt (xs:=args),hca]
  obtain rfl:sj= #[t,u]:=by rw[<-bt (xs:=sj),hct]
  simp only at hr;simp[execOp,resolve,invoke,builtin,hr]
 have grown:∀(lab:Option Nat)(k:Key)(e:TypeId)(es ys:List (List D)),P.underlying t=some (.slice e)->EA P u->uR P w σ (P.cellsOf e) ys (a.eval y)->P.bytesOf e<=4096->(∃zs,gF P e=some zs/\zs.length=P.cellsOf e)->
  cu w σ s.st β (.c (.bM k es)) (a.eval x)->aN s.st k=some (gH lab (P.cellsOf e) es)->es.length+ys.length<=1073741824->K (St.put ⟨s.tm,aP s.st k (gH lab (P.cellsOf e) (es++ys))⟩ o.dst (.c (.bM k (es++ys))))->
  o.wp P a w (Then N s.st β σ w K) Q:=by
  intro lab k e es ys ht hu hsa h2 h3 hx hk h5 h6;obtain⟨⟨hd1,o1,ho1,Pg⟩,hone⟩:=hx;rw[hk] at ho1;cases ho1;obtain⟨_,hl2⟩:=Pg _ _ O8;have hβ:=hl2 rfl;obtain⟨hh,hb,qx⟩:=hR.S.obj k _ hk;rw[hβ] at hb;cases hb
  have uw:eT w σ s.st β (gH lab (P.cellsOf e) es) (a.eval x):=by cases lab<;>exact qx
  obtain⟨r,w',σ',hr,hro,hsz,hos,hout,hn,hl,rW,hbk,hzero,h1c⟩:=rX (P:=P) (ty:=o.type) hR.S.live ht hu h3 rfl h2 uw hsa h5;have hlen:(es++ys).length=es.length+ys.length:=ab
  obtain⟨hS',hkp,hst⟩:=hR.S.set hk hβ hsz hos hout hn hl rW
   (RX (by omega) (fun e=>by rw[hzero (by omega)])) (hro _ _) hbk
  refine iB (x:=.c (.bM k (es++ys))) (v:=r) hd hR hS' hkp hst ⟨⟨(vT (hro s.st β)).1,_,bP _ _ _ _ hk,fun a b e=> ?_⟩,h1c⟩ (.inl rfl) (hrun _ _ hr) h6;obtain⟨_,rfl⟩:=jP e;exact⟨aw _,fun _=>bP _ _ _ _ hβ⟩
 have fresh:∀(lab:Option Nat)(e:TypeId)(es ys:List (List D)),P.underlying t=some (.slice e)->EA P u->uR P w σ (P.cellsOf e) ys (a.eval y)->P.bytesOf e<=4096->(∃zs,gF P e=some zs/\zs.length=P.cellsOf e)->
  eT w σ s.st β (gH lab (P.cellsOf e) es) (a.eval x)->(∃ad n,a.eval x=.slice ad n n)->es.length+ys.length<=1073741824->newObj s o.dst (gH lab (P.cellsOf e) (es++ys)) (fun k=>.c (.bM k (es++ys))) K->
  o.wp P a w (Then N s.st β σ w K) Q:=by
  intro lab e es ys ht hu hsa h2 h3 uw hv h6 h7;obtain⟨ad,n,hv⟩:=hv
  have hbk0:blk (gH lab (P.cellsOf e) es) (a.eval x)=none:=by
   obtain⟨hd1,_⟩:=vT uw;rw[hv] at hd1 ⊢
   have hn:n=es.length:=by cases hd1<;>rfl
   subst hn
   cases ad with
   |none=>cases lab<;>rfl
   |some ad=>rw[qM,if_pos rfl]
  obtain⟨r,w',σ',hr,hro,hsz,hos,hout,hn,hl,rW,hbk,hzero,h1c⟩:=rX (P:=P) (ty:=o.type) hR.S.live ht hu h3 rfl h2 uw hsa h6;have hg:Grow w σ w' σ':=⟨hsz,hos,hout,fun b hb=>rW b hb (by rw[kW,hbk0];simp),hl⟩;obtain⟨tm,st⟩:=s
  cases st with
  |nil=>exact h7.elim
  |cons own Ω=>
   obtain⟨bo,bΩ,rfl,hlen⟩:=frames hR
   obtain⟨hS',hkp,hst⟩:=hR.S.push (o:=gH lab (P.cellsOf e) (es++ys)) (h:=r) hg hlen (hro _ _) (fun b hb=>by
    rcases hbk b hb with h|h
    ·rw[kW,hbk0] at h;cases h
    ·exact h)
   refine iB (x:=.c (.bM (0,own.length) (es++ys))) (v:=r) hd hR hS' hkp hst ⟨⟨(vT (hro [] [])).1,_,bL _ _ _,fun a b e=> ?_⟩,h1c⟩ (.inl rfl) (hrun _ _ hr) h7;obtain⟨_,rfl⟩:=jP e;exact⟨aw _,fun _=>by rw[<-hlen,bL]⟩
 have link:∀(j0 off j z:Nat)(es:List (List D))(v u:Value),Linked s.st j0 off j z es v->cu w σ s.st β (.c (.d (.o v))) u->cu w σ s.st β (.c (.bM (0,j) es)) u:=by
  rintro j0 off j z es v u ⟨cs,k1,k2,k3⟩ hv;obtain⟨hv1,hv2⟩:=hv;cases hv1;obtain⟨h0,hb0,b,c,ty,rfl,hc,hσ,hcs⟩:=hR.S.obj _ _ k1;obtain⟨y,hy,⟨⟨e1,_⟩,o,ho,hl⟩,_⟩:=hcs.2 off _ k2;have ho:aN s.st (0,j)=some o:=ho;rw[k3] at ho;cases ho;have hβ:aN β (0,j)=some y:=(hl _ _ (.inl rfl)).2 rfl;rw[<-e1] at hβ;obtain⟨hh,hb,qx⟩:=hR.S.obj _ _ k3;rw[hβ] at hb;cases hb
  exact⟨⟨qx.1,_,k3,fun aM es' e=>by
   rcases e with e|⟨_,e⟩<;>cases e
   exact⟨aw _,fun _=>hβ⟩⟩,hv2⟩
 unfold lC at h;split at h
 ·rename_i e ys ht hsrc;obtain⟨h1,h2,h3,h4⟩:=h;obtain⟨hu,hsa⟩:=Kk hsrc hy h1;split at h4
  ·rename_i k es hex;rw[hex] at hx;split at h4
   ·rename_i aM es' hk;obtain⟨rfl,rfl,h5,h6⟩:=h4;exact grown none k e es' ys ht hu hsa h2 h3 hx hk h5 h6
   ·rename_i n aM es' hk;obtain⟨rfl,rfl,h5,h6⟩:=h4;exact grown (some n) k e es' ys ht hu hsa h2 h3 hx hk h5 h6
   ·exact h4.elim
  ·rename_i es hex;rw[hex] at hx;obtain⟨h5,h6,h7⟩:=h4;obtain⟨⟨hd1,ad,n,hv⟩,hone⟩:=hx
   have hn:n=es.length:=by rw[hv] at hd1;cases hd1<;>rfl
   have hplain:eT w σ s.st β (gH none (P.cellsOf e) es) (a.eval x):=⟨hd1,h5,ad,n,by rw[hv,hn],by omega,.inl hn⟩
   cases hl:lI s.st with
   |none=>
    rw[hl] at h7;have h7:vB (rZ s.st) es s o.dst (P.cellsOf e) (es++ys) K:=h7
    cases hra:rZ s.st with
    |false=>rw[hra] at h7;exact fresh none e es ys ht hu hsa h2 h3 hplain ⟨ad,n,hv⟩ h6 h7
    |true=>
     rw[hra] at h7;obtain⟨h8,h9⟩:=h7;obtain⟨r,w',hr,hro,hg,hbk,h1c⟩:=Kn (P:=P) (ty:=o.type) hR.S.live ht hu h3 rfl h2 hd1 h5 ⟨ad,n,hv⟩ hsa h8 h6;obtain⟨tm,st⟩:=s
     cases st with
     |nil=>exact h9.elim
     |cons own Ω=>
      obtain⟨bo,bΩ,rfl,hlen⟩:=frames hR;obtain⟨hS',hkp,hst⟩:=hR.S.push (o:=.cZ (P.cellsOf e) (es++ys)) (h:=r) hg hlen (hro _ _) hbk;refine iB (x:=.c (.eP (0,own.length))) (v:=r) hd hR hS' hkp hst ⟨⟨_,bL _ _ _,fun a b e=> ?_⟩,h1c⟩ (.inl rfl) (hrun _ _ hr) h9;rw[<-hlen,bL]
   |some m=>
    rw[hl] at h7
    cases es with
    |nil=>
     have uw:eT w σ s.st β (gH (some m) (P.cellsOf e) []) (a.eval x):=⟨hd1,h5,ad,n,by rw[hv,hn],by omega,.inl ⟨hn,by rw[hv,hn];exact .wF _ _ _⟩⟩
     have hbk0:blk (gH (some m) (P.cellsOf e) []) (a.eval x)=none:=by
      rw[hv,hn]
      cases ad with
      |none=>rfl
      |some ad=>rw[qM,if_pos rfl]
     obtain⟨r,w',σ',hr,hro,hsz,hos,hout,aci,hlv,rW,hbk,hzero,h1c⟩:=rX (P:=P) (ty:=o.type) hR.S.live ht hu h3 rfl h2 uw hsa h6;obtain⟨σ2,k1,k2,k3⟩:=Kl (hro s.st β) hlv
     have hg:Grow w σ w' σ2:=⟨hsz,hos,hout,fun b hb=>by
      obtain⟨f1,f2⟩:=rW b hb (by rw[kW,hbk0];simp);refine⟨f1,?_⟩;rcases k2 b with k|k
      ·rw[k,f2]
      ·rcases hbk b k with h|h
       ·rw[kW,hbk0] at h;cases h
       ·omega,k3⟩
     exact mq (x:=.c (.d (.ol m ([]++ys)))) hd hR hg ⟨k1,h1c⟩ (hrun _ _ hr) h7
    |cons y es=>exact fresh none e (y::es) ys ht hu hsa h2 h3 hplain ⟨ad,n,hv⟩ h6 h7
  ·rename_i m es hex;rw[hex] at hx;obtain⟨h5,h6,h7⟩:=h4;obtain⟨⟨hd1,ad,n,hv⟩,hone⟩:=hx;have hd2:=Ah hd1
   have hn:n=es.length:=by rw[hv] at hd2;cases hd2<;>rfl
   have uw:eT w σ s.st β (gH (some m) (P.cellsOf e) es) (a.eval x):=⟨hd2,h5,ad,n,by rw[hv,hn],by omega,.inl ⟨hn,hd1⟩⟩
   cases hs:O9 s.st with
   |false=>
    rw[hs] at h7;exact fresh (some m) e es ys ht hu hsa h2 h3 uw ⟨ad,n,hv⟩ h6 h7
   |true=>
    rw[hs] at h7
    have hbk0:blk (gH (some m) (P.cellsOf e) es) (a.eval x)=none:=by
     rw[hv,hn]
     cases ad with
     |none=>rfl
     |some ad=>rw[qM,if_pos rfl]
    obtain⟨r,w',σ',hr,hro,hsz,hos,hout,aci,hlv,rW,hbk,hzero,h1c⟩:=rX (P:=P) (ty:=o.type) hR.S.live ht hu h3 rfl h2 uw hsa h6;obtain⟨σ2,k1,k2,k3⟩:=Kl (hro s.st β) hlv
    have hg:Grow w σ w' σ2:=⟨hsz,hos,hout,fun b hb=>by
     obtain⟨f1,f2⟩:=rW b hb (by rw[kW,hbk0];simp);refine⟨f1,?_⟩;rcases k2 b with k|k
     ·rw[k,f2]
     ·rcases hbk b k with h|h
      ·rw[kW,hbk0] at h;cases h
      ·omega,k3⟩
    exact mq (x:=.c (.d (.ol m (es++ys)))) hd hR hg ⟨k1,h1c⟩ (hrun _ _ hr) h7
  ·rename_i v hex;rw[hex] at hx;obtain⟨j0,off,j,es,hlk,h5,h6⟩:=h4;have adG:=hlk;obtain⟨_,_,_,hk3⟩:=adG;exact grown none (0,j) e es ys ht hu hsa h2 h3 (link _ _ _ _ _ _ _ hlk hx) hk3 h5 h6
  ·exact h4.elim
 ·exact h.elim
theorem R3{l:List Operand}(hR:iq N s a w σ β):mX w σ s.st β (l.map (ev s.tm)) (l.map a.eval):=
 ⟨by simp,fun j x hx=>by
   rw[aV] at hx ⊢
   cases hl:l[j]? with
   |none=>rw[hl] at hx;cases hx
   |some y=>rw[hl] at hx;cases hx;exact⟨_,rfl,gV hR.T y⟩⟩
theorem mX.append{xs ys:List V}{vs us:List Value}(h:mX w σ S β xs vs)(k:mX w σ S β ys us):mX w σ S β (xs++ys) (vs++us):=by
 refine⟨by simp[h.1,k.1],fun j x hx=> ?_⟩;by_cases hj:j<xs.length
 ·rw[an hj] at hx;rw[an (by rw[<-h.1];exact hj)];exact h.2 j x hx
 ·rw[am (by omega)] at hx;rw[am (by rw[<-h.1];omega),<-h.1];exact k.2 _ x hx
theorem EH{o:Oper}{K:St->Prop}{Q:Exit->Act->World->Prop}{c:Call}(ho:o.op=.call c)(hd:∀d,o.dst=some d->d<N)(hR:iq N s a w σ β)(h:jy P c s o.dst K):
 o.wp P a w (Then N s.st β σ w K) Q:=by
 unfold jy at h;split at h
 ·rename_i x hcx;split at h
  ·rename_i f caps hex;have hx:=gV hR.T x;rw[hex] at hx;obtain⟨⟨vs,hv,hvl,acj⟩,_⟩:=hx
   have hargs:mX w σ s.st β (c.args.toList.map (ev s.tm)++caps.map fun y=>V.c (.ptr y.1 y.2)) (c.args.toList.map a.eval++vs.toList):=by
    refine(R3 hR).append ⟨by simp[hvl],fun j z hz=> ?_⟩;rw[aV] at hz
    cases hcj:caps[j]? with
    |none=>rw[hcj] at hz;cases hz
    |some y=>
     rw[hcj] at hz;cases hz;obtain⟨k,off⟩:=y;obtain⟨u,hu,h1c,o1,ho1,h2⟩:=acj j k off hcj;exact⟨u,by simpa using hu,⟨o1,ho1,h2⟩,h1c⟩
   have harr:(c.args.toList.map a.eval++vs.toList).toArray=c.args.map a.eval++vs:=by
    apply Array.ext';simp
   rcases h with⟨post,⟨⟨fn,hf,hnm,hbd⟩,hcall⟩,hK⟩|⟨r,⟨fn,e,hf,hnm,hbd,hfn,hfe,hrun⟩,hK⟩
   ·have hcl:=hcall w σ β _ hR.S hargs
    have hrun:(execOp a.eval o).run P w=.ok (.enter f (c.args.toList.map a.eval++vs.toList).toArray) w:=by
     clear hK hcl hcall hargs;obtain⟨dst,op,ty,pos,after,guard⟩:=o;simp only at ho;subst ho;obtain⟨uS,args,sj⟩:=c;simp only at hcx;subst hcx
     have hbn:fn.body.isNone=false:=by cases hb:fn.body<;>simp_all
     simp only at harr;simp only[execOp,Sem.run_bind,resolve,hv,Deferred.ofValue,Sem.run_pure,Result.andThen_ok,invoke,callFunc,run_program,hf,hnm,hbn,harr]
     simp
    unfold Oper.wp;rw[hrun];refine Calls.mono hcl fun e w' he=> ?_;obtain⟨v,r,S',σ',β',rfl,hS',hkp,hst,hr,hpost⟩:=he;show Then N s.st β σ w K (a.put o.dst v) w';exact⟨_,σ',β',wB hd hR.size hR.defers hS' (hR.T.mono hst.near hkp) hr,by rw[iC];exact hst,by rw[iC];exact hkp,hK r S' hpost⟩
   ·obtain⟨v,Yo,hrep⟩:=hrun w σ s.st β _ hR.S hargs;refine mq hd hR (Grow.refl hR.S.live) hrep ?_ hK;have h1:=run_callFunc_extern (P:=P) hf hnm hbd hfn hfe (c.args.toList.map a.eval++vs.toList).toArray w;rw[Yo,harr] at h1;clear hK hargs Yo;obtain⟨dst,op,ty,pos,after,guard⟩:=o;simp only at ho;subst ho;obtain⟨uS,args,sj⟩:=c;simp only at hcx;subst hcx;simp only[execOp,Sem.run_bind,resolve,hv,Deferred.ofValue,Sem.run_pure,Result.andThen_ok,invoke];simpa using h1
  ·exact h.elim
 ·rename_i hcb;split at h
  ·rename_i x y t u hca hct;exact Ko ho hcb hca hct hd hR h
  ·exact h.elim
 ·rename_i hcb;split at h
  ·rename_i x t hca hct;obtain⟨h1,h2⟩:=h;obtain⟨v,w',σ',hrun,hg,hv⟩:=J3 (P:=P) (t:=t) (ty:=o.type) hR.S (gV hR.T x) h1;refine mq hd hR hg hv ?_ h2;obtain⟨dst,op,ty,pos,after,guard⟩:=o;simp only at ho;subst ho;obtain⟨uS,args,sj⟩:=c;simp only at hcb hca hct;subst hcb
   obtain rfl:args= #[x]:=by rw[<-bt (xs:=args),hca]
   obtain rfl:sj= #[t]:=by rw[<-bt (xs:=sj),hct]
   simp only at hrun;simp[execOp,resolve,invoke,builtin,hrun]
  ·exact h.elim
 ·rename_i hcb;split at h
  ·rename_i x y hca;obtain⟨h1,h2⟩:=h;obtain⟨v,w',σ',hrun,hg,hv⟩:=JZ (P:=P) (ts:=c.argTypes) (ty:=o.type) hR.S (gV hR.T x) (gV hR.T y) h1;refine mq hd hR hg hv ?_ h2;obtain⟨dst,op,ty,pos,after,guard⟩:=o;simp only at ho;subst ho;obtain⟨uS,args,sj⟩:=c;simp only at hcb hca;subst hcb
   obtain rfl:args= #[x,y]:=by rw[<-bt (xs:=args),hca]
   simp only at hrun;simp[execOp,resolve,invoke,builtin,hrun]
  ·exact h.elim
 ·rename_i hcb;split at h
  ·rename_i x y hca;obtain⟨h1,h2⟩:=h;obtain⟨v,w',σ',hrun,hg,hv⟩:=J2 (P:=P) (ts:=c.argTypes) (ty:=o.type) hR.S (gV hR.T x) (gV hR.T y) h1;refine mq hd hR hg hv ?_ h2;obtain⟨dst,op,ty,pos,after,guard⟩:=o;simp only at ho;subst ho;obtain⟨uS,args,sj⟩:=c;simp only at hcb hca;subst hcb
   obtain rfl:args= #[x,y]:=by rw[<-bt (xs:=args),hca]
   simp only at hrun;simp[execOp,resolve,invoke,builtin,hrun]
  ·exact h.elim
 ·exact h.elim
end
end Go.Ab