/-
  SEVERAL TEXTS IN ONE (merged by program): contracts and models, each with its own heading.
-/
import Derived.Test.YtlaaknnkeidlbaaGreatDoorPartDmbE
import Derived.Test.YtlaaknnkeidlbaaGreatDoorPartDmbG
import Derived.Test.YtlaaknnkeidlbaaGreatDoorPartDmbJ
import Derived.Test.YtlaaknnkeidlbaaGreatDoorPartDmbK
import Derived.Test.YtlaaknnkeidlbaaGreatDoorPartDmbM
import Derived.Lib.ItoaNum
import Derived.Shelf.LaysM
import Derived.Shelf.Strconv.Itoa3
import Derived.Test.YtlaaknnkeidlbaaGreatDoorProg
import Derived.Lib.AppendZeros
import Derived.Laws.Cover3
set_option maxHeartbeats 8000000
open Go.Proofs Go.Proofs.Tryz
set_option linter.unusedSimpArgs false
set_option linter.unusedVariables false
set_option maxRecDepth 4000
namespace Go.Ab
section
variable {P:Program} {N:Nat} {S:Store} {s:St} {tm:List (Nat×V)}
end
theorem ab7{P:Program}{N:Nat}(n:Nat){f:FuncId}{fn:Func}{c:Code}{args:List V}{bV:List Obj}{Ω:Store}{post:V->Store->Prop}{rs:List ResultVar}(gI:P.follows .mixedOrders=true)(hf:P.funcs[f]? =some fn)(hN:fn.ntmps=N)
 (hb:fn.body=some c) (hn:(fn.name== "runtime.NumGoroutine")=false) (hr:fn.results.toList=rs) (hl:Nat.ble args.length N=true) (hok:codeOk N c=true)
 (h:CW P N c (Wl P rs post) ⟨mO (args.map (V.up 1)) 0,[.seed n]::bV::Ω⟩):bX P f args (bV::Ω) post:=by
 subst hN;subst hr;exact Sy hf hb hn (Nat.le_of_ble_eq_true hl) (Q6 n (kE gI c _ _ hok h))
theorem WQ{P:Program}{N:Nat}{c:Code}{Q:Exit->St->Prop}{tm:List (Nat×V)}{Ω:Store}(n k:Nat)(h:AW P N c Q ⟨tm,[.seed n,.seed k]::Ω⟩):AW P N c Q ⟨tm,[]::Ω⟩:=by
 refine Q6 n (lU h fun a w σ β hR=> ?_);obtain⟨bo,bΩ,rfl,hlen⟩:=frames hR;obtain⟨hS',hk,hst⟩:=hR.S.push (o:=.seed k) (h:=undef) (Grow.refl hR.S.live) hlen trivial (fun b hb=>by cases hb);exact⟨σ,_,⟨hR.size,hR.defers,hS',fun u=>(hR.T u).mono (eu.refl _ _) hk⟩,hst,Keep.refl _ _⟩
section
variable {P:Program} {N:Nat} {S:Store}
theorem qR(n k:Nat){f:FuncId}{fn:Func}{c:Code}{args:List V}{post:V->Store->Prop}{rs:List ResultVar}(gI:P.follows .mixedOrders=true)(hf:P.funcs[f]? =some fn)(hN:fn.ntmps=N)
 (hb:fn.body=some c) (hn:(fn.name== "runtime.NumGoroutine")=false) (hr:fn.results.toList=rs) (hl:Nat.ble args.length N=true) (hok:codeOk N c=true)
 (h:CW P N c (WM P n rs post) ⟨mO (args.map (V.up 1)) 0,[.seed n,.seed k]::S⟩):bX P f args S post:=by
 subst hN;subst hr;exact tK hf hb hn (Nat.le_of_ble_eq_true hl) (WQ n k (yA (EF n) (kE gI c _ _ hok h)))
end
def anQ(n:Nat)(out:List UInt8):List UInt8:=if h:n=0 then out else anQ (n/10) (UInt8.ofNat (48+n % 10)::out)
termination_by n
decreasing_by omega
def ap6(k:Int):List UInt8:=if k<=0 then [109,48] else 109::anQ k.toNat []
mutual
def mcD:D->Nat
 | .sl es=>Ru es
 | .b _=>1
 | .i _ _=>1
 | .s _=>1
 | .o _=>0
 | .ol _ _=>0
def mcR:List D->Nat
 |[]=>0
 |d::ds=>mcD d+mcR ds
def Ru:List (List D)->Nat
 |[]=>0
 |r::rs=>mcR r+Ru rs
end
mutual
def mkD:D->Int->D
 | .sl es,k=>.sl (ab8 es k)
 | .b _,k=>.b (decide (k.tmod 3=0))
 | .i kd _,k=>.i kd k
 | .s _,k=>.s (ap6 k)
 | .o v,_=>.o v
 | .ol n es,_=>.ol n es
def mkR:List D->Int->List D
 |[],_=>[]
 |d::ds,k=>mkD d k::mkR ds (k+mcD d)
def ab8:List (List D)->Int->List (List D)
 |[],_=>[]
 |r::rs,k=>mkR r k::ab8 rs (k+mcR r)
end
mutual
def nwD:D->Bool
 | .sl es=>anS es
 | .b _=>true
 | .i _ _=>true
 | .s _=>true
 | .o _=>true
 | .ol _ _=>true
def nwR:List D->Bool
 |[]=>true
 |d::ds=>nwD d&&nwR ds
def anS:List (List D)->Bool
 |[]=>true
 |r::rs=>decide (r.length<=32)&&nwR r&&anS rs
end
abbrev atp(P:Program)(f:FuncId)(es:List (List D)):Prop:=∀(k:Int)(l j r:Nat)(p:List (Nat×Nat))(S:Store)(rs:List (List (List D))),bE S (l,j)=some (.xf rs)->atR rs r p=some es->0<=k/\k+Ru es<=4611686018427387904->
 bX P f [.c (.xp (l,j) r p),.c (.d (.i .i64 k))] S (fun res S'=>res=.c (.d (.i .i64 (k+Ru es)))/\S'=bG S (l,j) (.xf (JF rs r p (ab8 es k))))
abbrev atq(P:Program)(f:FuncId)(es:List (List D)):Prop:=∀(k:Int)(l j r:Nat)(p:List (Nat×Nat))(S:Store)(rs:List (List (List D))),bE S (l,j)=some (.xf rs)->atR rs r p=some (ab8 es k)->0<=k/\k+Ru es<=4611686018427387904->
 bX P f [.c (.xp (l,j) r p),.c (.d (.i .i64 k))] S (fun res S'=>res=.c (.d (.i .i64 (k+Ru es)))/\S'=S)
section
variable {P:Program} {N:Nat} {c:Code} {Q:Exit->St->Prop} {s:St} {S:Store} {l j r n:Nat} {p:List (Nat×Nat)} {rs:List (List (List D))} {rows:List (List D)} {k:Int}
abbrev atr(l j r:Nat)(p:List (Nat×Nat))(k:Int)(i:Nat):List V:=[.c (.xp (1+l,j) r p),.c (.d (.i .i64 k)),.c (.d (.i .i64 i))]
end
theorem vC:∀(xs:List (List UInt8))(n:Nat),eZ (xs.map encS) n=xs.map encS
 |[],_=>rfl
 |x::xs,n=>by rw[List.map_cons,eZ,vC xs];rfl
def lx(l:List ah)(n:Nat):List (List D):=eZ (l.map ah.enc) n
def dU(x:ah):Nat:=F6 x.enc
def iL(l:List ah):Nat:=lI (l.map ah.enc)
theorem jF(x:ah)(n:Nat):fV x.enc n=[.s x.aQ,.ol n (lx x.aj (n+1))]:=by
 rw[ah.aJ];simp only[fV,vB,vw,Nat.add_zero,lx]
theorem xg(s:List UInt8)(n:Nat):fV (bN s).enc n=[.s s,.ol n []]:=by rw[jF];rfl
theorem alK(x:ah):dU x=iL x.aj+1:=by
 unfold dU iL;rw[ah.aJ];simp only[F6,vw];omega
theorem jT(s:List UInt8):dU (bN s)=1:=by rw[alK];rfl
theorem nk(n:Nat):lx [] n=[]:=rfl
theorem jG(x:ah)(l:List ah)(n:Nat):lx (x::l) n=fV x.enc n::lx l (n+dU x):=rfl
theorem lu(a b:List ah)(n:Nat):lx (a++b) n=lx a n++lx b (n+iL a):=by unfold lx iL;rw[List.map_append,pJ]
theorem aff:iL []=0:=rfl
theorem ab9(x:ah)(l:List ah):iL (x::l)=dU x+iL l:=rfl
theorem gG(l:List ah)(n:Nat):(lx l n).length=l.length:=by unfold lx;rw[lg,List.length_map]
theorem ku{l:List ah}{n:Nat}:∀r∈lx l n,r.length=2:=xO fun r hr=>by
 obtain⟨z,_,rfl⟩:=List.mem_map.1 hr;exact z.eB
theorem Rv{l:List ah}{i:Nat}(hi:i<l.length)(n:Nat):lx (l.take i) n++[fV l[i].enc (n+iL (l.take i))]=lx (l.take (i+1)) n:=by
 rw[List.take_succ_eq_append_getElem hi,lu];rfl
theorem AR{l:List ah}{i:Nat}(hi:i<l.length)(n:Nat):lx (l.take i) n++[[.s l[i].aQ,.ol (n+iL (l.take i)) (lx l[i].aj (n+iL (l.take i)+1))]]=lx (l.take (i+1)) n:=by
 rw[<-Rv hi,jF]
theorem AU{base l:List ah}{i:Nat}(hi:i<l.length)(q:Nat):lx (base++l.take i) q++[[.s l[i].aQ,.ol (q+iL (base++l.take i)) (lx l[i].aj (q+iL (base++l.take i)+1))]]=lx (base++l.take (i+1)) q:=by
 rw[List.take_succ_eq_append_getElem hi,<-List.append_assoc,lu (base++l.take i),jG,nk,jF]
theorem gV{l:List ah}:∀r∈l.map ah.enc,r.length=2:=fun r hr=>by
 obtain⟨z,_,rfl⟩:=List.mem_map.1 hr;exact z.eB
theorem F7{cs cs':List C}(hl:cs'.length=cs.length)(h:∀(j:Nat)(x y:C),cs[j]? =some x->cs'[j]? =some y->∀w σ S β v,iG w σ S β x v->iG w σ S β y v):Less (.agg cs) (.agg cs'):=by
 rintro w σ S β v ⟨a,ha,hc⟩;refine⟨a,ha,hl.trans hc.1,fun j y hy=> ?_⟩
 have hj:j<cs.length:=by rw[<-hl];exact(List.getElem?_eq_some_iff.1 hy).1
 obtain⟨v,h1,h2,h3⟩:=hc.2 j _ (List.getElem?_eq_getElem hj);exact⟨v,h1,h j _ y (List.getElem?_eq_getElem hj) hy w σ S β v h2,h3⟩
theorem anT{w:World}{σ:Nat->Nat}{S:Store}{β:Hs}{v:Value}(n:Nat)(h:iG w σ S β (.bF []) v):iG w σ S β (.d (.ol n [])) v:=by
 obtain⟨hd,ad,m,hval⟩:=h
 have hm:m=0:=by rw[hval] at hd;cases hd<;>rfl
 subst hm;rw[hval];exact .yJ _ _ _
theorem LP(s:List UInt8)(n:Nat):Less (.agg [.d (.s s),.bF []]) (.agg [.d (.s s),.d (.ol n [])]):=F7 rfl fun j x y hx hy w σ S β v hv=>by
 match j,hx,hy with
 |0,hx,hy=>cases hx;cases hy;exact hv
 |1,hx,hy=>cases hx;cases hy;exact anT _ hv
 |j+2,hx,hy=>simp at hx
theorem alL(s:List UInt8)(n:Nat)(es:List (List D)):Less (.agg [.d (.s s),.lG n es]) (.agg [.d (.s s),.d (.ol n es)]):=F7 rfl fun j x y hx hy w σ S β v hv=>by
 match j,hx,hy with
 |0,hx,hy=>cases hx;cases hy;exact hv
 |1,hx,hy=>cases hx;cases hy;exact hv.1
 |j+2,hx,hy=>simp at hx
theorem Y0(s:List UInt8):aF prog 98 [.c (.d (.s s))] (.agg [.d (.s s),.bF []]):=fun S=>by
 refine zcx [.cell 2 37] func98 ntmps98 ?_;exact Z1
theorem dx(s:List UInt8)(n:Nat):aF prog 98 [.c (.d (.s s))] (.agg [.d (.s s),.d (.ol n [])]):=aF.less (Y0 s) (LP s n)
theorem kP(d:D):aF prog 101 [.c (.d d)] (.agg [.d (.s []),.d d]):=fun S=>by
 refine zcx [.cell 2 37] func101 ntmps101 ?_;exact Z1
theorem Y1(n:Nat)(es:List (List D)):aF prog 101 [.c (.lG n es)] (.agg [.d (.s []),.lG n es]):=fun S=>by
 refine zcx [.cell 2 37] func101 ntmps101 ?_;exact Z1
theorem nM(n:Nat)(es:List (List D)):aF prog 101 [.c (.lG n es)] (.agg [.d (.s []),.d (.ol n es)]):=aF.less (Y1 n es) (alL [] n es)
theorem jV(l j:Nat)(es:List (List D))(S:Store):bX prog 101 [.c (.bI (l,j) es)] S (fun r S'=>r=.agg [.d (.s []),.bI (l,j) es]/\S'=S):=by
 refine zcx [.cell 2 37] func101 ntmps101 ?_;exact Z1
theorem CB(xs:List (List UInt8))(hx:xs.length<=1073741824)(n q:Nat):aF prog 100 [.c (.d (.sl (xs.map encS)))] (.c (.d (.ol n (lx (aO xs) q)))):=fun S=>by
 refine lq (n) (rs:=[.tmp 2]) zmx func100 ntmps100 rfl rfl rfl rfl rfl ?_;refine W1 ?_;refine W3 ?_;refine kR n 3 2 [] (.inl rfl) (by simp) ?_
 refine aZ (ι:=Nat) zmx rfl [3,7,8,9] (fun i=>[.c (.bI (0,1) (lx ((aO xs).take i) q)),.c (.d (.sl (xs.map encS))),.c (.d (.i .i64 xs.length)),.c (.d (.i .i64 i))]) (fun i=>[.seed n,.eG n 2 (lx ((aO xs).take i) q)]::S)
  (fun i=>i<=xs.length) (fun i=>xs.length-i) 0 rfl rfl (Nat.zero_le _) ?_
 intro i hi;refine W1 ?_;refine S0 (fun hb h=>?_) fun hb h=>?_
 ·have hi':i<xs.length:=by omega
  have hw:i<(aO xs).length:=by rw[jr];exact hi'
  have hg:(aO xs)[i]=bN xs[i]:=by simp[aO]
  have hl:(lx ((aO xs).take i) q).length<=i:=by rw[gG];exact List.length_take_le _ _
  refine W3 ?_;refine C1 (dx xs[i] (q+iL ((aO xs).take i))) ?_;refine W3 ?_;have hs:=Rv hw q;rw[hg,xg] at hs;rw[hs];exact dB (i+1) (by omega) rfl rfl (by omega)
 ·have hi':i=(aO xs).length:=by rw[jr];omega
  rw[hi',List.take_length]
theorem eD(xs:List (List UInt8))(hx:xs.length<=1073741824)(n:Nat):aF prog 124 [.c (.d (.sl (xs.map encS)))] (.agg [.d (.s []),.d (.ol n (lx (aO xs) (n+1)))]):=fun S=>by
 refine zcx [.cell 2 37] func124 ntmps124 ?_;refine W1 ?_;refine C1 (CB xs hx n (n+1)) ?_;exact C3 (kP _)
theorem IK:∀N:Nat,(∀x:ak,SizeOf.sizeOf x<N->∀n:Nat,formed x=true->x.sz<=4194304->aF prog 103 [x.v] (.agg [.d (.s (dn x).aQ),.d (.ol n (lx (dn x).aj (n+1)))]))/\
 (∀xs:List ak,SizeOf.sizeOf xs<N->∀n q:Nat,iZ xs=true->xs.length<=4194304->(∀t∈xs,t.sz<=4194304)->aF prog 192 [.c (.d (.sl (xs.map ak.enc)))] (.c (.d (.ol n (lx (xs.map dn) q)))))
 |0=>⟨fun x h=>by omega,fun x h=>by omega⟩
 |N+1=>by
  obtain⟨ih,uM⟩:=IK N;refine⟨fun x hn n hf hsz=> ?_,fun xs hn n q hf hlen hsz=> ?_⟩
  ·have kV:=ak.iY x;have hts:=FC hsz;have hx:=ae7 x;rw[zi,Bool.and_eq_true] at hf;have hfi:=gJ hf.1
   have hall:∀t∈x.fArgs,t.sz<=4194304:=fun t ht=>by
    obtain⟨i,hi,e⟩:=List.getElem_of_mem ht;rw[<-e];exact(wV hi hsz).1
   intro S;refine qR (n) 1 (rs:=[.cell 2 37]) zmx func103 ntmps103 rfl rfl rfl rfl rfl ?_;refine W1 ?_;refine S0 (fun hb h=>?_) fun hb h=>?_
   ·rw[if_pos h] at hx;rw[hx];refine W3 ?_;refine C1 (dx _ n) ?_;rfl
   have k1:=h;rw[if_neg h] at hx;refine S0 (fun hb h=>?_) fun hb h=>?_
   ·rw[if_pos h] at hx;rw[hx];refine C1 (dx _ (n+1)) ?_;refine C1 (dx _ (n+1+1)) ?_;refine C1 (nM _ _) ?_;rfl
   have k4:=h;rw[if_neg h] at hx;refine S0 (fun hb h=>?_) fun hb h=>?_
   ·have hlen:x.fArgs.length=1:=by omega
    obtain⟨a,ha⟩:=List.length_eq_one_iff.1 hlen
    have ha0:x.fArgs[0]'(by omega)=a:=by simp[ha]
    rw[if_neg (by omega),if_pos h,ha] at hx;have hfa:formed a=true:=yC.1 hf.2 a (by rw[ha];simp);have hsa:a.sz<=4194304:=hall a (by rw[ha];simp)
    have hla:SizeOf.sizeOf a<N:=by
     have:=List.sizeOf_lt_of_mem (show a∈x.fArgs by rw[ha];simp);omega
    rw[hx];refine C1 (dx _ (n+1)) ?_;refine bD (dx _ (n+1+1)) ?_;simp -implicitDefEqProofs (disch:=omega) only[go_sem,ha,List.getD_cons_zero];refine W3 ?_;refine C1 (ih a hla (n+1+1+1) hfa hsa) ?_;refine C1 (nM _ _) ?_;simp only[dZ,dw,List.cons_append,List.nil_append,List.map_cons,List.map_nil,jG,nk,xg,jT,jF,kM,kN,jf]
   have k3:=h;refine S0 (fun hb h=>?_) fun hb h=>?_
   ·rw[if_pos ⟨by omega,by omega⟩] at hx;rw[hx];refine C1 (dx _ n) ?_;rfl
   rw[if_neg (by omega),if_neg k3] at hx;rw[hx];refine C1 (dx _ (n+1)) ?_;refine C1 (uM x.fArgs (by omega) 0 (n+1+1) hf.2 hts.1 hall) ?_
   have hl:(lx (x.fArgs.map dn) (n+1+1)).length=x.fArgs.length:=by rw[gG,List.length_map]
   have hr:=ku (l:=x.fArgs.map dn) (n:=n+1+1);refine W3 ?_;refine C1 (kP _) ?_;simp only[dZ,dw,List.cons_append,List.nil_append,jG,nk,xg,jT]
  ·have PY:=fun(i:Nat) (hi:i<xs.length)=>AR (l:=xs.map dn) (i:=i) (by rw[List.length_map];exact hi) q;intro S;refine lq (n) (rs:=[.tmp 2]) zmx func192 ntmps192 rfl rfl rfl rfl rfl ?_;refine W1 ?_;refine W3 ?_;refine kR n 3 2 [] (.inl rfl) (by simp) ?_
   refine aZ (ι:=Nat) zmx rfl [3,7,8,9] (fun i=>[.c (.bI (0,1) (lx ((xs.map dn).take i) q)),.c (.d (.sl (xs.map ak.enc))),.c (.d (.i .i64 xs.length)),.c (.d (.i .i64 i))]) (fun i=>[.seed n,.eG n 2 (lx ((xs.map dn).take i) q)]::S)
    (fun i=>i<=xs.length) (fun i=>xs.length-i) 0 rfl rfl (Nat.zero_le _) ?_
   intro i hi;refine W1 ?_;refine S0 (fun hb h=>?_) fun hb h=>?_
   ·have hi':i<xs.length:=by omega
    have hs:=PY i hi';rw[List.getElem_map] at hs
    have hl:(lx ((xs.map dn).take i) q).length<=i:=by rw[gG];exact List.length_take_le _ _
    refine W3 ?_;refine C1 (ih xs[i] (by have:=List.sizeOf_lt_of_mem (List.getElem_mem hi');omega) (q+iL ((xs.map dn).take i)) (yC.1 hf _ (List.getElem_mem hi')) (hsz _ (List.getElem_mem hi'))) ?_;refine W3 ?_;rw[hs];exact bT 2 (by decide) (i+1) (by omega) rfl rfl rfl rfl (by omega)
   ·have hi':i=(xs.map dn).length:=by rw[List.length_map];omega
    rw[hi',List.take_length]
theorem lJ(x:ak)(n:Nat)(hf:formed x=true)(hsz:x.sz<=4194304):aF prog 103 [x.v] (.agg [.d (.s (dn x).aQ),.d (.ol n (lx (dn x).aj (n+1)))]):=(IK _).1 x (Nat.lt_succ_self _) n hf hsz
theorem Bw(xs:List ak)(n q:Nat)(hf:iZ xs=true)(hlen:xs.length<=4194304)(hsz:∀t∈xs,t.sz<=4194304):aF prog 192 [.c (.d (.sl (xs.map ak.enc)))] (.c (.d (.ol n (lx (xs.map dn) q)))):=(IK _).2 xs (Nat.lt_succ_self _) n q hf hlen hsz
theorem fC(s:List UInt8):(bN s).enc=[.s s,.sl []]:=by rw[ah.aJ];rfl
theorem jC(l:List ah):(bH l).enc=[.s [],.sl (l.map ah.enc)]:=by rw[ah.aJ];rfl
theorem jc{base l:List ah}{i:Nat}(hi:i<l.length):(base++l.take i).map ah.enc++[[.s l[i].aQ,.sl (l[i].aj.map ah.enc)]]=(base++l.take (i+1)).map ah.enc:=by
 rw[List.take_succ_eq_append_getElem hi,<-List.append_assoc,List.map_append (l₂:=[l[i]]),List.map_cons,List.map_nil,ah.aJ]
theorem AV(s:List UInt8)(es:List (List D)):Less (.agg [.d (.s s),.bF es]) (.agg [.d (.s s),.d (.sl es)]):=F7 rfl fun j x y hx hy w σ S β v hv=>by
 match j,hx,hy with
 |0,hx,hy=>cases hx;cases hy;exact hv
 |1,hx,hy=>cases hx;cases hy;exact hv.1
 |j+2,hx,hy=>simp at hx
theorem zm(x:ah)(n:Nat):Less (.agg [.d (.s x.aQ),.d (.ol n (lx x.aj (n+1)))]) x.v:=by
 have h:=IJ (r:=x.enc) (n:=n);rw[jF,ah.Na] at h;exact h
theorem WR(s:List UInt8):aF prog 83 [.c (.d (.s s))] (.agg [.d (.s s),.bF []]):=fun S=>by
 refine zcx [.cell 2 37] func83 ntmps83 ?_;exact Z1
theorem bS(s:List UInt8):aF prog 83 [.c (.d (.s s))] (.agg [.d (.s s),.d (.sl [])]):=aF.less (WR s) (AV s [])
theorem nI(es:List (List D))(hes:∀e∈es,e.length=2)(hl:es.length<=1073741824):aF prog 84 [.c (.d (.sl es))] (.agg [.d (.s []),.d (.sl es)]):=fun S=>by
 refine zcx [.cell 2 37] func84 ntmps84 ?_;refine W1 ?_;exact⟨hes,⟨_,rfl,rfl⟩,(fun y hy=>by cases hy),hl⟩
theorem jN(es:List (List D))(hes:∀e∈es,e.length=2)(hl:es.length<=1073741824)(bV:List Ab.Obj)(Ω:Store):bX prog 84 [.c (.d (.sl es))] (bV::Ω)
 (fun r S'=>r=.agg [.d (.s []),.bI (0,bV.length+1) es]/\S'=(bV++[.box [.d (.s []),.bI (0,bV.length+1) es],.tok 2 es])::Ω):=by
 refine J6 (rs:=[.cell 2 37]) zmx func84 ntmps84 rfl rfl rfl rfl rfl ?_;refine W1 ?_;exact⟨hes,⟨_,rfl,rfl⟩,(fun y hy=>by cases hy),hl⟩
theorem Kr(xs:List (List UInt8))(hx:xs.length<=1073741824):aF prog 117 [.c (.d (.sl (xs.map encS)))] (.c (.d (.sl ((aO xs).map ah.enc)))):=fun S=>by
 refine zcx [.tmp 2] func117 ntmps117 ?_;refine W1 ?_;refine W3 ?_;refine qG 3 2 [] rfl (by simp) ?_
 refine aZ (ι:=Nat) zmx rfl [0,3,4] (fun i=>[.c (.d (.sl (xs.map encS))),.c (.bI (0,0) (((aO xs).take i).map ah.enc)),.c (.d (.i .i64 i))]) (fun i=>[.tok 2 (((aO xs).take i).map ah.enc)]::S)
  (fun i=>i<=xs.length) (fun i=>xs.length-i) 0 rfl rfl (Nat.zero_le _) ?_
 intro i hi
 have hl:(((aO xs).take i).map ah.enc).length<=i:=by rw[List.length_map];exact List.length_take_le _ _
 refine W1 ?_;refine S0 (fun hb h=>?_) fun hb h=>?_
 ·have hi':i<xs.length:=by omega
  have hs:=jc (base:=[]) (l:=aO xs) (i:=i) (by rw[jr];exact hi')
  have hg:(aO xs)[i]'(by rw[jr];exact hi')=bN xs[i]:=by simp[aO]
  rw[hg] at hs;simp only[List.nil_append,kM,kN,List.map_nil] at hs;refine W3 ?_;refine C1 (bS xs[i]) ?_;refine W3 ?_;rw[hs];exact dB (i+1) (by omega) rfl rfl (by omega)
 ·have hi':i=(aO xs).length:=by rw[jr];omega
  rw[hi',List.take_length]
theorem dY(xs:List (List UInt8))(hx:xs.length<=1073741824):aF prog 129 [.c (.d (.sl (xs.map encS)))] (.agg [.d (.s []),.d (.sl ((aO xs).map ah.enc))]):=fun S=>by
 refine zcx [.cell 2 37] func129 ntmps129 ?_;refine W1 ?_;exact C3 (Kr xs hx)
theorem PZ:∀N:Nat,(∀x:ak,SizeOf.sizeOf x<N->x.sz<=4194304->aF prog 116 [x.v] (.agg [.d (.s (dn x).aQ),.d (.sl ((dn x).aj.map ah.enc))]))
 |0=>fun x h=>by omega
 |N+1=>by
  have ih:=PZ N;intro x hn hsz;have kV:=ak.iY x;have hts:=FC hsz;have hx:=ae7 x
  have hall:∀t∈x.fArgs,t.sz<=4194304:=fun t ht=>by
   obtain⟨i,hi,e⟩:=List.getElem_of_mem ht;rw[<-e];exact(wV hi hsz).1
  intro S;refine zcx [.cell 2 37] func116 ntmps116 ?_;refine W1 ?_;refine S0 (fun hb h=>?_) fun hb h=>?_
  ·rw[if_pos h] at hx;rw[hx];refine W3 ?_;refine C1 (bS _) ?_;rfl
  rw[if_neg h] at hx;refine S0 (fun hb h=>?_) fun hb h=>?_
  ·rw[if_pos h] at hx;rw[hx];refine C1 (bS _) ?_;refine C1 (bS _) ?_;refine C1 (nI _ (by simp) (by simp)) ?_;simp only[dZ,dw,List.map_cons,List.map_nil,fC,II]
  rw[if_neg h] at hx
  have asa:x.aM=2->x.fArgs.length=0->dn x=bN x.fName:=fun a b=>by rw[hx,if_pos ⟨a,b⟩]
  have aiF:¬(x.aM=2/\x.fArgs.length=0)->dn x=bH ((if x.aM=3 then [bN jf] else [])++[bN x.fName]++x.fArgs.map dn):=fun a=>by rw[hx,if_neg a]
  clear hx
  repeat' (first|(refine S0 (fun hb h=>?_) fun hb h=>?_))
  ·rw[asa (by omega) (by omega)];refine C1 (bS _) ?_;rfl
  ·exfalso;omega
  ·have hx:=aiF (by omega);rw[if_neg h,List.nil_append] at hx;refine C1 (bS _) ?_;refine W3 ?_
   refine aZ (ι:=Nat) zmx rfl [1,2,3,4] (fun i=>[.c (.ptr (0,0) 0),.c (.ptr (0,1) 0),.c (.ptr (0,2) 0),.c (.d (.i .i64 i))])
    (fun i=>[.box [.d (.i .i64 x.aM),.d (.s x.fName),.d (.sl (x.fArgs.map ak.enc))],.box [.d (.s []),.bF []],.box [.d (.s []),.bI (0,3) (([bN x.fName]++(x.fArgs.map dn).take i).map ah.enc)],.tok 2 (([bN x.fName]++(x.fArgs.map dn).take i).map ah.enc)]::S)
    (fun i=>i<=x.fArgs.length) (fun i=>x.fArgs.length-i) 0 rfl ?_ (Nat.zero_le _) ?_
   ·simp only[List.take_zero,List.append_nil,List.map_cons,List.map_nil,List.cons_append,List.nil_append,fC]<;>(try rfl)
   intro i hi
   have hl:(([bN x.fName]++(x.fArgs.map dn).take i).map ah.enc).length<=i+2:=by
    rw[List.length_map,List.length_append];have:=List.length_take_le i (x.fArgs.map dn);simp only[List.length_cons,List.length_nil];omega
   have hs:=fun hi=>jc (base:=[bN x.fName]) (l:=x.fArgs.map dn) (i:=i) hi;have hrw:=gV (l:=[bN x.fName]++(x.fArgs.map dn).take i);generalize hR:([bN x.fName]++(x.fArgs.map dn).take i).map ah.enc=R at hl hs hrw;refine W1 ?_;refine S0 (fun hb h=>?_) fun hb h=>?_
   ·have hi':i<x.fArgs.length:=by omega
    have hs':=hs (by rw[List.length_map];exact hi');rw[List.getElem_map] at hs';refine W3 ?_;refine C1 (ih x.fArgs[i] (by have:=List.sizeOf_lt_of_mem (List.getElem_mem hi');omega) (hall _ (List.getElem_mem hi'))) ?_;refine W3 ?_;rw[hs'];exact dB (i+1) (by omega) rfl rfl (by omega)
   ·have hi':i=(x.fArgs.map dn).length:=by rw[List.length_map];omega
    rw[hx,<-hR,hi',List.take_length];simp only[dZ,dw,List.cons_append,List.nil_append]
  ·have hx:=aiF (by omega);rw[if_pos h] at hx;refine C1 (bS _) ?_;refine W3 ?_;refine C1 (bS _) ?_;refine W3 ?_
   refine aZ (ι:=Nat) zmx rfl [1,2,3,4] (fun i=>[.c (.ptr (0,0) 0),.c (.ptr (0,1) 0),.c (.ptr (0,2) 0),.c (.d (.i .i64 i))])
    (fun i=>[.box [.d (.i .i64 x.aM),.d (.s x.fName),.d (.sl (x.fArgs.map ak.enc))],.box [.d (.s []),.bF []],.box [.d (.s []),.bI (0,3) (([bN jf,bN x.fName]++(x.fArgs.map dn).take i).map ah.enc)],.tok 2 (([bN jf,bN x.fName]++(x.fArgs.map dn).take i).map ah.enc)]::S)
    (fun i=>i<=x.fArgs.length) (fun i=>x.fArgs.length-i) 0 rfl ?_ (Nat.zero_le _) ?_
   ·simp only[List.take_zero,List.append_nil,List.map_cons,List.map_nil,List.cons_append,List.nil_append,fC]<;>(try rfl)
   intro i hi
   have hl:(([bN jf,bN x.fName]++(x.fArgs.map dn).take i).map ah.enc).length<=i+2:=by
    rw[List.length_map,List.length_append];have:=List.length_take_le i (x.fArgs.map dn);simp only[List.length_cons,List.length_nil];omega
   have hs:=fun hi=>jc (base:=[bN jf,bN x.fName]) (l:=x.fArgs.map dn) (i:=i) hi;have hrw:=gV (l:=[bN jf,bN x.fName]++(x.fArgs.map dn).take i);generalize hR:([bN jf,bN x.fName]++(x.fArgs.map dn).take i).map ah.enc=R at hl hs hrw;refine W1 ?_;refine S0 (fun hb h=>?_) fun hb h=>?_
   ·have hi':i<x.fArgs.length:=by omega
    have hs':=hs (by rw[List.length_map];exact hi');rw[List.getElem_map] at hs';refine W3 ?_;refine C1 (ih x.fArgs[i] (by have:=List.sizeOf_lt_of_mem (List.getElem_mem hi');omega) (hall _ (List.getElem_mem hi'))) ?_;refine W3 ?_;rw[hs'];exact dB (i+1) (by omega) rfl rfl (by omega)
   ·have hi':i=(x.fArgs.map dn).length:=by rw[List.length_map];omega
    rw[hx,<-hR,hi',List.take_length];simp only[dZ,dw,List.cons_append,List.nil_append]
  ·have hx:=aiF (by omega);rw[if_neg h,List.nil_append] at hx;refine C1 (bS _) ?_;refine W3 ?_
   refine aZ (ι:=Nat) zmx rfl [1,2,3,4] (fun i=>[.c (.ptr (0,0) 0),.c (.ptr (0,1) 0),.c (.ptr (0,2) 0),.c (.d (.i .i64 i))])
    (fun i=>[.box [.d (.i .i64 x.aM),.d (.s x.fName),.d (.sl (x.fArgs.map ak.enc))],.box [.d (.s []),.bF []],.box [.d (.s []),.bI (0,3) (([bN x.fName]++(x.fArgs.map dn).take i).map ah.enc)],.tok 2 (([bN x.fName]++(x.fArgs.map dn).take i).map ah.enc)]::S)
    (fun i=>i<=x.fArgs.length) (fun i=>x.fArgs.length-i) 0 rfl ?_ (Nat.zero_le _) ?_
   ·simp only[List.take_zero,List.append_nil,List.map_cons,List.map_nil,List.cons_append,List.nil_append,fC]<;>(try rfl)
   intro i hi
   have hl:(([bN x.fName]++(x.fArgs.map dn).take i).map ah.enc).length<=i+2:=by
    rw[List.length_map,List.length_append];have:=List.length_take_le i (x.fArgs.map dn);simp only[List.length_cons,List.length_nil];omega
   have hs:=fun hi=>jc (base:=[bN x.fName]) (l:=x.fArgs.map dn) (i:=i) hi;have hrw:=gV (l:=[bN x.fName]++(x.fArgs.map dn).take i);generalize hR:([bN x.fName]++(x.fArgs.map dn).take i).map ah.enc=R at hl hs hrw;refine W1 ?_;refine S0 (fun hb h=>?_) fun hb h=>?_
   ·have hi':i<x.fArgs.length:=by omega
    have hs':=hs (by rw[List.length_map];exact hi');rw[List.getElem_map] at hs';refine W3 ?_;refine C1 (ih x.fArgs[i] (by have:=List.sizeOf_lt_of_mem (List.getElem_mem hi');omega) (hall _ (List.getElem_mem hi'))) ?_;refine W3 ?_;rw[hs'];exact dB (i+1) (by omega) rfl rfl (by omega)
   ·have hi':i=(x.fArgs.map dn).length:=by rw[List.length_map];omega
    rw[hx,<-hR,hi',List.take_length];simp only[dZ,dw,List.cons_append,List.nil_append]
theorem l7(x:ak)(hsz:x.sz<=4194304):aF prog 116 [x.v] (.agg [.d (.s (dn x).aQ),.d (.sl ((dn x).aj.map ah.enc))]):=PZ _ x (Nat.lt_succ_self _) hsz
theorem DC(xs:List ak)(hlen:xs.length<=4194304)(hsz:∀t∈xs,t.sz<=4194304):aF prog 204 [.c (.d (.sl (xs.map ak.enc)))] (.c (.d (.sl ((xs.map dn).map ah.enc)))):=fun S=>by
 refine zcx [.tmp 2] func204 ntmps204 ?_;refine W1 ?_;refine W3 ?_;refine qG 3 2 [] rfl (by simp) ?_
 refine aZ (ι:=Nat) zmx rfl [0,3,4] (fun i=>[.c (.d (.sl (xs.map ak.enc))),.c (.bI (0,0) (((xs.map dn).take i).map ah.enc)),.c (.d (.i .i64 i))]) (fun i=>[.tok 2 (((xs.map dn).take i).map ah.enc)]::S)
  (fun i=>i<=xs.length) (fun i=>xs.length-i) 0 rfl rfl (Nat.zero_le _) ?_
 intro i hi
 have hl:(((xs.map dn).take i).map ah.enc).length<=i:=by rw[List.length_map];exact List.length_take_le _ _
 refine W1 ?_;refine S0 (fun hb h=>?_) fun hb h=>?_
 ·have hi':i<xs.length:=by omega
  have hs:=jc (base:=[]) (l:=xs.map dn) (i:=i) (by rw[List.length_map];exact hi');rw[List.getElem_map] at hs;simp only[List.nil_append] at hs;refine W3 ?_;refine C1 (l7 xs[i] (hsz _ (List.getElem_mem hi'))) ?_;refine W3 ?_;rw[hs];exact dB (i+1) (by omega) rfl rfl (by omega)
 ·have hi':i=(xs.map dn).length:=by rw[List.length_map];omega
  rw[hi',List.take_length]
theorem rD(b:Bool)(x:ah)(hsz:x.sz<=67108864):aF prog 134 [.c (.d (.b b)),x.v] (vv b x).v:=by
 have zero:aF prog 134 [.c (.d (.b b)),x.v] (.agg [.d (.s []),.bF []])->aF prog 134 [.c (.d (.b b)),x.v] eY.v:=fun h=>aF.less h (AV [] [])
 cases b with
 |false=>
  refine zero fun S=> ?_;refine zcx [.cell 4 37] func134 ntmps134 ?_;exact Z1
 |true=>
  show aF prog 134 [.c (.d (.b true)),x.v] (uO x).v;unfold uO
  cases hv:dV x with
  |false=>
   refine zero fun S=> ?_;refine zcx [.cell 4 37] func134 ntmps134 ?_;refine W1 ?_;refine bD (Cz x hsz) ?_;simp -implicitDefEqProofs (disch:=omega) only[go_sem,hv]
  |true=>
   intro S;refine zcx [.cell 4 37] func134 ntmps134 ?_;refine W1 ?_;refine bD (Cz x hsz) ?_;simp -implicitDefEqProofs (disch:=omega) only[go_sem,hv]
theorem acd(x:ah)(n:Nat)(hsz:x.sz<=67108864):aF prog 49 [.agg [.d (.s x.aQ),.d (.ol n (lx x.aj (n+1)))]] (.agg [.d (.s (uO x).aQ),.d (.ol n (lx (uO x).aj (n+1)))]):=by
 unfold uO
 cases hv:dV x with
 |false=>
  refine aF.less (fun S=> ?_) (LP [] n);refine zcx [.cell 2 37] func49 ntmps49 ?_;refine W1 ?_;refine jS (qy x hsz) (.cons (zm x n) .nil) ?_;simp -implicitDefEqProofs (disch:=omega) only[go_sem,hv]
 |true=>
  intro S;refine zcx [.cell 2 37] func49 ntmps49 ?_;refine W1 ?_;refine jS (qy x hsz) (.cons (zm x n) .nil) ?_;simp -implicitDefEqProofs (disch:=omega) only[go_sem,hv]
theorem aX.bounds{x:aX}(h:x.sz<=4194304):x.fName.length<=4194304/\x.aH.length<=4194304/\x.aC.length<=4194304/\∀s∈x.aH,s.length<=4194304:=by
 simp only[aX.sz,aX.aJ,bQ,bP,D.sz,List.length_map] at h;refine⟨by omega,by omega,by omega,fun s hs=> ?_⟩;have:=sP hs;omega
theorem aX.UO{x:aX}{i:Nat}(hi:i<x.aC.length)(h:x.sz<=4194304):x.aC[i].sz<=4194304:=by
 have hx:x.aC[i].sz<=aP (x.aC.map bL.enc):=dz (List.mem_map_of_mem (List.getElem_mem hi));simp only[aX.sz,aX.aJ,bQ,bP,D.sz,List.length_map] at h;omega
theorem bL.bounds{x:bL}(h:x.sz<=4194304):x.fName.length<=4194304/\x.gY.length<=4194304/\∀t∈x.gY,t.sz<=4194304:=by
 simp only[bL.sz,bL.aJ,bQ,bP,D.sz,List.length_map] at h;refine⟨by omega,by omega,fun t ht=> ?_⟩;have hx:t.sz<=aP (x.gY.map ak.enc):=dz (List.mem_map_of_mem ht);omega
noncomputable def pK(vars:List (List UInt8))(c:bL):Bool:=dec (c.gY.length<=4)&&lZ vars c.gY
noncomputable def l8(d:aX):List (List UInt8):=d.aC.map bL.fName
noncomputable def fD(d:aX):Bool:=
 validName d.fName&&(dec (d.aH.length<=3)&&(iI d.aH&&(dec (1<=d.aC.length)&&(dec (d.aC.length<=5)&&(d.aC.all (pK d.aH)&&iI (l8 d))))))
theorem EG(d:aX)(hsz:d.sz<=4194304):aF prog 158 [d.v] (.c (.d (.b (fD d)))):=fun S=>by
 have hb0:=aX.bounds hsz
 have bad:∀i,∀hi:i<d.aC.length,pK d.aH d.aC[i]=false->fD d=false:=fun i hi h=>by
  have:d.aC.all (pK d.aH)=false:=Bool.eq_false_iff.2 fun hx=>by
   rw[List.all_eq_true.1 hx _ (List.getElem_mem hi)] at h;cases h
  unfold fD
  rw[this];simp
 refine zcx [.tmp 2] func158 ntmps158 ?_;refine W1 ?_;refine W3 ?_;refine qG 3 1 [] rfl (by simp) ?_
 refine aZ (ι:=Nat×List (List UInt8)) zmx rfl [1,3,4] (fun y=>[.c (.ptr (0,0) 0),.c (.bI (0,1) (y.2.map encS)),.c (.d (.i .i64 y.1))]) (fun y=>[.box (d.enc.map .d),.tok 1 (y.2.map encS)]::S)
  (fun y=>y.1<=d.aC.length/\y.2=(l8 d).take y.1/\∀j,∀hj:j<d.aC.length,j<y.1->pK d.aH d.aC[j]=true) (fun y=>d.aC.length-y.1) (0,[]) rfl ?_ ⟨Nat.zero_le _,rfl,fun j _ h=>by simp only at h;omega⟩ ?_
 ·exact Z1
 rintro⟨i,names⟩ ⟨p1,p2,p3⟩;simp only at p1 p2 p3
 have pl:names.length<=d.aC.length:=by rw[p2];simp[l8];omega
 refine W1 ?_;refine S0 (fun hb h=>?_) fun hb h=>?_
 ·have hi:i<d.aC.length:=by omega
  have hc:=bL.bounds (aX.UO hi hsz);refine W3 ?_;refine S0 (fun hb h=>?_) fun hb h=>?_
  ·rw[bad i hi (by unfold pK;rw[aR (by omega)];rfl)]
  have h1:=h;refine W3 ?_;refine C2 (SQ d.aC[i].gY d.aH (by omega) hc.2.2 (by omega)) ?_;refine S0 (fun hb h=>?_) fun hb h=>?_
  ·rw[bad i hi (by unfold pK;rw[h];simp)]
  have h2:=h;refine W3 ?_;rw[show List.map encS names++[[D.s d.aC[i].fName]]=List.map encS (names++[d.aC[i].fName]) by simp[encS]]
  exact dB (i+1,names++[d.aC[i].fName]) (by simp only;omega) rfl rfl ⟨by simp only;omega,by simp only;rw[p2,iQ (by simpa [l8] using hi)];simp[l8],fun j hj hji=>by
   simp only at hji;by_cases e:j=i
   ·subst e;unfold pK;rw[h2,bM (by omega)];rfl
   ·exact p3 j hj (by omega)⟩
 have hi:i=d.aC.length:=by omega
 have hn:names=l8 d:=by rw[p2,List.take_of_length_le (by simp[l8];omega)]
 have hall:d.aC.all (pK d.aH)=true:=List.all_eq_true.2 fun c hc=>by
  obtain⟨j,hj,e⟩:=List.getElem_of_mem hc;rw[<-e];exact p3 j hj (by omega)
 have hnl:∀s∈names,s.length<=4194304:=fun s hs=>by
  rw[hn] at hs;obtain⟨c,hc,e⟩:=List.mem_map.1 hs;obtain⟨j,hj,e'⟩:=List.getElem_of_mem hc;rw[<-e,<-e'];exact(bL.bounds (aX.UO hj hsz)).1
 have hlen:names.length=d.aC.length:=by rw[hn];simp[l8]
 refine C2 (iA d.fName (by omega)) ?_;refine S0 (fun hb h=>?_) fun hb h=>?_
 ·have h1:=h;refine C2 (mG d.aH 3 (by omega) hb0.2.2.2) ?_;refine S0 (fun hb h=>?_) fun hb h=>?_
  ·have h2:=h;refine S0 (fun hb h=>?_) fun hb h=>?_
   ·have h3:=h;refine C2 (mG names 5 (by omega) hnl) ?_;refine aI ?_;rw[Bool.and_eq_true] at h2;have h4:=gJ h2.1;unfold fD;rw[h1,h2.2,hall,<-hn,bM (show d.aH.length<=3 by omega),bM (show 1<=d.aC.length by omega),hlen];simp only[Bool.true_and];congr 1;exact iO ⟨fun h=>by omega,fun h=>by omega⟩
   ·refine aI ?_;unfold fD
    rw[aR (show ¬1<=d.aC.length by omega)];simp
  ·refine aI ?_;unfold fD
   have h2:(dec (d.aH.length<=3)&&iI d.aH)=false:=by
    rw[<-h];congr 1;exact iO ⟨fun h=>by omega,fun h=>by omega⟩
   rw[<-Bool.and_assoc (dec (d.aH.length<=3)),h2];simp
 ·exact aI (by unfold fD;rw[h];rfl)
theorem EH(d:aX)(hsz:d.sz<=4194304):aF prog 58 [d.v] (.c (.d (.b (fD d)))):=fun S=>by
 have hb0:=aX.bounds hsz
 have bad:∀i,∀hi:i<d.aC.length,pK d.aH d.aC[i]=false->fD d=false:=fun i hi h=>by
  have:d.aC.all (pK d.aH)=false:=Bool.eq_false_iff.2 fun hx=>by
   rw[List.all_eq_true.1 hx _ (List.getElem_mem hi)] at h;cases h
  unfold fD
  rw[this];simp
 refine zcx [.tmp 2] func58 ntmps58 ?_;refine W1 ?_;refine C2 (iy d.fName (by omega)) ?_;refine S0 (fun hb h=>?_) fun hb h=>?_
 ·exact aI (by unfold fD;rw[h];rfl)
 have h1:=h;refine S0 (fun hb h=>?_) fun hb h=>?_
 ·exact aI (by unfold fD;rw[aR (show ¬d.aH.length<=3 by omega)];simp)
 have h2:=h;refine C2 (oQ d.aH (by omega) hb0.2.2.2) ?_;refine S0 (fun hb h=>?_) fun hb h=>?_
 ·exact aI (by unfold fD;rw[h];simp)
 have h3:=h;refine S0 (fun hb h=>?_) fun hb h=>?_
 ·exact aI (by unfold fD;rw[aR (show ¬1<=d.aC.length by omega)];simp)
 have h4:=h;refine S0 (fun hb h=>?_) fun hb h=>?_
 ·exact aI (by unfold fD;rw[aR (show ¬d.aC.length<=5 by omega)];simp)
 have h5:=h;refine W3 ?_;refine qG 3 1 [] rfl (by simp) ?_
 refine aZ (ι:=Nat×List (List UInt8)) zmx rfl [1,3,36,37,38] (fun y=>[.c (.ptr (0,0) 0),.c (.bI (0,1) (y.2.map encS)),.c (.d (.sl (d.aC.map bL.enc))),.c (.d (.i .i64 d.aC.length)),.c (.d (.i .i64 y.1))]) (fun y=>[.box (d.enc.map .d),.tok 1 (y.2.map encS)]::S)
  (fun y=>y.1<=d.aC.length/\y.2=(l8 d).take y.1/\∀j,∀hj:j<d.aC.length,j<y.1->pK d.aH d.aC[j]=true) (fun y=>d.aC.length-y.1) (0,[]) rfl ?_ ⟨Nat.zero_le _,rfl,fun j _ h=>by simp only at h;omega⟩ ?_
 ·exact Z1
 rintro⟨i,names⟩ ⟨p1,p2,p3⟩;simp only at p1 p2 p3
 have pl:names.length<=d.aC.length:=by rw[p2];simp[l8];omega
 refine W1 ?_;refine S0 (fun hb h=>?_) fun hb h=>?_
 ·have hi:i<d.aC.length:=by omega
  have hc:=bL.bounds (aX.UO hi hsz);refine W3 ?_;refine S0 (fun hb h=>?_) fun hb h=>?_
  ·rw[bad i hi (by unfold pK;rw[aR (by omega)];rfl)]
  have k1:=h;refine W3 ?_;refine C2 (Aa d.aC[i].gY d.aH (by omega) hc.2.2 (by omega)) ?_;refine S0 (fun hb h=>?_) fun hb h=>?_
  ·rw[bad i hi (by unfold pK;rw[h];simp)]
  have k2:=h;refine W3 ?_;rw[show List.map encS names++[[D.s d.aC[i].fName]]=List.map encS (names++[d.aC[i].fName]) by simp[encS]]
  exact bT 2 (by decide) (i+1,names++[d.aC[i].fName]) (by simp only;omega) rfl rfl rfl rfl ⟨by simp only;omega,by simp only;rw[p2,iQ (by simpa [l8] using hi)];simp[l8],fun j hj hji=>by
   simp only at hji;by_cases e:j=i
   ·subst e;unfold pK;rw[k2,bM (by omega)];rfl
   ·exact p3 j hj (by omega)⟩
 have hi:i=d.aC.length:=by omega
 have hn:names=l8 d:=by rw[p2,List.take_of_length_le (by simp[l8];omega)]
 have hall:d.aC.all (pK d.aH)=true:=List.all_eq_true.2 fun c hc=>by
  obtain⟨j,hj,e⟩:=List.getElem_of_mem hc;rw[<-e];exact p3 j hj (by omega)
 have hnl:∀s∈names,s.length<=4194304:=fun s hs=>by
  rw[hn] at hs;obtain⟨c,hc,e⟩:=List.mem_map.1 hs;obtain⟨j,hj,e'⟩:=List.getElem_of_mem hc;rw[<-e,<-e'];exact(bL.bounds (aX.UO hj hsz)).1
 refine C2 (oQ names (by omega) hnl) ?_;exact aI (by unfold fD;rw[h1,h3,hall,<-hn,bM (show d.aH.length<=3 by omega),bM (show 1<=d.aC.length by omega),bM (show d.aC.length<=5 by omega)];simp)
def qd:List UInt8:=[100,97,116,97]
def Cg(c:bL):ah:=bH ([bN c.fName]++c.gY.map dn)
def baseD(d:aX):List ah:=[bN qd,bN d.fName,bH (aO d.aH)]
def sS(d:aX):ah:=bH (baseD d++d.aC.map Cg)
noncomputable def F8(d:aX):ah:=vv (fD d) (sS d)
def C9:List bL->Nat
 |[]=>0
 |x::xs=>x.sz+C9 xs
theorem Nu:∀l,aP (l.map bL.enc)=C9 l
 |[]=>rfl
 |x::xs=>by rw[List.map_cons,aP,C9,Nu xs];rfl
theorem xk(x:bL):x.sz=x.fName.length+(x.gY.length+rU x.gY):=by
 rw[<-AP];simp only[bL.sz,bL.aJ,bQ,D.sz,List.length_map];omega
theorem qU(x:aX):x.sz=x.fName.length+(x.aH.length+(x.aH.map List.length).sum)+(x.aC.length+C9 x.aC):=by
 rw[<-Nu,<-dH];simp only[aX.sz,aX.aJ,bQ,D.sz,List.length_map];omega
theorem anU(c:bL):(Cg c).sz<=1+16*c.sz:=by
 have:=PG c.gY;rw[Cg,jl,gL,List.length_append,List.length_map,xk];simp[dA,jM];omega
theorem ZT:∀l:List bL,dA (l.map Cg)<=l.length+16*C9 l
 |[]=>by simp[dA]
 |c::l=>by
  have h1:=anU c;have h2:=ZT l;rw[List.map_cons,dA,C9,List.length_cons];omega
theorem WS(d:aX):(sS d).sz<=7+16*d.sz:=by
 have:=ZT d.aC;rw[sS,jl,gL,List.length_append,List.length_map,qU];simp[baseD,dA,jM,jl,jr,rC,qd];omega
theorem Kt(n:Nat)(a b:List UInt8)(w:List (List UInt8)):lx [bN a,bN b,bH (aO w)] (n+1)=[[.s a,.ol (n+1) []],[.s b,.ol (n+1+1) []],[.s [],.ol (n+1+1+1) (lx (aO w) (n+1+1+1+1))]]:=by
 simp only[jG,nk,jF,kM,kN,dZ,dw,jT]
theorem yR{vars:List (List UInt8)}{ts:List ak}(h:lZ vars ts=true):iZ ts=true:=yC.2 fun t ht=>by
 have:=List.all_eq_true.1 h t ht;unfold gU at this;rw[Bool.and_eq_true] at this;exact wY this.1
theorem GY{d:aX}(h:fD d=true):∀c∈d.aC,iZ c.gY=true:=fun c hc=>by
 have h1:d.aC.all (pK d.aH)=true:=by
  unfold fD at h;simp only[Bool.and_eq_true] at h;simp_all
 have h2:=List.all_eq_true.1 h1 c hc;unfold pK at h2;rw[Bool.and_eq_true] at h2;exact yR h2.2
theorem Tc{l:List ak}{t:ak}(h:t∈l):t.sz<=rU l:=by
 rw[<-AP];exact dz (List.mem_map_of_mem h)
theorem P5{l:List bL}{t:bL}(h:t∈l):t.sz<=C9 l:=by
 rw[<-Nu];exact dz (List.mem_map_of_mem h)
theorem Ac(d:aX)(n:Nat)(hv:fD d=true)(hsz:d.sz<=1048576):aF prog 126 [d.v] (.agg [.d (.s []),.d (.ol n (lx (sS d).aj (n+1)))]):=fun S=>by
 have hdz:=qU d;have hfo:=GY hv
 have hlen:d.aC.length<=1048576:=by omega
 obtain⟨L,hL⟩:∃L:Nat->Nat,L=fun i=>n+1+iL (baseD d++(d.aC.map Cg).take i):=⟨_,rfl⟩;obtain⟨T,hT⟩:∃T:Nat->List (List D),T=fun i=>lx (baseD d++(d.aC.map Cg).take i) (n+1):=⟨_,rfl⟩
 have hT0:T 0=[[.s qd,.ol (n+1) []],[.s d.fName,.ol (n+1+1) []],[.s [],.ol (n+1+1+1) (lx (aO d.aH) (n+1+1+1+1))]]:=by
  rw[hT];simp only[List.take_zero,List.append_nil];exact Kt _ _ _ _
 have gM:∀i,(T i).length<=i+3:=fun i=>by
  rw[hT];simp only[gG,List.length_append];have:=List.length_take_le i (d.aC.map Cg);simp[baseD];omega
 have hTs:∀i (hi:i<d.aC.length),T i++[[.s [],.ol (L i) (lx ([bN d.aC[i].fName]++d.aC[i].gY.map dn) (L i+1))]]=T (i+1):=fun i hi=>by
  have:=AU (base:=baseD d) (l:=d.aC.map Cg) (i:=i) (by rw[List.length_map];exact hi) (n+1);rw[List.getElem_map] at this;rw[hT,hL];exact this
 have hTr:∀i,∀r∈T i,r.length=2:=fun i=>by rw[hT];exact ku
 have hTe:T d.aC.length=lx (sS d).aj (n+1):=by
  rw[hT];simp only
  rw[List.take_of_length_le (by simp)];rfl
 clear hT hL;refine qR (n) 1 (rs:=[.cell 2 37]) zmx func126 ntmps126 rfl rfl rfl rfl rfl ?_;refine W1 ?_;refine C1 (dx _ (n+1)) ?_;refine C1 (dx _ (n+1+1)) ?_;refine C1 (eD d.aH (by omega) (n+1+1+1)) ?_;refine W3 ?_;refine kR n 3 2 (T 0) (.inl ?_) (hTr 0) ?_
 ·rw[hT0];rfl
 refine nY (L 0) ?_
 refine aZ (ι:=Nat) zmx rfl [2,3,15,16,17] (fun i=>[.c (.ptr (0,3) 0),.c (.bI (0,4) (T i)),.c (.d (.sl (d.aC.map bL.enc))),.c (.d (.i .i64 d.aC.length)),.c (.d (.i .i64 i))])
  (fun i=>[.seed (L i),.seed 1,.box [.d (.s d.fName),.d (.sl (d.aH.map encS)),.d (.sl (d.aC.map bL.enc))],.box [.d (.s []),.bF []],.eG n 2 (T i)]::S)
  (fun i=>i<=d.aC.length) (fun i=>d.aC.length-i) 0 rfl rfl (Nat.zero_le _) ?_
 intro i hi;have hl:=gM i;refine W1 ?_;refine S0 (fun hb h=>?_) fun hb h=>?_
 ·have hi':i<d.aC.length:=by omega
  have hm:=List.getElem_mem hi';have hcz:=P5 hm;have hce:=xk d.aC[i];have hs:=hTs i hi';refine W3 ?_;refine C1 (dx _ (L i+1)) ?_;refine C1 (Bw d.aC[i].gY 0 (L i+1+1) (hfo _ hm) (by omega) (fun t ht=>by have:=Tc ht;omega)) ?_;have hr:=ku (l:=d.aC[i].gY.map dn) (n:=L i+1+1)
  have hl2:(lx (d.aC[i].gY.map dn) (L i+1+1)).length=d.aC[i].gY.length:=by rw[gG,List.length_map]
  refine W3 ?_;refine C1 (kP _) ?_;refine W3 ?_;simp only[List.cons_append,List.nil_append,jG,xg,jT] at hs;rw[hs];refine kH (L (i+1)) 4 (by decide) (i+1) (by omega) rfl rfl ?_ rfl (by omega);simp[iN,gT,V.refs,C.refs,jY]
 ·have hi':i=d.aC.length:=by omega
  refine aW rfl (jV 0 4 _ _) ?_;refine W1 ?_;rw[hi',hTe]
theorem MN(d:aX)(hsz:d.sz<=1048576):aF prog 131 [d.v] (F8 d).v:=fun S=>by
 have hz:=WS d;have hdz:=qU d;obtain⟨T,hT⟩:∃T:Nat->List (List D),T=fun i=>(baseD d++(d.aC.map Cg).take i).map ah.enc:=⟨_,rfl⟩
 have hT0:T 0=[[.s qd,.sl []],[.s d.fName,.sl []],[.s [],.sl ((aO d.aH).map ah.enc)]]:=by
  rw[hT];simp only[List.take_zero,List.append_nil,baseD,List.map_cons,List.map_nil,fC,jC]
 have gM:∀i,(T i).length<=i+3:=fun i=>by
  rw[hT];simp only[List.length_map,List.length_append];have:=List.length_take_le i (d.aC.map Cg);simp[baseD];omega
 have hTs:∀i (hi:i<d.aC.length),T i++[[.s [],.sl (([bN d.aC[i].fName]++d.aC[i].gY.map dn).map ah.enc)]]=T (i+1):=fun i hi=>by
  have:=jc (base:=baseD d) (l:=d.aC.map Cg) (i:=i) (by rw[List.length_map];exact hi);rw[List.getElem_map] at this;rw[hT];exact this
 have hTr:∀i,∀r∈T i,r.length=2:=fun i=>by rw[hT];exact gV
 have hTe:T d.aC.length=(sS d).aj.map ah.enc:=by
  rw[hT];simp only
  rw[List.take_of_length_le (by simp)];rfl
 clear hT;refine zcx [.cell 2 37] func131 ntmps131 ?_;refine W1 ?_;refine C1 (bS _) ?_;refine C1 (bS _) ?_;refine C1 (dY d.aH (by omega)) ?_;have hE:=fun bV Ω=>jN (T 0) (hTr 0) (by have:=gM 0;omega) bV Ω;simp only[hT0] at hE;refine cK [false] rfl (hE _ _) ?_;refine W1 ?_
 refine aZ (ι:=Nat) zmx rfl [1,2,3,4] (fun i=>[.c (.ptr (0,0) 0),.c (.ptr (0,1) 0),.c (.ptr (0,4) 0),.c (.d (.i .i64 i))])
  (fun i=>[.box [.d (.s d.fName),.d (.sl (d.aH.map encS)),.d (.sl (d.aC.map bL.enc))],.box [.d (.s []),.bF []],.box [.d (.s []),.bI (0,3) (T 0)],.tok 2 (T i),.box [.d (.s []),.bI (0,3) (T i)]]::S)
  (fun i=>i<=d.aC.length) (fun i=>d.aC.length-i) 0 rfl (by simp only[hT0]<;>(try rfl)) (Nat.zero_le _) ?_
 intro i hi;have hl:=gM i;refine W1 ?_;refine S0 (fun hb h=>?_) fun hb h=>?_
 ·have hi':i<d.aC.length:=by omega
  have hm:=List.getElem_mem hi';have hcz:=P5 hm;have hce:=xk d.aC[i];have hs:=hTs i hi';refine W3 ?_;refine C1 (bS _) ?_;refine W3 ?_;refine C1 (DC d.aC[i].gY (by omega) (fun t ht=>by have:=Tc ht;omega)) ?_;have hr:=gV (l:=d.aC[i].gY.map dn)
  have hl2:((d.aC[i].gY.map dn).map ah.enc).length=d.aC[i].gY.length:=by rw[List.length_map,List.length_map]
  refine W3 ?_;simp only[List.cons_append,List.nil_append,List.map_cons,fC] at hs;rw[hs];exact bT 5 (by decide) (i+1) (by omega) rfl rfl rfl rfl (by omega)
 ·have hi':i=d.aC.length:=by omega
  subst hi';rw[hTe];refine C1 (EG d (by omega)) ?_;refine C1 (rD (fD d) (sS d) (by omega)) ?_;rfl
def Bz:List UInt8:=[116,114,117,101]
def Ad:List UInt8:=[102,97,108,115,101]
def oU:List UInt8:=[99,97,108,108]
def jm:List UInt8:=[109,101,116,104,111,100]
def tO:List UInt8:=[110,101,119]
def kW:List UInt8:=[99,97,115,101]
def tQ:List UInt8:=[108,101,116]
def yD:List UInt8:=[105,102]
def oV:List UInt8:=[112,97,99,107]
def uF:List UInt8:=[116,104,101]
def jg(k:Int)(tr nm:List UInt8)(ty:ak):List ah:=
 if k=4 then aO [oU,nm] else if k=5 then aO [jm,tr,nm] else if k=6 then aO [tO,nm] else if k=8 then aO [tQ,nm] else
 if k=9 then aO [yD] else if k=10 then aO [nm] else if k=11 then aO [oV,tr] else if k=12 then [bN uF,dn ty] else aO [kW]
mutual
def fu:ay->ah
 | .mk k tr nm n ty zs ms=>if k=1 then bN (Lib.itoa n) else if k=2 then bN (if n=1 then Bz else Ad) else if k=3 then bN nm else
   bH (jg k tr nm ty++CF zs++(if k=4\/k=5\/k=6\/k=8\/k=9\/k=10\/k=11\/k=12 then [] else IL ms))
def CF:List ay->List ah
 |[]=>[]
 |t::ts=>fu t::CF ts
def Ar:bq->ah
 | .mk c vs b=>bH ([bN c]++aO vs++[fu b])
def IL:List bq->List ah
 |[]=>[]
 |t::ts=>Ar t::IL ts
end
theorem EI:∀l,CF l=l.map fu
 |[]=>rfl
 |t::ts=>by rw[CF,List.map_cons,EI ts]
theorem IQ:∀l,IL l=l.map Ar
 |[]=>rfl
 |t::ts=>by rw[IL,List.map_cons,IQ ts]
theorem Ku(x:ay):fu x=if x.aM=1 then bN (Lib.itoa x.fN) else if x.aM=2 then bN (if x.fN=1 then Bz else Ad) else if x.aM=3 then bN x.fName else
 bH (jg x.aM x.bO x.fName x.fType++x.fArgs.map fu++(if x.aM=4\/x.aM=5\/x.aM=6\/x.aM=8\/x.aM=9\/x.aM=10\/x.aM=11\/x.aM=12 then [] else x.aT.map Ar)):=by
 cases x;rw[fu,EI,IQ];rfl
theorem afg(x:bq):Ar x=bH ([bN x.dN]++aO x.aH++[fu x.fBody]):=by cases x;rw[Ar];rfl
def vM:List ay->Nat
 |[]=>0
 |x::xs=>x.sz+vM xs
theorem Nv:∀l,aP (l.map ay.enc)=vM l
 |[]=>rfl
 |x::xs=>by rw[List.map_cons,aP,vM,Nv xs];rfl
def Da:List bq->Nat
 |[]=>0
 |x::xs=>x.sz+Da xs
theorem Nw:∀l,aP (l.map bq.enc)=Da l
 |[]=>rfl
 |x::xs=>by rw[List.map_cons,aP,Da,Nw xs];rfl
theorem yS(x:ay):x.sz=x.bO.length+x.fName.length+x.fType.sz+(x.fArgs.length+vM x.fArgs)+(x.aT.length+Da x.aT):=by
 rw[<-Nv,<-Nw];simp only[ay.sz,ay.aJ,bQ,bP,D.sz,List.length_map,ak.dP];omega
theorem Ch(x:bq):x.sz=x.dN.length+(x.aH.length+(x.aH.map List.length).sum)+x.fBody.sz:=by
 rw[<-dH];simp only[bq.sz,bq.aJ,bQ,bP,D.sz,List.length_map,ay.dP];omega
theorem LQ:∀(k n:Nat),n<10^ (k+1)->(Lib.decDigits n).length<=k+1
 |0,n,h=>by rw[Lib.decDigits,dif_pos (by simpa using h)];simp
 |k+1,n,h=>by
  rw[Lib.decDigits];split
  ·simp
  ·rw[List.length_append];have:=LQ k (n/10) (by rw[Nat.pow_succ] at h;omega);simp;omega
theorem aiG{n:Int}(h: -999999<=n/\n<=999999):(Lib.itoa n).length<=7:=by
 unfold Lib.itoa;split
 ·have:=LQ 5 n.natAbs (by omega);simp;omega
 ·have:=LQ 5 n.toNat (by omega);omega
theorem afh(k:Int)(tr nm:List UInt8)(ty:ak):(jg k tr nm ty).length<=3/\dA (jg k tr nm ty)<=18+tr.length+nm.length+16*ty.sz:=by
 have h:=Cb ty;unfold jg
 repeat' (first|(split;·refine⟨by simp[aO],?_⟩;simp[dA,aO,jM,oU,jm,tO,tQ,yD,oV,uF,kW];omega))
 refine⟨by simp[aO],?_⟩;simp[dA,aO,jM,kW];omega
mutual
theorem Kv:∀x:ay,iR x=true->(fu x).sz<=24+32*x.sz
 | .mk k tr nm n ty zs ms=>fun hok=>by
   rw[iR,Bool.and_eq_true,Bool.and_eq_true] at hok;have hf:=gJ hok.1;have h1:=ZU zs hok.2.1;have h2:=ZV ms hok.2.2;have h3:=afh k tr nm ty;rw[yS];simp only[ay.fName,ay.fArgs,ay.bO,ay.fType,ay.aT];rw[fu];split
   ·rename_i hk;have h4:=hf.2.2.2.1;simp only[ay.aM,ay.fN,hk,if_true] at h4;have:=aiG h4;rw[jM];omega
   ·split
    ·rw[jM];split<;>simp[Bz,Ad]<;>omega
    ·split
     ·rw[jM];omega
     ·rw[jl,gL,gL,List.length_append,List.length_append,EI,List.length_map,<-EI];split
      ·simp[dA];omega
      ·rw[IQ,List.length_map,<-IQ];omega
theorem ZU:∀xs:List ay,mD xs=true->dA (CF xs)<=24*xs.length+32*vM xs
 |[],_=>by simp[CF,dA]
 |x::xs,h=>by
  rw[mD,Bool.and_eq_true] at h;have h1:=Kv x h.1;have h2:=ZU xs h.2;rw[CF,dA,vM,List.length_cons];omega
theorem anV:∀x:bq,xM x=true->(Ar x).sz<=26+32*x.sz
 | .mk c vs b=>fun hok=>by
   rw[xM,Bool.and_eq_true,Bool.and_eq_true] at hok;have h1:=Kv b hok.2.2;rw[Ch];simp only[bq.dN,bq.aH,bq.fBody];rw[Ar,jl,gL,gL,List.length_append,List.length_append,jr,rC];simp[dA,jM];omega
theorem ZV:∀xs:List bq,pE xs=true->dA (IL xs)<=26*xs.length+32*Da xs
 |[],_=>by simp[IL,dA]
 |x::xs,h=>by
  rw[pE,Bool.and_eq_true] at h;have h1:=anV x h.1;have h2:=ZV xs h.2;rw[IL,dA,Da,List.length_cons];omega
end
end Go.Ab
namespace Go.Proofs
open Go.Shelf
def Tryz.laysM171_ren:Go.Shelf.Ren:=⟨fun|171=>190|243=>244|246=>268|283=>288|284=>289|285=>290|286=>291|129=>300|317=>299|318=>301|319=>302|320=>303|337=>309|338=>310|n=>n,fun|3=>3|9=>9|2=>2|4=>4|171=>267|0=>0|53=>268|37=>22|5=>5|173=>271|212=>285|51=>286|20=>20|213=>287|46=>198|232=>297|233=>298|n=>n,fun|17=>3|18=>4|19=>5|n=>n⟩
theorem Tryz.laysM171:Go.Proofs.LaysM.n171 prog Tryz.laysM171_ren:={
 mixed:=by kernel_rfl
 f129:=func300.trans (congrArg some (by kernel_rfl))
 f171:=func190.trans (congrArg some (by kernel_rfl))
 f243:=func244.trans (congrArg some (by kernel_rfl))
 f246:=func268.trans (congrArg some (by kernel_rfl))
 f283:=func288.trans (congrArg some (by kernel_rfl))
 f284:=func289.trans (congrArg some (by kernel_rfl))
 f285:=func290.trans (congrArg some (by kernel_rfl))
 f286:=func291.trans (congrArg some (by kernel_rfl))
 f317:=func299.trans (congrArg some (by kernel_rfl))
 f318:=func301.trans (congrArg some (by kernel_rfl))
 f319:=func302.trans (congrArg some (by kernel_rfl))
 f320:=func303.trans (congrArg some (by kernel_rfl))
 f337:=func309.trans (congrArg some (by kernel_rfl))
 f338:=func310.trans (congrArg some (by kernel_rfl))
 t0:=underlying0
 a0:=Tryz.isAgg0
 z0:=Tryz.sizeOf0
 v0:=Tryz.zeroValue0
 t2:=underlying2
 a2:=Tryz.isAgg2
 z2:=Tryz.sizeOf2
 v2:=Tryz.zeroValue2
 t3:=underlying3
 a3:=Tryz.isAgg3
 z3:=Tryz.sizeOf3
 v3:=Tryz.zeroValue3
 t4:=underlying4
 a4:=Tryz.isAgg4
 z4:=Tryz.sizeOf4
 v4:=Tryz.zeroValue4
 t5:=underlying5
 a5:=Tryz.isAgg5
 z5:=Tryz.sizeOf5
 v5:=Tryz.zeroValue5
 t9:=underlying9
 a9:=Tryz.isAgg9
 z9:=Tryz.sizeOf9
 v9:=Tryz.zeroValue9
 t20:=underlying20
 a20:=Tryz.isAgg20
 z20:=Tryz.sizeOf20
 v20:=Tryz.zeroValue20
 t37:=underlying22
 a37:=Tryz.isAgg22
 z37:=Tryz.sizeOf22
 v37:=Tryz.zeroValue22
 t46:=underlying198
 a46:=Tryz.isAgg198
 z46:=Tryz.sizeOf198
 v46:=Tryz.zeroValue198
 t51:=underlying286
 a51:=Tryz.isAgg286
 z51:=Tryz.sizeOf286
 v51:=Tryz.zeroValue286
 t53:=underlying268
 a53:=Tryz.isAgg268
 z53:=Tryz.sizeOf268
 v53:=Tryz.zeroValue268
 t171:=underlying267
 a171:=Tryz.isAgg267
 z171:=Tryz.sizeOf267
 v171:=Tryz.zeroValue267
 t173:=underlying271
 a173:=Tryz.isAgg271
 z173:=Tryz.sizeOf271
 v173:=Tryz.zeroValue271
 t212:=underlying285
 a212:=Tryz.isAgg285
 z212:=Tryz.sizeOf285
 v212:=Tryz.zeroValue285
 t213:=underlying287
 a213:=Tryz.isAgg287
 z213:=Tryz.sizeOf287
 t232:=underlying297
 a232:=Tryz.isAgg297
 z232:=Tryz.sizeOf297
 v232:=Tryz.zeroValue297
 t233:=underlying298
 a233:=Tryz.isAgg298
 z233:=Tryz.sizeOf298
 v233:=Tryz.zeroValue298
 g17:=by kernel_rfl
 g18:=by kernel_rfl
 g19:=by kernel_rfl
 i0:=by kernel_rfl
 i2:=by kernel_rfl
 i3:=by kernel_rfl
 i4:=by kernel_rfl
 i5:=by kernel_rfl
 i9:=by kernel_rfl
 i20:=by kernel_rfl
 i37:=by kernel_rfl
 i46:=by kernel_rfl
 i51:=by kernel_rfl
 i53:=by kernel_rfl
 i171:=by kernel_rfl
 i173:=by kernel_rfl
 i212:=by kernel_rfl
 i232:=by kernel_rfl
 i233:=by kernel_rfl
 m17:=by kernel_rfl
 m18:=by kernel_rfl
 m19:=by kernel_rfl}
open Go.RowKit Go.Sort Go.Lib in
theorem Tryz.strconv_Itoa(n:Int)(h0: -9223372036854775808<=n)(h1:n<=9223372036854775807)(w:World)(htab:Lib.TabIs prog w "internal/strconv.uint64pow10" .u64 Lib.pow10Tab):
 Calls prog 190 #[.int .i64 n] w fun e w'=>e=.returned (.string ⟨(Lib.itoa n).toArray⟩)/\∃k os,w'=grow (w.drewN k) os:=Any.strconv_Itoa Tryz.laysM171 n h0 h1 w htab
end Go.Proofs
namespace Go.Ab
theorem ace{w:World}{σ:Nat->Nat}{k:Nat}{os:Array Go.Obj}(hl:∀b,b<w.heap.size\/σ b=0):Grow w σ (Go.Sort.grow (w.drewN k) os) σ:=by
 have hh:(Go.Sort.grow (w.drewN k) os).heap=w.heap++os:=rfl;refine⟨by rw[hh];simp,rfl,rfl,fun b hb=>⟨by rw[hh,Array.getElem?_append_left hb],rfl⟩,fun b=> ?_⟩;rcases hl b with h|h
 ·left;rw[hh];simp;omega
 ·exact .inr h
theorem alM{x:V}{vs:List Value}{w:World}{σ:Nat->Nat}{S:Store}{β:Hs}(h:oM w σ S β [x] vs):∃v,vs=[v]/\dM w σ S β x v:=by
 obtain⟨hl,h⟩:=h;obtain⟨v,e,hr⟩:=h 0 x rfl
 match vs,hl,e with
 |[y],_,e=>simp at e;subst e;exact⟨_,rfl,hr⟩
theorem Td{w:World}{σ:Nat->Nat}(h:lS w σ):Lib.TabIs prog w "internal/strconv.uint64pow10" .u64 Lib.pow10Tab:=by
 obtain⟨c,t,fz,q1,q2,q3⟩:=h _ _ (show _∈Zu from List.mem_cons_self ..)
 have hn:prog.globalNamed "internal/strconv.uint64pow10" =some 3:=by kernel_rfl
 unfold Lib.TabIs World.var?;rw[hn];simp only[Option.bind_some,q1,Option.some.injEq];apply Array.ext';rw[q2];simp[Lib.pow10Tab]
theorem alN(n:Int)(h0: -9223372036854775808<=n)(h1:n<=9223372036854775807):aF prog 190 [.c (.d (.i .i64 n))] (.c (.d (.s (Lib.itoa n)))):=fun S=>by
 refine⟨⟨_,func190,by kernel_rfl,by kernel_rfl⟩,fun w σ β vs hS hv=> ?_⟩;obtain⟨v,rfl,hr,_⟩:=alM hv
 have hv0:v=.int .i64 n:=by cases hr;rfl
 subst hv0;refine(Tryz.strconv_Itoa n h0 h1 w (Td hS.wh)).mono fun e w' ⟨he,k,os,hw⟩=> ?_;subst hw;have hg:Grow w σ (Go.Sort.grow (w.drewN k) os) σ:=ace hS.live;exact⟨_,.c (.d (.s (Lib.itoa n))),S,σ,β,he,hS.grow hg,Keep.refl _ _,Step.nU hg,⟨.s _,rfl⟩,rfl,rfl⟩
theorem Ny(n:Int)(h0: -9223372036854775808<=n)(h1:n<=9223372036854775807):aF prog 99 [.c (.d (.i .i64 n))] (.c (.d (.s (Lib.itoa n)))):=fun S=>by
 refine zcx [.tmp 2] func99 ntmps99 ?_;refine W1 ?_;exact C4 (alN n h0 h1)
def Kw(m:Nat):List UInt8:=if m=0 then [] else Lib.decDigits m
theorem afi{m:Nat}(h:m≠0):Kw (m/10)++[UInt8.ofNat (48+m % 10)]=Kw m:=by
 unfold Kw;rw[if_neg h]
 conv=>rhs;rw[Lib.decDigits]
 by_cases h10:m<10
 ·rw[dif_pos h10,if_pos (by omega),List.nil_append,Nat.mod_eq_of_lt h10]
 ·rw[dif_neg h10,if_neg (by omega)]
theorem aiH(n:Int)(h0: -9223372036854775808<=n)(h1:n<=9223372036854775807):∃sg:Nat->Int,sg 0=0/\sg n.natAbs=n/\(∀m,m≠0->sg m≠0)/\(∀m,(sg m).tmod 10= -((m % 10:Nat):Int)\/(sg m).tmod 10=((m % 10:Nat):Int))/\
 (∀m,(sg m).tdiv 10=sg (m/10))/\∀m,m<=n.natAbs-> -9223372036854775808<=sg m/\sg m<=9223372036854775807:=by
 by_cases h:n<0
 ·refine⟨fun m=> -(m:Int),rfl,by simp only;omega,fun m hm=>by simp only;omega,fun m=>.inl ?_,fun m=> ?_,fun m hm=>by simp only;omega⟩
  ·simp only;rw[Int.neg_tmod];congr 1
  ·simp only;rw[Int.neg_tdiv];congr 1
 ·refine⟨fun m=>(m:Int),rfl,by simp only;omega,fun m hm=>by simp only;omega,fun m=>.inr rfl,fun m=>rfl,fun m hm=>by simp only;omega⟩
theorem afj:Lib.itoa 0=[48]:=by
 unfold Lib.itoa;rw[if_neg (by decide),Lib.decDigits,dif_pos (by decide)];rfl
theorem acf(a:Nat)(h:a<=9223372036854775808):(Lib.decDigits a).length<=19:=LQ 18 a (by omega)
theorem Nz(n:Int)(h0: -9223372036854775808<=n)(h1:n<=9223372036854775807):aF prog 114 [.c (.d (.i .i64 n))] (.c (.d (.s (Lib.itoa n)))):=fun S=>by
 obtain⟨sg,g0,gn,gne,asb,asc,anX⟩:=aiH n h0 h1;refine zcx [.tmp 2] func114 ntmps114 ?_;refine W1 ?_;refine S0 (fun hb h=>?_) fun hb h=>?_
 ·rw[h,afj]
 have hn0:=h
 have hd0:Kw n.natAbs=Lib.decDigits n.natAbs:=by unfold Kw;rw[if_neg (by omega)]
 have hln:=acf n.natAbs (by omega)
 refine aZ (ι:=Nat×List UInt8) zmx rfl [0,3,4] (fun y=>[.c (.d (.i .i64 (sg y.1))),.c (.d (.b (decide (n<0)))),.c (.d (.s y.2))]) (fun _=>[]::S)
  (fun y=>y.1<=n.natAbs/\Kw y.1++y.2=Kw n.natAbs/\y.2.length<=19) (fun y=>y.1) (n.natAbs,[]) (by rw[gn];rfl) rfl ⟨Nat.le_refl _,List.append_nil _,by simp⟩ ?_
 rintro⟨m,out⟩ ⟨p1,p2,p3⟩;simp only at p1 p2 p3;have hr:=anX m p1;have hm:=asb m;have hq:=asc m
 generalize hx:sg m=x at *
 generalize hy:x.tmod 10=y at *
 have hlo:out.length<=19:=p3;refine W1 ?_;refine S0 (fun hb h=>?_) fun hb h=>?_
 ·have hm0:m≠0:=fun e=>by rw[e,g0] at hx;omega
  have hst:=afi hm0;have hr2:=anX (m/10) (by omega)
  have atC:(Kw (m/10)).length+1+out.length<=19:=by
   have:=congrArg List.length p2;rw[<-hst,hd0] at this;simp only[List.length_append,List.length_cons,List.length_nil] at this;omega
  simp -implicitDefEqProofs (disch:=omega) only[go_sem,hy];refine S0 (fun hb h=>?_) fun hb h=>?_
  ·have e1:(0:Int)-y=((m % 10:Nat):Int):=by omega
   have hc:UInt8.ofNat (IntKind.u8.wrap (48+(0-y))).toNat=UInt8.ofNat (48+m % 10):=by
    rw[wrap_u8 _ (by omega),e1];congr 1
   simp -implicitDefEqProofs (disch:=omega) only[go_sem,hy,hq];refine W3 ?_;refine dB (m/10,UInt8.ofNat (48+m % 10)::out) (by simp only;omega) (by rw[<-hc];rfl) rfl ⟨by simp only;omega,?_,by simp only[List.length_cons];omega⟩
   simp only
   rw[<-p2,<-hst,List.append_assoc];rfl
  ·have e1:y=((m % 10:Nat):Int):=by omega
   have hc:UInt8.ofNat (IntKind.u8.wrap (48+y)).toNat=UInt8.ofNat (48+m % 10):=by
    rw[wrap_u8 _ (by omega),e1];congr 1
   simp -implicitDefEqProofs (disch:=omega) only[go_sem,hy,hq];refine W3 ?_;refine dB (m/10,UInt8.ofNat (48+m % 10)::out) (by simp only;omega) (by rw[<-hc];rfl) rfl ⟨by simp only;omega,?_,by simp only[List.length_cons];omega⟩
   simp only
   rw[<-p2,<-hst,List.append_assoc];rfl
 ·have hm0:m=0:=by
   rcases Nat.eq_zero_or_pos m with e|e
   ·exact e
   ·exact absurd (by rw[hx];omega) (gne m (by omega))
  subst hm0
  have hout:out=Lib.decDigits n.natAbs:=by rw[<-hd0,<-p2];rfl
  refine S0 (fun hb h=>?_) fun hb h=>?_
  ·refine W3 ?_;rw[hout];unfold Lib.itoa;rw[if_pos h]
  ·rw[hout];unfold Lib.itoa;rw[if_neg h,show n.toNat=n.natAbs by omega]
theorem Ky{P:Program}{w:World}{t u ty e:TypeId}{base:Option Addr}{n:Nat}{i:TypeInfo}{z:Value}(ht:P.underlying t=some (.slice e))(hu:P.underlying u=some (.int .i64))(hi:P.info? e=some i)
 (hz:i.zero=some z)(h1:1<=n)(hn:n<=1073741824)(hb:i.bytes<=4096)(hs:i.size=z.cells.size):
 ∃(cap:Nat) (row:Array Value),n<=cap/\row.size=cap*z.cells.size/\(Builtin.append_ #[t,u] ty #[.slice base 0 0,.int .i64 n]).run P w=
  .ok (.slice (some ⟨w.heap.size,0,none⟩) n cap) {w.drew with heap:=w.heap.push (.cells row e)}:=by
 have hn1:=Oo n 0 (by omega)
 have h48:¬(281474976710656<Builtin.nextslicecap n 0*i.bytes):=by
  have:Builtin.nextslicecap n 0*i.bytes<=(2*n+512)*4096:=Nat.mul_le_mul hn1 hb;omega
 have h49:¬(281474976710656<(n:Int)*(i.bytes:Int)):=by
  have h2:n*i.bytes<=1073741824*4096:=Nat.mul_le_mul hn hb
  have:(n:Int)*(i.bytes:Int)=((n*i.bytes:Nat):Int):=by simp
  rw[this];omega
 have h63':¬(9223372036854775807<(n:Int)):=by omega
 have hroom':¬(n<=0):=by omega
 have hneg:¬((n:Int)<0):=by omega
 have hn0:¬n=0:=by omega
 have hw:IntKind.i64.wrap (n:Int)=n:=LA _ (by omega)
 have hmax:IntKind.i64.max=9223372036854775807:=by decide
 have ha:∀w:World,(asInt (.int .i64 (n:Int))).run P w=.ok (n:Int) w:=fun w=>by simp[asInt,asIntOf]
 let cap:=(Question.appendCap n 0 e).cut (w.tape w.drawn (Question.appendCap n 0 e))
 have hcap:n<=cap:=by simp[cap,Question.cut]
 refine⟨cap,#[]++(if n*i.size=0 then #[] else Builtin.zeroCells z.cells n)++Builtin.zeroCells z.cells (cap-n),hcap,?_,?_⟩
 ·by_cases h0:n*i.size=0
  ·rw[if_pos h0]
   have hsz:z.cells.size=0:=by
    rcases Nat.mul_eq_zero.1 h0 with h|h
    ·omega
    ·omega
   simp[Builtin.zeroCells,hsz]
  ·rw[if_neg h0];simp only[Builtin.zeroCells,Array.size_append,Array.size_map,Array.size_range,Array.size_empty,Nat.zero_add];rw[<-Nat.add_mul];congr 1;omega
 ·by_cases h0:n*i.size=0
  ·rw[if_pos h0];cases base<;>simp[Builtin.append_,run_underlying ht,run_underlying hu,sizeOf,typeInfo,zeroValue,hi,hz,hroom',h48,h49,h63',hneg,hw,hmax,Question.forced,newRow,ha,hn0,loadCellsFrom,h0,Builtin.firstCells,loadCells]<;>exact⟨rfl,rfl⟩
  ·rw[if_neg h0];cases base<;>simp[Builtin.append_,run_underlying ht,run_underlying hu,sizeOf,typeInfo,zeroValue,hi,hz,hroom',h48,h49,h63',hneg,hw,hmax,Question.forced,newRow,ha,hn0,loadCellsFrom,h0,Builtin.firstCells,loadCells]<;>exact⟨rfl,rfl⟩
theorem afk(base:Option Addr)(n:Nat)(h1:1<=n)(hn:n<=1073741824)(w:World):Calls prog 294 #[.slice base 0 0,.int .i64 n] w fun e w'=>
 ∃cap row,n<=cap/\row.size=cap/\e=.returned (.slice (some ⟨w.heap.size,0,none⟩) 0 cap)/\w'={w.drew with heap:=w.heap.push (.cells row 9)}:=by
 obtain⟨cap,row,hc,hr,hm⟩:=Ky (P:=prog) (w:=w) (t:=43) (u:=3) (ty:=43) (e:=9) (base:=base) (n:=n) underlying43 underlying3 rfl rfl h1 hn (by decide +kernel) rfl
 have h0:¬((n:Int)<0):=by omega
 have h2:(0:Int)<n:=by omega
 go_enter func294,ntmps294
 go_wp2_with (at_builtin;refine Lib.wpList_append_run _ rfl _ _ _ _ rfl _ _ rfl rfl _ _ hm ?_)
 all_goals go_ret
 exact⟨cap,hc,row,hr.trans (Nat.mul_one _),rfl,rfl⟩
theorem acg(base:Option Addr)(w:World):Calls prog 294 #[.slice base 0 0,.int .i64 0] w fun e w'=>e=.returned (.slice base 0 0)/\w'=w:=by
 go_enter func294,ntmps294
 go_wp2
 all_goals go_ret
 exact⟨rfl,rfl⟩
theorem aiI(n:Nat)(hn:n<=1073741824)(bV:List Ab.Obj)(Ω:Store):bX prog 294 [.c (.bF []),.c (.d (.i .i64 n))] (bV::Ω)
 (fun r S'=>r=.c (.bI (0,bV.length) [])/\S'=(bV++[.tok 1 []])::Ω):=by
 refine⟨⟨_,func294,by kernel_rfl,by kernel_rfl⟩,fun w σ β vs hS hv=> ?_⟩;obtain⟨hl,h⟩:=hv;obtain⟨v0,e0,⟨h0,a,m,h00⟩,_⟩:=h 0 _ rfl;obtain⟨v1,e1,h1,_⟩:=h 1 _ rfl
 have h1':v1=.int .i64 n:=by cases h1;rfl
 subst h1'
 have hm:m=0:=by rw[h00] at h0;cases h0<;>rfl
 subst hm;subst h00
 have hvs:vs=[.slice a 0 0,.int .i64 n]:=by
  match vs,hl,e0,e1 with
  |[x,y],_,e0,e1=>simp at e0 e1;rw[e0,e1]
 subst hvs
 cases β with
 |nil=>have:=hS.shape.1;simp at this
 |cons bo bΩ=>
 have hlen:bo.length=bV.length:=by
  obtain⟨gr,g1,g2⟩:=hS.shape.2 0 bV rfl;simp at g1;rw[g1];exact g2
 by_cases hz:n=0
 ·subst hz;refine(acg a w).mono fun e w' ⟨he,hw⟩=> ?_;subst hw;obtain⟨hS',hk,hst⟩:=hS.push (o:=.tok 1 []) (h:=.slice a 0 0) (Grow.refl hS.live) hlen ⟨h0,by simp,a,0,rfl,by simp,.inl rfl⟩ (fun b hb=>by cases a<;>simp[owns,blk] at hb);refine⟨_,.c (.bI (0,bV.length) []),_,_,_,he,hS',hk,hst,⟨⟨h0,.tok 1 [],?_,fun bg es e=> ?_⟩,rfl⟩,rfl,rfl⟩
  ·rw[cu]
  ·obtain⟨_,rfl⟩:=lT (lab:=none) e;exact⟨Nat.le_refl _,fun _=>by rw[<-hlen,cu]⟩
 ·refine(afk a n (by omega) hn w).mono fun e w' ⟨cap,row,hc,hr,he,hw⟩=> ?_;subst hw;have hσ:σ w.heap.size=0:=(hS.live w.heap.size).resolve_left (by omega)
  have hg:Grow w σ {w.drew with heap:=w.heap.push (.cells row 9)} σ:=by
   refine⟨by simp,rfl,rfl,fun b hb=>⟨?_,rfl⟩,fun b=> ?_⟩
   ·simp only[Array.getElem?_push];rw[if_neg (by omega)]
   ·rcases hS.live b with hb|hb
    ·left;simp;omega
    ·exact .inr hb
  obtain⟨hS',hk,hst⟩:=hS.push (o:=.tok 1 []) (h:=.slice (some ⟨w.heap.size,0,none⟩) 0 cap) hg hlen ⟨.nil _ _,by simp,_,cap,rfl,by simp,.inr ⟨w.heap.size,0,row,9,rfl,by simp,by simp[hσ],by omega⟩⟩ (fun b hb=>by
   simp only[owns,blk] at hb;split at hb
   ·cases hb
   ·cases hb;exact Nat.le_refl _)
  refine⟨_,.c (.bI (0,bV.length) []),_,_,_,he,hS',hk,hst,⟨⟨.nil _ _,.tok 1 [],?_,fun bg es e=> ?_⟩,rfl⟩,rfl,rfl⟩
  ·rw[cu]
  ·obtain⟨_,rfl⟩:=lT (lab:=none) e;exact⟨Nat.le_refl _,fun _=>by rw[<-hlen,cu]⟩
theorem EJ{xs:List (List UInt8)}:∀y∈xs.map encS,y.length=1:=fun y hy=>by
 obtain⟨z,_,rfl⟩:=List.mem_map.1 hy;rfl
theorem IU{α:Type}(xss:List (List α)){i:Nat}(hi:i<xss.length):(xss.take (i+1)).flatten.length=(xss.take i).flatten.length+xss[i].length:=by
 rw[List.take_succ_eq_append_getElem hi,List.flatten_append,List.length_append];simp only[List.flatten_cons,List.flatten_nil,List.append_nil]
theorem zn{α:Type}(xss:List (List α))(i:Nat):(xss.take i).flatten.length<=xss.flatten.length:=by
 conv=>rhs;rw[<-List.take_append_drop i xss]
 rw[List.flatten_append,List.length_append];omega
theorem ach(xss:List (List (List UInt8)))(hl:xss.length<=1073741824)(hf:xss.flatten.length<=1073741824):aF prog 279 [.c (.d (.sl (xss.map fun a=>[.sl (a.map encS)])))] (.c (.d (.sl (xss.flatten.map encS)))):=fun S=>by
 refine zcx [.tmp 2] func279 ntmps279 ?_;refine W1 ?_
 refine aZ (ι:=Nat) zmx rfl [0,3,9,10,11] (fun i=>[.c (.d (.sl (xss.map fun a=>[.sl (a.map encS)]))),.c (.d (.i .i64 (xss.take i).flatten.length)),.c (.d (.sl (xss.map fun a=>[.sl (a.map encS)]))),.c (.d (.i .i64 xss.length)),.c (.d (.i .i64 i))]) (fun _=>[]::S)
  (fun i=>i<=xss.length) (fun i=>xss.length-i) 0 rfl rfl (Nat.zero_le _) ?_
 rintro i p1;have hfi:=zn xss i;by_cases hi:i<xss.length
 ·have hs:=IU xss hi;have aiJ:=zn xss (i+1);refine W1 ?_;refine S0 (fun hb h=>?_) fun hb h=>?_
  ·refine W3 ?_;refine S0 (fun hb h=>?_) fun hb h=>?_
   ·omega
   ·refine dB (i+1) (by omega) ?_ rfl (by omega);rw[hs];rfl
  ·omega
 have hi:i=xss.length:=by omega
 subst hi;refine W1 ?_;refine S0 (fun hb h=>?_) fun hb h=>?_
 ·omega
 rw[List.take_length];clear hfi;refine aW rfl (aiI xss.flatten.length hf [] S) ?_;refine W1 ?_
 refine aZ (ι:=Nat) zmx rfl [6,25,26,27] (fun i=>[.c (.bI (0,0) ((xss.take i).flatten.map encS)),.c (.d (.sl (xss.map fun a=>[.sl (a.map encS)]))),.c (.d (.i .i64 xss.length)),.c (.d (.i .i64 i))]) (fun i=>[.tok 1 ((xss.take i).flatten.map encS)]::S)
  (fun i=>i<=xss.length) (fun i=>xss.length-i) 0 rfl rfl (Nat.zero_le _) ?_
 rintro i p1;have hfi:=zn xss i;by_cases hi:i<xss.length
 ·have hs:=IU xss hi;have aiJ:=zn xss (i+1)
  have e:(xss.take (i+1)).flatten.map encS=(xss.take i).flatten.map encS++xss[i].map encS:=by
   rw[List.take_succ_eq_append_getElem hi,List.flatten_append,List.map_append];simp only[List.flatten_cons,List.flatten_nil,List.append_nil]
  refine W1 ?_;refine S0 (fun hb h=>?_) fun hb h=>?_
  ·refine W3 ?_;refine⟨EJ,⟨_,rfl,rfl⟩,by omega,?_⟩;exact dB (i+1) (by omega) (by rw[e];rfl) (by rw[e]) (by omega)
  ·omega
 ·have hi:i=xss.length:=by omega
  subst hi;refine W1 ?_;refine S0 (fun hb h=>?_) fun hb h=>?_
  ·omega
  rw[List.take_length]
theorem aci(c:Nat)(w:World):Calls prog 278 #[.slice none 0 c] w fun e w'=>e=.returned (.slice none 0 0)/\w'=w:=by
 have hb:(binOp .eql 43 (.slice none 0 c) (.slice none 0 0)).run prog w=.ok (.bool true) w:=by
  simp[binOp,run_equal_slice_nil w _ _ _ _ _ underlying43]
 go_enter func278,ntmps278
 go_wp2
 all_goals go_ret
 exact⟨rfl,rfl⟩
theorem acj(w w':World)(a:Addr)(n c:Nat)(r:Value)(hm:(Builtin.append_ #[43,43] 43 #[.slice (some ⟨w.heap.size,0,none⟩) 0 0,.slice (some a) n c]).run prog (w.alloc (.cells #[] 9))=.ok r w'):
 Calls prog 278 #[.slice (some a) n c] w fun e w''=>e=.returned r/\w''=w':=by
 have hb:(binOp .eql 43 (.slice (some a) n c) (.slice none 0 0)).run prog w=.ok (.bool false) w:=by
  simp[binOp,run_equal_slice_nil w _ _ _ _ _ underlying43]
 go_enter func278,ntmps278
 go_wp2_with (at_builtin;refine Lib.wpList_append_run _ rfl _ _ _ _ rfl _ _ rfl rfl _ _ hm ?_)
 all_goals go_ret
 exact⟨rfl,rfl⟩
theorem afl(xs:List (List UInt8))(hx:xs.length<=1073741824)(bV:List Ab.Obj)(Ω:Store):bX prog 278 [.c (.d (.sl (xs.map encS)))] (bV::Ω)
 (fun r S'=>r=.c (.bI (0,bV.length) (xs.map encS))/\S'=(bV++[.tok 1 (xs.map encS)])::Ω):=by
 have ap7:(xs.map encS).length<=1073741824:=by simpa using hx
 have h1:=EJ (xs:=xs)
 generalize xs.map encS=es at *
 refine⟨⟨_,func278,by kernel_rfl,by kernel_rfl⟩,fun w σ β vs hS hv=> ?_⟩;obtain⟨hl,h⟩:=hv;obtain⟨v,e0,hd,_⟩:=h 0 _ rfl;have hd:dK w σ (.sl es) v:=hd
 have hvs:vs=[v]:=by
  match vs,hl,e0 with
  |[x],_,e0=>simp at e0;rw[e0]
 subst hvs
 cases β with
 |nil=>have:=hS.shape.1;simp at this
 |cons bo bΩ=>
 have hlen:bo.length=bV.length:=by
  obtain⟨gr,g1,g2⟩:=hS.shape.2 0 bV rfl;simp at g1;rw[g1];exact g2
 have hv:∃a c,v=.slice a es.length c/\(a=none->es=[]):=by
  cases hd with
  |nil a cap=>exact⟨a,cap,rfl,fun _=>rfl⟩
  |sl b off cap bg es vals c t fz=>exact⟨_,_,rfl,fun h=>by cases h⟩
 obtain⟨a,c,rfl,ha⟩:=hv
 cases a with
 |none=>
  have:=ha rfl;subst this;refine(aci c w).mono fun e w' ⟨he,hw⟩=> ?_;subst hw;obtain⟨hS',hk,hst⟩:=hS.push (o:=.tok 1 []) (h:=.slice none 0 0) (Grow.refl hS.live) hlen ⟨.nil _ _,by simp,none,0,rfl,by simp,.inl rfl⟩ (fun b hb=>by simp[owns,blk] at hb);refine⟨_,.c (.bI (0,bV.length) []),_,_,_,he,hS',hk,hst,⟨⟨.nil _ _,.tok 1 [],?_,fun bg es e=> ?_⟩,rfl⟩,rfl,rfl⟩
  ·rw[cu]
  ·obtain⟨_,rfl⟩:=lT (lab:=none) e;exact⟨Nat.le_refl _,fun _=>by rw[<-hlen,cu]⟩
 |some a=>
  have hσ:σ w.heap.size=0:=(hS.live w.heap.size).resolve_left (by omega)
  have hg:Grow w σ (w.alloc (.cells #[] 9)) σ:=by
   have hh:(w.alloc (.cells #[] 9)).heap=w.heap.push (.cells #[] 9):=rfl;refine⟨by rw[hh];simp,rfl,rfl,fun b hb=>⟨?_,rfl⟩,fun b=> ?_⟩
   ·rw[hh,Array.getElem?_push];rw[if_neg (by omega)]
   ·rcases hS.live b with hb|hb
    ·left;rw[hh];simp;omega
    ·exact .inr hb
  have FX:gZ (w.alloc (.cells #[] 9)) σ [] [] (.tok 1 []) (.slice (some ⟨w.heap.size,0,none⟩) 0 0):=⟨.nil _ _,by simp,_,0,rfl,by simp,.inl rfl⟩;obtain⟨r,w',σ',hr,hro,hsz,hos,hout,hn,hli,uo,hbk,hzero,h1c⟩:=zL (lab:=none) (P:=prog) (w:=w.alloc (.cells #[] 9)) (σ:=σ) (S:=[]) (β:=[]) (t:=43) (u:=43) (ty:=43) (e:=9) (size:=1) (es:=[]) (ys:=es) hg.live underlying43 (.inl ⟨_,underlying43⟩) ⟨[.d (.s [])],by kernel_rfl,rfl⟩ rfl (by decide +kernel) FX (JL (dK.mono hg.near hd) h1) (by simpa using ap7);rw[List.nil_append] at hro hbk;refine(acj w w' a es.length c r hr).mono fun e w'' ⟨he,hw⟩=> ?_;subst hw;have hg2:Grow (w.alloc (.cells #[] 9)) σ w'' σ':=⟨hsz,hos,hout,fun b hb=>uo b hb (by simp[jJ,owns,blk]),hli⟩;have hg3:=hg.trans hg2
  obtain⟨hS',hk,hst⟩:=hS.push (o:=.tok 1 es) (h:=r) hg3 hlen (hro _ _) (fun b hb=>by
   rcases hbk b hb with h|h
   ·simp[jJ,owns,blk] at h
   ·exact Nat.le_trans hg.size h)
  refine⟨_,.c (.bI (0,bV.length) es),_,_,_,he,hS',hk,hst,⟨⟨(hro [] []).1,.tok 1 es,?_,fun bg es' e=> ?_⟩,h1c⟩,rfl,rfl⟩
  ·rw[cu]
  ·obtain⟨_,rfl⟩:=lT (lab:=none) e;exact⟨Nat.le_refl _,fun _=>by rw[<-hlen,cu]⟩
theorem bX.args{P:Program}{f:FuncId}{args args':List V}{S:Store}{post:V->Store->Prop}(h:bX P f args' S post)(hl:vL args args'):bX P f args S post:=h.weaken hl.length fun j x y hx hy w σ β v hr=>hl.at j x y hx hy w σ S β v hr
theorem og(n:Nat)(es:List (List D)):Less (.c (.lG n es)) (.c (.d (.sl es))):=fun w σ S β v h=>⟨um h.1.1,h.2⟩
theorem oh(xs:List (List UInt8))(hx:xs.length<=1073741824)(n q:Nat)(bV:List Ab.Obj)(Ω:Store):bX prog 100 [.c (.d (.sl (xs.map encS)))] (bV::Ω)
 (fun r S'=>r=.c (.bI (0,bV.length+1) (lx (aO xs) q))/\S'=(bV++[.seed n,.eG n 2 (lx (aO xs) q)])::Ω):=by
 refine ab7 (n) (rs:=[.tmp 2]) zmx func100 ntmps100 rfl rfl rfl rfl rfl ?_;refine W1 ?_;refine W3 ?_;refine kR n 3 2 [] (.inl rfl) (by simp) ?_
 refine aZ (ι:=Nat) zmx rfl [3,7,8,9] (fun i=>[.c (.bI (0,1) (lx ((aO xs).take i) q)),.c (.d (.sl (xs.map encS))),.c (.d (.i .i64 xs.length)),.c (.d (.i .i64 i))]) (fun i=>[.seed n,.eG n 2 (lx ((aO xs).take i) q)]::bV::Ω)
  (fun i=>i<=xs.length) (fun i=>xs.length-i) 0 rfl rfl (Nat.zero_le _) ?_
 intro i hi;refine W1 ?_;refine S0 (fun hb h=>?_) fun hb h=>?_
 ·have hi':i<xs.length:=by omega
  have hw:i<(aO xs).length:=by rw[jr];exact hi'
  have hg:(aO xs)[i]=bN xs[i]:=by simp[aO]
  have hl:(lx ((aO xs).take i) q).length<=i:=by rw[gG];exact List.length_take_le _ _
  refine W3 ?_;refine C1 (dx xs[i] (q+iL ((aO xs).take i))) ?_;refine W3 ?_;have hs:=Rv hw q;rw[hg,xg] at hs;rw[hs];exact dB (i+1) (by omega) rfl rfl (by omega)
 ·have hi':i=(aO xs).length:=by rw[jr];omega
  rw[hi',List.take_length];exact⟨rfl,rfl⟩
theorem afm(base:Option Addr)(n:Nat)(h1:1<=n)(hn:n<=1073741824)(w:World):Calls prog 191 #[.slice base 0 0,.int .i64 n] w fun e w'=>
 ∃cap row,n<=cap/\row.size=cap*2/\e=.returned (.slice (some ⟨w.heap.size,0,none⟩) 0 cap)/\w'={w.drew with heap:=w.heap.push (.cells row 37)}:=by
 obtain⟨cap,row,hc,hr,hm⟩:=Ky (P:=prog) (w:=w) (t:=35) (u:=3) (ty:=35) (e:=37) (base:=base) (n:=n) underlying35 underlying3 rfl rfl h1 hn (by decide +kernel) rfl
 have h0:¬((n:Int)<0):=by omega
 have h2:(0:Int)<n:=by omega
 go_enter func191,ntmps191
 go_wp2_with (at_builtin;refine Lib.wpList_append_run _ rfl _ _ _ _ rfl _ _ rfl rfl _ _ hm ?_)
 all_goals go_ret
 exact⟨cap,hc,row,hr,rfl,rfl⟩
theorem acn(base:Option Addr)(w:World):Calls prog 191 #[.slice base 0 0,.int .i64 0] w fun e w'=>e=.returned (.slice base 0 0)/\w'=w:=by
 go_enter func191,ntmps191
 go_wp2
 all_goals go_ret
 exact⟨rfl,rfl⟩
theorem afn(m n:Nat)(hn:n<=1073741824)(bV:List Ab.Obj)(Ω:Store):bX prog 191 [.c (.bF []),.c (.d (.i .i64 n))] (bV::Ω)
 (fun r S'=>r=.c (.bI (0,bV.length) [])/\S'=(bV++[.eG m 2 []])::Ω):=by
 refine⟨⟨_,func191,by kernel_rfl,by kernel_rfl⟩,fun w σ β vs hS hv=> ?_⟩;obtain⟨hl,h⟩:=hv;obtain⟨v0,e0,⟨h0,a,m',h00⟩,_⟩:=h 0 _ rfl;obtain⟨v1,e1,h1,_⟩:=h 1 _ rfl
 have h1':v1=.int .i64 n:=by cases h1;rfl
 subst h1'
 have hm:m'=0:=by rw[h00] at h0;cases h0<;>rfl
 subst hm;subst h00
 have hvs:vs=[.slice a 0 0,.int .i64 n]:=by
  match vs,hl,e0,e1 with
  |[x,y],_,e0,e1=>simp at e0 e1;rw[e0,e1]
 subst hvs
 cases β with
 |nil=>have:=hS.shape.1;simp at this
 |cons bo bΩ=>
 have hlen:bo.length=bV.length:=by
  obtain⟨gr,g1,g2⟩:=hS.shape.2 0 bV rfl;simp at g1;rw[g1];exact g2
 by_cases hz:n=0
 ·subst hz;refine(acn a w).mono fun e w' ⟨he,hw⟩=> ?_;subst hw;obtain⟨hS',hk,hst⟩:=hS.push (o:=.eG m 2 []) (h:=.slice a 0 0) (Grow.refl hS.live) hlen ⟨h0,by simp,a,0,rfl,by simp,.inl ⟨rfl,.yJ _ _ _⟩⟩ (fun b hb=>by cases a<;>simp[owns,blk] at hb);refine⟨_,.c (.bI (0,bV.length) []),_,_,_,he,hS',hk,hst,⟨⟨h0,.eG m 2 [],?_,fun bg es e=> ?_⟩,rfl⟩,rfl,rfl⟩
  ·rw[cu]
  ·obtain⟨_,rfl⟩:=lT (lab:=some m) e;exact⟨Nat.le_refl _,fun _=>by rw[<-hlen,cu]⟩
 ·refine(afm a n (by omega) hn w).mono fun e w' ⟨cap,row,hc,hr,he,hw⟩=> ?_;subst hw;have hσ:σ w.heap.size=0:=(hS.live w.heap.size).resolve_left (by omega)
  have hg:Grow w σ {w.drew with heap:=w.heap.push (.cells row 37)} σ:=by
   refine⟨by simp,rfl,rfl,fun b hb=>⟨?_,rfl⟩,fun b=> ?_⟩
   ·simp only[Array.getElem?_push];rw[if_neg (by omega)]
   ·rcases hS.live b with hb|hb
    ·left;simp;omega
    ·exact .inr hb
  obtain⟨hS',hk,hst⟩:=hS.push (o:=.eG m 2 []) (h:=.slice (some ⟨w.heap.size,0,none⟩) 0 cap) hg hlen ⟨.nil _ _,by simp,_,cap,rfl,by simp,.inr ⟨by simp;omega,w.heap.size,0,row,37,rfl,by simp,by simp[hσ],by omega⟩⟩ (fun b hb=>by
   simp only[owns,blk] at hb;split at hb
   ·cases hb
   ·cases hb;exact Nat.le_refl _)
  refine⟨_,.c (.bI (0,bV.length) []),_,_,_,he,hS',hk,hst,⟨⟨.nil _ _,.eG m 2 [],?_,fun bg es e=> ?_⟩,rfl⟩,rfl,rfl⟩
  ·rw[cu]
  ·obtain⟨_,rfl⟩:=lT (lab:=some m) e;exact⟨Nat.le_refl _,fun _=>by rw[<-hlen,cu]⟩
theorem Y2(m l:Nat)(xss:List (Nat×List (List D)))(hl:xss.length<=1073741824)(hr:∀p∈xss,∀r∈p.2,r.length=2)(hf:(xss.map (·.2)).flatten.length<=1073741824):aF prog 102 [.c (.lG l (xss.map fun p=>[.ol p.1 p.2]))] (.c (.d (.ol m (xss.map (·.2)).flatten))):=fun S=>by
 obtain⟨ys,hys⟩:∃ys:List (List (List D)),ys=xss.map (·.2):=⟨_,rfl⟩;rw[<-hys] at hf ⊢
 have hyl:ys.length=xss.length:=by rw[hys,List.length_map]
 have hyi:∀i (hi:i<xss.length),ys[i]'(by omega)=xss[i].2:=fun i hi=>by simp[hys]
 have Ov:∀i (hi:i<xss.length),∀r∈xss[i].2,r.length=2:=fun i hi=>hr _ (List.getElem_mem hi);refine lq (m) (rs:=[.tmp 2]) zmx func102 ntmps102 rfl rfl rfl rfl rfl ?_;refine W1 ?_
 refine aZ (ι:=Nat) zmx rfl [0,3,9,10,11] (fun i=>[.c (.lG l (xss.map fun p=>[.ol p.1 p.2])),.c (.d (.i .i64 (ys.take i).flatten.length)),.c (.lG l (xss.map fun p=>[.ol p.1 p.2])),.c (.d (.i .i64 xss.length)),.c (.d (.i .i64 i))]) (fun _=>[.seed m]::S)
  (fun i=>i<=xss.length) (fun i=>xss.length-i) 0 rfl rfl (Nat.zero_le _) ?_
 rintro i p1;have hfi:=zn ys i;by_cases hi:i<xss.length
 ·have hs:=IU ys (i:=i) (by omega);rw[hyi i hi] at hs;have aiJ:=zn ys (i+1);refine W1 ?_;refine S0 (fun hb h=>?_) fun hb h=>?_
  ·refine W3 ?_;refine S0 (fun hb h=>?_) fun hb h=>?_
   ·omega
   ·refine dB (i+1) (by omega) ?_ rfl (by omega);rw[hs];rfl
  ·omega
 have hi:i=xss.length:=by omega
 subst hi;refine W1 ?_;refine S0 (fun hb h=>?_) fun hb h=>?_
 ·omega
 rw[<-hyl,List.take_length];clear hfi;refine aW rfl (afn m ys.flatten.length hf [.seed m] S) ?_;refine W1 ?_
 refine aZ (ι:=Nat) zmx rfl [6,25,26,27] (fun i=>[.c (.bI (0,1) (ys.take i).flatten),.c (.lG l (xss.map fun p=>[.ol p.1 p.2])),.c (.d (.i .i64 xss.length)),.c (.d (.i .i64 i))]) (fun i=>[.seed m,.eG m 2 (ys.take i).flatten]::S)
  (fun i=>i<=xss.length) (fun i=>xss.length-i) 0 (by rw[<-hyl];rfl) rfl (Nat.zero_le _) ?_
 rintro i p1;have hfi:=zn ys i;by_cases hi:i<xss.length
 ·have hs:=IU ys (i:=i) (by omega);rw[hyi i hi] at hs;have aiJ:=zn ys (i+1)
  have e:(ys.take (i+1)).flatten=(ys.take i).flatten++xss[i].2:=by
   rw[List.take_succ_eq_append_getElem (by omega),List.flatten_append,hyi i hi];simp only[List.flatten_cons,List.flatten_nil,List.append_nil]
  have Ju:=Ov i hi;refine W1 ?_;refine S0 (fun hb h=>?_) fun hb h=>?_
  ·refine W3 ?_;exact dB (i+1) (by omega) (by rw[e];rfl) (by rw[e]) (by omega)
  ·omega
 ·have hi:i=ys.length:=by omega
  refine W1 ?_;refine S0 (fun hb h=>?_) fun hb h=>?_
  ·omega
  rw[hi,List.take_length]
theorem kI{x:ay}{k:Int}(h:x.aM=k):jg x.aM x.bO x.fName x.fType=jg k x.bO x.fName x.fType:=by rw[h]
theorem Te{l:List ay}{t:ay}(h:t∈l):t.sz<=vM l:=by
 rw[<-Nv];exact dz (List.mem_map_of_mem h)
theorem P6{l:List bq}{t:bq}(h:t∈l):t.sz<=Da l:=by
 rw[<-Nw];exact dz (List.mem_map_of_mem h)
theorem F9:∀{xs:List ay},mD xs=true<->∀t∈xs,iR t=true
 |[]=>by simp[mD]
 |t::ts=>by simp[mD,F9 (xs:=ts)]
theorem IV:∀{xs:List bq},pE xs=true<->∀t∈xs,xM t=true
 |[]=>by simp[pE]
 |t::ts=>by simp[pE,IV (xs:=ts)]
theorem lV{x:ay}(h1:x.aM≠1)(h2:x.aM≠2)(h3:x.aM≠3)(h:x.aM=4\/x.aM=5\/x.aM=6\/x.aM=8\/x.aM=9\/x.aM=10\/x.aM=11\/x.aM=12):
 fu x=bH (jg x.aM x.bO x.fName x.fType++x.fArgs.map fu):=by rw[Ku,if_neg h1,if_neg h2,if_neg h3,if_pos h,List.append_nil]
theorem P7:∀N:Nat,∀x:ay,SizeOf.sizeOf x<N->∀n:Nat,iR x=true->x.sz<=4194304->aF prog 41 [x.v] (.agg [.d (.s (fu x).aQ),.d (.ol n (lx (fu x).aj (n+1)))])
 |0=>fun x h=>by omega
 |N+1=>by
  have ih:=P7 N;intro x hn n hok hsz S;have kV:=ay.iY x;have Dv:=ay.vT x;have hzz:=yS x;rw[zl,Bool.and_eq_true,Bool.and_eq_true] at hok;obtain⟨hfi,hoa,WU⟩:=hok;have hfi:=gJ hfi;have hoa:=F9.1 hoa;have WU:=IV.1 WU;obtain⟨qa,Au⟩:∃qa,qa=n+1+iL (jg x.aM x.bO x.fName x.fType):=⟨_,rfl⟩;obtain⟨T,hT⟩:∃T:Nat->List (List D),T=fun i=>lx ((x.fArgs.map fu).take i) qa:=⟨_,rfl⟩
  have hT0:T 0=[]:=by rw[hT];rfl
  have gM:∀i,(T i).length<=i:=fun i=>by rw[hT];simp only[gG];exact List.length_take_le _ _
  have hTr:∀i,∀r∈T i,r.length=2:=fun i=>by rw[hT];exact ku
  have hTs:∀i (hi:i<x.fArgs.length),T i++[[.s (fu x.fArgs[i]).aQ,.ol (qa+iL ((x.fArgs.map fu).take i)) (lx (fu x.fArgs[i]).aj (qa+iL ((x.fArgs.map fu).take i)+1))]]=T (i+1):=fun i hi=>by
   have:=AR (l:=x.fArgs.map fu) (i:=i) (by rw[List.length_map];exact hi) qa;rw[List.getElem_map] at this;rw[hT];exact this
  have hTe:T x.fArgs.length=lx (x.fArgs.map fu) qa:=by rw[hT];simp only;rw[List.take_of_length_le (by simp)]
  clear hT;refine lq (n) (rs:=[.cell 2 37]) zmx func41 ntmps41 rfl rfl rfl rfl rfl ?_;refine W1 ?_;refine W3 ?_;refine kR n 3 2 [] (.inl rfl) (by simp) ?_
  refine aZ (ι:=Nat) zmx rfl [1,2,3,11,12,13] (fun i=>[.c (.ptr (0,1) 0),.c (.ptr (0,2) 0),.c (.bI (0,3) (T i)),.c (.d (.sl (x.fArgs.map ay.enc))),.c (.d (.i .i64 x.fArgs.length)),.c (.d (.i .i64 i))])
   (fun i=>[.seed n,.box [.d (.i .i64 x.aM),.d (.s x.bO),.d (.s x.fName),.d (.i .i64 x.fN),.d (.i .i64 x.fType.aM),.d (.s x.fType.fName),.d (.sl (x.fType.fArgs.map ak.enc)),.d (.sl (x.fArgs.map ay.enc)),.d (.sl (x.aT.map bq.enc))],.box [.d (.s []),.bF []],.eG n 2 (T i)]::S)
   (fun i=>i<=x.fArgs.length) (fun i=>x.fArgs.length-i) 0 (by rw[hT0];rfl) (by rw[hT0];rfl) (Nat.zero_le _) ?_
  intro i hi;have hl:=gM i;refine W1 ?_;refine S0 (fun hb h=>?_) fun hb h=>?_
  ·have hi':i<x.fArgs.length:=by omega
   have hm:=List.getElem_mem hi';have hez:=Te hm;have hs:=hTs i hi';refine W3 ?_;refine C1 (ih x.fArgs[i] (by have:=List.sizeOf_lt_of_mem hm;omega) (qa+iL ((x.fArgs.map fu).take i)) (hoa _ hm) (by omega)) ?_;refine W3 ?_;rw[hs];exact bT 4 (by decide) (i+1) (by omega) rfl rfl rfl rfl (by omega)
  have hi':i=x.fArgs.length:=by omega
  subst hi';clear hTs hi h hb;have hTT:=hTr x.fArgs.length;have hxe:=Ku x;refine S0 (fun hb h=>?_) fun hb h=>?_
  ·rw[if_pos h] at hxe;rw[hxe];have hb:=hfi.2.2.2.1;rw[if_pos h] at hb;refine C1 (Ny x.fN (by omega) (by omega)) ?_;refine C1 (dx _ n) ?_;rfl
  have k1:=h;rw[if_neg h] at hxe;refine S0 (fun hb h=>?_) fun hb h=>?_
  ·rw[if_pos h] at hxe;rw[hxe];refine S0 (fun hb h=>?_) fun hb h=>?_
   ·rw[if_pos h];refine C1 (dx _ n) ?_;rfl
   ·rw[if_neg h];refine C1 (dx _ n) ?_;rfl
  have k2:=h;rw[if_neg h] at hxe;refine S0 (fun hb h=>?_) fun hb h=>?_
  ·rw[if_pos h] at hxe;rw[hxe];refine C1 (dx _ n) ?_;rfl
  have k3:=h;clear hxe;refine S0 (fun hb h=>?_) fun hb h=>?_
  ·have hx:=lV k1 k2 k3 (by omega)
   have hh:jg x.aM x.bO x.fName x.fType=aO [oU,x.fName]:=by rw[kI h];rfl
   rw[hh] at hx Au;refine W3 ?_;refine aW rfl (bX.args (oh [oU,x.fName] (by simp) n (n+1) _ _) (.cons (og n _) .nil)) ?_
   have Jv:(lx (aO [oU,x.fName]) (n+1)).length=2:=by rw[gG];rfl
   have Tf:=ku (l:=aO [oU,x.fName]) (n:=n+1);refine W1 ?_;refine W3 ?_;refine aW rfl (jV 0 5 _ _) ?_;refine W1 ?_;rw[hx,hTe,Au,dZ,dw,lu]
  have k4:=h;refine S0 (fun hb h=>?_) fun hb h=>?_
  ·have hx:=lV k1 k2 k3 (by omega)
   have hh:jg x.aM x.bO x.fName x.fType=aO [jm,x.bO,x.fName]:=by rw[kI h];rfl
   rw[hh] at hx Au;refine W3 ?_;refine aW rfl (bX.args (oh [jm,x.bO,x.fName] (by simp) n (n+1) _ _) (.cons (og n _) .nil)) ?_
   have Jv:(lx (aO [jm,x.bO,x.fName]) (n+1)).length=3:=by rw[gG];rfl
   have Tf:=ku (l:=aO [jm,x.bO,x.fName]) (n:=n+1);refine W1 ?_;refine W3 ?_;refine aW rfl (jV 0 5 _ _) ?_;refine W1 ?_;rw[hx,hTe,Au,dZ,dw,lu]
  have k5:=h;refine S0 (fun hb h=>?_) fun hb h=>?_
  ·have hx:=lV k1 k2 k3 (by omega)
   have hh:jg x.aM x.bO x.fName x.fType=aO [tO,x.fName]:=by rw[kI h];rfl
   rw[hh] at hx Au;refine W3 ?_;refine aW rfl (bX.args (oh [tO,x.fName] (by simp) n (n+1) _ _) (.cons (og n _) .nil)) ?_
   have Jv:(lx (aO [tO,x.fName]) (n+1)).length=2:=by rw[gG];rfl
   have Tf:=ku (l:=aO [tO,x.fName]) (n:=n+1);refine W1 ?_;refine W3 ?_;refine aW rfl (jV 0 5 _ _) ?_;refine W1 ?_;rw[hx,hTe,Au,dZ,dw,lu]
  have k6:=h;refine S0 (fun hb h=>?_) fun hb h=>?_
  ·have hx:=Ku x;rw[if_neg k1,if_neg k2,if_neg k3,if_neg (by omega)] at hx
   have hh:jg x.aM x.bO x.fName x.fType=aO [kW]:=by rw[kI h];rfl
   rw[hh] at hx Au;obtain⟨B,hB⟩:∃B:Nat->List (List D),B=fun i=>lx (x.fArgs.map fu++(x.aT.map Ar).take i) qa:=⟨_,rfl⟩;obtain⟨L,hL⟩:∃L:Nat->Nat,L=fun i=>qa+iL (x.fArgs.map fu++(x.aT.map Ar).take i):=⟨_,rfl⟩
   have hB0:T x.fArgs.length=B 0:=by rw[hTe,hB];simp only[List.take_zero,List.append_nil]
   have hBl:∀i,(B i).length<=i+x.fArgs.length:=fun i=>by
    rw[hB];simp only[gG,List.length_append,List.length_map];have:=List.length_take_le i (x.aT.map Ar);omega
   have hBr:∀i,∀r∈B i,r.length=2:=fun i=>by rw[hB];exact ku
   have hBs:∀i (hi:i<x.aT.length),B i++[[.s [],.ol (L i) (lx ([bN x.aT[i].dN]++aO x.aT[i].aH++[fu x.aT[i].fBody]) (L i+1))]]=B (i+1):=fun i hi=>by
    have:=AU (base:=x.fArgs.map fu) (l:=x.aT.map Ar) (i:=i) (by rw[List.length_map];exact hi) qa;rw[List.getElem_map,afg,dZ,dw] at this;rw[hB,hL];exact this
   have hBe:B x.aT.length=lx (x.fArgs.map fu++x.aT.map Ar) qa:=by rw[hB];simp only;rw[List.take_of_length_le (by simp)]
   clear hB hL hTT;refine W3 ?_;refine aW rfl (bX.args (oh [kW] (by simp) n (n+1) _ _) (.cons (og n _) .nil)) ?_
   have Jv:(lx (aO [kW]) (n+1)).length=1:=by rw[gG];rfl
   have Tf:=ku (l:=aO [kW]) (n:=n+1);refine W1 ?_;rw[hB0];obtain⟨HD,hHD⟩:∃HD,HD=lx (aO [kW]) (n+1):=⟨_,rfl⟩;rw[<-hHD] at Jv Tf ⊢
   refine aZ (ι:=Nat) zmx rfl [2,3,6,69,70,71] (fun i=>[.c (.ptr (0,2) 0),.c (.bI (0,3) (B i)),.c (.bI (0,5) HD),.c (.d (.sl (x.aT.map bq.enc))),.c (.d (.i .i64 x.aT.length)),.c (.d (.i .i64 i))])
    (fun i=>[.seed n,.box [.d (.i .i64 x.aM),.d (.s x.bO),.d (.s x.fName),.d (.i .i64 x.fN),.d (.i .i64 x.fType.aM),.d (.s x.fType.fName),.d (.sl (x.fType.fArgs.map ak.enc)),.d (.sl (x.fArgs.map ay.enc)),.d (.sl (x.aT.map bq.enc))],.box [.d (.s []),.bF []],.eG n 2 (B i),.seed n,.eG n 2 HD]::S)
    (fun i=>i<=x.aT.length) (fun i=>x.aT.length-i) 0 rfl rfl (Nat.zero_le _) ?_
   intro i hi;have hl:=hBl i;have hr:=hBr i;refine W1 ?_;refine S0 (fun hb h=>?_) fun hb h=>?_
   ·have hi':i<x.aT.length:=by omega
    have hm:=List.getElem_mem hi';have hez:=P6 hm;have hea:=Ch x.aT[i];have hs:=hBs i hi';have hak:=WU _ hm;rw[tN,Bool.and_eq_true,Bool.and_eq_true] at hak;have hls:=List.sizeOf_lt_of_mem hm;have hlb:=bq.uz x.aT[i];refine W3 ?_;refine jS (CB [x.aT[i].dN] (by simp) 0 (L i+1)) (.cons (og n _) .nil) ?_;refine W1 ?_;refine C1 (CB x.aT[i].aH (by omega) 0 (L i+1+iL (aO [x.aT[i].dN]))) ?_;refine C1 (ih x.aT[i].fBody (by omega) (L i+1+iL (aO [x.aT[i].dN]++aO x.aT[i].aH)) hak.2.2 (by omega)) ?_;refine W3 ?_;refine bD (Y2 (L i) n [(0,lx (aO [x.aT[i].dN]) (L i+1)),(0,lx (aO x.aT[i].aH) (L i+1+iL (aO [x.aT[i].dN]))),(n,[[.s (fu x.aT[i].fBody).aQ,.ol (L i+1+iL (aO [x.aT[i].dN]++aO x.aT[i].aH)) (lx (fu x.aT[i].fBody).aj (L i+1+iL (aO [x.aT[i].dN]++aO x.aT[i].aH)+1))]])] (by simp) ?_ ?_) ?_
    ·intro p hp;simp only[List.mem_cons,List.not_mem_nil,or_false] at hp;rcases hp with rfl|rfl|rfl
     ·exact ku
     ·exact ku
     ·simp
    ·simp only[List.map_cons,List.map_nil,List.flatten_cons,List.flatten_nil,List.length_append,gG,jr,List.length_cons,List.length_nil];omega
    refine W1 ?_;refine C1 (kP _) ?_;refine W3 ?_
    have hrow:[lx (aO [x.aT[i].dN]) (L i+1),lx (aO x.aT[i].aH) (L i+1+iL (aO [x.aT[i].dN])),[[.s (fu x.aT[i].fBody).aQ,.ol (L i+1+iL (aO [x.aT[i].dN]++aO x.aT[i].aH)) (lx (fu x.aT[i].fBody).aj (L i+1+iL (aO [x.aT[i].dN]++aO x.aT[i].aH)+1))]]].flatten=lx ([bN x.aT[i].dN]++aO x.aT[i].aH++[fu x.aT[i].fBody]) (L i+1):=by
     have e1:[bN x.aT[i].dN]=aO [x.aT[i].dN]:=rfl;rw[e1,lu,lu,jG (fu x.aT[i].fBody) [],nk,jF (fu x.aT[i].fBody)];simp only[List.flatten_cons,List.flatten_nil,List.append_nil,List.append_assoc]
    rw[hrow,hs];exact bT 6 (by decide) (i+1) (by omega) rfl rfl rfl rfl (by omega)
   ·have hi':i=x.aT.length:=by omega
    subst hi';have hr2:=hBr x.aT.length;refine W3 ?_;refine aW rfl (jV 0 5 _ _) ?_;refine W1 ?_;rw[hx,hBe,Au,hHD,dZ,dw,List.append_assoc,lu (aO [kW])]
  have k7:=h;refine S0 (fun hb h=>?_) fun hb h=>?_
  ·have hx:=lV k1 k2 k3 (by omega)
   have hh:jg x.aM x.bO x.fName x.fType=aO [tQ,x.fName]:=by rw[kI h];rfl
   rw[hh] at hx Au;refine W3 ?_;refine aW rfl (bX.args (oh [tQ,x.fName] (by simp) n (n+1) _ _) (.cons (og n _) .nil)) ?_
   have Jv:(lx (aO [tQ,x.fName]) (n+1)).length=2:=by rw[gG];rfl
   have Tf:=ku (l:=aO [tQ,x.fName]) (n:=n+1);refine W1 ?_;refine W3 ?_;refine aW rfl (jV 0 5 _ _) ?_;refine W1 ?_;rw[hx,hTe,Au,dZ,dw,lu]
  have k8:=h;refine S0 (fun hb h=>?_) fun hb h=>?_
  ·have hx:=lV k1 k2 k3 (by omega)
   have hh:jg x.aM x.bO x.fName x.fType=aO [yD]:=by rw[kI h];rfl
   rw[hh] at hx Au;refine W3 ?_;refine aW rfl (bX.args (oh [yD] (by simp) n (n+1) _ _) (.cons (og n _) .nil)) ?_
   have Jv:(lx (aO [yD]) (n+1)).length=1:=by rw[gG];rfl
   have Tf:=ku (l:=aO [yD]) (n:=n+1);refine W1 ?_;refine W3 ?_;refine aW rfl (jV 0 5 _ _) ?_;refine W1 ?_;rw[hx,hTe,Au,dZ,dw,lu]
  have k9:=h;refine S0 (fun hb h=>?_) fun hb h=>?_
  ·have hx:=lV k1 k2 k3 (by omega)
   have hh:jg x.aM x.bO x.fName x.fType=aO [x.fName]:=by rw[kI h];rfl
   rw[hh] at hx Au;refine W3 ?_;refine aW rfl (bX.args (oh [x.fName] (by simp) n (n+1) _ _) (.cons (og n _) .nil)) ?_
   have Jv:(lx (aO [x.fName]) (n+1)).length=1:=by rw[gG];rfl
   have Tf:=ku (l:=aO [x.fName]) (n:=n+1);refine W1 ?_;refine W3 ?_;refine aW rfl (jV 0 5 _ _) ?_;refine W1 ?_;rw[hx,hTe,Au,dZ,dw,lu]
  have k10:=h;refine S0 (fun hb h=>?_) fun hb h=>?_
  ·have hx:=lV k1 k2 k3 (by omega)
   have hh:jg x.aM x.bO x.fName x.fType=aO [oV,x.bO]:=by rw[kI h];rfl
   rw[hh] at hx Au;refine W3 ?_;refine aW rfl (bX.args (oh [oV,x.bO] (by simp) n (n+1) _ _) (.cons (og n _) .nil)) ?_
   have Jv:(lx (aO [oV,x.bO]) (n+1)).length=2:=by rw[gG];rfl
   have Tf:=ku (l:=aO [oV,x.bO]) (n:=n+1);refine W1 ?_;refine W3 ?_;refine aW rfl (jV 0 5 _ _) ?_;refine W1 ?_;rw[hx,hTe,Au,dZ,dw,lu]
  have k11:=h;refine S0 (fun hb h=>?_) fun hb h=>?_
  ·have hx:=lV k1 k2 k3 (by omega)
   have hh:jg x.aM x.bO x.fName x.fType=[bN uF,dn x.fType]:=by rw[kI h];rfl
   rw[hh] at hx Au;have hty:=hfi.2.2.2.2.1;rw[if_pos h] at hty;refine C1 (dx _ (n+1)) ?_;refine C1 (lJ x.fType (n+1+1) (wY hty) (by omega)) ?_;refine W3 ?_;refine aW rfl (jV 0 4 _ _) ?_;refine W1 ?_;rw[hx,hTe,Au,dZ,dw,lu];simp only[jG,nk,jF,kM,kN,jT,ab9,aff,uF,List.cons_append,List.nil_append]
  ·have:=hfi.1;omega
theorem Ae(x:ay)(n:Nat)(hok:iR x=true)(hsz:x.sz<=4194304):aF prog 41 [x.v] (.agg [.d (.s (fu x).aQ),.d (.ol n (lx (fu x).aj (n+1)))]):=P7 _ x (Nat.lt_succ_self _) n hok hsz
theorem rE(hd:List ah)(xs:List ay)(S:Store)(hA:∀t∈xs,aF prog 45 [t.v] (fu t).v)(hl:xs.length<=4194304)(hh:hd.length<=4):bX prog 115 [.c (.bF (hd.map ah.enc)),.c (.d (.sl (xs.map ay.enc)))] S
 (fun r S'=>r=.agg [.d (.s []),.d (.sl ((hd++xs.map fu).map ah.enc))]/\S'=S):=by
 obtain⟨T,hT⟩:∃T:Nat->List (List D),T=fun i=>(hd++(xs.map fu).take i).map ah.enc:=⟨_,rfl⟩
 have hT0:T 0=hd.map ah.enc:=by rw[hT];simp only[List.take_zero,List.append_nil]
 have gM:∀i,(T i).length<=i+hd.length:=fun i=>by
  rw[hT];simp only[List.length_map,List.length_append];have:=List.length_take_le i (xs.map fu);omega
 have hTs:∀i (hi:i<xs.length),T i++[[.s (fu xs[i]).aQ,.sl ((fu xs[i]).aj.map ah.enc)]]=T (i+1):=fun i hi=>by
  have:=jc (base:=hd) (l:=xs.map fu) (i:=i) (by rw[List.length_map];exact hi);rw[List.getElem_map] at this;rw[hT];exact this
 have hTe:T xs.length=(hd++xs.map fu).map ah.enc:=by rw[hT];simp only;rw[List.take_of_length_le (by simp)]
 clear hT;rw[<-hT0];rw[<-hTe];refine zcx [.cell 4 37] func115 ntmps115 ?_;refine W1 ?_;refine sJ 1 1 2 (T 0) [.d (.s []),.bF (T 0)] rfl rfl (by rw[hT0];exact gV) ?_
 refine aZ (ι:=Nat) zmx rfl [1,4,5,6] (fun i=>[.c (.d (.sl (xs.map ay.enc))),.c (.ptr (0,0) 0),.c (.ptr (0,1) 0),.c (.d (.i .i64 i))])
  (fun i=>[.box [.d (.s []),.bF []],.box [.d (.s []),.bI (0,2) (T i)],.tok 2 (T i)]::S)
  (fun i=>i<=xs.length) (fun i=>xs.length-i) 0 rfl rfl (Nat.zero_le _) ?_
 intro i hi;have hl:=gM i;refine W1 ?_;refine S0 (fun hb h=>?_) fun hb h=>?_
 ·have hi':i<xs.length:=by omega
  have hs:=hTs i hi';refine W3 ?_;refine C1 (hA xs[i] (List.getElem_mem hi')) ?_;refine W3 ?_;rw[hs];exact dB (i+1) (by omega) rfl rfl (by omega)
 ·have hi':i=xs.length:=by omega
  subst hi';rfl
theorem WV(hd:List ah)(xs:List ay)(bV:List Ab.Obj)(Ω:Store)(hA:∀t∈xs,aF prog 45 [t.v] (fu t).v)(hl:xs.length<=4194304)(hh:hd.length<=4):bX prog 115 [.c (.bF (hd.map ah.enc)),.c (.d (.sl (xs.map ay.enc)))] (bV::Ω)
 (fun r S'=>r=.agg [.d (.s []),.bI (0,bV.length+2) ((hd++xs.map fu).map ah.enc)]/\S'=(bV++[.box [.d (.s []),.bI (0,bV.length+2) ((hd++xs.map fu).map ah.enc)],.box [.d (.s []),.bI (0,bV.length+2) ((hd++xs.map fu).map ah.enc)],.tok 2 ((hd++xs.map fu).map ah.enc)])::Ω):=by
 obtain⟨T,hT⟩:∃T:Nat->List (List D),T=fun i=>(hd++(xs.map fu).take i).map ah.enc:=⟨_,rfl⟩
 have hT0:T 0=hd.map ah.enc:=by rw[hT];simp only[List.take_zero,List.append_nil]
 have gM:∀i,(T i).length<=i+hd.length:=fun i=>by
  rw[hT];simp only[List.length_map,List.length_append];have:=List.length_take_le i (xs.map fu);omega
 have hTs:∀i (hi:i<xs.length),T i++[[.s (fu xs[i]).aQ,.sl ((fu xs[i]).aj.map ah.enc)]]=T (i+1):=fun i hi=>by
  have:=jc (base:=hd) (l:=xs.map fu) (i:=i) (by rw[List.length_map];exact hi);rw[List.getElem_map] at this;rw[hT];exact this
 have hTe:T xs.length=(hd++xs.map fu).map ah.enc:=by rw[hT];simp only;rw[List.take_of_length_le (by simp)]
 clear hT;rw[<-hT0];rw[<-hTe];refine J6 (rs:=[.cell 4 37]) zmx func115 ntmps115 rfl rfl rfl rfl rfl ?_;refine W1 ?_;refine sJ 1 1 2 (T 0) [.d (.s []),.bF (T 0)] rfl rfl (by rw[hT0];exact gV) ?_
 refine aZ (ι:=Nat) zmx rfl [1,4,5,6] (fun i=>[.c (.d (.sl (xs.map ay.enc))),.c (.ptr (0,0) 0),.c (.ptr (0,1) 0),.c (.d (.i .i64 i))])
  (fun i=>[.box [.d (.s []),.bF []],.box [.d (.s []),.bI (0,2) (T i)],.tok 2 (T i)]::bV::Ω)
  (fun i=>i<=xs.length) (fun i=>xs.length-i) 0 rfl rfl (Nat.zero_le _) ?_
 intro i hi;have hl:=gM i;refine W1 ?_;refine S0 (fun hb h=>?_) fun hb h=>?_
 ·have hi':i<xs.length:=by omega
  have hs:=hTs i hi';refine W3 ?_;refine C1 (hA xs[i] (List.getElem_mem hi')) ?_;refine W3 ?_;rw[hs];exact dB (i+1) (by omega) rfl rfl (by omega)
 ·have hi':i=xs.length:=by omega
  subst hi';exact⟨rfl,rfl⟩
theorem P8:∀N:Nat,∀x:ay,SizeOf.sizeOf x<N->iR x=true->x.sz<=4194304->aF prog 45 [x.v] (fu x).v
 |0=>fun x h=>by omega
 |N+1=>by
  have ih:=P8 N;intro x hn hok hsz S;have kV:=ay.iY x;have Dv:=ay.vT x;have hzz:=yS x;rw[zl,Bool.and_eq_true,Bool.and_eq_true] at hok;obtain⟨hfi,hoa,WU⟩:=hok;have hfi:=gJ hfi;have hoa:=F9.1 hoa;have WU:=IV.1 WU;have hA:∀t∈x.fArgs,aF prog 45 [t.v] (fu t).v:=fun t ht=>ih t (by have:=List.sizeOf_lt_of_mem ht;omega) (hoa t ht) (by have:=Te ht;omega);have hxe:=Ku x;refine zcx [.cell 2 37] func45 ntmps45 ?_;refine W1 ?_;refine S0 (fun hb h=>?_) fun hb h=>?_
  ·rw[if_pos h] at hxe;rw[hxe];have hb:=hfi.2.2.2.1;rw[if_pos h] at hb;refine C1 (Nz x.fN (by omega) (by omega)) ?_;refine C1 (bS _) ?_;rfl
  have k1:=h;rw[if_neg h] at hxe;refine S0 (fun hb h=>?_) fun hb h=>?_
  ·rw[if_pos h] at hxe;rw[hxe];have hb:=hfi.2.2.2.1;rw[if_neg k1,if_pos h] at hb;rcases hb with e|e
   ·rw[e];simp -implicitDefEqProofs (disch:=omega) only[go_sem,List.getD_cons_zero];refine W3 ?_;refine C1 (bS _) ?_;rfl
   ·rw[e];simp -implicitDefEqProofs (disch:=omega) only[go_sem,List.getD_cons_zero,List.getD_cons_succ];refine W3 ?_;refine C1 (bS _) ?_;rfl
  have k2:=h;rw[if_neg h] at hxe;refine S0 (fun hb h=>?_) fun hb h=>?_
  ·rw[if_pos h] at hxe;rw[hxe];refine C1 (bS _) ?_;rfl
  have k3:=h;clear hxe;refine S0 (fun hb h=>?_) fun hb h=>?_
  ·have hx:=lV k1 k2 k3 (by omega)
   have hh:jg x.aM x.bO x.fName x.fType=[bN oU,bN x.fName]:=by rw[kI h];rfl
   rw[hh] at hx;refine C1 (bS _) ?_;refine C1 (bS _) ?_;have hE:=fun S=>rE [bN oU,bN x.fName] x.fArgs S hA (by omega) (by simp);simp only[List.map_cons,List.map_nil,fC] at hE;refine aW rfl (hE _) ?_;refine W1 ?_;rw[hx];rfl
  have k4:=h;refine S0 (fun hb h=>?_) fun hb h=>?_
  ·have hx:=lV k1 k2 k3 (by omega)
   have hh:jg x.aM x.bO x.fName x.fType=[bN jm,bN x.bO,bN x.fName]:=by rw[kI h];rfl
   rw[hh] at hx;refine C1 (bS _) ?_;refine C1 (bS _) ?_;refine C1 (bS _) ?_;have hE:=fun S=>rE [bN jm,bN x.bO,bN x.fName] x.fArgs S hA (by omega) (by simp);simp only[List.map_cons,List.map_nil,fC] at hE;refine aW rfl (hE _) ?_;refine W1 ?_;rw[hx];rfl
  have k5:=h;refine S0 (fun hb h=>?_) fun hb h=>?_
  ·have hx:=lV k1 k2 k3 (by omega)
   have hh:jg x.aM x.bO x.fName x.fType=[bN tO,bN x.fName]:=by rw[kI h];rfl
   rw[hh] at hx;refine C1 (bS _) ?_;refine C1 (bS _) ?_;have hE:=fun S=>rE [bN tO,bN x.fName] x.fArgs S hA (by omega) (by simp);simp only[List.map_cons,List.map_nil,fC] at hE;refine aW rfl (hE _) ?_;refine W1 ?_;rw[hx];rfl
  have k6:=h;refine S0 (fun hb h=>?_) fun hb h=>?_
  ·have hx:=lV k1 k2 k3 (by omega)
   have hh:jg x.aM x.bO x.fName x.fType=[bN tQ,bN x.fName]:=by rw[kI h];rfl
   rw[hh] at hx;refine C1 (bS _) ?_;refine C1 (bS _) ?_;have hE:=fun S=>rE [bN tQ,bN x.fName] x.fArgs S hA (by omega) (by simp);simp only[List.map_cons,List.map_nil,fC] at hE;refine aW rfl (hE _) ?_;refine W1 ?_;rw[hx];rfl
  have k8:=h;refine S0 (fun hb h=>?_) fun hb h=>?_
  ·have hx:=lV k1 k2 k3 (by omega)
   have hh:jg x.aM x.bO x.fName x.fType=[bN yD]:=by rw[kI h];rfl
   rw[hh] at hx;refine C1 (bS _) ?_;have hE:=fun S=>rE [bN yD] x.fArgs S hA (by omega) (by simp);simp only[List.map_cons,List.map_nil,fC] at hE;refine aW rfl (hE _) ?_;refine W1 ?_;rw[hx];rfl
  have k9:=h;refine S0 (fun hb h=>?_) fun hb h=>?_
  ·have hx:=lV k1 k2 k3 (by omega)
   have hh:jg x.aM x.bO x.fName x.fType=[bN x.fName]:=by rw[kI h];rfl
   rw[hh] at hx;refine C1 (bS _) ?_;have hE:=fun S=>rE [bN x.fName] x.fArgs S hA (by omega) (by simp);simp only[List.map_cons,List.map_nil,fC] at hE;refine aW rfl (hE _) ?_;refine W1 ?_;rw[hx];rfl
  have k10:=h;refine S0 (fun hb h=>?_) fun hb h=>?_
  ·have hx:=lV k1 k2 k3 (by omega)
   have hh:jg x.aM x.bO x.fName x.fType=[bN oV,bN x.bO]:=by rw[kI h];rfl
   rw[hh] at hx;refine C1 (bS _) ?_;refine C1 (bS _) ?_;have hE:=fun S=>rE [bN oV,bN x.bO] x.fArgs S hA (by omega) (by simp);simp only[List.map_cons,List.map_nil,fC] at hE;refine aW rfl (hE _) ?_;refine W1 ?_;rw[hx];rfl
  have k11:=h;refine S0 (fun hb h=>?_) fun hb h=>?_
  ·have hx:=lV k1 k2 k3 (by omega)
   have hh:jg x.aM x.bO x.fName x.fType=[bN uF,dn x.fType]:=by rw[kI h];rfl
   rw[hh] at hx;refine C1 (bS _) ?_;refine C1 (l7 x.fType (by omega)) ?_;have hE:=fun S=>rE [bN uF,dn x.fType] x.fArgs S hA (by omega) (by simp);simp only[List.map_cons,List.map_nil,fC,ah.aJ (dn x.fType)] at hE;refine aW rfl (hE _) ?_;refine W1 ?_;rw[hx];show _=V.agg [.d (.s []),.d (.sl (List.map ah.enc (bN uF::dn x.fType::x.fArgs.map fu)))];simp only[List.cons_append,List.nil_append,List.map_cons,fC,ah.aJ (dn x.fType)];rfl
  have k12:=h
  have hk7:x.aM=7:=by have:=hfi.1;omega
  have hx:=Ku x;rw[if_neg k1,if_neg k2,if_neg k3,if_neg (by omega)] at hx
  have hh:jg x.aM x.bO x.fName x.fType=[bN kW]:=by rw[kI hk7];rfl
  rw[hh] at hx;refine C1 (bS _) ?_;have hE:=fun bV Ω=>WV [bN kW] x.fArgs bV Ω hA (by omega) (by simp);obtain⟨B,hB⟩:∃B:Nat->List (List D),B=fun i=>(([bN kW]++x.fArgs.map fu)++(x.aT.map Ar).take i).map ah.enc:=⟨_,rfl⟩
  have hB0:([bN kW]++x.fArgs.map fu).map ah.enc=B 0:=by rw[hB];simp only[List.take_zero,List.append_nil]
  have hBl:∀i,(B i).length<=i+x.fArgs.length+1:=fun i=>by
   rw[hB];simp only[List.length_append,List.length_map,List.length_cons,List.length_nil];have:=List.length_take_le i (x.aT.map Ar);omega
  have hBr:∀i,∀r∈B i,r.length=2:=fun i=>by rw[hB];exact gV
  have hBs:∀i (hi:i<x.aT.length),B i++[[.s [],.sl (([bN x.aT[i].dN]++aO x.aT[i].aH++[fu x.aT[i].fBody]).map ah.enc)]]=B (i+1):=fun i hi=>by
   have:=jc (base:=[bN kW]++x.fArgs.map fu) (l:=x.aT.map Ar) (i:=i) (by rw[List.length_map];exact hi);rw[List.getElem_map,afg,dZ,dw] at this;rw[hB];exact this
  have hBe:B x.aT.length=([bN kW]++x.fArgs.map fu++x.aT.map Ar).map ah.enc:=by rw[hB];simp only;rw[List.take_of_length_le (by simp)]
  clear hB;simp only[hB0] at hE;simp only[List.map_cons,List.map_nil,fC] at hE;refine aW rfl (hE _ _) ?_;refine W1 ?_
  refine aZ (ι:=Nat) zmx rfl [1,2,3,4] (fun i=>[.c (.ptr (0,0) 0),.c (.ptr (0,1) 0),.c (.ptr (0,5) 0),.c (.d (.i .i64 i))])
   (fun i=>[.box [.d (.i .i64 x.aM),.d (.s x.bO),.d (.s x.fName),.d (.i .i64 x.fN),.d (.i .i64 x.fType.aM),.d (.s x.fType.fName),.d (.sl (x.fType.fArgs.map ak.enc)),.d (.sl (x.fArgs.map ay.enc)),.d (.sl (x.aT.map bq.enc))],.box [.d (.s []),.bF []],.box [.d (.s []),.bI (0,4) (B 0)],.box [.d (.s []),.bI (0,4) (B 0)],.tok 2 (B i),.box [.d (.s []),.bI (0,4) (B i)]]::S)
   (fun i=>i<=x.aT.length) (fun i=>x.aT.length-i) 0 rfl rfl (Nat.zero_le _) ?_
  intro i hi;have hl:=hBl i;have hr:=hBr i;refine W1 ?_;refine S0 (fun hb h=>?_) fun hb h=>?_
  ·have hi':i<x.aT.length:=by omega
   have hm:=List.getElem_mem hi';have hez:=P6 hm;have hea:=Ch x.aT[i];have hs:=hBs i hi';have hak:=WU _ hm;rw[tN,Bool.and_eq_true,Bool.and_eq_true] at hak;have hls:=List.sizeOf_lt_of_mem hm;have hlb:=bq.uz x.aT[i];refine W3 ?_;refine C1 (bS _) ?_;refine W3 ?_;refine bD (Kr x.aT[i].aH (by omega)) ?_;have hwr:=gV (l:=aO x.aT[i].aH)
   have hwl:(aO x.aT[i].aH).length=x.aT[i].aH.length:=by rw[jr]
   refine W1 ?_;refine W3 ?_;refine C1 (ih x.aT[i].fBody (by omega) hak.2.2 (by omega)) ?_;refine W3 ?_;simp only[List.cons_append,List.nil_append,List.map_cons,List.map_nil,List.map_append,fC,ah.aJ (fu x.aT[i].fBody)] at hs;rw[hs];exact bT 6 (by decide) (i+1) (by omega) rfl rfl rfl rfl (by omega)
  ·have hi':i=x.aT.length:=by omega
   subst hi';rw[hx,hBe];rfl
theorem uP(x:ay)(hok:iR x=true)(hsz:x.sz<=4194304):aF prog 45 [x.v] (fu x).v:=P8 _ x (Nat.lt_succ_self _) hok hsz
theorem WW{x:ay}(h:sQ x=true):iR x=true:=by rw[sQ,Bool.and_eq_true] at h;exact h.2
noncomputable def CG(k:Int)(n:List UInt8)(bound out:List (List UInt8)):List (List UInt8):=if k=3/\n∉bound/\n∉out then out++[n] else out
mutual
noncomputable def kX:ay->List (List UInt8)->List (List UInt8)->List (List UInt8)
 | .mk k _ n _ _ a b,bound,out=>xP b bound (uh a k n 0 bound (CG k n bound out))
noncomputable def uh:List ay->Int->List UInt8->Nat->List (List UInt8)->List (List UInt8)->List (List UInt8)
 |[],_,_,_,_,out=>out
 |x::xs,k,n,i,bound,out=>uh xs k n (i+1) bound (kX x (if k=8/\i=1 then bound++[n] else bound) out)
noncomputable def xP:List bq->List (List UInt8)->List (List UInt8)->List (List UInt8)
 |[],_,out=>out
 |x::xs,bound,out=>xP xs bound (IW x bound out)
noncomputable def IW:bq->List (List UInt8)->List (List UInt8)->List (List UInt8)
 | .mk _ v b,bound,out=>kX b (bound++v) out
end
theorem WX(x:ay)(bound out:List (List UInt8)):kX x bound out=xP x.aT bound (uh x.fArgs x.aM x.fName 0 bound (CG x.aM x.fName bound out)):=by cases x;rw[kX];rfl
theorem WY(x:bq)(bound out:List (List UInt8)):IW x bound out=kX x.fBody (bound++x.aH) out:=by cases x;rw[IW];rfl
theorem P9{xs:List ay}{k:Int}{n:List UInt8}{i:Nat}{bound out:List (List UInt8)}(hi:i<xs.length):uh (xs.drop i) k n i bound out=uh (xs.drop (i+1)) k n (i+1) bound (kX xs[i] (if k=8/\i=1 then bound++[n] else bound) out):=by
 rw[List.drop_eq_getElem_cons hi,uh]
theorem Qa{xs:List bq}{i:Nat}{bound out:List (List UInt8)}(hi:i<xs.length):xP (xs.drop i) bound out=xP (xs.drop (i+1)) bound (IW xs[i] bound out):=by
 rw[List.drop_eq_getElem_cons hi,xP]
theorem NA(k:Int)(n:List UInt8)(bound out:List (List UInt8)):(CG k n bound out).length<=out.length+1:=by
 unfold CG;split<;>simp
mutual
theorem xu:∀(x:ay)(bound out:List (List UInt8)),(kX x bound out).length<=out.length+x.cnt
 | .mk k t n m ty a b,bound,out=>by
   have h1:=NA k n bound out;have h2:=Tg a k n 0 bound (CG k n bound out);have h3:=Ti b bound (uh a k n 0 bound (CG k n bound out));rw[kX,ay.cnt];omega
theorem Tg:∀(xs:List ay)(k:Int)(n:List UInt8)(i:Nat)(bound out:List (List UInt8)),(uh xs k n i bound out).length<=out.length+ay.eT xs
 |[],k,n,i,bound,out=>by rw[uh,ay.eT];omega
 |x::xs,k,n,i,bound,out=>by
  have h1:=xu x (if k=8/\i=1 then bound++[n] else bound) out;have h2:=Tg xs k n (i+1) bound (kX x (if k=8/\i=1 then bound++[n] else bound) out);rw[uh,ay.eT];omega
theorem Ti:∀(xs:List bq)(bound out:List (List UInt8)),(xP xs bound out).length<=out.length+bq.eT xs
 |[],bound,out=>by rw[xP,bq.eT];omega
 |x::xs,bound,out=>by
  have h1:=afp x bound out;have h2:=Ti xs bound (IW x bound out);rw[xP,bq.eT];omega
theorem afp:∀(x:bq)(bound out:List (List UInt8)),(IW x bound out).length<=out.length+x.cnt
 | .mk c v b,bound,out=>by
   have h1:=xu b (bound++v) out;rw[IW,bq.cnt];omega
end
theorem ay.wV{x:ay}{i:Nat}(hi:i<x.fArgs.length):x.fArgs[i].sz+x.fArgs.length<=x.sz:=by
 have hx:x.fArgs[i].sz<=aP (x.fArgs.map ay.enc):=dz (List.mem_map_of_mem (List.getElem_mem hi));have:=ay.Es x;omega
theorem ay.afq{x:ay}{i:Nat}(hi:i<x.aT.length):x.aT[i].sz+x.aT.length<=x.sz:=by
 have hx:x.aT[i].sz<=aP (x.aT.map bq.enc):=dz (List.mem_map_of_mem (List.getElem_mem hi));have:=ay.Es x;omega
theorem bq.ZW(x:bq):x.aH.length+x.fBody.sz<=x.sz:=by
 simp only[bq.sz,bq.aJ,ay.sz,bQ,bP,D.sz,List.length_map];omega
theorem LU(xs:List (List UInt8))(s:List UInt8):xs.map encS++[[D.s s]]=(xs++[s]).map encS:=by simp[encS]
theorem Kz:∀N:Nat,∀x:ay,SizeOf.sizeOf x<N->x.sz<=4194304->∀(bound out:List (List UInt8))(l j:Nat)(S:Store),bE S (l,j)=some (.tok 1 (out.map encS))->out.length+x.cnt<=1073741824->bound.length+x.sz<=1073741824->
 bX prog 256 [.c (.bI (l,j) (out.map encS)),x.v,.c (.d (.sl (bound.map encS)))] S (fun r S'=>r=.c (.bI (l,j) ((kX x bound out).map encS))/\S'=bG S (l,j) (.tok 1 ((kX x bound out).map encS)))
 |0=>fun x h=>by omega
 |N+1=>by
  have ih:=Kz N;intro x hn hsz bound out l j S hk hc hbd;have hb0:=ay.Es x;have kV:=ay.iY x;have Dv:=ay.vT x;have hcn:=ay.qH x;have Pv:∀y:Ab.Obj,bE (bG S (l,j) y) (l,j)=some y:=fun y=>dL _ _ _ _ hk;have hS0:bG S (l,j) (.tok 1 (out.map encS))=S:=Fu _ _ hk;have fin:=WX x bound out;have hal:=NA x.aM x.fName bound out;obtain⟨o1,ho1⟩:∃o1,CG x.aM x.fName bound out=o1:=⟨_,rfl⟩;rw[ho1] at fin hal;refine(show Hold ?T->_ from fun tail=> ?main) ?tp
  case' main=>
   refine zcx [.tmp 6] func256 ntmps256 ?_;simp -implicitDefEqProofs (disch:=omega) only[go_sem,hk]
   repeat' (first
    |(with_reducible refine dS (fun hb=> ?_) (fun hb=> ?_)<;>have h:=hb<;>(try simp only[wf_preprocess] at h)<;>simp -implicitDefEqProofs (disch:=omega) only[go_sem,hb,hk]<;>refine W3 ?_)
    |(refine bD (rR bound x.fName (by omega)) ?_;simp -implicitDefEqProofs (disch:=omega) only[go_sem,hk];refine W3 ?_)
    |(refine bD (rR out x.fName (by omega)) ?_;simp -implicitDefEqProofs (disch:=omega) only[go_sem,hk];refine W3 ?_))
   all_goals first
    |(have ha:CG x.aM x.fName bound out=out++[x.fName]:=if_pos ⟨by assumption,by assumption,by assumption⟩)
    |(have ha:CG x.aM x.fName bound out=out:=if_neg (fun y=>by have:=y.1;have:=y.2.1;have:=y.2.2;contradiction))
   all_goals
    refine qx (st':=[.box (x.enc.map .d)]::bG S (l,j) (.tok 1 (o1.map encS))) [0,2,4,34,35,36] [.c (.bI (1+l,j) (o1.map encS)),.c (.d (.sl (bound.map encS))),.c (.ptr (0,0) 0),.c (.d (.sl (x.fArgs.map ay.enc))),.c (.d (.i .i64 x.fArgs.length)),.c (.d (.i .i64 0))] ?_ ?_ ?_
    ·first|(rw[<-ho1,ha];rfl)|(rw[<-ho1,ha,<-LU];rfl)
    ·first|(rw[<-ho1,ha,hS0];exact Z1;done)|(rw[<-ho1,ha,<-LU];exact Z1;done)
    ·exact tail.out
  refine⟨?_⟩;clear ho1
  refine aZ (ι:=Nat×List (List UInt8)) zmx rfl [0,2,4,34,35,36] (fun y=>[.c (.bI (1+l,j) (y.2.map encS)),.c (.d (.sl (bound.map encS))),.c (.ptr (0,0) 0),.c (.d (.sl (x.fArgs.map ay.enc))),.c (.d (.i .i64 x.fArgs.length)),.c (.d (.i .i64 y.1))]) (fun y=>[.box (x.enc.map .d)]::bG S (l,j) (.tok 1 (y.2.map encS)))
   (fun y=>y.1<=x.fArgs.length/\y.2.length+ay.eT (x.fArgs.drop y.1)+bq.eT x.aT<=1073741824/\uh (x.fArgs.drop y.1) x.aM x.fName y.1 bound y.2=uh x.fArgs x.aM x.fName 0 bound o1) (fun y=>x.fArgs.length-y.1) (0,o1) rfl rfl ⟨Nat.zero_le _,by simp only[List.drop_zero];omega,rfl⟩ ?_
  rintro⟨i,o⟩ ⟨p1,p2,p3⟩
  have refs:∀{a b},iN 1 (gT [0,2,4,34,35,36] [.c (.bI (1+l,j) a),.c (.d (.sl (bound.map encS))),.c (.ptr (0,0) 0),.c (.d (.sl (x.fArgs.map ay.enc))),.c (.d (.i .i64 x.fArgs.length)),.c (.d (.i .i64 b))])=true:=fun {a b}=>by simp[iN,gT,V.refs,C.refs,jY];omega
  simp only at p1 p2 p3;refine W1 ?_;refine S0 (fun hb h=>?_) fun hb h=>?_
  ·have hi:i<x.fArgs.length:=by omega
   have hs:=List.sizeOf_lt_of_mem (List.getElem_mem hi);have hz:=ay.wV hi;rw[P9 hi] at p3;rw[ay.ng hi] at p2;have hlo:=xu x.fArgs[i] (if x.aM=8/\i=1 then bound++[x.fName] else bound) o;refine W3 ?_
   have two:x.fArgs[i].sz+(bound.length+1)<=1073741824:=by omega
   repeat' (first|refine S0 (fun hb h=>?_) fun hb h=>?_)
   ·
    have e1:x.aM=8/\i=1:=⟨by omega,by omega⟩;rw[if_pos e1] at p3 hlo;refine anl rfl DS.push (afl bound (by omega) _ _) ?_;refine W1 ?_;refine W3 ?_;rw[LU];refine cK [true,true,false] rfl (ih x.fArgs[i] (by omega) (by omega) (bound++[x.fName]) o (1+l) j _ (by refine W1 ?_;exact Pv _) (by omega) (by simp only[List.length_append,List.length_cons,List.length_nil];omega)) ?_;simp -implicitDefEqProofs (disch:=omega) only[go_sem,dJ];exact bT 1 (by decide) (i+1,kX x.fArgs[i] (bound++[x.fName]) o) (by simp only;omega) rfl rfl refs rfl ⟨by simp only;omega,by simp only;omega,p3⟩
   all_goals
    have e1:¬(x.aM=8/\i=1):=fun h=>by omega
    rw[if_neg e1] at p3 hlo;refine aW rfl (ih x.fArgs[i] (by omega) (by omega) bound o (1+l) j _ (by refine W1 ?_;exact Pv _) (by omega) (by omega)) ?_;simp -implicitDefEqProofs (disch:=omega) only[go_sem,dJ];exact bT 1 (by decide) (i+1,kX x.fArgs[i] bound o) (by simp only;omega) rfl rfl refs rfl ⟨by simp only;omega,by simp only;omega,p3⟩
  have hi:i=x.fArgs.length:=by omega
  rw[hi,List.drop_length] at p2 p3;rw[ay.eT] at p2;rw[uh] at p3;rw[<-p3] at fin;clear p3 refs
  refine aZ (ι:=Nat×List (List UInt8)) zmx rfl [0,2,63,64,65] (fun y=>[.c (.bI (1+l,j) (y.2.map encS)),.c (.d (.sl (bound.map encS))),.c (.d (.sl (x.aT.map bq.enc))),.c (.d (.i .i64 x.aT.length)),.c (.d (.i .i64 y.1))]) (fun y=>[.box (x.enc.map .d)]::bG S (l,j) (.tok 1 (y.2.map encS)))
   (fun y=>y.1<=x.aT.length/\y.2.length+bq.eT (x.aT.drop y.1)<=1073741824/\xP (x.aT.drop y.1) bound y.2=kX x bound out) (fun y=>x.aT.length-y.1) (0,o) rfl ?_ ⟨Nat.zero_le _,by simp only[List.drop_zero];omega,fin.symm⟩ ?_
  ·exact Z1
  clear p1 p2 fin hal;rintro⟨i,o⟩ ⟨p1,p2,p3⟩
  have refs:∀a b,iN 1 (gT [0,2,63,64,65] [.c (.bI (1+l,j) a),.c (.d (.sl (bound.map encS))),.c (.d (.sl (x.aT.map bq.enc))),.c (.d (.i .i64 x.aT.length)),.c (.d (.i .i64 b))])=true:=fun a b=>by simp[iN,gT,V.refs,C.refs,jY];omega
  simp only at p1 p2 p3;refine W1 ?_;refine S0 (fun hb h=>?_) fun hb h=>?_
  ·have hi:i<x.aT.length:=by omega
   have hs:=List.sizeOf_lt_of_mem (List.getElem_mem hi);have hs':=bq.uz x.aT[i];have hz:=ay.afq hi;have hz':=bq.ZW x.aT[i];rw[Qa hi,WY] at p3;rw[bq.ng hi] at p2;have hlo:=xu x.aT[i].fBody (bound++x.aT[i].aH) o;have hcc:=ach [bound,x.aT[i].aH] (by simp) (by simp only[List.flatten_cons,List.flatten_nil,List.append_nil,List.length_append];omega);simp only[List.map_cons,List.map_nil,List.flatten_cons,List.flatten_nil,List.append_nil] at hcc;refine W3 ?_;refine bD hcc ?_;refine W1 ?_;refine aW rfl (ih x.aT[i].fBody (by omega) (by omega) (bound++x.aT[i].aH) o (1+l) j _ (by refine W1 ?_;exact Pv _) (by omega) (by simp only[List.length_append];omega)) ?_;simp -implicitDefEqProofs (disch:=omega) only[go_sem,dJ];exact bT 1 (by decide) (i+1,kX x.aT[i].fBody (bound++x.aT[i].aH) o) (by simp only;omega) rfl rfl (refs _ _) rfl ⟨by simp only;omega,by simp only;omega,p3⟩
  ·have hi:i=x.aT.length:=by omega
   rw[hi,List.drop_length,xP] at p3;rw[<-p3];exact⟨rfl,rfl⟩
theorem Qb(x:ay)(hsz:x.sz<=4194304):aF prog 219 [x.v] (.c (.d (.sl ((kX x [] []).map encS)))):=fun S=>by
 have hc:=ay.mF x
 have h0:∀S,bX prog 256 [.c (.bF []),x.v,.c (.d (.sl []))] S (fun r S'=>r=.c (.d (.sl ((kX x [] []).map encS)))/\S'=S):=fun S=>by
  refine bX.ahS 0 (es:=[]) (bg:=1) rfl (by simp) (Kz _ x (Nat.lt_succ_self _) hsz [] [] 0 0 ([.tok 1 []]::S) rfl (by simp;omega) (by simp;omega)) ?_;rintro r fr S' ⟨rfl,h2⟩;injection h2 with h2 h3;exact⟨_,rfl,rfl,h3⟩
 refine zcx [.tmp 2] func219 ntmps219 ?_;refine W1 ?_;refine W3 ?_;refine cK [true,true,false] rfl (h0 _) ?_;exact Z1
theorem KA:∀N:Nat,∀x:ay,SizeOf.sizeOf x<N->x.sz<=4194304->∀(bound out:List (List UInt8))(l j:Nat)(S:Store),bE S (l,j)=some (.tok 1 (out.map encS))->out.length+x.cnt<=1073741824->bound.length+x.sz<=1073741824->
 bX prog 281 [x.v,.c (.d (.sl (bound.map encS))),.c (.bI (l,j) (out.map encS))] S (fun r S'=>r=.c (.bI (l,j) ((kX x bound out).map encS))/\S'=bG S (l,j) (.tok 1 ((kX x bound out).map encS)))
 |0=>fun x h=>by omega
 |N+1=>by
  have ih:=KA N;intro x hn hsz bound out l j S hk hc hbd;have hb0:=ay.Es x;have kV:=ay.iY x;have Dv:=ay.vT x;have hcn:=ay.qH x;have Pv:∀y:Ab.Obj,bE (bG S (l,j) y) (l,j)=some y:=fun y=>dL _ _ _ _ hk;have hS0:bG S (l,j) (.tok 1 (out.map encS))=S:=Fu _ _ hk;have fin:=WX x bound out;have hal:=NA x.aM x.fName bound out;obtain⟨o1,ho1⟩:∃o1,CG x.aM x.fName bound out=o1:=⟨_,rfl⟩;rw[ho1] at fin hal;refine(show Hold ?T->_ from fun tail=> ?main) ?tp
  case' main=>
   refine zcx [.tmp 6] func281 ntmps281 ?_;simp -implicitDefEqProofs (disch:=omega) only[go_sem,hk]
   repeat' (first
    |(with_reducible refine dS (fun hb=> ?_) (fun hb=> ?_)<;>have h:=hb<;>(try simp only[wf_preprocess] at h)<;>simp -implicitDefEqProofs (disch:=omega) only[go_sem,hb,hk]<;>refine W3 ?_)
    |(refine bD (vk bound x.fName (by omega)) ?_;simp -implicitDefEqProofs (disch:=omega) only[go_sem,hk];refine W3 ?_)
    |(refine bD (vk out x.fName (by omega)) ?_;simp -implicitDefEqProofs (disch:=omega) only[go_sem,hk];refine W3 ?_))
   all_goals first
    |(have ha:CG x.aM x.fName bound out=out++[x.fName]:=if_pos ⟨by assumption,by assumption,by assumption⟩)
    |(have ha:CG x.aM x.fName bound out=out:=if_neg (fun y=>by have:=y.1;have:=y.2.1;have:=y.2.2;contradiction))
   all_goals
    refine qx (st':=[.box (x.enc.map .d)]::bG S (l,j) (.tok 1 (o1.map encS))) [1,2,3,7] [.c (.d (.sl (bound.map encS))),.c (.bI (1+l,j) (o1.map encS)),.c (.ptr (0,0) 0),.c (.d (.i .i64 0))] ?_ ?_ ?_
    ·first|(rw[<-ho1,ha];rfl)|(rw[<-ho1,ha,<-LU];rfl)
    ·first|(rw[<-ho1,ha,hS0];exact Z1;done)|(rw[<-ho1,ha,<-LU];exact Z1;done)
    ·exact tail.out
  refine⟨?_⟩;clear ho1
  refine aZ (ι:=Nat×List (List UInt8)) zmx rfl [1,2,3,7] (fun y=>[.c (.d (.sl (bound.map encS))),.c (.bI (1+l,j) (y.2.map encS)),.c (.ptr (0,0) 0),.c (.d (.i .i64 y.1))]) (fun y=>[.box (x.enc.map .d)]::bG S (l,j) (.tok 1 (y.2.map encS)))
   (fun y=>y.1<=x.fArgs.length/\y.2.length+ay.eT (x.fArgs.drop y.1)+bq.eT x.aT<=1073741824/\uh (x.fArgs.drop y.1) x.aM x.fName y.1 bound y.2=uh x.fArgs x.aM x.fName 0 bound o1) (fun y=>x.fArgs.length-y.1) (0,o1) rfl rfl ⟨Nat.zero_le _,by simp only[List.drop_zero];omega,rfl⟩ ?_
  rintro⟨i,o⟩ ⟨p1,p2,p3⟩
  have refs:∀{a b},iN 1 (gT [1,2,3,7] [.c (.d (.sl (bound.map encS))),.c (.bI (1+l,j) a),.c (.ptr (0,0) 0),.c (.d (.i .i64 b))])=true:=fun {a b}=>by simp[iN,gT,V.refs,C.refs,jY];omega
  simp only at p1 p2 p3;refine W1 ?_;refine S0 (fun hb h=>?_) fun hb h=>?_
  ·have hi:i<x.fArgs.length:=by omega
   have hs:=List.sizeOf_lt_of_mem (List.getElem_mem hi);have hz:=ay.wV hi;rw[P9 hi] at p3;rw[ay.ng hi] at p2;have hlo:=xu x.fArgs[i] (if x.aM=8/\i=1 then bound++[x.fName] else bound) o
   have two:x.fArgs[i].sz+(bound.length+1)<=1073741824:=by omega
   repeat' (first|refine S0 (fun hb h=>?_) fun hb h=>?_)
   ·have e1:x.aM=8/\i=1:=⟨by omega,by omega⟩;rw[if_pos e1] at p3 hlo;refine⟨EJ,⟨_,rfl,rfl⟩,fun y hy=>(by cases hy),by omega,?_⟩;refine W3 ?_;rw[LU];refine cK [true,false,true] rfl (ih x.fArgs[i] (by omega) (by omega) (bound++[x.fName]) o (1+l) j _ (by refine W1 ?_;exact Pv _) (by omega) (by simp only[List.length_append,List.length_cons,List.length_nil];omega)) ?_;simp -implicitDefEqProofs (disch:=omega) only[go_sem,dJ];exact bT 1 (by decide) (i+1,kX x.fArgs[i] (bound++[x.fName]) o) (by simp only;omega) rfl rfl refs rfl ⟨by simp only;omega,by simp only;omega,p3⟩
   all_goals
    have e1:¬(x.aM=8/\i=1):=fun h=>by omega
    rw[if_neg e1] at p3 hlo;refine W3 ?_;refine aW rfl (ih x.fArgs[i] (by omega) (by omega) bound o (1+l) j _ (by refine W1 ?_;exact Pv _) (by omega) (by omega)) ?_;simp -implicitDefEqProofs (disch:=omega) only[go_sem,dJ];exact bT 1 (by decide) (i+1,kX x.fArgs[i] bound o) (by simp only;omega) rfl rfl refs rfl ⟨by simp only;omega,by simp only;omega,p3⟩
  have hi:i=x.fArgs.length:=by omega
  rw[hi,List.drop_length] at p2 p3;rw[ay.eT] at p2;rw[uh] at p3;rw[<-p3] at fin;clear p3 refs
  refine aZ (ι:=Nat×List (List UInt8)) zmx rfl [1,2,3,9] (fun y=>[.c (.d (.sl (bound.map encS))),.c (.bI (1+l,j) (y.2.map encS)),.c (.ptr (0,0) 0),.c (.d (.i .i64 y.1))]) (fun y=>[.box (x.enc.map .d)]::bG S (l,j) (.tok 1 (y.2.map encS)))
   (fun y=>y.1<=x.aT.length/\y.2.length+bq.eT (x.aT.drop y.1)<=1073741824/\xP (x.aT.drop y.1) bound y.2=kX x bound out) (fun y=>x.aT.length-y.1) (0,o) rfl ?_ ⟨Nat.zero_le _,by simp only[List.drop_zero];omega,fin.symm⟩ ?_
  ·exact Z1
  clear p1 p2 fin hal;rintro⟨i,o⟩ ⟨p1,p2,p3⟩
  have refs:∀a b,iN 1 (gT [1,2,3,9] [.c (.d (.sl (bound.map encS))),.c (.bI (1+l,j) a),.c (.ptr (0,0) 0),.c (.d (.i .i64 b))])=true:=fun a b=>by simp[iN,gT,V.refs,C.refs,jY];omega
  simp only at p1 p2 p3;refine W1 ?_;refine S0 (fun hb h=>?_) fun hb h=>?_
  ·have hi:i<x.aT.length:=by omega
   have hs:=List.sizeOf_lt_of_mem (List.getElem_mem hi);have hs':=bq.uz x.aT[i];have hz:=ay.afq hi;have hz':=bq.ZW x.aT[i];rw[Qa hi,WY] at p3;rw[bq.ng hi] at p2;have hlo:=xu x.aT[i].fBody (bound++x.aT[i].aH) o;refine⟨EJ,⟨_,rfl,rfl⟩,fun y hy=>(by cases hy),by omega,⟨by omega,hi⟩,EJ,⟨_,rfl,rfl⟩,by omega,?_⟩;rw[<-List.map_append];refine cK [true,false,true] rfl (ih x.aT[i].fBody (by omega) (by omega) (bound++x.aT[i].aH) o (1+l) j _ (by refine W1 ?_;exact Pv _) (by omega) (by simp only[List.length_append];omega)) ?_;simp -implicitDefEqProofs (disch:=omega) only[go_sem,dJ];exact bT 1 (by decide) (i+1,kX x.aT[i].fBody (bound++x.aT[i].aH) o) (by simp only;omega) rfl rfl (refs _ _) rfl ⟨by simp only;omega,by simp only;omega,p3⟩
  ·have hi:i=x.aT.length:=by omega
   rw[hi,List.drop_length,xP] at p3;rw[<-p3];exact⟨rfl,rfl⟩
theorem Qc(x:ay)(hsz:x.sz<=4194304):aF prog 261 [x.v] (.c (.d (.sl ((kX x [] []).map encS)))):=fun S=>by
 have hc:=ay.mF x
 have h0:∀S,bX prog 281 [x.v,.c (.d (.sl [])),.c (.bF [])] S (fun r S'=>r=.c (.d (.sl ((kX x [] []).map encS)))/\S'=S):=fun S=>by
  refine bX.ahS 2 (es:=[]) (bg:=1) rfl (by simp) (KA _ x (Nat.lt_succ_self _) hsz [] [] 0 0 ([.tok 1 []]::S) rfl (by simp;omega) (by simp;omega)) ?_;rintro r fr S' ⟨rfl,h2⟩;injection h2 with h2 h3;exact⟨_,rfl,rfl,h3⟩
 refine zcx [.tmp 2] func261 ntmps261 ?_;refine W1 ?_;refine W3 ?_;refine cK [true,false,true] rfl (h0 _) ?_;exact Z1
theorem ay.EK{x:ay}(h:x.sz<=4194304):x.bO.length<=4194304/\x.fName.length<=4194304/\x.fType.sz<=4194304/\x.fArgs.length<=4194304/\x.aT.length<=4194304:=by
 simp only[ay.sz,ay.aJ,bQ,bP,D.sz,List.length_map,ak.dP] at h;omega
theorem ay.akf{x:ay}{i:Nat}(hi:i<x.fArgs.length)(h:x.sz<=4194304):x.fArgs[i].sz<=4194304:=by
 have hx:x.fArgs[i].sz<=aP (x.fArgs.map ay.enc):=dz (List.mem_map_of_mem (List.getElem_mem hi));simp only[ay.sz,ay.aJ,bQ,bP,D.sz,List.length_map,ak.dP] at h;omega
theorem ay.akg{x:ay}{i:Nat}(hi:i<x.aT.length)(h:x.sz<=4194304):x.aT[i].sz<=4194304:=by
 have hx:x.aT[i].sz<=aP (x.aT.map bq.enc):=dz (List.mem_map_of_mem (List.getElem_mem hi));simp only[ay.sz,ay.aJ,bQ,bP,D.sz,List.length_map,ak.dP] at h;omega
theorem bq.EK{x:bq}(h:x.sz<=4194304):x.dN.length<=4194304/\x.aH.length<=4194304/\x.fBody.sz<=4194304:=by
 simp only[bq.sz,bq.aJ,bQ,bP,D.sz,List.length_map,ay.dP] at h;omega
theorem Db:∀n:Nat,∀x:ay,SizeOf.sizeOf x<n->∀y:ay,x.sz<=4194304->aF prog 249 [x.v,y.v] (.c (.d (.b (dec (x=y)))))
 |0=>fun x h=>by omega
 |n+1=>by
  have ih:=Db n;intro x hn y hsz S;have kV:=ay.iY x;have Dv:=ay.vT x;have hb0:=ay.EK hsz
  have hargs:=Nl 249 x.fArgs y.fArgs (by omega) (fun u hu v=>by
   obtain⟨i,hi,e⟩:=List.getElem_of_mem hu;have:=List.sizeOf_lt_of_mem hu
   exact ih u (by omega) v (by rw[<-e];exact ay.akf hi hsz))
  have ap8:=Px 274 x.aT y.aT (by omega) (fun u hu v=>by
   obtain⟨i,hi,e⟩:=List.getElem_of_mem hu;have hs:=List.sizeOf_lt_of_mem hu
   have hz:u.sz<=4194304:=by rw[<-e];exact ay.akg hi hsz
   have hz':=bq.EK hz;have ap9:=bq.uz u;intro S;refine zcx [.tmp 4] func274 ntmps274 ?_;refine W1 ?_;refine S0 (fun hb h=>?_) fun hb h=>?_
   ·have h1:=h;refine C2 (ae4 u.aH v.aH (by omega)) ?_;refine S0 (fun hb h=>?_) fun hb h=>?_
    ·have h2:=h;refine C2 (ih u.fBody (by omega) v.fBody (by omega)) ?_;exact aI (iO ⟨fun e=>bq.ext h1 h2 e,fun e=>by rw[e]⟩)
    ·exact aI (aR (fun e=>h (by rw[e]))).symm
   ·exact aI (aR (fun e=>h (by rw[e]))).symm)
  refine zcx [.tmp 4] func249 ntmps249 ?_;refine W1 ?_;refine S0 (fun hb h=>?_) fun hb h=>?_
  ·have h1:=h;refine S0 (fun hb h=>?_) fun hb h=>?_
   ·have h2:=h;refine S0 (fun hb h=>?_) fun hb h=>?_
    ·have h3:=h;refine S0 (fun hb h=>?_) fun hb h=>?_
     ·have h4:=h;refine C2 (Nf x.fType y.fType (by omega)) ?_;refine S0 (fun hb h=>?_) fun hb h=>?_
      ·have h5:=h;refine C2 (hargs) ?_;refine S0 (fun hb h=>?_) fun hb h=>?_
       ·have h6:=h;refine C2 (ap8) ?_;exact aI (iO ⟨fun e=>ay.ext h1 h2 h3 h4 h5 h6 e,fun e=>by rw[e]⟩)
       ·exact aI (aR (fun e=>h (by rw[e]))).symm
      ·exact aI (aR (fun e=>h (by rw[e]))).symm
     ·exact aI (aR (fun e=>h (by rw[e]))).symm
    ·exact aI (aR (fun e=>h (by rw[e]))).symm
   ·exact aI (aR (fun e=>h (by rw[e]))).symm
  ·exact aI (aR (fun e=>h (by rw[e]))).symm
theorem NC(x y:ay)(h:x.sz<=4194304):aF prog 249 [x.v,y.v] (.c (.d (.b (dec (x=y))))):=Db _ x (Nat.lt_succ_self _) y h
theorem Dc:∀n:Nat,∀x:ay,SizeOf.sizeOf x<n->∀y:ay,x.sz<=4194304->aF prog 14 [x.v,y.v] (.c (.d (.b (dec (x=y)))))
 |0=>fun x h=>by omega
 |n+1=>by
  have ih:=Dc n;intro x hn y hsz S;have kV:=ay.iY x;have Dv:=ay.vT x;have hb0:=ay.EK hsz;refine zcx [.tmp 4] func14 ntmps14 ?_;refine W1 ?_;refine S0 (fun hb h=>?_) fun hb h=>?_
  ·exact aI (aR (fun e=>h (by rw[e]))).symm
  have h1:=h;refine S0 (fun hb h=>?_) fun hb h=>?_
  ·exact aI (aR (fun e=>h (by rw[e]))).symm
  have h2:=h;refine S0 (fun hb h=>?_) fun hb h=>?_
  ·exact aI (aR (fun e=>h (by rw[e]))).symm
  have h3:=h;refine S0 (fun hb h=>?_) fun hb h=>?_
  ·exact aI (aR (fun e=>h (by rw[e]))).symm
  have h4:=h;refine C2 (Nc x.fType y.fType (by omega)) ?_;refine S0 (fun hb h=>?_) fun hb h=>?_
  ·exact aI (aR (fun e=>h (by rw[e]))).symm
  have h5:=h;refine S0 (fun hb h=>?_) fun hb h=>?_
  ·exact aI (aR (fun e=>h (by rw[e]))).symm
  have h6:x.fArgs.length=y.fArgs.length:=by omega
  refine S0 (fun hb h=>?_) fun hb h=>?_
  ·exact aI (aR (fun e=>h (by rw[e]))).symm
  have h7:x.aT.length=y.aT.length:=by omega
  refine aZ (ι:=Nat) zmx rfl [2,3,5] (fun i=>[.c (.ptr (0,0) 0),.c (.ptr (0,1) 0),.c (.d (.i .i64 i))]) (fun _=>[.box (x.enc.map .d),.box (y.enc.map .d)]::S)
   (fun i=>i<=x.fArgs.length/\∀j,j<i->x.fArgs[j]? =y.fArgs[j]?) (fun i=>x.fArgs.length-i) 0 rfl ?_ ⟨Nat.zero_le _,fun j h=>by omega⟩ ?_
  ·exact Z1
  rintro i ⟨p1,p2⟩;refine W1 ?_;refine S0 (fun hb h=>?_) fun hb h=>?_
  ·have hi:i<x.fArgs.length:=by omega
   have hi':i<y.fArgs.length:=by omega
   refine W3 ?_;refine C2 (ih x.fArgs[i] (by have:=List.sizeOf_lt_of_mem (List.getElem_mem hi);omega) y.fArgs[i] (ay.akf hi hsz)) ?_;refine S0 (fun hb h=>?_) fun hb h=>?_
   ·exact aI (aR (fun e=>h (by simp only[e]))).symm
   refine dB (i+1) (by omega) rfl rfl ⟨by omega,fun j hj=> ?_⟩;by_cases e:j=i
   ·subst e;rw[List.getElem?_eq_getElem hi,List.getElem?_eq_getElem hi',h]
   ·exact p2 j (by omega)
  have hi:i=x.fArgs.length:=by omega
  have h8:x.fArgs=y.fArgs:=List.ext_getElem? fun j=>by
   by_cases hj:j<i
   ·exact p2 j hj
   ·rw[List.getElem?_eq_none (by omega),List.getElem?_eq_none (by omega)]
  refine aZ (ι:=Nat) zmx rfl [2,3,6] (fun i=>[.c (.ptr (0,0) 0),.c (.ptr (0,1) 0),.c (.d (.i .i64 i))]) (fun _=>[.box (x.enc.map .d),.box (y.enc.map .d)]::S)
   (fun i=>i<=x.aT.length/\∀j,j<i->x.aT[j]? =y.aT[j]?) (fun i=>x.aT.length-i) 0 rfl ?_ ⟨Nat.zero_le _,fun j h=>by omega⟩ ?_
  ·exact Z1
  clear p1 p2 hi hb h;clear i;rintro i ⟨p1,p2⟩;refine W1 ?_;refine S0 (fun hb h=>?_) fun hb h=>?_
  ·have hi:i<x.aT.length:=by omega
   have hi':i<y.aT.length:=by omega
   have hs:=List.sizeOf_lt_of_mem (List.getElem_mem hi);have hz:=bq.EK (ay.akg hi hsz);have ap9:=bq.uz x.aT[i];refine W3 ?_;refine S0 (fun hb h=>?_) fun hb h=>?_
   ·exact aI (aR (fun e=>h (by simp only[e]))).symm
   have k1:=h;refine W3 ?_;refine C2 (YS x.aT[i].aH y.aT[i].aH (by omega)) ?_;refine S0 (fun hb h=>?_) fun hb h=>?_
   ·exact aI (aR (fun e=>h (by simp only[e]))).symm
   have k2:=h;refine W3 ?_;refine C2 (ih x.aT[i].fBody (by omega) y.aT[i].fBody (by omega)) ?_;refine S0 (fun hb h=>?_) fun hb h=>?_
   ·exact aI (aR (fun e=>h (by simp only[e]))).symm
   have k3:=h;refine dB (i+1) (by omega) rfl rfl ⟨by omega,fun j hj=> ?_⟩;by_cases e:j=i
   ·subst e;rw[List.getElem?_eq_getElem hi,List.getElem?_eq_getElem hi',bq.ext k1 k2 k3]
   ·exact p2 j (by omega)
  ·have hi:i=x.aT.length:=by omega
   have h9:x.aT=y.aT:=List.ext_getElem? fun j=>by
    by_cases hj:j<i
    ·exact p2 j hj
    ·rw[List.getElem?_eq_none (by omega),List.getElem?_eq_none (by omega)]
   exact aI (bM (ay.ext h1 h2 h3 h4 h5 h8 h9)).symm
theorem ND(x y:ay)(h:x.sz<=4194304):aF prog 14 [x.v,y.v] (.c (.d (.b (dec (x=y))))):=Dc _ x (Nat.lt_succ_self _) y h
theorem GZ:∀n:Nat,∀t:ak,SizeOf.sizeOf t<n->t.sz<=4194304->∀v:List UInt8,aF prog 260 [t.v,.c (.d (.s v))] (.c (.d (.i .i64 (rT v t))))
 |0=>fun t h=>by omega
 |n+1=>by
  have ih:=GZ n;intro t hn hsz v S;have kV:=ak.iY t;have hts:=Kh hsz;have hcl:=ae3 v t;have hcn:=mF t;have he:=ae2 v t;refine zcx [.tmp 4] func260 ntmps260 ?_;refine W1 ?_
  repeat' (first|(refine S0 (fun hb h=>?_) fun hb h=>?_))
  all_goals first
   |(have hc:rT v t=1+xL v t.fArgs:=by rw[he,if_pos (by simp only[Pq,decide_eq_true_eq];exact⟨by assumption,by assumption⟩)])
   |(have hc:rT v t=0+xL v t.fArgs:=by rw[he,if_neg (by simp only[Pq,decide_eq_true_eq];exact fun x=>by have:=x.1;have:=x.2;contradiction)])
  all_goals
   refine aZ (ι:=Nat×Nat) zmx rfl [1,2,5,6] (fun y=>[.c (.d (.s v)),.c (.ptr (0,0) 0),.c (.d (.i .i64 y.2)),.c (.d (.i .i64 y.1))]) (fun _=>[.box [.d (.i .i64 t.aM),.d (.s t.fName),.d (.sl (t.fArgs.map ak.enc))]]::S)
    (fun y=>y.1<=t.fArgs.length/\rT v t=y.2+xL v (t.fArgs.drop y.1)) (fun y=>t.fArgs.length-y.1) (0,_) rfl rfl ⟨Nat.zero_le _,hc⟩ ?_
   rintro⟨i,c⟩ ⟨p1,p2⟩;simp only at p1 p2;refine W1 ?_;refine S0 (fun hb h=>?_) fun hb h=>?_
   ·have hi:i<t.fArgs.length:=by omega
    rw[WC hi] at p2;refine W3 ?_;refine C2 (ih t.fArgs[i] (by have:=List.sizeOf_lt_of_mem (List.getElem_mem hi);omega) (DW hi hsz).1 v) ?_;rw[show(c:Int)+(rT v t.fArgs[i]:Int)=((c+rT v t.fArgs[i]:Nat):Int) by omega];exact dB (i+1,c+rT v t.fArgs[i]) (by simp only;omega) rfl rfl ⟨by simp only;omega,by simp only;omega⟩
   ·have hi:i=t.fArgs.length:=by omega
    rw[hi,List.drop_length] at p2;have h0:xL v []=0:=rfl;exact int_eq (by omega)
theorem Uo(v:List UInt8)(t:ak)(hsz:t.sz<=4194304):aF prog 225 [.c (.d (.s v)),t.v] (.c (.d (.b (occurs v t)))):=fun S=>by
 refine zcx [.tmp 4] func225 ntmps225 ?_;refine W1 ?_;refine C2 (GZ _ t (Nat.lt_succ_self _) hsz v) ?_;exact aI (by unfold occurs;rw[Bool.eq_iff_iff];simp only[decide_eq_true_eq];omega)
def zeroE:ay:=.mk 0 [] [] 0 (.mk 0 [] []) [] []
def LV:List (List UInt8):=[[115,101,108,102]]
noncomputable def G5(vars:List (List UInt8))(e:ay):Bool:=sQ e&&among (kX e [] []) vars
noncomputable def nu(vars:List (List UInt8))(e:ay):Bool:=iI vars&&G5 vars e
noncomputable def nV(vars:List (List UInt8))(b:bW):Bool:=(validName b.bO&&nZ b.fType)&&(!r9 b.fType&&among (jE [] b.fType) vars)
noncomputable def qz(vars:List (List UInt8))(bs:List bW):Bool:=dec (bs.length<=4)&&bs.all (nV vars)
noncomputable def iF(g:bA):Bool:=
 validName g.fName&&(dec (g.bC.length<=4)&&(lZ LV g.bC&&(gU LV g.cB&&
  (if g.iP=true then dec (g.aH.length=g.bC.length+1)&&nu g.aH g.fBody else dec (g.aH.length=0)&&dec (g.fBody=zeroE)))))
theorem zo{xs:List ak}{t:ak}(h:t∈xs):t.sz<=aP (xs.map ak.enc):=dz (List.mem_map_of_mem h)
theorem qg{xs:List bW}{t:bW}(h:t∈xs):t.sz<=aP (xs.map bW.enc):=dz (List.mem_map_of_mem h)
theorem bA.sum(x:bA):x.fName.length+(x.bC.length+aP (x.bC.map ak.enc))+x.cB.sz+(x.aH.length+aP (x.aH.map encS))+x.fBody.sz<=x.sz:=by
 simp only[bA.sz,bA.aJ,bQ,bP,D.sz,List.length_map,ak.dP,ay.dP];omega
theorem bW.sum(x:bW):x.bO.length+x.fType.sz<=x.sz:=by
 simp only[bW.sz,bW.aJ,bQ,bP,D.sz,List.length_map,ak.dP];omega
theorem WZ(e:ay)(h:e.sz<=4194304):(kX e [] []).length<=1073741824:=by
 have h1:=xu e [] [];have h2:=ay.mF e;simp at h1;omega
theorem Qd(t:ak)(h:t.sz<=4194304):(jE [] t).length<=1073741824:=by
 have h1:=Ca t [];have h2:=_root_.Go.Ab.mF t;simp at h1;omega
theorem MO(vars:List (List UInt8))(t:ak):gU vars t=(nZ t&&among (jE [] t) vars):=rfl
theorem KC(vars:List (List UInt8))(e:ay)(hv:vars.length<=1073741824)(hs:∀s∈vars,s.length<=4194304)(hsz:e.sz<=4194304):aF prog 151 [.c (.d (.sl (vars.map encS))),e.v] (.c (.d (.b (nu vars e)))):=fun S=>by
 refine zcx [.tmp 4] func151 ntmps151 ?_;refine W1 ?_;refine C2 (oQ vars hv hs) ?_;refine S0 (fun hb h=>?_) fun hb h=>?_
 ·have h1:=h;refine C2 (Ns e hsz) ?_;refine S0 (fun hb h=>?_) fun hb h=>?_
  ·have h2:=h;refine C2 (Qb e hsz) ?_;refine C2 (Bv _ vars (WZ e hsz) hv) ?_;exact aI (by unfold nu G5;rw[h1,h2];rfl)
  ·exact aI (by unfold nu G5;rw[h];simp)
 ·exact aI (by unfold nu;rw[h];rfl)
theorem IX(vars:List (List UInt8))(e:ay)(hv:vars.length<=1073741824)(hsz:e.sz<=4194304):aF prog 226 [e.v,.c (.d (.sl (vars.map encS)))] (.c (.d (.b (G5 vars e)))):=fun S=>by
 have hlen:=WZ e hsz;refine zcx [.tmp 4] func226 ntmps226 ?_;refine W1 ?_;refine C2 (Qc e hsz) ?_;unfold G5;generalize kX e [] []=xs at hlen ⊢
 refine aZ (ι:=Nat) zmx rfl [1,2,5,6] (fun i=>[.c (.d (.sl (vars.map encS))),.c (.ptr (0,0) 0),.c (.d (.sl (xs.map encS))),.c (.d (.i .i64 i))]) (fun _=>[.box (e.enc.map .d)]::S)
  (fun i=>i<=xs.length/\among (xs.drop i) vars=among xs vars) (fun i=>xs.length-i) 0 rfl ?_ ⟨Nat.zero_le _,rfl⟩ ?_
 ·exact Z1
 rintro i ⟨p1,p2⟩;simp -implicitDefEqProofs (disch:=omega) only[go_sem,encS]
 with_reducible refine dS (fun hb=> ?_) (fun hb=> ?_)<;>have h:=hb<;>(try simp only[wf_preprocess] at h)<;>simp -implicitDefEqProofs (disch:=omega) only[go_sem,hb,encS]<;>refine W3 ?_
 ·have hi:i<xs.length:=by omega
  rw[List.drop_eq_getElem_cons hi] at p2;have p3:among xs vars=(dec (xs[i]∈vars)&&among (xs.drop (i+1)) vars):=p2.symm;refine W3 ?_;refine C2 (vk vars xs[i] hv) ?_;refine S0 (fun hb h=>?_) fun hb h=>?_
  ·exact aI (by rw[p3,aR h];simp)
  ·exact dB (i+1) (by omega) rfl rfl ⟨by omega,by rw[p3,bM h];rfl⟩
 ·rw[List.drop_of_length_le (by omega)] at p2;have p3:among xs vars=true:=p2.symm;refine W3 ?_;refine C2 (Nt e hsz) ?_;exact aI (by rw[p3];simp)
theorem Qe(vars:List (List UInt8))(hv:vars.length<=1073741824)(rest:List Ab.Obj)(S:Store)(b:bW)(hb:b.sz<=4194304):oO prog 217 [((0,0),0)] ((.box [.d (.sl (vars.map encS))]::rest)::S) [b.v] (.c (.d (.b (!nV vars b)))):=fun F=>by
 have hs:=bW.sum b;refine zcx [.tmp 3] func217 ntmps217 ?_;refine W1 ?_;refine C2 (Ma b (by omega) (by omega)) ?_;refine S0 (fun hb h=>?_) fun hb h=>?_
 ·exact aI (by unfold nV;rw[h];rfl)
 have h1:=h;refine W3 ?_;refine C2 (GR b.fType (by omega)) ?_;refine S0 (fun hb h=>?_) fun hb h=>?_
 ·exact aI (by unfold nV;rw[h];simp)
 have h2:=h;refine W3 ?_;refine C2 (z8 b.fType (by omega)) ?_;refine C2 (Bv _ vars (Qd _ (by omega)) hv) ?_;exact aI (by unfold nV;rw[h1,h2];simp)
theorem KD(bs:List bW)(vars:List (List UInt8))(hl:bs.length<=1073741824)(hz:∀b∈bs,b.sz<=4194304)(hv:vars.length<=1073741824):aF prog 149 [.c (.d (.sl (bs.map bW.enc))),.c (.d (.sl (vars.map encS)))] (.c (.d (.b (qz vars bs)))):=fun S=>by
 have ha:(bs.any fun t=> !nV vars t)= !bs.all (nV vars):=by rw[List.not_all_eq_any_not]
 refine zcx [.tmp 4] func149 ntmps149 ?_;refine W1 ?_;refine S0 (fun hb h=>?_) fun hb h=>?_
 ·have h1:=h;refine W3 ?_;refine aW rfl (IC 217 [((0,0),0)] _ bs (fun t=> !nV vars t) hl fun t hx=>Qe vars hv [] S t (hz t hx)) ?_;refine W1 ?_;rw[ha];exact aI (by unfold qz;rw[bM (by omega)];simp)
 ·exact aI (by unfold qz;rw[aR (by omega)];rfl)
theorem MP(bs:List bW)(vars:List (List UInt8))(hl:bs.length<=1073741824)(hz:∀b∈bs,b.sz<=4194304)(hv:vars.length<=1073741824):aF prog 224 [.c (.d (.sl (bs.map bW.enc))),.c (.d (.sl (vars.map encS)))] (.c (.d (.b (qz vars bs)))):=fun S=>by
 refine zcx [.tmp 4] func224 ntmps224 ?_;refine W1 ?_
 refine aZ (ι:=Nat) zmx rfl [0,1,5] (fun i=>[.c (.d (.sl (bs.map bW.enc))),.c (.d (.sl (vars.map encS))),.c (.d (.i .i64 i))]) (fun _=>[]::S)
  (fun i=>i<=bs.length/\(bs.drop i).all (nV vars)=bs.all (nV vars)) (fun i=>bs.length-i) 0 rfl rfl ⟨Nat.zero_le _,rfl⟩ ?_
 rintro i ⟨p1,p2⟩;refine W1 ?_;refine S0 (fun hb h=>?_) fun hb h=>?_
 ·have hi:i<bs.length:=by omega
  have hb:=hz _ (List.getElem_mem hi);have hs:=bW.sum bs[i];rw[List.drop_eq_getElem_cons hi,List.all_cons] at p2;have no:nV vars bs[i]=false->V.c (.d (.b false))=V.c (.d (.b (qz vars bs))):=fun h=>aI (by unfold qz;rw[<-p2,h];simp);refine W3 ?_;refine C2 (L9 bs[i] (by omega) (by omega)) ?_;refine S0 (fun hb h=>?_) fun hb h=>?_
  ·exact no (by unfold nV;rw[h];rfl)
  have h1:=h;refine W3 ?_;refine C2 (vo bs[i].fType vars (by omega) hv) ?_;refine S0 (fun hb h=>?_) fun hb h=>?_
  ·exact no (by unfold nV;rw[MO] at h;rw[Bool.and_eq_true] at h1;rw[h1.2,Bool.true_and] at h;rw[h];simp)
  have h2:=h;refine W3 ?_;refine C2 (GQ bs[i].fType (by omega)) ?_;refine S0 (fun hb h=>?_) fun hb h=>?_
  ·exact no (by unfold nV;rw[h];simp)
  have h3:=h;rw[MO,Bool.and_eq_true] at h2;exact dB (i+1) (by omega) rfl rfl ⟨by omega,by rw[<-p2];unfold nV;rw[h1,h2.2,h3];rfl⟩
 ·rw[List.drop_of_length_le (by omega)] at p2;exact aI (by unfold qz;rw[<-p2,lH];simp only[List.all_nil,Bool.and_true];exact iO ⟨fun h=>by omega,fun h=>by omega⟩)
theorem Uq(e:ay)(hsz:e.sz<=4194304):aF prog 208 [e.v] (.c (.d (.b (dec (e=zeroE))))):=fun S=>by
 refine zcx [.tmp 2] func208 ntmps208 ?_;refine W1 ?_;exact C3 (NC e zeroE hsz)
theorem aco(e:ay)(hsz:e.sz<=4194304):aF prog 257 [e.v] (.c (.d (.b (dec (e=zeroE))))):=fun S=>by
 refine zcx [.tmp 2] func257 ntmps257 ?_;refine W1 ?_;exact C3 (ND e zeroE hsz)
theorem Rw(g:bA)(hsz:g.sz<=4194304):aF prog 143 [g.v] (.c (.d (.b (iF g)))):=fun S=>by
 have hs:=bA.sum g
 have hT:∀t∈g.bC,t.sz<=4194304:=fun t ht=>by have:=zo ht;omega
 have hV:∀s∈g.aH,s.length<=4194304:=fun s h=>by have:=sP h;omega
 refine zcx [.tmp 2] func143 ntmps143 ?_;refine W1 ?_;refine C2 (iy g.fName (by omega)) ?_;refine S0 (fun hb h=>?_) fun hb h=>?_
 ·exact aI (by unfold iF;rw[h];rfl)
 have h1:=h;refine S0 (fun hb h=>?_) fun hb h=>?_
 ·exact aI (by unfold iF;rw[aR (show ¬g.bC.length<=4 by omega)];simp)
 have h2:=h;refine W3 ?_;refine C1 (Aa g.bC LV (by omega) hT (by decide)) ?_;refine S0 (fun hb h=>?_) fun hb h=>?_
 ·exact aI (by unfold iF;rw[h];simp)
 have h3:=h;refine W3 ?_;refine C1 (vK g.cB LV (by omega) (by decide)) ?_;refine S0 (fun hb h=>?_) fun hb h=>?_
 ·exact aI (by unfold iF;rw[h];simp)
 have h4:=h;refine S0 (fun hb h=>?_) fun hb h=>?_
 ·have h5:=h;refine S0 (fun hb h=>?_) fun hb h=>?_
  ·have h6:=h;refine C2 (KC g.aH g.fBody (by omega) hV (by omega)) ?_;exact aI (by unfold iF;rw[h1,h3,h4,if_pos h5,bM (show g.bC.length<=4 by omega),bM (show g.aH.length=g.bC.length+1 by omega)];rfl)
  ·exact aI (by unfold iF;rw[if_pos h5,aR (show ¬g.aH.length=g.bC.length+1 by omega)];simp)
 ·have h5:¬g.iP=true:=by rw[h];simp
  refine S0 (fun hb h=>?_) fun hb h=>?_
  ·refine C2 (Uq g.fBody (by omega)) ?_;exact aI (by unfold iF;rw[h1,h3,h4,if_neg h5,bM (show g.bC.length<=4 by omega),bM (show g.aH.length=0 by omega)];rfl)
  ·exact aI (by unfold iF;rw[if_neg h5,aR (show ¬g.aH.length=0 by omega)];simp)
theorem afr(g:bA)(hsz:g.sz<=4194304):aF prog 220 [g.v] (.c (.d (.b (iF g)))):=fun S=>by
 have hs:=bA.sum g
 have hT:∀t∈g.bC,t.sz<=4194304:=fun t ht=>by have:=zo ht;omega
 have hV:∀s∈g.aH,s.length<=4194304:=fun s h=>by have:=sP h;omega
 refine zcx [.tmp 2] func220 ntmps220 ?_;refine W1 ?_;refine C2 (iA g.fName (by omega)) ?_;refine S0 (fun hb h=>?_) fun hb h=>?_
 ·exact aI (by unfold iF;rw[h];rfl)
 have h1:=h;refine S0 (fun hb h=>?_) fun hb h=>?_
 ·exact aI (by unfold iF;rw[aR (show ¬g.bC.length<=4 by omega)];simp)
 have h2:=h;refine W3 ?_;refine C1 (SQ g.bC LV (by omega) hT (by decide)) ?_;refine S0 (fun hb h=>?_) fun hb h=>?_
 ·exact aI (by unfold iF;rw[h];simp)
 have h3:=h;refine W3 ?_;refine C1 (vo g.cB LV (by omega) (by decide)) ?_;refine S0 (fun hb h=>?_) fun hb h=>?_
 ·exact aI (by unfold iF;rw[h];simp)
 have h4:=h;refine S0 (fun hb h=>?_) fun hb h=>?_
 ·have h5:¬g.iP=true:=by rw[h];simp
  refine S0 (fun hb h=>?_) fun hb h=>?_
  ·refine C2 (aco g.fBody (by omega)) ?_;exact aI (by unfold iF;rw[h1,h3,h4,if_neg h5,bM (show g.bC.length<=4 by omega),bM (show g.aH.length=0 by omega)];rfl)
  ·exact aI (by unfold iF;rw[if_neg h5,aR (show ¬g.aH.length=0 by omega)];simp)
 ·have h5:=h;refine C2 (mG g.aH 5 (by omega) hV) ?_;refine S0 (fun hb h=>?_) fun hb h=>?_
  ·have h6:=h;rw[Bool.and_eq_true] at h6;refine S0 (fun hb h=>?_) fun hb h=>?_
   ·refine C2 (IX g.aH g.fBody (by omega) (by omega)) ?_;exact aI (by unfold iF nu;rw[h1,h3,h4,if_pos h5,h6.2,bM (show g.bC.length<=4 by omega),bM (show g.aH.length=g.bC.length+1 by omega)];rfl)
   ·exact aI (by unfold iF;rw[if_pos h5,aR (show ¬g.aH.length=g.bC.length+1 by omega)];simp)
  ·refine aI ?_;by_cases h7:g.aH.length=g.bC.length+1
   ·rw[bM (by omega),Bool.true_and] at h
    unfold iF nu;rw[if_pos h5,h];simp
   ·unfold iF;rw[if_pos h5,aR h7];simp
def uG(f:aY):List (List UInt8):=f.bC.map dD.fName
def Qf(f:aY):List ak:=f.bC.map dD.fType
noncomputable def jH(f:aY):Bool:=
 validName f.fName&&(dec (f.aH.length<=3)&&(iI f.aH&&(qz f.aH f.dI&&(dec (f.bC.length<=5)&&(lZ f.aH (Qf f)&&(gU f.aH f.cB&&nu (uG f) f.fBody))))))
theorem aY.sum(x:aY):x.fName.length+(x.aH.length+aP (x.aH.map encS))+(x.dI.length+aP (x.dI.map bW.enc))+(x.bC.length+aP (x.bC.map dD.enc))+x.cB.sz+x.fBody.sz<=x.sz:=by
 simp only[aY.sz,aY.aJ,bQ,bP,D.sz,List.length_map,ak.dP,ay.dP];omega
theorem dD.sum(x:dD):x.fName.length+x.fType.sz<=x.sz:=by
 simp only[dD.sz,dD.aJ,bQ,bP,D.sz,List.length_map,ak.dP];omega
theorem LW{xs:List dD}{t:dD}(h:t∈xs):t.sz<=aP (xs.map dD.enc):=dz (List.mem_map_of_mem h)
theorem Ur(ps:List dD)(hl:ps.length<=1073741823):aF prog 153 [.c (.d (.sl (ps.map dD.enc)))] (.c (.d (.sl ((ps.map dD.fName).map encS)))):=fun S=>by
 refine zcx [.tmp 2] func153 ntmps153 ?_;refine W1 ?_;refine W3 ?_;refine qG 3 1 [] rfl (by simp) ?_
 refine aZ (ι:=Nat×List (List UInt8)) zmx rfl [3,7,8,9] (fun y=>[.c (.bI (0,0) (y.2.map encS)),.c (.d (.sl (ps.map dD.enc))),.c (.d (.i .i64 ps.length)),.c (.d (.i .i64 y.1))]) (fun y=>[.tok 1 (y.2.map encS)]::S)
  (fun y=>y.1<=ps.length/\y.2=(ps.map dD.fName).take y.1) (fun y=>ps.length-y.1) (0,[]) rfl rfl ⟨Nat.zero_le _,rfl⟩ ?_
 rintro⟨i,names⟩ ⟨p1,p2⟩;simp only at p1 p2
 have pl:names.length<=ps.length:=by rw[p2];simp;omega
 refine W1 ?_;refine S0 (fun hb h=>?_) fun hb h=>?_
 ·have hi:i<ps.length:=by omega
  refine W3 ?_;rw[show List.map encS names++[[D.s ps[i].fName]]=List.map encS (names++[ps[i].fName]) by simp[encS]];exact bT 1 (by decide) (i+1,names++[ps[i].fName]) (by simp only;omega) rfl rfl rfl rfl ⟨by simp only;omega,by simp only;rw[p2,iQ (by simpa using hi)];simp⟩
 ·rw[List.take_of_length_le (by simp;omega)] at p2;rw[p2]
theorem Us(ps:List dD)(hl:ps.length<=1073741823):aF prog 152 [.c (.d (.sl (ps.map dD.enc)))] (.c (.d (.sl ((ps.map dD.fType).map ak.enc)))):=fun S=>by
 refine zcx [.tmp 2] func152 ntmps152 ?_;refine W1 ?_;refine W3 ?_;refine qG 3 3 [] rfl (by simp) ?_
 refine aZ (ι:=Nat×List ak) zmx rfl [3,7,8,9] (fun y=>[.c (.bI (0,0) (y.2.map ak.enc)),.c (.d (.sl (ps.map dD.enc))),.c (.d (.i .i64 ps.length)),.c (.d (.i .i64 y.1))]) (fun y=>[.tok 3 (y.2.map ak.enc)]::S)
  (fun y=>y.1<=ps.length/\y.2=(ps.map dD.fType).take y.1) (fun y=>ps.length-y.1) (0,[]) rfl rfl ⟨Nat.zero_le _,rfl⟩ ?_
 rintro⟨i,names⟩ ⟨p1,p2⟩;simp only at p1 p2
 have pl:names.length<=ps.length:=by rw[p2];simp;omega
 refine W1 ?_;refine S0 (fun hb h=>?_) fun hb h=>?_
 ·have hi:i<ps.length:=by omega
  refine W3 ?_;rw[show List.map ak.enc names++[[D.i .i64 ps[i].fType.aM,D.s ps[i].fType.fName,D.sl (ps[i].fType.fArgs.map ak.enc)]]=List.map ak.enc (names++[ps[i].fType]) by simp[ak.aJ]];exact bT 1 (by decide) (i+1,names++[ps[i].fType]) (by simp only;omega) rfl rfl rfl rfl ⟨by simp only;omega,by simp only;rw[p2,iQ (by simpa using hi)];simp⟩
 ·rw[List.take_of_length_le (by simp;omega)] at p2;rw[p2]
theorem G6(f:aY)(hsz:f.sz<=4194304):aF prog 60 [f.v] (.c (.d (.b (jH f)))):=fun S=>by
 have hs:=aY.sum f
 have hV:∀s∈f.aH,s.length<=4194304:=fun s h=>by have:=sP h;omega
 have hW:∀b∈f.dI,b.sz<=4194304:=fun b h=>by have:=qg h;omega
 have hP:∀p∈f.bC,p.sz<=4194304:=fun m h=>by have:=LW h;omega
 have hpt:∀t∈f.bC.map dD.fType,t.sz<=4194304:=fun t h=>by
  obtain⟨p,hp,e⟩:=List.mem_map.1 h;have:=hP p hp;have:=dD.sum p;rw[<-e];omega
 have hpn:∀s∈f.bC.map dD.fName,s.length<=4194304:=fun t h=>by
  obtain⟨p,hp,e⟩:=List.mem_map.1 h;have:=hP p hp;have:=dD.sum p;rw[<-e];omega
 have hpl:(f.bC.map dD.fName).length=f.bC.length:=by simp
 have hpl':(f.bC.map dD.fType).length=f.bC.length:=by simp
 refine zcx [.tmp 2] func60 ntmps60 ?_;refine W1 ?_
 repeat' (first
  |refine S0 (fun hb h=>?_) fun hb h=>?_
  |((with_reducible show fB _ _ 53 _ _ _ _);refine bD (iy f.fName (by omega)) ?_;refine W1 ?_)
  |((with_reducible show fB _ _ 54 _ _ _ _);refine bD (oQ f.aH (by omega) hV) ?_;refine W1 ?_)
  |((with_reducible show fB _ _ 149 _ _ _ _);refine bD (KD f.dI f.aH (by omega) hW (by omega)) ?_;refine W1 ?_)
  |((with_reducible show fB _ _ 152 _ _ _ _);refine bD (Us f.bC (by omega)) ?_;refine W1 ?_)
  |((with_reducible show fB _ _ 144 _ _ _ _);refine bD (Aa (f.bC.map dD.fType) f.aH (by omega) hpt (by omega)) ?_;refine W1 ?_)
  |((with_reducible show fB _ _ 145 _ _ _ _);refine bD (vK f.cB f.aH (by omega) (by omega)) ?_;refine W1 ?_)
  |((with_reducible show fB _ _ 153 _ _ _ _);refine bD (Ur f.bC (by omega)) ?_;refine W1 ?_)
  |((with_reducible show fB _ _ 151 _ _ _ _);refine bD (KC (f.bC.map dD.fName) f.fBody (by omega) hpn (by omega)) ?_;refine W1 ?_)
  |(refine aI ?_;unfold jH Qf uG;grind [gJ,jo,bM,aR]))
theorem AX(f:aY)(hsz:f.sz<=4194304):aF prog 160 [f.v] (.c (.d (.b (jH f)))):=fun S=>by
 have hs:=aY.sum f
 have hV:∀s∈f.aH,s.length<=4194304:=fun s h=>by have:=sP h;omega
 have hW:∀b∈f.dI,b.sz<=4194304:=fun b h=>by have:=qg h;omega
 have hP:∀p∈f.bC,p.sz<=4194304:=fun m h=>by have:=LW h;omega
 have hpn:∀s∈uG f,s.length<=4194304:=fun t h=>by
  obtain⟨p,hp,e⟩:=List.mem_map.1 h;have:=hP p hp;have:=dD.sum p;rw[<-e];omega
 have hnl:(uG f).length=f.bC.length:=by simp[uG]
 have bad:∀i,∀hi:i<f.bC.length,gU f.aH f.bC[i].fType=false->V.c (.d (.b false))=V.c (.d (.b (jH f))):=fun i hi h=>aI (by
  have:lZ f.aH (Qf f)=false:=Bool.eq_false_iff.2 fun hx=>by
   have:=List.all_eq_true.1 hx f.bC[i].fType (List.mem_map_of_mem (List.getElem_mem hi));rw[h] at this;cases this
  unfold jH
  rw[this];simp)
 refine zcx [.tmp 2] func160 ntmps160 ?_;refine W1 ?_;refine W3 ?_;refine qG 3 1 [] rfl (by simp) ?_
 refine aZ (ι:=Nat×List (List UInt8)) zmx rfl [1,3,4] (fun y=>[.c (.ptr (0,0) 0),.c (.bI (0,1) (y.2.map encS)),.c (.d (.i .i64 y.1))]) (fun y=>[.box (f.enc.map .d),.tok 1 (y.2.map encS)]::S)
  (fun y=>y.1<=f.bC.length/\y.2=(uG f).take y.1/\∀j,∀hj:j<f.bC.length,j<y.1->gU f.aH f.bC[j].fType=true) (fun y=>f.bC.length-y.1) (0,[]) rfl ?_ ⟨Nat.zero_le _,rfl,fun j _ h=>by simp only at h;omega⟩ ?_
 ·exact Z1
 rintro⟨i,names⟩ ⟨p1,p2,p3⟩;simp only at p1 p2 p3
 have pl:names.length<=f.bC.length:=by rw[p2];simp[uG];omega
 refine W1 ?_;refine S0 (fun hb h=>?_) fun hb h=>?_
 ·have hi:i<f.bC.length:=by omega
  have hp:=hP _ (List.getElem_mem hi);have hps:=dD.sum f.bC[i];refine W3 ?_;refine C2 (vo f.bC[i].fType f.aH (by omega) (by omega)) ?_;refine S0 (fun hb h=>?_) fun hb h=>?_
  ·exact bad i hi h
  have k3:=h;refine W3 ?_;rw[show List.map encS names++[[D.s f.bC[i].fName]]=List.map encS (names++[f.bC[i].fName]) by simp[encS]]
  exact dB (i+1,names++[f.bC[i].fName]) (by simp only;omega) rfl rfl ⟨by simp only;omega,by simp only;rw[p2,iQ (by simpa [uG] using hi)];simp[uG],fun j hj hji=>by
   simp only at hji;by_cases e:j=i
   ·subst e;exact k3
   ·exact p3 j hj (by omega)⟩
 have hi:i=f.bC.length:=by omega
 have hn:names=uG f:=by rw[p2,List.take_of_length_le (by simp[uG];omega)]
 have hall:lZ f.aH (Qf f)=true:=List.all_eq_true.2 fun c hc=>by
  obtain⟨p,hp,e⟩:=List.mem_map.1 hc;obtain⟨j,hj,e'⟩:=List.getElem_of_mem hp;rw[<-e,<-e'];exact p3 j hj (by omega)
 clear p2 p3 bad;subst hn
 repeat' (first
  |refine S0 (fun hb h=>?_) fun hb h=>?_
  |((with_reducible show fB _ _ 62 _ _ _ _);refine bD (iA f.fName (by omega)) ?_;refine W1 ?_)
  |((with_reducible show fB _ _ 63 _ _ _ _);refine bD (mG f.aH 3 (by omega) hV) ?_;refine W1 ?_)
  |((with_reducible show fB _ _ 224 _ _ _ _);refine bD (MP f.dI f.aH (by omega) hW (by omega)) ?_;refine W1 ?_)
  |((with_reducible show fB _ _ 63 _ _ _ _);refine bD (mG (uG f) 5 (by omega) hpn) ?_;refine W1 ?_)
  |((with_reducible show fB _ _ 222 _ _ _ _);refine bD (vo f.cB f.aH (by omega) (by omega)) ?_;refine W1 ?_)
  |((with_reducible show fB _ _ 226 _ _ _ _);refine bD (IX (uG f) f.fBody (by omega) (by omega)) ?_;refine W1 ?_)
  |(refine aI ?_;unfold jH nu;grind [gJ,jo,bM,aR]))
def EL(n:Nat)(s:St):St:=match s.st with
 |(.seed _::own)::Ω=>⟨s.tm,(.seed n::own)::Ω⟩
 |_=>s
theorem G7{N:Nat}(n:Nat)(s:St):ig N s (EL n s):=by
 obtain⟨tm,st⟩:=s;unfold EL;split
 ·rename_i h;simp only at h;subst h;exact El n
 ·exact ig.refl _ _
theorem Y3{n m:Nat}{tm:List (Nat×V)}{own:List Obj}{Ω:Store}:EL n ⟨tm,(.seed m::own)::Ω⟩=⟨tm,(.seed n::own)::Ω⟩:=rfl
def akh(j p n:Nat)(s:St):St:=EL n (UM j p s)
theorem Ga{N:Nat}(j p n:Nat)(s:St):ig N s (akh j p n s):=(MJ j p s).trans (G7 n _)
attribute [go_sem] akh Y3
def Af:List UInt8:=[102,110]
def qh(b:bW):ah:=bH [bN b.bO,dn b.fType]
def qV(b:dD):ah:=bH [bN b.fName,dn b.fType]
def vN(f:aY):ah:=bH [bN Af,bN f.fName,bH (aO f.aH),bH (f.dI.map qh),bH (f.bC.map qV),dn f.cB,fu f.fBody]
noncomputable def IY(f:aY):ah:=vv (jH f) (vN f)
theorem anZ(b:bW):(qh b).sz<=14+16*b.sz:=by
 have:=Cb b.fType;have:=bW.sum b;rw[qh,jl];simp[dA,jM];omega
theorem aiK(b:dD):(qV b).sz<=14+16*b.sz:=by
 have:=Cb b.fType;have:=dD.sum b;rw[qV,jl];simp[dA,jM];omega
theorem Rx:∀l:List bW,dA (l.map qh)<=14*l.length+16*aP (l.map bW.enc)
 |[]=>by simp[dA]
 |c::l=>by
  have h1:=anZ c;have h2:=Rx l;rw[List.map_cons,dA,List.map_cons,aP,List.length_cons];simp only[bW.sz] at h1;omega
theorem Tj:∀l:List dD,dA (l.map qV)<=14*l.length+16*aP (l.map dD.enc)
 |[]=>by simp[dA]
 |c::l=>by
  have h1:=aiK c;have h2:=Tj l;rw[List.map_cons,dA,List.map_cons,aP,List.length_cons];simp only[dD.sz] at h1;omega
theorem W9{f:aY}(hok:iR f.fBody=true):(vN f).sz<=60+32*f.sz:=by
 have h1:=Rx f.dI;have h2:=Tj f.bC;have h3:=Cb f.cB;have h4:=Kv f.fBody hok;have h5:=aY.sum f;rw[dH] at h5;rw[vN,jl];simp[dA,jM,jl,jr,rC,Af];omega
theorem Df{vars:List (List UInt8)}{bs:List bW}(h:qz vars bs=true):∀b∈bs,formed b.fType=true:=fun b hb=>by
 unfold qz at h;rw[Bool.and_eq_true] at h;have h2:=List.all_eq_true.1 h.2 b hb;unfold nV at h2;simp only[Bool.and_eq_true] at h2;exact wY h2.1.2
theorem wF{vars:List (List UInt8)}{t:ak}(h:gU vars t=true):formed t=true:=by
 unfold gU at h;rw[Bool.and_eq_true] at h;exact wY h.1
theorem FE{vars:List (List UInt8)}{e:ay}(h:nu vars e=true):iR e=true:=by
 unfold nu G5 at h;simp only[Bool.and_eq_true] at h;exact WW h.2.1
theorem vO{f:aY}(h:jH f=true):(∀b∈f.dI,formed b.fType=true)/\(∀q∈f.bC,formed q.fType=true)/\formed f.cB=true/\iR f.fBody=true:=by
 unfold jH at h;simp only[Bool.and_eq_true] at h;obtain⟨_,_,_,h1,_,h2,h3,h4⟩:=h;exact⟨Df h1,fun q hq=>yC.1 (yR h2) _ (List.mem_map_of_mem hq),wF h3,FE h4⟩
theorem vP(xs:List bW)(n:Nat)(hfo:∀b∈xs,formed b.fType=true)(hlen:xs.length<=4194304)(hsz:∀b∈xs,b.sz<=4194304):aF prog 203 [.c (.d (.sl (xs.map bW.enc)))] (.agg [.d (.s []),.d (.ol n (lx (xs.map qh) (n+1)))]):=fun S=>by
 obtain⟨L,hL⟩:∃L:Nat->Nat,L=fun i=>n+1+iL ((xs.map qh).take i):=⟨_,rfl⟩;obtain⟨T,hT⟩:∃T:Nat->List (List D),T=fun i=>lx ((xs.map qh).take i) (n+1):=⟨_,rfl⟩
 have hT0:T 0=[]:=by rw[hT];rfl
 have gM:∀i,(T i).length<=i:=fun i=>by
  rw[hT];simp only[gG];exact List.length_take_le _ _
 have hTs:∀i (hi:i<xs.length),T i++[[.s [],.ol (L i) [[.s xs[i].bO,.ol (L i+1) []],[.s (dn xs[i].fType).aQ,.ol (L i+1+1) (lx (dn xs[i].fType).aj (L i+1+1+1))]]]]=T (i+1):=fun i hi=>by
  have:=AR (l:=xs.map qh) (i:=i) (by rw[List.length_map];exact hi) (n+1);rw[List.getElem_map,qh,dZ,dw,jG,jG,nk,xg,jF,jT] at this;rw[hT,hL];exact this
 have hTe:T xs.length=lx (xs.map qh) (n+1):=by
  rw[hT];simp only
  rw[List.take_of_length_le (by simp)]
 clear hT hL;refine qR (n) 1 (rs:=[.cell 2 37]) zmx func203 ntmps203 rfl rfl rfl rfl rfl ?_;refine W1 ?_;refine W3 ?_;refine kR n 3 2 [] (.inl rfl) (by simp) ?_;refine nY (L 0) ?_
 refine aZ (ι:=Nat) zmx rfl [2,3,7,8,9] (fun i=>[.c (.ptr (0,2) 0),.c (.bI (0,3) (T i)),.c (.d (.sl (xs.map bW.enc))),.c (.d (.i .i64 xs.length)),.c (.d (.i .i64 i))])
  (fun i=>[.seed (L i),.seed 1,.box [.d (.s []),.bF []],.eG n 2 (T i)]::S)
  (fun i=>i<=xs.length) (fun i=>xs.length-i) 0 (by rw[hT0];rfl) (by rw[hT0];rfl) (Nat.zero_le _) ?_
 intro i hi;have hl:=gM i;refine W1 ?_;refine S0 (fun hb h=>?_) fun hb h=>?_
 ·have hi':i<xs.length:=by omega
  have hm:=List.getElem_mem hi';have hcz:=hsz _ hm;have hce:=bW.sum xs[i];have hs:=hTs i hi';refine W3 ?_;refine C1 (dx _ (L i+1)) ?_;refine C1 (lJ xs[i].fType (L i+1+1) (hfo _ hm) (by omega)) ?_;refine W3 ?_;refine C1 (nM _ _) ?_;refine W3 ?_;rw[hs];refine kH (L (i+1)) 3 (by decide) (i+1) (by omega) rfl rfl ?_ rfl (by omega);simp[iN,gT,V.refs,C.refs,jY]
 ·have hi':i=xs.length:=by omega
  refine aW rfl (jV 0 3 _ _) ?_;refine W1 ?_;rw[hi',hTe]
theorem CJ(f:aY)(n:Nat)(hv:jH f=true)(hsz:f.sz<=1048576):aF prog 128 [f.v] (.agg [.d (.s []),.d (.ol n (lx (vN f).aj (n+1)))]):=fun S=>by
 have hdz:=aY.sum f;rw[dH] at hdz;obtain⟨hf1,hf2,hf3,FH⟩:=vO hv;obtain⟨p,hp⟩:∃p:Nat,p=n+1+1+1+dU (bH (aO f.aH))+dU (bH (f.dI.map qh)):=⟨_,rfl⟩;obtain⟨L,hL⟩:∃L:Nat->Nat,L=fun i=>p+1+iL ((f.bC.map qV).take i):=⟨_,rfl⟩;obtain⟨T,hT⟩:∃T:Nat->List (List D),T=fun i=>lx ((f.bC.map qV).take i) (p+1):=⟨_,rfl⟩
 have hT0:T 0=[]:=by rw[hT];rfl
 have gM:∀i,(T i).length<=i:=fun i=>by
  rw[hT];simp only[gG];exact List.length_take_le _ _
 have hTs:∀i (hi:i<f.bC.length),T i++[[.s [],.ol (L i) [[.s f.bC[i].fName,.ol (L i+1) []],[.s (dn f.bC[i].fType).aQ,.ol (L i+1+1) (lx (dn f.bC[i].fType).aj (L i+1+1+1))]]]]=T (i+1):=fun i hi=>by
  have:=AR (l:=f.bC.map qV) (i:=i) (by rw[List.length_map];exact hi) (p+1);rw[List.getElem_map,qV,dZ,dw,jG,jG,nk,xg,jF,jT] at this;rw[hT,hL];exact this
 have hTe:T f.bC.length=lx (f.bC.map qV) (p+1):=by
  rw[hT];simp only
  rw[List.take_of_length_le (by simp)]
 clear hT hL;refine qR (p) 1 (rs:=[.cell 2 37]) zmx func128 ntmps128 rfl rfl rfl rfl rfl ?_;refine W1 ?_;refine W3 ?_;refine kR p 3 2 [] (.inl rfl) (by simp) ?_;refine nY (L 0) ?_;refine yA (Ga 4 p n) ?_
 refine aZ (ι:=Nat) zmx rfl [1,2,3,8,9,10] (fun i=>[.c (.ptr (0,2) 0),.c (.ptr (0,3) 0),.c (.bI (0,4) (T i)),.c (.d (.sl (f.bC.map dD.enc))),.c (.d (.i .i64 f.bC.length)),.c (.d (.i .i64 i))])
  (fun i=>[.seed (L i),.seed 1,.box [.d (.s f.fName),.d (.sl (f.aH.map encS)),.d (.sl (f.dI.map bW.enc)),.d (.sl (f.bC.map dD.enc)),.d (.i .i64 f.cB.aM),.d (.s f.cB.fName),.d (.sl (f.cB.fArgs.map ak.enc)),.d (.i .i64 f.fBody.aM),.d (.s f.fBody.bO),.d (.s f.fBody.fName),.d (.i .i64 f.fBody.fN),.d (.i .i64 f.fBody.fType.aM),.d (.s f.fBody.fType.fName),.d (.sl (f.fBody.fType.fArgs.map ak.enc)),.d (.sl (f.fBody.fArgs.map ay.enc)),.d (.sl (f.fBody.aT.map bq.enc))],.box [.d (.s []),.bF []],.eG p 2 (T i)]::S)
  (fun i=>i<=f.bC.length) (fun i=>f.bC.length-i) 0 (by rw[hT0];rfl) (by rw[hT0];rfl) (Nat.zero_le _) ?_
 intro i hi;have hl:=gM i;refine W1 ?_;refine S0 (fun hb h=>?_) fun hb h=>?_
 ·have hi':i<f.bC.length:=by omega
  have hm:=List.getElem_mem hi';have hcz:=LW hm;have hce:=dD.sum f.bC[i];have hs:=hTs i hi';refine W3 ?_;refine C1 (dx _ (L i+1)) ?_;refine C1 (lJ f.bC[i].fType (L i+1+1) (hf2 _ hm) (by omega)) ?_;refine W3 ?_;refine C1 (nM _ _) ?_;refine W3 ?_;rw[hs];refine kH (L (i+1)) 4 (by decide) (i+1) (by omega) rfl rfl ?_ rfl (by omega);simp[iN,gT,V.refs,C.refs,jY]
 ·have hi':i=f.bC.length:=by omega
  subst hi';rw[hTe];refine C1 (dx _ (n+1)) ?_;refine C1 (dx _ (n+1+1)) ?_;refine C1 (eD f.aH (by omega) (n+1+1+1)) ?_;refine C1 (vP f.dI (n+1+1+1+dU (bH (aO f.aH))) hf1 (by omega) (fun b hb=>by have:=qg hb;omega)) ?_;refine C1 (kP _) ?_;refine C1 (lJ f.cB (p+dU (bH (f.bC.map qV))) hf3 (by omega)) ?_;refine C1 (Ae f.fBody (p+dU (bH (f.bC.map qV))+dU (dn f.cB)) FH (by omega)) ?_;refine W3 ?_;refine C1 (nM _ _) ?_;rw[vN,dw];simp only[jG,nk,jF,kM,kN,dZ,dw,jT,<-hp,Af]
theorem xw(xs:List bW)(hlen:xs.length<=4194304)(hsz:∀b∈xs,b.sz<=4194304):aF prog 205 [.c (.d (.sl (xs.map bW.enc)))] (.agg [.d (.s []),.d (.sl ((xs.map qh).map ah.enc))]):=fun S=>by
 obtain⟨T,hT⟩:∃T:Nat->List (List D),T=fun i=>((xs.map qh).take i).map ah.enc:=⟨_,rfl⟩
 have hT0:T 0=[]:=by rw[hT];rfl
 have gM:∀i,(T i).length<=i:=fun i=>by
  rw[hT];simp only[List.length_map];exact List.length_take_le _ _
 have hTs:∀i (hi:i<xs.length),T i++[[.s [],.sl [[.s xs[i].bO,.sl []],[.s (dn xs[i].fType).aQ,.sl ((dn xs[i].fType).aj.map ah.enc)]]]]=T (i+1):=fun i hi=>by
  have:=jc (base:=[]) (l:=xs.map qh) (i:=i) (by rw[List.length_map];exact hi);rw[List.getElem_map,qh,dZ,dw,List.map_cons,List.map_cons,List.map_nil,fC,ah.aJ (dn xs[i].fType)] at this;rw[hT];exact this
 have hTe:T xs.length=(xs.map qh).map ah.enc:=by
  rw[hT];simp only
  rw[List.take_of_length_le (by simp)]
 clear hT;refine zcx [.cell 2 37] func205 ntmps205 ?_;refine W1 ?_;refine sJ 1 1 2 [] [.d (.s []),.bF []] rfl rfl (by simp) ?_
 refine aZ (ι:=Nat) zmx rfl [0,2,3,4] (fun i=>[.c (.d (.sl (xs.map bW.enc))),.c (.ptr (0,0) 0),.c (.ptr (0,1) 0),.c (.d (.i .i64 i))])
  (fun i=>[.box [.d (.s []),.bF []],.box [.d (.s []),.bI (0,2) (T i)],.tok 2 (T i)]::S)
  (fun i=>i<=xs.length) (fun i=>xs.length-i) 0 rfl (by rw[hT0];rfl) (Nat.zero_le _) ?_
 intro i hi;have hl:=gM i;refine W1 ?_;refine S0 (fun hb h=>?_) fun hb h=>?_
 ·have hi':i<xs.length:=by omega
  have hm:=List.getElem_mem hi';have hcz:=hsz _ hm;have hce:=bW.sum xs[i];have hs:=hTs i hi';refine W3 ?_;refine C1 (bS _) ?_;refine W3 ?_;refine C1 (l7 xs[i].fType (by omega)) ?_;refine W3 ?_;refine C1 (nI _ (by simp) (by simp)) ?_;refine W3 ?_;rw[hs];exact dB (i+1) (by omega) rfl rfl (by omega)
 ·have hi':i=xs.length:=by omega
  subst hi';rw[hTe]
theorem Tk(f:aY)(hsz:f.sz<=1048576):aF prog 133 [f.v] (IY f).v:=by
 unfold IY
 cases hv:jH f with
 |false=>
  rw[vv];refine aF.less (fun S=> ?_) (AV [] []);refine zcx [.cell 2 37] func133 ntmps133 ?_;refine W1 ?_;refine bD (AX f (by omega)) ?_;simp -implicitDefEqProofs (disch:=omega) only[go_sem,hv]
 |true=>
  intro S;have hdz:=aY.sum f;rw[dH] at hdz;obtain⟨hf1,hf2,hf3,FH⟩:=vO hv;have hz:=W9 FH;obtain⟨T,hT⟩:∃T:Nat->List (List D),T=fun i=>((f.bC.map qV).take i).map ah.enc:=⟨_,rfl⟩
  have hT0:T 0=[]:=by rw[hT];rfl
  have gM:∀i,(T i).length<=i:=fun i=>by
   rw[hT];simp only[List.length_map];exact List.length_take_le _ _
  have hTs:∀i (hi:i<f.bC.length),T i++[[.s [],.sl [[.s f.bC[i].fName,.sl []],[.s (dn f.bC[i].fType).aQ,.sl ((dn f.bC[i].fType).aj.map ah.enc)]]]]=T (i+1):=fun i hi=>by
   have:=jc (base:=[]) (l:=f.bC.map qV) (i:=i) (by rw[List.length_map];exact hi);rw[List.getElem_map,qV,dZ,dw,List.map_cons,List.map_cons,List.map_nil,fC,ah.aJ (dn f.bC[i].fType)] at this;rw[hT];exact this
  have hTe:T f.bC.length=(f.bC.map qV).map ah.enc:=by
   rw[hT];simp only
   rw[List.take_of_length_le (by simp)]
  clear hT;refine zcx [.cell 2 37] func133 ntmps133 ?_;refine W1 ?_;refine bD (AX f (by omega)) ?_;simp -implicitDefEqProofs (disch:=omega) only[go_sem,hv];refine sJ 2 1 2 [] [.d (.s []),.bF []] rfl rfl (by simp) ?_
  refine aZ (ι:=Nat) zmx rfl [1,2,3,4] (fun i=>[.c (.ptr (0,0) 0),.c (.ptr (0,1) 0),.c (.ptr (0,2) 0),.c (.d (.i .i64 i))])
   (fun i=>[.box [.d (.s f.fName),.d (.sl (f.aH.map encS)),.d (.sl (f.dI.map bW.enc)),.d (.sl (f.bC.map dD.enc)),.d (.i .i64 f.cB.aM),.d (.s f.cB.fName),.d (.sl (f.cB.fArgs.map ak.enc)),.d (.i .i64 f.fBody.aM),.d (.s f.fBody.bO),.d (.s f.fBody.fName),.d (.i .i64 f.fBody.fN),.d (.i .i64 f.fBody.fType.aM),.d (.s f.fBody.fType.fName),.d (.sl (f.fBody.fType.fArgs.map ak.enc)),.d (.sl (f.fBody.fArgs.map ay.enc)),.d (.sl (f.fBody.aT.map bq.enc))],.box [.d (.s []),.bF []],.box [.d (.s []),.bI (0,3) (T i)],.tok 2 (T i)]::S)
   (fun i=>i<=f.bC.length) (fun i=>f.bC.length-i) 0 rfl (by rw[hT0];rfl) (Nat.zero_le _) ?_
  intro i hi;have hl:=gM i;refine W1 ?_;refine S0 (fun hb h=>?_) fun hb h=>?_
  ·have hi':i<f.bC.length:=by omega
   have hm:=List.getElem_mem hi';have hcz:=LW hm;have hce:=dD.sum f.bC[i];have hs:=hTs i hi';refine W3 ?_;refine C1 (bS _) ?_;refine W3 ?_;refine C1 (l7 f.bC[i].fType (by omega)) ?_;refine W3 ?_;refine C1 (nI _ (by simp) (by simp)) ?_;refine W3 ?_;rw[hs];exact dB (i+1) (by omega) rfl rfl (by omega)
  ·have hi':i=f.bC.length:=by omega
   subst hi';rw[hTe];refine C1 (bS _) ?_;refine C1 (bS _) ?_;refine C1 (dY f.aH (by omega)) ?_;refine C1 (xw f.dI (by omega) (fun b hb=>by have:=qg hb;omega)) ?_;refine C1 (l7 f.cB (by omega)) ?_;refine C1 (uP f.fBody FH (by omega)) ?_;refine W3 ?_;refine C1 (nI _ (by simp) (by simp)) ?_;refine W3 ?_;have hI:=rD true (vN f) (by omega)
   have hx:(vN f).v=V.agg [.d (.s []),.d (.sl [[.s [102,110],.sl []],[.s f.fName,.sl []],[.s [],.sl ((aO f.aH).map ah.enc)],[.s [],.sl ((f.dI.map qh).map ah.enc)],[.s [],.sl ((f.bC.map qV).map ah.enc)],[.s (dn f.cB).aQ,.sl ((dn f.cB).aj.map ah.enc)],[.s (fu f.fBody).aQ,.sl ((fu f.fBody).aj.map ah.enc)]])]:=by
    rw[vN];show V.agg [.d (.s []),.d (.sl (List.map ah.enc _))]=_;simp only[dw,List.map_cons,List.map_nil,fC,jC,ah.aJ (dn f.cB),ah.aJ (fu f.fBody),Af]
   rw[hx] at hI;refine bD hI ?_;exact Z1
end Go.Ab