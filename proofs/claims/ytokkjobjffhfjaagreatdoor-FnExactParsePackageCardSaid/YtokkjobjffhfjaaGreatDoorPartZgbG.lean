/-
  SEVERAL TEXTS IN ONE (merged by program): contracts and models, each with its own heading.
-/
import Derived.Test.YtokkjobjffhfjaaGreatDoorPartZgbF
set_option maxHeartbeats 8000000
open Go.Proofs Go.Proofs.Tryz
set_option linter.unusedSimpArgs false
set_option linter.unusedVariables false
set_option maxRecDepth 4000
namespace Go.Ab
def Am(P:Program)(N:Nat)(g:St->St):Nat->Code->(Exit->St->Prop)->St->Prop
 |0,c,Q,s=>CW P N c Q (g s)
 |k+1,.seq x y,Q,s=>CW P N x (lu (Am P N g k y Q) Q) s
 |_,_,_,_=>False
theorem XJ{P:Program}{N:Nat}{g:St->St}{c:Code}{Q:Exit->St->Prop}{s:St}:Am P N g 0 c Q s=CW P N c Q (g s):=by rw[Am]
theorem AX{P:Program}{N k:Nat}{g:St->St}{x y:Code}{Q:Exit->St->Prop}{s:St}:Am P N g (k+1) (.seq x y) Q s=CW P N x (lu (Am P N g k y Q) Q) s:=by rw[Am]
theorem ai9{P:Program}{N:Nat}{g:St->St}{x y:Code}{Q:Exit->St->Prop}{s:St}:Am P N g 5 (.seq x y) Q s=CW P N x (lu (Am P N g 4 y Q) Q) s:=AX
theorem aja{P:Program}{N:Nat}{g:St->St}{x y:Code}{Q:Exit->St->Prop}{s:St}:Am P N g 4 (.seq x y) Q s=CW P N x (lu (Am P N g 3 y Q) Q) s:=AX
theorem afY{P:Program}{N:Nat}{g:St->St}{x y:Code}{Q:Exit->St->Prop}{s:St}:Am P N g 3 (.seq x y) Q s=CW P N x (lu (Am P N g 2 y Q) Q) s:=AX
theorem alO{P:Program}{N:Nat}{g:St->St}{x y:Code}{Q:Exit->St->Prop}{s:St}:Am P N g 2 (.seq x y) Q s=CW P N x (lu (Am P N g 1 y Q) Q) s:=AX
theorem alP{P:Program}{N:Nat}{g:St->St}{x y:Code}{Q:Exit->St->Prop}{s:St}:Am P N g 1 (.seq x y) Q s=CW P N x (lu (Am P N g 0 y Q) Q) s:=AX
attribute [go_sem] XJ ai9 aja afY alO alP
theorem Tq{P:Program}{N:Nat}{g:St->St}(hg:∀s,iD N s (g s))(ig:P.follows .mixedOrders=true):∀(k:Nat)(c:Code)(Q:Exit->St->Prop)(s:St),codeOk N c=true->Am P N g k c Q s->AW P N c Q s
 |0,c,Q,s,ok,h=>by
  rw[XJ] at h;exact ow (lI ig c Q _ ok h) (hg s)
 |k+1,.seq x y,Q,s,ok,h=>by
  rw[AX] at h;simp only[codeOk,Bool.and_eq_true] at ok;refine Vi (AW.mono (lI ig x _ s ok.1 h) fun e s' h'=> ?_)
  cases e with
  |normal=>exact Tq hg ig k y Q s' ok.2 h'
  |_=>exact h'
 |k+1,.region ..,_,_,_,h=>h.elim
 |k+1,.cond ..,_,_,_,h=>h.elim
 |k+1,.block ..,_,_,_,h=>h.elim
 |k+1,.exit ..,_,_,_,h=>h.elim
 |k+1,.ret,_,_,_,h=>h.elim
 |k+1,.skip,_,_,_,h=>h.elim
 |k+1,.loop ..,_,_,_,h=>h.elim
theorem Bw{P:Program}{S:Store}{N:Nat}(n k n' pos:Nat){f:FuncId}{fn:Func}{c:Code}{args:List V}{post:V->Store->Prop}{rs:List ResultVar}(ig:P.follows .mixedOrders=true)(hf:P.funcs[f]? =some fn)(hN:fn.ntmps=N)
 (hb:fn.body=some c) (hn:(fn.name== "runtime.NumGoroutine")=false) (hr:fn.results.toList=rs) (hl:Nat.ble args.length N=true) (hok:codeOk N c=true)
 (h:Am P N (Ew n') pos c (WK P n rs post) ⟨sJ (args.map (V.up 1)) 0,[.seed n,.seed k]::S⟩):dz P f args S post:=by
 subst hN;subst hr;exact yg hf hb hn (Nat.le_of_ble_eq_true hl) (WU n k (F9 (Eh n) (Tq (GI n') ig pos c _ _ hok h)))
def kY:List UInt8:=[105,110,115,116]
def oK:List UInt8:=[100,101,102,97,117,108,116]
def kK(x:aM):List (List UInt8):=if x.gJ=true then [oK] else []
def kL(x:aM):List aj:=if x.dX=true then [cK x.bE] else []
def pz(m:bA):aj:=bC [bI m.fName,bC (aN m.aG),fq m.fBody]
def nW(x:aM):List aj:=[bI kY,bI x.bD,bC (aN x.aG),cK x.bQ,bC (x.bY.map qY),bC (aN (kK x)),bC (kL x)]
def xR(x:aM):aj:=bC (nW x++x.aI.map pz)
noncomputable def XK(x:aM):aj:=wS (fD x) (xR x)
theorem alQ{x:aM}(h:x.sz<=1048576):(XK x).sz<=1048576:=Nat.le_trans (Lc _ _) (by decide)
theorem alR(m:bA)(hok:iW m.fBody=true):(pz m).sz<=27+32*m.sz:=by
 have h1:=Kw m.fBody hok;have h3:=bA.sum m;rw[dK] at h3;rw[pz,jF];simp[dA,jR,jF,jN,sW];omega
theorem XL:∀l:List bA,(∀g∈l,iW g.fBody=true)->dA (l.map pz)<=27*l.length+32*bn (l.map bA.enc)
 |[],_=>by simp[dA]
 |c::l,h=>by
  have h1:=alR c (h c (List.mem_cons_self ..));have h2:=XL l fun g hg=>h g (List.mem_cons_of_mem _ hg);rw[List.map_cons,dA,List.map_cons,bn,List.length_cons];simp only[bA.sz] at h1;omega
theorem oL{x:aM}(h:fD x=true):formed x.bQ=true/\(∀b∈x.bY,formed b.fType=true)/\(x.dX=true->formed x.bE=true)/\(∀m∈x.aI,iW m.fBody=true):=by
 unfold fD vN at h;simp only[Bool.and_eq_true] at h;obtain⟨⟨_,_,_,h1,_,_,_,h2,h3,_⟩,h4,_⟩:=h;refine⟨wG h1,CS h2,fun ha=> ?_,fun m hm=> ?_⟩
 ·rw[if_pos ha] at h3;exact wG h3
 ·have h5:=List.all_eq_true.1 h4 m hm;unfold nu at h5;simp only[Bool.and_eq_true] at h5;exact E9 h5.2.2
theorem KM{x:aM}(hok:fD x=true):(xR x).sz<=96+40*x.sz:=by
 obtain⟨_,_,_,hm⟩:=oL hok;have h1:=XL x.aI hm;have h2:=Rm x.bY;have h3:=aM.sum x;have h4:=BO x.bQ;have h5:=BO x.bE
 have h6:(kK x).length<=1/\((kK x).map List.length).sum<=7:=by unfold kK;split<;>simp[oK]
 have h7:(kL x).length<=1/\dA (kL x)<=(cK x.bE).sz:=by unfold kL;split<;>simp[dA]
 rw[dK] at h3;rw[xR,jF,jP,List.length_append,List.length_map];simp[nW,dA,jR,jF,jN,sW,kY];omega
theorem adg(n:Nat)(a b:List UInt8)(w v:List (List UInt8))(h:aj)(bs zs:List aj):lx [bI a,bI b,bC (aN w),h,bC bs,bC (aN v),bC zs] (n+1)=[[.s a,.ol (n+1) []],[.s b,.ol (n+1+1) []],[.s [],.ol (n+1+1+1) (lx (aN w) (n+1+1+1+1))],[.s h.aO,.ol (n+1+1+1+dS (bC (aN w))) (lx h.ah (n+1+1+1+dS (bC (aN w))+1))],[.s [],.ol (n+1+1+1+dS (bC (aN w))+dS h) (lx bs (n+1+1+1+dS (bC (aN w))+dS h+1))],
 [.s [],.ol (n+1+1+1+dS (bC (aN w))+dS h+dS (bC bs)) (lx (aN v) (n+1+1+1+dS (bC (aN w))+dS h+dS (bC bs)+1))],[.s [],.ol (n+1+1+1+dS (bC (aN w))+dS h+dS (bC bs)+dS (bC (aN v))) (lx zs (n+1+1+1+dS (bC (aN w))+dS h+dS (bC bs)+dS (bC (aN v))+1))]]:=by
 simp only[jT,nO,j6,kU,kV,dW,dH,j4]
theorem XM(n:Nat)(es:List (List D)):Less (.c (.d (.ol n es))) (.c (.d (.sl es))):=fun w σ S β v h=>⟨uD h.1,h.2⟩
theorem XO(x:aM)(n:Nat)(hv:fD x=true)(hsz:x.sz<=1048576):aH prog 222 [x.v] (.agg [.d (.s []),.d (.ol n (lx (xR x).ah (n+1)))]):=fun S=>by
 have hdz:=aM.sum x;rw[dK] at hdz;obtain⟨hf1,hf2,hf3,Fb⟩:=oL hv;obtain⟨p,hp⟩:∃p:Nat,p=n+1+1+1+dS (bC (aN x.aG))+dS (cK x.bQ)+dS (bC (x.bY.map qY))+dS (bC (aN (kK x))):=⟨_,rfl⟩;obtain⟨L,hL⟩:∃L:Nat->Nat,L=fun i=>n+1+jB (nW x++(x.aI.map pz).take i):=⟨_,rfl⟩;obtain⟨T,hT⟩:∃T:Nat->List (List D),T=fun i=>lx (nW x++(x.aI.map pz).take i) (n+1):=⟨_,rfl⟩
 have hT0:T 0=[[.s kY,.ol (n+1) []],[.s x.bD,.ol (n+1+1) []],[.s [],.ol (n+1+1+1) (lx (aN x.aG) (n+1+1+1+1))],[.s (cK x.bQ).aO,.ol (n+1+1+1+dS (bC (aN x.aG))) (lx (cK x.bQ).ah (n+1+1+1+dS (bC (aN x.aG))+1))],[.s [],.ol (n+1+1+1+dS (bC (aN x.aG))+dS (cK x.bQ)) (lx (x.bY.map qY) (n+1+1+1+dS (bC (aN x.aG))+dS (cK x.bQ)+1))],[.s [],.ol (n+1+1+1+dS (bC (aN x.aG))+dS (cK x.bQ)+dS (bC (x.bY.map qY))) (lx (aN (kK x)) (n+1+1+1+dS (bC (aN x.aG))+dS (cK x.bQ)+dS (bC (x.bY.map qY))+1))],[.s [],.ol p (lx (kL x) (p+1))]]:=by
  rw[hT,hp];simp only[List.take_zero,List.append_nil,nW,adg]
 have iG:∀i,(T i).length<=i+7:=fun i=>by
  rw[hT];simp only[iC,List.length_append];have:=List.length_take_le i (x.aI.map pz);simp[nW];omega
 have hTs:∀i (hi:i<x.aI.length),T i++[[.s [],.ol (L i) [[.s x.aI[i].fName,.ol (L i+1) []],[.s [],.ol (L i+1+1) (lx (aN x.aI[i].aG) (L i+1+1+1))],[.s (fq x.aI[i].fBody).aO,.ol (L i+1+1+dS (bC (aN x.aI[i].aG))) (lx (fq x.aI[i].fBody).ah (L i+1+1+dS (bC (aN x.aI[i].aG))+1))]]]]=T (i+1):=fun i hi=>by
  have:=AJ (base:=nW x) (l:=x.aI.map pz) (i:=i) (by rw[List.length_map];exact hi) (n+1);rw[List.getElem_map,pz,dW,dH] at this;simp only[jT,nO,j6,kU,kV,dW,dH,j4] at this;rw[hT,hL];exact this
 have hTr:∀i,∀r∈T i,r.length=2:=fun i=>by rw[hT];exact lZ
 have hTe:T x.aI.length=lx (xR x).ah (n+1):=by
  rw[hT];simp only
  rw[List.take_of_length_le (by simp)];rfl
 clear hT hL;refine(show Hold ?T->_ from fun tail=> ?main) ?tp
 case' main=>
  cases ha:x.gJ<;>cases hs:x.dX
  ·have hfl:kK x=[]:=by unfold kK;rw[ha];rfl
   have has:kL x=[]:=by unfold kL;rw[hs];rfl
   refine Bw (p) 1 (n) 5 (rs:=[.cell 2 54]) zmx func222 ntmps222 rfl rfl rfl rfl rfl ?_;simp -implicitDefEqProofs (disch:=omega) only[go_sem,ha,hs];refine W3 ?_;refine C1 (dG _ (n+1)) ?_;refine C1 (dG _ (n+1+1)) ?_;refine C1 (eO x.aG (by omega) (n+1+1+1)) ?_;refine C1 (l7 x.bQ (n+1+1+1+dS (bC (aN x.aG))) hf1 (by omega)) ?_;refine C1 (vL x.bY (n+1+1+1+dS (bC (aN x.aG))+dS (cK x.bQ)) hf2 (by omega) (fun b hb=>by have:=qX hb;omega)) ?_;refine oD (eO [] (by simp) (n+1+1+1+dS (bC (aN x.aG))+dS (cK x.bQ)+dS (bC (x.bY.map qY)))) (.cons (o9 p _) .nil) ?_;refine W1 ?_;refine C1 (oF _ _) ?_;refine W3 ?_;refine mU n 5 2 (T 0) (.inl ?_) (hTr 0) ?_
   ·rw[hT0,hfl,has];rfl
   refine rT (L 0) ?_;refine oC (st':=[.seed (L 0),.seed 1,.box [.d (.s x.bD),.d (.sl (x.aG.map encS)),.d (.i .i64 x.bQ.aJ),.d (.s x.bQ.fName),.d (.sl (x.bQ.fArgs.map ak.enc)),.d (.sl (x.bY.map bq.enc)),.d (.b x.gJ),.d (.b x.dX),.d (.i .i64 x.bE.aJ),.d (.s x.bE.fName),.d (.sl (x.bE.fArgs.map ak.enc)),.d (.sl (x.aI.map bA.enc))],.box [.d (.s []),.bG []],.fu n 2 (T 0)]::S) [2,5,42,43,44] [.c (.ptr (0,3) 0),.c (.bN (0,4) (T 0)),.c (.d (.sl (x.aI.map bA.enc))),.c (.d (.i .i64 x.aI.length)),.c (.d (.i .i64 0))] ?_ ?_ ?_
   ·rfl
   ·rw[ha,hs];rfl
   ·exact tail.out
  ·have hfl:kK x=[]:=by unfold kK;rw[ha];rfl
   have has:kL x=[cK x.bE]:=by unfold kL;rw[hs];rfl
   refine Bw (p) 1 (n) 5 (rs:=[.cell 2 54]) zmx func222 ntmps222 rfl rfl rfl rfl rfl ?_;simp -implicitDefEqProofs (disch:=omega) only[go_sem,ha,hs];refine W3 ?_;refine C1 (l7 x.bE (p+1) (hf3 hs) (by omega)) ?_;refine W3 ?_;refine C1 (dG _ (n+1)) ?_;refine C1 (dG _ (n+1+1)) ?_;refine C1 (eO x.aG (by omega) (n+1+1+1)) ?_;refine C1 (l7 x.bQ (n+1+1+1+dS (bC (aN x.aG))) hf1 (by omega)) ?_;refine C1 (vL x.bY (n+1+1+1+dS (bC (aN x.aG))+dS (cK x.bQ)) hf2 (by omega) (fun b hb=>by have:=qX hb;omega)) ?_;refine oD (eO [] (by simp) (n+1+1+1+dS (bC (aN x.aG))+dS (cK x.bQ)+dS (bC (x.bY.map qY)))) (.cons (o9 p _) .nil) ?_;refine W1 ?_;refine C1 (l6 _) ?_;refine W3 ?_;refine mU n 5 2 (T 0) (.inl ?_) (hTr 0) ?_
   ·rw[hT0,hfl,has,jT,nO,j6];rfl
   refine rT (L 0) ?_;refine oC (st':=[.seed (L 0),.seed 1,.box [.d (.s x.bD),.d (.sl (x.aG.map encS)),.d (.i .i64 x.bQ.aJ),.d (.s x.bQ.fName),.d (.sl (x.bQ.fArgs.map ak.enc)),.d (.sl (x.bY.map bq.enc)),.d (.b x.gJ),.d (.b x.dX),.d (.i .i64 x.bE.aJ),.d (.s x.bE.fName),.d (.sl (x.bE.fArgs.map ak.enc)),.d (.sl (x.aI.map bA.enc))],.box [.d (.s []),.bG []],.fu n 2 (T 0)]::S) [2,5,42,43,44] [.c (.ptr (0,3) 0),.c (.bN (0,4) (T 0)),.c (.d (.sl (x.aI.map bA.enc))),.c (.d (.i .i64 x.aI.length)),.c (.d (.i .i64 0))] ?_ ?_ ?_
   ·rfl
   ·rw[ha,hs];rfl
   ·exact tail.out
  ·have hfl:kK x=[oK]:=by unfold kK;rw[ha];rfl
   have has:kL x=[]:=by unfold kL;rw[hs];rfl
   refine Bw (p) 1 (n) 5 (rs:=[.cell 2 54]) zmx func222 ntmps222 rfl rfl rfl rfl rfl ?_;simp -implicitDefEqProofs (disch:=omega) only[go_sem,ha,hs];refine W3 ?_;refine C1 (dG _ (n+1)) ?_;refine C1 (dG _ (n+1+1)) ?_;refine C1 (eO x.aG (by omega) (n+1+1+1)) ?_;refine C1 (l7 x.bQ (n+1+1+1+dS (bC (aN x.aG))) hf1 (by omega)) ?_;refine C1 (vL x.bY (n+1+1+1+dS (bC (aN x.aG))+dS (cK x.bQ)) hf2 (by omega) (fun b hb=>by have:=qX hb;omega)) ?_;refine oD (eO [oK] (by simp) (n+1+1+1+dS (bC (aN x.aG))+dS (cK x.bQ)+dS (bC (x.bY.map qY)))) (.cons (XM p _) .nil) ?_;refine W1 ?_;refine C1 (oF _ _) ?_;refine W3 ?_;refine mU n 5 2 (T 0) (.inl ?_) (hTr 0) ?_
   ·rw[hT0,hfl,has];rfl
   refine rT (L 0) ?_;refine oC (st':=[.seed (L 0),.seed 1,.box [.d (.s x.bD),.d (.sl (x.aG.map encS)),.d (.i .i64 x.bQ.aJ),.d (.s x.bQ.fName),.d (.sl (x.bQ.fArgs.map ak.enc)),.d (.sl (x.bY.map bq.enc)),.d (.b x.gJ),.d (.b x.dX),.d (.i .i64 x.bE.aJ),.d (.s x.bE.fName),.d (.sl (x.bE.fArgs.map ak.enc)),.d (.sl (x.aI.map bA.enc))],.box [.d (.s []),.bG []],.fu n 2 (T 0)]::S) [2,5,42,43,44] [.c (.ptr (0,3) 0),.c (.bN (0,4) (T 0)),.c (.d (.sl (x.aI.map bA.enc))),.c (.d (.i .i64 x.aI.length)),.c (.d (.i .i64 0))] ?_ ?_ ?_
   ·rfl
   ·rw[ha,hs];rfl
   ·exact tail.out
  ·have hfl:kK x=[oK]:=by unfold kK;rw[ha];rfl
   have has:kL x=[cK x.bE]:=by unfold kL;rw[hs];rfl
   refine Bw (p) 1 (n) 5 (rs:=[.cell 2 54]) zmx func222 ntmps222 rfl rfl rfl rfl rfl ?_;simp -implicitDefEqProofs (disch:=omega) only[go_sem,ha,hs];refine W3 ?_;refine C1 (l7 x.bE (p+1) (hf3 hs) (by omega)) ?_;refine W3 ?_;refine C1 (dG _ (n+1)) ?_;refine C1 (dG _ (n+1+1)) ?_;refine C1 (eO x.aG (by omega) (n+1+1+1)) ?_;refine C1 (l7 x.bQ (n+1+1+1+dS (bC (aN x.aG))) hf1 (by omega)) ?_;refine C1 (vL x.bY (n+1+1+1+dS (bC (aN x.aG))+dS (cK x.bQ)) hf2 (by omega) (fun b hb=>by have:=qX hb;omega)) ?_;refine oD (eO [oK] (by simp) (n+1+1+1+dS (bC (aN x.aG))+dS (cK x.bQ)+dS (bC (x.bY.map qY)))) (.cons (XM p _) .nil) ?_;refine W1 ?_;refine C1 (l6 _) ?_;refine W3 ?_;refine mU n 5 2 (T 0) (.inl ?_) (hTr 0) ?_
   ·rw[hT0,hfl,has,jT,nO,j6];rfl
   refine rT (L 0) ?_;refine oC (st':=[.seed (L 0),.seed 1,.box [.d (.s x.bD),.d (.sl (x.aG.map encS)),.d (.i .i64 x.bQ.aJ),.d (.s x.bQ.fName),.d (.sl (x.bQ.fArgs.map ak.enc)),.d (.sl (x.bY.map bq.enc)),.d (.b x.gJ),.d (.b x.dX),.d (.i .i64 x.bE.aJ),.d (.s x.bE.fName),.d (.sl (x.bE.fArgs.map ak.enc)),.d (.sl (x.aI.map bA.enc))],.box [.d (.s []),.bG []],.fu n 2 (T 0)]::S) [2,5,42,43,44] [.c (.ptr (0,3) 0),.c (.bN (0,4) (T 0)),.c (.d (.sl (x.aI.map bA.enc))),.c (.d (.i .i64 x.aI.length)),.c (.d (.i .i64 0))] ?_ ?_ ?_
   ·rfl
   ·rw[ha,hs];rfl
   ·exact tail.out
 refine⟨?_⟩
 refine aU (ι:=Nat) zmx rfl [2,5,42,43,44] (fun i=>[.c (.ptr (0,3) 0),.c (.bN (0,4) (T i)),.c (.d (.sl (x.aI.map bA.enc))),.c (.d (.i .i64 x.aI.length)),.c (.d (.i .i64 i))])
  (fun i=>[.seed (L i),.seed 1,.box [.d (.s x.bD),.d (.sl (x.aG.map encS)),.d (.i .i64 x.bQ.aJ),.d (.s x.bQ.fName),.d (.sl (x.bQ.fArgs.map ak.enc)),.d (.sl (x.bY.map bq.enc)),.d (.b x.gJ),.d (.b x.dX),.d (.i .i64 x.bE.aJ),.d (.s x.bE.fName),.d (.sl (x.bE.fArgs.map ak.enc)),.d (.sl (x.aI.map bA.enc))],.box [.d (.s []),.bG []],.fu n 2 (T i)]::S)
  (fun i=>i<=x.aI.length) (fun i=>x.aI.length-i) 0 rfl rfl (Nat.zero_le _) ?_
 intro i hi;have hl:=iG i;refine W1 ?_;refine S0 (fun hb h=>?_) fun hb h=>?_
 ·have hi':i<x.aI.length:=by omega
  have hm:=List.getElem_mem hi';have hcz:=AV hm;have hce:=bA.sum x.aI[i];rw[dK] at hce;have hst:=hTs i hi';refine W3 ?_;refine C1 (dG _ (L i+1)) ?_;refine C1 (eO x.aI[i].aG (by omega) (L i+1+1)) ?_;refine C1 (Aa x.aI[i].fBody (L i+1+1+dS (bC (aN x.aI[i].aG))) (Fb _ hm) (by omega)) ?_;refine W3 ?_;refine C1 (oF _ _) ?_;refine W3 ?_;rw[hst];refine tX (L (i+1)) 4 (by decide) (i+1) (by omega) rfl rfl ?_ rfl (by omega);simp[kT,jd,V.refs,C.refs,nZ]
 ·have hi':i=x.aI.length:=by omega
  refine bg rfl (kE 0 4 _ _) ?_;refine W1 ?_;rw[hi',hTe]
theorem ajb(x:aM)(hv:fD x=true)(hsz:x.sz<=1048576)(ha:x.gJ=true)(hs:x.dX=true):aH prog 210 [x.v] (D9 (xR x)).v:=fun S=>by
 have hdz:=aM.sum x;rw[dK] at hdz;obtain⟨hf1,hf2,hf3,Fb⟩:=oL hv;have hz:=KM hv
 have hfl:kK x=[oK]:=by unfold kK;rw[ha];rfl
 have has:kL x=[cK x.bE]:=by unfold kL;rw[hs];rfl
 obtain⟨T,hT⟩:∃T:Nat->List (List D),T=fun i=>(nW x++(x.aI.map pz).take i).map aj.enc:=⟨_,rfl⟩
 have hT0:T 0=[[.s kY,.sl []],[.s x.bD,.sl []],[.s [],.sl ((aN x.aG).map aj.enc)],[.s (cK x.bQ).aO,.sl ((cK x.bQ).ah.map aj.enc)],[.s [],.sl ((x.bY.map qY).map aj.enc)],[.s [],.sl ((aN [oK]).map aj.enc)],[.s [],.sl [[.s (cK x.bE).aO,.sl ((cK x.bE).ah.map aj.enc)]]]]:=by
  rw[hT];simp only[List.take_zero,List.append_nil,nW,hfl,has,List.map_cons,List.map_nil,fJ,kF,aj.aB (cK x.bQ),aj.aB (cK x.bE)]
 have iG:∀i,(T i).length<=i+7:=fun i=>by
  rw[hT];simp only[List.length_map,List.length_append];have:=List.length_take_le i (x.aI.map pz);simp[nW];omega
 have hTs:∀i (hi:i<x.aI.length),T i++[[.s [],.sl [[.s x.aI[i].fName,.sl []],[.s [],.sl ((aN x.aI[i].aG).map aj.enc)],[.s (fq x.aI[i].fBody).aO,.sl ((fq x.aI[i].fBody).ah.map aj.enc)]]]]=T (i+1):=fun i hi=>by
  have:=jO (base:=nW x) (l:=x.aI.map pz) (i:=i) (by rw[List.length_map];exact hi);rw[List.getElem_map,pz,dW,dH] at this;simp only[List.map_cons,List.map_nil,fJ,kF,aj.aB (fq x.aI[i].fBody)] at this;rw[hT];exact this
 have hTr:∀i,∀r∈T i,r.length=2:=fun i=>by rw[hT];exact gV
 have hTe:T x.aI.length=(xR x).ah.map aj.enc:=by
  rw[hT];simp only
  rw[List.take_of_length_le (by simp)];rfl
 clear hT;refine aD (rs:=[.cell 2 54]) zmx func210 ntmps210 rfl rfl rfl rfl rfl ?_;refine W1 ?_;refine aZ (p9 x (by omega)) ?_;simp -implicitDefEqProofs (disch:=omega) only[go_sem,hv,ha,hs];refine W3 ?_;refine C1 (mP x.bE (by omega)) ?_;refine W3 ?_;refine C1 (om _ (by simp) (by simp)) ?_;refine W3 ?_;refine C1 (bW _) ?_;refine C1 (bW _) ?_;refine C1 (eF x.aG (by omega)) ?_;refine C1 (mP x.bQ (by omega)) ?_;refine C1 (xC x.bY (by omega) (fun b hb=>by have:=qX hb;omega)) ?_;refine C1 (eF [oK] (by simp)) ?_;have hE:=fun bU Ω=>lQ (T 0) (hTr 0) (by have:=iG 0;omega) bU Ω;simp only[hT0] at hE;refine qz [false] rfl (hE _ _) ?_;refine W1 ?_
 refine aU (ι:=Nat) zmx rfl [1,2,5,6] (fun i=>[.c (.ptr (0,0) 0),.c (.ptr (0,1) 0),.c (.ptr (0,6) 0),.c (.d (.i .i64 i))])
  (fun i=>[.box [.d (.s x.bD),.d (.sl (x.aG.map encS)),.d (.i .i64 x.bQ.aJ),.d (.s x.bQ.fName),.d (.sl (x.bQ.fArgs.map ak.enc)),.d (.sl (x.bY.map bq.enc)),.d (.b true),.d (.b true),.d (.i .i64 x.bE.aJ),.d (.s x.bE.fName),.d (.sl (x.bE.fArgs.map ak.enc)),.d (.sl (x.aI.map bA.enc))],.box [.d (.s []),.bG []],.tok 1 [[.s oK]],.box [.d (.s []),.d (.sl [[.s (cK x.bE).aO,.sl ((cK x.bE).ah.map aj.enc)]])],.box [.d (.s []),.bN (0,5) (T 0)],.tok 2 (T i),.box [.d (.s []),.bN (0,5) (T i)]]::S)
  (fun i=>i<=x.aI.length) (fun i=>x.aI.length-i) 0 rfl (by simp only[hT0]<;>(try rfl)) (Nat.zero_le _) ?_
 intro i hi;have hl:=iG i;refine W1 ?_;refine S0 (fun hb h=>?_) fun hb h=>?_
 ·have hi':i<x.aI.length:=by omega
  have hm:=List.getElem_mem hi';have hcz:=AV hm;have hce:=bA.sum x.aI[i];rw[dK] at hce;have hst:=hTs i hi';refine W3 ?_;refine C1 (bW _) ?_;refine C1 (eF x.aI[i].aG (by omega)) ?_;refine C1 (uS x.aI[i].fBody (Fb _ hm) (by omega)) ?_;refine C1 (om _ (by simp) (by simp)) ?_;refine W3 ?_;rw[hst];exact bZ 7 (by decide) (i+1) (by omega) rfl rfl rfl rfl (by omega)
 ·have hi':i=x.aI.length:=by omega
  subst hi';rw[hTe];refine C1 (tJ true (xR x) (by omega)) ?_;rfl
theorem ajc(x:aM)(hv:fD x=true)(hsz:x.sz<=1048576)(ha:x.gJ=true)(hs:x.dX=false):aH prog 210 [x.v] (D9 (xR x)).v:=fun S=>by
 have hdz:=aM.sum x;rw[dK] at hdz;obtain⟨hf1,hf2,hf3,Fb⟩:=oL hv;have hz:=KM hv
 have hfl:kK x=[oK]:=by unfold kK;rw[ha];rfl
 have has:kL x=[]:=by unfold kL;rw[hs];rfl
 obtain⟨T,hT⟩:∃T:Nat->List (List D),T=fun i=>(nW x++(x.aI.map pz).take i).map aj.enc:=⟨_,rfl⟩
 have hT0:T 0=[[.s kY,.sl []],[.s x.bD,.sl []],[.s [],.sl ((aN x.aG).map aj.enc)],[.s (cK x.bQ).aO,.sl ((cK x.bQ).ah.map aj.enc)],[.s [],.sl ((x.bY.map qY).map aj.enc)],[.s [],.sl ((aN [oK]).map aj.enc)],[.s [],.sl []]]:=by
  rw[hT];simp only[List.take_zero,List.append_nil,nW,hfl,has,List.map_cons,List.map_nil,fJ,kF,aj.aB (cK x.bQ),aj.aB (cK x.bE)]
 have iG:∀i,(T i).length<=i+7:=fun i=>by
  rw[hT];simp only[List.length_map,List.length_append];have:=List.length_take_le i (x.aI.map pz);simp[nW];omega
 have hTs:∀i (hi:i<x.aI.length),T i++[[.s [],.sl [[.s x.aI[i].fName,.sl []],[.s [],.sl ((aN x.aI[i].aG).map aj.enc)],[.s (fq x.aI[i].fBody).aO,.sl ((fq x.aI[i].fBody).ah.map aj.enc)]]]]=T (i+1):=fun i hi=>by
  have:=jO (base:=nW x) (l:=x.aI.map pz) (i:=i) (by rw[List.length_map];exact hi);rw[List.getElem_map,pz,dW,dH] at this;simp only[List.map_cons,List.map_nil,fJ,kF,aj.aB (fq x.aI[i].fBody)] at this;rw[hT];exact this
 have hTr:∀i,∀r∈T i,r.length=2:=fun i=>by rw[hT];exact gV
 have hTe:T x.aI.length=(xR x).ah.map aj.enc:=by
  rw[hT];simp only
  rw[List.take_of_length_le (by simp)];rfl
 clear hT;refine aD (rs:=[.cell 2 54]) zmx func210 ntmps210 rfl rfl rfl rfl rfl ?_;refine W1 ?_;refine aZ (p9 x (by omega)) ?_;simp -implicitDefEqProofs (disch:=omega) only[go_sem,hv,ha,hs];refine W3 ?_;refine C1 (bW _) ?_;refine C1 (bW _) ?_;refine C1 (eF x.aG (by omega)) ?_;refine C1 (mP x.bQ (by omega)) ?_;refine C1 (xC x.bY (by omega) (fun b hb=>by have:=qX hb;omega)) ?_;refine C1 (eF [oK] (by simp)) ?_;have hE:=fun bU Ω=>lQ (T 0) (hTr 0) (by have:=iG 0;omega) bU Ω;simp only[hT0] at hE;refine qz [false] rfl (hE _ _) ?_;refine W1 ?_
 refine aU (ι:=Nat) zmx rfl [1,2,5,6] (fun i=>[.c (.ptr (0,0) 0),.c (.ptr (0,1) 0),.c (.ptr (0,6) 0),.c (.d (.i .i64 i))])
  (fun i=>[.box [.d (.s x.bD),.d (.sl (x.aG.map encS)),.d (.i .i64 x.bQ.aJ),.d (.s x.bQ.fName),.d (.sl (x.bQ.fArgs.map ak.enc)),.d (.sl (x.bY.map bq.enc)),.d (.b true),.d (.b false),.d (.i .i64 x.bE.aJ),.d (.s x.bE.fName),.d (.sl (x.bE.fArgs.map ak.enc)),.d (.sl (x.aI.map bA.enc))],.box [.d (.s []),.bG []],.tok 1 [[.s oK]],.box [.d (.s []),.bG []],.box [.d (.s []),.bN (0,5) (T 0)],.tok 2 (T i),.box [.d (.s []),.bN (0,5) (T i)]]::S)
  (fun i=>i<=x.aI.length) (fun i=>x.aI.length-i) 0 rfl (by simp only[hT0]<;>(try rfl)) (Nat.zero_le _) ?_
 intro i hi;have hl:=iG i;refine W1 ?_;refine S0 (fun hb h=>?_) fun hb h=>?_
 ·have hi':i<x.aI.length:=by omega
  have hm:=List.getElem_mem hi';have hcz:=AV hm;have hce:=bA.sum x.aI[i];rw[dK] at hce;have hst:=hTs i hi';refine W3 ?_;refine C1 (bW _) ?_;refine C1 (eF x.aI[i].aG (by omega)) ?_;refine C1 (uS x.aI[i].fBody (Fb _ hm) (by omega)) ?_;refine C1 (om _ (by simp) (by simp)) ?_;refine W3 ?_;rw[hst];exact bZ 7 (by decide) (i+1) (by omega) rfl rfl rfl rfl (by omega)
 ·have hi':i=x.aI.length:=by omega
  subst hi';rw[hTe];refine C1 (tJ true (xR x) (by omega)) ?_;rfl
theorem ajd(x:aM)(hv:fD x=true)(hsz:x.sz<=1048576)(ha:x.gJ=false)(hs:x.dX=true):aH prog 210 [x.v] (D9 (xR x)).v:=fun S=>by
 have hdz:=aM.sum x;rw[dK] at hdz;obtain⟨hf1,hf2,hf3,Fb⟩:=oL hv;have hz:=KM hv
 have hfl:kK x=[]:=by unfold kK;rw[ha];rfl
 have has:kL x=[cK x.bE]:=by unfold kL;rw[hs];rfl
 obtain⟨T,hT⟩:∃T:Nat->List (List D),T=fun i=>(nW x++(x.aI.map pz).take i).map aj.enc:=⟨_,rfl⟩
 have hT0:T 0=[[.s kY,.sl []],[.s x.bD,.sl []],[.s [],.sl ((aN x.aG).map aj.enc)],[.s (cK x.bQ).aO,.sl ((cK x.bQ).ah.map aj.enc)],[.s [],.sl ((x.bY.map qY).map aj.enc)],[.s [],.sl ((aN []).map aj.enc)],[.s [],.sl [[.s (cK x.bE).aO,.sl ((cK x.bE).ah.map aj.enc)]]]]:=by
  rw[hT];simp only[List.take_zero,List.append_nil,nW,hfl,has,List.map_cons,List.map_nil,fJ,kF,aj.aB (cK x.bQ),aj.aB (cK x.bE)]
 have iG:∀i,(T i).length<=i+7:=fun i=>by
  rw[hT];simp only[List.length_map,List.length_append];have:=List.length_take_le i (x.aI.map pz);simp[nW];omega
 have hTs:∀i (hi:i<x.aI.length),T i++[[.s [],.sl [[.s x.aI[i].fName,.sl []],[.s [],.sl ((aN x.aI[i].aG).map aj.enc)],[.s (fq x.aI[i].fBody).aO,.sl ((fq x.aI[i].fBody).ah.map aj.enc)]]]]=T (i+1):=fun i hi=>by
  have:=jO (base:=nW x) (l:=x.aI.map pz) (i:=i) (by rw[List.length_map];exact hi);rw[List.getElem_map,pz,dW,dH] at this;simp only[List.map_cons,List.map_nil,fJ,kF,aj.aB (fq x.aI[i].fBody)] at this;rw[hT];exact this
 have hTr:∀i,∀r∈T i,r.length=2:=fun i=>by rw[hT];exact gV
 have hTe:T x.aI.length=(xR x).ah.map aj.enc:=by
  rw[hT];simp only
  rw[List.take_of_length_le (by simp)];rfl
 clear hT;refine aD (rs:=[.cell 2 54]) zmx func210 ntmps210 rfl rfl rfl rfl rfl ?_;refine W1 ?_;refine aZ (p9 x (by omega)) ?_;simp -implicitDefEqProofs (disch:=omega) only[go_sem,hv,ha,hs];refine W3 ?_;refine C1 (mP x.bE (by omega)) ?_;refine W3 ?_;refine C1 (om _ (by simp) (by simp)) ?_;refine W3 ?_;refine C1 (bW _) ?_;refine C1 (bW _) ?_;refine C1 (eF x.aG (by omega)) ?_;refine C1 (mP x.bQ (by omega)) ?_;refine C1 (xC x.bY (by omega) (fun b hb=>by have:=qX hb;omega)) ?_;refine C1 (eF [] (by simp)) ?_;have hE:=fun bU Ω=>lQ (T 0) (hTr 0) (by have:=iG 0;omega) bU Ω;simp only[hT0] at hE;refine qz [false] rfl (hE _ _) ?_;refine W1 ?_
 refine aU (ι:=Nat) zmx rfl [1,2,5,6] (fun i=>[.c (.ptr (0,0) 0),.c (.ptr (0,1) 0),.c (.ptr (0,5) 0),.c (.d (.i .i64 i))])
  (fun i=>[.box [.d (.s x.bD),.d (.sl (x.aG.map encS)),.d (.i .i64 x.bQ.aJ),.d (.s x.bQ.fName),.d (.sl (x.bQ.fArgs.map ak.enc)),.d (.sl (x.bY.map bq.enc)),.d (.b false),.d (.b true),.d (.i .i64 x.bE.aJ),.d (.s x.bE.fName),.d (.sl (x.bE.fArgs.map ak.enc)),.d (.sl (x.aI.map bA.enc))],.box [.d (.s []),.bG []],.box [.d (.s []),.d (.sl [[.s (cK x.bE).aO,.sl ((cK x.bE).ah.map aj.enc)]])],.box [.d (.s []),.bN (0,4) (T 0)],.tok 2 (T i),.box [.d (.s []),.bN (0,4) (T i)]]::S)
  (fun i=>i<=x.aI.length) (fun i=>x.aI.length-i) 0 rfl (by simp only[hT0]<;>(try rfl)) (Nat.zero_le _) ?_
 intro i hi;have hl:=iG i;refine W1 ?_;refine S0 (fun hb h=>?_) fun hb h=>?_
 ·have hi':i<x.aI.length:=by omega
  have hm:=List.getElem_mem hi';have hcz:=AV hm;have hce:=bA.sum x.aI[i];rw[dK] at hce;have hst:=hTs i hi';refine W3 ?_;refine C1 (bW _) ?_;refine C1 (eF x.aI[i].aG (by omega)) ?_;refine C1 (uS x.aI[i].fBody (Fb _ hm) (by omega)) ?_;refine C1 (om _ (by simp) (by simp)) ?_;refine W3 ?_;rw[hst];exact bZ 6 (by decide) (i+1) (by omega) rfl rfl rfl rfl (by omega)
 ·have hi':i=x.aI.length:=by omega
  subst hi';rw[hTe];refine C1 (tJ true (xR x) (by omega)) ?_;rfl
theorem aje(x:aM)(hv:fD x=true)(hsz:x.sz<=1048576)(ha:x.gJ=false)(hs:x.dX=false):aH prog 210 [x.v] (D9 (xR x)).v:=fun S=>by
 have hdz:=aM.sum x;rw[dK] at hdz;obtain⟨hf1,hf2,hf3,Fb⟩:=oL hv;have hz:=KM hv
 have hfl:kK x=[]:=by unfold kK;rw[ha];rfl
 have has:kL x=[]:=by unfold kL;rw[hs];rfl
 obtain⟨T,hT⟩:∃T:Nat->List (List D),T=fun i=>(nW x++(x.aI.map pz).take i).map aj.enc:=⟨_,rfl⟩
 have hT0:T 0=[[.s kY,.sl []],[.s x.bD,.sl []],[.s [],.sl ((aN x.aG).map aj.enc)],[.s (cK x.bQ).aO,.sl ((cK x.bQ).ah.map aj.enc)],[.s [],.sl ((x.bY.map qY).map aj.enc)],[.s [],.sl ((aN []).map aj.enc)],[.s [],.sl []]]:=by
  rw[hT];simp only[List.take_zero,List.append_nil,nW,hfl,has,List.map_cons,List.map_nil,fJ,kF,aj.aB (cK x.bQ),aj.aB (cK x.bE)]
 have iG:∀i,(T i).length<=i+7:=fun i=>by
  rw[hT];simp only[List.length_map,List.length_append];have:=List.length_take_le i (x.aI.map pz);simp[nW];omega
 have hTs:∀i (hi:i<x.aI.length),T i++[[.s [],.sl [[.s x.aI[i].fName,.sl []],[.s [],.sl ((aN x.aI[i].aG).map aj.enc)],[.s (fq x.aI[i].fBody).aO,.sl ((fq x.aI[i].fBody).ah.map aj.enc)]]]]=T (i+1):=fun i hi=>by
  have:=jO (base:=nW x) (l:=x.aI.map pz) (i:=i) (by rw[List.length_map];exact hi);rw[List.getElem_map,pz,dW,dH] at this;simp only[List.map_cons,List.map_nil,fJ,kF,aj.aB (fq x.aI[i].fBody)] at this;rw[hT];exact this
 have hTr:∀i,∀r∈T i,r.length=2:=fun i=>by rw[hT];exact gV
 have hTe:T x.aI.length=(xR x).ah.map aj.enc:=by
  rw[hT];simp only
  rw[List.take_of_length_le (by simp)];rfl
 clear hT;refine aD (rs:=[.cell 2 54]) zmx func210 ntmps210 rfl rfl rfl rfl rfl ?_;refine W1 ?_;refine aZ (p9 x (by omega)) ?_;simp -implicitDefEqProofs (disch:=omega) only[go_sem,hv,ha,hs];refine W3 ?_;refine C1 (bW _) ?_;refine C1 (bW _) ?_;refine C1 (eF x.aG (by omega)) ?_;refine C1 (mP x.bQ (by omega)) ?_;refine C1 (xC x.bY (by omega) (fun b hb=>by have:=qX hb;omega)) ?_;refine C1 (eF [] (by simp)) ?_;have hE:=fun bU Ω=>lQ (T 0) (hTr 0) (by have:=iG 0;omega) bU Ω;simp only[hT0] at hE;refine qz [false] rfl (hE _ _) ?_;refine W1 ?_
 refine aU (ι:=Nat) zmx rfl [1,2,5,6] (fun i=>[.c (.ptr (0,0) 0),.c (.ptr (0,1) 0),.c (.ptr (0,5) 0),.c (.d (.i .i64 i))])
  (fun i=>[.box [.d (.s x.bD),.d (.sl (x.aG.map encS)),.d (.i .i64 x.bQ.aJ),.d (.s x.bQ.fName),.d (.sl (x.bQ.fArgs.map ak.enc)),.d (.sl (x.bY.map bq.enc)),.d (.b false),.d (.b false),.d (.i .i64 x.bE.aJ),.d (.s x.bE.fName),.d (.sl (x.bE.fArgs.map ak.enc)),.d (.sl (x.aI.map bA.enc))],.box [.d (.s []),.bG []],.box [.d (.s []),.bG []],.box [.d (.s []),.bN (0,4) (T 0)],.tok 2 (T i),.box [.d (.s []),.bN (0,4) (T i)]]::S)
  (fun i=>i<=x.aI.length) (fun i=>x.aI.length-i) 0 rfl (by simp only[hT0]<;>(try rfl)) (Nat.zero_le _) ?_
 intro i hi;have hl:=iG i;refine W1 ?_;refine S0 (fun hb h=>?_) fun hb h=>?_
 ·have hi':i<x.aI.length:=by omega
  have hm:=List.getElem_mem hi';have hcz:=AV hm;have hce:=bA.sum x.aI[i];rw[dK] at hce;have hst:=hTs i hi';refine W3 ?_;refine C1 (bW _) ?_;refine C1 (eF x.aI[i].aG (by omega)) ?_;refine C1 (uS x.aI[i].fBody (Fb _ hm) (by omega)) ?_;refine C1 (om _ (by simp) (by simp)) ?_;refine W3 ?_;rw[hst];exact bZ 6 (by decide) (i+1) (by omega) rfl rfl rfl rfl (by omega)
 ·have hi':i=x.aI.length:=by omega
  subst hi';rw[hTe];refine C1 (tJ true (xR x) (by omega)) ?_;rfl
theorem ajf(x:aM)(hsz:x.sz<=1048576):aH prog 210 [x.v] (XK x).v:=by
 unfold XK
 cases hv:fD x with
 |false=>
  rw[wS];refine aH.less (fun S=> ?_) (Gt [] []);refine aD (rs:=[.cell 2 54]) zmx func210 ntmps210 rfl rfl rfl rfl rfl ?_;refine W1 ?_;refine aZ (p9 x (by omega)) ?_;simp -implicitDefEqProofs (disch:=omega) only[go_sem,hv]
 |true=>
  rw[wS]
  cases ha:x.gJ with
  |true=>
   cases hs:x.dX with
   |true=>exact ajb x hv hsz ha hs
   |false=>exact ajc x hv hsz ha hs
  |false=>
   cases hs:x.dX with
   |true=>exact ajd x hv hsz ha hs
   |false=>exact aje x hv hsz ha hs
def tL(b:Bool)(y:aj):bA:=if b=true/\y.ah.length≠3 then⟨[],[],l9⟩ else⟨dJ y.ah 0,oU y.ah 1,eP b (gX y.ah 2)⟩
def AY(b:Bool)(x:aj):aM:=
 ⟨dJ x.ah 1,oU x.ah 2,dO b (gX x.ah 3),(gX x.ah 4).ah.map (oI b),decide (0<(gX x.ah 5).ah.length),decide (0<(gX x.ah 6).ah.length),
   if 0<(gX x.ah 6).ah.length then dO b (gX (gX x.ah 6).ah 0) else jf,(x.ah.drop 7).map (tL b)⟩
theorem afZ{vars:List (List UInt8)}{e:au}(h:nQ vars e=true):∀v∈vars,v≠[]:=by
 unfold nQ at h;rw[Bool.and_eq_true] at h;exact AL h.1
theorem ajg(b:Bool){m:bA}(h:nQ m.aG m.fBody=true):tL b (pz m)=m:=by
 unfold tL;rw[if_neg (by simp[pz,dH])];show bA.mk m.fName (eU (aN m.aG)) (eP b (fq m.fBody))=m;rw[qM (afZ h),Gy b _ (E9 h)]
theorem inst_more{x:aM}(h:fD x=true):(∀v∈x.aG,v≠[])/\(x.dX=false->x.bE=jf)/\(∀m∈x.aI,nQ m.aG m.fBody=true):=by
 unfold fD vN at h;simp only[Bool.and_eq_true] at h;obtain⟨⟨_,_,h0,h1,_,_,_,h2,h3,_⟩,h4,_⟩:=h;refine⟨AL h0,fun ha=> ?_,fun m hm=> ?_⟩
 ·rw[if_neg (by rw[ha];decide)] at h3;exact sN (gG h3)
 ·have h5:=List.all_eq_true.1 h4 m hm;unfold nu at h5;simp only[Bool.and_eq_true] at h5;exact h5.2.2
theorem Rp(b:Bool){x:aM}(h:fD x=true):AY b (xR x)=x:=by
 obtain⟨h1,h2,h3,h4⟩:=oL h;obtain⟨g1,g2,g3⟩:=inst_more h;show aM.mk x.bD (eU (aN x.aG)) (dO b (cK x.bQ)) ((x.bY.map qY).map (oI b)) (decide (0<(aN (kK x)).length)) (decide (0<(kL x).length)) (if 0<(kL x).length then dO b (gX (kL x) 0) else jf) ((x.aI.map pz).map (tL b))=x;rw[qM g1,xK b _ h1,Ez fun c hc=>aan b (h2 c hc),Ez fun c hc=>ajg b (g3 c hc),jN]
 have e1:decide (0<(kK x).length)=x.gJ:=by unfold kK;cases x.gJ<;>rfl
 rw[e1];unfold kL
 cases ha:x.dX with
 |true=>
  rw[if_pos rfl];show aM.mk _ _ _ _ _ true (dO b (cK x.bE)) _=x;rw[xK b _ (h3 ha),<-ha]
 |false=>
  rw[if_neg (by decide)];show aM.mk _ _ _ _ _ false jf _=x;rw[<-g2 ha,<-ha]
noncomputable def zx(x:aj):Bool:=dec (fM x=true/\(7<=x.ah.length/\dJ x.ah 0=kY)/\fD (AY true x)=true/\xR (AY true x)=x)
theorem ajh{x:aj}(hx:x.ah≠[]):zx x=(fM x&&dec (XK (AY false x)=x)):=
 XH hx (fun a h1 h2=>by rw[<-h2];exact⟨Rp true h1,Rp false h1⟩) fun a h=>by rw[<-h];exact⟨by rw[xR,dH];simp[nW],rfl⟩
theorem aji{x:aj}(h:zx x=true):AY false x=AY true x:=by
 have h1:=gG h
 conv=>lhs;rw[<-h1.2.2.2]
 exact Rp false h1.2.2.1
def Lx:aM:=⟨[],[],jf,[],false,false,jf,[]⟩
noncomputable def rE(x:aj):aM:=if zx x=true then AY true x else Lx
theorem ajj(b:Bool)(y:aj):(tL b y).sz<=y.sz:=by
 have h1:=Ey y.ah;have h2:=qO y;have h3:=qO (gX y.ah 0);have h4:=rU (gX y.ah 1).ah;have h4':=qO (gX y.ah 1);have h5:=Dw b (gX y.ah 2);unfold tL;split
 ·simp only[bA.sz,bA.aB,bT,bL,D.sz,au.d9,zo,List.map_nil,bn,List.length_nil];omega
 ·simp only[bA.sz,bA.aB,bT,bL,D.sz,au.d9,List.length_map,oU,dK,Fe];omega
theorem Tt(b:Bool):∀l:List aj,bn ((l.map (tL b)).map bA.enc)<=dA l
 |[]=>by simp[bn]
 |y::l=>by
  have h1:=ajj b y;have h2:=Tt b l;rw[List.map_cons,List.map_cons,bn,dA];simp only[bA.sz] at h1;omega
theorem Rq(b:Bool)(x:aj):(AY b x).sz<=x.sz:=by
 have h1:=Cj x.ah;have h2:=qO x;have h3:=qO (gX x.ah 1);have h4:=rU (gX x.ah 2).ah;have h4':=qO (gX x.ah 2);have h5:=zn b (gX x.ah 3);have h6:=Nq b (gX x.ah 4).ah;have h6':=qO (gX x.ah 4)
 have h7:(if 0<(gX x.ah 6).ah.length then dO b (gX (gX x.ah 6).ah 0) else jf).sz<=(gX x.ah 6).sz:=by
  have a1:=qO (gX x.ah 6);have a2:=Ey (gX x.ah 6).ah;have a3:=zn b (gX (gX x.ah 6).ah 0);split
  ·omega
  ·rw[Cc];omega
 have h8:=Tt b (x.ah.drop 7);generalize hz:(if 0<(gX x.ah 6).ah.length then dO b (gX (gX x.ah 6).ah 0) else jf)=z at h7;simp only[aM.sz,aM.aB,bT,bL,D.sz,ak.d9,AY,hz,List.length_map,List.length_drop,oU,dK,Fe];omega
noncomputable def mD(t:bf):List (List UInt8):=t.aC.map aL.fName
noncomputable def xM(t:bf):Prop:=t.nC=true/\(t.bE=true\/0<t.aC.length\/0<t.bH.length)
noncomputable def dR(t:bf):Bool:=
 validName t.fName&&(dec (t.bH.length<=4)&&(iP t.bH&&(dec (t.aC.length<=6)&&(!dec (xM t)&&(t.aC.all iL&&dec (mD t).Nodup)))))
theorem bf.sum(x:bf):x.fName.length+(x.bH.length+bn (x.bH.map encS))+(x.aC.length+bn (x.aC.map aL.enc))<=x.sz:=by
 simp only[bf.sz,bf.aB,bT,bL,D.sz,List.length_map];omega
theorem zy{xs:List aL}{t:aL}(h:t∈xs):t.sz<=bn (xs.map aL.enc):=dD (List.mem_map_of_mem h)
theorem adh{g:aL}(h:iL g=true):validName g.fName=true:=by
 unfold iL at h;rw[Bool.and_eq_true] at h;exact h.1
theorem Zo{t:bf}(h:t.aC.all iL=true):(mD t).all validName=true:=by
 unfold mD;rw[List.all_map];refine List.all_eq_true.2 fun g hg=>adh (List.all_eq_true.1 h g hg)
theorem CU(t:bf)(hsz:t.sz<=4194304):aH prog 161 [t.v] (.c (.d (.b (dR t)))):=fun S=>by
 have hs:=bf.sum t
 have hV:∀s∈t.bH,s.length<=4194304:=fun s h=>by have:=tq h;omega
 have hG:∀g∈t.aC,g.sz<=4194304:=fun g h=>by have:=zy h;omega
 refine(show Hold ((validName t.fName=true/\t.bH.length<=4/\iP t.bH=true/\t.aC.length<=6/\¬xM t)-> ?T)->_ from fun tail=> ?main) ?tp
 case' main=>
  refine aD (rs:=[.tmp 2]) zmx func161 ntmps161 rfl rfl rfl rfl rfl ?_;refine W1 ?_;refine C2 (iI t.fName (by omega)) ?_;refine S0 (fun hb h=>?_) fun hb h=>?_
  ·exact ay (by unfold dR;rw[h];rfl)
  have h1:=h;refine S0 (fun hb h=>?_) fun hb h=>?_
  ·exact ay (by unfold dR;rw[aA (show ¬t.bH.length<=4 by omega)];simp)
  have h2:=h;refine W3 ?_;refine C2 (qm t.bH (by omega) hV) ?_;refine S0 (fun hb h=>?_) fun hb h=>?_
  ·exact ay (by unfold dR;rw[h];simp)
  have h3:=h;refine S0 (fun hb h=>?_) fun hb h=>?_
  ·exact ay (by unfold dR;rw[aA (show ¬t.aC.length<=6 by omega)];simp)
  have h4:=h;have bad:xM t->V.c (.d (.b false))=V.c (.d (.b (dR t))):=fun h=>ay (by unfold dR;rw[aY h];simp);have pre:¬xM t->(validName t.fName=true/\t.bH.length<=4/\iP t.bH=true/\t.aC.length<=6/\¬xM t):=fun h=>⟨h1,by omega,h3,by omega,h⟩
  repeat' (first|refine S0 (fun hb h=>?_) fun hb h=>?_)
  all_goals first
   |(refine bad ⟨by assumption,?_⟩;first|exact .inl (by assumption)|exact .inr (.inl (by omega))|exact .inr (.inr (by omega)))
   |skip
  all_goals
   have na:¬xM t:=fun x=>by
    obtain⟨x1,x2⟩:=x
    rcases x2 with x2|x2|x2<;>first|omega|simp_all
   refine W3 ?_;refine nK 3 1 [] rfl (by simp) ?_;refine oC (st':=[.box (t.enc.map .d),.tok 1 []]::S) [3,48,49,50] [.c (.bN (0,1) []),.c (.d (.sl (t.aC.map aL.enc))),.c (.d (.i .i64 t.aC.length)),.c (.d (.i .i64 0))] ?_ ?_ ?_
   ·rfl
   ·first|(refine W1 ?_;done)|(refine W1 ?_;simp[*])
   ·exact tail.out (pre na)
 refine⟨fun hp=> ?_⟩;obtain⟨h1,h2,h3,h4,h5⟩:=hp
 have bad:∀i,∀hi:i<t.aC.length,iL t.aC[i]=false->dR t=false:=fun i hi h=>by
  have:t.aC.all iL=false:=Bool.eq_false_iff.2 fun hx=>by
   rw[List.all_eq_true.1 hx _ (List.getElem_mem hi)] at h;cases h
  unfold dR
  rw[this];simp
 refine aU (ι:=Nat×List (List UInt8)) zmx rfl [3,48,49,50] (fun y=>[.c (.bN (0,1) (y.2.map encS)),.c (.d (.sl (t.aC.map aL.enc))),.c (.d (.i .i64 t.aC.length)),.c (.d (.i .i64 y.1))]) (fun y=>[.box (t.enc.map .d),.tok 1 (y.2.map encS)]::S)
  (fun y=>y.1<=t.aC.length/\y.2=(mD t).take y.1/\∀j,∀hj:j<t.aC.length,j<y.1->iL t.aC[j]=true) (fun y=>t.aC.length-y.1) (0,[]) rfl ?_ ⟨Nat.zero_le _,rfl,fun j _ h=>by simp only at h;omega⟩ ?_
 ·exact Z1
 rintro⟨i,names⟩ ⟨p1,p2,p3⟩;simp only at p1 p2 p3
 have pl:names.length<=t.aC.length:=by rw[p2];simp[mD];omega
 refine W1 ?_;refine S0 (fun hb h=>?_) fun hb h=>?_
 ·have hi:i<t.aC.length:=by omega
  refine W3 ?_;refine C2 (Rj t.aC[i] (hG _ (List.getElem_mem hi))) ?_;refine S0 (fun hb h=>?_) fun hb h=>?_
  ·rw[bad i hi h]
  have k2:=h;refine W3 ?_;rw[show List.map encS names++[[D.s t.aC[i].fName]]=List.map encS (names++[t.aC[i].fName]) by simp[encS]]
  exact bZ 2 (by decide) (i+1,names++[t.aC[i].fName]) (by simp only;omega) rfl rfl rfl rfl ⟨by simp only;omega,by simp only;rw[p2,iV (by simpa [mD] using hi)];simp[mD],fun j hj hji=>by
   simp only at hji;by_cases e:j=i
   ·subst e;exact k2
   ·exact p3 j hj (by omega)⟩
 have hi:i=t.aC.length:=by omega
 have hn:names=mD t:=by rw[p2,List.take_of_length_le (by simp[mD];omega)]
 have hall:t.aC.all iL=true:=List.all_eq_true.2 fun c hc=>by
  obtain⟨j,hj,e⟩:=List.getElem_of_mem hc;rw[<-e];exact p3 j hj (by omega)
 refine C2 (qR names (by omega)) ?_;exact ay (by unfold dR;rw[h1,h3,hall,<-hn,aY h2,aY h4,aA h5];simp)
theorem rG(t:bf)(hsz:t.sz<=4194304):aH prog 213 [t.v] (.c (.d (.b (dR t)))):=fun S=>by
 have hs:=bf.sum t
 have hV:∀s∈t.bH,s.length<=4194304:=fun s h=>by have:=tq h;omega
 have hG:∀g∈t.aC,g.sz<=4194304:=fun g h=>by have:=zy h;omega
 have bad:∀i,∀hi:i<t.aC.length,iL t.aC[i]=false->dR t=false:=fun i hi h=>by
  have:t.aC.all iL=false:=Bool.eq_false_iff.2 fun hx=>by
   rw[List.all_eq_true.1 hx _ (List.getElem_mem hi)] at h;cases h
  unfold dR
  rw[this];simp
 have arb:xM t->V.c (.d (.b false))=V.c (.d (.b (dR t))):=fun h=>ay (by unfold dR;rw[aY h];simp);refine aD (rs:=[.tmp 2]) zmx func213 ntmps213 rfl rfl rfl rfl rfl ?_;refine W1 ?_;refine W3 ?_;refine nK 3 1 [] rfl (by simp) ?_
 refine aU (ι:=Nat×List (List UInt8)) zmx rfl [1,3,4] (fun y=>[.c (.ptr (0,0) 0),.c (.bN (0,1) (y.2.map encS)),.c (.d (.i .i64 y.1))]) (fun y=>[.box (t.enc.map .d),.tok 1 (y.2.map encS)]::S)
  (fun y=>y.1<=t.aC.length/\y.2=(mD t).take y.1/\∀j,∀hj:j<t.aC.length,j<y.1->iL t.aC[j]=true) (fun y=>t.aC.length-y.1) (0,[]) rfl ?_ ⟨Nat.zero_le _,rfl,fun j _ h=>by simp only at h;omega⟩ ?_
 ·exact Z1
 rintro⟨i,names⟩ ⟨p1,p2,p3⟩;simp only at p1 p2 p3
 have pl:names.length<=t.aC.length:=by rw[p2];simp[mD];omega
 refine W1 ?_;refine S0 (fun hb h=>?_) fun hb h=>?_
 ·have hi:i<t.aC.length:=by omega
  refine W3 ?_;refine C2 (afR t.aC[i] (hG _ (List.getElem_mem hi))) ?_;refine S0 (fun hb h=>?_) fun hb h=>?_
  ·rw[bad i hi h]
  have k2:=h;refine W3 ?_;rw[show List.map encS names++[[D.s t.aC[i].fName]]=List.map encS (names++[t.aC[i].fName]) by simp[encS]]
  exact bJ (i+1,names++[t.aC[i].fName]) (by simp only;omega) rfl rfl ⟨by simp only;omega,by simp only;rw[p2,iV (by simpa [mD] using hi)];simp[mD],fun j hj hji=>by
   simp only at hji;by_cases e:j=i
   ·subst e;exact k2
   ·exact p3 j hj (by omega)⟩
 have hi:i=t.aC.length:=by omega
 have hn:names=mD t:=by rw[p2,List.take_of_length_le (by simp[mD];omega)]
 have hall:t.aC.all iL=true:=List.all_eq_true.2 fun c hc=>by
  obtain⟨j,hj,e⟩:=List.getElem_of_mem hc;rw[<-e];exact p3 j hj (by omega)
 have NY:=Zo hall
 have hnl:∀s∈names,s.length<=4194304:=fun s hm=>by
  rw[hn] at hm;obtain⟨g,hg,e⟩:=List.mem_map.1 hm;have:=hG g hg;have:=aL.sum g;rw[<-e];omega
 have hlen:names.length=t.aC.length:=by rw[hn];simp[mD]
 clear bad p2 p3
 repeat' (first|refine S0 (fun hb h=>?_) fun hb h=>?_)
 all_goals first
  |(refine arb ⟨by assumption,?_⟩;first|exact .inl (by assumption)|exact .inr (.inl (by omega))|exact .inr (.inr (by omega)))
  |skip
 all_goals
  have na:¬xM t:=fun x=>by
   obtain⟨x1,x2⟩:=x
   rcases x2 with x2|x2|x2<;>first|omega|simp_all
  refine W3 ?_;refine C1 (iJ t.fName (by omega)) ?_;refine S0 (fun hb h=>?_) fun hb h=>?_
  ·have h1:=h;refine W3 ?_;refine C2 (ng t.bH 4 (by omega) hV) ?_;refine S0 (fun hb h=>?_) fun hb h=>?_
   ·have h2:=h;rw[Bool.and_eq_true] at h2;have h3:=gG h2.1;refine C2 (ng names 6 (by omega) hnl) ?_;refine ay ?_;unfold dR;rw[h1,h2.2,hall,aA na,aY (show t.bH.length<=4 by omega),hlen];unfold iP;rw[hn,NY,Bool.and_true];simp only[Bool.true_and,Bool.not_false];congr 1;exact iB ⟨fun h=>by omega,fun h=>by omega⟩
   ·refine ay ?_;unfold dR
    have h2:(dec (t.bH.length<=4)&&iP t.bH)=false:=by
     rw[<-h];congr 1;exact iB ⟨fun h=>by omega,fun h=>by omega⟩
    rw[<-Bool.and_assoc (dec (t.bH.length<=4)),h2];simp
  ·exact ay (by unfold dR;rw[h];rfl)
def uy:List UInt8:=[97,117,116,111]
def j5:List UInt8:=[116,114,97,105,116]
def lS(t:bf):List (List UInt8):=(if t.nC=true then [uy] else [])++(if t.bE=true then [iU] else [])
def oM(g:aL):aj:=bC ([bI g.fName,bC (g.aV.map cK),cK g.bO]++if g.gW=true then [bC (aN g.aG),fq g.fBody] else [])
theorem LA(n:Nat)(es:List (List D)):Less (.c (.d (.ol n es))) (.c (.d (.sl es))):=fun w σ S β v h=>⟨uD h.1,h.2⟩
def jq(t:bf):List aj:=[bI j5,bI t.fName,bC (aN t.bH),bC (aN (lS t))]
def rQ(t:bf):aj:=bC (jq t++t.aC.map oM)
noncomputable def Qg(x:bf):aj:=wS (dR x) (rQ x)
theorem ajk{x:bf}(h:x.sz<=1048576):(Qg x).sz<=1048576:=Nat.le_trans (Lc _ _) (by decide)
theorem AZ{g:aL}(h:g.gW=true):(oM g).ah=[bI g.fName,bC (g.aV.map cK),cK g.bO,bC (aN g.aG),fq g.fBody]:=by rw[oM,if_pos h];rfl
theorem A8{g:aL}(h:g.gW=false):(oM g).ah=[bI g.fName,bC (g.aV.map cK),cK g.bO]:=by rw[oM,if_neg (by rw[h];decide)];rfl
theorem A9(g:aL):(oM g).aO=[]:=rfl
theorem rX{g:aL}(h:iL g=true):jk g.aV=true/\formed g.bO=true/\(g.gW=true->iW g.fBody=true):=by
 unfold iL at h;simp only[Bool.and_eq_true] at h;obtain⟨_,_,h1,h2,h3⟩:=h;refine⟨yR h1,wG h2,fun hd=> ?_⟩;rw[if_pos hd,Bool.and_eq_true] at h3;exact E9 h3.2
theorem anH(g:aL)(hok:iL g=true):(oM g).sz<=48+32*g.sz:=by
 obtain⟨_,_,hb⟩:=rX hok;have h1:=Oz g.aV;have h2:=BO g.bO;have h3:=aL.sum g;rw[dK,Az] at h3;by_cases hd:g.gW=true
 ·have h4:=Kw g.fBody (hb hd);rw[oM,if_pos hd,jF];simp[dA,jR,jF,jN,sW];omega
 ·rw[oM,if_neg hd,jF];simp[dA,jR,jF,jN,sW];omega
theorem aao:∀l:List aL,(∀g∈l,iL g=true)->dA (l.map oM)<=48*l.length+32*bn (l.map aL.enc)
 |[],_=>by simp[dA]
 |c::l,h=>by
  have h1:=anH c (h c (List.mem_cons_self ..));have h2:=aao l fun g hg=>h g (List.mem_cons_of_mem _ hg);rw[List.map_cons,dA,List.map_cons,bn,List.length_cons];simp only[aL.sz] at h1;omega
theorem jE{t:bf}(h:dR t=true):(∀g∈t.aC,iL g=true)/\¬(t.nC=true/\t.bE=true):=by
 unfold dR at h;simp only[Bool.and_eq_true,Bool.not_eq_true'] at h;obtain⟨_,_,_,_,h1,h2,_⟩:=h;refine⟨fun g hg=>List.all_eq_true.1 h2 g hg,fun hh=> ?_⟩;rw[aY (show xM t from⟨hh.1,.inl hh.2⟩)] at h1;cases h1
theorem af0(t:bf):(lS t).length<=2/\((lS t).map List.length).sum<=9:=by
 unfold lS;split<;>split<;>simp[uy,iU]
theorem LB{t:bf}(hok:dR t=true):(rQ t).sz<=64+49*t.sz:=by
 have h1:=aao t.aC (jE hok).1;have h2:=af0 t;have h3:=bf.sum t;rw[dK] at h3;rw[rQ,jF,jP,List.length_append,List.length_map];simp[jq,dA,jR,jF,jN,sW,j5];omega
theorem FP(n:Nat)(a b:List UInt8)(w v:List (List UInt8)):lx [bI a,bI b,bC (aN w),bC (aN v)] (n+1)=[[.s a,.ol (n+1) []],[.s b,.ol (n+1+1) []],[.s [],.ol (n+1+1+1) (lx (aN w) (n+1+1+1+1))],[.s [],.ol (n+1+1+1+dS (bC (aN w))) (lx (aN v) (n+1+1+1+dS (bC (aN w))+1))]]:=by
 simp only[jT,nO,j6,kU,kV,dW,dH,j4]
theorem Zp(t:bf)(n:Nat)(hv:dR t=true)(hsz:t.sz<=1048576)(ha:t.nC=true)(hs:t.bE=false):aH prog 218 [t.v] (.agg [.d (.s []),.d (.ol n (lx (rQ t).ah (n+1)))]):=fun S=>by
 have hdz:=bf.sum t;rw[dK] at hdz;obtain⟨hso,_⟩:=jE hv
 have hfl:lS t=[uy]:=by unfold lS;rw[ha,hs];rfl
 obtain⟨L,hL⟩:∃L:Nat->Nat,L=fun i=>n+1+jB (jq t++(t.aC.map oM).take i):=⟨_,rfl⟩;obtain⟨T,hT⟩:∃T:Nat->List (List D),T=fun i=>lx (jq t++(t.aC.map oM).take i) (n+1):=⟨_,rfl⟩
 have hT0:T 0=[[.s j5,.ol (n+1) []],[.s t.fName,.ol (n+1+1) []],[.s [],.ol (n+1+1+1) (lx (aN t.bH) (n+1+1+1+1))],[.s [],.ol (n+1+1+1+dS (bC (aN t.bH))) (lx (aN [uy]) (n+1+1+1+dS (bC (aN t.bH))+1))]]:=by
  rw[hT];simp only[List.take_zero,List.append_nil,jq,hfl];exact FP _ _ _ _ _
 have iG:∀i,(T i).length<=i+4:=fun i=>by
  rw[hT];simp only[iC,List.length_append];have:=List.length_take_le i (t.aC.map oM);simp[jq];omega
 have hTs:∀i (hi:i<t.aC.length),T i++[[.s [],.ol (L i) (lx (oM t.aC[i]).ah (L i+1))]]=T (i+1):=fun i hi=>by
  have:=AJ (base:=jq t) (l:=t.aC.map oM) (i:=i) (by rw[List.length_map];exact hi) (n+1);rw[List.getElem_map,A9] at this;rw[hT,hL];exact this
 have hTr:∀i,∀r∈T i,r.length=2:=fun i=>by rw[hT];exact lZ
 have hTe:T t.aC.length=lx (rQ t).ah (n+1):=by
  rw[hT];simp only
  rw[List.take_of_length_le (by simp)];rfl
 clear hT hL;refine vw (n) 1 (rs:=[.cell 2 54]) zmx func218 ntmps218 rfl rfl rfl rfl rfl ?_;simp -implicitDefEqProofs (disch:=omega) only[go_sem,ha,hs];refine W3 ?_;refine C1 (dG _ (n+1)) ?_;refine C1 (dG _ (n+1+1)) ?_;refine C1 (eO t.bH (by omega) (n+1+1+1)) ?_;refine oD (eO [uy] (by simp) (n+1+1+1+dS (bC (aN t.bH)))) (.cons (LA n _) .nil) ?_;refine W1 ?_;refine W3 ?_;refine mU n 4 2 (T 0) (.inl ?_) (hTr 0) ?_
 ·rw[hT0];rfl
 refine rT (L 0) ?_
 refine aU (ι:=Nat) zmx rfl [2,4,30,31,32] (fun i=>[.c (.ptr (0,3) 0),.c (.bN (0,4) (T i)),.c (.d (.sl (t.aC.map aL.enc))),.c (.d (.i .i64 t.aC.length)),.c (.d (.i .i64 i))])
  (fun i=>[.seed (L i),.seed 1,.box [.d (.s t.fName),.d (.sl (t.bH.map encS)),.d (.b true),.d (.b false),.d (.sl (t.aC.map aL.enc))],.box [.d (.s []),.bG []],.fu n 2 (T i)]::S)
  (fun i=>i<=t.aC.length) (fun i=>t.aC.length-i) 0 rfl rfl (Nat.zero_le _) ?_
 intro i hi;have hl:=iG i;refine W1 ?_;refine S0 (fun hb h=>?_) fun hb h=>?_
 ·have hi':i<t.aC.length:=by omega
  have hm:=List.getElem_mem hi';have hcz:=zy hm;have hce:=aL.sum t.aC[i];rw[dK] at hce;obtain⟨q1,q2,q3⟩:=rX (hso _ hm);have hst:=hTs i hi';refine W3 ?_;refine C1 (dG _ (L i+1)) ?_;refine C1 (Bt t.aC[i].aV (L i+1+1) (L i+1+1+1) q1 (by omega) (fun u hu=>by have:=zw hu;omega)) ?_;refine C1 (l6 _) ?_;refine C1 (l7 t.aC[i].bO (L i+1+1+dS (bC (t.aC[i].aV.map cK))) q2 (by omega)) ?_;refine S0 (fun hb h=>?_) fun hb h=>?_
  ·rw[AZ h] at hst;simp only[jT,nO,j6,kU,kV,dW,dH,j4] at hst;refine C1 (eO t.aC[i].aG (by omega) (L i+1+1+dS (bC (t.aC[i].aV.map cK))+dS (cK t.aC[i].bO))) ?_;refine C1 (Aa t.aC[i].fBody (L i+1+1+dS (bC (t.aC[i].aV.map cK))+dS (cK t.aC[i].bO)+dS (bC (aN t.aC[i].aG))) (q3 h) (by omega)) ?_;refine W3 ?_;refine C1 (l6 _) ?_;refine W3 ?_;rw[hst];refine tX (L (i+1)) 4 (by decide) (i+1) (by omega) rfl rfl ?_ rfl (by omega);simp[kT,jd,V.refs,C.refs,nZ]
  ·rw[A8 h] at hst;simp only[jT,nO,j6,kU,kV,dW,dH,j4] at hst;refine C1 (oF _ _) ?_;refine W3 ?_;rw[hst];refine tX (L (i+1)) 4 (by decide) (i+1) (by omega) rfl rfl ?_ rfl (by omega);simp[kT,jd,V.refs,C.refs,nZ]
 ·have hi':i=t.aC.length:=by omega
  refine bg rfl (kE 0 4 _ _) ?_;refine W1 ?_;rw[hi',hTe]
theorem Zq(t:bf)(n:Nat)(hv:dR t=true)(hsz:t.sz<=1048576)(ha:t.nC=false)(hs:t.bE=true):aH prog 218 [t.v] (.agg [.d (.s []),.d (.ol n (lx (rQ t).ah (n+1)))]):=fun S=>by
 have hdz:=bf.sum t;rw[dK] at hdz;obtain⟨hso,_⟩:=jE hv
 have hfl:lS t=[iU]:=by unfold lS;rw[ha,hs];rfl
 obtain⟨L,hL⟩:∃L:Nat->Nat,L=fun i=>n+1+jB (jq t++(t.aC.map oM).take i):=⟨_,rfl⟩;obtain⟨T,hT⟩:∃T:Nat->List (List D),T=fun i=>lx (jq t++(t.aC.map oM).take i) (n+1):=⟨_,rfl⟩
 have hT0:T 0=[[.s j5,.ol (n+1) []],[.s t.fName,.ol (n+1+1) []],[.s [],.ol (n+1+1+1) (lx (aN t.bH) (n+1+1+1+1))],[.s [],.ol (n+1+1+1+dS (bC (aN t.bH))) (lx (aN [iU]) (n+1+1+1+dS (bC (aN t.bH))+1))]]:=by
  rw[hT];simp only[List.take_zero,List.append_nil,jq,hfl];exact FP _ _ _ _ _
 have iG:∀i,(T i).length<=i+4:=fun i=>by
  rw[hT];simp only[iC,List.length_append];have:=List.length_take_le i (t.aC.map oM);simp[jq];omega
 have hTs:∀i (hi:i<t.aC.length),T i++[[.s [],.ol (L i) (lx (oM t.aC[i]).ah (L i+1))]]=T (i+1):=fun i hi=>by
  have:=AJ (base:=jq t) (l:=t.aC.map oM) (i:=i) (by rw[List.length_map];exact hi) (n+1);rw[List.getElem_map,A9] at this;rw[hT,hL];exact this
 have hTr:∀i,∀r∈T i,r.length=2:=fun i=>by rw[hT];exact lZ
 have hTe:T t.aC.length=lx (rQ t).ah (n+1):=by
  rw[hT];simp only
  rw[List.take_of_length_le (by simp)];rfl
 clear hT hL;refine vw (n) 1 (rs:=[.cell 2 54]) zmx func218 ntmps218 rfl rfl rfl rfl rfl ?_;simp -implicitDefEqProofs (disch:=omega) only[go_sem,ha,hs];refine W3 ?_;refine C1 (dG _ (n+1)) ?_;refine C1 (dG _ (n+1+1)) ?_;refine C1 (eO t.bH (by omega) (n+1+1+1)) ?_;refine oD (eO [iU] (by simp) (n+1+1+1+dS (bC (aN t.bH)))) (.cons (LA n _) .nil) ?_;refine W1 ?_;refine W3 ?_;refine mU n 4 2 (T 0) (.inl ?_) (hTr 0) ?_
 ·rw[hT0];rfl
 refine rT (L 0) ?_
 refine aU (ι:=Nat) zmx rfl [2,4,30,31,32] (fun i=>[.c (.ptr (0,3) 0),.c (.bN (0,4) (T i)),.c (.d (.sl (t.aC.map aL.enc))),.c (.d (.i .i64 t.aC.length)),.c (.d (.i .i64 i))])
  (fun i=>[.seed (L i),.seed 1,.box [.d (.s t.fName),.d (.sl (t.bH.map encS)),.d (.b false),.d (.b true),.d (.sl (t.aC.map aL.enc))],.box [.d (.s []),.bG []],.fu n 2 (T i)]::S)
  (fun i=>i<=t.aC.length) (fun i=>t.aC.length-i) 0 rfl rfl (Nat.zero_le _) ?_
 intro i hi;have hl:=iG i;refine W1 ?_;refine S0 (fun hb h=>?_) fun hb h=>?_
 ·have hi':i<t.aC.length:=by omega
  have hm:=List.getElem_mem hi';have hcz:=zy hm;have hce:=aL.sum t.aC[i];rw[dK] at hce;obtain⟨q1,q2,q3⟩:=rX (hso _ hm);have hst:=hTs i hi';refine W3 ?_;refine C1 (dG _ (L i+1)) ?_;refine C1 (Bt t.aC[i].aV (L i+1+1) (L i+1+1+1) q1 (by omega) (fun u hu=>by have:=zw hu;omega)) ?_;refine C1 (l6 _) ?_;refine C1 (l7 t.aC[i].bO (L i+1+1+dS (bC (t.aC[i].aV.map cK))) q2 (by omega)) ?_;refine S0 (fun hb h=>?_) fun hb h=>?_
  ·rw[AZ h] at hst;simp only[jT,nO,j6,kU,kV,dW,dH,j4] at hst;refine C1 (eO t.aC[i].aG (by omega) (L i+1+1+dS (bC (t.aC[i].aV.map cK))+dS (cK t.aC[i].bO))) ?_;refine C1 (Aa t.aC[i].fBody (L i+1+1+dS (bC (t.aC[i].aV.map cK))+dS (cK t.aC[i].bO)+dS (bC (aN t.aC[i].aG))) (q3 h) (by omega)) ?_;refine W3 ?_;refine C1 (l6 _) ?_;refine W3 ?_;rw[hst];refine tX (L (i+1)) 4 (by decide) (i+1) (by omega) rfl rfl ?_ rfl (by omega);simp[kT,jd,V.refs,C.refs,nZ]
  ·rw[A8 h] at hst;simp only[jT,nO,j6,kU,kV,dW,dH,j4] at hst;refine C1 (oF _ _) ?_;refine W3 ?_;rw[hst];refine tX (L (i+1)) 4 (by decide) (i+1) (by omega) rfl rfl ?_ rfl (by omega);simp[kT,jd,V.refs,C.refs,nZ]
 ·have hi':i=t.aC.length:=by omega
  refine bg rfl (kE 0 4 _ _) ?_;refine W1 ?_;rw[hi',hTe]
theorem Zr(t:bf)(n:Nat)(hv:dR t=true)(hsz:t.sz<=1048576)(ha:t.nC=false)(hs:t.bE=false):aH prog 218 [t.v] (.agg [.d (.s []),.d (.ol n (lx (rQ t).ah (n+1)))]):=fun S=>by
 have hdz:=bf.sum t;rw[dK] at hdz;obtain⟨hso,_⟩:=jE hv
 have hfl:lS t=[]:=by unfold lS;rw[ha,hs];rfl
 obtain⟨L,hL⟩:∃L:Nat->Nat,L=fun i=>n+1+jB (jq t++(t.aC.map oM).take i):=⟨_,rfl⟩;obtain⟨T,hT⟩:∃T:Nat->List (List D),T=fun i=>lx (jq t++(t.aC.map oM).take i) (n+1):=⟨_,rfl⟩
 have hT0:T 0=[[.s j5,.ol (n+1) []],[.s t.fName,.ol (n+1+1) []],[.s [],.ol (n+1+1+1) (lx (aN t.bH) (n+1+1+1+1))],[.s [],.ol (n+1+1+1+dS (bC (aN t.bH))) (lx (aN []) (n+1+1+1+dS (bC (aN t.bH))+1))]]:=by
  rw[hT];simp only[List.take_zero,List.append_nil,jq,hfl];exact FP _ _ _ _ _
 have iG:∀i,(T i).length<=i+4:=fun i=>by
  rw[hT];simp only[iC,List.length_append];have:=List.length_take_le i (t.aC.map oM);simp[jq];omega
 have hTs:∀i (hi:i<t.aC.length),T i++[[.s [],.ol (L i) (lx (oM t.aC[i]).ah (L i+1))]]=T (i+1):=fun i hi=>by
  have:=AJ (base:=jq t) (l:=t.aC.map oM) (i:=i) (by rw[List.length_map];exact hi) (n+1);rw[List.getElem_map,A9] at this;rw[hT,hL];exact this
 have hTr:∀i,∀r∈T i,r.length=2:=fun i=>by rw[hT];exact lZ
 have hTe:T t.aC.length=lx (rQ t).ah (n+1):=by
  rw[hT];simp only
  rw[List.take_of_length_le (by simp)];rfl
 clear hT hL;refine vw (n) 1 (rs:=[.cell 2 54]) zmx func218 ntmps218 rfl rfl rfl rfl rfl ?_;simp -implicitDefEqProofs (disch:=omega) only[go_sem,ha,hs];refine W3 ?_;refine C1 (dG _ (n+1)) ?_;refine C1 (dG _ (n+1+1)) ?_;refine C1 (eO t.bH (by omega) (n+1+1+1)) ?_;refine oD (eO [] (by simp) (n+1+1+1+dS (bC (aN t.bH)))) (.cons (o9 n _) .nil) ?_;refine W1 ?_;refine W3 ?_;refine mU n 4 2 (T 0) (.inl ?_) (hTr 0) ?_
 ·rw[hT0];rfl
 refine rT (L 0) ?_
 refine aU (ι:=Nat) zmx rfl [2,4,30,31,32] (fun i=>[.c (.ptr (0,3) 0),.c (.bN (0,4) (T i)),.c (.d (.sl (t.aC.map aL.enc))),.c (.d (.i .i64 t.aC.length)),.c (.d (.i .i64 i))])
  (fun i=>[.seed (L i),.seed 1,.box [.d (.s t.fName),.d (.sl (t.bH.map encS)),.d (.b false),.d (.b false),.d (.sl (t.aC.map aL.enc))],.box [.d (.s []),.bG []],.fu n 2 (T i)]::S)
  (fun i=>i<=t.aC.length) (fun i=>t.aC.length-i) 0 rfl rfl (Nat.zero_le _) ?_
 intro i hi;have hl:=iG i;refine W1 ?_;refine S0 (fun hb h=>?_) fun hb h=>?_
 ·have hi':i<t.aC.length:=by omega
  have hm:=List.getElem_mem hi';have hcz:=zy hm;have hce:=aL.sum t.aC[i];rw[dK] at hce;obtain⟨q1,q2,q3⟩:=rX (hso _ hm);have hst:=hTs i hi';refine W3 ?_;refine C1 (dG _ (L i+1)) ?_;refine C1 (Bt t.aC[i].aV (L i+1+1) (L i+1+1+1) q1 (by omega) (fun u hu=>by have:=zw hu;omega)) ?_;refine C1 (l6 _) ?_;refine C1 (l7 t.aC[i].bO (L i+1+1+dS (bC (t.aC[i].aV.map cK))) q2 (by omega)) ?_;refine S0 (fun hb h=>?_) fun hb h=>?_
  ·rw[AZ h] at hst;simp only[jT,nO,j6,kU,kV,dW,dH,j4] at hst;refine C1 (eO t.aC[i].aG (by omega) (L i+1+1+dS (bC (t.aC[i].aV.map cK))+dS (cK t.aC[i].bO))) ?_;refine C1 (Aa t.aC[i].fBody (L i+1+1+dS (bC (t.aC[i].aV.map cK))+dS (cK t.aC[i].bO)+dS (bC (aN t.aC[i].aG))) (q3 h) (by omega)) ?_;refine W3 ?_;refine C1 (l6 _) ?_;refine W3 ?_;rw[hst];refine tX (L (i+1)) 4 (by decide) (i+1) (by omega) rfl rfl ?_ rfl (by omega);simp[kT,jd,V.refs,C.refs,nZ]
  ·rw[A8 h] at hst;simp only[jT,nO,j6,kU,kV,dW,dH,j4] at hst;refine C1 (oF _ _) ?_;refine W3 ?_;rw[hst];refine tX (L (i+1)) 4 (by decide) (i+1) (by omega) rfl rfl ?_ rfl (by omega);simp[kT,jd,V.refs,C.refs,nZ]
 ·have hi':i=t.aC.length:=by omega
  refine bg rfl (kE 0 4 _ _) ?_;refine W1 ?_;rw[hi',hTe]
theorem Ui(t:bf)(n:Nat)(hv:dR t=true)(hsz:t.sz<=1048576):aH prog 218 [t.v] (.agg [.d (.s []),.d (.ol n (lx (rQ t).ah (n+1)))]):=by
 have hb:=(jE hv).2
 cases ha:t.nC with
 |true=>
  cases hs:t.bE with
  |true=>exact absurd ⟨ha,hs⟩ hb
  |false=>exact Zp t n hv hsz ha hs
 |false=>
  cases hs:t.bE with
  |true=>exact Zq t n hv hsz ha hs
  |false=>exact Zr t n hv hsz ha hs
theorem ajl(t:bf)(hv:dR t=true)(hsz:t.sz<=1048576)(ha:t.nC=true)(hs:t.bE=false):aH prog 207 [t.v] (D9 (rQ t)).v:=fun S=>by
 have hdz:=bf.sum t;rw[dK] at hdz;obtain⟨hso,_⟩:=jE hv;have hz:=LB hv
 have hfl:lS t=[uy]:=by unfold lS;rw[ha,hs];rfl
 obtain⟨T,hT⟩:∃T:Nat->List (List D),T=fun i=>(jq t++(t.aC.map oM).take i).map aj.enc:=⟨_,rfl⟩
 have hT0:T 0=[[.s j5,.sl []],[.s t.fName,.sl []],[.s [],.sl ((aN t.bH).map aj.enc)],[.s [],.sl ((aN [uy]).map aj.enc)]]:=by
  rw[hT];simp only[List.take_zero,List.append_nil,jq,hfl,List.map_cons,List.map_nil,fJ,kF]
 have iG:∀i,(T i).length<=i+4:=fun i=>by
  rw[hT];simp only[List.length_map,List.length_append];have:=List.length_take_le i (t.aC.map oM);simp[jq];omega
 have hTs:∀i (hi:i<t.aC.length),T i++[[.s [],.sl ((oM t.aC[i]).ah.map aj.enc)]]=T (i+1):=fun i hi=>by
  have:=jO (base:=jq t) (l:=t.aC.map oM) (i:=i) (by rw[List.length_map];exact hi);rw[List.getElem_map,A9] at this;rw[hT];exact this
 have hTr:∀i,∀r∈T i,r.length=2:=fun i=>by rw[hT];exact gV
 have hTe:T t.aC.length=(rQ t).ah.map aj.enc:=by
  rw[hT];simp only
  rw[List.take_of_length_le (by simp)];rfl
 clear hT;refine aD (rs:=[.cell 2 54]) zmx func207 ntmps207 rfl rfl rfl rfl rfl ?_;refine W1 ?_;refine aZ (rG t (by omega)) ?_;simp -implicitDefEqProofs (disch:=omega) only[go_sem,hv,ha,hs];refine W3 ?_;refine C1 (bW _) ?_;refine C1 (bW _) ?_;refine C1 (eF t.bH (by omega)) ?_;refine C1 (eF [uy] (by simp)) ?_;have hE:=fun bU Ω=>lQ (T 0) (hTr 0) (by have:=iG 0;omega) bU Ω;simp only[hT0] at hE;refine qz [false] rfl (hE _ _) ?_;refine W1 ?_
 refine aU (ι:=Nat) zmx rfl [1,2,4,5] (fun i=>[.c (.ptr (0,0) 0),.c (.ptr (0,1) 0),.c (.ptr (0,5) 0),.c (.d (.i .i64 i))])
  (fun i=>[.box [.d (.s t.fName),.d (.sl (t.bH.map encS)),.d (.b true),.d (.b false),.d (.sl (t.aC.map aL.enc))],.box [.d (.s []),.bG []],.tok 1 [[.s uy]],.box [.d (.s []),.bN (0,4) (T 0)],.tok 2 (T i),.box [.d (.s []),.bN (0,4) (T i)]]::S)
  (fun i=>i<=t.aC.length) (fun i=>t.aC.length-i) 0 rfl (by simp only[hT0]<;>(try rfl)) (Nat.zero_le _) ?_
 intro i hi;have hl:=iG i;refine W1 ?_;refine S0 (fun hb h=>?_) fun hb h=>?_
 ·have hi':i<t.aC.length:=by omega
  have hm:=List.getElem_mem hi';have hcz:=zy hm;have hce:=aL.sum t.aC[i];rw[dK] at hce;obtain⟨q1,q2,q3⟩:=rX (hso _ hm);have hst:=hTs i hi';refine W3 ?_;refine C1 (bW _) ?_;refine C1 (Dk t.aC[i].aV (by omega) (fun u hu=>by have:=zw hu;omega)) ?_;refine C1 (mP t.aC[i].bO (by omega)) ?_;refine qz [false] rfl (lQ _ (by simp) (by simp) _ _) ?_;refine W1 ?_;refine S0 (fun hb h=>?_) fun hb h=>?_
  ·rw[AZ h] at hst;simp only[List.map_cons,List.map_nil,fJ,kF,aj.aB (cK t.aC[i].bO),aj.aB (fq t.aC[i].fBody)] at hst;refine C1 (eF t.aC[i].aG (by omega)) ?_;refine C1 (uS t.aC[i].fBody (q3 h) (by omega)) ?_;refine W3 ?_;rw[hst];exact bZ 6 (by decide) (i+1) (by omega) rfl rfl rfl rfl (by omega)
  ·rw[A8 h] at hst;simp only[List.map_cons,List.map_nil,fJ,kF,aj.aB (cK t.aC[i].bO)] at hst;refine W3 ?_;rw[hst];exact bZ 6 (by decide) (i+1) (by omega) rfl rfl rfl rfl (by omega)
 ·have hi':i=t.aC.length:=by omega
  subst hi';rw[hTe];refine C1 (tJ true (rQ t) (by omega)) ?_;rfl
theorem ajm(t:bf)(hv:dR t=true)(hsz:t.sz<=1048576)(ha:t.nC=false)(hs:t.bE=true):aH prog 207 [t.v] (D9 (rQ t)).v:=fun S=>by
 have hdz:=bf.sum t;rw[dK] at hdz;obtain⟨hso,_⟩:=jE hv;have hz:=LB hv
 have hfl:lS t=[iU]:=by unfold lS;rw[ha,hs];rfl
 obtain⟨T,hT⟩:∃T:Nat->List (List D),T=fun i=>(jq t++(t.aC.map oM).take i).map aj.enc:=⟨_,rfl⟩
 have hT0:T 0=[[.s j5,.sl []],[.s t.fName,.sl []],[.s [],.sl ((aN t.bH).map aj.enc)],[.s [],.sl ((aN [iU]).map aj.enc)]]:=by
  rw[hT];simp only[List.take_zero,List.append_nil,jq,hfl,List.map_cons,List.map_nil,fJ,kF]
 have iG:∀i,(T i).length<=i+4:=fun i=>by
  rw[hT];simp only[List.length_map,List.length_append];have:=List.length_take_le i (t.aC.map oM);simp[jq];omega
 have hTs:∀i (hi:i<t.aC.length),T i++[[.s [],.sl ((oM t.aC[i]).ah.map aj.enc)]]=T (i+1):=fun i hi=>by
  have:=jO (base:=jq t) (l:=t.aC.map oM) (i:=i) (by rw[List.length_map];exact hi);rw[List.getElem_map,A9] at this;rw[hT];exact this
 have hTr:∀i,∀r∈T i,r.length=2:=fun i=>by rw[hT];exact gV
 have hTe:T t.aC.length=(rQ t).ah.map aj.enc:=by
  rw[hT];simp only
  rw[List.take_of_length_le (by simp)];rfl
 clear hT;refine aD (rs:=[.cell 2 54]) zmx func207 ntmps207 rfl rfl rfl rfl rfl ?_;refine W1 ?_;refine aZ (rG t (by omega)) ?_;simp -implicitDefEqProofs (disch:=omega) only[go_sem,hv,ha,hs];refine W3 ?_;refine C1 (bW _) ?_;refine C1 (bW _) ?_;refine C1 (eF t.bH (by omega)) ?_;refine C1 (eF [iU] (by simp)) ?_;have hE:=fun bU Ω=>lQ (T 0) (hTr 0) (by have:=iG 0;omega) bU Ω;simp only[hT0] at hE;refine qz [false] rfl (hE _ _) ?_;refine W1 ?_
 refine aU (ι:=Nat) zmx rfl [1,2,4,5] (fun i=>[.c (.ptr (0,0) 0),.c (.ptr (0,1) 0),.c (.ptr (0,5) 0),.c (.d (.i .i64 i))])
  (fun i=>[.box [.d (.s t.fName),.d (.sl (t.bH.map encS)),.d (.b false),.d (.b true),.d (.sl (t.aC.map aL.enc))],.box [.d (.s []),.bG []],.tok 1 [[.s iU]],.box [.d (.s []),.bN (0,4) (T 0)],.tok 2 (T i),.box [.d (.s []),.bN (0,4) (T i)]]::S)
  (fun i=>i<=t.aC.length) (fun i=>t.aC.length-i) 0 rfl (by simp only[hT0]<;>(try rfl)) (Nat.zero_le _) ?_
 intro i hi;have hl:=iG i;refine W1 ?_;refine S0 (fun hb h=>?_) fun hb h=>?_
 ·have hi':i<t.aC.length:=by omega
  have hm:=List.getElem_mem hi';have hcz:=zy hm;have hce:=aL.sum t.aC[i];rw[dK] at hce;obtain⟨q1,q2,q3⟩:=rX (hso _ hm);have hst:=hTs i hi';refine W3 ?_;refine C1 (bW _) ?_;refine C1 (Dk t.aC[i].aV (by omega) (fun u hu=>by have:=zw hu;omega)) ?_;refine C1 (mP t.aC[i].bO (by omega)) ?_;refine qz [false] rfl (lQ _ (by simp) (by simp) _ _) ?_;refine W1 ?_;refine S0 (fun hb h=>?_) fun hb h=>?_
  ·rw[AZ h] at hst;simp only[List.map_cons,List.map_nil,fJ,kF,aj.aB (cK t.aC[i].bO),aj.aB (fq t.aC[i].fBody)] at hst;refine C1 (eF t.aC[i].aG (by omega)) ?_;refine C1 (uS t.aC[i].fBody (q3 h) (by omega)) ?_;refine W3 ?_;rw[hst];exact bZ 6 (by decide) (i+1) (by omega) rfl rfl rfl rfl (by omega)
  ·rw[A8 h] at hst;simp only[List.map_cons,List.map_nil,fJ,kF,aj.aB (cK t.aC[i].bO)] at hst;refine W3 ?_;rw[hst];exact bZ 6 (by decide) (i+1) (by omega) rfl rfl rfl rfl (by omega)
 ·have hi':i=t.aC.length:=by omega
  subst hi';rw[hTe];refine C1 (tJ true (rQ t) (by omega)) ?_;rfl
theorem ajn(t:bf)(hv:dR t=true)(hsz:t.sz<=1048576)(ha:t.nC=false)(hs:t.bE=false):aH prog 207 [t.v] (D9 (rQ t)).v:=fun S=>by
 have hdz:=bf.sum t;rw[dK] at hdz;obtain⟨hso,_⟩:=jE hv;have hz:=LB hv
 have hfl:lS t=[]:=by unfold lS;rw[ha,hs];rfl
 obtain⟨T,hT⟩:∃T:Nat->List (List D),T=fun i=>(jq t++(t.aC.map oM).take i).map aj.enc:=⟨_,rfl⟩
 have hT0:T 0=[[.s j5,.sl []],[.s t.fName,.sl []],[.s [],.sl ((aN t.bH).map aj.enc)],[.s [],.sl ((aN []).map aj.enc)]]:=by
  rw[hT];simp only[List.take_zero,List.append_nil,jq,hfl,List.map_cons,List.map_nil,fJ,kF]
 have iG:∀i,(T i).length<=i+4:=fun i=>by
  rw[hT];simp only[List.length_map,List.length_append];have:=List.length_take_le i (t.aC.map oM);simp[jq];omega
 have hTs:∀i (hi:i<t.aC.length),T i++[[.s [],.sl ((oM t.aC[i]).ah.map aj.enc)]]=T (i+1):=fun i hi=>by
  have:=jO (base:=jq t) (l:=t.aC.map oM) (i:=i) (by rw[List.length_map];exact hi);rw[List.getElem_map,A9] at this;rw[hT];exact this
 have hTr:∀i,∀r∈T i,r.length=2:=fun i=>by rw[hT];exact gV
 have hTe:T t.aC.length=(rQ t).ah.map aj.enc:=by
  rw[hT];simp only
  rw[List.take_of_length_le (by simp)];rfl
 clear hT;refine aD (rs:=[.cell 2 54]) zmx func207 ntmps207 rfl rfl rfl rfl rfl ?_;refine W1 ?_;refine aZ (rG t (by omega)) ?_;simp -implicitDefEqProofs (disch:=omega) only[go_sem,hv,ha,hs];refine W3 ?_;refine C1 (bW _) ?_;refine C1 (bW _) ?_;refine C1 (eF t.bH (by omega)) ?_;refine C1 (eF [] (by simp)) ?_;have hE:=fun bU Ω=>lQ (T 0) (hTr 0) (by have:=iG 0;omega) bU Ω;simp only[hT0] at hE;refine qz [false] rfl (hE _ _) ?_;refine W1 ?_
 refine aU (ι:=Nat) zmx rfl [1,2,4,5] (fun i=>[.c (.ptr (0,0) 0),.c (.ptr (0,1) 0),.c (.ptr (0,4) 0),.c (.d (.i .i64 i))])
  (fun i=>[.box [.d (.s t.fName),.d (.sl (t.bH.map encS)),.d (.b false),.d (.b false),.d (.sl (t.aC.map aL.enc))],.box [.d (.s []),.bG []],.box [.d (.s []),.bN (0,3) (T 0)],.tok 2 (T i),.box [.d (.s []),.bN (0,3) (T i)]]::S)
  (fun i=>i<=t.aC.length) (fun i=>t.aC.length-i) 0 rfl (by simp only[hT0]<;>(try rfl)) (Nat.zero_le _) ?_
 intro i hi;have hl:=iG i;refine W1 ?_;refine S0 (fun hb h=>?_) fun hb h=>?_
 ·have hi':i<t.aC.length:=by omega
  have hm:=List.getElem_mem hi';have hcz:=zy hm;have hce:=aL.sum t.aC[i];rw[dK] at hce;obtain⟨q1,q2,q3⟩:=rX (hso _ hm);have hst:=hTs i hi';refine W3 ?_;refine C1 (bW _) ?_;refine C1 (Dk t.aC[i].aV (by omega) (fun u hu=>by have:=zw hu;omega)) ?_;refine C1 (mP t.aC[i].bO (by omega)) ?_;refine qz [false] rfl (lQ _ (by simp) (by simp) _ _) ?_;refine W1 ?_;refine S0 (fun hb h=>?_) fun hb h=>?_
  ·rw[AZ h] at hst;simp only[List.map_cons,List.map_nil,fJ,kF,aj.aB (cK t.aC[i].bO),aj.aB (fq t.aC[i].fBody)] at hst;refine C1 (eF t.aC[i].aG (by omega)) ?_;refine C1 (uS t.aC[i].fBody (q3 h) (by omega)) ?_;refine W3 ?_;rw[hst];exact bZ 5 (by decide) (i+1) (by omega) rfl rfl rfl rfl (by omega)
  ·rw[A8 h] at hst;simp only[List.map_cons,List.map_nil,fJ,kF,aj.aB (cK t.aC[i].bO)] at hst;refine W3 ?_;rw[hst];exact bZ 5 (by decide) (i+1) (by omega) rfl rfl rfl rfl (by omega)
 ·have hi':i=t.aC.length:=by omega
  subst hi';rw[hTe];refine C1 (tJ true (rQ t) (by omega)) ?_;rfl
theorem af2(t:bf)(hsz:t.sz<=1048576):aH prog 207 [t.v] (Qg t).v:=by
 unfold Qg
 cases hv:dR t with
 |false=>
  rw[wS];refine aH.less (fun S=> ?_) (Gt [] []);refine aD (rs:=[.cell 2 54]) zmx func207 ntmps207 rfl rfl rfl rfl rfl ?_;refine W1 ?_;refine aZ (rG t (by omega)) ?_;simp -implicitDefEqProofs (disch:=omega) only[go_sem,hv]
 |true=>
  rw[wS];have hb:=(jE hv).2
  cases ha:t.nC with
  |true=>
   cases hs:t.bE with
   |true=>exact absurd ⟨ha,hs⟩ hb
   |false=>exact ajl t hv hsz ha hs
  |false=>
   cases hs:t.bE with
   |true=>exact ajm t hv hsz ha hs
   |false=>exact ajn t hv hsz ha hs
def Rs:aL:=⟨[],[],jf,false,[],l9⟩
def yD(b:Bool)(l:List aj):Bool:=match b with
 |true=>decide (l.length=5)
 |false=>decide (3<l.length)
def jI(b:Bool)(y:aj):aL:=if b=true/\y.ah.length<3 then Rs else
 ⟨dJ y.ah 0,(gX y.ah 1).ah.map (dO b),dO b (gX y.ah 2),yD b y.ah,if yD b y.ah=true then oU y.ah 3 else [],if yD b y.ah=true then eP b (gX y.ah 4) else l9⟩
def sK(b:Bool)(x:aj):bf:=
 ⟨dJ x.ah 1,oU x.ah 2,decide (uy∈oU x.ah 3),decide (iU∈oU x.ah 3),(x.ah.drop 4).map (jI b)⟩
theorem af3{g:aL}(h:iL g=true):(g.gW=true->∀v∈g.aG,v≠[])/\(g.gW=false->g.aG=[]/\g.fBody=l9):=by
 unfold iL at h;simp only[Bool.and_eq_true] at h;obtain⟨_,_,_,_,h3⟩:=h;refine⟨fun hd=> ?_,fun hd=> ?_⟩
 ·rw[if_pos hd,Bool.and_eq_true] at h3;have:=h3.2;unfold nQ at this;rw[Bool.and_eq_true] at this;exact AL this.1
 ·rw[if_neg (by rw[hd];decide),Bool.and_eq_true] at h3;exact⟨List.eq_nil_of_length_eq_zero (gG h3.1),gG h3.2⟩
theorem af4(b:Bool){g:aL}(h:iL g=true):jI b (oM g)=g:=by
 obtain⟨h1,h2,h3⟩:=rX h;obtain⟨h4,h5⟩:=af3 h;unfold jI
 cases hd:g.gW with
 |true=>
  rw[AZ hd,if_neg (by simp)]
  have e:yD b [bI g.fName,bC (g.aV.map cK),cK g.bO,bC (aN g.aG),fq g.fBody]=true:=by cases b<;>rfl
  rw[e,if_pos rfl,if_pos rfl];show aL.mk g.fName ((g.aV.map cK).map (dO b)) (dO b (cK g.bO)) true (eU (aN g.aG)) (eP b (fq g.fBody))=g;rw[FJ b h1,xK b _ h2,qM (h4 hd),Gy b _ (h3 hd),<-hd]
 |false=>
  rw[A8 hd,if_neg (by simp)]
  have e:yD b [bI g.fName,bC (g.aV.map cK),cK g.bO]=false:=by cases b<;>rfl
  rw[e,if_neg (by decide),if_neg (by decide)];show aL.mk g.fName ((g.aV.map cK).map (dO b)) (dO b (cK g.bO)) false [] l9=g;obtain⟨e1,e2⟩:=h5 hd;rw[FJ b h1,xK b _ h2,<-e2]
  conv=>lhs;rw[<-e1,<-hd]
theorem Rt{t:bf}(h:dR t=true):∀v∈t.bH,v≠[]:=by
 unfold dR at h;simp only[Bool.and_eq_true] at h;exact AL h.2.2.1
theorem af5(t:bf):∀v∈lS t,v≠[]:=fun v hv=>by
 unfold lS at hv;rw[List.mem_append] at hv;rcases hv with h|h
 ·split at h
  ·rw[List.mem_singleton.1 h];decide
  ·cases h
 ·split at h
  ·rw[List.mem_singleton.1 h];decide
  ·cases h
theorem Qh(t:bf):decide (uy∈lS t)=t.nC/\decide (iU∈lS t)=t.bE:=by
 unfold lS;cases t.nC<;>cases t.bE<;>exact⟨by decide,by decide⟩
theorem Nr(b:Bool){t:bf}(h:dR t=true):sK b (rQ t)=t:=by
 have h1:=(jE h).1;show bf.mk t.fName (eU (aN t.bH)) (decide (uy∈eU (aN (lS t)))) (decide (iU∈eU (aN (lS t)))) ((t.aC.map oM).map (jI b))=t;rw[qM (Rt h),qM (af5 t),(Qh t).1,(Qh t).2,Ez fun c hc=>af4 b (h1 c hc)]
noncomputable def xY(x:aj):Bool:=dec (fM x=true/\(4<=x.ah.length/\dJ x.ah 0=j5)/\dR (sK true x)=true/\rQ (sK true x)=x)
theorem af6{x:aj}(hx:x.ah≠[]):xY x=(fM x&&dec (Qg (sK false x)=x)):=
 XH hx (fun a h1 h2=>by rw[<-h2];exact⟨Nr true h1,Nr false h1⟩) fun a h=>by rw[<-h];exact⟨by rw[rQ,dH];simp[jq],rfl⟩
theorem af7{x:aj}(h:xY x=true):sK false x=sK true x:=by
 have h1:=gG h
 conv=>lhs;rw[<-h1.2.2.2]
 exact Nr false h1.2.2.1
def KN:bf:=⟨[],[],false,false,[]⟩
noncomputable def vF(x:aj):bf:=if xY x=true then sK true x else KN
theorem ajo(b:Bool)(l:List aj):bn ((l.map (dO b)).map ak.enc)<=dA l:=by
 have:=Iq b l;rw[zm] at this;rw[Az];exact this
theorem af8(b:Bool)(y:aj):(jI b y).sz<=y.sz:=by
 have h1:=Cj y.ah;have h2:=qO y;have h3:=qO (gX y.ah 0);have h4:=ajo b (gX y.ah 1).ah;have h4':=qO (gX y.ah 1);have h5:=zn b (gX y.ah 2);have h6:=rU (gX y.ah 3).ah;have h6':=qO (gX y.ah 3);have h7:=Dw b (gX y.ah 4);unfold jI;split
 ·simp only[Rs,aL.sz,aL.aB,bT,bL,D.sz,ak.d9,au.d9,Cc,zo,List.map_nil,bn,List.length_nil];omega
 ·cases yD b y.ah with
  |true=>
   simp only[if_true,aL.sz,aL.aB,bT,bL,D.sz,ak.d9,au.d9,List.length_map,oU,dK,Fe];omega
  |false=>
   simp only[Bool.false_eq_true,if_false,aL.sz,aL.aB,bT,bL,D.sz,ak.d9,au.d9,List.length_map,zo,List.map_nil,bn,List.length_nil,Fe];omega
theorem Qi(b:Bool):∀l:List aj,bn ((l.map (jI b)).map aL.enc)<=dA l
 |[]=>by simp[bn]
 |y::l=>by
  have h1:=af8 b y;have h2:=Qi b l;rw[List.map_cons,List.map_cons,bn,dA];simp only[aL.sz] at h1;omega
theorem Ns(b:Bool)(x:aj):(sK b x).sz<=x.sz:=by
 have h1:=Ey x.ah;have h2:=qO x;have h3:=qO (gX x.ah 1);have h4:=rU (gX x.ah 2).ah;have h4':=qO (gX x.ah 2);have h5:=Qi b (x.ah.drop 4);simp only[bf.sz,bf.aB,bT,bL,D.sz,sK,List.length_map,List.length_drop,oU,dK,Fe];omega
def gQ(p:aW):List (List UInt8):=p.dh.map bf.fName
def jm(p:aW):List (List UInt8):=p.aQ.map aP.fName
def iH(ds:List aP):List (List UInt8):=ds.flatMap fun d=>d.aF.map aK.fName
def fnNames(p:aW):List (List UInt8):=p.bX.map aS.fName
def Ac(ps:List aW):List (List UInt8):=ps.flatMap gQ
def Ad(ps:List aW):List (List UInt8):=ps.flatMap jm
def Ae(ps:List aW):List (List UInt8):=ps.flatMap fun p=>iH p.aQ
def Af(ps:List aW):List (List UInt8):=ps.flatMap fnNames
noncomputable def oo(ps:List aW):Bool:=dec (Ac ps).Nodup&&(dec (Ad ps).Nodup&&(dec (Ae ps).Nodup&&dec (Af ps).Nodup))
theorem zA{α β:Type}(f:α->List β){xs:List α}{i:Nat}(hi:i<xs.length):(xs.take (i+1)).flatMap f=(xs.take i).flatMap f++f xs[i]:=by
 rw[List.take_succ_eq_append_getElem hi,List.flatMap_append]
 simp
theorem vX{α β:Type}(f:α->List β)(g:α->List D)(h:∀x,(f x).length<=bT (g x)):∀xs:List α,(xs.flatMap f).length<=bn (xs.map g)
 |[]=>by simp[bn]
 |x::xs=>by
  have h1:=h x;have h2:=vX f g h xs;rw[List.flatMap_cons,List.length_append,List.map_cons,bn];omega
theorem aj5(ds:List aP):(iH ds).length<=bn (ds.map aP.enc):=vX _ _ (fun d=>by
 rw[List.length_map];simp only[aP.aB,bT,bL,D.sz,List.length_map]
 omega) ds
theorem XP(ps:List aW):(Ac ps).length<=bn (ps.map aW.enc)/\(Ad ps).length<=bn (ps.map aW.enc)/\(Ae ps).length<=bn (ps.map aW.enc)/\(Af ps).length<=bn (ps.map aW.enc):=by
 refine⟨vX _ _ (fun p=> ?_) ps,vX _ _ (fun p=> ?_) ps,vX _ _ (fun p=> ?_) ps,vX _ _ (fun p=> ?_) ps⟩
 ·simp only[gQ,aW.aB,bT,bL,D.sz,List.length_map];omega
 ·simp only[jm,aW.aB,bT,bL,D.sz,List.length_map];omega
 ·have:=aj5 p.aQ;simp only[aW.aB,bT,bL,D.sz,List.length_map];omega
 ·simp only[fnNames,aW.aB,bT,bL,D.sz,List.length_map];omega
theorem aW.bounds{x:aW}(h:x.sz<=4194304):x.fName.length<=4194304/\x.fT.length<=4194304/\x.dh.length<=4194304/\x.aQ.length<=4194304/\x.cB.length<=4194304/\x.bX.length<=4194304/\(iH x.aQ).length<=4194304:=by
 have:=aj5 x.aQ;simp only[aW.sz,aW.aB,bT,bL,D.sz,List.length_map] at h;omega
theorem KO(x:aW):∀y:aW,x.sz<=1048576->aH prog 13 [x.v,y.v] (.c (.d (.b (dec (x=y))))):=by
 intro y hsz S;simp only[aW.sz,aW.aB,bT,bL,D.sz,List.length_map] at hsz;refine aD (rs:=[.tmp 4]) zmx func13 ntmps13 rfl rfl rfl rfl rfl ?_;refine W1 ?_;refine S0 (fun hb h=>?_) fun hb h=>?_
 ·exact ay (aA (fun e=>h (by rw[e]))).symm
 have rJ:=h;clear h;refine C1 (qB x.fT _ (by omega)) ?_;refine S0 (fun hb h=>?_) fun hb h=>?_
 ·exact ay (aA (fun e=>h (by rw[e]))).symm
 have apk:=h;clear h;refine C1 (Y5 x.dh _ (by omega)) ?_;refine S0 (fun hb h=>?_) fun hb h=>?_
 ·exact ay (aA (fun e=>h (by rw[e]))).symm
 have alS:=h;clear h;refine C1 (Q9 x.aQ _ (by omega)) ?_;refine S0 (fun hb h=>?_) fun hb h=>?_
 ·exact ay (aA (fun e=>h (by rw[e]))).symm
 have adi:=h;clear h;refine C1 (Rk x.cB _ (by omega)) ?_;refine S0 (fun hb h=>?_) fun hb h=>?_
 ·exact ay (aA (fun e=>h (by rw[e]))).symm
 have adj:=h;clear h;refine C1 (Rl x.bX _ (by omega)) ?_;refine S0 (fun hb h=>?_) fun hb h=>?_
 ·exact ay (aA (fun e=>h (by rw[e]))).symm
 have adk:=h;clear h;exact ay (aY (aW.ext' rJ apk alS adi adj adk)).symm
theorem fU.bounds{x:fU}(h:x.sz<=4194304):x.sU.length<=4194304:=by
 simp only[fU.sz,fU.aB,bT,bL,D.sz,List.length_map] at h;omega
theorem Fg(xs:List (List UInt8))(x:List UInt8):xs.map encS++[[D.s x]]=(xs++[x]).map encS:=by simp[encS]
theorem Zt(p:aW)(hsz:p.sz<=4194304):aH prog 147 [p.v] (.dQ [(false,[.d (.sl ((gQ p).map encS))]),(false,[.d (.sl ((jm p).map encS))]),(false,[.d (.sl ((iH p.aQ).map encS))]),(false,[.d (.sl ((fnNames p).map encS))])]):=fun S=>by
 have hb0:=aW.bounds hsz;refine aD (rs:=[.tmp 2,.tmp 3,.tmp 4,.tmp 5]) zmx func147 ntmps147 rfl rfl rfl rfl rfl ?_;refine W1 ?_;refine W3 ?_;refine nK 6 1 [] rfl (by simp) ?_;refine nK 7 1 [] rfl (by simp) ?_;refine nK 8 1 [] rfl (by simp) ?_;refine nK 9 1 [] rfl (by simp) ?_
 refine aU (ι:=Nat×List (List UInt8)) zmx rfl [1,6,7,8,9,10] (fun y=>[.c (.ptr (0,0) 0),.c (.bN (0,1) (y.2.map encS)),.c (.bN (0,2) []),.c (.bN (0,3) []),.c (.bN (0,4) []),.c (.d (.i .i64 y.1))]) (fun y=>[.box (p.enc.map .d),.tok 1 (y.2.map encS),.tok 1 [],.tok 1 [],.tok 1 []]::S)
  (fun y=>y.1<=p.dh.length/\y.2=(gQ p).take y.1) (fun y=>p.dh.length-y.1) (0,[]) rfl ?_ ⟨Nat.zero_le _,rfl⟩ ?_
 ·exact Z1
 rintro⟨i,a⟩ ⟨p1,p2⟩;simp only at p1 p2
 have pl:a.length<=p.dh.length:=by rw[p2];simp[gQ];omega
 refine W1 ?_;refine S0 (fun hb h=>?_) fun hb h=>?_
 ·have hi:i<p.dh.length:=by omega
  refine W3 ?_;rw[Fg];exact bJ (i+1,a++[p.dh[i].fName]) (by simp only;omega) rfl rfl ⟨by simp only;omega,by simp only;rw[p2,iV (by simpa [gQ] using hi)];simp[gQ]⟩
 have ha:a=gQ p:=by rw[p2,List.take_of_length_le (by simp[gQ];omega)]
 clear p1 p2 pl hb h;subst ha
 refine aU (ι:=Nat×List (List UInt8)×List (List UInt8)) zmx rfl [1,6,7,8,9,11] (fun y=>[.c (.ptr (0,0) 0),.c (.bN (0,1) ((gQ p).map encS)),.c (.bN (0,2) (y.2.1.map encS)),.c (.bN (0,3) (y.2.2.map encS)),.c (.bN (0,4) []),.c (.d (.i .i64 y.1))]) (fun y=>[.box (p.enc.map .d),.tok 1 ((gQ p).map encS),.tok 1 (y.2.1.map encS),.tok 1 (y.2.2.map encS),.tok 1 []]::S)
  (fun y=>y.1<=p.aQ.length/\y.2.1=(jm p).take y.1/\y.2.2=iH (p.aQ.take y.1)) (fun y=>p.aQ.length-y.1) (0,[],[]) rfl ?_ ⟨Nat.zero_le _,rfl,rfl⟩ ?_
 ·exact Z1
 rintro⟨i,b,c⟩ ⟨p1,p2,p3⟩;simp only at p1 p2 p3
 have pl:b.length<=p.aQ.length:=by rw[p2];simp[jm];omega
 refine W1 ?_;refine S0 (fun hb h=>?_) fun hb h=>?_
 ·have hi:i<p.aQ.length:=by omega
  have e3:iH (p.aQ.take (i+1))=c++p.aQ[i].aF.map aK.fName:=by rw[p3];exact zA _ hi
  have hcl:(iH (p.aQ.take (i+1))).length<=4194304:=by
   have h1:(iH (p.aQ.take (i+1))).length<=(iH p.aQ).length:=by
    conv=>rhs;rw[<-List.take_append_drop (i+1) p.aQ]
    unfold iH;rw[List.flatMap_append,List.length_append];omega
   omega
  rw[e3,List.length_append,List.length_map] at hcl;refine W3 ?_;rw[Fg]
  refine aU (ι:=Nat×List (List UInt8)) zmx rfl [1,6,7,8,9,11,12] (fun y=>[.c (.ptr (0,0) 0),.c (.bN (0,1) ((gQ p).map encS)),.c (.bN (0,2) ((b++[p.aQ[i].fName]).map encS)),.c (.bN (0,3) (y.2.map encS)),.c (.bN (0,4) []),.c (.d (.i .i64 i)),.c (.d (.i .i64 y.1))]) (fun y=>[.box (p.enc.map .d),.tok 1 ((gQ p).map encS),.tok 1 ((b++[p.aQ[i].fName]).map encS),.tok 1 (y.2.map encS),.tok 1 []]::S)
   (fun y=>y.1<=p.aQ[i].aF.length/\y.2=c++(p.aQ[i].aF.map aK.fName).take y.1) (fun y=>p.aQ[i].aF.length-y.1) (0,c) rfl ?_ ⟨Nat.zero_le _,by simp⟩ ?_
  ·exact Z1
  rintro⟨k,e⟩ ⟨q1,q2⟩;simp only at q1 q2
  have pl2:e.length<=4194304:=by rw[q2];simp;omega
  refine W1 ?_;refine W3 ?_;refine S0 (fun hb h=>?_) fun hb h=>?_
  ·have hk:k<p.aQ[i].aF.length:=by omega
   refine W3 ?_;rw[Fg];exact bJ (k+1,e++[p.aQ[i].aF[k].fName]) (by simp only;omega) rfl rfl ⟨by simp only;omega,by simp only;rw[q2,iV (by simpa using hk)];simp⟩
  ·have hk:k=p.aQ[i].aF.length:=by omega
   have he:e=c++p.aQ[i].aF.map aK.fName:=by rw[q2,List.take_of_length_le (by simp;omega)]
   exact bJ (i+1,b++[p.aQ[i].fName],e) (by simp only;omega) rfl rfl ⟨by simp only;omega,by simp only;rw[p2,iV (by simpa [jm] using hi)];simp[jm],by simp only;rw[e3,he]⟩
 have hb1:b=jm p:=by rw[p2,List.take_of_length_le (by simp[jm];omega)]
 have hc1:c=iH p.aQ:=by rw[p3,List.take_of_length_le (by omega)]
 clear p1 p2 p3 pl hb h;subst hb1;subst hc1
 refine aU (ι:=Nat×List (List UInt8)) zmx rfl [1,6,7,8,9,13] (fun y=>[.c (.ptr (0,0) 0),.c (.bN (0,1) ((gQ p).map encS)),.c (.bN (0,2) ((jm p).map encS)),.c (.bN (0,3) ((iH p.aQ).map encS)),.c (.bN (0,4) (y.2.map encS)),.c (.d (.i .i64 y.1))]) (fun y=>[.box (p.enc.map .d),.tok 1 ((gQ p).map encS),.tok 1 ((jm p).map encS),.tok 1 ((iH p.aQ).map encS),.tok 1 (y.2.map encS)]::S)
  (fun y=>y.1<=p.bX.length/\y.2=(fnNames p).take y.1) (fun y=>p.bX.length-y.1) (0,[]) rfl ?_ ⟨Nat.zero_le _,rfl⟩ ?_
 ·exact Z1
 rintro⟨i,a⟩ ⟨p1,p2⟩;simp only at p1 p2
 have pl:a.length<=p.bX.length:=by rw[p2];simp[fnNames];omega
 refine W1 ?_;refine S0 (fun hb h=>?_) fun hb h=>?_
 ·have hi:i<p.bX.length:=by omega
  refine W3 ?_;rw[Fg];exact bJ (i+1,a++[p.bX[i].fName]) (by simp only;omega) rfl rfl ⟨by simp only;omega,by simp only;rw[p2,iV (by simpa [fnNames] using hi)];simp[fnNames]⟩
 ·have ha:a=fnNames p:=by rw[p2,List.take_of_length_le (by simp[fnNames];omega)]
  rw[ha]
def Cz(a b c d:List (List UInt8))(rest:List Ab.Obj)(S:Store):Store:=
 (.box [.bG [],.bG [],.bG [],.bG []]:: .box [.bN (0,2) (a.map encS),.bN (0,3) (b.map encS),.bN (0,4) (c.map encS),.bN (0,5) (d.map encS)]:: .tok 1 (a.map encS):: .tok 1 (b.map encS):: .tok 1 (c.map encS):: .tok 1 (d.map encS)::rest)::S
theorem Zu(ps:List aW)(hl:ps.length<=4194304)(hz:bn (ps.map aW.enc)<=4194304):aH prog 229 [.c (.d (.sl (ps.map aW.enc)))] (.agg [.d (.sl ((Ac ps).map encS)),.d (.sl ((Ad ps).map encS)),.d (.sl ((Ae ps).map encS)),.d (.sl ((Af ps).map encS))]):=fun S=>by
 have hn:=XP ps;refine aD (rs:=[.cell 2 218]) zmx func229 ntmps229 rfl rfl rfl rfl rfl ?_;refine W1 ?_;refine W3 ?_;refine sS 1 0 1 [] [.bG [],.bG [],.bG [],.bG []] rfl rfl (by simp) ?_;refine sS 1 1 1 [] [.bN (0,2) [],.bG [],.bG [],.bG []] rfl rfl (by simp) ?_;refine sS 1 2 1 [] [.bN (0,2) [],.bN (0,3) [],.bG [],.bG []] rfl rfl (by simp) ?_;refine sS 1 3 1 [] [.bN (0,2) [],.bN (0,3) [],.bN (0,4) [],.bG []] rfl rfl (by simp) ?_
 refine aU (ι:=Nat×List (List UInt8)×List (List UInt8)×List (List UInt8)×List (List UInt8)) zmx rfl [2,3,15,16,17] (fun y=>[.c (.ptr (0,0) 0),.c (.ptr (0,1) 0),.c (.d (.sl (ps.map aW.enc))),.c (.d (.i .i64 ps.length)),.c (.d (.i .i64 y.1))])
  (fun y=>[.box [.bG [],.bG [],.bG [],.bG []],.box [.bN (0,2) (y.2.1.map encS),.bN (0,3) (y.2.2.1.map encS),.bN (0,4) (y.2.2.2.1.map encS),.bN (0,5) (y.2.2.2.2.map encS)],.tok 1 (y.2.1.map encS),.tok 1 (y.2.2.1.map encS),.tok 1 (y.2.2.2.1.map encS),.tok 1 (y.2.2.2.2.map encS)]::S)
  (fun y=>y.1<=ps.length/\y.2.1=Ac (ps.take y.1)/\y.2.2.1=Ad (ps.take y.1)/\y.2.2.2.1=Ae (ps.take y.1)/\y.2.2.2.2=Af (ps.take y.1)) (fun y=>ps.length-y.1) (0,[],[],[],[]) rfl rfl ⟨Nat.zero_le _,rfl,rfl,rfl,rfl⟩ ?_
 rintro⟨i,a,b,c,d⟩ ⟨p1,p2,p3,p4,p5⟩;simp only at p1 p2 p3 p4 p5;refine W1 ?_;refine S0 (fun hb h=>?_) fun hb h=>?_
 ·have hi:i<ps.length:=by omega
  have hp:ps[i].sz<=4194304:=by
   have hx:ps[i].sz<=bn (ps.map aW.enc):=dD (List.mem_map_of_mem (List.getElem_mem hi));omega
  refine W3 ?_
  have sub:∀(f:aW->List (List UInt8)),((ps.take (i+1)).flatMap f).length<=(ps.flatMap f).length:=fun f=>by
   conv=>rhs;rw[<-List.take_append_drop (i+1) ps]
   rw[List.flatMap_append,List.length_append];omega
  have e2:Ac (ps.take (i+1))=a++gQ ps[i]:=by rw[p2];exact zA _ hi
  have e3:Ad (ps.take (i+1))=b++jm ps[i]:=by rw[p3];exact zA _ hi
  have e4:Ae (ps.take (i+1))=c++iH ps[i].aQ:=by rw[p4];exact zA _ hi
  have e5:Af (ps.take (i+1))=d++fnNames ps[i]:=by rw[p5];exact zA _ hi
  have l2:(a++gQ ps[i]).length<=4194304:=by rw[<-e2];have:=sub gQ;unfold Ac at *;omega
  have l3:(b++jm ps[i]).length<=4194304:=by rw[<-e3];have:=sub jm;unfold Ad at *;omega
  have l4:(c++iH ps[i].aQ).length<=4194304:=by rw[<-e4];have:=sub (fun p=>iH p.aQ);unfold Ae at *;omega
  have l5:(d++fnNames ps[i]).length<=4194304:=by rw[<-e5];have:=sub fnNames;unfold Af at *;omega
  have hbp:=aW.bounds hp;rw[List.length_append] at l2 l3 l4 l5
  refine aU (ι:=Nat×List (List UInt8)) zmx rfl [2,3,5,15,16,17,22,23,24] (fun y=>[.c (.ptr (0,0) 0),.c (.ptr (0,1) 0),.c (.ptr (0,6) 0),.c (.d (.sl (ps.map aW.enc))),.c (.d (.i .i64 ps.length)),.c (.d (.i .i64 i)),.c (.d (.sl (ps[i].dh.map bf.enc))),.c (.d (.i .i64 ps[i].dh.length)),.c (.d (.i .i64 y.1))]) (fun y=>Cz y.2 b c d [.box (ps[i].enc.map .d)] S)
   (fun y=>y.1<=ps[i].dh.length/\y.2=a++(gQ ps[i]).take y.1) (fun y=>ps[i].dh.length-y.1) (0,a) rfl ?_ ⟨Nat.zero_le _,by simp⟩ ?_
  ·unfold Cz;exact Z1
  rintro⟨k,a'⟩ ⟨q1,q2⟩;simp only at q1 q2
  have ql:a'.length<=4194304:=by rw[q2];simp[gQ] at *;omega
  unfold Cz;refine W1 ?_;refine S0 (fun hb h=>?_) fun hb h=>?_
  ·have hk:k<ps[i].dh.length:=by omega
   have ql':a'.length+1<=4194304:=by rw[q2];simp[gQ] at *;omega
   refine W3 ?_;rw[Fg];exact bZ 7 (by decide) (k+1,a'++[ps[i].dh[k].fName]) (by simp only;omega) rfl rfl rfl rfl ⟨by simp only;omega,by simp only;rw[q2,iV (by simpa [gQ] using hk)];simp[gQ]⟩
  have ha:a'=a++gQ ps[i]:=by rw[q2,List.take_of_length_le (by simp[gQ];omega)]
  clear q1 q2 ql hb h;subst ha
  refine aU (ι:=Nat×List (List UInt8)×List (List UInt8)) zmx rfl [2,3,5,15,16,17,37,38,39] (fun y=>[.c (.ptr (0,0) 0),.c (.ptr (0,1) 0),.c (.ptr (0,6) 0),.c (.d (.sl (ps.map aW.enc))),.c (.d (.i .i64 ps.length)),.c (.d (.i .i64 i)),.c (.d (.sl (ps[i].aQ.map aP.enc))),.c (.d (.i .i64 ps[i].aQ.length)),.c (.d (.i .i64 y.1))]) (fun y=>Cz (a++gQ ps[i]) y.2.1 y.2.2 d [.box (ps[i].enc.map .d)] S)
   (fun y=>y.1<=ps[i].aQ.length/\y.2.1=b++(jm ps[i]).take y.1/\y.2.2=c++iH (ps[i].aQ.take y.1)) (fun y=>ps[i].aQ.length-y.1) (0,b,c) rfl ?_ ⟨Nat.zero_le _,by simp,by simp[iH]⟩ ?_
  ·unfold Cz;exact Z1
  rintro⟨k',b',c'⟩ ⟨q1,q2,q3⟩;simp only at q1 q2 q3;unfold Cz;refine W1 ?_;refine S0 (fun hb h=>?_) fun hb h=>?_
  ·have hk:k'<ps[i].aQ.length:=by omega
   have e6:iH (ps[i].aQ.take (k'+1))=iH (ps[i].aQ.take k')++ps[i].aQ[k'].aF.map aK.fName:=zA _ hk
   have hcl:(iH (ps[i].aQ.take (k'+1))).length<=(iH ps[i].aQ).length:=by
    conv=>rhs;rw[<-List.take_append_drop (k'+1) ps[i].aQ]
    unfold iH;rw[List.flatMap_append,List.length_append];omega
   have ql':b'.length+1<=4194304:=by rw[q2];simp[jm] at *;omega
   have qc:c'.length+ps[i].aQ[k'].aF.length<=4194304:=by
    rw[e6,List.length_append,List.length_map] at hcl;rw[q3,List.length_append];omega
   refine W3 ?_;rw[Fg]
   refine aU (ι:=Nat×List (List UInt8)) zmx rfl [2,3,5,15,16,17,37,38,39,51,52,53] (fun y=>[.c (.ptr (0,0) 0),.c (.ptr (0,1) 0),.c (.ptr (0,6) 0),.c (.d (.sl (ps.map aW.enc))),.c (.d (.i .i64 ps.length)),.c (.d (.i .i64 i)),.c (.d (.sl (ps[i].aQ.map aP.enc))),.c (.d (.i .i64 ps[i].aQ.length)),.c (.d (.i .i64 k')),.c (.d (.sl (ps[i].aQ[k'].aF.map aK.enc))),.c (.d (.i .i64 ps[i].aQ[k'].aF.length)),.c (.d (.i .i64 y.1))]) (fun y=>Cz (a++gQ ps[i]) (b'++[ps[i].aQ[k'].fName]) y.2 d [.box (ps[i].enc.map .d),.box (ps[i].aQ[k'].enc.map .d)] S)
    (fun y=>y.1<=ps[i].aQ[k'].aF.length/\y.2=c'++(ps[i].aQ[k'].aF.map aK.fName).take y.1) (fun y=>ps[i].aQ[k'].aF.length-y.1) (0,c') rfl ?_ ⟨Nat.zero_le _,by simp⟩ ?_
   ·unfold Cz;exact Z1
   rintro⟨m,c''⟩ ⟨r1,r2⟩;simp only at r1 r2
   have rl:c''.length<=4194304:=by rw[r2];simp;omega
   unfold Cz;refine W1 ?_;refine S0 (fun hb h=>?_) fun hb h=>?_
   ·have hm:m<ps[i].aQ[k'].aF.length:=by omega
    have rl':c''.length+1<=4194304:=by rw[r2];simp;omega
    refine W3 ?_;rw[Fg];exact bZ 8 (by decide) (m+1,c''++[ps[i].aQ[k'].aF[m].fName]) (by simp only;omega) rfl rfl rfl rfl ⟨by simp only;omega,by simp only;rw[r2,iV (by simpa using hm)];simp⟩
   ·have hm:m=ps[i].aQ[k'].aF.length:=by omega
    have hc:c''=c'++ps[i].aQ[k'].aF.map aK.fName:=by rw[r2,List.take_of_length_le (by simp;omega)]
    exact bZ 7 (by decide) (k'+1,b'++[ps[i].aQ[k'].fName],c'') (by simp only;omega) rfl rfl rfl rfl ⟨by simp only;omega,by simp only;rw[q2,iV (by simpa [jm] using hk)];simp[jm],by simp only;rw[hc,e6,q3,List.append_assoc]⟩
  have hb':b'=b++jm ps[i]:=by rw[q2,List.take_of_length_le (by simp[jm];omega)]
  have hc':c'=c++iH ps[i].aQ:=by rw[q3,List.take_of_length_le (by omega)]
  clear q1 q2 q3 hb h;subst hb';subst hc'
  refine aU (ι:=Nat×List (List UInt8)) zmx rfl [2,3,5,15,16,17,67,68,69] (fun y=>[.c (.ptr (0,0) 0),.c (.ptr (0,1) 0),.c (.ptr (0,6) 0),.c (.d (.sl (ps.map aW.enc))),.c (.d (.i .i64 ps.length)),.c (.d (.i .i64 i)),.c (.d (.sl (ps[i].bX.map aS.enc))),.c (.d (.i .i64 ps[i].bX.length)),.c (.d (.i .i64 y.1))]) (fun y=>Cz (a++gQ ps[i]) (b++jm ps[i]) (c++iH ps[i].aQ) y.2 [.box (ps[i].enc.map .d)] S)
   (fun y=>y.1<=ps[i].bX.length/\y.2=d++(fnNames ps[i]).take y.1) (fun y=>ps[i].bX.length-y.1) (0,d) rfl ?_ ⟨Nat.zero_le _,by simp⟩ ?_
  ·unfold Cz;exact Z1
  rintro⟨k4,d'⟩ ⟨q1,q2⟩;simp only at q1 q2
  have ql:d'.length<=4194304:=by rw[q2];simp[fnNames] at *;omega
  unfold Cz;refine W1 ?_;refine S0 (fun hb h=>?_) fun hb h=>?_
  ·have hk:k4<ps[i].bX.length:=by omega
   have ql':d'.length+1<=4194304:=by rw[q2];simp[fnNames] at *;omega
   refine W3 ?_;rw[Fg];exact bZ 7 (by decide) (k4+1,d'++[ps[i].bX[k4].fName]) (by simp only;omega) rfl rfl rfl rfl ⟨by simp only;omega,by simp only;rw[q2,iV (by simpa [fnNames] using hk)];simp[fnNames]⟩
  ·have hd:d'=d++fnNames ps[i]:=by rw[q2,List.take_of_length_le (by simp[fnNames];omega)]
   exact bZ 6 (by decide) (i+1,a++gQ ps[i],b++jm ps[i],c++iH ps[i].aQ,d') (by simp only;omega) rfl rfl rfl rfl ⟨by simp only;omega,e2.symm,e3.symm,e4.symm,by simp only;rw[hd,e5]⟩
 ·have hi:i=ps.length:=by omega
  rw[List.take_of_length_le (by omega)] at p2 p3 p4 p5;rw[p2,p3,p4,p5]
theorem XQ(ps:List aW)(hl:ps.length<=4194304)(hz:bn (ps.map aW.enc)<=4194304):aH prog 160 [.c (.d (.sl (ps.map aW.enc)))] (.c (.d (.b (oo ps)))):=fun S=>by
 have hn:=XP ps;refine aD (rs:=[.tmp 2]) zmx func160 ntmps160 rfl rfl rfl rfl rfl ?_;refine W1 ?_;refine C2 (Zu ps hl hz) ?_
 refine aU (ι:=Int) zmx rfl [6,7] (fun i=>[.agg [.d (.sl ((Ac ps).map encS)),.d (.sl ((Ad ps).map encS)),.d (.sl ((Ae ps).map encS)),.d (.sl ((Af ps).map encS))],.c (.d (.i .i64 i))]) (fun _=>[]::S)
  (fun i=>(0<=i/\i<=4)/\(1<=i->(Ac ps).Nodup)/\(2<=i->(Ad ps).Nodup)/\(3<=i->(Ae ps).Nodup)/\(4<=i->(Af ps).Nodup)) (fun i=>(4-i).toNat) 0 rfl rfl ⟨⟨by omega,by omega⟩,by omega,by omega,by omega,by omega⟩ ?_
 rintro i ⟨p0,p1,p2,p3,p4⟩
 have hi:i=0\/i=1\/i=2\/i=3\/i=4:=by omega
 rcases hi with rfl|rfl|rfl|rfl|rfl
 ·refine W1 ?_;refine W3 ?_;refine C2 (qR (Ac ps) (by omega)) ?_;refine S0 (fun hb h=>?_) fun hb h=>?_
  ·exact ay (by unfold oo;rw[aA h];rfl)
  ·exact bJ 1 (by decide) rfl rfl ⟨⟨by omega,by omega⟩,fun _=>h,by omega,by omega,by omega⟩
 ·refine W1 ?_;refine W3 ?_;refine C2 (qR (Ad ps) (by omega)) ?_;refine S0 (fun hb h=>?_) fun hb h=>?_
  ·exact ay (by unfold oo;rw[aA h];simp)
  ·exact bJ 2 (by decide) rfl rfl ⟨⟨by omega,by omega⟩,fun _=>p1 (by omega),fun _=>h,by omega,by omega⟩
 ·refine W1 ?_;refine W3 ?_;refine C2 (qR (Ae ps) (by omega)) ?_;refine S0 (fun hb h=>?_) fun hb h=>?_
  ·exact ay (by unfold oo;rw[aA h];simp)
  ·exact bJ 3 (by decide) rfl rfl ⟨⟨by omega,by omega⟩,fun _=>p1 (by omega),fun _=>p2 (by omega),fun _=>h,by omega⟩
 ·refine W1 ?_;refine W3 ?_;refine C2 (qR (Af ps) (by omega)) ?_;refine S0 (fun hb h=>?_) fun hb h=>?_
  ·exact ay (by unfold oo;rw[aA h];simp)
  ·exact bJ 4 (by decide) rfl rfl ⟨⟨by omega,by omega⟩,fun _=>p1 (by omega),fun _=>p2 (by omega),fun _=>p3 (by omega),fun _=>h⟩
 ·refine W1 ?_;exact ay (by unfold oo;rw[aY (p1 (by omega)),aY (p2 (by omega)),aY (p3 (by omega)),aY (p4 (by omega))];rfl)
noncomputable def xD(p:aW):Bool:=p.dh.all dR&&(p.aQ.all fQ&&(p.cB.all fD&&p.bX.all kg))
noncomputable def vY(p:aW):Bool:=validName p.fName&&(dec (p.fT.length<=5)&&(iP p.fT&&(!dec (p.fName∈p.fT)&&dec (p.dh.length+p.aQ.length+p.cB.length+p.bX.length<=24))))
noncomputable def validPkg(p:aW):Bool:=vY p&&(oo [p]&&xD p)
theorem aW.sum(x:aW):x.fName.length+(x.fT.length+bn (x.fT.map encS))+(x.dh.length+bn (x.dh.map bf.enc))+(x.aQ.length+bn (x.aQ.map aP.enc))+(x.cB.length+bn (x.cB.map aM.enc))+(x.bX.length+bn (x.bX.map aS.enc))<=x.sz:=by
 simp only[aW.sz,aW.aB,bT,bL,D.sz,List.length_map];omega
theorem xE{α:Type}{f:α->Bool}{xs:List α}{i:Nat}(hi:i<xs.length):(xs.drop i).all f=(f xs[i]&&(xs.drop (i+1)).all f):=by
 rw[List.drop_eq_getElem_cons hi,List.all_cons]
theorem Ru(xs:List (List UInt8))(s:List UInt8)(hl:xs.length<=1073741824):aH prog 159 [.c (.d (.sl (xs.map encS))),.c (.d (.s s))] (.c (.d (.i .i64 (yu xs s)))):=fun S=>by
 refine aD (rs:=[.tmp 4]) zmx func159 ntmps159 rfl rfl rfl rfl rfl ?_;refine W1 ?_;exact C4 (Sk xs s hl)
theorem Qj(p:aW)(hsz:p.sz<=4194304):aH prog 83 [p.v] (.c (.d (.b (validPkg p)))):=fun S=>by
 have hs:=aW.sum p
 have hV:∀s∈p.fT,s.length<=4194304:=fun s h=>by have:=tq h;omega
 have no:vY p=false->V.c (.d (.b false))=V.c (.d (.b (validPkg p))):=fun h=>ay (by unfold validPkg;rw[h];rfl);have hu:=XQ [p] (by simp) (by simp[bn];have:bT p.enc=p.sz:=rfl;omega);have hix:decide (yu p.fT p.fName>=0)=dec (p.fName∈p.fT):=Oy;refine aD (rs:=[.tmp 2]) zmx func83 ntmps83 rfl rfl rfl rfl rfl ?_;refine W1 ?_;refine C2 (iI p.fName (by omega)) ?_;refine S0 (fun hb h=>?_) fun hb h=>?_
 ·exact no (by unfold vY;rw[h];rfl)
 have k1:=h;refine S0 (fun hb h=>?_) fun hb h=>?_
 ·exact no (by unfold vY;rw[aA (show ¬p.fT.length<=5 by omega)];simp)
 have k2:=h;refine W3 ?_;refine C2 (qm p.fT (by omega) hV) ?_;refine S0 (fun hb h=>?_) fun hb h=>?_
 ·exact no (by unfold vY;rw[h];simp)
 have k3:=h;refine W3 ?_;refine C1 (Ru p.fT p.fName (by omega)) ?_;rw[show decide (0<=yu p.fT p.fName)=dec (p.fName∈p.fT) from hix];refine S0 (fun hb h=>?_) fun hb h=>?_
 ·exact no (by unfold vY;rw[aY h];simp)
 have k4:=h;refine S0 (fun hb h=>?_) fun hb h=>?_
 ·exact no (by unfold vY;rw[aA (show ¬p.dh.length+p.aQ.length+p.cB.length+p.bX.length<=24 by omega)];simp)
 have hh:vY p=true:=by unfold vY;rw[k1,k3,aY (show p.fT.length<=5 by omega),aA k4,aY (by omega)];rfl
 simp only[List.map_cons,List.map_nil] at hu;refine W3 ?_;refine aZ hu ?_;refine W1 ?_;clear hu hix no k1 k2 k3 k4
 have fin:validPkg p=((((oo [p]&&p.dh.all dR)&&p.aQ.all fQ)&&p.cB.all fD)&&p.bX.all kg):=by unfold validPkg xD;rw[hh];simp[Bool.and_assoc]
 generalize oo [p]=b0 at fin ⊢
 refine aU (ι:=Nat×Bool) zmx rfl [1,3,56,57,58] (fun y=>[.c (.ptr (0,0) 0),.c (.d (.b y.2)),.c (.d (.sl (p.dh.map bf.enc))),.c (.d (.i .i64 p.dh.length)),.c (.d (.i .i64 y.1))]) (fun _=>[.box (p.enc.map .d)]::S)
  (fun y=>y.1<=p.dh.length/\(y.2&&(p.dh.drop y.1).all dR)=(b0&&p.dh.all dR)) (fun y=>p.dh.length-y.1) (0,b0) rfl ?_ ⟨Nat.zero_le _,rfl⟩ ?_
 ·exact Z1
 rintro⟨i,b⟩ ⟨p1,p2⟩;simp only at p1 p2;refine W1 ?_;refine S0 (fun hb h=>?_) fun hb h=>?_
 ·have hi:i<p.dh.length:=by omega
  have hx:p.dh[i].sz<=bn (p.dh.map bf.enc):=dD (List.mem_map_of_mem (List.getElem_mem hi));rw[xE hi] at p2;refine W3 ?_;refine S0 (fun hb h=>?_) fun hb h=>?_
  ·have hb1:=h;rw[hb1,Bool.true_and] at p2;refine C2 (CU p.dh[i] (by omega)) ?_;exact bZ 1 (by decide) (i+1,dR p.dh[i]) (by simp only;omega) rfl rfl rfl rfl ⟨by simp only;omega,p2⟩
  ·have hb1:=h;rw[hb1,Bool.false_and] at p2;exact bZ 1 (by decide) (i+1,false) (by simp only;omega) rfl rfl rfl rfl ⟨by simp only;omega,p2⟩
 rw[List.drop_of_length_le (by omega),List.all_nil,Bool.and_true] at p2;rw[<-p2] at fin;clear p2 p1 hb h;generalize b=b1 at fin ⊢
 refine aU (ι:=Nat×Bool) zmx rfl [1,3,69,70,71] (fun y=>[.c (.ptr (0,0) 0),.c (.d (.b y.2)),.c (.d (.sl (p.aQ.map aP.enc))),.c (.d (.i .i64 p.aQ.length)),.c (.d (.i .i64 y.1))]) (fun _=>[.box (p.enc.map .d)]::S)
  (fun y=>y.1<=p.aQ.length/\(y.2&&(p.aQ.drop y.1).all fQ)=(b1&&p.aQ.all fQ)) (fun y=>p.aQ.length-y.1) (0,b1) rfl ?_ ⟨Nat.zero_le _,rfl⟩ ?_
 ·exact Z1
 rintro⟨i,b⟩ ⟨p1,p2⟩;simp only at p1 p2;refine W1 ?_;refine S0 (fun hb h=>?_) fun hb h=>?_
 ·have hi:i<p.aQ.length:=by omega
  have hx:p.aQ[i].sz<=bn (p.aQ.map aP.enc):=dD (List.mem_map_of_mem (List.getElem_mem hi));rw[xE hi] at p2;refine W3 ?_;refine S0 (fun hb h=>?_) fun hb h=>?_
  ·have hb1:=h;rw[hb1,Bool.true_and] at p2;refine C2 (Em p.aQ[i] (by omega)) ?_;exact bZ 1 (by decide) (i+1,fQ p.aQ[i]) (by simp only;omega) rfl rfl rfl rfl ⟨by simp only;omega,p2⟩
  ·have hb1:=h;rw[hb1,Bool.false_and] at p2;exact bZ 1 (by decide) (i+1,false) (by simp only;omega) rfl rfl rfl rfl ⟨by simp only;omega,p2⟩
 rw[List.drop_of_length_le (by omega),List.all_nil,Bool.and_true] at p2;rw[<-p2] at fin;clear p2 p1 hb h;generalize b=b2 at fin ⊢
 refine aU (ι:=Nat×Bool) zmx rfl [1,3,82,83,84] (fun y=>[.c (.ptr (0,0) 0),.c (.d (.b y.2)),.c (.d (.sl (p.cB.map aM.enc))),.c (.d (.i .i64 p.cB.length)),.c (.d (.i .i64 y.1))]) (fun _=>[.box (p.enc.map .d)]::S)
  (fun y=>y.1<=p.cB.length/\(y.2&&(p.cB.drop y.1).all fD)=(b2&&p.cB.all fD)) (fun y=>p.cB.length-y.1) (0,b2) rfl ?_ ⟨Nat.zero_le _,rfl⟩ ?_
 ·exact Z1
 rintro⟨i,b⟩ ⟨p1,p2⟩;simp only at p1 p2;refine W1 ?_;refine S0 (fun hb h=>?_) fun hb h=>?_
 ·have hi:i<p.cB.length:=by omega
  have hx:p.cB[i].sz<=bn (p.cB.map aM.enc):=dD (List.mem_map_of_mem (List.getElem_mem hi));rw[xE hi] at p2;refine W3 ?_;refine S0 (fun hb h=>?_) fun hb h=>?_
  ·have hb1:=h;rw[hb1,Bool.true_and] at p2;refine C2 (EA p.cB[i] (by omega)) ?_;exact bZ 1 (by decide) (i+1,fD p.cB[i]) (by simp only;omega) rfl rfl rfl rfl ⟨by simp only;omega,p2⟩
  ·have hb1:=h;rw[hb1,Bool.false_and] at p2;exact bZ 1 (by decide) (i+1,false) (by simp only;omega) rfl rfl rfl rfl ⟨by simp only;omega,p2⟩
 rw[List.drop_of_length_le (by omega),List.all_nil,Bool.and_true] at p2;rw[<-p2] at fin;clear p2 p1 hb h;generalize b=b3 at fin ⊢
 refine aU (ι:=Nat×Bool) zmx rfl [3,95,96,97] (fun y=>[.c (.d (.b y.2)),.c (.d (.sl (p.bX.map aS.enc))),.c (.d (.i .i64 p.bX.length)),.c (.d (.i .i64 y.1))]) (fun _=>[.box (p.enc.map .d)]::S)
  (fun y=>y.1<=p.bX.length/\(y.2&&(p.bX.drop y.1).all kg)=(b3&&p.bX.all kg)) (fun y=>p.bX.length-y.1) (0,b3) rfl ?_ ⟨Nat.zero_le _,rfl⟩ ?_
 ·exact Z1
 rintro⟨i,b⟩ ⟨p1,p2⟩;simp only at p1 p2;refine W1 ?_;refine S0 (fun hb h=>?_) fun hb h=>?_
 ·have hi:i<p.bX.length:=by omega
  have hx:p.bX[i].sz<=bn (p.bX.map aS.enc):=dD (List.mem_map_of_mem (List.getElem_mem hi));rw[xE hi] at p2;refine W3 ?_;refine S0 (fun hb h=>?_) fun hb h=>?_
  ·have hb1:=h;rw[hb1,Bool.true_and] at p2;refine C2 (GH p.bX[i] (by omega)) ?_;exact bZ 1 (by decide) (i+1,kg p.bX[i]) (by simp only;omega) rfl rfl rfl rfl ⟨by simp only;omega,p2⟩
  ·have hb1:=h;rw[hb1,Bool.false_and] at p2;exact bZ 1 (by decide) (i+1,false) (by simp only;omega) rfl rfl rfl rfl ⟨by simp only;omega,p2⟩
 rw[List.drop_of_length_le (by omega),List.all_nil,Bool.and_true] at p2;rw[<-p2] at fin;clear p2 p1 hb h;exact ay fin.symm
theorem Zv(p:aW)(hsz:p.sz<=4194304):aH prog 152 [p.v] (.c (.d (.b (xD p)))):=fun S=>by
 have hs:=aW.sum p;refine aD (rs:=[.tmp 2]) zmx func152 ntmps152 rfl rfl rfl rfl rfl ?_;refine W1 ?_
 refine aU (ι:=Nat) zmx rfl [1,3] (fun i=>[.c (.ptr (0,0) 0),.c (.d (.i .i64 i))]) (fun _=>[.box (p.enc.map .d)]::S)
  (fun i=>i<=p.dh.length/\(p.dh.drop i).all dR=p.dh.all dR) (fun i=>p.dh.length-i) 0 rfl ?_ ⟨Nat.zero_le _,rfl⟩ ?_
 ·exact Z1
 rintro i ⟨p1,p2⟩;refine W1 ?_;refine S0 (fun hb h=>?_) fun hb h=>?_
 ·have hi:i<p.dh.length:=by omega
  have hx:p.dh[i].sz<=bn (p.dh.map bf.enc):=dD (List.mem_map_of_mem (List.getElem_mem hi));rw[xE hi] at p2;refine W3 ?_;refine C2 (rG p.dh[i] (by omega)) ?_;refine S0 (fun hb h=>?_) fun hb h=>?_
  ·exact ay (by unfold xD;rw[<-p2,h];simp)
  ·rw[h,Bool.true_and] at p2;exact bJ (i+1) (by omega) rfl rfl ⟨by omega,p2⟩
 rw[List.drop_of_length_le (by omega),List.all_nil] at p2;have f3:=p2.symm;clear p2 p1 hb h
 refine aU (ι:=Nat) zmx rfl [1,4] (fun i=>[.c (.ptr (0,0) 0),.c (.d (.i .i64 i))]) (fun _=>[.box (p.enc.map .d)]::S)
  (fun i=>i<=p.aQ.length/\(p.aQ.drop i).all fQ=p.aQ.all fQ) (fun i=>p.aQ.length-i) 0 rfl ?_ ⟨Nat.zero_le _,rfl⟩ ?_
 ·exact Z1
 rintro i ⟨p1,p2⟩;refine W1 ?_;refine S0 (fun hb h=>?_) fun hb h=>?_
 ·have hi:i<p.aQ.length:=by omega
  have hx:p.aQ[i].sz<=bn (p.aQ.map aP.enc):=dD (List.mem_map_of_mem (List.getElem_mem hi));rw[xE hi] at p2;refine W3 ?_;refine C2 (El p.aQ[i] (by omega)) ?_;refine S0 (fun hb h=>?_) fun hb h=>?_
  ·exact ay (by unfold xD;rw[<-p2,h];simp)
  ·rw[h,Bool.true_and] at p2;exact bJ (i+1) (by omega) rfl rfl ⟨by omega,p2⟩
 rw[List.drop_of_length_le (by omega),List.all_nil] at p2;have f4:=p2.symm;clear p2 p1 hb h
 refine aU (ι:=Nat) zmx rfl [1,5] (fun i=>[.c (.ptr (0,0) 0),.c (.d (.i .i64 i))]) (fun _=>[.box (p.enc.map .d)]::S)
  (fun i=>i<=p.cB.length/\(p.cB.drop i).all fD=p.cB.all fD) (fun i=>p.cB.length-i) 0 rfl ?_ ⟨Nat.zero_le _,rfl⟩ ?_
 ·exact Z1
 rintro i ⟨p1,p2⟩;refine W1 ?_;refine S0 (fun hb h=>?_) fun hb h=>?_
 ·have hi:i<p.cB.length:=by omega
  have hx:p.cB[i].sz<=bn (p.cB.map aM.enc):=dD (List.mem_map_of_mem (List.getElem_mem hi));rw[xE hi] at p2;refine W3 ?_;refine C2 (p9 p.cB[i] (by omega)) ?_;refine S0 (fun hb h=>?_) fun hb h=>?_
  ·exact ay (by unfold xD;rw[<-p2,h];simp)
  ·rw[h,Bool.true_and] at p2;exact bJ (i+1) (by omega) rfl rfl ⟨by omega,p2⟩
 rw[List.drop_of_length_le (by omega),List.all_nil] at p2;have f5:=p2.symm;clear p2 p1 hb h
 refine aU (ι:=Nat) zmx rfl [1,6] (fun i=>[.c (.ptr (0,0) 0),.c (.d (.i .i64 i))]) (fun _=>[.box (p.enc.map .d)]::S)
  (fun i=>i<=p.bX.length/\(p.bX.drop i).all kg=p.bX.all kg) (fun i=>p.bX.length-i) 0 rfl ?_ ⟨Nat.zero_le _,rfl⟩ ?_
 ·exact Z1
 rintro i ⟨p1,p2⟩;refine W1 ?_;refine S0 (fun hb h=>?_) fun hb h=>?_
 ·have hi:i<p.bX.length:=by omega
  have hx:p.bX[i].sz<=bn (p.bX.map aS.enc):=dD (List.mem_map_of_mem (List.getElem_mem hi));rw[xE hi] at p2;refine W3 ?_;refine C2 (AR p.bX[i] (by omega)) ?_;refine S0 (fun hb h=>?_) fun hb h=>?_
  ·exact ay (by unfold xD;rw[<-p2,h];simp)
  ·rw[h,Bool.true_and] at p2;exact bJ (i+1) (by omega) rfl rfl ⟨by omega,p2⟩
 rw[List.drop_of_length_le (by omega),List.all_nil] at p2;have f6:=p2.symm;clear p2 p1 hb h;exact ay (by unfold xD;rw[f3,f4,f5,f6];rfl)
def ajp:List UInt8:=[112,97,99,107,97,103,101]
def isK(s:List UInt8)(y:aj):Bool:=decide (dJ y.ah 0=s)
noncomputable def IE(l:List aj):List bf:=(l.filter (isK j5)).map vF
noncomputable def IG(l:List aj):List aP:=(l.filter (isK oG)).map rV
noncomputable def II(l:List aj):List aM:=(l.filter (isK kY)).map rE
noncomputable def IJ(l:List aj):List aS:=(l.filter (isK xQ)).map vM
noncomputable def jJ(y:aj):Bool:=if isK j5 y=true then xY y else if isK oG y=true then okD y else if isK kY y=true then zx y else if isK xQ y=true then okF y else false
noncomputable def decP(x:aj):aW:=⟨dJ x.ah 1,oU x.ah 2,IE (x.ah.drop 3),IG (x.ah.drop 3),II (x.ah.drop 3),IJ (x.ah.drop 3)⟩
noncomputable def UK(x:aj):Prop:=fM x=true/\3<=x.ah.length/\dJ x.ah 0=ajp/\(gX x.ah 2).aO=[]/\(gX x.ah 2).ah.all (fun y=>decide (y.aO≠[]))=true
noncomputable def CV(x:aj):Bool:=dec (UK x/\(∀y∈x.ah.drop 3,jJ y=true)/\validPkg (decP x)=true)
def Dm:aW:=⟨[],[],[],[],[],[]⟩
noncomputable def Jd(x:aj):aW:=if CV x=true then decP x else Dm
theorem af9{x:aj}(h:CV x=false):Jd x=Dm:=if_neg (by rw[h];decide)
theorem aap{x:aj}(h:CV x=true):Jd x=decP x:=if_pos h
theorem nR{s s':List UInt8}{y:aj}(h:isK s y=true)(hs:s≠s'):isK s' y=false:=by
 unfold isK at *
 rw[decide_eq_true_eq] at h;rw[h];exact decide_eq_false hs
theorem EB{α:Type}(s:List UInt8)(f:aj->α){l:List aj}{i:Nat}(hi:i<l.length):((l.take (i+1)).filter (isK s)).map f=((l.take i).filter (isK s)).map f++if isK s l[i]=true then [f l[i]] else []:=by
 rw[List.take_succ_eq_append_getElem hi,List.filter_append,List.map_append];congr 1;by_cases h:isK s l[i]=true
 ·rw[if_pos h,List.filter_cons,if_pos h];rfl
 ·rw[if_neg h,List.filter_cons,if_neg h];rfl
theorem aaq{α:Type}(s:List UInt8)(f:aj->α)(l:List aj)(i:Nat):(((l.take i).filter (isK s)).map f).length<=i:=by
 rw[List.length_map];exact Nat.le_trans (List.length_filter_le _ _) (List.length_take_le _ _)
theorem aar(y:aj):(vF y).sz<=y.sz:=by
 unfold vF;split
 ·exact Ns true y
 ·simp[KN,bf.sz,bf.aB,bT,D.sz,bn]
theorem aga(y:aj):(rV y).sz<=y.sz:=by
 unfold rV;split
 ·exact Rf true y
 ·simp[aP.sz,aP.aB,bT,D.sz,bn]
theorem agb(y:aj):(rE y).sz<=y.sz:=by
 unfold rE;split
 ·exact Rq true y
 ·have:Lx.sz=0:=by simp[Lx,jf,aM.sz,aM.aB,ak.aB,ak.aJ,ak.fName,ak.fArgs,bT,D.sz,bn]
  omega
theorem agc(y:aj):(vM y).sz<=y.sz:=by
 unfold vM;split
 ·exact Ro true y
 ·have:Lv.sz=0:=by simp[Lv,jf,l9,aS.sz,aS.aB,ak.aB,ak.aJ,ak.fName,ak.fArgs,au.aB,bT,D.sz,bn,au.aJ,au.bD,au.fName,au.fN,au.fType,au.fArgs,au.aR]
  omega
theorem Ag{α:Type}(s:List UInt8)(f:aj->α)(e:α->List D)(h:∀y,bT (e (f y))<=y.sz):∀l:List aj,bn (((l.filter (isK s)).map f).map e)<=dA l/\((l.filter (isK s)).map f).length<=l.length
 |[]=>⟨Nat.le_refl _,Nat.le_refl _⟩
 |y::l=>by
  obtain⟨h1,h2⟩:=Ag s f e h l;rw[List.filter_cons];split
  ·have:=h y;rw[List.map_cons,List.map_cons,bn,dA,List.length_cons,List.length_cons];omega
  ·rw[dA,List.length_cons];omega
theorem aas{x:aj}(h:x.sz<=500000):(decP x).sz<=4194304:=by
 have h1:=Xe x.ah 3;have h2:=eG x
 have h3:(x.ah.drop 3).length<=x.ah.length:=by rw[List.length_drop];omega
 have h4:=rU (gX x.ah 2).ah;have h5:(gX x.ah 2).sz<=dA x.ah:=xu x.ah 2;have h5':=qO (gX x.ah 2);have h6:(dJ x.ah 1).length<=dA x.ah:=Nat.le_trans (AQ _) (xu x.ah 1);have t1:=Ag j5 vF bf.enc aar (x.ah.drop 3);have t2:=Ag oG rV aP.enc aga (x.ah.drop 3);have t3:=Ag kY rE aM.enc agb (x.ah.drop 3);have t4:=Ag xQ vM aS.enc agc (x.ah.drop 3);have t5:=eG (gX x.ah 2)
 simp only[aW.sz,aW.aB,bT,bL,D.sz,List.length_map,decP,IE,IG,II,IJ,oU,dK] at *
 omega
theorem Rv(x:aj)(i:Nat){m:Nat}(h:x.sz<=m):(x.ah.getD i cu).sz<=m:=by
 have:=xu x.ah i;have:=eG x;omega
theorem Tv{b:Bool}{l:List aj}{i:Nat}(hi:i<l.length):((l.take i).map (xk b)).map aK.enc++[[.s (l[i].ah.getD 0 cu).aO,.sl (((l[i].ah.drop 1).map (dO b)).map ak.enc)]]=((l.take (i+1)).map (xk b)).map aK.enc:=by
 rw[List.take_succ_eq_append_getElem hi,List.map_append,List.map_append];simp only[List.map_cons,List.map_nil,aK.aB];rfl
theorem alT{x:aj}(h:okD x=true):(rV x).fName=(kJ false x).fName/\(rV x).aG=(kJ false x).aG/\(rV x).aF=(kJ false x).aF:=by
 unfold rV;rw[if_pos h,<-aiW h];exact⟨rfl,rfl,rfl⟩
theorem agd{x:aj}(h:okD x=false):rV x=⟨[],[],[]⟩:=by
 unfold rV;rw[if_neg (by rw[h];decide)]
theorem alU{x:aj}(h:okD x=true):rV x=kJ true x:=if_pos h
theorem anI{x:aj}(h:x.ah.length=0):okD x=false:=aA fun h1=>by omega
theorem ajq(ok:Bool):Less (.dQ [(true,[.d (.s []),.bG [],.bG []]),(false,[.d (.b ok)])]) (.dQ [(true,[.d (.s []),.d (.sl []),.d (.sl [])]),(false,[.d (.b ok)])]):=
 (iZ.cons (.cons (.refl _) (.cons (fB _) (.cons (fB _) .nil))) (.refl _)).less
theorem adl(n:Nat)(ok:Bool):Less (.dQ [(true,[.d (.s []),.bG [],.bG []]),(false,[.d (.b ok)])]) (.dQ [(true,[.d (.s []),.d (.ol n []),.d (.ol (n+1) [])]),(false,[.d (.b ok)])]):=
 (iZ.cons (.cons (.refl _) (.cons (dV _) (.cons (dV _) .nil))) (.refl _)).less
def lc(l:List aK)(n:Nat):List (List D):=dZ (l.map aK.enc) n
def UL(l:List aK):Nat:=kD (l.map aK.enc)
theorem alV(x:aK)(n:Nat):eZ x.enc n=[.s x.fName,.ol n (lt x.gu (n+1))]:=by
 rw[aK.aB];simp only[eZ,og,pX,Nat.add_zero,lt]
theorem alW(x:aP)(n:Nat):eZ x.enc n=[.s x.fName,.ol n (x.aG.map encS),.ol (n+1) (lc x.aF (n+1+1))]:=by
 rw[aP.aB];simp only[eZ,og,pX,Nat.add_zero,vB,xw,Nat.zero_add,lc]
theorem anJ(l:List ak)(n:Nat):Ko (.ol n (lt l (n+1))) (.sl (l.map ak.enc)):=Z6 (.sl (l.map ak.enc)) n
theorem alX{l:List aK}{i:Nat}(hi:i<l.length)(n:Nat):lc (l.take i) n++[[.s l[i].fName,.ol (n+UL (l.take i)) (lt l[i].gu (n+UL (l.take i)+1))]]=lc (l.take (i+1)) n:=by
 rw[List.take_succ_eq_append_getElem hi];unfold lc UL;rw[List.map_append,qJ];simp only[List.map_cons,List.map_nil,dZ,alV]
theorem Rw(x:aj)(hsz:x.sz<=1048576):aH prog 144 [x.v] (.dQ [(true,[.d (.s (rV x).fName),.d (.sl ((rV x).aG.map encS)),.d (.sl ((rV x).aF.map aK.enc))]),(false,[.d (.b (okD x))])]):=aH.of_le fun S=>by
 have h1:=eG x;have hds:=Rf false x;have hos:=alu (d:=kJ false x) (by omega);obtain⟨l,hl⟩:∃l,l=x.ah.drop 3:=⟨_,rfl⟩
 have hll:l.length<=1048576:=by rw[hl,List.length_drop];omega
 have hlm:∀y∈l,y.sz<=1048576:=fun y hy=>by
  have:=iO (List.mem_of_mem_drop (hl▸hy));omega
 obtain⟨T,hT⟩:∃T:Nat->List (List D),T=fun i=>((l.take i).map (xk false)).map aK.enc:=⟨_,rfl⟩
 have hT0:T 0=[]:=by rw[hT];rfl
 have iG:∀i,(T i).length<=i:=fun i=>by rw[hT];simp only[List.length_map];exact List.length_take_le _ _
 have hTs:∀i (hi:i<l.length),T i++[[.s (l[i].ah.getD 0 cu).aO,.sl (((l[i].ah.drop 1).map (dO false)).map ak.enc)]]=T (i+1):=fun i hi=>by rw[hT];exact Tv hi
 have hTe:T l.length=((kJ false x).aF).map aK.enc:=by
  rw[hT];simp only
  rw[List.take_length,hl];rfl
 clear hT;refine aD (rs:=[.cell 2 111,.tmp 3]) zmx func144 ntmps144 rfl rfl rfl rfl rfl ?_;refine W1 ?_;refine C1 (fH x 1 (by omega) (by omega)) ?_;refine C1 (fH x 2 (by omega) (by omega)) ?_;refine C1 (sI _ (Rv x 2 (by omega))) ?_;refine W3 ?_;refine C1 (yC x 3 (by omega)) ?_;rw[<-hl];refine qK 2 2 2 _ rfl rfl ?_
 refine aU (ι:=Nat) zmx rfl [1,2,4,5,6] (fun i=>[.c (.ptr (0,0) 0),.c (.ptr (0,1) 0),.c (.ptr (0,2) 0),.c (.d (.sl (l.map aj.enc))),.c (.d (.i .i64 i))])
  (fun i=>[.box [.d (.s x.aO),.d (.sl (x.ah.map aj.enc))],.box [.d (.s []),.bG [],.bG []],.box [.d (.s (kJ false x).fName),.d (.sl ((kJ false x).aG.map encS)),.bN (0,3) (T i)],.tok 2 (T i)]::S)
  (fun i=>i<=l.length) (fun i=>l.length-i) 0 rfl (by rw[hT0];rfl) (Nat.zero_le _) ?_
 intro i hi;have hl':=iG i;refine W1 ?_;refine S0 (fun hb h=>?_) fun hb h=>?_
 ·have hi':i<l.length:=by omega
  have hm:=List.getElem_mem hi';have hs:=hTs i hi';have hz:=hlm _ hm;have hz1:=eG l[i];refine W3 ?_;refine C1 (fH l[i] 0 (by omega) (by omega)) ?_;refine W3 ?_;refine C1 (yC l[i] 1 (by omega)) ?_;refine C1 (Jb (l[i].ah.drop 1) (by rw[List.length_drop];omega) (fun t ht=>by have:=iO (List.mem_of_mem_drop ht);omega)) ?_;refine W3 ?_;rw[hs];exact bZ 4 (by decide) (i+1) (by omega) rfl rfl rfl rfl (by omega)
 ·have hi':i=l.length:=by omega
  subst hi';rw[hTe];clear hTs;refine C1 (oW x (by omega)) ?_
  have fV:okD x=false->Less (.dQ [(true,[.d (.s []),.bG [],.bG []]),(false,[.d (.b false)])]) (.dQ [(true,[.d (.s (rV x).fName),.d (.sl ((rV x).aG.map encS)),.d (.sl ((rV x).aF.map aK.enc))]),(false,[.d (.b (okD x))])]):=fun e=>by
   rw[agd e,e];exact ajq false
  refine S0 (fun hb h=>?_) fun hb h=>?_
  ·exact fV (aA fun e=>by rw[e.1] at h;cases h)
  have hv:=h;refine S0 (fun hb h=>?_) fun hb h=>?_
  ·exact fV (anI (by omega))
  have hne:x.ah≠[]:=fun e=>by rw[e] at h;exact h rfl
  have hok:=aiV hne;rw[hv,Bool.true_and] at hok;refine W3 ?_;refine C1 (Y8 (kJ false x) (by omega)) ?_;refine C1 (uo (Xb (kJ false x)) x (by omega)) ?_;refine S0 (fun hb h=>?_) fun hb h=>?_
  ·exact fV (by rw[hok];exact aA h)
  ·have hy:okD x=true:=by rw[hok];exact aY h
   obtain⟨e1,e2,e3⟩:=alT hy;rw[e1,e2,e3,hy];exact gL _
theorem Qk(x:aj)(n:Nat)(hsz:x.sz<=1048576):aH prog 154 [x.v] (.dQ [(true,[.d (.s (rV x).fName),.d (.ol n ((rV x).aG.map encS)),.d (.ol (n+1) (lc (rV x).aF (n+1+1)))]),(false,[.d (.b (okD x))])]):=aH.of_le fun S=>by
 have h1:=eG x;have hds:=Rf true x;obtain⟨l,hl⟩:∃l,l=x.ah.drop 3:=⟨_,rfl⟩
 have hll:l.length<=1048576:=by rw[hl,List.length_drop];omega
 have hlm:∀y∈l,y.sz<=1048576:=fun y hy=>by
  have:=iO (List.mem_of_mem_drop (hl▸hy));omega
 have fV:okD x=false->Less (.dQ [(true,[.d (.s []),.bG [],.bG []]),(false,[.d (.b false)])]) (.dQ [(true,[.d (.s (rV x).fName),.d (.ol n ((rV x).aG.map encS)),.d (.ol (n+1) (lc (rV x).aF (n+1+1)))]),(false,[.d (.b (okD x))])]):=fun e=>by
  rw[agd e,e];exact adl n false
 refine lN (n) (rs:=[.cell 2 111,.tmp 3]) zmx func154 ntmps154 rfl rfl rfl rfl rfl ?_;refine W1 ?_;refine C1 (vD x oG 3 (by omega) (by omega) (by omega)) ?_;refine S0 (fun hb h=>?_) fun hb h=>?_
 ·exact fV (aA fun e=>h ⟨e.1,e.2.1,e.2.2.1⟩)
 have hf:=h;have hlen:3<=x.ah.length:=hf.2.1;have hr:=gV (l:=x.ah);have a1:=jH (l:=x.ah) (i:=1) (by omega)
 have g2:(x.ah.getD 2 cu)=x.ah[2]:=by rw[List.getD_eq_getElem?_getD,List.getElem?_eq_getElem (by omega)];rfl
 have z2:=Rv x 2 hsz;rw[g2] at z2
 have hvars:(kJ true x).aG=eU x.ah[2].ah:=by rw[<-g2];rfl
 have hname:(kJ true x).fName=x.ah[1].aO:=a1;have I7:=sZ hf.1;have hsl:=afq (kJ true x);obtain⟨L,hL⟩:∃L:Nat->Nat,L=fun i=>n+1+1+UL ((l.map (xk true)).take i):=⟨_,rfl⟩;obtain⟨T,hT⟩:∃T:Nat->List (List D),T=fun i=>lc ((l.map (xk true)).take i) (n+1+1):=⟨_,rfl⟩;obtain⟨P,hP⟩:∃P:Nat->List (List D),P=fun i=>((l.take i).map (xk true)).map aK.enc:=⟨_,rfl⟩
 have hT0:T 0=[]:=by rw[hT];rfl
 have Vr:P 0=[]:=by rw[hP];rfl
 have hPl:∀i,(P i).length<=i:=fun i=>by rw[hP];simp only[List.length_map];exact List.length_take_le _ _
 have hPr:∀i,∀r∈P i,r.length=2:=fun i=>by
  rw[hP];intro r hr;obtain⟨z,_,rfl⟩:=List.mem_map.1 hr;exact z.cO
 have hTs:∀i (hi:i<l.length),T i++[[.s (xk true l[i]).fName,.ol (L i) (lt (xk true l[i]).gu (L i+1))]]=T (i+1):=fun i hi=>by
  have:=alX (l:=l.map (xk true)) (i:=i) (by rw[List.length_map];exact hi) (n+1+1);rw[List.getElem_map] at this;rw[hT,hL];exact this
 have hPs:∀i (hi:i<l.length),P i++[[.s (l[i].ah.getD 0 cu).aO,.sl (((l[i].ah.drop 1).map (dO true)).map ak.enc)]]=P (i+1):=fun i hi=>by rw[hP];exact Tv hi
 have hTe:T l.length=lc (kJ true x).aF (n+1+1):=by
  rw[hT];simp only
  rw[List.take_of_length_le (by simp),hl];rfl
 have hPe:P l.length=(kJ true x).aF.map aK.enc:=by
  rw[hP];simp only
  rw[List.take_length,hl];rfl
 clear hT hP hL;refine C1 (q8 x.ah[2] (by omega) n) ?_;refine⟨⟨by omega,by omega,hr⟩,?_⟩;rw[oZ _ _ _ (Nat.le_refl _),<-hl,<-hvars,<-hname];refine W1 ?_;refine qo (n+1) 3 2 2 _ rfl rfl ?_
 refine aU (ι:=Nat×List (List D)) zmx rfl [1,2,4,25,26,27] (fun y=>[.c (.ptr (0,1) 0),.c (.ptr (0,2) 0),.c (.ptr (0,3) 0),.c (.d (.sl (l.map aj.enc))),.c (.d (.i .i64 l.length)),.c (.d (.i .i64 y.1))])
  (fun y=>[.seed n,.box [.d (.s x.aO),.d (.sl (x.ah.map aj.enc))],.box [.d (.s []),.bG [],.bG []],.box [.d (.s (kJ true x).fName),.d (.ol n ((kJ true x).aG.map encS)),.bN (0,4) y.2],.fu (n+1) 2 y.2]::S)
  (fun y=>y.1<=l.length/\iN y.2 (P y.1)/\((∀j,∀hj:j<l.length,j<y.1->l[j].ah≠[])->y.2=T y.1)) (fun y=>l.length-y.1) (0,[]) rfl rfl ⟨Nat.zero_le _,by rw[Vr];exact .nil,fun _=>hT0.symm⟩ ?_
 rintro⟨i,U⟩ ⟨p1,p2,p3⟩;simp only at p1 p2 p3;have hU1:=p2.length;have hU2:=hPl i;have hU3:=p2.rows (hPr i);refine W1 ?_;refine S0 (fun hb h=>?_) fun hb h=>?_
 ·have hi':i<l.length:=by omega
  have hm:=List.getElem_mem hi';have hs:=hTs i hi';have hps:=hPs i hi';have hz:=hlm _ hm;have hz1:=eG l[i];have hry:=gV (l:=l[i].ah);refine W3 ?_;refine S0 (fun hb h=>?_) fun hb h=>?_
  ·have hpos:0<l[i].ah.length:=by omega
   refine W3 ?_;refine⟨⟨by omega,by omega,hry⟩,?_⟩;rw[oZ _ _ _ (Nat.le_refl _)];refine C1 (Gz (l[i].ah.drop 1) (L i) (L i+1) (by rw[List.length_drop];omega) (fun t ht=>by have:=iO (List.mem_of_mem_drop ht);omega)) ?_;refine W3 ?_
   have g0:l[i].ah.getD 0 cu=l[i].ah[0]:=by rw[List.getD_eq_getElem?_getD,List.getElem?_eq_getElem hpos];rfl
   rw[g0] at hps;have hcn:(xk true l[i]).fName=l[i].ah[0].aO:=jH hpos;rw[hcn] at hs;refine bZ 5 (by decide) (i+1,_) (by simp only;omega) rfl rfl rfl rfl ⟨by simp only;omega,?_,fun hg=> ?_⟩
   ·simp only
    rw[<-hps];exact p2.snoc (.cons (.refl _) (.cons (anJ _ _) .nil))
   ·simp only
    rw[p3 fun j hj hji=>hg j hj (by simp only;omega),<-hs];rfl
  ·have hnil:l[i].ah=[]:=List.eq_nil_of_length_eq_zero (by omega)
   have g0:l[i].ah.getD 0 cu=cu:=by rw[hnil];rfl
   rw[g0,hnil] at hps;refine bZ 5 (by decide) (i+1,_) (by simp only;omega) rfl rfl rfl rfl ⟨by simp only;omega,?_,fun hg=> ?_⟩
   ·simp only
    rw[<-hps];exact p2.snoc (.refl _)
   ·exact absurd hnil (hg i hi' (by simp only;omega))
 ·have hi':i=l.length:=by omega
  subst hi';clear hTs hPs;rw[hPe] at p2;refine oD (Em (kJ true x) (by omega)) (.cons (fG.less (.cons (.refl _) (.cons (Gp _ _) (.cons (PO p2) .nil)))) .nil) ?_;refine W1 ?_;refine S0 (fun hb h=>?_) fun hb h=>?_
  ·exact fV (aA fun e=>by rw[e.2.2.2.1] at h;cases h)
  have hv:=h;refine W3 ?_;refine oD (aH.less (PD (kJ true x) 0 hv (by omega)) (Lm (En (kJ true x)) 0)) (.cons (fG.less (.cons (.refl _) (.cons (Gp _ _) (.cons (PO p2) .nil)))) .nil) ?_;refine W1 ?_;refine C1 (uq (En (kJ true x)) x (by omega)) ?_;refine S0 (fun hb h=>?_) fun hb h=>?_
  ·exact fV (aA fun e=>h e.2.2.2.2)
  ·have hy:okD x=true:=aY ⟨hf.1,hf.2.1,hf.2.2,hv,h⟩
   have hgood:U=T l.length:=p3 fun j hj _ e=>by
    have h3:=congrArg (fun z=>z.ah.drop 3) h;simp only[<-hl] at h3;have h4:(En (kJ true x)).ah.drop 3=(kJ true x).aF.map BZ:=rfl;rw[h4] at h3
    have h5:l[j]=BZ ((kJ true x).aF[j]'(by have:=congrArg List.length h3;rw[List.length_map] at this;omega)):=by
     simp only[<-h3,List.getElem_map]
    rw[h5] at e;simp[BZ,dH] at e
   rw[hgood,hTe,alU hy,hy];exact gL _
theorem jC{l:List aj}{i:Nat}(h:i<l.length):gX l i=l[i]:=by
 show l.getD i cu=_;rw[List.getD_eq_getElem?_getD,List.getElem?_eq_getElem h];rfl
def lB(l:List bq)(n:Nat):List (List D):=dZ (l.map bq.enc) n
def UM(l:List bq):Nat:=kD (l.map bq.enc)
def lPr(l:List bM)(n:Nat):List (List D):=dZ (l.map bM.enc) n
def aj9(l:List bM):Nat:=kD (l.map bM.enc)
theorem aat(x:bq)(n:Nat):eZ x.enc n=[.s x.bD,.i .i64 x.fType.aJ,.s x.fType.fName,.ol n (lt x.fType.fArgs (n+1))]:=by
 simp only[bq.aB,ak.aB,List.cons_append,List.nil_append,eZ,og,pX,Nat.add_zero,lt]
theorem XR(x:bM)(n:Nat):eZ x.enc n=[.s x.fName,.i .i64 x.fType.aJ,.s x.fType.fName,.ol n (lt x.fType.fArgs (n+1))]:=by
 simp only[bM.aB,ak.aB,List.cons_append,List.nil_append,eZ,og,pX,Nat.add_zero,lt]
theorem Bz{α:Type}{e:α->List D}{l:List α}{i:Nat}(hi:i<l.length)(n:Nat):dZ ((l.take i).map e) n++[eZ (e l[i]) (n+kD ((l.take i).map e))]=dZ ((l.take (i+1)).map e) n:=by
 rw[List.take_succ_eq_append_getElem hi,List.map_append,qJ];rfl
theorem Dn{α:Type}{e:α->List D}{l:List α}{i:Nat}(hi:i<l.length):(l.take i).map e++[e l[i]]=(l.take (i+1)).map e:=by
 rw[List.take_succ_eq_append_getElem hi,List.map_append];rfl
theorem aau{b:Bool}{y:aj}(h:b=false\/y.ah.length=2):(oI b y).bD=dJ y.ah 0/\(oI b y).fType=dO b (y.ah.getD 1 cu):=by
 unfold oI;rw[if_neg (by rintro⟨e1,e2⟩;rcases h with e|e;(rw[e] at e1;cases e1);exact e2 e)];exact⟨rfl,rfl⟩
theorem ajr{y:aj}(h:y.ah.length≠2):oI true y=⟨[],jf⟩:=if_pos ⟨rfl,h⟩
theorem Tw{b:Bool}{y:aj}(h:b=false\/y.ah.length=2):(oJ b y).fName=dJ y.ah 0/\(oJ b y).fType=dO b (y.ah.getD 1 cu):=by
 unfold oJ;rw[if_neg (by rintro⟨e1,e2⟩;rcases h with e|e;(rw[e] at e1;cases e1);exact e2 e)];exact⟨rfl,rfl⟩
theorem adn{y:aj}(h:y.ah.length≠2):oJ true y=⟨[],jf⟩:=if_pos ⟨rfl,h⟩
theorem Rx{x:aj}(h:iK x=true){i:Nat}(hi:i<x.ah.length):iK x.ah[i]=true:=xA (E8 h (fun e=>by rw[e] at hi;simp at hi)) (List.getElem_mem hi)
theorem xO(x:aj){i:Nat}(hi:i<x.ah.length):x.ah[i].sz<=x.sz:=by
 have:=iO (List.getElem_mem hi);have:=eG x;omega
abbrev aS.cl(x:aS)(n p q r:Nat):List C:=[.d (.s x.fName),.d (.ol n (x.aG.map encS)),.d (.ol (n+1) (lB x.bY (n+1+1))),.d (.ol p (lPr x.aV (p+1))),.d (.i .i64 x.bO.aJ),.d (.s x.bO.fName),.d (.ol q (lt x.bO.fArgs (q+1))),
 .d (.i .i64 x.fBody.aJ),.d (.s x.fBody.bD),.d (.s x.fBody.fName),.d (.i .i64 x.fBody.fN),.d (.i .i64 x.fBody.fType.aJ),.d (.s x.fBody.fType.fName),.d (.ol r (lt x.fBody.fType.fArgs (r+1))),
 .d (.ol (r+(gq x.fBody.fType.fArgs+1)) (lE x.fBody.fArgs (r+(gq x.fBody.fType.fArgs+1)+1))),.d (.ol (r+(gq x.fBody.fType.fArgs+1)+(lF x.fBody.fArgs+1)) (lM x.fBody.aR (r+(gq x.fBody.fType.fArgs+1)+(lF x.fBody.fArgs+1)+1)))]
abbrev aS.cv(x:aS):List C:=[.d (.s x.fName),.d (.sl (x.aG.map encS)),.d (.sl (x.bY.map bq.enc)),.d (.sl (x.aV.map bM.enc)),.d (.i .i64 x.bO.aJ),.d (.s x.bO.fName),.d (.sl (x.bO.fArgs.map ak.enc)),
 .d (.i .i64 x.fBody.aJ),.d (.s x.fBody.bD),.d (.s x.fBody.fName),.d (.i .i64 x.fBody.fN),.d (.i .i64 x.fBody.fType.aJ),.d (.s x.fBody.fType.fName),.d (.sl (x.fBody.fType.fArgs.map ak.enc)),.d (.sl (x.fBody.fArgs.map au.enc)),.d (.sl (x.fBody.aR.map aT.enc))]
def pF(x:aS)(n:Nat):Nat:=n+1+(UM x.bY+1)
def qF(x:aS)(n:Nat):Nat:=pF x n+(aj9 x.aV+1)
def rF(x:aS)(n:Nat):Nat:=qF x n+(gq x.bO.fArgs+1)
theorem al0(x:aS)(n:Nat):(eZ x.enc n).map C.d=x.cl n (pF x n) (qF x n) (rF x n):=by
 simp only[aS.aB,au.aB,ak.aB,List.cons_append,List.nil_append,eZ,og,pX,Nat.add_zero,lt,lE,lM,lB,lPr,gq,lF,UM,aj9,pF,qF,rF,vB,xw,Nat.zero_add,List.map_cons,List.map_nil];rfl
theorem agf{x:aj}(h:okF x=false):vM x=Lv:=if_neg (by rw[h];decide)
theorem aav{x:aj}(h:okF x=true):vM x=AU true x:=if_pos h
abbrev GJ:List C:=[.d (.s []),.bG [],.bG [],.bG [],.d (.i .i64 0),.d (.s []),.bG [],.d (.i .i64 0),.d (.s []),.d (.s []),.d (.i .i64 0),.d (.i .i64 0),.d (.s []),.bG [],.bG [],.bG []]
theorem ard(e:aS)(h:e=Lv)(ok:Bool):Less (.dQ [(true,GJ),(false,[.d (.b ok)])]) (.dQ [(true,e.cv),(false,[.d (.b ok)])]):=by
 rw[h];exact(iZ.cons (.cons (.refl _) (.cons (fB _) (.cons (fB _) (.cons (fB _) (.cons (.refl _) (.cons (.refl _) (.cons (fB _) (.cons (.refl _) (.cons (.refl _) (.cons (.refl _) (.cons (.refl _) (.cons (.refl _) (.cons (.refl _) (.cons (fB _) (.cons (fB _) (.cons (fB _) .nil)))))))))))))))) (.refl _)).less
theorem anM(e:aS)(h:e=Lv)(n p q r:Nat)(ok:Bool):Less (.dQ [(true,GJ),(false,[.d (.b ok)])]) (.dQ [(true,e.cl n p q r),(false,[.d (.b ok)])]):=by
 rw[h];exact(iZ.cons (.cons (.refl _) (.cons (dV _) (.cons (dV _) (.cons (dV _) (.cons (.refl _) (.cons (.refl _) (.cons (dV _) (.cons (.refl _) (.cons (.refl _) (.cons (.refl _) (.cons (.refl _) (.cons (.refl _) (.cons (.refl _) (.cons (dV _) (.cons (dV _) (.cons (dV _) .nil)))))))))))))))) (.refl _)).less
theorem Je(x:aj)(hsz:x.sz<=4194304):aH prog 209 [x.v] (.c (.d (.sl ((x.ah.map (oI false)).map bq.enc)))):=fun S=>by
 have h1:=eG x
 have hall:∀t∈x.ah,t.sz<=4194304:=fun t ht=>by have:=iO ht;omega
 have Dj:=fun(i:Nat) (hi:i<x.ah.length)=>Dn (e:=bq.enc) (l:=x.ah.map (oI false)) (i:=i) (by rw[List.length_map];exact hi);refine aD (rs:=[.tmp 2]) zmx func209 ntmps209 rfl rfl rfl rfl rfl ?_;refine W1 ?_;refine W3 ?_;refine nK 3 4 [] rfl (by simp) ?_
 refine aU (ι:=Nat) zmx rfl [1,3,4] (fun i=>[.c (.ptr (0,0) 0),.c (.bN (0,1) (((x.ah.map (oI false)).take i).map bq.enc)),.c (.d (.i .i64 i))]) (fun i=>[.box [.d (.s x.aO),.d (.sl (x.ah.map aj.enc))],.tok 4 (((x.ah.map (oI false)).take i).map bq.enc)]::S)
  (fun i=>i<=x.ah.length) (fun i=>x.ah.length-i) 0 rfl rfl (Nat.zero_le _) ?_
 intro i hi
 have hl:(((x.ah.map (oI false)).take i).map bq.enc).length<=i:=by rw[List.length_map];exact List.length_take_le _ _
 refine W1 ?_;refine S0 (fun hb h=>?_) fun hb h=>?_
 ·have hi':i<x.ah.length:=by omega
  have hz:=hall _ (List.getElem_mem hi');have hs:=Dj i hi';have hb:=aau (b:=false) (y:=x.ah[i]) (.inl rfl);rw[List.getElem_map] at hs;simp only[bq.aB,ak.aB,List.cons_append,List.nil_append,hb.1,hb.2] at hs;refine W3 ?_;refine C1 (fH x.ah[i] 0 hz (by omega)) ?_;refine W3 ?_;refine C1 (fH x.ah[i] 1 hz (by omega)) ?_;refine C1 (qN (x.ah[i].ah.getD 1 cu) (vE _ 1 hz)) ?_;refine W3 ?_;show _;rw[show(x.ah[i].ah.getD 0 cu).aO=dJ x.ah[i].ah 0 from rfl,hs];exact bJ (i+1) (by omega) rfl rfl (by omega)
 ·have hi':i=(x.ah.map (oI false)).length:=by rw[List.length_map];omega
  rw[hi',List.take_length]
theorem Jf(x:aj)(n q:Nat)(hsz:x.sz<=4194304):aH prog 221 [x.v] (.c (.d (.ol n (lB (x.ah.map (oI true)) q)))):=aH.of_le fun S=>by
 have h1:=eG x
 have hall:∀t∈x.ah,t.sz<=4194304:=fun t ht=>by have:=iO ht;omega
 obtain⟨L,hL⟩:∃L:Nat->Nat,L=fun i=>q+kD (((x.ah.map (oI true)).take i).map bq.enc):=⟨_,rfl⟩;obtain⟨T,hT⟩:∃T:Nat->List (List D),T=fun i=>dZ (((x.ah.map (oI true)).take i).map bq.enc) q:=⟨_,rfl⟩
 have hT0:T 0=[]:=by rw[hT];rfl
 have iG:∀i,(T i).length<=i:=fun i=>by rw[hT];simp only[kI,List.length_map];exact List.length_take_le _ _
 have hTr:∀i,∀r∈T i,r.length=4:=fun i=>by
  rw[hT]
  exact xJ fun r hr=>by
   obtain⟨z,_,rfl⟩:=List.mem_map.1 hr;exact z.cO
 have hTs:∀i (hi:i<x.ah.length),T i++[eZ (oI true x.ah[i]).enc (L i)]=T (i+1):=fun i hi=>by
  have:=Bz (e:=bq.enc) (l:=x.ah.map (oI true)) (i:=i) (by rw[List.length_map];exact hi) q;rw[List.getElem_map] at this;rw[hT,hL];exact this
 have hTe:T x.ah.length=lB (x.ah.map (oI true)) q:=by
  rw[hT];simp only
  rw[List.take_of_length_le (by simp)];rfl
 clear hT hL;refine lN (n) (rs:=[.tmp 2]) zmx func221 ntmps221 rfl rfl rfl rfl rfl ?_;refine W1 ?_;refine W3 ?_;refine mU n 3 4 [] (.inl rfl) (by simp) ?_
 refine aU (ι:=Nat×List (List D)) zmx rfl [3,9,10,11] (fun y=>[.c (.bN (0,2) y.2),.c (.d (.sl (x.ah.map aj.enc))),.c (.d (.i .i64 x.ah.length)),.c (.d (.i .i64 y.1))])
  (fun y=>[.seed n,.box [.d (.s x.aO),.d (.sl (x.ah.map aj.enc))],.fu n 4 y.2]::S)
  (fun y=>y.1<=x.ah.length/\iN y.2 (T y.1)) (fun y=>x.ah.length-y.1) (0,[]) rfl rfl ⟨Nat.zero_le _,by rw[hT0];exact .nil⟩ ?_
 rintro⟨i,U⟩ ⟨p1,p2⟩;simp only at p1 p2;have hU1:=p2.length;have hU2:=iG i;have hU3:=p2.rows (hTr i);refine W1 ?_;refine S0 (fun hb h=>?_) fun hb h=>?_
 ·have hi':i<x.ah.length:=by omega
  have hz:=hall _ (List.getElem_mem hi');have hs:=hTs i hi';have hz1:=eG x.ah[i];refine W3 ?_;refine S0 (fun hb h=>?_) fun hb h=>?_
  ·have hl2:x.ah[i].ah.length=2:=by omega
   have hb:=aau (b:=true) (y:=x.ah[i]) (.inr hl2);have g1:x.ah[i].ah.getD 1 cu=x.ah[i].ah[1]:=jC (by omega);rw[aat,hb.1,hb.2,jH (by omega:0<x.ah[i].ah.length),g1] at hs;have hz2:=xO x.ah[i] (i:=1) (by omega);refine W3 ?_;refine C1 (q9 x.ah[i].ah[1] (L i) (by omega)) ?_;refine W3 ?_;refine bZ 3 (by decide) (i+1,_) (by simp only;omega) rfl rfl rfl rfl ⟨by simp only;omega,?_⟩
   simp only
   rw[<-hs];exact p2.snoc (.refl _)
  ·have hl2:x.ah[i].ah.length≠2:=by omega
   rw[aat,ajr hl2] at hs;refine bZ 3 (by decide) (i+1,_) (by simp only;omega) rfl rfl rfl rfl ⟨by simp only;omega,?_⟩
   simp only
   rw[<-hs];exact p2.snoc (.cons (.refl _) (.cons (.refl _) (.cons (.refl _) (.cons (oP _) .nil))))
 ·have hi':i=x.ah.length:=by omega
  subst hi';rw[hTe] at p2;exact aiv p2
theorem XT(x:aj)(hsz:x.sz<=1048576):aH prog 146 [x.v] (.dQ [(true,(vM x).cv),(false,[.d (.b (okF x))])]):=aH.of_le fun S=>by
 have h1:=eG x;have hds:=Ro false x;have hos:=alM (f:=AU false x) (by omega);have hgs:=fun i=>vE x i (m:=4194304) (by omega);obtain⟨l,hl⟩:∃l,l=(x.ah.getD 4 cu).ah:=⟨_,rfl⟩;have hg4:=eG (x.ah.getD 4 cu)
 have hll:l.length<=4194304:=by have:=hgs 4;rw[hl];omega
 have hlm:∀y∈l,y.sz<=4194304:=fun y hy=>by
  have:=hgs 4;have:=iO (hl▸hy);omega
 obtain⟨F,hF⟩:∃F,F=AU false x:=⟨_,rfl⟩
 have f1:F.fName=(x.ah.getD 1 cu).aO:=by rw[hF];rfl
 have f2:F.aG=eU (x.ah.getD 2 cu).ah:=by rw[hF];rfl
 have f3:F.bY=(x.ah.getD 3 cu).ah.map (oI false):=by rw[hF];rfl
 have f5:F.bO=dO false (x.ah.getD 5 cu):=by rw[hF];rfl
 have f6:F.fBody=eP false (x.ah.getD 6 cu):=by rw[hF];rfl
 obtain⟨T,hT⟩:∃T:Nat->List (List D),T=fun i=>((l.map (oJ false)).take i).map bM.enc:=⟨_,rfl⟩
 have hT0:T 0=[]:=by rw[hT];rfl
 have iG:∀i,(T i).length<=i:=fun i=>by rw[hT];simp only[List.length_map];exact List.length_take_le _ _
 have hTs:∀i (hi:i<l.length),T i++[(oJ false l[i]).enc]=T (i+1):=fun i hi=>by
  have:=Dn (e:=bM.enc) (l:=l.map (oJ false)) (i:=i) (by rw[List.length_map];exact hi);rw[List.getElem_map] at this;rw[hT];exact this
 have hTe:T l.length=F.aV.map bM.enc:=by
  rw[hT];simp only
  rw[List.take_of_length_le (by simp),hF,hl];rfl
 clear hT
 have fV:okF x=false->Less (.dQ [(true,GJ),(false,[.d (.b false)])]) (.dQ [(true,(vM x).cv),(false,[.d (.b (okF x))])]):=fun e=>by
  rw[e];exact ard _ (agf e) false
 have c5:=qN (x.ah.getD 5 cu) (hgs 5);have c6:=FM (x.ah.getD 6 cu) (hgs 6);have c2:=sI _ (hgs 2);have c3:=Je _ (hgs 3);rw[<-f2] at c2;rw[<-f3] at c3;rw[<-f5] at c5;rw[<-f6] at c6;refine aD (rs:=[.cell 2 120,.tmp 3]) zmx func146 ntmps146 rfl rfl rfl rfl rfl ?_;refine W1 ?_;refine C1 (fH x 1 (by omega) (by omega)) ?_;refine C1 (fH x 2 (by omega) (by omega)) ?_;refine aZ c2 ?_;refine W1 ?_;refine C1 (fH x 3 (by omega) (by omega)) ?_;refine aZ c3 ?_;refine W1 ?_;refine C1 (fH x 5 (by omega) (by omega)) ?_;refine aZ c5 ?_;refine W1 ?_;refine C1 (fH x 6 (by omega) (by omega)) ?_;refine aZ c6 ?_;refine W1 ?_;refine W3 ?_;refine C1 (fH x 4 (by omega) (by omega)) ?_;rw[<-hl,<-f1];refine qK 2 3 4 _ rfl rfl ?_
 refine aU (ι:=Nat) zmx rfl [1,2,4,5,6] (fun i=>[.c (.ptr (0,0) 0),.c (.ptr (0,1) 0),.c (.ptr (0,2) 0),.c (.ptr (0,3) 0),.c (.d (.i .i64 i))])
  (fun i=>[.box [.d (.s x.aO),.d (.sl (x.ah.map aj.enc))],.box GJ,.box [.d (.s F.fName),.d (.sl (F.aG.map encS)),.d (.sl (F.bY.map bq.enc)),.bN (0,4) (T i),.d (.i .i64 F.bO.aJ),.d (.s F.bO.fName),.d (.sl (F.bO.fArgs.map ak.enc)),
    .d (.i .i64 F.fBody.aJ),.d (.s F.fBody.bD),.d (.s F.fBody.fName),.d (.i .i64 F.fBody.fN),.d (.i .i64 F.fBody.fType.aJ),.d (.s F.fBody.fType.fName),.d (.sl (F.fBody.fType.fArgs.map ak.enc)),.d (.sl (F.fBody.fArgs.map au.enc)),.d (.sl (F.fBody.aR.map aT.enc))],
    .box [.d (.s (x.ah.getD 4 cu).aO),.d (.sl (l.map aj.enc))],.tok 4 (T i)]::S)
  (fun i=>i<=l.length) (fun i=>l.length-i) 0 rfl (by rw[hT0];rfl) (Nat.zero_le _) ?_
 intro i hi;have hl':=iG i;refine W1 ?_;refine S0 (fun hb h=>?_) fun hb h=>?_
 ·have hi':i<l.length:=by omega
  have hz:=hlm _ (List.getElem_mem hi');have hs:=hTs i hi';have hb:=Tw (b:=false) (y:=l[i]) (.inl rfl);simp only[bM.aB,ak.aB,List.cons_append,List.nil_append,hb.1,hb.2] at hs;refine W3 ?_;refine C1 (fH l[i] 0 hz (by omega)) ?_;refine W3 ?_;refine C1 (fH l[i] 1 hz (by omega)) ?_;refine C1 (qN (l[i].ah.getD 1 cu) (vE _ 1 hz)) ?_;refine W3 ?_;rw[show(l[i].ah.getD 0 cu).aO=dJ l[i].ah 0 from rfl,hs];exact bZ 5 (by decide) (i+1) (by omega) rfl rfl rfl rfl (by omega)
 ·have hi':i=l.length:=by omega
  subst hi';rw[hTe];clear hTs;refine C1 (oW x (by omega)) ?_;refine S0 (fun hb h=>?_) fun hb h=>?_
  ·exact fV (aA fun e=>by rw[e.1] at h;cases h)
  have hv:=h;refine S0 (fun hb h=>?_) fun hb h=>?_
  ·exact fV (aA fun e=>by omega)
  have hne:x.ah≠[]:=fun e=>by rw[e] at h;exact h rfl
  have hok:=ai6 hne;rw[hv,Bool.true_and] at hok;rw[<-hF] at hok hos hds;refine W3 ?_;refine C1 (afU F (by omega)) ?_;refine C1 (uo (XF F) x (by omega)) ?_;refine S0 (fun hb h=>?_) fun hb h=>?_
  ·exact fV (by rw[hok];exact aA h)
  ·have hy:okF x=true:=by rw[hok];exact aY h
   rw[aav hy,hy,<-ai7 hy,<-hF];exact gL _
theorem Uj(x:aj)(n:Nat)(hsz:x.sz<=1048576):aH prog 156 [x.v] (.dQ [(true,(vM x).cl n (pF (vM x) n) (qF (vM x) n) (rF (vM x) n)),(false,[.d (.b (okF x))])]):=aH.of_le fun S=>by
 have h1:=eG x;have hds:=Ro true x;obtain⟨F,hF⟩:∃F,F=AU true x:=⟨_,rfl⟩;obtain⟨p,hp⟩:∃p,p=pF F n:=⟨_,rfl⟩;obtain⟨q,hq⟩:∃q,q=qF F n:=⟨_,rfl⟩;obtain⟨r,hr0⟩:∃r,r=rF F n:=⟨_,rfl⟩
 have fV:okF x=false->Less (.dQ [(true,GJ),(false,[.d (.b false)])]) (.dQ [(true,(vM x).cl n (pF (vM x) n) (qF (vM x) n) (rF (vM x) n)),(false,[.d (.b (okF x))])]):=fun e=>by
  rw[e];exact anM _ (agf e) n _ _ _ false
 refine lN (n) (rs:=[.cell 2 120,.tmp 3]) zmx func156 ntmps156 rfl rfl rfl rfl rfl ?_;refine W1 ?_;refine C1 (vD x xQ 7 (by omega) (by omega) (by omega)) ?_;refine S0 (fun hb h=>?_) fun hb h=>?_
 ·exact fV (aA fun e=>h ⟨e.1,e.2.1.1,e.2.1.2⟩)
 have hf:=h;have I7:=sZ hf.1
 have hfo:iK x=true:=by have:=hf.1;unfold fM at this;rw[Bool.and_eq_true] at this;exact this.1
 have hlen:7<=x.ah.length:=hf.2.1
 have f1:F.fName=x.ah[1].aO:=by rw[hF];exact jH (by omega)
 have f2:F.aG=eU x.ah[2].ah:=by rw[hF,<-jC (l:=x.ah) (i:=2) (by omega)];rfl
 have f3:F.bY=x.ah[3].ah.map (oI true):=by rw[hF,<-jC (l:=x.ah) (i:=3) (by omega)];rfl
 have f4:F.aV=x.ah[4].ah.map (oJ true):=by rw[hF,<-jC (l:=x.ah) (i:=4) (by omega)];rfl
 have f5:F.bO=dO true x.ah[5]:=by rw[hF,<-jC (l:=x.ah) (i:=5) (by omega)];rfl
 have f6:F.fBody=eP true x.ah[6]:=by rw[hF,<-jC (l:=x.ah) (i:=6) (by omega)];rfl
 have hzs:=fun i hi=>xO x (i:=i) hi;have c2:=q8 x.ah[2] (by have:=hzs 2 (by omega);omega) n;have c3:=Jf x.ah[3] (n+1) (n+1+1) (by have:=hzs 3 (by omega);omega);have c5:=q9 x.ah[5] q (by have:=hzs 5 (by omega);omega);have c6:=Et x.ah[6] r (Rx hfo (by omega)) (by have:=hzs 6 (by omega);omega);rw[<-f2] at c2;rw[<-f3] at c3;rw[<-f5] at c5;rw[<-f6] at c6;have hz4:=hzs 4 (by omega);obtain⟨l,hl⟩:∃l,l=x.ah[4].ah:=⟨_,rfl⟩;have hg4:=eG x.ah[4]
 have hll:l.length<=4194304:=by rw[hl];omega
 have hlm:∀y∈l,y.sz<=4194304:=fun y hy=>by have:=iO (hl▸hy);omega
 obtain⟨L,hL⟩:∃L:Nat->Nat,L=fun i=>p+1+kD (((l.map (oJ true)).take i).map bM.enc):=⟨_,rfl⟩;obtain⟨T,hT⟩:∃T:Nat->List (List D),T=fun i=>dZ (((l.map (oJ true)).take i).map bM.enc) (p+1):=⟨_,rfl⟩
 have hT0:T 0=[]:=by rw[hT];rfl
 have iG:∀i,(T i).length<=i:=fun i=>by rw[hT];simp only[kI,List.length_map];exact List.length_take_le _ _
 have hTr:∀i,∀r∈T i,r.length=4:=fun i=>by
  rw[hT]
  exact xJ fun r hr=>by
   obtain⟨z,_,rfl⟩:=List.mem_map.1 hr;exact z.cO
 have hTs:∀i (hi:i<l.length),T i++[eZ (oJ true l[i]).enc (L i)]=T (i+1):=fun i hi=>by
  have:=Bz (e:=bM.enc) (l:=l.map (oJ true)) (i:=i) (by rw[List.length_map];exact hi) (p+1);rw[List.getElem_map] at this;rw[hT,hL];exact this
 have hTe:T l.length=lPr F.aV (p+1):=by
  rw[hT];simp only
  rw[List.take_of_length_le (by simp),f4,hl];rfl
 clear hT hL;refine W3 ?_;refine aZ c2 ?_;refine W1 ?_;refine W3 ?_;refine aZ c3 ?_;refine W1 ?_;refine W3 ?_;refine aZ c5 ?_;refine W1 ?_;refine W3 ?_;refine aZ c6 ?_;refine W1 ?_;refine W3 ?_;rw[<-hl,<-f1];refine qo p 3 3 4 _ rfl rfl ?_
 refine aU (ι:=Nat×List (List D)) zmx rfl [1,2,5,39,40,41] (fun y=>[.c (.ptr (0,1) 0),.c (.ptr (0,2) 0),.c (.ptr (0,3) 0),.c (.d (.sl (l.map aj.enc))),.c (.d (.i .i64 l.length)),.c (.d (.i .i64 y.1))])
  (fun y=>[.seed n,.box [.d (.s x.aO),.d (.sl (x.ah.map aj.enc))],.box GJ,.box [.d (.s F.fName),.d (.ol n (F.aG.map encS)),.d (.ol (n+1) (lB F.bY (n+1+1))),.bN (0,4) y.2,.d (.i .i64 F.bO.aJ),.d (.s F.bO.fName),.d (.ol q (lt F.bO.fArgs (q+1))),
    .d (.i .i64 F.fBody.aJ),.d (.s F.fBody.bD),.d (.s F.fBody.fName),.d (.i .i64 F.fBody.fN),.d (.i .i64 F.fBody.fType.aJ),.d (.s F.fBody.fType.fName),.d (.ol r (lt F.fBody.fType.fArgs (r+1))),
    .d (.ol (r+(gq F.fBody.fType.fArgs+1)) (lE F.fBody.fArgs (r+(gq F.fBody.fType.fArgs+1)+1))),.d (.ol (r+(gq F.fBody.fType.fArgs+1)+(lF F.fBody.fArgs+1)) (lM F.fBody.aR (r+(gq F.fBody.fType.fArgs+1)+(lF F.fBody.fArgs+1)+1)))],
    .fu p 4 y.2]::S)
  (fun y=>y.1<=l.length/\iN y.2 (T y.1)) (fun y=>l.length-y.1) (0,[]) rfl rfl ⟨Nat.zero_le _,by rw[hT0];exact .nil⟩ ?_
 rintro⟨i,U⟩ ⟨p1,p2⟩;simp only at p1 p2;have hU1:=p2.length;have hU2:=iG i;have hU3:=p2.rows (hTr i);refine W1 ?_;refine S0 (fun hb h=>?_) fun hb h=>?_
 ·have hi':i<l.length:=by omega
  have hz:=hlm _ (List.getElem_mem hi');have hs:=hTs i hi';have hz1:=eG l[i];refine W3 ?_;refine S0 (fun hb h=>?_) fun hb h=>?_
  ·have hl2:l[i].ah.length=2:=by omega
   have hb:=Tw (b:=true) (y:=l[i]) (.inr hl2);have g1:l[i].ah.getD 1 cu=l[i].ah[1]:=jC (by omega);rw[XR,hb.1,hb.2,jH (by omega:0<l[i].ah.length),g1] at hs;have hz2:=xO l[i] (i:=1) (by omega);refine W3 ?_;refine C1 (q9 l[i].ah[1] (L i) (by omega)) ?_;refine W3 ?_;refine bZ 5 (by decide) (i+1,_) (by simp only;omega) rfl rfl rfl rfl ⟨by simp only;omega,?_⟩
   simp only
   rw[<-hs];exact p2.snoc (.refl _)
  ·have hl2:l[i].ah.length≠2:=by omega
   rw[XR,adn hl2] at hs;refine bZ 5 (by decide) (i+1,_) (by simp only;omega) rfl rfl rfl rfl ⟨by simp only;omega,?_⟩
   simp only
   rw[<-hs];exact p2.snoc (.cons (.refl _) (.cons (.refl _) (.cons (.refl _) (.cons (oP _) .nil))))
 ·have hi':i=l.length:=by omega
  subst hi';clear hTs;rw[hTe] at p2
  have hcl:Less (.agg [.d (.s F.fName),.d (.ol n (F.aG.map encS)),.d (.ol (n+1) (lB F.bY (n+1+1))),.d (.sl U),.d (.i .i64 F.bO.aJ),.d (.s F.bO.fName),.d (.ol q (lt F.bO.fArgs (q+1))),
   .d (.i .i64 F.fBody.aJ),.d (.s F.fBody.bD),.d (.s F.fBody.fName),.d (.i .i64 F.fBody.fN),.d (.i .i64 F.fBody.fType.aJ),.d (.s F.fBody.fType.fName),.d (.ol r (lt F.fBody.fType.fArgs (r+1))),
   .d (.ol (r+(gq F.fBody.fType.fArgs+1)) (lE F.fBody.fArgs (r+(gq F.fBody.fType.fArgs+1)+1))),.d (.ol (r+(gq F.fBody.fType.fArgs+1)+(lF F.fBody.fArgs+1)) (lM F.fBody.aR (r+(gq F.fBody.fType.fArgs+1)+(lF F.fBody.fArgs+1)+1)))]) F.v:=by
   have lab:∀(es:List (List D))(k j:Nat),pO (.d (.ol k (dZ es j))) (.d (.sl es)):=fun es k j w σ S β v h=>(qp es j).rep (uD h);exact(fG.cons (.refl _) (.cons (Gp _ _) (.cons (lab _ _ _) (.cons (vV (p2.trans (qp _ _))) (.cons (.refl _) (.cons (.refl _) (.cons (lab _ _ _) (.cons (.refl _) (.cons (.refl _) (.cons (.refl _) (.cons (.refl _) (.cons (.refl _) (.cons (.refl _) (.cons (lab _ _ _) (.cons (lab _ _ _) (.cons (lab _ _ _) .nil)))))))))))))))).less
  rw[<-hF] at hds;refine oD (GH F (by omega)) (.cons hcl .nil) ?_;refine W1 ?_;refine S0 (fun hb h=>?_) fun hb h=>?_
  ·exact fV (aA fun e=>by rw[<-hF] at e;rw[e.2.2.1] at h;cases h)
  have hv:=h;have hz:=afT (yG hv).2.2.2;refine W3 ?_;refine oD (aH.less (Uh F 0 hv (by omega)) (Lm (Jc F) 0)) (.cons hcl .nil) ?_;refine W1 ?_;refine C1 (uq (Jc F) x (by omega)) ?_;refine S0 (fun hb h=>?_) fun hb h=>?_
  ·exact fV (aA fun e=>h (by rw[<-hF] at e;exact e.2.2.2))
  ·have hy:okF x=true:=by
    unfold okF;rw[<-hF];exact aY ⟨hf.1,hf.2,hv,h⟩
   rw[aav hy,hy,<-hF,<-hp,<-hq,<-hr0];exact(iZ.cons (.cons (.refl _) (.cons (.refl _) (.cons (.refl _) (.cons (Ij p2) (.refl _))))) (.refl _)).less
def q2S(x:aL)(q:Nat):Nat:=q+(gq x.aV+1)
def q3S(x:aL)(q:Nat):Nat:=q2S x q+(gq x.bO.fArgs+1)
def Tx(x:aL)(q:Nat):Nat:=q3S x q+1
theorem KP(x:aL)(q:Nat):eZ x.enc q=[.s x.fName,.ol q (lt x.aV (q+1)),.i .i64 x.bO.aJ,.s x.bO.fName,.ol (q2S x q) (lt x.bO.fArgs (q2S x q+1)),.b x.gW,.ol (q3S x q) (x.aG.map encS),
 .i .i64 x.fBody.aJ,.s x.fBody.bD,.s x.fBody.fName,.i .i64 x.fBody.fN,.i .i64 x.fBody.fType.aJ,.s x.fBody.fType.fName,.ol (Tx x q) (lt x.fBody.fType.fArgs (Tx x q+1)),
 .ol (Tx x q+(gq x.fBody.fType.fArgs+1)) (lE x.fBody.fArgs (Tx x q+(gq x.fBody.fType.fArgs+1)+1)),.ol (Tx x q+(gq x.fBody.fType.fArgs+1)+(lF x.fBody.fArgs+1)) (lM x.fBody.aR (Tx x q+(gq x.fBody.fType.fArgs+1)+(lF x.fBody.fArgs+1)+1))]:=by
 simp only[aL.aB,au.aB,ak.aB,List.cons_append,List.nil_append,eZ,og,pX,Nat.add_zero,lt,lE,lM,gq,lF,q2S,q3S,Tx,vB,xw,Nat.zero_add]
def ajs(l:List aL)(n:Nat):List (List D):=dZ (l.map aL.enc) n
abbrev bf.cl(x:bf)(n:Nat):List C:=[.d (.s x.fName),.d (.ol n (x.bH.map encS)),.d (.b x.nC),.d (.b x.bE),.d (.ol (n+1) (ajs x.aC (n+1+1)))]
abbrev bf.cv(x:bf):List C:=[.d (.s x.fName),.d (.sl (x.bH.map encS)),.d (.b x.nC),.d (.b x.bE),.d (.sl (x.aC.map aL.enc))]
theorem XU(x:bf)(n:Nat):(eZ x.enc n).map C.d=x.cl n:=by
 simp only[bf.aB,eZ,og,pX,Nat.add_zero,ajs,vB,xw,Nat.zero_add,List.map_cons,List.map_nil];rfl
theorem XV(x:bf)(n:Nat):Less (.agg (x.cl n)) x.v:=by
 have:=M6 (r:=x.enc) (n:=n);rw[XU,bf.u6] at this;exact this
theorem aaw{x:aj}(h:xY x=false):vF x=KN:=if_neg (by rw[h];decide)
theorem XW{x:aj}(h:xY x=true):vF x=sK true x:=if_pos h
abbrev GK:List C:=[.d (.s []),.bG [],.d (.b false),.d (.b false),.bG []]
theorem apl(e:bf)(h:e=KN)(ok:Bool):Less (.dQ [(true,GK),(false,[.d (.b ok)])]) (.dQ [(true,e.cv),(false,[.d (.b ok)])]):=by
 rw[h];exact(iZ.cons (.cons (.refl _) (.cons (fB _) (.cons (.refl _) (.cons (.refl _) (.cons (fB _) .nil))))) (.refl _)).less
theorem al1(e:bf)(h:e=KN)(n:Nat)(ok:Bool):Less (.dQ [(true,GK),(false,[.d (.b ok)])]) (.dQ [(true,e.cl n),(false,[.d (.b ok)])]):=by
 rw[h];exact(iZ.cons (.cons (.refl _) (.cons (dV _) (.cons (.refl _) (.cons (.refl _) (.cons (dV _) .nil))))) (.refl _)).less
theorem Zw{y:aj}(h:y.ah.length=5):jI true y=⟨y.ah[0].aO,y.ah[1].ah.map (dO true),dO true y.ah[2],true,eU y.ah[3].ah,eP true y.ah[4]⟩:=by
 unfold jI;rw[if_neg (by omega),show yD true y.ah=true from decide_eq_true h,if_pos rfl,if_pos rfl,jH (by omega),jC (by omega:1<y.ah.length),jC (by omega:2<y.ah.length),jC (by omega:4<y.ah.length)];unfold oU;rw[jC (by omega:3<y.ah.length)]
theorem Zx{y:aj}(h:3<=y.ah.length)(h5:y.ah.length≠5):jI true y=⟨y.ah[0].aO,y.ah[1].ah.map (dO true),dO true y.ah[2],false,[],l9⟩:=by
 unfold jI;rw[if_neg (by omega),show yD true y.ah=false from decide_eq_false h5,if_neg (by decide),if_neg (by decide),jH (by omega),jC (by omega:1<y.ah.length),jC (by omega:2<y.ah.length)]
theorem Zy{y:aj}(h:y.ah.length<3):jI true y=Rs:=if_pos ⟨rfl,h⟩
theorem XY{y:aj}(h:3<y.ah.length):jI false y=⟨(y.ah.getD 0 cu).aO,(y.ah.getD 1 cu).ah.map (dO false),dO false (y.ah.getD 2 cu),true,eU (y.ah.getD 3 cu).ah,eP false (y.ah.getD 4 cu)⟩:=by
 unfold jI;rw[if_neg (by simp),show yD false y.ah=true from decide_eq_true h];rfl
theorem XZ{y:aj}(h:¬3<y.ah.length):jI false y=⟨(y.ah.getD 0 cu).aO,(y.ah.getD 1 cu).ah.map (dO false),dO false (y.ah.getD 2 cu),false,[],l9⟩:=by
 unfold jI;rw[if_neg (by simp),show yD false y.ah=false from decide_eq_false h];rfl
theorem ado:l9.enc=[.i .i64 0,.s [],.s [],.i .i64 0,.i .i64 0,.s [],.sl [],.sl [],.sl []]:=by
 rw[au.aB];rfl
theorem Fh(x:aj){m:Nat}(h:x.sz<=m):(eU x.ah).length<=m:=by
 have:=(rU x.ah).1;have:=eG x;omega
theorem X0(x:aj)(hsz:x.sz<=1048576):aH prog 143 [x.v] (.dQ [(true,(vF x).cv),(false,[.d (.b (xY x))])]):=aH.of_le fun S=>by
 have h1:=eG x;have hds:=Ns false x;have hos:=ajk (x:=sK false x) (by omega);have hgs:=fun i=>vE x i (m:=4194304) (by omega);obtain⟨l,hl⟩:∃l,l=x.ah.drop 4:=⟨_,rfl⟩
 have hll:l.length<=4194304:=by rw[hl,List.length_drop];omega
 have hlm:∀y∈l,y.sz<=4194304:=fun y hy=>by have:=iO (List.mem_of_mem_drop (hl▸hy));omega
 obtain⟨F,hF⟩:∃F,F=sK false x:=⟨_,rfl⟩
 have f1:F.fName=(x.ah.getD 1 cu).aO:=by rw[hF];rfl
 have f2:F.bH=eU (x.ah.getD 2 cu).ah:=by rw[hF];rfl
 have f3:F.nC=dec (uy∈eU (x.ah.getD 3 cu).ah):=by rw[hF,<-ku];rfl
 have f4:F.bE=dec (iU∈eU (x.ah.getD 3 cu).ah):=by rw[hF,<-ku];rfl
 obtain⟨T,hT⟩:∃T:Nat->List (List D),T=fun i=>((l.map (jI false)).take i).map aL.enc:=⟨_,rfl⟩
 have hT0:T 0=[]:=by rw[hT];rfl
 have iG:∀i,(T i).length<=i:=fun i=>by rw[hT];simp only[List.length_map];exact List.length_take_le _ _
 have hTs:∀i (hi:i<l.length),T i++[(jI false l[i]).enc]=T (i+1):=fun i hi=>by
  have:=Dn (e:=aL.enc) (l:=l.map (jI false)) (i:=i) (by rw[List.length_map];exact hi);rw[List.getElem_map] at this;rw[hT];exact this
 have hTe:T l.length=F.aC.map aL.enc:=by
  rw[hT];simp only
  rw[List.take_of_length_le (by simp),hF,hl];rfl
 clear hT
 have fV:xY x=false->Less (.dQ [(true,GK),(false,[.d (.b false)])]) (.dQ [(true,(vF x).cv),(false,[.d (.b (xY x))])]):=fun e=>by
  rw[e];exact apl _ (aaw e) false
 have c2:=sI _ (hgs 2);have c3:=su (eU (x.ah.getD 3 cu).ah) uy (by have:=Fh _ (hgs 3);omega);have c4:=su (eU (x.ah.getD 3 cu).ah) iU (by have:=Fh _ (hgs 3);omega);rw[<-f2] at c2;rw[<-f3] at c3;rw[<-f4] at c4;refine aD (rs:=[.cell 2 107,.tmp 3]) zmx func143 ntmps143 rfl rfl rfl rfl rfl ?_;refine W1 ?_;refine C1 (fH x 3 (by omega) (by omega)) ?_;refine C1 (sI _ (hgs 3)) ?_;refine C1 (fH x 1 (by omega) (by omega)) ?_;refine C1 (fH x 2 (by omega) (by omega)) ?_;refine aZ c2 ?_;refine W1 ?_;refine aZ c3 ?_;refine W1 ?_;refine aZ c4 ?_;refine W1 ?_;refine W3 ?_;refine C1 (yC x 4 (by omega)) ?_;rw[<-hl,<-f1];refine qK 2 4 16 _ rfl rfl ?_
 refine aU (ι:=Nat) zmx rfl [1,2,5,6,7] (fun i=>[.c (.ptr (0,0) 0),.c (.ptr (0,1) 0),.c (.ptr (0,2) 0),.c (.d (.sl (l.map aj.enc))),.c (.d (.i .i64 i))])
  (fun i=>[.box [.d (.s x.aO),.d (.sl (x.ah.map aj.enc))],.box GK,.box [.d (.s F.fName),.d (.sl (F.bH.map encS)),.d (.b F.nC),.d (.b F.bE),.bN (0,3) (T i)],.tok 16 (T i)]::S)
  (fun i=>i<=l.length) (fun i=>l.length-i) 0 rfl (by rw[hT0];rfl) (Nat.zero_le _) ?_
 intro i hi;have hl':=iG i;refine W1 ?_;refine S0 (fun hb h=>?_) fun hb h=>?_
 ·have hi':i<l.length:=by omega
  have hz:=hlm _ (List.getElem_mem hi');have hs:=hTs i hi';have hg:=fun k=>vE l[i] k hz;have hg1:=hg 1;have asr:=eG (l[i].ah.getD 1 cu);have hz1:=eG l[i];refine W3 ?_;refine C1 (fH l[i] 0 hz (by omega)) ?_;refine W3 ?_;refine C1 (fH l[i] 1 hz (by omega)) ?_;refine C1 (Jb (l[i].ah.getD 1 cu).ah (by omega) (fun t ht=>by have:=iO ht;omega)) ?_;refine W3 ?_;refine C1 (fH l[i] 2 hz (by omega)) ?_;refine C1 (qN (l[i].ah.getD 2 cu) (hg 2)) ?_;refine W3 ?_;refine S0 (fun hb h=>?_) fun hb h=>?_
  ·rw[XY (by omega)] at hs;simp only[aL.aB,au.aB,ak.aB,List.cons_append,List.nil_append] at hs;refine W3 ?_;refine C1 (fH l[i] 3 hz (by omega)) ?_;refine C1 (sI _ (hg 3)) ?_;refine W3 ?_;refine C1 (fH l[i] 4 hz (by omega)) ?_;refine C1 (FM (l[i].ah.getD 4 cu) (hg 4)) ?_;refine W3 ?_;rw[hs];exact bZ 4 (by decide) (i+1) (by omega) rfl rfl rfl rfl (by omega)
  ·rw[XZ (by omega)] at hs;simp only[aL.aB,ado,ak.aB,List.cons_append,List.nil_append,List.map_nil] at hs;refine W3 ?_;rw[hs];exact bZ 4 (by decide) (i+1) (by omega) rfl rfl rfl rfl (by omega)
 ·have hi':i=l.length:=by omega
  subst hi';rw[hTe];clear hTs;refine C1 (oW x (by omega)) ?_;refine S0 (fun hb h=>?_) fun hb h=>?_
  ·exact fV (aA fun e=>by rw[e.1] at h;cases h)
  have hv:=h;refine S0 (fun hb h=>?_) fun hb h=>?_
  ·exact fV (aA fun e=>by omega)
  have hne:x.ah≠[]:=fun e=>by rw[e] at h;exact h rfl
  have hok:=af6 hne;rw[hv,Bool.true_and] at hok;rw[<-hF] at hok hos hds;refine W3 ?_;refine C1 (af2 F (by omega)) ?_;refine C1 (uo (Qg F) x (by omega)) ?_;refine S0 (fun hb h=>?_) fun hb h=>?_
  ·exact fV (by rw[hok];exact aA h)
  ·have hy:xY x=true:=by rw[hok];exact aY h
   rw[XW hy,hy,<-af7 hy,<-hF];exact gL _
theorem Nt(x:aj)(n:Nat)(hfo:iK x=true)(hlen:4<=x.ah.length)(hsz:x.sz<=1048576):aH prog 217 [x.v] (.agg ((sK true x).cl n)):=aH.of_le fun S=>by
 have h1:=eG x;obtain⟨F,hF⟩:∃F,F=sK true x:=⟨_,rfl⟩;have hr:=gV (l:=x.ah);have hzs:=fun i hi=>xO x (i:=i) hi;have hz2:=hzs 2 (by omega);have hz3:=hzs 3 (by omega)
 have f1:F.fName=x.ah[1].aO:=by rw[hF];exact jH (by omega)
 have f2:F.bH=eU x.ah[2].ah:=by rw[hF,<-jC (l:=x.ah) (i:=2) (by omega)];rfl
 have f3:F.nC=dec (uy∈eU x.ah[3].ah):=by rw[hF,<-ku,<-jC (l:=x.ah) (i:=3) (by omega)];rfl
 have f4:F.bE=dec (iU∈eU x.ah[3].ah):=by rw[hF,<-ku,<-jC (l:=x.ah) (i:=3) (by omega)];rfl
 obtain⟨l,hl⟩:∃l,l=x.ah.drop 4:=⟨_,rfl⟩
 have hll:l.length<=4194304:=by rw[hl,List.length_drop];omega
 have hlm:∀y∈l,y.sz<=1048576/\iK y=true:=fun y hy=>by
  have h2:=List.mem_of_mem_drop (hl▸hy);have:=iO h2;exact⟨by omega,xA (E8 hfo (fun e=>by rw[e] at h2;cases h2)) h2⟩
 obtain⟨L,hL⟩:∃L:Nat->Nat,L=fun i=>n+1+1+kD (((l.map (jI true)).take i).map aL.enc):=⟨_,rfl⟩;obtain⟨T,hT⟩:∃T:Nat->List (List D),T=fun i=>dZ (((l.map (jI true)).take i).map aL.enc) (n+1+1):=⟨_,rfl⟩
 have hT0:T 0=[]:=by rw[hT];rfl
 have iG:∀i,(T i).length<=i:=fun i=>by rw[hT];simp only[kI,List.length_map];exact List.length_take_le _ _
 have hTr:∀i,∀r∈T i,r.length=16:=fun i=>by
  rw[hT]
  exact xJ fun r hr=>by
   obtain⟨z,_,rfl⟩:=List.mem_map.1 hr;exact z.cO
 have hTs:∀i (hi:i<l.length),T i++[eZ (jI true l[i]).enc (L i)]=T (i+1):=fun i hi=>by
  have:=Bz (e:=aL.enc) (l:=l.map (jI true)) (i:=i) (by rw[List.length_map];exact hi) (n+1+1);rw[List.getElem_map] at this;rw[hT,hL];exact this
 have hTe:T l.length=ajs F.aC (n+1+1):=by
  rw[hT];simp only
  rw[List.take_of_length_le (by simp),hF,hl];rfl
 clear hT hL;have c2:=q8 x.ah[2] (by omega) n;have c3:=sw (eU x.ah[3].ah) uy (by have:=Fh _ hz3;omega);have c4:=sw (eU x.ah[3].ah) iU (by have:=Fh _ hz3;omega);rw[<-f2] at c2;rw[<-f3] at c3;rw[<-f4] at c4;rw[<-hF];refine lN (n) (rs:=[.cell 2 107]) zmx func217 ntmps217 rfl rfl rfl rfl rfl ?_;refine W1 ?_;refine W3 ?_;refine C1 (q8 x.ah[3] (by omega) 0) ?_;refine W3 ?_;refine aZ c2 ?_;refine W1 ?_;refine oD c3 (.cons (LA _ _) (.cons (gL _) .nil)) ?_;refine W1 ?_;refine oD c4 (.cons (LA _ _) (.cons (gL _) .nil)) ?_;refine W1 ?_;refine⟨⟨by omega,by omega,hr⟩,?_⟩;rw[oZ _ _ _ (Nat.le_refl _),<-hl,<-f1];refine W1 ?_;refine qo (n+1) 3 4 16 _ rfl rfl ?_
 refine aU (ι:=Nat×List (List D)) zmx rfl [2,4,30,31,32] (fun y=>[.c (.ptr (0,2) 0),.c (.ptr (0,3) 0),.c (.d (.sl (l.map aj.enc))),.c (.d (.i .i64 l.length)),.c (.d (.i .i64 y.1))])
  (fun y=>[.seed n,.box [.d (.s x.aO),.d (.sl (x.ah.map aj.enc))],.box GK,.box [.d (.s F.fName),.d (.ol n (F.bH.map encS)),.d (.b F.nC),.d (.b F.bE),.bN (0,4) y.2],.fu (n+1) 16 y.2]::S)
  (fun y=>y.1<=l.length/\iN y.2 (T y.1)) (fun y=>l.length-y.1) (0,[]) rfl rfl ⟨Nat.zero_le _,by rw[hT0];exact .nil⟩ ?_
 rintro⟨i,U⟩ ⟨p1,p2⟩;simp only at p1 p2;have hU1:=p2.length;have hU2:=iG i;have hU3:=p2.rows (hTr i);refine W1 ?_;refine S0 (fun hb h=>?_) fun hb h=>?_
 ·have hi':i<l.length:=by omega
  obtain⟨hz,hfy⟩:=hlm _ (List.getElem_mem hi');have hs:=hTs i hi';have hz1:=eG l[i];refine W3 ?_;refine S0 (fun hb h=>?_) fun hb h=>?_
  ·have hl3:3<=l[i].ah.length:=by omega
   have hy1:=xO l[i] (i:=1) (by omega);have asu:=eG l[i].ah[1];have hy2:=xO l[i] (i:=2) (by omega);refine W3 ?_;refine C1 (Gz l[i].ah[1].ah (L i) (L i+1) (by omega) (fun t ht=>by have:=iO ht;omega)) ?_;refine W3 ?_;refine C1 (q9 l[i].ah[2] (q2S (jI true l[i]) (L i)) (by omega)) ?_;refine W3 ?_;refine S0 (fun hb h=>?_) fun hb h=>?_
   ·have hl5:l[i].ah.length=5:=by omega
    have hy3:=xO l[i] (i:=3) (by omega);have hy4:=xO l[i] (i:=4) (by omega);have hd:=Zw hl5;refine W3 ?_;refine C1 (q8 l[i].ah[3] (by omega) (q3S (jI true l[i]) (L i))) ?_;refine W3 ?_;refine C1 (Et l[i].ah[4] (Tx (jI true l[i]) (L i)) (Rx hfy (by omega)) (by omega)) ?_;refine W3 ?_;rw[KP] at hs;obtain⟨g,hg⟩:∃g,g=jI true l[i]:=⟨_,rfl⟩;rw[<-hg] at hs hd ⊢
    have e1:g.fName=l[i].ah[0].aO:=by rw[hd]
    have e2:g.aV=l[i].ah[1].ah.map (dO true):=by rw[hd]
    have e3:g.bO=dO true l[i].ah[2]:=by rw[hd]
    have e4:g.gW=true:=by rw[hd]
    have e5:g.aG=eU l[i].ah[3].ah:=by rw[hd]
    have e6:g.fBody=eP true l[i].ah[4]:=by rw[hd]
    rw[e1,e2,e3,e4,e5,e6] at hs;refine bZ 5 (by decide) (i+1,_) (by simp only;omega) rfl rfl rfl rfl ⟨by simp only;omega,?_⟩
    simp only
    rw[<-hs];exact p2.snoc (.refl _)
   ·have hd:=Zx hl3 (by omega);refine W3 ?_;rw[KP] at hs;obtain⟨g,hg⟩:∃g,g=jI true l[i]:=⟨_,rfl⟩;rw[<-hg] at hs hd ⊢
    have e1:g.fName=l[i].ah[0].aO:=by rw[hd]
    have e2:g.aV=l[i].ah[1].ah.map (dO true):=by rw[hd]
    have e3:g.bO=dO true l[i].ah[2]:=by rw[hd]
    have e4:g.gW=false:=by rw[hd]
    have e5:g.aG=[]:=by rw[hd]
    have e6:g.fBody=l9:=by rw[hd]
    rw[e1,e2,e3,e4,e5,e6] at hs;refine bZ 5 (by decide) (i+1,_) (by simp only;omega) rfl rfl rfl rfl ⟨by simp only;omega,?_⟩
    simp only
    rw[<-hs];exact p2.snoc (.cons (.refl _) (.cons (.refl _) (.cons (.refl _) (.cons (.refl _) (.cons (.refl _) (.cons (.refl _) (.cons (oP _) (.cons (.refl _) (.cons (.refl _) (.cons (.refl _) (.cons (.refl _) (.cons (.refl _) (.cons (.refl _) (.cons (oP _) (.cons (oP _) (.cons (oP _) .nil))))))))))))))))
  ·have hd:=Zy (y:=l[i]) (by omega);refine S0 (fun hb h=>?_) fun hb h=>?_
   ·omega
   ·refine W3 ?_;rw[hd,KP] at hs;refine bZ 5 (by decide) (i+1,_) (by simp only;omega) rfl rfl rfl rfl ⟨by simp only;omega,?_⟩
    simp only
    rw[<-hs];exact p2.snoc (.cons (.refl _) (.cons (oP _) (.cons (.refl _) (.cons (.refl _) (.cons (oP _) (.cons (.refl _) (.cons (oP _) (.cons (.refl _) (.cons (.refl _) (.cons (.refl _) (.cons (.refl _) (.cons (.refl _) (.cons (.refl _) (.cons (oP _) (.cons (oP _) (.cons (oP _) .nil))))))))))))))))
 ·have hi':i=l.length:=by omega
  subst hi';rw[hTe] at p2;exact(fG.cons (.refl _) (.cons (.refl _) (.cons (.refl _) (.cons (.refl _) (.cons (Ij p2) .nil))))).less
theorem Uk(x:aj)(n:Nat)(hsz:x.sz<=1048576):aH prog 153 [x.v] (.dQ [(true,(vF x).cl n),(false,[.d (.b (xY x))])]):=aH.of_le fun S=>by
 have hds:=Ns true x
 have fV:xY x=false->Less (.dQ [(true,GK),(false,[.d (.b false)])]) (.dQ [(true,(vF x).cl n),(false,[.d (.b (xY x))])]):=fun e=>by
  rw[e];exact al1 _ (aaw e) n false
 refine aD (rs:=[.cell 2 107,.tmp 3]) zmx func153 ntmps153 rfl rfl rfl rfl rfl ?_;refine W1 ?_;refine C1 (vD x j5 4 (by omega) (by omega) (by omega)) ?_;refine S0 (fun hb h=>?_) fun hb h=>?_
 ·exact fV (aA fun e=>h ⟨e.1,e.2.1.1,e.2.1.2⟩)
 have hf:=h;have I7:=sZ hf.1
 have hfo:iK x=true:=by have:=hf.1;unfold fM at this;rw[Bool.and_eq_true] at this;exact this.1
 refine C1 (Nt x n hfo hf.2.1 (by omega)) ?_;refine oD (CU (sK true x) (by omega)) (.cons (XV _ n) .nil) ?_;refine W1 ?_;refine S0 (fun hb h=>?_) fun hb h=>?_
 ·exact fV (aA fun e=>by rw[e.2.2.1] at h;cases h)
 have hv:=h;have hz:=LB hv;refine W3 ?_;refine oD (aH.less (Ui (sK true x) 0 hv (by omega)) (Lm (rQ (sK true x)) 0)) (.cons (XV _ n) .nil) ?_;refine W1 ?_;refine C1 (uq (rQ (sK true x)) x (by omega)) ?_;refine S0 (fun hb h=>?_) fun hb h=>?_
 ·exact fV (aA fun e=>h e.2.2.2)
 ·have hy:xY x=true:=aY ⟨hf.1,hf.2,hv,h⟩;rw[XW hy,hy];exact gL _
theorem X3(x:bA)(n:Nat):eZ x.enc n=[.s x.fName,.ol n (x.aG.map encS),.i .i64 x.fBody.aJ,.s x.fBody.bD,.s x.fBody.fName,.i .i64 x.fBody.fN,.i .i64 x.fBody.fType.aJ,.s x.fBody.fType.fName,.ol (n+1) (lt x.fBody.fType.fArgs (n+1+1)),
 .ol (n+1+(gq x.fBody.fType.fArgs+1)) (lE x.fBody.fArgs (n+1+(gq x.fBody.fType.fArgs+1)+1)),.ol (n+1+(gq x.fBody.fType.fArgs+1)+(lF x.fBody.fArgs+1)) (lM x.fBody.aR (n+1+(gq x.fBody.fType.fArgs+1)+(lF x.fBody.fArgs+1)+1))]:=by
 simp only[bA.aB,au.aB,ak.aB,List.cons_append,List.nil_append,eZ,og,pX,Nat.add_zero,lt,lE,lM,gq,lF,vB,xw,Nat.zero_add]
def lMe(l:List bA)(n:Nat):List (List D):=dZ (l.map bA.enc) n
def pI(x:aM)(n:Nat):Nat:=n+1+(gq x.bQ.fArgs+1)
def qI(x:aM)(n:Nat):Nat:=pI x n+(UM x.bY+1)
def rI(x:aM)(n:Nat):Nat:=qI x n+(gq x.bE.fArgs+1)
abbrev aM.cl(x:aM)(n p q r:Nat):List C:=[.d (.s x.bD),.d (.ol n (x.aG.map encS)),.d (.i .i64 x.bQ.aJ),.d (.s x.bQ.fName),.d (.ol (n+1) (lt x.bQ.fArgs (n+1+1))),.d (.ol p (lB x.bY (p+1))),.d (.b x.gJ),.d (.b x.dX),
 .d (.i .i64 x.bE.aJ),.d (.s x.bE.fName),.d (.ol q (lt x.bE.fArgs (q+1))),.d (.ol r (lMe x.aI (r+1)))]
abbrev aM.cv(x:aM):List C:=[.d (.s x.bD),.d (.sl (x.aG.map encS)),.d (.i .i64 x.bQ.aJ),.d (.s x.bQ.fName),.d (.sl (x.bQ.fArgs.map ak.enc)),.d (.sl (x.bY.map bq.enc)),.d (.b x.gJ),.d (.b x.dX),
 .d (.i .i64 x.bE.aJ),.d (.s x.bE.fName),.d (.sl (x.bE.fArgs.map ak.enc)),.d (.sl (x.aI.map bA.enc))]
theorem al2(x:aM)(n:Nat):(eZ x.enc n).map C.d=x.cl n (pI x n) (qI x n) (rI x n):=by
 simp only[aM.aB,ak.aB,List.cons_append,List.nil_append,eZ,og,pX,Nat.add_zero,lt,lB,lMe,gq,UM,pI,qI,rI,vB,xw,Nat.zero_add,List.map_cons,List.map_nil];rfl
theorem X4{x:aj}(h:zx x=false):rE x=Lx:=if_neg (by rw[h];decide)
theorem aax{x:aj}(h:zx x=true):rE x=AY true x:=if_pos h
abbrev xG:List C:=[.d (.s []),.bG [],.d (.i .i64 0),.d (.s []),.bG [],.bG [],.d (.b false),.d (.b false),.d (.i .i64 0),.d (.s []),.bG [],.bG []]
theorem arf(e:aM)(h:e=Lx)(ok:Bool):Less (.dQ [(true,xG),(false,[.d (.b ok)])]) (.dQ [(true,e.cv),(false,[.d (.b ok)])]):=by
 rw[h];exact(iZ.cons (.cons (.refl _) (.cons (fB _) (.cons (.refl _) (.cons (.refl _) (.cons (fB _) (.cons (fB _) (.cons (.refl _) (.cons (.refl _) (.cons (.refl _) (.cons (.refl _) (.cons (fB _) (.cons (fB _) .nil)))))))))))) (.refl _)).less
theorem agk(e:aM)(h:e=Lx)(n p q r:Nat)(ok:Bool):Less (.dQ [(true,xG),(false,[.d (.b ok)])]) (.dQ [(true,e.cl n p q r),(false,[.d (.b ok)])]):=by
 rw[h];exact(iZ.cons (.cons (.refl _) (.cons (dV _) (.cons (.refl _) (.cons (.refl _) (.cons (dV _) (.cons (dV _) (.cons (.refl _) (.cons (.refl _) (.cons (.refl _) (.cons (.refl _) (.cons (dV _) (.cons (dV _) .nil)))))))))))) (.refl _)).less
theorem X5{b:Bool}{y:aj}(h:b=false\/y.ah.length=3):tL b y=⟨(y.ah.getD 0 cu).aO,eU (y.ah.getD 1 cu).ah,eP b (y.ah.getD 2 cu)⟩:=by
 unfold tL;rw[if_neg (by rintro⟨e1,e2⟩;rcases h with e|e;(rw[e] at e1;cases e1);exact e2 e)];rfl
theorem agl{y:aj}(h:y.ah.length≠3):tL true y=⟨[],[],l9⟩:=if_pos ⟨rfl,h⟩
theorem Zz(x:aj)(hsz:x.sz<=1048576):aH prog 145 [x.v] (.dQ [(true,(rE x).cv),(false,[.d (.b (zx x))])]):=aH.of_le fun S=>by
 have h1:=eG x;have hds:=Rq false x;have hos:=alQ (x:=AY false x) (by omega);have hgs:=fun i=>vE x i (m:=4194304) (by omega);obtain⟨l,hl⟩:∃l,l=x.ah.drop 7:=⟨_,rfl⟩
 have hll:l.length<=4194304:=by rw[hl,List.length_drop];omega
 have hlm:∀y∈l,y.sz<=4194304:=fun y hy=>by have:=iO (List.mem_of_mem_drop (hl▸hy));omega
 obtain⟨F,hF⟩:∃F,F=AY false x:=⟨_,rfl⟩;obtain⟨z,Tz⟩:∃z,z=x.ah.getD 6 cu:=⟨_,rfl⟩;have hzz:=hgs 6;rw[<-Tz] at hzz
 have f1:F.bD=(x.ah.getD 1 cu).aO:=by rw[hF];rfl
 have f2:F.aG=eU (x.ah.getD 2 cu).ah:=by rw[hF];rfl
 have f3:F.bQ=dO false (x.ah.getD 3 cu):=by rw[hF];rfl
 have f4:F.bY=(x.ah.getD 4 cu).ah.map (oI false):=by rw[hF];rfl
 have f5:F.gJ=decide ((0:Int)<((x.ah.getD 5 cu).ah.length:Int)):=by rw[hF];show decide (0<(x.ah.getD 5 cu).ah.length)=_;exact decide_eq_decide.2 (by omega)
 have f6:F.dX=decide (0<z.ah.length):=by rw[hF,Tz];rfl
 have f7:F.bE=if 0<z.ah.length then dO false (gX z.ah 0) else jf:=by rw[hF,Tz];rfl
 obtain⟨T,hT⟩:∃T:Nat->List (List D),T=fun i=>((l.map (tL false)).take i).map bA.enc:=⟨_,rfl⟩
 have hT0:T 0=[]:=by rw[hT];rfl
 have iG:∀i,(T i).length<=i:=fun i=>by rw[hT];simp only[List.length_map];exact List.length_take_le _ _
 have hTs:∀i (hi:i<l.length),T i++[(tL false l[i]).enc]=T (i+1):=fun i hi=>by
  have:=Dn (e:=bA.enc) (l:=l.map (tL false)) (i:=i) (by rw[List.length_map];exact hi);rw[List.getElem_map] at this;rw[hT];exact this
 have hTe:T l.length=F.aI.map bA.enc:=by
  rw[hT];simp only
  rw[List.take_of_length_le (by simp),hF,hl];rfl
 clear hT
 have fV:zx x=false->Less (.dQ [(true,xG),(false,[.d (.b false)])]) (.dQ [(true,(rE x).cv),(false,[.d (.b (zx x))])]):=fun e=>by
  rw[e];exact arf _ (X4 e) false
 have c2:=sI _ (hgs 2);have c3:=qN (x.ah.getD 3 cu) (hgs 3);have c4:=Je _ (hgs 4);rw[<-f2] at c2;rw[<-f3] at c3;rw[<-f4] at c4;refine(show Hold ?T->_ from fun tail=> ?main) ?tp
 case' main=>
  refine aD (rs:=[.cell 2 116,.tmp 3]) zmx func145 ntmps145 rfl rfl rfl rfl rfl ?_;refine W1 ?_;refine C1 (fH x 1 (by omega) (by omega)) ?_;refine C1 (fH x 2 (by omega) (by omega)) ?_;refine aZ c2 ?_;refine W1 ?_;refine C1 (fH x 3 (by omega) (by omega)) ?_;refine aZ c3 ?_;refine W1 ?_;refine C1 (fH x 4 (by omega) (by omega)) ?_;refine aZ c4 ?_;refine W1 ?_;refine C1 (fH x 5 (by omega) (by omega)) ?_;refine W3 ?_;refine C1 (fH x 6 (by omega) (by omega)) ?_;rw[<-Tz];refine S0 (fun hb h=>?_) fun hb h=>?_
  ·have hpos:0<z.ah.length:=by omega
   rw[if_pos hpos,jC hpos] at f7;have hz0:=xO z hpos;have c7:=qN z.ah[0] (by omega);rw[<-f7] at c7;have X6:F.dX=true:=f6.trans (decide_eq_true hpos);refine W3 ?_;refine aZ c7 ?_;refine W1 ?_;refine W3 ?_;refine C1 (yC x 7 (by omega)) ?_;rw[<-hl,<-f1,<-f5];refine qK 2 11 11 _ rfl rfl ?_
   refine oC (st':=[.box [.d (.s x.aO),.d (.sl (x.ah.map aj.enc))],.box xG,.box [.d (.s F.bD),.d (.sl (F.aG.map encS)),.d (.i .i64 F.bQ.aJ),.d (.s F.bQ.fName),.d (.sl (F.bQ.fArgs.map ak.enc)),.d (.sl (F.bY.map bq.enc)),.d (.b F.gJ),.d (.b F.dX),.d (.i .i64 F.bE.aJ),.d (.s F.bE.fName),.d (.sl (F.bE.fArgs.map ak.enc)),.bN (0,4) []],
    .box [.d (.s z.aO),.d (.sl (z.ah.map aj.enc))],.tok 11 []]::S) [1,2,4,6,7] [.c (.ptr (0,0) 0),.c (.ptr (0,1) 0),.c (.ptr (0,2) 0),.c (.d (.sl (l.map aj.enc))),.c (.d (.i .i64 0))] ?_ ?_ ?_
   ·rfl
   ·rw[X6];rfl
   ·exact tail.out
  ·have hpos:¬0<z.ah.length:=by omega
   rw[if_neg hpos] at f7;have X6:F.dX=false:=f6.trans (decide_eq_false hpos);refine C1 (yC x 7 (by omega)) ?_;rw[<-hl,<-f1,<-f5];refine Ii 2 _ _ rfl (EW (fB []) 10 _ rfl) ?_;refine qK 2 11 11 _ rfl rfl ?_
   refine oC (st':=[.box [.d (.s x.aO),.d (.sl (x.ah.map aj.enc))],.box xG,.box [.d (.s F.bD),.d (.sl (F.aG.map encS)),.d (.i .i64 F.bQ.aJ),.d (.s F.bQ.fName),.d (.sl (F.bQ.fArgs.map ak.enc)),.d (.sl (F.bY.map bq.enc)),.d (.b F.gJ),.d (.b F.dX),.d (.i .i64 F.bE.aJ),.d (.s F.bE.fName),.d (.sl (F.bE.fArgs.map ak.enc)),.bN (0,4) []],
    .box [.d (.s z.aO),.d (.sl (z.ah.map aj.enc))],.tok 11 []]::S) [1,2,4,6,7] [.c (.ptr (0,0) 0),.c (.ptr (0,1) 0),.c (.ptr (0,2) 0),.c (.d (.sl (l.map aj.enc))),.c (.d (.i .i64 0))] ?_ ?_ ?_
   ·rfl
   ·rw[X6,f7];rfl
   ·exact tail.out
 refine⟨?_⟩
 refine aU (ι:=Nat) zmx rfl [1,2,4,6,7] (fun i=>[.c (.ptr (0,0) 0),.c (.ptr (0,1) 0),.c (.ptr (0,2) 0),.c (.d (.sl (l.map aj.enc))),.c (.d (.i .i64 i))])
  (fun i=>[.box [.d (.s x.aO),.d (.sl (x.ah.map aj.enc))],.box xG,.box [.d (.s F.bD),.d (.sl (F.aG.map encS)),.d (.i .i64 F.bQ.aJ),.d (.s F.bQ.fName),.d (.sl (F.bQ.fArgs.map ak.enc)),.d (.sl (F.bY.map bq.enc)),.d (.b F.gJ),.d (.b F.dX),.d (.i .i64 F.bE.aJ),.d (.s F.bE.fName),.d (.sl (F.bE.fArgs.map ak.enc)),.bN (0,4) (T i)],
    .box [.d (.s z.aO),.d (.sl (z.ah.map aj.enc))],.tok 11 (T i)]::S)
  (fun i=>i<=l.length) (fun i=>l.length-i) 0 rfl (by rw[hT0]) (Nat.zero_le _) ?_
 intro i hi;have hl':=iG i;refine W1 ?_;refine S0 (fun hb h=>?_) fun hb h=>?_
 ·have hi':i<l.length:=by omega
  have hz:=hlm _ (List.getElem_mem hi');have hs:=hTs i hi';have hg:=fun k=>vE l[i] k hz;rw[X5 (b:=false) (.inl rfl)] at hs;simp only[bA.aB,au.aB,ak.aB,List.cons_append,List.nil_append] at hs;refine W3 ?_;refine C1 (fH l[i] 0 hz (by omega)) ?_;refine W3 ?_;refine C1 (fH l[i] 1 hz (by omega)) ?_;refine C1 (sI _ (hg 1)) ?_;refine W3 ?_;refine C1 (fH l[i] 2 hz (by omega)) ?_;refine C1 (FM (l[i].ah.getD 2 cu) (hg 2)) ?_;refine W3 ?_;rw[hs];exact bZ 5 (by decide) (i+1) (by omega) rfl rfl rfl rfl (by omega)
 ·have hi':i=l.length:=by omega
  subst hi';rw[hTe];clear hTs;refine C1 (oW x (by omega)) ?_;refine S0 (fun hb h=>?_) fun hb h=>?_
  ·exact fV (aA fun e=>by rw[e.1] at h;cases h)
  have hv:=h;refine S0 (fun hb h=>?_) fun hb h=>?_
  ·exact fV (aA fun e=>by omega)
  have hne:x.ah≠[]:=fun e=>by rw[e] at h;exact h rfl
  have hok:=ajh hne;rw[hv,Bool.true_and] at hok;rw[<-hF] at hok hos hds;refine W3 ?_;refine C1 (ajf F (by omega)) ?_;refine C1 (uo (XK F) x (by omega)) ?_;refine S0 (fun hb h=>?_) fun hb h=>?_
  ·exact fV (by rw[hok];exact aA h)
  ·have hy:zx x=true:=by rw[hok];exact aY h
   rw[aax hy,hy,<-aji hy,<-hF];exact gL _
theorem X7(x:aj)(n:Nat)(hsz:x.sz<=1048576)(hf:fM x=true/\7<=x.ah.length/\dJ x.ah 0=kY):aH prog 155 [x.v] (.dQ [(true,(rE x).cl n (pI (rE x) n) (qI (rE x) n) (rI (rE x) n)),(false,[.d (.b (zx x))])]):=aH.of_le fun S=>by
 have h1:=eG x;have hds:=Rq true x;obtain⟨F,hF⟩:∃F,F=AY true x:=⟨_,rfl⟩;obtain⟨p,hp⟩:∃p,p=pI F n:=⟨_,rfl⟩;obtain⟨q,hq⟩:∃q,q=qI F n:=⟨_,rfl⟩;obtain⟨r,hr0⟩:∃r,r=rI F n:=⟨_,rfl⟩
 have fV:zx x=false->Less (.dQ [(true,xG),(false,[.d (.b false)])]) (.dQ [(true,(rE x).cl n (pI (rE x) n) (qI (rE x) n) (rI (rE x) n)),(false,[.d (.b (zx x))])]):=fun e=>by
  rw[e];exact agk _ (X4 e) n _ _ _ false
 have I7:=sZ hf.1
 have hfo:iK x=true:=by have:=hf.1;unfold fM at this;rw[Bool.and_eq_true] at this;exact this.1
 have hlen:7<=x.ah.length:=hf.2.1;have hr:=gV (l:=x.ah)
 have f1:F.bD=x.ah[1].aO:=by rw[hF];exact jH (by omega)
 have f2:F.aG=eU x.ah[2].ah:=by rw[hF,<-jC (l:=x.ah) (i:=2) (by omega)];rfl
 have f3:F.bQ=dO true x.ah[3]:=by rw[hF,<-jC (l:=x.ah) (i:=3) (by omega)];rfl
 have f4:F.bY=x.ah[4].ah.map (oI true):=by rw[hF,<-jC (l:=x.ah) (i:=4) (by omega)];rfl
 have f5:F.gJ=decide ((0:Int)<(x.ah[5].ah.length:Int)):=by rw[hF,<-jC (l:=x.ah) (i:=5) (by omega)];show decide (0<(x.ah.getD 5 cu).ah.length)=_;exact decide_eq_decide.2 (by show _<->((0:Int)<((x.ah.getD 5 cu).ah.length:Int));omega)
 obtain⟨z,Tz⟩:∃z,z=x.ah[6]:=⟨_,rfl⟩
 have f6:F.dX=decide (0<z.ah.length):=by rw[hF,Tz,<-jC (l:=x.ah) (i:=6) (by omega)];rfl
 have f7:F.bE=if 0<z.ah.length then dO true (gX z.ah 0) else jf:=by rw[hF,Tz,<-jC (l:=x.ah) (i:=6) (by omega)];rfl
 have hzs:=fun i hi=>xO x (i:=i) hi;have hzz:=hzs 6 (by omega);subst Tz;have c2:=q8 x.ah[2] (by have:=hzs 2 (by omega);omega) n;have c3:=q9 x.ah[3] (n+1) (by have:=hzs 3 (by omega);omega);have c4:=Jf x.ah[4] p (p+1) (by have:=hzs 4 (by omega);omega);rw[<-f2] at c2;rw[<-f3] at c3;rw[<-f4] at c4;obtain⟨l,hl⟩:∃l,l=x.ah.drop 7:=⟨_,rfl⟩
 have hll:l.length<=4194304:=by rw[hl,List.length_drop];omega
 have hlm:∀y∈l,y.sz<=1048576/\iK y=true:=fun y hy=>by
  have h2:=List.mem_of_mem_drop (hl▸hy);have:=iO h2;exact⟨by omega,xA (E8 hfo (fun e=>by rw[e] at h2;cases h2)) h2⟩
 obtain⟨L,hL⟩:∃L:Nat->Nat,L=fun i=>r+1+kD (((l.map (tL true)).take i).map bA.enc):=⟨_,rfl⟩;obtain⟨T,hT⟩:∃T:Nat->List (List D),T=fun i=>dZ (((l.map (tL true)).take i).map bA.enc) (r+1):=⟨_,rfl⟩
 have hT0:T 0=[]:=by rw[hT];rfl
 have iG:∀i,(T i).length<=i:=fun i=>by rw[hT];simp only[kI,List.length_map];exact List.length_take_le _ _
 have hTr:∀i,∀r∈T i,r.length=11:=fun i=>by
  rw[hT]
  exact xJ fun r hr=>by
   obtain⟨z,_,rfl⟩:=List.mem_map.1 hr;exact z.cO
 have hTs:∀i (hi:i<l.length),T i++[eZ (tL true l[i]).enc (L i)]=T (i+1):=fun i hi=>by
  have:=Bz (e:=bA.enc) (l:=l.map (tL true)) (i:=i) (by rw[List.length_map];exact hi) (r+1);rw[List.getElem_map] at this;rw[hT,hL];exact this
 have hTe:T l.length=lMe F.aI (r+1):=by
  rw[hT];simp only
  rw[List.take_of_length_le (by simp),hF,hl];rfl
 clear hT hL;by_cases hpos:0<x.ah[6].ah.length
 case' pos=>
  refine lN (n) (rs:=[.cell 2 116,.tmp 3]) zmx func155 ntmps155 rfl rfl rfl rfl rfl ?_;refine W1 ?_;refine aZ (vD x kY 7 (by omega) (by omega) (by omega)) ?_;simp -implicitDefEqProofs (disch:=omega) only[go_sem,aY hf];refine W3 ?_;refine aZ c2 ?_;refine W1 ?_;refine W3 ?_;refine aZ c3 ?_;refine W1 ?_;refine W3 ?_;refine aZ c4 ?_;refine W1 ?_;refine W3 ?_;refine dM (fun hb=> ?_) (fun hb=> ?_)<;>have h:=hb<;>(try simp only[wf_preprocess] at h)<;>(first|(exfalso;omega)|skip);simp -implicitDefEqProofs (disch:=omega) only[go_sem,hb];refine W3 ?_;rw[if_pos hpos,jC hpos] at f7;have hz0:=xO x.ah[6] hpos;have c7:=q9 x.ah[6].ah[0] q (by omega);rw[<-f7] at c7;have X6:F.dX=true:=f6.trans (decide_eq_true hpos);refine W3 ?_;refine aZ c7 ?_;refine W1 ?_;refine⟨⟨by omega,by omega,hr⟩,?_⟩;rw[oZ _ _ _ (Nat.le_refl _),<-hl,<-f1,<-f5];refine W1 ?_;refine qo r 3 11 11 _ rfl rfl ?_;refine oC (st':=[.seed n,.box [.d (.s x.aO),.d (.sl (x.ah.map aj.enc))],.box xG,.box [.d (.s F.bD),.d (.ol n (F.aG.map encS)),.d (.i .i64 F.bQ.aJ),.d (.s F.bQ.fName),.d (.ol (n+1) (lt F.bQ.fArgs (n+1+1))),.d (.ol p (lB F.bY (p+1))),.d (.b F.gJ),.d (.b F.dX),.d (.i .i64 F.bE.aJ),.d (.s F.bE.fName),.d (.ol q (lt F.bE.fArgs (q+1))),.bN (0,4) []],.fu r 11 []]::S) [1,2,5,54,55,56] [.c (.ptr (0,1) 0),.c (.ptr (0,2) 0),.c (.ptr (0,3) 0),.c (.d (.sl (l.map aj.enc))),.c (.d (.i .i64 l.length)),.c (.d (.i .i64 0))] ?_ ?_ ?_
  ·rfl
  ·rw[X6];rfl
 case' neg=>
  refine lN (n) (rs:=[.cell 2 116,.tmp 3]) zmx func155 ntmps155 rfl rfl rfl rfl rfl ?_;refine W1 ?_;refine aZ (vD x kY 7 (by omega) (by omega) (by omega)) ?_;simp -implicitDefEqProofs (disch:=omega) only[go_sem,aY hf];refine W3 ?_;refine aZ c2 ?_;refine W1 ?_;refine W3 ?_;refine aZ c3 ?_;refine W1 ?_;refine W3 ?_;refine aZ c4 ?_;refine W1 ?_;refine W3 ?_;refine dM (fun hb=> ?_) (fun hb=> ?_)<;>have h:=hb<;>(try simp only[wf_preprocess] at h)<;>(first|(exfalso;omega)|skip);simp -implicitDefEqProofs (disch:=omega) only[go_sem,hb];refine W3 ?_;rw[if_neg hpos] at f7;have X6:F.dX=false:=f6.trans (decide_eq_false hpos);refine⟨⟨by omega,by omega,hr⟩,?_⟩;rw[oZ _ _ _ (Nat.le_refl _),<-hl,<-f1,<-f5];refine W1 ?_;refine Ii 3 _ _ rfl (EW (dV q) 10 _ rfl) ?_;refine qo r 3 11 11 _ rfl rfl ?_;refine oC (st':=[.seed n,.box [.d (.s x.aO),.d (.sl (x.ah.map aj.enc))],.box xG,.box [.d (.s F.bD),.d (.ol n (F.aG.map encS)),.d (.i .i64 F.bQ.aJ),.d (.s F.bQ.fName),.d (.ol (n+1) (lt F.bQ.fArgs (n+1+1))),.d (.ol p (lB F.bY (p+1))),.d (.b F.gJ),.d (.b F.dX),.d (.i .i64 F.bE.aJ),.d (.s F.bE.fName),.d (.ol q (lt F.bE.fArgs (q+1))),.bN (0,4) []],.fu r 11 []]::S) [1,2,5,54,55,56] [.c (.ptr (0,1) 0),.c (.ptr (0,2) 0),.c (.ptr (0,3) 0),.c (.d (.sl (l.map aj.enc))),.c (.d (.i .i64 l.length)),.c (.d (.i .i64 0))] ?_ ?_ ?_
  ·rfl
  ·rw[X6,f7];rfl
 all_goals
  refine aU (ι:=Nat×List (List D)) zmx rfl [1,2,5,54,55,56] (fun y=>[.c (.ptr (0,1) 0),.c (.ptr (0,2) 0),.c (.ptr (0,3) 0),.c (.d (.sl (l.map aj.enc))),.c (.d (.i .i64 l.length)),.c (.d (.i .i64 y.1))])
   (fun y=>[.seed n,.box [.d (.s x.aO),.d (.sl (x.ah.map aj.enc))],.box xG,.box [.d (.s F.bD),.d (.ol n (F.aG.map encS)),.d (.i .i64 F.bQ.aJ),.d (.s F.bQ.fName),.d (.ol (n+1) (lt F.bQ.fArgs (n+1+1))),.d (.ol p (lB F.bY (p+1))),.d (.b F.gJ),.d (.b F.dX),.d (.i .i64 F.bE.aJ),.d (.s F.bE.fName),.d (.ol q (lt F.bE.fArgs (q+1))),.bN (0,4) y.2],.fu r 11 y.2]::S)
   (fun y=>y.1<=l.length/\iN y.2 (T y.1)) (fun y=>l.length-y.1) (0,[]) rfl rfl ⟨Nat.zero_le _,by rw[hT0];exact .nil⟩ ?_
  rintro⟨i,U⟩ ⟨p1,p2⟩;simp only at p1 p2;have hU1:=p2.length;have hU2:=iG i;have hU3:=p2.rows (hTr i);refine W1 ?_;refine S0 (fun hb h=>?_) fun hb h=>?_
  ·have hi':i<l.length:=by omega
   obtain⟨hz,hfy⟩:=hlm _ (List.getElem_mem hi');have hs:=hTs i hi';have hz1:=eG l[i];refine W3 ?_;refine S0 (fun hb h=>?_) fun hb h=>?_
   ·have hl3:l[i].ah.length=3:=by omega
    have hd:=X5 (b:=true) (y:=l[i]) (.inr hl3);have g0:l[i].ah.getD 0 cu=l[i].ah[0]:=jC (by omega);have g1:l[i].ah.getD 1 cu=l[i].ah[1]:=jC (by omega);have g2:l[i].ah.getD 2 cu=l[i].ah[2]:=jC (by omega);rw[g0,g1,g2] at hd;rw[hd,X3] at hs;have hy1:=xO l[i] (i:=1) (by omega);have hy2:=xO l[i] (i:=2) (by omega);refine W3 ?_;refine C1 (q8 l[i].ah[1] (by omega) (L i)) ?_;refine W3 ?_;refine C1 (Et l[i].ah[2] (L i+1) (Rx hfy (by omega)) (by omega)) ?_;refine W3 ?_;refine bZ 5 (by decide) (i+1,_) (by simp only;omega) rfl rfl rfl rfl ⟨by simp only;omega,?_⟩
    simp only
    rw[<-hs];exact p2.snoc (.refl _)
   ·rw[agl (by omega),X3] at hs;refine bZ 5 (by decide) (i+1,_) (by simp only;omega) rfl rfl rfl rfl ⟨by simp only;omega,?_⟩
    simp only
    rw[<-hs];exact p2.snoc (.cons (.refl _) (.cons (oP _) (.cons (.refl _) (.cons (.refl _) (.cons (.refl _) (.cons (.refl _) (.cons (.refl _) (.cons (.refl _) (.cons (oP _) (.cons (oP _) (.cons (oP _) .nil)))))))))))
  ·have hi':i=l.length:=by omega
   subst hi';clear hTs;rw[hTe] at p2
   have hcl:Less (.agg [.d (.s F.bD),.d (.ol n (F.aG.map encS)),.d (.i .i64 F.bQ.aJ),.d (.s F.bQ.fName),.d (.ol (n+1) (lt F.bQ.fArgs (n+1+1))),.d (.ol p (lB F.bY (p+1))),.d (.b F.gJ),.d (.b F.dX),.d (.i .i64 F.bE.aJ),.d (.s F.bE.fName),.d (.ol q (lt F.bE.fArgs (q+1))),.d (.sl U)]) F.v:=by
    have lab:∀(es:List (List D))(k j:Nat),pO (.d (.ol k (dZ es j))) (.d (.sl es)):=fun es k j w σ S β v h=>(qp es j).rep (uD h);exact(fG.cons (.refl _) (.cons (Gp _ _) (.cons (.refl _) (.cons (.refl _) (.cons (lab _ _ _) (.cons (lab _ _ _) (.cons (.refl _) (.cons (.refl _) (.cons (.refl _) (.cons (.refl _) (.cons (lab _ _ _) (.cons (vV (p2.trans (qp _ _))) .nil)))))))))))).less
   rw[<-hF] at hds;refine oD (EA F (by omega)) (.cons hcl .nil) ?_;refine W1 ?_;refine S0 (fun hb h=>?_) fun hb h=>?_
   ·exact fV (aA fun e=>by rw[<-hF] at e;rw[e.2.2.1] at h;cases h)
   have hv:=h;have hz:=KM hv;refine W3 ?_;refine oD (aH.less (XO F 0 hv (by omega)) (Lm (xR F) 0)) (.cons hcl .nil) ?_;refine W1 ?_;refine C1 (uq (xR F) x (by omega)) ?_;refine S0 (fun hb h=>?_) fun hb h=>?_
   ·exact fV (aA fun e=>h (by rw[<-hF] at e;exact e.2.2.2))
   ·have hy:zx x=true:=by
     unfold zx;rw[<-hF];exact aY ⟨hf.1,hf.2,hv,h⟩
    rw[aax hy,hy,<-hF,<-hp,<-hq,<-hr0];exact(iZ.cons (.cons (.refl _) (.cons (.refl _) (.cons (.refl _) (.cons (.refl _) (.cons (.refl _) (.cons (.refl _) (.cons (.refl _) (.cons (.refl _) (.cons (.refl _) (.cons (.refl _) (.cons (.refl _) (.cons (Ij p2) .nil)))))))))))) (.refl _)).less
theorem X8(x:aj)(n:Nat)(hsz:x.sz<=1048576):aH prog 155 [x.v] (.dQ [(true,(rE x).cl n (pI (rE x) n) (qI (rE x) n) (rI (rE x) n)),(false,[.d (.b (zx x))])]):=by
 by_cases hf:fM x=true/\7<=x.ah.length/\dJ x.ah 0=kY
 ·exact X7 x n hsz hf
 ·refine aH.of_le fun S=> ?_
  have fV:zx x=false->Less (.dQ [(true,xG),(false,[.d (.b false)])]) (.dQ [(true,(rE x).cl n (pI (rE x) n) (qI (rE x) n) (rI (rE x) n)),(false,[.d (.b (zx x))])]):=fun e=>by
   rw[e];exact agk _ (X4 e) n _ _ _ false
  refine aD (rs:=[.cell 2 116,.tmp 3]) zmx func155 ntmps155 rfl rfl rfl rfl rfl ?_;refine W1 ?_;refine C1 (vD x kY 7 (by omega) (by omega) (by omega)) ?_;refine S0 (fun hb h=>?_) fun hb h=>?_
  ·exact fV (aA fun e=>hf ⟨e.1,e.2.1.1,e.2.1.2⟩)
  ·exact absurd h hf
theorem anO(p:aW):Ac [p]=gQ p:=by simp[Ac]
theorem anP(p:aW):Ad [p]=jm p:=by simp[Ad]
theorem anQ(p:aW):Ae [p]=iH p.aQ:=by simp[Ae]
theorem anR(p:aW):Af [p]=fnNames p:=by simp[Af]
theorem Ql(p:aW)(hsz:p.sz<=4194304):aH prog 79 [p.v] (.c (.d (.b (validPkg p)))):=fun S=>by
 have hs:=aW.sum p;have hb:=aW.bounds hsz
 have hV:∀s∈p.fT,s.length<=4194304:=fun s h=>by have:=tq h;omega
 have l1:(gQ p).length<=1073741824:=by simp[gQ];omega
 have l2:(jm p).length<=1073741824:=by simp[jm];omega
 have l3:(iH p.aQ).length<=1073741824:=by omega
 have l4:(fnNames p).length<=1073741824:=by simp[fnNames];omega
 refine aD (rs:=[.tmp 2]) zmx func79 ntmps79 rfl rfl rfl rfl rfl ?_;refine W1 ?_;refine C1 (Zt p hsz) ?_
 repeat' (first
  |refine S0 (fun hb h=>?_) fun hb h=>?_
  |((with_reducible show fA _ _ 148 _ _ _ _);refine aZ (iJ p.fName (by omega)) ?_;refine W1 ?_)
  |((with_reducible show fA _ _ 149 _ _ _ _);refine aZ (ng p.fT 5 (by omega) hV) ?_;refine W1 ?_)
  |((with_reducible show fA _ _ 150 _ _ _ _);refine aZ (su p.fT p.fName (by omega)) ?_;refine W1 ?_)
  |((with_reducible show fA _ _ 151 _ _ _ _);refine aZ (qU (gQ p) l1) ?_;refine W1 ?_)
  |((with_reducible show fA _ _ 151 _ _ _ _);refine aZ (qU (jm p) l2) ?_;refine W1 ?_)
  |((with_reducible show fA _ _ 151 _ _ _ _);refine aZ (qU (iH p.aQ) l3) ?_;refine W1 ?_)
  |((with_reducible show fA _ _ 151 _ _ _ _);refine aZ (qU (fnNames p) l4) ?_;refine W1 ?_)
  |((with_reducible show fA _ _ 152 _ _ _ _);refine aZ (Zv p hsz) ?_;refine W1 ?_)
  |(refine ay ?_;unfold validPkg vY oo;rw[anO,anP,anQ,anR];grind [gG,je,aY,aA]))
noncomputable def Fj(y:aj):List (List D):=if isK j5 y=true then [(vF y).enc] else []
noncomputable def Fp(y:aj):List (List D):=if isK oG y=true then [(rV y).enc] else []
noncomputable def Fq(y:aj):List (List D):=if isK kY y=true then [(rE y).enc] else []
noncomputable def addFn(y:aj):List (List D):=if isK xQ y=true then [(vM y).enc] else []
theorem vO{s s':List UInt8}{y:aj}(h:isK s y=true)(hs:s≠s')(r:List (List D)):(if isK s' y=true then r else [])=[]:=if_neg (by rw[nR h hs];decide)
def pst(bx br:List C)(nm dp:D)(a b c d:List (List D)):List Obj:=[.box bx,.box br,.box [.d nm,.d dp,.bN (0,3) a,.bN (0,4) b,.bN (0,5) c,.bN (0,6) d],.tok 5 a,.tok 3 b,.tok 12 c,.tok 16 d]
theorem ajt{l:List aj}{i:Nat}(hi:i<l.length):(IE (l.take (i+1))).map bf.enc=(IE (l.take i)).map bf.enc++Fj l[i]:=by
 unfold IE Fj;rw[EB _ _ hi,List.map_append];split<;>rfl
theorem aju{l:List aj}{i:Nat}(hi:i<l.length):(IG (l.take (i+1))).map aP.enc=(IG (l.take i)).map aP.enc++Fp l[i]:=by
 unfold IG Fp;rw[EB _ _ hi,List.map_append];split<;>rfl
theorem ajv{l:List aj}{i:Nat}(hi:i<l.length):(II (l.take (i+1))).map aM.enc=(II (l.take i)).map aM.enc++Fq l[i]:=by
 unfold II Fq;rw[EB _ _ hi,List.map_append];split<;>rfl
theorem ajw{l:List aj}{i:Nat}(hi:i<l.length):(IJ (l.take (i+1))).map aS.enc=(IJ (l.take i)).map aS.enc++addFn l[i]:=by
 unfold IJ addFn;rw[EB _ _ hi,List.map_append];split<;>rfl
theorem agm(l:List aj)(i:Nat):((IE (l.take i)).map bf.enc).length<=i/\((IG (l.take i)).map aP.enc).length<=i/\((II (l.take i)).map aM.enc).length<=i/\((IJ (l.take i)).map aS.enc).length<=i:=by
 have h:=fun {α:Type} s (f:aj->α)=>aaq s f l i
 simp only[List.length_map,IE,IG,II,IJ] at *
 exact⟨h _ id,h _ id,h _ id,h _ id⟩
def vP:List C:=[.d (.s []),.bG [],.bG [],.bG [],.bG [],.bG []]
def aW.cv(p:aW):List C:=[.d (.s p.fName),.d (.sl (p.fT.map encS)),.d (.sl (p.dh.map bf.enc)),.d (.sl (p.aQ.map aP.enc)),.d (.sl (p.cB.map aM.enc)),.d (.sl (p.bX.map aS.enc))]
theorem anS(e:aW)(h:e=Dm)(ok:Bool):Less (.dQ [(true,vP),(false,[.d (.b ok)])]) (.dQ [(true,e.cv),(false,[.d (.b ok)])]):=by
 subst h;exact(iZ.cons (.cons (.refl _) (.cons (fB _) (.cons (fB _) (.cons (fB _) (.cons (fB _) (.cons (fB _) .nil)))))) (.refl _)).less
theorem ZA(y:aj)(hsz:y.sz<=1048576)(bx br:List C)(nm dp:D)(a b c d:List (List D))(Ω:Store)(ha:a.length<=1048576)(hb:b.length<=1048576)(hc:c.length<=1048576)(hd:d.length<=1048576):
 dz prog 78 [.c (.ptr (0,2) 0),y.v] (pst bx br nm dp a b c d::Ω) (fun r S'=>r=.c (.d (.b (jJ y)))/\S'=pst bx br nm dp (a++Fj y) (b++Fp y) (c++Fq y) (d++addFn y)::Ω):=by
 unfold pst;refine aD (rs:=[.tmp 4]) zmx func78 ntmps78 rfl rfl rfl rfl rfl ?_;refine W1 ?_;refine C1 (fH y 0 (by omega) (by omega)) ?_;have hk:∀s,isK s y=decide ((y.ah.getD 0 cu).aO=s):=fun s=>rfl;refine S0 (fun hb h=>?_) fun hb h=>?_
 ·have h1:isK j5 y=true:=by rw[hk];exact hb
  refine C1 (X0 y (by omega)) ?_;refine W3 ?_;have e0:jJ y=xY y:=if_pos h1;have e1:Fj y=[(vF y).enc]:=if_pos h1;have e2:Fp y=[]:=vO h1 (by decide) _;have e3:Fq y=[]:=vO h1 (by decide) _;have e4:addFn y=[]:=vO h1 (by decide) _;rw[e0,e1,e2,e3,e4];exact Z1
  (repeat(with_reducible refine And.intro ?_ ?_;focus first|omega|rfl|assumption|exact⟨_,rfl,rfl⟩|(simp;omega)|(simp;done)))
 have n1:isK j5 y=false:=by rw[hk];exact hb
 refine S0 (fun hb h=>?_) fun hb h=>?_
 ·have h1:isK oG y=true:=by rw[hk];exact hb
  refine C1 (Rw y (by omega)) ?_;refine W3 ?_
  have e0:jJ y=okD y:=by unfold jJ;simp only[n1,h1,if_false,if_true,Bool.false_eq_true]
  have e1:Fj y=[]:=vO h1 (by decide) _;have e2:Fp y=[(rV y).enc]:=if_pos h1;have e3:Fq y=[]:=vO h1 (by decide) _;have e4:addFn y=[]:=vO h1 (by decide) _;rw[e0,e1,e2,e3,e4];exact Z1
  (repeat(with_reducible refine And.intro ?_ ?_;focus first|omega|rfl|assumption|exact⟨_,rfl,rfl⟩|(simp;omega)|(simp;done)))
 have n2:isK oG y=false:=by rw[hk];exact hb
 refine S0 (fun hb h=>?_) fun hb h=>?_
 ·have h1:isK kY y=true:=by rw[hk];exact hb
  refine C1 (Zz y (by omega)) ?_;refine W3 ?_
  have e0:jJ y=zx y:=by unfold jJ;simp only[n1,n2,h1,if_false,if_true,Bool.false_eq_true]
  have e1:Fj y=[]:=vO h1 (by decide) _;have e2:Fp y=[]:=vO h1 (by decide) _;have e3:Fq y=[(rE y).enc]:=if_pos h1;have e4:addFn y=[]:=vO h1 (by decide) _;rw[e0,e1,e2,e3,e4];exact Z1
  (repeat(with_reducible refine And.intro ?_ ?_;focus first|omega|rfl|assumption|exact⟨_,rfl,rfl⟩|(simp;omega)|(simp;done)))
 have n3:isK kY y=false:=by rw[hk];exact hb
 refine S0 (fun hb h=>?_) fun hb h=>?_
 ·have h1:isK xQ y=true:=by rw[hk];exact hb
  refine C1 (XT y (by omega)) ?_;refine W3 ?_
  have e0:jJ y=okF y:=by unfold jJ;simp only[n1,n2,n3,h1,if_false,if_true,Bool.false_eq_true]
  have e1:Fj y=[]:=vO h1 (by decide) _;have e2:Fp y=[]:=vO h1 (by decide) _;have e3:Fq y=[]:=vO h1 (by decide) _;have e4:addFn y=[(vM y).enc]:=if_pos h1;rw[e0,e1,e2,e3,e4];exact Z1
  (repeat(with_reducible refine And.intro ?_ ?_;focus first|omega|rfl|assumption|exact⟨_,rfl,rfl⟩|(simp;omega)|(simp;done)))
 have n4:isK xQ y=false:=by rw[hk];exact hb
 unfold jJ Fj Fp Fq addFn;simp only[n1,n2,n3,n4,if_false,Bool.false_eq_true,List.append_nil];exact⟨trivial,trivial⟩
theorem ZB(x:aj)(hsz:x.sz<=1048576):aH prog 34 [x.v] (.dQ [(true,(Jd x).cv),(false,[.d (.b (CV x))])]):=aH.of_le fun S=>by
 have h1:=eG x;obtain⟨l,hl⟩:∃l,l=x.ah.drop 3:=⟨_,rfl⟩
 have hll:l.length<=1048576:=by rw[hl,List.length_drop];omega
 have hlen:l.length=x.ah.length-3:=by rw[hl,List.length_drop]
 have hlm:∀y∈l,y.sz<=1048576:=fun y hy=>by
  have:=iO (List.mem_of_mem_drop (hl▸hy));omega
 have fV:CV x=false->Less (.dQ [(true,vP),(false,[.d (.b false)])]) (.dQ [(true,(Jd x).cv),(false,[.d (.b (CV x))])]):=fun e=>by
  rw[e];exact anS _ (af9 e) false
 have hnm:((x.ah.getD 2 cu).ah).length<=1073741824:=by
  have:=Rv x 2 (Nat.le_refl _);have:=eG (x.ah.getD 2 cu);omega
 refine aD (rs:=[.cell 2 40,.tmp 3]) zmx func34 ntmps34 rfl rfl rfl rfl rfl ?_;refine W1 ?_;refine C1 (fH x 2 (by omega) (by omega)) ?_;refine C1 (Es _ hnm) ?_;refine C1 (fH x 1 (by omega) (by omega)) ?_;refine C1 (oW x (by omega)) ?_;refine S0 (fun hb h=>?_) fun hb h=>?_
 ·exact fV (aA fun e=>by rw[e.1.1] at h;cases h)
 have hv:=h;refine S0 (fun hb h=>?_) fun hb h=>?_
 ·exact fV (aA fun e=>by have:=e.1.2.1;omega)
 have h3:3<=x.ah.length:=by omega
 refine W3 ?_;have a0:x.ah[0].aO=dJ x.ah 0:=(jH (by omega)).symm;have g2:x.ah[2]=gX x.ah 2:=(jC (by omega)).symm;refine S0 (fun hb h=>?_) fun hb h=>?_
 ·exact fV (aA fun e=>h (a0.trans e.1.2.2.1))
 have hw:dJ x.ah 0=ajp:=by rw[<-a0];exact h
 refine W3 ?_;refine S0 (fun hb h=>?_) fun hb h=>?_
 ·exact fV (aA fun e=>h (by rw[g2];exact e.1.2.2.2.1))
 have hz2:(gX x.ah 2).aO=[]:=by rw[<-g2];exact h
 refine S0 (fun hb h=>?_) fun hb h=>?_
 ·exact fV (aA fun e=>by have:=e.1.2.2.2.2;unfold allA at h;rw[show(x.ah.getD 2 cu)=gX x.ah 2 from rfl,this] at h;cases h)
 have hall:(gX x.ah 2).ah.all (fun y=>decide (y.aO≠[]))=true:=h;have hhead:UK x:=⟨hv,h3,hw,hz2,hall⟩;have hvs:=sZ hv;refine qK 2 2 5 _ rfl rfl ?_;refine qK 2 3 3 _ rfl rfl ?_;refine qK 2 4 12 _ rfl rfl ?_;refine qK 2 5 16 _ rfl rfl ?_
 refine aU (ι:=Nat) zmx rfl [1,2,6,7] (fun i=>[.c (.ptr (0,0) 0),.c (.ptr (0,1) 0),.c (.ptr (0,2) 0),.c (.d (.i .i64 (i+3:Nat)))])
  (fun i=>pst [.d (.s x.aO),.d (.sl (x.ah.map aj.enc))] vP (.s (x.ah.getD 1 cu).aO) (.sl ((eU (x.ah.getD 2 cu).ah).map encS)) ((IE (l.take i)).map bf.enc) ((IG (l.take i)).map aP.enc) ((II (l.take i)).map aM.enc) ((IJ (l.take i)).map aS.enc)::S)
  (fun i=>i<=l.length/\∀j,∀hj:j<l.length,j<i->jJ l[j]=true) (fun i=>l.length-i) 0 rfl rfl ⟨Nat.zero_le _,fun j _ h=>by omega⟩ ?_
 rintro i ⟨p1,p2⟩;obtain⟨t1,t2,t3,t4⟩:=agm l i;simp -implicitDefEqProofs (disch:=omega) only[go_sem,pst];refine S0 (fun hb h=>?_) fun hb h=>?_
 ·have hi:i<l.length:=by omega
  have hm:=List.getElem_mem hi;have hz:=hlm _ hm
  have hg:x.ah[i+3]'(by omega)=l[i]:=by
   simp only[hl,List.getElem_drop];congr 1;omega
  refine W3 ?_;simp only[hg];have hc:=ZA l[i] hz [.d (.s x.aO),.d (.sl (x.ah.map aj.enc))] vP (.s (x.ah.getD 1 cu).aO) (.sl ((eU (x.ah.getD 2 cu).ah).map encS)) _ _ _ _ S (Nat.le_trans t1 (by omega)) (Nat.le_trans t2 (by omega)) (Nat.le_trans t3 (by omega)) (Nat.le_trans t4 (by omega));rw[<-ajt hi,<-aju hi,<-ajv hi,<-ajw hi] at hc;refine bg rfl hc ?_;simp -implicitDefEqProofs (disch:=omega) only[go_sem,pst];refine S0 (fun hb h=>?_) fun hb h=>?_
  ·exact⟨by decide,fV (aA fun e=>by have:=e.2.1 l[i] (by rw[<-hl];exact hm);rw[this] at h;cases h)⟩
  ·refine bJ (i+1) (by omega) rfl rfl ⟨by omega,fun j hj hji=> ?_⟩;by_cases e:j=i
   ·subst e;exact h
   ·exact p2 j hj (by omega)
 ·have hi:i=l.length:=by omega
  subst hi;rw[List.take_length,hl];refine C1 (Ql (decP x) (aas (by omega))) ?_
  have hits:∀y∈x.ah.drop 3,jJ y=true:=fun y hy=>by
   rw[<-hl] at hy;obtain⟨j,hj,rfl⟩:=List.mem_iff_getElem.1 hy;exact p2 j hj hj
  refine S0 (fun hb h=>?_) fun hb h=>?_
  ·exact⟨by decide,fV (aA fun e=>by rw[e.2.2] at h;cases h)⟩
  ·have hy:CV x=true:=aY ⟨hhead,hits,h⟩;rw[aap hy,hy];exact⟨by decide,gL _⟩
def pQ(b:Bool)(r:List D)(n:Nat):List (List D):=if b=true then [eZ r n] else []
def FQ(n:Nat)(bx br:List C)(nm dp:D)(n1 n2 n3 n4:Nat)(a b c d:List (List D))(mo:List Obj):List Obj:=.seed n:: .box bx:: .box br:: .box [.d nm,.d dp,.bN (0,4) a,.bN (0,5) b,.bN (0,6) c,.bN (0,7) d]:: .fu n1 5 a:: .fu n2 3 b:: .fu n3 12 c:: .fu n4 16 d::mo
def unD:C->D
 | .d x=>x
 |_=>.s []
theorem al3{r:List D}{cs:List C}(h:r.map C.d=cs):r=cs.map unD:=by
 subst h;rw[List.map_map];exact(List.map_id r).symm
theorem Dp{b:Bool}{r:List D}{n:Nat}{cs:List C}(h:b=true)(hc:(eZ r n).map C.d=cs):pQ b r n=[cs.map unD]:=by
 unfold pQ;rw[if_pos h,al3 hc]
theorem jo{b:Bool}{r:List D}{n:Nat}(h:b=false):pQ b r n=[]:=by
 unfold pQ;rw[if_neg (by rw[h];decide)]
theorem al4(x:aP)(n:Nat):(eZ x.enc n).map C.d=[.d (.s x.fName),.d (.ol n (x.aG.map encS)),.d (.ol (n+1) (lc x.aF (n+1+1)))]:=by rw[alW];rfl
def CX(p:aW)(n:Nat):Nat:=n+1+(kD (p.dh.map bf.enc)+1)
def CY(p:aW)(n:Nat):Nat:=CX p n+(kD (p.aQ.map aP.enc)+1)
def EC(p:aW)(n:Nat):Nat:=CY p n+(kD (p.cB.map aM.enc)+1)
theorem Nu(p:aW)(n:Nat):eZ p.enc n=[.s p.fName,.ol n (p.fT.map encS),.ol (n+1) (dZ (p.dh.map bf.enc) (n+1+1)),.ol (CX p n) (dZ (p.aQ.map aP.enc) (CX p n+1)),.ol (CY p n) (dZ (p.cB.map aM.enc) (CY p n+1)),.ol (EC p n) (dZ (p.bX.map aS.enc) (EC p n+1))]:=by
 simp only[aW.aB,eZ,og,pX,Nat.add_zero,vB,xw,Nat.zero_add,CX,CY,EC]
theorem Fu{α:Type}(s:List UInt8)(f:aj->α)(e:α->List D){l:List aj}{i:Nat}(hi:i<l.length)(n:Nat):
 dZ ((((l.take (i+1)).filter (isK s)).map f).map e) n=dZ ((((l.take i).filter (isK s)).map f).map e) n++pQ (isK s l[i]) (e (f l[i])) (n+kD ((((l.take i).filter (isK s)).map f).map e)):=by
 rw[EB _ _ hi,List.map_append,qJ];congr 1;unfold pQ;split<;>rfl
theorem IK{α:Type}(s:List UInt8)(f:aj->α)(e:α->List D)(l:List aj)(i n:Nat):(dZ ((((l.take i).filter (isK s)).map f).map e) n).length<=i:=by
 rw[kI,List.length_map];exact aaq s f l i
theorem agn(e:aW)(h:e=Dm)(n:Nat)(ok:Bool):Less (.dQ [(true,vP),(false,[.d (.b ok)])]) (.dQ [(true,(eZ e.enc n).map .d),(false,[.d (.b ok)])]):=by
 subst h;rw[Nu];exact(iZ.cons (.cons (.refl _) (.cons (dV _) (.cons (dV _) (.cons (dV _) (.cons (dV _) (.cons (dV _) .nil)))))) (.refl _)).less
theorem ZC(y:aj)(hsz:y.sz<=1048576)(n:Nat)(bx br:List C)(nm dp:D)(n1 n2 n3 n4:Nat)(q1 q2 q3 q4:Nat)(a b c d:List (List D))(mo:List Ab.Obj)(Ω:Store)(ha:a.length<=1048576)(hb:b.length<=1048576)(hc:c.length<=1048576)(hd:d.length<=1048576):
 dz prog 82 [.c (.ptr (0,3) 0),y.v] (FQ n bx br nm dp n1 n2 n3 n4 a b c d mo::Ω) (fun r S'=>r=.c (.d (.b (jJ y)))/\S'=FQ n bx br nm dp n1 n2 n3 n4 (a++pQ (isK j5 y) (vF y).enc q1) (b++pQ (isK oG y) (rV y).enc q2) (c++pQ (isK kY y) (rE y).enc q3) (d++pQ (isK xQ y) (vM y).enc q4) mo::Ω):=by
 have hg:∀h0:0<y.ah.length,y.ah[0].aO=dJ y.ah 0:=fun h0=>(jH h0).symm;obtain⟨A,hA'⟩:∃A,A=pQ (isK j5 y) (vF y).enc q1:=⟨_,rfl⟩;obtain⟨B,hB'⟩:∃A,A=pQ (isK oG y) (rV y).enc q2:=⟨_,rfl⟩;obtain⟨C,hC'⟩:∃A,A=pQ (isK kY y) (rE y).enc q3:=⟨_,rfl⟩;obtain⟨D,hD'⟩:∃A,A=pQ (isK xQ y) (vM y).enc q4:=⟨_,rfl⟩;rw[<-hA',<-hB',<-hC',<-hD'];have Qm:∀{s},dJ y.ah 0=s->isK s y=true:=fun h=>decide_eq_true h;have KQ:∀{s},¬dJ y.ah 0=s->isK s y=false:=fun h=>decide_eq_false h;unfold FQ;refine aD (rs:=[.tmp 4]) zmx func82 ntmps82 rfl rfl rfl rfl rfl ?_;refine W1 ?_;refine S0 (fun hb h=>?_) fun hb h=>?_
 ·have h0:y.ah=[]:=List.eq_nil_of_length_eq_zero (by omega);have hn:∀s,s≠[]->isK s y=false:=fun s hs=>KQ (by rw[h0];exact fun e=>hs e.symm);have m1:=hn j5 (by decide);have m2:=hn oG (by decide);have m3:=hn kY (by decide);have m4:=hn xQ (by decide)
  have e0:jJ y=false:=by unfold jJ;simp only[m1,m2,m3,m4,if_false,Bool.false_eq_true]
  rw[e0,hA',hB',hC',hD',jo m1,jo m2,jo m3,jo m4];simp only[List.append_nil];exact⟨trivial,trivial⟩
 have h0:0<y.ah.length:=by omega
 refine W3 ?_;simp only[hg h0];refine S0 (fun hb h=>?_) fun hb h=>?_
 ·have k1:isK j5 y=true:=Qm h
  have e0:jJ y=xY y:=by unfold jJ;simp only[k1,if_false,if_true,Bool.false_eq_true]
  have hA:=(hA').trans (Dp k1 (XU _ _));simp only[List.map_cons,List.map_nil,unD] at hA;have hB:=(hB').trans (jo (nR k1 (by decide)));have hC:=(hC').trans (jo (nR k1 (by decide)));have hD:=(hD').trans (jo (nR k1 (by decide)));rw[e0,hA,hB,hC,hD];refine C1 (Uk y q1 hsz) ?_;refine W3 ?_;omega
 have m1:isK j5 y=false:=KQ h;refine S0 (fun hb h=>?_) fun hb h=>?_
 ·have k1:isK oG y=true:=Qm h
  have e0:jJ y=okD y:=by unfold jJ;simp only[m1,k1,if_false,if_true,Bool.false_eq_true]
  have hA:=(hA').trans (jo (nR k1 (by decide)));have hB:=(hB').trans (Dp k1 (al4 _ _));simp only[List.map_cons,List.map_nil,unD] at hB;have hC:=(hC').trans (jo (nR k1 (by decide)));have hD:=(hD').trans (jo (nR k1 (by decide)));rw[e0,hA,hB,hC,hD];refine C1 (Qk y q2 hsz) ?_;refine W3 ?_;omega
 have m2:isK oG y=false:=KQ h;refine S0 (fun hb h=>?_) fun hb h=>?_
 ·have k1:isK kY y=true:=Qm h
  have e0:jJ y=zx y:=by unfold jJ;simp only[m1,m2,k1,if_false,if_true,Bool.false_eq_true]
  have hA:=(hA').trans (jo (nR k1 (by decide)));have hB:=(hB').trans (jo (nR k1 (by decide)));have hC:=(hC').trans (Dp k1 (al2 _ _));simp only[List.map_cons,List.map_nil,unD] at hC;have hD:=(hD').trans (jo (nR k1 (by decide)));rw[e0,hA,hB,hC,hD];refine C1 (X8 y q3 hsz) ?_;refine W3 ?_;omega
 have m3:isK kY y=false:=KQ h;refine S0 (fun hb h=>?_) fun hb h=>?_
 ·have k1:isK xQ y=true:=Qm h
  have e0:jJ y=okF y:=by unfold jJ;simp only[m1,m2,m3,k1,if_false,if_true,Bool.false_eq_true]
  have hA:=(hA').trans (jo (nR k1 (by decide)));have hB:=(hB').trans (jo (nR k1 (by decide)));have hC:=(hC').trans (jo (nR k1 (by decide)));have hD:=(hD').trans (Dp k1 (al0 _ _));simp only[List.map_cons,List.map_nil,unD] at hD;rw[e0,hA,hB,hC,hD];refine C1 (Uj y q4 hsz) ?_;refine W3 ?_;omega
 have m4:isK xQ y=false:=KQ h
 have e0:jJ y=false:=by unfold jJ;simp only[m1,m2,m3,m4,if_false,Bool.false_eq_true]
 rw[e0,hA',hB',hC',hD',jo m1,jo m2,jo m3,jo m4];simp only[List.append_nil];exact⟨trivial,trivial⟩
theorem ajx{x:aj}(h:x.sz<=11700):(decP x).sz<=1048576:=by
 have h1:=Xe x.ah 3;have h2:=eG x
 have h3:(x.ah.drop 3).length<=x.ah.length:=by rw[List.length_drop];omega
 have h4:=rU (gX x.ah 2).ah;have h5:(gX x.ah 2).sz<=dA x.ah:=xu x.ah 2;have h5':=qO (gX x.ah 2);have h6:(dJ x.ah 1).length<=dA x.ah:=Nat.le_trans (AQ _) (xu x.ah 1);have t1:=Ag j5 vF bf.enc aar (x.ah.drop 3);have t2:=Ag oG rV aP.enc aga (x.ah.drop 3);have t3:=Ag kY rE aM.enc agb (x.ah.drop 3);have t4:=Ag xQ vM aS.enc agc (x.ah.drop 3);have t5:=eG (gX x.ah 2)
 simp only[aW.sz,aW.aB,bT,bL,D.sz,List.length_map,decP,IE,IG,II,IJ,oU,dK] at *
 omega
theorem anT(x:aj):(Jd x).sz<=1048576:=by
 unfold Jd;split
 ·rename_i h;have h2:UK x:=(gG h).1;exact ajx (sZ h2.1)
 ·simp[Dm,aW.sz,aW.aB,bT,D.sz,bn]
theorem X9(x:aj)(n:Nat)(hsz:x.sz<=1048576):aH prog 35 [x.v] (.dQ [(true,(eZ (Jd x).enc n).map .d),(false,[.d (.b (CV x))])]):=aH.of_le fun S=>by
 have h1:=eG x;obtain⟨l,hl⟩:∃l,l=x.ah.drop 3:=⟨_,rfl⟩
 have hll:l.length<=1048576:=by rw[hl,List.length_drop];omega
 have hlen:l.length=x.ah.length-3:=by rw[hl,List.length_drop]
 have hlm:∀y∈l,y.sz<=1048576:=fun y hy=>by
  have:=iO (List.mem_of_mem_drop (hl▸hy));omega
 have fV:CV x=false->Less (.dQ [(true,vP),(false,[.d (.b false)])]) (.dQ [(true,(eZ (Jd x).enc n).map .d),(false,[.d (.b (CV x))])]):=fun e=>by
  rw[e];exact agn _ (af9 e) n false
 refine lN (n) (rs:=[.cell 2 40,.tmp 3]) zmx func35 ntmps35 rfl rfl rfl rfl rfl ?_;refine W1 ?_;refine C1 (vD x ajp 3 (by omega) (by omega) (by omega)) ?_;refine S0 (fun hb h=>?_) fun hb h=>?_
 ·exact fV (aA fun e=>h ⟨e.1.1,e.1.2.1,e.1.2.2.1⟩)
 have hf:=h;have h3:3<=x.ah.length:=hf.2.1;refine W3 ?_;have g2:x.ah[2]=gX x.ah 2:=(jC (by omega)).symm;have a1:x.ah[1].aO=dJ x.ah 1:=(jH (by omega)).symm;simp only[g2];refine S0 (fun hb h=>?_) fun hb h=>?_
 ·exact fV (aA fun e=>h e.1.2.2.2.1)
 have hz2:=h;refine W3 ?_;have hvs:=sZ hf.1;obtain⟨F,hF⟩:∃F,F=decP x:=⟨_,rfl⟩
 have hnm:(gX x.ah 2).ah.length<=1073741824:=by
  have:=xu x.ah 2;have:=eG (gX x.ah 2);have:(gX x.ah 2).sz<=dA x.ah:=xu x.ah 2;omega
 have hc:=z8 (gX x.ah 2).ah hnm n;rw[<-g2] at hc;refine aZ hc ?_;refine W1 ?_;refine W3 ?_;refine⟨⟨by omega,by omega,gV⟩,?_⟩;rw[oZ _ _ _ (Nat.le_refl _),<-hl];refine W1 ?_;refine qo (n+1) 3 2 5 _ rfl rfl ?_;refine qo (CX F n) 3 3 3 _ rfl rfl ?_;refine qo (CY F n) 3 4 12 _ rfl rfl ?_;refine qo (EC F n) 3 5 16 _ rfl rfl ?_;obtain⟨T1,hT1⟩:∃T:Nat->List (List D),T=fun i=>dZ ((((l.take i).filter (isK j5)).map vF).map bf.enc) (n+1+1):=⟨_,rfl⟩;obtain⟨T2,Vu⟩:∃T:Nat->List (List D),T=fun i=>dZ ((((l.take i).filter (isK oG)).map rV).map aP.enc) (CX F n+1):=⟨_,rfl⟩;obtain⟨T3,hT3⟩:∃T:Nat->List (List D),T=fun i=>dZ ((((l.take i).filter (isK kY)).map rE).map aM.enc) (CY F n+1):=⟨_,rfl⟩;obtain⟨T4,hT4⟩:∃T:Nat->List (List D),T=fun i=>dZ ((((l.take i).filter (isK xQ)).map vM).map aS.enc) (EC F n+1):=⟨_,rfl⟩
 have z1:T1 0=[]:=by rw[hT1];rfl
 have z2:T2 0=[]:=by rw[Vu];rfl
 have z3:T3 0=[]:=by rw[hT3];rfl
 have z4:T4 0=[]:=by rw[hT4];rfl
 have t1:∀i,(T1 i).length<=i:=fun i=>by rw[hT1];exact IK _ _ _ _ _ _
 have t2:∀i,(T2 i).length<=i:=fun i=>by rw[Vu];exact IK _ _ _ _ _ _
 have t3:∀i,(T3 i).length<=i:=fun i=>by rw[hT3];exact IK _ _ _ _ _ _
 have t4:∀i,(T4 i).length<=i:=fun i=>by rw[hT4];exact IK _ _ _ _ _ _
 have apm:∀i (hi:i<l.length) (mo:List Ab.Obj),dz prog 82 [.c (.ptr (0,3) 0),l[i].v] (FQ n [.d (.s x.aO),.d (.sl (x.ah.map aj.enc))] vP (.s x.ah[1].aO) (.ol n ((eU x.ah[2].ah).map encS)) (n+1) (CX F n) (CY F n) (EC F n) (T1 i) (T2 i) (T3 i) (T4 i) mo::S) (fun r S'=>r=.c (.d (.b (jJ l[i])))/\S'=FQ n [.d (.s x.aO),.d (.sl (x.ah.map aj.enc))] vP (.s x.ah[1].aO) (.ol n ((eU x.ah[2].ah).map encS)) (n+1) (CX F n) (CY F n) (EC F n) (T1 (i+1)) (T2 (i+1)) (T3 (i+1)) (T4 (i+1)) mo::S):=fun i hi mo=>by
  have e1:T1 (i+1)=T1 i++pQ (isK j5 l[i]) (vF l[i]).enc ((n+1+1)+kD ((((l.take i).filter (isK j5)).map vF).map bf.enc)):=by rw[hT1];exact Fu j5 vF bf.enc hi (n+1+1)
  have e2:T2 (i+1)=T2 i++pQ (isK oG l[i]) (rV l[i]).enc ((CX F n+1)+kD ((((l.take i).filter (isK oG)).map rV).map aP.enc)):=by rw[Vu];exact Fu oG rV aP.enc hi (CX F n+1)
  have e3:T3 (i+1)=T3 i++pQ (isK kY l[i]) (rE l[i]).enc ((CY F n+1)+kD ((((l.take i).filter (isK kY)).map rE).map aM.enc)):=by rw[hT3];exact Fu kY rE aM.enc hi (CY F n+1)
  have e4:T4 (i+1)=T4 i++pQ (isK xQ l[i]) (vM l[i]).enc ((EC F n+1)+kD ((((l.take i).filter (isK xQ)).map vM).map aS.enc)):=by rw[hT4];exact Fu xQ vM aS.enc hi (EC F n+1)
  rw[e1,e2,e3,e4];exact ZC l[i] (hlm _ (List.getElem_mem hi)) n _ _ _ _ _ _ _ _ _ _ _ _ _ _ _ _ mo S (Nat.le_trans (t1 i) (by omega)) (Nat.le_trans (t2 i) (by omega)) (Nat.le_trans (t3 i) (by omega)) (Nat.le_trans (t4 i) (by omega))
 have w1:T1 l.length=dZ (F.dh.map bf.enc) (n+1+1):=by rw[hT1,hF];simp only;rw[List.take_length,hl];rfl
 have w2:T2 l.length=dZ (F.aQ.map aP.enc) (CX F n+1):=by rw[Vu,hF];simp only;rw[List.take_length,hl];rfl
 have w3:T3 l.length=dZ (F.cB.map aM.enc) (CY F n+1):=by rw[hT3,hF];simp only;rw[List.take_length,hl];rfl
 have w4:T4 l.length=dZ (F.bX.map aS.enc) (EC F n+1):=by rw[hT4,hF];simp only;rw[List.take_length,hl];rfl
 clear hT1 Vu hT3 hT4 hc
 have hall:allA x.ah[2].ah=(gX x.ah 2).ah.all (fun y=>decide (y.aO≠[])):=by rw[g2];rfl
 obtain⟨B,hB⟩:∃B,B=allA x.ah[2].ah:=⟨_,rfl⟩;rw[<-hB]
 have arh:F.fName=x.ah[1].aO:=by rw[hF];exact a1.symm
 have ari:F.fT=eU x.ah[2].ah:=by rw[hF,g2];rfl
 cases B with
 |false=>
  have hno:CV x=false:=aA fun e=>by have:=e.1.2.2.2.2;rw[<-hall,<-hB] at this;cases this
  refine aU (ι:=Nat) zmx rfl [2,5,6,39,40,41] (fun i=>[.c (.ptr (0,2) 0),.c (.d (.b false)),.c (.ptr (0,3) 0),.c (.d (.sl (l.map aj.enc))),.c (.d (.i .i64 l.length)),.c (.d (.i .i64 0))])
   (fun i=>FQ n [.d (.s x.aO),.d (.sl (x.ah.map aj.enc))] vP (.s x.ah[1].aO) (.ol n ((eU x.ah[2].ah).map encS)) (n+1) (CX F n) (CY F n) (EC F n) [] [] [] [] []::S)
   (fun i=>i=0) (fun i=>i) 0 rfl rfl rfl ?_
  rintro i p1;simp -implicitDefEqProofs (disch:=omega) only[go_sem,FQ];refine S0 (fun hb h=>?_) fun hb h=>?_
  ·refine W3 ?_;exact⟨by decide,fV hno⟩
  ·exact⟨by decide,fV hno⟩
 |true=>
  have hhead:UK x:=⟨hf.1,h3,hf.2.2,hz2,hall.symm.trans hB.symm⟩
  refine aU (ι:=Nat) zmx rfl [2,5,6,39,40,41] (fun i=>[.c (.ptr (0,2) 0),.c (.d (.b true)),.c (.ptr (0,3) 0),.c (.d (.sl (l.map aj.enc))),.c (.d (.i .i64 l.length)),.c (.d (.i .i64 i))])
   (fun i=>FQ n [.d (.s x.aO),.d (.sl (x.ah.map aj.enc))] vP (.s x.ah[1].aO) (.ol n ((eU x.ah[2].ah).map encS)) (n+1) (CX F n) (CY F n) (EC F n) (T1 i) (T2 i) (T3 i) (T4 i) []::S)
   (fun i=>i<=l.length/\∀j,∀hj:j<l.length,j<i->jJ l[j]=true) (fun i=>l.length-i) 0 rfl (by rw[z1,z2,z3,z4];rfl) ⟨Nat.zero_le _,fun j _ h=>by omega⟩ ?_
  rintro i ⟨p1,p2⟩;have t1:=t1 i;have t2:=t2 i;have t3:=t3 i;have t4:=t4 i;simp -implicitDefEqProofs (disch:=omega) only[go_sem,FQ];refine S0 (fun hb h=>?_) fun hb h=>?_
  ·have hi:i<l.length:=by omega
   refine W3 ?_;refine bg rfl (apm i hi _) ?_;simp -implicitDefEqProofs (disch:=omega) only[go_sem,FQ];refine S0 (fun hb h=>?_) fun hb h=>?_
   ·exact⟨by decide,fV (aA fun e=>by have:=e.2.1 l[i] (by rw[<-hl];exact List.getElem_mem hi);rw[this] at h;cases h)⟩
   ·refine bZ 8 (by decide) (i+1) (by omega) rfl rfl rfl rfl ⟨by omega,fun j hj hji=> ?_⟩;by_cases e:j=i
    ·subst e;exact h
    ·exact p2 j hj (by omega)
  ·have hi:i=l.length:=by omega
   subst hi;rw[w1,w2,w3,w4,<-arh,<-ari]
   have hits:∀y∈x.ah.drop 3,jJ y=true:=fun y hy=>by
    rw[<-hl] at hy;obtain⟨j,hj,rfl⟩:=List.mem_iff_getElem.1 hy;exact p2 j hj hj
   have hcl:Less (.agg [.d (.s F.fName),.d (.ol n (F.fT.map encS)),.d (.sl (dZ (F.dh.map bf.enc) (n+1+1))),.d (.sl (dZ (F.aQ.map aP.enc) (CX F n+1))),.d (.sl (dZ (F.cB.map aM.enc) (CY F n+1))),.d (.sl (dZ (F.bX.map aS.enc) (EC F n+1)))]) F.v:=
    (fG.cons (.refl _) (.cons (Gp _ _) (.cons (vV (qp _ _)) (.cons (vV (qp _ _)) (.cons (vV (qp _ _)) (.cons (vV (qp _ _)) .nil)))))).less
   refine oD (Qj F (by rw[hF];exact aas (by omega))) (.cons hcl .nil) ?_;refine W1 ?_
   with_reducible refine dM (fun hb=> ?_) (fun hb=> ?_)<;>have h:=hb<;>(try simp only[wf_preprocess] at h)<;>simp -implicitDefEqProofs (disch:=omega) only[go_sem,hb,false_and,if_false]<;>refine W3 ?_
   ·exact⟨by decide,fV (aA fun e=>by rw[<-hF] at e;rw[e.2.2] at h;cases h)⟩
   ·have hy:CV x=true:=aY ⟨hhead,hits,by rw[<-hF];exact h⟩;rw[aap hy,hy,<-hF];have hq:=Nu F n;simp only[aW.aB] at hq;rw[hq];exact⟨by decide,gL _⟩
theorem Ul(x:aj)(n:Nat)(hsz:x.sz<=1048576):aH prog 35 [x.v] (.dQ [(true,(eZ (Jd x).enc n).map .d),(false,[.d (.b (CV x))])]):=X9 x n hsz
end Go.Ab