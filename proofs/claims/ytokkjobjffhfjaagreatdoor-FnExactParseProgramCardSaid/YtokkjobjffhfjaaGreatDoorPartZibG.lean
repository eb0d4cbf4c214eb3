/-
  SEVERAL TEXTS IN ONE (merged by program): contracts and models, each with its own heading.
-/
import Derived.Test.YtokkjobjffhfjaaGreatDoorPartZibF
set_option maxHeartbeats 8000000
open Go.Proofs Go.Proofs.Tryz
set_option linter.unusedSimpArgs false
set_option linter.unusedVariables false
set_option maxRecDepth 4000
namespace Go.Ab
def Au(P:Program)(N:Nat)(g:St->St):Nat->Code->(Exit->St->Prop)->St->Prop
 |0,c,Q,s=>CW P N c Q (g s)
 |k+1,.seq x y,Q,s=>CW P N x (kQ (Au P N g k y Q) Q) s
 |_,_,_,_=>False
theorem Yd{P:Program}{N:Nat}{g:St->St}{c:Code}{Q:Exit->St->Prop}{s:St}:Au P N g 0 c Q s=CW P N c Q (g s):=by rw[Au]
theorem Bb{P:Program}{N k:Nat}{g:St->St}{x y:Code}{Q:Exit->St->Prop}{s:St}:Au P N g (k+1) (.seq x y) Q s=CW P N x (kQ (Au P N g k y Q) Q) s:=by rw[Au]
theorem ajO{P:Program}{N:Nat}{g:St->St}{x y:Code}{Q:Exit->St->Prop}{s:St}:Au P N g 5 (.seq x y) Q s=CW P N x (kQ (Au P N g 4 y Q) Q) s:=Bb
theorem ajP{P:Program}{N:Nat}{g:St->St}{x y:Code}{Q:Exit->St->Prop}{s:St}:Au P N g 4 (.seq x y) Q s=CW P N x (kQ (Au P N g 3 y Q) Q) s:=Bb
theorem agF{P:Program}{N:Nat}{g:St->St}{x y:Code}{Q:Exit->St->Prop}{s:St}:Au P N g 3 (.seq x y) Q s=CW P N x (kQ (Au P N g 2 y Q) Q) s:=Bb
theorem amt{P:Program}{N:Nat}{g:St->St}{x y:Code}{Q:Exit->St->Prop}{s:St}:Au P N g 2 (.seq x y) Q s=CW P N x (kQ (Au P N g 1 y Q) Q) s:=Bb
theorem amu{P:Program}{N:Nat}{g:St->St}{x y:Code}{Q:Exit->St->Prop}{s:St}:Au P N g 1 (.seq x y) Q s=CW P N x (kQ (Au P N g 0 y Q) Q) s:=Bb
attribute [go_sem] Yd ajO ajP agF amt amu
theorem TU{P:Program}{N:Nat}{g:St->St}(hg:∀s,ig N s (g s))(fJ:P.follows .mixedOrders=true):∀(k:Nat)(c:Code)(Q:Exit->St->Prop)(s:St),codeOk N c=true->Au P N g k c Q s->AW P N c Q s
 |0,c,Q,s,ok,h=>by
  rw[Yd] at h;exact nJ (jH fJ c Q _ ok h) (hg s)
 |k+1,.seq x y,Q,s,ok,h=>by
  rw[Bb] at h;simp only[codeOk,Bool.and_eq_true] at ok;refine Om (AW.mono (jH fJ x _ s ok.1 h) fun e s' h'=> ?_)
  cases e with
  |normal=>exact TU hg fJ k y Q s' ok.2 h'
  |_=>exact h'
 |k+1,.region ..,_,_,_,h=>h.elim
 |k+1,.cond ..,_,_,_,h=>h.elim
 |k+1,.block ..,_,_,_,h=>h.elim
 |k+1,.exit ..,_,_,_,h=>h.elim
 |k+1,.ret,_,_,_,h=>h.elim
 |k+1,.skip,_,_,_,h=>h.elim
 |k+1,.loop ..,_,_,_,h=>h.elim
theorem BJ{P:Program}{S:Store}{N:Nat}(n k n' pos:Nat){f:FuncId}{fn:Func}{c:Code}{args:List V}{post:V->Store->Prop}{rs:List ResultVar}(fJ:P.follows .mixedOrders=true)(hf:P.funcs[f]? =some fn)(hN:fn.ntmps=N)
 (hb:fn.body=some c) (hn:(fn.name== "runtime.NumGoroutine")=false) (hr:fn.results.toList=rs) (hl:Nat.ble args.length N=true) (hok:codeOk N c=true)
 (h:Au P N (ED n') pos c (Rq P n rs post) ⟨qR (args.map (V.up 1)) 0,[.seed n,.seed k]::S⟩):dh P f args S post:=by
 subst hN;subst hr;exact tZ hf hb hn (Nat.le_of_ble_eq_true hl) (Xt n k (BU (Aa n) (TU (GQ n') fJ pos c _ _ hok h)))
def lu:List UInt8:=[105,110,115,116]
def oO:List UInt8:=[100,101,102,97,117,108,116]
def kN(x:aP):List (List UInt8):=if x.gJ=true then [oO] else []
def kP(x:aP):List aj:=if x.dX=true then [cB x.bD] else []
def pO(m:bq):aj:=bB [bJ m.fName,bB (aN m.aG),fC m.fBody]
def nY(x:aP):List aj:=[bJ lu,bJ x.bC,bB (aN x.aG),cB x.bQ,bB (x.bY.map q9),bB (aN (kN x)),bB (kP x)]
def xY(x:aP):aj:=bB (nY x++x.aJ.map pO)
noncomputable def Ye(x:aP):aj:=wY (fH x) (xY x)
theorem amv{x:aP}(h:x.sz<=1048576):(Ye x).sz<=1048576:=Nat.le_trans (Ls _ _) (by decide)
theorem amw(m:bq)(hok:jd m.fBody=true):(pO m).sz<=27+32*m.sz:=by
 have h1:=KH m.fBody hok;have h3:=bq.sum m;rw[dK] at h3;rw[pO,jJ];simp[dx,jU,jJ,jQ,tu];omega
theorem Yf:∀l:List bq,(∀g∈l,jd g.fBody=true)->dx (l.map pO)<=27*l.length+32*bf (l.map bq.enc)
 |[],_=>by simp[dx]
 |c::l,h=>by
  have h1:=amw c (h c (List.mem_cons_self ..));have h2:=Yf l fun g hg=>h g (List.mem_cons_of_mem _ hg);rw[List.map_cons,dx,List.map_cons,bf,List.length_cons];simp only[bq.sz] at h1;omega
theorem oP{x:aP}(h:fH x=true):formed x.bQ=true/\(∀b∈x.bY,formed b.fType=true)/\(x.dX=true->formed x.bD=true)/\(∀m∈x.aJ,jd m.fBody=true):=by
 unfold fH vU at h;simp only[Bool.and_eq_true] at h;obtain⟨⟨_,_,_,h1,_,_,_,h2,h3,_⟩,h4,_⟩:=h;refine⟨wM h1,Da h2,fun ha=> ?_,fun m hm=> ?_⟩
 ·rw[if_pos ha] at h3;exact wM h3
 ·have h5:=List.all_eq_true.1 h4 m hm;unfold nD at h5;simp only[Bool.and_eq_true] at h5;exact Fj h5.2.2
theorem KW{x:aP}(hok:fH x=true):(xY x).sz<=96+40*x.sz:=by
 obtain⟨_,_,_,hm⟩:=oP hok;have h1:=Yf x.aJ hm;have h2:=RL x.bY;have h3:=aP.sum x;have h4:=Ca x.bQ;have h5:=Ca x.bD
 have h6:(kN x).length<=1/\((kN x).map List.length).sum<=7:=by unfold kN;split<;>simp[oO]
 have h7:(kP x).length<=1/\dx (kP x)<=(cB x.bD).sz:=by unfold kP;split<;>simp[dx]
 rw[dK] at h3;rw[xY,jJ,jS,List.length_append,List.length_map];simp[nY,dx,jU,jJ,jQ,tu,lu];omega
theorem adM(n:Nat)(a b:List UInt8)(w v:List (List UInt8))(h:aj)(bs zs:List aj):lx [bJ a,bJ b,bB (aN w),h,bB bs,bB (aN v),bB zs] (n+1)=[[.s a,.ol (n+1) []],[.s b,.ol (n+1+1) []],[.s [],.ol (n+1+1+1) (lx (aN w) (n+1+1+1+1))],[.s h.aO,.ol (n+1+1+1+dS (bB (aN w))) (lx h.ah (n+1+1+1+dS (bB (aN w))+1))],[.s [],.ol (n+1+1+1+dS (bB (aN w))+dS h) (lx bs (n+1+1+1+dS (bB (aN w))+dS h+1))],
 [.s [],.ol (n+1+1+1+dS (bB (aN w))+dS h+dS (bB bs)) (lx (aN v) (n+1+1+1+dS (bB (aN w))+dS h+dS (bB bs)+1))],[.s [],.ol (n+1+1+1+dS (bB (aN w))+dS h+dS (bB bs)+dS (bB (aN v))) (lx zs (n+1+1+1+dS (bB (aN w))+dS h+dS (bB bs)+dS (bB (aN v))+1))]]:=by
 simp only[jW,nQ,ku,kY,kZ,dW,dG,kg]
theorem Yg(n:Nat)(es:List (List D)):Less (.c (.d (.ol n es))) (.c (.d (.sl es))):=fun w σ S β v h=>⟨uG h.1,h.2⟩
theorem Yh(x:aP)(n:Nat)(hv:fH x=true)(hsz:x.sz<=1048576):aH prog 222 [x.v] (.agg [.d (.s []),.d (.ol n (lx (xY x).ah (n+1)))]):=fun S=>by
 have hdz:=aP.sum x;rw[dK] at hdz;obtain⟨hf1,hf2,hf3,Fp⟩:=oP hv;obtain⟨p,hp⟩:∃p:Nat,p=n+1+1+1+dS (bB (aN x.aG))+dS (cB x.bQ)+dS (bB (x.bY.map q9))+dS (bB (aN (kN x))):=⟨_,rfl⟩;obtain⟨L,hL⟩:∃L:Nat->Nat,L=fun i=>n+1+jE (nY x++(x.aJ.map pO).take i):=⟨_,rfl⟩;obtain⟨T,hT⟩:∃T:Nat->List (List D),T=fun i=>lx (nY x++(x.aJ.map pO).take i) (n+1):=⟨_,rfl⟩
 have hT0:T 0=[[.s lu,.ol (n+1) []],[.s x.bC,.ol (n+1+1) []],[.s [],.ol (n+1+1+1) (lx (aN x.aG) (n+1+1+1+1))],[.s (cB x.bQ).aO,.ol (n+1+1+1+dS (bB (aN x.aG))) (lx (cB x.bQ).ah (n+1+1+1+dS (bB (aN x.aG))+1))],[.s [],.ol (n+1+1+1+dS (bB (aN x.aG))+dS (cB x.bQ)) (lx (x.bY.map q9) (n+1+1+1+dS (bB (aN x.aG))+dS (cB x.bQ)+1))],[.s [],.ol (n+1+1+1+dS (bB (aN x.aG))+dS (cB x.bQ)+dS (bB (x.bY.map q9))) (lx (aN (kN x)) (n+1+1+1+dS (bB (aN x.aG))+dS (cB x.bQ)+dS (bB (x.bY.map q9))+1))],[.s [],.ol p (lx (kP x) (p+1))]]:=by
  rw[hT,hp];simp only[List.take_zero,List.append_nil,nY,adM]
 have iI:∀i,(T i).length<=i+7:=fun i=>by
  rw[hT];simp only[iD,List.length_append];have:=List.length_take_le i (x.aJ.map pO);simp[nY];omega
 have hTs:∀i (hi:i<x.aJ.length),T i++[[.s [],.ol (L i) [[.s x.aJ[i].fName,.ol (L i+1) []],[.s [],.ol (L i+1+1) (lx (aN x.aJ[i].aG) (L i+1+1+1))],[.s (fC x.aJ[i].fBody).aO,.ol (L i+1+1+dS (bB (aN x.aJ[i].aG))) (lx (fC x.aJ[i].fBody).ah (L i+1+1+dS (bB (aN x.aJ[i].aG))+1))]]]]=T (i+1):=fun i hi=>by
  have:=AU (base:=nY x) (l:=x.aJ.map pO) (i:=i) (by rw[List.length_map];exact hi) (n+1);rw[List.getElem_map,pO,dW,dG] at this;simp only[jW,nQ,ku,kY,kZ,dW,dG,kg] at this;rw[hT,hL];exact this
 have hTr:∀i,∀r∈T i,r.length=2:=fun i=>by rw[hT];exact mh
 have hTe:T x.aJ.length=lx (xY x).ah (n+1):=by
  rw[hT];simp only
  rw[List.take_of_length_le (by simp)];rfl
 clear hT hL;refine(show Hold ?T->_ from fun tail=> ?main) ?tp
 case' main=>
  cases ha:x.gJ<;>cases hs:x.dX
  ·have hfl:kN x=[]:=by unfold kN;rw[ha];rfl
   have has:kP x=[]:=by unfold kP;rw[hs];rfl
   refine BJ (p) 1 (n) 5 (rs:=[.cell 2 54]) zmx func222 ntmps222 rfl rfl rfl rfl rfl ?_;simp -implicitDefEqProofs (disch:=omega) only[go_sem,ha,hs];refine W3 ?_;refine C1 (dB _ (n+1)) ?_;refine C1 (dB _ (n+1+1)) ?_;refine C1 (eX x.aG (by omega) (n+1+1+1)) ?_;refine C1 (mD x.bQ (n+1+1+1+dS (bB (aN x.aG))) hf1 (by omega)) ?_;refine C1 (vS x.bY (n+1+1+1+dS (bB (aN x.aG))+dS (cB x.bQ)) hf2 (by omega) (fun b hb=>by have:=q8 hb;omega)) ?_;refine oG (eX [] (by simp) (n+1+1+1+dS (bB (aN x.aG))+dS (cB x.bQ)+dS (bB (x.bY.map q9)))) (.cons (pJ p _) .nil) ?_;refine W1 ?_;refine C1 (oJ _ _) ?_;refine W3 ?_;refine mX n 5 2 (T 0) (.inl ?_) (hTr 0) ?_
   ·rw[hT0,hfl,has];rfl
   refine rX (L 0) ?_;refine oD (st':=[.seed (L 0),.seed 1,.box [.d (.s x.bC),.d (.sl (x.aG.map encS)),.d (.i .i64 x.bQ.aK),.d (.s x.bQ.fName),.d (.sl (x.bQ.fArgs.map ak.enc)),.d (.sl (x.bY.map bn.enc)),.d (.b x.gJ),.d (.b x.dX),.d (.i .i64 x.bD.aK),.d (.s x.bD.fName),.d (.sl (x.bD.fArgs.map ak.enc)),.d (.sl (x.aJ.map bq.enc))],.box [.d (.s []),.bE []],.fu n 2 (T 0)]::S) [2,5,42,43,44] [.c (.ptr (0,3) 0),.c (.bN (0,4) (T 0)),.c (.d (.sl (x.aJ.map bq.enc))),.c (.d (.i .i64 x.aJ.length)),.c (.d (.i .i64 0))] ?_ ?_ ?_
   ·rfl
   ·rw[ha,hs];rfl
   ·exact tail.out
  ·have hfl:kN x=[]:=by unfold kN;rw[ha];rfl
   have has:kP x=[cB x.bD]:=by unfold kP;rw[hs];rfl
   refine BJ (p) 1 (n) 5 (rs:=[.cell 2 54]) zmx func222 ntmps222 rfl rfl rfl rfl rfl ?_;simp -implicitDefEqProofs (disch:=omega) only[go_sem,ha,hs];refine W3 ?_;refine C1 (mD x.bD (p+1) (hf3 hs) (by omega)) ?_;refine W3 ?_;refine C1 (dB _ (n+1)) ?_;refine C1 (dB _ (n+1+1)) ?_;refine C1 (eX x.aG (by omega) (n+1+1+1)) ?_;refine C1 (mD x.bQ (n+1+1+1+dS (bB (aN x.aG))) hf1 (by omega)) ?_;refine C1 (vS x.bY (n+1+1+1+dS (bB (aN x.aG))+dS (cB x.bQ)) hf2 (by omega) (fun b hb=>by have:=q8 hb;omega)) ?_;refine oG (eX [] (by simp) (n+1+1+1+dS (bB (aN x.aG))+dS (cB x.bQ)+dS (bB (x.bY.map q9)))) (.cons (pJ p _) .nil) ?_;refine W1 ?_;refine C1 (mq _) ?_;refine W3 ?_;refine mX n 5 2 (T 0) (.inl ?_) (hTr 0) ?_
   ·rw[hT0,hfl,has,jW,nQ,ku];rfl
   refine rX (L 0) ?_;refine oD (st':=[.seed (L 0),.seed 1,.box [.d (.s x.bC),.d (.sl (x.aG.map encS)),.d (.i .i64 x.bQ.aK),.d (.s x.bQ.fName),.d (.sl (x.bQ.fArgs.map ak.enc)),.d (.sl (x.bY.map bn.enc)),.d (.b x.gJ),.d (.b x.dX),.d (.i .i64 x.bD.aK),.d (.s x.bD.fName),.d (.sl (x.bD.fArgs.map ak.enc)),.d (.sl (x.aJ.map bq.enc))],.box [.d (.s []),.bE []],.fu n 2 (T 0)]::S) [2,5,42,43,44] [.c (.ptr (0,3) 0),.c (.bN (0,4) (T 0)),.c (.d (.sl (x.aJ.map bq.enc))),.c (.d (.i .i64 x.aJ.length)),.c (.d (.i .i64 0))] ?_ ?_ ?_
   ·rfl
   ·rw[ha,hs];rfl
   ·exact tail.out
  ·have hfl:kN x=[oO]:=by unfold kN;rw[ha];rfl
   have has:kP x=[]:=by unfold kP;rw[hs];rfl
   refine BJ (p) 1 (n) 5 (rs:=[.cell 2 54]) zmx func222 ntmps222 rfl rfl rfl rfl rfl ?_;simp -implicitDefEqProofs (disch:=omega) only[go_sem,ha,hs];refine W3 ?_;refine C1 (dB _ (n+1)) ?_;refine C1 (dB _ (n+1+1)) ?_;refine C1 (eX x.aG (by omega) (n+1+1+1)) ?_;refine C1 (mD x.bQ (n+1+1+1+dS (bB (aN x.aG))) hf1 (by omega)) ?_;refine C1 (vS x.bY (n+1+1+1+dS (bB (aN x.aG))+dS (cB x.bQ)) hf2 (by omega) (fun b hb=>by have:=q8 hb;omega)) ?_;refine oG (eX [oO] (by simp) (n+1+1+1+dS (bB (aN x.aG))+dS (cB x.bQ)+dS (bB (x.bY.map q9)))) (.cons (Yg p _) .nil) ?_;refine W1 ?_;refine C1 (oJ _ _) ?_;refine W3 ?_;refine mX n 5 2 (T 0) (.inl ?_) (hTr 0) ?_
   ·rw[hT0,hfl,has];rfl
   refine rX (L 0) ?_;refine oD (st':=[.seed (L 0),.seed 1,.box [.d (.s x.bC),.d (.sl (x.aG.map encS)),.d (.i .i64 x.bQ.aK),.d (.s x.bQ.fName),.d (.sl (x.bQ.fArgs.map ak.enc)),.d (.sl (x.bY.map bn.enc)),.d (.b x.gJ),.d (.b x.dX),.d (.i .i64 x.bD.aK),.d (.s x.bD.fName),.d (.sl (x.bD.fArgs.map ak.enc)),.d (.sl (x.aJ.map bq.enc))],.box [.d (.s []),.bE []],.fu n 2 (T 0)]::S) [2,5,42,43,44] [.c (.ptr (0,3) 0),.c (.bN (0,4) (T 0)),.c (.d (.sl (x.aJ.map bq.enc))),.c (.d (.i .i64 x.aJ.length)),.c (.d (.i .i64 0))] ?_ ?_ ?_
   ·rfl
   ·rw[ha,hs];rfl
   ·exact tail.out
  ·have hfl:kN x=[oO]:=by unfold kN;rw[ha];rfl
   have has:kP x=[cB x.bD]:=by unfold kP;rw[hs];rfl
   refine BJ (p) 1 (n) 5 (rs:=[.cell 2 54]) zmx func222 ntmps222 rfl rfl rfl rfl rfl ?_;simp -implicitDefEqProofs (disch:=omega) only[go_sem,ha,hs];refine W3 ?_;refine C1 (mD x.bD (p+1) (hf3 hs) (by omega)) ?_;refine W3 ?_;refine C1 (dB _ (n+1)) ?_;refine C1 (dB _ (n+1+1)) ?_;refine C1 (eX x.aG (by omega) (n+1+1+1)) ?_;refine C1 (mD x.bQ (n+1+1+1+dS (bB (aN x.aG))) hf1 (by omega)) ?_;refine C1 (vS x.bY (n+1+1+1+dS (bB (aN x.aG))+dS (cB x.bQ)) hf2 (by omega) (fun b hb=>by have:=q8 hb;omega)) ?_;refine oG (eX [oO] (by simp) (n+1+1+1+dS (bB (aN x.aG))+dS (cB x.bQ)+dS (bB (x.bY.map q9)))) (.cons (Yg p _) .nil) ?_;refine W1 ?_;refine C1 (mq _) ?_;refine W3 ?_;refine mX n 5 2 (T 0) (.inl ?_) (hTr 0) ?_
   ·rw[hT0,hfl,has,jW,nQ,ku];rfl
   refine rX (L 0) ?_;refine oD (st':=[.seed (L 0),.seed 1,.box [.d (.s x.bC),.d (.sl (x.aG.map encS)),.d (.i .i64 x.bQ.aK),.d (.s x.bQ.fName),.d (.sl (x.bQ.fArgs.map ak.enc)),.d (.sl (x.bY.map bn.enc)),.d (.b x.gJ),.d (.b x.dX),.d (.i .i64 x.bD.aK),.d (.s x.bD.fName),.d (.sl (x.bD.fArgs.map ak.enc)),.d (.sl (x.aJ.map bq.enc))],.box [.d (.s []),.bE []],.fu n 2 (T 0)]::S) [2,5,42,43,44] [.c (.ptr (0,3) 0),.c (.bN (0,4) (T 0)),.c (.d (.sl (x.aJ.map bq.enc))),.c (.d (.i .i64 x.aJ.length)),.c (.d (.i .i64 0))] ?_ ?_ ?_
   ·rfl
   ·rw[ha,hs];rfl
   ·exact tail.out
 refine⟨?_⟩
 refine aT (ι:=Nat) zmx rfl [2,5,42,43,44] (fun i=>[.c (.ptr (0,3) 0),.c (.bN (0,4) (T i)),.c (.d (.sl (x.aJ.map bq.enc))),.c (.d (.i .i64 x.aJ.length)),.c (.d (.i .i64 i))])
  (fun i=>[.seed (L i),.seed 1,.box [.d (.s x.bC),.d (.sl (x.aG.map encS)),.d (.i .i64 x.bQ.aK),.d (.s x.bQ.fName),.d (.sl (x.bQ.fArgs.map ak.enc)),.d (.sl (x.bY.map bn.enc)),.d (.b x.gJ),.d (.b x.dX),.d (.i .i64 x.bD.aK),.d (.s x.bD.fName),.d (.sl (x.bD.fArgs.map ak.enc)),.d (.sl (x.aJ.map bq.enc))],.box [.d (.s []),.bE []],.fu n 2 (T i)]::S)
  (fun i=>i<=x.aJ.length) (fun i=>x.aJ.length-i) 0 rfl rfl (Nat.zero_le _) ?_
 intro i hi;have hl:=iI i;refine W1 ?_;refine S0 (fun hb h=>?_) fun hb h=>?_
 ·have hi':i<x.aJ.length:=by omega
  have hm:=List.getElem_mem hi';have hcz:=Ba hm;have hce:=bq.sum x.aJ[i];rw[dK] at hce;have hst:=hTs i hi';refine W3 ?_;refine C1 (dB _ (L i+1)) ?_;refine C1 (eX x.aJ[i].aG (by omega) (L i+1+1)) ?_;refine C1 (Ag x.aJ[i].fBody (L i+1+1+dS (bB (aN x.aJ[i].aG))) (Fp _ hm) (by omega)) ?_;refine W3 ?_;refine C1 (oJ _ _) ?_;refine W3 ?_;rw[hst];refine uh (L (i+1)) 4 (by decide) (i+1) (by omega) rfl rfl ?_ rfl (by omega);simp[kX,iX,V.refs,C.refs,oh]
 ·have hi':i=x.aJ.length:=by omega
  refine bg rfl (kH 0 4 _ _) ?_;refine W1 ?_;rw[hi',hTe]
theorem ajQ(x:aP)(hv:fH x=true)(hsz:x.sz<=1048576)(ha:x.gJ=true)(hs:x.dX=true):aH prog 210 [x.v] (Eh (xY x)).v:=fun S=>by
 have hdz:=aP.sum x;rw[dK] at hdz;obtain⟨hf1,hf2,hf3,Fp⟩:=oP hv;have hz:=KW hv
 have hfl:kN x=[oO]:=by unfold kN;rw[ha];rfl
 have has:kP x=[cB x.bD]:=by unfold kP;rw[hs];rfl
 obtain⟨T,hT⟩:∃T:Nat->List (List D),T=fun i=>(nY x++(x.aJ.map pO).take i).map aj.enc:=⟨_,rfl⟩
 have hT0:T 0=[[.s lu,.sl []],[.s x.bC,.sl []],[.s [],.sl ((aN x.aG).map aj.enc)],[.s (cB x.bQ).aO,.sl ((cB x.bQ).ah.map aj.enc)],[.s [],.sl ((x.bY.map q9).map aj.enc)],[.s [],.sl ((aN [oO]).map aj.enc)],[.s [],.sl [[.s (cB x.bD).aO,.sl ((cB x.bD).ah.map aj.enc)]]]]:=by
  rw[hT];simp only[List.take_zero,List.append_nil,nY,hfl,has,List.map_cons,List.map_nil,fO,kI,aj.aA (cB x.bQ),aj.aA (cB x.bD)]
 have iI:∀i,(T i).length<=i+7:=fun i=>by
  rw[hT];simp only[List.length_map,List.length_append];have:=List.length_take_le i (x.aJ.map pO);simp[nY];omega
 have hTs:∀i (hi:i<x.aJ.length),T i++[[.s [],.sl [[.s x.aJ[i].fName,.sl []],[.s [],.sl ((aN x.aJ[i].aG).map aj.enc)],[.s (fC x.aJ[i].fBody).aO,.sl ((fC x.aJ[i].fBody).ah.map aj.enc)]]]]=T (i+1):=fun i hi=>by
  have:=jR (base:=nY x) (l:=x.aJ.map pO) (i:=i) (by rw[List.length_map];exact hi);rw[List.getElem_map,pO,dW,dG] at this;simp only[List.map_cons,List.map_nil,fO,kI,aj.aA (fC x.aJ[i].fBody)] at this;rw[hT];exact this
 have hTr:∀i,∀r∈T i,r.length=2:=fun i=>by rw[hT];exact gV
 have hTe:T x.aJ.length=(xY x).ah.map aj.enc:=by
  rw[hT];simp only
  rw[List.take_of_length_le (by simp)];rfl
 clear hT;refine zcx [.cell 2 54] func210 ntmps210 ?_;refine W1 ?_;refine aX (qg x (by omega)) ?_;simp -implicitDefEqProofs (disch:=omega) only[go_sem,hv,ha,hs];refine W3 ?_;refine C1 (mR x.bD (by omega)) ?_;refine W3 ?_;refine C1 (oo _ (by simp) (by simp)) ?_;refine W3 ?_;refine C1 (bW _) ?_;refine C1 (bW _) ?_;refine C1 (eF x.aG (by omega)) ?_;refine C1 (mR x.bQ (by omega)) ?_;refine C1 (xJ x.bY (by omega) (fun b hb=>by have:=q8 hb;omega)) ?_;refine C1 (eF [oO] (by simp)) ?_;have hE:=fun bU Ω=>lZ (T 0) (hTr 0) (by have:=iI 0;omega) bU Ω;simp only[hT0] at hE;refine qB [false] rfl (hE _ _) ?_;refine W1 ?_
 refine aT (ι:=Nat) zmx rfl [1,2,5,6] (fun i=>[.c (.ptr (0,0) 0),.c (.ptr (0,1) 0),.c (.ptr (0,6) 0),.c (.d (.i .i64 i))])
  (fun i=>[.box [.d (.s x.bC),.d (.sl (x.aG.map encS)),.d (.i .i64 x.bQ.aK),.d (.s x.bQ.fName),.d (.sl (x.bQ.fArgs.map ak.enc)),.d (.sl (x.bY.map bn.enc)),.d (.b true),.d (.b true),.d (.i .i64 x.bD.aK),.d (.s x.bD.fName),.d (.sl (x.bD.fArgs.map ak.enc)),.d (.sl (x.aJ.map bq.enc))],.box [.d (.s []),.bE []],.tok 1 [[.s oO]],.box [.d (.s []),.d (.sl [[.s (cB x.bD).aO,.sl ((cB x.bD).ah.map aj.enc)]])],.box [.d (.s []),.bN (0,5) (T 0)],.tok 2 (T i),.box [.d (.s []),.bN (0,5) (T i)]]::S)
  (fun i=>i<=x.aJ.length) (fun i=>x.aJ.length-i) 0 rfl (by simp only[hT0]<;>(try rfl)) (Nat.zero_le _) ?_
 intro i hi;have hl:=iI i;refine W1 ?_;refine S0 (fun hb h=>?_) fun hb h=>?_
 ·have hi':i<x.aJ.length:=by omega
  have hm:=List.getElem_mem hi';have hcz:=Ba hm;have hce:=bq.sum x.aJ[i];rw[dK] at hce;have hst:=hTs i hi';refine W3 ?_;refine C1 (bW _) ?_;refine C1 (eF x.aJ[i].aG (by omega)) ?_;refine C1 (uW x.aJ[i].fBody (Fp _ hm) (by omega)) ?_;refine C1 (oo _ (by simp) (by simp)) ?_;refine W3 ?_;rw[hst];exact bX 7 (by decide) (i+1) (by omega) rfl rfl rfl rfl (by omega)
 ·have hi':i=x.aJ.length:=by omega
  subst hi';rw[hTe];refine C1 (tQ true (xY x) (by omega)) ?_;rfl
theorem ajR(x:aP)(hv:fH x=true)(hsz:x.sz<=1048576)(ha:x.gJ=true)(hs:x.dX=false):aH prog 210 [x.v] (Eh (xY x)).v:=fun S=>by
 have hdz:=aP.sum x;rw[dK] at hdz;obtain⟨hf1,hf2,hf3,Fp⟩:=oP hv;have hz:=KW hv
 have hfl:kN x=[oO]:=by unfold kN;rw[ha];rfl
 have has:kP x=[]:=by unfold kP;rw[hs];rfl
 obtain⟨T,hT⟩:∃T:Nat->List (List D),T=fun i=>(nY x++(x.aJ.map pO).take i).map aj.enc:=⟨_,rfl⟩
 have hT0:T 0=[[.s lu,.sl []],[.s x.bC,.sl []],[.s [],.sl ((aN x.aG).map aj.enc)],[.s (cB x.bQ).aO,.sl ((cB x.bQ).ah.map aj.enc)],[.s [],.sl ((x.bY.map q9).map aj.enc)],[.s [],.sl ((aN [oO]).map aj.enc)],[.s [],.sl []]]:=by
  rw[hT];simp only[List.take_zero,List.append_nil,nY,hfl,has,List.map_cons,List.map_nil,fO,kI,aj.aA (cB x.bQ),aj.aA (cB x.bD)]
 have iI:∀i,(T i).length<=i+7:=fun i=>by
  rw[hT];simp only[List.length_map,List.length_append];have:=List.length_take_le i (x.aJ.map pO);simp[nY];omega
 have hTs:∀i (hi:i<x.aJ.length),T i++[[.s [],.sl [[.s x.aJ[i].fName,.sl []],[.s [],.sl ((aN x.aJ[i].aG).map aj.enc)],[.s (fC x.aJ[i].fBody).aO,.sl ((fC x.aJ[i].fBody).ah.map aj.enc)]]]]=T (i+1):=fun i hi=>by
  have:=jR (base:=nY x) (l:=x.aJ.map pO) (i:=i) (by rw[List.length_map];exact hi);rw[List.getElem_map,pO,dW,dG] at this;simp only[List.map_cons,List.map_nil,fO,kI,aj.aA (fC x.aJ[i].fBody)] at this;rw[hT];exact this
 have hTr:∀i,∀r∈T i,r.length=2:=fun i=>by rw[hT];exact gV
 have hTe:T x.aJ.length=(xY x).ah.map aj.enc:=by
  rw[hT];simp only
  rw[List.take_of_length_le (by simp)];rfl
 clear hT;refine zcx [.cell 2 54] func210 ntmps210 ?_;refine W1 ?_;refine aX (qg x (by omega)) ?_;simp -implicitDefEqProofs (disch:=omega) only[go_sem,hv,ha,hs];refine W3 ?_;refine C1 (bW _) ?_;refine C1 (bW _) ?_;refine C1 (eF x.aG (by omega)) ?_;refine C1 (mR x.bQ (by omega)) ?_;refine C1 (xJ x.bY (by omega) (fun b hb=>by have:=q8 hb;omega)) ?_;refine C1 (eF [oO] (by simp)) ?_;have hE:=fun bU Ω=>lZ (T 0) (hTr 0) (by have:=iI 0;omega) bU Ω;simp only[hT0] at hE;refine qB [false] rfl (hE _ _) ?_;refine W1 ?_
 refine aT (ι:=Nat) zmx rfl [1,2,5,6] (fun i=>[.c (.ptr (0,0) 0),.c (.ptr (0,1) 0),.c (.ptr (0,6) 0),.c (.d (.i .i64 i))])
  (fun i=>[.box [.d (.s x.bC),.d (.sl (x.aG.map encS)),.d (.i .i64 x.bQ.aK),.d (.s x.bQ.fName),.d (.sl (x.bQ.fArgs.map ak.enc)),.d (.sl (x.bY.map bn.enc)),.d (.b true),.d (.b false),.d (.i .i64 x.bD.aK),.d (.s x.bD.fName),.d (.sl (x.bD.fArgs.map ak.enc)),.d (.sl (x.aJ.map bq.enc))],.box [.d (.s []),.bE []],.tok 1 [[.s oO]],.box [.d (.s []),.bE []],.box [.d (.s []),.bN (0,5) (T 0)],.tok 2 (T i),.box [.d (.s []),.bN (0,5) (T i)]]::S)
  (fun i=>i<=x.aJ.length) (fun i=>x.aJ.length-i) 0 rfl (by simp only[hT0]<;>(try rfl)) (Nat.zero_le _) ?_
 intro i hi;have hl:=iI i;refine W1 ?_;refine S0 (fun hb h=>?_) fun hb h=>?_
 ·have hi':i<x.aJ.length:=by omega
  have hm:=List.getElem_mem hi';have hcz:=Ba hm;have hce:=bq.sum x.aJ[i];rw[dK] at hce;have hst:=hTs i hi';refine W3 ?_;refine C1 (bW _) ?_;refine C1 (eF x.aJ[i].aG (by omega)) ?_;refine C1 (uW x.aJ[i].fBody (Fp _ hm) (by omega)) ?_;refine C1 (oo _ (by simp) (by simp)) ?_;refine W3 ?_;rw[hst];exact bX 7 (by decide) (i+1) (by omega) rfl rfl rfl rfl (by omega)
 ·have hi':i=x.aJ.length:=by omega
  subst hi';rw[hTe];refine C1 (tQ true (xY x) (by omega)) ?_;rfl
theorem ajS(x:aP)(hv:fH x=true)(hsz:x.sz<=1048576)(ha:x.gJ=false)(hs:x.dX=true):aH prog 210 [x.v] (Eh (xY x)).v:=fun S=>by
 have hdz:=aP.sum x;rw[dK] at hdz;obtain⟨hf1,hf2,hf3,Fp⟩:=oP hv;have hz:=KW hv
 have hfl:kN x=[]:=by unfold kN;rw[ha];rfl
 have has:kP x=[cB x.bD]:=by unfold kP;rw[hs];rfl
 obtain⟨T,hT⟩:∃T:Nat->List (List D),T=fun i=>(nY x++(x.aJ.map pO).take i).map aj.enc:=⟨_,rfl⟩
 have hT0:T 0=[[.s lu,.sl []],[.s x.bC,.sl []],[.s [],.sl ((aN x.aG).map aj.enc)],[.s (cB x.bQ).aO,.sl ((cB x.bQ).ah.map aj.enc)],[.s [],.sl ((x.bY.map q9).map aj.enc)],[.s [],.sl ((aN []).map aj.enc)],[.s [],.sl [[.s (cB x.bD).aO,.sl ((cB x.bD).ah.map aj.enc)]]]]:=by
  rw[hT];simp only[List.take_zero,List.append_nil,nY,hfl,has,List.map_cons,List.map_nil,fO,kI,aj.aA (cB x.bQ),aj.aA (cB x.bD)]
 have iI:∀i,(T i).length<=i+7:=fun i=>by
  rw[hT];simp only[List.length_map,List.length_append];have:=List.length_take_le i (x.aJ.map pO);simp[nY];omega
 have hTs:∀i (hi:i<x.aJ.length),T i++[[.s [],.sl [[.s x.aJ[i].fName,.sl []],[.s [],.sl ((aN x.aJ[i].aG).map aj.enc)],[.s (fC x.aJ[i].fBody).aO,.sl ((fC x.aJ[i].fBody).ah.map aj.enc)]]]]=T (i+1):=fun i hi=>by
  have:=jR (base:=nY x) (l:=x.aJ.map pO) (i:=i) (by rw[List.length_map];exact hi);rw[List.getElem_map,pO,dW,dG] at this;simp only[List.map_cons,List.map_nil,fO,kI,aj.aA (fC x.aJ[i].fBody)] at this;rw[hT];exact this
 have hTr:∀i,∀r∈T i,r.length=2:=fun i=>by rw[hT];exact gV
 have hTe:T x.aJ.length=(xY x).ah.map aj.enc:=by
  rw[hT];simp only
  rw[List.take_of_length_le (by simp)];rfl
 clear hT;refine zcx [.cell 2 54] func210 ntmps210 ?_;refine W1 ?_;refine aX (qg x (by omega)) ?_;simp -implicitDefEqProofs (disch:=omega) only[go_sem,hv,ha,hs];refine W3 ?_;refine C1 (mR x.bD (by omega)) ?_;refine W3 ?_;refine C1 (oo _ (by simp) (by simp)) ?_;refine W3 ?_;refine C1 (bW _) ?_;refine C1 (bW _) ?_;refine C1 (eF x.aG (by omega)) ?_;refine C1 (mR x.bQ (by omega)) ?_;refine C1 (xJ x.bY (by omega) (fun b hb=>by have:=q8 hb;omega)) ?_;refine C1 (eF [] (by simp)) ?_;have hE:=fun bU Ω=>lZ (T 0) (hTr 0) (by have:=iI 0;omega) bU Ω;simp only[hT0] at hE;refine qB [false] rfl (hE _ _) ?_;refine W1 ?_
 refine aT (ι:=Nat) zmx rfl [1,2,5,6] (fun i=>[.c (.ptr (0,0) 0),.c (.ptr (0,1) 0),.c (.ptr (0,5) 0),.c (.d (.i .i64 i))])
  (fun i=>[.box [.d (.s x.bC),.d (.sl (x.aG.map encS)),.d (.i .i64 x.bQ.aK),.d (.s x.bQ.fName),.d (.sl (x.bQ.fArgs.map ak.enc)),.d (.sl (x.bY.map bn.enc)),.d (.b false),.d (.b true),.d (.i .i64 x.bD.aK),.d (.s x.bD.fName),.d (.sl (x.bD.fArgs.map ak.enc)),.d (.sl (x.aJ.map bq.enc))],.box [.d (.s []),.bE []],.box [.d (.s []),.d (.sl [[.s (cB x.bD).aO,.sl ((cB x.bD).ah.map aj.enc)]])],.box [.d (.s []),.bN (0,4) (T 0)],.tok 2 (T i),.box [.d (.s []),.bN (0,4) (T i)]]::S)
  (fun i=>i<=x.aJ.length) (fun i=>x.aJ.length-i) 0 rfl (by simp only[hT0]<;>(try rfl)) (Nat.zero_le _) ?_
 intro i hi;have hl:=iI i;refine W1 ?_;refine S0 (fun hb h=>?_) fun hb h=>?_
 ·have hi':i<x.aJ.length:=by omega
  have hm:=List.getElem_mem hi';have hcz:=Ba hm;have hce:=bq.sum x.aJ[i];rw[dK] at hce;have hst:=hTs i hi';refine W3 ?_;refine C1 (bW _) ?_;refine C1 (eF x.aJ[i].aG (by omega)) ?_;refine C1 (uW x.aJ[i].fBody (Fp _ hm) (by omega)) ?_;refine C1 (oo _ (by simp) (by simp)) ?_;refine W3 ?_;rw[hst];exact bX 6 (by decide) (i+1) (by omega) rfl rfl rfl rfl (by omega)
 ·have hi':i=x.aJ.length:=by omega
  subst hi';rw[hTe];refine C1 (tQ true (xY x) (by omega)) ?_;rfl
theorem ajT(x:aP)(hv:fH x=true)(hsz:x.sz<=1048576)(ha:x.gJ=false)(hs:x.dX=false):aH prog 210 [x.v] (Eh (xY x)).v:=fun S=>by
 have hdz:=aP.sum x;rw[dK] at hdz;obtain⟨hf1,hf2,hf3,Fp⟩:=oP hv;have hz:=KW hv
 have hfl:kN x=[]:=by unfold kN;rw[ha];rfl
 have has:kP x=[]:=by unfold kP;rw[hs];rfl
 obtain⟨T,hT⟩:∃T:Nat->List (List D),T=fun i=>(nY x++(x.aJ.map pO).take i).map aj.enc:=⟨_,rfl⟩
 have hT0:T 0=[[.s lu,.sl []],[.s x.bC,.sl []],[.s [],.sl ((aN x.aG).map aj.enc)],[.s (cB x.bQ).aO,.sl ((cB x.bQ).ah.map aj.enc)],[.s [],.sl ((x.bY.map q9).map aj.enc)],[.s [],.sl ((aN []).map aj.enc)],[.s [],.sl []]]:=by
  rw[hT];simp only[List.take_zero,List.append_nil,nY,hfl,has,List.map_cons,List.map_nil,fO,kI,aj.aA (cB x.bQ),aj.aA (cB x.bD)]
 have iI:∀i,(T i).length<=i+7:=fun i=>by
  rw[hT];simp only[List.length_map,List.length_append];have:=List.length_take_le i (x.aJ.map pO);simp[nY];omega
 have hTs:∀i (hi:i<x.aJ.length),T i++[[.s [],.sl [[.s x.aJ[i].fName,.sl []],[.s [],.sl ((aN x.aJ[i].aG).map aj.enc)],[.s (fC x.aJ[i].fBody).aO,.sl ((fC x.aJ[i].fBody).ah.map aj.enc)]]]]=T (i+1):=fun i hi=>by
  have:=jR (base:=nY x) (l:=x.aJ.map pO) (i:=i) (by rw[List.length_map];exact hi);rw[List.getElem_map,pO,dW,dG] at this;simp only[List.map_cons,List.map_nil,fO,kI,aj.aA (fC x.aJ[i].fBody)] at this;rw[hT];exact this
 have hTr:∀i,∀r∈T i,r.length=2:=fun i=>by rw[hT];exact gV
 have hTe:T x.aJ.length=(xY x).ah.map aj.enc:=by
  rw[hT];simp only
  rw[List.take_of_length_le (by simp)];rfl
 clear hT;refine zcx [.cell 2 54] func210 ntmps210 ?_;refine W1 ?_;refine aX (qg x (by omega)) ?_;simp -implicitDefEqProofs (disch:=omega) only[go_sem,hv,ha,hs];refine W3 ?_;refine C1 (bW _) ?_;refine C1 (bW _) ?_;refine C1 (eF x.aG (by omega)) ?_;refine C1 (mR x.bQ (by omega)) ?_;refine C1 (xJ x.bY (by omega) (fun b hb=>by have:=q8 hb;omega)) ?_;refine C1 (eF [] (by simp)) ?_;have hE:=fun bU Ω=>lZ (T 0) (hTr 0) (by have:=iI 0;omega) bU Ω;simp only[hT0] at hE;refine qB [false] rfl (hE _ _) ?_;refine W1 ?_
 refine aT (ι:=Nat) zmx rfl [1,2,5,6] (fun i=>[.c (.ptr (0,0) 0),.c (.ptr (0,1) 0),.c (.ptr (0,5) 0),.c (.d (.i .i64 i))])
  (fun i=>[.box [.d (.s x.bC),.d (.sl (x.aG.map encS)),.d (.i .i64 x.bQ.aK),.d (.s x.bQ.fName),.d (.sl (x.bQ.fArgs.map ak.enc)),.d (.sl (x.bY.map bn.enc)),.d (.b false),.d (.b false),.d (.i .i64 x.bD.aK),.d (.s x.bD.fName),.d (.sl (x.bD.fArgs.map ak.enc)),.d (.sl (x.aJ.map bq.enc))],.box [.d (.s []),.bE []],.box [.d (.s []),.bE []],.box [.d (.s []),.bN (0,4) (T 0)],.tok 2 (T i),.box [.d (.s []),.bN (0,4) (T i)]]::S)
  (fun i=>i<=x.aJ.length) (fun i=>x.aJ.length-i) 0 rfl (by simp only[hT0]<;>(try rfl)) (Nat.zero_le _) ?_
 intro i hi;have hl:=iI i;refine W1 ?_;refine S0 (fun hb h=>?_) fun hb h=>?_
 ·have hi':i<x.aJ.length:=by omega
  have hm:=List.getElem_mem hi';have hcz:=Ba hm;have hce:=bq.sum x.aJ[i];rw[dK] at hce;have hst:=hTs i hi';refine W3 ?_;refine C1 (bW _) ?_;refine C1 (eF x.aJ[i].aG (by omega)) ?_;refine C1 (uW x.aJ[i].fBody (Fp _ hm) (by omega)) ?_;refine C1 (oo _ (by simp) (by simp)) ?_;refine W3 ?_;rw[hst];exact bX 6 (by decide) (i+1) (by omega) rfl rfl rfl rfl (by omega)
 ·have hi':i=x.aJ.length:=by omega
  subst hi';rw[hTe];refine C1 (tQ true (xY x) (by omega)) ?_;rfl
theorem ajU(x:aP)(hsz:x.sz<=1048576):aH prog 210 [x.v] (Ye x).v:=by
 unfold Ye
 cases hv:fH x with
 |false=>
  rw[wY];refine aH.less (fun S=> ?_) (Gy [] []);refine zcx [.cell 2 54] func210 ntmps210 ?_;refine W1 ?_;refine aX (qg x (by omega)) ?_;simp -implicitDefEqProofs (disch:=omega) only[go_sem,hv]
 |true=>
  rw[wY]
  cases ha:x.gJ with
  |true=>
   cases hs:x.dX with
   |true=>exact ajQ x hv hsz ha hs
   |false=>exact ajR x hv hsz ha hs
  |false=>
   cases hs:x.dX with
   |true=>exact ajS x hv hsz ha hs
   |false=>exact ajT x hv hsz ha hs
def tV(b:Bool)(y:aj):bq:=if b=true/\y.ah.length≠3 then⟨[],[],mF⟩ else⟨dJ y.ah 0,o9 y.ah 1,eY b (gX y.ah 2)⟩
def Bc(b:Bool)(x:aj):aP:=
 ⟨dJ x.ah 1,o9 x.ah 2,dN b (gX x.ah 3),(gX x.ah 4).ah.map (oM b),decide (0<(gX x.ah 5).ah.length),decide (0<(gX x.ah 6).ah.length),
   if 0<(gX x.ah 6).ah.length then dN b (gX (gX x.ah 6).ah 0) else jh,(x.ah.drop 7).map (tV b)⟩
theorem agG{vars:List (List UInt8)}{e:au}(h:nS vars e=true):∀v∈vars,v≠[]:=by
 unfold nS at h;rw[Bool.and_eq_true] at h;exact AV h.1
theorem ajV(b:Bool){m:bq}(h:nS m.aG m.fBody=true):tV b (pO m)=m:=by
 unfold tV;rw[if_neg (by simp[pO,dG])];show bq.mk m.fName (fq (aN m.aG)) (eY b (fC m.fBody))=m;rw[qN (agG h),GI b _ (Fj h)]
theorem inst_more{x:aP}(h:fH x=true):(∀v∈x.aG,v≠[])/\(x.dX=false->x.bD=jh)/\(∀m∈x.aJ,nS m.aG m.fBody=true):=by
 unfold fH vU at h;simp only[Bool.and_eq_true] at h;obtain⟨⟨_,_,h0,h1,_,_,_,h2,h3,_⟩,h4,_⟩:=h;refine⟨AV h0,fun ha=> ?_,fun m hm=> ?_⟩
 ·rw[if_neg (by rw[ha];decide)] at h3;exact sS (gH h3)
 ·have h5:=List.all_eq_true.1 h4 m hm;unfold nD at h5;simp only[Bool.and_eq_true] at h5;exact h5.2.2
theorem RP(b:Bool){x:aP}(h:fH x=true):Bc b (xY x)=x:=by
 obtain⟨h1,h2,h3,h4⟩:=oP h;obtain⟨g1,g2,g3⟩:=inst_more h;show aP.mk x.bC (fq (aN x.aG)) (dN b (cB x.bQ)) ((x.bY.map q9).map (oM b)) (decide (0<(aN (kN x)).length)) (decide (0<(kP x).length)) (if 0<(kP x).length then dN b (gX (kP x) 0) else jh) ((x.aJ.map pO).map (tV b))=x;rw[qN g1,xR b _ h1,EG fun c hc=>aaQ b (h2 c hc),EG fun c hc=>ajV b (g3 c hc),jQ]
 have e1:decide (0<(kN x).length)=x.gJ:=by unfold kN;cases x.gJ<;>rfl
 rw[e1];unfold kP
 cases ha:x.dX with
 |true=>
  rw[if_pos rfl];show aP.mk _ _ _ _ _ true (dN b (cB x.bD)) _=x;rw[xR b _ (h3 ha),<-ha]
 |false=>
  rw[if_neg (by decide)];show aP.mk _ _ _ _ _ false jh _=x;rw[<-g2 ha,<-ha]
noncomputable def zC(x:aj):Bool:=dec (fQ x=true/\(7<=x.ah.length/\dJ x.ah 0=lu)/\fH (Bc true x)=true/\xY (Bc true x)=x)
theorem ajW{x:aj}(hx:x.ah≠[]):zC x=(fQ x&&dec (Ye (Bc false x)=x)):=
 Yb hx (fun a h1 h2=>by rw[<-h2];exact⟨RP true h1,RP false h1⟩) fun a h=>by rw[<-h];exact⟨by rw[xY,dG];simp[nY],rfl⟩
theorem ajX{x:aj}(h:zC x=true):Bc false x=Bc true x:=by
 have h1:=gH h
 conv=>lhs;rw[<-h1.2.2.2]
 exact RP false h1.2.2.1
def LU:aP:=⟨[],[],jh,[],false,false,jh,[]⟩
noncomputable def rJ(x:aj):aP:=if zC x=true then Bc true x else LU
theorem ajY(b:Bool)(y:aj):(tV b y).sz<=y.sz:=by
 have h1:=EF y.ah;have h2:=qP y;have h3:=qP (gX y.ah 0);have h4:=rY (gX y.ah 1).ah;have h4':=qP (gX y.ah 1);have h5:=DF b (gX y.ah 2);unfold tV;split
 ·simp only[bq.sz,bq.aA,bT,bK,D.sz,au.d9,zx,List.map_nil,bf,List.length_nil];omega
 ·simp only[bq.sz,bq.aA,bT,bK,D.sz,au.d9,List.length_map,o9,dK,Fq];omega
theorem TV(b:Bool):∀l:List aj,bf ((l.map (tV b)).map bq.enc)<=dx l
 |[]=>by simp[bf]
 |y::l=>by
  have h1:=ajY b y;have h2:=TV b l;rw[List.map_cons,List.map_cons,bf,dx];simp only[bq.sz] at h1;omega
theorem RQ(b:Bool)(x:aj):(Bc b x).sz<=x.sz:=by
 have h1:=Cu x.ah;have h2:=qP x;have h3:=qP (gX x.ah 1);have h4:=rY (gX x.ah 2).ah;have h4':=qP (gX x.ah 2);have h5:=zw b (gX x.ah 3);have h6:=NI b (gX x.ah 4).ah;have h6':=qP (gX x.ah 4)
 have h7:(if 0<(gX x.ah 6).ah.length then dN b (gX (gX x.ah 6).ah 0) else jh).sz<=(gX x.ah 6).sz:=by
  have a1:=qP (gX x.ah 6);have a2:=EF (gX x.ah 6).ah;have a3:=zw b (gX (gX x.ah 6).ah 0);split
  ·omega
  ·rw[Cn];omega
 have h8:=TV b (x.ah.drop 7);generalize hz:(if 0<(gX x.ah 6).ah.length then dN b (gX (gX x.ah 6).ah 0) else jh)=z at h7;simp only[aP.sz,aP.aA,bT,bK,D.sz,ak.d9,Bc,hz,List.length_map,List.length_drop,o9,dK,Fq];omega
noncomputable def mJ(t:bA):List (List UInt8):=t.aD.map aM.fName
noncomputable def xU(t:bA):Prop:=t.nH=true/\(t.bD=true\/0<t.aD.length\/0<t.bI.length)
noncomputable def dQ(t:bA):Bool:=
 validName t.fName&&(dec (t.bI.length<=4)&&(iU t.bI&&(dec (t.aD.length<=6)&&(!dec (xU t)&&(t.aD.all iP&&dec (mJ t).Nodup)))))
theorem bA.sum(x:bA):x.fName.length+(x.bI.length+bf (x.bI.map encS))+(x.aD.length+bf (x.aD.map aM.enc))<=x.sz:=by
 simp only[bA.sz,bA.aA,bT,bK,D.sz,List.length_map];omega
theorem zD{xs:List aM}{t:aM}(h:t∈xs):t.sz<=bf (xs.map aM.enc):=dA (List.mem_map_of_mem h)
theorem adN{g:aM}(h:iP g=true):validName g.fName=true:=by
 unfold iP at h;rw[Bool.and_eq_true] at h;exact h.1
theorem ZX{t:bA}(h:t.aD.all iP=true):(mJ t).all validName=true:=by
 unfold mJ;rw[List.all_map];refine List.all_eq_true.2 fun g hg=>adN (List.all_eq_true.1 h g hg)
theorem Db(t:bA)(hsz:t.sz<=4194304):aH prog 161 [t.v] (.c (.d (.b (dQ t)))):=fun S=>by
 have hs:=bA.sum t
 have hV:∀s∈t.bI,s.length<=4194304:=fun s h=>by have:=tF h;omega
 have hG:∀g∈t.aD,g.sz<=4194304:=fun g h=>by have:=zD h;omega
 refine(show Hold ((validName t.fName=true/\t.bI.length<=4/\iU t.bI=true/\t.aD.length<=6/\¬xU t)-> ?T)->_ from fun tail=> ?main) ?tp
 case' main=>
  refine zcx [.tmp 2] func161 ntmps161 ?_;refine W1 ?_;refine C2 (iL t.fName (by omega)) ?_;refine S0 (fun hb h=>?_) fun hb h=>?_
  ·exact ay (by unfold dQ;rw[h];rfl)
  have h1:=h;refine S0 (fun hb h=>?_) fun hb h=>?_
  ·exact ay (by unfold dQ;rw[aB (show ¬t.bI.length<=4 by omega)];simp)
  have h2:=h;refine W3 ?_;refine C2 (qw t.bI (by omega) hV) ?_;refine S0 (fun hb h=>?_) fun hb h=>?_
  ·exact ay (by unfold dQ;rw[h];simp)
  have h3:=h;refine S0 (fun hb h=>?_) fun hb h=>?_
  ·exact ay (by unfold dQ;rw[aB (show ¬t.aD.length<=6 by omega)];simp)
  have h4:=h;have bad:xU t->V.c (.d (.b false))=V.c (.d (.b (dQ t))):=fun h=>ay (by unfold dQ;rw[aZ h];simp);have pre:¬xU t->(validName t.fName=true/\t.bI.length<=4/\iU t.bI=true/\t.aD.length<=6/\¬xU t):=fun h=>⟨h1,by omega,h3,by omega,h⟩
  repeat' (first|refine S0 (fun hb h=>?_) fun hb h=>?_)
  all_goals first
   |(refine bad ⟨by assumption,?_⟩;first|exact .inl (by assumption)|exact .inr (.inl (by omega))|exact .inr (.inr (by omega)))
   |skip
  all_goals
   have na:¬xU t:=fun x=>by
    obtain⟨x1,x2⟩:=x
    rcases x2 with x2|x2|x2<;>first|omega|simp_all
   refine W3 ?_;refine ni 3 1 [] rfl (by simp) ?_;refine oD (st':=[.box (t.enc.map .d),.tok 1 []]::S) [3,48,49,50] [.c (.bN (0,1) []),.c (.d (.sl (t.aD.map aM.enc))),.c (.d (.i .i64 t.aD.length)),.c (.d (.i .i64 0))] ?_ ?_ ?_
   ·rfl
   ·first|(refine W1 ?_;done)|(refine W1 ?_;simp[*])
   ·exact tail.out (pre na)
 refine⟨fun hp=> ?_⟩;obtain⟨h1,h2,h3,h4,h5⟩:=hp
 have bad:∀i,∀hi:i<t.aD.length,iP t.aD[i]=false->dQ t=false:=fun i hi h=>by
  have:t.aD.all iP=false:=Bool.eq_false_iff.2 fun hx=>by
   rw[List.all_eq_true.1 hx _ (List.getElem_mem hi)] at h;cases h
  unfold dQ
  rw[this];simp
 refine aT (ι:=Nat×List (List UInt8)) zmx rfl [3,48,49,50] (fun y=>[.c (.bN (0,1) (y.2.map encS)),.c (.d (.sl (t.aD.map aM.enc))),.c (.d (.i .i64 t.aD.length)),.c (.d (.i .i64 y.1))]) (fun y=>[.box (t.enc.map .d),.tok 1 (y.2.map encS)]::S)
  (fun y=>y.1<=t.aD.length/\y.2=(mJ t).take y.1/\∀j,∀hj:j<t.aD.length,j<y.1->iP t.aD[j]=true) (fun y=>t.aD.length-y.1) (0,[]) rfl ?_ ⟨Nat.zero_le _,rfl,fun j _ h=>by simp only at h;omega⟩ ?_
 ·exact Z1
 rintro⟨i,names⟩ ⟨p1,p2,p3⟩;simp only at p1 p2 p3
 have pl:names.length<=t.aD.length:=by rw[p2];simp[mJ];omega
 refine W1 ?_;refine S0 (fun hb h=>?_) fun hb h=>?_
 ·have hi:i<t.aD.length:=by omega
  refine W3 ?_;refine C2 (RH t.aD[i] (hG _ (List.getElem_mem hi))) ?_;refine S0 (fun hb h=>?_) fun hb h=>?_
  ·rw[bad i hi h]
  have k2:=h;refine W3 ?_;rw[show List.map encS names++[[D.s t.aD[i].fName]]=List.map encS (names++[t.aD[i].fName]) by simp[encS]]
  exact bX 2 (by decide) (i+1,names++[t.aD[i].fName]) (by simp only;omega) rfl rfl rfl rfl ⟨by simp only;omega,by simp only;rw[p2,jc (by simpa [mJ] using hi)];simp[mJ],fun j hj hji=>by
   simp only at hji;by_cases e:j=i
   ·subst e;exact k2
   ·exact p3 j hj (by omega)⟩
 have hi:i=t.aD.length:=by omega
 have hn:names=mJ t:=by rw[p2,List.take_of_length_le (by simp[mJ];omega)]
 have hall:t.aD.all iP=true:=List.all_eq_true.2 fun c hc=>by
  obtain⟨j,hj,e⟩:=List.getElem_of_mem hc;rw[<-e];exact p3 j hj (by omega)
 refine C2 (qV names (by omega)) ?_;exact ay (by unfold dQ;rw[h1,h3,hall,<-hn,aZ h2,aZ h4,aB h5];simp)
theorem rM(t:bA)(hsz:t.sz<=4194304):aH prog 213 [t.v] (.c (.d (.b (dQ t)))):=fun S=>by
 have hs:=bA.sum t
 have hV:∀s∈t.bI,s.length<=4194304:=fun s h=>by have:=tF h;omega
 have hG:∀g∈t.aD,g.sz<=4194304:=fun g h=>by have:=zD h;omega
 have bad:∀i,∀hi:i<t.aD.length,iP t.aD[i]=false->dQ t=false:=fun i hi h=>by
  have:t.aD.all iP=false:=Bool.eq_false_iff.2 fun hx=>by
   rw[List.all_eq_true.1 hx _ (List.getElem_mem hi)] at h;cases h
  unfold dQ
  rw[this];simp
 have arW:xU t->V.c (.d (.b false))=V.c (.d (.b (dQ t))):=fun h=>ay (by unfold dQ;rw[aZ h];simp);refine zcx [.tmp 2] func213 ntmps213 ?_;refine W1 ?_;refine W3 ?_;refine ni 3 1 [] rfl (by simp) ?_
 refine aT (ι:=Nat×List (List UInt8)) zmx rfl [1,3,4] (fun y=>[.c (.ptr (0,0) 0),.c (.bN (0,1) (y.2.map encS)),.c (.d (.i .i64 y.1))]) (fun y=>[.box (t.enc.map .d),.tok 1 (y.2.map encS)]::S)
  (fun y=>y.1<=t.aD.length/\y.2=(mJ t).take y.1/\∀j,∀hj:j<t.aD.length,j<y.1->iP t.aD[j]=true) (fun y=>t.aD.length-y.1) (0,[]) rfl ?_ ⟨Nat.zero_le _,rfl,fun j _ h=>by simp only at h;omega⟩ ?_
 ·exact Z1
 rintro⟨i,names⟩ ⟨p1,p2,p3⟩;simp only at p1 p2 p3
 have pl:names.length<=t.aD.length:=by rw[p2];simp[mJ];omega
 refine W1 ?_;refine S0 (fun hb h=>?_) fun hb h=>?_
 ·have hi:i<t.aD.length:=by omega
  refine W3 ?_;refine C2 (agy t.aD[i] (hG _ (List.getElem_mem hi))) ?_;refine S0 (fun hb h=>?_) fun hb h=>?_
  ·rw[bad i hi h]
  have k2:=h;refine W3 ?_;rw[show List.map encS names++[[D.s t.aD[i].fName]]=List.map encS (names++[t.aD[i].fName]) by simp[encS]]
  exact bF (i+1,names++[t.aD[i].fName]) (by simp only;omega) rfl rfl ⟨by simp only;omega,by simp only;rw[p2,jc (by simpa [mJ] using hi)];simp[mJ],fun j hj hji=>by
   simp only at hji;by_cases e:j=i
   ·subst e;exact k2
   ·exact p3 j hj (by omega)⟩
 have hi:i=t.aD.length:=by omega
 have hn:names=mJ t:=by rw[p2,List.take_of_length_le (by simp[mJ];omega)]
 have hall:t.aD.all iP=true:=List.all_eq_true.2 fun c hc=>by
  obtain⟨j,hj,e⟩:=List.getElem_of_mem hc;rw[<-e];exact p3 j hj (by omega)
 have Oi:=ZX hall
 have hnl:∀s∈names,s.length<=4194304:=fun s hm=>by
  rw[hn] at hm;obtain⟨g,hg,e⟩:=List.mem_map.1 hm;have:=hG g hg;have:=aM.sum g;rw[<-e];omega
 have hlen:names.length=t.aD.length:=by rw[hn];simp[mJ]
 clear bad p2 p3
 repeat' (first|refine S0 (fun hb h=>?_) fun hb h=>?_)
 all_goals first
  |(refine arW ⟨by assumption,?_⟩;first|exact .inl (by assumption)|exact .inr (.inl (by omega))|exact .inr (.inr (by omega)))
  |skip
 all_goals
  have na:¬xU t:=fun x=>by
   obtain⟨x1,x2⟩:=x
   rcases x2 with x2|x2|x2<;>first|omega|simp_all
  refine W3 ?_;refine C1 (iM t.fName (by omega)) ?_;refine S0 (fun hb h=>?_) fun hb h=>?_
  ·have h1:=h;refine W3 ?_;refine C2 (ny t.bI 4 (by omega) hV) ?_;refine S0 (fun hb h=>?_) fun hb h=>?_
   ·have h2:=h;rw[Bool.and_eq_true] at h2;have h3:=gH h2.1;refine C2 (ny names 6 (by omega) hnl) ?_;refine ay ?_;unfold dQ;rw[h1,h2.2,hall,aB na,aZ (show t.bI.length<=4 by omega),hlen];unfold iU;rw[hn,Oi,Bool.and_true];simp only[Bool.true_and,Bool.not_false];congr 1;exact iB ⟨fun h=>by omega,fun h=>by omega⟩
   ·refine ay ?_;unfold dQ
    have h2:(dec (t.bI.length<=4)&&iU t.bI)=false:=by
     rw[<-h];congr 1;exact iB ⟨fun h=>by omega,fun h=>by omega⟩
    rw[<-Bool.and_assoc (dec (t.bI.length<=4)),h2];simp
  ·exact ay (by unfold dQ;rw[h];rfl)
def uE:List UInt8:=[97,117,116,111]
def kr:List UInt8:=[116,114,97,105,116]
def l6(t:bA):List (List UInt8):=(if t.nH=true then [uE] else [])++(if t.bD=true then [iZ] else [])
def oQ(g:aM):aj:=bB ([bJ g.fName,bB (g.aW.map cB),cB g.bP]++if g.gW=true then [bB (aN g.aG),fC g.fBody] else [])
theorem LV(n:Nat)(es:List (List D)):Less (.c (.d (.ol n es))) (.c (.d (.sl es))):=fun w σ S β v h=>⟨uG h.1,h.2⟩
def jr(t:bA):List aj:=[bJ kr,bJ t.fName,bB (aN t.bI),bB (aN (l6 t))]
def rV(t:bA):aj:=bB (jr t++t.aD.map oQ)
noncomputable def Qt(x:bA):aj:=wY (dQ x) (rV x)
theorem ajZ{x:bA}(h:x.sz<=1048576):(Qt x).sz<=1048576:=Nat.le_trans (Ls _ _) (by decide)
theorem Bd{g:aM}(h:g.gW=true):(oQ g).ah=[bJ g.fName,bB (g.aW.map cB),cB g.bP,bB (aN g.aG),fC g.fBody]:=by rw[oQ,if_pos h];rfl
theorem Bf{g:aM}(h:g.gW=false):(oQ g).ah=[bJ g.fName,bB (g.aW.map cB),cB g.bP]:=by rw[oQ,if_neg (by rw[h];decide)];rfl
theorem Bg(g:aM):(oQ g).aO=[]:=rfl
theorem sj{g:aM}(h:iP g=true):jm g.aW=true/\formed g.bP=true/\(g.gW=true->jd g.fBody=true):=by
 unfold iP at h;simp only[Bool.and_eq_true] at h;obtain⟨_,_,h1,h2,h3⟩:=h;refine⟨yV h1,wM h2,fun hd=> ?_⟩;rw[if_pos hd,Bool.and_eq_true] at h3;exact Fj h3.2
theorem aol(g:aM)(hok:iP g=true):(oQ g).sz<=48+32*g.sz:=by
 obtain⟨_,_,hb⟩:=sj hok;have h1:=OP g.aW;have h2:=Ca g.bP;have h3:=aM.sum g;rw[dK,AP] at h3;by_cases hd:g.gW=true
 ·have h4:=KH g.fBody (hb hd);rw[oQ,if_pos hd,jJ];simp[dx,jU,jJ,jQ,tu];omega
 ·rw[oQ,if_neg hd,jJ];simp[dx,jU,jJ,jQ,tu];omega
theorem aaR:∀l:List aM,(∀g∈l,iP g=true)->dx (l.map oQ)<=48*l.length+32*bf (l.map aM.enc)
 |[],_=>by simp[dx]
 |c::l,h=>by
  have h1:=aol c (h c (List.mem_cons_self ..));have h2:=aaR l fun g hg=>h g (List.mem_cons_of_mem _ hg);rw[List.map_cons,dx,List.map_cons,bf,List.length_cons];simp only[aM.sz] at h1;omega
theorem jI{t:bA}(h:dQ t=true):(∀g∈t.aD,iP g=true)/\¬(t.nH=true/\t.bD=true):=by
 unfold dQ at h;simp only[Bool.and_eq_true,Bool.not_eq_true'] at h;obtain⟨_,_,_,_,h1,h2,_⟩:=h;refine⟨fun g hg=>List.all_eq_true.1 h2 g hg,fun hh=> ?_⟩;rw[aZ (show xU t from⟨hh.1,.inl hh.2⟩)] at h1;cases h1
theorem agH(t:bA):(l6 t).length<=2/\((l6 t).map List.length).sum<=9:=by
 unfold l6;split<;>split<;>simp[uE,iZ]
theorem LW{t:bA}(hok:dQ t=true):(rV t).sz<=64+49*t.sz:=by
 have h1:=aaR t.aD (jI hok).1;have h2:=agH t;have h3:=bA.sum t;rw[dK] at h3;rw[rV,jJ,jS,List.length_append,List.length_map];simp[jr,dx,jU,jJ,jQ,tu,kr];omega
theorem FV(n:Nat)(a b:List UInt8)(w v:List (List UInt8)):lx [bJ a,bJ b,bB (aN w),bB (aN v)] (n+1)=[[.s a,.ol (n+1) []],[.s b,.ol (n+1+1) []],[.s [],.ol (n+1+1+1) (lx (aN w) (n+1+1+1+1))],[.s [],.ol (n+1+1+1+dS (bB (aN w))) (lx (aN v) (n+1+1+1+dS (bB (aN w))+1))]]:=by
 simp only[jW,nQ,ku,kY,kZ,dW,dG,kg]
theorem ZY(t:bA)(n:Nat)(hv:dQ t=true)(hsz:t.sz<=1048576)(ha:t.nH=true)(hs:t.bD=false):aH prog 218 [t.v] (.agg [.d (.s []),.d (.ol n (lx (rV t).ah (n+1)))]):=fun S=>by
 have hdz:=bA.sum t;rw[dK] at hdz;obtain⟨hso,_⟩:=jI hv
 have hfl:l6 t=[uE]:=by unfold l6;rw[ha,hs];rfl
 obtain⟨L,hL⟩:∃L:Nat->Nat,L=fun i=>n+1+jE (jr t++(t.aD.map oQ).take i):=⟨_,rfl⟩;obtain⟨T,hT⟩:∃T:Nat->List (List D),T=fun i=>lx (jr t++(t.aD.map oQ).take i) (n+1):=⟨_,rfl⟩
 have hT0:T 0=[[.s kr,.ol (n+1) []],[.s t.fName,.ol (n+1+1) []],[.s [],.ol (n+1+1+1) (lx (aN t.bI) (n+1+1+1+1))],[.s [],.ol (n+1+1+1+dS (bB (aN t.bI))) (lx (aN [uE]) (n+1+1+1+dS (bB (aN t.bI))+1))]]:=by
  rw[hT];simp only[List.take_zero,List.append_nil,jr,hfl];exact FV _ _ _ _ _
 have iI:∀i,(T i).length<=i+4:=fun i=>by
  rw[hT];simp only[iD,List.length_append];have:=List.length_take_le i (t.aD.map oQ);simp[jr];omega
 have hTs:∀i (hi:i<t.aD.length),T i++[[.s [],.ol (L i) (lx (oQ t.aD[i]).ah (L i+1))]]=T (i+1):=fun i hi=>by
  have:=AU (base:=jr t) (l:=t.aD.map oQ) (i:=i) (by rw[List.length_map];exact hi) (n+1);rw[List.getElem_map,Bg] at this;rw[hT,hL];exact this
 have hTr:∀i,∀r∈T i,r.length=2:=fun i=>by rw[hT];exact mh
 have hTe:T t.aD.length=lx (rV t).ah (n+1):=by
  rw[hT];simp only
  rw[List.take_of_length_le (by simp)];rfl
 clear hT hL;refine vF (n) 1 (rs:=[.cell 2 54]) zmx func218 ntmps218 rfl rfl rfl rfl rfl ?_;simp -implicitDefEqProofs (disch:=omega) only[go_sem,ha,hs];refine W3 ?_;refine C1 (dB _ (n+1)) ?_;refine C1 (dB _ (n+1+1)) ?_;refine C1 (eX t.bI (by omega) (n+1+1+1)) ?_;refine oG (eX [uE] (by simp) (n+1+1+1+dS (bB (aN t.bI)))) (.cons (LV n _) .nil) ?_;refine W1 ?_;refine W3 ?_;refine mX n 4 2 (T 0) (.inl ?_) (hTr 0) ?_
 ·rw[hT0];rfl
 refine rX (L 0) ?_
 refine aT (ι:=Nat) zmx rfl [2,4,30,31,32] (fun i=>[.c (.ptr (0,3) 0),.c (.bN (0,4) (T i)),.c (.d (.sl (t.aD.map aM.enc))),.c (.d (.i .i64 t.aD.length)),.c (.d (.i .i64 i))])
  (fun i=>[.seed (L i),.seed 1,.box [.d (.s t.fName),.d (.sl (t.bI.map encS)),.d (.b true),.d (.b false),.d (.sl (t.aD.map aM.enc))],.box [.d (.s []),.bE []],.fu n 2 (T i)]::S)
  (fun i=>i<=t.aD.length) (fun i=>t.aD.length-i) 0 rfl rfl (Nat.zero_le _) ?_
 intro i hi;have hl:=iI i;refine W1 ?_;refine S0 (fun hb h=>?_) fun hb h=>?_
 ·have hi':i<t.aD.length:=by omega
  have hm:=List.getElem_mem hi';have hcz:=zD hm;have hce:=aM.sum t.aD[i];rw[dK] at hce;obtain⟨q1,q2,q3⟩:=sj (hso _ hm);have hst:=hTs i hi';refine W3 ?_;refine C1 (dB _ (L i+1)) ?_;refine C1 (BG t.aD[i].aW (L i+1+1) (L i+1+1+1) q1 (by omega) (fun u hu=>by have:=zB hu;omega)) ?_;refine C1 (mq _) ?_;refine C1 (mD t.aD[i].bP (L i+1+1+dS (bB (t.aD[i].aW.map cB))) q2 (by omega)) ?_;refine S0 (fun hb h=>?_) fun hb h=>?_
  ·rw[Bd h] at hst;simp only[jW,nQ,ku,kY,kZ,dW,dG,kg] at hst;refine C1 (eX t.aD[i].aG (by omega) (L i+1+1+dS (bB (t.aD[i].aW.map cB))+dS (cB t.aD[i].bP))) ?_;refine C1 (Ag t.aD[i].fBody (L i+1+1+dS (bB (t.aD[i].aW.map cB))+dS (cB t.aD[i].bP)+dS (bB (aN t.aD[i].aG))) (q3 h) (by omega)) ?_;refine W3 ?_;refine C1 (mq _) ?_;refine W3 ?_;rw[hst];refine uh (L (i+1)) 4 (by decide) (i+1) (by omega) rfl rfl ?_ rfl (by omega);simp[kX,iX,V.refs,C.refs,oh]
  ·rw[Bf h] at hst;simp only[jW,nQ,ku,kY,kZ,dW,dG,kg] at hst;refine C1 (oJ _ _) ?_;refine W3 ?_;rw[hst];refine uh (L (i+1)) 4 (by decide) (i+1) (by omega) rfl rfl ?_ rfl (by omega);simp[kX,iX,V.refs,C.refs,oh]
 ·have hi':i=t.aD.length:=by omega
  refine bg rfl (kH 0 4 _ _) ?_;refine W1 ?_;rw[hi',hTe]
theorem Z0(t:bA)(n:Nat)(hv:dQ t=true)(hsz:t.sz<=1048576)(ha:t.nH=false)(hs:t.bD=true):aH prog 218 [t.v] (.agg [.d (.s []),.d (.ol n (lx (rV t).ah (n+1)))]):=fun S=>by
 have hdz:=bA.sum t;rw[dK] at hdz;obtain⟨hso,_⟩:=jI hv
 have hfl:l6 t=[iZ]:=by unfold l6;rw[ha,hs];rfl
 obtain⟨L,hL⟩:∃L:Nat->Nat,L=fun i=>n+1+jE (jr t++(t.aD.map oQ).take i):=⟨_,rfl⟩;obtain⟨T,hT⟩:∃T:Nat->List (List D),T=fun i=>lx (jr t++(t.aD.map oQ).take i) (n+1):=⟨_,rfl⟩
 have hT0:T 0=[[.s kr,.ol (n+1) []],[.s t.fName,.ol (n+1+1) []],[.s [],.ol (n+1+1+1) (lx (aN t.bI) (n+1+1+1+1))],[.s [],.ol (n+1+1+1+dS (bB (aN t.bI))) (lx (aN [iZ]) (n+1+1+1+dS (bB (aN t.bI))+1))]]:=by
  rw[hT];simp only[List.take_zero,List.append_nil,jr,hfl];exact FV _ _ _ _ _
 have iI:∀i,(T i).length<=i+4:=fun i=>by
  rw[hT];simp only[iD,List.length_append];have:=List.length_take_le i (t.aD.map oQ);simp[jr];omega
 have hTs:∀i (hi:i<t.aD.length),T i++[[.s [],.ol (L i) (lx (oQ t.aD[i]).ah (L i+1))]]=T (i+1):=fun i hi=>by
  have:=AU (base:=jr t) (l:=t.aD.map oQ) (i:=i) (by rw[List.length_map];exact hi) (n+1);rw[List.getElem_map,Bg] at this;rw[hT,hL];exact this
 have hTr:∀i,∀r∈T i,r.length=2:=fun i=>by rw[hT];exact mh
 have hTe:T t.aD.length=lx (rV t).ah (n+1):=by
  rw[hT];simp only
  rw[List.take_of_length_le (by simp)];rfl
 clear hT hL;refine vF (n) 1 (rs:=[.cell 2 54]) zmx func218 ntmps218 rfl rfl rfl rfl rfl ?_;simp -implicitDefEqProofs (disch:=omega) only[go_sem,ha,hs];refine W3 ?_;refine C1 (dB _ (n+1)) ?_;refine C1 (dB _ (n+1+1)) ?_;refine C1 (eX t.bI (by omega) (n+1+1+1)) ?_;refine oG (eX [iZ] (by simp) (n+1+1+1+dS (bB (aN t.bI)))) (.cons (LV n _) .nil) ?_;refine W1 ?_;refine W3 ?_;refine mX n 4 2 (T 0) (.inl ?_) (hTr 0) ?_
 ·rw[hT0];rfl
 refine rX (L 0) ?_
 refine aT (ι:=Nat) zmx rfl [2,4,30,31,32] (fun i=>[.c (.ptr (0,3) 0),.c (.bN (0,4) (T i)),.c (.d (.sl (t.aD.map aM.enc))),.c (.d (.i .i64 t.aD.length)),.c (.d (.i .i64 i))])
  (fun i=>[.seed (L i),.seed 1,.box [.d (.s t.fName),.d (.sl (t.bI.map encS)),.d (.b false),.d (.b true),.d (.sl (t.aD.map aM.enc))],.box [.d (.s []),.bE []],.fu n 2 (T i)]::S)
  (fun i=>i<=t.aD.length) (fun i=>t.aD.length-i) 0 rfl rfl (Nat.zero_le _) ?_
 intro i hi;have hl:=iI i;refine W1 ?_;refine S0 (fun hb h=>?_) fun hb h=>?_
 ·have hi':i<t.aD.length:=by omega
  have hm:=List.getElem_mem hi';have hcz:=zD hm;have hce:=aM.sum t.aD[i];rw[dK] at hce;obtain⟨q1,q2,q3⟩:=sj (hso _ hm);have hst:=hTs i hi';refine W3 ?_;refine C1 (dB _ (L i+1)) ?_;refine C1 (BG t.aD[i].aW (L i+1+1) (L i+1+1+1) q1 (by omega) (fun u hu=>by have:=zB hu;omega)) ?_;refine C1 (mq _) ?_;refine C1 (mD t.aD[i].bP (L i+1+1+dS (bB (t.aD[i].aW.map cB))) q2 (by omega)) ?_;refine S0 (fun hb h=>?_) fun hb h=>?_
  ·rw[Bd h] at hst;simp only[jW,nQ,ku,kY,kZ,dW,dG,kg] at hst;refine C1 (eX t.aD[i].aG (by omega) (L i+1+1+dS (bB (t.aD[i].aW.map cB))+dS (cB t.aD[i].bP))) ?_;refine C1 (Ag t.aD[i].fBody (L i+1+1+dS (bB (t.aD[i].aW.map cB))+dS (cB t.aD[i].bP)+dS (bB (aN t.aD[i].aG))) (q3 h) (by omega)) ?_;refine W3 ?_;refine C1 (mq _) ?_;refine W3 ?_;rw[hst];refine uh (L (i+1)) 4 (by decide) (i+1) (by omega) rfl rfl ?_ rfl (by omega);simp[kX,iX,V.refs,C.refs,oh]
  ·rw[Bf h] at hst;simp only[jW,nQ,ku,kY,kZ,dW,dG,kg] at hst;refine C1 (oJ _ _) ?_;refine W3 ?_;rw[hst];refine uh (L (i+1)) 4 (by decide) (i+1) (by omega) rfl rfl ?_ rfl (by omega);simp[kX,iX,V.refs,C.refs,oh]
 ·have hi':i=t.aD.length:=by omega
  refine bg rfl (kH 0 4 _ _) ?_;refine W1 ?_;rw[hi',hTe]
theorem Z4(t:bA)(n:Nat)(hv:dQ t=true)(hsz:t.sz<=1048576)(ha:t.nH=false)(hs:t.bD=false):aH prog 218 [t.v] (.agg [.d (.s []),.d (.ol n (lx (rV t).ah (n+1)))]):=fun S=>by
 have hdz:=bA.sum t;rw[dK] at hdz;obtain⟨hso,_⟩:=jI hv
 have hfl:l6 t=[]:=by unfold l6;rw[ha,hs];rfl
 obtain⟨L,hL⟩:∃L:Nat->Nat,L=fun i=>n+1+jE (jr t++(t.aD.map oQ).take i):=⟨_,rfl⟩;obtain⟨T,hT⟩:∃T:Nat->List (List D),T=fun i=>lx (jr t++(t.aD.map oQ).take i) (n+1):=⟨_,rfl⟩
 have hT0:T 0=[[.s kr,.ol (n+1) []],[.s t.fName,.ol (n+1+1) []],[.s [],.ol (n+1+1+1) (lx (aN t.bI) (n+1+1+1+1))],[.s [],.ol (n+1+1+1+dS (bB (aN t.bI))) (lx (aN []) (n+1+1+1+dS (bB (aN t.bI))+1))]]:=by
  rw[hT];simp only[List.take_zero,List.append_nil,jr,hfl];exact FV _ _ _ _ _
 have iI:∀i,(T i).length<=i+4:=fun i=>by
  rw[hT];simp only[iD,List.length_append];have:=List.length_take_le i (t.aD.map oQ);simp[jr];omega
 have hTs:∀i (hi:i<t.aD.length),T i++[[.s [],.ol (L i) (lx (oQ t.aD[i]).ah (L i+1))]]=T (i+1):=fun i hi=>by
  have:=AU (base:=jr t) (l:=t.aD.map oQ) (i:=i) (by rw[List.length_map];exact hi) (n+1);rw[List.getElem_map,Bg] at this;rw[hT,hL];exact this
 have hTr:∀i,∀r∈T i,r.length=2:=fun i=>by rw[hT];exact mh
 have hTe:T t.aD.length=lx (rV t).ah (n+1):=by
  rw[hT];simp only
  rw[List.take_of_length_le (by simp)];rfl
 clear hT hL;refine vF (n) 1 (rs:=[.cell 2 54]) zmx func218 ntmps218 rfl rfl rfl rfl rfl ?_;simp -implicitDefEqProofs (disch:=omega) only[go_sem,ha,hs];refine W3 ?_;refine C1 (dB _ (n+1)) ?_;refine C1 (dB _ (n+1+1)) ?_;refine C1 (eX t.bI (by omega) (n+1+1+1)) ?_;refine oG (eX [] (by simp) (n+1+1+1+dS (bB (aN t.bI)))) (.cons (pJ n _) .nil) ?_;refine W1 ?_;refine W3 ?_;refine mX n 4 2 (T 0) (.inl ?_) (hTr 0) ?_
 ·rw[hT0];rfl
 refine rX (L 0) ?_
 refine aT (ι:=Nat) zmx rfl [2,4,30,31,32] (fun i=>[.c (.ptr (0,3) 0),.c (.bN (0,4) (T i)),.c (.d (.sl (t.aD.map aM.enc))),.c (.d (.i .i64 t.aD.length)),.c (.d (.i .i64 i))])
  (fun i=>[.seed (L i),.seed 1,.box [.d (.s t.fName),.d (.sl (t.bI.map encS)),.d (.b false),.d (.b false),.d (.sl (t.aD.map aM.enc))],.box [.d (.s []),.bE []],.fu n 2 (T i)]::S)
  (fun i=>i<=t.aD.length) (fun i=>t.aD.length-i) 0 rfl rfl (Nat.zero_le _) ?_
 intro i hi;have hl:=iI i;refine W1 ?_;refine S0 (fun hb h=>?_) fun hb h=>?_
 ·have hi':i<t.aD.length:=by omega
  have hm:=List.getElem_mem hi';have hcz:=zD hm;have hce:=aM.sum t.aD[i];rw[dK] at hce;obtain⟨q1,q2,q3⟩:=sj (hso _ hm);have hst:=hTs i hi';refine W3 ?_;refine C1 (dB _ (L i+1)) ?_;refine C1 (BG t.aD[i].aW (L i+1+1) (L i+1+1+1) q1 (by omega) (fun u hu=>by have:=zB hu;omega)) ?_;refine C1 (mq _) ?_;refine C1 (mD t.aD[i].bP (L i+1+1+dS (bB (t.aD[i].aW.map cB))) q2 (by omega)) ?_;refine S0 (fun hb h=>?_) fun hb h=>?_
  ·rw[Bd h] at hst;simp only[jW,nQ,ku,kY,kZ,dW,dG,kg] at hst;refine C1 (eX t.aD[i].aG (by omega) (L i+1+1+dS (bB (t.aD[i].aW.map cB))+dS (cB t.aD[i].bP))) ?_;refine C1 (Ag t.aD[i].fBody (L i+1+1+dS (bB (t.aD[i].aW.map cB))+dS (cB t.aD[i].bP)+dS (bB (aN t.aD[i].aG))) (q3 h) (by omega)) ?_;refine W3 ?_;refine C1 (mq _) ?_;refine W3 ?_;rw[hst];refine uh (L (i+1)) 4 (by decide) (i+1) (by omega) rfl rfl ?_ rfl (by omega);simp[kX,iX,V.refs,C.refs,oh]
  ·rw[Bf h] at hst;simp only[jW,nQ,ku,kY,kZ,dW,dG,kg] at hst;refine C1 (oJ _ _) ?_;refine W3 ?_;rw[hst];refine uh (L (i+1)) 4 (by decide) (i+1) (by omega) rfl rfl ?_ rfl (by omega);simp[kX,iX,V.refs,C.refs,oh]
 ·have hi':i=t.aD.length:=by omega
  refine bg rfl (kH 0 4 _ _) ?_;refine W1 ?_;rw[hi',hTe]
theorem UK(t:bA)(n:Nat)(hv:dQ t=true)(hsz:t.sz<=1048576):aH prog 218 [t.v] (.agg [.d (.s []),.d (.ol n (lx (rV t).ah (n+1)))]):=by
 have hb:=(jI hv).2
 cases ha:t.nH with
 |true=>
  cases hs:t.bD with
  |true=>exact absurd ⟨ha,hs⟩ hb
  |false=>exact ZY t n hv hsz ha hs
 |false=>
  cases hs:t.bD with
  |true=>exact Z0 t n hv hsz ha hs
  |false=>exact Z4 t n hv hsz ha hs
theorem aj0(t:bA)(hv:dQ t=true)(hsz:t.sz<=1048576)(ha:t.nH=true)(hs:t.bD=false):aH prog 207 [t.v] (Eh (rV t)).v:=fun S=>by
 have hdz:=bA.sum t;rw[dK] at hdz;obtain⟨hso,_⟩:=jI hv;have hz:=LW hv
 have hfl:l6 t=[uE]:=by unfold l6;rw[ha,hs];rfl
 obtain⟨T,hT⟩:∃T:Nat->List (List D),T=fun i=>(jr t++(t.aD.map oQ).take i).map aj.enc:=⟨_,rfl⟩
 have hT0:T 0=[[.s kr,.sl []],[.s t.fName,.sl []],[.s [],.sl ((aN t.bI).map aj.enc)],[.s [],.sl ((aN [uE]).map aj.enc)]]:=by
  rw[hT];simp only[List.take_zero,List.append_nil,jr,hfl,List.map_cons,List.map_nil,fO,kI]
 have iI:∀i,(T i).length<=i+4:=fun i=>by
  rw[hT];simp only[List.length_map,List.length_append];have:=List.length_take_le i (t.aD.map oQ);simp[jr];omega
 have hTs:∀i (hi:i<t.aD.length),T i++[[.s [],.sl ((oQ t.aD[i]).ah.map aj.enc)]]=T (i+1):=fun i hi=>by
  have:=jR (base:=jr t) (l:=t.aD.map oQ) (i:=i) (by rw[List.length_map];exact hi);rw[List.getElem_map,Bg] at this;rw[hT];exact this
 have hTr:∀i,∀r∈T i,r.length=2:=fun i=>by rw[hT];exact gV
 have hTe:T t.aD.length=(rV t).ah.map aj.enc:=by
  rw[hT];simp only
  rw[List.take_of_length_le (by simp)];rfl
 clear hT;refine zcx [.cell 2 54] func207 ntmps207 ?_;refine W1 ?_;refine aX (rM t (by omega)) ?_;simp -implicitDefEqProofs (disch:=omega) only[go_sem,hv,ha,hs];refine W3 ?_;refine C1 (bW _) ?_;refine C1 (bW _) ?_;refine C1 (eF t.bI (by omega)) ?_;refine C1 (eF [uE] (by simp)) ?_;have hE:=fun bU Ω=>lZ (T 0) (hTr 0) (by have:=iI 0;omega) bU Ω;simp only[hT0] at hE;refine qB [false] rfl (hE _ _) ?_;refine W1 ?_
 refine aT (ι:=Nat) zmx rfl [1,2,4,5] (fun i=>[.c (.ptr (0,0) 0),.c (.ptr (0,1) 0),.c (.ptr (0,5) 0),.c (.d (.i .i64 i))])
  (fun i=>[.box [.d (.s t.fName),.d (.sl (t.bI.map encS)),.d (.b true),.d (.b false),.d (.sl (t.aD.map aM.enc))],.box [.d (.s []),.bE []],.tok 1 [[.s uE]],.box [.d (.s []),.bN (0,4) (T 0)],.tok 2 (T i),.box [.d (.s []),.bN (0,4) (T i)]]::S)
  (fun i=>i<=t.aD.length) (fun i=>t.aD.length-i) 0 rfl (by simp only[hT0]<;>(try rfl)) (Nat.zero_le _) ?_
 intro i hi;have hl:=iI i;refine W1 ?_;refine S0 (fun hb h=>?_) fun hb h=>?_
 ·have hi':i<t.aD.length:=by omega
  have hm:=List.getElem_mem hi';have hcz:=zD hm;have hce:=aM.sum t.aD[i];rw[dK] at hce;obtain⟨q1,q2,q3⟩:=sj (hso _ hm);have hst:=hTs i hi';refine W3 ?_;refine C1 (bW _) ?_;refine C1 (Dq t.aD[i].aW (by omega) (fun u hu=>by have:=zB hu;omega)) ?_;refine C1 (mR t.aD[i].bP (by omega)) ?_;refine qB [false] rfl (lZ _ (by simp) (by simp) _ _) ?_;refine W1 ?_;refine S0 (fun hb h=>?_) fun hb h=>?_
  ·rw[Bd h] at hst;simp only[List.map_cons,List.map_nil,fO,kI,aj.aA (cB t.aD[i].bP),aj.aA (fC t.aD[i].fBody)] at hst;refine C1 (eF t.aD[i].aG (by omega)) ?_;refine C1 (uW t.aD[i].fBody (q3 h) (by omega)) ?_;refine W3 ?_;rw[hst];exact bX 6 (by decide) (i+1) (by omega) rfl rfl rfl rfl (by omega)
  ·rw[Bf h] at hst;simp only[List.map_cons,List.map_nil,fO,kI,aj.aA (cB t.aD[i].bP)] at hst;refine W3 ?_;rw[hst];exact bX 6 (by decide) (i+1) (by omega) rfl rfl rfl rfl (by omega)
 ·have hi':i=t.aD.length:=by omega
  subst hi';rw[hTe];refine C1 (tQ true (rV t) (by omega)) ?_;rfl
theorem aj1(t:bA)(hv:dQ t=true)(hsz:t.sz<=1048576)(ha:t.nH=false)(hs:t.bD=true):aH prog 207 [t.v] (Eh (rV t)).v:=fun S=>by
 have hdz:=bA.sum t;rw[dK] at hdz;obtain⟨hso,_⟩:=jI hv;have hz:=LW hv
 have hfl:l6 t=[iZ]:=by unfold l6;rw[ha,hs];rfl
 obtain⟨T,hT⟩:∃T:Nat->List (List D),T=fun i=>(jr t++(t.aD.map oQ).take i).map aj.enc:=⟨_,rfl⟩
 have hT0:T 0=[[.s kr,.sl []],[.s t.fName,.sl []],[.s [],.sl ((aN t.bI).map aj.enc)],[.s [],.sl ((aN [iZ]).map aj.enc)]]:=by
  rw[hT];simp only[List.take_zero,List.append_nil,jr,hfl,List.map_cons,List.map_nil,fO,kI]
 have iI:∀i,(T i).length<=i+4:=fun i=>by
  rw[hT];simp only[List.length_map,List.length_append];have:=List.length_take_le i (t.aD.map oQ);simp[jr];omega
 have hTs:∀i (hi:i<t.aD.length),T i++[[.s [],.sl ((oQ t.aD[i]).ah.map aj.enc)]]=T (i+1):=fun i hi=>by
  have:=jR (base:=jr t) (l:=t.aD.map oQ) (i:=i) (by rw[List.length_map];exact hi);rw[List.getElem_map,Bg] at this;rw[hT];exact this
 have hTr:∀i,∀r∈T i,r.length=2:=fun i=>by rw[hT];exact gV
 have hTe:T t.aD.length=(rV t).ah.map aj.enc:=by
  rw[hT];simp only
  rw[List.take_of_length_le (by simp)];rfl
 clear hT;refine zcx [.cell 2 54] func207 ntmps207 ?_;refine W1 ?_;refine aX (rM t (by omega)) ?_;simp -implicitDefEqProofs (disch:=omega) only[go_sem,hv,ha,hs];refine W3 ?_;refine C1 (bW _) ?_;refine C1 (bW _) ?_;refine C1 (eF t.bI (by omega)) ?_;refine C1 (eF [iZ] (by simp)) ?_;have hE:=fun bU Ω=>lZ (T 0) (hTr 0) (by have:=iI 0;omega) bU Ω;simp only[hT0] at hE;refine qB [false] rfl (hE _ _) ?_;refine W1 ?_
 refine aT (ι:=Nat) zmx rfl [1,2,4,5] (fun i=>[.c (.ptr (0,0) 0),.c (.ptr (0,1) 0),.c (.ptr (0,5) 0),.c (.d (.i .i64 i))])
  (fun i=>[.box [.d (.s t.fName),.d (.sl (t.bI.map encS)),.d (.b false),.d (.b true),.d (.sl (t.aD.map aM.enc))],.box [.d (.s []),.bE []],.tok 1 [[.s iZ]],.box [.d (.s []),.bN (0,4) (T 0)],.tok 2 (T i),.box [.d (.s []),.bN (0,4) (T i)]]::S)
  (fun i=>i<=t.aD.length) (fun i=>t.aD.length-i) 0 rfl (by simp only[hT0]<;>(try rfl)) (Nat.zero_le _) ?_
 intro i hi;have hl:=iI i;refine W1 ?_;refine S0 (fun hb h=>?_) fun hb h=>?_
 ·have hi':i<t.aD.length:=by omega
  have hm:=List.getElem_mem hi';have hcz:=zD hm;have hce:=aM.sum t.aD[i];rw[dK] at hce;obtain⟨q1,q2,q3⟩:=sj (hso _ hm);have hst:=hTs i hi';refine W3 ?_;refine C1 (bW _) ?_;refine C1 (Dq t.aD[i].aW (by omega) (fun u hu=>by have:=zB hu;omega)) ?_;refine C1 (mR t.aD[i].bP (by omega)) ?_;refine qB [false] rfl (lZ _ (by simp) (by simp) _ _) ?_;refine W1 ?_;refine S0 (fun hb h=>?_) fun hb h=>?_
  ·rw[Bd h] at hst;simp only[List.map_cons,List.map_nil,fO,kI,aj.aA (cB t.aD[i].bP),aj.aA (fC t.aD[i].fBody)] at hst;refine C1 (eF t.aD[i].aG (by omega)) ?_;refine C1 (uW t.aD[i].fBody (q3 h) (by omega)) ?_;refine W3 ?_;rw[hst];exact bX 6 (by decide) (i+1) (by omega) rfl rfl rfl rfl (by omega)
  ·rw[Bf h] at hst;simp only[List.map_cons,List.map_nil,fO,kI,aj.aA (cB t.aD[i].bP)] at hst;refine W3 ?_;rw[hst];exact bX 6 (by decide) (i+1) (by omega) rfl rfl rfl rfl (by omega)
 ·have hi':i=t.aD.length:=by omega
  subst hi';rw[hTe];refine C1 (tQ true (rV t) (by omega)) ?_;rfl
theorem aj2(t:bA)(hv:dQ t=true)(hsz:t.sz<=1048576)(ha:t.nH=false)(hs:t.bD=false):aH prog 207 [t.v] (Eh (rV t)).v:=fun S=>by
 have hdz:=bA.sum t;rw[dK] at hdz;obtain⟨hso,_⟩:=jI hv;have hz:=LW hv
 have hfl:l6 t=[]:=by unfold l6;rw[ha,hs];rfl
 obtain⟨T,hT⟩:∃T:Nat->List (List D),T=fun i=>(jr t++(t.aD.map oQ).take i).map aj.enc:=⟨_,rfl⟩
 have hT0:T 0=[[.s kr,.sl []],[.s t.fName,.sl []],[.s [],.sl ((aN t.bI).map aj.enc)],[.s [],.sl ((aN []).map aj.enc)]]:=by
  rw[hT];simp only[List.take_zero,List.append_nil,jr,hfl,List.map_cons,List.map_nil,fO,kI]
 have iI:∀i,(T i).length<=i+4:=fun i=>by
  rw[hT];simp only[List.length_map,List.length_append];have:=List.length_take_le i (t.aD.map oQ);simp[jr];omega
 have hTs:∀i (hi:i<t.aD.length),T i++[[.s [],.sl ((oQ t.aD[i]).ah.map aj.enc)]]=T (i+1):=fun i hi=>by
  have:=jR (base:=jr t) (l:=t.aD.map oQ) (i:=i) (by rw[List.length_map];exact hi);rw[List.getElem_map,Bg] at this;rw[hT];exact this
 have hTr:∀i,∀r∈T i,r.length=2:=fun i=>by rw[hT];exact gV
 have hTe:T t.aD.length=(rV t).ah.map aj.enc:=by
  rw[hT];simp only
  rw[List.take_of_length_le (by simp)];rfl
 clear hT;refine zcx [.cell 2 54] func207 ntmps207 ?_;refine W1 ?_;refine aX (rM t (by omega)) ?_;simp -implicitDefEqProofs (disch:=omega) only[go_sem,hv,ha,hs];refine W3 ?_;refine C1 (bW _) ?_;refine C1 (bW _) ?_;refine C1 (eF t.bI (by omega)) ?_;refine C1 (eF [] (by simp)) ?_;have hE:=fun bU Ω=>lZ (T 0) (hTr 0) (by have:=iI 0;omega) bU Ω;simp only[hT0] at hE;refine qB [false] rfl (hE _ _) ?_;refine W1 ?_
 refine aT (ι:=Nat) zmx rfl [1,2,4,5] (fun i=>[.c (.ptr (0,0) 0),.c (.ptr (0,1) 0),.c (.ptr (0,4) 0),.c (.d (.i .i64 i))])
  (fun i=>[.box [.d (.s t.fName),.d (.sl (t.bI.map encS)),.d (.b false),.d (.b false),.d (.sl (t.aD.map aM.enc))],.box [.d (.s []),.bE []],.box [.d (.s []),.bN (0,3) (T 0)],.tok 2 (T i),.box [.d (.s []),.bN (0,3) (T i)]]::S)
  (fun i=>i<=t.aD.length) (fun i=>t.aD.length-i) 0 rfl (by simp only[hT0]<;>(try rfl)) (Nat.zero_le _) ?_
 intro i hi;have hl:=iI i;refine W1 ?_;refine S0 (fun hb h=>?_) fun hb h=>?_
 ·have hi':i<t.aD.length:=by omega
  have hm:=List.getElem_mem hi';have hcz:=zD hm;have hce:=aM.sum t.aD[i];rw[dK] at hce;obtain⟨q1,q2,q3⟩:=sj (hso _ hm);have hst:=hTs i hi';refine W3 ?_;refine C1 (bW _) ?_;refine C1 (Dq t.aD[i].aW (by omega) (fun u hu=>by have:=zB hu;omega)) ?_;refine C1 (mR t.aD[i].bP (by omega)) ?_;refine qB [false] rfl (lZ _ (by simp) (by simp) _ _) ?_;refine W1 ?_;refine S0 (fun hb h=>?_) fun hb h=>?_
  ·rw[Bd h] at hst;simp only[List.map_cons,List.map_nil,fO,kI,aj.aA (cB t.aD[i].bP),aj.aA (fC t.aD[i].fBody)] at hst;refine C1 (eF t.aD[i].aG (by omega)) ?_;refine C1 (uW t.aD[i].fBody (q3 h) (by omega)) ?_;refine W3 ?_;rw[hst];exact bX 5 (by decide) (i+1) (by omega) rfl rfl rfl rfl (by omega)
  ·rw[Bf h] at hst;simp only[List.map_cons,List.map_nil,fO,kI,aj.aA (cB t.aD[i].bP)] at hst;refine W3 ?_;rw[hst];exact bX 5 (by decide) (i+1) (by omega) rfl rfl rfl rfl (by omega)
 ·have hi':i=t.aD.length:=by omega
  subst hi';rw[hTe];refine C1 (tQ true (rV t) (by omega)) ?_;rfl
theorem agI(t:bA)(hsz:t.sz<=1048576):aH prog 207 [t.v] (Qt t).v:=by
 unfold Qt
 cases hv:dQ t with
 |false=>
  rw[wY];refine aH.less (fun S=> ?_) (Gy [] []);refine zcx [.cell 2 54] func207 ntmps207 ?_;refine W1 ?_;refine aX (rM t (by omega)) ?_;simp -implicitDefEqProofs (disch:=omega) only[go_sem,hv]
 |true=>
  rw[wY];have hb:=(jI hv).2
  cases ha:t.nH with
  |true=>
   cases hs:t.bD with
   |true=>exact absurd ⟨ha,hs⟩ hb
   |false=>exact aj0 t hv hsz ha hs
  |false=>
   cases hs:t.bD with
   |true=>exact aj1 t hv hsz ha hs
   |false=>exact aj2 t hv hsz ha hs
def RU:aM:=⟨[],[],jh,false,[],mF⟩
def yG(b:Bool)(l:List aj):Bool:=match b with
 |true=>decide (l.length=5)
 |false=>decide (3<l.length)
def jM(b:Bool)(y:aj):aM:=if b=true/\y.ah.length<3 then RU else
 ⟨dJ y.ah 0,(gX y.ah 1).ah.map (dN b),dN b (gX y.ah 2),yG b y.ah,if yG b y.ah=true then o9 y.ah 3 else [],if yG b y.ah=true then eY b (gX y.ah 4) else mF⟩
def sP(b:Bool)(x:aj):bA:=
 ⟨dJ x.ah 1,o9 x.ah 2,decide (uE∈o9 x.ah 3),decide (iZ∈o9 x.ah 3),(x.ah.drop 4).map (jM b)⟩
theorem agJ{g:aM}(h:iP g=true):(g.gW=true->∀v∈g.aG,v≠[])/\(g.gW=false->g.aG=[]/\g.fBody=mF):=by
 unfold iP at h;simp only[Bool.and_eq_true] at h;obtain⟨_,_,_,_,h3⟩:=h;refine⟨fun hd=> ?_,fun hd=> ?_⟩
 ·rw[if_pos hd,Bool.and_eq_true] at h3;have:=h3.2;unfold nS at this;rw[Bool.and_eq_true] at this;exact AV this.1
 ·rw[if_neg (by rw[hd];decide),Bool.and_eq_true] at h3;exact⟨List.eq_nil_of_length_eq_zero (gH h3.1),gH h3.2⟩
theorem agK(b:Bool){g:aM}(h:iP g=true):jM b (oQ g)=g:=by
 obtain⟨h1,h2,h3⟩:=sj h;obtain⟨h4,h5⟩:=agJ h;unfold jM
 cases hd:g.gW with
 |true=>
  rw[Bd hd,if_neg (by simp)]
  have e:yG b [bJ g.fName,bB (g.aW.map cB),cB g.bP,bB (aN g.aG),fC g.fBody]=true:=by cases b<;>rfl
  rw[e,if_pos rfl,if_pos rfl];show aM.mk g.fName ((g.aW.map cB).map (dN b)) (dN b (cB g.bP)) true (fq (aN g.aG)) (eY b (fC g.fBody))=g;rw[FP b h1,xR b _ h2,qN (h4 hd),GI b _ (h3 hd),<-hd]
 |false=>
  rw[Bf hd,if_neg (by simp)]
  have e:yG b [bJ g.fName,bB (g.aW.map cB),cB g.bP]=false:=by cases b<;>rfl
  rw[e,if_neg (by decide),if_neg (by decide)];show aM.mk g.fName ((g.aW.map cB).map (dN b)) (dN b (cB g.bP)) false [] mF=g;obtain⟨e1,e2⟩:=h5 hd;rw[FP b h1,xR b _ h2,<-e2]
  conv=>lhs;rw[<-e1,<-hd]
theorem RV{t:bA}(h:dQ t=true):∀v∈t.bI,v≠[]:=by
 unfold dQ at h;simp only[Bool.and_eq_true] at h;exact AV h.2.2.1
theorem agL(t:bA):∀v∈l6 t,v≠[]:=fun v hv=>by
 unfold l6 at hv;rw[List.mem_append] at hv;rcases hv with h|h
 ·split at h
  ·rw[List.mem_singleton.1 h];decide
  ·cases h
 ·split at h
  ·rw[List.mem_singleton.1 h];decide
  ·cases h
theorem Qu(t:bA):decide (uE∈l6 t)=t.nH/\decide (iZ∈l6 t)=t.bD:=by
 unfold l6;cases t.nH<;>cases t.bD<;>exact⟨by decide,by decide⟩
theorem NJ(b:Bool){t:bA}(h:dQ t=true):sP b (rV t)=t:=by
 have h1:=(jI h).1;show bA.mk t.fName (fq (aN t.bI)) (decide (uE∈fq (aN (l6 t)))) (decide (iZ∈fq (aN (l6 t)))) ((t.aD.map oQ).map (jM b))=t;rw[qN (RV h),qN (agL t),(Qu t).1,(Qu t).2,EG fun c hc=>agK b (h1 c hc)]
noncomputable def yt(x:aj):Bool:=dec (fQ x=true/\(4<=x.ah.length/\dJ x.ah 0=kr)/\dQ (sP true x)=true/\rV (sP true x)=x)
theorem agM{x:aj}(hx:x.ah≠[]):yt x=(fQ x&&dec (Qt (sP false x)=x)):=
 Yb hx (fun a h1 h2=>by rw[<-h2];exact⟨NJ true h1,NJ false h1⟩) fun a h=>by rw[<-h];exact⟨by rw[rV,dG];simp[jr],rfl⟩
theorem agN{x:aj}(h:yt x=true):sP false x=sP true x:=by
 have h1:=gH h
 conv=>lhs;rw[<-h1.2.2.2]
 exact NJ false h1.2.2.1
def KX:bA:=⟨[],[],false,false,[]⟩
noncomputable def vK(x:aj):bA:=if yt x=true then sP true x else KX
theorem aj3(b:Bool)(l:List aj):bf ((l.map (dN b)).map ak.enc)<=dx l:=by
 have:=IE b l;rw[zu] at this;rw[AP];exact this
theorem agO(b:Bool)(y:aj):(jM b y).sz<=y.sz:=by
 have h1:=Cu y.ah;have h2:=qP y;have h3:=qP (gX y.ah 0);have h4:=aj3 b (gX y.ah 1).ah;have h4':=qP (gX y.ah 1);have h5:=zw b (gX y.ah 2);have h6:=rY (gX y.ah 3).ah;have h6':=qP (gX y.ah 3);have h7:=DF b (gX y.ah 4);unfold jM;split
 ·simp only[RU,aM.sz,aM.aA,bT,bK,D.sz,ak.d9,au.d9,Cn,zx,List.map_nil,bf,List.length_nil];omega
 ·cases yG b y.ah with
  |true=>
   simp only[if_true,aM.sz,aM.aA,bT,bK,D.sz,ak.d9,au.d9,List.length_map,o9,dK,Fq];omega
  |false=>
   simp only[Bool.false_eq_true,if_false,aM.sz,aM.aA,bT,bK,D.sz,ak.d9,au.d9,List.length_map,zx,List.map_nil,bf,List.length_nil,Fq];omega
theorem Qv(b:Bool):∀l:List aj,bf ((l.map (jM b)).map aM.enc)<=dx l
 |[]=>by simp[bf]
 |y::l=>by
  have h1:=agO b y;have h2:=Qv b l;rw[List.map_cons,List.map_cons,bf,dx];simp only[aM.sz] at h1;omega
theorem NK(b:Bool)(x:aj):(sP b x).sz<=x.sz:=by
 have h1:=EF x.ah;have h2:=qP x;have h3:=qP (gX x.ah 1);have h4:=rY (gX x.ah 2).ah;have h4':=qP (gX x.ah 2);have h5:=Qv b (x.ah.drop 4);simp only[bA.sz,bA.aA,bT,bK,D.sz,sP,List.length_map,List.length_drop,o9,dK,Fq];omega
def gU(p:aI):List (List UInt8):=p.dV.map bA.fName
def jo(p:aI):List (List UInt8):=p.aV.map aS.fName
def iJ(ds:List aS):List (List UInt8):=ds.flatMap fun d=>d.aF.map aL.fName
def fnNames(p:aI):List (List UInt8):=p.cu.map aU.fName
def Ah(ps:List aI):List (List UInt8):=ps.flatMap gU
def Ai(ps:List aI):List (List UInt8):=ps.flatMap jo
def Aj(ps:List aI):List (List UInt8):=ps.flatMap fun p=>iJ p.aV
def Ak(ps:List aI):List (List UInt8):=ps.flatMap fnNames
noncomputable def oq(ps:List aI):Bool:=dec (Ah ps).Nodup&&(dec (Ai ps).Nodup&&(dec (Aj ps).Nodup&&dec (Ak ps).Nodup))
theorem zF{α β:Type}(f:α->List β){xs:List α}{i:Nat}(hi:i<xs.length):(xs.take (i+1)).flatMap f=(xs.take i).flatMap f++f xs[i]:=by
 rw[List.take_succ_eq_append_getElem hi,List.flatMap_append]
 simp
theorem wB{α β:Type}(f:α->List β)(g:α->List D)(h:∀x,(f x).length<=bT (g x)):∀xs:List α,(xs.flatMap f).length<=bf (xs.map g)
 |[]=>by simp[bf]
 |x::xs=>by
  have h1:=h x;have h2:=wB f g h xs;rw[List.flatMap_cons,List.length_append,List.map_cons,bf];omega
theorem akK(ds:List aS):(iJ ds).length<=bf (ds.map aS.enc):=wB _ _ (fun d=>by
 rw[List.length_map];simp only[aS.aA,bT,bK,D.sz,List.length_map]
 omega) ds
theorem Yi(ps:List aI):(Ah ps).length<=bf (ps.map aI.enc)/\(Ai ps).length<=bf (ps.map aI.enc)/\(Aj ps).length<=bf (ps.map aI.enc)/\(Ak ps).length<=bf (ps.map aI.enc):=by
 refine⟨wB _ _ (fun p=> ?_) ps,wB _ _ (fun p=> ?_) ps,wB _ _ (fun p=> ?_) ps,wB _ _ (fun p=> ?_) ps⟩
 ·simp only[gU,aI.aA,bT,bK,D.sz,List.length_map];omega
 ·simp only[jo,aI.aA,bT,bK,D.sz,List.length_map];omega
 ·have:=akK p.aV;simp only[aI.aA,bT,bK,D.sz,List.length_map];omega
 ·simp only[fnNames,aI.aA,bT,bK,D.sz,List.length_map];omega
theorem aI.bounds{x:aI}(h:x.sz<=4194304):x.fName.length<=4194304/\x.jv.length<=4194304/\x.dV.length<=4194304/\x.aV.length<=4194304/\x.dI.length<=4194304/\x.cu.length<=4194304/\(iJ x.aV).length<=4194304:=by
 have:=akK x.aV;simp only[aI.sz,aI.aA,bT,bK,D.sz,List.length_map] at h;omega
theorem Yj(x:aI):∀y:aI,x.sz<=1048576->aH prog 13 [x.v,y.v] (.c (.d (.b (dec (x=y))))):=by
 intro y hsz S;simp only[aI.sz,aI.aA,bT,bK,D.sz,List.length_map] at hsz;refine zcx [.tmp 4] func13 ntmps13 ?_;refine W1 ?_;refine S0 (fun hb h=>?_) fun hb h=>?_
 ·exact ay (aB (fun e=>h (by rw[e]))).symm
 have rQ:=h;clear h;refine C1 (qD x.jv _ (by omega)) ?_;refine S0 (fun hb h=>?_) fun hb h=>?_
 ·exact ay (aB (fun e=>h (by rw[e]))).symm
 have ap1:=h;clear h;refine C1 (ZC x.dV _ (by omega)) ?_;refine S0 (fun hb h=>?_) fun hb h=>?_
 ·exact ay (aB (fun e=>h (by rw[e]))).symm
 have amx:=h;clear h;refine C1 (Ry x.aV _ (by omega)) ?_;refine S0 (fun hb h=>?_) fun hb h=>?_
 ·exact ay (aB (fun e=>h (by rw[e]))).symm
 have adO:=h;clear h;refine C1 (RI x.dI _ (by omega)) ?_;refine S0 (fun hb h=>?_) fun hb h=>?_
 ·exact ay (aB (fun e=>h (by rw[e]))).symm
 have adP:=h;clear h;refine C1 (RJ x.cu _ (by omega)) ?_;refine S0 (fun hb h=>?_) fun hb h=>?_
 ·exact ay (aB (fun e=>h (by rw[e]))).symm
 have adQ:=h;clear h;exact ay (aZ (aI.ext' rQ ap1 amx adO adP adQ)).symm
theorem UL(xs:List aI):∀ys:List aI,xs.length+bf (xs.map aI.enc)<=1048576->aH prog 55 [.c (.d (.sl (xs.map aI.enc))),.c (.d (.sl (ys.map aI.enc)))] (.c (.d (.b (dec (xs=ys))))):=by
 intro ys hsz S;refine zcx [.tmp 4] func55 ntmps55 ?_;refine W1 ?_;refine S0 (fun hb h=>?_) fun hb h=>?_
 ·exact ay (aB (fun e=>h (by rw[e]))).symm
 have hl:xs.length=ys.length:=by omega
 refine aT (ι:=Nat) zmx rfl [0,1,5] (fun y=>[.c (.d (.sl (xs.map aI.enc))),.c (.d (.sl (ys.map aI.enc))),.c (.d (.i .i64 y))]) (fun y=>[]::S)
  (fun i=>i<=xs.length/\∀j,j<i->xs[j]? =ys[j]?) (fun y=>xs.length-y) 0 rfl rfl ⟨Nat.zero_le _,fun j h=>by omega⟩ ?_
 rintro i ⟨p1,p2⟩;refine W1 ?_;refine S0 (fun hb h=>?_) fun hb h=>?_
 ·have hi:i<xs.length:=by omega
  have hi':i<ys.length:=by omega
  have hx:xs[i].sz<=bf (xs.map aI.enc):=dA (List.mem_map_of_mem (List.getElem_mem hi));refine W3 ?_;refine C1 (Yj xs[i] ys[i] (by omega)) ?_;refine S0 (fun hb h=>?_) fun hb h=>?_
  ·exact ay (aB (fun e=>h (by simp only[e]))).symm
  refine bF (i+1) (by omega) rfl rfl ⟨by omega,fun j hj=> ?_⟩;by_cases e:j=i
  ·subst e;rw[List.getElem?_eq_getElem hi,List.getElem?_eq_getElem hi',h]
  ·exact p2 j (by omega)
 ·have hi:i=xs.length:=by omega
  refine ay (aZ (List.ext_getElem? fun j=> ?_)).symm;by_cases hj:j<i
  ·exact p2 j hj
  ·rw[List.getElem?_eq_none (by omega),List.getElem?_eq_none (by omega)]
theorem KY(x:dU):∀y:dU,x.sz<=1048576->aH prog 18 [x.v,y.v] (.c (.d (.b (dec (x=y))))):=by
 intro y hsz S;simp only[dU.sz,dU.aA,bT,bK,D.sz,List.length_map] at hsz;refine zcx [.tmp 4] func18 ntmps18 ?_;refine W1 ?_;refine C1 (UL x.iN _ (by omega)) ?_;refine S0 (fun hb h=>?_) fun hb h=>?_
 ·exact ay (aB (fun e=>h (by rw[e]))).symm
 have agP:=h;clear h;exact ay (aZ (dU.ext' agP)).symm
theorem dU.bounds{x:dU}(h:x.sz<=4194304):x.iN.length<=4194304:=by
 simp only[dU.sz,dU.aA,bT,bK,D.sz,List.length_map] at h;omega
theorem Fu(xs:List (List UInt8))(x:List UInt8):xs.map encS++[[D.s x]]=(xs++[x]).map encS:=by simp[encS]
theorem Z5(p:aI)(hsz:p.sz<=4194304):aH prog 147 [p.v] (.dL [(false,[.d (.sl ((gU p).map encS))]),(false,[.d (.sl ((jo p).map encS))]),(false,[.d (.sl ((iJ p.aV).map encS))]),(false,[.d (.sl ((fnNames p).map encS))])]):=fun S=>by
 have hb0:=aI.bounds hsz;refine zcx [.tmp 2,.tmp 3,.tmp 4,.tmp 5] func147 ntmps147 ?_;refine W1 ?_;refine W3 ?_;refine ni 6 1 [] rfl (by simp) ?_;refine ni 7 1 [] rfl (by simp) ?_;refine ni 8 1 [] rfl (by simp) ?_;refine ni 9 1 [] rfl (by simp) ?_
 refine aT (ι:=Nat×List (List UInt8)) zmx rfl [1,6,7,8,9,10] (fun y=>[.c (.ptr (0,0) 0),.c (.bN (0,1) (y.2.map encS)),.c (.bN (0,2) []),.c (.bN (0,3) []),.c (.bN (0,4) []),.c (.d (.i .i64 y.1))]) (fun y=>[.box (p.enc.map .d),.tok 1 (y.2.map encS),.tok 1 [],.tok 1 [],.tok 1 []]::S)
  (fun y=>y.1<=p.dV.length/\y.2=(gU p).take y.1) (fun y=>p.dV.length-y.1) (0,[]) rfl ?_ ⟨Nat.zero_le _,rfl⟩ ?_
 ·exact Z1
 rintro⟨i,a⟩ ⟨p1,p2⟩;simp only at p1 p2
 have pl:a.length<=p.dV.length:=by rw[p2];simp[gU];omega
 refine W1 ?_;refine S0 (fun hb h=>?_) fun hb h=>?_
 ·have hi:i<p.dV.length:=by omega
  refine W3 ?_;rw[Fu];exact bF (i+1,a++[p.dV[i].fName]) (by simp only;omega) rfl rfl ⟨by simp only;omega,by simp only;rw[p2,jc (by simpa [gU] using hi)];simp[gU]⟩
 have ha:a=gU p:=by rw[p2,List.take_of_length_le (by simp[gU];omega)]
 clear p1 p2 pl hb h;subst ha
 refine aT (ι:=Nat×List (List UInt8)×List (List UInt8)) zmx rfl [1,6,7,8,9,11] (fun y=>[.c (.ptr (0,0) 0),.c (.bN (0,1) ((gU p).map encS)),.c (.bN (0,2) (y.2.1.map encS)),.c (.bN (0,3) (y.2.2.map encS)),.c (.bN (0,4) []),.c (.d (.i .i64 y.1))]) (fun y=>[.box (p.enc.map .d),.tok 1 ((gU p).map encS),.tok 1 (y.2.1.map encS),.tok 1 (y.2.2.map encS),.tok 1 []]::S)
  (fun y=>y.1<=p.aV.length/\y.2.1=(jo p).take y.1/\y.2.2=iJ (p.aV.take y.1)) (fun y=>p.aV.length-y.1) (0,[],[]) rfl ?_ ⟨Nat.zero_le _,rfl,rfl⟩ ?_
 ·exact Z1
 rintro⟨i,b,c⟩ ⟨p1,p2,p3⟩;simp only at p1 p2 p3
 have pl:b.length<=p.aV.length:=by rw[p2];simp[jo];omega
 refine W1 ?_;refine S0 (fun hb h=>?_) fun hb h=>?_
 ·have hi:i<p.aV.length:=by omega
  have e3:iJ (p.aV.take (i+1))=c++p.aV[i].aF.map aL.fName:=by rw[p3];exact zF _ hi
  have hcl:(iJ (p.aV.take (i+1))).length<=4194304:=by
   have h1:(iJ (p.aV.take (i+1))).length<=(iJ p.aV).length:=by
    conv=>rhs;rw[<-List.take_append_drop (i+1) p.aV]
    unfold iJ;rw[List.flatMap_append,List.length_append];omega
   omega
  rw[e3,List.length_append,List.length_map] at hcl;refine W3 ?_;rw[Fu]
  refine aT (ι:=Nat×List (List UInt8)) zmx rfl [1,6,7,8,9,11,12] (fun y=>[.c (.ptr (0,0) 0),.c (.bN (0,1) ((gU p).map encS)),.c (.bN (0,2) ((b++[p.aV[i].fName]).map encS)),.c (.bN (0,3) (y.2.map encS)),.c (.bN (0,4) []),.c (.d (.i .i64 i)),.c (.d (.i .i64 y.1))]) (fun y=>[.box (p.enc.map .d),.tok 1 ((gU p).map encS),.tok 1 ((b++[p.aV[i].fName]).map encS),.tok 1 (y.2.map encS),.tok 1 []]::S)
   (fun y=>y.1<=p.aV[i].aF.length/\y.2=c++(p.aV[i].aF.map aL.fName).take y.1) (fun y=>p.aV[i].aF.length-y.1) (0,c) rfl ?_ ⟨Nat.zero_le _,by simp⟩ ?_
  ·exact Z1
  rintro⟨k,e⟩ ⟨q1,q2⟩;simp only at q1 q2
  have pl2:e.length<=4194304:=by rw[q2];simp;omega
  refine W1 ?_;refine W3 ?_;refine S0 (fun hb h=>?_) fun hb h=>?_
  ·have hk:k<p.aV[i].aF.length:=by omega
   refine W3 ?_;rw[Fu];exact bF (k+1,e++[p.aV[i].aF[k].fName]) (by simp only;omega) rfl rfl ⟨by simp only;omega,by simp only;rw[q2,jc (by simpa using hk)];simp⟩
  ·have hk:k=p.aV[i].aF.length:=by omega
   have he:e=c++p.aV[i].aF.map aL.fName:=by rw[q2,List.take_of_length_le (by simp;omega)]
   exact bF (i+1,b++[p.aV[i].fName],e) (by simp only;omega) rfl rfl ⟨by simp only;omega,by simp only;rw[p2,jc (by simpa [jo] using hi)];simp[jo],by simp only;rw[e3,he]⟩
 have hb1:b=jo p:=by rw[p2,List.take_of_length_le (by simp[jo];omega)]
 have hc1:c=iJ p.aV:=by rw[p3,List.take_of_length_le (by omega)]
 clear p1 p2 p3 pl hb h;subst hb1;subst hc1
 refine aT (ι:=Nat×List (List UInt8)) zmx rfl [1,6,7,8,9,13] (fun y=>[.c (.ptr (0,0) 0),.c (.bN (0,1) ((gU p).map encS)),.c (.bN (0,2) ((jo p).map encS)),.c (.bN (0,3) ((iJ p.aV).map encS)),.c (.bN (0,4) (y.2.map encS)),.c (.d (.i .i64 y.1))]) (fun y=>[.box (p.enc.map .d),.tok 1 ((gU p).map encS),.tok 1 ((jo p).map encS),.tok 1 ((iJ p.aV).map encS),.tok 1 (y.2.map encS)]::S)
  (fun y=>y.1<=p.cu.length/\y.2=(fnNames p).take y.1) (fun y=>p.cu.length-y.1) (0,[]) rfl ?_ ⟨Nat.zero_le _,rfl⟩ ?_
 ·exact Z1
 rintro⟨i,a⟩ ⟨p1,p2⟩;simp only at p1 p2
 have pl:a.length<=p.cu.length:=by rw[p2];simp[fnNames];omega
 refine W1 ?_;refine S0 (fun hb h=>?_) fun hb h=>?_
 ·have hi:i<p.cu.length:=by omega
  refine W3 ?_;rw[Fu];exact bF (i+1,a++[p.cu[i].fName]) (by simp only;omega) rfl rfl ⟨by simp only;omega,by simp only;rw[p2,jc (by simpa [fnNames] using hi)];simp[fnNames]⟩
 ·have ha:a=fnNames p:=by rw[p2,List.take_of_length_le (by simp[fnNames];omega)]
  rw[ha]
def CR(a b c d:List (List UInt8))(rest:List Ab.Obj)(S:Store):Store:=
 (.box [.bE [],.bE [],.bE [],.bE []]:: .box [.bN (0,2) (a.map encS),.bN (0,3) (b.map encS),.bN (0,4) (c.map encS),.bN (0,5) (d.map encS)]:: .tok 1 (a.map encS):: .tok 1 (b.map encS):: .tok 1 (c.map encS):: .tok 1 (d.map encS)::rest)::S
theorem Z6(ps:List aI)(hl:ps.length<=4194304)(hz:bf (ps.map aI.enc)<=4194304):aH prog 229 [.c (.d (.sl (ps.map aI.enc)))] (.agg [.d (.sl ((Ah ps).map encS)),.d (.sl ((Ai ps).map encS)),.d (.sl ((Aj ps).map encS)),.d (.sl ((Ak ps).map encS))]):=fun S=>by
 have hn:=Yi ps;refine zcx [.cell 2 218] func229 ntmps229 ?_;refine W1 ?_;refine W3 ?_;refine sZ 1 0 1 [] [.bE [],.bE [],.bE [],.bE []] rfl rfl (by simp) ?_;refine sZ 1 1 1 [] [.bN (0,2) [],.bE [],.bE [],.bE []] rfl rfl (by simp) ?_;refine sZ 1 2 1 [] [.bN (0,2) [],.bN (0,3) [],.bE [],.bE []] rfl rfl (by simp) ?_;refine sZ 1 3 1 [] [.bN (0,2) [],.bN (0,3) [],.bN (0,4) [],.bE []] rfl rfl (by simp) ?_
 refine aT (ι:=Nat×List (List UInt8)×List (List UInt8)×List (List UInt8)×List (List UInt8)) zmx rfl [2,3,15,16,17] (fun y=>[.c (.ptr (0,0) 0),.c (.ptr (0,1) 0),.c (.d (.sl (ps.map aI.enc))),.c (.d (.i .i64 ps.length)),.c (.d (.i .i64 y.1))])
  (fun y=>[.box [.bE [],.bE [],.bE [],.bE []],.box [.bN (0,2) (y.2.1.map encS),.bN (0,3) (y.2.2.1.map encS),.bN (0,4) (y.2.2.2.1.map encS),.bN (0,5) (y.2.2.2.2.map encS)],.tok 1 (y.2.1.map encS),.tok 1 (y.2.2.1.map encS),.tok 1 (y.2.2.2.1.map encS),.tok 1 (y.2.2.2.2.map encS)]::S)
  (fun y=>y.1<=ps.length/\y.2.1=Ah (ps.take y.1)/\y.2.2.1=Ai (ps.take y.1)/\y.2.2.2.1=Aj (ps.take y.1)/\y.2.2.2.2=Ak (ps.take y.1)) (fun y=>ps.length-y.1) (0,[],[],[],[]) rfl rfl ⟨Nat.zero_le _,rfl,rfl,rfl,rfl⟩ ?_
 rintro⟨i,a,b,c,d⟩ ⟨p1,p2,p3,p4,p5⟩;simp only at p1 p2 p3 p4 p5;refine W1 ?_;refine S0 (fun hb h=>?_) fun hb h=>?_
 ·have hi:i<ps.length:=by omega
  have hp:ps[i].sz<=4194304:=by
   have hx:ps[i].sz<=bf (ps.map aI.enc):=dA (List.mem_map_of_mem (List.getElem_mem hi));omega
  refine W3 ?_
  have sub:∀(f:aI->List (List UInt8)),((ps.take (i+1)).flatMap f).length<=(ps.flatMap f).length:=fun f=>by
   conv=>rhs;rw[<-List.take_append_drop (i+1) ps]
   rw[List.flatMap_append,List.length_append];omega
  have e2:Ah (ps.take (i+1))=a++gU ps[i]:=by rw[p2];exact zF _ hi
  have e3:Ai (ps.take (i+1))=b++jo ps[i]:=by rw[p3];exact zF _ hi
  have e4:Aj (ps.take (i+1))=c++iJ ps[i].aV:=by rw[p4];exact zF _ hi
  have e5:Ak (ps.take (i+1))=d++fnNames ps[i]:=by rw[p5];exact zF _ hi
  have l2:(a++gU ps[i]).length<=4194304:=by rw[<-e2];have:=sub gU;unfold Ah at *;omega
  have l3:(b++jo ps[i]).length<=4194304:=by rw[<-e3];have:=sub jo;unfold Ai at *;omega
  have l4:(c++iJ ps[i].aV).length<=4194304:=by rw[<-e4];have:=sub (fun p=>iJ p.aV);unfold Aj at *;omega
  have l5:(d++fnNames ps[i]).length<=4194304:=by rw[<-e5];have:=sub fnNames;unfold Ak at *;omega
  have hbp:=aI.bounds hp;rw[List.length_append] at l2 l3 l4 l5
  refine aT (ι:=Nat×List (List UInt8)) zmx rfl [2,3,5,15,16,17,22,23,24] (fun y=>[.c (.ptr (0,0) 0),.c (.ptr (0,1) 0),.c (.ptr (0,6) 0),.c (.d (.sl (ps.map aI.enc))),.c (.d (.i .i64 ps.length)),.c (.d (.i .i64 i)),.c (.d (.sl (ps[i].dV.map bA.enc))),.c (.d (.i .i64 ps[i].dV.length)),.c (.d (.i .i64 y.1))]) (fun y=>CR y.2 b c d [.box (ps[i].enc.map .d)] S)
   (fun y=>y.1<=ps[i].dV.length/\y.2=a++(gU ps[i]).take y.1) (fun y=>ps[i].dV.length-y.1) (0,a) rfl ?_ ⟨Nat.zero_le _,by simp⟩ ?_
  ·unfold CR;exact Z1
  rintro⟨k,a'⟩ ⟨q1,q2⟩;simp only at q1 q2
  have ql:a'.length<=4194304:=by rw[q2];simp[gU] at *;omega
  unfold CR;refine W1 ?_;refine S0 (fun hb h=>?_) fun hb h=>?_
  ·have hk:k<ps[i].dV.length:=by omega
   have ql':a'.length+1<=4194304:=by rw[q2];simp[gU] at *;omega
   refine W3 ?_;rw[Fu];exact bX 7 (by decide) (k+1,a'++[ps[i].dV[k].fName]) (by simp only;omega) rfl rfl rfl rfl ⟨by simp only;omega,by simp only;rw[q2,jc (by simpa [gU] using hk)];simp[gU]⟩
  have ha:a'=a++gU ps[i]:=by rw[q2,List.take_of_length_le (by simp[gU];omega)]
  clear q1 q2 ql hb h;subst ha
  refine aT (ι:=Nat×List (List UInt8)×List (List UInt8)) zmx rfl [2,3,5,15,16,17,37,38,39] (fun y=>[.c (.ptr (0,0) 0),.c (.ptr (0,1) 0),.c (.ptr (0,6) 0),.c (.d (.sl (ps.map aI.enc))),.c (.d (.i .i64 ps.length)),.c (.d (.i .i64 i)),.c (.d (.sl (ps[i].aV.map aS.enc))),.c (.d (.i .i64 ps[i].aV.length)),.c (.d (.i .i64 y.1))]) (fun y=>CR (a++gU ps[i]) y.2.1 y.2.2 d [.box (ps[i].enc.map .d)] S)
   (fun y=>y.1<=ps[i].aV.length/\y.2.1=b++(jo ps[i]).take y.1/\y.2.2=c++iJ (ps[i].aV.take y.1)) (fun y=>ps[i].aV.length-y.1) (0,b,c) rfl ?_ ⟨Nat.zero_le _,by simp,by simp[iJ]⟩ ?_
  ·unfold CR;exact Z1
  rintro⟨k',b',c'⟩ ⟨q1,q2,q3⟩;simp only at q1 q2 q3;unfold CR;refine W1 ?_;refine S0 (fun hb h=>?_) fun hb h=>?_
  ·have hk:k'<ps[i].aV.length:=by omega
   have e6:iJ (ps[i].aV.take (k'+1))=iJ (ps[i].aV.take k')++ps[i].aV[k'].aF.map aL.fName:=zF _ hk
   have hcl:(iJ (ps[i].aV.take (k'+1))).length<=(iJ ps[i].aV).length:=by
    conv=>rhs;rw[<-List.take_append_drop (k'+1) ps[i].aV]
    unfold iJ;rw[List.flatMap_append,List.length_append];omega
   have ql':b'.length+1<=4194304:=by rw[q2];simp[jo] at *;omega
   have qc:c'.length+ps[i].aV[k'].aF.length<=4194304:=by
    rw[e6,List.length_append,List.length_map] at hcl;rw[q3,List.length_append];omega
   refine W3 ?_;rw[Fu]
   refine aT (ι:=Nat×List (List UInt8)) zmx rfl [2,3,5,15,16,17,37,38,39,51,52,53] (fun y=>[.c (.ptr (0,0) 0),.c (.ptr (0,1) 0),.c (.ptr (0,6) 0),.c (.d (.sl (ps.map aI.enc))),.c (.d (.i .i64 ps.length)),.c (.d (.i .i64 i)),.c (.d (.sl (ps[i].aV.map aS.enc))),.c (.d (.i .i64 ps[i].aV.length)),.c (.d (.i .i64 k')),.c (.d (.sl (ps[i].aV[k'].aF.map aL.enc))),.c (.d (.i .i64 ps[i].aV[k'].aF.length)),.c (.d (.i .i64 y.1))]) (fun y=>CR (a++gU ps[i]) (b'++[ps[i].aV[k'].fName]) y.2 d [.box (ps[i].enc.map .d),.box (ps[i].aV[k'].enc.map .d)] S)
    (fun y=>y.1<=ps[i].aV[k'].aF.length/\y.2=c'++(ps[i].aV[k'].aF.map aL.fName).take y.1) (fun y=>ps[i].aV[k'].aF.length-y.1) (0,c') rfl ?_ ⟨Nat.zero_le _,by simp⟩ ?_
   ·unfold CR;exact Z1
   rintro⟨m,c''⟩ ⟨r1,r2⟩;simp only at r1 r2
   have rl:c''.length<=4194304:=by rw[r2];simp;omega
   unfold CR;refine W1 ?_;refine S0 (fun hb h=>?_) fun hb h=>?_
   ·have hm:m<ps[i].aV[k'].aF.length:=by omega
    have rl':c''.length+1<=4194304:=by rw[r2];simp;omega
    refine W3 ?_;rw[Fu];exact bX 8 (by decide) (m+1,c''++[ps[i].aV[k'].aF[m].fName]) (by simp only;omega) rfl rfl rfl rfl ⟨by simp only;omega,by simp only;rw[r2,jc (by simpa using hm)];simp⟩
   ·have hm:m=ps[i].aV[k'].aF.length:=by omega
    have hc:c''=c'++ps[i].aV[k'].aF.map aL.fName:=by rw[r2,List.take_of_length_le (by simp;omega)]
    exact bX 7 (by decide) (k'+1,b'++[ps[i].aV[k'].fName],c'') (by simp only;omega) rfl rfl rfl rfl ⟨by simp only;omega,by simp only;rw[q2,jc (by simpa [jo] using hk)];simp[jo],by simp only;rw[hc,e6,q3,List.append_assoc]⟩
  have hb':b'=b++jo ps[i]:=by rw[q2,List.take_of_length_le (by simp[jo];omega)]
  have hc':c'=c++iJ ps[i].aV:=by rw[q3,List.take_of_length_le (by omega)]
  clear q1 q2 q3 hb h;subst hb';subst hc'
  refine aT (ι:=Nat×List (List UInt8)) zmx rfl [2,3,5,15,16,17,67,68,69] (fun y=>[.c (.ptr (0,0) 0),.c (.ptr (0,1) 0),.c (.ptr (0,6) 0),.c (.d (.sl (ps.map aI.enc))),.c (.d (.i .i64 ps.length)),.c (.d (.i .i64 i)),.c (.d (.sl (ps[i].cu.map aU.enc))),.c (.d (.i .i64 ps[i].cu.length)),.c (.d (.i .i64 y.1))]) (fun y=>CR (a++gU ps[i]) (b++jo ps[i]) (c++iJ ps[i].aV) y.2 [.box (ps[i].enc.map .d)] S)
   (fun y=>y.1<=ps[i].cu.length/\y.2=d++(fnNames ps[i]).take y.1) (fun y=>ps[i].cu.length-y.1) (0,d) rfl ?_ ⟨Nat.zero_le _,by simp⟩ ?_
  ·unfold CR;exact Z1
  rintro⟨k4,d'⟩ ⟨q1,q2⟩;simp only at q1 q2
  have ql:d'.length<=4194304:=by rw[q2];simp[fnNames] at *;omega
  unfold CR;refine W1 ?_;refine S0 (fun hb h=>?_) fun hb h=>?_
  ·have hk:k4<ps[i].cu.length:=by omega
   have ql':d'.length+1<=4194304:=by rw[q2];simp[fnNames] at *;omega
   refine W3 ?_;rw[Fu];exact bX 7 (by decide) (k4+1,d'++[ps[i].cu[k4].fName]) (by simp only;omega) rfl rfl rfl rfl ⟨by simp only;omega,by simp only;rw[q2,jc (by simpa [fnNames] using hk)];simp[fnNames]⟩
  ·have hd:d'=d++fnNames ps[i]:=by rw[q2,List.take_of_length_le (by simp[fnNames];omega)]
   exact bX 6 (by decide) (i+1,a++gU ps[i],b++jo ps[i],c++iJ ps[i].aV,d') (by simp only;omega) rfl rfl rfl rfl ⟨by simp only;omega,e2.symm,e3.symm,e4.symm,by simp only;rw[hd,e5]⟩
 ·have hi:i=ps.length:=by omega
  rw[List.take_of_length_le (by omega)] at p2 p3 p4 p5;rw[p2,p3,p4,p5]
theorem Yk(ps:List aI)(hl:ps.length<=4194304)(hz:bf (ps.map aI.enc)<=4194304):aH prog 160 [.c (.d (.sl (ps.map aI.enc)))] (.c (.d (.b (oq ps)))):=fun S=>by
 have hn:=Yi ps;refine zcx [.tmp 2] func160 ntmps160 ?_;refine W1 ?_;refine C2 (Z6 ps hl hz) ?_
 refine aT (ι:=Int) zmx rfl [6,7] (fun i=>[.agg [.d (.sl ((Ah ps).map encS)),.d (.sl ((Ai ps).map encS)),.d (.sl ((Aj ps).map encS)),.d (.sl ((Ak ps).map encS))],.c (.d (.i .i64 i))]) (fun _=>[]::S)
  (fun i=>(0<=i/\i<=4)/\(1<=i->(Ah ps).Nodup)/\(2<=i->(Ai ps).Nodup)/\(3<=i->(Aj ps).Nodup)/\(4<=i->(Ak ps).Nodup)) (fun i=>(4-i).toNat) 0 rfl rfl ⟨⟨by omega,by omega⟩,by omega,by omega,by omega,by omega⟩ ?_
 rintro i ⟨p0,p1,p2,p3,p4⟩
 have hi:i=0\/i=1\/i=2\/i=3\/i=4:=by omega
 rcases hi with rfl|rfl|rfl|rfl|rfl
 ·refine W1 ?_;refine W3 ?_;refine C2 (qV (Ah ps) (by omega)) ?_;refine S0 (fun hb h=>?_) fun hb h=>?_
  ·exact ay (by unfold oq;rw[aB h];rfl)
  ·exact bF 1 (by decide) rfl rfl ⟨⟨by omega,by omega⟩,fun _=>h,by omega,by omega,by omega⟩
 ·refine W1 ?_;refine W3 ?_;refine C2 (qV (Ai ps) (by omega)) ?_;refine S0 (fun hb h=>?_) fun hb h=>?_
  ·exact ay (by unfold oq;rw[aB h];simp)
  ·exact bF 2 (by decide) rfl rfl ⟨⟨by omega,by omega⟩,fun _=>p1 (by omega),fun _=>h,by omega,by omega⟩
 ·refine W1 ?_;refine W3 ?_;refine C2 (qV (Aj ps) (by omega)) ?_;refine S0 (fun hb h=>?_) fun hb h=>?_
  ·exact ay (by unfold oq;rw[aB h];simp)
  ·exact bF 3 (by decide) rfl rfl ⟨⟨by omega,by omega⟩,fun _=>p1 (by omega),fun _=>p2 (by omega),fun _=>h,by omega⟩
 ·refine W1 ?_;refine W3 ?_;refine C2 (qV (Ak ps) (by omega)) ?_;refine S0 (fun hb h=>?_) fun hb h=>?_
  ·exact ay (by unfold oq;rw[aB h];simp)
  ·exact bF 4 (by decide) rfl rfl ⟨⟨by omega,by omega⟩,fun _=>p1 (by omega),fun _=>p2 (by omega),fun _=>p3 (by omega),fun _=>h⟩
 ·refine W1 ?_;exact ay (by unfold oq;rw[aZ (p1 (by omega)),aZ (p2 (by omega)),aZ (p3 (by omega)),aZ (p4 (by omega))];rfl)
noncomputable def xK(p:aI):Bool:=p.dV.all dQ&&(p.aV.all fT&&(p.dI.all fH&&p.cu.all kC))
noncomputable def wC(p:aI):Bool:=validName p.fName&&(dec (p.jv.length<=5)&&(iU p.jv&&(!dec (p.fName∈p.jv)&&dec (p.dV.length+p.aV.length+p.dI.length+p.cu.length<=24))))
noncomputable def validPkg(p:aI):Bool:=wC p&&(oq [p]&&xK p)
theorem aI.sum(x:aI):x.fName.length+(x.jv.length+bf (x.jv.map encS))+(x.dV.length+bf (x.dV.map bA.enc))+(x.aV.length+bf (x.aV.map aS.enc))+(x.dI.length+bf (x.dI.map aP.enc))+(x.cu.length+bf (x.cu.map aU.enc))<=x.sz:=by
 simp only[aI.sz,aI.aA,bT,bK,D.sz,List.length_map];omega
theorem xL{α:Type}{f:α->Bool}{xs:List α}{i:Nat}(hi:i<xs.length):(xs.drop i).all f=(f xs[i]&&(xs.drop (i+1)).all f):=by
 rw[List.drop_eq_getElem_cons hi,List.all_cons]
theorem RX(xs:List (List UInt8))(s:List UInt8)(hl:xs.length<=1073741824):aH prog 159 [.c (.d (.sl (xs.map encS))),.c (.d (.s s))] (.c (.d (.i .i64 (yB xs s)))):=fun S=>by
 refine zcx [.tmp 4] func159 ntmps159 ?_;refine W1 ?_;exact C4 (SV xs s hl)
theorem Qw(p:aI)(hsz:p.sz<=4194304):aH prog 83 [p.v] (.c (.d (.b (validPkg p)))):=fun S=>by
 have hs:=aI.sum p
 have hV:∀s∈p.jv,s.length<=4194304:=fun s h=>by have:=tF h;omega
 have no:wC p=false->V.c (.d (.b false))=V.c (.d (.b (validPkg p))):=fun h=>ay (by unfold validPkg;rw[h];rfl);have hu:=Yk [p] (by simp) (by simp[bf];have:bT p.enc=p.sz:=rfl;omega);have hix:decide (yB p.jv p.fName>=0)=dec (p.fName∈p.jv):=OO;refine zcx [.tmp 2] func83 ntmps83 ?_;refine W1 ?_;refine C2 (iL p.fName (by omega)) ?_;refine S0 (fun hb h=>?_) fun hb h=>?_
 ·exact no (by unfold wC;rw[h];rfl)
 have k1:=h;refine S0 (fun hb h=>?_) fun hb h=>?_
 ·exact no (by unfold wC;rw[aB (show ¬p.jv.length<=5 by omega)];simp)
 have k2:=h;refine W3 ?_;refine C2 (qw p.jv (by omega) hV) ?_;refine S0 (fun hb h=>?_) fun hb h=>?_
 ·exact no (by unfold wC;rw[h];simp)
 have k3:=h;refine W3 ?_;refine C1 (RX p.jv p.fName (by omega)) ?_;rw[show decide (0<=yB p.jv p.fName)=dec (p.fName∈p.jv) from hix];refine S0 (fun hb h=>?_) fun hb h=>?_
 ·exact no (by unfold wC;rw[aZ h];simp)
 have k4:=h;refine S0 (fun hb h=>?_) fun hb h=>?_
 ·exact no (by unfold wC;rw[aB (show ¬p.dV.length+p.aV.length+p.dI.length+p.cu.length<=24 by omega)];simp)
 have hh:wC p=true:=by unfold wC;rw[k1,k3,aZ (show p.jv.length<=5 by omega),aB k4,aZ (by omega)];rfl
 simp only[List.map_cons,List.map_nil] at hu;refine W3 ?_;refine aX hu ?_;refine W1 ?_;clear hu hix no k1 k2 k3 k4
 have fin:validPkg p=((((oq [p]&&p.dV.all dQ)&&p.aV.all fT)&&p.dI.all fH)&&p.cu.all kC):=by unfold validPkg xK;rw[hh];simp[Bool.and_assoc]
 generalize oq [p]=b0 at fin ⊢
 refine aT (ι:=Nat×Bool) zmx rfl [1,3,56,57,58] (fun y=>[.c (.ptr (0,0) 0),.c (.d (.b y.2)),.c (.d (.sl (p.dV.map bA.enc))),.c (.d (.i .i64 p.dV.length)),.c (.d (.i .i64 y.1))]) (fun _=>[.box (p.enc.map .d)]::S)
  (fun y=>y.1<=p.dV.length/\(y.2&&(p.dV.drop y.1).all dQ)=(b0&&p.dV.all dQ)) (fun y=>p.dV.length-y.1) (0,b0) rfl ?_ ⟨Nat.zero_le _,rfl⟩ ?_
 ·exact Z1
 rintro⟨i,b⟩ ⟨p1,p2⟩;simp only at p1 p2;refine W1 ?_;refine S0 (fun hb h=>?_) fun hb h=>?_
 ·have hi:i<p.dV.length:=by omega
  have hx:p.dV[i].sz<=bf (p.dV.map bA.enc):=dA (List.mem_map_of_mem (List.getElem_mem hi));rw[xL hi] at p2;refine W3 ?_;refine S0 (fun hb h=>?_) fun hb h=>?_
  ·have hb1:=h;rw[hb1,Bool.true_and] at p2;refine C2 (Db p.dV[i] (by omega)) ?_;exact bX 1 (by decide) (i+1,dQ p.dV[i]) (by simp only;omega) rfl rfl rfl rfl ⟨by simp only;omega,p2⟩
  ·have hb1:=h;rw[hb1,Bool.false_and] at p2;exact bX 1 (by decide) (i+1,false) (by simp only;omega) rfl rfl rfl rfl ⟨by simp only;omega,p2⟩
 rw[List.drop_of_length_le (by omega),List.all_nil,Bool.and_true] at p2;rw[<-p2] at fin;clear p2 p1 hb h;generalize b=b1 at fin ⊢
 refine aT (ι:=Nat×Bool) zmx rfl [1,3,69,70,71] (fun y=>[.c (.ptr (0,0) 0),.c (.d (.b y.2)),.c (.d (.sl (p.aV.map aS.enc))),.c (.d (.i .i64 p.aV.length)),.c (.d (.i .i64 y.1))]) (fun _=>[.box (p.enc.map .d)]::S)
  (fun y=>y.1<=p.aV.length/\(y.2&&(p.aV.drop y.1).all fT)=(b1&&p.aV.all fT)) (fun y=>p.aV.length-y.1) (0,b1) rfl ?_ ⟨Nat.zero_le _,rfl⟩ ?_
 ·exact Z1
 rintro⟨i,b⟩ ⟨p1,p2⟩;simp only at p1 p2;refine W1 ?_;refine S0 (fun hb h=>?_) fun hb h=>?_
 ·have hi:i<p.aV.length:=by omega
  have hx:p.aV[i].sz<=bf (p.aV.map aS.enc):=dA (List.mem_map_of_mem (List.getElem_mem hi));rw[xL hi] at p2;refine W3 ?_;refine S0 (fun hb h=>?_) fun hb h=>?_
  ·have hb1:=h;rw[hb1,Bool.true_and] at p2;refine C2 (Et p.aV[i] (by omega)) ?_;exact bX 1 (by decide) (i+1,fT p.aV[i]) (by simp only;omega) rfl rfl rfl rfl ⟨by simp only;omega,p2⟩
  ·have hb1:=h;rw[hb1,Bool.false_and] at p2;exact bX 1 (by decide) (i+1,false) (by simp only;omega) rfl rfl rfl rfl ⟨by simp only;omega,p2⟩
 rw[List.drop_of_length_le (by omega),List.all_nil,Bool.and_true] at p2;rw[<-p2] at fin;clear p2 p1 hb h;generalize b=b2 at fin ⊢
 refine aT (ι:=Nat×Bool) zmx rfl [1,3,82,83,84] (fun y=>[.c (.ptr (0,0) 0),.c (.d (.b y.2)),.c (.d (.sl (p.dI.map aP.enc))),.c (.d (.i .i64 p.dI.length)),.c (.d (.i .i64 y.1))]) (fun _=>[.box (p.enc.map .d)]::S)
  (fun y=>y.1<=p.dI.length/\(y.2&&(p.dI.drop y.1).all fH)=(b2&&p.dI.all fH)) (fun y=>p.dI.length-y.1) (0,b2) rfl ?_ ⟨Nat.zero_le _,rfl⟩ ?_
 ·exact Z1
 rintro⟨i,b⟩ ⟨p1,p2⟩;simp only at p1 p2;refine W1 ?_;refine S0 (fun hb h=>?_) fun hb h=>?_
 ·have hi:i<p.dI.length:=by omega
  have hx:p.dI[i].sz<=bf (p.dI.map aP.enc):=dA (List.mem_map_of_mem (List.getElem_mem hi));rw[xL hi] at p2;refine W3 ?_;refine S0 (fun hb h=>?_) fun hb h=>?_
  ·have hb1:=h;rw[hb1,Bool.true_and] at p2;refine C2 (EH p.dI[i] (by omega)) ?_;exact bX 1 (by decide) (i+1,fH p.dI[i]) (by simp only;omega) rfl rfl rfl rfl ⟨by simp only;omega,p2⟩
  ·have hb1:=h;rw[hb1,Bool.false_and] at p2;exact bX 1 (by decide) (i+1,false) (by simp only;omega) rfl rfl rfl rfl ⟨by simp only;omega,p2⟩
 rw[List.drop_of_length_le (by omega),List.all_nil,Bool.and_true] at p2;rw[<-p2] at fin;clear p2 p1 hb h;generalize b=b3 at fin ⊢
 refine aT (ι:=Nat×Bool) zmx rfl [3,95,96,97] (fun y=>[.c (.d (.b y.2)),.c (.d (.sl (p.cu.map aU.enc))),.c (.d (.i .i64 p.cu.length)),.c (.d (.i .i64 y.1))]) (fun _=>[.box (p.enc.map .d)]::S)
  (fun y=>y.1<=p.cu.length/\(y.2&&(p.cu.drop y.1).all kC)=(b3&&p.cu.all kC)) (fun y=>p.cu.length-y.1) (0,b3) rfl ?_ ⟨Nat.zero_le _,rfl⟩ ?_
 ·exact Z1
 rintro⟨i,b⟩ ⟨p1,p2⟩;simp only at p1 p2;refine W1 ?_;refine S0 (fun hb h=>?_) fun hb h=>?_
 ·have hi:i<p.cu.length:=by omega
  have hx:p.cu[i].sz<=bf (p.cu.map aU.enc):=dA (List.mem_map_of_mem (List.getElem_mem hi));rw[xL hi] at p2;refine W3 ?_;refine S0 (fun hb h=>?_) fun hb h=>?_
  ·have hb1:=h;rw[hb1,Bool.true_and] at p2;refine C2 (GN p.cu[i] (by omega)) ?_;exact bX 1 (by decide) (i+1,kC p.cu[i]) (by simp only;omega) rfl rfl rfl rfl ⟨by simp only;omega,p2⟩
  ·have hb1:=h;rw[hb1,Bool.false_and] at p2;exact bX 1 (by decide) (i+1,false) (by simp only;omega) rfl rfl rfl rfl ⟨by simp only;omega,p2⟩
 rw[List.drop_of_length_le (by omega),List.all_nil,Bool.and_true] at p2;rw[<-p2] at fin;clear p2 p1 hb h;exact ay fin.symm
theorem Z7(p:aI)(hsz:p.sz<=4194304):aH prog 152 [p.v] (.c (.d (.b (xK p)))):=fun S=>by
 have hs:=aI.sum p;refine zcx [.tmp 2] func152 ntmps152 ?_;refine W1 ?_
 refine aT (ι:=Nat) zmx rfl [1,3] (fun i=>[.c (.ptr (0,0) 0),.c (.d (.i .i64 i))]) (fun _=>[.box (p.enc.map .d)]::S)
  (fun i=>i<=p.dV.length/\(p.dV.drop i).all dQ=p.dV.all dQ) (fun i=>p.dV.length-i) 0 rfl ?_ ⟨Nat.zero_le _,rfl⟩ ?_
 ·exact Z1
 rintro i ⟨p1,p2⟩;refine W1 ?_;refine S0 (fun hb h=>?_) fun hb h=>?_
 ·have hi:i<p.dV.length:=by omega
  have hx:p.dV[i].sz<=bf (p.dV.map bA.enc):=dA (List.mem_map_of_mem (List.getElem_mem hi));rw[xL hi] at p2;refine W3 ?_;refine C2 (rM p.dV[i] (by omega)) ?_;refine S0 (fun hb h=>?_) fun hb h=>?_
  ·exact ay (by unfold xK;rw[<-p2,h];simp)
  ·rw[h,Bool.true_and] at p2;exact bF (i+1) (by omega) rfl rfl ⟨by omega,p2⟩
 rw[List.drop_of_length_le (by omega),List.all_nil] at p2;have f3:=p2.symm;clear p2 p1 hb h
 refine aT (ι:=Nat) zmx rfl [1,4] (fun i=>[.c (.ptr (0,0) 0),.c (.d (.i .i64 i))]) (fun _=>[.box (p.enc.map .d)]::S)
  (fun i=>i<=p.aV.length/\(p.aV.drop i).all fT=p.aV.all fT) (fun i=>p.aV.length-i) 0 rfl ?_ ⟨Nat.zero_le _,rfl⟩ ?_
 ·exact Z1
 rintro i ⟨p1,p2⟩;refine W1 ?_;refine S0 (fun hb h=>?_) fun hb h=>?_
 ·have hi:i<p.aV.length:=by omega
  have hx:p.aV[i].sz<=bf (p.aV.map aS.enc):=dA (List.mem_map_of_mem (List.getElem_mem hi));rw[xL hi] at p2;refine W3 ?_;refine C2 (Es p.aV[i] (by omega)) ?_;refine S0 (fun hb h=>?_) fun hb h=>?_
  ·exact ay (by unfold xK;rw[<-p2,h];simp)
  ·rw[h,Bool.true_and] at p2;exact bF (i+1) (by omega) rfl rfl ⟨by omega,p2⟩
 rw[List.drop_of_length_le (by omega),List.all_nil] at p2;have f4:=p2.symm;clear p2 p1 hb h
 refine aT (ι:=Nat) zmx rfl [1,5] (fun i=>[.c (.ptr (0,0) 0),.c (.d (.i .i64 i))]) (fun _=>[.box (p.enc.map .d)]::S)
  (fun i=>i<=p.dI.length/\(p.dI.drop i).all fH=p.dI.all fH) (fun i=>p.dI.length-i) 0 rfl ?_ ⟨Nat.zero_le _,rfl⟩ ?_
 ·exact Z1
 rintro i ⟨p1,p2⟩;refine W1 ?_;refine S0 (fun hb h=>?_) fun hb h=>?_
 ·have hi:i<p.dI.length:=by omega
  have hx:p.dI[i].sz<=bf (p.dI.map aP.enc):=dA (List.mem_map_of_mem (List.getElem_mem hi));rw[xL hi] at p2;refine W3 ?_;refine C2 (qg p.dI[i] (by omega)) ?_;refine S0 (fun hb h=>?_) fun hb h=>?_
  ·exact ay (by unfold xK;rw[<-p2,h];simp)
  ·rw[h,Bool.true_and] at p2;exact bF (i+1) (by omega) rfl rfl ⟨by omega,p2⟩
 rw[List.drop_of_length_le (by omega),List.all_nil] at p2;have f5:=p2.symm;clear p2 p1 hb h
 refine aT (ι:=Nat) zmx rfl [1,6] (fun i=>[.c (.ptr (0,0) 0),.c (.d (.i .i64 i))]) (fun _=>[.box (p.enc.map .d)]::S)
  (fun i=>i<=p.cu.length/\(p.cu.drop i).all kC=p.cu.all kC) (fun i=>p.cu.length-i) 0 rfl ?_ ⟨Nat.zero_le _,rfl⟩ ?_
 ·exact Z1
 rintro i ⟨p1,p2⟩;refine W1 ?_;refine S0 (fun hb h=>?_) fun hb h=>?_
 ·have hi:i<p.cu.length:=by omega
  have hx:p.cu[i].sz<=bf (p.cu.map aU.enc):=dA (List.mem_map_of_mem (List.getElem_mem hi));rw[xL hi] at p2;refine W3 ?_;refine C2 (A8 p.cu[i] (by omega)) ?_;refine S0 (fun hb h=>?_) fun hb h=>?_
  ·exact ay (by unfold xK;rw[<-p2,h];simp)
  ·rw[h,Bool.true_and] at p2;exact bF (i+1) (by omega) rfl rfl ⟨by omega,p2⟩
 rw[List.drop_of_length_le (by omega),List.all_nil] at p2;have f6:=p2.symm;clear p2 p1 hb h;exact ay (by unfold xK;rw[f3,f4,f5,f6];rfl)
def aj4:List UInt8:=[112,97,99,107,97,103,101]
def isK(s:List UInt8)(y:aj):Bool:=decide (dJ y.ah 0=s)
noncomputable def IV(l:List aj):List bA:=(l.filter (isK kr)).map vK
noncomputable def IW(l:List aj):List aS:=(l.filter (isK oK)).map rZ
noncomputable def IX(l:List aj):List aP:=(l.filter (isK lu)).map rJ
noncomputable def IY(l:List aj):List aU:=(l.filter (isK xX)).map vT
noncomputable def jN(y:aj):Bool:=if isK kr y=true then yt y else if isK oK y=true then okD y else if isK lu y=true then zC y else if isK xX y=true then okF y else false
noncomputable def decP(x:aj):aI:=⟨dJ x.ah 1,o9 x.ah 2,IV (x.ah.drop 3),IW (x.ah.drop 3),IX (x.ah.drop 3),IY (x.ah.drop 3)⟩
noncomputable def adR(x:aj):Prop:=fQ x=true/\3<=x.ah.length/\dJ x.ah 0=aj4/\(gX x.ah 2).aO=[]/\(gX x.ah 2).ah.all (fun y=>decide (y.aO≠[]))=true
noncomputable def Dc(x:aj):Bool:=dec (adR x/\(∀y∈x.ah.drop 3,jN y=true)/\validPkg (decP x)=true)
def Dt:aI:=⟨[],[],[],[],[],[]⟩
noncomputable def Jo(x:aj):aI:=if Dc x=true then decP x else Dt
theorem agQ{x:aj}(h:Dc x=false):Jo x=Dt:=if_neg (by rw[h];decide)
theorem aaS{x:aj}(h:Dc x=true):Jo x=decP x:=if_pos h
theorem nT{s s':List UInt8}{y:aj}(h:isK s y=true)(hs:s≠s'):isK s' y=false:=by
 unfold isK at *
 rw[decide_eq_true_eq] at h;rw[h];exact decide_eq_false hs
theorem EI{α:Type}(s:List UInt8)(f:aj->α){l:List aj}{i:Nat}(hi:i<l.length):((l.take (i+1)).filter (isK s)).map f=((l.take i).filter (isK s)).map f++if isK s l[i]=true then [f l[i]] else []:=by
 rw[List.take_succ_eq_append_getElem hi,List.filter_append,List.map_append];congr 1;by_cases h:isK s l[i]=true
 ·rw[if_pos h,List.filter_cons,if_pos h];rfl
 ·rw[if_neg h,List.filter_cons,if_neg h];rfl
theorem aaT{α:Type}(s:List UInt8)(f:aj->α)(l:List aj)(i:Nat):(((l.take i).filter (isK s)).map f).length<=i:=by
 rw[List.length_map];exact Nat.le_trans (List.length_filter_le _ _) (List.length_take_le _ _)
theorem aaU(y:aj):(vK y).sz<=y.sz:=by
 unfold vK;split
 ·exact NK true y
 ·simp[KX,bA.sz,bA.aA,bT,D.sz,bf]
theorem agR(y:aj):(rZ y).sz<=y.sz:=by
 unfold rZ;split
 ·exact RD true y
 ·simp[aS.sz,aS.aA,bT,D.sz,bf]
theorem agS(y:aj):(rJ y).sz<=y.sz:=by
 unfold rJ;split
 ·exact RQ true y
 ·have:LU.sz=0:=by simp[LU,jh,aP.sz,aP.aA,ak.aA,ak.aK,ak.fName,ak.fArgs,bT,D.sz,bf]
  omega
theorem agT(y:aj):(vT y).sz<=y.sz:=by
 unfold vT;split
 ·exact RO true y
 ·have:LQ.sz=0:=by simp[LQ,jh,mF,aU.sz,aU.aA,ak.aA,ak.aK,ak.fName,ak.fArgs,au.aA,bT,D.sz,bf,au.aK,au.bC,au.fName,au.fN,au.fType,au.fArgs,au.aQ]
  omega
theorem Al{α:Type}(s:List UInt8)(f:aj->α)(e:α->List D)(h:∀y,bT (e (f y))<=y.sz):∀l:List aj,bf (((l.filter (isK s)).map f).map e)<=dx l/\((l.filter (isK s)).map f).length<=l.length
 |[]=>⟨Nat.le_refl _,Nat.le_refl _⟩
 |y::l=>by
  obtain⟨h1,h2⟩:=Al s f e h l;rw[List.filter_cons];split
  ·have:=h y;rw[List.map_cons,List.map_cons,bf,dx,List.length_cons,List.length_cons];omega
  ·rw[dx,List.length_cons];omega
theorem aaV{x:aj}(h:x.sz<=500000):(decP x).sz<=4194304:=by
 have h1:=XE x.ah 3;have h2:=eG x
 have h3:(x.ah.drop 3).length<=x.ah.length:=by rw[List.length_drop];omega
 have h4:=rY (gX x.ah 2).ah;have h5:(gX x.ah 2).sz<=dx x.ah:=xE x.ah 2;have h5':=qP (gX x.ah 2);have h6:(dJ x.ah 1).length<=dx x.ah:=Nat.le_trans (AZ _) (xE x.ah 1);have t1:=Al kr vK bA.enc aaU (x.ah.drop 3);have t2:=Al oK rZ aS.enc agR (x.ah.drop 3);have t3:=Al lu rJ aP.enc agS (x.ah.drop 3);have t4:=Al xX vT aU.enc agT (x.ah.drop 3);have t5:=eG (gX x.ah 2)
 simp only[aI.sz,aI.aA,bT,bK,D.sz,List.length_map,decP,IV,IW,IX,IY,o9,dK] at *
 omega
theorem RY(x:aj)(i:Nat){m:Nat}(h:x.sz<=m):(x.ah.getD i bZ).sz<=m:=by
 have:=xE x.ah i;have:=eG x;omega
theorem TW{b:Bool}{l:List aj}{i:Nat}(hi:i<l.length):((l.take i).map (xD b)).map aL.enc++[[.s (l[i].ah.getD 0 bZ).aO,.sl (((l[i].ah.drop 1).map (dN b)).map ak.enc)]]=((l.take (i+1)).map (xD b)).map aL.enc:=by
 rw[List.take_succ_eq_append_getElem hi,List.map_append,List.map_append];simp only[List.map_cons,List.map_nil,aL.aA];rfl
theorem amy{x:aj}(h:okD x=true):(rZ x).fName=(kM false x).fName/\(rZ x).aG=(kM false x).aG/\(rZ x).aF=(kM false x).aF:=by
 unfold rZ;rw[if_pos h,<-ajB h];exact⟨rfl,rfl,rfl⟩
theorem agU{x:aj}(h:okD x=false):rZ x=⟨[],[],[]⟩:=by
 unfold rZ;rw[if_neg (by rw[h];decide)]
theorem amz{x:aj}(h:okD x=true):rZ x=kM true x:=if_pos h
theorem aom{x:aj}(h:x.ah.length=0):okD x=false:=aB fun h1=>by omega
theorem aj5(ok:Bool):Less (.dL [(true,[.d (.s []),.bE [],.bE []]),(false,[.d (.b ok)])]) (.dL [(true,[.d (.s []),.d (.sl []),.d (.sl [])]),(false,[.d (.b ok)])]):=
 (iw.cons (.cons (.refl _) (.cons (eU _) (.cons (eU _) .nil))) (.refl _)).less
theorem adS(n:Nat)(ok:Bool):Less (.dL [(true,[.d (.s []),.bE [],.bE []]),(false,[.d (.b ok)])]) (.dL [(true,[.d (.s []),.d (.ol n []),.d (.ol (n+1) [])]),(false,[.d (.b ok)])]):=
 (iw.cons (.cons (.refl _) (.cons (dR _) (.cons (dR _) .nil))) (.refl _)).less
def lc(l:List aL)(n:Nat):List (List D):=dO (l.map aL.enc) n
def Vg(l:List aL):Nat:=iH (l.map aL.enc)
theorem amA(x:aL)(n:Nat):eT x.enc n=[.s x.fName,.ol n (lt x.gq (n+1))]:=by
 rw[aL.aA];simp only[eT,nL,qd,Nat.add_zero,lt]
theorem amB(x:aS)(n:Nat):eT x.enc n=[.s x.fName,.ol n (x.aG.map encS),.ol (n+1) (lc x.aF (n+1+1))]:=by
 rw[aS.aA];simp only[eT,nL,qd,Nat.add_zero,vG,xG,Nat.zero_add,lc]
theorem aon(l:List ak)(n:Nat):KA (.ol n (lt l (n+1))) (.sl (l.map ak.enc)):=aaB (.sl (l.map ak.enc)) n
theorem amC{l:List aL}{i:Nat}(hi:i<l.length)(n:Nat):lc (l.take i) n++[[.s l[i].fName,.ol (n+Vg (l.take i)) (lt l[i].gq (n+Vg (l.take i)+1))]]=lc (l.take (i+1)) n:=by
 rw[List.take_succ_eq_append_getElem hi];unfold lc Vg;rw[List.map_append,oF];simp only[List.map_cons,List.map_nil,dO,amA]
theorem RZ(x:aj)(hsz:x.sz<=1048576):aH prog 144 [x.v] (.dL [(true,[.d (.s (rZ x).fName),.d (.sl ((rZ x).aG.map encS)),.d (.sl ((rZ x).aF.map aL.enc))]),(false,[.d (.b (okD x))])]):=aH.of_le fun S=>by
 have h1:=eG x;have hds:=RD false x;have hos:=al9 (d:=kM false x) (by omega);obtain⟨l,hl⟩:∃l,l=x.ah.drop 3:=⟨_,rfl⟩
 have hll:l.length<=1048576:=by rw[hl,List.length_drop];omega
 have hlm:∀y∈l,y.sz<=1048576:=fun y hy=>by
  have:=iT (List.mem_of_mem_drop (hl▸hy));omega
 obtain⟨T,hT⟩:∃T:Nat->List (List D),T=fun i=>((l.take i).map (xD false)).map aL.enc:=⟨_,rfl⟩
 have hT0:T 0=[]:=by rw[hT];rfl
 have iI:∀i,(T i).length<=i:=fun i=>by rw[hT];simp only[List.length_map];exact List.length_take_le _ _
 have hTs:∀i (hi:i<l.length),T i++[[.s (l[i].ah.getD 0 bZ).aO,.sl (((l[i].ah.drop 1).map (dN false)).map ak.enc)]]=T (i+1):=fun i hi=>by rw[hT];exact TW hi
 have hTe:T l.length=((kM false x).aF).map aL.enc:=by
  rw[hT];simp only
  rw[List.take_length,hl];rfl
 clear hT;refine zcx [.cell 2 111,.tmp 3] func144 ntmps144 ?_;refine W1 ?_;refine C1 (fM x 1 (by omega) (by omega)) ?_;refine C1 (fM x 2 (by omega) (by omega)) ?_;refine C1 (sN _ (RY x 2 (by omega))) ?_;refine W3 ?_;refine C1 (yF x 3 (by omega)) ?_;rw[<-hl];refine pE 2 2 2 _ rfl rfl ?_
 refine aT (ι:=Nat) zmx rfl [1,2,4,5,6] (fun i=>[.c (.ptr (0,0) 0),.c (.ptr (0,1) 0),.c (.ptr (0,2) 0),.c (.d (.sl (l.map aj.enc))),.c (.d (.i .i64 i))])
  (fun i=>[.box [.d (.s x.aO),.d (.sl (x.ah.map aj.enc))],.box [.d (.s []),.bE [],.bE []],.box [.d (.s (kM false x).fName),.d (.sl ((kM false x).aG.map encS)),.bN (0,3) (T i)],.tok 2 (T i)]::S)
  (fun i=>i<=l.length) (fun i=>l.length-i) 0 rfl (by rw[hT0];rfl) (Nat.zero_le _) ?_
 intro i hi;have hl':=iI i;refine W1 ?_;refine S0 (fun hb h=>?_) fun hb h=>?_
 ·have hi':i<l.length:=by omega
  have hm:=List.getElem_mem hi';have hs:=hTs i hi';have hz:=hlm _ hm;have hz1:=eG l[i];refine W3 ?_;refine C1 (fM l[i] 0 (by omega) (by omega)) ?_;refine W3 ?_;refine C1 (yF l[i] 1 (by omega)) ?_;refine C1 (Jl (l[i].ah.drop 1) (by rw[List.length_drop];omega) (fun t ht=>by have:=iT (List.mem_of_mem_drop ht);omega)) ?_;refine W3 ?_;rw[hs];exact bX 4 (by decide) (i+1) (by omega) rfl rfl rfl rfl (by omega)
 ·have hi':i=l.length:=by omega
  subst hi';rw[hTe];clear hTs;refine C1 (pz x (by omega)) ?_
  have fU:okD x=false->Less (.dL [(true,[.d (.s []),.bE [],.bE []]),(false,[.d (.b false)])]) (.dL [(true,[.d (.s (rZ x).fName),.d (.sl ((rZ x).aG.map encS)),.d (.sl ((rZ x).aF.map aL.enc))]),(false,[.d (.b (okD x))])]):=fun e=>by
   rw[agU e,e];exact aj5 false
  refine S0 (fun hb h=>?_) fun hb h=>?_
  ·exact fU (aB fun e=>by rw[e.1] at h;cases h)
  have hv:=h;refine S0 (fun hb h=>?_) fun hb h=>?_
  ·exact fU (aom (by omega))
  have hne:x.ah≠[]:=fun e=>by rw[e] at h;exact h rfl
  have hok:=ajA hne;rw[hv,Bool.true_and] at hok;refine W3 ?_;refine C1 (ZG (kM false x) (by omega)) ?_;refine C1 (uy (XB (kM false x)) x (by omega)) ?_;refine S0 (fun hb h=>?_) fun hb h=>?_
  ·exact fU (by rw[hok];exact aB h)
  ·have hy:okD x=true:=by rw[hok];exact aZ h
   obtain⟨e1,e2,e3⟩:=amy hy;rw[e1,e2,e3,hy];exact gy _
theorem Qx(x:aj)(n:Nat)(hsz:x.sz<=1048576):aH prog 154 [x.v] (.dL [(true,[.d (.s (rZ x).fName),.d (.ol n ((rZ x).aG.map encS)),.d (.ol (n+1) (lc (rZ x).aF (n+1+1)))]),(false,[.d (.b (okD x))])]):=aH.of_le fun S=>by
 have h1:=eG x;have hds:=RD true x;obtain⟨l,hl⟩:∃l,l=x.ah.drop 3:=⟨_,rfl⟩
 have hll:l.length<=1048576:=by rw[hl,List.length_drop];omega
 have hlm:∀y∈l,y.sz<=1048576:=fun y hy=>by
  have:=iT (List.mem_of_mem_drop (hl▸hy));omega
 have fU:okD x=false->Less (.dL [(true,[.d (.s []),.bE [],.bE []]),(false,[.d (.b false)])]) (.dL [(true,[.d (.s (rZ x).fName),.d (.ol n ((rZ x).aG.map encS)),.d (.ol (n+1) (lc (rZ x).aF (n+1+1)))]),(false,[.d (.b (okD x))])]):=fun e=>by
  rw[agU e,e];exact adS n false
 refine lY (n) (rs:=[.cell 2 111,.tmp 3]) zmx func154 ntmps154 rfl rfl rfl rfl rfl ?_;refine W1 ?_;refine C1 (vI x oK 3 (by omega) (by omega) (by omega)) ?_;refine S0 (fun hb h=>?_) fun hb h=>?_
 ·exact fU (aB fun e=>h ⟨e.1,e.2.1,e.2.2.1⟩)
 have hf:=h;have hlen:3<=x.ah.length:=hf.2.1;have hr:=gV (l:=x.ah);have a1:=jL (l:=x.ah) (i:=1) (by omega)
 have g2:(x.ah.getD 2 bZ)=x.ah[2]:=by rw[List.getD_eq_getElem?_getD,List.getElem?_eq_getElem (by omega)];rfl
 have z2:=RY x 2 hsz;rw[g2] at z2
 have hvars:(kM true x).aG=fq x.ah[2].ah:=by rw[<-g2];rfl
 have hname:(kM true x).fName=x.ah[1].aO:=a1;have Jh:=tC hf.1;have hsl:=af2 (kM true x);obtain⟨L,hL⟩:∃L:Nat->Nat,L=fun i=>n+1+1+Vg ((l.map (xD true)).take i):=⟨_,rfl⟩;obtain⟨T,hT⟩:∃T:Nat->List (List D),T=fun i=>lc ((l.map (xD true)).take i) (n+1+1):=⟨_,rfl⟩;obtain⟨P,hP⟩:∃P:Nat->List (List D),P=fun i=>((l.take i).map (xD true)).map aL.enc:=⟨_,rfl⟩
 have hT0:T 0=[]:=by rw[hT];rfl
 have VQ:P 0=[]:=by rw[hP];rfl
 have hPl:∀i,(P i).length<=i:=fun i=>by rw[hP];simp only[List.length_map];exact List.length_take_le _ _
 have hPr:∀i,∀r∈P i,r.length=2:=fun i=>by
  rw[hP];intro r hr;obtain⟨z,_,rfl⟩:=List.mem_map.1 hr;exact z.cK
 have hTs:∀i (hi:i<l.length),T i++[[.s (xD true l[i]).fName,.ol (L i) (lt (xD true l[i]).gq (L i+1))]]=T (i+1):=fun i hi=>by
  have:=amC (l:=l.map (xD true)) (i:=i) (by rw[List.length_map];exact hi) (n+1+1);rw[List.getElem_map] at this;rw[hT,hL];exact this
 have hPs:∀i (hi:i<l.length),P i++[[.s (l[i].ah.getD 0 bZ).aO,.sl (((l[i].ah.drop 1).map (dN true)).map ak.enc)]]=P (i+1):=fun i hi=>by rw[hP];exact TW hi
 have hTe:T l.length=lc (kM true x).aF (n+1+1):=by
  rw[hT];simp only
  rw[List.take_of_length_le (by simp),hl];rfl
 have hPe:P l.length=(kM true x).aF.map aL.enc:=by
  rw[hP];simp only
  rw[List.take_length,hl];rfl
 clear hT hP hL;refine C1 (rA x.ah[2] (by omega) n) ?_;refine⟨⟨by omega,by omega,hr⟩,?_⟩;rw[pG _ _ _ (Nat.le_refl _),<-hl,<-hvars,<-hname];refine W1 ?_;refine oH (n+1) 3 2 2 _ rfl rfl ?_
 refine aT (ι:=Nat×List (List D)) zmx rfl [1,2,4,25,26,27] (fun y=>[.c (.ptr (0,1) 0),.c (.ptr (0,2) 0),.c (.ptr (0,3) 0),.c (.d (.sl (l.map aj.enc))),.c (.d (.i .i64 l.length)),.c (.d (.i .i64 y.1))])
  (fun y=>[.seed n,.box [.d (.s x.aO),.d (.sl (x.ah.map aj.enc))],.box [.d (.s []),.bE [],.bE []],.box [.d (.s (kM true x).fName),.d (.ol n ((kM true x).aG.map encS)),.bN (0,4) y.2],.fu (n+1) 2 y.2]::S)
  (fun y=>y.1<=l.length/\iR y.2 (P y.1)/\((∀j,∀hj:j<l.length,j<y.1->l[j].ah≠[])->y.2=T y.1)) (fun y=>l.length-y.1) (0,[]) rfl rfl ⟨Nat.zero_le _,by rw[VQ];exact .nil,fun _=>hT0.symm⟩ ?_
 rintro⟨i,U⟩ ⟨p1,p2,p3⟩;simp only at p1 p2 p3;have hU1:=p2.length;have hU2:=hPl i;have hU3:=p2.rows (hPr i);refine W1 ?_;refine S0 (fun hb h=>?_) fun hb h=>?_
 ·have hi':i<l.length:=by omega
  have hm:=List.getElem_mem hi';have hs:=hTs i hi';have hps:=hPs i hi';have hz:=hlm _ hm;have hz1:=eG l[i];have hry:=gV (l:=l[i].ah);refine W3 ?_;refine S0 (fun hb h=>?_) fun hb h=>?_
  ·have hpos:0<l[i].ah.length:=by omega
   refine W3 ?_;refine⟨⟨by omega,by omega,hry⟩,?_⟩;rw[pG _ _ _ (Nat.le_refl _)];refine C1 (GJ (l[i].ah.drop 1) (L i) (L i+1) (by rw[List.length_drop];omega) (fun t ht=>by have:=iT (List.mem_of_mem_drop ht);omega)) ?_;refine W3 ?_
   have g0:l[i].ah.getD 0 bZ=l[i].ah[0]:=by rw[List.getD_eq_getElem?_getD,List.getElem?_eq_getElem hpos];rfl
   rw[g0] at hps;have hcn:(xD true l[i]).fName=l[i].ah[0].aO:=jL hpos;rw[hcn] at hs;refine bX 5 (by decide) (i+1,_) (by simp only;omega) rfl rfl rfl rfl ⟨by simp only;omega,?_,fun hg=> ?_⟩
   ·simp only
    rw[<-hps];exact p2.snoc (.cons (.refl _) (.cons (aon _ _) .nil))
   ·simp only
    rw[p3 fun j hj hji=>hg j hj (by simp only;omega),<-hs];rfl
  ·have hnil:l[i].ah=[]:=List.eq_nil_of_length_eq_zero (by omega)
   have g0:l[i].ah.getD 0 bZ=bZ:=by rw[hnil];rfl
   rw[g0,hnil] at hps;refine bX 5 (by decide) (i+1,_) (by simp only;omega) rfl rfl rfl rfl ⟨by simp only;omega,?_,fun hg=> ?_⟩
   ·simp only
    rw[<-hps];exact p2.snoc (.refl _)
   ·exact absurd hnil (hg i hi' (by simp only;omega))
 ·have hi':i=l.length:=by omega
  subst hi';clear hTs hPs;rw[hPe] at p2;refine oG (Et (kM true x) (by omega)) (.cons (fK.less (.cons (.refl _) (.cons (Gv _ _) (.cons (Qa p2) .nil)))) .nil) ?_;refine W1 ?_;refine S0 (fun hb h=>?_) fun hb h=>?_
  ·exact fU (aB fun e=>by rw[e.2.2.2.1] at h;cases h)
  have hv:=h;refine W3 ?_;refine oG (aH.less (PY (kM true x) 0 hv (by omega)) (LH (Eu (kM true x)) 0)) (.cons (fK.less (.cons (.refl _) (.cons (Gv _ _) (.cons (Qa p2) .nil)))) .nil) ?_;refine W1 ?_;refine C1 (uz (Eu (kM true x)) x (by omega)) ?_;refine S0 (fun hb h=>?_) fun hb h=>?_
  ·exact fU (aB fun e=>h e.2.2.2.2)
  ·have hy:okD x=true:=aZ ⟨hf.1,hf.2.1,hf.2.2,hv,h⟩
   have hgood:U=T l.length:=p3 fun j hj _ e=>by
    have h3:=congrArg (fun z=>z.ah.drop 3) h;simp only[<-hl] at h3;have h4:(Eu (kM true x)).ah.drop 3=(kM true x).aF.map Cj:=rfl;rw[h4] at h3
    have h5:l[j]=Cj ((kM true x).aF[j]'(by have:=congrArg List.length h3;rw[List.length_map] at this;omega)):=by
     simp only[<-h3,List.getElem_map]
    rw[h5] at e;simp[Cj,dG] at e
   rw[hgood,hTe,amz hy,hy];exact gy _
theorem jF{l:List aj}{i:Nat}(h:i<l.length):gX l i=l[i]:=by
 show l.getD i bZ=_;rw[List.getD_eq_getElem?_getD,List.getElem?_eq_getElem h];rfl
def lB(l:List bn)(n:Nat):List (List D):=dO (l.map bn.enc) n
def Vh(l:List bn):Nat:=iH (l.map bn.enc)
def lPr(l:List bL)(n:Nat):List (List D):=dO (l.map bL.enc) n
def akO(l:List bL):Nat:=iH (l.map bL.enc)
theorem aaW(x:bn)(n:Nat):eT x.enc n=[.s x.bC,.i .i64 x.fType.aK,.s x.fType.fName,.ol n (lt x.fType.fArgs (n+1))]:=by
 simp only[bn.aA,ak.aA,List.cons_append,List.nil_append,eT,nL,qd,Nat.add_zero,lt]
theorem Yl(x:bL)(n:Nat):eT x.enc n=[.s x.fName,.i .i64 x.fType.aK,.s x.fType.fName,.ol n (lt x.fType.fArgs (n+1))]:=by
 simp only[bL.aA,ak.aA,List.cons_append,List.nil_append,eT,nL,qd,Nat.add_zero,lt]
theorem BK{α:Type}{e:α->List D}{l:List α}{i:Nat}(hi:i<l.length)(n:Nat):dO ((l.take i).map e) n++[eT (e l[i]) (n+iH ((l.take i).map e))]=dO ((l.take (i+1)).map e) n:=by
 rw[List.take_succ_eq_append_getElem hi,List.map_append,oF];rfl
theorem Du{α:Type}{e:α->List D}{l:List α}{i:Nat}(hi:i<l.length):(l.take i).map e++[e l[i]]=(l.take (i+1)).map e:=by
 rw[List.take_succ_eq_append_getElem hi,List.map_append];rfl
theorem aaX{b:Bool}{y:aj}(h:b=false\/y.ah.length=2):(oM b y).bC=dJ y.ah 0/\(oM b y).fType=dN b (y.ah.getD 1 bZ):=by
 unfold oM;rw[if_neg (by rintro⟨e1,e2⟩;rcases h with e|e;(rw[e] at e1;cases e1);exact e2 e)];exact⟨rfl,rfl⟩
theorem aj6{y:aj}(h:y.ah.length≠2):oM true y=⟨[],jh⟩:=if_pos ⟨rfl,h⟩
theorem TY{b:Bool}{y:aj}(h:b=false\/y.ah.length=2):(oN b y).fName=dJ y.ah 0/\(oN b y).fType=dN b (y.ah.getD 1 bZ):=by
 unfold oN;rw[if_neg (by rintro⟨e1,e2⟩;rcases h with e|e;(rw[e] at e1;cases e1);exact e2 e)];exact⟨rfl,rfl⟩
theorem adT{y:aj}(h:y.ah.length≠2):oN true y=⟨[],jh⟩:=if_pos ⟨rfl,h⟩
theorem R3{x:aj}(h:iO x=true){i:Nat}(hi:i<x.ah.length):iO x.ah[i]=true:=xH (Fh h (fun e=>by rw[e] at hi;simp at hi)) (List.getElem_mem hi)
theorem xV(x:aj){i:Nat}(hi:i<x.ah.length):x.ah[i].sz<=x.sz:=by
 have:=iT (List.getElem_mem hi);have:=eG x;omega
abbrev aU.cl(x:aU)(n p q r:Nat):List C:=[.d (.s x.fName),.d (.ol n (x.aG.map encS)),.d (.ol (n+1) (lB x.bY (n+1+1))),.d (.ol p (lPr x.aW (p+1))),.d (.i .i64 x.bP.aK),.d (.s x.bP.fName),.d (.ol q (lt x.bP.fArgs (q+1))),
 .d (.i .i64 x.fBody.aK),.d (.s x.fBody.bC),.d (.s x.fBody.fName),.d (.i .i64 x.fBody.fN),.d (.i .i64 x.fBody.fType.aK),.d (.s x.fBody.fType.fName),.d (.ol r (lt x.fBody.fType.fArgs (r+1))),
 .d (.ol (r+(fZ x.fBody.fType.fArgs+1)) (lE x.fBody.fArgs (r+(fZ x.fBody.fType.fArgs+1)+1))),.d (.ol (r+(fZ x.fBody.fType.fArgs+1)+(lT x.fBody.fArgs+1)) (lM x.fBody.aQ (r+(fZ x.fBody.fType.fArgs+1)+(lT x.fBody.fArgs+1)+1)))]
abbrev aU.cv(x:aU):List C:=[.d (.s x.fName),.d (.sl (x.aG.map encS)),.d (.sl (x.bY.map bn.enc)),.d (.sl (x.aW.map bL.enc)),.d (.i .i64 x.bP.aK),.d (.s x.bP.fName),.d (.sl (x.bP.fArgs.map ak.enc)),
 .d (.i .i64 x.fBody.aK),.d (.s x.fBody.bC),.d (.s x.fBody.fName),.d (.i .i64 x.fBody.fN),.d (.i .i64 x.fBody.fType.aK),.d (.s x.fBody.fType.fName),.d (.sl (x.fBody.fType.fArgs.map ak.enc)),.d (.sl (x.fBody.fArgs.map au.enc)),.d (.sl (x.fBody.aQ.map aR.enc))]
def pF(x:aU)(n:Nat):Nat:=n+1+(Vh x.bY+1)
def qF(x:aU)(n:Nat):Nat:=pF x n+(akO x.aW+1)
def rF(x:aU)(n:Nat):Nat:=qF x n+(fZ x.bP.fArgs+1)
theorem amF(x:aU)(n:Nat):(eT x.enc n).map C.d=x.cl n (pF x n) (qF x n) (rF x n):=by
 simp only[aU.aA,au.aA,ak.aA,List.cons_append,List.nil_append,eT,nL,qd,Nat.add_zero,lt,lE,lM,lB,lPr,fZ,lT,Vh,akO,pF,qF,rF,vG,xG,Nat.zero_add,List.map_cons,List.map_nil];rfl
theorem agV{x:aj}(h:okF x=false):vT x=LQ:=if_neg (by rw[h];decide)
theorem aaY{x:aj}(h:okF x=true):vT x=A9 true x:=if_pos h
abbrev GR:List C:=[.d (.s []),.bE [],.bE [],.bE [],.d (.i .i64 0),.d (.s []),.bE [],.d (.i .i64 0),.d (.s []),.d (.s []),.d (.i .i64 0),.d (.i .i64 0),.d (.s []),.bE [],.bE [],.bE []]
theorem arX(e:aU)(h:e=LQ)(ok:Bool):Less (.dL [(true,GR),(false,[.d (.b ok)])]) (.dL [(true,e.cv),(false,[.d (.b ok)])]):=by
 rw[h];exact(iw.cons (.cons (.refl _) (.cons (eU _) (.cons (eU _) (.cons (eU _) (.cons (.refl _) (.cons (.refl _) (.cons (eU _) (.cons (.refl _) (.cons (.refl _) (.cons (.refl _) (.cons (.refl _) (.cons (.refl _) (.cons (.refl _) (.cons (eU _) (.cons (eU _) (.cons (eU _) .nil)))))))))))))))) (.refl _)).less
theorem aoq(e:aU)(h:e=LQ)(n p q r:Nat)(ok:Bool):Less (.dL [(true,GR),(false,[.d (.b ok)])]) (.dL [(true,e.cl n p q r),(false,[.d (.b ok)])]):=by
 rw[h];exact(iw.cons (.cons (.refl _) (.cons (dR _) (.cons (dR _) (.cons (dR _) (.cons (.refl _) (.cons (.refl _) (.cons (dR _) (.cons (.refl _) (.cons (.refl _) (.cons (.refl _) (.cons (.refl _) (.cons (.refl _) (.cons (.refl _) (.cons (dR _) (.cons (dR _) (.cons (dR _) .nil)))))))))))))))) (.refl _)).less
theorem Jp(x:aj)(hsz:x.sz<=4194304):aH prog 209 [x.v] (.c (.d (.sl ((x.ah.map (oM false)).map bn.enc)))):=fun S=>by
 have h1:=eG x
 have hall:∀t∈x.ah,t.sz<=4194304:=fun t ht=>by have:=iT ht;omega
 have Dp:=fun(i:Nat) (hi:i<x.ah.length)=>Du (e:=bn.enc) (l:=x.ah.map (oM false)) (i:=i) (by rw[List.length_map];exact hi);refine zcx [.tmp 2] func209 ntmps209 ?_;refine W1 ?_;refine W3 ?_;refine ni 3 4 [] rfl (by simp) ?_
 refine aT (ι:=Nat) zmx rfl [1,3,4] (fun i=>[.c (.ptr (0,0) 0),.c (.bN (0,1) (((x.ah.map (oM false)).take i).map bn.enc)),.c (.d (.i .i64 i))]) (fun i=>[.box [.d (.s x.aO),.d (.sl (x.ah.map aj.enc))],.tok 4 (((x.ah.map (oM false)).take i).map bn.enc)]::S)
  (fun i=>i<=x.ah.length) (fun i=>x.ah.length-i) 0 rfl rfl (Nat.zero_le _) ?_
 intro i hi
 have hl:(((x.ah.map (oM false)).take i).map bn.enc).length<=i:=by rw[List.length_map];exact List.length_take_le _ _
 refine W1 ?_;refine S0 (fun hb h=>?_) fun hb h=>?_
 ·have hi':i<x.ah.length:=by omega
  have hz:=hall _ (List.getElem_mem hi');have hs:=Dp i hi';have hb:=aaX (b:=false) (y:=x.ah[i]) (.inl rfl);rw[List.getElem_map] at hs;simp only[bn.aA,ak.aA,List.cons_append,List.nil_append,hb.1,hb.2] at hs;refine W3 ?_;refine C1 (fM x.ah[i] 0 hz (by omega)) ?_;refine W3 ?_;refine C1 (fM x.ah[i] 1 hz (by omega)) ?_;refine C1 (qO (x.ah[i].ah.getD 1 bZ) (vJ _ 1 hz)) ?_;refine W3 ?_;show _;rw[show(x.ah[i].ah.getD 0 bZ).aO=dJ x.ah[i].ah 0 from rfl,hs];exact bF (i+1) (by omega) rfl rfl (by omega)
 ·have hi':i=(x.ah.map (oM false)).length:=by rw[List.length_map];omega
  rw[hi',List.take_length]
theorem Jq(x:aj)(n q:Nat)(hsz:x.sz<=4194304):aH prog 221 [x.v] (.c (.d (.ol n (lB (x.ah.map (oM true)) q)))):=aH.of_le fun S=>by
 have h1:=eG x
 have hall:∀t∈x.ah,t.sz<=4194304:=fun t ht=>by have:=iT ht;omega
 obtain⟨L,hL⟩:∃L:Nat->Nat,L=fun i=>q+iH (((x.ah.map (oM true)).take i).map bn.enc):=⟨_,rfl⟩;obtain⟨T,hT⟩:∃T:Nat->List (List D),T=fun i=>dO (((x.ah.map (oM true)).take i).map bn.enc) q:=⟨_,rfl⟩
 have hT0:T 0=[]:=by rw[hT];rfl
 have iI:∀i,(T i).length<=i:=fun i=>by rw[hT];simp only[jV,List.length_map];exact List.length_take_le _ _
 have hTr:∀i,∀r∈T i,r.length=4:=fun i=>by
  rw[hT]
  exact xQ fun r hr=>by
   obtain⟨z,_,rfl⟩:=List.mem_map.1 hr;exact z.cK
 have hTs:∀i (hi:i<x.ah.length),T i++[eT (oM true x.ah[i]).enc (L i)]=T (i+1):=fun i hi=>by
  have:=BK (e:=bn.enc) (l:=x.ah.map (oM true)) (i:=i) (by rw[List.length_map];exact hi) q;rw[List.getElem_map] at this;rw[hT,hL];exact this
 have hTe:T x.ah.length=lB (x.ah.map (oM true)) q:=by
  rw[hT];simp only
  rw[List.take_of_length_le (by simp)];rfl
 clear hT hL;refine lY (n) (rs:=[.tmp 2]) zmx func221 ntmps221 rfl rfl rfl rfl rfl ?_;refine W1 ?_;refine W3 ?_;refine mX n 3 4 [] (.inl rfl) (by simp) ?_
 refine aT (ι:=Nat×List (List D)) zmx rfl [3,9,10,11] (fun y=>[.c (.bN (0,2) y.2),.c (.d (.sl (x.ah.map aj.enc))),.c (.d (.i .i64 x.ah.length)),.c (.d (.i .i64 y.1))])
  (fun y=>[.seed n,.box [.d (.s x.aO),.d (.sl (x.ah.map aj.enc))],.fu n 4 y.2]::S)
  (fun y=>y.1<=x.ah.length/\iR y.2 (T y.1)) (fun y=>x.ah.length-y.1) (0,[]) rfl rfl ⟨Nat.zero_le _,by rw[hT0];exact .nil⟩ ?_
 rintro⟨i,U⟩ ⟨p1,p2⟩;simp only at p1 p2;have hU1:=p2.length;have hU2:=iI i;have hU3:=p2.rows (hTr i);refine W1 ?_;refine S0 (fun hb h=>?_) fun hb h=>?_
 ·have hi':i<x.ah.length:=by omega
  have hz:=hall _ (List.getElem_mem hi');have hs:=hTs i hi';have hz1:=eG x.ah[i];refine W3 ?_;refine S0 (fun hb h=>?_) fun hb h=>?_
  ·have hl2:x.ah[i].ah.length=2:=by omega
   have hb:=aaX (b:=true) (y:=x.ah[i]) (.inr hl2);have g1:x.ah[i].ah.getD 1 bZ=x.ah[i].ah[1]:=jF (by omega);rw[aaW,hb.1,hb.2,jL (by omega:0<x.ah[i].ah.length),g1] at hs;have hz2:=xV x.ah[i] (i:=1) (by omega);refine W3 ?_;refine C1 (rC x.ah[i].ah[1] (L i) (by omega)) ?_;refine W3 ?_;refine bX 3 (by decide) (i+1,_) (by simp only;omega) rfl rfl rfl rfl ⟨by simp only;omega,?_⟩
   simp only
   rw[<-hs];exact p2.snoc (.refl _)
  ·have hl2:x.ah[i].ah.length≠2:=by omega
   rw[aaW,aj6 hl2] at hs;refine bX 3 (by decide) (i+1,_) (by simp only;omega) rfl rfl rfl rfl ⟨by simp only;omega,?_⟩
   simp only
   rw[<-hs];exact p2.snoc (.cons (.refl _) (.cons (.refl _) (.cons (.refl _) (.cons (oV _) .nil))))
 ·have hi':i=x.ah.length:=by omega
  subst hi';rw[hTe] at p2;exact aja p2
theorem Ym(x:aj)(hsz:x.sz<=1048576):aH prog 146 [x.v] (.dL [(true,(vT x).cv),(false,[.d (.b (okF x))])]):=aH.of_le fun S=>by
 have h1:=eG x;have hds:=RO false x;have hos:=amr (f:=A9 false x) (by omega);have hgs:=fun i=>vJ x i (m:=4194304) (by omega);obtain⟨l,hl⟩:∃l,l=(x.ah.getD 4 bZ).ah:=⟨_,rfl⟩;have hg4:=eG (x.ah.getD 4 bZ)
 have hll:l.length<=4194304:=by have:=hgs 4;rw[hl];omega
 have hlm:∀y∈l,y.sz<=4194304:=fun y hy=>by
  have:=hgs 4;have:=iT (hl▸hy);omega
 obtain⟨F,hF⟩:∃F,F=A9 false x:=⟨_,rfl⟩
 have f1:F.fName=(x.ah.getD 1 bZ).aO:=by rw[hF];rfl
 have f2:F.aG=fq (x.ah.getD 2 bZ).ah:=by rw[hF];rfl
 have f3:F.bY=(x.ah.getD 3 bZ).ah.map (oM false):=by rw[hF];rfl
 have f5:F.bP=dN false (x.ah.getD 5 bZ):=by rw[hF];rfl
 have f6:F.fBody=eY false (x.ah.getD 6 bZ):=by rw[hF];rfl
 obtain⟨T,hT⟩:∃T:Nat->List (List D),T=fun i=>((l.map (oN false)).take i).map bL.enc:=⟨_,rfl⟩
 have hT0:T 0=[]:=by rw[hT];rfl
 have iI:∀i,(T i).length<=i:=fun i=>by rw[hT];simp only[List.length_map];exact List.length_take_le _ _
 have hTs:∀i (hi:i<l.length),T i++[(oN false l[i]).enc]=T (i+1):=fun i hi=>by
  have:=Du (e:=bL.enc) (l:=l.map (oN false)) (i:=i) (by rw[List.length_map];exact hi);rw[List.getElem_map] at this;rw[hT];exact this
 have hTe:T l.length=F.aW.map bL.enc:=by
  rw[hT];simp only
  rw[List.take_of_length_le (by simp),hF,hl];rfl
 clear hT
 have fU:okF x=false->Less (.dL [(true,GR),(false,[.d (.b false)])]) (.dL [(true,(vT x).cv),(false,[.d (.b (okF x))])]):=fun e=>by
  rw[e];exact arX _ (agV e) false
 have c5:=qO (x.ah.getD 5 bZ) (hgs 5);have c6:=FT (x.ah.getD 6 bZ) (hgs 6);have c2:=sN _ (hgs 2);have c3:=Jp _ (hgs 3);rw[<-f2] at c2;rw[<-f3] at c3;rw[<-f5] at c5;rw[<-f6] at c6;refine zcx [.cell 2 120,.tmp 3] func146 ntmps146 ?_;refine W1 ?_;refine C1 (fM x 1 (by omega) (by omega)) ?_;refine C1 (fM x 2 (by omega) (by omega)) ?_;refine aX c2 ?_;refine W1 ?_;refine C1 (fM x 3 (by omega) (by omega)) ?_;refine aX c3 ?_;refine W1 ?_;refine C1 (fM x 5 (by omega) (by omega)) ?_;refine aX c5 ?_;refine W1 ?_;refine C1 (fM x 6 (by omega) (by omega)) ?_;refine aX c6 ?_;refine W1 ?_;refine W3 ?_;refine C1 (fM x 4 (by omega) (by omega)) ?_;rw[<-hl,<-f1];refine pE 2 3 4 _ rfl rfl ?_
 refine aT (ι:=Nat) zmx rfl [1,2,4,5,6] (fun i=>[.c (.ptr (0,0) 0),.c (.ptr (0,1) 0),.c (.ptr (0,2) 0),.c (.ptr (0,3) 0),.c (.d (.i .i64 i))])
  (fun i=>[.box [.d (.s x.aO),.d (.sl (x.ah.map aj.enc))],.box GR,.box [.d (.s F.fName),.d (.sl (F.aG.map encS)),.d (.sl (F.bY.map bn.enc)),.bN (0,4) (T i),.d (.i .i64 F.bP.aK),.d (.s F.bP.fName),.d (.sl (F.bP.fArgs.map ak.enc)),
    .d (.i .i64 F.fBody.aK),.d (.s F.fBody.bC),.d (.s F.fBody.fName),.d (.i .i64 F.fBody.fN),.d (.i .i64 F.fBody.fType.aK),.d (.s F.fBody.fType.fName),.d (.sl (F.fBody.fType.fArgs.map ak.enc)),.d (.sl (F.fBody.fArgs.map au.enc)),.d (.sl (F.fBody.aQ.map aR.enc))],
    .box [.d (.s (x.ah.getD 4 bZ).aO),.d (.sl (l.map aj.enc))],.tok 4 (T i)]::S)
  (fun i=>i<=l.length) (fun i=>l.length-i) 0 rfl (by rw[hT0];rfl) (Nat.zero_le _) ?_
 intro i hi;have hl':=iI i;refine W1 ?_;refine S0 (fun hb h=>?_) fun hb h=>?_
 ·have hi':i<l.length:=by omega
  have hz:=hlm _ (List.getElem_mem hi');have hs:=hTs i hi';have hb:=TY (b:=false) (y:=l[i]) (.inl rfl);simp only[bL.aA,ak.aA,List.cons_append,List.nil_append,hb.1,hb.2] at hs;refine W3 ?_;refine C1 (fM l[i] 0 hz (by omega)) ?_;refine W3 ?_;refine C1 (fM l[i] 1 hz (by omega)) ?_;refine C1 (qO (l[i].ah.getD 1 bZ) (vJ _ 1 hz)) ?_;refine W3 ?_;rw[show(l[i].ah.getD 0 bZ).aO=dJ l[i].ah 0 from rfl,hs];exact bX 5 (by decide) (i+1) (by omega) rfl rfl rfl rfl (by omega)
 ·have hi':i=l.length:=by omega
  subst hi';rw[hTe];clear hTs;refine C1 (pz x (by omega)) ?_;refine S0 (fun hb h=>?_) fun hb h=>?_
  ·exact fU (aB fun e=>by rw[e.1] at h;cases h)
  have hv:=h;refine S0 (fun hb h=>?_) fun hb h=>?_
  ·exact fU (aB fun e=>by omega)
  have hne:x.ah≠[]:=fun e=>by rw[e] at h;exact h rfl
  have hok:=ajL hne;rw[hv,Bool.true_and] at hok;rw[<-hF] at hok hos hds;refine W3 ?_;refine C1 (agB F (by omega)) ?_;refine C1 (uy (X9 F) x (by omega)) ?_;refine S0 (fun hb h=>?_) fun hb h=>?_
  ·exact fU (by rw[hok];exact aB h)
  ·have hy:okF x=true:=by rw[hok];exact aZ h
   rw[aaY hy,hy,<-ajM hy,<-hF];exact gy _
theorem UM(x:aj)(n:Nat)(hsz:x.sz<=1048576):aH prog 156 [x.v] (.dL [(true,(vT x).cl n (pF (vT x) n) (qF (vT x) n) (rF (vT x) n)),(false,[.d (.b (okF x))])]):=aH.of_le fun S=>by
 have h1:=eG x;have hds:=RO true x;obtain⟨F,hF⟩:∃F,F=A9 true x:=⟨_,rfl⟩;obtain⟨p,hp⟩:∃p,p=pF F n:=⟨_,rfl⟩;obtain⟨q,hq⟩:∃q,q=qF F n:=⟨_,rfl⟩;obtain⟨r,hr0⟩:∃r,r=rF F n:=⟨_,rfl⟩
 have fU:okF x=false->Less (.dL [(true,GR),(false,[.d (.b false)])]) (.dL [(true,(vT x).cl n (pF (vT x) n) (qF (vT x) n) (rF (vT x) n)),(false,[.d (.b (okF x))])]):=fun e=>by
  rw[e];exact aoq _ (agV e) n _ _ _ false
 refine lY (n) (rs:=[.cell 2 120,.tmp 3]) zmx func156 ntmps156 rfl rfl rfl rfl rfl ?_;refine W1 ?_;refine C1 (vI x xX 7 (by omega) (by omega) (by omega)) ?_;refine S0 (fun hb h=>?_) fun hb h=>?_
 ·exact fU (aB fun e=>h ⟨e.1,e.2.1.1,e.2.1.2⟩)
 have hf:=h;have Jh:=tC hf.1
 have hfo:iO x=true:=by have:=hf.1;unfold fQ at this;rw[Bool.and_eq_true] at this;exact this.1
 have hlen:7<=x.ah.length:=hf.2.1
 have f1:F.fName=x.ah[1].aO:=by rw[hF];exact jL (by omega)
 have f2:F.aG=fq x.ah[2].ah:=by rw[hF,<-jF (l:=x.ah) (i:=2) (by omega)];rfl
 have f3:F.bY=x.ah[3].ah.map (oM true):=by rw[hF,<-jF (l:=x.ah) (i:=3) (by omega)];rfl
 have f4:F.aW=x.ah[4].ah.map (oN true):=by rw[hF,<-jF (l:=x.ah) (i:=4) (by omega)];rfl
 have f5:F.bP=dN true x.ah[5]:=by rw[hF,<-jF (l:=x.ah) (i:=5) (by omega)];rfl
 have f6:F.fBody=eY true x.ah[6]:=by rw[hF,<-jF (l:=x.ah) (i:=6) (by omega)];rfl
 have hzs:=fun i hi=>xV x (i:=i) hi;have c2:=rA x.ah[2] (by have:=hzs 2 (by omega);omega) n;have c3:=Jq x.ah[3] (n+1) (n+1+1) (by have:=hzs 3 (by omega);omega);have c5:=rC x.ah[5] q (by have:=hzs 5 (by omega);omega);have c6:=EA x.ah[6] r (R3 hfo (by omega)) (by have:=hzs 6 (by omega);omega);rw[<-f2] at c2;rw[<-f3] at c3;rw[<-f5] at c5;rw[<-f6] at c6;have hz4:=hzs 4 (by omega);obtain⟨l,hl⟩:∃l,l=x.ah[4].ah:=⟨_,rfl⟩;have hg4:=eG x.ah[4]
 have hll:l.length<=4194304:=by rw[hl];omega
 have hlm:∀y∈l,y.sz<=4194304:=fun y hy=>by have:=iT (hl▸hy);omega
 obtain⟨L,hL⟩:∃L:Nat->Nat,L=fun i=>p+1+iH (((l.map (oN true)).take i).map bL.enc):=⟨_,rfl⟩;obtain⟨T,hT⟩:∃T:Nat->List (List D),T=fun i=>dO (((l.map (oN true)).take i).map bL.enc) (p+1):=⟨_,rfl⟩
 have hT0:T 0=[]:=by rw[hT];rfl
 have iI:∀i,(T i).length<=i:=fun i=>by rw[hT];simp only[jV,List.length_map];exact List.length_take_le _ _
 have hTr:∀i,∀r∈T i,r.length=4:=fun i=>by
  rw[hT]
  exact xQ fun r hr=>by
   obtain⟨z,_,rfl⟩:=List.mem_map.1 hr;exact z.cK
 have hTs:∀i (hi:i<l.length),T i++[eT (oN true l[i]).enc (L i)]=T (i+1):=fun i hi=>by
  have:=BK (e:=bL.enc) (l:=l.map (oN true)) (i:=i) (by rw[List.length_map];exact hi) (p+1);rw[List.getElem_map] at this;rw[hT,hL];exact this
 have hTe:T l.length=lPr F.aW (p+1):=by
  rw[hT];simp only
  rw[List.take_of_length_le (by simp),f4,hl];rfl
 clear hT hL;refine W3 ?_;refine aX c2 ?_;refine W1 ?_;refine W3 ?_;refine aX c3 ?_;refine W1 ?_;refine W3 ?_;refine aX c5 ?_;refine W1 ?_;refine W3 ?_;refine aX c6 ?_;refine W1 ?_;refine W3 ?_;rw[<-hl,<-f1];refine oH p 3 3 4 _ rfl rfl ?_
 refine aT (ι:=Nat×List (List D)) zmx rfl [1,2,5,39,40,41] (fun y=>[.c (.ptr (0,1) 0),.c (.ptr (0,2) 0),.c (.ptr (0,3) 0),.c (.d (.sl (l.map aj.enc))),.c (.d (.i .i64 l.length)),.c (.d (.i .i64 y.1))])
  (fun y=>[.seed n,.box [.d (.s x.aO),.d (.sl (x.ah.map aj.enc))],.box GR,.box [.d (.s F.fName),.d (.ol n (F.aG.map encS)),.d (.ol (n+1) (lB F.bY (n+1+1))),.bN (0,4) y.2,.d (.i .i64 F.bP.aK),.d (.s F.bP.fName),.d (.ol q (lt F.bP.fArgs (q+1))),
    .d (.i .i64 F.fBody.aK),.d (.s F.fBody.bC),.d (.s F.fBody.fName),.d (.i .i64 F.fBody.fN),.d (.i .i64 F.fBody.fType.aK),.d (.s F.fBody.fType.fName),.d (.ol r (lt F.fBody.fType.fArgs (r+1))),
    .d (.ol (r+(fZ F.fBody.fType.fArgs+1)) (lE F.fBody.fArgs (r+(fZ F.fBody.fType.fArgs+1)+1))),.d (.ol (r+(fZ F.fBody.fType.fArgs+1)+(lT F.fBody.fArgs+1)) (lM F.fBody.aQ (r+(fZ F.fBody.fType.fArgs+1)+(lT F.fBody.fArgs+1)+1)))],
    .fu p 4 y.2]::S)
  (fun y=>y.1<=l.length/\iR y.2 (T y.1)) (fun y=>l.length-y.1) (0,[]) rfl rfl ⟨Nat.zero_le _,by rw[hT0];exact .nil⟩ ?_
 rintro⟨i,U⟩ ⟨p1,p2⟩;simp only at p1 p2;have hU1:=p2.length;have hU2:=iI i;have hU3:=p2.rows (hTr i);refine W1 ?_;refine S0 (fun hb h=>?_) fun hb h=>?_
 ·have hi':i<l.length:=by omega
  have hz:=hlm _ (List.getElem_mem hi');have hs:=hTs i hi';have hz1:=eG l[i];refine W3 ?_;refine S0 (fun hb h=>?_) fun hb h=>?_
  ·have hl2:l[i].ah.length=2:=by omega
   have hb:=TY (b:=true) (y:=l[i]) (.inr hl2);have g1:l[i].ah.getD 1 bZ=l[i].ah[1]:=jF (by omega);rw[Yl,hb.1,hb.2,jL (by omega:0<l[i].ah.length),g1] at hs;have hz2:=xV l[i] (i:=1) (by omega);refine W3 ?_;refine C1 (rC l[i].ah[1] (L i) (by omega)) ?_;refine W3 ?_;refine bX 5 (by decide) (i+1,_) (by simp only;omega) rfl rfl rfl rfl ⟨by simp only;omega,?_⟩
   simp only
   rw[<-hs];exact p2.snoc (.refl _)
  ·have hl2:l[i].ah.length≠2:=by omega
   rw[Yl,adT hl2] at hs;refine bX 5 (by decide) (i+1,_) (by simp only;omega) rfl rfl rfl rfl ⟨by simp only;omega,?_⟩
   simp only
   rw[<-hs];exact p2.snoc (.cons (.refl _) (.cons (.refl _) (.cons (.refl _) (.cons (oV _) .nil))))
 ·have hi':i=l.length:=by omega
  subst hi';clear hTs;rw[hTe] at p2
  have hcl:Less (.agg [.d (.s F.fName),.d (.ol n (F.aG.map encS)),.d (.ol (n+1) (lB F.bY (n+1+1))),.d (.sl U),.d (.i .i64 F.bP.aK),.d (.s F.bP.fName),.d (.ol q (lt F.bP.fArgs (q+1))),
   .d (.i .i64 F.fBody.aK),.d (.s F.fBody.bC),.d (.s F.fBody.fName),.d (.i .i64 F.fBody.fN),.d (.i .i64 F.fBody.fType.aK),.d (.s F.fBody.fType.fName),.d (.ol r (lt F.fBody.fType.fArgs (r+1))),
   .d (.ol (r+(fZ F.fBody.fType.fArgs+1)) (lE F.fBody.fArgs (r+(fZ F.fBody.fType.fArgs+1)+1))),.d (.ol (r+(fZ F.fBody.fType.fArgs+1)+(lT F.fBody.fArgs+1)) (lM F.fBody.aQ (r+(fZ F.fBody.fType.fArgs+1)+(lT F.fBody.fArgs+1)+1)))]) F.v:=by
   have lab:∀(es:List (List D))(k j:Nat),pV (.d (.ol k (dO es j))) (.d (.sl es)):=fun es k j w σ S β v h=>(qx es j).rep (uG h);exact(fK.cons (.refl _) (.cons (Gv _ _) (.cons (lab _ _ _) (.cons (wu (p2.trans (qx _ _))) (.cons (.refl _) (.cons (.refl _) (.cons (lab _ _ _) (.cons (.refl _) (.cons (.refl _) (.cons (.refl _) (.cons (.refl _) (.cons (.refl _) (.cons (.refl _) (.cons (lab _ _ _) (.cons (lab _ _ _) (.cons (lab _ _ _) .nil)))))))))))))))).less
  rw[<-hF] at hds;refine oG (GN F (by omega)) (.cons hcl .nil) ?_;refine W1 ?_;refine S0 (fun hb h=>?_) fun hb h=>?_
  ·exact fU (aB fun e=>by rw[<-hF] at e;rw[e.2.2.1] at h;cases h)
  have hv:=h;have hz:=agA (yJ hv).2.2.2;refine W3 ?_;refine oG (aH.less (UJ F 0 hv (by omega)) (LH (Jm F) 0)) (.cons hcl .nil) ?_;refine W1 ?_;refine C1 (uz (Jm F) x (by omega)) ?_;refine S0 (fun hb h=>?_) fun hb h=>?_
  ·exact fU (aB fun e=>h (by rw[<-hF] at e;exact e.2.2.2))
  ·have hy:okF x=true:=by
    unfold okF;rw[<-hF];exact aZ ⟨hf.1,hf.2,hv,h⟩
   rw[aaY hy,hy,<-hF,<-hp,<-hq,<-hr0];exact(iw.cons (.cons (.refl _) (.cons (.refl _) (.cons (.refl _) (.cons (Iu p2) (.refl _))))) (.refl _)).less
def q2S(x:aM)(q:Nat):Nat:=q+(fZ x.aW+1)
def q3S(x:aM)(q:Nat):Nat:=q2S x q+(fZ x.bP.fArgs+1)
def T9(x:aM)(q:Nat):Nat:=q3S x q+1
theorem KZ(x:aM)(q:Nat):eT x.enc q=[.s x.fName,.ol q (lt x.aW (q+1)),.i .i64 x.bP.aK,.s x.bP.fName,.ol (q2S x q) (lt x.bP.fArgs (q2S x q+1)),.b x.gW,.ol (q3S x q) (x.aG.map encS),
 .i .i64 x.fBody.aK,.s x.fBody.bC,.s x.fBody.fName,.i .i64 x.fBody.fN,.i .i64 x.fBody.fType.aK,.s x.fBody.fType.fName,.ol (T9 x q) (lt x.fBody.fType.fArgs (T9 x q+1)),
 .ol (T9 x q+(fZ x.fBody.fType.fArgs+1)) (lE x.fBody.fArgs (T9 x q+(fZ x.fBody.fType.fArgs+1)+1)),.ol (T9 x q+(fZ x.fBody.fType.fArgs+1)+(lT x.fBody.fArgs+1)) (lM x.fBody.aQ (T9 x q+(fZ x.fBody.fType.fArgs+1)+(lT x.fBody.fArgs+1)+1))]:=by
 simp only[aM.aA,au.aA,ak.aA,List.cons_append,List.nil_append,eT,nL,qd,Nat.add_zero,lt,lE,lM,fZ,lT,q2S,q3S,T9,vG,xG,Nat.zero_add]
def aj7(l:List aM)(n:Nat):List (List D):=dO (l.map aM.enc) n
abbrev bA.cl(x:bA)(n:Nat):List C:=[.d (.s x.fName),.d (.ol n (x.bI.map encS)),.d (.b x.nH),.d (.b x.bD),.d (.ol (n+1) (aj7 x.aD (n+1+1)))]
abbrev bA.cv(x:bA):List C:=[.d (.s x.fName),.d (.sl (x.bI.map encS)),.d (.b x.nH),.d (.b x.bD),.d (.sl (x.aD.map aM.enc))]
theorem Yn(x:bA)(n:Nat):(eT x.enc n).map C.d=x.cl n:=by
 simp only[bA.aA,eT,nL,qd,Nat.add_zero,aj7,vG,xG,Nat.zero_add,List.map_cons,List.map_nil];rfl
theorem Yo(x:bA)(n:Nat):Less (.agg (x.cl n)) x.v:=by
 have:=Nn (r:=x.enc) (n:=n);rw[Yn,bA.vv] at this;exact this
theorem aaZ{x:aj}(h:yt x=false):vK x=KX:=if_neg (by rw[h];decide)
theorem Yp{x:aj}(h:yt x=true):vK x=sP true x:=if_pos h
abbrev GU:List C:=[.d (.s []),.bE [],.d (.b false),.d (.b false),.bE []]
theorem ap2(e:bA)(h:e=KX)(ok:Bool):Less (.dL [(true,GU),(false,[.d (.b ok)])]) (.dL [(true,e.cv),(false,[.d (.b ok)])]):=by
 rw[h];exact(iw.cons (.cons (.refl _) (.cons (eU _) (.cons (.refl _) (.cons (.refl _) (.cons (eU _) .nil))))) (.refl _)).less
theorem amG(e:bA)(h:e=KX)(n:Nat)(ok:Bool):Less (.dL [(true,GU),(false,[.d (.b ok)])]) (.dL [(true,e.cl n),(false,[.d (.b ok)])]):=by
 rw[h];exact(iw.cons (.cons (.refl _) (.cons (dR _) (.cons (.refl _) (.cons (.refl _) (.cons (dR _) .nil))))) (.refl _)).less
theorem Z8{y:aj}(h:y.ah.length=5):jM true y=⟨y.ah[0].aO,y.ah[1].ah.map (dN true),dN true y.ah[2],true,fq y.ah[3].ah,eY true y.ah[4]⟩:=by
 unfold jM;rw[if_neg (by omega),show yG true y.ah=true from decide_eq_true h,if_pos rfl,if_pos rfl,jL (by omega),jF (by omega:1<y.ah.length),jF (by omega:2<y.ah.length),jF (by omega:4<y.ah.length)];unfold o9;rw[jF (by omega:3<y.ah.length)]
theorem Z9{y:aj}(h:3<=y.ah.length)(h5:y.ah.length≠5):jM true y=⟨y.ah[0].aO,y.ah[1].ah.map (dN true),dN true y.ah[2],false,[],mF⟩:=by
 unfold jM;rw[if_neg (by omega),show yG true y.ah=false from decide_eq_false h5,if_neg (by decide),if_neg (by decide),jL (by omega),jF (by omega:1<y.ah.length),jF (by omega:2<y.ah.length)]
theorem aac{y:aj}(h:y.ah.length<3):jM true y=RU:=if_pos ⟨rfl,h⟩
theorem Yq{y:aj}(h:3<y.ah.length):jM false y=⟨(y.ah.getD 0 bZ).aO,(y.ah.getD 1 bZ).ah.map (dN false),dN false (y.ah.getD 2 bZ),true,fq (y.ah.getD 3 bZ).ah,eY false (y.ah.getD 4 bZ)⟩:=by
 unfold jM;rw[if_neg (by simp),show yG false y.ah=true from decide_eq_true h];rfl
theorem Yr{y:aj}(h:¬3<y.ah.length):jM false y=⟨(y.ah.getD 0 bZ).aO,(y.ah.getD 1 bZ).ah.map (dN false),dN false (y.ah.getD 2 bZ),false,[],mF⟩:=by
 unfold jM;rw[if_neg (by simp),show yG false y.ah=false from decide_eq_false h];rfl
theorem adU:mF.enc=[.i .i64 0,.s [],.s [],.i .i64 0,.i .i64 0,.s [],.sl [],.sl [],.sl []]:=by
 rw[au.aA];rfl
theorem Fv(x:aj){m:Nat}(h:x.sz<=m):(fq x.ah).length<=m:=by
 have:=(rY x.ah).1;have:=eG x;omega
theorem Yt(x:aj)(hsz:x.sz<=1048576):aH prog 143 [x.v] (.dL [(true,(vK x).cv),(false,[.d (.b (yt x))])]):=aH.of_le fun S=>by
 have h1:=eG x;have hds:=NK false x;have hos:=ajZ (x:=sP false x) (by omega);have hgs:=fun i=>vJ x i (m:=4194304) (by omega);obtain⟨l,hl⟩:∃l,l=x.ah.drop 4:=⟨_,rfl⟩
 have hll:l.length<=4194304:=by rw[hl,List.length_drop];omega
 have hlm:∀y∈l,y.sz<=4194304:=fun y hy=>by have:=iT (List.mem_of_mem_drop (hl▸hy));omega
 obtain⟨F,hF⟩:∃F,F=sP false x:=⟨_,rfl⟩
 have f1:F.fName=(x.ah.getD 1 bZ).aO:=by rw[hF];rfl
 have f2:F.bI=fq (x.ah.getD 2 bZ).ah:=by rw[hF];rfl
 have f3:F.nH=dec (uE∈fq (x.ah.getD 3 bZ).ah):=by rw[hF,<-kE];rfl
 have f4:F.bD=dec (iZ∈fq (x.ah.getD 3 bZ).ah):=by rw[hF,<-kE];rfl
 obtain⟨T,hT⟩:∃T:Nat->List (List D),T=fun i=>((l.map (jM false)).take i).map aM.enc:=⟨_,rfl⟩
 have hT0:T 0=[]:=by rw[hT];rfl
 have iI:∀i,(T i).length<=i:=fun i=>by rw[hT];simp only[List.length_map];exact List.length_take_le _ _
 have hTs:∀i (hi:i<l.length),T i++[(jM false l[i]).enc]=T (i+1):=fun i hi=>by
  have:=Du (e:=aM.enc) (l:=l.map (jM false)) (i:=i) (by rw[List.length_map];exact hi);rw[List.getElem_map] at this;rw[hT];exact this
 have hTe:T l.length=F.aD.map aM.enc:=by
  rw[hT];simp only
  rw[List.take_of_length_le (by simp),hF,hl];rfl
 clear hT
 have fU:yt x=false->Less (.dL [(true,GU),(false,[.d (.b false)])]) (.dL [(true,(vK x).cv),(false,[.d (.b (yt x))])]):=fun e=>by
  rw[e];exact ap2 _ (aaZ e) false
 have c2:=sN _ (hgs 2);have c3:=sG (fq (x.ah.getD 3 bZ).ah) uE (by have:=Fv _ (hgs 3);omega);have c4:=sG (fq (x.ah.getD 3 bZ).ah) iZ (by have:=Fv _ (hgs 3);omega);rw[<-f2] at c2;rw[<-f3] at c3;rw[<-f4] at c4;refine zcx [.cell 2 107,.tmp 3] func143 ntmps143 ?_;refine W1 ?_;refine C1 (fM x 3 (by omega) (by omega)) ?_;refine C1 (sN _ (hgs 3)) ?_;refine C1 (fM x 1 (by omega) (by omega)) ?_;refine C1 (fM x 2 (by omega) (by omega)) ?_;refine aX c2 ?_;refine W1 ?_;refine aX c3 ?_;refine W1 ?_;refine aX c4 ?_;refine W1 ?_;refine W3 ?_;refine C1 (yF x 4 (by omega)) ?_;rw[<-hl,<-f1];refine pE 2 4 16 _ rfl rfl ?_
 refine aT (ι:=Nat) zmx rfl [1,2,5,6,7] (fun i=>[.c (.ptr (0,0) 0),.c (.ptr (0,1) 0),.c (.ptr (0,2) 0),.c (.d (.sl (l.map aj.enc))),.c (.d (.i .i64 i))])
  (fun i=>[.box [.d (.s x.aO),.d (.sl (x.ah.map aj.enc))],.box GU,.box [.d (.s F.fName),.d (.sl (F.bI.map encS)),.d (.b F.nH),.d (.b F.bD),.bN (0,3) (T i)],.tok 16 (T i)]::S)
  (fun i=>i<=l.length) (fun i=>l.length-i) 0 rfl (by rw[hT0];rfl) (Nat.zero_le _) ?_
 intro i hi;have hl':=iI i;refine W1 ?_;refine S0 (fun hb h=>?_) fun hb h=>?_
 ·have hi':i<l.length:=by omega
  have hz:=hlm _ (List.getElem_mem hi');have hs:=hTs i hi';have hg:=fun k=>vJ l[i] k hz;have hg1:=hg 1;have as6:=eG (l[i].ah.getD 1 bZ);have hz1:=eG l[i];refine W3 ?_;refine C1 (fM l[i] 0 hz (by omega)) ?_;refine W3 ?_;refine C1 (fM l[i] 1 hz (by omega)) ?_;refine C1 (Jl (l[i].ah.getD 1 bZ).ah (by omega) (fun t ht=>by have:=iT ht;omega)) ?_;refine W3 ?_;refine C1 (fM l[i] 2 hz (by omega)) ?_;refine C1 (qO (l[i].ah.getD 2 bZ) (hg 2)) ?_;refine W3 ?_;refine S0 (fun hb h=>?_) fun hb h=>?_
  ·rw[Yq (by omega)] at hs;simp only[aM.aA,au.aA,ak.aA,List.cons_append,List.nil_append] at hs;refine W3 ?_;refine C1 (fM l[i] 3 hz (by omega)) ?_;refine C1 (sN _ (hg 3)) ?_;refine W3 ?_;refine C1 (fM l[i] 4 hz (by omega)) ?_;refine C1 (FT (l[i].ah.getD 4 bZ) (hg 4)) ?_;refine W3 ?_;rw[hs];exact bX 4 (by decide) (i+1) (by omega) rfl rfl rfl rfl (by omega)
  ·rw[Yr (by omega)] at hs;simp only[aM.aA,adU,ak.aA,List.cons_append,List.nil_append,List.map_nil] at hs;refine W3 ?_;rw[hs];exact bX 4 (by decide) (i+1) (by omega) rfl rfl rfl rfl (by omega)
 ·have hi':i=l.length:=by omega
  subst hi';rw[hTe];clear hTs;refine C1 (pz x (by omega)) ?_;refine S0 (fun hb h=>?_) fun hb h=>?_
  ·exact fU (aB fun e=>by rw[e.1] at h;cases h)
  have hv:=h;refine S0 (fun hb h=>?_) fun hb h=>?_
  ·exact fU (aB fun e=>by omega)
  have hne:x.ah≠[]:=fun e=>by rw[e] at h;exact h rfl
  have hok:=agM hne;rw[hv,Bool.true_and] at hok;rw[<-hF] at hok hos hds;refine W3 ?_;refine C1 (agI F (by omega)) ?_;refine C1 (uy (Qt F) x (by omega)) ?_;refine S0 (fun hb h=>?_) fun hb h=>?_
  ·exact fU (by rw[hok];exact aB h)
  ·have hy:yt x=true:=by rw[hok];exact aZ h
   rw[Yp hy,hy,<-agN hy,<-hF];exact gy _
theorem NM(x:aj)(n:Nat)(hfo:iO x=true)(hlen:4<=x.ah.length)(hsz:x.sz<=1048576):aH prog 217 [x.v] (.agg ((sP true x).cl n)):=aH.of_le fun S=>by
 have h1:=eG x;obtain⟨F,hF⟩:∃F,F=sP true x:=⟨_,rfl⟩;have hr:=gV (l:=x.ah);have hzs:=fun i hi=>xV x (i:=i) hi;have hz2:=hzs 2 (by omega);have hz3:=hzs 3 (by omega)
 have f1:F.fName=x.ah[1].aO:=by rw[hF];exact jL (by omega)
 have f2:F.bI=fq x.ah[2].ah:=by rw[hF,<-jF (l:=x.ah) (i:=2) (by omega)];rfl
 have f3:F.nH=dec (uE∈fq x.ah[3].ah):=by rw[hF,<-kE,<-jF (l:=x.ah) (i:=3) (by omega)];rfl
 have f4:F.bD=dec (iZ∈fq x.ah[3].ah):=by rw[hF,<-kE,<-jF (l:=x.ah) (i:=3) (by omega)];rfl
 obtain⟨l,hl⟩:∃l,l=x.ah.drop 4:=⟨_,rfl⟩
 have hll:l.length<=4194304:=by rw[hl,List.length_drop];omega
 have hlm:∀y∈l,y.sz<=1048576/\iO y=true:=fun y hy=>by
  have h2:=List.mem_of_mem_drop (hl▸hy);have:=iT h2;exact⟨by omega,xH (Fh hfo (fun e=>by rw[e] at h2;cases h2)) h2⟩
 obtain⟨L,hL⟩:∃L:Nat->Nat,L=fun i=>n+1+1+iH (((l.map (jM true)).take i).map aM.enc):=⟨_,rfl⟩;obtain⟨T,hT⟩:∃T:Nat->List (List D),T=fun i=>dO (((l.map (jM true)).take i).map aM.enc) (n+1+1):=⟨_,rfl⟩
 have hT0:T 0=[]:=by rw[hT];rfl
 have iI:∀i,(T i).length<=i:=fun i=>by rw[hT];simp only[jV,List.length_map];exact List.length_take_le _ _
 have hTr:∀i,∀r∈T i,r.length=16:=fun i=>by
  rw[hT]
  exact xQ fun r hr=>by
   obtain⟨z,_,rfl⟩:=List.mem_map.1 hr;exact z.cK
 have hTs:∀i (hi:i<l.length),T i++[eT (jM true l[i]).enc (L i)]=T (i+1):=fun i hi=>by
  have:=BK (e:=aM.enc) (l:=l.map (jM true)) (i:=i) (by rw[List.length_map];exact hi) (n+1+1);rw[List.getElem_map] at this;rw[hT,hL];exact this
 have hTe:T l.length=aj7 F.aD (n+1+1):=by
  rw[hT];simp only
  rw[List.take_of_length_le (by simp),hF,hl];rfl
 clear hT hL;have c2:=rA x.ah[2] (by omega) n;have c3:=sH (fq x.ah[3].ah) uE (by have:=Fv _ hz3;omega);have c4:=sH (fq x.ah[3].ah) iZ (by have:=Fv _ hz3;omega);rw[<-f2] at c2;rw[<-f3] at c3;rw[<-f4] at c4;rw[<-hF];refine lY (n) (rs:=[.cell 2 107]) zmx func217 ntmps217 rfl rfl rfl rfl rfl ?_;refine W1 ?_;refine W3 ?_;refine C1 (rA x.ah[3] (by omega) 0) ?_;refine W3 ?_;refine aX c2 ?_;refine W1 ?_;refine oG c3 (.cons (LV _ _) (.cons (gy _) .nil)) ?_;refine W1 ?_;refine oG c4 (.cons (LV _ _) (.cons (gy _) .nil)) ?_;refine W1 ?_;refine⟨⟨by omega,by omega,hr⟩,?_⟩;rw[pG _ _ _ (Nat.le_refl _),<-hl,<-f1];refine W1 ?_;refine oH (n+1) 3 4 16 _ rfl rfl ?_
 refine aT (ι:=Nat×List (List D)) zmx rfl [2,4,30,31,32] (fun y=>[.c (.ptr (0,2) 0),.c (.ptr (0,3) 0),.c (.d (.sl (l.map aj.enc))),.c (.d (.i .i64 l.length)),.c (.d (.i .i64 y.1))])
  (fun y=>[.seed n,.box [.d (.s x.aO),.d (.sl (x.ah.map aj.enc))],.box GU,.box [.d (.s F.fName),.d (.ol n (F.bI.map encS)),.d (.b F.nH),.d (.b F.bD),.bN (0,4) y.2],.fu (n+1) 16 y.2]::S)
  (fun y=>y.1<=l.length/\iR y.2 (T y.1)) (fun y=>l.length-y.1) (0,[]) rfl rfl ⟨Nat.zero_le _,by rw[hT0];exact .nil⟩ ?_
 rintro⟨i,U⟩ ⟨p1,p2⟩;simp only at p1 p2;have hU1:=p2.length;have hU2:=iI i;have hU3:=p2.rows (hTr i);refine W1 ?_;refine S0 (fun hb h=>?_) fun hb h=>?_
 ·have hi':i<l.length:=by omega
  obtain⟨hz,hfy⟩:=hlm _ (List.getElem_mem hi');have hs:=hTs i hi';have hz1:=eG l[i];refine W3 ?_;refine S0 (fun hb h=>?_) fun hb h=>?_
  ·have hl3:3<=l[i].ah.length:=by omega
   have hy1:=xV l[i] (i:=1) (by omega);have as7:=eG l[i].ah[1];have hy2:=xV l[i] (i:=2) (by omega);refine W3 ?_;refine C1 (GJ l[i].ah[1].ah (L i) (L i+1) (by omega) (fun t ht=>by have:=iT ht;omega)) ?_;refine W3 ?_;refine C1 (rC l[i].ah[2] (q2S (jM true l[i]) (L i)) (by omega)) ?_;refine W3 ?_;refine S0 (fun hb h=>?_) fun hb h=>?_
   ·have hl5:l[i].ah.length=5:=by omega
    have hy3:=xV l[i] (i:=3) (by omega);have hy4:=xV l[i] (i:=4) (by omega);have hd:=Z8 hl5;refine W3 ?_;refine C1 (rA l[i].ah[3] (by omega) (q3S (jM true l[i]) (L i))) ?_;refine W3 ?_;refine C1 (EA l[i].ah[4] (T9 (jM true l[i]) (L i)) (R3 hfy (by omega)) (by omega)) ?_;refine W3 ?_;rw[KZ] at hs;obtain⟨g,hg⟩:∃g,g=jM true l[i]:=⟨_,rfl⟩;rw[<-hg] at hs hd ⊢
    have e1:g.fName=l[i].ah[0].aO:=by rw[hd]
    have e2:g.aW=l[i].ah[1].ah.map (dN true):=by rw[hd]
    have e3:g.bP=dN true l[i].ah[2]:=by rw[hd]
    have e4:g.gW=true:=by rw[hd]
    have e5:g.aG=fq l[i].ah[3].ah:=by rw[hd]
    have e6:g.fBody=eY true l[i].ah[4]:=by rw[hd]
    rw[e1,e2,e3,e4,e5,e6] at hs;refine bX 5 (by decide) (i+1,_) (by simp only;omega) rfl rfl rfl rfl ⟨by simp only;omega,?_⟩
    simp only
    rw[<-hs];exact p2.snoc (.refl _)
   ·have hd:=Z9 hl3 (by omega);refine W3 ?_;rw[KZ] at hs;obtain⟨g,hg⟩:∃g,g=jM true l[i]:=⟨_,rfl⟩;rw[<-hg] at hs hd ⊢
    have e1:g.fName=l[i].ah[0].aO:=by rw[hd]
    have e2:g.aW=l[i].ah[1].ah.map (dN true):=by rw[hd]
    have e3:g.bP=dN true l[i].ah[2]:=by rw[hd]
    have e4:g.gW=false:=by rw[hd]
    have e5:g.aG=[]:=by rw[hd]
    have e6:g.fBody=mF:=by rw[hd]
    rw[e1,e2,e3,e4,e5,e6] at hs;refine bX 5 (by decide) (i+1,_) (by simp only;omega) rfl rfl rfl rfl ⟨by simp only;omega,?_⟩
    simp only
    rw[<-hs];exact p2.snoc (.cons (.refl _) (.cons (.refl _) (.cons (.refl _) (.cons (.refl _) (.cons (.refl _) (.cons (.refl _) (.cons (oV _) (.cons (.refl _) (.cons (.refl _) (.cons (.refl _) (.cons (.refl _) (.cons (.refl _) (.cons (.refl _) (.cons (oV _) (.cons (oV _) (.cons (oV _) .nil))))))))))))))))
  ·have hd:=aac (y:=l[i]) (by omega);refine S0 (fun hb h=>?_) fun hb h=>?_
   ·omega
   ·refine W3 ?_;rw[hd,KZ] at hs;refine bX 5 (by decide) (i+1,_) (by simp only;omega) rfl rfl rfl rfl ⟨by simp only;omega,?_⟩
    simp only
    rw[<-hs];exact p2.snoc (.cons (.refl _) (.cons (oV _) (.cons (.refl _) (.cons (.refl _) (.cons (oV _) (.cons (.refl _) (.cons (oV _) (.cons (.refl _) (.cons (.refl _) (.cons (.refl _) (.cons (.refl _) (.cons (.refl _) (.cons (.refl _) (.cons (oV _) (.cons (oV _) (.cons (oV _) .nil))))))))))))))))
 ·have hi':i=l.length:=by omega
  subst hi';rw[hTe] at p2;exact(fK.cons (.refl _) (.cons (.refl _) (.cons (.refl _) (.cons (.refl _) (.cons (Iu p2) .nil))))).less
theorem UN(x:aj)(n:Nat)(hsz:x.sz<=1048576):aH prog 153 [x.v] (.dL [(true,(vK x).cl n),(false,[.d (.b (yt x))])]):=aH.of_le fun S=>by
 have hds:=NK true x
 have fU:yt x=false->Less (.dL [(true,GU),(false,[.d (.b false)])]) (.dL [(true,(vK x).cl n),(false,[.d (.b (yt x))])]):=fun e=>by
  rw[e];exact amG _ (aaZ e) n false
 refine zcx [.cell 2 107,.tmp 3] func153 ntmps153 ?_;refine W1 ?_;refine C1 (vI x kr 4 (by omega) (by omega) (by omega)) ?_;refine S0 (fun hb h=>?_) fun hb h=>?_
 ·exact fU (aB fun e=>h ⟨e.1,e.2.1.1,e.2.1.2⟩)
 have hf:=h;have Jh:=tC hf.1
 have hfo:iO x=true:=by have:=hf.1;unfold fQ at this;rw[Bool.and_eq_true] at this;exact this.1
 refine C1 (NM x n hfo hf.2.1 (by omega)) ?_;refine oG (Db (sP true x) (by omega)) (.cons (Yo _ n) .nil) ?_;refine W1 ?_;refine S0 (fun hb h=>?_) fun hb h=>?_
 ·exact fU (aB fun e=>by rw[e.2.2.1] at h;cases h)
 have hv:=h;have hz:=LW hv;refine W3 ?_;refine oG (aH.less (UK (sP true x) 0 hv (by omega)) (LH (rV (sP true x)) 0)) (.cons (Yo _ n) .nil) ?_;refine W1 ?_;refine C1 (uz (rV (sP true x)) x (by omega)) ?_;refine S0 (fun hb h=>?_) fun hb h=>?_
 ·exact fU (aB fun e=>h e.2.2.2)
 ·have hy:yt x=true:=aZ ⟨hf.1,hf.2,hv,h⟩;rw[Yp hy,hy];exact gy _
theorem Yu(x:bq)(n:Nat):eT x.enc n=[.s x.fName,.ol n (x.aG.map encS),.i .i64 x.fBody.aK,.s x.fBody.bC,.s x.fBody.fName,.i .i64 x.fBody.fN,.i .i64 x.fBody.fType.aK,.s x.fBody.fType.fName,.ol (n+1) (lt x.fBody.fType.fArgs (n+1+1)),
 .ol (n+1+(fZ x.fBody.fType.fArgs+1)) (lE x.fBody.fArgs (n+1+(fZ x.fBody.fType.fArgs+1)+1)),.ol (n+1+(fZ x.fBody.fType.fArgs+1)+(lT x.fBody.fArgs+1)) (lM x.fBody.aQ (n+1+(fZ x.fBody.fType.fArgs+1)+(lT x.fBody.fArgs+1)+1))]:=by
 simp only[bq.aA,au.aA,ak.aA,List.cons_append,List.nil_append,eT,nL,qd,Nat.add_zero,lt,lE,lM,fZ,lT,vG,xG,Nat.zero_add]
def lMe(l:List bq)(n:Nat):List (List D):=dO (l.map bq.enc) n
def pI(x:aP)(n:Nat):Nat:=n+1+(fZ x.bQ.fArgs+1)
def qI(x:aP)(n:Nat):Nat:=pI x n+(Vh x.bY+1)
def rI(x:aP)(n:Nat):Nat:=qI x n+(fZ x.bD.fArgs+1)
abbrev aP.cl(x:aP)(n p q r:Nat):List C:=[.d (.s x.bC),.d (.ol n (x.aG.map encS)),.d (.i .i64 x.bQ.aK),.d (.s x.bQ.fName),.d (.ol (n+1) (lt x.bQ.fArgs (n+1+1))),.d (.ol p (lB x.bY (p+1))),.d (.b x.gJ),.d (.b x.dX),
 .d (.i .i64 x.bD.aK),.d (.s x.bD.fName),.d (.ol q (lt x.bD.fArgs (q+1))),.d (.ol r (lMe x.aJ (r+1)))]
abbrev aP.cv(x:aP):List C:=[.d (.s x.bC),.d (.sl (x.aG.map encS)),.d (.i .i64 x.bQ.aK),.d (.s x.bQ.fName),.d (.sl (x.bQ.fArgs.map ak.enc)),.d (.sl (x.bY.map bn.enc)),.d (.b x.gJ),.d (.b x.dX),
 .d (.i .i64 x.bD.aK),.d (.s x.bD.fName),.d (.sl (x.bD.fArgs.map ak.enc)),.d (.sl (x.aJ.map bq.enc))]
theorem amH(x:aP)(n:Nat):(eT x.enc n).map C.d=x.cl n (pI x n) (qI x n) (rI x n):=by
 simp only[aP.aA,ak.aA,List.cons_append,List.nil_append,eT,nL,qd,Nat.add_zero,lt,lB,lMe,fZ,Vh,pI,qI,rI,vG,xG,Nat.zero_add,List.map_cons,List.map_nil];rfl
theorem Yv{x:aj}(h:zC x=false):rJ x=LU:=if_neg (by rw[h];decide)
theorem aa0{x:aj}(h:zC x=true):rJ x=Bc true x:=if_pos h
abbrev xM:List C:=[.d (.s []),.bE [],.d (.i .i64 0),.d (.s []),.bE [],.bE [],.d (.b false),.d (.b false),.d (.i .i64 0),.d (.s []),.bE [],.bE []]
theorem arY(e:aP)(h:e=LU)(ok:Bool):Less (.dL [(true,xM),(false,[.d (.b ok)])]) (.dL [(true,e.cv),(false,[.d (.b ok)])]):=by
 rw[h];exact(iw.cons (.cons (.refl _) (.cons (eU _) (.cons (.refl _) (.cons (.refl _) (.cons (eU _) (.cons (eU _) (.cons (.refl _) (.cons (.refl _) (.cons (.refl _) (.cons (.refl _) (.cons (eU _) (.cons (eU _) .nil)))))))))))) (.refl _)).less
theorem agZ(e:aP)(h:e=LU)(n p q r:Nat)(ok:Bool):Less (.dL [(true,xM),(false,[.d (.b ok)])]) (.dL [(true,e.cl n p q r),(false,[.d (.b ok)])]):=by
 rw[h];exact(iw.cons (.cons (.refl _) (.cons (dR _) (.cons (.refl _) (.cons (.refl _) (.cons (dR _) (.cons (dR _) (.cons (.refl _) (.cons (.refl _) (.cons (.refl _) (.cons (.refl _) (.cons (dR _) (.cons (dR _) .nil)))))))))))) (.refl _)).less
theorem Yw{b:Bool}{y:aj}(h:b=false\/y.ah.length=3):tV b y=⟨(y.ah.getD 0 bZ).aO,fq (y.ah.getD 1 bZ).ah,eY b (y.ah.getD 2 bZ)⟩:=by
 unfold tV;rw[if_neg (by rintro⟨e1,e2⟩;rcases h with e|e;(rw[e] at e1;cases e1);exact e2 e)];rfl
theorem ag0{y:aj}(h:y.ah.length≠3):tV true y=⟨[],[],mF⟩:=if_pos ⟨rfl,h⟩
theorem aad(x:aj)(hsz:x.sz<=1048576):aH prog 145 [x.v] (.dL [(true,(rJ x).cv),(false,[.d (.b (zC x))])]):=aH.of_le fun S=>by
 have h1:=eG x;have hds:=RQ false x;have hos:=amv (x:=Bc false x) (by omega);have hgs:=fun i=>vJ x i (m:=4194304) (by omega);obtain⟨l,hl⟩:∃l,l=x.ah.drop 7:=⟨_,rfl⟩
 have hll:l.length<=4194304:=by rw[hl,List.length_drop];omega
 have hlm:∀y∈l,y.sz<=4194304:=fun y hy=>by have:=iT (List.mem_of_mem_drop (hl▸hy));omega
 obtain⟨F,hF⟩:∃F,F=Bc false x:=⟨_,rfl⟩;obtain⟨z,Ua⟩:∃z,z=x.ah.getD 6 bZ:=⟨_,rfl⟩;have hzz:=hgs 6;rw[<-Ua] at hzz
 have f1:F.bC=(x.ah.getD 1 bZ).aO:=by rw[hF];rfl
 have f2:F.aG=fq (x.ah.getD 2 bZ).ah:=by rw[hF];rfl
 have f3:F.bQ=dN false (x.ah.getD 3 bZ):=by rw[hF];rfl
 have f4:F.bY=(x.ah.getD 4 bZ).ah.map (oM false):=by rw[hF];rfl
 have f5:F.gJ=decide ((0:Int)<((x.ah.getD 5 bZ).ah.length:Int)):=by rw[hF];show decide (0<(x.ah.getD 5 bZ).ah.length)=_;exact decide_eq_decide.2 (by omega)
 have f6:F.dX=decide (0<z.ah.length):=by rw[hF,Ua];rfl
 have f7:F.bD=if 0<z.ah.length then dN false (gX z.ah 0) else jh:=by rw[hF,Ua];rfl
 obtain⟨T,hT⟩:∃T:Nat->List (List D),T=fun i=>((l.map (tV false)).take i).map bq.enc:=⟨_,rfl⟩
 have hT0:T 0=[]:=by rw[hT];rfl
 have iI:∀i,(T i).length<=i:=fun i=>by rw[hT];simp only[List.length_map];exact List.length_take_le _ _
 have hTs:∀i (hi:i<l.length),T i++[(tV false l[i]).enc]=T (i+1):=fun i hi=>by
  have:=Du (e:=bq.enc) (l:=l.map (tV false)) (i:=i) (by rw[List.length_map];exact hi);rw[List.getElem_map] at this;rw[hT];exact this
 have hTe:T l.length=F.aJ.map bq.enc:=by
  rw[hT];simp only
  rw[List.take_of_length_le (by simp),hF,hl];rfl
 clear hT
 have fU:zC x=false->Less (.dL [(true,xM),(false,[.d (.b false)])]) (.dL [(true,(rJ x).cv),(false,[.d (.b (zC x))])]):=fun e=>by
  rw[e];exact arY _ (Yv e) false
 have c2:=sN _ (hgs 2);have c3:=qO (x.ah.getD 3 bZ) (hgs 3);have c4:=Jp _ (hgs 4);rw[<-f2] at c2;rw[<-f3] at c3;rw[<-f4] at c4;refine(show Hold ?T->_ from fun tail=> ?main) ?tp
 case' main=>
  refine zcx [.cell 2 116,.tmp 3] func145 ntmps145 ?_;refine W1 ?_;refine C1 (fM x 1 (by omega) (by omega)) ?_;refine C1 (fM x 2 (by omega) (by omega)) ?_;refine aX c2 ?_;refine W1 ?_;refine C1 (fM x 3 (by omega) (by omega)) ?_;refine aX c3 ?_;refine W1 ?_;refine C1 (fM x 4 (by omega) (by omega)) ?_;refine aX c4 ?_;refine W1 ?_;refine C1 (fM x 5 (by omega) (by omega)) ?_;refine W3 ?_;refine C1 (fM x 6 (by omega) (by omega)) ?_;rw[<-Ua];refine S0 (fun hb h=>?_) fun hb h=>?_
  ·have hpos:0<z.ah.length:=by omega
   rw[if_pos hpos,jF hpos] at f7;have hz0:=xV z hpos;have c7:=qO z.ah[0] (by omega);rw[<-f7] at c7;have Yx:F.dX=true:=f6.trans (decide_eq_true hpos);refine W3 ?_;refine aX c7 ?_;refine W1 ?_;refine W3 ?_;refine C1 (yF x 7 (by omega)) ?_;rw[<-hl,<-f1,<-f5];refine pE 2 11 11 _ rfl rfl ?_
   refine oD (st':=[.box [.d (.s x.aO),.d (.sl (x.ah.map aj.enc))],.box xM,.box [.d (.s F.bC),.d (.sl (F.aG.map encS)),.d (.i .i64 F.bQ.aK),.d (.s F.bQ.fName),.d (.sl (F.bQ.fArgs.map ak.enc)),.d (.sl (F.bY.map bn.enc)),.d (.b F.gJ),.d (.b F.dX),.d (.i .i64 F.bD.aK),.d (.s F.bD.fName),.d (.sl (F.bD.fArgs.map ak.enc)),.bN (0,4) []],
    .box [.d (.s z.aO),.d (.sl (z.ah.map aj.enc))],.tok 11 []]::S) [1,2,4,6,7] [.c (.ptr (0,0) 0),.c (.ptr (0,1) 0),.c (.ptr (0,2) 0),.c (.d (.sl (l.map aj.enc))),.c (.d (.i .i64 0))] ?_ ?_ ?_
   ·rfl
   ·rw[Yx];rfl
   ·exact tail.out
  ·have hpos:¬0<z.ah.length:=by omega
   rw[if_neg hpos] at f7;have Yx:F.dX=false:=f6.trans (decide_eq_false hpos);refine C1 (yF x 7 (by omega)) ?_;rw[<-hl,<-f1,<-f5];refine Ir 2 _ _ rfl (E8 (eU []) 10 _ rfl) ?_;refine pE 2 11 11 _ rfl rfl ?_
   refine oD (st':=[.box [.d (.s x.aO),.d (.sl (x.ah.map aj.enc))],.box xM,.box [.d (.s F.bC),.d (.sl (F.aG.map encS)),.d (.i .i64 F.bQ.aK),.d (.s F.bQ.fName),.d (.sl (F.bQ.fArgs.map ak.enc)),.d (.sl (F.bY.map bn.enc)),.d (.b F.gJ),.d (.b F.dX),.d (.i .i64 F.bD.aK),.d (.s F.bD.fName),.d (.sl (F.bD.fArgs.map ak.enc)),.bN (0,4) []],
    .box [.d (.s z.aO),.d (.sl (z.ah.map aj.enc))],.tok 11 []]::S) [1,2,4,6,7] [.c (.ptr (0,0) 0),.c (.ptr (0,1) 0),.c (.ptr (0,2) 0),.c (.d (.sl (l.map aj.enc))),.c (.d (.i .i64 0))] ?_ ?_ ?_
   ·rfl
   ·rw[Yx,f7];rfl
   ·exact tail.out
 refine⟨?_⟩
 refine aT (ι:=Nat) zmx rfl [1,2,4,6,7] (fun i=>[.c (.ptr (0,0) 0),.c (.ptr (0,1) 0),.c (.ptr (0,2) 0),.c (.d (.sl (l.map aj.enc))),.c (.d (.i .i64 i))])
  (fun i=>[.box [.d (.s x.aO),.d (.sl (x.ah.map aj.enc))],.box xM,.box [.d (.s F.bC),.d (.sl (F.aG.map encS)),.d (.i .i64 F.bQ.aK),.d (.s F.bQ.fName),.d (.sl (F.bQ.fArgs.map ak.enc)),.d (.sl (F.bY.map bn.enc)),.d (.b F.gJ),.d (.b F.dX),.d (.i .i64 F.bD.aK),.d (.s F.bD.fName),.d (.sl (F.bD.fArgs.map ak.enc)),.bN (0,4) (T i)],
    .box [.d (.s z.aO),.d (.sl (z.ah.map aj.enc))],.tok 11 (T i)]::S)
  (fun i=>i<=l.length) (fun i=>l.length-i) 0 rfl (by rw[hT0]) (Nat.zero_le _) ?_
 intro i hi;have hl':=iI i;refine W1 ?_;refine S0 (fun hb h=>?_) fun hb h=>?_
 ·have hi':i<l.length:=by omega
  have hz:=hlm _ (List.getElem_mem hi');have hs:=hTs i hi';have hg:=fun k=>vJ l[i] k hz;rw[Yw (b:=false) (.inl rfl)] at hs;simp only[bq.aA,au.aA,ak.aA,List.cons_append,List.nil_append] at hs;refine W3 ?_;refine C1 (fM l[i] 0 hz (by omega)) ?_;refine W3 ?_;refine C1 (fM l[i] 1 hz (by omega)) ?_;refine C1 (sN _ (hg 1)) ?_;refine W3 ?_;refine C1 (fM l[i] 2 hz (by omega)) ?_;refine C1 (FT (l[i].ah.getD 2 bZ) (hg 2)) ?_;refine W3 ?_;rw[hs];exact bX 5 (by decide) (i+1) (by omega) rfl rfl rfl rfl (by omega)
 ·have hi':i=l.length:=by omega
  subst hi';rw[hTe];clear hTs;refine C1 (pz x (by omega)) ?_;refine S0 (fun hb h=>?_) fun hb h=>?_
  ·exact fU (aB fun e=>by rw[e.1] at h;cases h)
  have hv:=h;refine S0 (fun hb h=>?_) fun hb h=>?_
  ·exact fU (aB fun e=>by omega)
  have hne:x.ah≠[]:=fun e=>by rw[e] at h;exact h rfl
  have hok:=ajW hne;rw[hv,Bool.true_and] at hok;rw[<-hF] at hok hos hds;refine W3 ?_;refine C1 (ajU F (by omega)) ?_;refine C1 (uy (Ye F) x (by omega)) ?_;refine S0 (fun hb h=>?_) fun hb h=>?_
  ·exact fU (by rw[hok];exact aB h)
  ·have hy:zC x=true:=by rw[hok];exact aZ h
   rw[aa0 hy,hy,<-ajX hy,<-hF];exact gy _
theorem Yy(x:aj)(n:Nat)(hsz:x.sz<=1048576)(hf:fQ x=true/\7<=x.ah.length/\dJ x.ah 0=lu):aH prog 155 [x.v] (.dL [(true,(rJ x).cl n (pI (rJ x) n) (qI (rJ x) n) (rI (rJ x) n)),(false,[.d (.b (zC x))])]):=aH.of_le fun S=>by
 have h1:=eG x;have hds:=RQ true x;obtain⟨F,hF⟩:∃F,F=Bc true x:=⟨_,rfl⟩;obtain⟨p,hp⟩:∃p,p=pI F n:=⟨_,rfl⟩;obtain⟨q,hq⟩:∃q,q=qI F n:=⟨_,rfl⟩;obtain⟨r,hr0⟩:∃r,r=rI F n:=⟨_,rfl⟩
 have fU:zC x=false->Less (.dL [(true,xM),(false,[.d (.b false)])]) (.dL [(true,(rJ x).cl n (pI (rJ x) n) (qI (rJ x) n) (rI (rJ x) n)),(false,[.d (.b (zC x))])]):=fun e=>by
  rw[e];exact agZ _ (Yv e) n _ _ _ false
 have Jh:=tC hf.1
 have hfo:iO x=true:=by have:=hf.1;unfold fQ at this;rw[Bool.and_eq_true] at this;exact this.1
 have hlen:7<=x.ah.length:=hf.2.1;have hr:=gV (l:=x.ah)
 have f1:F.bC=x.ah[1].aO:=by rw[hF];exact jL (by omega)
 have f2:F.aG=fq x.ah[2].ah:=by rw[hF,<-jF (l:=x.ah) (i:=2) (by omega)];rfl
 have f3:F.bQ=dN true x.ah[3]:=by rw[hF,<-jF (l:=x.ah) (i:=3) (by omega)];rfl
 have f4:F.bY=x.ah[4].ah.map (oM true):=by rw[hF,<-jF (l:=x.ah) (i:=4) (by omega)];rfl
 have f5:F.gJ=decide ((0:Int)<(x.ah[5].ah.length:Int)):=by rw[hF,<-jF (l:=x.ah) (i:=5) (by omega)];show decide (0<(x.ah.getD 5 bZ).ah.length)=_;exact decide_eq_decide.2 (by show _<->((0:Int)<((x.ah.getD 5 bZ).ah.length:Int));omega)
 obtain⟨z,Ua⟩:∃z,z=x.ah[6]:=⟨_,rfl⟩
 have f6:F.dX=decide (0<z.ah.length):=by rw[hF,Ua,<-jF (l:=x.ah) (i:=6) (by omega)];rfl
 have f7:F.bD=if 0<z.ah.length then dN true (gX z.ah 0) else jh:=by rw[hF,Ua,<-jF (l:=x.ah) (i:=6) (by omega)];rfl
 have hzs:=fun i hi=>xV x (i:=i) hi;have hzz:=hzs 6 (by omega);subst Ua;have c2:=rA x.ah[2] (by have:=hzs 2 (by omega);omega) n;have c3:=rC x.ah[3] (n+1) (by have:=hzs 3 (by omega);omega);have c4:=Jq x.ah[4] p (p+1) (by have:=hzs 4 (by omega);omega);rw[<-f2] at c2;rw[<-f3] at c3;rw[<-f4] at c4;obtain⟨l,hl⟩:∃l,l=x.ah.drop 7:=⟨_,rfl⟩
 have hll:l.length<=4194304:=by rw[hl,List.length_drop];omega
 have hlm:∀y∈l,y.sz<=1048576/\iO y=true:=fun y hy=>by
  have h2:=List.mem_of_mem_drop (hl▸hy);have:=iT h2;exact⟨by omega,xH (Fh hfo (fun e=>by rw[e] at h2;cases h2)) h2⟩
 obtain⟨L,hL⟩:∃L:Nat->Nat,L=fun i=>r+1+iH (((l.map (tV true)).take i).map bq.enc):=⟨_,rfl⟩;obtain⟨T,hT⟩:∃T:Nat->List (List D),T=fun i=>dO (((l.map (tV true)).take i).map bq.enc) (r+1):=⟨_,rfl⟩
 have hT0:T 0=[]:=by rw[hT];rfl
 have iI:∀i,(T i).length<=i:=fun i=>by rw[hT];simp only[jV,List.length_map];exact List.length_take_le _ _
 have hTr:∀i,∀r∈T i,r.length=11:=fun i=>by
  rw[hT]
  exact xQ fun r hr=>by
   obtain⟨z,_,rfl⟩:=List.mem_map.1 hr;exact z.cK
 have hTs:∀i (hi:i<l.length),T i++[eT (tV true l[i]).enc (L i)]=T (i+1):=fun i hi=>by
  have:=BK (e:=bq.enc) (l:=l.map (tV true)) (i:=i) (by rw[List.length_map];exact hi) (r+1);rw[List.getElem_map] at this;rw[hT,hL];exact this
 have hTe:T l.length=lMe F.aJ (r+1):=by
  rw[hT];simp only
  rw[List.take_of_length_le (by simp),hF,hl];rfl
 clear hT hL;by_cases hpos:0<x.ah[6].ah.length
 case' pos=>
  refine lY (n) (rs:=[.cell 2 116,.tmp 3]) zmx func155 ntmps155 rfl rfl rfl rfl rfl ?_;refine W1 ?_;refine aX (vI x lu 7 (by omega) (by omega) (by omega)) ?_;simp -implicitDefEqProofs (disch:=omega) only[go_sem,aZ hf];refine W3 ?_;refine aX c2 ?_;refine W1 ?_;refine W3 ?_;refine aX c3 ?_;refine W1 ?_;refine W3 ?_;refine aX c4 ?_;refine W1 ?_;refine W3 ?_;refine dD (fun hb=> ?_) (fun hb=> ?_)<;>have h:=hb<;>(try simp only[wf_preprocess] at h)<;>(first|(exfalso;omega)|skip);simp -implicitDefEqProofs (disch:=omega) only[go_sem,hb];refine W3 ?_;rw[if_pos hpos,jF hpos] at f7;have hz0:=xV x.ah[6] hpos;have c7:=rC x.ah[6].ah[0] q (by omega);rw[<-f7] at c7;have Yx:F.dX=true:=f6.trans (decide_eq_true hpos);refine W3 ?_;refine aX c7 ?_;refine W1 ?_;refine⟨⟨by omega,by omega,hr⟩,?_⟩;rw[pG _ _ _ (Nat.le_refl _),<-hl,<-f1,<-f5];refine W1 ?_;refine oH r 3 11 11 _ rfl rfl ?_;refine oD (st':=[.seed n,.box [.d (.s x.aO),.d (.sl (x.ah.map aj.enc))],.box xM,.box [.d (.s F.bC),.d (.ol n (F.aG.map encS)),.d (.i .i64 F.bQ.aK),.d (.s F.bQ.fName),.d (.ol (n+1) (lt F.bQ.fArgs (n+1+1))),.d (.ol p (lB F.bY (p+1))),.d (.b F.gJ),.d (.b F.dX),.d (.i .i64 F.bD.aK),.d (.s F.bD.fName),.d (.ol q (lt F.bD.fArgs (q+1))),.bN (0,4) []],.fu r 11 []]::S) [1,2,5,54,55,56] [.c (.ptr (0,1) 0),.c (.ptr (0,2) 0),.c (.ptr (0,3) 0),.c (.d (.sl (l.map aj.enc))),.c (.d (.i .i64 l.length)),.c (.d (.i .i64 0))] ?_ ?_ ?_
  ·rfl
  ·rw[Yx];rfl
 case' neg=>
  refine lY (n) (rs:=[.cell 2 116,.tmp 3]) zmx func155 ntmps155 rfl rfl rfl rfl rfl ?_;refine W1 ?_;refine aX (vI x lu 7 (by omega) (by omega) (by omega)) ?_;simp -implicitDefEqProofs (disch:=omega) only[go_sem,aZ hf];refine W3 ?_;refine aX c2 ?_;refine W1 ?_;refine W3 ?_;refine aX c3 ?_;refine W1 ?_;refine W3 ?_;refine aX c4 ?_;refine W1 ?_;refine W3 ?_;refine dD (fun hb=> ?_) (fun hb=> ?_)<;>have h:=hb<;>(try simp only[wf_preprocess] at h)<;>(first|(exfalso;omega)|skip);simp -implicitDefEqProofs (disch:=omega) only[go_sem,hb];refine W3 ?_;rw[if_neg hpos] at f7;have Yx:F.dX=false:=f6.trans (decide_eq_false hpos);refine⟨⟨by omega,by omega,hr⟩,?_⟩;rw[pG _ _ _ (Nat.le_refl _),<-hl,<-f1,<-f5];refine W1 ?_;refine Ir 3 _ _ rfl (E8 (dR q) 10 _ rfl) ?_;refine oH r 3 11 11 _ rfl rfl ?_;refine oD (st':=[.seed n,.box [.d (.s x.aO),.d (.sl (x.ah.map aj.enc))],.box xM,.box [.d (.s F.bC),.d (.ol n (F.aG.map encS)),.d (.i .i64 F.bQ.aK),.d (.s F.bQ.fName),.d (.ol (n+1) (lt F.bQ.fArgs (n+1+1))),.d (.ol p (lB F.bY (p+1))),.d (.b F.gJ),.d (.b F.dX),.d (.i .i64 F.bD.aK),.d (.s F.bD.fName),.d (.ol q (lt F.bD.fArgs (q+1))),.bN (0,4) []],.fu r 11 []]::S) [1,2,5,54,55,56] [.c (.ptr (0,1) 0),.c (.ptr (0,2) 0),.c (.ptr (0,3) 0),.c (.d (.sl (l.map aj.enc))),.c (.d (.i .i64 l.length)),.c (.d (.i .i64 0))] ?_ ?_ ?_
  ·rfl
  ·rw[Yx,f7];rfl
 all_goals
  refine aT (ι:=Nat×List (List D)) zmx rfl [1,2,5,54,55,56] (fun y=>[.c (.ptr (0,1) 0),.c (.ptr (0,2) 0),.c (.ptr (0,3) 0),.c (.d (.sl (l.map aj.enc))),.c (.d (.i .i64 l.length)),.c (.d (.i .i64 y.1))])
   (fun y=>[.seed n,.box [.d (.s x.aO),.d (.sl (x.ah.map aj.enc))],.box xM,.box [.d (.s F.bC),.d (.ol n (F.aG.map encS)),.d (.i .i64 F.bQ.aK),.d (.s F.bQ.fName),.d (.ol (n+1) (lt F.bQ.fArgs (n+1+1))),.d (.ol p (lB F.bY (p+1))),.d (.b F.gJ),.d (.b F.dX),.d (.i .i64 F.bD.aK),.d (.s F.bD.fName),.d (.ol q (lt F.bD.fArgs (q+1))),.bN (0,4) y.2],.fu r 11 y.2]::S)
   (fun y=>y.1<=l.length/\iR y.2 (T y.1)) (fun y=>l.length-y.1) (0,[]) rfl rfl ⟨Nat.zero_le _,by rw[hT0];exact .nil⟩ ?_
  rintro⟨i,U⟩ ⟨p1,p2⟩;simp only at p1 p2;have hU1:=p2.length;have hU2:=iI i;have hU3:=p2.rows (hTr i);refine W1 ?_;refine S0 (fun hb h=>?_) fun hb h=>?_
  ·have hi':i<l.length:=by omega
   obtain⟨hz,hfy⟩:=hlm _ (List.getElem_mem hi');have hs:=hTs i hi';have hz1:=eG l[i];refine W3 ?_;refine S0 (fun hb h=>?_) fun hb h=>?_
   ·have hl3:l[i].ah.length=3:=by omega
    have hd:=Yw (b:=true) (y:=l[i]) (.inr hl3);have g0:l[i].ah.getD 0 bZ=l[i].ah[0]:=jF (by omega);have g1:l[i].ah.getD 1 bZ=l[i].ah[1]:=jF (by omega);have g2:l[i].ah.getD 2 bZ=l[i].ah[2]:=jF (by omega);rw[g0,g1,g2] at hd;rw[hd,Yu] at hs;have hy1:=xV l[i] (i:=1) (by omega);have hy2:=xV l[i] (i:=2) (by omega);refine W3 ?_;refine C1 (rA l[i].ah[1] (by omega) (L i)) ?_;refine W3 ?_;refine C1 (EA l[i].ah[2] (L i+1) (R3 hfy (by omega)) (by omega)) ?_;refine W3 ?_;refine bX 5 (by decide) (i+1,_) (by simp only;omega) rfl rfl rfl rfl ⟨by simp only;omega,?_⟩
    simp only
    rw[<-hs];exact p2.snoc (.refl _)
   ·rw[ag0 (by omega),Yu] at hs;refine bX 5 (by decide) (i+1,_) (by simp only;omega) rfl rfl rfl rfl ⟨by simp only;omega,?_⟩
    simp only
    rw[<-hs];exact p2.snoc (.cons (.refl _) (.cons (oV _) (.cons (.refl _) (.cons (.refl _) (.cons (.refl _) (.cons (.refl _) (.cons (.refl _) (.cons (.refl _) (.cons (oV _) (.cons (oV _) (.cons (oV _) .nil)))))))))))
  ·have hi':i=l.length:=by omega
   subst hi';clear hTs;rw[hTe] at p2
   have hcl:Less (.agg [.d (.s F.bC),.d (.ol n (F.aG.map encS)),.d (.i .i64 F.bQ.aK),.d (.s F.bQ.fName),.d (.ol (n+1) (lt F.bQ.fArgs (n+1+1))),.d (.ol p (lB F.bY (p+1))),.d (.b F.gJ),.d (.b F.dX),.d (.i .i64 F.bD.aK),.d (.s F.bD.fName),.d (.ol q (lt F.bD.fArgs (q+1))),.d (.sl U)]) F.v:=by
    have lab:∀(es:List (List D))(k j:Nat),pV (.d (.ol k (dO es j))) (.d (.sl es)):=fun es k j w σ S β v h=>(qx es j).rep (uG h);exact(fK.cons (.refl _) (.cons (Gv _ _) (.cons (.refl _) (.cons (.refl _) (.cons (lab _ _ _) (.cons (lab _ _ _) (.cons (.refl _) (.cons (.refl _) (.cons (.refl _) (.cons (.refl _) (.cons (lab _ _ _) (.cons (wu (p2.trans (qx _ _))) .nil)))))))))))).less
   rw[<-hF] at hds;refine oG (EH F (by omega)) (.cons hcl .nil) ?_;refine W1 ?_;refine S0 (fun hb h=>?_) fun hb h=>?_
   ·exact fU (aB fun e=>by rw[<-hF] at e;rw[e.2.2.1] at h;cases h)
   have hv:=h;have hz:=KW hv;refine W3 ?_;refine oG (aH.less (Yh F 0 hv (by omega)) (LH (xY F) 0)) (.cons hcl .nil) ?_;refine W1 ?_;refine C1 (uz (xY F) x (by omega)) ?_;refine S0 (fun hb h=>?_) fun hb h=>?_
   ·exact fU (aB fun e=>h (by rw[<-hF] at e;exact e.2.2.2))
   ·have hy:zC x=true:=by
     unfold zC;rw[<-hF];exact aZ ⟨hf.1,hf.2,hv,h⟩
    rw[aa0 hy,hy,<-hF,<-hp,<-hq,<-hr0];exact(iw.cons (.cons (.refl _) (.cons (.refl _) (.cons (.refl _) (.cons (.refl _) (.cons (.refl _) (.cons (.refl _) (.cons (.refl _) (.cons (.refl _) (.cons (.refl _) (.cons (.refl _) (.cons (.refl _) (.cons (Iu p2) .nil)))))))))))) (.refl _)).less
theorem Yz(x:aj)(n:Nat)(hsz:x.sz<=1048576):aH prog 155 [x.v] (.dL [(true,(rJ x).cl n (pI (rJ x) n) (qI (rJ x) n) (rI (rJ x) n)),(false,[.d (.b (zC x))])]):=by
 by_cases hf:fQ x=true/\7<=x.ah.length/\dJ x.ah 0=lu
 ·exact Yy x n hsz hf
 ·refine aH.of_le fun S=> ?_
  have fU:zC x=false->Less (.dL [(true,xM),(false,[.d (.b false)])]) (.dL [(true,(rJ x).cl n (pI (rJ x) n) (qI (rJ x) n) (rI (rJ x) n)),(false,[.d (.b (zC x))])]):=fun e=>by
   rw[e];exact agZ _ (Yv e) n _ _ _ false
  refine zcx [.cell 2 116,.tmp 3] func155 ntmps155 ?_;refine W1 ?_;refine C1 (vI x lu 7 (by omega) (by omega) (by omega)) ?_;refine S0 (fun hb h=>?_) fun hb h=>?_
  ·exact fU (aB fun e=>hf ⟨e.1,e.2.1.1,e.2.1.2⟩)
  ·exact absurd h hf
theorem aos(p:aI):Ah [p]=gU p:=by simp[Ah]
theorem aot(p:aI):Ai [p]=jo p:=by simp[Ai]
theorem aou(p:aI):Aj [p]=iJ p.aV:=by simp[Aj]
theorem aov(p:aI):Ak [p]=fnNames p:=by simp[Ak]
theorem Qy(p:aI)(hsz:p.sz<=4194304):aH prog 79 [p.v] (.c (.d (.b (validPkg p)))):=fun S=>by
 have hs:=aI.sum p;have hb:=aI.bounds hsz
 have hV:∀s∈p.jv,s.length<=4194304:=fun s h=>by have:=tF h;omega
 have l1:(gU p).length<=1073741824:=by simp[gU];omega
 have l2:(jo p).length<=1073741824:=by simp[jo];omega
 have l3:(iJ p.aV).length<=1073741824:=by omega
 have l4:(fnNames p).length<=1073741824:=by simp[fnNames];omega
 refine zcx [.tmp 2] func79 ntmps79 ?_;refine W1 ?_;refine C1 (Z5 p hsz) ?_
 repeat' (first
  |refine S0 (fun hb h=>?_) fun hb h=>?_
  |((with_reducible show fD _ _ 148 _ _ _ _);refine aX (iM p.fName (by omega)) ?_;refine W1 ?_)
  |((with_reducible show fD _ _ 149 _ _ _ _);refine aX (ny p.jv 5 (by omega) hV) ?_;refine W1 ?_)
  |((with_reducible show fD _ _ 150 _ _ _ _);refine aX (sG p.jv p.fName (by omega)) ?_;refine W1 ?_)
  |((with_reducible show fD _ _ 151 _ _ _ _);refine aX (qW (gU p) l1) ?_;refine W1 ?_)
  |((with_reducible show fD _ _ 151 _ _ _ _);refine aX (qW (jo p) l2) ?_;refine W1 ?_)
  |((with_reducible show fD _ _ 151 _ _ _ _);refine aX (qW (iJ p.aV) l3) ?_;refine W1 ?_)
  |((with_reducible show fD _ _ 151 _ _ _ _);refine aX (qW (fnNames p) l4) ?_;refine W1 ?_)
  |((with_reducible show fD _ _ 152 _ _ _ _);refine aX (Z7 p hsz) ?_;refine W1 ?_)
  |(refine ay ?_;unfold validPkg wC oq;rw[aos,aot,aou,aov];grind [gH,jg,aZ,aB]))
noncomputable def Fw(y:aj):List (List D):=if isK kr y=true then [(vK y).enc] else []
noncomputable def Fx(y:aj):List (List D):=if isK oK y=true then [(rZ y).enc] else []
noncomputable def Fy(y:aj):List (List D):=if isK lu y=true then [(rJ y).enc] else []
noncomputable def addFn(y:aj):List (List D):=if isK xX y=true then [(vT y).enc] else []
theorem vV{s s':List UInt8}{y:aj}(h:isK s y=true)(hs:s≠s')(r:List (List D)):(if isK s' y=true then r else [])=[]:=if_neg (by rw[nT h hs];decide)
def pst(bx br:List C)(nm dp:D)(a b c d:List (List D)):List Obj:=[.box bx,.box br,.box [.d nm,.d dp,.bN (0,3) a,.bN (0,4) b,.bN (0,5) c,.bN (0,6) d],.tok 5 a,.tok 3 b,.tok 12 c,.tok 16 d]
theorem aj8{l:List aj}{i:Nat}(hi:i<l.length):(IV (l.take (i+1))).map bA.enc=(IV (l.take i)).map bA.enc++Fw l[i]:=by
 unfold IV Fw;rw[EI _ _ hi,List.map_append];split<;>rfl
theorem aj9{l:List aj}{i:Nat}(hi:i<l.length):(IW (l.take (i+1))).map aS.enc=(IW (l.take i)).map aS.enc++Fx l[i]:=by
 unfold IW Fx;rw[EI _ _ hi,List.map_append];split<;>rfl
theorem akb{l:List aj}{i:Nat}(hi:i<l.length):(IX (l.take (i+1))).map aP.enc=(IX (l.take i)).map aP.enc++Fy l[i]:=by
 unfold IX Fy;rw[EI _ _ hi,List.map_append];split<;>rfl
theorem akc{l:List aj}{i:Nat}(hi:i<l.length):(IY (l.take (i+1))).map aU.enc=(IY (l.take i)).map aU.enc++addFn l[i]:=by
 unfold IY addFn;rw[EI _ _ hi,List.map_append];split<;>rfl
theorem ag1(l:List aj)(i:Nat):((IV (l.take i)).map bA.enc).length<=i/\((IW (l.take i)).map aS.enc).length<=i/\((IX (l.take i)).map aP.enc).length<=i/\((IY (l.take i)).map aU.enc).length<=i:=by
 have h:=fun {α:Type} s (f:aj->α)=>aaT s f l i
 simp only[List.length_map,IV,IW,IX,IY] at *
 exact⟨h _ id,h _ id,h _ id,h _ id⟩
def vW:List C:=[.d (.s []),.bE [],.bE [],.bE [],.bE [],.bE []]
def aI.cv(p:aI):List C:=[.d (.s p.fName),.d (.sl (p.jv.map encS)),.d (.sl (p.dV.map bA.enc)),.d (.sl (p.aV.map aS.enc)),.d (.sl (p.dI.map aP.enc)),.d (.sl (p.cu.map aU.enc))]
theorem aow(e:aI)(h:e=Dt)(ok:Bool):Less (.dL [(true,vW),(false,[.d (.b ok)])]) (.dL [(true,e.cv),(false,[.d (.b ok)])]):=by
 subst h;exact(iw.cons (.cons (.refl _) (.cons (eU _) (.cons (eU _) (.cons (eU _) (.cons (eU _) (.cons (eU _) .nil)))))) (.refl _)).less
theorem aae(y:aj)(hsz:y.sz<=1048576)(bx br:List C)(nm dp:D)(a b c d:List (List D))(Ω:Store)(ha:a.length<=1048576)(hb:b.length<=1048576)(hc:c.length<=1048576)(hd:d.length<=1048576):
 dh prog 78 [.c (.ptr (0,2) 0),y.v] (pst bx br nm dp a b c d::Ω) (fun r S'=>r=.c (.d (.b (jN y)))/\S'=pst bx br nm dp (a++Fw y) (b++Fx y) (c++Fy y) (d++addFn y)::Ω):=by
 unfold pst;refine zcx [.tmp 4] func78 ntmps78 ?_;refine W1 ?_;refine C1 (fM y 0 (by omega) (by omega)) ?_;have hk:∀s,isK s y=decide ((y.ah.getD 0 bZ).aO=s):=fun s=>rfl;refine S0 (fun hb h=>?_) fun hb h=>?_
 ·have h1:isK kr y=true:=by rw[hk];exact hb
  refine C1 (Yt y (by omega)) ?_;refine W3 ?_;have e0:jN y=yt y:=if_pos h1;have e1:Fw y=[(vK y).enc]:=if_pos h1;have e2:Fx y=[]:=vV h1 (by decide) _;have e3:Fy y=[]:=vV h1 (by decide) _;have e4:addFn y=[]:=vV h1 (by decide) _;rw[e0,e1,e2,e3,e4];exact Z1
  (repeat(with_reducible refine And.intro ?_ ?_;focus first|omega|rfl|assumption|exact⟨_,rfl,rfl⟩|(simp;omega)|(simp;done)))
 have n1:isK kr y=false:=by rw[hk];exact hb
 refine S0 (fun hb h=>?_) fun hb h=>?_
 ·have h1:isK oK y=true:=by rw[hk];exact hb
  refine C1 (RZ y (by omega)) ?_;refine W3 ?_
  have e0:jN y=okD y:=by unfold jN;simp only[n1,h1,if_false,if_true,Bool.false_eq_true]
  have e1:Fw y=[]:=vV h1 (by decide) _;have e2:Fx y=[(rZ y).enc]:=if_pos h1;have e3:Fy y=[]:=vV h1 (by decide) _;have e4:addFn y=[]:=vV h1 (by decide) _;rw[e0,e1,e2,e3,e4];exact Z1
  (repeat(with_reducible refine And.intro ?_ ?_;focus first|omega|rfl|assumption|exact⟨_,rfl,rfl⟩|(simp;omega)|(simp;done)))
 have n2:isK oK y=false:=by rw[hk];exact hb
 refine S0 (fun hb h=>?_) fun hb h=>?_
 ·have h1:isK lu y=true:=by rw[hk];exact hb
  refine C1 (aad y (by omega)) ?_;refine W3 ?_
  have e0:jN y=zC y:=by unfold jN;simp only[n1,n2,h1,if_false,if_true,Bool.false_eq_true]
  have e1:Fw y=[]:=vV h1 (by decide) _;have e2:Fx y=[]:=vV h1 (by decide) _;have e3:Fy y=[(rJ y).enc]:=if_pos h1;have e4:addFn y=[]:=vV h1 (by decide) _;rw[e0,e1,e2,e3,e4];exact Z1
  (repeat(with_reducible refine And.intro ?_ ?_;focus first|omega|rfl|assumption|exact⟨_,rfl,rfl⟩|(simp;omega)|(simp;done)))
 have n3:isK lu y=false:=by rw[hk];exact hb
 refine S0 (fun hb h=>?_) fun hb h=>?_
 ·have h1:isK xX y=true:=by rw[hk];exact hb
  refine C1 (Ym y (by omega)) ?_;refine W3 ?_
  have e0:jN y=okF y:=by unfold jN;simp only[n1,n2,n3,h1,if_false,if_true,Bool.false_eq_true]
  have e1:Fw y=[]:=vV h1 (by decide) _;have e2:Fx y=[]:=vV h1 (by decide) _;have e3:Fy y=[]:=vV h1 (by decide) _;have e4:addFn y=[(vT y).enc]:=if_pos h1;rw[e0,e1,e2,e3,e4];exact Z1
  (repeat(with_reducible refine And.intro ?_ ?_;focus first|omega|rfl|assumption|exact⟨_,rfl,rfl⟩|(simp;omega)|(simp;done)))
 have n4:isK xX y=false:=by rw[hk];exact hb
 unfold jN Fw Fx Fy addFn;simp only[n1,n2,n3,n4,if_false,Bool.false_eq_true,List.append_nil];exact⟨trivial,trivial⟩
theorem aaf(x:aj)(hsz:x.sz<=1048576):aH prog 34 [x.v] (.dL [(true,(Jo x).cv),(false,[.d (.b (Dc x))])]):=aH.of_le fun S=>by
 have h1:=eG x;obtain⟨l,hl⟩:∃l,l=x.ah.drop 3:=⟨_,rfl⟩
 have hll:l.length<=1048576:=by rw[hl,List.length_drop];omega
 have hlen:l.length=x.ah.length-3:=by rw[hl,List.length_drop]
 have hlm:∀y∈l,y.sz<=1048576:=fun y hy=>by
  have:=iT (List.mem_of_mem_drop (hl▸hy));omega
 have fU:Dc x=false->Less (.dL [(true,vW),(false,[.d (.b false)])]) (.dL [(true,(Jo x).cv),(false,[.d (.b (Dc x))])]):=fun e=>by
  rw[e];exact aow _ (agQ e) false
 have hnm:((x.ah.getD 2 bZ).ah).length<=1073741824:=by
  have:=RY x 2 (Nat.le_refl _);have:=eG (x.ah.getD 2 bZ);omega
 refine zcx [.cell 2 40,.tmp 3] func34 ntmps34 ?_;refine W1 ?_;refine C1 (fM x 2 (by omega) (by omega)) ?_;refine C1 (Ez _ hnm) ?_;refine C1 (fM x 1 (by omega) (by omega)) ?_;refine C1 (pz x (by omega)) ?_;refine S0 (fun hb h=>?_) fun hb h=>?_
 ·exact fU (aB fun e=>by rw[e.1.1] at h;cases h)
 have hv:=h;refine S0 (fun hb h=>?_) fun hb h=>?_
 ·exact fU (aB fun e=>by have:=e.1.2.1;omega)
 have h3:3<=x.ah.length:=by omega
 refine W3 ?_;have a0:x.ah[0].aO=dJ x.ah 0:=(jL (by omega)).symm;have g2:x.ah[2]=gX x.ah 2:=(jF (by omega)).symm;refine S0 (fun hb h=>?_) fun hb h=>?_
 ·exact fU (aB fun e=>h (a0.trans e.1.2.2.1))
 have hw:dJ x.ah 0=aj4:=by rw[<-a0];exact h
 refine W3 ?_;refine S0 (fun hb h=>?_) fun hb h=>?_
 ·exact fU (aB fun e=>h (by rw[g2];exact e.1.2.2.2.1))
 have hz2:(gX x.ah 2).aO=[]:=by rw[<-g2];exact h
 refine S0 (fun hb h=>?_) fun hb h=>?_
 ·exact fU (aB fun e=>by have:=e.1.2.2.2.2;unfold allA at h;rw[show(x.ah.getD 2 bZ)=gX x.ah 2 from rfl,this] at h;cases h)
 have hall:(gX x.ah 2).ah.all (fun y=>decide (y.aO≠[]))=true:=h;have hhead:adR x:=⟨hv,h3,hw,hz2,hall⟩;have hvs:=tC hv;refine pE 2 2 5 _ rfl rfl ?_;refine pE 2 3 3 _ rfl rfl ?_;refine pE 2 4 12 _ rfl rfl ?_;refine pE 2 5 16 _ rfl rfl ?_
 refine aT (ι:=Nat) zmx rfl [1,2,6,7] (fun i=>[.c (.ptr (0,0) 0),.c (.ptr (0,1) 0),.c (.ptr (0,2) 0),.c (.d (.i .i64 (i+3:Nat)))])
  (fun i=>pst [.d (.s x.aO),.d (.sl (x.ah.map aj.enc))] vW (.s (x.ah.getD 1 bZ).aO) (.sl ((fq (x.ah.getD 2 bZ).ah).map encS)) ((IV (l.take i)).map bA.enc) ((IW (l.take i)).map aS.enc) ((IX (l.take i)).map aP.enc) ((IY (l.take i)).map aU.enc)::S)
  (fun i=>i<=l.length/\∀j,∀hj:j<l.length,j<i->jN l[j]=true) (fun i=>l.length-i) 0 rfl rfl ⟨Nat.zero_le _,fun j _ h=>by omega⟩ ?_
 rintro i ⟨p1,p2⟩;obtain⟨t1,t2,t3,t4⟩:=ag1 l i;simp -implicitDefEqProofs (disch:=omega) only[go_sem,pst];refine S0 (fun hb h=>?_) fun hb h=>?_
 ·have hi:i<l.length:=by omega
  have hm:=List.getElem_mem hi;have hz:=hlm _ hm
  have hg:x.ah[i+3]'(by omega)=l[i]:=by
   simp only[hl,List.getElem_drop];congr 1;omega
  refine W3 ?_;simp only[hg];have hc:=aae l[i] hz [.d (.s x.aO),.d (.sl (x.ah.map aj.enc))] vW (.s (x.ah.getD 1 bZ).aO) (.sl ((fq (x.ah.getD 2 bZ).ah).map encS)) _ _ _ _ S (Nat.le_trans t1 (by omega)) (Nat.le_trans t2 (by omega)) (Nat.le_trans t3 (by omega)) (Nat.le_trans t4 (by omega));rw[<-aj8 hi,<-aj9 hi,<-akb hi,<-akc hi] at hc;refine bg rfl hc ?_;simp -implicitDefEqProofs (disch:=omega) only[go_sem,pst];refine S0 (fun hb h=>?_) fun hb h=>?_
  ·exact⟨by decide,fU (aB fun e=>by have:=e.2.1 l[i] (by rw[<-hl];exact hm);rw[this] at h;cases h)⟩
  ·refine bF (i+1) (by omega) rfl rfl ⟨by omega,fun j hj hji=> ?_⟩;by_cases e:j=i
   ·subst e;exact h
   ·exact p2 j hj (by omega)
 ·have hi:i=l.length:=by omega
  subst hi;rw[List.take_length,hl];refine C1 (Qy (decP x) (aaV (by omega))) ?_
  have hits:∀y∈x.ah.drop 3,jN y=true:=fun y hy=>by
   rw[<-hl] at hy;obtain⟨j,hj,rfl⟩:=List.mem_iff_getElem.1 hy;exact p2 j hj hj
  refine S0 (fun hb h=>?_) fun hb h=>?_
  ·exact⟨by decide,fU (aB fun e=>by rw[e.2.2] at h;cases h)⟩
  ·have hy:Dc x=true:=aZ ⟨hhead,hits,h⟩;rw[aaS hy,hy];exact⟨by decide,gy _⟩
def pW(b:Bool)(r:List D)(n:Nat):List (List D):=if b=true then [eT r n] else []
def FW(n:Nat)(bx br:List C)(nm dp:D)(n1 n2 n3 n4:Nat)(a b c d:List (List D))(mo:List Obj):List Obj:=.seed n:: .box bx:: .box br:: .box [.d nm,.d dp,.bN (0,4) a,.bN (0,5) b,.bN (0,6) c,.bN (0,7) d]:: .fu n1 5 a:: .fu n2 3 b:: .fu n3 12 c:: .fu n4 16 d::mo
def unD:C->D
 | .d x=>x
 |_=>.s []
theorem amI{r:List D}{cs:List C}(h:r.map C.d=cs):r=cs.map unD:=by
 subst h;rw[List.map_map];exact(List.map_id r).symm
theorem Dv{b:Bool}{r:List D}{n:Nat}{cs:List C}(h:b=true)(hc:(eT r n).map C.d=cs):pW b r n=[cs.map unD]:=by
 unfold pW;rw[if_pos h,amI hc]
theorem jq{b:Bool}{r:List D}{n:Nat}(h:b=false):pW b r n=[]:=by
 unfold pW;rw[if_neg (by rw[h];decide)]
theorem amJ(x:aS)(n:Nat):(eT x.enc n).map C.d=[.d (.s x.fName),.d (.ol n (x.aG.map encS)),.d (.ol (n+1) (lc x.aF (n+1+1)))]:=by rw[amB];rfl
def Av(p:aI)(n:Nat):Nat:=n+1+(iH (p.dV.map bA.enc)+1)
def Aw(p:aI)(n:Nat):Nat:=Av p n+(iH (p.aV.map aS.enc)+1)
def Cv(p:aI)(n:Nat):Nat:=Aw p n+(iH (p.dI.map aP.enc)+1)
theorem IZ(p:aI)(n:Nat):eT p.enc n=[.s p.fName,.ol n (p.jv.map encS),.ol (n+1) (dO (p.dV.map bA.enc) (n+1+1)),.ol (Av p n) (dO (p.aV.map aS.enc) (Av p n+1)),.ol (Aw p n) (dO (p.dI.map aP.enc) (Aw p n+1)),.ol (Cv p n) (dO (p.cu.map aU.enc) (Cv p n+1))]:=by
 simp only[aI.aA,eT,nL,qd,Nat.add_zero,vG,xG,Nat.zero_add,Av,Aw,Cv]
theorem Fz{α:Type}(s:List UInt8)(f:aj->α)(e:α->List D){l:List aj}{i:Nat}(hi:i<l.length)(n:Nat):
 dO ((((l.take (i+1)).filter (isK s)).map f).map e) n=dO ((((l.take i).filter (isK s)).map f).map e) n++pW (isK s l[i]) (e (f l[i])) (n+iH ((((l.take i).filter (isK s)).map f).map e)):=by
 rw[EI _ _ hi,List.map_append,oF];congr 1;unfold pW;split<;>rfl
theorem I4{α:Type}(s:List UInt8)(f:aj->α)(e:α->List D)(l:List aj)(i n:Nat):(dO ((((l.take i).filter (isK s)).map f).map e) n).length<=i:=by
 rw[jV,List.length_map];exact aaT s f l i
theorem ag2(e:aI)(h:e=Dt)(n:Nat)(ok:Bool):Less (.dL [(true,vW),(false,[.d (.b ok)])]) (.dL [(true,(eT e.enc n).map .d),(false,[.d (.b ok)])]):=by
 subst h;rw[IZ];exact(iw.cons (.cons (.refl _) (.cons (dR _) (.cons (dR _) (.cons (dR _) (.cons (dR _) (.cons (dR _) .nil)))))) (.refl _)).less
theorem aag(y:aj)(hsz:y.sz<=1048576)(n:Nat)(bx br:List C)(nm dp:D)(n1 n2 n3 n4:Nat)(q1 q2 q3 q4:Nat)(a b c d:List (List D))(mo:List Ab.Obj)(Ω:Store)(ha:a.length<=1048576)(hb:b.length<=1048576)(hc:c.length<=1048576)(hd:d.length<=1048576):
 dh prog 82 [.c (.ptr (0,3) 0),y.v] (FW n bx br nm dp n1 n2 n3 n4 a b c d mo::Ω) (fun r S'=>r=.c (.d (.b (jN y)))/\S'=FW n bx br nm dp n1 n2 n3 n4 (a++pW (isK kr y) (vK y).enc q1) (b++pW (isK oK y) (rZ y).enc q2) (c++pW (isK lu y) (rJ y).enc q3) (d++pW (isK xX y) (vT y).enc q4) mo::Ω):=by
 have hg:∀h0:0<y.ah.length,y.ah[0].aO=dJ y.ah 0:=fun h0=>(jL h0).symm;obtain⟨A,hA'⟩:∃A,A=pW (isK kr y) (vK y).enc q1:=⟨_,rfl⟩;obtain⟨B,hB'⟩:∃A,A=pW (isK oK y) (rZ y).enc q2:=⟨_,rfl⟩;obtain⟨C,hC'⟩:∃A,A=pW (isK lu y) (rJ y).enc q3:=⟨_,rfl⟩;obtain⟨D,hD'⟩:∃A,A=pW (isK xX y) (vT y).enc q4:=⟨_,rfl⟩;rw[<-hA',<-hB',<-hC',<-hD'];have Qz:∀{s},dJ y.ah 0=s->isK s y=true:=fun h=>decide_eq_true h;have K3:∀{s},¬dJ y.ah 0=s->isK s y=false:=fun h=>decide_eq_false h;unfold FW;refine zcx [.tmp 4] func82 ntmps82 ?_;refine W1 ?_;refine S0 (fun hb h=>?_) fun hb h=>?_
 ·have h0:y.ah=[]:=List.eq_nil_of_length_eq_zero (by omega);have hn:∀s,s≠[]->isK s y=false:=fun s hs=>K3 (by rw[h0];exact fun e=>hs e.symm);have m1:=hn kr (by decide);have m2:=hn oK (by decide);have m3:=hn lu (by decide);have m4:=hn xX (by decide)
  have e0:jN y=false:=by unfold jN;simp only[m1,m2,m3,m4,if_false,Bool.false_eq_true]
  rw[e0,hA',hB',hC',hD',jq m1,jq m2,jq m3,jq m4];simp only[List.append_nil];exact⟨trivial,trivial⟩
 have h0:0<y.ah.length:=by omega
 refine W3 ?_;simp only[hg h0];refine S0 (fun hb h=>?_) fun hb h=>?_
 ·have k1:isK kr y=true:=Qz h
  have e0:jN y=yt y:=by unfold jN;simp only[k1,if_false,if_true,Bool.false_eq_true]
  have hA:=(hA').trans (Dv k1 (Yn _ _));simp only[List.map_cons,List.map_nil,unD] at hA;have hB:=(hB').trans (jq (nT k1 (by decide)));have hC:=(hC').trans (jq (nT k1 (by decide)));have hD:=(hD').trans (jq (nT k1 (by decide)));rw[e0,hA,hB,hC,hD];refine C1 (UN y q1 hsz) ?_;refine W3 ?_;omega
 have m1:isK kr y=false:=K3 h;refine S0 (fun hb h=>?_) fun hb h=>?_
 ·have k1:isK oK y=true:=Qz h
  have e0:jN y=okD y:=by unfold jN;simp only[m1,k1,if_false,if_true,Bool.false_eq_true]
  have hA:=(hA').trans (jq (nT k1 (by decide)));have hB:=(hB').trans (Dv k1 (amJ _ _));simp only[List.map_cons,List.map_nil,unD] at hB;have hC:=(hC').trans (jq (nT k1 (by decide)));have hD:=(hD').trans (jq (nT k1 (by decide)));rw[e0,hA,hB,hC,hD];refine C1 (Qx y q2 hsz) ?_;refine W3 ?_;omega
 have m2:isK oK y=false:=K3 h;refine S0 (fun hb h=>?_) fun hb h=>?_
 ·have k1:isK lu y=true:=Qz h
  have e0:jN y=zC y:=by unfold jN;simp only[m1,m2,k1,if_false,if_true,Bool.false_eq_true]
  have hA:=(hA').trans (jq (nT k1 (by decide)));have hB:=(hB').trans (jq (nT k1 (by decide)));have hC:=(hC').trans (Dv k1 (amH _ _));simp only[List.map_cons,List.map_nil,unD] at hC;have hD:=(hD').trans (jq (nT k1 (by decide)));rw[e0,hA,hB,hC,hD];refine C1 (Yz y q3 hsz) ?_;refine W3 ?_;omega
 have m3:isK lu y=false:=K3 h;refine S0 (fun hb h=>?_) fun hb h=>?_
 ·have k1:isK xX y=true:=Qz h
  have e0:jN y=okF y:=by unfold jN;simp only[m1,m2,m3,k1,if_false,if_true,Bool.false_eq_true]
  have hA:=(hA').trans (jq (nT k1 (by decide)));have hB:=(hB').trans (jq (nT k1 (by decide)));have hC:=(hC').trans (jq (nT k1 (by decide)));have hD:=(hD').trans (Dv k1 (amF _ _));simp only[List.map_cons,List.map_nil,unD] at hD;rw[e0,hA,hB,hC,hD];refine C1 (UM y q4 hsz) ?_;refine W3 ?_;omega
 have m4:isK xX y=false:=K3 h
 have e0:jN y=false:=by unfold jN;simp only[m1,m2,m3,m4,if_false,Bool.false_eq_true]
 rw[e0,hA',hB',hC',hD',jq m1,jq m2,jq m3,jq m4];simp only[List.append_nil];exact⟨trivial,trivial⟩
theorem YA(x:aj)(n:Nat)(hsz:x.sz<=1048576):aH prog 35 [x.v] (.dL [(true,(eT (Jo x).enc n).map .d),(false,[.d (.b (Dc x))])]):=aH.of_le fun S=>by
 have h1:=eG x;obtain⟨l,hl⟩:∃l,l=x.ah.drop 3:=⟨_,rfl⟩
 have hll:l.length<=1048576:=by rw[hl,List.length_drop];omega
 have hlen:l.length=x.ah.length-3:=by rw[hl,List.length_drop]
 have hlm:∀y∈l,y.sz<=1048576:=fun y hy=>by
  have:=iT (List.mem_of_mem_drop (hl▸hy));omega
 have fU:Dc x=false->Less (.dL [(true,vW),(false,[.d (.b false)])]) (.dL [(true,(eT (Jo x).enc n).map .d),(false,[.d (.b (Dc x))])]):=fun e=>by
  rw[e];exact ag2 _ (agQ e) n false
 refine lY (n) (rs:=[.cell 2 40,.tmp 3]) zmx func35 ntmps35 rfl rfl rfl rfl rfl ?_;refine W1 ?_;refine C1 (vI x aj4 3 (by omega) (by omega) (by omega)) ?_;refine S0 (fun hb h=>?_) fun hb h=>?_
 ·exact fU (aB fun e=>h ⟨e.1.1,e.1.2.1,e.1.2.2.1⟩)
 have hf:=h;have h3:3<=x.ah.length:=hf.2.1;refine W3 ?_;have g2:x.ah[2]=gX x.ah 2:=(jF (by omega)).symm;have a1:x.ah[1].aO=dJ x.ah 1:=(jL (by omega)).symm;simp only[g2];refine S0 (fun hb h=>?_) fun hb h=>?_
 ·exact fU (aB fun e=>h e.1.2.2.2.1)
 have hz2:=h;refine W3 ?_;have hvs:=tC hf.1;obtain⟨F,hF⟩:∃F,F=decP x:=⟨_,rfl⟩
 have hnm:(gX x.ah 2).ah.length<=1073741824:=by
  have:=xE x.ah 2;have:=eG (gX x.ah 2);have:(gX x.ah 2).sz<=dx x.ah:=xE x.ah 2;omega
 have hc:=Af (gX x.ah 2).ah hnm n;rw[<-g2] at hc;refine aX hc ?_;refine W1 ?_;refine W3 ?_;refine⟨⟨by omega,by omega,gV⟩,?_⟩;rw[pG _ _ _ (Nat.le_refl _),<-hl];refine W1 ?_;refine oH (n+1) 3 2 5 _ rfl rfl ?_;refine oH (Av F n) 3 3 3 _ rfl rfl ?_;refine oH (Aw F n) 3 4 12 _ rfl rfl ?_;refine oH (Cv F n) 3 5 16 _ rfl rfl ?_;obtain⟨T1,hT1⟩:∃T:Nat->List (List D),T=fun i=>dO ((((l.take i).filter (isK kr)).map vK).map bA.enc) (n+1+1):=⟨_,rfl⟩;obtain⟨T2,VU⟩:∃T:Nat->List (List D),T=fun i=>dO ((((l.take i).filter (isK oK)).map rZ).map aS.enc) (Av F n+1):=⟨_,rfl⟩;obtain⟨T3,hT3⟩:∃T:Nat->List (List D),T=fun i=>dO ((((l.take i).filter (isK lu)).map rJ).map aP.enc) (Aw F n+1):=⟨_,rfl⟩;obtain⟨T4,hT4⟩:∃T:Nat->List (List D),T=fun i=>dO ((((l.take i).filter (isK xX)).map vT).map aU.enc) (Cv F n+1):=⟨_,rfl⟩
 have z1:T1 0=[]:=by rw[hT1];rfl
 have z2:T2 0=[]:=by rw[VU];rfl
 have z3:T3 0=[]:=by rw[hT3];rfl
 have z4:T4 0=[]:=by rw[hT4];rfl
 have t1:∀i,(T1 i).length<=i:=fun i=>by rw[hT1];exact I4 _ _ _ _ _ _
 have t2:∀i,(T2 i).length<=i:=fun i=>by rw[VU];exact I4 _ _ _ _ _ _
 have t3:∀i,(T3 i).length<=i:=fun i=>by rw[hT3];exact I4 _ _ _ _ _ _
 have t4:∀i,(T4 i).length<=i:=fun i=>by rw[hT4];exact I4 _ _ _ _ _ _
 have ap3:∀i (hi:i<l.length) (mo:List Ab.Obj),dh prog 82 [.c (.ptr (0,3) 0),l[i].v] (FW n [.d (.s x.aO),.d (.sl (x.ah.map aj.enc))] vW (.s x.ah[1].aO) (.ol n ((fq x.ah[2].ah).map encS)) (n+1) (Av F n) (Aw F n) (Cv F n) (T1 i) (T2 i) (T3 i) (T4 i) mo::S) (fun r S'=>r=.c (.d (.b (jN l[i])))/\S'=FW n [.d (.s x.aO),.d (.sl (x.ah.map aj.enc))] vW (.s x.ah[1].aO) (.ol n ((fq x.ah[2].ah).map encS)) (n+1) (Av F n) (Aw F n) (Cv F n) (T1 (i+1)) (T2 (i+1)) (T3 (i+1)) (T4 (i+1)) mo::S):=fun i hi mo=>by
  have e1:T1 (i+1)=T1 i++pW (isK kr l[i]) (vK l[i]).enc ((n+1+1)+iH ((((l.take i).filter (isK kr)).map vK).map bA.enc)):=by rw[hT1];exact Fz kr vK bA.enc hi (n+1+1)
  have e2:T2 (i+1)=T2 i++pW (isK oK l[i]) (rZ l[i]).enc ((Av F n+1)+iH ((((l.take i).filter (isK oK)).map rZ).map aS.enc)):=by rw[VU];exact Fz oK rZ aS.enc hi (Av F n+1)
  have e3:T3 (i+1)=T3 i++pW (isK lu l[i]) (rJ l[i]).enc ((Aw F n+1)+iH ((((l.take i).filter (isK lu)).map rJ).map aP.enc)):=by rw[hT3];exact Fz lu rJ aP.enc hi (Aw F n+1)
  have e4:T4 (i+1)=T4 i++pW (isK xX l[i]) (vT l[i]).enc ((Cv F n+1)+iH ((((l.take i).filter (isK xX)).map vT).map aU.enc)):=by rw[hT4];exact Fz xX vT aU.enc hi (Cv F n+1)
  rw[e1,e2,e3,e4];exact aag l[i] (hlm _ (List.getElem_mem hi)) n _ _ _ _ _ _ _ _ _ _ _ _ _ _ _ _ mo S (Nat.le_trans (t1 i) (by omega)) (Nat.le_trans (t2 i) (by omega)) (Nat.le_trans (t3 i) (by omega)) (Nat.le_trans (t4 i) (by omega))
 have w1:T1 l.length=dO (F.dV.map bA.enc) (n+1+1):=by rw[hT1,hF];simp only;rw[List.take_length,hl];rfl
 have w2:T2 l.length=dO (F.aV.map aS.enc) (Av F n+1):=by rw[VU,hF];simp only;rw[List.take_length,hl];rfl
 have w3:T3 l.length=dO (F.dI.map aP.enc) (Aw F n+1):=by rw[hT3,hF];simp only;rw[List.take_length,hl];rfl
 have w4:T4 l.length=dO (F.cu.map aU.enc) (Cv F n+1):=by rw[hT4,hF];simp only;rw[List.take_length,hl];rfl
 clear hT1 VU hT3 hT4 hc
 have hall:allA x.ah[2].ah=(gX x.ah 2).ah.all (fun y=>decide (y.aO≠[])):=by rw[g2];rfl
 obtain⟨B,hB⟩:∃B,B=allA x.ah[2].ah:=⟨_,rfl⟩;rw[<-hB]
 have arZ:F.fName=x.ah[1].aO:=by rw[hF];exact a1.symm
 have ar0:F.jv=fq x.ah[2].ah:=by rw[hF,g2];rfl
 cases B with
 |false=>
  have hno:Dc x=false:=aB fun e=>by have:=e.1.2.2.2.2;rw[<-hall,<-hB] at this;cases this
  refine aT (ι:=Nat) zmx rfl [2,5,6,39,40,41] (fun i=>[.c (.ptr (0,2) 0),.c (.d (.b false)),.c (.ptr (0,3) 0),.c (.d (.sl (l.map aj.enc))),.c (.d (.i .i64 l.length)),.c (.d (.i .i64 0))])
   (fun i=>FW n [.d (.s x.aO),.d (.sl (x.ah.map aj.enc))] vW (.s x.ah[1].aO) (.ol n ((fq x.ah[2].ah).map encS)) (n+1) (Av F n) (Aw F n) (Cv F n) [] [] [] [] []::S)
   (fun i=>i=0) (fun i=>i) 0 rfl rfl rfl ?_
  rintro i p1;simp -implicitDefEqProofs (disch:=omega) only[go_sem,FW];refine S0 (fun hb h=>?_) fun hb h=>?_
  ·refine W3 ?_;exact⟨by decide,fU hno⟩
  ·exact⟨by decide,fU hno⟩
 |true=>
  have hhead:adR x:=⟨hf.1,h3,hf.2.2,hz2,hall.symm.trans hB.symm⟩
  refine aT (ι:=Nat) zmx rfl [2,5,6,39,40,41] (fun i=>[.c (.ptr (0,2) 0),.c (.d (.b true)),.c (.ptr (0,3) 0),.c (.d (.sl (l.map aj.enc))),.c (.d (.i .i64 l.length)),.c (.d (.i .i64 i))])
   (fun i=>FW n [.d (.s x.aO),.d (.sl (x.ah.map aj.enc))] vW (.s x.ah[1].aO) (.ol n ((fq x.ah[2].ah).map encS)) (n+1) (Av F n) (Aw F n) (Cv F n) (T1 i) (T2 i) (T3 i) (T4 i) []::S)
   (fun i=>i<=l.length/\∀j,∀hj:j<l.length,j<i->jN l[j]=true) (fun i=>l.length-i) 0 rfl (by rw[z1,z2,z3,z4];rfl) ⟨Nat.zero_le _,fun j _ h=>by omega⟩ ?_
  rintro i ⟨p1,p2⟩;have t1:=t1 i;have t2:=t2 i;have t3:=t3 i;have t4:=t4 i;simp -implicitDefEqProofs (disch:=omega) only[go_sem,FW];refine S0 (fun hb h=>?_) fun hb h=>?_
  ·have hi:i<l.length:=by omega
   refine W3 ?_;refine bg rfl (ap3 i hi _) ?_;simp -implicitDefEqProofs (disch:=omega) only[go_sem,FW];refine S0 (fun hb h=>?_) fun hb h=>?_
   ·exact⟨by decide,fU (aB fun e=>by have:=e.2.1 l[i] (by rw[<-hl];exact List.getElem_mem hi);rw[this] at h;cases h)⟩
   ·refine bX 8 (by decide) (i+1) (by omega) rfl rfl rfl rfl ⟨by omega,fun j hj hji=> ?_⟩;by_cases e:j=i
    ·subst e;exact h
    ·exact p2 j hj (by omega)
  ·have hi:i=l.length:=by omega
   subst hi;rw[w1,w2,w3,w4,<-arZ,<-ar0]
   have hits:∀y∈x.ah.drop 3,jN y=true:=fun y hy=>by
    rw[<-hl] at hy;obtain⟨j,hj,rfl⟩:=List.mem_iff_getElem.1 hy;exact p2 j hj hj
   have hcl:Less (.agg [.d (.s F.fName),.d (.ol n (F.jv.map encS)),.d (.sl (dO (F.dV.map bA.enc) (n+1+1))),.d (.sl (dO (F.aV.map aS.enc) (Av F n+1))),.d (.sl (dO (F.dI.map aP.enc) (Aw F n+1))),.d (.sl (dO (F.cu.map aU.enc) (Cv F n+1)))]) F.v:=
    (fK.cons (.refl _) (.cons (Gv _ _) (.cons (wu (qx _ _)) (.cons (wu (qx _ _)) (.cons (wu (qx _ _)) (.cons (wu (qx _ _)) .nil)))))).less
   refine oG (Qw F (by rw[hF];exact aaV (by omega))) (.cons hcl .nil) ?_;refine W1 ?_
   with_reducible refine dD (fun hb=> ?_) (fun hb=> ?_)<;>have h:=hb<;>(try simp only[wf_preprocess] at h)<;>simp -implicitDefEqProofs (disch:=omega) only[go_sem,hb,false_and,if_false]<;>refine W3 ?_
   ·exact⟨by decide,fU (aB fun e=>by rw[<-hF] at e;rw[e.2.2] at h;cases h)⟩
   ·have hy:Dc x=true:=aZ ⟨hhead,hits,by rw[<-hF];exact h⟩;rw[aaS hy,hy,<-hF];have hq:=IZ F n;simp only[aI.aA] at hq;rw[hq];exact⟨by decide,gy _⟩
theorem UO(x:aj)(n:Nat)(hsz:x.sz<=1048576):aH prog 35 [x.v] (.dL [(true,(eT (Jo x).enc n).map .d),(false,[.d (.b (Dc x))])]):=YA x n hsz
end Go.Ab