/-
  SEVERAL TEXTS IN ONE (merged by program): contracts and models, each with its own heading.
-/
import Derived.Test.YtnceiannponbjaaGreatDoorPartDjbO
import Derived.Test.YtnceiannponbjaaGreatDoorPartDjbQ
open Go.Proofs Go.Proofs.Tryz
set_option linter.unusedSimpArgs false
set_option linter.unusedVariables false
set_option maxRecDepth 4000
namespace Go.Ab
theorem TJ(n:Nat):Gp (.sl []) (.ol n []):=fun w σ v h=>by
 cases h with
 |nil a cap=>exact .nP n a cap
 |sl b off cap aK es vals c t fz hcap hlen hb hσ hc hv=>exact .nP n _ _
theorem Gp.trans{a b c:D}(h:Gp a b)(k:Gp b c):Gp a c:=fun w σ v x=>k w σ v (h w σ v x)
theorem jX.trans:∀{a b c:List D},jX a b->jX b c->jX a c
 |_,_,_,.nil,.nil=>.nil
 |_,_,_,.cons x h,.cons y k=>.cons (x.trans y) (h.trans k)
theorem gF.trans:∀{a b c:List (List D)},gF a b->gF b c->gF a c
 |_,_,_,.nil,.nil=>.nil
 |_,_,_,.cons x h,.cons y k=>.cons (x.trans y) (h.trans k)
theorem gF.at{a b:List (List D)}(h:gF a b):∀(i:Nat)(hi:i<b.length)(hi':i<a.length),jX a[i] b[i]:=by
 induction h with
 |nil=>intro i hi;simp at hi
 |cons x h ih=>intro i hi hi';cases i with
  |zero=>exact x
  |succ i=>exact ih i (by simpa using hi) (by simpa using hi')
theorem gF.agn{a b:List (List D)}(h:gF a b){n:Nat}{w:World}{σ:Nat->Nat}{v:Value}(hr:bS w σ (.ol n a) v):bS w σ (.ol n b) v:=by
 cases hr with
 |nP _ ad cap=>
  cases h;exact .nP n ad cap
 |ol _ b0 off cap aK es vals c t hcap hlen hb hσ hfit hc hv uD=>
  have hl:=h.length;rw[hl] at hcap hfit hc ⊢
  have hlb:∀e∈b,e.length=aK:=fun e he=>by
   obtain⟨i,hi,rfl⟩:=List.getElem_of_mem he;have h1:=h.at i hi (by omega);rw[<-h1.length];exact hlen _ (List.getElem_mem _)
  refine .ol n b0 off cap aK b vals c t hcap hlb hb hσ hfit hc (fun j d hd=> ?_) uD;obtain⟨x,hx,hle⟩:=h.flat.at j d hd;exact hle w σ _ (hv j x hx)
theorem WK{n:Nat}{a b:List (List D)}(h:gF a b):l8 (.d (.ol n a)) (.d (.ol n b)):=fun w σ S β v hr=>h.agn hr
theorem acv{n:Nat}{a b:List (List D)}(h:gF a b):Less (.c (.d (.ol n a))) (.c (.d (.ol n b))):=fun w σ S β v hr=>⟨h.agn hr.1,hr.2⟩
theorem SA{a b:List (List D)}(h:gF a b):l8 (.d (.sl a)) (.d (.sl b)):=fun w σ S β v hr=>h.rep hr
theorem l8.trans{a b c:C}(h:l8 a b)(k:l8 b c):l8 a c:=fun w σ S β v x=>k w σ S β v (h w σ S β v x)
abbrev au.cv(x:au):List C:=[.d (.i .i64 x.aH),.d (.s x.aZ),.d (.s x.fName),.d (.i .i64 x.fN),.d (.i .i64 x.fType.aH),.d (.s x.fType.fName),.d (.sl (x.fType.fArgs.map ak.enc)),.d (.sl (x.fArgs.map au.enc)),.d (.sl (x.aI.map aJ.enc))]
abbrev au.cl(x:au)(n:Nat):List C:=[.d (.i .i64 x.aH),.d (.s x.aZ),.d (.s x.fName),.d (.i .i64 x.fN),.d (.i .i64 x.fType.aH),.d (.s x.fType.fName),.d (.ol n (lt x.fType.fArgs (n+1))),
 .d (.ol (n+(fK x.fType.fArgs+1)) (lE x.fArgs (n+(fK x.fType.fArgs+1)+1))),.d (.ol (n+(fK x.fType.fArgs+1)+(kK x.fArgs+1)) (lM x.aI (n+(fK x.fType.fArgs+1)+(kK x.fArgs+1)+1)))]
abbrev aj0:List C:=[.d (.i .i64 0),.d (.s []),.d (.s []),.d (.i .i64 0),.d (.i .i64 0),.d (.s []),.bE [],.bE [],.bE []]
abbrev gX(l:List ah)(i:Nat):ah:=l.getD i eu
theorem QD(l:List ah):dz l=(gX l 0).sz+dz (l.drop 1):=by
 cases l with
 |nil=>simp[dz,gX,Hy]
 |cons x l=>rw[dz,List.drop_succ_cons,List.drop_zero];rfl
theorem TK(l:List ah)(k i:Nat):gX (l.drop k) i=gX l (k+i):=by
 simp[gX,List.getD_eq_getElem?_getD,List.getElem?_drop]
theorem EM(l:List ah):dz l=(gX l 0).sz+(gX l 1).sz+(gX l 2).sz+(gX l 3).sz+(gX l 4).sz+(gX l 5).sz+(gX l 6).sz+dz (l.drop 7):=by
 have h:∀k,dz (l.drop k)=(gX l k).sz+dz (l.drop (k+1)):=fun k=>by
  rw[QD (l.drop k),TK,Nat.add_zero,List.drop_drop]
 have h0:=h 0;rw[List.drop_zero] at h0;have h1:=h 1;have h2:=h 2;have h3:=h 3;have h4:=h 4;have h5:=h 5;have h6:=h 6
 simp only[Nat.reduceAdd] at *
 omega
theorem QE(l:List ah):dz l=(gX l 0).sz+(gX l 1).sz+(gX l 2).sz+(gX l 3).sz+dz (l.drop 4):=by
 have h:=EM l;have h1:=EM (l.drop 4)
 have e:∀k,dz (l.drop k)=(gX l k).sz+dz (l.drop (k+1)):=fun k=>by
  rw[QD (l.drop k),TK,Nat.add_zero,List.drop_drop]
 have h4:=e 4;have h5:=e 5;have h6:=e 6
 simp only[Nat.reduceAdd] at *
 omega
theorem WL(l:List ah)(i:Nat):cZ l i=(gX l i).aM:=rfl
theorem CY(x:ah):x.aM.length+(x.aj.length+dz x.aj)=x.sz:=by rw[gM,jf]
theorem agp{α:Type}{x:ah}{dT dF:α}{valid:α->Bool}{sx:α->ah}{head:Prop}(hx:x.aj≠[])(hd:∀a,valid a=true->sx a=x->dT=a/\dF=a)(hh:∀a,sx a=x->head):
 dec (ig x=true/\head/\valid dT=true/\sx dT=x)=(ig x&&dec (vQ (valid dF) (sx dF)=x)):=by
 cases hv:ig x with
 |false=>exact bJ fun h=>by cases h.1
 |true=>
  rw[Bool.true_and];refine lC ⟨fun⟨_,h2,h3,h4⟩=> ?_,fun h=> ?_⟩
  ·have e:=(hd _ h3 h4).2;rw[e,h3,h4,vQ,Gg,if_pos hv]
  ·obtain⟨h1,h2,_⟩:=acp h hx;have e:=(hd _ h1 h2).1;rw[e];exact⟨rfl,hh _ h2,h1,h2⟩
def lW(b:Bool)(y:ah):aS:=if b=true/\y.aj.length≠2 then⟨[],iF⟩ else⟨cZ y.aj 0,dV b (gX y.aj 1)⟩
def kE(b:Bool)(y:ah):bq:=if b=true/\y.aj.length≠2 then⟨[],iF⟩ else⟨cZ y.aj 0,dV b (gX y.aj 1)⟩
def TL(l:List ah)(i:Nat):List (List UInt8):=jA (gX l i).aj
def vV(b:Bool)(x:ah):aO:=
 ⟨cZ x.aj 1,TL x.aj 2,(gX x.aj 3).aj.map (lW b),(gX x.aj 4).aj.map (kE b),dV b (gX x.aj 5),dI b (gX x.aj 6)⟩
theorem aeQ(b:Bool){c:aS}(h:formed c.fType=true):lW b (um c)=c:=by
 unfold lW;rw[if_neg (by simp[um,dN])];show aS.mk c.aZ (dV b (eH c.fType))=c;rw[BH b _ h]
theorem Zy(b:Bool){c:bq}(h:formed c.fType=true):kE b (mq c)=c:=by
 unfold kE;rw[if_neg (by simp[mq,dN])];show bq.mk c.fName (dV b (eH c.fType))=c;rw[BH b _ h]
theorem QF{α β:Type}{f:α->β}{g:β->α}{l:List α}(h:∀a∈l,g (f a)=a):(l.map f).map g=l:=by
 rw[List.map_map,show l.map (g∘f)=l.map id from List.map_congr_left (fun c hc=>h c hc),List.map_id]
theorem QG{f:aO}(h:jT f=true):∀v∈f.aW,v≠[]:=by
 unfold jT at h;simp only[Bool.and_eq_true] at h;exact TA h.2.2.1
theorem BI(b:Bool){f:aO}(h:jT f=true):vV b (xB f)=f:=by
 obtain⟨h1,h2,h3,h4⟩:=pX h;show aO.mk f.fName (jA (aU f.aW)) ((f.dQ.map um).map (lW b)) ((f.aV.map mq).map (kE b)) (dV b (eH f.bR)) (dI b (eB f.fBody))=f;rw[EA (QG h),QF fun c hc=>aeQ b (h1 c hc),QF fun c hc=>Zy b (h2 c hc),BH b _ h3,K8 b _ h4]
noncomputable def okF(x:ah):Bool:=dec (ig x=true/\(7<=x.aj.length/\cZ x.aj 0=Tw)/\jT (vV true x)=true/\xB (vV true x)=x)
theorem acw{x:ah}(hx:x.aj≠[]):okF x=(ig x&&dec (jO (vV false x)=x)):=
 agp hx (fun a h1 h2=>by rw[<-h2];exact⟨BI true h1,BI false h1⟩) fun a h=>by rw[<-h];exact⟨Nat.le_refl _,rfl⟩
theorem acy{x:ah}(h:okF x=true):vV false x=vV true x:=by
 have h1:=iR h
 conv=>lhs;rw[<-h1.2.2.2]
 exact BI false h1.2.2.1
def FH:aO:=⟨[],[],[],[],iF,qZ⟩
noncomputable def mh(x:ah):aO:=if okF x=true then vV true x else FH
theorem aeR(b:Bool)(y:ah):(lW b y).sz<=y.sz:=by
 have h:=BF b (gX y.aj 1);have h1:=QE y.aj;have h2:=CY y;have h3:=CY (gX y.aj 0);unfold lW;split
 ·simp only[aS.sz,aS.aB,bG,bQ,D.sz,ak.bZ,zH];simp
 ·simp only[aS.sz,aS.aB,bG,bQ,D.sz,ak.bZ,WL];omega
theorem Zz(b:Bool)(y:ah):(kE b y).sz<=y.sz:=by
 have h:=BF b (gX y.aj 1);have h1:=QE y.aj;have h2:=CY y;have h3:=CY (gX y.aj 0);unfold kE;split
 ·simp only[bq.sz,bq.aB,bG,bQ,D.sz,ak.bZ,zH];simp
 ·simp only[bq.sz,bq.aB,bG,bQ,D.sz,ak.bZ,WL];omega
theorem QH(b:Bool):∀l:List ah,bA ((l.map (lW b)).map aS.enc)<=dz l
 |[]=>by simp[bA]
 |y::l=>by
  have h1:=aeR b y;have h2:=QH b l;rw[List.map_cons,List.map_cons,bA,dz];simp only[aS.sz] at h1;omega
theorem Ki(b:Bool):∀l:List ah,bA ((l.map (kE b)).map bq.enc)<=dz l
 |[]=>by simp[bA]
 |y::l=>by
  have h1:=Zz b y;have h2:=Ki b l;rw[List.map_cons,List.map_cons,bA,dz];simp only[bq.sz] at h1;omega
theorem Lb(b:Bool)(x:ah):(vV b x).sz<=x.sz:=by
 have h1:=EM x.aj;have h2:=CY x;have h3:=CY (gX x.aj 1);have h4:=Mv (gX x.aj 2).aj;have h4':=CY (gX x.aj 2);have h5:=QH b (gX x.aj 3).aj;have h5':=CY (gX x.aj 3);have h6:=Ki b (gX x.aj 4).aj;have h6':=CY (gX x.aj 4);have h7:=BF b (gX x.aj 5);have h8:=FD b (gX x.aj 6);simp only[aO.sz,aO.aB,bG,bQ,D.sz,ak.bZ,au.bZ,vV,List.length_map,TL,qj,WL];omega
theorem acz:FH.sz=0:=by
 simp only[FH,aO.sz,aO.aB,bG,bQ,D.sz,ak.bZ,au.bZ,zH,Al,List.map_nil,bA,List.length_nil]
theorem ZA{x:ah}(h:x.sz<=1048576):(mh x).sz<=1048576:=by
 have:=Lb true x;unfold mh;split
 ·omega
 ·rw[acz];omega
theorem zJ{l:List ah}{i:Nat}(h:i<l.length):gX l i=l[i]:=by
 show l.getD i eu=_;rw[List.getD_eq_getElem?_getD,List.getElem?_eq_getElem h];rfl
def lB(l:List aS)(n:Nat):List (List D):=dU (l.map aS.enc) n
def adi(l:List aS):Nat:=lT (l.map aS.enc)
def lPr(l:List bq)(n:Nat):List (List D):=dU (l.map bq.enc) n
def adj(l:List bq):Nat:=lT (l.map bq.enc)
theorem TM(x:aS)(n:Nat):dL x.enc n=[.s x.aZ,.i .i64 x.fType.aH,.s x.fType.fName,.ol n (lt x.fType.fArgs (n+1))]:=by
 simp only[aS.aB,ak.aB,List.cons_append,List.nil_append,dL,kC,nU,Nat.add_zero,lt]
theorem QI(x:bq)(n:Nat):dL x.enc n=[.s x.fName,.i .i64 x.fType.aH,.s x.fType.fName,.ol n (lt x.fType.fArgs (n+1))]:=by
 simp only[bq.aB,ak.aB,List.cons_append,List.nil_append,dL,kC,nU,Nat.add_zero,lt]
theorem Gu{α:Type}{e:α->List D}{l:List α}{i:Nat}(hi:i<l.length)(n:Nat):dU ((l.take i).map e) n++[dL (e l[i]) (n+lT ((l.take i).map e))]=dU ((l.take (i+1)).map e) n:=by
 rw[List.take_succ_eq_append_getElem hi,List.map_append,oF];rfl
theorem Kj{α:Type}{e:α->List D}{l:List α}{i:Nat}(hi:i<l.length):(l.take i).map e++[e l[i]]=(l.take (i+1)).map e:=by
 rw[List.take_succ_eq_append_getElem hi,List.map_append];rfl
theorem TN{b:Bool}{y:ah}(h:b=false\/y.aj.length=2):(lW b y).aZ=cZ y.aj 0/\(lW b y).fType=dV b (y.aj.getD 1 eu):=by
 unfold lW;rw[if_neg (by rintro⟨e1,e2⟩;rcases h with e|e;(rw[e] at e1;cases e1);exact e2 e)];exact⟨rfl,rfl⟩
theorem acA{y:ah}(h:y.aj.length≠2):lW true y=⟨[],iF⟩:=if_pos ⟨rfl,h⟩
theorem MN{b:Bool}{y:ah}(h:b=false\/y.aj.length=2):(kE b y).fName=cZ y.aj 0/\(kE b y).fType=dV b (y.aj.getD 1 eu):=by
 unfold kE;rw[if_neg (by rintro⟨e1,e2⟩;rcases h with e|e;(rw[e] at e1;cases e1);exact e2 e)];exact⟨rfl,rfl⟩
theorem WM{y:ah}(h:y.aj.length≠2):kE true y=⟨[],iF⟩:=if_pos ⟨rfl,h⟩
theorem aeS{x:ah}(h:iO x=true){i:Nat}(hi:i<x.aj.length):iO x.aj[i]=true:=vU (ML h (fun e=>by rw[e] at hi;simp at hi)) (List.getElem_mem hi)
theorem WO(x:ah){i:Nat}(hi:i<x.aj.length):x.aj[i].sz<=x.sz:=by
 have:=jq (List.getElem_mem hi);have:=gP x;omega
abbrev aO.cl(x:aO)(n p q r:Nat):List C:=[.d (.s x.fName),.d (.ol n (x.aW.map encS)),.d (.ol (n+1) (lB x.dQ (n+1+1))),.d (.ol p (lPr x.aV (p+1))),.d (.i .i64 x.bR.aH),.d (.s x.bR.fName),.d (.ol q (lt x.bR.fArgs (q+1))),
 .d (.i .i64 x.fBody.aH),.d (.s x.fBody.aZ),.d (.s x.fBody.fName),.d (.i .i64 x.fBody.fN),.d (.i .i64 x.fBody.fType.aH),.d (.s x.fBody.fType.fName),.d (.ol r (lt x.fBody.fType.fArgs (r+1))),
 .d (.ol (r+(fK x.fBody.fType.fArgs+1)) (lE x.fBody.fArgs (r+(fK x.fBody.fType.fArgs+1)+1))),.d (.ol (r+(fK x.fBody.fType.fArgs+1)+(kK x.fBody.fArgs+1)) (lM x.fBody.aI (r+(fK x.fBody.fType.fArgs+1)+(kK x.fBody.fArgs+1)+1)))]
abbrev aO.cv(x:aO):List C:=[.d (.s x.fName),.d (.sl (x.aW.map encS)),.d (.sl (x.dQ.map aS.enc)),.d (.sl (x.aV.map bq.enc)),.d (.i .i64 x.bR.aH),.d (.s x.bR.fName),.d (.sl (x.bR.fArgs.map ak.enc)),
 .d (.i .i64 x.fBody.aH),.d (.s x.fBody.aZ),.d (.s x.fBody.fName),.d (.i .i64 x.fBody.fN),.d (.i .i64 x.fBody.fType.aH),.d (.s x.fBody.fType.fName),.d (.sl (x.fBody.fType.fArgs.map ak.enc)),.d (.sl (x.fBody.fArgs.map au.enc)),.d (.sl (x.fBody.aI.map aJ.enc))]
def pF(x:aO)(n:Nat):Nat:=n+1+(adi x.dQ+1)
def qF(x:aO)(n:Nat):Nat:=pF x n+(adj x.aV+1)
def rF(x:aO)(n:Nat):Nat:=qF x n+(fK x.bR.fArgs+1)
theorem aeV(x:aO)(n:Nat):(dL x.enc n).map C.d=x.cl n (pF x n) (qF x n) (rF x n):=by
 simp only[aO.aB,au.aB,ak.aB,List.cons_append,List.nil_append,dL,kC,nU,Nat.add_zero,lt,lE,lM,lB,lPr,fK,kK,adi,adj,pF,qF,rF,G9,Qr,Nat.zero_add,List.map_cons,List.map_nil];rfl
theorem ZB{x:ah}(h:okF x=false):mh x=FH:=if_neg (by rw[h];decide)
theorem TP{x:ah}(h:okF x=true):mh x=vV true x:=if_pos h
abbrev BJ:List C:=[.d (.s []),.bE [],.bE [],.bE [],.d (.i .i64 0),.d (.s []),.bE [],.d (.i .i64 0),.d (.s []),.d (.s []),.d (.i .i64 0),.d (.i .i64 0),.d (.s []),.bE [],.bE [],.bE []]
theorem ajk(e:aO)(h:e=FH)(ok:Bool):Less (.d9 [(true,BJ),(false,[.d (.b ok)])]) (.d9 [(true,e.cv),(false,[.d (.b ok)])]):=by
 rw[h];exact(jU.cons (.cons (.refl _) (.cons (gG _) (.cons (gG _) (.cons (gG _) (.cons (.refl _) (.cons (.refl _) (.cons (gG _) (.cons (.refl _) (.cons (.refl _) (.cons (.refl _) (.cons (.refl _) (.cons (.refl _) (.cons (.refl _) (.cons (gG _) (.cons (gG _) (.cons (gG _) .nil)))))))))))))))) (.refl _)).less
theorem agt(e:aO)(h:e=FH)(n p q r:Nat)(ok:Bool):Less (.d9 [(true,BJ),(false,[.d (.b ok)])]) (.d9 [(true,e.cl n p q r),(false,[.d (.b ok)])]):=by
 rw[h];exact(jU.cons (.cons (.refl _) (.cons (eX _) (.cons (eX _) (.cons (eX _) (.cons (.refl _) (.cons (.refl _) (.cons (eX _) (.cons (.refl _) (.cons (.refl _) (.cons (.refl _) (.cons (.refl _) (.cons (.refl _) (.cons (.refl _) (.cons (eX _) (.cons (eX _) (.cons (eX _) .nil)))))))))))))))) (.refl _)).less
theorem Np(x:ah)(hsz:x.sz<=4194304):aG prog 65 [x.v] (.c (.d (.sl ((x.aj.map (lW false)).map aS.enc)))):=fun S=>by
 have h1:=gP x
 have hall:∀t∈x.aj,t.sz<=4194304:=fun t ht=>by have:=jq ht;omega
 have yE:=fun(i:Nat) (hi:i<x.aj.length)=>Kj (e:=aS.enc) (l:=x.aj.map (lW false)) (i:=i) (by rw[List.length_map];exact hi);refine zcx [.tmp 2] func65 ntmps65 ?_;simp -implicitDefEqProofs (disch:=omega) only[go_sem]
 (repeat(with_reducible refine And.intro ?_ ?_;focus first|omega|rfl|assumption|exact⟨_,rfl,rfl⟩|(simp;omega)|(simp;done)))
 refine uR 3 4 [] rfl (by simp) ?_
 refine bC (ι:=Nat) zmx rfl [1,3,4] (fun i=>[.c (.ptr (0,0) 0),.c (.bL (0,1) (((x.aj.map (lW false)).take i).map aS.enc)),.c (.d (.i .i64 i))]) (fun i=>[.box [.d (.s x.aM),.d (.sl (x.aj.map ah.enc))],.tok 4 (((x.aj.map (lW false)).take i).map aS.enc)]::S)
  (fun i=>i<=x.aj.length) (fun i=>x.aj.length-i) 0 rfl rfl (Nat.zero_le _) ?_
 intro i hi
 have hl:(((x.aj.map (lW false)).take i).map aS.enc).length<=i:=by rw[List.length_map];exact List.length_take_le _ _
 simp -implicitDefEqProofs (disch:=omega) only[go_sem]
 with_reducible refine aA (fun hb=> ?_) (fun hb=> ?_)<;>have h:=hb<;>(try simp only[wf_preprocess] at h)<;>simp -implicitDefEqProofs (disch:=omega) only[go_sem,hb]<;>(repeat(with_reducible refine And.intro ?_ ?_;focus first|omega|rfl|assumption|exact⟨_,rfl,rfl⟩|(simp;omega)|(simp;done)))
 ·have hi':i<x.aj.length:=by omega
  have hz:=hall _ (List.getElem_mem hi');have hs:=yE i hi';have hb:=TN (b:=false) (y:=x.aj[i]) (.inl rfl);rw[List.getElem_map] at hs;simp only[aS.aB,ak.aB,List.cons_append,List.nil_append,hb.1,hb.2] at hs
  (repeat(with_reducible refine And.intro ?_ ?_;focus first|omega|rfl|assumption|exact⟨_,rfl,rfl⟩|(simp;omega)|(simp;done)))
  refine ay (mK x.aj[i] 0 hz (by omega)) ?_;simp -implicitDefEqProofs (disch:=omega) only[go_sem]
  (repeat(with_reducible refine And.intro ?_ ?_;focus first|omega|rfl|assumption|exact⟨_,rfl,rfl⟩|(simp;omega)|(simp;done)))
  refine ay (mK x.aj[i] 1 hz (by omega)) ?_;simp -implicitDefEqProofs (disch:=omega) only[go_sem];refine ay (vo (x.aj[i].aj.getD 1 eu) (zI _ 1 hz)) ?_;simp -implicitDefEqProofs (disch:=omega) only[go_sem]
  (repeat(with_reducible refine And.intro ?_ ?_;focus first|omega|rfl|assumption|exact⟨_,rfl,rfl⟩|(simp;omega)|(simp;done)))
  show _;rw[show(x.aj[i].aj.getD 0 eu).aM=cZ x.aj[i].aj 0 from rfl,hs];exact cO (i+1) (by omega) rfl rfl (by omega)
 ·have hi':i=(x.aj.map (lW false)).length:=by rw[List.length_map];omega
  rw[hi',List.take_length]
theorem Nq(x:ah)(n q:Nat)(hsz:x.sz<=4194304):aG prog 58 [x.v] (.c (.d (.ol n (lB (x.aj.map (lW true)) q)))):=aG.of_le fun S=>by
 have h1:=gP x
 have hall:∀t∈x.aj,t.sz<=4194304:=fun t ht=>by have:=jq ht;omega
 obtain⟨L,hL⟩:∃L:Nat->Nat,L=fun i=>q+lT (((x.aj.map (lW true)).take i).map aS.enc):=⟨_,rfl⟩;obtain⟨T,hT⟩:∃T:Nat->List (List D),T=fun i=>dU (((x.aj.map (lW true)).take i).map aS.enc) q:=⟨_,rfl⟩
 have hT0:T 0=[]:=by rw[hT];rfl
 have nN:∀i,(T i).length<=i:=fun i=>by rw[hT];simp only[jw,List.length_map];exact List.length_take_le _ _
 have hTr:∀i,∀r∈T i,r.length=4:=fun i=>by
  rw[hT]
  exact yC fun r hr=>by
   obtain⟨z,_,rfl⟩:=List.mem_map.1 hr;exact z.bK
 have hTs:∀i (hi:i<x.aj.length),T i++[dL (lW true x.aj[i]).enc (L i)]=T (i+1):=fun i hi=>by
  have:=Gu (e:=aS.enc) (l:=x.aj.map (lW true)) (i:=i) (by rw[List.length_map];exact hi) q;rw[List.getElem_map] at this;rw[hT,hL];exact this
 have hTe:T x.aj.length=lB (x.aj.map (lW true)) q:=by
  rw[hT];simp only
  rw[List.take_of_length_le (by simp)];rfl
 clear hT hL;refine lK (n) (rs:=[.tmp 2]) zmx func58 ntmps58 rfl rfl rfl rfl rfl ?_;simp -implicitDefEqProofs (disch:=omega) only[go_sem]
 (repeat(with_reducible refine And.intro ?_ ?_;focus first|omega|rfl|assumption|exact⟨_,rfl,rfl⟩|(simp;omega)|(simp;done)))
 refine qd n 3 4 [] (.inl rfl) (by simp) ?_
 refine bC (ι:=Nat×List (List D)) zmx rfl [3,9,10,11] (fun y=>[.c (.bL (0,2) y.2),.c (.d (.sl (x.aj.map ah.enc))),.c (.d (.i .i64 x.aj.length)),.c (.d (.i .i64 y.1))])
  (fun y=>[.seed n,.box [.d (.s x.aM),.d (.sl (x.aj.map ah.enc))],.dY n 4 y.2]::S)
  (fun y=>y.1<=x.aj.length/\gF y.2 (T y.1)) (fun y=>x.aj.length-y.1) (0,[]) rfl rfl ⟨Nat.zero_le _,by rw[hT0];exact .nil⟩ ?_
 rintro⟨i,U⟩ ⟨p1,p2⟩;simp only at p1 p2;have hU1:=p2.length;have hU2:=nN i;have hU3:=p2.rows (hTr i);simp -implicitDefEqProofs (disch:=omega) only[go_sem]
 with_reducible refine aA (fun hb=> ?_) (fun hb=> ?_)<;>have h:=hb<;>(try simp only[wf_preprocess] at h)<;>simp -implicitDefEqProofs (disch:=omega) only[go_sem,hb]<;>(repeat(with_reducible refine And.intro ?_ ?_;focus first|omega|rfl|assumption|exact⟨_,rfl,rfl⟩|(simp;omega)|(simp;done)))
 ·have hi':i<x.aj.length:=by omega
  have hz:=hall _ (List.getElem_mem hi');have hs:=hTs i hi';have hz1:=gP x.aj[i]
  (repeat(with_reducible refine And.intro ?_ ?_;focus first|omega|rfl|assumption|exact⟨_,rfl,rfl⟩|(simp;omega)|(simp;done)))
  with_reducible refine aA (fun hb=> ?_) (fun hb=> ?_)<;>have h:=hb<;>(try simp only[wf_preprocess] at h)<;>simp -implicitDefEqProofs (disch:=omega) only[go_sem,hb]<;>(repeat(with_reducible refine And.intro ?_ ?_;focus first|omega|rfl|assumption|exact⟨_,rfl,rfl⟩|(simp;omega)|(simp;done)))
  ·have hl2:x.aj[i].aj.length=2:=by omega
   have hb:=TN (b:=true) (y:=x.aj[i]) (.inr hl2);have g1:x.aj[i].aj.getD 1 eu=x.aj[i].aj[1]:=zJ (by omega);rw[TM,hb.1,hb.2,kS (by omega:0<x.aj[i].aj.length),g1] at hs;have hz2:=WO x.aj[i] (i:=1) (by omega)
   (repeat(with_reducible refine And.intro ?_ ?_;focus first|omega|rfl|assumption|exact⟨_,rfl,rfl⟩|(simp;omega)|(simp;done)))
   refine ay (sD x.aj[i].aj[1] (L i) (by omega)) ?_;simp -implicitDefEqProofs (disch:=omega) only[go_sem]
   (repeat(with_reducible refine And.intro ?_ ?_;focus first|omega|rfl|assumption|exact⟨_,rfl,rfl⟩|(simp;omega)|(simp;done)))
   refine dM 3 (by decide) (i+1,_) (by simp only;omega) rfl rfl rfl rfl ⟨by simp only;omega,?_⟩
   simp only
   rw[<-hs];exact p2.snoc (.refl _)
  ·have hl2:x.aj[i].aj.length≠2:=by omega
   rw[TM,acA hl2] at hs;refine dM 3 (by decide) (i+1,_) (by simp only;omega) rfl rfl rfl rfl ⟨by simp only;omega,?_⟩
   simp only
   rw[<-hs];exact p2.snoc (.cons (.refl _) (.cons (.refl _) (.cons (.refl _) (.cons (TJ _) .nil))))
 ·have hi':i=x.aj.length:=by omega
  subst hi';rw[hTe] at p2;exact acv p2
theorem QJ(x:ah)(hsz:x.sz<=1048576):aG prog 15 [x.v] (.d9 [(true,(mh x).cv),(false,[.d (.b (okF x))])]):=aG.of_le fun S=>by
 have h1:=gP x;have hds:=Lb false x;have hos:=aeD (f:=vV false x) (by omega);have hgs:=fun i=>zI x i (m:=4194304) (by omega);obtain⟨l,hl⟩:∃l,l=(x.aj.getD 4 eu).aj:=⟨_,rfl⟩;have hg4:=gP (x.aj.getD 4 eu)
 have hll:l.length<=4194304:=by have:=hgs 4;rw[hl];omega
 have hlm:∀y∈l,y.sz<=4194304:=fun y hy=>by
  have:=hgs 4;have:=jq (hl▸hy);omega
 obtain⟨F,hF⟩:∃F,F=vV false x:=⟨_,rfl⟩
 have f1:F.fName=(x.aj.getD 1 eu).aM:=by rw[hF];rfl
 have f2:F.aW=jA (x.aj.getD 2 eu).aj:=by rw[hF];rfl
 have f3:F.dQ=(x.aj.getD 3 eu).aj.map (lW false):=by rw[hF];rfl
 have f5:F.bR=dV false (x.aj.getD 5 eu):=by rw[hF];rfl
 have f6:F.fBody=dI false (x.aj.getD 6 eu):=by rw[hF];rfl
 obtain⟨T,hT⟩:∃T:Nat->List (List D),T=fun i=>((l.map (kE false)).take i).map bq.enc:=⟨_,rfl⟩
 have hT0:T 0=[]:=by rw[hT];rfl
 have nN:∀i,(T i).length<=i:=fun i=>by rw[hT];simp only[List.length_map];exact List.length_take_le _ _
 have hTs:∀i (hi:i<l.length),T i++[(kE false l[i]).enc]=T (i+1):=fun i hi=>by
  have:=Kj (e:=bq.enc) (l:=l.map (kE false)) (i:=i) (by rw[List.length_map];exact hi);rw[List.getElem_map] at this;rw[hT];exact this
 have hTe:T l.length=F.aV.map bq.enc:=by
  rw[hT];simp only
  rw[List.take_of_length_le (by simp),hF,hl];rfl
 clear hT
 have CZ:okF x=false->Less (.d9 [(true,BJ),(false,[.d (.b false)])]) (.d9 [(true,(mh x).cv),(false,[.d (.b (okF x))])]):=fun e=>by
  rw[e];exact ajk _ (ZB e) false
 have c5:=vo (x.aj.getD 5 eu) (hgs 5);have c6:=Sy (x.aj.getD 6 eu) (hgs 6);have c2:=Qs _ (hgs 2);have c3:=Np _ (hgs 3);rw[<-f2] at c2;rw[<-f3] at c3;rw[<-f5] at c5;rw[<-f6] at c6;refine zcx [.cell 2 35,.tmp 3] func15 ntmps15 ?_;simp -implicitDefEqProofs (disch:=omega) only[go_sem];refine ay (mK x 1 (by omega) (by omega)) ?_;simp -implicitDefEqProofs (disch:=omega) only[go_sem];refine ay (mK x 2 (by omega) (by omega)) ?_;simp -implicitDefEqProofs (disch:=omega) only[go_sem];refine ay c2 ?_;simp -implicitDefEqProofs (disch:=omega) only[go_sem];refine ay (mK x 3 (by omega) (by omega)) ?_;simp -implicitDefEqProofs (disch:=omega) only[go_sem];refine ay c3 ?_;simp -implicitDefEqProofs (disch:=omega) only[go_sem];refine ay (mK x 5 (by omega) (by omega)) ?_;simp -implicitDefEqProofs (disch:=omega) only[go_sem];refine ay c5 ?_;simp -implicitDefEqProofs (disch:=omega) only[go_sem];refine ay (mK x 6 (by omega) (by omega)) ?_;simp -implicitDefEqProofs (disch:=omega) only[go_sem];refine ay c6 ?_;simp -implicitDefEqProofs (disch:=omega) only[go_sem]
 (repeat(with_reducible refine And.intro ?_ ?_;focus first|omega|rfl|assumption|exact⟨_,rfl,rfl⟩|(simp;omega)|(simp;done)))
 refine ay (mK x 4 (by omega) (by omega)) ?_;simp -implicitDefEqProofs (disch:=omega) only[go_sem];rw[<-hl,<-f1];refine Aj 2 3 4 _ rfl rfl ?_
 refine bC (ι:=Nat) zmx rfl [1,2,4,5,6] (fun i=>[.c (.ptr (0,0) 0),.c (.ptr (0,1) 0),.c (.ptr (0,2) 0),.c (.ptr (0,3) 0),.c (.d (.i .i64 i))])
  (fun i=>[.box [.d (.s x.aM),.d (.sl (x.aj.map ah.enc))],.box BJ,.box [.d (.s F.fName),.d (.sl (F.aW.map encS)),.d (.sl (F.dQ.map aS.enc)),.bL (0,4) (T i),.d (.i .i64 F.bR.aH),.d (.s F.bR.fName),.d (.sl (F.bR.fArgs.map ak.enc)),
    .d (.i .i64 F.fBody.aH),.d (.s F.fBody.aZ),.d (.s F.fBody.fName),.d (.i .i64 F.fBody.fN),.d (.i .i64 F.fBody.fType.aH),.d (.s F.fBody.fType.fName),.d (.sl (F.fBody.fType.fArgs.map ak.enc)),.d (.sl (F.fBody.fArgs.map au.enc)),.d (.sl (F.fBody.aI.map aJ.enc))],
    .box [.d (.s (x.aj.getD 4 eu).aM),.d (.sl (l.map ah.enc))],.tok 4 (T i)]::S)
  (fun i=>i<=l.length) (fun i=>l.length-i) 0 rfl (by rw[hT0];rfl) (Nat.zero_le _) ?_
 intro i hi;have hl':=nN i;simp -implicitDefEqProofs (disch:=omega) only[go_sem]
 with_reducible refine aA (fun hb=> ?_) (fun hb=> ?_)<;>have h:=hb<;>(try simp only[wf_preprocess] at h)<;>simp -implicitDefEqProofs (disch:=omega) only[go_sem,hb]<;>(repeat(with_reducible refine And.intro ?_ ?_;focus first|omega|rfl|assumption|exact⟨_,rfl,rfl⟩|(simp;omega)|(simp;done)))
 ·have hi':i<l.length:=by omega
  have hz:=hlm _ (List.getElem_mem hi');have hs:=hTs i hi';have hb:=MN (b:=false) (y:=l[i]) (.inl rfl);simp only[bq.aB,ak.aB,List.cons_append,List.nil_append,hb.1,hb.2] at hs
  (repeat(with_reducible refine And.intro ?_ ?_;focus first|omega|rfl|assumption|exact⟨_,rfl,rfl⟩|(simp;omega)|(simp;done)))
  refine ay (mK l[i] 0 hz (by omega)) ?_;simp -implicitDefEqProofs (disch:=omega) only[go_sem]
  (repeat(with_reducible refine And.intro ?_ ?_;focus first|omega|rfl|assumption|exact⟨_,rfl,rfl⟩|(simp;omega)|(simp;done)))
  refine ay (mK l[i] 1 hz (by omega)) ?_;simp -implicitDefEqProofs (disch:=omega) only[go_sem];refine ay (vo (l[i].aj.getD 1 eu) (zI _ 1 hz)) ?_;simp -implicitDefEqProofs (disch:=omega) only[go_sem]
  (repeat(with_reducible refine And.intro ?_ ?_;focus first|omega|rfl|assumption|exact⟨_,rfl,rfl⟩|(simp;omega)|(simp;done)))
  rw[show(l[i].aj.getD 0 eu).aM=cZ l[i].aj 0 from rfl,hs];exact dM 5 (by decide) (i+1) (by omega) rfl rfl rfl rfl (by omega)
 ·have hi':i=l.length:=by omega
  subst hi';rw[hTe];clear hTs;refine ay (xQ x (by omega)) ?_;simp -implicitDefEqProofs (disch:=omega) only[go_sem]
  with_reducible refine aA (fun hb=> ?_) (fun hb=> ?_)<;>have h:=hb<;>(try simp only[wf_preprocess] at h)<;>simp -implicitDefEqProofs (disch:=omega) only[go_sem,hb]<;>(repeat(with_reducible refine And.intro ?_ ?_;focus first|omega|rfl|assumption|exact⟨_,rfl,rfl⟩|(simp;omega)|(simp;done)))
  ·exact CZ (bJ fun e=>by rw[e.1] at h;cases h)
  have hv:=h
  with_reducible refine aA (fun hb=> ?_) (fun hb=> ?_)<;>have h:=hb<;>(try simp only[wf_preprocess] at h)<;>simp -implicitDefEqProofs (disch:=omega) only[go_sem,hb]<;>(repeat(with_reducible refine And.intro ?_ ?_;focus first|omega|rfl|assumption|exact⟨_,rfl,rfl⟩|(simp;omega)|(simp;done)))
  ·exact CZ (bJ fun e=>by omega)
  have hne:x.aj≠[]:=fun e=>by rw[e] at h;exact h rfl
  have hok:=acw hne;rw[hv,Bool.true_and] at hok;rw[<-hF] at hok hos hds
  (repeat(with_reducible refine And.intro ?_ ?_;focus first|omega|rfl|assumption|exact⟨_,rfl,rfl⟩|(simp;omega)|(simp;done)))
  refine ay (Ai F (by omega)) ?_;simp -implicitDefEqProofs (disch:=omega) only[go_sem];refine ay (l9 (jO F) x (by omega)) ?_;simp -implicitDefEqProofs (disch:=omega) only[go_sem]
  with_reducible refine aA (fun hb=> ?_) (fun hb=> ?_)<;>have h:=hb<;>(try simp only[wf_preprocess] at h)<;>simp -implicitDefEqProofs (disch:=omega) only[go_sem,hb]<;>(repeat(with_reducible refine And.intro ?_ ?_;focus first|omega|rfl|assumption|exact⟨_,rfl,rfl⟩|(simp;omega)|(simp;done)))
  ·exact CZ (by rw[hok];exact bJ h)
  ·have hy:okF x=true:=by rw[hok];exact dx h
   rw[TP hy,hy,<-acy hy,<-hF];exact jm _
theorem Nr(x:ah)(n:Nat)(hsz:x.sz<=1048576):aG prog 13 [x.v] (.d9 [(true,(mh x).cl n (pF (mh x) n) (qF (mh x) n) (rF (mh x) n)),(false,[.d (.b (okF x))])]):=aG.of_le fun S=>by
 have h1:=gP x;have hds:=Lb true x;obtain⟨F,hF⟩:∃F,F=vV true x:=⟨_,rfl⟩;obtain⟨p,hp⟩:∃p,p=pF F n:=⟨_,rfl⟩;obtain⟨q,hq⟩:∃q,q=qF F n:=⟨_,rfl⟩;obtain⟨r,hr0⟩:∃r,r=rF F n:=⟨_,rfl⟩
 have CZ:okF x=false->Less (.d9 [(true,BJ),(false,[.d (.b false)])]) (.d9 [(true,(mh x).cl n (pF (mh x) n) (qF (mh x) n) (rF (mh x) n)),(false,[.d (.b (okF x))])]):=fun e=>by
  rw[e];exact agt _ (ZB e) n _ _ _ false
 refine lK (n) (rs:=[.cell 2 35,.tmp 3]) zmx func13 ntmps13 rfl rfl rfl rfl rfl ?_;simp -implicitDefEqProofs (disch:=omega) only[go_sem];refine ay (Wz x Tw 7 (by omega) (by omega) (by omega)) ?_;simp -implicitDefEqProofs (disch:=omega) only[go_sem]
 with_reducible refine aA (fun hb=> ?_) (fun hb=> ?_)<;>have h:=hb<;>(try simp only[wf_preprocess] at h)<;>simp -implicitDefEqProofs (disch:=omega) only[go_sem,hb]<;>(repeat(with_reducible refine And.intro ?_ ?_;focus first|omega|rfl|assumption|exact⟨_,rfl,rfl⟩|(simp;omega)|(simp;done)))
 ·exact CZ (bJ fun e=>h ⟨e.1,e.2.1.1,e.2.1.2⟩)
 have hf:=h;have hvx:=L9 hf.1
 have hfo:iO x=true:=by have:=hf.1;unfold ig at this;rw[Bool.and_eq_true] at this;exact this.1
 have hlen:7<=x.aj.length:=hf.2.1
 have f1:F.fName=x.aj[1].aM:=by rw[hF];exact kS (by omega)
 have f2:F.aW=jA x.aj[2].aj:=by rw[hF,<-zJ (l:=x.aj) (i:=2) (by omega)];rfl
 have f3:F.dQ=x.aj[3].aj.map (lW true):=by rw[hF,<-zJ (l:=x.aj) (i:=3) (by omega)];rfl
 have f4:F.aV=x.aj[4].aj.map (kE true):=by rw[hF,<-zJ (l:=x.aj) (i:=4) (by omega)];rfl
 have f5:F.bR=dV true x.aj[5]:=by rw[hF,<-zJ (l:=x.aj) (i:=5) (by omega)];rfl
 have f6:F.fBody=dI true x.aj[6]:=by rw[hF,<-zJ (l:=x.aj) (i:=6) (by omega)];rfl
 have hzs:=fun i hi=>WO x (i:=i) hi;have c2:=Nk x.aj[2] (by have:=hzs 2 (by omega);omega) n;have c3:=Nq x.aj[3] (n+1) (n+1+1) (by have:=hzs 3 (by omega);omega);have c5:=sD x.aj[5] q (by have:=hzs 5 (by omega);omega);have c6:=QC x.aj[6] r (aeS hfo (by omega)) (by have:=hzs 6 (by omega);omega);rw[<-f2] at c2;rw[<-f3] at c3;rw[<-f5] at c5;rw[<-f6] at c6;have hz4:=hzs 4 (by omega);obtain⟨l,hl⟩:∃l,l=x.aj[4].aj:=⟨_,rfl⟩;have hg4:=gP x.aj[4]
 have hll:l.length<=4194304:=by rw[hl];omega
 have hlm:∀y∈l,y.sz<=4194304:=fun y hy=>by have:=jq (hl▸hy);omega
 obtain⟨L,hL⟩:∃L:Nat->Nat,L=fun i=>p+1+lT (((l.map (kE true)).take i).map bq.enc):=⟨_,rfl⟩;obtain⟨T,hT⟩:∃T:Nat->List (List D),T=fun i=>dU (((l.map (kE true)).take i).map bq.enc) (p+1):=⟨_,rfl⟩
 have hT0:T 0=[]:=by rw[hT];rfl
 have nN:∀i,(T i).length<=i:=fun i=>by rw[hT];simp only[jw,List.length_map];exact List.length_take_le _ _
 have hTr:∀i,∀r∈T i,r.length=4:=fun i=>by
  rw[hT]
  exact yC fun r hr=>by
   obtain⟨z,_,rfl⟩:=List.mem_map.1 hr;exact z.bK
 have hTs:∀i (hi:i<l.length),T i++[dL (kE true l[i]).enc (L i)]=T (i+1):=fun i hi=>by
  have:=Gu (e:=bq.enc) (l:=l.map (kE true)) (i:=i) (by rw[List.length_map];exact hi) (p+1);rw[List.getElem_map] at this;rw[hT,hL];exact this
 have hTe:T l.length=lPr F.aV (p+1):=by
  rw[hT];simp only
  rw[List.take_of_length_le (by simp),f4,hl];rfl
 clear hT hL
 (repeat(with_reducible refine And.intro ?_ ?_;focus first|omega|rfl|assumption|exact⟨_,rfl,rfl⟩|(simp;omega)|(simp;done)))
 refine ay c2 ?_;simp -implicitDefEqProofs (disch:=omega) only[go_sem]
 (repeat(with_reducible refine And.intro ?_ ?_;focus first|omega|rfl|assumption|exact⟨_,rfl,rfl⟩|(simp;omega)|(simp;done)))
 refine ay c3 ?_;simp -implicitDefEqProofs (disch:=omega) only[go_sem]
 (repeat(with_reducible refine And.intro ?_ ?_;focus first|omega|rfl|assumption|exact⟨_,rfl,rfl⟩|(simp;omega)|(simp;done)))
 refine ay c5 ?_;simp -implicitDefEqProofs (disch:=omega) only[go_sem]
 (repeat(with_reducible refine And.intro ?_ ?_;focus first|omega|rfl|assumption|exact⟨_,rfl,rfl⟩|(simp;omega)|(simp;done)))
 refine ay c6 ?_;simp -implicitDefEqProofs (disch:=omega) only[go_sem]
 (repeat(with_reducible refine And.intro ?_ ?_;focus first|omega|rfl|assumption|exact⟨_,rfl,rfl⟩|(simp;omega)|(simp;done)))
 rw[<-hl,<-f1];refine CV p 3 3 4 _ rfl rfl ?_
 refine bC (ι:=Nat×List (List D)) zmx rfl [1,2,5,39,40,41] (fun y=>[.c (.ptr (0,1) 0),.c (.ptr (0,2) 0),.c (.ptr (0,3) 0),.c (.d (.sl (l.map ah.enc))),.c (.d (.i .i64 l.length)),.c (.d (.i .i64 y.1))])
  (fun y=>[.seed n,.box [.d (.s x.aM),.d (.sl (x.aj.map ah.enc))],.box BJ,.box [.d (.s F.fName),.d (.ol n (F.aW.map encS)),.d (.ol (n+1) (lB F.dQ (n+1+1))),.bL (0,4) y.2,.d (.i .i64 F.bR.aH),.d (.s F.bR.fName),.d (.ol q (lt F.bR.fArgs (q+1))),
    .d (.i .i64 F.fBody.aH),.d (.s F.fBody.aZ),.d (.s F.fBody.fName),.d (.i .i64 F.fBody.fN),.d (.i .i64 F.fBody.fType.aH),.d (.s F.fBody.fType.fName),.d (.ol r (lt F.fBody.fType.fArgs (r+1))),
    .d (.ol (r+(fK F.fBody.fType.fArgs+1)) (lE F.fBody.fArgs (r+(fK F.fBody.fType.fArgs+1)+1))),.d (.ol (r+(fK F.fBody.fType.fArgs+1)+(kK F.fBody.fArgs+1)) (lM F.fBody.aI (r+(fK F.fBody.fType.fArgs+1)+(kK F.fBody.fArgs+1)+1)))],
    .dY p 4 y.2]::S)
  (fun y=>y.1<=l.length/\gF y.2 (T y.1)) (fun y=>l.length-y.1) (0,[]) rfl rfl ⟨Nat.zero_le _,by rw[hT0];exact .nil⟩ ?_
 rintro⟨i,U⟩ ⟨p1,p2⟩;simp only at p1 p2;have hU1:=p2.length;have hU2:=nN i;have hU3:=p2.rows (hTr i);simp -implicitDefEqProofs (disch:=omega) only[go_sem]
 with_reducible refine aA (fun hb=> ?_) (fun hb=> ?_)<;>have h:=hb<;>(try simp only[wf_preprocess] at h)<;>simp -implicitDefEqProofs (disch:=omega) only[go_sem,hb]<;>(repeat(with_reducible refine And.intro ?_ ?_;focus first|omega|rfl|assumption|exact⟨_,rfl,rfl⟩|(simp;omega)|(simp;done)))
 ·have hi':i<l.length:=by omega
  have hz:=hlm _ (List.getElem_mem hi');have hs:=hTs i hi';have hz1:=gP l[i]
  (repeat(with_reducible refine And.intro ?_ ?_;focus first|omega|rfl|assumption|exact⟨_,rfl,rfl⟩|(simp;omega)|(simp;done)))
  with_reducible refine aA (fun hb=> ?_) (fun hb=> ?_)<;>have h:=hb<;>(try simp only[wf_preprocess] at h)<;>simp -implicitDefEqProofs (disch:=omega) only[go_sem,hb]<;>(repeat(with_reducible refine And.intro ?_ ?_;focus first|omega|rfl|assumption|exact⟨_,rfl,rfl⟩|(simp;omega)|(simp;done)))
  ·have hl2:l[i].aj.length=2:=by omega
   have hb:=MN (b:=true) (y:=l[i]) (.inr hl2);have g1:l[i].aj.getD 1 eu=l[i].aj[1]:=zJ (by omega);rw[QI,hb.1,hb.2,kS (by omega:0<l[i].aj.length),g1] at hs;have hz2:=WO l[i] (i:=1) (by omega)
   (repeat(with_reducible refine And.intro ?_ ?_;focus first|omega|rfl|assumption|exact⟨_,rfl,rfl⟩|(simp;omega)|(simp;done)))
   refine ay (sD l[i].aj[1] (L i) (by omega)) ?_;simp -implicitDefEqProofs (disch:=omega) only[go_sem]
   (repeat(with_reducible refine And.intro ?_ ?_;focus first|omega|rfl|assumption|exact⟨_,rfl,rfl⟩|(simp;omega)|(simp;done)))
   refine dM 5 (by decide) (i+1,_) (by simp only;omega) rfl rfl rfl rfl ⟨by simp only;omega,?_⟩
   simp only
   rw[<-hs];exact p2.snoc (.refl _)
  ·have hl2:l[i].aj.length≠2:=by omega
   rw[QI,WM hl2] at hs;refine dM 5 (by decide) (i+1,_) (by simp only;omega) rfl rfl rfl rfl ⟨by simp only;omega,?_⟩
   simp only
   rw[<-hs];exact p2.snoc (.cons (.refl _) (.cons (.refl _) (.cons (.refl _) (.cons (TJ _) .nil))))
 ·have hi':i=l.length:=by omega
  subst hi';clear hTs;rw[hTe] at p2
  have hcl:Less (.agg [.d (.s F.fName),.d (.ol n (F.aW.map encS)),.d (.ol (n+1) (lB F.dQ (n+1+1))),.d (.sl U),.d (.i .i64 F.bR.aH),.d (.s F.bR.fName),.d (.ol q (lt F.bR.fArgs (q+1))),
   .d (.i .i64 F.fBody.aH),.d (.s F.fBody.aZ),.d (.s F.fBody.fName),.d (.i .i64 F.fBody.fN),.d (.i .i64 F.fBody.fType.aH),.d (.s F.fBody.fType.fName),.d (.ol r (lt F.fBody.fType.fArgs (r+1))),
   .d (.ol (r+(fK F.fBody.fType.fArgs+1)) (lE F.fBody.fArgs (r+(fK F.fBody.fType.fArgs+1)+1))),.d (.ol (r+(fK F.fBody.fType.fArgs+1)+(kK F.fBody.fArgs+1)) (lM F.fBody.aI (r+(fK F.fBody.fType.fArgs+1)+(kK F.fBody.fArgs+1)+1)))]) F.v:=by
   have lab:∀(es:List (List D))(k j:Nat),l8 (.d (.ol k (dU es j))) (.d (.sl es)):=fun es k j w σ S β v h=>(AV es j).rep (rV h);exact(dW.cons (.refl _) (.cons (aeF _ _) (.cons (lab _ _ _) (.cons (SA (p2.trans (AV _ _))) (.cons (.refl _) (.cons (.refl _) (.cons (lab _ _ _) (.cons (.refl _) (.cons (.refl _) (.cons (.refl _) (.cons (.refl _) (.cons (.refl _) (.cons (.refl _) (.cons (lab _ _ _) (.cons (lab _ _ _) (.cons (lab _ _ _) .nil)))))))))))))))).less
  rw[<-hF] at hds;refine Em (rM F (by omega)) (.cons hcl .nil) ?_;simp -implicitDefEqProofs (disch:=omega) only[go_sem]
  with_reducible refine aA (fun hb=> ?_) (fun hb=> ?_)<;>have h:=hb<;>(try simp only[wf_preprocess] at h)<;>simp -implicitDefEqProofs (disch:=omega) only[go_sem,hb]<;>(repeat(with_reducible refine And.intro ?_ ?_;focus first|omega|rfl|assumption|exact⟨_,rfl,rfl⟩|(simp;omega)|(simp;done)))
  ·exact CZ (bJ fun e=>by rw[<-hF] at e;rw[e.2.2.1] at h;cases h)
  have hv:=h;have hz:=Qi (pX hv).2.2.2
  (repeat(with_reducible refine And.intro ?_ ?_;focus first|omega|rfl|assumption|exact⟨_,rfl,rfl⟩|(simp;omega)|(simp;done)))
  refine Em (aG.less (Dm F 0 hv (by omega)) (K6 (xB F) 0)) (.cons hcl .nil) ?_;simp -implicitDefEqProofs (disch:=omega) only[go_sem];refine ay (FR (xB F) x (by omega)) ?_;simp -implicitDefEqProofs (disch:=omega) only[go_sem]
  with_reducible refine aA (fun hb=> ?_) (fun hb=> ?_)<;>have h:=hb<;>(try simp only[wf_preprocess] at h)<;>simp -implicitDefEqProofs (disch:=omega) only[go_sem,hb]<;>(repeat(with_reducible refine And.intro ?_ ?_;focus first|omega|rfl|assumption|exact⟨_,rfl,rfl⟩|(simp;omega)|(simp;done)))
  ·exact CZ (bJ fun e=>h (by rw[<-hF] at e;exact e.2.2.2))
  ·have hy:okF x=true:=by
    unfold okF;rw[<-hF];exact dx ⟨hf.1,hf.2,hv,h⟩
   rw[TP hy,hy,<-hF,<-hp,<-hq,<-hr0];exact(jU.cons (.cons (.refl _) (.cons (.refl _) (.cons (.refl _) (.cons (WK p2) (.refl _))))) (.refl _)).less
theorem BK(x:ah)(n:Nat)(hsz:x.sz<=1048576):aG prog 13 [x.v] (.d9 [(true,(dL (mh x).enc n).map .d),(false,[.d (.b (okF x))])]):=by
 rw[aeV];exact Nr x n hsz
end Go.Ab