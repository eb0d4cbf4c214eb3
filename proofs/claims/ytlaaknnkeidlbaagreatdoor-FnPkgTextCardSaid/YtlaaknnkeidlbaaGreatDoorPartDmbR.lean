/-
  SEVERAL TEXTS IN ONE (merged by program): contracts and models, each with its own heading.
-/
import Derived.Test.YtlaaknnkeidlbaaGreatDoorPartDmbH
import Derived.Test.YtlaaknnkeidlbaaGreatDoorPartDmbO
import Derived.Test.YtlaaknnkeidlbaaGreatDoorPartDmbP
import Derived.Test.YtlaaknnkeidlbaaGreatDoorPartDmbQ
open Go.Proofs Go.Proofs.Tryz
set_option linter.unusedSimpArgs false
set_option linter.unusedVariables false
set_option maxRecDepth 4000
set_option maxRecDepth 100000
set_option maxRecDepth 8000
namespace Go.Ab
def aqb(h b:Int):Int:=FV .i64 (IntKind.i64.wrap (IntKind.i64.wrap (IntKind.i64.wrap (h*131)+b)+7)) 1073741823
def LY:List Int->Int->Int
 |[],h=>h
 |b::r,h=>LY r (aqb h b)
def Ry(bs:List Int):Cu bs:=⟨0,LY (bs.take 4000) (28803+bs.length),Int.le_refl _,by omega⟩
theorem acy{es:List (List D)}(h:∀y∈es,∃x,y=[.i .u8 x]/\(Lit.int .u8 x).wf=true):∃xs:List Int,es=xs.map Ev/\∀x∈xs,0<=x/\x<=255:=by
 induction es with
 |nil=>exact⟨[],rfl,fun x h=>by cases h⟩
 |cons y es ih=>
  obtain⟨x,rfl,hx⟩:=h y List.mem_cons_self;obtain⟨xs,rfl,hxs⟩:=ih fun z hz=>h z (List.mem_cons_of_mem _ hz);refine⟨x::xs,rfl,fun z hz=> ?_⟩;rcases List.mem_cons.1 hz with rfl|hz
  ·have h1:IntKind.u8.min=0:=by decide
   have h2:IntKind.u8.max=255:=by decide
   simp only[Lit.wf,Bool.and_eq_true,decide_eq_true_eq,h1,h2] at hx;exact hx
  ·exact hxs z hz
theorem aiV{bs:List Int}(hB:Bytes bs)(bV:List Ab.Obj)(Ω:Store):bX prog 28 [.c (.d (.sl (bs.map Ev)))] (bV::Ω) (fun r S'=>r=.c (.ptr (0,bV.length) 0)/\S'=(bV++[.box (cur (Ry bs))])::Ω):=by
 have hl:=hB.len;refine J6 (rs:=[.tmp 2]) zmx func28 ntmps28 rfl rfl rfl rfl rfl ?_;refine W1 ?_
 refine aZ (ι:=Nat×Int) zmx rfl [0,3,4] (fun y=>[.c (.d (.sl (bs.map Ev))),.c (.d (.i .i64 y.2)),.c (.d (.i .i64 y.1))]) (fun _=>[]::bV::Ω)
  (fun y=>y.1<=bs.length/\y.1<=4000/\LY ((bs.take 4000).drop y.1) y.2=LY (bs.take 4000) (28803+bs.length)) (fun y=>bs.length-y.1) (0,28803+bs.length) rfl rfl ⟨Nat.zero_le _,Nat.zero_le _,by rw[List.drop_zero]⟩ ?_
 rintro⟨i,q⟩ ⟨p1,p2,p3⟩;simp only at p1 p2 p3;refine W1 ?_
 have fin:(¬i<bs.length\/¬i<4000)->(bV++[Ab.Obj.box [.d (.sl (bs.map Ev)),.d (.i .i64 0),.d (.i .i64 q)]])::Ω=(bV++[.box (cur (Ry bs))])::Ω:=fun hq=>by
  rw[List.drop_eq_nil_of_le (by rw[List.length_take];omega)] at p3;rw[show q=LY (bs.take 4000) (28803+bs.length) from p3];rfl
 refine S0 (fun hb h=>?_) fun hb h=>?_
 ·refine S0 (fun hb h=>?_) fun hb h=>?_
  ·have hi:i<bs.length:=by omega
   have hb:=hB.rng bs[i] (List.getElem_mem hi)
   have ht:(bs.take 4000).drop i=bs[i]::(bs.take 4000).drop (i+1):=by
    rw[List.drop_eq_getElem_cons (by rw[List.length_take];omega),List.getElem_take]
   rw[ht,LY] at p3;simp -implicitDefEqProofs (disch:=omega) only[go_sem,Ev];refine W3 ?_
   all_goals try omega
   exact dB (i+1,_) (by simp only;omega) rfl rfl ⟨by simp only;omega,by simp only;omega,p3⟩
  ·exact fin (.inr (by omega))
 ·exact fin (.inl (by omega))
theorem an3(bs:List Int):aF prog 6 [.c (.d (.sl (bs.map Ev)))] (.c (.d (.b (decide (1048576<(bs.length:Int)))))):=fun S=>by
 refine zcx [.tmp 2] func6 ntmps6 ?_;exact Z1
theorem uQ:∀a b:List (List D),aP (a++b)=aP a+aP b
 |[],b=>by simp[aP]
 |r::a,b=>by rw[List.cons_append,aP,aP,uQ a b];omega
section
variable {P:Program} {N:Nat} {w w':World} {σ σ':Nat->Nat} {S S':Store} {β β':Hs} {s:St} {a:Act}
def C.mv(n j m:Nat):C->C
 | .jQ (0,i)=>if i=m then .jQ (0,j) else if i<n/\i≠j then .jQ (0,i) else .any
 | .bI (0,i) es=>if i<n/\i≠j then .bI (0,i) es else .any
 | .ptr (0,i) off=>if i<n/\i≠j then .ptr (0,i) off else .any
 | .mW (0,i) x off=>if i<n/\i≠j then .mW (0,i) x off else .any
 | .mp (0,i)=>if i<n/\i≠j then .mp (0,i) else .any
 | .fn _ _=>.any
 | .xp (0,i) r p=>if i<n/\i≠j then .xp (0,i) r p else .any
 | .xq (0,i) r p z x off=>if i<n/\i≠j then .xq (0,i) r p z x off else .any
 |c=>c
end
section
variable {P:Program} {N:Nat} {S:Store}
theorem LZ(r:Nat)(T:Value)(h:yh undef r=some T):False:=by cases h
theorem alP{c:Code}{Q:Exit->St->Prop}{tm:List (Nat×V)}{Ω:Store}(h:AW P N c Q ⟨tm,[.xf []]::Ω⟩):AW P N c Q ⟨tm,[]::Ω⟩:=by
 refine lU h fun a w σ β hR=> ?_;obtain⟨bo,bΩ,rfl,hlen⟩:=frames hR
 obtain⟨hS',hk,hst⟩:=hR.S.push (o:=.xf []) (h:=undef) (Grow.refl hR.S.live) hlen
  ⟨fun r es e=>by simp at e,fun r T e=>(LZ r T e).elim,fun b hb=>by obtain⟨r,T,e,_⟩:=hb;exact(LZ r T e).elim,fun r r' T T' x _ e _ _ _=>LZ r T e⟩
  (fun b hb=>by obtain⟨r,T,e,_⟩:=hb;exact(LZ r T e).elim)
 exact⟨σ,_,⟨hR.size,hR.defers,hS',fun u=>(hR.T u).mono (eu.refl _ _) hk⟩,hst,Keep.refl _ _⟩
end
section
variable {P:Program} {S S':Store} {f:FuncId} {args:List V}
end
section
variable {w:World} {σ:Nat->Nat}
end
section
variable {P:Program}
end
section
variable {P:Program} {N:Nat} {S:Store} {s:St}
end
section
variable {P:Program} {N:Nat} {S:Store}
theorem DF(T:List TypeId){f:FuncId}{fn:Func}{c:Code}{args:List V}{post:V->Store->Prop}{rs:List ResultVar}(gI:P.follows .mixedOrders=true)(hf:P.funcs[f]? =some fn)(hN:fn.ntmps=N)
 (hb:fn.body=some c) (hn:(fn.name== "runtime.NumGoroutine")=false) (hr:fn.results.toList=rs) (hl:Nat.ble args.length N=true) (hok:rM T N c=true)
 (h:oK P N T c (Rh P rs post) ⟨mO (args.map (V.up 1)) 0,[.xf []]::S⟩):bX P f args S post:=by
 subst hN;subst hr;exact tK hf hb hn (Nat.le_of_ble_eq_true hl) (alP (yA zW (rz gI c _ _ hok h)))
theorem aiW{c:Code}{Q:Exit->St->Prop}{tm:List (Nat×V)}{Ω:Store}(h:AW P N c Q ⟨tm,[.xf [[]]]::Ω⟩):AW P N c Q ⟨tm,[]::Ω⟩:=by
 refine lU h fun a w σ β hR=> ?_;obtain⟨bo,bΩ,rfl,hlen⟩:=frames hR
 have hroot:∀r T,yh (.tuple #[Ce]) r=some T->r=0/\T=Ce:=fun r T e=>by
  cases r with
  |zero=>exact⟨rfl,(Option.some.inj e).symm⟩
  |succ r=>simp[yh] at e
 have hown:∀b,¬Le (.tuple #[Ce]) b:=fun b ⟨r,T,e,ho⟩=>by
  obtain⟨_,rfl⟩:=hroot r T e;exact PU ho
 obtain⟨hS',hk,hst⟩:=hR.S.push (o:=.xf [[]]) (h:=.tuple #[Ce]) (Grow.refl hR.S.live) hlen
  ⟨fun r es e=>by
    cases r with
    |zero=>cases e;exact⟨Ce,rfl,.nil none 0 _ rfl S9⟩
    |succ r=>simp at e,fun r T e=>by rw[(hroot r T e).1];exact Nat.zero_lt_one,fun b hb=>(hown b hb).elim,fun r r' T T' x hne e e' ho=>by
    obtain⟨_,rfl⟩:=hroot r T e
    exact(PU ho).elim⟩
  (fun b hb=>(hown b hb).elim)
 exact⟨σ,_,⟨hR.size,hR.defers,hS',fun u=>(hR.T u).mono (eu.refl _ _) hk⟩,hst,Keep.refl _ _⟩
theorem acz(T:List TypeId){f:FuncId}{fn:Func}{c:Code}{args:List V}{post:V->Store->Prop}{rs:List ResultVar}(gI:P.follows .mixedOrders=true)(hf:P.funcs[f]? =some fn)(hN:fn.ntmps=N)
 (hb:fn.body=some c) (hn:(fn.name== "runtime.NumGoroutine")=false) (hr:fn.results.toList=rs) (hl:Nat.ble args.length N=true) (hok:rM T N c=true)
 (h:oK P N T c (Rh P rs post) ⟨mO (args.map (V.up 1)) 0,[.xf [[]]]::S⟩):bX P f args S post:=by
 subst hN;subst hr;exact tK hf hb hn (Nat.le_of_ble_eq_true hl) (aiW (yA zW (rz gI c _ _ hok h)))
end
section
variable {P:Program} {S S1:Store}
theorem bX.of_le{f:FuncId}{args:List V}{t:V}(h:bX P f args S fun r S'=>Less r t/\S'=S1):bX P f args S fun r S'=>r=t/\S'=S1:=
 ⟨h.1,fun w σ β vs hS hv=>(h.2 w σ β vs hS hv).mono fun e w' ⟨v,r,S',σ',β',h1,h2,h3,h4,h5,h6,h7⟩=>⟨v,t,S',σ',β',h1,h2,h3,h4,h6 _ _ _ _ _ h5,rfl,h7⟩⟩
theorem Ci{r t:V}(h:abZ r=t):Less r t:=fun w σ S β v hr=>by
 rw[<-h];exact aiE hr _ _
end
attribute [go_sem] Bool.or_false Bool.false_or Bool.true_or Bool.or_true
def NH:bL:=⟨[110,105,108],[]⟩
def DI:bL:=⟨[99,111,110,115],[qP [97],uY [108,105,115,116] [qP [97]]]⟩
def UR:List (List UInt8):=[[99,111,110,115],[],[111,110,101]]
theorem acA:fI UR:=by unfold fI;decide
def xR{bs:List Int}(k:Int)(c:Cu bs):aX×Cu bs:=
 if k=0 then(⟨[108,105,115,116],[[97],(bZ Jp c).1],[NH,DI]⟩,(bZ Jp c).2) else
 if k=1 then(⟨[108,105,115,116],[[97]],[NH,DI].take (bn 2 c).1.toNat⟩,(bn 2 c).2) else
 if k=2 then(⟨[108,105,115,116],[[97]],[⟨[110,105,108],[(sM 2 c).1]⟩,DI]⟩,(sM 2 c).2) else
 if k=3 then(⟨[108,105,115,116],[[97]],[⟨(bZ UR c).1,[]⟩,DI]⟩,(bZ UR c).2) else
 (⟨[108,105,115,116],[[97]],[NH,DI]⟩,c)
def DJ{bs:List Int}(c:Cu bs):aX×Cu bs:=xR (bn 10 c).1 (bn 10 c).2
theorem Tq(s:List UInt8)(l:List ak):(bL.mk s l).sz=s.length+(l.length+rU l):=xk _
theorem I5:DI.sz=13:=by
 rw[xk];simp only[DI,rU,qJ,LK,List.length_cons,List.length_nil]
theorem He:NH.sz=3:=by rw[xk];simp[NH,rU]
theorem aiX{bs:List Int}(c:Cu bs):(DJ c).1.sz<=300:=by
 unfold DJ;generalize (bn 10 c).1=k;generalize (bn 10 c).2=c1;have h1:=iC c1 Ni;have h2:=iC c1 acA;have h3:=Ez 2 c1
 have h4:C9 ([NH,DI].take (bn 2 c1).1.toNat)<=16:=by
  have:=jK (n:=2) c1 (by omega)
  have:(bn 2 c1).1.toNat=0\/(bn 2 c1).1.toNat=1:=by omega
  rcases this with e|e<;>rw[e]<;>simp[C9,He]
 have h5:([NH,DI].take (bn 2 c1).1.toNat).length<=2:=List.length_take_le' _ _;unfold xR;split
 ·simp only[qU,C9,I5,He,List.map_cons,List.map_nil,List.sum_cons,List.sum_nil,List.length_cons,List.length_nil];omega
 split
 ·simp only[qU,List.map_cons,List.map_nil,List.sum_cons,List.sum_nil,List.length_cons,List.length_nil];omega
 split
 ·simp only[qU,C9,Tq,rU,I5,He,List.map_cons,List.map_nil,List.sum_cons,List.sum_nil,List.length_cons,List.length_nil];omega
 split
 ·simp only[qU,C9,Tq,rU,I5,He,List.map_cons,List.map_nil,List.sum_cons,List.sum_nil,List.length_cons,List.length_nil];omega
 ·simp only[qU,C9,I5,He,List.map_cons,List.map_nil,List.sum_cons,List.sum_nil,List.length_cons,List.length_nil];omega
theorem lend{r t:V}{S:Store}(h:abZ r=t:=by first|rfl|(simp only[bJ.v,aS.v,aY.v,aX.v,List.map_cons,List.map_nil,List.map_append,bW.aJ,bL.aJ,bA.aJ,cO.aJ,ak.aJ,ay.aJ,List.cons_append,List.nil_append];rfl)):Less r t/\S=S:=⟨Ci h,rfl⟩
section
variable {P:Program} {w:World} {σ:Nat->Nat}
end
def yE:List (List UInt8):=[[120],[121]]
theorem NI:fI yE:=by unfold fI;decide
def ifL:List (List UInt8):=[[],[105,102]]
theorem aiY:fI ifL:=by unfold fI;decide
def sU(t:List UInt8):ay:=.mk 5 t [109] 0 zT [xY [120]] []
def yF:bW:=⟨[115,104,111,119],qP [97]⟩
def CO:dD:=⟨[120],qP [97]⟩
def FJ{bs:List Int}(s:List UInt8)(k:Int)(c:Cu bs):aY×Cu bs:=
 if k=0 then(⟨s,[[97]],[yF],[CO],(sM 2 c).1,sU [115,104,111,119]⟩,(sM 2 c).2) else
 if k=1 then(⟨s,[[97]],[yF],[CO,⟨(bZ yE c).1,uZ⟩],uZ,sU [115,104,111,119]⟩,(bZ yE c).2) else
 if k=2 then(⟨s,[[97]],[yF],[CO],uZ,(iD 3 yE c).1⟩,(iD 3 yE c).2) else
 if k=3 then(⟨s,[[97]],[⟨[115,104,111,119],(sM 1 c).1⟩],[CO],uZ,sU [115,104,111,119]⟩,(sM 1 c).2) else
 if k=4 then(⟨(bZ ifL c).1,[[97]],[yF],[CO],uZ,sU [115,104,111,119]⟩,(bZ ifL c).2) else
 (⟨s,[[97]],[yF],[CO],uZ,sU [115,104,111,119]⟩,c)
def Qh{bs:List Int}(c:Cu bs):aY×Cu bs:=FJ (bZ zh c).1 (bn 10 (bZ zh c).2).1 (bn 10 (bZ zh c).2).2
def nO:List (List UInt8):=[[115,104,111,119],[101,113],[97,100,100]]
theorem Xe:fI nO:=by unfold fI;decide
def NJ:List (List UInt8):=[[],[105,110,116],[65]]
theorem afv:fI NJ:=by unfold fI;decide
def Xf:List (List UInt8):=[[115,101,108,102],[98]]
theorem aiZ:fI Xf:=by unfold fI;decide
def zE:ay:=.mk 0 [] [] 0 zT [] []
def Gd(t:ak)(b:Bool):bA:=⟨[109],[],t,b,[],zE⟩
def Rz(s:List UInt8):bA:=⟨[116,119,105,99,101],[qP [115,101,108,102]],uZ,true,yE,rA 10 [43] [sU s,mY 1]⟩
def gN{bs:List Int}(s:List UInt8)(b:Bool)(m:List bA)(p:List (List UInt8))(k:Int)(c:Cu bs):bJ×Cu bs:=
 if k=0 then(⟨s,p,true,b,Gd uZ false::m⟩,c) else
 if k=1 then(⟨(bZ NJ c).1,p,false,b,Gd uZ false::m⟩,(bZ NJ c).2) else
 if k=2 then(⟨s,p,false,b,Gd (qP (bZ Xf c).1) false::m⟩,(bZ Xf c).2) else
 if k=3 then(⟨s,p,false,b,Gd uZ true::m⟩,c) else
 if k=4 then(⟨s,p++[[111,114,100]],false,b,Gd uZ false::m⟩,c) else
 if k=5 then(⟨s,p,false,b,Gd uZ false::m++[Gd uZ false]⟩,c) else
 (⟨s,p,false,b,Gd uZ false::m⟩,c)
theorem qA(s:List UInt8):bQ (encS s)=s.length:=by simp[encS,bQ,D.sz]
theorem sV(t:List UInt8)(y:ak):bQ (bW.mk t y).enc=t.length+y.sz:=by
 simp only[bW.aJ,bQ,bP,D.sz,ak.dP];omega
theorem zw(t:List UInt8)(y:ak):bQ (dD.mk t y).enc=t.length+y.sz:=by
 simp only[dD.aJ,bQ,bP,D.sz,ak.dP];omega
theorem A9(s:List UInt8)(v:List (List UInt8))(w:List bW)(p:List dD)(r:ak)(b:ay):
 (aY.mk s v w p r b).sz=s.length+(v.length+aP (v.map encS))+(w.length+aP (w.map bW.enc))+(p.length+aP (p.map dD.enc))+r.sz+b.sz:=by
 simp only[aY.sz,aY.aJ,bQ,bP,D.sz,List.length_map,ak.dP,ay.dP];omega
theorem alQ(s:List UInt8):(xY s).sz=s.length:=by rw[xY,ou,qQ];simp[aP]
theorem RA(n:Int):(mY n).sz=0:=by rw[mY,ou,qQ];simp[aP]
theorem Ba(t:List UInt8):(sU t).sz=t.length+3:=by
 rw[sU,ou,qQ];simp only[List.map_cons,List.map_nil,aP,ay.dP,alQ,List.length_cons,List.length_nil]
theorem vY:uZ.sz=3:=by rw[uZ,Rp];rfl
theorem an4{bs:List Int}(c:Cu bs):(Qh c).1.sz<=2000:=by
 unfold Qh;have h0:=iC c Wt;generalize (bZ zh c).1=s at h0;generalize (bn 10 (bZ zh c).2).1=k;generalize (bn 10 (bZ zh c).2).2=c1;have h1:=iC c1 NI;have h2:=iC c1 aiY;have h3:=Ez 2 c1;have h4:=Ez 1 c1;have h5:=Nj 3 yE c1 NI;unfold FJ;split
 ·simp only[A9,List.map_cons,List.map_nil,aP,qA,yF,CO,sV,zw,qJ,Ba,List.length_cons,List.length_nil];omega
 split
 ·simp only[A9,List.map_cons,List.map_nil,aP,qA,yF,CO,sV,zw,qJ,vY,Ba,List.length_cons,List.length_nil];omega
 split
 ·simp only[A9,List.map_cons,List.map_nil,aP,qA,yF,CO,sV,zw,qJ,vY,List.length_cons,List.length_nil];omega
 split
 ·simp only[A9,List.map_cons,List.map_nil,aP,qA,CO,sV,zw,qJ,vY,Ba,List.length_cons,List.length_nil];omega
 split
 ·simp only[A9,List.map_cons,List.map_nil,aP,qA,yF,CO,sV,zw,qJ,vY,Ba,List.length_cons,List.length_nil];omega
 ·simp only[A9,List.map_cons,List.map_nil,aP,qA,yF,CO,sV,zw,qJ,vY,Ba,List.length_cons,List.length_nil];omega
theorem l13Fn_3{bs:List Int}(hB:Bytes bs)(c c1 c2:Cu bs)(s:List UInt8)(l j:Nat)(S:Store)(hk:bE S (l,j)=some (.box (cur c)))(h1:bZ zh c=(s,c1))(h2:bn 10 c1=(3,c2)):
 bX prog 123 [.c (.ptr (l,j) 0)] S (fun r S1=>r=(FJ s 3 c2).1.v/\S1=bG S (l,j) (.box (cur (FJ s 3 c2).2))):=by
 have g:∀x:Ab.Obj,bE (bG S (l,j) x) (l,j)=some x:=fun x=>dL _ _ _ _ hk;have q1:=fun fr:List Ab.Obj=>eO hB c (1+l) j (fr::S) zh (by rw[aV];exact hk) (by decide) (by decide);simp only[h1,dW] at q1;have q2:=fun fr:List Ab.Obj=>eU hB c1 (1+l) j (fr::bG S (l,j) (.box (cur c1))) 10 (by rw[aV];exact g _) (by omega) (by omega);simp only[h2,dW,dJ] at q2;have q3:=fun fr:List Ab.Obj=>jq hB 1 c2 (1+l) j (fr::bG S (l,j) (.box (cur c2))) (by rw[aV];exact g _) (by omega);simp only[dW,dJ] at q3;obtain⟨q,hq⟩:∃q,q=FJ s 3 c2:=⟨_,rfl⟩;rw[<-hq];simp only[FJ,reduceIte,Int.reduceEq] at hq;refine bX.of_le ?_;refine DF [58] (rs:=[.cell 2 97]) zmx func123 ntmps123 rfl rfl rfl rfl rfl ?_;refine W1 ?_;refine cK [true] rfl (q1 _) ?_;refine W1 ?_;refine C1 (gK _) ?_;refine C1 (gK _) ?_;refine bD kG ?_;refine W1 ?_;refine C1 (wT _) ?_;refine W3 ?_;refine aW rfl (q2 _) ?_;refine W1 ?_;refine aW rfl (q3 _) ?_;refine W1 ?_;refine W3 ?_;refine⟨by cases l<;>rfl,?_⟩;refine W1 ?_;rw[hq];exact lend
theorem alR{bs:List Int}(hB:Bytes bs)(c c1 c2:Cu bs)(s:List UInt8)(k:Int)(l j:Nat)(S:Store)(hk:bE S (l,j)=some (.box (cur c)))(h1:bZ zh c=(s,c1))(h2:bn 10 c1=(k,c2))(hk3:k≠3):
 bX prog 123 [.c (.ptr (l,j) 0)] S (fun r S1=>r=(FJ s k c2).1.v/\S1=bG S (l,j) (.box (cur (FJ s k c2).2))):=by
 have g:∀x:Ab.Obj,bE (bG S (l,j) x) (l,j)=some x:=fun x=>dL _ _ _ _ hk;have q1:=fun fr:List Ab.Obj=>eO hB c (1+l) j (fr::S) zh (by rw[aV];exact hk) (by decide) (by decide);simp only[h1,dW] at q1;have q2:=fun fr:List Ab.Obj=>eU hB c1 (1+l) j (fr::bG S (l,j) (.box (cur c1))) 10 (by rw[aV];exact g _) (by omega) (by omega);simp only[h2,dW,dJ] at q2;obtain⟨q,hq⟩:∃q,q=FJ s k c2:=⟨_,rfl⟩;rw[<-hq];refine bX.of_le ?_;refine BU [58] (rs:=[.cell 2 97]) zmx func123 ntmps123 rfl rfl rfl rfl rfl ?_;refine W1 ?_;refine cK [true] rfl (q1 _) ?_;refine W1 ?_;refine C1 (gK _) ?_;refine C1 (gK _) ?_;refine bD kG ?_;refine W1 ?_;refine C1 (wT _) ?_;refine W3 ?_;refine aW rfl (q2 _) ?_;refine W1 ?_;refine S0 (fun hb h=>?_) fun hb h=>?_
 ·subst h;simp only[FJ,reduceIte,Int.reduceEq] at hq;refine aW rfl (jq hB 2 c2 (1+l) j _ (by rw[aV];exact g _) (by omega)) ?_;refine W1 ?_;rw[hq];exact lend
 have e0:=h;refine S0 (fun hb h=>?_) fun hb h=>?_
 ·subst h;simp only[FJ,reduceIte,Int.reduceEq] at hq;refine cK [true] rfl (eO hB c2 (1+l) j _ yE (by rw[aV];exact g _) (by decide) (by decide)) ?_;refine W1 ?_;refine bD kG ?_;refine W1 ?_;refine W3 ?_;refine⟨by cases l<;>rfl,?_⟩;refine W1 ?_;rw[hq];exact lend
 have e1:=h;refine S0 (fun hb h=>?_) fun hb h=>?_
 ·subst h;simp only[FJ,reduceIte,Int.reduceEq] at hq;refine cK [true] rfl (kr (oP hB 3 yE c2 (1+l) j _ (by decide) (by rw[aV];exact g _))) ?_;refine W1 ?_;rw[hq];exact lend
 have e2:=h;refine S0 (fun hb h=>?_) fun hb h=>?_
 ·exact absurd h hk3
 refine S0 (fun hb h=>?_) fun hb h=>?_
 ·subst h;simp only[FJ,reduceIte,Int.reduceEq] at hq;refine cK [true] rfl (eO hB c2 (1+l) j _ ifL (by rw[aV];exact g _) (by decide) (by decide)) ?_;refine W1 ?_;rw[hq];exact lend
 have e4:=h;simp only[FJ,if_neg e0,if_neg e1,if_neg e2,if_neg hk3,if_neg e4] at hq;rw[hq];exact lend
theorem ai0{bs:List Int}(hB:Bytes bs)(c:Cu bs)(l j:Nat)(S:Store)(hk:bE S (l,j)=some (.box (cur c))):
 bX prog 123 [.c (.ptr (l,j) 0)] S (fun r S1=>r=(Qh c).1.v/\S1=bG S (l,j) (.box (cur (Qh c).2))):=by
 unfold Qh;by_cases h3:(bn 10 (bZ zh c).2).1=3
 ·rw[h3];exact l13Fn_3 hB c _ _ _ l j S hk rfl (Prod.ext h3 rfl)
 ·exact alR hB c _ _ _ _ l j S hk rfl rfl h3
theorem Tt(s:List UInt8)(p:List ak)(r:ak)(d:Bool)(v:List (List UInt8))(b:ay):bQ (bA.mk s p r d v b).enc=s.length+(p.length+aP (p.map ak.enc))+r.sz+(v.length+aP (v.map encS))+b.sz:=by
 simp only[bA.aJ,bQ,bP,D.sz,List.length_map,ak.dP,ay.dP];omega
theorem MQ(s:List UInt8)(p:List (List UInt8))(a b:Bool)(m:List bA):(bJ.mk s p a b m).sz=s.length+(p.length+aP (p.map encS))+(m.length+aP (m.map bA.enc)):=by
 simp only[bJ.sz,bJ.aJ,bQ,bP,D.sz,List.length_map];omega
def jh(b:Bool)(s:List UInt8):List bA:=match b with
 |true=>[Rz s]
 |false=>[]
def jw(b:Bool):List (List UInt8):=match b with
 |true=>[[111,114,100]]
 |false=>[]
def Ag{bs:List Int}(c:Cu bs):bJ×Cu bs:=
 gN (bZ nO c).1 (d9 3 (bZ nO c).2).1 (jh (d9 2 (d9 3 (bZ nO c).2).2).1 (bZ nO c).1) (jw (d9 3 (d9 2 (d9 3 (bZ nO c).2).2).2).1)
  (bn 12 (d9 3 (d9 2 (d9 3 (bZ nO c).2).2).2).2).1 (bn 12 (d9 3 (d9 2 (d9 3 (bZ nO c).2).2).2).2).2
theorem Z4(t:ak)(b:Bool):bQ (Gd t b).enc=t.sz+1:=by
 have hz:zE.sz=0:=by rw[zE,ou,qQ];simp[aP]
 rw[Gd,Tt,hz];simp only[List.map_nil,aP,List.length_nil,List.length_cons];omega
theorem alS(s:List UInt8):bQ (Rz s).enc<=s.length+24:=by
 rw[Rz,Tt,rA,ou,qQ];simp only[yE,List.map_cons,List.map_nil,aP,qA,ak.dP,ay.dP,qJ,vY,Ba,RA,List.length_nil,List.length_cons];omega
theorem alT(b:Bool)(s:List UInt8):(jh b s).length<=1/\aP ((jh b s).map bA.enc)<=s.length+24:=by
 cases b with
 |false=>exact⟨Nat.zero_le _,Nat.zero_le _⟩
 |true=>exact⟨Nat.le_refl _,by have:=alS s;simp only[jh,List.map_cons,List.map_nil,aP];omega⟩
theorem alU(b:Bool):(jw b).length<=1/\aP ((jw b).map encS)<=3:=by
 cases b with
 |false=>exact⟨Nat.zero_le _,Nat.zero_le _⟩
 |true=>exact⟨Nat.le_refl _,Nat.le_refl _⟩
theorem afw{bs:List Int}(c:Cu bs):(Ag c).1.sz<=300:=by
 unfold Ag;have h0:=iC c Xe;generalize (bZ nO c).1=s at h0;have h1:=alT (d9 2 (d9 3 (bZ nO c).2).2).1 s;have h2:=alU (d9 3 (d9 2 (d9 3 (bZ nO c).2).2).2).1;generalize jh (d9 2 (d9 3 (bZ nO c).2).2).1 s=m at h1;generalize jw (d9 3 (d9 2 (d9 3 (bZ nO c).2).2).2).1=p at h2;generalize (d9 3 (bZ nO c).2).1=b;generalize (bn 12 (d9 3 (d9 2 (d9 3 (bZ nO c).2).2).2).2).1=k;generalize (bn 12 (d9 3 (d9 2 (d9 3 (bZ nO c).2).2).2).2).2=c1;have h3:=iC c1 afv;have h4:=iC c1 aiZ;unfold gN
 iterate 6
  split
  ·simp only[MQ,List.map_cons,List.map_nil,List.map_append,aP,uQ,qA,Z4,qJ,vY,List.length_cons,List.length_nil,List.length_append];omega
 simp only[MQ,List.map_cons,List.map_nil,aP,Z4,vY,List.length_cons,List.length_nil];omega
theorem acB{bs:List Int}(hB:Bytes bs)(c c1 c2 c3 c4 c5:Cu bs)(s:List UInt8)(b o p:Bool)(k:Int)(l j:Nat)(S:Store)(hk:bE S (l,j)=some (.box (cur c)))(h1:bZ nO c=(s,c1))(h2:d9 3 c1=(b,c2))(h3:d9 2 c2=(o,c3))(h4:d9 3 c3=(p,c4))(h5:bn 12 c4=(k,c5))(ho1:o=true)(Xg:k=2\/k=3):
 bX prog 120 [.c (.ptr (l,j) 0)] S (fun r S1=>r=(gN s b (jh o s) (jw p) k c5).1.v/\S1=bG S (l,j) (.box (cur (gN s b (jh o s) (jw p) k c5).2))):=by
 have g:∀x:Ab.Obj,bE (bG S (l,j) x) (l,j)=some x:=fun x=>dL _ _ _ _ hk;have q1:=fun fr:List Ab.Obj=>eO hB c (1+l) j (fr::S) nO (by rw[aV];exact hk) (by decide) (by decide);simp only[h1,dW] at q1;have q2:=fun fr:List Ab.Obj=>ni hB c1 (1+l) j (fr::bG S (l,j) (.box (cur c1))) 3 (by rw[aV];exact g _) (by omega) (by omega);simp only[h2,dW,dJ] at q2;have q3:=fun fr:List Ab.Obj=>ni hB c2 (1+l) j (fr::bG S (l,j) (.box (cur c2))) 2 (by rw[aV];exact g _) (by omega) (by omega);simp only[h3,dW,dJ] at q3;have q4:=fun fr:List Ab.Obj=>ni hB c3 (1+l) j (fr::bG S (l,j) (.box (cur c3))) 3 (by rw[aV];exact g _) (by omega) (by omega);simp only[h4,dW,dJ] at q4;have q5:=fun fr:List Ab.Obj=>eU hB c4 (1+l) j (fr::bG S (l,j) (.box (cur c4))) 12 (by rw[aV];exact g _) (by omega) (by omega);simp only[h5,dW,dJ] at q5;have qo:∀es:List (List D),es=[sU s,mY 1].map ay.enc->aF prog 86 [.c (.d (.i .i64 10)),.c (.d (.s [43])),.c (.d (.sl es))] (rA 10 [43] [sU s,mY 1]).v:=fun es he S=>kr (FB 10 [43] [sU s,mY 1] he (by simp) (.inl rfl) S)
 have ho:(jh o s)=(if o=true then [Rz s] else []):=by cases o<;>rfl
 have hp:(jw p)=(if p=true then [[111,114,100]] else []):=by cases p<;>rfl
 obtain⟨q,hq⟩:∃q,q=gN s b (jh o s) (jw p) k c5:=⟨_,rfl⟩;rw[<-hq];refine bX.of_le ?_;refine acz [58] (rs:=[.cell 2 84]) zmx func120 ntmps120 rfl rfl rfl rfl rfl ?_;refine W1 ?_;refine C1 (gK _) ?_;refine cK [true] rfl (q1 _) ?_;refine W1 ?_;refine aW rfl (q2 _) ?_;refine W1 ?_;refine bD kG ?_;refine W1 ?_;refine W3 ?_;refine aW rfl (q3 _) ?_;subst ho1;refine W1 ?_;refine bD kG ?_;refine W1 ?_;refine C1 (wT _) ?_;refine C1 (sN _) ?_;refine C1 (qo _ rfl) ?_;refine W3 ?_;refine⟨by cases l<;>rfl,?_⟩;refine W1 ?_;refine aW rfl (q4 _) ?_
 cases p with
 |true=>
  refine W1 ?_;refine aW rfl (q5 _) ?_;rcases Xg with rfl|rfl
  ·simp only[gN,jh,jw,reduceIte,Int.reduceEq] at hq;refine W1 ?_;refine cK [true] rfl (eO hB c5 (1+l) j _ Xf (by rw[aV];exact g _) (by decide) (by decide)) ?_;refine W1 ?_;refine C1 (gK _) ?_;refine W3 ?_;refine⟨by cases l<;>rfl,?_⟩;refine W1 ?_;rw[hq];exact lend
  ·simp only[gN,jh,jw,reduceIte,Int.reduceEq] at hq;refine W1 ?_;refine W3 ?_;rw[hq];exact lend
 |false=>
  refine W1 ?_;refine aW rfl (q5 _) ?_;rcases Xg with rfl|rfl
  ·simp only[gN,jh,jw,reduceIte,Int.reduceEq] at hq;refine W1 ?_;refine cK [true] rfl (eO hB c5 (1+l) j _ Xf (by rw[aV];exact g _) (by decide) (by decide)) ?_;refine W1 ?_;refine C1 (gK _) ?_;refine W3 ?_;refine⟨by cases l<;>rfl,?_⟩;refine W1 ?_;rw[hq];exact lend
  ·simp only[gN,jh,jw,reduceIte,Int.reduceEq] at hq;refine W1 ?_;refine W3 ?_;rw[hq];exact lend
theorem acC{bs:List Int}(hB:Bytes bs)(c c1 c2 c3 c4 c5:Cu bs)(s:List UInt8)(b o p:Bool)(k:Int)(l j:Nat)(S:Store)(hk:bE S (l,j)=some (.box (cur c)))(h1:bZ nO c=(s,c1))(h2:d9 3 c1=(b,c2))(h3:d9 2 c2=(o,c3))(h4:d9 3 c3=(p,c4))(h5:bn 12 c4=(k,c5))(ho1:o=false)(Xg:k=2\/k=3):
 bX prog 120 [.c (.ptr (l,j) 0)] S (fun r S1=>r=(gN s b (jh o s) (jw p) k c5).1.v/\S1=bG S (l,j) (.box (cur (gN s b (jh o s) (jw p) k c5).2))):=by
 have g:∀x:Ab.Obj,bE (bG S (l,j) x) (l,j)=some x:=fun x=>dL _ _ _ _ hk;have q1:=fun fr:List Ab.Obj=>eO hB c (1+l) j (fr::S) nO (by rw[aV];exact hk) (by decide) (by decide);simp only[h1,dW] at q1;have q2:=fun fr:List Ab.Obj=>ni hB c1 (1+l) j (fr::bG S (l,j) (.box (cur c1))) 3 (by rw[aV];exact g _) (by omega) (by omega);simp only[h2,dW,dJ] at q2;have q3:=fun fr:List Ab.Obj=>ni hB c2 (1+l) j (fr::bG S (l,j) (.box (cur c2))) 2 (by rw[aV];exact g _) (by omega) (by omega);simp only[h3,dW,dJ] at q3;have q4:=fun fr:List Ab.Obj=>ni hB c3 (1+l) j (fr::bG S (l,j) (.box (cur c3))) 3 (by rw[aV];exact g _) (by omega) (by omega);simp only[h4,dW,dJ] at q4;have q5:=fun fr:List Ab.Obj=>eU hB c4 (1+l) j (fr::bG S (l,j) (.box (cur c4))) 12 (by rw[aV];exact g _) (by omega) (by omega);simp only[h5,dW,dJ] at q5;have qo:∀es:List (List D),es=[sU s,mY 1].map ay.enc->aF prog 86 [.c (.d (.i .i64 10)),.c (.d (.s [43])),.c (.d (.sl es))] (rA 10 [43] [sU s,mY 1]).v:=fun es he S=>kr (FB 10 [43] [sU s,mY 1] he (by simp) (.inl rfl) S)
 have ho:(jh o s)=(if o=true then [Rz s] else []):=by cases o<;>rfl
 have hp:(jw p)=(if p=true then [[111,114,100]] else []):=by cases p<;>rfl
 obtain⟨q,hq⟩:∃q,q=gN s b (jh o s) (jw p) k c5:=⟨_,rfl⟩;rw[<-hq];refine bX.of_le ?_;refine DF [58] (rs:=[.cell 2 84]) zmx func120 ntmps120 rfl rfl rfl rfl rfl ?_;refine W1 ?_;refine C1 (gK _) ?_;refine cK [true] rfl (q1 _) ?_;refine W1 ?_;refine aW rfl (q2 _) ?_;refine W1 ?_;refine bD kG ?_;refine W1 ?_;refine W3 ?_;refine aW rfl (q3 _) ?_;subst ho1;refine W1 ?_;refine aW rfl (q4 _) ?_
 cases p with
 |true=>
  refine W1 ?_;refine aW rfl (q5 _) ?_;rcases Xg with rfl|rfl
  ·simp only[gN,jh,jw,reduceIte,Int.reduceEq] at hq;refine W1 ?_;refine cK [true] rfl (eO hB c5 (1+l) j _ Xf (by rw[aV];exact g _) (by decide) (by decide)) ?_;refine W1 ?_;refine C1 (gK _) ?_;refine W3 ?_;refine⟨by cases l<;>rfl,?_⟩;refine W1 ?_;rw[hq];exact lend
  ·simp only[gN,jh,jw,reduceIte,Int.reduceEq] at hq;refine W1 ?_;refine W3 ?_;rw[hq];exact lend
 |false=>
  refine W1 ?_;refine aW rfl (q5 _) ?_;rcases Xg with rfl|rfl
  ·simp only[gN,jh,jw,reduceIte,Int.reduceEq] at hq;refine W1 ?_;refine cK [true] rfl (eO hB c5 (1+l) j _ Xf (by rw[aV];exact g _) (by decide) (by decide)) ?_;refine W1 ?_;refine C1 (gK _) ?_;refine W3 ?_;refine⟨by cases l<;>rfl,?_⟩;refine W1 ?_;rw[hq];exact lend
  ·simp only[gN,jh,jw,reduceIte,Int.reduceEq] at hq;refine W1 ?_;refine W3 ?_;rw[hq];exact lend
theorem acD{bs:List Int}(hB:Bytes bs)(c c1 c2 c3 c4 c5:Cu bs)(s:List UInt8)(b o p:Bool)(k:Int)(l j:Nat)(S:Store)(hk:bE S (l,j)=some (.box (cur c)))(h1:bZ nO c=(s,c1))(h2:d9 3 c1=(b,c2))(h3:d9 2 c2=(o,c3))(h4:d9 3 c3=(p,c4))(h5:bn 12 c4=(k,c5))(hk2:k≠2)(hk3:k≠3):
 bX prog 120 [.c (.ptr (l,j) 0)] S (fun r S1=>r=(gN s b (jh o s) (jw p) k c5).1.v/\S1=bG S (l,j) (.box (cur (gN s b (jh o s) (jw p) k c5).2))):=by
 have g:∀x:Ab.Obj,bE (bG S (l,j) x) (l,j)=some x:=fun x=>dL _ _ _ _ hk;have q1:=fun fr:List Ab.Obj=>eO hB c (1+l) j (fr::S) nO (by rw[aV];exact hk) (by decide) (by decide);simp only[h1,dW] at q1;have q2:=fun fr:List Ab.Obj=>ni hB c1 (1+l) j (fr::bG S (l,j) (.box (cur c1))) 3 (by rw[aV];exact g _) (by omega) (by omega);simp only[h2,dW,dJ] at q2;have q3:=fun fr:List Ab.Obj=>ni hB c2 (1+l) j (fr::bG S (l,j) (.box (cur c2))) 2 (by rw[aV];exact g _) (by omega) (by omega);simp only[h3,dW,dJ] at q3;have q4:=fun fr:List Ab.Obj=>ni hB c3 (1+l) j (fr::bG S (l,j) (.box (cur c3))) 3 (by rw[aV];exact g _) (by omega) (by omega);simp only[h4,dW,dJ] at q4;have q5:=fun fr:List Ab.Obj=>eU hB c4 (1+l) j (fr::bG S (l,j) (.box (cur c4))) 12 (by rw[aV];exact g _) (by omega) (by omega);simp only[h5,dW,dJ] at q5;have qo:∀es:List (List D),es=[sU s,mY 1].map ay.enc->aF prog 86 [.c (.d (.i .i64 10)),.c (.d (.s [43])),.c (.d (.sl es))] (rA 10 [43] [sU s,mY 1]).v:=fun es he S=>kr (FB 10 [43] [sU s,mY 1] he (by simp) (.inl rfl) S)
 have ho:(jh o s)=(if o=true then [Rz s] else []):=by cases o<;>rfl
 have hp:(jw p)=(if p=true then [[111,114,100]] else []):=by cases p<;>rfl
 obtain⟨q,hq⟩:∃q,q=gN s b (jh o s) (jw p) k c5:=⟨_,rfl⟩;rw[<-hq];refine bX.of_le ?_;refine BU [58] (rs:=[.cell 2 84]) zmx func120 ntmps120 rfl rfl rfl rfl rfl ?_;refine W1 ?_;refine C1 (gK _) ?_;refine cK [true] rfl (q1 _) ?_;refine W1 ?_;refine aW rfl (q2 _) ?_;refine W1 ?_;refine bD kG ?_;refine W1 ?_;refine W3 ?_;refine aW rfl (q3 _) ?_
 cases o with
 |true=>
  refine W1 ?_;refine bD kG ?_;refine W1 ?_;refine C1 (wT _) ?_;refine C1 (sN _) ?_;refine C1 (qo _ rfl) ?_;refine W3 ?_;refine⟨by cases l<;>rfl,?_⟩;refine W1 ?_;refine aW rfl (q4 _) ?_
  cases p with
  |true=>
   refine W1 ?_;refine aW rfl (q5 _) ?_;refine W1 ?_;refine S0 (fun hb h=>?_) fun hb h=>?_
   ·subst h;simp only[gN,jh,jw,reduceIte,Int.reduceEq] at hq
    try(simp -implicitDefEqProofs (disch:=omega) only[go_sem])
    rw[hq];exact lend
   have e0:=h;refine S0 (fun hb h=>?_) fun hb h=>?_
   ·subst h;simp only[gN,jh,jw,reduceIte,Int.reduceEq] at hq;refine cK [true] rfl (eO hB c5 (1+l) j _ NJ (by rw[aV];exact g _) (by decide) (by decide)) ?_;refine W1 ?_;rw[hq];exact lend
   have e1:=h;refine S0 (fun hb h=>?_) fun hb h=>?_
   ·exact absurd h hk2
   refine S0 (fun hb h=>?_) fun hb h=>?_
   ·exact absurd h hk3
   refine S0 (fun hb h=>?_) fun hb h=>?_
   ·subst h;simp only[gN,jh,jw,reduceIte,Int.reduceEq] at hq;refine W3 ?_
    try(simp -implicitDefEqProofs (disch:=omega) only[go_sem])
    rw[hq];exact lend
   have e4:=h
   with_reducible refine dS (fun hb=> ?_) (fun hb=> ?_)<;>have h:=hb<;>(try simp only[wf_preprocess] at h)<;>simp -implicitDefEqProofs (disch:=omega) only[go_sem,hb,List.getD_cons_zero,List.take_succ_cons,List.take_zero,List.take_nil]<;>refine W3 ?_
   ·subst h;simp only[gN,jh,jw,reduceIte,Int.reduceEq] at hq;refine W3 ?_
    try(refine⟨fun y hy=>(by rw[List.mem_singleton] at hy;subst hy;rfl),?_⟩;(repeat(with_reducible refine And.intro ?_ ?_;focus first|omega|rfl|assumption|exact⟨_,rfl,rfl⟩|(simp;omega)|(simp;done))))
    refine W3 ?_;refine⟨by cases l<;>rfl,?_⟩;refine W1 ?_;rw[hq];exact lend
   have e5:=h;simp only[gN,jh,jw,if_neg e0,if_neg e1,if_neg hk2,if_neg hk3,if_neg e4,if_neg e5] at hq;rw[hq];exact lend
  |false=>
   refine W1 ?_;refine aW rfl (q5 _) ?_;refine W1 ?_;refine S0 (fun hb h=>?_) fun hb h=>?_
   ·subst h;simp only[gN,jh,jw,reduceIte,Int.reduceEq] at hq
    try(simp -implicitDefEqProofs (disch:=omega) only[go_sem])
    rw[hq];exact lend
   have e0:=h;refine S0 (fun hb h=>?_) fun hb h=>?_
   ·subst h;simp only[gN,jh,jw,reduceIte,Int.reduceEq] at hq;refine cK [true] rfl (eO hB c5 (1+l) j _ NJ (by rw[aV];exact g _) (by decide) (by decide)) ?_;refine W1 ?_;rw[hq];exact lend
   have e1:=h;refine S0 (fun hb h=>?_) fun hb h=>?_
   ·exact absurd h hk2
   refine S0 (fun hb h=>?_) fun hb h=>?_
   ·exact absurd h hk3
   refine S0 (fun hb h=>?_) fun hb h=>?_
   ·subst h;simp only[gN,jh,jw,reduceIte,Int.reduceEq] at hq;refine W3 ?_
    try(simp -implicitDefEqProofs (disch:=omega) only[go_sem])
    rw[hq];exact lend
   have e4:=h
   with_reducible refine dS (fun hb=> ?_) (fun hb=> ?_)<;>have h:=hb<;>(try simp only[wf_preprocess] at h)<;>simp -implicitDefEqProofs (disch:=omega) only[go_sem,hb,List.getD_cons_zero,List.take_succ_cons,List.take_zero,List.take_nil]<;>refine W3 ?_
   ·subst h;simp only[gN,jh,jw,reduceIte,Int.reduceEq] at hq;refine W3 ?_
    try(refine⟨fun y hy=>(by rw[List.mem_singleton] at hy;subst hy;rfl),?_⟩;(repeat(with_reducible refine And.intro ?_ ?_;focus first|omega|rfl|assumption|exact⟨_,rfl,rfl⟩|(simp;omega)|(simp;done))))
    refine W3 ?_;refine⟨by cases l<;>rfl,?_⟩;refine W1 ?_;rw[hq];exact lend
   have e5:=h;simp only[gN,jh,jw,if_neg e0,if_neg e1,if_neg hk2,if_neg hk3,if_neg e4,if_neg e5] at hq;rw[hq];exact lend
 |false=>
  refine W1 ?_;refine aW rfl (q4 _) ?_
  cases p with
  |true=>
   refine W1 ?_;refine aW rfl (q5 _) ?_;refine W1 ?_;refine S0 (fun hb h=>?_) fun hb h=>?_
   ·subst h;simp only[gN,jh,jw,reduceIte,Int.reduceEq] at hq
    try(simp -implicitDefEqProofs (disch:=omega) only[go_sem])
    rw[hq];exact lend
   have e0:=h;refine S0 (fun hb h=>?_) fun hb h=>?_
   ·subst h;simp only[gN,jh,jw,reduceIte,Int.reduceEq] at hq;refine cK [true] rfl (eO hB c5 (1+l) j _ NJ (by rw[aV];exact g _) (by decide) (by decide)) ?_;refine W1 ?_;rw[hq];exact lend
   have e1:=h;refine S0 (fun hb h=>?_) fun hb h=>?_
   ·exact absurd h hk2
   refine S0 (fun hb h=>?_) fun hb h=>?_
   ·exact absurd h hk3
   refine S0 (fun hb h=>?_) fun hb h=>?_
   ·subst h;simp only[gN,jh,jw,reduceIte,Int.reduceEq] at hq;refine W3 ?_
    try(simp -implicitDefEqProofs (disch:=omega) only[go_sem])
    rw[hq];exact lend
   have e4:=h
   with_reducible refine dS (fun hb=> ?_) (fun hb=> ?_)<;>have h:=hb<;>(try simp only[wf_preprocess] at h)<;>simp -implicitDefEqProofs (disch:=omega) only[go_sem,hb,List.getD_cons_zero,List.take_succ_cons,List.take_zero,List.take_nil]<;>refine W3 ?_
   ·subst h;simp only[gN,jh,jw,reduceIte,Int.reduceEq] at hq;refine W3 ?_
    try(refine⟨fun y hy=>(by rw[List.mem_singleton] at hy;subst hy;rfl),?_⟩;(repeat(with_reducible refine And.intro ?_ ?_;focus first|omega|rfl|assumption|exact⟨_,rfl,rfl⟩|(simp;omega)|(simp;done))))
    refine W3 ?_;refine⟨by cases l<;>rfl,?_⟩;refine W1 ?_;rw[hq];exact lend
   have e5:=h;simp only[gN,jh,jw,if_neg e0,if_neg e1,if_neg hk2,if_neg hk3,if_neg e4,if_neg e5] at hq;rw[hq];exact lend
  |false=>
   refine W1 ?_;refine aW rfl (q5 _) ?_;refine W1 ?_;refine S0 (fun hb h=>?_) fun hb h=>?_
   ·subst h;simp only[gN,jh,jw,reduceIte,Int.reduceEq] at hq
    try(simp -implicitDefEqProofs (disch:=omega) only[go_sem])
    rw[hq];exact lend
   have e0:=h;refine S0 (fun hb h=>?_) fun hb h=>?_
   ·subst h;simp only[gN,jh,jw,reduceIte,Int.reduceEq] at hq;refine cK [true] rfl (eO hB c5 (1+l) j _ NJ (by rw[aV];exact g _) (by decide) (by decide)) ?_;refine W1 ?_;rw[hq];exact lend
   have e1:=h;refine S0 (fun hb h=>?_) fun hb h=>?_
   ·exact absurd h hk2
   refine S0 (fun hb h=>?_) fun hb h=>?_
   ·exact absurd h hk3
   refine S0 (fun hb h=>?_) fun hb h=>?_
   ·subst h;simp only[gN,jh,jw,reduceIte,Int.reduceEq] at hq;refine W3 ?_
    try(simp -implicitDefEqProofs (disch:=omega) only[go_sem])
    rw[hq];exact lend
   have e4:=h
   with_reducible refine dS (fun hb=> ?_) (fun hb=> ?_)<;>have h:=hb<;>(try simp only[wf_preprocess] at h)<;>simp -implicitDefEqProofs (disch:=omega) only[go_sem,hb,List.getD_cons_zero,List.take_succ_cons,List.take_zero,List.take_nil]<;>refine W3 ?_
   ·subst h;simp only[gN,jh,jw,reduceIte,Int.reduceEq] at hq;refine W3 ?_
    try(refine⟨fun y hy=>(by rw[List.mem_singleton] at hy;subst hy;rfl),?_⟩;(repeat(with_reducible refine And.intro ?_ ?_;focus first|omega|rfl|assumption|exact⟨_,rfl,rfl⟩|(simp;omega)|(simp;done))))
    refine W3 ?_;refine⟨by cases l<;>rfl,?_⟩;refine W1 ?_;rw[hq];exact lend
   have e5:=h;simp only[gN,jh,jw,if_neg e0,if_neg e1,if_neg hk2,if_neg hk3,if_neg e4,if_neg e5] at hq;rw[hq];exact lend
theorem Y8{bs:List Int}(hB:Bytes bs)(c:Cu bs)(l j:Nat)(S:Store)(hk:bE S (l,j)=some (.box (cur c))):
 bX prog 120 [.c (.ptr (l,j) 0)] S (fun r S1=>r=(Ag c).1.v/\S1=bG S (l,j) (.box (cur (Ag c).2))):=by
 unfold Ag;generalize hk0:(bn 12 (d9 3 (d9 2 (d9 3 (bZ nO c).2).2).2).2).1=k;generalize ho0:(d9 2 (d9 3 (bZ nO c).2).2).1=o;by_cases h23:k=2\/k=3
 ·cases o with
  |true=>exact acB hB c _ _ _ _ _ _ _ _ _ _ l j S hk rfl rfl (Prod.ext ho0 rfl) rfl (Prod.ext hk0 rfl) rfl h23
  |false=>exact acC hB c _ _ _ _ _ _ _ _ _ _ l j S hk rfl rfl (Prod.ext ho0 rfl) rfl (Prod.ext hk0 rfl) rfl h23
 ·exact acD hB c _ _ _ _ _ _ _ _ _ _ l j S hk rfl rfl (Prod.ext ho0 rfl) rfl (Prod.ext hk0 rfl) (fun e=>h23 (.inl e)) (fun e=>h23 (.inr e))
end Go.Ab