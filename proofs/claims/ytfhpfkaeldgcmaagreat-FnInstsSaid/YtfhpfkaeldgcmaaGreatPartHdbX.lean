/-
  SEVERAL TEXTS IN ONE (merged by program): contracts and models, each with its own heading.
-/
import Derived.Test.YtfhpfkaeldgcmaaGreatPartHdbO
import Derived.Test.YtfhpfkaeldgcmaaGreatPartHdbW
import Derived.Lib.Atoi
set_option maxHeartbeats 8000000
open Go.Proofs Go.Proofs.Tryz
set_option linter.unusedSimpArgs false
set_option linter.unusedVariables false
set_option maxRecDepth 4000
namespace Go.Ab
theorem Ir(d:Nat)(h:d<10):Lib.digitVal (UInt8.ofNat (48+d))=some d:=by
 have:(UInt8.ofNat (48+d)).toNat=48+d:=by rw[UInt8.toNat_ofNat'];omega
 unfold Lib.digitVal;rw[this,if_pos (by omega)];congr 1;omega
theorem AY:∀(l:List UInt8)(acc:Nat)(b:UInt8),Lib.decFrom acc (l++[b])=(Lib.decFrom acc l).bind fun m=>(Lib.digitVal b).map fun d=>m*10+d
 |[],acc,b=>by
  rw[List.nil_append,Lib.decFrom,Lib.decFrom];cases Lib.digitVal b<;>rfl
 |a::l,acc,b=>by
  rw[List.cons_append,Lib.decFrom,Lib.decFrom]
  cases Lib.digitVal a with
  |none=>rfl
  |some e=>exact AY l _ b
theorem xP(n:Nat):Lib.decFrom 0 (Lib.decDigits n)=some n:=by
 induction n using Nat.strongRecOn with
 |_ n ih=>
  rw[Lib.decDigits];split
  ·rename_i h;rw[Lib.decFrom,Ir n h];simp[Lib.decFrom]
  ·rename_i h;rw[AY,ih (n/10) (by omega),Ir _ (Nat.mod_lt _ (by decide))];simp only[Option.bind_some,Option.map_some,Option.some.injEq];omega
theorem xQ(n:Nat):∃b r,Lib.decDigits n=b::r/\48<=b.toNat/\b.toNat<=57:=by
 induction n using Nat.strongRecOn with
 |_ n ih=>
  rw[Lib.decDigits];split
  ·rename_i h;exact⟨_,_,rfl,by rw[UInt8.toNat_ofNat'];omega,by rw[UInt8.toNat_ofNat'];omega⟩
  ·rename_i h;obtain⟨b,r,e,h1,h2⟩:=ih (n/10) (by omega);rw[e];exact⟨b,r++_,rfl,h1,h2⟩
theorem ER(n:Nat):Lib.decNat (Lib.decDigits n)=some n:=by
 obtain⟨b,r,e,_⟩:=xQ n;unfold Lib.decNat;rw[show(Lib.decDigits n).isEmpty=false from by rw[e];rfl];exact xP n
theorem Gc(b:UInt8)(r:List UInt8):Lib.atoi (b::r)=if b==45 then(Lib.decNat r).map fun(m:Nat)=> -(m:Int) else if b==43 then(Lib.decNat r).map fun(m:Nat)=>(m:Int) else(Lib.decNat (b::r)).map fun(m:Nat)=>(m:Int):=rfl
theorem NM(n:Int):Lib.atoi (Lib.itoa n)=some n:=by
 unfold Lib.itoa;split
 ·rename_i h;show Lib.atoi (45::Lib.decDigits n.natAbs)=_;rw[Gc,if_pos (by decide),ER];simp only[Option.map_some,Option.some.injEq];omega
 ·rename_i h;obtain⟨b,r,e,h1,h2⟩:=xQ n.toNat;have hd:=ER n.toNat;rw[e] at hd ⊢;rw[Gc,if_neg (by simp only[beq_iff_eq];intro h;rw[h] at h1;revert h1;decide),if_neg (by simp only[beq_iff_eq];intro h;rw[h] at h1;revert h1;decide),hd];simp only[Option.map_some,Option.some.injEq];omega
theorem af9(n:Int):Lib.itoa n≠[]:=fun e=>by
 have:=NM n;rw[e] at this;cases this
def jh(s:List UInt8):Option Int:=match Lib.atoi s with
 |some n=>if(-999999999999<=n/\n<=999999999999)/\Lib.itoa n=s then some n else none
 |none=>none
theorem K6{n:Int}(h: -999999999999<=n/\n<=999999999999):jh (Lib.itoa n)=some n:=by
 unfold jh;rw[NM];exact if_pos ⟨h,rfl⟩
theorem K7{s:List UInt8}{n:Int}(h:jh s=some n):(-999999999999<=n/\n<=999999999999)/\Lib.itoa n=s:=by
 unfold jh at h;split at h
 ·split at h
  ·cases h;assumption
  ·cases h
 ·cases h
theorem AZ{b:UInt8}{r:List UInt8}(h:lowerB b):jh (b::r)=none:=by
 have h1:(b==45)=false:=by simp only[beq_eq_false_iff_ne];intro e;rw[e] at h;revert h;simp[lowerB]
 have h2:(b==43)=false:=by simp only[beq_eq_false_iff_ne];intro e;rw[e] at h;revert h;simp[lowerB]
 have h3:Lib.digitVal b=none:=if_neg (fun x=>by unfold lowerB at h;omega);unfold jh;rw[Gc,h1,h2];simp[Lib.decNat,Lib.decFrom,h3]
theorem Xx{s:List UInt8}(h:validName s=true):jh s=none:=by
 have h1:=gL h;have h2:=h1.2.2 0 (by omega)
 cases s with
 |nil=>simp at h1
 |cons b r=>
  rcases h2 with h2|h2
  ·exact AZ h2
  ·exact(h2.1 rfl).elim
def iL:ay:=.mk 0 [] []
def mU:aC:=.mk 0 [] [] 0 iL [] []
mutual
def fA(b:Bool):au->aC
 | .mk a l=>if a=[] then
    if b=true/\(l.length<2\/dL l 0=jI/\l.length<3) then mU
    else if dL l 0=pG then .mk 4 [] (dL l 1) 0 iL ((fH b l).drop 2) []
    else if dL l 0=tL then .mk 6 [] (dL l 1) 0 iL ((fH b l).drop 2) []
    else if dL l 0=tO then .mk 8 [] (dL l 1) 0 iL ((fH b l).drop 2) []
    else if dL l 0=pI then .mk 11 (dL l 1) [] 0 iL ((fH b l).drop 2) []
    else if dL l 0=jI then .mk 5 (dL l 1) (dL l 2) 0 iL ((fH b l).drop 3) []
    else if dL l 0=yM then .mk 9 [] [] 0 iL ((fH b l).drop 1) []
    else if dL l 0=sI then .mk 12 [] [] 0 (eP b (l.getD 1 dw)) ((fH b l).drop 2) []
    else if dL l 0=lN then .mk 7 [] [] 0 iL (((fH b l).drop 1).take 1) ((lF b l).drop 2)
    else .mk 10 [] (dL l 0) 0 iL ((fH b l).drop 1) []
   else match jh a with
    |some n=>.mk 1 [] [] n iL [] []
    |none=>if a=yg then .mk 2 [] [] 1 iL [] [] else if a=wG then .mk 2 [] [] 0 iL [] [] else .mk 3 [] a 0 iL [] []
def fH(b:Bool):List au->List aC
 |[]=>[]
 |x::xs=>fA b x::fH b xs
def tY(b:Bool):au->aZ
 | .mk a l=>if l.length<2 then .mk [] [] mU else .mk (dL l 0) (gq ((l.drop 1).dropLast)) ((fH b l).getLastD mU)
def lF(b:Bool):List au->List aZ
 |[]=>[]
 |x::xs=>tY b x::lF b xs
end
theorem yQ(b:Bool):∀l,fH b l=l.map (fA b)
 |[]=>rfl
 |t::ts=>by rw[fH,List.map_cons,yQ b ts]
theorem BL(b:Bool):∀l,lF b l=l.map (tY b)
 |[]=>rfl
 |t::ts=>by rw[lF,List.map_cons,BL b ts]
theorem kC(b:Bool)(l m:List au):fH b (l++m)=fH b l++fH b m:=by simp only[yQ,List.map_append]
theorem oz(b:Bool)(l m:List au):lF b (l++m)=lF b l++lF b m:=by simp only[BL,List.map_append]
theorem oL{t:ay}(h:Bz t):t=iL:=ay.ext h.1 h.2.1 (List.eq_nil_of_length_eq_zero h.2.2)
theorem Tx{s:List UInt8}(h:s∈ops):s≠[]/\∀w∈[pG,tL,tO,pI,jI,yM,sI,lN],s≠w:=by
 have:=ahu h;refine⟨fun e=>by rw[e] at this;simp at this,fun w hw e=> ?_⟩;rw[e] at this;simp only[List.mem_cons,List.not_mem_nil,or_false] at hw;rcases hw with g|g|g|g|g|g|g|g<;>rw[g] at this<;>revert this<;>decide
mutual
theorem Dk(b:Bool):∀e:aC,iW e=true->fA b (fO e)=e
 | .mk k tr nm n ty zs ms=>fun hok=>by
   rw[iW,Bool.and_eq_true,Bool.and_eq_true] at hok;have hf:=gL hok.1;have h1:=Ro b zs hok.2.1;have h2:=Rp b ms hok.2.2;obtain⟨p0,p1,p2,p3,p4,p5,p6⟩:=hf;simp only[aC.aR,aC.bU,aC.fName,aC.fN,aC.fType,aC.fArgs,aC.bE] at p0 p1 p2 p3 p4 p5 p6;have nz:∀{l:List aC},l.length=0->l=[]:=fun h=>List.eq_nil_of_length_eq_zero h
   have Gd:k≠7->ms=[]:=fun h=>List.eq_nil_of_length_eq_zero (by
    have:¬0<ms.length:=fun x=>h (p6.2 x)
    omega)
   have hk:k=1\/k=2\/k=3\/k=4\/k=5\/k=6\/k=7\/k=8\/k=9\/k=10\/k=11\/k=12:=by omega
   rcases hk with rfl|rfl|rfl|rfl|rfl|rfl|rfl|rfl|rfl|rfl|rfl|rfl
   all_goals simp only[if_true,if_false,true_or,or_true,false_or,or_false,or_self,(by decide:(1:Int)=5<->False),Int.reduceEq] at p1 p2 p3 p4 p5
   ·have e1:=oL p4;have e2:=nz p5;have e3:=Gd (by decide);subst e1 e2 e3 p1 p2;rw[fO,if_pos rfl,bN,fA,if_neg (af9 n),K6 (by omega)]
   ·have e1:=oL p4;have e2:=nz p5;have e3:=Gd (by decide);subst e1 e2 e3 p1 p2;rw[fO,if_neg (by decide),if_pos rfl,bN,fA];rcases p3 with rfl|rfl
    ·rw[if_neg (by decide:¬(0:Int)=1),if_neg (by decide),show jh wG=none from AZ (by simp[lowerB]),if_neg (by decide),if_pos rfl]
    ·rw[if_pos rfl,if_neg (by decide),show jh yg=none from AZ (by simp[lowerB]),if_pos rfl]
   ·have e1:=oL p4;have e2:=nz p5;have e3:=Gd (by decide);subst e1 e2 e3 p1 p3;have hr:=(gL p2).2.1;rw[fO,if_neg (by decide),if_neg (by decide),if_pos rfl,bN,fA,if_neg (Dj p2),Xx p2,if_neg (fun e=>hr (by rw[e];simp[reserved,yg])),if_neg (fun e=>hr (by rw[e];simp[reserved,wG]))]
   all_goals have hz:(y7 zs).length=zs.length:=by rw[AQ,List.length_map]
   ·have e1:=oL p4;have e3:=Gd (by decide);subst e1 e3 p1 p3;simp[fO,jY,d9,dh,fA,fH,kC,lF,oz,dL,bN,au.bC,pG,jI,tL,lN,tO,yM,pI,sI,h1,hz,h2]
    all_goals (intros;omega)
   ·have e1:=oL p4;have e3:=Gd (by decide);subst e1 e3 p3;simp[fO,jY,d9,dh,fA,fH,kC,lF,oz,dL,bN,au.bC,pG,jI,tL,lN,tO,yM,pI,sI,h1,hz,h2]
    all_goals (intros;omega)
   ·have e1:=oL p4;have e3:=Gd (by decide);subst e1 e3 p1 p3;simp[fO,jY,d9,dh,fA,fH,kC,lF,oz,dL,bN,au.bC,pG,jI,tL,lN,tO,yM,pI,sI,h1,hz,h2]
    all_goals (intros;omega)
   ·have e1:=oL p4;subst e1 p1 p2 p3;have hm:0<ms.length:=p6.1 rfl
    obtain⟨z,rfl⟩:∃z,zs=[z]:=by
     cases zs with
     |nil=>simp at p5
     |cons z t=>cases t with
      |nil=>exact⟨z,rfl⟩
      |cons _ _=>simp at p5
    simp only[y7,fH,List.cons.injEq,and_true] at h1;simp[fO,jY,d9,dh,fA,fH,kC,lF,oz,y7,dL,bN,au.bC,pG,jI,tL,lN,tO,yM,pI,sI,h1,h2]
    all_goals (intros;omega)
   ·have e1:=oL p4;have e3:=Gd (by decide);subst e1 e3 p1 p3;simp[fO,jY,d9,dh,fA,fH,kC,lF,oz,dL,bN,au.bC,pG,jI,tL,lN,tO,yM,pI,sI,h1,hz,h2]
    all_goals (intros;omega)
   ·have e1:=oL p4;have e3:=Gd (by decide);subst e1 e3 p1 p2 p3;simp[fO,jY,d9,dh,fA,fH,kC,lF,oz,dL,bN,au.bC,pG,jI,tL,lN,tO,yM,pI,sI,h1,hz,h2]
    all_goals (intros;omega)
   ·have e1:=oL p4;have e3:=Gd (by decide);subst e1 e3 p1 p3;have ho:=Tx p2;simp only[List.mem_cons,List.not_mem_nil,or_false,ne_eq,forall_eq_or_imp,forall_eq] at ho;obtain⟨_,o1,o2,o3,o4,o5,o6,o7,o8⟩:=ho;simp[fO,jY,d9,dh,fA,fH,kC,dL,bN,au.bC,h1,hz,o1,o2,o3,o4,o5,o6,o7,o8]
    all_goals (intros;omega)
   ·have e1:=oL p4;have e3:=Gd (by decide);subst e1 e3 p2 p3;simp[fO,jY,d9,dh,fA,fH,kC,lF,oz,dL,bN,au.bC,pG,jI,tL,lN,tO,yM,pI,sI,h1,hz,h2]
    all_goals (intros;omega)
   ·have e3:=Gd (by decide);subst e3 p1 p2 p3;have ht:=uw b ty (wB p4);simp[fO,jY,d9,dh,fA,fH,kC,dL,bN,au.bC,pG,jI,tL,lN,tO,yM,pI,sI,h1,hz,ht]
    all_goals (intros;omega)
theorem Ro(b:Bool):∀es:List aC,lG es=true->fH b (y7 es)=es
 |[],_=>rfl
 |t::ts,h=>by
  rw[lG,Bool.and_eq_true] at h;rw[y7,fH,Dk b t h.1,Ro b ts h.2]
theorem aga(b:Bool):∀m:aZ,yc m=true->tY b (Db m)=m
 | .mk c vs e=>fun h=>by
   rw[yc,Bool.and_eq_true,Bool.and_eq_true] at h;have he:=Dk b e h.2.2;rw[Db,d9,tY,if_neg (by simp),kC];have e1:dL ([bN c]++dh vs++[fO e]) 0=c:=rfl
   have e2:(([bN c]++dh vs++[fO e]).drop 1).dropLast=dh vs:=by
    rw[List.append_assoc,List.singleton_append,List.drop_succ_cons,List.drop_zero,List.dropLast_concat]
   rw[e1,e2,mQ (xM h.2.1)];congr 1;rw[fH,he,List.getLastD_eq_getLast?,List.getLast?_append];simp[fH]
theorem Rp(b:Bool):∀ms:List aZ,og ms=true->lF b (Ea ms)=ms
 |[],_=>rfl
 |t::ts,h=>by
  rw[og,Bool.and_eq_true] at h;rw[Ea,lF,aga b t h.1,Rp b ts h.2]
end
theorem yR:iL.sz=0:=by rw[tH];rfl
theorem vP:mU.sz=0:=by rw[xH];simp[mU,aC.bU,aC.fName,aC.fType,aC.fArgs,aC.bE,yR,rT,zh]
theorem Xy(l:List au):((gq ((l.drop 1).dropLast)).length+((gq ((l.drop 1).dropLast)).map List.length).sum)<=(l.drop 1).dropLast.length+dI ((l.drop 1).dropLast):=by
 have:=nS ((l.drop 1).dropLast);omega
theorem agb(x:au)(m:List au)(y:au):dI (x::(m++[y]))=x.sz+(dI m+y.sz):=by rw[dI,jP];simp[dI]
mutual
theorem zU(b:Bool):∀x:au,(fA b x).sz<=x.sz
 | .mk a l=>by
   have g:=NN b l
   have hl:(fH b l).length=l.length:=by rw[yQ,List.length_map]
   have hm:(lF b l).length=l.length:=by rw[BL,List.length_map]
   rw[iT,jV];simp only[au.bC,au.aA];rw[fA];split
   ·have g1:rT ((fH b l).drop 1)+(dL l 0).length<=dI l:=by
     have:=g 0;simp only[Nat.zero_add,(by decide:¬(1<=0)),if_false] at this;omega
    have g2:rT ((fH b l).drop 2)+((dL l 0).length+(dL l 1).length)<=dI l:=by
     have:=g 1;simp only[Nat.reduceAdd,Nat.le_refl,if_true,Nat.sub_self] at this;omega
    have g3:rT ((fH b l).drop 3)+((dL l 1).length+(dL l 2).length)<=dI l:=by
     have:=g 2;simp only[Nat.reduceAdd,(by decide:1<=2),if_true,Nat.reduceSub] at this;omega
    split
    ·rw[vP];omega
    ·repeat' split
     all_goals rw[xH];simp only[aC.bU,aC.fName,aC.fType,aC.fArgs,aC.bE,yR,rT,zh,List.length_nil,List.length_drop,List.length_take,hl,hm,List.drop_zero] at g1 g2 g3 ⊢
     all_goals try omega
     ·have h1:=vO b (l.getD 1 dw)
      have h2:rT ((fH b l).drop 2)+(l.getD 1 dw).sz<=dI l:=by
       match l with
       |[]=>simp[fH,rT,dI,En]
       |[x]=>simp[fH,rT,dI,En]
       |x::y::l=>
        have:=Jo b l;simp only[fH,List.drop_succ_cons,List.drop_zero,dI];show _+y.sz<=_;omega
      omega
     ·match l with
      |[]=>simp[rT,zh,fH,lF]
      |[x]=>simp[rT,zh,fH,lF]
      |x::y::l=>
       have h1:=zU b y;have h2:=Rq b l;simp only[fH,lF,List.drop_succ_cons,List.drop_zero,List.take_succ_cons,List.take_zero,rT,dI,List.length_cons];omega
   ·split
    ·rw[xH];simp[aC.bU,aC.fName,aC.fType,aC.fArgs,aC.bE,yR,rT,zh]
    ·repeat' split
     all_goals rw[xH];simp[aC.bU,aC.fName,aC.fType,aC.fArgs,aC.bE,yR,rT,zh]
theorem Jo(b:Bool):∀l:List au,rT (fH b l)<=dI l
 |[]=>by simp[fH,rT]
 |x::xs=>by
  have h1:=zU b x;have h2:=Jo b xs;rw[fH,rT,dI];omega
theorem NN(b:Bool):∀(l:List au)(i:Nat),rT ((fH b l).drop (i+1))+((if 1<=i then(dL l (i-1)).length else 0)+(dL l i).length)<=dI l
 |[],i=>by simp[fH,rT,Di]
 |x::xs,0=>by
  have h2:=Jo b xs;rw[fH,List.drop_succ_cons,List.drop_zero,dI,show dL (x::xs) 0=x.bC from rfl,iT];simp;omega
 |x::xs,i+1=>by
  have h2:=NN b xs i;rw[fH,List.drop_succ_cons,dI,show dL (x::xs) (i+1)=dL xs i from rfl]
  cases i with
  |zero=>rw[show dL (x::xs) (0+1-1)=x.bC from rfl,iT];simp at h2 ⊢;omega
  |succ i=>rw[show dL (x::xs) (i+1+1-1)=dL xs i from rfl];simp at h2 ⊢;omega
theorem agc(b:Bool):∀x:au,(tY b x).sz<=x.sz
 | .mk a l=>by
   rw[iT,jV];simp only[au.bC,au.aA];rw[tY];split
   ·rw[BD];simp[aZ.fK,aZ.aO,aZ.fBody,vP]
   ·rename_i h;have hn:=Xy l;have hb:=K8 b l;rw[BD];simp only[aZ.fK,aZ.aO,aZ.fBody]
    obtain⟨x,m,y,rfl⟩:∃x m y,l=x::(m++[y]):=by
     cases l with
     |nil=>simp at h
     |cons x l=>
      have hl:l≠[]:=fun e=>by rw[e] at h;simp at h
      exact⟨x,l.dropLast,l.getLast hl,by rw[List.dropLast_concat_getLast]⟩
    rw[agb] at *
    rw[show dL (x::(m++[y])) 0=x.bC from rfl,iT x];simp only[List.drop_succ_cons,List.drop_zero,List.dropLast_concat,List.length_cons,List.length_append,List.length_nil] at hn ⊢
    have hy:((x::(m++[y])).getLastD dw)=y:=by rw[<-List.cons_append,List.getLastD_eq_getLast?,List.getLast?_append];simp
    rw[hy] at hb;omega
theorem Rq(b:Bool):∀l:List au,zh (lF b l)<=dI l
 |[]=>by simp[lF,zh]
 |x::xs=>by
  have h1:=agc b x;have h2:=Rq b xs;rw[lF,zh,dI];omega
theorem K8(b:Bool):∀l:List au,((fH b l).getLastD mU).sz<=(l.getLastD dw).sz
 |[]=>by simp[fH,vP]
 |[x]=>by simpa [fH] using zU b x
 |x::y::l=>by
  have:=K8 b (y::l);simpa [fH] using this
end
def wR(s:List UInt8):Prop:=s.head? =some 45
instance (s:List UInt8):Decidable (wR s):=inferInstanceAs (Decidable (_=_))
def fC(s:List UInt8):List UInt8:=if wR s then s.tail else s
theorem yS:∀(l:List UInt8)(acc v:Nat),Lib.decFrom acc l=some v->∀b∈l,48<=b.toNat/\b.toNat<=57
 |[],_,_,_,b,hb=>by cases hb
 |a::l,acc,v,h,b,hb=>by
  rw[Lib.decFrom] at h
  cases hd:Lib.digitVal a with
  |none=>rw[hd] at h;cases h
  |some d=>
   rw[hd] at h;rcases List.mem_cons.1 hb with rfl|hb
   ·unfold Lib.digitVal at hd;split at hd
    ·assumption
    ·cases hd
   ·exact yS l _ v h b hb
theorem Tz{b:UInt8}(h:48<=b.toNat/\b.toNat<=57):Lib.digitVal b=some (b.toNat-48):=if_pos h
theorem decFrom_take{t:List UInt8}{i acc:Nat}(hi:i<t.length)(h:Lib.decFrom 0 (t.take i)=some acc)(hd:48<=t[i].toNat/\t[i].toNat<=57):Lib.decFrom 0 (t.take (i+1))=some (acc*10+(t[i].toNat-48)):=by
 rw[List.take_succ_eq_append_getElem hi,AY,h,Tz hd];rfl
theorem Gf{s:List UInt8}{m:Int}(h:jh s=some m):(wR s<->m<0)/\fC s=Lib.decDigits m.natAbs/\1<=(fC s).length/\(fC s).length<=12:=by
 obtain⟨hr,he⟩:=K7 h;have hl:(Lib.decDigits m.natAbs).length<=12:=Dc 11 _ (by omega);obtain⟨b,r,e,b1,b2⟩:=xQ m.natAbs
 have hl1:1<=(Lib.decDigits m.natAbs).length:=by rw[e];simp
 unfold Lib.itoa at he;by_cases hn:m<0
 ·rw[if_pos hn] at he
  have hs:wR s:=by rw[<-he];rfl
  have hb:fC s=Lib.decDigits m.natAbs:=by unfold fC;rw[if_pos hs,<-he];rfl
  exact⟨⟨fun _=>hn,fun _=>hs⟩,hb,by rw[hb];exact⟨hl1,hl⟩⟩
 ·rw[if_neg hn,show m.toNat=m.natAbs by omega] at he
  have hs:¬wR s:=fun x=>by
   rw[<-he,e] at x;unfold wR at x;simp only[List.head?_cons,Option.some.injEq] at x;rw[x] at b1;revert b1;decide
  have hb:fC s=Lib.decDigits m.natAbs:=by unfold fC;rw[if_neg hs,<-he]
  exact⟨⟨fun x=>(hs x).elim,fun x=>(hn x).elim⟩,hb,by rw[hb];exact⟨hl1,hl⟩⟩
theorem uP{s:List UInt8}(h:(fC s).length<1\/12<(fC s).length):jh s=none:=by
 cases hr:jh s with
 |none=>rfl
 |some m=>have:=(Gf hr).2.2;omega
theorem BM{s:List UInt8}{i:Nat}(hi:i<(fC s).length)(h:¬(48<=(fC s)[i].toNat/\(fC s)[i].toNat<=57)):jh s=none:=by
 cases hr:jh s with
 |none=>rfl
 |some m=>
  have hk:=(Gf hr).2.1;have hd:=xP m.natAbs;rw[<-hk] at hd;exact absurd (yS _ _ _ hd _ (List.getElem_mem hi)) h
theorem NP{s:List UInt8}{v:Nat}(hv:Lib.decFrom 0 (fC s)=some v)(hb:v<=999999999999):jh s=if Lib.itoa (if wR s then -(v:Int) else v)=s then some (if wR s then -(v:Int) else v) else none:=by
 obtain⟨z,hz⟩:∃z,z=(if wR s then -(v:Int) else v):=⟨_,rfl⟩
 have hzb: -999999999999<=z/\z<=999999999999:=by rw[hz];split<;>omega
 rw[<-hz];by_cases h:Lib.itoa z=s
 ·rw[if_pos h]
  conv=>lhs;rw[<-h]
  exact K6 hzb
 ·rw[if_neg h]
  cases hr:jh s with
  |none=>rfl
  |some m=>
   have hk:=Gf hr;have hd:=xP m.natAbs;rw[<-hk.2.1,hv] at hd
   have hm:v=m.natAbs:=by simpa using hd
   have:z=m:=by
    rw[hz];by_cases hn:wR s
    ·have:=hk.1.1 hn;rw[if_pos hn];omega
    ·rw[if_neg hn];have:¬m<0:=fun x=>hn (hk.1.2 x);omega
   rw[this] at h;exact absurd (K7 hr).2 h
theorem TA(s:List UInt8)(hs:s.length<=1073741824):bq prog 274 [.c (.d (.s s)),.c (.d (.i .i64 12))] (.eH [(false,[.d (.i .i64 ((jh s).getD 0))]),(false,[.d (.b (jh s).isSome)])]):=fun S=>by
 have d0:jh s=none->V.eH [(false,[.d (.i .i64 0)]),(false,[.d (.b false)])]=.eH [(false,[.d (.i .i64 ((jh s).getD 0))]),(false,[.d (.b (jh s).isSome)])]:=fun e=>by rw[e];rfl
 refine zcx [.tmp 4,.tmp 5] func274 ntmps274 ?_;simp -implicitDefEqProofs (disch:=omega) only[go_sem]
 with_reducible refine aD (fun hb=> ?_) (fun hb=> ?_)<;>have h:=hb<;>(try simp only[wf_preprocess] at h)<;>simp -implicitDefEqProofs (disch:=omega) only[go_sem,hb]<;>(repeat(with_reducible refine And.intro ?_ ?_;focus first|omega|rfl|assumption|exact⟨_,rfl,rfl⟩|(simp;omega)|(simp;done)))
 ·have hpos:0<s.length:=by omega
  have h0:(s.getD 0 0).toNat=45<->wR s:=by
   cases s with
   |nil=>simp at hpos
   |cons b s=>
    unfold wR;simp only[List.getD_cons_zero,List.head?_cons,Option.some.injEq];constructor
    ·intro e;exact UInt8.toNat.inj e
    ·intro e;rw[e];rfl
  (repeat(with_reducible refine And.intro ?_ ?_;focus first|omega|rfl|assumption|exact⟨_,rfl,rfl⟩|(simp;omega)|(simp;done)))
  with_reducible refine aD (fun hb=> ?_) (fun hb=> ?_)<;>have h:=hb<;>(try simp only[wf_preprocess] at h)<;>simp -implicitDefEqProofs (disch:=omega) only[go_sem,hb]<;>(repeat(with_reducible refine And.intro ?_ ?_;focus first|omega|rfl|assumption|exact⟨_,rfl,rfl⟩|(simp;omega)|(simp;done)))
  ·have hn:wR s:=h0.1 (by omega)
   have hb:fC s=(s.take s.length).drop 1:=by unfold fC;rw[if_pos hn,List.take_length,List.drop_one]
   (repeat(with_reducible refine And.intro ?_ ?_;focus first|omega|rfl|assumption|exact⟨_,rfl,rfl⟩|(simp;omega)|(simp;done)))
   rw[<-hb]
   have hbl:(fC s).length<=s.length:=by rw[hb];simp
   with_reducible refine aD (fun hb=> ?_) (fun hb=> ?_)<;>have h:=hb<;>(try simp only[wf_preprocess] at h)<;>simp -implicitDefEqProofs (disch:=omega) only[go_sem,hb]<;>(repeat(with_reducible refine And.intro ?_ ?_;focus first|omega|rfl|assumption|exact⟨_,rfl,rfl⟩|(simp;omega)|(simp;done)))
   ·exact d0 (uP (by omega))
   with_reducible refine aD (fun hb=> ?_) (fun hb=> ?_)<;>have h:=hb<;>(try simp only[wf_preprocess] at h)<;>simp -implicitDefEqProofs (disch:=omega) only[go_sem,hb]<;>(repeat(with_reducible refine And.intro ?_ ?_;focus first|omega|rfl|assumption|exact⟨_,rfl,rfl⟩|(simp;omega)|(simp;done)))
   ·exact d0 (uP (by omega))
   have hl1:1<=(fC s).length:=by omega
   have hl12:(fC s).length<=12:=by omega
   refine bT (ι:=Nat×Nat) zmx rfl [0,6,7,8,9] (fun y=>[.c (.d (.s s)),.c (.d (.b true)),.c (.d (.s (fC s))),.c (.d (.i .i64 y.2)),.c (.d (.i .i64 y.1))]) (fun _=>[]::S)
    (fun y=>y.1<=(fC s).length/\Lib.decFrom 0 ((fC s).take y.1)=some y.2/\y.2<10^y.1) (fun y=>(fC s).length-y.1) (0,0) rfl rfl ⟨Nat.zero_le _,rfl,by decide⟩ ?_
   rintro⟨i,acc⟩ ⟨p1,p2,p3⟩;simp only at p1 p2 p3;have p4:10^i<=10^12:=Nat.pow_le_pow_right (by decide) (by omega);simp -implicitDefEqProofs (disch:=omega) only[go_sem]
   with_reducible refine aD (fun hb=> ?_) (fun hb=> ?_)<;>have h:=hb<;>(try simp only[wf_preprocess] at h)<;>simp -implicitDefEqProofs (disch:=omega) only[go_sem,hb]<;>(repeat(with_reducible refine And.intro ?_ ?_;focus first|omega|rfl|assumption|exact⟨_,rfl,rfl⟩|(simp;omega)|(simp;done)))
   ·have hi:i<(fC s).length:=by omega
    have e:(fC s).getD i 0=(fC s)[i]:=by simp[List.getD,hi]
    have hbb:=(fC s)[i].toNat_lt
    (repeat(with_reducible refine And.intro ?_ ?_;focus first|omega|rfl|assumption|exact⟨_,rfl,rfl⟩|(simp;omega)|(simp;done)))
    simp only[e]
    with_reducible refine aD (fun hb=> ?_) (fun hb=> ?_)<;>have h:=hb<;>(try simp only[wf_preprocess] at h)<;>simp -implicitDefEqProofs (disch:=omega) only[go_sem,hb]<;>(repeat(with_reducible refine And.intro ?_ ?_;focus first|omega|rfl|assumption|exact⟨_,rfl,rfl⟩|(simp;omega)|(simp;done)))
    ·exact d0 (BM hi (by omega))
    (repeat(with_reducible refine And.intro ?_ ?_;focus first|omega|rfl|assumption|exact⟨_,rfl,rfl⟩|(simp;omega)|(simp;done)))
    simp only[e]
    with_reducible refine aD (fun hb=> ?_) (fun hb=> ?_)<;>have h:=hb<;>(try simp only[wf_preprocess] at h)<;>simp -implicitDefEqProofs (disch:=omega) only[go_sem,hb]<;>(repeat(with_reducible refine And.intro ?_ ?_;focus first|omega|rfl|assumption|exact⟨_,rfl,rfl⟩|(simp;omega)|(simp;done)))
    ·exact d0 (BM hi (by omega))
    have hdg:48<=(fC s)[i].toNat/\(fC s)[i].toNat<=57:=by omega
    have ht:=decFrom_take hi p2 hdg
    have e2:(10:Int)*acc+(((fC s)[i].toNat:Int)-48)=((acc*10+((fC s)[i].toNat-48):Nat):Int):=by omega
    (repeat(with_reducible refine And.intro ?_ ?_;focus first|omega|rfl|assumption|exact⟨_,rfl,rfl⟩|(simp;omega)|(simp;done)))
    simp -implicitDefEqProofs (disch:=omega) only[go_sem,wrap_u8,e];rw[e2];exact dG (i+1,acc*10+((fC s)[i].toNat-48)) (by simp only;omega) rfl rfl ⟨by simp only;omega,ht,by simp only[Nat.pow_succ];omega⟩
   ·have hi:i=(fC s).length:=by omega
    have hv:Lib.decFrom 0 (fC s)=some acc:=by rw[hi,List.take_length] at p2;exact p2
    have EG:=NP hv (by omega);rw[if_pos hn] at EG;rw[show(0:Int)-acc= -(acc:Int) by omega];refine aB (u7 (-(acc:Int)) (by omega) (by omega)) ?_;simp -implicitDefEqProofs (disch:=omega) only[go_sem]
    with_reducible refine aD (fun hb=> ?_) (fun hb=> ?_)<;>have h:=hb<;>(try simp only[wf_preprocess] at h)<;>simp -implicitDefEqProofs (disch:=omega) only[go_sem,hb]<;>(repeat(with_reducible refine And.intro ?_ ?_;focus first|omega|rfl|assumption|exact⟨_,rfl,rfl⟩|(simp;omega)|(simp;done)))
    ·exact d0 (EG.trans (if_neg h))
    ·rw[EG.trans (if_pos h)];rfl
  ·have hn:¬wR s:=fun x=>h (by rw[h0.2 x];rfl)
   have hbs:fC s=s:=by unfold fC;rw[if_neg hn]
   have hbl:(fC s).length=s.length:=by rw[hbs]
   with_reducible refine aD (fun hb=> ?_) (fun hb=> ?_)<;>have h:=hb<;>(try simp only[wf_preprocess] at h)<;>simp -implicitDefEqProofs (disch:=omega) only[go_sem,hb]<;>(repeat(with_reducible refine And.intro ?_ ?_;focus first|omega|rfl|assumption|exact⟨_,rfl,rfl⟩|(simp;omega)|(simp;done)))
   ·exact d0 (uP (by omega))
   with_reducible refine aD (fun hb=> ?_) (fun hb=> ?_)<;>have h:=hb<;>(try simp only[wf_preprocess] at h)<;>simp -implicitDefEqProofs (disch:=omega) only[go_sem,hb]<;>(repeat(with_reducible refine And.intro ?_ ?_;focus first|omega|rfl|assumption|exact⟨_,rfl,rfl⟩|(simp;omega)|(simp;done)))
   ·exact d0 (uP (by omega))
   have hl1:1<=(fC s).length:=by omega
   have hl12:(fC s).length<=12:=by omega
   refine bT (ι:=Nat×Nat) zmx rfl [0,6,7,8,9] (fun y=>[.c (.d (.s s)),.c (.d (.b false)),.c (.d (.s (fC s))),.c (.d (.i .i64 y.2)),.c (.d (.i .i64 y.1))]) (fun _=>[]::S)
    (fun y=>y.1<=(fC s).length/\Lib.decFrom 0 ((fC s).take y.1)=some y.2/\y.2<10^y.1) (fun y=>(fC s).length-y.1) (0,0) (by rw[hbs];rfl) rfl ⟨Nat.zero_le _,rfl,by decide⟩ ?_
   rintro⟨i,acc⟩ ⟨p1,p2,p3⟩;simp only at p1 p2 p3;have p4:10^i<=10^12:=Nat.pow_le_pow_right (by decide) (by omega);simp -implicitDefEqProofs (disch:=omega) only[go_sem]
   with_reducible refine aD (fun hb=> ?_) (fun hb=> ?_)<;>have h:=hb<;>(try simp only[wf_preprocess] at h)<;>simp -implicitDefEqProofs (disch:=omega) only[go_sem,hb]<;>(repeat(with_reducible refine And.intro ?_ ?_;focus first|omega|rfl|assumption|exact⟨_,rfl,rfl⟩|(simp;omega)|(simp;done)))
   ·have hi:i<(fC s).length:=by omega
    have e:(fC s).getD i 0=(fC s)[i]:=by simp[List.getD,hi]
    have hbb:=(fC s)[i].toNat_lt
    (repeat(with_reducible refine And.intro ?_ ?_;focus first|omega|rfl|assumption|exact⟨_,rfl,rfl⟩|(simp;omega)|(simp;done)))
    simp only[e]
    with_reducible refine aD (fun hb=> ?_) (fun hb=> ?_)<;>have h:=hb<;>(try simp only[wf_preprocess] at h)<;>simp -implicitDefEqProofs (disch:=omega) only[go_sem,hb]<;>(repeat(with_reducible refine And.intro ?_ ?_;focus first|omega|rfl|assumption|exact⟨_,rfl,rfl⟩|(simp;omega)|(simp;done)))
    ·exact d0 (BM hi (by omega))
    (repeat(with_reducible refine And.intro ?_ ?_;focus first|omega|rfl|assumption|exact⟨_,rfl,rfl⟩|(simp;omega)|(simp;done)))
    simp only[e]
    with_reducible refine aD (fun hb=> ?_) (fun hb=> ?_)<;>have h:=hb<;>(try simp only[wf_preprocess] at h)<;>simp -implicitDefEqProofs (disch:=omega) only[go_sem,hb]<;>(repeat(with_reducible refine And.intro ?_ ?_;focus first|omega|rfl|assumption|exact⟨_,rfl,rfl⟩|(simp;omega)|(simp;done)))
    ·exact d0 (BM hi (by omega))
    have hdg:48<=(fC s)[i].toNat/\(fC s)[i].toNat<=57:=by omega
    have ht:=decFrom_take hi p2 hdg
    have e2:(10:Int)*acc+(((fC s)[i].toNat:Int)-48)=((acc*10+((fC s)[i].toNat-48):Nat):Int):=by omega
    (repeat(with_reducible refine And.intro ?_ ?_;focus first|omega|rfl|assumption|exact⟨_,rfl,rfl⟩|(simp;omega)|(simp;done)))
    simp -implicitDefEqProofs (disch:=omega) only[go_sem,wrap_u8,e];rw[e2];exact dG (i+1,acc*10+((fC s)[i].toNat-48)) (by simp only;omega) rfl rfl ⟨by simp only;omega,ht,by simp only[Nat.pow_succ];omega⟩
   ·have hi:i=(fC s).length:=by omega
    have hv:Lib.decFrom 0 (fC s)=some acc:=by rw[hi,List.take_length] at p2;exact p2
    have EG:=NP hv (by omega);rw[if_neg hn] at EG;refine aB (u7 ((acc:Int)) (by omega) (by omega)) ?_;simp -implicitDefEqProofs (disch:=omega) only[go_sem]
    with_reducible refine aD (fun hb=> ?_) (fun hb=> ?_)<;>have h:=hb<;>(try simp only[wf_preprocess] at h)<;>simp -implicitDefEqProofs (disch:=omega) only[go_sem,hb]<;>(repeat(with_reducible refine And.intro ?_ ?_;focus first|omega|rfl|assumption|exact⟨_,rfl,rfl⟩|(simp;omega)|(simp;done)))
    ·exact d0 (EG.trans (if_neg h))
    ·rw[EG.trans (if_pos h)];rfl
 ·have hs0:s=[]:=List.eq_nil_of_length_eq_zero (by omega)
  have hb0:(fC s).length=0:=by rw[hs0];rfl
  with_reducible refine aD (fun hb=> ?_) (fun hb=> ?_)<;>have h:=hb<;>(try simp only[wf_preprocess] at h)<;>simp -implicitDefEqProofs (disch:=omega) only[go_sem,hb]<;>(repeat(with_reducible refine And.intro ?_ ?_;focus first|omega|rfl|assumption|exact⟨_,rfl,rfl⟩|(simp;omega)|(simp;done)))
  ·exact d0 (uP (by omega))
  ·omega
theorem K9(s:List UInt8)(hs:s.length<=1073741824):bq prog 262 [.c (.d (.s s))] (.eH [(false,[.d (.i .i64 ((jh s).getD 0))]),(false,[.d (.b (jh s).isSome)])]):=fun S=>by
 refine zcx [.tmp 2,.tmp 3] func262 ntmps262 ?_;simp -implicitDefEqProofs (disch:=omega) only[go_sem];refine aB (TA s hs) ?_;simp -implicitDefEqProofs (disch:=omega) only[go_sem]<;>(repeat(with_reducible refine And.intro ?_ ?_;focus first|omega|rfl|assumption|exact⟨_,rfl,rfl⟩|(simp;omega)|(simp;done)))
theorem nV(b:Bool)(x:au):fA b x=if x.bC=[] then
 if b=true/\(x.aA.length<2\/dL x.aA 0=jI/\x.aA.length<3) then mU
 else if dL x.aA 0=pG then .mk 4 [] (dL x.aA 1) 0 iL ((x.aA.map (fA b)).drop 2) []
 else if dL x.aA 0=tL then .mk 6 [] (dL x.aA 1) 0 iL ((x.aA.map (fA b)).drop 2) []
 else if dL x.aA 0=tO then .mk 8 [] (dL x.aA 1) 0 iL ((x.aA.map (fA b)).drop 2) []
 else if dL x.aA 0=pI then .mk 11 (dL x.aA 1) [] 0 iL ((x.aA.map (fA b)).drop 2) []
 else if dL x.aA 0=jI then .mk 5 (dL x.aA 1) (dL x.aA 2) 0 iL ((x.aA.map (fA b)).drop 3) []
 else if dL x.aA 0=yM then .mk 9 [] [] 0 iL ((x.aA.map (fA b)).drop 1) []
 else if dL x.aA 0=sI then .mk 12 [] [] 0 (eP b (x.aA.getD 1 dw)) ((x.aA.map (fA b)).drop 2) []
 else if dL x.aA 0=lN then .mk 7 [] [] 0 iL (((x.aA.map (fA b)).drop 1).take 1) ((x.aA.map (tY b)).drop 2)
 else .mk 10 [] (dL x.aA 0) 0 iL ((x.aA.map (fA b)).drop 1) []
 else match jh x.bC with
  |some n=>.mk 1 [] [] n iL [] []
  |none=>if x.bC=yg then .mk 2 [] [] 1 iL [] [] else if x.bC=wG then .mk 2 [] [] 0 iL [] [] else .mk 3 [] x.bC 0 iL [] []:=by
 cases x;rw[fA,yQ,BL];rfl
theorem agd(b:Bool)(x:au)(h:2<=x.aA.length):tY b x=.mk (dL x.aA 0) (gq ((x.aA.drop 1).dropLast)) (fA b (x.aA[x.aA.length-1]'(by omega))):=by
 obtain⟨a,l⟩:=x;simp only[au.aA] at h ⊢;rw[tY,if_neg (by omega),yQ];congr 1;rw[List.getLastD_eq_getLast?,List.getLast?_eq_getElem?,List.length_map,List.getElem?_eq_getElem (by rw[List.length_map];omega)]
 simp
theorem agf(b:Bool)(x:au)(h:x.aA.length<2):tY b x=.mk [] [] mU:=by
 obtain⟨a,l⟩:=x;rw[tY];exact if_pos h
def yj(b:Bool)(l:List au):Prop:=¬(b=true/\(l.length<2\/dL l 0=jI/\l.length<3))
theorem aai{b:Bool}{x:au}(ha:x.bC=[])(hg:yj b x.aA)(h:dL x.aA 0=pG):fA b x=.mk 4 [] (dL x.aA 1) 0 iL ((x.aA.drop 2).map (fA b)) []:=by
 rw[nV,if_pos ha,if_neg hg,if_pos h];simp only[List.map_drop,List.map_take]
theorem adH{b:Bool}{x:au}(ha:x.bC=[])(hg:yj b x.aA)(h:dL x.aA 0=tL):fA b x=.mk 6 [] (dL x.aA 1) 0 iL ((x.aA.drop 2).map (fA b)) []:=by
 rw[nV,if_pos ha,if_neg hg,if_neg (by rw[h];decide),if_pos h];simp only[List.map_drop,List.map_take]
theorem adI{b:Bool}{x:au}(ha:x.bC=[])(hg:yj b x.aA)(h:dL x.aA 0=tO):fA b x=.mk 8 [] (dL x.aA 1) 0 iL ((x.aA.drop 2).map (fA b)) []:=by
 rw[nV,if_pos ha,if_neg hg,if_neg (by rw[h];decide),if_neg (by rw[h];decide),if_pos h];simp only[List.map_drop,List.map_take]
theorem aaj{b:Bool}{x:au}(ha:x.bC=[])(hg:yj b x.aA)(h:dL x.aA 0=pI):fA b x=.mk 11 (dL x.aA 1) [] 0 iL ((x.aA.drop 2).map (fA b)) []:=by
 rw[nV,if_pos ha,if_neg hg,if_neg (by rw[h];decide),if_neg (by rw[h];decide),if_neg (by rw[h];decide),if_pos h];simp only[List.map_drop,List.map_take]
theorem TB{b:Bool}{x:au}(ha:x.bC=[])(hg:yj b x.aA)(h:dL x.aA 0=jI):fA b x=.mk 5 (dL x.aA 1) (dL x.aA 2) 0 iL ((x.aA.drop 3).map (fA b)) []:=by
 rw[nV,if_pos ha,if_neg hg,if_neg (by rw[h];decide),if_neg (by rw[h];decide),if_neg (by rw[h];decide),if_neg (by rw[h];decide),if_pos h];simp only[List.map_drop,List.map_take]
theorem agh{b:Bool}{x:au}(ha:x.bC=[])(hg:yj b x.aA)(h:dL x.aA 0=yM):fA b x=.mk 9 [] [] 0 iL ((x.aA.drop 1).map (fA b)) []:=by
 rw[nV,if_pos ha,if_neg hg,if_neg (by rw[h];decide),if_neg (by rw[h];decide),if_neg (by rw[h];decide),if_neg (by rw[h];decide),if_neg (by rw[h];decide),if_pos h];simp only[List.map_drop,List.map_take]
theorem adJ{b:Bool}{x:au}(ha:x.bC=[])(hg:yj b x.aA)(h:dL x.aA 0=sI):fA b x=.mk 12 [] [] 0 (eP b (x.aA.getD 1 dw)) ((x.aA.drop 2).map (fA b)) []:=by
 rw[nV,if_pos ha,if_neg hg,if_neg (by rw[h];decide),if_neg (by rw[h];decide),if_neg (by rw[h];decide),if_neg (by rw[h];decide),if_neg (by rw[h];decide),if_neg (by rw[h];decide),if_pos h];simp only[List.map_drop,List.map_take]
theorem aak{b:Bool}{x:au}(ha:x.bC=[])(hg:yj b x.aA)(h:dL x.aA 0=lN):fA b x=.mk 7 [] [] 0 iL (((x.aA.drop 1).take 1).map (fA b)) ((x.aA.drop 2).map (tY b)):=by
 rw[nV,if_pos ha,if_neg hg,if_neg (by rw[h];decide),if_neg (by rw[h];decide),if_neg (by rw[h];decide),if_neg (by rw[h];decide),if_neg (by rw[h];decide),if_neg (by rw[h];decide),if_neg (by rw[h];decide),if_pos h];simp only[List.map_drop,List.map_take]
theorem aal{b:Bool}{x:au}(ha:x.bC=[])(hg:yj b x.aA)(h0:dL x.aA 0≠pG)(h1:dL x.aA 0≠tL)(h2:dL x.aA 0≠tO)(h3:dL x.aA 0≠pI)(h4:dL x.aA 0≠jI)(h5:dL x.aA 0≠yM)(h6:dL x.aA 0≠sI)(h7:dL x.aA 0≠lN):fA b x=.mk 10 [] (dL x.aA 0) 0 iL ((x.aA.drop 1).map (fA b)) []:=by
 rw[nV,if_pos ha,if_neg hg,if_neg h0,if_neg h1,if_neg h2,if_neg h3,if_neg h4,if_neg h5,if_neg h6,if_neg h7];simp only[List.map_drop,List.map_take]
theorem adK{b:Bool}{x:au}{n:Int}(ha:x.bC≠[])(h:jh x.bC=some n):fA b x=.mk 1 [] [] n iL [] []:=by
 rw[nV,if_neg ha,h]
theorem aam{b:Bool}{x:au}(ha:x.bC≠[])(h:jh x.bC=none)(h1:x.bC=yg):fA b x=.mk 2 [] [] 1 iL [] []:=by
 rw[nV,if_neg ha,h];exact if_pos h1
theorem Xz{b:Bool}{x:au}(ha:x.bC≠[])(h:jh x.bC=none)(h1:x.bC≠yg)(h2:x.bC=wG):fA b x=.mk 2 [] [] 0 iL [] []:=by
 rw[nV,if_neg ha,h];exact(if_neg h1).trans (if_pos h2)
theorem adL{b:Bool}{x:au}(ha:x.bC≠[])(h:jh x.bC=none)(h1:x.bC≠yg)(h2:x.bC≠wG):fA b x=.mk 3 [] x.bC 0 iL [] []:=by
 rw[nV,if_neg ha,h];exact(if_neg h1).trans (if_neg h2)
def lE(l:List aC)(n:Nat):List (List D):=eu (l.map aC.enc) n
def BN(l:List aC):Nat:=gQ (l.map aC.enc)
def lM(l:List aZ)(n:Nat):List (List D):=eu (l.map aZ.enc) n
abbrev aC.vl(x:aC)(n:Nat):V:=.agg [.d (.i .i64 x.aR),.d (.s x.bU),.d (.s x.fName),.d (.i .i64 x.fN),.d (.i .i64 x.fType.aR),.d (.s x.fType.fName),.d (.ol n (lt x.fType.fArgs (n+1))),
 .d (.ol (n+(qj x.fType.fArgs+1)) (lE x.fArgs (n+(qj x.fType.fArgs+1)+1))),.d (.ol (n+(qj x.fType.fArgs+1)+(BN x.fArgs+1)) (lM x.bE (n+(qj x.fType.fArgs+1)+(BN x.fArgs+1)+1)))]
abbrev aZ.vl(x:aZ)(n:Nat):V:=.agg [.d (.s x.fK),.d (.ol n (x.aO.map encS)),.d (.i .i64 x.fBody.aR),.d (.s x.fBody.bU),.d (.s x.fBody.fName),.d (.i .i64 x.fBody.fN),.d (.i .i64 x.fBody.fType.aR),.d (.s x.fBody.fType.fName),.d (.ol (n+1) (lt x.fBody.fType.fArgs (n+1+1))),
 .d (.ol (n+1+(qj x.fBody.fType.fArgs+1)) (lE x.fBody.fArgs (n+1+(qj x.fBody.fType.fArgs+1)+1))),.d (.ol (n+1+(qj x.fBody.fType.fArgs+1)+(BN x.fBody.fArgs+1)) (lM x.fBody.bE (n+1+(qj x.fBody.fType.fArgs+1)+(BN x.fBody.fArgs+1)+1)))]
theorem aan{l:List aC}{i:Nat}(hi:i<l.length):(l.take i).map aC.enc++[l[i].enc]=(l.take (i+1)).map aC.enc:=by
 rw[List.take_succ_eq_append_getElem hi,List.map_append];rfl
theorem aao{l:List aZ}{i:Nat}(hi:i<l.length):(l.take i).map aZ.enc++[l[i].enc]=(l.take (i+1)).map aZ.enc:=by
 rw[List.take_succ_eq_append_getElem hi,List.map_append];rfl
theorem se0{x:aC}{k N:Int}{tr nm:List UInt8}(h:x=.mk k tr nm N iL [] []):Less (.agg [.d (.i .i64 k),.d (.s tr),.d (.s nm),.d (.i .i64 N),.d (.i .i64 0),.d (.s []),.bI [],.bI [],.bI []]) x.v:=by
 rw[h];exact(gy.cons (.refl _) (.cons (.refl _) (.cons (.refl _) (.cons (.refl _) (.cons (.refl _) (.cons (.refl _) (.cons (eG _) (.cons (eG _) (.cons (eG _) .nil))))))))).less
theorem Rs{x:aC}{k N:Int}{tr nm:List UInt8}{args:List aC}(h:x=.mk k tr nm N iL args []):Less (.agg [.d (.i .i64 k),.d (.s tr),.d (.s nm),.d (.i .i64 N),.d (.i .i64 0),.d (.s []),.bI [],.d (.sl (args.map aC.enc)),.bI []]) x.v:=by
 rw[h];exact(gy.cons (.refl _) (.cons (.refl _) (.cons (.refl _) (.cons (.refl _) (.cons (.refl _) (.cons (.refl _) (.cons (eG _) (.cons (.refl _) (.cons (eG _) .nil))))))))).less
theorem se2{x:aC}{k N:Int}{tr nm:List UInt8}{ty:ay}{args:List aC}(h:x=.mk k tr nm N ty args []):Less (.agg [.d (.i .i64 k),.d (.s tr),.d (.s nm),.d (.i .i64 N),.d (.i .i64 ty.aR),.d (.s ty.fName),.d (.sl (ty.fArgs.map ay.enc)),.d (.sl (args.map aC.enc)),.bI []]) x.v:=by
 rw[h];exact(gy.cons (.refl _) (.cons (.refl _) (.cons (.refl _) (.cons (.refl _) (.cons (.refl _) (.cons (.refl _) (.cons (.refl _) (.cons (.refl _) (.cons (eG _) .nil))))))))).less
theorem se3{x:aC}{k N:Int}{tr nm:List UInt8}{args:List aC}{arms:List aZ}(h:x=.mk k tr nm N iL args arms):Less (.agg [.d (.i .i64 k),.d (.s tr),.d (.s nm),.d (.i .i64 N),.d (.i .i64 0),.d (.s []),.bI [],.d (.sl (args.map aC.enc)),.d (.sl (arms.map aZ.enc))]) x.v:=by
 rw[h];exact(gy.cons (.refl _) (.cons (.refl _) (.cons (.refl _) (.cons (.refl _) (.cons (.refl _) (.cons (.refl _) (.cons (eG _) (.cons (.refl _) (.cons (.refl _) .nil))))))))).less
theorem TD(l:List au)(i:Nat):((l.map au.enc).take l.length).drop (min i l.length)=(l.drop i).map au.enc:=by
 rw[Gb _ _ _ (Nat.le_refl _)];by_cases h:i<=l.length
 ·rw[Nat.min_eq_left h]
 ·rw[Nat.min_eq_right (by omega),List.drop_length,List.drop_of_length_le (by omega)]
theorem agi(l:List au):((l.map au.enc).take (min 2 l.length)).drop 1=((l.drop 1).take 1).map au.enc:=by
 match l with
 |[]=>rfl
 |[x]=>rfl
 |x::y::l=>simp[show min 2 (l.length+1+1)=2 by omega]
theorem XA(l:List au)(i:Nat)(h:i<l.length+3):(l.map au.enc++([[.s [],.sl []],[.s [],.sl []],[.s [],.sl []]]:List (List D))).getD i []=[.s (dL l i),.sl ((l.getD i dw).aA.map au.enc)]:=by
 rw[List.getD_eq_getElem?_getD,List.getElem?_append];split
 ·rename_i hi;rw[List.length_map] at hi;rw[List.getElem?_map,List.getElem?_eq_getElem hi];simp only[Option.map_some,Option.getD_some];rw[au.aj,zR hi,List.getD_eq_getElem?_getD,List.getElem?_eq_getElem hi];rfl
 ·rename_i hi;rw[List.length_map] at hi;rw[Di (by omega),List.getD_eq_getElem?_getD,List.getElem?_eq_none (by omega:l.length<=i),List.length_map]
  have:i-l.length=0\/i-l.length=1\/i-l.length=2:=by omega
  rcases this with e|e|e<;>rw[e]<;>rfl
theorem aap(l:List au)(h:2<=l.length):((l.map au.enc).take ((l.length:Int)-1).toNat).drop 1=((l.drop 1).dropLast).map au.enc:=by
 rw[show((l.length:Int)-1).toNat=l.length-1 by omega,<-List.map_take,<-List.map_drop,List.dropLast_eq_take,List.length_drop,List.drop_take]
theorem tZ(x:au)(i:Nat){m:Nat}(h:x.sz<=m):(x.aA.getD i dw).sz<=m:=by
 have:=xO x.aA i;have:=gN x;omega
theorem Iu{α:Type}[SizeOf α]:∀(i:Nat)(l:List α),SizeOf.sizeOf (l.take i)<=SizeOf.sizeOf l
 |0,[]=>by simp
 |0,x::l=>by rw[List.take_zero];simp only[List.cons.sizeOf_spec,List.nil.sizeOf_spec];omega
 |i+1,[]=>by simp
 |i+1,x::l=>by
  have:=Iu i l;rw[List.take_succ_cons];simp only[List.cons.sizeOf_spec];omega
theorem XB(n:Int):bq prog 144 [.c (.d (.i .i64 n))] (.agg [.d (.i .i64 1),.d (.s []),.d (.s []),.d (.i .i64 n),.d (.i .i64 0),.d (.s []),.bI [],.bI [],.bI []]):=fun S=>by
 refine zcx [.cell 2 115] func144 ntmps144 ?_;simp -implicitDefEqProofs (disch:=omega) only[go_sem]
theorem TF(s:List UInt8):bq prog 143 [.c (.d (.s s))] (.agg [.d (.i .i64 3),.d (.s []),.d (.s s),.d (.i .i64 0),.d (.i .i64 0),.d (.s []),.bI [],.bI [],.bI []]):=fun S=>by
 refine zcx [.cell 2 115] func143 ntmps143 ?_;simp -implicitDefEqProofs (disch:=omega) only[go_sem]
theorem Gg:∀N:Nat,(∀x:au,SizeOf.sizeOf x<N->x.sz<=4194304->bq prog 252 [x.v] (fA false x).v)/\
 (∀xs:List au,SizeOf.sizeOf xs<N->xs.length<=4194304->(∀t∈xs,t.sz<=4194304)->bq prog 263 [.c (.d (.sl (xs.map au.enc)))] (.c (.d (.sl ((xs.map (fA false)).map aC.enc)))))/\
 (∀x:au,SizeOf.sizeOf x<N->x.sz<=4194304->bq prog 264 [x.v] (tY false x).v)
 |0=>⟨fun x h=>by omega,fun x h=>by omega,fun x h=>by omega⟩
 |N+1=>by
  obtain⟨ih,yL,ihM⟩:=Gg N;refine⟨fun x hn hsz=>bq.of_le fun S=> ?_,fun xs hn hlen hsz S=> ?_,fun x hn hsz=>bq.of_le fun S=> ?_⟩
  ·have oF:=au.CR x;have h1:=gN x;have h2:=Eo x
   have hall:∀t∈x.aA,t.sz<=4194304:=fun t ht=>by have:=kR ht;omega
   have hr:=je (l:=x.aA);have hso:=fun i=>Iq i x.aA
   have hdl:∀i,(x.aA.drop i).length<=4194304:=fun i=>by rw[List.length_drop];omega
   have hda:∀i,∀t∈x.aA.drop i,t.sz<=4194304:=fun i t ht=>hall t (List.mem_of_mem_drop ht)
   have hg:yj false x.aA:=fun e=>by cases e.1
   refine zcx [.cell 2 115] func252 ntmps252 ?_;simp -implicitDefEqProofs (disch:=omega) only[go_sem]
   with_reducible refine aD (fun hb=> ?_) (fun hb=> ?_)<;>have h:=hb<;>(try simp only[wf_preprocess] at h)<;>simp -implicitDefEqProofs (disch:=omega) only[go_sem,hb]<;>(repeat(with_reducible refine And.intro ?_ ?_;focus first|omega|rfl|assumption|exact⟨_,rfl,rfl⟩|(simp;omega)|(simp;done)))
   ·have hne:=h;refine aB (K9 x.bC (by omega)) ?_
    cases hri:jh x.bC with
    |some m=>
     simp -implicitDefEqProofs (disch:=omega) only[go_sem,Option.getD_some,Option.isSome_some];refine aB (XB m) ?_;simp -implicitDefEqProofs (disch:=omega) only[go_sem];exact se0 (adK hne hri)
    |none=>
     simp -implicitDefEqProofs (disch:=omega) only[go_sem,Option.getD_none,Option.isSome_none]
     with_reducible refine aD (fun hb=> ?_) (fun hb=> ?_)<;>have h:=hb<;>(try simp only[wf_preprocess] at h)<;>simp -implicitDefEqProofs (disch:=omega) only[go_sem,hb]<;>(repeat(with_reducible refine And.intro ?_ ?_;focus first|omega|rfl|assumption|exact⟨_,rfl,rfl⟩|(simp;omega)|(simp;done)))
     ·exact se0 (aam hne hri h)
     have k1:=h
     with_reducible refine aD (fun hb=> ?_) (fun hb=> ?_)<;>have h:=hb<;>(try simp only[wf_preprocess] at h)<;>simp -implicitDefEqProofs (disch:=omega) only[go_sem,hb]<;>(repeat(with_reducible refine And.intro ?_ ?_;focus first|omega|rfl|assumption|exact⟨_,rfl,rfl⟩|(simp;omega)|(simp;done)))
     ·exact se0 (Xz hne hri k1 h)
     have k2:=h;refine aB (TF _) ?_;simp -implicitDefEqProofs (disch:=omega) only[go_sem];exact se0 (adL hne hri k1 k2)
   have ha:=h;have l0:=XA x.aA 0 (by omega);have l1:=XA x.aA 1 (by omega);have l2:=XA x.aA 2 (by omega)
   have hm1:min (1:Int) (x.aA.length:Int)=((min 1 x.aA.length:Nat):Int):=by omega
   have hm2:min (2:Int) (x.aA.length:Int)=((min 2 x.aA.length:Nat):Int):=by omega
   have hm3:min (3:Int) (x.aA.length:Int)=((min 3 x.aA.length:Nat):Int):=by omega
   have hd:=fun i=>TD x.aA i;have hdd:=Gb x.aA x.aA.length 1 (Nat.le_refl _);simp -implicitDefEqProofs (disch:=omega) only[go_sem,l0,l1,l2]
   (repeat(with_reducible refine And.intro ?_ ?_;focus first|omega|rfl|assumption|exact⟨_,rfl,rfl⟩|(simp;omega)|(simp;done)))
   with_reducible refine aD (fun hb=> ?_) (fun hb=> ?_)<;>have h:=hb<;>(try simp only[wf_preprocess] at h)<;>simp -implicitDefEqProofs (disch:=omega) only[go_sem,hb,l0,l1,l2]<;>(repeat(with_reducible refine And.intro ?_ ?_;focus first|omega|rfl|assumption|exact⟨_,rfl,rfl⟩|(simp;omega)|(simp;done)))
   ·refine aB (rH _ _) ?_;rw[hm2];simp -implicitDefEqProofs (disch:=omega) only[go_sem];refine⟨⟨by omega,by omega,by omega,hr⟩,?_⟩;rw[hd];refine aB (yL (x.aA.drop 2) (by have:=hso 2;omega) (hdl 2) (hda 2)) ?_;simp -implicitDefEqProofs (disch:=omega) only[go_sem];exact Rs (aai ha hg h)
   have ajZ:=h
   with_reducible refine aD (fun hb=> ?_) (fun hb=> ?_)<;>have h:=hb<;>(try simp only[wf_preprocess] at h)<;>simp -implicitDefEqProofs (disch:=omega) only[go_sem,hb,l0,l1,l2]<;>(repeat(with_reducible refine And.intro ?_ ?_;focus first|omega|rfl|assumption|exact⟨_,rfl,rfl⟩|(simp;omega)|(simp;done)))
   ·refine aB (rH _ _) ?_;rw[hm3];simp -implicitDefEqProofs (disch:=omega) only[go_sem];refine⟨⟨by omega,by omega,by omega,hr⟩,?_⟩;rw[hd];refine aB (yL (x.aA.drop 3) (by have:=hso 3;omega) (hdl 3) (hda 3)) ?_;simp -implicitDefEqProofs (disch:=omega) only[go_sem];exact Rs (TB ha hg h)
   have agj:=h
   with_reducible refine aD (fun hb=> ?_) (fun hb=> ?_)<;>have h:=hb<;>(try simp only[wf_preprocess] at h)<;>simp -implicitDefEqProofs (disch:=omega) only[go_sem,hb,l0,l1,l2]<;>(repeat(with_reducible refine And.intro ?_ ?_;focus first|omega|rfl|assumption|exact⟨_,rfl,rfl⟩|(simp;omega)|(simp;done)))
   ·refine aB (rH _ _) ?_;rw[hm2];simp -implicitDefEqProofs (disch:=omega) only[go_sem];refine⟨⟨by omega,by omega,by omega,hr⟩,?_⟩;rw[hd];refine aB (yL (x.aA.drop 2) (by have:=hso 2;omega) (hdl 2) (hda 2)) ?_;simp -implicitDefEqProofs (disch:=omega) only[go_sem];exact Rs (adH ha hg h)
   have nNew:=h
   with_reducible refine aD (fun hb=> ?_) (fun hb=> ?_)<;>have h:=hb<;>(try simp only[wf_preprocess] at h)<;>simp -implicitDefEqProofs (disch:=omega) only[go_sem,hb,l0,l1,l2]<;>(repeat(with_reducible refine And.intro ?_ ?_;focus first|omega|rfl|assumption|exact⟨_,rfl,rfl⟩|(simp;omega)|(simp;done)))
   ·refine aB (rH _ _) ?_;rw[hm2];simp -implicitDefEqProofs (disch:=omega) only[go_sem];refine⟨⟨by omega,by omega,by omega,hr⟩,?_⟩;rw[hd];refine aB (yL (x.aA.drop 2) (by have:=hso 2;omega) (hdl 2) (hda 2)) ?_;simp -implicitDefEqProofs (disch:=omega) only[go_sem];exact Rs (adI ha hg h)
   have alM:=h
   with_reducible refine aD (fun hb=> ?_) (fun hb=> ?_)<;>have h:=hb<;>(try simp only[wf_preprocess] at h)<;>simp -implicitDefEqProofs (disch:=omega) only[go_sem,hb,l0,l1,l2]<;>(repeat(with_reducible refine And.intro ?_ ?_;focus first|omega|rfl|assumption|exact⟨_,rfl,rfl⟩|(simp;omega)|(simp;done)))
   ·have hpos:0<x.aA.length:=by
     rcases Nat.eq_zero_or_pos x.aA.length with e|e
     ·rw[Di (by omega)] at h;cases h
     ·exact e
    refine⟨⟨by omega,by omega,hr⟩,?_⟩;rw[hdd];refine aB (yL (x.aA.drop 1) (by have:=hso 1;omega) (hdl 1) (hda 1)) ?_;simp -implicitDefEqProofs (disch:=omega) only[go_sem];exact Rs (agh ha hg h)
   have nIf:=h
   with_reducible refine aD (fun hb=> ?_) (fun hb=> ?_)<;>have h:=hb<;>(try simp only[wf_preprocess] at h)<;>simp -implicitDefEqProofs (disch:=omega) only[go_sem,hb,l0,l1,l2]<;>(repeat(with_reducible refine And.intro ?_ ?_;focus first|omega|rfl|assumption|exact⟨_,rfl,rfl⟩|(simp;omega)|(simp;done)))
   ·refine aB (rH _ _) ?_;rw[hm2];simp -implicitDefEqProofs (disch:=omega) only[go_sem];refine⟨⟨by omega,by omega,by omega,hr⟩,?_⟩;rw[hd];refine aB (yL (x.aA.drop 2) (by have:=hso 2;omega) (hdl 2) (hda 2)) ?_;simp -implicitDefEqProofs (disch:=omega) only[go_sem];exact Rs (aaj ha hg h)
   have aj0:=h
   with_reducible refine aD (fun hb=> ?_) (fun hb=> ?_)<;>have h:=hb<;>(try simp only[wf_preprocess] at h)<;>simp -implicitDefEqProofs (disch:=omega) only[go_sem,hb,l0,l1,l2]<;>(repeat(with_reducible refine And.intro ?_ ?_;focus first|omega|rfl|assumption|exact⟨_,rfl,rfl⟩|(simp;omega)|(simp;done)))
   ·refine aB (mR (x.aA.getD 1 dw) (tZ x 1 hsz)) ?_;simp -implicitDefEqProofs (disch:=omega) only[go_sem];refine aB (rH _ _) ?_;rw[hm2];simp -implicitDefEqProofs (disch:=omega) only[go_sem];refine⟨⟨by omega,by omega,by omega,hr⟩,?_⟩;rw[hd];refine aB (yL (x.aA.drop 2) (by have:=hso 2;omega) (hdl 2) (hda 2)) ?_;simp -implicitDefEqProofs (disch:=omega) only[go_sem];exact se2 (adJ ha hg h)
   have nThe:=h
   with_reducible refine aD (fun hb=> ?_) (fun hb=> ?_)<;>have h:=hb<;>(try simp only[wf_preprocess] at h)<;>simp -implicitDefEqProofs (disch:=omega) only[go_sem,hb,l0,l1,l2]<;>(repeat(with_reducible refine And.intro ?_ ?_;focus first|omega|rfl|assumption|exact⟨_,rfl,rfl⟩|(simp;omega)|(simp;done)))
   ·have hpos:0<x.aA.length:=by
     rcases Nat.eq_zero_or_pos x.aA.length with e|e
     ·rw[Di (by omega)] at h;cases h
     ·exact e
    have hdec:=aak ha hg h;refine aB (rH _ _) ?_;rw[hm2];simp -implicitDefEqProofs (disch:=omega) only[go_sem];refine⟨⟨by omega,by omega,hr⟩,?_⟩;rw[agi];refine aB (yL ((x.aA.drop 1).take 1) (by have:=hso 1;have:=Iu 1 (x.aA.drop 1);omega) (by rw[List.length_take];omega) (fun t ht=>hda 1 t (List.mem_of_mem_take ht))) ?_;simp -implicitDefEqProofs (disch:=omega) only[go_sem];obtain⟨Bo,alN⟩:∃Bo,Bo=((x.aA.drop 1).take 1).map (fA false):=⟨_,rfl⟩;obtain⟨T,hT⟩:∃T:Nat->List (List D),T=fun k=>(((x.aA.drop 2).map (tY false)).take k).map aZ.enc:=⟨_,rfl⟩
    have hT0:T 0=[]:=by rw[hT];rfl
    have iE:∀k,(T k).length<=k:=fun k=>by rw[hT];simp only[List.length_map];exact List.length_take_le _ _
    have hTs:∀k (hk:k+2<x.aA.length),T k++[(tY false x.aA[k+2]).enc]=T (k+1):=fun k hk=>by
     have:=aao (l:=(x.aA.drop 2).map (tY false)) (i:=k) (by rw[List.length_map,List.length_drop];omega);rw[List.getElem_map,List.getElem_drop] at this;rw[hT];simp only[Nat.add_comm 2 k] at this ⊢;exact this
    have hTe:T (x.aA.length-2)=((x.aA.drop 2).map (tY false)).map aZ.enc:=by
     rw[hT];simp only
     rw[List.take_of_length_le (by simp)]
    clear hT;rw[<-alN] at hdec ⊢;refine jr 3 8 11 _ rfl rfl ?_
    refine bT (ι:=Nat) zmx rfl [1,2,6,8,9] (fun k=>[.c (.ptr (0,0) 0),.c (.ptr (0,1) 0),.c (.d (.i .i64 x.aA.length)),.c (.ptr (0,3) 0),.c (.d (.i .i64 ((k+2:Nat):Int)))])
     (fun k=>[.box [.d (.s x.bC),.d (.sl (x.aA.map au.enc))],.box [.d (.i .i64 0),.d (.s []),.d (.s []),.d (.i .i64 0),.d (.i .i64 0),.d (.s []),.bI [],.bI [],.bI []],.tok 2 (x.aA.map au.enc++[[.s [],.sl []],[.s [],.sl []],[.s [],.sl []]]),
       .box [.d (.i .i64 7),.d (.s []),.d (.s []),.d (.i .i64 0),.d (.i .i64 0),.d (.s []),.bI [],.d (.sl (Bo.map aC.enc)),.bX (0,4) (T k)],.tok 11 (T k)]::S)
     (fun k=>k<=x.aA.length-2) (fun k=>x.aA.length-(k+2)) 0 rfl (by rw[hT0];rfl) (Nat.zero_le _) ?_
    intro k hk;have hlk:=iE k;clear l0 l1 l2;simp -implicitDefEqProofs (disch:=omega) only[go_sem]
    with_reducible refine aD (fun hb=> ?_) (fun hb=> ?_)<;>have h:=hb<;>(try simp only[wf_preprocess] at h)<;>simp -implicitDefEqProofs (disch:=omega) only[go_sem,hb]<;>(repeat(with_reducible refine And.intro ?_ ?_;focus first|omega|rfl|assumption|exact⟨_,rfl,rfl⟩|(simp;omega)|(simp;done)))
    ·have hk':k+2<x.aA.length:=by omega
     have hm:=List.getElem_mem hk';have hs:=hTs k hk';simp only[aZ.aj,aC.aj,ay.aj,List.cons_append,List.nil_append] at hs
     (repeat(with_reducible refine And.intro ?_ ?_;focus first|omega|rfl|assumption|exact⟨_,rfl,rfl⟩|(simp;omega)|(simp;done)))
     refine aB (ihM x.aA[k+2] (by have:=List.sizeOf_lt_of_mem hm;omega) (hall _ hm)) ?_;simp -implicitDefEqProofs (disch:=omega) only[go_sem]
     (repeat(with_reducible refine And.intro ?_ ?_;focus first|omega|rfl|assumption|exact⟨_,rfl,rfl⟩|(simp;omega)|(simp;done)))
     rw[hs];exact dG (k+1) (by omega) rfl rfl (by omega)
    ·have hk':k=x.aA.length-2:=by omega
     subst hk';rw[hTe];exact se3 hdec
   have aj1:=h;refine aB (rH _ _) ?_;rw[hm1];simp -implicitDefEqProofs (disch:=omega) only[go_sem];refine⟨⟨by omega,by omega,by omega,hr⟩,?_⟩;rw[hd];refine aB (yL (x.aA.drop 1) (by have:=hso 1;omega) (hdl 1) (hda 1)) ?_;simp -implicitDefEqProofs (disch:=omega) only[go_sem];exact Rs (aal ha hg ajZ nNew alM aj0 agj nIf nThe aj1)
  ·have XC:=fun(i:Nat) (hi:i<xs.length)=>aan (l:=xs.map (fA false)) (i:=i) (by rw[List.length_map];exact hi);refine zcx [.tmp 2] func263 ntmps263 ?_;simp -implicitDefEqProofs (disch:=omega) only[go_sem]
   (repeat(with_reducible refine And.intro ?_ ?_;focus first|omega|rfl|assumption|exact⟨_,rfl,rfl⟩|(simp;omega)|(simp;done)))
   refine lq 3 9 [] rfl (by simp) ?_
   refine bT (ι:=Nat) zmx rfl [0,3,4] (fun i=>[.c (.d (.sl (xs.map au.enc))),.c (.bX (0,0) (((xs.map (fA false)).take i).map aC.enc)),.c (.d (.i .i64 i))]) (fun i=>[.tok 9 (((xs.map (fA false)).take i).map aC.enc)]::S)
    (fun i=>i<=xs.length) (fun i=>xs.length-i) 0 rfl rfl (Nat.zero_le _) ?_
   intro i hi
   have hl:(((xs.map (fA false)).take i).map aC.enc).length<=i:=by rw[List.length_map];exact List.length_take_le _ _
   simp -implicitDefEqProofs (disch:=omega) only[go_sem]
   with_reducible refine aD (fun hb=> ?_) (fun hb=> ?_)<;>have h:=hb<;>(try simp only[wf_preprocess] at h)<;>simp -implicitDefEqProofs (disch:=omega) only[go_sem,hb]<;>(repeat(with_reducible refine And.intro ?_ ?_;focus first|omega|rfl|assumption|exact⟨_,rfl,rfl⟩|(simp;omega)|(simp;done)))
   ·have hi':i<xs.length:=by omega
    have hs:=XC i hi';rw[List.getElem_map] at hs;simp only[aC.aj,ay.aj,List.cons_append,List.nil_append] at hs
    (repeat(with_reducible refine And.intro ?_ ?_;focus first|omega|rfl|assumption|exact⟨_,rfl,rfl⟩|(simp;omega)|(simp;done)))
    refine aB (ih xs[i] (by have:=List.sizeOf_lt_of_mem (List.getElem_mem hi');omega) (hsz _ (List.getElem_mem hi'))) ?_;simp -implicitDefEqProofs (disch:=omega) only[go_sem]
    (repeat(with_reducible refine And.intro ?_ ?_;focus first|omega|rfl|assumption|exact⟨_,rfl,rfl⟩|(simp;omega)|(simp;done)))
    rw[hs];exact dG (i+1) (by omega) rfl rfl (by omega)
   ·have hi':i=(xs.map (fA false)).length:=by rw[List.length_map];omega
    rw[hi',List.take_length]
  ·have oF:=au.CR x;have h1:=gN x
   have hall:∀t∈x.aA,t.sz<=4194304:=fun t ht=>by have:=kR ht;omega
   have hr:=je (l:=x.aA);refine zcx [.cell 2 167] func264 ntmps264 ?_;simp -implicitDefEqProofs (disch:=omega) only[go_sem]
   with_reducible refine aD (fun hb=> ?_) (fun hb=> ?_)<;>have h:=hb<;>(try simp only[wf_preprocess] at h)<;>simp -implicitDefEqProofs (disch:=omega) only[go_sem,hb]<;>(repeat(with_reducible refine And.intro ?_ ?_;focus first|omega|rfl|assumption|exact⟨_,rfl,rfl⟩|(simp;omega)|(simp;done)))
   ·rw[agf false x (by omega)];exact(gy.cons (.refl _) (.cons (eG _) (.cons (.refl _) (.cons (.refl _) (.cons (.refl _) (.cons (.refl _) (.cons (.refl _) (.cons (.refl _) (.cons (eG _) (.cons (eG _) (.cons (eG _) .nil))))))))))).less
   have hl2:2<=x.aA.length:=by omega
   have a0:=zR (l:=x.aA) (i:=0) (by omega);have hm:=List.getElem_mem (l:=x.aA) (n:=x.aA.length-1) (by omega);rw[agd false x hl2,a0];refine⟨⟨by omega,by omega,hr⟩,?_⟩;rw[aap _ hl2];refine aB (AX ((x.aA.drop 1).dropLast) (by rw[List.length_dropLast,List.length_drop];omega)) ?_;simp -implicitDefEqProofs (disch:=omega) only[go_sem]
   (repeat(with_reducible refine And.intro ?_ ?_;focus first|omega|rfl|assumption|exact⟨_,rfl,rfl⟩|(simp;omega)|(simp;done)))
   have el:((x.aA.length:Int)-1).toNat=x.aA.length-1:=by omega
   simp only[el];refine aB (ih (x.aA[x.aA.length-1]) (by have:=List.sizeOf_lt_of_mem hm;omega) (hall _ hm)) ?_;simp -implicitDefEqProofs (disch:=omega) only[go_sem];exact jv _
theorem Cr(x:au)(hsz:x.sz<=4194304):bq prog 252 [x.v] (fA false x).v:=(Gg _).1 x (Nat.lt_succ_self _) hsz
end Go.Ab