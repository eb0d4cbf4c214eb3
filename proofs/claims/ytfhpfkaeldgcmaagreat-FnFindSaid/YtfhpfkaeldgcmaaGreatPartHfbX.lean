/-
  SEVERAL TEXTS IN ONE (merged by program): contracts and models, each with its own heading.
-/
import Derived.Test.YtfhpfkaeldgcmaaGreatPartHfbO
import Derived.Test.YtfhpfkaeldgcmaaGreatPartHfbW
import Derived.Lib.Atoi
set_option maxHeartbeats 8000000
open Go.Proofs Go.Proofs.Tryz
set_option linter.unusedSimpArgs false
set_option linter.unusedVariables false
set_option maxRecDepth 4000
namespace Go.Ab
theorem I9(d:Nat)(h:d<10):Lib.digitVal (UInt8.ofNat (48+d))=some d:=by
 have:(UInt8.ofNat (48+d)).toNat=48+d:=by rw[UInt8.toNat_ofNat'];omega
 unfold Lib.digitVal;rw[this,if_pos (by omega)];congr 1;omega
theorem Bv:∀(l:List UInt8)(acc:Nat)(b:UInt8),Lib.decFrom acc (l++[b])=(Lib.decFrom acc l).bind fun m=>(Lib.digitVal b).map fun d=>m*10+d
 |[],acc,b=>by
  rw[List.nil_append,Lib.decFrom,Lib.decFrom];cases Lib.digitVal b<;>rfl
 |a::l,acc,b=>by
  rw[List.cons_append,Lib.decFrom,Lib.decFrom]
  cases Lib.digitVal a with
  |none=>rfl
  |some e=>exact Bv l _ b
theorem yC(n:Nat):Lib.decFrom 0 (Lib.decDigits n)=some n:=by
 induction n using Nat.strongRecOn with
 |_ n ih=>
  rw[Lib.decDigits];split
  ·rename_i h;rw[Lib.decFrom,I9 n h];simp[Lib.decFrom]
  ·rename_i h;rw[Bv,ih (n/10) (by omega),I9 _ (Nat.mod_lt _ (by decide))];simp only[Option.bind_some,Option.map_some,Option.some.injEq];omega
theorem yD(n:Nat):∃b r,Lib.decDigits n=b::r/\48<=b.toNat/\b.toNat<=57:=by
 induction n using Nat.strongRecOn with
 |_ n ih=>
  rw[Lib.decDigits];split
  ·rename_i h;exact⟨_,_,rfl,by rw[UInt8.toNat_ofNat'];omega,by rw[UInt8.toNat_ofNat'];omega⟩
  ·rename_i h;obtain⟨b,r,e,h1,h2⟩:=ih (n/10) (by omega);rw[e];exact⟨b,r++_,rfl,h1,h2⟩
theorem Fw(n:Nat):Lib.decNat (Lib.decDigits n)=some n:=by
 obtain⟨b,r,e,_⟩:=yD n;unfold Lib.decNat;rw[show(Lib.decDigits n).isEmpty=false from by rw[e];rfl];exact yC n
theorem GI(b:UInt8)(r:List UInt8):Lib.atoi (b::r)=if b==45 then(Lib.decNat r).map fun(m:Nat)=> -(m:Int) else if b==43 then(Lib.decNat r).map fun(m:Nat)=>(m:Int) else(Lib.decNat (b::r)).map fun(m:Nat)=>(m:Int):=rfl
theorem OA(n:Int):Lib.atoi (Lib.itoa n)=some n:=by
 unfold Lib.itoa;split
 ·rename_i h;show Lib.atoi (45::Lib.decDigits n.natAbs)=_;rw[GI,if_pos (by decide),Fw];simp only[Option.map_some,Option.some.injEq];omega
 ·rename_i h;obtain⟨b,r,e,h1,h2⟩:=yD n.toNat;have hd:=Fw n.toNat;rw[e] at hd ⊢;rw[GI,if_neg (by simp only[beq_iff_eq];intro h;rw[h] at h1;revert h1;decide),if_neg (by simp only[beq_iff_eq];intro h;rw[h] at h1;revert h1;decide),hd];simp only[Option.map_some,Option.some.injEq];omega
theorem ag1(n:Int):Lib.itoa n≠[]:=fun e=>by
 have:=OA n;rw[e] at this;cases this
def jq(s:List UInt8):Option Int:=match Lib.atoi s with
 |some n=>if(-999999999999<=n/\n<=999999999999)/\Lib.itoa n=s then some n else none
 |none=>none
theorem LG{n:Int}(h: -999999999999<=n/\n<=999999999999):jq (Lib.itoa n)=some n:=by
 unfold jq;rw[OA];exact if_pos ⟨h,rfl⟩
theorem LH{s:List UInt8}{n:Int}(h:jq s=some n):(-999999999999<=n/\n<=999999999999)/\Lib.itoa n=s:=by
 unfold jq at h;split at h
 ·split at h
  ·cases h;assumption
  ·cases h
 ·cases h
theorem Bw{b:UInt8}{r:List UInt8}(h:lowerB b):jq (b::r)=none:=by
 have h1:(b==45)=false:=by simp only[beq_eq_false_iff_ne];intro e;rw[e] at h;revert h;simp[lowerB]
 have h2:(b==43)=false:=by simp only[beq_eq_false_iff_ne];intro e;rw[e] at h;revert h;simp[lowerB]
 have h3:Lib.digitVal b=none:=if_neg (fun x=>by unfold lowerB at h;omega);unfold jq;rw[GI,h1,h2];simp[Lib.decNat,Lib.decFrom,h3]
theorem Yo{s:List UInt8}(h:validName s=true):jq s=none:=by
 have h1:=gP h;have h2:=h1.2.2 0 (by omega)
 cases s with
 |nil=>simp at h1
 |cons b r=>
  rcases h2 with h2|h2
  ·exact Bw h2
  ·exact(h2.1 rfl).elim
def iN:ay:=.mk 0 [] []
def ni:aC:=.mk 0 [] [] 0 iN [] []
mutual
def fA(b:Bool):au->aC
 | .mk a l=>if a=[] then
    if b=true/\(l.length<2\/dM l 0=jO/\l.length<3) then ni
    else if dM l 0=pU then .mk 4 [] (dM l 1) 0 iN ((fI b l).drop 2) []
    else if dM l 0=uD then .mk 6 [] (dM l 1) 0 iN ((fI b l).drop 2) []
    else if dM l 0=uE then .mk 8 [] (dM l 1) 0 iN ((fI b l).drop 2) []
    else if dM l 0=pV then .mk 11 (dM l 1) [] 0 iN ((fI b l).drop 2) []
    else if dM l 0=jO then .mk 5 (dM l 1) (dM l 2) 0 iN ((fI b l).drop 3) []
    else if dM l 0=ze then .mk 9 [] [] 0 iN ((fI b l).drop 1) []
    else if dM l 0=tC then .mk 12 [] [] 0 (eT b (l.getD 1 dz)) ((fI b l).drop 2) []
    else if dM l 0=lX then .mk 7 [] [] 0 iN (((fI b l).drop 1).take 1) ((lN b l).drop 2)
    else .mk 10 [] (dM l 0) 0 iN ((fI b l).drop 1) []
   else match jq a with
    |some n=>.mk 1 [] [] n iN [] []
    |none=>if a=yN then .mk 2 [] [] 1 iN [] [] else if a=wY then .mk 2 [] [] 0 iN [] [] else .mk 3 [] a 0 iN [] []
def fI(b:Bool):List au->List aC
 |[]=>[]
 |x::xs=>fA b x::fI b xs
def uJ(b:Bool):au->bn
 | .mk a l=>if l.length<2 then .mk [] [] ni else .mk (dM l 0) (gy ((l.drop 1).dropLast)) ((fI b l).getLastD ni)
def lN(b:Bool):List au->List bn
 |[]=>[]
 |x::xs=>uJ b x::lN b xs
end
theorem zk(b:Bool):∀l,fI b l=l.map (fA b)
 |[]=>rfl
 |t::ts=>by rw[fI,List.map_cons,zk b ts]
theorem Cj(b:Bool):∀l,lN b l=l.map (uJ b)
 |[]=>rfl
 |t::ts=>by rw[lN,List.map_cons,Cj b ts]
theorem kK(b:Bool)(l m:List au):fI b (l++m)=fI b l++fI b m:=by simp only[zk,List.map_append]
theorem oJ(b:Bool)(l m:List au):lN b (l++m)=lN b l++lN b m:=by simp only[Cj,List.map_append]
theorem oW{t:ay}(h:BX t):t=iN:=ay.ext h.1 h.2.1 (List.eq_nil_of_length_eq_zero h.2.2)
theorem Ut{s:List UInt8}(h:s∈ops):s≠[]/\∀w∈[pU,uD,uE,pV,jO,ze,tC,lX],s≠w:=by
 have:=ain h;refine⟨fun e=>by rw[e] at this;simp at this,fun w hw e=> ?_⟩;rw[e] at this;simp only[List.mem_cons,List.not_mem_nil,or_false] at hw;rcases hw with g|g|g|g|g|g|g|g<;>rw[g] at this<;>revert this<;>decide
mutual
theorem DT(b:Bool):∀e:aC,jd e=true->fA b (fQ e)=e
 | .mk k tr nm n ty zs ms=>fun hok=>by
   rw[jd,Bool.and_eq_true,Bool.and_eq_true] at hok;have hf:=gP hok.1;have h1:=Sd b zs hok.2.1;have h2:=Sg b ms hok.2.2;obtain⟨p0,p1,p2,p3,p4,p5,p6⟩:=hf;simp only[aC.aV,aC.bU,aC.fName,aC.fN,aC.fType,aC.fArgs,aC.bH] at p0 p1 p2 p3 p4 p5 p6;have nz:∀{l:List aC},l.length=0->l=[]:=fun h=>List.eq_nil_of_length_eq_zero h
   have GJ:k≠7->ms=[]:=fun h=>List.eq_nil_of_length_eq_zero (by
    have:¬0<ms.length:=fun x=>h (p6.2 x)
    omega)
   have hk:k=1\/k=2\/k=3\/k=4\/k=5\/k=6\/k=7\/k=8\/k=9\/k=10\/k=11\/k=12:=by omega
   rcases hk with rfl|rfl|rfl|rfl|rfl|rfl|rfl|rfl|rfl|rfl|rfl|rfl
   all_goals simp only[if_true,if_false,true_or,or_true,false_or,or_false,or_self,(by decide:(1:Int)=5<->False),Int.reduceEq] at p1 p2 p3 p4 p5
   ·have e1:=oW p4;have e2:=nz p5;have e3:=GJ (by decide);subst e1 e2 e3 p1 p2;rw[fQ,if_pos rfl,bR,fA,if_neg (ag1 n),LG (by omega)]
   ·have e1:=oW p4;have e2:=nz p5;have e3:=GJ (by decide);subst e1 e2 e3 p1 p2;rw[fQ,if_neg (by decide),if_pos rfl,bR,fA];rcases p3 with rfl|rfl
    ·rw[if_neg (by decide:¬(0:Int)=1),if_neg (by decide),show jq wY=none from Bw (by simp[lowerB]),if_neg (by decide),if_pos rfl]
    ·rw[if_pos rfl,if_neg (by decide),show jq yN=none from Bw (by simp[lowerB]),if_pos rfl]
   ·have e1:=oW p4;have e2:=nz p5;have e3:=GJ (by decide);subst e1 e2 e3 p1 p3;have hr:=(gP p2).2.1;rw[fQ,if_neg (by decide),if_neg (by decide),if_pos rfl,bR,fA,if_neg (DR p2),Yo p2,if_neg (fun e=>hr (by rw[e];simp[reserved,yN])),if_neg (fun e=>hr (by rw[e];simp[reserved,wY]))]
   all_goals have hz:(zC zs).length=zs.length:=by rw[Bp,List.length_map]
   ·have e1:=oW p4;have e3:=GJ (by decide);subst e1 e3 p1 p3;simp[fQ,kC,eD,dn,fA,fI,kK,lN,oJ,dM,bR,au.bK,pU,jO,uD,lX,uE,ze,pV,tC,h1,hz,h2]
    all_goals (intros;omega)
   ·have e1:=oW p4;have e3:=GJ (by decide);subst e1 e3 p3;simp[fQ,kC,eD,dn,fA,fI,kK,lN,oJ,dM,bR,au.bK,pU,jO,uD,lX,uE,ze,pV,tC,h1,hz,h2]
    all_goals (intros;omega)
   ·have e1:=oW p4;have e3:=GJ (by decide);subst e1 e3 p1 p3;simp[fQ,kC,eD,dn,fA,fI,kK,lN,oJ,dM,bR,au.bK,pU,jO,uD,lX,uE,ze,pV,tC,h1,hz,h2]
    all_goals (intros;omega)
   ·have e1:=oW p4;subst e1 p1 p2 p3;have hm:0<ms.length:=p6.1 rfl
    obtain⟨z,rfl⟩:∃z,zs=[z]:=by
     cases zs with
     |nil=>simp at p5
     |cons z t=>cases t with
      |nil=>exact⟨z,rfl⟩
      |cons _ _=>simp at p5
    simp only[zC,fI,List.cons.injEq,and_true] at h1;simp[fQ,kC,eD,dn,fA,fI,kK,lN,oJ,zC,dM,bR,au.bK,pU,jO,uD,lX,uE,ze,pV,tC,h1,h2]
    all_goals (intros;omega)
   ·have e1:=oW p4;have e3:=GJ (by decide);subst e1 e3 p1 p3;simp[fQ,kC,eD,dn,fA,fI,kK,lN,oJ,dM,bR,au.bK,pU,jO,uD,lX,uE,ze,pV,tC,h1,hz,h2]
    all_goals (intros;omega)
   ·have e1:=oW p4;have e3:=GJ (by decide);subst e1 e3 p1 p2 p3;simp[fQ,kC,eD,dn,fA,fI,kK,lN,oJ,dM,bR,au.bK,pU,jO,uD,lX,uE,ze,pV,tC,h1,hz,h2]
    all_goals (intros;omega)
   ·have e1:=oW p4;have e3:=GJ (by decide);subst e1 e3 p1 p3;have ho:=Ut p2;simp only[List.mem_cons,List.not_mem_nil,or_false,ne_eq,forall_eq_or_imp,forall_eq] at ho;obtain⟨_,o1,o2,o3,o4,o5,o6,o7,o8⟩:=ho;simp[fQ,kC,eD,dn,fA,fI,kK,dM,bR,au.bK,h1,hz,o1,o2,o3,o4,o5,o6,o7,o8]
    all_goals (intros;omega)
   ·have e1:=oW p4;have e3:=GJ (by decide);subst e1 e3 p2 p3;simp[fQ,kC,eD,dn,fA,fI,kK,lN,oJ,dM,bR,au.bK,pU,jO,uD,lX,uE,ze,pV,tC,h1,hz,h2]
    all_goals (intros;omega)
   ·have e3:=GJ (by decide);subst e3 p1 p2 p3;have ht:=uS b ty (wT p4);simp[fQ,kC,eD,dn,fA,fI,kK,dM,bR,au.bK,pU,jO,uD,lX,uE,ze,pV,tC,h1,hz,ht]
    all_goals (intros;omega)
theorem Sd(b:Bool):∀es:List aC,lS es=true->fI b (zC es)=es
 |[],_=>rfl
 |t::ts,h=>by
  rw[lS,Bool.and_eq_true] at h;rw[zC,fI,DT b t h.1,Sd b ts h.2]
theorem ag2(b:Bool):∀m:bn,yM m=true->uJ b (DF m)=m
 | .mk c vs e=>fun h=>by
   rw[yM,Bool.and_eq_true,Bool.and_eq_true] at h;have he:=DT b e h.2.2;rw[DF,eD,uJ,if_neg (by simp),kK];have e1:dM ([bR c]++dn vs++[fQ e]) 0=c:=rfl
   have e2:(([bR c]++dn vs++[fQ e]).drop 1).dropLast=dn vs:=by
    rw[List.append_assoc,List.singleton_append,List.drop_succ_cons,List.drop_zero,List.dropLast_concat]
   rw[e1,e2,mZ (yA h.2.1)];congr 1;rw[fI,he,List.getLastD_eq_getLast?,List.getLast?_append];simp[fI]
theorem Sg(b:Bool):∀ms:List bn,ow ms=true->lN b (Ez ms)=ms
 |[],_=>rfl
 |t::ts,h=>by
  rw[ow,Bool.and_eq_true] at h;rw[Ez,lN,ag2 b t h.1,Sg b ts h.2]
end
theorem zl:iN.sz=0:=by rw[uq];rfl
theorem wD:ni.sz=0:=by rw[yj];simp[ni,aC.bU,aC.fName,aC.fType,aC.fArgs,aC.bH,zl,sG,zK]
theorem Yp(l:List au):((gy ((l.drop 1).dropLast)).length+((gy ((l.drop 1).dropLast)).map List.length).sum)<=(l.drop 1).dropLast.length+dK ((l.drop 1).dropLast):=by
 have:=nW ((l.drop 1).dropLast);omega
theorem ag3(x:au)(m:List au)(y:au):dK (x::(m++[y]))=x.sz+(dK m+y.sz):=by rw[dK,jY];simp[dK]
mutual
theorem Ap(b:Bool):∀x:au,(fA b x).sz<=x.sz
 | .mk a l=>by
   have g:=OB b l
   have hl:(fI b l).length=l.length:=by rw[zk,List.length_map]
   have hm:(lN b l).length=l.length:=by rw[Cj,List.length_map]
   rw[iX,kg];simp only[au.bK,au.aA];rw[fA];split
   ·have g1:sG ((fI b l).drop 1)+(dM l 0).length<=dK l:=by
     have:=g 0;simp only[Nat.zero_add,(by decide:¬(1<=0)),if_false] at this;omega
    have g2:sG ((fI b l).drop 2)+((dM l 0).length+(dM l 1).length)<=dK l:=by
     have:=g 1;simp only[Nat.reduceAdd,Nat.le_refl,if_true,Nat.sub_self] at this;omega
    have g3:sG ((fI b l).drop 3)+((dM l 1).length+(dM l 2).length)<=dK l:=by
     have:=g 2;simp only[Nat.reduceAdd,(by decide:1<=2),if_true,Nat.reduceSub] at this;omega
    split
    ·rw[wD];omega
    ·repeat' split
     all_goals rw[yj];simp only[aC.bU,aC.fName,aC.fType,aC.fArgs,aC.bH,zl,sG,zK,List.length_nil,List.length_drop,List.length_take,hl,hm,List.drop_zero] at g1 g2 g3 ⊢
     all_goals try omega
     ·have h1:=wC b (l.getD 1 dz)
      have h2:sG ((fI b l).drop 2)+(l.getD 1 dz).sz<=dK l:=by
       match l with
       |[]=>simp[fI,sG,dK,EL]
       |[x]=>simp[fI,sG,dK,EL]
       |x::y::l=>
        have:=JV b l;simp only[fI,List.drop_succ_cons,List.drop_zero,dK];show _+y.sz<=_;omega
      omega
     ·match l with
      |[]=>simp[sG,zK,fI,lN]
      |[x]=>simp[sG,zK,fI,lN]
      |x::y::l=>
       have h1:=Ap b y;have h2:=Si b l;simp only[fI,lN,List.drop_succ_cons,List.drop_zero,List.take_succ_cons,List.take_zero,sG,dK,List.length_cons];omega
   ·split
    ·rw[yj];simp[aC.bU,aC.fName,aC.fType,aC.fArgs,aC.bH,zl,sG,zK]
    ·repeat' split
     all_goals rw[yj];simp[aC.bU,aC.fName,aC.fType,aC.fArgs,aC.bH,zl,sG,zK]
theorem JV(b:Bool):∀l:List au,sG (fI b l)<=dK l
 |[]=>by simp[fI,sG]
 |x::xs=>by
  have h1:=Ap b x;have h2:=JV b xs;rw[fI,sG,dK];omega
theorem OB(b:Bool):∀(l:List au)(i:Nat),sG ((fI b l).drop (i+1))+((if 1<=i then(dM l (i-1)).length else 0)+(dM l i).length)<=dK l
 |[],i=>by simp[fI,sG,DN]
 |x::xs,0=>by
  have h2:=JV b xs;rw[fI,List.drop_succ_cons,List.drop_zero,dK,show dM (x::xs) 0=x.bK from rfl,iX];simp;omega
 |x::xs,i+1=>by
  have h2:=OB b xs i;rw[fI,List.drop_succ_cons,dK,show dM (x::xs) (i+1)=dM xs i from rfl]
  cases i with
  |zero=>rw[show dM (x::xs) (0+1-1)=x.bK from rfl,iX];simp at h2 ⊢;omega
  |succ i=>rw[show dM (x::xs) (i+1+1-1)=dM xs i from rfl];simp at h2 ⊢;omega
theorem ag4(b:Bool):∀x:au,(uJ b x).sz<=x.sz
 | .mk a l=>by
   rw[iX,kg];simp only[au.bK,au.aA];rw[uJ];split
   ·rw[Ca];simp[bn.fK,bn.aS,bn.fBody,wD]
   ·rename_i h;have hn:=Yp l;have hb:=LJ b l;rw[Ca];simp only[bn.fK,bn.aS,bn.fBody]
    obtain⟨x,m,y,rfl⟩:∃x m y,l=x::(m++[y]):=by
     cases l with
     |nil=>simp at h
     |cons x l=>
      have hl:l≠[]:=fun e=>by rw[e] at h;simp at h
      exact⟨x,l.dropLast,l.getLast hl,by rw[List.dropLast_concat_getLast]⟩
    rw[ag3] at *
    rw[show dM (x::(m++[y])) 0=x.bK from rfl,iX x];simp only[List.drop_succ_cons,List.drop_zero,List.dropLast_concat,List.length_cons,List.length_append,List.length_nil] at hn ⊢
    have hy:((x::(m++[y])).getLastD dz)=y:=by rw[<-List.cons_append,List.getLastD_eq_getLast?,List.getLast?_append];simp
    rw[hy] at hb;omega
theorem Si(b:Bool):∀l:List au,zK (lN b l)<=dK l
 |[]=>by simp[lN,zK]
 |x::xs=>by
  have h1:=ag4 b x;have h2:=Si b xs;rw[lN,zK,dK];omega
theorem LJ(b:Bool):∀l:List au,((fI b l).getLastD ni).sz<=(l.getLastD dz).sz
 |[]=>by simp[fI,wD]
 |[x]=>by simpa [fI] using Ap b x
 |x::y::l=>by
  have:=LJ b (y::l);simpa [fI] using this
end
def xE(s:List UInt8):Prop:=s.head? =some 45
instance (s:List UInt8):Decidable (xE s):=inferInstanceAs (Decidable (_=_))
def fB(s:List UInt8):List UInt8:=if xE s then s.tail else s
theorem zm:∀(l:List UInt8)(acc v:Nat),Lib.decFrom acc l=some v->∀b∈l,48<=b.toNat/\b.toNat<=57
 |[],_,_,_,b,hb=>by cases hb
 |a::l,acc,v,h,b,hb=>by
  rw[Lib.decFrom] at h
  cases hd:Lib.digitVal a with
  |none=>rw[hd] at h;cases h
  |some d=>
   rw[hd] at h;rcases List.mem_cons.1 hb with rfl|hb
   ·unfold Lib.digitVal at hd;split at hd
    ·assumption
    ·cases hd
   ·exact zm l _ v h b hb
theorem Uu{b:UInt8}(h:48<=b.toNat/\b.toNat<=57):Lib.digitVal b=some (b.toNat-48):=if_pos h
theorem decFrom_take{t:List UInt8}{i acc:Nat}(hi:i<t.length)(h:Lib.decFrom 0 (t.take i)=some acc)(hd:48<=t[i].toNat/\t[i].toNat<=57):Lib.decFrom 0 (t.take (i+1))=some (acc*10+(t[i].toNat-48)):=by
 rw[List.take_succ_eq_append_getElem hi,Bv,h,Uu hd];rfl
theorem GK{s:List UInt8}{m:Int}(h:jq s=some m):(xE s<->m<0)/\fB s=Lib.decDigits m.natAbs/\1<=(fB s).length/\(fB s).length<=12:=by
 obtain⟨hr,he⟩:=LH h;have hl:(Lib.decDigits m.natAbs).length<=12:=DI 11 _ (by omega);obtain⟨b,r,e,b1,b2⟩:=yD m.natAbs
 have hl1:1<=(Lib.decDigits m.natAbs).length:=by rw[e];simp
 unfold Lib.itoa at he;by_cases hn:m<0
 ·rw[if_pos hn] at he
  have hs:xE s:=by rw[<-he];rfl
  have hb:fB s=Lib.decDigits m.natAbs:=by unfold fB;rw[if_pos hs,<-he];rfl
  exact⟨⟨fun _=>hn,fun _=>hs⟩,hb,by rw[hb];exact⟨hl1,hl⟩⟩
 ·rw[if_neg hn,show m.toNat=m.natAbs by omega] at he
  have hs:¬xE s:=fun x=>by
   rw[<-he,e] at x;unfold xE at x;simp only[List.head?_cons,Option.some.injEq] at x;rw[x] at b1;revert b1;decide
  have hb:fB s=Lib.decDigits m.natAbs:=by unfold fB;rw[if_neg hs,<-he]
  exact⟨⟨fun x=>(hs x).elim,fun x=>(hn x).elim⟩,hb,by rw[hb];exact⟨hl1,hl⟩⟩
theorem vB{s:List UInt8}(h:(fB s).length<1\/12<(fB s).length):jq s=none:=by
 cases hr:jq s with
 |none=>rfl
 |some m=>have:=(GK hr).2.2;omega
theorem Ck{s:List UInt8}{i:Nat}(hi:i<(fB s).length)(h:¬(48<=(fB s)[i].toNat/\(fB s)[i].toNat<=57)):jq s=none:=by
 cases hr:jq s with
 |none=>rfl
 |some m=>
  have hk:=(GK hr).2.1;have hd:=yC m.natAbs;rw[<-hk] at hd;exact absurd (zm _ _ _ hd _ (List.getElem_mem hi)) h
theorem OC{s:List UInt8}{v:Nat}(hv:Lib.decFrom 0 (fB s)=some v)(hb:v<=999999999999):jq s=if Lib.itoa (if xE s then -(v:Int) else v)=s then some (if xE s then -(v:Int) else v) else none:=by
 obtain⟨z,hz⟩:∃z,z=(if xE s then -(v:Int) else v):=⟨_,rfl⟩
 have hzb: -999999999999<=z/\z<=999999999999:=by rw[hz];split<;>omega
 rw[<-hz];by_cases h:Lib.itoa z=s
 ·rw[if_pos h]
  conv=>lhs;rw[<-h]
  exact LG hzb
 ·rw[if_neg h]
  cases hr:jq s with
  |none=>rfl
  |some m=>
   have hk:=GK hr;have hd:=yC m.natAbs;rw[<-hk.2.1,hv] at hd
   have hm:v=m.natAbs:=by simpa using hd
   have:z=m:=by
    rw[hz];by_cases hn:xE s
    ·have:=hk.1.1 hn;rw[if_pos hn];omega
    ·rw[if_neg hn];have:¬m<0:=fun x=>hn (hk.1.2 x);omega
   rw[this] at h;exact absurd (LH hr).2 h
theorem Uv(s:List UInt8)(hs:s.length<=1073741824):bg prog 274 [.c (.d (.s s)),.c (.d (.i .i64 12))] (.eu [(false,[.d (.i .i64 ((jq s).getD 0))]),(false,[.d (.b (jq s).isSome)])]):=fun S=>by
 have d0:jq s=none->V.eu [(false,[.d (.i .i64 0)]),(false,[.d (.b false)])]=.eu [(false,[.d (.i .i64 ((jq s).getD 0))]),(false,[.d (.b (jq s).isSome)])]:=fun e=>by rw[e];rfl
 refine zcx [.tmp 4,.tmp 5] func274 ntmps274 ?_;simp -implicitDefEqProofs (disch:=omega) only[go_sem]
 with_reducible refine aD (fun hb=> ?_) (fun hb=> ?_)<;>have h:=hb<;>(try simp only[wf_preprocess] at h)<;>simp -implicitDefEqProofs (disch:=omega) only[go_sem,hb]<;>(repeat(with_reducible refine And.intro ?_ ?_;focus first|omega|rfl|assumption|exact⟨_,rfl,rfl⟩|(simp;omega)|(simp;done)))
 ·have hpos:0<s.length:=by omega
  have h0:(s.getD 0 0).toNat=45<->xE s:=by
   cases s with
   |nil=>simp at hpos
   |cons b s=>
    unfold xE;simp only[List.getD_cons_zero,List.head?_cons,Option.some.injEq];constructor
    ·intro e;exact UInt8.toNat.inj e
    ·intro e;rw[e];rfl
  (repeat(with_reducible refine And.intro ?_ ?_;focus first|omega|rfl|assumption|exact⟨_,rfl,rfl⟩|(simp;omega)|(simp;done)))
  with_reducible refine aD (fun hb=> ?_) (fun hb=> ?_)<;>have h:=hb<;>(try simp only[wf_preprocess] at h)<;>simp -implicitDefEqProofs (disch:=omega) only[go_sem,hb]<;>(repeat(with_reducible refine And.intro ?_ ?_;focus first|omega|rfl|assumption|exact⟨_,rfl,rfl⟩|(simp;omega)|(simp;done)))
  ·have hn:xE s:=h0.1 (by omega)
   have hb:fB s=(s.take s.length).drop 1:=by unfold fB;rw[if_pos hn,List.take_length,List.drop_one]
   (repeat(with_reducible refine And.intro ?_ ?_;focus first|omega|rfl|assumption|exact⟨_,rfl,rfl⟩|(simp;omega)|(simp;done)))
   rw[<-hb]
   have hbl:(fB s).length<=s.length:=by rw[hb];simp
   with_reducible refine aD (fun hb=> ?_) (fun hb=> ?_)<;>have h:=hb<;>(try simp only[wf_preprocess] at h)<;>simp -implicitDefEqProofs (disch:=omega) only[go_sem,hb]<;>(repeat(with_reducible refine And.intro ?_ ?_;focus first|omega|rfl|assumption|exact⟨_,rfl,rfl⟩|(simp;omega)|(simp;done)))
   ·exact d0 (vB (by omega))
   with_reducible refine aD (fun hb=> ?_) (fun hb=> ?_)<;>have h:=hb<;>(try simp only[wf_preprocess] at h)<;>simp -implicitDefEqProofs (disch:=omega) only[go_sem,hb]<;>(repeat(with_reducible refine And.intro ?_ ?_;focus first|omega|rfl|assumption|exact⟨_,rfl,rfl⟩|(simp;omega)|(simp;done)))
   ·exact d0 (vB (by omega))
   have hl1:1<=(fB s).length:=by omega
   have hl12:(fB s).length<=12:=by omega
   refine bO (ι:=Nat×Nat) zmx rfl [0,6,7,8,9] (fun y=>[.c (.d (.s s)),.c (.d (.b true)),.c (.d (.s (fB s))),.c (.d (.i .i64 y.2)),.c (.d (.i .i64 y.1))]) (fun _=>[]::S)
    (fun y=>y.1<=(fB s).length/\Lib.decFrom 0 ((fB s).take y.1)=some y.2/\y.2<10^y.1) (fun y=>(fB s).length-y.1) (0,0) rfl rfl ⟨Nat.zero_le _,rfl,by decide⟩ ?_
   rintro⟨i,acc⟩ ⟨p1,p2,p3⟩;simp only at p1 p2 p3;have p4:10^i<=10^12:=Nat.pow_le_pow_right (by decide) (by omega);simp -implicitDefEqProofs (disch:=omega) only[go_sem]
   with_reducible refine aD (fun hb=> ?_) (fun hb=> ?_)<;>have h:=hb<;>(try simp only[wf_preprocess] at h)<;>simp -implicitDefEqProofs (disch:=omega) only[go_sem,hb]<;>(repeat(with_reducible refine And.intro ?_ ?_;focus first|omega|rfl|assumption|exact⟨_,rfl,rfl⟩|(simp;omega)|(simp;done)))
   ·have hi:i<(fB s).length:=by omega
    have e:(fB s).getD i 0=(fB s)[i]:=by simp[List.getD,hi]
    have hbb:=(fB s)[i].toNat_lt
    (repeat(with_reducible refine And.intro ?_ ?_;focus first|omega|rfl|assumption|exact⟨_,rfl,rfl⟩|(simp;omega)|(simp;done)))
    simp only[e]
    with_reducible refine aD (fun hb=> ?_) (fun hb=> ?_)<;>have h:=hb<;>(try simp only[wf_preprocess] at h)<;>simp -implicitDefEqProofs (disch:=omega) only[go_sem,hb]<;>(repeat(with_reducible refine And.intro ?_ ?_;focus first|omega|rfl|assumption|exact⟨_,rfl,rfl⟩|(simp;omega)|(simp;done)))
    ·exact d0 (Ck hi (by omega))
    (repeat(with_reducible refine And.intro ?_ ?_;focus first|omega|rfl|assumption|exact⟨_,rfl,rfl⟩|(simp;omega)|(simp;done)))
    simp only[e]
    with_reducible refine aD (fun hb=> ?_) (fun hb=> ?_)<;>have h:=hb<;>(try simp only[wf_preprocess] at h)<;>simp -implicitDefEqProofs (disch:=omega) only[go_sem,hb]<;>(repeat(with_reducible refine And.intro ?_ ?_;focus first|omega|rfl|assumption|exact⟨_,rfl,rfl⟩|(simp;omega)|(simp;done)))
    ·exact d0 (Ck hi (by omega))
    have hdg:48<=(fB s)[i].toNat/\(fB s)[i].toNat<=57:=by omega
    have ht:=decFrom_take hi p2 hdg
    have e2:(10:Int)*acc+(((fB s)[i].toNat:Int)-48)=((acc*10+((fB s)[i].toNat-48):Nat):Int):=by omega
    (repeat(with_reducible refine And.intro ?_ ?_;focus first|omega|rfl|assumption|exact⟨_,rfl,rfl⟩|(simp;omega)|(simp;done)))
    simp -implicitDefEqProofs (disch:=omega) only[go_sem,wrap_u8,e];rw[e2];exact cZ (i+1,acc*10+((fB s)[i].toNat-48)) (by simp only;omega) rfl rfl ⟨by simp only;omega,ht,by simp only[Nat.pow_succ];omega⟩
   ·have hi:i=(fB s).length:=by omega
    have hv:Lib.decFrom 0 (fB s)=some acc:=by rw[hi,List.take_length] at p2;exact p2
    have Fb:=OC hv (by omega);rw[if_pos hn] at Fb;rw[show(0:Int)-acc= -(acc:Int) by omega];refine aB (vM (-(acc:Int)) (by omega) (by omega)) ?_;simp -implicitDefEqProofs (disch:=omega) only[go_sem]
    with_reducible refine aD (fun hb=> ?_) (fun hb=> ?_)<;>have h:=hb<;>(try simp only[wf_preprocess] at h)<;>simp -implicitDefEqProofs (disch:=omega) only[go_sem,hb]<;>(repeat(with_reducible refine And.intro ?_ ?_;focus first|omega|rfl|assumption|exact⟨_,rfl,rfl⟩|(simp;omega)|(simp;done)))
    ·exact d0 (Fb.trans (if_neg h))
    ·rw[Fb.trans (if_pos h)];rfl
  ·have hn:¬xE s:=fun x=>h (by rw[h0.2 x];rfl)
   have hbs:fB s=s:=by unfold fB;rw[if_neg hn]
   have hbl:(fB s).length=s.length:=by rw[hbs]
   with_reducible refine aD (fun hb=> ?_) (fun hb=> ?_)<;>have h:=hb<;>(try simp only[wf_preprocess] at h)<;>simp -implicitDefEqProofs (disch:=omega) only[go_sem,hb]<;>(repeat(with_reducible refine And.intro ?_ ?_;focus first|omega|rfl|assumption|exact⟨_,rfl,rfl⟩|(simp;omega)|(simp;done)))
   ·exact d0 (vB (by omega))
   with_reducible refine aD (fun hb=> ?_) (fun hb=> ?_)<;>have h:=hb<;>(try simp only[wf_preprocess] at h)<;>simp -implicitDefEqProofs (disch:=omega) only[go_sem,hb]<;>(repeat(with_reducible refine And.intro ?_ ?_;focus first|omega|rfl|assumption|exact⟨_,rfl,rfl⟩|(simp;omega)|(simp;done)))
   ·exact d0 (vB (by omega))
   have hl1:1<=(fB s).length:=by omega
   have hl12:(fB s).length<=12:=by omega
   refine bO (ι:=Nat×Nat) zmx rfl [0,6,7,8,9] (fun y=>[.c (.d (.s s)),.c (.d (.b false)),.c (.d (.s (fB s))),.c (.d (.i .i64 y.2)),.c (.d (.i .i64 y.1))]) (fun _=>[]::S)
    (fun y=>y.1<=(fB s).length/\Lib.decFrom 0 ((fB s).take y.1)=some y.2/\y.2<10^y.1) (fun y=>(fB s).length-y.1) (0,0) (by rw[hbs];rfl) rfl ⟨Nat.zero_le _,rfl,by decide⟩ ?_
   rintro⟨i,acc⟩ ⟨p1,p2,p3⟩;simp only at p1 p2 p3;have p4:10^i<=10^12:=Nat.pow_le_pow_right (by decide) (by omega);simp -implicitDefEqProofs (disch:=omega) only[go_sem]
   with_reducible refine aD (fun hb=> ?_) (fun hb=> ?_)<;>have h:=hb<;>(try simp only[wf_preprocess] at h)<;>simp -implicitDefEqProofs (disch:=omega) only[go_sem,hb]<;>(repeat(with_reducible refine And.intro ?_ ?_;focus first|omega|rfl|assumption|exact⟨_,rfl,rfl⟩|(simp;omega)|(simp;done)))
   ·have hi:i<(fB s).length:=by omega
    have e:(fB s).getD i 0=(fB s)[i]:=by simp[List.getD,hi]
    have hbb:=(fB s)[i].toNat_lt
    (repeat(with_reducible refine And.intro ?_ ?_;focus first|omega|rfl|assumption|exact⟨_,rfl,rfl⟩|(simp;omega)|(simp;done)))
    simp only[e]
    with_reducible refine aD (fun hb=> ?_) (fun hb=> ?_)<;>have h:=hb<;>(try simp only[wf_preprocess] at h)<;>simp -implicitDefEqProofs (disch:=omega) only[go_sem,hb]<;>(repeat(with_reducible refine And.intro ?_ ?_;focus first|omega|rfl|assumption|exact⟨_,rfl,rfl⟩|(simp;omega)|(simp;done)))
    ·exact d0 (Ck hi (by omega))
    (repeat(with_reducible refine And.intro ?_ ?_;focus first|omega|rfl|assumption|exact⟨_,rfl,rfl⟩|(simp;omega)|(simp;done)))
    simp only[e]
    with_reducible refine aD (fun hb=> ?_) (fun hb=> ?_)<;>have h:=hb<;>(try simp only[wf_preprocess] at h)<;>simp -implicitDefEqProofs (disch:=omega) only[go_sem,hb]<;>(repeat(with_reducible refine And.intro ?_ ?_;focus first|omega|rfl|assumption|exact⟨_,rfl,rfl⟩|(simp;omega)|(simp;done)))
    ·exact d0 (Ck hi (by omega))
    have hdg:48<=(fB s)[i].toNat/\(fB s)[i].toNat<=57:=by omega
    have ht:=decFrom_take hi p2 hdg
    have e2:(10:Int)*acc+(((fB s)[i].toNat:Int)-48)=((acc*10+((fB s)[i].toNat-48):Nat):Int):=by omega
    (repeat(with_reducible refine And.intro ?_ ?_;focus first|omega|rfl|assumption|exact⟨_,rfl,rfl⟩|(simp;omega)|(simp;done)))
    simp -implicitDefEqProofs (disch:=omega) only[go_sem,wrap_u8,e];rw[e2];exact cZ (i+1,acc*10+((fB s)[i].toNat-48)) (by simp only;omega) rfl rfl ⟨by simp only;omega,ht,by simp only[Nat.pow_succ];omega⟩
   ·have hi:i=(fB s).length:=by omega
    have hv:Lib.decFrom 0 (fB s)=some acc:=by rw[hi,List.take_length] at p2;exact p2
    have Fb:=OC hv (by omega);rw[if_neg hn] at Fb;refine aB (vM ((acc:Int)) (by omega) (by omega)) ?_;simp -implicitDefEqProofs (disch:=omega) only[go_sem]
    with_reducible refine aD (fun hb=> ?_) (fun hb=> ?_)<;>have h:=hb<;>(try simp only[wf_preprocess] at h)<;>simp -implicitDefEqProofs (disch:=omega) only[go_sem,hb]<;>(repeat(with_reducible refine And.intro ?_ ?_;focus first|omega|rfl|assumption|exact⟨_,rfl,rfl⟩|(simp;omega)|(simp;done)))
    ·exact d0 (Fb.trans (if_neg h))
    ·rw[Fb.trans (if_pos h)];rfl
 ·have hs0:s=[]:=List.eq_nil_of_length_eq_zero (by omega)
  have hb0:(fB s).length=0:=by rw[hs0];rfl
  with_reducible refine aD (fun hb=> ?_) (fun hb=> ?_)<;>have h:=hb<;>(try simp only[wf_preprocess] at h)<;>simp -implicitDefEqProofs (disch:=omega) only[go_sem,hb]<;>(repeat(with_reducible refine And.intro ?_ ?_;focus first|omega|rfl|assumption|exact⟨_,rfl,rfl⟩|(simp;omega)|(simp;done)))
  ·exact d0 (vB (by omega))
  ·omega
theorem LK(s:List UInt8)(hs:s.length<=1073741824):bg prog 262 [.c (.d (.s s))] (.eu [(false,[.d (.i .i64 ((jq s).getD 0))]),(false,[.d (.b (jq s).isSome)])]):=fun S=>by
 refine zcx [.tmp 2,.tmp 3] func262 ntmps262 ?_;simp -implicitDefEqProofs (disch:=omega) only[go_sem];refine aB (Uv s hs) ?_;simp -implicitDefEqProofs (disch:=omega) only[go_sem]<;>(repeat(with_reducible refine And.intro ?_ ?_;focus first|omega|rfl|assumption|exact⟨_,rfl,rfl⟩|(simp;omega)|(simp;done)))
theorem og(b:Bool)(x:au):fA b x=if x.bK=[] then
 if b=true/\(x.aA.length<2\/dM x.aA 0=jO/\x.aA.length<3) then ni
 else if dM x.aA 0=pU then .mk 4 [] (dM x.aA 1) 0 iN ((x.aA.map (fA b)).drop 2) []
 else if dM x.aA 0=uD then .mk 6 [] (dM x.aA 1) 0 iN ((x.aA.map (fA b)).drop 2) []
 else if dM x.aA 0=uE then .mk 8 [] (dM x.aA 1) 0 iN ((x.aA.map (fA b)).drop 2) []
 else if dM x.aA 0=pV then .mk 11 (dM x.aA 1) [] 0 iN ((x.aA.map (fA b)).drop 2) []
 else if dM x.aA 0=jO then .mk 5 (dM x.aA 1) (dM x.aA 2) 0 iN ((x.aA.map (fA b)).drop 3) []
 else if dM x.aA 0=ze then .mk 9 [] [] 0 iN ((x.aA.map (fA b)).drop 1) []
 else if dM x.aA 0=tC then .mk 12 [] [] 0 (eT b (x.aA.getD 1 dz)) ((x.aA.map (fA b)).drop 2) []
 else if dM x.aA 0=lX then .mk 7 [] [] 0 iN (((x.aA.map (fA b)).drop 1).take 1) ((x.aA.map (uJ b)).drop 2)
 else .mk 10 [] (dM x.aA 0) 0 iN ((x.aA.map (fA b)).drop 1) []
 else match jq x.bK with
  |some n=>.mk 1 [] [] n iN [] []
  |none=>if x.bK=yN then .mk 2 [] [] 1 iN [] [] else if x.bK=wY then .mk 2 [] [] 0 iN [] [] else .mk 3 [] x.bK 0 iN [] []:=by
 cases x;rw[fA,zk,Cj];rfl
theorem ag5(b:Bool)(x:au)(h:2<=x.aA.length):uJ b x=.mk (dM x.aA 0) (gy ((x.aA.drop 1).dropLast)) (fA b (x.aA[x.aA.length-1]'(by omega))):=by
 obtain⟨a,l⟩:=x;simp only[au.aA] at h ⊢;rw[uJ,if_neg (by omega),zk];congr 1;rw[List.getLastD_eq_getLast?,List.getLast?_eq_getElem?,List.length_map,List.getElem?_eq_getElem (by rw[List.length_map];omega)]
 simp
theorem ag6(b:Bool)(x:au)(h:x.aA.length<2):uJ b x=.mk [] [] ni:=by
 obtain⟨a,l⟩:=x;rw[uJ];exact if_pos h
def yP(b:Bool)(l:List au):Prop:=¬(b=true/\(l.length<2\/dM l 0=jO/\l.length<3))
theorem aaX{b:Bool}{x:au}(ha:x.bK=[])(hg:yP b x.aA)(h:dM x.aA 0=pU):fA b x=.mk 4 [] (dM x.aA 1) 0 iN ((x.aA.drop 2).map (fA b)) []:=by
 rw[og,if_pos ha,if_neg hg,if_pos h];simp only[List.map_drop,List.map_take]
theorem aer{b:Bool}{x:au}(ha:x.bK=[])(hg:yP b x.aA)(h:dM x.aA 0=uD):fA b x=.mk 6 [] (dM x.aA 1) 0 iN ((x.aA.drop 2).map (fA b)) []:=by
 rw[og,if_pos ha,if_neg hg,if_neg (by rw[h];decide),if_pos h];simp only[List.map_drop,List.map_take]
theorem aes{b:Bool}{x:au}(ha:x.bK=[])(hg:yP b x.aA)(h:dM x.aA 0=uE):fA b x=.mk 8 [] (dM x.aA 1) 0 iN ((x.aA.drop 2).map (fA b)) []:=by
 rw[og,if_pos ha,if_neg hg,if_neg (by rw[h];decide),if_neg (by rw[h];decide),if_pos h];simp only[List.map_drop,List.map_take]
theorem aaY{b:Bool}{x:au}(ha:x.bK=[])(hg:yP b x.aA)(h:dM x.aA 0=pV):fA b x=.mk 11 (dM x.aA 1) [] 0 iN ((x.aA.drop 2).map (fA b)) []:=by
 rw[og,if_pos ha,if_neg hg,if_neg (by rw[h];decide),if_neg (by rw[h];decide),if_neg (by rw[h];decide),if_pos h];simp only[List.map_drop,List.map_take]
theorem Uw{b:Bool}{x:au}(ha:x.bK=[])(hg:yP b x.aA)(h:dM x.aA 0=jO):fA b x=.mk 5 (dM x.aA 1) (dM x.aA 2) 0 iN ((x.aA.drop 3).map (fA b)) []:=by
 rw[og,if_pos ha,if_neg hg,if_neg (by rw[h];decide),if_neg (by rw[h];decide),if_neg (by rw[h];decide),if_neg (by rw[h];decide),if_pos h];simp only[List.map_drop,List.map_take]
theorem ag7{b:Bool}{x:au}(ha:x.bK=[])(hg:yP b x.aA)(h:dM x.aA 0=ze):fA b x=.mk 9 [] [] 0 iN ((x.aA.drop 1).map (fA b)) []:=by
 rw[og,if_pos ha,if_neg hg,if_neg (by rw[h];decide),if_neg (by rw[h];decide),if_neg (by rw[h];decide),if_neg (by rw[h];decide),if_neg (by rw[h];decide),if_pos h];simp only[List.map_drop,List.map_take]
theorem aeu{b:Bool}{x:au}(ha:x.bK=[])(hg:yP b x.aA)(h:dM x.aA 0=tC):fA b x=.mk 12 [] [] 0 (eT b (x.aA.getD 1 dz)) ((x.aA.drop 2).map (fA b)) []:=by
 rw[og,if_pos ha,if_neg hg,if_neg (by rw[h];decide),if_neg (by rw[h];decide),if_neg (by rw[h];decide),if_neg (by rw[h];decide),if_neg (by rw[h];decide),if_neg (by rw[h];decide),if_pos h];simp only[List.map_drop,List.map_take]
theorem aaZ{b:Bool}{x:au}(ha:x.bK=[])(hg:yP b x.aA)(h:dM x.aA 0=lX):fA b x=.mk 7 [] [] 0 iN (((x.aA.drop 1).take 1).map (fA b)) ((x.aA.drop 2).map (uJ b)):=by
 rw[og,if_pos ha,if_neg hg,if_neg (by rw[h];decide),if_neg (by rw[h];decide),if_neg (by rw[h];decide),if_neg (by rw[h];decide),if_neg (by rw[h];decide),if_neg (by rw[h];decide),if_neg (by rw[h];decide),if_pos h];simp only[List.map_drop,List.map_take]
theorem aa0{b:Bool}{x:au}(ha:x.bK=[])(hg:yP b x.aA)(h0:dM x.aA 0≠pU)(h1:dM x.aA 0≠uD)(h2:dM x.aA 0≠uE)(h3:dM x.aA 0≠pV)(h4:dM x.aA 0≠jO)(h5:dM x.aA 0≠ze)(h6:dM x.aA 0≠tC)(h7:dM x.aA 0≠lX):fA b x=.mk 10 [] (dM x.aA 0) 0 iN ((x.aA.drop 1).map (fA b)) []:=by
 rw[og,if_pos ha,if_neg hg,if_neg h0,if_neg h1,if_neg h2,if_neg h3,if_neg h4,if_neg h5,if_neg h6,if_neg h7];simp only[List.map_drop,List.map_take]
theorem aev{b:Bool}{x:au}{n:Int}(ha:x.bK≠[])(h:jq x.bK=some n):fA b x=.mk 1 [] [] n iN [] []:=by
 rw[og,if_neg ha,h]
theorem aa1{b:Bool}{x:au}(ha:x.bK≠[])(h:jq x.bK=none)(h1:x.bK=yN):fA b x=.mk 2 [] [] 1 iN [] []:=by
 rw[og,if_neg ha,h];exact if_pos h1
theorem Yq{b:Bool}{x:au}(ha:x.bK≠[])(h:jq x.bK=none)(h1:x.bK≠yN)(h2:x.bK=wY):fA b x=.mk 2 [] [] 0 iN [] []:=by
 rw[og,if_neg ha,h];exact(if_neg h1).trans (if_pos h2)
theorem aew{b:Bool}{x:au}(ha:x.bK≠[])(h:jq x.bK=none)(h1:x.bK≠yN)(h2:x.bK≠wY):fA b x=.mk 3 [] x.bK 0 iN [] []:=by
 rw[og,if_neg ha,h];exact(if_neg h1).trans (if_neg h2)
def lE(l:List aC)(n:Nat):List (List D):=eU (l.map aC.enc) n
def Cm(l:List aC):Nat:=gQ (l.map aC.enc)
def lM(l:List bn)(n:Nat):List (List D):=eU (l.map bn.enc) n
abbrev aC.vl(x:aC)(n:Nat):V:=.agg [.d (.i .i64 x.aV),.d (.s x.bU),.d (.s x.fName),.d (.i .i64 x.fN),.d (.i .i64 x.fType.aV),.d (.s x.fType.fName),.d (.ol n (lt x.fType.fArgs (n+1))),
 .d (.ol (n+(qB x.fType.fArgs+1)) (lE x.fArgs (n+(qB x.fType.fArgs+1)+1))),.d (.ol (n+(qB x.fType.fArgs+1)+(Cm x.fArgs+1)) (lM x.bH (n+(qB x.fType.fArgs+1)+(Cm x.fArgs+1)+1)))]
abbrev bn.vl(x:bn)(n:Nat):V:=.agg [.d (.s x.fK),.d (.ol n (x.aS.map encS)),.d (.i .i64 x.fBody.aV),.d (.s x.fBody.bU),.d (.s x.fBody.fName),.d (.i .i64 x.fBody.fN),.d (.i .i64 x.fBody.fType.aV),.d (.s x.fBody.fType.fName),.d (.ol (n+1) (lt x.fBody.fType.fArgs (n+1+1))),
 .d (.ol (n+1+(qB x.fBody.fType.fArgs+1)) (lE x.fBody.fArgs (n+1+(qB x.fBody.fType.fArgs+1)+1))),.d (.ol (n+1+(qB x.fBody.fType.fArgs+1)+(Cm x.fBody.fArgs+1)) (lM x.fBody.bH (n+1+(qB x.fBody.fType.fArgs+1)+(Cm x.fBody.fArgs+1)+1)))]
theorem aa2{l:List aC}{i:Nat}(hi:i<l.length):(l.take i).map aC.enc++[l[i].enc]=(l.take (i+1)).map aC.enc:=by
 rw[List.take_succ_eq_append_getElem hi,List.map_append];rfl
theorem aa3{l:List bn}{i:Nat}(hi:i<l.length):(l.take i).map bn.enc++[l[i].enc]=(l.take (i+1)).map bn.enc:=by
 rw[List.take_succ_eq_append_getElem hi,List.map_append];rfl
theorem se0{x:aC}{k N:Int}{tr nm:List UInt8}(h:x=.mk k tr nm N iN [] []):Less (.agg [.d (.i .i64 k),.d (.s tr),.d (.s nm),.d (.i .i64 N),.d (.i .i64 0),.d (.s []),.bI [],.bI [],.bI []]) x.v:=by
 rw[h];exact(gD.cons (.refl _) (.cons (.refl _) (.cons (.refl _) (.cons (.refl _) (.cons (.refl _) (.cons (.refl _) (.cons (eO _) (.cons (eO _) (.cons (eO _) .nil))))))))).less
theorem Sj{x:aC}{k N:Int}{tr nm:List UInt8}{args:List aC}(h:x=.mk k tr nm N iN args []):Less (.agg [.d (.i .i64 k),.d (.s tr),.d (.s nm),.d (.i .i64 N),.d (.i .i64 0),.d (.s []),.bI [],.d (.sl (args.map aC.enc)),.bI []]) x.v:=by
 rw[h];exact(gD.cons (.refl _) (.cons (.refl _) (.cons (.refl _) (.cons (.refl _) (.cons (.refl _) (.cons (.refl _) (.cons (eO _) (.cons (.refl _) (.cons (eO _) .nil))))))))).less
theorem se2{x:aC}{k N:Int}{tr nm:List UInt8}{ty:ay}{args:List aC}(h:x=.mk k tr nm N ty args []):Less (.agg [.d (.i .i64 k),.d (.s tr),.d (.s nm),.d (.i .i64 N),.d (.i .i64 ty.aV),.d (.s ty.fName),.d (.sl (ty.fArgs.map ay.enc)),.d (.sl (args.map aC.enc)),.bI []]) x.v:=by
 rw[h];exact(gD.cons (.refl _) (.cons (.refl _) (.cons (.refl _) (.cons (.refl _) (.cons (.refl _) (.cons (.refl _) (.cons (.refl _) (.cons (.refl _) (.cons (eO _) .nil))))))))).less
theorem se3{x:aC}{k N:Int}{tr nm:List UInt8}{args:List aC}{arms:List bn}(h:x=.mk k tr nm N iN args arms):Less (.agg [.d (.i .i64 k),.d (.s tr),.d (.s nm),.d (.i .i64 N),.d (.i .i64 0),.d (.s []),.bI [],.d (.sl (args.map aC.enc)),.d (.sl (arms.map bn.enc))]) x.v:=by
 rw[h];exact(gD.cons (.refl _) (.cons (.refl _) (.cons (.refl _) (.cons (.refl _) (.cons (.refl _) (.cons (.refl _) (.cons (eO _) (.cons (.refl _) (.cons (.refl _) .nil))))))))).less
theorem Ux(l:List au)(i:Nat):((l.map au.enc).take l.length).drop (min i l.length)=(l.drop i).map au.enc:=by
 rw[GH _ _ _ (Nat.le_refl _)];by_cases h:i<=l.length
 ·rw[Nat.min_eq_left h]
 ·rw[Nat.min_eq_right (by omega),List.drop_length,List.drop_of_length_le (by omega)]
theorem ag8(l:List au):((l.map au.enc).take (min 2 l.length)).drop 1=((l.drop 1).take 1).map au.enc:=by
 match l with
 |[]=>rfl
 |[x]=>rfl
 |x::y::l=>simp[show min 2 (l.length+1+1)=2 by omega]
theorem Yr(l:List au)(i:Nat)(h:i<l.length+3):(l.map au.enc++([[.s [],.sl []],[.s [],.sl []],[.s [],.sl []]]:List (List D))).getD i []=[.s (dM l i),.sl ((l.getD i dz).aA.map au.enc)]:=by
 rw[List.getD_eq_getElem?_getD,List.getElem?_append];split
 ·rename_i hi;rw[List.length_map] at hi;rw[List.getElem?_map,List.getElem?_eq_getElem hi];simp only[Option.map_some,Option.getD_some];rw[au.aj,Am hi,List.getD_eq_getElem?_getD,List.getElem?_eq_getElem hi];rfl
 ·rename_i hi;rw[List.length_map] at hi;rw[DN (by omega),List.getD_eq_getElem?_getD,List.getElem?_eq_none (by omega:l.length<=i),List.length_map]
  have:i-l.length=0\/i-l.length=1\/i-l.length=2:=by omega
  rcases this with e|e|e<;>rw[e]<;>rfl
theorem aa4(l:List au)(h:2<=l.length):((l.map au.enc).take ((l.length:Int)-1).toNat).drop 1=((l.drop 1).dropLast).map au.enc:=by
 rw[show((l.length:Int)-1).toNat=l.length-1 by omega,<-List.map_take,<-List.map_drop,List.dropLast_eq_take,List.length_drop,List.drop_take]
theorem uK(x:au)(i:Nat){m:Nat}(h:x.sz<=m):(x.aA.getD i dz).sz<=m:=by
 have:=yB x.aA i;have:=gV x;omega
theorem Ja{α:Type}[SizeOf α]:∀(i:Nat)(l:List α),SizeOf.sizeOf (l.take i)<=SizeOf.sizeOf l
 |0,[]=>by simp
 |0,x::l=>by rw[List.take_zero];simp only[List.cons.sizeOf_spec,List.nil.sizeOf_spec];omega
 |i+1,[]=>by simp
 |i+1,x::l=>by
  have:=Ja i l;rw[List.take_succ_cons];simp only[List.cons.sizeOf_spec];omega
theorem Yt(n:Int):bg prog 144 [.c (.d (.i .i64 n))] (.agg [.d (.i .i64 1),.d (.s []),.d (.s []),.d (.i .i64 n),.d (.i .i64 0),.d (.s []),.bI [],.bI [],.bI []]):=fun S=>by
 refine zcx [.cell 2 115] func144 ntmps144 ?_;simp -implicitDefEqProofs (disch:=omega) only[go_sem]
theorem Uy(s:List UInt8):bg prog 143 [.c (.d (.s s))] (.agg [.d (.i .i64 3),.d (.s []),.d (.s s),.d (.i .i64 0),.d (.i .i64 0),.d (.s []),.bI [],.bI [],.bI []]):=fun S=>by
 refine zcx [.cell 2 115] func143 ntmps143 ?_;simp -implicitDefEqProofs (disch:=omega) only[go_sem]
theorem GL:∀N:Nat,(∀x:au,SizeOf.sizeOf x<N->x.sz<=4194304->bg prog 252 [x.v] (fA false x).v)/\
 (∀xs:List au,SizeOf.sizeOf xs<N->xs.length<=4194304->(∀t∈xs,t.sz<=4194304)->bg prog 263 [.c (.d (.sl (xs.map au.enc)))] (.c (.d (.sl ((xs.map (fA false)).map aC.enc)))))/\
 (∀x:au,SizeOf.sizeOf x<N->x.sz<=4194304->bg prog 264 [x.v] (uJ false x).v)
 |0=>⟨fun x h=>by omega,fun x h=>by omega,fun x h=>by omega⟩
 |N+1=>by
  obtain⟨ih,wX,ihM⟩:=GL N;refine⟨fun x hn hsz=>bg.of_le fun S=> ?_,fun xs hn hlen hsz S=> ?_,fun x hn hsz=>bg.of_le fun S=> ?_⟩
  ·have nu:=au.Dq x;have h1:=gV x;have h2:=EM x
   have hall:∀t∈x.aA,t.sz<=4194304:=fun t ht=>by have:=kY ht;omega
   have hr:=jk (l:=x.aA);have hso:=fun i=>I8 i x.aA
   have hdl:∀i,(x.aA.drop i).length<=4194304:=fun i=>by rw[List.length_drop];omega
   have hda:∀i,∀t∈x.aA.drop i,t.sz<=4194304:=fun i t ht=>hall t (List.mem_of_mem_drop ht)
   have hg:yP false x.aA:=fun e=>by cases e.1
   refine zcx [.cell 2 115] func252 ntmps252 ?_;simp -implicitDefEqProofs (disch:=omega) only[go_sem]
   with_reducible refine aD (fun hb=> ?_) (fun hb=> ?_)<;>have h:=hb<;>(try simp only[wf_preprocess] at h)<;>simp -implicitDefEqProofs (disch:=omega) only[go_sem,hb]<;>(repeat(with_reducible refine And.intro ?_ ?_;focus first|omega|rfl|assumption|exact⟨_,rfl,rfl⟩|(simp;omega)|(simp;done)))
   ·have hne:=h;refine aB (LK x.bK (by omega)) ?_
    cases hri:jq x.bK with
    |some m=>
     simp -implicitDefEqProofs (disch:=omega) only[go_sem,Option.getD_some,Option.isSome_some];refine aB (Yt m) ?_;simp -implicitDefEqProofs (disch:=omega) only[go_sem];exact se0 (aev hne hri)
    |none=>
     simp -implicitDefEqProofs (disch:=omega) only[go_sem,Option.getD_none,Option.isSome_none]
     with_reducible refine aD (fun hb=> ?_) (fun hb=> ?_)<;>have h:=hb<;>(try simp only[wf_preprocess] at h)<;>simp -implicitDefEqProofs (disch:=omega) only[go_sem,hb]<;>(repeat(with_reducible refine And.intro ?_ ?_;focus first|omega|rfl|assumption|exact⟨_,rfl,rfl⟩|(simp;omega)|(simp;done)))
     ·exact se0 (aa1 hne hri h)
     have k1:=h
     with_reducible refine aD (fun hb=> ?_) (fun hb=> ?_)<;>have h:=hb<;>(try simp only[wf_preprocess] at h)<;>simp -implicitDefEqProofs (disch:=omega) only[go_sem,hb]<;>(repeat(with_reducible refine And.intro ?_ ?_;focus first|omega|rfl|assumption|exact⟨_,rfl,rfl⟩|(simp;omega)|(simp;done)))
     ·exact se0 (Yq hne hri k1 h)
     have k2:=h;refine aB (Uy _) ?_;simp -implicitDefEqProofs (disch:=omega) only[go_sem];exact se0 (aew hne hri k1 k2)
   have ha:=h;have l0:=Yr x.aA 0 (by omega);have l1:=Yr x.aA 1 (by omega);have l2:=Yr x.aA 2 (by omega)
   have hm1:min (1:Int) (x.aA.length:Int)=((min 1 x.aA.length:Nat):Int):=by omega
   have hm2:min (2:Int) (x.aA.length:Int)=((min 2 x.aA.length:Nat):Int):=by omega
   have hm3:min (3:Int) (x.aA.length:Int)=((min 3 x.aA.length:Nat):Int):=by omega
   have hd:=fun i=>Ux x.aA i;have hdd:=GH x.aA x.aA.length 1 (Nat.le_refl _);simp -implicitDefEqProofs (disch:=omega) only[go_sem,l0,l1,l2]
   (repeat(with_reducible refine And.intro ?_ ?_;focus first|omega|rfl|assumption|exact⟨_,rfl,rfl⟩|(simp;omega)|(simp;done)))
   with_reducible refine aD (fun hb=> ?_) (fun hb=> ?_)<;>have h:=hb<;>(try simp only[wf_preprocess] at h)<;>simp -implicitDefEqProofs (disch:=omega) only[go_sem,hb,l0,l1,l2]<;>(repeat(with_reducible refine And.intro ?_ ?_;focus first|omega|rfl|assumption|exact⟨_,rfl,rfl⟩|(simp;omega)|(simp;done)))
   ·refine aB (rY _ _) ?_;rw[hm2];simp -implicitDefEqProofs (disch:=omega) only[go_sem];refine⟨⟨by omega,by omega,by omega,hr⟩,?_⟩;rw[hd];refine aB (wX (x.aA.drop 2) (by have:=hso 2;omega) (hdl 2) (hda 2)) ?_;simp -implicitDefEqProofs (disch:=omega) only[go_sem];exact Sj (aaX ha hg h)
   have akS:=h
   with_reducible refine aD (fun hb=> ?_) (fun hb=> ?_)<;>have h:=hb<;>(try simp only[wf_preprocess] at h)<;>simp -implicitDefEqProofs (disch:=omega) only[go_sem,hb,l0,l1,l2]<;>(repeat(with_reducible refine And.intro ?_ ?_;focus first|omega|rfl|assumption|exact⟨_,rfl,rfl⟩|(simp;omega)|(simp;done)))
   ·refine aB (rY _ _) ?_;rw[hm3];simp -implicitDefEqProofs (disch:=omega) only[go_sem];refine⟨⟨by omega,by omega,by omega,hr⟩,?_⟩;rw[hd];refine aB (wX (x.aA.drop 3) (by have:=hso 3;omega) (hdl 3) (hda 3)) ?_;simp -implicitDefEqProofs (disch:=omega) only[go_sem];exact Sj (Uw ha hg h)
   have ag9:=h
   with_reducible refine aD (fun hb=> ?_) (fun hb=> ?_)<;>have h:=hb<;>(try simp only[wf_preprocess] at h)<;>simp -implicitDefEqProofs (disch:=omega) only[go_sem,hb,l0,l1,l2]<;>(repeat(with_reducible refine And.intro ?_ ?_;focus first|omega|rfl|assumption|exact⟨_,rfl,rfl⟩|(simp;omega)|(simp;done)))
   ·refine aB (rY _ _) ?_;rw[hm2];simp -implicitDefEqProofs (disch:=omega) only[go_sem];refine⟨⟨by omega,by omega,by omega,hr⟩,?_⟩;rw[hd];refine aB (wX (x.aA.drop 2) (by have:=hso 2;omega) (hdl 2) (hda 2)) ?_;simp -implicitDefEqProofs (disch:=omega) only[go_sem];exact Sj (aer ha hg h)
   have nNew:=h
   with_reducible refine aD (fun hb=> ?_) (fun hb=> ?_)<;>have h:=hb<;>(try simp only[wf_preprocess] at h)<;>simp -implicitDefEqProofs (disch:=omega) only[go_sem,hb,l0,l1,l2]<;>(repeat(with_reducible refine And.intro ?_ ?_;focus first|omega|rfl|assumption|exact⟨_,rfl,rfl⟩|(simp;omega)|(simp;done)))
   ·refine aB (rY _ _) ?_;rw[hm2];simp -implicitDefEqProofs (disch:=omega) only[go_sem];refine⟨⟨by omega,by omega,by omega,hr⟩,?_⟩;rw[hd];refine aB (wX (x.aA.drop 2) (by have:=hso 2;omega) (hdl 2) (hda 2)) ?_;simp -implicitDefEqProofs (disch:=omega) only[go_sem];exact Sj (aes ha hg h)
   have amJ:=h
   with_reducible refine aD (fun hb=> ?_) (fun hb=> ?_)<;>have h:=hb<;>(try simp only[wf_preprocess] at h)<;>simp -implicitDefEqProofs (disch:=omega) only[go_sem,hb,l0,l1,l2]<;>(repeat(with_reducible refine And.intro ?_ ?_;focus first|omega|rfl|assumption|exact⟨_,rfl,rfl⟩|(simp;omega)|(simp;done)))
   ·have hpos:0<x.aA.length:=by
     rcases Nat.eq_zero_or_pos x.aA.length with e|e
     ·rw[DN (by omega)] at h;cases h
     ·exact e
    refine⟨⟨by omega,by omega,hr⟩,?_⟩;rw[hdd];refine aB (wX (x.aA.drop 1) (by have:=hso 1;omega) (hdl 1) (hda 1)) ?_;simp -implicitDefEqProofs (disch:=omega) only[go_sem];exact Sj (ag7 ha hg h)
   have nIf:=h
   with_reducible refine aD (fun hb=> ?_) (fun hb=> ?_)<;>have h:=hb<;>(try simp only[wf_preprocess] at h)<;>simp -implicitDefEqProofs (disch:=omega) only[go_sem,hb,l0,l1,l2]<;>(repeat(with_reducible refine And.intro ?_ ?_;focus first|omega|rfl|assumption|exact⟨_,rfl,rfl⟩|(simp;omega)|(simp;done)))
   ·refine aB (rY _ _) ?_;rw[hm2];simp -implicitDefEqProofs (disch:=omega) only[go_sem];refine⟨⟨by omega,by omega,by omega,hr⟩,?_⟩;rw[hd];refine aB (wX (x.aA.drop 2) (by have:=hso 2;omega) (hdl 2) (hda 2)) ?_;simp -implicitDefEqProofs (disch:=omega) only[go_sem];exact Sj (aaY ha hg h)
   have akT:=h
   with_reducible refine aD (fun hb=> ?_) (fun hb=> ?_)<;>have h:=hb<;>(try simp only[wf_preprocess] at h)<;>simp -implicitDefEqProofs (disch:=omega) only[go_sem,hb,l0,l1,l2]<;>(repeat(with_reducible refine And.intro ?_ ?_;focus first|omega|rfl|assumption|exact⟨_,rfl,rfl⟩|(simp;omega)|(simp;done)))
   ·refine aB (ng (x.aA.getD 1 dz) (uK x 1 hsz)) ?_;simp -implicitDefEqProofs (disch:=omega) only[go_sem];refine aB (rY _ _) ?_;rw[hm2];simp -implicitDefEqProofs (disch:=omega) only[go_sem];refine⟨⟨by omega,by omega,by omega,hr⟩,?_⟩;rw[hd];refine aB (wX (x.aA.drop 2) (by have:=hso 2;omega) (hdl 2) (hda 2)) ?_;simp -implicitDefEqProofs (disch:=omega) only[go_sem];exact se2 (aeu ha hg h)
   have nThe:=h
   with_reducible refine aD (fun hb=> ?_) (fun hb=> ?_)<;>have h:=hb<;>(try simp only[wf_preprocess] at h)<;>simp -implicitDefEqProofs (disch:=omega) only[go_sem,hb,l0,l1,l2]<;>(repeat(with_reducible refine And.intro ?_ ?_;focus first|omega|rfl|assumption|exact⟨_,rfl,rfl⟩|(simp;omega)|(simp;done)))
   ·have hpos:0<x.aA.length:=by
     rcases Nat.eq_zero_or_pos x.aA.length with e|e
     ·rw[DN (by omega)] at h;cases h
     ·exact e
    have hdec:=aaZ ha hg h;refine aB (rY _ _) ?_;rw[hm2];simp -implicitDefEqProofs (disch:=omega) only[go_sem];refine⟨⟨by omega,by omega,hr⟩,?_⟩;rw[ag8];refine aB (wX ((x.aA.drop 1).take 1) (by have:=hso 1;have:=Ja 1 (x.aA.drop 1);omega) (by rw[List.length_take];omega) (fun t ht=>hda 1 t (List.mem_of_mem_take ht))) ?_;simp -implicitDefEqProofs (disch:=omega) only[go_sem];obtain⟨BN,amK⟩:∃BN,BN=((x.aA.drop 1).take 1).map (fA false):=⟨_,rfl⟩;obtain⟨T,hT⟩:∃T:Nat->List (List D),T=fun k=>(((x.aA.drop 2).map (uJ false)).take k).map bn.enc:=⟨_,rfl⟩
    have hT0:T 0=[]:=by rw[hT];rfl
    have iG:∀k,(T k).length<=k:=fun k=>by rw[hT];simp only[List.length_map];exact List.length_take_le _ _
    have hTs:∀k (hk:k+2<x.aA.length),T k++[(uJ false x.aA[k+2]).enc]=T (k+1):=fun k hk=>by
     have:=aa3 (l:=(x.aA.drop 2).map (uJ false)) (i:=k) (by rw[List.length_map,List.length_drop];omega);rw[List.getElem_map,List.getElem_drop] at this;rw[hT];simp only[Nat.add_comm 2 k] at this ⊢;exact this
    have hTe:T (x.aA.length-2)=((x.aA.drop 2).map (uJ false)).map bn.enc:=by
     rw[hT];simp only
     rw[List.take_of_length_le (by simp)]
    clear hT;rw[<-amK] at hdec ⊢;refine jD 3 8 11 _ rfl rfl ?_
    refine bO (ι:=Nat) zmx rfl [1,2,6,8,9] (fun k=>[.c (.ptr (0,0) 0),.c (.ptr (0,1) 0),.c (.d (.i .i64 x.aA.length)),.c (.ptr (0,3) 0),.c (.d (.i .i64 ((k+2:Nat):Int)))])
     (fun k=>[.box [.d (.s x.bK),.d (.sl (x.aA.map au.enc))],.box [.d (.i .i64 0),.d (.s []),.d (.s []),.d (.i .i64 0),.d (.i .i64 0),.d (.s []),.bI [],.bI [],.bI []],.tok 2 (x.aA.map au.enc++[[.s [],.sl []],[.s [],.sl []],[.s [],.sl []]]),
       .box [.d (.i .i64 7),.d (.s []),.d (.s []),.d (.i .i64 0),.d (.i .i64 0),.d (.s []),.bI [],.d (.sl (BN.map aC.enc)),.bS (0,4) (T k)],.tok 11 (T k)]::S)
     (fun k=>k<=x.aA.length-2) (fun k=>x.aA.length-(k+2)) 0 rfl (by rw[hT0];rfl) (Nat.zero_le _) ?_
    intro k hk;have hlk:=iG k;clear l0 l1 l2;simp -implicitDefEqProofs (disch:=omega) only[go_sem]
    with_reducible refine aD (fun hb=> ?_) (fun hb=> ?_)<;>have h:=hb<;>(try simp only[wf_preprocess] at h)<;>simp -implicitDefEqProofs (disch:=omega) only[go_sem,hb]<;>(repeat(with_reducible refine And.intro ?_ ?_;focus first|omega|rfl|assumption|exact⟨_,rfl,rfl⟩|(simp;omega)|(simp;done)))
    ·have hk':k+2<x.aA.length:=by omega
     have hm:=List.getElem_mem hk';have hs:=hTs k hk';simp only[bn.aj,aC.aj,ay.aj,List.cons_append,List.nil_append] at hs
     (repeat(with_reducible refine And.intro ?_ ?_;focus first|omega|rfl|assumption|exact⟨_,rfl,rfl⟩|(simp;omega)|(simp;done)))
     refine aB (ihM x.aA[k+2] (by have:=List.sizeOf_lt_of_mem hm;omega) (hall _ hm)) ?_;simp -implicitDefEqProofs (disch:=omega) only[go_sem]
     (repeat(with_reducible refine And.intro ?_ ?_;focus first|omega|rfl|assumption|exact⟨_,rfl,rfl⟩|(simp;omega)|(simp;done)))
     rw[hs];exact cZ (k+1) (by omega) rfl rfl (by omega)
    ·have hk':k=x.aA.length-2:=by omega
     subst hk';rw[hTe];exact se3 hdec
   have akU:=h;refine aB (rY _ _) ?_;rw[hm1];simp -implicitDefEqProofs (disch:=omega) only[go_sem];refine⟨⟨by omega,by omega,by omega,hr⟩,?_⟩;rw[hd];refine aB (wX (x.aA.drop 1) (by have:=hso 1;omega) (hdl 1) (hda 1)) ?_;simp -implicitDefEqProofs (disch:=omega) only[go_sem];exact Sj (aa0 ha hg akS nNew amJ akT ag9 nIf nThe akU)
  ·have Yu:=fun(i:Nat) (hi:i<xs.length)=>aa2 (l:=xs.map (fA false)) (i:=i) (by rw[List.length_map];exact hi);refine zcx [.tmp 2] func263 ntmps263 ?_;simp -implicitDefEqProofs (disch:=omega) only[go_sem]
   (repeat(with_reducible refine And.intro ?_ ?_;focus first|omega|rfl|assumption|exact⟨_,rfl,rfl⟩|(simp;omega)|(simp;done)))
   refine iZ 3 9 [] rfl (by simp) ?_
   refine bO (ι:=Nat) zmx rfl [0,3,4] (fun i=>[.c (.d (.sl (xs.map au.enc))),.c (.bS (0,0) (((xs.map (fA false)).take i).map aC.enc)),.c (.d (.i .i64 i))]) (fun i=>[.tok 9 (((xs.map (fA false)).take i).map aC.enc)]::S)
    (fun i=>i<=xs.length) (fun i=>xs.length-i) 0 rfl rfl (Nat.zero_le _) ?_
   intro i hi
   have hl:(((xs.map (fA false)).take i).map aC.enc).length<=i:=by rw[List.length_map];exact List.length_take_le _ _
   simp -implicitDefEqProofs (disch:=omega) only[go_sem]
   with_reducible refine aD (fun hb=> ?_) (fun hb=> ?_)<;>have h:=hb<;>(try simp only[wf_preprocess] at h)<;>simp -implicitDefEqProofs (disch:=omega) only[go_sem,hb]<;>(repeat(with_reducible refine And.intro ?_ ?_;focus first|omega|rfl|assumption|exact⟨_,rfl,rfl⟩|(simp;omega)|(simp;done)))
   ·have hi':i<xs.length:=by omega
    have hs:=Yu i hi';rw[List.getElem_map] at hs;simp only[aC.aj,ay.aj,List.cons_append,List.nil_append] at hs
    (repeat(with_reducible refine And.intro ?_ ?_;focus first|omega|rfl|assumption|exact⟨_,rfl,rfl⟩|(simp;omega)|(simp;done)))
    refine aB (ih xs[i] (by have:=List.sizeOf_lt_of_mem (List.getElem_mem hi');omega) (hsz _ (List.getElem_mem hi'))) ?_;simp -implicitDefEqProofs (disch:=omega) only[go_sem]
    (repeat(with_reducible refine And.intro ?_ ?_;focus first|omega|rfl|assumption|exact⟨_,rfl,rfl⟩|(simp;omega)|(simp;done)))
    rw[hs];exact cZ (i+1) (by omega) rfl rfl (by omega)
   ·have hi':i=(xs.map (fA false)).length:=by rw[List.length_map];omega
    rw[hi',List.take_length]
  ·have nu:=au.Dq x;have h1:=gV x
   have hall:∀t∈x.aA,t.sz<=4194304:=fun t ht=>by have:=kY ht;omega
   have hr:=jk (l:=x.aA);refine zcx [.cell 2 167] func264 ntmps264 ?_;simp -implicitDefEqProofs (disch:=omega) only[go_sem]
   with_reducible refine aD (fun hb=> ?_) (fun hb=> ?_)<;>have h:=hb<;>(try simp only[wf_preprocess] at h)<;>simp -implicitDefEqProofs (disch:=omega) only[go_sem,hb]<;>(repeat(with_reducible refine And.intro ?_ ?_;focus first|omega|rfl|assumption|exact⟨_,rfl,rfl⟩|(simp;omega)|(simp;done)))
   ·rw[ag6 false x (by omega)];exact(gD.cons (.refl _) (.cons (eO _) (.cons (.refl _) (.cons (.refl _) (.cons (.refl _) (.cons (.refl _) (.cons (.refl _) (.cons (.refl _) (.cons (eO _) (.cons (eO _) (.cons (eO _) .nil))))))))))).less
   have hl2:2<=x.aA.length:=by omega
   have a0:=Am (l:=x.aA) (i:=0) (by omega);have hm:=List.getElem_mem (l:=x.aA) (n:=x.aA.length-1) (by omega);rw[ag5 false x hl2,a0];refine⟨⟨by omega,by omega,hr⟩,?_⟩;rw[aa4 _ hl2];refine aB (Bu ((x.aA.drop 1).dropLast) (by rw[List.length_dropLast,List.length_drop];omega)) ?_;simp -implicitDefEqProofs (disch:=omega) only[go_sem]
   (repeat(with_reducible refine And.intro ?_ ?_;focus first|omega|rfl|assumption|exact⟨_,rfl,rfl⟩|(simp;omega)|(simp;done)))
   have el:((x.aA.length:Int)-1).toNat=x.aA.length-1:=by omega
   simp only[el];refine aB (ih (x.aA[x.aA.length-1]) (by have:=List.sizeOf_lt_of_mem hm;omega) (hall _ hm)) ?_;simp -implicitDefEqProofs (disch:=omega) only[go_sem];exact jE _
theorem CZ(x:au)(hsz:x.sz<=4194304):bg prog 252 [x.v] (fA false x).v:=(GL _).1 x (Nat.lt_succ_self _) hsz
end Go.Ab