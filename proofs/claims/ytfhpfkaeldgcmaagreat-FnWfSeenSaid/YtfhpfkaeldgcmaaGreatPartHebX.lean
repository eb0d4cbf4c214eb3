/-
  SEVERAL TEXTS IN ONE (merged by program): contracts and models, each with its own heading.
-/
import Derived.Test.YtfhpfkaeldgcmaaGreatPartHebO
import Derived.Test.YtfhpfkaeldgcmaaGreatPartHebW
import Derived.Lib.Atoi
set_option maxHeartbeats 8000000
open Go.Proofs Go.Proofs.Tryz
set_option linter.unusedSimpArgs false
set_option linter.unusedVariables false
set_option maxRecDepth 4000
namespace Go.Ab
theorem Ju(d:Nat)(h:d<10):Lib.digitVal (UInt8.ofNat (48+d))=some d:=by
 have:(UInt8.ofNat (48+d)).toNat=48+d:=by rw[UInt8.toNat_ofNat'];omega
 unfold Lib.digitVal;rw[this,if_pos (by omega)];congr 1;omega
theorem BJ:∀(l:List UInt8)(acc:Nat)(b:UInt8),Lib.decFrom acc (l++[b])=(Lib.decFrom acc l).bind fun m=>(Lib.digitVal b).map fun d=>m*10+d
 |[],acc,b=>by
  rw[List.nil_append,Lib.decFrom,Lib.decFrom];cases Lib.digitVal b<;>rfl
 |a::l,acc,b=>by
  rw[List.cons_append,Lib.decFrom,Lib.decFrom]
  cases Lib.digitVal a with
  |none=>rfl
  |some e=>exact BJ l _ b
theorem yF(n:Nat):Lib.decFrom 0 (Lib.decDigits n)=some n:=by
 induction n using Nat.strongRecOn with
 |_ n ih=>
  rw[Lib.decDigits];split
  ·rename_i h;rw[Lib.decFrom,Ju n h];simp[Lib.decFrom]
  ·rename_i h;rw[BJ,ih (n/10) (by omega),Ju _ (Nat.mod_lt _ (by decide))];simp only[Option.bind_some,Option.map_some,Option.some.injEq];omega
theorem yG(n:Nat):∃b r,Lib.decDigits n=b::r/\48<=b.toNat/\b.toNat<=57:=by
 induction n using Nat.strongRecOn with
 |_ n ih=>
  rw[Lib.decDigits];split
  ·rename_i h;exact⟨_,_,rfl,by rw[UInt8.toNat_ofNat'];omega,by rw[UInt8.toNat_ofNat'];omega⟩
  ·rename_i h;obtain⟨b,r,e,h1,h2⟩:=ih (n/10) (by omega);rw[e];exact⟨b,r++_,rfl,h1,h2⟩
theorem FQ(n:Nat):Lib.decNat (Lib.decDigits n)=some n:=by
 obtain⟨b,r,e,_⟩:=yG n;unfold Lib.decNat;rw[show(Lib.decDigits n).isEmpty=false from by rw[e];rfl];exact yF n
theorem G8(b:UInt8)(r:List UInt8):Lib.atoi (b::r)=if b==45 then(Lib.decNat r).map fun(m:Nat)=> -(m:Int) else if b==43 then(Lib.decNat r).map fun(m:Nat)=>(m:Int) else(Lib.decNat (b::r)).map fun(m:Nat)=>(m:Int):=rfl
theorem OL(n:Int):Lib.atoi (Lib.itoa n)=some n:=by
 unfold Lib.itoa;split
 ·rename_i h;show Lib.atoi (45::Lib.decDigits n.natAbs)=_;rw[G8,if_pos (by decide),FQ];simp only[Option.map_some,Option.some.injEq];omega
 ·rename_i h;obtain⟨b,r,e,h1,h2⟩:=yG n.toNat;have hd:=FQ n.toNat;rw[e] at hd ⊢;rw[G8,if_neg (by simp only[beq_iff_eq];intro h;rw[h] at h1;revert h1;decide),if_neg (by simp only[beq_iff_eq];intro h;rw[h] at h1;revert h1;decide),hd];simp only[Option.map_some,Option.some.injEq];omega
theorem ahp(n:Int):Lib.itoa n≠[]:=fun e=>by
 have:=OL n;rw[e] at this;cases this
def ji(s:List UInt8):Option Int:=match Lib.atoi s with
 |some n=>if(-999999999999<=n/\n<=999999999999)/\Lib.itoa n=s then some n else none
 |none=>none
theorem L8{n:Int}(h: -999999999999<=n/\n<=999999999999):ji (Lib.itoa n)=some n:=by
 unfold ji;rw[OL];exact if_pos ⟨h,rfl⟩
theorem L9{s:List UInt8}{n:Int}(h:ji s=some n):(-999999999999<=n/\n<=999999999999)/\Lib.itoa n=s:=by
 unfold ji at h;split at h
 ·split at h
  ·cases h;assumption
  ·cases h
 ·cases h
theorem BK{b:UInt8}{r:List UInt8}(h:lowerB b):ji (b::r)=none:=by
 have h1:(b==45)=false:=by simp only[beq_eq_false_iff_ne];intro e;rw[e] at h;revert h;simp[lowerB]
 have h2:(b==43)=false:=by simp only[beq_eq_false_iff_ne];intro e;rw[e] at h;revert h;simp[lowerB]
 have h3:Lib.digitVal b=none:=if_neg (fun x=>by unfold lowerB at h;omega);unfold ji;rw[G8,h1,h2];simp[Lib.decNat,Lib.decFrom,h3]
theorem YD{s:List UInt8}(h:validName s=true):ji s=none:=by
 have h1:=gD h;have h2:=h1.2.2 0 (by omega)
 cases s with
 |nil=>simp at h1
 |cons b r=>
  rcases h2 with h2|h2
  ·exact BK h2
  ·exact(h2.1 rfl).elim
def iL:ay:=.mk 0 [] []
def mU:aD:=.mk 0 [] [] 0 iL [] []
mutual
def fA(b:Bool):au->aD
 | .mk a l=>if a=[] then
    if b=true/\(l.length<2\/dL l 0=jF/\l.length<3) then mU
    else if dL l 0=qb then .mk 4 [] (dL l 1) 0 iL ((fF b l).drop 2) []
    else if dL l 0=uw then .mk 6 [] (dL l 1) 0 iL ((fF b l).drop 2) []
    else if dL l 0=uy then .mk 8 [] (dL l 1) 0 iL ((fF b l).drop 2) []
    else if dL l 0=qc then .mk 11 (dL l 1) [] 0 iL ((fF b l).drop 2) []
    else if dL l 0=jF then .mk 5 (dL l 1) (dL l 2) 0 iL ((fF b l).drop 3) []
    else if dL l 0=zw then .mk 9 [] [] 0 iL ((fF b l).drop 1) []
    else if dL l 0=tq then .mk 12 [] [] 0 (eP b (l.getD 1 dh)) ((fF b l).drop 2) []
    else if dL l 0=lV then .mk 7 [] [] 0 iL (((fF b l).drop 1).take 1) ((lI b l).drop 2)
    else .mk 10 [] (dL l 0) 0 iL ((fF b l).drop 1) []
   else match ji a with
    |some n=>.mk 1 [] [] n iL [] []
    |none=>if a=yT then .mk 2 [] [] 1 iL [] [] else if a=xu then .mk 2 [] [] 0 iL [] [] else .mk 3 [] a 0 iL [] []
def fF(b:Bool):List au->List aD
 |[]=>[]
 |x::xs=>fA b x::fF b xs
def uG(b:Bool):au->bE
 | .mk a l=>if l.length<2 then .mk [] [] mU else .mk (dL l 0) (gq ((l.drop 1).dropLast)) ((fF b l).getLastD mU)
def lI(b:Bool):List au->List bE
 |[]=>[]
 |x::xs=>uG b x::lI b xs
end
theorem zB(b:Bool):∀l,fF b l=l.map (fA b)
 |[]=>rfl
 |t::ts=>by rw[fF,List.map_cons,zB b ts]
theorem Cz(b:Bool):∀l,lI b l=l.map (uG b)
 |[]=>rfl
 |t::ts=>by rw[lI,List.map_cons,Cz b ts]
theorem kD(b:Bool)(l m:List au):fF b (l++m)=fF b l++fF b m:=by simp only[zB,List.map_append]
theorem oO(b:Bool)(l m:List au):lI b (l++m)=lI b l++lI b m:=by simp only[Cz,List.map_append]
theorem pF{t:ay}(h:Cm t):t=iL:=ay.ext h.1 h.2.1 (List.eq_nil_of_length_eq_zero h.2.2)
theorem UF{s:List UInt8}(h:s∈ops):s≠[]/\∀w∈[qb,uw,uy,qc,jF,zw,tq,lV],s≠w:=by
 have:=aiL h;refine⟨fun e=>by rw[e] at this;simp at this,fun w hw e=> ?_⟩;rw[e] at this;simp only[List.mem_cons,List.not_mem_nil,or_false] at hw;rcases hw with g|g|g|g|g|g|g|g<;>rw[g] at this<;>revert this<;>decide
mutual
theorem Ea(b:Bool):∀e:aD,iY e=true->fA b (fM e)=e
 | .mk k tr nm n ty zs ms=>fun hok=>by
   rw[iY,Bool.and_eq_true,Bool.and_eq_true] at hok;have hf:=gD hok.1;have h1:=Sq b zs hok.2.1;have h2:=Sr b ms hok.2.2;obtain⟨p0,p1,p2,p3,p4,p5,p6⟩:=hf;simp only[aD.aV,aD.bW,aD.fName,aD.fN,aD.fType,aD.fArgs,aD.bP] at p0 p1 p2 p3 p4 p5 p6;have nz:∀{l:List aD},l.length=0->l=[]:=fun h=>List.eq_nil_of_length_eq_zero h
   have G9:k≠7->ms=[]:=fun h=>List.eq_nil_of_length_eq_zero (by
    have:¬0<ms.length:=fun x=>h (p6.2 x)
    omega)
   have hk:k=1\/k=2\/k=3\/k=4\/k=5\/k=6\/k=7\/k=8\/k=9\/k=10\/k=11\/k=12:=by omega
   rcases hk with rfl|rfl|rfl|rfl|rfl|rfl|rfl|rfl|rfl|rfl|rfl|rfl
   all_goals simp only[if_true,if_false,true_or,or_true,false_or,or_false,or_self,(by decide:(1:Int)=5<->False),Int.reduceEq] at p1 p2 p3 p4 p5
   ·have e1:=pF p4;have e2:=nz p5;have e3:=G9 (by decide);subst e1 e2 e3 p1 p2;rw[fM,if_pos rfl,bQ,fA,if_neg (ahp n),L8 (by omega)]
   ·have e1:=pF p4;have e2:=nz p5;have e3:=G9 (by decide);subst e1 e2 e3 p1 p2;rw[fM,if_neg (by decide),if_pos rfl,bQ,fA];rcases p3 with rfl|rfl
    ·rw[if_neg (by decide:¬(0:Int)=1),if_neg (by decide),show ji xu=none from BK (by simp[lowerB]),if_neg (by decide),if_pos rfl]
    ·rw[if_pos rfl,if_neg (by decide),show ji yT=none from BK (by simp[lowerB]),if_pos rfl]
   ·have e1:=pF p4;have e2:=nz p5;have e3:=G9 (by decide);subst e1 e2 e3 p1 p3;have hr:=(gD p2).2.1;rw[fM,if_neg (by decide),if_neg (by decide),if_pos rfl,bQ,fA,if_neg (D9 p2),YD p2,if_neg (fun e=>hr (by rw[e];simp[reserved,yT])),if_neg (fun e=>hr (by rw[e];simp[reserved,xu]))]
   all_goals have hz:(zM zs).length=zs.length:=by rw[BF,List.length_map]
   ·have e1:=pF p4;have e3:=G9 (by decide);subst e1 e3 p1 p3;simp[fM,jZ,eB,cZ,fA,fF,kD,lI,oO,dL,bQ,au.bH,qb,jF,uw,lV,uy,zw,qc,tq,h1,hz,h2]
    all_goals (intros;omega)
   ·have e1:=pF p4;have e3:=G9 (by decide);subst e1 e3 p3;simp[fM,jZ,eB,cZ,fA,fF,kD,lI,oO,dL,bQ,au.bH,qb,jF,uw,lV,uy,zw,qc,tq,h1,hz,h2]
    all_goals (intros;omega)
   ·have e1:=pF p4;have e3:=G9 (by decide);subst e1 e3 p1 p3;simp[fM,jZ,eB,cZ,fA,fF,kD,lI,oO,dL,bQ,au.bH,qb,jF,uw,lV,uy,zw,qc,tq,h1,hz,h2]
    all_goals (intros;omega)
   ·have e1:=pF p4;subst e1 p1 p2 p3;have hm:0<ms.length:=p6.1 rfl
    obtain⟨z,rfl⟩:∃z,zs=[z]:=by
     cases zs with
     |nil=>simp at p5
     |cons z t=>cases t with
      |nil=>exact⟨z,rfl⟩
      |cons _ _=>simp at p5
    simp only[zM,fF,List.cons.injEq,and_true] at h1;simp[fM,jZ,eB,cZ,fA,fF,kD,lI,oO,zM,dL,bQ,au.bH,qb,jF,uw,lV,uy,zw,qc,tq,h1,h2]
    all_goals (intros;omega)
   ·have e1:=pF p4;have e3:=G9 (by decide);subst e1 e3 p1 p3;simp[fM,jZ,eB,cZ,fA,fF,kD,lI,oO,dL,bQ,au.bH,qb,jF,uw,lV,uy,zw,qc,tq,h1,hz,h2]
    all_goals (intros;omega)
   ·have e1:=pF p4;have e3:=G9 (by decide);subst e1 e3 p1 p2 p3;simp[fM,jZ,eB,cZ,fA,fF,kD,lI,oO,dL,bQ,au.bH,qb,jF,uw,lV,uy,zw,qc,tq,h1,hz,h2]
    all_goals (intros;omega)
   ·have e1:=pF p4;have e3:=G9 (by decide);subst e1 e3 p1 p3;have ho:=UF p2;simp only[List.mem_cons,List.not_mem_nil,or_false,ne_eq,forall_eq_or_imp,forall_eq] at ho;obtain⟨_,o1,o2,o3,o4,o5,o6,o7,o8⟩:=ho;simp[fM,jZ,eB,cZ,fA,fF,kD,dL,bQ,au.bH,h1,hz,o1,o2,o3,o4,o5,o6,o7,o8]
    all_goals (intros;omega)
   ·have e1:=pF p4;have e3:=G9 (by decide);subst e1 e3 p2 p3;simp[fM,jZ,eB,cZ,fA,fF,kD,lI,oO,dL,bQ,au.bH,qb,jF,uw,lV,uy,zw,qc,tq,h1,hz,h2]
    all_goals (intros;omega)
   ·have e3:=G9 (by decide);subst e3 p1 p2 p3;have ht:=uR b ty (wY p4);simp[fM,jZ,eB,cZ,fA,fF,kD,dL,bQ,au.bH,qb,jF,uw,lV,uy,zw,qc,tq,h1,hz,ht]
    all_goals (intros;omega)
theorem Sq(b:Bool):∀es:List aD,lJ es=true->fF b (zM es)=es
 |[],_=>rfl
 |t::ts,h=>by
  rw[lJ,Bool.and_eq_true] at h;rw[zM,fF,Ea b t h.1,Sq b ts h.2]
theorem ahq(b:Bool):∀m:bE,yS m=true->uG b (DV m)=m
 | .mk c vs e=>fun h=>by
   rw[yS,Bool.and_eq_true,Bool.and_eq_true] at h;have he:=Ea b e h.2.2;rw[DV,eB,uG,if_neg (by simp),kD];have e1:dL ([bQ c]++cZ vs++[fM e]) 0=c:=rfl
   have e2:(([bQ c]++cZ vs++[fM e]).drop 1).dropLast=cZ vs:=by
    rw[List.append_assoc,List.singleton_append,List.drop_succ_cons,List.drop_zero,List.dropLast_concat]
   rw[e1,e2,mQ (yD h.2.1)];congr 1;rw[fF,he,List.getLastD_eq_getLast?,List.getLast?_append];simp[fF]
theorem Sr(b:Bool):∀ms:List bE,oG ms=true->lI b (EM ms)=ms
 |[],_=>rfl
 |t::ts,h=>by
  rw[oG,Bool.and_eq_true] at h;rw[EM,lI,ahq b t h.1,Sr b ts h.2]
end
theorem zC:iL.sz=0:=by rw[uj];rfl
theorem wH:mU.sz=0:=by rw[yw];simp[mU,aD.bW,aD.fName,aD.fType,aD.fArgs,aD.bP,zC,sw,zU]
theorem YE(l:List au):((gq ((l.drop 1).dropLast)).length+((gq ((l.drop 1).dropLast)).map List.length).sum)<=(l.drop 1).dropLast.length+dH ((l.drop 1).dropLast):=by
 have:=oo ((l.drop 1).dropLast);omega
theorem ahr(x:au)(m:List au)(y:au):dH (x::(m++[y]))=x.sz+(dH m+y.sz):=by rw[dH,jO];simp[dH]
mutual
theorem AO(b:Bool):∀x:au,(fA b x).sz<=x.sz
 | .mk a l=>by
   have g:=OM b l
   have hl:(fF b l).length=l.length:=by rw[zB,List.length_map]
   have hm:(lI b l).length=l.length:=by rw[Cz,List.length_map]
   rw[iV,jV];simp only[au.bH,au.aA];rw[fA];split
   ·have g1:sw ((fF b l).drop 1)+(dL l 0).length<=dH l:=by
     have:=g 0;simp only[Nat.zero_add,(by decide:¬(1<=0)),if_false] at this;omega
    have g2:sw ((fF b l).drop 2)+((dL l 0).length+(dL l 1).length)<=dH l:=by
     have:=g 1;simp only[Nat.reduceAdd,Nat.le_refl,if_true,Nat.sub_self] at this;omega
    have g3:sw ((fF b l).drop 3)+((dL l 1).length+(dL l 2).length)<=dH l:=by
     have:=g 2;simp only[Nat.reduceAdd,(by decide:1<=2),if_true,Nat.reduceSub] at this;omega
    split
    ·rw[wH];omega
    ·repeat' split
     all_goals rw[yw];simp only[aD.bW,aD.fName,aD.fType,aD.fArgs,aD.bP,zC,sw,zU,List.length_nil,List.length_drop,List.length_take,hl,hm,List.drop_zero] at g1 g2 g3 ⊢
     all_goals try omega
     ·have h1:=wG b (l.getD 1 dh)
      have h2:sw ((fF b l).drop 2)+(l.getD 1 dh).sz<=dH l:=by
       match l with
       |[]=>simp[fF,sw,dH,E5]
       |[x]=>simp[fF,sw,dH,E5]
       |x::y::l=>
        have:=Kg b l;simp only[fF,List.drop_succ_cons,List.drop_zero,dH];show _+y.sz<=_;omega
      omega
     ·match l with
      |[]=>simp[sw,zU,fF,lI]
      |[x]=>simp[sw,zU,fF,lI]
      |x::y::l=>
       have h1:=AO b y;have h2:=Sv b l;simp only[fF,lI,List.drop_succ_cons,List.drop_zero,List.take_succ_cons,List.take_zero,sw,dH,List.length_cons];omega
   ·split
    ·rw[yw];simp[aD.bW,aD.fName,aD.fType,aD.fArgs,aD.bP,zC,sw,zU]
    ·repeat' split
     all_goals rw[yw];simp[aD.bW,aD.fName,aD.fType,aD.fArgs,aD.bP,zC,sw,zU]
theorem Kg(b:Bool):∀l:List au,sw (fF b l)<=dH l
 |[]=>by simp[fF,sw]
 |x::xs=>by
  have h1:=AO b x;have h2:=Kg b xs;rw[fF,sw,dH];omega
theorem OM(b:Bool):∀(l:List au)(i:Nat),sw ((fF b l).drop (i+1))+((if 1<=i then(dL l (i-1)).length else 0)+(dL l i).length)<=dH l
 |[],i=>by simp[fF,sw,D8]
 |x::xs,0=>by
  have h2:=Kg b xs;rw[fF,List.drop_succ_cons,List.drop_zero,dH,show dL (x::xs) 0=x.bH from rfl,iV];simp;omega
 |x::xs,i+1=>by
  have h2:=OM b xs i;rw[fF,List.drop_succ_cons,dH,show dL (x::xs) (i+1)=dL xs i from rfl]
  cases i with
  |zero=>rw[show dL (x::xs) (0+1-1)=x.bH from rfl,iV];simp at h2 ⊢;omega
  |succ i=>rw[show dL (x::xs) (i+1+1-1)=dL xs i from rfl];simp at h2 ⊢;omega
theorem ahs(b:Bool):∀x:au,(uG b x).sz<=x.sz
 | .mk a l=>by
   rw[iV,jV];simp only[au.bH,au.aA];rw[uG];split
   ·rw[Co];simp[bE.fP,bE.aU,bE.fBody,wH]
   ·rename_i h;have hn:=YE l;have hb:=Ma b l;rw[Co];simp only[bE.fP,bE.aU,bE.fBody]
    obtain⟨x,m,y,rfl⟩:∃x m y,l=x::(m++[y]):=by
     cases l with
     |nil=>simp at h
     |cons x l=>
      have hl:l≠[]:=fun e=>by rw[e] at h;simp at h
      exact⟨x,l.dropLast,l.getLast hl,by rw[List.dropLast_concat_getLast]⟩
    rw[ahr] at *
    rw[show dL (x::(m++[y])) 0=x.bH from rfl,iV x];simp only[List.drop_succ_cons,List.drop_zero,List.dropLast_concat,List.length_cons,List.length_append,List.length_nil] at hn ⊢
    have hy:((x::(m++[y])).getLastD dh)=y:=by rw[<-List.cons_append,List.getLastD_eq_getLast?,List.getLast?_append];simp
    rw[hy] at hb;omega
theorem Sv(b:Bool):∀l:List au,zU (lI b l)<=dH l
 |[]=>by simp[lI,zU]
 |x::xs=>by
  have h1:=ahs b x;have h2:=Sv b xs;rw[lI,zU,dH];omega
theorem Ma(b:Bool):∀l:List au,((fF b l).getLastD mU).sz<=(l.getLastD dh).sz
 |[]=>by simp[fF,wH]
 |[x]=>by simpa [fF] using AO b x
 |x::y::l=>by
  have:=Ma b (y::l);simpa [fF] using this
end
def xK(s:List UInt8):Prop:=s.head? =some 45
instance (s:List UInt8):Decidable (xK s):=inferInstanceAs (Decidable (_=_))
def fC(s:List UInt8):List UInt8:=if xK s then s.tail else s
theorem zD:∀(l:List UInt8)(acc v:Nat),Lib.decFrom acc l=some v->∀b∈l,48<=b.toNat/\b.toNat<=57
 |[],_,_,_,b,hb=>by cases hb
 |a::l,acc,v,h,b,hb=>by
  rw[Lib.decFrom] at h
  cases hd:Lib.digitVal a with
  |none=>rw[hd] at h;cases h
  |some d=>
   rw[hd] at h;rcases List.mem_cons.1 hb with rfl|hb
   ·unfold Lib.digitVal at hd;split at hd
    ·assumption
    ·cases hd
   ·exact zD l _ v h b hb
theorem UG{b:UInt8}(h:48<=b.toNat/\b.toNat<=57):Lib.digitVal b=some (b.toNat-48):=if_pos h
theorem decFrom_take{t:List UInt8}{i acc:Nat}(hi:i<t.length)(h:Lib.decFrom 0 (t.take i)=some acc)(hd:48<=t[i].toNat/\t[i].toNat<=57):Lib.decFrom 0 (t.take (i+1))=some (acc*10+(t[i].toNat-48)):=by
 rw[List.take_succ_eq_append_getElem hi,BJ,h,UG hd];rfl
theorem He{s:List UInt8}{m:Int}(h:ji s=some m):(xK s<->m<0)/\fC s=Lib.decDigits m.natAbs/\1<=(fC s).length/\(fC s).length<=12:=by
 obtain⟨hr,he⟩:=L9 h;have hl:(Lib.decDigits m.natAbs).length<=12:=DW 11 _ (by omega);obtain⟨b,r,e,b1,b2⟩:=yG m.natAbs
 have hl1:1<=(Lib.decDigits m.natAbs).length:=by rw[e];simp
 unfold Lib.itoa at he;by_cases hn:m<0
 ·rw[if_pos hn] at he
  have hs:xK s:=by rw[<-he];rfl
  have hb:fC s=Lib.decDigits m.natAbs:=by unfold fC;rw[if_pos hs,<-he];rfl
  exact⟨⟨fun _=>hn,fun _=>hs⟩,hb,by rw[hb];exact⟨hl1,hl⟩⟩
 ·rw[if_neg hn,show m.toNat=m.natAbs by omega] at he
  have hs:¬xK s:=fun x=>by
   rw[<-he,e] at x;unfold xK at x;simp only[List.head?_cons,Option.some.injEq] at x;rw[x] at b1;revert b1;decide
  have hb:fC s=Lib.decDigits m.natAbs:=by unfold fC;rw[if_neg hs,<-he]
  exact⟨⟨fun x=>(hs x).elim,fun x=>(hn x).elim⟩,hb,by rw[hb];exact⟨hl1,hl⟩⟩
theorem vC{s:List UInt8}(h:(fC s).length<1\/12<(fC s).length):ji s=none:=by
 cases hr:ji s with
 |none=>rfl
 |some m=>have:=(He hr).2.2;omega
theorem CB{s:List UInt8}{i:Nat}(hi:i<(fC s).length)(h:¬(48<=(fC s)[i].toNat/\(fC s)[i].toNat<=57)):ji s=none:=by
 cases hr:ji s with
 |none=>rfl
 |some m=>
  have hk:=(He hr).2.1;have hd:=yF m.natAbs;rw[<-hk] at hd;exact absurd (zD _ _ _ hd _ (List.getElem_mem hi)) h
theorem OO{s:List UInt8}{v:Nat}(hv:Lib.decFrom 0 (fC s)=some v)(hb:v<=999999999999):ji s=if Lib.itoa (if xK s then -(v:Int) else v)=s then some (if xK s then -(v:Int) else v) else none:=by
 obtain⟨z,hz⟩:∃z,z=(if xK s then -(v:Int) else v):=⟨_,rfl⟩
 have hzb: -999999999999<=z/\z<=999999999999:=by rw[hz];split<;>omega
 rw[<-hz];by_cases h:Lib.itoa z=s
 ·rw[if_pos h]
  conv=>lhs;rw[<-h]
  exact L8 hzb
 ·rw[if_neg h]
  cases hr:ji s with
  |none=>rfl
  |some m=>
   have hk:=He hr;have hd:=yF m.natAbs;rw[<-hk.2.1,hv] at hd
   have hm:v=m.natAbs:=by simpa using hd
   have:z=m:=by
    rw[hz];by_cases hn:xK s
    ·have:=hk.1.1 hn;rw[if_pos hn];omega
    ·rw[if_neg hn];have:¬m<0:=fun x=>hn (hk.1.2 x);omega
   rw[this] at h;exact absurd (L9 hr).2 h
theorem UH(s:List UInt8)(hs:s.length<=1073741824):aX prog 274 [.c (.d (.s s)),.c (.d (.i .i64 12))] (.eD [(false,[.d (.i .i64 ((ji s).getD 0))]),(false,[.d (.b (ji s).isSome)])]):=fun S=>by
 have d0:ji s=none->V.eD [(false,[.d (.i .i64 0)]),(false,[.d (.b false)])]=.eD [(false,[.d (.i .i64 ((ji s).getD 0))]),(false,[.d (.b (ji s).isSome)])]:=fun e=>by rw[e];rfl
 refine zcx [.tmp 4,.tmp 5] func274 ntmps274 ?_;simp -implicitDefEqProofs (disch:=omega) only[go_sem]
 with_reducible refine aC (fun hb=> ?_) (fun hb=> ?_)<;>have h:=hb<;>(try simp only[wf_preprocess] at h)<;>simp -implicitDefEqProofs (disch:=omega) only[go_sem,hb]<;>(repeat(with_reducible refine And.intro ?_ ?_;focus first|omega|rfl|assumption|exact⟨_,rfl,rfl⟩|(simp;omega)|(simp;done)))
 ·have hpos:0<s.length:=by omega
  have h0:(s.getD 0 0).toNat=45<->xK s:=by
   cases s with
   |nil=>simp at hpos
   |cons b s=>
    unfold xK;simp only[List.getD_cons_zero,List.head?_cons,Option.some.injEq];constructor
    ·intro e;exact UInt8.toNat.inj e
    ·intro e;rw[e];rfl
  (repeat(with_reducible refine And.intro ?_ ?_;focus first|omega|rfl|assumption|exact⟨_,rfl,rfl⟩|(simp;omega)|(simp;done)))
  with_reducible refine aC (fun hb=> ?_) (fun hb=> ?_)<;>have h:=hb<;>(try simp only[wf_preprocess] at h)<;>simp -implicitDefEqProofs (disch:=omega) only[go_sem,hb]<;>(repeat(with_reducible refine And.intro ?_ ?_;focus first|omega|rfl|assumption|exact⟨_,rfl,rfl⟩|(simp;omega)|(simp;done)))
  ·have hn:xK s:=h0.1 (by omega)
   have hb:fC s=(s.take s.length).drop 1:=by unfold fC;rw[if_pos hn,List.take_length,List.drop_one]
   (repeat(with_reducible refine And.intro ?_ ?_;focus first|omega|rfl|assumption|exact⟨_,rfl,rfl⟩|(simp;omega)|(simp;done)))
   rw[<-hb]
   have hbl:(fC s).length<=s.length:=by rw[hb];simp
   with_reducible refine aC (fun hb=> ?_) (fun hb=> ?_)<;>have h:=hb<;>(try simp only[wf_preprocess] at h)<;>simp -implicitDefEqProofs (disch:=omega) only[go_sem,hb]<;>(repeat(with_reducible refine And.intro ?_ ?_;focus first|omega|rfl|assumption|exact⟨_,rfl,rfl⟩|(simp;omega)|(simp;done)))
   ·exact d0 (vC (by omega))
   with_reducible refine aC (fun hb=> ?_) (fun hb=> ?_)<;>have h:=hb<;>(try simp only[wf_preprocess] at h)<;>simp -implicitDefEqProofs (disch:=omega) only[go_sem,hb]<;>(repeat(with_reducible refine And.intro ?_ ?_;focus first|omega|rfl|assumption|exact⟨_,rfl,rfl⟩|(simp;omega)|(simp;done)))
   ·exact d0 (vC (by omega))
   have hl1:1<=(fC s).length:=by omega
   have hl12:(fC s).length<=12:=by omega
   refine bN (ι:=Nat×Nat) zmx rfl [0,6,7,8,9] (fun y=>[.c (.d (.s s)),.c (.d (.b true)),.c (.d (.s (fC s))),.c (.d (.i .i64 y.2)),.c (.d (.i .i64 y.1))]) (fun _=>[]::S)
    (fun y=>y.1<=(fC s).length/\Lib.decFrom 0 ((fC s).take y.1)=some y.2/\y.2<10^y.1) (fun y=>(fC s).length-y.1) (0,0) rfl rfl ⟨Nat.zero_le _,rfl,by decide⟩ ?_
   rintro⟨i,acc⟩ ⟨p1,p2,p3⟩;simp only at p1 p2 p3;have p4:10^i<=10^12:=Nat.pow_le_pow_right (by decide) (by omega);simp -implicitDefEqProofs (disch:=omega) only[go_sem]
   with_reducible refine aC (fun hb=> ?_) (fun hb=> ?_)<;>have h:=hb<;>(try simp only[wf_preprocess] at h)<;>simp -implicitDefEqProofs (disch:=omega) only[go_sem,hb]<;>(repeat(with_reducible refine And.intro ?_ ?_;focus first|omega|rfl|assumption|exact⟨_,rfl,rfl⟩|(simp;omega)|(simp;done)))
   ·have hi:i<(fC s).length:=by omega
    have e:(fC s).getD i 0=(fC s)[i]:=by simp[List.getD,hi]
    have hbb:=(fC s)[i].toNat_lt
    (repeat(with_reducible refine And.intro ?_ ?_;focus first|omega|rfl|assumption|exact⟨_,rfl,rfl⟩|(simp;omega)|(simp;done)))
    simp only[e]
    with_reducible refine aC (fun hb=> ?_) (fun hb=> ?_)<;>have h:=hb<;>(try simp only[wf_preprocess] at h)<;>simp -implicitDefEqProofs (disch:=omega) only[go_sem,hb]<;>(repeat(with_reducible refine And.intro ?_ ?_;focus first|omega|rfl|assumption|exact⟨_,rfl,rfl⟩|(simp;omega)|(simp;done)))
    ·exact d0 (CB hi (by omega))
    (repeat(with_reducible refine And.intro ?_ ?_;focus first|omega|rfl|assumption|exact⟨_,rfl,rfl⟩|(simp;omega)|(simp;done)))
    simp only[e]
    with_reducible refine aC (fun hb=> ?_) (fun hb=> ?_)<;>have h:=hb<;>(try simp only[wf_preprocess] at h)<;>simp -implicitDefEqProofs (disch:=omega) only[go_sem,hb]<;>(repeat(with_reducible refine And.intro ?_ ?_;focus first|omega|rfl|assumption|exact⟨_,rfl,rfl⟩|(simp;omega)|(simp;done)))
    ·exact d0 (CB hi (by omega))
    have hdg:48<=(fC s)[i].toNat/\(fC s)[i].toNat<=57:=by omega
    have ht:=decFrom_take hi p2 hdg
    have e2:(10:Int)*acc+(((fC s)[i].toNat:Int)-48)=((acc*10+((fC s)[i].toNat-48):Nat):Int):=by omega
    (repeat(with_reducible refine And.intro ?_ ?_;focus first|omega|rfl|assumption|exact⟨_,rfl,rfl⟩|(simp;omega)|(simp;done)))
    simp -implicitDefEqProofs (disch:=omega) only[go_sem,wrap_u8,e];rw[e2];exact bT (i+1,acc*10+((fC s)[i].toNat-48)) (by simp only;omega) rfl rfl ⟨by simp only;omega,ht,by simp only[Nat.pow_succ];omega⟩
   ·have hi:i=(fC s).length:=by omega
    have hv:Lib.decFrom 0 (fC s)=some acc:=by rw[hi,List.take_length] at p2;exact p2
    have FE:=OO hv (by omega);rw[if_pos hn] at FE;rw[show(0:Int)-acc= -(acc:Int) by omega];refine aB (vN (-(acc:Int)) (by omega) (by omega)) ?_;simp -implicitDefEqProofs (disch:=omega) only[go_sem]
    with_reducible refine aC (fun hb=> ?_) (fun hb=> ?_)<;>have h:=hb<;>(try simp only[wf_preprocess] at h)<;>simp -implicitDefEqProofs (disch:=omega) only[go_sem,hb]<;>(repeat(with_reducible refine And.intro ?_ ?_;focus first|omega|rfl|assumption|exact⟨_,rfl,rfl⟩|(simp;omega)|(simp;done)))
    ·exact d0 (FE.trans (if_neg h))
    ·rw[FE.trans (if_pos h)];rfl
  ·have hn:¬xK s:=fun x=>h (by rw[h0.2 x];rfl)
   have hbs:fC s=s:=by unfold fC;rw[if_neg hn]
   have hbl:(fC s).length=s.length:=by rw[hbs]
   with_reducible refine aC (fun hb=> ?_) (fun hb=> ?_)<;>have h:=hb<;>(try simp only[wf_preprocess] at h)<;>simp -implicitDefEqProofs (disch:=omega) only[go_sem,hb]<;>(repeat(with_reducible refine And.intro ?_ ?_;focus first|omega|rfl|assumption|exact⟨_,rfl,rfl⟩|(simp;omega)|(simp;done)))
   ·exact d0 (vC (by omega))
   with_reducible refine aC (fun hb=> ?_) (fun hb=> ?_)<;>have h:=hb<;>(try simp only[wf_preprocess] at h)<;>simp -implicitDefEqProofs (disch:=omega) only[go_sem,hb]<;>(repeat(with_reducible refine And.intro ?_ ?_;focus first|omega|rfl|assumption|exact⟨_,rfl,rfl⟩|(simp;omega)|(simp;done)))
   ·exact d0 (vC (by omega))
   have hl1:1<=(fC s).length:=by omega
   have hl12:(fC s).length<=12:=by omega
   refine bN (ι:=Nat×Nat) zmx rfl [0,6,7,8,9] (fun y=>[.c (.d (.s s)),.c (.d (.b false)),.c (.d (.s (fC s))),.c (.d (.i .i64 y.2)),.c (.d (.i .i64 y.1))]) (fun _=>[]::S)
    (fun y=>y.1<=(fC s).length/\Lib.decFrom 0 ((fC s).take y.1)=some y.2/\y.2<10^y.1) (fun y=>(fC s).length-y.1) (0,0) (by rw[hbs];rfl) rfl ⟨Nat.zero_le _,rfl,by decide⟩ ?_
   rintro⟨i,acc⟩ ⟨p1,p2,p3⟩;simp only at p1 p2 p3;have p4:10^i<=10^12:=Nat.pow_le_pow_right (by decide) (by omega);simp -implicitDefEqProofs (disch:=omega) only[go_sem]
   with_reducible refine aC (fun hb=> ?_) (fun hb=> ?_)<;>have h:=hb<;>(try simp only[wf_preprocess] at h)<;>simp -implicitDefEqProofs (disch:=omega) only[go_sem,hb]<;>(repeat(with_reducible refine And.intro ?_ ?_;focus first|omega|rfl|assumption|exact⟨_,rfl,rfl⟩|(simp;omega)|(simp;done)))
   ·have hi:i<(fC s).length:=by omega
    have e:(fC s).getD i 0=(fC s)[i]:=by simp[List.getD,hi]
    have hbb:=(fC s)[i].toNat_lt
    (repeat(with_reducible refine And.intro ?_ ?_;focus first|omega|rfl|assumption|exact⟨_,rfl,rfl⟩|(simp;omega)|(simp;done)))
    simp only[e]
    with_reducible refine aC (fun hb=> ?_) (fun hb=> ?_)<;>have h:=hb<;>(try simp only[wf_preprocess] at h)<;>simp -implicitDefEqProofs (disch:=omega) only[go_sem,hb]<;>(repeat(with_reducible refine And.intro ?_ ?_;focus first|omega|rfl|assumption|exact⟨_,rfl,rfl⟩|(simp;omega)|(simp;done)))
    ·exact d0 (CB hi (by omega))
    (repeat(with_reducible refine And.intro ?_ ?_;focus first|omega|rfl|assumption|exact⟨_,rfl,rfl⟩|(simp;omega)|(simp;done)))
    simp only[e]
    with_reducible refine aC (fun hb=> ?_) (fun hb=> ?_)<;>have h:=hb<;>(try simp only[wf_preprocess] at h)<;>simp -implicitDefEqProofs (disch:=omega) only[go_sem,hb]<;>(repeat(with_reducible refine And.intro ?_ ?_;focus first|omega|rfl|assumption|exact⟨_,rfl,rfl⟩|(simp;omega)|(simp;done)))
    ·exact d0 (CB hi (by omega))
    have hdg:48<=(fC s)[i].toNat/\(fC s)[i].toNat<=57:=by omega
    have ht:=decFrom_take hi p2 hdg
    have e2:(10:Int)*acc+(((fC s)[i].toNat:Int)-48)=((acc*10+((fC s)[i].toNat-48):Nat):Int):=by omega
    (repeat(with_reducible refine And.intro ?_ ?_;focus first|omega|rfl|assumption|exact⟨_,rfl,rfl⟩|(simp;omega)|(simp;done)))
    simp -implicitDefEqProofs (disch:=omega) only[go_sem,wrap_u8,e];rw[e2];exact bT (i+1,acc*10+((fC s)[i].toNat-48)) (by simp only;omega) rfl rfl ⟨by simp only;omega,ht,by simp only[Nat.pow_succ];omega⟩
   ·have hi:i=(fC s).length:=by omega
    have hv:Lib.decFrom 0 (fC s)=some acc:=by rw[hi,List.take_length] at p2;exact p2
    have FE:=OO hv (by omega);rw[if_neg hn] at FE;refine aB (vN ((acc:Int)) (by omega) (by omega)) ?_;simp -implicitDefEqProofs (disch:=omega) only[go_sem]
    with_reducible refine aC (fun hb=> ?_) (fun hb=> ?_)<;>have h:=hb<;>(try simp only[wf_preprocess] at h)<;>simp -implicitDefEqProofs (disch:=omega) only[go_sem,hb]<;>(repeat(with_reducible refine And.intro ?_ ?_;focus first|omega|rfl|assumption|exact⟨_,rfl,rfl⟩|(simp;omega)|(simp;done)))
    ·exact d0 (FE.trans (if_neg h))
    ·rw[FE.trans (if_pos h)];rfl
 ·have hs0:s=[]:=List.eq_nil_of_length_eq_zero (by omega)
  have hb0:(fC s).length=0:=by rw[hs0];rfl
  with_reducible refine aC (fun hb=> ?_) (fun hb=> ?_)<;>have h:=hb<;>(try simp only[wf_preprocess] at h)<;>simp -implicitDefEqProofs (disch:=omega) only[go_sem,hb]<;>(repeat(with_reducible refine And.intro ?_ ?_;focus first|omega|rfl|assumption|exact⟨_,rfl,rfl⟩|(simp;omega)|(simp;done)))
  ·exact d0 (vC (by omega))
  ·omega
theorem Mc(s:List UInt8)(hs:s.length<=1073741824):aX prog 262 [.c (.d (.s s))] (.eD [(false,[.d (.i .i64 ((ji s).getD 0))]),(false,[.d (.b (ji s).isSome)])]):=fun S=>by
 refine zcx [.tmp 2,.tmp 3] func262 ntmps262 ?_;simp -implicitDefEqProofs (disch:=omega) only[go_sem];refine aB (UH s hs) ?_;simp -implicitDefEqProofs (disch:=omega) only[go_sem]<;>(repeat(with_reducible refine And.intro ?_ ?_;focus first|omega|rfl|assumption|exact⟨_,rfl,rfl⟩|(simp;omega)|(simp;done)))
theorem ow(b:Bool)(x:au):fA b x=if x.bH=[] then
 if b=true/\(x.aA.length<2\/dL x.aA 0=jF/\x.aA.length<3) then mU
 else if dL x.aA 0=qb then .mk 4 [] (dL x.aA 1) 0 iL ((x.aA.map (fA b)).drop 2) []
 else if dL x.aA 0=uw then .mk 6 [] (dL x.aA 1) 0 iL ((x.aA.map (fA b)).drop 2) []
 else if dL x.aA 0=uy then .mk 8 [] (dL x.aA 1) 0 iL ((x.aA.map (fA b)).drop 2) []
 else if dL x.aA 0=qc then .mk 11 (dL x.aA 1) [] 0 iL ((x.aA.map (fA b)).drop 2) []
 else if dL x.aA 0=jF then .mk 5 (dL x.aA 1) (dL x.aA 2) 0 iL ((x.aA.map (fA b)).drop 3) []
 else if dL x.aA 0=zw then .mk 9 [] [] 0 iL ((x.aA.map (fA b)).drop 1) []
 else if dL x.aA 0=tq then .mk 12 [] [] 0 (eP b (x.aA.getD 1 dh)) ((x.aA.map (fA b)).drop 2) []
 else if dL x.aA 0=lV then .mk 7 [] [] 0 iL (((x.aA.map (fA b)).drop 1).take 1) ((x.aA.map (uG b)).drop 2)
 else .mk 10 [] (dL x.aA 0) 0 iL ((x.aA.map (fA b)).drop 1) []
 else match ji x.bH with
  |some n=>.mk 1 [] [] n iL [] []
  |none=>if x.bH=yT then .mk 2 [] [] 1 iL [] [] else if x.bH=xu then .mk 2 [] [] 0 iL [] [] else .mk 3 [] x.bH 0 iL [] []:=by
 cases x;rw[fA,zB,Cz];rfl
theorem aht(b:Bool)(x:au)(h:2<=x.aA.length):uG b x=.mk (dL x.aA 0) (gq ((x.aA.drop 1).dropLast)) (fA b (x.aA[x.aA.length-1]'(by omega))):=by
 obtain⟨a,l⟩:=x;simp only[au.aA] at h ⊢;rw[uG,if_neg (by omega),zB];congr 1;rw[List.getLastD_eq_getLast?,List.getLast?_eq_getElem?,List.length_map,List.getElem?_eq_getElem (by rw[List.length_map];omega)]
 simp
theorem ahu(b:Bool)(x:au)(h:x.aA.length<2):uG b x=.mk [] [] mU:=by
 obtain⟨a,l⟩:=x;rw[uG];exact if_pos h
def yV(b:Bool)(l:List au):Prop:=¬(b=true/\(l.length<2\/dL l 0=jF/\l.length<3))
theorem abl{b:Bool}{x:au}(ha:x.bH=[])(hg:yV b x.aA)(h:dL x.aA 0=qb):fA b x=.mk 4 [] (dL x.aA 1) 0 iL ((x.aA.drop 2).map (fA b)) []:=by
 rw[ow,if_pos ha,if_neg hg,if_pos h];simp only[List.map_drop,List.map_take]
theorem aeR{b:Bool}{x:au}(ha:x.bH=[])(hg:yV b x.aA)(h:dL x.aA 0=uw):fA b x=.mk 6 [] (dL x.aA 1) 0 iL ((x.aA.drop 2).map (fA b)) []:=by
 rw[ow,if_pos ha,if_neg hg,if_neg (by rw[h];decide),if_pos h];simp only[List.map_drop,List.map_take]
theorem aeS{b:Bool}{x:au}(ha:x.bH=[])(hg:yV b x.aA)(h:dL x.aA 0=uy):fA b x=.mk 8 [] (dL x.aA 1) 0 iL ((x.aA.drop 2).map (fA b)) []:=by
 rw[ow,if_pos ha,if_neg hg,if_neg (by rw[h];decide),if_neg (by rw[h];decide),if_pos h];simp only[List.map_drop,List.map_take]
theorem abm{b:Bool}{x:au}(ha:x.bH=[])(hg:yV b x.aA)(h:dL x.aA 0=qc):fA b x=.mk 11 (dL x.aA 1) [] 0 iL ((x.aA.drop 2).map (fA b)) []:=by
 rw[ow,if_pos ha,if_neg hg,if_neg (by rw[h];decide),if_neg (by rw[h];decide),if_neg (by rw[h];decide),if_pos h];simp only[List.map_drop,List.map_take]
theorem UJ{b:Bool}{x:au}(ha:x.bH=[])(hg:yV b x.aA)(h:dL x.aA 0=jF):fA b x=.mk 5 (dL x.aA 1) (dL x.aA 2) 0 iL ((x.aA.drop 3).map (fA b)) []:=by
 rw[ow,if_pos ha,if_neg hg,if_neg (by rw[h];decide),if_neg (by rw[h];decide),if_neg (by rw[h];decide),if_neg (by rw[h];decide),if_pos h];simp only[List.map_drop,List.map_take]
theorem ahv{b:Bool}{x:au}(ha:x.bH=[])(hg:yV b x.aA)(h:dL x.aA 0=zw):fA b x=.mk 9 [] [] 0 iL ((x.aA.drop 1).map (fA b)) []:=by
 rw[ow,if_pos ha,if_neg hg,if_neg (by rw[h];decide),if_neg (by rw[h];decide),if_neg (by rw[h];decide),if_neg (by rw[h];decide),if_neg (by rw[h];decide),if_pos h];simp only[List.map_drop,List.map_take]
theorem aeT{b:Bool}{x:au}(ha:x.bH=[])(hg:yV b x.aA)(h:dL x.aA 0=tq):fA b x=.mk 12 [] [] 0 (eP b (x.aA.getD 1 dh)) ((x.aA.drop 2).map (fA b)) []:=by
 rw[ow,if_pos ha,if_neg hg,if_neg (by rw[h];decide),if_neg (by rw[h];decide),if_neg (by rw[h];decide),if_neg (by rw[h];decide),if_neg (by rw[h];decide),if_neg (by rw[h];decide),if_pos h];simp only[List.map_drop,List.map_take]
theorem abn{b:Bool}{x:au}(ha:x.bH=[])(hg:yV b x.aA)(h:dL x.aA 0=lV):fA b x=.mk 7 [] [] 0 iL (((x.aA.drop 1).take 1).map (fA b)) ((x.aA.drop 2).map (uG b)):=by
 rw[ow,if_pos ha,if_neg hg,if_neg (by rw[h];decide),if_neg (by rw[h];decide),if_neg (by rw[h];decide),if_neg (by rw[h];decide),if_neg (by rw[h];decide),if_neg (by rw[h];decide),if_neg (by rw[h];decide),if_pos h];simp only[List.map_drop,List.map_take]
theorem abo{b:Bool}{x:au}(ha:x.bH=[])(hg:yV b x.aA)(h0:dL x.aA 0≠qb)(h1:dL x.aA 0≠uw)(h2:dL x.aA 0≠uy)(h3:dL x.aA 0≠qc)(h4:dL x.aA 0≠jF)(h5:dL x.aA 0≠zw)(h6:dL x.aA 0≠tq)(h7:dL x.aA 0≠lV):fA b x=.mk 10 [] (dL x.aA 0) 0 iL ((x.aA.drop 1).map (fA b)) []:=by
 rw[ow,if_pos ha,if_neg hg,if_neg h0,if_neg h1,if_neg h2,if_neg h3,if_neg h4,if_neg h5,if_neg h6,if_neg h7];simp only[List.map_drop,List.map_take]
theorem aeU{b:Bool}{x:au}{n:Int}(ha:x.bH≠[])(h:ji x.bH=some n):fA b x=.mk 1 [] [] n iL [] []:=by
 rw[ow,if_neg ha,h]
theorem abp{b:Bool}{x:au}(ha:x.bH≠[])(h:ji x.bH=none)(h1:x.bH=yT):fA b x=.mk 2 [] [] 1 iL [] []:=by
 rw[ow,if_neg ha,h];exact if_pos h1
theorem YF{b:Bool}{x:au}(ha:x.bH≠[])(h:ji x.bH=none)(h1:x.bH≠yT)(h2:x.bH=xu):fA b x=.mk 2 [] [] 0 iL [] []:=by
 rw[ow,if_neg ha,h];exact(if_neg h1).trans (if_pos h2)
theorem aeV{b:Bool}{x:au}(ha:x.bH≠[])(h:ji x.bH=none)(h1:x.bH≠yT)(h2:x.bH≠xu):fA b x=.mk 3 [] x.bH 0 iL [] []:=by
 rw[ow,if_neg ha,h];exact(if_neg h1).trans (if_neg h2)
def lE(l:List aD)(n:Nat):List (List D):=ig (l.map aD.enc) n
def CF(l:List aD):Nat:=wZ (l.map aD.enc)
def lM(l:List bE)(n:Nat):List (List D):=ig (l.map bE.enc) n
abbrev aD.vl(x:aD)(n:Nat):V:=.agg [.d (.i .i64 x.aV),.d (.s x.bW),.d (.s x.fName),.d (.i .i64 x.fN),.d (.i .i64 x.fType.aV),.d (.s x.fType.fName),.d (.ol n (lt x.fType.fArgs (n+1))),
 .d (.ol (n+(qD x.fType.fArgs+1)) (lE x.fArgs (n+(qD x.fType.fArgs+1)+1))),.d (.ol (n+(qD x.fType.fArgs+1)+(CF x.fArgs+1)) (lM x.bP (n+(qD x.fType.fArgs+1)+(CF x.fArgs+1)+1)))]
abbrev bE.vl(x:bE)(n:Nat):V:=.agg [.d (.s x.fP),.d (.ol n (x.aU.map encS)),.d (.i .i64 x.fBody.aV),.d (.s x.fBody.bW),.d (.s x.fBody.fName),.d (.i .i64 x.fBody.fN),.d (.i .i64 x.fBody.fType.aV),.d (.s x.fBody.fType.fName),.d (.ol (n+1) (lt x.fBody.fType.fArgs (n+1+1))),
 .d (.ol (n+1+(qD x.fBody.fType.fArgs+1)) (lE x.fBody.fArgs (n+1+(qD x.fBody.fType.fArgs+1)+1))),.d (.ol (n+1+(qD x.fBody.fType.fArgs+1)+(CF x.fBody.fArgs+1)) (lM x.fBody.bP (n+1+(qD x.fBody.fType.fArgs+1)+(CF x.fBody.fArgs+1)+1)))]
theorem abq{l:List aD}{i:Nat}(hi:i<l.length):(l.take i).map aD.enc++[l[i].enc]=(l.take (i+1)).map aD.enc:=by
 rw[List.take_succ_eq_append_getElem hi,List.map_append];rfl
theorem abr{l:List bE}{i:Nat}(hi:i<l.length):(l.take i).map bE.enc++[l[i].enc]=(l.take (i+1)).map bE.enc:=by
 rw[List.take_succ_eq_append_getElem hi,List.map_append];rfl
theorem se0{x:aD}{k N:Int}{tr nm:List UInt8}(h:x=.mk k tr nm N iL [] []):Less (.agg [.d (.i .i64 k),.d (.s tr),.d (.s nm),.d (.i .i64 N),.d (.i .i64 0),.d (.s []),.bM [],.bM [],.bM []]) x.v:=by
 rw[h];exact(gy.cons (.refl _) (.cons (.refl _) (.cons (.refl _) (.cons (.refl _) (.cons (.refl _) (.cons (.refl _) (.cons (eO _) (.cons (eO _) (.cons (eO _) .nil))))))))).less
theorem Sw{x:aD}{k N:Int}{tr nm:List UInt8}{args:List aD}(h:x=.mk k tr nm N iL args []):Less (.agg [.d (.i .i64 k),.d (.s tr),.d (.s nm),.d (.i .i64 N),.d (.i .i64 0),.d (.s []),.bM [],.d (.sl (args.map aD.enc)),.bM []]) x.v:=by
 rw[h];exact(gy.cons (.refl _) (.cons (.refl _) (.cons (.refl _) (.cons (.refl _) (.cons (.refl _) (.cons (.refl _) (.cons (eO _) (.cons (.refl _) (.cons (eO _) .nil))))))))).less
theorem se2{x:aD}{k N:Int}{tr nm:List UInt8}{ty:ay}{args:List aD}(h:x=.mk k tr nm N ty args []):Less (.agg [.d (.i .i64 k),.d (.s tr),.d (.s nm),.d (.i .i64 N),.d (.i .i64 ty.aV),.d (.s ty.fName),.d (.sl (ty.fArgs.map ay.enc)),.d (.sl (args.map aD.enc)),.bM []]) x.v:=by
 rw[h];exact(gy.cons (.refl _) (.cons (.refl _) (.cons (.refl _) (.cons (.refl _) (.cons (.refl _) (.cons (.refl _) (.cons (.refl _) (.cons (.refl _) (.cons (eO _) .nil))))))))).less
theorem se3{x:aD}{k N:Int}{tr nm:List UInt8}{args:List aD}{arms:List bE}(h:x=.mk k tr nm N iL args arms):Less (.agg [.d (.i .i64 k),.d (.s tr),.d (.s nm),.d (.i .i64 N),.d (.i .i64 0),.d (.s []),.bM [],.d (.sl (args.map aD.enc)),.d (.sl (arms.map bE.enc))]) x.v:=by
 rw[h];exact(gy.cons (.refl _) (.cons (.refl _) (.cons (.refl _) (.cons (.refl _) (.cons (.refl _) (.cons (.refl _) (.cons (eO _) (.cons (.refl _) (.cons (.refl _) .nil))))))))).less
theorem UK(l:List au)(i:Nat):((l.map au.enc).take l.length).drop (min i l.length)=(l.drop i).map au.enc:=by
 rw[G7 _ _ _ (Nat.le_refl _)];by_cases h:i<=l.length
 ·rw[Nat.min_eq_left h]
 ·rw[Nat.min_eq_right (by omega),List.drop_length,List.drop_of_length_le (by omega)]
theorem ahw(l:List au):((l.map au.enc).take (min 2 l.length)).drop 1=((l.drop 1).take 1).map au.enc:=by
 match l with
 |[]=>rfl
 |[x]=>rfl
 |x::y::l=>simp[show min 2 (l.length+1+1)=2 by omega]
theorem YG(l:List au)(i:Nat)(h:i<l.length+3):(l.map au.enc++([[.s [],.sl []],[.s [],.sl []],[.s [],.sl []]]:List (List D))).getD i []=[.s (dL l i),.sl ((l.getD i dh).aA.map au.enc)]:=by
 rw[List.getD_eq_getElem?_getD,List.getElem?_append];split
 ·rename_i hi;rw[List.length_map] at hi;rw[List.getElem?_map,List.getElem?_eq_getElem hi];simp only[Option.map_some,Option.getD_some];rw[au.aj,AJ hi,List.getD_eq_getElem?_getD,List.getElem?_eq_getElem hi];rfl
 ·rename_i hi;rw[List.length_map] at hi;rw[D8 (by omega),List.getD_eq_getElem?_getD,List.getElem?_eq_none (by omega:l.length<=i),List.length_map]
  have:i-l.length=0\/i-l.length=1\/i-l.length=2:=by omega
  rcases this with e|e|e<;>rw[e]<;>rfl
theorem abt(l:List au)(h:2<=l.length):((l.map au.enc).take ((l.length:Int)-1).toNat).drop 1=((l.drop 1).dropLast).map au.enc:=by
 rw[show((l.length:Int)-1).toNat=l.length-1 by omega,<-List.map_take,<-List.map_drop,List.dropLast_eq_take,List.length_drop,List.drop_take]
theorem uH(x:au)(i:Nat){m:Nat}(h:x.sz<=m):(x.aA.getD i dh).sz<=m:=by
 have:=yE x.aA i;have:=gM x;omega
theorem Jv{α:Type}[SizeOf α]:∀(i:Nat)(l:List α),SizeOf.sizeOf (l.take i)<=SizeOf.sizeOf l
 |0,[]=>by simp
 |0,x::l=>by rw[List.take_zero];simp only[List.cons.sizeOf_spec,List.nil.sizeOf_spec];omega
 |i+1,[]=>by simp
 |i+1,x::l=>by
  have:=Jv i l;rw[List.take_succ_cons];simp only[List.cons.sizeOf_spec];omega
theorem YH(n:Int):aX prog 144 [.c (.d (.i .i64 n))] (.agg [.d (.i .i64 1),.d (.s []),.d (.s []),.d (.i .i64 n),.d (.i .i64 0),.d (.s []),.bM [],.bM [],.bM []]):=fun S=>by
 refine zcx [.cell 2 115] func144 ntmps144 ?_;simp -implicitDefEqProofs (disch:=omega) only[go_sem]
theorem UL(s:List UInt8):aX prog 143 [.c (.d (.s s))] (.agg [.d (.i .i64 3),.d (.s []),.d (.s s),.d (.i .i64 0),.d (.i .i64 0),.d (.s []),.bM [],.bM [],.bM []]):=fun S=>by
 refine zcx [.cell 2 115] func143 ntmps143 ?_;simp -implicitDefEqProofs (disch:=omega) only[go_sem]
theorem Hf:∀N:Nat,(∀x:au,SizeOf.sizeOf x<N->x.sz<=4194304->aX prog 252 [x.v] (fA false x).v)/\
 (∀xs:List au,SizeOf.sizeOf xs<N->xs.length<=4194304->(∀t∈xs,t.sz<=4194304)->aX prog 263 [.c (.d (.sl (xs.map au.enc)))] (.c (.d (.sl ((xs.map (fA false)).map aD.enc)))))/\
 (∀x:au,SizeOf.sizeOf x<N->x.sz<=4194304->aX prog 264 [x.v] (uG false x).v)
 |0=>⟨fun x h=>by omega,fun x h=>by omega,fun x h=>by omega⟩
 |N+1=>by
  obtain⟨ih,DX,ihM⟩:=Hf N;refine⟨fun x hn hsz=>aX.of_le fun S=> ?_,fun xs hn hlen hsz S=> ?_,fun x hn hsz=>aX.of_le fun S=> ?_⟩
  ·have nO:=au.DC x;have h1:=gM x;have h2:=E8 x
   have hall:∀t∈x.aA,t.sz<=4194304:=fun t ht=>by have:=kQ ht;omega
   have hr:=jf (l:=x.aA);have hso:=fun i=>Jt i x.aA
   have hdl:∀i,(x.aA.drop i).length<=4194304:=fun i=>by rw[List.length_drop];omega
   have hda:∀i,∀t∈x.aA.drop i,t.sz<=4194304:=fun i t ht=>hall t (List.mem_of_mem_drop ht)
   have hg:yV false x.aA:=fun e=>by cases e.1
   refine zcx [.cell 2 115] func252 ntmps252 ?_;simp -implicitDefEqProofs (disch:=omega) only[go_sem]
   with_reducible refine aC (fun hb=> ?_) (fun hb=> ?_)<;>have h:=hb<;>(try simp only[wf_preprocess] at h)<;>simp -implicitDefEqProofs (disch:=omega) only[go_sem,hb]<;>(repeat(with_reducible refine And.intro ?_ ?_;focus first|omega|rfl|assumption|exact⟨_,rfl,rfl⟩|(simp;omega)|(simp;done)))
   ·have hne:=h;refine aB (Mc x.bH (by omega)) ?_
    cases hri:ji x.bH with
    |some m=>
     simp -implicitDefEqProofs (disch:=omega) only[go_sem,Option.getD_some,Option.isSome_some];refine aB (YH m) ?_;simp -implicitDefEqProofs (disch:=omega) only[go_sem];exact se0 (aeU hne hri)
    |none=>
     simp -implicitDefEqProofs (disch:=omega) only[go_sem,Option.getD_none,Option.isSome_none]
     with_reducible refine aC (fun hb=> ?_) (fun hb=> ?_)<;>have h:=hb<;>(try simp only[wf_preprocess] at h)<;>simp -implicitDefEqProofs (disch:=omega) only[go_sem,hb]<;>(repeat(with_reducible refine And.intro ?_ ?_;focus first|omega|rfl|assumption|exact⟨_,rfl,rfl⟩|(simp;omega)|(simp;done)))
     ·exact se0 (abp hne hri h)
     have k1:=h
     with_reducible refine aC (fun hb=> ?_) (fun hb=> ?_)<;>have h:=hb<;>(try simp only[wf_preprocess] at h)<;>simp -implicitDefEqProofs (disch:=omega) only[go_sem,hb]<;>(repeat(with_reducible refine And.intro ?_ ?_;focus first|omega|rfl|assumption|exact⟨_,rfl,rfl⟩|(simp;omega)|(simp;done)))
     ·exact se0 (YF hne hri k1 h)
     have k2:=h;refine aB (UL _) ?_;simp -implicitDefEqProofs (disch:=omega) only[go_sem];exact se0 (aeV hne hri k1 k2)
   have ha:=h;have l0:=YG x.aA 0 (by omega);have l1:=YG x.aA 1 (by omega);have l2:=YG x.aA 2 (by omega)
   have hm1:min (1:Int) (x.aA.length:Int)=((min 1 x.aA.length:Nat):Int):=by omega
   have hm2:min (2:Int) (x.aA.length:Int)=((min 2 x.aA.length:Nat):Int):=by omega
   have hm3:min (3:Int) (x.aA.length:Int)=((min 3 x.aA.length:Nat):Int):=by omega
   have hd:=fun i=>UK x.aA i;have hdd:=G7 x.aA x.aA.length 1 (Nat.le_refl _);simp -implicitDefEqProofs (disch:=omega) only[go_sem,l0,l1,l2]
   (repeat(with_reducible refine And.intro ?_ ?_;focus first|omega|rfl|assumption|exact⟨_,rfl,rfl⟩|(simp;omega)|(simp;done)))
   with_reducible refine aC (fun hb=> ?_) (fun hb=> ?_)<;>have h:=hb<;>(try simp only[wf_preprocess] at h)<;>simp -implicitDefEqProofs (disch:=omega) only[go_sem,hb,l0,l1,l2]<;>(repeat(with_reducible refine And.intro ?_ ?_;focus first|omega|rfl|assumption|exact⟨_,rfl,rfl⟩|(simp;omega)|(simp;done)))
   ·refine aB (rX _ _) ?_;rw[hm2];simp -implicitDefEqProofs (disch:=omega) only[go_sem];refine⟨⟨by omega,by omega,by omega,hr⟩,?_⟩;rw[hd];refine aB (DX (x.aA.drop 2) (by have:=hso 2;omega) (hdl 2) (hda 2)) ?_;simp -implicitDefEqProofs (disch:=omega) only[go_sem];exact Sw (abl ha hg h)
   have alc:=h
   with_reducible refine aC (fun hb=> ?_) (fun hb=> ?_)<;>have h:=hb<;>(try simp only[wf_preprocess] at h)<;>simp -implicitDefEqProofs (disch:=omega) only[go_sem,hb,l0,l1,l2]<;>(repeat(with_reducible refine And.intro ?_ ?_;focus first|omega|rfl|assumption|exact⟨_,rfl,rfl⟩|(simp;omega)|(simp;done)))
   ·refine aB (rX _ _) ?_;rw[hm3];simp -implicitDefEqProofs (disch:=omega) only[go_sem];refine⟨⟨by omega,by omega,by omega,hr⟩,?_⟩;rw[hd];refine aB (DX (x.aA.drop 3) (by have:=hso 3;omega) (hdl 3) (hda 3)) ?_;simp -implicitDefEqProofs (disch:=omega) only[go_sem];exact Sw (UJ ha hg h)
   have ahx:=h
   with_reducible refine aC (fun hb=> ?_) (fun hb=> ?_)<;>have h:=hb<;>(try simp only[wf_preprocess] at h)<;>simp -implicitDefEqProofs (disch:=omega) only[go_sem,hb,l0,l1,l2]<;>(repeat(with_reducible refine And.intro ?_ ?_;focus first|omega|rfl|assumption|exact⟨_,rfl,rfl⟩|(simp;omega)|(simp;done)))
   ·refine aB (rX _ _) ?_;rw[hm2];simp -implicitDefEqProofs (disch:=omega) only[go_sem];refine⟨⟨by omega,by omega,by omega,hr⟩,?_⟩;rw[hd];refine aB (DX (x.aA.drop 2) (by have:=hso 2;omega) (hdl 2) (hda 2)) ?_;simp -implicitDefEqProofs (disch:=omega) only[go_sem];exact Sw (aeR ha hg h)
   have nNew:=h
   with_reducible refine aC (fun hb=> ?_) (fun hb=> ?_)<;>have h:=hb<;>(try simp only[wf_preprocess] at h)<;>simp -implicitDefEqProofs (disch:=omega) only[go_sem,hb,l0,l1,l2]<;>(repeat(with_reducible refine And.intro ?_ ?_;focus first|omega|rfl|assumption|exact⟨_,rfl,rfl⟩|(simp;omega)|(simp;done)))
   ·refine aB (rX _ _) ?_;rw[hm2];simp -implicitDefEqProofs (disch:=omega) only[go_sem];refine⟨⟨by omega,by omega,by omega,hr⟩,?_⟩;rw[hd];refine aB (DX (x.aA.drop 2) (by have:=hso 2;omega) (hdl 2) (hda 2)) ?_;simp -implicitDefEqProofs (disch:=omega) only[go_sem];exact Sw (aeS ha hg h)
   have amY:=h
   with_reducible refine aC (fun hb=> ?_) (fun hb=> ?_)<;>have h:=hb<;>(try simp only[wf_preprocess] at h)<;>simp -implicitDefEqProofs (disch:=omega) only[go_sem,hb,l0,l1,l2]<;>(repeat(with_reducible refine And.intro ?_ ?_;focus first|omega|rfl|assumption|exact⟨_,rfl,rfl⟩|(simp;omega)|(simp;done)))
   ·have hpos:0<x.aA.length:=by
     rcases Nat.eq_zero_or_pos x.aA.length with e|e
     ·rw[D8 (by omega)] at h;cases h
     ·exact e
    refine⟨⟨by omega,by omega,hr⟩,?_⟩;rw[hdd];refine aB (DX (x.aA.drop 1) (by have:=hso 1;omega) (hdl 1) (hda 1)) ?_;simp -implicitDefEqProofs (disch:=omega) only[go_sem];exact Sw (ahv ha hg h)
   have nIf:=h
   with_reducible refine aC (fun hb=> ?_) (fun hb=> ?_)<;>have h:=hb<;>(try simp only[wf_preprocess] at h)<;>simp -implicitDefEqProofs (disch:=omega) only[go_sem,hb,l0,l1,l2]<;>(repeat(with_reducible refine And.intro ?_ ?_;focus first|omega|rfl|assumption|exact⟨_,rfl,rfl⟩|(simp;omega)|(simp;done)))
   ·refine aB (rX _ _) ?_;rw[hm2];simp -implicitDefEqProofs (disch:=omega) only[go_sem];refine⟨⟨by omega,by omega,by omega,hr⟩,?_⟩;rw[hd];refine aB (DX (x.aA.drop 2) (by have:=hso 2;omega) (hdl 2) (hda 2)) ?_;simp -implicitDefEqProofs (disch:=omega) only[go_sem];exact Sw (abm ha hg h)
   have ald:=h
   with_reducible refine aC (fun hb=> ?_) (fun hb=> ?_)<;>have h:=hb<;>(try simp only[wf_preprocess] at h)<;>simp -implicitDefEqProofs (disch:=omega) only[go_sem,hb,l0,l1,l2]<;>(repeat(with_reducible refine And.intro ?_ ?_;focus first|omega|rfl|assumption|exact⟨_,rfl,rfl⟩|(simp;omega)|(simp;done)))
   ·refine aB (mR (x.aA.getD 1 dh) (uH x 1 hsz)) ?_;simp -implicitDefEqProofs (disch:=omega) only[go_sem];refine aB (rX _ _) ?_;rw[hm2];simp -implicitDefEqProofs (disch:=omega) only[go_sem];refine⟨⟨by omega,by omega,by omega,hr⟩,?_⟩;rw[hd];refine aB (DX (x.aA.drop 2) (by have:=hso 2;omega) (hdl 2) (hda 2)) ?_;simp -implicitDefEqProofs (disch:=omega) only[go_sem];exact se2 (aeT ha hg h)
   have nThe:=h
   with_reducible refine aC (fun hb=> ?_) (fun hb=> ?_)<;>have h:=hb<;>(try simp only[wf_preprocess] at h)<;>simp -implicitDefEqProofs (disch:=omega) only[go_sem,hb,l0,l1,l2]<;>(repeat(with_reducible refine And.intro ?_ ?_;focus first|omega|rfl|assumption|exact⟨_,rfl,rfl⟩|(simp;omega)|(simp;done)))
   ·have hpos:0<x.aA.length:=by
     rcases Nat.eq_zero_or_pos x.aA.length with e|e
     ·rw[D8 (by omega)] at h;cases h
     ·exact e
    have hdec:=abn ha hg h;refine aB (rX _ _) ?_;rw[hm2];simp -implicitDefEqProofs (disch:=omega) only[go_sem];refine⟨⟨by omega,by omega,hr⟩,?_⟩;rw[ahw];refine aB (DX ((x.aA.drop 1).take 1) (by have:=hso 1;have:=Jv 1 (x.aA.drop 1);omega) (by rw[List.length_take];omega) (fun t ht=>hda 1 t (List.mem_of_mem_take ht))) ?_;simp -implicitDefEqProofs (disch:=omega) only[go_sem];obtain⟨Cb,amZ⟩:∃Cb,Cb=((x.aA.drop 1).take 1).map (fA false):=⟨_,rfl⟩;obtain⟨T,hT⟩:∃T:Nat->List (List D),T=fun k=>(((x.aA.drop 2).map (uG false)).take k).map bE.enc:=⟨_,rfl⟩
    have hT0:T 0=[]:=by rw[hT];rfl
    have jY:∀k,(T k).length<=k:=fun k=>by rw[hT];simp only[List.length_map];exact List.length_take_le _ _
    have hTs:∀k (hk:k+2<x.aA.length),T k++[(uG false x.aA[k+2]).enc]=T (k+1):=fun k hk=>by
     have:=abr (l:=(x.aA.drop 2).map (uG false)) (i:=k) (by rw[List.length_map,List.length_drop];omega);rw[List.getElem_map,List.getElem_drop] at this;rw[hT];simp only[Nat.add_comm 2 k] at this ⊢;exact this
    have hTe:T (x.aA.length-2)=((x.aA.drop 2).map (uG false)).map bE.enc:=by
     rw[hT];simp only
     rw[List.take_of_length_le (by simp)]
    clear hT;rw[<-amZ] at hdec ⊢;refine jr 3 8 11 _ rfl rfl ?_
    refine bN (ι:=Nat) zmx rfl [1,2,6,8,9] (fun k=>[.c (.ptr (0,0) 0),.c (.ptr (0,1) 0),.c (.d (.i .i64 x.aA.length)),.c (.ptr (0,3) 0),.c (.d (.i .i64 ((k+2:Nat):Int)))])
     (fun k=>[.box [.d (.s x.bH),.d (.sl (x.aA.map au.enc))],.box [.d (.i .i64 0),.d (.s []),.d (.s []),.d (.i .i64 0),.d (.i .i64 0),.d (.s []),.bM [],.bM [],.bM []],.tok 2 (x.aA.map au.enc++[[.s [],.sl []],[.s [],.sl []],[.s [],.sl []]]),
       .box [.d (.i .i64 7),.d (.s []),.d (.s []),.d (.i .i64 0),.d (.i .i64 0),.d (.s []),.bM [],.d (.sl (Cb.map aD.enc)),.bV (0,4) (T k)],.tok 11 (T k)]::S)
     (fun k=>k<=x.aA.length-2) (fun k=>x.aA.length-(k+2)) 0 rfl (by rw[hT0];rfl) (Nat.zero_le _) ?_
    intro k hk;have hlk:=jY k;clear l0 l1 l2;simp -implicitDefEqProofs (disch:=omega) only[go_sem]
    with_reducible refine aC (fun hb=> ?_) (fun hb=> ?_)<;>have h:=hb<;>(try simp only[wf_preprocess] at h)<;>simp -implicitDefEqProofs (disch:=omega) only[go_sem,hb]<;>(repeat(with_reducible refine And.intro ?_ ?_;focus first|omega|rfl|assumption|exact⟨_,rfl,rfl⟩|(simp;omega)|(simp;done)))
    ·have hk':k+2<x.aA.length:=by omega
     have hm:=List.getElem_mem hk';have hs:=hTs k hk';simp only[bE.aj,aD.aj,ay.aj,List.cons_append,List.nil_append] at hs
     (repeat(with_reducible refine And.intro ?_ ?_;focus first|omega|rfl|assumption|exact⟨_,rfl,rfl⟩|(simp;omega)|(simp;done)))
     refine aB (ihM x.aA[k+2] (by have:=List.sizeOf_lt_of_mem hm;omega) (hall _ hm)) ?_;simp -implicitDefEqProofs (disch:=omega) only[go_sem]
     (repeat(with_reducible refine And.intro ?_ ?_;focus first|omega|rfl|assumption|exact⟨_,rfl,rfl⟩|(simp;omega)|(simp;done)))
     rw[hs];exact bT (k+1) (by omega) rfl rfl (by omega)
    ·have hk':k=x.aA.length-2:=by omega
     subst hk';rw[hTe];exact se3 hdec
   have ale:=h;refine aB (rX _ _) ?_;rw[hm1];simp -implicitDefEqProofs (disch:=omega) only[go_sem];refine⟨⟨by omega,by omega,by omega,hr⟩,?_⟩;rw[hd];refine aB (DX (x.aA.drop 1) (by have:=hso 1;omega) (hdl 1) (hda 1)) ?_;simp -implicitDefEqProofs (disch:=omega) only[go_sem];exact Sw (abo ha hg alc nNew amY ald ahx nIf nThe ale)
  ·have YI:=fun(i:Nat) (hi:i<xs.length)=>abq (l:=xs.map (fA false)) (i:=i) (by rw[List.length_map];exact hi);refine zcx [.tmp 2] func263 ntmps263 ?_;simp -implicitDefEqProofs (disch:=omega) only[go_sem]
   (repeat(with_reducible refine And.intro ?_ ?_;focus first|omega|rfl|assumption|exact⟨_,rfl,rfl⟩|(simp;omega)|(simp;done)))
   refine kN 3 9 [] rfl (by simp) ?_
   refine bN (ι:=Nat) zmx rfl [0,3,4] (fun i=>[.c (.d (.sl (xs.map au.enc))),.c (.bV (0,0) (((xs.map (fA false)).take i).map aD.enc)),.c (.d (.i .i64 i))]) (fun i=>[.tok 9 (((xs.map (fA false)).take i).map aD.enc)]::S)
    (fun i=>i<=xs.length) (fun i=>xs.length-i) 0 rfl rfl (Nat.zero_le _) ?_
   intro i hi
   have hl:(((xs.map (fA false)).take i).map aD.enc).length<=i:=by rw[List.length_map];exact List.length_take_le _ _
   simp -implicitDefEqProofs (disch:=omega) only[go_sem]
   with_reducible refine aC (fun hb=> ?_) (fun hb=> ?_)<;>have h:=hb<;>(try simp only[wf_preprocess] at h)<;>simp -implicitDefEqProofs (disch:=omega) only[go_sem,hb]<;>(repeat(with_reducible refine And.intro ?_ ?_;focus first|omega|rfl|assumption|exact⟨_,rfl,rfl⟩|(simp;omega)|(simp;done)))
   ·have hi':i<xs.length:=by omega
    have hs:=YI i hi';rw[List.getElem_map] at hs;simp only[aD.aj,ay.aj,List.cons_append,List.nil_append] at hs
    (repeat(with_reducible refine And.intro ?_ ?_;focus first|omega|rfl|assumption|exact⟨_,rfl,rfl⟩|(simp;omega)|(simp;done)))
    refine aB (ih xs[i] (by have:=List.sizeOf_lt_of_mem (List.getElem_mem hi');omega) (hsz _ (List.getElem_mem hi'))) ?_;simp -implicitDefEqProofs (disch:=omega) only[go_sem]
    (repeat(with_reducible refine And.intro ?_ ?_;focus first|omega|rfl|assumption|exact⟨_,rfl,rfl⟩|(simp;omega)|(simp;done)))
    rw[hs];exact bT (i+1) (by omega) rfl rfl (by omega)
   ·have hi':i=(xs.map (fA false)).length:=by rw[List.length_map];omega
    rw[hi',List.take_length]
  ·have nO:=au.DC x;have h1:=gM x
   have hall:∀t∈x.aA,t.sz<=4194304:=fun t ht=>by have:=kQ ht;omega
   have hr:=jf (l:=x.aA);refine zcx [.cell 2 167] func264 ntmps264 ?_;simp -implicitDefEqProofs (disch:=omega) only[go_sem]
   with_reducible refine aC (fun hb=> ?_) (fun hb=> ?_)<;>have h:=hb<;>(try simp only[wf_preprocess] at h)<;>simp -implicitDefEqProofs (disch:=omega) only[go_sem,hb]<;>(repeat(with_reducible refine And.intro ?_ ?_;focus first|omega|rfl|assumption|exact⟨_,rfl,rfl⟩|(simp;omega)|(simp;done)))
   ·rw[ahu false x (by omega)];exact(gy.cons (.refl _) (.cons (eO _) (.cons (.refl _) (.cons (.refl _) (.cons (.refl _) (.cons (.refl _) (.cons (.refl _) (.cons (.refl _) (.cons (eO _) (.cons (eO _) (.cons (eO _) .nil))))))))))).less
   have hl2:2<=x.aA.length:=by omega
   have a0:=AJ (l:=x.aA) (i:=0) (by omega);have hm:=List.getElem_mem (l:=x.aA) (n:=x.aA.length-1) (by omega);rw[aht false x hl2,a0];refine⟨⟨by omega,by omega,hr⟩,?_⟩;rw[abt _ hl2];refine aB (BI ((x.aA.drop 1).dropLast) (by rw[List.length_dropLast,List.length_drop];omega)) ?_;simp -implicitDefEqProofs (disch:=omega) only[go_sem]
   (repeat(with_reducible refine And.intro ?_ ?_;focus first|omega|rfl|assumption|exact⟨_,rfl,rfl⟩|(simp;omega)|(simp;done)))
   have el:((x.aA.length:Int)-1).toNat=x.aA.length-1:=by omega
   simp only[el];refine aB (ih (x.aA[x.aA.length-1]) (by have:=List.sizeOf_lt_of_mem hm;omega) (hall _ hm)) ?_;simp -implicitDefEqProofs (disch:=omega) only[go_sem];exact jv _
theorem Dj(x:au)(hsz:x.sz<=4194304):aX prog 252 [x.v] (fA false x).v:=(Hf _).1 x (Nat.lt_succ_self _) hsz
end Go.Ab