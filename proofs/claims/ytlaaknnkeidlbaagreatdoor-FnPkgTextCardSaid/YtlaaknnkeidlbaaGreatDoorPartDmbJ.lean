/-
  SEVERAL TEXTS IN ONE (merged by program): contracts and models, each with its own heading.
-/
import Derived.Test.YtlaaknnkeidlbaaGreatDoorPartDmbI
open Go.Proofs Go.Proofs.Tryz
set_option linter.unusedSimpArgs false
set_option linter.unusedVariables false
set_option maxRecDepth 4000
namespace Go.Ab
def bN(s:List UInt8):ah:=.mk s []
def bH(l:List ah):ah:=.mk [] l
def aO(l:List (List UInt8)):List ah:=l.map bN
def eY:ah:=.mk [] []
theorem kM(s:List UInt8):(bN s).aQ=s:=rfl
theorem kN(s:List UInt8):(bN s).aj=[]:=rfl
theorem dZ(l:List ah):(bH l).aQ=[]:=rfl
theorem dw(l:List ah):(bH l).aj=l:=rfl
def II:List UInt8:=[100,121,110]
def jf:List UInt8:=[97,115,115,111,99]
mutual
def dn:ak->ah
 | .mk k n zs=>if k=1 then bN ([39]++n) else if k=4 then bH [bN II,bN n] else if k=2/\zs.length=0 then bN n else
   bH ((if k=3 then [bN jf] else [])++[bN n]++EB zs)
def EB:List ak->List ah
 |[]=>[]
 |t::ts=>dn t::EB ts
end
theorem wX:∀l,EB l=l.map dn
 |[]=>rfl
 |t::ts=>by rw[EB,List.map_cons,wX ts]
theorem ae7(x:ak):dn x=if x.aM=1 then bN ([39]++x.fName) else if x.aM=4 then bH [bN II,bN x.fName] else if x.aM=2/\x.fArgs.length=0 then bN x.fName else
 bH ((if x.aM=3 then [bN jf] else [])++[bN x.fName]++x.fArgs.map dn):=by
 cases x;rw[dn,wX];rfl
theorem wY{t:ak}(h:nZ t=true):formed t=true:=(gJ h).1
theorem jP(x:ah):x.sz=x.aQ.length+(x.aj.length+aP (x.aj.map ah.enc)):=by
 simp only[ah.sz,ah.aJ,bQ,D.sz,List.length_map];omega
def dA:List ah->Nat
 |[]=>0
 |x::xs=>x.sz+dA xs
theorem kZ:∀l,aP (l.map ah.enc)=dA l
 |[]=>rfl
 |x::xs=>by rw[List.map_cons,aP,dA,kZ xs];rfl
theorem gL:∀a b,dA (a++b)=dA a+dA b
 |[],b=>by simp[dA]
 |x::a,b=>by rw[List.cons_append,dA,dA,gL a b];omega
theorem kT{x:ah}:∀{l:List ah},x∈l->x.sz<=dA l
 |y::l,h=>by
  rw[dA];rcases List.mem_cons.1 h with rfl|h
  ·omega
  ·have:=kT h;omega
theorem jM(s:List UInt8):(bN s).sz=s.length:=by rw[jP];simp[bN,ah.aQ,ah.aj,aP]
theorem jl(l:List ah):(bH l).sz=l.length+dA l:=by rw[jP,kZ];simp[bH,ah.aQ,ah.aj]
theorem rC:∀l:List (List UInt8),dA (aO l)=(l.map List.length).sum
 |[]=>rfl
 |s::l=>by rw[aO,List.map_cons,dA,jM,<-aO,rC l,List.map_cons,List.sum_cons]
theorem jr(l:List (List UInt8)):(aO l).length=l.length:=by simp[aO]
theorem dH:∀l:List (List UInt8),aP (l.map encS)=(l.map List.length).sum
 |[]=>rfl
 |s::l=>by rw[List.map_cons,aP,dH l,List.map_cons,List.sum_cons];simp[encS,bQ,D.sz]
def rU:List ak->Nat
 |[]=>0
 |x::xs=>x.sz+rU xs
theorem AP:∀l,aP (l.map ak.enc)=rU l
 |[]=>rfl
 |x::xs=>by rw[List.map_cons,aP,rU,AP xs];rfl
theorem wZ(x:ak):x.sz=x.fName.length+(x.fArgs.length+rU x.fArgs):=by
 rw[<-AP];simp only[ak.sz,ak.aJ,bQ,D.sz,List.length_map];omega
mutual
theorem Cb:∀x:ak,(dn x).sz<=12+16*x.sz
 | .mk k n zs=>by
   have h:=Rt zs;rw[wZ];simp only[ak.fName,ak.fArgs];rw[dn];split
   ·rw[jM];simp;omega
   ·split
    ·rw[jl];simp[dA,jM,II];omega
    ·split
     ·rw[jM];omega
     ·rw[jl,gL,gL,List.length_append,List.length_append,wX,List.length_map,<-wX];split<;>simp[dA,jM,jf]<;>omega
theorem Rt:∀xs:List ak,dA (EB xs)<=12*xs.length+16*rU xs
 |[]=>by simp[EB,dA]
 |x::xs=>by
  have h1:=Cb x;have h2:=Rt xs;rw[EB,dA,rU,List.length_cons];omega
end
theorem PG(xs:List ak):dA (xs.map dn)<=12*xs.length+16*rU xs:=by rw[<-wX];exact Rt xs
def dh(b:UInt8):Bool:=decide (97<=b.toNat/\b.toNat<=122)||decide (48<=b.toNat/\b.toNat<=57)||decide (b∈([39,45,43,42,60,61,46]:List UInt8))
def validAtom(s:List UInt8):Bool:=s.all dh&&decide (1<=s.length/\s.length<=12)
mutual
def iE:ah->Bool
 | .mk a l=>if a=[] then jv l else validAtom a&&decide (l.length=0)
def jv:List ah->Bool
 |[]=>true
 |x::xs=>iE x&&jv xs
end
mutual
def lN:ah->Nat
 | .mk a l=>if a=[] then oH l+1 else 0
def oH:List ah->Nat
 |[]=>0
 |x::xs=>max (lN x) (oH xs)
end
mutual
def jU:ah->Nat
 | .mk _ l=>mH l+1
def mH:List ah->Nat
 |[]=>0
 |x::xs=>jU x+mH xs
end
theorem EC(x:ah):iE x=if x.aQ=[] then jv x.aj else validAtom x.aQ&&decide (x.aj.length=0):=by cases x;rw[iE];rfl
theorem SS(x:ah):lN x=if x.aQ=[] then oH x.aj+1 else 0:=by cases x;rw[lN];rfl
theorem WI(x:ah):jU x=mH x.aj+1:=by cases x;rw[jU];rfl
theorem PI:∀{l:List ah},(l.any fun t=> !iE t)= !jv l
 |[]=>rfl
 |t::ts=>by rw[List.any_cons,PI (l:=ts),jv];simp
theorem Dy:∀{l:List ah},jv l=true<->∀t∈l,iE t=true
 |[]=>by simp[jv]
 |t::ts=>by simp[jv,Dy (l:=ts)]
mutual
theorem F5:∀x:ah,lN x<=jU x
 | .mk a l=>by
   have:=Kn l;rw[lN,jU];split<;>omega
theorem Kn:∀l:List ah,oH l<=mH l
 |[]=>by simp[oH]
 |x::xs=>by
  have h1:=F5 x;have h2:=Kn xs;rw[oH,mH];omega
end
mutual
theorem WJ:∀x:ah,jU x<=x.sz+1
 | .mk a l=>by
   have:=SV l;rw[jP,jU,kZ];simp only[ah.aQ,ah.aj];omega
theorem SV:∀l:List ah,mH l<=l.length+dA l
 |[]=>by simp[mH]
 |x::xs=>by
  have h1:=WJ x;have h2:=SV xs;rw[mH,dA,List.length_cons];omega
end
def dV(x:ah):Bool:=iE x&&decide (lN x<=14/\jU x<=900)
mutual
theorem WK:∀x:ah,iE x=true->x.sz+1<=13*jU x
 | .mk a l=>fun h=>by
   rw[iE] at h;rw[jP,jU,kZ];simp only[ah.aQ,ah.aj];split at h
   ·rename_i ha;have:=SX l h;subst ha;simp only[List.length_nil];omega
   ·rw[Bool.and_eq_true,decide_eq_true_eq] at h;have h1:=h.1;unfold validAtom at h1;rw[Bool.and_eq_true,decide_eq_true_eq] at h1;have:l=[]:=List.eq_nil_of_length_eq_zero h.2;subst this;simp[dA];omega
theorem SX:∀l:List ah,jv l=true->l.length+dA l<=13*mH l
 |[],_=>by simp[dA]
 |x::xs,h=>by
  rw[jv,Bool.and_eq_true] at h;have h1:=WK x h.1;have h2:=SX xs h.2;rw[dA,mH,List.length_cons];omega
end
theorem uN{x:ah}(h:dV x=true):x.sz<=11700:=by
 unfold dV at h;rw[Bool.and_eq_true,decide_eq_true_eq] at h;have:=WK x h.1;omega
def uO(x:ah):ah:=if dV x=true then x else eY
def vv:Bool->ah->ah
 |true,x=>uO x
 |false,_=>eY
theorem anM(x:ah):(uO x).sz<=11700:=by
 unfold uO;split
 ·rename_i h;exact uN h
 ·rw[jP];simp[eY,ah.aQ,ah.aj,aP]
theorem alB(b:Bool)(x:ah):(vv b x).sz<=11700:=by
 cases b with
 |true=>exact anM x
 |false=>rw[vv,jP];simp[eY,ah.aQ,ah.aj,aP]
theorem ae8(b:UInt8):decide (firstIdx ⟨[39,45,43,42,60,61,46].toArray⟩ b>=0)=decide (b∈([39,45,43,42,60,61,46]:List UInt8)):=by
 have h:∀n:Nat,n<256->decide (firstIdx ⟨[39,45,43,42,60,61,46].toArray⟩ (UInt8.ofNat n)>=0)=decide (UInt8.ofNat n∈([39,45,43,42,60,61,46]:List UInt8)):=by decide +kernel
 have h1:=h b.toNat (UInt8.toNat_lt b)
 rwa [UInt8.ofNat_toNat] at h1
theorem aiu(b:UInt8):b∈([39,45,43,42,60,61,46]:List UInt8)<->(b.toNat=39\/b.toNat=45\/b.toNat=43\/b.toNat=42\/b.toNat=60\/b.toNat=61\/b.toNat=46):=by
 have h:∀n:Nat,n<256->(UInt8.ofNat n∈([39,45,43,42,60,61,46]:List UInt8)<->(n=39\/n=45\/n=43\/n=42\/n=60\/n=61\/n=46)):=by decide +kernel
 have h1:=h b.toNat (UInt8.toNat_lt b)
 rwa [UInt8.ofNat_toNat] at h1
theorem w9(b:UInt8):dh b=true<->(97<=b.toNat/\b.toNat<=122)\/(48<=b.toNat/\b.toNat<=57)\/b.toNat=39\/b.toNat=45\/b.toNat=43\/b.toNat=42\/b.toNat=60\/b.toNat=61\/b.toNat=46:=by
 unfold dh;rw[Bool.or_eq_true,Bool.or_eq_true,decide_eq_true_eq,decide_eq_true_eq,decide_eq_true_eq,aiu,or_assoc]
theorem all_false{s:List UInt8}{i:Nat}(hi:i<s.length)(h:dh s[i]=false):s.all dh=false:=by
 rw[List.all_eq_false];exact⟨s[i],List.getElem_mem hi,by simp[h]⟩
theorem all_true{s:List UInt8}(h:∀j (hj:j<s.length),dh s[j]=true):s.all dh=true:=by
 rw[List.all_eq_true];intro b hb;obtain⟨j,hj,e⟩:=List.getElem_of_mem hb;rw[<-e];exact h j hj
theorem AQ{x:ah}{i:Nat}(hi:i<x.aj.length)(h:x.sz<=67108864):x.aj[i].sz<=67108864/\x.aj.length<=67108864/\x.aQ.length<=67108864:=by
 have:=kT (List.getElem_mem hi);rw[jP,kZ] at h;omega
theorem ED{x:ah}(h:x.sz<=67108864):x.aj.length<=67108864/\x.aQ.length<=67108864:=by
 rw[jP,kZ] at h;omega
theorem YV{l:List ah}{i:Nat}(hi:i<l.length):jv (l.drop i)=(iE l[i]&&jv (l.drop (i+1))):=by rw[List.drop_eq_getElem_cons hi,jv]
theorem Ko{l:List ah}{i:Nat}(hi:i<l.length):oH (l.drop i)=max (lN l[i]) (oH (l.drop (i+1))):=by rw[List.drop_eq_getElem_cons hi,oH]
theorem MH{l:List ah}{i:Nat}(hi:i<l.length):mH (l.drop i)=jU l[i]+mH (l.drop (i+1)):=by rw[List.drop_eq_getElem_cons hi,mH]
theorem Nr{x:ah}(h:x.sz<=67108864):jU x<=67108865:=by have:=WJ x;omega
theorem ah.LM{x:ah}{i:Nat}(hi:i<x.aj.length):SizeOf.sizeOf x.aj[i]<SizeOf.sizeOf x:=by
 have:=List.sizeOf_lt_of_mem (List.getElem_mem hi);have:=ah.DV x;omega
theorem PK(l:List UInt8)(b:UInt8):aF prog 174 [.c (.d (.s l)),.c (.d (.i .u8 b.toNat))] (.c (.d (.i .i64 (firstIdx ⟨l.toArray⟩ b)))):=fun S=>by
 refine zcx [.tmp 4] func174 ntmps174 ?_;refine W1 ?_;exact C4 (Km l b)
theorem Cy(b:UInt8):aF prog 82 [.c (.d (.i .u8 b.toNat))] (.c (.d (.b (dh b)))):=fun S=>by
 refine zcx [.tmp 2] func82 ntmps82 ?_;refine W1 ?_;refine C2 (Pk b) ?_;refine S0 (fun hb h=>?_) fun hb h=>?_
 ·exact aI ((w9 b).2 (.inl h)).symm
 have h1:=h;refine C2 (Pm b) ?_;refine S0 (fun hb h=>?_) fun hb h=>?_
 ·exact aI ((w9 b).2 (.inr (.inl h))).symm
 have h2:=h;refine C2 (PK [39,45,43,42,60,61,46] b) ?_;refine aI ?_;rw[ae8];unfold dh;unfold lowerB at h1;unfold sO at h2;simp[h1,h2]
theorem abV(s:List UInt8)(hs:s.length<=1073741824):aF prog 177 [.c (.d (.s s))] (.c (.d (.b (validAtom s)))):=fun S=>by
 refine zcx [.tmp 2] func177 ntmps177 ?_;refine W1 ?_
 refine aZ (ι:=Nat) zmx rfl [0,5,6] (fun i=>[.c (.d (.s s)),.c (.d (.i .i64 s.length)),.c (.d (.i .i64 i))]) (fun _=>[]::S)
  (fun i=>i<=s.length/\∀j,∀hj:j<s.length,j<i->dh s[j]=true) (fun i=>s.length-i) 0 rfl rfl ⟨Nat.zero_le _,fun j _ h=>by omega⟩ ?_
 rintro i ⟨p1,p2⟩;refine W1 ?_;refine S0 (fun hb h=>?_) fun hb h=>?_
 ·have hi:i<s.length:=by omega
  have e:s.getD i 0=s[i]:=by simp[List.getD,hi]
  refine W3 ?_;rw[e];refine C2 (Cy s[i]) ?_;refine S0 (fun hb h=>?_) fun hb h=>?_
  ·exact aI (by unfold validAtom;rw[all_false hi h];rfl)
  ·refine dB (i+1) (by omega) rfl rfl ⟨by omega,fun j hj hji=> ?_⟩;by_cases e':j=i
   ·subst e';exact h
   ·exact p2 j hj (by omega)
 ·have ha:=all_true (s:=s) (fun j hj=>p2 j hj (by omega));refine S0 (fun hb h=>?_) fun hb h=>?_
  ·refine aI ?_;unfold validAtom;rw[ha,Bool.true_and];exact decide_eq_decide.2 (by omega)
  ·refine aI ?_;unfold validAtom;rw[ha,Bool.true_and];exact(decide_eq_false (by omega)).symm
theorem ae9(b:UInt8):aF prog 227 [.c (.d (.i .u8 b.toNat))] (.c (.d (.b (dh b)))):=fun S=>by
 have yes:((97<=b.toNat/\b.toNat<=122)\/(48<=b.toNat/\b.toNat<=57)\/b.toNat=39\/b.toNat=45\/b.toNat=43\/b.toNat=42\/b.toNat=60\/b.toNat=61\/b.toNat=46)->dh b=true:=(w9 b).2
 have no:¬((97<=b.toNat/\b.toNat<=122)\/(48<=b.toNat/\b.toNat<=57)\/b.toNat=39\/b.toNat=45\/b.toNat=43\/b.toNat=42\/b.toNat=60\/b.toNat=61\/b.toNat=46)->dh b=false:=fun h=>by
  cases hb:dh b with
  |false=>rfl
  |true=>exact absurd ((w9 b).1 hb) h
 refine zcx [.tmp 2] func227 ntmps227 ?_;refine W1 ?_
 repeat' (first|(refine S0 (fun hb h=>?_) fun hb h=>?_))
 all_goals first
  |exact aI (yes (by omega)).symm
  |exact aI (no (by omega)).symm
  |(refine aI ?_;cases hb:dh b<;>simp only[decide_eq_true_eq,decide_eq_false_iff_not]<;>(first|(have:=(w9 b).1 hb;omega)|(intro q;have:=yes (by omega);rw[hb] at this;cases this)))
theorem abW(s:List UInt8)(hs:s.length<=1073741824):aF prog 193 [.c (.d (.s s))] (.c (.d (.b (validAtom s)))):=fun S=>by
 refine zcx [.tmp 2] func193 ntmps193 ?_;refine W1 ?_
 refine aZ (ι:=Nat) zmx rfl [0,3] (fun i=>[.c (.d (.s s)),.c (.d (.i .i64 i))]) (fun _=>[]::S)
  (fun i=>i<=s.length/\∀j,∀hj:j<s.length,j<i->dh s[j]=true) (fun i=>s.length-i) 0 rfl rfl ⟨Nat.zero_le _,fun j _ h=>by omega⟩ ?_
 rintro i ⟨p1,p2⟩;refine W1 ?_;refine S0 (fun hb h=>?_) fun hb h=>?_
 ·have hi:i<s.length:=by omega
  have e:s.getD i 0=s[i]:=by simp[List.getD,hi]
  refine W3 ?_;rw[e];refine C2 (ae9 s[i]) ?_;refine S0 (fun hb h=>?_) fun hb h=>?_
  ·exact aI (by unfold validAtom;rw[all_false hi h];rfl)
  ·refine dB (i+1) (by omega) rfl rfl ⟨by omega,fun j hj hji=> ?_⟩;by_cases e':j=i
   ·subst e';exact h
   ·exact p2 j hj (by omega)
 ·have ha:=all_true (s:=s) (fun j hj=>p2 j hj (by omega));refine C2 (GN s.length 1 12) ?_;refine aI ?_;unfold validAtom;rw[ha,Bool.true_and,<-lH];exact decide_eq_decide.2 (by omega)
theorem Kq:∀n:Nat,(∀x:ah,SizeOf.sizeOf x<n->x.sz<=67108864->aF prog 89 [x.v] (.c (.d (.b (iE x)))))/\
 (∀xs:List ah,SizeOf.sizeOf xs<n->xs.length<=67108864->(∀t∈xs,t.sz<=67108864)->aF prog 178 [.c (.d (.sl (xs.map ah.enc))),.c (.fn 179 [])] (.c (.d (.b (!jv xs)))))
 |0=>⟨fun x h=>by omega,fun x h=>by omega⟩
 |n+1=>by
  obtain⟨ih,uM⟩:=Kq n;refine⟨fun x hn hsz S=> ?_,fun xs hn hlen hsz S=> ?_⟩
  ·have kV:=ah.DV x;have hts:=ED hsz
   have hall:∀t∈x.aj,t.sz<=67108864:=fun t ht=>by
    obtain⟨i,hi,e⟩:=List.getElem_of_mem ht;rw[<-e];exact(AQ hi hsz).1
   have tail:=uM x.aj (by omega) hts.1 hall;have hf:=EC x;refine zcx [.tmp 2] func89 ntmps89 ?_;refine W1 ?_;refine S0 (fun hb h=>?_) fun hb h=>?_
   ·rw[if_neg h] at hf;refine C2 (abV x.aQ (by omega)) ?_;refine S0 (fun hb h=>?_) fun hb h=>?_
    ·rw[hf,h,Bool.true_and];exact aI (decide_eq_decide.2 (by omega))
    ·rw[hf,h,Bool.false_and]
   ·rw[if_pos h] at hf;refine bD tail ?_;refine W1 ?_;rw[hf,Bool.not_not]
  ·have hcl:∀y∈xs,aF prog 179 [y.v] (.c (.d (.b (!iE y)))):=fun y hy S=>by
    have hys:=List.sizeOf_lt_of_mem hy;refine zcx [.tmp 2] func179 ntmps179 ?_;refine W1 ?_;exact C4 (ih y (by omega) (hsz y hy))
   have hidx:aF prog 237 [.c (.d (.sl (xs.map ah.enc))),.c (.fn 179 [])] (.c (.d (.i .i64 (uE (fun y=> !iE y) xs)))):=fun S=>by
    refine zcx [.tmp 4] func237 ntmps237 ?_;refine W1 ?_
    refine aZ (ι:=Nat) zmx rfl [0,1,7,8] (fun i=>[.c (.d (.sl (xs.map ah.enc))),.c (.fn 179 []),.c (.d (.i .i64 xs.length)),.c (.d (.i .i64 i))]) (fun _=>[]::S)
     (fun i=>i<=xs.length/\∀j,∀hj:j<xs.length,j<i->iE xs[j]=true) (fun i=>xs.length-i) 0 rfl rfl ⟨Nat.zero_le _,fun j _ h=>by omega⟩ ?_
    rintro i ⟨p1,p2⟩;refine W1 ?_;refine S0 (fun hb h=>?_) fun hb h=>?_
    ·have hi:i<xs.length:=by omega
     refine W3 ?_;refine C2 (hcl xs[i] (List.getElem_mem hi)) ?_;refine S0 (fun hb h=>?_) fun hb h=>?_
     ·rw[tL hi (fun j hj hji=>by rw[p2 j hj hji];rfl) (by rw[h];rfl)]
     ·refine dB (i+1) (by omega) rfl rfl ⟨by omega,fun j hj hji=> ?_⟩;by_cases e:j=i
      ·subst e;exact h
      ·exact p2 j hj (by omega)
    ·rw[wU (fun j hj=>by rw[p2 j hj (by omega)];rfl)]
   refine zcx [.tmp 4] func178 ntmps178 ?_;refine W1 ?_;refine C2 (hidx) ?_;rw[<-PI];exact aI vg
theorem YW(x:ah)(hsz:x.sz<=67108864):aF prog 89 [x.v] (.c (.d (.b (iE x)))):=(Kq _).1 x (Nat.lt_succ_self _) hsz
theorem GU:∀n:Nat,∀x:ah,SizeOf.sizeOf x<n->x.sz<=67108864->aF prog 90 [x.v] (.c (.d (.i .i64 (lN x))))
 |0=>fun x h=>by omega
 |n+1=>by
  have ih:=GU n;intro x hn hsz S;have hts:=ED hsz;have hd:=SS x;have hd1:=F5 x;have hd2:=Nr hsz;refine zcx [.tmp 2] func90 ntmps90 ?_;refine W1 ?_;refine S0 (fun hb h=>?_) fun hb h=>?_
  ·rw[if_neg h] at hd;rw[hd];rfl
  rw[if_pos h] at hd
  refine aZ (ι:=Nat×Nat) zmx rfl [3,10,11,12] (fun y=>[.c (.d (.i .i64 y.2)),.c (.d (.sl (x.aj.map ah.enc))),.c (.d (.i .i64 x.aj.length)),.c (.d (.i .i64 y.1))]) (fun y=>[.box [.d (.s x.aQ),.d (.sl (x.aj.map ah.enc))]]::S)
   (fun y=>y.1<=x.aj.length/\lN x=max y.2 (oH (x.aj.drop y.1))+1) (fun y=>x.aj.length-y.1) (0,0) rfl rfl ⟨Nat.zero_le _,by simp[hd]⟩ ?_
  rintro⟨i,c⟩ ⟨p1,p2⟩;simp only at p1 p2;refine W1 ?_;refine S0 (fun hb h=>?_) fun hb h=>?_
  ·have hi:i<x.aj.length:=by omega
   have hsz':=AQ hi hsz;rw[Ko hi] at p2;refine W3 ?_;refine C2 (ih x.aj[i] (by have:=ah.LM hi;omega) (by omega)) ?_;rw[show max (c:Int) ((lN x.aj[i]:Int))=((max c (lN x.aj[i]):Nat):Int) by omega];exact bT 1 (by decide) (i+1,max c (lN x.aj[i])) (by simp only;omega) rfl rfl rfl rfl ⟨by simp only;omega,by simp only;omega⟩
  ·have hi:i=x.aj.length:=by omega
   rw[hi,List.drop_length,oH] at p2;refine W3 ?_;exact int_eq (by omega)
theorem Um(x:ah)(hsz:x.sz<=67108864):aF prog 90 [x.v] (.c (.d (.i .i64 (lN x)))):=GU _ x (Nat.lt_succ_self _) hsz
theorem Jt:∀n:Nat,∀x:ah,SizeOf.sizeOf x<n->x.sz<=67108864->aF prog 91 [x.v] (.c (.d (.i .i64 (jU x))))
 |0=>fun x h=>by omega
 |n+1=>by
  have ih:=Jt n;intro x hn hsz S;have hts:=ED hsz;have hd2:=Nr hsz;refine zcx [.tmp 2] func91 ntmps91 ?_;refine W1 ?_
  refine aZ (ι:=Nat×Nat) zmx rfl [3,7,8,9] (fun y=>[.c (.d (.i .i64 y.2)),.c (.d (.sl (x.aj.map ah.enc))),.c (.d (.i .i64 x.aj.length)),.c (.d (.i .i64 y.1))]) (fun y=>[.box [.d (.s x.aQ),.d (.sl (x.aj.map ah.enc))]]::S)
   (fun y=>y.1<=x.aj.length/\jU x=y.2+mH (x.aj.drop y.1)) (fun y=>x.aj.length-y.1) (0,1) rfl rfl ⟨Nat.zero_le _,by simp[WI];omega⟩ ?_
  rintro⟨i,c⟩ ⟨p1,p2⟩;simp only at p1 p2;refine W1 ?_;refine S0 (fun hb h=>?_) fun hb h=>?_
  ·have hi:i<x.aj.length:=by omega
   have hsz':=AQ hi hsz;rw[MH hi] at p2;refine W3 ?_;refine C2 (ih x.aj[i] (by have:=ah.LM hi;omega) (by omega)) ?_;rw[show(c:Int)+(jU x.aj[i]:Int)=((c+jU x.aj[i]:Nat):Int) by omega];exact bT 1 (by decide) (i+1,c+jU x.aj[i]) (by simp only;omega) rfl rfl rfl rfl ⟨by simp only;omega,by simp only;omega⟩
  ·have hi:i=x.aj.length:=by omega
   rw[hi,List.drop_length,mH] at p2;exact int_eq (by omega)
theorem WL(x:ah)(hsz:x.sz<=67108864):aF prog 91 [x.v] (.c (.d (.i .i64 (jU x)))):=Jt _ x (Nat.lt_succ_self _) hsz
theorem qy(x:ah)(hsz:x.sz<=67108864):aF prog 38 [x.v] (.c (.d (.b (dV x)))):=fun S=>by
 refine zcx [.tmp 2] func38 ntmps38 ?_;refine W1 ?_;refine C2 (YW x hsz) ?_;refine S0 (fun hb h=>?_) fun hb h=>?_
 ·have hf:=h;refine C2 (Um x hsz) ?_;refine S0 (fun hb h=>?_) fun hb h=>?_
  ·refine C2 (WL x hsz) ?_;refine aI ?_;unfold dV;rw[hf,Bool.true_and];exact decide_eq_decide.2 (by omega)
  ·refine aI ?_;unfold dV;rw[hf,Bool.true_and];exact(decide_eq_false (by omega)).symm
 ·refine aI ?_;unfold dV;rw[h,Bool.false_and]
theorem PN:∀n:Nat,∀x:ah,SizeOf.sizeOf x<n->∀l:Int,0<=l->l<=1073741824->x.sz<=67108864->aF prog 104 [x.v,.c (.d (.i .i64 l))] (.c (.d (.i .i64 (oF l (jU x)))))
 |0=>fun x h=>by omega
 |n+1=>by
  have ih:=PN n;intro x hn l h0 h1 hsz S;have hts:=ED hsz;have hcn:=WI x;refine zcx [.tmp 4] func104 ntmps104 ?_;refine W1 ?_
  refine aZ (ι:=Nat×Int) zmx rfl [1,2,5] (fun y=>[.c (.d (.i .i64 y.2)),.c (.ptr (0,0) 0),.c (.d (.i .i64 y.1))]) (fun y=>[.box [.d (.s x.aQ),.d (.sl (x.aj.map ah.enc))]]::S)
   (fun y=>y.1<=x.aj.length/\ -1<=y.2/\y.2<=1073741824/\(0<=y.2->oF l (jU x)=oF y.2 (mH (x.aj.drop y.1)))/\(y.2<0->oF l (jU x)= -1)) (fun y=>x.aj.length-y.1) (0,l-1) rfl rfl ⟨Nat.zero_le _,by simp only;omega,by simp only;omega,fun h=> ?_,fun h=> ?_⟩ ?_
  ·simp only[List.drop_zero] at h ⊢;unfold oF;rw[hcn];split<;>split<;>omega
  ·simp only at h;exact LC (by omega)
  rintro⟨i,c⟩ ⟨p1,p2,p3,p4,p5⟩;simp only at p1 p2 p3 p4 p5;refine W1 ?_;refine S0 (fun hb h=>?_) fun hb h=>?_
  ·have hi:i<x.aj.length:=by omega
   refine S0 (fun hb h=>?_) fun hb h=>?_
   ·have hsz':=AQ hi hsz;have p6:=p4 h;rw[MH hi] at p6;refine W3 ?_;refine C2 (ih x.aj[i] (by have:=ah.LM hi;omega) c (by omega) (by omega) (by omega)) ?_;refine dB (i+1,oF c _) (by simp only;omega) rfl rfl ⟨by simp only;omega,?_,?_,fun h=> ?_,fun h=> ?_⟩
    ·simp only;unfold oF;split<;>omega
    ·simp only;unfold oF;split<;>omega
    ·simp only at h ⊢;rw[p6];have:=LB (l:=c) (a:=jU x.aj[i]) (by omega);rw[this.1];unfold oF;split<;>split<;>omega
    ·simp only at h ⊢;rw[p6];have:=Iu h;exact LC (by omega)
   ·have hc:c= -1:=by omega
    rw[p5 (by omega),hc]
  ·have hi:i=x.aj.length:=by omega
   by_cases hc:0<=c
   ·rw[p4 hc,hi,List.drop_length,mH,Wj (by omega)];exact int_eq (by simp)
   ·rw[p5 (by omega)];exact int_eq (by omega)
theorem afa(x:ah)(l:Int)(h0:0<=l)(h1:l<=1073741824)(hsz:x.sz<=67108864):aF prog 104 [x.v,.c (.d (.i .i64 l))] (.c (.d (.i .i64 (oF l (jU x))))):=PN _ x (Nat.lt_succ_self _) l h0 h1 hsz
theorem PO:∀n:Nat,∀x:ah,SizeOf.sizeOf x<n->x.sz<=67108864->aF prog 105 [x.v] (.c (.d (.b (iE x))))
 |0=>fun x h=>by omega
 |n+1=>by
  have ih:=PO n;intro x hn hsz S;have hts:=ED hsz;have hf:=EC x;refine zcx [.tmp 2] func105 ntmps105 ?_;refine W1 ?_;refine S0 (fun hb h=>?_) fun hb h=>?_
  ·rw[if_neg h] at hf;refine C2 (abW x.aQ (by omega)) ?_;refine S0 (fun hb h=>?_) fun hb h=>?_
   ·rw[hf,h,Bool.true_and];exact aI (decide_eq_decide.2 (by omega))
   ·rw[hf,h,Bool.false_and]
  rw[if_pos h] at hf
  refine aZ (ι:=Nat) zmx rfl [1,3] (fun y=>[.c (.ptr (0,0) 0),.c (.d (.i .i64 y))]) (fun y=>[.box [.d (.s x.aQ),.d (.sl (x.aj.map ah.enc))]]::S)
   (fun y=>y<=x.aj.length/\iE x=jv (x.aj.drop y)) (fun y=>x.aj.length-y) 0 rfl rfl ⟨Nat.zero_le _,hf⟩ ?_
  rintro i ⟨p1,p2⟩;refine W1 ?_;refine S0 (fun hb h=>?_) fun hb h=>?_
  ·have hi:i<x.aj.length:=by omega
   have hsz':=AQ hi hsz;rw[YV hi] at p2;refine W3 ?_;refine C2 (ih x.aj[i] (by have:=ah.LM hi;omega) (by omega)) ?_;refine S0 (fun hb h=>?_) fun hb h=>?_
   ·rw[p2,h,Bool.false_and]
   ·exact dB (i+1) (by omega) rfl rfl ⟨by omega,by rw[p2,h,Bool.true_and]⟩
  ·have hi:i=x.aj.length:=by omega
   rw[hi,List.drop_length,jv] at p2;rw[p2]
theorem afb(x:ah)(hsz:x.sz<=67108864):aF prog 105 [x.v] (.c (.d (.b (iE x)))):=PO _ x (Nat.lt_succ_self _) hsz
theorem GV:∀n:Nat,∀x:ah,SizeOf.sizeOf x<n->x.sz<=67108864->aF prog 106 [x.v] (.c (.d (.i .i64 (lN x))))
 |0=>fun x h=>by omega
 |n+1=>by
  have ih:=GV n;intro x hn hsz S;have hts:=ED hsz;have hd:=SS x;have hd1:=F5 x;have hd2:=Nr hsz;refine zcx [.tmp 2] func106 ntmps106 ?_;refine W1 ?_;refine S0 (fun hb h=>?_) fun hb h=>?_
  ·rw[if_neg h] at hd;rw[hd];rfl
  rw[if_pos h] at hd
  refine aZ (ι:=Nat×Nat) zmx rfl [1,3,4] (fun y=>[.c (.ptr (0,0) 0),.c (.d (.i .i64 y.2)),.c (.d (.i .i64 y.1))]) (fun y=>[.box [.d (.s x.aQ),.d (.sl (x.aj.map ah.enc))]]::S)
   (fun y=>y.1<=x.aj.length/\lN x=max y.2 (oH (x.aj.drop y.1))+1) (fun y=>x.aj.length-y.1) (0,0) rfl rfl ⟨Nat.zero_le _,by simp[hd]⟩ ?_
  rintro⟨i,c⟩ ⟨p1,p2⟩;simp only at p1 p2;refine W1 ?_;refine S0 (fun hb h=>?_) fun hb h=>?_
  ·have hi:i<x.aj.length:=by omega
   have hsz':=AQ hi hsz;rw[Ko hi] at p2;refine W3 ?_;refine C2 (ih x.aj[i] (by have:=ah.LM hi;omega) (by omega)) ?_;refine C2 (Wy _ _) ?_;rw[show max (c:Int) ((lN x.aj[i]:Int))=((max c (lN x.aj[i]):Nat):Int) by omega];exact dB (i+1,max c (lN x.aj[i])) (by simp only;omega) rfl rfl ⟨by simp only;omega,by simp only;omega⟩
  ·have hi:i=x.aj.length:=by omega
   rw[hi,List.drop_length,oH] at p2;refine W3 ?_;exact int_eq (by omega)
theorem Un(x:ah)(hsz:x.sz<=67108864):aF prog 106 [x.v] (.c (.d (.i .i64 (lN x)))):=GV _ x (Nat.lt_succ_self _) hsz
theorem Cz(x:ah)(hsz:x.sz<=67108864):aF prog 42 [x.v] (.c (.d (.b (dV x)))):=fun S=>by
 refine zcx [.tmp 2] func42 ntmps42 ?_;refine W1 ?_;refine C2 (afa x 900 (by omega) (by omega) hsz) ?_;refine S0 (fun hb h=>?_) fun hb h=>?_
 ·have h1:=(LB (l:=900) (a:=jU x) (by omega)).2;refine C2 (afb x hsz) ?_;refine S0 (fun hb h=>?_) fun hb h=>?_
  ·have hf:=h;refine C2 (Un x hsz) ?_;refine aI ?_;unfold dV;rw[hf,Bool.true_and];exact decide_eq_decide.2 (by omega)
  ·refine aI ?_;unfold dV;rw[h,Bool.false_and]
 ·have h1:=Iu (l:=900) (a:=jU x) (by omega);refine aI ?_;unfold dV;rw[decide_eq_false (by omega),Bool.and_false]
end Go.Ab