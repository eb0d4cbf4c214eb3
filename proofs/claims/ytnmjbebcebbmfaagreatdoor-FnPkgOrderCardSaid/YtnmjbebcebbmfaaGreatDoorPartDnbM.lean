/-
  SEVERAL TEXTS IN ONE (merged by program): contracts and models, each with its own heading.
-/
import Derived.Test.YtnmjbebcebbmfaaGreatDoorPartDnbL
open Go.Proofs Go.Proofs.Tryz
set_option linter.unusedSimpArgs false
set_option linter.unusedVariables false
set_option maxRecDepth 4000
namespace Go.Ab
def bN(s:List UInt8):ah:=.mk s []
def bL(l:List ah):ah:=.mk [] l
def aR(l:List (List UInt8)):List ah:=l.map bN
def cZ:ah:=.mk [] []
theorem kM(s:List UInt8):(bN s).aI=s:=rfl
theorem kN(s:List UInt8):(bN s).aj=[]:=rfl
theorem eF(l:List ah):(bL l).aI=[]:=rfl
theorem dD(l:List ah):(bL l).aj=l:=rfl
def KL:List UInt8:=[100,121,110]
def jm:List UInt8:=[97,115,115,111,99]
mutual
def dI:ak->ah
 | .mk k n zs=>if k=1 then bN ([39]++n) else if k=4 then bL [bN KL,bN n] else if k=2/\zs.length=0 then bN n else
   bL ((if k=3 then [bN jm] else [])++[bN n]++GI zs)
def GI:List ak->List ah
 |[]=>[]
 |t::ts=>dI t::GI ts
end
theorem yH:∀l,GI l=l.map dI
 |[]=>rfl
 |t::ts=>by rw[GI,af,yH ts]
theorem aib(x:ak):dI x=if x.aN=1 then bN ([39]++x.fName) else if x.aN=4 then bL [bN KL,bN x.fName] else if x.aN=2/\x.fArgs.length=0 then bN x.fName else
 bL ((if x.aN=3 then [bN jm] else [])++[bN x.fName]++x.fArgs.map dI):=by
 cases x;rw[dI,yH];rfl
theorem yI{t:ak}(h:pq t=true):formed t=true:=(gD h).1
theorem iM(x:ah):x.sz=x.aI.length+(x.aj.length+aS (x.aj.map ah.enc)):=by
 simp only[ah.sz,ah.aC,bX,D.sz,ab];omega
def dx:List ah->Nat
 |[]=>0
 |x::xs=>x.sz+dx xs
theorem jU:∀l,aS (l.map ah.enc)=dx l
 |[]=>rfl
 |x::xs=>by rw[af,aS,dx,jU xs];rfl
theorem gQ:∀a b,dx (a++b)=dx a+dx b
 |[],b=>by simp[dx]
 |x::a,b=>by rw[ba,dx,dx,gQ a b];omega
theorem gY{x:ah}:∀{l:List ah},x∈l->x.sz<=dx l
 |y::l,h=>by
  rw[dx];rcases cT.1 h with rfl|h
  ·omega
  ·have:=gY h;omega
theorem jY(s:List UInt8):(bN s).sz=s.length:=by rw[iM];simp[bN,ah.aI,ah.aj,aS]
theorem jH(l:List ah):(bL l).sz=l.length+dx l:=by rw[iM,jU];simp[bL,ah.aI,ah.aj]
theorem sU:∀l:List (List UInt8),dx (aR l)=(l.map List.length).sum
 |[]=>rfl
 |s::l=>by rw[aR,af,dx,jY,<-aR,sU l,af,ez]
theorem jP(l:List (List UInt8)):(aR l).length=l.length:=by simp[aR]
theorem dN:∀l:List (List UInt8),aS (l.map encS)=(l.map List.length).sum
 |[]=>rfl
 |s::l=>by rw[af,aS,dN l,af,ez];simp[encS,bX,D.sz]
def tT:List ak->Nat
 |[]=>0
 |x::xs=>x.sz+tT xs
theorem Cy:∀l,aS (l.map ak.enc)=tT l
 |[]=>rfl
 |x::xs=>by rw[af,aS,tT,Cy xs];rfl
theorem yJ(x:ak):x.sz=x.fName.length+(x.fArgs.length+tT x.fArgs):=by
 rw[<-Cy];simp only[ak.sz,ak.aC,bX,D.sz,ab];omega
mutual
theorem D9:∀x:ak,(dI x).sz<=12+16*x.sz
 | .mk k n zs=>by
   have h:=Ut zs;rw[yJ];simp only[ak.fName,ak.fArgs];rw[dI];split
   ·rw[jY];simp;omega
   ·split
    ·rw[jH];simp[dx,jY,KL];omega
    ·split
     ·rw[jY];omega
     ·rw[jH,gQ,gQ,ae,ae,yH,ab,<-yH];split<;>simp[dx,jY,jm]<;>omega
theorem Ut:∀xs:List ak,dx (GI xs)<=12*xs.length+16*tT xs
 |[]=>by simp[GI,dx]
 |x::xs=>by
  have h1:=D9 x;have h2:=Ut xs;rw[GI,dx,tT,aa];omega
end
theorem R5(xs:List ak):dx (xs.map dI)<=12*xs.length+16*tT xs:=by rw[<-yH];exact Ut xs
def bV(b:UInt8):Bool:=decide (97<=b.toNat/\b.toNat<=122)||decide (48<=b.toNat/\b.toNat<=57)||decide (b∈([39,45,43,42,60,61,46]:List UInt8))
def validAtom(s:List UInt8):Bool:=s.all bV&&decide (1<=s.length/\s.length<=12)
mutual
def iG:ah->Bool
 | .mk a l=>if a=[] then jo l else validAtom a&&decide (l.length=0)
def jo:List ah->Bool
 |[]=>true
 |x::xs=>iG x&&jo xs
end
mutual
def lN:ah->Nat
 | .mk a l=>if a=[] then nk l+1 else 0
def nk:List ah->Nat
 |[]=>0
 |x::xs=>max (lN x) (nk xs)
end
mutual
def jC:ah->Nat
 | .mk _ l=>kH l+1
def kH:List ah->Nat
 |[]=>0
 |x::xs=>jC x+kH xs
end
theorem GJ(x:ah):iG x=if x.aI=[] then jo x.aj else validAtom x.aI&&decide (x.aj.length=0):=by cases x;rw[iG];rfl
theorem Vz(x:ah):lN x=if x.aI=[] then nk x.aj+1 else 0:=by cases x;rw[lN];rfl
theorem Zi(x:ah):jC x=kH x.aj+1:=by cases x;rw[jC];rfl
theorem R6:∀{l:List ah},(l.any fun t=> !iG t)= !jo l
 |[]=>rfl
 |t::ts=>by rw[gg,R6 (l:=ts),jo];simp
theorem Fy:∀{l:List ah},jo l=true<->∀t∈l,iG t=true
 |[]=>by simp[jo]
 |t::ts=>by simp[jo,Fy (l:=ts)]
mutual
theorem I9:∀x:ah,lN x<=jC x
 | .mk a l=>by
   have:=MN l;rw[lN,jC];split<;>omega
theorem MN:∀l:List ah,nk l<=kH l
 |[]=>by simp[nk]
 |x::xs=>by
  have h1:=I9 x;have h2:=MN xs;rw[nk,kH];omega
end
mutual
theorem Zj:∀x:ah,jC x<=x.sz+1
 | .mk a l=>by
   have:=VA l;rw[iM,jC,jU];simp only[ah.aI,ah.aj];omega
theorem VA:∀l:List ah,kH l<=l.length+dx l
 |[]=>by simp[kH]
 |x::xs=>by
  have h1:=Zj x;have h2:=VA xs;rw[kH,dx,aa];omega
end
def dQ(x:ah):Bool:=iG x&&decide (lN x<=14/\jC x<=900)
mutual
theorem Zk:∀x:ah,iG x=true->x.sz+1<=13*jC x
 | .mk a l=>fun h=>by
   rw[iG] at h;rw[iM,jC,jU];simp only[ah.aI,ah.aj];split at h
   ·rename_i ha;have:=VB l h;subst ha;simp only[al];omega
   ·rw[ai,decide_eq_true_eq] at h;have h1:=h.1;unfold validAtom at h1;rw[ai,decide_eq_true_eq] at h1;have:l=[]:=bz h.2;subst this;simp[dx];omega
theorem VB:∀l:List ah,jo l=true->l.length+dx l<=13*kH l
 |[],_=>by simp[dx]
 |x::xs,h=>by
  rw[jo,ai] at h;have h1:=Zk x h.1;have h2:=VB xs h.2;rw[dx,kH,aa];omega
end
theorem qN{x:ah}(h:dQ x=true):x.sz<=11700:=by
 unfold dQ at h;rw[ai,decide_eq_true_eq] at h;have:=Zk x h.1;omega
def vQ(x:ah):ah:=if dQ x=true then x else cZ
def sD:Bool->ah->ah
 |true,x=>vQ x
 |false,_=>cZ
theorem aq3(x:ah):(vQ x).sz<=11700:=by
 unfold vQ;split
 ·rename_i h;exact qN h
 ·rw[iM];simp[cZ,ah.aI,ah.aj,aS]
theorem FV(b:Bool)(x:ah):(sD b x).sz<=11700:=by
 cases b with
 |true=>exact aq3 x
 |false=>rw[sD,iM];simp[cZ,ah.aI,ah.aj,aS]
theorem aic(b:UInt8):decide (firstIdx ⟨[39,45,43,42,60,61,46].toArray⟩ b>=0)=decide (b∈([39,45,43,42,60,61,46]:List UInt8)):=by
 have h:∀n:Nat,n<256->decide (firstIdx ⟨[39,45,43,42,60,61,46].toArray⟩ (UInt8.ofNat n)>=0)=decide (UInt8.ofNat n∈([39,45,43,42,60,61,46]:List UInt8)):=by decide +kernel
 have h1:=h b.toNat (UInt8.toNat_lt b)
 rwa [UInt8.ofNat_toNat] at h1
theorem alG(b:UInt8):b∈([39,45,43,42,60,61,46]:List UInt8)<->(b.toNat=39\/b.toNat=45\/b.toNat=43\/b.toNat=42\/b.toNat=60\/b.toNat=61\/b.toNat=46):=by
 have h:∀n:Nat,n<256->(UInt8.ofNat n∈([39,45,43,42,60,61,46]:List UInt8)<->(n=39\/n=45\/n=43\/n=42\/n=60\/n=61\/n=46)):=by decide +kernel
 have h1:=h b.toNat (UInt8.toNat_lt b)
 rwa [UInt8.ofNat_toNat] at h1
theorem yK(b:UInt8):bV b=true<->(97<=b.toNat/\b.toNat<=122)\/(48<=b.toNat/\b.toNat<=57)\/b.toNat=39\/b.toNat=45\/b.toNat=43\/b.toNat=42\/b.toNat=60\/b.toNat=61\/b.toNat=46:=by
 unfold bV;rw[dk,dk,decide_eq_true_eq,decide_eq_true_eq,decide_eq_true_eq,alG,or_assoc]
theorem all_false{s:List UInt8}{i:Nat}(hi:i<s.length)(h:bV s[i]=false):s.all bV=false:=by
 rw[List.all_eq_false];exact⟨s[i],ac hi,by simp[h]⟩
theorem all_true{s:List UInt8}(h:∀j (hj:j<s.length),bV s[j]=true):s.all bV=true:=by
 rw[az];intro b hb;obtain⟨j,hj,e⟩:=ci hb;rw[<-e];exact h j hj
theorem FW{x:ah}{i:Nat}(hi:i<x.aj.length)(h:x.sz<=67108864):x.aj[i].sz<=67108864/\x.aj.length<=67108864/\x.aI.length<=67108864:=by
 have:=gY (ac hi);rw[iM,jU] at h;omega
theorem JJ{x:ah}(h:x.sz<=67108864):x.aj.length<=67108864/\x.aI.length<=67108864:=by
 rw[iM,jU] at h;omega
theorem abJ{l:List ah}{i:Nat}(hi:i<l.length):jo (l.drop i)=(iG l[i]&&jo (l.drop (i+1))):=by rw[cb hi,jo]
theorem MO{l:List ah}{i:Nat}(hi:i<l.length):nk (l.drop i)=max (lN l[i]) (nk (l.drop (i+1))):=by rw[cb hi,nk]
theorem O8{l:List ah}{i:Nat}(hi:i<l.length):kH (l.drop i)=jC l[i]+kH (l.drop (i+1)):=by rw[cb hi,kH]
theorem Qb{x:ah}(h:x.sz<=67108864):jC x<=67108865:=by have:=Zj x;omega
theorem ah.R7{x:ah}{i:Nat}(hi:i<x.aj.length):SizeOf.sizeOf x.aj[i]<SizeOf.sizeOf x:=by
 have:=bh (ac hi);have:=ah.vO x;omega
theorem R8(l:List UInt8)(b:UInt8):aD prog 153 [.c (.d (.s l)),.c (.d (.i .u8 b.toNat))] (.c (.d (.i .i64 (firstIdx ⟨l.toArray⟩ b)))):=fun S=>by
 refine zcx [.tmp 4] func153 ntmps153 ?_;refine W1 ?_;exact C4 (ML l b)
theorem Ey(b:UInt8):aD prog 85 [.c (.d (.i .u8 b.toNat))] (.c (.d (.b (bV b)))):=fun S=>by
 refine zcx [.tmp 2] func85 ntmps85 ?_;refine W1 ?_;refine C2 (RI b) ?_;refine S0 (fun hb h=>?_) fun hb h=>?_
 ·exact aK ((yK b).2 (.inl h)).symm
 have h1:=h;refine C2 (RJ b) ?_;refine S0 (fun hb h=>?_) fun hb h=>?_
 ·exact aK ((yK b).2 (.inr (.inl h))).symm
 have h2:=h;refine C2 (R8 [39,45,43,42,60,61,46] b) ?_;refine aK ?_;rw[aic];unfold bV;unfold lowerB at h1;unfold uN at h2;simp[h1,h2]
theorem ae8(s:List UInt8)(hs:s.length<=1073741824):aD prog 180 [.c (.d (.s s))] (.c (.d (.b (validAtom s)))):=fun S=>by
 refine zcx [.tmp 2] func180 ntmps180 ?_;refine W1 ?_
 refine aZ (ι:=Nat) zmx rfl [0,5,6] (fun i=>[.c (.d (.s s)),.c (.d (.i .i64 s.length)),.c (.d (.i .i64 i))]) (fun _=>[]::S)
  (fun i=>i<=s.length/\∀j,∀hj:j<s.length,j<i->bV s[j]=true) (fun i=>s.length-i) 0 rfl rfl ⟨an _,fun j _ h=>gA⟩ ?_
 rintro i ⟨p1,p2⟩;refine W1 ?_;refine S0 (fun hb h=>?_) fun hb h=>?_
 ·have hi:i<s.length:=gA
  have e:s.getD i 0=s[i]:=by simp[List.getD,hi]
  refine W3 ?_;rw[e];refine C2 (Ey s[i]) ?_;refine S0 (fun hb h=>?_) fun hb h=>?_
  ·exact aK (by unfold validAtom;rw[all_false hi h];rfl)
  ·refine dH (i+1) gA rfl rfl ⟨gA,fun j hj hji=> ?_⟩;by_cases e':j=i
   ·subst e';exact h
   ·exact p2 j hj gA
 ·have ha:=all_true (s:=s) (fun j hj=>p2 j hj gA);refine S0 (fun hb h=>?_) fun hb h=>?_
  ·refine aK ?_;unfold validAtom;rw[ha,cd];exact decide_eq_decide.2 gA
  ·refine aK ?_;unfold validAtom;rw[ha,cd];exact(decide_eq_false gA).symm
theorem MP(b:UInt8):aD prog 124 [.c (.d (.i .u8 b.toNat))] (.c (.d (.b (bV b)))):=fun S=>by
 have yes:((97<=b.toNat/\b.toNat<=122)\/(48<=b.toNat/\b.toNat<=57)\/b.toNat=39\/b.toNat=45\/b.toNat=43\/b.toNat=42\/b.toNat=60\/b.toNat=61\/b.toNat=46)->bV b=true:=(yK b).2
 have no:¬((97<=b.toNat/\b.toNat<=122)\/(48<=b.toNat/\b.toNat<=57)\/b.toNat=39\/b.toNat=45\/b.toNat=43\/b.toNat=42\/b.toNat=60\/b.toNat=61\/b.toNat=46)->bV b=false:=fun h=>by
  cases hb:bV b with
  |false=>rfl
  |true=>exact absurd ((yK b).1 hb) h
 refine zcx [.tmp 2] func124 ntmps124 ?_;refine W1 ?_
 repeat' (first|(refine S0 (fun hb h=>?_) fun hb h=>?_))
 all_goals first
  |exact aK (yes gA).symm
  |exact aK (no gA).symm
  |(refine aK ?_;cases hb:bV b<;>simp only[decide_eq_true_eq,decide_eq_false_iff_not]<;>(first|(have:=(yK b).1 hb;omega)|(intro q;have:=yes gA;rw[hb] at this;cases this)))
theorem ae9(s:List UInt8)(hs:s.length<=1073741824):aD prog 134 [.c (.d (.s s))] (.c (.d (.b (validAtom s)))):=fun S=>by
 refine zcx [.tmp 2] func134 ntmps134 ?_;refine W1 ?_
 refine aZ (ι:=Nat) zmx rfl [0,3] (fun i=>[.c (.d (.s s)),.c (.d (.i .i64 i))]) (fun _=>[]::S)
  (fun i=>i<=s.length/\∀j,∀hj:j<s.length,j<i->bV s[j]=true) (fun i=>s.length-i) 0 rfl rfl ⟨an _,fun j _ h=>gA⟩ ?_
 rintro i ⟨p1,p2⟩;refine W1 ?_;refine S0 (fun hb h=>?_) fun hb h=>?_
 ·have hi:i<s.length:=gA
  have e:s.getD i 0=s[i]:=by simp[List.getD,hi]
  refine W3 ?_;rw[e];refine C2 (MP s[i]) ?_;refine S0 (fun hb h=>?_) fun hb h=>?_
  ·exact aK (by unfold validAtom;rw[all_false hi h];rfl)
  ·refine dH (i+1) gA rfl rfl ⟨gA,fun j hj hji=> ?_⟩;by_cases e':j=i
   ·subst e';exact h
   ·exact p2 j hj gA
 ·have ha:=all_true (s:=s) (fun j hj=>p2 j hj gA);refine C2 (JG s.length 1 12) ?_;refine aK ?_;unfold validAtom;rw[ha,cd,<-kK];exact decide_eq_decide.2 gA
theorem MQ:∀n:Nat,(∀x:ah,SizeOf.sizeOf x<n->x.sz<=67108864->aD prog 125 [x.v] (.c (.d (.b (iG x)))))/\
 (∀xs:List ah,SizeOf.sizeOf xs<n->xs.length<=67108864->(∀t∈xs,t.sz<=67108864)->aD prog 181 [.c (.d (.sl (xs.map ah.enc))),.c (.fn 182 [])] (.c (.d (.b (!jo xs)))))
 |0=>⟨fun x h=>gA,fun x h=>gA⟩
 |n+1=>by
  obtain⟨ih,qm⟩:=MQ n;refine⟨fun x hn hsz S=> ?_,fun xs hn hlen hsz S=> ?_⟩
  ·have kL:=ah.vO x;have hts:=JJ hsz
   have hall:∀t∈x.aj,t.sz<=67108864:=fun t ht=>by
    obtain⟨i,hi,e⟩:=ci ht;rw[<-e];exact(FW hi hsz).1
   have tail:=qm x.aj gA hts.1 hall;have hf:=GJ x;refine zcx [.tmp 2] func125 ntmps125 ?_;refine W1 ?_;refine S0 (fun hb h=>?_) fun hb h=>?_
   ·rw[if_neg h] at hf;refine C2 (ae8 x.aI gA) ?_;refine S0 (fun hb h=>?_) fun hb h=>?_
    ·rw[hf,h,cd];exact aK (decide_eq_decide.2 gA)
    ·rw[hf,h,en]
   ·rw[if_pos h] at hf;refine bn tail ?_;refine W1 ?_;rw[hf,Bool.not_not]
  ·have hcl:∀y∈xs,aD prog 182 [y.v] (.c (.d (.b (!iG y)))):=fun y hy S=>by
    have hys:=bh hy;refine zcx [.tmp 2] func182 ntmps182 ?_;refine W1 ?_;exact C4 (ih y gA (hsz y hy))
   have hidx:aD prog 215 [.c (.d (.sl (xs.map ah.enc))),.c (.fn 182 [])] (.c (.d (.i .i64 (vP (fun y=> !iG y) xs)))):=fun S=>by
    refine zcx [.tmp 4] func215 ntmps215 ?_;refine W1 ?_
    refine aZ (ι:=Nat) zmx rfl [0,1,7,8] (fun i=>[.c (.d (.sl (xs.map ah.enc))),.c (.fn 182 []),.c (.d (.i .i64 xs.length)),.c (.d (.i .i64 i))]) (fun _=>[]::S)
     (fun i=>i<=xs.length/\∀j,∀hj:j<xs.length,j<i->iG xs[j]=true) (fun i=>xs.length-i) 0 rfl rfl ⟨an _,fun j _ h=>gA⟩ ?_
    rintro i ⟨p1,p2⟩;refine W1 ?_;refine S0 (fun hb h=>?_) fun hb h=>?_
    ·have hi:i<xs.length:=gA
     refine W3 ?_;refine C2 (hcl xs[i] (ac hi)) ?_;refine S0 (fun hb h=>?_) fun hb h=>?_
     ·rw[uZ hi (fun j hj hji=>by rw[p2 j hj hji];rfl) (by rw[h];rfl)]
     ·refine dH (i+1) gA rfl rfl ⟨gA,fun j hj hji=> ?_⟩;by_cases e:j=i
      ·subst e;exact h
      ·exact p2 j hj gA
    ·rw[yE (fun j hj=>by rw[p2 j hj gA];rfl)]
   refine zcx [.tmp 4] func181 ntmps181 ?_;refine W1 ?_;refine C2 (hidx) ?_;rw[<-R6];exact aK wN
theorem abK(x:ah)(hsz:x.sz<=67108864):aD prog 125 [x.v] (.c (.d (.b (iG x)))):=(MQ _).1 x (cg _) hsz
theorem JK:∀n:Nat,∀x:ah,SizeOf.sizeOf x<n->x.sz<=67108864->aD prog 126 [x.v] (.c (.d (.i .i64 (lN x))))
 |0=>fun x h=>by omega
 |n+1=>by
  have ih:=JK n;intro x hn hsz S;have hts:=JJ hsz;have hd:=Vz x;have hd1:=I9 x;have hd2:=Qb hsz;refine zcx [.tmp 2] func126 ntmps126 ?_;refine W1 ?_;refine S0 (fun hb h=>?_) fun hb h=>?_
  ·rw[if_neg h] at hd;rw[hd];rfl
  rw[if_pos h] at hd
  refine aZ (ι:=Nat×Nat) zmx rfl [3,10,11,12] (fun y=>[.c (.d (.i .i64 y.2)),.c (.d (.sl (x.aj.map ah.enc))),.c (.d (.i .i64 x.aj.length)),.c (.d (.i .i64 y.1))]) (fun y=>[.box [.d (.s x.aI),.d (.sl (x.aj.map ah.enc))]]::S)
   (fun y=>y.1<=x.aj.length/\lN x=max y.2 (nk (x.aj.drop y.1))+1) (fun y=>x.aj.length-y.1) (0,0) rfl rfl ⟨an _,by simp[hd]⟩ ?_
  rintro⟨i,c⟩ ⟨p1,p2⟩;simp only at p1 p2;refine W1 ?_;refine S0 (fun hb h=>?_) fun hb h=>?_
  ·have hi:i<x.aj.length:=gA
   have hsz':=FW hi hsz;rw[MO hi] at p2;refine W3 ?_;refine C2 (ih x.aj[i] (by have:=ah.R7 hi;omega) gA) ?_;rw[show max (c:Int) ((lN x.aj[i]:Int))=((max c (lN x.aj[i]):Nat):Int) by omega];exact bR 1 gE (i+1,max c (lN x.aj[i])) gC rfl rfl rfl rfl ⟨gC,gC⟩
  ·have hi:i=x.aj.length:=gA
   rw[hi,cy,nk] at p2;refine W3 ?_;exact int_eq gA
theorem WZ(x:ah)(hsz:x.sz<=67108864):aD prog 126 [x.v] (.c (.d (.i .i64 (lN x)))):=JK _ x (cg _) hsz
theorem Lr:∀n:Nat,∀x:ah,SizeOf.sizeOf x<n->x.sz<=67108864->aD prog 127 [x.v] (.c (.d (.i .i64 (jC x))))
 |0=>fun x h=>by omega
 |n+1=>by
  have ih:=Lr n;intro x hn hsz S;have hts:=JJ hsz;have hd2:=Qb hsz;refine zcx [.tmp 2] func127 ntmps127 ?_;refine W1 ?_
  refine aZ (ι:=Nat×Nat) zmx rfl [3,7,8,9] (fun y=>[.c (.d (.i .i64 y.2)),.c (.d (.sl (x.aj.map ah.enc))),.c (.d (.i .i64 x.aj.length)),.c (.d (.i .i64 y.1))]) (fun y=>[.box [.d (.s x.aI),.d (.sl (x.aj.map ah.enc))]]::S)
   (fun y=>y.1<=x.aj.length/\jC x=y.2+kH (x.aj.drop y.1)) (fun y=>x.aj.length-y.1) (0,1) rfl rfl ⟨an _,by simp[Zi];omega⟩ ?_
  rintro⟨i,c⟩ ⟨p1,p2⟩;simp only at p1 p2;refine W1 ?_;refine S0 (fun hb h=>?_) fun hb h=>?_
  ·have hi:i<x.aj.length:=gA
   have hsz':=FW hi hsz;rw[O8 hi] at p2;refine W3 ?_;refine C2 (ih x.aj[i] (by have:=ah.R7 hi;omega) gA) ?_;rw[show(c:Int)+(jC x.aj[i]:Int)=((c+jC x.aj[i]:Nat):Int) by omega];exact bR 1 gE (i+1,c+jC x.aj[i]) gC rfl rfl rfl rfl ⟨gC,gC⟩
  ·have hi:i=x.aj.length:=gA
   rw[hi,cy,kH] at p2;exact int_eq gA
theorem Zl(x:ah)(hsz:x.sz<=67108864):aD prog 127 [x.v] (.c (.d (.i .i64 (jC x)))):=Lr _ x (cg _) hsz
theorem rJ(x:ah)(hsz:x.sz<=67108864):aD prog 56 [x.v] (.c (.d (.b (dQ x)))):=fun S=>by
 refine zcx [.tmp 2] func56 ntmps56 ?_;refine W1 ?_;refine C2 (abK x hsz) ?_;refine S0 (fun hb h=>?_) fun hb h=>?_
 ·have hf:=h;refine C2 (WZ x hsz) ?_;refine S0 (fun hb h=>?_) fun hb h=>?_
  ·refine C2 (Zl x hsz) ?_;refine aK ?_;unfold dQ;rw[hf,cd];exact decide_eq_decide.2 gA
  ·refine aK ?_;unfold dQ;rw[hf,cd];exact(decide_eq_false gA).symm
 ·refine aK ?_;unfold dQ;rw[h,en]
theorem R9:∀n:Nat,∀x:ah,SizeOf.sizeOf x<n->∀l:Int,0<=l->l<=1073741824->x.sz<=67108864->aD prog 61 [x.v,.c (.d (.i .i64 l))] (.c (.d (.i .i64 (qb l (jC x)))))
 |0=>fun x h=>by omega
 |n+1=>by
  have ih:=R9 n;intro x hn l h0 h1 hsz S;have hts:=JJ hsz;have hcn:=Zi x;refine zcx [.tmp 4] func61 ntmps61 ?_;refine W1 ?_
  refine aZ (ι:=Nat×Int) zmx rfl [1,2,5] (fun y=>[.c (.d (.i .i64 y.2)),.c (.ptr (0,0) 0),.c (.d (.i .i64 y.1))]) (fun y=>[.box [.d (.s x.aI),.d (.sl (x.aj.map ah.enc))]]::S)
   (fun y=>y.1<=x.aj.length/\ -1<=y.2/\y.2<=1073741824/\(0<=y.2->qb l (jC x)=qb y.2 (kH (x.aj.drop y.1)))/\(y.2<0->qb l (jC x)= -1)) (fun y=>x.aj.length-y.1) (0,l-1) rfl rfl ⟨an _,gC,gC,fun h=> ?_,fun h=> ?_⟩ ?_
  ·simp only[cN] at h ⊢;unfold qb;rw[hcn];split<;>split<;>omega
  ·simp only at h;exact Od gA
  rintro⟨i,c⟩ ⟨p1,p2,p3,p4,p5⟩;simp only at p1 p2 p3 p4 p5;refine W1 ?_;refine S0 (fun hb h=>?_) fun hb h=>?_
  ·have hi:i<x.aj.length:=gA
   refine S0 (fun hb h=>?_) fun hb h=>?_
   ·have hsz':=FW hi hsz;have p6:=p4 h;rw[O8 hi] at p6;refine W3 ?_;refine C2 (ih x.aj[i] (by have:=ah.R7 hi;omega) c gA gA gA) ?_;refine dH (i+1,qb c _) gC rfl rfl ⟨gC,?_,?_,fun h=> ?_,fun h=> ?_⟩
    ·simp only;unfold qb;split<;>omega
    ·simp only;unfold qb;split<;>omega
    ·simp only at h ⊢;rw[p6];have:=Oc (l:=c) (a:=jC x.aj[i]) gA;rw[this.1];unfold qb;split<;>split<;>omega
    ·simp only at h ⊢;rw[p6];have:=Kz h;exact Od gA
   ·have hc:c= -1:=gA
    rw[p5 gA,hc]
  ·have hi:i=x.aj.length:=gA
   by_cases hc:0<=c
   ·rw[p4 hc,hi,cy,kH,YW gA];exact int_eq gL
   ·rw[p5 gA];exact int_eq gA
theorem aie(x:ah)(l:Int)(h0:0<=l)(h1:l<=1073741824)(hsz:x.sz<=67108864):aD prog 61 [x.v,.c (.d (.i .i64 l))] (.c (.d (.i .i64 (qb l (jC x))))):=R9 _ x (cg _) l h0 h1 hsz
theorem Sb:∀n:Nat,∀x:ah,SizeOf.sizeOf x<n->x.sz<=67108864->aD prog 62 [x.v] (.c (.d (.b (iG x))))
 |0=>fun x h=>by omega
 |n+1=>by
  have ih:=Sb n;intro x hn hsz S;have hts:=JJ hsz;have hf:=GJ x;refine zcx [.tmp 2] func62 ntmps62 ?_;refine W1 ?_;refine S0 (fun hb h=>?_) fun hb h=>?_
  ·rw[if_neg h] at hf;refine C2 (ae9 x.aI gA) ?_;refine S0 (fun hb h=>?_) fun hb h=>?_
   ·rw[hf,h,cd];exact aK (decide_eq_decide.2 gA)
   ·rw[hf,h,en]
  rw[if_pos h] at hf
  refine aZ (ι:=Nat) zmx rfl [1,3] (fun y=>[.c (.ptr (0,0) 0),.c (.d (.i .i64 y))]) (fun y=>[.box [.d (.s x.aI),.d (.sl (x.aj.map ah.enc))]]::S)
   (fun y=>y<=x.aj.length/\iG x=jo (x.aj.drop y)) (fun y=>x.aj.length-y) 0 rfl rfl ⟨an _,hf⟩ ?_
  rintro i ⟨p1,p2⟩;refine W1 ?_;refine S0 (fun hb h=>?_) fun hb h=>?_
  ·have hi:i<x.aj.length:=gA
   have hsz':=FW hi hsz;rw[abJ hi] at p2;refine W3 ?_;refine C2 (ih x.aj[i] (by have:=ah.R7 hi;omega) gA) ?_;refine S0 (fun hb h=>?_) fun hb h=>?_
   ·rw[p2,h,en]
   ·exact dH (i+1) gA rfl rfl ⟨gA,by rw[p2,h,cd]⟩
  ·have hi:i=x.aj.length:=gA
   rw[hi,cy,jo] at p2;rw[p2]
theorem aif(x:ah)(hsz:x.sz<=67108864):aD prog 62 [x.v] (.c (.d (.b (iG x)))):=Sb _ x (cg _) hsz
theorem JL:∀n:Nat,∀x:ah,SizeOf.sizeOf x<n->x.sz<=67108864->aD prog 63 [x.v] (.c (.d (.i .i64 (lN x))))
 |0=>fun x h=>by omega
 |n+1=>by
  have ih:=JL n;intro x hn hsz S;have hts:=JJ hsz;have hd:=Vz x;have hd1:=I9 x;have hd2:=Qb hsz;refine zcx [.tmp 2] func63 ntmps63 ?_;refine W1 ?_;refine S0 (fun hb h=>?_) fun hb h=>?_
  ·rw[if_neg h] at hd;rw[hd];rfl
  rw[if_pos h] at hd
  refine aZ (ι:=Nat×Nat) zmx rfl [1,3,4] (fun y=>[.c (.ptr (0,0) 0),.c (.d (.i .i64 y.2)),.c (.d (.i .i64 y.1))]) (fun y=>[.box [.d (.s x.aI),.d (.sl (x.aj.map ah.enc))]]::S)
   (fun y=>y.1<=x.aj.length/\lN x=max y.2 (nk (x.aj.drop y.1))+1) (fun y=>x.aj.length-y.1) (0,0) rfl rfl ⟨an _,by simp[hd]⟩ ?_
  rintro⟨i,c⟩ ⟨p1,p2⟩;simp only at p1 p2;refine W1 ?_;refine S0 (fun hb h=>?_) fun hb h=>?_
  ·have hi:i<x.aj.length:=gA
   have hsz':=FW hi hsz;rw[MO hi] at p2;refine W3 ?_;refine C2 (ih x.aj[i] (by have:=ah.R7 hi;omega) gA) ?_;refine C2 (Za _ _) ?_;rw[show max (c:Int) ((lN x.aj[i]:Int))=((max c (lN x.aj[i]):Nat):Int) by omega];exact dH (i+1,max c (lN x.aj[i])) gC rfl rfl ⟨gC,gC⟩
  ·have hi:i=x.aj.length:=gA
   rw[hi,cy,nk] at p2;refine W3 ?_;exact int_eq gA
theorem W9(x:ah)(hsz:x.sz<=67108864):aD prog 63 [x.v] (.c (.d (.i .i64 (lN x)))):=JL _ x (cg _) hsz
theorem pz(x:ah)(hsz:x.sz<=67108864):aD prog 23 [x.v] (.c (.d (.b (dQ x)))):=fun S=>by
 refine zcx [.tmp 2] func23 ntmps23 ?_;refine W1 ?_;refine C2 (aie x 900 gA gA hsz) ?_;refine S0 (fun hb h=>?_) fun hb h=>?_
 ·have h1:=(Oc (l:=900) (a:=jC x) gA).2;refine C2 (aif x hsz) ?_;refine S0 (fun hb h=>?_) fun hb h=>?_
  ·have hf:=h;refine C2 (W9 x hsz) ?_;refine aK ?_;unfold dQ;rw[hf,cd];exact decide_eq_decide.2 gA
  ·refine aK ?_;unfold dQ;rw[h,en]
 ·have h1:=Kz (l:=900) (a:=jC x) gA;refine aK ?_;unfold dQ;rw[decide_eq_false gA,Bool.and_false]
end Go.Ab