/-
  SEVERAL TEXTS IN ONE (merged by program): contracts and models, each with its own heading.
-/
import Derived.Test.YtbaefeecjjhhkaaGreatDoorPartOcbG
open Go.Proofs Go.Proofs.Tryz
set_option linter.unusedSimpArgs false
set_option linter.unusedVariables false
set_option maxRecDepth 4000
namespace Go.Ab
def bF(s:List UInt8):aj:=.mk s []
def bq(l:List aj):aj:=.mk [] l
def aP(l:List (List UInt8)):List aj:=l.map bF
def bT:aj:=.mk [] []
theorem kX(s:List UInt8):(bF s).aG=s:=rfl
theorem kY(s:List UInt8):(bF s).ah=[]:=rfl
theorem dW(l:List aj):(bq l).aG=[]:=rfl
theorem bY(l:List aj):(bq l).ah=l:=rfl
def IE:List UInt8:=[100,121,110]
def iW:List UInt8:=[97,115,115,111,99]
mutual
def bZ:ak->aj
 | .mk k n zs=>if k=1 then bF ([39]++n) else if k=4 then bq [bF IE,bF n] else if k=2/\zs.length=0 then bF n else
   bq ((if k=3 then [bF iW] else [])++[bF n]++Er zs)
def Er:List ak->List aj
 |[]=>[]
 |t::ts=>bZ t::Er ts
end
theorem wK:∀l,Er l=l.map bZ
 |[]=>rfl
 |t::ts=>by rw[Er,List.map_cons,wK ts]
theorem afg(x:ak):bZ x=if x.aM=1 then bF ([39]++x.fName) else if x.aM=4 then bq [bF IE,bF x.fName] else if x.aM=2/\x.fArgs.length=0 then bF x.fName else
 bq ((if x.aM=3 then [bF iW] else [])++[bF x.fName]++x.fArgs.map bZ):=by
 cases x;rw[bZ,wK];rfl
theorem wL{t:ak}(h:oo t=true):formed t=true:=(gq h).1
theorem jH(x:aj):x.sz=x.aG.length+(x.ah.length+bf (x.ah.map aj.enc)):=by
 simp only[aj.sz,aj.aQ,dz,D.sz,List.length_map];omega
def cZ:List aj->Nat
 |[]=>0
 |x::xs=>x.sz+cZ xs
theorem lS:∀l,bf (l.map aj.enc)=cZ l
 |[]=>rfl
 |x::xs=>by rw[List.map_cons,bf,cZ,lS xs];rfl
theorem gM:∀a b,cZ (a++b)=cZ a+cZ b
 |[],b=>by simp[cZ]
 |x::a,b=>by rw[List.cons_append,cZ,cZ,gM a b];omega
theorem gZ{x:aj}:∀{l:List aj},x∈l->x.sz<=cZ l
 |y::l,h=>by
  rw[cZ];rcases List.mem_cons.1 h with rfl|h
  ·omega
  ·have:=gZ h;omega
theorem jI(s:List UInt8):(bF s).sz=s.length:=by rw[jH];simp[bF,aj.aG,aj.ah,bf]
theorem jh(l:List aj):(bq l).sz=l.length+cZ l:=by rw[jH,lS];simp[bq,aj.aG,aj.ah]
theorem qY:∀l:List (List UInt8),cZ (aP l)=(l.map List.length).sum
 |[]=>rfl
 |s::l=>by rw[aP,List.map_cons,cZ,jI,<-aP,qY l,List.map_cons,List.sum_cons]
theorem jA(l:List (List UInt8)):(aP l).length=l.length:=by simp[aP]
theorem dB:∀l:List (List UInt8),bf (l.map encS)=(l.map List.length).sum
 |[]=>rfl
 |s::l=>by rw[List.map_cons,bf,dB l,List.map_cons,List.sum_cons];simp[encS,dz,D.sz]
def uq:List ak->Nat
 |[]=>0
 |x::xs=>x.sz+uq xs
theorem Aw:∀l,bf (l.map ak.enc)=uq l
 |[]=>rfl
 |x::xs=>by rw[List.map_cons,bf,uq,Aw xs];rfl
theorem wM(x:ak):x.sz=x.fName.length+(x.fArgs.length+uq x.fArgs):=by
 rw[<-Aw];simp only[ak.sz,ak.aQ,dz,D.sz,List.length_map];omega
mutual
theorem BS:∀x:ak,(bZ x).sz<=12+16*x.sz
 | .mk k n zs=>by
   have h:=Rb zs;rw[wM];simp only[ak.fName,ak.fArgs];rw[bZ];split
   ·rw[jI];simp;omega
   ·split
    ·rw[jh];simp[cZ,jI,IE];omega
    ·split
     ·rw[jI];omega
     ·rw[jh,gM,gM,List.length_append,List.length_append,wK,List.length_map,<-wK];split<;>simp[cZ,jI,iW]<;>omega
theorem Rb:∀xs:List ak,cZ (Er xs)<=12*xs.length+16*uq xs
 |[]=>by simp[Er,cZ]
 |x::xs=>by
  have h1:=BS x;have h2:=Rb xs;rw[Er,cZ,uq,List.length_cons];omega
end
theorem O5(xs:List ak):cZ (xs.map bZ)<=12*xs.length+16*uq xs:=by rw[<-wK];exact Rb xs
def bK(b:UInt8):Bool:=decide (97<=b.toNat/\b.toNat<=122)||decide (48<=b.toNat/\b.toNat<=57)||decide (b∈([39,45,43,42,60,61,46]:List UInt8))
def validAtom(s:List UInt8):Bool:=s.all bK&&decide (1<=s.length/\s.length<=12)
mutual
def gP:aj->Bool
 | .mk a l=>if a=[] then iG l else validAtom a&&decide (l.length=0)
def iG:List aj->Bool
 |[]=>true
 |x::xs=>gP x&&iG xs
end
mutual
def kZ:aj->Nat
 | .mk a l=>if a=[] then mM l+1 else 0
def mM:List aj->Nat
 |[]=>0
 |x::xs=>max (kZ x) (mM xs)
end
mutual
def je:aj->Nat
 | .mk _ l=>jX l+1
def jX:List aj->Nat
 |[]=>0
 |x::xs=>je x+jX xs
end
theorem Es(x:aj):gP x=if x.aG=[] then iG x.ah else validAtom x.aG&&decide (x.ah.length=0):=by cases x;rw[gP];rfl
theorem SE(x:aj):kZ x=if x.aG=[] then mM x.ah+1 else 0:=by cases x;rw[kZ];rfl
theorem Ww(x:aj):je x=jX x.ah+1:=by cases x;rw[je];rfl
theorem O6:∀{l:List aj},(l.any fun t=> !gP t)= !iG l
 |[]=>rfl
 |t::ts=>by rw[List.any_cons,O6 (l:=ts),iG];simp
theorem Dl:∀{l:List aj},iG l=true<->∀t∈l,gP t=true
 |[]=>by simp[iG]
 |t::ts=>by simp[iG,Dl (l:=ts)]
mutual
theorem FW:∀x:aj,kZ x<=je x
 | .mk a l=>by
   have:=Ke l;rw[kZ,je];split<;>omega
theorem Ke:∀l:List aj,mM l<=jX l
 |[]=>by simp[mM]
 |x::xs=>by
  have h1:=FW x;have h2:=Ke xs;rw[mM,jX];omega
end
mutual
theorem Wx:∀x:aj,je x<=x.sz+1
 | .mk a l=>by
   have:=SF l;rw[jH,je,lS];simp only[aj.aG,aj.ah];omega
theorem SF:∀l:List aj,jX l<=l.length+cZ l
 |[]=>by simp[jX]
 |x::xs=>by
  have h1:=Wx x;have h2:=SF xs;rw[jX,cZ,List.length_cons];omega
end
def dI(x:aj):Bool:=gP x&&decide (kZ x<=14/\je x<=900)
mutual
theorem Wy:∀x:aj,gP x=true->x.sz+1<=13*je x
 | .mk a l=>fun h=>by
   rw[gP] at h;rw[jH,je,lS];simp only[aj.aG,aj.ah];split at h
   ·rename_i ha;have:=SG l h;subst ha;simp only[List.length_nil];omega
   ·rw[Bool.and_eq_true,decide_eq_true_eq] at h;have h1:=h.1;unfold validAtom at h1;rw[Bool.and_eq_true,decide_eq_true_eq] at h1;have:l=[]:=List.eq_nil_of_length_eq_zero h.2;subst this;simp[cZ];omega
theorem SG:∀l:List aj,iG l=true->l.length+cZ l<=13*jX l
 |[],_=>by simp[cZ]
 |x::xs,h=>by
  rw[iG,Bool.and_eq_true] at h;have h1:=Wy x h.1;have h2:=SG xs h.2;rw[cZ,jX,List.length_cons];omega
end
theorem qZ{x:aj}(h:dI x=true):x.sz<=11700:=by
 unfold dI at h;rw[Bool.and_eq_true,decide_eq_true_eq] at h;have:=Wy x h.1;omega
def sI(x:aj):aj:=if dI x=true then x else bT
def qM:Bool->aj->aj
 |true,x=>sI x
 |false,_=>bT
theorem anc(x:aj):(sI x).sz<=11700:=by
 unfold sI;split
 ·rename_i h;exact qZ h
 ·rw[jH];simp[bT,aj.aG,aj.ah,bf]
theorem GH(b:Bool)(x:aj):(qM b x).sz<=11700:=by
 cases b with
 |true=>exact anc x
 |false=>rw[qM,jH];simp[bT,aj.aG,aj.ah,bf]
theorem afh(b:UInt8):decide (firstIdx ⟨[39,45,43,42,60,61,46].toArray⟩ b>=0)=decide (b∈([39,45,43,42,60,61,46]:List UInt8)):=by
 have h:∀n:Nat,n<256->decide (firstIdx ⟨[39,45,43,42,60,61,46].toArray⟩ (UInt8.ofNat n)>=0)=decide (UInt8.ofNat n∈([39,45,43,42,60,61,46]:List UInt8)):=by decide +kernel
 have h1:=h b.toNat (UInt8.toNat_lt b)
 rwa [UInt8.ofNat_toNat] at h1
theorem aiz(b:UInt8):b∈([39,45,43,42,60,61,46]:List UInt8)<->(b.toNat=39\/b.toNat=45\/b.toNat=43\/b.toNat=42\/b.toNat=60\/b.toNat=61\/b.toNat=46):=by
 have h:∀n:Nat,n<256->(UInt8.ofNat n∈([39,45,43,42,60,61,46]:List UInt8)<->(n=39\/n=45\/n=43\/n=42\/n=60\/n=61\/n=46)):=by decide +kernel
 have h1:=h b.toNat (UInt8.toNat_lt b)
 rwa [UInt8.ofNat_toNat] at h1
theorem wN(b:UInt8):bK b=true<->(97<=b.toNat/\b.toNat<=122)\/(48<=b.toNat/\b.toNat<=57)\/b.toNat=39\/b.toNat=45\/b.toNat=43\/b.toNat=42\/b.toNat=60\/b.toNat=61\/b.toNat=46:=by
 unfold bK;rw[Bool.or_eq_true,Bool.or_eq_true,decide_eq_true_eq,decide_eq_true_eq,decide_eq_true_eq,aiz,or_assoc]
theorem all_false{s:List UInt8}{i:Nat}(hi:i<s.length)(h:bK s[i]=false):s.all bK=false:=by
 rw[List.all_eq_false];exact⟨s[i],List.getElem_mem hi,by simp[h]⟩
theorem all_true{s:List UInt8}(h:∀j (hj:j<s.length),bK s[j]=true):s.all bK=true:=by
 rw[List.all_eq_true];intro b hb;obtain⟨j,hj,e⟩:=List.getElem_of_mem hb;rw[<-e];exact h j hj
theorem Ay{x:aj}{i:Nat}(hi:i<x.ah.length)(h:x.sz<=67108864):x.ah[i].sz<=67108864/\x.ah.length<=67108864/\x.aG.length<=67108864:=by
 have:=gZ (List.getElem_mem hi);rw[jH,lS] at h;omega
theorem Et{x:aj}(h:x.sz<=67108864):x.ah.length<=67108864/\x.aG.length<=67108864:=by
 rw[jH,lS] at h;omega
theorem Za{l:List aj}{i:Nat}(hi:i<l.length):iG (l.drop i)=(gP l[i]&&iG (l.drop (i+1))):=by rw[List.drop_eq_getElem_cons hi,iG]
theorem Kg{l:List aj}{i:Nat}(hi:i<l.length):mM (l.drop i)=max (kZ l[i]) (mM (l.drop (i+1))):=by rw[List.drop_eq_getElem_cons hi,mM]
theorem ME{l:List aj}{i:Nat}(hi:i<l.length):jX (l.drop i)=je l[i]+jX (l.drop (i+1)):=by rw[List.drop_eq_getElem_cons hi,jX]
theorem Nf{x:aj}(h:x.sz<=67108864):je x<=67108865:=by have:=Wx x;omega
theorem aj.LG{x:aj}{i:Nat}(hi:i<x.ah.length):SizeOf.sizeOf x.ah[i]<SizeOf.sizeOf x:=by
 have:=List.sizeOf_lt_of_mem (List.getElem_mem hi);have:=aj.vI x;omega
theorem O7(l:List UInt8)(b:UInt8):aC prog 95 [.c (.d (.s l)),.c (.d (.i .u8 b.toNat))] (.c (.d (.i .i64 (firstIdx ⟨l.toArray⟩ b)))):=fun S=>by
 refine zcx [.tmp 4] func95 ntmps95 ?_;refine W1 ?_;exact C4 (Kc l b)
theorem Ct(b:UInt8):aC prog 52 [.c (.d (.i .u8 b.toNat))] (.c (.d (.b (bK b)))):=fun S=>by
 refine zcx [.tmp 2] func52 ntmps52 ?_;refine W1 ?_;refine C2 (OL b) ?_;refine S0 (fun hb h=>?_) fun hb h=>?_
 ·exact aH ((wN b).2 (.inl h)).symm
 have h1:=h;refine C2 (OM b) ?_;refine S0 (fun hb h=>?_) fun hb h=>?_
 ·exact aH ((wN b).2 (.inr (.inl h))).symm
 have h2:=h;refine C2 (O7 [39,45,43,42,60,61,46] b) ?_;refine aH ?_;rw[afh];unfold bK;unfold lowerB at h1;unfold sw at h2;simp[h1,h2]
theorem acj(s:List UInt8)(hs:s.length<=1073741824):aC prog 149 [.c (.d (.s s))] (.c (.d (.b (validAtom s)))):=fun S=>by
 refine zcx [.tmp 2] func149 ntmps149 ?_;refine W1 ?_
 refine aR (ι:=Nat) zmx rfl [0,5,6] (fun i=>[.c (.d (.s s)),.c (.d (.i .i64 s.length)),.c (.d (.i .i64 i))]) (fun _=>[]::S)
  (fun i=>i<=s.length/\∀j,∀hj:j<s.length,j<i->bK s[j]=true) (fun i=>s.length-i) 0 rfl rfl ⟨Nat.zero_le _,fun j _ h=>by omega⟩ ?_
 rintro i ⟨p1,p2⟩;refine W1 ?_;refine S0 (fun hb h=>?_) fun hb h=>?_
 ·have hi:i<s.length:=by omega
  have e:s.getD i 0=s[i]:=by simp[List.getD,hi]
  refine W3 ?_;rw[e];refine C2 (Ct s[i]) ?_;refine S0 (fun hb h=>?_) fun hb h=>?_
  ·exact aH (by unfold validAtom;rw[all_false hi h];rfl)
  ·refine bV (i+1) (by omega) rfl rfl ⟨by omega,fun j hj hji=> ?_⟩;by_cases e':j=i
   ·subst e';exact h
   ·exact p2 j hj (by omega)
 ·have ha:=all_true (s:=s) (fun j hj=>p2 j hj (by omega));refine S0 (fun hb h=>?_) fun hb h=>?_
  ·refine aH ?_;unfold validAtom;rw[ha,Bool.true_and];exact decide_eq_decide.2 (by omega)
  ·refine aH ?_;unfold validAtom;rw[ha,Bool.true_and];exact(decide_eq_false (by omega)).symm
theorem Kh(b:UInt8):aC prog 111 [.c (.d (.i .u8 b.toNat))] (.c (.d (.b (bK b)))):=fun S=>by
 have yes:((97<=b.toNat/\b.toNat<=122)\/(48<=b.toNat/\b.toNat<=57)\/b.toNat=39\/b.toNat=45\/b.toNat=43\/b.toNat=42\/b.toNat=60\/b.toNat=61\/b.toNat=46)->bK b=true:=(wN b).2
 have no:¬((97<=b.toNat/\b.toNat<=122)\/(48<=b.toNat/\b.toNat<=57)\/b.toNat=39\/b.toNat=45\/b.toNat=43\/b.toNat=42\/b.toNat=60\/b.toNat=61\/b.toNat=46)->bK b=false:=fun h=>by
  cases hb:bK b with
  |false=>rfl
  |true=>exact absurd ((wN b).1 hb) h
 refine zcx [.tmp 2] func111 ntmps111 ?_;refine W1 ?_
 repeat' (first|(refine S0 (fun hb h=>?_) fun hb h=>?_))
 all_goals first
  |exact aH (yes (by omega)).symm
  |exact aH (no (by omega)).symm
  |(refine aH ?_;cases hb:bK b<;>simp only[decide_eq_true_eq,decide_eq_false_iff_not]<;>(first|(have:=(wN b).1 hb;omega)|(intro q;have:=yes (by omega);rw[hb] at this;cases this)))
theorem acn(s:List UInt8)(hs:s.length<=1073741824):aC prog 175 [.c (.d (.s s))] (.c (.d (.b (validAtom s)))):=fun S=>by
 refine zcx [.tmp 2] func175 ntmps175 ?_;refine W1 ?_
 refine aR (ι:=Nat) zmx rfl [0,3] (fun i=>[.c (.d (.s s)),.c (.d (.i .i64 i))]) (fun _=>[]::S)
  (fun i=>i<=s.length/\∀j,∀hj:j<s.length,j<i->bK s[j]=true) (fun i=>s.length-i) 0 rfl rfl ⟨Nat.zero_le _,fun j _ h=>by omega⟩ ?_
 rintro i ⟨p1,p2⟩;refine W1 ?_;refine S0 (fun hb h=>?_) fun hb h=>?_
 ·have hi:i<s.length:=by omega
  have e:s.getD i 0=s[i]:=by simp[List.getD,hi]
  refine W3 ?_;rw[e];refine C2 (Kh s[i]) ?_;refine S0 (fun hb h=>?_) fun hb h=>?_
  ·exact aH (by unfold validAtom;rw[all_false hi h];rfl)
  ·refine bV (i+1) (by omega) rfl rfl ⟨by omega,fun j hj hji=> ?_⟩;by_cases e':j=i
   ·subst e';exact h
   ·exact p2 j hj (by omega)
 ·have ha:=all_true (s:=s) (fun j hj=>p2 j hj (by omega));refine C2 (Gw s.length 1 12) ?_;refine aH ?_;unfold validAtom;rw[ha,Bool.true_and,<-j5];exact decide_eq_decide.2 (by omega)
theorem Ki:∀n:Nat,(∀x:aj,SizeOf.sizeOf x<n->x.sz<=67108864->aC prog 96 [x.v] (.c (.d (.b (gP x)))))/\
 (∀xs:List aj,SizeOf.sizeOf xs<n->xs.length<=67108864->(∀t∈xs,t.sz<=67108864)->aC prog 150 [.c (.d (.sl (xs.map aj.enc))),.c (.fn 151 [])] (.c (.d (.b (!iG xs)))))
 |0=>⟨fun x h=>by omega,fun x h=>by omega⟩
 |n+1=>by
  obtain⟨ih,qj⟩:=Ki n;refine⟨fun x hn hsz S=> ?_,fun xs hn hlen hsz S=> ?_⟩
  ·have kG:=aj.vI x;have hts:=Et hsz
   have hall:∀t∈x.ah,t.sz<=67108864:=fun t ht=>by
    obtain⟨i,hi,e⟩:=List.getElem_of_mem ht;rw[<-e];exact(Ay hi hsz).1
   have tail:=qj x.ah (by omega) hts.1 hall;have hf:=Es x;refine zcx [.tmp 2] func96 ntmps96 ?_;refine W1 ?_;refine S0 (fun hb h=>?_) fun hb h=>?_
   ·rw[if_neg h] at hf;refine C2 (acj x.aG (by omega)) ?_;refine S0 (fun hb h=>?_) fun hb h=>?_
    ·rw[hf,h,Bool.true_and];exact aH (decide_eq_decide.2 (by omega))
    ·rw[hf,h,Bool.false_and]
   ·rw[if_pos h] at hf;refine aX tail ?_;refine W1 ?_;rw[hf,Bool.not_not]
  ·have hcl:∀y∈xs,aC prog 151 [y.v] (.c (.d (.b (!gP y)))):=fun y hy S=>by
    have hys:=List.sizeOf_lt_of_mem hy;refine zcx [.tmp 2] func151 ntmps151 ?_;refine W1 ?_;exact C4 (ih y (by omega) (hsz y hy))
   have hidx:aC prog 203 [.c (.d (.sl (xs.map aj.enc))),.c (.fn 151 [])] (.c (.d (.i .i64 (tX (fun y=> !gP y) xs)))):=fun S=>by
    refine zcx [.tmp 4] func203 ntmps203 ?_;refine W1 ?_
    refine aR (ι:=Nat) zmx rfl [0,1,7,8] (fun i=>[.c (.d (.sl (xs.map aj.enc))),.c (.fn 151 []),.c (.d (.i .i64 xs.length)),.c (.d (.i .i64 i))]) (fun _=>[]::S)
     (fun i=>i<=xs.length/\∀j,∀hj:j<xs.length,j<i->gP xs[j]=true) (fun i=>xs.length-i) 0 rfl rfl ⟨Nat.zero_le _,fun j _ h=>by omega⟩ ?_
    rintro i ⟨p1,p2⟩;refine W1 ?_;refine S0 (fun hb h=>?_) fun hb h=>?_
    ·have hi:i<xs.length:=by omega
     refine W3 ?_;refine C2 (hcl xs[i] (List.getElem_mem hi)) ?_;refine S0 (fun hb h=>?_) fun hb h=>?_
     ·rw[sQ hi (fun j hj hji=>by rw[p2 j hj hji];rfl) (by rw[h];rfl)]
     ·refine bV (i+1) (by omega) rfl rfl ⟨by omega,fun j hj hji=> ?_⟩;by_cases e:j=i
      ·subst e;exact h
      ·exact p2 j hj (by omega)
    ·rw[wE (fun j hj=>by rw[p2 j hj (by omega)];rfl)]
   refine zcx [.tmp 4] func150 ntmps150 ?_;refine W1 ?_;refine C2 (hidx) ?_;rw[<-O6];exact aH uL
theorem Zb(x:aj)(hsz:x.sz<=67108864):aC prog 96 [x.v] (.c (.d (.b (gP x)))):=(Ki _).1 x (Nat.lt_succ_self _) hsz
theorem GI:∀n:Nat,∀x:aj,SizeOf.sizeOf x<n->x.sz<=67108864->aC prog 97 [x.v] (.c (.d (.i .i64 (kZ x))))
 |0=>fun x h=>by omega
 |n+1=>by
  have ih:=GI n;intro x hn hsz S;have hts:=Et hsz;have hd:=SE x;have hd1:=FW x;have hd2:=Nf hsz;refine zcx [.tmp 2] func97 ntmps97 ?_;refine W1 ?_;refine S0 (fun hb h=>?_) fun hb h=>?_
  ·rw[if_neg h] at hd;rw[hd];rfl
  rw[if_pos h] at hd
  refine aR (ι:=Nat×Nat) zmx rfl [3,10,11,12] (fun y=>[.c (.d (.i .i64 y.2)),.c (.d (.sl (x.ah.map aj.enc))),.c (.d (.i .i64 x.ah.length)),.c (.d (.i .i64 y.1))]) (fun y=>[.box [.d (.s x.aG),.d (.sl (x.ah.map aj.enc))]]::S)
   (fun y=>y.1<=x.ah.length/\kZ x=max y.2 (mM (x.ah.drop y.1))+1) (fun y=>x.ah.length-y.1) (0,0) rfl rfl ⟨Nat.zero_le _,by simp[hd]⟩ ?_
  rintro⟨i,c⟩ ⟨p1,p2⟩;simp only at p1 p2;refine W1 ?_;refine S0 (fun hb h=>?_) fun hb h=>?_
  ·have hi:i<x.ah.length:=by omega
   have hsz':=Ay hi hsz;rw[Kg hi] at p2;refine W3 ?_;refine C2 (ih x.ah[i] (by have:=aj.LG hi;omega) (by omega)) ?_;rw[show max (c:Int) ((kZ x.ah[i]:Int))=((max c (kZ x.ah[i]):Nat):Int) by omega];exact bL 1 (by decide) (i+1,max c (kZ x.ah[i])) (by simp only;omega) rfl rfl rfl rfl ⟨by simp only;omega,by simp only;omega⟩
  ·have hi:i=x.ah.length:=by omega
   rw[hi,List.drop_length,mM] at p2;refine W3 ?_;exact int_eq (by omega)
theorem Ul(x:aj)(hsz:x.sz<=67108864):aC prog 97 [x.v] (.c (.d (.i .i64 (kZ x)))):=GI _ x (Nat.lt_succ_self _) hsz
theorem Jp:∀n:Nat,∀x:aj,SizeOf.sizeOf x<n->x.sz<=67108864->aC prog 98 [x.v] (.c (.d (.i .i64 (je x))))
 |0=>fun x h=>by omega
 |n+1=>by
  have ih:=Jp n;intro x hn hsz S;have hts:=Et hsz;have hd2:=Nf hsz;refine zcx [.tmp 2] func98 ntmps98 ?_;refine W1 ?_
  refine aR (ι:=Nat×Nat) zmx rfl [3,7,8,9] (fun y=>[.c (.d (.i .i64 y.2)),.c (.d (.sl (x.ah.map aj.enc))),.c (.d (.i .i64 x.ah.length)),.c (.d (.i .i64 y.1))]) (fun y=>[.box [.d (.s x.aG),.d (.sl (x.ah.map aj.enc))]]::S)
   (fun y=>y.1<=x.ah.length/\je x=y.2+jX (x.ah.drop y.1)) (fun y=>x.ah.length-y.1) (0,1) rfl rfl ⟨Nat.zero_le _,by simp[Ww];omega⟩ ?_
  rintro⟨i,c⟩ ⟨p1,p2⟩;simp only at p1 p2;refine W1 ?_;refine S0 (fun hb h=>?_) fun hb h=>?_
  ·have hi:i<x.ah.length:=by omega
   have hsz':=Ay hi hsz;rw[ME hi] at p2;refine W3 ?_;refine C2 (ih x.ah[i] (by have:=aj.LG hi;omega) (by omega)) ?_;rw[show(c:Int)+(je x.ah[i]:Int)=((c+je x.ah[i]:Nat):Int) by omega];exact bL 1 (by decide) (i+1,c+je x.ah[i]) (by simp only;omega) rfl rfl rfl rfl ⟨by simp only;omega,by simp only;omega⟩
  ·have hi:i=x.ah.length:=by omega
   rw[hi,List.drop_length,jX] at p2;exact int_eq (by omega)
theorem Wz(x:aj)(hsz:x.sz<=67108864):aC prog 98 [x.v] (.c (.d (.i .i64 (je x)))):=Jp _ x (Nat.lt_succ_self _) hsz
theorem qB(x:aj)(hsz:x.sz<=67108864):aC prog 53 [x.v] (.c (.d (.b (dI x)))):=fun S=>by
 refine zcx [.tmp 2] func53 ntmps53 ?_;refine W1 ?_;refine C2 (Zb x hsz) ?_;refine S0 (fun hb h=>?_) fun hb h=>?_
 ·have hf:=h;refine C2 (Ul x hsz) ?_;refine S0 (fun hb h=>?_) fun hb h=>?_
  ·refine C2 (Wz x hsz) ?_;refine aH ?_;unfold dI;rw[hf,Bool.true_and];exact decide_eq_decide.2 (by omega)
  ·refine aH ?_;unfold dI;rw[hf,Bool.true_and];exact(decide_eq_false (by omega)).symm
 ·refine aH ?_;unfold dI;rw[h,Bool.false_and]
theorem O8:∀n:Nat,∀x:aj,SizeOf.sizeOf x<n->∀l:Int,0<=l->l<=1073741824->x.sz<=67108864->aC prog 112 [x.v,.c (.d (.i .i64 l))] (.c (.d (.i .i64 (oO l (je x)))))
 |0=>fun x h=>by omega
 |n+1=>by
  have ih:=O8 n;intro x hn l h0 h1 hsz S;have hts:=Et hsz;have hcn:=Ww x;refine zcx [.tmp 4] func112 ntmps112 ?_;refine W1 ?_
  refine aR (ι:=Nat×Int) zmx rfl [1,2,5] (fun y=>[.c (.d (.i .i64 y.2)),.c (.ptr (0,0) 0),.c (.d (.i .i64 y.1))]) (fun y=>[.box [.d (.s x.aG),.d (.sl (x.ah.map aj.enc))]]::S)
   (fun y=>y.1<=x.ah.length/\ -1<=y.2/\y.2<=1073741824/\(0<=y.2->oO l (je x)=oO y.2 (jX (x.ah.drop y.1)))/\(y.2<0->oO l (je x)= -1)) (fun y=>x.ah.length-y.1) (0,l-1) rfl rfl ⟨Nat.zero_le _,by simp only;omega,by simp only;omega,fun h=> ?_,fun h=> ?_⟩ ?_
  ·simp only[List.drop_zero] at h ⊢;unfold oO;rw[hcn];split<;>split<;>omega
  ·simp only at h;exact Lr (by omega)
  rintro⟨i,c⟩ ⟨p1,p2,p3,p4,p5⟩;simp only at p1 p2 p3 p4 p5;refine W1 ?_;refine S0 (fun hb h=>?_) fun hb h=>?_
  ·have hi:i<x.ah.length:=by omega
   refine S0 (fun hb h=>?_) fun hb h=>?_
   ·have hsz':=Ay hi hsz;have p6:=p4 h;rw[ME hi] at p6;refine W3 ?_;refine C2 (ih x.ah[i] (by have:=aj.LG hi;omega) c (by omega) (by omega) (by omega)) ?_;refine bV (i+1,oO c _) (by simp only;omega) rfl rfl ⟨by simp only;omega,?_,?_,fun h=> ?_,fun h=> ?_⟩
    ·simp only;unfold oO;split<;>omega
    ·simp only;unfold oO;split<;>omega
    ·simp only at h ⊢;rw[p6];have:=Lp (l:=c) (a:=je x.ah[i]) (by omega);rw[this.1];unfold oO;split<;>split<;>omega
    ·simp only at h ⊢;rw[p6];have:=Ir h;exact Lr (by omega)
   ·have hc:c= -1:=by omega
    rw[p5 (by omega),hc]
  ·have hi:i=x.ah.length:=by omega
   by_cases hc:0<=c
   ·rw[p4 hc,hi,List.drop_length,jX,V6 (by omega)];exact int_eq (by simp)
   ·rw[p5 (by omega)];exact int_eq (by omega)
theorem afi(x:aj)(l:Int)(h0:0<=l)(h1:l<=1073741824)(hsz:x.sz<=67108864):aC prog 112 [x.v,.c (.d (.i .i64 l))] (.c (.d (.i .i64 (oO l (je x))))):=O8 _ x (Nat.lt_succ_self _) l h0 h1 hsz
theorem O9:∀n:Nat,∀x:aj,SizeOf.sizeOf x<n->x.sz<=67108864->aC prog 113 [x.v] (.c (.d (.b (gP x))))
 |0=>fun x h=>by omega
 |n+1=>by
  have ih:=O9 n;intro x hn hsz S;have hts:=Et hsz;have hf:=Es x;refine zcx [.tmp 2] func113 ntmps113 ?_;refine W1 ?_;refine S0 (fun hb h=>?_) fun hb h=>?_
  ·rw[if_neg h] at hf;refine C2 (acn x.aG (by omega)) ?_;refine S0 (fun hb h=>?_) fun hb h=>?_
   ·rw[hf,h,Bool.true_and];exact aH (decide_eq_decide.2 (by omega))
   ·rw[hf,h,Bool.false_and]
  rw[if_pos h] at hf
  refine aR (ι:=Nat) zmx rfl [1,3] (fun y=>[.c (.ptr (0,0) 0),.c (.d (.i .i64 y))]) (fun y=>[.box [.d (.s x.aG),.d (.sl (x.ah.map aj.enc))]]::S)
   (fun y=>y<=x.ah.length/\gP x=iG (x.ah.drop y)) (fun y=>x.ah.length-y) 0 rfl rfl ⟨Nat.zero_le _,hf⟩ ?_
  rintro i ⟨p1,p2⟩;refine W1 ?_;refine S0 (fun hb h=>?_) fun hb h=>?_
  ·have hi:i<x.ah.length:=by omega
   have hsz':=Ay hi hsz;rw[Za hi] at p2;refine W3 ?_;refine C2 (ih x.ah[i] (by have:=aj.LG hi;omega) (by omega)) ?_;refine S0 (fun hb h=>?_) fun hb h=>?_
   ·rw[p2,h,Bool.false_and]
   ·exact bV (i+1) (by omega) rfl rfl ⟨by omega,by rw[p2,h,Bool.true_and]⟩
  ·have hi:i=x.ah.length:=by omega
   rw[hi,List.drop_length,iG] at p2;rw[p2]
theorem afj(x:aj)(hsz:x.sz<=67108864):aC prog 113 [x.v] (.c (.d (.b (gP x)))):=O9 _ x (Nat.lt_succ_self _) hsz
theorem GJ:∀n:Nat,∀x:aj,SizeOf.sizeOf x<n->x.sz<=67108864->aC prog 114 [x.v] (.c (.d (.i .i64 (kZ x))))
 |0=>fun x h=>by omega
 |n+1=>by
  have ih:=GJ n;intro x hn hsz S;have hts:=Et hsz;have hd:=SE x;have hd1:=FW x;have hd2:=Nf hsz;refine zcx [.tmp 2] func114 ntmps114 ?_;refine W1 ?_;refine S0 (fun hb h=>?_) fun hb h=>?_
  ·rw[if_neg h] at hd;rw[hd];rfl
  rw[if_pos h] at hd
  refine aR (ι:=Nat×Nat) zmx rfl [1,3,4] (fun y=>[.c (.ptr (0,0) 0),.c (.d (.i .i64 y.2)),.c (.d (.i .i64 y.1))]) (fun y=>[.box [.d (.s x.aG),.d (.sl (x.ah.map aj.enc))]]::S)
   (fun y=>y.1<=x.ah.length/\kZ x=max y.2 (mM (x.ah.drop y.1))+1) (fun y=>x.ah.length-y.1) (0,0) rfl rfl ⟨Nat.zero_le _,by simp[hd]⟩ ?_
  rintro⟨i,c⟩ ⟨p1,p2⟩;simp only at p1 p2;refine W1 ?_;refine S0 (fun hb h=>?_) fun hb h=>?_
  ·have hi:i<x.ah.length:=by omega
   have hsz':=Ay hi hsz;rw[Kg hi] at p2;refine W3 ?_;refine C2 (ih x.ah[i] (by have:=aj.LG hi;omega) (by omega)) ?_;refine C2 (Wi _ _) ?_;rw[show max (c:Int) ((kZ x.ah[i]:Int))=((max c (kZ x.ah[i]):Nat):Int) by omega];exact bV (i+1,max c (kZ x.ah[i])) (by simp only;omega) rfl rfl ⟨by simp only;omega,by simp only;omega⟩
  ·have hi:i=x.ah.length:=by omega
   rw[hi,List.drop_length,mM] at p2;refine W3 ?_;exact int_eq (by omega)
theorem Um(x:aj)(hsz:x.sz<=67108864):aC prog 114 [x.v] (.c (.d (.i .i64 (kZ x)))):=GJ _ x (Nat.lt_succ_self _) hsz
theorem ng(x:aj)(hsz:x.sz<=67108864):aC prog 60 [x.v] (.c (.d (.b (dI x)))):=fun S=>by
 refine zcx [.tmp 2] func60 ntmps60 ?_;refine W1 ?_;refine C2 (afi x 900 (by omega) (by omega) hsz) ?_;refine S0 (fun hb h=>?_) fun hb h=>?_
 ·have h1:=(Lp (l:=900) (a:=je x) (by omega)).2;refine C2 (afj x hsz) ?_;refine S0 (fun hb h=>?_) fun hb h=>?_
  ·have hf:=h;refine C2 (Um x hsz) ?_;refine aH ?_;unfold dI;rw[hf,Bool.true_and];exact decide_eq_decide.2 (by omega)
  ·refine aH ?_;unfold dI;rw[h,Bool.false_and]
 ·have h1:=Ir (l:=900) (a:=je x) (by omega);refine aH ?_;unfold dI;rw[decide_eq_false (by omega),Bool.and_false]
end Go.Ab