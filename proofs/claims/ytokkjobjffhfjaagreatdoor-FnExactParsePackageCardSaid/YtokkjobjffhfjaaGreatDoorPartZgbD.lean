/-
  SEVERAL TEXTS IN ONE (merged by program): contracts and models, each with its own heading.
-/
import Derived.Test.YtokkjobjffhfjaaGreatDoorPartZgbC
import Derived.Deep.AppendLies
import Derived.Lib.FrozenHead2
import Derived.Laws.ResultCell
import Derived.Lib.AppendZeros
import Derived.Deep.RegionHeld3
import Derived.Deep.RegionLaw
set_option maxHeartbeats 8000000
open Go.Proofs Go.Proofs.Tryz
set_option linter.unusedSimpArgs false
set_option linter.unusedVariables false
set_option maxRecDepth 4000
set_option maxRecDepth 100000
namespace Go.Ab
theorem aeV(b:UInt8):decide (firstIdx ⟨[39,45,43,42,60,61,46].toArray⟩ b>=0)=decide (b∈([39,45,43,42,60,61,46]:List UInt8)):=by
 have h:∀n:Nat,n<256->decide (firstIdx ⟨[39,45,43,42,60,61,46].toArray⟩ (UInt8.ofNat n)>=0)=decide (UInt8.ofNat n∈([39,45,43,42,60,61,46]:List UInt8)):=by decide +kernel
 have h1:=h b.toNat (UInt8.toNat_lt b)
 rwa [UInt8.ofNat_toNat] at h1
theorem ahX(b:UInt8):b∈([39,45,43,42,60,61,46]:List UInt8)<->(b.toNat=39\/b.toNat=45\/b.toNat=43\/b.toNat=42\/b.toNat=60\/b.toNat=61\/b.toNat=46):=by
 have h:∀n:Nat,n<256->(UInt8.ofNat n∈([39,45,43,42,60,61,46]:List UInt8)<->(n=39\/n=45\/n=43\/n=42\/n=60\/n=61\/n=46)):=by decide +kernel
 have h1:=h b.toNat (UInt8.toNat_lt b)
 rwa [UInt8.ofNat_toNat] at h1
theorem wX(b:UInt8):bS b=true<->(97<=b.toNat/\b.toNat<=122)\/(48<=b.toNat/\b.toNat<=57)\/b.toNat=39\/b.toNat=45\/b.toNat=43\/b.toNat=42\/b.toNat=60\/b.toNat=61\/b.toNat=46:=by
 unfold bS;rw[Bool.or_eq_true,Bool.or_eq_true,decide_eq_true_eq,decide_eq_true_eq,decide_eq_true_eq,ahX,or_assoc]
theorem all_false{s:List UInt8}{i:Nat}(hi:i<s.length)(h:bS s[i]=false):s.all bS=false:=by
 rw[List.all_eq_false];exact⟨s[i],List.getElem_mem hi,by simp[h]⟩
theorem all_true{s:List UInt8}(h:∀j (hj:j<s.length),bS s[j]=true):s.all bS=true:=by
 rw[List.all_eq_true];intro b hb;obtain⟨j,hj,e⟩:=List.getElem_of_mem hb;rw[<-e];exact h j hj
theorem Du{x:aj}{i:Nat}(hi:i<x.ah.length)(h:x.sz<=67108864):x.ah[i].sz<=67108864/\x.ah.length<=67108864/\x.aO.length<=67108864:=by
 have:=iO (List.getElem_mem hi);rw[jW,mh] at h;omega
theorem Gh{x:aj}(h:x.sz<=67108864):x.ah.length<=67108864/\x.aO.length<=67108864:=by
 rw[jW,mh] at h;omega
theorem YX{l:List aj}{i:Nat}(hi:i<l.length):jw (l.drop i)=(iK l[i]&&jw (l.drop (i+1))):=by rw[List.drop_eq_getElem_cons hi,jw]
theorem J4{l:List aj}{i:Nat}(hi:i<l.length):mV (l.drop i)=max (kW l[i]) (mV (l.drop (i+1))):=by rw[List.drop_eq_getElem_cons hi,mV]
theorem Ml{l:List aj}{i:Nat}(hi:i<l.length):j3 (l.drop i)=jg l[i]+j3 (l.drop (i+1)):=by rw[List.drop_eq_getElem_cons hi,j3]
theorem MX{x:aj}(h:x.sz<=67108864):jg x<=67108865:=by have:=V6 x;omega
theorem aj.O8{x:aj}{i:Nat}(hi:i<x.ah.length):SizeOf.sizeOf x.ah[i]<SizeOf.sizeOf x:=by
 have:=List.sizeOf_lt_of_mem (List.getElem_mem hi);have:=aj.vT x;omega
theorem O9(l:List UInt8)(b:UInt8):aH prog 126 [.c (.d (.s l)),.c (.d (.i .u8 b.toNat))] (.c (.d (.i .i64 (firstIdx ⟨l.toArray⟩ b)))):=fun S=>by
 refine aD (rs:=[.tmp 4]) zmx func126 ntmps126 rfl rfl rfl rfl rfl ?_;refine W1 ?_;exact C4 (J3 l b)
theorem Cr(b:UInt8):aH prog 65 [.c (.d (.i .u8 b.toNat))] (.c (.d (.b (bS b)))):=fun S=>by
 refine aD (rs:=[.tmp 2]) zmx func65 ntmps65 rfl rfl rfl rfl rfl ?_;refine W1 ?_;refine C2 (OP b) ?_;refine S0 (fun hb h=>?_) fun hb h=>?_
 ·exact ay ((wX b).2 (.inl h)).symm
 have h1:=h;refine C2 (OQ b) ?_;refine S0 (fun hb h=>?_) fun hb h=>?_
 ·exact ay ((wX b).2 (.inr (.inl h))).symm
 have h2:=h;refine C2 (O9 [39,45,43,42,60,61,46] b) ?_;refine ay ?_;rw[aeV];unfold bS;unfold lowerB at h1;unfold sV at h2;simp[h1,h2]
theorem ab2(s:List UInt8)(hs:s.length<=1073741824):aH prog 188 [.c (.d (.s s))] (.c (.d (.b (validAtom s)))):=fun S=>by
 refine aD (rs:=[.tmp 2]) zmx func188 ntmps188 rfl rfl rfl rfl rfl ?_;refine W1 ?_
 refine aU (ι:=Nat) zmx rfl [0,5,6] (fun i=>[.c (.d (.s s)),.c (.d (.i .i64 s.length)),.c (.d (.i .i64 i))]) (fun _=>[]::S)
  (fun i=>i<=s.length/\∀j,∀hj:j<s.length,j<i->bS s[j]=true) (fun i=>s.length-i) 0 rfl rfl ⟨Nat.zero_le _,fun j _ h=>by omega⟩ ?_
 rintro i ⟨p1,p2⟩;refine W1 ?_;refine S0 (fun hb h=>?_) fun hb h=>?_
 ·have hi:i<s.length:=by omega
  have e:s.getD i 0=s[i]:=by simp[List.getD,hi]
  refine W3 ?_;rw[e];refine C2 (Cr s[i]) ?_;refine S0 (fun hb h=>?_) fun hb h=>?_
  ·exact ay (by unfold validAtom;rw[all_false hi h];rfl)
  ·refine bJ (i+1) (by omega) rfl rfl ⟨by omega,fun j hj hji=> ?_⟩;by_cases e':j=i
   ·subst e';exact h
   ·exact p2 j hj (by omega)
 ·have ha:=all_true (s:=s) (fun j hj=>p2 j hj (by omega));refine S0 (fun hb h=>?_) fun hb h=>?_
  ·refine ay ?_;unfold validAtom;rw[ha,Bool.true_and];exact decide_eq_decide.2 (by omega)
  ·refine ay ?_;unfold validAtom;rw[ha,Bool.true_and];exact(decide_eq_false (by omega)).symm
theorem J5(b:UInt8):aH prog 106 [.c (.d (.i .u8 b.toNat))] (.c (.d (.b (bS b)))):=fun S=>by
 have yes:((97<=b.toNat/\b.toNat<=122)\/(48<=b.toNat/\b.toNat<=57)\/b.toNat=39\/b.toNat=45\/b.toNat=43\/b.toNat=42\/b.toNat=60\/b.toNat=61\/b.toNat=46)->bS b=true:=(wX b).2
 have no:¬((97<=b.toNat/\b.toNat<=122)\/(48<=b.toNat/\b.toNat<=57)\/b.toNat=39\/b.toNat=45\/b.toNat=43\/b.toNat=42\/b.toNat=60\/b.toNat=61\/b.toNat=46)->bS b=false:=fun h=>by
  cases hb:bS b with
  |false=>rfl
  |true=>exact absurd ((wX b).1 hb) h
 refine aD (rs:=[.tmp 2]) zmx func106 ntmps106 rfl rfl rfl rfl rfl ?_;refine W1 ?_
 repeat' (first|(refine S0 (fun hb h=>?_) fun hb h=>?_))
 all_goals first
  |exact ay (yes (by omega)).symm
  |exact ay (no (by omega)).symm
  |(refine ay ?_;cases hb:bS b<;>simp only[decide_eq_true_eq,decide_eq_false_iff_not]<;>(first|(have:=(wX b).1 hb;omega)|(intro q;have:=yes (by omega);rw[hb] at this;cases this)))
theorem ab3(s:List UInt8)(hs:s.length<=1073741824):aH prog 175 [.c (.d (.s s))] (.c (.d (.b (validAtom s)))):=fun S=>by
 refine aD (rs:=[.tmp 2]) zmx func175 ntmps175 rfl rfl rfl rfl rfl ?_;refine W1 ?_
 refine aU (ι:=Nat) zmx rfl [0,3] (fun i=>[.c (.d (.s s)),.c (.d (.i .i64 i))]) (fun _=>[]::S)
  (fun i=>i<=s.length/\∀j,∀hj:j<s.length,j<i->bS s[j]=true) (fun i=>s.length-i) 0 rfl rfl ⟨Nat.zero_le _,fun j _ h=>by omega⟩ ?_
 rintro i ⟨p1,p2⟩;refine W1 ?_;refine S0 (fun hb h=>?_) fun hb h=>?_
 ·have hi:i<s.length:=by omega
  have e:s.getD i 0=s[i]:=by simp[List.getD,hi]
  refine W3 ?_;rw[e];refine C2 (J5 s[i]) ?_;refine S0 (fun hb h=>?_) fun hb h=>?_
  ·exact ay (by unfold validAtom;rw[all_false hi h];rfl)
  ·refine bJ (i+1) (by omega) rfl rfl ⟨by omega,fun j hj hji=> ?_⟩;by_cases e':j=i
   ·subst e';exact h
   ·exact p2 j hj (by omega)
 ·have ha:=all_true (s:=s) (fun j hj=>p2 j hj (by omega));refine C2 (Gb s.length 1 12) ?_;refine ay ?_;unfold validAtom;rw[ha,Bool.true_and,<-ku];exact decide_eq_decide.2 (by omega)
theorem J6:∀n:Nat,(∀x:aj,SizeOf.sizeOf x<n->x.sz<=67108864->aH prog 127 [x.v] (.c (.d (.b (iK x)))))/\
 (∀xs:List aj,SizeOf.sizeOf xs<n->xs.length<=67108864->(∀t∈xs,t.sz<=67108864)->aH prog 189 [.c (.d (.sl (xs.map aj.enc))),.c (.fn 190 [])] (.c (.d (.b (!jw xs)))))
 |0=>⟨fun x h=>by omega,fun x h=>by omega⟩
 |n+1=>by
  obtain⟨ih,qQ⟩:=J6 n;refine⟨fun x hn hsz S=> ?_,fun xs hn hlen hsz S=> ?_⟩
  ·have jX:=aj.vT x;have hts:=Gh hsz
   have hall:∀t∈x.ah,t.sz<=67108864:=fun t ht=>by
    obtain⟨i,hi,e⟩:=List.getElem_of_mem ht;rw[<-e];exact(Du hi hsz).1
   have tail:=qQ x.ah (by omega) hts.1 hall;have hf:=D8 x;refine aD (rs:=[.tmp 2]) zmx func127 ntmps127 rfl rfl rfl rfl rfl ?_;refine W1 ?_;refine S0 (fun hb h=>?_) fun hb h=>?_
   ·rw[if_neg h] at hf;refine C2 (ab2 x.aO (by omega)) ?_;refine S0 (fun hb h=>?_) fun hb h=>?_
    ·rw[hf,h,Bool.true_and];exact ay (decide_eq_decide.2 (by omega))
    ·rw[hf,h,Bool.false_and]
   ·rw[if_pos h] at hf;refine aZ tail ?_;refine W1 ?_;rw[hf,Bool.not_not]
  ·have hcl:∀y∈xs,aH prog 190 [y.v] (.c (.d (.b (!iK y)))):=fun y hy S=>by
    have hys:=List.sizeOf_lt_of_mem hy;refine aD (rs:=[.tmp 2]) zmx func190 ntmps190 rfl rfl rfl rfl rfl ?_;refine W1 ?_;exact C4 (ih y (by omega) (hsz y hy))
   have hidx:aH prog 256 [.c (.d (.sl (xs.map aj.enc))),.c (.fn 190 [])] (.c (.d (.i .i64 (uI (fun y=> !iK y) xs)))):=fun S=>by
    refine aD (rs:=[.tmp 4]) zmx func256 ntmps256 rfl rfl rfl rfl rfl ?_;refine W1 ?_
    refine aU (ι:=Nat) zmx rfl [0,1,7,8] (fun i=>[.c (.d (.sl (xs.map aj.enc))),.c (.fn 190 []),.c (.d (.i .i64 xs.length)),.c (.d (.i .i64 i))]) (fun _=>[]::S)
     (fun i=>i<=xs.length/\∀j,∀hj:j<xs.length,j<i->iK xs[j]=true) (fun i=>xs.length-i) 0 rfl rfl ⟨Nat.zero_le _,fun j _ h=>by omega⟩ ?_
    rintro i ⟨p1,p2⟩;refine W1 ?_;refine S0 (fun hb h=>?_) fun hb h=>?_
    ·have hi:i<xs.length:=by omega
     refine W3 ?_;refine C2 (hcl xs[i] (List.getElem_mem hi)) ?_;refine S0 (fun hb h=>?_) fun hb h=>?_
     ·rw[tT hi (fun j hj hji=>by rw[p2 j hj hji];rfl) (by rw[h];rfl)]
     ·refine bJ (i+1) (by omega) rfl rfl ⟨by omega,fun j hj hji=> ?_⟩;by_cases e:j=i
      ·subst e;exact h
      ·exact p2 j hj (by omega)
    ·rw[wO (fun j hj=>by rw[p2 j hj (by omega)];rfl)]
   refine aD (rs:=[.tmp 4]) zmx func189 ntmps189 rfl rfl rfl rfl rfl ?_;refine W1 ?_;refine C2 (hidx) ?_;rw[<-OA];exact ay u7
theorem YZ(x:aj)(hsz:x.sz<=67108864):aH prog 127 [x.v] (.c (.d (.b (iK x)))):=(J6 _).1 x (Nat.lt_succ_self _) hsz
theorem Gi:∀n:Nat,∀x:aj,SizeOf.sizeOf x<n->x.sz<=67108864->aH prog 128 [x.v] (.c (.d (.i .i64 (kW x))))
 |0=>fun x h=>by omega
 |n+1=>by
  have ih:=Gi n;intro x hn hsz S;have hts:=Gh hsz;have hd:=R9 x;have hd1:=Fz x;have hd2:=MX hsz;refine aD (rs:=[.tmp 2]) zmx func128 ntmps128 rfl rfl rfl rfl rfl ?_;refine W1 ?_;refine S0 (fun hb h=>?_) fun hb h=>?_
  ·rw[if_neg h] at hd;rw[hd];rfl
  rw[if_pos h] at hd
  refine aU (ι:=Nat×Nat) zmx rfl [3,10,11,12] (fun y=>[.c (.d (.i .i64 y.2)),.c (.d (.sl (x.ah.map aj.enc))),.c (.d (.i .i64 x.ah.length)),.c (.d (.i .i64 y.1))]) (fun y=>[.box [.d (.s x.aO),.d (.sl (x.ah.map aj.enc))]]::S)
   (fun y=>y.1<=x.ah.length/\kW x=max y.2 (mV (x.ah.drop y.1))+1) (fun y=>x.ah.length-y.1) (0,0) rfl rfl ⟨Nat.zero_le _,by simp[hd]⟩ ?_
  rintro⟨i,c⟩ ⟨p1,p2⟩;simp only at p1 p2;refine W1 ?_;refine S0 (fun hb h=>?_) fun hb h=>?_
  ·have hi:i<x.ah.length:=by omega
   have hsz':=Du hi hsz;rw[J4 hi] at p2;refine W3 ?_;refine C2 (ih x.ah[i] (by have:=aj.O8 hi;omega) (by omega)) ?_;rw[show max (c:Int) ((kW x.ah[i]:Int))=((max c (kW x.ah[i]):Nat):Int) by omega];exact bZ 1 (by decide) (i+1,max c (kW x.ah[i])) (by simp only;omega) rfl rfl rfl rfl ⟨by simp only;omega,by simp only;omega⟩
  ·have hi:i=x.ah.length:=by omega
   rw[hi,List.drop_length,mV] at p2;refine W3 ?_;exact int_eq (by omega)
theorem TR(x:aj)(hsz:x.sz<=67108864):aH prog 128 [x.v] (.c (.d (.i .i64 (kW x)))):=Gi _ x (Nat.lt_succ_self _) hsz
theorem I4:∀n:Nat,∀x:aj,SizeOf.sizeOf x<n->x.sz<=67108864->aH prog 129 [x.v] (.c (.d (.i .i64 (jg x))))
 |0=>fun x h=>by omega
 |n+1=>by
  have ih:=I4 n;intro x hn hsz S;have hts:=Gh hsz;have hd2:=MX hsz;refine aD (rs:=[.tmp 2]) zmx func129 ntmps129 rfl rfl rfl rfl rfl ?_;refine W1 ?_
  refine aU (ι:=Nat×Nat) zmx rfl [3,7,8,9] (fun y=>[.c (.d (.i .i64 y.2)),.c (.d (.sl (x.ah.map aj.enc))),.c (.d (.i .i64 x.ah.length)),.c (.d (.i .i64 y.1))]) (fun y=>[.box [.d (.s x.aO),.d (.sl (x.ah.map aj.enc))]]::S)
   (fun y=>y.1<=x.ah.length/\jg x=y.2+j3 (x.ah.drop y.1)) (fun y=>x.ah.length-y.1) (0,1) rfl rfl ⟨Nat.zero_le _,by simp[V5];omega⟩ ?_
  rintro⟨i,c⟩ ⟨p1,p2⟩;simp only at p1 p2;refine W1 ?_;refine S0 (fun hb h=>?_) fun hb h=>?_
  ·have hi:i<x.ah.length:=by omega
   have hsz':=Du hi hsz;rw[Ml hi] at p2;refine W3 ?_;refine C2 (ih x.ah[i] (by have:=aj.O8 hi;omega) (by omega)) ?_;rw[show(c:Int)+(jg x.ah[i]:Int)=((c+jg x.ah[i]:Nat):Int) by omega];exact bZ 1 (by decide) (i+1,c+jg x.ah[i]) (by simp only;omega) rfl rfl rfl rfl ⟨by simp only;omega,by simp only;omega⟩
  ·have hi:i=x.ah.length:=by omega
   rw[hi,List.drop_length,j3] at p2;exact int_eq (by omega)
theorem Ww(x:aj)(hsz:x.sz<=67108864):aH prog 129 [x.v] (.c (.d (.i .i64 (jg x)))):=I4 _ x (Nat.lt_succ_self _) hsz
theorem I5(x:aj)(hsz:x.sz<=67108864):aH prog 66 [x.v] (.c (.d (.b (fM x)))):=fun S=>by
 refine aD (rs:=[.tmp 2]) zmx func66 ntmps66 rfl rfl rfl rfl rfl ?_;refine W1 ?_;refine C2 (YZ x hsz) ?_;refine S0 (fun hb h=>?_) fun hb h=>?_
 ·have hf:=h;refine C2 (TR x hsz) ?_;refine S0 (fun hb h=>?_) fun hb h=>?_
  ·refine C2 (Ww x hsz) ?_;refine ay ?_;unfold fM;rw[hf,Bool.true_and];exact decide_eq_decide.2 (by omega)
  ·refine ay ?_;unfold fM;rw[hf,Bool.true_and];exact(decide_eq_false (by omega)).symm
 ·refine ay ?_;unfold fM;rw[h,Bool.false_and]
theorem Pb:∀n:Nat,∀x:aj,SizeOf.sizeOf x<n->∀l:Int,0<=l->l<=1073741824->x.sz<=67108864->aH prog 107 [x.v,.c (.d (.i .i64 l))] (.c (.d (.i .i64 (pV l (jg x)))))
 |0=>fun x h=>by omega
 |n+1=>by
  have ih:=Pb n;intro x hn l h0 h1 hsz S;have hts:=Gh hsz;have hcn:=V5 x;refine aD (rs:=[.tmp 4]) zmx func107 ntmps107 rfl rfl rfl rfl rfl ?_;refine W1 ?_
  refine aU (ι:=Nat×Int) zmx rfl [1,2,5] (fun y=>[.c (.d (.i .i64 y.2)),.c (.ptr (0,0) 0),.c (.d (.i .i64 y.1))]) (fun y=>[.box [.d (.s x.aO),.d (.sl (x.ah.map aj.enc))]]::S)
   (fun y=>y.1<=x.ah.length/\ -1<=y.2/\y.2<=1073741824/\(0<=y.2->pV l (jg x)=pV y.2 (j3 (x.ah.drop y.1)))/\(y.2<0->pV l (jg x)= -1)) (fun y=>x.ah.length-y.1) (0,l-1) rfl rfl ⟨Nat.zero_le _,by simp only;omega,by simp only;omega,fun h=> ?_,fun h=> ?_⟩ ?_
  ·simp only[List.drop_zero] at h ⊢;unfold pV;rw[hcn];split<;>split<;>omega
  ·simp only at h;exact Lb (by omega)
  rintro⟨i,c⟩ ⟨p1,p2,p3,p4,p5⟩;simp only at p1 p2 p3 p4 p5;refine W1 ?_;refine S0 (fun hb h=>?_) fun hb h=>?_
  ·have hi:i<x.ah.length:=by omega
   refine S0 (fun hb h=>?_) fun hb h=>?_
   ·have hsz':=Du hi hsz;have p6:=p4 h;rw[Ml hi] at p6;refine W3 ?_;refine C2 (ih x.ah[i] (by have:=aj.O8 hi;omega) c (by omega) (by omega) (by omega)) ?_;refine bJ (i+1,pV c _) (by simp only;omega) rfl rfl ⟨by simp only;omega,?_,?_,fun h=> ?_,fun h=> ?_⟩
    ·simp only;unfold pV;split<;>omega
    ·simp only;unfold pV;split<;>omega
    ·simp only at h ⊢;rw[p6];have:=La (l:=c) (a:=jg x.ah[i]) (by omega);rw[this.1];unfold pV;split<;>split<;>omega
    ·simp only at h ⊢;rw[p6];have:=Hu h;exact Lb (by omega)
   ·have hc:c= -1:=by omega
    rw[p5 (by omega),hc]
  ·have hi:i=x.ah.length:=by omega
   by_cases hc:0<=c
   ·rw[p4 hc,hi,List.drop_length,j3,VZ (by omega)];exact int_eq (by simp)
   ·rw[p5 (by omega)];exact int_eq (by omega)
theorem aeW(x:aj)(l:Int)(h0:0<=l)(h1:l<=1073741824)(hsz:x.sz<=67108864):aH prog 107 [x.v,.c (.d (.i .i64 l))] (.c (.d (.i .i64 (pV l (jg x))))):=Pb _ x (Nat.lt_succ_self _) l h0 h1 hsz
theorem Pf:∀n:Nat,∀x:aj,SizeOf.sizeOf x<n->x.sz<=67108864->aH prog 108 [x.v] (.c (.d (.b (iK x))))
 |0=>fun x h=>by omega
 |n+1=>by
  have ih:=Pf n;intro x hn hsz S;have hts:=Gh hsz;have hf:=D8 x;refine aD (rs:=[.tmp 2]) zmx func108 ntmps108 rfl rfl rfl rfl rfl ?_;refine W1 ?_;refine S0 (fun hb h=>?_) fun hb h=>?_
  ·rw[if_neg h] at hf;refine C2 (ab3 x.aO (by omega)) ?_;refine S0 (fun hb h=>?_) fun hb h=>?_
   ·rw[hf,h,Bool.true_and];exact ay (decide_eq_decide.2 (by omega))
   ·rw[hf,h,Bool.false_and]
  rw[if_pos h] at hf
  refine aU (ι:=Nat) zmx rfl [1,3] (fun y=>[.c (.ptr (0,0) 0),.c (.d (.i .i64 y))]) (fun y=>[.box [.d (.s x.aO),.d (.sl (x.ah.map aj.enc))]]::S)
   (fun y=>y<=x.ah.length/\iK x=jw (x.ah.drop y)) (fun y=>x.ah.length-y) 0 rfl rfl ⟨Nat.zero_le _,hf⟩ ?_
  rintro i ⟨p1,p2⟩;refine W1 ?_;refine S0 (fun hb h=>?_) fun hb h=>?_
  ·have hi:i<x.ah.length:=by omega
   have hsz':=Du hi hsz;rw[YX hi] at p2;refine W3 ?_;refine C2 (ih x.ah[i] (by have:=aj.O8 hi;omega) (by omega)) ?_;refine S0 (fun hb h=>?_) fun hb h=>?_
   ·rw[p2,h,Bool.false_and]
   ·exact bJ (i+1) (by omega) rfl rfl ⟨by omega,by rw[p2,h,Bool.true_and]⟩
  ·have hi:i=x.ah.length:=by omega
   rw[hi,List.drop_length,jw] at p2;rw[p2]
theorem aeX(x:aj)(hsz:x.sz<=67108864):aH prog 108 [x.v] (.c (.d (.b (iK x)))):=Pf _ x (Nat.lt_succ_self _) hsz
theorem Gj:∀n:Nat,∀x:aj,SizeOf.sizeOf x<n->x.sz<=67108864->aH prog 109 [x.v] (.c (.d (.i .i64 (kW x))))
 |0=>fun x h=>by omega
 |n+1=>by
  have ih:=Gj n;intro x hn hsz S;have hts:=Gh hsz;have hd:=R9 x;have hd1:=Fz x;have hd2:=MX hsz;refine aD (rs:=[.tmp 2]) zmx func109 ntmps109 rfl rfl rfl rfl rfl ?_;refine W1 ?_;refine S0 (fun hb h=>?_) fun hb h=>?_
  ·rw[if_neg h] at hd;rw[hd];rfl
  rw[if_pos h] at hd
  refine aU (ι:=Nat×Nat) zmx rfl [1,3,4] (fun y=>[.c (.ptr (0,0) 0),.c (.d (.i .i64 y.2)),.c (.d (.i .i64 y.1))]) (fun y=>[.box [.d (.s x.aO),.d (.sl (x.ah.map aj.enc))]]::S)
   (fun y=>y.1<=x.ah.length/\kW x=max y.2 (mV (x.ah.drop y.1))+1) (fun y=>x.ah.length-y.1) (0,0) rfl rfl ⟨Nat.zero_le _,by simp[hd]⟩ ?_
  rintro⟨i,c⟩ ⟨p1,p2⟩;simp only at p1 p2;refine W1 ?_;refine S0 (fun hb h=>?_) fun hb h=>?_
  ·have hi:i<x.ah.length:=by omega
   have hsz':=Du hi hsz;rw[J4 hi] at p2;refine W3 ?_;refine C2 (ih x.ah[i] (by have:=aj.O8 hi;omega) (by omega)) ?_;refine C2 (Wm _ _) ?_;rw[show max (c:Int) ((kW x.ah[i]:Int))=((max c (kW x.ah[i]):Nat):Int) by omega];exact bJ (i+1,max c (kW x.ah[i])) (by simp only;omega) rfl rfl ⟨by simp only;omega,by simp only;omega⟩
  ·have hi:i=x.ah.length:=by omega
   rw[hi,List.drop_length,mV] at p2;refine W3 ?_;exact int_eq (by omega)
theorem TS(x:aj)(hsz:x.sz<=67108864):aH prog 109 [x.v] (.c (.d (.i .i64 (kW x)))):=Gj _ x (Nat.lt_succ_self _) hsz
theorem oW(x:aj)(hsz:x.sz<=67108864):aH prog 60 [x.v] (.c (.d (.b (fM x)))):=fun S=>by
 refine aD (rs:=[.tmp 2]) zmx func60 ntmps60 rfl rfl rfl rfl rfl ?_;refine W1 ?_;refine C2 (aeW x 900 (by omega) (by omega) hsz) ?_;refine S0 (fun hb h=>?_) fun hb h=>?_
 ·have h1:=(La (l:=900) (a:=jg x) (by omega)).2;refine C2 (aeX x hsz) ?_;refine S0 (fun hb h=>?_) fun hb h=>?_
  ·have hf:=h;refine C2 (TS x hsz) ?_;refine ay ?_;unfold fM;rw[hf,Bool.true_and];exact decide_eq_decide.2 (by omega)
  ·refine ay ?_;unfold fM;rw[h,Bool.false_and]
 ·have h1:=Hu (l:=900) (a:=jg x) (by omega);refine ay ?_;unfold fM;rw[decide_eq_false (by omega),Bool.and_false]
theorem ahY{w:World}{σ:Nat->Nat}(hl:∀b,b<w.heap.size\/σ b=0)(hg:nD w σ):fE w σ [] []:=
 ⟨fun k o h=>(by cases h),fun k k' o o' h h' b h1=>(by cases h1),⟨rfl,fun l fr h=>(by cases h)⟩,hl,hg⟩
theorem Ib{P:Program}{f:FuncId}{args:List V}{r:V}(h:aH P f args r){w:World}{σ:Nat->Nat}(hl:∀b,b<w.heap.size\/σ b=0)(hg:nD w σ){vs:List Value}(hv:qg w σ [] [] args vs):
 Calls P f vs.toArray w fun e w'=>∃v σ',e=.returned v/\dP w' σ' [] [] r v/\Grow w σ w' σ'/\nD w' σ':=
 ((h []).2 w σ [] vs (ahY hl hg) hv).mono fun e w' ⟨v,r',S',σ',β',he,hS,hk,hst,yZ,hr,hS'⟩=>by
   subst hr hS'
   cases β' with
   |cons a l=>have:=hS.shape.1;simp at this
   |nil=>exact⟨v,σ',he,yZ,⟨hst.size,hst.os,hst.output,fun b hb=>hst.far b hb (fun⟨k,o,h,e,_⟩=>by cases e),hS.live⟩,hS.uz⟩
theorem ahZ{x:V}{vs:List Value}{w:World}{σ:Nat->Nat}{S:Store}{β:Hs}(h:qg w σ S β [x] vs):∃v,vs=[v]/\dP w σ S β x v:=by
 obtain⟨hl,h⟩:=h;obtain⟨v,e0,h0⟩:=h 0 x rfl
 match vs,hl,e0 with
 |[a],_,e0=>simp at e0;subst e0;exact⟨_,rfl,h0⟩
open Go.RowKit
structure Ct(w:World)(σ:Nat->Nat)(B:Nat)(e:TypeId)(v:Value)(l:List aj):Prop where
 own:∃xs,w.ownsRow B e 2 v l.length xs/\∀(i:Nat)(d:D),(l.map aj.enc).flatten[i]? =some d->∃u,xs[i]? =some u/\dI w σ d u
 free:∀b,v.ownBlock=some b->σ b=0
theorem EU{w w':World}{B:Nat}{e:TypeId}{z n:Nat}{v:Value}{xs:List Value}(h:w.ownsRow B e z v n xs)(hk:∀b,v.ownBlock=some b->w'.heap[b]? =w.heap[b]?):w'.ownsRow B e z v n xs:=by
 refine⟨h.1,?_⟩;rcases h.2 with hn|⟨g,cap,cur,rfl,hb,hg,rest⟩
 ·exact .inl hn
 ·exact .inr ⟨g,cap,cur,rfl,hb,(hk g rfl).trans hg,rest⟩
theorem Ct.mono{w w':World}{σ σ':Nat->Nat}{B:Nat}{e:TypeId}{v:Value}{l:List aj}(h:Ct w σ B e v l)(hn:eH w σ w' σ')(hk:∀b,v.ownBlock=some b->w'.heap[b]? =w.heap[b]? /\σ' b=σ b):Ct w' σ' B e v l:=by
 obtain⟨⟨xs,h1,h2⟩,h3⟩:=h;refine⟨⟨xs,EU h1 fun b hb=>(hk b hb).1,fun i d hd=> ?_⟩,fun b hb=>(hk b hb).2.trans (h3 b hb)⟩;obtain⟨u,hu,hr⟩:=h2 i d hd;exact⟨u,hu,hr.mono hn⟩
theorem Ec(l:List aj):∀e∈l.map aj.enc,e.length=2:=by
 intro e he;obtain⟨x,_,rfl⟩:=List.mem_map.1 he;rw[aj.aB];rfl
theorem Ct.fast{w:World}{σ:Nat->Nat}{B:Nat}{e:TypeId}{v:Value}{l:List aj}(h:Ct w σ B e v l)(hl:∀b,b<w.heap.size\/σ b=0):
 ∃σ',eH w σ w σ'/\(∀b,v.ownBlock≠some b->σ' b=σ b)/\(∀b,b<w.heap.size\/σ' b=0)/\dI w σ' (.sl (l.map aj.enc)) v:=by
 obtain⟨⟨xs,⟨h1,h2⟩,h3⟩,h4⟩:=h;rcases h2 with⟨rfl,h0⟩|⟨g,cap,cur,rfl,hb,hg,hn,hm,hs,ht⟩
 ·obtain rfl:l=[]:=List.eq_nil_of_length_eq_zero h0;exact⟨σ,eH.refl _ _,fun _ _=>rfl,hl,.nil _ _⟩
 have hn':eH w σ w (fun b=>if b=g then 0+(l.map aj.enc).length*2 else σ b):=by
  intro b1 c1 t1 F4 e1;by_cases q:b1=g
  ·subst q;have:=h4 b1 rfl;rw[hg] at e1;cases e1;exact⟨by simp only[if_true];omega,fun h=>by omega,cur,hg,rfl,fun _ _=>rfl⟩
  ·exact⟨by simp only[if_neg q];exact Nat.le_refl _,fun _=>if_neg q,c1,e1,rfl,fun _ _=>rfl⟩
 refine⟨_,hn',fun b hb=>if_neg fun q=>hb (by rw[q];rfl),fun b=> ?_,?_⟩
 ·by_cases q:b=g
  ·left;rw[q];exact lt_of_some hg
  ·simp only[if_neg q];exact hl b
 ·have hlen:(l.map aj.enc).length=l.length:=by simp
  have hfl:=kr _ 2 (Ec l)
  have:=dI.sl (w:=w) (σ:=fun b=>if b=g then 0+(l.map aj.enc).length*2 else σ b) g 0 cap 2 (l.map aj.enc) (fun i=>(cur[i]?).getD undef) cur e (0,0) (by omega) (Ec l) hg (by simp) (fun i hi=>by
   have:i<cur.size:=by rw[hlen] at hi;have:l.length*2<=cap*2:=Nat.mul_le_mul_right _ hn;omega
   simp[this]) (fun i d hd=>by
   obtain⟨u,hu,hr⟩:=h3 i d hd;have hil:=(List.getElem?_eq_some_iff.1 hd).1;rw[<-ht,List.getElem?_take_of_lt (by omega),Array.getElem?_toList] at hu;simp only[hu,Option.getD_some]
   exact hr.mono hn')
  simp only[List.length_map] at this ⊢;exact this
structure kC(w:World)(σ:Nat->Nat)(B:Nat)(eo e:TypeId)(ov:Value)(hs:List Value)(rs:List (List aj)):Prop where
 own:w.ownsRow B eo 1 ov hs.length hs
 free:∀b,ov.ownBlock=some b->σ b=0
 rows:∀(j:Nat)(l:List aj),rs[j]? =some l->∃hv,hs[j]? =some hv/\Ct w σ B e hv l/\∀b,hv.ownBlock=some b->ov.ownBlock≠some b
 apart:∀(i j:Nat)(hi hj:Value)(b:Nat),i≠j->i<rs.length->j<rs.length->hs[i]? =some hi->hs[j]? =some hj->hi.ownBlock=some b->hj.ownBlock≠some b
theorem kC.mono{w w':World}{σ σ':Nat->Nat}{B:Nat}{eo e:TypeId}{ov:Value}{hs:List Value}{rs:List (List aj)}(h:kC w σ B eo e ov hs rs)(hn:eH w σ w' σ')
 (hk:∀b,b<w.heap.size->σ b=0->w'.heap[b]? =w.heap[b]? /\σ' b=σ b):kC w' σ' B eo e ov hs rs:=by
 have hlt:∀b,ov.ownBlock=some b->b<w.heap.size:=fun b hb=>(h.own.lt b hb).2;refine⟨EU h.own fun b hb=>(hk b (hlt b hb) (h.free b hb)).1,fun b hb=>(hk b (hlt b hb) (h.free b hb)).2.trans (h.free b hb),fun j l hj=> ?_,h.apart⟩;obtain⟨hv,h1,h2,h3⟩:=h.rows j l hj;refine⟨hv,h1,h2.mono hn fun b hb=> ?_,h3⟩;obtain⟨xs,ho,_⟩:=h2.own;exact hk b (ho.lt b hb).2 (h2.free b hb)
theorem kC.grow{w w':World}{σ σ':Nat->Nat}{B:Nat}{eo e:TypeId}{ov:Value}{hs:List Value}{rs:List (List aj)}(h:kC w σ B eo e ov hs rs)(hg:Grow w σ w' σ'):kC w' σ' B eo e ov hs rs:=
 h.mono hg.near fun b hb _=>hg.old b hb
theorem kC.fast{w:World}{σ:Nat->Nat}{B:Nat}{eo e:TypeId}{ov:Value}{hs:List Value}{rs:List (List aj)}{l:List aj}(h:kC w σ B eo e ov hs (rs++[l]))(hl:∀b,b<w.heap.size\/σ b=0):
 ∃σ' hv,eH w σ w σ'/\(∀b,b<w.heap.size\/σ' b=0)/\(∀b,b<B->σ' b=σ b)/\hs[rs.length]? =some hv/\dI w σ' (.sl (l.map aj.enc)) hv/\kC w σ' B eo e ov hs rs:=by
 obtain⟨hv,h1,h2,h3⟩:=h.rows rs.length l (by simp);obtain⟨σ',k1,k2,k3,k4⟩:=h2.fast hl;refine⟨σ',hv,k1,k3,fun b hb=>k2 b fun q=> ?_,h1,k4,h.own,fun b hb=>(k2 b fun q=>h3 b q hb).trans (h.free b hb),fun j l' hj=> ?_,fun i j hi hj b q1 q2 q3=>h.apart i j hi hj b q1 (by simp;omega) (by simp;omega)⟩
 ·obtain⟨xs,ho,_⟩:=h2.own;have:=(ho.lt b q).1;omega
 ·have hjl:=(List.getElem?_eq_some_iff.1 hj).1;obtain⟨hv',g1,g2,g3⟩:=h.rows j l' (by rw[List.getElem?_append_left hjl];exact hj);exact⟨hv',g1,g2.mono k1 fun b hb=>⟨rfl,k2 b fun q=>h.apart j rs.length hv' hv b (by omega) (by simp;omega) (by simp) g1 h1 hb q⟩,g3⟩
def pG(w W:World):Prop:=∀(b:Nat)(c:Array Value)(t:TypeId)(fz:Nat×Nat),w.heap[b]? =some (.cells c t fz)->∃c',W.heap[b]? =some (.cells c' t fz)/\c'.size=c.size
theorem pG.refl(w:World):pG w w:=fun b c t fz h=>⟨c,h,rfl⟩
theorem pG.trans{a b c:World}(h:pG a b)(k:pG b c):pG a c:=fun x y t fz e=>by
 obtain⟨c1,e1,s1⟩:=h x y t fz e;obtain⟨c2,e2,s2⟩:=k x c1 t fz e1;exact⟨c2,e2,s2.trans s1⟩
theorem pG.setCell(w:World)(a:Addr)(v:Value)(ha:a.spot=none):pG w (w.setCell a v):=fun b c t fz e=>by
 obtain⟨bb,off,sp⟩:=a;simp only at ha;subst ha;by_cases q:bb=b
 ·subst q;exact⟨c.setIfInBounds off v,by simp[World.setCell,Array.getElem?_modify,e],by simp⟩
 ·exact⟨c,by simp[World.setCell,Array.getElem?_modify,q,e],rfl⟩
theorem pG.alloc(w:World)(o:Go.Obj):pG w (w.alloc o):=fun b c t fz e=>⟨c,(Lib.alloc_old w o b (lt_of_some e)).trans e,rfl⟩
theorem Lf{w W:World}{σ:Nat->Nat}(hs:pG w W)(hf:∀b,σ b≠0->W.heap[b]? =w.heap[b]?):eH w σ W σ:=by
 intro b c t fz e;refine⟨Nat.le_refl _,fun _=>rfl,?_⟩;by_cases h0:σ b=0
 ·obtain⟨c',e',hz⟩:=hs b c t fz e;exact⟨c',e',hz,fun i hi=>by omega⟩
 ·exact⟨c,(hf b h0).trans e,rfl,fun _ _=>rfl⟩
theorem kC.put{w W:World}{σ:Nat->Nat}{B g cap j:Nat}{eo e:TypeId}{hs:List Value}{rs:List (List aj)}{l':List aj}{hv hv':Value}{cur:Array Value}(hl:∀b,b<w.heap.size\/σ b=0)
 (h:kC w σ B eo e (.slice (some ⟨g,0,none⟩) hs.length cap) hs rs) (hj:j<rs.length) (hh:hs[j]? =some hv) (hn:eH w σ W σ) (hg:w.heap[g]? =some (.cells cur eo (0,0))) (hG:W.heap[g]? =some (.cells (cur.setIfInBounds j hv') eo (0,0)))
 (uE:∀b,b<w.heap.size->b≠g->hv.ownBlock≠some b->W.heap[b]? =w.heap[b]?) (hrow:Ct W σ B e hv' l') (hblk:∀b,hv'.ownBlock=some b->hv.ownBlock=some b\/w.heap.size<=b):
 kC W σ B eo e (.slice (some ⟨g,0,none⟩) hs.length cap) (hs.set j hv') (rs.set j l'):=by
 have hgl:=lt_of_some hg;have hg0:σ g=0:=h.free g rfl;obtain⟨l,hlj⟩:∃l,rs[j]? =some l:=⟨_,List.getElem?_eq_getElem hj⟩;obtain⟨hv0,a1,a2,a3⟩:=h.rows j l hlj;rw[hh] at a1;cases a1;have I6:=(List.getElem?_eq_some_iff.1 hh).1
 have low:∀(i:Nat)(l0:List aj)(hv0:Value),rs[i]? =some l0->hs[i]? =some hv0->∀b,hv0.ownBlock=some b->b<w.heap.size:=fun i l0 hv0 e1 e2 b hb=>by
  obtain⟨hv1,c1,c2,_⟩:=h.rows i l0 e1;rw[e2] at c1;cases c1;obtain⟨xs,ho,_⟩:=c2.own;exact(ho.lt b hb).2
 refine⟨?_,h.free,fun i l0 hi=> ?_,fun i k hi hk b hne h1 h2 e1 e2 e3=> ?_⟩
 ·rw[List.length_set];obtain⟨o1,o2⟩:=h.own;refine⟨by rw[List.length_set];exact o1,?_⟩;rcases o2 with⟨o2,_⟩|⟨g0,cap0,asi,e0,hb0,hg0',hn0,hm0,hs0,ht0⟩
  ·cases o2
  ·cases e0;rw[hg] at hg0';cases hg0';refine .inr ⟨g,cap,_,rfl,hb0,hG,hn0,hm0,by simpa using hs0,?_⟩;rw[Nat.mul_one] at ht0 ⊢;rw[Array.toList_setIfInBounds,List.take_set,ht0]
 ·by_cases q:i=j
  ·subst q
   have:l'=l0:=by
    rw[List.getElem?_set_self hj] at hi;exact Option.some.inj hi
   subst this;refine⟨hv',List.getElem?_set_self I6,hrow,fun b hb q=> ?_⟩;cases q;rcases hblk g hb with k|k
   ·exact a3 g k rfl
   ·omega
  ·rw[List.getElem?_set_ne (Ne.symm q)] at hi ⊢;obtain⟨hv1,c1,c2,c3⟩:=h.rows i l0 hi;refine⟨hv1,c1,c2.mono hn fun b hb=>⟨uE b (low i l0 hv1 hi c1 b hb) (fun e=>c3 b hb (by rw[e];rfl)) fun e=> ?_,rfl⟩,c3⟩;exact h.apart i j hv1 hv b q (List.getElem?_eq_some_iff.1 hi).1 hj c1 hh hb e
 ·rw[List.length_set] at h1 h2;by_cases q:i=j
  ·subst q;rw[List.getElem?_set_self I6] at e1;cases e1;rw[List.getElem?_set_ne hne] at e2;intro q3;rcases hblk b e3 with k'|k'
   ·exact h.apart i k hv hk b hne h1 h2 hh e2 k' q3
   ·have:=low k _ hk (List.getElem?_eq_getElem h2) e2 b q3;omega
  ·rw[List.getElem?_set_ne (Ne.symm q)] at e1;by_cases q2:k=j
   ·subst q2;rw[List.getElem?_set_self I6] at e2;cases e2;intro q3;rcases hblk b q3 with k'|k'
    ·exact h.apart i k hi hv b hne h1 h2 e1 hh e3 k'
    ·have:=low i _ hi (List.getElem?_eq_getElem h1) e1 b e3;omega
   ·rw[List.getElem?_set_ne (Ne.symm q2)] at e2;exact h.apart i k hi hk b hne h1 h2 e1 e2 e3
theorem J7{P:Program}(w:World)(base:Nat)(t ty e:TypeId)(i:TypeInfo)(z:Value)(size bytes:Nat)(ht:P.underlying t=some (.slice e))(hi:P.info? e=some i)(hz:i.zero=some z)
 (hsize:i.size=size) (hby:i.bytes=bytes) (hzs:z.cells.size=size) (hsz:0<size)
 (v:Value) (n:Nat) (xs:List Value) (hown:w.ownsRow base e size v n xs)
 (a:Addr) (m c:Nat) (news:List Value) (hl:news.length=m*size) (hnews:∀j u,news[j]? =some u->w.cell? (a.add j)=some u) (h1:∀u∈news,u.oneCell'=true)
 (hm:0<m) (h63:n+m<=maxLen) (hbytes:(n+m)*bytes<=140737488355328) (hbase:base<=w.heap.size):
 ∃g cap w',(Builtin.append_ #[t,t] ty #[v,.slice (some a) m c]).run P w=.ok (.slice (some ⟨g,0,none⟩) (n+m) cap) w'/\w'.ownsRow base e size (.slice (some ⟨g,0,none⟩) (n+m) cap) (n+m) (xs++news)/\w.grownBy w' v.ownBlock/\
  (v.ownBlock=some g\/g=w.heap.size)/\g<w'.heap.size/\pG w w':=by
 obtain⟨g,cap,w',hr,h2,h3,h4,h5⟩:=run_append_lies (P:=P) w t ty base e i z size bytes ht hi hz hsize hby hzs hsz v n xs hown a m c news hl hnews h1 hm h63 hbytes hbase w.heap.size rfl;refine⟨g,cap,w',hr,h2,h3,h4,h5,fun b cc tt fz hb=> ?_⟩;by_cases q:v.ownBlock=some b
 rotate_left
 ·exact⟨cc,(h3.block b (lt_of_some hb) fun e=>q e.symm).trans hb,rfl⟩
 rcases hown.2 with⟨rfl,_⟩|⟨g0,cap0,cur,rfl,hbg,hg,hnc,hcm,hcs,htake⟩
 ·cases q
 cases q;rw[hg] at hb;cases hb;subst hsize;by_cases hroom:n+m<=cap0
 ·have hr':=run_append_roomF (P:=P) w t ty e i ht hi g0 n cap0 cc (0,0) hg (Nat.zero_le _) a m c news hl hnews h1 hroom (by rw[hl,hcs,<-Nat.add_mul];exact Nat.mul_le_mul_right _ hroom);rw[hr] at hr';injection hr' with _ hw;subst hw;refine⟨_,setRow_heap w g0 cc _ e _ hg,?_⟩
  have hmul:n*i.size+m*i.size<=cap0*i.size:=by rw[<-Nat.add_mul];exact Nat.mul_le_mul_right _ hroom
  simp only[List.size_toArray,List.length_append,List.length_take,List.length_drop,Array.length_toList];omega
 ·have holds:∀j u,xs[j]? =some u->w.cell? ((⟨g0,0,none⟩:Addr).add j)=some u:=hown.cells (g:=g0) rfl;have hr':=run_append_grow (P:=P) w t ty e i z ht hi hz ⟨g0,0,none⟩ n cap0 xs hown.1 holds a m c news hl hnews (by omega) (by simp only[maxLen] at h63;omega) (growslice_fits (by simp only[maxLen] at h63;omega) (by rw[hby];exact hbytes));rw[hr] at hr';injection hr' with _ hw;subst hw;exact⟨cc,(Lib.alloc_old w.drew _ _ (lt_of_some hg)).trans hg,rfl⟩
theorem ah0(w:World)(σ:Nat->Nat)(B:Nat)(e:TypeId):Ct w σ B e (.slice none 0 0) []:=
 ⟨⟨[],⟨rfl,.inl ⟨rfl,rfl⟩⟩,fun i d hd=>by cases hd⟩,fun b hb=>by cases hb⟩
theorem ah1{P:Program}{w w0:World}{σ σ0:Nat->Nat}{B g n cap:Nat}{eo e ty t:TypeId}{hs:List Value}{rs:List (List aj)}{i:TypeInfo}{bytes:Nat}(ht:P.underlying t=some (.slice eo))(hi:P.info? eo=some i)(hz:i.zero=some (.slice none 0 0))
 (hsize:i.size=1) (hby:i.bytes=bytes) (h:kC w σ B eo e (.slice (some ⟨g,0,none⟩) n cap) hs rs) (hn:hs.length=n) (hr:rs.length=n) (hbz:bytes<=1024) (hn2:n<=1048576)
 (ad:Addr) (c:Nat) (hc:w.cell? ad=some (.slice none 0 0)) (had:ad.add 0=ad) (hl:∀b,b<w.heap.size\/σ b=0) (hB:B<=w.heap.size):
 ∃g' cap' w',(Builtin.append_ #[t,t] ty #[.slice (some ⟨g,0,none⟩) n cap,.slice (some ad) 1 c]).run P w=.ok (.slice (some ⟨g',0,none⟩) (n+1) cap') w'/\
  kC w' σ B eo e (.slice (some ⟨g',0,none⟩) (n+1) cap') (hs++[.slice none 0 0]) (rs++[[]])/\eH w σ w' σ/\(∀b,b<w.heap.size->b≠g->w'.heap[b]? =w.heap[b]?)/\w.heap.size<=w'.heap.size/\w'.os=w.os/\w'.output=w.output:=by
 subst hn
 obtain⟨g',cap',w',q1,q2,q3,q4,q5,q6⟩:=J7 (P:=P) w B t ty eo i (.slice none 0 0) 1 bytes ht hi hz hsize hby rfl (by omega) _ _ _ h.own ad 1 c [.slice none 0 0] rfl (fun j u hu=>by
  match j,hu with
  |0,hu=>cases hu;rw[had];exact hc
  |j+1,hu=>cases hu) (fun u hu=>by rw[List.mem_singleton.1 hu];rfl) (by omega) (by unfold maxLen;omega) (by
   have:(hs.length+1)*bytes<=(1048576+1)*1024:=Nat.mul_le_mul (by omega) hbz
   omega) hB
 have hg0:σ g=0:=h.free g rfl;have hold:∀b,b<w.heap.size->b≠g->w'.heap[b]? =w.heap[b]? :=fun b hb hne=>q3.block b hb fun e=>hne (Option.some.inj e);have hnr:eH w σ w' σ:=Lf q6 fun b hb=>hold b ((hl b).elim id fun e=>absurd e hb) fun e=>hb (by rw[e];exact hg0);refine⟨g',cap',w',q1,?_,hnr,hold,q3.size,q3.os,q3.output⟩;have hgl:g<w.heap.size:=(h.own.lt g rfl).2;have q4':g'=g\/g'=w.heap.size:=q4.elim (fun e=>.inl (Option.some.inj e).symm) .inr;refine⟨by rw[List.length_append];exact q2,fun b hb=> ?_,fun j l hj=> ?_,fun a b ha hb x hne h1 h2 e1 e2 e3=> ?_⟩
 ·cases hb;rcases q4' with rfl|rfl
  ·exact hg0
  ·exact(hl _).elim (fun h=>absurd h (Nat.lt_irrefl _)) id
 ·by_cases hjr:j<rs.length
  ·rw[List.getElem?_append_left hjr] at hj;obtain⟨hv,a1,a2,a3⟩:=h.rows j l hj;obtain⟨xs,ho,_⟩:=a2.own;refine⟨hv,by rw[List.getElem?_append_left (List.getElem?_eq_some_iff.1 a1).1];exact a1,a2.mono hnr fun b hb=>⟨hold b (ho.lt b hb).2 fun e=>a3 b hb (by rw[e];rfl),rfl⟩,fun b hb q=> ?_⟩;cases q;rcases q4' with rfl|rfl
   ·exact a3 _ hb rfl
   ·exact absurd (ho.lt _ hb).2 (Nat.lt_irrefl _)
  ·have hj0:j=rs.length:=by
    have:=(List.getElem?_eq_some_iff.1 hj).1;simp at this;omega
   subst hj0;rw[List.getElem?_append_right (Nat.le_refl _),Nat.sub_self] at hj;cases hj;exact⟨.slice none 0 0,by rw[List.getElem?_append_right (by omega),hr,Nat.sub_self];rfl,ah0 _ _ _ _,fun b hb=>by cases hb⟩
 ·by_cases ha':a<rs.length
  ·by_cases hb':b<rs.length
   ·rw[List.getElem?_append_left (by omega)] at e1 e2;exact h.apart a b ha hb x hne ha' hb' e1 e2 e3
   ·have:b=rs.length:=by simp at h2;omega
    subst this;rw[List.getElem?_append_right (by omega),hr,Nat.sub_self] at e2;cases e2;intro q;cases q
  ·have:a=rs.length:=by simp at h1;omega
   subst this;rw[List.getElem?_append_right (by omega),hr,Nat.sub_self] at e1;cases e1;cases e3
theorem ab4{w:World}(o:Go.Obj){b j:Nat}{u:Value}(h:w.cell? ⟨b,j,none⟩=some u):(w.alloc o).cell? ⟨b,j,none⟩=some u:=by
 cases hb:w.heap[b]? with
 |none=>simp[World.cell?,hb] at h
 |some o'=>
  rw[<-h];exact World.cell?_of_block (Lib.alloc_old w o b (lt_of_some hb))
theorem Pg{w:World}{σ:Nat->Nat}{B g cap n:Nat}{eo e:TypeId}{hs:List Value}{rs:List (List aj)}(h:kC w σ B eo e (.slice (some ⟨g,0,none⟩) n cap) hs rs)(j:Nat):w.frozen? ⟨g,j,none⟩=false:=by
 rcases h.own.2 with⟨h1,_⟩|⟨g0,cap0,cur,e0,_,hg,_⟩
 ·cases h1
 ·simp only[Value.slice.injEq,Option.some.injEq,Addr.mk.injEq,and_true] at e0;obtain⟨rfl,_,rfl⟩:=e0;exact Lib.frozen_of_heap hg j
theorem kP{w:World}{g j b:Nat}{v:Value}(h:b≠g):(w.setCell ⟨g,j,none⟩ v).heap[b]? =w.heap[b]? :=by
 simp[World.setCell,Array.getElem?_modify,Ne.symm h]
theorem MZ{w:World}{g j:Nat}{v:Value}{cur:Array Value}{t:TypeId}{fz:Nat×Nat}(h:w.heap[g]? =some (.cells cur t fz)):(w.setCell ⟨g,j,none⟩ v).heap[g]? =some (.cells (cur.setIfInBounds j v) t fz):=by
 simp[World.setCell,Array.getElem?_modify,h]
theorem ah2{w:World}{σ:Nat->Nat}{B g n cap:Nat}{eo e:TypeId}{hs:List Value}{hv:Value}{rs:List (List aj)}(h:kC w σ B eo e (.slice (some ⟨g,0,none⟩) (n+1) cap) (hs++[hv]) rs)(hn:hs.length=n)(hr:rs.length<=n):
 kC w σ B eo e (.slice (some ⟨g,0,none⟩) n cap) hs rs:=by
 refine⟨?_,h.free,fun j l' hj=> ?_,fun i j hi hj b hne h1 h2 e1 e2=> ?_⟩
 ·obtain⟨o1,o2⟩:=h.own;refine⟨by rw[hn];omega,?_⟩;rcases o2 with⟨o2,_⟩|⟨g0,cap0,cur,e0,hb,hg,hnc,hm,hsz,ht⟩
  ·cases o2
  ·simp only[Value.slice.injEq,Option.some.injEq,Addr.mk.injEq,and_true] at e0;obtain⟨rfl,_,rfl⟩:=e0;refine .inr ⟨g,cap,cur,by rw[hn],hb,hg,?_,hm,hsz,?_⟩
   ·rw[List.length_append] at hnc;omega
   ·have:=congrArg (List.take (hs.length*1)) ht;rw[List.take_take,List.length_append,Nat.min_eq_left (by simp)] at this;rw[this,Nat.mul_one,List.take_append_of_le_length (Nat.le_refl _),List.take_length]
 ·have hjl:=(List.getElem?_eq_some_iff.1 hj).1;obtain⟨hv',a1,a2,a3⟩:=h.rows j l' hj;rw[List.getElem?_append_left (by omega)] at a1;exact⟨hv',a1,a2,a3⟩
 ·have i1:=(List.getElem?_eq_some_iff.1 e1).1;have j1:=(List.getElem?_eq_some_iff.1 e2).1;exact h.apart i j hi hj b hne h1 h2 (by rw[List.getElem?_append_left i1];exact e1) (by rw[List.getElem?_append_left j1];exact e2)
theorem Wx{W:World}{σ:Nat->Nat}{B:Nat}{e:TypeId}{v:Value}{l:List aj}{ys:List Value}{x:aj}{lv:Value}
 (hown:W.ownsRow B e 2 v (l.length+1) (ys++[.string ⟨x.aO.toArray⟩,lv])) (hys:ys.length=l.length*2)
 (hy:∀(i:Nat)(d:D),(l.map aj.enc).flatten[i]? =some d->∃u,ys[i]? =some u/\dI W σ d u) (hx:dI W σ (.sl (x.ah.map aj.enc)) lv) (hf:∀b,v.ownBlock=some b->σ b=0):Ct W σ B e v (l++[x]):=by
 have hfl:(l.map aj.enc).flatten.length=l.length*2:=by
  have:=kr (l.map aj.enc) 2 (Ec l);simpa using this
 have e1:([x].map aj.enc).flatten=[.s x.aO,.sl (x.ah.map aj.enc)]:=by
  rw[List.map_singleton,List.flatten_singleton,aj.aB]
 refine⟨⟨_,by rw[List.length_append,List.length_singleton];exact hown,fun i d hd=> ?_⟩,hf⟩;rw[List.map_append,List.flatten_append,e1] at hd;by_cases hi:i<l.length*2
 ·rw[List.getElem?_append_left (by omega)] at hd;obtain⟨u,hu,hr⟩:=hy i d hd;exact⟨u,by rw[List.getElem?_append_left (by omega)];exact hu,hr⟩
 ·rw[List.getElem?_append_right (by omega),hfl] at hd
  have hw:(ys++[Value.string ⟨x.aO.toArray⟩,lv])[i]? =[Value.string ⟨x.aO.toArray⟩,lv][i-l.length*2]? :=by
   rw[List.getElem?_append_right (by omega),hys]
  rw[hw];generalize i-l.length*2=k at hd
  match k,hd with
  |0,hd=>simp at hd;subst hd;exact⟨_,rfl,.s _⟩
  |1,hd=>simp at hd;subst hd;exact⟨_,rfl,hx⟩
  |k+2,hd=>simp at hd
theorem ak0{w w2:World}{σ:Nat->Nat}{B g cap j:Nat}{eo e:TypeId}{hs:List Value}{rs:List (List aj)}{l:List aj}{hv hv':Value}{x:aj}{lv:Value}{ys:List Value}(hl:∀b,b<w.heap.size\/σ b=0)
 (hst:kC w σ B eo e (.slice (some ⟨g,0,none⟩) hs.length cap) hs rs) (hjl:rs[j]? =some l) (hh:hs[j]? =some hv)
 (hown:w2.ownsRow B e 2 hv' (l.length+1) (ys++[.string ⟨x.aO.toArray⟩,lv])) (hys:ys.length=l.length*2)
 (hy:∀(i:Nat)(d:D),(l.map aj.enc).flatten[i]? =some d->∃u,ys[i]? =some u/\dI w σ d u) (hx:dI w σ (.sl (x.ah.map aj.enc)) lv)
 (h12:∀b,b<w.heap.size->hv.ownBlock≠some b->w2.heap[b]? =w.heap[b]?) (hsm:pG w w2) (hblk:∀b,hv'.ownBlock=some b->hv.ownBlock=some b\/w.heap.size<=b):
 eH w σ (w2.setCell ⟨g,j,none⟩ hv') σ/\kC (w2.setCell ⟨g,j,none⟩ hv') σ B eo e (.slice (some ⟨g,0,none⟩) hs.length cap) (hs.set j hv') (rs.set j (l++[x]))/\
  ∀b,b<w.heap.size->b≠g->hv.ownBlock≠some b->(w2.setCell ⟨g,j,none⟩ hv').heap[b]? =w.heap[b]? :=by
 obtain⟨hv0,a1,a2,a3⟩:=hst.rows j l hjl;rw[hh] at a1;cases a1;have hg0:σ g=0:=hst.free g rfl;have J8:hv.ownBlock≠some g:=fun q=>a3 g q rfl
 obtain⟨cur,hg⟩:∃cur,w.heap[g]? =some (.cells cur eo (0,0)):=by
  rcases hst.own.2 with⟨o2,_⟩|⟨g0,cap0,cur,e0,hb,hg,_⟩
  ·cases o2
  ·cases e0;exact⟨cur,hg⟩
 have hgl:=lt_of_some hg;have hg2:=(h12 g hgl J8).trans hg;have uE:∀b,b<w.heap.size->b≠g->hv.ownBlock≠some b->(w2.setCell ⟨g,j,none⟩ hv').heap[b]? =w.heap[b]? :=fun b h1 h2 h3=>(kP h2).trans (h12 b h1 h3)
 have zM:eH w σ (w2.setCell ⟨g,j,none⟩ hv') σ:=Lf (hsm.trans (pG.setCell _ _ _ rfl)) fun b hb=>
  uE b ((hl b).resolve_right hb) (fun q=>hb (by rw[q];exact hg0)) fun q=>hb (a2.free b q)
 have hne:∀b,hv'.ownBlock=some b->b≠g:=fun b hb q=>by
  subst q;rcases hblk b hb with k|k
  ·exact J8 k
  ·omega
 have hrow:Ct (w2.setCell ⟨g,j,none⟩ hv') σ B e hv' (l++[x]):=Wx (EU hown fun b hb=>kP (hne b hb)) hys (fun i d hd=>by
  obtain⟨u,hu,hr⟩:=hy i d hd
  exact⟨u,hu,hr.mono zM⟩) (hx.mono zM) fun b hb=>by
   rcases hblk b hb with k|k
   ·exact a2.free b k
   ·exact(hl b).resolve_left (by omega)
 exact⟨zM,kC.put hl hst (List.getElem?_eq_some_iff.1 hjl).1 hh zM hg (MZ hg2) uE hrow hblk,uE⟩
theorem Wy{w:World}{σ:Nat->Nat}{B g g1 cap jA j:Nat}{eo e:TypeId}{hs:List Value}{rs:List (List aj)}{l:List aj}{x0 x:aj}{lv:Value}(hl:∀b,b<w.heap.size\/σ b=0)
 (hst:kC w σ B eo e (.slice (some ⟨g,0,none⟩) hs.length cap) hs rs) (hjl:rs[j]? =some (l++[x0])) (hh:hs[j]? =some (.slice (some ⟨g1,0,none⟩) (l.length+1) jA)) (hx:dI w σ (.sl (x.ah.map aj.enc)) lv):
 eH w σ ((w.setCell ⟨g1,l.length*2,none⟩ (.string ⟨x.aO.toArray⟩)).setCell ⟨g1,l.length*2+1,none⟩ lv) σ/\
  kC ((w.setCell ⟨g1,l.length*2,none⟩ (.string ⟨x.aO.toArray⟩)).setCell ⟨g1,l.length*2+1,none⟩ lv) σ B eo e (.slice (some ⟨g,0,none⟩) hs.length cap) hs (rs.set j (l++[x]))/\
  ∀b,b≠g1->((w.setCell ⟨g1,l.length*2,none⟩ (.string ⟨x.aO.toArray⟩)).setCell ⟨g1,l.length*2+1,none⟩ lv).heap[b]? =w.heap[b]? :=by
 obtain⟨W,hW⟩:∃W,W=(w.setCell ⟨g1,l.length*2,none⟩ (.string ⟨x.aO.toArray⟩)).setCell ⟨g1,l.length*2+1,none⟩ lv:=⟨_,rfl⟩;obtain⟨hv0,a1,a2,a3⟩:=hst.rows j _ hjl;rw[hh] at a1;cases a1;have hg0:σ g=0:=hst.free g rfl;have J8:g≠g1:=fun q=>a3 g1 rfl (by rw[q];rfl)
 have Uz:∀b,b≠g1->W.heap[b]? =w.heap[b]? :=fun b hb=>by rw[hW,kP hb,kP hb]
 obtain⟨cur,hg,hcur⟩:∃cur,w.heap[g]? =some (.cells cur eo (0,0))/\cur.toList.take hs.length=hs:=by
  rcases hst.own.2 with⟨o2,_⟩|⟨g0,cap0,cur,e0,hb,hg,_,_,_,ht⟩
  ·cases o2
  ·cases e0;exact⟨cur,hg,by rw[Nat.mul_one] at ht;exact ht⟩
 have hjh:=(List.getElem?_eq_some_iff.1 hh).1
 have hself:cur.setIfInBounds j (.slice (some ⟨g1,0,none⟩) (l.length+1) jA)=cur:=by
  have h1:cur.toList[j]? =some (.slice (some ⟨g1,0,none⟩) (l.length+1) jA):=by
   have q:(cur.toList.take hs.length)[j]? =hs[j]? :=by rw[hcur]
   rw[<-hh,<-q,List.getElem?_take_of_lt hjh]
  obtain⟨h2,h3⟩:=List.getElem?_eq_some_iff.1 h1;refine Array.ext' ?_;rw[Array.toList_setIfInBounds,<-h3,List.set_getElem_self]
 have am0:hs.set j (.slice (some ⟨g1,0,none⟩) (l.length+1) jA)=hs:=by
  obtain⟨h2,h3⟩:=List.getElem?_eq_some_iff.1 hh;rw[<-h3,List.set_getElem_self]
 have hsame:pG w W:=by
  rw[hW];exact(pG.setCell _ _ _ rfl).trans (pG.setCell _ _ _ rfl)
 have zM:eH w σ W σ:=Lf hsame fun b hb=>Uz b fun q=>hb (a2.free b (by rw[q];rfl));obtain⟨⟨xs,ho,hxs⟩,hf⟩:=a2;obtain⟨ho1,ho2⟩:=ho;rw[List.length_append,List.length_singleton] at ho1 ho2
 obtain⟨rM,hb1,hg1,hc1,hc2,hc3,ht1⟩:∃rM,B<=g1/\w.heap[g1]? =some (.cells rM e (0,0))/\l.length+1<=jA/\jA<=maxLen/\rM.size=jA*2/\rM.toList.take ((l.length+1)*2)=xs:=by
  rcases ho2 with⟨o2,_⟩|⟨g0,cap0,cur,e0,q⟩
  ·cases o2
  ·simp only[Value.slice.injEq,Option.some.injEq,Addr.mk.injEq,and_true] at e0;obtain⟨rfl,_,rfl⟩:=e0;exact⟨cur,q⟩
 have hW1:W.heap[g1]? =some (.cells ((rM.setIfInBounds (l.length*2) (.string ⟨x.aO.toArray⟩)).setIfInBounds (l.length*2+1) lv) e (0,0)):=by
  rw[hW];exact MZ (MZ hg1)
 have hrow:Ct W σ B e (.slice (some ⟨g1,0,none⟩) (l.length+1) jA) (l++[x]):=by
  have hys:(xs.take (l.length*2)).length=l.length*2:=by rw[List.length_take];omega
  refine Wx (ys:=xs.take (l.length*2)) (lv:=lv) ⟨by simp only[List.length_append,hys,List.length_cons,List.length_nil];omega,.inr ⟨g1,jA,_,rfl,hb1,hW1,hc1,hc2,by simpa using hc3,?_⟩⟩ hys (fun i d hd=> ?_) (hx.mono zM) hf
  ·rw[Array.toList_setIfInBounds,Array.toList_setIfInBounds,List.take_set,List.take_set,ht1];refine List.ext_getElem? fun i=> ?_;rcases Nat.lt_trichotomy i (l.length*2) with h|h|h
   ·rw[List.getElem?_set_ne (by omega),List.getElem?_set_ne (by omega),List.getElem?_append_left (by omega),List.getElem?_take_of_lt h]
   ·subst h;rw[List.getElem?_set_ne (by omega),List.getElem?_set_self (by omega),List.getElem?_append_right (by omega),hys,Nat.sub_self];rfl
   ·rw[List.getElem?_append_right (by omega),hys];by_cases h2:i=l.length*2+1
    ·subst h2;rw[List.getElem?_set_self (by rw[List.length_set];omega),Nat.add_sub_cancel_left];rfl
    ·rw[List.getElem?_eq_none (by simp only[List.length_set];omega),List.getElem?_eq_none (by simp only[List.length_cons,List.length_nil];omega)]
  ·have hfl:(l.map aj.enc).flatten.length=l.length*2:=by
    have:=kr (l.map aj.enc) 2 (Ec l);simpa using this
   have hi:=(List.getElem?_eq_some_iff.1 hd).1;obtain⟨u,hu,hr⟩:=hxs i d (by rw[List.map_append,List.flatten_append,List.getElem?_append_left hi];exact hd);exact⟨u,by rw[List.getElem?_take_of_lt (by omega)];exact hu,hr.mono zM⟩
 rw[<-hW];refine⟨zM,?_,Uz⟩;have:=kC.put (hv':=.slice (some ⟨g1,0,none⟩) (l.length+1) jA) hl hst (List.getElem?_eq_some_iff.1 hjl).1 hh zM hg (by rw[hself];exact(Uz g J8).trans hg) (fun b _ _ h3=>Uz b fun q=>h3 (by rw[q];rfl)) hrow (fun b hb=>.inl hb);rw[am0] at this;exact this
theorem ao4{wq:World}{u v:Value}{T:TypeId}:∀j x,([u,v]:List Value)[j]? =some x->(wq.drew.alloc (.cells #[u,v] T)).cell? ((⟨wq.heap.size,0,none⟩:Addr).add j)=some x:=by
 intro j x hx;exact World.news_of_block (heap_alloc_new wq.drew (.cells #[u,v] T)) j x hx
theorem aeY{w W:World}{σ σ':Nat->Nat}(h:Grow w σ W σ'):Grow w σ W.drew σ':=⟨h.size,h.os,h.output,h.old,h.live⟩
theorem Ed{w wq W:World}{σ σ1:Nat->Nat}{B:Nat}(hg:Grow w σ wq σ1)(hsz:wq.heap.size<=W.heap.size)(hos:W.os=wq.os)(hout:W.output=wq.output)(hlow:∀b,b<B->W.heap[b]? =wq.heap[b]?)(hB:w.heap.size<=B):Grow w σ W σ1:=
 ⟨Nat.le_trans hg.size hsz,hos.trans hg.os,hout.trans hg.output,fun b hb=>⟨(hlow b (Nat.lt_of_lt_of_le hb hB)).trans (hg.old b hb).1,(hg.old b hb).2⟩,fun b=>(hg.live b).elim (fun h=>.inl (Nat.lt_of_lt_of_le h hsz)) .inr⟩
theorem Ee{P:Program}{wq:World}{σ:Nat->Nat}{B g cap j n:Nat}{eo e t:TypeId}(ty:TypeId){hs:List Value}{rs:List (List aj)}{y:List aj}{ya:Option Addr}{xW:Nat}{i:TypeInfo}(ht:P.underlying t=some (.slice e))(hi:P.info? e=some i)
 (hz:i.zero=some (.agg #[.string ⟨#[]⟩,.slice none 0 0])) (hsize:i.size=2) (hby:i.bytes=40) (hl:∀b,b<wq.heap.size\/σ b=0) (hB:B<=wq.heap.size) (hst:kC wq σ B eo e (.slice (some ⟨g,0,none⟩) n cap) hs rs) (hn:hs.length=n)
 (hjl:rs[j]? =some y) (hh:hs[j]? =some (.slice ya y.length xW)) (hy:y.length<=1048576) (x:aj) {u lv:Value} (hu: .string ⟨x.aO.toArray⟩=u) (hx:dI wq σ (.sl (x.ah.map aj.enc)) lv) (h1:lv.oneCell'=true) (T:TypeId):
 ∃g1 jA w2,(Builtin.append_ #[t,t] ty #[.slice ya y.length xW,.slice (some ⟨wq.heap.size,0,none⟩) 1 1]).run P (wq.drew.alloc (.cells #[u,lv] T))=.ok (.slice (some ⟨g1,0,none⟩) (y.length+1) jA) w2/\
  w2.cell? ⟨g,j,none⟩=some (.slice ya y.length xW)/\w2.frozen? ⟨g,j,none⟩=false/\g1≠g/\(∃rM:Array Value,w2.heap[g1]? =some (.cells rM e (0,0))/\(y.length+1)*2<=rM.size)/\y.length+1<=jA/\
  eH wq σ (w2.setCell ⟨g,j,none⟩ (.slice (some ⟨g1,0,none⟩) (y.length+1) jA)) σ/\
  kC (w2.setCell ⟨g,j,none⟩ (.slice (some ⟨g1,0,none⟩) (y.length+1) jA)) σ B eo e (.slice (some ⟨g,0,none⟩) n cap) (hs.set j (.slice (some ⟨g1,0,none⟩) (y.length+1) jA)) (rs.set j (y++[x]))/\
  wq.heap.size<=w2.heap.size/\w2.os=wq.os/\w2.output=wq.output/\B<=g/\B<=g1/\∀b,b<B->w2.heap[b]? =wq.heap[b]? :=by
 subst hn hu;obtain⟨hv0,a1,a2,a3⟩:=hst.rows j y hjl;rw[hh] at a1;cases a1;have hrow:=a2;obtain⟨⟨ys,hown,hrep⟩,hfree⟩:=a2;have hyb:∀b,(Value.slice ya y.length xW).ownBlock=some b->B<=b/\b<wq.heap.size:=fun b hb=>hown.lt b hb;have J8:(Value.slice ya y.length xW).ownBlock≠some g:=fun q=>a3 g q rfl;have hgl:B<=g/\g<wq.heap.size:=hst.own.lt g rfl;have hown1:(wq.drew.alloc (.cells #[.string ⟨x.aO.toArray⟩,lv] T)).ownsRow B e 2 (.slice ya y.length xW) y.length ys:=EU hown fun b hb=>Lib.alloc_old wq.drew _ b (hyb b hb).2
 obtain⟨g1,jA,w2,q1,q2,q3,q4,q5,q6⟩:=J7 (P:=P) (wq.drew.alloc (.cells #[.string ⟨x.aO.toArray⟩,lv] T)) B t ty e i _ 2 40 ht hi hz hsize hby rfl (by omega) _ _ _ hown1 ⟨wq.heap.size,0,none⟩ 1 1 [.string ⟨x.aO.toArray⟩,lv] rfl ao4 (fun u hu=>by
  rcases List.mem_cons.1 hu with rfl|hu
  ·rfl
  ·rw[List.mem_singleton.1 hu];exact h1) (by omega) (by unfold maxLen;omega) (by omega) (by
   rw[show(wq.drew.alloc (.cells #[.string ⟨x.aO.toArray⟩,lv] T)).heap.size=wq.heap.size+1 by simp];omega)
 have hsz1:(wq.drew.alloc (.cells #[.string ⟨x.aO.toArray⟩,lv] T)).heap.size=wq.heap.size+1:=by simp
 have h12:∀b,b<wq.heap.size->(Value.slice ya y.length xW).ownBlock≠some b->w2.heap[b]? =wq.heap[b]? :=fun b h1 h2=>(q3.block b (by omega) fun e=>h2 e.symm).trans (Lib.alloc_old wq.drew _ b h1);have hsm:pG wq w2:=pG.trans (pG.alloc wq.drew _) q6
 have hblk:∀b,(Value.slice (some ⟨g1,0,none⟩) (y.length+1) jA).ownBlock=some b->(Value.slice ya y.length xW).ownBlock=some b\/wq.heap.size<=b:=fun b hb=>by
  cases hb;rcases q4 with h|h
  ·exact .inl h
  ·right;show wq.heap.size<=g1;omega
 have hg1:g1≠g:=fun q=>by
  rcases hblk g1 rfl with h|h
  ·rw[q] at h;exact J8 h
  ·omega
 have hB1:B<=g1:=by
  rcases hblk g1 rfl with h|h
  ·exact(hyb g1 h).1
  ·omega
 obtain⟨n1,n2,n3⟩:=ak0 hl hst hjl hh q2 hown.1 hrep hx h12 hsm hblk
 obtain⟨rM,c1,c2,c3⟩:∃rM:Array Value,w2.heap[g1]? =some (.cells rM e (0,0))/\(y.length+1)*2<=rM.size/\y.length+1<=jA:=by
  rcases q2.2 with⟨h,_⟩|⟨g0,cap0,cur,e0,_,hg,hc1,_,hc3,_⟩
  ·cases h
  ·cases e0;exact⟨cur,hg,by rw[hc3];exact Nat.mul_le_mul_right _ hc1,hc1⟩
 have hkg:=h12 g hgl.2 J8;refine⟨g1,jA,w2,q1,?_,?_,hg1,⟨rM,c1,c2⟩,c3,n1,n2,?_,q3.os,q3.output,hgl.1,hB1,fun b hb=>h12 b (by omega) fun q=> ?_⟩
 ·have hj:=hst.own.cells (g:=g) rfl j _ hh;rw[show(⟨g,0,none⟩:Addr).add j=⟨g,j,none⟩ by unfold Addr.add;split<;>simp_all] at hj;rw[<-hj];exact World.cell?_of_block hkg
 ·exact(World.frozen?_of_block hkg).trans (Pg hst j)
 ·have:=q3.size;omega
 ·have:=(hyb b q).1;omega
theorem Wz{w wq:World}{σ σ1 σ2:Nat->Nat}{B:Nat}(hg:Grow w σ wq σ1)(h:∀b,b<B->σ2 b=σ1 b)(hl:∀b,b<wq.heap.size\/σ2 b=0)(hB:w.heap.size<=B):Grow w σ wq σ2:=
 ⟨hg.size,hg.os,hg.output,fun b hb=>⟨(hg.old b hb).1,(h b (Nat.lt_of_lt_of_le hb hB)).trans (hg.old b hb).2⟩,hl⟩
theorem wY{α:Type}(l:List α)(a b:α)(n:Nat)(h:l.length=n):(l++[a]).set n b=l++[b]:=by
 subst h
 simp
theorem ak1{w:World}{σ:Nat->Nat}{B g cap n:Nat}{eo e:TypeId}{hs:List Value}{rs:List (List aj)}(h:kC w σ B eo e (.slice (some ⟨g,0,none⟩) n cap) hs rs):n<=cap:=by
 rcases h.own.2 with⟨h1,_⟩|⟨g0,cap0,cur,e0,_,hg,h2,_⟩
 ·cases h1
 ·simp only[Value.slice.injEq,Option.some.injEq,Addr.mk.injEq,and_true] at e0;obtain⟨_,rfl,rfl⟩:=e0;exact h2
theorem set_comm{w:World}{g g1 i j:Nat}{u v:Value}(h:g≠g1):(w.setCell ⟨g1,i,none⟩ u).setCell ⟨g,j,none⟩ v=(w.setCell ⟨g,j,none⟩ v).setCell ⟨g1,i,none⟩ u:=by
 have hh:((w.setCell ⟨g1,i,none⟩ u).setCell ⟨g,j,none⟩ v).heap=((w.setCell ⟨g,j,none⟩ v).setCell ⟨g1,i,none⟩ u).heap:=by
  refine Array.ext_getElem? fun b=> ?_;by_cases h1:b=g
  ·subst h1;rw[kP (w:=w.setCell _ _) h];simp[World.setCell,Array.getElem?_modify,Ne.symm h]
  ·rw[kP h1];by_cases h2:b=g1
   ·subst h2;simp[World.setCell,Array.getElem?_modify,h]
   ·rw[kP h2,kP h2,kP h1]
 unfold World.setCell at hh ⊢;simp only at hh ⊢;rw[hh]
theorem Ph{p:UInt8->Bool}:∀(n:Nat)(l:List UInt8),(∀a∈l.take n,p a=true)->(l.length=n\/∃a,l[n]? =some a/\p a=false)->l.takeWhile p=l.take n/\l.dropWhile p=l.drop n
 |0,l,_,h=>by
  rcases h with h|⟨a,h1,h2⟩
  ·have:=List.eq_nil_of_length_eq_zero h;subst this;exact⟨rfl,rfl⟩
  ·cases l with
   |nil=>simp at h1
   |cons b l=>
    simp at h1;subst h1;simp[List.takeWhile,List.dropWhile,h2]
 |n+1,l,ha,h=>by
  cases l with
  |nil=>
   rcases h with h|⟨a,h1,h2⟩
   ·simp at h
   ·simp at h1
  |cons b l=>
   have hb:p b=true:=ha b (by simp);have ih:=Ph n l (fun a hm=>ha a (by simp[hm])) (by simpa using h);simp[List.takeWhile,List.dropWhile,hb,ih.1,ih.2]
theorem ak2(s:List UInt8)(i e:Nat):(⟨s.toArray⟩:ByteArray).extract i e=⟨((s.take e).drop i).toArray⟩:=by
 refine ByteArray.ext ?_;rw[ByteArray.data_extract];simp[List.extract_toArray,List.drop_take]
def qV(P:Program)(o:Oper)(ρ:Operand->Value)(w:World)(v:Value)(w':World):Prop:=(execOp ρ o).run P w=.ok (.value v) w'\/((execOp ρ o).run P w=.ok .skip w'/\v=undef)
theorem qV.wp{P:Program}{o:Oper}{a:Act}{w w':World}{v:Value}{K:Act->World->Prop}{Q:Exit->Act->World->Prop}(h:qV P o a.eval w v w')(hK:K (a.put o.dst v) w'):o.wp P a w K Q:=by
 unfold Oper.wp;rcases h with h|⟨h,rfl⟩
 ·rw[h];exact hK
 ·rw[h];exact hK
def vo(fC:List Nat)(i m:Nat):Nat:=if fC.contains i then m ||| 2^fC.idxOf i else m
def dx(P:Program)(fC:List Nat)(W:Nat->World)(K:Act->Prop):List Oper->List (List Nat)->Nat->Act->Prop
 |[],_,_,a=>K a
 |o::l,rs,i,a=>∃v,(∀m∈rs.headD [],qV P o a.eval (W m) v (W (vo fC i m)))/\dx P fC W K l rs.tail (i+1) (a.put o.dst v)
theorem ZY{P:Program}{fC:List Nat}{W:Nat->World}{K:Act->Prop}:∀(l:List Oper)(rs:List (List Nat))(i:Nat)(a:Act),dx P fC W K l rs i a->
 ∃(vs:Nat->Value) (A:Nat->Act),A 0=a/\(∀j o,l[j]? =some o->A (j+1)=(A j).put o.dst (vs j)/\∀m∈rs.getD j [],qV P o (A j).eval (W m) (vs j) (W (vo fC (i+j) m)))/\K (A l.length)
 |[],rs,i,a,h=>⟨fun _=>undef,fun _=>a,rfl,fun j o hj=>by simp at hj,h⟩
 |o::l,rs,i,a,h=>by
  obtain⟨v,h1,h2⟩:=h;obtain⟨vs,A,k0,k1,k2⟩:=ZY l rs.tail (i+1) _ h2;refine⟨fun j=>match j with|0=>v|j+1=>vs j,fun j=>match j with|0=>a|j+1=>A j,rfl,fun j o' hj=> ?_,k2⟩
  cases j with
  |zero=>
   simp only[List.getElem?_cons_zero,Option.some.injEq] at hj;subst hj;refine⟨k0,fun m hm=>h1 m ?_⟩
   cases rs with
   |nil=>simp at hm
   |cons r rs=>simpa using hm
  |succ j=>
   simp only[List.getElem?_cons_succ] at hj;obtain⟨q1,q2⟩:=k1 j o' hj;refine⟨q1,fun m hm=> ?_⟩
   have:=q2 m (by cases rs with
    |nil=>simp at hm
    |cons r rs=>simpa using hm)
   rw[show i+(j+1)=i+1+j by omega];exact this
def ab5(R:Array Oper)(fC:List Nat)(i m:Nat):Bool:=
 (List.range fC.length).all fun k=>if m.testBit k then !((masks R.toList []).getD (fC.getD k 0) 0).testBit i&&fC.getD k 0 !=i&&(List.range fC.length).all (fun k'=> !((masks R.toList []).getD (fC.getD k 0) 0).testBit (fC.getD k' 0)||m.testBit k')
   else !((masks R.toList []).getD i 0).testBit (fC.getD k 0)
def ah3(R:Array Oper)(N:Nat)(fC:List Nat)(rng:List (List Nat)):Bool:=
 ((List.range R.size).all fun j=>
   (match R[j]? with
    |some o=>o.guard.isNone&&(match o.op with| .select .. =>false|_=>true)&&o.after.toList.all (fun e=> !Region.binds .any e||decide (e.on<j))&&(match o.dst with|some d=>decide (d<N)|none=>true)
    |none=>true)&&
   ((List.range j).all fun i=>
     match R[i]?,R[j]? with
     |some x,some y=>(((masks R.toList []).getD j 0).testBit i||x.apart R y)&&(x.dst.isNone||x.dst !=y.dst)
     |_,_=>true)&&
   ((List.range (2^fC.length)).all fun m=> !(ab5 R fC j m)||(rng.getD j []).contains m))&&
 (List.range fC.length).all fun k'=>decide (fC.getD k' 0<R.size)&&(List.range k').all fun k=>fC.getD k 0 !=fC.getD k' 0
section
variable {P:Program} {R:Array Oper} {N:Nat} {fC:List Nat} {rng:List (List Nat)} {W:Nat->World} {vs:Nat->Value} {A:Nat->Act}
structure UA(R:Array Oper)(N:Nat)(fC:List Nat)(rng:List (List Nat)):Prop where
 guard:∀(j:Nat)(o:Oper),R[j]? =some o->o.guard=none
 ao5:∀(j:Nat)(o:Oper),R[j]? =some o->∀cs b,o.op≠ .select cs b
 edge:∀(i:Nat)(o:Oper)(e:Edge),R[i]? =some o->e∈o.after->Region.binds .any e=true->e.on<i
 dst:∀(i:Nat)(o:Oper),R[i]? =some o->∀d,o.dst=some d->d<N
 pair:∀(i j:Nat)(x y:Oper),i<j->R[i]? =some x->R[j]? =some y->((masks R.toList []).getD j 0).testBit i=true\/x.apart R y=true
 one:∀(i j:Nat)(x y:Oper)(d:Nat),R[i]? =some x->R[j]? =some y->x.dst=some d->y.dst=some d->i=j
 rng:∀(j m:Nat),j<R.size->m<2^fC.length->ab5 R fC j m=true->m∈rng.getD j []
 ah4:∀k,k<fC.length->fC.getD k 0<R.size
 apart:∀k k',k<k'->k'<fC.length->fC.getD k 0≠fC.getD k' 0
theorem ah5(h:ah3 R N fC rng=true):UA R N fC rng:=by
 unfold ah3 at h;rw[Bool.and_eq_true] at h;obtain⟨h1,h2⟩:=h;have H:∀(j:Nat)(o:Oper),R[j]? =some o->_:=fun j o ho=>List.all_eq_true.1 h1 j (List.mem_range.2 (Array.getElem?_eq_some_iff.1 ho).1)
 have H0:∀(j:Nat)(o:Oper),R[j]? =some o->o.guard.isNone=true/\(match o.op with| .select .. =>false|_=>true)=true/\o.after.toList.all (fun e=> !Region.binds .any e||decide (e.on<j))=true/\(match o.dst with|some d=>decide (d<N)|none=>true)=true:=by
  intro j o ho;have:=H j o ho;simp only[ho,Bool.and_eq_true] at this;exact⟨this.1.1.1.1.1,this.1.1.1.1.2,this.1.1.1.2,this.1.1.2⟩
 have H1:∀(i j:Nat)(x y:Oper),i<j->R[i]? =some x->R[j]? =some y->((((masks R.toList []).getD j 0).testBit i||x.apart R y)&&(x.dst.isNone||x.dst !=y.dst))=true:=by
  intro i j x y hij hx hy;have:=H j y hy;simp only[Bool.and_eq_true] at this;have:=List.all_eq_true.1 this.1.2 i (List.mem_range.2 hij);simp only[hx,hy] at this;exact this
 have H2:∀(i j:Nat)(x y:Oper)(d:Nat),i<j->R[i]? =some x->R[j]? =some y->x.dst=some d->y.dst=some d->False:=by
  intro i j x y d hij hx hy h1 h2;have:=H1 i j x y hij hx hy;simp[h1,h2] at this
 refine⟨fun j o ho=>by simpa using (H0 j o ho).1,fun j o ho cs b e=> ?_,fun i o e ho he hb=> ?_,fun i o ho d hd=> ?_,fun i j x y hij hx hy=> ?_,fun i j x y d hx hy h1 h2=> ?_,fun j m hj hm hp=> ?_,fun k hk=> ?_,fun k k' hkk hk=> ?_⟩
 ·have:=(H0 j o ho).2.1;rw[e] at this;cases this
 ·have:=List.all_eq_true.1 (H0 i o ho).2.2.1 e (by simpa using he);simpa [hb] using this
 ·have:=(H0 i o ho).2.2.2;rw[hd] at this;simpa using this
 ·have:=H1 i j x y hij hx hy;rw[Bool.and_eq_true,Bool.or_eq_true] at this;exact this.1
 ·rcases Nat.lt_trichotomy i j with h|h|h
  ·exact(H2 i j x y d h hx hy h1 h2).elim
  ·exact h
  ·exact(H2 j i y x d h hy hx h2 h1).elim
 ·have:=List.all_eq_true.1 h1 j (List.mem_range.2 hj);rw[Bool.and_eq_true] at this;have:=List.all_eq_true.1 this.2 m (List.mem_range.2 hm);simpa [hp] using this
 ·have:=List.all_eq_true.1 h2 k (List.mem_range.2 hk);rw[Bool.and_eq_true] at this;simpa using this.1
 ·have:=List.all_eq_true.1 h2 k' (List.mem_range.2 hk);rw[Bool.and_eq_true] at this;have:=List.all_eq_true.1 this.2 k (List.mem_range.2 hkk);simpa using this
structure ab6(R:Array Oper)(fC:List Nat)(W:Nat->World)(vs:Nat->Value)(a0:Act)(listed:Array Bool)(a:Act)(w:World):Prop where
 size:listed.size=R.size
 closed:∀i o e,R[i]? =some o->listed.getD i false=true->e∈o.after->Region.binds .any e=true->listed.getD e.on false=true
 wld:∃m,m<2^fC.length/\(∀k,k<fC.length->(listed.getD (fC.getD k 0) false=true<->m.testBit k=true))/\w=W m
 defs:a.defers=a0.defers
 ab7:a.tmps.size=a0.tmps.size
 got:∀j o t,R[j]? =some o->o.dst=some t->listed.getD j false=true->a.tmps.getD t undef=vs j
 old:∀t,(∀j o,R[j]? =some o->o.dst=some t->listed.getD j false=false)->a.tmps.getD t undef=a0.tmps.getD t undef
theorem WA(a:Act)(d:Option Nat)(v:Value):(a.put d v).tmps.size=a.tmps.size:=by cases d<;>simp[Act.put]
theorem put_defers(a:Act)(d:Option Nat)(v:Value):(a.put d v).defers=a.defers:=by cases d<;>rfl
theorem WB{a:Act}{d:Nat}{v:Value}(h:d<a.tmps.size):(a.put (some d) v).tmps.getD d undef=v:=by simp[Act.put,h]
theorem WC(hok:UA R N fC rng){a0:Act}(hN:a0.tmps.size=N)(Sr:A 0=a0)(hA:∀j o,R[j]? =some o->A (j+1)=(A j).put o.dst (vs j)):
 ∀n,n<=R.size->(A n).tmps.size=N/\(A n).defers=a0.defers/\(∀t,(∀j o,j<n->R[j]? =some o->o.dst≠some t)->(A n).tmps.getD t undef=a0.tmps.getD t undef)/\(∀j o t,j<n->R[j]? =some o->o.dst=some t->(A n).tmps.getD t undef=vs j):=by
 intro n
 induction n with
 |zero=>intro _;rw[Sr];exact⟨hN,rfl,fun _ _=>rfl,fun j o t hj=>by omega⟩
 |succ n ih=>
  intro hn;obtain⟨i1,i2,i3,i4⟩:=ih (by omega);have ho:R[n]? =some R[n]:=Array.getElem?_eq_getElem (by omega);have hAn:=hA n _ ho;refine⟨by rw[hAn,WA];exact i1,by rw[hAn,put_defers];exact i2,fun t ht=> ?_,fun j o t hj hjo hd=> ?_⟩
  ·rw[hAn,wN (ht n _ (by omega) ho)];exact i3 t fun j o hj hjo=>ht j o (by omega) hjo
  ·by_cases e:j=n
   ·subst e;rw[ho] at hjo;cases hjo;rw[hAn,hd,WB (by rw[i1];exact hok.dst _ _ ho _ hd)]
   ·rw[hAn,wN fun q=>e (hok.one j n _ _ t hjo ho hd q)];exact i4 j o t (by omega) hjo hd
theorem aeZ{Q:Exit->Act->World->Prop}(hok:UA R N fC rng){a0:Act}(hN:a0.tmps.size=N)(Sr:A 0=a0)
 (hA:∀j o,R[j]? =some o->A (j+1)=(A j).put o.dst (vs j)/\∀m∈rng.getD j [],qV P o (A j).eval (W m) (vs j) (W (vo fC j m)))
 {listed:Array Bool} {a:Act} {w:World} (hM:ab6 R fC W vs a0 listed a w) {i:Nat} (hi:i∈Region.ready .any R listed):
 wpOp P R Q i (fun a' w'=>ab6 R fC W vs a0 (listed.setIfInBounds i true) a' w') a w:=by
 obtain⟨hun,o,ho,JC⟩:=mem_ready.1 hi;have hlt:i<R.size:=(Array.getElem?_eq_some_iff.1 ho).1
 have hls:i<listed.size:=by rw[hM.size];exact hlt
 have zQ:listed.getD i false=false:=by simp[hls] at hun ⊢;exact hun
 have hset:(listed.setIfInBounds i true).getD i false=true:=by simp[hls]
 have G8:∀j x k,R[j]? =some x->listed.getD j false=true->((masks R.toList []).getD j 0).testBit k=true->listed.getD k false=true:=fun j x k hx hE hb=>
  EN (fun k=>listed.getD k false=true) hM.closed hok.edge j x hx (fun e he hb=>hM.closed j x e hx hE he hb) k hb
 have BL:∀k,((masks R.toList []).getD i 0).testBit k=true->listed.getD k false=true:=fun k hb=>
  EN (fun k=>listed.getD k false=true) hM.closed hok.edge i o ho (fun e he hb=>JC e he hb) k hb
 obtain⟨m,hm,hmk,rfl⟩:=hM.wld;obtain⟨c1,c2,c3,c4⟩:=WC hok hN Sr (fun j o h=>(hA j o h).1) i (by omega)
 have hev:∀x∈o.op.operands,a.eval x=(A i).eval x:=by
  intro x hx
  cases x with
  |tmp t=>
   have Od:t∈o.looksAt R:=IU hx rfl;show a.tmps.getD t undef=(A i).tmps.getD t undef;by_cases hw:∃(j:Nat) (y:Oper),j<i/\R[j]? =some y/\y.dst=some t
   ·obtain⟨j,y,hj,hy,hd⟩:=hw;rw[c4 j y t hj hy hd];refine hM.got j y t hy hd (BL j ?_);rcases hok.pair j i y o hj hy ho with h|h
    ·exact h
    ·exact absurd Od ((Oper.apart_spec h).1 t hd)
   ·rw[c3 t fun j y hj hy hd=>hw ⟨j,y,hj,hy,hd⟩];refine hM.old t fun j y hy hd=> ?_
    cases hl:listed.getD j false with
    |false=>rfl
    |true=>
     exfalso;rcases Nat.lt_trichotomy j i with h|h|h
     ·exact hw ⟨j,y,h,hy,hd⟩
     ·subst h;rw[zQ] at hl;cases hl
     ·rcases hok.pair i j o y h ho hy with k|k
      ·rw[G8 j y i hy hl k] at zQ;cases zQ
      ·exact(Oper.apart_spec k).2.2 t hd Od
  |_=>rfl
 have aqX:m∈rng.getD i []:=by
  refine hok.rng i m hlt hm ?_;unfold ab5;refine List.all_eq_true.2 fun k hk=> ?_;have hk:=List.mem_range.1 hk
  cases q:m.testBit k with
  |false=>
   rw[if_neg (by decide)]
   cases hb:((masks R.toList []).getD i 0).testBit (fC.getD k 0) with
   |false=>rfl
   |true=>
    have:=(hmk k hk).1 (BL _ hb);rw[q] at this;cases this
  |true=>
   rw[if_pos rfl];have hl:=(hmk k hk).2 q;have he:R[fC.getD k 0]? =some (R[fC.getD k 0]'(hok.ah4 k hk)):=Array.getElem?_eq_getElem (hok.ah4 k hk);rw[Bool.and_eq_true,Bool.and_eq_true];refine⟨⟨?_,?_⟩,List.all_eq_true.2 fun k' hk'=> ?_⟩
   ·cases hb:((masks R.toList []).getD (fC.getD k 0) 0).testBit i with
    |false=>rfl
    |true=>rw[G8 _ _ i he hl hb] at zQ;cases zQ
   ·rw[bne_iff_ne];intro e;rw[e,zQ] at hl;cases hl
   ·cases hb:((masks R.toList []).getD (fC.getD k 0) 0).testBit (fC.getD k' 0) with
    |false=>rfl
    |true=>exact(hmk k' (List.mem_range.1 hk')).1 (G8 _ _ _ he hl hb)
 have hdo:=(hA i o ho).2 m aqX;unfold qV at hdo;rw[<-execOp_congr o (hok.ao5 i o ho) hev] at hdo;unfold wpOp;simp only[ho];rw[if_pos (by simp[Region.wanted,hok.guard i o ho])];refine .inl (qV.wp hdo ?_);refine⟨by simpa using hM.size,fun j x e hx hE he hb=> ?_,?_,by rw[put_defers];exact hM.defs,by rw[WA];exact hM.ab7,fun j y t hy hd hl=> ?_,fun t ht=> ?_⟩
 ·by_cases hji:j=i
  ·subst hji;rw[ho] at hx;cases hx;exact getD_set_true (JC e he hb)
  ·rw[getD_set_ne false (Ne.symm hji)] at hE;exact getD_set_true (hM.closed j x e hx hE he hb)
 ·by_cases hie:i∈fC
  ·obtain⟨k,hk,rfl⟩:∃k,k<fC.length/\fC.getD k 0=i:=by
    obtain⟨k,hk,e⟩:=List.getElem_of_mem hie;exact⟨k,hk,by simp[hk,e]⟩
   have hix:fC.idxOf (fC.getD k 0)=k:=by
    have h1:fC.idxOf (fC.getD k 0)<fC.length:=List.idxOf_lt_length_iff.2 hie
    have h2:fC.getD (fC.idxOf (fC.getD k 0)) 0=fC.getD k 0:=by
     rw[List.getD_eq_getElem?_getD,List.getElem?_eq_getElem h1,Option.getD_some];exact List.getElem_idxOf h1
    rcases Nat.lt_trichotomy (fC.idxOf (fC.getD k 0)) k with h|h|h
    ·exact absurd h2 (hok.apart _ k h hk)
    ·exact h
    ·exact absurd h2.symm (hok.apart k _ h h1)
   refine⟨m ||| 2^k,Nat.or_lt_two_pow hm (Nat.pow_lt_pow_right (by decide) hk),fun k' hk'=> ?_,?_⟩
   ·rw[Nat.testBit_or,Nat.testBit_two_pow];by_cases e:k'=k
    ·subst e;rw[hset,decide_eq_true rfl,Bool.or_true]
    ·have hne:fC.getD k 0≠fC.getD k' 0:=by
      rcases Nat.lt_trichotomy k k' with h|h|h
      ·exact hok.apart k k' h hk'
      ·exact absurd h.symm e
      ·exact(hok.apart k' k h hk).symm
     rw[getD_set_ne false hne,hmk k' hk'];simp[Ne.symm e]
   ·unfold vo;rw[if_pos (by simpa using hie),hix]
  ·refine⟨m,hm,fun k hk=> ?_,by unfold vo;rw[if_neg (by simpa using hie)]⟩;have hne:i≠fC.getD k 0:=fun e=>hie (by rw[e];simp[hk]);rw[getD_set_ne false hne];exact hmk k hk
 ·by_cases hji:j=i
  ·subst hji;rw[ho] at hy;cases hy;rw[hd,WB (by rw[hM.ab7,hN];exact hok.dst _ _ ho _ hd)]
  ·rw[getD_set_ne false (Ne.symm hji)] at hl;rw[wN fun q=>hji (hok.one j i _ _ t hy ho hd q)];exact hM.got j y t hy hd hl
 ·have hne:o.dst≠some t:=fun q=>by
   have:=ht i o ho q;rw[hset] at this;cases this
  rw[wN hne];refine hM.old t fun j y hy hd=> ?_;have:=ht j y hy hd;by_cases hji:j=i
  ·subst hji;exact zQ
  ·rw[getD_set_ne false (Ne.symm hji)] at this;exact this
theorem ah6{Q:Exit->Act->World->Prop}(hok:UA R N fC rng){a0:Act}(hN:a0.tmps.size=N)(Sr:A 0=a0)
 (hA:∀j o,R[j]? =some o->A (j+1)=(A j).put o.dst (vs j)/\∀m∈rng.getD j [],qV P o (A j).eval (W m) (vs j) (W (vo fC j m)))
 (hQ:Q .normal (A R.size) (W (2^fC.length-1))):
 ∀(fuel:Nat)(listed:Array Bool)(a:Act)(w:World),(List.range R.size).countP (fun i=> !listed.getD i false)<=fuel->ab6 R fC W vs a0 listed a w->wpAny P .any R Q fuel listed a w:=by
 have hend:∀listed a w,ab6 R fC W vs a0 listed a w->Region.ready .any R listed=[]->Q .normal a w:=by
  intro listed a w hM hr
  have hall:∀i,i<R.size->listed.getD i false=true:=by
   intro i
   induction i using Nat.strongRecOn with
   |_ i ih=>
    intro hi
    cases hE:listed.getD i false with
    |true=>rfl
    |false=>
     exfalso;have ho:R[i]? =some R[i]:=Array.getElem?_eq_getElem hi
     have:i∈Region.ready .any R listed:=by
      rw[mem_ready]
      have hs:i<listed.size:=by rw[hM.size];exact hi
      refine⟨by simp[hs] at hE ⊢;exact hE,_,ho,fun e he hb=> ?_⟩;have hon:=hok.edge i _ e ho he hb;exact ih e.on hon (by omega)
     rw[hr] at this;simp at this
  obtain⟨m,hm,hmk,rfl⟩:=hM.wld;obtain⟨c1,c2,c3,c4⟩:=WC hok hN Sr (fun j o h=>(hA j o h).1) R.size (Nat.le_refl _)
  have hme:m=2^fC.length-1:=by
   refine Nat.eq_of_testBit_eq fun k=> ?_;rw[Nat.testBit_two_pow_sub_one];by_cases q:k<fC.length
   ·rw[(hmk k q).1 (hall _ (hok.ah4 k q)),decide_eq_true q]
   ·rw[decide_eq_false q];exact Nat.testBit_lt_two_pow (Nat.lt_of_lt_of_le hm (Nat.pow_le_pow_right (by decide) (by omega)))
  subst hme
  have hae:a=A R.size:=by
   have hg:∀t,a.tmps.getD t undef=(A R.size).tmps.getD t undef:=by
    intro t;by_cases hw:∃(j:Nat) (y:Oper),R[j]? =some y/\y.dst=some t
    ·obtain⟨j,y,hy,hd⟩:=hw;have hj:=(Array.getElem?_eq_some_iff.1 hy).1;rw[c4 j y t hj hy hd];exact hM.got j y t hy hd (hall j hj)
    ·rw[c3 t fun j y _ hy hd=>hw ⟨j,y,hy,hd⟩];exact hM.old t fun j y hy hd=>absurd ⟨j,y,hy,hd⟩ hw
   have hs:a.tmps.size=(A R.size).tmps.size:=by rw[hM.ab7,hN,c1]
   have ht:a.tmps=(A R.size).tmps:=by
    refine Array.ext hs fun t h1 h2=> ?_;have:=hg t;simpa [h1,h2] using this
   have hd:a.defers=(A R.size).defers:=hM.defs.trans c2.symm;obtain⟨WE,ad1⟩:=a
   generalize A R.size=b at *
   obtain⟨bt,bd⟩:=b;simp only at ht hd;rw[ht,hd]
  rw[hae];exact hQ
 intro fuel
 induction fuel with
 |zero=>
  intro listed a w hc hM
  have hnone:Region.ready .any R listed=[]:=by
   cases hr:Region.ready .any R listed with
   |nil=>rfl
   |cons i l=>
    exfalso
    have hi:i∈Region.ready .any R listed:=by rw[hr];simp
    obtain⟨hun,o,ho,_⟩:=mem_ready.1 hi;have hlt:=(Array.getElem?_eq_some_iff.1 ho).1
    have hs:i<listed.size:=by rw[hM.size];exact hlt
    have hz:(List.range R.size).countP (fun i=> !listed.getD i false)=0:=by omega
    rw[List.countP_eq_zero] at hz;have:=hz i (List.mem_range.2 hlt);simp[hs] at hun this;rw[hun] at this;cases this
  exact⟨hnone,hend listed a w hM hnone⟩
 |succ fuel ih=>
  intro listed a w hc hM;refine⟨hend listed a w hM,fun i hi=> ?_⟩;refine wpOp_mono (fun a' w' hM'=>ih _ a' w' ?_ hM') (aeZ hok hN Sr hA hM hi);obtain⟨hun,o,ho,_⟩:=mem_ready.1 hi;have hlt:=(Array.getElem?_eq_some_iff.1 ho).1
  have hs:i<listed.size:=by rw[hM.size];exact hlt
  have:=cnt_lt (fun j=> !listed.getD j false) (fun j=> !(listed.setIfInBounds i true).getD j false) (List.range R.size) i (fun x hx=>by
   by_cases e:x=i
   ·subst e;simp[hs] at hx
   ·rw[getD_set_ne false (Ne.symm e)] at hx;exact hx) (List.mem_range.2 hlt) (by simp[hs] at hun ⊢;exact hun) (by simp[hs])
  omega
end
theorem Ic{P:Program}{id:Nat}{Q:Exit->Act->World->Prop}{a:Act}{w:World}{l:List Oper}(N:Nat)(fC:List Nat)(rng:List (List Nat))(W:Nat->World)(hm:P.follows .mixedOrders=true)(hB:ah3 l.toArray N fC rng=true)
 (hN:a.tmps.size=N) (h0:W 0=w.drew) (h:dx P fC W (fun a'=>Q .normal a' (W (2^fC.length-1))) l rng 0 a):(Code.region id l.toArray true).wp P Q a w:=by
 refine wp_region_any hm ?_;have hok:=ah5 hB;obtain⟨vs,A,k0,k1,k2⟩:=ZY l rng 0 a h;refine ah6 (W:=W) (vs:=vs) (A:=A) hok hN k0 (fun j o hj=> ?_) (by simpa using k2) _ _ _ _ ?_ ⟨by simp,fun i o e _ hl=> ?_,⟨0,Nat.two_pow_pos _,fun k hk=> ?_,h0.symm⟩,rfl,rfl,fun j o t _ _ hl=> ?_,fun t _=>rfl⟩
 ·have:=k1 j o (by simpa using hj);rw[Nat.zero_add] at this;exact this
 ·exact Nat.le_trans List.countP_le_length (by simp)
 ·rw[getD_replicate_false] at hl;cases hl
 ·rw[getD_replicate_false];simp
 ·rw[getD_replicate_false] at hl;cases hl
theorem M0{P:Program}{Q:Exit->Act->World->Prop}{a:Act}{w:World}{c:Code}(h:∀W,W=w->c.wp P Q a W):c.wp P Q a w:=h w rfl
section
variable {P:Program} {fC:List Nat} {W:Nat->World} {K:Act->Prop} {o:Oper} {l:List Oper} {rs:List (List Nat)} {i:Nat} {a:Act}
theorem dx.step(v:Value){r:List Nat}(h:∀m∈r,qV P o a.eval (W m) v (W (vo fC i m)))(hk:dx P fC W K l rs (i+1) (a.put o.dst v)):dx P fC W K (o::l) (r::rs) i a:=⟨v,h,hk⟩
theorem ah7{m:Nat}(he:fC.contains i=false):vo fC i m=m:=by unfold vo;rw[he];rfl
theorem dx.done(h:K a):dx P fC W K [] rs i a:=h
theorem dx.any(v:Value){r:List Nat}(he:fC.contains i=false)(h:∀w,qV P o a.eval w v w)(hk:dx P fC W K l rs (i+1) (a.put o.dst v)):dx P fC W K (o::l) (r::rs) i a:=
 ⟨v,fun m _=>by rw[ah7 he];exact h _,hk⟩
theorem dx.WE(v:Value){m:Nat}{w w':World}(hw:W m=w)(hw':W (vo fC i m)=w')(h:qV P o a.eval w v w')(hk:dx P fC W K l rs (i+1) (a.put o.dst v)):dx P fC W K (o::l) ([m]::rs) i a:=
 ⟨v,fun k hk=>by
   have:k=m:=by simpa using hk
   subst this;rw[hw,hw'];exact h,hk⟩
theorem dx.at2(v:Value){m n:Nat}{w w' u u':World}(hw:W m=w)(hw':W (vo fC i m)=w')(hu:W n=u)(hu':W (vo fC i n)=u')(h:qV P o a.eval w v w')(h2:qV P o a.eval u v u')(hk:dx P fC W K l rs (i+1) (a.put o.dst v)):
 dx P fC W K (o::l) ([m,n]::rs) i a:=
 ⟨v,fun k hk=>by
   have:k=m\/k=n:=by simpa using hk
   rcases this with rfl|rfl
   ·rw[hw,hw'];exact h
   ·rw[hu,hu'];exact h2,hk⟩
theorem Ef{ρ:Operand->Value}{w w':World}{v:Value}(h:(execOp ρ o).run P w=.ok (.value v) w'):qV P o ρ w v w':=.inl h
theorem zh{ρ:Operand->Value}{w w':World}(h:(execOp ρ o).run P w=.ok .skip w'):qV P o ρ w undef w':=.inr ⟨h,rfl⟩
theorem FC{ρ:Operand->Value}{w w':World}{s x:Operand}{t:TypeId}{v u r:Value}(ho:o.op=.call {callee:=.builtin .append,args:= #[s,x],argTypes:= #[t,t]})(hs:ρ s=v)(hx:ρ x=u)
 (hr:(Builtin.append_ #[t,t] o.type #[v,u]).run P w=.ok r w'):qV P o ρ w r w':=by
 left;unfold execOp;simp only[ho,resolve,invoke,builtin,Sem.run_bind,Sem.run_pure,Result.andThen_ok,List.map_toArray,List.map_cons,List.map_nil,hs,hx,hr]
theorem dx.anyS(v:Value){r:List Nat}(hk:dx P fC W K l rs (i+1) (a.put o.dst v))(he:fC.contains i=false:=by rfl)(h:∀w,qV P o a.eval w v w:=by intro w;exact Ef (by go_simp)):dx P fC W K (o::l) (r::rs) i a:=dx.any v he h hk
theorem dx.ab8(v:Value){m:Nat}{w w':World}(hw:W m=w)(hw':W (vo fC i m)=w')(hk:dx P fC W K l rs (i+1) (a.put o.dst v))(h:qV P o a.eval w v w':=by exact Ef (by go_simp)):dx P fC W K (o::l) ([m]::rs) i a:=dx.WE v hw hw' h hk
theorem dx.ab9(v:Value){m n:Nat}{w w' u u':World}(hw:W m=w)(hw':W (vo fC i m)=w')(hu:W n=u)(hu':W (vo fC i n)=u')(hk:dx P fC W K l rs (i+1) (a.put o.dst v))(h:qV P o a.eval w v w':=by exact Ef (by go_simp))(h2:qV P o a.eval u v u':=by exact Ef (by go_simp)):
 dx P fC W K (o::l) ([m,n]::rs) i a:=dx.at2 v hw hw' hu hu' h h2 hk
end
def iT(l:List UInt8)(rows:List (List aj))(c:Nat):Option (List (List aj)):=runT (lex l) rows c
theorem Pj(s:List UInt8):iT s [[]] 0=yM (s.length+1) s [[]] 0:=(yN _ _ _ _ (Nat.lt_succ_self _)).symm
theorem ah8(rows:List (List aj))(c:Nat):iT [] rows c=some rows:=by unfold iT;rw[lex_nil rfl,runT]
theorem acd{b:UInt8}{u:List UInt8}(h:lK b=true)(rows:List (List aj))(c:Nat):iT (b::u) rows c=iT u rows c:=by
 unfold iT;rw[<-AA (b::u),Hy h,AA]
theorem ak3(u:List UInt8)(rows:List (List aj))(c:Nat):iT (40::u) rows c=if 15<rows.length+1\/1800<c+1 then none else iT u ([]::rows) (c+1):=by
 unfold iT;rw[nG (wT (by decide)),if_neg (by decide),if_pos rfl,runT]
theorem ak4(u:List UInt8)(x y:List aj)(z:List (List aj))(c:Nat):iT (41::u) (x::y::z) c=if 1800<c+1 then none else iT u ((y++[bC x])::z) (c+1):=by
 unfold iT;rw[nG (wT (by decide)),if_neg (by decide),if_neg (by decide),if_pos rfl,runT]
theorem ah9(u:List UInt8)(x:List aj)(c:Nat):iT (41::u) [x] c=none:=by
 unfold iT;rw[nG (wT (by decide)),if_neg (by decide),if_neg (by decide),if_pos rfl];simp[runT]
theorem ak5{b:UInt8}(u:List UInt8)(x:List aj)(z:List (List aj))(c:Nat)(h:bS b=true):iT (b::u) (x::z) c=if 1800<c+1 then none else iT (u.dropWhile bS) ((x++[bI (b::u.takeWhile bS)])::z) (c+1):=by
 unfold iT;rw[nG (wT (V8 h).1),if_pos h,runT]
theorem aia{b:UInt8}(u:List UInt8)(rows:List (List aj))(c:Nat)(h1:lK b=false)(h2:b≠40)(h3:b≠41)(h4:bS b=false):iT (b::u) rows c=none:=by
 unfold iT;rw[nG (wT h1),if_neg (by rw[h4];decide),if_neg h2,if_neg h3];cases rows<;>simp[runT]
theorem ae0{s u:List UInt8}{b:UInt8}{i e:Nat}(x:List aj)(z:List (List aj))(c:Nat)(hd:s.drop i=b::u)(hb:bS b=true)(hie:i<e)(hall:∀a∈(s.drop i).take (e-i),bS a=true)
 (hstop:e=s.length\/∃a,s[e]? =some a/\bS a=false):iT (b::u) (x::z) c=if 1800<c+1 then none else iT (s.drop e) ((x++[bI ((s.take e).drop i)])::z) (c+1):=by
 have hw:=Ph (p:=bS) (e-i) (s.drop i) hall (by
  rcases hstop with h|⟨a,h1,h2⟩
  ·left;rw[List.length_drop,h]
  ·right;exact⟨a,by rw[List.getElem?_drop,show i+(e-i)=e by omega];exact h1,h2⟩)
 rw[List.drop_drop,show i+(e-i)=e by omega,<-List.drop_take] at hw;rw[ak5 u x z c hb,<-hw.1,<-hw.2,hd];simp[List.takeWhile,List.dropWhile,hb]
def J9:List (List aj)->Nat
 |[]=>0
 |l::r=>l.length+dA l+J9 r
structure ao6(s:List UInt8)(B R:Nat)(w0:World)(σ0:Nat->Nat)(T eo e:TypeId)(k:Nat)(v4 v5 v6:Value)(w:World):Prop where
 ex:∃(rows:List (List aj)) (σ:Nat->Nat) (i c g cap:Nat) (hs:List Value),v4=.slice (some ⟨g,0,none⟩) rows.length cap/\v5=.int .i64 c/\v6=.int .i64 i/\
  hs.length=rows.length/\1<=rows.length/\rows.length<=15/\c<=1800/\i+k=s.length/\iT (s.drop i) rows c=iT s [[]] 0/\
  kC w σ B eo e v4 hs rows.reverse/\Grow w0 σ0 w σ/\nD w σ/\(∀l∈rows,l.length<=c)/\J9 rows<=2*i/\σ R=0/\w.heap[R]? =some (.cells #[.string ⟨#[]⟩,.slice none 0 0] T (0,0))
theorem aqY(w:World)(σ:Nat->Nat)(hl:∀b,b<w.heap.size\/σ b=0)(T eo e:TypeId):
 kC ((w.alloc (.cells #[.string ⟨#[]⟩,.slice none 0 0] T)).alloc (.cells #[.slice none 0 0] eo)) σ (w.heap.size+1) eo e (.slice (some ⟨w.heap.size+1,0,none⟩) 1 1) [.slice none 0 0] [[]]:=by
 have hz:(w.alloc (.cells #[.string ⟨#[]⟩,.slice none 0 0] T)).heap.size=w.heap.size+1:=by simp
 refine⟨⟨rfl,.inr ⟨w.heap.size+1,1,#[.slice none 0 0],rfl,Nat.le_refl _,?_,Nat.le_refl _,by decide,rfl,rfl⟩⟩,fun b hb=> ?_,fun j l hj=> ?_,fun i j hi hj b hne h1 h2=> ?_⟩
 ·rw[<-hz];exact heap_alloc_new _ _
 ·cases hb;rcases hl (w.heap.size+1) with h|h
  ·omega
  ·exact h
 ·match j,hj with
  |0,hj=>
   cases hj;exact⟨_,rfl,⟨⟨[],⟨rfl,.inl ⟨rfl,rfl⟩⟩,fun i d hd=>by cases hd⟩,fun b hb=>by cases hb⟩,fun b hb=>by cases hb⟩
  |j+1,hj=>cases hj
 ·simp only[List.length_cons,List.length_nil] at h1 h2;omega
theorem Bq{w:World}{σ:Nat->Nat}(hl:∀b,b<w.heap.size\/σ b=0)(o:Go.Obj):Grow w σ (w.alloc o) σ:=
 ⟨by simp,rfl,rfl,fun b hb=>⟨Lib.alloc_old w o b hb,rfl⟩,fun b=>(hl b).elim (fun h=>.inl (by simp;omega)) .inr⟩
theorem QW{s:List UInt8}{i:Nat}(h:i<s.length):i<(⟨s.toArray⟩:ByteArray).size:=by simpa [ByteArray.size] using h
theorem byte_at{s:List UInt8}{i:Nat}(h:i<s.length):(⟨s.toArray⟩:ByteArray)[i]'(QW h)=s[i]:=by
 show s.toArray[i]'_=_
 simp
theorem Ka(g j:Nat):(⟨g,0,none⟩:Addr).add j=⟨g,j,none⟩:=by unfold Addr.add;split<;>simp_all
theorem wZ{w:World}{σ:Nat->Nat}{B g cap n:Nat}{eo e:TypeId}{hs:List Value}{rs:List (List aj)}(h:kC w σ B eo e (.slice (some ⟨g,0,none⟩) n cap) hs rs){j:Nat}{u:Value}(hj:hs[j]? =some u):w.cell? ⟨g,j,none⟩=some u:=by
 have:=h.own.cells (g:=g) rfl j u hj
 rwa [Ka] at this
theorem Ie{w:World}{σ:Nat->Nat}{B:Nat}{e:TypeId}{v:Value}{l:List aj}(h:Ct w σ B e v l):
 ∃a cap,v=.slice a l.length cap/\∀i (hi:i<l.length),∃g u,a=some ⟨g,0,none⟩/\w.cell? ⟨g,i*2,none⟩=some (.string ⟨l[i].aO.toArray⟩)/\w.cell? ⟨g,i*2+1,none⟩=some u/\dI w σ (.sl (l[i].ah.map aj.enc)) u:=by
 obtain⟨⟨xs,ho,hx⟩,hf⟩:=h
 obtain⟨a,cap,rfl⟩:∃a cap,v=.slice a l.length cap:=by
  rcases ho.2 with⟨rfl,h0⟩|⟨g,cap,cur,rfl,_⟩
  ·exact⟨none,0,by rw[h0]⟩
  ·exact⟨_,_,rfl⟩
 refine⟨a,cap,rfl,fun i hi=> ?_⟩;rcases ho.2 with⟨h1,h0⟩|⟨g,cap0,cur,h1,_⟩
 ·omega
 ·cases h1;have hl:∀y∈l.map aj.enc,y.length=2:=Ec l
  have e1:(l.map aj.enc)[i]'(by simpa using hi)=[.s l[i].aO,.sl (l[i].ah.map aj.enc)]:=by rw[List.getElem_map,aj.aB];first|rfl|done
  have hg:∀o (hoo:o<2),(l.map aj.enc).flatten[i*2+o]? =([.s l[i].aO,.sl (l[i].ah.map aj.enc)]:List D)[o]? :=fun o hoo=>by
   rw[flat_get _ 2 hl i o (by simpa using hi) hoo,e1]
  obtain⟨u0,k0,r0⟩:=hx (i*2+0) _ (hg 0 (by omega));obtain⟨u1,k1,r1⟩:=hx (i*2+1) _ (hg 1 (by omega));have c0:=ho.cells (g:=g) rfl _ _ k0;have c1:=ho.cells (g:=g) rfl _ _ k1;rw[Ka] at c0 c1;refine⟨g,u1,rfl,?_,c1,r1⟩;cases r0;exact c0
def ace(s:List UInt8)(w:World)(σ:Nat->Nat)(e:Ending)(w':World):Prop:=
 ∃lv σ',e=.returned (.tuple #[.agg #[.string ⟨(jy s).aO.toArray⟩,lv],.bool (lg s)])/\dI w' σ' (.sl ((jy s).ah.map aj.enc)) lv/\Grow w σ w' σ'/\nD w' σ'
theorem Pk{s:List UInt8}{w W:World}{σ σ1:Nat->Nat}(h:∀x,yM (s.length+1) s [[]] 0=some [[x]]->fM x=false)(hg:Grow w σ W σ1)(hl:nD W σ1):
 ace s w σ (.returned (.tuple #[.agg #[.string ⟨#[]⟩,.slice none 0 0],.bool false])) W:=by
 have hno:∀x,¬Denotes s x:=fun x hx=>by
  have h1:=h x (Bl hx);have h2:=hx.1;rw[h1] at h2;cases h2
 obtain⟨h1,h2⟩:=V9 hno;refine⟨.slice none 0 0,σ1,?_,?_,hg,hl⟩
 ·rw[h1,h2];rfl
 ·rw[h2];exact .nil _ _
theorem yQ{s:List UInt8}{w W:World}{σ σ1:Nat->Nat}(h:iT s [[]] 0=none)(hg:Grow w σ W σ1)(hl:nD W σ1):
 ace s w σ (.returned (.tuple #[.agg #[.string ⟨#[]⟩,.slice none 0 0],.bool false])) W:=
 Pk (fun x hx=>by rw[<-Pj,h] at hx;cases hx) hg hl
theorem ak6{s:List UInt8}{w W:World}{σ σ1:Nat->Nat}{x:aj}{lv:Value}(h:yM (s.length+1) s [[]] 0=some [[x]])(hv:fM x=true)(hr:dI W σ1 (.sl (x.ah.map aj.enc)) lv)(hg:Grow w σ W σ1)(hl:nD W σ1):
 ace s w σ (.returned (.tuple #[.agg #[.string ⟨x.aO.toArray⟩,lv],.bool true])) W:=by
 have h1:=(JM s).1.1 ⟨x,h,hv⟩;have h2:=(JM s).2 x h hv;exact⟨lv,σ1,by rw[h1,h2],by rw[h2];exact hr,hg,hl⟩
theorem ae1{w wa w1:World}{σ σ1:Nat->Nat}{g:Nat}(hg:Grow w σ wa σ1)(hsz:wa.heap.size<=w1.heap.size)(hos:w1.os=wa.os)(hout:w1.output=wa.output)(hold:∀b,b<wa.heap.size->b≠g->w1.heap[b]? =wa.heap[b]?)(hgB:w.heap.size<=g):Grow w σ w1 σ1:=
 ⟨Nat.le_trans hg.size hsz,hos.trans hg.os,hout.trans hg.output,fun b hb=>⟨(hold b (Nat.lt_of_lt_of_le hb hg.size) (by omega)).trans (hg.old b hb).1,(hg.old b hb).2⟩,fun b=>(hg.live b).elim (fun h=>.inl (Nat.lt_of_lt_of_le h hsz)) .inr⟩
theorem Kc{w w':World}{σ σ':Nat->Nat}(hg:Grow w σ w' σ'){b j:Nat}{u:Value}(h:w.cell? ⟨b,j,none⟩=some u):w'.cell? ⟨b,j,none⟩=some u:=by
 cases hb:w.heap[b]? with
 |none=>simp[World.cell?,hb] at h
 |some o=>
  have:=(hg.old b (lt_of_some hb)).1;simp only[World.cell?,this] at h ⊢;exact h
theorem am1{w:World}{σ:Nat->Nat}(b:UInt8):qg w σ [] [] [.c (.d (.i .u8 b.toNat))] [.int .u8 b.toNat]:=by
 refine⟨rfl,fun j y hy=> ?_⟩
 match j,hy with
 |0,hy=>
  simp at hy;subst hy;exact⟨_,rfl,.i _ _,rfl⟩
theorem aqZ{w:World}{σ:Nat->Nat}{x:aj}{la:Option Addr}{ln lc:Nat}(h:dI w σ (.sl (x.ah.map aj.enc)) (.slice la ln lc)):qg w σ [] [] [x.v] [.agg #[.string ⟨x.aO.toArray⟩,.slice la ln lc]]:=by
 refine⟨rfl,fun j y hy=> ?_⟩
 match j,hy with
 |0,hy=>
  simp at hy;subst hy;refine⟨_,rfl,?_⟩;rw[<-aj.u6,aj.aB];refine⟨_,rfl,rfl,fun j y hy=> ?_⟩
  match j,hy with
  |0,hy=>simp at hy;subst hy;exact⟨_,rfl,.s _,rfl⟩
  |1,hy=>simp at hy;subst hy;exact⟨_,rfl,h,rfl⟩
theorem qE{w:World}{R:Nat}{a b x y:Value}{T:TypeId}{fr:Nat×Nat}(h:w.heap[R]? =some (.cells #[a,b] T fr)):((w.setCell ⟨R,0,none⟩ x).setCell ⟨R,1,none⟩ y).heap[R]? =some (.cells #[x,y] T fr):=by
 simp[World.setCell,Array.getElem?_modify,h]
theorem qG{w wr:World}{σ σ1:Nat->Nat}{R:Nat}{x y:Value}(hg:Grow w σ wr σ1)(hl:nD wr σ1)(hR:w.heap.size<=R)(h0:σ1 R=0):
 Grow w σ ((wr.setCell ⟨R,0,none⟩ x).setCell ⟨R,1,none⟩ y) σ1/\nD ((wr.setCell ⟨R,0,none⟩ x).setCell ⟨R,1,none⟩ y) σ1/\eH wr σ1 ((wr.setCell ⟨R,0,none⟩ x).setCell ⟨R,1,none⟩ y) σ1:=by
 have hs:((wr.setCell ⟨R,0,none⟩ x).setCell ⟨R,1,none⟩ y).heap.size=wr.heap.size:=by simp[World.setCell]
 have ho:∀b,b≠R->((wr.setCell ⟨R,0,none⟩ x).setCell ⟨R,1,none⟩ y).heap[b]? =wr.heap[b]? :=fun b hb=>by
  simp[World.setCell,Array.getElem?_modify,Ne.symm hb]
 have hn:eH wr σ1 ((wr.setCell ⟨R,0,none⟩ x).setCell ⟨R,1,none⟩ y) σ1:=Lf ((pG.setCell wr _ x rfl).trans (pG.setCell _ _ y rfl)) fun b hb=>ho b fun e=>hb (by rw[e];exact h0);refine⟨⟨by rw[hs];exact hg.size,hg.os,hg.output,fun b hb=>⟨(ho b (by omega)).trans (hg.old b hb).1,(hg.old b hb).2⟩,fun b=>by rw[hs];exact hg.live b⟩,hl.near hn,hn⟩
theorem qH{tmps:Array Value}{W:World}{R:Nat}{a lv:Value}{q:Bool}{post:Ending->World->Prop}(h2:tmps.getD 2 undef=.pointer (some ⟨R,0,none⟩))(h3:tmps.getD 3 undef=.bool q)
 (hW:W.heap[R]? =some (.cells #[a,lv] 54 (0,0))) (hp:post (.returned (.tuple #[.agg #[a,lv],.bool q])) W):bodyPost prog Tryz.f23 post .ret ⟨tmps,[]⟩ W:=by
 have c0:W.cell? ⟨R,0,none⟩=some a:=by rw[Lib.cell_of_heap hW];rfl
 have c1:W.cell? ⟨R,1,none⟩=some lv:=by rw[Lib.cell_of_heap hW];rfl
 refine bodyPost_ret (v:=.tuple #[.agg #[a,lv],.bool q]) ?_ rfl hp;rw[results_cell_tmp rfl,h2,h3]
 go_simp
theorem ae2:(prog.info? 54).map (fun i=>(i.zero,i.size,i.bytes))=some (some (.agg #[.string ⟨#[]⟩,.slice none 0 0]),2,40):=by kernel_rfl
theorem aib:(prog.info? 52).map (fun i=>(i.zero,i.size,i.bytes))=some (some (.slice none 0 0),1,24):=by kernel_rfl
theorem acf(s:List UInt8)(w:World)(σ:Nat->Nat)(hl:∀b,b<w.heap.size\/σ b=0)(hgl:nD w σ)(hs:s.length<=33554432):
 Calls prog 23 #[.string ⟨s.toArray⟩] w (ace s w σ):=by
 go_enter func23,ntmps23
 go_wp2
 go_loopg [4,5,6] s.length (fun k v4 v5 v6 wr=>ao6 s (w.heap.size+1) w.heap.size w σ 54 52 54 k v4 v5 v6 wr)
 case atStart=>
  have hg1:=Bq hl (.cells #[.string ⟨#[]⟩,.slice none 0 0] 54);have hg2:=hg1.trans (Bq hg1.live (.cells #[.slice none 0 0] 52));refine⟨[[]],σ,0,0,_,_,[.slice none 0 0],rfl,rfl,rfl,rfl,by decide,by decide,by decide,by omega,rfl,aqY w σ hl _ _ _,hg2,hgl.near hg2.near,by simp,by simp[J9,dA],(hl w.heap.size).elim (fun h=>by omega) id,?_⟩;rw[Lib.alloc_old _ _ _ (by simp)];exact heap_alloc_new _ _
 case round=>
  obtain⟨rows,σ1,i,c,g,cap,hv,rfl,rfl,rfl,e1,e2,e3,e4,e5,e6,hst,hgr,Ig,hlen,WG,Gl,hR⟩:=hrel
  have r0:wr.cell? ⟨w.heap.size,0,none⟩=some (.string ⟨#[]⟩):=by rw[Lib.cell_of_heap hR];rfl
  have r1:wr.cell? ⟨w.heap.size,1,none⟩=some (.slice none 0 0):=by rw[Lib.cell_of_heap hR];rfl
  have z0:=Lib.frozen_of_heap hR 0;have z1:=Lib.frozen_of_heap hR 1;have HZ:Aside (wr.heap[w.heap.size]? =some (.cells #[.string ⟨#[]⟩,.slice none 0 0] 54 (0,0))):=hR;clear hR
  cases gk with
  |zero=>
   have hi:i=s.length:=by omega
   subst hi
   have hrun:iT s [[]] 0=some rows:=by rw[<-e6,List.drop_length,ah8]
   have HR:Aside (yM (s.length+1) s [[]] 0=some rows):=(Pj s).symm.trans hrun;clear e6 hrun;by_cases h1:rows.length=1
   ·obtain⟨l,rfl⟩:∃l,rows=[l]:=by
     match rows,h1 with
     |[l],_=>exact⟨l,rfl⟩
    obtain⟨h0,rfl⟩:∃h0,hv=[h0]:=by
     match hv,e1 with
     |[h0],_=>exact⟨h0,rfl⟩
    have c0:=wZ hst (j:=0) rfl;obtain⟨hv',q1,q2,_⟩:=hst.rows 0 l rfl;cases q1;obtain⟨a0,cap0,rfl,hrow⟩:=Ie q2;clear hst q2 e1;by_cases h2:l.length=1
    ·obtain⟨x,rfl⟩:∃x,l=[x]:=by
      match l,h2 with
      |[x],_=>exact⟨x,rfl⟩
     obtain⟨g1,lv,rfl,d0,d1,hlv⟩:=hrow 0 (by simp);clear hrow;simp only[List.getElem_cons_zero,Nat.zero_mul,Nat.zero_add] at d0 d1 hlv
     simp only[List.length_cons,List.length_nil,Nat.zero_add] at *
     have hxs:x.sz<=67108864:=by simp only[J9,dA,List.length_cons,List.length_nil] at WG;omega
     obtain⟨la,ln,lc,rfl⟩:=amY hlv;have hc:=Ib (I5 x hxs) hgr.live Ig (aqZ hlv)
     have hc:Calls prog 66 #[.agg #[.string ⟨x.aO.toArray⟩,.slice la ln lc]] wr fun e w'=>e=.returned (.bool (fM x))/\∃σ',Grow wr σ1 w' σ'/\nD w' σ':=
      hc.mono fun e w' ⟨v,σ',he,yZ,hg,hgl⟩=>by
       obtain rfl:v=.bool (fM x):=by cases yZ.1;rfl
       exact⟨he,σ',hg,hgl⟩
     have HL:Aside (dI wr σ1 (.sl (x.ah.map aj.enc)) (.slice la ln lc)):=hlv;clear hlv hlen WG;have xX:w.heap.size<wr.heap.size:=lt_of_some HZ.out;by_cases I7:fM x=true
     ·rw[I7] at hc;have HV:Aside (fM x=true):=I7;clear I7
      go_wp2_with (go_at_call 66;refine hc.mono ?_)
      rintro e w1 ⟨rfl,σ2,hg2,M4⟩;have c0':=Kc hg2 c0;have d0':=Kc hg2 d0;have d1':=Kc hg2 d1;have hR':=(hg2.old _ xX).1.trans HZ.out
      have r0':w1.cell? ⟨w.heap.size,0,none⟩=some (.string ⟨#[]⟩):=by rw[Lib.cell_of_heap hR'];rfl
      have r1':w1.cell? ⟨w.heap.size,1,none⟩=some (.slice none 0 0):=by rw[Lib.cell_of_heap hR'];rfl
      have Z0:=Lib.frozen_of_heap hR' 0;have z1':=Lib.frozen_of_heap hR' 1;have Ai:Aside (w1.heap[w.heap.size]? =some (.cells #[.string ⟨#[]⟩,.slice none 0 0] 54 (0,0))):=hR';clear hR' c0 d0 d1 r0 r1 z0 z1
      go_wp2
      have hG:=qG (x:=.string ⟨x.aO.toArray⟩) (y:=.slice la ln lc) (hgr.trans hg2) M4 (Nat.le_refl _) (((hg2.old _ xX).2).trans Gl);exact qH (R:=w.heap.size) rfl rfl (qE Ai.out) (ak6 HR.out HV.out ((HL.out.mono hg2.near).mono hG.2.2) hG.1 hG.2.1)
     ·have I7:fM x=false:=by simpa using I7
      rw[I7] at hc;have HV:Aside (fM x=false):=I7;clear I7
      go_wp2_with (go_at_call 66;refine hc.mono ?_)
      rintro e w1 ⟨rfl,σ2,hg2,M4⟩;have hR':=(hg2.old _ xX).1.trans HZ.out
      have r0':w1.cell? ⟨w.heap.size,0,none⟩=some (.string ⟨#[]⟩):=by rw[Lib.cell_of_heap hR'];rfl
      have r1':w1.cell? ⟨w.heap.size,1,none⟩=some (.slice none 0 0):=by rw[Lib.cell_of_heap hR'];rfl
      have Z0:=Lib.frozen_of_heap hR' 0;have z1':=Lib.frozen_of_heap hR' 1;have Ai:Aside (w1.heap[w.heap.size]? =some (.cells #[.string ⟨#[]⟩,.slice none 0 0] 54 (0,0))):=hR';clear hR' c0 d0 d1 r0 r1 z0 z1
      go_wp2
      have hG:=qG (x:=.string ⟨#[]⟩) (y:=.slice none 0 0) (hgr.trans hg2) M4 (Nat.le_refl _) (((hg2.old _ xX).2).trans Gl);refine qH (R:=w.heap.size) rfl rfl (qE Ai.out) (Pk (fun y hx=> ?_) hG.1 hG.2.1);have:=HR.out.symm.trans hx;simp only[Option.some.injEq,List.cons.injEq,and_true] at this;rw[<-this];exact HV.out
    ·have h3:¬(l.length:Int)=1:=by omega
     clear hrow
     simp only[List.length_cons,List.length_nil,Nat.zero_add] at *
     go_wp2
     have hG:=qG (x:=.string ⟨#[]⟩) (y:=.slice none 0 0) hgr Ig (Nat.le_refl _) Gl;refine qH (R:=w.heap.size) rfl rfl (qE HZ.out) (Pk (fun x hx=> ?_) hG.1 hG.2.1);have:=HR.out.symm.trans hx;simp only[Option.some.injEq,List.cons.injEq,and_true] at this;rw[this] at h2;exact absurd rfl h2
   ·have h3:¬(rows.length:Int)=1:=by omega
    clear hst
    go_wp2
    have hG:=qG (x:=.string ⟨#[]⟩) (y:=.slice none 0 0) hgr Ig (Nat.le_refl _) Gl;refine qH (R:=w.heap.size) rfl rfl (qE HZ.out) (Pk (fun x hx=> ?_) hG.1 hG.2.1);have:=HR.out.symm.trans hx;simp only[Option.some.injEq] at this;rw[this] at h1;exact absurd rfl h1
  |succ k=>
   have hi:i<s.length:=by omega
   obtain⟨b,hb⟩:∃b,s[i]=b:=⟨_,rfl⟩
   have hdrop:s.drop i=b::s.drop (i+1):=by rw[List.drop_eq_getElem_cons hi,hb]
   rw[hdrop] at e6;have HA:Aside (iT (b::s.drop (i+1)) rows c=iT s [[]] 0):=e6;have HB:Aside (s[i]=b):=hb;have HD:Aside (s.drop i=b::s.drop (i+1)):=hdrop;have hx:((⟨s.toArray⟩:ByteArray)[i]'(QW hi)).toNat=b.toNat:=congrArg UInt8.toNat ((byte_at hi).trans hb);clear e6 hb hdrop;by_cases hbl:lK b=true
   ·have HN:Aside (iT (s.drop (i+1)) rows c=iT s [[]] 0):=(acd hbl _ _).symm.trans HA.out
    have h32:b.toNat=32\/b.toNat=10:=by unfold lK at hbl;simpa using hbl
    clear hbl;rcases h32 with h32|h32
    all_goals
     rw[h32] at hx;clear h32
     go_wp2
     go_roundg k
     case measure=>omega
     case rel=>exact⟨rows,σ1,i+1,c,g,cap,hv,rfl,rfl,rfl,e1,e2,e3,e4,by omega,HN.out,hst,hgr,Ig,hlen,by omega,Gl,HZ.out⟩
   have Kg:lK b=false:=by simpa using hbl
   clear hbl;have hgB:w.heap.size+1<=g/\g<wr.heap.size:=hst.own.lt g rfl;have hlr:rows.reverse.length=rows.length:=List.length_reverse;by_cases OG:b=40
   ·subst OG;have HN:Aside ((if 15<rows.length+1\/1800<c+1 then none else iT (s.drop (i+1)) ([]::rows) (c+1))=iT s [[]] 0):=(ak3 _ _ _).symm.trans HA.out;rw[show(40:UInt8).toNat=40 from rfl] at hx;clear Kg;obtain⟨i0,hi0,hz0,hz1,hz2⟩:=info_parts aib;have hga:=Bq hgr.live (.cells #[.slice none 0 0] 52);have xX:w.heap.size<wr.heap.size:=lt_of_some HZ.out;obtain⟨g',cap',w1,hrun,hst',hnr,hold,hsz,hos,hout⟩:=ah1 (P:=prog) (w0:=w) (σ0:=σ) (ty:=89) underlying89 hi0 hz0 hz1 hz2 (hst.grow hga) e1 hlr (by decide) (by omega) ⟨wr.heap.size,0,none⟩ 1 (by rw[Lib.cell_of_heap (heap_alloc_new wr _)];rfl) (Ka _ _) hga.live (by simp;omega);have Gm:w1.heap[w.heap.size]? =some (.cells #[.string ⟨#[]⟩,.slice none 0 0] 54 (0,0)):=(hold _ (by simp;omega) (by omega)).trans ((Lib.alloc_old wr _ _ xX).trans HZ.out);have hG1:=ae1 (hgr.trans hga) hsz hos hout hold (by omega);have hGl:=(Ig.near hga.near).near hnr
    have r0':w1.cell? ⟨w.heap.size,0,none⟩=some (.string ⟨#[]⟩):=by rw[Lib.cell_of_heap Gm];rfl
    have r1':w1.cell? ⟨w.heap.size,1,none⟩=some (.slice none 0 0):=by rw[Lib.cell_of_heap Gm];rfl
    have Z0:=Lib.frozen_of_heap Gm 0;have z1':=Lib.frozen_of_heap Gm 1;have Ai:Aside (w1.heap[w.heap.size]? =some (.cells #[.string ⟨#[]⟩,.slice none 0 0] 54 (0,0))):=Gm;have HST:Aside (kC w1 σ1 (w.heap.size+1) 52 54 (.slice (some ⟨g',0,none⟩) (rows.length+1) cap') (hv++[.slice none 0 0]) (rows.reverse++[[]])):=hst';clear hst hst' Gm hold hnr r0 r1 z0 z1 hi0 hz0 hz1 hz2 hsz hos hout hlr;by_cases hl1:15<rows.length+1
    ·have acg:(15:Int)<(rows.length:Int)+1:=by omega
     go_wp2_with (at_builtin;refine Lib.wpList_append_run _ rfl _ _ _ _ rfl _ _ rfl rfl _ _ hrun ?_)
     have hG:=qG (x:=.string ⟨#[]⟩) (y:=.slice none 0 0) hG1 hGl (Nat.le_refl _) Gl;refine qH (R:=w.heap.size) rfl rfl (qE Ai.out) (yQ ?_ hG.1 hG.2.1);rw[<-HN.out,if_pos (.inl hl1)]
    ·have acg:¬(15:Int)<(rows.length:Int)+1:=by omega
     by_cases hl2:1800<c+1
     ·have M5:(1800:Int)<(c:Int)+1:=by omega
      go_wp2_with (at_builtin;refine Lib.wpList_append_run _ rfl _ _ _ _ rfl _ _ rfl rfl _ _ hrun ?_)
      have hG:=qG (x:=.string ⟨#[]⟩) (y:=.slice none 0 0) hG1 hGl (Nat.le_refl _) Gl;refine qH (R:=w.heap.size) rfl rfl (qE Ai.out) (yQ ?_ hG.1 hG.2.1);rw[<-HN.out,if_pos (.inr hl2)]
     ·have M5:¬(1800:Int)<(c:Int)+1:=by omega
      have hnx:iT (s.drop (i+1)) ([]::rows) (c+1)=iT s [[]] 0:=by rw[<-HN.out,if_neg (by omega)]
      have WH:Aside (iT (s.drop (i+1)) ([]::rows) (c+1)=iT s [[]] 0):=hnx;clear hnx
      go_wp2_with (at_builtin;refine Lib.wpList_append_run _ rfl _ _ _ _ rfl _ _ rfl rfl _ _ hrun ?_)
      go_roundg k
      case measure=>omega
      case rel=>
       refine⟨[]::rows,σ1,i+1,c+1,g',cap',hv++[.slice none 0 0],rfl,rfl,rfl,by simp[e1],by simp,by simp only[List.length_cons];omega,by omega,by omega,WH.out,?_,hG1,hGl,fun l hl=> ?_,by simp only[J9,dA,List.length_nil];omega,Gl,Ai.out⟩
       ·rw[List.reverse_cons];exact HST.out
       ·rcases List.mem_cons.1 hl with rfl|hl
        ·simp
        ·have:=hlen l hl;omega
   have ao7:¬b.toNat=32/\¬b.toNat=10/\¬b.toNat=40:=by
    unfold lK at Kg;simp only[Bool.or_eq_false_iff,decide_eq_false_iff_not] at Kg;exact⟨Kg.1,Kg.2,fun e=>OG (UInt8.toNat_inj.1 e)⟩
   obtain⟨n32,n10,n40⟩:=ao7;by_cases Sg:b=41
   ·subst Sg;rw[show(41:UInt8).toNat=41 from rfl] at hx;clear Kg n32 n10 n40 OG;by_cases h1:rows.length=1
    ·obtain⟨l,rfl⟩:∃l,rows=[l]:=by
      match rows,h1 with
      |[l],_=>exact⟨l,rfl⟩
     have HN:Aside (none=iT s [[]] 0):=(ah9 _ _ _).symm.trans HA.out;clear hst h1 hlen hlr
     simp only[List.length_cons,List.length_nil,Nat.zero_add] at *
     go_wp2
     have hG:=qG (x:=.string ⟨#[]⟩) (y:=.slice none 0 0) hgr Ig (Nat.le_refl _) Gl;exact qH (R:=w.heap.size) rfl rfl (qE HZ.out) (yQ HN.out.symm hG.1 hG.2.1)
    ·obtain⟨x,y,z,rfl⟩:∃x y z,rows=x::y::z:=by
      match rows,e2,h1 with
      |x::y::z,_,_=>exact⟨x,y,z,rfl⟩
     have HN:Aside ((if 1800<c+1 then none else iT (s.drop (i+1)) ((y++[bC x])::z) (c+1))=iT s [[]] 0):=(ak4 _ _ _ _ _).symm.trans HA.out;simp only[List.length_cons] at e1 e2 e3 h1 hlr;have q0:((z.length:Int)+1==0)=false:=beq_false_of_ne (by omega)
     simp only[List.length_cons] at *
     clear h1
     obtain⟨hz,yv,xv,rfl,hzl⟩:∃hz yv xv,hv=hz++[yv,xv]/\hz.length=z.length:=⟨hv.take z.length,hv[z.length]'(by omega),hv[z.length+1]'(by omega),by
      conv=>lhs;rw[<-List.take_append_drop z.length hv]
      rw[List.drop_eq_getElem_cons (by omega),List.drop_eq_getElem_cons (by omega),List.drop_eq_nil_of_le (by omega)],by simp;omega⟩
     have yf:=Pg hst z.length;have yc:=wZ hst (j:=z.length) (u:=yv) (by rw[List.getElem?_append_right (by omega),hzl,Nat.sub_self];rfl);have xc:=wZ hst (j:=z.length+1) (u:=xv) (by rw[List.getElem?_append_right (by omega),hzl,Nat.add_sub_cancel_left];rfl);obtain⟨yv',b1,b2,b3⟩:=hst.rows z.length y (by simp);rw[List.getElem?_append_right (by omega),hzl,Nat.sub_self] at b1
     obtain rfl:yv=yv':=by simpa using b1
     obtain⟨xv',d1,d2,d3⟩:=hst.rows (z.length+1) x (by simp);rw[List.getElem?_append_right (by omega),hzl,Nat.add_sub_cancel_left] at d1
     obtain rfl:xv=xv':=by simpa using d1
     obtain⟨ya,xW,rfl,_⟩:=Ie b2;obtain⟨xa,vv,rfl,_⟩:=Ie d2;obtain⟨yxs,aic,am4⟩:=b2.own;clear b1 d1
     have i1:(0:Int)<=(z.length:Int):=by omega
     have i2:(z.length:Int)<(z.length:Int)+1+1:=by omega
     have i3:(0:Int)<=(z.length:Int)+1:=by omega
     have i4:(z.length:Int)+1<(z.length:Int)+1+1:=by omega
     have hsub:(z.length:Int)+1-1=(z.length:Int):=by omega
     have hwr:IntKind.i64.wrap ((z.length:Int)+1-1)=(z.length:Int):=by rw[hsub];exact K9 _ (by omega)
     have hwr2:IntKind.i64.wrap (z.length:Int)=(z.length:Int):=K9 _ (by omega);have J8:some g≠(Value.slice ya y.length xW).ownBlock:=fun e=>b3 g e.symm rfl;obtain⟨iS,hiS,hzS,hsS,hbS⟩:=info_parts ae2
     have hyl:y.length<=1800:=by have:=hlen y (by simp);omega
     have hyb:∀b,(Value.slice ya y.length xW).ownBlock=some b->b<wr.heap.size:=fun b hb=>(aic.lt b hb).2
     go_wp2
     go_region
     all_goals go_wp2
     all_goals
      refine M0 fun wq hwq=> ?_;obtain⟨o16,hq⟩:∃o,wq=(wr.alloc o).drew:=⟨_,hwq⟩;clear hwq;have hcp:z.length+1+1<=cap:=ak1 hst
      have hcp1:(z.length:Int)+1<=(cap:Int):=by omega
      have hcp2:(0:Int)<=(z.length:Int)+1:=by omega
      have hga:=aeY (Bq hgr.live o16);rw[<-hq] at hga
      have hqs:wq.heap.size=wr.heap.size+1:=by rw[hq];simp
      clear hq
      have Cu:kC wq σ1 (w.heap.size+1) 52 54 (.slice (some ⟨g,0,none⟩) (z.length+1+1) cap) ((hz++[Value.slice ya y.length xW])++[Value.slice xa x.length vv]) ((z.reverse++[y])++[x]):=by
       have:=hst.grow hga;simpa using this
      obtain⟨σ2,xv2,f1,f2,f3,f4,f5,f6⟩:=Cu.fast hga.live
      obtain rfl:Value.slice xa x.length vv=xv2:=by
       rw[List.getElem?_append_right (by simp;omega)] at f4;simpa [hzl] using f4
      have xU:=ah2 f6 (by simp;omega) (by simp)
     ·obtain⟨g1,jA,w2,hrun,s1,s2,s3,⟨rM,s4,s5⟩,s6,s7,s8,s9,s10,s11,s12,s13,Kh⟩:=Ee (P:=prog) (j:=z.length) 52 underlying52 hiS hzS hsS hbS f2 (by omega) xU (by simp;omega) (y:=y) (by simp) (by rw[List.getElem?_append_right (by omega),hzl,Nat.sub_self];rfl) (by omega) (bC x) (u:=.string ⟨#[]⟩) rfl f5 rfl 54;obtain⟨wa,tF⟩:∃wa,wa=w2.setCell ⟨g,z.length,none⟩ (.slice (some ⟨g1,0,none⟩) (y.length+1) jA):=⟨_,rfl⟩;rw[<-tF] at s7 s8
      obtain⟨W,e0,zW,I8,Ki⟩:∃W:Nat->World,W 0=wq.drew/\W 1=wq.drew.alloc (.cells #[.string ⟨#[]⟩,.slice xa x.length vv] 54)/\W 3=w2/\W 7=wa:=
       ⟨fun m=>if m=0 then wq.drew else if m=1 then wq.drew.alloc (.cells #[.string ⟨#[]⟩,.slice xa x.length vv] 54) else if m=3 then w2 else wa,rfl,rfl,rfl,rfl⟩
      have yq:wq.cell? ⟨g,z.length,none⟩=some (.slice ya y.length xW):=wZ Cu (j:=z.length) (by rw[List.append_assoc,List.getElem?_append_right (by omega),hzl,Nat.sub_self];rfl);have xq:wq.cell? ⟨g,z.length+1,none⟩=some (.slice xa x.length vv):=wZ Cu (j:=z.length+1) (by rw[List.append_assoc,List.getElem?_append_right (by omega),hzl,Nat.add_sub_cancel_left];rfl);refine Ic 152 [13,14,16] [[0,1,3],[0,1,3],[0,1,3],[0,1],[0,1],[0,1],[0,1],[0,1],[0],[0],[0],[0],[0],[0],[1],[3],[3]] W (by kernel_rfl) (by kernel_rfl) rfl e0 ?_;refine dx.anyS (.slice (some ⟨g,0,none⟩) (z.length+1+1) cap) ?_;refine dx.anyS (.int .i64 (z.length+1)) ?_;refine dx.anyS (.int .i64 z.length) ?_;refine dx.anyS (.slice (some ⟨g,0,none⟩) (z.length+1+1) cap) ?_;refine dx.anyS (.int .i64 (z.length+1)) ?_;refine dx.anyS (.int .i64 z.length) ?_;refine dx.anyS (.pointer (some ⟨g,z.length,none⟩)) ?_;refine dx.ab9 (.slice ya y.length xW) e0 e0 zW zW ?_;refine dx.anyS (.slice (some ⟨g,0,none⟩) (z.length+1+1) cap) ?_;refine dx.anyS (.int .i64 (z.length+1)) ?_;refine dx.anyS (.pointer (some ⟨g,z.length+1,none⟩)) ?_;refine dx.ab8 (.slice xa x.length vv) e0 e0 ?_;refine dx.anyS (.agg #[.string ⟨#[]⟩,.slice xa x.length vv]) ?_;refine dx.ab8 (.slice (some ⟨wq.heap.size,0,none⟩) 1 1) e0 zW ?_;refine dx.WE (.slice (some ⟨g1,0,none⟩) (y.length+1) jA) zW I8 (FC rfl (by go_simp) (by go_simp) hrun) ?_;refine dx.anyS (.pointer (some ⟨g,z.length,none⟩)) ?_;refine dx.WE undef I8 Ki (zh (by rw[tF];go_simp)) ?_;refine dx.done ?_;rw[show W (2^ [13,14,16].length-1)=wa from Ki];have xX:w.heap.size<wr.heap.size:=lt_of_some HZ.out
      have CG:wa.heap[w.heap.size]? =some (.cells #[.string ⟨#[]⟩,.slice none 0 0] 54 (0,0)):=by
       rw[tF,kP (by omega),Kh _ (by omega),(hga.old _ xX).1];exact HZ.out
      have Sv:Grow w σ wa σ2:=Ed (B:=w.heap.size+1) (Wz (hgr.trans hga) f3 f2 (by omega)) (by rw[tF];simpa [World.setCell] using s9) (by rw[tF];exact s10) (by rw[tF];exact s11) (fun b hb=>by rw[tF,kP (by omega)];exact Kh b hb) (by omega);have QX:nD wa σ2:=((Ig.near hga.near).near f1).near s7;have Kj:σ2 w.heap.size=0:=(f3 _ (by omega)).trans Gl
      have Sw:kC wa σ2 (w.heap.size+1) 52 54 (.slice (some ⟨g,0,none⟩) (z.length+1) cap) (hz++[.slice (some ⟨g1,0,none⟩) (y.length+1) jA]) ((y++[bC x])::z).reverse:=by
       rw[wY _ _ _ _ hzl,wY _ _ _ _ (by simp)] at s8;rw[List.reverse_cons];exact s8
      have hsz1:dA (y++[bC x])=dA y+(x.length+dA x):=by
       rw[jP,dA,dA,jF,Nat.add_zero]
      have Pm:J9 ((y++[bC x])::z)<=2*(i+1):=by
       simp only[J9,hsz1,List.length_append,List.length_singleton] at WG ⊢;omega
      have GX:∀l∈(y++[bC x])::z,l.length<=c+1:=fun l hl=>by
       rcases List.mem_cons.1 hl with rfl|hl
       ·have:=hlen y (by simp);simp only[List.length_append,List.length_singleton];omega
       ·have:=hlen l (by simp[hl]);omega
      have r0':wa.cell? ⟨w.heap.size,0,none⟩=some (.string ⟨#[]⟩):=by rw[Lib.cell_of_heap CG];rfl
      have r1':wa.cell? ⟨w.heap.size,1,none⟩=some (.slice none 0 0):=by rw[Lib.cell_of_heap CG];rfl
      have Z0:=Lib.frozen_of_heap CG 0;have z1':=Lib.frozen_of_heap CG 1;have HST:Aside (kC wa σ2 (w.heap.size+1) 52 54 (.slice (some ⟨g,0,none⟩) (z.length+1) cap) (hz++[.slice (some ⟨g1,0,none⟩) (y.length+1) jA]) ((y++[bC x])::z).reverse):=Sw;have Ai:Aside (wa.heap[w.heap.size]? =some (.cells #[.string ⟨#[]⟩,.slice none 0 0] 54 (0,0))):=CG;clear e0 zW I8 Ki tF s1 s2 s3 s4 s5 s6 s7 s8 Sw s9 s10 s11 s12 s13 Kh hrun yq xq xU f6 f5 f4 Cu hst CG r0 r1 z0 z1 yc xc yf am4 aic b2 d2
      have acg:¬(15:Int)<(z.length:Int)+1:=by omega
      by_cases hl2:1800<c+1
      ·have M5:(1800:Int)<(c:Int)+1:=by omega
       go_wp2
       have hG:=qG (x:=.string ⟨#[]⟩) (y:=.slice none 0 0) Sv QX (Nat.le_refl _) Kj;refine qH (R:=w.heap.size) rfl rfl (qE Ai.out) (yQ ?_ hG.1 hG.2.1);rw[<-HN.out,if_pos hl2]
      ·have M5:¬(1800:Int)<(c:Int)+1:=by omega
       have WH:Aside (iT (s.drop (i+1)) ((y++[bC x])::z) (c+1)=iT s [[]] 0):=by
        have:=HN.out;rw[if_neg hl2] at this;exact this
       go_wp2
       go_roundg k
       case measure=>omega
       case rel=>
        exact⟨(y++[bC x])::z,σ2,i+1,c+1,g,cap,_,rfl,rfl,rfl,by simp[hzl],by simp,by simp only[List.length_cons];omega,by omega,by omega,WH.out,HST.out,Sv,QX,GX,Pm,Kj,Ai.out⟩
     ·obtain⟨g1,jA,w2,hrun,s1,s2,s3,⟨rM,s4,s5⟩,s6,s7,s8,s9,s10,s11,s12,s13,Kh⟩:=Ee (P:=prog) (j:=z.length) 52 underlying52 hiS hzS hsS hbS f2 (by omega) xU (by simp;omega) (y:=y) (by simp) (by rw[List.getElem?_append_right (by omega),hzl,Nat.sub_self];rfl) (by omega) cu (u:=.string ⟨#[]⟩) (lv:=.slice none 0 0) rfl (.nil _ _) rfl 54;obtain⟨wa,tF⟩:∃wa,wa=w2.setCell ⟨g,z.length,none⟩ (.slice (some ⟨g1,0,none⟩) (y.length+1) jA):=⟨_,rfl⟩;rw[<-tF] at s7 s8
      obtain⟨W,e0,zW,I8,Ki⟩:∃W:Nat->World,W 0=wq.drew/\W 1=wq.drew.alloc (.cells #[.string ⟨#[]⟩,.slice none 0 0] 54)/\W 3=w2/\W 7=wa:=
       ⟨fun m=>if m=0 then wq.drew else if m=1 then wq.drew.alloc (.cells #[.string ⟨#[]⟩,.slice none 0 0] 54) else if m=3 then w2 else wa,rfl,rfl,rfl,rfl⟩
      have yq:wq.cell? ⟨g,z.length,none⟩=some (.slice ya y.length xW):=wZ Cu (j:=z.length) (by rw[List.append_assoc,List.getElem?_append_right (by omega),hzl,Nat.sub_self];rfl);have xq:wq.cell? ⟨g,z.length+1,none⟩=some (.slice xa x.length vv):=wZ Cu (j:=z.length+1) (by rw[List.append_assoc,List.getElem?_append_right (by omega),hzl,Nat.add_sub_cancel_left];rfl);refine Ic 152 [14,15,17] [[0,1],[0,1],[0,1],[0,1],[0,1],[0,1],[0,1],[0,1],[0,1],[0,1],[0,1],[0,1],[0,1],[0,1],[0],[1],[3],[3]] W (by kernel_rfl) (by kernel_rfl) rfl e0 ?_;refine dx.anyS (.slice (some ⟨g,0,none⟩) (z.length+1+1) cap) ?_;refine dx.anyS (.int .i64 (z.length+1)) ?_;refine dx.anyS (.int .i64 z.length) ?_;refine dx.anyS (.slice (some ⟨g,0,none⟩) (z.length+1+1) cap) ?_;refine dx.anyS (.int .i64 (z.length+1)) ?_;refine dx.anyS (.int .i64 z.length) ?_;refine dx.anyS (.pointer (some ⟨g,z.length,none⟩)) ?_;refine dx.ab9 (.slice ya y.length xW) e0 e0 zW zW ?_;refine dx.anyS (.slice (some ⟨g,0,none⟩) (z.length+1+1) cap) ?_;refine dx.anyS (.int .i64 (z.length+1)) ?_;refine dx.anyS (.pointer (some ⟨g,z.length+1,none⟩)) ?_;refine dx.ab9 (.slice xa x.length vv) e0 e0 zW zW ?_;refine dx.anyS (.agg #[.string ⟨#[]⟩,.slice xa x.length vv]) ?_;refine dx.anyS (.int .i64 y.length) ?_;refine dx.ab8 (.slice (some ⟨wq.heap.size,0,none⟩) 1 1) e0 zW ?_;refine dx.WE (.slice (some ⟨g1,0,none⟩) (y.length+1) jA) zW I8 (FC rfl (by go_simp) (by go_simp) hrun) ?_;refine dx.anyS (.pointer (some ⟨g,z.length,none⟩)) ?_;refine dx.WE undef I8 Ki (zh (by rw[tF];go_simp)) ?_;refine dx.done ?_;rw[show W (2^ [14,15,17].length-1)=wa from Ki];have xX:w.heap.size<wr.heap.size:=lt_of_some HZ.out
      have CG:wa.heap[w.heap.size]? =some (.cells #[.string ⟨#[]⟩,.slice none 0 0] 54 (0,0)):=by
       rw[tF,kP (by omega),Kh _ (by omega),(hga.old _ xX).1];exact HZ.out
      have Sv:Grow w σ wa σ2:=Ed (B:=w.heap.size+1) (Wz (hgr.trans hga) f3 f2 (by omega)) (by rw[tF];simpa [World.setCell] using s9) (by rw[tF];exact s10) (by rw[tF];exact s11) (fun b hb=>by rw[tF,kP (by omega)];exact Kh b hb) (by omega);have QX:nD wa σ2:=((Ig.near hga.near).near f1).near s7;have Kj:σ2 w.heap.size=0:=(f3 _ (by omega)).trans Gl
      have Sw:kC wa σ2 (w.heap.size+1) 52 54 (.slice (some ⟨g,0,none⟩) (z.length+1) cap) (hz++[.slice (some ⟨g1,0,none⟩) (y.length+1) jA]) ((y++[cu])::z).reverse:=by
       rw[wY _ _ _ _ hzl,wY _ _ _ _ (by simp)] at s8;rw[List.reverse_cons];exact s8
      have gne:g1≠w.heap.size:=by omega
      have aie:w.heap.size≠g1:=by omega
      have FD:wa.heap[g1]? =some (.cells rM 54 (0,0)):=by rw[tF,kP s3];exact s4
      have m1:(0:Int)<=(y.length:Int):=by omega
      have m2:(y.length:Int)<(y.length:Int)+1:=by omega
      have d0:wa.cell? ⟨g1,y.length*2,none⟩=some (rM[y.length*2]'(by omega)):=by rw[Lib.cell_of_heap FD];simp
      have d1:wa.cell? ⟨g1,y.length*2+1,none⟩=some (rM[y.length*2+1]'(by omega)):=by rw[Lib.cell_of_heap FD];simp
      have dz0:=Lib.frozen_of_heap FD (y.length*2);have dz1:=Lib.frozen_of_heap FD (y.length*2+1);obtain⟨t1,t2,t3⟩:=Wy (x:=bC x) (lv:=.slice xa x.length vv) (j:=z.length) (g1:=g1) (jA:=jA) Sv.live (by rw[show(hz++[Value.slice (some ⟨g1,0,none⟩) (y.length+1) jA]).length=z.length+1 by simp[hzl]];exact Sw) (by rw[List.reverse_cons,List.getElem?_append_right (by simp),List.length_reverse,Nat.sub_self];rfl) (by rw[List.getElem?_append_right (by omega),hzl,Nat.sub_self];rfl) (f5.mono s7);rw[show(hz++[Value.slice (some ⟨g1,0,none⟩) (y.length+1) jA]).length=z.length+1 by simp[hzl],List.reverse_cons,wY _ _ _ _ (by simp),<-List.reverse_cons] at t2;have hGb:=Ed Sv (W:=(wa.setCell ⟨g1,y.length*2,none⟩ (.string ⟨(bC x).aO.toArray⟩)).setCell ⟨g1,y.length*2+1,none⟩ (.slice xa x.length vv)) (by simp[World.setCell]) rfl rfl (fun b hb=>t3 b (by omega)) (Nat.le_succ w.heap.size);have WI:=QX.near t1;have hRb:=(t3 w.heap.size aie).trans CG
      have hsz1:dA (y++[bC x])=dA y+(x.length+dA x):=by
       rw[jP,dA,dA,jF,Nat.add_zero]
      have Pm:J9 ((y++[bC x])::z)<=2*(i+1):=by
       simp only[J9,hsz1,List.length_append,List.length_singleton] at WG ⊢;omega
      have GX:∀l∈(y++[bC x])::z,l.length<=c+1:=fun l hl=>by
       rcases List.mem_cons.1 hl with rfl|hl
       ·have:=hlen y (by simp);simp only[List.length_append,List.length_singleton];omega
       ·have:=hlen l (by simp[hl]);omega
      have r0':wa.cell? ⟨w.heap.size,0,none⟩=some (.string ⟨#[]⟩):=by rw[Lib.cell_of_heap CG];rfl
      have r1':wa.cell? ⟨w.heap.size,1,none⟩=some (.slice none 0 0):=by rw[Lib.cell_of_heap CG];rfl
      have Z0:=Lib.frozen_of_heap CG 0;have z1':=Lib.frozen_of_heap CG 1;have HST:Aside (kC ((wa.setCell ⟨g1,y.length*2,none⟩ (.string ⟨(bC x).aO.toArray⟩)).setCell ⟨g1,y.length*2+1,none⟩ (.slice xa x.length vv)) σ2 (w.heap.size+1) 52 54 (.slice (some ⟨g,0,none⟩) (z.length+1) cap) (hz++[.slice (some ⟨g1,0,none⟩) (y.length+1) jA]) ((y++[bC x])::z).reverse):=t2;have Ai:Aside (((wa.setCell ⟨g1,y.length*2,none⟩ (.string ⟨(bC x).aO.toArray⟩)).setCell ⟨g1,y.length*2+1,none⟩ (.slice xa x.length vv)).heap[w.heap.size]? =some (.cells #[.string ⟨#[]⟩,.slice none 0 0] 54 (0,0))):=hRb;clear e0 zW I8 Ki tF s1 s2 s3 s4 s6 s7 s8 Sw s9 s10 s11 s12 s13 Kh hrun yq xq xU f6 f5 f4 Cu hst CG hRb t1 t2 t3 r0 r1 z0 z1 yc xc yf am4 aic b2 d2
      have acg:¬(15:Int)<(z.length:Int)+1:=by omega
      by_cases hl2:1800<c+1
      ·have M5:(1800:Int)<(c:Int)+1:=by omega
       go_wp2
       have hG:=qG (x:=.string ⟨#[]⟩) (y:=.slice none 0 0) hGb WI (Nat.le_refl _) Kj;refine qH (R:=w.heap.size) rfl rfl (qE Ai.out) (yQ ?_ hG.1 hG.2.1);rw[<-HN.out,if_pos hl2]
      ·have M5:¬(1800:Int)<(c:Int)+1:=by omega
       have WH:Aside (iT (s.drop (i+1)) ((y++[bC x])::z) (c+1)=iT s [[]] 0):=by
        have:=HN.out;rw[if_neg hl2] at this;exact this
       go_wp2
       go_roundg k
       case measure=>omega
       case rel=>
        exact⟨(y++[bC x])::z,σ2,i+1,c+1,g,cap,_,rfl,rfl,rfl,by simp[hzl],by simp,by simp only[List.length_cons];omega,by omega,by omega,WH.out,HST.out,hGb,WI,GX,Pm,Kj,Ai.out⟩
   have n41:¬b.toNat=41:=fun e=>Sg (UInt8.toNat_inj.1 e);have q41:((b.toNat:Int)==41)=false:=beq_false_of_ne (by omega);have q32:((b.toNat:Int)==32)=false:=beq_false_of_ne (by omega);have q10:((b.toNat:Int)==10)=false:=beq_false_of_ne (by omega);have q40:((b.toNat:Int)==40)=false:=beq_false_of_ne (by omega);clear n41 n32 n10 n40;have HBL:Aside (lK b=false/\b≠40/\b≠41):=⟨Kg,OG,Sg⟩;clear Kg OG Sg;have hc:=Ib (Cr b) hgr.live Ig (am1 b)
   have hc:Calls prog 65 #[.int .u8 b.toNat] wr fun e w'=>e=.returned (.bool (bS b))/\∃σ',Grow wr σ1 w' σ'/\nD w' σ':=
    hc.mono fun e w' ⟨v,σ',he,yZ,hg,hgl⟩=>by
     obtain rfl:v=.bool (bS b):=by cases yZ.1;rfl
     exact⟨he,σ',hg,hgl⟩
   have xX:w.heap.size<wr.heap.size:=lt_of_some HZ.out
   cases hat:bS b with
   |false=>
    rw[hat] at hc;have HN:Aside (none=iT s [[]] 0):=(aia _ _ _ HBL.out.1 HBL.out.2.1 HBL.out.2.2 hat).symm.trans HA.out;clear hat hst hlr
    go_wp2_with (go_at_call 65;refine hc.mono ?_)
    rintro e w1 ⟨rfl,σ2,hg2,M4⟩;have Gm:=(hg2.old _ xX).1.trans HZ.out
    have r0':w1.cell? ⟨w.heap.size,0,none⟩=some (.string ⟨#[]⟩):=by rw[Lib.cell_of_heap Gm];rfl
    have r1':w1.cell? ⟨w.heap.size,1,none⟩=some (.slice none 0 0):=by rw[Lib.cell_of_heap Gm];rfl
    have Z0:=Lib.frozen_of_heap Gm 0;have z1':=Lib.frozen_of_heap Gm 1;have Ai:Aside (w1.heap[w.heap.size]? =some (.cells #[.string ⟨#[]⟩,.slice none 0 0] 54 (0,0))):=Gm;clear Gm r0 r1 z0 z1
    go_wp2
    have hG:=qG (x:=.string ⟨#[]⟩) (y:=.slice none 0 0) (hgr.trans hg2) M4 (Nat.le_refl _) (((hg2.old _ xX).2).trans Gl);exact qH (R:=w.heap.size) rfl rfl (qE Ai.out) (yQ HN.out.symm hG.1 hG.2.1)
   |true=>
    obtain⟨x,z,rfl⟩:∃x z,rows=x::z:=by
     match rows,e2 with
     |x::z,_=>exact⟨x,z,rfl⟩
    rw[hat] at hc;have hwd:=fun e=>ae0 (s:=s) (i:=i) (e:=e) x z c HD.out hat
    have HWD:Aside (∀e,i<e->(∀a∈(s.drop i).take (e-i),bS a=true)->(e=s.length\/∃a,s[e]? =some a/\bS a=false)->(if 1800<c+1 then none else iT (s.drop e) ((x++[bI ((s.take e).drop i)])::z) (c+1))=iT s [[]] 0):=
     fun e h1 h2 h3=>(hwd e h1 h2 h3).symm.trans HA.out
    have HAT:Aside (bS b=true):=hat;clear hwd hat HBL
    simp only[List.length_cons] at *
    obtain⟨wo,rfl⟩:∃wo,wo=wr:=⟨_,rfl⟩
    go_wp2_with (go_at_call 65;refine hc.mono ?_)
    rintro e w1 ⟨rfl,σ2,hg2,M4⟩
    go_wp2
    go_loopg [9] (s.length-i) (fun k v9 wx=>∃e:Nat,v9=.int .i64 e/\e+k=s.length/\i<=e/\(∀a∈(s.drop i).take (e-i),bS a=true)/\∃σx,Grow wo σ1 wx σx/\nD wx σx)
    case atStart=>exact⟨i,rfl,by omega,Nat.le_refl _,by simp,σ2,hg2,M4⟩
    case round=>
     obtain⟨e,rfl,g1,g2,g3,σx,g4,g5⟩:=hrel;rcases(by cases gk<;>simp:gk=0\/∃k2,gk=k2+1) with rfl|⟨k2,rfl⟩
     focus
      have HES:Aside (e=s.length):=by show e=s.length;omega
      have hne:¬(e:Int)<(s.length:Int):=by omega
      go_wp2
      refine M0 fun wq hwq=> ?_;obtain⟨σq,WJ,am8⟩:∃σq,Grow wo σ1 wq σq/\nD wq σq:=⟨σx,by rw[hwq];exact g4,by rw[hwq];exact g5⟩;clear hwq;have HW:=HWD.out e (by have:=HES.out;omega) g3 (.inl HES.out)
      have hie:i<e:=by have:=HES.out;omega
     rotate_left
     focus
      have hel:e<s.length:=by omega
      obtain⟨b2,hb2⟩:∃b2,s[e]=b2:=⟨_,rfl⟩;have hx2:((⟨s.toArray⟩:ByteArray)[e]'(QW hel)).toNat=b2.toNat:=congrArg UInt8.toNat ((byte_at hel).trans hb2)
      have HB2:Aside (s[e]? =some b2):=by
       show s[e]? =some b2;rw[List.getElem?_eq_getElem hel,hb2]
      clear hb2;have hc2:=Ib (Cr b2) g4.live g5 (am1 b2)
      have hc2:Calls prog 65 #[.int .u8 b2.toNat] wr fun e w'=>e=.returned (.bool (bS b2))/\∃σ',Grow wr σx w' σ'/\nD w' σ':=
       hc2.mono fun e w' ⟨v,σ',he,yZ,hg,hgl⟩=>by
        obtain rfl:v=.bool (bS b2):=by cases yZ.1;rfl
        exact⟨he,σ',hg,hgl⟩
      cases QY:bS b2
     focus
      rw[QY] at hc2;have ach:Aside (bS b2=false):=QY;clear QY
      go_wp2_with (go_at_call 65;refine hc2.mono ?_)
      rintro e' w2 ⟨rfl,σ3,hg3,aif⟩
      go_wp2
      refine M0 fun wq hwq=> ?_;obtain⟨σq,WJ,am8⟩:∃σq,Grow wo σ1 wq σq/\nD wq σq:=⟨σ3,by rw[hwq];exact g4.trans hg3,by rw[hwq];exact aif⟩;clear hwq
      have hie:i<e:=by
       rcases Nat.lt_or_ge i e with h|h
       ·exact h
       ·have he:e=i:=by omega
        have h1:=HB2.out;rw[he,List.getElem?_eq_getElem hi,HB.out] at h1;cases h1;have:=ach.out;rw[HAT.out] at this;cases this
      have HW:=HWD.out e hie g3 (.inr ⟨b2,HB2.out,ach.out⟩)
     rotate_left
     ·rw[QY] at hc2;have ach:Aside (bS b2=true):=QY;clear QY
      go_wp2_with (go_at_call 65;refine hc2.mono ?_)
      rintro e' w2 ⟨rfl,σ3,hg3,aif⟩
      go_wp2
      go_roundg k2
      case measure=>omega
      case rel=>
       refine⟨e+1,rfl,by omega,by omega,fun a ha=> ?_,σ3,g4.trans hg3,aif⟩;rw[show e+1-i=(e-i)+1 by omega,List.take_add_one,List.getElem?_drop,show i+(e-i)=e by omega,HB2.out] at ha;rcases List.mem_append.1 ha with ha|ha
       ·exact g3 a ha
       ·simp at ha;subst ha;exact ach.out
     all_goals
      replace HW:Aside ((if 1800<c+1 then none else iT (s.drop e) ((x++[bI ((s.take e).drop i)])::z) (c+1))=iT s [[]] 0):=HW
      have HWL:Aside (((s.take e).drop i).length=e-i):=by
       show((s.take e).drop i).length=e-i;rw[List.length_drop,List.length_take];omega
      obtain⟨hz,xv,rfl,hzl⟩:∃hz xv,hv=hz++[xv]/\hz.length=z.length:=⟨hv.take z.length,hv[z.length]'(by omega),by
       conv=>lhs;rw[<-List.take_append_drop z.length hv]
       rw[List.drop_eq_getElem_cons (by omega),List.drop_eq_nil_of_le (by omega)],by simp;omega⟩
      have Cu:kC wq σq (w.heap.size+1) 52 54 (.slice (some ⟨g,0,none⟩) (z.length+1) cap) (hz++[xv]) (z.reverse++[x]):=by
       have:=hst.grow WJ;simpa using this
      obtain⟨xv',d1,d2,d3⟩:=Cu.rows z.length x (by simp);rw[List.getElem?_append_right (by omega),hzl,Nat.sub_self] at d1
      obtain rfl:xv=xv':=by simpa using d1
      obtain⟨xa,vv,rfl,_⟩:=Ie d2;clear d1 d2 d3;obtain⟨iS,hiS,hzS,hsS,hbS⟩:=info_parts ae2
      have hxl:x.length<=1800:=by have:=hlen x (by simp);omega
      have hBq:w.heap.size+1<=wq.heap.size:=by have:=hgB.1;have:=hgB.2;have:=WJ.size;omega
      have xq:wq.cell? ⟨g,z.length,none⟩=some (.slice xa x.length vv):=wZ Cu (j:=z.length) (by rw[List.getElem?_append_right (by omega),hzl,Nat.sub_self];rfl);obtain⟨q1,jA,w5,hrun,s1,s2,s3,⟨rM,s4,s5⟩,s6,s7,s8,s9,s10,s11,s12,s13,Kh⟩:=Ee (P:=prog) (j:=z.length) 52 underlying52 hiS hzS hsS hbS WJ.live hBq Cu (by simp;omega) (y:=x) (by simp) (by rw[List.getElem?_append_right (by omega),hzl,Nat.sub_self];rfl) (by omega) cu (u:=.string ⟨#[]⟩) (lv:=.slice none 0 0) rfl (.nil _ _) rfl 54;obtain⟨wa,tF⟩:∃wa,wa=w5.setCell ⟨g,z.length,none⟩ (.slice (some ⟨q1,0,none⟩) (x.length+1) jA):=⟨_,rfl⟩;rw[<-tF] at s7 s8;obtain⟨w7,hw7⟩:∃w7,w7=(w5.setCell ⟨q1,x.length*2,none⟩ (.string ⟨((s.take e).drop i).toArray⟩)).setCell ⟨q1,x.length*2+1,none⟩ (.slice none 0 0):=⟨_,rfl⟩;obtain⟨wb,hwb⟩:∃wb,wb=(wa.setCell ⟨q1,x.length*2,none⟩ (.string ⟨((s.take e).drop i).toArray⟩)).setCell ⟨q1,x.length*2+1,none⟩ (.slice none 0 0):=⟨_,rfl⟩
      have hcm:w7.setCell ⟨g,z.length,none⟩ (.slice (some ⟨q1,0,none⟩) (x.length+1) jA)=wb:=by
       rw[hw7,hwb,tF,set_comm (Ne.symm s3),set_comm (Ne.symm s3)]
      have s1':w7.cell? ⟨g,z.length,none⟩=some (.slice xa x.length vv):=by
       rw[<-s1];exact World.cell?_of_block (by rw[hw7];exact(kP (Ne.symm s3)).trans (kP (Ne.symm s3)))
      have s2':w7.frozen? ⟨g,z.length,none⟩=false:=by
       rw[<-s2];exact World.frozen?_of_block (by rw[hw7];exact(kP (Ne.symm s3)).trans (kP (Ne.symm s3)))
      have FD:wa.heap[q1]? =some (.cells rM 54 (0,0)):=by rw[tF,kP s3];exact s4
      have xq1:(wq.alloc (.cells #[.string ⟨#[]⟩,.slice none 0 0] 54)).cell? ⟨g,z.length,none⟩=some (.slice xa x.length vv):=ab4 _ xq
      have m1:(0:Int)<=(x.length:Int):=by omega
      have m2:(x.length:Int)<(x.length:Int)+1:=by omega
      have m3:(0:Int)<=(z.length:Int):=by omega
      have m4:(z.length:Int)<(z.length:Int)+1:=by omega
      have m5:(0:Int)<=(i:Int):=by omega
      have m6:(i:Int)<=(e:Int):=by omega
      have m7:(e:Int)<=(s.length:Int):=by omega
      have d0:wa.cell? ⟨q1,x.length*2,none⟩=some (rM[x.length*2]'(by omega)):=by rw[Lib.cell_of_heap FD];simp
      have d1:wa.cell? ⟨q1,x.length*2+1,none⟩=some (rM[x.length*2+1]'(by omega)):=by rw[Lib.cell_of_heap FD];simp
      have dz0:=Lib.frozen_of_heap FD (x.length*2);have dz1:=Lib.frozen_of_heap FD (x.length*2+1)
      have c0:w5.cell? ⟨q1,x.length*2,none⟩=some (rM[x.length*2]'(by omega)):=by rw[Lib.cell_of_heap s4];simp
      have c1:w5.cell? ⟨q1,x.length*2+1,none⟩=some (rM[x.length*2+1]'(by omega)):=by rw[Lib.cell_of_heap s4];simp
      have cz0:=Lib.frozen_of_heap s4 (x.length*2);have cz1:=Lib.frozen_of_heap s4 (x.length*2+1)
      obtain⟨W,e0,zW,I8,Ki,aii,aci⟩:∃W:Nat->World,W 0=wq.drew/\W 1=wq.drew.alloc (.cells #[.string ⟨#[]⟩,.slice none 0 0] 54)/\W 3=w5/\W 7=w7/\W 11=wa/\W 15=wb:=
       ⟨fun m=>if m=0 then wq.drew else if m=1 then wq.drew.alloc (.cells #[.string ⟨#[]⟩,.slice none 0 0] 54) else if m=3 then w5 else if m=7 then w7 else if m=11 then wa else wb,rfl,rfl,rfl,rfl,rfl,rfl⟩
      refine Ic 152 [10,11,13,15] [[0,1],[0,1],[0,1],[0,1],[0,1],[0,1],[0,1],[0,1],[0,1],[0,1],[0],[1],[3,11],[3,11],[3,7],[3,7]] W (by kernel_rfl) (by kernel_rfl) rfl e0 ?_;refine dx.anyS (.slice (some ⟨g,0,none⟩) (z.length+1) cap) ?_;refine dx.anyS (.int .i64 z.length) ?_;refine dx.anyS (.pointer (some ⟨g,z.length,none⟩)) ?_;refine dx.ab9 (.slice xa x.length vv) e0 e0 zW zW ?_;refine dx.anyS (.string ⟨s.toArray⟩) ?_;refine dx.anyS (.int .i64 i) ?_;refine dx.anyS (.int .i64 e) ?_;refine dx.any (.string ⟨((s.take e).drop i).toArray⟩) rfl (fun w=>Ef (by go_simp;exact ak2 s i e)) ?_;refine dx.anyS (.agg #[.string ⟨((s.take e).drop i).toArray⟩,.slice none 0 0]) ?_;refine dx.anyS (.int .i64 x.length) ?_;refine dx.ab8 (.slice (some ⟨wq.heap.size,0,none⟩) 1 1) e0 zW ?_;refine dx.WE (.slice (some ⟨q1,0,none⟩) (x.length+1) jA) zW I8 (FC rfl (by go_simp) (by go_simp) hrun) ?_;refine dx.anyS (.pointer (some ⟨q1,x.length*2,none⟩)) ?_;refine dx.at2 undef I8 Ki aii aci (zh (by rw[hw7];go_simp)) (zh (by rw[hwb];go_simp)) ?_;refine dx.anyS (.pointer (some ⟨g,z.length,none⟩)) ?_;refine dx.at2 undef I8 aii Ki aci (zh (by rw[tF];go_simp)) (zh (by rw[<-hcm];go_simp)) ?_;refine dx.done ?_;rw[show W (2^ [10,11,13,15].length-1)=wb from aci];have xX:w.heap.size<wo.heap.size:=lt_of_some HZ.out
      have CG:wa.heap[w.heap.size]? =some (.cells #[.string ⟨#[]⟩,.slice none 0 0] 54 (0,0)):=by
       rw[tF,kP (by omega),Kh _ (by omega),(WJ.old _ xX).1];exact HZ.out
      have Sv:Grow w σ wa σq:=Ed (B:=w.heap.size+1) (hgr.trans WJ) (by rw[tF];simpa [World.setCell] using s9) (by rw[tF];exact s10) (by rw[tF];exact s11) (fun b hb=>by rw[tF,kP (by omega)];exact Kh b hb) (by omega);have QX:nD wa σq:=am8.near s7;have Kj:σq w.heap.size=0:=(WJ.old _ xX).2.trans Gl
      have Sw:kC wa σq (w.heap.size+1) 52 54 (.slice (some ⟨g,0,none⟩) (z.length+1) cap) (hz++[(.slice (some ⟨q1,0,none⟩) (x.length+1) jA)]) ((x++[cu])::z).reverse:=by
       rw[wY _ _ _ _ hzl,wY _ _ _ _ (by simp)] at s8;rw[List.reverse_cons];exact s8
      have gne:q1≠w.heap.size:=by omega
      have aie:w.heap.size≠q1:=by omega
      obtain⟨t1,t2,t3⟩:=Wy (x:=bI ((s.take e).drop i)) (lv:=.slice none 0 0) (j:=z.length) (g1:=q1) (jA:=jA) Sv.live (by rw[show(hz++[Value.slice (some ⟨q1,0,none⟩) (x.length+1) jA]).length=z.length+1 by simp[hzl]];exact Sw) (by rw[List.reverse_cons,List.getElem?_append_right (by simp),List.length_reverse,Nat.sub_self];rfl) (by rw[List.getElem?_append_right (by omega),hzl,Nat.sub_self];rfl) (.nil _ _);rw[show(hz++[Value.slice (some ⟨q1,0,none⟩) (x.length+1) jA]).length=z.length+1 by simp[hzl],List.reverse_cons,wY _ _ _ _ (by simp),<-List.reverse_cons] at t2
      have t3':∀b,b≠q1->wb.heap[b]? =wa.heap[b]? :=by rw[hwb];exact t3
      have hGb:Grow w σ wb σq:=Ed Sv (by rw[hwb];simp[World.setCell]) (by rw[hwb];rfl) (by rw[hwb];rfl) (fun b hb=>t3' b (by omega)) (Nat.le_succ w.heap.size)
      have WI:nD wb σq:=by rw[hwb];exact QX.near t1
      have hRb:=(t3' w.heap.size aie).trans CG
      have HST:Aside (kC wb σq (w.heap.size+1) 52 54 (.slice (some ⟨g,0,none⟩) (z.length+1) cap) (hz++[(.slice (some ⟨q1,0,none⟩) (x.length+1) jA)]) ((x++[bI ((s.take e).drop i)])::z).reverse):=by
       show kC wb _ _ _ _ _ _ _;rw[hwb];exact t2
      have hsz1:dA (x++[bI ((s.take e).drop i)])=dA x+(e-i):=by
       rw[jP,dA,dA,jR,Nat.add_zero,HWL.out]
      have Pm:J9 ((x++[bI ((s.take e).drop i)])::z)<=2*e:=by
       simp only[J9,hsz1,List.length_append,List.length_singleton] at WG ⊢;omega
      have GX:∀l∈(x++[bI ((s.take e).drop i)])::z,l.length<=c+1:=fun l hl=>by
       rcases List.mem_cons.1 hl with rfl|hl
       ·have:=hlen x (by simp);simp only[List.length_append,List.length_singleton];omega
       ·have:=hlen l (by simp[hl]);omega
      have r0':wb.cell? ⟨w.heap.size,0,none⟩=some (.string ⟨#[]⟩):=by rw[Lib.cell_of_heap hRb];rfl
      have r1':wb.cell? ⟨w.heap.size,1,none⟩=some (.slice none 0 0):=by rw[Lib.cell_of_heap hRb];rfl
      have Z0:=Lib.frozen_of_heap hRb 0;have z1':=Lib.frozen_of_heap hRb 1;have Ai:Aside (wb.heap[w.heap.size]? =some (.cells #[.string ⟨#[]⟩,.slice none 0 0] 54 (0,0))):=hRb;clear e0 zW I8 Ki aii aci hcm d0 d1 dz0 dz1 c0 c1 cz0 cz1 FD s1' s2' hwb hw7 tF s1 s2 s3 s4 s6 s7 s8 Sw s9 s10 s11 s12 s13 Kh hrun xq xq1 Cu hst CG hRb t1 t2 t3 t3' r0 r1 z0 z1
      have acg:¬(15:Int)<(z.length:Int)+1:=by omega
      by_cases hl2:1800<c+1
      ·have M5:(1800:Int)<(c:Int)+1:=by omega
       go_wp2
       have hG:=qG (x:=.string ⟨#[]⟩) (y:=.slice none 0 0) hGb WI (Nat.le_refl _) Kj;refine qH (R:=w.heap.size) rfl rfl (qE Ai.out) (yQ ?_ hG.1 hG.2.1);rw[<-HW.out,if_pos hl2]
      ·have M5:¬(1800:Int)<(c:Int)+1:=by omega
       have WH:Aside (iT (s.drop e) ((x++[bI ((s.take e).drop i)])::z) (c+1)=iT s [[]] 0):=by
        have:=HW.out;rw[if_neg hl2] at this;exact this
       go_wp2
       go_roundg (s.length-e)
       case measure=>omega
       case rel=>
        exact⟨(x++[bI ((s.take e).drop i)])::z,σq,e,c+1,g,cap,_,rfl,rfl,rfl,by simp[hzl],by simp,by simp only[List.length_cons];omega,by omega,by omega,WH.out,HST.out,hGb,WI,GX,Pm,Kj,Ai.out⟩
mutual
def pX:D->Nat
 | .sl es=>kD es+1
 | .ol _ _=>0
 | .b _=>0
 | .i _ _=>0
 | .s _=>0
 | .o _=>0
def wD:List D->Nat
 |[]=>0
 |d::ds=>pX d+wD ds
def kD:List (List D)->Nat
 |[]=>0
 |r::rs=>wD r+kD rs
end
mutual
def og:D->Nat->D
 | .sl es,n=>.ol n (dZ es (n+1))
 | .ol m es,_=>.ol m es
 | .b x,_=>.b x
 | .i k x,_=>.i k x
 | .s l,_=>.s l
 | .o v,_=>.o v
def eZ:List D->Nat->List D
 |[],_=>[]
 |d::ds,n=>og d n::eZ ds (n+pX d)
def dZ:List (List D)->Nat->List (List D)
 |[],_=>[]
 |r::rs,n=>eZ r n::dZ rs (n+wD r)
end
mutual
def uR:D->Bool
 | .sl es=>lV es
 | .ol _ _=>false
 | .b _=>true
 | .i _ _=>true
 | .s _=>true
 | .o _=>false
def lq:List D->Bool
 |[]=>true
 |d::ds=>uR d&&lq ds
def lV:List (List D)->Bool
 |[]=>true
 |r::rs=>lq r&&lV rs
end
theorem Mq:∀a b n,eZ (a++b) n=eZ a n++eZ b (n+wD a)
 |[],b,n=>by simp[eZ,wD]
 |d::ds,b,n=>by rw[List.cons_append,eZ,eZ,Mq ds b,wD,Nat.add_assoc];rfl
theorem qJ:∀a b n,dZ (a++b) n=dZ a n++dZ b (n+kD a)
 |[],b,n=>by simp[dZ,kD]
 |d::ds,b,n=>by rw[List.cons_append,dZ,dZ,qJ ds b,kD,Nat.add_assoc];rfl
theorem lT:∀r n,(eZ r n).length=r.length
 |[],_=>rfl
 |d::ds,n=>by rw[eZ,List.length_cons,lT ds,List.length_cons]
theorem kI:∀rs n,(dZ rs n).length=rs.length
 |[],_=>rfl
 |r::rs,n=>by rw[dZ,List.length_cons,kI rs,List.length_cons]
theorem xJ{z:Nat}:∀{rs:List (List D)}{n:Nat},(∀r∈rs,r.length=z)->∀r∈dZ rs n,r.length=z
 |[],_,_,r,h=>by rw[dZ] at h;cases h
 |a::rs,n,ha,r,h=>by
  rw[dZ] at h;rcases List.mem_cons.1 h with e|h
  ·rw[e,lT];exact ha a (by simp)
  ·exact xJ (fun r hr=>ha r (by simp[hr])) r h
theorem jh:∀a b,lq (a++b)=(lq a&&lq b)
 |[],b=>by simp[lq]
 |d::ds,b=>by rw[List.cons_append,lq,lq,jh ds b,Bool.and_assoc]
theorem nH{α:Type}{f:α->List D}:∀{xs:List α},(∀x∈xs,lq (f x)=true)->lV (xs.map f)=true
 |[],_=>rfl
 |x::xs,h=>by
  rw[List.map_cons,lV,h x (by simp),nH fun y hy=>h y (by simp[hy])];rfl
section
variable {P:Program} {w:World} {σ σ':Nat->Nat} {S:Store} {β:Hs} {N:Nat} {s:St}
mutual
theorem aij:∀(d:D)(n:Nat)(v:Value),dI w σ (og d n) v->dI w σ d v
 | .sl es,n,v,h=>by
   rw[og] at h;have hl:=kI es (n+1);have hrec:=ajS es (n+1);generalize dZ es (n+1)=q at h hl hrec
   cases h with
   |vZ n a cap=>
    have:es=[]:=List.eq_nil_of_length_eq_zero (by simpa using hl.symm);subst this;exact .nil a cap
   |ol n b off cap aX q vals c t hcap hlen hb hσ hfit hc hv=>
    obtain⟨r1,r2⟩:=hrec vals hv;rw[hl] at hcap hfit hc ⊢;refine .sl b off cap aX es vals c t (0,0) hcap (fun e he=> ?_) hb (by omega) hc r2;obtain⟨e',h1,h2⟩:=r1 e he;rw[<-h2];exact hlen e' h1
 | .ol m es,n,v,h=>h
 | .b x,n,v,h=>h
 | .i k x,n,v,h=>h
 | .s l,n,v,h=>h
 | .o u,n,v,h=>h
theorem ana:∀(r:List D)(n:Nat)(vals:Nat->Value),(∀j d,(eZ r n)[j]? =some d->dI w σ d (vals j))->∀(j:Nat) d,r[j]? =some d->dI w σ d (vals j)
 |[],n,vals,h,j,d,hd=>by simp at hd
 |a::r,n,vals,h,j,d,hd=>by
  cases j with
  |zero=>
   simp at hd;subst hd;exact aij a n _ (h 0 _ rfl)
  |succ j=>exact ana r (n+pX a) (fun i=>vals (i+1)) (fun i d hi=>h (i+1) d (by rw[eZ];exact hi)) j d hd
theorem ajS:∀(rs:List (List D))(n:Nat)(vals:Nat->Value),(∀j d,(dZ rs n).flatten[j]? =some d->dI w σ d (vals j))->
 (∀e∈rs,∃e'∈dZ rs n,e'.length=e.length)/\∀(j:Nat) d,rs.flatten[j]? =some d->dI w σ d (vals j)
 |[],n,vals,h=>⟨fun e he=>(by cases he),fun j d hd=>(by simp at hd)⟩
 |r::rs,n,vals,h=>by
  rw[dZ,List.flatten_cons] at h;have h1:=ana r n vals fun j d hd=>h j d (by rw[List.getElem?_append_left (List.getElem?_eq_some_iff.1 hd).1];exact hd);obtain⟨h2,h3⟩:=ajS rs (n+wD r) (fun i=>vals (r.length+i)) fun j d hd=>h (r.length+j) d (by rw[List.getElem?_append_right (by rw[lT];omega),lT,Nat.add_sub_cancel_left];exact hd);refine⟨fun e he=> ?_,fun j d hd=> ?_⟩
  ·rcases List.mem_cons.1 he with e1|he
   ·subst e1;exact⟨_,by rw[dZ];exact List.mem_cons_self ..,lT _ _⟩
   ·obtain⟨e',q1,q2⟩:=h2 e he;exact⟨e',by rw[dZ];exact List.mem_cons_of_mem _ q1,q2⟩
  ·rw[List.flatten_cons] at hd;by_cases hj:j<r.length
   ·rw[List.getElem?_append_left hj] at hd;exact h1 j d hd
   ·rw[List.getElem?_append_right (by omega)] at hd;have:=h3 (j-r.length) d hd
    rwa [show r.length+(j-r.length)=j by omega] at this
end
theorem M6{r:List D}{n:Nat}:Less (.agg ((eZ r n).map .d)) (.agg (r.map .d)):=by
 rintro w σ S β v ⟨a,ha,hl,hc⟩;rw[List.length_map,lT] at hl;refine⟨a,ha,by rw[List.length_map];exact hl,?_⟩
 have key:∀(r:List D)(n:Nat)(vs:List Value),(∀(j:Nat)(x:C),((eZ r n).map C.d)[j]? =some x->∃v:Value,vs[j]? =some v/\jD w σ S β x v/\v.oneCell'=true)->
  ∀(j:Nat)(x:C),(r.map C.d)[j]? =some x->∃v:Value,vs[j]? =some v/\jD w σ S β x v/\v.oneCell'=true:=by
  intro r
  induction r with
  |nil=>intro n vs h j x hx;simp at hx
  |cons d ds ih=>
   intro n vs h j x hx
   cases j with
   |zero=>
    simp at hx;subst hx;obtain⟨v,h1,h2,h3⟩:=h 0 (.d (og d n)) rfl;exact⟨v,h1,aij d n v h2,h3⟩
   |succ j=>
    have:=ih (n+pX d) vs.tail (fun i y hy=>by
     obtain⟨v,h1,h2⟩:=h (i+1) y (by rw[eZ,List.map_cons];exact hy);refine⟨v,?_,h2⟩
     cases vs with
     |nil=>simp at h1
     |cons a b=>exact h1) j x hx
    obtain⟨v,h1,h2⟩:=this;refine⟨v,?_,h2⟩
    cases vs with
    |nil=>simp at h1
    |cons a b=>exact h1
 exact key r n _ hc
theorem ae4{r:List D}{n:Nat}{w:World}{σ:Nat->Nat}{S:Store}{β:Hs}{vs:List Value}(h:gN w σ S β ((eZ r n).map .d) vs):gN w σ S β (r.map .d) vs:=by
 obtain⟨a,ha,hc⟩:=M6 w σ S β (.agg vs.toArray) ⟨vs.toArray,rfl,by simpa using h⟩;cases ha;simpa using hc
inductive vI:List V->List V->Prop
 |nil:vI [] []
 |cons {x y:V} {xs ys:List V}:Less x y->vI xs ys->vI (x::xs) (y::ys)
theorem vI.length:∀{xs ys:List V},vI xs ys->xs.length=ys.length
 |_,_,.nil=>rfl
 |_,_,.cons _ h=>by rw[List.length_cons,List.length_cons,vI.length h]
theorem vI.at:∀{xs ys:List V},vI xs ys->∀(j:Nat)(x y:V),xs[j]? =some x->ys[j]? =some y->Less x y
 |_,_,.nil,j,x,y,h,_=>by simp at h
 |_,_,.cons a h,0,x,y,h1,h2=>by simp at h1 h2;subst h1;subst h2;exact a
 |_,_,.cons a h,j+1,x,y,h1,h2=>vI.at h j x y (by simpa using h1) (by simpa using h2)
theorem aH.args{f:FuncId}{args args':List V}{r:V}(h:aH P f args' r)(hl:vI args args'):aH P f args r:=fun S=>(h S).weaken hl.length fun j x y hx hy w σ β v hr=>hl.at j x y hx hy w σ S β v hr
theorem oD{dr:Option Nat}{f:FuncId}{args args':List V}{dst:Option Nat}{K:St->Prop}{r:V}(h:aH P f args' r)(hl:vI (args.map V.ug) args')(hK:K (s.put dst r)):fA P dr f args s dst K:=aZ (h.args hl) hK
def aik(row:Bool)(j n:Nat)(es:List (List D))(tm:List (Nat×V)):List (Nat×V):=tm.map fun x=>(x.1,x.2.mY (C.lab row j n es))
theorem ae5{row:Bool}{j n:Nat}{es:List (List D)}{tm:List (Nat×V)}{t:Nat}:look (aik row j n es tm) t=(look tm t).mY (C.lab row j n es):=Hl (f:=V.mY (C.lab row j n es)) rfl tm t
def acj(j n:Nat)(tm:List (Nat×V))(own:List Obj)(Ω:Store):Option Obj->St
 |some (.gH _ es)=>⟨aik true j n es tm,(own.map (Obj.mY (C.lab true j n es))).set j .dead::Ω⟩
 |some (.fu m _ es)=>⟨aik false j m es tm,(own.map (Obj.mY (C.lab false j m es))).set j .dead::Ω⟩
 |_=>⟨tm,own::Ω⟩
def UC(j n:Nat)(s:St):St:=
 match s.st with
 |own::Ω=>acj j n s.tm own Ω (own[j]?)
 |[]=>s
def Pn:Nat->Nat->St->St
 |0,_,s=>s
 |k+1,n,s=>Pn k n (UC k n s)
def Gn(n:Nat)(s:St):St:=
 match s.st with
 |own::_=>Pn own.length n s
 |[]=>s
theorem Mr(j n:Nat)(s:St):iD N s (UC j n s):=by
 obtain⟨tm,st⟩:=s
 cases st with
 |nil=>exact iD.refl _ _
 |cons own Ω=>
  show iD N ⟨tm,own::Ω⟩ (acj j n tm own Ω (own[j]?))
  cases ho:own[j]? with
  |none=>exact iD.refl _ _
  |some o=>
   cases o with
   |gH z es=>exact fun a w σ β hR=>ZR j n z es true ho hR
   |fu m z es=>exact fun a w σ β hR=>ZR j m z es false ho hR
   |_=>exact iD.refl _ _
theorem Ms:∀(k n:Nat)(s:St),iD N s (Pn k n s)
 |0,n,s=>iD.refl _ _
 |k+1,n,s=>(Mr k n s).trans (Ms k n _)
theorem Eh(n:Nat)(s:St):iD N s (Gn n s):=by
 unfold Gn;split
 ·exact Ms _ _ _
 ·exact iD.refl _ _
theorem ail{j n:Nat}{tm:List (Nat×V)}{own:List Obj}{Ω:Store}:UC j n ⟨tm,own::Ω⟩=acj j n tm own Ω (own[j]?):=rfl
theorem ae6{n:Nat}{tm:List (Nat×V)}{own:List Obj}{Ω:Store}:Gn n ⟨tm,own::Ω⟩=Pn own.length n ⟨tm,own::Ω⟩:=rfl
def WK(P:Program)(n:Nat)(rs:List ResultVar)(post:V->Store->Prop)(e:Exit)(s:St):Prop:=agD P rs post e (Gn n s)
theorem ain{n:Nat}{rs:List ResultVar}{post:V->Store->Prop}:WK P n rs post .ret s=VR P rs post (Gn n s):=rfl
theorem Y0{n:Nat}{rs:List ResultVar}{post:V->Store->Prop}:WK P n rs post .normal s=VR P rs post (Gn n s):=rfl
theorem lN(n:Nat){f:FuncId}{fn:Func}{c:Code}{args:List V}{post:V->Store->Prop}{rs:List ResultVar}(ig:P.follows .mixedOrders=true)(hf:P.funcs[f]? =some fn)(hN:fn.ntmps=N)
 (hb:fn.body=some c) (hn:(fn.name== "runtime.NumGoroutine")=false) (hr:fn.results.toList=rs) (hl:Nat.ble args.length N=true) (hok:codeOk N c=true)
 (h:CW P N c (WK P n rs post) ⟨sJ (args.map (V.up 1)) 0,[.seed n]::S⟩):dz P f args S post:=by
 subst hN;subst hr;exact yg hf hb hn (Nat.le_of_ble_eq_true hl) (QC n (F9 (Eh n) (lI ig c _ _ hok h)))
theorem aio{row:Bool}{j n l i:Nat}{es es':List (List D)}:C.lab row j n es (.bN (1+l,i) es')=.bN (1+l,i) es':=by rw[Nat.add_comm];rfl
theorem aip{row:Bool}{j n i:Nat}{es es':List (List D)}:C.lab row j n es (.bN (0,i) es')=if i=j/\row=false/\es'.length=es.length then .d (.ol n es) else .bN (0,i) es':=rfl
theorem aiq{row:Bool}{j n l i:Nat}{es:List (List D)}:C.lab row j n es (.mE (1+l,i))=.mE (1+l,i):=by rw[Nat.add_comm];rfl
theorem air{row:Bool}{j n i:Nat}{es:List (List D)}:C.lab row j n es (.mE (0,i))=if i=j/\row=true then .d (.ol n es) else .mE (0,i):=rfl
theorem ao8{row:Bool}{j n:Nat}{es:List (List D)}{x:D}:C.lab row j n es (.d x)=.d x:=rfl
theorem ak8{row:Bool}{j n:Nat}{es:List (List D)}:C.lab row j n es .any=.any:=rfl
theorem ak9{row:Bool}{j n:Nat}{es es':List (List D)}:C.lab row j n es (.bG es')=.bG es':=rfl
theorem ala{row:Bool}{j n m:Nat}{es es':List (List D)}:C.lab row j n es (.lU m es')=.lU m es':=rfl
theorem alb{row:Bool}{j n off:Nat}{es:List (List D)}{k:Key}:C.lab row j n es (.ptr k off)=.ptr k off:=rfl
theorem anb{row:Bool}{j n f:Nat}{es:List (List D)}{caps:List (Key×Nat)}:C.lab row j n es (.fn f caps)=.fn f caps:=rfl
theorem ais{row:Bool}{j n:Nat}{es:List (List D)}{cs:List D}:C.lab row j n es (.nX cs)=.nX cs:=rfl
theorem tX{ι:Type}{ts:List Nat}{f:ι->List V}{g:ι->Store}{p:ι->Prop}{μ:ι->Nat}{i:ι}{tm:List (Nat×V)}{own:List Obj}{Ω:Store}{m:Nat}(m' n:Nat)(hnd:ts.Nodup)(j:ι)(h1:μ j<μ i)(h2:ts.map (look tm)=f j)(h3:(Obj.seed m'::own.take n)::Ω=g j)
 (hr:kT (n+1) (jd ts (f j))=true) (ho:(own.take n).all (Obj.refs (n+1))=true) (h4:p j):Inv N ts f g p μ i ⟨tm,(.seed m::own)::Ω⟩:=by
 refine⟨j,⟨jd ts (f j),(.seed m'::own.take n)::Ω⟩,h1,?_,?_,h3,h4⟩
 ·have hg:iD N ⟨tm,(.seed m::own)::Ω⟩ ⟨jd ts (f j),(.seed m::own)::Ω⟩:=by
   rw[<-h2];exact MN fun t=>Aw _ ts t
  refine hg.trans ((Og (n+1) hr ?_).trans (DW m'));rw[List.take_succ_cons,List.all_cons,ho];rfl
 ·exact DZ ts (f j) hnd (by rw[<-h2];simp)
end
attribute [go_sem ↓] ain Y0 ae6
attribute [go_sem] Pn ail acj ae5 V.mY Obj.mY aio aip aiq air ao8 ak8 ak9 ala alb anb ais
section
variable {P:Program} {w w':World} {σ σ':Nat->Nat} {S:Store} {β:Hs}
def uJ(w:World)(σ:Nat->Nat)(lo hi b:Nat):Prop:=∃c t fz m,w.heap[b]? =some (.cells c t fz)/\σ b=c.size+1+m/\lo<=m/\m<hi
theorem uJ.mono{lo hi lo' hi' b:Nat}(h:uJ w σ lo hi b)(h1:lo'<=lo)(h2:hi<=hi'):uJ w σ lo' hi' b:=by
 obtain⟨c,t,fz,m,a1,a2,a3,a4⟩:=h;exact⟨c,t,fz,m,a1,a2,by omega,by omega⟩
theorem uJ.apart{lo hi lo' hi' b:Nat}(h:uJ w σ lo hi b)(h':uJ w σ lo' hi' b)(ho:hi<=lo'):False:=by
 obtain⟨c,t,fz,m,a1,a2,a3,a4⟩:=h;obtain⟨c',t',U8,m',b1,b2,b3,b4⟩:=h';rw[a1] at b1;cases b1;omega
abbrev Kids:=List (List (Option Value))
def pJ(rows:Kids)(i o:Nat):Option Value:=((rows[i]?).bind fun r=>r[o]?).bind id
def ajT(rows:Kids):Array Value:=(rows.map fun r=>Value.tuple (r.map fun u=>u.getD (.bool false)).toArray).toArray
def mkT(v:Value)(rows:Kids):Value:=.tuple #[v,.tuple (ajT rows)]
theorem Z4{v:Value}{rows:Kids}:hdr (mkT v rows)=some v:=rfl
def IsT(v:Value):Prop:=∃a,v=.tuple a
theorem QZ{v:Value}{rows:Kids}(h:∀i o u,pJ rows i o=some u->IsT u)(i o:Nat):kid (mkT v rows) i o=pJ rows i o:=by
 have h':=h i o
 unfold kid mkT ajT pJ at *
 simp only[List.getElem?_toArray,List.getElem?_cons_succ,List.getElem?_cons_zero,List.getElem?_map]
 cases hr:rows[i]? with
 |none=>rfl
 |some r=>
  rw[hr] at h';simp only[Option.map_some,List.getElem?_toArray,List.getElem?_map]
  cases hu:r[o]? with
  |none=>simp[hu]
  |some u=>
   simp only[Option.bind_some,hu,id] at h'
   cases u with
   |none=>simp[hu]
   |some u=>
    obtain⟨a,rfl⟩:=h' u rfl;simp[hu]
def UD(w:World)(d:D)(v:Value)(u:Option Value):Prop:=
 match d with
 | .sl es=>∃T,u=some T/\IsT T/\hdr T=some v/\sP w es T
 |d=>u=none/\SD d v
theorem WL{z:Nat}:∀{rs:List (List D)}{n:Nat},(∀r∈dZ rs n,r.length=z)->∀r∈rs,r.length=z
 |[],_,_,r,h=>by cases h
 |a::rs,n,ha,r,h=>by
  rw[dZ] at ha;rcases List.mem_cons.1 h with e|h
  ·subst e;rw[<-lT r n];exact ha _ (by simp)
  ·exact WL (n:=n+wD a) (fun r hr=>ha r (by simp[hr])) r h
structure aq1(w:World)(σ:Nat->Nat)(r:List D)(n m:Nat)(vals:Nat->Value)(us:List (Option Value)):Prop where
 len:us.length=r.length
 cell:∀(j:Nat)(d:D),r[j]? =some d->∃u,us[j]? =some u/\UD w d (vals j) u
 own:∀(j:Nat)(u:Value),us[j]? =some (some u)->∀b,nY u b->uJ w σ n m b
 apart:∀(j j':Nat)(u u':Value)(b:Nat),j≠j'->us[j]? =some (some u)->us[j']? =some (some u')->nY u b->nY u' b->False
structure ao9(w:World)(σ:Nat->Nat)(z:Nat)(rs:List (List D))(n m:Nat)(vals:Nat->Value)(U:Kids):Prop where
 cell:∀(i o:Nat)(d:D),cellAt rs i o=some d->∃u,((U[i]?).bind fun r=>r[o]?)=some u/\UD w d (vals (i*z+o)) u
 kid:∀(i o:Nat)(u:Value),pJ U i o=some u->∃es,cellAt rs i o=some (.sl es)
 own:∀(i o:Nat)(u:Value),pJ U i o=some u->∀b,nY u b->uJ w σ n m b
 apart:∀(i o i' o':Nat)(u u':Value)(b:Nat),(i,o)≠(i',o')->pJ U i o=some u->pJ U i' o'=some u'->nY u b->nY u' b->False
theorem zX{us:List (Option Value)}{U:Kids}{o:Nat}{u:Value}:pJ (us::U) 0 o=some u<->us[o]? =some (some u):=by
 show(us[o]?).bind id=some u<->_
 cases us[o]? with
 |none=>simp
 |some x=>simp
mutual
theorem apa:∀(d:D)(n:Nat)(v:Value),uR d=true->dI w σ (og d n) v->∃u,UD w d v u/\∀T,u=some T->∀b,nY T b->uJ w σ n (n+pX d) b
 | .sl es,n,v,hp,h=>by
   rw[og] at h;have hl:=kI es (n+1);have hrec:=ae7 es (n+1);have hrow:=fun z=>WL (z:=z) (rs:=es) (n:=n+1);generalize dZ es (n+1)=q at h hl hrec hrow
   have hempty:∀a cap,es=[]->v=.slice a 0 cap->∃u,UD w (.sl es) v u/\∀T,u=some T->∀b,nY T b->uJ w σ n (n+pX (.sl es)) b:=by
    rintro a cap rfl rfl
    have hk:∀i o,kid (mkT (.slice a 0 cap) []) i o=none:=fun i o=>by rw[QZ (fun i o u h=>by simp[pJ] at h)];simp[pJ]
    refine⟨some (mkT (.slice a 0 cap) []),⟨_,rfl,⟨_,rfl⟩,rfl,.nil a cap _ rfl hk⟩,fun T hT b hb=> ?_⟩;cases hT;exfalso
    cases hb with
    |here h1 h2=>rw[Z4] at h1;cases h1;omega
    |kid h1 h2=>rw[hk] at h1;cases h1
   cases h with
   |vZ n a cap=>exact hempty a cap (List.eq_nil_of_length_eq_zero (by simpa using hl.symm)) rfl
   |ol n b off cap z q vals c t hcap hlen hb hσ hfit hc hv=>
    by_cases hne:es=[]
    ·subst hne
     have hq0:q.length=0:=by simpa using hl
     exact hempty _ _ rfl (by rw[hq0])
    rw[hl] at hcap hfit hc ⊢;obtain⟨U,hU⟩:=hrec z vals (hrow z hlen) (by simpa [uR] using hp) hv;have hrl:=hrow z hlen
    have hT:∀i o u,pJ U i o=some u->IsT u:=fun i o u hu=>by
     obtain⟨es',he⟩:=hU.kid i o u hu;obtain⟨u',h1,h2⟩:=hU.cell i o _ he;obtain⟨T,h3,h4,_⟩:=h2;unfold pJ at hu;rw[h1,h3] at hu;cases hu;exact h4
    have wh:∀i o,kid (mkT (.slice (some ⟨b,off,none⟩) es.length cap) U) i o=pJ U i o:=QZ hT
    have hcell:∀i o es',cellAt es i o=some (.sl es')->∃T,pJ U i o=some T/\hdr T=some (vals (i*z+o))/\sP w es' T:=fun i o es' he=>by
     obtain⟨u',h1,T,h3,h4,h5,h6⟩:=hU.cell i o _ he;refine⟨T,?_,h5,h6⟩;unfold pJ;rw[h1,h3];rfl
    have hself:∀x,uJ w σ (n+1) (n+1+kD es) x->x≠b:=by
     rintro x ⟨c',t',U8,m,a1,a2,a3,a4⟩ rfl;rw[hb] at a1;cases a1;omega
    refine⟨some (mkT (.slice (some ⟨b,off,none⟩) es.length cap) U),⟨_,rfl,⟨_,rfl⟩,rfl,?_⟩,fun T hT' x hx=> ?_⟩
    ·refine .mk b off cap z es _ c t (fun i o=>vals (i*z+o)) (fun i o=>(pJ U i o).getD undef) rfl hne hcap hrl hb hfit (fun i o d hd=> ?_) (fun i o d hd=> ?_) (fun i o es' he=> ?_) (fun i o es' he=> ?_) (fun i o u hu hb'=> ?_) (fun i o i' o' u u' x hio hu hu' h1 h2=> ?_) (fun i o u hu=> ?_)
     ·obtain⟨hi,ho⟩:=Aq hd;rw[hrl _ (List.getElem_mem hi)] at ho;refine hc _ ?_;have:(i+1)*z<=es.length*z:=Nat.mul_le_mul_right _ hi;rw[Nat.add_mul,Nat.one_mul] at this;omega
     ·obtain⟨u,h1,h2⟩:=hU.cell i o d hd
      cases d<;>first|exact .inl ⟨_,rfl⟩|exact .inr h2.2
     ·obtain⟨T,h1,h2,h3⟩:=hcell i o es' he;rw[wh,h1];exact⟨rfl,h2⟩
     ·obtain⟨T,h1,h2,h3⟩:=hcell i o es' he;rw[h1];exact h3
     ·rw[wh] at hu;exact hself b (hU.own i o u hu b hb') rfl
     ·rw[wh] at hu hu';exact hU.apart i o i' o' u u' x hio hu hu' h1 h2
     ·rw[wh] at hu;exact hU.kid i o u hu
    ·cases hT'
     cases hx with
     |here h1 h2=>rw[Z4] at h1;cases h1;exact⟨c,t,(0,0),n,hb,hσ,Nat.le_refl _,by rw[pX];omega⟩
     |kid h1 h2=>
      rw[wh] at h1;exact(hU.own _ _ _ h1 _ h2).mono (by omega) (by rw[pX];omega)
 | .ol m es,n,v,hp,h=>by simp[uR] at hp
 | .b x,n,v,hp,h=>by rw[og] at h;cases h;exact⟨none,⟨rfl,rfl⟩,fun T h=>by cases h⟩
 | .i k x,n,v,hp,h=>by rw[og] at h;cases h;exact⟨none,⟨rfl,rfl⟩,fun T h=>by cases h⟩
 | .s l,n,v,hp,h=>by rw[og] at h;cases h;exact⟨none,⟨rfl,rfl⟩,fun T h=>by cases h⟩
 | .o u,n,v,hp,h=>by simp[uR] at hp
theorem acn:∀(r:List D)(n:Nat)(vals:Nat->Value),lq r=true->(∀(j:Nat)(d:D),(eZ r n)[j]? =some d->dI w σ d (vals j))->∃us,aq1 w σ r n (n+wD r) vals us
 |[],n,vals,hp,h=>⟨[],rfl,fun j d h=>by simp at h,fun j u h=>by simp at h,fun j j' u u' b _ h=>by simp at h⟩
 |d::r,n,vals,hp,h=>by
  rw[lq,Bool.and_eq_true] at hp;rw[eZ] at h;obtain⟨u,h1,h2⟩:=apa d n (vals 0) hp.1 (h 0 _ rfl);obtain⟨us,Aj⟩:=acn r (n+pX d) (fun j=>vals (j+1)) hp.2 fun j x hx=>h (j+1) x hx;rw[wD];have hown:∀(j:Nat)(T:Value),us[j]? =some (some T)->∀b,nY T b->uJ w σ (n+pX d) (n+pX d+wD r) b:=Aj.own;refine⟨u::us,by rw[List.length_cons,List.length_cons,Aj.len],fun j x hx=> ?_,fun j T hT b hb=> ?_,fun j j' T T' b hj hT hT' hb hb'=> ?_⟩
  ·cases j with
   |zero=>simp at hx;subst hx;exact⟨u,rfl,h1⟩
   |succ j=>exact Aj.cell j x hx
  ·cases j with
   |zero=>simp at hT;exact(h2 T hT b hb).mono (Nat.le_refl _) (by omega)
   |succ j=>exact(hown j T hT b hb).mono (by omega) (by omega)
  ·cases j with
   |zero=>
    cases j' with
    |zero=>exact hj rfl
    |succ j'=>simp at hT;exact(h2 T hT b hb).apart (hown j' T' hT' b hb') (Nat.le_refl _)
   |succ j=>
    cases j' with
    |zero=>simp at hT';exact(h2 T' hT' b hb').apart (hown j T hT b hb) (Nat.le_refl _)
    |succ j'=>exact Aj.apart j j' T T' b (by omega) hT hT' hb hb'
theorem ae7:∀(rs:List (List D))(n z:Nat)(vals:Nat->Value),(∀r∈rs,r.length=z)->lV rs=true->(∀(j:Nat)(d:D),(dZ rs n).flatten[j]? =some d->dI w σ d (vals j))->∃U,ao9 w σ z rs n (n+kD rs) vals U
 |[],n,z,vals,hz,hp,h=>⟨[],fun i o d h=>by simp[cellAt] at h,fun i o u h=>by simp[pJ] at h,fun i o u h=>by simp[pJ] at h,fun i o i' o' u u' b _ h=>by simp[pJ] at h⟩
 |r::rs,n,z,vals,hz,hp,h=>by
  rw[lV,Bool.and_eq_true] at hp;rw[dZ,List.flatten_cons] at h;have hrz:r.length=z:=hz r (by simp);obtain⟨us,Aj⟩:=acn r n vals hp.1 fun j d hd=>h j d (by rw[List.getElem?_append_left (List.getElem?_eq_some_iff.1 hd).1];exact hd)
  obtain⟨U,hU⟩:=ae7 rs (n+wD r) z (fun j=>vals (z+j)) (fun r hr=>hz r (by simp[hr])) hp.2 fun j d hd=>h (z+j) d (by
   rw[List.getElem?_append_right (by rw[lT];omega),lT,hrz,Nat.add_sub_cancel_left];exact hd)
  rw[kD];have hown:∀(i o:Nat)(T:Value),pJ U i o=some T->∀b,nY T b->uJ w σ (n+wD r) (n+wD r+kD rs) b:=hU.own;refine⟨us::U,fun i o d hd=> ?_,fun i o u hu=> ?_,fun i o T hT b hb=> ?_,fun i o i' o' T T' b hio hT hT' hb hb'=> ?_⟩
  ·cases i with
   |zero=>
    obtain⟨u,h1,h2⟩:=Aj.cell o d hd;exact⟨u,h1,by rw[Nat.zero_mul,Nat.zero_add];exact h2⟩
   |succ i=>
    obtain⟨u,h1,h2⟩:=hU.cell i o d hd;exact⟨u,h1,by rw[show(i+1)*z+o=z+(i*z+o) by rw[Nat.add_mul];omega];exact h2⟩
  ·cases i with
   |zero=>
    rw[zX] at hu
    have ho:o<r.length:=by rw[<-Aj.len];exact(List.getElem?_eq_some_iff.1 hu).1
    obtain⟨u',h1,h2⟩:=Aj.cell o r[o] (List.getElem?_eq_getElem ho);rw[hu] at h1;cases h1;have hc:cellAt (r::rs) 0 o=some r[o]:=List.getElem?_eq_getElem ho;rw[hc];generalize r[o]=d at h2
    cases d<;>first|exact⟨_,rfl⟩|(cases h2.1)
   |succ i=>exact hU.kid i o u hu
  ·cases i with
   |zero=>rw[zX] at hT;exact(Aj.own o T hT b hb).mono (Nat.le_refl _) (by omega)
   |succ i=>exact(hown i o T hT b hb).mono (by omega) (by omega)
  ·cases i with
   |zero=>
    rw[zX] at hT
    cases i' with
    |zero=>rw[zX] at hT';exact Aj.apart o o' T T' b (fun e=>hio (by rw[e])) hT hT' hb hb'
    |succ i'=>exact(Aj.own o T hT b hb).apart (hown i' o' T' hT' b hb') (Nat.le_refl _)
   |succ i=>
    cases i' with
    |zero=>rw[zX] at hT';exact(Aj.own o' T' hT' b hb').apart (hown i o T hT b hb) (Nat.le_refl _)
    |succ i'=>exact hU.apart i o i' o' T T' b (fun e=>hio (by cases e;rfl)) hT hT' hb hb'
end
end
section
variable {P:Program} {w w':World} {σ σ':Nat->Nat} {S:Store} {β:Hs}
def Lg:D->List (List D)
 | .sl es=>es
 |_=>[]
def aco(k:Key)(j:Nat):D->C
 | .sl _=>.xp k j []
 |d=>.d d
def Kk(k:Key):Nat->List D->List C
 |_,[]=>[]
 |j,d::ds=>aco k j d::Kk k (j+1) ds
theorem FE{k:Key}:∀(j:Nat)(r:List D),(Kk k j r).length=r.length
 |_,[]=>rfl
 |j,d::ds=>by rw[Kk,List.length_cons,FE,List.length_cons]
theorem Z5{k:Key}:∀(r:List D)(j i:Nat),(Kk k j r)[i]? =(r[i]?).map (aco k (j+i))
 |[],j,i=>by simp[Kk]
 |d::ds,j,0=>rfl
 |d::ds,j,i+1=>by
  rw[Kk,List.getElem?_cons_succ,List.getElem?_cons_succ,Z5 ds (j+1) i,show j+1+i=j+(i+1) by omega]
def acp:C->C
 | .d x=>.d x
 | .bG es=>.d (.sl es)
 | .bN _ es=>.d (.sl es)
 | .lU n es=>.d (.ol n es)
 | .nX cs=>.nX cs
 |_=>.any
def acr:V->V
 | .c x=>.c (acp x)
 | .agg cs=>.agg (cs.map acp)
 |_=>.any
theorem Sy{c:C}{v:Value}(h:jD w σ S β c v)(S':Store)(β':Hs):jD w σ S' β' (acp c) v:=by
 cases c with
 |d x=>exact h
 |bG es=>exact h.1
 |bN k es=>exact h.1
 |lU n es=>exact h.1
 |nX cs=>exact h
 |_=>trivial
theorem ait{x:V}{v:Value}(h:dP w σ S β x v)(S':Store)(β':Hs):dP w σ S' β' (acr x) v:=by
 cases x with
 |c x=>exact⟨Sy h.1 _ _,h.2⟩
 |agg cs=>
  obtain⟨a,ha,hl,hc⟩:=h;refine⟨a,ha,by rw[List.length_map];exact hl,fun i x hx=> ?_⟩;rw[List.getElem?_map] at hx
  cases hi:cs[i]? with
  |none=>rw[hi] at hx;cases hx
  |some y=>
   rw[hi] at hx;cases hx;obtain⟨u,q1,q2,q3⟩:=hc i y hi;exact⟨u,q1,Sy q2 _ _,q3⟩
 |_=>trivial
theorem Po(hl:∀b,b<w.heap.size\/σ b=0)(hg:nD w σ):fE w σ [] [] where
 uz:=hg
 obj:=fun k o h=>by rw[qZ] at h;cases h
 apart:=fun k k' o o' h h' b h1=>by rw[qZ] at h1;cases h1
 shape:=⟨rfl,fun l fr h=>by simp at h⟩
 live:=hl
theorem Lh{β:Hs}{b:Nat}:¬Own [] β b:=fun⟨k,o,h,h1,_⟩=>by rw[qZ] at h1;cases h1
def ae8(mk:List C->V)(m:Nat):Prop:=∀w σ S β cs v,cs.length=m->dP w σ S β (mk cs) v->∃vs,gN w σ S β cs vs/\∀w' σ' S' β' cs',cs'.length=m->gN w' σ' S' β' cs' vs->dP w' σ' S' β' (mk cs') v
def WM:C->Bool
 | .d d=>gT d
 |_=>false
theorem Pp{c:C}{v:Value}(h:WM c=true)(hr:jD w σ S β c v)(w':World)(σ':Nat->Nat)(S':Store)(β':Hs):jD w' σ' S' β' c v:=by
 cases c with
 |d d=>cases d<;>first|(cases h;done)|(cases hr;constructor)
 |_=>cases h
theorem acs{m:Nat}(xs:List C)(h:xs.all WM=true):ae8 (fun cs=>.dQ ((true,cs)::xs.map fun x=>(false,[x]))) m:=by
 rintro w σ S β cs v _ ⟨a,ha,hl,hc⟩;obtain⟨u,hu,a',rfl,hcs⟩:=hc 0 _ rfl;refine⟨a'.toList,hcs,fun w' σ' S' β' cs' _ hc'=>⟨a,ha,hl,fun j y hy=> ?_⟩⟩
 cases j with
 |zero=>simp at hy;subst hy;exact⟨_,hu,a',rfl,hc'⟩
 |succ j=>
  rw[List.getElem?_cons_succ] at hy;obtain⟨u,h1,h2⟩:=hc (j+1) y (by rw[List.getElem?_cons_succ];exact hy);refine⟨u,h1,?_⟩;rw[List.getElem?_map] at hy
  cases hx:xs[j]? with
  |none=>rw[hx] at hy;cases hy
  |some x=>
   rw[hx] at hy;cases hy;obtain⟨x',e,h3,h4⟩:=h2;cases e;exact⟨x,rfl,Pp (List.all_eq_true.1 h x (List.mem_of_getElem? hx)) h3 _ _ _ _,h4⟩
def Ei:Value:=mkT (.slice none 0 0) []
theorem Sz(i o:Nat):kid Ei i o=none:=by
 unfold Ei;rw[QZ (fun i o u h=>by simp[pJ] at h)];simp[pJ]
theorem Ih{b:Nat}:¬nY Ei b:=fun h=>by
 cases h with
 |here h1 h2=>cases h1
 |kid h1 h2=>rw[Sz] at h1;cases h1
theorem WO(σ:Nat->Nat):∀n:Nat,∃m,∀b,b<n->σ b<=m
 |0=>⟨0,fun b h=>by omega⟩
 |n+1=>by
  obtain⟨m,hm⟩:=WO σ n;refine⟨max m (σ n),fun b hb=> ?_⟩;by_cases e:b=n
  ·subst e;omega
  ·have:=hm b (by omega);omega
open Classical in
theorem dz.own{f:FuncId}{args:List V}{bU:List Obj}{Ω:Store}{mk:List C->V}{r:List D}(hm:ae8 mk r.length)(hp:lq r=true)
 (h:∀n,aH P f (args.map acr) (mk ((eZ r n).map .d))):
 dz P f args (bU::Ω) (fun r' S'=>r'=mk (Kk (0,bU.length) 0 r)/\S'=(bU++[.xf (r.map Lg)])::Ω):=by
 refine⟨(h 0 []).1,fun w σ β vs hS hargs=> ?_⟩;obtain⟨n,hn⟩:=WO σ w.heap.size
 have ae9:qg w σ [] [] (args.map acr) vs:=by
  refine⟨by rw[List.length_map];exact hargs.1,fun j x hx=> ?_⟩;rw[List.getElem?_map] at hx
  cases ha:args[j]? with
  |none=>rw[ha] at hx;cases hx
  |some y=>
   rw[ha] at hx;cases hx;obtain⟨v,h1,h2⟩:=hargs.2 j y ha;exact⟨v,h1,ait h2 _ _⟩
 refine((h n []).2 w σ [] vs (Po hS.live hS.uz) ae9).mono fun e w' ⟨v,r',S',σ',β',he,hS',hk,hst,hv,hr',hS2⟩=> ?_;subst hr';subst hS2;obtain⟨us0,hcs,hback⟩:=hm w' σ' _ β' _ v (by rw[List.length_map,lT]) hv
 have aq2:us0.length=r.length:=by rw[<-hcs.1,List.length_map,lT]
 obtain⟨us,Aj⟩:=acn r n (fun j=>us0.getD j undef) hp (fun j d hd=>by
  obtain⟨u,h1,h2,_⟩:=hcs.2 j (.d d) (by rw[List.getElem?_map,hd];rfl);simp only[List.getD_eq_getElem?_getD,h1,Option.getD_some]
  exact h2)
 let h0:Value:=.tuple (us.map fun u=>u.getD Ei).toArray
 have hroot:∀j,zB h0 j=(us[j]?).map fun u=>u.getD Ei:=fun j=>by simp[h0,zB]
 have hfresh:∀b,qP h0 b->w.heap.size<=b:=by
  rintro b ⟨j,T,h1,h2⟩;rw[hroot] at h1
  cases hu:us[j]? with
  |none=>rw[hu] at h1;cases h1
  |some u=>
   rw[hu] at h1;simp only[Option.map_some,Option.some.injEq] at h1
   cases u with
   |none=>subst h1;exact absurd h2 Ih
   |some u=>
    simp at h1;subst h1;obtain⟨c,t,fz,m,a1,a2,a3,a4⟩:=Aj.own j u hu b h2;refine Nat.le_of_not_lt fun hlt=> ?_;have h1:=(hst.far b hlt Lh).2;have h2:=hn b hlt;omega
 let σ2:Nat->Nat:=fun b=>if qP h0 b then 0 else σ' b
 have hg:Grow w σ w' σ2:=⟨hst.size,hst.os,hst.output,fun b hb=>by
  obtain⟨h1,h2⟩:=hst.far b hb Lh
  exact⟨h1,(if_neg fun hx=>by have:=hfresh b hx;omega).trans h2⟩,fun b=>by
  rcases hS'.live b with hb|hb
  ·exact .inl hb
  ·right;show(if qP h0 b then 0 else σ' b)=0;rw[hb];split<;>rfl⟩
 cases β with
 |nil=>have:=hS.shape.1;simp at this
 |cons bo bΩ=>
 have hlen:bo.length=bU.length:=by
  obtain⟨gr,g1,g2⟩:=hS.shape.2 0 bU rfl;simp at g1;rw[g1];exact g2
 obtain⟨hS3,hk3,aq3⟩:=hS.push (o:=.xf (r.map Lg)) (h:=h0) hg hlen (by
  refine⟨fun j es hj=> ?_,fun j T hT=> ?_,fun b hb=>if_pos hb,fun j j' T T' x hjj hT hT' hx hx'=> ?_⟩
  ·rw[List.getElem?_map] at hj
   cases hd:r[j]? with
   |none=>rw[hd] at hj;cases hj
   |some d=>
    rw[hd] at hj;simp only[Option.map_some,Option.some.injEq] at hj;subst hj;obtain⟨u,h1,h2⟩:=Aj.cell j d hd;rw[hroot,h1]
    have hsc:(∀es,d≠ .sl es)->∃T,Option.map (fun u=>Option.getD u Ei) (some u)=some T/\sP w' (Lg d) T:=fun hne=>by
     have hu:u=none:=by cases d<;>first|exact absurd rfl (hne _)|exact h2.1
     have hr0:Lg d=[]:=by cases d<;>first|exact absurd rfl (hne _)|rfl
     subst hu;rw[hr0];exact⟨Ei,rfl,.nil none 0 _ rfl Sz⟩
    cases d with
    |sl es=>obtain⟨T,rfl,_,_,h6⟩:=h2;exact⟨T,rfl,h6⟩
    |_=>exact hsc (fun es e=>by cases e)
  ·rw[List.length_map];rw[hroot] at hT
   cases hu:us[j]? with
   |none=>rw[hu] at hT;cases hT
   |some u=>rw[<-Aj.len];exact(List.getElem?_eq_some_iff.1 hu).1
  ·rw[hroot] at hT hT'
   cases hu:us[j]? with
   |none=>rw[hu] at hT;cases hT
   |some u=>
    cases hu':us[j']? with
    |none=>rw[hu'] at hT';cases hT'
    |some u'=>
     rw[hu] at hT;rw[hu'] at hT';simp only[Option.map_some,Option.some.injEq] at hT hT'
     cases u with
     |none=>subst hT;exact Ih hx
     |some u=>
      cases u' with
      |none=>subst hT';exact Ih hx'
      |some u'=>simp at hT hT';subst hT;subst hT';exact Aj.apart j j' u u' x hjj hu hu' hx hx') (fun b hb=>hfresh b hb)
 refine⟨v,_,_,σ2,(bo++[h0])::bΩ,he,hS3,hk3,aq3,?_,rfl,rfl⟩;refine hback _ _ _ _ _ (by rw[FE]) ⟨by rw[FE,aq2],fun j x hx=> ?_⟩;rw[Z5,Nat.zero_add] at hx
 cases hd:r[j]? with
 |none=>rw[hd] at hx;cases hx
 |some d=>
  rw[hd] at hx;simp only[Option.map_some,Option.some.injEq] at hx;obtain⟨u,h1,h2⟩:=Aj.cell j d hd
  have hjl:j<(eZ r n).length:=by rw[lT];exact(List.getElem?_eq_some_iff.1 hd).1
  obtain⟨v0,h3,_,h4⟩:=hcs.2 j (.d (eZ r n)[j]) (by rw[List.getElem?_map,List.getElem?_eq_getElem hjl];rfl)
  have hv0:us0.getD j undef=v0:=by rw[List.getD_eq_getElem?_getD,h3];rfl
  simp only[hv0] at h2;refine⟨v0,h3,?_,h4⟩
  have hsc:(∀es,d≠ .sl es)->jD w' σ2 ((bU++[.xf (r.map Lg)])::Ω) ((bo++[h0])::bΩ) (.d d) v0:=fun hne=>by
   have:SD d v0:=by cases d<;>first|exact absurd rfl (hne _)|exact h2.2
   exact UU this
  cases d with
  |sl es=>
   subst hx;obtain⟨T,rfl,_,h5,_⟩:=h2;refine⟨_,cZ _ _ _,fun rs _=>⟨h0,by rw[<-hlen,cZ],?_⟩⟩;unfold GN;rw[hroot,h1];exact h5
  |_=>subst hx;exact hsc (fun es e=>by cases e)
end
section
variable {P:Program} {w w':World} {σ σ':Nat->Nat} {S:Store} {β:Hs}
def anf(r:V):Prop:=∀w σ σ2 S β S2 β2 v,(∀b c t fz,w.heap[b]? =some (.cells c t fz)->c.size<σ b->σ2 b=σ b)->dP w σ S β r v->dP w σ2 S2 β2 r v
mutual
theorem aq4{σ2:Nat->Nat}(hs:∀b c t fz,w.heap[b]? =some (.cells c t fz)->c.size<σ b->σ2 b=σ b):∀(d:D)(n:Nat)(v:Value),uR d=true->dI w σ (og d n) v->dI w σ2 (og d n) v
 | .sl es,n,v,hp,h=>by
   rw[og] at h ⊢;have hrec:=ajV hs es (n+1);generalize dZ es (n+1)=q at h hrec ⊢
   cases h with
   |vZ n a cap=>exact .vZ n a cap
   |ol n b off cap z q vals c t hcap hlen hb hσ hfit hc hv=>exact .ol n b off cap z q vals c t hcap hlen hb ((hs b c t _ hb (by omega)).trans hσ) hfit hc (hrec vals (by simpa [uR] using hp) hv)
 | .ol m es,n,v,hp,h=>by simp[uR] at hp
 | .b x,n,v,hp,h=>by rw[og] at h ⊢;cases h;constructor
 | .i k x,n,v,hp,h=>by rw[og] at h ⊢;cases h;constructor
 | .s l,n,v,hp,h=>by rw[og] at h ⊢;cases h;constructor
 | .o u,n,v,hp,h=>by simp[uR] at hp
theorem ang{σ2:Nat->Nat}(hs:∀b c t fz,w.heap[b]? =some (.cells c t fz)->c.size<σ b->σ2 b=σ b):∀(r:List D)(n:Nat)(vals:Nat->Value),lq r=true->(∀(j:Nat)(d:D),(eZ r n)[j]? =some d->dI w σ d (vals j))->
 ∀(j:Nat)(d:D),(eZ r n)[j]? =some d->dI w σ2 d (vals j)
 |[],n,vals,hp,h,j,d,hd=>by simp[eZ] at hd
 |a::r,n,vals,hp,h,j,d,hd=>by
  rw[lq,Bool.and_eq_true] at hp;rw[eZ] at h hd
  cases j with
  |zero=>
   simp at hd;subst hd;exact aq4 hs a n _ hp.1 (h 0 _ rfl)
  |succ j=>exact ang hs r (n+pX a) (fun i=>vals (i+1)) hp.2 (fun i d hi=>h (i+1) d hi) j d hd
theorem ajV{σ2:Nat->Nat}(hs:∀b c t fz,w.heap[b]? =some (.cells c t fz)->c.size<σ b->σ2 b=σ b):∀(rs:List (List D))(n:Nat)(vals:Nat->Value),lV rs=true->(∀(j:Nat)(d:D),(dZ rs n).flatten[j]? =some d->dI w σ d (vals j))->
 ∀(j:Nat)(d:D),(dZ rs n).flatten[j]? =some d->dI w σ2 d (vals j)
 |[],n,vals,hp,h,j,d,hd=>by simp[dZ] at hd
 |r::rs,n,vals,hp,h,j,d,hd=>by
  rw[lV,Bool.and_eq_true] at hp;rw[dZ,List.flatten_cons] at h hd;by_cases hj:j<(eZ r n).length
  ·rw[List.getElem?_append_left hj] at hd;exact ang hs r n vals hp.1 (fun j d hd=>h j d (by rw[List.getElem?_append_left (List.getElem?_eq_some_iff.1 hd).1];exact hd)) j d hd
  ·rw[List.getElem?_append_right (by omega)] at hd;have:=ajV hs rs (n+wD r) (fun i=>vals ((eZ r n).length+i)) hp.2 (fun j d hd=>h _ d (by rw[List.getElem?_append_right (by omega),Nat.add_sub_cancel_left];exact hd)) (j-(eZ r n).length) d hd
   rwa [show(eZ r n).length+(j-(eZ r n).length)=j by omega] at this
end
theorem acu{c:C}(h:WM c=true):anf (.c c):=fun w σ σ2 S β S2 β2 v _ hv=>⟨Pp h hv.1 _ _ _ _,hv.2⟩
theorem sP.data{es:List (List D)}{T v:Value}(h:sP w es T)(hv:hdr T=some v)(hσ:∀b c t fz,nY T b->w.heap[b]? =some (.cells c t fz)->c.size<=σ b):dI w σ (.sl es) v:=by
 induction h generalizing v with
 |nil a cap T h hk=>rw[h] at hv;cases hv;exact .nil a cap
 |mk b off cap z es T c t vals kids hh hne hcap hlen hb hfit hc hs hk hx hself hap wh ih=>
  rw[hh] at hv;cases hv;have hpos:0<es.length:=List.length_pos_iff.2 hne;have hfl:=kr es z hlen
  have hidx:∀j,j<es.length*z->∃hi:j/z<es.length,j % z<z/\j/z*z+j % z=j:=fun j hj=>by
   have hz:0<z:=by rcases Nat.eq_zero_or_pos z with h|h;·rw[h] at hj;simp at hj
                   ·exact h
   exact⟨(Nat.div_lt_iff_lt_mul hz).2 hj,Nat.mod_lt _ hz,by rw[Nat.mul_comm];exact Nat.div_add_mod j z⟩
  have hcell:∀j d,es.flatten[j]? =some d->∃hi:j/z<es.length,cellAt es (j/z) (j % z)=some d/\j/z*z+j % z=j:=fun j d hd=>by
   have hj:j<es.length*z:=by rw[<-hfl];exact(List.getElem?_eq_some_iff.1 hd).1
   obtain⟨hi,hm,he⟩:=hidx j hj;refine⟨hi,?_,he⟩;have:=flat_get es z hlen (j/z) (j % z) hi hm;rw[he,hd] at this;unfold cellAt;rw[List.getElem?_eq_getElem hi];exact this.symm
  refine .sl b off cap z es (fun j=>vals (j/z) (j % z)) c t (0,0) hcap hlen hb (Nat.le_trans hfit (hσ b c t _ (.here hh hpos) hb)) (fun j hj=> ?_) (fun j d hd=> ?_)
  ·obtain⟨hi,hce,he⟩:=hcell j _ (List.getElem?_eq_getElem (by rw[hfl];exact hj));have:=hc _ _ _ hce
   rwa [he] at this
  ·obtain⟨hi,hce,he⟩:=hcell j d hd;rcases hs _ _ _ hce with⟨es',rfl⟩|hsd
   ·obtain⟨k1,k2⟩:=hk _ _ _ hce;exact ih _ _ _ hce k2 fun b' c' t' U8 ho hb'=>hσ b' c' t' U8 (.kid k1 ho) hb'
   ·exact UU hsd
def UE(k:Key)(rs:List (List (List D))):C->C
 | .xp k' r []=>if k'=k then(match rs[r]? with|some es=>.d (.sl es)|none=>.any) else .any
 | .d x=>.d x
 |_=>.any
def ajW(k:Key)(rs:List (List (List D))):V->V
 | .c x=>.c (UE k rs x)
 | .agg cs=>.agg (cs.map (UE k rs))
 |_=>.any
open Classical in
theorem dz.lend{f:FuncId}{args:List V}{k:Key}{rs:List (List (List D))}{r:V}(hk:bF S k=some (.xf rs))(hr:anf r)(h:aH P f (args.map (ajW k rs)) r):dz P f args S (fun r' S'=>r'=r/\S'=S):=by
 refine⟨(h S).1,fun w σ β vs hS hargs=> ?_⟩;obtain⟨hh,hb,Cm⟩:=hS.obj k _ hk;obtain⟨hX1,hX2,U6,hX4⟩:=Cm
 let SA:Nat->Nat:=fun b=>match w.heap[b]? with
  |some (.cells c _ _)=>c.size
  |_=>0
 have anh:∀b c t fz,w.heap[b]? =some (.cells c t fz)->SA b=c.size:=fun b c t fz e=>by simp[SA,e]
 have hXlt:∀b,qP hh b->b<w.heap.size:=fun b hb'=>Dz (o:=.xf rs) (S:=S) (β:=β) ⟨hX1,hX2,U6,hX4⟩ hb'
 let σ1:Nat->Nat:=fun b=>if qP hh b then SA b else σ b
 have hn1:eH w σ w σ1:=fun b c t fz e=>by
  refine⟨?_,fun hlt=> ?_,c,e,rfl,fun _ _=>rfl⟩
  ·show σ b<=if qP hh b then SA b else σ b
   split
   ·rename_i hx;rw[U6 b hx];exact Nat.zero_le _
   ·exact Nat.le_refl _
  ·show(if qP hh b then SA b else σ b)=σ b;rw[if_neg fun hx=>by have:=U6 b hx;omega]
 have hS1:fE w σ1 [] []:=by
  refine Po (fun b=> ?_) (hS.uz.near hn1);by_cases hx:qP hh b
  ·exact .inl (hXlt b hx)
  ·rcases hS.live b with h'|h'
   ·exact .inl h'
   ·right;show(if qP hh b then SA b else σ b)=0;rw[if_neg hx];exact h'
 have hlc:∀c v,jD w σ S β c v->jD w σ1 [] [] (UE k rs c) v:=by
  intro c v hc;unfold UE;split
  ·rename_i k' r';split
   ·rename_i e;subst e;split
    ·rename_i es hes;obtain⟨o,ho,h2⟩:=hc;rw[hk] at ho;cases ho;obtain⟨h',e1,e2⟩:=h2 rs rfl;rw[hb] at e1;cases e1;obtain⟨T,q1,q2⟩:=hX1 r' es hes;unfold GN at e2;rw[q1] at e2;refine q2.data e2 fun b c t fz ho hb'=> ?_
     show c.size<=if qP hh b then SA b else σ b
     rw[if_pos ⟨r',T,q1,ho⟩,anh b c t fz hb'];exact Nat.le_refl _
    ·trivial
   ·trivial
  ·exact dI.mono hn1 hc
  ·trivial
 have ani:qg w σ1 [] [] (args.map (ajW k rs)) vs:=by
  refine⟨by rw[List.length_map];exact hargs.1,fun j x hx=> ?_⟩;rw[List.getElem?_map] at hx
  cases ha:args[j]? with
  |none=>rw[ha] at hx;cases hx
  |some y=>
   rw[ha] at hx;cases hx;obtain⟨v,h1,h2⟩:=hargs.2 j y ha;refine⟨v,h1,?_⟩
   cases y with
   |c x=>exact⟨hlc x v h2.1,h2.2⟩
   |agg cs=>
    obtain⟨a,e,hl,hc⟩:=h2;refine⟨a,e,by rw[List.length_map];exact hl,fun i x hx=> ?_⟩;rw[List.getElem?_map] at hx
    cases hi:cs[i]? with
    |none=>rw[hi] at hx;cases hx
    |some y=>
     rw[hi] at hx;cases hx;obtain⟨u,q1,q2,q3⟩:=hc i y hi;exact⟨u,q1,hlc y u q2,q3⟩
   |_=>trivial
 refine((h []).2 w σ1 [] vs hS1 ani).mono fun e w' ⟨v,r',S',σ',β',he,hS',hk',hst,hv,hr',hS2⟩=> ?_;subst hr';subst hS2
 let σ2:Nat->Nat:=fun b=>if qP hh b then 0 else σ' b
 have hg:Grow w σ w' σ2:=⟨hst.size,hst.os,hst.output,fun b hlt=>by
  obtain⟨h1,h2⟩:=hst.far b hlt Lh;refine⟨h1,?_⟩;show(if qP hh b then 0 else σ' b)=σ b;by_cases hx:qP hh b
  ·rw[if_pos hx,U6 b hx]
  ·rw[if_neg hx,h2]
   exact if_neg hx,fun b=>by
  rcases hS'.live b with h'|h'
  ·exact .inl h'
  ·right;show(if qP hh b then 0 else σ' b)=0;rw[h'];split<;>rfl⟩
 refine⟨v,_,_,σ2,β,he,hS.grow hg,Keep.refl _ _,Step.oN hg,?_,rfl,rfl⟩;refine hr w' σ' σ2 _ _ _ _ v (fun b c t fz e hlt=> ?_) hv;by_cases hx:qP hh b
 ·obtain⟨h1,h2⟩:=hst.far b (hXlt b hx) Lh;rw[h1] at e;have:σ1 b=SA b:=if_pos hx;rw[h2,this,anh b c t fz e] at hlt;omega
 ·exact if_neg hx
end
section
variable {P:Program} {w w':World} {σ σ':Nat->Nat} {S:Store} {β:Hs}
theorem WQ:∀{p:List (Nat×Nat)}{es old new:List (List D)},xP es p=some old->xP (tO es p new) p=some new
 |[],_,_,_,_=>rfl
 |(i,o)::p,es,old,new,h=>by
  rw[xP] at h;rw[tO]
  cases hc:cellAt es i o with
  |none=>rw[hc] at h;cases h
  |some d=>
   rw[hc] at h
   cases d with
   |sl es'=>
    simp only at h ⊢
    have hi:i<es.length/\o<(es.getD i []).length:=by
     unfold cellAt at hc
     cases he:es[i]? with
     |none=>rw[he] at hc;cases hc
     |some r=>
      rw[he] at hc;refine⟨(List.getElem?_eq_some_iff.1 he).1,?_⟩;rw[List.getD_eq_getElem?_getD,he];exact(List.getElem?_eq_some_iff.1 hc).1
    have h2:cellAt (es.set i ((es.getD i []).set o (.sl (tO es' p new)))) i o=some (.sl (tO es' p new)):=by
     unfold cellAt;rw[List.getElem?_set_self hi.1,Option.bind_some,List.getElem?_set_self hi.2]
    rw[xP,h2];exact WQ h
   |_=>cases h
theorem AB{es es' new:List (List D)}{i o:Nat}{p:List (Nat×Nat)}(h:cellAt es i o=some (.sl es')):tO es ((i,o)::p) new=es.set i ((es.getD i []).set o (.sl (tO es' p new))):=by
 rw[tO,h]
theorem SB:∀{p:List (Nat×Nat)}{es old a b:List (List D)},xP es p=some old->tO (tO es p a) p b=tO es p b
 |[],_,_,_,_,_=>rfl
 |(i,o)::p,es,old,a,b,h=>by
  rw[xP] at h
  cases hc:cellAt es i o with
  |none=>rw[hc] at h;cases h
  |some d=>
   rw[hc] at h
   cases d with
   |sl es'=>
    simp only at h ⊢
    have hi:i<es.length/\o<(es.getD i []).length:=by
     unfold cellAt at hc
     cases he:es[i]? with
     |none=>rw[he] at hc;cases hc
     |some r=>
      rw[he] at hc;refine⟨(List.getElem?_eq_some_iff.1 he).1,?_⟩;rw[List.getD_eq_getElem?_getD,he];exact(List.getElem?_eq_some_iff.1 hc).1
    have h2:cellAt (es.set i ((es.getD i []).set o (.sl (tO es' p a)))) i o=some (.sl (tO es' p a)):=by
     unfold cellAt;rw[List.getElem?_set_self hi.1,Option.bind_some,List.getElem?_set_self hi.2]
    rw[AB hc,AB hc,AB h2,SB h,List.set_set];congr 1;rw[List.getD_eq_getElem?_getD,List.getElem?_set_self hi.1,Option.getD_some,List.set_set]
   |_=>cases h
theorem WR:∀{p:List (Nat×Nat)}{es old es':List (List D)}{i o:Nat},xP es p=some old->cellAt old i o=some (.sl es')->xP es (p++[(i,o)])=some es'
 |[],es,old,es',i,o,h,hc=>by cases h;rw[List.nil_append,xP,hc];rfl
 |(i',o')::p,es,old,es',i,o,h,hc=>by
  rw[List.cons_append,xP];rw[xP] at h
  cases hd:cellAt es i' o' with
  |none=>rw[hd] at h;cases h
  |some d=>
   rw[hd] at h
   cases d with
   |sl e=>exact WR h hc
   |_=>cases h
theorem SC:∀{p:List (Nat×Nat)}{es old es' new:List (List D)}{i o:Nat},xP es p=some old->cellAt old i o=some (.sl es')->tO es (p++[(i,o)]) new=tO es p (old.set i ((old.getD i []).set o (.sl new)))
 |[],es,old,es',new,i,o,h,hc=>by cases h;rw[List.nil_append,AB hc];rfl
 |(i',o')::p,es,old,es',new,i,o,h,hc=>by
  rw[List.cons_append];rw[xP] at h
  cases hd:cellAt es i' o' with
  |none=>rw[hd] at h;cases h
  |some d=>
   rw[hd] at h
   cases d with
   |sl e=>simp only at h;rw[AB hd,AB hd,SC h hc]
   |_=>cases h
theorem Kl{rs:List (List (List D))}{r:Nat}{p:List (Nat×Nat)}{old:List (List D)}(h:atR rs r p=some old):∃hr:r<rs.length,xP rs[r] p=some old:=by
 unfold atR at h
 cases hr:rs[r]? with
 |none=>rw[hr] at h;cases h
 |some es=>
  rw[hr] at h;obtain⟨h1,h2⟩:=List.getElem?_eq_some_iff.1 hr;exact⟨h1,by rw[h2];exact h⟩
theorem M7{rs:List (List (List D))}{r:Nat}{p:List (Nat×Nat)}{old new:List (List D)}(h:atR rs r p=some old):atR (jK rs r p new) r p=some new:=by
 obtain⟨hr,h⟩:=Kl h;unfold atR jK;rw[List.getElem?_set_self hr,Option.bind_some,List.getD_eq_getElem?_getD,List.getElem?_eq_getElem hr,Option.getD_some];exact WQ h
theorem SE{rs:List (List (List D))}{r:Nat}{p:List (Nat×Nat)}{old a b:List (List D)}(h:atR rs r p=some old):jK (jK rs r p a) r p b=jK rs r p b:=by
 obtain⟨hr,h⟩:=Kl h;unfold jK;rw[List.set_set,List.getD_eq_getElem?_getD,List.getElem?_set_self hr,List.getD_eq_getElem?_getD,List.getElem?_eq_getElem hr,Option.getD_some,Option.getD_some,SB h]
theorem SF:∀{p:List (Nat×Nat)}{es old:List (List D)},xP es p=some old->tO es p old=es
 |[],_,_,h=>by cases h;rfl
 |(i,o)::p,es,old,h=>by
  rw[xP] at h
  cases hc:cellAt es i o with
  |none=>rw[hc] at h;cases h
  |some d=>
   rw[hc] at h
   cases d with
   |sl es'=>
    simp only at h;rw[AB hc,SF h];unfold cellAt at hc
    cases he:es[i]? with
    |none=>rw[he] at hc;cases hc
    |some r=>
     rw[he] at hc;obtain⟨h1,h2⟩:=List.getElem?_eq_some_iff.1 he;obtain⟨h3,h4⟩:=List.getElem?_eq_some_iff.1 hc;rw[List.getD_eq_getElem?_getD,he,Option.getD_some,<-h4,List.set_getElem_self,<-h2,List.set_getElem_self]
   |_=>cases h
theorem afa{rs:List (List (List D))}{r:Nat}{p:List (Nat×Nat)}{old:List (List D)}(h:atR rs r p=some old):jK rs r p old=rs:=by
 obtain⟨hr,h⟩:=Kl h;unfold jK;rw[List.getD_eq_getElem?_getD,List.getElem?_eq_getElem hr,Option.getD_some,SF h,List.set_getElem_self]
theorem fF{rs:List (List (List D))}{r i o:Nat}{p:List (Nat×Nat)}{old es':List (List D)}(h:atR rs r p=some old)(hc:cellAt old i o=some (.sl es')):atR rs r (p++[(i,o)])=some es':=by
 obtain⟨hr,h⟩:=Kl h;unfold atR;rw[List.getElem?_eq_getElem hr,Option.bind_some];exact WR h hc
theorem afb{rs:List (List (List D))}{r i o:Nat}{p:List (Nat×Nat)}{old es' new:List (List D)}(h:atR rs r p=some old)(hc:cellAt old i o=some (.sl es')):
 jK rs r (p++[(i,o)]) new=jK rs r p (old.set i ((old.getD i []).set o (.sl new))):=by
 obtain⟨hr,h⟩:=Kl h;unfold jK;rw[List.getD_eq_getElem?_getD,List.getElem?_eq_getElem hr,Option.getD_some,SC h hc]
theorem yx{rs:List (List (List D))}{r r':Nat}{p p':List (Nat×Nat)}{new:List (List D)}(h:r≠r'):atR (jK rs r p new) r' p'=atR rs r' p':=by
 unfold atR jK;rw[List.getElem?_set_ne h]
end
section
variable {P:Program} {w w':World} {σ σ':Nat->Nat} {S:Store} {β:Hs}
end
section
variable {P:Program} {w w':World} {σ σ':Nat->Nat} {β:Hs}
theorem alc{own:List Obj}{Ω:Store}(lab:Option Nat)(j i aX:Nat)(es:List (List D))(cs:List C)(hj:own[j]? =some (.box cs))(hi:cs[i]? =some (match lab with|some n=>.lU n es|none=>.bG es))(hes:∀e∈es,e.length=aX)(hS:fE w σ (own::Ω) β):
 ∃β',fE w σ ((own.set j (.box (cs.set i (.bN (0,own.length) es)))++[jL lab aX es])::Ω) β'/\Step (own::Ω) β σ w ((own.set j (.box (cs.set i (.bN (0,own.length) es)))++[jL lab aX es])::Ω) β' σ w/\Keep (own::Ω) β ((own.set j (.box (cs.set i (.bN (0,own.length) es)))++[jL lab aX es])::Ω) β':=by
 cases β with
 |nil=>have:=hS.shape.1;simp at this
 |cons bo bΩ=>
 have hlen:bo.length=own.length:=by
  obtain⟨gr,g1,g2⟩:=hS.shape.2 0 own rfl;simp at g1;rw[g1];exact g2
 have hjl:=(List.getElem?_eq_some_iff.1 hj).1
 have hg0:bF (own::Ω) (0,j)=some (.box cs):=by rw[bV];exact hj
 obtain⟨hb,LY,hr⟩:=hS.obj (0,j) _ hg0;obtain⟨b,cv,ty,rfl,hbc,hσ,hcs⟩:=hr;have hcs:gN w σ (own::Ω) (bo::bΩ) cs cv.toList:=hcs;obtain⟨v,hv,hc0,hone⟩:=hcs.2 i _ hi
 have hx:∃ad:Option Addr,dI w σ (.sl es) v/\v=.slice ad es.length es.length/\∀n,lab=some n->dI w σ (.ol n es) v:=by
  cases lab with
  |none=>
   obtain⟨hd,ad,n,hval⟩:=hc0
   have hn:n=es.length:=by rw[hval] at hd;cases hd<;>rfl
   exact⟨ad,hd,by rw[hval,hn],fun n e=>by cases e⟩
  |some n=>
   obtain⟨hd,ad,m,hval⟩:=hc0
   have hn:m=es.length:=by
    have:=uD hd;rw[hval] at this;cases this<;>rfl
   exact⟨ad,uD hd,by rw[hval,hn],fun n' e=>by cases e;exact hd⟩
 obtain⟨ad,hd,hval,hol⟩:=hx;have hg:Grow w σ w σ:=Grow.refl hS.live
 obtain⟨hS',hk,hst⟩:=hS.push (o:=jL lab aX es) (h:=v) hg hlen (by
  cases lab with
  |none=>exact⟨hd,hes,ad,es.length,hval,Nat.le_refl _,.inl rfl⟩
  |some n=>exact⟨hd,hes,ad,es.length,hval,Nat.le_refl _,.inl ⟨rfl,hol n rfl⟩⟩) (fun b hb=>by
  rw[hval] at hb
  cases lab<;>cases ad<;>simp[jL,owns,blk] at hb)
 have hk1:bF ((own++[jL lab aX es])::Ω) (0,j)=some (.box cs):=kQ _ _ _ _ _ hg0;have IV:bF ((bo++[v])::bΩ) (0,j)=some (.pointer (some ⟨b,0,none⟩)):=kQ _ _ _ _ _ LY;have hko:nU (.box cs) (some (Value.pointer (some ⟨b,0,none⟩))) (.box (cs.set i (.bN (0,own.length) es))) (some (Value.pointer (some ⟨b,0,none⟩))):=.inr ⟨⟨_,rfl⟩,rfl⟩
 have hK:Keep ((own++[jL lab aX es])::Ω) ((bo++[v])::bΩ) (bR ((own++[jL lab aX es])::Ω) (0,j) (.box (cs.set i (.bN (0,own.length) es)))) (bR ((bo++[v])::bΩ) (0,j) (.pointer (some ⟨b,0,none⟩))):=by
  intro k1 o1 e1;by_cases e:k1=(0,j)
  ·subst e;rw[hk1] at e1;cases e1;exact⟨_,eY _ _ _ _ hk1,by rw[IV,eY _ _ _ _ IV];exact hko⟩
  ·exact⟨o1,(fK _ _ _ _ (Ne.symm e)).trans e1,by rw[fK _ _ _ _ (Ne.symm e)];exact .refl _ _⟩
 have hne:(0,own.length)≠(0,j):=fun e=>by injection e with _ e;omega
 obtain⟨hS2,hk2,xU⟩:=hS'.set (w':=w) (σ':=σ) (o':=.box (cs.set i (.bN (0,own.length) es))) (h':=.pointer (some ⟨b,0,none⟩)) hk1 IV (Nat.le_refl _) rfl rfl (eH.refl _ _) hS'.live (fun _ _ _=>⟨rfl,rfl⟩) hko
  ⟨b,cv,ty,rfl,hbc,hσ,by
    refine⟨by rw[List.length_set];exact hcs.1,fun m x hm=> ?_⟩;rw[List.getElem?_set] at hm;by_cases e:i=m
    ·subst e;rw[if_pos rfl] at hm;split at hm
     ·cases hm;refine⟨v,hv,⟨hd,jL lab aX es,?_,fun a1 b1 e1=> ?_⟩,hone⟩
      ·show bF (bR _ (0,j) _) (0,own.length)=_;rw[fK _ _ _ _ (Ne.symm hne),cZ]
      ·obtain⟨_,rfl⟩:=pR e1;refine⟨Nat.le_refl _,fun _=> ?_⟩;show bF (bR _ (0,j) _) (0,own.length)=_;rw[fK _ _ _ _ (Ne.symm hne),<-hlen,cZ]
     ·cases hm
    ·rw[if_neg e] at hm;obtain⟨u,hu,hc,ho⟩:=hcs.2 m x hm
     exact⟨u,hu,(hc.mono (eH.refl _ _) hk).mono (eH.refl _ _) hK,ho⟩⟩ (fun _ e=>.inl e)
 have est:bR ((own++[jL lab aX es])::Ω) (0,j) (.box (cs.set i (.bN (0,own.length) es)))=(own.set j (.box (cs.set i (.bN (0,own.length) es)))++[jL lab aX es])::Ω:=by
  rw[bR,List.set_append_left _ _ hjl]
 rw[est] at hS2 hk2 xU;exact⟨_,hS2,hst.trans xU,hk.trans hk2⟩
end
section
variable {P:Program} {w w':World} {σ σ':Nat->Nat} {β:Hs} {N:Nat}
def pO(x y:C):Prop:=∀w σ S β v,jD w σ S β x v->jD w σ S β y v
theorem pO.refl(x:C):pO x x:=fun _ _ _ _ _ h=>h
theorem Km(n:Nat):pO (.bG []) (.lU n []):=fun w σ S β v h=>by
 obtain⟨hd,a,m,hv⟩:=h
 have hm:m=0:=by rw[hv] at hd;cases hd<;>rfl
 subst hm;exact⟨by rw[hv];exact .vZ _ _ _,a,0,hv⟩
theorem dV(n:Nat):pO (.bG []) (.d (.ol n [])):=fun w σ S β v h=>(Km n w σ S β v h).1
theorem fB(es:List (List D)):pO (.bG es) (.d (.sl es)):=fun w σ S β v h=>h.1
theorem Gp(n:Nat)(es:List (List D)):pO (.d (.ol n es)) (.d (.sl es)):=fun w σ S β v h=>uD h
inductive fG:List C->List C->Prop
 |nil:fG [] []
 |cons {x y:C} {xs ys:List C}:pO x y->fG xs ys->fG (x::xs) (y::ys)
theorem fG.refl:∀xs,fG xs xs
 |[]=>.nil
 |x::xs=>.cons (.refl x) (fG.refl xs)
theorem fG.length:∀{xs ys:List C},fG xs ys->xs.length=ys.length
 |_,_,.nil=>rfl
 |_,_,.cons _ h=>by rw[List.length_cons,List.length_cons,fG.length h]
theorem fG.at:∀{xs ys:List C},fG xs ys->∀(j:Nat)(x y:C),xs[j]? =some x->ys[j]? =some y->pO x y
 |_,_,.nil,j,x,y,h,_=>by simp at h
 |_,_,.cons a h,0,x,y,h1,h2=>by simp at h1 h2;subst h1;subst h2;exact a
 |_,_,.cons a h,j+1,x,y,h1,h2=>fG.at h j x y (by simpa using h1) (by simpa using h2)
theorem fG.less{xs ys:List C}(h:fG xs ys):Less (.agg xs) (.agg ys):=by
 rintro w σ S β v ⟨a,ha,hc⟩;refine⟨a,ha,h.length.symm.trans hc.1,fun j y hy=> ?_⟩
 have hj:j<xs.length:=by rw[h.length];exact(List.getElem?_eq_some_iff.1 hy).1
 obtain⟨v,h1,h2,h3⟩:=hc.2 j _ (List.getElem?_eq_getElem hj);exact⟨v,h1,h.at j _ y (List.getElem?_eq_getElem hj) hy w σ S β v h2,h3⟩
theorem fG.anj{xs ys:List C}(h:fG xs ys){w:World}{σ:Nat->Nat}{S:Store}{β:Hs}{vs:List Value}(hc:gN w σ S β xs vs):gN w σ S β ys vs:=by
 refine⟨h.length.symm.trans hc.1,fun j y hy=> ?_⟩
 have hj:j<xs.length:=by rw[h.length];exact(List.getElem?_eq_some_iff.1 hy).1
 obtain⟨v,h1,h2,h3⟩:=hc.2 j _ (List.getElem?_eq_getElem hj);exact⟨v,h1,h.at j _ y (List.getElem?_eq_getElem hj) hy w σ S β v h2,h3⟩
theorem aiu{own:List Obj}{Ω:Store}(j:Nat)(cs cs':List C)(hj:own[j]? =some (.box cs))(hle:fG cs cs')(hS:fE w σ (own::Ω) β):
 ∃β',fE w σ ((own.set j (.box cs'))::Ω) β'/\Step (own::Ω) β σ w ((own.set j (.box cs'))::Ω) β' σ w/\Keep (own::Ω) β ((own.set j (.box cs'))::Ω) β'/\iy β'=iy β/\β'.length=β.length:=by
 cases β with
 |nil=>have:=hS.shape.1;simp at this
 |cons bo bΩ=>
 have hg0:bF (own::Ω) (0,j)=some (.box cs):=by rw[bV];exact hj
 obtain⟨hb,LY,hr⟩:=hS.obj (0,j) _ hg0;obtain⟨b,cv,ty,rfl,hbc,hσ,hcs⟩:=hr;have hcs:gN w σ (own::Ω) (bo::bΩ) cs cv.toList:=hcs;have hko:nU (.box cs) (some (Value.pointer (some ⟨b,0,none⟩))) (.box cs') (some (Value.pointer (some ⟨b,0,none⟩))):=.inr ⟨⟨_,rfl⟩,rfl⟩
 have hK:Keep (own::Ω) (bo::bΩ) (bR (own::Ω) (0,j) (.box cs')) (bR (bo::bΩ) (0,j) (.pointer (some ⟨b,0,none⟩))):=by
  intro k1 o1 e1;by_cases e:k1=(0,j)
  ·subst e;rw[hg0] at e1;cases e1;exact⟨_,eY _ _ _ _ hg0,by rw[LY,eY _ _ _ _ LY];exact hko⟩
  ·exact⟨o1,(fK _ _ _ _ (Ne.symm e)).trans e1,by rw[fK _ _ _ _ (Ne.symm e)];exact .refl _ _⟩
 obtain⟨hS2,hk2,xU⟩:=hS.set (w':=w) (σ':=σ) (o':=.box cs') (h':=.pointer (some ⟨b,0,none⟩)) hg0 LY (Nat.le_refl _) rfl rfl (eH.refl _ _) hS.live (fun _ _ _=>⟨rfl,rfl⟩) hko
  ⟨b,cv,ty,rfl,hbc,hσ,by
    have h1:=hle.anj hcs;refine⟨h1.1,fun m x hm=> ?_⟩;obtain⟨u,hu,hc,ho⟩:=h1.2 m x hm
    exact⟨u,hu,hc.mono (eH.refl _ _) hK,ho⟩⟩ (fun _ e=>.inl e)
 have est:bR (own::Ω) (0,j) (.box cs')=(own.set j (.box cs'))::Ω:=rfl;rw[est] at hS2 hk2 xU;exact⟨_,hS2,xU,hk2,rfl,by simp[bR]⟩
theorem TT{tm:List (Nat×V)}{own:List Obj}{Ω:Store}(j:Nat)(cs cs':List C)(hj:own[j]? =some (.box cs))(hle:fG cs cs'):iD N ⟨tm,own::Ω⟩ ⟨tm,(own.set j (.box cs'))::Ω⟩:=by
 intro a w σ β hR;obtain⟨β',hS,hst,hk,ht,_⟩:=aiu j cs cs' hj hle hR.S;refine⟨σ,β',⟨hR.size,hR.defers,hS,fun u=>(hR.T u).mono (eH.refl _ _) hk⟩,hst,?_⟩;rw[ht];exact Keep.refl _ _
theorem Kn{tm:List (Nat×V)}{own:List Obj}{Ω:Store}(lab:Option Nat)(j i aX:Nat)(es:List (List D))(cs:List C)(hj:own[j]? =some (.box cs))(hi:cs[i]? =some (match lab with|some n=>.lU n es|none=>.bG es))(hes:∀e∈es,e.length=aX):
 iD N ⟨tm,own::Ω⟩ ⟨tm,(own.set j (.box (cs.set i (.bN (0,own.length) es)))++[jL lab aX es])::Ω⟩:=by
 intro a w σ β hR;obtain⟨β',hS,hst,hk⟩:=alc lab j i aX es cs hj hi hes hR.S;refine⟨σ,β',⟨hR.size,hR.defers,hS,fun u=>(hR.T u).mono (eH.refl _ _) hk⟩,hst,?_⟩;intro k o hko
 obtain⟨o',h1,h2⟩:=hk (k.1+1,k.2) o (by
  obtain⟨l,i⟩:=k;show bF (own::Ω) (l+1,i)=_
  rw[dw];exact hko)
 obtain⟨bo,bΩ,rfl,_⟩:=frames hR;have h3:=hS.shape.1
 cases β' with
 |nil=>simp at h3
 |cons bo' bΩ'=>
  rw[dw] at h1;rw[dw,dw] at h2;exact⟨o',h1,h2⟩
theorem Ii{c:Code}{Q:Exit->St->Prop}{tm:List (Nat×V)}{own:List Obj}{Ω:Store}(j:Nat)(cs cs':List C)(hj:own[j]? =some (.box cs))(hle:fG cs cs')(h:AW P N c Q ⟨tm,(own.set j (.box cs'))::Ω⟩):AW P N c Q ⟨tm,own::Ω⟩:=ow h (TT j cs cs' hj hle)
theorem EW{x y:C}(hle:pO x y):∀(i:Nat)(cs:List C),cs[i]? =some x->fG cs (cs.set i y)
 |0,[],h=>by simp at h
 |0,z::cs,h=>by simp at h;subst h;exact .cons hle (.refl cs)
 |i+1,[],h=>by simp at h
 |i+1,z::cs,h=>.cons (.refl z) (EW hle i cs (by simpa using h))
theorem qo{c:Code}{Q:Exit->St->Prop}{tm:List (Nat×V)}{own:List Obj}{Ω:Store}(n j i aX:Nat)(cs:List C)(hj:own[j]? =some (.box cs))(hi:cs[i]? =some (.bG []))
 (h:AW P N c Q ⟨tm,(own.set j (.box (cs.set i (.bN (0,own.length) [])))++[.fu n aX []])::Ω⟩):AW P N c Q ⟨tm,own::Ω⟩:=by
 have hjl:=(List.getElem?_eq_some_iff.1 hj).1;have hil:=(List.getElem?_eq_some_iff.1 hi).1;refine Ii j cs (cs.set i (.lU n [])) hj (EW (Km n) i cs hi) ?_;refine ow ?_ (Kn (some n) j i aX [] (cs.set i (.lU n [])) (by rw[List.getElem?_set_self hjl]) (by rw[List.getElem?_set_self hil]) (by simp));rw[List.set_set,List.set_set,List.length_set];exact h
theorem qK{c:Code}{Q:Exit->St->Prop}{tm:List (Nat×V)}{own:List Obj}{Ω:Store}(j i aX:Nat)(cs:List C)(hj:own[j]? =some (.box cs))(hi:cs[i]? =some (.bG []))
 (h:AW P N c Q ⟨tm,(own.set j (.box (cs.set i (.bN (0,own.length) [])))++[.tok aX []])::Ω⟩):AW P N c Q ⟨tm,own::Ω⟩:=
 ow h (Kn none j i aX [] cs hj hi (by simp))
def Ko(x y:D):Prop:=∀w σ v,dI w σ x v->dI w σ y v
theorem Ko.refl(x:D):Ko x x:=fun _ _ _ h=>h
theorem Z6(d:D)(n:Nat):Ko (og d n) d:=fun w σ v h=>aij d n v h
inductive nV:List D->List D->Prop
 |nil:nV [] []
 |cons {x y:D} {xs ys:List D}:Ko x y->nV xs ys->nV (x::xs) (y::ys)
theorem nV.refl:∀r,nV r r
 |[]=>.nil
 |x::xs=>.cons (.refl x) (nV.refl xs)
theorem nV.length:∀{r r':List D},nV r r'->r.length=r'.length
 |_,_,.nil=>rfl
 |_,_,.cons _ h=>by rw[List.length_cons,List.length_cons,h.length]
theorem nV.at:∀{r r':List D},nV r r'->∀(j:Nat)(y:D),r'[j]? =some y->∃x,r[j]? =some x/\Ko x y
 |_,_,.nil,j,y,h=>by simp at h
 |_,_,.cons a h,0,y,h2=>by simp at h2;subst h2;exact⟨_,rfl,a⟩
 |_,_,.cons a h,j+1,y,h2=>h.at j y (by simpa using h2)
theorem SG:∀(r:List D)(n:Nat),nV (eZ r n) r
 |[],n=>.nil
 |d::ds,n=>.cons (Z6 d n) (SG ds _)
theorem nV.append:∀{a a' b b':List D},nV a a'->nV b b'->nV (a++b) (a'++b')
 |_,_,_,_,.nil,h=>h
 |_,_,_,_,.cons x h,k=>.cons x (h.append k)
inductive iN:List (List D)->List (List D)->Prop
 |nil:iN [] []
 |cons {x y:List D} {xs ys:List (List D)}:nV x y->iN xs ys->iN (x::xs) (y::ys)
theorem iN.length:∀{r r':List (List D)},iN r r'->r.length=r'.length
 |_,_,.nil=>rfl
 |_,_,.cons _ h=>by rw[List.length_cons,List.length_cons,h.length]
theorem iN.snoc:∀{a b:List (List D)}{x y:List D},iN a b->nV x y->iN (a++[x]) (b++[y])
 |_,_,_,_,.nil,h=>.cons h .nil
 |_,_,_,_,.cons z h,k=>.cons z (h.snoc k)
theorem iN.rows{z:Nat}:∀{a b:List (List D)},iN a b->(∀r∈b,r.length=z)->∀r∈a,r.length=z
 |_,_,.nil,h,r,hr=>by cases hr
 |_,_,.cons x h,k,r,hr=>by
  rcases List.mem_cons.1 hr with rfl|hr
  ·rw[x.length];exact k _ (by simp)
  ·exact h.rows (fun r hr=>k r (by simp[hr])) r hr
theorem iN.flat:∀{a b:List (List D)},iN a b->nV a.flatten b.flatten
 |_,_,.nil=>.nil
 |_,_,.cons x h=>by rw[List.flatten_cons,List.flatten_cons];exact x.append h.flat
theorem iN.rep{a b:List (List D)}(h:iN a b){w:World}{σ:Nat->Nat}{v:Value}(hr:dI w σ (.sl a) v):dI w σ (.sl b) v:=by
 cases hr with
 |nil ad cap=>
  cases h;exact .nil ad cap
 |sl b0 off cap aX es vals c t fz hcap hlen hb hσ hc hv=>
  have hl:=h.length;rw[hl] at hcap hσ hc ⊢
  have hlb:∀e∈b,e.length=aX:=fun e he=>by
   obtain⟨i,hi,rfl⟩:=List.getElem_of_mem he
   have:∀{a b:List (List D)}(h:iN a b)(i:Nat)(hi:i<b.length)(hi':i<a.length),nV a[i] b[i]:=by
    intro a b h
    induction h with
    |nil=>intro i hi;simp at hi
    |cons x h ih=>intro i hi hi';cases i with
     |zero=>exact x
     |succ i=>exact ih i (by simpa using hi) (by simpa using hi')
   have h1:=this h i hi (by omega);rw[<-h1.length];exact hlen _ (List.getElem_mem _)
  refine .sl b0 off cap aX b vals c t fz hcap hlb hb hσ hc fun j d hd=> ?_;obtain⟨x,hx,hle⟩:=h.flat.at j d hd;exact hle w σ _ (hv j x hx)
theorem qp:∀(r:List (List D))(n:Nat),iN (dZ r n) r
 |[],n=>.nil
 |d::ds,n=>.cons (SG d n) (qp ds _)
inductive iZ:List (Bool×List C)->List (Bool×List C)->Prop
 |nil:iZ [] []
 |cons {b:Bool} {cs cs':List C} {xs ys:List (Bool×List C)}:fG cs cs'->iZ xs ys->iZ ((b,cs)::xs) ((b,cs')::ys)
theorem iZ.refl:∀xs,iZ xs xs
 |[]=>.nil
 |(b,cs)::xs=>.cons (.refl cs) (iZ.refl xs)
theorem iZ.length:∀{xs ys:List (Bool×List C)},iZ xs ys->xs.length=ys.length
 |_,_,.nil=>rfl
 |_,_,.cons _ h=>by rw[List.length_cons,List.length_cons,h.length]
theorem iZ.at:∀{xs ys:List (Bool×List C)},iZ xs ys->∀(j:Nat)(y:Bool×List C),ys[j]? =some y->∃cs,xs[j]? =some (y.1,cs)/\fG cs y.2
 |_,_,.nil,j,y,h=>by simp at h
 |_,_,.cons a h,0,y,h2=>by simp at h2;subst h2;exact⟨_,rfl,a⟩
 |_,_,.cons a h,j+1,y,h2=>h.at j y (by simpa using h2)
theorem iZ.less{xs ys:List (Bool×List C)}(h:iZ xs ys):Less (.dQ xs) (.dQ ys):=by
 rintro w σ S β v ⟨a,ha,hl,hc⟩;refine⟨a,ha,h.length.symm.trans hl,fun j y hy=> ?_⟩;obtain⟨cs,h1,h2⟩:=h.at j y hy;obtain⟨u,hu,hr⟩:=hc j _ h1;refine⟨u,hu,?_⟩;obtain⟨b,cs'⟩:=y
 cases b with
 |true=>
  obtain⟨a',e,hcs⟩:=hr;exact⟨a',e,h2.anj hcs⟩
 |false=>
  obtain⟨x,e,hx,ho⟩:=hr;simp only at e h2;subst e
  cases h2 with
  |cons hxy hn=>
   cases hn;exact⟨_,rfl,hxy w σ S β u hx,ho⟩
theorem aH.of_le{f:FuncId}{args:List V}{t:V}(h:∀S,dz P f args S fun r S'=>Less r t/\S'=S):aH P f args t:=fun S=>
 ⟨(h S).1,fun w σ β vs hS hv=>((h S).2 w σ β vs hS hv).mono fun e w' ⟨v,r,S',σ',β',h1,h2,h3,h4,h5,h6,h7⟩=>⟨v,t,S',σ',β',h1,h2,h3,h4,h6 _ _ _ _ _ h5,rfl,h7⟩⟩
theorem afc{cs cs':List C}{xs:List (Bool×List C)}(h:∀w σ S β vs,gN w σ S β cs vs->gN w σ S β cs' vs):Less (.dQ ((true,cs)::xs)) (.dQ ((true,cs')::xs)):=by
 rintro w σ S β v ⟨a,ha,hl,hc⟩;obtain⟨u,hu,a',rfl,hcs⟩:=hc 0 _ rfl;refine⟨a,ha,hl,fun j y hy=> ?_⟩
 cases j with
 |zero=>
  simp at hy;subst hy;exact⟨_,hu,a',rfl,h _ _ _ _ _ hcs⟩
 |succ j=>exact hc (j+1) y (by simpa using hy)
theorem gL(v:V):Less v v:=fun _ _ _ _ _ h=>h
end
theorem oP(n:Nat):Ko (.sl []) (.ol n []):=fun w σ v h=>by
 cases h with
 |nil a cap=>exact .vZ n a cap
 |sl b off cap aX es vals c t fz hcap hlen hb hσ hc hv=>exact .vZ n _ _
theorem Ko.trans{a b c:D}(h:Ko a b)(k:Ko b c):Ko a c:=fun w σ v x=>k w σ v (h w σ v x)
theorem nV.trans:∀{a b c:List D},nV a b->nV b c->nV a c
 |_,_,_,.nil,.nil=>.nil
 |_,_,_,.cons x h,.cons y k=>.cons (x.trans y) (h.trans k)
theorem iN.trans:∀{a b c:List (List D)},iN a b->iN b c->iN a c
 |_,_,_,.nil,.nil=>.nil
 |_,_,_,.cons x h,.cons y k=>.cons (x.trans y) (h.trans k)
theorem iN.at{a b:List (List D)}(h:iN a b):∀(i:Nat)(hi:i<b.length)(hi':i<a.length),nV a[i] b[i]:=by
 induction h with
 |nil=>intro i hi;simp at hi
 |cons x h ih=>intro i hi hi';cases i with
  |zero=>exact x
  |succ i=>exact ih i (by simpa using hi) (by simpa using hi')
theorem iN.ank{a b:List (List D)}(h:iN a b){n:Nat}{w:World}{σ:Nat->Nat}{v:Value}(hr:dI w σ (.ol n a) v):dI w σ (.ol n b) v:=by
 cases hr with
 |vZ _ ad cap=>
  cases h;exact .vZ n ad cap
 |ol _ b0 off cap aX es vals c t hcap hlen hb hσ hfit hc hv=>
  have hl:=h.length;rw[hl] at hcap hfit hc ⊢
  have hlb:∀e∈b,e.length=aX:=fun e he=>by
   obtain⟨i,hi,rfl⟩:=List.getElem_of_mem he;have h1:=h.at i hi (by omega);rw[<-h1.length];exact hlen _ (List.getElem_mem _)
  refine .ol n b0 off cap aX b vals c t hcap hlb hb hσ hfit hc fun j d hd=> ?_;obtain⟨x,hx,hle⟩:=h.flat.at j d hd;exact hle w σ _ (hv j x hx)
theorem Ij{n:Nat}{a b:List (List D)}(h:iN a b):pO (.d (.ol n a)) (.d (.ol n b)):=fun w σ S β v hr=>h.ank hr
theorem aiv{n:Nat}{a b:List (List D)}(h:iN a b):Less (.c (.d (.ol n a))) (.c (.d (.ol n b))):=fun w σ S β v hr=>⟨h.ank hr.1,hr.2⟩
theorem vV{a b:List (List D)}(h:iN a b):pO (.d (.sl a)) (.d (.sl b)):=fun w σ S β v hr=>h.rep hr
theorem pO.trans{a b c:C}(h:pO a b)(k:pO b c):pO a c:=fun w σ S β v x=>k w σ S β v (h w σ S β v x)
section
variable {P:Program} {N:Nat} {S:Store} {s:St} {tm:List (Nat×V)}
def Li(E:Md)(R:Array Oper)(K:St->Prop)(s:St):Prop:=Uu E R s.tm=true/\K s
@[congr] theorem aoa {E:Md} {R:Array Oper} {K:St->Prop} {s s':St} (h2:s=s'):Li E R K s=Li E R K s':=by rw[h2]
def CJ(P:Program)(N:Nat):Code->(Exit->St->Prop)->St->Prop
 | .seq x y,Q,s=>CJ P N x (lu (CJ P N y Q) Q) s
 | .region _ R true,Q,s=>wB P (BJ R N) R R.toList s (Li (BJ R N) R (Q .normal))
 | .region id R false,Q,s=>CW P N (.region id R false) Q s
 | .cond c x y,Q,s=>CW P N (.cond c x y) Q s
 | .block id c,Q,s=>CW P N (.block id c) Q s
 | .exit id,Q,s=>CW P N (.exit id) Q s
 | .ret,Q,s=>CW P N .ret Q s
 | .skip,Q,s=>CW P N .skip Q s
 | .loop c,Q,s=>CW P N (.loop c) Q s
 |_,_,_=>False
theorem ald{x y:Code}{Q:Exit->St->Prop}:CJ P N (.seq x y) Q s=CJ P N x (lu (CJ P N y Q) Q) s:=by rw[CJ]
theorem aiw{id:Nat}{l:List Oper}{Q:Exit->St->Prop}:CJ P N (.region id ⟨l⟩ true) Q s=wB P (BJ ⟨l⟩ N) ⟨l⟩ l s (Li (BJ ⟨l⟩ N) ⟨l⟩ (Q .normal)):=by rw[CJ]
theorem acv{id:Nat}{l:List Oper}{Q:Exit->St->Prop}:CJ P N (.region id ⟨l⟩ false) Q s=CW P N (.region id ⟨l⟩ false) Q s:=by rw[CJ]
theorem aix{c:Operand}{x y:Code}{Q:Exit->St->Prop}:CJ P N (.cond c x y) Q s=CW P N (.cond c x y) Q s:=by rw[CJ]
theorem ale{Q:Exit->St->Prop}:CJ P N .ret Q s=CW P N .ret Q s:=by rw[CJ]
theorem aiy{Q:Exit->St->Prop}:CJ P N .skip Q s=CW P N .skip Q s:=by rw[CJ]
end
attribute [go_sem ↓] ald aiw acv aix ale aiy
section
variable {P:Program} {N:Nat} {S:Store} {s:St} {tm:List (Nat×V)}
def uh(P:Program)(N:Nat):Code->(Exit->St->Prop)->St->Prop
 | .seq x y,Q,s=>uh P N x (lu (uh P N y Q) Q) s
 | .region _ R true,Q,s=>wB P (BJ R N) R R.toList s (Li (BJ R N) R (Q .normal))
 | .region id R false,Q,s=>CW P N (.region id R false) Q s
 | .cond c x y,Q,s=>Dc (ev s.tm c) (uh P N x Q) (uh P N y Q) s
 | .block id c,Q,s=>uh P N c (zO id Q) s
 | .exit id,Q,s=>CW P N (.exit id) Q s
 | .ret,Q,s=>CW P N .ret Q s
 | .skip,Q,s=>CW P N .skip Q s
 | .loop c,Q,s=>CW P N (.loop c) Q s
 |_,_,_=>False
theorem alf{x y:Code}{Q:Exit->St->Prop}:uh P N (.seq x y) Q s=uh P N x (lu (uh P N y Q) Q) s:=by rw[uh]
theorem aiz{id:Nat}{l:List Oper}{Q:Exit->St->Prop}:uh P N (.region id ⟨l⟩ true) Q s=wB P (BJ ⟨l⟩ N) ⟨l⟩ l s (Li (BJ ⟨l⟩ N) ⟨l⟩ (Q .normal)):=by rw[uh]
theorem acw{id:Nat}{l:List Oper}{Q:Exit->St->Prop}:uh P N (.region id ⟨l⟩ false) Q s=CW P N (.region id ⟨l⟩ false) Q s:=by rw[uh]
theorem aiA{c:Operand}{x y:Code}{Q:Exit->St->Prop}:uh P N (.cond c x y) Q s=Dc (ev s.tm c) (uh P N x Q) (uh P N y Q) s:=by rw[uh]
theorem afd{id:Nat}{c:Code}{Q:Exit->St->Prop}:uh P N (.block id c) Q s=uh P N c (zO id Q) s:=by rw[uh]
theorem aiB{id:Nat}{Q:Exit->St->Prop}:uh P N (.exit id) Q s=CW P N (.exit id) Q s:=by rw[uh]
theorem alg{Q:Exit->St->Prop}:uh P N .ret Q s=CW P N .ret Q s:=by rw[uh]
theorem aiC{Q:Exit->St->Prop}:uh P N .skip Q s=CW P N .skip Q s:=by rw[uh]
theorem aiD{c:Code}{Q:Exit->St->Prop}:uh P N (.loop c) Q s=CW P N (.loop c) Q s:=by rw[uh]
end
attribute [go_sem ↓] alf aiz acw aiA afd aiB alg aiC aiD
def apb(T:List TypeId):Op->Bool
 | .call {callee:=.value _,args:=_,argTypes:=ts}=> !(ts.toList.all fun t=>T.all fun u=> !(t==u))
 |_=>false
def vJ(T:List TypeId)(R:Array Oper):Md:=fun op=>match Bd R 0 op with
 |0=>if apb T op then 3 else 0
 |m=>m
def Gq:V->Option Key
 | .c (.ptr k _)=>some k
 | .c (.oq k _ _)=>some k
 | .c (.mE k)=>some k
 | .c (.mp k)=>some k
 | .c (.xp k _ _)=>some k
 | .c (.xq k _ _ _ _ _)=>some k
 |_=>none
theorem SH{v:V}{k:Key}(h:K5 v k):Gq v=some k:=by
 rcases h with⟨_,rfl⟩|⟨_,_,rfl⟩|rfl|rfl|⟨_,_,rfl⟩|⟨_,_,_,_,_,rfl⟩<;>rfl
def acy:Key->Key->Bool
 |(0,a),(0,b)=>a !=b
 |(0,_),(_+1,_)=>true
 |(_+1,_),(0,_)=>true
 |_,_=>false
theorem aiE{k k':Key}(h:acy k k'=true):k≠k':=by
 rintro rfl;obtain⟨l,j⟩:=k;cases l<;>simp[acy] at h
def acz(v w:V):Bool:=match Gq v,Gq w with
 |some k,some k'=>acy k k'
 |_,_=>true
def UF:Op->List Operand
 | .store _ a _=>[a]
 | .call {callee:=.value _,args:=zN,argTypes:=_}=>zN.toList
 |_=>[]
def Lj(R:Array Oper)(i:Nat)(x:Oper)(j:Nat)(y:Oper):Bool:=kN y.op||(match x.op with
 | .store _ _ _=>true
 | .call {callee:=.value _,args:=_,argTypes:=_}=>true
 |_=>false)&&(UF x.op).all (settled R i)&&y.op.operands.toList.all (settled R j)
def Kq(T:List TypeId)(R:Array Oper)(p i j:Nat)(x y:Oper):Bool:= !(x.apart R y)||(!(decide (j=p))&&((gI (vJ T R) x.op&&gI (vJ T R) y.op)||(nE (vJ T R) x.op&& !(Lj R i x j y))||(nE (vJ T R) y.op&& !(Lj R j y i x))))
def Ej(T:List TypeId)(R:Array Oper)(N p:Nat):Bool:=Jy (vJ T R) R p&&
 (List.range R.size).all fun j=>
   (match R[j]? with
    |some o=>o.after.toList.all (fun e=> !Region.binds .any e||decide (e.on<j))&&(match o.dst with|some d=>decide (d<N)|none=>true)
    |none=>true)&&
   (List.range j).all fun i=>
     match R[i]?,R[j]? with
     |some x,some y=>((masks R.toList []).getD j 0).testBit i|| !(Kq T R p i j x y)
     |_,_=>true
def aq5(T:List TypeId)(R:Array Oper)(N:Nat):Nat:=if Ej T R N R.size then R.size else((List.range R.size).find? fun p=>MK R p&&Ej T R N p).getD R.size
def Z7(T:List TypeId)(R:Array Oper)(N:Nat):Bool:=Ej T R N (aq5 T R N)
def UG(E:Md)(R:Array Oper)(tm:List (Nat×V)):Bool:=
 (List.range R.size).all fun i=>match R[i]? with
   |some x=> !(nE E x.op)||(UF x.op).all fun a=>(List.range R.size).all fun j=>match R[j]? with
     |some y=>uY R i j||gI E y.op||kN y.op||aa6 y.op||y.op.operands.toList.all (fun z=>acz (ev tm a) (ev tm z))
     |none=>true
   |none=>true
def Q0(vs:List V)(S S':Store):Prop:=∀k,(∃v∈vs,K5 v k)\/bF S' k=bF S k
def Ik(T:List TypeId)(R:Array Oper)(op:Op)(tm:List (Nat×V))(S S':Store):Prop:=match op with
 | .call {callee:=.value x,args:=zN,argTypes:=ts}=>vJ T R (.call {callee:=.value x,args:=zN,argTypes:=ts})=3->Q0 (Ga tm zN.toList) S S'
 |_=>True
section
variable {P:Program} {N:Nat} {S:Store} {s:St} {tm:List (Nat×V)} {T:List TypeId} {R:Array Oper}
def Br(P:Program)(T:List TypeId)(R:Array Oper):List Oper->St->(St->Prop)->Prop
 |[],s,K=>K s
 |o::os,s,K=>rY P (vJ T R) R o s fun s'=>Ik T R o.op s.tm s.st s'.st/\Br P T R os s' K
theorem afe{op:Op}(h:2<=vJ T R op):vJ T R op=3\/(List.range R.size).all (fun i=>match R[i]? with
 |some o=>(BI op !=BI o.op)||QA R i
 |none=>true)=true:=by
 unfold vJ at h ⊢;split at h
 ·rename_i e;split at h
  ·rename_i hc;left;rw[if_pos hc]
  ·omega
 ·rename_i m hm;right;unfold Bd at h;split at h
  ·rename_i hq;exact hq
  ·omega
theorem aiF{o:Oper}{i j:Nat}(ho:R[i]? =some o)(hj:j<R.size)(hij:i≠j)(h:(List.range R.size).all (fun i=>match R[i]? with
 |some o'=>(BI o.op !=BI o'.op)||QA R i
 |none=>true)=true):uY R i j=true:=by
 have hi:i<R.size:=(Array.getElem?_eq_some_iff.1 ho).1;have h1:=List.all_eq_true.1 h i (List.mem_range.2 hi);rw[ho] at h1;simp only[bne_self_eq_false,Bool.false_or] at h1;have h2:=List.all_eq_true.1 h1 j (List.mem_range.2 hj);unfold uY;have hne:¬j=i:=fun e=>hij e.symm;simp only[hne,decide_false,Bool.false_or] at h2;by_cases e:i<j
 ·rw[if_pos e];rwa [if_neg (by omega)] at h2
 ·rw[if_neg e];rwa [if_pos (by omega)] at h2
theorem aff{o:Oper}{s s':St}{v:V}(ht:pE P (vJ T R) R o s v s')(hf:Ik T R o.op s.tm s.st s'.st)(hc:kN o.op=true)(hm:vJ T R o.op=3){k:Key}
 (hk:∀a∈UF o.op,∀k',Gq (ev s.tm a)=some k'->k'≠k):bF s'.st k=bF s.st k:=by
 obtain⟨dst,op,ty,pos,after,guard⟩:=o
 cases op with
 |call c=>
  obtain⟨BG,args,ts⟩:=c
  cases BG with
  |value f=>
   rcases hf hm k with⟨v,hv,hr⟩|h
   ·obtain⟨a,ha,rfl⟩:=List.mem_map.1 hv;exact absurd rfl (hk a ha k (SH hr))
   ·exact h
  |_=>cases hc
 |_=>cases hc
theorem acA{v w:V}(h:acz v w=true){k k':Key}(hv:Gq v=some k')(hw:K5 w k):k'≠k:=by
 unfold acz at h;rw[hv,SH hw] at h;exact aiE h
theorem alh{st:Nat->St}{vs:Nat->V}{p:Nat}(hok:Ej T R N p=true)
 (hF:∀i,i<R.size->∃o,R[i]? =some o/\pE P (vJ T R) R o (st i) (vs i) (st (i+1))/\Ik T R o.op (st i).tm (st i).st (st (i+1)).st) (hl:UG (vJ T R) R (st R.size).tm=true):RY (vJ T R) R N st p:=by
 unfold Ej at hok;rw[Bool.and_eq_true] at hok;have Ah:=ZQ hok.1;obtain⟨hed,h2⟩:=Oe (f:=fun i j x y=>Kq T R p i j x y) hok.2
 have hT:∀i,i<R.size->∃o,R[i]? =some o/\pE P (vJ T R) R o (st i) (vs i) (st (i+1)):=fun i hi=>by
  obtain⟨o,a,b,_⟩:=hF i hi;exact⟨o,a,b⟩
 refine⟨?_,?_,?_,?_,Ah⟩
 ·intro i o e ho he hb;have h2:=hed i o ho;simp only[Bool.and_eq_true] at h2;have h3:=List.all_eq_true.1 h2.1 e (by simpa using he);simpa [hb] using h3
 ·intro i o ho d hd;have h2:=hed i o ho;simp only[Bool.and_eq_true,hd] at h2;simpa using h2.2
 ·intro i j x y hij hx hy hc;rcases h2 i j x y hij hx hy with h|h
  ·exact .inl h
  ·unfold Kq at h;unfold pK at hc;rw[Bool.or_eq_false_iff,Bool.not_eq_false'] at h;rw[h.1] at hc;simp only[Bool.not_true,Bool.false_or] at hc;by_cases e:j=p
   ·exact .inr ⟨e,(Bool.and_eq_true _ _▸hc).1,h.1⟩
   ·have h3:=h.2;simp only[e,decide_false,Bool.not_false,Bool.true_and,Bool.or_eq_false_iff] at h3;rw[hc] at h3;cases h3.1.1
 ·intro i j x o hij hx ho hs hD hc
  have hjp:j≠p:=fun e=>by
   subst e;have:=(wM (E:=vJ T R) (Ah o ho).1).1;rw[hD] at this;cases this
  have RZ:i≠p:=fun e=>by
   subst e;have:=(wM (E:=vJ T R) (Ah x hx).1).2.1;rw[hs] at this;cases this
  cases hb:uY R i j with
  |true=>exact .inl rfl
  |false=>
   refine .inr ?_;rintro k ⟨hmv,z,hz,hk⟩;have hi:i<R.size:=(Array.getElem?_eq_some_iff.1 hx).1;have hj:j<R.size:=(Array.getElem?_eq_some_iff.1 ho).1
   have hlo:Lj R i x j o=true:=by
    unfold uY at hb;by_cases e:i<j
    ·rw[if_pos e] at hb;rcases h2 i j x o e hx ho with h|h
     ·rw[hb] at h;cases h
     ·simp only[Kq,hjp,decide_false,Bool.not_false,hs,Bool.true_and,Bool.or_eq_false_iff,Bool.not_eq_false'] at h;exact h.2.1.2
    ·rw[if_neg e] at hb;rcases h2 j i o x (by omega) ho hx with h|h
     ·rw[hb] at h;cases h
     ·simp only[Kq,RZ,decide_false,Bool.not_false,hs,Bool.true_and,Bool.or_eq_false_iff,Bool.not_eq_false'] at h;exact h.2.2
   unfold Lj at hlo;rw[hc,Bool.false_or,Bool.and_eq_true,Bool.and_eq_true] at hlo;obtain⟨⟨hop,hsa⟩,hsy⟩:=hlo
   have hz':z∈o.op.operands.toList:=by simpa using hz
   have hsz:=List.all_eq_true.1 hsy z hz';have h1:=List.all_eq_true.1 hl i (List.mem_range.2 hi);rw[hx] at h1;simp only[hs,Bool.not_true,Bool.false_or] at h1
   have key:∀a∈UF x.op,∀k',Gq (ev (st i).tm a)=some k'->k'≠k:=fun a ha k' hk'=>by
    have h3:=List.all_eq_true.1 h1 a ha;have h4:=List.all_eq_true.1 h3 j (List.mem_range.2 hj);rw[ho] at h4;simp only[hb,hD,hc,hmv,Bool.false_or] at h4;have h5:=List.all_eq_true.1 h4 z hz';rw[Db hT (by omega) (List.all_eq_true.1 hsa a ha),Db hT (by omega) hsz] at h5;exact acA h5 hk' hk
   obtain⟨x',hx',ht,hf⟩:=hF i hi;rw[hx] at hx';cases hx';split at hop
   ·rename_i t a y e;refine L8 e ht fun k' hk'=>key a (by rw[e];exact List.mem_singleton.2 rfl) k' ?_;rcases hk' with⟨_,h⟩|⟨_,_,h⟩|⟨_,_,_,_,_,h⟩<;>rw[h]<;>rfl
   ·rename_i f zN ts e
    have hcv:kN x.op=true:=by rw[e];rfl
    have h2m:2<=vJ T R x.op:=by
     unfold nE at hs
     have hns:Au x.op=false:=by rw[e];rfl
     rw[hns,Bool.false_or,Bool.and_eq_true,decide_eq_true_eq] at hs;exact hs.1
    rcases afe h2m with h3|h3
    ·exact aff ht hf hcv h3 key
    ·rw[aiF hx hj hij h3] at hb;cases hb
   ·cases hop
theorem Y1{id:Nat}{Q:Exit->St->Prop}{s:St}(ig:P.follows .mixedOrders=true)(hok:Z7 T R N=true)(h:Br P T R R.toList s (fun s'=>UG (vJ T R) R s'.tm=true/\Q .normal s')):AW P N (.region id R true) Q s:=by
 obtain⟨st,vs,h0,hK,hT⟩:=JB (F:=fun o s s'=>Ik T R o.op s.tm s.st s'.st) (D:=fun os s=>Br P T R os s (fun s'=>UG (vJ T R) R s'.tm=true/\Q .normal s')) (fun _ h=>h) (fun o os s h=>by
  obtain⟨v,s',a,b⟩:=L6 h
  exact⟨v,s',a,b⟩) R.size 0 (by omega) s h
 have hT':=fun i hi=>hT i (Nat.zero_le i) hi;refine He (vs:=vs) ig h0 hK.2 (fun i hi=> ?_) (alh hok hT' hK.1);obtain⟨o,a,b,_⟩:=hT' i hi;exact⟨o,a,b⟩
def Pq(E:Md)(R:Array Oper)(K:St->Prop)(s:St):Prop:=UG E R s.tm=true/\K s
@[congr] theorem anl {E:Md} {R:Array Oper} {K:St->Prop} {s s':St} (h2:s=s'):Pq E R K s=Pq E R K s':=by rw[h2]
def Gs(P:Program)(T:List TypeId)(R:Array Oper)(os:List Oper)(K:St->Prop)(s:St):Prop:=Br P T R os s K
def Pt(P:Program)(T:List TypeId)(R:Array Oper)(op:Op)(tm:List (Nat×V))(S:Store)(os:List Oper)(K:St->Prop)(s':St):Prop:=Ik T R op tm S s'.st/\Gs P T R os K s'
@[congr] theorem aob {os:List Oper} {s s':St} {K:St->Prop} (h2:s=s'):Br P T R os s K=Br P T R os s' K:=by rw[h2]
@[congr] theorem anm {os:List Oper} {s s':St} {K:St->Prop} (h2:s=s'):Gs P T R os K s=Gs P T R os K s':=by rw[h2]
@[congr] theorem aoc {op:Op} {os:List Oper} {s s':St} {K:St->Prop} (h2:s=s'):Pt P T R op tm S os K s=Pt P T R op tm S os K s':=by rw[h2]
theorem afg{K:St->Prop}:Br P T R [] ⟨tm,S⟩ K=K ⟨tm,S⟩:=rfl
theorem acB{o:Oper}{os:List Oper}{K:St->Prop}:Br P T R (o::os) ⟨tm,S⟩ K=rY P (vJ T R) R o ⟨tm,S⟩ (Pt P T R o.op tm S os K):=rfl
theorem acC{K:St->Prop}:Gs P T R [] K ⟨tm,S⟩=K ⟨tm,S⟩:=rfl
theorem Y2{o:Oper}{os:List Oper}{K:St->Prop}:Gs P T R (o::os) K ⟨tm,S⟩=rY P (vJ T R) R o ⟨tm,S⟩ (Pt P T R o.op tm S os K):=rfl
theorem aiG{op:Op}{os:List Oper}{K:St->Prop}{tm':List (Nat×V)}{S':Store}:Pt P T R op tm S os K ⟨tm',S'⟩=(Ik T R op tm S S'/\Gs P T R os K ⟨tm',S'⟩):=rfl
theorem afh{vs:List V}:Q0 vs S S=True:=by simp[Q0]
theorem aiH{vs:List V}{k:Key}{off:Nat}{x:Obj}:Q0 (.c (.ptr k off)::vs) S (bR S k x)=True:=by
 refine eq_true fun k'=> ?_;by_cases e:k=k'
 ·subst e;exact .inl ⟨_,List.mem_cons_self,.inl ⟨_,rfl⟩⟩
 ·exact .inr (fK _ _ _ _ e)
theorem SI{vs:List V}{l j off:Nat}{fr:List Obj}{x:Obj}:Q0 (.c (.ptr (1+l,j) off)::vs) (fr::S) (fr::bR S (l,j) x)=True:=by
 have:=aiH (S:=fr::S) (vs:=vs) (k:=(1+l,j)) (off:=off) (x:=x)
 rwa [dU] at this
theorem afi{vs:List V}{l j off:Nat}{fr:List Obj}{x y:Obj}:Q0 (.c (.ptr (1+l,j) off)::vs) (fr::bR S (l,j) x) (fr::bR S (l,j) y)=True:=by
 have:=SI (S:=bR S (l,j) x) (vs:=vs) (l:=l) (j:=j) (off:=off) (fr:=fr) (x:=y)
 rwa [bB] at this
theorem ano{p:Prop}:(p->True)=True:=by simp
def rD(P:Program)(N:Nat)(T:List TypeId):Code->(Exit->St->Prop)->St->Prop
 | .seq x y,Q,s=>rD P N T x (lu (rD P N T y Q) Q) s
 | .region _ R true,Q,s=>Br P T R R.toList s (Pq (vJ T R) R (Q .normal))
 | .region id R false,Q,s=>CW P N (.region id R false) Q s
 | .cond c x y,Q,s=>Dc (ev s.tm c) (rD P N T x Q) (rD P N T y Q) s
 | .block id c,Q,s=>rD P N T c (zO id Q) s
 | .exit id,Q,s=>CW P N (.exit id) Q s
 | .ret,Q,s=>CW P N .ret Q s
 | .skip,Q,s=>CW P N .skip Q s
 | .loop c,Q,s=>CW P N (.loop c) Q s
 |_,_,_=>False
def vW(T:List TypeId)(N:Nat):Code->Bool
 | .seq x y=>vW T N x&&vW T N y
 | .region _ R true=>Z7 T R N
 | .cond _ x y=>vW T N x&&vW T N y
 | .block _ c=>vW T N c
 | .loop _=>true
 |c=>codeOk N c
theorem w9(ig:P.follows .mixedOrders=true):∀(c:Code)(Q:Exit->St->Prop)(s:St),vW T N c=true->rD P N T c Q s->AW P N c Q s
 | .seq x y,Q,s,ok,h=>by
   simp only[vW,Bool.and_eq_true] at ok;refine Vi (AW.mono (w9 ig x _ s ok.1 h) fun e s' h'=> ?_)
   cases e with
   |normal=>exact w9 ig y Q s' ok.2 h'
   |_=>exact h'
 | .region _ R true,Q,s,ok,h=>Y1 ig ok h
 | .region id R false,Q,s,ok,h=>lI ig _ Q s ok h
 | .cond c x y,Q,s,ok,h=>by
   simp only[vW,Bool.and_eq_true] at ok;simp only[rD,Dc] at h;split at h
   ·rename_i b hb;exact ZM hb (fun e=>w9 ig x Q s ok.1 (h.1 e)) (fun e=>w9 ig y Q s ok.2 (h.2 e))
   ·exact h.elim
 | .block id c,Q,s,ok,h=>Vk (w9 ig c _ s ok h)
 | .exit id,Q,s,ok,h=>lI ig _ Q s ok h
 | .ret,Q,s,ok,h=>lI ig _ Q s ok h
 | .skip,Q,s,ok,h=>lI ig _ Q s ok h
 | .loop c,Q,s,ok,h=>by
   rw[rD,ZT] at h;exact h
 | .rangeFunc _ _ _ _,Q,s,ok,h=>h.elim
 | .scope _,Q,s,ok,h=>h.elim
 | .label _,Q,s,ok,h=>h.elim
 | .goto _,Q,s,ok,h=>h.elim
 | .refuse _,Q,s,ok,h=>h.elim
theorem ali{x y:Code}{Q:Exit->St->Prop}:rD P N T (.seq x y) Q s=rD P N T x (lu (rD P N T y Q) Q) s:=by rw[rD]
theorem aiI{id:Nat}{l:List Oper}{Q:Exit->St->Prop}:rD P N T (.region id ⟨l⟩ true) Q s=Br P T ⟨l⟩ l s (Pq (vJ T ⟨l⟩) ⟨l⟩ (Q .normal)):=by rw[rD]
theorem acD{id:Nat}{l:List Oper}{Q:Exit->St->Prop}:rD P N T (.region id ⟨l⟩ false) Q s=CW P N (.region id ⟨l⟩ false) Q s:=by rw[rD]
theorem aiJ{c:Operand}{x y:Code}{Q:Exit->St->Prop}:rD P N T (.cond c x y) Q s=Dc (ev s.tm c) (rD P N T x Q) (rD P N T y Q) s:=by rw[rD]
theorem afj{id:Nat}{c:Code}{Q:Exit->St->Prop}:rD P N T (.block id c) Q s=rD P N T c (zO id Q) s:=by rw[rD]
theorem aiK{id:Nat}{Q:Exit->St->Prop}:rD P N T (.exit id) Q s=CW P N (.exit id) Q s:=by rw[rD]
theorem alj{Q:Exit->St->Prop}:rD P N T .ret Q s=CW P N .ret Q s:=by rw[rD]
theorem aiL{Q:Exit->St->Prop}:rD P N T .skip Q s=CW P N .skip Q s:=by rw[rD]
theorem aiM{c:Code}{Q:Exit->St->Prop}:rD P N T (.loop c) Q s=CW P N (.loop c) Q s:=by rw[rD]
theorem WS{ι:Type}{c:Code}{Q:Exit->St->Prop}(T:List TypeId)(ig:P.follows .mixedOrders=true)(hok:vW T N c=true)(ts:List Nat)(f:ι->List V)(g:ι->Store)(p:ι->Prop)(μ:ι->Nat)(i0:ι)
 (h1:ts.map (look s.tm)=f i0) (h2:s.st=g i0) (h3:p i0)
 (round:∀i,p i->rD P N T c (lu (Inv N ts f g p μ i) Q) ⟨jd ts (f i),g i⟩):AW P N (.loop c) Q s:=by
 refine ZN (ι:=ι) (fun i s=>∃s0,iD N s s0/\ts.map (look s0.tm)=f i/\s0.st=g i/\p i) μ i0 ⟨s,iD.refl _ _,h1,h2,h3⟩ fun i s hI=> ?_;obtain⟨s0,hg,h1,h2,h3⟩:=hI;refine ow ?_ hg
 have hr:=(w9 ig c _ _ hok (round i h3)).mono (Q':=lu (fun s'=>∃j,μ j<μ i/\∃s0,iD N s' s0/\ts.map (look s0.tm)=f j/\s0.st=g j/\p j) Q) fun e s' h=>by
  cases e with
  |normal=>
   obtain⟨j,s0,a1,a2,a3,a4,a5⟩:=h;exact⟨j,a1,s0,a2,a3,a4,a5⟩
  |_=>exact h
 obtain⟨tm,st⟩:=s0;simp only at h1 h2;subst h2;rw[<-h1] at hr;exact ajJ hr fun t=>Aw _ ts t
theorem afk(T:List TypeId){f:FuncId}{fn:Func}{c:Code}{args:List V}{post:V->Store->Prop}{rs:List ResultVar}(ig:P.follows .mixedOrders=true)(hf:P.funcs[f]? =some fn)(hN:fn.ntmps=N)
 (hb:fn.body=some c) (hn:(fn.name== "runtime.NumGoroutine")=false) (hr:fn.results.toList=rs) (hl:Nat.ble args.length N=true) (hok:vW T N c=true)
 (h:rD P N T c (abF P rs post) ⟨sJ (args.map (V.up 1)) 0,[]::S⟩):dz P f args S post:=by
 subst hN;subst hr;exact yg hf hb hn (Nat.le_of_ble_eq_true hl) (F9 JE (w9 ig c _ _ hok h))
end
attribute [go_sem ↓] ali aiI acD aiJ afj aiK alj aiL aiM afg acB acC Y2
attribute [go_sem] aiG Ik afh SI afi ano
end Go.Ab