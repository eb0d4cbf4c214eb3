/-
  SEVERAL TEXTS IN ONE (merged by program): contracts and models, each with its own heading.
-/
import Derived.Test.YtcfhnaohbaplhaaGreatDoorPartTgbC
import Derived.Lib.ItoaNum
import Derived.Shelf.LaysM
import Derived.Shelf.Strconv.Itoa3
import Derived.Test.YtcfhnaohbaplhaaGreatDoorProg
import Derived.WalkKit
import Derived.ProofKit
import Derived.Lib.AppendZeros
import Derived.Laws.Cover3
set_option linter.unusedSimpArgs false
set_option linter.unusedVariables false
set_option maxRecDepth 4000
set_option maxRecDepth 100000
namespace Go.Ab
theorem U1(b:UInt8):decide (firstIdx ⟨[39,45,43,42,60,61,46].toArray⟩ b≥0)=decide (b∈([39,45,43,42,60,61,46]:List UInt8)):=by
 have h:∀n:Nat,n<256→decide (firstIdx ⟨[39,45,43,42,60,61,46].toArray⟩ (UInt8.ofNat n)≥0)=decide (UInt8.ofNat n∈([39,45,43,42,60,61,46]:List UInt8)):=by decide +kernel
 have h1:=h b.toNat (UInt8.toNat_lt b)
 rwa [UInt8.ofNat_toNat] at h1
theorem Xw(b:UInt8):b∈([39,45,43,42,60,61,46]:List UInt8)↔(b.toNat=39∨b.toNat=45∨b.toNat=43∨b.toNat=42∨b.toNat=60∨b.toNat=61∨b.toNat=46):=by
 have h:∀n:Nat,n<256→(UInt8.ofNat n∈([39,45,43,42,60,61,46]:List UInt8)↔(n=39∨n=45∨n=43∨n=42∨n=60∨n=61∨n=46)):=by decide +kernel
 have h1:=h b.toNat (UInt8.toNat_lt b)
 rwa [UInt8.ofNat_toNat] at h1
theorem qZ(b:UInt8):jH b=true↔(97≤b.toNat∧b.toNat≤122)∨(48≤b.toNat∧b.toNat≤57)∨b.toNat=39∨b.toNat=45∨b.toNat=43∨b.toNat=42∨b.toNat=60∨b.toNat=61∨b.toNat=46:=by
 unfold jH
 rw[Bool.or_eq_true,Bool.or_eq_true,decide_eq_true_eq,decide_eq_true_eq,decide_eq_true_eq,Xw,or_assoc]
theorem all_false{s:List UInt8}{i:Nat}(hi:i<s.length)(h:jH s[i]=false):s.all jH=false:=by
 rw[List.all_eq_false]
 exact⟨s[i],List.getElem_mem hi,by simp[h]⟩
theorem all_true{s:List UInt8}(h:∀j (hj:j<s.length),jH s[j]=true):s.all jH=true:=by
 rw[List.all_eq_true]
 intro b hb
 obtain⟨j,hj,e⟩:=List.getElem_of_mem hb
 rw[←e];exact h j hj
theorem uX{x:aj}{i:Nat}(hi:i<x.aY.length)(h:x.sz≤67108864):x.aY[i].sz≤67108864∧x.aY.length≤67108864∧x.bS.length≤67108864:=by
 have:=xk (List.getElem_mem hi)
 rw[rE,pU] at h
 omega
theorem yc{x:aj}(h:x.sz≤67108864):x.aY.length≤67108864∧x.bS.length≤67108864:=by
 rw[rE,pU] at h
 omega
theorem OM{l:List aj}{i:Nat}(hi:i<l.length):oP (l.drop i)=(oI l[i]&&oP (l.drop (i+1))):=by rw[List.drop_eq_getElem_cons hi,oP]
theorem Ce{l:List aj}{i:Nat}(hi:i<l.length):ny (l.drop i)=max (kR l[i]) (ny (l.drop (i+1))):=by rw[List.drop_eq_getElem_cons hi,ny]
theorem DV{l:List aj}{i:Nat}(hi:i<l.length):mo (l.drop i)=jZ l[i]+mo (l.drop (i+1)):=by rw[List.drop_eq_getElem_cons hi,mo]
theorem Eo{x:aj}(h:x.sz≤67108864):jZ x≤67108865:=by have:=MS x;omega
theorem aj.C9{x:aj}{i:Nat}(hi:i<x.aY.length):SizeOf.sizeOf x.aY[i]<SizeOf.sizeOf x:=by
 have:=List.sizeOf_lt_of_mem (List.getElem_mem hi)
 have:=aj.Ig x
 omega
end Go.Ab
namespace Go.Proofs.YtcfhnaohbaplhaaGreatDoor
open Go Go.Ab
theorem Gm(l:List UInt8)(b:UInt8):aD Tryz.prog 277 [.c (.d (.s l)),.c (.d (.i .u8 b.toNat))] (.c (.d (.i .i64 (firstIdx ⟨l.toArray⟩ b)))):=fun S=>by
 refine aB (rs:=[.tmp 4]) Tryz.checked.mixed Tryz.func277 Tryz.ntmps277 rfl rfl rfl rfl rfl ?_
 refine W1 ?_
 exact C4 (Cc l b)
theorem Ko(b:UInt8):aD Tryz.prog 193 [.c (.d (.i .u8 b.toNat))] (.c (.d (.b (jH b)))):=fun S=>by
 refine aB (rs:=[.tmp 2]) Tryz.checked.mixed Tryz.func193 Tryz.ntmps193 rfl rfl rfl rfl rfl ?_
 refine W1 ?_
 refine C2 (FQ b) ?_
 refine S0 (fun hb h=>?_) fun hb h=>?_
 ·exact ay ((qZ b).2 (.inl h)).symm
 have h1:=h
 refine C2 (FR b) ?_
 refine S0 (fun hb h=>?_) fun hb h=>?_
 ·exact ay ((qZ b).2 (.inr (.inl h))).symm
 have h2:=h
 refine C2 (Gm [39,45,43,42,60,61,46] b) ?_
 refine ay ?_
 rw[U1]
 unfold jH
 unfold lowerB at h1
 unfold oN at h2
 simp[h1,h2]
theorem RP(s:List UInt8)(hs:s.length≤1073741824):aD Tryz.prog 292 [.c (.d (.s s))] (.c (.d (.b (validAtom s)))):=fun S=>by
 refine aB (rs:=[.tmp 2]) Tryz.checked.mixed Tryz.func292 Tryz.ntmps292 rfl rfl rfl rfl rfl ?_
 refine W1 ?_
 refine aQ (ι:=Nat) Tryz.checked.mixed rfl [0,5,6] (fun i=>[.c (.d (.s s)),.c (.d (.i .i64 s.length)),.c (.d (.i .i64 i))]) (fun _=>[]::S)
  (fun i=>i≤s.length∧∀j,∀hj:j<s.length,j<i→jH s[j]=true) (fun i=>s.length-i) 0 rfl rfl ⟨Nat.zero_le _,fun j _ h=>by omega⟩ ?_
 rintro i ⟨p1,p2⟩
 refine W1 ?_
 refine S0 (fun hb h=>?_) fun hb h=>?_
 ·have hi:i<s.length:=by omega
  have e:s.getD i 0=s[i]:=by simp[List.getD,hi]
  refine W3 ?_
  rw[e]
  refine C2 (Ko s[i]) ?_
  refine S0 (fun hb h=>?_) fun hb h=>?_
  ·exact ay (by unfold validAtom;rw[all_false hi h];rfl)
  ·refine bF (i+1) (by omega) rfl rfl ⟨by omega,fun j hj hji=> ?_⟩
   by_cases e':j=i
   ·subst e';exact h
   ·exact p2 j hj (by omega)
 ·have ha:=all_true (s:=s) (fun j hj=>p2 j hj (by omega))
  refine S0 (fun hb h=>?_) fun hb h=>?_
  ·refine ay ?_
   unfold validAtom
   rw[ha,Bool.true_and]
   exact decide_eq_decide.2 (by omega)
  ·refine ay ?_
   unfold validAtom
   rw[ha,Bool.true_and]
   exact(decide_eq_false (by omega)).symm
theorem U2(b:UInt8):aD Tryz.prog 270 [.c (.d (.i .u8 b.toNat))] (.c (.d (.b (jH b)))):=fun S=>by
 have yes:((97≤b.toNat∧b.toNat≤122)∨(48≤b.toNat∧b.toNat≤57)∨b.toNat=39∨b.toNat=45∨b.toNat=43∨b.toNat=42∨b.toNat=60∨b.toNat=61∨b.toNat=46)→jH b=true:=(qZ b).2
 have no:¬((97≤b.toNat∧b.toNat≤122)∨(48≤b.toNat∧b.toNat≤57)∨b.toNat=39∨b.toNat=45∨b.toNat=43∨b.toNat=42∨b.toNat=60∨b.toNat=61∨b.toNat=46)→jH b=false:=fun h=>by
  cases hb:jH b with
  |false=>rfl
  |true=>exact absurd ((qZ b).1 hb) h
 refine aB (rs:=[.tmp 2]) Tryz.checked.mixed Tryz.func270 Tryz.ntmps270 rfl rfl rfl rfl rfl ?_
 refine W1 ?_
 repeat' (first|(refine S0 (fun hb h=>?_) fun hb h=>?_))
 all_goals first
  |exact ay (yes (by omega)).symm
  |exact ay (no (by omega)).symm
  |(refine ay ?_;cases hb:jH b<;>simp only[decide_eq_true_eq,decide_eq_false_iff_not]<;>(first|(have:=(qZ b).1 hb;omega)|(intro q;have:=yes (by omega);rw[hb] at this;cases this)))
theorem RQ(s:List UInt8)(hs:s.length≤1073741824):aD Tryz.prog 236 [.c (.d (.s s))] (.c (.d (.b (validAtom s)))):=fun S=>by
 refine aB (rs:=[.tmp 2]) Tryz.checked.mixed Tryz.func236 Tryz.ntmps236 rfl rfl rfl rfl rfl ?_
 refine W1 ?_
 refine aQ (ι:=Nat) Tryz.checked.mixed rfl [0,3] (fun i=>[.c (.d (.s s)),.c (.d (.i .i64 i))]) (fun _=>[]::S)
  (fun i=>i≤s.length∧∀j,∀hj:j<s.length,j<i→jH s[j]=true) (fun i=>s.length-i) 0 rfl rfl ⟨Nat.zero_le _,fun j _ h=>by omega⟩ ?_
 rintro i ⟨p1,p2⟩
 refine W1 ?_
 refine S0 (fun hb h=>?_) fun hb h=>?_
 ·have hi:i<s.length:=by omega
  have e:s.getD i 0=s[i]:=by simp[List.getD,hi]
  refine W3 ?_
  rw[e]
  refine C2 (U2 s[i]) ?_
  refine S0 (fun hb h=>?_) fun hb h=>?_
  ·exact ay (by unfold validAtom;rw[all_false hi h];rfl)
  ·refine bF (i+1) (by omega) rfl rfl ⟨by omega,fun j hj hji=> ?_⟩
   by_cases e':j=i
   ·subst e';exact h
   ·exact p2 j hj (by omega)
 ·have ha:=all_true (s:=s) (fun j hj=>p2 j hj (by omega))
  refine C2 (zA s.length 1 12) ?_
  refine ay ?_
  unfold validAtom
  rw[ha,Bool.true_and,←lU]
  exact decide_eq_decide.2 (by omega)
theorem Cg:∀n:Nat,(∀x:aj,SizeOf.sizeOf x<n→x.sz≤67108864→aD Tryz.prog 207 [x.v] (.c (.d (.b (oI x)))))∧
 (∀xs:List aj,SizeOf.sizeOf xs<n→xs.length≤67108864→(∀t∈xs,t.sz≤67108864)→aD Tryz.prog 293 [.c (.d (.sl (xs.map aj.enc))),.c (.fn 294 [])] (.c (.d (.b (!oP xs)))))
 |0=>⟨fun x h=>by omega,fun x h=>by omega⟩
 |n+1=>by
  obtain⟨ih,BM⟩:=Cg n
  refine⟨fun x hn hsz S=> ?_,fun xs hn hlen hsz S=> ?_⟩
  ·have iW:=aj.Ig x
   have hts:=yc hsz
   have hall:∀t∈x.aY,t.sz≤67108864:=fun t ht=>by
    obtain⟨i,hi,e⟩:=List.getElem_of_mem ht
    rw[←e];exact(uX hi hsz).1
   have tail:=BM x.aY (by omega) hts.1 hall
   have hf:=MQ x
   refine aB (rs:=[.tmp 2]) Tryz.checked.mixed Tryz.func207 Tryz.ntmps207 rfl rfl rfl rfl rfl ?_
   refine W1 ?_
   refine S0 (fun hb h=>?_) fun hb h=>?_
   ·rw[if_neg h] at hf
    refine C2 (RP x.bS (by omega)) ?_
    refine S0 (fun hb h=>?_) fun hb h=>?_
    ·rw[hf,h,Bool.true_and]
     exact ay (decide_eq_decide.2 (by omega))
    ·rw[hf,h,Bool.false_and]
   ·rw[if_pos h] at hf
    refine bN tail ?_
    refine W1 ?_
    rw[hf,Bool.not_not]
  ·have hcl:∀y∈xs,aD Tryz.prog 294 [y.v] (.c (.d (.b (!oI y)))):=fun y hy S=>by
    have hys:=List.sizeOf_lt_of_mem hy
    refine aB (rs:=[.tmp 2]) Tryz.checked.mixed Tryz.func294 Tryz.ntmps294 rfl rfl rfl rfl rfl ?_
    refine W1 ?_
    exact C4 (ih y (by omega) (hsz y hy))
   have hidx:aD Tryz.prog 349 [.c (.d (.sl (xs.map aj.enc))),.c (.fn 294 [])] (.c (.d (.i .i64 (oO (fun y=> !oI y) xs)))):=fun S=>by
    refine aB (rs:=[.tmp 4]) Tryz.checked.mixed Tryz.func349 Tryz.ntmps349 rfl rfl rfl rfl rfl ?_
    refine W1 ?_
    refine aQ (ι:=Nat) Tryz.checked.mixed rfl [0,1,7,8] (fun i=>[.c (.d (.sl (xs.map aj.enc))),.c (.fn 294 []),.c (.d (.i .i64 xs.length)),.c (.d (.i .i64 i))]) (fun _=>[]::S)
     (fun i=>i≤xs.length∧∀j,∀hj:j<xs.length,j<i→oI xs[j]=true) (fun i=>xs.length-i) 0 rfl rfl ⟨Nat.zero_le _,fun j _ h=>by omega⟩ ?_
    rintro i ⟨p1,p2⟩
    refine W1 ?_
    refine S0 (fun hb h=>?_) fun hb h=>?_
    ·have hi:i<xs.length:=by omega
     refine W3 ?_
     refine C2 (hcl xs[i] (List.getElem_mem hi)) ?_
     refine S0 (fun hb h=>?_) fun hb h=>?_
     ·rw[ou hi (fun j hj hji=>by rw[p2 j hj hji];rfl) (by rw[h];rfl)]
     ·refine bF (i+1) (by omega) rfl rfl ⟨by omega,fun j hj hji=> ?_⟩
      by_cases e:j=i
      ·subst e;exact h
      ·exact p2 j hj (by omega)
    ·rw[qP (fun j hj=>by rw[p2 j hj (by omega)];rfl)]
   refine aB (rs:=[.tmp 4]) Tryz.checked.mixed Tryz.func293 Tryz.ntmps293 rfl rfl rfl rfl rfl ?_
   refine W1 ?_
   refine C2 (hidx) ?_
   rw[←F6]
   exact ay pK
theorem OO(x:aj)(hsz:x.sz≤67108864):aD Tryz.prog 207 [x.v] (.c (.d (.b (oI x)))):=(Cg _).1 x (Nat.lt_succ_self _) hsz
theorem zH:∀n:Nat,∀x:aj,SizeOf.sizeOf x<n→x.sz≤67108864→aD Tryz.prog 208 [x.v] (.c (.d (.i .i64 (kR x))))
 |0=>fun x h=>by omega
 |n+1=>by
  have ih:=zH n
  intro x hn hsz S
  have hts:=yc hsz
  have hd:=JE x
  have hd1:=y5 x
  have hd2:=Eo hsz
  refine aB (rs:=[.tmp 2]) Tryz.checked.mixed Tryz.func208 Tryz.ntmps208 rfl rfl rfl rfl rfl ?_
  refine W1 ?_
  refine S0 (fun hb h=>?_) fun hb h=>?_
  ·rw[if_neg h] at hd
   rw[hd];rfl
  rw[if_pos h] at hd
  refine aQ (ι:=Nat×Nat) Tryz.checked.mixed rfl [3,10,11,12] (fun y=>[.c (.d (.i .i64 y.2)),.c (.d (.sl (x.aY.map aj.enc))),.c (.d (.i .i64 x.aY.length)),.c (.d (.i .i64 y.1))]) (fun y=>[.box [.d (.s x.bS),.d (.sl (x.aY.map aj.enc))]]::S)
   (fun y=>y.1≤x.aY.length∧kR x=max y.2 (ny (x.aY.drop y.1))+1) (fun y=>x.aY.length-y.1) (0,0) rfl rfl ⟨Nat.zero_le _,by simp[hd]⟩ ?_
  rintro⟨i,c⟩ ⟨p1,p2⟩
  simp only at p1 p2
  refine W1 ?_
  refine S0 (fun hb h=>?_) fun hb h=>?_
  ·have hi:i<x.aY.length:=by omega
   have hsz':=uX hi hsz
   rw[Ce hi] at p2
   refine W3 ?_
   refine C2 (ih x.aY[i] (by have:=aj.C9 hi;omega) (by omega)) ?_
   rw[show max (c:Int) ((kR x.aY[i]:Int))=((max c (kR x.aY[i]):Nat):Int) by omega]
   exact cu 1 (by decide) (i+1,max c (kR x.aY[i])) (by simp only;omega) rfl rfl rfl rfl ⟨by simp only;omega,by simp only;omega⟩
  ·have hi:i=x.aY.length:=by omega
   rw[hi,List.drop_length,ny] at p2
   refine W3 ?_
   exact int_eq (by omega)
theorem Kq(x:aj)(hsz:x.sz≤67108864):aD Tryz.prog 208 [x.v] (.c (.d (.i .i64 (kR x)))):=zH _ x (Nat.lt_succ_self _) hsz
theorem Bg:∀n:Nat,∀x:aj,SizeOf.sizeOf x<n→x.sz≤67108864→aD Tryz.prog 209 [x.v] (.c (.d (.i .i64 (jZ x))))
 |0=>fun x h=>by omega
 |n+1=>by
  have ih:=Bg n
  intro x hn hsz S
  have hts:=yc hsz
  have hd2:=Eo hsz
  refine aB (rs:=[.tmp 2]) Tryz.checked.mixed Tryz.func209 Tryz.ntmps209 rfl rfl rfl rfl rfl ?_
  refine W1 ?_
  refine aQ (ι:=Nat×Nat) Tryz.checked.mixed rfl [3,7,8,9] (fun y=>[.c (.d (.i .i64 y.2)),.c (.d (.sl (x.aY.map aj.enc))),.c (.d (.i .i64 x.aY.length)),.c (.d (.i .i64 y.1))]) (fun y=>[.box [.d (.s x.bS),.d (.sl (x.aY.map aj.enc))]]::S)
   (fun y=>y.1≤x.aY.length∧jZ x=y.2+mo (x.aY.drop y.1)) (fun y=>x.aY.length-y.1) (0,1) rfl rfl ⟨Nat.zero_le _,by simp[MR];omega⟩ ?_
  rintro⟨i,c⟩ ⟨p1,p2⟩
  simp only at p1 p2
  refine W1 ?_
  refine S0 (fun hb h=>?_) fun hb h=>?_
  ·have hi:i<x.aY.length:=by omega
   have hsz':=uX hi hsz
   rw[DV hi] at p2
   refine W3 ?_
   refine C2 (ih x.aY[i] (by have:=aj.C9 hi;omega) (by omega)) ?_
   rw[show(c:Int)+(jZ x.aY[i]:Int)=((c+jZ x.aY[i]:Nat):Int) by omega]
   exact cu 1 (by decide) (i+1,c+jZ x.aY[i]) (by simp only;omega) rfl rfl rfl rfl ⟨by simp only;omega,by simp only;omega⟩
  ·have hi:i=x.aY.length:=by omega
   rw[hi,List.drop_length,mo] at p2
   exact int_eq (by omega)
theorem M5(x:aj)(hsz:x.sz≤67108864):aD Tryz.prog 209 [x.v] (.c (.d (.i .i64 (jZ x)))):=Bg _ x (Nat.lt_succ_self _) hsz
theorem qd(x:aj)(hsz:x.sz≤67108864):aD Tryz.prog 118 [x.v] (.c (.d (.b (gU x)))):=fun S=>by
 refine aB (rs:=[.tmp 2]) Tryz.checked.mixed Tryz.func118 Tryz.ntmps118 rfl rfl rfl rfl rfl ?_
 refine W1 ?_
 refine C2 (OO x hsz) ?_
 refine S0 (fun hb h=>?_) fun hb h=>?_
 ·have hf:=h
  refine C2 (Kq x hsz) ?_
  refine S0 (fun hb h=>?_) fun hb h=>?_
  ·refine C2 (M5 x hsz) ?_
   refine ay ?_
   unfold gU
   rw[hf,Bool.true_and]
   exact decide_eq_decide.2 (by omega)
  ·refine ay ?_
   unfold gU
   rw[hf,Bool.true_and]
   exact(decide_eq_false (by omega)).symm
 ·refine ay ?_
  unfold gU
  rw[h,Bool.false_and]
theorem Gn:∀n:Nat,∀x:aj,SizeOf.sizeOf x<n→∀l:Int,0≤l→l≤1073741824→x.sz≤67108864→aD Tryz.prog 151 [x.v,.c (.d (.i .i64 l))] (.c (.d (.i .i64 (cK l (jZ x)))))
 |0=>fun x h=>by omega
 |n+1=>by
  have ih:=Gn n
  intro x hn l h0 h1 hsz S
  have hts:=yc hsz
  have hcn:=MR x
  refine aB (rs:=[.tmp 4]) Tryz.checked.mixed Tryz.func151 Tryz.ntmps151 rfl rfl rfl rfl rfl ?_
  refine W1 ?_
  refine aQ (ι:=Nat×Int) Tryz.checked.mixed rfl [1,2,5] (fun y=>[.c (.d (.i .i64 y.2)),.c (.ptr (0,0) 0),.c (.d (.i .i64 y.1))]) (fun y=>[.box [.d (.s x.bS),.d (.sl (x.aY.map aj.enc))]]::S)
   (fun y=>y.1≤x.aY.length∧ -1≤y.2∧y.2≤1073741824∧(0≤y.2→cK l (jZ x)=cK y.2 (mo (x.aY.drop y.1)))∧(y.2<0→cK l (jZ x)= -1)) (fun y=>x.aY.length-y.1) (0,l-1) rfl rfl ⟨Nat.zero_le _,by simp only;omega,by simp only;omega,fun h=> ?_,fun h=> ?_⟩ ?_
  ·simp only[List.drop_zero] at h ⊢
   unfold cK
   rw[hcn]
   split<;>split<;>omega
  ·simp only at h
   exact bV (by omega)
  rintro⟨i,c⟩ ⟨p1,p2,p3,p4,p5⟩
  simp only at p1 p2 p3 p4 p5
  refine W1 ?_
  refine S0 (fun hb h=>?_) fun hb h=>?_
  ·have hi:i<x.aY.length:=by omega
   refine S0 (fun hb h=>?_) fun hb h=>?_
   ·have hsz':=uX hi hsz
    have p6:=p4 h
    rw[DV hi] at p6
    refine W3 ?_
    refine C2 (ih x.aY[i] (by have:=aj.C9 hi;omega) c (by omega) (by omega) (by omega)) ?_
    refine bF (i+1,cK c _) (by simp only;omega) rfl rfl ⟨by simp only;omega,?_,?_,fun h=> ?_,fun h=> ?_⟩
    ·simp only;unfold cK;split<;>omega
    ·simp only;unfold cK;split<;>omega
    ·simp only at h ⊢
     rw[p6]
     have:=dP (l:=c) (a:=jZ x.aY[i]) (by omega)
     rw[this.1]
     unfold cK
     split<;>split<;>omega
    ·simp only at h ⊢
     rw[p6]
     have:=dB h
     exact bV (by omega)
   ·have hc:c= -1:=by omega
    rw[p5 (by omega),hc]
  ·have hi:i=x.aY.length:=by omega
   by_cases hc:0≤c
   ·rw[p4 hc,hi,List.drop_length,mo,fA (by omega)]
    exact int_eq (by simp)
   ·rw[p5 (by omega)]
    exact int_eq (by omega)
theorem U3(x:aj)(l:Int)(h0:0≤l)(h1:l≤1073741824)(hsz:x.sz≤67108864):aD Tryz.prog 151 [x.v,.c (.d (.i .i64 l))] (.c (.d (.i .i64 (cK l (jZ x))))):=Gn _ x (Nat.lt_succ_self _) l h0 h1 hsz
theorem Gp:∀n:Nat,∀x:aj,SizeOf.sizeOf x<n→x.sz≤67108864→aD Tryz.prog 152 [x.v] (.c (.d (.b (oI x))))
 |0=>fun x h=>by omega
 |n+1=>by
  have ih:=Gp n
  intro x hn hsz S
  have hts:=yc hsz
  have hf:=MQ x
  refine aB (rs:=[.tmp 2]) Tryz.checked.mixed Tryz.func152 Tryz.ntmps152 rfl rfl rfl rfl rfl ?_
  refine W1 ?_
  refine S0 (fun hb h=>?_) fun hb h=>?_
  ·rw[if_neg h] at hf
   refine C2 (RQ x.bS (by omega)) ?_
   refine S0 (fun hb h=>?_) fun hb h=>?_
   ·rw[hf,h,Bool.true_and]
    exact ay (decide_eq_decide.2 (by omega))
   ·rw[hf,h,Bool.false_and]
  rw[if_pos h] at hf
  refine aQ (ι:=Nat) Tryz.checked.mixed rfl [1,3] (fun y=>[.c (.ptr (0,0) 0),.c (.d (.i .i64 y))]) (fun y=>[.box [.d (.s x.bS),.d (.sl (x.aY.map aj.enc))]]::S)
   (fun y=>y≤x.aY.length∧oI x=oP (x.aY.drop y)) (fun y=>x.aY.length-y) 0 rfl rfl ⟨Nat.zero_le _,hf⟩ ?_
  rintro i ⟨p1,p2⟩
  refine W1 ?_
  refine S0 (fun hb h=>?_) fun hb h=>?_
  ·have hi:i<x.aY.length:=by omega
   have hsz':=uX hi hsz
   rw[OM hi] at p2
   refine W3 ?_
   refine C2 (ih x.aY[i] (by have:=aj.C9 hi;omega) (by omega)) ?_
   refine S0 (fun hb h=>?_) fun hb h=>?_
   ·rw[p2,h,Bool.false_and]
   ·exact bF (i+1) (by omega) rfl rfl ⟨by omega,by rw[p2,h,Bool.true_and]⟩
  ·have hi:i=x.aY.length:=by omega
   rw[hi,List.drop_length,oP] at p2
   rw[p2]
theorem U4(x:aj)(hsz:x.sz≤67108864):aD Tryz.prog 152 [x.v] (.c (.d (.b (oI x)))):=Gp _ x (Nat.lt_succ_self _) hsz
theorem zI:∀n:Nat,∀x:aj,SizeOf.sizeOf x<n→x.sz≤67108864→aD Tryz.prog 153 [x.v] (.c (.d (.i .i64 (kR x))))
 |0=>fun x h=>by omega
 |n+1=>by
  have ih:=zI n
  intro x hn hsz S
  have hts:=yc hsz
  have hd:=JE x
  have hd1:=y5 x
  have hd2:=Eo hsz
  refine aB (rs:=[.tmp 2]) Tryz.checked.mixed Tryz.func153 Tryz.ntmps153 rfl rfl rfl rfl rfl ?_
  refine W1 ?_
  refine S0 (fun hb h=>?_) fun hb h=>?_
  ·rw[if_neg h] at hd
   rw[hd];rfl
  rw[if_pos h] at hd
  refine aQ (ι:=Nat×Nat) Tryz.checked.mixed rfl [1,3,4] (fun y=>[.c (.ptr (0,0) 0),.c (.d (.i .i64 y.2)),.c (.d (.i .i64 y.1))]) (fun y=>[.box [.d (.s x.bS),.d (.sl (x.aY.map aj.enc))]]::S)
   (fun y=>y.1≤x.aY.length∧kR x=max y.2 (ny (x.aY.drop y.1))+1) (fun y=>x.aY.length-y.1) (0,0) rfl rfl ⟨Nat.zero_le _,by simp[hd]⟩ ?_
  rintro⟨i,c⟩ ⟨p1,p2⟩
  simp only at p1 p2
  refine W1 ?_
  refine S0 (fun hb h=>?_) fun hb h=>?_
  ·have hi:i<x.aY.length:=by omega
   have hsz':=uX hi hsz
   rw[Ce hi] at p2
   refine W3 ?_
   refine C2 (ih x.aY[i] (by have:=aj.C9 hi;omega) (by omega)) ?_
   refine C2 (MI _ _) ?_
   rw[show max (c:Int) ((kR x.aY[i]:Int))=((max c (kR x.aY[i]):Nat):Int) by omega]
   exact bF (i+1,max c (kR x.aY[i])) (by simp only;omega) rfl rfl ⟨by simp only;omega,by simp only;omega⟩
  ·have hi:i=x.aY.length:=by omega
   rw[hi,List.drop_length,ny] at p2
   refine W3 ?_
   exact int_eq (by omega)
theorem Kr(x:aj)(hsz:x.sz≤67108864):aD Tryz.prog 153 [x.v] (.c (.d (.i .i64 (kR x)))):=zI _ x (Nat.lt_succ_self _) hsz
theorem wB(x:aj)(hsz:x.sz≤67108864):aD Tryz.prog 77 [x.v] (.c (.d (.b (gU x)))):=fun S=>by
 refine aB (rs:=[.tmp 2]) Tryz.checked.mixed Tryz.func77 Tryz.ntmps77 rfl rfl rfl rfl rfl ?_
 refine W1 ?_
 refine C2 (U3 x 900 (by omega) (by omega) hsz) ?_
 refine S0 (fun hb h=>?_) fun hb h=>?_
 ·have h1:=(dP (l:=900) (a:=jZ x) (by omega)).2
  refine C2 (U4 x hsz) ?_
  refine S0 (fun hb h=>?_) fun hb h=>?_
  ·have hf:=h
   refine C2 (Kr x hsz) ?_
   refine ay ?_
   unfold gU
   rw[hf,Bool.true_and]
   exact decide_eq_decide.2 (by omega)
  ·refine ay ?_
   unfold gU
   rw[h,Bool.false_and]
 ·have h1:=dB (l:=900) (a:=jZ x) (by omega)
  refine ay ?_
  unfold gU
  rw[decide_eq_false (by omega),Bool.and_false]
end Go.Proofs.YtcfhnaohbaplhaaGreatDoor
namespace Go.Ab
theorem Xx{w:World}{σ:Nat→Nat}(hl:∀b,b<w.heap.size∨σ b=0)(hg:rZ w σ):eD w σ [] []:=
 ⟨fun k o h=>(by cases h),fun k k' o o' h h' b h1=>(by cases h1),⟨rfl,fun l fr h=>(by cases h)⟩,hl,hg⟩
theorem RS{P:Program}{f:FuncId}{args:List V}{r:V}(h:aD P f args r){w:World}{σ:Nat→Nat}(hl:∀b,b<w.heap.size∨σ b=0)(hg:rZ w σ){vs:List Value}(hv:nK w σ [] [] args vs):
 Calls P f vs.toArray w fun e w'=>∃v σ',e=.returned v∧dD w' σ' [] [] r v∧Grow w σ w' σ'∧rZ w' σ':=
 ((h []).2 w σ [] vs (Xx hl hg) hv).mono fun e w' ⟨v,r',S',σ',β',he,hS,hk,hst,Jl,hr,hS'⟩=>by
   subst hr hS'
   cases β' with
   |cons a l=>have:=hS.shape.1;simp at this
   |nil=>exact⟨v,σ',he,Jl,⟨hst.size,hst.os,hst.output,fun b hb=>hst.far b hb (fun⟨k,o,h,e,_⟩=>by cases e),hS.live⟩,hS.rJ⟩
theorem Xy{x:V}{vs:List Value}{w:World}{σ:Nat→Nat}{S:Store}{β:Hs}(h:nK w σ S β [x] vs):∃v,vs=[v]∧dD w σ S β x v:=by
 obtain⟨hl,h⟩:=h
 obtain⟨v,e0,h0⟩:=h 0 x rfl
 match vs,hl,e0 with
 |[a],_,e0=>simp at e0;subst e0;exact⟨_,rfl,h0⟩
theorem Xz(x:aj):fK x≠[]:=by
 rw[MV]
 split
 ·simp
 ·assumption
theorem aa4{w:World}{σ:Nat→Nat}{S:Store}{β:Hs}{x:aj}{u:Value}(h:dD w σ S β x.v u):∃lv,u=.agg #[.string ⟨x.bS.toArray⟩,lv]∧dL w σ (.sl (x.aY.map aj.enc)) lv∧lv.oneCell'=true:=by
 rw[←aj.oq,aj.aH] at h
 obtain⟨a,rfl,hl,h⟩:=h
 obtain⟨v0,e0,h0,_⟩:=h 0 _ rfl
 obtain⟨v1,e1,h1,h1c⟩:=h 1 _ rfl
 obtain rfl:v0=.string ⟨x.bS.toArray⟩:=by cases h0;rfl
 refine⟨v1,?_,h1,h1c⟩
 have:a.toList=[.string ⟨x.bS.toArray⟩,v1]:=by
  match hq:a.toList,hl,e0,e1 with
  |[p,q],_,e0,e1=>simp at e0 e1;rw[e0,e1]
 rw[←this]
end Go.Ab
namespace Go.Proofs.YtcfhnaohbaplhaaGreatDoor
open Go Go.Ab Go.RowKit
set_option maxHeartbeats 2000000 in
theorem OP(x:aj)(hsz:x.sz≤67108864)(w:World)(σ:Nat→Nat)(hl:∀b,b<w.heap.size∨σ b=0)(hgl:rZ w σ)(lv:Value)(hr:dL w σ (.sl (x.aY.map aj.enc)) lv)(hlv:lv.oneCell'=true):
 Calls Tryz.prog 48 #[.agg #[.string ⟨x.bS.toArray⟩,lv]] w fun e w'=>e=.returned (.string ⟨(xX x).toArray⟩)∧∃σ',Grow w σ w' σ'∧rZ w' σ':=by
 obtain⟨wb,hwb⟩:∃wb,wb=w.alloc (.cells #[.string ⟨x.bS.toArray⟩,lv] 78):=⟨_,rfl⟩
 have hg0:Grow w σ wb σ:=by
  rw[hwb]
  refine⟨by simp,rfl,rfl,fun b hb=>⟨Lib.alloc_old w _ b hb,rfl⟩,fun b=> ?_⟩
  rcases hl b with h|h
  ·left;simp;omega
  ·exact .inr h
 have hrb:=dL.mono hg0.near hr
 have hv:nK wb σ [] [] [x.v] [.agg #[.string ⟨x.bS.toArray⟩,lv]]:=by
  refine⟨rfl,fun j y hy=> ?_⟩
  match j,hy with
  |0,hy=>
   simp at hy
   subst hy
   refine⟨_,rfl,?_⟩
   rw[←aj.oq,aj.aH]
   refine⟨_,rfl,rfl,fun j y hy=> ?_⟩
   match j,hy with
   |0,hy=>simp at hy;subst hy;exact⟨_,rfl,.s _,rfl⟩
   |1,hy=>simp at hy;subst hy;exact⟨_,rfl,hrb,hlv⟩
 have hc:=RS (qd x hsz) hg0.live (hgl.near hg0.near) hv
 have hc:Calls Tryz.prog 118 #[.agg #[.string ⟨x.bS.toArray⟩,lv]] wb fun e w'=>e=.returned (.bool (gU x))∧∃σ',Grow wb σ w' σ'∧rZ w' σ':=
  hc.mono fun e w' ⟨v,σ',he,Jl,hg,hgl⟩=>by
   obtain rfl:v=.bool (gU x):=by cases Jl.1;rfl
   exact⟨he,σ',hg,hgl⟩
 rw[hwb] at hc hg0
 have HF:Aside (xX x=if gU x=true then fK x else []):=rfl
 obtain⟨T,hT⟩:∃T,T=xX x:=⟨_,rfl⟩
 rw[←hT] at HF ⊢
 clear hT
 by_cases yN:gU x=true
 ·rw[if_pos yN] at HF
  rw[yN] at hc
  go_enter Tryz.func48,Tryz.ntmps48
  go_wp2_with (go_at_call 118;refine hc.mono ?_)
  rintro e w1 ⟨rfl,σ1,hg1,XA⟩
  have hlt:w.heap.size<(w.alloc (.cells #[.string ⟨x.bS.toArray⟩,lv] 78)).heap.size:=by simp
  have hq:w1.heap[w.heap.size]? =_:=(hg1.old _ hlt).1.trans (heap_alloc_new w _)
  have c0:w1.cell? ⟨w.heap.size,0,none⟩=some (.string ⟨x.bS.toArray⟩):=by rw[Lib.cell_of_heap hq];rfl
  have c1:w1.cell? ⟨w.heap.size,1,none⟩=some lv:=by rw[Lib.cell_of_heap hq];rfl
  have hlt1:w.heap.size<w1.heap.size:=Nat.lt_of_lt_of_le hlt hg1.size
  have hq1:=(Lib.alloc_old w1 (.cells #[.pointer none,.slice none 0 0] 156) _ hlt1).trans hq
  have d0:(w1.alloc (.cells #[.pointer none,.slice none 0 0] 156)).cell? ⟨w.heap.size,0,none⟩=some (.string ⟨x.bS.toArray⟩):=by rw[Lib.cell_of_heap hq1];rfl
  have d1:(w1.alloc (.cells #[.pointer none,.slice none 0 0] 156)).cell? ⟨w.heap.size,1,none⟩=some lv:=by rw[Lib.cell_of_heap hq1];rfl
  have hr1:dL w1 σ1 (.sl (x.aY.map aj.enc)) lv:=dL.mono (hg0.trans hg1).near hr
  have hbd:Lib.IsBuilderF 156 5 w1.heap.size w1.heap.size [] (w1.alloc (.cells #[.pointer none,.slice none 0 0] 156)):=
   .inl ⟨Nat.le_refl _,_,heap_alloc_new w1 _,⟨rfl,.inl ⟨rfl,rfl⟩⟩,by simp[Value.ownBlock]⟩
  have hW:=F9 w1 σ1 (x.sz+1) x (Nat.lt_succ_self _) w1.heap.size [] _ lv hr1 ((Below.refl _ w1).alloc (Nat.le_refl _) _) hbd (by
   have:=BQ x
   simp only[List.length_nil];omega)
  clear hq hbd hq1
  go_wp2_with (go_at_call 119;refine hW.mono ?_)
  rintro e w2 ⟨rfl,h2,hb2,hk2⟩
  rw[List.nil_append] at h2
  have hT:=RA w1.heap.size w1.heap.size (fK x) w2 h2 (Xz x)
  go_wp2_with (go_at_call 120;refine hT.mono ?_)
  rintro e w3 ⟨rfl,hb3⟩
  go_wp2
  go_ret
  rw[HF.out]
  have hb:Below w1.heap.size w1 w3:=(((Below.refl _ w1).alloc (Nat.le_refl _) _).trans hb2).trans hb3
  have hg3:Grow w1 σ1 w3 σ1:=⟨hb.size,hb.os,hb.output,fun k hk=>⟨hb.block k hk,rfl⟩,fun k=>(hg1.live k).elim (fun h=>.inl (Nat.lt_of_lt_of_le h hb.size)) .inr⟩
  exact⟨rfl,σ1,(hg0.trans hg1).trans hg3,XA.near hg3.near⟩
 ·rw[if_neg yN] at HF
  simp only[Bool.not_eq_true] at yN
  rw[yN] at hc
  go_enter Tryz.func48,Tryz.ntmps48
  go_wp2_with (go_at_call 118;refine hc.mono ?_;rintro e w1 ⟨rfl,σ1,hg1,XA⟩)
  go_ret
  rw[HF.out]
  exact⟨rfl,σ1,hg0.trans hg1,XA⟩
theorem Im(x:aj)(hsz:x.sz≤67108864):aD Tryz.prog 48 [x.v] (.c (.d (.s (xX x)))):=fun S=>by
 refine⟨⟨_,Tryz.func48,by kernel_rfl,by kernel_rfl⟩,fun w σ β vs hS hv=> ?_⟩
 obtain⟨u,rfl,hu⟩:=Xy hv
 obtain⟨lv,rfl,hr,hlv⟩:=aa4 hu
 refine(OP x hsz w σ hS.live hS.rJ lv hr hlv).mono fun e w' ⟨he,σ',hg,_⟩=> ?_
 exact⟨_,.c (.d (.s (xX x))),S,σ',β,he,hS.grow hg,Keep.refl _ _,Step.mE hg,⟨.s _,rfl⟩,rfl,rfl⟩
end Go.Proofs.YtcfhnaohbaplhaaGreatDoor
namespace Go.Ab
mutual
def uo:D→Nat
 | .sl es=>vI es+1
 | .ol _ _=>0
 | .b _=>0
 | .i _ _=>0
 | .s _=>0
 | .o _=>0
def uq:List D→Nat
 |[]=>0
 |d::ds=>uo d+uq ds
def vI:List (List D)→Nat
 |[]=>0
 |r::rs=>uq r+vI rs
end
mutual
def rP:D→Nat→D
 | .sl es,n=>.ol n (iX es (n+1))
 | .ol m es,_=>.ol m es
 | .b x,_=>.b x
 | .i k x,_=>.i k x
 | .s l,_=>.s l
 | .o v,_=>.o v
def kS:List D→Nat→List D
 |[],_=>[]
 |d::ds,n=>rP d n::kS ds (n+uo d)
def iX:List (List D)→Nat→List (List D)
 |[],_=>[]
 |r::rs,n=>kS r n::iX rs (n+uq r)
end
mutual
def o7:D→Bool
 | .sl es=>jA es
 | .ol _ _=>false
 | .b _=>true
 | .i _ _=>true
 | .s _=>true
 | .o _=>false
def jo:List D→Bool
 |[]=>true
 |d::ds=>o7 d&&jo ds
def jA:List (List D)→Bool
 |[]=>true
 |r::rs=>jo r&&jA rs
end
theorem Ch:∀a b n,iX (a++b) n=iX a n++iX b (n+vI a)
 |[],b,n=>by simp[iX,vI]
 |d::ds,b,n=>by rw[List.cons_append,iX,iX,Ch ds b,vI,Nat.add_assoc];rfl
theorem jy:∀r n,(kS r n).length=r.length
 |[],_=>rfl
 |d::ds,n=>by rw[kS,List.length_cons,jy ds,List.length_cons]
theorem uw:∀rs n,(iX rs n).length=rs.length
 |[],_=>rfl
 |r::rs,n=>by rw[iX,List.length_cons,uw rs,List.length_cons]
theorem Gq{z:Nat}:∀{rs:List (List D)} {n:Nat},(∀r∈rs,r.length=z)→∀r∈iX rs n,r.length=z
 |[],_,_,r,h=>by rw[iX] at h;cases h
 |a::rs,n,ha,r,h=>by
  rw[iX] at h
  rcases List.mem_cons.1 h with e|h
  ·rw[e,jy];exact ha a (by simp)
  ·exact Gq (fun r hr=>ha r (by simp[hr])) r h
theorem gK:∀a b,jo (a++b)=(jo a&&jo b)
 |[],b=>by simp[jo]
 |d::ds,b=>by rw[List.cons_append,jo,jo,gK ds b,Bool.and_assoc]
theorem j3{α:Type}{f:α→List D}:∀{xs:List α},(∀x∈xs,jo (f x)=true)→jA (xs.map f)=true
 |[],_=>rfl
 |x::xs,h=>by
  rw[List.map_cons,jA,h x (by simp),j3 fun y hy=>h y (by simp[hy])];rfl
section
variable {P:Program} {w:World} {σ σ':Nat→Nat} {S:Store} {β:Hs} {N:Nat} {s:St}
mutual
theorem aa5:∀(d:D) (n:Nat) (v:Value),dL w σ (rP d n) v→dL w σ d v
 | .sl es,n,v,h=>by
   rw[rP] at h
   have hl:=uw es (n+1)
   have hrec:=YB es (n+1)
   generalize iX es (n+1)=q at h hl hrec
   cases h with
   |wo n a cap=>
    have:es=[]:=List.eq_nil_of_length_eq_zero (by simpa using hl.symm)
    subst this
    exact .nil a cap
   |ol n b off cap bn q vals c t hcap hlen hb hσ hfit hc hv=>
    obtain⟨r1,r2⟩:=hrec vals hv
    rw[hl] at hcap hfit hc ⊢
    refine .sl b off cap bn es vals c t (0,0) hcap (fun e he=> ?_) hb (by omega) hc r2
    obtain⟨e',h1,h2⟩:=r1 e he
    rw[←h2];exact hlen e' h1
 | .ol m es,n,v,h=>h
 | .b x,n,v,h=>h
 | .i k x,n,v,h=>h
 | .s l,n,v,h=>h
 | .o u,n,v,h=>h
theorem aa6:∀(r:List D) (n:Nat) (vals:Nat→Value),(∀j d,(kS r n)[j]? =some d→dL w σ d (vals j))→∀(j:Nat) d,r[j]? =some d→dL w σ d (vals j)
 |[],n,vals,h,j,d,hd=>by simp at hd
 |a::r,n,vals,h,j,d,hd=>by
  cases j with
  |zero=>
   simp at hd;subst hd
   exact aa5 a n _ (h 0 _ rfl)
  |succ j=>exact aa6 r (n+uo a) (fun i=>vals (i+1)) (fun i d hi=>h (i+1) d (by rw[kS];exact hi)) j d hd
theorem YB:∀(rs:List (List D)) (n:Nat) (vals:Nat→Value),(∀j d,(iX rs n).flatten[j]? =some d→dL w σ d (vals j))→
 (∀e∈rs,∃e'∈iX rs n,e'.length=e.length)∧∀(j:Nat) d,rs.flatten[j]? =some d→dL w σ d (vals j)
 |[],n,vals,h=>⟨fun e he=>(by cases he),fun j d hd=>(by simp at hd)⟩
 |r::rs,n,vals,h=>by
  rw[iX,List.flatten_cons] at h
  have h1:=aa6 r n vals fun j d hd=>h j d (by rw[List.getElem?_append_left (List.getElem?_eq_some_iff.1 hd).1];exact hd)
  obtain⟨h2,h3⟩:=YB rs (n+uq r) (fun i=>vals (r.length+i)) fun j d hd=>h (r.length+j) d (by rw[List.getElem?_append_right (by rw[jy];omega),jy,Nat.add_sub_cancel_left];exact hd)
  refine⟨fun e he=> ?_,fun j d hd=> ?_⟩
  ·rcases List.mem_cons.1 he with e1|he
   ·subst e1;exact⟨_,by rw[iX];exact List.mem_cons_self ..,jy _ _⟩
   ·obtain⟨e',q1,q2⟩:=h2 e he
    exact⟨e',by rw[iX];exact List.mem_cons_of_mem _ q1,q2⟩
  ·rw[List.flatten_cons] at hd
   by_cases hj:j<r.length
   ·rw[List.getElem?_append_left hj] at hd;exact h1 j d hd
   ·rw[List.getElem?_append_right (by omega)] at hd
    have:=h3 (j-r.length) d hd
    rwa [show r.length+(j-r.length)=j by omega] at this
end
theorem M6{r:List D}{n:Nat}:Less (.agg ((kS r n).map .d)) (.agg (r.map .d)):=by
 rintro w σ S β v ⟨a,ha,hl,hc⟩
 rw[List.length_map,jy] at hl
 refine⟨a,ha,by rw[List.length_map];exact hl,?_⟩
 have key:∀(r:List D) (n:Nat) (vs:List Value),(∀(j:Nat) (x:C),((kS r n).map C.d)[j]? =some x→∃v:Value,vs[j]? =some v∧jc w σ S β x v∧v.oneCell'=true)→
  ∀(j:Nat) (x:C),(r.map C.d)[j]? =some x→∃v:Value,vs[j]? =some v∧jc w σ S β x v∧v.oneCell'=true:=by
  intro r
  induction r with
  |nil=>intro n vs h j x hx;simp at hx
  |cons d ds ih=>
   intro n vs h j x hx
   cases j with
   |zero=>
    simp at hx;subst hx
    obtain⟨v,h1,h2,h3⟩:=h 0 (.d (rP d n)) rfl
    exact⟨v,h1,aa5 d n v h2,h3⟩
   |succ j=>
    have:=ih (n+uo d) vs.tail (fun i y hy=>by
     obtain⟨v,h1,h2⟩:=h (i+1) y (by rw[kS,List.map_cons];exact hy)
     refine⟨v,?_,h2⟩
     cases vs with
     |nil=>simp at h1
     |cons a b=>exact h1) j x hx
    obtain⟨v,h1,h2⟩:=this
    refine⟨v,?_,h2⟩
    cases vs with
    |nil=>simp at h1
    |cons a b=>exact h1
 exact key r n _ hc
inductive qg:List V→List V→Prop
 |nil:qg [] []
 |cons {x y:V} {xs ys:List V}:Less x y→qg xs ys→qg (x::xs) (y::ys)
theorem qg.length:∀{xs ys:List V},qg xs ys→xs.length=ys.length
 |_,_,.nil=>rfl
 |_,_,.cons _ h=>by rw[List.length_cons,List.length_cons,qg.length h]
theorem qg.at:∀{xs ys:List V},qg xs ys→∀(j:Nat) (x y:V),xs[j]? =some x→ys[j]? =some y→Less x y
 |_,_,.nil,j,x,y,h,_=>by simp at h
 |_,_,.cons a h,0,x,y,h1,h2=>by simp at h1 h2;subst h1;subst h2;exact a
 |_,_,.cons a h,j+1,x,y,h1,h2=>qg.at h j x y (by simpa using h1) (by simpa using h2)
theorem aD.args{f:FuncId}{args args':List V}{r:V}(h:aD P f args' r)(hl:qg args args'):aD P f args r:=fun S=>(h S).weaken hl.length fun j x y hx hy w σ β v hr=>hl.at j x y hx hy w σ S β v hr
theorem nH{dr:Option Nat}{f:FuncId}{args args':List V}{dst:Option Nat}{K:St→Prop}{r:V}(h:aD P f args' r)(hl:qg (args.map V.oF) args')(hK:K (s.put dst r)):dW P dr f args s dst K:=bN (h.args hl) hK
def XB(row:Bool)(j n:Nat)(es:List (List D))(tm:List (Nat×V)):List (Nat×V):=tm.map fun x=>(x.1,x.2.jT (C.lab row j n es))
theorem U5{row:Bool}{j n:Nat}{es:List (List D)}{tm:List (Nat×V)}{t:Nat}:look (XB row j n es tm) t=(look tm t).jT (C.lab row j n es):=Ag (f:=V.jT (C.lab row j n es)) rfl tm t
def RU(j n:Nat)(tm:List (Nat×V))(own:List Obj)(Ω:Store):Option Obj→St
 |some (.eU _ es)=>⟨XB true j n es tm,(own.map (Obj.jT (C.lab true j n es))).set j .dead::Ω⟩
 |some (.d9 m _ es)=>⟨XB false j m es tm,(own.map (Obj.jT (C.lab false j m es))).set j .dead::Ω⟩
 |_=>⟨tm,own::Ω⟩
def KT(j n:Nat)(s:St):St:=
 match s.st with
 |own::Ω=>RU j n s.tm own Ω (own[j]?)
 |[]=>s
def Gs:Nat→Nat→St→St
 |0,_,s=>s
 |k+1,n,s=>Gs k n (KT k n s)
def zJ(n:Nat)(s:St):St:=
 match s.st with
 |own::_=>Gs own.length n s
 |[]=>s
theorem DW(j n:Nat)(s:St):gI N s (KT j n s):=by
 obtain⟨tm,st⟩:=s
 cases st with
 |nil=>exact gI.refl _ _
 |cons own Ω=>
  show gI N ⟨tm,own::Ω⟩ (RU j n tm own Ω (own[j]?))
  cases ho:own[j]? with
  |none=>exact gI.refl _ _
  |some o=>
   cases o with
   |eU z es=>exact fun a w σ β hR=>PO j n z es true ho hR
   |d9 m z es=>exact fun a w σ β hR=>PO j m z es false ho hR
   |_=>exact gI.refl _ _
theorem DX:∀(k n:Nat) (s:St),gI N s (Gs k n s)
 |0,n,s=>gI.refl _ _
 |k+1,n,s=>(DW k n s).trans (DX k n _)
theorem yg(n:Nat)(s:St):gI N s (zJ n s):=by
 unfold zJ
 split
 ·exact DX _ _ _
 ·exact gI.refl _ _
theorem XC{j n:Nat}{tm:List (Nat×V)}{own:List Obj}{Ω:Store}:KT j n ⟨tm,own::Ω⟩=RU j n tm own Ω (own[j]?):=rfl
theorem U6{n:Nat}{tm:List (Nat×V)}{own:List Obj}{Ω:Store}:zJ n ⟨tm,own::Ω⟩=Gs own.length n ⟨tm,own::Ω⟩:=rfl
def M7(P:Program)(n:Nat)(rs:List ResultVar)(post:V→Store→Prop)(e:Exit)(s:St):Prop:=VK P rs post e (zJ n s)
theorem XD{n:Nat}{rs:List ResultVar}{post:V→Store→Prop}:M7 P n rs post .ret s=Mq P rs post (zJ n s):=rfl
theorem OQ{n:Nat}{rs:List ResultVar}{post:V→Store→Prop}:M7 P n rs post .normal s=Mq P rs post (zJ n s):=rfl
theorem yO(n:Nat){f:FuncId}{fn:Func}{c:Code}{args:List V}{post:V→Store→Prop}{rs:List ResultVar}(jr:P.follows .mixedOrders=true)(hf:P.funcs[f]? =some fn)(hN:fn.ntmps=N)
 (hb:fn.body=some c) (hn:(fn.name== "runtime.NumGoroutine")=false) (hr:fn.results.toList=rs) (hl:Nat.ble args.length N=true) (hok:codeOk N c=true)
 (h:CW P N c (M7 P n rs post) ⟨nS (args.map (V.up 1)) 0,[.seed n]::S⟩):dF P f args S post:=by
 subst hN
 subst hr
 exact vB hf hb hn (Nat.le_of_ble_eq_true hl) (HY n (xO (yg n) (lK jr c _ _ hok h)))
theorem XE{row:Bool}{j n l i:Nat}{es es':List (List D)}:C.lab row j n es (.bH (1+l,i) es')=.bH (1+l,i) es':=by rw[Nat.add_comm];rfl
theorem XF{row:Bool}{j n i:Nat}{es es':List (List D)}:C.lab row j n es (.bH (0,i) es')=if i=j∧row=false∧es'.length=es.length then .d (.ol n es) else .bH (0,i) es':=rfl
theorem XG{row:Bool}{j n l i:Nat}{es:List (List D)}:C.lab row j n es (.ji (1+l,i))=.ji (1+l,i):=by rw[Nat.add_comm];rfl
theorem XH{row:Bool}{j n i:Nat}{es:List (List D)}:C.lab row j n es (.ji (0,i))=if i=j∧row=true then .d (.ol n es) else .ji (0,i):=rfl
theorem adl{row:Bool}{j n:Nat}{es:List (List D)}{x:D}:C.lab row j n es (.d x)=.d x:=rfl
theorem ZA{row:Bool}{j n:Nat}{es:List (List D)}:C.lab row j n es .any=.any:=rfl
theorem ZB{row:Bool}{j n:Nat}{es es':List (List D)}:C.lab row j n es (.bC es')=.bC es':=rfl
theorem ZC{row:Bool}{j n m:Nat}{es es':List (List D)}:C.lab row j n es (.j5 m es')=.j5 m es':=rfl
theorem ZE{row:Bool}{j n off:Nat}{es:List (List D)}{k:Key}:C.lab row j n es (.ptr k off)=.ptr k off:=rfl
theorem aa7{row:Bool}{j n f:Nat}{es:List (List D)}{caps:List (Key×Nat)}:C.lab row j n es (.fn f caps)=.fn f caps:=rfl
theorem XI{row:Bool}{j n:Nat}{es:List (List D)}{cs:List D}:C.lab row j n es (.kG cs)=.kG cs:=rfl
theorem jd{ι:Type}{ts:List Nat}{f:ι→List V}{g:ι→Store}{p:ι→Prop}{μ:ι→Nat}{i:ι}{tm:List (Nat×V)}{own:List Obj}{Ω:Store}{m:Nat}(m' n:Nat)(hnd:ts.Nodup)(j:ι)(h1:μ j<μ i)(h2:ts.map (look tm)=f j)(h3:(Obj.seed m'::own.take n)::Ω=g j)
 (hr:gF (n+1) (fG ts (f j))=true) (ho:(own.take n).all (Obj.refs (n+1))=true) (h4:p j):Inv N ts f g p μ i ⟨tm,(.seed m::own)::Ω⟩:=by
 refine⟨j,⟨fG ts (f j),(.seed m'::own.take n)::Ω⟩,h1,?_,?_,h3,h4⟩
 ·have hg:gI N ⟨tm,(.seed m::own)::Ω⟩ ⟨fG ts (f j),(.seed m::own)::Ω⟩:=by
   rw[←h2]
   exact Ed fun t=>xR _ ts t
  refine hg.trans ((Fy (n+1) hr ?_).trans (xM m'))
  rw[List.take_succ_cons,List.all_cons,ho];rfl
 ·exact xS ts (f j) hnd (by rw[←h2];simp)
end
attribute [go_sem ↓] XD OQ U6
attribute [go_sem] Gs XC RU U5 V.jT Obj.jT XE XF XG XH adl ZA ZB ZC ZE aa7 XI
end Go.Ab
namespace Go.Ab
def YC(k:Key):Nat→List (List D)→V
 |0,_=>.c (.bC [])
 |_+1,es=>.c (.bH k es)
def YD(z:Nat):Nat→List (List D)→List Obj
 |0,_=>[]
 |_+1,es=>[.tok z es]
theorem je(k:Key)(es:List (List D)):YC k 0 es=.c (.bC []):=rfl
theorem gX(k:Key)(n:Nat)(es:List (List D)):YC k (n+1) es=.c (.bH k es):=rfl
theorem jf(z:Nat)(es:List (List D)):YD z 0 es=[]:=rfl
theorem gY(z n:Nat)(es:List (List D)):YD z (n+1) es=[.tok z es]:=rfl
end Go.Ab
namespace Go.Proofs.YtcfhnaohbaplhaaGreatDoor
open Go Go.Ab
theorem ZF(xs:List (List UInt8))(b:List UInt8)(hl:xs.length≤1073741824)(hf:(fU b xs).length≤1073741824)(hp:∀i,(fU b (xs.take i)).length≤(fU b xs).length):aD Tryz.prog 70 [.c (.d (.sl (xs.map encS))),.c (.d (.s b))] (.c (.d (.s (fU b xs)))):=fun S=>by
 refine aB (rs:=[.tmp 4]) Tryz.checked.mixed Tryz.func70 Tryz.ntmps70 rfl rfl rfl rfl rfl ?_
 refine W1 ?_
 refine aQ (ι:=Nat) Tryz.checked.mixed rfl [0,1,5,6] (fun i=>[.c (.d (.sl (xs.map encS))),.c (.d (.s b)),YC (0,0) i (nZ (fU b (xs.take i))),.c (.d (.i .i64 i))]) (fun i=>YD 1 i (nZ (fU b (xs.take i)))::S)
  (fun i=>i≤xs.length) (fun i=>xs.length-i) 0 rfl rfl (Nat.zero_le _) ?_
 rintro i p1
 have hi1:=hp (i+1)
 by_cases hi:i<xs.length
 ·have hst:=Aq b xs i hi
  cases i with
  |zero=>
   simp -implicitDefEqProofs (disch:=omega) only[go_sem,je,gX,jf,gY]
   with_reducible refine eX (fun hb=> ?_) (fun hb=> ?_)<;>have h:=hb<;>(try simp only[wf_preprocess] at h)<;>simp -implicitDefEqProofs (disch:=omega) only[go_sem,hb,je,gX,jf,gY]<;>refine W3 ?_
   ·refine W3 ?_
    with_reducible refine eX (fun hb=> ?_) (fun hb=> ?_)<;>have h:=hb<;>(try simp only[wf_preprocess] at h)<;>simp -implicitDefEqProofs (disch:=omega) only[go_sem,hb,je,gX,jf,gY]<;>refine W3 ?_
    ·omega
    ·have e:nZ (fU b (xs.take (0+1)))=xs[0].map (fun b=>[D.i .u8 b.toNat]):=by rw[hst,if_pos rfl];rfl
     rw[hst,if_pos rfl] at hi1
     exact⟨by omega,bF (0+1) (by omega) (by rw[gX,e];rfl) (by rw[gY,e]) (by omega)⟩
   ·omega
  |succ j=>
   simp -implicitDefEqProofs (disch:=omega) only[go_sem,je,gX,jf,gY]
   with_reducible refine eX (fun hb=> ?_) (fun hb=> ?_)<;>have h:=hb<;>(try simp only[wf_preprocess] at h)<;>simp -implicitDefEqProofs (disch:=omega) only[go_sem,hb,je,gX,jf,gY]<;>refine W3 ?_
   ·refine W3 ?_
    with_reducible refine eX (fun hb=> ?_) (fun hb=> ?_)<;>have h:=hb<;>(try simp only[wf_preprocess] at h)<;>simp -implicitDefEqProofs (disch:=omega) only[go_sem,hb,je,gX,jf,gY]<;>refine W3 ?_
    ·have e:nZ (fU b (xs.take (j+1+1)))=nZ (fU b (xs.take (j+1)))++b.map (fun b=>[D.i .u8 b.toNat])++xs[j+1].map (fun b=>[D.i .u8 b.toNat]):=by
      rw[hst,if_neg (by omega),Bc,Bc];rfl
     rw[hst,if_neg (by omega)] at hi1
     simp only[List.length_append] at hi1
     refine⟨by rw[Bd];omega,⟨by omega,hi⟩,fun y hy=> ?_,⟨_,rfl,rfl⟩,by rw[List.length_append,List.length_map,Bd];omega,?_⟩
     ·obtain⟨z,_,rfl⟩:=List.mem_map.1 hy
      rfl
     ·exact bF (j+1+1) (by omega) (by rw[gX,e];rfl) (by rw[gY,e]) (by omega)
    ·omega
   ·omega
 ·have hi:i=xs.length:=by omega
  cases i with
  |zero=>
   simp -implicitDefEqProofs (disch:=omega) only[go_sem,je,gX,jf,gY]
   with_reducible refine eX (fun hb=> ?_) (fun hb=> ?_)<;>have h:=hb<;>(try simp only[wf_preprocess] at h)<;>simp -implicitDefEqProofs (disch:=omega) only[go_sem,hb,je,gX,jf,gY]<;>refine W3 ?_
   ·omega
   ·rw[List.eq_nil_of_length_eq_zero hi.symm];rfl
  |succ j=>
   simp -implicitDefEqProofs (disch:=omega) only[go_sem,je,gX,jf,gY]
   with_reducible refine eX (fun hb=> ?_) (fun hb=> ?_)<;>have h:=hb<;>(try simp only[wf_preprocess] at h)<;>simp -implicitDefEqProofs (disch:=omega) only[go_sem,hb,je,gX,jf,gY]<;>refine W3 ?_
   ·omega
   ·refine⟨fun y hy=>RF _ y hy,?_⟩
    rw[OI,hi,List.take_length]
theorem Gt:∀n:Nat,∀x:aj,SizeOf.sizeOf x<n→x.sz≤67108864→aD Tryz.prog 111 [x.v] (.c (.d (.s (fK x))))
 |0=>fun x h=>by omega
 |n+1=>by
  have ih:=Gt n
  intro x hn hsz S
  have ht:=MV x
  have hln:=BQ x
  have hts:=yc hsz
  have hll:x.aY.length≤67108864:=by
   have h2:=rE x
   omega
  have hE:∀i (hi:i<x.aY.length),(((x.aY.take (i+1)).map fK).map encS)=((x.aY.take i).map fK).map encS++[[.s (fK x.aY[i])]]:=fun i hi=>by
   rw[List.take_succ_eq_append_getElem hi,List.map_append,List.map_append];rfl
  refine aB (rs:=[.tmp 2]) Tryz.checked.mixed Tryz.func111 Tryz.ntmps111 rfl rfl rfl rfl rfl ?_
  refine W1 ?_
  refine S0 (fun hb h=>?_) fun hb h=>?_
  ·rw[ht,if_neg (by simpa using h)]
  ·rw[if_pos (by simpa using h)] at ht
   have hf:(fU [32] (x.aY.map fK)).length≤1073741824:=by
    rw[ht] at hln
    simp only[List.length_append,List.length_cons,List.length_nil] at hln
    omega
   have hj:=ZF (x.aY.map fK) [32] (by rw[List.length_map];omega) hf (F7 _ _)
   refine aQ (ι:=Nat) Tryz.checked.mixed rfl [1,3,4] (fun i=>[.c (.ptr (0,0) 0),YC (0,1) i (((x.aY.take i).map fK).map encS),.c (.d (.i .i64 i))]) (fun i=>(.box [.d (.s x.bS),.d (.sl (x.aY.map aj.enc))]::YD 1 i (((x.aY.take i).map fK).map encS))::S)
    (fun i=>i≤x.aY.length) (fun i=>x.aY.length-i) 0 rfl rfl (Nat.zero_le _) ?_
   rintro i p1
   by_cases hi:i<x.aY.length
   ·have hsz':=uX hi hsz
    have he:=hE i hi
    have hl:=aj.C9 hi
    cases i with
    |zero=>
     simp -implicitDefEqProofs (disch:=omega) only[go_sem,je,gX,jf,gY]
     with_reducible refine eX (fun hb=> ?_) (fun hb=> ?_)<;>have h:=hb<;>(try simp only[wf_preprocess] at h)<;>simp -implicitDefEqProofs (disch:=omega) only[go_sem,hb,je,gX,jf,gY]<;>refine W3 ?_
     ·refine W3 ?_
      refine C2 (ih x.aY[0] (by omega) hsz'.1) ?_
      exact bF (0+1) (by omega) (by rw[gX,he];rfl) (by rw[gY,he];rfl) (by omega)
     ·omega
    |succ j=>
     simp -implicitDefEqProofs (disch:=omega) only[go_sem,je,gX,jf,gY]
     with_reducible refine eX (fun hb=> ?_) (fun hb=> ?_)<;>have h:=hb<;>(try simp only[wf_preprocess] at h)<;>simp -implicitDefEqProofs (disch:=omega) only[go_sem,hb,je,gX,jf,gY]<;>refine W3 ?_
     ·refine W3 ?_
      refine C2 (ih x.aY[j+1] (by omega) hsz'.1) ?_
      exact bF (j+1+1) (by omega) (by rw[gX,he];rfl) (by rw[gY,he]) (by omega)
     ·omega
   ·have hi:i=x.aY.length:=by omega
    cases i with
    |zero=>
     simp -implicitDefEqProofs (disch:=omega) only[go_sem,je,gX,jf,gY]
     with_reducible refine eX (fun hb=> ?_) (fun hb=> ?_)<;>have h:=hb<;>(try simp only[wf_preprocess] at h)<;>simp -implicitDefEqProofs (disch:=omega) only[go_sem,hb,je,gX,jf,gY]<;>refine W3 ?_
     ·omega
     ·rw[List.eq_nil_of_length_eq_zero hi.symm] at ht hj
      refine nH hj (.cons (by exact Less.refl _) (.cons (Less.refl _) .nil)) ?_
      refine W1 ?_
      exact⟨by decide,by decide,by rw[ht];rfl⟩
    |succ j=>
     simp -implicitDefEqProofs (disch:=omega) only[go_sem,je,gX,jf,gY]
     with_reducible refine eX (fun hb=> ?_) (fun hb=> ?_)<;>have h:=hb<;>(try simp only[wf_preprocess] at h)<;>simp -implicitDefEqProofs (disch:=omega) only[go_sem,hb,je,gX,jf,gY]<;>refine W3 ?_
     ·omega
     ·rw[hi,List.take_length]
      refine nH hj (.cons (by exact Less.refl _) (.cons (Less.refl _) .nil)) ?_
      refine W1 ?_
      exact⟨by omega,by omega,by rw[ht];rfl⟩
theorem U7(x:aj)(hsz:x.sz≤67108864):aD Tryz.prog 111 [x.v] (.c (.d (.s (fK x)))):=Gt _ x (Nat.lt_succ_self _) hsz
theorem Io(x:aj)(hsz:x.sz≤67108864):aD Tryz.prog 42 [x.v] (.c (.d (.s (xX x)))):=fun S=>by
 refine aB (rs:=[.tmp 2]) Tryz.checked.mixed Tryz.func42 Tryz.ntmps42 rfl rfl rfl rfl rfl ?_
 refine W1 ?_
 refine C2 (wB x hsz) ?_
 refine S0 (fun hb h=>?_) fun hb h=>?_
 ·rw[xX,if_neg (by simpa using h)]
 ·refine C2 (U7 x hsz) ?_
  rw[xX,if_pos (by simpa using h)]
end Go.Proofs.YtcfhnaohbaplhaaGreatDoor
namespace Go.Ab
def RV:List UInt8:=[116,114,117,101]
def M8:List UInt8:=[102,97,108,115,101]
def yP:List UInt8:=[99,97,108,108]
def sU:List UInt8:=[109,101,116,104,111,100]
def Ci:List UInt8:=[110,101,119]
def pV:List UInt8:=[99,97,115,101]
def Cj:List UInt8:=[108,101,116]
def JH:List UInt8:=[105,102]
def yQ:List UInt8:=[112,97,99,107]
def Ep:List UInt8:=[116,104,101]
def jB(k:Int)(tr nm:List UInt8)(ty:ah):List aj:=
 if k=4 then aT [yP,nm] else if k=5 then aT [sU,tr,nm] else if k=6 then aT [Ci,nm] else if k=8 then aT [Cj,nm] else
 if k=9 then aT [JH] else if k=10 then aT [nm] else if k=11 then aT [yQ,tr] else if k=12 then [bO Ep,cB ty] else aT [pV]
mutual
def eG:au→aj
 | .mk k tr nm n ty zs ms=>if k=1 then bO (Lib.itoa n) else if k=2 then bO (if n=1 then RV else M8) else if k=3 then bO nm else
   bR (jB k tr nm ty++Er zs++(if k=4∨k=5∨k=6∨k=8∨k=9∨k=10∨k=11∨k=12 then [] else Es ms))
def Er:List au→List aj
 |[]=>[]
 |t::ts=>eG t::Er ts
def wH:aX→aj
 | .mk c vs b=>bR ([bO c]++aT vs++[eG b])
def Es:List aX→List aj
 |[]=>[]
 |t::ts=>wH t::Es ts
end
theorem AA:∀l,Er l=l.map eG
 |[]=>rfl
 |t::ts=>by rw[Er,List.map_cons,AA ts]
theorem AB:∀l,Es l=l.map wH
 |[]=>rfl
 |t::ts=>by rw[Es,List.map_cons,AB ts]
theorem Ck(x:au):eG x=if x.aU=1 then bO (Lib.itoa x.fN) else if x.aU=2 then bO (if x.fN=1 then RV else M8) else if x.aU=3 then bO x.fName else
 bR (jB x.aU x.bI x.fName x.fType++x.fArgs.map eG++(if x.aU=4∨x.aU=5∨x.aU=6∨x.aU=8∨x.aU=9∨x.aU=10∨x.aU=11∨x.aU=12 then [] else x.aW.map wH)):=by
 cases x;rw[eG,AA,AB];rfl
theorem U8(x:aX):wH x=bR ([bO x.dw]++aT x.aF++[eG x.fBody]):=by cases x;rw[wH];rfl
def M9:List au→Nat
 |[]=>0
 |x::xs=>x.sz+M9 xs
theorem Et:∀l,aI (l.map au.enc)=M9 l
 |[]=>rfl
 |x::xs=>by rw[List.map_cons,aI,M9,Et xs];rfl
def Na:List aX→Nat
 |[]=>0
 |x::xs=>x.sz+Na xs
theorem Eu:∀l,aI (l.map aX.enc)=Na l
 |[]=>rfl
 |x::xs=>by rw[List.map_cons,aI,Na,Eu xs];rfl
theorem Ev(x:au):x.sz=x.bI.length+x.fName.length+x.fType.sz+(x.fArgs.length+M9 x.fArgs)+(x.aW.length+Na x.aW):=by
 rw[←Et,←Eu];simp only[au.sz,au.aH,bL,bf,D.sz,List.length_map,ah.dn];omega
theorem Cm(x:aX):x.sz=x.dw.length+(x.aF.length+(x.aF.map List.length).sum)+x.fBody.sz:=by
 rw[←dA];simp only[aX.sz,aX.aH,bL,bf,D.sz,List.length_map,au.dn];omega
theorem Da:∀(k n:Nat),n<10^ (k+1)→(Lib.decDigits n).length≤k+1
 |0,n,h=>by rw[Lib.decDigits,dif_pos (by simpa using h)];simp
 |k+1,n,h=>by
  rw[Lib.decDigits]
  split
  ·simp
  ·rw[List.length_append]
   have:=Da k (n/10) (by rw[Nat.pow_succ] at h;omega)
   simp;omega
theorem XJ{n:Int}(h: -999999≤n∧n≤999999):(Lib.itoa n).length≤7:=by
 unfold Lib.itoa
 split
 ·have:=Da 5 n.natAbs (by omega)
  simp;omega
 ·have:=Da 5 n.toNat (by omega)
  omega
theorem U9(k:Int)(tr nm:List UInt8)(ty:ah):(jB k tr nm ty).length≤3∧fu (jB k tr nm ty)≤18+tr.length+nm.length+16*ty.sz:=by
 have h:=vW ty
 unfold jB
 repeat' (first|(split;·refine⟨by simp[aT],?_⟩;simp[fu,aT,iQ,yP,sU,Ci,Cj,JH,yQ,Ep,pV];omega))
 refine⟨by simp[aT],?_⟩;simp[fu,aT,iQ,pV];omega
mutual
theorem Cn:∀x:au,gV x=true→(eG x).sz≤24+32*x.sz
 | .mk k tr nm n ty zs ms=>fun hok=>by
   rw[gV,Bool.and_eq_true,Bool.and_eq_true] at hok
   have hf:=iN hok.1
   have h1:=PZ zs hok.2.1
   have h2:=P5 ms hok.2.2
   have h3:=U9 k tr nm ty
   rw[Ev]
   simp only[au.fName,au.fArgs,au.bI,au.fType,au.aW]
   rw[eG]
   split
   ·rename_i hk
    have h4:=hf.2.2.2.1
    simp only[au.aU,au.fN,hk,if_true] at h4
    have:=XJ h4
    rw[iQ];omega
   ·split
    ·rw[iQ];split<;>simp[RV,M8]<;>omega
    ·split
     ·rw[iQ];omega
     ·rw[iI,gJ,gJ,List.length_append,List.length_append,AA,List.length_map,←AA]
      split
      ·simp[fu];omega
      ·rw[AB,List.length_map,←AB];omega
theorem PZ:∀xs:List au,kW xs=true→fu (Er xs)≤24*xs.length+32*M9 xs
 |[],_=>by simp[Er,fu]
 |x::xs,h=>by
  rw[kW,Bool.and_eq_true] at h
  have h1:=Cn x h.1
  have h2:=PZ xs h.2
  rw[Er,fu,M9,List.length_cons];omega
theorem aa8:∀x:aX,um x=true→(wH x).sz≤26+32*x.sz
 | .mk c vs b=>fun hok=>by
   rw[um,Bool.and_eq_true,Bool.and_eq_true] at hok
   have h1:=Cn b hok.2.2
   rw[Cm]
   simp only[aX.dw,aX.aF,aX.fBody]
   rw[wH,iI,gJ,gJ,List.length_append,List.length_append,iD,ng]
   simp[fu,iQ];omega
theorem P5:∀xs:List aX,nG xs=true→fu (Es xs)≤26*xs.length+32*Na xs
 |[],_=>by simp[Es,fu]
 |x::xs,h=>by
  rw[nG,Bool.and_eq_true] at h
  have h1:=aa8 x h.1
  have h2:=P5 xs h.2
  rw[Es,fu,Na,List.length_cons];omega
end
end Go.Ab
namespace Go.Ab
section
variable {P:Program} {N:Nat} {S:Store} {s:St} {tm:List (Nat×V)}
def Db(E:Md)(R:Array Oper)(K:St→Prop)(s:St):Prop:=KN E R s.tm=true∧K s
@[congr] theorem abL {E:Md} {R:Array Oper} {K:St→Prop} {s s':St} (h2:s=s'):Db E R K s=Db E R K s':=by rw[h2]
def wI(P:Program)(N:Nat):Code→(Exit→St→Prop)→St→Prop
 | .seq x y,Q,s=>wI P N x (lD (wI P N y Q) Q) s
 | .region _ R true,Q,s=>om P (vQ R N) R R.toList s (Db (vQ R N) R (Q .normal))
 | .region id R false,Q,s=>CW P N (.region id R false) Q s
 | .cond c x y,Q,s=>CW P N (.cond c x y) Q s
 | .block id c,Q,s=>CW P N (.block id c) Q s
 | .exit id,Q,s=>CW P N (.exit id) Q s
 | .ret,Q,s=>CW P N .ret Q s
 | .skip,Q,s=>CW P N .skip Q s
 | .loop c,Q,s=>CW P N (.loop c) Q s
 |_,_,_=>False
theorem ZG{x y:Code}{Q:Exit→St→Prop}:wI P N (.seq x y) Q s=wI P N x (lD (wI P N y Q) Q) s:=by rw[wI]
theorem XK{id:Nat}{l:List Oper}{Q:Exit→St→Prop}:wI P N (.region id ⟨l⟩ true) Q s=om P (vQ ⟨l⟩ N) ⟨l⟩ l s (Db (vQ ⟨l⟩ N) ⟨l⟩ (Q .normal)):=by rw[wI]
theorem RX{id:Nat}{l:List Oper}{Q:Exit→St→Prop}:wI P N (.region id ⟨l⟩ false) Q s=CW P N (.region id ⟨l⟩ false) Q s:=by rw[wI]
theorem XL{c:Operand}{x y:Code}{Q:Exit→St→Prop}:wI P N (.cond c x y) Q s=CW P N (.cond c x y) Q s:=by rw[wI]
theorem ZH{Q:Exit→St→Prop}:wI P N .ret Q s=CW P N .ret Q s:=by rw[wI]
theorem XM{Q:Exit→St→Prop}:wI P N .skip Q s=CW P N .skip Q s:=by rw[wI]
end
attribute [go_sem ↓] ZG XK RX XL ZH XM
end Go.Ab
namespace Go.Ab
section
variable {P:Program} {N:Nat} {S:Store} {s:St} {tm:List (Nat×V)}
def oG(P:Program)(N:Nat):Code→(Exit→St→Prop)→St→Prop
 | .seq x y,Q,s=>oG P N x (lD (oG P N y Q) Q) s
 | .region _ R true,Q,s=>om P (vQ R N) R R.toList s (Db (vQ R N) R (Q .normal))
 | .region id R false,Q,s=>CW P N (.region id R false) Q s
 | .cond c x y,Q,s=>CZ (ev s.tm c) (oG P N x Q) (oG P N y Q) s
 | .block id c,Q,s=>oG P N c (wS id Q) s
 | .exit id,Q,s=>CW P N (.exit id) Q s
 | .ret,Q,s=>CW P N .ret Q s
 | .skip,Q,s=>CW P N .skip Q s
 | .loop c,Q,s=>CW P N (.loop c) Q s
 |_,_,_=>False
theorem ZI{x y:Code}{Q:Exit→St→Prop}:oG P N (.seq x y) Q s=oG P N x (lD (oG P N y Q) Q) s:=by rw[oG]
theorem XO{id:Nat}{l:List Oper}{Q:Exit→St→Prop}:oG P N (.region id ⟨l⟩ true) Q s=om P (vQ ⟨l⟩ N) ⟨l⟩ l s (Db (vQ ⟨l⟩ N) ⟨l⟩ (Q .normal)):=by rw[oG]
theorem RY{id:Nat}{l:List Oper}{Q:Exit→St→Prop}:oG P N (.region id ⟨l⟩ false) Q s=CW P N (.region id ⟨l⟩ false) Q s:=by rw[oG]
theorem XP{c:Operand}{x y:Code}{Q:Exit→St→Prop}:oG P N (.cond c x y) Q s=CZ (ev s.tm c) (oG P N x Q) (oG P N y Q) s:=by rw[oG]
theorem Va{id:Nat}{c:Code}{Q:Exit→St→Prop}:oG P N (.block id c) Q s=oG P N c (wS id Q) s:=by rw[oG]
theorem XQ{id:Nat}{Q:Exit→St→Prop}:oG P N (.exit id) Q s=CW P N (.exit id) Q s:=by rw[oG]
theorem ZJ{Q:Exit→St→Prop}:oG P N .ret Q s=CW P N .ret Q s:=by rw[oG]
theorem XR{Q:Exit→St→Prop}:oG P N .skip Q s=CW P N .skip Q s:=by rw[oG]
theorem XT{c:Code}{Q:Exit→St→Prop}:oG P N (.loop c) Q s=CW P N (.loop c) Q s:=by rw[oG]
end
attribute [go_sem ↓] ZI XO RY XP Va XQ ZJ XR XT
end Go.Ab
namespace Go.Ab
section
variable {P:Program} {N:Nat} {S:Store} {s:St} {tm:List (Nat×V)}
end
end Go.Ab
namespace Go.Ab
theorem RZ{P:Program}{N:Nat}(n:Nat){f:FuncId}{fn:Func}{c:Code}{args:List V}{bM:List Obj}{Ω:Store}{post:V→Store→Prop}{rs:List ResultVar}(jr:P.follows .mixedOrders=true)(hf:P.funcs[f]? =some fn)(hN:fn.ntmps=N)
 (hb:fn.body=some c) (hn:(fn.name== "runtime.NumGoroutine")=false) (hr:fn.results.toList=rs) (hl:Nat.ble args.length N=true) (hok:codeOk N c=true)
 (h:CW P N c (ML P rs post) ⟨nS (args.map (V.up 1)) 0,[.seed n]::bM::Ω⟩):dF P f args (bM::Ω) post:=by
 subst hN
 subst hr
 exact JC hf hb hn (Nat.le_of_ble_eq_true hl) (HY n (lK jr c _ _ hok h))
theorem Nb{P:Program}{N:Nat}{c:Code}{Q:Exit→St→Prop}{tm:List (Nat×V)}{Ω:Store}(n k:Nat)(h:AW P N c Q ⟨tm,[.seed n,.seed k]::Ω⟩):AW P N c Q ⟨tm,[]::Ω⟩:=by
 refine HY n (oo h fun a w σ β hR=> ?_)
 obtain⟨bo,bΩ,rfl,hlen⟩:=frames hR
 obtain⟨hS',hk,hst⟩:=hR.S.push (o:=.seed k) (h:=undef) (Grow.refl hR.S.live) hlen trivial (fun b hb=>by cases hb)
 exact⟨σ,_,⟨hR.size,hR.defers,hS',fun u=>(hR.T u).mono (fF.refl _ _) hk⟩,hst,Keep.refl _ _⟩
section
variable {P:Program} {N:Nat} {S:Store}
theorem mY(n k:Nat){f:FuncId}{fn:Func}{c:Code}{args:List V}{post:V→Store→Prop}{rs:List ResultVar}(jr:P.follows .mixedOrders=true)(hf:P.funcs[f]? =some fn)(hN:fn.ntmps=N)
 (hb:fn.body=some c) (hn:(fn.name== "runtime.NumGoroutine")=false) (hr:fn.results.toList=rs) (hl:Nat.ble args.length N=true) (hok:codeOk N c=true)
 (h:CW P N c (M7 P n rs post) ⟨nS (args.map (V.up 1)) 0,[.seed n,.seed k]::S⟩):dF P f args S post:=by
 subst hN
 subst hr
 exact vB hf hb hn (Nat.le_of_ble_eq_true hl) (Nb n k (xO (yg n) (lK jr c _ _ hok h)))
end
end Go.Ab
namespace Go.Ab
section
variable {P:Program} {w w':World} {σ σ':Nat→Nat} {S:Store} {β:Hs}
def oQ(w:World)(σ:Nat→Nat)(lo hi b:Nat):Prop:=∃c t fz m,w.heap[b]? =some (.cells c t fz)∧σ b=c.size+1+m∧lo≤m∧m<hi
theorem oQ.mono{lo hi lo' hi' b:Nat}(h:oQ w σ lo hi b)(h1:lo'≤lo)(h2:hi≤hi'):oQ w σ lo' hi' b:=by
 obtain⟨c,t,fz,m,a1,a2,a3,a4⟩:=h
 exact⟨c,t,fz,m,a1,a2,by omega,by omega⟩
theorem oQ.apart{lo hi lo' hi' b:Nat}(h:oQ w σ lo hi b)(h':oQ w σ lo' hi' b)(ho:hi≤lo'):False:=by
 obtain⟨c,t,fz,m,a1,a2,a3,a4⟩:=h
 obtain⟨c',t',Lm,m',b1,b2,b3,b4⟩:=h'
 rw[a1] at b1;cases b1
 omega
abbrev Kids:=List (List (Option Value))
def lF(rows:Kids)(i o:Nat):Option Value:=((rows[i]?).bind fun r=>r[o]?).bind id
def YE(rows:Kids):Array Value:=(rows.map fun r=>Value.tuple (r.map fun u=>u.getD (.bool false)).toArray).toArray
def mkT(v:Value)(rows:Kids):Value:=.tuple #[v,.tuple (YE rows)]
theorem P6{v:Value}{rows:Kids}:hdr (mkT v rows)=some v:=rfl
def IsT(v:Value):Prop:=∃a,v=.tuple a
theorem Ip{v:Value}{rows:Kids}(h:∀i o u,lF rows i o=some u→IsT u)(i o:Nat):kid (mkT v rows) i o=lF rows i o:=by
 have h':=h i o
 unfold kid mkT YE lF at *
 simp only[List.getElem?_toArray,List.getElem?_cons_succ,List.getElem?_cons_zero,List.getElem?_map]
 cases hr:rows[i]? with
 |none=>rfl
 |some r=>
  rw[hr] at h'
  simp only[Option.map_some,List.getElem?_toArray,List.getElem?_map]
  cases hu:r[o]? with
  |none=>simp[hu]
  |some u=>
   simp only[Option.bind_some,hu,id] at h'
   cases u with
   |none=>simp[hu]
   |some u=>
    obtain⟨a,rfl⟩:=h' u rfl
    simp[hu]
def KU(w:World)(d:D)(v:Value)(u:Option Value):Prop:=
 match d with
 | .sl es=>∃T,u=some T∧IsT T∧hdr T=some v∧nR w es T
 |d=>u=none∧SD d v
theorem Nc{z:Nat}:∀{rs:List (List D)} {n:Nat},(∀r∈iX rs n,r.length=z)→∀r∈rs,r.length=z
 |[],_,_,r,h=>by cases h
 |a::rs,n,ha,r,h=>by
  rw[iX] at ha
  rcases List.mem_cons.1 h with e|h
  ·subst e;rw[←jy r n];exact ha _ (by simp)
  ·exact Nc (n:=n+uq a) (fun r hr=>ha r (by simp[hr])) r h
structure afe (w:World) (σ:Nat→Nat) (r:List D) (n m:Nat) (vals:Nat→Value) (us:List (Option Value)):Prop where
 len:us.length=r.length
 cell:∀(j:Nat) (d:D),r[j]? =some d→∃u,us[j]? =some u∧KU w d (vals j) u
 own:∀(j:Nat) (u:Value),us[j]? =some (some u)→∀b,kH u b→oQ w σ n m b
 apart:∀(j j':Nat) (u u':Value) (b:Nat),j≠j'→us[j]? =some (some u)→us[j']? =some (some u')→kH u b→kH u' b→False
structure adn (w:World) (σ:Nat→Nat) (z:Nat) (rs:List (List D)) (n m:Nat) (vals:Nat→Value) (U:Kids):Prop where
 cell:∀(i o:Nat) (d:D),cellAt rs i o=some d→∃u,((U[i]?).bind fun r=>r[o]?)=some u∧KU w d (vals (i*z+o)) u
 kid:∀(i o:Nat) (u:Value),lF U i o=some u→∃es,cellAt rs i o=some (.sl es)
 own:∀(i o:Nat) (u:Value),lF U i o=some u→∀b,kH u b→oQ w σ n m b
 apart:∀(i o i' o':Nat) (u u':Value) (b:Nat),(i,o)≠(i',o')→lF U i o=some u→lF U i' o'=some u'→kH u b→kH u' b→False
theorem uy{us:List (Option Value)}{U:Kids}{o:Nat}{u:Value}:lF (us::U) 0 o=some u↔us[o]? =some (some u):=by
 show(us[o]?).bind id=some u↔_
 cases us[o]? with
 |none=>simp
 |some x=>simp
mutual
theorem ado:∀(d:D) (n:Nat) (v:Value),o7 d=true→dL w σ (rP d n) v→∃u,KU w d v u∧∀T,u=some T→∀b,kH T b→oQ w σ n (n+uo d) b
 | .sl es,n,v,hp,h=>by
   rw[rP] at h
   have hl:=uw es (n+1)
   have hrec:=Vb es (n+1)
   have hrow:=fun z=>Nc (z:=z) (rs:=es) (n:=n+1)
   generalize iX es (n+1)=q at h hl hrec hrow
   have hempty:∀a cap,es=[]→v=.slice a 0 cap→∃u,KU w (.sl es) v u∧∀T,u=some T→∀b,kH T b→oQ w σ n (n+uo (.sl es)) b:=by
    rintro a cap rfl rfl
    have hk:∀i o,kid (mkT (.slice a 0 cap) []) i o=none:=fun i o=>by rw[Ip (fun i o u h=>by simp[lF] at h)];simp[lF]
    refine⟨some (mkT (.slice a 0 cap) []),⟨_,rfl,⟨_,rfl⟩,rfl,.nil a cap _ rfl hk⟩,fun T hT b hb=> ?_⟩
    cases hT
    exfalso
    cases hb with
    |here h1 h2=>rw[P6] at h1;cases h1;omega
    |kid h1 h2=>rw[hk] at h1;cases h1
   cases h with
   |wo n a cap=>exact hempty a cap (List.eq_nil_of_length_eq_zero (by simpa using hl.symm)) rfl
   |ol n b off cap z q vals c t hcap hlen hb hσ hfit hc hv=>
    by_cases hne:es=[]
    ·subst hne
     have hq0:q.length=0:=by simpa using hl
     exact hempty _ _ rfl (by rw[hq0])
    rw[hl] at hcap hfit hc ⊢
    obtain⟨U,hU⟩:=hrec z vals (hrow z hlen) (by simpa [o7] using hp) hv
    have hrl:=hrow z hlen
    have hT:∀i o u,lF U i o=some u→IsT u:=fun i o u hu=>by
     obtain⟨es',he⟩:=hU.kid i o u hu
     obtain⟨u',h1,h2⟩:=hU.cell i o _ he
     obtain⟨T,h3,h4,_⟩:=h2
     unfold lF at hu
     rw[h1,h3] at hu
     cases hu;exact h4
    have qA:∀i o,kid (mkT (.slice (some ⟨b,off,none⟩) es.length cap) U) i o=lF U i o:=Ip hT
    have hcell:∀i o es',cellAt es i o=some (.sl es')→∃T,lF U i o=some T∧hdr T=some (vals (i*z+o))∧nR w es' T:=fun i o es' he=>by
     obtain⟨u',h1,T,h3,h4,h5,h6⟩:=hU.cell i o _ he
     refine⟨T,?_,h5,h6⟩
     unfold lF
     rw[h1,h3];rfl
    have hself:∀x,oQ w σ (n+1) (n+1+vI es) x→x≠b:=by
     rintro x ⟨c',t',Lm,m,a1,a2,a3,a4⟩ rfl
     rw[hb] at a1;cases a1
     omega
    refine⟨some (mkT (.slice (some ⟨b,off,none⟩) es.length cap) U),⟨_,rfl,⟨_,rfl⟩,rfl,?_⟩,fun T hT' x hx=> ?_⟩
    ·refine .mk b off cap z es _ c t (fun i o=>vals (i*z+o)) (fun i o=>(lF U i o).getD undef) rfl hne hcap hrl hb hfit (fun i o d hd=> ?_) (fun i o d hd=> ?_) (fun i o es' he=> ?_) (fun i o es' he=> ?_) (fun i o u hu hb'=> ?_) (fun i o i' o' u u' x YF hu hu' h1 h2=> ?_) (fun i o u hu=> ?_)
     ·obtain⟨hi,ho⟩:=uQ hd
      rw[hrl _ (List.getElem_mem hi)] at ho
      refine hc _ ?_
      have:(i+1)*z≤es.length*z:=Nat.mul_le_mul_right _ hi
      rw[Nat.add_mul,Nat.one_mul] at this
      omega
     ·obtain⟨u,h1,h2⟩:=hU.cell i o d hd
      cases d<;>first|exact .inl ⟨_,rfl⟩|exact .inr h2.2
     ·obtain⟨T,h1,h2,h3⟩:=hcell i o es' he
      rw[qA,h1]
      exact⟨rfl,h2⟩
     ·obtain⟨T,h1,h2,h3⟩:=hcell i o es' he
      rw[h1];exact h3
     ·rw[qA] at hu
      exact hself b (hU.own i o u hu b hb') rfl
     ·rw[qA] at hu hu'
      exact hU.apart i o i' o' u u' x YF hu hu' h1 h2
     ·rw[qA] at hu
      exact hU.kid i o u hu
    ·cases hT'
     cases hx with
     |here h1 h2=>rw[P6] at h1;cases h1;exact⟨c,t,(0,0),n,hb,hσ,Nat.le_refl _,by rw[uo];omega⟩
     |kid h1 h2=>
      rw[qA] at h1
      exact(hU.own _ _ _ h1 _ h2).mono (by omega) (by rw[uo];omega)
 | .ol m es,n,v,hp,h=>by simp[o7] at hp
 | .b x,n,v,hp,h=>by rw[rP] at h;cases h;exact⟨none,⟨rfl,rfl⟩,fun T h=>by cases h⟩
 | .i k x,n,v,hp,h=>by rw[rP] at h;cases h;exact⟨none,⟨rfl,rfl⟩,fun T h=>by cases h⟩
 | .s l,n,v,hp,h=>by rw[rP] at h;cases h;exact⟨none,⟨rfl,rfl⟩,fun T h=>by cases h⟩
 | .o u,n,v,hp,h=>by simp[o7] at hp
theorem R3:∀(r:List D) (n:Nat) (vals:Nat→Value),jo r=true→(∀(j:Nat) (d:D),(kS r n)[j]? =some d→dL w σ d (vals j))→∃us,afe w σ r n (n+uq r) vals us
 |[],n,vals,hp,h=>⟨[],rfl,fun j d h=>by simp at h,fun j u h=>by simp at h,fun j j' u u' b _ h=>by simp at h⟩
 |d::r,n,vals,hp,h=>by
  rw[jo,Bool.and_eq_true] at hp
  rw[kS] at h
  obtain⟨u,h1,h2⟩:=ado d n (vals 0) hp.1 (h 0 _ rfl)
  obtain⟨us,uK⟩:=R3 r (n+uo d) (fun j=>vals (j+1)) hp.2 fun j x hx=>h (j+1) x hx
  rw[uq]
  have hown:∀(j:Nat) (T:Value),us[j]? =some (some T)→∀b,kH T b→oQ w σ (n+uo d) (n+uo d+uq r) b:=uK.own
  refine⟨u::us,by rw[List.length_cons,List.length_cons,uK.len],fun j x hx=> ?_,fun j T hT b hb=> ?_,fun j j' T T' b hj hT hT' hb hb'=> ?_⟩
  ·cases j with
   |zero=>simp at hx;subst hx;exact⟨u,rfl,h1⟩
   |succ j=>exact uK.cell j x hx
  ·cases j with
   |zero=>simp at hT;exact(h2 T hT b hb).mono (Nat.le_refl _) (by omega)
   |succ j=>exact(hown j T hT b hb).mono (by omega) (by omega)
  ·cases j with
   |zero=>
    cases j' with
    |zero=>exact hj rfl
    |succ j'=>simp at hT;exact(h2 T hT b hb).apart (hown j' T' hT' b hb') (Nat.le_refl _)
   |succ j=>
    cases j' with
    |zero=>simp at hT';exact(h2 T' hT' b hb').apart (hown j T hT b hb) (Nat.le_refl _)
    |succ j'=>exact uK.apart j j' T T' b (by omega) hT hT' hb hb'
theorem Vb:∀(rs:List (List D)) (n z:Nat) (vals:Nat→Value),(∀r∈rs,r.length=z)→jA rs=true→(∀(j:Nat) (d:D),(iX rs n).flatten[j]? =some d→dL w σ d (vals j))→∃U,adn w σ z rs n (n+vI rs) vals U
 |[],n,z,vals,hz,hp,h=>⟨[],fun i o d h=>by simp[cellAt] at h,fun i o u h=>by simp[lF] at h,fun i o u h=>by simp[lF] at h,fun i o i' o' u u' b _ h=>by simp[lF] at h⟩
 |r::rs,n,z,vals,hz,hp,h=>by
  rw[jA,Bool.and_eq_true] at hp
  rw[iX,List.flatten_cons] at h
  have hrz:r.length=z:=hz r (by simp)
  obtain⟨us,uK⟩:=R3 r n vals hp.1 fun j d hd=>h j d (by rw[List.getElem?_append_left (List.getElem?_eq_some_iff.1 hd).1];exact hd)
  obtain⟨U,hU⟩:=Vb rs (n+uq r) z (fun j=>vals (z+j)) (fun r hr=>hz r (by simp[hr])) hp.2 fun j d hd=>h (z+j) d (by
   rw[List.getElem?_append_right (by rw[jy];omega),jy,hrz,Nat.add_sub_cancel_left];exact hd)
  rw[vI]
  have hown:∀(i o:Nat) (T:Value),lF U i o=some T→∀b,kH T b→oQ w σ (n+uq r) (n+uq r+vI rs) b:=hU.own
  refine⟨us::U,fun i o d hd=> ?_,fun i o u hu=> ?_,fun i o T hT b hb=> ?_,fun i o i' o' T T' b YF hT hT' hb hb'=> ?_⟩
  ·cases i with
   |zero=>
    obtain⟨u,h1,h2⟩:=uK.cell o d hd
    exact⟨u,h1,by rw[Nat.zero_mul,Nat.zero_add];exact h2⟩
   |succ i=>
    obtain⟨u,h1,h2⟩:=hU.cell i o d hd
    exact⟨u,h1,by rw[show(i+1)*z+o=z+(i*z+o) by rw[Nat.add_mul];omega];exact h2⟩
  ·cases i with
   |zero=>
    rw[uy] at hu
    have ho:o<r.length:=by rw[←uK.len];exact(List.getElem?_eq_some_iff.1 hu).1
    obtain⟨u',h1,h2⟩:=uK.cell o r[o] (List.getElem?_eq_getElem ho)
    rw[hu] at h1;cases h1
    have hc:cellAt (r::rs) 0 o=some r[o]:=List.getElem?_eq_getElem ho
    rw[hc]
    generalize r[o]=d at h2
    cases d<;>first|exact⟨_,rfl⟩|(cases h2.1)
   |succ i=>exact hU.kid i o u hu
  ·cases i with
   |zero=>rw[uy] at hT;exact(uK.own o T hT b hb).mono (Nat.le_refl _) (by omega)
   |succ i=>exact(hown i o T hT b hb).mono (by omega) (by omega)
  ·cases i with
   |zero=>
    rw[uy] at hT
    cases i' with
    |zero=>rw[uy] at hT';exact uK.apart o o' T T' b (fun e=>YF (by rw[e])) hT hT' hb hb'
    |succ i'=>exact(uK.own o T hT b hb).apart (hown i' o' T' hT' b hb') (Nat.le_refl _)
   |succ i=>
    cases i' with
    |zero=>rw[uy] at hT';exact(uK.own o' T' hT' b hb').apart (hown i o T hT b hb) (Nat.le_refl _)
    |succ i'=>exact hU.apart i o i' o' T T' b (fun e=>YF (by cases e;rfl)) hT hT' hb hb'
end
end
end Go.Ab
namespace Go.Ab
section
variable {P:Program} {w w':World} {σ σ':Nat→Nat} {S:Store} {β:Hs}
def Gu:D→List (List D)
 | .sl es=>es
 |_=>[]
def YG(k:Key)(j:Nat):D→C
 | .sl _=>.xp k j []
 |d=>.d d
def Ew(k:Key):Nat→List D→List C
 |_,[]=>[]
 |j,d::ds=>YG k j d::Ew k (j+1) ds
theorem y7{k:Key}:∀(j:Nat) (r:List D),(Ew k j r).length=r.length
 |_,[]=>rfl
 |j,d::ds=>by rw[Ew,List.length_cons,y7,List.length_cons]
theorem P7{k:Key}:∀(r:List D) (j i:Nat),(Ew k j r)[i]? =(r[i]?).map (YG k (j+i))
 |[],j,i=>by simp[Ew]
 |d::ds,j,0=>rfl
 |d::ds,j,i+1=>by
  rw[Ew,List.getElem?_cons_succ,List.getElem?_cons_succ,P7 ds (j+1) i,show j+1+i=j+(i+1) by omega]
def R4:C→C
 | .d x=>.d x
 | .bC es=>.d (.sl es)
 | .bH _ es=>.d (.sl es)
 | .j5 n es=>.d (.ol n es)
 | .kG cs=>.kG cs
 |_=>.any
def R5:V→V
 | .c x=>.c (R4 x)
 | .agg cs=>.agg (cs.map R4)
 |_=>.any
theorem JI{c:C}{v:Value}(h:jc w σ S β c v)(S':Store)(β':Hs):jc w σ S' β' (R4 c) v:=by
 cases c with
 |d x=>exact h
 |bC es=>exact h.1
 |bH k es=>exact h.1
 |j5 n es=>exact h.1
 |kG cs=>exact h
 |_=>trivial
theorem XU{x:V}{v:Value}(h:dD w σ S β x v)(S':Store)(β':Hs):dD w σ S' β' (R5 x) v:=by
 cases x with
 |c x=>exact⟨JI h.1 _ _,h.2⟩
 |agg cs=>
  obtain⟨a,ha,hl,hc⟩:=h
  refine⟨a,ha,by rw[List.length_map];exact hl,fun i x hx=> ?_⟩
  rw[List.getElem?_map] at hx
  cases hi:cs[i]? with
  |none=>rw[hi] at hx;cases hx
  |some y=>
   rw[hi] at hx;cases hx
   obtain⟨u,q1,q2,q3⟩:=hc i y hi
   exact⟨u,q1,JI q2 _ _,q3⟩
 |_=>trivial
theorem R6(hl:∀b,b<w.heap.size∨σ b=0)(hg:rZ w σ):eD w σ [] [] where
 rJ:=hg
 obj:=fun k o h=>by rw[mM] at h;cases h
 apart:=fun k k' o o' h h' b h1=>by rw[mM] at h1;cases h1
 shape:=⟨rfl,fun l fr h=>by simp at h⟩
 live:=hl
theorem P8{β:Hs}{b:Nat}:¬Own [] β b:=fun⟨k,o,h,h1,_⟩=>by rw[mM] at h1;cases h1
def abb(mk:List C→V)(m:Nat):Prop:=∀w σ S β cs v,cs.length=m→dD w σ S β (mk cs) v→∃vs,gu w σ S β cs vs∧∀w' σ' S' β' cs',cs'.length=m→gu w' σ' S' β' cs' vs→dD w' σ' S' β' (mk cs') v
def yh:Value:=mkT (.slice none 0 0) []
theorem JJ(i o:Nat):kid yh i o=none:=by
 unfold yh
 rw[Ip (fun i o u h=>by simp[lF] at h)];simp[lF]
theorem AJ{b:Nat}:¬kH yh b:=fun h=>by
 cases h with
 |here h1 h2=>cases h1
 |kid h1 h2=>rw[JJ] at h1;cases h1
theorem Nf(σ:Nat→Nat):∀n:Nat,∃m,∀b,b<n→σ b≤m
 |0=>⟨0,fun b h=>by omega⟩
 |n+1=>by
  obtain⟨m,hm⟩:=Nf σ n
  refine⟨max m (σ n),fun b hb=> ?_⟩
  by_cases e:b=n
  ·subst e;omega
  ·have:=hm b (by omega);omega
open Classical in
theorem dF.own{f:FuncId}{args:List V}{bM:List Obj}{Ω:Store}{mk:List C→V}{r:List D}(hm:abb mk r.length)(hp:jo r=true)
 (h:∀n,aD P f (args.map R5) (mk ((kS r n).map .d))):
 dF P f args (bM::Ω) (fun r' S'=>r'=mk (Ew (0,bM.length) 0 r)∧S'=(bM++[.xf (r.map Gu)])::Ω):=by
 refine⟨(h 0 []).1,fun w σ β vs hS hargs=> ?_⟩
 obtain⟨n,hn⟩:=Nf σ w.heap.size
 have Vd:nK w σ [] [] (args.map R5) vs:=by
  refine⟨by rw[List.length_map];exact hargs.1,fun j x hx=> ?_⟩
  rw[List.getElem?_map] at hx
  cases ha:args[j]? with
  |none=>rw[ha] at hx;cases hx
  |some y=>
   rw[ha] at hx;cases hx
   obtain⟨v,h1,h2⟩:=hargs.2 j y ha
   exact⟨v,h1,XU h2 _ _⟩
 refine((h n []).2 w σ [] vs (R6 hS.live hS.rJ) Vd).mono fun e w' ⟨v,r',S',σ',β',he,hS',hk,hst,hv,hr',hS2⟩=> ?_
 subst hr';subst hS2
 obtain⟨us0,hcs,hback⟩:=hm w' σ' _ β' _ v (by rw[List.length_map,jy]) hv
 have aff:us0.length=r.length:=by rw[←hcs.1,List.length_map,jy]
 obtain⟨us,uK⟩:=R3 r n (fun j=>us0.getD j undef) hp (fun j d hd=>by
  obtain⟨u,h1,h2,_⟩:=hcs.2 j (.d d) (by rw[List.getElem?_map,hd];rfl)
  simp only[List.getD_eq_getElem?_getD,h1,Option.getD_some]
  exact h2)
 let h0:Value:=.tuple (us.map fun u=>u.getD yh).toArray
 have hroot:∀j,tJ h0 j=(us[j]?).map fun u=>u.getD yh:=fun j=>by simp[h0,tJ]
 have hfresh:∀b,yB h0 b→w.heap.size≤b:=by
  rintro b ⟨j,T,h1,h2⟩
  rw[hroot] at h1
  cases hu:us[j]? with
  |none=>rw[hu] at h1;cases h1
  |some u=>
   rw[hu] at h1
   simp only[Option.map_some,Option.some.injEq] at h1
   cases u with
   |none=>subst h1;exact absurd h2 AJ
   |some u=>
    simp at h1;subst h1
    obtain⟨c,t,fz,m,a1,a2,a3,a4⟩:=uK.own j u hu b h2
    refine Nat.le_of_not_lt fun hlt=> ?_
    have h1:=(hst.far b hlt P8).2
    have h2:=hn b hlt
    omega
 let σ2:Nat→Nat:=fun b=>if yB h0 b then 0 else σ' b
 have hg:Grow w σ w' σ2:=⟨hst.size,hst.os,hst.output,fun b hb=>by
  obtain⟨h1,h2⟩:=hst.far b hb P8
  exact⟨h1,(if_neg fun hx=>by have:=hfresh b hx;omega).trans h2⟩,fun b=>by
  rcases hS'.live b with hb|hb
  ·exact .inl hb
  ·right;show(if yB h0 b then 0 else σ' b)=0;rw[hb];split<;>rfl⟩
 cases β with
 |nil=>have:=hS.shape.1;simp at this
 |cons bo bΩ=>
 have hlen:bo.length=bM.length:=by
  obtain⟨gr,g1,g2⟩:=hS.shape.2 0 bM rfl
  simp at g1;rw[g1];exact g2
 obtain⟨hS3,hk3,afg⟩:=hS.push (o:=.xf (r.map Gu)) (h:=h0) hg hlen (by
  refine⟨fun j es hj=> ?_,fun j T hT=> ?_,fun b hb=>if_pos hb,fun j j' T T' x hjj hT hT' hx hx'=> ?_⟩
  ·rw[List.getElem?_map] at hj
   cases hd:r[j]? with
   |none=>rw[hd] at hj;cases hj
   |some d=>
    rw[hd] at hj
    simp only[Option.map_some,Option.some.injEq] at hj
    subst hj
    obtain⟨u,h1,h2⟩:=uK.cell j d hd
    rw[hroot,h1]
    have hsc:(∀es,d≠ .sl es)→∃T,Option.map (fun u=>Option.getD u yh) (some u)=some T∧nR w' (Gu d) T:=fun hne=>by
     have hu:u=none:=by cases d<;>first|exact absurd rfl (hne _)|exact h2.1
     have hr0:Gu d=[]:=by cases d<;>first|exact absurd rfl (hne _)|rfl
     subst hu
     rw[hr0]
     exact⟨yh,rfl,.nil none 0 _ rfl JJ⟩
    cases d with
    |sl es=>obtain⟨T,rfl,_,_,h6⟩:=h2;exact⟨T,rfl,h6⟩
    |_=>exact hsc (fun es e=>by cases e)
  ·rw[List.length_map]
   rw[hroot] at hT
   cases hu:us[j]? with
   |none=>rw[hu] at hT;cases hT
   |some u=>rw[←uK.len];exact(List.getElem?_eq_some_iff.1 hu).1
  ·rw[hroot] at hT hT'
   cases hu:us[j]? with
   |none=>rw[hu] at hT;cases hT
   |some u=>
    cases hu':us[j']? with
    |none=>rw[hu'] at hT';cases hT'
    |some u'=>
     rw[hu] at hT;rw[hu'] at hT'
     simp only[Option.map_some,Option.some.injEq] at hT hT'
     cases u with
     |none=>subst hT;exact AJ hx
     |some u=>
      cases u' with
      |none=>subst hT';exact AJ hx'
      |some u'=>simp at hT hT';subst hT;subst hT';exact uK.apart j j' u u' x hjj hu hu' hx hx') (fun b hb=>hfresh b hb)
 refine⟨v,_,_,σ2,(bo++[h0])::bΩ,he,hS3,hk3,afg,?_,rfl,rfl⟩
 refine hback _ _ _ _ _ (by rw[y7]) ⟨by rw[y7,aff],fun j x hx=> ?_⟩
 rw[P7,Nat.zero_add] at hx
 cases hd:r[j]? with
 |none=>rw[hd] at hx;cases hx
 |some d=>
  rw[hd] at hx
  simp only[Option.map_some,Option.some.injEq] at hx
  obtain⟨u,h1,h2⟩:=uK.cell j d hd
  have hjl:j<(kS r n).length:=by rw[jy];exact(List.getElem?_eq_some_iff.1 hd).1
  obtain⟨v0,h3,_,h4⟩:=hcs.2 j (.d (kS r n)[j]) (by rw[List.getElem?_map,List.getElem?_eq_getElem hjl];rfl)
  have hv0:us0.getD j undef=v0:=by rw[List.getD_eq_getElem?_getD,h3];rfl
  simp only[hv0] at h2
  refine⟨v0,h3,?_,h4⟩
  have hsc:(∀es,d≠ .sl es)→jc w' σ2 ((bM++[.xf (r.map Gu)])::Ω) ((bo++[h0])::bΩ) (.d d) v0:=fun hne=>by
   have:SD d v0:=by cases d<;>first|exact absurd rfl (hne _)|exact h2.2
   exact K7 this
  cases d with
  |sl es=>
   subst hx
   obtain⟨T,rfl,_,h5,_⟩:=h2
   refine⟨_,dx _ _ _,fun rs _=>⟨h0,by rw[←hlen,dx],?_⟩⟩
   unfold CK
   rw[hroot,h1]
   exact h5
  |_=>subst hx;exact hsc (fun es e=>by cases e)
end
end Go.Ab
namespace Go.Ab
section
variable {P:Program} {w w':World} {σ σ':Nat→Nat} {S:Store} {β:Hs}
mutual
theorem afh{σ2:Nat→Nat}(hs:∀b c t fz,w.heap[b]? =some (.cells c t fz)→c.size<σ b→σ2 b=σ b):∀(d:D) (n:Nat) (v:Value),o7 d=true→dL w σ (rP d n) v→dL w σ2 (rP d n) v
 | .sl es,n,v,hp,h=>by
   rw[rP] at h ⊢
   have hrec:=YH hs es (n+1)
   generalize iX es (n+1)=q at h hrec ⊢
   cases h with
   |wo n a cap=>exact .wo n a cap
   |ol n b off cap z q vals c t hcap hlen hb hσ hfit hc hv=>exact .ol n b off cap z q vals c t hcap hlen hb ((hs b c t _ hb (by omega)).trans hσ) hfit hc (hrec vals (by simpa [o7] using hp) hv)
 | .ol m es,n,v,hp,h=>by simp[o7] at hp
 | .b x,n,v,hp,h=>by rw[rP] at h ⊢;cases h;constructor
 | .i k x,n,v,hp,h=>by rw[rP] at h ⊢;cases h;constructor
 | .s l,n,v,hp,h=>by rw[rP] at h ⊢;cases h;constructor
 | .o u,n,v,hp,h=>by simp[o7] at hp
theorem abe{σ2:Nat→Nat}(hs:∀b c t fz,w.heap[b]? =some (.cells c t fz)→c.size<σ b→σ2 b=σ b):∀(r:List D) (n:Nat) (vals:Nat→Value),jo r=true→(∀(j:Nat) (d:D),(kS r n)[j]? =some d→dL w σ d (vals j))→
 ∀(j:Nat) (d:D),(kS r n)[j]? =some d→dL w σ2 d (vals j)
 |[],n,vals,hp,h,j,d,hd=>by simp[kS] at hd
 |a::r,n,vals,hp,h,j,d,hd=>by
  rw[jo,Bool.and_eq_true] at hp
  rw[kS] at h hd
  cases j with
  |zero=>
   simp at hd;subst hd
   exact afh hs a n _ hp.1 (h 0 _ rfl)
  |succ j=>exact abe hs r (n+uo a) (fun i=>vals (i+1)) hp.2 (fun i d hi=>h (i+1) d hi) j d hd
theorem YH{σ2:Nat→Nat}(hs:∀b c t fz,w.heap[b]? =some (.cells c t fz)→c.size<σ b→σ2 b=σ b):∀(rs:List (List D)) (n:Nat) (vals:Nat→Value),jA rs=true→(∀(j:Nat) (d:D),(iX rs n).flatten[j]? =some d→dL w σ d (vals j))→
 ∀(j:Nat) (d:D),(iX rs n).flatten[j]? =some d→dL w σ2 d (vals j)
 |[],n,vals,hp,h,j,d,hd=>by simp[iX] at hd
 |r::rs,n,vals,hp,h,j,d,hd=>by
  rw[jA,Bool.and_eq_true] at hp
  rw[iX,List.flatten_cons] at h hd
  by_cases hj:j<(kS r n).length
  ·rw[List.getElem?_append_left hj] at hd
   exact abe hs r n vals hp.1 (fun j d hd=>h j d (by rw[List.getElem?_append_left (List.getElem?_eq_some_iff.1 hd).1];exact hd)) j d hd
  ·rw[List.getElem?_append_right (by omega)] at hd
   have:=YH hs rs (n+uq r) (fun i=>vals ((kS r n).length+i)) hp.2 (fun j d hd=>h _ d (by rw[List.getElem?_append_right (by omega),Nat.add_sub_cancel_left];exact hd)) (j-(kS r n).length) d hd
   rwa [show(kS r n).length+(j-(kS r n).length)=j by omega] at this
end
theorem nR.data{es:List (List D)}{T v:Value}(h:nR w es T)(hv:hdr T=some v)(hσ:∀b c t fz,kH T b→w.heap[b]? =some (.cells c t fz)→c.size≤σ b):dL w σ (.sl es) v:=by
 induction h generalizing v with
 |nil a cap T h hk=>rw[h] at hv;cases hv;exact .nil a cap
 |mk b off cap z es T c t vals kids hh hne hcap hlen hb hfit hc hs hk hx hself hap qA ih=>
  rw[hh] at hv;cases hv
  have hpos:0<es.length:=List.length_pos_iff.2 hne
  have hfl:=kL es z hlen
  have hidx:∀j,j<es.length*z→∃hi:j/z<es.length,j % z<z∧j/z*z+j % z=j:=fun j hj=>by
   have hz:0<z:=by rcases Nat.eq_zero_or_pos z with h|h;·rw[h] at hj;simp at hj
                   ·exact h
   exact⟨(Nat.div_lt_iff_lt_mul hz).2 hj,Nat.mod_lt _ hz,by rw[Nat.mul_comm];exact Nat.div_add_mod j z⟩
  have hcell:∀j d,es.flatten[j]? =some d→∃hi:j/z<es.length,cellAt es (j/z) (j % z)=some d∧j/z*z+j % z=j:=fun j d hd=>by
   have hj:j<es.length*z:=by rw[←hfl];exact(List.getElem?_eq_some_iff.1 hd).1
   obtain⟨hi,hm,he⟩:=hidx j hj
   refine⟨hi,?_,he⟩
   have:=flat_get es z hlen (j/z) (j % z) hi hm
   rw[he,hd] at this
   unfold cellAt
   rw[List.getElem?_eq_getElem hi]
   exact this.symm
  refine .sl b off cap z es (fun j=>vals (j/z) (j % z)) c t (0,0) hcap hlen hb (Nat.le_trans hfit (hσ b c t _ (.here hh hpos) hb)) (fun j hj=> ?_) (fun j d hd=> ?_)
  ·obtain⟨hi,hce,he⟩:=hcell j _ (List.getElem?_eq_getElem (by rw[hfl];exact hj))
   have:=hc _ _ _ hce
   rwa [he] at this
  ·obtain⟨hi,hce,he⟩:=hcell j d hd
   rcases hs _ _ _ hce with⟨es',rfl⟩|hsd
   ·obtain⟨k1,k2⟩:=hk _ _ _ hce
    exact ih _ _ _ hce k2 fun b' c' t' Lm ho hb'=>hσ b' c' t' Lm (.kid k1 ho) hb'
   ·exact K7 hsd
end
end Go.Ab
namespace Go.Ab
section
variable {P:Program} {w w':World} {σ σ':Nat→Nat} {S:Store} {β:Hs}
end
end Go.Ab
namespace Go.Ab
def abf(n:Nat)(out:List UInt8):List UInt8:=if h:n=0 then out else abf (n/10) (UInt8.ofNat (48+n % 10)::out)
termination_by n
decreasing_by omega
def adp(k:Int):List UInt8:=if k≤0 then [109,48] else 109::abf k.toNat []
mutual
def Gv:D→Nat
 | .sl es=>Ng es
 | .b _=>1
 | .i _ _=>1
 | .s _=>1
 | .o _=>0
 | .ol _ _=>0
def P9:List D→Nat
 |[]=>0
 |d::ds=>Gv d+P9 ds
def Ng:List (List D)→Nat
 |[]=>0
 |r::rs=>P9 r+Ng rs
end
mutual
def mkD:D→Int→D
 | .sl es,k=>.sl (abg es k)
 | .b _,k=>.b (decide (k.tmod 3=0))
 | .i kd _,k=>.i kd k
 | .s _,k=>.s (adp k)
 | .o v,_=>.o v
 | .ol n es,_=>.ol n es
def mkR:List D→Int→List D
 |[],_=>[]
 |d::ds,k=>mkD d k::mkR ds (k+Gv d)
def abg:List (List D)→Int→List (List D)
 |[],_=>[]
 |r::rs,k=>mkR r k::abg rs (k+P9 r)
end
mutual
def sV:D→Bool
 | .sl es=>jW es
 | .b _=>true
 | .i _ _=>true
 | .s _=>true
 | .o _=>true
 | .ol _ _=>true
def jF:List D→Bool
 |[]=>true
 |d::ds=>sV d&&jF ds
def jW:List (List D)→Bool
 |[]=>true
 |r::rs=>decide (r.length≤32)&&jF r&&jW rs
end
mutual
theorem adq:∀d:D,sV d=true→Gv d≤32*d.sz+1
 | .sl es,h=>by
   have:=Ve es (by simpa [sV] using h)
   simp only[Gv,D.sz];omega
 | .b _,_=>by simp[Gv]
 | .i _ _,_=>by simp[Gv]
 | .s _,_=>by simp[Gv]
 | .o _,_=>by simp[Gv]
 | .ol _ _,_=>by simp[Gv]
theorem Vf:∀r:List D,jF r=true→P9 r≤32*bL r+r.length
 |[],_=>by simp[P9]
 |d::ds,h=>by
  rw[jF,Bool.and_eq_true] at h
  have h1:=adq d h.1
  have h2:=Vf ds h.2
  simp only[P9,bL,List.length_cons];omega
theorem Ve:∀rs:List (List D),jW rs=true→Ng rs≤32*(rs.length+aI rs)
 |[],_=>by simp[Ng]
 |r::rs,h=>by
  rw[jW,Bool.and_eq_true,Bool.and_eq_true,decide_eq_true_eq] at h
  have h1:=Vf r h.1.2
  have h2:=Ve rs h.2
  simp only[Ng,aI,List.length_cons];omega
end
theorem gL:∀a b,jF (a++b)=(jF a&&jF b)
 |[],b=>by simp[jF]
 |d::ds,b=>by rw[List.cons_append,jF,jF,gL ds b,Bool.and_assoc]
theorem j4{α:Type}{f:α→List D}:∀{xs:List α},(∀x∈xs,jF (f x)=true∧(f x).length≤32)→jW (xs.map f)=true
 |[],_=>rfl
 |x::xs,h=>by
  rw[List.map_cons,jW,(h x (by simp)).1,j4 fun y hy=>h y (by simp[hy]),decide_eq_true (h x (by simp)).2];rfl
end Go.Ab
namespace Go.Proofs.YtcfhnaohbaplhaaGreatDoor
open Go Go.Ab
end Go.Proofs.YtcfhnaohbaplhaaGreatDoor
namespace Go.Ab
theorem sW(xs:List (List UInt8)):jA (xs.map encS)=true:=j3 fun _ _=>rfl
theorem sZ(xs:List (List UInt8)):jW (xs.map encS)=true:=j4 fun _ _=>⟨rfl,by simp[encS]⟩
mutual
theorem ah.fC:∀x:ah,jo x.enc=true∧jF x.enc=true
 | .mk a0 a1 a2=>by simp only[ah.enc,jo,o7,jF,sV,gK,gL,Bool.and_true,Bool.true_and,Bool.and_self,and_self,and_true,true_and,(ah.nI a2).1,(ah.nI a2).2]
theorem ah.nI:∀xs:List ah,jA (ah.encs xs)=true∧jW (ah.encs xs)=true
 |[]=>⟨rfl,rfl⟩
 |x::xs=>by
  have h:decide ((ah.enc x).length≤32)=true:=by rw[ah.cZ];rfl
  simp only[ah.encs,jA,jW,h,(ah.fC x).1,(ah.fC x).2,(ah.nI xs).1,(ah.nI xs).2,Bool.and_self,and_self]
end
theorem ah.iC(xs:List ah):jA (xs.map ah.enc)=true∧jW (xs.map ah.enc)=true:=by rw[←ah.jv];exact ah.nI xs
theorem dS.fC(x:dS):jo x.enc=true∧jF x.enc=true:=by
 rw[dS.aH];simp only[List.cons_append,List.nil_append,jo,o7,jF,sV,gK,gL,Bool.and_true,Bool.true_and,Bool.and_self,and_self,and_true,true_and,(ah.fC x.fType).1,(ah.fC x.fType).2]
theorem dS.iC(xs:List dS):jA (xs.map dS.enc)=true∧jW (xs.map dS.enc)=true:=⟨j3 fun x _=>x.fC.1,j4 fun x _=>⟨x.fC.2,by rw[dS.cZ];decide⟩⟩
theorem bA.fC(x:bA):jo x.enc=true∧jF x.enc=true:=by
 rw[bA.aH];simp only[List.cons_append,List.nil_append,jo,o7,jF,sV,gK,gL,Bool.and_true,Bool.true_and,Bool.and_self,and_self,and_true,true_and,(ah.fC x.fType).1,(ah.fC x.fType).2]
theorem bA.iC(xs:List bA):jA (xs.map bA.enc)=true∧jW (xs.map bA.enc)=true:=⟨j3 fun x _=>x.fC.1,j4 fun x _=>⟨x.fC.2,by rw[bA.cZ];decide⟩⟩
mutual
theorem au.fC:∀x:au,jo x.enc=true∧jF x.enc=true
 | .mk a0 a1 a2 a3 a4 a5 a6=>by simp only[au.enc,jo,o7,jF,sV,gK,gL,Bool.and_true,Bool.true_and,Bool.and_self,and_self,and_true,true_and,(ah.fC a4).1,(ah.fC a4).2,(au.nI a5).1,(au.nI a5).2,(aX.nI a6).1,(aX.nI a6).2]
theorem au.nI:∀xs:List au,jA (au.encs xs)=true∧jW (au.encs xs)=true
 |[]=>⟨rfl,rfl⟩
 |x::xs=>by
  have h:decide ((au.enc x).length≤32)=true:=by rw[au.cZ];rfl
  simp only[au.encs,jA,jW,h,(au.fC x).1,(au.fC x).2,(au.nI xs).1,(au.nI xs).2,Bool.and_self,and_self]
theorem aX.fC:∀x:aX,jo x.enc=true∧jF x.enc=true
 | .mk a0 a1 a2=>by simp only[aX.enc,jo,o7,jF,sV,gK,gL,Bool.and_true,Bool.true_and,Bool.and_self,and_self,and_true,true_and,sW a1,sZ a1,(au.fC a2).1,(au.fC a2).2]
theorem aX.nI:∀xs:List aX,jA (aX.encs xs)=true∧jW (aX.encs xs)=true
 |[]=>⟨rfl,rfl⟩
 |x::xs=>by
  have h:decide ((aX.enc x).length≤32)=true:=by rw[aX.cZ];rfl
  simp only[aX.encs,jA,jW,h,(aX.fC x).1,(aX.fC x).2,(aX.nI xs).1,(aX.nI xs).2,Bool.and_self,and_self]
end
theorem au.iC(xs:List au):jA (xs.map au.enc)=true∧jW (xs.map au.enc)=true:=by rw[←au.jv];exact au.nI xs
theorem aX.iC(xs:List aX):jA (xs.map aX.enc)=true∧jW (xs.map aX.enc)=true:=by rw[←aX.jv];exact aX.nI xs
mutual
theorem aj.fC:∀x:aj,jo x.enc=true∧jF x.enc=true
 | .mk a0 a1=>by simp only[aj.enc,jo,o7,jF,sV,gK,gL,Bool.and_true,Bool.true_and,Bool.and_self,and_self,and_true,true_and,(aj.nI a1).1,(aj.nI a1).2]
theorem aj.nI:∀xs:List aj,jA (aj.encs xs)=true∧jW (aj.encs xs)=true
 |[]=>⟨rfl,rfl⟩
 |x::xs=>by
  have h:decide ((aj.enc x).length≤32)=true:=by rw[aj.cZ];rfl
  simp only[aj.encs,jA,jW,h,(aj.fC x).1,(aj.fC x).2,(aj.nI xs).1,(aj.nI xs).2,Bool.and_self,and_self]
end
theorem aj.iC(xs:List aj):jA (xs.map aj.enc)=true∧jW (xs.map aj.enc)=true:=by rw[←aj.jv];exact aj.nI xs
theorem aS.fC(x:aS):jo x.enc=true∧jF x.enc=true:=by
 rw[aS.aH];simp only[List.cons_append,List.nil_append,jo,o7,jF,sV,gK,gL,Bool.and_true,Bool.true_and,Bool.and_self,and_self,and_true,true_and,(ah.iC x.aZ).1,(ah.iC x.aZ).2,(ah.fC x.bT).1,(ah.fC x.bT).2,sW x.aF,sZ x.aF,(au.fC x.fBody).1,(au.fC x.fBody).2]
theorem aS.iC(xs:List aS):jA (xs.map aS.enc)=true∧jW (xs.map aS.enc)=true:=⟨j3 fun x _=>x.fC.1,j4 fun x _=>⟨x.fC.2,by rw[aS.cZ];decide⟩⟩
theorem bg.fC(x:bg):jo x.enc=true∧jF x.enc=true:=by
 rw[bg.aH];simp only[List.cons_append,List.nil_append,jo,o7,jF,sV,gK,gL,Bool.and_true,Bool.true_and,Bool.and_self,and_self,and_true,true_and,sW x.bE,sZ x.bE,(aS.iC x.aA).1,(aS.iC x.aA).2]
theorem bg.iC(xs:List bg):jA (xs.map bg.enc)=true∧jW (xs.map bg.enc)=true:=⟨j3 fun x _=>x.fC.1,j4 fun x _=>⟨x.fC.2,by rw[bg.cZ];decide⟩⟩
theorem aO.fC(x:aO):jo x.enc=true∧jF x.enc=true:=by
 rw[aO.aH];simp only[List.cons_append,List.nil_append,jo,o7,jF,sV,gK,gL,Bool.and_true,Bool.true_and,Bool.and_self,and_self,and_true,true_and,(ah.iC x.eO).1,(ah.iC x.eO).2]
theorem aO.iC(xs:List aO):jA (xs.map aO.enc)=true∧jW (xs.map aO.enc)=true:=⟨j3 fun x _=>x.fC.1,j4 fun x _=>⟨x.fC.2,by rw[aO.cZ];decide⟩⟩
theorem aN.fC(x:aN):jo x.enc=true∧jF x.enc=true:=by
 rw[aN.aH];simp only[List.cons_append,List.nil_append,jo,o7,jF,sV,gK,gL,Bool.and_true,Bool.true_and,Bool.and_self,and_self,and_true,true_and,sW x.aF,sZ x.aF,(aO.iC x.aG).1,(aO.iC x.aG).2]
theorem aN.iC(xs:List aN):jA (xs.map aN.enc)=true∧jW (xs.map aN.enc)=true:=⟨j3 fun x _=>x.fC.1,j4 fun x _=>⟨x.fC.2,by rw[aN.cZ];decide⟩⟩
theorem bB.fC(x:bB):jo x.enc=true∧jF x.enc=true:=by
 rw[bB.aH];simp only[List.cons_append,List.nil_append,jo,o7,jF,sV,gK,gL,Bool.and_true,Bool.true_and,Bool.and_self,and_self,and_true,true_and,sW x.aF,sZ x.aF,(au.fC x.fBody).1,(au.fC x.fBody).2]
theorem bB.iC(xs:List bB):jA (xs.map bB.enc)=true∧jW (xs.map bB.enc)=true:=⟨j3 fun x _=>x.fC.1,j4 fun x _=>⟨x.fC.2,by rw[bB.cZ];decide⟩⟩
theorem aP.fC(x:aP):jo x.enc=true∧jF x.enc=true:=by
 rw[aP.aH];simp only[List.cons_append,List.nil_append,jo,o7,jF,sV,gK,gL,Bool.and_true,Bool.true_and,Bool.and_self,and_self,and_true,true_and,sW x.aF,sZ x.aF,(ah.fC x.bU).1,(ah.fC x.bU).2,(bA.iC x.bX).1,(bA.iC x.bX).2,(ah.fC x.bQ).1,(ah.fC x.bQ).2,(bB.iC x.aL).1,(bB.iC x.aL).2]
theorem aP.iC(xs:List aP):jA (xs.map aP.enc)=true∧jW (xs.map aP.enc)=true:=⟨j3 fun x _=>x.fC.1,j4 fun x _=>⟨x.fC.2,by rw[aP.cZ];decide⟩⟩
theorem bG.fC(x:bG):jo x.enc=true∧jF x.enc=true:=by
 rw[bG.aH];simp only[List.cons_append,List.nil_append,jo,o7,jF,sV,gK,gL,Bool.and_true,Bool.true_and,Bool.and_self,and_self,and_true,true_and,(ah.fC x.fType).1,(ah.fC x.fType).2]
theorem bG.iC(xs:List bG):jA (xs.map bG.enc)=true∧jW (xs.map bG.enc)=true:=⟨j3 fun x _=>x.fC.1,j4 fun x _=>⟨x.fC.2,by rw[bG.cZ];decide⟩⟩
theorem aR.fC(x:aR):jo x.enc=true∧jF x.enc=true:=by
 rw[aR.aH];simp only[List.cons_append,List.nil_append,jo,o7,jF,sV,gK,gL,Bool.and_true,Bool.true_and,Bool.and_self,and_self,and_true,true_and,sW x.aF,sZ x.aF,(bA.iC x.bX).1,(bA.iC x.bX).2,(bG.iC x.aZ).1,(bG.iC x.aZ).2,(ah.fC x.bT).1,(ah.fC x.bT).2,(au.fC x.fBody).1,(au.fC x.fBody).2]
theorem aR.iC(xs:List aR):jA (xs.map aR.enc)=true∧jW (xs.map aR.enc)=true:=⟨j3 fun x _=>x.fC.1,j4 fun x _=>⟨x.fC.2,by rw[aR.cZ];decide⟩⟩
theorem aV.fC(x:aV):jo x.enc=true∧jF x.enc=true:=by
 rw[aV.aH];simp only[List.cons_append,List.nil_append,jo,o7,jF,sV,gK,gL,Bool.and_true,Bool.true_and,Bool.and_self,and_self,and_true,true_and,sW x.dY,sZ x.dY,(bg.iC x.aK).1,(bg.iC x.aK).2,(aN.iC x.ak).1,(aN.iC x.ak).2,(aP.iC x.aJ).1,(aP.iC x.aJ).2,(aR.iC x.aM).1,(aR.iC x.aM).2]
theorem aV.iC(xs:List aV):jA (xs.map aV.enc)=true∧jW (xs.map aV.enc)=true:=⟨j3 fun x _=>x.fC.1,j4 fun x _=>⟨x.fC.2,by rw[aV.cZ];decide⟩⟩
theorem eB.fC(x:eB):jo x.enc=true∧jF x.enc=true:=by
 rw[eB.aH];simp only[List.cons_append,List.nil_append,jo,o7,jF,sV,gK,gL,Bool.and_true,Bool.true_and,Bool.and_self,and_self,and_true,true_and,(aV.iC x.nW).1,(aV.iC x.nW).2]
theorem eB.iC(xs:List eB):jA (xs.map eB.enc)=true∧jW (xs.map eB.enc)=true:=⟨j3 fun x _=>x.fC.1,j4 fun x _=>⟨x.fC.2,by rw[eB.cZ];decide⟩⟩
theorem dM.fC(x:dM):jo x.enc=true∧jF x.enc=true:=by
 rw[dM.aH];simp only[List.cons_append,List.nil_append,jo,o7,jF,sV,gK,gL,Bool.and_true,Bool.true_and,Bool.and_self,and_self,and_true,true_and]
theorem dM.iC(xs:List dM):jA (xs.map dM.enc)=true∧jW (xs.map dM.enc)=true:=⟨j3 fun x _=>x.fC.1,j4 fun x _=>⟨x.fC.2,by rw[dM.cZ];decide⟩⟩
end Go.Ab
namespace Go.Proofs.YtcfhnaohbaplhaaGreatDoor
open Go Go.Ab
end Go.Proofs.YtcfhnaohbaplhaaGreatDoor
namespace Go.Proofs.YtcfhnaohbaplhaaGreatDoor
open Go Go.Ab
theorem Iq(x:aS):∀left:Int,0≤left→left≤1048576→kP x.enc→aD Tryz.prog 296 [x.v,.c (.d (.i .i64 left))] (.c (.d (.i .i64 (cK left x.sz)))):=by
 intro left h0 h1 hf S
 simp only[aS.aH,List.cons_append,List.nil_append,iM,iK,iG,and_true] at hf
 obtain⟨fName,aZ,bT,ig,aF,fBody⟩:=hf
 have hz:x.sz=x.fName.length+((x.aZ.length+aI (x.aZ.map ah.enc))+(x.bT.sz+((x.aF.length+aI (x.aF.map encS))+(x.fBody.sz)))):=by
  simp only[aS.sz,aS.aH,bL,bf,D.sz,List.length_map,Nat.add_zero,Nat.zero_add,au.dn,ah.dn]<;>omega
 refine aB (rs:=[.tmp 4]) Tryz.checked.mixed Tryz.func296 Tryz.ntmps296 rfl rfl rfl rfl rfl ?_
 rw[hz]
 have wW:=pJ fName
 refine W1 ?_
 refine S0 (fun hb h=>?_) fun hb h=>?_
 ·exact int_eq (bV (by omega)).symm
 refine C1 (Ga x.aZ _ (by omega) (by omega) aZ) ?_
 refine S0 (fun hb h=>?_) fun hb h=>?_
 ·have h':=dB h
  exact int_eq (bV (by omega)).symm
 have Ir:=dP h
 simp only[Ir.1]
 refine C1 (qW x.bT _ (by omega) (by omega) bT) ?_
 refine S0 (fun hb h=>?_) fun hb h=>?_
 ·have h':=dB h
  exact int_eq (bV (by omega)).symm
 have Iu:=dP h
 simp only[Iu.1]
 refine C1 (l8 x.aF _ (by omega) (by omega) aF) ?_
 refine S0 (fun hb h=>?_) fun hb h=>?_
 ·have h':=dB h
  exact int_eq (bV (by omega)).symm
 have hVars:=dP h
 simp only[hVars.1]
 refine C1 (BX x.fBody _ (by omega) (by omega) fBody) ?_
 refine S0 (fun hb h=>?_) fun hb h=>?_
 ·have h':=dB h
  exact int_eq (bV (by omega)).symm
 have Aw:=dP h
 simp only[Aw.1]
 refine int_eq ?_
 rw[fA (by omega)]
 omega
theorem Gw(xs:List aS):∀left:Int,0≤left→left≤1048576→(D.sl (xs.map aS.enc)).Fit→aD Tryz.prog 212 [.c (.d (.sl (xs.map aS.enc))),.c (.d (.i .i64 left))] (.c (.d (.i .i64 (cK left (xs.length+aI (xs.map aS.enc)))))):=by
 intro left h0 h1 hf S
 obtain⟨hf1,hf2⟩:=oM hf
 rw[List.length_map] at hf1
 refine aB (rs:=[.tmp 4]) Tryz.checked.mixed Tryz.func212 Tryz.ntmps212 rfl rfl rfl rfl rfl ?_
 refine W1 ?_
 refine S0 (fun hb h=>?_) fun hb h=>?_
 ·exact int_eq (bV (by omega)).symm
 refine aQ (ι:=Nat×Int) Tryz.checked.mixed rfl [0,1,5] (fun y=>[.c (.d (.sl (xs.map aS.enc))),.c (.d (.i .i64 y.2)),.c (.d (.i .i64 y.1))]) (fun _=>[]::S)
  (fun y=>y.1≤xs.length∧0≤y.2∧y.2≤1048576∧cK y.2 (aI ((xs.map aS.enc).drop y.1))=cK left (xs.length+aI (xs.map aS.enc))) (fun y=>xs.length-y.1) (0,left-xs.length) rfl rfl ⟨by omega,by omega,by omega,?_⟩ ?_
 ·unfold cK
  rw[List.drop_zero]
  split<;>split<;>omega
 rintro⟨i,l⟩ ⟨p1,p2,p3,p4⟩
 simp only at p1 p2 p3 p4
 refine W1 ?_
 refine S0 (fun hb h=>?_) fun hb h=>?_
 ·have hi:i<xs.length:=by omega
  rw[List.drop_eq_getElem_cons (by rw[List.length_map];exact hi),aI,List.getElem_map,aS.dn] at p4
  refine W3 ?_
  refine C1 (Iq xs[i] _ (by omega) (by omega) (hf2 _ (List.mem_map_of_mem (List.getElem_mem hi)))) ?_
  refine S0 (fun hb h=>?_) fun hb h=>?_
  ·have h':=dB h
   rw[←p4,bV (by omega)]
  ·have h':=dP h
   refine bF (i+1,cK l _) (by simp only;omega) rfl rfl ⟨by simp only;omega,by simp only;omega,by simp only;omega,?_⟩
   simp only
   rw[←p4,h'.1]
   unfold cK
   split<;>split<;>omega
 ·have hi:i=xs.length:=by omega
  rw[hi,List.drop_of_length_le (by simp),aI,fA (by omega)] at p4
  rw[←p4]
  refine int_eq ?_
  omega
theorem Iw(x:aS):x.sz≤1048576→aD Tryz.prog 308 [x.v] x.v:=by
 intro hsz S
 simp only[aS.sz,aS.aH,bL,bf,D.sz,List.length_map,au.dn,ah.dn] at hsz
 refine aB (rs:=[.cell 2 259]) Tryz.checked.mixed Tryz.func308 Tryz.ntmps308 rfl rfl rfl rfl rfl ?_
 refine W1 ?_
 refine C1 (Gb x.aZ (by omega)) ?_
 refine C1 (qX x.bT (by omega)) ?_
 refine C1 (l9 x.aF (by omega)) ?_
 exact C3 (BZ x.fBody (by omega))
theorem Gx(xs:List aS):xs.length+aI (xs.map aS.enc)≤1048576→aD Tryz.prog 223 [.c (.d (.sl (xs.map aS.enc)))] (.c (.d (.sl (xs.map aS.enc)))):=by
 intro hsz S
 refine aB (rs:=[.tmp 2]) Tryz.checked.mixed Tryz.func223 Tryz.ntmps223 rfl rfl rfl rfl rfl ?_
 refine W1 ?_
 refine W3 ?_
 refine aQ (ι:=Nat×List (List D)) Tryz.checked.mixed rfl [0,3,4] (fun y=>[.c (.d (.sl (xs.map aS.enc))),.c (.ji (0,0)),.c (.d (.i .i64 y.1))]) (fun y=>[.eU 16 y.2]::S)
  (fun y=>y.1≤xs.length∧gq 16 y.1 y.2 (xs.map aS.enc)) (fun y=>xs.length-y.1) (0,_) rfl rfl ⟨Nat.zero_le _,gq.start (by simp) rfl⟩ ?_
 rintro⟨i,R⟩ ⟨p1,p2⟩
 simp only at p1 p2
 refine W1 ?_
 refine S0 (fun hb h=>?_) fun hb h=>?_
 ·have hi:i<xs.length:=by omega
  have hx:xs[i].sz≤aI (xs.map aS.enc):=bD (List.mem_map_of_mem (List.getElem_mem hi))
  refine W3 ?_
  refine C1 (Iw xs[i] (by omega)) ?_
  have hR:=p2.1
  rw[List.length_map] at hR
  refine W3 ?_
  refine bF (i+1,_) (by simp only;omega) rfl rfl ⟨by simp only;omega,p2.step (by simp[hi,au.aH,aS.aH,ah.aH]) rfl⟩
 ·have hi:i=xs.length:=by omega
  rw[p2.done (by rw[List.length_map];omega)]
theorem Iy(x:aS):∀y:aS,x.sz≤1048576→aD Tryz.prog 313 [x.v,y.v] (.c (.d (.b (dec (x=y))))):=by
 intro y hsz S
 simp only[aS.sz,aS.aH,bL,bf,D.sz,List.length_map,au.dn,ah.dn] at hsz
 refine aB (rs:=[.tmp 4]) Tryz.checked.mixed Tryz.func313 Tryz.ntmps313 rfl rfl rfl rfl rfl ?_
 refine W1 ?_
 refine S0 (fun hb h=>?_) fun hb h=>?_
 ·exact ay (aC (fun e=>h (by rw[e]))).symm
 have mX:=h
 clear h
 refine C1 (Gc x.aZ _ (by omega)) ?_
 refine S0 (fun hb h=>?_) fun hb h=>?_
 ·exact ay (aC (fun e=>h (by rw[e]))).symm
 have Iz:=h
 clear h
 refine C1 (qY x.bT _ (by omega)) ?_
 refine S0 (fun hb h=>?_) fun hb h=>?_
 ·exact ay (aC (fun e=>h (by rw[e]))).symm
 have IB:=h
 clear h
 refine S0 (fun hb h=>?_) fun hb h=>?_
 ·exact ay (aC (fun e=>h (by rw[e]))).symm
 have OT:=h
 clear h
 refine C1 (mh x.aF _ (by omega)) ?_
 refine S0 (fun hb h=>?_) fun hb h=>?_
 ·exact ay (aC (fun e=>h (by rw[e]))).symm
 have uh:=h
 clear h
 refine C1 (Ca x.fBody _ (by omega)) ?_
 refine S0 (fun hb h=>?_) fun hb h=>?_
 ·exact ay (aC (fun e=>h (by rw[e]))).symm
 have Ay:=h
 clear h
 exact ay (bq (aS.ext' mX Iz IB OT uh Ay)).symm
theorem Gy(xs:List aS):∀ys:List aS,xs.length+aI (xs.map aS.enc)≤1048576→aD Tryz.prog 230 [.c (.d (.sl (xs.map aS.enc))),.c (.d (.sl (ys.map aS.enc)))] (.c (.d (.b (dec (xs=ys))))):=by
 intro ys hsz S
 refine aB (rs:=[.tmp 4]) Tryz.checked.mixed Tryz.func230 Tryz.ntmps230 rfl rfl rfl rfl rfl ?_
 refine W1 ?_
 refine S0 (fun hb h=>?_) fun hb h=>?_
 ·exact ay (aC (fun e=>h (by rw[e]))).symm
 have hl:xs.length=ys.length:=by omega
 refine aQ (ι:=Nat) Tryz.checked.mixed rfl [0,1,5] (fun y=>[.c (.d (.sl (xs.map aS.enc))),.c (.d (.sl (ys.map aS.enc))),.c (.d (.i .i64 y))]) (fun y=>[]::S)
  (fun i=>i≤xs.length∧∀j,j<i→xs[j]? =ys[j]?) (fun y=>xs.length-y) 0 rfl rfl ⟨Nat.zero_le _,fun j h=>by omega⟩ ?_
 rintro i ⟨p1,p2⟩
 refine W1 ?_
 refine S0 (fun hb h=>?_) fun hb h=>?_
 ·have hi:i<xs.length:=by omega
  have hi':i<ys.length:=by omega
  have hx:xs[i].sz≤aI (xs.map aS.enc):=bD (List.mem_map_of_mem (List.getElem_mem hi))
  refine W3 ?_
  refine C1 (Iy xs[i] ys[i] (by omega)) ?_
  refine S0 (fun hb h=>?_) fun hb h=>?_
  ·exact ay (aC (fun e=>h (by simp only[e]))).symm
  refine bF (i+1) (by omega) rfl rfl ⟨by omega,fun j hj=> ?_⟩
  by_cases e:j=i
  ·subst e
   rw[List.getElem?_eq_getElem hi,List.getElem?_eq_getElem hi',h]
  ·exact p2 j (by omega)
 ·have hi:i=xs.length:=by omega
  refine ay (bq (List.ext_getElem? fun j=> ?_)).symm
  by_cases hj:j<i
  ·exact p2 j hj
  ·rw[List.getElem?_eq_none (by omega),List.getElem?_eq_none (by omega)]
end Go.Proofs.YtcfhnaohbaplhaaGreatDoor
namespace Go.Proofs.YtcfhnaohbaplhaaGreatDoor
open Go Go.Ab
theorem R7(x:bg):∀left:Int,0≤left→left≤1048576→kP x.enc→aD Tryz.prog 123 [x.v,.c (.d (.i .i64 left))] (.c (.d (.i .i64 (cK left x.sz)))):=by
 intro left h0 h1 hf S
 simp only[bg.aH,List.cons_append,List.nil_append,iM,iK,iG,and_true] at hf
 obtain⟨fName,bE,nL,bQ,aA⟩:=hf
 have hz:x.sz=x.fName.length+((x.bE.length+aI (x.bE.map encS))+((x.aA.length+aI (x.aA.map aS.enc)))):=by
  simp only[bg.sz,bg.aH,bL,bf,D.sz,List.length_map,Nat.add_zero,Nat.zero_add]<;>omega
 refine aB (rs:=[.tmp 4]) Tryz.checked.mixed Tryz.func123 Tryz.ntmps123 rfl rfl rfl rfl rfl ?_
 rw[hz]
 have wW:=pJ fName
 refine W1 ?_
 refine S0 (fun hb h=>?_) fun hb h=>?_
 ·exact int_eq (bV (by omega)).symm
 refine C1 (l8 x.bE _ (by omega) (by omega) bE) ?_
 refine S0 (fun hb h=>?_) fun hb h=>?_
 ·have h':=dB h
  exact int_eq (bV (by omega)).symm
 have Nh:=dP h
 simp only[Nh.1]
 refine C1 (Gw x.aA _ (by omega) (by omega) aA) ?_
 refine S0 (fun hb h=>?_) fun hb h=>?_
 ·have h':=dB h
  exact int_eq (bV (by omega)).symm
 have OU:=dP h
 simp only[OU.1]
 refine int_eq ?_
 rw[fA (by omega)]
 omega
theorem OV(xs:List bg):∀left:Int,0≤left→left≤1048576→(D.sl (xs.map bg.enc)).Fit→aD Tryz.prog 53 [.c (.d (.sl (xs.map bg.enc))),.c (.d (.i .i64 left))] (.c (.d (.i .i64 (cK left (xs.length+aI (xs.map bg.enc)))))):=by
 intro left h0 h1 hf S
 obtain⟨hf1,hf2⟩:=oM hf
 rw[List.length_map] at hf1
 refine aB (rs:=[.tmp 4]) Tryz.checked.mixed Tryz.func53 Tryz.ntmps53 rfl rfl rfl rfl rfl ?_
 refine W1 ?_
 refine S0 (fun hb h=>?_) fun hb h=>?_
 ·exact int_eq (bV (by omega)).symm
 refine aQ (ι:=Nat×Int) Tryz.checked.mixed rfl [0,1,5] (fun y=>[.c (.d (.sl (xs.map bg.enc))),.c (.d (.i .i64 y.2)),.c (.d (.i .i64 y.1))]) (fun _=>[]::S)
  (fun y=>y.1≤xs.length∧0≤y.2∧y.2≤1048576∧cK y.2 (aI ((xs.map bg.enc).drop y.1))=cK left (xs.length+aI (xs.map bg.enc))) (fun y=>xs.length-y.1) (0,left-xs.length) rfl rfl ⟨by omega,by omega,by omega,?_⟩ ?_
 ·unfold cK
  rw[List.drop_zero]
  split<;>split<;>omega
 rintro⟨i,l⟩ ⟨p1,p2,p3,p4⟩
 simp only at p1 p2 p3 p4
 refine W1 ?_
 refine S0 (fun hb h=>?_) fun hb h=>?_
 ·have hi:i<xs.length:=by omega
  rw[List.drop_eq_getElem_cons (by rw[List.length_map];exact hi),aI,List.getElem_map,bg.dn] at p4
  refine W3 ?_
  refine C1 (R7 xs[i] _ (by omega) (by omega) (hf2 _ (List.mem_map_of_mem (List.getElem_mem hi)))) ?_
  refine S0 (fun hb h=>?_) fun hb h=>?_
  ·have h':=dB h
   rw[←p4,bV (by omega)]
  ·have h':=dP h
   refine bF (i+1,cK l _) (by simp only;omega) rfl rfl ⟨by simp only;omega,by simp only;omega,by simp only;omega,?_⟩
   simp only
   rw[←p4,h'.1]
   unfold cK
   split<;>split<;>omega
 ·have hi:i=xs.length:=by omega
  rw[hi,List.drop_of_length_le (by simp),aI,fA (by omega)] at p4
  rw[←p4]
  refine int_eq ?_
  omega
theorem R8(x:bg):x.sz≤1048576→aD Tryz.prog 135 [x.v] x.v:=by
 intro hsz S
 simp only[bg.sz,bg.aH,bL,bf,D.sz,List.length_map] at hsz
 refine aB (rs:=[.cell 2 184]) Tryz.checked.mixed Tryz.func135 Tryz.ntmps135 rfl rfl rfl rfl rfl ?_
 refine W1 ?_
 refine C1 (l9 x.bE (by omega)) ?_
 exact C3 (Gx x.aA (by omega))
theorem OW(xs:List bg):xs.length+aI (xs.map bg.enc)≤1048576→aD Tryz.prog 59 [.c (.d (.sl (xs.map bg.enc)))] (.c (.d (.sl (xs.map bg.enc)))):=by
 intro hsz S
 refine aB (rs:=[.tmp 2]) Tryz.checked.mixed Tryz.func59 Tryz.ntmps59 rfl rfl rfl rfl rfl ?_
 refine W1 ?_
 refine W3 ?_
 refine aQ (ι:=Nat×List (List D)) Tryz.checked.mixed rfl [0,3,4] (fun y=>[.c (.d (.sl (xs.map bg.enc))),.c (.ji (0,0)),.c (.d (.i .i64 y.1))]) (fun y=>[.eU 5 y.2]::S)
  (fun y=>y.1≤xs.length∧gq 5 y.1 y.2 (xs.map bg.enc)) (fun y=>xs.length-y.1) (0,_) rfl rfl ⟨Nat.zero_le _,gq.start (by simp) rfl⟩ ?_
 rintro⟨i,R⟩ ⟨p1,p2⟩
 simp only at p1 p2
 refine W1 ?_
 refine S0 (fun hb h=>?_) fun hb h=>?_
 ·have hi:i<xs.length:=by omega
  have hx:xs[i].sz≤aI (xs.map bg.enc):=bD (List.mem_map_of_mem (List.getElem_mem hi))
  refine W3 ?_
  refine C1 (R8 xs[i] (by omega)) ?_
  have hR:=p2.1
  rw[List.length_map] at hR
  refine W3 ?_
  refine bF (i+1,_) (by simp only;omega) rfl rfl ⟨by simp only;omega,p2.step (by simp[hi,bg.aH]) rfl⟩
 ·have hi:i=xs.length:=by omega
  rw[p2.done (by rw[List.length_map];omega)]
theorem R9(x:bg):∀y:bg,x.sz≤1048576→aD Tryz.prog 146 [x.v,y.v] (.c (.d (.b (dec (x=y))))):=by
 intro y hsz S
 simp only[bg.sz,bg.aH,bL,bf,D.sz,List.length_map] at hsz
 refine aB (rs:=[.tmp 4]) Tryz.checked.mixed Tryz.func146 Tryz.ntmps146 rfl rfl rfl rfl rfl ?_
 refine W1 ?_
 refine S0 (fun hb h=>?_) fun hb h=>?_
 ·exact ay (aC (fun e=>h (by rw[e]))).symm
 have mX:=h
 clear h
 refine C1 (mh x.bE _ (by omega)) ?_
 refine S0 (fun hb h=>?_) fun hb h=>?_
 ·exact ay (aC (fun e=>h (by rw[e]))).symm
 have Ni:=h
 clear h
 refine S0 (fun hb h=>?_) fun hb h=>?_
 ·exact ay (aC (fun e=>h (by rw[e]))).symm
 have adr:=h
 clear h
 refine S0 (fun hb h=>?_) fun hb h=>?_
 ·exact ay (aC (fun e=>h (by rw[e]))).symm
 have Nj:=h
 clear h
 refine C1 (Gy x.aA _ (by omega)) ?_
 refine S0 (fun hb h=>?_) fun hb h=>?_
 ·exact ay (aC (fun e=>h (by rw[e]))).symm
 have OX:=h
 clear h
 exact ay (bq (bg.ext' mX Ni adr Nj OX)).symm
theorem OY(xs:List bg):∀ys:List bg,xs.length+aI (xs.map bg.enc)≤1048576→aD Tryz.prog 65 [.c (.d (.sl (xs.map bg.enc))),.c (.d (.sl (ys.map bg.enc)))] (.c (.d (.b (dec (xs=ys))))):=by
 intro ys hsz S
 refine aB (rs:=[.tmp 4]) Tryz.checked.mixed Tryz.func65 Tryz.ntmps65 rfl rfl rfl rfl rfl ?_
 refine W1 ?_
 refine S0 (fun hb h=>?_) fun hb h=>?_
 ·exact ay (aC (fun e=>h (by rw[e]))).symm
 have hl:xs.length=ys.length:=by omega
 refine aQ (ι:=Nat) Tryz.checked.mixed rfl [0,1,5] (fun y=>[.c (.d (.sl (xs.map bg.enc))),.c (.d (.sl (ys.map bg.enc))),.c (.d (.i .i64 y))]) (fun y=>[]::S)
  (fun i=>i≤xs.length∧∀j,j<i→xs[j]? =ys[j]?) (fun y=>xs.length-y) 0 rfl rfl ⟨Nat.zero_le _,fun j h=>by omega⟩ ?_
 rintro i ⟨p1,p2⟩
 refine W1 ?_
 refine S0 (fun hb h=>?_) fun hb h=>?_
 ·have hi:i<xs.length:=by omega
  have hi':i<ys.length:=by omega
  have hx:xs[i].sz≤aI (xs.map bg.enc):=bD (List.mem_map_of_mem (List.getElem_mem hi))
  refine W3 ?_
  refine C1 (R9 xs[i] ys[i] (by omega)) ?_
  refine S0 (fun hb h=>?_) fun hb h=>?_
  ·exact ay (aC (fun e=>h (by simp only[e]))).symm
  refine bF (i+1) (by omega) rfl rfl ⟨by omega,fun j hj=> ?_⟩
  by_cases e:j=i
  ·subst e
   rw[List.getElem?_eq_getElem hi,List.getElem?_eq_getElem hi',h]
  ·exact p2 j (by omega)
 ·have hi:i=xs.length:=by omega
  refine ay (bq (List.ext_getElem? fun j=> ?_)).symm
  by_cases hj:j<i
  ·exact p2 j hj
  ·rw[List.getElem?_eq_none (by omega),List.getElem?_eq_none (by omega)]
end Go.Proofs.YtcfhnaohbaplhaaGreatDoor
namespace Go.Proofs.YtcfhnaohbaplhaaGreatDoor
open Go Go.Ab
theorem Ey(x:aO):∀left:Int,0≤left→left≤1048576→kP x.enc→aD Tryz.prog 297 [x.v,.c (.d (.i .i64 left))] (.c (.d (.i .i64 (cK left x.sz)))):=by
 intro left h0 h1 hf S
 simp only[aO.aH,List.cons_append,List.nil_append,iM,iK,iG,and_true] at hf
 obtain⟨fName,eO⟩:=hf
 have hz:x.sz=x.fName.length+((x.eO.length+aI (x.eO.map ah.enc))):=by
  simp only[aO.sz,aO.aH,bL,bf,D.sz,List.length_map,Nat.add_zero,Nat.zero_add]<;>omega
 refine aB (rs:=[.tmp 4]) Tryz.checked.mixed Tryz.func297 Tryz.ntmps297 rfl rfl rfl rfl rfl ?_
 rw[hz]
 have wW:=pJ fName
 refine W1 ?_
 refine S0 (fun hb h=>?_) fun hb h=>?_
 ·exact int_eq (bV (by omega)).symm
 refine C1 (Ga x.eO _ (by omega) (by omega) eO) ?_
 refine S0 (fun hb h=>?_) fun hb h=>?_
 ·have h':=dB h
  exact int_eq (bV (by omega)).symm
 have ZK:=dP h
 simp only[ZK.1]
 refine int_eq ?_
 rw[fA (by omega)]
 omega
theorem Dq(xs:List aO):∀left:Int,0≤left→left≤1048576→(D.sl (xs.map aO.enc)).Fit→aD Tryz.prog 213 [.c (.d (.sl (xs.map aO.enc))),.c (.d (.i .i64 left))] (.c (.d (.i .i64 (cK left (xs.length+aI (xs.map aO.enc)))))):=by
 intro left h0 h1 hf S
 obtain⟨hf1,hf2⟩:=oM hf
 rw[List.length_map] at hf1
 refine aB (rs:=[.tmp 4]) Tryz.checked.mixed Tryz.func213 Tryz.ntmps213 rfl rfl rfl rfl rfl ?_
 refine W1 ?_
 refine S0 (fun hb h=>?_) fun hb h=>?_
 ·exact int_eq (bV (by omega)).symm
 refine aQ (ι:=Nat×Int) Tryz.checked.mixed rfl [0,1,5] (fun y=>[.c (.d (.sl (xs.map aO.enc))),.c (.d (.i .i64 y.2)),.c (.d (.i .i64 y.1))]) (fun _=>[]::S)
  (fun y=>y.1≤xs.length∧0≤y.2∧y.2≤1048576∧cK y.2 (aI ((xs.map aO.enc).drop y.1))=cK left (xs.length+aI (xs.map aO.enc))) (fun y=>xs.length-y.1) (0,left-xs.length) rfl rfl ⟨by omega,by omega,by omega,?_⟩ ?_
 ·unfold cK
  rw[List.drop_zero]
  split<;>split<;>omega
 rintro⟨i,l⟩ ⟨p1,p2,p3,p4⟩
 simp only at p1 p2 p3 p4
 refine W1 ?_
 refine S0 (fun hb h=>?_) fun hb h=>?_
 ·have hi:i<xs.length:=by omega
  rw[List.drop_eq_getElem_cons (by rw[List.length_map];exact hi),aI,List.getElem_map,aO.dn] at p4
  refine W3 ?_
  refine C1 (Ey xs[i] _ (by omega) (by omega) (hf2 _ (List.mem_map_of_mem (List.getElem_mem hi)))) ?_
  refine S0 (fun hb h=>?_) fun hb h=>?_
  ·have h':=dB h
   rw[←p4,bV (by omega)]
  ·have h':=dP h
   refine bF (i+1,cK l _) (by simp only;omega) rfl rfl ⟨by simp only;omega,by simp only;omega,by simp only;omega,?_⟩
   simp only
   rw[←p4,h'.1]
   unfold cK
   split<;>split<;>omega
 ·have hi:i=xs.length:=by omega
  rw[hi,List.drop_of_length_le (by simp),aI,fA (by omega)] at p4
  rw[←p4]
  refine int_eq ?_
  omega
theorem Ez(x:aO):x.sz≤1048576→aD Tryz.prog 309 [x.v] x.v:=by
 intro hsz S
 simp only[aO.sz,aO.aH,bL,bf,D.sz,List.length_map] at hsz
 refine aB (rs:=[.cell 2 262]) Tryz.checked.mixed Tryz.func309 Tryz.ntmps309 rfl rfl rfl rfl rfl ?_
 refine W1 ?_
 exact C3 (Gb x.eO (by omega))
theorem Dr(xs:List aO):xs.length+aI (xs.map aO.enc)≤1048576→aD Tryz.prog 224 [.c (.d (.sl (xs.map aO.enc)))] (.c (.d (.sl (xs.map aO.enc)))):=by
 intro hsz S
 refine aB (rs:=[.tmp 2]) Tryz.checked.mixed Tryz.func224 Tryz.ntmps224 rfl rfl rfl rfl rfl ?_
 refine W1 ?_
 refine W3 ?_
 refine aQ (ι:=Nat×List (List D)) Tryz.checked.mixed rfl [0,3,4] (fun y=>[.c (.d (.sl (xs.map aO.enc))),.c (.ji (0,0)),.c (.d (.i .i64 y.1))]) (fun y=>[.eU 2 y.2]::S)
  (fun y=>y.1≤xs.length∧gq 2 y.1 y.2 (xs.map aO.enc)) (fun y=>xs.length-y.1) (0,_) rfl rfl ⟨Nat.zero_le _,gq.start (by simp) rfl⟩ ?_
 rintro⟨i,R⟩ ⟨p1,p2⟩
 simp only at p1 p2
 refine W1 ?_
 refine S0 (fun hb h=>?_) fun hb h=>?_
 ·have hi:i<xs.length:=by omega
  have hx:xs[i].sz≤aI (xs.map aO.enc):=bD (List.mem_map_of_mem (List.getElem_mem hi))
  refine W3 ?_
  refine C1 (Ez xs[i] (by omega)) ?_
  have hR:=p2.1
  rw[List.length_map] at hR
  refine W3 ?_
  refine bF (i+1,_) (by simp only;omega) rfl rfl ⟨by simp only;omega,p2.step (by simp[hi,aO.aH]) rfl⟩
 ·have hi:i=xs.length:=by omega
  rw[p2.done (by rw[List.length_map];omega)]
theorem EA(x:aO):∀y:aO,x.sz≤1048576→aD Tryz.prog 314 [x.v,y.v] (.c (.d (.b (dec (x=y))))):=by
 intro y hsz S
 simp only[aO.sz,aO.aH,bL,bf,D.sz,List.length_map] at hsz
 refine aB (rs:=[.tmp 4]) Tryz.checked.mixed Tryz.func314 Tryz.ntmps314 rfl rfl rfl rfl rfl ?_
 refine W1 ?_
 refine S0 (fun hb h=>?_) fun hb h=>?_
 ·exact ay (aC (fun e=>h (by rw[e]))).symm
 have mX:=h
 clear h
 refine C1 (Gc x.eO _ (by omega)) ?_
 refine S0 (fun hb h=>?_) fun hb h=>?_
 ·exact ay (aC (fun e=>h (by rw[e]))).symm
 have ZL:=h
 clear h
 exact ay (bq (aO.ext' mX ZL)).symm
theorem Dt(xs:List aO):∀ys:List aO,xs.length+aI (xs.map aO.enc)≤1048576→aD Tryz.prog 231 [.c (.d (.sl (xs.map aO.enc))),.c (.d (.sl (ys.map aO.enc)))] (.c (.d (.b (dec (xs=ys))))):=by
 intro ys hsz S
 refine aB (rs:=[.tmp 4]) Tryz.checked.mixed Tryz.func231 Tryz.ntmps231 rfl rfl rfl rfl rfl ?_
 refine W1 ?_
 refine S0 (fun hb h=>?_) fun hb h=>?_
 ·exact ay (aC (fun e=>h (by rw[e]))).symm
 have hl:xs.length=ys.length:=by omega
 refine aQ (ι:=Nat) Tryz.checked.mixed rfl [0,1,5] (fun y=>[.c (.d (.sl (xs.map aO.enc))),.c (.d (.sl (ys.map aO.enc))),.c (.d (.i .i64 y))]) (fun y=>[]::S)
  (fun i=>i≤xs.length∧∀j,j<i→xs[j]? =ys[j]?) (fun y=>xs.length-y) 0 rfl rfl ⟨Nat.zero_le _,fun j h=>by omega⟩ ?_
 rintro i ⟨p1,p2⟩
 refine W1 ?_
 refine S0 (fun hb h=>?_) fun hb h=>?_
 ·have hi:i<xs.length:=by omega
  have hi':i<ys.length:=by omega
  have hx:xs[i].sz≤aI (xs.map aO.enc):=bD (List.mem_map_of_mem (List.getElem_mem hi))
  refine W3 ?_
  refine C1 (EA xs[i] ys[i] (by omega)) ?_
  refine S0 (fun hb h=>?_) fun hb h=>?_
  ·exact ay (aC (fun e=>h (by simp only[e]))).symm
  refine bF (i+1) (by omega) rfl rfl ⟨by omega,fun j hj=> ?_⟩
  by_cases e:j=i
  ·subst e
   rw[List.getElem?_eq_getElem hi,List.getElem?_eq_getElem hi',h]
  ·exact p2 j (by omega)
 ·have hi:i=xs.length:=by omega
  refine ay (bq (List.ext_getElem? fun j=> ?_)).symm
  by_cases hj:j<i
  ·exact p2 j hj
  ·rw[List.getElem?_eq_none (by omega),List.getElem?_eq_none (by omega)]
end Go.Proofs.YtcfhnaohbaplhaaGreatDoor
namespace Go.Proofs.YtcfhnaohbaplhaaGreatDoor
open Go Go.Ab
theorem Kt(x:aN):∀left:Int,0≤left→left≤1048576→kP x.enc→aD Tryz.prog 124 [x.v,.c (.d (.i .i64 left))] (.c (.d (.i .i64 (cK left x.sz)))):=by
 intro left h0 h1 hf S
 simp only[aN.aH,List.cons_append,List.nil_append,iM,iK,iG,and_true] at hf
 obtain⟨fName,aF,aG⟩:=hf
 have hz:x.sz=x.fName.length+((x.aF.length+aI (x.aF.map encS))+((x.aG.length+aI (x.aG.map aO.enc)))):=by
  simp only[aN.sz,aN.aH,bL,bf,D.sz,List.length_map,Nat.add_zero,Nat.zero_add]<;>omega
 refine aB (rs:=[.tmp 4]) Tryz.checked.mixed Tryz.func124 Tryz.ntmps124 rfl rfl rfl rfl rfl ?_
 rw[hz]
 have wW:=pJ fName
 refine W1 ?_
 refine S0 (fun hb h=>?_) fun hb h=>?_
 ·exact int_eq (bV (by omega)).symm
 refine C1 (l8 x.aF _ (by omega) (by omega) aF) ?_
 refine S0 (fun hb h=>?_) fun hb h=>?_
 ·have h':=dB h
  exact int_eq (bV (by omega)).symm
 have hVars:=dP h
 simp only[hVars.1]
 refine C1 (Dq x.aG _ (by omega) (by omega) aG) ?_
 refine S0 (fun hb h=>?_) fun hb h=>?_
 ·have h':=dB h
  exact int_eq (bV (by omega)).symm
 have Ku:=dP h
 simp only[Ku.1]
 refine int_eq ?_
 rw[fA (by omega)]
 omega
theorem IC(xs:List aN):∀left:Int,0≤left→left≤1048576→(D.sl (xs.map aN.enc)).Fit→aD Tryz.prog 54 [.c (.d (.sl (xs.map aN.enc))),.c (.d (.i .i64 left))] (.c (.d (.i .i64 (cK left (xs.length+aI (xs.map aN.enc)))))):=by
 intro left h0 h1 hf S
 obtain⟨hf1,hf2⟩:=oM hf
 rw[List.length_map] at hf1
 refine aB (rs:=[.tmp 4]) Tryz.checked.mixed Tryz.func54 Tryz.ntmps54 rfl rfl rfl rfl rfl ?_
 refine W1 ?_
 refine S0 (fun hb h=>?_) fun hb h=>?_
 ·exact int_eq (bV (by omega)).symm
 refine aQ (ι:=Nat×Int) Tryz.checked.mixed rfl [0,1,5] (fun y=>[.c (.d (.sl (xs.map aN.enc))),.c (.d (.i .i64 y.2)),.c (.d (.i .i64 y.1))]) (fun _=>[]::S)
  (fun y=>y.1≤xs.length∧0≤y.2∧y.2≤1048576∧cK y.2 (aI ((xs.map aN.enc).drop y.1))=cK left (xs.length+aI (xs.map aN.enc))) (fun y=>xs.length-y.1) (0,left-xs.length) rfl rfl ⟨by omega,by omega,by omega,?_⟩ ?_
 ·unfold cK
  rw[List.drop_zero]
  split<;>split<;>omega
 rintro⟨i,l⟩ ⟨p1,p2,p3,p4⟩
 simp only at p1 p2 p3 p4
 refine W1 ?_
 refine S0 (fun hb h=>?_) fun hb h=>?_
 ·have hi:i<xs.length:=by omega
  rw[List.drop_eq_getElem_cons (by rw[List.length_map];exact hi),aI,List.getElem_map,aN.dn] at p4
  refine W3 ?_
  refine C1 (Kt xs[i] _ (by omega) (by omega) (hf2 _ (List.mem_map_of_mem (List.getElem_mem hi)))) ?_
  refine S0 (fun hb h=>?_) fun hb h=>?_
  ·have h':=dB h
   rw[←p4,bV (by omega)]
  ·have h':=dP h
   refine bF (i+1,cK l _) (by simp only;omega) rfl rfl ⟨by simp only;omega,by simp only;omega,by simp only;omega,?_⟩
   simp only
   rw[←p4,h'.1]
   unfold cK
   split<;>split<;>omega
 ·have hi:i=xs.length:=by omega
  rw[hi,List.drop_of_length_le (by simp),aI,fA (by omega)] at p4
  rw[←p4]
  refine int_eq ?_
  omega
theorem Kv(x:aN):x.sz≤1048576→aD Tryz.prog 136 [x.v] x.v:=by
 intro hsz S
 simp only[aN.sz,aN.aH,bL,bf,D.sz,List.length_map] at hsz
 refine aB (rs:=[.cell 2 188]) Tryz.checked.mixed Tryz.func136 Tryz.ntmps136 rfl rfl rfl rfl rfl ?_
 refine W1 ?_
 refine C1 (l9 x.aF (by omega)) ?_
 exact C3 (Dr x.aG (by omega))
theorem IE(xs:List aN):xs.length+aI (xs.map aN.enc)≤1048576→aD Tryz.prog 60 [.c (.d (.sl (xs.map aN.enc)))] (.c (.d (.sl (xs.map aN.enc)))):=by
 intro hsz S
 refine aB (rs:=[.tmp 2]) Tryz.checked.mixed Tryz.func60 Tryz.ntmps60 rfl rfl rfl rfl rfl ?_
 refine W1 ?_
 refine W3 ?_
 refine aQ (ι:=Nat×List (List D)) Tryz.checked.mixed rfl [0,3,4] (fun y=>[.c (.d (.sl (xs.map aN.enc))),.c (.ji (0,0)),.c (.d (.i .i64 y.1))]) (fun y=>[.eU 3 y.2]::S)
  (fun y=>y.1≤xs.length∧gq 3 y.1 y.2 (xs.map aN.enc)) (fun y=>xs.length-y.1) (0,_) rfl rfl ⟨Nat.zero_le _,gq.start (by simp) rfl⟩ ?_
 rintro⟨i,R⟩ ⟨p1,p2⟩
 simp only at p1 p2
 refine W1 ?_
 refine S0 (fun hb h=>?_) fun hb h=>?_
 ·have hi:i<xs.length:=by omega
  have hx:xs[i].sz≤aI (xs.map aN.enc):=bD (List.mem_map_of_mem (List.getElem_mem hi))
  refine W3 ?_
  refine C1 (Kv xs[i] (by omega)) ?_
  have hR:=p2.1
  rw[List.length_map] at hR
  refine W3 ?_
  refine bF (i+1,_) (by simp only;omega) rfl rfl ⟨by simp only;omega,p2.step (by simp[hi,aN.aH]) rfl⟩
 ·have hi:i=xs.length:=by omega
  rw[p2.done (by rw[List.length_map];omega)]
theorem Kw(x:aN):∀y:aN,x.sz≤1048576→aD Tryz.prog 147 [x.v,y.v] (.c (.d (.b (dec (x=y))))):=by
 intro y hsz S
 simp only[aN.sz,aN.aH,bL,bf,D.sz,List.length_map] at hsz
 refine aB (rs:=[.tmp 4]) Tryz.checked.mixed Tryz.func147 Tryz.ntmps147 rfl rfl rfl rfl rfl ?_
 refine W1 ?_
 refine S0 (fun hb h=>?_) fun hb h=>?_
 ·exact ay (aC (fun e=>h (by rw[e]))).symm
 have mX:=h
 clear h
 refine C1 (mh x.aF _ (by omega)) ?_
 refine S0 (fun hb h=>?_) fun hb h=>?_
 ·exact ay (aC (fun e=>h (by rw[e]))).symm
 have uh:=h
 clear h
 refine C1 (Dt x.aG _ (by omega)) ?_
 refine S0 (fun hb h=>?_) fun hb h=>?_
 ·exact ay (aC (fun e=>h (by rw[e]))).symm
 have Ky:=h
 clear h
 exact ay (bq (aN.ext' mX uh Ky)).symm
theorem IG(xs:List aN):∀ys:List aN,xs.length+aI (xs.map aN.enc)≤1048576→aD Tryz.prog 66 [.c (.d (.sl (xs.map aN.enc))),.c (.d (.sl (ys.map aN.enc)))] (.c (.d (.b (dec (xs=ys))))):=by
 intro ys hsz S
 refine aB (rs:=[.tmp 4]) Tryz.checked.mixed Tryz.func66 Tryz.ntmps66 rfl rfl rfl rfl rfl ?_
 refine W1 ?_
 refine S0 (fun hb h=>?_) fun hb h=>?_
 ·exact ay (aC (fun e=>h (by rw[e]))).symm
 have hl:xs.length=ys.length:=by omega
 refine aQ (ι:=Nat) Tryz.checked.mixed rfl [0,1,5] (fun y=>[.c (.d (.sl (xs.map aN.enc))),.c (.d (.sl (ys.map aN.enc))),.c (.d (.i .i64 y))]) (fun y=>[]::S)
  (fun i=>i≤xs.length∧∀j,j<i→xs[j]? =ys[j]?) (fun y=>xs.length-y) 0 rfl rfl ⟨Nat.zero_le _,fun j h=>by omega⟩ ?_
 rintro i ⟨p1,p2⟩
 refine W1 ?_
 refine S0 (fun hb h=>?_) fun hb h=>?_
 ·have hi:i<xs.length:=by omega
  have hi':i<ys.length:=by omega
  have hx:xs[i].sz≤aI (xs.map aN.enc):=bD (List.mem_map_of_mem (List.getElem_mem hi))
  refine W3 ?_
  refine C1 (Kw xs[i] ys[i] (by omega)) ?_
  refine S0 (fun hb h=>?_) fun hb h=>?_
  ·exact ay (aC (fun e=>h (by simp only[e]))).symm
  refine bF (i+1) (by omega) rfl rfl ⟨by omega,fun j hj=> ?_⟩
  by_cases e:j=i
  ·subst e
   rw[List.getElem?_eq_getElem hi,List.getElem?_eq_getElem hi',h]
  ·exact p2 j (by omega)
 ·have hi:i=xs.length:=by omega
  refine ay (bq (List.ext_getElem? fun j=> ?_)).symm
  by_cases hj:j<i
  ·exact p2 j hj
  ·rw[List.getElem?_eq_none (by omega),List.getElem?_eq_none (by omega)]
end Go.Proofs.YtcfhnaohbaplhaaGreatDoor
namespace Go.Proofs.YtcfhnaohbaplhaaGreatDoor
open Go Go.Ab
end Go.Proofs.YtcfhnaohbaplhaaGreatDoor
namespace Go.Ab
def lx(l:List aj)(n:Nat):List (List D):=iX (l.map aj.enc) n
def dz(x:aj):Nat:=uq x.enc
def gB(l:List aj):Nat:=vI (l.map aj.enc)
theorem iy(x:aj)(n:Nat):kS x.enc n=[.s x.bS,.ol n (lx x.aY (n+1))]:=by
 rw[aj.aH];simp only[kS,rP,uo,Nat.add_zero,lx]
theorem q8(s:List UInt8)(n:Nat):kS (bO s).enc n=[.s s,.ol n []]:=by rw[iy];rfl
theorem ZM(x:aj):dz x=gB x.aY+1:=by
 unfold dz gB
 rw[aj.aH];simp only[uq,uo];omega
theorem iO(s:List UInt8):dz (bO s)=1:=by rw[ZM];rfl
theorem kC(n:Nat):lx [] n=[]:=rfl
theorem iA(x:aj)(l:List aj)(n:Nat):lx (x::l) n=kS x.enc n::lx l (n+dz x):=rfl
theorem jw(a b:List aj)(n:Nat):lx (a++b) n=lx a n++lx b (n+gB a):=by unfold lx gB;rw[List.map_append,Ch]
theorem Vg:gB []=0:=rfl
theorem Sb(x:aj)(l:List aj):gB (x::l)=dz x+gB l:=rfl
theorem eT(l:List aj)(n:Nat):(lx l n).length=l.length:=by unfold lx;rw[uw,List.length_map]
theorem iZ{l:List aj}{n:Nat}:∀r∈lx l n,r.length=2:=Gq fun r hr=>by
 obtain⟨z,_,rfl⟩:=List.mem_map.1 hr
 exact z.cZ
theorem II{l:List aj}{i:Nat}(hi:i<l.length)(n:Nat):lx (l.take i) n++[kS l[i].enc (n+gB (l.take i))]=lx (l.take (i+1)) n:=by
 rw[List.take_succ_eq_append_getElem hi,jw];rfl
theorem uY{l:List aj}{i:Nat}(hi:i<l.length)(n:Nat):lx (l.take i) n++[[.s l[i].bS,.ol (n+gB (l.take i)) (lx l[i].aY (n+gB (l.take i)+1))]]=lx (l.take (i+1)) n:=by
 rw[←II hi,iy]
theorem uZ{base l:List aj}{i:Nat}(hi:i<l.length)(q:Nat):lx (base++l.take i) q++[[.s l[i].bS,.ol (q+gB (base++l.take i)) (lx l[i].aY (q+gB (base++l.take i)+1))]]=lx (base++l.take (i+1)) q:=by
 rw[List.take_succ_eq_append_getElem hi,←List.append_assoc,jw (base++l.take i),iA,kC,iy]
theorem jg{l:List aj}:∀r∈l.map aj.enc,r.length=2:=fun r hr=>by
 obtain⟨z,_,rfl⟩:=List.mem_map.1 hr
 exact z.cZ
theorem y8{cs cs':List C}(hl:cs'.length=cs.length)(h:∀(j:Nat) (x y:C),cs[j]? =some x→cs'[j]? =some y→∀w σ S β v,jc w σ S β x v→jc w σ S β y v):Less (.agg cs) (.agg cs'):=by
 rintro w σ S β v ⟨a,ha,hc⟩
 refine⟨a,ha,hl.trans hc.1,fun j y hy=> ?_⟩
 have hj:j<cs.length:=by rw[←hl];exact(List.getElem?_eq_some_iff.1 hy).1
 obtain⟨v,h1,h2,h3⟩:=hc.2 j _ (List.getElem?_eq_getElem hj)
 exact⟨v,h1,h j _ y (List.getElem?_eq_getElem hj) hy w σ S β v h2,h3⟩
theorem abh{w:World}{σ:Nat→Nat}{S:Store}{β:Hs}{v:Value}(n:Nat)(h:jc w σ S β (.bC []) v):jc w σ S β (.d (.ol n [])) v:=by
 obtain⟨hd,ad,m,hval⟩:=h
 have hm:m=0:=by rw[hval] at hd;cases hd<;>rfl
 subst hm
 rw[hval]
 exact .wo _ _ _
theorem Dc(s:List UInt8)(n:Nat):Less (.agg [.d (.s s),.bC []]) (.agg [.d (.s s),.d (.ol n [])]):=y8 rfl fun j x y hx hy w σ S β v hv=>by
 match j,hx,hy with
 |0,hx,hy=>cases hx;cases hy;exact hv
 |1,hx,hy=>cases hx;cases hy;exact abh _ hv
 |j+2,hx,hy=>simp at hx
theorem ZN(s:List UInt8)(n:Nat)(es:List (List D)):Less (.agg [.d (.s s),.j5 n es]) (.agg [.d (.s s),.d (.ol n es)]):=y8 rfl fun j x y hx hy w σ S β v hv=>by
 match j,hx,hy with
 |0,hx,hy=>cases hx;cases hy;exact hv
 |1,hx,hy=>cases hx;cases hy;exact hv.1
 |j+2,hx,hy=>simp at hx
end Go.Ab
namespace Go.Proofs.YtcfhnaohbaplhaaGreatDoor
open Go Go.Ab
theorem OZ(s:List UInt8):aD Tryz.prog 139 [.c (.d (.s s))] (.agg [.d (.s s),.bC []]):=fun S=>by
 refine aB (rs:=[.cell 2 78]) Tryz.checked.mixed Tryz.func139 Tryz.ntmps139 rfl rfl rfl rfl rfl ?_
 exact Z1
theorem bY(s:List UInt8)(n:Nat):aD Tryz.prog 139 [.c (.d (.s s))] (.agg [.d (.s s),.d (.ol n [])]):=aD.less (OZ s) (Dc s n)
theorem jm(d:D):aD Tryz.prog 145 [.c (.d d)] (.agg [.d (.s []),.d d]):=fun S=>by
 refine aB (rs:=[.cell 2 78]) Tryz.checked.mixed Tryz.func145 Tryz.ntmps145 rfl rfl rfl rfl rfl ?_
 exact Z1
theorem O0(n:Nat)(es:List (List D)):aD Tryz.prog 145 [.c (.j5 n es)] (.agg [.d (.s []),.j5 n es]):=fun S=>by
 refine aB (rs:=[.cell 2 78]) Tryz.checked.mixed Tryz.func145 Tryz.ntmps145 rfl rfl rfl rfl rfl ?_
 exact Z1
theorem kT(n:Nat)(es:List (List D)):aD Tryz.prog 145 [.c (.j5 n es)] (.agg [.d (.s []),.d (.ol n es)]):=aD.less (O0 n es) (ZN [] n es)
theorem iT(l j:Nat)(es:List (List D))(S:Store):dF Tryz.prog 145 [.c (.bH (l,j) es)] S (fun r S'=>r=.agg [.d (.s []),.bH (l,j) es]∧S'=S):=by
 refine aB (rs:=[.cell 2 78]) Tryz.checked.mixed Tryz.func145 Tryz.ntmps145 rfl rfl rfl rfl rfl ?_
 exact Z1
theorem wC(xs:List (List UInt8))(hx:xs.length≤1073741824)(n q:Nat):aD Tryz.prog 204 [.c (.d (.sl (xs.map encS)))] (.c (.d (.ol n (lx (aT xs) q)))):=fun S=>by
 refine yO (n) (rs:=[.tmp 2]) Tryz.checked.mixed Tryz.func204 Tryz.ntmps204 rfl rfl rfl rfl rfl ?_
 refine W1 ?_
 refine W3 ?_
 refine kV n 3 2 [] (.inl rfl) (by simp) ?_
 refine aQ (ι:=Nat) Tryz.checked.mixed rfl [3,7,8,9] (fun i=>[.c (.bH (0,1) (lx ((aT xs).take i) q)),.c (.d (.sl (xs.map encS))),.c (.d (.i .i64 xs.length)),.c (.d (.i .i64 i))]) (fun i=>[.seed n,.d9 n 2 (lx ((aT xs).take i) q)]::S)
  (fun i=>i≤xs.length) (fun i=>xs.length-i) 0 rfl rfl (Nat.zero_le _) ?_
 intro i hi
 refine W1 ?_
 refine S0 (fun hb h=>?_) fun hb h=>?_
 ·have hi':i<xs.length:=by omega
  have hw:i<(aT xs).length:=by rw[iD];exact hi'
  have hg:(aT xs)[i]=bO xs[i]:=by simp[aT]
  have hl:(lx ((aT xs).take i) q).length≤i:=by rw[eT];exact List.length_take_le _ _
  refine W3 ?_
  refine C1 (bY xs[i] (q+gB ((aT xs).take i))) ?_
  refine W3 ?_
  have hs:=II hw q
  rw[hg,q8] at hs
  rw[hs]
  exact bF (i+1) (by omega) rfl rfl (by omega)
 ·have hi':i=(aT xs).length:=by rw[iD];omega
  rw[hi',List.take_length]
theorem dN(xs:List (List UInt8))(hx:xs.length≤1073741824)(n:Nat):aD Tryz.prog 140 [.c (.d (.sl (xs.map encS)))] (.agg [.d (.s []),.d (.ol n (lx (aT xs) (n+1)))]):=fun S=>by
 refine aB (rs:=[.cell 2 78]) Tryz.checked.mixed Tryz.func140 Tryz.ntmps140 rfl rfl rfl rfl rfl ?_
 refine W1 ?_
 refine C1 (wC xs hx n (n+1)) ?_
 exact C3 (jm _)
theorem AL:∀N:Nat,(∀x:ah,SizeOf.sizeOf x<N→∀n:Nat,formed x=true→x.sz≤4194304→aD Tryz.prog 206 [x.v] (.agg [.d (.s (cB x).bS),.d (.ol n (lx (cB x).aY (n+1)))]))∧
 (∀xs:List ah,SizeOf.sizeOf xs<N→∀n q:Nat,iP xs=true→xs.length≤4194304→(∀t∈xs,t.sz≤4194304)→aD Tryz.prog 228 [.c (.d (.sl (xs.map ah.enc)))] (.c (.d (.ol n (lx (xs.map cB) q)))))
 |0=>⟨fun x h=>by omega,fun x h=>by omega⟩
 |N+1=>by
  obtain⟨ih,BM⟩:=AL N
  refine⟨fun x hn n hf hsz=> ?_,fun xs hn n q hf hlen hsz=> ?_⟩
  ·have iW:=ah.fD x
   have hts:=yK hsz
   have hx:=UQ x
   rw[sO,Bool.and_eq_true] at hf
   have hfi:=iN hf.1
   have hall:∀t∈x.fArgs,t.sz≤4194304:=fun t ht=>by
    obtain⟨i,hi,e⟩:=List.getElem_of_mem ht
    rw[←e];exact(qU hi hsz).1
   intro S
   refine mY (n) 1 (rs:=[.cell 2 78]) Tryz.checked.mixed Tryz.func206 Tryz.ntmps206 rfl rfl rfl rfl rfl ?_
   refine W1 ?_
   refine S0 (fun hb h=>?_) fun hb h=>?_
   ·rw[if_pos h] at hx
    rw[hx]
    refine W3 ?_
    refine C1 (bY _ n) ?_
    rfl
   have k1:=h
   rw[if_neg h] at hx
   refine S0 (fun hb h=>?_) fun hb h=>?_
   ·rw[if_pos h] at hx
    rw[hx]
    refine C1 (bY _ (n+1)) ?_
    refine C1 (bY _ (n+1+1)) ?_
    refine C1 (kT _ _) ?_
    rfl
   have k4:=h
   rw[if_neg h] at hx
   refine S0 (fun hb h=>?_) fun hb h=>?_
   ·have hlen:x.fArgs.length=1:=by omega
    obtain⟨a,ha⟩:=List.length_eq_one_iff.1 hlen
    have ha0:x.fArgs[0]'(by omega)=a:=by simp[ha]
    rw[if_neg (by omega),if_pos h,ha] at hx
    have hfa:formed a=true:=rW.1 hf.2 a (by rw[ha];simp)
    have hsa:a.sz≤4194304:=hall a (by rw[ha];simp)
    have hla:SizeOf.sizeOf a<N:=by
     have:=List.sizeOf_lt_of_mem (show a∈x.fArgs by rw[ha];simp)
     omega
    rw[hx]
    refine C1 (bY _ (n+1)) ?_
    refine bN (bY _ (n+1+1)) ?_
    simp -implicitDefEqProofs (disch:=omega) only[go_sem,ha,List.getD_cons_zero]
    refine W3 ?_
    refine C1 (ih a hla (n+1+1+1) hfa hsa) ?_
    refine C1 (kT _ _) ?_
    simp only[dJ,cO,List.cons_append,List.nil_append,List.map_cons,List.map_nil,iA,kC,q8,iO,iy,jk,jl,ku]
   have k3:=h
   refine S0 (fun hb h=>?_) fun hb h=>?_
   ·rw[if_pos ⟨by omega,by omega⟩] at hx
    rw[hx]
    refine C1 (bY _ n) ?_
    rfl
   rw[if_neg (by omega),if_neg k3] at hx
   rw[hx]
   refine C1 (bY _ (n+1)) ?_
   refine C1 (BM x.fArgs (by omega) 0 (n+1+1) hf.2 hts.1 hall) ?_
   have hl:(lx (x.fArgs.map cB) (n+1+1)).length=x.fArgs.length:=by rw[eT,List.length_map]
   have hr:=iZ (l:=x.fArgs.map cB) (n:=n+1+1)
   refine W3 ?_
   refine C1 (jm _) ?_
   simp only[dJ,cO,List.cons_append,List.nil_append,iA,kC,q8,iO]
  ·have ads:=fun(i:Nat) (hi:i<xs.length)=>uY (l:=xs.map cB) (i:=i) (by rw[List.length_map];exact hi) q
   intro S
   refine yO (n) (rs:=[.tmp 2]) Tryz.checked.mixed Tryz.func228 Tryz.ntmps228 rfl rfl rfl rfl rfl ?_
   refine W1 ?_
   refine W3 ?_
   refine kV n 3 2 [] (.inl rfl) (by simp) ?_
   refine aQ (ι:=Nat) Tryz.checked.mixed rfl [3,7,8,9] (fun i=>[.c (.bH (0,1) (lx ((xs.map cB).take i) q)),.c (.d (.sl (xs.map ah.enc))),.c (.d (.i .i64 xs.length)),.c (.d (.i .i64 i))]) (fun i=>[.seed n,.d9 n 2 (lx ((xs.map cB).take i) q)]::S)
    (fun i=>i≤xs.length) (fun i=>xs.length-i) 0 rfl rfl (Nat.zero_le _) ?_
   intro i hi
   refine W1 ?_
   refine S0 (fun hb h=>?_) fun hb h=>?_
   ·have hi':i<xs.length:=by omega
    have hs:=ads i hi'
    rw[List.getElem_map] at hs
    have hl:(lx ((xs.map cB).take i) q).length≤i:=by rw[eT];exact List.length_take_le _ _
    refine W3 ?_
    refine C1 (ih xs[i] (by have:=List.sizeOf_lt_of_mem (List.getElem_mem hi');omega) (q+gB ((xs.map cB).take i)) (rW.1 hf _ (List.getElem_mem hi')) (hsz _ (List.getElem_mem hi'))) ?_
    refine W3 ?_
    rw[hs]
    exact cu 2 (by decide) (i+1) (by omega) rfl rfl rfl rfl (by omega)
   ·have hi':i=(xs.map cB).length:=by rw[List.length_map];omega
    rw[hi',List.take_length]
theorem jC(x:ah)(n:Nat)(hf:formed x=true)(hsz:x.sz≤4194304):aD Tryz.prog 206 [x.v] (.agg [.d (.s (cB x).bS),.d (.ol n (lx (cB x).aY (n+1)))]):=(AL _).1 x (Nat.lt_succ_self _) n hf hsz
theorem vJ(xs:List ah)(n q:Nat)(hf:iP xs=true)(hlen:xs.length≤4194304)(hsz:∀t∈xs,t.sz≤4194304):aD Tryz.prog 228 [.c (.d (.sl (xs.map ah.enc)))] (.c (.d (.ol n (lx (xs.map cB) q)))):=(AL _).2 xs (Nat.lt_succ_self _) n q hf hlen hsz
end Go.Proofs.YtcfhnaohbaplhaaGreatDoor
namespace Go.Ab
theorem dX(s:List UInt8):(bO s).enc=[.s s,.sl []]:=by rw[aj.aH];rfl
theorem iq(l:List aj):(bR l).enc=[.s [],.sl (l.map aj.enc)]:=by rw[aj.aH];rfl
theorem gQ{base l:List aj}{i:Nat}(hi:i<l.length):(base++l.take i).map aj.enc++[[.s l[i].bS,.sl (l[i].aY.map aj.enc)]]=(base++l.take (i+1)).map aj.enc:=by
 rw[List.take_succ_eq_append_getElem hi,←List.append_assoc,List.map_append (l₂:=[l[i]]),List.map_cons,List.map_nil,aj.aH]
theorem u6(s:List UInt8)(es:List (List D)):Less (.agg [.d (.s s),.bC es]) (.agg [.d (.s s),.d (.sl es)]):=y8 rfl fun j x y hx hy w σ S β v hv=>by
 match j,hx,hy with
 |0,hx,hy=>cases hx;cases hy;exact hv
 |1,hx,hy=>cases hx;cases hy;exact hv.1
 |j+2,hx,hy=>simp at hx
theorem Df(x:aj)(n:Nat):Less (.agg [.d (.s x.bS),.d (.ol n (lx x.aY (n+1)))]) x.v:=by
 have h:=M6 (r:=x.enc) (n:=n)
 rw[iy,aj.oq] at h
 exact h
end Go.Ab
namespace Go.Proofs.YtcfhnaohbaplhaaGreatDoor
open Go Go.Ab
theorem Nk(s:List UInt8):aD Tryz.prog 128 [.c (.d (.s s))] (.agg [.d (.s s),.bC []]):=fun S=>by
 refine aB (rs:=[.cell 2 78]) Tryz.checked.mixed Tryz.func128 Tryz.ntmps128 rfl rfl rfl rfl rfl ?_
 exact Z1
theorem bJ(s:List UInt8):aD Tryz.prog 128 [.c (.d (.s s))] (.agg [.d (.s s),.d (.sl [])]):=aD.less (Nk s) (u6 s [])
theorem kJ(es:List (List D))(hes:∀e∈es,e.length=2)(hl:es.length≤1073741824):aD Tryz.prog 127 [.c (.d (.sl es))] (.agg [.d (.s []),.d (.sl es)]):=fun S=>by
 refine aB (rs:=[.cell 2 78]) Tryz.checked.mixed Tryz.func127 Tryz.ntmps127 rfl rfl rfl rfl rfl ?_
 refine W1 ?_
 exact⟨hes,⟨_,rfl,rfl⟩,(fun y hy=>by cases hy),hl⟩
theorem iJ(es:List (List D))(hes:∀e∈es,e.length=2)(hl:es.length≤1073741824)(bM:List Ab.Obj)(Ω:Store):dF Tryz.prog 127 [.c (.d (.sl es))] (bM::Ω)
 (fun r S'=>r=.agg [.d (.s []),.bH (0,bM.length+1) es]∧S'=(bM++[.box [.d (.s []),.bH (0,bM.length+1) es],.tok 2 es])::Ω):=by
 refine JD (rs:=[.cell 2 78]) Tryz.checked.mixed Tryz.func127 Tryz.ntmps127 rfl rfl rfl rfl rfl ?_
 refine W1 ?_
 exact⟨hes,⟨_,rfl,rfl⟩,(fun y hy=>by cases hy),hl⟩
theorem Co(xs:List (List UInt8))(hx:xs.length≤1073741824):aD Tryz.prog 200 [.c (.d (.sl (xs.map encS)))] (.c (.d (.sl ((aT xs).map aj.enc)))):=fun S=>by
 refine aB (rs:=[.tmp 2]) Tryz.checked.mixed Tryz.func200 Tryz.ntmps200 rfl rfl rfl rfl rfl ?_
 refine W1 ?_
 refine W3 ?_
 refine nD 3 2 [] rfl (by simp) ?_
 refine aQ (ι:=Nat) Tryz.checked.mixed rfl [0,3,4] (fun i=>[.c (.d (.sl (xs.map encS))),.c (.bH (0,0) (((aT xs).take i).map aj.enc)),.c (.d (.i .i64 i))]) (fun i=>[.tok 2 (((aT xs).take i).map aj.enc)]::S)
  (fun i=>i≤xs.length) (fun i=>xs.length-i) 0 rfl rfl (Nat.zero_le _) ?_
 intro i hi
 have hl:(((aT xs).take i).map aj.enc).length≤i:=by rw[List.length_map];exact List.length_take_le _ _
 refine W1 ?_
 refine S0 (fun hb h=>?_) fun hb h=>?_
 ·have hi':i<xs.length:=by omega
  have hs:=gQ (base:=[]) (l:=aT xs) (i:=i) (by rw[iD];exact hi')
  have hg:(aT xs)[i]'(by rw[iD];exact hi')=bO xs[i]:=by simp[aT]
  rw[hg] at hs
  simp only[List.nil_append,jk,jl,List.map_nil] at hs
  refine W3 ?_
  refine C1 (bJ xs[i]) ?_
  refine W3 ?_
  rw[hs]
  exact bF (i+1) (by omega) rfl rfl (by omega)
 ·have hi':i=(aT xs).length:=by rw[iD];omega
  rw[hi',List.take_length]
theorem dG(xs:List (List UInt8))(hx:xs.length≤1073741824):aD Tryz.prog 129 [.c (.d (.sl (xs.map encS)))] (.agg [.d (.s []),.d (.sl ((aT xs).map aj.enc))]):=fun S=>by
 refine aB (rs:=[.cell 2 78]) Tryz.checked.mixed Tryz.func129 Tryz.ntmps129 rfl rfl rfl rfl rfl ?_
 refine W1 ?_
 exact C3 (Co xs hx)
theorem Gz:∀N:Nat,(∀x:ah,SizeOf.sizeOf x<N→x.sz≤4194304→aD Tryz.prog 199 [x.v] (.agg [.d (.s (cB x).bS),.d (.sl ((cB x).aY.map aj.enc))]))
 |0=>fun x h=>by omega
 |N+1=>by
  have ih:=Gz N
  intro x hn hsz
  have iW:=ah.fD x
  have hts:=yK hsz
  have hx:=UQ x
  have hall:∀t∈x.fArgs,t.sz≤4194304:=fun t ht=>by
   obtain⟨i,hi,e⟩:=List.getElem_of_mem ht
   rw[←e];exact(qU hi hsz).1
  intro S
  refine aB (rs:=[.cell 2 78]) Tryz.checked.mixed Tryz.func199 Tryz.ntmps199 rfl rfl rfl rfl rfl ?_
  refine W1 ?_
  refine S0 (fun hb h=>?_) fun hb h=>?_
  ·rw[if_pos h] at hx
   rw[hx]
   refine W3 ?_
   refine C1 (bJ _) ?_
   rfl
  rw[if_neg h] at hx
  refine S0 (fun hb h=>?_) fun hb h=>?_
  ·rw[if_pos h] at hx
   rw[hx]
   refine C1 (bJ _) ?_
   refine C1 (bJ _) ?_
   refine C1 (kJ _ (by simp) (by simp)) ?_
   simp only[dJ,cO,List.map_cons,List.map_nil,dX,RB]
  rw[if_neg h] at hx
  have afi:x.aU=2→x.fArgs.length=0→cB x=bO x.fName:=fun a b=>by rw[hx,if_pos ⟨a,b⟩]
  have XV:¬(x.aU=2∧x.fArgs.length=0)→cB x=bR ((if x.aU=3 then [bO ku] else [])++[bO x.fName]++x.fArgs.map cB):=fun a=>by rw[hx,if_neg a]
  clear hx
  repeat' (first|(refine S0 (fun hb h=>?_) fun hb h=>?_))
  ·rw[afi (by omega) (by omega)]
   refine C1 (bJ _) ?_
   rfl
  ·exfalso;omega
  ·have hx:=XV (by omega)
   rw[if_neg h,List.nil_append] at hx
   refine C1 (bJ _) ?_
   refine W3 ?_
   refine aQ (ι:=Nat) Tryz.checked.mixed rfl [1,2,3,4] (fun i=>[.c (.ptr (0,0) 0),.c (.ptr (0,1) 0),.c (.ptr (0,2) 0),.c (.d (.i .i64 i))])
    (fun i=>[.box [.d (.i .i64 x.aU),.d (.s x.fName),.d (.sl (x.fArgs.map ah.enc))],.box [.d (.s []),.bC []],.box [.d (.s []),.bH (0,3) (([bO x.fName]++(x.fArgs.map cB).take i).map aj.enc)],.tok 2 (([bO x.fName]++(x.fArgs.map cB).take i).map aj.enc)]::S)
    (fun i=>i≤x.fArgs.length) (fun i=>x.fArgs.length-i) 0 rfl ?_ (Nat.zero_le _) ?_
   ·simp only[List.take_zero,List.append_nil,List.map_cons,List.map_nil,List.cons_append,List.nil_append,dX]<;>(try rfl)
   intro i hi
   have hl:(([bO x.fName]++(x.fArgs.map cB).take i).map aj.enc).length≤i+2:=by
    rw[List.length_map,List.length_append]
    have:=List.length_take_le i (x.fArgs.map cB)
    simp only[List.length_cons,List.length_nil];omega
   have hs:=fun hi=>gQ (base:=[bO x.fName]) (l:=x.fArgs.map cB) (i:=i) hi
   have hrw:=jg (l:=[bO x.fName]++(x.fArgs.map cB).take i)
   generalize hR:([bO x.fName]++(x.fArgs.map cB).take i).map aj.enc=R at hl hs hrw
   refine W1 ?_
   refine S0 (fun hb h=>?_) fun hb h=>?_
   ·have hi':i<x.fArgs.length:=by omega
    have hs':=hs (by rw[List.length_map];exact hi')
    rw[List.getElem_map] at hs'
    refine W3 ?_
    refine C1 (ih x.fArgs[i] (by have:=List.sizeOf_lt_of_mem (List.getElem_mem hi');omega) (hall _ (List.getElem_mem hi'))) ?_
    refine W3 ?_
    rw[hs']
    exact bF (i+1) (by omega) rfl rfl (by omega)
   ·have hi':i=(x.fArgs.map cB).length:=by rw[List.length_map];omega
    rw[hx,←hR,hi',List.take_length]
    simp only[dJ,cO,List.cons_append,List.nil_append]
  ·have hx:=XV (by omega)
   rw[if_pos h] at hx
   refine C1 (bJ _) ?_
   refine W3 ?_
   refine C1 (bJ _) ?_
   refine W3 ?_
   refine aQ (ι:=Nat) Tryz.checked.mixed rfl [1,2,3,4] (fun i=>[.c (.ptr (0,0) 0),.c (.ptr (0,1) 0),.c (.ptr (0,2) 0),.c (.d (.i .i64 i))])
    (fun i=>[.box [.d (.i .i64 x.aU),.d (.s x.fName),.d (.sl (x.fArgs.map ah.enc))],.box [.d (.s []),.bC []],.box [.d (.s []),.bH (0,3) (([bO ku,bO x.fName]++(x.fArgs.map cB).take i).map aj.enc)],.tok 2 (([bO ku,bO x.fName]++(x.fArgs.map cB).take i).map aj.enc)]::S)
    (fun i=>i≤x.fArgs.length) (fun i=>x.fArgs.length-i) 0 rfl ?_ (Nat.zero_le _) ?_
   ·simp only[List.take_zero,List.append_nil,List.map_cons,List.map_nil,List.cons_append,List.nil_append,dX]<;>(try rfl)
   intro i hi
   have hl:(([bO ku,bO x.fName]++(x.fArgs.map cB).take i).map aj.enc).length≤i+2:=by
    rw[List.length_map,List.length_append]
    have:=List.length_take_le i (x.fArgs.map cB)
    simp only[List.length_cons,List.length_nil];omega
   have hs:=fun hi=>gQ (base:=[bO ku,bO x.fName]) (l:=x.fArgs.map cB) (i:=i) hi
   have hrw:=jg (l:=[bO ku,bO x.fName]++(x.fArgs.map cB).take i)
   generalize hR:([bO ku,bO x.fName]++(x.fArgs.map cB).take i).map aj.enc=R at hl hs hrw
   refine W1 ?_
   refine S0 (fun hb h=>?_) fun hb h=>?_
   ·have hi':i<x.fArgs.length:=by omega
    have hs':=hs (by rw[List.length_map];exact hi')
    rw[List.getElem_map] at hs'
    refine W3 ?_
    refine C1 (ih x.fArgs[i] (by have:=List.sizeOf_lt_of_mem (List.getElem_mem hi');omega) (hall _ (List.getElem_mem hi'))) ?_
    refine W3 ?_
    rw[hs']
    exact bF (i+1) (by omega) rfl rfl (by omega)
   ·have hi':i=(x.fArgs.map cB).length:=by rw[List.length_map];omega
    rw[hx,←hR,hi',List.take_length]
    simp only[dJ,cO,List.cons_append,List.nil_append]
  ·have hx:=XV (by omega)
   rw[if_neg h,List.nil_append] at hx
   refine C1 (bJ _) ?_
   refine W3 ?_
   refine aQ (ι:=Nat) Tryz.checked.mixed rfl [1,2,3,4] (fun i=>[.c (.ptr (0,0) 0),.c (.ptr (0,1) 0),.c (.ptr (0,2) 0),.c (.d (.i .i64 i))])
    (fun i=>[.box [.d (.i .i64 x.aU),.d (.s x.fName),.d (.sl (x.fArgs.map ah.enc))],.box [.d (.s []),.bC []],.box [.d (.s []),.bH (0,3) (([bO x.fName]++(x.fArgs.map cB).take i).map aj.enc)],.tok 2 (([bO x.fName]++(x.fArgs.map cB).take i).map aj.enc)]::S)
    (fun i=>i≤x.fArgs.length) (fun i=>x.fArgs.length-i) 0 rfl ?_ (Nat.zero_le _) ?_
   ·simp only[List.take_zero,List.append_nil,List.map_cons,List.map_nil,List.cons_append,List.nil_append,dX]<;>(try rfl)
   intro i hi
   have hl:(([bO x.fName]++(x.fArgs.map cB).take i).map aj.enc).length≤i+2:=by
    rw[List.length_map,List.length_append]
    have:=List.length_take_le i (x.fArgs.map cB)
    simp only[List.length_cons,List.length_nil];omega
   have hs:=fun hi=>gQ (base:=[bO x.fName]) (l:=x.fArgs.map cB) (i:=i) hi
   have hrw:=jg (l:=[bO x.fName]++(x.fArgs.map cB).take i)
   generalize hR:([bO x.fName]++(x.fArgs.map cB).take i).map aj.enc=R at hl hs hrw
   refine W1 ?_
   refine S0 (fun hb h=>?_) fun hb h=>?_
   ·have hi':i<x.fArgs.length:=by omega
    have hs':=hs (by rw[List.length_map];exact hi')
    rw[List.getElem_map] at hs'
    refine W3 ?_
    refine C1 (ih x.fArgs[i] (by have:=List.sizeOf_lt_of_mem (List.getElem_mem hi');omega) (hall _ (List.getElem_mem hi'))) ?_
    refine W3 ?_
    rw[hs']
    exact bF (i+1) (by omega) rfl rfl (by omega)
   ·have hi':i=(x.fArgs.map cB).length:=by rw[List.length_map];omega
    rw[hx,←hR,hi',List.take_length]
    simp only[dJ,cO,List.cons_append,List.nil_append]
theorem jN(x:ah)(hsz:x.sz≤4194304):aD Tryz.prog 199 [x.v] (.agg [.d (.s (cB x).bS),.d (.sl ((cB x).aY.map aj.enc))]):=Gz _ x (Nat.lt_succ_self _) hsz
theorem wX(xs:List ah)(hlen:xs.length≤4194304)(hsz:∀t∈xs,t.sz≤4194304):aD Tryz.prog 218 [.c (.d (.sl (xs.map ah.enc)))] (.c (.d (.sl ((xs.map cB).map aj.enc)))):=fun S=>by
 refine aB (rs:=[.tmp 2]) Tryz.checked.mixed Tryz.func218 Tryz.ntmps218 rfl rfl rfl rfl rfl ?_
 refine W1 ?_
 refine W3 ?_
 refine nD 3 2 [] rfl (by simp) ?_
 refine aQ (ι:=Nat) Tryz.checked.mixed rfl [0,3,4] (fun i=>[.c (.d (.sl (xs.map ah.enc))),.c (.bH (0,0) (((xs.map cB).take i).map aj.enc)),.c (.d (.i .i64 i))]) (fun i=>[.tok 2 (((xs.map cB).take i).map aj.enc)]::S)
  (fun i=>i≤xs.length) (fun i=>xs.length-i) 0 rfl rfl (Nat.zero_le _) ?_
 intro i hi
 have hl:(((xs.map cB).take i).map aj.enc).length≤i:=by rw[List.length_map];exact List.length_take_le _ _
 refine W1 ?_
 refine S0 (fun hb h=>?_) fun hb h=>?_
 ·have hi':i<xs.length:=by omega
  have hs:=gQ (base:=[]) (l:=xs.map cB) (i:=i) (by rw[List.length_map];exact hi')
  rw[List.getElem_map] at hs
  simp only[List.nil_append] at hs
  refine W3 ?_
  refine C1 (jN xs[i] (hsz _ (List.getElem_mem hi'))) ?_
  refine W3 ?_
  rw[hs]
  exact bF (i+1) (by omega) rfl rfl (by omega)
 ·have hi':i=(xs.map cB).length:=by rw[List.length_map];omega
  rw[hi',List.take_length]
theorem ni(b:Bool)(x:aj)(hsz:x.sz≤67108864):aD Tryz.prog 134 [.c (.d (.b b)),x.v] (qV b x).v:=by
 have zero:aD Tryz.prog 134 [.c (.d (.b b)),x.v] (.agg [.d (.s []),.bC []])→aD Tryz.prog 134 [.c (.d (.b b)),x.v] wV.v:=fun h=>aD.less h (u6 [] [])
 cases b with
 |false=>
  refine zero fun S=> ?_
  refine aB (rs:=[.cell 4 78]) Tryz.checked.mixed Tryz.func134 Tryz.ntmps134 rfl rfl rfl rfl rfl ?_
  exact Z1
 |true=>
  show aD Tryz.prog 134 [.c (.d (.b true)),x.v] (oZ x).v
  unfold oZ
  cases hv:gU x with
  |false=>
   refine zero fun S=> ?_
   refine aB (rs:=[.cell 4 78]) Tryz.checked.mixed Tryz.func134 Tryz.ntmps134 rfl rfl rfl rfl rfl ?_
   refine W1 ?_
   refine bN (wB x hsz) ?_
   simp -implicitDefEqProofs (disch:=omega) only[go_sem,hv]
  |true=>
   intro S
   refine aB (rs:=[.cell 4 78]) Tryz.checked.mixed Tryz.func134 Tryz.ntmps134 rfl rfl rfl rfl rfl ?_
   refine W1 ?_
   refine bN (wB x hsz) ?_
   simp -implicitDefEqProofs (disch:=omega) only[go_sem,hv]
theorem Sc(x:aj)(n:Nat)(hsz:x.sz≤67108864):aD Tryz.prog 115 [.agg [.d (.s x.bS),.d (.ol n (lx x.aY (n+1)))]] (.agg [.d (.s (oZ x).bS),.d (.ol n (lx (oZ x).aY (n+1)))]):=by
 unfold oZ
 cases hv:gU x with
 |false=>
  refine aD.less (fun S=> ?_) (Dc [] n)
  refine aB (rs:=[.cell 2 78]) Tryz.checked.mixed Tryz.func115 Tryz.ntmps115 rfl rfl rfl rfl rfl ?_
  refine W1 ?_
  refine nH (qd x hsz) (.cons (Df x n) .nil) ?_
  simp -implicitDefEqProofs (disch:=omega) only[go_sem,hv]
 |true=>
  intro S
  refine aB (rs:=[.cell 2 78]) Tryz.checked.mixed Tryz.func115 Tryz.ntmps115 rfl rfl rfl rfl rfl ?_
  refine W1 ?_
  refine nH (qd x hsz) (.cons (Df x n) .nil) ?_
  simp -implicitDefEqProofs (disch:=omega) only[go_sem,hv]
end Go.Proofs.YtcfhnaohbaplhaaGreatDoor
namespace Go.Proofs
open Go.Shelf
def Tryz.laysM171_ren:Go.Shelf.Ren:=⟨fun|171=>290|243=>348|246=>370|283=>387|284=>388|285=>389|286=>390|129=>402|317=>401|318=>403|319=>404|320=>405|337=>413|338=>414|n=>n,fun|3=>3|9=>9|2=>2|4=>4|171=>379|0=>0|53=>380|37=>154|5=>5|173=>383|212=>396|51=>397|20=>20|213=>398|46=>400|232=>415|233=>416|n=>n,fun|17=>1|18=>4|19=>5|n=>n⟩
theorem Tryz.laysM171:Go.Proofs.LaysM.n171 Tryz.prog Tryz.laysM171_ren:={
 mixed:=by kernel_rfl
 f129:=Tryz.func402.trans (congrArg some (by kernel_rfl))
 f171:=Tryz.func290.trans (congrArg some (by kernel_rfl))
 f243:=Tryz.func348.trans (congrArg some (by kernel_rfl))
 f246:=Tryz.func370.trans (congrArg some (by kernel_rfl))
 f283:=Tryz.func387.trans (congrArg some (by kernel_rfl))
 f284:=Tryz.func388.trans (congrArg some (by kernel_rfl))
 f285:=Tryz.func389.trans (congrArg some (by kernel_rfl))
 f286:=Tryz.func390.trans (congrArg some (by kernel_rfl))
 f317:=Tryz.func401.trans (congrArg some (by kernel_rfl))
 f318:=Tryz.func403.trans (congrArg some (by kernel_rfl))
 f319:=Tryz.func404.trans (congrArg some (by kernel_rfl))
 f320:=Tryz.func405.trans (congrArg some (by kernel_rfl))
 f337:=Tryz.func413.trans (congrArg some (by kernel_rfl))
 f338:=Tryz.func414.trans (congrArg some (by kernel_rfl))
 t0:=Tryz.underlying0
 a0:=Tryz.isAgg0
 z0:=Tryz.sizeOf0
 v0:=Tryz.zeroValue0
 t2:=Tryz.underlying2
 a2:=Tryz.isAgg2
 z2:=Tryz.sizeOf2
 v2:=Tryz.zeroValue2
 t3:=Tryz.underlying3
 a3:=Tryz.isAgg3
 z3:=Tryz.sizeOf3
 v3:=Tryz.zeroValue3
 t4:=Tryz.underlying4
 a4:=Tryz.isAgg4
 z4:=Tryz.sizeOf4
 v4:=Tryz.zeroValue4
 t5:=Tryz.underlying5
 a5:=Tryz.isAgg5
 z5:=Tryz.sizeOf5
 v5:=Tryz.zeroValue5
 t9:=Tryz.underlying9
 a9:=Tryz.isAgg9
 z9:=Tryz.sizeOf9
 v9:=Tryz.zeroValue9
 t20:=Tryz.underlying20
 a20:=Tryz.isAgg20
 z20:=Tryz.sizeOf20
 v20:=Tryz.zeroValue20
 t37:=Tryz.underlying154
 a37:=Tryz.isAgg154
 z37:=Tryz.sizeOf154
 v37:=Tryz.zeroValue154
 t46:=Tryz.underlying400
 a46:=Tryz.isAgg400
 z46:=Tryz.sizeOf400
 v46:=Tryz.zeroValue400
 t51:=Tryz.underlying397
 a51:=Tryz.isAgg397
 z51:=Tryz.sizeOf397
 v51:=Tryz.zeroValue397
 t53:=Tryz.underlying380
 a53:=Tryz.isAgg380
 z53:=Tryz.sizeOf380
 v53:=Tryz.zeroValue380
 t171:=Tryz.underlying379
 a171:=Tryz.isAgg379
 z171:=Tryz.sizeOf379
 v171:=Tryz.zeroValue379
 t173:=Tryz.underlying383
 a173:=Tryz.isAgg383
 z173:=Tryz.sizeOf383
 v173:=Tryz.zeroValue383
 t212:=Tryz.underlying396
 a212:=Tryz.isAgg396
 z212:=Tryz.sizeOf396
 v212:=Tryz.zeroValue396
 t213:=Tryz.underlying398
 a213:=Tryz.isAgg398
 z213:=Tryz.sizeOf398
 t232:=Tryz.underlying415
 a232:=Tryz.isAgg415
 z232:=Tryz.sizeOf415
 v232:=Tryz.zeroValue415
 t233:=Tryz.underlying416
 a233:=Tryz.isAgg416
 z233:=Tryz.sizeOf416
 v233:=Tryz.zeroValue416
 g17:=by kernel_rfl
 g18:=by kernel_rfl
 g19:=by kernel_rfl
 i0:=by kernel_rfl
 i2:=by kernel_rfl
 i3:=by kernel_rfl
 i4:=by kernel_rfl
 i5:=by kernel_rfl
 i9:=by kernel_rfl
 i20:=by kernel_rfl
 i37:=by kernel_rfl
 i46:=by kernel_rfl
 i51:=by kernel_rfl
 i53:=by kernel_rfl
 i171:=by kernel_rfl
 i173:=by kernel_rfl
 i212:=by kernel_rfl
 i232:=by kernel_rfl
 i233:=by kernel_rfl
 m17:=by kernel_rfl
 m18:=by kernel_rfl
 m19:=by kernel_rfl}
open Go.RowKit Go.Sort Go.Lib in
theorem Tryz.strconv_Itoa(n:Int)(h0: -9223372036854775808≤n)(h1:n≤9223372036854775807)(w:World)(htab:Lib.TabIs Tryz.prog w "internal/strconv.uint64pow10" .u64 Lib.pow10Tab):
 Calls Tryz.prog 290 #[.int .i64 n] w fun e w'=>e=.returned (.string ⟨(Lib.itoa n).toArray⟩)∧∃k os,w'=grow (w.drewN k) os:=Any.strconv_Itoa Tryz.laysM171 n h0 h1 w htab
end Go.Proofs
namespace Go.Ab
theorem Sd{w:World}{σ:Nat→Nat}{k:Nat}{os:Array Go.Obj}(hl:∀b,b<w.heap.size∨σ b=0):Grow w σ (Go.Sort.grow (w.drewN k) os) σ:=by
 have hh:(Go.Sort.grow (w.drewN k) os).heap=w.heap++os:=rfl
 refine⟨by rw[hh];simp,rfl,rfl,fun b hb=>⟨by rw[hh,Array.getElem?_append_left hb],rfl⟩,fun b=> ?_⟩
 rcases hl b with h|h
 ·left;rw[hh];simp;omega
 ·exact .inr h
theorem ZO{x:V}{vs:List Value}{w:World}{σ:Nat→Nat}{S:Store}{β:Hs}(h:nK w σ S β [x] vs):∃v,vs=[v]∧dD w σ S β x v:=by
 obtain⟨hl,h⟩:=h
 obtain⟨v,e,hr⟩:=h 0 x rfl
 match vs,hl,e with
 |[y],_,e=>simp at e;subst e;exact⟨_,rfl,hr⟩
end Go.Ab
namespace Go.Proofs.YtcfhnaohbaplhaaGreatDoor
open Go Go.Ab
theorem Vh{w:World}{σ:Nat→Nat}(h:rZ w σ):Lib.TabIs Tryz.prog w "internal/strconv.uint64pow10" .u64 Lib.pow10Tab:=by
 obtain⟨c,t,fz,q1,q2,q3⟩:=h _ _ (show _∈Pv from List.mem_cons_self ..)
 have hn:Tryz.prog.globalNamed "internal/strconv.uint64pow10" =some 1:=by kernel_rfl
 unfold Lib.TabIs World.var?
 rw[hn]
 simp only[Option.bind_some,q1,Option.some.injEq]
 apply Array.ext'
 rw[q2]
 simp[Lib.pow10Tab]
theorem ZP(n:Int)(h0: -9223372036854775808≤n)(h1:n≤9223372036854775807):aD Tryz.prog 290 [.c (.d (.i .i64 n))] (.c (.d (.s (Lib.itoa n)))):=fun S=>by
 refine⟨⟨_,Tryz.func290,by kernel_rfl,by kernel_rfl⟩,fun w σ β vs hS hv=> ?_⟩
 obtain⟨v,rfl,hr,_⟩:=ZO hv
 have hv0:v=.int .i64 n:=by cases hr;rfl
 subst hv0
 refine(Tryz.strconv_Itoa n h0 h1 w (Vh hS.rJ)).mono fun e w' ⟨he,k,os,hw⟩=> ?_
 subst hw
 have hg:Grow w σ (Go.Sort.grow (w.drewN k) os) σ:=Sd hS.live
 exact⟨_,.c (.d (.s (Lib.itoa n))),S,σ,β,he,hS.grow hg,Keep.refl _ _,Step.mE hg,⟨.s _,rfl⟩,rfl,rfl⟩
theorem EB(n:Int)(h0: -9223372036854775808≤n)(h1:n≤9223372036854775807):aD Tryz.prog 203 [.c (.d (.i .i64 n))] (.c (.d (.s (Lib.itoa n)))):=fun S=>by
 refine aB (rs:=[.tmp 2]) Tryz.checked.mixed Tryz.func203 Tryz.ntmps203 rfl rfl rfl rfl rfl ?_
 refine W1 ?_
 exact C4 (ZP n h0 h1)
end Go.Proofs.YtcfhnaohbaplhaaGreatDoor
namespace Go.Ab
def Cq(m:Nat):List UInt8:=if m=0 then [] else Lib.decDigits m
theorem Vi{m:Nat}(h:m≠0):Cq (m/10)++[UInt8.ofNat (48+m % 10)]=Cq m:=by
 unfold Cq
 rw[if_neg h]
 conv=>rhs;rw[Lib.decDigits]
 by_cases h10:m<10
 ·rw[dif_pos h10,if_pos (by omega),List.nil_append,Nat.mod_eq_of_lt h10]
 ·rw[dif_neg h10,if_neg (by omega)]
theorem XW(n:Int)(h0: -9223372036854775808≤n)(h1:n≤9223372036854775807):∃sg:Nat→Int,sg 0=0∧sg n.natAbs=n∧(∀m,m≠0→sg m≠0)∧(∀m,(sg m).tmod 10= -((m % 10:Nat):Int)∨(sg m).tmod 10=((m % 10:Nat):Int))∧
 (∀m,(sg m).tdiv 10=sg (m/10))∧∀m,m≤n.natAbs→ -9223372036854775808≤sg m∧sg m≤9223372036854775807:=by
 by_cases h:n<0
 ·refine⟨fun m=> -(m:Int),rfl,by simp only;omega,fun m hm=>by simp only;omega,fun m=>.inl ?_,fun m=> ?_,fun m hm=>by simp only;omega⟩
  ·simp only;rw[Int.neg_tmod];congr 1
  ·simp only;rw[Int.neg_tdiv];congr 1
 ·refine⟨fun m=>(m:Int),rfl,by simp only;omega,fun m hm=>by simp only;omega,fun m=>.inr rfl,fun m=>rfl,fun m hm=>by simp only;omega⟩
theorem Vj:Lib.itoa 0=[48]:=by
 unfold Lib.itoa
 rw[if_neg (by decide),Lib.decDigits,dif_pos (by decide)];rfl
theorem Sg(a:Nat)(h:a≤9223372036854775808):(Lib.decDigits a).length≤19:=Da 18 a (by omega)
end Go.Ab
namespace Go.Proofs.YtcfhnaohbaplhaaGreatDoor
open Go Go.Ab
theorem EC(n:Int)(h0: -9223372036854775808≤n)(h1:n≤9223372036854775807):aD Tryz.prog 197 [.c (.d (.i .i64 n))] (.c (.d (.s (Lib.itoa n)))):=fun S=>by
 obtain⟨sg,g0,gn,gne,afj,afk,abj⟩:=XW n h0 h1
 refine aB (rs:=[.tmp 2]) Tryz.checked.mixed Tryz.func197 Tryz.ntmps197 rfl rfl rfl rfl rfl ?_
 refine W1 ?_
 refine S0 (fun hb h=>?_) fun hb h=>?_
 ·rw[h,Vj]
 have hn0:=h
 have hd0:Cq n.natAbs=Lib.decDigits n.natAbs:=by unfold Cq;rw[if_neg (by omega)]
 have hln:=Sg n.natAbs (by omega)
 refine aQ (ι:=Nat×List UInt8) Tryz.checked.mixed rfl [0,3,4] (fun y=>[.c (.d (.i .i64 (sg y.1))),.c (.d (.b (decide (n<0)))),.c (.d (.s y.2))]) (fun _=>[]::S)
  (fun y=>y.1≤n.natAbs∧Cq y.1++y.2=Cq n.natAbs∧y.2.length≤19) (fun y=>y.1) (n.natAbs,[]) (by rw[gn];rfl) rfl ⟨Nat.le_refl _,List.append_nil _,by simp⟩ ?_
 rintro⟨m,out⟩ ⟨p1,p2,p3⟩
 simp only at p1 p2 p3
 have hr:=abj m p1
 have hm:=afj m
 have hq:=afk m
 generalize hx:sg m=x at *
 generalize hy:x.tmod 10=y at *
 have hlo:out.length≤19:=p3
 refine W1 ?_
 refine S0 (fun hb h=>?_) fun hb h=>?_
 ·have hm0:m≠0:=fun e=>by rw[e,g0] at hx;omega
  have hst:=Vi hm0
  have hr2:=abj (m/10) (by omega)
  have af2:(Cq (m/10)).length+1+out.length≤19:=by
   have:=congrArg List.length p2
   rw[←hst,hd0] at this
   simp only[List.length_append,List.length_cons,List.length_nil] at this
   omega
  simp -implicitDefEqProofs (disch:=omega) only[go_sem,hy]
  refine S0 (fun hb h=>?_) fun hb h=>?_
  ·have e1:(0:Int)-y=((m % 10:Nat):Int):=by omega
   have hc:UInt8.ofNat (IntKind.u8.wrap (48+(0-y))).toNat=UInt8.ofNat (48+m % 10):=by
    rw[wrap_u8 _ (by omega),e1]
    congr 1
   simp -implicitDefEqProofs (disch:=omega) only[go_sem,hy,hq]
   refine W3 ?_
   refine bF (m/10,UInt8.ofNat (48+m % 10)::out) (by simp only;omega) (by rw[←hc];rfl) rfl ⟨by simp only;omega,?_,by simp only[List.length_cons];omega⟩
   simp only
   rw[←p2,←hst,List.append_assoc];rfl
  ·have e1:y=((m % 10:Nat):Int):=by omega
   have hc:UInt8.ofNat (IntKind.u8.wrap (48+y)).toNat=UInt8.ofNat (48+m % 10):=by
    rw[wrap_u8 _ (by omega),e1]
    congr 1
   simp -implicitDefEqProofs (disch:=omega) only[go_sem,hy,hq]
   refine W3 ?_
   refine bF (m/10,UInt8.ofNat (48+m % 10)::out) (by simp only;omega) (by rw[←hc];rfl) rfl ⟨by simp only;omega,?_,by simp only[List.length_cons];omega⟩
   simp only
   rw[←p2,←hst,List.append_assoc];rfl
 ·have hm0:m=0:=by
   rcases Nat.eq_zero_or_pos m with e|e
   ·exact e
   ·exact absurd (by rw[hx];omega) (gne m (by omega))
  subst hm0
  have hout:out=Lib.decDigits n.natAbs:=by rw[←hd0,←p2];rfl
  refine S0 (fun hb h=>?_) fun hb h=>?_
  ·refine W3 ?_
   rw[hout]
   unfold Lib.itoa
   rw[if_pos h]
  ·rw[hout]
   unfold Lib.itoa
   rw[if_neg h,show n.toNat=n.natAbs by omega]
end Go.Proofs.YtcfhnaohbaplhaaGreatDoor
namespace Go.Ab
theorem Cr{P:Program}{w:World}{t u ty e:TypeId}{base:Option Addr}{n:Nat}{i:TypeInfo}{z:Value}(ht:P.underlying t=some (.slice e))(hu:P.underlying u=some (.int .i64))(hi:P.info? e=some i)
 (hz:i.zero=some z) (h1:1≤n) (hn:n≤1073741824) (hb:i.bytes≤4096) (hs:i.size=z.cells.size):
 ∃(cap:Nat) (row:Array Value),n≤cap∧row.size=cap*z.cells.size∧(Builtin.append_ #[t,u] ty #[.slice base 0 0,.int .i64 n]).run P w=
  .ok (.slice (some ⟨w.heap.size,0,none⟩) n cap) {w.drew with heap:=w.heap.push (.cells row e)}:=by
 have hn1:=EZ n 0 (by omega)
 have h48:¬(281474976710656<Builtin.nextslicecap n 0*i.bytes):=by
  have:Builtin.nextslicecap n 0*i.bytes≤(2*n+512)*4096:=Nat.mul_le_mul hn1 hb
  omega
 have h49:¬(281474976710656<(n:Int)*(i.bytes:Int)):=by
  have h2:n*i.bytes≤1073741824*4096:=Nat.mul_le_mul hn hb
  have:(n:Int)*(i.bytes:Int)=((n*i.bytes:Nat):Int):=by simp
  rw[this];omega
 have h63':¬(9223372036854775807<(n:Int)):=by omega
 have hroom':¬(n≤0):=by omega
 have hneg:¬((n:Int)<0):=by omega
 have hn0:¬n=0:=by omega
 have hw:IntKind.i64.wrap (n:Int)=n:=PS _ (by omega)
 have hmax:IntKind.i64.max=9223372036854775807:=by decide
 have ha:∀w:World,(asInt (.int .i64 (n:Int))).run P w=.ok (n:Int) w:=fun w=>by simp[asInt,asIntOf]
 let cap:=(Question.appendCap n 0 e).cut (w.tape w.drawn (Question.appendCap n 0 e))
 have hcap:n≤cap:=by simp[cap,Question.cut]
 refine⟨cap,#[]++(if n*i.size=0 then #[] else Builtin.zeroCells z.cells n)++Builtin.zeroCells z.cells (cap-n),hcap,?_,?_⟩
 ·by_cases h0:n*i.size=0
  ·rw[if_pos h0]
   have hsz:z.cells.size=0:=by
    rcases Nat.mul_eq_zero.1 h0 with h|h
    ·omega
    ·omega
   simp[Builtin.zeroCells,hsz]
  ·rw[if_neg h0]
   simp only[Builtin.zeroCells,Array.size_append,Array.size_map,Array.size_range,Array.size_empty,Nat.zero_add]
   rw[←Nat.add_mul]
   congr 1
   omega
 ·by_cases h0:n*i.size=0
  ·rw[if_pos h0]
   cases base<;>simp[Builtin.append_,run_underlying ht,run_underlying hu,sizeOf,typeInfo,zeroValue,hi,hz,hroom',h48,h49,h63',hneg,hw,hmax,Question.forced,newRow,ha,hn0,loadCellsFrom,h0,Builtin.firstCells,loadCells]<;>exact⟨rfl,rfl⟩
  ·rw[if_neg h0]
   cases base<;>simp[Builtin.append_,run_underlying ht,run_underlying hu,sizeOf,typeInfo,zeroValue,hi,hz,hroom',h48,h49,h63',hneg,hw,hmax,Question.forced,newRow,ha,hn0,loadCellsFrom,h0,Builtin.firstCells,loadCells]<;>exact⟨rfl,rfl⟩
end Go.Ab
namespace Go.Proofs.YtcfhnaohbaplhaaGreatDoor
open Go Go.Ab
theorem Vk(base:Option Addr)(n:Nat)(h1:1≤n)(hn:n≤1073741824)(w:World):Calls Tryz.prog 394 #[.slice base 0 0,.int .i64 n] w fun e w'=>
 ∃cap row,n≤cap∧row.size=cap∧e=.returned (.slice (some ⟨w.heap.size,0,none⟩) 0 cap)∧w'={w.drew with heap:=w.heap.push (.cells row 9)}:=by
 obtain⟨cap,row,hc,hr,hm⟩:=Cr (P:=Tryz.prog) (w:=w) (t:=41) (u:=3) (ty:=41) (e:=9) (base:=base) (n:=n) Tryz.underlying41 Tryz.underlying3 rfl rfl h1 hn (by decide +kernel) rfl
 have h0:¬((n:Int)<0):=by omega
 have h2:(0:Int)<n:=by omega
 go_enter Tryz.func394,Tryz.ntmps394
 go_wp2_with (at_builtin;refine Lib.wpList_append_run _ rfl _ _ _ _ rfl _ _ rfl rfl _ _ hm ?_)
 all_goals go_ret
 exact⟨cap,hc,row,hr.trans (Nat.mul_one _),rfl,rfl⟩
theorem Si(base:Option Addr)(w:World):Calls Tryz.prog 394 #[.slice base 0 0,.int .i64 0] w fun e w'=>e=.returned (.slice base 0 0)∧w'=w:=by
 go_enter Tryz.func394,Tryz.ntmps394
 go_wp2
 all_goals go_ret
 exact⟨rfl,rfl⟩
theorem XY(n:Nat)(hn:n≤1073741824)(bM:List Ab.Obj)(Ω:Store):dF Tryz.prog 394 [.c (.bC []),.c (.d (.i .i64 n))] (bM::Ω)
 (fun r S'=>r=.c (.bH (0,bM.length) [])∧S'=(bM++[.tok 1 []])::Ω):=by
 refine⟨⟨_,Tryz.func394,by kernel_rfl,by kernel_rfl⟩,fun w σ β vs hS hv=> ?_⟩
 obtain⟨hl,h⟩:=hv
 obtain⟨v0,e0,⟨h0,a,m,h00⟩,_⟩:=h 0 _ rfl
 obtain⟨v1,e1,h1,_⟩:=h 1 _ rfl
 have h1':v1=.int .i64 n:=by cases h1;rfl
 subst h1'
 have hm:m=0:=by rw[h00] at h0;cases h0<;>rfl
 subst hm
 subst h00
 have hvs:vs=[.slice a 0 0,.int .i64 n]:=by
  match vs,hl,e0,e1 with
  |[x,y],_,e0,e1=>simp at e0 e1;rw[e0,e1]
 subst hvs
 cases β with
 |nil=>have:=hS.shape.1;simp at this
 |cons bo bΩ=>
 have hlen:bo.length=bM.length:=by
  obtain⟨gr,g1,g2⟩:=hS.shape.2 0 bM rfl
  simp at g1;rw[g1];exact g2
 by_cases hz:n=0
 ·subst hz
  refine(Si a w).mono fun e w' ⟨he,hw⟩=> ?_
  subst hw
  obtain⟨hS',hk,hst⟩:=hS.push (o:=.tok 1 []) (h:=.slice a 0 0) (Grow.refl hS.live) hlen ⟨h0,by simp,a,0,rfl,by simp,.inl rfl⟩ (fun b hb=>by cases a<;>simp[owns,blk] at hb)
  refine⟨_,.c (.bH (0,bM.length) []),_,_,_,he,hS',hk,hst,⟨⟨h0,.tok 1 [],?_,fun bn es e=> ?_⟩,rfl⟩,rfl,rfl⟩
  ·rw[dx]
  ·obtain⟨_,rfl⟩:=mO (lab:=none) e;exact⟨Nat.le_refl _,fun _=>by rw[←hlen,dx]⟩
 ·refine(Vk a n (by omega) hn w).mono fun e w' ⟨cap,row,hc,hr,he,hw⟩=> ?_
  subst hw
  have hσ:σ w.heap.size=0:=(hS.live w.heap.size).resolve_left (by omega)
  have hg:Grow w σ {w.drew with heap:=w.heap.push (.cells row 9)} σ:=by
   refine⟨by simp,rfl,rfl,fun b hb=>⟨?_,rfl⟩,fun b=> ?_⟩
   ·simp only[Array.getElem?_push]
    rw[if_neg (by omega)]
   ·rcases hS.live b with hb|hb
    ·left;simp;omega
    ·exact .inr hb
  obtain⟨hS',hk,hst⟩:=hS.push (o:=.tok 1 []) (h:=.slice (some ⟨w.heap.size,0,none⟩) 0 cap) hg hlen ⟨.nil _ _,by simp,_,cap,rfl,by simp,.inr ⟨w.heap.size,0,row,9,rfl,by simp,by simp[hσ],by omega⟩⟩ (fun b hb=>by
   simp only[owns,blk] at hb
   split at hb
   ·cases hb
   ·cases hb;exact Nat.le_refl _)
  refine⟨_,.c (.bH (0,bM.length) []),_,_,_,he,hS',hk,hst,⟨⟨.nil _ _,.tok 1 [],?_,fun bn es e=> ?_⟩,rfl⟩,rfl,rfl⟩
  ·rw[dx]
  ·obtain⟨_,rfl⟩:=mO (lab:=none) e;exact⟨Nat.le_refl _,fun _=>by rw[←hlen,dx]⟩
theorem yj{xs:List (List UInt8)}:∀y∈xs.map encS,y.length=1:=fun y hy=>by
 obtain⟨z,_,rfl⟩:=List.mem_map.1 hy
 rfl
theorem AO{α:Type}(xss:List (List α)){i:Nat}(hi:i<xss.length):(xss.take (i+1)).flatten.length=(xss.take i).flatten.length+xss[i].length:=by
 rw[List.take_succ_eq_append_getElem hi,List.flatten_append,List.length_append]
 simp only[List.flatten_cons,List.flatten_nil,List.append_nil]
theorem tq{α:Type}(xss:List (List α))(i:Nat):(xss.take i).flatten.length≤xss.flatten.length:=by
 conv=>rhs;rw[←List.take_append_drop i xss]
 rw[List.flatten_append,List.length_append]
 omega
theorem Sj(xss:List (List (List UInt8)))(hl:xss.length≤1073741824)(hf:xss.flatten.length≤1073741824):aD Tryz.prog 383 [.c (.d (.sl (xss.map fun a=>[.sl (a.map encS)])))] (.c (.d (.sl (xss.flatten.map encS)))):=fun S=>by
 refine aB (rs:=[.tmp 2]) Tryz.checked.mixed Tryz.func383 Tryz.ntmps383 rfl rfl rfl rfl rfl ?_
 refine W1 ?_
 refine aQ (ι:=Nat) Tryz.checked.mixed rfl [0,3,9,10,11] (fun i=>[.c (.d (.sl (xss.map fun a=>[.sl (a.map encS)]))),.c (.d (.i .i64 (xss.take i).flatten.length)),.c (.d (.sl (xss.map fun a=>[.sl (a.map encS)]))),.c (.d (.i .i64 xss.length)),.c (.d (.i .i64 i))]) (fun _=>[]::S)
  (fun i=>i≤xss.length) (fun i=>xss.length-i) 0 rfl rfl (Nat.zero_le _) ?_
 rintro i p1
 have hfi:=tq xss i
 by_cases hi:i<xss.length
 ·have hs:=AO xss hi
  have XZ:=tq xss (i+1)
  refine W1 ?_
  refine S0 (fun hb h=>?_) fun hb h=>?_
  ·refine W3 ?_
   refine S0 (fun hb h=>?_) fun hb h=>?_
   ·omega
   ·refine bF (i+1) (by omega) ?_ rfl (by omega)
    rw[hs];rfl
  ·omega
 have hi:i=xss.length:=by omega
 subst hi
 refine W1 ?_
 refine S0 (fun hb h=>?_) fun hb h=>?_
 ·omega
 rw[List.take_length]
 clear hfi
 refine dR rfl (XY xss.flatten.length hf [] S) ?_
 refine W1 ?_
 refine aQ (ι:=Nat) Tryz.checked.mixed rfl [6,25,26,27] (fun i=>[.c (.bH (0,0) ((xss.take i).flatten.map encS)),.c (.d (.sl (xss.map fun a=>[.sl (a.map encS)]))),.c (.d (.i .i64 xss.length)),.c (.d (.i .i64 i))]) (fun i=>[.tok 1 ((xss.take i).flatten.map encS)]::S)
  (fun i=>i≤xss.length) (fun i=>xss.length-i) 0 rfl rfl (Nat.zero_le _) ?_
 rintro i p1
 have hfi:=tq xss i
 by_cases hi:i<xss.length
 ·have hs:=AO xss hi
  have XZ:=tq xss (i+1)
  have e:(xss.take (i+1)).flatten.map encS=(xss.take i).flatten.map encS++xss[i].map encS:=by
   rw[List.take_succ_eq_append_getElem hi,List.flatten_append,List.map_append]
   simp only[List.flatten_cons,List.flatten_nil,List.append_nil]
  refine W1 ?_
  refine S0 (fun hb h=>?_) fun hb h=>?_
  ·refine W3 ?_
   refine⟨yj,⟨_,rfl,rfl⟩,by omega,?_⟩
   exact bF (i+1) (by omega) (by rw[e];rfl) (by rw[e]) (by omega)
  ·omega
 ·have hi:i=xss.length:=by omega
  subst hi
  refine W1 ?_
  refine S0 (fun hb h=>?_) fun hb h=>?_
  ·omega
  rw[List.take_length]
theorem Sk(c:Nat)(w:World):Calls Tryz.prog 382 #[.slice none 0 c] w fun e w'=>e=.returned (.slice none 0 0)∧w'=w:=by
 have hb:(binOp .eql 41 (.slice none 0 c) (.slice none 0 0)).run Tryz.prog w=.ok (.bool true) w:=by
  simp[binOp,run_equal_slice_nil w _ _ _ _ _ Tryz.underlying41]
 go_enter Tryz.func382,Tryz.ntmps382
 go_wp2
 all_goals go_ret
 exact⟨rfl,rfl⟩
theorem Sl(w w':World)(a:Addr)(n c:Nat)(r:Value)(hm:(Builtin.append_ #[41,41] 41 #[.slice (some ⟨w.heap.size,0,none⟩) 0 0,.slice (some a) n c]).run Tryz.prog (w.alloc (.cells #[] 9))=.ok r w'):
 Calls Tryz.prog 382 #[.slice (some a) n c] w fun e w''=>e=.returned r∧w''=w':=by
 have hb:(binOp .eql 41 (.slice (some a) n c) (.slice none 0 0)).run Tryz.prog w=.ok (.bool false) w:=by
  simp[binOp,run_equal_slice_nil w _ _ _ _ _ Tryz.underlying41]
 go_enter Tryz.func382,Tryz.ntmps382
 go_wp2_with (at_builtin;refine Lib.wpList_append_run _ rfl _ _ _ _ rfl _ _ rfl rfl _ _ hm ?_)
 all_goals go_ret
 exact⟨rfl,rfl⟩
theorem Vl(xs:List (List UInt8))(hx:xs.length≤1073741824)(bM:List Ab.Obj)(Ω:Store):dF Tryz.prog 382 [.c (.d (.sl (xs.map encS)))] (bM::Ω)
 (fun r S'=>r=.c (.bH (0,bM.length) (xs.map encS))∧S'=(bM++[.tok 1 (xs.map encS)])::Ω):=by
 have adt:(xs.map encS).length≤1073741824:=by simpa using hx
 have h1:=yj (xs:=xs)
 generalize xs.map encS=es at *
 refine⟨⟨_,Tryz.func382,by kernel_rfl,by kernel_rfl⟩,fun w σ β vs hS hv=> ?_⟩
 obtain⟨hl,h⟩:=hv
 obtain⟨v,e0,hd,_⟩:=h 0 _ rfl
 have hd:dL w σ (.sl es) v:=hd
 have hvs:vs=[v]:=by
  match vs,hl,e0 with
  |[x],_,e0=>simp at e0;rw[e0]
 subst hvs
 cases β with
 |nil=>have:=hS.shape.1;simp at this
 |cons bo bΩ=>
 have hlen:bo.length=bM.length:=by
  obtain⟨gr,g1,g2⟩:=hS.shape.2 0 bM rfl
  simp at g1;rw[g1];exact g2
 have hv:∃a c,v=.slice a es.length c∧(a=none→es=[]):=by
  cases hd with
  |nil a cap=>exact⟨a,cap,rfl,fun _=>rfl⟩
  |sl b off cap bn es vals c t fz=>exact⟨_,_,rfl,fun h=>by cases h⟩
 obtain⟨a,c,rfl,ha⟩:=hv
 cases a with
 |none=>
  have:=ha rfl
  subst this
  refine(Sk c w).mono fun e w' ⟨he,hw⟩=> ?_
  subst hw
  obtain⟨hS',hk,hst⟩:=hS.push (o:=.tok 1 []) (h:=.slice none 0 0) (Grow.refl hS.live) hlen ⟨.nil _ _,by simp,none,0,rfl,by simp,.inl rfl⟩ (fun b hb=>by simp[owns,blk] at hb)
  refine⟨_,.c (.bH (0,bM.length) []),_,_,_,he,hS',hk,hst,⟨⟨.nil _ _,.tok 1 [],?_,fun bn es e=> ?_⟩,rfl⟩,rfl,rfl⟩
  ·rw[dx]
  ·obtain⟨_,rfl⟩:=mO (lab:=none) e;exact⟨Nat.le_refl _,fun _=>by rw[←hlen,dx]⟩
 |some a=>
  have hσ:σ w.heap.size=0:=(hS.live w.heap.size).resolve_left (by omega)
  have hg:Grow w σ (w.alloc (.cells #[] 9)) σ:=by
   have hh:(w.alloc (.cells #[] 9)).heap=w.heap.push (.cells #[] 9):=rfl
   refine⟨by rw[hh];simp,rfl,rfl,fun b hb=>⟨?_,rfl⟩,fun b=> ?_⟩
   ·rw[hh,Array.getElem?_push]
    rw[if_neg (by omega)]
   ·rcases hS.live b with hb|hb
    ·left;rw[hh];simp;omega
    ·exact .inr hb
  have Bp:gZ (w.alloc (.cells #[] 9)) σ [] [] (.tok 1 []) (.slice (some ⟨w.heap.size,0,none⟩) 0 0):=⟨.nil _ _,by simp,_,0,rfl,by simp,.inl rfl⟩
  obtain⟨r,w',σ',hr,hro,hsz,hos,hout,hn,hli,wz,hbk,hzero,h1c⟩:=tO (lab:=none) (P:=Tryz.prog) (w:=w.alloc (.cells #[] 9)) (σ:=σ) (S:=[]) (β:=[]) (t:=41) (u:=41) (ty:=41) (e:=9) (size:=1) (es:=[]) (ys:=es) hg.live Tryz.underlying41 (.inl ⟨_,Tryz.underlying41⟩) ⟨[.d (.s [])],by kernel_rfl,rfl⟩ rfl (by decide +kernel) Bp (Bq (dL.mono hg.near hd) h1) (by simpa using adt)
  rw[List.nil_append] at hro hbk
  refine(Sl w w' a es.length c r hr).mono fun e w'' ⟨he,hw⟩=> ?_
  subst hw
  have hg2:Grow (w.alloc (.cells #[] 9)) σ w'' σ':=⟨hsz,hos,hout,fun b hb=>wz b hb (by simp[kI,owns,blk]),hli⟩
  have hg3:=hg.trans hg2
  obtain⟨hS',hk,hst⟩:=hS.push (o:=.tok 1 es) (h:=r) hg3 hlen (hro _ _) (fun b hb=>by
   rcases hbk b hb with h|h
   ·simp[kI,owns,blk] at h
   ·exact Nat.le_trans hg.size h)
  refine⟨_,.c (.bH (0,bM.length) es),_,_,_,he,hS',hk,hst,⟨⟨(hro [] []).1,.tok 1 es,?_,fun bn es' e=> ?_⟩,h1c⟩,rfl,rfl⟩
  ·rw[dx]
  ·obtain⟨_,rfl⟩:=mO (lab:=none) e;exact⟨Nat.le_refl _,fun _=>by rw[←hlen,dx]⟩
end Go.Proofs.YtcfhnaohbaplhaaGreatDoor
namespace Go.Ab
theorem dF.args{P:Program}{f:FuncId}{args args':List V}{S:Store}{post:V→Store→Prop}(h:dF P f args' S post)(hl:qg args args'):dF P f args S post:=h.weaken hl.length fun j x y hx hy w σ β v hr=>hl.at j x y hx hy w σ S β v hr
theorem lg(n:Nat)(es:List (List D)):Less (.c (.j5 n es)) (.c (.d (.sl es))):=fun w σ S β v h=>⟨vN h.1.1,h.2⟩
end Go.Ab
namespace Go.Proofs.YtcfhnaohbaplhaaGreatDoor
open Go Go.Ab
theorem lq(xs:List (List UInt8))(hx:xs.length≤1073741824)(n q:Nat)(bM:List Ab.Obj)(Ω:Store):dF Tryz.prog 204 [.c (.d (.sl (xs.map encS)))] (bM::Ω)
 (fun r S'=>r=.c (.bH (0,bM.length+1) (lx (aT xs) q))∧S'=(bM++[.seed n,.d9 n 2 (lx (aT xs) q)])::Ω):=by
 refine RZ (n) (rs:=[.tmp 2]) Tryz.checked.mixed Tryz.func204 Tryz.ntmps204 rfl rfl rfl rfl rfl ?_
 refine W1 ?_
 refine W3 ?_
 refine kV n 3 2 [] (.inl rfl) (by simp) ?_
 refine aQ (ι:=Nat) Tryz.checked.mixed rfl [3,7,8,9] (fun i=>[.c (.bH (0,1) (lx ((aT xs).take i) q)),.c (.d (.sl (xs.map encS))),.c (.d (.i .i64 xs.length)),.c (.d (.i .i64 i))]) (fun i=>[.seed n,.d9 n 2 (lx ((aT xs).take i) q)]::bM::Ω)
  (fun i=>i≤xs.length) (fun i=>xs.length-i) 0 rfl rfl (Nat.zero_le _) ?_
 intro i hi
 refine W1 ?_
 refine S0 (fun hb h=>?_) fun hb h=>?_
 ·have hi':i<xs.length:=by omega
  have hw:i<(aT xs).length:=by rw[iD];exact hi'
  have hg:(aT xs)[i]=bO xs[i]:=by simp[aT]
  have hl:(lx ((aT xs).take i) q).length≤i:=by rw[eT];exact List.length_take_le _ _
  refine W3 ?_
  refine C1 (bY xs[i] (q+gB ((aT xs).take i))) ?_
  refine W3 ?_
  have hs:=II hw q
  rw[hg,q8] at hs
  rw[hs]
  exact bF (i+1) (by omega) rfl rfl (by omega)
 ·have hi':i=(aT xs).length:=by rw[iD];omega
  rw[hi',List.take_length]
  exact⟨rfl,rfl⟩
theorem Vm(base:Option Addr)(n:Nat)(h1:1≤n)(hn:n≤1073741824)(w:World):Calls Tryz.prog 291 #[.slice base 0 0,.int .i64 n] w fun e w'=>
 ∃cap row,n≤cap∧row.size=cap*2∧e=.returned (.slice (some ⟨w.heap.size,0,none⟩) 0 cap)∧w'={w.drew with heap:=w.heap.push (.cells row 78)}:=by
 obtain⟨cap,row,hc,hr,hm⟩:=Cr (P:=Tryz.prog) (w:=w) (t:=76) (u:=3) (ty:=76) (e:=78) (base:=base) (n:=n) Tryz.underlying76 Tryz.underlying3 rfl rfl h1 hn (by decide +kernel) rfl
 have h0:¬((n:Int)<0):=by omega
 have h2:(0:Int)<n:=by omega
 go_enter Tryz.func291,Tryz.ntmps291
 go_wp2_with (at_builtin;refine Lib.wpList_append_run _ rfl _ _ _ _ rfl _ _ rfl rfl _ _ hm ?_)
 all_goals go_ret
 exact⟨cap,hc,row,hr,rfl,rfl⟩
theorem Sm(base:Option Addr)(w:World):Calls Tryz.prog 291 #[.slice base 0 0,.int .i64 0] w fun e w'=>e=.returned (.slice base 0 0)∧w'=w:=by
 go_enter Tryz.func291,Tryz.ntmps291
 go_wp2
 all_goals go_ret
 exact⟨rfl,rfl⟩
theorem Vn(m n:Nat)(hn:n≤1073741824)(bM:List Ab.Obj)(Ω:Store):dF Tryz.prog 291 [.c (.bC []),.c (.d (.i .i64 n))] (bM::Ω)
 (fun r S'=>r=.c (.bH (0,bM.length) [])∧S'=(bM++[.d9 m 2 []])::Ω):=by
 refine⟨⟨_,Tryz.func291,by kernel_rfl,by kernel_rfl⟩,fun w σ β vs hS hv=> ?_⟩
 obtain⟨hl,h⟩:=hv
 obtain⟨v0,e0,⟨h0,a,m',h00⟩,_⟩:=h 0 _ rfl
 obtain⟨v1,e1,h1,_⟩:=h 1 _ rfl
 have h1':v1=.int .i64 n:=by cases h1;rfl
 subst h1'
 have hm:m'=0:=by rw[h00] at h0;cases h0<;>rfl
 subst hm
 subst h00
 have hvs:vs=[.slice a 0 0,.int .i64 n]:=by
  match vs,hl,e0,e1 with
  |[x,y],_,e0,e1=>simp at e0 e1;rw[e0,e1]
 subst hvs
 cases β with
 |nil=>have:=hS.shape.1;simp at this
 |cons bo bΩ=>
 have hlen:bo.length=bM.length:=by
  obtain⟨gr,g1,g2⟩:=hS.shape.2 0 bM rfl
  simp at g1;rw[g1];exact g2
 by_cases hz:n=0
 ·subst hz
  refine(Sm a w).mono fun e w' ⟨he,hw⟩=> ?_
  subst hw
  obtain⟨hS',hk,hst⟩:=hS.push (o:=.d9 m 2 []) (h:=.slice a 0 0) (Grow.refl hS.live) hlen ⟨h0,by simp,a,0,rfl,by simp,.inl ⟨rfl,.wo _ _ _⟩⟩ (fun b hb=>by cases a<;>simp[owns,blk] at hb)
  refine⟨_,.c (.bH (0,bM.length) []),_,_,_,he,hS',hk,hst,⟨⟨h0,.d9 m 2 [],?_,fun bn es e=> ?_⟩,rfl⟩,rfl,rfl⟩
  ·rw[dx]
  ·obtain⟨_,rfl⟩:=mO (lab:=some m) e;exact⟨Nat.le_refl _,fun _=>by rw[←hlen,dx]⟩
 ·refine(Vm a n (by omega) hn w).mono fun e w' ⟨cap,row,hc,hr,he,hw⟩=> ?_
  subst hw
  have hσ:σ w.heap.size=0:=(hS.live w.heap.size).resolve_left (by omega)
  have hg:Grow w σ {w.drew with heap:=w.heap.push (.cells row 78)} σ:=by
   refine⟨by simp,rfl,rfl,fun b hb=>⟨?_,rfl⟩,fun b=> ?_⟩
   ·simp only[Array.getElem?_push]
    rw[if_neg (by omega)]
   ·rcases hS.live b with hb|hb
    ·left;simp;omega
    ·exact .inr hb
  obtain⟨hS',hk,hst⟩:=hS.push (o:=.d9 m 2 []) (h:=.slice (some ⟨w.heap.size,0,none⟩) 0 cap) hg hlen ⟨.nil _ _,by simp,_,cap,rfl,by simp,.inr ⟨by simp;omega,w.heap.size,0,row,78,rfl,by simp,by simp[hσ],by omega⟩⟩ (fun b hb=>by
   simp only[owns,blk] at hb
   split at hb
   ·cases hb
   ·cases hb;exact Nat.le_refl _)
  refine⟨_,.c (.bH (0,bM.length) []),_,_,_,he,hS',hk,hst,⟨⟨.nil _ _,.d9 m 2 [],?_,fun bn es e=> ?_⟩,rfl⟩,rfl,rfl⟩
  ·rw[dx]
  ·obtain⟨_,rfl⟩:=mO (lab:=some m) e;exact⟨Nat.le_refl _,fun _=>by rw[←hlen,dx]⟩
theorem O1(m l:Nat)(xss:List (Nat×List (List D)))(hl:xss.length≤1073741824)(hr:∀p∈xss,∀r∈p.2,r.length=2)(hf:(xss.map (·.2)).flatten.length≤1073741824):aD Tryz.prog 205 [.c (.j5 l (xss.map fun p=>[.ol p.1 p.2]))] (.c (.d (.ol m (xss.map (·.2)).flatten))):=fun S=>by
 obtain⟨ys,hys⟩:∃ys:List (List (List D)),ys=xss.map (·.2):=⟨_,rfl⟩
 rw[←hys] at hf ⊢
 have hyl:ys.length=xss.length:=by rw[hys,List.length_map]
 have hyi:∀i (hi:i<xss.length),ys[i]'(by omega)=xss[i].2:=fun i hi=>by simp[hys]
 have Yq:∀i (hi:i<xss.length),∀r∈xss[i].2,r.length=2:=fun i hi=>hr _ (List.getElem_mem hi)
 refine yO (m) (rs:=[.tmp 2]) Tryz.checked.mixed Tryz.func205 Tryz.ntmps205 rfl rfl rfl rfl rfl ?_
 refine W1 ?_
 refine aQ (ι:=Nat) Tryz.checked.mixed rfl [0,3,9,10,11] (fun i=>[.c (.j5 l (xss.map fun p=>[.ol p.1 p.2])),.c (.d (.i .i64 (ys.take i).flatten.length)),.c (.j5 l (xss.map fun p=>[.ol p.1 p.2])),.c (.d (.i .i64 xss.length)),.c (.d (.i .i64 i))]) (fun _=>[.seed m]::S)
  (fun i=>i≤xss.length) (fun i=>xss.length-i) 0 rfl rfl (Nat.zero_le _) ?_
 rintro i p1
 have hfi:=tq ys i
 by_cases hi:i<xss.length
 ·have hs:=AO ys (i:=i) (by omega)
  rw[hyi i hi] at hs
  have XZ:=tq ys (i+1)
  refine W1 ?_
  refine S0 (fun hb h=>?_) fun hb h=>?_
  ·refine W3 ?_
   refine S0 (fun hb h=>?_) fun hb h=>?_
   ·omega
   ·refine bF (i+1) (by omega) ?_ rfl (by omega)
    rw[hs];rfl
  ·omega
 have hi:i=xss.length:=by omega
 subst hi
 refine W1 ?_
 refine S0 (fun hb h=>?_) fun hb h=>?_
 ·omega
 rw[←hyl,List.take_length]
 clear hfi
 refine dR rfl (Vn m ys.flatten.length hf [.seed m] S) ?_
 refine W1 ?_
 refine aQ (ι:=Nat) Tryz.checked.mixed rfl [6,25,26,27] (fun i=>[.c (.bH (0,1) (ys.take i).flatten),.c (.j5 l (xss.map fun p=>[.ol p.1 p.2])),.c (.d (.i .i64 xss.length)),.c (.d (.i .i64 i))]) (fun i=>[.seed m,.d9 m 2 (ys.take i).flatten]::S)
  (fun i=>i≤xss.length) (fun i=>xss.length-i) 0 (by rw[←hyl];rfl) rfl (Nat.zero_le _) ?_
 rintro i p1
 have hfi:=tq ys i
 by_cases hi:i<xss.length
 ·have hs:=AO ys (i:=i) (by omega)
  rw[hyi i hi] at hs
  have XZ:=tq ys (i+1)
  have e:(ys.take (i+1)).flatten=(ys.take i).flatten++xss[i].2:=by
   rw[List.take_succ_eq_append_getElem (by omega),List.flatten_append,hyi i hi]
   simp only[List.flatten_cons,List.flatten_nil,List.append_nil]
  have hri:=Yq i hi
  refine W1 ?_
  refine S0 (fun hb h=>?_) fun hb h=>?_
  ·refine W3 ?_
   exact bF (i+1) (by omega) (by rw[e];rfl) (by rw[e]) (by omega)
  ·omega
 ·have hi:i=ys.length:=by omega
  refine W1 ?_
  refine S0 (fun hb h=>?_) fun hb h=>?_
  ·omega
  rw[hi,List.take_length]
end Go.Proofs.YtcfhnaohbaplhaaGreatDoor
namespace Go.Ab
theorem jh{x:au}{k:Int}(h:x.aU=k):jB x.aU x.bI x.fName x.fType=jB k x.bI x.fName x.fType:=by rw[h]
theorem JK{l:List au}{t:au}(h:t∈l):t.sz≤M9 l:=by
 rw[←Et];exact bD (List.mem_map_of_mem h)
theorem GA{l:List aX}{t:aX}(h:t∈l):t.sz≤Na l:=by
 rw[←Eu];exact bD (List.mem_map_of_mem h)
theorem y9:∀{xs:List au},kW xs=true↔∀t∈xs,gV t=true
 |[]=>by simp[kW]
 |t::ts=>by simp[kW,y9 (xs:=ts)]
theorem AP:∀{xs:List aX},nG xs=true↔∀t∈xs,um t=true
 |[]=>by simp[nG]
 |t::ts=>by simp[nG,AP (xs:=ts)]
theorem jI{x:au}(h1:x.aU≠1)(h2:x.aU≠2)(h3:x.aU≠3)(h:x.aU=4∨x.aU=5∨x.aU=6∨x.aU=8∨x.aU=9∨x.aU=10∨x.aU=11∨x.aU=12):
 eG x=bR (jB x.aU x.bI x.fName x.fType++x.fArgs.map eG):=by rw[Ck,if_neg h1,if_neg h2,if_neg h3,if_pos h,List.append_nil]
end Go.Ab
namespace Go.Proofs.YtcfhnaohbaplhaaGreatDoor
open Go Go.Ab
theorem GD:∀N:Nat,∀x:au,SizeOf.sizeOf x<N→∀n:Nat,gV x=true→x.sz≤4194304→aD Tryz.prog 116 [x.v] (.agg [.d (.s (eG x).bS),.d (.ol n (lx (eG x).aY (n+1)))])
 |0=>fun x h=>by omega
 |N+1=>by
  have ih:=GD N
  intro x hn n hok hsz S
  have iW:=au.fD x
  have rX:=au.nu x
  have hzz:=Ev x
  rw[sS,Bool.and_eq_true,Bool.and_eq_true] at hok
  obtain⟨hfi,hoa,Nl⟩:=hok
  have hfi:=iN hfi
  have hoa:=y9.1 hoa
  have Nl:=AP.1 Nl
  obtain⟨qa,uL⟩:∃qa,qa=n+1+gB (jB x.aU x.bI x.fName x.fType):=⟨_,rfl⟩
  obtain⟨T,hT⟩:∃T:Nat→List (List D),T=fun i=>lx ((x.fArgs.map eG).take i) qa:=⟨_,rfl⟩
  have hT0:T 0=[]:=by rw[hT];rfl
  have fM:∀i,(T i).length≤i:=fun i=>by rw[hT];simp only[eT];exact List.length_take_le _ _
  have hTr:∀i,∀r∈T i,r.length=2:=fun i=>by rw[hT];exact iZ
  have hTs:∀i (hi:i<x.fArgs.length),T i++[[.s (eG x.fArgs[i]).bS,.ol (qa+gB ((x.fArgs.map eG).take i)) (lx (eG x.fArgs[i]).aY (qa+gB ((x.fArgs.map eG).take i)+1))]]=T (i+1):=fun i hi=>by
   have:=uY (l:=x.fArgs.map eG) (i:=i) (by rw[List.length_map];exact hi) qa
   rw[List.getElem_map] at this
   rw[hT];exact this
  have hTe:T x.fArgs.length=lx (x.fArgs.map eG) qa:=by rw[hT];simp only;rw[List.take_of_length_le (by simp)]
  clear hT
  refine yO (n) (rs:=[.cell 2 78]) Tryz.checked.mixed Tryz.func116 Tryz.ntmps116 rfl rfl rfl rfl rfl ?_
  refine W1 ?_
  refine W3 ?_
  refine kV n 3 2 [] (.inl rfl) (by simp) ?_
  refine aQ (ι:=Nat) Tryz.checked.mixed rfl [1,2,3,11,12,13] (fun i=>[.c (.ptr (0,1) 0),.c (.ptr (0,2) 0),.c (.bH (0,3) (T i)),.c (.d (.sl (x.fArgs.map au.enc))),.c (.d (.i .i64 x.fArgs.length)),.c (.d (.i .i64 i))])
   (fun i=>[.seed n,.box [.d (.i .i64 x.aU),.d (.s x.bI),.d (.s x.fName),.d (.i .i64 x.fN),.d (.i .i64 x.fType.aU),.d (.s x.fType.fName),.d (.sl (x.fType.fArgs.map ah.enc)),.d (.sl (x.fArgs.map au.enc)),.d (.sl (x.aW.map aX.enc))],.box [.d (.s []),.bC []],.d9 n 2 (T i)]::S)
   (fun i=>i≤x.fArgs.length) (fun i=>x.fArgs.length-i) 0 (by rw[hT0];rfl) (by rw[hT0];rfl) (Nat.zero_le _) ?_
  intro i hi
  have hl:=fM i
  refine W1 ?_
  refine S0 (fun hb h=>?_) fun hb h=>?_
  ·have hi':i<x.fArgs.length:=by omega
   have hm:=List.getElem_mem hi'
   have Yu:=JK hm
   have hs:=hTs i hi'
   refine W3 ?_
   refine C1 (ih x.fArgs[i] (by have:=List.sizeOf_lt_of_mem hm;omega) (qa+gB ((x.fArgs.map eG).take i)) (hoa _ hm) (by omega)) ?_
   refine W3 ?_
   rw[hs]
   exact cu 4 (by decide) (i+1) (by omega) rfl rfl rfl rfl (by omega)
  have hi':i=x.fArgs.length:=by omega
  subst hi'
  clear hTs hi h hb
  have hTT:=hTr x.fArgs.length
  have hxe:=Ck x
  refine S0 (fun hb h=>?_) fun hb h=>?_
  ·rw[if_pos h] at hxe
   rw[hxe]
   have hb:=hfi.2.2.2.1
   rw[if_pos h] at hb
   refine C1 (EB x.fN (by omega) (by omega)) ?_
   refine C1 (bY _ n) ?_
   rfl
  have k1:=h
  rw[if_neg h] at hxe
  refine S0 (fun hb h=>?_) fun hb h=>?_
  ·rw[if_pos h] at hxe
   rw[hxe]
   refine S0 (fun hb h=>?_) fun hb h=>?_
   ·rw[if_pos h]
    refine C1 (bY _ n) ?_
    rfl
   ·rw[if_neg h]
    refine C1 (bY _ n) ?_
    rfl
  have k2:=h
  rw[if_neg h] at hxe
  refine S0 (fun hb h=>?_) fun hb h=>?_
  ·rw[if_pos h] at hxe
   rw[hxe]
   refine C1 (bY _ n) ?_
   rfl
  have k3:=h
  clear hxe
  refine S0 (fun hb h=>?_) fun hb h=>?_
  ·have hx:=jI k1 k2 k3 (by omega)
   have hh:jB x.aU x.bI x.fName x.fType=aT [yP,x.fName]:=by rw[jh h];rfl
   rw[hh] at hx uL
   refine W3 ?_
   refine dR rfl (dF.args (lq [yP,x.fName] (by simp) n (n+1) _ _) (.cons (lg n _) .nil)) ?_
   have JL:(lx (aT [yP,x.fName]) (n+1)).length=2:=by rw[eT];rfl
   have JM:=iZ (l:=aT [yP,x.fName]) (n:=n+1)
   refine W1 ?_
   refine W3 ?_
   refine dR rfl (iT 0 5 _ _) ?_
   refine W1 ?_
   rw[hx,hTe,uL,dJ,cO,jw]
  have k4:=h
  refine S0 (fun hb h=>?_) fun hb h=>?_
  ·have hx:=jI k1 k2 k3 (by omega)
   have hh:jB x.aU x.bI x.fName x.fType=aT [sU,x.bI,x.fName]:=by rw[jh h];rfl
   rw[hh] at hx uL
   refine W3 ?_
   refine dR rfl (dF.args (lq [sU,x.bI,x.fName] (by simp) n (n+1) _ _) (.cons (lg n _) .nil)) ?_
   have JL:(lx (aT [sU,x.bI,x.fName]) (n+1)).length=3:=by rw[eT];rfl
   have JM:=iZ (l:=aT [sU,x.bI,x.fName]) (n:=n+1)
   refine W1 ?_
   refine W3 ?_
   refine dR rfl (iT 0 5 _ _) ?_
   refine W1 ?_
   rw[hx,hTe,uL,dJ,cO,jw]
  have k5:=h
  refine S0 (fun hb h=>?_) fun hb h=>?_
  ·have hx:=jI k1 k2 k3 (by omega)
   have hh:jB x.aU x.bI x.fName x.fType=aT [Ci,x.fName]:=by rw[jh h];rfl
   rw[hh] at hx uL
   refine W3 ?_
   refine dR rfl (dF.args (lq [Ci,x.fName] (by simp) n (n+1) _ _) (.cons (lg n _) .nil)) ?_
   have JL:(lx (aT [Ci,x.fName]) (n+1)).length=2:=by rw[eT];rfl
   have JM:=iZ (l:=aT [Ci,x.fName]) (n:=n+1)
   refine W1 ?_
   refine W3 ?_
   refine dR rfl (iT 0 5 _ _) ?_
   refine W1 ?_
   rw[hx,hTe,uL,dJ,cO,jw]
  have k6:=h
  refine S0 (fun hb h=>?_) fun hb h=>?_
  ·have hx:=Ck x
   rw[if_neg k1,if_neg k2,if_neg k3,if_neg (by omega)] at hx
   have hh:jB x.aU x.bI x.fName x.fType=aT [pV]:=by rw[jh h];rfl
   rw[hh] at hx uL
   obtain⟨B,hB⟩:∃B:Nat→List (List D),B=fun i=>lx (x.fArgs.map eG++(x.aW.map wH).take i) qa:=⟨_,rfl⟩
   obtain⟨L,hL⟩:∃L:Nat→Nat,L=fun i=>qa+gB (x.fArgs.map eG++(x.aW.map wH).take i):=⟨_,rfl⟩
   have hB0:T x.fArgs.length=B 0:=by rw[hTe,hB];simp only[List.take_zero,List.append_nil]
   have hBl:∀i,(B i).length≤i+x.fArgs.length:=fun i=>by
    rw[hB];simp only[eT,List.length_append,List.length_map]
    have:=List.length_take_le i (x.aW.map wH)
    omega
   have hBr:∀i,∀r∈B i,r.length=2:=fun i=>by rw[hB];exact iZ
   have hBs:∀i (hi:i<x.aW.length),B i++[[.s [],.ol (L i) (lx ([bO x.aW[i].dw]++aT x.aW[i].aF++[eG x.aW[i].fBody]) (L i+1))]]=B (i+1):=fun i hi=>by
    have:=uZ (base:=x.fArgs.map eG) (l:=x.aW.map wH) (i:=i) (by rw[List.length_map];exact hi) qa
    rw[List.getElem_map,U8,dJ,cO] at this
    rw[hB,hL];exact this
   have hBe:B x.aW.length=lx (x.fArgs.map eG++x.aW.map wH) qa:=by rw[hB];simp only;rw[List.take_of_length_le (by simp)]
   clear hB hL hTT
   refine W3 ?_
   refine dR rfl (dF.args (lq [pV] (by simp) n (n+1) _ _) (.cons (lg n _) .nil)) ?_
   have JL:(lx (aT [pV]) (n+1)).length=1:=by rw[eT];rfl
   have JM:=iZ (l:=aT [pV]) (n:=n+1)
   refine W1 ?_
   rw[hB0]
   obtain⟨HD,hHD⟩:∃HD,HD=lx (aT [pV]) (n+1):=⟨_,rfl⟩
   rw[←hHD] at JL JM ⊢
   refine aQ (ι:=Nat) Tryz.checked.mixed rfl [2,3,6,69,70,71] (fun i=>[.c (.ptr (0,2) 0),.c (.bH (0,3) (B i)),.c (.bH (0,5) HD),.c (.d (.sl (x.aW.map aX.enc))),.c (.d (.i .i64 x.aW.length)),.c (.d (.i .i64 i))])
    (fun i=>[.seed n,.box [.d (.i .i64 x.aU),.d (.s x.bI),.d (.s x.fName),.d (.i .i64 x.fN),.d (.i .i64 x.fType.aU),.d (.s x.fType.fName),.d (.sl (x.fType.fArgs.map ah.enc)),.d (.sl (x.fArgs.map au.enc)),.d (.sl (x.aW.map aX.enc))],.box [.d (.s []),.bC []],.d9 n 2 (B i),.seed n,.d9 n 2 HD]::S)
    (fun i=>i≤x.aW.length) (fun i=>x.aW.length-i) 0 rfl rfl (Nat.zero_le _) ?_
   intro i hi
   have hl:=hBl i
   have hr:=hBr i
   refine W1 ?_
   refine S0 (fun hb h=>?_) fun hb h=>?_
   ·have hi':i<x.aW.length:=by omega
    have hm:=List.getElem_mem hi'
    have Yu:=GA hm
    have hea:=Cm x.aW[i]
    have hs:=hBs i hi'
    have hak:=Nl _ hm
    rw[ow,Bool.and_eq_true,Bool.and_eq_true] at hak
    have hls:=List.sizeOf_lt_of_mem hm
    have hlb:=aX.mG x.aW[i]
    refine W3 ?_
    refine nH (wC [x.aW[i].dw] (by simp) 0 (L i+1)) (.cons (lg n _) .nil) ?_
    refine W1 ?_
    refine C1 (wC x.aW[i].aF (by omega) 0 (L i+1+gB (aT [x.aW[i].dw]))) ?_
    refine C1 (ih x.aW[i].fBody (by omega) (L i+1+gB (aT [x.aW[i].dw]++aT x.aW[i].aF)) hak.2.2 (by omega)) ?_
    refine W3 ?_
    refine bN (O1 (L i) n [(0,lx (aT [x.aW[i].dw]) (L i+1)),(0,lx (aT x.aW[i].aF) (L i+1+gB (aT [x.aW[i].dw]))),(n,[[.s (eG x.aW[i].fBody).bS,.ol (L i+1+gB (aT [x.aW[i].dw]++aT x.aW[i].aF)) (lx (eG x.aW[i].fBody).aY (L i+1+gB (aT [x.aW[i].dw]++aT x.aW[i].aF)+1))]])] (by simp) ?_ ?_) ?_
    ·intro p hp
     simp only[List.mem_cons,List.not_mem_nil,or_false] at hp
     rcases hp with rfl|rfl|rfl
     ·exact iZ
     ·exact iZ
     ·simp
    ·simp only[List.map_cons,List.map_nil,List.flatten_cons,List.flatten_nil,List.length_append,eT,iD,List.length_cons,List.length_nil];omega
    refine W1 ?_
    refine C1 (jm _) ?_
    refine W3 ?_
    have hrow:[lx (aT [x.aW[i].dw]) (L i+1),lx (aT x.aW[i].aF) (L i+1+gB (aT [x.aW[i].dw])),[[.s (eG x.aW[i].fBody).bS,.ol (L i+1+gB (aT [x.aW[i].dw]++aT x.aW[i].aF)) (lx (eG x.aW[i].fBody).aY (L i+1+gB (aT [x.aW[i].dw]++aT x.aW[i].aF)+1))]]].flatten=lx ([bO x.aW[i].dw]++aT x.aW[i].aF++[eG x.aW[i].fBody]) (L i+1):=by
     have e1:[bO x.aW[i].dw]=aT [x.aW[i].dw]:=rfl
     rw[e1,jw,jw,iA (eG x.aW[i].fBody) [],kC,iy (eG x.aW[i].fBody)]
     simp only[List.flatten_cons,List.flatten_nil,List.append_nil,List.append_assoc]
    rw[hrow,hs]
    exact cu 6 (by decide) (i+1) (by omega) rfl rfl rfl rfl (by omega)
   ·have hi':i=x.aW.length:=by omega
    subst hi'
    have hr2:=hBr x.aW.length
    refine W3 ?_
    refine dR rfl (iT 0 5 _ _) ?_
    refine W1 ?_
    rw[hx,hBe,uL,hHD,dJ,cO,List.append_assoc,jw (aT [pV])]
  have k7:=h
  refine S0 (fun hb h=>?_) fun hb h=>?_
  ·have hx:=jI k1 k2 k3 (by omega)
   have hh:jB x.aU x.bI x.fName x.fType=aT [Cj,x.fName]:=by rw[jh h];rfl
   rw[hh] at hx uL
   refine W3 ?_
   refine dR rfl (dF.args (lq [Cj,x.fName] (by simp) n (n+1) _ _) (.cons (lg n _) .nil)) ?_
   have JL:(lx (aT [Cj,x.fName]) (n+1)).length=2:=by rw[eT];rfl
   have JM:=iZ (l:=aT [Cj,x.fName]) (n:=n+1)
   refine W1 ?_
   refine W3 ?_
   refine dR rfl (iT 0 5 _ _) ?_
   refine W1 ?_
   rw[hx,hTe,uL,dJ,cO,jw]
  have k8:=h
  refine S0 (fun hb h=>?_) fun hb h=>?_
  ·have hx:=jI k1 k2 k3 (by omega)
   have hh:jB x.aU x.bI x.fName x.fType=aT [JH]:=by rw[jh h];rfl
   rw[hh] at hx uL
   refine W3 ?_
   refine dR rfl (dF.args (lq [JH] (by simp) n (n+1) _ _) (.cons (lg n _) .nil)) ?_
   have JL:(lx (aT [JH]) (n+1)).length=1:=by rw[eT];rfl
   have JM:=iZ (l:=aT [JH]) (n:=n+1)
   refine W1 ?_
   refine W3 ?_
   refine dR rfl (iT 0 5 _ _) ?_
   refine W1 ?_
   rw[hx,hTe,uL,dJ,cO,jw]
  have k9:=h
  refine S0 (fun hb h=>?_) fun hb h=>?_
  ·have hx:=jI k1 k2 k3 (by omega)
   have hh:jB x.aU x.bI x.fName x.fType=aT [x.fName]:=by rw[jh h];rfl
   rw[hh] at hx uL
   refine W3 ?_
   refine dR rfl (dF.args (lq [x.fName] (by simp) n (n+1) _ _) (.cons (lg n _) .nil)) ?_
   have JL:(lx (aT [x.fName]) (n+1)).length=1:=by rw[eT];rfl
   have JM:=iZ (l:=aT [x.fName]) (n:=n+1)
   refine W1 ?_
   refine W3 ?_
   refine dR rfl (iT 0 5 _ _) ?_
   refine W1 ?_
   rw[hx,hTe,uL,dJ,cO,jw]
  have k10:=h
  refine S0 (fun hb h=>?_) fun hb h=>?_
  ·have hx:=jI k1 k2 k3 (by omega)
   have hh:jB x.aU x.bI x.fName x.fType=aT [yQ,x.bI]:=by rw[jh h];rfl
   rw[hh] at hx uL
   refine W3 ?_
   refine dR rfl (dF.args (lq [yQ,x.bI] (by simp) n (n+1) _ _) (.cons (lg n _) .nil)) ?_
   have JL:(lx (aT [yQ,x.bI]) (n+1)).length=2:=by rw[eT];rfl
   have JM:=iZ (l:=aT [yQ,x.bI]) (n:=n+1)
   refine W1 ?_
   refine W3 ?_
   refine dR rfl (iT 0 5 _ _) ?_
   refine W1 ?_
   rw[hx,hTe,uL,dJ,cO,jw]
  have k11:=h
  refine S0 (fun hb h=>?_) fun hb h=>?_
  ·have hx:=jI k1 k2 k3 (by omega)
   have hh:jB x.aU x.bI x.fName x.fType=[bO Ep,cB x.fType]:=by rw[jh h];rfl
   rw[hh] at hx uL
   have hty:=hfi.2.2.2.2.1
   rw[if_pos h] at hty
   refine C1 (bY _ (n+1)) ?_
   refine C1 (jC x.fType (n+1+1) (ug hty) (by omega)) ?_
   refine W3 ?_
   refine dR rfl (iT 0 4 _ _) ?_
   refine W1 ?_
   rw[hx,hTe,uL,dJ,cO,jw]
   simp only[iA,kC,iy,jk,jl,iO,Sb,Vg,Ep,List.cons_append,List.nil_append]
  ·have:=hfi.1
   omega
theorem uz(x:au)(n:Nat)(hok:gV x=true)(hsz:x.sz≤4194304):aD Tryz.prog 116 [x.v] (.agg [.d (.s (eG x).bS),.d (.ol n (lx (eG x).aY (n+1)))]):=GD _ x (Nat.lt_succ_self _) n hok hsz
end Go.Proofs.YtcfhnaohbaplhaaGreatDoor
namespace Go.Proofs.YtcfhnaohbaplhaaGreatDoor
open Go Go.Ab
theorem nk(hd:List aj)(xs:List au)(S:Store)(hA:∀t∈xs,aD Tryz.prog 110 [t.v] (eG t).v)(hl:xs.length≤4194304)(hh:hd.length≤4):dF Tryz.prog 198 [.c (.bC (hd.map aj.enc)),.c (.d (.sl (xs.map au.enc)))] S
 (fun r S'=>r=.agg [.d (.s []),.d (.sl ((hd++xs.map eG).map aj.enc))]∧S'=S):=by
 obtain⟨T,hT⟩:∃T:Nat→List (List D),T=fun i=>(hd++(xs.map eG).take i).map aj.enc:=⟨_,rfl⟩
 have hT0:T 0=hd.map aj.enc:=by rw[hT];simp only[List.take_zero,List.append_nil]
 have fM:∀i,(T i).length≤i+hd.length:=fun i=>by
  rw[hT];simp only[List.length_map,List.length_append]
  have:=List.length_take_le i (xs.map eG)
  omega
 have hTs:∀i (hi:i<xs.length),T i++[[.s (eG xs[i]).bS,.sl ((eG xs[i]).aY.map aj.enc)]]=T (i+1):=fun i hi=>by
  have:=gQ (base:=hd) (l:=xs.map eG) (i:=i) (by rw[List.length_map];exact hi)
  rw[List.getElem_map] at this
  rw[hT];exact this
 have hTe:T xs.length=(hd++xs.map eG).map aj.enc:=by rw[hT];simp only;rw[List.take_of_length_le (by simp)]
 clear hT
 rw[←hT0]
 rw[←hTe]
 refine aB (rs:=[.cell 4 78]) Tryz.checked.mixed Tryz.func198 Tryz.ntmps198 rfl rfl rfl rfl rfl ?_
 refine W1 ?_
 refine nV 1 1 2 (T 0) [.d (.s []),.bC (T 0)] rfl rfl (by rw[hT0];exact jg) ?_
 refine aQ (ι:=Nat) Tryz.checked.mixed rfl [1,4,5,6] (fun i=>[.c (.d (.sl (xs.map au.enc))),.c (.ptr (0,0) 0),.c (.ptr (0,1) 0),.c (.d (.i .i64 i))])
  (fun i=>[.box [.d (.s []),.bC []],.box [.d (.s []),.bH (0,2) (T i)],.tok 2 (T i)]::S)
  (fun i=>i≤xs.length) (fun i=>xs.length-i) 0 rfl rfl (Nat.zero_le _) ?_
 intro i hi
 have hl:=fM i
 refine W1 ?_
 refine S0 (fun hb h=>?_) fun hb h=>?_
 ·have hi':i<xs.length:=by omega
  have hs:=hTs i hi'
  refine W3 ?_
  refine C1 (hA xs[i] (List.getElem_mem hi')) ?_
  refine W3 ?_
  rw[hs]
  exact bF (i+1) (by omega) rfl rfl (by omega)
 ·have hi':i=xs.length:=by omega
  subst hi'
  rfl
theorem Nn(hd:List aj)(xs:List au)(bM:List Ab.Obj)(Ω:Store)(hA:∀t∈xs,aD Tryz.prog 110 [t.v] (eG t).v)(hl:xs.length≤4194304)(hh:hd.length≤4):dF Tryz.prog 198 [.c (.bC (hd.map aj.enc)),.c (.d (.sl (xs.map au.enc)))] (bM::Ω)
 (fun r S'=>r=.agg [.d (.s []),.bH (0,bM.length+2) ((hd++xs.map eG).map aj.enc)]∧S'=(bM++[.box [.d (.s []),.bH (0,bM.length+2) ((hd++xs.map eG).map aj.enc)],.box [.d (.s []),.bH (0,bM.length+2) ((hd++xs.map eG).map aj.enc)],.tok 2 ((hd++xs.map eG).map aj.enc)])::Ω):=by
 obtain⟨T,hT⟩:∃T:Nat→List (List D),T=fun i=>(hd++(xs.map eG).take i).map aj.enc:=⟨_,rfl⟩
 have hT0:T 0=hd.map aj.enc:=by rw[hT];simp only[List.take_zero,List.append_nil]
 have fM:∀i,(T i).length≤i+hd.length:=fun i=>by
  rw[hT];simp only[List.length_map,List.length_append]
  have:=List.length_take_le i (xs.map eG)
  omega
 have hTs:∀i (hi:i<xs.length),T i++[[.s (eG xs[i]).bS,.sl ((eG xs[i]).aY.map aj.enc)]]=T (i+1):=fun i hi=>by
  have:=gQ (base:=hd) (l:=xs.map eG) (i:=i) (by rw[List.length_map];exact hi)
  rw[List.getElem_map] at this
  rw[hT];exact this
 have hTe:T xs.length=(hd++xs.map eG).map aj.enc:=by rw[hT];simp only;rw[List.take_of_length_le (by simp)]
 clear hT
 rw[←hT0]
 rw[←hTe]
 refine JD (rs:=[.cell 4 78]) Tryz.checked.mixed Tryz.func198 Tryz.ntmps198 rfl rfl rfl rfl rfl ?_
 refine W1 ?_
 refine nV 1 1 2 (T 0) [.d (.s []),.bC (T 0)] rfl rfl (by rw[hT0];exact jg) ?_
 refine aQ (ι:=Nat) Tryz.checked.mixed rfl [1,4,5,6] (fun i=>[.c (.d (.sl (xs.map au.enc))),.c (.ptr (0,0) 0),.c (.ptr (0,1) 0),.c (.d (.i .i64 i))])
  (fun i=>[.box [.d (.s []),.bC []],.box [.d (.s []),.bH (0,2) (T i)],.tok 2 (T i)]::bM::Ω)
  (fun i=>i≤xs.length) (fun i=>xs.length-i) 0 rfl rfl (Nat.zero_le _) ?_
 intro i hi
 have hl:=fM i
 refine W1 ?_
 refine S0 (fun hb h=>?_) fun hb h=>?_
 ·have hi':i<xs.length:=by omega
  have hs:=hTs i hi'
  refine W3 ?_
  refine C1 (hA xs[i] (List.getElem_mem hi')) ?_
  refine W3 ?_
  rw[hs]
  exact bF (i+1) (by omega) rfl rfl (by omega)
 ·have hi':i=xs.length:=by omega
  subst hi'
  exact⟨rfl,rfl⟩
theorem GH:∀N:Nat,∀x:au,SizeOf.sizeOf x<N→gV x=true→x.sz≤4194304→aD Tryz.prog 110 [x.v] (eG x).v
 |0=>fun x h=>by omega
 |N+1=>by
  have ih:=GH N
  intro x hn hok hsz S
  have iW:=au.fD x
  have rX:=au.nu x
  have hzz:=Ev x
  rw[sS,Bool.and_eq_true,Bool.and_eq_true] at hok
  obtain⟨hfi,hoa,Nl⟩:=hok
  have hfi:=iN hfi
  have hoa:=y9.1 hoa
  have Nl:=AP.1 Nl
  have hA:∀t∈x.fArgs,aD Tryz.prog 110 [t.v] (eG t).v:=fun t ht=>ih t (by have:=List.sizeOf_lt_of_mem ht;omega) (hoa t ht) (by have:=JK ht;omega)
  have hxe:=Ck x
  refine aB (rs:=[.cell 2 78]) Tryz.checked.mixed Tryz.func110 Tryz.ntmps110 rfl rfl rfl rfl rfl ?_
  refine W1 ?_
  refine S0 (fun hb h=>?_) fun hb h=>?_
  ·rw[if_pos h] at hxe
   rw[hxe]
   have hb:=hfi.2.2.2.1
   rw[if_pos h] at hb
   refine C1 (EC x.fN (by omega) (by omega)) ?_
   refine C1 (bJ _) ?_
   rfl
  have k1:=h
  rw[if_neg h] at hxe
  refine S0 (fun hb h=>?_) fun hb h=>?_
  ·rw[if_pos h] at hxe
   rw[hxe]
   have hb:=hfi.2.2.2.1
   rw[if_neg k1,if_pos h] at hb
   rcases hb with e|e
   ·rw[e]
    simp -implicitDefEqProofs (disch:=omega) only[go_sem,List.getD_cons_zero]
    refine W3 ?_
    refine C1 (bJ _) ?_
    rfl
   ·rw[e]
    simp -implicitDefEqProofs (disch:=omega) only[go_sem,List.getD_cons_zero,List.getD_cons_succ]
    refine W3 ?_
    refine C1 (bJ _) ?_
    rfl
  have k2:=h
  rw[if_neg h] at hxe
  refine S0 (fun hb h=>?_) fun hb h=>?_
  ·rw[if_pos h] at hxe
   rw[hxe]
   refine C1 (bJ _) ?_
   rfl
  have k3:=h
  clear hxe
  refine S0 (fun hb h=>?_) fun hb h=>?_
  ·have hx:=jI k1 k2 k3 (by omega)
   have hh:jB x.aU x.bI x.fName x.fType=[bO yP,bO x.fName]:=by rw[jh h];rfl
   rw[hh] at hx
   refine C1 (bJ _) ?_
   refine C1 (bJ _) ?_
   have hE:=fun S=>nk [bO yP,bO x.fName] x.fArgs S hA (by omega) (by simp)
   simp only[List.map_cons,List.map_nil,dX] at hE
   refine dR rfl (hE _) ?_
   refine W1 ?_
   rw[hx]
   rfl
  have k4:=h
  refine S0 (fun hb h=>?_) fun hb h=>?_
  ·have hx:=jI k1 k2 k3 (by omega)
   have hh:jB x.aU x.bI x.fName x.fType=[bO sU,bO x.bI,bO x.fName]:=by rw[jh h];rfl
   rw[hh] at hx
   refine C1 (bJ _) ?_
   refine C1 (bJ _) ?_
   refine C1 (bJ _) ?_
   have hE:=fun S=>nk [bO sU,bO x.bI,bO x.fName] x.fArgs S hA (by omega) (by simp)
   simp only[List.map_cons,List.map_nil,dX] at hE
   refine dR rfl (hE _) ?_
   refine W1 ?_
   rw[hx]
   rfl
  have k5:=h
  refine S0 (fun hb h=>?_) fun hb h=>?_
  ·have hx:=jI k1 k2 k3 (by omega)
   have hh:jB x.aU x.bI x.fName x.fType=[bO Ci,bO x.fName]:=by rw[jh h];rfl
   rw[hh] at hx
   refine C1 (bJ _) ?_
   refine C1 (bJ _) ?_
   have hE:=fun S=>nk [bO Ci,bO x.fName] x.fArgs S hA (by omega) (by simp)
   simp only[List.map_cons,List.map_nil,dX] at hE
   refine dR rfl (hE _) ?_
   refine W1 ?_
   rw[hx]
   rfl
  have k6:=h
  refine S0 (fun hb h=>?_) fun hb h=>?_
  ·have hx:=jI k1 k2 k3 (by omega)
   have hh:jB x.aU x.bI x.fName x.fType=[bO Cj,bO x.fName]:=by rw[jh h];rfl
   rw[hh] at hx
   refine C1 (bJ _) ?_
   refine C1 (bJ _) ?_
   have hE:=fun S=>nk [bO Cj,bO x.fName] x.fArgs S hA (by omega) (by simp)
   simp only[List.map_cons,List.map_nil,dX] at hE
   refine dR rfl (hE _) ?_
   refine W1 ?_
   rw[hx]
   rfl
  have k8:=h
  refine S0 (fun hb h=>?_) fun hb h=>?_
  ·have hx:=jI k1 k2 k3 (by omega)
   have hh:jB x.aU x.bI x.fName x.fType=[bO JH]:=by rw[jh h];rfl
   rw[hh] at hx
   refine C1 (bJ _) ?_
   have hE:=fun S=>nk [bO JH] x.fArgs S hA (by omega) (by simp)
   simp only[List.map_cons,List.map_nil,dX] at hE
   refine dR rfl (hE _) ?_
   refine W1 ?_
   rw[hx]
   rfl
  have k9:=h
  refine S0 (fun hb h=>?_) fun hb h=>?_
  ·have hx:=jI k1 k2 k3 (by omega)
   have hh:jB x.aU x.bI x.fName x.fType=[bO x.fName]:=by rw[jh h];rfl
   rw[hh] at hx
   refine C1 (bJ _) ?_
   have hE:=fun S=>nk [bO x.fName] x.fArgs S hA (by omega) (by simp)
   simp only[List.map_cons,List.map_nil,dX] at hE
   refine dR rfl (hE _) ?_
   refine W1 ?_
   rw[hx]
   rfl
  have k10:=h
  refine S0 (fun hb h=>?_) fun hb h=>?_
  ·have hx:=jI k1 k2 k3 (by omega)
   have hh:jB x.aU x.bI x.fName x.fType=[bO yQ,bO x.bI]:=by rw[jh h];rfl
   rw[hh] at hx
   refine C1 (bJ _) ?_
   refine C1 (bJ _) ?_
   have hE:=fun S=>nk [bO yQ,bO x.bI] x.fArgs S hA (by omega) (by simp)
   simp only[List.map_cons,List.map_nil,dX] at hE
   refine dR rfl (hE _) ?_
   refine W1 ?_
   rw[hx]
   rfl
  have k11:=h
  refine S0 (fun hb h=>?_) fun hb h=>?_
  ·have hx:=jI k1 k2 k3 (by omega)
   have hh:jB x.aU x.bI x.fName x.fType=[bO Ep,cB x.fType]:=by rw[jh h];rfl
   rw[hh] at hx
   refine C1 (bJ _) ?_
   refine C1 (jN x.fType (by omega)) ?_
   have hE:=fun S=>nk [bO Ep,cB x.fType] x.fArgs S hA (by omega) (by simp)
   simp only[List.map_cons,List.map_nil,dX,aj.aH (cB x.fType)] at hE
   refine dR rfl (hE _) ?_
   refine W1 ?_
   rw[hx]
   show _=V.agg [.d (.s []),.d (.sl (List.map aj.enc (bO Ep::cB x.fType::x.fArgs.map eG)))]
   simp only[List.cons_append,List.nil_append,List.map_cons,dX,aj.aH (cB x.fType)]
   rfl
  have k12:=h
  have hk7:x.aU=7:=by have:=hfi.1;omega
  have hx:=Ck x
  rw[if_neg k1,if_neg k2,if_neg k3,if_neg (by omega)] at hx
  have hh:jB x.aU x.bI x.fName x.fType=[bO pV]:=by rw[jh hk7];rfl
  rw[hh] at hx
  refine C1 (bJ _) ?_
  have hE:=fun bM Ω=>Nn [bO pV] x.fArgs bM Ω hA (by omega) (by simp)
  obtain⟨B,hB⟩:∃B:Nat→List (List D),B=fun i=>(([bO pV]++x.fArgs.map eG)++(x.aW.map wH).take i).map aj.enc:=⟨_,rfl⟩
  have hB0:([bO pV]++x.fArgs.map eG).map aj.enc=B 0:=by rw[hB];simp only[List.take_zero,List.append_nil]
  have hBl:∀i,(B i).length≤i+x.fArgs.length+1:=fun i=>by
   rw[hB];simp only[List.length_append,List.length_map,List.length_cons,List.length_nil]
   have:=List.length_take_le i (x.aW.map wH)
   omega
  have hBr:∀i,∀r∈B i,r.length=2:=fun i=>by rw[hB];exact jg
  have hBs:∀i (hi:i<x.aW.length),B i++[[.s [],.sl (([bO x.aW[i].dw]++aT x.aW[i].aF++[eG x.aW[i].fBody]).map aj.enc)]]=B (i+1):=fun i hi=>by
   have:=gQ (base:=[bO pV]++x.fArgs.map eG) (l:=x.aW.map wH) (i:=i) (by rw[List.length_map];exact hi)
   rw[List.getElem_map,U8,dJ,cO] at this
   rw[hB];exact this
  have hBe:B x.aW.length=([bO pV]++x.fArgs.map eG++x.aW.map wH).map aj.enc:=by rw[hB];simp only;rw[List.take_of_length_le (by simp)]
  clear hB
  simp only[hB0] at hE
  simp only[List.map_cons,List.map_nil,dX] at hE
  refine dR rfl (hE _ _) ?_
  refine W1 ?_
  refine aQ (ι:=Nat) Tryz.checked.mixed rfl [1,2,3,4] (fun i=>[.c (.ptr (0,0) 0),.c (.ptr (0,1) 0),.c (.ptr (0,5) 0),.c (.d (.i .i64 i))])
   (fun i=>[.box [.d (.i .i64 x.aU),.d (.s x.bI),.d (.s x.fName),.d (.i .i64 x.fN),.d (.i .i64 x.fType.aU),.d (.s x.fType.fName),.d (.sl (x.fType.fArgs.map ah.enc)),.d (.sl (x.fArgs.map au.enc)),.d (.sl (x.aW.map aX.enc))],.box [.d (.s []),.bC []],.box [.d (.s []),.bH (0,4) (B 0)],.box [.d (.s []),.bH (0,4) (B 0)],.tok 2 (B i),.box [.d (.s []),.bH (0,4) (B i)]]::S)
   (fun i=>i≤x.aW.length) (fun i=>x.aW.length-i) 0 rfl rfl (Nat.zero_le _) ?_
  intro i hi
  have hl:=hBl i
  have hr:=hBr i
  refine W1 ?_
  refine S0 (fun hb h=>?_) fun hb h=>?_
  ·have hi':i<x.aW.length:=by omega
   have hm:=List.getElem_mem hi'
   have Yu:=GA hm
   have hea:=Cm x.aW[i]
   have hs:=hBs i hi'
   have hak:=Nl _ hm
   rw[ow,Bool.and_eq_true,Bool.and_eq_true] at hak
   have hls:=List.sizeOf_lt_of_mem hm
   have hlb:=aX.mG x.aW[i]
   refine W3 ?_
   refine C1 (bJ _) ?_
   refine W3 ?_
   refine bN (Co x.aW[i].aF (by omega)) ?_
   have hwr:=jg (l:=aT x.aW[i].aF)
   have hwl:(aT x.aW[i].aF).length=x.aW[i].aF.length:=by rw[iD]
   refine W1 ?_
   refine W3 ?_
   refine C1 (ih x.aW[i].fBody (by omega) hak.2.2 (by omega)) ?_
   refine W3 ?_
   simp only[List.cons_append,List.nil_append,List.map_cons,List.map_nil,List.map_append,dX,aj.aH (eG x.aW[i].fBody)] at hs
   rw[hs]
   exact cu 6 (by decide) (i+1) (by omega) rfl rfl rfl rfl (by omega)
  ·have hi':i=x.aW.length:=by omega
   subst hi'
   rw[hx,hBe]
   rfl
theorem o8(x:au)(hok:gV x=true)(hsz:x.sz≤4194304):aD Tryz.prog 110 [x.v] (eG x).v:=GH _ x (Nat.lt_succ_self _) hok hsz
end Go.Proofs.YtcfhnaohbaplhaaGreatDoor
namespace Go.Ab
theorem au.bounds{x:au}(h:x.sz≤4194304):x.bI.length≤4194304∧x.fName.length≤4194304∧x.fArgs.length≤4194304∧x.aW.length≤4194304∧x.fType.sz≤4194304:=by
 simp only[au.sz,au.aH,bL,bf,D.sz,List.length_map,ah.dn] at h
 omega
theorem au.arg_b{x:au}{i:Nat}(hi:i<x.fArgs.length)(h:x.sz≤4194304):x.fArgs[i].sz≤4194304:=by
 have hx:x.fArgs[i].sz≤aI (x.fArgs.map au.enc):=bD (List.mem_map_of_mem (List.getElem_mem hi))
 simp only[au.sz,au.aH,bL,bf,D.sz,List.length_map] at h
 omega
theorem au.KV{x:au}{i:Nat}(hi:i<x.aW.length)(h:x.sz≤4194304):x.aW[i].sz≤4194304:=by
 have hx:x.aW[i].sz≤aI (x.aW.map aX.enc):=bD (List.mem_map_of_mem (List.getElem_mem hi))
 simp only[au.sz,au.aH,bL,bf,D.sz,List.length_map] at h
 omega
theorem aX.bounds{x:aX}(h:x.sz≤4194304):x.dw.length≤4194304∧x.aF.length≤4194304∧(∀s∈x.aF,s.length≤4194304)∧x.fBody.sz≤4194304:=by
 have hb:=aX.Ik x
 simp only[aX.sz,aX.aH,bL,bf,D.sz,List.length_map] at h hb
 refine⟨by omega,by omega,fun s hs=> ?_,by omega⟩
 have:=nX hs
 omega
theorem GI(k:Int):(k<1∨12<k)∨k=1∨k=2∨k=3∨k=4∨k=5∨k=6∨k=7∨k=8∨k=9∨k=10∨k=11∨k=12:=by omega
end Go.Ab
namespace Go.Proofs.YtcfhnaohbaplhaaGreatDoor
open Go Go.Ab
set_option maxHeartbeats 8000000 in
theorem Np(x:au)(hsz:x.sz≤4194304)(hc:x.fArgs.length≤300):aD Tryz.prog 285 [x.v] (.c (.d (.b (dec (qy x))))):=fun S=>by
 have hb0:=au.bounds hsz
 have hz:uj x.fType→kZ x.fType=false:=Gl
 rcases GI x.aU with hk|hk|hk|hk|hk|hk|hk|hk|hk|hk|hk|hk|hk
 ·have h1:¬qy x:=fun h=>by have:=h.1;omega
  refine aB (rs:=[.tmp 2]) Tryz.checked.mixed Tryz.func285 Tryz.ntmps285 rfl rfl rfl rfl rfl ?_
  refine W1 ?_
  refine C2 (DU x.aU) ?_
  refine S0 (fun hb h=>?_) fun hb h=>?_
  ·exact ay (aC h1).symm
  refine S0 (fun hb h=>?_) fun hb h=>?_
  ·exact ay (aC h1).symm
  ·omega
 all_goals
  refine aB (rs:=[.tmp 2]) Tryz.checked.mixed Tryz.func285 Tryz.ntmps285 rfl rfl rfl rfl rfl ?_
  simp -implicitDefEqProofs (disch:=omega) only[go_sem,hk]
  refine bN (DU _) ?_
  simp -implicitDefEqProofs (disch:=omega) only[go_sem,hk,RN,RO]
  repeat' (first
   |with_reducible refine eX (fun hb=> ?_) (fun hb=> ?_)<;>have h:=hb<;>(try simp only[wf_preprocess] at h)<;>simp -implicitDefEqProofs (disch:=omega) only[go_sem,hb,hk]<;>refine W3 ?_
   |((with_reducible show dW _ _ 168 _ _ _ _);refine bN (fP x.fName (by omega)) ?_;simp -implicitDefEqProofs (disch:=omega) only[go_sem,hk])
   |((with_reducible show dW _ _ 168 _ _ _ _);refine bN (fP x.bI (by omega)) ?_;simp -implicitDefEqProofs (disch:=omega) only[go_sem,hk])
   |((with_reducible show dW _ _ 345 _ _ _ _);refine bN (Kn x.fName) ?_;simp -implicitDefEqProofs (disch:=omega) only[go_sem,hk])
   |((with_reducible show dW _ _ 266 _ _ _ _);refine bN (Bf x.fType) ?_;simp -implicitDefEqProofs (disch:=omega) only[go_sem,hk])
   |((with_reducible show dW _ _ 329 _ _ _ _);refine bN (sD x.fType (by omega)) ?_;simp -implicitDefEqProofs (disch:=omega) only[go_sem,hk])
   |(refine ay (Bool.eq_iff_iff.2 ?_);simp only[vF,qy,hk];grind [iN,iH,bq,aC]))
end Go.Proofs.YtcfhnaohbaplhaaGreatDoor
namespace Go.Ab
theorem au.ZQ{x:au}{y:au}(h:y∈x.fArgs):y.cnt+1≤x.cnt:=by
 rw[au.mR x]
 have:∀xs:List au,y∈xs→y.cnt≤au.dQ xs:=by
  intro xs
  induction xs with
  |nil=>intro h;cases h
  |cons z zs ih=>
   intro h
   rw[au.dQ]
   rcases List.mem_cons.1 h with e|e
   ·subst e;omega
   ·have:=ih e;omega
 have:=this _ h
 omega
theorem au.ZR{x:au}{y:aX}(h:y∈x.aW):y.fBody.cnt+1≤x.cnt:=by
 rw[au.mR x]
 have:∀xs:List aX,y∈xs→y.fBody.cnt≤aX.dQ xs:=by
  intro xs
  induction xs with
  |nil=>intro h;cases h
  |cons z zs ih=>
   intro h
   rw[aX.dQ]
   rcases List.mem_cons.1 h with e|e
   ·subst e;rw[aX.mR];omega
   ·have:=ih e;omega
 have:=this _ h
 omega
theorem au.ZT(x:au):x.fArgs.length+1≤x.cnt:=by
 rw[au.mR x]
 have:∀xs:List au,xs.length≤au.dQ xs:=by
  intro xs
  induction xs with
  |nil=>simp
  |cons z zs ih=>rw[au.dQ,List.length_cons];have:=au.mR z;omega
 have:=this x.fArgs
 omega
def Sn(k:Int):Bool:=if k=5∨k=11 then true else false
def Sq(k:Int):Bool:=if k=3∨k=4∨k=6∨k=5∨k=8∨k=10 then true else false
def Sr(k:Int):Bool:=if k=1∨k=2 then true else false
def Sv(k:Int):Bool:=if k=1∨k=2∨k=3∨k=4∨k=6∨k=5∨k=7∨k=8∨k=10∨k=9∨k=11 then false else true
def Sw(k:Int):Int:=if k=1∨k=2∨k=3 then 0 else if k=4∨k=6∨k=5 then -1 else if k=8∨k=10 then 2 else if k=9 then 3 else 1
def Sy(k:Int):Bool:=if k=7 then true else false
end Go.Ab
namespace Go.Proofs.YtcfhnaohbaplhaaGreatDoor
open Go Go.Ab
theorem GJ:∀n:Nat,∀x:au,SizeOf.sizeOf x<n→x.sz≤4194304→x.cnt≤300→aD Tryz.prog 202 [x.v] (.c (.d (.b (gV x))))
 |0=>fun x h=>by omega
 |n+1=>by
  have ih:=GJ n
  intro x hn hsz hc S
  have hb0:=au.bounds hsz
  have iW:=au.fD x
  have rX:=au.nu x
  have hl:=au.ZT x
  have h1:∀y∈x.fArgs,aD Tryz.prog 287 [y.v] (.c (.d (.b (!gV y)))):=fun y hy S=>by
   have hys:=List.sizeOf_lt_of_mem hy
   have hyc:=au.ZQ hy
   have hyz:y.sz≤4194304:=by obtain⟨i,hi,e⟩:=List.getElem_of_mem hy;rw[←e];exact au.arg_b hi hsz
   refine aB (rs:=[.tmp 2]) Tryz.checked.mixed Tryz.func287 Tryz.ntmps287 rfl rfl rfl rfl rfl ?_
   refine W1 ?_
   exact C4 (ih y (by omega) hyz (by omega))
  have h2:∀y∈x.aW,aD Tryz.prog 289 [y.v] (.c (.d (.b (!um y)))):=fun y hy S=>by
   have hys:=List.sizeOf_lt_of_mem hy
   have hyb:=aX.mG y
   have hyc:=au.ZR hy
   have hyz:y.sz≤4194304:=by obtain⟨i,hi,e⟩:=List.getElem_of_mem hy;rw[←e];exact au.KV hi hsz
   have hyy:=aX.bounds hyz
   refine aB (rs:=[.tmp 2]) Tryz.checked.mixed Tryz.func289 Tryz.ntmps289 rfl rfl rfl rfl rfl ?_
   refine W1 ?_
   refine C2 (fP y.dw (by omega)) ?_
   refine S0 (fun hb h=>?_) fun hb h=>?_
   ·exact ay (by rw[ow,h];rfl)
   have k1:=h
   refine C2 (lV y.aF (by omega) hyy.2.2.1) ?_
   refine S0 (fun hb h=>?_) fun hb h=>?_
   ·exact ay (by rw[ow,h];simp)
   have k2:=h
   refine C2 (ih y.fBody (by omega) hyy.2.2.2 (by omega)) ?_
   exact ay (by rw[ow,k1,k2];simp)
  refine aB (rs:=[.tmp 2]) Tryz.checked.mixed Tryz.func202 Tryz.ntmps202 rfl rfl rfl rfl rfl ?_
  refine W1 ?_
  refine C2 (Np x hsz (by omega)) ?_
  refine S0 (fun hb h=>?_) fun hb h=>?_
  ·exact ay (by rw[sS,aC h];rfl)
  have k1:=h
  refine W3 ?_
  refine dR rfl (Bn 287 [] _ x.fArgs (fun y=> !gV y) (by omega) fun y hy=>lT.Ic (h1 y hy)) ?_
  refine W1 ?_
  rw[DT]
  refine S0 (fun hb h=>?_) fun hb h=>?_
  ·exact ay (by rw[sS,h];simp)
  have k2:=h
  refine W3 ?_
  refine dR rfl (BN 289 [] _ x.aW (fun y=> !um y) (by omega) fun y hy=>lT.Ic (h2 y hy)) ?_
  refine W1 ?_
  rw[Gj]
  exact ay (by rw[sS,bq k1,k2];simp)
theorem ED(x:au)(hsz:x.sz≤4194304):aD Tryz.prog 114 [x.v] (.c (.d (.b (og x)))):=fun S=>by
 refine aB (rs:=[.tmp 2]) Tryz.checked.mixed Tryz.func114 Tryz.ntmps114 rfl rfl rfl rfl rfl ?_
 refine W1 ?_
 refine C2 (Gi x hsz) ?_
 refine S0 (fun hb h=>?_) fun hb h=>?_
 ·refine C2 (GJ _ x (Nat.lt_succ_self _) hsz (by omega)) ?_
  exact ay (by unfold og;rw[bq (by omega)];rfl)
 ·exact ay (by unfold og;rw[aC (by omega)];rfl)
theorem JN(k:Int):aD Tryz.prog 281 [.c (.d (.i .i64 k))] (.iB [(false,[.d (.b (Sn k))]),(false,[.d (.b (Sq k))]),(false,[.d (.b (Sr k))]),(false,[.d (.b (Sv k))]),(false,[.d (.i .i64 (Sw k))]),(false,[.d (.b (Sy k))])]):=fun S=>by
 refine aB (rs:=[.tmp 2,.tmp 3,.tmp 4,.tmp 5,.tmp 6,.tmp 7]) Tryz.checked.mixed Tryz.func281 Tryz.ntmps281 rfl rfl rfl rfl rfl ?_
 refine W1 ?_
 repeat' (first
  |refine S0 (fun hb h=>?_) fun hb h=>?_
  |(unfold Sn Sq Sr Sv Sw Sy;grind))
theorem GK(t:ah):aD Tryz.prog 284 [t.v] (.c (.d (.b (dec (uj t))))):=fun S=>by
 refine aB (rs:=[.tmp 2]) Tryz.checked.mixed Tryz.func284 Tryz.ntmps284 rfl rfl rfl rfl rfl ?_
 refine W1 ?_
 repeat' (first
  |refine S0 (fun hb h=>?_) fun hb h=>?_
  |(refine ay ?_;unfold uj;grind [bq,aC,iN,iH]))
theorem Sz(s:List UInt8):aD Tryz.prog 282 [.c (.d (.s s))] (.c (.d (.b (dec (s∈ops))))):=fun S=>by
 refine aB (rs:=[.tmp 2]) Tryz.checked.mixed Tryz.func282 Tryz.ntmps282 rfl rfl rfl rfl rfl ?_
 refine W1 ?_
 refine W3 ?_
 exact C4 (pO ops s (by decide))
theorem DY:∀n:Nat,∀x:au,SizeOf.sizeOf x<n→x.sz≤4194304→∀l:Int,0≤l→l≤1048576→aD Tryz.prog 195 [x.v,.c (.d (.i .i64 l))] (.c (.d (.i .i64 (mq l x.cnt))))
 |0=>fun x h=>by omega
 |n+1=>by
  have ih:=DY n
  intro x hn hsz l hl hl2 S
  have hb0:=au.bounds hsz
  have iW:=au.fD x
  have rX:=au.nu x
  have he:=au.mR x
  refine aB (rs:=[.tmp 4]) Tryz.checked.mixed Tryz.func195 Tryz.ntmps195 rfl rfl rfl rfl rfl ?_
  refine W1 ?_
  refine aQ (ι:=Nat×Int) Tryz.checked.mixed rfl [1,2,5] (fun y=>[.c (.d (.i .i64 y.2)),.c (.ptr (0,0) 0),.c (.d (.i .i64 y.1))]) (fun y=>[.box (x.enc.map .d)]::S)
   (fun y=>y.1≤x.fArgs.length∧(-1≤y.2∧y.2≤1048576)∧mq y.2 (au.dQ (x.fArgs.drop y.1))=mq (l-1) (au.dQ x.fArgs)) (fun y=>x.fArgs.length-y.1) (0,l-1) rfl ?_ ⟨Nat.zero_le _,by simp only;omega,rfl⟩ ?_
  ·exact Z1
  rintro⟨i,c⟩ ⟨p1,p2,p3⟩
  simp only at p1 p2 p3
  have out:(i=x.fArgs.length∨c<0)→c=mq (l-1) (au.dQ x.fArgs):=fun h=>by
   rcases h with h|h
   ·rw[h,List.drop_length,au.dQ,Cb p2.1] at p3
    exact p3
   ·rw[←p3,En h];omega
  have second:(i=x.fArgs.length∨c<0)→mq c (aX.dQ x.aW)=mq l x.cnt:=fun h=>by
   rw[out h,Az,he]
   unfold mq
   split<;>split<;>(try split)<;>omega
  refine W1 ?_
  refine S0 (fun hb h=>?_) fun hb h=>?_
  ·have hi:i<x.fArgs.length:=by omega
   refine S0 (fun hb h=>?_) fun hb h=>?_
   ·have hs:=List.sizeOf_lt_of_mem (List.getElem_mem hi)
    have hr:=Il (l:=c) (c:=x.fArgs[i].cnt) (by omega)
    rw[au.kr hi,←Az] at p3
    refine W3 ?_
    refine C2 (ih x.fArgs[i] (by omega) (au.arg_b hi hsz) c (by omega) (by omega)) ?_
    exact bF (i+1,mq c x.fArgs[i].cnt) (by simp only;omega) rfl rfl ⟨by simp only;omega,by simp only;omega,p3⟩
   ·have p4:=second (.inr (by omega))
    clear second out p3
    refine aQ (ι:=Nat×Int) Tryz.checked.mixed rfl [1,2,6] (fun y=>[.c (.d (.i .i64 y.2)),.c (.ptr (0,0) 0),.c (.d (.i .i64 y.1))]) (fun y=>[.box (x.enc.map .d)]::S)
     (fun y=>y.1≤x.aW.length∧(-1≤y.2∧y.2≤1048576)∧mq y.2 (aX.dQ (x.aW.drop y.1))=mq l x.cnt) (fun y=>x.aW.length-y.1) (0,c) rfl ?_ ⟨Nat.zero_le _,by simp only;omega,p4⟩ ?_
    ·exact Z1
    clear p1 p2 p4
    rintro⟨i,d⟩ ⟨p1,p2,p3⟩
    simp only at p1 p2 p3
    refine W1 ?_
    refine S0 (fun hb h=>?_) fun hb h=>?_
    ·have hi:i<x.aW.length:=by omega
     refine S0 (fun hb h=>?_) fun hb h=>?_
     ·have hs:=List.sizeOf_lt_of_mem (List.getElem_mem hi)
      have hs':=aX.mG x.aW[i]
      have hr:=Il (l:=d) (c:=x.aW[i].fBody.cnt) (by omega)
      rw[aX.kr hi,←Az] at p3
      refine W3 ?_
      refine C2 (ih x.aW[i].fBody (by omega) (aX.bounds (au.KV hi hsz)).2.2.2 d (by omega) (by omega)) ?_
      exact bF (i+1,mq d x.aW[i].fBody.cnt) (by simp only;omega) rfl rfl ⟨by simp only;omega,by simp only;omega,p3⟩
     ·rw[En (by omega)] at p3
      exact int_eq (by omega)
    ·have hi:i=x.aW.length:=by omega
     rw[hi,List.drop_length,aX.dQ,Cb p2.1] at p3
     exact int_eq (by omega)
  ·have p4:=second (.inl (by omega))
   clear second out p3
   refine aQ (ι:=Nat×Int) Tryz.checked.mixed rfl [1,2,6] (fun y=>[.c (.d (.i .i64 y.2)),.c (.ptr (0,0) 0),.c (.d (.i .i64 y.1))]) (fun y=>[.box (x.enc.map .d)]::S)
    (fun y=>y.1≤x.aW.length∧(-1≤y.2∧y.2≤1048576)∧mq y.2 (aX.dQ (x.aW.drop y.1))=mq l x.cnt) (fun y=>x.aW.length-y.1) (0,c) rfl ?_ ⟨Nat.zero_le _,by simp only;omega,p4⟩ ?_
   ·exact Z1
   clear p1 p2 p4
   rintro⟨i,d⟩ ⟨p1,p2,p3⟩
   simp only at p1 p2 p3
   refine W1 ?_
   refine S0 (fun hb h=>?_) fun hb h=>?_
   ·have hi:i<x.aW.length:=by omega
    refine S0 (fun hb h=>?_) fun hb h=>?_
    ·have hs:=List.sizeOf_lt_of_mem (List.getElem_mem hi)
     have hs':=aX.mG x.aW[i]
     have hr:=Il (l:=d) (c:=x.aW[i].fBody.cnt) (by omega)
     rw[aX.kr hi,←Az] at p3
     refine W3 ?_
     refine C2 (ih x.aW[i].fBody (by omega) (aX.bounds (au.KV hi hsz)).2.2.2 d (by omega) (by omega)) ?_
     exact bF (i+1,mq d x.aW[i].fBody.cnt) (by simp only;omega) rfl rfl ⟨by simp only;omega,by simp only;omega,p3⟩
    ·rw[En (by omega)] at p3
     exact int_eq (by omega)
   ·have hi:i=x.aW.length:=by omega
    rw[hi,List.drop_length,aX.dQ,Cb p2.1] at p3
    exact int_eq (by omega)
end Go.Proofs.YtcfhnaohbaplhaaGreatDoor
