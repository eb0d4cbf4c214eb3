/-
  SEVERAL TEXTS IN ONE (merged by program): contracts and models, each with its own heading.
-/
import Derived.Test.YtcfhnaohbaplhaaGreatDoorPartTpbC
import Derived.Lib.ItoaNum
import Derived.Shelf.LaysM
import Derived.Shelf.Strconv.Itoa3
import Derived.Test.YtcfhnaohbaplhaaGreatDoorProg
import Derived.WalkKit
import Derived.ProofKit
import Derived.Lib.AppendZeros
import Derived.Laws.Cover3
set_option linter.unusedSimpArgs false
set_option linter.unusedVariables false
set_option maxRecDepth 4000
set_option maxRecDepth 100000
namespace Go.Ab
theorem Vm(b:UInt8):decide (firstIdx ⟨[39,45,43,42,60,61,46].toArray⟩ b≥0)=decide (b∈([39,45,43,42,60,61,46]:List UInt8)):=by
 have h:∀n:Nat,n<256→decide (firstIdx ⟨[39,45,43,42,60,61,46].toArray⟩ (UInt8.ofNat n)≥0)=decide (UInt8.ofNat n∈([39,45,43,42,60,61,46]:List UInt8)):=by decide +kernel
 have h1:=h b.toNat (UInt8.toNat_lt b)
 rwa [UInt8.ofNat_toNat] at h1
theorem XY(b:UInt8):b∈([39,45,43,42,60,61,46]:List UInt8)↔(b.toNat=39∨b.toNat=45∨b.toNat=43∨b.toNat=42∨b.toNat=60∨b.toNat=61∨b.toNat=46):=by
 have h:∀n:Nat,n<256→(UInt8.ofNat n∈([39,45,43,42,60,61,46]:List UInt8)↔(n=39∨n=45∨n=43∨n=42∨n=60∨n=61∨n=46)):=by decide +kernel
 have h1:=h b.toNat (UInt8.toNat_lt b)
 rwa [UInt8.ofNat_toNat] at h1
theorem q9(b:UInt8):jI b=true↔(97≤b.toNat∧b.toNat≤122)∨(48≤b.toNat∧b.toNat≤57)∨b.toNat=39∨b.toNat=45∨b.toNat=43∨b.toNat=42∨b.toNat=60∨b.toNat=61∨b.toNat=46:=by
 unfold jI
 rw[Bool.or_eq_true,Bool.or_eq_true,decide_eq_true_eq,decide_eq_true_eq,decide_eq_true_eq,XY,or_assoc]
theorem all_false{s:List UInt8}{i:Nat}(hi:i<s.length)(h:jI s[i]=false):s.all jI=false:=by
 rw[List.all_eq_false]
 exact⟨s[i],List.getElem_mem hi,by simp[h]⟩
theorem all_true{s:List UInt8}(h:∀j (hj:j<s.length),jI s[j]=true):s.all jI=true:=by
 rw[List.all_eq_true]
 intro b hb
 obtain⟨j,hj,e⟩:=List.getElem_of_mem hb
 rw[←e];exact h j hj
theorem u7{x:aj}{i:Nat}(hi:i<x.aY.length)(h:x.sz≤67108864):x.aY[i].sz≤67108864∧x.aY.length≤67108864∧x.bS.length≤67108864:=by
 have:=xE (List.getElem_mem hi)
 rw[rG,pV] at h
 omega
theorem yw{x:aj}(h:x.sz≤67108864):x.aY.length≤67108864∧x.bS.length≤67108864:=by
 rw[rG,pV] at h
 omega
theorem O9{l:List aj}{i:Nat}(hi:i<l.length):oQ (l.drop i)=(oK l[i]&&oQ (l.drop (i+1))):=by rw[List.drop_eq_getElem_cons hi,oQ]
theorem Ck{l:List aj}{i:Nat}(hi:i<l.length):nE (l.drop i)=max (kS l[i]) (nE (l.drop (i+1))):=by rw[List.drop_eq_getElem_cons hi,nE]
theorem D6{l:List aj}{i:Nat}(hi:i<l.length):mE (l.drop i)=j4 l[i]+mE (l.drop (i+1)):=by rw[List.drop_eq_getElem_cons hi,mE]
theorem Ew{x:aj}(h:x.sz≤67108864):j4 x≤67108865:=by have:=M9 x;omega
theorem aj.Dg{x:aj}{i:Nat}(hi:i<x.aY.length):SizeOf.sizeOf x.aY[i]<SizeOf.sizeOf x:=by
 have:=List.sizeOf_lt_of_mem (List.getElem_mem hi)
 have:=aj.Im x
 omega
end Go.Ab
namespace Go.Proofs.YtcfhnaohbaplhaaGreatDoor
open Go Go.Ab
theorem Gv(l:List UInt8)(b:UInt8):aD Tryz.prog 277 [.c (.d (.s l)),.c (.d (.i .u8 b.toNat))] (.c (.d (.i .i64 (firstIdx ⟨l.toArray⟩ b)))):=fun S=>by
 refine aB (rs:=[.tmp 4]) Tryz.checked.mixed Tryz.func277 Tryz.ntmps277 rfl rfl rfl rfl rfl ?_
 refine W1 ?_
 exact C4 (Cj l b)
theorem KC(b:UInt8):aD Tryz.prog 193 [.c (.d (.i .u8 b.toNat))] (.c (.d (.b (jI b)))):=fun S=>by
 refine aB (rs:=[.tmp 2]) Tryz.checked.mixed Tryz.func193 Tryz.ntmps193 rfl rfl rfl rfl rfl ?_
 refine W1 ?_
 refine C2 (FY b) ?_
 refine S0 (fun hb h=>?_) fun hb h=>?_
 ·exact ay ((q9 b).2 (.inl h)).symm
 have h1:=h
 refine C2 (FZ b) ?_
 refine S0 (fun hb h=>?_) fun hb h=>?_
 ·exact ay ((q9 b).2 (.inr (.inl h))).symm
 have h2:=h
 refine C2 (Gv [39,45,43,42,60,61,46] b) ?_
 refine ay ?_
 rw[Vm]
 unfold jI
 unfold lowerB at h1
 unfold oO at h2
 simp[h1,h2]
theorem Sj(s:List UInt8)(hs:s.length≤1073741824):aD Tryz.prog 292 [.c (.d (.s s))] (.c (.d (.b (validAtom s)))):=fun S=>by
 refine aB (rs:=[.tmp 2]) Tryz.checked.mixed Tryz.func292 Tryz.ntmps292 rfl rfl rfl rfl rfl ?_
 refine W1 ?_
 refine aR (ι:=Nat) Tryz.checked.mixed rfl [0,5,6] (fun i=>[.c (.d (.s s)),.c (.d (.i .i64 s.length)),.c (.d (.i .i64 i))]) (fun _=>[]::S)
  (fun i=>i≤s.length∧∀j,∀hj:j<s.length,j<i→jI s[j]=true) (fun i=>s.length-i) 0 rfl rfl ⟨Nat.zero_le _,fun j _ h=>by omega⟩ ?_
 rintro i ⟨p1,p2⟩
 refine W1 ?_
 refine S0 (fun hb h=>?_) fun hb h=>?_
 ·have hi:i<s.length:=by omega
  have e:s.getD i 0=s[i]:=by simp[List.getD,hi]
  refine W3 ?_
  rw[e]
  refine C2 (KC s[i]) ?_
  refine S0 (fun hb h=>?_) fun hb h=>?_
  ·exact ay (by unfold validAtom;rw[all_false hi h];rfl)
  ·refine bF (i+1) (by omega) rfl rfl ⟨by omega,fun j hj hji=> ?_⟩
   by_cases e':j=i
   ·subst e';exact h
   ·exact p2 j hj (by omega)
 ·have ha:=all_true (s:=s) (fun j hj=>p2 j hj (by omega))
  refine S0 (fun hb h=>?_) fun hb h=>?_
  ·refine ay ?_
   unfold validAtom
   rw[ha,Bool.true_and]
   exact decide_eq_decide.2 (by omega)
  ·refine ay ?_
   unfold validAtom
   rw[ha,Bool.true_and]
   exact(decide_eq_false (by omega)).symm
theorem Vn(b:UInt8):aD Tryz.prog 270 [.c (.d (.i .u8 b.toNat))] (.c (.d (.b (jI b)))):=fun S=>by
 have yes:((97≤b.toNat∧b.toNat≤122)∨(48≤b.toNat∧b.toNat≤57)∨b.toNat=39∨b.toNat=45∨b.toNat=43∨b.toNat=42∨b.toNat=60∨b.toNat=61∨b.toNat=46)→jI b=true:=(q9 b).2
 have no:¬((97≤b.toNat∧b.toNat≤122)∨(48≤b.toNat∧b.toNat≤57)∨b.toNat=39∨b.toNat=45∨b.toNat=43∨b.toNat=42∨b.toNat=60∨b.toNat=61∨b.toNat=46)→jI b=false:=fun h=>by
  cases hb:jI b with
  |false=>rfl
  |true=>exact absurd ((q9 b).1 hb) h
 refine aB (rs:=[.tmp 2]) Tryz.checked.mixed Tryz.func270 Tryz.ntmps270 rfl rfl rfl rfl rfl ?_
 refine W1 ?_
 repeat' (first|(refine S0 (fun hb h=>?_) fun hb h=>?_))
 all_goals first
  |exact ay (yes (by omega)).symm
  |exact ay (no (by omega)).symm
  |(refine ay ?_;cases hb:jI b<;>simp only[decide_eq_true_eq,decide_eq_false_iff_not]<;>(first|(have:=(q9 b).1 hb;omega)|(intro q;have:=yes (by omega);rw[hb] at this;cases this)))
theorem Sk(s:List UInt8)(hs:s.length≤1073741824):aD Tryz.prog 236 [.c (.d (.s s))] (.c (.d (.b (validAtom s)))):=fun S=>by
 refine aB (rs:=[.tmp 2]) Tryz.checked.mixed Tryz.func236 Tryz.ntmps236 rfl rfl rfl rfl rfl ?_
 refine W1 ?_
 refine aR (ι:=Nat) Tryz.checked.mixed rfl [0,3] (fun i=>[.c (.d (.s s)),.c (.d (.i .i64 i))]) (fun _=>[]::S)
  (fun i=>i≤s.length∧∀j,∀hj:j<s.length,j<i→jI s[j]=true) (fun i=>s.length-i) 0 rfl rfl ⟨Nat.zero_le _,fun j _ h=>by omega⟩ ?_
 rintro i ⟨p1,p2⟩
 refine W1 ?_
 refine S0 (fun hb h=>?_) fun hb h=>?_
 ·have hi:i<s.length:=by omega
  have e:s.getD i 0=s[i]:=by simp[List.getD,hi]
  refine W3 ?_
  rw[e]
  refine C2 (Vn s[i]) ?_
  refine S0 (fun hb h=>?_) fun hb h=>?_
  ·exact ay (by unfold validAtom;rw[all_false hi h];rfl)
  ·refine bF (i+1) (by omega) rfl rfl ⟨by omega,fun j hj hji=> ?_⟩
   by_cases e':j=i
   ·subst e';exact h
   ·exact p2 j hj (by omega)
 ·have ha:=all_true (s:=s) (fun j hj=>p2 j hj (by omega))
  refine C2 (zI s.length 1 12) ?_
  refine ay ?_
  unfold validAtom
  rw[ha,Bool.true_and,←lW]
  exact decide_eq_decide.2 (by omega)
theorem Cm:∀n:Nat,(∀x:aj,SizeOf.sizeOf x<n→x.sz≤67108864→aD Tryz.prog 207 [x.v] (.c (.d (.b (oK x)))))∧
 (∀xs:List aj,SizeOf.sizeOf xs<n→xs.length≤67108864→(∀t∈xs,t.sz≤67108864)→aD Tryz.prog 293 [.c (.d (.sl (xs.map aj.enc))),.c (.fn 294 [])] (.c (.d (.b (!oQ xs)))))
 |0=>⟨fun x h=>by omega,fun x h=>by omega⟩
 |n+1=>by
  obtain⟨ih,BS⟩:=Cm n
  refine⟨fun x hn hsz S=> ?_,fun xs hn hlen hsz S=> ?_⟩
  ·have iX:=aj.Im x
   have hts:=yw hsz
   have hall:∀t∈x.aY,t.sz≤67108864:=fun t ht=>by
    obtain⟨i,hi,e⟩:=List.getElem_of_mem ht
    rw[←e];exact(u7 hi hsz).1
   have tail:=BS x.aY (by omega) hts.1 hall
   have hf:=M7 x
   refine aB (rs:=[.tmp 2]) Tryz.checked.mixed Tryz.func207 Tryz.ntmps207 rfl rfl rfl rfl rfl ?_
   refine W1 ?_
   refine S0 (fun hb h=>?_) fun hb h=>?_
   ·rw[if_neg h] at hf
    refine C2 (Sj x.bS (by omega)) ?_
    refine S0 (fun hb h=>?_) fun hb h=>?_
    ·rw[hf,h,Bool.true_and]
     exact ay (decide_eq_decide.2 (by omega))
    ·rw[hf,h,Bool.false_and]
   ·rw[if_pos h] at hf
    refine bN tail ?_
    refine W1 ?_
    rw[hf,Bool.not_not]
  ·have hcl:∀y∈xs,aD Tryz.prog 294 [y.v] (.c (.d (.b (!oK y)))):=fun y hy S=>by
    have hys:=List.sizeOf_lt_of_mem hy
    refine aB (rs:=[.tmp 2]) Tryz.checked.mixed Tryz.func294 Tryz.ntmps294 rfl rfl rfl rfl rfl ?_
    refine W1 ?_
    exact C4 (ih y (by omega) (hsz y hy))
   have hidx:aD Tryz.prog 349 [.c (.d (.sl (xs.map aj.enc))),.c (.fn 294 [])] (.c (.d (.i .i64 (oP (fun y=> !oK y) xs)))):=fun S=>by
    refine aB (rs:=[.tmp 4]) Tryz.checked.mixed Tryz.func349 Tryz.ntmps349 rfl rfl rfl rfl rfl ?_
    refine W1 ?_
    refine aR (ι:=Nat) Tryz.checked.mixed rfl [0,1,7,8] (fun i=>[.c (.d (.sl (xs.map aj.enc))),.c (.fn 294 []),.c (.d (.i .i64 xs.length)),.c (.d (.i .i64 i))]) (fun _=>[]::S)
     (fun i=>i≤xs.length∧∀j,∀hj:j<xs.length,j<i→oK xs[j]=true) (fun i=>xs.length-i) 0 rfl rfl ⟨Nat.zero_le _,fun j _ h=>by omega⟩ ?_
    rintro i ⟨p1,p2⟩
    refine W1 ?_
    refine S0 (fun hb h=>?_) fun hb h=>?_
    ·have hi:i<xs.length:=by omega
     refine W3 ?_
     refine C2 (hcl xs[i] (List.getElem_mem hi)) ?_
     refine S0 (fun hb h=>?_) fun hb h=>?_
     ·rw[oz hi (fun j hj hji=>by rw[p2 j hj hji];rfl) (by rw[h];rfl)]
     ·refine bF (i+1) (by omega) rfl rfl ⟨by omega,fun j hj hji=> ?_⟩
      by_cases e:j=i
      ·subst e;exact h
      ·exact p2 j hj (by omega)
    ·rw[qR (fun j hj=>by rw[p2 j hj (by omega)];rfl)]
   refine aB (rs:=[.tmp 4]) Tryz.checked.mixed Tryz.func293 Tryz.ntmps293 rfl rfl rfl rfl rfl ?_
   refine W1 ?_
   refine C2 (hidx) ?_
   rw[←Gf]
   exact ay pO
theorem Pb(x:aj)(hsz:x.sz≤67108864):aD Tryz.prog 207 [x.v] (.c (.d (.b (oK x)))):=(Cm _).1 x (Nat.lt_succ_self _) hsz
theorem zO:∀n:Nat,∀x:aj,SizeOf.sizeOf x<n→x.sz≤67108864→aD Tryz.prog 208 [x.v] (.c (.d (.i .i64 (kS x))))
 |0=>fun x h=>by omega
 |n+1=>by
  have ih:=zO n
  intro x hn hsz S
  have hts:=yw hsz
  have hd:=JN x
  have hd1:=zh x
  have hd2:=Ew hsz
  refine aB (rs:=[.tmp 2]) Tryz.checked.mixed Tryz.func208 Tryz.ntmps208 rfl rfl rfl rfl rfl ?_
  refine W1 ?_
  refine S0 (fun hb h=>?_) fun hb h=>?_
  ·rw[if_neg h] at hd
   rw[hd];rfl
  rw[if_pos h] at hd
  refine aR (ι:=Nat×Nat) Tryz.checked.mixed rfl [3,10,11,12] (fun y=>[.c (.d (.i .i64 y.2)),.c (.d (.sl (x.aY.map aj.enc))),.c (.d (.i .i64 x.aY.length)),.c (.d (.i .i64 y.1))]) (fun y=>[.box [.d (.s x.bS),.d (.sl (x.aY.map aj.enc))]]::S)
   (fun y=>y.1≤x.aY.length∧kS x=max y.2 (nE (x.aY.drop y.1))+1) (fun y=>x.aY.length-y.1) (0,0) rfl rfl ⟨Nat.zero_le _,by simp[hd]⟩ ?_
  rintro⟨i,c⟩ ⟨p1,p2⟩
  simp only at p1 p2
  refine W1 ?_
  refine S0 (fun hb h=>?_) fun hb h=>?_
  ·have hi:i<x.aY.length:=by omega
   have hsz':=u7 hi hsz
   rw[Ck hi] at p2
   refine W3 ?_
   refine C2 (ih x.aY[i] (by have:=aj.Dg hi;omega) (by omega)) ?_
   rw[show max (c:Int) ((kS x.aY[i]:Int))=((max c (kS x.aY[i]):Nat):Int) by omega]
   exact bX 1 (by decide) (i+1,max c (kS x.aY[i])) (by simp only;omega) rfl rfl rfl rfl ⟨by simp only;omega,by simp only;omega⟩
  ·have hi:i=x.aY.length:=by omega
   rw[hi,List.drop_length,nE] at p2
   refine W3 ?_
   exact int_eq (by omega)
theorem KD(x:aj)(hsz:x.sz≤67108864):aD Tryz.prog 208 [x.v] (.c (.d (.i .i64 (kS x)))):=zO _ x (Nat.lt_succ_self _) hsz
theorem Bp:∀n:Nat,∀x:aj,SizeOf.sizeOf x<n→x.sz≤67108864→aD Tryz.prog 209 [x.v] (.c (.d (.i .i64 (j4 x))))
 |0=>fun x h=>by omega
 |n+1=>by
  have ih:=Bp n
  intro x hn hsz S
  have hts:=yw hsz
  have hd2:=Ew hsz
  refine aB (rs:=[.tmp 2]) Tryz.checked.mixed Tryz.func209 Tryz.ntmps209 rfl rfl rfl rfl rfl ?_
  refine W1 ?_
  refine aR (ι:=Nat×Nat) Tryz.checked.mixed rfl [3,7,8,9] (fun y=>[.c (.d (.i .i64 y.2)),.c (.d (.sl (x.aY.map aj.enc))),.c (.d (.i .i64 x.aY.length)),.c (.d (.i .i64 y.1))]) (fun y=>[.box [.d (.s x.bS),.d (.sl (x.aY.map aj.enc))]]::S)
   (fun y=>y.1≤x.aY.length∧j4 x=y.2+mE (x.aY.drop y.1)) (fun y=>x.aY.length-y.1) (0,1) rfl rfl ⟨Nat.zero_le _,by simp[M8];omega⟩ ?_
  rintro⟨i,c⟩ ⟨p1,p2⟩
  simp only at p1 p2
  refine W1 ?_
  refine S0 (fun hb h=>?_) fun hb h=>?_
  ·have hi:i<x.aY.length:=by omega
   have hsz':=u7 hi hsz
   rw[D6 hi] at p2
   refine W3 ?_
   refine C2 (ih x.aY[i] (by have:=aj.Dg hi;omega) (by omega)) ?_
   rw[show(c:Int)+(j4 x.aY[i]:Int)=((c+j4 x.aY[i]:Nat):Int) by omega]
   exact bX 1 (by decide) (i+1,c+j4 x.aY[i]) (by simp only;omega) rfl rfl rfl rfl ⟨by simp only;omega,by simp only;omega⟩
  ·have hi:i=x.aY.length:=by omega
   rw[hi,List.drop_length,mE] at p2
   exact int_eq (by omega)
theorem Nj(x:aj)(hsz:x.sz≤67108864):aD Tryz.prog 209 [x.v] (.c (.d (.i .i64 (j4 x)))):=Bp _ x (Nat.lt_succ_self _) hsz
theorem qh(x:aj)(hsz:x.sz≤67108864):aD Tryz.prog 118 [x.v] (.c (.d (.b (gV x)))):=fun S=>by
 refine aB (rs:=[.tmp 2]) Tryz.checked.mixed Tryz.func118 Tryz.ntmps118 rfl rfl rfl rfl rfl ?_
 refine W1 ?_
 refine C2 (Pb x hsz) ?_
 refine S0 (fun hb h=>?_) fun hb h=>?_
 ·have hf:=h
  refine C2 (KD x hsz) ?_
  refine S0 (fun hb h=>?_) fun hb h=>?_
  ·refine C2 (Nj x hsz) ?_
   refine ay ?_
   unfold gV
   rw[hf,Bool.true_and]
   exact decide_eq_decide.2 (by omega)
  ·refine ay ?_
   unfold gV
   rw[hf,Bool.true_and]
   exact(decide_eq_false (by omega)).symm
 ·refine ay ?_
  unfold gV
  rw[h,Bool.false_and]
theorem Gw:∀n:Nat,∀x:aj,SizeOf.sizeOf x<n→∀l:Int,0≤l→l≤1073741824→x.sz≤67108864→aD Tryz.prog 151 [x.v,.c (.d (.i .i64 l))] (.c (.d (.i .i64 (cB l (j4 x)))))
 |0=>fun x h=>by omega
 |n+1=>by
  have ih:=Gw n
  intro x hn l h0 h1 hsz S
  have hts:=yw hsz
  have hcn:=M8 x
  refine aB (rs:=[.tmp 4]) Tryz.checked.mixed Tryz.func151 Tryz.ntmps151 rfl rfl rfl rfl rfl ?_
  refine W1 ?_
  refine aR (ι:=Nat×Int) Tryz.checked.mixed rfl [1,2,5] (fun y=>[.c (.d (.i .i64 y.2)),.c (.ptr (0,0) 0),.c (.d (.i .i64 y.1))]) (fun y=>[.box [.d (.s x.bS),.d (.sl (x.aY.map aj.enc))]]::S)
   (fun y=>y.1≤x.aY.length∧ -1≤y.2∧y.2≤1073741824∧(0≤y.2→cB l (j4 x)=cB y.2 (mE (x.aY.drop y.1)))∧(y.2<0→cB l (j4 x)= -1)) (fun y=>x.aY.length-y.1) (0,l-1) rfl rfl ⟨Nat.zero_le _,by simp only;omega,by simp only;omega,fun h=> ?_,fun h=> ?_⟩ ?_
  ·simp only[List.drop_zero] at h ⊢
   unfold cB
   rw[hcn]
   split<;>split<;>omega
  ·simp only at h
   exact bT (by omega)
  rintro⟨i,c⟩ ⟨p1,p2,p3,p4,p5⟩
  simp only at p1 p2 p3 p4 p5
  refine W1 ?_
  refine S0 (fun hb h=>?_) fun hb h=>?_
  ·have hi:i<x.aY.length:=by omega
   refine S0 (fun hb h=>?_) fun hb h=>?_
   ·have hsz':=u7 hi hsz
    have p6:=p4 h
    rw[D6 hi] at p6
    refine W3 ?_
    refine C2 (ih x.aY[i] (by have:=aj.Dg hi;omega) c (by omega) (by omega) (by omega)) ?_
    refine bF (i+1,cB c _) (by simp only;omega) rfl rfl ⟨by simp only;omega,?_,?_,fun h=> ?_,fun h=> ?_⟩
    ·simp only;unfold cB;split<;>omega
    ·simp only;unfold cB;split<;>omega
    ·simp only at h ⊢
     rw[p6]
     have:=dO (l:=c) (a:=j4 x.aY[i]) (by omega)
     rw[this.1]
     unfold cB
     split<;>split<;>omega
    ·simp only at h ⊢
     rw[p6]
     have:=dA h
     exact bT (by omega)
   ·have hc:c= -1:=by omega
    rw[p5 (by omega),hc]
  ·have hi:i=x.aY.length:=by omega
   by_cases hc:0≤c
   ·rw[p4 hc,hi,List.drop_length,mE,fq (by omega)]
    exact int_eq (by simp)
   ·rw[p5 (by omega)]
    exact int_eq (by omega)
theorem Vo(x:aj)(l:Int)(h0:0≤l)(h1:l≤1073741824)(hsz:x.sz≤67108864):aD Tryz.prog 151 [x.v,.c (.d (.i .i64 l))] (.c (.d (.i .i64 (cB l (j4 x))))):=Gw _ x (Nat.lt_succ_self _) l h0 h1 hsz
theorem Gx:∀n:Nat,∀x:aj,SizeOf.sizeOf x<n→x.sz≤67108864→aD Tryz.prog 152 [x.v] (.c (.d (.b (oK x))))
 |0=>fun x h=>by omega
 |n+1=>by
  have ih:=Gx n
  intro x hn hsz S
  have hts:=yw hsz
  have hf:=M7 x
  refine aB (rs:=[.tmp 2]) Tryz.checked.mixed Tryz.func152 Tryz.ntmps152 rfl rfl rfl rfl rfl ?_
  refine W1 ?_
  refine S0 (fun hb h=>?_) fun hb h=>?_
  ·rw[if_neg h] at hf
   refine C2 (Sk x.bS (by omega)) ?_
   refine S0 (fun hb h=>?_) fun hb h=>?_
   ·rw[hf,h,Bool.true_and]
    exact ay (decide_eq_decide.2 (by omega))
   ·rw[hf,h,Bool.false_and]
  rw[if_pos h] at hf
  refine aR (ι:=Nat) Tryz.checked.mixed rfl [1,3] (fun y=>[.c (.ptr (0,0) 0),.c (.d (.i .i64 y))]) (fun y=>[.box [.d (.s x.bS),.d (.sl (x.aY.map aj.enc))]]::S)
   (fun y=>y≤x.aY.length∧oK x=oQ (x.aY.drop y)) (fun y=>x.aY.length-y) 0 rfl rfl ⟨Nat.zero_le _,hf⟩ ?_
  rintro i ⟨p1,p2⟩
  refine W1 ?_
  refine S0 (fun hb h=>?_) fun hb h=>?_
  ·have hi:i<x.aY.length:=by omega
   have hsz':=u7 hi hsz
   rw[O9 hi] at p2
   refine W3 ?_
   refine C2 (ih x.aY[i] (by have:=aj.Dg hi;omega) (by omega)) ?_
   refine S0 (fun hb h=>?_) fun hb h=>?_
   ·rw[p2,h,Bool.false_and]
   ·exact bF (i+1) (by omega) rfl rfl ⟨by omega,by rw[p2,h,Bool.true_and]⟩
  ·have hi:i=x.aY.length:=by omega
   rw[hi,List.drop_length,oQ] at p2
   rw[p2]
theorem Vp(x:aj)(hsz:x.sz≤67108864):aD Tryz.prog 152 [x.v] (.c (.d (.b (oK x)))):=Gx _ x (Nat.lt_succ_self _) hsz
theorem zP:∀n:Nat,∀x:aj,SizeOf.sizeOf x<n→x.sz≤67108864→aD Tryz.prog 153 [x.v] (.c (.d (.i .i64 (kS x))))
 |0=>fun x h=>by omega
 |n+1=>by
  have ih:=zP n
  intro x hn hsz S
  have hts:=yw hsz
  have hd:=JN x
  have hd1:=zh x
  have hd2:=Ew hsz
  refine aB (rs:=[.tmp 2]) Tryz.checked.mixed Tryz.func153 Tryz.ntmps153 rfl rfl rfl rfl rfl ?_
  refine W1 ?_
  refine S0 (fun hb h=>?_) fun hb h=>?_
  ·rw[if_neg h] at hd
   rw[hd];rfl
  rw[if_pos h] at hd
  refine aR (ι:=Nat×Nat) Tryz.checked.mixed rfl [1,3,4] (fun y=>[.c (.ptr (0,0) 0),.c (.d (.i .i64 y.2)),.c (.d (.i .i64 y.1))]) (fun y=>[.box [.d (.s x.bS),.d (.sl (x.aY.map aj.enc))]]::S)
   (fun y=>y.1≤x.aY.length∧kS x=max y.2 (nE (x.aY.drop y.1))+1) (fun y=>x.aY.length-y.1) (0,0) rfl rfl ⟨Nat.zero_le _,by simp[hd]⟩ ?_
  rintro⟨i,c⟩ ⟨p1,p2⟩
  simp only at p1 p2
  refine W1 ?_
  refine S0 (fun hb h=>?_) fun hb h=>?_
  ·have hi:i<x.aY.length:=by omega
   have hsz':=u7 hi hsz
   rw[Ck hi] at p2
   refine W3 ?_
   refine C2 (ih x.aY[i] (by have:=aj.Dg hi;omega) (by omega)) ?_
   refine C2 (MX _ _) ?_
   rw[show max (c:Int) ((kS x.aY[i]:Int))=((max c (kS x.aY[i]):Nat):Int) by omega]
   exact bF (i+1,max c (kS x.aY[i])) (by simp only;omega) rfl rfl ⟨by simp only;omega,by simp only;omega⟩
  ·have hi:i=x.aY.length:=by omega
   rw[hi,List.drop_length,nE] at p2
   refine W3 ?_
   exact int_eq (by omega)
theorem KE(x:aj)(hsz:x.sz≤67108864):aD Tryz.prog 153 [x.v] (.c (.d (.i .i64 (kS x)))):=zP _ x (Nat.lt_succ_self _) hsz
theorem wG(x:aj)(hsz:x.sz≤67108864):aD Tryz.prog 77 [x.v] (.c (.d (.b (gV x)))):=fun S=>by
 refine aB (rs:=[.tmp 2]) Tryz.checked.mixed Tryz.func77 Tryz.ntmps77 rfl rfl rfl rfl rfl ?_
 refine W1 ?_
 refine C2 (Vo x 900 (by omega) (by omega) hsz) ?_
 refine S0 (fun hb h=>?_) fun hb h=>?_
 ·have h1:=(dO (l:=900) (a:=j4 x) (by omega)).2
  refine C2 (Vp x hsz) ?_
  refine S0 (fun hb h=>?_) fun hb h=>?_
  ·have hf:=h
   refine C2 (KE x hsz) ?_
   refine ay ?_
   unfold gV
   rw[hf,Bool.true_and]
   exact decide_eq_decide.2 (by omega)
  ·refine ay ?_
   unfold gV
   rw[h,Bool.false_and]
 ·have h1:=dA (l:=900) (a:=j4 x) (by omega)
  refine ay ?_
  unfold gV
  rw[decide_eq_false (by omega),Bool.and_false]
end Go.Proofs.YtcfhnaohbaplhaaGreatDoor
namespace Go.Ab
theorem XZ{w:World}{σ:Nat→Nat}(hl:∀b,b<w.heap.size∨σ b=0)(hg:sj w σ):eF w σ [] []:=
 ⟨fun k o h=>(by cases h),fun k k' o o' h h' b h1=>(by cases h1),⟨rfl,fun l fr h=>(by cases h)⟩,hl,hg⟩
theorem Sl{P:Program}{f:FuncId}{args:List V}{r:V}(h:aD P f args r){w:World}{σ:Nat→Nat}(hl:∀b,b<w.heap.size∨σ b=0)(hg:sj w σ){vs:List Value}(hv:nN w σ [] [] args vs):
 Calls P f vs.toArray w fun e w'=>∃v σ',e=.returned v∧dF w' σ' [] [] r v∧Grow w σ w' σ'∧sj w' σ':=
 ((h []).2 w σ [] vs (XZ hl hg) hv).mono fun e w' ⟨v,r',S',σ',β',he,hS,hk,hst,Ju,hr,hS'⟩=>by
   subst hr hS'
   cases β' with
   |cons a l=>have:=hS.shape.1;simp at this
   |nil=>exact⟨v,σ',he,Ju,⟨hst.size,hst.os,hst.output,fun b hb=>hst.far b hb (fun⟨k,o,h,e,_⟩=>by cases e),hS.live⟩,hS.rO⟩
theorem X0{x:V}{vs:List Value}{w:World}{σ:Nat→Nat}{S:Store}{β:Hs}(h:nN w σ S β [x] vs):∃v,vs=[v]∧dF w σ S β x v:=by
 obtain⟨hl,h⟩:=h
 obtain⟨v,e0,h0⟩:=h 0 x rfl
 match vs,hl,e0 with
 |[a],_,e0=>simp at e0;subst e0;exact⟨_,rfl,h0⟩
theorem X3(x:aj):fO x≠[]:=by
 rw[Nb]
 split
 ·simp
 ·assumption
theorem abB{w:World}{σ:Nat→Nat}{S:Store}{β:Hs}{x:aj}{u:Value}(h:dF w σ S β x.v u):∃lv,u=.agg #[.string ⟨x.bS.toArray⟩,lv]∧dK w σ (.sl (x.aY.map aj.enc)) lv∧lv.oneCell'=true:=by
 rw[←aj.ow,aj.aH] at h
 obtain⟨a,rfl,hl,h⟩:=h
 obtain⟨v0,e0,h0,_⟩:=h 0 _ rfl
 obtain⟨v1,e1,h1,h1c⟩:=h 1 _ rfl
 obtain rfl:v0=.string ⟨x.bS.toArray⟩:=by cases h0;rfl
 refine⟨v1,?_,h1,h1c⟩
 have:a.toList=[.string ⟨x.bS.toArray⟩,v1]:=by
  match hq:a.toList,hl,e0,e1 with
  |[p,q],_,e0,e1=>simp at e0 e1;rw[e0,e1]
 rw[←this]
end Go.Ab
namespace Go.Proofs.YtcfhnaohbaplhaaGreatDoor
open Go Go.Ab Go.RowKit
set_option maxHeartbeats 2000000 in
theorem Pf(x:aj)(hsz:x.sz≤67108864)(w:World)(σ:Nat→Nat)(hl:∀b,b<w.heap.size∨σ b=0)(hgl:sj w σ)(lv:Value)(hr:dK w σ (.sl (x.aY.map aj.enc)) lv)(hlv:lv.oneCell'=true):
 Calls Tryz.prog 48 #[.agg #[.string ⟨x.bS.toArray⟩,lv]] w fun e w'=>e=.returned (.string ⟨(wF x).toArray⟩)∧∃σ',Grow w σ w' σ'∧sj w' σ':=by
 obtain⟨wb,hwb⟩:∃wb,wb=w.alloc (.cells #[.string ⟨x.bS.toArray⟩,lv] 78):=⟨_,rfl⟩
 have hg0:Grow w σ wb σ:=by
  rw[hwb]
  refine⟨by simp,rfl,rfl,fun b hb=>⟨Lib.alloc_old w _ b hb,rfl⟩,fun b=> ?_⟩
  rcases hl b with h|h
  ·left;simp;omega
  ·exact .inr h
 have hrb:=dK.mono hg0.near hr
 have hv:nN wb σ [] [] [x.v] [.agg #[.string ⟨x.bS.toArray⟩,lv]]:=by
  refine⟨rfl,fun j y hy=> ?_⟩
  match j,hy with
  |0,hy=>
   simp at hy
   subst hy
   refine⟨_,rfl,?_⟩
   rw[←aj.ow,aj.aH]
   refine⟨_,rfl,rfl,fun j y hy=> ?_⟩
   match j,hy with
   |0,hy=>simp at hy;subst hy;exact⟨_,rfl,.s _,rfl⟩
   |1,hy=>simp at hy;subst hy;exact⟨_,rfl,hrb,hlv⟩
 have hc:=Sl (qh x hsz) hg0.live (hgl.near hg0.near) hv
 have hc:Calls Tryz.prog 118 #[.agg #[.string ⟨x.bS.toArray⟩,lv]] wb fun e w'=>e=.returned (.bool (gV x))∧∃σ',Grow wb σ w' σ'∧sj w' σ':=
  hc.mono fun e w' ⟨v,σ',he,Ju,hg,hgl⟩=>by
   obtain rfl:v=.bool (gV x):=by cases Ju.1;rfl
   exact⟨he,σ',hg,hgl⟩
 rw[hwb] at hc hg0
 have HF:Aside (wF x=if gV x=true then fO x else []):=rfl
 obtain⟨T,hT⟩:∃T,T=wF x:=⟨_,rfl⟩
 rw[←hT] at HF ⊢
 clear hT
 by_cases yU:gV x=true
 ·rw[if_pos yU] at HF
  rw[yU] at hc
  go_enter Tryz.func48,Tryz.ntmps48
  go_wp2_with (go_at_call 118;refine hc.mono ?_)
  rintro e w1 ⟨rfl,σ1,hg1,X4⟩
  have hlt:w.heap.size<(w.alloc (.cells #[.string ⟨x.bS.toArray⟩,lv] 78)).heap.size:=by simp
  have hq:w1.heap[w.heap.size]? =_:=(hg1.old _ hlt).1.trans (heap_alloc_new w _)
  have c0:w1.cell? ⟨w.heap.size,0,none⟩=some (.string ⟨x.bS.toArray⟩):=by rw[Lib.cell_of_heap hq];rfl
  have c1:w1.cell? ⟨w.heap.size,1,none⟩=some lv:=by rw[Lib.cell_of_heap hq];rfl
  have hlt1:w.heap.size<w1.heap.size:=Nat.lt_of_lt_of_le hlt hg1.size
  have hq1:=(Lib.alloc_old w1 (.cells #[.pointer none,.slice none 0 0] 156) _ hlt1).trans hq
  have d0:(w1.alloc (.cells #[.pointer none,.slice none 0 0] 156)).cell? ⟨w.heap.size,0,none⟩=some (.string ⟨x.bS.toArray⟩):=by rw[Lib.cell_of_heap hq1];rfl
  have d1:(w1.alloc (.cells #[.pointer none,.slice none 0 0] 156)).cell? ⟨w.heap.size,1,none⟩=some lv:=by rw[Lib.cell_of_heap hq1];rfl
  have hr1:dK w1 σ1 (.sl (x.aY.map aj.enc)) lv:=dK.mono (hg0.trans hg1).near hr
  have hbd:Lib.IsBuilderF 156 5 w1.heap.size w1.heap.size [] (w1.alloc (.cells #[.pointer none,.slice none 0 0] 156)):=
   .inl ⟨Nat.le_refl _,_,heap_alloc_new w1 _,⟨rfl,.inl ⟨rfl,rfl⟩⟩,by simp[Value.ownBlock]⟩
  have hW:=Gh w1 σ1 (x.sz+1) x (Nat.lt_succ_self _) w1.heap.size [] _ lv hr1 ((Below.refl _ w1).alloc (Nat.le_refl _) _) hbd (by
   have:=yT x
   simp only[List.length_nil];omega)
  clear hq hbd hq1
  go_wp2_with (go_at_call 119;refine hW.mono ?_)
  rintro e w2 ⟨rfl,h2,hb2,hk2⟩
  rw[List.nil_append] at h2
  have hT:=Gb w1.heap.size w1.heap.size (fO x) w2 h2 (X3 x)
  go_wp2_with (go_at_call 120;refine hT.mono ?_)
  rintro e w3 ⟨rfl,hb3⟩
  go_wp2
  go_ret
  rw[HF.out]
  have hb:Below w1.heap.size w1 w3:=(((Below.refl _ w1).alloc (Nat.le_refl _) _).trans hb2).trans hb3
  have hg3:Grow w1 σ1 w3 σ1:=⟨hb.size,hb.os,hb.output,fun k hk=>⟨hb.block k hk,rfl⟩,fun k=>(hg1.live k).elim (fun h=>.inl (Nat.lt_of_lt_of_le h hb.size)) .inr⟩
  exact⟨rfl,σ1,(hg0.trans hg1).trans hg3,X4.near hg3.near⟩
 ·rw[if_neg yU] at HF
  simp only[Bool.not_eq_true] at yU
  rw[yU] at hc
  go_enter Tryz.func48,Tryz.ntmps48
  go_wp2_with (go_at_call 118;refine hc.mono ?_;rintro e w1 ⟨rfl,σ1,hg1,X4⟩)
  go_ret
  rw[HF.out]
  exact⟨rfl,σ1,hg0.trans hg1,X4⟩
theorem Iw(x:aj)(hsz:x.sz≤67108864):aD Tryz.prog 48 [x.v] (.c (.d (.s (wF x)))):=fun S=>by
 refine⟨⟨_,Tryz.func48,by kernel_rfl,by kernel_rfl⟩,fun w σ β vs hS hv=> ?_⟩
 obtain⟨u,rfl,hu⟩:=X0 hv
 obtain⟨lv,rfl,hr,hlv⟩:=abB hu
 refine(Pf x hsz w σ hS.live hS.rO lv hr hlv).mono fun e w' ⟨he,σ',hg,_⟩=> ?_
 exact⟨_,.c (.d (.s (wF x))),S,σ',β,he,hS.grow hg,Keep.refl _ _,Step.lJ hg,⟨.s _,rfl⟩,rfl,rfl⟩
end Go.Proofs.YtcfhnaohbaplhaaGreatDoor
namespace Go.Ab
mutual
def uD:D→Nat
 | .sl es=>vM es+1
 | .ol _ _=>0
 | .b _=>0
 | .i _ _=>0
 | .s _=>0
 | .o _=>0
def uE:List D→Nat
 |[]=>0
 |d::ds=>uD d+uE ds
def vM:List (List D)→Nat
 |[]=>0
 |r::rs=>uE r+vM rs
end
mutual
def rR:D→Nat→D
 | .sl es,n=>.ol n (iY es (n+1))
 | .ol m es,_=>.ol m es
 | .b x,_=>.b x
 | .i k x,_=>.i k x
 | .s l,_=>.s l
 | .o v,_=>.o v
def kT:List D→Nat→List D
 |[],_=>[]
 |d::ds,n=>rR d n::kT ds (n+uD d)
def iY:List (List D)→Nat→List (List D)
 |[],_=>[]
 |r::rs,n=>kT r n::iY rs (n+uE r)
end
mutual
def o8:D→Bool
 | .sl es=>jB es
 | .ol _ _=>false
 | .b _=>true
 | .i _ _=>true
 | .s _=>true
 | .o _=>false
def jq:List D→Bool
 |[]=>true
 |d::ds=>o8 d&&jq ds
def jB:List (List D)→Bool
 |[]=>true
 |r::rs=>jq r&&jB rs
end
theorem Cn:∀a b n,iY (a++b) n=iY a n++iY b (n+vM a)
 |[],b,n=>by simp[iY,vM]
 |d::ds,b,n=>by rw[List.cons_append,iY,iY,Cn ds b,vM,Nat.add_assoc];rfl
theorem jA:∀r n,(kT r n).length=r.length
 |[],_=>rfl
 |d::ds,n=>by rw[kT,List.length_cons,jA ds,List.length_cons]
theorem uF:∀rs n,(iY rs n).length=rs.length
 |[],_=>rfl
 |r::rs,n=>by rw[iY,List.length_cons,uF rs,List.length_cons]
theorem Gy{z:Nat}:∀{rs:List (List D)} {n:Nat},(∀r∈rs,r.length=z)→∀r∈iY rs n,r.length=z
 |[],_,_,r,h=>by rw[iY] at h;cases h
 |a::rs,n,ha,r,h=>by
  rw[iY] at h
  rcases List.mem_cons.1 h with e|h
  ·rw[e,jA];exact ha a (by simp)
  ·exact Gy (fun r hr=>ha r (by simp[hr])) r h
theorem gL:∀a b,jq (a++b)=(jq a&&jq b)
 |[],b=>by simp[jq]
 |d::ds,b=>by rw[List.cons_append,jq,jq,gL ds b,Bool.and_assoc]
theorem j5{α:Type}{f:α→List D}:∀{xs:List α},(∀x∈xs,jq (f x)=true)→jB (xs.map f)=true
 |[],_=>rfl
 |x::xs,h=>by
  rw[List.map_cons,jB,h x (by simp),j5 fun y hy=>h y (by simp[hy])];rfl
section
variable {P:Program} {w:World} {σ σ':Nat→Nat} {S:Store} {β:Hs} {N:Nat} {s:St}
mutual
theorem abC:∀(d:D) (n:Nat) (v:Value),dK w σ (rR d n) v→dK w σ d v
 | .sl es,n,v,h=>by
   rw[rR] at h
   have hl:=uF es (n+1)
   have hrec:=Y4 es (n+1)
   generalize iY es (n+1)=q at h hl hrec
   cases h with
   |wC n a cap=>
    have:es=[]:=List.eq_nil_of_length_eq_zero (by simpa using hl.symm)
    subst this
    exact .nil a cap
   |ol n b off cap bn q vals c t hcap hlen hb hσ hfit hc hv=>
    obtain⟨r1,r2⟩:=hrec vals hv
    rw[hl] at hcap hfit hc ⊢
    refine .sl b off cap bn es vals c t (0,0) hcap (fun e he=> ?_) hb (by omega) hc r2
    obtain⟨e',h1,h2⟩:=r1 e he
    rw[←h2];exact hlen e' h1
 | .ol m es,n,v,h=>h
 | .b x,n,v,h=>h
 | .i k x,n,v,h=>h
 | .s l,n,v,h=>h
 | .o u,n,v,h=>h
theorem abD:∀(r:List D) (n:Nat) (vals:Nat→Value),(∀j d,(kT r n)[j]? =some d→dK w σ d (vals j))→∀(j:Nat) d,r[j]? =some d→dK w σ d (vals j)
 |[],n,vals,h,j,d,hd=>by simp at hd
 |a::r,n,vals,h,j,d,hd=>by
  cases j with
  |zero=>
   simp at hd;subst hd
   exact abC a n _ (h 0 _ rfl)
  |succ j=>exact abD r (n+uD a) (fun i=>vals (i+1)) (fun i d hi=>h (i+1) d (by rw[kT];exact hi)) j d hd
theorem Y4:∀(rs:List (List D)) (n:Nat) (vals:Nat→Value),(∀j d,(iY rs n).flatten[j]? =some d→dK w σ d (vals j))→
 (∀e∈rs,∃e'∈iY rs n,e'.length=e.length)∧∀(j:Nat) d,rs.flatten[j]? =some d→dK w σ d (vals j)
 |[],n,vals,h=>⟨fun e he=>(by cases he),fun j d hd=>(by simp at hd)⟩
 |r::rs,n,vals,h=>by
  rw[iY,List.flatten_cons] at h
  have h1:=abD r n vals fun j d hd=>h j d (by rw[List.getElem?_append_left (List.getElem?_eq_some_iff.1 hd).1];exact hd)
  obtain⟨h2,h3⟩:=Y4 rs (n+uE r) (fun i=>vals (r.length+i)) fun j d hd=>h (r.length+j) d (by rw[List.getElem?_append_right (by rw[jA];omega),jA,Nat.add_sub_cancel_left];exact hd)
  refine⟨fun e he=> ?_,fun j d hd=> ?_⟩
  ·rcases List.mem_cons.1 he with e1|he
   ·subst e1;exact⟨_,by rw[iY];exact List.mem_cons_self ..,jA _ _⟩
   ·obtain⟨e',q1,q2⟩:=h2 e he
    exact⟨e',by rw[iY];exact List.mem_cons_of_mem _ q1,q2⟩
  ·rw[List.flatten_cons] at hd
   by_cases hj:j<r.length
   ·rw[List.getElem?_append_left hj] at hd;exact h1 j d hd
   ·rw[List.getElem?_append_right (by omega)] at hd
    have:=h3 (j-r.length) d hd
    rwa [show r.length+(j-r.length)=j by omega] at this
end
theorem Nk{r:List D}{n:Nat}:Less (.agg ((kT r n).map .d)) (.agg (r.map .d)):=by
 rintro w σ S β v ⟨a,ha,hl,hc⟩
 rw[List.length_map,jA] at hl
 refine⟨a,ha,by rw[List.length_map];exact hl,?_⟩
 have key:∀(r:List D) (n:Nat) (vs:List Value),(∀(j:Nat) (x:C),((kT r n).map C.d)[j]? =some x→∃v:Value,vs[j]? =some v∧je w σ S β x v∧v.oneCell'=true)→
  ∀(j:Nat) (x:C),(r.map C.d)[j]? =some x→∃v:Value,vs[j]? =some v∧je w σ S β x v∧v.oneCell'=true:=by
  intro r
  induction r with
  |nil=>intro n vs h j x hx;simp at hx
  |cons d ds ih=>
   intro n vs h j x hx
   cases j with
   |zero=>
    simp at hx;subst hx
    obtain⟨v,h1,h2,h3⟩:=h 0 (.d (rR d n)) rfl
    exact⟨v,h1,abC d n v h2,h3⟩
   |succ j=>
    have:=ih (n+uD d) vs.tail (fun i y hy=>by
     obtain⟨v,h1,h2⟩:=h (i+1) y (by rw[kT,List.map_cons];exact hy)
     refine⟨v,?_,h2⟩
     cases vs with
     |nil=>simp at h1
     |cons a b=>exact h1) j x hx
    obtain⟨v,h1,h2⟩:=this
    refine⟨v,?_,h2⟩
    cases vs with
    |nil=>simp at h1
    |cons a b=>exact h1
 exact key r n _ hc
inductive qj:List V→List V→Prop
 |nil:qj [] []
 |cons {x y:V} {xs ys:List V}:Less x y→qj xs ys→qj (x::xs) (y::ys)
theorem qj.length:∀{xs ys:List V},qj xs ys→xs.length=ys.length
 |_,_,.nil=>rfl
 |_,_,.cons _ h=>by rw[List.length_cons,List.length_cons,qj.length h]
theorem qj.at:∀{xs ys:List V},qj xs ys→∀(j:Nat) (x y:V),xs[j]? =some x→ys[j]? =some y→Less x y
 |_,_,.nil,j,x,y,h,_=>by simp at h
 |_,_,.cons a h,0,x,y,h1,h2=>by simp at h1 h2;subst h1;subst h2;exact a
 |_,_,.cons a h,j+1,x,y,h1,h2=>qj.at h j x y (by simpa using h1) (by simpa using h2)
theorem aD.args{f:FuncId}{args args':List V}{r:V}(h:aD P f args' r)(hl:qj args args'):aD P f args r:=fun S=>(h S).weaken hl.length fun j x y hx hy w σ β v hr=>hl.at j x y hx hy w σ S β v hr
theorem nK{dr:Option Nat}{f:FuncId}{args args':List V}{dst:Option Nat}{K:St→Prop}{r:V}(h:aD P f args' r)(hl:qj (args.map V.oI) args')(hK:K (s.put dst r)):dX P dr f args s dst K:=bN (h.args hl) hK
def X5(row:Bool)(j n:Nat)(es:List (List D))(tm:List (Nat×V)):List (Nat×V):=tm.map fun x=>(x.1,x.2.jV (C.lab row j n es))
theorem Vq{row:Bool}{j n:Nat}{es:List (List D)}{tm:List (Nat×V)}{t:Nat}:look (X5 row j n es tm) t=(look tm t).jV (C.lab row j n es):=Am (f:=V.jV (C.lab row j n es)) rfl tm t
def Sm(j n:Nat)(tm:List (Nat×V))(own:List Obj)(Ω:Store):Option Obj→St
 |some (.eT _ es)=>⟨X5 true j n es tm,(own.map (Obj.jV (C.lab true j n es))).set j .dead::Ω⟩
 |some (.eB m _ es)=>⟨X5 false j m es tm,(own.map (Obj.jV (C.lab false j m es))).set j .dead::Ω⟩
 |_=>⟨tm,own::Ω⟩
def K9(j n:Nat)(s:St):St:=
 match s.st with
 |own::Ω=>Sm j n s.tm own Ω (own[j]?)
 |[]=>s
def Gz:Nat→Nat→St→St
 |0,_,s=>s
 |k+1,n,s=>Gz k n (K9 k n s)
def zQ(n:Nat)(s:St):St:=
 match s.st with
 |own::_=>Gz own.length n s
 |[]=>s
theorem D7(j n:Nat)(s:St):gJ N s (K9 j n s):=by
 obtain⟨tm,st⟩:=s
 cases st with
 |nil=>exact gJ.refl _ _
 |cons own Ω=>
  show gJ N ⟨tm,own::Ω⟩ (Sm j n tm own Ω (own[j]?))
  cases ho:own[j]? with
  |none=>exact gJ.refl _ _
  |some o=>
   cases o with
   |eT z es=>exact fun a w σ β hR=>Qh j n z es true ho hR
   |eB m z es=>exact fun a w σ β hR=>Qh j m z es false ho hR
   |_=>exact gJ.refl _ _
theorem D8:∀(k n:Nat) (s:St),gJ N s (Gz k n s)
 |0,n,s=>gJ.refl _ _
 |k+1,n,s=>(D7 k n s).trans (D8 k n _)
theorem yx(n:Nat)(s:St):gJ N s (zQ n s):=by
 unfold zQ
 split
 ·exact D8 _ _ _
 ·exact gJ.refl _ _
theorem X6{j n:Nat}{tm:List (Nat×V)}{own:List Obj}{Ω:Store}:K9 j n ⟨tm,own::Ω⟩=Sm j n tm own Ω (own[j]?):=rfl
theorem Vr{n:Nat}{tm:List (Nat×V)}{own:List Obj}{Ω:Store}:zQ n ⟨tm,own::Ω⟩=Gz own.length n ⟨tm,own::Ω⟩:=rfl
def Nl(P:Program)(n:Nat)(rs:List ResultVar)(post:V→Store→Prop)(e:Exit)(s:St):Prop:=Wl P rs post e (zQ n s)
theorem X7{n:Nat}{rs:List ResultVar}{post:V→Store→Prop}:Nl P n rs post .ret s=MI P rs post (zQ n s):=rfl
theorem Pg{n:Nat}{rs:List ResultVar}{post:V→Store→Prop}:Nl P n rs post .normal s=MI P rs post (zQ n s):=rfl
theorem yV(n:Nat){f:FuncId}{fn:Func}{c:Code}{args:List V}{post:V→Store→Prop}{rs:List ResultVar}(jv:P.follows .mixedOrders=true)(hf:P.funcs[f]? =some fn)(hN:fn.ntmps=N)
 (hb:fn.body=some c) (hn:(fn.name== "runtime.NumGoroutine")=false) (hr:fn.results.toList=rs) (hl:Nat.ble args.length N=true) (hok:codeOk N c=true)
 (h:CW P N c (Nl P n rs post) ⟨nV (args.map (V.up 1)) 0,[.seed n]::S⟩):dG P f args S post:=by
 subst hN
 subst hr
 exact vF hf hb hn (Nat.le_of_ble_eq_true hl) (Ib n (xW (yx n) (lN jv c _ _ hok h)))
theorem X8{row:Bool}{j n l i:Nat}{es es':List (List D)}:C.lab row j n es (.bI (1+l,i) es')=.bI (1+l,i) es':=by rw[Nat.add_comm];rfl
theorem X9{row:Bool}{j n i:Nat}{es es':List (List D)}:C.lab row j n es (.bI (0,i) es')=if i=j∧row=false∧es'.length=es.length then .d (.ol n es) else .bI (0,i) es':=rfl
theorem Ya{row:Bool}{j n l i:Nat}{es:List (List D)}:C.lab row j n es (.jd (1+l,i))=.jd (1+l,i):=by rw[Nat.add_comm];rfl
theorem Yb{row:Bool}{j n i:Nat}{es:List (List D)}:C.lab row j n es (.jd (0,i))=if i=j∧row=true then .d (.ol n es) else .jd (0,i):=rfl
theorem adR{row:Bool}{j n:Nat}{es:List (List D)}{x:D}:C.lab row j n es (.d x)=.d x:=rfl
theorem Z8{row:Bool}{j n:Nat}{es:List (List D)}:C.lab row j n es .any=.any:=rfl
theorem Z9{row:Bool}{j n:Nat}{es es':List (List D)}:C.lab row j n es (.bC es')=.bC es':=rfl
theorem aac{row:Bool}{j n m:Nat}{es es':List (List D)}:C.lab row j n es (.kg m es')=.kg m es':=rfl
theorem aad{row:Bool}{j n off:Nat}{es:List (List D)}{k:Key}:C.lab row j n es (.ptr k off)=.ptr k off:=rfl
theorem abE{row:Bool}{j n f:Nat}{es:List (List D)}{caps:List (Key×Nat)}:C.lab row j n es (.fn f caps)=.fn f caps:=rfl
theorem Yc{row:Bool}{j n:Nat}{es:List (List D)}{cs:List D}:C.lab row j n es (.kH cs)=.kH cs:=rfl
theorem jf{ι:Type}{ts:List Nat}{f:ι→List V}{g:ι→Store}{p:ι→Prop}{μ:ι→Nat}{i:ι}{tm:List (Nat×V)}{own:List Obj}{Ω:Store}{m:Nat}(m' n:Nat)(hnd:ts.Nodup)(j:ι)(h1:μ j<μ i)(h2:ts.map (look tm)=f j)(h3:(Obj.seed m'::own.take n)::Ω=g j)
 (hr:gG (n+1) (fH ts (f j))=true) (ho:(own.take n).all (Obj.refs (n+1))=true) (h4:p j):Inv N ts f g p μ i ⟨tm,(.seed m::own)::Ω⟩:=by
 refine⟨j,⟨fH ts (f j),(.seed m'::own.take n)::Ω⟩,h1,?_,?_,h3,h4⟩
 ·have hg:gJ N ⟨tm,(.seed m::own)::Ω⟩ ⟨fH ts (f j),(.seed m::own)::Ω⟩:=by
   rw[←h2]
   exact Em fun t=>xZ _ ts t
  refine hg.trans ((FI (n+1) hr ?_).trans (xV m'))
  rw[List.take_succ_cons,List.all_cons,ho];rfl
 ·exact x9 ts (f j) hnd (by rw[←h2];simp)
end
attribute [go_sem ↓] X7 Pg Vr
attribute [go_sem] Gz X6 Sm Vq V.jV Obj.jV X8 X9 Ya Yb adR Z8 Z9 aac aad abE Yc
end Go.Ab
namespace Go.Ab
def Y5(k:Key):Nat→List (List D)→V
 |0,_=>.c (.bC [])
 |_+1,es=>.c (.bI k es)
def Y6(z:Nat):Nat→List (List D)→List Obj
 |0,_=>[]
 |_+1,es=>[.tok z es]
theorem jg(k:Key)(es:List (List D)):Y5 k 0 es=.c (.bC []):=rfl
theorem gY(k:Key)(n:Nat)(es:List (List D)):Y5 k (n+1) es=.c (.bI k es):=rfl
theorem jh(z:Nat)(es:List (List D)):Y6 z 0 es=[]:=rfl
theorem gZ(z n:Nat)(es:List (List D)):Y6 z (n+1) es=[.tok z es]:=rfl
end Go.Ab
namespace Go.Proofs.YtcfhnaohbaplhaaGreatDoor
open Go Go.Ab
theorem Qo(xs:List (List UInt8))(b:List UInt8)(hl:xs.length≤1073741824)(hf:(d9 b xs).length≤1073741824)(hp:∀i,(d9 b (xs.take i)).length≤(d9 b xs).length):aD Tryz.prog 70 [.c (.d (.sl (xs.map encS))),.c (.d (.s b))] (.c (.d (.s (d9 b xs)))):=fun S=>by
 refine aB (rs:=[.tmp 4]) Tryz.checked.mixed Tryz.func70 Tryz.ntmps70 rfl rfl rfl rfl rfl ?_
 refine W1 ?_
 refine aR (ι:=Nat) Tryz.checked.mixed rfl [0,1,5,6] (fun i=>[.c (.d (.sl (xs.map encS))),.c (.d (.s b)),Y5 (0,0) i (oh (d9 b (xs.take i))),.c (.d (.i .i64 i))]) (fun i=>Y6 1 i (oh (d9 b (xs.take i)))::S)
  (fun i=>i≤xs.length) (fun i=>xs.length-i) 0 rfl rfl (Nat.zero_le _) ?_
 rintro i p1
 have hi1:=hp (i+1)
 by_cases hi:i<xs.length
 ·have hst:=xg b xs i hi
  cases i with
  |zero=>
   simp -implicitDefEqProofs (disch:=omega) only[go_sem,jg,gY,jh,gZ]
   with_reducible refine eY (fun hb=> ?_) (fun hb=> ?_)<;>have h:=hb<;>(try simp only[wf_preprocess] at h)<;>simp -implicitDefEqProofs (disch:=omega) only[go_sem,hb,jg,gY,jh,gZ]<;>refine W3 ?_
   ·refine W3 ?_
    with_reducible refine eY (fun hb=> ?_) (fun hb=> ?_)<;>have h:=hb<;>(try simp only[wf_preprocess] at h)<;>simp -implicitDefEqProofs (disch:=omega) only[go_sem,hb,jg,gY,jh,gZ]<;>refine W3 ?_
    ·omega
    ·have e:oh (d9 b (xs.take (0+1)))=xs[0].map (fun b=>[D.i .u8 b.toNat]):=by rw[hst,if_pos rfl];rfl
     rw[hst,if_pos rfl] at hi1
     exact⟨by omega,bF (0+1) (by omega) (by rw[gY,e];rfl) (by rw[gZ,e]) (by omega)⟩
   ·omega
  |succ j=>
   simp -implicitDefEqProofs (disch:=omega) only[go_sem,jg,gY,jh,gZ]
   with_reducible refine eY (fun hb=> ?_) (fun hb=> ?_)<;>have h:=hb<;>(try simp only[wf_preprocess] at h)<;>simp -implicitDefEqProofs (disch:=omega) only[go_sem,hb,jg,gY,jh,gZ]<;>refine W3 ?_
   ·refine W3 ?_
    with_reducible refine eY (fun hb=> ?_) (fun hb=> ?_)<;>have h:=hb<;>(try simp only[wf_preprocess] at h)<;>simp -implicitDefEqProofs (disch:=omega) only[go_sem,hb,jg,gY,jh,gZ]<;>refine W3 ?_
    ·have e:oh (d9 b (xs.take (j+1+1)))=oh (d9 b (xs.take (j+1)))++b.map (fun b=>[D.i .u8 b.toNat])++xs[j+1].map (fun b=>[D.i .u8 b.toNat]):=by
      rw[hst,if_neg (by omega),Bl,Bl];rfl
     rw[hst,if_neg (by omega)] at hi1
     simp only[List.length_append] at hi1
     refine⟨by rw[Bn];omega,⟨by omega,hi⟩,fun y hy=> ?_,⟨_,rfl,rfl⟩,by rw[List.length_append,List.length_map,Bn];omega,?_⟩
     ·obtain⟨z,_,rfl⟩:=List.mem_map.1 hy
      rfl
     ·exact bF (j+1+1) (by omega) (by rw[gY,e];rfl) (by rw[gZ,e]) (by omega)
    ·omega
   ·omega
 ·have hi:i=xs.length:=by omega
  cases i with
  |zero=>
   simp -implicitDefEqProofs (disch:=omega) only[go_sem,jg,gY,jh,gZ]
   with_reducible refine eY (fun hb=> ?_) (fun hb=> ?_)<;>have h:=hb<;>(try simp only[wf_preprocess] at h)<;>simp -implicitDefEqProofs (disch:=omega) only[go_sem,hb,jg,gY,jh,gZ]<;>refine W3 ?_
   ·omega
   ·rw[List.eq_nil_of_length_eq_zero hi.symm];rfl
  |succ j=>
   simp -implicitDefEqProofs (disch:=omega) only[go_sem,jg,gY,jh,gZ]
   with_reducible refine eY (fun hb=> ?_) (fun hb=> ?_)<;>have h:=hb<;>(try simp only[wf_preprocess] at h)<;>simp -implicitDefEqProofs (disch:=omega) only[go_sem,hb,jg,gY,jh,gZ]<;>refine W3 ?_
   ·omega
   ·refine⟨fun y hy=>R7 _ y hy,?_⟩
    rw[O6,hi,List.take_length]
theorem GA:∀n:Nat,∀x:aj,SizeOf.sizeOf x<n→x.sz≤67108864→aD Tryz.prog 111 [x.v] (.c (.d (.s (fO x))))
 |0=>fun x h=>by omega
 |n+1=>by
  have ih:=GA n
  intro x hn hsz S
  have ht:=Nb x
  have hln:=yT x
  have hts:=yw hsz
  have hll:x.aY.length≤67108864:=by
   have h2:=rG x
   omega
  have hE:∀i (hi:i<x.aY.length),(((x.aY.take (i+1)).map fO).map encS)=((x.aY.take i).map fO).map encS++[[.s (fO x.aY[i])]]:=fun i hi=>by
   rw[List.take_succ_eq_append_getElem hi,List.map_append,List.map_append];rfl
  refine aB (rs:=[.tmp 2]) Tryz.checked.mixed Tryz.func111 Tryz.ntmps111 rfl rfl rfl rfl rfl ?_
  refine W1 ?_
  refine S0 (fun hb h=>?_) fun hb h=>?_
  ·rw[ht,if_neg (by simpa using h)]
  ·rw[if_pos (by simpa using h)] at ht
   have hf:(d9 [32] (x.aY.map fO)).length≤1073741824:=by
    rw[ht] at hln
    simp only[List.length_append,List.length_cons,List.length_nil] at hln
    omega
   have hj:=Qo (x.aY.map fO) [32] (by rw[List.length_map];omega) hf (xk _ _)
   refine aR (ι:=Nat) Tryz.checked.mixed rfl [1,3,4] (fun i=>[.c (.ptr (0,0) 0),Y5 (0,1) i (((x.aY.take i).map fO).map encS),.c (.d (.i .i64 i))]) (fun i=>(.box [.d (.s x.bS),.d (.sl (x.aY.map aj.enc))]::Y6 1 i (((x.aY.take i).map fO).map encS))::S)
    (fun i=>i≤x.aY.length) (fun i=>x.aY.length-i) 0 rfl rfl (Nat.zero_le _) ?_
   rintro i p1
   by_cases hi:i<x.aY.length
   ·have hsz':=u7 hi hsz
    have he:=hE i hi
    have hl:=aj.Dg hi
    cases i with
    |zero=>
     simp -implicitDefEqProofs (disch:=omega) only[go_sem,jg,gY,jh,gZ]
     with_reducible refine eY (fun hb=> ?_) (fun hb=> ?_)<;>have h:=hb<;>(try simp only[wf_preprocess] at h)<;>simp -implicitDefEqProofs (disch:=omega) only[go_sem,hb,jg,gY,jh,gZ]<;>refine W3 ?_
     ·refine W3 ?_
      refine C2 (ih x.aY[0] (by omega) hsz'.1) ?_
      exact bF (0+1) (by omega) (by rw[gY,he];rfl) (by rw[gZ,he];rfl) (by omega)
     ·omega
    |succ j=>
     simp -implicitDefEqProofs (disch:=omega) only[go_sem,jg,gY,jh,gZ]
     with_reducible refine eY (fun hb=> ?_) (fun hb=> ?_)<;>have h:=hb<;>(try simp only[wf_preprocess] at h)<;>simp -implicitDefEqProofs (disch:=omega) only[go_sem,hb,jg,gY,jh,gZ]<;>refine W3 ?_
     ·refine W3 ?_
      refine C2 (ih x.aY[j+1] (by omega) hsz'.1) ?_
      exact bF (j+1+1) (by omega) (by rw[gY,he];rfl) (by rw[gZ,he]) (by omega)
     ·omega
   ·have hi:i=x.aY.length:=by omega
    cases i with
    |zero=>
     simp -implicitDefEqProofs (disch:=omega) only[go_sem,jg,gY,jh,gZ]
     with_reducible refine eY (fun hb=> ?_) (fun hb=> ?_)<;>have h:=hb<;>(try simp only[wf_preprocess] at h)<;>simp -implicitDefEqProofs (disch:=omega) only[go_sem,hb,jg,gY,jh,gZ]<;>refine W3 ?_
     ·omega
     ·rw[List.eq_nil_of_length_eq_zero hi.symm] at ht hj
      refine nK hj (.cons (by exact Less.refl _) (.cons (Less.refl _) .nil)) ?_
      refine W1 ?_
      exact⟨by decide,by decide,by rw[ht];rfl⟩
    |succ j=>
     simp -implicitDefEqProofs (disch:=omega) only[go_sem,jg,gY,jh,gZ]
     with_reducible refine eY (fun hb=> ?_) (fun hb=> ?_)<;>have h:=hb<;>(try simp only[wf_preprocess] at h)<;>simp -implicitDefEqProofs (disch:=omega) only[go_sem,hb,jg,gY,jh,gZ]<;>refine W3 ?_
     ·omega
     ·rw[hi,List.take_length]
      refine nK hj (.cons (by exact Less.refl _) (.cons (Less.refl _) .nil)) ?_
      refine W1 ?_
      exact⟨by omega,by omega,by rw[ht];rfl⟩
theorem Vs(x:aj)(hsz:x.sz≤67108864):aD Tryz.prog 111 [x.v] (.c (.d (.s (fO x)))):=GA _ x (Nat.lt_succ_self _) hsz
theorem Iy(x:aj)(hsz:x.sz≤67108864):aD Tryz.prog 42 [x.v] (.c (.d (.s (wF x)))):=fun S=>by
 refine aB (rs:=[.tmp 2]) Tryz.checked.mixed Tryz.func42 Tryz.ntmps42 rfl rfl rfl rfl rfl ?_
 refine W1 ?_
 refine C2 (wG x hsz) ?_
 refine S0 (fun hb h=>?_) fun hb h=>?_
 ·rw[wF,if_neg (by simpa using h)]
 ·refine C2 (Vs x hsz) ?_
  rw[wF,if_pos (by simpa using h)]
end Go.Proofs.YtcfhnaohbaplhaaGreatDoor
namespace Go.Ab
def Sn:List UInt8:=[116,114,117,101]
def Nn:List UInt8:=[102,97,108,115,101]
def yX:List UInt8:=[99,97,108,108]
def sZ:List UInt8:=[109,101,116,104,111,100]
def Co:List UInt8:=[110,101,119]
def pW:List UInt8:=[99,97,115,101]
def Cq:List UInt8:=[108,101,116]
def JV:List UInt8:=[105,102]
def yY:List UInt8:=[112,97,99,107]
def Ey:List UInt8:=[116,104,101]
def jC(k:Int)(tr nm:List UInt8)(ty:ah):List aj:=
 if k=4 then aU [yX,nm] else if k=5 then aU [sZ,tr,nm] else if k=6 then aU [Co,nm] else if k=8 then aU [Cq,nm] else
 if k=9 then aU [JV] else if k=10 then aU [nm] else if k=11 then aU [yY,tr] else if k=12 then [bO Ey,cK ty] else aU [pW]
mutual
def eH:au→aj
 | .mk k tr nm n ty zs ms=>if k=1 then bO (Lib.itoa n) else if k=2 then bO (if n=1 then Sn else Nn) else if k=3 then bO nm else
   bR (jC k tr nm ty++Ez zs++(if k=4∨k=5∨k=6∨k=8∨k=9∨k=10∨k=11∨k=12 then [] else EA ms))
def Ez:List au→List aj
 |[]=>[]
 |t::ts=>eH t::Ez ts
def wM:aX→aj
 | .mk c vs b=>bR ([bO c]++aU vs++[eH b])
def EA:List aX→List aj
 |[]=>[]
 |t::ts=>wM t::EA ts
end
theorem AP:∀l,Ez l=l.map eH
 |[]=>rfl
 |t::ts=>by rw[Ez,List.map_cons,AP ts]
theorem AQ:∀l,EA l=l.map wM
 |[]=>rfl
 |t::ts=>by rw[EA,List.map_cons,AQ ts]
theorem Cr(x:au):eH x=if x.aV=1 then bO (Lib.itoa x.fN) else if x.aV=2 then bO (if x.fN=1 then Sn else Nn) else if x.aV=3 then bO x.fName else
 bR (jC x.aV x.bJ x.fName x.fType++x.fArgs.map eH++(if x.aV=4∨x.aV=5∨x.aV=6∨x.aV=8∨x.aV=9∨x.aV=10∨x.aV=11∨x.aV=12 then [] else x.aW.map wM)):=by
 cases x;rw[eH,AP,AQ];rfl
theorem Vt(x:aX):wM x=bR ([bO x.dx]++aU x.aF++[eH x.fBody]):=by cases x;rw[wM];rfl
def Np:List au→Nat
 |[]=>0
 |x::xs=>x.sz+Np xs
theorem EB:∀l,aI (l.map au.enc)=Np l
 |[]=>rfl
 |x::xs=>by rw[List.map_cons,aI,Np,EB xs];rfl
def Nq:List aX→Nat
 |[]=>0
 |x::xs=>x.sz+Nq xs
theorem EC:∀l,aI (l.map aX.enc)=Nq l
 |[]=>rfl
 |x::xs=>by rw[List.map_cons,aI,Nq,EC xs];rfl
theorem ED(x:au):x.sz=x.bJ.length+x.fName.length+x.fType.sz+(x.fArgs.length+Np x.fArgs)+(x.aW.length+Nq x.aW):=by
 rw[←EB,←EC];simp only[au.sz,au.aH,bH,bf,D.sz,List.length_map,ah.cZ];omega
theorem Ct(x:aX):x.sz=x.dx.length+(x.aF.length+(x.aF.map List.length).sum)+x.fBody.sz:=by
 rw[←dD];simp only[aX.sz,aX.aH,bH,bf,D.sz,List.length_map,au.cZ];omega
theorem Dh:∀(k n:Nat),n<10^ (k+1)→(Lib.decDigits n).length≤k+1
 |0,n,h=>by rw[Lib.decDigits,dif_pos (by simpa using h)];simp
 |k+1,n,h=>by
  rw[Lib.decDigits]
  split
  ·simp
  ·rw[List.length_append]
   have:=Dh k (n/10) (by rw[Nat.pow_succ] at h;omega)
   simp;omega
theorem Yd{n:Int}(h: -999999≤n∧n≤999999):(Lib.itoa n).length≤7:=by
 unfold Lib.itoa
 split
 ·have:=Dh 5 n.natAbs (by omega)
  simp;omega
 ·have:=Dh 5 n.toNat (by omega)
  omega
theorem Vu(k:Int)(tr nm:List UInt8)(ty:ah):(jC k tr nm ty).length≤3∧fB (jC k tr nm ty)≤18+tr.length+nm.length+16*ty.sz:=by
 have h:=wh ty
 unfold jC
 repeat' (first|(split;·refine⟨by simp[aU],?_⟩;simp[fB,aU,iR,yX,sZ,Co,Cq,JV,yY,Ey,pW];omega))
 refine⟨by simp[aU],?_⟩;simp[fB,aU,iR,pW];omega
mutual
theorem Cu:∀x:au,gW x=true→(eH x).sz≤24+32*x.sz
 | .mk k tr nm n ty zs ms=>fun hok=>by
   rw[gW,Bool.and_eq_true,Bool.and_eq_true] at hok
   have hf:=iO hok.1
   have h1:=Qp zs hok.2.1
   have h2:=Qq ms hok.2.2
   have h3:=Vu k tr nm ty
   rw[ED]
   simp only[au.fName,au.fArgs,au.bJ,au.fType,au.aW]
   rw[eH]
   split
   ·rename_i hk
    have h4:=hf.2.2.2.1
    simp only[au.aV,au.fN,hk,if_true] at h4
    have:=Yd h4
    rw[iR];omega
   ·split
    ·rw[iR];split<;>simp[Sn,Nn]<;>omega
    ·split
     ·rw[iR];omega
     ·rw[iL,gK,gK,List.length_append,List.length_append,AP,List.length_map,←AP]
      split
      ·simp[fB];omega
      ·rw[AQ,List.length_map,←AQ];omega
theorem Qp:∀xs:List au,kX xs=true→fB (Ez xs)≤24*xs.length+32*Np xs
 |[],_=>by simp[Ez,fB]
 |x::xs,h=>by
  rw[kX,Bool.and_eq_true] at h
  have h1:=Cu x h.1
  have h2:=Qp xs h.2
  rw[Ez,fB,Np,List.length_cons];omega
theorem abF:∀x:aX,uz x=true→(wM x).sz≤26+32*x.sz
 | .mk c vs b=>fun hok=>by
   rw[uz,Bool.and_eq_true,Bool.and_eq_true] at hok
   have h1:=Cu b hok.2.2
   rw[Ct]
   simp only[aX.dx,aX.aF,aX.fBody]
   rw[wM,iL,gK,gK,List.length_append,List.length_append,iH,ny]
   simp[fB,iR];omega
theorem Qq:∀xs:List aX,nJ xs=true→fB (EA xs)≤26*xs.length+32*Nq xs
 |[],_=>by simp[EA,fB]
 |x::xs,h=>by
  rw[nJ,Bool.and_eq_true] at h
  have h1:=abF x h.1
  have h2:=Qq xs h.2
  rw[EA,fB,Nq,List.length_cons];omega
end
end Go.Ab
namespace Go.Ab
section
variable {P:Program} {N:Nat} {S:Store} {s:St} {tm:List (Nat×V)}
def Di(E:Md)(R:Array Oper)(K:St→Prop)(s:St):Prop:=K4 E R s.tm=true∧K s
@[congr] theorem acj {E:Md} {R:Array Oper} {K:St→Prop} {s s':St} (h2:s=s'):Di E R K s=Di E R K s':=by rw[h2]
def wN(P:Program)(N:Nat):Code→(Exit→St→Prop)→St→Prop
 | .seq x y,Q,s=>wN P N x (lF (wN P N y Q) Q) s
 | .region _ R true,Q,s=>qF P (vU R N) R R.toList s (Di (vU R N) R (Q .normal))
 | .region id R false,Q,s=>CW P N (.region id R false) Q s
 | .cond c x y,Q,s=>CW P N (.cond c x y) Q s
 | .block id c,Q,s=>CW P N (.block id c) Q s
 | .exit id,Q,s=>CW P N (.exit id) Q s
 | .ret,Q,s=>CW P N .ret Q s
 | .skip,Q,s=>CW P N .skip Q s
 | .loop c,Q,s=>CW P N (.loop c) Q s
 |_,_,_=>False
theorem aae{x y:Code}{Q:Exit→St→Prop}:wN P N (.seq x y) Q s=wN P N x (lF (wN P N y Q) Q) s:=by rw[wN]
theorem Ye{id:Nat}{l:List Oper}{Q:Exit→St→Prop}:wN P N (.region id ⟨l⟩ true) Q s=qF P (vU ⟨l⟩ N) ⟨l⟩ l s (Di (vU ⟨l⟩ N) ⟨l⟩ (Q .normal)):=by rw[wN]
theorem Sq{id:Nat}{l:List Oper}{Q:Exit→St→Prop}:wN P N (.region id ⟨l⟩ false) Q s=CW P N (.region id ⟨l⟩ false) Q s:=by rw[wN]
theorem Yf{c:Operand}{x y:Code}{Q:Exit→St→Prop}:wN P N (.cond c x y) Q s=CW P N (.cond c x y) Q s:=by rw[wN]
theorem aaf{Q:Exit→St→Prop}:wN P N .ret Q s=CW P N .ret Q s:=by rw[wN]
theorem Yg{Q:Exit→St→Prop}:wN P N .skip Q s=CW P N .skip Q s:=by rw[wN]
end
attribute [go_sem ↓] aae Ye Sq Yf aaf Yg
end Go.Ab
namespace Go.Ab
section
variable {P:Program} {N:Nat} {S:Store} {s:St} {tm:List (Nat×V)}
def oJ(P:Program)(N:Nat):Code→(Exit→St→Prop)→St→Prop
 | .seq x y,Q,s=>oJ P N x (lF (oJ P N y Q) Q) s
 | .region _ R true,Q,s=>qF P (vU R N) R R.toList s (Di (vU R N) R (Q .normal))
 | .region id R false,Q,s=>CW P N (.region id R false) Q s
 | .cond c x y,Q,s=>Dc (ev s.tm c) (oJ P N x Q) (oJ P N y Q) s
 | .block id c,Q,s=>oJ P N c (wX id Q) s
 | .exit id,Q,s=>CW P N (.exit id) Q s
 | .ret,Q,s=>CW P N .ret Q s
 | .skip,Q,s=>CW P N .skip Q s
 | .loop c,Q,s=>CW P N (.loop c) Q s
 |_,_,_=>False
theorem aag{x y:Code}{Q:Exit→St→Prop}:oJ P N (.seq x y) Q s=oJ P N x (lF (oJ P N y Q) Q) s:=by rw[oJ]
theorem Yh{id:Nat}{l:List Oper}{Q:Exit→St→Prop}:oJ P N (.region id ⟨l⟩ true) Q s=qF P (vU ⟨l⟩ N) ⟨l⟩ l s (Di (vU ⟨l⟩ N) ⟨l⟩ (Q .normal)):=by rw[oJ]
theorem Sr{id:Nat}{l:List Oper}{Q:Exit→St→Prop}:oJ P N (.region id ⟨l⟩ false) Q s=CW P N (.region id ⟨l⟩ false) Q s:=by rw[oJ]
theorem Yi{c:Operand}{x y:Code}{Q:Exit→St→Prop}:oJ P N (.cond c x y) Q s=Dc (ev s.tm c) (oJ P N x Q) (oJ P N y Q) s:=by rw[oJ]
theorem Vv{id:Nat}{c:Code}{Q:Exit→St→Prop}:oJ P N (.block id c) Q s=oJ P N c (wX id Q) s:=by rw[oJ]
theorem Yj{id:Nat}{Q:Exit→St→Prop}:oJ P N (.exit id) Q s=CW P N (.exit id) Q s:=by rw[oJ]
theorem aah{Q:Exit→St→Prop}:oJ P N .ret Q s=CW P N .ret Q s:=by rw[oJ]
theorem Yk{Q:Exit→St→Prop}:oJ P N .skip Q s=CW P N .skip Q s:=by rw[oJ]
theorem Yl{c:Code}{Q:Exit→St→Prop}:oJ P N (.loop c) Q s=CW P N (.loop c) Q s:=by rw[oJ]
end
attribute [go_sem ↓] aag Yh Sr Yi Vv Yj aah Yk Yl
end Go.Ab
namespace Go.Ab
section
variable {P:Program} {N:Nat} {S:Store} {s:St} {tm:List (Nat×V)}
end
end Go.Ab
namespace Go.Ab
theorem Sv{P:Program}{N:Nat}(n:Nat){f:FuncId}{fn:Func}{c:Code}{args:List V}{bM:List Obj}{Ω:Store}{post:V→Store→Prop}{rs:List ResultVar}(jv:P.follows .mixedOrders=true)(hf:P.funcs[f]? =some fn)(hN:fn.ntmps=N)
 (hb:fn.body=some c) (hn:(fn.name== "runtime.NumGoroutine")=false) (hr:fn.results.toList=rs) (hl:Nat.ble args.length N=true) (hok:codeOk N c=true)
 (h:CW P N c (M4 P rs post) ⟨nV (args.map (V.up 1)) 0,[.seed n]::bM::Ω⟩):dG P f args (bM::Ω) post:=by
 subst hN
 subst hr
 exact JL hf hb hn (Nat.le_of_ble_eq_true hl) (Ib n (lN jv c _ _ hok h))
theorem Nr{P:Program}{N:Nat}{c:Code}{Q:Exit→St→Prop}{tm:List (Nat×V)}{Ω:Store}(n k:Nat)(h:AW P N c Q ⟨tm,[.seed n,.seed k]::Ω⟩):AW P N c Q ⟨tm,[]::Ω⟩:=by
 refine Ib n (oq h fun a w σ β hR=> ?_)
 obtain⟨bo,bΩ,rfl,hlen⟩:=frames hR
 obtain⟨hS',hk,hst⟩:=hR.S.push (o:=.seed k) (h:=undef) (Grow.refl hR.S.live) hlen trivial (fun b hb=>by cases hb)
 exact⟨σ,_,⟨hR.size,hR.defers,hS',fun u=>(hR.T u).mono (fG.refl _ _) hk⟩,hst,Keep.refl _ _⟩
section
variable {P:Program} {N:Nat} {S:Store}
theorem nk(n k:Nat){f:FuncId}{fn:Func}{c:Code}{args:List V}{post:V→Store→Prop}{rs:List ResultVar}(jv:P.follows .mixedOrders=true)(hf:P.funcs[f]? =some fn)(hN:fn.ntmps=N)
 (hb:fn.body=some c) (hn:(fn.name== "runtime.NumGoroutine")=false) (hr:fn.results.toList=rs) (hl:Nat.ble args.length N=true) (hok:codeOk N c=true)
 (h:CW P N c (Nl P n rs post) ⟨nV (args.map (V.up 1)) 0,[.seed n,.seed k]::S⟩):dG P f args S post:=by
 subst hN
 subst hr
 exact vF hf hb hn (Nat.le_of_ble_eq_true hl) (Nr n k (xW (yx n) (lN jv c _ _ hok h)))
end
end Go.Ab
namespace Go.Ab
section
variable {P:Program} {w w':World} {σ σ':Nat→Nat} {S:Store} {β:Hs}
def oU(w:World)(σ:Nat→Nat)(lo hi b:Nat):Prop:=∃c t fz m,w.heap[b]? =some (.cells c t fz)∧σ b=c.size+1+m∧lo≤m∧m<hi
theorem oU.mono{lo hi lo' hi' b:Nat}(h:oU w σ lo hi b)(h1:lo'≤lo)(h2:hi≤hi'):oU w σ lo' hi' b:=by
 obtain⟨c,t,fz,m,a1,a2,a3,a4⟩:=h
 exact⟨c,t,fz,m,a1,a2,by omega,by omega⟩
theorem oU.apart{lo hi lo' hi' b:Nat}(h:oU w σ lo hi b)(h':oU w σ lo' hi' b)(ho:hi≤lo'):False:=by
 obtain⟨c,t,fz,m,a1,a2,a3,a4⟩:=h
 obtain⟨c',t',LJ,m',b1,b2,b3,b4⟩:=h'
 rw[a1] at b1;cases b1
 omega
abbrev Kids:=List (List (Option Value))
def lG(rows:Kids)(i o:Nat):Option Value:=((rows[i]?).bind fun r=>r[o]?).bind id
def Y7(rows:Kids):Array Value:=(rows.map fun r=>Value.tuple (r.map fun u=>u.getD (.bool false)).toArray).toArray
def mkT(v:Value)(rows:Kids):Value:=.tuple #[v,.tuple (Y7 rows)]
theorem Qr{v:Value}{rows:Kids}:hdr (mkT v rows)=some v:=rfl
def IsT(v:Value):Prop:=∃a,v=.tuple a
theorem Iz{v:Value}{rows:Kids}(h:∀i o u,lG rows i o=some u→IsT u)(i o:Nat):kid (mkT v rows) i o=lG rows i o:=by
 have h':=h i o
 unfold kid mkT Y7 lG at *
 simp only[List.getElem?_toArray,List.getElem?_cons_succ,List.getElem?_cons_zero,List.getElem?_map]
 cases hr:rows[i]? with
 |none=>rfl
 |some r=>
  rw[hr] at h'
  simp only[Option.map_some,List.getElem?_toArray,List.getElem?_map]
  cases hu:r[o]? with
  |none=>simp[hu]
  |some u=>
   simp only[Option.bind_some,hu,id] at h'
   cases u with
   |none=>simp[hu]
   |some u=>
    obtain⟨a,rfl⟩:=h' u rfl
    simp[hu]
def La(w:World)(d:D)(v:Value)(u:Option Value):Prop:=
 match d with
 | .sl es=>∃T,u=some T∧IsT T∧hdr T=some v∧nU w es T
 |d=>u=none∧SD d v
theorem Ns{z:Nat}:∀{rs:List (List D)} {n:Nat},(∀r∈iY rs n,r.length=z)→∀r∈rs,r.length=z
 |[],_,_,r,h=>by cases h
 |a::rs,n,ha,r,h=>by
  rw[iY] at ha
  rcases List.mem_cons.1 h with e|h
  ·subst e;rw[←jA r n];exact ha _ (by simp)
  ·exact Ns (n:=n+uE a) (fun r hr=>ha r (by simp[hr])) r h
structure afJ (w:World) (σ:Nat→Nat) (r:List D) (n m:Nat) (vals:Nat→Value) (us:List (Option Value)):Prop where
 len:us.length=r.length
 cell:∀(j:Nat) (d:D),r[j]? =some d→∃u,us[j]? =some u∧La w d (vals j) u
 own:∀(j:Nat) (u:Value),us[j]? =some (some u)→∀b,kI u b→oU w σ n m b
 apart:∀(j j':Nat) (u u':Value) (b:Nat),j≠j'→us[j]? =some (some u)→us[j']? =some (some u')→kI u b→kI u' b→False
structure adS (w:World) (σ:Nat→Nat) (z:Nat) (rs:List (List D)) (n m:Nat) (vals:Nat→Value) (U:Kids):Prop where
 cell:∀(i o:Nat) (d:D),cellAt rs i o=some d→∃u,((U[i]?).bind fun r=>r[o]?)=some u∧La w d (vals (i*z+o)) u
 kid:∀(i o:Nat) (u:Value),lG U i o=some u→∃es,cellAt rs i o=some (.sl es)
 own:∀(i o:Nat) (u:Value),lG U i o=some u→∀b,kI u b→oU w σ n m b
 apart:∀(i o i' o':Nat) (u u':Value) (b:Nat),(i,o)≠(i',o')→lG U i o=some u→lG U i' o'=some u'→kI u b→kI u' b→False
theorem uG{us:List (Option Value)}{U:Kids}{o:Nat}{u:Value}:lG (us::U) 0 o=some u↔us[o]? =some (some u):=by
 show(us[o]?).bind id=some u↔_
 cases us[o]? with
 |none=>simp
 |some x=>simp
mutual
theorem adT:∀(d:D) (n:Nat) (v:Value),o8 d=true→dK w σ (rR d n) v→∃u,La w d v u∧∀T,u=some T→∀b,kI T b→oU w σ n (n+uD d) b
 | .sl es,n,v,hp,h=>by
   rw[rR] at h
   have hl:=uF es (n+1)
   have hrec:=Vw es (n+1)
   have hrow:=fun z=>Ns (z:=z) (rs:=es) (n:=n+1)
   generalize iY es (n+1)=q at h hl hrec hrow
   have hempty:∀a cap,es=[]→v=.slice a 0 cap→∃u,La w (.sl es) v u∧∀T,u=some T→∀b,kI T b→oU w σ n (n+uD (.sl es)) b:=by
    rintro a cap rfl rfl
    have hk:∀i o,kid (mkT (.slice a 0 cap) []) i o=none:=fun i o=>by rw[Iz (fun i o u h=>by simp[lG] at h)];simp[lG]
    refine⟨some (mkT (.slice a 0 cap) []),⟨_,rfl,⟨_,rfl⟩,rfl,.nil a cap _ rfl hk⟩,fun T hT b hb=> ?_⟩
    cases hT
    exfalso
    cases hb with
    |here h1 h2=>rw[Qr] at h1;cases h1;omega
    |kid h1 h2=>rw[hk] at h1;cases h1
   cases h with
   |wC n a cap=>exact hempty a cap (List.eq_nil_of_length_eq_zero (by simpa using hl.symm)) rfl
   |ol n b off cap z q vals c t hcap hlen hb hσ hfit hc hv=>
    by_cases hne:es=[]
    ·subst hne
     have hq0:q.length=0:=by simpa using hl
     exact hempty _ _ rfl (by rw[hq0])
    rw[hl] at hcap hfit hc ⊢
    obtain⟨U,hU⟩:=hrec z vals (hrow z hlen) (by simpa [o8] using hp) hv
    have hrl:=hrow z hlen
    have hT:∀i o u,lG U i o=some u→IsT u:=fun i o u hu=>by
     obtain⟨es',he⟩:=hU.kid i o u hu
     obtain⟨u',h1,h2⟩:=hU.cell i o _ he
     obtain⟨T,h3,h4,_⟩:=h2
     unfold lG at hu
     rw[h1,h3] at hu
     cases hu;exact h4
    have qC:∀i o,kid (mkT (.slice (some ⟨b,off,none⟩) es.length cap) U) i o=lG U i o:=Iz hT
    have hcell:∀i o es',cellAt es i o=some (.sl es')→∃T,lG U i o=some T∧hdr T=some (vals (i*z+o))∧nU w es' T:=fun i o es' he=>by
     obtain⟨u',h1,T,h3,h4,h5,h6⟩:=hU.cell i o _ he
     refine⟨T,?_,h5,h6⟩
     unfold lG
     rw[h1,h3];rfl
    have hself:∀x,oU w σ (n+1) (n+1+vM es) x→x≠b:=by
     rintro x ⟨c',t',LJ,m,a1,a2,a3,a4⟩ rfl
     rw[hb] at a1;cases a1
     omega
    refine⟨some (mkT (.slice (some ⟨b,off,none⟩) es.length cap) U),⟨_,rfl,⟨_,rfl⟩,rfl,?_⟩,fun T hT' x hx=> ?_⟩
    ·refine .mk b off cap z es _ c t (fun i o=>vals (i*z+o)) (fun i o=>(lG U i o).getD undef) rfl hne hcap hrl hb hfit (fun i o d hd=> ?_) (fun i o d hd=> ?_) (fun i o es' he=> ?_) (fun i o es' he=> ?_) (fun i o u hu hb'=> ?_) (fun i o i' o' u u' x Y8 hu hu' h1 h2=> ?_) (fun i o u hu=> ?_)
     ·obtain⟨hi,ho⟩:=uU hd
      rw[hrl _ (List.getElem_mem hi)] at ho
      refine hc _ ?_
      have:(i+1)*z≤es.length*z:=Nat.mul_le_mul_right _ hi
      rw[Nat.add_mul,Nat.one_mul] at this
      omega
     ·obtain⟨u,h1,h2⟩:=hU.cell i o d hd
      cases d<;>first|exact .inl ⟨_,rfl⟩|exact .inr h2.2
     ·obtain⟨T,h1,h2,h3⟩:=hcell i o es' he
      rw[qC,h1]
      exact⟨rfl,h2⟩
     ·obtain⟨T,h1,h2,h3⟩:=hcell i o es' he
      rw[h1];exact h3
     ·rw[qC] at hu
      exact hself b (hU.own i o u hu b hb') rfl
     ·rw[qC] at hu hu'
      exact hU.apart i o i' o' u u' x Y8 hu hu' h1 h2
     ·rw[qC] at hu
      exact hU.kid i o u hu
    ·cases hT'
     cases hx with
     |here h1 h2=>rw[Qr] at h1;cases h1;exact⟨c,t,(0,0),n,hb,hσ,Nat.le_refl _,by rw[uD];omega⟩
     |kid h1 h2=>
      rw[qC] at h1
      exact(hU.own _ _ _ h1 _ h2).mono (by omega) (by rw[uD];omega)
 | .ol m es,n,v,hp,h=>by simp[o8] at hp
 | .b x,n,v,hp,h=>by rw[rR] at h;cases h;exact⟨none,⟨rfl,rfl⟩,fun T h=>by cases h⟩
 | .i k x,n,v,hp,h=>by rw[rR] at h;cases h;exact⟨none,⟨rfl,rfl⟩,fun T h=>by cases h⟩
 | .s l,n,v,hp,h=>by rw[rR] at h;cases h;exact⟨none,⟨rfl,rfl⟩,fun T h=>by cases h⟩
 | .o u,n,v,hp,h=>by simp[o8] at hp
theorem Sw:∀(r:List D) (n:Nat) (vals:Nat→Value),jq r=true→(∀(j:Nat) (d:D),(kT r n)[j]? =some d→dK w σ d (vals j))→∃us,afJ w σ r n (n+uE r) vals us
 |[],n,vals,hp,h=>⟨[],rfl,fun j d h=>by simp at h,fun j u h=>by simp at h,fun j j' u u' b _ h=>by simp at h⟩
 |d::r,n,vals,hp,h=>by
  rw[jq,Bool.and_eq_true] at hp
  rw[kT] at h
  obtain⟨u,h1,h2⟩:=adT d n (vals 0) hp.1 (h 0 _ rfl)
  obtain⟨us,uO⟩:=Sw r (n+uD d) (fun j=>vals (j+1)) hp.2 fun j x hx=>h (j+1) x hx
  rw[uE]
  have hown:∀(j:Nat) (T:Value),us[j]? =some (some T)→∀b,kI T b→oU w σ (n+uD d) (n+uD d+uE r) b:=uO.own
  refine⟨u::us,by rw[List.length_cons,List.length_cons,uO.len],fun j x hx=> ?_,fun j T hT b hb=> ?_,fun j j' T T' b hj hT hT' hb hb'=> ?_⟩
  ·cases j with
   |zero=>simp at hx;subst hx;exact⟨u,rfl,h1⟩
   |succ j=>exact uO.cell j x hx
  ·cases j with
   |zero=>simp at hT;exact(h2 T hT b hb).mono (Nat.le_refl _) (by omega)
   |succ j=>exact(hown j T hT b hb).mono (by omega) (by omega)
  ·cases j with
   |zero=>
    cases j' with
    |zero=>exact hj rfl
    |succ j'=>simp at hT;exact(h2 T hT b hb).apart (hown j' T' hT' b hb') (Nat.le_refl _)
   |succ j=>
    cases j' with
    |zero=>simp at hT';exact(h2 T' hT' b hb').apart (hown j T hT b hb) (Nat.le_refl _)
    |succ j'=>exact uO.apart j j' T T' b (by omega) hT hT' hb hb'
theorem Vw:∀(rs:List (List D)) (n z:Nat) (vals:Nat→Value),(∀r∈rs,r.length=z)→jB rs=true→(∀(j:Nat) (d:D),(iY rs n).flatten[j]? =some d→dK w σ d (vals j))→∃U,adS w σ z rs n (n+vM rs) vals U
 |[],n,z,vals,hz,hp,h=>⟨[],fun i o d h=>by simp[cellAt] at h,fun i o u h=>by simp[lG] at h,fun i o u h=>by simp[lG] at h,fun i o i' o' u u' b _ h=>by simp[lG] at h⟩
 |r::rs,n,z,vals,hz,hp,h=>by
  rw[jB,Bool.and_eq_true] at hp
  rw[iY,List.flatten_cons] at h
  have hrz:r.length=z:=hz r (by simp)
  obtain⟨us,uO⟩:=Sw r n vals hp.1 fun j d hd=>h j d (by rw[List.getElem?_append_left (List.getElem?_eq_some_iff.1 hd).1];exact hd)
  obtain⟨U,hU⟩:=Vw rs (n+uE r) z (fun j=>vals (z+j)) (fun r hr=>hz r (by simp[hr])) hp.2 fun j d hd=>h (z+j) d (by
   rw[List.getElem?_append_right (by rw[jA];omega),jA,hrz,Nat.add_sub_cancel_left];exact hd)
  rw[vM]
  have hown:∀(i o:Nat) (T:Value),lG U i o=some T→∀b,kI T b→oU w σ (n+uE r) (n+uE r+vM rs) b:=hU.own
  refine⟨us::U,fun i o d hd=> ?_,fun i o u hu=> ?_,fun i o T hT b hb=> ?_,fun i o i' o' T T' b Y8 hT hT' hb hb'=> ?_⟩
  ·cases i with
   |zero=>
    obtain⟨u,h1,h2⟩:=uO.cell o d hd
    exact⟨u,h1,by rw[Nat.zero_mul,Nat.zero_add];exact h2⟩
   |succ i=>
    obtain⟨u,h1,h2⟩:=hU.cell i o d hd
    exact⟨u,h1,by rw[show(i+1)*z+o=z+(i*z+o) by rw[Nat.add_mul];omega];exact h2⟩
  ·cases i with
   |zero=>
    rw[uG] at hu
    have ho:o<r.length:=by rw[←uO.len];exact(List.getElem?_eq_some_iff.1 hu).1
    obtain⟨u',h1,h2⟩:=uO.cell o r[o] (List.getElem?_eq_getElem ho)
    rw[hu] at h1;cases h1
    have hc:cellAt (r::rs) 0 o=some r[o]:=List.getElem?_eq_getElem ho
    rw[hc]
    generalize r[o]=d at h2
    cases d<;>first|exact⟨_,rfl⟩|(cases h2.1)
   |succ i=>exact hU.kid i o u hu
  ·cases i with
   |zero=>rw[uG] at hT;exact(uO.own o T hT b hb).mono (Nat.le_refl _) (by omega)
   |succ i=>exact(hown i o T hT b hb).mono (by omega) (by omega)
  ·cases i with
   |zero=>
    rw[uG] at hT
    cases i' with
    |zero=>rw[uG] at hT';exact uO.apart o o' T T' b (fun e=>Y8 (by rw[e])) hT hT' hb hb'
    |succ i'=>exact(uO.own o T hT b hb).apart (hown i' o' T' hT' b hb') (Nat.le_refl _)
   |succ i=>
    cases i' with
    |zero=>rw[uG] at hT';exact(uO.own o' T' hT' b hb').apart (hown i o T hT b hb) (Nat.le_refl _)
    |succ i'=>exact hU.apart i o i' o' T T' b (fun e=>Y8 (by cases e;rfl)) hT hT' hb hb'
end
end
end Go.Ab
namespace Go.Ab
section
variable {P:Program} {w w':World} {σ σ':Nat→Nat} {S:Store} {β:Hs}
def GD:D→List (List D)
 | .sl es=>es
 |_=>[]
def Y9(k:Key)(j:Nat):D→C
 | .sl _=>.xp k j []
 |d=>.d d
def EF(k:Key):Nat→List D→List C
 |_,[]=>[]
 |j,d::ds=>Y9 k j d::EF k (j+1) ds
theorem zi{k:Key}:∀(j:Nat) (r:List D),(EF k j r).length=r.length
 |_,[]=>rfl
 |j,d::ds=>by rw[EF,List.length_cons,zi,List.length_cons]
theorem Qs{k:Key}:∀(r:List D) (j i:Nat),(EF k j r)[i]? =(r[i]?).map (Y9 k (j+i))
 |[],j,i=>by simp[EF]
 |d::ds,j,0=>rfl
 |d::ds,j,i+1=>by
  rw[EF,List.getElem?_cons_succ,List.getElem?_cons_succ,Qs ds (j+1) i,show j+1+i=j+(i+1) by omega]
def Sy:C→C
 | .d x=>.d x
 | .bC es=>.d (.sl es)
 | .bI _ es=>.d (.sl es)
 | .kg n es=>.d (.ol n es)
 | .kH cs=>.kH cs
 |_=>.any
def Sz:V→V
 | .c x=>.c (Sy x)
 | .agg cs=>.agg (cs.map Sy)
 |_=>.any
theorem JW{c:C}{v:Value}(h:je w σ S β c v)(S':Store)(β':Hs):je w σ S' β' (Sy c) v:=by
 cases c with
 |d x=>exact h
 |bC es=>exact h.1
 |bI k es=>exact h.1
 |kg n es=>exact h.1
 |kH cs=>exact h
 |_=>trivial
theorem Ym{x:V}{v:Value}(h:dF w σ S β x v)(S':Store)(β':Hs):dF w σ S' β' (Sz x) v:=by
 cases x with
 |c x=>exact⟨JW h.1 _ _,h.2⟩
 |agg cs=>
  obtain⟨a,ha,hl,hc⟩:=h
  refine⟨a,ha,by rw[List.length_map];exact hl,fun i x hx=> ?_⟩
  rw[List.getElem?_map] at hx
  cases hi:cs[i]? with
  |none=>rw[hi] at hx;cases hx
  |some y=>
   rw[hi] at hx;cases hx
   obtain⟨u,q1,q2,q3⟩:=hc i y hi
   exact⟨u,q1,JW q2 _ _,q3⟩
 |_=>trivial
theorem SA(hl:∀b,b<w.heap.size∨σ b=0)(hg:sj w σ):eF w σ [] [] where
 rO:=hg
 obj:=fun k o h=>by rw[mP] at h;cases h
 apart:=fun k k' o o' h h' b h1=>by rw[mP] at h1;cases h1
 shape:=⟨rfl,fun l fr h=>by simp at h⟩
 live:=hl
theorem Qt{β:Hs}{b:Nat}:¬Own [] β b:=fun⟨k,o,h,h1,_⟩=>by rw[mP] at h1;cases h1
def abH(mk:List C→V)(m:Nat):Prop:=∀w σ S β cs v,cs.length=m→dF w σ S β (mk cs) v→∃vs,gy w σ S β cs vs∧∀w' σ' S' β' cs',cs'.length=m→gy w' σ' S' β' cs' vs→dF w' σ' S' β' (mk cs') v
def yA:Value:=mkT (.slice none 0 0) []
theorem JX(i o:Nat):kid yA i o=none:=by
 unfold yA
 rw[Iz (fun i o u h=>by simp[lG] at h)];simp[lG]
theorem AR{b:Nat}:¬kI yA b:=fun h=>by
 cases h with
 |here h1 h2=>cases h1
 |kid h1 h2=>rw[JX] at h1;cases h1
theorem Nt(σ:Nat→Nat):∀n:Nat,∃m,∀b,b<n→σ b≤m
 |0=>⟨0,fun b h=>by omega⟩
 |n+1=>by
  obtain⟨m,hm⟩:=Nt σ n
  refine⟨max m (σ n),fun b hb=> ?_⟩
  by_cases e:b=n
  ·subst e;omega
  ·have:=hm b (by omega);omega
open Classical in
theorem dG.own{f:FuncId}{args:List V}{bM:List Obj}{Ω:Store}{mk:List C→V}{r:List D}(hm:abH mk r.length)(hp:jq r=true)
 (h:∀n,aD P f (args.map Sz) (mk ((kT r n).map .d))):
 dG P f args (bM::Ω) (fun r' S'=>r'=mk (EF (0,bM.length) 0 r)∧S'=(bM++[.xf (r.map GD)])::Ω):=by
 refine⟨(h 0 []).1,fun w σ β vs hS hargs=> ?_⟩
 obtain⟨n,hn⟩:=Nt σ w.heap.size
 have Vx:nN w σ [] [] (args.map Sz) vs:=by
  refine⟨by rw[List.length_map];exact hargs.1,fun j x hx=> ?_⟩
  rw[List.getElem?_map] at hx
  cases ha:args[j]? with
  |none=>rw[ha] at hx;cases hx
  |some y=>
   rw[ha] at hx;cases hx
   obtain⟨v,h1,h2⟩:=hargs.2 j y ha
   exact⟨v,h1,Ym h2 _ _⟩
 refine((h n []).2 w σ [] vs (SA hS.live hS.rO) Vx).mono fun e w' ⟨v,r',S',σ',β',he,hS',hk,hst,hv,hr',hS2⟩=> ?_
 subst hr';subst hS2
 obtain⟨us0,hcs,hback⟩:=hm w' σ' _ β' _ v (by rw[List.length_map,jA]) hv
 have afK:us0.length=r.length:=by rw[←hcs.1,List.length_map,jA]
 obtain⟨us,uO⟩:=Sw r n (fun j=>us0.getD j undef) hp (fun j d hd=>by
  obtain⟨u,h1,h2,_⟩:=hcs.2 j (.d d) (by rw[List.getElem?_map,hd];rfl)
  simp only[List.getD_eq_getElem?_getD,h1,Option.getD_some]
  exact h2)
 let h0:Value:=.tuple (us.map fun u=>u.getD yA).toArray
 have hroot:∀j,tN h0 j=(us[j]?).map fun u=>u.getD yA:=fun j=>by simp[h0,tN]
 have hfresh:∀b,yH h0 b→w.heap.size≤b:=by
  rintro b ⟨j,T,h1,h2⟩
  rw[hroot] at h1
  cases hu:us[j]? with
  |none=>rw[hu] at h1;cases h1
  |some u=>
   rw[hu] at h1
   simp only[Option.map_some,Option.some.injEq] at h1
   cases u with
   |none=>subst h1;exact absurd h2 AR
   |some u=>
    simp at h1;subst h1
    obtain⟨c,t,fz,m,a1,a2,a3,a4⟩:=uO.own j u hu b h2
    refine Nat.le_of_not_lt fun hlt=> ?_
    have h1:=(hst.far b hlt Qt).2
    have h2:=hn b hlt
    omega
 let σ2:Nat→Nat:=fun b=>if yH h0 b then 0 else σ' b
 have hg:Grow w σ w' σ2:=⟨hst.size,hst.os,hst.output,fun b hb=>by
  obtain⟨h1,h2⟩:=hst.far b hb Qt
  exact⟨h1,(if_neg fun hx=>by have:=hfresh b hx;omega).trans h2⟩,fun b=>by
  rcases hS'.live b with hb|hb
  ·exact .inl hb
  ·right;show(if yH h0 b then 0 else σ' b)=0;rw[hb];split<;>rfl⟩
 cases β with
 |nil=>have:=hS.shape.1;simp at this
 |cons bo bΩ=>
 have hlen:bo.length=bM.length:=by
  obtain⟨gr,g1,g2⟩:=hS.shape.2 0 bM rfl
  simp at g1;rw[g1];exact g2
 obtain⟨hS3,hk3,afL⟩:=hS.push (o:=.xf (r.map GD)) (h:=h0) hg hlen (by
  refine⟨fun j es hj=> ?_,fun j T hT=> ?_,fun b hb=>if_pos hb,fun j j' T T' x hjj hT hT' hx hx'=> ?_⟩
  ·rw[List.getElem?_map] at hj
   cases hd:r[j]? with
   |none=>rw[hd] at hj;cases hj
   |some d=>
    rw[hd] at hj
    simp only[Option.map_some,Option.some.injEq] at hj
    subst hj
    obtain⟨u,h1,h2⟩:=uO.cell j d hd
    rw[hroot,h1]
    have hsc:(∀es,d≠ .sl es)→∃T,Option.map (fun u=>Option.getD u yA) (some u)=some T∧nU w' (GD d) T:=fun hne=>by
     have hu:u=none:=by cases d<;>first|exact absurd rfl (hne _)|exact h2.1
     have hr0:GD d=[]:=by cases d<;>first|exact absurd rfl (hne _)|rfl
     subst hu
     rw[hr0]
     exact⟨yA,rfl,.nil none 0 _ rfl JX⟩
    cases d with
    |sl es=>obtain⟨T,rfl,_,_,h6⟩:=h2;exact⟨T,rfl,h6⟩
    |_=>exact hsc (fun es e=>by cases e)
  ·rw[List.length_map]
   rw[hroot] at hT
   cases hu:us[j]? with
   |none=>rw[hu] at hT;cases hT
   |some u=>rw[←uO.len];exact(List.getElem?_eq_some_iff.1 hu).1
  ·rw[hroot] at hT hT'
   cases hu:us[j]? with
   |none=>rw[hu] at hT;cases hT
   |some u=>
    cases hu':us[j']? with
    |none=>rw[hu'] at hT';cases hT'
    |some u'=>
     rw[hu] at hT;rw[hu'] at hT'
     simp only[Option.map_some,Option.some.injEq] at hT hT'
     cases u with
     |none=>subst hT;exact AR hx
     |some u=>
      cases u' with
      |none=>subst hT';exact AR hx'
      |some u'=>simp at hT hT';subst hT;subst hT';exact uO.apart j j' u u' x hjj hu hu' hx hx') (fun b hb=>hfresh b hb)
 refine⟨v,_,_,σ2,(bo++[h0])::bΩ,he,hS3,hk3,afL,?_,rfl,rfl⟩
 refine hback _ _ _ _ _ (by rw[zi]) ⟨by rw[zi,afK],fun j x hx=> ?_⟩
 rw[Qs,Nat.zero_add] at hx
 cases hd:r[j]? with
 |none=>rw[hd] at hx;cases hx
 |some d=>
  rw[hd] at hx
  simp only[Option.map_some,Option.some.injEq] at hx
  obtain⟨u,h1,h2⟩:=uO.cell j d hd
  have hjl:j<(kT r n).length:=by rw[jA];exact(List.getElem?_eq_some_iff.1 hd).1
  obtain⟨v0,h3,_,h4⟩:=hcs.2 j (.d (kT r n)[j]) (by rw[List.getElem?_map,List.getElem?_eq_getElem hjl];rfl)
  have hv0:us0.getD j undef=v0:=by rw[List.getD_eq_getElem?_getD,h3];rfl
  simp only[hv0] at h2
  refine⟨v0,h3,?_,h4⟩
  have hsc:(∀es,d≠ .sl es)→je w' σ2 ((bM++[.xf (r.map GD)])::Ω) ((bo++[h0])::bΩ) (.d d) v0:=fun hne=>by
   have:SD d v0:=by cases d<;>first|exact absurd rfl (hne _)|exact h2.2
   exact Ll this
  cases d with
  |sl es=>
   subst hx
   obtain⟨T,rfl,_,h5,_⟩:=h2
   refine⟨_,dz _ _ _,fun rs _=>⟨h0,by rw[←hlen,dz],?_⟩⟩
   unfold CS
   rw[hroot,h1]
   exact h5
  |_=>subst hx;exact hsc (fun es e=>by cases e)
end
end Go.Ab
namespace Go.Ab
section
variable {P:Program} {w w':World} {σ σ':Nat→Nat} {S:Store} {β:Hs}
mutual
theorem afM{σ2:Nat→Nat}(hs:∀b c t fz,w.heap[b]? =some (.cells c t fz)→c.size<σ b→σ2 b=σ b):∀(d:D) (n:Nat) (v:Value),o8 d=true→dK w σ (rR d n) v→dK w σ2 (rR d n) v
 | .sl es,n,v,hp,h=>by
   rw[rR] at h ⊢
   have hrec:=Za hs es (n+1)
   generalize iY es (n+1)=q at h hrec ⊢
   cases h with
   |wC n a cap=>exact .wC n a cap
   |ol n b off cap z q vals c t hcap hlen hb hσ hfit hc hv=>exact .ol n b off cap z q vals c t hcap hlen hb ((hs b c t _ hb (by omega)).trans hσ) hfit hc (hrec vals (by simpa [o8] using hp) hv)
 | .ol m es,n,v,hp,h=>by simp[o8] at hp
 | .b x,n,v,hp,h=>by rw[rR] at h ⊢;cases h;constructor
 | .i k x,n,v,hp,h=>by rw[rR] at h ⊢;cases h;constructor
 | .s l,n,v,hp,h=>by rw[rR] at h ⊢;cases h;constructor
 | .o u,n,v,hp,h=>by simp[o8] at hp
theorem abJ{σ2:Nat→Nat}(hs:∀b c t fz,w.heap[b]? =some (.cells c t fz)→c.size<σ b→σ2 b=σ b):∀(r:List D) (n:Nat) (vals:Nat→Value),jq r=true→(∀(j:Nat) (d:D),(kT r n)[j]? =some d→dK w σ d (vals j))→
 ∀(j:Nat) (d:D),(kT r n)[j]? =some d→dK w σ2 d (vals j)
 |[],n,vals,hp,h,j,d,hd=>by simp[kT] at hd
 |a::r,n,vals,hp,h,j,d,hd=>by
  rw[jq,Bool.and_eq_true] at hp
  rw[kT] at h hd
  cases j with
  |zero=>
   simp at hd;subst hd
   exact afM hs a n _ hp.1 (h 0 _ rfl)
  |succ j=>exact abJ hs r (n+uD a) (fun i=>vals (i+1)) hp.2 (fun i d hi=>h (i+1) d hi) j d hd
theorem Za{σ2:Nat→Nat}(hs:∀b c t fz,w.heap[b]? =some (.cells c t fz)→c.size<σ b→σ2 b=σ b):∀(rs:List (List D)) (n:Nat) (vals:Nat→Value),jB rs=true→(∀(j:Nat) (d:D),(iY rs n).flatten[j]? =some d→dK w σ d (vals j))→
 ∀(j:Nat) (d:D),(iY rs n).flatten[j]? =some d→dK w σ2 d (vals j)
 |[],n,vals,hp,h,j,d,hd=>by simp[iY] at hd
 |r::rs,n,vals,hp,h,j,d,hd=>by
  rw[jB,Bool.and_eq_true] at hp
  rw[iY,List.flatten_cons] at h hd
  by_cases hj:j<(kT r n).length
  ·rw[List.getElem?_append_left hj] at hd
   exact abJ hs r n vals hp.1 (fun j d hd=>h j d (by rw[List.getElem?_append_left (List.getElem?_eq_some_iff.1 hd).1];exact hd)) j d hd
  ·rw[List.getElem?_append_right (by omega)] at hd
   have:=Za hs rs (n+uE r) (fun i=>vals ((kT r n).length+i)) hp.2 (fun j d hd=>h _ d (by rw[List.getElem?_append_right (by omega),Nat.add_sub_cancel_left];exact hd)) (j-(kT r n).length) d hd
   rwa [show(kT r n).length+(j-(kT r n).length)=j by omega] at this
end
theorem nU.data{es:List (List D)}{T v:Value}(h:nU w es T)(hv:hdr T=some v)(hσ:∀b c t fz,kI T b→w.heap[b]? =some (.cells c t fz)→c.size≤σ b):dK w σ (.sl es) v:=by
 induction h generalizing v with
 |nil a cap T h hk=>rw[h] at hv;cases hv;exact .nil a cap
 |mk b off cap z es T c t vals kids hh hne hcap hlen hb hfit hc hs hk hx hself hap qC ih=>
  rw[hh] at hv;cases hv
  have hpos:0<es.length:=List.length_pos_iff.2 hne
  have hfl:=kN es z hlen
  have hidx:∀j,j<es.length*z→∃hi:j/z<es.length,j % z<z∧j/z*z+j % z=j:=fun j hj=>by
   have hz:0<z:=by rcases Nat.eq_zero_or_pos z with h|h;·rw[h] at hj;simp at hj
                   ·exact h
   exact⟨(Nat.div_lt_iff_lt_mul hz).2 hj,Nat.mod_lt _ hz,by rw[Nat.mul_comm];exact Nat.div_add_mod j z⟩
  have hcell:∀j d,es.flatten[j]? =some d→∃hi:j/z<es.length,cellAt es (j/z) (j % z)=some d∧j/z*z+j % z=j:=fun j d hd=>by
   have hj:j<es.length*z:=by rw[←hfl];exact(List.getElem?_eq_some_iff.1 hd).1
   obtain⟨hi,hm,he⟩:=hidx j hj
   refine⟨hi,?_,he⟩
   have:=flat_get es z hlen (j/z) (j % z) hi hm
   rw[he,hd] at this
   unfold cellAt
   rw[List.getElem?_eq_getElem hi]
   exact this.symm
  refine .sl b off cap z es (fun j=>vals (j/z) (j % z)) c t (0,0) hcap hlen hb (Nat.le_trans hfit (hσ b c t _ (.here hh hpos) hb)) (fun j hj=> ?_) (fun j d hd=> ?_)
  ·obtain⟨hi,hce,he⟩:=hcell j _ (List.getElem?_eq_getElem (by rw[hfl];exact hj))
   have:=hc _ _ _ hce
   rwa [he] at this
  ·obtain⟨hi,hce,he⟩:=hcell j d hd
   rcases hs _ _ _ hce with⟨es',rfl⟩|hsd
   ·obtain⟨k1,k2⟩:=hk _ _ _ hce
    exact ih _ _ _ hce k2 fun b' c' t' LJ ho hb'=>hσ b' c' t' LJ (.kid k1 ho) hb'
   ·exact Ll hsd
end
end Go.Ab
namespace Go.Ab
section
variable {P:Program} {w w':World} {σ σ':Nat→Nat} {S:Store} {β:Hs}
end
end Go.Ab
namespace Go.Ab
def abK(n:Nat)(out:List UInt8):List UInt8:=if h:n=0 then out else abK (n/10) (UInt8.ofNat (48+n % 10)::out)
termination_by n
decreasing_by omega
def adU(k:Int):List UInt8:=if k≤0 then [109,48] else 109::abK k.toNat []
mutual
def GH:D→Nat
 | .sl es=>Nu es
 | .b _=>1
 | .i _ _=>1
 | .s _=>1
 | .o _=>0
 | .ol _ _=>0
def Qu:List D→Nat
 |[]=>0
 |d::ds=>GH d+Qu ds
def Nu:List (List D)→Nat
 |[]=>0
 |r::rs=>Qu r+Nu rs
end
mutual
def mkD:D→Int→D
 | .sl es,k=>.sl (abL es k)
 | .b _,k=>.b (decide (k.tmod 3=0))
 | .i kd _,k=>.i kd k
 | .s _,k=>.s (adU k)
 | .o v,_=>.o v
 | .ol n es,_=>.ol n es
def mkR:List D→Int→List D
 |[],_=>[]
 |d::ds,k=>mkD d k::mkR ds (k+GH d)
def abL:List (List D)→Int→List (List D)
 |[],_=>[]
 |r::rs,k=>mkR r k::abL rs (k+Qu r)
end
mutual
def tq:D→Bool
 | .sl es=>jY es
 | .b _=>true
 | .i _ _=>true
 | .s _=>true
 | .o _=>true
 | .ol _ _=>true
def jG:List D→Bool
 |[]=>true
 |d::ds=>tq d&&jG ds
def jY:List (List D)→Bool
 |[]=>true
 |r::rs=>decide (r.length≤32)&&jG r&&jY rs
end
mutual
theorem adV:∀d:D,tq d=true→GH d≤32*d.sz+1
 | .sl es,h=>by
   have:=Vy es (by simpa [tq] using h)
   simp only[GH,D.sz];omega
 | .b _,_=>by simp[GH]
 | .i _ _,_=>by simp[GH]
 | .s _,_=>by simp[GH]
 | .o _,_=>by simp[GH]
 | .ol _ _,_=>by simp[GH]
theorem Vz:∀r:List D,jG r=true→Qu r≤32*bH r+r.length
 |[],_=>by simp[Qu]
 |d::ds,h=>by
  rw[jG,Bool.and_eq_true] at h
  have h1:=adV d h.1
  have h2:=Vz ds h.2
  simp only[Qu,bH,List.length_cons];omega
theorem Vy:∀rs:List (List D),jY rs=true→Nu rs≤32*(rs.length+aI rs)
 |[],_=>by simp[Nu]
 |r::rs,h=>by
  rw[jY,Bool.and_eq_true,Bool.and_eq_true,decide_eq_true_eq] at h
  have h1:=Vz r h.1.2
  have h2:=Vy rs h.2
  simp only[Nu,aI,List.length_cons];omega
end
theorem gM:∀a b,jG (a++b)=(jG a&&jG b)
 |[],b=>by simp[jG]
 |d::ds,b=>by rw[List.cons_append,jG,jG,gM ds b,Bool.and_assoc]
theorem j6{α:Type}{f:α→List D}:∀{xs:List α},(∀x∈xs,jG (f x)=true∧(f x).length≤32)→jY (xs.map f)=true
 |[],_=>rfl
 |x::xs,h=>by
  rw[List.map_cons,jY,(h x (by simp)).1,j6 fun y hy=>h y (by simp[hy]),decide_eq_true (h x (by simp)).2];rfl
end Go.Ab
namespace Go.Proofs.YtcfhnaohbaplhaaGreatDoor
open Go Go.Ab
end Go.Proofs.YtcfhnaohbaplhaaGreatDoor
namespace Go.Ab
theorem tu(xs:List (List UInt8)):jB (xs.map encS)=true:=j5 fun _ _=>rfl
theorem tC(xs:List (List UInt8)):jY (xs.map encS)=true:=j6 fun _ _=>⟨rfl,by simp[encS]⟩
mutual
theorem ah.fD:∀x:ah,jq x.enc=true∧jG x.enc=true
 | .mk a0 a1 a2=>by simp only[ah.enc,jq,o8,jG,tq,gL,gM,Bool.and_true,Bool.true_and,Bool.and_self,and_self,and_true,true_and,(ah.nL a2).1,(ah.nL a2).2]
theorem ah.nL:∀xs:List ah,jB (ah.encs xs)=true∧jY (ah.encs xs)=true
 |[]=>⟨rfl,rfl⟩
 |x::xs=>by
  have h:decide ((ah.enc x).length≤32)=true:=by rw[ah.dh];rfl
  simp only[ah.encs,jB,jY,h,(ah.fD x).1,(ah.fD x).2,(ah.nL xs).1,(ah.nL xs).2,Bool.and_self,and_self]
end
theorem ah.iF(xs:List ah):jB (xs.map ah.enc)=true∧jY (xs.map ah.enc)=true:=by rw[←ah.jw];exact ah.nL xs
theorem dU.fD(x:dU):jq x.enc=true∧jG x.enc=true:=by
 rw[dU.aH];simp only[List.cons_append,List.nil_append,jq,o8,jG,tq,gL,gM,Bool.and_true,Bool.true_and,Bool.and_self,and_self,and_true,true_and,(ah.fD x.fType).1,(ah.fD x.fType).2]
theorem dU.iF(xs:List dU):jB (xs.map dU.enc)=true∧jY (xs.map dU.enc)=true:=⟨j5 fun x _=>x.fD.1,j6 fun x _=>⟨x.fD.2,by rw[dU.dh];decide⟩⟩
theorem bA.fD(x:bA):jq x.enc=true∧jG x.enc=true:=by
 rw[bA.aH];simp only[List.cons_append,List.nil_append,jq,o8,jG,tq,gL,gM,Bool.and_true,Bool.true_and,Bool.and_self,and_self,and_true,true_and,(ah.fD x.fType).1,(ah.fD x.fType).2]
theorem bA.iF(xs:List bA):jB (xs.map bA.enc)=true∧jY (xs.map bA.enc)=true:=⟨j5 fun x _=>x.fD.1,j6 fun x _=>⟨x.fD.2,by rw[bA.dh];decide⟩⟩
mutual
theorem au.fD:∀x:au,jq x.enc=true∧jG x.enc=true
 | .mk a0 a1 a2 a3 a4 a5 a6=>by simp only[au.enc,jq,o8,jG,tq,gL,gM,Bool.and_true,Bool.true_and,Bool.and_self,and_self,and_true,true_and,(ah.fD a4).1,(ah.fD a4).2,(au.nL a5).1,(au.nL a5).2,(aX.nL a6).1,(aX.nL a6).2]
theorem au.nL:∀xs:List au,jB (au.encs xs)=true∧jY (au.encs xs)=true
 |[]=>⟨rfl,rfl⟩
 |x::xs=>by
  have h:decide ((au.enc x).length≤32)=true:=by rw[au.dh];rfl
  simp only[au.encs,jB,jY,h,(au.fD x).1,(au.fD x).2,(au.nL xs).1,(au.nL xs).2,Bool.and_self,and_self]
theorem aX.fD:∀x:aX,jq x.enc=true∧jG x.enc=true
 | .mk a0 a1 a2=>by simp only[aX.enc,jq,o8,jG,tq,gL,gM,Bool.and_true,Bool.true_and,Bool.and_self,and_self,and_true,true_and,tu a1,tC a1,(au.fD a2).1,(au.fD a2).2]
theorem aX.nL:∀xs:List aX,jB (aX.encs xs)=true∧jY (aX.encs xs)=true
 |[]=>⟨rfl,rfl⟩
 |x::xs=>by
  have h:decide ((aX.enc x).length≤32)=true:=by rw[aX.dh];rfl
  simp only[aX.encs,jB,jY,h,(aX.fD x).1,(aX.fD x).2,(aX.nL xs).1,(aX.nL xs).2,Bool.and_self,and_self]
end
theorem au.iF(xs:List au):jB (xs.map au.enc)=true∧jY (xs.map au.enc)=true:=by rw[←au.jw];exact au.nL xs
theorem aX.iF(xs:List aX):jB (xs.map aX.enc)=true∧jY (xs.map aX.enc)=true:=by rw[←aX.jw];exact aX.nL xs
mutual
theorem aj.fD:∀x:aj,jq x.enc=true∧jG x.enc=true
 | .mk a0 a1=>by simp only[aj.enc,jq,o8,jG,tq,gL,gM,Bool.and_true,Bool.true_and,Bool.and_self,and_self,and_true,true_and,(aj.nL a1).1,(aj.nL a1).2]
theorem aj.nL:∀xs:List aj,jB (aj.encs xs)=true∧jY (aj.encs xs)=true
 |[]=>⟨rfl,rfl⟩
 |x::xs=>by
  have h:decide ((aj.enc x).length≤32)=true:=by rw[aj.dh];rfl
  simp only[aj.encs,jB,jY,h,(aj.fD x).1,(aj.fD x).2,(aj.nL xs).1,(aj.nL xs).2,Bool.and_self,and_self]
end
theorem aj.iF(xs:List aj):jB (xs.map aj.enc)=true∧jY (xs.map aj.enc)=true:=by rw[←aj.jw];exact aj.nL xs
theorem aT.fD(x:aT):jq x.enc=true∧jG x.enc=true:=by
 rw[aT.aH];simp only[List.cons_append,List.nil_append,jq,o8,jG,tq,gL,gM,Bool.and_true,Bool.true_and,Bool.and_self,and_self,and_true,true_and,(ah.iF x.aZ).1,(ah.iF x.aZ).2,(ah.fD x.bU).1,(ah.fD x.bU).2,tu x.aF,tC x.aF,(au.fD x.fBody).1,(au.fD x.fBody).2]
theorem aT.iF(xs:List aT):jB (xs.map aT.enc)=true∧jY (xs.map aT.enc)=true:=⟨j5 fun x _=>x.fD.1,j6 fun x _=>⟨x.fD.2,by rw[aT.dh];decide⟩⟩
theorem bg.fD(x:bg):jq x.enc=true∧jG x.enc=true:=by
 rw[bg.aH];simp only[List.cons_append,List.nil_append,jq,o8,jG,tq,gL,gM,Bool.and_true,Bool.true_and,Bool.and_self,and_self,and_true,true_and,tu x.bE,tC x.bE,(aT.iF x.aA).1,(aT.iF x.aA).2]
theorem bg.iF(xs:List bg):jB (xs.map bg.enc)=true∧jY (xs.map bg.enc)=true:=⟨j5 fun x _=>x.fD.1,j6 fun x _=>⟨x.fD.2,by rw[bg.dh];decide⟩⟩
theorem aP.fD(x:aP):jq x.enc=true∧jG x.enc=true:=by
 rw[aP.aH];simp only[List.cons_append,List.nil_append,jq,o8,jG,tq,gL,gM,Bool.and_true,Bool.true_and,Bool.and_self,and_self,and_true,true_and,(ah.iF x.eP).1,(ah.iF x.eP).2]
theorem aP.iF(xs:List aP):jB (xs.map aP.enc)=true∧jY (xs.map aP.enc)=true:=⟨j5 fun x _=>x.fD.1,j6 fun x _=>⟨x.fD.2,by rw[aP.dh];decide⟩⟩
theorem aO.fD(x:aO):jq x.enc=true∧jG x.enc=true:=by
 rw[aO.aH];simp only[List.cons_append,List.nil_append,jq,o8,jG,tq,gL,gM,Bool.and_true,Bool.true_and,Bool.and_self,and_self,and_true,true_and,tu x.aF,tC x.aF,(aP.iF x.aG).1,(aP.iF x.aG).2]
theorem aO.iF(xs:List aO):jB (xs.map aO.enc)=true∧jY (xs.map aO.enc)=true:=⟨j5 fun x _=>x.fD.1,j6 fun x _=>⟨x.fD.2,by rw[aO.dh];decide⟩⟩
theorem bB.fD(x:bB):jq x.enc=true∧jG x.enc=true:=by
 rw[bB.aH];simp only[List.cons_append,List.nil_append,jq,o8,jG,tq,gL,gM,Bool.and_true,Bool.true_and,Bool.and_self,and_self,and_true,true_and,tu x.aF,tC x.aF,(au.fD x.fBody).1,(au.fD x.fBody).2]
theorem bB.iF(xs:List bB):jB (xs.map bB.enc)=true∧jY (xs.map bB.enc)=true:=⟨j5 fun x _=>x.fD.1,j6 fun x _=>⟨x.fD.2,by rw[bB.dh];decide⟩⟩
theorem aQ.fD(x:aQ):jq x.enc=true∧jG x.enc=true:=by
 rw[aQ.aH];simp only[List.cons_append,List.nil_append,jq,o8,jG,tq,gL,gM,Bool.and_true,Bool.true_and,Bool.and_self,and_self,and_true,true_and,tu x.aF,tC x.aF,(ah.fD x.bV).1,(ah.fD x.bV).2,(bA.iF x.bY).1,(bA.iF x.bY).2,(ah.fD x.bQ).1,(ah.fD x.bQ).2,(bB.iF x.aL).1,(bB.iF x.aL).2]
theorem aQ.iF(xs:List aQ):jB (xs.map aQ.enc)=true∧jY (xs.map aQ.enc)=true:=⟨j5 fun x _=>x.fD.1,j6 fun x _=>⟨x.fD.2,by rw[aQ.dh];decide⟩⟩
theorem bG.fD(x:bG):jq x.enc=true∧jG x.enc=true:=by
 rw[bG.aH];simp only[List.cons_append,List.nil_append,jq,o8,jG,tq,gL,gM,Bool.and_true,Bool.true_and,Bool.and_self,and_self,and_true,true_and,(ah.fD x.fType).1,(ah.fD x.fType).2]
theorem bG.iF(xs:List bG):jB (xs.map bG.enc)=true∧jY (xs.map bG.enc)=true:=⟨j5 fun x _=>x.fD.1,j6 fun x _=>⟨x.fD.2,by rw[bG.dh];decide⟩⟩
theorem aS.fD(x:aS):jq x.enc=true∧jG x.enc=true:=by
 rw[aS.aH];simp only[List.cons_append,List.nil_append,jq,o8,jG,tq,gL,gM,Bool.and_true,Bool.true_and,Bool.and_self,and_self,and_true,true_and,tu x.aF,tC x.aF,(bA.iF x.bY).1,(bA.iF x.bY).2,(bG.iF x.aZ).1,(bG.iF x.aZ).2,(ah.fD x.bU).1,(ah.fD x.bU).2,(au.fD x.fBody).1,(au.fD x.fBody).2]
theorem aS.iF(xs:List aS):jB (xs.map aS.enc)=true∧jY (xs.map aS.enc)=true:=⟨j5 fun x _=>x.fD.1,j6 fun x _=>⟨x.fD.2,by rw[aS.dh];decide⟩⟩
theorem aN.fD(x:aN):jq x.enc=true∧jG x.enc=true:=by
 rw[aN.aH];simp only[List.cons_append,List.nil_append,jq,o8,jG,tq,gL,gM,Bool.and_true,Bool.true_and,Bool.and_self,and_self,and_true,true_and,tu x.dZ,tC x.dZ,(bg.iF x.aK).1,(bg.iF x.aK).2,(aO.iF x.ak).1,(aO.iF x.ak).2,(aQ.iF x.aJ).1,(aQ.iF x.aJ).2,(aS.iF x.aM).1,(aS.iF x.aM).2]
theorem aN.iF(xs:List aN):jB (xs.map aN.enc)=true∧jY (xs.map aN.enc)=true:=⟨j5 fun x _=>x.fD.1,j6 fun x _=>⟨x.fD.2,by rw[aN.dh];decide⟩⟩
theorem dw.fD(x:dw):jq x.enc=true∧jG x.enc=true:=by
 rw[dw.aH];simp only[List.cons_append,List.nil_append,jq,o8,jG,tq,gL,gM,Bool.and_true,Bool.true_and,Bool.and_self,and_self,and_true,true_and,(aN.iF x.gH).1,(aN.iF x.gH).2]
theorem dw.iF(xs:List dw):jB (xs.map dw.enc)=true∧jY (xs.map dw.enc)=true:=⟨j5 fun x _=>x.fD.1,j6 fun x _=>⟨x.fD.2,by rw[dw.dh];decide⟩⟩
theorem dN.fD(x:dN):jq x.enc=true∧jG x.enc=true:=by
 rw[dN.aH];simp only[List.cons_append,List.nil_append,jq,o8,jG,tq,gL,gM,Bool.and_true,Bool.true_and,Bool.and_self,and_self,and_true,true_and]
theorem dN.iF(xs:List dN):jB (xs.map dN.enc)=true∧jY (xs.map dN.enc)=true:=⟨j5 fun x _=>x.fD.1,j6 fun x _=>⟨x.fD.2,by rw[dN.dh];decide⟩⟩
end Go.Ab
namespace Go.Proofs.YtcfhnaohbaplhaaGreatDoor
open Go Go.Ab
end Go.Proofs.YtcfhnaohbaplhaaGreatDoor
namespace Go.Proofs.YtcfhnaohbaplhaaGreatDoor
open Go Go.Ab
theorem IB(x:aT):∀left:Int,0≤left→left≤1048576→kK x.enc→aD Tryz.prog 296 [x.v,.c (.d (.i .i64 left))] (.c (.d (.i .i64 (cB left x.sz)))):=by
 intro left h0 h1 hf S
 simp only[aT.aH,List.cons_append,List.nil_append,iG,iw,iq,and_true] at hf
 obtain⟨fName,aZ,bU,iy,aF,fBody⟩:=hf
 have hz:x.sz=x.fName.length+((x.aZ.length+aI (x.aZ.map ah.enc))+(x.bU.sz+((x.aF.length+aI (x.aF.map encS))+(x.fBody.sz)))):=by
  simp only[aT.sz,aT.aH,bH,bf,D.sz,List.length_map,Nat.add_zero,Nat.zero_add,au.cZ,ah.cZ]<;>omega
 refine aB (rs:=[.tmp 4]) Tryz.checked.mixed Tryz.func296 Tryz.ntmps296 rfl rfl rfl rfl rfl ?_
 rw[hz]
 have xu:=pK fName
 refine W1 ?_
 refine S0 (fun hb h=>?_) fun hb h=>?_
 ·exact int_eq (bT (by omega)).symm
 refine C1 (Gi x.aZ _ (by omega) (by omega) aZ) ?_
 refine S0 (fun hb h=>?_) fun hb h=>?_
 ·have h':=dA h
  exact int_eq (bT (by omega)).symm
 have IC:=dO h
 simp only[IC.1]
 refine C1 (qY x.bU _ (by omega) (by omega) bU) ?_
 refine S0 (fun hb h=>?_) fun hb h=>?_
 ·have h':=dA h
  exact int_eq (bT (by omega)).symm
 have IE:=dO h
 simp only[IE.1]
 refine C1 (mo x.aF _ (by omega) (by omega) aF) ?_
 refine S0 (fun hb h=>?_) fun hb h=>?_
 ·have h':=dA h
  exact int_eq (bT (by omega)).symm
 have hVars:=dO h
 simp only[hVars.1]
 refine C1 (Ce x.fBody _ (by omega) (by omega) fBody) ?_
 refine S0 (fun hb h=>?_) fun hb h=>?_
 ·have h':=dA h
  exact int_eq (bT (by omega)).symm
 have AJ:=dO h
 simp only[AJ.1]
 refine int_eq ?_
 rw[fq (by omega)]
 omega
theorem GI(xs:List aT):∀left:Int,0≤left→left≤1048576→(D.sl (xs.map aT.enc)).Fit→aD Tryz.prog 212 [.c (.d (.sl (xs.map aT.enc))),.c (.d (.i .i64 left))] (.c (.d (.i .i64 (cB left (xs.length+aI (xs.map aT.enc)))))):=by
 intro left h0 h1 hf S
 obtain⟨hf1,hf2⟩:=nY hf
 rw[List.length_map] at hf1
 refine aB (rs:=[.tmp 4]) Tryz.checked.mixed Tryz.func212 Tryz.ntmps212 rfl rfl rfl rfl rfl ?_
 refine W1 ?_
 refine S0 (fun hb h=>?_) fun hb h=>?_
 ·exact int_eq (bT (by omega)).symm
 refine aR (ι:=Nat×Int) Tryz.checked.mixed rfl [0,1,5] (fun y=>[.c (.d (.sl (xs.map aT.enc))),.c (.d (.i .i64 y.2)),.c (.d (.i .i64 y.1))]) (fun _=>[]::S)
  (fun y=>y.1≤xs.length∧0≤y.2∧y.2≤1048576∧cB y.2 (aI ((xs.map aT.enc).drop y.1))=cB left (xs.length+aI (xs.map aT.enc))) (fun y=>xs.length-y.1) (0,left-xs.length) rfl rfl ⟨by omega,by omega,by omega,?_⟩ ?_
 ·unfold cB
  rw[List.drop_zero]
  split<;>split<;>omega
 rintro⟨i,l⟩ ⟨p1,p2,p3,p4⟩
 simp only at p1 p2 p3 p4
 refine W1 ?_
 refine S0 (fun hb h=>?_) fun hb h=>?_
 ·have hi:i<xs.length:=by omega
  rw[List.drop_eq_getElem_cons (by rw[List.length_map];exact hi),aI,List.getElem_map,aT.cZ] at p4
  refine W3 ?_
  refine C1 (IB xs[i] _ (by omega) (by omega) (hf2 _ (List.mem_map_of_mem (List.getElem_mem hi)))) ?_
  refine S0 (fun hb h=>?_) fun hb h=>?_
  ·have h':=dA h
   rw[←p4,bT (by omega)]
  ·have h':=dO h
   refine bF (i+1,cB l _) (by simp only;omega) rfl rfl ⟨by simp only;omega,by simp only;omega,by simp only;omega,?_⟩
   simp only
   rw[←p4,h'.1]
   unfold cB
   split<;>split<;>omega
 ·have hi:i=xs.length:=by omega
  rw[hi,List.drop_of_length_le (by simp),aI,fq (by omega)] at p4
  rw[←p4]
  refine int_eq ?_
  omega
theorem IG(x:aT):x.sz≤1048576→aD Tryz.prog 308 [x.v] x.v:=by
 intro hsz S
 simp only[aT.sz,aT.aH,bH,bf,D.sz,List.length_map,au.cZ,ah.cZ] at hsz
 refine aB (rs:=[.cell 2 259]) Tryz.checked.mixed Tryz.func308 Tryz.ntmps308 rfl rfl rfl rfl rfl ?_
 refine W1 ?_
 refine C1 (Gj x.aZ (by omega)) ?_
 refine C1 (qZ x.bU (by omega)) ?_
 refine C1 (mq x.aF (by omega)) ?_
 exact C3 (Cg x.fBody (by omega))
theorem GJ(xs:List aT):xs.length+aI (xs.map aT.enc)≤1048576→aD Tryz.prog 223 [.c (.d (.sl (xs.map aT.enc)))] (.c (.d (.sl (xs.map aT.enc)))):=by
 intro hsz S
 refine aB (rs:=[.tmp 2]) Tryz.checked.mixed Tryz.func223 Tryz.ntmps223 rfl rfl rfl rfl rfl ?_
 refine W1 ?_
 refine W3 ?_
 refine aR (ι:=Nat×List (List D)) Tryz.checked.mixed rfl [0,3,4] (fun y=>[.c (.d (.sl (xs.map aT.enc))),.c (.jd (0,0)),.c (.d (.i .i64 y.1))]) (fun y=>[.eT 16 y.2]::S)
  (fun y=>y.1≤xs.length∧fI 16 y.1 y.2 (xs.map aT.enc)) (fun y=>xs.length-y.1) (0,_) rfl rfl ⟨Nat.zero_le _,fI.start (by simp) rfl⟩ ?_
 rintro⟨i,R⟩ ⟨p1,p2⟩
 simp only at p1 p2
 refine W1 ?_
 refine S0 (fun hb h=>?_) fun hb h=>?_
 ·have hi:i<xs.length:=by omega
  have hx:xs[i].sz≤aI (xs.map aT.enc):=bD (List.mem_map_of_mem (List.getElem_mem hi))
  refine W3 ?_
  refine C1 (IG xs[i] (by omega)) ?_
  have hR:=p2.1
  rw[List.length_map] at hR
  refine W3 ?_
  refine bF (i+1,_) (by simp only;omega) rfl rfl ⟨by simp only;omega,p2.step (by simp[hi,au.aH,aT.aH,ah.aH]) rfl⟩
 ·have hi:i=xs.length:=by omega
  rw[p2.done (by rw[List.length_map];omega)]
theorem II(x:aT):∀y:aT,x.sz≤1048576→aD Tryz.prog 313 [x.v,y.v] (.c (.d (.b (dec (x=y))))):=by
 intro y hsz S
 simp only[aT.sz,aT.aH,bH,bf,D.sz,List.length_map,au.cZ,ah.cZ] at hsz
 refine aB (rs:=[.tmp 4]) Tryz.checked.mixed Tryz.func313 Tryz.ntmps313 rfl rfl rfl rfl rfl ?_
 refine W1 ?_
 refine S0 (fun hb h=>?_) fun hb h=>?_
 ·exact ay (aC (fun e=>h (by rw[e]))).symm
 have ni:=h
 clear h
 refine C1 (Gl x.aZ _ (by omega)) ?_
 refine S0 (fun hb h=>?_) fun hb h=>?_
 ·exact ay (aC (fun e=>h (by rw[e]))).symm
 have IJ:=h
 clear h
 refine C1 (q8 x.bU _ (by omega)) ?_
 refine S0 (fun hb h=>?_) fun hb h=>?_
 ·exact ay (aC (fun e=>h (by rw[e]))).symm
 have IK:=h
 clear h
 refine S0 (fun hb h=>?_) fun hb h=>?_
 ·exact ay (aC (fun e=>h (by rw[e]))).symm
 have Ph:=h
 clear h
 refine C1 (mD x.aF _ (by omega)) ?_
 refine S0 (fun hb h=>?_) fun hb h=>?_
 ·exact ay (aC (fun e=>h (by rw[e]))).symm
 have uw:=h
 clear h
 refine C1 (Ch x.fBody _ (by omega)) ?_
 refine S0 (fun hb h=>?_) fun hb h=>?_
 ·exact ay (aC (fun e=>h (by rw[e]))).symm
 have AL:=h
 clear h
 exact ay (bq (aT.ext' ni IJ IK Ph uw AL)).symm
theorem GK(xs:List aT):∀ys:List aT,xs.length+aI (xs.map aT.enc)≤1048576→aD Tryz.prog 230 [.c (.d (.sl (xs.map aT.enc))),.c (.d (.sl (ys.map aT.enc)))] (.c (.d (.b (dec (xs=ys))))):=by
 intro ys hsz S
 refine aB (rs:=[.tmp 4]) Tryz.checked.mixed Tryz.func230 Tryz.ntmps230 rfl rfl rfl rfl rfl ?_
 refine W1 ?_
 refine S0 (fun hb h=>?_) fun hb h=>?_
 ·exact ay (aC (fun e=>h (by rw[e]))).symm
 have hl:xs.length=ys.length:=by omega
 refine aR (ι:=Nat) Tryz.checked.mixed rfl [0,1,5] (fun y=>[.c (.d (.sl (xs.map aT.enc))),.c (.d (.sl (ys.map aT.enc))),.c (.d (.i .i64 y))]) (fun y=>[]::S)
  (fun i=>i≤xs.length∧∀j,j<i→xs[j]? =ys[j]?) (fun y=>xs.length-y) 0 rfl rfl ⟨Nat.zero_le _,fun j h=>by omega⟩ ?_
 rintro i ⟨p1,p2⟩
 refine W1 ?_
 refine S0 (fun hb h=>?_) fun hb h=>?_
 ·have hi:i<xs.length:=by omega
  have hi':i<ys.length:=by omega
  have hx:xs[i].sz≤aI (xs.map aT.enc):=bD (List.mem_map_of_mem (List.getElem_mem hi))
  refine W3 ?_
  refine C1 (II xs[i] ys[i] (by omega)) ?_
  refine S0 (fun hb h=>?_) fun hb h=>?_
  ·exact ay (aC (fun e=>h (by simp only[e]))).symm
  refine bF (i+1) (by omega) rfl rfl ⟨by omega,fun j hj=> ?_⟩
  by_cases e:j=i
  ·subst e
   rw[List.getElem?_eq_getElem hi,List.getElem?_eq_getElem hi',h]
  ·exact p2 j (by omega)
 ·have hi:i=xs.length:=by omega
  refine ay (bq (List.ext_getElem? fun j=> ?_)).symm
  by_cases hj:j<i
  ·exact p2 j hj
  ·rw[List.getElem?_eq_none (by omega),List.getElem?_eq_none (by omega)]
end Go.Proofs.YtcfhnaohbaplhaaGreatDoor
namespace Go.Proofs.YtcfhnaohbaplhaaGreatDoor
open Go Go.Ab
theorem SB(x:bg):∀left:Int,0≤left→left≤1048576→kK x.enc→aD Tryz.prog 123 [x.v,.c (.d (.i .i64 left))] (.c (.d (.i .i64 (cB left x.sz)))):=by
 intro left h0 h1 hf S
 simp only[bg.aH,List.cons_append,List.nil_append,iG,iw,iq,and_true] at hf
 obtain⟨fName,bE,nO,bQ,aA⟩:=hf
 have hz:x.sz=x.fName.length+((x.bE.length+aI (x.bE.map encS))+((x.aA.length+aI (x.aA.map aT.enc)))):=by
  simp only[bg.sz,bg.aH,bH,bf,D.sz,List.length_map,Nat.add_zero,Nat.zero_add]<;>omega
 refine aB (rs:=[.tmp 4]) Tryz.checked.mixed Tryz.func123 Tryz.ntmps123 rfl rfl rfl rfl rfl ?_
 rw[hz]
 have xu:=pK fName
 refine W1 ?_
 refine S0 (fun hb h=>?_) fun hb h=>?_
 ·exact int_eq (bT (by omega)).symm
 refine C1 (mo x.bE _ (by omega) (by omega) bE) ?_
 refine S0 (fun hb h=>?_) fun hb h=>?_
 ·have h':=dA h
  exact int_eq (bT (by omega)).symm
 have Nv:=dO h
 simp only[Nv.1]
 refine C1 (GI x.aA _ (by omega) (by omega) aA) ?_
 refine S0 (fun hb h=>?_) fun hb h=>?_
 ·have h':=dA h
  exact int_eq (bT (by omega)).symm
 have Pj:=dO h
 simp only[Pj.1]
 refine int_eq ?_
 rw[fq (by omega)]
 omega
theorem Pk(xs:List bg):∀left:Int,0≤left→left≤1048576→(D.sl (xs.map bg.enc)).Fit→aD Tryz.prog 53 [.c (.d (.sl (xs.map bg.enc))),.c (.d (.i .i64 left))] (.c (.d (.i .i64 (cB left (xs.length+aI (xs.map bg.enc)))))):=by
 intro left h0 h1 hf S
 obtain⟨hf1,hf2⟩:=nY hf
 rw[List.length_map] at hf1
 refine aB (rs:=[.tmp 4]) Tryz.checked.mixed Tryz.func53 Tryz.ntmps53 rfl rfl rfl rfl rfl ?_
 refine W1 ?_
 refine S0 (fun hb h=>?_) fun hb h=>?_
 ·exact int_eq (bT (by omega)).symm
 refine aR (ι:=Nat×Int) Tryz.checked.mixed rfl [0,1,5] (fun y=>[.c (.d (.sl (xs.map bg.enc))),.c (.d (.i .i64 y.2)),.c (.d (.i .i64 y.1))]) (fun _=>[]::S)
  (fun y=>y.1≤xs.length∧0≤y.2∧y.2≤1048576∧cB y.2 (aI ((xs.map bg.enc).drop y.1))=cB left (xs.length+aI (xs.map bg.enc))) (fun y=>xs.length-y.1) (0,left-xs.length) rfl rfl ⟨by omega,by omega,by omega,?_⟩ ?_
 ·unfold cB
  rw[List.drop_zero]
  split<;>split<;>omega
 rintro⟨i,l⟩ ⟨p1,p2,p3,p4⟩
 simp only at p1 p2 p3 p4
 refine W1 ?_
 refine S0 (fun hb h=>?_) fun hb h=>?_
 ·have hi:i<xs.length:=by omega
  rw[List.drop_eq_getElem_cons (by rw[List.length_map];exact hi),aI,List.getElem_map,bg.cZ] at p4
  refine W3 ?_
  refine C1 (SB xs[i] _ (by omega) (by omega) (hf2 _ (List.mem_map_of_mem (List.getElem_mem hi)))) ?_
  refine S0 (fun hb h=>?_) fun hb h=>?_
  ·have h':=dA h
   rw[←p4,bT (by omega)]
  ·have h':=dO h
   refine bF (i+1,cB l _) (by simp only;omega) rfl rfl ⟨by simp only;omega,by simp only;omega,by simp only;omega,?_⟩
   simp only
   rw[←p4,h'.1]
   unfold cB
   split<;>split<;>omega
 ·have hi:i=xs.length:=by omega
  rw[hi,List.drop_of_length_le (by simp),aI,fq (by omega)] at p4
  rw[←p4]
  refine int_eq ?_
  omega
theorem SC(x:bg):x.sz≤1048576→aD Tryz.prog 135 [x.v] x.v:=by
 intro hsz S
 simp only[bg.sz,bg.aH,bH,bf,D.sz,List.length_map] at hsz
 refine aB (rs:=[.cell 2 184]) Tryz.checked.mixed Tryz.func135 Tryz.ntmps135 rfl rfl rfl rfl rfl ?_
 refine W1 ?_
 refine C1 (mq x.bE (by omega)) ?_
 exact C3 (GJ x.aA (by omega))
theorem Pm(xs:List bg):xs.length+aI (xs.map bg.enc)≤1048576→aD Tryz.prog 59 [.c (.d (.sl (xs.map bg.enc)))] (.c (.d (.sl (xs.map bg.enc)))):=by
 intro hsz S
 refine aB (rs:=[.tmp 2]) Tryz.checked.mixed Tryz.func59 Tryz.ntmps59 rfl rfl rfl rfl rfl ?_
 refine W1 ?_
 refine W3 ?_
 refine aR (ι:=Nat×List (List D)) Tryz.checked.mixed rfl [0,3,4] (fun y=>[.c (.d (.sl (xs.map bg.enc))),.c (.jd (0,0)),.c (.d (.i .i64 y.1))]) (fun y=>[.eT 5 y.2]::S)
  (fun y=>y.1≤xs.length∧fI 5 y.1 y.2 (xs.map bg.enc)) (fun y=>xs.length-y.1) (0,_) rfl rfl ⟨Nat.zero_le _,fI.start (by simp) rfl⟩ ?_
 rintro⟨i,R⟩ ⟨p1,p2⟩
 simp only at p1 p2
 refine W1 ?_
 refine S0 (fun hb h=>?_) fun hb h=>?_
 ·have hi:i<xs.length:=by omega
  have hx:xs[i].sz≤aI (xs.map bg.enc):=bD (List.mem_map_of_mem (List.getElem_mem hi))
  refine W3 ?_
  refine C1 (SC xs[i] (by omega)) ?_
  have hR:=p2.1
  rw[List.length_map] at hR
  refine W3 ?_
  refine bF (i+1,_) (by simp only;omega) rfl rfl ⟨by simp only;omega,p2.step (by simp[hi,bg.aH]) rfl⟩
 ·have hi:i=xs.length:=by omega
  rw[p2.done (by rw[List.length_map];omega)]
theorem SE(x:bg):∀y:bg,x.sz≤1048576→aD Tryz.prog 146 [x.v,y.v] (.c (.d (.b (dec (x=y))))):=by
 intro y hsz S
 simp only[bg.sz,bg.aH,bH,bf,D.sz,List.length_map] at hsz
 refine aB (rs:=[.tmp 4]) Tryz.checked.mixed Tryz.func146 Tryz.ntmps146 rfl rfl rfl rfl rfl ?_
 refine W1 ?_
 refine S0 (fun hb h=>?_) fun hb h=>?_
 ·exact ay (aC (fun e=>h (by rw[e]))).symm
 have ni:=h
 clear h
 refine C1 (mD x.bE _ (by omega)) ?_
 refine S0 (fun hb h=>?_) fun hb h=>?_
 ·exact ay (aC (fun e=>h (by rw[e]))).symm
 have Nw:=h
 clear h
 refine S0 (fun hb h=>?_) fun hb h=>?_
 ·exact ay (aC (fun e=>h (by rw[e]))).symm
 have adW:=h
 clear h
 refine S0 (fun hb h=>?_) fun hb h=>?_
 ·exact ay (aC (fun e=>h (by rw[e]))).symm
 have Ny:=h
 clear h
 refine C1 (GK x.aA _ (by omega)) ?_
 refine S0 (fun hb h=>?_) fun hb h=>?_
 ·exact ay (aC (fun e=>h (by rw[e]))).symm
 have Pn:=h
 clear h
 exact ay (bq (bg.ext' ni Nw adW Ny Pn)).symm
theorem Po(xs:List bg):∀ys:List bg,xs.length+aI (xs.map bg.enc)≤1048576→aD Tryz.prog 65 [.c (.d (.sl (xs.map bg.enc))),.c (.d (.sl (ys.map bg.enc)))] (.c (.d (.b (dec (xs=ys))))):=by
 intro ys hsz S
 refine aB (rs:=[.tmp 4]) Tryz.checked.mixed Tryz.func65 Tryz.ntmps65 rfl rfl rfl rfl rfl ?_
 refine W1 ?_
 refine S0 (fun hb h=>?_) fun hb h=>?_
 ·exact ay (aC (fun e=>h (by rw[e]))).symm
 have hl:xs.length=ys.length:=by omega
 refine aR (ι:=Nat) Tryz.checked.mixed rfl [0,1,5] (fun y=>[.c (.d (.sl (xs.map bg.enc))),.c (.d (.sl (ys.map bg.enc))),.c (.d (.i .i64 y))]) (fun y=>[]::S)
  (fun i=>i≤xs.length∧∀j,j<i→xs[j]? =ys[j]?) (fun y=>xs.length-y) 0 rfl rfl ⟨Nat.zero_le _,fun j h=>by omega⟩ ?_
 rintro i ⟨p1,p2⟩
 refine W1 ?_
 refine S0 (fun hb h=>?_) fun hb h=>?_
 ·have hi:i<xs.length:=by omega
  have hi':i<ys.length:=by omega
  have hx:xs[i].sz≤aI (xs.map bg.enc):=bD (List.mem_map_of_mem (List.getElem_mem hi))
  refine W3 ?_
  refine C1 (SE xs[i] ys[i] (by omega)) ?_
  refine S0 (fun hb h=>?_) fun hb h=>?_
  ·exact ay (aC (fun e=>h (by simp only[e]))).symm
  refine bF (i+1) (by omega) rfl rfl ⟨by omega,fun j hj=> ?_⟩
  by_cases e:j=i
  ·subst e
   rw[List.getElem?_eq_getElem hi,List.getElem?_eq_getElem hi',h]
  ·exact p2 j (by omega)
 ·have hi:i=xs.length:=by omega
  refine ay (bq (List.ext_getElem? fun j=> ?_)).symm
  by_cases hj:j<i
  ·exact p2 j hj
  ·rw[List.getElem?_eq_none (by omega),List.getElem?_eq_none (by omega)]
end Go.Proofs.YtcfhnaohbaplhaaGreatDoor
namespace Go.Proofs.YtcfhnaohbaplhaaGreatDoor
open Go Go.Ab
theorem EG(x:aP):∀left:Int,0≤left→left≤1048576→kK x.enc→aD Tryz.prog 297 [x.v,.c (.d (.i .i64 left))] (.c (.d (.i .i64 (cB left x.sz)))):=by
 intro left h0 h1 hf S
 simp only[aP.aH,List.cons_append,List.nil_append,iG,iw,iq,and_true] at hf
 obtain⟨fName,eP⟩:=hf
 have hz:x.sz=x.fName.length+((x.eP.length+aI (x.eP.map ah.enc))):=by
  simp only[aP.sz,aP.aH,bH,bf,D.sz,List.length_map,Nat.add_zero,Nat.zero_add]<;>omega
 refine aB (rs:=[.tmp 4]) Tryz.checked.mixed Tryz.func297 Tryz.ntmps297 rfl rfl rfl rfl rfl ?_
 rw[hz]
 have xu:=pK fName
 refine W1 ?_
 refine S0 (fun hb h=>?_) fun hb h=>?_
 ·exact int_eq (bT (by omega)).symm
 refine C1 (Gi x.eP _ (by omega) (by omega) eP) ?_
 refine S0 (fun hb h=>?_) fun hb h=>?_
 ·have h':=dA h
  exact int_eq (bT (by omega)).symm
 have aai:=dO h
 simp only[aai.1]
 refine int_eq ?_
 rw[fq (by omega)]
 omega
theorem Dx(xs:List aP):∀left:Int,0≤left→left≤1048576→(D.sl (xs.map aP.enc)).Fit→aD Tryz.prog 213 [.c (.d (.sl (xs.map aP.enc))),.c (.d (.i .i64 left))] (.c (.d (.i .i64 (cB left (xs.length+aI (xs.map aP.enc)))))):=by
 intro left h0 h1 hf S
 obtain⟨hf1,hf2⟩:=nY hf
 rw[List.length_map] at hf1
 refine aB (rs:=[.tmp 4]) Tryz.checked.mixed Tryz.func213 Tryz.ntmps213 rfl rfl rfl rfl rfl ?_
 refine W1 ?_
 refine S0 (fun hb h=>?_) fun hb h=>?_
 ·exact int_eq (bT (by omega)).symm
 refine aR (ι:=Nat×Int) Tryz.checked.mixed rfl [0,1,5] (fun y=>[.c (.d (.sl (xs.map aP.enc))),.c (.d (.i .i64 y.2)),.c (.d (.i .i64 y.1))]) (fun _=>[]::S)
  (fun y=>y.1≤xs.length∧0≤y.2∧y.2≤1048576∧cB y.2 (aI ((xs.map aP.enc).drop y.1))=cB left (xs.length+aI (xs.map aP.enc))) (fun y=>xs.length-y.1) (0,left-xs.length) rfl rfl ⟨by omega,by omega,by omega,?_⟩ ?_
 ·unfold cB
  rw[List.drop_zero]
  split<;>split<;>omega
 rintro⟨i,l⟩ ⟨p1,p2,p3,p4⟩
 simp only at p1 p2 p3 p4
 refine W1 ?_
 refine S0 (fun hb h=>?_) fun hb h=>?_
 ·have hi:i<xs.length:=by omega
  rw[List.drop_eq_getElem_cons (by rw[List.length_map];exact hi),aI,List.getElem_map,aP.cZ] at p4
  refine W3 ?_
  refine C1 (EG xs[i] _ (by omega) (by omega) (hf2 _ (List.mem_map_of_mem (List.getElem_mem hi)))) ?_
  refine S0 (fun hb h=>?_) fun hb h=>?_
  ·have h':=dA h
   rw[←p4,bT (by omega)]
  ·have h':=dO h
   refine bF (i+1,cB l _) (by simp only;omega) rfl rfl ⟨by simp only;omega,by simp only;omega,by simp only;omega,?_⟩
   simp only
   rw[←p4,h'.1]
   unfold cB
   split<;>split<;>omega
 ·have hi:i=xs.length:=by omega
  rw[hi,List.drop_of_length_le (by simp),aI,fq (by omega)] at p4
  rw[←p4]
  refine int_eq ?_
  omega
theorem EH(x:aP):x.sz≤1048576→aD Tryz.prog 309 [x.v] x.v:=by
 intro hsz S
 simp only[aP.sz,aP.aH,bH,bf,D.sz,List.length_map] at hsz
 refine aB (rs:=[.cell 2 262]) Tryz.checked.mixed Tryz.func309 Tryz.ntmps309 rfl rfl rfl rfl rfl ?_
 refine W1 ?_
 exact C3 (Gj x.eP (by omega))
theorem Dy(xs:List aP):xs.length+aI (xs.map aP.enc)≤1048576→aD Tryz.prog 224 [.c (.d (.sl (xs.map aP.enc)))] (.c (.d (.sl (xs.map aP.enc)))):=by
 intro hsz S
 refine aB (rs:=[.tmp 2]) Tryz.checked.mixed Tryz.func224 Tryz.ntmps224 rfl rfl rfl rfl rfl ?_
 refine W1 ?_
 refine W3 ?_
 refine aR (ι:=Nat×List (List D)) Tryz.checked.mixed rfl [0,3,4] (fun y=>[.c (.d (.sl (xs.map aP.enc))),.c (.jd (0,0)),.c (.d (.i .i64 y.1))]) (fun y=>[.eT 2 y.2]::S)
  (fun y=>y.1≤xs.length∧fI 2 y.1 y.2 (xs.map aP.enc)) (fun y=>xs.length-y.1) (0,_) rfl rfl ⟨Nat.zero_le _,fI.start (by simp) rfl⟩ ?_
 rintro⟨i,R⟩ ⟨p1,p2⟩
 simp only at p1 p2
 refine W1 ?_
 refine S0 (fun hb h=>?_) fun hb h=>?_
 ·have hi:i<xs.length:=by omega
  have hx:xs[i].sz≤aI (xs.map aP.enc):=bD (List.mem_map_of_mem (List.getElem_mem hi))
  refine W3 ?_
  refine C1 (EH xs[i] (by omega)) ?_
  have hR:=p2.1
  rw[List.length_map] at hR
  refine W3 ?_
  refine bF (i+1,_) (by simp only;omega) rfl rfl ⟨by simp only;omega,p2.step (by simp[hi,aP.aH]) rfl⟩
 ·have hi:i=xs.length:=by omega
  rw[p2.done (by rw[List.length_map];omega)]
theorem EI(x:aP):∀y:aP,x.sz≤1048576→aD Tryz.prog 314 [x.v,y.v] (.c (.d (.b (dec (x=y))))):=by
 intro y hsz S
 simp only[aP.sz,aP.aH,bH,bf,D.sz,List.length_map] at hsz
 refine aB (rs:=[.tmp 4]) Tryz.checked.mixed Tryz.func314 Tryz.ntmps314 rfl rfl rfl rfl rfl ?_
 refine W1 ?_
 refine S0 (fun hb h=>?_) fun hb h=>?_
 ·exact ay (aC (fun e=>h (by rw[e]))).symm
 have ni:=h
 clear h
 refine C1 (Gl x.eP _ (by omega)) ?_
 refine S0 (fun hb h=>?_) fun hb h=>?_
 ·exact ay (aC (fun e=>h (by rw[e]))).symm
 have aaj:=h
 clear h
 exact ay (bq (aP.ext' ni aaj)).symm
theorem Dz(xs:List aP):∀ys:List aP,xs.length+aI (xs.map aP.enc)≤1048576→aD Tryz.prog 231 [.c (.d (.sl (xs.map aP.enc))),.c (.d (.sl (ys.map aP.enc)))] (.c (.d (.b (dec (xs=ys))))):=by
 intro ys hsz S
 refine aB (rs:=[.tmp 4]) Tryz.checked.mixed Tryz.func231 Tryz.ntmps231 rfl rfl rfl rfl rfl ?_
 refine W1 ?_
 refine S0 (fun hb h=>?_) fun hb h=>?_
 ·exact ay (aC (fun e=>h (by rw[e]))).symm
 have hl:xs.length=ys.length:=by omega
 refine aR (ι:=Nat) Tryz.checked.mixed rfl [0,1,5] (fun y=>[.c (.d (.sl (xs.map aP.enc))),.c (.d (.sl (ys.map aP.enc))),.c (.d (.i .i64 y))]) (fun y=>[]::S)
  (fun i=>i≤xs.length∧∀j,j<i→xs[j]? =ys[j]?) (fun y=>xs.length-y) 0 rfl rfl ⟨Nat.zero_le _,fun j h=>by omega⟩ ?_
 rintro i ⟨p1,p2⟩
 refine W1 ?_
 refine S0 (fun hb h=>?_) fun hb h=>?_
 ·have hi:i<xs.length:=by omega
  have hi':i<ys.length:=by omega
  have hx:xs[i].sz≤aI (xs.map aP.enc):=bD (List.mem_map_of_mem (List.getElem_mem hi))
  refine W3 ?_
  refine C1 (EI xs[i] ys[i] (by omega)) ?_
  refine S0 (fun hb h=>?_) fun hb h=>?_
  ·exact ay (aC (fun e=>h (by simp only[e]))).symm
  refine bF (i+1) (by omega) rfl rfl ⟨by omega,fun j hj=> ?_⟩
  by_cases e:j=i
  ·subst e
   rw[List.getElem?_eq_getElem hi,List.getElem?_eq_getElem hi',h]
  ·exact p2 j (by omega)
 ·have hi:i=xs.length:=by omega
  refine ay (bq (List.ext_getElem? fun j=> ?_)).symm
  by_cases hj:j<i
  ·exact p2 j hj
  ·rw[List.getElem?_eq_none (by omega),List.getElem?_eq_none (by omega)]
end Go.Proofs.YtcfhnaohbaplhaaGreatDoor
namespace Go.Proofs.YtcfhnaohbaplhaaGreatDoor
open Go Go.Ab
theorem KF(x:aO):∀left:Int,0≤left→left≤1048576→kK x.enc→aD Tryz.prog 124 [x.v,.c (.d (.i .i64 left))] (.c (.d (.i .i64 (cB left x.sz)))):=by
 intro left h0 h1 hf S
 simp only[aO.aH,List.cons_append,List.nil_append,iG,iw,iq,and_true] at hf
 obtain⟨fName,aF,aG⟩:=hf
 have hz:x.sz=x.fName.length+((x.aF.length+aI (x.aF.map encS))+((x.aG.length+aI (x.aG.map aP.enc)))):=by
  simp only[aO.sz,aO.aH,bH,bf,D.sz,List.length_map,Nat.add_zero,Nat.zero_add]<;>omega
 refine aB (rs:=[.tmp 4]) Tryz.checked.mixed Tryz.func124 Tryz.ntmps124 rfl rfl rfl rfl rfl ?_
 rw[hz]
 have xu:=pK fName
 refine W1 ?_
 refine S0 (fun hb h=>?_) fun hb h=>?_
 ·exact int_eq (bT (by omega)).symm
 refine C1 (mo x.aF _ (by omega) (by omega) aF) ?_
 refine S0 (fun hb h=>?_) fun hb h=>?_
 ·have h':=dA h
  exact int_eq (bT (by omega)).symm
 have hVars:=dO h
 simp only[hVars.1]
 refine C1 (Dx x.aG _ (by omega) (by omega) aG) ?_
 refine S0 (fun hb h=>?_) fun hb h=>?_
 ·have h':=dA h
  exact int_eq (bT (by omega)).symm
 have KG:=dO h
 simp only[KG.1]
 refine int_eq ?_
 rw[fq (by omega)]
 omega
theorem IL(xs:List aO):∀left:Int,0≤left→left≤1048576→(D.sl (xs.map aO.enc)).Fit→aD Tryz.prog 54 [.c (.d (.sl (xs.map aO.enc))),.c (.d (.i .i64 left))] (.c (.d (.i .i64 (cB left (xs.length+aI (xs.map aO.enc)))))):=by
 intro left h0 h1 hf S
 obtain⟨hf1,hf2⟩:=nY hf
 rw[List.length_map] at hf1
 refine aB (rs:=[.tmp 4]) Tryz.checked.mixed Tryz.func54 Tryz.ntmps54 rfl rfl rfl rfl rfl ?_
 refine W1 ?_
 refine S0 (fun hb h=>?_) fun hb h=>?_
 ·exact int_eq (bT (by omega)).symm
 refine aR (ι:=Nat×Int) Tryz.checked.mixed rfl [0,1,5] (fun y=>[.c (.d (.sl (xs.map aO.enc))),.c (.d (.i .i64 y.2)),.c (.d (.i .i64 y.1))]) (fun _=>[]::S)
  (fun y=>y.1≤xs.length∧0≤y.2∧y.2≤1048576∧cB y.2 (aI ((xs.map aO.enc).drop y.1))=cB left (xs.length+aI (xs.map aO.enc))) (fun y=>xs.length-y.1) (0,left-xs.length) rfl rfl ⟨by omega,by omega,by omega,?_⟩ ?_
 ·unfold cB
  rw[List.drop_zero]
  split<;>split<;>omega
 rintro⟨i,l⟩ ⟨p1,p2,p3,p4⟩
 simp only at p1 p2 p3 p4
 refine W1 ?_
 refine S0 (fun hb h=>?_) fun hb h=>?_
 ·have hi:i<xs.length:=by omega
  rw[List.drop_eq_getElem_cons (by rw[List.length_map];exact hi),aI,List.getElem_map,aO.cZ] at p4
  refine W3 ?_
  refine C1 (KF xs[i] _ (by omega) (by omega) (hf2 _ (List.mem_map_of_mem (List.getElem_mem hi)))) ?_
  refine S0 (fun hb h=>?_) fun hb h=>?_
  ·have h':=dA h
   rw[←p4,bT (by omega)]
  ·have h':=dO h
   refine bF (i+1,cB l _) (by simp only;omega) rfl rfl ⟨by simp only;omega,by simp only;omega,by simp only;omega,?_⟩
   simp only
   rw[←p4,h'.1]
   unfold cB
   split<;>split<;>omega
 ·have hi:i=xs.length:=by omega
  rw[hi,List.drop_of_length_le (by simp),aI,fq (by omega)] at p4
  rw[←p4]
  refine int_eq ?_
  omega
theorem KH(x:aO):x.sz≤1048576→aD Tryz.prog 136 [x.v] x.v:=by
 intro hsz S
 simp only[aO.sz,aO.aH,bH,bf,D.sz,List.length_map] at hsz
 refine aB (rs:=[.cell 2 188]) Tryz.checked.mixed Tryz.func136 Tryz.ntmps136 rfl rfl rfl rfl rfl ?_
 refine W1 ?_
 refine C1 (mq x.aF (by omega)) ?_
 exact C3 (Dy x.aG (by omega))
theorem IQ(xs:List aO):xs.length+aI (xs.map aO.enc)≤1048576→aD Tryz.prog 60 [.c (.d (.sl (xs.map aO.enc)))] (.c (.d (.sl (xs.map aO.enc)))):=by
 intro hsz S
 refine aB (rs:=[.tmp 2]) Tryz.checked.mixed Tryz.func60 Tryz.ntmps60 rfl rfl rfl rfl rfl ?_
 refine W1 ?_
 refine W3 ?_
 refine aR (ι:=Nat×List (List D)) Tryz.checked.mixed rfl [0,3,4] (fun y=>[.c (.d (.sl (xs.map aO.enc))),.c (.jd (0,0)),.c (.d (.i .i64 y.1))]) (fun y=>[.eT 3 y.2]::S)
  (fun y=>y.1≤xs.length∧fI 3 y.1 y.2 (xs.map aO.enc)) (fun y=>xs.length-y.1) (0,_) rfl rfl ⟨Nat.zero_le _,fI.start (by simp) rfl⟩ ?_
 rintro⟨i,R⟩ ⟨p1,p2⟩
 simp only at p1 p2
 refine W1 ?_
 refine S0 (fun hb h=>?_) fun hb h=>?_
 ·have hi:i<xs.length:=by omega
  have hx:xs[i].sz≤aI (xs.map aO.enc):=bD (List.mem_map_of_mem (List.getElem_mem hi))
  refine W3 ?_
  refine C1 (KH xs[i] (by omega)) ?_
  have hR:=p2.1
  rw[List.length_map] at hR
  refine W3 ?_
  refine bF (i+1,_) (by simp only;omega) rfl rfl ⟨by simp only;omega,p2.step (by simp[hi,aO.aH]) rfl⟩
 ·have hi:i=xs.length:=by omega
  rw[p2.done (by rw[List.length_map];omega)]
theorem KI(x:aO):∀y:aO,x.sz≤1048576→aD Tryz.prog 147 [x.v,y.v] (.c (.d (.b (dec (x=y))))):=by
 intro y hsz S
 simp only[aO.sz,aO.aH,bH,bf,D.sz,List.length_map] at hsz
 refine aB (rs:=[.tmp 4]) Tryz.checked.mixed Tryz.func147 Tryz.ntmps147 rfl rfl rfl rfl rfl ?_
 refine W1 ?_
 refine S0 (fun hb h=>?_) fun hb h=>?_
 ·exact ay (aC (fun e=>h (by rw[e]))).symm
 have ni:=h
 clear h
 refine C1 (mD x.aF _ (by omega)) ?_
 refine S0 (fun hb h=>?_) fun hb h=>?_
 ·exact ay (aC (fun e=>h (by rw[e]))).symm
 have uw:=h
 clear h
 refine C1 (Dz x.aG _ (by omega)) ?_
 refine S0 (fun hb h=>?_) fun hb h=>?_
 ·exact ay (aC (fun e=>h (by rw[e]))).symm
 have KJ:=h
 clear h
 exact ay (bq (aO.ext' ni uw KJ)).symm
theorem IU(xs:List aO):∀ys:List aO,xs.length+aI (xs.map aO.enc)≤1048576→aD Tryz.prog 66 [.c (.d (.sl (xs.map aO.enc))),.c (.d (.sl (ys.map aO.enc)))] (.c (.d (.b (dec (xs=ys))))):=by
 intro ys hsz S
 refine aB (rs:=[.tmp 4]) Tryz.checked.mixed Tryz.func66 Tryz.ntmps66 rfl rfl rfl rfl rfl ?_
 refine W1 ?_
 refine S0 (fun hb h=>?_) fun hb h=>?_
 ·exact ay (aC (fun e=>h (by rw[e]))).symm
 have hl:xs.length=ys.length:=by omega
 refine aR (ι:=Nat) Tryz.checked.mixed rfl [0,1,5] (fun y=>[.c (.d (.sl (xs.map aO.enc))),.c (.d (.sl (ys.map aO.enc))),.c (.d (.i .i64 y))]) (fun y=>[]::S)
  (fun i=>i≤xs.length∧∀j,j<i→xs[j]? =ys[j]?) (fun y=>xs.length-y) 0 rfl rfl ⟨Nat.zero_le _,fun j h=>by omega⟩ ?_
 rintro i ⟨p1,p2⟩
 refine W1 ?_
 refine S0 (fun hb h=>?_) fun hb h=>?_
 ·have hi:i<xs.length:=by omega
  have hi':i<ys.length:=by omega
  have hx:xs[i].sz≤aI (xs.map aO.enc):=bD (List.mem_map_of_mem (List.getElem_mem hi))
  refine W3 ?_
  refine C1 (KI xs[i] ys[i] (by omega)) ?_
  refine S0 (fun hb h=>?_) fun hb h=>?_
  ·exact ay (aC (fun e=>h (by simp only[e]))).symm
  refine bF (i+1) (by omega) rfl rfl ⟨by omega,fun j hj=> ?_⟩
  by_cases e:j=i
  ·subst e
   rw[List.getElem?_eq_getElem hi,List.getElem?_eq_getElem hi',h]
  ·exact p2 j (by omega)
 ·have hi:i=xs.length:=by omega
  refine ay (bq (List.ext_getElem? fun j=> ?_)).symm
  by_cases hj:j<i
  ·exact p2 j hj
  ·rw[List.getElem?_eq_none (by omega),List.getElem?_eq_none (by omega)]
end Go.Proofs.YtcfhnaohbaplhaaGreatDoor
namespace Go.Proofs.YtcfhnaohbaplhaaGreatDoor
open Go Go.Ab
end Go.Proofs.YtcfhnaohbaplhaaGreatDoor
namespace Go.Ab
def lx(l:List aj)(n:Nat):List (List D):=iY (l.map aj.enc) n
def dB(x:aj):Nat:=uE x.enc
def gD(l:List aj):Nat:=vM (l.map aj.enc)
theorem iC(x:aj)(n:Nat):kT x.enc n=[.s x.bS,.ol n (lx x.aY (n+1))]:=by
 rw[aj.aH];simp only[kT,rR,uD,Nat.add_zero,lx]
theorem ru(s:List UInt8)(n:Nat):kT (bO s).enc n=[.s s,.ol n []]:=by rw[iC];rfl
theorem aak(x:aj):dB x=gD x.aY+1:=by
 unfold dB gD
 rw[aj.aH];simp only[uE,uD];omega
theorem iP(s:List UInt8):dB (bO s)=1:=by rw[aak];rfl
theorem kE(n:Nat):lx [] n=[]:=rfl
theorem iD(x:aj)(l:List aj)(n:Nat):lx (x::l) n=kT x.enc n::lx l (n+dB x):=rfl
theorem jy(a b:List aj)(n:Nat):lx (a++b) n=lx a n++lx b (n+gD a):=by unfold lx gD;rw[List.map_append,Cn]
theorem VA:gD []=0:=rfl
theorem SF(x:aj)(l:List aj):gD (x::l)=dB x+gD l:=rfl
theorem eX(l:List aj)(n:Nat):(lx l n).length=l.length:=by unfold lx;rw[uF,List.length_map]
theorem jc{l:List aj}{n:Nat}:∀r∈lx l n,r.length=2:=Gy fun r hr=>by
 obtain⟨z,_,rfl⟩:=List.mem_map.1 hr
 exact z.dh
theorem IV{l:List aj}{i:Nat}(hi:i<l.length)(n:Nat):lx (l.take i) n++[kT l[i].enc (n+gD (l.take i))]=lx (l.take (i+1)) n:=by
 rw[List.take_succ_eq_append_getElem hi,jy];rfl
theorem vg{l:List aj}{i:Nat}(hi:i<l.length)(n:Nat):lx (l.take i) n++[[.s l[i].bS,.ol (n+gD (l.take i)) (lx l[i].aY (n+gD (l.take i)+1))]]=lx (l.take (i+1)) n:=by
 rw[←IV hi,iC]
theorem vk{base l:List aj}{i:Nat}(hi:i<l.length)(q:Nat):lx (base++l.take i) q++[[.s l[i].bS,.ol (q+gD (base++l.take i)) (lx l[i].aY (q+gD (base++l.take i)+1))]]=lx (base++l.take (i+1)) q:=by
 rw[List.take_succ_eq_append_getElem hi,←List.append_assoc,jy (base++l.take i),iD,kE,iC]
theorem ji{l:List aj}:∀r∈l.map aj.enc,r.length=2:=fun r hr=>by
 obtain⟨z,_,rfl⟩:=List.mem_map.1 hr
 exact z.dh
theorem zk{cs cs':List C}(hl:cs'.length=cs.length)(h:∀(j:Nat) (x y:C),cs[j]? =some x→cs'[j]? =some y→∀w σ S β v,je w σ S β x v→je w σ S β y v):Less (.agg cs) (.agg cs'):=by
 rintro w σ S β v ⟨a,ha,hc⟩
 refine⟨a,ha,hl.trans hc.1,fun j y hy=> ?_⟩
 have hj:j<cs.length:=by rw[←hl];exact(List.getElem?_eq_some_iff.1 hy).1
 obtain⟨v,h1,h2,h3⟩:=hc.2 j _ (List.getElem?_eq_getElem hj)
 exact⟨v,h1,h j _ y (List.getElem?_eq_getElem hj) hy w σ S β v h2,h3⟩
theorem abM{w:World}{σ:Nat→Nat}{S:Store}{β:Hs}{v:Value}(n:Nat)(h:je w σ S β (.bC []) v):je w σ S β (.d (.ol n [])) v:=by
 obtain⟨hd,ad,m,hval⟩:=h
 have hm:m=0:=by rw[hval] at hd;cases hd<;>rfl
 subst hm
 rw[hval]
 exact .wC _ _ _
theorem Dj(s:List UInt8)(n:Nat):Less (.agg [.d (.s s),.bC []]) (.agg [.d (.s s),.d (.ol n [])]):=zk rfl fun j x y hx hy w σ S β v hv=>by
 match j,hx,hy with
 |0,hx,hy=>cases hx;cases hy;exact hv
 |1,hx,hy=>cases hx;cases hy;exact abM _ hv
 |j+2,hx,hy=>simp at hx
theorem aal(s:List UInt8)(n:Nat)(es:List (List D)):Less (.agg [.d (.s s),.kg n es]) (.agg [.d (.s s),.d (.ol n es)]):=zk rfl fun j x y hx hy w σ S β v hv=>by
 match j,hx,hy with
 |0,hx,hy=>cases hx;cases hy;exact hv
 |1,hx,hy=>cases hx;cases hy;exact hv.1
 |j+2,hx,hy=>simp at hx
end Go.Ab
namespace Go.Proofs.YtcfhnaohbaplhaaGreatDoor
open Go Go.Ab
theorem Pp(s:List UInt8):aD Tryz.prog 139 [.c (.d (.s s))] (.agg [.d (.s s),.bC []]):=fun S=>by
 refine aB (rs:=[.cell 2 78]) Tryz.checked.mixed Tryz.func139 Tryz.ntmps139 rfl rfl rfl rfl rfl ?_
 exact Z1
theorem bZ(s:List UInt8)(n:Nat):aD Tryz.prog 139 [.c (.d (.s s))] (.agg [.d (.s s),.d (.ol n [])]):=aD.less (Pp s) (Dj s n)
theorem jo(d:D):aD Tryz.prog 145 [.c (.d d)] (.agg [.d (.s []),.d d]):=fun S=>by
 refine aB (rs:=[.cell 2 78]) Tryz.checked.mixed Tryz.func145 Tryz.ntmps145 rfl rfl rfl rfl rfl ?_
 exact Z1
theorem Pq(n:Nat)(es:List (List D)):aD Tryz.prog 145 [.c (.kg n es)] (.agg [.d (.s []),.kg n es]):=fun S=>by
 refine aB (rs:=[.cell 2 78]) Tryz.checked.mixed Tryz.func145 Tryz.ntmps145 rfl rfl rfl rfl rfl ?_
 exact Z1
theorem kU(n:Nat)(es:List (List D)):aD Tryz.prog 145 [.c (.kg n es)] (.agg [.d (.s []),.d (.ol n es)]):=aD.less (Pq n es) (aal [] n es)
theorem iU(l j:Nat)(es:List (List D))(S:Store):dG Tryz.prog 145 [.c (.bI (l,j) es)] S (fun r S'=>r=.agg [.d (.s []),.bI (l,j) es]∧S'=S):=by
 refine aB (rs:=[.cell 2 78]) Tryz.checked.mixed Tryz.func145 Tryz.ntmps145 rfl rfl rfl rfl rfl ?_
 exact Z1
theorem wH(xs:List (List UInt8))(hx:xs.length≤1073741824)(n q:Nat):aD Tryz.prog 204 [.c (.d (.sl (xs.map encS)))] (.c (.d (.ol n (lx (aU xs) q)))):=fun S=>by
 refine yV (n) (rs:=[.tmp 2]) Tryz.checked.mixed Tryz.func204 Tryz.ntmps204 rfl rfl rfl rfl rfl ?_
 refine W1 ?_
 refine W3 ?_
 refine kW n 3 2 [] (.inl rfl) (by simp) ?_
 refine aR (ι:=Nat) Tryz.checked.mixed rfl [3,7,8,9] (fun i=>[.c (.bI (0,1) (lx ((aU xs).take i) q)),.c (.d (.sl (xs.map encS))),.c (.d (.i .i64 xs.length)),.c (.d (.i .i64 i))]) (fun i=>[.seed n,.eB n 2 (lx ((aU xs).take i) q)]::S)
  (fun i=>i≤xs.length) (fun i=>xs.length-i) 0 rfl rfl (Nat.zero_le _) ?_
 intro i hi
 refine W1 ?_
 refine S0 (fun hb h=>?_) fun hb h=>?_
 ·have hi':i<xs.length:=by omega
  have hw:i<(aU xs).length:=by rw[iH];exact hi'
  have hg:(aU xs)[i]=bO xs[i]:=by simp[aU]
  have hl:(lx ((aU xs).take i) q).length≤i:=by rw[eX];exact List.length_take_le _ _
  refine W3 ?_
  refine C1 (bZ xs[i] (q+gD ((aU xs).take i))) ?_
  refine W3 ?_
  have hs:=IV hw q
  rw[hg,ru] at hs
  rw[hs]
  exact bF (i+1) (by omega) rfl rfl (by omega)
 ·have hi':i=(aU xs).length:=by rw[iH];omega
  rw[hi',List.take_length]
theorem dP(xs:List (List UInt8))(hx:xs.length≤1073741824)(n:Nat):aD Tryz.prog 140 [.c (.d (.sl (xs.map encS)))] (.agg [.d (.s []),.d (.ol n (lx (aU xs) (n+1)))]):=fun S=>by
 refine aB (rs:=[.cell 2 78]) Tryz.checked.mixed Tryz.func140 Tryz.ntmps140 rfl rfl rfl rfl rfl ?_
 refine W1 ?_
 refine C1 (wH xs hx n (n+1)) ?_
 exact C3 (jo _)
theorem AU:∀N:Nat,(∀x:ah,SizeOf.sizeOf x<N→∀n:Nat,formed x=true→x.sz≤4194304→aD Tryz.prog 206 [x.v] (.agg [.d (.s (cK x).bS),.d (.ol n (lx (cK x).aY (n+1)))]))∧
 (∀xs:List ah,SizeOf.sizeOf xs<N→∀n q:Nat,iQ xs=true→xs.length≤4194304→(∀t∈xs,t.sz≤4194304)→aD Tryz.prog 228 [.c (.d (.sl (xs.map ah.enc)))] (.c (.d (.ol n (lx (xs.map cK) q)))))
 |0=>⟨fun x h=>by omega,fun x h=>by omega⟩
 |N+1=>by
  obtain⟨ih,BS⟩:=AU N
  refine⟨fun x hn n hf hsz=> ?_,fun xs hn n q hf hlen hsz=> ?_⟩
  ·have iX:=ah.fE x
   have hts:=yQ hsz
   have hx:=Vh x
   rw[sS,Bool.and_eq_true] at hf
   have hfi:=iO hf.1
   have hall:∀t∈x.fArgs,t.sz≤4194304:=fun t ht=>by
    obtain⟨i,hi,e⟩:=List.getElem_of_mem ht
    rw[←e];exact(qW hi hsz).1
   intro S
   refine nk (n) 1 (rs:=[.cell 2 78]) Tryz.checked.mixed Tryz.func206 Tryz.ntmps206 rfl rfl rfl rfl rfl ?_
   refine W1 ?_
   refine S0 (fun hb h=>?_) fun hb h=>?_
   ·rw[if_pos h] at hx
    rw[hx]
    refine W3 ?_
    refine C1 (bZ _ n) ?_
    rfl
   have k1:=h
   rw[if_neg h] at hx
   refine S0 (fun hb h=>?_) fun hb h=>?_
   ·rw[if_pos h] at hx
    rw[hx]
    refine C1 (bZ _ (n+1)) ?_
    refine C1 (bZ _ (n+1+1)) ?_
    refine C1 (kU _ _) ?_
    rfl
   have k4:=h
   rw[if_neg h] at hx
   refine S0 (fun hb h=>?_) fun hb h=>?_
   ·have hlen:x.fArgs.length=1:=by omega
    obtain⟨a,ha⟩:=List.length_eq_one_iff.1 hlen
    have ha0:x.fArgs[0]'(by omega)=a:=by simp[ha]
    rw[if_neg (by omega),if_pos h,ha] at hx
    have hfa:formed a=true:=rY.1 hf.2 a (by rw[ha];simp)
    have hsa:a.sz≤4194304:=hall a (by rw[ha];simp)
    have hla:SizeOf.sizeOf a<N:=by
     have:=List.sizeOf_lt_of_mem (show a∈x.fArgs by rw[ha];simp)
     omega
    rw[hx]
    refine C1 (bZ _ (n+1)) ?_
    refine bN (bZ _ (n+1+1)) ?_
    simp -implicitDefEqProofs (disch:=omega) only[go_sem,ha,List.getD_cons_zero]
    refine W3 ?_
    refine C1 (ih a hla (n+1+1+1) hfa hsa) ?_
    refine C1 (kU _ _) ?_
    simp only[dL,cO,List.cons_append,List.nil_append,List.map_cons,List.map_nil,iD,kE,ru,iP,iC,jl,jm,kD]
   have k3:=h
   refine S0 (fun hb h=>?_) fun hb h=>?_
   ·rw[if_pos ⟨by omega,by omega⟩] at hx
    rw[hx]
    refine C1 (bZ _ n) ?_
    rfl
   rw[if_neg (by omega),if_neg k3] at hx
   rw[hx]
   refine C1 (bZ _ (n+1)) ?_
   refine C1 (BS x.fArgs (by omega) 0 (n+1+1) hf.2 hts.1 hall) ?_
   have hl:(lx (x.fArgs.map cK) (n+1+1)).length=x.fArgs.length:=by rw[eX,List.length_map]
   have hr:=jc (l:=x.fArgs.map cK) (n:=n+1+1)
   refine W3 ?_
   refine C1 (jo _) ?_
   simp only[dL,cO,List.cons_append,List.nil_append,iD,kE,ru,iP]
  ·have adX:=fun(i:Nat) (hi:i<xs.length)=>vg (l:=xs.map cK) (i:=i) (by rw[List.length_map];exact hi) q
   intro S
   refine yV (n) (rs:=[.tmp 2]) Tryz.checked.mixed Tryz.func228 Tryz.ntmps228 rfl rfl rfl rfl rfl ?_
   refine W1 ?_
   refine W3 ?_
   refine kW n 3 2 [] (.inl rfl) (by simp) ?_
   refine aR (ι:=Nat) Tryz.checked.mixed rfl [3,7,8,9] (fun i=>[.c (.bI (0,1) (lx ((xs.map cK).take i) q)),.c (.d (.sl (xs.map ah.enc))),.c (.d (.i .i64 xs.length)),.c (.d (.i .i64 i))]) (fun i=>[.seed n,.eB n 2 (lx ((xs.map cK).take i) q)]::S)
    (fun i=>i≤xs.length) (fun i=>xs.length-i) 0 rfl rfl (Nat.zero_le _) ?_
   intro i hi
   refine W1 ?_
   refine S0 (fun hb h=>?_) fun hb h=>?_
   ·have hi':i<xs.length:=by omega
    have hs:=adX i hi'
    rw[List.getElem_map] at hs
    have hl:(lx ((xs.map cK).take i) q).length≤i:=by rw[eX];exact List.length_take_le _ _
    refine W3 ?_
    refine C1 (ih xs[i] (by have:=List.sizeOf_lt_of_mem (List.getElem_mem hi');omega) (q+gD ((xs.map cK).take i)) (rY.1 hf _ (List.getElem_mem hi')) (hsz _ (List.getElem_mem hi'))) ?_
    refine W3 ?_
    rw[hs]
    exact bX 2 (by decide) (i+1) (by omega) rfl rfl rfl rfl (by omega)
   ·have hi':i=(xs.map cK).length:=by rw[List.length_map];omega
    rw[hi',List.take_length]
theorem jD(x:ah)(n:Nat)(hf:formed x=true)(hsz:x.sz≤4194304):aD Tryz.prog 206 [x.v] (.agg [.d (.s (cK x).bS),.d (.ol n (lx (cK x).aY (n+1)))]):=(AU _).1 x (Nat.lt_succ_self _) n hf hsz
theorem vN(xs:List ah)(n q:Nat)(hf:iQ xs=true)(hlen:xs.length≤4194304)(hsz:∀t∈xs,t.sz≤4194304):aD Tryz.prog 228 [.c (.d (.sl (xs.map ah.enc)))] (.c (.d (.ol n (lx (xs.map cK) q)))):=(AU _).2 xs (Nat.lt_succ_self _) n q hf hlen hsz
end Go.Proofs.YtcfhnaohbaplhaaGreatDoor
namespace Go.Ab
theorem dY(s:List UInt8):(bO s).enc=[.s s,.sl []]:=by rw[aj.aH];rfl
theorem iA(l:List aj):(bR l).enc=[.s [],.sl (l.map aj.enc)]:=by rw[aj.aH];rfl
theorem gT{base l:List aj}{i:Nat}(hi:i<l.length):(base++l.take i).map aj.enc++[[.s l[i].bS,.sl (l[i].aY.map aj.enc)]]=(base++l.take (i+1)).map aj.enc:=by
 rw[List.take_succ_eq_append_getElem hi,←List.append_assoc,List.map_append (l₂:=[l[i]]),List.map_cons,List.map_nil,aj.aH]
theorem vo(s:List UInt8)(es:List (List D)):Less (.agg [.d (.s s),.bC es]) (.agg [.d (.s s),.d (.sl es)]):=zk rfl fun j x y hx hy w σ S β v hv=>by
 match j,hx,hy with
 |0,hx,hy=>cases hx;cases hy;exact hv
 |1,hx,hy=>cases hx;cases hy;exact hv.1
 |j+2,hx,hy=>simp at hx
theorem Dk(x:aj)(n:Nat):Less (.agg [.d (.s x.bS),.d (.ol n (lx x.aY (n+1)))]) x.v:=by
 have h:=Nk (r:=x.enc) (n:=n)
 rw[iC,aj.ow] at h
 exact h
end Go.Ab
namespace Go.Proofs.YtcfhnaohbaplhaaGreatDoor
open Go Go.Ab
theorem Nz(s:List UInt8):aD Tryz.prog 128 [.c (.d (.s s))] (.agg [.d (.s s),.bC []]):=fun S=>by
 refine aB (rs:=[.cell 2 78]) Tryz.checked.mixed Tryz.func128 Tryz.ntmps128 rfl rfl rfl rfl rfl ?_
 exact Z1
theorem bK(s:List UInt8):aD Tryz.prog 128 [.c (.d (.s s))] (.agg [.d (.s s),.d (.sl [])]):=aD.less (Nz s) (vo s [])
theorem kL(es:List (List D))(hes:∀e∈es,e.length=2)(hl:es.length≤1073741824):aD Tryz.prog 127 [.c (.d (.sl es))] (.agg [.d (.s []),.d (.sl es)]):=fun S=>by
 refine aB (rs:=[.cell 2 78]) Tryz.checked.mixed Tryz.func127 Tryz.ntmps127 rfl rfl rfl rfl rfl ?_
 refine W1 ?_
 exact⟨hes,⟨_,rfl,rfl⟩,(fun y hy=>by cases hy),hl⟩
theorem iM(es:List (List D))(hes:∀e∈es,e.length=2)(hl:es.length≤1073741824)(bM:List Ab.Obj)(Ω:Store):dG Tryz.prog 127 [.c (.d (.sl es))] (bM::Ω)
 (fun r S'=>r=.agg [.d (.s []),.bI (0,bM.length+1) es]∧S'=(bM++[.box [.d (.s []),.bI (0,bM.length+1) es],.tok 2 es])::Ω):=by
 refine JM (rs:=[.cell 2 78]) Tryz.checked.mixed Tryz.func127 Tryz.ntmps127 rfl rfl rfl rfl rfl ?_
 refine W1 ?_
 exact⟨hes,⟨_,rfl,rfl⟩,(fun y hy=>by cases hy),hl⟩
theorem Cv(xs:List (List UInt8))(hx:xs.length≤1073741824):aD Tryz.prog 200 [.c (.d (.sl (xs.map encS)))] (.c (.d (.sl ((aU xs).map aj.enc)))):=fun S=>by
 refine aB (rs:=[.tmp 2]) Tryz.checked.mixed Tryz.func200 Tryz.ntmps200 rfl rfl rfl rfl rfl ?_
 refine W1 ?_
 refine W3 ?_
 refine l9 3 2 [] rfl (by simp) ?_
 refine aR (ι:=Nat) Tryz.checked.mixed rfl [0,3,4] (fun i=>[.c (.d (.sl (xs.map encS))),.c (.bI (0,0) (((aU xs).take i).map aj.enc)),.c (.d (.i .i64 i))]) (fun i=>[.tok 2 (((aU xs).take i).map aj.enc)]::S)
  (fun i=>i≤xs.length) (fun i=>xs.length-i) 0 rfl rfl (Nat.zero_le _) ?_
 intro i hi
 have hl:(((aU xs).take i).map aj.enc).length≤i:=by rw[List.length_map];exact List.length_take_le _ _
 refine W1 ?_
 refine S0 (fun hb h=>?_) fun hb h=>?_
 ·have hi':i<xs.length:=by omega
  have hs:=gT (base:=[]) (l:=aU xs) (i:=i) (by rw[iH];exact hi')
  have hg:(aU xs)[i]'(by rw[iH];exact hi')=bO xs[i]:=by simp[aU]
  rw[hg] at hs
  simp only[List.nil_append,jl,jm,List.map_nil] at hs
  refine W3 ?_
  refine C1 (bK xs[i]) ?_
  refine W3 ?_
  rw[hs]
  exact bF (i+1) (by omega) rfl rfl (by omega)
 ·have hi':i=(aU xs).length:=by rw[iH];omega
  rw[hi',List.take_length]
theorem dH(xs:List (List UInt8))(hx:xs.length≤1073741824):aD Tryz.prog 129 [.c (.d (.sl (xs.map encS)))] (.agg [.d (.s []),.d (.sl ((aU xs).map aj.enc))]):=fun S=>by
 refine aB (rs:=[.cell 2 78]) Tryz.checked.mixed Tryz.func129 Tryz.ntmps129 rfl rfl rfl rfl rfl ?_
 refine W1 ?_
 exact C3 (Cv xs hx)
theorem GL:∀N:Nat,(∀x:ah,SizeOf.sizeOf x<N→x.sz≤4194304→aD Tryz.prog 199 [x.v] (.agg [.d (.s (cK x).bS),.d (.sl ((cK x).aY.map aj.enc))]))
 |0=>fun x h=>by omega
 |N+1=>by
  have ih:=GL N
  intro x hn hsz
  have iX:=ah.fE x
  have hts:=yQ hsz
  have hx:=Vh x
  have hall:∀t∈x.fArgs,t.sz≤4194304:=fun t ht=>by
   obtain⟨i,hi,e⟩:=List.getElem_of_mem ht
   rw[←e];exact(qW hi hsz).1
  intro S
  refine aB (rs:=[.cell 2 78]) Tryz.checked.mixed Tryz.func199 Tryz.ntmps199 rfl rfl rfl rfl rfl ?_
  refine W1 ?_
  refine S0 (fun hb h=>?_) fun hb h=>?_
  ·rw[if_pos h] at hx
   rw[hx]
   refine W3 ?_
   refine C1 (bK _) ?_
   rfl
  rw[if_neg h] at hx
  refine S0 (fun hb h=>?_) fun hb h=>?_
  ·rw[if_pos h] at hx
   rw[hx]
   refine C1 (bK _) ?_
   refine C1 (bK _) ?_
   refine C1 (kL _ (by simp) (by simp)) ?_
   simp only[dL,cO,List.map_cons,List.map_nil,dY,R5]
  rw[if_neg h] at hx
  have afN:x.aV=2→x.fArgs.length=0→cK x=bO x.fName:=fun a b=>by rw[hx,if_pos ⟨a,b⟩]
  have Yn:¬(x.aV=2∧x.fArgs.length=0)→cK x=bR ((if x.aV=3 then [bO kD] else [])++[bO x.fName]++x.fArgs.map cK):=fun a=>by rw[hx,if_neg a]
  clear hx
  repeat' (first|(refine S0 (fun hb h=>?_) fun hb h=>?_))
  ·rw[afN (by omega) (by omega)]
   refine C1 (bK _) ?_
   rfl
  ·exfalso;omega
  ·have hx:=Yn (by omega)
   rw[if_neg h,List.nil_append] at hx
   refine C1 (bK _) ?_
   refine W3 ?_
   refine aR (ι:=Nat) Tryz.checked.mixed rfl [1,2,3,4] (fun i=>[.c (.ptr (0,0) 0),.c (.ptr (0,1) 0),.c (.ptr (0,2) 0),.c (.d (.i .i64 i))])
    (fun i=>[.box [.d (.i .i64 x.aV),.d (.s x.fName),.d (.sl (x.fArgs.map ah.enc))],.box [.d (.s []),.bC []],.box [.d (.s []),.bI (0,3) (([bO x.fName]++(x.fArgs.map cK).take i).map aj.enc)],.tok 2 (([bO x.fName]++(x.fArgs.map cK).take i).map aj.enc)]::S)
    (fun i=>i≤x.fArgs.length) (fun i=>x.fArgs.length-i) 0 rfl ?_ (Nat.zero_le _) ?_
   ·simp only[List.take_zero,List.append_nil,List.map_cons,List.map_nil,List.cons_append,List.nil_append,dY]<;>(try rfl)
   intro i hi
   have hl:(([bO x.fName]++(x.fArgs.map cK).take i).map aj.enc).length≤i+2:=by
    rw[List.length_map,List.length_append]
    have:=List.length_take_le i (x.fArgs.map cK)
    simp only[List.length_cons,List.length_nil];omega
   have hs:=fun hi=>gT (base:=[bO x.fName]) (l:=x.fArgs.map cK) (i:=i) hi
   have hrw:=ji (l:=[bO x.fName]++(x.fArgs.map cK).take i)
   generalize hR:([bO x.fName]++(x.fArgs.map cK).take i).map aj.enc=R at hl hs hrw
   refine W1 ?_
   refine S0 (fun hb h=>?_) fun hb h=>?_
   ·have hi':i<x.fArgs.length:=by omega
    have hs':=hs (by rw[List.length_map];exact hi')
    rw[List.getElem_map] at hs'
    refine W3 ?_
    refine C1 (ih x.fArgs[i] (by have:=List.sizeOf_lt_of_mem (List.getElem_mem hi');omega) (hall _ (List.getElem_mem hi'))) ?_
    refine W3 ?_
    rw[hs']
    exact bF (i+1) (by omega) rfl rfl (by omega)
   ·have hi':i=(x.fArgs.map cK).length:=by rw[List.length_map];omega
    rw[hx,←hR,hi',List.take_length]
    simp only[dL,cO,List.cons_append,List.nil_append]
  ·have hx:=Yn (by omega)
   rw[if_pos h] at hx
   refine C1 (bK _) ?_
   refine W3 ?_
   refine C1 (bK _) ?_
   refine W3 ?_
   refine aR (ι:=Nat) Tryz.checked.mixed rfl [1,2,3,4] (fun i=>[.c (.ptr (0,0) 0),.c (.ptr (0,1) 0),.c (.ptr (0,2) 0),.c (.d (.i .i64 i))])
    (fun i=>[.box [.d (.i .i64 x.aV),.d (.s x.fName),.d (.sl (x.fArgs.map ah.enc))],.box [.d (.s []),.bC []],.box [.d (.s []),.bI (0,3) (([bO kD,bO x.fName]++(x.fArgs.map cK).take i).map aj.enc)],.tok 2 (([bO kD,bO x.fName]++(x.fArgs.map cK).take i).map aj.enc)]::S)
    (fun i=>i≤x.fArgs.length) (fun i=>x.fArgs.length-i) 0 rfl ?_ (Nat.zero_le _) ?_
   ·simp only[List.take_zero,List.append_nil,List.map_cons,List.map_nil,List.cons_append,List.nil_append,dY]<;>(try rfl)
   intro i hi
   have hl:(([bO kD,bO x.fName]++(x.fArgs.map cK).take i).map aj.enc).length≤i+2:=by
    rw[List.length_map,List.length_append]
    have:=List.length_take_le i (x.fArgs.map cK)
    simp only[List.length_cons,List.length_nil];omega
   have hs:=fun hi=>gT (base:=[bO kD,bO x.fName]) (l:=x.fArgs.map cK) (i:=i) hi
   have hrw:=ji (l:=[bO kD,bO x.fName]++(x.fArgs.map cK).take i)
   generalize hR:([bO kD,bO x.fName]++(x.fArgs.map cK).take i).map aj.enc=R at hl hs hrw
   refine W1 ?_
   refine S0 (fun hb h=>?_) fun hb h=>?_
   ·have hi':i<x.fArgs.length:=by omega
    have hs':=hs (by rw[List.length_map];exact hi')
    rw[List.getElem_map] at hs'
    refine W3 ?_
    refine C1 (ih x.fArgs[i] (by have:=List.sizeOf_lt_of_mem (List.getElem_mem hi');omega) (hall _ (List.getElem_mem hi'))) ?_
    refine W3 ?_
    rw[hs']
    exact bF (i+1) (by omega) rfl rfl (by omega)
   ·have hi':i=(x.fArgs.map cK).length:=by rw[List.length_map];omega
    rw[hx,←hR,hi',List.take_length]
    simp only[dL,cO,List.cons_append,List.nil_append]
  ·have hx:=Yn (by omega)
   rw[if_neg h,List.nil_append] at hx
   refine C1 (bK _) ?_
   refine W3 ?_
   refine aR (ι:=Nat) Tryz.checked.mixed rfl [1,2,3,4] (fun i=>[.c (.ptr (0,0) 0),.c (.ptr (0,1) 0),.c (.ptr (0,2) 0),.c (.d (.i .i64 i))])
    (fun i=>[.box [.d (.i .i64 x.aV),.d (.s x.fName),.d (.sl (x.fArgs.map ah.enc))],.box [.d (.s []),.bC []],.box [.d (.s []),.bI (0,3) (([bO x.fName]++(x.fArgs.map cK).take i).map aj.enc)],.tok 2 (([bO x.fName]++(x.fArgs.map cK).take i).map aj.enc)]::S)
    (fun i=>i≤x.fArgs.length) (fun i=>x.fArgs.length-i) 0 rfl ?_ (Nat.zero_le _) ?_
   ·simp only[List.take_zero,List.append_nil,List.map_cons,List.map_nil,List.cons_append,List.nil_append,dY]<;>(try rfl)
   intro i hi
   have hl:(([bO x.fName]++(x.fArgs.map cK).take i).map aj.enc).length≤i+2:=by
    rw[List.length_map,List.length_append]
    have:=List.length_take_le i (x.fArgs.map cK)
    simp only[List.length_cons,List.length_nil];omega
   have hs:=fun hi=>gT (base:=[bO x.fName]) (l:=x.fArgs.map cK) (i:=i) hi
   have hrw:=ji (l:=[bO x.fName]++(x.fArgs.map cK).take i)
   generalize hR:([bO x.fName]++(x.fArgs.map cK).take i).map aj.enc=R at hl hs hrw
   refine W1 ?_
   refine S0 (fun hb h=>?_) fun hb h=>?_
   ·have hi':i<x.fArgs.length:=by omega
    have hs':=hs (by rw[List.length_map];exact hi')
    rw[List.getElem_map] at hs'
    refine W3 ?_
    refine C1 (ih x.fArgs[i] (by have:=List.sizeOf_lt_of_mem (List.getElem_mem hi');omega) (hall _ (List.getElem_mem hi'))) ?_
    refine W3 ?_
    rw[hs']
    exact bF (i+1) (by omega) rfl rfl (by omega)
   ·have hi':i=(x.fArgs.map cK).length:=by rw[List.length_map];omega
    rw[hx,←hR,hi',List.take_length]
    simp only[dL,cO,List.cons_append,List.nil_append]
theorem jO(x:ah)(hsz:x.sz≤4194304):aD Tryz.prog 199 [x.v] (.agg [.d (.s (cK x).bS),.d (.sl ((cK x).aY.map aj.enc))]):=GL _ x (Nat.lt_succ_self _) hsz
theorem xw(xs:List ah)(hlen:xs.length≤4194304)(hsz:∀t∈xs,t.sz≤4194304):aD Tryz.prog 218 [.c (.d (.sl (xs.map ah.enc)))] (.c (.d (.sl ((xs.map cK).map aj.enc)))):=fun S=>by
 refine aB (rs:=[.tmp 2]) Tryz.checked.mixed Tryz.func218 Tryz.ntmps218 rfl rfl rfl rfl rfl ?_
 refine W1 ?_
 refine W3 ?_
 refine l9 3 2 [] rfl (by simp) ?_
 refine aR (ι:=Nat) Tryz.checked.mixed rfl [0,3,4] (fun i=>[.c (.d (.sl (xs.map ah.enc))),.c (.bI (0,0) (((xs.map cK).take i).map aj.enc)),.c (.d (.i .i64 i))]) (fun i=>[.tok 2 (((xs.map cK).take i).map aj.enc)]::S)
  (fun i=>i≤xs.length) (fun i=>xs.length-i) 0 rfl rfl (Nat.zero_le _) ?_
 intro i hi
 have hl:(((xs.map cK).take i).map aj.enc).length≤i:=by rw[List.length_map];exact List.length_take_le _ _
 refine W1 ?_
 refine S0 (fun hb h=>?_) fun hb h=>?_
 ·have hi':i<xs.length:=by omega
  have hs:=gT (base:=[]) (l:=xs.map cK) (i:=i) (by rw[List.length_map];exact hi')
  rw[List.getElem_map] at hs
  simp only[List.nil_append] at hs
  refine W3 ?_
  refine C1 (jO xs[i] (hsz _ (List.getElem_mem hi'))) ?_
  refine W3 ?_
  rw[hs]
  exact bF (i+1) (by omega) rfl rfl (by omega)
 ·have hi':i=(xs.map cK).length:=by rw[List.length_map];omega
  rw[hi',List.take_length]
theorem nA(b:Bool)(x:aj)(hsz:x.sz≤67108864):aD Tryz.prog 134 [.c (.d (.b b)),x.v] (qX b x).v:=by
 have zero:aD Tryz.prog 134 [.c (.d (.b b)),x.v] (.agg [.d (.s []),.bC []])→aD Tryz.prog 134 [.c (.d (.b b)),x.v] w9.v:=fun h=>aD.less h (vo [] [])
 cases b with
 |false=>
  refine zero fun S=> ?_
  refine aB (rs:=[.cell 4 78]) Tryz.checked.mixed Tryz.func134 Tryz.ntmps134 rfl rfl rfl rfl rfl ?_
  exact Z1
 |true=>
  show aD Tryz.prog 134 [.c (.d (.b true)),x.v] (o7 x).v
  unfold o7
  cases hv:gV x with
  |false=>
   refine zero fun S=> ?_
   refine aB (rs:=[.cell 4 78]) Tryz.checked.mixed Tryz.func134 Tryz.ntmps134 rfl rfl rfl rfl rfl ?_
   refine W1 ?_
   refine bN (wG x hsz) ?_
   simp -implicitDefEqProofs (disch:=omega) only[go_sem,hv]
  |true=>
   intro S
   refine aB (rs:=[.cell 4 78]) Tryz.checked.mixed Tryz.func134 Tryz.ntmps134 rfl rfl rfl rfl rfl ?_
   refine W1 ?_
   refine bN (wG x hsz) ?_
   simp -implicitDefEqProofs (disch:=omega) only[go_sem,hv]
theorem SG(x:aj)(n:Nat)(hsz:x.sz≤67108864):aD Tryz.prog 115 [.agg [.d (.s x.bS),.d (.ol n (lx x.aY (n+1)))]] (.agg [.d (.s (o7 x).bS),.d (.ol n (lx (o7 x).aY (n+1)))]):=by
 unfold o7
 cases hv:gV x with
 |false=>
  refine aD.less (fun S=> ?_) (Dj [] n)
  refine aB (rs:=[.cell 2 78]) Tryz.checked.mixed Tryz.func115 Tryz.ntmps115 rfl rfl rfl rfl rfl ?_
  refine W1 ?_
  refine nK (qh x hsz) (.cons (Dk x n) .nil) ?_
  simp -implicitDefEqProofs (disch:=omega) only[go_sem,hv]
 |true=>
  intro S
  refine aB (rs:=[.cell 2 78]) Tryz.checked.mixed Tryz.func115 Tryz.ntmps115 rfl rfl rfl rfl rfl ?_
  refine W1 ?_
  refine nK (qh x hsz) (.cons (Dk x n) .nil) ?_
  simp -implicitDefEqProofs (disch:=omega) only[go_sem,hv]
end Go.Proofs.YtcfhnaohbaplhaaGreatDoor
namespace Go.Proofs
open Go.Shelf
def Tryz.laysM171_ren:Go.Shelf.Ren:=⟨fun|171=>290|243=>348|246=>370|283=>387|284=>388|285=>389|286=>390|129=>402|317=>401|318=>403|319=>404|320=>405|337=>413|338=>414|n=>n,fun|3=>3|9=>9|2=>2|4=>4|171=>379|0=>0|53=>380|37=>154|5=>5|173=>383|212=>396|51=>397|20=>20|213=>398|46=>400|232=>415|233=>416|n=>n,fun|17=>1|18=>4|19=>5|n=>n⟩
theorem Tryz.laysM171:Go.Proofs.LaysM.n171 Tryz.prog Tryz.laysM171_ren:={
 mixed:=by kernel_rfl
 f129:=Tryz.func402.trans (congrArg some (by kernel_rfl))
 f171:=Tryz.func290.trans (congrArg some (by kernel_rfl))
 f243:=Tryz.func348.trans (congrArg some (by kernel_rfl))
 f246:=Tryz.func370.trans (congrArg some (by kernel_rfl))
 f283:=Tryz.func387.trans (congrArg some (by kernel_rfl))
 f284:=Tryz.func388.trans (congrArg some (by kernel_rfl))
 f285:=Tryz.func389.trans (congrArg some (by kernel_rfl))
 f286:=Tryz.func390.trans (congrArg some (by kernel_rfl))
 f317:=Tryz.func401.trans (congrArg some (by kernel_rfl))
 f318:=Tryz.func403.trans (congrArg some (by kernel_rfl))
 f319:=Tryz.func404.trans (congrArg some (by kernel_rfl))
 f320:=Tryz.func405.trans (congrArg some (by kernel_rfl))
 f337:=Tryz.func413.trans (congrArg some (by kernel_rfl))
 f338:=Tryz.func414.trans (congrArg some (by kernel_rfl))
 t0:=Tryz.underlying0
 a0:=Tryz.isAgg0
 z0:=Tryz.sizeOf0
 v0:=Tryz.zeroValue0
 t2:=Tryz.underlying2
 a2:=Tryz.isAgg2
 z2:=Tryz.sizeOf2
 v2:=Tryz.zeroValue2
 t3:=Tryz.underlying3
 a3:=Tryz.isAgg3
 z3:=Tryz.sizeOf3
 v3:=Tryz.zeroValue3
 t4:=Tryz.underlying4
 a4:=Tryz.isAgg4
 z4:=Tryz.sizeOf4
 v4:=Tryz.zeroValue4
 t5:=Tryz.underlying5
 a5:=Tryz.isAgg5
 z5:=Tryz.sizeOf5
 v5:=Tryz.zeroValue5
 t9:=Tryz.underlying9
 a9:=Tryz.isAgg9
 z9:=Tryz.sizeOf9
 v9:=Tryz.zeroValue9
 t20:=Tryz.underlying20
 a20:=Tryz.isAgg20
 z20:=Tryz.sizeOf20
 v20:=Tryz.zeroValue20
 t37:=Tryz.underlying154
 a37:=Tryz.isAgg154
 z37:=Tryz.sizeOf154
 v37:=Tryz.zeroValue154
 t46:=Tryz.underlying400
 a46:=Tryz.isAgg400
 z46:=Tryz.sizeOf400
 v46:=Tryz.zeroValue400
 t51:=Tryz.underlying397
 a51:=Tryz.isAgg397
 z51:=Tryz.sizeOf397
 v51:=Tryz.zeroValue397
 t53:=Tryz.underlying380
 a53:=Tryz.isAgg380
 z53:=Tryz.sizeOf380
 v53:=Tryz.zeroValue380
 t171:=Tryz.underlying379
 a171:=Tryz.isAgg379
 z171:=Tryz.sizeOf379
 v171:=Tryz.zeroValue379
 t173:=Tryz.underlying383
 a173:=Tryz.isAgg383
 z173:=Tryz.sizeOf383
 v173:=Tryz.zeroValue383
 t212:=Tryz.underlying396
 a212:=Tryz.isAgg396
 z212:=Tryz.sizeOf396
 v212:=Tryz.zeroValue396
 t213:=Tryz.underlying398
 a213:=Tryz.isAgg398
 z213:=Tryz.sizeOf398
 t232:=Tryz.underlying415
 a232:=Tryz.isAgg415
 z232:=Tryz.sizeOf415
 v232:=Tryz.zeroValue415
 t233:=Tryz.underlying416
 a233:=Tryz.isAgg416
 z233:=Tryz.sizeOf416
 v233:=Tryz.zeroValue416
 g17:=by kernel_rfl
 g18:=by kernel_rfl
 g19:=by kernel_rfl
 i0:=by kernel_rfl
 i2:=by kernel_rfl
 i3:=by kernel_rfl
 i4:=by kernel_rfl
 i5:=by kernel_rfl
 i9:=by kernel_rfl
 i20:=by kernel_rfl
 i37:=by kernel_rfl
 i46:=by kernel_rfl
 i51:=by kernel_rfl
 i53:=by kernel_rfl
 i171:=by kernel_rfl
 i173:=by kernel_rfl
 i212:=by kernel_rfl
 i232:=by kernel_rfl
 i233:=by kernel_rfl
 m17:=by kernel_rfl
 m18:=by kernel_rfl
 m19:=by kernel_rfl}
open Go.RowKit Go.Sort Go.Lib in
theorem Tryz.strconv_Itoa(n:Int)(h0: -9223372036854775808≤n)(h1:n≤9223372036854775807)(w:World)(htab:Lib.TabIs Tryz.prog w "internal/strconv.uint64pow10" .u64 Lib.pow10Tab):
 Calls Tryz.prog 290 #[.int .i64 n] w fun e w'=>e=.returned (.string ⟨(Lib.itoa n).toArray⟩)∧∃k os,w'=grow (w.drewN k) os:=Any.strconv_Itoa Tryz.laysM171 n h0 h1 w htab
end Go.Proofs
namespace Go.Ab
theorem SH{w:World}{σ:Nat→Nat}{k:Nat}{os:Array Go.Obj}(hl:∀b,b<w.heap.size∨σ b=0):Grow w σ (Go.Sort.grow (w.drewN k) os) σ:=by
 have hh:(Go.Sort.grow (w.drewN k) os).heap=w.heap++os:=rfl
 refine⟨by rw[hh];simp,rfl,rfl,fun b hb=>⟨by rw[hh,Array.getElem?_append_left hb],rfl⟩,fun b=> ?_⟩
 rcases hl b with h|h
 ·left;rw[hh];simp;omega
 ·exact .inr h
theorem aam{x:V}{vs:List Value}{w:World}{σ:Nat→Nat}{S:Store}{β:Hs}(h:nN w σ S β [x] vs):∃v,vs=[v]∧dF w σ S β x v:=by
 obtain⟨hl,h⟩:=h
 obtain⟨v,e,hr⟩:=h 0 x rfl
 match vs,hl,e with
 |[y],_,e=>simp at e;subst e;exact⟨_,rfl,hr⟩
end Go.Ab
namespace Go.Proofs.YtcfhnaohbaplhaaGreatDoor
open Go Go.Ab
theorem VB{w:World}{σ:Nat→Nat}(h:sj w σ):Lib.TabIs Tryz.prog w "internal/strconv.uint64pow10" .u64 Lib.pow10Tab:=by
 obtain⟨c,t,fz,q1,q2,q3⟩:=h _ _ (show _∈P6 from List.mem_cons_self ..)
 have hn:Tryz.prog.globalNamed "internal/strconv.uint64pow10" =some 1:=by kernel_rfl
 unfold Lib.TabIs World.var?
 rw[hn]
 simp only[Option.bind_some,q1,Option.some.injEq]
 apply Array.ext'
 rw[q2]
 simp[Lib.pow10Tab]
theorem aan(n:Int)(h0: -9223372036854775808≤n)(h1:n≤9223372036854775807):aD Tryz.prog 290 [.c (.d (.i .i64 n))] (.c (.d (.s (Lib.itoa n)))):=fun S=>by
 refine⟨⟨_,Tryz.func290,by kernel_rfl,by kernel_rfl⟩,fun w σ β vs hS hv=> ?_⟩
 obtain⟨v,rfl,hr,_⟩:=aam hv
 have hv0:v=.int .i64 n:=by cases hr;rfl
 subst hv0
 refine(Tryz.strconv_Itoa n h0 h1 w (VB hS.rO)).mono fun e w' ⟨he,k,os,hw⟩=> ?_
 subst hw
 have hg:Grow w σ (Go.Sort.grow (w.drewN k) os) σ:=SH hS.live
 exact⟨_,.c (.d (.s (Lib.itoa n))),S,σ,β,he,hS.grow hg,Keep.refl _ _,Step.lJ hg,⟨.s _,rfl⟩,rfl,rfl⟩
theorem EJ(n:Int)(h0: -9223372036854775808≤n)(h1:n≤9223372036854775807):aD Tryz.prog 203 [.c (.d (.i .i64 n))] (.c (.d (.s (Lib.itoa n)))):=fun S=>by
 refine aB (rs:=[.tmp 2]) Tryz.checked.mixed Tryz.func203 Tryz.ntmps203 rfl rfl rfl rfl rfl ?_
 refine W1 ?_
 exact C4 (aan n h0 h1)
end Go.Proofs.YtcfhnaohbaplhaaGreatDoor
namespace Go.Ab
def Cw(m:Nat):List UInt8:=if m=0 then [] else Lib.decDigits m
theorem VD{m:Nat}(h:m≠0):Cw (m/10)++[UInt8.ofNat (48+m % 10)]=Cw m:=by
 unfold Cw
 rw[if_neg h]
 conv=>rhs;rw[Lib.decDigits]
 by_cases h10:m<10
 ·rw[dif_pos h10,if_pos (by omega),List.nil_append,Nat.mod_eq_of_lt h10]
 ·rw[dif_neg h10,if_neg (by omega)]
theorem Yo(n:Int)(h0: -9223372036854775808≤n)(h1:n≤9223372036854775807):∃sg:Nat→Int,sg 0=0∧sg n.natAbs=n∧(∀m,m≠0→sg m≠0)∧(∀m,(sg m).tmod 10= -((m % 10:Nat):Int)∨(sg m).tmod 10=((m % 10:Nat):Int))∧
 (∀m,(sg m).tdiv 10=sg (m/10))∧∀m,m≤n.natAbs→ -9223372036854775808≤sg m∧sg m≤9223372036854775807:=by
 by_cases h:n<0
 ·refine⟨fun m=> -(m:Int),rfl,by simp only;omega,fun m hm=>by simp only;omega,fun m=>.inl ?_,fun m=> ?_,fun m hm=>by simp only;omega⟩
  ·simp only;rw[Int.neg_tmod];congr 1
  ·simp only;rw[Int.neg_tdiv];congr 1
 ·refine⟨fun m=>(m:Int),rfl,by simp only;omega,fun m hm=>by simp only;omega,fun m=>.inr rfl,fun m=>rfl,fun m hm=>by simp only;omega⟩
theorem VE:Lib.itoa 0=[48]:=by
 unfold Lib.itoa
 rw[if_neg (by decide),Lib.decDigits,dif_pos (by decide)];rfl
theorem SI(a:Nat)(h:a≤9223372036854775808):(Lib.decDigits a).length≤19:=Dh 18 a (by omega)
end Go.Ab
namespace Go.Proofs.YtcfhnaohbaplhaaGreatDoor
open Go Go.Ab
theorem EK(n:Int)(h0: -9223372036854775808≤n)(h1:n≤9223372036854775807):aD Tryz.prog 197 [.c (.d (.i .i64 n))] (.c (.d (.s (Lib.itoa n)))):=fun S=>by
 obtain⟨sg,g0,gn,gne,afO,afP,abN⟩:=Yo n h0 h1
 refine aB (rs:=[.tmp 2]) Tryz.checked.mixed Tryz.func197 Tryz.ntmps197 rfl rfl rfl rfl rfl ?_
 refine W1 ?_
 refine S0 (fun hb h=>?_) fun hb h=>?_
 ·rw[h,VE]
 have hn0:=h
 have hd0:Cw n.natAbs=Lib.decDigits n.natAbs:=by unfold Cw;rw[if_neg (by omega)]
 have hln:=SI n.natAbs (by omega)
 refine aR (ι:=Nat×List UInt8) Tryz.checked.mixed rfl [0,3,4] (fun y=>[.c (.d (.i .i64 (sg y.1))),.c (.d (.b (decide (n<0)))),.c (.d (.s y.2))]) (fun _=>[]::S)
  (fun y=>y.1≤n.natAbs∧Cw y.1++y.2=Cw n.natAbs∧y.2.length≤19) (fun y=>y.1) (n.natAbs,[]) (by rw[gn];rfl) rfl ⟨Nat.le_refl _,List.append_nil _,by simp⟩ ?_
 rintro⟨m,out⟩ ⟨p1,p2,p3⟩
 simp only at p1 p2 p3
 have hr:=abN m p1
 have hm:=afO m
 have hq:=afP m
 generalize hx:sg m=x at *
 generalize hy:x.tmod 10=y at *
 have hlo:out.length≤19:=p3
 refine W1 ?_
 refine S0 (fun hb h=>?_) fun hb h=>?_
 ·have hm0:m≠0:=fun e=>by rw[e,g0] at hx;omega
  have hst:=VD hm0
  have hr2:=abN (m/10) (by omega)
  have agC:(Cw (m/10)).length+1+out.length≤19:=by
   have:=congrArg List.length p2
   rw[←hst,hd0] at this
   simp only[List.length_append,List.length_cons,List.length_nil] at this
   omega
  simp -implicitDefEqProofs (disch:=omega) only[go_sem,hy]
  refine S0 (fun hb h=>?_) fun hb h=>?_
  ·have e1:(0:Int)-y=((m % 10:Nat):Int):=by omega
   have hc:UInt8.ofNat (IntKind.u8.wrap (48+(0-y))).toNat=UInt8.ofNat (48+m % 10):=by
    rw[wrap_u8 _ (by omega),e1]
    congr 1
   simp -implicitDefEqProofs (disch:=omega) only[go_sem,hy,hq]
   refine W3 ?_
   refine bF (m/10,UInt8.ofNat (48+m % 10)::out) (by simp only;omega) (by rw[←hc];rfl) rfl ⟨by simp only;omega,?_,by simp only[List.length_cons];omega⟩
   simp only
   rw[←p2,←hst,List.append_assoc];rfl
  ·have e1:y=((m % 10:Nat):Int):=by omega
   have hc:UInt8.ofNat (IntKind.u8.wrap (48+y)).toNat=UInt8.ofNat (48+m % 10):=by
    rw[wrap_u8 _ (by omega),e1]
    congr 1
   simp -implicitDefEqProofs (disch:=omega) only[go_sem,hy,hq]
   refine W3 ?_
   refine bF (m/10,UInt8.ofNat (48+m % 10)::out) (by simp only;omega) (by rw[←hc];rfl) rfl ⟨by simp only;omega,?_,by simp only[List.length_cons];omega⟩
   simp only
   rw[←p2,←hst,List.append_assoc];rfl
 ·have hm0:m=0:=by
   rcases Nat.eq_zero_or_pos m with e|e
   ·exact e
   ·exact absurd (by rw[hx];omega) (gne m (by omega))
  subst hm0
  have hout:out=Lib.decDigits n.natAbs:=by rw[←hd0,←p2];rfl
  refine S0 (fun hb h=>?_) fun hb h=>?_
  ·refine W3 ?_
   rw[hout]
   unfold Lib.itoa
   rw[if_pos h]
  ·rw[hout]
   unfold Lib.itoa
   rw[if_neg h,show n.toNat=n.natAbs by omega]
end Go.Proofs.YtcfhnaohbaplhaaGreatDoor
namespace Go.Ab
theorem Cx{P:Program}{w:World}{t u ty e:TypeId}{base:Option Addr}{n:Nat}{i:TypeInfo}{z:Value}(ht:P.underlying t=some (.slice e))(hu:P.underlying u=some (.int .i64))(hi:P.info? e=some i)
 (hz:i.zero=some z) (h1:1≤n) (hn:n≤1073741824) (hb:i.bytes≤4096) (hs:i.size=z.cells.size):
 ∃(cap:Nat) (row:Array Value),n≤cap∧row.size=cap*z.cells.size∧(Builtin.append_ #[t,u] ty #[.slice base 0 0,.int .i64 n]).run P w=
  .ok (.slice (some ⟨w.heap.size,0,none⟩) n cap) {w.drew with heap:=w.heap.push (.cells row e)}:=by
 have hn1:=Fh n 0 (by omega)
 have h48:¬(281474976710656<Builtin.nextslicecap n 0*i.bytes):=by
  have:Builtin.nextslicecap n 0*i.bytes≤(2*n+512)*4096:=Nat.mul_le_mul hn1 hb
  omega
 have h49:¬(281474976710656<(n:Int)*(i.bytes:Int)):=by
  have h2:n*i.bytes≤1073741824*4096:=Nat.mul_le_mul hn hb
  have:(n:Int)*(i.bytes:Int)=((n*i.bytes:Nat):Int):=by simp
  rw[this];omega
 have h63':¬(9223372036854775807<(n:Int)):=by omega
 have hroom':¬(n≤0):=by omega
 have hneg:¬((n:Int)<0):=by omega
 have hn0:¬n=0:=by omega
 have hw:IntKind.i64.wrap (n:Int)=n:=Qi _ (by omega)
 have hmax:IntKind.i64.max=9223372036854775807:=by decide
 have ha:∀w:World,(asInt (.int .i64 (n:Int))).run P w=.ok (n:Int) w:=fun w=>by simp[asInt,asIntOf]
 let cap:=(Question.appendCap n 0 e).cut (w.tape w.drawn (Question.appendCap n 0 e))
 have hcap:n≤cap:=by simp[cap,Question.cut]
 refine⟨cap,#[]++(if n*i.size=0 then #[] else Builtin.zeroCells z.cells n)++Builtin.zeroCells z.cells (cap-n),hcap,?_,?_⟩
 ·by_cases h0:n*i.size=0
  ·rw[if_pos h0]
   have hsz:z.cells.size=0:=by
    rcases Nat.mul_eq_zero.1 h0 with h|h
    ·omega
    ·omega
   simp[Builtin.zeroCells,hsz]
  ·rw[if_neg h0]
   simp only[Builtin.zeroCells,Array.size_append,Array.size_map,Array.size_range,Array.size_empty,Nat.zero_add]
   rw[←Nat.add_mul]
   congr 1
   omega
 ·by_cases h0:n*i.size=0
  ·rw[if_pos h0]
   cases base<;>simp[Builtin.append_,run_underlying ht,run_underlying hu,sizeOf,typeInfo,zeroValue,hi,hz,hroom',h48,h49,h63',hneg,hw,hmax,Question.forced,newRow,ha,hn0,loadCellsFrom,h0,Builtin.firstCells,loadCells]<;>exact⟨rfl,rfl⟩
  ·rw[if_neg h0]
   cases base<;>simp[Builtin.append_,run_underlying ht,run_underlying hu,sizeOf,typeInfo,zeroValue,hi,hz,hroom',h48,h49,h63',hneg,hw,hmax,Question.forced,newRow,ha,hn0,loadCellsFrom,h0,Builtin.firstCells,loadCells]<;>exact⟨rfl,rfl⟩
end Go.Ab
namespace Go.Proofs.YtcfhnaohbaplhaaGreatDoor
open Go Go.Ab
theorem VF(base:Option Addr)(n:Nat)(h1:1≤n)(hn:n≤1073741824)(w:World):Calls Tryz.prog 394 #[.slice base 0 0,.int .i64 n] w fun e w'=>
 ∃cap row,n≤cap∧row.size=cap∧e=.returned (.slice (some ⟨w.heap.size,0,none⟩) 0 cap)∧w'={w.drew with heap:=w.heap.push (.cells row 9)}:=by
 obtain⟨cap,row,hc,hr,hm⟩:=Cx (P:=Tryz.prog) (w:=w) (t:=41) (u:=3) (ty:=41) (e:=9) (base:=base) (n:=n) Tryz.underlying41 Tryz.underlying3 rfl rfl h1 hn (by decide +kernel) rfl
 have h0:¬((n:Int)<0):=by omega
 have h2:(0:Int)<n:=by omega
 go_enter Tryz.func394,Tryz.ntmps394
 go_wp2_with (at_builtin;refine Lib.wpList_append_run _ rfl _ _ _ _ rfl _ _ rfl rfl _ _ hm ?_)
 all_goals go_ret
 exact⟨cap,hc,row,hr.trans (Nat.mul_one _),rfl,rfl⟩
theorem SK(base:Option Addr)(w:World):Calls Tryz.prog 394 #[.slice base 0 0,.int .i64 0] w fun e w'=>e=.returned (.slice base 0 0)∧w'=w:=by
 go_enter Tryz.func394,Tryz.ntmps394
 go_wp2
 all_goals go_ret
 exact⟨rfl,rfl⟩
theorem Yp(n:Nat)(hn:n≤1073741824)(bM:List Ab.Obj)(Ω:Store):dG Tryz.prog 394 [.c (.bC []),.c (.d (.i .i64 n))] (bM::Ω)
 (fun r S'=>r=.c (.bI (0,bM.length) [])∧S'=(bM++[.tok 1 []])::Ω):=by
 refine⟨⟨_,Tryz.func394,by kernel_rfl,by kernel_rfl⟩,fun w σ β vs hS hv=> ?_⟩
 obtain⟨hl,h⟩:=hv
 obtain⟨v0,e0,⟨h0,a,m,h00⟩,_⟩:=h 0 _ rfl
 obtain⟨v1,e1,h1,_⟩:=h 1 _ rfl
 have h1':v1=.int .i64 n:=by cases h1;rfl
 subst h1'
 have hm:m=0:=by rw[h00] at h0;cases h0<;>rfl
 subst hm
 subst h00
 have hvs:vs=[.slice a 0 0,.int .i64 n]:=by
  match vs,hl,e0,e1 with
  |[x,y],_,e0,e1=>simp at e0 e1;rw[e0,e1]
 subst hvs
 cases β with
 |nil=>have:=hS.shape.1;simp at this
 |cons bo bΩ=>
 have hlen:bo.length=bM.length:=by
  obtain⟨gr,g1,g2⟩:=hS.shape.2 0 bM rfl
  simp at g1;rw[g1];exact g2
 by_cases hz:n=0
 ·subst hz
  refine(SK a w).mono fun e w' ⟨he,hw⟩=> ?_
  subst hw
  obtain⟨hS',hk,hst⟩:=hS.push (o:=.tok 1 []) (h:=.slice a 0 0) (Grow.refl hS.live) hlen ⟨h0,by simp,a,0,rfl,by simp,.inl rfl⟩ (fun b hb=>by cases a<;>simp[owns,blk] at hb)
  refine⟨_,.c (.bI (0,bM.length) []),_,_,_,he,hS',hk,hst,⟨⟨h0,.tok 1 [],?_,fun bn es e=> ?_⟩,rfl⟩,rfl,rfl⟩
  ·rw[dz]
  ·obtain⟨_,rfl⟩:=mQ (lab:=none) e;exact⟨Nat.le_refl _,fun _=>by rw[←hlen,dz]⟩
 ·refine(VF a n (by omega) hn w).mono fun e w' ⟨cap,row,hc,hr,he,hw⟩=> ?_
  subst hw
  have hσ:σ w.heap.size=0:=(hS.live w.heap.size).resolve_left (by omega)
  have hg:Grow w σ {w.drew with heap:=w.heap.push (.cells row 9)} σ:=by
   refine⟨by simp,rfl,rfl,fun b hb=>⟨?_,rfl⟩,fun b=> ?_⟩
   ·simp only[Array.getElem?_push]
    rw[if_neg (by omega)]
   ·rcases hS.live b with hb|hb
    ·left;simp;omega
    ·exact .inr hb
  obtain⟨hS',hk,hst⟩:=hS.push (o:=.tok 1 []) (h:=.slice (some ⟨w.heap.size,0,none⟩) 0 cap) hg hlen ⟨.nil _ _,by simp,_,cap,rfl,by simp,.inr ⟨w.heap.size,0,row,9,rfl,by simp,by simp[hσ],by omega⟩⟩ (fun b hb=>by
   simp only[owns,blk] at hb
   split at hb
   ·cases hb
   ·cases hb;exact Nat.le_refl _)
  refine⟨_,.c (.bI (0,bM.length) []),_,_,_,he,hS',hk,hst,⟨⟨.nil _ _,.tok 1 [],?_,fun bn es e=> ?_⟩,rfl⟩,rfl,rfl⟩
  ·rw[dz]
  ·obtain⟨_,rfl⟩:=mQ (lab:=none) e;exact⟨Nat.le_refl _,fun _=>by rw[←hlen,dz]⟩
theorem yB{xs:List (List UInt8)}:∀y∈xs.map encS,y.length=1:=fun y hy=>by
 obtain⟨z,_,rfl⟩:=List.mem_map.1 hy
 rfl
theorem AV{α:Type}(xss:List (List α)){i:Nat}(hi:i<xss.length):(xss.take (i+1)).flatten.length=(xss.take i).flatten.length+xss[i].length:=by
 rw[List.take_succ_eq_append_getElem hi,List.flatten_append,List.length_append]
 simp only[List.flatten_cons,List.flatten_nil,List.append_nil]
theorem tF{α:Type}(xss:List (List α))(i:Nat):(xss.take i).flatten.length≤xss.flatten.length:=by
 conv=>rhs;rw[←List.take_append_drop i xss]
 rw[List.flatten_append,List.length_append]
 omega
theorem SL(xss:List (List (List UInt8)))(hl:xss.length≤1073741824)(hf:xss.flatten.length≤1073741824):aD Tryz.prog 383 [.c (.d (.sl (xss.map fun a=>[.sl (a.map encS)])))] (.c (.d (.sl (xss.flatten.map encS)))):=fun S=>by
 refine aB (rs:=[.tmp 2]) Tryz.checked.mixed Tryz.func383 Tryz.ntmps383 rfl rfl rfl rfl rfl ?_
 refine W1 ?_
 refine aR (ι:=Nat) Tryz.checked.mixed rfl [0,3,9,10,11] (fun i=>[.c (.d (.sl (xss.map fun a=>[.sl (a.map encS)]))),.c (.d (.i .i64 (xss.take i).flatten.length)),.c (.d (.sl (xss.map fun a=>[.sl (a.map encS)]))),.c (.d (.i .i64 xss.length)),.c (.d (.i .i64 i))]) (fun _=>[]::S)
  (fun i=>i≤xss.length) (fun i=>xss.length-i) 0 rfl rfl (Nat.zero_le _) ?_
 rintro i p1
 have hfi:=tF xss i
 by_cases hi:i<xss.length
 ·have hs:=AV xss hi
  have Yq:=tF xss (i+1)
  refine W1 ?_
  refine S0 (fun hb h=>?_) fun hb h=>?_
  ·refine W3 ?_
   refine S0 (fun hb h=>?_) fun hb h=>?_
   ·omega
   ·refine bF (i+1) (by omega) ?_ rfl (by omega)
    rw[hs];rfl
  ·omega
 have hi:i=xss.length:=by omega
 subst hi
 refine W1 ?_
 refine S0 (fun hb h=>?_) fun hb h=>?_
 ·omega
 rw[List.take_length]
 clear hfi
 refine dS rfl (Yp xss.flatten.length hf [] S) ?_
 refine W1 ?_
 refine aR (ι:=Nat) Tryz.checked.mixed rfl [6,25,26,27] (fun i=>[.c (.bI (0,0) ((xss.take i).flatten.map encS)),.c (.d (.sl (xss.map fun a=>[.sl (a.map encS)]))),.c (.d (.i .i64 xss.length)),.c (.d (.i .i64 i))]) (fun i=>[.tok 1 ((xss.take i).flatten.map encS)]::S)
  (fun i=>i≤xss.length) (fun i=>xss.length-i) 0 rfl rfl (Nat.zero_le _) ?_
 rintro i p1
 have hfi:=tF xss i
 by_cases hi:i<xss.length
 ·have hs:=AV xss hi
  have Yq:=tF xss (i+1)
  have e:(xss.take (i+1)).flatten.map encS=(xss.take i).flatten.map encS++xss[i].map encS:=by
   rw[List.take_succ_eq_append_getElem hi,List.flatten_append,List.map_append]
   simp only[List.flatten_cons,List.flatten_nil,List.append_nil]
  refine W1 ?_
  refine S0 (fun hb h=>?_) fun hb h=>?_
  ·refine W3 ?_
   refine⟨yB,⟨_,rfl,rfl⟩,by omega,?_⟩
   exact bF (i+1) (by omega) (by rw[e];rfl) (by rw[e]) (by omega)
  ·omega
 ·have hi:i=xss.length:=by omega
  subst hi
  refine W1 ?_
  refine S0 (fun hb h=>?_) fun hb h=>?_
  ·omega
  rw[List.take_length]
theorem SN(c:Nat)(w:World):Calls Tryz.prog 382 #[.slice none 0 c] w fun e w'=>e=.returned (.slice none 0 0)∧w'=w:=by
 have hb:(binOp .eql 41 (.slice none 0 c) (.slice none 0 0)).run Tryz.prog w=.ok (.bool true) w:=by
  simp[binOp,run_equal_slice_nil w _ _ _ _ _ Tryz.underlying41]
 go_enter Tryz.func382,Tryz.ntmps382
 go_wp2
 all_goals go_ret
 exact⟨rfl,rfl⟩
theorem SQ(w w':World)(a:Addr)(n c:Nat)(r:Value)(hm:(Builtin.append_ #[41,41] 41 #[.slice (some ⟨w.heap.size,0,none⟩) 0 0,.slice (some a) n c]).run Tryz.prog (w.alloc (.cells #[] 9))=.ok r w'):
 Calls Tryz.prog 382 #[.slice (some a) n c] w fun e w''=>e=.returned r∧w''=w':=by
 have hb:(binOp .eql 41 (.slice (some a) n c) (.slice none 0 0)).run Tryz.prog w=.ok (.bool false) w:=by
  simp[binOp,run_equal_slice_nil w _ _ _ _ _ Tryz.underlying41]
 go_enter Tryz.func382,Tryz.ntmps382
 go_wp2_with (at_builtin;refine Lib.wpList_append_run _ rfl _ _ _ _ rfl _ _ rfl rfl _ _ hm ?_)
 all_goals go_ret
 exact⟨rfl,rfl⟩
theorem VG(xs:List (List UInt8))(hx:xs.length≤1073741824)(bM:List Ab.Obj)(Ω:Store):dG Tryz.prog 382 [.c (.d (.sl (xs.map encS)))] (bM::Ω)
 (fun r S'=>r=.c (.bI (0,bM.length) (xs.map encS))∧S'=(bM++[.tok 1 (xs.map encS)])::Ω):=by
 have adY:(xs.map encS).length≤1073741824:=by simpa using hx
 have h1:=yB (xs:=xs)
 generalize xs.map encS=es at *
 refine⟨⟨_,Tryz.func382,by kernel_rfl,by kernel_rfl⟩,fun w σ β vs hS hv=> ?_⟩
 obtain⟨hl,h⟩:=hv
 obtain⟨v,e0,hd,_⟩:=h 0 _ rfl
 have hd:dK w σ (.sl es) v:=hd
 have hvs:vs=[v]:=by
  match vs,hl,e0 with
  |[x],_,e0=>simp at e0;rw[e0]
 subst hvs
 cases β with
 |nil=>have:=hS.shape.1;simp at this
 |cons bo bΩ=>
 have hlen:bo.length=bM.length:=by
  obtain⟨gr,g1,g2⟩:=hS.shape.2 0 bM rfl
  simp at g1;rw[g1];exact g2
 have hv:∃a c,v=.slice a es.length c∧(a=none→es=[]):=by
  cases hd with
  |nil a cap=>exact⟨a,cap,rfl,fun _=>rfl⟩
  |sl b off cap bn es vals c t fz=>exact⟨_,_,rfl,fun h=>by cases h⟩
 obtain⟨a,c,rfl,ha⟩:=hv
 cases a with
 |none=>
  have:=ha rfl
  subst this
  refine(SN c w).mono fun e w' ⟨he,hw⟩=> ?_
  subst hw
  obtain⟨hS',hk,hst⟩:=hS.push (o:=.tok 1 []) (h:=.slice none 0 0) (Grow.refl hS.live) hlen ⟨.nil _ _,by simp,none,0,rfl,by simp,.inl rfl⟩ (fun b hb=>by simp[owns,blk] at hb)
  refine⟨_,.c (.bI (0,bM.length) []),_,_,_,he,hS',hk,hst,⟨⟨.nil _ _,.tok 1 [],?_,fun bn es e=> ?_⟩,rfl⟩,rfl,rfl⟩
  ·rw[dz]
  ·obtain⟨_,rfl⟩:=mQ (lab:=none) e;exact⟨Nat.le_refl _,fun _=>by rw[←hlen,dz]⟩
 |some a=>
  have hσ:σ w.heap.size=0:=(hS.live w.heap.size).resolve_left (by omega)
  have hg:Grow w σ (w.alloc (.cells #[] 9)) σ:=by
   have hh:(w.alloc (.cells #[] 9)).heap=w.heap.push (.cells #[] 9):=rfl
   refine⟨by rw[hh];simp,rfl,rfl,fun b hb=>⟨?_,rfl⟩,fun b=> ?_⟩
   ·rw[hh,Array.getElem?_push]
    rw[if_neg (by omega)]
   ·rcases hS.live b with hb|hb
    ·left;rw[hh];simp;omega
    ·exact .inr hb
  have Bw:ig (w.alloc (.cells #[] 9)) σ [] [] (.tok 1 []) (.slice (some ⟨w.heap.size,0,none⟩) 0 0):=⟨.nil _ _,by simp,_,0,rfl,by simp,.inl rfl⟩
  obtain⟨r,w',σ',hr,hro,hsz,hos,hout,hn,hli,wE,hbk,hzero,h1c⟩:=tV (lab:=none) (P:=Tryz.prog) (w:=w.alloc (.cells #[] 9)) (σ:=σ) (S:=[]) (β:=[]) (t:=41) (u:=41) (ty:=41) (e:=9) (size:=1) (es:=[]) (ys:=es) hg.live Tryz.underlying41 (.inl ⟨_,Tryz.underlying41⟩) ⟨[.d (.s [])],by kernel_rfl,rfl⟩ rfl (by decide +kernel) Bw (Bz (dK.mono hg.near hd) h1) (by simpa using adY)
  rw[List.nil_append] at hro hbk
  refine(SQ w w' a es.length c r hr).mono fun e w'' ⟨he,hw⟩=> ?_
  subst hw
  have hg2:Grow (w.alloc (.cells #[] 9)) σ w'' σ':=⟨hsz,hos,hout,fun b hb=>wE b hb (by simp[kJ,owns,blk]),hli⟩
  have hg3:=hg.trans hg2
  obtain⟨hS',hk,hst⟩:=hS.push (o:=.tok 1 es) (h:=r) hg3 hlen (hro _ _) (fun b hb=>by
   rcases hbk b hb with h|h
   ·simp[kJ,owns,blk] at h
   ·exact Nat.le_trans hg.size h)
  refine⟨_,.c (.bI (0,bM.length) es),_,_,_,he,hS',hk,hst,⟨⟨(hro [] []).1,.tok 1 es,?_,fun bn es' e=> ?_⟩,h1c⟩,rfl,rfl⟩
  ·rw[dz]
  ·obtain⟨_,rfl⟩:=mQ (lab:=none) e;exact⟨Nat.le_refl _,fun _=>by rw[←hlen,dz]⟩
end Go.Proofs.YtcfhnaohbaplhaaGreatDoor
namespace Go.Ab
theorem dG.args{P:Program}{f:FuncId}{args args':List V}{S:Store}{post:V→Store→Prop}(h:dG P f args' S post)(hl:qj args args'):dG P f args S post:=h.weaken hl.length fun j x y hx hy w σ β v hr=>hl.at j x y hx hy w σ S β v hr
theorem lq(n:Nat)(es:List (List D)):Less (.c (.kg n es)) (.c (.d (.sl es))):=fun w σ S β v h=>⟨vR h.1.1,h.2⟩
end Go.Ab
namespace Go.Proofs.YtcfhnaohbaplhaaGreatDoor
open Go Go.Ab
theorem lu(xs:List (List UInt8))(hx:xs.length≤1073741824)(n q:Nat)(bM:List Ab.Obj)(Ω:Store):dG Tryz.prog 204 [.c (.d (.sl (xs.map encS)))] (bM::Ω)
 (fun r S'=>r=.c (.bI (0,bM.length+1) (lx (aU xs) q))∧S'=(bM++[.seed n,.eB n 2 (lx (aU xs) q)])::Ω):=by
 refine Sv (n) (rs:=[.tmp 2]) Tryz.checked.mixed Tryz.func204 Tryz.ntmps204 rfl rfl rfl rfl rfl ?_
 refine W1 ?_
 refine W3 ?_
 refine kW n 3 2 [] (.inl rfl) (by simp) ?_
 refine aR (ι:=Nat) Tryz.checked.mixed rfl [3,7,8,9] (fun i=>[.c (.bI (0,1) (lx ((aU xs).take i) q)),.c (.d (.sl (xs.map encS))),.c (.d (.i .i64 xs.length)),.c (.d (.i .i64 i))]) (fun i=>[.seed n,.eB n 2 (lx ((aU xs).take i) q)]::bM::Ω)
  (fun i=>i≤xs.length) (fun i=>xs.length-i) 0 rfl rfl (Nat.zero_le _) ?_
 intro i hi
 refine W1 ?_
 refine S0 (fun hb h=>?_) fun hb h=>?_
 ·have hi':i<xs.length:=by omega
  have hw:i<(aU xs).length:=by rw[iH];exact hi'
  have hg:(aU xs)[i]=bO xs[i]:=by simp[aU]
  have hl:(lx ((aU xs).take i) q).length≤i:=by rw[eX];exact List.length_take_le _ _
  refine W3 ?_
  refine C1 (bZ xs[i] (q+gD ((aU xs).take i))) ?_
  refine W3 ?_
  have hs:=IV hw q
  rw[hg,ru] at hs
  rw[hs]
  exact bF (i+1) (by omega) rfl rfl (by omega)
 ·have hi':i=(aU xs).length:=by rw[iH];omega
  rw[hi',List.take_length]
  exact⟨rfl,rfl⟩
theorem VH(base:Option Addr)(n:Nat)(h1:1≤n)(hn:n≤1073741824)(w:World):Calls Tryz.prog 291 #[.slice base 0 0,.int .i64 n] w fun e w'=>
 ∃cap row,n≤cap∧row.size=cap*2∧e=.returned (.slice (some ⟨w.heap.size,0,none⟩) 0 cap)∧w'={w.drew with heap:=w.heap.push (.cells row 78)}:=by
 obtain⟨cap,row,hc,hr,hm⟩:=Cx (P:=Tryz.prog) (w:=w) (t:=76) (u:=3) (ty:=76) (e:=78) (base:=base) (n:=n) Tryz.underlying76 Tryz.underlying3 rfl rfl h1 hn (by decide +kernel) rfl
 have h0:¬((n:Int)<0):=by omega
 have h2:(0:Int)<n:=by omega
 go_enter Tryz.func291,Tryz.ntmps291
 go_wp2_with (at_builtin;refine Lib.wpList_append_run _ rfl _ _ _ _ rfl _ _ rfl rfl _ _ hm ?_)
 all_goals go_ret
 exact⟨cap,hc,row,hr,rfl,rfl⟩
theorem SS(base:Option Addr)(w:World):Calls Tryz.prog 291 #[.slice base 0 0,.int .i64 0] w fun e w'=>e=.returned (.slice base 0 0)∧w'=w:=by
 go_enter Tryz.func291,Tryz.ntmps291
 go_wp2
 all_goals go_ret
 exact⟨rfl,rfl⟩
theorem VI(m n:Nat)(hn:n≤1073741824)(bM:List Ab.Obj)(Ω:Store):dG Tryz.prog 291 [.c (.bC []),.c (.d (.i .i64 n))] (bM::Ω)
 (fun r S'=>r=.c (.bI (0,bM.length) [])∧S'=(bM++[.eB m 2 []])::Ω):=by
 refine⟨⟨_,Tryz.func291,by kernel_rfl,by kernel_rfl⟩,fun w σ β vs hS hv=> ?_⟩
 obtain⟨hl,h⟩:=hv
 obtain⟨v0,e0,⟨h0,a,m',h00⟩,_⟩:=h 0 _ rfl
 obtain⟨v1,e1,h1,_⟩:=h 1 _ rfl
 have h1':v1=.int .i64 n:=by cases h1;rfl
 subst h1'
 have hm:m'=0:=by rw[h00] at h0;cases h0<;>rfl
 subst hm
 subst h00
 have hvs:vs=[.slice a 0 0,.int .i64 n]:=by
  match vs,hl,e0,e1 with
  |[x,y],_,e0,e1=>simp at e0 e1;rw[e0,e1]
 subst hvs
 cases β with
 |nil=>have:=hS.shape.1;simp at this
 |cons bo bΩ=>
 have hlen:bo.length=bM.length:=by
  obtain⟨gr,g1,g2⟩:=hS.shape.2 0 bM rfl
  simp at g1;rw[g1];exact g2
 by_cases hz:n=0
 ·subst hz
  refine(SS a w).mono fun e w' ⟨he,hw⟩=> ?_
  subst hw
  obtain⟨hS',hk,hst⟩:=hS.push (o:=.eB m 2 []) (h:=.slice a 0 0) (Grow.refl hS.live) hlen ⟨h0,by simp,a,0,rfl,by simp,.inl ⟨rfl,.wC _ _ _⟩⟩ (fun b hb=>by cases a<;>simp[owns,blk] at hb)
  refine⟨_,.c (.bI (0,bM.length) []),_,_,_,he,hS',hk,hst,⟨⟨h0,.eB m 2 [],?_,fun bn es e=> ?_⟩,rfl⟩,rfl,rfl⟩
  ·rw[dz]
  ·obtain⟨_,rfl⟩:=mQ (lab:=some m) e;exact⟨Nat.le_refl _,fun _=>by rw[←hlen,dz]⟩
 ·refine(VH a n (by omega) hn w).mono fun e w' ⟨cap,row,hc,hr,he,hw⟩=> ?_
  subst hw
  have hσ:σ w.heap.size=0:=(hS.live w.heap.size).resolve_left (by omega)
  have hg:Grow w σ {w.drew with heap:=w.heap.push (.cells row 78)} σ:=by
   refine⟨by simp,rfl,rfl,fun b hb=>⟨?_,rfl⟩,fun b=> ?_⟩
   ·simp only[Array.getElem?_push]
    rw[if_neg (by omega)]
   ·rcases hS.live b with hb|hb
    ·left;simp;omega
    ·exact .inr hb
  obtain⟨hS',hk,hst⟩:=hS.push (o:=.eB m 2 []) (h:=.slice (some ⟨w.heap.size,0,none⟩) 0 cap) hg hlen ⟨.nil _ _,by simp,_,cap,rfl,by simp,.inr ⟨by simp;omega,w.heap.size,0,row,78,rfl,by simp,by simp[hσ],by omega⟩⟩ (fun b hb=>by
   simp only[owns,blk] at hb
   split at hb
   ·cases hb
   ·cases hb;exact Nat.le_refl _)
  refine⟨_,.c (.bI (0,bM.length) []),_,_,_,he,hS',hk,hst,⟨⟨.nil _ _,.eB m 2 [],?_,fun bn es e=> ?_⟩,rfl⟩,rfl,rfl⟩
  ·rw[dz]
  ·obtain⟨_,rfl⟩:=mQ (lab:=some m) e;exact⟨Nat.le_refl _,fun _=>by rw[←hlen,dz]⟩
theorem Pt(m l:Nat)(xss:List (Nat×List (List D)))(hl:xss.length≤1073741824)(hr:∀p∈xss,∀r∈p.2,r.length=2)(hf:(xss.map (·.2)).flatten.length≤1073741824):aD Tryz.prog 205 [.c (.kg l (xss.map fun p=>[.ol p.1 p.2]))] (.c (.d (.ol m (xss.map (·.2)).flatten))):=fun S=>by
 obtain⟨ys,hys⟩:∃ys:List (List (List D)),ys=xss.map (·.2):=⟨_,rfl⟩
 rw[←hys] at hf ⊢
 have hyl:ys.length=xss.length:=by rw[hys,List.length_map]
 have hyi:∀i (hi:i<xss.length),ys[i]'(by omega)=xss[i].2:=fun i hi=>by simp[hys]
 have YS:∀i (hi:i<xss.length),∀r∈xss[i].2,r.length=2:=fun i hi=>hr _ (List.getElem_mem hi)
 refine yV (m) (rs:=[.tmp 2]) Tryz.checked.mixed Tryz.func205 Tryz.ntmps205 rfl rfl rfl rfl rfl ?_
 refine W1 ?_
 refine aR (ι:=Nat) Tryz.checked.mixed rfl [0,3,9,10,11] (fun i=>[.c (.kg l (xss.map fun p=>[.ol p.1 p.2])),.c (.d (.i .i64 (ys.take i).flatten.length)),.c (.kg l (xss.map fun p=>[.ol p.1 p.2])),.c (.d (.i .i64 xss.length)),.c (.d (.i .i64 i))]) (fun _=>[.seed m]::S)
  (fun i=>i≤xss.length) (fun i=>xss.length-i) 0 rfl rfl (Nat.zero_le _) ?_
 rintro i p1
 have hfi:=tF ys i
 by_cases hi:i<xss.length
 ·have hs:=AV ys (i:=i) (by omega)
  rw[hyi i hi] at hs
  have Yq:=tF ys (i+1)
  refine W1 ?_
  refine S0 (fun hb h=>?_) fun hb h=>?_
  ·refine W3 ?_
   refine S0 (fun hb h=>?_) fun hb h=>?_
   ·omega
   ·refine bF (i+1) (by omega) ?_ rfl (by omega)
    rw[hs];rfl
  ·omega
 have hi:i=xss.length:=by omega
 subst hi
 refine W1 ?_
 refine S0 (fun hb h=>?_) fun hb h=>?_
 ·omega
 rw[←hyl,List.take_length]
 clear hfi
 refine dS rfl (VI m ys.flatten.length hf [.seed m] S) ?_
 refine W1 ?_
 refine aR (ι:=Nat) Tryz.checked.mixed rfl [6,25,26,27] (fun i=>[.c (.bI (0,1) (ys.take i).flatten),.c (.kg l (xss.map fun p=>[.ol p.1 p.2])),.c (.d (.i .i64 xss.length)),.c (.d (.i .i64 i))]) (fun i=>[.seed m,.eB m 2 (ys.take i).flatten]::S)
  (fun i=>i≤xss.length) (fun i=>xss.length-i) 0 (by rw[←hyl];rfl) rfl (Nat.zero_le _) ?_
 rintro i p1
 have hfi:=tF ys i
 by_cases hi:i<xss.length
 ·have hs:=AV ys (i:=i) (by omega)
  rw[hyi i hi] at hs
  have Yq:=tF ys (i+1)
  have e:(ys.take (i+1)).flatten=(ys.take i).flatten++xss[i].2:=by
   rw[List.take_succ_eq_append_getElem (by omega),List.flatten_append,hyi i hi]
   simp only[List.flatten_cons,List.flatten_nil,List.append_nil]
  have hri:=YS i hi
  refine W1 ?_
  refine S0 (fun hb h=>?_) fun hb h=>?_
  ·refine W3 ?_
   exact bF (i+1) (by omega) (by rw[e];rfl) (by rw[e]) (by omega)
  ·omega
 ·have hi:i=ys.length:=by omega
  refine W1 ?_
  refine S0 (fun hb h=>?_) fun hb h=>?_
  ·omega
  rw[hi,List.take_length]
end Go.Proofs.YtcfhnaohbaplhaaGreatDoor
namespace Go.Ab
theorem jk{x:au}{k:Int}(h:x.aV=k):jC x.aV x.bJ x.fName x.fType=jC k x.bJ x.fName x.fType:=by rw[h]
theorem JY{l:List au}{t:au}(h:t∈l):t.sz≤Np l:=by
 rw[←EB];exact bD (List.mem_map_of_mem h)
theorem GN{l:List aX}{t:aX}(h:t∈l):t.sz≤Nq l:=by
 rw[←EC];exact bD (List.mem_map_of_mem h)
theorem zl:∀{xs:List au},kX xs=true↔∀t∈xs,gW t=true
 |[]=>by simp[kX]
 |t::ts=>by simp[kX,zl (xs:=ts)]
theorem AX:∀{xs:List aX},nJ xs=true↔∀t∈xs,uz t=true
 |[]=>by simp[nJ]
 |t::ts=>by simp[nJ,AX (xs:=ts)]
theorem jJ{x:au}(h1:x.aV≠1)(h2:x.aV≠2)(h3:x.aV≠3)(h:x.aV=4∨x.aV=5∨x.aV=6∨x.aV=8∨x.aV=9∨x.aV=10∨x.aV=11∨x.aV=12):
 eH x=bR (jC x.aV x.bJ x.fName x.fType++x.fArgs.map eH):=by rw[Cr,if_neg h1,if_neg h2,if_neg h3,if_pos h,List.append_nil]
end Go.Ab
namespace Go.Proofs.YtcfhnaohbaplhaaGreatDoor
open Go Go.Ab
theorem GQ:∀N:Nat,∀x:au,SizeOf.sizeOf x<N→∀n:Nat,gW x=true→x.sz≤4194304→aD Tryz.prog 116 [x.v] (.agg [.d (.s (eH x).bS),.d (.ol n (lx (eH x).aY (n+1)))])
 |0=>fun x h=>by omega
 |N+1=>by
  have ih:=GQ N
  intro x hn n hok hsz S
  have iX:=au.fE x
  have rZ:=au.nD x
  have hzz:=ED x
  rw[sW,Bool.and_eq_true,Bool.and_eq_true] at hok
  obtain⟨hfi,hoa,NA⟩:=hok
  have hfi:=iO hfi
  have hoa:=zl.1 hoa
  have NA:=AX.1 NA
  obtain⟨qa,uP⟩:∃qa,qa=n+1+gD (jC x.aV x.bJ x.fName x.fType):=⟨_,rfl⟩
  obtain⟨T,hT⟩:∃T:Nat→List (List D),T=fun i=>lx ((x.fArgs.map eH).take i) qa:=⟨_,rfl⟩
  have hT0:T 0=[]:=by rw[hT];rfl
  have fP:∀i,(T i).length≤i:=fun i=>by rw[hT];simp only[eX];exact List.length_take_le _ _
  have hTr:∀i,∀r∈T i,r.length=2:=fun i=>by rw[hT];exact jc
  have hTs:∀i (hi:i<x.fArgs.length),T i++[[.s (eH x.fArgs[i]).bS,.ol (qa+gD ((x.fArgs.map eH).take i)) (lx (eH x.fArgs[i]).aY (qa+gD ((x.fArgs.map eH).take i)+1))]]=T (i+1):=fun i hi=>by
   have:=vg (l:=x.fArgs.map eH) (i:=i) (by rw[List.length_map];exact hi) qa
   rw[List.getElem_map] at this
   rw[hT];exact this
  have hTe:T x.fArgs.length=lx (x.fArgs.map eH) qa:=by rw[hT];simp only;rw[List.take_of_length_le (by simp)]
  clear hT
  refine yV (n) (rs:=[.cell 2 78]) Tryz.checked.mixed Tryz.func116 Tryz.ntmps116 rfl rfl rfl rfl rfl ?_
  refine W1 ?_
  refine W3 ?_
  refine kW n 3 2 [] (.inl rfl) (by simp) ?_
  refine aR (ι:=Nat) Tryz.checked.mixed rfl [1,2,3,11,12,13] (fun i=>[.c (.ptr (0,1) 0),.c (.ptr (0,2) 0),.c (.bI (0,3) (T i)),.c (.d (.sl (x.fArgs.map au.enc))),.c (.d (.i .i64 x.fArgs.length)),.c (.d (.i .i64 i))])
   (fun i=>[.seed n,.box [.d (.i .i64 x.aV),.d (.s x.bJ),.d (.s x.fName),.d (.i .i64 x.fN),.d (.i .i64 x.fType.aV),.d (.s x.fType.fName),.d (.sl (x.fType.fArgs.map ah.enc)),.d (.sl (x.fArgs.map au.enc)),.d (.sl (x.aW.map aX.enc))],.box [.d (.s []),.bC []],.eB n 2 (T i)]::S)
   (fun i=>i≤x.fArgs.length) (fun i=>x.fArgs.length-i) 0 (by rw[hT0];rfl) (by rw[hT0];rfl) (Nat.zero_le _) ?_
  intro i hi
  have hl:=fP i
  refine W1 ?_
  refine S0 (fun hb h=>?_) fun hb h=>?_
  ·have hi':i<x.fArgs.length:=by omega
   have hm:=List.getElem_mem hi'
   have YV:=JY hm
   have hs:=hTs i hi'
   refine W3 ?_
   refine C1 (ih x.fArgs[i] (by have:=List.sizeOf_lt_of_mem hm;omega) (qa+gD ((x.fArgs.map eH).take i)) (hoa _ hm) (by omega)) ?_
   refine W3 ?_
   rw[hs]
   exact bX 4 (by decide) (i+1) (by omega) rfl rfl rfl rfl (by omega)
  have hi':i=x.fArgs.length:=by omega
  subst hi'
  clear hTs hi h hb
  have hTT:=hTr x.fArgs.length
  have hxe:=Cr x
  refine S0 (fun hb h=>?_) fun hb h=>?_
  ·rw[if_pos h] at hxe
   rw[hxe]
   have hb:=hfi.2.2.2.1
   rw[if_pos h] at hb
   refine C1 (EJ x.fN (by omega) (by omega)) ?_
   refine C1 (bZ _ n) ?_
   rfl
  have k1:=h
  rw[if_neg h] at hxe
  refine S0 (fun hb h=>?_) fun hb h=>?_
  ·rw[if_pos h] at hxe
   rw[hxe]
   refine S0 (fun hb h=>?_) fun hb h=>?_
   ·rw[if_pos h]
    refine C1 (bZ _ n) ?_
    rfl
   ·rw[if_neg h]
    refine C1 (bZ _ n) ?_
    rfl
  have k2:=h
  rw[if_neg h] at hxe
  refine S0 (fun hb h=>?_) fun hb h=>?_
  ·rw[if_pos h] at hxe
   rw[hxe]
   refine C1 (bZ _ n) ?_
   rfl
  have k3:=h
  clear hxe
  refine S0 (fun hb h=>?_) fun hb h=>?_
  ·have hx:=jJ k1 k2 k3 (by omega)
   have hh:jC x.aV x.bJ x.fName x.fType=aU [yX,x.fName]:=by rw[jk h];rfl
   rw[hh] at hx uP
   refine W3 ?_
   refine dS rfl (dG.args (lu [yX,x.fName] (by simp) n (n+1) _ _) (.cons (lq n _) .nil)) ?_
   have JZ:(lx (aU [yX,x.fName]) (n+1)).length=2:=by rw[eX];rfl
   have J2:=jc (l:=aU [yX,x.fName]) (n:=n+1)
   refine W1 ?_
   refine W3 ?_
   refine dS rfl (iU 0 5 _ _) ?_
   refine W1 ?_
   rw[hx,hTe,uP,dL,cO,jy]
  have k4:=h
  refine S0 (fun hb h=>?_) fun hb h=>?_
  ·have hx:=jJ k1 k2 k3 (by omega)
   have hh:jC x.aV x.bJ x.fName x.fType=aU [sZ,x.bJ,x.fName]:=by rw[jk h];rfl
   rw[hh] at hx uP
   refine W3 ?_
   refine dS rfl (dG.args (lu [sZ,x.bJ,x.fName] (by simp) n (n+1) _ _) (.cons (lq n _) .nil)) ?_
   have JZ:(lx (aU [sZ,x.bJ,x.fName]) (n+1)).length=3:=by rw[eX];rfl
   have J2:=jc (l:=aU [sZ,x.bJ,x.fName]) (n:=n+1)
   refine W1 ?_
   refine W3 ?_
   refine dS rfl (iU 0 5 _ _) ?_
   refine W1 ?_
   rw[hx,hTe,uP,dL,cO,jy]
  have k5:=h
  refine S0 (fun hb h=>?_) fun hb h=>?_
  ·have hx:=jJ k1 k2 k3 (by omega)
   have hh:jC x.aV x.bJ x.fName x.fType=aU [Co,x.fName]:=by rw[jk h];rfl
   rw[hh] at hx uP
   refine W3 ?_
   refine dS rfl (dG.args (lu [Co,x.fName] (by simp) n (n+1) _ _) (.cons (lq n _) .nil)) ?_
   have JZ:(lx (aU [Co,x.fName]) (n+1)).length=2:=by rw[eX];rfl
   have J2:=jc (l:=aU [Co,x.fName]) (n:=n+1)
   refine W1 ?_
   refine W3 ?_
   refine dS rfl (iU 0 5 _ _) ?_
   refine W1 ?_
   rw[hx,hTe,uP,dL,cO,jy]
  have k6:=h
  refine S0 (fun hb h=>?_) fun hb h=>?_
  ·have hx:=Cr x
   rw[if_neg k1,if_neg k2,if_neg k3,if_neg (by omega)] at hx
   have hh:jC x.aV x.bJ x.fName x.fType=aU [pW]:=by rw[jk h];rfl
   rw[hh] at hx uP
   obtain⟨B,hB⟩:∃B:Nat→List (List D),B=fun i=>lx (x.fArgs.map eH++(x.aW.map wM).take i) qa:=⟨_,rfl⟩
   obtain⟨L,hL⟩:∃L:Nat→Nat,L=fun i=>qa+gD (x.fArgs.map eH++(x.aW.map wM).take i):=⟨_,rfl⟩
   have hB0:T x.fArgs.length=B 0:=by rw[hTe,hB];simp only[List.take_zero,List.append_nil]
   have hBl:∀i,(B i).length≤i+x.fArgs.length:=fun i=>by
    rw[hB];simp only[eX,List.length_append,List.length_map]
    have:=List.length_take_le i (x.aW.map wM)
    omega
   have hBr:∀i,∀r∈B i,r.length=2:=fun i=>by rw[hB];exact jc
   have hBs:∀i (hi:i<x.aW.length),B i++[[.s [],.ol (L i) (lx ([bO x.aW[i].dx]++aU x.aW[i].aF++[eH x.aW[i].fBody]) (L i+1))]]=B (i+1):=fun i hi=>by
    have:=vk (base:=x.fArgs.map eH) (l:=x.aW.map wM) (i:=i) (by rw[List.length_map];exact hi) qa
    rw[List.getElem_map,Vt,dL,cO] at this
    rw[hB,hL];exact this
   have hBe:B x.aW.length=lx (x.fArgs.map eH++x.aW.map wM) qa:=by rw[hB];simp only;rw[List.take_of_length_le (by simp)]
   clear hB hL hTT
   refine W3 ?_
   refine dS rfl (dG.args (lu [pW] (by simp) n (n+1) _ _) (.cons (lq n _) .nil)) ?_
   have JZ:(lx (aU [pW]) (n+1)).length=1:=by rw[eX];rfl
   have J2:=jc (l:=aU [pW]) (n:=n+1)
   refine W1 ?_
   rw[hB0]
   obtain⟨HD,hHD⟩:∃HD,HD=lx (aU [pW]) (n+1):=⟨_,rfl⟩
   rw[←hHD] at JZ J2 ⊢
   refine aR (ι:=Nat) Tryz.checked.mixed rfl [2,3,6,69,70,71] (fun i=>[.c (.ptr (0,2) 0),.c (.bI (0,3) (B i)),.c (.bI (0,5) HD),.c (.d (.sl (x.aW.map aX.enc))),.c (.d (.i .i64 x.aW.length)),.c (.d (.i .i64 i))])
    (fun i=>[.seed n,.box [.d (.i .i64 x.aV),.d (.s x.bJ),.d (.s x.fName),.d (.i .i64 x.fN),.d (.i .i64 x.fType.aV),.d (.s x.fType.fName),.d (.sl (x.fType.fArgs.map ah.enc)),.d (.sl (x.fArgs.map au.enc)),.d (.sl (x.aW.map aX.enc))],.box [.d (.s []),.bC []],.eB n 2 (B i),.seed n,.eB n 2 HD]::S)
    (fun i=>i≤x.aW.length) (fun i=>x.aW.length-i) 0 rfl rfl (Nat.zero_le _) ?_
   intro i hi
   have hl:=hBl i
   have hr:=hBr i
   refine W1 ?_
   refine S0 (fun hb h=>?_) fun hb h=>?_
   ·have hi':i<x.aW.length:=by omega
    have hm:=List.getElem_mem hi'
    have YV:=GN hm
    have hea:=Ct x.aW[i]
    have hs:=hBs i hi'
    have hak:=NA _ hm
    rw[oC,Bool.and_eq_true,Bool.and_eq_true] at hak
    have hls:=List.sizeOf_lt_of_mem hm
    have hlb:=aX.mI x.aW[i]
    refine W3 ?_
    refine nK (wH [x.aW[i].dx] (by simp) 0 (L i+1)) (.cons (lq n _) .nil) ?_
    refine W1 ?_
    refine C1 (wH x.aW[i].aF (by omega) 0 (L i+1+gD (aU [x.aW[i].dx]))) ?_
    refine C1 (ih x.aW[i].fBody (by omega) (L i+1+gD (aU [x.aW[i].dx]++aU x.aW[i].aF)) hak.2.2 (by omega)) ?_
    refine W3 ?_
    refine bN (Pt (L i) n [(0,lx (aU [x.aW[i].dx]) (L i+1)),(0,lx (aU x.aW[i].aF) (L i+1+gD (aU [x.aW[i].dx]))),(n,[[.s (eH x.aW[i].fBody).bS,.ol (L i+1+gD (aU [x.aW[i].dx]++aU x.aW[i].aF)) (lx (eH x.aW[i].fBody).aY (L i+1+gD (aU [x.aW[i].dx]++aU x.aW[i].aF)+1))]])] (by simp) ?_ ?_) ?_
    ·intro p hp
     simp only[List.mem_cons,List.not_mem_nil,or_false] at hp
     rcases hp with rfl|rfl|rfl
     ·exact jc
     ·exact jc
     ·simp
    ·simp only[List.map_cons,List.map_nil,List.flatten_cons,List.flatten_nil,List.length_append,eX,iH,List.length_cons,List.length_nil];omega
    refine W1 ?_
    refine C1 (jo _) ?_
    refine W3 ?_
    have hrow:[lx (aU [x.aW[i].dx]) (L i+1),lx (aU x.aW[i].aF) (L i+1+gD (aU [x.aW[i].dx])),[[.s (eH x.aW[i].fBody).bS,.ol (L i+1+gD (aU [x.aW[i].dx]++aU x.aW[i].aF)) (lx (eH x.aW[i].fBody).aY (L i+1+gD (aU [x.aW[i].dx]++aU x.aW[i].aF)+1))]]].flatten=lx ([bO x.aW[i].dx]++aU x.aW[i].aF++[eH x.aW[i].fBody]) (L i+1):=by
     have e1:[bO x.aW[i].dx]=aU [x.aW[i].dx]:=rfl
     rw[e1,jy,jy,iD (eH x.aW[i].fBody) [],kE,iC (eH x.aW[i].fBody)]
     simp only[List.flatten_cons,List.flatten_nil,List.append_nil,List.append_assoc]
    rw[hrow,hs]
    exact bX 6 (by decide) (i+1) (by omega) rfl rfl rfl rfl (by omega)
   ·have hi':i=x.aW.length:=by omega
    subst hi'
    have hr2:=hBr x.aW.length
    refine W3 ?_
    refine dS rfl (iU 0 5 _ _) ?_
    refine W1 ?_
    rw[hx,hBe,uP,hHD,dL,cO,List.append_assoc,jy (aU [pW])]
  have k7:=h
  refine S0 (fun hb h=>?_) fun hb h=>?_
  ·have hx:=jJ k1 k2 k3 (by omega)
   have hh:jC x.aV x.bJ x.fName x.fType=aU [Cq,x.fName]:=by rw[jk h];rfl
   rw[hh] at hx uP
   refine W3 ?_
   refine dS rfl (dG.args (lu [Cq,x.fName] (by simp) n (n+1) _ _) (.cons (lq n _) .nil)) ?_
   have JZ:(lx (aU [Cq,x.fName]) (n+1)).length=2:=by rw[eX];rfl
   have J2:=jc (l:=aU [Cq,x.fName]) (n:=n+1)
   refine W1 ?_
   refine W3 ?_
   refine dS rfl (iU 0 5 _ _) ?_
   refine W1 ?_
   rw[hx,hTe,uP,dL,cO,jy]
  have k8:=h
  refine S0 (fun hb h=>?_) fun hb h=>?_
  ·have hx:=jJ k1 k2 k3 (by omega)
   have hh:jC x.aV x.bJ x.fName x.fType=aU [JV]:=by rw[jk h];rfl
   rw[hh] at hx uP
   refine W3 ?_
   refine dS rfl (dG.args (lu [JV] (by simp) n (n+1) _ _) (.cons (lq n _) .nil)) ?_
   have JZ:(lx (aU [JV]) (n+1)).length=1:=by rw[eX];rfl
   have J2:=jc (l:=aU [JV]) (n:=n+1)
   refine W1 ?_
   refine W3 ?_
   refine dS rfl (iU 0 5 _ _) ?_
   refine W1 ?_
   rw[hx,hTe,uP,dL,cO,jy]
  have k9:=h
  refine S0 (fun hb h=>?_) fun hb h=>?_
  ·have hx:=jJ k1 k2 k3 (by omega)
   have hh:jC x.aV x.bJ x.fName x.fType=aU [x.fName]:=by rw[jk h];rfl
   rw[hh] at hx uP
   refine W3 ?_
   refine dS rfl (dG.args (lu [x.fName] (by simp) n (n+1) _ _) (.cons (lq n _) .nil)) ?_
   have JZ:(lx (aU [x.fName]) (n+1)).length=1:=by rw[eX];rfl
   have J2:=jc (l:=aU [x.fName]) (n:=n+1)
   refine W1 ?_
   refine W3 ?_
   refine dS rfl (iU 0 5 _ _) ?_
   refine W1 ?_
   rw[hx,hTe,uP,dL,cO,jy]
  have k10:=h
  refine S0 (fun hb h=>?_) fun hb h=>?_
  ·have hx:=jJ k1 k2 k3 (by omega)
   have hh:jC x.aV x.bJ x.fName x.fType=aU [yY,x.bJ]:=by rw[jk h];rfl
   rw[hh] at hx uP
   refine W3 ?_
   refine dS rfl (dG.args (lu [yY,x.bJ] (by simp) n (n+1) _ _) (.cons (lq n _) .nil)) ?_
   have JZ:(lx (aU [yY,x.bJ]) (n+1)).length=2:=by rw[eX];rfl
   have J2:=jc (l:=aU [yY,x.bJ]) (n:=n+1)
   refine W1 ?_
   refine W3 ?_
   refine dS rfl (iU 0 5 _ _) ?_
   refine W1 ?_
   rw[hx,hTe,uP,dL,cO,jy]
  have k11:=h
  refine S0 (fun hb h=>?_) fun hb h=>?_
  ·have hx:=jJ k1 k2 k3 (by omega)
   have hh:jC x.aV x.bJ x.fName x.fType=[bO Ey,cK x.fType]:=by rw[jk h];rfl
   rw[hh] at hx uP
   have hty:=hfi.2.2.2.2.1
   rw[if_pos h] at hty
   refine C1 (bZ _ (n+1)) ?_
   refine C1 (jD x.fType (n+1+1) (uq hty) (by omega)) ?_
   refine W3 ?_
   refine dS rfl (iU 0 4 _ _) ?_
   refine W1 ?_
   rw[hx,hTe,uP,dL,cO,jy]
   simp only[iD,kE,iC,jl,jm,iP,SF,VA,Ey,List.cons_append,List.nil_append]
  ·have:=hfi.1
   omega
theorem uH(x:au)(n:Nat)(hok:gW x=true)(hsz:x.sz≤4194304):aD Tryz.prog 116 [x.v] (.agg [.d (.s (eH x).bS),.d (.ol n (lx (eH x).aY (n+1)))]):=GQ _ x (Nat.lt_succ_self _) n hok hsz
end Go.Proofs.YtcfhnaohbaplhaaGreatDoor
namespace Go.Proofs.YtcfhnaohbaplhaaGreatDoor
open Go Go.Ab
theorem nC(hd:List aj)(xs:List au)(S:Store)(hA:∀t∈xs,aD Tryz.prog 110 [t.v] (eH t).v)(hl:xs.length≤4194304)(hh:hd.length≤4):dG Tryz.prog 198 [.c (.bC (hd.map aj.enc)),.c (.d (.sl (xs.map au.enc)))] S
 (fun r S'=>r=.agg [.d (.s []),.d (.sl ((hd++xs.map eH).map aj.enc))]∧S'=S):=by
 obtain⟨T,hT⟩:∃T:Nat→List (List D),T=fun i=>(hd++(xs.map eH).take i).map aj.enc:=⟨_,rfl⟩
 have hT0:T 0=hd.map aj.enc:=by rw[hT];simp only[List.take_zero,List.append_nil]
 have fP:∀i,(T i).length≤i+hd.length:=fun i=>by
  rw[hT];simp only[List.length_map,List.length_append]
  have:=List.length_take_le i (xs.map eH)
  omega
 have hTs:∀i (hi:i<xs.length),T i++[[.s (eH xs[i]).bS,.sl ((eH xs[i]).aY.map aj.enc)]]=T (i+1):=fun i hi=>by
  have:=gT (base:=hd) (l:=xs.map eH) (i:=i) (by rw[List.length_map];exact hi)
  rw[List.getElem_map] at this
  rw[hT];exact this
 have hTe:T xs.length=(hd++xs.map eH).map aj.enc:=by rw[hT];simp only;rw[List.take_of_length_le (by simp)]
 clear hT
 rw[←hT0]
 rw[←hTe]
 refine aB (rs:=[.cell 4 78]) Tryz.checked.mixed Tryz.func198 Tryz.ntmps198 rfl rfl rfl rfl rfl ?_
 refine W1 ?_
 refine nX 1 1 2 (T 0) [.d (.s []),.bC (T 0)] rfl rfl (by rw[hT0];exact ji) ?_
 refine aR (ι:=Nat) Tryz.checked.mixed rfl [1,4,5,6] (fun i=>[.c (.d (.sl (xs.map au.enc))),.c (.ptr (0,0) 0),.c (.ptr (0,1) 0),.c (.d (.i .i64 i))])
  (fun i=>[.box [.d (.s []),.bC []],.box [.d (.s []),.bI (0,2) (T i)],.tok 2 (T i)]::S)
  (fun i=>i≤xs.length) (fun i=>xs.length-i) 0 rfl rfl (Nat.zero_le _) ?_
 intro i hi
 have hl:=fP i
 refine W1 ?_
 refine S0 (fun hb h=>?_) fun hb h=>?_
 ·have hi':i<xs.length:=by omega
  have hs:=hTs i hi'
  refine W3 ?_
  refine C1 (hA xs[i] (List.getElem_mem hi')) ?_
  refine W3 ?_
  rw[hs]
  exact bF (i+1) (by omega) rfl rfl (by omega)
 ·have hi':i=xs.length:=by omega
  subst hi'
  rfl
theorem NC(hd:List aj)(xs:List au)(bM:List Ab.Obj)(Ω:Store)(hA:∀t∈xs,aD Tryz.prog 110 [t.v] (eH t).v)(hl:xs.length≤4194304)(hh:hd.length≤4):dG Tryz.prog 198 [.c (.bC (hd.map aj.enc)),.c (.d (.sl (xs.map au.enc)))] (bM::Ω)
 (fun r S'=>r=.agg [.d (.s []),.bI (0,bM.length+2) ((hd++xs.map eH).map aj.enc)]∧S'=(bM++[.box [.d (.s []),.bI (0,bM.length+2) ((hd++xs.map eH).map aj.enc)],.box [.d (.s []),.bI (0,bM.length+2) ((hd++xs.map eH).map aj.enc)],.tok 2 ((hd++xs.map eH).map aj.enc)])::Ω):=by
 obtain⟨T,hT⟩:∃T:Nat→List (List D),T=fun i=>(hd++(xs.map eH).take i).map aj.enc:=⟨_,rfl⟩
 have hT0:T 0=hd.map aj.enc:=by rw[hT];simp only[List.take_zero,List.append_nil]
 have fP:∀i,(T i).length≤i+hd.length:=fun i=>by
  rw[hT];simp only[List.length_map,List.length_append]
  have:=List.length_take_le i (xs.map eH)
  omega
 have hTs:∀i (hi:i<xs.length),T i++[[.s (eH xs[i]).bS,.sl ((eH xs[i]).aY.map aj.enc)]]=T (i+1):=fun i hi=>by
  have:=gT (base:=hd) (l:=xs.map eH) (i:=i) (by rw[List.length_map];exact hi)
  rw[List.getElem_map] at this
  rw[hT];exact this
 have hTe:T xs.length=(hd++xs.map eH).map aj.enc:=by rw[hT];simp only;rw[List.take_of_length_le (by simp)]
 clear hT
 rw[←hT0]
 rw[←hTe]
 refine JM (rs:=[.cell 4 78]) Tryz.checked.mixed Tryz.func198 Tryz.ntmps198 rfl rfl rfl rfl rfl ?_
 refine W1 ?_
 refine nX 1 1 2 (T 0) [.d (.s []),.bC (T 0)] rfl rfl (by rw[hT0];exact ji) ?_
 refine aR (ι:=Nat) Tryz.checked.mixed rfl [1,4,5,6] (fun i=>[.c (.d (.sl (xs.map au.enc))),.c (.ptr (0,0) 0),.c (.ptr (0,1) 0),.c (.d (.i .i64 i))])
  (fun i=>[.box [.d (.s []),.bC []],.box [.d (.s []),.bI (0,2) (T i)],.tok 2 (T i)]::bM::Ω)
  (fun i=>i≤xs.length) (fun i=>xs.length-i) 0 rfl rfl (Nat.zero_le _) ?_
 intro i hi
 have hl:=fP i
 refine W1 ?_
 refine S0 (fun hb h=>?_) fun hb h=>?_
 ·have hi':i<xs.length:=by omega
  have hs:=hTs i hi'
  refine W3 ?_
  refine C1 (hA xs[i] (List.getElem_mem hi')) ?_
  refine W3 ?_
  rw[hs]
  exact bF (i+1) (by omega) rfl rfl (by omega)
 ·have hi':i=xs.length:=by omega
  subst hi'
  exact⟨rfl,rfl⟩
theorem GR:∀N:Nat,∀x:au,SizeOf.sizeOf x<N→gW x=true→x.sz≤4194304→aD Tryz.prog 110 [x.v] (eH x).v
 |0=>fun x h=>by omega
 |N+1=>by
  have ih:=GR N
  intro x hn hok hsz S
  have iX:=au.fE x
  have rZ:=au.nD x
  have hzz:=ED x
  rw[sW,Bool.and_eq_true,Bool.and_eq_true] at hok
  obtain⟨hfi,hoa,NA⟩:=hok
  have hfi:=iO hfi
  have hoa:=zl.1 hoa
  have NA:=AX.1 NA
  have hA:∀t∈x.fArgs,aD Tryz.prog 110 [t.v] (eH t).v:=fun t ht=>ih t (by have:=List.sizeOf_lt_of_mem ht;omega) (hoa t ht) (by have:=JY ht;omega)
  have hxe:=Cr x
  refine aB (rs:=[.cell 2 78]) Tryz.checked.mixed Tryz.func110 Tryz.ntmps110 rfl rfl rfl rfl rfl ?_
  refine W1 ?_
  refine S0 (fun hb h=>?_) fun hb h=>?_
  ·rw[if_pos h] at hxe
   rw[hxe]
   have hb:=hfi.2.2.2.1
   rw[if_pos h] at hb
   refine C1 (EK x.fN (by omega) (by omega)) ?_
   refine C1 (bK _) ?_
   rfl
  have k1:=h
  rw[if_neg h] at hxe
  refine S0 (fun hb h=>?_) fun hb h=>?_
  ·rw[if_pos h] at hxe
   rw[hxe]
   have hb:=hfi.2.2.2.1
   rw[if_neg k1,if_pos h] at hb
   rcases hb with e|e
   ·rw[e]
    simp -implicitDefEqProofs (disch:=omega) only[go_sem,List.getD_cons_zero]
    refine W3 ?_
    refine C1 (bK _) ?_
    rfl
   ·rw[e]
    simp -implicitDefEqProofs (disch:=omega) only[go_sem,List.getD_cons_zero,List.getD_cons_succ]
    refine W3 ?_
    refine C1 (bK _) ?_
    rfl
  have k2:=h
  rw[if_neg h] at hxe
  refine S0 (fun hb h=>?_) fun hb h=>?_
  ·rw[if_pos h] at hxe
   rw[hxe]
   refine C1 (bK _) ?_
   rfl
  have k3:=h
  clear hxe
  refine S0 (fun hb h=>?_) fun hb h=>?_
  ·have hx:=jJ k1 k2 k3 (by omega)
   have hh:jC x.aV x.bJ x.fName x.fType=[bO yX,bO x.fName]:=by rw[jk h];rfl
   rw[hh] at hx
   refine C1 (bK _) ?_
   refine C1 (bK _) ?_
   have hE:=fun S=>nC [bO yX,bO x.fName] x.fArgs S hA (by omega) (by simp)
   simp only[List.map_cons,List.map_nil,dY] at hE
   refine dS rfl (hE _) ?_
   refine W1 ?_
   rw[hx]
   rfl
  have k4:=h
  refine S0 (fun hb h=>?_) fun hb h=>?_
  ·have hx:=jJ k1 k2 k3 (by omega)
   have hh:jC x.aV x.bJ x.fName x.fType=[bO sZ,bO x.bJ,bO x.fName]:=by rw[jk h];rfl
   rw[hh] at hx
   refine C1 (bK _) ?_
   refine C1 (bK _) ?_
   refine C1 (bK _) ?_
   have hE:=fun S=>nC [bO sZ,bO x.bJ,bO x.fName] x.fArgs S hA (by omega) (by simp)
   simp only[List.map_cons,List.map_nil,dY] at hE
   refine dS rfl (hE _) ?_
   refine W1 ?_
   rw[hx]
   rfl
  have k5:=h
  refine S0 (fun hb h=>?_) fun hb h=>?_
  ·have hx:=jJ k1 k2 k3 (by omega)
   have hh:jC x.aV x.bJ x.fName x.fType=[bO Co,bO x.fName]:=by rw[jk h];rfl
   rw[hh] at hx
   refine C1 (bK _) ?_
   refine C1 (bK _) ?_
   have hE:=fun S=>nC [bO Co,bO x.fName] x.fArgs S hA (by omega) (by simp)
   simp only[List.map_cons,List.map_nil,dY] at hE
   refine dS rfl (hE _) ?_
   refine W1 ?_
   rw[hx]
   rfl
  have k6:=h
  refine S0 (fun hb h=>?_) fun hb h=>?_
  ·have hx:=jJ k1 k2 k3 (by omega)
   have hh:jC x.aV x.bJ x.fName x.fType=[bO Cq,bO x.fName]:=by rw[jk h];rfl
   rw[hh] at hx
   refine C1 (bK _) ?_
   refine C1 (bK _) ?_
   have hE:=fun S=>nC [bO Cq,bO x.fName] x.fArgs S hA (by omega) (by simp)
   simp only[List.map_cons,List.map_nil,dY] at hE
   refine dS rfl (hE _) ?_
   refine W1 ?_
   rw[hx]
   rfl
  have k8:=h
  refine S0 (fun hb h=>?_) fun hb h=>?_
  ·have hx:=jJ k1 k2 k3 (by omega)
   have hh:jC x.aV x.bJ x.fName x.fType=[bO JV]:=by rw[jk h];rfl
   rw[hh] at hx
   refine C1 (bK _) ?_
   have hE:=fun S=>nC [bO JV] x.fArgs S hA (by omega) (by simp)
   simp only[List.map_cons,List.map_nil,dY] at hE
   refine dS rfl (hE _) ?_
   refine W1 ?_
   rw[hx]
   rfl
  have k9:=h
  refine S0 (fun hb h=>?_) fun hb h=>?_
  ·have hx:=jJ k1 k2 k3 (by omega)
   have hh:jC x.aV x.bJ x.fName x.fType=[bO x.fName]:=by rw[jk h];rfl
   rw[hh] at hx
   refine C1 (bK _) ?_
   have hE:=fun S=>nC [bO x.fName] x.fArgs S hA (by omega) (by simp)
   simp only[List.map_cons,List.map_nil,dY] at hE
   refine dS rfl (hE _) ?_
   refine W1 ?_
   rw[hx]
   rfl
  have k10:=h
  refine S0 (fun hb h=>?_) fun hb h=>?_
  ·have hx:=jJ k1 k2 k3 (by omega)
   have hh:jC x.aV x.bJ x.fName x.fType=[bO yY,bO x.bJ]:=by rw[jk h];rfl
   rw[hh] at hx
   refine C1 (bK _) ?_
   refine C1 (bK _) ?_
   have hE:=fun S=>nC [bO yY,bO x.bJ] x.fArgs S hA (by omega) (by simp)
   simp only[List.map_cons,List.map_nil,dY] at hE
   refine dS rfl (hE _) ?_
   refine W1 ?_
   rw[hx]
   rfl
  have k11:=h
  refine S0 (fun hb h=>?_) fun hb h=>?_
  ·have hx:=jJ k1 k2 k3 (by omega)
   have hh:jC x.aV x.bJ x.fName x.fType=[bO Ey,cK x.fType]:=by rw[jk h];rfl
   rw[hh] at hx
   refine C1 (bK _) ?_
   refine C1 (jO x.fType (by omega)) ?_
   have hE:=fun S=>nC [bO Ey,cK x.fType] x.fArgs S hA (by omega) (by simp)
   simp only[List.map_cons,List.map_nil,dY,aj.aH (cK x.fType)] at hE
   refine dS rfl (hE _) ?_
   refine W1 ?_
   rw[hx]
   show _=V.agg [.d (.s []),.d (.sl (List.map aj.enc (bO Ey::cK x.fType::x.fArgs.map eH)))]
   simp only[List.cons_append,List.nil_append,List.map_cons,dY,aj.aH (cK x.fType)]
   rfl
  have k12:=h
  have hk7:x.aV=7:=by have:=hfi.1;omega
  have hx:=Cr x
  rw[if_neg k1,if_neg k2,if_neg k3,if_neg (by omega)] at hx
  have hh:jC x.aV x.bJ x.fName x.fType=[bO pW]:=by rw[jk hk7];rfl
  rw[hh] at hx
  refine C1 (bK _) ?_
  have hE:=fun bM Ω=>NC [bO pW] x.fArgs bM Ω hA (by omega) (by simp)
  obtain⟨B,hB⟩:∃B:Nat→List (List D),B=fun i=>(([bO pW]++x.fArgs.map eH)++(x.aW.map wM).take i).map aj.enc:=⟨_,rfl⟩
  have hB0:([bO pW]++x.fArgs.map eH).map aj.enc=B 0:=by rw[hB];simp only[List.take_zero,List.append_nil]
  have hBl:∀i,(B i).length≤i+x.fArgs.length+1:=fun i=>by
   rw[hB];simp only[List.length_append,List.length_map,List.length_cons,List.length_nil]
   have:=List.length_take_le i (x.aW.map wM)
   omega
  have hBr:∀i,∀r∈B i,r.length=2:=fun i=>by rw[hB];exact ji
  have hBs:∀i (hi:i<x.aW.length),B i++[[.s [],.sl (([bO x.aW[i].dx]++aU x.aW[i].aF++[eH x.aW[i].fBody]).map aj.enc)]]=B (i+1):=fun i hi=>by
   have:=gT (base:=[bO pW]++x.fArgs.map eH) (l:=x.aW.map wM) (i:=i) (by rw[List.length_map];exact hi)
   rw[List.getElem_map,Vt,dL,cO] at this
   rw[hB];exact this
  have hBe:B x.aW.length=([bO pW]++x.fArgs.map eH++x.aW.map wM).map aj.enc:=by rw[hB];simp only;rw[List.take_of_length_le (by simp)]
  clear hB
  simp only[hB0] at hE
  simp only[List.map_cons,List.map_nil,dY] at hE
  refine dS rfl (hE _ _) ?_
  refine W1 ?_
  refine aR (ι:=Nat) Tryz.checked.mixed rfl [1,2,3,4] (fun i=>[.c (.ptr (0,0) 0),.c (.ptr (0,1) 0),.c (.ptr (0,5) 0),.c (.d (.i .i64 i))])
   (fun i=>[.box [.d (.i .i64 x.aV),.d (.s x.bJ),.d (.s x.fName),.d (.i .i64 x.fN),.d (.i .i64 x.fType.aV),.d (.s x.fType.fName),.d (.sl (x.fType.fArgs.map ah.enc)),.d (.sl (x.fArgs.map au.enc)),.d (.sl (x.aW.map aX.enc))],.box [.d (.s []),.bC []],.box [.d (.s []),.bI (0,4) (B 0)],.box [.d (.s []),.bI (0,4) (B 0)],.tok 2 (B i),.box [.d (.s []),.bI (0,4) (B i)]]::S)
   (fun i=>i≤x.aW.length) (fun i=>x.aW.length-i) 0 rfl rfl (Nat.zero_le _) ?_
  intro i hi
  have hl:=hBl i
  have hr:=hBr i
  refine W1 ?_
  refine S0 (fun hb h=>?_) fun hb h=>?_
  ·have hi':i<x.aW.length:=by omega
   have hm:=List.getElem_mem hi'
   have YV:=GN hm
   have hea:=Ct x.aW[i]
   have hs:=hBs i hi'
   have hak:=NA _ hm
   rw[oC,Bool.and_eq_true,Bool.and_eq_true] at hak
   have hls:=List.sizeOf_lt_of_mem hm
   have hlb:=aX.mI x.aW[i]
   refine W3 ?_
   refine C1 (bK _) ?_
   refine W3 ?_
   refine bN (Cv x.aW[i].aF (by omega)) ?_
   have hwr:=ji (l:=aU x.aW[i].aF)
   have hwl:(aU x.aW[i].aF).length=x.aW[i].aF.length:=by rw[iH]
   refine W1 ?_
   refine W3 ?_
   refine C1 (ih x.aW[i].fBody (by omega) hak.2.2 (by omega)) ?_
   refine W3 ?_
   simp only[List.cons_append,List.nil_append,List.map_cons,List.map_nil,List.map_append,dY,aj.aH (eH x.aW[i].fBody)] at hs
   rw[hs]
   exact bX 6 (by decide) (i+1) (by omega) rfl rfl rfl rfl (by omega)
  ·have hi':i=x.aW.length:=by omega
   subst hi'
   rw[hx,hBe]
   rfl
theorem o9(x:au)(hok:gW x=true)(hsz:x.sz≤4194304):aD Tryz.prog 110 [x.v] (eH x).v:=GR _ x (Nat.lt_succ_self _) hok hsz
end Go.Proofs.YtcfhnaohbaplhaaGreatDoor
namespace Go.Ab
theorem au.bounds{x:au}(h:x.sz≤4194304):x.bJ.length≤4194304∧x.fName.length≤4194304∧x.fArgs.length≤4194304∧x.aW.length≤4194304∧x.fType.sz≤4194304:=by
 simp only[au.sz,au.aH,bH,bf,D.sz,List.length_map,ah.cZ] at h
 omega
theorem au.arg_b{x:au}{i:Nat}(hi:i<x.fArgs.length)(h:x.sz≤4194304):x.fArgs[i].sz≤4194304:=by
 have hx:x.fArgs[i].sz≤aI (x.fArgs.map au.enc):=bD (List.mem_map_of_mem (List.getElem_mem hi))
 simp only[au.sz,au.aH,bH,bf,D.sz,List.length_map] at h
 omega
theorem au.Lb{x:au}{i:Nat}(hi:i<x.aW.length)(h:x.sz≤4194304):x.aW[i].sz≤4194304:=by
 have hx:x.aW[i].sz≤aI (x.aW.map aX.enc):=bD (List.mem_map_of_mem (List.getElem_mem hi))
 simp only[au.sz,au.aH,bH,bf,D.sz,List.length_map] at h
 omega
theorem aX.bounds{x:aX}(h:x.sz≤4194304):x.dx.length≤4194304∧x.aF.length≤4194304∧(∀s∈x.aF,s.length≤4194304)∧x.fBody.sz≤4194304:=by
 have hb:=aX.Ir x
 simp only[aX.sz,aX.aH,bH,bf,D.sz,List.length_map] at h hb
 refine⟨by omega,by omega,fun s hs=> ?_,by omega⟩
 have:=nZ hs
 omega
theorem GU(k:Int):(k<1∨12<k)∨k=1∨k=2∨k=3∨k=4∨k=5∨k=6∨k=7∨k=8∨k=9∨k=10∨k=11∨k=12:=by omega
end Go.Ab
namespace Go.Proofs.YtcfhnaohbaplhaaGreatDoor
open Go Go.Ab
set_option maxHeartbeats 8000000 in
theorem ND(x:au)(hsz:x.sz≤4194304)(hc:x.fArgs.length≤300):aD Tryz.prog 285 [x.v] (.c (.d (.b (dec (qA x))))):=fun S=>by
 have hb0:=au.bounds hsz
 have hz:uy x.fType→lg x.fType=false:=Gu
 rcases GU x.aV with hk|hk|hk|hk|hk|hk|hk|hk|hk|hk|hk|hk|hk
 ·have h1:¬qA x:=fun h=>by have:=h.1;omega
  refine aB (rs:=[.tmp 2]) Tryz.checked.mixed Tryz.func285 Tryz.ntmps285 rfl rfl rfl rfl rfl ?_
  refine W1 ?_
  refine C2 (D5 x.aV) ?_
  refine S0 (fun hb h=>?_) fun hb h=>?_
  ·exact ay (aC h1).symm
  refine S0 (fun hb h=>?_) fun hb h=>?_
  ·exact ay (aC h1).symm
  ·omega
 all_goals
  refine aB (rs:=[.tmp 2]) Tryz.checked.mixed Tryz.func285 Tryz.ntmps285 rfl rfl rfl rfl rfl ?_
  simp -implicitDefEqProofs (disch:=omega) only[go_sem,hk]
  refine bN (D5 _) ?_
  simp -implicitDefEqProofs (disch:=omega) only[go_sem,hk,Sg,Si]
  repeat' (first
   |with_reducible refine eY (fun hb=> ?_) (fun hb=> ?_)<;>have h:=hb<;>(try simp only[wf_preprocess] at h)<;>simp -implicitDefEqProofs (disch:=omega) only[go_sem,hb,hk]<;>refine W3 ?_
   |((with_reducible show dX _ _ 168 _ _ _ _);refine bN (fT x.fName (by omega)) ?_;simp -implicitDefEqProofs (disch:=omega) only[go_sem,hk])
   |((with_reducible show dX _ _ 168 _ _ _ _);refine bN (fT x.bJ (by omega)) ?_;simp -implicitDefEqProofs (disch:=omega) only[go_sem,hk])
   |((with_reducible show dX _ _ 345 _ _ _ _);refine bN (KA x.fName) ?_;simp -implicitDefEqProofs (disch:=omega) only[go_sem,hk])
   |((with_reducible show dX _ _ 266 _ _ _ _);refine bN (Bo x.fType) ?_;simp -implicitDefEqProofs (disch:=omega) only[go_sem,hk])
   |((with_reducible show dX _ _ 329 _ _ _ _);refine bN (sG x.fType (by omega)) ?_;simp -implicitDefEqProofs (disch:=omega) only[go_sem,hk])
   |(refine ay (Bool.eq_iff_iff.2 ?_);simp only[vJ,qA,hk];grind [iO,iK,bq,aC]))
end Go.Proofs.YtcfhnaohbaplhaaGreatDoor
namespace Go.Ab
theorem au.aao{x:au}{y:au}(h:y∈x.fArgs):y.cnt+1≤x.cnt:=by
 rw[au.mW x]
 have:∀xs:List au,y∈xs→y.cnt≤au.dR xs:=by
  intro xs
  induction xs with
  |nil=>intro h;cases h
  |cons z zs ih=>
   intro h
   rw[au.dR]
   rcases List.mem_cons.1 h with e|e
   ·subst e;omega
   ·have:=ih e;omega
 have:=this _ h
 omega
theorem au.aap{x:au}{y:aX}(h:y∈x.aW):y.fBody.cnt+1≤x.cnt:=by
 rw[au.mW x]
 have:∀xs:List aX,y∈xs→y.fBody.cnt≤aX.dR xs:=by
  intro xs
  induction xs with
  |nil=>intro h;cases h
  |cons z zs ih=>
   intro h
   rw[aX.dR]
   rcases List.mem_cons.1 h with e|e
   ·subst e;rw[aX.mW];omega
   ·have:=ih e;omega
 have:=this _ h
 omega
theorem au.aaq(x:au):x.fArgs.length+1≤x.cnt:=by
 rw[au.mW x]
 have:∀xs:List au,xs.length≤au.dR xs:=by
  intro xs
  induction xs with
  |nil=>simp
  |cons z zs ih=>rw[au.dR,List.length_cons];have:=au.mW z;omega
 have:=this x.fArgs
 omega
def SV(k:Int):Bool:=if k=5∨k=11 then true else false
def SX(k:Int):Bool:=if k=3∨k=4∨k=6∨k=5∨k=8∨k=10 then true else false
def SY(k:Int):Bool:=if k=1∨k=2 then true else false
def S9(k:Int):Bool:=if k=1∨k=2∨k=3∨k=4∨k=6∨k=5∨k=7∨k=8∨k=10∨k=9∨k=11 then false else true
def Ta(k:Int):Int:=if k=1∨k=2∨k=3 then 0 else if k=4∨k=6∨k=5 then -1 else if k=8∨k=10 then 2 else if k=9 then 3 else 1
def Tc(k:Int):Bool:=if k=7 then true else false
end Go.Ab
namespace Go.Proofs.YtcfhnaohbaplhaaGreatDoor
open Go Go.Ab
theorem GV:∀n:Nat,∀x:au,SizeOf.sizeOf x<n→x.sz≤4194304→x.cnt≤300→aD Tryz.prog 202 [x.v] (.c (.d (.b (gW x))))
 |0=>fun x h=>by omega
 |n+1=>by
  have ih:=GV n
  intro x hn hsz hc S
  have hb0:=au.bounds hsz
  have iX:=au.fE x
  have rZ:=au.nD x
  have hl:=au.aaq x
  have h1:∀y∈x.fArgs,aD Tryz.prog 287 [y.v] (.c (.d (.b (!gW y)))):=fun y hy S=>by
   have hys:=List.sizeOf_lt_of_mem hy
   have hyc:=au.aao hy
   have hyz:y.sz≤4194304:=by obtain⟨i,hi,e⟩:=List.getElem_of_mem hy;rw[←e];exact au.arg_b hi hsz
   refine aB (rs:=[.tmp 2]) Tryz.checked.mixed Tryz.func287 Tryz.ntmps287 rfl rfl rfl rfl rfl ?_
   refine W1 ?_
   exact C4 (ih y (by omega) hyz (by omega))
  have h2:∀y∈x.aW,aD Tryz.prog 289 [y.v] (.c (.d (.b (!uz y)))):=fun y hy S=>by
   have hys:=List.sizeOf_lt_of_mem hy
   have hyb:=aX.mI y
   have hyc:=au.aap hy
   have hyz:y.sz≤4194304:=by obtain⟨i,hi,e⟩:=List.getElem_of_mem hy;rw[←e];exact au.Lb hi hsz
   have hyy:=aX.bounds hyz
   refine aB (rs:=[.tmp 2]) Tryz.checked.mixed Tryz.func289 Tryz.ntmps289 rfl rfl rfl rfl rfl ?_
   refine W1 ?_
   refine C2 (fT y.dx (by omega)) ?_
   refine S0 (fun hb h=>?_) fun hb h=>?_
   ·exact ay (by rw[oC,h];rfl)
   have k1:=h
   refine C2 (lX y.aF (by omega) hyy.2.2.1) ?_
   refine S0 (fun hb h=>?_) fun hb h=>?_
   ·exact ay (by rw[oC,h];simp)
   have k2:=h
   refine C2 (ih y.fBody (by omega) hyy.2.2.2 (by omega)) ?_
   exact ay (by rw[oC,k1,k2];simp)
  refine aB (rs:=[.tmp 2]) Tryz.checked.mixed Tryz.func202 Tryz.ntmps202 rfl rfl rfl rfl rfl ?_
  refine W1 ?_
  refine C2 (ND x hsz (by omega)) ?_
  refine S0 (fun hb h=>?_) fun hb h=>?_
  ·exact ay (by rw[sW,aC h];rfl)
  have k1:=h
  refine W3 ?_
  refine dS rfl (Bu 287 [] _ x.fArgs (fun y=> !gW y) (by omega) fun y hy=>lV.Ik (h1 y hy)) ?_
  refine W1 ?_
  rw[DZ]
  refine S0 (fun hb h=>?_) fun hb h=>?_
  ·exact ay (by rw[sW,h];simp)
  have k2:=h
  refine W3 ?_
  refine dS rfl (BU 289 [] _ x.aW (fun y=> !uz y) (by omega) fun y hy=>lV.Ik (h2 y hy)) ?_
  refine W1 ?_
  rw[Gt]
  exact ay (by rw[sW,bq k1,k2];simp)
theorem EL(x:au)(hsz:x.sz≤4194304):aD Tryz.prog 114 [x.v] (.c (.d (.b (om x)))):=fun S=>by
 refine aB (rs:=[.tmp 2]) Tryz.checked.mixed Tryz.func114 Tryz.ntmps114 rfl rfl rfl rfl rfl ?_
 refine W1 ?_
 refine C2 (Gs x hsz) ?_
 refine S0 (fun hb h=>?_) fun hb h=>?_
 ·refine C2 (GV _ x (Nat.lt_succ_self _) hsz (by omega)) ?_
  exact ay (by unfold om;rw[bq (by omega)];rfl)
 ·exact ay (by unfold om;rw[aC (by omega)];rfl)
theorem J3(k:Int):aD Tryz.prog 281 [.c (.d (.i .i64 k))] (.iE [(false,[.d (.b (SV k))]),(false,[.d (.b (SX k))]),(false,[.d (.b (SY k))]),(false,[.d (.b (S9 k))]),(false,[.d (.i .i64 (Ta k))]),(false,[.d (.b (Tc k))])]):=fun S=>by
 refine aB (rs:=[.tmp 2,.tmp 3,.tmp 4,.tmp 5,.tmp 6,.tmp 7]) Tryz.checked.mixed Tryz.func281 Tryz.ntmps281 rfl rfl rfl rfl rfl ?_
 refine W1 ?_
 repeat' (first
  |refine S0 (fun hb h=>?_) fun hb h=>?_
  |(unfold SV SX SY S9 Ta Tc;grind))
theorem GX(t:ah):aD Tryz.prog 284 [t.v] (.c (.d (.b (dec (uy t))))):=fun S=>by
 refine aB (rs:=[.tmp 2]) Tryz.checked.mixed Tryz.func284 Tryz.ntmps284 rfl rfl rfl rfl rfl ?_
 refine W1 ?_
 repeat' (first
  |refine S0 (fun hb h=>?_) fun hb h=>?_
  |(refine ay ?_;unfold uy;grind [bq,aC,iO,iK]))
theorem Td(s:List UInt8):aD Tryz.prog 282 [.c (.d (.s s))] (.c (.d (.b (dec (s∈ops))))):=fun S=>by
 refine aB (rs:=[.tmp 2]) Tryz.checked.mixed Tryz.func282 Tryz.ntmps282 rfl rfl rfl rfl rfl ?_
 refine W1 ?_
 refine W3 ?_
 exact C4 (pQ ops s (by decide))
theorem D9:∀n:Nat,∀x:au,SizeOf.sizeOf x<n→x.sz≤4194304→∀l:Int,0≤l→l≤1048576→aD Tryz.prog 195 [x.v,.c (.d (.i .i64 l))] (.c (.d (.i .i64 (mF l x.cnt))))
 |0=>fun x h=>by omega
 |n+1=>by
  have ih:=D9 n
  intro x hn hsz l hl hl2 S
  have hb0:=au.bounds hsz
  have iX:=au.fE x
  have rZ:=au.nD x
  have he:=au.mW x
  refine aB (rs:=[.tmp 4]) Tryz.checked.mixed Tryz.func195 Tryz.ntmps195 rfl rfl rfl rfl rfl ?_
  refine W1 ?_
  refine aR (ι:=Nat×Int) Tryz.checked.mixed rfl [1,2,5] (fun y=>[.c (.d (.i .i64 y.2)),.c (.ptr (0,0) 0),.c (.d (.i .i64 y.1))]) (fun y=>[.box (x.enc.map .d)]::S)
   (fun y=>y.1≤x.fArgs.length∧(-1≤y.2∧y.2≤1048576)∧mF y.2 (au.dR (x.fArgs.drop y.1))=mF (l-1) (au.dR x.fArgs)) (fun y=>x.fArgs.length-y.1) (0,l-1) rfl ?_ ⟨Nat.zero_le _,by simp only;omega,rfl⟩ ?_
  ·exact Z1
  rintro⟨i,c⟩ ⟨p1,p2,p3⟩
  simp only at p1 p2 p3
  have out:(i=x.fArgs.length∨c<0)→c=mF (l-1) (au.dR x.fArgs):=fun h=>by
   rcases h with h|h
   ·rw[h,List.drop_length,au.dR,Ci p2.1] at p3
    exact p3
   ·rw[←p3,Ev h];omega
  have second:(i=x.fArgs.length∨c<0)→mF c (aX.dR x.aW)=mF l x.cnt:=fun h=>by
   rw[out h,AO,he]
   unfold mF
   split<;>split<;>(try split)<;>omega
  refine W1 ?_
  refine S0 (fun hb h=>?_) fun hb h=>?_
  ·have hi:i<x.fArgs.length:=by omega
   refine S0 (fun hb h=>?_) fun hb h=>?_
   ·have hs:=List.sizeOf_lt_of_mem (List.getElem_mem hi)
    have hr:=Iu (l:=c) (c:=x.fArgs[i].cnt) (by omega)
    rw[au.kC hi,←AO] at p3
    refine W3 ?_
    refine C2 (ih x.fArgs[i] (by omega) (au.arg_b hi hsz) c (by omega) (by omega)) ?_
    exact bF (i+1,mF c x.fArgs[i].cnt) (by simp only;omega) rfl rfl ⟨by simp only;omega,by simp only;omega,p3⟩
   ·have p4:=second (.inr (by omega))
    clear second out p3
    refine aR (ι:=Nat×Int) Tryz.checked.mixed rfl [1,2,6] (fun y=>[.c (.d (.i .i64 y.2)),.c (.ptr (0,0) 0),.c (.d (.i .i64 y.1))]) (fun y=>[.box (x.enc.map .d)]::S)
     (fun y=>y.1≤x.aW.length∧(-1≤y.2∧y.2≤1048576)∧mF y.2 (aX.dR (x.aW.drop y.1))=mF l x.cnt) (fun y=>x.aW.length-y.1) (0,c) rfl ?_ ⟨Nat.zero_le _,by simp only;omega,p4⟩ ?_
    ·exact Z1
    clear p1 p2 p4
    rintro⟨i,d⟩ ⟨p1,p2,p3⟩
    simp only at p1 p2 p3
    refine W1 ?_
    refine S0 (fun hb h=>?_) fun hb h=>?_
    ·have hi:i<x.aW.length:=by omega
     refine S0 (fun hb h=>?_) fun hb h=>?_
     ·have hs:=List.sizeOf_lt_of_mem (List.getElem_mem hi)
      have hs':=aX.mI x.aW[i]
      have hr:=Iu (l:=d) (c:=x.aW[i].fBody.cnt) (by omega)
      rw[aX.kC hi,←AO] at p3
      refine W3 ?_
      refine C2 (ih x.aW[i].fBody (by omega) (aX.bounds (au.Lb hi hsz)).2.2.2 d (by omega) (by omega)) ?_
      exact bF (i+1,mF d x.aW[i].fBody.cnt) (by simp only;omega) rfl rfl ⟨by simp only;omega,by simp only;omega,p3⟩
     ·rw[Ev (by omega)] at p3
      exact int_eq (by omega)
    ·have hi:i=x.aW.length:=by omega
     rw[hi,List.drop_length,aX.dR,Ci p2.1] at p3
     exact int_eq (by omega)
  ·have p4:=second (.inl (by omega))
   clear second out p3
   refine aR (ι:=Nat×Int) Tryz.checked.mixed rfl [1,2,6] (fun y=>[.c (.d (.i .i64 y.2)),.c (.ptr (0,0) 0),.c (.d (.i .i64 y.1))]) (fun y=>[.box (x.enc.map .d)]::S)
    (fun y=>y.1≤x.aW.length∧(-1≤y.2∧y.2≤1048576)∧mF y.2 (aX.dR (x.aW.drop y.1))=mF l x.cnt) (fun y=>x.aW.length-y.1) (0,c) rfl ?_ ⟨Nat.zero_le _,by simp only;omega,p4⟩ ?_
   ·exact Z1
   clear p1 p2 p4
   rintro⟨i,d⟩ ⟨p1,p2,p3⟩
   simp only at p1 p2 p3
   refine W1 ?_
   refine S0 (fun hb h=>?_) fun hb h=>?_
   ·have hi:i<x.aW.length:=by omega
    refine S0 (fun hb h=>?_) fun hb h=>?_
    ·have hs:=List.sizeOf_lt_of_mem (List.getElem_mem hi)
     have hs':=aX.mI x.aW[i]
     have hr:=Iu (l:=d) (c:=x.aW[i].fBody.cnt) (by omega)
     rw[aX.kC hi,←AO] at p3
     refine W3 ?_
     refine C2 (ih x.aW[i].fBody (by omega) (aX.bounds (au.Lb hi hsz)).2.2.2 d (by omega) (by omega)) ?_
     exact bF (i+1,mF d x.aW[i].fBody.cnt) (by simp only;omega) rfl rfl ⟨by simp only;omega,by simp only;omega,p3⟩
    ·rw[Ev (by omega)] at p3
     exact int_eq (by omega)
   ·have hi:i=x.aW.length:=by omega
    rw[hi,List.drop_length,aX.dR,Ci p2.1] at p3
    exact int_eq (by omega)
end Go.Proofs.YtcfhnaohbaplhaaGreatDoor
