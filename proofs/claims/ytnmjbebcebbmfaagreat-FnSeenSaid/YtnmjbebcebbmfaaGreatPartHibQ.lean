/-
  SEVERAL TEXTS IN ONE (merged by program): contracts and models, each with its own heading.
-/
import Derived.Test.YtnmjbebcebbmfaaGreatPartHibM
import Derived.Test.YtnmjbebcebbmfaaGreatPartHibO
import Derived.Test.YtnmjbebcebbmfaaGreatPartHibP
open Go.Proofs Go.Proofs.Tryz
set_option linter.unusedSimpArgs false
set_option linter.unusedVariables false
set_option maxRecDepth 4000
set_option maxRecDepth 8000
namespace Go.Ab
theorem zR{w:aS}{i k:Int}:k∈nG w i<->xY w i k:=by
 unfold nG xY;split
 ·rename_i h;exact⟨fun x=>⟨h.1,h.2,x⟩,fun x=>x.2.2⟩
 ·rename_i h;exact⟨fun x=>absurd x (by simp),fun x=>absurd ⟨x.1,x.2.1⟩ h⟩
theorem Mr{w:aS}{i:Int}(h:w.aF.length<=4194304):(nG w i).length<=4194304:=by
 unfold nG;split
 ·rename_i hi;have:=zQ w i.toNat (i.toNat+1);unfold kV;omega
 ·simp
theorem Ms(w:aS)(i k:Int)(hsz:w.sz<=4194304)(hi: -9223372036854775808<=i/\i<=9223372036854775807):aT prog 11 [w.v,.c (.d (.i .i64 i)),.c (.d (.i .i64 k))] (.c (.d (.b (dec (xY w i k))))):=fun S=>by
 have hb0:=aS.bounds hsz;have hl:=Mr (w:=w) (i:=i) hb0;have hm:=dY (zR (w:=w) (i:=i) (k:=k));refine zcx [.tmp 6] func11 ntmps11 ?_;simp -implicitDefEqProofs (disch:=omega) only[go_sem];refine au (Dk w i hsz hi) ?_;simp -implicitDefEqProofs (disch:=omega) only[go_sem];refine au (Mq (nG w i) k (by omega)) ?_;simp -implicitDefEqProofs (disch:=omega) only[go_sem]<;>(repeat(with_reducible refine And.intro ?_ ?_;focus first|omega|rfl|assumption|exact⟨_,rfl,rfl⟩|(simp;omega)|(simp;done)));exact ay hm
theorem Yg{w:aS}{k i p:Int}(h:xY w k i)(h':xY w i p):xY w k p:=by
 obtain⟨h1,h2,h3⟩:=h;obtain⟨g1,g2,g3⟩:=h';obtain⟨m,rfl,hm⟩:=xG.1 h3;obtain⟨n,rfl,hn⟩:=xG.1 g3;rw[cN] at hn;exact⟨h1,h2,xG.2 ⟨n,rfl,hm.trans hn⟩⟩
theorem aak{w:aS}{i k:Int}(h:k∈nG w i):0<=k/\k<=i:=by
 obtain⟨h1,h2,h3⟩:=zR.1 h;obtain⟨m,rfl,hm⟩:=xG.1 h3;have:=hm.le;omega
theorem U2{w:aS}{i:Int}(h:nG w i≠[]):∃xs,nG w i=xs++[i]:=by
 unfold nG at h ⊢;split at h
 ·rename_i hi;rw[if_pos hi];refine⟨oO w i.toNat i.toNat,?_⟩;unfold kV;rw[uq (.refl _),Int.toNat_of_nonneg hi.1]
 ·exact absurd rfl h
end Go.Ab
namespace Go.Proofs.YtnmjbebcebbmfaaGreat.fnSeen
open Go Go.Ab
theorem U3(xs:List Int)(hl:xs.length<=1073741824):aT prog 7 [.c (.d (.sl (xs.map encI))),.c (.d (.sl (xs.map encI)))] (.c (.d (.b true))):=fun S=>by
 have d1:(decide ((xs.length:Int)=xs.length))=true:=decide_eq_true rfl;refine zcx [.tmp 4] func7 ntmps7 ?_;simp -implicitDefEqProofs (disch:=omega) only[go_sem,d1]
 refine bn (ι:=Nat) zmx rfl [0,1,5] (fun k=>[.c (.d (.sl (xs.map encI))),.c (.d (.sl (xs.map encI))),.c (.d (.i .i64 k))]) (fun _=>[]::S)
  (fun k=>k<=xs.length) (fun k=>xs.length-k) 0 rfl rfl (Nat.zero_le _) ?_
 intro k hk;simp -implicitDefEqProofs (disch:=omega) only[go_sem]
 with_reducible refine aj (fun hb=> ?_) (fun hb=> ?_)<;>have h:=hb<;>(try simp only[wf_preprocess] at h)<;>simp -implicitDefEqProofs (disch:=omega) only[go_sem,hb]<;>(repeat(with_reducible refine And.intro ?_ ?_;focus first|omega|rfl|assumption|exact⟨_,rfl,rfl⟩|(simp;omega)|(simp;done)))
 ·have hi:k<xs.length:=by omega
  exact bU (k+1) (by omega) rfl rfl (by omega)
theorem aal{bs:List Int}(hB:Bytes bs):aT prog 5 [.c (.d (.sl (bs.map xu)))]
 (.gq [(true,[.d (.sl ((w16 (vF bs)).1.map aA.enc))]),(false,[.d (.i .i64 ((aD 7 (w16 (vF bs)).2).1-1))])]):=fun S=>by
 have q1:=fun(l j:Nat) (S:Store) (hk:aN S (l,j)=some (.box (cur (vF bs))))=>NH hB (vF bs) l j S hk;obtain⟨w,hw⟩:∃w,w=(w16 (vF bs)).1:=⟨_,rfl⟩;obtain⟨c1,hc1⟩:∃c1,c1=(w16 (vF bs)).2:=⟨_,rfl⟩;rw[<-hw,<-hc1] at q1 ⊢;have hr:=eD (n:=7) c1 (by omega);have q2:=fun(l j:Nat) (S:Store) (hk:aN S (l,j)=some (.box (cur c1)))=>dB hB c1 l j S 7 hk (by omega) (by omega);obtain⟨k,hk⟩:∃k,k=(aD 7 c1).1:=⟨_,rfl⟩;rw[<-hk] at q2 ⊢;rw[<-hk] at hr;refine zcx [.cell 2 26,.tmp 3] func5 ntmps5 ?_;simp -implicitDefEqProofs (disch:=omega) only[go_sem];refine bq rfl (XI hB _ _) ?_;simp -implicitDefEqProofs (disch:=omega) only[go_sem];refine bq rfl (q1 0 1 _ rfl) ?_;simp -implicitDefEqProofs (disch:=omega) only[go_sem];refine bq rfl (q2 0 1 _ rfl) ?_;simp -implicitDefEqProofs (disch:=omega) only[go_sem]
 (repeat(with_reducible refine And.intro ?_ ?_;focus first|omega|rfl|assumption|exact⟨_,rfl,rfl⟩|(simp;omega)|(simp;done)))
 first|done|rfl
theorem law(x0:List Int)(b0:∀x∈x0,0<=x/\x<=255):bK prog 3 [.c (.d (.sl (x0.map xu)))] [] (fun r _=>r=.c (.d (.b true))):=by
 refine zcx [.tmp 2] func3 ntmps3 ?_;simp -implicitDefEqProofs (disch:=omega) only[go_sem];refine au (aby x0) ?_;simp -implicitDefEqProofs (disch:=omega) only[go_sem]
 with_reducible refine aj (fun hb=> ?_) (fun hb=> ?_)<;>have h:=hb<;>(try simp only[wf_preprocess] at h)<;>simp -implicitDefEqProofs (disch:=omega) only[go_sem,hb]<;>(repeat(with_reducible refine And.intro ?_ ?_;focus first|omega|rfl|assumption|exact⟨_,rfl,rfl⟩|(simp;omega)|(simp;done)))
 have hBs:Bytes x0:=⟨by omega,b0⟩;have p1:=aal hBs;have hws:=abE (vF x0);have hrs:=eD (n:=7) (w16 (vF x0)).2 (by omega);obtain⟨w,hw⟩:∃w:aS,w.aF=(w16 (vF x0)).1:=⟨⟨_⟩,rfl⟩;obtain⟨i,hi⟩:∃i,i=(aD 7 (w16 (vF x0)).2).1-1:=⟨_,rfl⟩;rw[<-hw,<-hi] at p1
 have hsz:w.sz<=1000000:=by
  have:=hws.2;rw[<-hw] at this;exact this
 have hil: -1<=i/\i<=5:=by omega
 clear hw hi hrs hws;have e1:=fun(j:Int) (h: -9223372036854775808<=j/\j<=9223372036854775807)=>Dk w j (by omega) h;have e2:=NP w i (by omega) (by omega);have e3:=Ej w (by omega);have e4:=El w (by omega);have e5:=fun(j:Int)=>Ms w i j (by omega) (by omega);have hvl:=fun j:Int=>Mr (w:=w) (i:=j) (aS.bounds (show w.sz<=4194304 by omega));have abP:∀j∈nG w i,xY w i j:=fun j h=>zR.1 h;have hle:∀j∈nG w i,0<=j/\j<=i:=fun j h=>aak h;obtain⟨L,hL⟩:∃L,L=nG w i:=⟨_,rfl⟩
 have hlast:L≠[]->∃xs,L=xs++[i]:=by rw[hL];exact U2
 have hLl:L.length<=4194304:=by rw[hL];exact hvl i
 have e1i:=e1 i (by omega);have e9:=U3 (nG w i) (by have:=hvl i;omega);rw[<-hL] at abP hle e1i e2 e9;clear hL;refine au p1 ?_;simp -implicitDefEqProofs (disch:=omega) only[go_sem];refine au e1i ?_;simp -implicitDefEqProofs (disch:=omega) only[go_sem];refine au e2 ?_;simp -implicitDefEqProofs (disch:=omega) only[go_sem];refine au e9 ?_;simp -implicitDefEqProofs (disch:=omega) only[go_sem];refine au e3 ?_;simp -implicitDefEqProofs (disch:=omega) only[go_sem];refine au e4 ?_;cases hdv:dec (BD w)
 all_goals
  simp -implicitDefEqProofs (disch:=omega) only[go_sem]
  refine bn (ι:=Nat) zmx rfl [3,4,5,6] (fun k=>[.c (.ptr (0,0) 0),.c (.d (.i .i64 i)),.c (.d (.sl (L.map encI))),.c (.d (.i .i64 k))]) (fun _=>[[.box [.d (.sl (w.aF.map aA.enc))]]])
   (fun k=>k<=L.length) (fun k=>L.length-k) 0 rfl rfl (Nat.zero_le _) ?_
  intro k hk;by_cases hkl:k<L.length
  ·have dl:decide ((k:Int)<(L.length:Int))=true:=decide_eq_true (by omega);have hm:L[k]∈L:=List.getElem_mem hkl;have hr:=hle _ hm;have hv:=abP _ hm;have dg:decide (i<L[k])=false:=decide_eq_false (by omega);have dg2:decide (L[k] >i)=false:=decide_eq_false (by omega);have e6:=e5 L[k];rw[bg hv] at e6;have e7:=e1 L[k] (by omega);obtain⟨L2,hL2⟩:∃L2,L2=nG w L[k]:=⟨_,rfl⟩
   have hl2:L2.length<=4194304:=by rw[hL2];exact hvl _
   have hv2:∀j∈L2,xY w i j:=fun j h=>Yg hv (zR.1 (hL2▸h));rw[<-hL2] at e7;clear hL2;simp -implicitDefEqProofs (disch:=omega) only[go_sem,dl,dg,dg2]
   (repeat(with_reducible refine And.intro ?_ ?_;focus first|omega|rfl|assumption|exact⟨_,rfl,rfl⟩|(simp;omega)|(simp;done)))
   refine au e6 ?_;simp -implicitDefEqProofs (disch:=omega) only[go_sem]
   (repeat(with_reducible refine And.intro ?_ ?_;focus first|omega|rfl|assumption|exact⟨_,rfl,rfl⟩|(simp;omega)|(simp;done)))
   refine au e7 ?_;simp -implicitDefEqProofs (disch:=omega) only[go_sem]
   refine bn (ι:=Nat) zmx rfl [3,4,5,6,7,8] (fun q=>[.c (.ptr (0,0) 0),.c (.d (.i .i64 i)),.c (.d (.sl (L.map encI))),.c (.d (.i .i64 k)),.c (.d (.sl (L2.map encI))),.c (.d (.i .i64 q))]) (fun _=>[[.box [.d (.sl (w.aF.map aA.enc))]]])
    (fun q=>q<=L2.length) (fun q=>L2.length-q) 0 rfl rfl (Nat.zero_le _) ?_
   intro q hq;by_cases hql:q<L2.length
   ·have dq:decide ((q:Int)<(L2.length:Int))=true:=decide_eq_true (by omega);have e8:=e5 L2[q];rw[bg (hv2 _ (List.getElem_mem hql))] at e8;simp -implicitDefEqProofs (disch:=omega) only[go_sem,dq]
    (repeat(with_reducible refine And.intro ?_ ?_;focus first|omega|rfl|assumption|exact⟨_,rfl,rfl⟩|(simp;omega)|(simp;done)))
    refine au e8 ?_;simp -implicitDefEqProofs (disch:=omega) only[go_sem];exact bU (q+1) (by omega) rfl rfl (by omega)
   ·have dq:decide ((q:Int)<(L2.length:Int))=false:=decide_eq_false (by omega);simp -implicitDefEqProofs (disch:=omega) only[go_sem,dq];exact bU (k+1) (by omega) rfl rfl (by omega)
  ·have dl:decide ((k:Int)<(L.length:Int))=false:=decide_eq_false (by omega);by_cases hne:L=[]
   ·subst hne
    obtain rfl:k=0:=by simpa using hk
    have dz:decide (((0:Nat):Int)<((0:Nat):Int))=false:=by decide
    have dy:decide (((0:Nat):Int)=0)=true:=by decide
    simp -implicitDefEqProofs (disch:=omega) only[go_sem,dz,dy]
    first|done|rfl
   ·obtain⟨xs,hxs⟩:=hlast hne
    have hll:L.length=xs.length+1:=by rw[hxs];simp
    have d0:decide ((L.length:Int)=0)=false:=decide_eq_false (by omega);simp -implicitDefEqProofs (disch:=omega) only[go_sem,dl,d0]
    (repeat(with_reducible refine And.intro ?_ ?_;focus first|omega|rfl|assumption|exact⟨_,rfl,rfl⟩|(simp;omega)|(simp;done)))
    have hq:((L.length:Int)-1).toNat=xs.length:=by omega
    have hg:L[((L.length:Int)-1).toNat]? =some i:=by rw[hq,hxs];simp
    rw[decide_eq_true ((List.getElem_eq_iff _).2 hg)]
end Go.Proofs.YtnmjbebcebbmfaaGreat.fnSeen
namespace Go.Ab
theorem U4{P:Program}{n:Nat}{t:TypeId}{ds:List D}(h:WT P n t ds):∃m,n=m+1:=by
 cases n with
 |zero=>exact h.elim
 |succ m=>exact⟨m,rfl⟩
theorem abQ{P:Program}{n:Nat}{t:TypeId}{k:IntKind}{ds:List D}(ht:P.underlying t=some (.int k))(h:WT P n t ds):∃x,ds=[.i k x]/\(Lit.int k x).wf=true:=by
 obtain⟨m,rfl⟩:=U4 h;simp only[WT,ht] at h;exact h
theorem Yh{P:Program}{n:Nat}{t e:TypeId}{ds:List D}(ht:P.underlying t=some (.slice e))(h:WT P n t ds):∃es m,m<n/\ds=[.sl es]/\∀x∈es,WT P m e x:=by
 obtain⟨m,rfl⟩:=U4 h;simp only[WT,ht] at h;obtain⟨es,h1,_,h2⟩:=h;exact⟨es,m,by omega,h1,fun x hx=>(h2 x hx).2⟩
theorem OO{P:Program}{W:TypeId->List D->Prop}(hW:∀t ds,W t ds->wT ds):∀(fs:List Field)(ds:List D),Yx P W fs ds->wT ds
 |[],ds,h=>by
  have h:ds=[]:=h;rw[h];exact wU
 |f::fs,ds,h=>by
  obtain⟨a,b,rfl,_,h1,h2⟩:=h;exact Nh.2 ⟨hW _ _ h1,OO hW fs b h2⟩
theorem Mt{P:Program}:∀(n:Nat)(t:TypeId)(ds:List D),WT P n t ds->wT ds
 |0,t,ds,h=>h.elim
 |n+1,t,ds,h=>by
  simp only[WT] at h;split at h
  ·obtain⟨b,rfl⟩:=h;exact xM.2 ⟨.b _,wU⟩
  ·obtain⟨b,rfl,_⟩:=h;exact xM.2 ⟨.i _ _,wU⟩
  ·obtain⟨l,rfl,hl⟩:=h;exact xM.2 ⟨.s _ hl,wU⟩
  ·obtain⟨es,rfl,hl,hh⟩:=h;exact xM.2 ⟨.sl _ hl fun e he d hd=>Mt n _ e (hh e he).2 d hd,wU⟩
  ·exact OO (Mt n) _ _ h
  ·exact h.elim
end Go.Ab