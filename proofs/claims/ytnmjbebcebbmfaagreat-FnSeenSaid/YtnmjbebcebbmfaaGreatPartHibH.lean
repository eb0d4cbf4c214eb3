/-
  SEVERAL TEXTS IN ONE (merged by program): contracts and models, each with its own heading.
-/
import Derived.Test.YtnmjbebcebbmfaaGreatPartHibF
open Go.Proofs Go.Proofs.Tryz
set_option linter.unusedSimpArgs false
set_option linter.unusedVariables false
set_option maxRecDepth 4000
namespace Go.Ab
noncomputable def iH(t:dx):List (List UInt8):=t.bE.map bA.fName
noncomputable def rE(t:dx):Prop:=t.zq=true/\(t.fP=true\/0<t.bE.length\/0<t.dN.length)
noncomputable def dW(t:dx):Bool:=
 validName t.fName&&(dec (t.dN.length<=4)&&(fU t.dN&&(dec (t.bE.length<=6)&&(!dec (rE t)&&(t.bE.all gL&&dec (iH t).Nodup)))))
theorem dx.sum(x:dx):x.fName.length+(x.dN.length+aH (x.dN.map encS))+(x.bE.length+aH (x.bE.map bA.enc))<=x.sz:=by
 simp only[dx.sz,dx.aB,aY,bG,D.sz,al];omega
theorem OB{xs:List bA}{t:bA}(h:t∈xs):t.sz<=aH (xs.map bA.enc):=dK (bd h)
theorem QY{g:bA}(h:gL g=true):validName g.fName=true:=by
 unfold gL at h;rw[aq] at h;exact h.1
theorem Nw{t:dx}(h:t.bE.all gL=true):(iH t).all validName=true:=by
 unfold iH;rw[List.all_map];refine ax.2 fun g hg=>QY (ax.1 h g hg)
theorem Cz(t:dx)(hsz:t.sz<=4194304):aT prog 34 [t.v] (.c (.d (.b (dW t)))):=fun S=>by
 have hs:=dx.sum t
 have hV:∀s∈t.dN,s.length<=4194304:=fun s h=>by have:=mG h;omega
 have hG:∀g∈t.bE,g.sz<=4194304:=fun g h=>by have:=OB h;omega
 refine(show Hold ((validName t.fName=true/\t.dN.length<=4/\fU t.dN=true/\t.bE.length<=6/\¬rE t)-> ?T)->_ from fun tail=> ?main) ?tp
 case' main=>
  refine zcx [.tmp 2] func34 ntmps34 ?_;simp -implicitDefEqProofs (disch:=omega) only[go_sem];refine au (fA t.fName (by omega)) ?_;simp -implicitDefEqProofs (disch:=omega) only[go_sem]<;>(repeat(with_reducible refine And.intro ?_ ?_;focus first|omega|rfl|assumption|exact⟨_,rfl,rfl⟩|(simp;omega)|(simp;done)))
  with_reducible refine aj (fun hb=> ?_) (fun hb=> ?_)<;>have h:=hb<;>(try simp only[wf_preprocess] at h)<;>simp -implicitDefEqProofs (disch:=omega) only[go_sem,hb]<;>(repeat(with_reducible refine And.intro ?_ ?_;focus first|omega|rfl|assumption|exact⟨_,rfl,rfl⟩|(simp;omega)|(simp;done)))
  ·exact ay (by unfold dW;rw[h];rfl)
  have h1:=h
  with_reducible refine aj (fun hb=> ?_) (fun hb=> ?_)<;>have h:=hb<;>(try simp only[wf_preprocess] at h)<;>simp -implicitDefEqProofs (disch:=omega) only[go_sem,hb]<;>(repeat(with_reducible refine And.intro ?_ ?_;focus first|omega|rfl|assumption|exact⟨_,rfl,rfl⟩|(simp;omega)|(simp;done)))
  ·exact ay (by unfold dW;rw[aI (show ¬t.dN.length<=4 by omega)];simp)
  have h2:=h
  (repeat(with_reducible refine And.intro ?_ ?_;focus first|omega|rfl|assumption|exact⟨_,rfl,rfl⟩|(simp;omega)|(simp;done)))
  refine au (j5 t.dN (by omega) hV) ?_;simp -implicitDefEqProofs (disch:=omega) only[go_sem]<;>(repeat(with_reducible refine And.intro ?_ ?_;focus first|omega|rfl|assumption|exact⟨_,rfl,rfl⟩|(simp;omega)|(simp;done)))
  with_reducible refine aj (fun hb=> ?_) (fun hb=> ?_)<;>have h:=hb<;>(try simp only[wf_preprocess] at h)<;>simp -implicitDefEqProofs (disch:=omega) only[go_sem,hb]<;>(repeat(with_reducible refine And.intro ?_ ?_;focus first|omega|rfl|assumption|exact⟨_,rfl,rfl⟩|(simp;omega)|(simp;done)))
  ·exact ay (by unfold dW;rw[h];simp)
  have h3:=h
  with_reducible refine aj (fun hb=> ?_) (fun hb=> ?_)<;>have h:=hb<;>(try simp only[wf_preprocess] at h)<;>simp -implicitDefEqProofs (disch:=omega) only[go_sem,hb]<;>(repeat(with_reducible refine And.intro ?_ ?_;focus first|omega|rfl|assumption|exact⟨_,rfl,rfl⟩|(simp;omega)|(simp;done)))
  ·exact ay (by unfold dW;rw[aI (show ¬t.bE.length<=6 by omega)];simp)
  have h4:=h;have bad:rE t->V.c (.d (.b false))=V.c (.d (.b (dW t))):=fun h=>ay (by unfold dW;rw[bg h];simp);have pre:¬rE t->(validName t.fName=true/\t.dN.length<=4/\fU t.dN=true/\t.bE.length<=6/\¬rE t):=fun h=>⟨h1,by omega,h3,by omega,h⟩
  repeat' (first|with_reducible refine aj (fun hb=> ?_) (fun hb=> ?_)<;>have h:=hb<;>(try simp only[wf_preprocess] at h)<;>simp -implicitDefEqProofs (disch:=omega) only[go_sem,hb]<;>(repeat(with_reducible refine And.intro ?_ ?_;focus first|omega|rfl|assumption|exact⟨_,rfl,rfl⟩|(simp;omega)|(simp;done))))
  all_goals first
   |(refine bad ⟨by assumption,?_⟩;first|exact .inl (by assumption)|exact .inr (.inl (by omega))|exact .inr (.inr (by omega)))
   |skip
  all_goals
   have na:¬rE t:=fun x=>by
    obtain⟨x1,x2⟩:=x
    rcases x2 with x2|x2|x2<;>first|omega|simp_all
   (repeat(with_reducible refine And.intro ?_ ?_;focus first|omega|rfl|assumption|exact⟨_,rfl,rfl⟩|(simp;omega)|(simp;done)))
   refine jL 3 1 [] rfl (by simp) ?_;refine uh (st':=[.box (t.enc.map .d),.tok 1 []]::S) [3,48,49,50] [.c (.bM (0,1) []),.c (.d (.sl (t.bE.map bA.enc))),.c (.d (.i .i64 t.bE.length)),.c (.d (.i .i64 0))] ?_ ?_ ?_
   ·rfl
   ·first|(simp -implicitDefEqProofs (disch:=omega) only[go_sem];done)|(simp -implicitDefEqProofs (disch:=omega) only[go_sem];simp[*])
   ·exact tail.out (pre na)
 refine⟨fun hp=> ?_⟩;obtain⟨h1,h2,h3,h4,h5⟩:=hp
 have bad:∀i,∀hi:i<t.bE.length,gL t.bE[i]=false->dW t=false:=fun i hi h=>by
  have:t.bE.all gL=false:=cY.2 fun hx=>by
   rw[ax.1 hx _ (ac hi)] at h;cases h
  unfold dW
  rw[this];simp
 refine bn (ι:=Nat×List (List UInt8)) zmx rfl [3,48,49,50] (fun y=>[.c (.bM (0,1) (y.2.map encS)),.c (.d (.sl (t.bE.map bA.enc))),.c (.d (.i .i64 t.bE.length)),.c (.d (.i .i64 y.1))]) (fun y=>[.box (t.enc.map .d),.tok 1 (y.2.map encS)]::S)
  (fun y=>y.1<=t.bE.length/\y.2=(iH t).take y.1/\∀j,∀hj:j<t.bE.length,j<y.1->gL t.bE[j]=true) (fun y=>t.bE.length-y.1) (0,[]) rfl ?_ ⟨ao _,rfl,fun j _ h=>by simp only at h;omega⟩ ?_
 ·simp -implicitDefEqProofs (disch:=omega) only[go_sem]
 rintro⟨i,names⟩ ⟨p1,p2,p3⟩;simp only at p1 p2 p3
 have pl:names.length<=t.bE.length:=by rw[p2];simp[iH];omega
 simp -implicitDefEqProofs (disch:=omega) only[go_sem]
 with_reducible refine aj (fun hb=> ?_) (fun hb=> ?_)<;>have h:=hb<;>(try simp only[wf_preprocess] at h)<;>simp -implicitDefEqProofs (disch:=omega) only[go_sem,hb]<;>(repeat(with_reducible refine And.intro ?_ ?_;focus first|omega|rfl|assumption|exact⟨_,rfl,rfl⟩|(simp;omega)|(simp;done)))
 ·have hi:i<t.bE.length:=by omega
  (repeat(with_reducible refine And.intro ?_ ?_;focus first|omega|rfl|assumption|exact⟨_,rfl,rfl⟩|(simp;omega)|(simp;done)))
  refine au (GX t.bE[i] (hG _ (ac hi))) ?_;simp -implicitDefEqProofs (disch:=omega) only[go_sem]<;>(repeat(with_reducible refine And.intro ?_ ?_;focus first|omega|rfl|assumption|exact⟨_,rfl,rfl⟩|(simp;omega)|(simp;done)))
  with_reducible refine aj (fun hb=> ?_) (fun hb=> ?_)<;>have h:=hb<;>(try simp only[wf_preprocess] at h)<;>simp -implicitDefEqProofs (disch:=omega) only[go_sem,hb]<;>(repeat(with_reducible refine And.intro ?_ ?_;focus first|omega|rfl|assumption|exact⟨_,rfl,rfl⟩|(simp;omega)|(simp;done)))
  ·rw[bad i hi h]
  have k2:=h
  (repeat(with_reducible refine And.intro ?_ ?_;focus first|omega|rfl|assumption|exact⟨_,rfl,rfl⟩|(simp;omega)|(simp;done)))
  rw[show List.map encS names++[[D.s t.bE[i].fName]]=List.map encS (names++[t.bE[i].fName]) by simp[encS]]
  exact dL 2 (by decide) (i+1,names++[t.bE[i].fName]) (by simp only;omega) rfl rfl rfl rfl ⟨by simp only;omega,by simp only;rw[p2,fC (by simpa [iH] using hi)];simp[iH],fun j hj hji=>by
   simp only at hji;by_cases e:j=i
   ·subst e;exact k2
   ·exact p3 j hj (by omega)⟩
 have hi:i=t.bE.length:=by omega
 have hn:names=iH t:=by rw[p2,bi (by simp[iH];omega)]
 have hall:t.bE.all gL=true:=ax.2 fun c hc=>by
  obtain⟨j,hj,e⟩:=bm hc;rw[<-e];exact p3 j hj (by omega)
 refine au (jD names (by omega)) ?_;simp -implicitDefEqProofs (disch:=omega) only[go_sem]<;>(repeat(with_reducible refine And.intro ?_ ?_;focus first|omega|rfl|assumption|exact⟨_,rfl,rfl⟩|(simp;omega)|(simp;done)));exact ay (by unfold dW;rw[h1,h3,hall,<-hn,bg h2,bg h4,aI h5];simp)
theorem CB(t:dx)(hsz:t.sz<=4194304):aT prog 71 [t.v] (.c (.d (.b (dW t)))):=fun S=>by
 have hs:=dx.sum t
 have hV:∀s∈t.dN,s.length<=4194304:=fun s h=>by have:=mG h;omega
 have hG:∀g∈t.bE,g.sz<=4194304:=fun g h=>by have:=OB h;omega
 have bad:∀i,∀hi:i<t.bE.length,gL t.bE[i]=false->dW t=false:=fun i hi h=>by
  have:t.bE.all gL=false:=cY.2 fun hx=>by
   rw[ax.1 hx _ (ac hi)] at h;cases h
  unfold dW
  rw[this];simp
 have aeV:rE t->V.c (.d (.b false))=V.c (.d (.b (dW t))):=fun h=>ay (by unfold dW;rw[bg h];simp);refine zcx [.tmp 2] func71 ntmps71 ?_;simp -implicitDefEqProofs (disch:=omega) only[go_sem]
 (repeat(with_reducible refine And.intro ?_ ?_;focus first|omega|rfl|assumption|exact⟨_,rfl,rfl⟩|(simp;omega)|(simp;done)))
 refine jL 3 1 [] rfl (by simp) ?_
 refine bn (ι:=Nat×List (List UInt8)) zmx rfl [1,3,4] (fun y=>[.c (.ptr (0,0) 0),.c (.bM (0,1) (y.2.map encS)),.c (.d (.i .i64 y.1))]) (fun y=>[.box (t.enc.map .d),.tok 1 (y.2.map encS)]::S)
  (fun y=>y.1<=t.bE.length/\y.2=(iH t).take y.1/\∀j,∀hj:j<t.bE.length,j<y.1->gL t.bE[j]=true) (fun y=>t.bE.length-y.1) (0,[]) rfl ?_ ⟨ao _,rfl,fun j _ h=>by simp only at h;omega⟩ ?_
 ·simp -implicitDefEqProofs (disch:=omega) only[go_sem]
 rintro⟨i,names⟩ ⟨p1,p2,p3⟩;simp only at p1 p2 p3
 have pl:names.length<=t.bE.length:=by rw[p2];simp[iH];omega
 simp -implicitDefEqProofs (disch:=omega) only[go_sem]
 with_reducible refine aj (fun hb=> ?_) (fun hb=> ?_)<;>have h:=hb<;>(try simp only[wf_preprocess] at h)<;>simp -implicitDefEqProofs (disch:=omega) only[go_sem,hb]<;>(repeat(with_reducible refine And.intro ?_ ?_;focus first|omega|rfl|assumption|exact⟨_,rfl,rfl⟩|(simp;omega)|(simp;done)))
 ·have hi:i<t.bE.length:=by omega
  (repeat(with_reducible refine And.intro ?_ ?_;focus first|omega|rfl|assumption|exact⟨_,rfl,rfl⟩|(simp;omega)|(simp;done)))
  refine au (Ug t.bE[i] (hG _ (ac hi))) ?_;simp -implicitDefEqProofs (disch:=omega) only[go_sem]<;>(repeat(with_reducible refine And.intro ?_ ?_;focus first|omega|rfl|assumption|exact⟨_,rfl,rfl⟩|(simp;omega)|(simp;done)))
  with_reducible refine aj (fun hb=> ?_) (fun hb=> ?_)<;>have h:=hb<;>(try simp only[wf_preprocess] at h)<;>simp -implicitDefEqProofs (disch:=omega) only[go_sem,hb]<;>(repeat(with_reducible refine And.intro ?_ ?_;focus first|omega|rfl|assumption|exact⟨_,rfl,rfl⟩|(simp;omega)|(simp;done)))
  ·rw[bad i hi h]
  have k2:=h
  (repeat(with_reducible refine And.intro ?_ ?_;focus first|omega|rfl|assumption|exact⟨_,rfl,rfl⟩|(simp;omega)|(simp;done)))
  rw[show List.map encS names++[[D.s t.bE[i].fName]]=List.map encS (names++[t.bE[i].fName]) by simp[encS]]
  exact bU (i+1,names++[t.bE[i].fName]) (by simp only;omega) rfl rfl ⟨by simp only;omega,by simp only;rw[p2,fC (by simpa [iH] using hi)];simp[iH],fun j hj hji=>by
   simp only at hji;by_cases e:j=i
   ·subst e;exact k2
   ·exact p3 j hj (by omega)⟩
 have hi:i=t.bE.length:=by omega
 have hn:names=iH t:=by rw[p2,bi (by simp[iH];omega)]
 have hall:t.bE.all gL=true:=ax.2 fun c hc=>by
  obtain⟨j,hj,e⟩:=bm hc;rw[<-e];exact p3 j hj (by omega)
 have Ar:=Nw hall
 have hnl:∀s∈names,s.length<=4194304:=fun s hm=>by
  rw[hn] at hm;obtain⟨g,hg,e⟩:=cp.1 hm;have:=hG g hg;have:=bA.sum g;rw[<-e];omega
 have hlen:names.length=t.bE.length:=by rw[hn];simp[iH]
 clear bad p2 p3
 repeat' (first|with_reducible refine aj (fun hb=> ?_) (fun hb=> ?_)<;>have h:=hb<;>(try simp only[wf_preprocess] at h)<;>simp -implicitDefEqProofs (disch:=omega) only[go_sem,hb]<;>(repeat(with_reducible refine And.intro ?_ ?_;focus first|omega|rfl|assumption|exact⟨_,rfl,rfl⟩|(simp;omega)|(simp;done))))
 all_goals first
  |(refine aeV ⟨by assumption,?_⟩;first|exact .inl (by assumption)|exact .inr (.inl (by omega))|exact .inr (.inr (by omega)))
  |skip
 all_goals
  have na:¬rE t:=fun x=>by
   obtain⟨x1,x2⟩:=x
   rcases x2 with x2|x2|x2<;>first|omega|simp_all
  (repeat(with_reducible refine And.intro ?_ ?_;focus first|omega|rfl|assumption|exact⟨_,rfl,rfl⟩|(simp;omega)|(simp;done)))
  refine au (fB t.fName (by omega)) ?_;simp -implicitDefEqProofs (disch:=omega) only[go_sem]
  with_reducible refine aj (fun hb=> ?_) (fun hb=> ?_)<;>have h:=hb<;>(try simp only[wf_preprocess] at h)<;>simp -implicitDefEqProofs (disch:=omega) only[go_sem,hb]<;>(repeat(with_reducible refine And.intro ?_ ?_;focus first|omega|rfl|assumption|exact⟨_,rfl,rfl⟩|(simp;omega)|(simp;done)))
  ·have h1:=h
   (repeat(with_reducible refine And.intro ?_ ?_;focus first|omega|rfl|assumption|exact⟨_,rfl,rfl⟩|(simp;omega)|(simp;done)))
   refine au (iQ t.dN 4 (by omega) hV) ?_;simp -implicitDefEqProofs (disch:=omega) only[go_sem]<;>(repeat(with_reducible refine And.intro ?_ ?_;focus first|omega|rfl|assumption|exact⟨_,rfl,rfl⟩|(simp;omega)|(simp;done)))
   with_reducible refine aj (fun hb=> ?_) (fun hb=> ?_)<;>have h:=hb<;>(try simp only[wf_preprocess] at h)<;>simp -implicitDefEqProofs (disch:=omega) only[go_sem,hb]<;>(repeat(with_reducible refine And.intro ?_ ?_;focus first|omega|rfl|assumption|exact⟨_,rfl,rfl⟩|(simp;omega)|(simp;done)))
   ·have h2:=h;rw[aq] at h2;have h3:=iD h2.1;refine au (iQ names 6 (by omega) hnl) ?_;simp -implicitDefEqProofs (disch:=omega) only[go_sem]<;>(repeat(with_reducible refine And.intro ?_ ?_;focus first|omega|rfl|assumption|exact⟨_,rfl,rfl⟩|(simp;omega)|(simp;done)));refine ay ?_;unfold dW;rw[h1,h2.2,hall,aI na,bg (show t.dN.length<=4 by omega),hlen];unfold fU;rw[hn,Ar,bx];simp only[bj,ex];congr 1;exact dY ⟨fun h=>by omega,fun h=>by omega⟩
   ·refine ay ?_;unfold dW
    have h2:(dec (t.dN.length<=4)&&fU t.dN)=false:=by
     rw[<-h];congr 1;exact dY ⟨fun h=>by omega,fun h=>by omega⟩
    rw[<-ey (dec (t.dN.length<=4)),h2];simp
  ·exact ay (by unfold dW;rw[h];rfl)
end Go.Ab