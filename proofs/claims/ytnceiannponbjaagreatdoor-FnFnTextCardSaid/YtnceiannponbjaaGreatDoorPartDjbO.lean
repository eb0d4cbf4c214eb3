/-
  SEVERAL TEXTS IN ONE (merged by program): contracts and models, each with its own heading.
-/
import Derived.Test.YtnceiannponbjaaGreatDoorPartDjbE
import Derived.Test.YtnceiannponbjaaGreatDoorPartDjbI
import Derived.Test.YtnceiannponbjaaGreatDoorPartDjbL
import Derived.Test.YtnceiannponbjaaGreatDoorPartDjbN
set_option maxHeartbeats 8000000
open Go.Proofs Go.Proofs.Tryz
set_option linter.unusedSimpArgs false
set_option linter.unusedVariables false
set_option maxRecDepth 4000
namespace Go.Ab
theorem Qd{x:au}(h:nK x=true):gI x=true:=by rw[nK,Bool.and_eq_true] at h;exact h.2
noncomputable def xU(k:Int)(n:List UInt8)(bound out:List (List UInt8)):List (List UInt8):=if k=3/\n∉bound/\n∉out then out++[n] else out
mutual
noncomputable def iQ:au->List (List UInt8)->List (List UInt8)->List (List UInt8)
 | .mk k _ n _ _ a b,bound,out=>rJ b bound (oh a k n 0 bound (xU k n bound out))
noncomputable def oh:List au->Int->List UInt8->Nat->List (List UInt8)->List (List UInt8)->List (List UInt8)
 |[],_,_,_,_,out=>out
 |x::xs,k,n,i,bound,out=>oh xs k n (i+1) bound (iQ x (if k=8/\i=1 then bound++[n] else bound) out)
noncomputable def rJ:List aJ->List (List UInt8)->List (List UInt8)->List (List UInt8)
 |[],_,out=>out
 |x::xs,bound,out=>rJ xs bound (CS x bound out)
noncomputable def CS:aJ->List (List UInt8)->List (List UInt8)->List (List UInt8)
 | .mk _ v b,bound,out=>iQ b (bound++v) out
end
theorem Qe(x:au)(bound out:List (List UInt8)):iQ x bound out=rJ x.aI bound (oh x.fArgs x.aH x.fName 0 bound (xU x.aH x.fName bound out)):=by cases x;rw[iQ];rfl
theorem Qf(x:aJ)(bound out:List (List UInt8)):CS x bound out=iQ x.fBody (bound++x.aW) out:=by cases x;rw[CS];rfl
theorem JV{xs:List au}{k:Int}{n:List UInt8}{i:Nat}{bound out:List (List UInt8)}(hi:i<xs.length):oh (xs.drop i) k n i bound out=oh (xs.drop (i+1)) k n (i+1) bound (iQ xs[i] (if k=8/\i=1 then bound++[n] else bound) out):=by
 rw[List.drop_eq_getElem_cons hi,oh]
theorem JW{xs:List aJ}{i:Nat}{bound out:List (List UInt8)}(hi:i<xs.length):rJ (xs.drop i) bound out=rJ (xs.drop (i+1)) bound (CS xs[i] bound out):=by
 rw[List.drop_eq_getElem_cons hi,rJ]
theorem Hu(k:Int)(n:List UInt8)(bound out:List (List UInt8)):(xU k n bound out).length<=out.length+1:=by
 unfold xU;split<;>simp
mutual
theorem qY:∀(x:au)(bound out:List (List UInt8)),(iQ x bound out).length<=out.length+x.cnt
 | .mk k t n m ty a b,bound,out=>by
   have h1:=Hu k n bound out;have h2:=Mk a k n 0 bound (xU k n bound out);have h3:=Ml b bound (oh a k n 0 bound (xU k n bound out));rw[iQ,au.cnt];omega
theorem Mk:∀(xs:List au)(k:Int)(n:List UInt8)(i:Nat)(bound out:List (List UInt8)),(oh xs k n i bound out).length<=out.length+au.dn xs
 |[],k,n,i,bound,out=>by rw[oh,au.dn];omega
 |x::xs,k,n,i,bound,out=>by
  have h1:=qY x (if k=8/\i=1 then bound++[n] else bound) out;have h2:=Mk xs k n (i+1) bound (iQ x (if k=8/\i=1 then bound++[n] else bound) out);rw[oh,au.dn];omega
theorem Ml:∀(xs:List aJ)(bound out:List (List UInt8)),(rJ xs bound out).length<=out.length+aJ.dn xs
 |[],bound,out=>by rw[rJ,aJ.dn];omega
 |x::xs,bound,out=>by
  have h1:=Ze x bound out;have h2:=Ml xs bound (CS x bound out);rw[rJ,aJ.dn];omega
theorem Ze:∀(x:aJ)(bound out:List (List UInt8)),(CS x bound out).length<=out.length+x.cnt
 | .mk c v b,bound,out=>by
   have h1:=qY b (bound++v) out;rw[CS,aJ.cnt];omega
end
theorem au.qO{x:au}{i:Nat}(hi:i<x.fArgs.length):x.fArgs[i].sz+x.fArgs.length<=x.sz:=by
 have hx:x.fArgs[i].sz<=bA (x.fArgs.map au.enc):=gD (List.mem_map_of_mem (List.getElem_mem hi));have:=au.zi x;omega
theorem au.Zf{x:au}{i:Nat}(hi:i<x.aI.length):x.aI[i].sz+x.aI.length<=x.sz:=by
 have hx:x.aI[i].sz<=bA (x.aI.map aJ.enc):=gD (List.mem_map_of_mem (List.getElem_mem hi));have:=au.zi x;omega
theorem aJ.Tv(x:aJ):x.aW.length+x.fBody.sz<=x.sz:=by
 simp only[aJ.sz,aJ.aB,au.sz,bG,bQ,D.sz,List.length_map];omega
theorem Fz(xs:List (List UInt8))(s:List UInt8):xs.map encS++[[D.s s]]=(xs++[s]).map encS:=by simp[encS]
theorem Ev:∀N:Nat,∀x:au,SizeOf.sizeOf x<N->x.sz<=4194304->∀(bound out:List (List UInt8))(l j:Nat)(S:Store),aN S (l,j)=some (.tok 1 (out.map encS))->out.length+x.cnt<=1073741824->bound.length+x.sz<=1073741824->
 bF prog 177 [.c (.bL (l,j) (out.map encS)),x.v,.c (.d (.sl (bound.map encS)))] S (fun r S'=>r=.c (.bL (l,j) ((iQ x bound out).map encS))/\S'=aR S (l,j) (.tok 1 ((iQ x bound out).map encS)))
 |0=>fun x h=>by omega
 |N+1=>by
  have ih:=Ev N;intro x hn hsz bound out l j S hk hc hbd;have hb0:=au.zi x;have jl:=au.iy x;have Co:=au.tC x;have hcn:=au.lY x;have Jq:∀y:Ab.Obj,aN (aR S (l,j) y) (l,j)=some y:=fun y=>bP _ _ _ _ hk;have hS0:aR S (l,j) (.tok 1 (out.map encS))=S:=zU _ _ hk;have fin:=Qe x bound out;have hal:=Hu x.aH x.fName bound out;obtain⟨o1,ho1⟩:∃o1,xU x.aH x.fName bound out=o1:=⟨_,rfl⟩;rw[ho1] at fin hal;refine(show Hold ?T->_ from fun tail=> ?main) ?tp
  case' main=>
   refine zcx [.tmp 6] func177 ntmps177 ?_;simp -implicitDefEqProofs (disch:=omega) only[go_sem,hk]
   repeat' (first
    |(with_reducible refine aA (fun hb=> ?_) (fun hb=> ?_)<;>have h:=hb<;>(try simp only[wf_preprocess] at h)<;>simp -implicitDefEqProofs (disch:=omega) only[go_sem,hb,hk]<;>(repeat(with_reducible refine And.intro ?_ ?_;focus first|omega|rfl|assumption|exact⟨_,rfl,rfl⟩|(simp;omega)|(simp;done))))
    |(refine ay (qN bound x.fName (by omega)) ?_;simp -implicitDefEqProofs (disch:=omega) only[go_sem,hk];(repeat(with_reducible refine And.intro ?_ ?_;focus first|omega|rfl|assumption|exact⟨_,rfl,rfl⟩|(simp;omega)|(simp;done))))
    |(refine ay (qN out x.fName (by omega)) ?_;simp -implicitDefEqProofs (disch:=omega) only[go_sem,hk];(repeat(with_reducible refine And.intro ?_ ?_;focus first|omega|rfl|assumption|exact⟨_,rfl,rfl⟩|(simp;omega)|(simp;done)))))
   all_goals first
    |(have ha:xU x.aH x.fName bound out=out++[x.fName]:=if_pos ⟨by assumption,by assumption,by assumption⟩)
    |(have ha:xU x.aH x.fName bound out=out:=if_neg (fun y=>by have:=y.1;have:=y.2.1;have:=y.2.2;contradiction))
   all_goals
    refine GZ (st':=[.box (x.enc.map .d)]::aR S (l,j) (.tok 1 (o1.map encS))) [0,2,4,34,35,36] [.c (.bL (1+l,j) (o1.map encS)),.c (.d (.sl (bound.map encS))),.c (.ptr (0,0) 0),.c (.d (.sl (x.fArgs.map au.enc))),.c (.d (.i .i64 x.fArgs.length)),.c (.d (.i .i64 0))] ?_ ?_ ?_
    ·first|(rw[<-ho1,ha];rfl)|(rw[<-ho1,ha,<-Fz];rfl)
    ·first|(rw[<-ho1,ha,hS0];simp -implicitDefEqProofs (disch:=omega) only[go_sem];done)|(rw[<-ho1,ha,<-Fz];simp -implicitDefEqProofs (disch:=omega) only[go_sem];done)
    ·exact tail.out
  refine⟨?_⟩;clear ho1
  refine bC (ι:=Nat×List (List UInt8)) zmx rfl [0,2,4,34,35,36] (fun y=>[.c (.bL (1+l,j) (y.2.map encS)),.c (.d (.sl (bound.map encS))),.c (.ptr (0,0) 0),.c (.d (.sl (x.fArgs.map au.enc))),.c (.d (.i .i64 x.fArgs.length)),.c (.d (.i .i64 y.1))]) (fun y=>[.box (x.enc.map .d)]::aR S (l,j) (.tok 1 (y.2.map encS)))
   (fun y=>y.1<=x.fArgs.length/\y.2.length+au.dn (x.fArgs.drop y.1)+aJ.dn x.aI<=1073741824/\oh (x.fArgs.drop y.1) x.aH x.fName y.1 bound y.2=oh x.fArgs x.aH x.fName 0 bound o1) (fun y=>x.fArgs.length-y.1) (0,o1) rfl rfl ⟨Nat.zero_le _,by simp only[List.drop_zero];omega,rfl⟩ ?_
  rintro⟨i,o⟩ ⟨p1,p2,p3⟩
  have refs:∀{a b},lX 1 (iN [0,2,4,34,35,36] [.c (.bL (1+l,j) a),.c (.d (.sl (bound.map encS))),.c (.ptr (0,0) 0),.c (.d (.sl (x.fArgs.map au.enc))),.c (.d (.i .i64 x.fArgs.length)),.c (.d (.i .i64 b))])=true:=fun {a b}=>by simp[lX,iN,V.refs,C.refs,nk];omega
  simp only at p1 p2 p3;simp -implicitDefEqProofs (disch:=omega) only[go_sem]
  with_reducible refine aA (fun hb=> ?_) (fun hb=> ?_)<;>have h:=hb<;>(try simp only[wf_preprocess] at h)<;>simp -implicitDefEqProofs (disch:=omega) only[go_sem,hb]<;>(repeat(with_reducible refine And.intro ?_ ?_;focus first|omega|rfl|assumption|exact⟨_,rfl,rfl⟩|(simp;omega)|(simp;done)))
  ·have hi:i<x.fArgs.length:=by omega
   have hs:=List.sizeOf_lt_of_mem (List.getElem_mem hi);have hz:=au.qO hi;rw[JV hi] at p3;rw[au.jR hi] at p2;have hlo:=qY x.fArgs[i] (if x.aH=8/\i=1 then bound++[x.fName] else bound) o
   (repeat(with_reducible refine And.intro ?_ ?_;focus first|omega|rfl|assumption|exact⟨_,rfl,rfl⟩|(simp;omega)|(simp;done)))
   have two:x.fArgs[i].sz+(bound.length+1)<=1073741824:=by omega
   repeat' (first|with_reducible refine aA (fun hb=> ?_) (fun hb=> ?_)<;>have h:=hb<;>(try simp only[wf_preprocess] at h)<;>simp -implicitDefEqProofs (disch:=omega) only[go_sem,hb]<;>(repeat(with_reducible refine And.intro ?_ ?_;focus first|omega|rfl|assumption|exact⟨_,rfl,rfl⟩|(simp;omega)|(simp;done))))
   ·
    have e1:x.aH=8/\i=1:=⟨by omega,by omega⟩;rw[if_pos e1] at p3 hlo;refine afE rfl DS.push (Y8 bound (by omega) _ _) ?_;simp -implicitDefEqProofs (disch:=omega) only[go_sem]
    (repeat(with_reducible refine And.intro ?_ ?_;focus first|omega|rfl|assumption|exact⟨_,rfl,rfl⟩|(simp;omega)|(simp;done)))
    rw[Fz];refine dX [true,true,false] rfl (ih x.fArgs[i] (by omega) (by omega) (bound++[x.fName]) o (1+l) j _ (by simp -implicitDefEqProofs (disch:=omega) only[go_sem];exact Jq _) (by omega) (by simp only[List.length_append,List.length_cons,List.length_nil];omega)) ?_;simp -implicitDefEqProofs (disch:=omega) only[go_sem,aD];exact dM 1 (by decide) (i+1,iQ x.fArgs[i] (bound++[x.fName]) o) (by simp only;omega) rfl rfl refs rfl ⟨by simp only;omega,by simp only;omega,p3⟩
   all_goals
    have e1:¬(x.aH=8/\i=1):=fun h=>by omega
    rw[if_neg e1] at p3 hlo;refine aX rfl (ih x.fArgs[i] (by omega) (by omega) bound o (1+l) j _ (by simp -implicitDefEqProofs (disch:=omega) only[go_sem];exact Jq _) (by omega) (by omega)) ?_;simp -implicitDefEqProofs (disch:=omega) only[go_sem,aD];exact dM 1 (by decide) (i+1,iQ x.fArgs[i] bound o) (by simp only;omega) rfl rfl refs rfl ⟨by simp only;omega,by simp only;omega,p3⟩
  have hi:i=x.fArgs.length:=by omega
  rw[hi,List.drop_length] at p2 p3;rw[au.dn] at p2;rw[oh] at p3;rw[<-p3] at fin;clear p3 refs
  refine bC (ι:=Nat×List (List UInt8)) zmx rfl [0,2,63,64,65] (fun y=>[.c (.bL (1+l,j) (y.2.map encS)),.c (.d (.sl (bound.map encS))),.c (.d (.sl (x.aI.map aJ.enc))),.c (.d (.i .i64 x.aI.length)),.c (.d (.i .i64 y.1))]) (fun y=>[.box (x.enc.map .d)]::aR S (l,j) (.tok 1 (y.2.map encS)))
   (fun y=>y.1<=x.aI.length/\y.2.length+aJ.dn (x.aI.drop y.1)<=1073741824/\rJ (x.aI.drop y.1) bound y.2=iQ x bound out) (fun y=>x.aI.length-y.1) (0,o) rfl ?_ ⟨Nat.zero_le _,by simp only[List.drop_zero];omega,fin.symm⟩ ?_
  ·simp -implicitDefEqProofs (disch:=omega) only[go_sem]
  clear p1 p2 fin hal;rintro⟨i,o⟩ ⟨p1,p2,p3⟩
  have refs:∀a b,lX 1 (iN [0,2,63,64,65] [.c (.bL (1+l,j) a),.c (.d (.sl (bound.map encS))),.c (.d (.sl (x.aI.map aJ.enc))),.c (.d (.i .i64 x.aI.length)),.c (.d (.i .i64 b))])=true:=fun a b=>by simp[lX,iN,V.refs,C.refs,nk];omega
  simp only at p1 p2 p3;simp -implicitDefEqProofs (disch:=omega) only[go_sem]
  with_reducible refine aA (fun hb=> ?_) (fun hb=> ?_)<;>have h:=hb<;>(try simp only[wf_preprocess] at h)<;>simp -implicitDefEqProofs (disch:=omega) only[go_sem,hb]<;>(repeat(with_reducible refine And.intro ?_ ?_;focus first|omega|rfl|assumption|exact⟨_,rfl,rfl⟩|(simp;omega)|(simp;done)))
  ·have hi:i<x.aI.length:=by omega
   have hs:=List.sizeOf_lt_of_mem (List.getElem_mem hi);have hs':=aJ.rC x.aI[i];have hz:=au.Zf hi;have hz':=aJ.Tv x.aI[i];rw[JW hi,Qf] at p3;rw[aJ.jR hi] at p2;have hlo:=qY x.aI[i].fBody (bound++x.aI[i].aW) o;have hcc:=V6 [bound,x.aI[i].aW] (by simp) (by simp only[List.flatten_cons,List.flatten_nil,List.append_nil,List.length_append];omega);simp only[List.map_cons,List.map_nil,List.flatten_cons,List.flatten_nil,List.append_nil] at hcc
   (repeat(with_reducible refine And.intro ?_ ?_;focus first|omega|rfl|assumption|exact⟨_,rfl,rfl⟩|(simp;omega)|(simp;done)))
   refine ay hcc ?_;simp -implicitDefEqProofs (disch:=omega) only[go_sem];refine aX rfl (ih x.aI[i].fBody (by omega) (by omega) (bound++x.aI[i].aW) o (1+l) j _ (by simp -implicitDefEqProofs (disch:=omega) only[go_sem];exact Jq _) (by omega) (by simp only[List.length_append];omega)) ?_;simp -implicitDefEqProofs (disch:=omega) only[go_sem,aD];exact dM 1 (by decide) (i+1,iQ x.aI[i].fBody (bound++x.aI[i].aW) o) (by simp only;omega) rfl rfl (refs _ _) rfl ⟨by simp only;omega,by simp only;omega,p3⟩
  ·have hi:i=x.aI.length:=by omega
   rw[hi,List.drop_length,rJ] at p3;rw[<-p3];exact⟨rfl,rfl⟩
theorem JX(x:au)(hsz:x.sz<=4194304):aG prog 117 [x.v] (.c (.d (.sl ((iQ x [] []).map encS)))):=fun S=>by
 have hc:=au.jQ x
 have h0:∀S,bF prog 177 [.c (.bE []),x.v,.c (.d (.sl []))] S (fun r S'=>r=.c (.d (.sl ((iQ x [] []).map encS)))/\S'=S):=fun S=>by
  refine bF.abl 0 (es:=[]) (aK:=1) rfl (by simp) (Ev _ x (Nat.lt_succ_self _) hsz [] [] 0 0 ([.tok 1 []]::S) rfl (by simp;omega) (by simp;omega)) ?_;rintro r fr S' ⟨rfl,h2⟩;injection h2 with h2 h3;exact⟨_,rfl,rfl,h3⟩
 refine zcx [.tmp 2] func117 ntmps117 ?_;simp -implicitDefEqProofs (disch:=omega) only[go_sem]
 (repeat(with_reducible refine And.intro ?_ ?_;focus first|omega|rfl|assumption|exact⟨_,rfl,rfl⟩|(simp;omega)|(simp;done)))
 refine dX [true,true,false] rfl (h0 _) ?_;simp -implicitDefEqProofs (disch:=omega) only[go_sem]
theorem Ew:∀N:Nat,∀x:au,SizeOf.sizeOf x<N->x.sz<=4194304->∀(bound out:List (List UInt8))(l j:Nat)(S:Store),aN S (l,j)=some (.tok 1 (out.map encS))->out.length+x.cnt<=1073741824->bound.length+x.sz<=1073741824->
 bF prog 182 [x.v,.c (.d (.sl (bound.map encS))),.c (.bL (l,j) (out.map encS))] S (fun r S'=>r=.c (.bL (l,j) ((iQ x bound out).map encS))/\S'=aR S (l,j) (.tok 1 ((iQ x bound out).map encS)))
 |0=>fun x h=>by omega
 |N+1=>by
  have ih:=Ew N;intro x hn hsz bound out l j S hk hc hbd;have hb0:=au.zi x;have jl:=au.iy x;have Co:=au.tC x;have hcn:=au.lY x;have Jq:∀y:Ab.Obj,aN (aR S (l,j) y) (l,j)=some y:=fun y=>bP _ _ _ _ hk;have hS0:aR S (l,j) (.tok 1 (out.map encS))=S:=zU _ _ hk;have fin:=Qe x bound out;have hal:=Hu x.aH x.fName bound out;obtain⟨o1,ho1⟩:∃o1,xU x.aH x.fName bound out=o1:=⟨_,rfl⟩;rw[ho1] at fin hal;refine(show Hold ?T->_ from fun tail=> ?main) ?tp
  case' main=>
   refine zcx [.tmp 6] func182 ntmps182 ?_;simp -implicitDefEqProofs (disch:=omega) only[go_sem,hk]
   repeat' (first
    |(with_reducible refine aA (fun hb=> ?_) (fun hb=> ?_)<;>have h:=hb<;>(try simp only[wf_preprocess] at h)<;>simp -implicitDefEqProofs (disch:=omega) only[go_sem,hb,hk]<;>(repeat(with_reducible refine And.intro ?_ ?_;focus first|omega|rfl|assumption|exact⟨_,rfl,rfl⟩|(simp;omega)|(simp;done))))
    |(refine ay (qM bound x.fName (by omega)) ?_;simp -implicitDefEqProofs (disch:=omega) only[go_sem,hk];(repeat(with_reducible refine And.intro ?_ ?_;focus first|omega|rfl|assumption|exact⟨_,rfl,rfl⟩|(simp;omega)|(simp;done))))
    |(refine ay (qM out x.fName (by omega)) ?_;simp -implicitDefEqProofs (disch:=omega) only[go_sem,hk];(repeat(with_reducible refine And.intro ?_ ?_;focus first|omega|rfl|assumption|exact⟨_,rfl,rfl⟩|(simp;omega)|(simp;done)))))
   all_goals first
    |(have ha:xU x.aH x.fName bound out=out++[x.fName]:=if_pos ⟨by assumption,by assumption,by assumption⟩)
    |(have ha:xU x.aH x.fName bound out=out:=if_neg (fun y=>by have:=y.1;have:=y.2.1;have:=y.2.2;contradiction))
   all_goals
    refine GZ (st':=[.box (x.enc.map .d)]::aR S (l,j) (.tok 1 (o1.map encS))) [1,2,3,7] [.c (.d (.sl (bound.map encS))),.c (.bL (1+l,j) (o1.map encS)),.c (.ptr (0,0) 0),.c (.d (.i .i64 0))] ?_ ?_ ?_
    ·first|(rw[<-ho1,ha];rfl)|(rw[<-ho1,ha,<-Fz];rfl)
    ·first|(rw[<-ho1,ha,hS0];simp -implicitDefEqProofs (disch:=omega) only[go_sem];done)|(rw[<-ho1,ha,<-Fz];simp -implicitDefEqProofs (disch:=omega) only[go_sem];done)
    ·exact tail.out
  refine⟨?_⟩;clear ho1
  refine bC (ι:=Nat×List (List UInt8)) zmx rfl [1,2,3,7] (fun y=>[.c (.d (.sl (bound.map encS))),.c (.bL (1+l,j) (y.2.map encS)),.c (.ptr (0,0) 0),.c (.d (.i .i64 y.1))]) (fun y=>[.box (x.enc.map .d)]::aR S (l,j) (.tok 1 (y.2.map encS)))
   (fun y=>y.1<=x.fArgs.length/\y.2.length+au.dn (x.fArgs.drop y.1)+aJ.dn x.aI<=1073741824/\oh (x.fArgs.drop y.1) x.aH x.fName y.1 bound y.2=oh x.fArgs x.aH x.fName 0 bound o1) (fun y=>x.fArgs.length-y.1) (0,o1) rfl rfl ⟨Nat.zero_le _,by simp only[List.drop_zero];omega,rfl⟩ ?_
  rintro⟨i,o⟩ ⟨p1,p2,p3⟩
  have refs:∀{a b},lX 1 (iN [1,2,3,7] [.c (.d (.sl (bound.map encS))),.c (.bL (1+l,j) a),.c (.ptr (0,0) 0),.c (.d (.i .i64 b))])=true:=fun {a b}=>by simp[lX,iN,V.refs,C.refs,nk];omega
  simp only at p1 p2 p3;simp -implicitDefEqProofs (disch:=omega) only[go_sem]
  with_reducible refine aA (fun hb=> ?_) (fun hb=> ?_)<;>have h:=hb<;>(try simp only[wf_preprocess] at h)<;>simp -implicitDefEqProofs (disch:=omega) only[go_sem,hb]<;>(repeat(with_reducible refine And.intro ?_ ?_;focus first|omega|rfl|assumption|exact⟨_,rfl,rfl⟩|(simp;omega)|(simp;done)))
  ·have hi:i<x.fArgs.length:=by omega
   have hs:=List.sizeOf_lt_of_mem (List.getElem_mem hi);have hz:=au.qO hi;rw[JV hi] at p3;rw[au.jR hi] at p2;have hlo:=qY x.fArgs[i] (if x.aH=8/\i=1 then bound++[x.fName] else bound) o
   have two:x.fArgs[i].sz+(bound.length+1)<=1073741824:=by omega
   repeat' (first|with_reducible refine aA (fun hb=> ?_) (fun hb=> ?_)<;>have h:=hb<;>(try simp only[wf_preprocess] at h)<;>simp -implicitDefEqProofs (disch:=omega) only[go_sem,hb]<;>(repeat(with_reducible refine And.intro ?_ ?_;focus first|omega|rfl|assumption|exact⟨_,rfl,rfl⟩|(simp;omega)|(simp;done))))
   ·have e1:x.aH=8/\i=1:=⟨by omega,by omega⟩;rw[if_pos e1] at p3 hlo;refine⟨zD,⟨_,rfl,rfl⟩,fun y hy=>(by cases hy),by omega,?_⟩
    (repeat(with_reducible refine And.intro ?_ ?_;focus first|omega|rfl|assumption|exact⟨_,rfl,rfl⟩|(simp;omega)|(simp;done)))
    rw[Fz];refine dX [true,false,true] rfl (ih x.fArgs[i] (by omega) (by omega) (bound++[x.fName]) o (1+l) j _ (by simp -implicitDefEqProofs (disch:=omega) only[go_sem];exact Jq _) (by omega) (by simp only[List.length_append,List.length_cons,List.length_nil];omega)) ?_;simp -implicitDefEqProofs (disch:=omega) only[go_sem,aD];exact dM 1 (by decide) (i+1,iQ x.fArgs[i] (bound++[x.fName]) o) (by simp only;omega) rfl rfl refs rfl ⟨by simp only;omega,by simp only;omega,p3⟩
   all_goals
    have e1:¬(x.aH=8/\i=1):=fun h=>by omega
    rw[if_neg e1] at p3 hlo
    (repeat(with_reducible refine And.intro ?_ ?_;focus first|omega|rfl|assumption|exact⟨_,rfl,rfl⟩|(simp;omega)|(simp;done)))
    refine aX rfl (ih x.fArgs[i] (by omega) (by omega) bound o (1+l) j _ (by simp -implicitDefEqProofs (disch:=omega) only[go_sem];exact Jq _) (by omega) (by omega)) ?_;simp -implicitDefEqProofs (disch:=omega) only[go_sem,aD];exact dM 1 (by decide) (i+1,iQ x.fArgs[i] bound o) (by simp only;omega) rfl rfl refs rfl ⟨by simp only;omega,by simp only;omega,p3⟩
  have hi:i=x.fArgs.length:=by omega
  rw[hi,List.drop_length] at p2 p3;rw[au.dn] at p2;rw[oh] at p3;rw[<-p3] at fin;clear p3 refs
  refine bC (ι:=Nat×List (List UInt8)) zmx rfl [1,2,3,9] (fun y=>[.c (.d (.sl (bound.map encS))),.c (.bL (1+l,j) (y.2.map encS)),.c (.ptr (0,0) 0),.c (.d (.i .i64 y.1))]) (fun y=>[.box (x.enc.map .d)]::aR S (l,j) (.tok 1 (y.2.map encS)))
   (fun y=>y.1<=x.aI.length/\y.2.length+aJ.dn (x.aI.drop y.1)<=1073741824/\rJ (x.aI.drop y.1) bound y.2=iQ x bound out) (fun y=>x.aI.length-y.1) (0,o) rfl ?_ ⟨Nat.zero_le _,by simp only[List.drop_zero];omega,fin.symm⟩ ?_
  ·simp -implicitDefEqProofs (disch:=omega) only[go_sem]
  clear p1 p2 fin hal;rintro⟨i,o⟩ ⟨p1,p2,p3⟩
  have refs:∀a b,lX 1 (iN [1,2,3,9] [.c (.d (.sl (bound.map encS))),.c (.bL (1+l,j) a),.c (.ptr (0,0) 0),.c (.d (.i .i64 b))])=true:=fun a b=>by simp[lX,iN,V.refs,C.refs,nk];omega
  simp only at p1 p2 p3;simp -implicitDefEqProofs (disch:=omega) only[go_sem]
  with_reducible refine aA (fun hb=> ?_) (fun hb=> ?_)<;>have h:=hb<;>(try simp only[wf_preprocess] at h)<;>simp -implicitDefEqProofs (disch:=omega) only[go_sem,hb]<;>(repeat(with_reducible refine And.intro ?_ ?_;focus first|omega|rfl|assumption|exact⟨_,rfl,rfl⟩|(simp;omega)|(simp;done)))
  ·have hi:i<x.aI.length:=by omega
   have hs:=List.sizeOf_lt_of_mem (List.getElem_mem hi);have hs':=aJ.rC x.aI[i];have hz:=au.Zf hi;have hz':=aJ.Tv x.aI[i];rw[JW hi,Qf] at p3;rw[aJ.jR hi] at p2;have hlo:=qY x.aI[i].fBody (bound++x.aI[i].aW) o;refine⟨zD,⟨_,rfl,rfl⟩,fun y hy=>(by cases hy),by omega,⟨by omega,hi⟩,zD,⟨_,rfl,rfl⟩,by omega,?_⟩;rw[<-List.map_append];refine dX [true,false,true] rfl (ih x.aI[i].fBody (by omega) (by omega) (bound++x.aI[i].aW) o (1+l) j _ (by simp -implicitDefEqProofs (disch:=omega) only[go_sem];exact Jq _) (by omega) (by simp only[List.length_append];omega)) ?_;simp -implicitDefEqProofs (disch:=omega) only[go_sem,aD];exact dM 1 (by decide) (i+1,iQ x.aI[i].fBody (bound++x.aI[i].aW) o) (by simp only;omega) rfl rfl (refs _ _) rfl ⟨by simp only;omega,by simp only;omega,p3⟩
  ·have hi:i=x.aI.length:=by omega
   rw[hi,List.drop_length,rJ] at p3;rw[<-p3];exact⟨rfl,rfl⟩
theorem JY(x:au)(hsz:x.sz<=4194304):aG prog 125 [x.v] (.c (.d (.sl ((iQ x [] []).map encS)))):=fun S=>by
 have hc:=au.jQ x
 have h0:∀S,bF prog 182 [x.v,.c (.d (.sl [])),.c (.bE [])] S (fun r S'=>r=.c (.d (.sl ((iQ x [] []).map encS)))/\S'=S):=fun S=>by
  refine bF.abl 2 (es:=[]) (aK:=1) rfl (by simp) (Ew _ x (Nat.lt_succ_self _) hsz [] [] 0 0 ([.tok 1 []]::S) rfl (by simp;omega) (by simp;omega)) ?_;rintro r fr S' ⟨rfl,h2⟩;injection h2 with h2 h3;exact⟨_,rfl,rfl,h3⟩
 refine zcx [.tmp 2] func125 ntmps125 ?_;simp -implicitDefEqProofs (disch:=omega) only[go_sem]
 (repeat(with_reducible refine And.intro ?_ ?_;focus first|omega|rfl|assumption|exact⟨_,rfl,rfl⟩|(simp;omega)|(simp;done)))
 refine dX [true,false,true] rfl (h0 _) ?_;simp -implicitDefEqProofs (disch:=omega) only[go_sem]
theorem au.aci{x:au}(h:x.sz<=4194304):x.aZ.length<=4194304/\x.fName.length<=4194304/\x.fType.sz<=4194304/\x.fArgs.length<=4194304/\x.aI.length<=4194304:=by
 simp only[au.sz,au.aB,bG,bQ,D.sz,List.length_map,ak.bZ] at h;omega
theorem aJ.aci{x:aJ}(h:x.sz<=4194304):x.bO.length<=4194304/\x.aW.length<=4194304/\x.fBody.sz<=4194304:=by
 simp only[aJ.sz,aJ.aB,bG,bQ,D.sz,List.length_map,au.bZ] at h;omega
noncomputable def BA(vars:List (List UInt8))(e:au):Bool:=nK e&&among (iQ e [] []) vars
noncomputable def xA(vars:List (List UInt8))(e:au):Bool:=kR vars&&BA vars e
noncomputable def kF(vars:List (List UInt8))(b:aS):Bool:=(validName b.aZ&&lF b.fType)&&(!tQ b.fType&&among (kr [] b.fType) vars)
noncomputable def nX(vars:List (List UInt8))(bs:List aS):Bool:=dec (bs.length<=4)&&bs.all (kF vars)
theorem FB{xs:List aS}{t:aS}(h:t∈xs):t.sz<=bA (xs.map aS.enc):=gD (List.mem_map_of_mem h)
theorem bN.sum(x:bN):x.fName.length+(x.aV.length+bA (x.aV.map ak.enc))+x.bR.sz+(x.aW.length+bA (x.aW.map encS))+x.fBody.sz<=x.sz:=by
 simp only[bN.sz,bN.aB,bG,bQ,D.sz,List.length_map,ak.bZ,au.bZ];omega
theorem aS.sum(x:aS):x.aZ.length+x.fType.sz<=x.sz:=by
 simp only[aS.sz,aS.aB,bG,bQ,D.sz,List.length_map,ak.bZ];omega
theorem Qg(e:au)(h:e.sz<=4194304):(iQ e [] []).length<=1073741824:=by
 have h1:=qY e [] [];have h2:=au.jQ e;simp at h1;omega
theorem Ws(t:ak)(h:t.sz<=4194304):(kr [] t).length<=1073741824:=by
 have h1:=xg t [];have h2:=_root_.Go.Ab.jQ t;simp at h1;omega
theorem Gn(vars:List (List UInt8))(t:ak):iV vars t=(lF t&&among (kr [] t) vars):=rfl
theorem Zg(vars:List (List UInt8))(e:au)(hv:vars.length<=1073741824)(hs:∀s∈vars,s.length<=4194304)(hsz:e.sz<=4194304):aG prog 49 [.c (.d (.sl (vars.map encS))),e.v] (.c (.d (.b (xA vars e)))):=fun S=>by
 refine zcx [.tmp 4] func49 ntmps49 ?_;simp -implicitDefEqProofs (disch:=omega) only[go_sem];refine ay (AL vars hv hs) ?_;simp -implicitDefEqProofs (disch:=omega) only[go_sem]<;>(repeat(with_reducible refine And.intro ?_ ?_;focus first|omega|rfl|assumption|exact⟨_,rfl,rfl⟩|(simp;omega)|(simp;done)))
 with_reducible refine aA (fun hb=> ?_) (fun hb=> ?_)<;>have h:=hb<;>(try simp only[wf_preprocess] at h)<;>simp -implicitDefEqProofs (disch:=omega) only[go_sem,hb]<;>(repeat(with_reducible refine And.intro ?_ ?_;focus first|omega|rfl|assumption|exact⟨_,rfl,rfl⟩|(simp;omega)|(simp;done)))
 ·have h1:=h;refine ay (Hr e hsz) ?_;simp -implicitDefEqProofs (disch:=omega) only[go_sem]<;>(repeat(with_reducible refine And.intro ?_ ?_;focus first|omega|rfl|assumption|exact⟨_,rfl,rfl⟩|(simp;omega)|(simp;done)))
  with_reducible refine aA (fun hb=> ?_) (fun hb=> ?_)<;>have h:=hb<;>(try simp only[wf_preprocess] at h)<;>simp -implicitDefEqProofs (disch:=omega) only[go_sem,hb]<;>(repeat(with_reducible refine And.intro ?_ ?_;focus first|omega|rfl|assumption|exact⟨_,rfl,rfl⟩|(simp;omega)|(simp;done)))
  ·have h2:=h;refine ay (JX e hsz) ?_;simp -implicitDefEqProofs (disch:=omega) only[go_sem]<;>(repeat(with_reducible refine And.intro ?_ ?_;focus first|omega|rfl|assumption|exact⟨_,rfl,rfl⟩|(simp;omega)|(simp;done)));refine ay (AO _ vars (Qg e hsz) hv) ?_;simp -implicitDefEqProofs (disch:=omega) only[go_sem]<;>(repeat(with_reducible refine And.intro ?_ ?_;focus first|omega|rfl|assumption|exact⟨_,rfl,rfl⟩|(simp;omega)|(simp;done)));exact aQ (by unfold xA BA;rw[h1,h2];rfl)
  ·exact aQ (by unfold xA BA;rw[h];simp)
 ·exact aQ (by unfold xA;rw[h];rfl)
theorem Wt(vars:List (List UInt8))(e:au)(hv:vars.length<=1073741824)(hsz:e.sz<=4194304):aG prog 55 [e.v,.c (.d (.sl (vars.map encS)))] (.c (.d (.b (BA vars e)))):=fun S=>by
 have hlen:=Qg e hsz;refine zcx [.tmp 4] func55 ntmps55 ?_;simp -implicitDefEqProofs (disch:=omega) only[go_sem];refine ay (JY e hsz) ?_;simp -implicitDefEqProofs (disch:=omega) only[go_sem]<;>(repeat(with_reducible refine And.intro ?_ ?_;focus first|omega|rfl|assumption|exact⟨_,rfl,rfl⟩|(simp;omega)|(simp;done)));unfold BA;generalize iQ e [] []=xs at hlen ⊢
 refine bC (ι:=Nat) zmx rfl [1,2,5,6] (fun i=>[.c (.d (.sl (vars.map encS))),.c (.ptr (0,0) 0),.c (.d (.sl (xs.map encS))),.c (.d (.i .i64 i))]) (fun _=>[.box (e.enc.map .d)]::S)
  (fun i=>i<=xs.length/\among (xs.drop i) vars=among xs vars) (fun i=>xs.length-i) 0 rfl ?_ ⟨Nat.zero_le _,rfl⟩ ?_
 ·simp -implicitDefEqProofs (disch:=omega) only[go_sem]
 rintro i ⟨p1,p2⟩;simp -implicitDefEqProofs (disch:=omega) only[go_sem,encS]
 with_reducible refine aA (fun hb=> ?_) (fun hb=> ?_)<;>have h:=hb<;>(try simp only[wf_preprocess] at h)<;>simp -implicitDefEqProofs (disch:=omega) only[go_sem,hb,encS]<;>(repeat(with_reducible refine And.intro ?_ ?_;focus first|omega|rfl|assumption|exact⟨_,rfl,rfl⟩|(simp;omega)|(simp;done)))
 ·have hi:i<xs.length:=by omega
  rw[List.drop_eq_getElem_cons hi] at p2;have p3:among xs vars=(dec (xs[i]∈vars)&&among (xs.drop (i+1)) vars):=p2.symm
  (repeat(with_reducible refine And.intro ?_ ?_;focus first|omega|rfl|assumption|exact⟨_,rfl,rfl⟩|(simp;omega)|(simp;done)))
  refine ay (qM vars xs[i] hv) ?_;simp -implicitDefEqProofs (disch:=omega) only[go_sem]<;>(repeat(with_reducible refine And.intro ?_ ?_;focus first|omega|rfl|assumption|exact⟨_,rfl,rfl⟩|(simp;omega)|(simp;done)))
  with_reducible refine aA (fun hb=> ?_) (fun hb=> ?_)<;>have h:=hb<;>(try simp only[wf_preprocess] at h)<;>simp -implicitDefEqProofs (disch:=omega) only[go_sem,hb]<;>(repeat(with_reducible refine And.intro ?_ ?_;focus first|omega|rfl|assumption|exact⟨_,rfl,rfl⟩|(simp;omega)|(simp;done)))
  ·exact aQ (by rw[p3,bJ h];simp)
  ·exact cO (i+1) (by omega) rfl rfl ⟨by omega,by rw[p3,dx h];rfl⟩
 ·rw[List.drop_of_length_le (by omega)] at p2;have p3:among xs vars=true:=p2.symm
  (repeat(with_reducible refine And.intro ?_ ?_;focus first|omega|rfl|assumption|exact⟨_,rfl,rfl⟩|(simp;omega)|(simp;done)))
  refine ay (Ht e hsz) ?_;simp -implicitDefEqProofs (disch:=omega) only[go_sem]<;>(repeat(with_reducible refine And.intro ?_ ?_;focus first|omega|rfl|assumption|exact⟨_,rfl,rfl⟩|(simp;omega)|(simp;done)));exact aQ (by rw[p3];simp)
theorem JZ(vars:List (List UInt8))(hv:vars.length<=1073741824)(rest:List Ab.Obj)(S:Store)(b:aS)(hb:b.sz<=4194304):kW prog 111 [((0,0),0)] ((.box [.d (.sl (vars.map encS))]::rest)::S) [b.v] (.c (.d (.b (!kF vars b)))):=fun F=>by
 have hs:=aS.sum b;refine zcx [.tmp 3] func111 ntmps111 ?_;simp -implicitDefEqProofs (disch:=omega) only[go_sem];refine ay (FL b (by omega) (by omega)) ?_;simp -implicitDefEqProofs (disch:=omega) only[go_sem]<;>(repeat(with_reducible refine And.intro ?_ ?_;focus first|omega|rfl|assumption|exact⟨_,rfl,rfl⟩|(simp;omega)|(simp;done)))
 with_reducible refine aA (fun hb=> ?_) (fun hb=> ?_)<;>have h:=hb<;>(try simp only[wf_preprocess] at h)<;>simp -implicitDefEqProofs (disch:=omega) only[go_sem,hb]<;>(repeat(with_reducible refine And.intro ?_ ?_;focus first|omega|rfl|assumption|exact⟨_,rfl,rfl⟩|(simp;omega)|(simp;done)))
 ·exact aQ (by unfold kF;rw[h];rfl)
 have h1:=h
 (repeat(with_reducible refine And.intro ?_ ?_;focus first|omega|rfl|assumption|exact⟨_,rfl,rfl⟩|(simp;omega)|(simp;done)))
 refine ay (KY b.fType (by omega)) ?_;simp -implicitDefEqProofs (disch:=omega) only[go_sem]<;>(repeat(with_reducible refine And.intro ?_ ?_;focus first|omega|rfl|assumption|exact⟨_,rfl,rfl⟩|(simp;omega)|(simp;done)))
 with_reducible refine aA (fun hb=> ?_) (fun hb=> ?_)<;>have h:=hb<;>(try simp only[wf_preprocess] at h)<;>simp -implicitDefEqProofs (disch:=omega) only[go_sem,hb]<;>(repeat(with_reducible refine And.intro ?_ ?_;focus first|omega|rfl|assumption|exact⟨_,rfl,rfl⟩|(simp;omega)|(simp;done)))
 ·exact aQ (by unfold kF;rw[h];simp)
 have h2:=h
 (repeat(with_reducible refine And.intro ?_ ?_;focus first|omega|rfl|assumption|exact⟨_,rfl,rfl⟩|(simp;omega)|(simp;done)))
 refine ay (Ad b.fType (by omega)) ?_;simp -implicitDefEqProofs (disch:=omega) only[go_sem]<;>(repeat(with_reducible refine And.intro ?_ ?_;focus first|omega|rfl|assumption|exact⟨_,rfl,rfl⟩|(simp;omega)|(simp;done)));refine ay (AO _ vars (Ws _ (by omega)) hv) ?_;simp -implicitDefEqProofs (disch:=omega) only[go_sem]<;>(repeat(with_reducible refine And.intro ?_ ?_;focus first|omega|rfl|assumption|exact⟨_,rfl,rfl⟩|(simp;omega)|(simp;done)));exact aQ (by unfold kF;rw[h1,h2];simp)
theorem Qh(bs:List aS)(vars:List (List UInt8))(hl:bs.length<=1073741824)(hz:∀b∈bs,b.sz<=4194304)(hv:vars.length<=1073741824):aG prog 45 [.c (.d (.sl (bs.map aS.enc))),.c (.d (.sl (vars.map encS)))] (.c (.d (.b (nX vars bs)))):=fun S=>by
 have ha:(bs.any fun t=> !kF vars t)= !bs.all (kF vars):=by rw[List.not_all_eq_any_not]
 refine zcx [.tmp 4] func45 ntmps45 ?_;simp -implicitDefEqProofs (disch:=omega) only[go_sem]
 with_reducible refine aA (fun hb=> ?_) (fun hb=> ?_)<;>have h:=hb<;>(try simp only[wf_preprocess] at h)<;>simp -implicitDefEqProofs (disch:=omega) only[go_sem,hb]<;>(repeat(with_reducible refine And.intro ?_ ?_;focus first|omega|rfl|assumption|exact⟨_,rfl,rfl⟩|(simp;omega)|(simp;done)))
 ·have h1:=h
  (repeat(with_reducible refine And.intro ?_ ?_;focus first|omega|rfl|assumption|exact⟨_,rfl,rfl⟩|(simp;omega)|(simp;done)))
  refine aX rfl (Cw 111 [((0,0),0)] _ bs (fun t=> !kF vars t) hl fun t hx=>JZ vars hv [] S t (hz t hx)) ?_;simp -implicitDefEqProofs (disch:=omega) only[go_sem];rw[ha];exact aQ (by unfold nX;rw[dx (by omega)];simp)
 ·exact aQ (by unfold nX;rw[bJ (by omega)];rfl)
theorem Sg(bs:List aS)(vars:List (List UInt8))(hl:bs.length<=1073741824)(hz:∀b∈bs,b.sz<=4194304)(hv:vars.length<=1073741824):aG prog 54 [.c (.d (.sl (bs.map aS.enc))),.c (.d (.sl (vars.map encS)))] (.c (.d (.b (nX vars bs)))):=fun S=>by
 refine zcx [.tmp 4] func54 ntmps54 ?_;simp -implicitDefEqProofs (disch:=omega) only[go_sem]
 refine bC (ι:=Nat) zmx rfl [0,1,5] (fun i=>[.c (.d (.sl (bs.map aS.enc))),.c (.d (.sl (vars.map encS))),.c (.d (.i .i64 i))]) (fun _=>[]::S)
  (fun i=>i<=bs.length/\(bs.drop i).all (kF vars)=bs.all (kF vars)) (fun i=>bs.length-i) 0 rfl rfl ⟨Nat.zero_le _,rfl⟩ ?_
 rintro i ⟨p1,p2⟩;simp -implicitDefEqProofs (disch:=omega) only[go_sem]
 with_reducible refine aA (fun hb=> ?_) (fun hb=> ?_)<;>have h:=hb<;>(try simp only[wf_preprocess] at h)<;>simp -implicitDefEqProofs (disch:=omega) only[go_sem,hb]<;>(repeat(with_reducible refine And.intro ?_ ?_;focus first|omega|rfl|assumption|exact⟨_,rfl,rfl⟩|(simp;omega)|(simp;done)))
 ·have hi:i<bs.length:=by omega
  have hb:=hz _ (List.getElem_mem hi);have hs:=aS.sum bs[i];rw[List.drop_eq_getElem_cons hi,List.all_cons] at p2;have no:kF vars bs[i]=false->V.c (.d (.b false))=V.c (.d (.b (nX vars bs))):=fun h=>aQ (by unfold nX;rw[<-p2,h];simp)
  (repeat(with_reducible refine And.intro ?_ ?_;focus first|omega|rfl|assumption|exact⟨_,rfl,rfl⟩|(simp;omega)|(simp;done)))
  refine ay (FK bs[i] (by omega) (by omega)) ?_;simp -implicitDefEqProofs (disch:=omega) only[go_sem]<;>(repeat(with_reducible refine And.intro ?_ ?_;focus first|omega|rfl|assumption|exact⟨_,rfl,rfl⟩|(simp;omega)|(simp;done)))
  with_reducible refine aA (fun hb=> ?_) (fun hb=> ?_)<;>have h:=hb<;>(try simp only[wf_preprocess] at h)<;>simp -implicitDefEqProofs (disch:=omega) only[go_sem,hb]<;>(repeat(with_reducible refine And.intro ?_ ?_;focus first|omega|rfl|assumption|exact⟨_,rfl,rfl⟩|(simp;omega)|(simp;done)))
  ·exact no (by unfold kF;rw[h];rfl)
  have h1:=h
  (repeat(with_reducible refine And.intro ?_ ?_;focus first|omega|rfl|assumption|exact⟨_,rfl,rfl⟩|(simp;omega)|(simp;done)))
  refine ay (Cy bs[i].fType vars (by omega) hv) ?_;simp -implicitDefEqProofs (disch:=omega) only[go_sem]<;>(repeat(with_reducible refine And.intro ?_ ?_;focus first|omega|rfl|assumption|exact⟨_,rfl,rfl⟩|(simp;omega)|(simp;done)))
  with_reducible refine aA (fun hb=> ?_) (fun hb=> ?_)<;>have h:=hb<;>(try simp only[wf_preprocess] at h)<;>simp -implicitDefEqProofs (disch:=omega) only[go_sem,hb]<;>(repeat(with_reducible refine And.intro ?_ ?_;focus first|omega|rfl|assumption|exact⟨_,rfl,rfl⟩|(simp;omega)|(simp;done)))
  ·exact no (by unfold kF;rw[Gn] at h;rw[Bool.and_eq_true] at h1;rw[h1.2,Bool.true_and] at h;rw[h];simp)
  have h2:=h
  (repeat(with_reducible refine And.intro ?_ ?_;focus first|omega|rfl|assumption|exact⟨_,rfl,rfl⟩|(simp;omega)|(simp;done)))
  refine ay (KX bs[i].fType (by omega)) ?_;simp -implicitDefEqProofs (disch:=omega) only[go_sem]<;>(repeat(with_reducible refine And.intro ?_ ?_;focus first|omega|rfl|assumption|exact⟨_,rfl,rfl⟩|(simp;omega)|(simp;done)))
  with_reducible refine aA (fun hb=> ?_) (fun hb=> ?_)<;>have h:=hb<;>(try simp only[wf_preprocess] at h)<;>simp -implicitDefEqProofs (disch:=omega) only[go_sem,hb]<;>(repeat(with_reducible refine And.intro ?_ ?_;focus first|omega|rfl|assumption|exact⟨_,rfl,rfl⟩|(simp;omega)|(simp;done)))
  ·exact no (by unfold kF;rw[h];simp)
  have h3:=h;rw[Gn,Bool.and_eq_true] at h2;exact cO (i+1) (by omega) rfl rfl ⟨by omega,by rw[<-p2];unfold kF;rw[h1,h2.2,h3];rfl⟩
 ·rw[List.drop_of_length_le (by omega)] at p2;exact aQ (by unfold nX;rw[<-p2,kX];simp only[List.all_nil,Bool.and_true];exact lC ⟨fun h=>by omega,fun h=>by omega⟩)
def oI(f:aO):List (List UInt8):=f.aV.map bq.fName
def J2(f:aO):List ak:=f.aV.map bq.fType
noncomputable def jT(f:aO):Bool:=
 validName f.fName&&(dec (f.aW.length<=3)&&(kR f.aW&&(nX f.aW f.dQ&&(dec (f.aV.length<=5)&&(qQ f.aW (J2 f)&&(iV f.aW f.bR&&xA (oI f) f.fBody))))))
theorem aO.sum(x:aO):x.fName.length+(x.aW.length+bA (x.aW.map encS))+(x.dQ.length+bA (x.dQ.map aS.enc))+(x.aV.length+bA (x.aV.map bq.enc))+x.bR.sz+x.fBody.sz<=x.sz:=by
 simp only[aO.sz,aO.aB,bG,bQ,D.sz,List.length_map,ak.bZ,au.bZ];omega
theorem bq.sum(x:bq):x.fName.length+x.fType.sz<=x.sz:=by
 simp only[bq.sz,bq.aB,bG,bQ,D.sz,List.length_map,ak.bZ];omega
theorem FC{xs:List bq}{t:bq}(h:t∈xs):t.sz<=bA (xs.map bq.enc):=gD (List.mem_map_of_mem h)
theorem Ng(ps:List bq)(hl:ps.length<=1073741823):aG prog 50 [.c (.d (.sl (ps.map bq.enc)))] (.c (.d (.sl ((ps.map bq.fName).map encS)))):=fun S=>by
 refine zcx [.tmp 2] func50 ntmps50 ?_;simp -implicitDefEqProofs (disch:=omega) only[go_sem]
 (repeat(with_reducible refine And.intro ?_ ?_;focus first|omega|rfl|assumption|exact⟨_,rfl,rfl⟩|(simp;omega)|(simp;done)))
 refine uR 3 1 [] rfl (by simp) ?_
 refine bC (ι:=Nat×List (List UInt8)) zmx rfl [3,7,8,9] (fun y=>[.c (.bL (0,0) (y.2.map encS)),.c (.d (.sl (ps.map bq.enc))),.c (.d (.i .i64 ps.length)),.c (.d (.i .i64 y.1))]) (fun y=>[.tok 1 (y.2.map encS)]::S)
  (fun y=>y.1<=ps.length/\y.2=(ps.map bq.fName).take y.1) (fun y=>ps.length-y.1) (0,[]) rfl rfl ⟨Nat.zero_le _,rfl⟩ ?_
 rintro⟨i,names⟩ ⟨p1,p2⟩;simp only at p1 p2
 have pl:names.length<=ps.length:=by rw[p2];simp;omega
 simp -implicitDefEqProofs (disch:=omega) only[go_sem]
 with_reducible refine aA (fun hb=> ?_) (fun hb=> ?_)<;>have h:=hb<;>(try simp only[wf_preprocess] at h)<;>simp -implicitDefEqProofs (disch:=omega) only[go_sem,hb]<;>(repeat(with_reducible refine And.intro ?_ ?_;focus first|omega|rfl|assumption|exact⟨_,rfl,rfl⟩|(simp;omega)|(simp;done)))
 ·have hi:i<ps.length:=by omega
  (repeat(with_reducible refine And.intro ?_ ?_;focus first|omega|rfl|assumption|exact⟨_,rfl,rfl⟩|(simp;omega)|(simp;done)))
  rw[show List.map encS names++[[D.s ps[i].fName]]=List.map encS (names++[ps[i].fName]) by simp[encS]];exact dM 1 (by decide) (i+1,names++[ps[i].fName]) (by simp only;omega) rfl rfl rfl rfl ⟨by simp only;omega,by simp only;rw[p2,qR (by simpa using hi)];simp⟩
 ·rw[List.take_of_length_le (by simp;omega)] at p2;rw[p2]
theorem Nh(ps:List bq)(hl:ps.length<=1073741823):aG prog 47 [.c (.d (.sl (ps.map bq.enc)))] (.c (.d (.sl ((ps.map bq.fType).map ak.enc)))):=fun S=>by
 refine zcx [.tmp 2] func47 ntmps47 ?_;simp -implicitDefEqProofs (disch:=omega) only[go_sem]
 (repeat(with_reducible refine And.intro ?_ ?_;focus first|omega|rfl|assumption|exact⟨_,rfl,rfl⟩|(simp;omega)|(simp;done)))
 refine uR 3 3 [] rfl (by simp) ?_
 refine bC (ι:=Nat×List ak) zmx rfl [3,7,8,9] (fun y=>[.c (.bL (0,0) (y.2.map ak.enc)),.c (.d (.sl (ps.map bq.enc))),.c (.d (.i .i64 ps.length)),.c (.d (.i .i64 y.1))]) (fun y=>[.tok 3 (y.2.map ak.enc)]::S)
  (fun y=>y.1<=ps.length/\y.2=(ps.map bq.fType).take y.1) (fun y=>ps.length-y.1) (0,[]) rfl rfl ⟨Nat.zero_le _,rfl⟩ ?_
 rintro⟨i,names⟩ ⟨p1,p2⟩;simp only at p1 p2
 have pl:names.length<=ps.length:=by rw[p2];simp;omega
 simp -implicitDefEqProofs (disch:=omega) only[go_sem]
 with_reducible refine aA (fun hb=> ?_) (fun hb=> ?_)<;>have h:=hb<;>(try simp only[wf_preprocess] at h)<;>simp -implicitDefEqProofs (disch:=omega) only[go_sem,hb]<;>(repeat(with_reducible refine And.intro ?_ ?_;focus first|omega|rfl|assumption|exact⟨_,rfl,rfl⟩|(simp;omega)|(simp;done)))
 ·have hi:i<ps.length:=by omega
  (repeat(with_reducible refine And.intro ?_ ?_;focus first|omega|rfl|assumption|exact⟨_,rfl,rfl⟩|(simp;omega)|(simp;done)))
  rw[show List.map ak.enc names++[[D.i .i64 ps[i].fType.aH,D.s ps[i].fType.fName,D.sl (ps[i].fType.fArgs.map ak.enc)]]=List.map ak.enc (names++[ps[i].fType]) by simp[ak.aB]];exact dM 1 (by decide) (i+1,names++[ps[i].fType]) (by simp only;omega) rfl rfl rfl rfl ⟨by simp only;omega,by simp only;rw[p2,qR (by simpa using hi)];simp⟩
 ·rw[List.take_of_length_le (by simp;omega)] at p2;rw[p2]
theorem rM(f:aO)(hsz:f.sz<=4194304):aG prog 11 [f.v] (.c (.d (.b (jT f)))):=fun S=>by
 have hs:=aO.sum f
 have hV:∀s∈f.aW,s.length<=4194304:=fun s h=>by have:=Jt h;omega
 have hW:∀b∈f.dQ,b.sz<=4194304:=fun b h=>by have:=FB h;omega
 have hP:∀p∈f.aV,p.sz<=4194304:=fun m h=>by have:=FC h;omega
 have hpt:∀t∈f.aV.map bq.fType,t.sz<=4194304:=fun t h=>by
  obtain⟨p,hp,e⟩:=List.mem_map.1 h;have:=hP p hp;have:=bq.sum p;rw[<-e];omega
 have hpn:∀s∈f.aV.map bq.fName,s.length<=4194304:=fun t h=>by
  obtain⟨p,hp,e⟩:=List.mem_map.1 h;have:=hP p hp;have:=bq.sum p;rw[<-e];omega
 have hpl:(f.aV.map bq.fName).length=f.aV.length:=by simp
 have hpl':(f.aV.map bq.fType).length=f.aV.length:=by simp
 refine zcx [.tmp 2] func11 ntmps11 ?_;simp -implicitDefEqProofs (disch:=omega) only[go_sem]
 repeat' (first
  |with_reducible refine aA (fun hb=> ?_) (fun hb=> ?_)<;>have h:=hb<;>(try simp only[wf_preprocess] at h)<;>simp -implicitDefEqProofs (disch:=omega) only[go_sem,hb]<;>(repeat(with_reducible refine And.intro ?_ ?_;focus first|omega|rfl|assumption|exact⟨_,rfl,rfl⟩|(simp;omega)|(simp;done)))
  |((with_reducible show gB _ _ 43 _ _ _ _);refine ay (jJ f.fName (by omega)) ?_;simp -implicitDefEqProofs (disch:=omega) only[go_sem])
  |((with_reducible show gB _ _ 44 _ _ _ _);refine ay (AL f.aW (by omega) hV) ?_;simp -implicitDefEqProofs (disch:=omega) only[go_sem])
  |((with_reducible show gB _ _ 45 _ _ _ _);refine ay (Qh f.dQ f.aW (by omega) hW (by omega)) ?_;simp -implicitDefEqProofs (disch:=omega) only[go_sem])
  |((with_reducible show gB _ _ 47 _ _ _ _);refine ay (Nh f.aV (by omega)) ?_;simp -implicitDefEqProofs (disch:=omega) only[go_sem])
  |((with_reducible show gB _ _ 46 _ _ _ _);refine ay (Jw (f.aV.map bq.fType) f.aW (by omega) hpt (by omega)) ?_;simp -implicitDefEqProofs (disch:=omega) only[go_sem])
  |((with_reducible show gB _ _ 48 _ _ _ _);refine ay (Dk f.bR f.aW (by omega) (by omega)) ?_;simp -implicitDefEqProofs (disch:=omega) only[go_sem])
  |((with_reducible show gB _ _ 50 _ _ _ _);refine ay (Ng f.aV (by omega)) ?_;simp -implicitDefEqProofs (disch:=omega) only[go_sem])
  |((with_reducible show gB _ _ 49 _ _ _ _);refine ay (Zg (f.aV.map bq.fName) f.fBody (by omega) hpn (by omega)) ?_;simp -implicitDefEqProofs (disch:=omega) only[go_sem])
  |(refine aQ ?_;unfold jT J2 oI;grind [iR,mV,dx,bJ]))
theorem vR(f:aO)(hsz:f.sz<=4194304):aG prog 12 [f.v] (.c (.d (.b (jT f)))):=fun S=>by
 have hs:=aO.sum f
 have hV:∀s∈f.aW,s.length<=4194304:=fun s h=>by have:=Jt h;omega
 have hW:∀b∈f.dQ,b.sz<=4194304:=fun b h=>by have:=FB h;omega
 have hP:∀p∈f.aV,p.sz<=4194304:=fun m h=>by have:=FC h;omega
 have hpn:∀s∈oI f,s.length<=4194304:=fun t h=>by
  obtain⟨p,hp,e⟩:=List.mem_map.1 h;have:=hP p hp;have:=bq.sum p;rw[<-e];omega
 have hnl:(oI f).length=f.aV.length:=by simp[oI]
 have bad:∀i,∀hi:i<f.aV.length,iV f.aW f.aV[i].fType=false->V.c (.d (.b false))=V.c (.d (.b (jT f))):=fun i hi h=>aQ (by
  have:qQ f.aW (J2 f)=false:=Bool.eq_false_iff.2 fun hx=>by
   have:=List.all_eq_true.1 hx f.aV[i].fType (List.mem_map_of_mem (List.getElem_mem hi));rw[h] at this;cases this
  unfold jT
  rw[this];simp)
 refine zcx [.tmp 2] func12 ntmps12 ?_;simp -implicitDefEqProofs (disch:=omega) only[go_sem]
 (repeat(with_reducible refine And.intro ?_ ?_;focus first|omega|rfl|assumption|exact⟨_,rfl,rfl⟩|(simp;omega)|(simp;done)))
 refine uR 3 1 [] rfl (by simp) ?_
 refine bC (ι:=Nat×List (List UInt8)) zmx rfl [1,3,4] (fun y=>[.c (.ptr (0,0) 0),.c (.bL (0,1) (y.2.map encS)),.c (.d (.i .i64 y.1))]) (fun y=>[.box (f.enc.map .d),.tok 1 (y.2.map encS)]::S)
  (fun y=>y.1<=f.aV.length/\y.2=(oI f).take y.1/\∀j,∀hj:j<f.aV.length,j<y.1->iV f.aW f.aV[j].fType=true) (fun y=>f.aV.length-y.1) (0,[]) rfl ?_ ⟨Nat.zero_le _,rfl,fun j _ h=>by simp only at h;omega⟩ ?_
 ·simp -implicitDefEqProofs (disch:=omega) only[go_sem]
 rintro⟨i,names⟩ ⟨p1,p2,p3⟩;simp only at p1 p2 p3
 have pl:names.length<=f.aV.length:=by rw[p2];simp[oI];omega
 simp -implicitDefEqProofs (disch:=omega) only[go_sem]
 with_reducible refine aA (fun hb=> ?_) (fun hb=> ?_)<;>have h:=hb<;>(try simp only[wf_preprocess] at h)<;>simp -implicitDefEqProofs (disch:=omega) only[go_sem,hb]<;>(repeat(with_reducible refine And.intro ?_ ?_;focus first|omega|rfl|assumption|exact⟨_,rfl,rfl⟩|(simp;omega)|(simp;done)))
 ·have hi:i<f.aV.length:=by omega
  have hp:=hP _ (List.getElem_mem hi);have hps:=bq.sum f.aV[i]
  (repeat(with_reducible refine And.intro ?_ ?_;focus first|omega|rfl|assumption|exact⟨_,rfl,rfl⟩|(simp;omega)|(simp;done)))
  refine ay (Cy f.aV[i].fType f.aW (by omega) (by omega)) ?_;simp -implicitDefEqProofs (disch:=omega) only[go_sem]<;>(repeat(with_reducible refine And.intro ?_ ?_;focus first|omega|rfl|assumption|exact⟨_,rfl,rfl⟩|(simp;omega)|(simp;done)))
  with_reducible refine aA (fun hb=> ?_) (fun hb=> ?_)<;>have h:=hb<;>(try simp only[wf_preprocess] at h)<;>simp -implicitDefEqProofs (disch:=omega) only[go_sem,hb]<;>(repeat(with_reducible refine And.intro ?_ ?_;focus first|omega|rfl|assumption|exact⟨_,rfl,rfl⟩|(simp;omega)|(simp;done)))
  ·exact bad i hi h
  have k3:=h
  (repeat(with_reducible refine And.intro ?_ ?_;focus first|omega|rfl|assumption|exact⟨_,rfl,rfl⟩|(simp;omega)|(simp;done)))
  rw[show List.map encS names++[[D.s f.aV[i].fName]]=List.map encS (names++[f.aV[i].fName]) by simp[encS]]
  exact cO (i+1,names++[f.aV[i].fName]) (by simp only;omega) rfl rfl ⟨by simp only;omega,by simp only;rw[p2,qR (by simpa [oI] using hi)];simp[oI],fun j hj hji=>by
   simp only at hji;by_cases e:j=i
   ·subst e;exact k3
   ·exact p3 j hj (by omega)⟩
 have hi:i=f.aV.length:=by omega
 have hn:names=oI f:=by rw[p2,List.take_of_length_le (by simp[oI];omega)]
 have hall:qQ f.aW (J2 f)=true:=List.all_eq_true.2 fun c hc=>by
  obtain⟨p,hp,e⟩:=List.mem_map.1 hc;obtain⟨j,hj,e'⟩:=List.getElem_of_mem hp;rw[<-e,<-e'];exact p3 j hj (by omega)
 clear p2 p3 bad;subst hn
 repeat' (first
  |with_reducible refine aA (fun hb=> ?_) (fun hb=> ?_)<;>have h:=hb<;>(try simp only[wf_preprocess] at h)<;>simp -implicitDefEqProofs (disch:=omega) only[go_sem,hb]<;>(repeat(with_reducible refine And.intro ?_ ?_;focus first|omega|rfl|assumption|exact⟨_,rfl,rfl⟩|(simp;omega)|(simp;done)))
  |((with_reducible show gB _ _ 52 _ _ _ _);refine ay (jK f.fName (by omega)) ?_;simp -implicitDefEqProofs (disch:=omega) only[go_sem])
  |((with_reducible show gB _ _ 53 _ _ _ _);refine ay (Gc f.aW 3 (by omega) hV) ?_;simp -implicitDefEqProofs (disch:=omega) only[go_sem])
  |((with_reducible show gB _ _ 54 _ _ _ _);refine ay (Sg f.dQ f.aW (by omega) hW (by omega)) ?_;simp -implicitDefEqProofs (disch:=omega) only[go_sem])
  |((with_reducible show gB _ _ 53 _ _ _ _);refine ay (Gc (oI f) 5 (by omega) hpn) ?_;simp -implicitDefEqProofs (disch:=omega) only[go_sem])
  |((with_reducible show gB _ _ 51 _ _ _ _);refine ay (Cy f.bR f.aW (by omega) (by omega)) ?_;simp -implicitDefEqProofs (disch:=omega) only[go_sem])
  |((with_reducible show gB _ _ 55 _ _ _ _);refine ay (Wt (oI f) f.fBody (by omega) (by omega)) ?_;simp -implicitDefEqProofs (disch:=omega) only[go_sem])
  |(refine aQ ?_;unfold jT xA;grind [iR,mV,dx,bJ]))
def CU(n:Nat)(s:St):St:=match s.st with
 |(.seed _::own)::Ω=>⟨s.tm,(.seed n::own)::Ω⟩
 |_=>s
theorem K7{N:Nat}(n:Nat)(s:St):fG N s (CU n s):=by
 obtain⟨tm,st⟩:=s;unfold CU;split
 ·rename_i h;simp only at h;subst h;exact y5 n
 ·exact fG.refl _ _
theorem Si{n m:Nat}{tm:List (Nat×V)}{own:List Obj}{Ω:Store}:CU n ⟨tm,(.seed m::own)::Ω⟩=⟨tm,(.seed n::own)::Ω⟩:=rfl
def ada(j p n:Nat)(s:St):St:=CU n (NG j p s)
theorem Sj{N:Nat}(j p n:Nat)(s:St):fG N s (ada j p n s):=(Gi j p s).trans (K7 n _)
attribute [go_sem] ada Si
def Tw:List UInt8:=[102,110]
def um(b:aS):ah:=fu [bB b.aZ,eH b.fType]
def mq(b:bq):ah:=fu [bB b.fName,eH b.fType]
def xB(f:aO):ah:=fu [bB Tw,bB f.fName,fu (aU f.aW),fu (f.dQ.map um),fu (f.aV.map mq),eH f.bR,eB f.fBody]
noncomputable def jO(f:aO):ah:=vQ (jT f) (xB f)
theorem aeD{f:aO}(h:f.sz<=1048576):(jO f).sz<=1048576:=Nat.le_trans (yK _ _) (by decide)
theorem agh(b:aS):(um b).sz<=14+16*b.sz:=by
 have:=Ej b.fType;have:=aS.sum b;rw[um,tX];simp[dz,lS];omega
theorem acj(b:bq):(mq b).sz<=14+16*b.sz:=by
 have:=Ej b.fType;have:=bq.sum b;rw[mq,tX];simp[dz,lS];omega
theorem Tx:∀l:List aS,dz (l.map um)<=14*l.length+16*bA (l.map aS.enc)
 |[]=>by simp[dz]
 |c::l=>by
  have h1:=agh c;have h2:=Tx l;rw[List.map_cons,dz,List.map_cons,bA,List.length_cons];simp only[aS.sz] at h1;omega
theorem Mq:∀l:List bq,dz (l.map mq)<=14*l.length+16*bA (l.map bq.enc)
 |[]=>by simp[dz]
 |c::l=>by
  have h1:=acj c;have h2:=Mq l;rw[List.map_cons,dz,List.map_cons,bA,List.length_cons];simp only[bq.sz] at h1;omega
theorem Qi{f:aO}(hok:gI f.fBody=true):(xB f).sz<=60+32*f.sz:=by
 have h1:=Tx f.dQ;have h2:=Mq f.aV;have h3:=Ej f.bR;have h4:=P9 f.fBody hok;have h5:=aO.sum f;rw[qj] at h5;rw[xB,tX];simp[dz,lS,tX,lI,Ei,Tw];omega
theorem FQ{vars:List (List UInt8)}{bs:List aS}(h:nX vars bs=true):∀b∈bs,formed b.fType=true:=fun b hb=>by
 unfold nX at h;rw[Bool.and_eq_true] at h;have h2:=List.all_eq_true.1 h.2 b hb;unfold kF at h2;simp only[Bool.and_eq_true] at h2;exact qU h2.1.2
theorem J3{vars:List (List UInt8)}{t:ak}(h:iV vars t=true):formed t=true:=by
 unfold iV at h;rw[Bool.and_eq_true] at h;exact qU h.1
theorem Zh{vars:List (List UInt8)}{e:au}(h:xA vars e=true):gI e=true:=by
 unfold xA BA at h;simp only[Bool.and_eq_true] at h;exact Qd h.2.1
theorem pX{f:aO}(h:jT f=true):(∀b∈f.dQ,formed b.fType=true)/\(∀q∈f.aV,formed q.fType=true)/\formed f.bR=true/\gI f.fBody=true:=by
 unfold jT at h;simp only[Bool.and_eq_true] at h;obtain⟨_,_,_,h1,_,h2,h3,h4⟩:=h;exact⟨FQ h1,fun q hq=>r9.1 (Hq h2) _ (List.mem_map_of_mem hq),J3 h3,Zh h4⟩
theorem Ni(xs:List aS)(n:Nat)(hfo:∀b∈xs,formed b.fType=true)(hlen:xs.length<=4194304)(hsz:∀b∈xs,b.sz<=4194304):aG prog 100 [.c (.d (.sl (xs.map aS.enc)))] (.agg [.d (.s []),.d (.ol n (lx (xs.map um) (n+1)))]):=fun S=>by
 obtain⟨L,hL⟩:∃L:Nat->Nat,L=fun i=>n+1+gV ((xs.map um).take i):=⟨_,rfl⟩;obtain⟨T,hT⟩:∃T:Nat->List (List D),T=fun i=>lx ((xs.map um).take i) (n+1):=⟨_,rfl⟩
 have hT0:T 0=[]:=by rw[hT];rfl
 have nN:∀i,(T i).length<=i:=fun i=>by
  rw[hT];simp only[gL];exact List.length_take_le _ _
 have hTs:∀i (hi:i<xs.length),T i++[[.s [],.ol (L i) [[.s xs[i].aZ,.ol (L i+1) []],[.s (eH xs[i].fType).aM,.ol (L i+1+1) (lx (eH xs[i].fType).aj (L i+1+1+1))]]]]=T (i+1):=fun i hi=>by
  have:=CK (l:=xs.map um) (i:=i) (by rw[List.length_map];exact hi) (n+1);rw[List.getElem_map,um,eP,dN,ql,ql,xk,ug,mP,uh] at this;rw[hT,hL];exact this
 have hTe:T xs.length=lx (xs.map um) (n+1):=by
  rw[hT];simp only
  rw[List.take_of_length_le (by simp)]
 clear hT hL;refine CF (n) 1 (rs:=[.cell 2 39]) zmx func100 ntmps100 rfl rfl rfl rfl rfl ?_;simp -implicitDefEqProofs (disch:=omega) only[go_sem]
 (repeat(with_reducible refine And.intro ?_ ?_;focus first|omega|rfl|assumption|exact⟨_,rfl,rfl⟩|(simp;omega)|(simp;done)))
 refine qd n 3 2 [] (.inl rfl) (by simp) ?_;refine Lu (L 0) ?_
 refine bC (ι:=Nat) zmx rfl [2,3,7,8,9] (fun i=>[.c (.ptr (0,2) 0),.c (.bL (0,3) (T i)),.c (.d (.sl (xs.map aS.enc))),.c (.d (.i .i64 xs.length)),.c (.d (.i .i64 i))])
  (fun i=>[.seed (L i),.seed 1,.box [.d (.s []),.bE []],.dY n 2 (T i)]::S)
  (fun i=>i<=xs.length) (fun i=>xs.length-i) 0 (by rw[hT0];rfl) (by rw[hT0];rfl) (Nat.zero_le _) ?_
 intro i hi;have hl:=nN i;simp -implicitDefEqProofs (disch:=omega) only[go_sem]
 with_reducible refine aA (fun hb=> ?_) (fun hb=> ?_)<;>have h:=hb<;>(try simp only[wf_preprocess] at h)<;>simp -implicitDefEqProofs (disch:=omega) only[go_sem,hb]<;>(repeat(with_reducible refine And.intro ?_ ?_;focus first|omega|rfl|assumption|exact⟨_,rfl,rfl⟩|(simp;omega)|(simp;done)))
 ·have hi':i<xs.length:=by omega
  have hm:=List.getElem_mem hi';have hcz:=hsz _ hm;have hce:=aS.sum xs[i];have hs:=hTs i hi'
  (repeat(with_reducible refine And.intro ?_ ?_;focus first|omega|rfl|assumption|exact⟨_,rfl,rfl⟩|(simp;omega)|(simp;done)))
  refine ay (fq _ (L i+1)) ?_;simp -implicitDefEqProofs (disch:=omega) only[go_sem];refine ay (yF xs[i].fType (L i+1+1) (hfo _ hm) (by omega)) ?_;simp -implicitDefEqProofs (disch:=omega) only[go_sem]
  (repeat(with_reducible refine And.intro ?_ ?_;focus first|omega|rfl|assumption|exact⟨_,rfl,rfl⟩|(simp;omega)|(simp;done)))
  refine ay (u7 _ _) ?_;simp -implicitDefEqProofs (disch:=omega) only[go_sem]
  (repeat(with_reducible refine And.intro ?_ ?_;focus first|omega|rfl|assumption|exact⟨_,rfl,rfl⟩|(simp;omega)|(simp;done)))
  rw[hs];refine P5 (L (i+1)) 3 (by decide) (i+1) (by omega) rfl rfl ?_ rfl (by omega);simp[lX,iN,V.refs,C.refs,nk]
 ·have hi':i=xs.length:=by omega
  refine aX rfl (kZ 0 3 _ _) ?_;simp -implicitDefEqProofs (disch:=omega) only[go_sem];rw[hi',hTe]
theorem Dm(f:aO)(n:Nat)(hv:jT f=true)(hsz:f.sz<=1048576):aG prog 35 [f.v] (.agg [.d (.s []),.d (.ol n (lx (xB f).aj (n+1)))]):=fun S=>by
 have hdz:=aO.sum f;rw[qj] at hdz;obtain⟨hf1,hf2,hf3,hf4⟩:=pX hv;obtain⟨p,hp⟩:∃p:Nat,p=n+1+1+1+zB (fu (aU f.aW))+zB (fu (f.dQ.map um)):=⟨_,rfl⟩;obtain⟨L,hL⟩:∃L:Nat->Nat,L=fun i=>p+1+gV ((f.aV.map mq).take i):=⟨_,rfl⟩;obtain⟨T,hT⟩:∃T:Nat->List (List D),T=fun i=>lx ((f.aV.map mq).take i) (p+1):=⟨_,rfl⟩
 have hT0:T 0=[]:=by rw[hT];rfl
 have nN:∀i,(T i).length<=i:=fun i=>by
  rw[hT];simp only[gL];exact List.length_take_le _ _
 have hTs:∀i (hi:i<f.aV.length),T i++[[.s [],.ol (L i) [[.s f.aV[i].fName,.ol (L i+1) []],[.s (eH f.aV[i].fType).aM,.ol (L i+1+1) (lx (eH f.aV[i].fType).aj (L i+1+1+1))]]]]=T (i+1):=fun i hi=>by
  have:=CK (l:=f.aV.map mq) (i:=i) (by rw[List.length_map];exact hi) (p+1);rw[List.getElem_map,mq,eP,dN,ql,ql,xk,ug,mP,uh] at this;rw[hT,hL];exact this
 have hTe:T f.aV.length=lx (f.aV.map mq) (p+1):=by
  rw[hT];simp only
  rw[List.take_of_length_le (by simp)]
 clear hT hL;refine CF (p) 1 (rs:=[.cell 2 39]) zmx func35 ntmps35 rfl rfl rfl rfl rfl ?_;simp -implicitDefEqProofs (disch:=omega) only[go_sem]
 (repeat(with_reducible refine And.intro ?_ ?_;focus first|omega|rfl|assumption|exact⟨_,rfl,rfl⟩|(simp;omega)|(simp;done)))
 refine qd p 3 2 [] (.inl rfl) (by simp) ?_;refine Lu (L 0) ?_;refine y7 (Sj 4 p n) ?_
 refine bC (ι:=Nat) zmx rfl [1,2,3,8,9,10] (fun i=>[.c (.ptr (0,2) 0),.c (.ptr (0,3) 0),.c (.bL (0,4) (T i)),.c (.d (.sl (f.aV.map bq.enc))),.c (.d (.i .i64 f.aV.length)),.c (.d (.i .i64 i))])
  (fun i=>[.seed (L i),.seed 1,.box [.d (.s f.fName),.d (.sl (f.aW.map encS)),.d (.sl (f.dQ.map aS.enc)),.d (.sl (f.aV.map bq.enc)),.d (.i .i64 f.bR.aH),.d (.s f.bR.fName),.d (.sl (f.bR.fArgs.map ak.enc)),.d (.i .i64 f.fBody.aH),.d (.s f.fBody.aZ),.d (.s f.fBody.fName),.d (.i .i64 f.fBody.fN),.d (.i .i64 f.fBody.fType.aH),.d (.s f.fBody.fType.fName),.d (.sl (f.fBody.fType.fArgs.map ak.enc)),.d (.sl (f.fBody.fArgs.map au.enc)),.d (.sl (f.fBody.aI.map aJ.enc))],.box [.d (.s []),.bE []],.dY p 2 (T i)]::S)
  (fun i=>i<=f.aV.length) (fun i=>f.aV.length-i) 0 (by rw[hT0];rfl) (by rw[hT0];rfl) (Nat.zero_le _) ?_
 intro i hi;have hl:=nN i;simp -implicitDefEqProofs (disch:=omega) only[go_sem]
 with_reducible refine aA (fun hb=> ?_) (fun hb=> ?_)<;>have h:=hb<;>(try simp only[wf_preprocess] at h)<;>simp -implicitDefEqProofs (disch:=omega) only[go_sem,hb]<;>(repeat(with_reducible refine And.intro ?_ ?_;focus first|omega|rfl|assumption|exact⟨_,rfl,rfl⟩|(simp;omega)|(simp;done)))
 ·have hi':i<f.aV.length:=by omega
  have hm:=List.getElem_mem hi';have hcz:=FC hm;have hce:=bq.sum f.aV[i];have hs:=hTs i hi'
  (repeat(with_reducible refine And.intro ?_ ?_;focus first|omega|rfl|assumption|exact⟨_,rfl,rfl⟩|(simp;omega)|(simp;done)))
  refine ay (fq _ (L i+1)) ?_;simp -implicitDefEqProofs (disch:=omega) only[go_sem];refine ay (yF f.aV[i].fType (L i+1+1) (hf2 _ hm) (by omega)) ?_;simp -implicitDefEqProofs (disch:=omega) only[go_sem]
  (repeat(with_reducible refine And.intro ?_ ?_;focus first|omega|rfl|assumption|exact⟨_,rfl,rfl⟩|(simp;omega)|(simp;done)))
  refine ay (u7 _ _) ?_;simp -implicitDefEqProofs (disch:=omega) only[go_sem]
  (repeat(with_reducible refine And.intro ?_ ?_;focus first|omega|rfl|assumption|exact⟨_,rfl,rfl⟩|(simp;omega)|(simp;done)))
  rw[hs];refine P5 (L (i+1)) 4 (by decide) (i+1) (by omega) rfl rfl ?_ rfl (by omega);simp[lX,iN,V.refs,C.refs,nk]
 ·have hi':i=f.aV.length:=by omega
  subst hi';rw[hTe];refine ay (fq _ (n+1)) ?_;simp -implicitDefEqProofs (disch:=omega) only[go_sem];refine ay (fq _ (n+1+1)) ?_;simp -implicitDefEqProofs (disch:=omega) only[go_sem];refine ay (Hf f.aW (by omega) (n+1+1+1)) ?_;simp -implicitDefEqProofs (disch:=omega) only[go_sem];refine ay (Ni f.dQ (n+1+1+1+zB (fu (aU f.aW))) hf1 (by omega) (fun b hb=>by have:=FB hb;omega)) ?_;simp -implicitDefEqProofs (disch:=omega) only[go_sem];refine ay (yD _) ?_;simp -implicitDefEqProofs (disch:=omega) only[go_sem];refine ay (yF f.bR (p+zB (fu (f.aV.map mq))) hf3 (by omega)) ?_;simp -implicitDefEqProofs (disch:=omega) only[go_sem];refine ay (Wd f.fBody (p+zB (fu (f.aV.map mq))+zB (eH f.bR)) hf4 (by omega)) ?_;simp -implicitDefEqProofs (disch:=omega) only[go_sem]
  (repeat(with_reducible refine And.intro ?_ ?_;focus first|omega|rfl|assumption|exact⟨_,rfl,rfl⟩|(simp;omega)|(simp;done)))
  refine ay (u7 _ _) ?_;simp -implicitDefEqProofs (disch:=omega) only[go_sem];rw[xB,dN];simp only[ql,xk,mP,uY,uZ,eP,dN,uh,<-hp,Tw]
theorem J4(x:aO)(n:Nat)(hsz:x.sz<=1048576):aG prog 8 [x.v] (.agg [.d (.s (jO x).aM),.d (.ol n (lx (jO x).aj (n+1)))]):=by
 unfold jO
 cases hv:jT x with
 |false=>
  rw[vQ];refine aG.less (fun S=> ?_) (K4 [] n);refine zcx [.cell 2 39] func8 ntmps8 ?_;simp -implicitDefEqProofs (disch:=omega) only[go_sem];refine ay (rM x (by omega)) ?_;simp -implicitDefEqProofs (disch:=omega) only[go_sem,hv]
 |true=>
  intro S;have hz:=Qi (pX hv).2.2.2;refine zcx [.cell 2 39] func8 ntmps8 ?_;simp -implicitDefEqProofs (disch:=omega) only[go_sem];refine ay (rM x (by omega)) ?_;simp -implicitDefEqProofs (disch:=omega) only[go_sem,hv];refine ay (Dm x n hv hsz) ?_;simp -implicitDefEqProofs (disch:=omega) only[go_sem];refine ay (V3 (xB x) n (by omega)) ?_;simp -implicitDefEqProofs (disch:=omega) only[go_sem];rfl
theorem Qj(xs:List aS)(hlen:xs.length<=4194304)(hsz:∀b∈xs,b.sz<=4194304):aG prog 41 [.c (.d (.sl (xs.map aS.enc)))] (.agg [.d (.s []),.d (.sl ((xs.map um).map ah.enc))]):=fun S=>by
 obtain⟨T,hT⟩:∃T:Nat->List (List D),T=fun i=>((xs.map um).take i).map ah.enc:=⟨_,rfl⟩
 have hT0:T 0=[]:=by rw[hT];rfl
 have nN:∀i,(T i).length<=i:=fun i=>by
  rw[hT];simp only[List.length_map];exact List.length_take_le _ _
 have hTs:∀i (hi:i<xs.length),T i++[[.s [],.sl [[.s xs[i].aZ,.sl []],[.s (eH xs[i].fType).aM,.sl ((eH xs[i].fType).aj.map ah.enc)]]]]=T (i+1):=fun i hi=>by
  have:=nL (base:=[]) (l:=xs.map um) (i:=i) (by rw[List.length_map];exact hi);rw[List.getElem_map,um,eP,dN,List.map_cons,List.map_cons,List.map_nil,iH,ah.aB (eH xs[i].fType)] at this;rw[hT];exact this
 have hTe:T xs.length=(xs.map um).map ah.enc:=by
  rw[hT];simp only
  rw[List.take_of_length_le (by simp)]
 clear hT;refine zcx [.cell 2 39] func41 ntmps41 ?_;simp -implicitDefEqProofs (disch:=omega) only[go_sem];refine wT 1 1 2 [] [.d (.s []),.bE []] rfl rfl (by simp) ?_
 refine bC (ι:=Nat) zmx rfl [0,2,3,4] (fun i=>[.c (.d (.sl (xs.map aS.enc))),.c (.ptr (0,0) 0),.c (.ptr (0,1) 0),.c (.d (.i .i64 i))])
  (fun i=>[.box [.d (.s []),.bE []],.box [.d (.s []),.bL (0,2) (T i)],.tok 2 (T i)]::S)
  (fun i=>i<=xs.length) (fun i=>xs.length-i) 0 rfl (by rw[hT0];rfl) (Nat.zero_le _) ?_
 intro i hi;have hl:=nN i;simp -implicitDefEqProofs (disch:=omega) only[go_sem]
 with_reducible refine aA (fun hb=> ?_) (fun hb=> ?_)<;>have h:=hb<;>(try simp only[wf_preprocess] at h)<;>simp -implicitDefEqProofs (disch:=omega) only[go_sem,hb]<;>(repeat(with_reducible refine And.intro ?_ ?_;focus first|omega|rfl|assumption|exact⟨_,rfl,rfl⟩|(simp;omega)|(simp;done)))
 ·have hi':i<xs.length:=by omega
  have hm:=List.getElem_mem hi';have hcz:=hsz _ hm;have hce:=aS.sum xs[i];have hs:=hTs i hi'
  (repeat(with_reducible refine And.intro ?_ ?_;focus first|omega|rfl|assumption|exact⟨_,rfl,rfl⟩|(simp;omega)|(simp;done)))
  refine ay (bW _) ?_;simp -implicitDefEqProofs (disch:=omega) only[go_sem]
  (repeat(with_reducible refine And.intro ?_ ?_;focus first|omega|rfl|assumption|exact⟨_,rfl,rfl⟩|(simp;omega)|(simp;done)))
  refine ay (Ah xs[i].fType (by omega)) ?_;simp -implicitDefEqProofs (disch:=omega) only[go_sem]
  (repeat(with_reducible refine And.intro ?_ ?_;focus first|omega|rfl|assumption|exact⟨_,rfl,rfl⟩|(simp;omega)|(simp;done)))
  refine ay (wF _ (by simp) (by simp)) ?_;simp -implicitDefEqProofs (disch:=omega) only[go_sem]
  (repeat(with_reducible refine And.intro ?_ ?_;focus first|omega|rfl|assumption|exact⟨_,rfl,rfl⟩|(simp;omega)|(simp;done)))
  rw[hs];exact cO (i+1) (by omega) rfl rfl (by omega)
 ·have hi':i=xs.length:=by omega
  subst hi';rw[hTe]
theorem Ai(f:aO)(hsz:f.sz<=1048576):aG prog 10 [f.v] (jO f).v:=by
 unfold jO
 cases hv:jT f with
 |false=>
  rw[vQ];refine aG.less (fun S=> ?_) (K5 [] []);refine zcx [.cell 2 39] func10 ntmps10 ?_;simp -implicitDefEqProofs (disch:=omega) only[go_sem];refine ay (vR f (by omega)) ?_;simp -implicitDefEqProofs (disch:=omega) only[go_sem,hv]
 |true=>
  intro S;have hdz:=aO.sum f;rw[qj] at hdz;obtain⟨hf1,hf2,hf3,hf4⟩:=pX hv;have hz:=Qi hf4;obtain⟨T,hT⟩:∃T:Nat->List (List D),T=fun i=>((f.aV.map mq).take i).map ah.enc:=⟨_,rfl⟩
  have hT0:T 0=[]:=by rw[hT];rfl
  have nN:∀i,(T i).length<=i:=fun i=>by
   rw[hT];simp only[List.length_map];exact List.length_take_le _ _
  have hTs:∀i (hi:i<f.aV.length),T i++[[.s [],.sl [[.s f.aV[i].fName,.sl []],[.s (eH f.aV[i].fType).aM,.sl ((eH f.aV[i].fType).aj.map ah.enc)]]]]=T (i+1):=fun i hi=>by
   have:=nL (base:=[]) (l:=f.aV.map mq) (i:=i) (by rw[List.length_map];exact hi);rw[List.getElem_map,mq,eP,dN,List.map_cons,List.map_cons,List.map_nil,iH,ah.aB (eH f.aV[i].fType)] at this;rw[hT];exact this
  have hTe:T f.aV.length=(f.aV.map mq).map ah.enc:=by
   rw[hT];simp only
   rw[List.take_of_length_le (by simp)]
  clear hT;refine zcx [.cell 2 39] func10 ntmps10 ?_;simp -implicitDefEqProofs (disch:=omega) only[go_sem];refine ay (vR f (by omega)) ?_;simp -implicitDefEqProofs (disch:=omega) only[go_sem,hv];refine wT 2 1 2 [] [.d (.s []),.bE []] rfl rfl (by simp) ?_
  refine bC (ι:=Nat) zmx rfl [1,2,3,4] (fun i=>[.c (.ptr (0,0) 0),.c (.ptr (0,1) 0),.c (.ptr (0,2) 0),.c (.d (.i .i64 i))])
   (fun i=>[.box [.d (.s f.fName),.d (.sl (f.aW.map encS)),.d (.sl (f.dQ.map aS.enc)),.d (.sl (f.aV.map bq.enc)),.d (.i .i64 f.bR.aH),.d (.s f.bR.fName),.d (.sl (f.bR.fArgs.map ak.enc)),.d (.i .i64 f.fBody.aH),.d (.s f.fBody.aZ),.d (.s f.fBody.fName),.d (.i .i64 f.fBody.fN),.d (.i .i64 f.fBody.fType.aH),.d (.s f.fBody.fType.fName),.d (.sl (f.fBody.fType.fArgs.map ak.enc)),.d (.sl (f.fBody.fArgs.map au.enc)),.d (.sl (f.fBody.aI.map aJ.enc))],.box [.d (.s []),.bE []],.box [.d (.s []),.bL (0,3) (T i)],.tok 2 (T i)]::S)
   (fun i=>i<=f.aV.length) (fun i=>f.aV.length-i) 0 rfl (by rw[hT0];rfl) (Nat.zero_le _) ?_
  intro i hi;have hl:=nN i;simp -implicitDefEqProofs (disch:=omega) only[go_sem]
  with_reducible refine aA (fun hb=> ?_) (fun hb=> ?_)<;>have h:=hb<;>(try simp only[wf_preprocess] at h)<;>simp -implicitDefEqProofs (disch:=omega) only[go_sem,hb]<;>(repeat(with_reducible refine And.intro ?_ ?_;focus first|omega|rfl|assumption|exact⟨_,rfl,rfl⟩|(simp;omega)|(simp;done)))
  ·have hi':i<f.aV.length:=by omega
   have hm:=List.getElem_mem hi';have hcz:=FC hm;have hce:=bq.sum f.aV[i];have hs:=hTs i hi'
   (repeat(with_reducible refine And.intro ?_ ?_;focus first|omega|rfl|assumption|exact⟨_,rfl,rfl⟩|(simp;omega)|(simp;done)))
   refine ay (bW _) ?_;simp -implicitDefEqProofs (disch:=omega) only[go_sem]
   (repeat(with_reducible refine And.intro ?_ ?_;focus first|omega|rfl|assumption|exact⟨_,rfl,rfl⟩|(simp;omega)|(simp;done)))
   refine ay (Ah f.aV[i].fType (by omega)) ?_;simp -implicitDefEqProofs (disch:=omega) only[go_sem]
   (repeat(with_reducible refine And.intro ?_ ?_;focus first|omega|rfl|assumption|exact⟨_,rfl,rfl⟩|(simp;omega)|(simp;done)))
   refine ay (wF _ (by simp) (by simp)) ?_;simp -implicitDefEqProofs (disch:=omega) only[go_sem]
   (repeat(with_reducible refine And.intro ?_ ?_;focus first|omega|rfl|assumption|exact⟨_,rfl,rfl⟩|(simp;omega)|(simp;done)))
   rw[hs];exact cO (i+1) (by omega) rfl rfl (by omega)
  ·have hi':i=f.aV.length:=by omega
   subst hi';rw[hTe];refine ay (bW _) ?_;simp -implicitDefEqProofs (disch:=omega) only[go_sem];refine ay (bW _) ?_;simp -implicitDefEqProofs (disch:=omega) only[go_sem];refine ay (JL f.aW (by omega)) ?_;simp -implicitDefEqProofs (disch:=omega) only[go_sem];refine ay (Qj f.dQ (by omega) (fun b hb=>by have:=FB hb;omega)) ?_;simp -implicitDefEqProofs (disch:=omega) only[go_sem];refine ay (Ah f.bR (by omega)) ?_;simp -implicitDefEqProofs (disch:=omega) only[go_sem];refine ay (Zd f.fBody hf4 (by omega)) ?_;simp -implicitDefEqProofs (disch:=omega) only[go_sem]
   (repeat(with_reducible refine And.intro ?_ ?_;focus first|omega|rfl|assumption|exact⟨_,rfl,rfl⟩|(simp;omega)|(simp;done)))
   refine ay (wF _ (by simp) (by simp)) ?_;simp -implicitDefEqProofs (disch:=omega) only[go_sem]
   (repeat(with_reducible refine And.intro ?_ ?_;focus first|omega|rfl|assumption|exact⟨_,rfl,rfl⟩|(simp;omega)|(simp;done)))
   have hI:=Y4 true (xB f) (by omega)
   have hx:(xB f).v=V.agg [.d (.s []),.d (.sl [[.s [102,110],.sl []],[.s f.fName,.sl []],[.s [],.sl ((aU f.aW).map ah.enc)],[.s [],.sl ((f.dQ.map um).map ah.enc)],[.s [],.sl ((f.aV.map mq).map ah.enc)],[.s (eH f.bR).aM,.sl ((eH f.bR).aj.map ah.enc)],[.s (eB f.fBody).aM,.sl ((eB f.fBody).aj.map ah.enc)]])]:=by
    rw[xB];show V.agg [.d (.s []),.d (.sl (List.map ah.enc _))]=_;simp only[dN,List.map_cons,List.map_nil,iH,ab9,ah.aB (eH f.bR),ah.aB (eB f.fBody),Tw]
   rw[hx] at hI;refine ay hI ?_;simp -implicitDefEqProofs (disch:=omega) only[go_sem]
end Go.Ab