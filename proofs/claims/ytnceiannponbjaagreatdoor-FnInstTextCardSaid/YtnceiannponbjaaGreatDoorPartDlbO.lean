/-
  SEVERAL TEXTS IN ONE (merged by program): contracts and models, each with its own heading.
-/
import Derived.Test.YtnceiannponbjaaGreatDoorPartDlbE
import Derived.Test.YtnceiannponbjaaGreatDoorPartDlbI
import Derived.Test.YtnceiannponbjaaGreatDoorPartDlbL
import Derived.Test.YtnceiannponbjaaGreatDoorPartDlbN
set_option maxHeartbeats 8000000
open Go.Proofs Go.Proofs.Tryz
set_option linter.unusedSimpArgs false
set_option linter.unusedVariables false
set_option maxRecDepth 4000
namespace Go.Ab
theorem QJ{x:aC}(h:oM x=true):gU x=true:=by rw[oM,Bool.and_eq_true] at h;exact h.2
noncomputable def yT(k:Int)(n:List UInt8)(bound out:List (List UInt8)):List (List UInt8):=if k=3/\n∉bound/\n∉out then out++[n] else out
mutual
noncomputable def jm:aC->List (List UInt8)->List (List UInt8)->List (List UInt8)
 | .mk k _ n _ _ a b,bound,out=>tL b bound (pO a k n 0 bound (yT k n bound out))
noncomputable def pO:List aC->Int->List UInt8->Nat->List (List UInt8)->List (List UInt8)->List (List UInt8)
 |[],_,_,_,_,out=>out
 |x::xs,k,n,i,bound,out=>pO xs k n (i+1) bound (jm x (if k=8/\i=1 then bound++[n] else bound) out)
noncomputable def tL:List aP->List (List UInt8)->List (List UInt8)->List (List UInt8)
 |[],_,out=>out
 |x::xs,bound,out=>tL xs bound (DN x bound out)
noncomputable def DN:aP->List (List UInt8)->List (List UInt8)->List (List UInt8)
 | .mk _ v b,bound,out=>jm b (bound++v) out
end
theorem QK(x:aC)(bound out:List (List UInt8)):jm x bound out=tL x.aO bound (pO x.fArgs x.aI x.fName 0 bound (yT x.aI x.fName bound out)):=by cases x;rw[jm];rfl
theorem QL(x:aP)(bound out:List (List UInt8)):DN x bound out=jm x.fBody (bound++x.aK) out:=by cases x;rw[DN];rfl
theorem KG{xs:List aC}{k:Int}{n:List UInt8}{i:Nat}{bound out:List (List UInt8)}(hi:i<xs.length):pO (xs.drop i) k n i bound out=pO (xs.drop (i+1)) k n (i+1) bound (jm xs[i] (if k=8/\i=1 then bound++[n] else bound) out):=by
 rw[List.drop_eq_getElem_cons hi,pO]
theorem KH{xs:List aP}{i:Nat}{bound out:List (List UInt8)}(hi:i<xs.length):tL (xs.drop i) bound out=tL (xs.drop (i+1)) bound (DN xs[i] bound out):=by
 rw[List.drop_eq_getElem_cons hi,tL]
theorem IU(k:Int)(n:List UInt8)(bound out:List (List UInt8)):(yT k n bound out).length<=out.length+1:=by
 unfold yT;split<;>simp
mutual
theorem sO:∀(x:aC)(bound out:List (List UInt8)),(jm x bound out).length<=out.length+x.cnt
 | .mk k t n m ty a b,bound,out=>by
   have h1:=IU k n bound out;have h2:=M6 a k n 0 bound (yT k n bound out);have h3:=M7 b bound (pO a k n 0 bound (yT k n bound out));rw[jm,aC.cnt];omega
theorem M6:∀(xs:List aC)(k:Int)(n:List UInt8)(i:Nat)(bound out:List (List UInt8)),(pO xs k n i bound out).length<=out.length+aC.dD xs
 |[],k,n,i,bound,out=>by rw[pO,aC.dD];omega
 |x::xs,k,n,i,bound,out=>by
  have h1:=sO x (if k=8/\i=1 then bound++[n] else bound) out;have h2:=M6 xs k n (i+1) bound (jm x (if k=8/\i=1 then bound++[n] else bound) out);rw[pO,aC.dD];omega
theorem M7:∀(xs:List aP)(bound out:List (List UInt8)),(tL xs bound out).length<=out.length+aP.dD xs
 |[],bound,out=>by rw[tL,aP.dD];omega
 |x::xs,bound,out=>by
  have h1:=ZF x bound out;have h2:=M7 xs bound (DN x bound out);rw[tL,aP.dD];omega
theorem ZF:∀(x:aP)(bound out:List (List UInt8)),(DN x bound out).length<=out.length+x.cnt
 | .mk c v b,bound,out=>by
   have h1:=sO b (bound++v) out;rw[DN,aP.cnt];omega
end
theorem aC.sH{x:aC}{i:Nat}(hi:i<x.fArgs.length):x.fArgs[i].sz+x.fArgs.length<=x.sz:=by
 have hx:x.fArgs[i].sz<=bB (x.fArgs.map aC.enc):=gT (List.mem_map_of_mem (List.getElem_mem hi));have:=aC.zY x;omega
theorem aC.ZG{x:aC}{i:Nat}(hi:i<x.aO.length):x.aO[i].sz+x.aO.length<=x.sz:=by
 have hx:x.aO[i].sz<=bB (x.aO.map aP.enc):=gT (List.mem_map_of_mem (List.getElem_mem hi));have:=aC.zY x;omega
theorem aP.Uf(x:aP):x.aK.length+x.fBody.sz<=x.sz:=by
 simp only[aP.sz,aP.aB,aC.sz,bL,bZ,D.sz,List.length_map];omega
theorem Gv(xs:List (List UInt8))(s:List UInt8):xs.map encS++[[D.s s]]=(xs++[s]).map encS:=by simp[encS]
theorem Fy:∀N:Nat,∀x:aC,SizeOf.sizeOf x<N->x.sz<=4194304->∀(bound out:List (List UInt8))(l j:Nat)(S:Store),aW S (l,j)=some (.tok 1 (out.map encS))->out.length+x.cnt<=1073741824->bound.length+x.sz<=1073741824->
 bJ prog 177 [.c (.bK (l,j) (out.map encS)),x.v,.c (.d (.sl (bound.map encS)))] S (fun r S'=>r=.c (.bK (l,j) ((jm x bound out).map encS))/\S'=aX S (l,j) (.tok 1 ((jm x bound out).map encS)))
 |0=>fun x h=>by omega
 |N+1=>by
  have ih:=Fy N;intro x hn hsz bound out l j S hk hc hbd;have hb0:=aC.zY x;have jA:=aC.iI x;have Dm:=aC.uU x;have hcn:=aC.nu x;have J9:∀y:Ab.Obj,aW (aX S (l,j) y) (l,j)=some y:=fun y=>bW _ _ _ _ hk;have hS0:aX S (l,j) (.tok 1 (out.map encS))=S:=AP _ _ hk;have fin:=QK x bound out;have hal:=IU x.aI x.fName bound out;obtain⟨o1,ho1⟩:∃o1,yT x.aI x.fName bound out=o1:=⟨_,rfl⟩;rw[ho1] at fin hal;refine(show Hold ?T->_ from fun tail=> ?main) ?tp
  case' main=>
   refine zcx [.tmp 6] func177 ntmps177 ?_;simp -implicitDefEqProofs (disch:=omega) only[go_sem,hk]
   repeat' (first
    |(with_reducible refine aD (fun hb=> ?_) (fun hb=> ?_)<;>have h:=hb<;>(try simp only[wf_preprocess] at h)<;>simp -implicitDefEqProofs (disch:=omega) only[go_sem,hb,hk]<;>(repeat(with_reducible refine And.intro ?_ ?_;focus first|omega|rfl|assumption|exact⟨_,rfl,rfl⟩|(simp;omega)|(simp;done))))
    |(refine aA (sG bound x.fName (by omega)) ?_;simp -implicitDefEqProofs (disch:=omega) only[go_sem,hk];(repeat(with_reducible refine And.intro ?_ ?_;focus first|omega|rfl|assumption|exact⟨_,rfl,rfl⟩|(simp;omega)|(simp;done))))
    |(refine aA (sG out x.fName (by omega)) ?_;simp -implicitDefEqProofs (disch:=omega) only[go_sem,hk];(repeat(with_reducible refine And.intro ?_ ?_;focus first|omega|rfl|assumption|exact⟨_,rfl,rfl⟩|(simp;omega)|(simp;done)))))
   all_goals first
    |(have ha:yT x.aI x.fName bound out=out++[x.fName]:=if_pos ⟨by assumption,by assumption,by assumption⟩)
    |(have ha:yT x.aI x.fName bound out=out:=if_neg (fun y=>by have:=y.1;have:=y.2.1;have:=y.2.2;contradiction))
   all_goals
    refine l8 (st':=[.box (x.enc.map .d)]::aX S (l,j) (.tok 1 (o1.map encS))) [0,2,4,34,35,36] [.c (.bK (1+l,j) (o1.map encS)),.c (.d (.sl (bound.map encS))),.c (.ptr (0,0) 0),.c (.d (.sl (x.fArgs.map aC.enc))),.c (.d (.i .i64 x.fArgs.length)),.c (.d (.i .i64 0))] ?_ ?_ ?_
    ·first|(rw[<-ho1,ha];rfl)|(rw[<-ho1,ha,<-Gv];rfl)
    ·first|(rw[<-ho1,ha,hS0];simp -implicitDefEqProofs (disch:=omega) only[go_sem];done)|(rw[<-ho1,ha,<-Gv];simp -implicitDefEqProofs (disch:=omega) only[go_sem];done)
    ·exact tail.out
  refine⟨?_⟩;clear ho1
  refine bF (ι:=Nat×List (List UInt8)) zmx rfl [0,2,4,34,35,36] (fun y=>[.c (.bK (1+l,j) (y.2.map encS)),.c (.d (.sl (bound.map encS))),.c (.ptr (0,0) 0),.c (.d (.sl (x.fArgs.map aC.enc))),.c (.d (.i .i64 x.fArgs.length)),.c (.d (.i .i64 y.1))]) (fun y=>[.box (x.enc.map .d)]::aX S (l,j) (.tok 1 (y.2.map encS)))
   (fun y=>y.1<=x.fArgs.length/\y.2.length+aC.dD (x.fArgs.drop y.1)+aP.dD x.aO<=1073741824/\pO (x.fArgs.drop y.1) x.aI x.fName y.1 bound y.2=pO x.fArgs x.aI x.fName 0 bound o1) (fun y=>x.fArgs.length-y.1) (0,o1) rfl rfl ⟨Nat.zero_le _,by simp only[List.drop_zero];omega,rfl⟩ ?_
  rintro⟨i,o⟩ ⟨p1,p2,p3⟩
  have refs:∀{a b},nk 1 (jk [0,2,4,34,35,36] [.c (.bK (1+l,j) a),.c (.d (.sl (bound.map encS))),.c (.ptr (0,0) 0),.c (.d (.sl (x.fArgs.map aC.enc))),.c (.d (.i .i64 x.fArgs.length)),.c (.d (.i .i64 b))])=true:=fun {a b}=>by simp[nk,jk,V.refs,C.refs,om];omega
  simp only at p1 p2 p3;simp -implicitDefEqProofs (disch:=omega) only[go_sem]
  with_reducible refine aD (fun hb=> ?_) (fun hb=> ?_)<;>have h:=hb<;>(try simp only[wf_preprocess] at h)<;>simp -implicitDefEqProofs (disch:=omega) only[go_sem,hb]<;>(repeat(with_reducible refine And.intro ?_ ?_;focus first|omega|rfl|assumption|exact⟨_,rfl,rfl⟩|(simp;omega)|(simp;done)))
  ·have hi:i<x.fArgs.length:=by omega
   have hs:=List.sizeOf_lt_of_mem (List.getElem_mem hi);have hz:=aC.sH hi;rw[KG hi] at p3;rw[aC.kK hi] at p2;have hlo:=sO x.fArgs[i] (if x.aI=8/\i=1 then bound++[x.fName] else bound) o
   (repeat(with_reducible refine And.intro ?_ ?_;focus first|omega|rfl|assumption|exact⟨_,rfl,rfl⟩|(simp;omega)|(simp;done)))
   have two:x.fArgs[i].sz+(bound.length+1)<=1073741824:=by omega
   repeat' (first|with_reducible refine aD (fun hb=> ?_) (fun hb=> ?_)<;>have h:=hb<;>(try simp only[wf_preprocess] at h)<;>simp -implicitDefEqProofs (disch:=omega) only[go_sem,hb]<;>(repeat(with_reducible refine And.intro ?_ ?_;focus first|omega|rfl|assumption|exact⟨_,rfl,rfl⟩|(simp;omega)|(simp;done))))
   ·
    have e1:x.aI=8/\i=1:=⟨by omega,by omega⟩;rw[if_pos e1] at p3 hlo;refine af7 rfl DS.push (Zz bound (by omega) _ _) ?_;simp -implicitDefEqProofs (disch:=omega) only[go_sem]
    (repeat(with_reducible refine And.intro ?_ ?_;focus first|omega|rfl|assumption|exact⟨_,rfl,rfl⟩|(simp;omega)|(simp;done)))
    rw[Gv];refine cZ [true,true,false] rfl (ih x.fArgs[i] (by omega) (by omega) (bound++[x.fName]) o (1+l) j _ (by simp -implicitDefEqProofs (disch:=omega) only[go_sem];exact J9 _) (by omega) (by simp only[List.length_append,List.length_cons,List.length_nil];omega)) ?_;simp -implicitDefEqProofs (disch:=omega) only[go_sem,ak];exact dO 1 (by decide) (i+1,jm x.fArgs[i] (bound++[x.fName]) o) (by simp only;omega) rfl rfl refs rfl ⟨by simp only;omega,by simp only;omega,p3⟩
   all_goals
    have e1:¬(x.aI=8/\i=1):=fun h=>by omega
    rw[if_neg e1] at p3 hlo;refine aT rfl (ih x.fArgs[i] (by omega) (by omega) bound o (1+l) j _ (by simp -implicitDefEqProofs (disch:=omega) only[go_sem];exact J9 _) (by omega) (by omega)) ?_;simp -implicitDefEqProofs (disch:=omega) only[go_sem,ak];exact dO 1 (by decide) (i+1,jm x.fArgs[i] bound o) (by simp only;omega) rfl rfl refs rfl ⟨by simp only;omega,by simp only;omega,p3⟩
  have hi:i=x.fArgs.length:=by omega
  rw[hi,List.drop_length] at p2 p3;rw[aC.dD] at p2;rw[pO] at p3;rw[<-p3] at fin;clear p3 refs
  refine bF (ι:=Nat×List (List UInt8)) zmx rfl [0,2,63,64,65] (fun y=>[.c (.bK (1+l,j) (y.2.map encS)),.c (.d (.sl (bound.map encS))),.c (.d (.sl (x.aO.map aP.enc))),.c (.d (.i .i64 x.aO.length)),.c (.d (.i .i64 y.1))]) (fun y=>[.box (x.enc.map .d)]::aX S (l,j) (.tok 1 (y.2.map encS)))
   (fun y=>y.1<=x.aO.length/\y.2.length+aP.dD (x.aO.drop y.1)<=1073741824/\tL (x.aO.drop y.1) bound y.2=jm x bound out) (fun y=>x.aO.length-y.1) (0,o) rfl ?_ ⟨Nat.zero_le _,by simp only[List.drop_zero];omega,fin.symm⟩ ?_
  ·simp -implicitDefEqProofs (disch:=omega) only[go_sem]
  clear p1 p2 fin hal;rintro⟨i,o⟩ ⟨p1,p2,p3⟩
  have refs:∀a b,nk 1 (jk [0,2,63,64,65] [.c (.bK (1+l,j) a),.c (.d (.sl (bound.map encS))),.c (.d (.sl (x.aO.map aP.enc))),.c (.d (.i .i64 x.aO.length)),.c (.d (.i .i64 b))])=true:=fun a b=>by simp[nk,jk,V.refs,C.refs,om];omega
  simp only at p1 p2 p3;simp -implicitDefEqProofs (disch:=omega) only[go_sem]
  with_reducible refine aD (fun hb=> ?_) (fun hb=> ?_)<;>have h:=hb<;>(try simp only[wf_preprocess] at h)<;>simp -implicitDefEqProofs (disch:=omega) only[go_sem,hb]<;>(repeat(with_reducible refine And.intro ?_ ?_;focus first|omega|rfl|assumption|exact⟨_,rfl,rfl⟩|(simp;omega)|(simp;done)))
  ·have hi:i<x.aO.length:=by omega
   have hs:=List.sizeOf_lt_of_mem (List.getElem_mem hi);have hs':=aP.sU x.aO[i];have hz:=aC.ZG hi;have hz':=aP.Uf x.aO[i];rw[KH hi,QL] at p3;rw[aP.kK hi] at p2;have hlo:=sO x.aO[i].fBody (bound++x.aO[i].aK) o;have hcc:=WI [bound,x.aO[i].aK] (by simp) (by simp only[List.flatten_cons,List.flatten_nil,List.append_nil,List.length_append];omega);simp only[List.map_cons,List.map_nil,List.flatten_cons,List.flatten_nil,List.append_nil] at hcc
   (repeat(with_reducible refine And.intro ?_ ?_;focus first|omega|rfl|assumption|exact⟨_,rfl,rfl⟩|(simp;omega)|(simp;done)))
   refine aA hcc ?_;simp -implicitDefEqProofs (disch:=omega) only[go_sem];refine aT rfl (ih x.aO[i].fBody (by omega) (by omega) (bound++x.aO[i].aK) o (1+l) j _ (by simp -implicitDefEqProofs (disch:=omega) only[go_sem];exact J9 _) (by omega) (by simp only[List.length_append];omega)) ?_;simp -implicitDefEqProofs (disch:=omega) only[go_sem,ak];exact dO 1 (by decide) (i+1,jm x.aO[i].fBody (bound++x.aO[i].aK) o) (by simp only;omega) rfl rfl (refs _ _) rfl ⟨by simp only;omega,by simp only;omega,p3⟩
  ·have hi:i=x.aO.length:=by omega
   rw[hi,List.drop_length,tL] at p3;rw[<-p3];exact⟨rfl,rfl⟩
theorem KI(x:aC)(hsz:x.sz<=4194304):aJ prog 117 [x.v] (.c (.d (.sl ((jm x [] []).map encS)))):=fun S=>by
 have hc:=aC.jT x
 have h0:∀S,bJ prog 177 [.c (.bE []),x.v,.c (.d (.sl []))] S (fun r S'=>r=.c (.d (.sl ((jm x [] []).map encS)))/\S'=S):=fun S=>by
  refine bJ.abP 0 (es:=[]) (aQ:=1) rfl (by simp) (Fy _ x (Nat.lt_succ_self _) hsz [] [] 0 0 ([.tok 1 []]::S) rfl (by simp;omega) (by simp;omega)) ?_;rintro r fr S' ⟨rfl,h2⟩;injection h2 with h2 h3;exact⟨_,rfl,rfl,h3⟩
 refine zcx [.tmp 2] func117 ntmps117 ?_;simp -implicitDefEqProofs (disch:=omega) only[go_sem]
 (repeat(with_reducible refine And.intro ?_ ?_;focus first|omega|rfl|assumption|exact⟨_,rfl,rfl⟩|(simp;omega)|(simp;done)))
 refine cZ [true,true,false] rfl (h0 _) ?_;simp -implicitDefEqProofs (disch:=omega) only[go_sem]
theorem Fz:∀N:Nat,∀x:aC,SizeOf.sizeOf x<N->x.sz<=4194304->∀(bound out:List (List UInt8))(l j:Nat)(S:Store),aW S (l,j)=some (.tok 1 (out.map encS))->out.length+x.cnt<=1073741824->bound.length+x.sz<=1073741824->
 bJ prog 182 [x.v,.c (.d (.sl (bound.map encS))),.c (.bK (l,j) (out.map encS))] S (fun r S'=>r=.c (.bK (l,j) ((jm x bound out).map encS))/\S'=aX S (l,j) (.tok 1 ((jm x bound out).map encS)))
 |0=>fun x h=>by omega
 |N+1=>by
  have ih:=Fz N;intro x hn hsz bound out l j S hk hc hbd;have hb0:=aC.zY x;have jA:=aC.iI x;have Dm:=aC.uU x;have hcn:=aC.nu x;have J9:∀y:Ab.Obj,aW (aX S (l,j) y) (l,j)=some y:=fun y=>bW _ _ _ _ hk;have hS0:aX S (l,j) (.tok 1 (out.map encS))=S:=AP _ _ hk;have fin:=QK x bound out;have hal:=IU x.aI x.fName bound out;obtain⟨o1,ho1⟩:∃o1,yT x.aI x.fName bound out=o1:=⟨_,rfl⟩;rw[ho1] at fin hal;refine(show Hold ?T->_ from fun tail=> ?main) ?tp
  case' main=>
   refine zcx [.tmp 6] func182 ntmps182 ?_;simp -implicitDefEqProofs (disch:=omega) only[go_sem,hk]
   repeat' (first
    |(with_reducible refine aD (fun hb=> ?_) (fun hb=> ?_)<;>have h:=hb<;>(try simp only[wf_preprocess] at h)<;>simp -implicitDefEqProofs (disch:=omega) only[go_sem,hb,hk]<;>(repeat(with_reducible refine And.intro ?_ ?_;focus first|omega|rfl|assumption|exact⟨_,rfl,rfl⟩|(simp;omega)|(simp;done))))
    |(refine aA (sF bound x.fName (by omega)) ?_;simp -implicitDefEqProofs (disch:=omega) only[go_sem,hk];(repeat(with_reducible refine And.intro ?_ ?_;focus first|omega|rfl|assumption|exact⟨_,rfl,rfl⟩|(simp;omega)|(simp;done))))
    |(refine aA (sF out x.fName (by omega)) ?_;simp -implicitDefEqProofs (disch:=omega) only[go_sem,hk];(repeat(with_reducible refine And.intro ?_ ?_;focus first|omega|rfl|assumption|exact⟨_,rfl,rfl⟩|(simp;omega)|(simp;done)))))
   all_goals first
    |(have ha:yT x.aI x.fName bound out=out++[x.fName]:=if_pos ⟨by assumption,by assumption,by assumption⟩)
    |(have ha:yT x.aI x.fName bound out=out:=if_neg (fun y=>by have:=y.1;have:=y.2.1;have:=y.2.2;contradiction))
   all_goals
    refine l8 (st':=[.box (x.enc.map .d)]::aX S (l,j) (.tok 1 (o1.map encS))) [1,2,3,7] [.c (.d (.sl (bound.map encS))),.c (.bK (1+l,j) (o1.map encS)),.c (.ptr (0,0) 0),.c (.d (.i .i64 0))] ?_ ?_ ?_
    ·first|(rw[<-ho1,ha];rfl)|(rw[<-ho1,ha,<-Gv];rfl)
    ·first|(rw[<-ho1,ha,hS0];simp -implicitDefEqProofs (disch:=omega) only[go_sem];done)|(rw[<-ho1,ha,<-Gv];simp -implicitDefEqProofs (disch:=omega) only[go_sem];done)
    ·exact tail.out
  refine⟨?_⟩;clear ho1
  refine bF (ι:=Nat×List (List UInt8)) zmx rfl [1,2,3,7] (fun y=>[.c (.d (.sl (bound.map encS))),.c (.bK (1+l,j) (y.2.map encS)),.c (.ptr (0,0) 0),.c (.d (.i .i64 y.1))]) (fun y=>[.box (x.enc.map .d)]::aX S (l,j) (.tok 1 (y.2.map encS)))
   (fun y=>y.1<=x.fArgs.length/\y.2.length+aC.dD (x.fArgs.drop y.1)+aP.dD x.aO<=1073741824/\pO (x.fArgs.drop y.1) x.aI x.fName y.1 bound y.2=pO x.fArgs x.aI x.fName 0 bound o1) (fun y=>x.fArgs.length-y.1) (0,o1) rfl rfl ⟨Nat.zero_le _,by simp only[List.drop_zero];omega,rfl⟩ ?_
  rintro⟨i,o⟩ ⟨p1,p2,p3⟩
  have refs:∀{a b},nk 1 (jk [1,2,3,7] [.c (.d (.sl (bound.map encS))),.c (.bK (1+l,j) a),.c (.ptr (0,0) 0),.c (.d (.i .i64 b))])=true:=fun {a b}=>by simp[nk,jk,V.refs,C.refs,om];omega
  simp only at p1 p2 p3;simp -implicitDefEqProofs (disch:=omega) only[go_sem]
  with_reducible refine aD (fun hb=> ?_) (fun hb=> ?_)<;>have h:=hb<;>(try simp only[wf_preprocess] at h)<;>simp -implicitDefEqProofs (disch:=omega) only[go_sem,hb]<;>(repeat(with_reducible refine And.intro ?_ ?_;focus first|omega|rfl|assumption|exact⟨_,rfl,rfl⟩|(simp;omega)|(simp;done)))
  ·have hi:i<x.fArgs.length:=by omega
   have hs:=List.sizeOf_lt_of_mem (List.getElem_mem hi);have hz:=aC.sH hi;rw[KG hi] at p3;rw[aC.kK hi] at p2;have hlo:=sO x.fArgs[i] (if x.aI=8/\i=1 then bound++[x.fName] else bound) o
   have two:x.fArgs[i].sz+(bound.length+1)<=1073741824:=by omega
   repeat' (first|with_reducible refine aD (fun hb=> ?_) (fun hb=> ?_)<;>have h:=hb<;>(try simp only[wf_preprocess] at h)<;>simp -implicitDefEqProofs (disch:=omega) only[go_sem,hb]<;>(repeat(with_reducible refine And.intro ?_ ?_;focus first|omega|rfl|assumption|exact⟨_,rfl,rfl⟩|(simp;omega)|(simp;done))))
   ·have e1:x.aI=8/\i=1:=⟨by omega,by omega⟩;rw[if_pos e1] at p3 hlo;refine⟨Ap,⟨_,rfl,rfl⟩,fun y hy=>(by cases hy),by omega,?_⟩
    (repeat(with_reducible refine And.intro ?_ ?_;focus first|omega|rfl|assumption|exact⟨_,rfl,rfl⟩|(simp;omega)|(simp;done)))
    rw[Gv];refine cZ [true,false,true] rfl (ih x.fArgs[i] (by omega) (by omega) (bound++[x.fName]) o (1+l) j _ (by simp -implicitDefEqProofs (disch:=omega) only[go_sem];exact J9 _) (by omega) (by simp only[List.length_append,List.length_cons,List.length_nil];omega)) ?_;simp -implicitDefEqProofs (disch:=omega) only[go_sem,ak];exact dO 1 (by decide) (i+1,jm x.fArgs[i] (bound++[x.fName]) o) (by simp only;omega) rfl rfl refs rfl ⟨by simp only;omega,by simp only;omega,p3⟩
   all_goals
    have e1:¬(x.aI=8/\i=1):=fun h=>by omega
    rw[if_neg e1] at p3 hlo
    (repeat(with_reducible refine And.intro ?_ ?_;focus first|omega|rfl|assumption|exact⟨_,rfl,rfl⟩|(simp;omega)|(simp;done)))
    refine aT rfl (ih x.fArgs[i] (by omega) (by omega) bound o (1+l) j _ (by simp -implicitDefEqProofs (disch:=omega) only[go_sem];exact J9 _) (by omega) (by omega)) ?_;simp -implicitDefEqProofs (disch:=omega) only[go_sem,ak];exact dO 1 (by decide) (i+1,jm x.fArgs[i] bound o) (by simp only;omega) rfl rfl refs rfl ⟨by simp only;omega,by simp only;omega,p3⟩
  have hi:i=x.fArgs.length:=by omega
  rw[hi,List.drop_length] at p2 p3;rw[aC.dD] at p2;rw[pO] at p3;rw[<-p3] at fin;clear p3 refs
  refine bF (ι:=Nat×List (List UInt8)) zmx rfl [1,2,3,9] (fun y=>[.c (.d (.sl (bound.map encS))),.c (.bK (1+l,j) (y.2.map encS)),.c (.ptr (0,0) 0),.c (.d (.i .i64 y.1))]) (fun y=>[.box (x.enc.map .d)]::aX S (l,j) (.tok 1 (y.2.map encS)))
   (fun y=>y.1<=x.aO.length/\y.2.length+aP.dD (x.aO.drop y.1)<=1073741824/\tL (x.aO.drop y.1) bound y.2=jm x bound out) (fun y=>x.aO.length-y.1) (0,o) rfl ?_ ⟨Nat.zero_le _,by simp only[List.drop_zero];omega,fin.symm⟩ ?_
  ·simp -implicitDefEqProofs (disch:=omega) only[go_sem]
  clear p1 p2 fin hal;rintro⟨i,o⟩ ⟨p1,p2,p3⟩
  have refs:∀a b,nk 1 (jk [1,2,3,9] [.c (.d (.sl (bound.map encS))),.c (.bK (1+l,j) a),.c (.ptr (0,0) 0),.c (.d (.i .i64 b))])=true:=fun a b=>by simp[nk,jk,V.refs,C.refs,om];omega
  simp only at p1 p2 p3;simp -implicitDefEqProofs (disch:=omega) only[go_sem]
  with_reducible refine aD (fun hb=> ?_) (fun hb=> ?_)<;>have h:=hb<;>(try simp only[wf_preprocess] at h)<;>simp -implicitDefEqProofs (disch:=omega) only[go_sem,hb]<;>(repeat(with_reducible refine And.intro ?_ ?_;focus first|omega|rfl|assumption|exact⟨_,rfl,rfl⟩|(simp;omega)|(simp;done)))
  ·have hi:i<x.aO.length:=by omega
   have hs:=List.sizeOf_lt_of_mem (List.getElem_mem hi);have hs':=aP.sU x.aO[i];have hz:=aC.ZG hi;have hz':=aP.Uf x.aO[i];rw[KH hi,QL] at p3;rw[aP.kK hi] at p2;have hlo:=sO x.aO[i].fBody (bound++x.aO[i].aK) o;refine⟨Ap,⟨_,rfl,rfl⟩,fun y hy=>(by cases hy),by omega,⟨by omega,hi⟩,Ap,⟨_,rfl,rfl⟩,by omega,?_⟩;rw[<-List.map_append];refine cZ [true,false,true] rfl (ih x.aO[i].fBody (by omega) (by omega) (bound++x.aO[i].aK) o (1+l) j _ (by simp -implicitDefEqProofs (disch:=omega) only[go_sem];exact J9 _) (by omega) (by simp only[List.length_append];omega)) ?_;simp -implicitDefEqProofs (disch:=omega) only[go_sem,ak];exact dO 1 (by decide) (i+1,jm x.aO[i].fBody (bound++x.aO[i].aK) o) (by simp only;omega) rfl rfl (refs _ _) rfl ⟨by simp only;omega,by simp only;omega,p3⟩
  ·have hi:i=x.aO.length:=by omega
   rw[hi,List.drop_length,tL] at p3;rw[<-p3];exact⟨rfl,rfl⟩
theorem KJ(x:aC)(hsz:x.sz<=4194304):aJ prog 125 [x.v] (.c (.d (.sl ((jm x [] []).map encS)))):=fun S=>by
 have hc:=aC.jT x
 have h0:∀S,bJ prog 182 [x.v,.c (.d (.sl [])),.c (.bE [])] S (fun r S'=>r=.c (.d (.sl ((jm x [] []).map encS)))/\S'=S):=fun S=>by
  refine bJ.abP 2 (es:=[]) (aQ:=1) rfl (by simp) (Fz _ x (Nat.lt_succ_self _) hsz [] [] 0 0 ([.tok 1 []]::S) rfl (by simp;omega) (by simp;omega)) ?_;rintro r fr S' ⟨rfl,h2⟩;injection h2 with h2 h3;exact⟨_,rfl,rfl,h3⟩
 refine zcx [.tmp 2] func125 ntmps125 ?_;simp -implicitDefEqProofs (disch:=omega) only[go_sem]
 (repeat(with_reducible refine And.intro ?_ ?_;focus first|omega|rfl|assumption|exact⟨_,rfl,rfl⟩|(simp;omega)|(simp;done)))
 refine cZ [true,false,true] rfl (h0 _) ?_;simp -implicitDefEqProofs (disch:=omega) only[go_sem]
theorem aC.acO{x:aC}(h:x.sz<=4194304):x.bg.length<=4194304/\x.fName.length<=4194304/\x.fType.sz<=4194304/\x.fArgs.length<=4194304/\x.aO.length<=4194304:=by
 simp only[aC.sz,aC.aB,bL,bZ,D.sz,List.length_map,au.dz] at h;omega
theorem aP.acO{x:aP}(h:x.sz<=4194304):x.bU.length<=4194304/\x.aK.length<=4194304/\x.fBody.sz<=4194304:=by
 simp only[aP.sz,aP.aB,bL,bZ,D.sz,List.length_map,aC.dz] at h;omega
theorem Cx:∀n:Nat,∀t:au,SizeOf.sizeOf t<n->t.sz<=4194304->∀v:List UInt8,aJ prog 160 [t.v,.c (.d (.s v))] (.c (.d (.i .i64 (nU v t))))
 |0=>fun t h=>by omega
 |n+1=>by
  have ih:=Cx n;intro t hn hsz v S;have jA:=au.iI t;have hts:=E5 hsz;have hcl:=Zh v t;have hcn:=jT t;have he:=Zg v t;refine zcx [.tmp 4] func160 ntmps160 ?_;simp -implicitDefEqProofs (disch:=omega) only[go_sem]
  repeat' (first|(with_reducible refine aD (fun hb=> ?_) (fun hb=> ?_)<;>have h:=hb<;>(try simp only[wf_preprocess] at h)<;>simp -implicitDefEqProofs (disch:=omega) only[go_sem,hb]<;>(repeat(with_reducible refine And.intro ?_ ?_;focus first|omega|rfl|assumption|exact⟨_,rfl,rfl⟩|(simp;omega)|(simp;done)))))
  all_goals first
   |(have hc:nU v t=1+tu v t.fArgs:=by rw[he,if_pos (by simp only[J7,decide_eq_true_eq];exact⟨by assumption,by assumption⟩)])
   |(have hc:nU v t=0+tu v t.fArgs:=by rw[he,if_neg (by simp only[J7,decide_eq_true_eq];exact fun x=>by have:=x.1;have:=x.2;contradiction)])
  all_goals
   refine bF (ι:=Nat×Nat) zmx rfl [1,2,5,6] (fun y=>[.c (.d (.s v)),.c (.ptr (0,0) 0),.c (.d (.i .i64 y.2)),.c (.d (.i .i64 y.1))]) (fun _=>[.box [.d (.i .i64 t.aI),.d (.s t.fName),.d (.sl (t.fArgs.map au.enc))]]::S)
    (fun y=>y.1<=t.fArgs.length/\nU v t=y.2+tu v (t.fArgs.drop y.1)) (fun y=>t.fArgs.length-y.1) (0,_) rfl rfl ⟨Nat.zero_le _,hc⟩ ?_
   rintro⟨i,c⟩ ⟨p1,p2⟩;simp only at p1 p2;simp -implicitDefEqProofs (disch:=omega) only[go_sem]
   with_reducible refine aD (fun hb=> ?_) (fun hb=> ?_)<;>have h:=hb<;>(try simp only[wf_preprocess] at h)<;>simp -implicitDefEqProofs (disch:=omega) only[go_sem,hb]<;>(repeat(with_reducible refine And.intro ?_ ?_;focus first|omega|rfl|assumption|exact⟨_,rfl,rfl⟩|(simp;omega)|(simp;done)))
   ·have hi:i<t.fArgs.length:=by omega
    rw[Qq hi] at p2
    (repeat(with_reducible refine And.intro ?_ ?_;focus first|omega|rfl|assumption|exact⟨_,rfl,rfl⟩|(simp;omega)|(simp;done)))
    refine aA (ih t.fArgs[i] (by have:=List.sizeOf_lt_of_mem (List.getElem_mem hi);omega) (zx hi hsz).1 v) ?_;simp -implicitDefEqProofs (disch:=omega) only[go_sem]<;>(repeat(with_reducible refine And.intro ?_ ?_;focus first|omega|rfl|assumption|exact⟨_,rfl,rfl⟩|(simp;omega)|(simp;done)));rw[show(c:Int)+(nU v t.fArgs[i]:Int)=((c+nU v t.fArgs[i]:Nat):Int) by omega];exact dG (i+1,c+nU v t.fArgs[i]) (by simp only;omega) rfl rfl ⟨by simp only;omega,by simp only;omega⟩
   ·have hi:i=t.fArgs.length:=by omega
    rw[hi,List.drop_length] at p2;have h0:tu v []=0:=rfl;exact int_eq (by omega)
theorem NW(v:List UInt8)(t:au)(hsz:t.sz<=4194304):aJ prog 86 [.c (.d (.s v)),t.v] (.c (.d (.b (occurs v t)))):=fun S=>by
 refine zcx [.tmp 4] func86 ntmps86 ?_;simp -implicitDefEqProofs (disch:=omega) only[go_sem];refine aA (Cx _ t (Nat.lt_succ_self _) hsz v) ?_;simp -implicitDefEqProofs (disch:=omega) only[go_sem]<;>(repeat(with_reducible refine And.intro ?_ ?_;focus first|omega|rfl|assumption|exact⟨_,rfl,rfl⟩|(simp;omega)|(simp;done)));exact aY (by unfold occurs;rw[Bool.eq_iff_iff];simp only[decide_eq_true_eq];omega)
noncomputable def Cy(vars:List (List UInt8))(e:aC):Bool:=oM e&&among (jm e [] []) vars
noncomputable def oO(vars:List (List UInt8))(e:aC):Bool:=jN vars&&Cy vars e
noncomputable def lJ(vars:List (List UInt8))(b:aM):Bool:=(validName b.bg&&lK b.fType)&&(!oo b.fType&&among (gY [] b.fType) vars)
noncomputable def nW(vars:List (List UInt8))(bs:List aM):Bool:=dec (bs.length<=4)&&bs.all (lJ vars)
theorem rF{xs:List aM}{t:aM}(h:t∈xs):t.sz<=bB (xs.map aM.enc):=gT (List.mem_map_of_mem h)
theorem cK.sum(x:cK):x.fName.length+(x.iC.length+bB (x.iC.map au.enc))+x.fQ.sz+(x.aK.length+bB (x.aK.map encS))+x.fBody.sz<=x.sz:=by
 simp only[cK.sz,cK.aB,bL,bZ,D.sz,List.length_map,au.dz,aC.dz];omega
theorem aM.sum(x:aM):x.bg.length+x.fType.sz<=x.sz:=by
 simp only[aM.sz,aM.aB,bL,bZ,D.sz,List.length_map,au.dz];omega
theorem QM(e:aC)(h:e.sz<=4194304):(jm e [] []).length<=1073741824:=by
 have h1:=sO e [] [];have h2:=aC.jT e;simp at h1;omega
theorem KL(t:au)(h:t.sz<=4194304):(gY [] t).length<=1073741824:=by
 have h1:=yx t [];have h2:=_root_.Go.Ab.jT t;simp at h1;omega
theorem HV(vars:List (List UInt8))(t:au):jq vars t=(lK t&&among (gY [] t) vars):=rfl
theorem ZH(vars:List (List UInt8))(e:aC)(hv:vars.length<=1073741824)(hs:∀s∈vars,s.length<=4194304)(hsz:e.sz<=4194304):aJ prog 49 [.c (.d (.sl (vars.map encS))),e.v] (.c (.d (.b (oO vars e)))):=fun S=>by
 refine zcx [.tmp 4] func49 ntmps49 ?_;simp -implicitDefEqProofs (disch:=omega) only[go_sem];refine aA (xK vars hv hs) ?_;simp -implicitDefEqProofs (disch:=omega) only[go_sem]<;>(repeat(with_reducible refine And.intro ?_ ?_;focus first|omega|rfl|assumption|exact⟨_,rfl,rfl⟩|(simp;omega)|(simp;done)))
 with_reducible refine aD (fun hb=> ?_) (fun hb=> ?_)<;>have h:=hb<;>(try simp only[wf_preprocess] at h)<;>simp -implicitDefEqProofs (disch:=omega) only[go_sem,hb]<;>(repeat(with_reducible refine And.intro ?_ ?_;focus first|omega|rfl|assumption|exact⟨_,rfl,rfl⟩|(simp;omega)|(simp;done)))
 ·have h1:=h;refine aA (IL e hsz) ?_;simp -implicitDefEqProofs (disch:=omega) only[go_sem]<;>(repeat(with_reducible refine And.intro ?_ ?_;focus first|omega|rfl|assumption|exact⟨_,rfl,rfl⟩|(simp;omega)|(simp;done)))
  with_reducible refine aD (fun hb=> ?_) (fun hb=> ?_)<;>have h:=hb<;>(try simp only[wf_preprocess] at h)<;>simp -implicitDefEqProofs (disch:=omega) only[go_sem,hb]<;>(repeat(with_reducible refine And.intro ?_ ?_;focus first|omega|rfl|assumption|exact⟨_,rfl,rfl⟩|(simp;omega)|(simp;done)))
  ·have h2:=h;refine aA (KI e hsz) ?_;simp -implicitDefEqProofs (disch:=omega) only[go_sem]<;>(repeat(with_reducible refine And.intro ?_ ?_;focus first|omega|rfl|assumption|exact⟨_,rfl,rfl⟩|(simp;omega)|(simp;done)));refine aA (xL _ vars (QM e hsz) hv) ?_;simp -implicitDefEqProofs (disch:=omega) only[go_sem]<;>(repeat(with_reducible refine And.intro ?_ ?_;focus first|omega|rfl|assumption|exact⟨_,rfl,rfl⟩|(simp;omega)|(simp;done)));exact aY (by unfold oO Cy;rw[h1,h2];rfl)
  ·exact aY (by unfold oO Cy;rw[h];simp)
 ·exact aY (by unfold oO;rw[h];rfl)
theorem WY(vars:List (List UInt8))(e:aC)(hv:vars.length<=1073741824)(hsz:e.sz<=4194304):aJ prog 55 [e.v,.c (.d (.sl (vars.map encS)))] (.c (.d (.b (Cy vars e)))):=fun S=>by
 have hlen:=QM e hsz;refine zcx [.tmp 4] func55 ntmps55 ?_;simp -implicitDefEqProofs (disch:=omega) only[go_sem];refine aA (KJ e hsz) ?_;simp -implicitDefEqProofs (disch:=omega) only[go_sem]<;>(repeat(with_reducible refine And.intro ?_ ?_;focus first|omega|rfl|assumption|exact⟨_,rfl,rfl⟩|(simp;omega)|(simp;done)));unfold Cy;generalize jm e [] []=xs at hlen ⊢
 refine bF (ι:=Nat) zmx rfl [1,2,5,6] (fun i=>[.c (.d (.sl (vars.map encS))),.c (.ptr (0,0) 0),.c (.d (.sl (xs.map encS))),.c (.d (.i .i64 i))]) (fun _=>[.box (e.enc.map .d)]::S)
  (fun i=>i<=xs.length/\among (xs.drop i) vars=among xs vars) (fun i=>xs.length-i) 0 rfl ?_ ⟨Nat.zero_le _,rfl⟩ ?_
 ·simp -implicitDefEqProofs (disch:=omega) only[go_sem]
 rintro i ⟨p1,p2⟩;simp -implicitDefEqProofs (disch:=omega) only[go_sem,encS]
 with_reducible refine aD (fun hb=> ?_) (fun hb=> ?_)<;>have h:=hb<;>(try simp only[wf_preprocess] at h)<;>simp -implicitDefEqProofs (disch:=omega) only[go_sem,hb,encS]<;>(repeat(with_reducible refine And.intro ?_ ?_;focus first|omega|rfl|assumption|exact⟨_,rfl,rfl⟩|(simp;omega)|(simp;done)))
 ·have hi:i<xs.length:=by omega
  rw[List.drop_eq_getElem_cons hi] at p2;have p3:among xs vars=(dec (xs[i]∈vars)&&among (xs.drop (i+1)) vars):=p2.symm
  (repeat(with_reducible refine And.intro ?_ ?_;focus first|omega|rfl|assumption|exact⟨_,rfl,rfl⟩|(simp;omega)|(simp;done)))
  refine aA (sF vars xs[i] hv) ?_;simp -implicitDefEqProofs (disch:=omega) only[go_sem]<;>(repeat(with_reducible refine And.intro ?_ ?_;focus first|omega|rfl|assumption|exact⟨_,rfl,rfl⟩|(simp;omega)|(simp;done)))
  with_reducible refine aD (fun hb=> ?_) (fun hb=> ?_)<;>have h:=hb<;>(try simp only[wf_preprocess] at h)<;>simp -implicitDefEqProofs (disch:=omega) only[go_sem,hb]<;>(repeat(with_reducible refine And.intro ?_ ?_;focus first|omega|rfl|assumption|exact⟨_,rfl,rfl⟩|(simp;omega)|(simp;done)))
  ·exact aY (by rw[p3,bI h];simp)
  ·exact dG (i+1) (by omega) rfl rfl ⟨by omega,by rw[p3,bT h];rfl⟩
 ·rw[List.drop_of_length_le (by omega)] at p2;have p3:among xs vars=true:=p2.symm
  (repeat(with_reducible refine And.intro ?_ ?_;focus first|omega|rfl|assumption|exact⟨_,rfl,rfl⟩|(simp;omega)|(simp;done)))
  refine aA (IQ e hsz) ?_;simp -implicitDefEqProofs (disch:=omega) only[go_sem]<;>(repeat(with_reducible refine And.intro ?_ ?_;focus first|omega|rfl|assumption|exact⟨_,rfl,rfl⟩|(simp;omega)|(simp;done)));exact aY (by rw[p3];simp)
theorem KM(vars:List (List UInt8))(hv:vars.length<=1073741824)(rest:List Ab.Obj)(S:Store)(b:aM)(hb:b.sz<=4194304):og prog 111 [((0,0),0)] ((.box [.d (.sl (vars.map encS))]::rest)::S) [b.v] (.c (.d (.b (!lJ vars b)))):=fun F=>by
 have hs:=aM.sum b;refine zcx [.tmp 3] func111 ntmps111 ?_;simp -implicitDefEqProofs (disch:=omega) only[go_sem];refine aA (GJ b (by omega) (by omega)) ?_;simp -implicitDefEqProofs (disch:=omega) only[go_sem]<;>(repeat(with_reducible refine And.intro ?_ ?_;focus first|omega|rfl|assumption|exact⟨_,rfl,rfl⟩|(simp;omega)|(simp;done)))
 with_reducible refine aD (fun hb=> ?_) (fun hb=> ?_)<;>have h:=hb<;>(try simp only[wf_preprocess] at h)<;>simp -implicitDefEqProofs (disch:=omega) only[go_sem,hb]<;>(repeat(with_reducible refine And.intro ?_ ?_;focus first|omega|rfl|assumption|exact⟨_,rfl,rfl⟩|(simp;omega)|(simp;done)))
 ·exact aY (by unfold lJ;rw[h];rfl)
 have h1:=h
 (repeat(with_reducible refine And.intro ?_ ?_;focus first|omega|rfl|assumption|exact⟨_,rfl,rfl⟩|(simp;omega)|(simp;done)))
 refine aA (Cn b.fType (by omega)) ?_;simp -implicitDefEqProofs (disch:=omega) only[go_sem]<;>(repeat(with_reducible refine And.intro ?_ ?_;focus first|omega|rfl|assumption|exact⟨_,rfl,rfl⟩|(simp;omega)|(simp;done)))
 with_reducible refine aD (fun hb=> ?_) (fun hb=> ?_)<;>have h:=hb<;>(try simp only[wf_preprocess] at h)<;>simp -implicitDefEqProofs (disch:=omega) only[go_sem,hb]<;>(repeat(with_reducible refine And.intro ?_ ?_;focus first|omega|rfl|assumption|exact⟨_,rfl,rfl⟩|(simp;omega)|(simp;done)))
 ·exact aY (by unfold lJ;rw[h];simp)
 have h2:=h
 (repeat(with_reducible refine And.intro ?_ ?_;focus first|omega|rfl|assumption|exact⟨_,rfl,rfl⟩|(simp;omega)|(simp;done)))
 refine aA (vZ b.fType (by omega)) ?_;simp -implicitDefEqProofs (disch:=omega) only[go_sem]<;>(repeat(with_reducible refine And.intro ?_ ?_;focus first|omega|rfl|assumption|exact⟨_,rfl,rfl⟩|(simp;omega)|(simp;done)));refine aA (xL _ vars (KL _ (by omega)) hv) ?_;simp -implicitDefEqProofs (disch:=omega) only[go_sem]<;>(repeat(with_reducible refine And.intro ?_ ?_;focus first|omega|rfl|assumption|exact⟨_,rfl,rfl⟩|(simp;omega)|(simp;done)));exact aY (by unfold lJ;rw[h1,h2];simp)
theorem QN(bs:List aM)(vars:List (List UInt8))(hl:bs.length<=1073741824)(hz:∀b∈bs,b.sz<=4194304)(hv:vars.length<=1073741824):aJ prog 45 [.c (.d (.sl (bs.map aM.enc))),.c (.d (.sl (vars.map encS)))] (.c (.d (.b (nW vars bs)))):=fun S=>by
 have ha:(bs.any fun t=> !lJ vars t)= !bs.all (lJ vars):=by rw[List.not_all_eq_any_not]
 refine zcx [.tmp 4] func45 ntmps45 ?_;simp -implicitDefEqProofs (disch:=omega) only[go_sem]
 with_reducible refine aD (fun hb=> ?_) (fun hb=> ?_)<;>have h:=hb<;>(try simp only[wf_preprocess] at h)<;>simp -implicitDefEqProofs (disch:=omega) only[go_sem,hb]<;>(repeat(with_reducible refine And.intro ?_ ?_;focus first|omega|rfl|assumption|exact⟨_,rfl,rfl⟩|(simp;omega)|(simp;done)))
 ·have h1:=h
  (repeat(with_reducible refine And.intro ?_ ?_;focus first|omega|rfl|assumption|exact⟨_,rfl,rfl⟩|(simp;omega)|(simp;done)))
  refine aT rfl (Du 111 [((0,0),0)] _ bs (fun t=> !lJ vars t) hl fun t hx=>KM vars hv [] S t (hz t hx)) ?_;simp -implicitDefEqProofs (disch:=omega) only[go_sem];rw[ha];exact aY (by unfold nW;rw[bT (by omega)];simp)
 ·exact aY (by unfold nW;rw[bI (by omega)];rfl)
theorem Tc(bs:List aM)(vars:List (List UInt8))(hl:bs.length<=1073741824)(hz:∀b∈bs,b.sz<=4194304)(hv:vars.length<=1073741824):aJ prog 54 [.c (.d (.sl (bs.map aM.enc))),.c (.d (.sl (vars.map encS)))] (.c (.d (.b (nW vars bs)))):=fun S=>by
 refine zcx [.tmp 4] func54 ntmps54 ?_;simp -implicitDefEqProofs (disch:=omega) only[go_sem]
 refine bF (ι:=Nat) zmx rfl [0,1,5] (fun i=>[.c (.d (.sl (bs.map aM.enc))),.c (.d (.sl (vars.map encS))),.c (.d (.i .i64 i))]) (fun _=>[]::S)
  (fun i=>i<=bs.length/\(bs.drop i).all (lJ vars)=bs.all (lJ vars)) (fun i=>bs.length-i) 0 rfl rfl ⟨Nat.zero_le _,rfl⟩ ?_
 rintro i ⟨p1,p2⟩;simp -implicitDefEqProofs (disch:=omega) only[go_sem]
 with_reducible refine aD (fun hb=> ?_) (fun hb=> ?_)<;>have h:=hb<;>(try simp only[wf_preprocess] at h)<;>simp -implicitDefEqProofs (disch:=omega) only[go_sem,hb]<;>(repeat(with_reducible refine And.intro ?_ ?_;focus first|omega|rfl|assumption|exact⟨_,rfl,rfl⟩|(simp;omega)|(simp;done)))
 ·have hi:i<bs.length:=by omega
  have hb:=hz _ (List.getElem_mem hi);have hs:=aM.sum bs[i];rw[List.drop_eq_getElem_cons hi,List.all_cons] at p2;have no:lJ vars bs[i]=false->V.c (.d (.b false))=V.c (.d (.b (nW vars bs))):=fun h=>aY (by unfold nW;rw[<-p2,h];simp)
  (repeat(with_reducible refine And.intro ?_ ?_;focus first|omega|rfl|assumption|exact⟨_,rfl,rfl⟩|(simp;omega)|(simp;done)))
  refine aA (GI bs[i] (by omega) (by omega)) ?_;simp -implicitDefEqProofs (disch:=omega) only[go_sem]<;>(repeat(with_reducible refine And.intro ?_ ?_;focus first|omega|rfl|assumption|exact⟨_,rfl,rfl⟩|(simp;omega)|(simp;done)))
  with_reducible refine aD (fun hb=> ?_) (fun hb=> ?_)<;>have h:=hb<;>(try simp only[wf_preprocess] at h)<;>simp -implicitDefEqProofs (disch:=omega) only[go_sem,hb]<;>(repeat(with_reducible refine And.intro ?_ ?_;focus first|omega|rfl|assumption|exact⟨_,rfl,rfl⟩|(simp;omega)|(simp;done)))
  ·exact no (by unfold lJ;rw[h];rfl)
  have h1:=h
  (repeat(with_reducible refine And.intro ?_ ?_;focus first|omega|rfl|assumption|exact⟨_,rfl,rfl⟩|(simp;omega)|(simp;done)))
  refine aA (Dw bs[i].fType vars (by omega) hv) ?_;simp -implicitDefEqProofs (disch:=omega) only[go_sem]<;>(repeat(with_reducible refine And.intro ?_ ?_;focus first|omega|rfl|assumption|exact⟨_,rfl,rfl⟩|(simp;omega)|(simp;done)))
  with_reducible refine aD (fun hb=> ?_) (fun hb=> ?_)<;>have h:=hb<;>(try simp only[wf_preprocess] at h)<;>simp -implicitDefEqProofs (disch:=omega) only[go_sem,hb]<;>(repeat(with_reducible refine And.intro ?_ ?_;focus first|omega|rfl|assumption|exact⟨_,rfl,rfl⟩|(simp;omega)|(simp;done)))
  ·exact no (by unfold lJ;rw[HV] at h;rw[Bool.and_eq_true] at h1;rw[h1.2,Bool.true_and] at h;rw[h];simp)
  have h2:=h
  (repeat(with_reducible refine And.intro ?_ ?_;focus first|omega|rfl|assumption|exact⟨_,rfl,rfl⟩|(simp;omega)|(simp;done)))
  refine aA (Cm bs[i].fType (by omega)) ?_;simp -implicitDefEqProofs (disch:=omega) only[go_sem]<;>(repeat(with_reducible refine And.intro ?_ ?_;focus first|omega|rfl|assumption|exact⟨_,rfl,rfl⟩|(simp;omega)|(simp;done)))
  with_reducible refine aD (fun hb=> ?_) (fun hb=> ?_)<;>have h:=hb<;>(try simp only[wf_preprocess] at h)<;>simp -implicitDefEqProofs (disch:=omega) only[go_sem,hb]<;>(repeat(with_reducible refine And.intro ?_ ?_;focus first|omega|rfl|assumption|exact⟨_,rfl,rfl⟩|(simp;omega)|(simp;done)))
  ·exact no (by unfold lJ;rw[h];simp)
  have h3:=h;rw[HV,Bool.and_eq_true] at h2;exact dG (i+1) (by omega) rfl rfl ⟨by omega,by rw[<-p2];unfold lJ;rw[h1,h2.2,h3];rfl⟩
 ·rw[List.drop_of_length_le (by omega)] at p2;exact aY (by unfold nW;rw[<-p2,kY];simp only[List.all_nil,Bool.and_true];exact jJ ⟨fun h=>by omega,fun h=>by omega⟩)
theorem dh.sum(x:dh):x.fName.length+(x.aK.length+bB (x.aK.map encS))+(x.bR.length+bB (x.bR.map aM.enc))+(x.iC.length+bB (x.iC.map eG.enc))+x.fQ.sz+x.fBody.sz<=x.sz:=by
 simp only[dh.sz,dh.aB,bL,bZ,D.sz,List.length_map,au.dz,aC.dz];omega
theorem eG.sum(x:eG):x.fName.length+x.fType.sz<=x.sz:=by
 simp only[eG.sz,eG.aB,bL,bZ,D.sz,List.length_map,au.dz];omega
def Aq(n:Nat)(s:St):St:=match s.st with
 |(.seed _::own)::Ω=>⟨s.tm,(.seed n::own)::Ω⟩
 |_=>s
theorem LY{N:Nat}(n:Nat)(s:St):fP N s (Aq n s):=by
 obtain⟨tm,st⟩:=s;unfold Aq;split
 ·rename_i h;simp only at h;subst h;exact zP n
 ·exact fP.refl _ _
theorem Td{n m:Nat}{tm:List (Nat×V)}{own:List Obj}{Ω:Store}:Aq n ⟨tm,(.seed m::own)::Ω⟩=⟨tm,(.seed n::own)::Ω⟩:=rfl
def aio(j p n:Nat)(s:St):St:=Aq n (Om j p s)
attribute [go_sem] aio Td
def oh(b:aM):ah:=bS [bH b.bg,dK b.fType]
theorem agL(b:aM):(oh b).sz<=14+16*b.sz:=by
 have:=Fh b.fType;have:=aM.sum b;rw[oh,tJ];simp[dJ,mV];omega
theorem Ug:∀l:List aM,dJ (l.map oh)<=14*l.length+16*bB (l.map aM.enc)
 |[]=>by simp[dJ]
 |c::l=>by
  have h1:=agL c;have h2:=Ug l;rw[List.map_cons,dJ,List.map_cons,bB,List.length_cons];simp only[aM.sz] at h1;omega
theorem GQ{vars:List (List UInt8)}{bs:List aM}(h:nW vars bs=true):∀b∈bs,formed b.fType=true:=fun b hb=>by
 unfold nW at h;rw[Bool.and_eq_true] at h;have h2:=List.all_eq_true.1 h.2 b hb;unfold lJ at h2;simp only[Bool.and_eq_true] at h2;exact wh h2.1.2
theorem Bg{vars:List (List UInt8)}{t:au}(h:jq vars t=true):formed t=true:=by
 unfold jq at h;rw[Bool.and_eq_true] at h;exact wh h.1
theorem M8{vars:List (List UInt8)}{e:aC}(h:oO vars e=true):gU e=true:=by
 unfold oO Cy at h;simp only[Bool.and_eq_true] at h;exact QJ h.2.1
theorem uw(xs:List aM)(n:Nat)(hfo:∀b∈xs,formed b.fType=true)(hlen:xs.length<=4194304)(hsz:∀b∈xs,b.sz<=4194304):aJ prog 100 [.c (.d (.sl (xs.map aM.enc)))] (.agg [.d (.s []),.d (.ol n (lx (xs.map oh) (n+1)))]):=fun S=>by
 obtain⟨L,hL⟩:∃L:Nat->Nat,L=fun i=>n+1+iJ ((xs.map oh).take i):=⟨_,rfl⟩;obtain⟨T,hT⟩:∃T:Nat->List (List D),T=fun i=>lx ((xs.map oh).take i) (n+1):=⟨_,rfl⟩
 have hT0:T 0=[]:=by rw[hT];rfl
 have lF:∀i,(T i).length<=i:=fun i=>by
  rw[hT];simp only[iy];exact List.length_take_le _ _
 have hTs:∀i (hi:i<xs.length),T i++[[.s [],.ol (L i) [[.s xs[i].bg,.ol (L i+1) []],[.s (dK xs[i].fType).aU,.ol (L i+1+1) (lx (dK xs[i].fType).aj (L i+1+1+1))]]]]=T (i+1):=fun i hi=>by
  have:=IG (l:=xs.map oh) (i:=i) (by rw[List.length_map];exact hi) (n+1);rw[List.getElem_map,oh,d9,dP,qb,qb,uj,yA,l9,vB] at this;rw[hT,hL];exact this
 have hTe:T xs.length=lx (xs.map oh) (n+1):=by
  rw[hT];simp only
  rw[List.take_of_length_le (by simp)]
 clear hT hL;refine Kl (n) 1 (rs:=[.cell 2 39]) zmx func100 ntmps100 rfl rfl rfl rfl rfl ?_;simp -implicitDefEqProofs (disch:=omega) only[go_sem]
 (repeat(with_reducible refine And.intro ?_ ?_;focus first|omega|rfl|assumption|exact⟨_,rfl,rfl⟩|(simp;omega)|(simp;done)))
 refine nQ n 3 2 [] (.inl rfl) (by simp) ?_;refine yh (L 0) ?_
 refine bF (ι:=Nat) zmx rfl [2,3,7,8,9] (fun i=>[.c (.ptr (0,2) 0),.c (.bK (0,3) (T i)),.c (.d (.sl (xs.map aM.enc))),.c (.d (.i .i64 xs.length)),.c (.d (.i .i64 i))])
  (fun i=>[.seed (L i),.seed 1,.box [.d (.s []),.bE []],.dY n 2 (T i)]::S)
  (fun i=>i<=xs.length) (fun i=>xs.length-i) 0 (by rw[hT0];rfl) (by rw[hT0];rfl) (Nat.zero_le _) ?_
 intro i hi;have hl:=lF i;simp -implicitDefEqProofs (disch:=omega) only[go_sem]
 with_reducible refine aD (fun hb=> ?_) (fun hb=> ?_)<;>have h:=hb<;>(try simp only[wf_preprocess] at h)<;>simp -implicitDefEqProofs (disch:=omega) only[go_sem,hb]<;>(repeat(with_reducible refine And.intro ?_ ?_;focus first|omega|rfl|assumption|exact⟨_,rfl,rfl⟩|(simp;omega)|(simp;done)))
 ·have hi':i<xs.length:=by omega
  have hm:=List.getElem_mem hi';have hcz:=hsz _ hm;have hce:=aM.sum xs[i];have hs:=hTs i hi'
  (repeat(with_reducible refine And.intro ?_ ?_;focus first|omega|rfl|assumption|exact⟨_,rfl,rfl⟩|(simp;omega)|(simp;done)))
  refine aA (dS _ (L i+1)) ?_;simp -implicitDefEqProofs (disch:=omega) only[go_sem];refine aA (oN xs[i].fType (L i+1+1) (hfo _ hm) (by omega)) ?_;simp -implicitDefEqProofs (disch:=omega) only[go_sem]
  (repeat(with_reducible refine And.intro ?_ ?_;focus first|omega|rfl|assumption|exact⟨_,rfl,rfl⟩|(simp;omega)|(simp;done)))
  refine aA (tK _ _) ?_;simp -implicitDefEqProofs (disch:=omega) only[go_sem]
  (repeat(with_reducible refine And.intro ?_ ?_;focus first|omega|rfl|assumption|exact⟨_,rfl,rfl⟩|(simp;omega)|(simp;done)))
  rw[hs];refine Qz (L (i+1)) 3 (by decide) (i+1) (by omega) rfl rfl ?_ rfl (by omega);simp[nk,jk,V.refs,C.refs,om]
 ·have hi':i=xs.length:=by omega
  refine aT rfl (lD 0 3 _ _) ?_;simp -implicitDefEqProofs (disch:=omega) only[go_sem];rw[hi',hTe]
theorem wD(xs:List aM)(hlen:xs.length<=4194304)(hsz:∀b∈xs,b.sz<=4194304):aJ prog 41 [.c (.d (.sl (xs.map aM.enc)))] (.agg [.d (.s []),.d (.sl ((xs.map oh).map ah.enc))]):=fun S=>by
 obtain⟨T,hT⟩:∃T:Nat->List (List D),T=fun i=>((xs.map oh).take i).map ah.enc:=⟨_,rfl⟩
 have hT0:T 0=[]:=by rw[hT];rfl
 have lF:∀i,(T i).length<=i:=fun i=>by
  rw[hT];simp only[List.length_map];exact List.length_take_le _ _
 have hTs:∀i (hi:i<xs.length),T i++[[.s [],.sl [[.s xs[i].bg,.sl []],[.s (dK xs[i].fType).aU,.sl ((dK xs[i].fType).aj.map ah.enc)]]]]=T (i+1):=fun i hi=>by
  have:=lQ (base:=[]) (l:=xs.map oh) (i:=i) (by rw[List.length_map];exact hi);rw[List.getElem_map,oh,d9,dP,List.map_cons,List.map_cons,List.map_nil,gq,ah.aB (dK xs[i].fType)] at this;rw[hT];exact this
 have hTe:T xs.length=(xs.map oh).map ah.enc:=by
  rw[hT];simp only
  rw[List.take_of_length_le (by simp)]
 clear hT;refine zcx [.cell 2 39] func41 ntmps41 ?_;simp -implicitDefEqProofs (disch:=omega) only[go_sem];refine AQ 1 1 2 [] [.d (.s []),.bE []] rfl rfl (by simp) ?_
 refine bF (ι:=Nat) zmx rfl [0,2,3,4] (fun i=>[.c (.d (.sl (xs.map aM.enc))),.c (.ptr (0,0) 0),.c (.ptr (0,1) 0),.c (.d (.i .i64 i))])
  (fun i=>[.box [.d (.s []),.bE []],.box [.d (.s []),.bK (0,2) (T i)],.tok 2 (T i)]::S)
  (fun i=>i<=xs.length) (fun i=>xs.length-i) 0 rfl (by rw[hT0];rfl) (Nat.zero_le _) ?_
 intro i hi;have hl:=lF i;simp -implicitDefEqProofs (disch:=omega) only[go_sem]
 with_reducible refine aD (fun hb=> ?_) (fun hb=> ?_)<;>have h:=hb<;>(try simp only[wf_preprocess] at h)<;>simp -implicitDefEqProofs (disch:=omega) only[go_sem,hb]<;>(repeat(with_reducible refine And.intro ?_ ?_;focus first|omega|rfl|assumption|exact⟨_,rfl,rfl⟩|(simp;omega)|(simp;done)))
 ·have hi':i<xs.length:=by omega
  have hm:=List.getElem_mem hi';have hcz:=hsz _ hm;have hce:=aM.sum xs[i];have hs:=hTs i hi'
  (repeat(with_reducible refine And.intro ?_ ?_;focus first|omega|rfl|assumption|exact⟨_,rfl,rfl⟩|(simp;omega)|(simp;done)))
  refine aA (bO _) ?_;simp -implicitDefEqProofs (disch:=omega) only[go_sem]
  (repeat(with_reducible refine And.intro ?_ ?_;focus first|omega|rfl|assumption|exact⟨_,rfl,rfl⟩|(simp;omega)|(simp;done)))
  refine aA (qx xs[i].fType (by omega)) ?_;simp -implicitDefEqProofs (disch:=omega) only[go_sem]
  (repeat(with_reducible refine And.intro ?_ ?_;focus first|omega|rfl|assumption|exact⟨_,rfl,rfl⟩|(simp;omega)|(simp;done)))
  refine aA (nN _ (by simp) (by simp)) ?_;simp -implicitDefEqProofs (disch:=omega) only[go_sem]
  (repeat(with_reducible refine And.intro ?_ ?_;focus first|omega|rfl|assumption|exact⟨_,rfl,rfl⟩|(simp;omega)|(simp;done)))
  rw[hs];exact dG (i+1) (by omega) rfl rfl (by omega)
 ·have hi':i=xs.length:=by omega
  subst hi';rw[hTe]
end Go.Ab