/-
  SEVERAL TEXTS IN ONE (merged by program): contracts and models, each with its own heading.
-/
import Derived.Test.YtnceiannponbjaaGreatDoorPartDkbE
import Derived.Test.YtnceiannponbjaaGreatDoorPartDkbI
import Derived.Test.YtnceiannponbjaaGreatDoorPartDkbL
import Derived.Test.YtnceiannponbjaaGreatDoorPartDkbN
set_option maxHeartbeats 8000000
open Go.Proofs Go.Proofs.Tryz
set_option linter.unusedSimpArgs false
set_option linter.unusedVariables false
set_option maxRecDepth 4000
namespace Go.Ab
theorem Pp{x:ay}(h:nY x=true):ig x=true:=by rw[nY,Bool.and_eq_true] at h;exact h.2
noncomputable def xI(k:Int)(n:List UInt8)(bound out:List (List UInt8)):List (List UInt8):=if k=3/\n∉bound/\n∉out then out++[n] else out
mutual
noncomputable def jg:ay->List (List UInt8)->List (List UInt8)->List (List UInt8)
 | .mk k _ n _ _ a b,bound,out=>rT b bound (oI a k n 0 bound (xI k n bound out))
noncomputable def oI:List ay->Int->List UInt8->Nat->List (List UInt8)->List (List UInt8)->List (List UInt8)
 |[],_,_,_,_,out=>out
 |x::xs,k,n,i,bound,out=>oI xs k n (i+1) bound (jg x (if k=8/\i=1 then bound++[n] else bound) out)
noncomputable def rT:List aM->List (List UInt8)->List (List UInt8)->List (List UInt8)
 |[],_,out=>out
 |x::xs,bound,out=>rT xs bound (Cy x bound out)
noncomputable def Cy:aM->List (List UInt8)->List (List UInt8)->List (List UInt8)
 | .mk _ v b,bound,out=>jg b (bound++v) out
end
theorem Pq(x:ay)(bound out:List (List UInt8)):jg x bound out=rT x.aK bound (oI x.fArgs x.aL x.fName 0 bound (xI x.aL x.fName bound out)):=by cases x;rw[jg];rfl
theorem Pt(x:aM)(bound out:List (List UInt8)):Cy x bound out=jg x.fBody (bound++x.aX) out:=by cases x;rw[Cy];rfl
theorem JF{xs:List ay}{k:Int}{n:List UInt8}{i:Nat}{bound out:List (List UInt8)}(hi:i<xs.length):oI (xs.drop i) k n i bound out=oI (xs.drop (i+1)) k n (i+1) bound (jg xs[i] (if k=8/\i=1 then bound++[n] else bound) out):=by
 rw[List.drop_eq_getElem_cons hi,oI]
theorem JG{xs:List aM}{i:Nat}{bound out:List (List UInt8)}(hi:i<xs.length):rT (xs.drop i) bound out=rT (xs.drop (i+1)) bound (Cy xs[i] bound out):=by
 rw[List.drop_eq_getElem_cons hi,rT]
theorem GY(k:Int)(n:List UInt8)(bound out:List (List UInt8)):(xI k n bound out).length<=out.length+1:=by
 unfold xI;split<;>simp
mutual
theorem rH:∀(x:ay)(bound out:List (List UInt8)),(jg x bound out).length<=out.length+x.cnt
 | .mk k t n m ty a b,bound,out=>by
   have h1:=GY k n bound out;have h2:=LU a k n 0 bound (xI k n bound out);have h3:=LV b bound (oI a k n 0 bound (xI k n bound out));rw[jg,ay.cnt];omega
theorem LU:∀(xs:List ay)(k:Int)(n:List UInt8)(i:Nat)(bound out:List (List UInt8)),(oI xs k n i bound out).length<=out.length+ay.dw xs
 |[],k,n,i,bound,out=>by rw[oI,ay.dw];omega
 |x::xs,k,n,i,bound,out=>by
  have h1:=rH x (if k=8/\i=1 then bound++[n] else bound) out;have h2:=LU xs k n (i+1) bound (jg x (if k=8/\i=1 then bound++[n] else bound) out);rw[oI,ay.dw];omega
theorem LV:∀(xs:List aM)(bound out:List (List UInt8)),(rT xs bound out).length<=out.length+aM.dw xs
 |[],bound,out=>by rw[rT,aM.dw];omega
 |x::xs,bound,out=>by
  have h1:=YJ x bound out;have h2:=LV xs bound (Cy x bound out);rw[rT,aM.dw];omega
theorem YJ:∀(x:aM)(bound out:List (List UInt8)),(Cy x bound out).length<=out.length+x.cnt
 | .mk c v b,bound,out=>by
   have h1:=rH b (bound++v) out;rw[Cy,aM.cnt];omega
end
theorem ay.rD{x:ay}{i:Nat}(hi:i<x.fArgs.length):x.fArgs[i].sz+x.fArgs.length<=x.sz:=by
 have hx:x.fArgs[i].sz<=bC (x.fArgs.map ay.enc):=fI (List.mem_map_of_mem (List.getElem_mem hi));have:=ay.y8 x;omega
theorem ay.YK{x:ay}{i:Nat}(hi:i<x.aK.length):x.aK[i].sz+x.aK.length<=x.sz:=by
 have hx:x.aK[i].sz<=bC (x.aK.map aM.enc):=fI (List.mem_map_of_mem (List.getElem_mem hi));have:=ay.y8 x;omega
theorem aM.SB(x:aM):x.aX.length+x.fBody.sz<=x.sz:=by
 simp only[aM.sz,aM.aB,ay.sz,bN,bR,D.sz,List.length_map];omega
theorem Fp(xs:List (List UInt8))(s:List UInt8):xs.map encS++[[D.s s]]=(xs++[s]).map encS:=by simp[encS]
theorem En:∀N:Nat,∀x:ay,SizeOf.sizeOf x<N->x.sz<=4194304->∀(bound out:List (List UInt8))(l j:Nat)(S:Store),aR S (l,j)=some (.tok 1 (out.map encS))->out.length+x.cnt<=1073741824->bound.length+x.sz<=1073741824->
 bD prog 177 [.c (.bG (l,j) (out.map encS)),x.v,.c (.d (.sl (bound.map encS)))] S (fun r S'=>r=.c (.bG (l,j) ((jg x bound out).map encS))/\S'=aT S (l,j) (.tok 1 ((jg x bound out).map encS)))
 |0=>fun x h=>by omega
 |N+1=>by
  have ih:=En N;intro x hn hsz bound out l j S hk hc hbd;have hb0:=ay.y8 x;have je:=ay.gZ x;have yt:=ay.qC x;have hcn:=ay.mJ x;have Je:∀y:Ab.Obj,aR (aT S (l,j) y) (l,j)=some y:=fun y=>cB _ _ _ _ hk;have hS0:aT S (l,j) (.tok 1 (out.map encS))=S:=zJ _ _ hk;have fin:=Pq x bound out;have hal:=GY x.aL x.fName bound out;obtain⟨o1,ho1⟩:∃o1,xI x.aL x.fName bound out=o1:=⟨_,rfl⟩;rw[ho1] at fin hal;refine(show Hold ?T->_ from fun tail=> ?main) ?tp
  case' main=>
   refine zcx [.tmp 6] func177 ntmps177 ?_;simp -implicitDefEqProofs (disch:=omega) only[go_sem,hk]
   repeat' (first
    |(with_reducible refine aA (fun hb=> ?_) (fun hb=> ?_)<;>have h:=hb<;>(try simp only[wf_preprocess] at h)<;>simp -implicitDefEqProofs (disch:=omega) only[go_sem,hb,hk]<;>(repeat(with_reducible refine And.intro ?_ ?_;focus first|omega|rfl|assumption|exact⟨_,rfl,rfl⟩|(simp;omega)|(simp;done))))
    |(refine au (nC bound x.fName (by omega)) ?_;simp -implicitDefEqProofs (disch:=omega) only[go_sem,hk];(repeat(with_reducible refine And.intro ?_ ?_;focus first|omega|rfl|assumption|exact⟨_,rfl,rfl⟩|(simp;omega)|(simp;done))))
    |(refine au (nC out x.fName (by omega)) ?_;simp -implicitDefEqProofs (disch:=omega) only[go_sem,hk];(repeat(with_reducible refine And.intro ?_ ?_;focus first|omega|rfl|assumption|exact⟨_,rfl,rfl⟩|(simp;omega)|(simp;done)))))
   all_goals first
    |(have ha:xI x.aL x.fName bound out=out++[x.fName]:=if_pos ⟨by assumption,by assumption,by assumption⟩)
    |(have ha:xI x.aL x.fName bound out=out:=if_neg (fun y=>by have:=y.1;have:=y.2.1;have:=y.2.2;contradiction))
   all_goals
    refine Ce (st':=[.box (x.enc.map .d)]::aT S (l,j) (.tok 1 (o1.map encS))) [0,2,4,34,35,36] [.c (.bG (1+l,j) (o1.map encS)),.c (.d (.sl (bound.map encS))),.c (.ptr (0,0) 0),.c (.d (.sl (x.fArgs.map ay.enc))),.c (.d (.i .i64 x.fArgs.length)),.c (.d (.i .i64 0))] ?_ ?_ ?_
    ·first|(rw[<-ho1,ha];rfl)|(rw[<-ho1,ha,<-Fp];rfl)
    ·first|(rw[<-ho1,ha,hS0];simp -implicitDefEqProofs (disch:=omega) only[go_sem];done)|(rw[<-ho1,ha,<-Fp];simp -implicitDefEqProofs (disch:=omega) only[go_sem];done)
    ·exact tail.out
  refine⟨?_⟩;clear ho1
  refine aZ (ι:=Nat×List (List UInt8)) zmx rfl [0,2,4,34,35,36] (fun y=>[.c (.bG (1+l,j) (y.2.map encS)),.c (.d (.sl (bound.map encS))),.c (.ptr (0,0) 0),.c (.d (.sl (x.fArgs.map ay.enc))),.c (.d (.i .i64 x.fArgs.length)),.c (.d (.i .i64 y.1))]) (fun y=>[.box (x.enc.map .d)]::aT S (l,j) (.tok 1 (y.2.map encS)))
   (fun y=>y.1<=x.fArgs.length/\y.2.length+ay.dw (x.fArgs.drop y.1)+aM.dw x.aK<=1073741824/\oI (x.fArgs.drop y.1) x.aL x.fName y.1 bound y.2=oI x.fArgs x.aL x.fName 0 bound o1) (fun y=>x.fArgs.length-y.1) (0,o1) rfl rfl ⟨Nat.zero_le _,by simp only[List.drop_zero];omega,rfl⟩ ?_
  rintro⟨i,o⟩ ⟨p1,p2,p3⟩
  have refs:∀{a b},kg 1 (iA [0,2,4,34,35,36] [.c (.bG (1+l,j) a),.c (.d (.sl (bound.map encS))),.c (.ptr (0,0) 0),.c (.d (.sl (x.fArgs.map ay.enc))),.c (.d (.i .i64 x.fArgs.length)),.c (.d (.i .i64 b))])=true:=fun {a b}=>by simp[kg,iA,V.refs,C.refs,lZ];omega
  simp only at p1 p2 p3;simp -implicitDefEqProofs (disch:=omega) only[go_sem]
  with_reducible refine aA (fun hb=> ?_) (fun hb=> ?_)<;>have h:=hb<;>(try simp only[wf_preprocess] at h)<;>simp -implicitDefEqProofs (disch:=omega) only[go_sem,hb]<;>(repeat(with_reducible refine And.intro ?_ ?_;focus first|omega|rfl|assumption|exact⟨_,rfl,rfl⟩|(simp;omega)|(simp;done)))
  ·have hi:i<x.fArgs.length:=by omega
   have hs:=List.sizeOf_lt_of_mem (List.getElem_mem hi);have hz:=ay.rD hi;rw[JF hi] at p3;rw[ay.kr hi] at p2;have hlo:=rH x.fArgs[i] (if x.aL=8/\i=1 then bound++[x.fName] else bound) o
   (repeat(with_reducible refine And.intro ?_ ?_;focus first|omega|rfl|assumption|exact⟨_,rfl,rfl⟩|(simp;omega)|(simp;done)))
   have two:x.fArgs[i].sz+(bound.length+1)<=1073741824:=by omega
   repeat' (first|with_reducible refine aA (fun hb=> ?_) (fun hb=> ?_)<;>have h:=hb<;>(try simp only[wf_preprocess] at h)<;>simp -implicitDefEqProofs (disch:=omega) only[go_sem,hb]<;>(repeat(with_reducible refine And.intro ?_ ?_;focus first|omega|rfl|assumption|exact⟨_,rfl,rfl⟩|(simp;omega)|(simp;done))))
   ·
    have e1:x.aL=8/\i=1:=⟨by omega,by omega⟩;rw[if_pos e1] at p3 hlo;refine aff rfl DS.push (YE bound (by omega) _ _) ?_;simp -implicitDefEqProofs (disch:=omega) only[go_sem]
    (repeat(with_reducible refine And.intro ?_ ?_;focus first|omega|rfl|assumption|exact⟨_,rfl,rfl⟩|(simp;omega)|(simp;done)))
    rw[Fp];refine iI [true,true,false] rfl (ih x.fArgs[i] (by omega) (by omega) (bound++[x.fName]) o (1+l) j _ (by simp -implicitDefEqProofs (disch:=omega) only[go_sem];exact Je _) (by omega) (by simp only[List.length_append,List.length_cons,List.length_nil];omega)) ?_;simp -implicitDefEqProofs (disch:=omega) only[go_sem,aH];exact dD 1 (by decide) (i+1,jg x.fArgs[i] (bound++[x.fName]) o) (by simp only;omega) rfl rfl refs rfl ⟨by simp only;omega,by simp only;omega,p3⟩
   all_goals
    have e1:¬(x.aL=8/\i=1):=fun h=>by omega
    rw[if_neg e1] at p3 hlo;refine bB rfl (ih x.fArgs[i] (by omega) (by omega) bound o (1+l) j _ (by simp -implicitDefEqProofs (disch:=omega) only[go_sem];exact Je _) (by omega) (by omega)) ?_;simp -implicitDefEqProofs (disch:=omega) only[go_sem,aH];exact dD 1 (by decide) (i+1,jg x.fArgs[i] bound o) (by simp only;omega) rfl rfl refs rfl ⟨by simp only;omega,by simp only;omega,p3⟩
  have hi:i=x.fArgs.length:=by omega
  rw[hi,List.drop_length] at p2 p3;rw[ay.dw] at p2;rw[oI] at p3;rw[<-p3] at fin;clear p3 refs
  refine aZ (ι:=Nat×List (List UInt8)) zmx rfl [0,2,63,64,65] (fun y=>[.c (.bG (1+l,j) (y.2.map encS)),.c (.d (.sl (bound.map encS))),.c (.d (.sl (x.aK.map aM.enc))),.c (.d (.i .i64 x.aK.length)),.c (.d (.i .i64 y.1))]) (fun y=>[.box (x.enc.map .d)]::aT S (l,j) (.tok 1 (y.2.map encS)))
   (fun y=>y.1<=x.aK.length/\y.2.length+aM.dw (x.aK.drop y.1)<=1073741824/\rT (x.aK.drop y.1) bound y.2=jg x bound out) (fun y=>x.aK.length-y.1) (0,o) rfl ?_ ⟨Nat.zero_le _,by simp only[List.drop_zero];omega,fin.symm⟩ ?_
  ·simp -implicitDefEqProofs (disch:=omega) only[go_sem]
  clear p1 p2 fin hal;rintro⟨i,o⟩ ⟨p1,p2,p3⟩
  have refs:∀a b,kg 1 (iA [0,2,63,64,65] [.c (.bG (1+l,j) a),.c (.d (.sl (bound.map encS))),.c (.d (.sl (x.aK.map aM.enc))),.c (.d (.i .i64 x.aK.length)),.c (.d (.i .i64 b))])=true:=fun a b=>by simp[kg,iA,V.refs,C.refs,lZ];omega
  simp only at p1 p2 p3;simp -implicitDefEqProofs (disch:=omega) only[go_sem]
  with_reducible refine aA (fun hb=> ?_) (fun hb=> ?_)<;>have h:=hb<;>(try simp only[wf_preprocess] at h)<;>simp -implicitDefEqProofs (disch:=omega) only[go_sem,hb]<;>(repeat(with_reducible refine And.intro ?_ ?_;focus first|omega|rfl|assumption|exact⟨_,rfl,rfl⟩|(simp;omega)|(simp;done)))
  ·have hi:i<x.aK.length:=by omega
   have hs:=List.sizeOf_lt_of_mem (List.getElem_mem hi);have hs':=aM.oO x.aK[i];have hz:=ay.YK hi;have hz':=aM.SB x.aK[i];rw[JG hi,Pt] at p3;rw[aM.kr hi] at p2;have hlo:=rH x.aK[i].fBody (bound++x.aK[i].aX) o;have hcc:=Vp [bound,x.aK[i].aX] (by simp) (by simp only[List.flatten_cons,List.flatten_nil,List.append_nil,List.length_append];omega);simp only[List.map_cons,List.map_nil,List.flatten_cons,List.flatten_nil,List.append_nil] at hcc
   (repeat(with_reducible refine And.intro ?_ ?_;focus first|omega|rfl|assumption|exact⟨_,rfl,rfl⟩|(simp;omega)|(simp;done)))
   refine au hcc ?_;simp -implicitDefEqProofs (disch:=omega) only[go_sem];refine bB rfl (ih x.aK[i].fBody (by omega) (by omega) (bound++x.aK[i].aX) o (1+l) j _ (by simp -implicitDefEqProofs (disch:=omega) only[go_sem];exact Je _) (by omega) (by simp only[List.length_append];omega)) ?_;simp -implicitDefEqProofs (disch:=omega) only[go_sem,aH];exact dD 1 (by decide) (i+1,jg x.aK[i].fBody (bound++x.aK[i].aX) o) (by simp only;omega) rfl rfl (refs _ _) rfl ⟨by simp only;omega,by simp only;omega,p3⟩
  ·have hi:i=x.aK.length:=by omega
   rw[hi,List.drop_length,rT] at p3;rw[<-p3];exact⟨rfl,rfl⟩
theorem JH(x:ay)(hsz:x.sz<=4194304):aG prog 117 [x.v] (.c (.d (.sl ((jg x [] []).map encS)))):=fun S=>by
 have hc:=ay.kM x
 have h0:∀S,bD prog 177 [.c (.bA []),x.v,.c (.d (.sl []))] S (fun r S'=>r=.c (.d (.sl ((jg x [] []).map encS)))/\S'=S):=fun S=>by
  refine bD.aaT 0 (es:=[]) (aN:=1) rfl (by simp) (En _ x (Nat.lt_succ_self _) hsz [] [] 0 0 ([.tok 1 []]::S) rfl (by simp;omega) (by simp;omega)) ?_;rintro r fr S' ⟨rfl,h2⟩;injection h2 with h2 h3;exact⟨_,rfl,rfl,h3⟩
 refine zcx [.tmp 2] func117 ntmps117 ?_;simp -implicitDefEqProofs (disch:=omega) only[go_sem]
 (repeat(with_reducible refine And.intro ?_ ?_;focus first|omega|rfl|assumption|exact⟨_,rfl,rfl⟩|(simp;omega)|(simp;done)))
 refine iI [true,true,false] rfl (h0 _) ?_;simp -implicitDefEqProofs (disch:=omega) only[go_sem]
theorem Eo:∀N:Nat,∀x:ay,SizeOf.sizeOf x<N->x.sz<=4194304->∀(bound out:List (List UInt8))(l j:Nat)(S:Store),aR S (l,j)=some (.tok 1 (out.map encS))->out.length+x.cnt<=1073741824->bound.length+x.sz<=1073741824->
 bD prog 182 [x.v,.c (.d (.sl (bound.map encS))),.c (.bG (l,j) (out.map encS))] S (fun r S'=>r=.c (.bG (l,j) ((jg x bound out).map encS))/\S'=aT S (l,j) (.tok 1 ((jg x bound out).map encS)))
 |0=>fun x h=>by omega
 |N+1=>by
  have ih:=Eo N;intro x hn hsz bound out l j S hk hc hbd;have hb0:=ay.y8 x;have je:=ay.gZ x;have yt:=ay.qC x;have hcn:=ay.mJ x;have Je:∀y:Ab.Obj,aR (aT S (l,j) y) (l,j)=some y:=fun y=>cB _ _ _ _ hk;have hS0:aT S (l,j) (.tok 1 (out.map encS))=S:=zJ _ _ hk;have fin:=Pq x bound out;have hal:=GY x.aL x.fName bound out;obtain⟨o1,ho1⟩:∃o1,xI x.aL x.fName bound out=o1:=⟨_,rfl⟩;rw[ho1] at fin hal;refine(show Hold ?T->_ from fun tail=> ?main) ?tp
  case' main=>
   refine zcx [.tmp 6] func182 ntmps182 ?_;simp -implicitDefEqProofs (disch:=omega) only[go_sem,hk]
   repeat' (first
    |(with_reducible refine aA (fun hb=> ?_) (fun hb=> ?_)<;>have h:=hb<;>(try simp only[wf_preprocess] at h)<;>simp -implicitDefEqProofs (disch:=omega) only[go_sem,hb,hk]<;>(repeat(with_reducible refine And.intro ?_ ?_;focus first|omega|rfl|assumption|exact⟨_,rfl,rfl⟩|(simp;omega)|(simp;done))))
    |(refine au (ow bound x.fName (by omega)) ?_;simp -implicitDefEqProofs (disch:=omega) only[go_sem,hk];(repeat(with_reducible refine And.intro ?_ ?_;focus first|omega|rfl|assumption|exact⟨_,rfl,rfl⟩|(simp;omega)|(simp;done))))
    |(refine au (ow out x.fName (by omega)) ?_;simp -implicitDefEqProofs (disch:=omega) only[go_sem,hk];(repeat(with_reducible refine And.intro ?_ ?_;focus first|omega|rfl|assumption|exact⟨_,rfl,rfl⟩|(simp;omega)|(simp;done)))))
   all_goals first
    |(have ha:xI x.aL x.fName bound out=out++[x.fName]:=if_pos ⟨by assumption,by assumption,by assumption⟩)
    |(have ha:xI x.aL x.fName bound out=out:=if_neg (fun y=>by have:=y.1;have:=y.2.1;have:=y.2.2;contradiction))
   all_goals
    refine Ce (st':=[.box (x.enc.map .d)]::aT S (l,j) (.tok 1 (o1.map encS))) [1,2,3,7] [.c (.d (.sl (bound.map encS))),.c (.bG (1+l,j) (o1.map encS)),.c (.ptr (0,0) 0),.c (.d (.i .i64 0))] ?_ ?_ ?_
    ·first|(rw[<-ho1,ha];rfl)|(rw[<-ho1,ha,<-Fp];rfl)
    ·first|(rw[<-ho1,ha,hS0];simp -implicitDefEqProofs (disch:=omega) only[go_sem];done)|(rw[<-ho1,ha,<-Fp];simp -implicitDefEqProofs (disch:=omega) only[go_sem];done)
    ·exact tail.out
  refine⟨?_⟩;clear ho1
  refine aZ (ι:=Nat×List (List UInt8)) zmx rfl [1,2,3,7] (fun y=>[.c (.d (.sl (bound.map encS))),.c (.bG (1+l,j) (y.2.map encS)),.c (.ptr (0,0) 0),.c (.d (.i .i64 y.1))]) (fun y=>[.box (x.enc.map .d)]::aT S (l,j) (.tok 1 (y.2.map encS)))
   (fun y=>y.1<=x.fArgs.length/\y.2.length+ay.dw (x.fArgs.drop y.1)+aM.dw x.aK<=1073741824/\oI (x.fArgs.drop y.1) x.aL x.fName y.1 bound y.2=oI x.fArgs x.aL x.fName 0 bound o1) (fun y=>x.fArgs.length-y.1) (0,o1) rfl rfl ⟨Nat.zero_le _,by simp only[List.drop_zero];omega,rfl⟩ ?_
  rintro⟨i,o⟩ ⟨p1,p2,p3⟩
  have refs:∀{a b},kg 1 (iA [1,2,3,7] [.c (.d (.sl (bound.map encS))),.c (.bG (1+l,j) a),.c (.ptr (0,0) 0),.c (.d (.i .i64 b))])=true:=fun {a b}=>by simp[kg,iA,V.refs,C.refs,lZ];omega
  simp only at p1 p2 p3;simp -implicitDefEqProofs (disch:=omega) only[go_sem]
  with_reducible refine aA (fun hb=> ?_) (fun hb=> ?_)<;>have h:=hb<;>(try simp only[wf_preprocess] at h)<;>simp -implicitDefEqProofs (disch:=omega) only[go_sem,hb]<;>(repeat(with_reducible refine And.intro ?_ ?_;focus first|omega|rfl|assumption|exact⟨_,rfl,rfl⟩|(simp;omega)|(simp;done)))
  ·have hi:i<x.fArgs.length:=by omega
   have hs:=List.sizeOf_lt_of_mem (List.getElem_mem hi);have hz:=ay.rD hi;rw[JF hi] at p3;rw[ay.kr hi] at p2;have hlo:=rH x.fArgs[i] (if x.aL=8/\i=1 then bound++[x.fName] else bound) o
   have two:x.fArgs[i].sz+(bound.length+1)<=1073741824:=by omega
   repeat' (first|with_reducible refine aA (fun hb=> ?_) (fun hb=> ?_)<;>have h:=hb<;>(try simp only[wf_preprocess] at h)<;>simp -implicitDefEqProofs (disch:=omega) only[go_sem,hb]<;>(repeat(with_reducible refine And.intro ?_ ?_;focus first|omega|rfl|assumption|exact⟨_,rfl,rfl⟩|(simp;omega)|(simp;done))))
   ·have e1:x.aL=8/\i=1:=⟨by omega,by omega⟩;rw[if_pos e1] at p3 hlo;refine⟨zq,⟨_,rfl,rfl⟩,fun y hy=>(by cases hy),by omega,?_⟩
    (repeat(with_reducible refine And.intro ?_ ?_;focus first|omega|rfl|assumption|exact⟨_,rfl,rfl⟩|(simp;omega)|(simp;done)))
    rw[Fp];refine iI [true,false,true] rfl (ih x.fArgs[i] (by omega) (by omega) (bound++[x.fName]) o (1+l) j _ (by simp -implicitDefEqProofs (disch:=omega) only[go_sem];exact Je _) (by omega) (by simp only[List.length_append,List.length_cons,List.length_nil];omega)) ?_;simp -implicitDefEqProofs (disch:=omega) only[go_sem,aH];exact dD 1 (by decide) (i+1,jg x.fArgs[i] (bound++[x.fName]) o) (by simp only;omega) rfl rfl refs rfl ⟨by simp only;omega,by simp only;omega,p3⟩
   all_goals
    have e1:¬(x.aL=8/\i=1):=fun h=>by omega
    rw[if_neg e1] at p3 hlo
    (repeat(with_reducible refine And.intro ?_ ?_;focus first|omega|rfl|assumption|exact⟨_,rfl,rfl⟩|(simp;omega)|(simp;done)))
    refine bB rfl (ih x.fArgs[i] (by omega) (by omega) bound o (1+l) j _ (by simp -implicitDefEqProofs (disch:=omega) only[go_sem];exact Je _) (by omega) (by omega)) ?_;simp -implicitDefEqProofs (disch:=omega) only[go_sem,aH];exact dD 1 (by decide) (i+1,jg x.fArgs[i] bound o) (by simp only;omega) rfl rfl refs rfl ⟨by simp only;omega,by simp only;omega,p3⟩
  have hi:i=x.fArgs.length:=by omega
  rw[hi,List.drop_length] at p2 p3;rw[ay.dw] at p2;rw[oI] at p3;rw[<-p3] at fin;clear p3 refs
  refine aZ (ι:=Nat×List (List UInt8)) zmx rfl [1,2,3,9] (fun y=>[.c (.d (.sl (bound.map encS))),.c (.bG (1+l,j) (y.2.map encS)),.c (.ptr (0,0) 0),.c (.d (.i .i64 y.1))]) (fun y=>[.box (x.enc.map .d)]::aT S (l,j) (.tok 1 (y.2.map encS)))
   (fun y=>y.1<=x.aK.length/\y.2.length+aM.dw (x.aK.drop y.1)<=1073741824/\rT (x.aK.drop y.1) bound y.2=jg x bound out) (fun y=>x.aK.length-y.1) (0,o) rfl ?_ ⟨Nat.zero_le _,by simp only[List.drop_zero];omega,fin.symm⟩ ?_
  ·simp -implicitDefEqProofs (disch:=omega) only[go_sem]
  clear p1 p2 fin hal;rintro⟨i,o⟩ ⟨p1,p2,p3⟩
  have refs:∀a b,kg 1 (iA [1,2,3,9] [.c (.d (.sl (bound.map encS))),.c (.bG (1+l,j) a),.c (.ptr (0,0) 0),.c (.d (.i .i64 b))])=true:=fun a b=>by simp[kg,iA,V.refs,C.refs,lZ];omega
  simp only at p1 p2 p3;simp -implicitDefEqProofs (disch:=omega) only[go_sem]
  with_reducible refine aA (fun hb=> ?_) (fun hb=> ?_)<;>have h:=hb<;>(try simp only[wf_preprocess] at h)<;>simp -implicitDefEqProofs (disch:=omega) only[go_sem,hb]<;>(repeat(with_reducible refine And.intro ?_ ?_;focus first|omega|rfl|assumption|exact⟨_,rfl,rfl⟩|(simp;omega)|(simp;done)))
  ·have hi:i<x.aK.length:=by omega
   have hs:=List.sizeOf_lt_of_mem (List.getElem_mem hi);have hs':=aM.oO x.aK[i];have hz:=ay.YK hi;have hz':=aM.SB x.aK[i];rw[JG hi,Pt] at p3;rw[aM.kr hi] at p2;have hlo:=rH x.aK[i].fBody (bound++x.aK[i].aX) o;refine⟨zq,⟨_,rfl,rfl⟩,fun y hy=>(by cases hy),by omega,⟨by omega,hi⟩,zq,⟨_,rfl,rfl⟩,by omega,?_⟩;rw[<-List.map_append];refine iI [true,false,true] rfl (ih x.aK[i].fBody (by omega) (by omega) (bound++x.aK[i].aX) o (1+l) j _ (by simp -implicitDefEqProofs (disch:=omega) only[go_sem];exact Je _) (by omega) (by simp only[List.length_append];omega)) ?_;simp -implicitDefEqProofs (disch:=omega) only[go_sem,aH];exact dD 1 (by decide) (i+1,jg x.aK[i].fBody (bound++x.aK[i].aX) o) (by simp only;omega) rfl rfl (refs _ _) rfl ⟨by simp only;omega,by simp only;omega,p3⟩
  ·have hi:i=x.aK.length:=by omega
   rw[hi,List.drop_length,rT] at p3;rw[<-p3];exact⟨rfl,rfl⟩
theorem JI(x:ay)(hsz:x.sz<=4194304):aG prog 125 [x.v] (.c (.d (.sl ((jg x [] []).map encS)))):=fun S=>by
 have hc:=ay.kM x
 have h0:∀S,bD prog 182 [x.v,.c (.d (.sl [])),.c (.bA [])] S (fun r S'=>r=.c (.d (.sl ((jg x [] []).map encS)))/\S'=S):=fun S=>by
  refine bD.aaT 2 (es:=[]) (aN:=1) rfl (by simp) (Eo _ x (Nat.lt_succ_self _) hsz [] [] 0 0 ([.tok 1 []]::S) rfl (by simp;omega) (by simp;omega)) ?_;rintro r fr S' ⟨rfl,h2⟩;injection h2 with h2 h3;exact⟨_,rfl,rfl,h3⟩
 refine zcx [.tmp 2] func125 ntmps125 ?_;simp -implicitDefEqProofs (disch:=omega) only[go_sem]
 (repeat(with_reducible refine And.intro ?_ ?_;focus first|omega|rfl|assumption|exact⟨_,rfl,rfl⟩|(simp;omega)|(simp;done)))
 refine iI [true,false,true] rfl (h0 _) ?_;simp -implicitDefEqProofs (disch:=omega) only[go_sem]
theorem ay.zu{x:ay}(h:x.sz<=4194304):x.bE.length<=4194304/\x.fName.length<=4194304/\x.fType.sz<=4194304/\x.fArgs.length<=4194304/\x.aK.length<=4194304:=by
 simp only[ay.sz,ay.aB,bN,bR,D.sz,List.length_map,ak.dQ] at h;omega
theorem ay.acR{x:ay}{i:Nat}(hi:i<x.fArgs.length)(h:x.sz<=4194304):x.fArgs[i].sz<=4194304:=by
 have hx:x.fArgs[i].sz<=bC (x.fArgs.map ay.enc):=fI (List.mem_map_of_mem (List.getElem_mem hi));simp only[ay.sz,ay.aB,bN,bR,D.sz,List.length_map,ak.dQ] at h;omega
theorem ay.acS{x:ay}{i:Nat}(hi:i<x.aK.length)(h:x.sz<=4194304):x.aK[i].sz<=4194304:=by
 have hx:x.aK[i].sz<=bC (x.aK.map aM.enc):=fI (List.mem_map_of_mem (List.getElem_mem hi));simp only[ay.sz,ay.aB,bN,bR,D.sz,List.length_map,ak.dQ] at h;omega
theorem aM.zu{x:aM}(h:x.sz<=4194304):x.bS.length<=4194304/\x.aX.length<=4194304/\x.fBody.sz<=4194304:=by
 simp only[aM.sz,aM.aB,bN,bR,D.sz,List.length_map,ay.dQ] at h;omega
theorem xS:∀n:Nat,∀x:ay,SizeOf.sizeOf x<n->∀y:ay,x.sz<=4194304->aG prog 190 [x.v,y.v] (.c (.d (.b (dec (x=y)))))
 |0=>fun x h=>by omega
 |n+1=>by
  have ih:=xS n;intro x hn y hsz S;have je:=ay.gZ x;have yt:=ay.qC x;have hb0:=ay.zu hsz
  have hargs:=Gy 190 x.fArgs y.fArgs (by omega) (fun u hu v=>by
   obtain⟨i,hi,e⟩:=List.getElem_of_mem hu;have:=List.sizeOf_lt_of_mem hu
   exact ih u (by omega) v (by rw[<-e];exact ay.acR hi hsz))
  have aho:=Jg 218 x.aK y.aK (by omega) (fun u hu v=>by
   obtain⟨i,hi,e⟩:=List.getElem_of_mem hu;have hs:=List.sizeOf_lt_of_mem hu
   have hz:u.sz<=4194304:=by rw[<-e];exact ay.acS hi hsz
   have hz':=aM.zu hz;have ahp:=aM.oO u;intro S;refine zcx [.tmp 4] func218 ntmps218 ?_;simp -implicitDefEqProofs (disch:=omega) only[go_sem]
   with_reducible refine aA (fun hb=> ?_) (fun hb=> ?_)<;>have h:=hb<;>(try simp only[wf_preprocess] at h)<;>simp -implicitDefEqProofs (disch:=omega) only[go_sem,hb]<;>(repeat(with_reducible refine And.intro ?_ ?_;focus first|omega|rfl|assumption|exact⟨_,rfl,rfl⟩|(simp;omega)|(simp;done)))
   ·have h1:=h;refine au (Yl u.aX v.aX (by omega)) ?_;simp -implicitDefEqProofs (disch:=omega) only[go_sem]<;>(repeat(with_reducible refine And.intro ?_ ?_;focus first|omega|rfl|assumption|exact⟨_,rfl,rfl⟩|(simp;omega)|(simp;done)))
    with_reducible refine aA (fun hb=> ?_) (fun hb=> ?_)<;>have h:=hb<;>(try simp only[wf_preprocess] at h)<;>simp -implicitDefEqProofs (disch:=omega) only[go_sem,hb]<;>(repeat(with_reducible refine And.intro ?_ ?_;focus first|omega|rfl|assumption|exact⟨_,rfl,rfl⟩|(simp;omega)|(simp;done)))
    ·have h2:=h;refine au (ih u.fBody (by omega) v.fBody (by omega)) ?_;simp -implicitDefEqProofs (disch:=omega) only[go_sem]<;>(repeat(with_reducible refine And.intro ?_ ?_;focus first|omega|rfl|assumption|exact⟨_,rfl,rfl⟩|(simp;omega)|(simp;done)));exact aI (iT ⟨fun e=>aM.ext h1 h2 e,fun e=>by rw[e]⟩)
    ·exact aI (aO (fun e=>h (by rw[e]))).symm
   ·exact aI (aO (fun e=>h (by rw[e]))).symm)
  refine zcx [.tmp 4] func190 ntmps190 ?_;simp -implicitDefEqProofs (disch:=omega) only[go_sem]
  with_reducible refine aA (fun hb=> ?_) (fun hb=> ?_)<;>have h:=hb<;>(try simp only[wf_preprocess] at h)<;>simp -implicitDefEqProofs (disch:=omega) only[go_sem,hb]<;>(repeat(with_reducible refine And.intro ?_ ?_;focus first|omega|rfl|assumption|exact⟨_,rfl,rfl⟩|(simp;omega)|(simp;done)))
  ·have h1:=h
   with_reducible refine aA (fun hb=> ?_) (fun hb=> ?_)<;>have h:=hb<;>(try simp only[wf_preprocess] at h)<;>simp -implicitDefEqProofs (disch:=omega) only[go_sem,hb]<;>(repeat(with_reducible refine And.intro ?_ ?_;focus first|omega|rfl|assumption|exact⟨_,rfl,rfl⟩|(simp;omega)|(simp;done)))
   ·have h2:=h
    with_reducible refine aA (fun hb=> ?_) (fun hb=> ?_)<;>have h:=hb<;>(try simp only[wf_preprocess] at h)<;>simp -implicitDefEqProofs (disch:=omega) only[go_sem,hb]<;>(repeat(with_reducible refine And.intro ?_ ?_;focus first|omega|rfl|assumption|exact⟨_,rfl,rfl⟩|(simp;omega)|(simp;done)))
    ·have h3:=h
     with_reducible refine aA (fun hb=> ?_) (fun hb=> ?_)<;>have h:=hb<;>(try simp only[wf_preprocess] at h)<;>simp -implicitDefEqProofs (disch:=omega) only[go_sem,hb]<;>(repeat(with_reducible refine And.intro ?_ ?_;focus first|omega|rfl|assumption|exact⟨_,rfl,rfl⟩|(simp;omega)|(simp;done)))
     ·have h4:=h;refine au (Gw x.fType y.fType (by omega)) ?_;simp -implicitDefEqProofs (disch:=omega) only[go_sem]<;>(repeat(with_reducible refine And.intro ?_ ?_;focus first|omega|rfl|assumption|exact⟨_,rfl,rfl⟩|(simp;omega)|(simp;done)))
      with_reducible refine aA (fun hb=> ?_) (fun hb=> ?_)<;>have h:=hb<;>(try simp only[wf_preprocess] at h)<;>simp -implicitDefEqProofs (disch:=omega) only[go_sem,hb]<;>(repeat(with_reducible refine And.intro ?_ ?_;focus first|omega|rfl|assumption|exact⟨_,rfl,rfl⟩|(simp;omega)|(simp;done)))
      ·have h5:=h;refine au (hargs) ?_;simp -implicitDefEqProofs (disch:=omega) only[go_sem]<;>(repeat(with_reducible refine And.intro ?_ ?_;focus first|omega|rfl|assumption|exact⟨_,rfl,rfl⟩|(simp;omega)|(simp;done)))
       with_reducible refine aA (fun hb=> ?_) (fun hb=> ?_)<;>have h:=hb<;>(try simp only[wf_preprocess] at h)<;>simp -implicitDefEqProofs (disch:=omega) only[go_sem,hb]<;>(repeat(with_reducible refine And.intro ?_ ?_;focus first|omega|rfl|assumption|exact⟨_,rfl,rfl⟩|(simp;omega)|(simp;done)))
       ·have h6:=h;refine au (aho) ?_;simp -implicitDefEqProofs (disch:=omega) only[go_sem]<;>(repeat(with_reducible refine And.intro ?_ ?_;focus first|omega|rfl|assumption|exact⟨_,rfl,rfl⟩|(simp;omega)|(simp;done)));exact aI (iT ⟨fun e=>ay.ext h1 h2 h3 h4 h5 h6 e,fun e=>by rw[e]⟩)
       ·exact aI (aO (fun e=>h (by rw[e]))).symm
      ·exact aI (aO (fun e=>h (by rw[e]))).symm
     ·exact aI (aO (fun e=>h (by rw[e]))).symm
    ·exact aI (aO (fun e=>h (by rw[e]))).symm
   ·exact aI (aO (fun e=>h (by rw[e]))).symm
  ·exact aI (aO (fun e=>h (by rw[e]))).symm
theorem GZ(x y:ay)(h:x.sz<=4194304):aG prog 190 [x.v,y.v] (.c (.d (.b (dec (x=y))))):=xS _ x (Nat.lt_succ_self _) y h
theorem xU:∀n:Nat,∀x:ay,SizeOf.sizeOf x<n->∀y:ay,x.sz<=4194304->aG prog 191 [x.v,y.v] (.c (.d (.b (dec (x=y)))))
 |0=>fun x h=>by omega
 |n+1=>by
  have ih:=xU n;intro x hn y hsz S;have je:=ay.gZ x;have yt:=ay.qC x;have hb0:=ay.zu hsz;refine zcx [.tmp 4] func191 ntmps191 ?_;simp -implicitDefEqProofs (disch:=omega) only[go_sem]
  with_reducible refine aA (fun hb=> ?_) (fun hb=> ?_)<;>have h:=hb<;>(try simp only[wf_preprocess] at h)<;>simp -implicitDefEqProofs (disch:=omega) only[go_sem,hb]<;>(repeat(with_reducible refine And.intro ?_ ?_;focus first|omega|rfl|assumption|exact⟨_,rfl,rfl⟩|(simp;omega)|(simp;done)))
  ·exact aI (aO (fun e=>h (by rw[e]))).symm
  have h1:=h
  with_reducible refine aA (fun hb=> ?_) (fun hb=> ?_)<;>have h:=hb<;>(try simp only[wf_preprocess] at h)<;>simp -implicitDefEqProofs (disch:=omega) only[go_sem,hb]<;>(repeat(with_reducible refine And.intro ?_ ?_;focus first|omega|rfl|assumption|exact⟨_,rfl,rfl⟩|(simp;omega)|(simp;done)))
  ·exact aI (aO (fun e=>h (by rw[e]))).symm
  have h2:=h
  with_reducible refine aA (fun hb=> ?_) (fun hb=> ?_)<;>have h:=hb<;>(try simp only[wf_preprocess] at h)<;>simp -implicitDefEqProofs (disch:=omega) only[go_sem,hb]<;>(repeat(with_reducible refine And.intro ?_ ?_;focus first|omega|rfl|assumption|exact⟨_,rfl,rfl⟩|(simp;omega)|(simp;done)))
  ·exact aI (aO (fun e=>h (by rw[e]))).symm
  have h3:=h
  with_reducible refine aA (fun hb=> ?_) (fun hb=> ?_)<;>have h:=hb<;>(try simp only[wf_preprocess] at h)<;>simp -implicitDefEqProofs (disch:=omega) only[go_sem,hb]<;>(repeat(with_reducible refine And.intro ?_ ?_;focus first|omega|rfl|assumption|exact⟨_,rfl,rfl⟩|(simp;omega)|(simp;done)))
  ·exact aI (aO (fun e=>h (by rw[e]))).symm
  have h4:=h;refine au (Gv x.fType y.fType (by omega)) ?_;simp -implicitDefEqProofs (disch:=omega) only[go_sem]<;>(repeat(with_reducible refine And.intro ?_ ?_;focus first|omega|rfl|assumption|exact⟨_,rfl,rfl⟩|(simp;omega)|(simp;done)))
  with_reducible refine aA (fun hb=> ?_) (fun hb=> ?_)<;>have h:=hb<;>(try simp only[wf_preprocess] at h)<;>simp -implicitDefEqProofs (disch:=omega) only[go_sem,hb]<;>(repeat(with_reducible refine And.intro ?_ ?_;focus first|omega|rfl|assumption|exact⟨_,rfl,rfl⟩|(simp;omega)|(simp;done)))
  ·exact aI (aO (fun e=>h (by rw[e]))).symm
  have h5:=h
  with_reducible refine aA (fun hb=> ?_) (fun hb=> ?_)<;>have h:=hb<;>(try simp only[wf_preprocess] at h)<;>simp -implicitDefEqProofs (disch:=omega) only[go_sem,hb]<;>(repeat(with_reducible refine And.intro ?_ ?_;focus first|omega|rfl|assumption|exact⟨_,rfl,rfl⟩|(simp;omega)|(simp;done)))
  ·exact aI (aO (fun e=>h (by rw[e]))).symm
  have h6:x.fArgs.length=y.fArgs.length:=by omega
  with_reducible refine aA (fun hb=> ?_) (fun hb=> ?_)<;>have h:=hb<;>(try simp only[wf_preprocess] at h)<;>simp -implicitDefEqProofs (disch:=omega) only[go_sem,hb]<;>(repeat(with_reducible refine And.intro ?_ ?_;focus first|omega|rfl|assumption|exact⟨_,rfl,rfl⟩|(simp;omega)|(simp;done)))
  ·exact aI (aO (fun e=>h (by rw[e]))).symm
  have h7:x.aK.length=y.aK.length:=by omega
  refine aZ (ι:=Nat) zmx rfl [2,3,5] (fun i=>[.c (.ptr (0,0) 0),.c (.ptr (0,1) 0),.c (.d (.i .i64 i))]) (fun _=>[.box (x.enc.map .d),.box (y.enc.map .d)]::S)
   (fun i=>i<=x.fArgs.length/\∀j,j<i->x.fArgs[j]? =y.fArgs[j]?) (fun i=>x.fArgs.length-i) 0 rfl ?_ ⟨Nat.zero_le _,fun j h=>by omega⟩ ?_
  ·simp -implicitDefEqProofs (disch:=omega) only[go_sem]
  rintro i ⟨p1,p2⟩;simp -implicitDefEqProofs (disch:=omega) only[go_sem]
  with_reducible refine aA (fun hb=> ?_) (fun hb=> ?_)<;>have h:=hb<;>(try simp only[wf_preprocess] at h)<;>simp -implicitDefEqProofs (disch:=omega) only[go_sem,hb]<;>(repeat(with_reducible refine And.intro ?_ ?_;focus first|omega|rfl|assumption|exact⟨_,rfl,rfl⟩|(simp;omega)|(simp;done)))
  ·have hi:i<x.fArgs.length:=by omega
   have hi':i<y.fArgs.length:=by omega
   (repeat(with_reducible refine And.intro ?_ ?_;focus first|omega|rfl|assumption|exact⟨_,rfl,rfl⟩|(simp;omega)|(simp;done)))
   refine au (ih x.fArgs[i] (by have:=List.sizeOf_lt_of_mem (List.getElem_mem hi);omega) y.fArgs[i] (ay.acR hi hsz)) ?_;simp -implicitDefEqProofs (disch:=omega) only[go_sem]<;>(repeat(with_reducible refine And.intro ?_ ?_;focus first|omega|rfl|assumption|exact⟨_,rfl,rfl⟩|(simp;omega)|(simp;done)))
   with_reducible refine aA (fun hb=> ?_) (fun hb=> ?_)<;>have h:=hb<;>(try simp only[wf_preprocess] at h)<;>simp -implicitDefEqProofs (disch:=omega) only[go_sem,hb]<;>(repeat(with_reducible refine And.intro ?_ ?_;focus first|omega|rfl|assumption|exact⟨_,rfl,rfl⟩|(simp;omega)|(simp;done)))
   ·exact aI (aO (fun e=>h (by simp only[e]))).symm
   refine cK (i+1) (by omega) rfl rfl ⟨by omega,fun j hj=> ?_⟩;by_cases e:j=i
   ·subst e;rw[List.getElem?_eq_getElem hi,List.getElem?_eq_getElem hi',h]
   ·exact p2 j (by omega)
  have hi:i=x.fArgs.length:=by omega
  have h8:x.fArgs=y.fArgs:=List.ext_getElem? fun j=>by
   by_cases hj:j<i
   ·exact p2 j hj
   ·rw[List.getElem?_eq_none (by omega),List.getElem?_eq_none (by omega)]
  refine aZ (ι:=Nat) zmx rfl [2,3,6] (fun i=>[.c (.ptr (0,0) 0),.c (.ptr (0,1) 0),.c (.d (.i .i64 i))]) (fun _=>[.box (x.enc.map .d),.box (y.enc.map .d)]::S)
   (fun i=>i<=x.aK.length/\∀j,j<i->x.aK[j]? =y.aK[j]?) (fun i=>x.aK.length-i) 0 rfl ?_ ⟨Nat.zero_le _,fun j h=>by omega⟩ ?_
  ·simp -implicitDefEqProofs (disch:=omega) only[go_sem]
  clear p1 p2 hi hb h;clear i;rintro i ⟨p1,p2⟩;simp -implicitDefEqProofs (disch:=omega) only[go_sem]
  with_reducible refine aA (fun hb=> ?_) (fun hb=> ?_)<;>have h:=hb<;>(try simp only[wf_preprocess] at h)<;>simp -implicitDefEqProofs (disch:=omega) only[go_sem,hb]<;>(repeat(with_reducible refine And.intro ?_ ?_;focus first|omega|rfl|assumption|exact⟨_,rfl,rfl⟩|(simp;omega)|(simp;done)))
  ·have hi:i<x.aK.length:=by omega
   have hi':i<y.aK.length:=by omega
   have hs:=List.sizeOf_lt_of_mem (List.getElem_mem hi);have hz:=aM.zu (ay.acS hi hsz);have ahp:=aM.oO x.aK[i]
   (repeat(with_reducible refine And.intro ?_ ?_;focus first|omega|rfl|assumption|exact⟨_,rfl,rfl⟩|(simp;omega)|(simp;done)))
   with_reducible refine aA (fun hb=> ?_) (fun hb=> ?_)<;>have h:=hb<;>(try simp only[wf_preprocess] at h)<;>simp -implicitDefEqProofs (disch:=omega) only[go_sem,hb]<;>(repeat(with_reducible refine And.intro ?_ ?_;focus first|omega|rfl|assumption|exact⟨_,rfl,rfl⟩|(simp;omega)|(simp;done)))
   ·exact aI (aO (fun e=>h (by simp only[e]))).symm
   have k1:=h
   (repeat(with_reducible refine And.intro ?_ ?_;focus first|omega|rfl|assumption|exact⟨_,rfl,rfl⟩|(simp;omega)|(simp;done)))
   refine au (Ri x.aK[i].aX y.aK[i].aX (by omega)) ?_;simp -implicitDefEqProofs (disch:=omega) only[go_sem]<;>(repeat(with_reducible refine And.intro ?_ ?_;focus first|omega|rfl|assumption|exact⟨_,rfl,rfl⟩|(simp;omega)|(simp;done)))
   with_reducible refine aA (fun hb=> ?_) (fun hb=> ?_)<;>have h:=hb<;>(try simp only[wf_preprocess] at h)<;>simp -implicitDefEqProofs (disch:=omega) only[go_sem,hb]<;>(repeat(with_reducible refine And.intro ?_ ?_;focus first|omega|rfl|assumption|exact⟨_,rfl,rfl⟩|(simp;omega)|(simp;done)))
   ·exact aI (aO (fun e=>h (by simp only[e]))).symm
   have k2:=h
   (repeat(with_reducible refine And.intro ?_ ?_;focus first|omega|rfl|assumption|exact⟨_,rfl,rfl⟩|(simp;omega)|(simp;done)))
   refine au (ih x.aK[i].fBody (by omega) y.aK[i].fBody (by omega)) ?_;simp -implicitDefEqProofs (disch:=omega) only[go_sem]<;>(repeat(with_reducible refine And.intro ?_ ?_;focus first|omega|rfl|assumption|exact⟨_,rfl,rfl⟩|(simp;omega)|(simp;done)))
   with_reducible refine aA (fun hb=> ?_) (fun hb=> ?_)<;>have h:=hb<;>(try simp only[wf_preprocess] at h)<;>simp -implicitDefEqProofs (disch:=omega) only[go_sem,hb]<;>(repeat(with_reducible refine And.intro ?_ ?_;focus first|omega|rfl|assumption|exact⟨_,rfl,rfl⟩|(simp;omega)|(simp;done)))
   ·exact aI (aO (fun e=>h (by simp only[e]))).symm
   have k3:=h;refine cK (i+1) (by omega) rfl rfl ⟨by omega,fun j hj=> ?_⟩;by_cases e:j=i
   ·subst e;rw[List.getElem?_eq_getElem hi,List.getElem?_eq_getElem hi',aM.ext k1 k2 k3]
   ·exact p2 j (by omega)
  ·have hi:i=x.aK.length:=by omega
   have h9:x.aK=y.aK:=List.ext_getElem? fun j=>by
    by_cases hj:j<i
    ·exact p2 j hj
    ·rw[List.getElem?_eq_none (by omega),List.getElem?_eq_none (by omega)]
   exact aI (bJ (ay.ext h1 h2 h3 h4 h5 h8 h9)).symm
theorem G5(x y:ay)(h:x.sz<=4194304):aG prog 191 [x.v,y.v] (.c (.d (.b (dec (x=y))))):=xU _ x (Nat.lt_succ_self _) y h
def zeroE:ay:=.mk 0 [] [] 0 (.mk 0 [] []) [] []
def Fq:List (List UInt8):=[[115,101,108,102]]
noncomputable def Bp(vars:List (List UInt8))(e:ay):Bool:=nY e&&among (jg e [] []) vars
noncomputable def sF(vars:List (List UInt8))(e:ay):Bool:=jv vars&&Bp vars e
noncomputable def fM(g:aF):Bool:=
 validName g.fName&&(dec (g.bL.length<=4)&&(mV Fq g.bL&&(j3 Fq g.bP&&
  (if g.fq=true then dec (g.aX.length=g.bL.length+1)&&sF g.aX g.fBody else dec (g.aX.length=0)&&dec (g.fBody=zeroE)))))
theorem uj{xs:List ak}{t:ak}(h:t∈xs):t.sz<=bC (xs.map ak.enc):=fI (List.mem_map_of_mem h)
theorem aF.sum(x:aF):x.fName.length+(x.bL.length+bC (x.bL.map ak.enc))+x.bP.sz+(x.aX.length+bC (x.aX.map encS))+x.fBody.sz<=x.sz:=by
 simp only[aF.sz,aF.aB,bN,bR,D.sz,List.length_map,ak.dQ,ay.dQ];omega
theorem bO.sum(x:bO):x.bE.length+x.fType.sz<=x.sz:=by
 simp only[bO.sz,bO.aB,bN,bR,D.sz,List.length_map,ak.dQ];omega
theorem Pv(e:ay)(h:e.sz<=4194304):(jg e [] []).length<=1073741824:=by
 have h1:=rH e [] [];have h2:=ay.kM e;simp at h1;omega
theorem YL(vars:List (List UInt8))(e:ay)(hv:vars.length<=1073741824)(hs:∀s∈vars,s.length<=4194304)(hsz:e.sz<=4194304):aG prog 49 [.c (.d (.sl (vars.map encS))),e.v] (.c (.d (.b (sF vars e)))):=fun S=>by
 refine zcx [.tmp 4] func49 ntmps49 ?_;simp -implicitDefEqProofs (disch:=omega) only[go_sem];refine au (Ap vars hv hs) ?_;simp -implicitDefEqProofs (disch:=omega) only[go_sem]<;>(repeat(with_reducible refine And.intro ?_ ?_;focus first|omega|rfl|assumption|exact⟨_,rfl,rfl⟩|(simp;omega)|(simp;done)))
 with_reducible refine aA (fun hb=> ?_) (fun hb=> ?_)<;>have h:=hb<;>(try simp only[wf_preprocess] at h)<;>simp -implicitDefEqProofs (disch:=omega) only[go_sem,hb]<;>(repeat(with_reducible refine And.intro ?_ ?_;focus first|omega|rfl|assumption|exact⟨_,rfl,rfl⟩|(simp;omega)|(simp;done)))
 ·have h1:=h;refine au (GV e hsz) ?_;simp -implicitDefEqProofs (disch:=omega) only[go_sem]<;>(repeat(with_reducible refine And.intro ?_ ?_;focus first|omega|rfl|assumption|exact⟨_,rfl,rfl⟩|(simp;omega)|(simp;done)))
  with_reducible refine aA (fun hb=> ?_) (fun hb=> ?_)<;>have h:=hb<;>(try simp only[wf_preprocess] at h)<;>simp -implicitDefEqProofs (disch:=omega) only[go_sem,hb]<;>(repeat(with_reducible refine And.intro ?_ ?_;focus first|omega|rfl|assumption|exact⟨_,rfl,rfl⟩|(simp;omega)|(simp;done)))
  ·have h2:=h;refine au (JH e hsz) ?_;simp -implicitDefEqProofs (disch:=omega) only[go_sem]<;>(repeat(with_reducible refine And.intro ?_ ?_;focus first|omega|rfl|assumption|exact⟨_,rfl,rfl⟩|(simp;omega)|(simp;done)));refine au (FX _ vars (Pv e hsz) hv) ?_;simp -implicitDefEqProofs (disch:=omega) only[go_sem]<;>(repeat(with_reducible refine And.intro ?_ ?_;focus first|omega|rfl|assumption|exact⟨_,rfl,rfl⟩|(simp;omega)|(simp;done)));exact aI (by unfold sF Bp;rw[h1,h2];rfl)
  ·exact aI (by unfold sF Bp;rw[h];simp)
 ·exact aI (by unfold sF;rw[h];rfl)
theorem VD(vars:List (List UInt8))(e:ay)(hv:vars.length<=1073741824)(hsz:e.sz<=4194304):aG prog 55 [e.v,.c (.d (.sl (vars.map encS)))] (.c (.d (.b (Bp vars e)))):=fun S=>by
 have hlen:=Pv e hsz;refine zcx [.tmp 4] func55 ntmps55 ?_;simp -implicitDefEqProofs (disch:=omega) only[go_sem];refine au (JI e hsz) ?_;simp -implicitDefEqProofs (disch:=omega) only[go_sem]<;>(repeat(with_reducible refine And.intro ?_ ?_;focus first|omega|rfl|assumption|exact⟨_,rfl,rfl⟩|(simp;omega)|(simp;done)));unfold Bp;generalize jg e [] []=xs at hlen ⊢
 refine aZ (ι:=Nat) zmx rfl [1,2,5,6] (fun i=>[.c (.d (.sl (vars.map encS))),.c (.ptr (0,0) 0),.c (.d (.sl (xs.map encS))),.c (.d (.i .i64 i))]) (fun _=>[.box (e.enc.map .d)]::S)
  (fun i=>i<=xs.length/\among (xs.drop i) vars=among xs vars) (fun i=>xs.length-i) 0 rfl ?_ ⟨Nat.zero_le _,rfl⟩ ?_
 ·simp -implicitDefEqProofs (disch:=omega) only[go_sem]
 rintro i ⟨p1,p2⟩;simp -implicitDefEqProofs (disch:=omega) only[go_sem,encS]
 with_reducible refine aA (fun hb=> ?_) (fun hb=> ?_)<;>have h:=hb<;>(try simp only[wf_preprocess] at h)<;>simp -implicitDefEqProofs (disch:=omega) only[go_sem,hb,encS]<;>(repeat(with_reducible refine And.intro ?_ ?_;focus first|omega|rfl|assumption|exact⟨_,rfl,rfl⟩|(simp;omega)|(simp;done)))
 ·have hi:i<xs.length:=by omega
  rw[List.drop_eq_getElem_cons hi] at p2;have p3:among xs vars=(dec (xs[i]∈vars)&&among (xs.drop (i+1)) vars):=p2.symm
  (repeat(with_reducible refine And.intro ?_ ?_;focus first|omega|rfl|assumption|exact⟨_,rfl,rfl⟩|(simp;omega)|(simp;done)))
  refine au (ow vars xs[i] hv) ?_;simp -implicitDefEqProofs (disch:=omega) only[go_sem]<;>(repeat(with_reducible refine And.intro ?_ ?_;focus first|omega|rfl|assumption|exact⟨_,rfl,rfl⟩|(simp;omega)|(simp;done)))
  with_reducible refine aA (fun hb=> ?_) (fun hb=> ?_)<;>have h:=hb<;>(try simp only[wf_preprocess] at h)<;>simp -implicitDefEqProofs (disch:=omega) only[go_sem,hb]<;>(repeat(with_reducible refine And.intro ?_ ?_;focus first|omega|rfl|assumption|exact⟨_,rfl,rfl⟩|(simp;omega)|(simp;done)))
  ·exact aI (by rw[p3,aO h];simp)
  ·exact cK (i+1) (by omega) rfl rfl ⟨by omega,by rw[p3,bJ h];rfl⟩
 ·rw[List.drop_of_length_le (by omega)] at p2;have p3:among xs vars=true:=p2.symm
  (repeat(with_reducible refine And.intro ?_ ?_;focus first|omega|rfl|assumption|exact⟨_,rfl,rfl⟩|(simp;omega)|(simp;done)))
  refine au (GX e hsz) ?_;simp -implicitDefEqProofs (disch:=omega) only[go_sem]<;>(repeat(with_reducible refine And.intro ?_ ?_;focus first|omega|rfl|assumption|exact⟨_,rfl,rfl⟩|(simp;omega)|(simp;done)));exact aI (by rw[p3];simp)
theorem MQ(e:ay)(hsz:e.sz<=4194304):aG prog 151 [e.v] (.c (.d (.b (dec (e=zeroE))))):=fun S=>by
 refine zcx [.tmp 2] func151 ntmps151 ?_;simp -implicitDefEqProofs (disch:=omega) only[go_sem];refine au (GZ e zeroE hsz) ?_;simp -implicitDefEqProofs (disch:=omega) only[go_sem]
theorem VE(e:ay)(hsz:e.sz<=4194304):aG prog 153 [e.v] (.c (.d (.b (dec (e=zeroE))))):=fun S=>by
 refine zcx [.tmp 2] func153 ntmps153 ?_;simp -implicitDefEqProofs (disch:=omega) only[go_sem];refine au (G5 e zeroE hsz) ?_;simp -implicitDefEqProofs (disch:=omega) only[go_sem]
theorem KL(g:aF)(hsz:g.sz<=4194304):aG prog 72 [g.v] (.c (.d (.b (fM g)))):=fun S=>by
 have hs:=aF.sum g
 have hT:∀t∈g.bL,t.sz<=4194304:=fun t ht=>by have:=uj ht;omega
 have hV:∀s∈g.aX,s.length<=4194304:=fun s h=>by have:=Bf h;omega
 refine zcx [.tmp 2] func72 ntmps72 ?_;simp -implicitDefEqProofs (disch:=omega) only[go_sem];refine au (jY g.fName (by omega)) ?_;simp -implicitDefEqProofs (disch:=omega) only[go_sem]<;>(repeat(with_reducible refine And.intro ?_ ?_;focus first|omega|rfl|assumption|exact⟨_,rfl,rfl⟩|(simp;omega)|(simp;done)))
 with_reducible refine aA (fun hb=> ?_) (fun hb=> ?_)<;>have h:=hb<;>(try simp only[wf_preprocess] at h)<;>simp -implicitDefEqProofs (disch:=omega) only[go_sem,hb]<;>(repeat(with_reducible refine And.intro ?_ ?_;focus first|omega|rfl|assumption|exact⟨_,rfl,rfl⟩|(simp;omega)|(simp;done)))
 ·exact aI (by unfold fM;rw[h];rfl)
 have h1:=h
 with_reducible refine aA (fun hb=> ?_) (fun hb=> ?_)<;>have h:=hb<;>(try simp only[wf_preprocess] at h)<;>simp -implicitDefEqProofs (disch:=omega) only[go_sem,hb]<;>(repeat(with_reducible refine And.intro ?_ ?_;focus first|omega|rfl|assumption|exact⟨_,rfl,rfl⟩|(simp;omega)|(simp;done)))
 ·exact aI (by unfold fM;rw[aO (show ¬g.bL.length<=4 by omega)];simp)
 have h2:=h
 (repeat(with_reducible refine And.intro ?_ ?_;focus first|omega|rfl|assumption|exact⟨_,rfl,rfl⟩|(simp;omega)|(simp;done)))
 refine au (Jj g.bL Fq (by omega) hT (by decide)) ?_;simp -implicitDefEqProofs (disch:=omega) only[go_sem]
 with_reducible refine aA (fun hb=> ?_) (fun hb=> ?_)<;>have h:=hb<;>(try simp only[wf_preprocess] at h)<;>simp -implicitDefEqProofs (disch:=omega) only[go_sem,hb]<;>(repeat(with_reducible refine And.intro ?_ ?_;focus first|omega|rfl|assumption|exact⟨_,rfl,rfl⟩|(simp;omega)|(simp;done)))
 ·exact aI (by unfold fM;rw[h];simp)
 have h3:=h
 (repeat(with_reducible refine And.intro ?_ ?_;focus first|omega|rfl|assumption|exact⟨_,rfl,rfl⟩|(simp;omega)|(simp;done)))
 refine au (CY g.bP Fq (by omega) (by decide)) ?_;simp -implicitDefEqProofs (disch:=omega) only[go_sem]
 with_reducible refine aA (fun hb=> ?_) (fun hb=> ?_)<;>have h:=hb<;>(try simp only[wf_preprocess] at h)<;>simp -implicitDefEqProofs (disch:=omega) only[go_sem,hb]<;>(repeat(with_reducible refine And.intro ?_ ?_;focus first|omega|rfl|assumption|exact⟨_,rfl,rfl⟩|(simp;omega)|(simp;done)))
 ·exact aI (by unfold fM;rw[h];simp)
 have h4:=h
 with_reducible refine aA (fun hb=> ?_) (fun hb=> ?_)<;>have h:=hb<;>(try simp only[wf_preprocess] at h)<;>simp -implicitDefEqProofs (disch:=omega) only[go_sem,hb]<;>(repeat(with_reducible refine And.intro ?_ ?_;focus first|omega|rfl|assumption|exact⟨_,rfl,rfl⟩|(simp;omega)|(simp;done)))
 ·have h5:=h
  with_reducible refine aA (fun hb=> ?_) (fun hb=> ?_)<;>have h:=hb<;>(try simp only[wf_preprocess] at h)<;>simp -implicitDefEqProofs (disch:=omega) only[go_sem,hb]<;>(repeat(with_reducible refine And.intro ?_ ?_;focus first|omega|rfl|assumption|exact⟨_,rfl,rfl⟩|(simp;omega)|(simp;done)))
  ·have h6:=h;refine au (YL g.aX g.fBody (by omega) hV (by omega)) ?_;simp -implicitDefEqProofs (disch:=omega) only[go_sem]<;>(repeat(with_reducible refine And.intro ?_ ?_;focus first|omega|rfl|assumption|exact⟨_,rfl,rfl⟩|(simp;omega)|(simp;done)));exact aI (by unfold fM;rw[h1,h3,h4,if_pos h5,bJ (show g.bL.length<=4 by omega),bJ (show g.aX.length=g.bL.length+1 by omega)];rfl)
  ·exact aI (by unfold fM;rw[if_pos h5,aO (show ¬g.aX.length=g.bL.length+1 by omega)];simp)
 ·have h5:¬g.fq=true:=by rw[h];simp
  with_reducible refine aA (fun hb=> ?_) (fun hb=> ?_)<;>have h:=hb<;>(try simp only[wf_preprocess] at h)<;>simp -implicitDefEqProofs (disch:=omega) only[go_sem,hb]<;>(repeat(with_reducible refine And.intro ?_ ?_;focus first|omega|rfl|assumption|exact⟨_,rfl,rfl⟩|(simp;omega)|(simp;done)))
  ·refine au (MQ g.fBody (by omega)) ?_;simp -implicitDefEqProofs (disch:=omega) only[go_sem]<;>(repeat(with_reducible refine And.intro ?_ ?_;focus first|omega|rfl|assumption|exact⟨_,rfl,rfl⟩|(simp;omega)|(simp;done)));exact aI (by unfold fM;rw[h1,h3,h4,if_neg h5,bJ (show g.bL.length<=4 by omega),bJ (show g.aX.length=0 by omega)];rfl)
  ·exact aI (by unfold fM;rw[if_neg h5,aO (show ¬g.aX.length=0 by omega)];simp)
theorem YM(g:aF)(hsz:g.sz<=4194304):aG prog 74 [g.v] (.c (.d (.b (fM g)))):=fun S=>by
 have hs:=aF.sum g
 have hT:∀t∈g.bL,t.sz<=4194304:=fun t ht=>by have:=uj ht;omega
 have hV:∀s∈g.aX,s.length<=4194304:=fun s h=>by have:=Bf h;omega
 refine zcx [.tmp 2] func74 ntmps74 ?_;simp -implicitDefEqProofs (disch:=omega) only[go_sem];refine au (jZ g.fName (by omega)) ?_;simp -implicitDefEqProofs (disch:=omega) only[go_sem]<;>(repeat(with_reducible refine And.intro ?_ ?_;focus first|omega|rfl|assumption|exact⟨_,rfl,rfl⟩|(simp;omega)|(simp;done)))
 with_reducible refine aA (fun hb=> ?_) (fun hb=> ?_)<;>have h:=hb<;>(try simp only[wf_preprocess] at h)<;>simp -implicitDefEqProofs (disch:=omega) only[go_sem,hb]<;>(repeat(with_reducible refine And.intro ?_ ?_;focus first|omega|rfl|assumption|exact⟨_,rfl,rfl⟩|(simp;omega)|(simp;done)))
 ·exact aI (by unfold fM;rw[h];rfl)
 have h1:=h
 with_reducible refine aA (fun hb=> ?_) (fun hb=> ?_)<;>have h:=hb<;>(try simp only[wf_preprocess] at h)<;>simp -implicitDefEqProofs (disch:=omega) only[go_sem,hb]<;>(repeat(with_reducible refine And.intro ?_ ?_;focus first|omega|rfl|assumption|exact⟨_,rfl,rfl⟩|(simp;omega)|(simp;done)))
 ·exact aI (by unfold fM;rw[aO (show ¬g.bL.length<=4 by omega)];simp)
 have h2:=h
 (repeat(with_reducible refine And.intro ?_ ?_;focus first|omega|rfl|assumption|exact⟨_,rfl,rfl⟩|(simp;omega)|(simp;done)))
 refine au (Ym g.bL Fq (by omega) hT (by decide)) ?_;simp -implicitDefEqProofs (disch:=omega) only[go_sem]
 with_reducible refine aA (fun hb=> ?_) (fun hb=> ?_)<;>have h:=hb<;>(try simp only[wf_preprocess] at h)<;>simp -implicitDefEqProofs (disch:=omega) only[go_sem,hb]<;>(repeat(with_reducible refine And.intro ?_ ?_;focus first|omega|rfl|assumption|exact⟨_,rfl,rfl⟩|(simp;omega)|(simp;done)))
 ·exact aI (by unfold fM;rw[h];simp)
 have h3:=h
 (repeat(with_reducible refine And.intro ?_ ?_;focus first|omega|rfl|assumption|exact⟨_,rfl,rfl⟩|(simp;omega)|(simp;done)))
 refine au (Jk g.bP Fq (by omega) (by decide)) ?_;simp -implicitDefEqProofs (disch:=omega) only[go_sem]
 with_reducible refine aA (fun hb=> ?_) (fun hb=> ?_)<;>have h:=hb<;>(try simp only[wf_preprocess] at h)<;>simp -implicitDefEqProofs (disch:=omega) only[go_sem,hb]<;>(repeat(with_reducible refine And.intro ?_ ?_;focus first|omega|rfl|assumption|exact⟨_,rfl,rfl⟩|(simp;omega)|(simp;done)))
 ·exact aI (by unfold fM;rw[h];simp)
 have h4:=h
 with_reducible refine aA (fun hb=> ?_) (fun hb=> ?_)<;>have h:=hb<;>(try simp only[wf_preprocess] at h)<;>simp -implicitDefEqProofs (disch:=omega) only[go_sem,hb]<;>(repeat(with_reducible refine And.intro ?_ ?_;focus first|omega|rfl|assumption|exact⟨_,rfl,rfl⟩|(simp;omega)|(simp;done)))
 ·have h5:¬g.fq=true:=by rw[h];simp
  with_reducible refine aA (fun hb=> ?_) (fun hb=> ?_)<;>have h:=hb<;>(try simp only[wf_preprocess] at h)<;>simp -implicitDefEqProofs (disch:=omega) only[go_sem,hb]<;>(repeat(with_reducible refine And.intro ?_ ?_;focus first|omega|rfl|assumption|exact⟨_,rfl,rfl⟩|(simp;omega)|(simp;done)))
  ·refine au (VE g.fBody (by omega)) ?_;simp -implicitDefEqProofs (disch:=omega) only[go_sem]<;>(repeat(with_reducible refine And.intro ?_ ?_;focus first|omega|rfl|assumption|exact⟨_,rfl,rfl⟩|(simp;omega)|(simp;done)));exact aI (by unfold fM;rw[h1,h3,h4,if_neg h5,bJ (show g.bL.length<=4 by omega),bJ (show g.aX.length=0 by omega)];rfl)
  ·exact aI (by unfold fM;rw[if_neg h5,aO (show ¬g.aX.length=0 by omega)];simp)
 ·have h5:=h;refine au (Aq g.aX 5 (by omega) hV) ?_;simp -implicitDefEqProofs (disch:=omega) only[go_sem]<;>(repeat(with_reducible refine And.intro ?_ ?_;focus first|omega|rfl|assumption|exact⟨_,rfl,rfl⟩|(simp;omega)|(simp;done)))
  with_reducible refine aA (fun hb=> ?_) (fun hb=> ?_)<;>have h:=hb<;>(try simp only[wf_preprocess] at h)<;>simp -implicitDefEqProofs (disch:=omega) only[go_sem,hb]<;>(repeat(with_reducible refine And.intro ?_ ?_;focus first|omega|rfl|assumption|exact⟨_,rfl,rfl⟩|(simp;omega)|(simp;done)))
  ·have h6:=h;rw[Bool.and_eq_true] at h6
   with_reducible refine aA (fun hb=> ?_) (fun hb=> ?_)<;>have h:=hb<;>(try simp only[wf_preprocess] at h)<;>simp -implicitDefEqProofs (disch:=omega) only[go_sem,hb]<;>(repeat(with_reducible refine And.intro ?_ ?_;focus first|omega|rfl|assumption|exact⟨_,rfl,rfl⟩|(simp;omega)|(simp;done)))
   ·refine au (VD g.aX g.fBody (by omega) (by omega)) ?_;simp -implicitDefEqProofs (disch:=omega) only[go_sem]<;>(repeat(with_reducible refine And.intro ?_ ?_;focus first|omega|rfl|assumption|exact⟨_,rfl,rfl⟩|(simp;omega)|(simp;done)));exact aI (by unfold fM sF;rw[h1,h3,h4,if_pos h5,h6.2,bJ (show g.bL.length<=4 by omega),bJ (show g.aX.length=g.bL.length+1 by omega)];rfl)
   ·exact aI (by unfold fM;rw[if_pos h5,aO (show ¬g.aX.length=g.bL.length+1 by omega)];simp)
  ·refine aI ?_;by_cases h7:g.aX.length=g.bL.length+1
   ·rw[bJ (by omega),Bool.true_and] at h
    unfold fM sF;rw[if_pos h5,h];simp
   ·unfold fM;rw[if_pos h5,aO h7];simp
theorem bZ.sum(x:bZ):x.fName.length+(x.aX.length+bC (x.aX.map encS))+(x.ji.length+bC (x.ji.map bO.enc))+(x.bL.length+bC (x.bL.map dW.enc))+x.bP.sz+x.fBody.sz<=x.sz:=by
 simp only[bZ.sz,bZ.aB,bN,bR,D.sz,List.length_map,ak.dQ,ay.dQ];omega
theorem dW.sum(x:dW):x.fName.length+x.fType.sz<=x.sz:=by
 simp only[dW.sz,dW.aB,bN,bR,D.sz,List.length_map,ak.dQ];omega
def Pw(n:Nat)(s:St):St:=match s.st with
 |(.seed _::own)::Ω=>⟨s.tm,(.seed n::own)::Ω⟩
 |_=>s
theorem Rv{n m:Nat}{tm:List (Nat×V)}{own:List Obj}{Ω:Store}:Pw n ⟨tm,(.seed m::own)::Ω⟩=⟨tm,(.seed n::own)::Ω⟩:=rfl
def ahq(j p n:Nat)(s:St):St:=Pw n (Na j p s)
attribute [go_sem] ahq Rv
theorem JJ{vars:List (List UInt8)}{t:ak}(h:j3 vars t=true):formed t=true:=by
 unfold j3 at h;rw[Bool.and_eq_true] at h;exact uT h.1
theorem YN{vars:List (List UInt8)}{e:ay}(h:sF vars e=true):ig e=true:=by
 unfold sF Bp at h;simp only[Bool.and_eq_true] at h;exact Pp h.2.1
end Go.Ab