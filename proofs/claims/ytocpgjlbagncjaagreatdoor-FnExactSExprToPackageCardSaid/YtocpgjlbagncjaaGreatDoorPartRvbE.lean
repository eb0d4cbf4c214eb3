/-
  SEVERAL TEXTS IN ONE (merged by program): contracts and models, each with its own heading.
-/
import Derived.Test.YtocpgjlbagncjaaGreatDoorPartRvbD
set_option linter.unusedSimpArgs false
set_option linter.unusedVariables false
set_option maxRecDepth 4000
namespace Go.Ab
noncomputable def AU(k:Int)(n:List UInt8)(bound out:List (List UInt8)):List (List UInt8):=if k=3∧n∉bound∧n∉out then out++[n] else out
mutual
noncomputable def kN:ay→List (List UInt8)→List (List UInt8)→List (List UInt8)
 | .mk k _ n _ _ a b,bound,out=>wG b bound (sK a k n 0 bound (AU k n bound out))
noncomputable def sK:List ay→Int→List UInt8→Nat→List (List UInt8)→List (List UInt8)→List (List UInt8)
 |[],_,_,_,_,out=>out
 |x::xs,k,n,i,bound,out=>sK xs k n (i+1) bound (kN x (if k=8∧i=1 then bound++[n] else bound) out)
noncomputable def wG:List aR→List (List UInt8)→List (List UInt8)→List (List UInt8)
 |[],_,out=>out
 |x::xs,bound,out=>wG xs bound (FM x bound out)
noncomputable def FM:aR→List (List UInt8)→List (List UInt8)→List (List UInt8)
 | .mk _ v b,bound,out=>kN b (bound++v) out
end
theorem Tf(x:ay)(bound out:List (List UInt8)):kN x bound out=wG x.aP bound (sK x.fArgs x.aK x.fName 0 bound (AU x.aK x.fName bound out)):=by cases x;rw[kN];rfl
theorem Tg(x:aR)(bound out:List (List UInt8)):FM x bound out=kN x.fBody (bound++x.aA) out:=by cases x;rw[FM];rfl
theorem Mt{xs:List ay}{k:Int}{n:List UInt8}{i:Nat}{bound out:List (List UInt8)}(hi:i<xs.length):sK (xs.drop i) k n i bound out=sK (xs.drop (i+1)) k n (i+1) bound (kN xs[i] (if k=8∧i=1 then bound++[n] else bound) out):=by
 rw[List.drop_eq_getElem_cons hi,sK]
theorem Mv{xs:List aR}{i:Nat}{bound out:List (List UInt8)}(hi:i<xs.length):wG (xs.drop i) bound out=wG (xs.drop (i+1)) bound (FM xs[i] bound out):=by
 rw[List.drop_eq_getElem_cons hi,wG]
theorem Kk(k:Int)(n:List UInt8)(bound out:List (List UInt8)):(AU k n bound out).length≤out.length+1:=by
 unfold AU;split<;>simp
mutual
theorem vX:∀(x:ay) (bound out:List (List UInt8)),(kN x bound out).length≤out.length+x.cnt
 | .mk k t n m ty a b,bound,out=>by
   have h1:=Kk k n bound out
   have h2:=O5 a k n 0 bound (AU k n bound out)
   have h3:=O6 b bound (sK a k n 0 bound (AU k n bound out))
   rw[kN,ay.cnt];omega
theorem O5:∀(xs:List ay) (k:Int) (n:List UInt8) (i:Nat) (bound out:List (List UInt8)),(sK xs k n i bound out).length≤out.length+ay.eG xs
 |[],k,n,i,bound,out=>by rw[sK,ay.eG];omega
 |x::xs,k,n,i,bound,out=>by
  have h1:=vX x (if k=8∧i=1 then bound++[n] else bound) out
  have h2:=O5 xs k n (i+1) bound (kN x (if k=8∧i=1 then bound++[n] else bound) out)
  rw[sK,ay.eG];omega
theorem O6:∀(xs:List aR) (bound out:List (List UInt8)),(wG xs bound out).length≤out.length+aR.eG xs
 |[],bound,out=>by rw[wG,aR.eG];omega
 |x::xs,bound,out=>by
  have h1:=aaZ x bound out
  have h2:=O6 xs bound (FM x bound out)
  rw[wG,aR.eG];omega
theorem aaZ:∀(x:aR) (bound out:List (List UInt8)),(FM x bound out).length≤out.length+x.cnt
 | .mk c v b,bound,out=>by
   have h1:=vX b (bound++v) out
   rw[FM,aR.cnt];omega
end
theorem ay.vS{x:ay}{i:Nat}(hi:i<x.fArgs.length):x.fArgs[i].sz+x.fArgs.length≤x.sz:=by
 have hx:x.fArgs[i].sz≤bD (x.fArgs.map ay.enc):=dA (List.mem_map_of_mem (List.getElem_mem hi))
 have:=ay.Cn x
 omega
theorem ay.aa0{x:ay}{i:Nat}(hi:i<x.aP.length):x.aP[i].sz+x.aP.length≤x.sz:=by
 have hx:x.aP[i].sz≤bD (x.aP.map aR.enc):=dA (List.mem_map_of_mem (List.getElem_mem hi))
 have:=ay.Cn x
 omega
theorem aR.Wj(x:aR):x.aA.length+x.fBody.sz≤x.sz:=by
 simp only[aR.sz,aR.aD,ay.sz,cu,bN,D.sz,List.length_map]
 omega
theorem IV(xs:List (List UInt8))(s:List UInt8):xs.map encS++[[D.s s]]=(xs++[s]).map encS:=by simp[encS]
end Go.Ab
namespace Go.Proofs.YtocpgjlbagncjaaGreatDoor
open Go Go.Ab
set_option maxHeartbeats 2000000 in
theorem HY:∀N:Nat,∀x:ay,SizeOf.sizeOf x<N→x.sz≤4194304→∀(bound out:List (List UInt8)) (l j:Nat) (S:Store),bI S (l,j)=some (.tok 1 (out.map encS))→out.length+x.cnt≤1073741824→bound.length+x.sz≤1073741824→
 cB Tryz.prog 302 [.c (.bS (l,j) (out.map encS)),x.v,.c (.d (.sl (bound.map encS)))] S (fun r S'=>r=.c (.bS (l,j) ((kN x bound out).map encS))∧S'=bQ S (l,j) (.tok 1 ((kN x bound out).map encS)))
 |0=>fun x h=>by omega
 |N+1=>by
  have ih:=HY N
  intro x hn hsz bound out l j S hk hc hbd
  have hb0:=ay.Cn x
  have jS:=ay.gM x
  have zS:=ay.oN x
  have hcn:=ay.qC x
  have LP:∀y:Ab.Obj,bI (bQ S (l,j) y) (l,j)=some y:=fun y=>dK _ _ _ _ hk
  have hS0:bQ S (l,j) (.tok 1 (out.map encS))=S:=jG _ _ hk
  have fin:=Tf x bound out
  have hal:=Kk x.aK x.fName bound out
  obtain⟨o1,ho1⟩:∃o1,AU x.aK x.fName bound out=o1:=⟨_,rfl⟩
  rw[ho1] at fin hal
  refine(show Hold ?T→_ from fun tail=> ?main) ?tp
  case' main=>
   refine aG (rs:=[.tmp 6]) Tryz.checked.mixed Tryz.func302 Tryz.ntmps302 rfl rfl rfl rfl rfl ?_
   simp -implicitDefEqProofs (disch:=omega) only[go_sem,hk]
   repeat' (first
    |(with_reducible refine dU (fun hb=> ?_) (fun hb=> ?_)<;>have h:=hb<;>(try simp only[wf_preprocess] at h)<;>simp -implicitDefEqProofs (disch:=omega) only[go_sem,hb,hk]<;>refine W3 ?_)
    |(refine aZ (q8 bound x.fName (by omega)) ?_;simp -implicitDefEqProofs (disch:=omega) only[go_sem,hk];refine W3 ?_)
    |(refine aZ (q8 out x.fName (by omega)) ?_;simp -implicitDefEqProofs (disch:=omega) only[go_sem,hk];refine W3 ?_))
   all_goals first
    |(have ha:AU x.aK x.fName bound out=out++[x.fName]:=if_pos ⟨by assumption,by assumption,by assumption⟩)
    |(have ha:AU x.aK x.fName bound out=out:=if_neg (fun y=>by have:=y.1;have:=y.2.1;have:=y.2.2;contradiction))
   all_goals
    refine nN (st':=[.box (x.enc.map .d)]::bQ S (l,j) (.tok 1 (o1.map encS))) [0,2,4,34,35,36] [.c (.bS (1+l,j) (o1.map encS)),.c (.d (.sl (bound.map encS))),.c (.ptr (0,0) 0),.c (.d (.sl (x.fArgs.map ay.enc))),.c (.d (.i .i64 x.fArgs.length)),.c (.d (.i .i64 0))] ?_ ?_ ?_
    ·first|(rw[←ho1,ha];rfl)|(rw[←ho1,ha,←IV];rfl)
    ·first|(rw[←ho1,ha,hS0];exact Z1;done)|(rw[←ho1,ha,←IV];exact Z1;done)
    ·exact tail.out
  refine⟨?_⟩
  clear ho1
  refine aT (ι:=Nat×List (List UInt8)) Tryz.checked.mixed rfl [0,2,4,34,35,36] (fun y=>[.c (.bS (1+l,j) (y.2.map encS)),.c (.d (.sl (bound.map encS))),.c (.ptr (0,0) 0),.c (.d (.sl (x.fArgs.map ay.enc))),.c (.d (.i .i64 x.fArgs.length)),.c (.d (.i .i64 y.1))]) (fun y=>[.box (x.enc.map .d)]::bQ S (l,j) (.tok 1 (y.2.map encS)))
   (fun y=>y.1≤x.fArgs.length∧y.2.length+ay.eG (x.fArgs.drop y.1)+aR.eG x.aP≤1073741824∧sK (x.fArgs.drop y.1) x.aK x.fName y.1 bound y.2=sK x.fArgs x.aK x.fName 0 bound o1) (fun y=>x.fArgs.length-y.1) (0,o1) rfl rfl ⟨Nat.zero_le _,by simp only[List.drop_zero];omega,rfl⟩ ?_
  rintro⟨i,o⟩ ⟨p1,p2,p3⟩
  have refs:∀{a b},kF 1 (jo [0,2,4,34,35,36] [.c (.bS (1+l,j) a),.c (.d (.sl (bound.map encS))),.c (.ptr (0,0) 0),.c (.d (.sl (x.fArgs.map ay.enc))),.c (.d (.i .i64 x.fArgs.length)),.c (.d (.i .i64 b))])=true:=fun {a b}=>by simp[kF,jo,V.refs,C.refs,nC];omega
  simp only at p1 p2 p3
  refine W1 ?_
  refine S0 (fun hb h=>?_) fun hb h=>?_
  ·have hi:i<x.fArgs.length:=by omega
   have hs:=List.sizeOf_lt_of_mem (List.getElem_mem hi)
   have hz:=ay.vS hi
   rw[Mt hi] at p3
   rw[ay.mU hi] at p2
   have hlo:=vX x.fArgs[i] (if x.aK=8∧i=1 then bound++[x.fName] else bound) o
   refine W3 ?_
   have two:x.fArgs[i].sz+(bound.length+1)≤1073741824:=by omega
   repeat' (first|refine S0 (fun hb h=>?_) fun hb h=>?_)
   ·
    have e1:x.aK=8∧i=1:=⟨by omega,by omega⟩
    rw[if_pos e1] at p3 hlo
    refine ZH rfl DS.push (aaW bound (by omega) _ _) ?_
    refine W1 ?_
    refine W3 ?_
    rw[IV]
    refine pJ [true,true,false] rfl (ih x.fArgs[i] (by omega) (by omega) (bound++[x.fName]) o (1+l) j _ (by refine W1 ?_;exact LP _) (by omega) (by simp only[List.length_append,List.length_cons,List.length_nil];omega)) ?_
    simp -implicitDefEqProofs (disch:=omega) only[go_sem,bq]
    exact dh 1 (by decide) (i+1,kN x.fArgs[i] (bound++[x.fName]) o) (by simp only;omega) rfl rfl refs rfl ⟨by simp only;omega,by simp only;omega,p3⟩
   all_goals
    have e1:¬(x.aK=8∧i=1):=fun h=>by omega
    rw[if_neg e1] at p3 hlo
    refine bJ rfl (ih x.fArgs[i] (by omega) (by omega) bound o (1+l) j _ (by refine W1 ?_;exact LP _) (by omega) (by omega)) ?_
    simp -implicitDefEqProofs (disch:=omega) only[go_sem,bq]
    exact dh 1 (by decide) (i+1,kN x.fArgs[i] bound o) (by simp only;omega) rfl rfl refs rfl ⟨by simp only;omega,by simp only;omega,p3⟩
  have hi:i=x.fArgs.length:=by omega
  rw[hi,List.drop_length] at p2 p3
  rw[ay.eG] at p2
  rw[sK] at p3
  rw[←p3] at fin
  clear p3 refs
  refine aT (ι:=Nat×List (List UInt8)) Tryz.checked.mixed rfl [0,2,63,64,65] (fun y=>[.c (.bS (1+l,j) (y.2.map encS)),.c (.d (.sl (bound.map encS))),.c (.d (.sl (x.aP.map aR.enc))),.c (.d (.i .i64 x.aP.length)),.c (.d (.i .i64 y.1))]) (fun y=>[.box (x.enc.map .d)]::bQ S (l,j) (.tok 1 (y.2.map encS)))
   (fun y=>y.1≤x.aP.length∧y.2.length+aR.eG (x.aP.drop y.1)≤1073741824∧wG (x.aP.drop y.1) bound y.2=kN x bound out) (fun y=>x.aP.length-y.1) (0,o) rfl ?_ ⟨Nat.zero_le _,by simp only[List.drop_zero];omega,fin.symm⟩ ?_
  ·exact Z1
  clear p1 p2 fin hal
  rintro⟨i,o⟩ ⟨p1,p2,p3⟩
  have refs:∀a b,kF 1 (jo [0,2,63,64,65] [.c (.bS (1+l,j) a),.c (.d (.sl (bound.map encS))),.c (.d (.sl (x.aP.map aR.enc))),.c (.d (.i .i64 x.aP.length)),.c (.d (.i .i64 b))])=true:=fun a b=>by simp[kF,jo,V.refs,C.refs,nC];omega
  simp only at p1 p2 p3
  refine W1 ?_
  refine S0 (fun hb h=>?_) fun hb h=>?_
  ·have hi:i<x.aP.length:=by omega
   have hs:=List.sizeOf_lt_of_mem (List.getElem_mem hi)
   have hs':=aR.nW x.aP[i]
   have hz:=ay.aa0 hi
   have hz':=aR.Wj x.aP[i]
   rw[Mv hi,Tg] at p3
   rw[aR.mU hi] at p2
   have hlo:=vX x.aP[i].fBody (bound++x.aP[i].aA) o
   have hcc:=YC [bound,x.aP[i].aA] (by simp) (by simp only[List.flatten_cons,List.flatten_nil,List.append_nil,List.length_append];omega)
   simp only[List.map_cons,List.map_nil,List.flatten_cons,List.flatten_nil,List.append_nil] at hcc
   refine W3 ?_
   refine aZ hcc ?_
   refine W1 ?_
   refine bJ rfl (ih x.aP[i].fBody (by omega) (by omega) (bound++x.aP[i].aA) o (1+l) j _ (by refine W1 ?_;exact LP _) (by omega) (by simp only[List.length_append];omega)) ?_
   simp -implicitDefEqProofs (disch:=omega) only[go_sem,bq]
   exact dh 1 (by decide) (i+1,kN x.aP[i].fBody (bound++x.aP[i].aA) o) (by simp only;omega) rfl rfl (refs _ _) rfl ⟨by simp only;omega,by simp only;omega,p3⟩
  ·have hi:i=x.aP.length:=by omega
   rw[hi,List.drop_length,wG] at p3
   rw[←p3]
   exact⟨rfl,rfl⟩
theorem Mw(x:ay)(hsz:x.sz≤4194304):aI Tryz.prog 263 [x.v] (.c (.d (.sl ((kN x [] []).map encS)))):=fun S=>by
 have hc:=ay.mh x
 have h0:∀S,cB Tryz.prog 302 [.c (.bO []),x.v,.c (.d (.sl []))] S (fun r S'=>r=.c (.d (.sl ((kN x [] []).map encS)))∧S'=S):=fun S=>by
  refine cB.ade 0 (es:=[]) (bE:=1) rfl (by simp) (HY _ x (Nat.lt_succ_self _) hsz [] [] 0 0 ([.tok 1 []]::S) rfl (by simp;omega) (by simp;omega)) ?_
  rintro r fr S' ⟨rfl,h2⟩
  injection h2 with h2 h3
  exact⟨_,rfl,rfl,h3⟩
 refine aG (rs:=[.tmp 2]) Tryz.checked.mixed Tryz.func263 Tryz.ntmps263 rfl rfl rfl rfl rfl ?_
 refine W1 ?_
 refine W3 ?_
 refine pJ [true,true,false] rfl (h0 _) ?_
 exact Z1
set_option maxHeartbeats 2000000 in
theorem HZ:∀N:Nat,∀x:ay,SizeOf.sizeOf x<N→x.sz≤4194304→∀(bound out:List (List UInt8)) (l j:Nat) (S:Store),bI S (l,j)=some (.tok 1 (out.map encS))→out.length+x.cnt≤1073741824→bound.length+x.sz≤1073741824→
 cB Tryz.prog 321 [x.v,.c (.d (.sl (bound.map encS))),.c (.bS (l,j) (out.map encS))] S (fun r S'=>r=.c (.bS (l,j) ((kN x bound out).map encS))∧S'=bQ S (l,j) (.tok 1 ((kN x bound out).map encS)))
 |0=>fun x h=>by omega
 |N+1=>by
  have ih:=HZ N
  intro x hn hsz bound out l j S hk hc hbd
  have hb0:=ay.Cn x
  have jS:=ay.gM x
  have zS:=ay.oN x
  have hcn:=ay.qC x
  have LP:∀y:Ab.Obj,bI (bQ S (l,j) y) (l,j)=some y:=fun y=>dK _ _ _ _ hk
  have hS0:bQ S (l,j) (.tok 1 (out.map encS))=S:=jG _ _ hk
  have fin:=Tf x bound out
  have hal:=Kk x.aK x.fName bound out
  obtain⟨o1,ho1⟩:∃o1,AU x.aK x.fName bound out=o1:=⟨_,rfl⟩
  rw[ho1] at fin hal
  refine(show Hold ?T→_ from fun tail=> ?main) ?tp
  case' main=>
   refine aG (rs:=[.tmp 6]) Tryz.checked.mixed Tryz.func321 Tryz.ntmps321 rfl rfl rfl rfl rfl ?_
   simp -implicitDefEqProofs (disch:=omega) only[go_sem,hk]
   repeat' (first
    |(with_reducible refine dU (fun hb=> ?_) (fun hb=> ?_)<;>have h:=hb<;>(try simp only[wf_preprocess] at h)<;>simp -implicitDefEqProofs (disch:=omega) only[go_sem,hb,hk]<;>refine W3 ?_)
    |(refine aZ (qZ bound x.fName (by omega)) ?_;simp -implicitDefEqProofs (disch:=omega) only[go_sem,hk];refine W3 ?_)
    |(refine aZ (qZ out x.fName (by omega)) ?_;simp -implicitDefEqProofs (disch:=omega) only[go_sem,hk];refine W3 ?_))
   all_goals first
    |(have ha:AU x.aK x.fName bound out=out++[x.fName]:=if_pos ⟨by assumption,by assumption,by assumption⟩)
    |(have ha:AU x.aK x.fName bound out=out:=if_neg (fun y=>by have:=y.1;have:=y.2.1;have:=y.2.2;contradiction))
   all_goals
    refine nN (st':=[.box (x.enc.map .d)]::bQ S (l,j) (.tok 1 (o1.map encS))) [1,2,3,7] [.c (.d (.sl (bound.map encS))),.c (.bS (1+l,j) (o1.map encS)),.c (.ptr (0,0) 0),.c (.d (.i .i64 0))] ?_ ?_ ?_
    ·first|(rw[←ho1,ha];rfl)|(rw[←ho1,ha,←IV];rfl)
    ·first|(rw[←ho1,ha,hS0];exact Z1;done)|(rw[←ho1,ha,←IV];exact Z1;done)
    ·exact tail.out
  refine⟨?_⟩
  clear ho1
  refine aT (ι:=Nat×List (List UInt8)) Tryz.checked.mixed rfl [1,2,3,7] (fun y=>[.c (.d (.sl (bound.map encS))),.c (.bS (1+l,j) (y.2.map encS)),.c (.ptr (0,0) 0),.c (.d (.i .i64 y.1))]) (fun y=>[.box (x.enc.map .d)]::bQ S (l,j) (.tok 1 (y.2.map encS)))
   (fun y=>y.1≤x.fArgs.length∧y.2.length+ay.eG (x.fArgs.drop y.1)+aR.eG x.aP≤1073741824∧sK (x.fArgs.drop y.1) x.aK x.fName y.1 bound y.2=sK x.fArgs x.aK x.fName 0 bound o1) (fun y=>x.fArgs.length-y.1) (0,o1) rfl rfl ⟨Nat.zero_le _,by simp only[List.drop_zero];omega,rfl⟩ ?_
  rintro⟨i,o⟩ ⟨p1,p2,p3⟩
  have refs:∀{a b},kF 1 (jo [1,2,3,7] [.c (.d (.sl (bound.map encS))),.c (.bS (1+l,j) a),.c (.ptr (0,0) 0),.c (.d (.i .i64 b))])=true:=fun {a b}=>by simp[kF,jo,V.refs,C.refs,nC];omega
  simp only at p1 p2 p3
  refine W1 ?_
  refine S0 (fun hb h=>?_) fun hb h=>?_
  ·have hi:i<x.fArgs.length:=by omega
   have hs:=List.sizeOf_lt_of_mem (List.getElem_mem hi)
   have hz:=ay.vS hi
   rw[Mt hi] at p3
   rw[ay.mU hi] at p2
   have hlo:=vX x.fArgs[i] (if x.aK=8∧i=1 then bound++[x.fName] else bound) o
   have two:x.fArgs[i].sz+(bound.length+1)≤1073741824:=by omega
   repeat' (first|refine S0 (fun hb h=>?_) fun hb h=>?_)
   ·have e1:x.aK=8∧i=1:=⟨by omega,by omega⟩
    rw[if_pos e1] at p3 hlo
    refine⟨Cx,⟨_,rfl,rfl⟩,fun y hy=>(by cases hy),by omega,?_⟩
    refine W3 ?_
    rw[IV]
    refine pJ [true,false,true] rfl (ih x.fArgs[i] (by omega) (by omega) (bound++[x.fName]) o (1+l) j _ (by refine W1 ?_;exact LP _) (by omega) (by simp only[List.length_append,List.length_cons,List.length_nil];omega)) ?_
    simp -implicitDefEqProofs (disch:=omega) only[go_sem,bq]
    exact dh 1 (by decide) (i+1,kN x.fArgs[i] (bound++[x.fName]) o) (by simp only;omega) rfl rfl refs rfl ⟨by simp only;omega,by simp only;omega,p3⟩
   all_goals
    have e1:¬(x.aK=8∧i=1):=fun h=>by omega
    rw[if_neg e1] at p3 hlo
    refine W3 ?_
    refine bJ rfl (ih x.fArgs[i] (by omega) (by omega) bound o (1+l) j _ (by refine W1 ?_;exact LP _) (by omega) (by omega)) ?_
    simp -implicitDefEqProofs (disch:=omega) only[go_sem,bq]
    exact dh 1 (by decide) (i+1,kN x.fArgs[i] bound o) (by simp only;omega) rfl rfl refs rfl ⟨by simp only;omega,by simp only;omega,p3⟩
  have hi:i=x.fArgs.length:=by omega
  rw[hi,List.drop_length] at p2 p3
  rw[ay.eG] at p2
  rw[sK] at p3
  rw[←p3] at fin
  clear p3 refs
  refine aT (ι:=Nat×List (List UInt8)) Tryz.checked.mixed rfl [1,2,3,9] (fun y=>[.c (.d (.sl (bound.map encS))),.c (.bS (1+l,j) (y.2.map encS)),.c (.ptr (0,0) 0),.c (.d (.i .i64 y.1))]) (fun y=>[.box (x.enc.map .d)]::bQ S (l,j) (.tok 1 (y.2.map encS)))
   (fun y=>y.1≤x.aP.length∧y.2.length+aR.eG (x.aP.drop y.1)≤1073741824∧wG (x.aP.drop y.1) bound y.2=kN x bound out) (fun y=>x.aP.length-y.1) (0,o) rfl ?_ ⟨Nat.zero_le _,by simp only[List.drop_zero];omega,fin.symm⟩ ?_
  ·exact Z1
  clear p1 p2 fin hal
  rintro⟨i,o⟩ ⟨p1,p2,p3⟩
  have refs:∀a b,kF 1 (jo [1,2,3,9] [.c (.d (.sl (bound.map encS))),.c (.bS (1+l,j) a),.c (.ptr (0,0) 0),.c (.d (.i .i64 b))])=true:=fun a b=>by simp[kF,jo,V.refs,C.refs,nC];omega
  simp only at p1 p2 p3
  refine W1 ?_
  refine S0 (fun hb h=>?_) fun hb h=>?_
  ·have hi:i<x.aP.length:=by omega
   have hs:=List.sizeOf_lt_of_mem (List.getElem_mem hi)
   have hs':=aR.nW x.aP[i]
   have hz:=ay.aa0 hi
   have hz':=aR.Wj x.aP[i]
   rw[Mv hi,Tg] at p3
   rw[aR.mU hi] at p2
   have hlo:=vX x.aP[i].fBody (bound++x.aP[i].aA) o
   refine⟨Cx,⟨_,rfl,rfl⟩,fun y hy=>(by cases hy),by omega,⟨by omega,hi⟩,Cx,⟨_,rfl,rfl⟩,by omega,?_⟩
   rw[←List.map_append]
   refine pJ [true,false,true] rfl (ih x.aP[i].fBody (by omega) (by omega) (bound++x.aP[i].aA) o (1+l) j _ (by refine W1 ?_;exact LP _) (by omega) (by simp only[List.length_append];omega)) ?_
   simp -implicitDefEqProofs (disch:=omega) only[go_sem,bq]
   exact dh 1 (by decide) (i+1,kN x.aP[i].fBody (bound++x.aP[i].aA) o) (by simp only;omega) rfl rfl (refs _ _) rfl ⟨by simp only;omega,by simp only;omega,p3⟩
  ·have hi:i=x.aP.length:=by omega
   rw[hi,List.drop_length,wG] at p3
   rw[←p3]
   exact⟨rfl,rfl⟩
theorem Mx(x:ay)(hsz:x.sz≤4194304):aI Tryz.prog 292 [x.v] (.c (.d (.sl ((kN x [] []).map encS)))):=fun S=>by
 have hc:=ay.mh x
 have h0:∀S,cB Tryz.prog 321 [x.v,.c (.d (.sl [])),.c (.bO [])] S (fun r S'=>r=.c (.d (.sl ((kN x [] []).map encS)))∧S'=S):=fun S=>by
  refine cB.ade 2 (es:=[]) (bE:=1) rfl (by simp) (HZ _ x (Nat.lt_succ_self _) hsz [] [] 0 0 ([.tok 1 []]::S) rfl (by simp;omega) (by simp;omega)) ?_
  rintro r fr S' ⟨rfl,h2⟩
  injection h2 with h2 h3
  exact⟨_,rfl,rfl,h3⟩
 refine aG (rs:=[.tmp 2]) Tryz.checked.mixed Tryz.func292 Tryz.ntmps292 rfl rfl rfl rfl rfl ?_
 refine W1 ?_
 refine W3 ?_
 refine pJ [true,false,true] rfl (h0 _) ?_
 exact Z1
end Go.Proofs.YtocpgjlbagncjaaGreatDoor
namespace Go.Proofs.YtocpgjlbagncjaaGreatDoor
open Go Go.Ab
theorem Ba:∀n:Nat,(∀x:au,SizeOf.sizeOf x<n→∀y:au,x.sz≤4194304→aI Tryz.prog 338 [x.v,y.v] (.c (.d (.b (dec (x=y))))))∧
 (∀xs:List au,SizeOf.sizeOf xs<n→∀ys:List au,xs.length+bD (xs.map au.enc)≤4194304→aI Tryz.prog 352 [.c (.d (.sl (xs.map au.enc))),.c (.d (.sl (ys.map au.enc)))] (.c (.d (.b (dec (xs=ys))))))
 |0=>⟨fun x h=>by omega,fun x h=>by omega⟩
 |n+1=>by
  obtain⟨ih,qh⟩:=Ba n
  refine⟨fun x hn y hsz S=> ?_,fun xs hn ys hsz S=> ?_⟩
  ·have jS:=au.gM x
   simp only[au.sz,au.aD,cu,bN,D.sz,List.length_map] at hsz
   refine aG (rs:=[.tmp 4]) Tryz.checked.mixed Tryz.func338 Tryz.ntmps338 rfl rfl rfl rfl rfl ?_
   refine W1 ?_
   refine S0 (fun hb h=>?_) fun hb h=>?_
   ·refine S0 (fun hb h=>?_) fun hb h=>?_
    ·refine W3 ?_
     refine C1 (qh x.fArgs (by omega) y.fArgs (by omega)) ?_
     refine aB (iq ⟨fun e=> ?_,fun e=>by rw[e]⟩)
     exact au.ext ‹x.aK=y.aK› h e
    ·exact aB (aF (fun e=>h (by rw[e]))).symm
   ·exact aB (aF (fun e=>h (by rw[e]))).symm
  ·refine aG (rs:=[.tmp 4]) Tryz.checked.mixed Tryz.func352 Tryz.ntmps352 rfl rfl rfl rfl rfl ?_
   refine W1 ?_
   refine S0 (fun hb h=>?_) fun hb h=>?_
   ·exact aB (aF (fun e=>h (by rw[e]))).symm
   have hl:xs.length=ys.length:=by omega
   refine aT (ι:=Nat) Tryz.checked.mixed rfl [0,1,5] (fun y=>[.c (.d (.sl (xs.map au.enc))),.c (.d (.sl (ys.map au.enc))),.c (.d (.i .i64 y))]) (fun y=>[]::S)
    (fun i=>i≤xs.length∧∀j,j<i→xs[j]? =ys[j]?) (fun y=>xs.length-y) 0 rfl rfl ⟨Nat.zero_le _,fun j h=>by omega⟩ ?_
   rintro i ⟨p1,p2⟩
   refine W1 ?_
   refine S0 (fun hb h=>?_) fun hb h=>?_
   ·have hi:i<xs.length:=by omega
    have hi':i<ys.length:=by omega
    have hx:xs[i].sz≤bD (xs.map au.enc):=dA (List.mem_map_of_mem (List.getElem_mem hi))
    refine W3 ?_
    refine C1 (ih xs[i] (by have:=List.sizeOf_lt_of_mem (List.getElem_mem hi);omega) ys[i] (by omega)) ?_
    refine S0 (fun hb h=>?_) fun hb h=>?_
    ·exact aB (aF (fun e=>h (by simp only[e]))).symm
    refine bP (i+1) (by omega) rfl rfl ⟨by omega,fun j hj=> ?_⟩
    by_cases e:j=i
    ·subst e
     rw[List.getElem?_eq_getElem hi,List.getElem?_eq_getElem hi',h]
    ·exact p2 j (by omega)
   ·have hi:i=xs.length:=by omega
    refine aB (bA (List.ext_getElem? fun j=> ?_)).symm
    by_cases hj:j<i
    ·exact p2 j hj
    ·rw[List.getElem?_eq_none (by omega),List.getElem?_eq_none (by omega)]
theorem Kl(x y:au)(h:x.sz≤4194304):aI Tryz.prog 338 [x.v,y.v] (.c (.d (.b (dec (x=y))))):=(Ba _).1 x (Nat.lt_succ_self _) y h
theorem Bb:∀n:Nat,(∀x:au,SizeOf.sizeOf x<n→∀y:au,x.sz≤4194304→aI Tryz.prog 323 [x.v,y.v] (.c (.d (.b (dec (x=y))))))∧
 (∀xs:List au,SizeOf.sizeOf xs<n→∀ys:List au,xs.length+bD (xs.map au.enc)≤4194304→aI Tryz.prog 340 [.c (.d (.sl (xs.map au.enc))),.c (.d (.sl (ys.map au.enc))),.c (.fn 323 [])] (.c (.d (.b (dec (xs=ys))))))
 |0=>⟨fun x h=>by omega,fun x h=>by omega⟩
 |n+1=>by
  obtain⟨ih,qh⟩:=Bb n
  refine⟨fun x hn y hsz S=> ?_,fun xs hn ys hsz S=> ?_⟩
  ·have jS:=au.gM x
   simp only[au.sz,au.aD,cu,bN,D.sz,List.length_map] at hsz
   refine aG (rs:=[.tmp 4]) Tryz.checked.mixed Tryz.func323 Tryz.ntmps323 rfl rfl rfl rfl rfl ?_
   refine W1 ?_
   refine S0 (fun hb h=>?_) fun hb h=>?_
   ·refine S0 (fun hb h=>?_) fun hb h=>?_
    ·refine W3 ?_
     refine C1 (qh x.fArgs (by omega) y.fArgs (by omega)) ?_
     refine aB (iq ⟨fun e=> ?_,fun e=>by rw[e]⟩)
     exact au.ext ‹x.aK=y.aK› h e
    ·exact aB (aF (fun e=>h (by rw[e]))).symm
   ·exact aB (aF (fun e=>h (by rw[e]))).symm
  ·refine aG (rs:=[.tmp 6]) Tryz.checked.mixed Tryz.func340 Tryz.ntmps340 rfl rfl rfl rfl rfl ?_
   refine W1 ?_
   refine S0 (fun hb h=>?_) fun hb h=>?_
   ·exact aB (aF (fun e=>h (by rw[e]))).symm
   have hl:xs.length=ys.length:=by omega
   refine aT (ι:=Nat) Tryz.checked.mixed rfl [1,2,15,16,17] (fun y=>[.c (.d (.sl (ys.map au.enc))),.c (.fn 323 []),.c (.d (.sl (xs.map au.enc))),.c (.d (.i .i64 xs.length)),.c (.d (.i .i64 y))]) (fun y=>[]::S)
    (fun i=>i≤xs.length∧∀j,j<i→xs[j]? =ys[j]?) (fun y=>xs.length-y) 0 rfl rfl ⟨Nat.zero_le _,fun j h=>by omega⟩ ?_
   rintro i ⟨p1,p2⟩
   refine W1 ?_
   refine S0 (fun hb h=>?_) fun hb h=>?_
   ·have hi:i<xs.length:=by omega
    have hi':i<ys.length:=by omega
    have hx:xs[i].sz≤bD (xs.map au.enc):=dA (List.mem_map_of_mem (List.getElem_mem hi))
    refine W3 ?_
    refine C1 (ih xs[i] (by have:=List.sizeOf_lt_of_mem (List.getElem_mem hi);omega) ys[i] (by omega)) ?_
    refine S0 (fun hb h=>?_) fun hb h=>?_
    ·exact aB (aF (fun e=>h (by simp only[e]))).symm
    refine dh 0 (by decide) (i+1) (by omega) rfl rfl rfl rfl ⟨by omega,fun j hj=> ?_⟩
    by_cases e:j=i
    ·subst e
     rw[List.getElem?_eq_getElem hi,List.getElem?_eq_getElem hi',h]
    ·exact p2 j (by omega)
   ·have hi:i=xs.length:=by omega
    refine aB (bA (List.ext_getElem? fun j=> ?_)).symm
    by_cases hj:j<i
    ·exact p2 j hj
    ·rw[List.getElem?_eq_none (by omega),List.getElem?_eq_none (by omega)]
theorem Km(x y:au)(h:x.sz≤4194304):aI Tryz.prog 323 [x.v,y.v] (.c (.d (.b (dec (x=y))))):=(Bb _).1 x (Nat.lt_succ_self _) y h
end Go.Proofs.YtocpgjlbagncjaaGreatDoor
namespace Go.Ab
theorem ay.Cy{x:ay}(h:x.sz≤4194304):x.bL.length≤4194304∧x.fName.length≤4194304∧x.fType.sz≤4194304∧x.fArgs.length≤4194304∧x.aP.length≤4194304:=by
 simp only[ay.sz,ay.aD,cu,bN,D.sz,List.length_map,au.dZ] at h
 omega
theorem ay.aeU{x:ay}{i:Nat}(hi:i<x.fArgs.length)(h:x.sz≤4194304):x.fArgs[i].sz≤4194304:=by
 have hx:x.fArgs[i].sz≤bD (x.fArgs.map ay.enc):=dA (List.mem_map_of_mem (List.getElem_mem hi))
 simp only[ay.sz,ay.aD,cu,bN,D.sz,List.length_map,au.dZ] at h
 omega
theorem ay.aeV{x:ay}{i:Nat}(hi:i<x.aP.length)(h:x.sz≤4194304):x.aP[i].sz≤4194304:=by
 have hx:x.aP[i].sz≤bD (x.aP.map aR.enc):=dA (List.mem_map_of_mem (List.getElem_mem hi))
 simp only[ay.sz,ay.aD,cu,bN,D.sz,List.length_map,au.dZ] at h
 omega
theorem aR.Cy{x:aR}(h:x.sz≤4194304):x.dL.length≤4194304∧x.aA.length≤4194304∧x.fBody.sz≤4194304:=by
 simp only[aR.sz,aR.aD,cu,bN,D.sz,List.length_map,ay.dZ] at h
 omega
end Go.Ab
namespace Go.Proofs.YtocpgjlbagncjaaGreatDoor
open Go Go.Ab
theorem Bc:∀n:Nat,∀x:ay,SizeOf.sizeOf x<n→∀y:ay,x.sz≤4194304→aI Tryz.prog 295 [x.v,y.v] (.c (.d (.b (dec (x=y)))))
 |0=>fun x h=>by omega
 |n+1=>by
  have ih:=Bc n
  intro x hn y hsz S
  have jS:=ay.gM x
  have zS:=ay.oN x
  have hb0:=ay.Cy hsz
  have hargs:=J3 295 x.fArgs y.fArgs (by omega) (fun u hu v=>by
   obtain⟨i,hi,e⟩:=List.getElem_of_mem hu
   have:=List.sizeOf_lt_of_mem hu
   exact ih u (by omega) v (by rw[←e];exact ay.aeU hi hsz))
  have ajU:=LU 326 x.aP y.aP (by omega) (fun u hu v=>by
   obtain⟨i,hi,e⟩:=List.getElem_of_mem hu
   have hs:=List.sizeOf_lt_of_mem hu
   have hz:u.sz≤4194304:=by rw[←e];exact ay.aeV hi hsz
   have hz':=aR.Cy hz
   have aeT:=aR.nW u
   intro S
   refine aG (rs:=[.tmp 4]) Tryz.checked.mixed Tryz.func326 Tryz.ntmps326 rfl rfl rfl rfl rfl ?_
   refine W1 ?_
   refine S0 (fun hb h=>?_) fun hb h=>?_
   ·have h1:=h
    refine C2 (aaF u.aA v.aA (by omega)) ?_
    refine S0 (fun hb h=>?_) fun hb h=>?_
    ·have h2:=h
     refine C2 (ih u.fBody (by omega) v.fBody (by omega)) ?_
     exact aB (iq ⟨fun e=>aR.ext h1 h2 e,fun e=>by rw[e]⟩)
    ·exact aB (aF (fun e=>h (by rw[e]))).symm
   ·exact aB (aF (fun e=>h (by rw[e]))).symm)
  refine aG (rs:=[.tmp 4]) Tryz.checked.mixed Tryz.func295 Tryz.ntmps295 rfl rfl rfl rfl rfl ?_
  refine W1 ?_
  refine S0 (fun hb h=>?_) fun hb h=>?_
  ·have h1:=h
   refine S0 (fun hb h=>?_) fun hb h=>?_
   ·have h2:=h
    refine S0 (fun hb h=>?_) fun hb h=>?_
    ·have h3:=h
     refine S0 (fun hb h=>?_) fun hb h=>?_
     ·have h4:=h
      refine C2 (Km x.fType y.fType (by omega)) ?_
      refine S0 (fun hb h=>?_) fun hb h=>?_
      ·have h5:=h
       refine C2 (hargs) ?_
       refine S0 (fun hb h=>?_) fun hb h=>?_
       ·have h6:=h
        refine C2 (ajU) ?_
        exact aB (iq ⟨fun e=>ay.ext h1 h2 h3 h4 h5 h6 e,fun e=>by rw[e]⟩)
       ·exact aB (aF (fun e=>h (by rw[e]))).symm
      ·exact aB (aF (fun e=>h (by rw[e]))).symm
     ·exact aB (aF (fun e=>h (by rw[e]))).symm
    ·exact aB (aF (fun e=>h (by rw[e]))).symm
   ·exact aB (aF (fun e=>h (by rw[e]))).symm
  ·exact aB (aF (fun e=>h (by rw[e]))).symm
theorem Kn(x y:ay)(h:x.sz≤4194304):aI Tryz.prog 295 [x.v,y.v] (.c (.d (.b (dec (x=y))))):=Bc _ x (Nat.lt_succ_self _) y h
theorem Bd:∀n:Nat,∀x:ay,SizeOf.sizeOf x<n→∀y:ay,x.sz≤4194304→aI Tryz.prog 319 [x.v,y.v] (.c (.d (.b (dec (x=y)))))
 |0=>fun x h=>by omega
 |n+1=>by
  have ih:=Bd n
  intro x hn y hsz S
  have jS:=ay.gM x
  have zS:=ay.oN x
  have hb0:=ay.Cy hsz
  refine aG (rs:=[.tmp 4]) Tryz.checked.mixed Tryz.func319 Tryz.ntmps319 rfl rfl rfl rfl rfl ?_
  refine W1 ?_
  refine S0 (fun hb h=>?_) fun hb h=>?_
  ·exact aB (aF (fun e=>h (by rw[e]))).symm
  have h1:=h
  refine S0 (fun hb h=>?_) fun hb h=>?_
  ·exact aB (aF (fun e=>h (by rw[e]))).symm
  have h2:=h
  refine S0 (fun hb h=>?_) fun hb h=>?_
  ·exact aB (aF (fun e=>h (by rw[e]))).symm
  have h3:=h
  refine S0 (fun hb h=>?_) fun hb h=>?_
  ·exact aB (aF (fun e=>h (by rw[e]))).symm
  have h4:=h
  refine C2 (Kl x.fType y.fType (by omega)) ?_
  refine S0 (fun hb h=>?_) fun hb h=>?_
  ·exact aB (aF (fun e=>h (by rw[e]))).symm
  have h5:=h
  refine S0 (fun hb h=>?_) fun hb h=>?_
  ·exact aB (aF (fun e=>h (by rw[e]))).symm
  have h6:x.fArgs.length=y.fArgs.length:=by omega
  refine S0 (fun hb h=>?_) fun hb h=>?_
  ·exact aB (aF (fun e=>h (by rw[e]))).symm
  have h7:x.aP.length=y.aP.length:=by omega
  refine aT (ι:=Nat) Tryz.checked.mixed rfl [2,3,5] (fun i=>[.c (.ptr (0,0) 0),.c (.ptr (0,1) 0),.c (.d (.i .i64 i))]) (fun _=>[.box (x.enc.map .d),.box (y.enc.map .d)]::S)
   (fun i=>i≤x.fArgs.length∧∀j,j<i→x.fArgs[j]? =y.fArgs[j]?) (fun i=>x.fArgs.length-i) 0 rfl ?_ ⟨Nat.zero_le _,fun j h=>by omega⟩ ?_
  ·exact Z1
  rintro i ⟨p1,p2⟩
  refine W1 ?_
  refine S0 (fun hb h=>?_) fun hb h=>?_
  ·have hi:i<x.fArgs.length:=by omega
   have hi':i<y.fArgs.length:=by omega
   refine W3 ?_
   refine C2 (ih x.fArgs[i] (by have:=List.sizeOf_lt_of_mem (List.getElem_mem hi);omega) y.fArgs[i] (ay.aeU hi hsz)) ?_
   refine S0 (fun hb h=>?_) fun hb h=>?_
   ·exact aB (aF (fun e=>h (by simp only[e]))).symm
   refine bP (i+1) (by omega) rfl rfl ⟨by omega,fun j hj=> ?_⟩
   by_cases e:j=i
   ·subst e
    rw[List.getElem?_eq_getElem hi,List.getElem?_eq_getElem hi',h]
   ·exact p2 j (by omega)
  have hi:i=x.fArgs.length:=by omega
  have h8:x.fArgs=y.fArgs:=List.ext_getElem? fun j=>by
   by_cases hj:j<i
   ·exact p2 j hj
   ·rw[List.getElem?_eq_none (by omega),List.getElem?_eq_none (by omega)]
  refine aT (ι:=Nat) Tryz.checked.mixed rfl [2,3,6] (fun i=>[.c (.ptr (0,0) 0),.c (.ptr (0,1) 0),.c (.d (.i .i64 i))]) (fun _=>[.box (x.enc.map .d),.box (y.enc.map .d)]::S)
   (fun i=>i≤x.aP.length∧∀j,j<i→x.aP[j]? =y.aP[j]?) (fun i=>x.aP.length-i) 0 rfl ?_ ⟨Nat.zero_le _,fun j h=>by omega⟩ ?_
  ·exact Z1
  clear p1 p2 hi hb h
  clear i
  rintro i ⟨p1,p2⟩
  refine W1 ?_
  refine S0 (fun hb h=>?_) fun hb h=>?_
  ·have hi:i<x.aP.length:=by omega
   have hi':i<y.aP.length:=by omega
   have hs:=List.sizeOf_lt_of_mem (List.getElem_mem hi)
   have hz:=aR.Cy (ay.aeV hi hsz)
   have aeT:=aR.nW x.aP[i]
   refine W3 ?_
   refine S0 (fun hb h=>?_) fun hb h=>?_
   ·exact aB (aF (fun e=>h (by simp only[e]))).symm
   have k1:=h
   refine W3 ?_
   refine C2 (U6 x.aP[i].aA y.aP[i].aA (by omega)) ?_
   refine S0 (fun hb h=>?_) fun hb h=>?_
   ·exact aB (aF (fun e=>h (by simp only[e]))).symm
   have k2:=h
   refine W3 ?_
   refine C2 (ih x.aP[i].fBody (by omega) y.aP[i].fBody (by omega)) ?_
   refine S0 (fun hb h=>?_) fun hb h=>?_
   ·exact aB (aF (fun e=>h (by simp only[e]))).symm
   have k3:=h
   refine bP (i+1) (by omega) rfl rfl ⟨by omega,fun j hj=> ?_⟩
   by_cases e:j=i
   ·subst e
    rw[List.getElem?_eq_getElem hi,List.getElem?_eq_getElem hi',aR.ext k1 k2 k3]
   ·exact p2 j (by omega)
  ·have hi:i=x.aP.length:=by omega
   have h9:x.aP=y.aP:=List.ext_getElem? fun j=>by
    by_cases hj:j<i
    ·exact p2 j hj
    ·rw[List.getElem?_eq_none (by omega),List.getElem?_eq_none (by omega)]
   exact aB (bA (ay.ext h1 h2 h3 h4 h5 h8 h9)).symm
theorem Ko(x y:ay)(h:x.sz≤4194304):aI Tryz.prog 319 [x.v,y.v] (.c (.d (.b (dec (x=y))))):=Bd _ x (Nat.lt_succ_self _) y h
end Go.Proofs.YtocpgjlbagncjaaGreatDoor
namespace Go.Proofs.YtocpgjlbagncjaaGreatDoor
open Go Go.Ab
theorem EA:∀n:Nat,∀t:au,SizeOf.sizeOf t<n→t.sz≤4194304→∀v:List UInt8,aI Tryz.prog 291 [t.v,.c (.d (.s v))] (.c (.d (.i .i64 (q9 v t))))
 |0=>fun t h=>by omega
 |n+1=>by
  have ih:=EA n
  intro t hn hsz v S
  have jS:=au.gM t
  have hts:=G7 hsz
  have hcl:=aaE v t
  have hcn:=mh t
  have he:=aaD v t
  refine aG (rs:=[.tmp 4]) Tryz.checked.mixed Tryz.func291 Tryz.ntmps291 rfl rfl rfl rfl rfl ?_
  refine W1 ?_
  repeat' (first|(refine S0 (fun hb h=>?_) fun hb h=>?_))
  all_goals first
   |(have hc:q9 v t=1+wD v t.fArgs:=by rw[he,if_pos (by simp only[LK,decide_eq_true_eq];exact⟨by assumption,by assumption⟩)])
   |(have hc:q9 v t=0+wD v t.fArgs:=by rw[he,if_neg (by simp only[LK,decide_eq_true_eq];exact fun x=>by have:=x.1;have:=x.2;contradiction)])
  all_goals
   refine aT (ι:=Nat×Nat) Tryz.checked.mixed rfl [1,2,5,6] (fun y=>[.c (.d (.s v)),.c (.ptr (0,0) 0),.c (.d (.i .i64 y.2)),.c (.d (.i .i64 y.1))]) (fun _=>[.box [.d (.i .i64 t.aK),.d (.s t.fName),.d (.sl (t.fArgs.map au.enc))]]::S)
    (fun y=>y.1≤t.fArgs.length∧q9 v t=y.2+wD v (t.fArgs.drop y.1)) (fun y=>t.fArgs.length-y.1) (0,_) rfl rfl ⟨Nat.zero_le _,hc⟩ ?_
   rintro⟨i,c⟩ ⟨p1,p2⟩
   simp only at p1 p2
   refine W1 ?_
   refine S0 (fun hb h=>?_) fun hb h=>?_
   ·have hi:i<t.fArgs.length:=by omega
    rw[SC hi] at p2
    refine W3 ?_
    refine C2 (ih t.fArgs[i] (by have:=List.sizeOf_lt_of_mem (List.getElem_mem hi);omega) (BG hi hsz).1 v) ?_
    rw[show(c:Int)+(q9 v t.fArgs[i]:Int)=((c+q9 v t.fArgs[i]:Nat):Int) by omega]
    exact bP (i+1,c+q9 v t.fArgs[i]) (by simp only;omega) rfl rfl ⟨by simp only;omega,by simp only;omega⟩
   ·have hi:i=t.fArgs.length:=by omega
    rw[hi,List.drop_length] at p2
    have h0:wD v []=0:=rfl
    exact int_eq (by omega)
theorem P8(v:List UInt8)(t:au)(hsz:t.sz≤4194304):aI Tryz.prog 238 [.c (.d (.s v)),t.v] (.c (.d (.b (occurs v t)))):=fun S=>by
 refine aG (rs:=[.tmp 4]) Tryz.checked.mixed Tryz.func238 Tryz.ntmps238 rfl rfl rfl rfl rfl ?_
 refine W1 ?_
 refine C2 (EA _ t (Nat.lt_succ_self _) hsz v) ?_
 exact aB (by unfold occurs;rw[Bool.eq_iff_iff];simp only[decide_eq_true_eq];omega)
end Go.Proofs.YtocpgjlbagncjaaGreatDoor
namespace Go.Ab
def zeroE:ay:=.mk 0 [] [] 0 (.mk 0 [] []) [] []
def IW:List (List UInt8):=[[115,101,108,102]]
noncomputable def EB(vars:List (List UInt8))(e:ay):Bool:=rV e&&among (kN e [] []) vars
noncomputable def mX(vars:List (List UInt8))(e:ay):Bool:=iL vars&&EB vars e
noncomputable def nX(vars:List (List UInt8))(b:aO):Bool:=(validName b.bL&&oh b.fType)&&(!rG b.fType&&among (jy [] b.fType) vars)
noncomputable def qz(vars:List (List UInt8))(bs:List aO):Bool:=dec (bs.length≤4)&&bs.all (nX vars)
noncomputable def iG(g:aN):Bool:=
 validName g.fName&&(dec (g.aJ.length≤4)&&(lV IW g.aJ&&(gW IW g.aU&&
  (if g.gF=true then dec (g.aA.length=g.aJ.length+1)&&mX g.aA g.fBody else dec (g.aA.length=0)&&dec (g.fBody=zeroE)))))
theorem yt{xs:List au}{t:au}(h:t∈xs):t.sz≤bD (xs.map au.enc):=dA (List.mem_map_of_mem h)
theorem qo{xs:List aO}{t:aO}(h:t∈xs):t.sz≤bD (xs.map aO.enc):=dA (List.mem_map_of_mem h)
theorem aN.sum(x:aN):x.fName.length+(x.aJ.length+bD (x.aJ.map au.enc))+x.aU.sz+(x.aA.length+bD (x.aA.map encS))+x.fBody.sz≤x.sz:=by
 simp only[aN.sz,aN.aD,cu,bN,D.sz,List.length_map,au.dZ,ay.dZ]
 omega
theorem aO.sum(x:aO):x.bL.length+x.fType.sz≤x.sz:=by
 simp only[aO.sz,aO.aD,cu,bN,D.sz,List.length_map,au.dZ]
 omega
theorem Ti(e:ay)(h:e.sz≤4194304):(kN e [] []).length≤1073741824:=by
 have h1:=vX e [] []
 have h2:=ay.mh e
 simp at h1
 omega
theorem MB(t:au)(h:t.sz≤4194304):(jy [] t).length≤1073741824:=by
 have h1:=Ao t []
 have h2:=_root_.Go.Ab.mh t
 simp at h1
 omega
theorem JH(vars:List (List UInt8))(t:au):gW vars t=(oh t&&among (jy [] t) vars):=rfl
end Go.Ab
namespace Go.Proofs.YtocpgjlbagncjaaGreatDoor
open Go Go.Ab
theorem H6(vars:List (List UInt8))(e:ay)(hv:vars.length≤1073741824)(hs:∀s∈vars,s.length≤4194304)(hsz:e.sz≤4194304):aI Tryz.prog 186 [.c (.d (.sl (vars.map encS))),e.v] (.c (.d (.b (mX vars e)))):=fun S=>by
 refine aG (rs:=[.tmp 4]) Tryz.checked.mixed Tryz.func186 Tryz.ntmps186 rfl rfl rfl rfl rfl ?_
 refine W1 ?_
 refine C2 (oW vars hv hs) ?_
 refine S0 (fun hb h=>?_) fun hb h=>?_
 ·have h1:=h
  refine C2 (Ki e hsz) ?_
  refine S0 (fun hb h=>?_) fun hb h=>?_
  ·have h2:=h
   refine C2 (Mw e hsz) ?_
   refine C2 (zU _ vars (Ti e hsz) hv) ?_
   exact aB (by unfold mX EB;rw[h1,h2];rfl)
  ·exact aB (by unfold mX EB;rw[h];simp)
 ·exact aB (by unfold mX;rw[h];rfl)
theorem FN(vars:List (List UInt8))(e:ay)(hv:vars.length≤1073741824)(hsz:e.sz≤4194304):aI Tryz.prog 240 [e.v,.c (.d (.sl (vars.map encS)))] (.c (.d (.b (EB vars e)))):=fun S=>by
 have hlen:=Ti e hsz
 refine aG (rs:=[.tmp 4]) Tryz.checked.mixed Tryz.func240 Tryz.ntmps240 rfl rfl rfl rfl rfl ?_
 refine W1 ?_
 refine C2 (Mx e hsz) ?_
 unfold EB
 generalize kN e [] []=xs at hlen ⊢
 refine aT (ι:=Nat) Tryz.checked.mixed rfl [1,2,5,6] (fun i=>[.c (.d (.sl (vars.map encS))),.c (.ptr (0,0) 0),.c (.d (.sl (xs.map encS))),.c (.d (.i .i64 i))]) (fun _=>[.box (e.enc.map .d)]::S)
  (fun i=>i≤xs.length∧among (xs.drop i) vars=among xs vars) (fun i=>xs.length-i) 0 rfl ?_ ⟨Nat.zero_le _,rfl⟩ ?_
 ·exact Z1
 rintro i ⟨p1,p2⟩
 simp -implicitDefEqProofs (disch:=omega) only[go_sem,encS]
 with_reducible refine dU (fun hb=> ?_) (fun hb=> ?_)<;>have h:=hb<;>(try simp only[wf_preprocess] at h)<;>simp -implicitDefEqProofs (disch:=omega) only[go_sem,hb,encS]<;>refine W3 ?_
 ·have hi:i<xs.length:=by omega
  rw[List.drop_eq_getElem_cons hi] at p2
  have p3:among xs vars=(dec (xs[i]∈vars)&&among (xs.drop (i+1)) vars):=p2.symm
  refine W3 ?_
  refine C2 (qZ vars xs[i] hv) ?_
  refine S0 (fun hb h=>?_) fun hb h=>?_
  ·exact aB (by rw[p3,aF h];simp)
  ·exact bP (i+1) (by omega) rfl rfl ⟨by omega,by rw[p3,bA h];rfl⟩
 ·rw[List.drop_of_length_le (by omega)] at p2
  have p3:among xs vars=true:=p2.symm
  refine W3 ?_
  refine C2 (Kj e hsz) ?_
  exact aB (by rw[p3];simp)
theorem MC(vars:List (List UInt8))(hv:vars.length≤1073741824)(rest:List Ab.Obj)(S:Store)(b:aO)(hb:b.sz≤4194304):oV Tryz.prog 261 [((0,0),0)] ((.box [.d (.sl (vars.map encS))]::rest)::S) [b.v] (.c (.d (.b (!nX vars b)))):=fun F=>by
 have hs:=aO.sum b
 refine aG (rs:=[.tmp 3]) Tryz.checked.mixed Tryz.func261 Tryz.ntmps261 rfl rfl rfl rfl rfl ?_
 refine W1 ?_
 refine C2 (I9 b (by omega) (by omega)) ?_
 refine S0 (fun hb h=>?_) fun hb h=>?_
 ·exact aB (by unfold nX;rw[h];rfl)
 have h1:=h
 refine W3 ?_
 refine C2 (Eo b.fType (by omega)) ?_
 refine S0 (fun hb h=>?_) fun hb h=>?_
 ·exact aB (by unfold nX;rw[h];simp)
 have h2:=h
 refine W3 ?_
 refine C2 (yM b.fType (by omega)) ?_
 refine C2 (zU _ vars (MB _ (by omega)) hv) ?_
 exact aB (by unfold nX;rw[h1,h2];simp)
theorem H7(bs:List aO)(vars:List (List UInt8))(hl:bs.length≤1073741824)(hz:∀b∈bs,b.sz≤4194304)(hv:vars.length≤1073741824):aI Tryz.prog 184 [.c (.d (.sl (bs.map aO.enc))),.c (.d (.sl (vars.map encS)))] (.c (.d (.b (qz vars bs)))):=fun S=>by
 have ha:(bs.any fun t=> !nX vars t)= !bs.all (nX vars):=by rw[List.not_all_eq_any_not]
 refine aG (rs:=[.tmp 4]) Tryz.checked.mixed Tryz.func184 Tryz.ntmps184 rfl rfl rfl rfl rfl ?_
 refine W1 ?_
 refine S0 (fun hb h=>?_) fun hb h=>?_
 ·have h1:=h
  refine W3 ?_
  refine bJ rfl (Fz 261 [((0,0),0)] _ bs (fun t=> !nX vars t) hl fun t hx=>MC vars hv [] S t (hz t hx)) ?_
  refine W1 ?_
  rw[ha]
  exact aB (by unfold qz;rw[bA (by omega)];simp)
 ·exact aB (by unfold qz;rw[aF (by omega)];rfl)
theorem JI(bs:List aO)(vars:List (List UInt8))(hl:bs.length≤1073741824)(hz:∀b∈bs,b.sz≤4194304)(hv:vars.length≤1073741824):aI Tryz.prog 237 [.c (.d (.sl (bs.map aO.enc))),.c (.d (.sl (vars.map encS)))] (.c (.d (.b (qz vars bs)))):=fun S=>by
 refine aG (rs:=[.tmp 4]) Tryz.checked.mixed Tryz.func237 Tryz.ntmps237 rfl rfl rfl rfl rfl ?_
 refine W1 ?_
 refine aT (ι:=Nat) Tryz.checked.mixed rfl [0,1,5] (fun i=>[.c (.d (.sl (bs.map aO.enc))),.c (.d (.sl (vars.map encS))),.c (.d (.i .i64 i))]) (fun _=>[]::S)
  (fun i=>i≤bs.length∧(bs.drop i).all (nX vars)=bs.all (nX vars)) (fun i=>bs.length-i) 0 rfl rfl ⟨Nat.zero_le _,rfl⟩ ?_
 rintro i ⟨p1,p2⟩
 refine W1 ?_
 refine S0 (fun hb h=>?_) fun hb h=>?_
 ·have hi:i<bs.length:=by omega
  have hb:=hz _ (List.getElem_mem hi)
  have hs:=aO.sum bs[i]
  rw[List.drop_eq_getElem_cons hi,List.all_cons] at p2
  have no:nX vars bs[i]=false→V.c (.d (.b false))=V.c (.d (.b (qz vars bs))):=fun h=>aB (by unfold qz;rw[←p2,h];simp)
  refine W3 ?_
  refine C2 (I8 bs[i] (by omega) (by omega)) ?_
  refine S0 (fun hb h=>?_) fun hb h=>?_
  ·exact no (by unfold nX;rw[h];rfl)
  have h1:=h
  refine W3 ?_
  refine C2 (uj bs[i].fType vars (by omega) hv) ?_
  refine S0 (fun hb h=>?_) fun hb h=>?_
  ·exact no (by unfold nX;rw[JH] at h;rw[Bool.and_eq_true] at h1;rw[h1.2,Bool.true_and] at h;rw[h];simp)
  have h2:=h
  refine W3 ?_
  refine C2 (En bs[i].fType (by omega)) ?_
  refine S0 (fun hb h=>?_) fun hb h=>?_
  ·exact no (by unfold nX;rw[h];simp)
  have h3:=h
  rw[JH,Bool.and_eq_true] at h2
  exact bP (i+1) (by omega) rfl rfl ⟨by omega,by rw[←p2];unfold nX;rw[h1,h2.2,h3];rfl⟩
 ·rw[List.drop_of_length_le (by omega)] at p2
  exact aB (by unfold qz;rw[←p2,jY];simp only[List.all_nil,Bool.and_true];exact iq ⟨fun h=>by omega,fun h=>by omega⟩)
theorem P9(e:ay)(hsz:e.sz≤4194304):aI Tryz.prog 252 [e.v] (.c (.d (.b (dec (e=zeroE))))):=fun S=>by
 refine aG (rs:=[.tmp 2]) Tryz.checked.mixed Tryz.func252 Tryz.ntmps252 rfl rfl rfl rfl rfl ?_
 refine W1 ?_
 exact C3 (Kn e zeroE hsz)
theorem YN(e:ay)(hsz:e.sz≤4194304):aI Tryz.prog 288 [e.v] (.c (.d (.b (dec (e=zeroE))))):=fun S=>by
 refine aG (rs:=[.tmp 2]) Tryz.checked.mixed Tryz.func288 Tryz.ntmps288 rfl rfl rfl rfl rfl ?_
 refine W1 ?_
 exact C3 (Ko e zeroE hsz)
theorem NK(g:aN)(hsz:g.sz≤4194304):aI Tryz.prog 178 [g.v] (.c (.d (.b (iG g)))):=fun S=>by
 have hs:=aN.sum g
 have hT:∀t∈g.aJ,t.sz≤4194304:=fun t ht=>by have:=yt ht;omega
 have hV:∀s∈g.aA,s.length≤4194304:=fun s h=>by have:=rU h;omega
 refine aG (rs:=[.tmp 2]) Tryz.checked.mixed Tryz.func178 Tryz.ntmps178 rfl rfl rfl rfl rfl ?_
 refine W1 ?_
 refine C2 (iD g.fName (by omega)) ?_
 refine S0 (fun hb h=>?_) fun hb h=>?_
 ·exact aB (by unfold iG;rw[h];rfl)
 have h1:=h
 refine S0 (fun hb h=>?_) fun hb h=>?_
 ·exact aB (by unfold iG;rw[aF (show ¬g.aJ.length≤4 by omega)];simp)
 have h2:=h
 refine W3 ?_
 refine C1 (yN g.aJ IW (by omega) hT (by decide)) ?_
 refine S0 (fun hb h=>?_) fun hb h=>?_
 ·exact aB (by unfold iG;rw[h];simp)
 have h3:=h
 refine W3 ?_
 refine C1 (uF g.aU IW (by omega) (by decide)) ?_
 refine S0 (fun hb h=>?_) fun hb h=>?_
 ·exact aB (by unfold iG;rw[h];simp)
 have h4:=h
 refine S0 (fun hb h=>?_) fun hb h=>?_
 ·have h5:=h
  refine S0 (fun hb h=>?_) fun hb h=>?_
  ·have h6:=h
   refine C2 (H6 g.aA g.fBody (by omega) hV (by omega)) ?_
   exact aB (by unfold iG;rw[h1,h3,h4,if_pos h5,bA (show g.aJ.length≤4 by omega),bA (show g.aA.length=g.aJ.length+1 by omega)];rfl)
  ·exact aB (by unfold iG;rw[if_pos h5,aF (show ¬g.aA.length=g.aJ.length+1 by omega)];simp)
 ·have h5:¬g.gF=true:=by rw[h];simp
  refine S0 (fun hb h=>?_) fun hb h=>?_
  ·refine C2 (P9 g.fBody (by omega)) ?_
   exact aB (by unfold iG;rw[h1,h3,h4,if_neg h5,bA (show g.aJ.length≤4 by omega),bA (show g.aA.length=0 by omega)];rfl)
  ·exact aB (by unfold iG;rw[if_neg h5,aF (show ¬g.aA.length=0 by omega)];simp)
theorem aa1(g:aN)(hsz:g.sz≤4194304):aI Tryz.prog 233 [g.v] (.c (.d (.b (iG g)))):=fun S=>by
 have hs:=aN.sum g
 have hT:∀t∈g.aJ,t.sz≤4194304:=fun t ht=>by have:=yt ht;omega
 have hV:∀s∈g.aA,s.length≤4194304:=fun s h=>by have:=rU h;omega
 refine aG (rs:=[.tmp 2]) Tryz.checked.mixed Tryz.func233 Tryz.ntmps233 rfl rfl rfl rfl rfl ?_
 refine W1 ?_
 refine C2 (iE g.fName (by omega)) ?_
 refine S0 (fun hb h=>?_) fun hb h=>?_
 ·exact aB (by unfold iG;rw[h];rfl)
 have h1:=h
 refine S0 (fun hb h=>?_) fun hb h=>?_
 ·exact aB (by unfold iG;rw[aF (show ¬g.aJ.length≤4 by omega)];simp)
 have h2:=h
 refine W3 ?_
 refine C1 (OV g.aJ IW (by omega) hT (by decide)) ?_
 refine S0 (fun hb h=>?_) fun hb h=>?_
 ·exact aB (by unfold iG;rw[h];simp)
 have h3:=h
 refine W3 ?_
 refine C1 (uj g.aU IW (by omega) (by decide)) ?_
 refine S0 (fun hb h=>?_) fun hb h=>?_
 ·exact aB (by unfold iG;rw[h];simp)
 have h4:=h
 refine S0 (fun hb h=>?_) fun hb h=>?_
 ·have h5:¬g.gF=true:=by rw[h];simp
  refine S0 (fun hb h=>?_) fun hb h=>?_
  ·refine C2 (YN g.fBody (by omega)) ?_
   exact aB (by unfold iG;rw[h1,h3,h4,if_neg h5,bA (show g.aJ.length≤4 by omega),bA (show g.aA.length=0 by omega)];rfl)
  ·exact aB (by unfold iG;rw[if_neg h5,aF (show ¬g.aA.length=0 by omega)];simp)
 ·have h5:=h
  refine C2 (mD g.aA 5 (by omega) hV) ?_
  refine S0 (fun hb h=>?_) fun hb h=>?_
  ·have h6:=h
   rw[Bool.and_eq_true] at h6
   refine S0 (fun hb h=>?_) fun hb h=>?_
   ·refine C2 (FN g.aA g.fBody (by omega) (by omega)) ?_
    exact aB (by unfold iG mX;rw[h1,h3,h4,if_pos h5,h6.2,bA (show g.aJ.length≤4 by omega),bA (show g.aA.length=g.aJ.length+1 by omega)];rfl)
   ·exact aB (by unfold iG;rw[if_pos h5,aF (show ¬g.aA.length=g.aJ.length+1 by omega)];simp)
  ·refine aB ?_
   by_cases h7:g.aA.length=g.aJ.length+1
   ·rw[bA (by omega),Bool.true_and] at h
    unfold iG mX;rw[if_pos h5,h];simp
   ·unfold iG;rw[if_pos h5,aF h7];simp
end Go.Proofs.YtocpgjlbagncjaaGreatDoor
namespace Go.Proofs.YtocpgjlbagncjaaGreatDoor
open Go Go.Ab
theorem Vi(x:bH):∀y:bH,x.sz≤1048576→aI Tryz.prog 267 [x.v,y.v] (.c (.d (.b (dec (x=y))))):=by
 intro y hsz S
 simp only[bH.sz,bH.aD,cu,bN,D.sz,List.length_map,ay.dZ] at hsz
 refine aG (rs:=[.tmp 4]) Tryz.checked.mixed Tryz.func267 Tryz.ntmps267 rfl rfl rfl rfl rfl ?_
 refine W1 ?_
 refine S0 (fun hb h=>?_) fun hb h=>?_
 ·exact aB (aF (fun e=>h (by rw[e]))).symm
 have qJ:=h
 clear h
 refine C1 (pQ x.aA _ (by omega)) ?_
 refine S0 (fun hb h=>?_) fun hb h=>?_
 ·exact aB (aF (fun e=>h (by rw[e]))).symm
 have yL:=h
 clear h
 refine C1 (GY x.fBody _ (by omega)) ?_
 refine S0 (fun hb h=>?_) fun hb h=>?_
 ·exact aB (aF (fun e=>h (by rw[e]))).symm
 have Fw:=h
 clear h
 exact aB (bA (bH.ext' qJ yL Fw)).symm
theorem Tj(xs:List bH):∀ys:List bH,xs.length+bD (xs.map bH.enc)≤1048576→aI Tryz.prog 192 [.c (.d (.sl (xs.map bH.enc))),.c (.d (.sl (ys.map bH.enc)))] (.c (.d (.b (dec (xs=ys))))):=by
 intro ys hsz S
 refine aG (rs:=[.tmp 4]) Tryz.checked.mixed Tryz.func192 Tryz.ntmps192 rfl rfl rfl rfl rfl ?_
 refine W1 ?_
 refine S0 (fun hb h=>?_) fun hb h=>?_
 ·exact aB (aF (fun e=>h (by rw[e]))).symm
 have hl:xs.length=ys.length:=by omega
 refine aT (ι:=Nat) Tryz.checked.mixed rfl [0,1,5] (fun y=>[.c (.d (.sl (xs.map bH.enc))),.c (.d (.sl (ys.map bH.enc))),.c (.d (.i .i64 y))]) (fun y=>[]::S)
  (fun i=>i≤xs.length∧∀j,j<i→xs[j]? =ys[j]?) (fun y=>xs.length-y) 0 rfl rfl ⟨Nat.zero_le _,fun j h=>by omega⟩ ?_
 rintro i ⟨p1,p2⟩
 refine W1 ?_
 refine S0 (fun hb h=>?_) fun hb h=>?_
 ·have hi:i<xs.length:=by omega
  have hi':i<ys.length:=by omega
  have hx:xs[i].sz≤bD (xs.map bH.enc):=dA (List.mem_map_of_mem (List.getElem_mem hi))
  refine W3 ?_
  refine C1 (Vi xs[i] ys[i] (by omega)) ?_
  refine S0 (fun hb h=>?_) fun hb h=>?_
  ·exact aB (aF (fun e=>h (by simp only[e]))).symm
  refine bP (i+1) (by omega) rfl rfl ⟨by omega,fun j hj=> ?_⟩
  by_cases e:j=i
  ·subst e
   rw[List.getElem?_eq_getElem hi,List.getElem?_eq_getElem hi',h]
  ·exact p2 j (by omega)
 ·have hi:i=xs.length:=by omega
  refine aB (bA (List.ext_getElem? fun j=> ?_)).symm
  by_cases hj:j<i
  ·exact p2 j hj
  ·rw[List.getElem?_eq_none (by omega),List.getElem?_eq_none (by omega)]
end Go.Proofs.YtocpgjlbagncjaaGreatDoor
namespace Go.Proofs.YtocpgjlbagncjaaGreatDoor
open Go Go.Ab
theorem Qa(x:aQ):∀y:aQ,x.sz≤1048576→aI Tryz.prog 104 [x.v,y.v] (.c (.d (.b (dec (x=y))))):=by
 intro y hsz S
 simp only[aQ.sz,aQ.aD,cu,bN,D.sz,List.length_map,au.dZ] at hsz
 refine aG (rs:=[.tmp 4]) Tryz.checked.mixed Tryz.func104 Tryz.ntmps104 rfl rfl rfl rfl rfl ?_
 refine W1 ?_
 refine S0 (fun hb h=>?_) fun hb h=>?_
 ·exact aB (aF (fun e=>h (by rw[e]))).symm
 have GX:=h
 clear h
 refine C1 (pQ x.aA _ (by omega)) ?_
 refine S0 (fun hb h=>?_) fun hb h=>?_
 ·exact aB (aF (fun e=>h (by rw[e]))).symm
 have yL:=h
 clear h
 refine C1 (vR x.bM _ (by omega)) ?_
 refine S0 (fun hb h=>?_) fun hb h=>?_
 ·exact aB (aF (fun e=>h (by rw[e]))).symm
 have ajV:=h
 clear h
 refine C1 (Jt x.bn _ (by omega)) ?_
 refine S0 (fun hb h=>?_) fun hb h=>?_
 ·exact aB (aF (fun e=>h (by rw[e]))).symm
 have Tk:=h
 clear h
 refine S0 (fun hb h=>?_) fun hb h=>?_
 ·exact aB (aF (fun e=>h (by rw[e]))).symm
 have adX:=h
 clear h
 refine S0 (fun hb h=>?_) fun hb h=>?_
 ·exact aB (aF (fun e=>h (by rw[e]))).symm
 have aa2:=h
 clear h
 refine C1 (vR x.bK _ (by omega)) ?_
 refine S0 (fun hb h=>?_) fun hb h=>?_
 ·exact aB (aF (fun e=>h (by rw[e]))).symm
 have Sr:=h
 clear h
 refine C1 (Tj x.aL _ (by omega)) ?_
 refine S0 (fun hb h=>?_) fun hb h=>?_
 ·exact aB (aF (fun e=>h (by rw[e]))).symm
 have adY:=h
 clear h
 exact aB (bA (aQ.ext' GX yL ajV Tk adX aa2 Sr adY)).symm
theorem NM(xs:List aQ):∀ys:List aQ,xs.length+bD (xs.map aQ.enc)≤1048576→aI Tryz.prog 42 [.c (.d (.sl (xs.map aQ.enc))),.c (.d (.sl (ys.map aQ.enc)))] (.c (.d (.b (dec (xs=ys))))):=by
 intro ys hsz S
 refine aG (rs:=[.tmp 4]) Tryz.checked.mixed Tryz.func42 Tryz.ntmps42 rfl rfl rfl rfl rfl ?_
 refine W1 ?_
 refine S0 (fun hb h=>?_) fun hb h=>?_
 ·exact aB (aF (fun e=>h (by rw[e]))).symm
 have hl:xs.length=ys.length:=by omega
 refine aT (ι:=Nat) Tryz.checked.mixed rfl [0,1,5] (fun y=>[.c (.d (.sl (xs.map aQ.enc))),.c (.d (.sl (ys.map aQ.enc))),.c (.d (.i .i64 y))]) (fun y=>[]::S)
  (fun i=>i≤xs.length∧∀j,j<i→xs[j]? =ys[j]?) (fun y=>xs.length-y) 0 rfl rfl ⟨Nat.zero_le _,fun j h=>by omega⟩ ?_
 rintro i ⟨p1,p2⟩
 refine W1 ?_
 refine S0 (fun hb h=>?_) fun hb h=>?_
 ·have hi:i<xs.length:=by omega
  have hi':i<ys.length:=by omega
  have hx:xs[i].sz≤bD (xs.map aQ.enc):=dA (List.mem_map_of_mem (List.getElem_mem hi))
  refine W3 ?_
  refine C1 (Qa xs[i] ys[i] (by omega)) ?_
  refine S0 (fun hb h=>?_) fun hb h=>?_
  ·exact aB (aF (fun e=>h (by simp only[e]))).symm
  refine bP (i+1) (by omega) rfl rfl ⟨by omega,fun j hj=> ?_⟩
  by_cases e:j=i
  ·subst e
   rw[List.getElem?_eq_getElem hi,List.getElem?_eq_getElem hi',h]
  ·exact p2 j (by omega)
 ·have hi:i=xs.length:=by omega
  refine aB (bA (List.ext_getElem? fun j=> ?_)).symm
  by_cases hj:j<i
  ·exact p2 j hj
  ·rw[List.getElem?_eq_none (by omega),List.getElem?_eq_none (by omega)]
end Go.Proofs.YtocpgjlbagncjaaGreatDoor
namespace Go.Proofs.YtocpgjlbagncjaaGreatDoor
open Go Go.Ab
theorem YO(x:bg):∀y:bg,x.sz≤1048576→aI Tryz.prog 268 [x.v,y.v] (.c (.d (.b (dec (x=y))))):=by
 intro y hsz S
 simp only[bg.sz,bg.aD,cu,bN,D.sz,List.length_map,au.dZ] at hsz
 refine aG (rs:=[.tmp 4]) Tryz.checked.mixed Tryz.func268 Tryz.ntmps268 rfl rfl rfl rfl rfl ?_
 refine W1 ?_
 refine S0 (fun hb h=>?_) fun hb h=>?_
 ·exact aB (aF (fun e=>h (by rw[e]))).symm
 have qJ:=h
 clear h
 refine C1 (vR x.fType _ (by omega)) ?_
 refine S0 (fun hb h=>?_) fun hb h=>?_
 ·exact aB (aF (fun e=>h (by rw[e]))).symm
 have eType:=h
 clear h
 exact aB (bA (bg.ext' qJ eType)).symm
theorem Vj(xs:List bg):∀ys:List bg,xs.length+bD (xs.map bg.enc)≤1048576→aI Tryz.prog 193 [.c (.d (.sl (xs.map bg.enc))),.c (.d (.sl (ys.map bg.enc)))] (.c (.d (.b (dec (xs=ys))))):=by
 intro ys hsz S
 refine aG (rs:=[.tmp 4]) Tryz.checked.mixed Tryz.func193 Tryz.ntmps193 rfl rfl rfl rfl rfl ?_
 refine W1 ?_
 refine S0 (fun hb h=>?_) fun hb h=>?_
 ·exact aB (aF (fun e=>h (by rw[e]))).symm
 have hl:xs.length=ys.length:=by omega
 refine aT (ι:=Nat) Tryz.checked.mixed rfl [0,1,5] (fun y=>[.c (.d (.sl (xs.map bg.enc))),.c (.d (.sl (ys.map bg.enc))),.c (.d (.i .i64 y))]) (fun y=>[]::S)
  (fun i=>i≤xs.length∧∀j,j<i→xs[j]? =ys[j]?) (fun y=>xs.length-y) 0 rfl rfl ⟨Nat.zero_le _,fun j h=>by omega⟩ ?_
 rintro i ⟨p1,p2⟩
 refine W1 ?_
 refine S0 (fun hb h=>?_) fun hb h=>?_
 ·have hi:i<xs.length:=by omega
  have hi':i<ys.length:=by omega
  have hx:xs[i].sz≤bD (xs.map bg.enc):=dA (List.mem_map_of_mem (List.getElem_mem hi))
  refine W3 ?_
  refine C1 (YO xs[i] ys[i] (by omega)) ?_
  refine S0 (fun hb h=>?_) fun hb h=>?_
  ·exact aB (aF (fun e=>h (by simp only[e]))).symm
  refine bP (i+1) (by omega) rfl rfl ⟨by omega,fun j hj=> ?_⟩
  by_cases e:j=i
  ·subst e
   rw[List.getElem?_eq_getElem hi,List.getElem?_eq_getElem hi',h]
  ·exact p2 j (by omega)
 ·have hi:i=xs.length:=by omega
  refine aB (bA (List.ext_getElem? fun j=> ?_)).symm
  by_cases hj:j<i
  ·exact p2 j hj
  ·rw[List.getElem?_eq_none (by omega),List.getElem?_eq_none (by omega)]
end Go.Proofs.YtocpgjlbagncjaaGreatDoor
namespace Go.Proofs.YtocpgjlbagncjaaGreatDoor
open Go Go.Ab
theorem Qb(x:aY):∀y:aY,x.sz≤1048576→aI Tryz.prog 105 [x.v,y.v] (.c (.d (.b (dec (x=y))))):=by
 intro y hsz S
 simp only[aY.sz,aY.aD,cu,bN,D.sz,List.length_map,ay.dZ,au.dZ] at hsz
 refine aG (rs:=[.tmp 4]) Tryz.checked.mixed Tryz.func105 Tryz.ntmps105 rfl rfl rfl rfl rfl ?_
 refine W1 ?_
 refine S0 (fun hb h=>?_) fun hb h=>?_
 ·exact aB (aF (fun e=>h (by rw[e]))).symm
 have qJ:=h
 clear h
 refine C1 (pQ x.aA _ (by omega)) ?_
 refine S0 (fun hb h=>?_) fun hb h=>?_
 ·exact aB (aF (fun e=>h (by rw[e]))).symm
 have yL:=h
 clear h
 refine C1 (Jt x.bn _ (by omega)) ?_
 refine S0 (fun hb h=>?_) fun hb h=>?_
 ·exact aB (aF (fun e=>h (by rw[e]))).symm
 have Tk:=h
 clear h
 refine C1 (Vj x.aJ _ (by omega)) ?_
 refine S0 (fun hb h=>?_) fun hb h=>?_
 ·exact aB (aF (fun e=>h (by rw[e]))).symm
 have Nw:=h
 clear h
 refine C1 (vR x.aU _ (by omega)) ?_
 refine S0 (fun hb h=>?_) fun hb h=>?_
 ·exact aB (aF (fun e=>h (by rw[e]))).symm
 have Ny:=h
 clear h
 refine C1 (GY x.fBody _ (by omega)) ?_
 refine S0 (fun hb h=>?_) fun hb h=>?_
 ·exact aB (aF (fun e=>h (by rw[e]))).symm
 have Fw:=h
 clear h
 exact aB (bA (aY.ext' qJ yL Tk Nw Ny Fw)).symm
theorem NN(xs:List aY):∀ys:List aY,xs.length+bD (xs.map aY.enc)≤1048576→aI Tryz.prog 43 [.c (.d (.sl (xs.map aY.enc))),.c (.d (.sl (ys.map aY.enc)))] (.c (.d (.b (dec (xs=ys))))):=by
 intro ys hsz S
 refine aG (rs:=[.tmp 4]) Tryz.checked.mixed Tryz.func43 Tryz.ntmps43 rfl rfl rfl rfl rfl ?_
 refine W1 ?_
 refine S0 (fun hb h=>?_) fun hb h=>?_
 ·exact aB (aF (fun e=>h (by rw[e]))).symm
 have hl:xs.length=ys.length:=by omega
 refine aT (ι:=Nat) Tryz.checked.mixed rfl [0,1,5] (fun y=>[.c (.d (.sl (xs.map aY.enc))),.c (.d (.sl (ys.map aY.enc))),.c (.d (.i .i64 y))]) (fun y=>[]::S)
  (fun i=>i≤xs.length∧∀j,j<i→xs[j]? =ys[j]?) (fun y=>xs.length-y) 0 rfl rfl ⟨Nat.zero_le _,fun j h=>by omega⟩ ?_
 rintro i ⟨p1,p2⟩
 refine W1 ?_
 refine S0 (fun hb h=>?_) fun hb h=>?_
 ·have hi:i<xs.length:=by omega
  have hi':i<ys.length:=by omega
  have hx:xs[i].sz≤bD (xs.map aY.enc):=dA (List.mem_map_of_mem (List.getElem_mem hi))
  refine W3 ?_
  refine C1 (Qb xs[i] ys[i] (by omega)) ?_
  refine S0 (fun hb h=>?_) fun hb h=>?_
  ·exact aB (aF (fun e=>h (by simp only[e]))).symm
  refine bP (i+1) (by omega) rfl rfl ⟨by omega,fun j hj=> ?_⟩
  by_cases e:j=i
  ·subst e
   rw[List.getElem?_eq_getElem hi,List.getElem?_eq_getElem hi',h]
  ·exact p2 j (by omega)
 ·have hi:i=xs.length:=by omega
  refine aB (bA (List.ext_getElem? fun j=> ?_)).symm
  by_cases hj:j<i
  ·exact p2 j hj
  ·rw[List.getElem?_eq_none (by omega),List.getElem?_eq_none (by omega)]
end Go.Proofs.YtocpgjlbagncjaaGreatDoor
namespace Go.Ab
def tq(f:aY):List (List UInt8):=f.aJ.map bg.fName
def ME(f:aY):List au:=f.aJ.map bg.fType
noncomputable def jX(f:aY):Bool:=
 validName f.fName&&(dec (f.aA.length≤3)&&(iL f.aA&&(qz f.aA f.bn&&(dec (f.aJ.length≤5)&&(lV f.aA (ME f)&&(gW f.aA f.aU&&mX (tq f) f.fBody))))))
theorem aY.sum(x:aY):x.fName.length+(x.aA.length+bD (x.aA.map encS))+(x.bn.length+bD (x.bn.map aO.enc))+(x.aJ.length+bD (x.aJ.map bg.enc))+x.aU.sz+x.fBody.sz≤x.sz:=by
 simp only[aY.sz,aY.aD,cu,bN,D.sz,List.length_map,au.dZ,ay.dZ]
 omega
theorem bg.sum(x:bg):x.fName.length+x.fType.sz≤x.sz:=by
 simp only[bg.sz,bg.aD,cu,bN,D.sz,List.length_map,au.dZ]
 omega
theorem IX{xs:List bg}{t:bg}(h:t∈xs):t.sz≤bD (xs.map bg.enc):=dA (List.mem_map_of_mem h)
end Go.Ab
namespace Go.Proofs.YtocpgjlbagncjaaGreatDoor
open Go Go.Ab
theorem Qc(ps:List bg)(hl:ps.length≤1073741823):aI Tryz.prog 188 [.c (.d (.sl (ps.map bg.enc)))] (.c (.d (.sl ((ps.map bg.fName).map encS)))):=fun S=>by
 refine aG (rs:=[.tmp 2]) Tryz.checked.mixed Tryz.func188 Tryz.ntmps188 rfl rfl rfl rfl rfl ?_
 refine W1 ?_
 refine W3 ?_
 refine mR 3 1 [] rfl (by simp) ?_
 refine aT (ι:=Nat×List (List UInt8)) Tryz.checked.mixed rfl [3,7,8,9] (fun y=>[.c (.bS (0,0) (y.2.map encS)),.c (.d (.sl (ps.map bg.enc))),.c (.d (.i .i64 ps.length)),.c (.d (.i .i64 y.1))]) (fun y=>[.tok 1 (y.2.map encS)]::S)
  (fun y=>y.1≤ps.length∧y.2=(ps.map bg.fName).take y.1) (fun y=>ps.length-y.1) (0,[]) rfl rfl ⟨Nat.zero_le _,rfl⟩ ?_
 rintro⟨i,names⟩ ⟨p1,p2⟩
 simp only at p1 p2
 have pl:names.length≤ps.length:=by rw[p2];simp;omega
 refine W1 ?_
 refine S0 (fun hb h=>?_) fun hb h=>?_
 ·have hi:i<ps.length:=by omega
  refine W3 ?_
  rw[show List.map encS names++[[D.s ps[i].fName]]=List.map encS (names++[ps[i].fName]) by simp[encS]]
  exact dh 1 (by decide) (i+1,names++[ps[i].fName]) (by simp only;omega) rfl rfl rfl rfl ⟨by simp only;omega,by simp only;rw[p2,iR (by simpa using hi)];simp⟩
 ·rw[List.take_of_length_le (by simp;omega)] at p2
  rw[p2]
theorem Qd(ps:List bg)(hl:ps.length≤1073741823):aI Tryz.prog 187 [.c (.d (.sl (ps.map bg.enc)))] (.c (.d (.sl ((ps.map bg.fType).map au.enc)))):=fun S=>by
 refine aG (rs:=[.tmp 2]) Tryz.checked.mixed Tryz.func187 Tryz.ntmps187 rfl rfl rfl rfl rfl ?_
 refine W1 ?_
 refine W3 ?_
 refine mR 3 3 [] rfl (by simp) ?_
 refine aT (ι:=Nat×List au) Tryz.checked.mixed rfl [3,7,8,9] (fun y=>[.c (.bS (0,0) (y.2.map au.enc)),.c (.d (.sl (ps.map bg.enc))),.c (.d (.i .i64 ps.length)),.c (.d (.i .i64 y.1))]) (fun y=>[.tok 3 (y.2.map au.enc)]::S)
  (fun y=>y.1≤ps.length∧y.2=(ps.map bg.fType).take y.1) (fun y=>ps.length-y.1) (0,[]) rfl rfl ⟨Nat.zero_le _,rfl⟩ ?_
 rintro⟨i,names⟩ ⟨p1,p2⟩
 simp only at p1 p2
 have pl:names.length≤ps.length:=by rw[p2];simp;omega
 refine W1 ?_
 refine S0 (fun hb h=>?_) fun hb h=>?_
 ·have hi:i<ps.length:=by omega
  refine W3 ?_
  rw[show List.map au.enc names++[[D.i .i64 ps[i].fType.aK,D.s ps[i].fType.fName,D.sl (ps[i].fType.fArgs.map au.enc)]]=List.map au.enc (names++[ps[i].fType]) by simp[au.aD]]
  exact dh 1 (by decide) (i+1,names++[ps[i].fType]) (by simp only;omega) rfl rfl rfl rfl ⟨by simp only;omega,by simp only;rw[p2,iR (by simpa using hi)];simp⟩
 ·rw[List.take_of_length_le (by simp;omega)] at p2
  rw[p2]
theorem EC(f:aY)(hsz:f.sz≤4194304):aI Tryz.prog 101 [f.v] (.c (.d (.b (jX f)))):=fun S=>by
 have hs:=aY.sum f
 have hV:∀s∈f.aA,s.length≤4194304:=fun s h=>by have:=rU h;omega
 have hW:∀b∈f.bn,b.sz≤4194304:=fun b h=>by have:=qo h;omega
 have hP:∀p∈f.aJ,p.sz≤4194304:=fun m h=>by have:=IX h;omega
 have hpt:∀t∈f.aJ.map bg.fType,t.sz≤4194304:=fun t h=>by
  obtain⟨p,hp,e⟩:=List.mem_map.1 h
  have:=hP p hp
  have:=bg.sum p
  rw[←e];omega
 have hpn:∀s∈f.aJ.map bg.fName,s.length≤4194304:=fun t h=>by
  obtain⟨p,hp,e⟩:=List.mem_map.1 h
  have:=hP p hp
  have:=bg.sum p
  rw[←e];omega
 have hpl:(f.aJ.map bg.fName).length=f.aJ.length:=by simp
 have hpl':(f.aJ.map bg.fType).length=f.aJ.length:=by simp
 refine aG (rs:=[.tmp 2]) Tryz.checked.mixed Tryz.func101 Tryz.ntmps101 rfl rfl rfl rfl rfl ?_
 refine W1 ?_
 repeat' (first
  |refine S0 (fun hb h=>?_) fun hb h=>?_
  |((with_reducible show fE _ _ 94 _ _ _ _);refine aZ (iD f.fName (by omega)) ?_;refine W1 ?_)
  |((with_reducible show fE _ _ 95 _ _ _ _);refine aZ (oW f.aA (by omega) hV) ?_;refine W1 ?_)
  |((with_reducible show fE _ _ 184 _ _ _ _);refine aZ (H7 f.bn f.aA (by omega) hW (by omega)) ?_;refine W1 ?_)
  |((with_reducible show fE _ _ 187 _ _ _ _);refine aZ (Qd f.aJ (by omega)) ?_;refine W1 ?_)
  |((with_reducible show fE _ _ 179 _ _ _ _);refine aZ (yN (f.aJ.map bg.fType) f.aA (by omega) hpt (by omega)) ?_;refine W1 ?_)
  |((with_reducible show fE _ _ 180 _ _ _ _);refine aZ (uF f.aU f.aA (by omega) (by omega)) ?_;refine W1 ?_)
  |((with_reducible show fE _ _ 188 _ _ _ _);refine aZ (Qc f.aJ (by omega)) ?_;refine W1 ?_)
  |((with_reducible show fE _ _ 186 _ _ _ _);refine aZ (H6 (f.aJ.map bg.fName) f.fBody (by omega) hpn (by omega)) ?_;refine W1 ?_)
  |(refine aB ?_;unfold jX ME tq;grind [gH,jM,bA,aF]))
theorem zB(f:aY)(hsz:f.sz≤4194304):aI Tryz.prog 157 [f.v] (.c (.d (.b (jX f)))):=fun S=>by
 have hs:=aY.sum f
 have hV:∀s∈f.aA,s.length≤4194304:=fun s h=>by have:=rU h;omega
 have hW:∀b∈f.bn,b.sz≤4194304:=fun b h=>by have:=qo h;omega
 have hP:∀p∈f.aJ,p.sz≤4194304:=fun m h=>by have:=IX h;omega
 have hpn:∀s∈tq f,s.length≤4194304:=fun t h=>by
  obtain⟨p,hp,e⟩:=List.mem_map.1 h
  have:=hP p hp
  have:=bg.sum p
  rw[←e];omega
 have hnl:(tq f).length=f.aJ.length:=by simp[tq]
 have bad:∀i,∀hi:i<f.aJ.length,gW f.aA f.aJ[i].fType=false→V.c (.d (.b false))=V.c (.d (.b (jX f))):=fun i hi h=>aB (by
  have:lV f.aA (ME f)=false:=Bool.eq_false_iff.2 fun hx=>by
   have:=List.all_eq_true.1 hx f.aJ[i].fType (List.mem_map_of_mem (List.getElem_mem hi))
   rw[h] at this;cases this
  unfold jX
  rw[this];simp)
 refine aG (rs:=[.tmp 2]) Tryz.checked.mixed Tryz.func157 Tryz.ntmps157 rfl rfl rfl rfl rfl ?_
 refine W1 ?_
 refine W3 ?_
 refine mR 3 1 [] rfl (by simp) ?_
 refine aT (ι:=Nat×List (List UInt8)) Tryz.checked.mixed rfl [1,3,4] (fun y=>[.c (.ptr (0,0) 0),.c (.bS (0,1) (y.2.map encS)),.c (.d (.i .i64 y.1))]) (fun y=>[.box (f.enc.map .d),.tok 1 (y.2.map encS)]::S)
  (fun y=>y.1≤f.aJ.length∧y.2=(tq f).take y.1∧∀j,∀hj:j<f.aJ.length,j<y.1→gW f.aA f.aJ[j].fType=true) (fun y=>f.aJ.length-y.1) (0,[]) rfl ?_ ⟨Nat.zero_le _,rfl,fun j _ h=>by simp only at h;omega⟩ ?_
 ·exact Z1
 rintro⟨i,names⟩ ⟨p1,p2,p3⟩
 simp only at p1 p2 p3
 have pl:names.length≤f.aJ.length:=by rw[p2];simp[tq];omega
 refine W1 ?_
 refine S0 (fun hb h=>?_) fun hb h=>?_
 ·have hi:i<f.aJ.length:=by omega
  have hp:=hP _ (List.getElem_mem hi)
  have hps:=bg.sum f.aJ[i]
  refine W3 ?_
  refine C2 (uj f.aJ[i].fType f.aA (by omega) (by omega)) ?_
  refine S0 (fun hb h=>?_) fun hb h=>?_
  ·exact bad i hi h
  have k3:=h
  refine W3 ?_
  rw[show List.map encS names++[[D.s f.aJ[i].fName]]=List.map encS (names++[f.aJ[i].fName]) by simp[encS]]
  exact bP (i+1,names++[f.aJ[i].fName]) (by simp only;omega) rfl rfl ⟨by simp only;omega,by simp only;rw[p2,iR (by simpa [tq] using hi)];simp[tq],fun j hj hji=>by
   simp only at hji
   by_cases e:j=i
   ·subst e;exact k3
   ·exact p3 j hj (by omega)⟩
 have hi:i=f.aJ.length:=by omega
 have hn:names=tq f:=by rw[p2,List.take_of_length_le (by simp[tq];omega)]
 have hall:lV f.aA (ME f)=true:=List.all_eq_true.2 fun c hc=>by
  obtain⟨p,hp,e⟩:=List.mem_map.1 hc
  obtain⟨j,hj,e'⟩:=List.getElem_of_mem hp
  rw[←e,←e'];exact p3 j hj (by omega)
 clear p2 p3 bad
 subst hn
 repeat' (first
  |refine S0 (fun hb h=>?_) fun hb h=>?_
  |((with_reducible show fE _ _ 84 _ _ _ _);refine aZ (iE f.fName (by omega)) ?_;refine W1 ?_)
  |((with_reducible show fE _ _ 85 _ _ _ _);refine aZ (mD f.aA 3 (by omega) hV) ?_;refine W1 ?_)
  |((with_reducible show fE _ _ 237 _ _ _ _);refine aZ (JI f.bn f.aA (by omega) hW (by omega)) ?_;refine W1 ?_)
  |((with_reducible show fE _ _ 85 _ _ _ _);refine aZ (mD (tq f) 5 (by omega) hpn) ?_;refine W1 ?_)
  |((with_reducible show fE _ _ 235 _ _ _ _);refine aZ (uj f.aU f.aA (by omega) (by omega)) ?_;refine W1 ?_)
  |((with_reducible show fE _ _ 240 _ _ _ _);refine aZ (FN (tq f) f.fBody (by omega) (by omega)) ?_;refine W1 ?_)
  |(refine aB ?_;unfold jX mX;grind [gH,jM,bA,aF]))
end Go.Proofs.YtocpgjlbagncjaaGreatDoor
namespace Go.Ab
def Cz(n:Nat)(s:St):St:=match s.st with
 |(.seed _::own)::Ω=>⟨s.tm,(.seed n::own)::Ω⟩
 |_=>s
theorem ED{N:Nat}(n:Nat)(s:St):iN N s (Cz n s):=by
 obtain⟨tm,st⟩:=s
 unfold Cz
 split
 ·rename_i h;simp only at h;subst h;exact Ca n
 ·exact iN.refl _ _
theorem Vk{n m:Nat}{tm:List (Nat×V)}{own:List Obj}{Ω:Store}:Cz n ⟨tm,(.seed m::own)::Ω⟩=⟨tm,(.seed n::own)::Ω⟩:=rfl
def aeW(j p n:Nat)(s:St):St:=Cz n (Qy j p s)
theorem Vl{N:Nat}(j p n:Nat)(s:St):iN N s (aeW j p n s):=(Jq j p s).trans (ED n _)
attribute [go_sem] aeW Vk
def wK:List UInt8:=[102,110]
def qp(b:aO):aj:=bY [bT b.bL,dw b.fType]
def qL(b:bg):aj:=bY [bT b.fName,dw b.fType]
def Gd(f:aY):aj:=bY [bT wK,bT f.fName,bY (aV f.aA),bY (f.bn.map qp),bY (f.aJ.map qL),dw f.aU,fB f.fBody]
noncomputable def Tm(f:aY):aj:=vO (jX f) (Gd f)
theorem agm{f:aY}(h:f.sz≤1048576):(Tm f).sz≤1048576:=Nat.le_trans (IJ _ _) (by decide)
theorem ahU(b:aO):(qp b).sz≤14+16*b.sz:=by
 have:=Aj b.fType
 have:=aO.sum b
 rw[qp,ku];simp[dQ,kr];omega
theorem adZ(b:bg):(qL b).sz≤14+16*b.sz:=by
 have:=Aj b.fType
 have:=bg.sum b
 rw[qL,ku];simp[dQ,kr];omega
theorem NP:∀l:List aO,dQ (l.map qp)≤14*l.length+16*bD (l.map aO.enc)
 |[]=>by simp[dQ]
 |c::l=>by
  have h1:=ahU c
  have h2:=NP l
  rw[List.map_cons,dQ,List.map_cons,bD,List.length_cons];simp only[aO.sz] at h1;omega
theorem O7:∀l:List bg,dQ (l.map qL)≤14*l.length+16*bD (l.map bg.enc)
 |[]=>by simp[dQ]
 |c::l=>by
  have h1:=adZ c
  have h2:=O7 l
  rw[List.map_cons,dQ,List.map_cons,bD,List.length_cons];simp only[bg.sz] at h1;omega
theorem aa3{f:aY}(hok:iT f.fBody=true):(Gd f).sz≤60+32*f.sz:=by
 have h1:=NP f.bn
 have h2:=O7 f.aJ
 have h3:=Aj f.aU
 have h4:=Hu f.fBody hok
 have h5:=aY.sum f
 rw[dN] at h5
 rw[Gd,ku]
 simp[dQ,kr,ku,jH,rR,wK];omega
theorem Bf{vars:List (List UInt8)}{bs:List aO}(h:qz vars bs=true):∀b∈bs,formed b.fType=true:=fun b hb=>by
 unfold qz at h
 rw[Bool.and_eq_true] at h
 have h2:=List.all_eq_true.1 h.2 b hb
 unfold nX at h2
 simp only[Bool.and_eq_true] at h2
 exact vM h2.1.2
theorem vv{vars:List (List UInt8)}{t:au}(h:gW vars t=true):formed t=true:=by
 unfold gW at h
 rw[Bool.and_eq_true] at h
 exact vM h.1
theorem Dj{vars:List (List UInt8)}{e:ay}(h:mX vars e=true):iT e=true:=by
 unfold mX EB at h
 simp only[Bool.and_eq_true] at h
 exact Te h.2.1
theorem xw{f:aY}(h:jX f=true):(∀b∈f.bn,formed b.fType=true)∧(∀q∈f.aJ,formed q.fType=true)∧formed f.aU=true∧iT f.fBody=true:=by
 unfold jX at h
 simp only[Bool.and_eq_true] at h
 obtain⟨_,_,_,h1,_,h2,h3,h4⟩:=h
 exact⟨Bf h1,fun q hq=>wV.1 (xJ h2) _ (List.mem_map_of_mem hq),vv h3,Dj h4⟩
end Go.Ab
namespace Go.Proofs.YtocpgjlbagncjaaGreatDoor
open Go Go.Ab
theorem uH(xs:List aO)(n:Nat)(hfo:∀b∈xs,formed b.fType=true)(hlen:xs.length≤4194304)(hsz:∀b∈xs,b.sz≤4194304):aI Tryz.prog 250 [.c (.d (.sl (xs.map aO.enc)))] (.agg [.d (.s []),.d (.ol n (lx (xs.map qp) (n+1)))]):=fun S=>by
 obtain⟨L,hL⟩:∃L:Nat→Nat,L=fun i=>n+1+jq ((xs.map qp).take i):=⟨_,rfl⟩
 obtain⟨T,hT⟩:∃T:Nat→List (List D),T=fun i=>lx ((xs.map qp).take i) (n+1):=⟨_,rfl⟩
 have hT0:T 0=[]:=by rw[hT];rfl
 have ig:∀i,(T i).length≤i:=fun i=>by
  rw[hT];simp only[iw]
  exact List.length_take_le _ _
 have hTs:∀i (hi:i<xs.length),T i++[[.s [],.ol (L i) [[.s xs[i].bL,.ol (L i+1) []],[.s (dw xs[i].fType).bf,.ol (L i+1+1) (lx (dw xs[i].fType).ah (L i+1+1+1))]]]]=T (i+1):=fun i hi=>by
  have:=FD (l:=xs.map qp) (i:=i) (by rw[List.length_map];exact hi) (n+1)
  rw[List.getElem_map,qp,eu,dJ,jO,jO,mV,vV,jW,jU] at this
  rw[hT,hL];exact this
 have hTe:T xs.length=lx (xs.map qp) (n+1):=by
  rw[hT];simp only
  rw[List.take_of_length_le (by simp)]
 clear hT hL
 refine ug (n) 1 (rs:=[.cell 2 37]) Tryz.checked.mixed Tryz.func250 Tryz.ntmps250 rfl rfl rfl rfl rfl ?_
 refine W1 ?_
 refine W3 ?_
 refine l6 n 3 2 [] (.inl rfl) (by simp) ?_
 refine qO (L 0) ?_
 refine aT (ι:=Nat) Tryz.checked.mixed rfl [2,3,7,8,9] (fun i=>[.c (.ptr (0,2) 0),.c (.bS (0,3) (T i)),.c (.d (.sl (xs.map aO.enc))),.c (.d (.i .i64 xs.length)),.c (.d (.i .i64 i))])
  (fun i=>[.seed (L i),.seed 1,.box [.d (.s []),.bO []],.fF n 2 (T i)]::S)
  (fun i=>i≤xs.length) (fun i=>xs.length-i) 0 (by rw[hT0];rfl) (by rw[hT0];rfl) (Nat.zero_le _) ?_
 intro i hi
 have hl:=ig i
 refine W1 ?_
 refine S0 (fun hb h=>?_) fun hb h=>?_
 ·have hi':i<xs.length:=by omega
  have hm:=List.getElem_mem hi'
  have hcz:=hsz _ hm
  have hce:=aO.sum xs[i]
  have hs:=hTs i hi'
  refine W3 ?_
  refine C1 (dI _ (L i+1)) ?_
  refine C1 (lC xs[i].fType (L i+1+1) (hfo _ hm) (by omega)) ?_
  refine W3 ?_
  refine C1 (nO _ _) ?_
  refine W3 ?_
  rw[hs]
  refine su (L (i+1)) 3 (by decide) (i+1) (by omega) rfl rfl ?_ rfl (by omega)
  simp[kF,jo,V.refs,C.refs,nC]
 ·have hi':i=xs.length:=by omega
  refine bJ rfl (jZ 0 3 _ _) ?_
  refine W1 ?_
  rw[hi',hTe]
theorem Qe(f:aY)(n:Nat)(hv:jX f=true)(hsz:f.sz≤1048576):aI Tryz.prog 169 [f.v] (.agg [.d (.s []),.d (.ol n (lx (Gd f).ah (n+1)))]):=fun S=>by
 have hdz:=aY.sum f
 rw[dN] at hdz
 obtain⟨hf1,hf2,hf3,Dk⟩:=xw hv
 obtain⟨p,hp⟩:∃p:Nat,p=n+1+1+1+dS (bY (aV f.aA))+dS (bY (f.bn.map qp)):=⟨_,rfl⟩
 obtain⟨L,hL⟩:∃L:Nat→Nat,L=fun i=>p+1+jq ((f.aJ.map qL).take i):=⟨_,rfl⟩
 obtain⟨T,hT⟩:∃T:Nat→List (List D),T=fun i=>lx ((f.aJ.map qL).take i) (p+1):=⟨_,rfl⟩
 have hT0:T 0=[]:=by rw[hT];rfl
 have ig:∀i,(T i).length≤i:=fun i=>by
  rw[hT];simp only[iw]
  exact List.length_take_le _ _
 have hTs:∀i (hi:i<f.aJ.length),T i++[[.s [],.ol (L i) [[.s f.aJ[i].fName,.ol (L i+1) []],[.s (dw f.aJ[i].fType).bf,.ol (L i+1+1) (lx (dw f.aJ[i].fType).ah (L i+1+1+1))]]]]=T (i+1):=fun i hi=>by
  have:=FD (l:=f.aJ.map qL) (i:=i) (by rw[List.length_map];exact hi) (p+1)
  rw[List.getElem_map,qL,eu,dJ,jO,jO,mV,vV,jW,jU] at this
  rw[hT,hL];exact this
 have hTe:T f.aJ.length=lx (f.aJ.map qL) (p+1):=by
  rw[hT];simp only
  rw[List.take_of_length_le (by simp)]
 clear hT hL
 refine ug (p) 1 (rs:=[.cell 2 37]) Tryz.checked.mixed Tryz.func169 Tryz.ntmps169 rfl rfl rfl rfl rfl ?_
 refine W1 ?_
 refine W3 ?_
 refine l6 p 3 2 [] (.inl rfl) (by simp) ?_
 refine qO (L 0) ?_
 refine GH (Vl 4 p n) ?_
 refine aT (ι:=Nat) Tryz.checked.mixed rfl [1,2,3,8,9,10] (fun i=>[.c (.ptr (0,2) 0),.c (.ptr (0,3) 0),.c (.bS (0,4) (T i)),.c (.d (.sl (f.aJ.map bg.enc))),.c (.d (.i .i64 f.aJ.length)),.c (.d (.i .i64 i))])
  (fun i=>[.seed (L i),.seed 1,.box [.d (.s f.fName),.d (.sl (f.aA.map encS)),.d (.sl (f.bn.map aO.enc)),.d (.sl (f.aJ.map bg.enc)),.d (.i .i64 f.aU.aK),.d (.s f.aU.fName),.d (.sl (f.aU.fArgs.map au.enc)),.d (.i .i64 f.fBody.aK),.d (.s f.fBody.bL),.d (.s f.fBody.fName),.d (.i .i64 f.fBody.fN),.d (.i .i64 f.fBody.fType.aK),.d (.s f.fBody.fType.fName),.d (.sl (f.fBody.fType.fArgs.map au.enc)),.d (.sl (f.fBody.fArgs.map ay.enc)),.d (.sl (f.fBody.aP.map aR.enc))],.box [.d (.s []),.bO []],.fF p 2 (T i)]::S)
  (fun i=>i≤f.aJ.length) (fun i=>f.aJ.length-i) 0 (by rw[hT0];rfl) (by rw[hT0];rfl) (Nat.zero_le _) ?_
 intro i hi
 have hl:=ig i
 refine W1 ?_
 refine S0 (fun hb h=>?_) fun hb h=>?_
 ·have hi':i<f.aJ.length:=by omega
  have hm:=List.getElem_mem hi'
  have hcz:=IX hm
  have hce:=bg.sum f.aJ[i]
  have hs:=hTs i hi'
  refine W3 ?_
  refine C1 (dI _ (L i+1)) ?_
  refine C1 (lC f.aJ[i].fType (L i+1+1) (hf2 _ hm) (by omega)) ?_
  refine W3 ?_
  refine C1 (nO _ _) ?_
  refine W3 ?_
  rw[hs]
  refine su (L (i+1)) 4 (by decide) (i+1) (by omega) rfl rfl ?_ rfl (by omega)
  simp[kF,jo,V.refs,C.refs,nC]
 ·have hi':i=f.aJ.length:=by omega
  subst hi'
  rw[hTe]
  refine C1 (dI _ (n+1)) ?_
  refine C1 (dI _ (n+1+1)) ?_
  refine C1 (eY f.aA (by omega) (n+1+1+1)) ?_
  refine C1 (uH f.bn (n+1+1+1+dS (bY (aV f.aA))) hf1 (by omega) (fun b hb=>by have:=qo hb;omega)) ?_
  refine C1 (lu _) ?_
  refine C1 (lC f.aU (p+dS (bY (f.aJ.map qL))) hf3 (by omega)) ?_
  refine C1 (yP f.fBody (p+dS (bY (f.aJ.map qL))+dS (dw f.aU)) Dk (by omega)) ?_
  refine W3 ?_
  refine C1 (nO _ _) ?_
  rw[Gd,dJ]
  simp only[jO,mV,jW,kG,kH,eu,dJ,jU,←hp,wK]
theorem vY(xs:List aO)(hlen:xs.length≤4194304)(hsz:∀b∈xs,b.sz≤4194304):aI Tryz.prog 232 [.c (.d (.sl (xs.map aO.enc)))] (.agg [.d (.s []),.d (.sl ((xs.map qp).map aj.enc))]):=fun S=>by
 obtain⟨T,hT⟩:∃T:Nat→List (List D),T=fun i=>((xs.map qp).take i).map aj.enc:=⟨_,rfl⟩
 have hT0:T 0=[]:=by rw[hT];rfl
 have ig:∀i,(T i).length≤i:=fun i=>by
  rw[hT];simp only[List.length_map]
  exact List.length_take_le _ _
 have hTs:∀i (hi:i<xs.length),T i++[[.s [],.sl [[.s xs[i].bL,.sl []],[.s (dw xs[i].fType).bf,.sl ((dw xs[i].fType).ah.map aj.enc)]]]]=T (i+1):=fun i hi=>by
  have:=jI (base:=[]) (l:=xs.map qp) (i:=i) (by rw[List.length_map];exact hi)
  rw[List.getElem_map,qp,eu,dJ,List.map_cons,List.map_cons,List.map_nil,fM,aj.aD (dw xs[i].fType)] at this
  rw[hT];exact this
 have hTe:T xs.length=(xs.map qp).map aj.enc:=by
  rw[hT];simp only
  rw[List.take_of_length_le (by simp)]
 clear hT
 refine aG (rs:=[.cell 2 37]) Tryz.checked.mixed Tryz.func232 Tryz.ntmps232 rfl rfl rfl rfl rfl ?_
 refine W1 ?_
 refine rO 1 1 2 [] [.d (.s []),.bO []] rfl rfl (by simp) ?_
 refine aT (ι:=Nat) Tryz.checked.mixed rfl [0,2,3,4] (fun i=>[.c (.d (.sl (xs.map aO.enc))),.c (.ptr (0,0) 0),.c (.ptr (0,1) 0),.c (.d (.i .i64 i))])
  (fun i=>[.box [.d (.s []),.bO []],.box [.d (.s []),.bS (0,2) (T i)],.tok 2 (T i)]::S)
  (fun i=>i≤xs.length) (fun i=>xs.length-i) 0 rfl (by rw[hT0];rfl) (Nat.zero_le _) ?_
 intro i hi
 have hl:=ig i
 refine W1 ?_
 refine S0 (fun hb h=>?_) fun hb h=>?_
 ·have hi':i<xs.length:=by omega
  have hm:=List.getElem_mem hi'
  have hcz:=hsz _ hm
  have hce:=aO.sum xs[i]
  have hs:=hTs i hi'
  refine W3 ?_
  refine C1 (cK _) ?_
  refine W3 ?_
  refine C1 (lW xs[i].fType (by omega)) ?_
  refine W3 ?_
  refine C1 (nD _ (by simp) (by simp)) ?_
  refine W3 ?_
  rw[hs]
  exact bP (i+1) (by omega) rfl rfl (by omega)
 ·have hi':i=xs.length:=by omega
  subst hi'
  rw[hTe]
theorem aa4(f:aY)(hsz:f.sz≤1048576):aI Tryz.prog 150 [f.v] (Tm f).v:=by
 unfold Tm
 cases hv:jX f with
 |false=>
  rw[vO]
  refine aI.less (fun S=> ?_) (Et [] [])
  refine aG (rs:=[.cell 2 37]) Tryz.checked.mixed Tryz.func150 Tryz.ntmps150 rfl rfl rfl rfl rfl ?_
  refine W1 ?_
  refine aZ (zB f (by omega)) ?_
  simp -implicitDefEqProofs (disch:=omega) only[go_sem,hv]
 |true=>
  intro S
  have hdz:=aY.sum f
  rw[dN] at hdz
  obtain⟨hf1,hf2,hf3,Dk⟩:=xw hv
  have hz:=aa3 Dk
  obtain⟨T,hT⟩:∃T:Nat→List (List D),T=fun i=>((f.aJ.map qL).take i).map aj.enc:=⟨_,rfl⟩
  have hT0:T 0=[]:=by rw[hT];rfl
  have ig:∀i,(T i).length≤i:=fun i=>by
   rw[hT];simp only[List.length_map]
   exact List.length_take_le _ _
  have hTs:∀i (hi:i<f.aJ.length),T i++[[.s [],.sl [[.s f.aJ[i].fName,.sl []],[.s (dw f.aJ[i].fType).bf,.sl ((dw f.aJ[i].fType).ah.map aj.enc)]]]]=T (i+1):=fun i hi=>by
   have:=jI (base:=[]) (l:=f.aJ.map qL) (i:=i) (by rw[List.length_map];exact hi)
   rw[List.getElem_map,qL,eu,dJ,List.map_cons,List.map_cons,List.map_nil,fM,aj.aD (dw f.aJ[i].fType)] at this
   rw[hT];exact this
  have hTe:T f.aJ.length=(f.aJ.map qL).map aj.enc:=by
   rw[hT];simp only
   rw[List.take_of_length_le (by simp)]
  clear hT
  refine aG (rs:=[.cell 2 37]) Tryz.checked.mixed Tryz.func150 Tryz.ntmps150 rfl rfl rfl rfl rfl ?_
  refine W1 ?_
  refine aZ (zB f (by omega)) ?_
  simp -implicitDefEqProofs (disch:=omega) only[go_sem,hv]
  refine rO 2 1 2 [] [.d (.s []),.bO []] rfl rfl (by simp) ?_
  refine aT (ι:=Nat) Tryz.checked.mixed rfl [1,2,3,4] (fun i=>[.c (.ptr (0,0) 0),.c (.ptr (0,1) 0),.c (.ptr (0,2) 0),.c (.d (.i .i64 i))])
   (fun i=>[.box [.d (.s f.fName),.d (.sl (f.aA.map encS)),.d (.sl (f.bn.map aO.enc)),.d (.sl (f.aJ.map bg.enc)),.d (.i .i64 f.aU.aK),.d (.s f.aU.fName),.d (.sl (f.aU.fArgs.map au.enc)),.d (.i .i64 f.fBody.aK),.d (.s f.fBody.bL),.d (.s f.fBody.fName),.d (.i .i64 f.fBody.fN),.d (.i .i64 f.fBody.fType.aK),.d (.s f.fBody.fType.fName),.d (.sl (f.fBody.fType.fArgs.map au.enc)),.d (.sl (f.fBody.fArgs.map ay.enc)),.d (.sl (f.fBody.aP.map aR.enc))],.box [.d (.s []),.bO []],.box [.d (.s []),.bS (0,3) (T i)],.tok 2 (T i)]::S)
   (fun i=>i≤f.aJ.length) (fun i=>f.aJ.length-i) 0 rfl (by rw[hT0];rfl) (Nat.zero_le _) ?_
  intro i hi
  have hl:=ig i
  refine W1 ?_
  refine S0 (fun hb h=>?_) fun hb h=>?_
  ·have hi':i<f.aJ.length:=by omega
   have hm:=List.getElem_mem hi'
   have hcz:=IX hm
   have hce:=bg.sum f.aJ[i]
   have hs:=hTs i hi'
   refine W3 ?_
   refine C1 (cK _) ?_
   refine W3 ?_
   refine C1 (lW f.aJ[i].fType (by omega)) ?_
   refine W3 ?_
   refine C1 (nD _ (by simp) (by simp)) ?_
   refine W3 ?_
   rw[hs]
   exact bP (i+1) (by omega) rfl rfl (by omega)
  ·have hi':i=f.aJ.length:=by omega
   subst hi'
   rw[hTe]
   refine C1 (cK _) ?_
   refine C1 (cK _) ?_
   refine C1 (eO f.aA (by omega)) ?_
   refine C1 (vY f.bn (by omega) (fun b hb=>by have:=qo hb;omega)) ?_
   refine C1 (lW f.aU (by omega)) ?_
   refine C1 (tJ f.fBody Dk (by omega)) ?_
   refine W3 ?_
   refine C1 (nD _ (by simp) (by simp)) ?_
   refine W3 ?_
   have hI:=rW true (Gd f) (by omega)
   have hx:(Gd f).v=V.agg [.d (.s []),.d (.sl [[.s [102,110],.sl []],[.s f.fName,.sl []],[.s [],.sl ((aV f.aA).map aj.enc)],[.s [],.sl ((f.bn.map qp).map aj.enc)],[.s [],.sl ((f.aJ.map qL).map aj.enc)],[.s (dw f.aU).bf,.sl ((dw f.aU).ah.map aj.enc)],[.s (fB f.fBody).bf,.sl ((fB f.fBody).ah.map aj.enc)]])]:=by
    rw[Gd]
    show V.agg [.d (.s []),.d (.sl (List.map aj.enc _))]=_
    simp only[dJ,List.map_cons,List.map_nil,fM,j3,aj.aD (dw f.aU),aj.aD (fB f.fBody),wK]
   rw[hx] at hI
   refine aZ hI ?_
   exact Z1
end Go.Proofs.YtocpgjlbagncjaaGreatDoor
namespace Go.Ab
abbrev gX (l:List aj) (i:Nat):aj:=l.getD i dB
theorem Tn(l:List aj):dQ l=(gX l 0).sz+dQ (l.drop 1):=by
 cases l with
 |nil=>simp[dQ,gX,Ka]
 |cons x l=>rw[dQ,List.drop_succ_cons,List.drop_zero];rfl
theorem Wl(l:List aj)(k i:Nat):gX (l.drop k) i=gX l (k+i):=by
 simp[gX,List.getD_eq_getElem?_getD,List.getElem?_drop]
theorem Aw(l:List aj):dQ l=(gX l 0).sz+(gX l 1).sz+(gX l 2).sz+(gX l 3).sz+(gX l 4).sz+(gX l 5).sz+(gX l 6).sz+dQ (l.drop 7):=by
 have h:∀k,dQ (l.drop k)=(gX l k).sz+dQ (l.drop (k+1)):=fun k=>by
  rw[Tn (l.drop k),Wl,Nat.add_zero,List.drop_drop]
 have h0:=h 0
 rw[List.drop_zero] at h0
 have h1:=h 1;have h2:=h 2;have h3:=h 3;have h4:=h 4;have h5:=h 5;have h6:=h 6
 simp only[Nat.reduceAdd] at *
 omega
theorem CB(l:List aj):dQ l=(gX l 0).sz+(gX l 1).sz+(gX l 2).sz+(gX l 3).sz+dQ (l.drop 4):=by
 have h:=Aw l
 have h1:=Aw (l.drop 4)
 have e:∀k,dQ (l.drop k)=(gX l k).sz+dQ (l.drop (k+1)):=fun k=>by
  rw[Tn (l.drop k),Wl,Nat.add_zero,List.drop_drop]
 have h4:=e 4;have h5:=e 5;have h6:=e 6
 simp only[Nat.reduceAdd] at *
 omega
theorem Dl(l:List aj)(i:Nat):dM l i=(gX l i).bf:=rfl
theorem pY(x:aj):x.bf.length+(x.ah.length+dQ x.ah)=x.sz:=by rw[kI,mI]
theorem Tp{α:Type}{x:aj}{dT dF:α}{valid:α→Bool}{sx:α→aj}{head:Prop}(hx:x.ah≠[])(hd:∀a,valid a=true→sx a=x→dT=a∧dF=a)(hh:∀a,sx a=x→head):
 dec (iI x=true∧head∧valid dT=true∧sx dT=x)=(iI x&&dec (vO (valid dF) (sx dF)=x)):=by
 cases hv:iI x with
 |false=>exact aF fun h=>by cases h.1
 |true=>
  rw[Bool.true_and]
  refine iq ⟨fun⟨_,h2,h3,h4⟩=> ?_,fun h=> ?_⟩
  ·have e:=(hd _ h3 h4).2
   rw[e,h3,h4,vO,Ck,if_pos hv]
  ·obtain⟨h1,h2,_⟩:=SS h hx
   have e:=(hd _ h1 h2).1
   rw[e]
   exact⟨rfl,hh _ h2,h1,h2⟩
def nR(b:Bool)(y:aj):aO:=if b=true∧y.ah.length≠2 then⟨[],iV⟩ else⟨dM y.ah 0,dO b (gX y.ah 1)⟩
def nS(b:Bool)(y:aj):bg:=if b=true∧y.ah.length≠2 then⟨[],iV⟩ else⟨dM y.ah 0,dO b (gX y.ah 1)⟩
def nY(l:List aj)(i:Nat):List (List UInt8):=fq (gX l i).ah
def zC(b:Bool)(x:aj):aY:=
 ⟨dM x.ah 1,nY x.ah 2,(gX x.ah 3).ah.map (nR b),(gX x.ah 4).ah.map (nS b),dO b (gX x.ah 5),eZ b (gX x.ah 6)⟩
theorem Wm(b:Bool){c:aO}(h:formed c.fType=true):nR b (qp c)=c:=by
 unfold nR
 rw[if_neg (by simp[qp,dJ])]
 show aO.mk c.bL (dO b (dw c.fType))=c
 rw[wF b _ h]
theorem aa5(b:Bool){c:bg}(h:formed c.fType=true):nS b (qL c)=c:=by
 unfold nS
 rw[if_neg (by simp[qL,dJ])]
 show bg.mk c.fName (dO b (dw c.fType))=c
 rw[wF b _ h]
theorem CF{α β:Type}{f:α→β}{g:β→α}{l:List α}(h:∀a∈l,g (f a)=a):(l.map f).map g=l:=by
 rw[List.map_map,show l.map (g∘f)=l.map id from List.map_congr_left (fun c hc=>h c hc),List.map_id]
theorem Tq{f:aY}(h:jX f=true):∀v∈f.aA,v≠[]:=by
 unfold jX at h
 simp only[Bool.and_eq_true] at h
 exact zx h.2.2.1
theorem NQ(b:Bool){f:aY}(h:jX f=true):zC b (Gd f)=f:=by
 obtain⟨h1,h2,h3,h4⟩:=xw h
 show aY.mk f.fName (fq (aV f.aA)) ((f.bn.map qp).map (nR b)) ((f.aJ.map qL).map (nS b)) (dO b (dw f.aU)) (eZ b (fB f.fBody))=f
 rw[pX (Tq h),CF fun c hc=>Wm b (h1 c hc),CF fun c hc=>aa5 b (h2 c hc),wF b _ h3,Ez b _ h4]
noncomputable def okF(x:aj):Bool:=dec (iI x=true∧(7≤x.ah.length∧dM x.ah 0=wK)∧jX (zC true x)=true∧Gd (zC true x)=x)
theorem ad1{x:aj}(hx:x.ah≠[]):okF x=(iI x&&dec (Tm (zC false x)=x)):=
 Tp hx (fun a h1 h2=>by rw[←h2];exact⟨NQ true h1,NQ false h1⟩) fun a h=>by rw[←h];exact⟨Nat.le_refl _,rfl⟩
theorem ad2{x:aj}(h:okF x=true):zC false x=zC true x:=by
 have h1:=gH h
 conv=>lhs;rw[←h1.2.2.2]
 exact NQ false h1.2.2.1
def IY:aY:=⟨[],[],[],[],iV,lG⟩
noncomputable def uI(x:aj):aY:=if okF x=true then zC true x else IY
theorem agn(b:Bool)(y:aj):(nR b y).sz≤y.sz:=by
 have h:=yg b (gX y.ah 1)
 have h1:=CB y.ah
 have h2:=pY y
 have h3:=pY (gX y.ah 0)
 unfold nR
 split
 ·simp only[aO.sz,aO.aD,cu,bN,D.sz,au.dZ,Au];simp
 ·simp only[aO.sz,aO.aD,cu,bN,D.sz,au.dZ,Dl];omega
theorem aa6(b:Bool)(y:aj):(nS b y).sz≤y.sz:=by
 have h:=yg b (gX y.ah 1)
 have h1:=CB y.ah
 have h2:=pY y
 have h3:=pY (gX y.ah 0)
 unfold nS
 split
 ·simp only[bg.sz,bg.aD,cu,bN,D.sz,au.dZ,Au];simp
 ·simp only[bg.sz,bg.aD,cu,bN,D.sz,au.dZ,Dl];omega
theorem Kq(b:Bool):∀l:List aj,bD ((l.map (nR b)).map aO.enc)≤dQ l
 |[]=>by simp[bD]
 |y::l=>by
  have h1:=agn b y
  have h2:=Kq b l
  rw[List.map_cons,List.map_cons,bD,dQ];simp only[aO.sz] at h1;omega
theorem MF(b:Bool):∀l:List aj,bD ((l.map (nS b)).map bg.enc)≤dQ l
 |[]=>by simp[bD]
 |y::l=>by
  have h1:=aa6 b y
  have h2:=MF b l
  rw[List.map_cons,List.map_cons,bD,dQ];simp only[bg.sz] at h1;omega
theorem NR(b:Bool)(x:aj):(zC b x).sz≤x.sz:=by
 have h1:=Aw x.ah
 have h2:=pY x
 have h3:=pY (gX x.ah 1)
 have h4:=qP (gX x.ah 2).ah
 have h4':=pY (gX x.ah 2)
 have h5:=Kq b (gX x.ah 3).ah
 have h5':=pY (gX x.ah 3)
 have h6:=MF b (gX x.ah 4).ah
 have h6':=pY (gX x.ah 4)
 have h7:=yg b (gX x.ah 5)
 have h8:=BI b (gX x.ah 6)
 simp only[aY.sz,aY.aD,cu,bN,D.sz,au.dZ,ay.dZ,zC,List.length_map,nY,dN,Dl]
 omega
end Go.Ab
namespace Go.Ab
noncomputable def mF(m:bH):Bool:=dec (1≤m.aA.length)&&(dec (m.aA.length≤5)&&mX m.aA m.fBody)
noncomputable def lY(x:aQ):List (List UInt8):=x.aL.map bH.fName
noncomputable def uJ(x:aQ):Bool:=validName x.bL&&(dec (x.aA.length≤3)&&(iL x.aA&&(gW x.aA x.bM&&(!rG x.bM&&(dec (x.bM.aK=2∨x.bM.aK=1)&&(among x.aA (jy [] x.bM)&&(qz x.aA x.bn&&((if x.dW=true then gW x.aA x.bK else dec (xu x.bK))&&dec (x.aL.length≤6)))))))))
noncomputable def fH(x:aQ):Bool:=uJ x&&(x.aL.all mF&&iL (lY x))
theorem aQ.sum(x:aQ):x.bL.length+(x.aA.length+bD (x.aA.map encS))+x.bM.sz+(x.bn.length+bD (x.bn.map aO.enc))+x.bK.sz+(x.aL.length+bD (x.aL.map bH.enc))≤x.sz:=by
 simp only[aQ.sz,aQ.aD,cu,bN,D.sz,List.length_map,au.dZ]
 omega
theorem bH.sum(x:bH):x.fName.length+(x.aA.length+bD (x.aA.map encS))+x.fBody.sz≤x.sz:=by
 simp only[bH.sz,bH.aD,cu,bN,D.sz,List.length_map,ay.dZ]
 omega
theorem zD{xs:List bH}{t:bH}(h:t∈xs):t.sz≤bD (xs.map bH.enc):=dA (List.mem_map_of_mem h)
theorem O8(v:List UInt8):∀(us:List au) (out:List (List UInt8)),v∈us.foldl u7 out↔v∈out∨0<us.countP (LK v)
 |[],out=>by simp
 |u::us,out=>by
  rw[List.foldl_cons,O8 v us,List.countP_cons]
  have h:v∈u7 out u↔v∈out∨LK v u=true:=by
   unfold u7 LK
   split
   ·rename_i h
    simp only[List.mem_append,List.mem_singleton]
    constructor
    ·rintro(h1|h1)
     ·exact .inl h1
     ·right;simp[h1,h.1]
    ·rintro(h1|h1)
     ·exact .inl h1
     ·right;simp at h1;exact h1.2.symm
   ·rename_i h
    constructor
    ·exact .inl
    ·rintro(h1|h1)
     ·exact h1
     ·simp at h1
      by_cases e:u.fName∈out
      ·rw[←h1.2];exact e
      ·exact absurd ⟨h1.1,e⟩ h
  rw[h]
  cases LK v u<;>simp
theorem YP(v:List UInt8)(t:au):occurs v t=dec (v∈jy [] t):=by
 unfold occurs jy q9
 rw[jY]
 exact iq (by rw[O8];simp)
theorem YQ{t:au}(h:oh t=true):t.aK=1∨t.aK=2∨t.aK=3∨t.aK=4:=by
 have h1:=(gH h).1
 rw[xU,Bool.and_eq_true] at h1
 have h2:=gH h1.1
 omega
theorem aa7{t:au}(h:rG t=false):t.aK≠3:=by
 rw[Fy] at h
 intro e
 simp[e] at h
end Go.Ab
namespace Go.Proofs.YtocpgjlbagncjaaGreatDoor
open Go Go.Ab
set_option maxHeartbeats 2000000 in
theorem CG(x:aQ)(hsz:x.sz≤4194304):aI Tryz.prog 100 [x.v] (.c (.d (.b (fH x)))):=fun S=>by
 have hs:=aQ.sum x
 have hV:∀s∈x.aA,s.length≤4194304:=fun s h=>by have:=rU h;omega
 have hW:∀b∈x.bn,b.sz≤4194304:=fun b h=>by have:=qo h;omega
 have hM:∀m∈x.aL,m.sz≤4194304:=fun m h=>by have:=zD h;omega
 have no:uJ x=false→V.c (.d (.b false))=V.c (.d (.b (fH x))):=fun h=>aB (by unfold fH;rw[h];rfl)
 refine(show Hold (uJ x=true→ ?T)→_ from fun tail=> ?main) ?tp
 case' main=>
  refine aG (rs:=[.tmp 2]) Tryz.checked.mixed Tryz.func100 Tryz.ntmps100 rfl rfl rfl rfl rfl ?_
  refine W1 ?_
  repeat' (first
   |refine S0 (fun hb h=>?_) fun hb h=>?_
   |((with_reducible show fE _ _ 94 _ _ _ _);refine aZ (iD x.bL (by omega)) ?_;refine W1 ?_)
   |((with_reducible show fE _ _ 95 _ _ _ _);refine aZ (oW x.aA (by omega) hV) ?_;refine W1 ?_)
   |((with_reducible show fE _ _ 180 _ _ _ _);refine aZ (uF x.bM x.aA (by omega) (by omega)) ?_;refine W1 ?_)
   |((with_reducible show fE _ _ 180 _ _ _ _);refine aZ (uF x.bK x.aA (by omega) (by omega)) ?_;refine W1 ?_)
   |((with_reducible show fE _ _ 181 _ _ _ _);refine aZ (Eo x.bM (by omega)) ?_;refine W1 ?_)
   |((with_reducible show fE _ _ 183 _ _ _ _);refine aZ (yM x.bM (by omega)) ?_;refine W1 ?_)
   |((with_reducible show fE _ _ 182 _ _ _ _);refine aZ (zU x.aA (jy [] x.bM) (by omega) (MB _ (by omega))) ?_;refine W1 ?_)
   |((with_reducible show fE _ _ 184 _ _ _ _);refine aZ (H7 x.bn x.aA (by omega) hW (by omega)) ?_;refine W1 ?_)
   |((with_reducible show fE _ _ 185 _ _ _ _);refine aZ (Ga x.bK) ?_;refine W1 ?_)
   |(refine no ?_;unfold uJ;grind [gH,jM,bA,aF]))
  all_goals
   have hh:uJ x=true:=by unfold uJ;grind [gH,jM,bA,aF]
   refine W3 ?_
   refine mR 3 1 [] rfl (by simp) ?_
   refine nN (st':=[.box (x.enc.map .d),.tok 1 []]::S) [3,91,92,93] [.c (.bS (0,1) []),.c (.d (.sl (x.aL.map bH.enc))),.c (.d (.i .i64 x.aL.length)),.c (.d (.i .i64 0))] ?_ ?_ ?_
   ·rfl
   ·first|(refine W1 ?_;done)|(refine W1 ?_;simp[*])
   ·exact tail.out hh
 refine⟨fun hh=> ?_⟩
 have bad:∀i,∀hi:i<x.aL.length,mF x.aL[i]=false→V.c (.d (.b false))=V.c (.d (.b (fH x))):=fun i hi h=>by
  have:x.aL.all mF=false:=Bool.eq_false_iff.2 fun hx=>by
   rw[List.all_eq_true.1 hx _ (List.getElem_mem hi)] at h;cases h
  unfold fH
  rw[this];simp
 refine aT (ι:=Nat×List (List UInt8)) Tryz.checked.mixed rfl [3,91,92,93] (fun y=>[.c (.bS (0,1) (y.2.map encS)),.c (.d (.sl (x.aL.map bH.enc))),.c (.d (.i .i64 x.aL.length)),.c (.d (.i .i64 y.1))]) (fun y=>[.box (x.enc.map .d),.tok 1 (y.2.map encS)]::S)
  (fun y=>y.1≤x.aL.length∧y.2=(lY x).take y.1∧∀j,∀hj:j<x.aL.length,j<y.1→mF x.aL[j]=true) (fun y=>x.aL.length-y.1) (0,[]) rfl ?_ ⟨Nat.zero_le _,rfl,fun j _ h=>by simp only at h;omega⟩ ?_
 ·exact Z1
 rintro⟨i,names⟩ ⟨p1,p2,p3⟩
 simp only at p1 p2 p3
 have pl:names.length≤x.aL.length:=by rw[p2];simp[lY];omega
 refine W1 ?_
 refine S0 (fun hb h=>?_) fun hb h=>?_
 ·have hi:i<x.aL.length:=by omega
  have hm:=hM _ (List.getElem_mem hi)
  have hms:=bH.sum x.aL[i]
  have hmv:∀s∈x.aL[i].aA,s.length≤4194304:=fun s h=>by have:=rU h;omega
  refine W3 ?_
  refine S0 (fun hb h=>?_) fun hb h=>?_
  ·exact bad i hi (by unfold mF;rw[aF (by omega)];rfl)
  refine W3 ?_
  refine S0 (fun hb h=>?_) fun hb h=>?_
  ·exact bad i hi (by unfold mF;rw[aF (show ¬x.aL[i].aA.length≤5 by omega)];simp)
  refine W3 ?_
  refine C2 (H6 x.aL[i].aA x.aL[i].fBody (by omega) hmv (by omega)) ?_
  refine S0 (fun hb h=>?_) fun hb h=>?_
  ·exact bad i hi (by unfold mF;rw[h];simp)
  have k2:=h
  have k3:mF x.aL[i]=true:=by unfold mF;rw[k2,bA (by omega),bA (by omega)];rfl
  refine W3 ?_
  rw[show List.map encS names++[[D.s x.aL[i].fName]]=List.map encS (names++[x.aL[i].fName]) by simp[encS]]
  exact dh 2 (by decide) (i+1,names++[x.aL[i].fName]) (by simp only;omega) rfl rfl rfl rfl ⟨by simp only;omega,by simp only;rw[p2,iR (by simpa [lY] using hi)];simp[lY],fun j hj hji=>by
   simp only at hji
   by_cases e:j=i
   ·subst e;exact k3
   ·exact p3 j hj (by omega)⟩
 have hi:i=x.aL.length:=by omega
 have hn:names=lY x:=by rw[p2,List.take_of_length_le (by simp[lY];omega)]
 have hall:x.aL.all mF=true:=List.all_eq_true.2 fun c hc=>by
  obtain⟨j,hj,e⟩:=List.getElem_of_mem hc
  rw[←e];exact p3 j hj (by omega)
 have hnl:∀s∈names,s.length≤4194304:=fun s hm=>by
  rw[hn] at hm
  obtain⟨g,hg,e⟩:=List.mem_map.1 hm
  have:=hM g hg
  have:=bH.sum g
  rw[←e];omega
 refine C2 (oW names (by omega) hnl) ?_
 exact aB (by unfold fH;rw[hh,hall,hn];rfl)
set_option maxHeartbeats 2000000 in
theorem oP(x:aQ)(hsz:x.sz≤4194304):aI Tryz.prog 156 [x.v] (.c (.d (.b (fH x)))):=fun S=>by
 have hs:=aQ.sum x
 have hV:∀s∈x.aA,s.length≤4194304:=fun s h=>by have:=rU h;omega
 have hW:∀b∈x.bn,b.sz≤4194304:=fun b h=>by have:=qo h;omega
 have hM:∀m∈x.aL,m.sz≤4194304:=fun m h=>by have:=zD h;omega
 have bad:x.aL.all mF=false→V.c (.d (.b false))=V.c (.d (.b (fH x))):=fun h=>aB (by unfold fH;rw[h];simp)
 have no:uJ x=false→V.c (.d (.b false))=V.c (.d (.b (fH x))):=fun h=>aB (by unfold fH;rw[h];rfl)
 have hk:gW x.aA x.bM=true→rG x.bM=false→(x.bM.aK=1∨x.bM.aK=2∨x.bM.aK=4):=fun h1 h2=>by
  unfold gW at h1
  rw[Bool.and_eq_true] at h1
  have:=YQ h1.1
  have:=aa7 h2
  omega
 refine aG (rs:=[.tmp 2]) Tryz.checked.mixed Tryz.func156 Tryz.ntmps156 rfl rfl rfl rfl rfl ?_
 refine W1 ?_
 repeat' (first
  |refine S0 (fun hb h=>?_) fun hb h=>?_
  |((with_reducible show fE _ _ 84 _ _ _ _);refine aZ (iE x.bL (by omega)) ?_;refine W1 ?_)
  |((with_reducible show fE _ _ 85 _ _ _ _);refine aZ (mD x.aA 3 (by omega) hV) ?_;refine W1 ?_)
  |((with_reducible show fE _ _ 235 _ _ _ _);refine aZ (uj x.bM x.aA (by omega) (by omega)) ?_;refine W1 ?_)
  |((with_reducible show fE _ _ 236 _ _ _ _);refine aZ (En x.bM (by omega)) ?_;refine W1 ?_)
  |((with_reducible show fE _ _ 237 _ _ _ _);refine aZ (JI x.bn x.aA (by omega) hW (by omega)) ?_;refine W1 ?_)
  |(refine no ?_;unfold uJ;grind [gH,jM,bA,aF]))
 all_goals
  have h1:validName x.bL=true:=by assumption
  have h2:(dec ((x.aA.length:Int)≤3)&&iL x.aA)=true:=by assumption
  have h3:gW x.aA x.bM=true:=by assumption
  have h4:rG x.bM=false:=by assumption
  have h5:¬x.bM.aK=4:=by assumption
  have h6:qz x.aA x.bn=true:=by assumption
 have h7:=hk h3 h4
 clear hk
 rw[Bool.and_eq_true] at h2
 have h8:=gH h2.1
 have pre:uJ x=(among x.aA (jy [] x.bM)&&((if x.dW=true then gW x.aA x.bK else dec (xu x.bK))&&dec (x.aL.length≤6))):=by
  unfold uJ
  rw[h1,h2.2,h3,h4,h6,bA (show x.aA.length≤3 by omega),bA (show x.bM.aK=2∨x.bM.aK=1 by omega)]
  simp
 clear h1 h2 h3 h4 h5 h6 h7 h8
 refine aT (ι:=Nat) Tryz.checked.mixed rfl [1,3] (fun i=>[.c (.ptr (0,0) 0),.c (.d (.i .i64 i))]) (fun _=>[.box (x.enc.map .d)]::S)
  (fun i=>i≤x.aA.length∧among (x.aA.drop i) (jy [] x.bM)=among x.aA (jy [] x.bM)) (fun i=>x.aA.length-i) 0 rfl ?_ ⟨Nat.zero_le _,rfl⟩ ?_
 ·exact Z1
 rintro i ⟨p1,p2⟩
 simp -implicitDefEqProofs (disch:=omega) only[go_sem,encS]
 with_reducible refine dU (fun hb=> ?_) (fun hb=> ?_)<;>have h:=hb<;>(try simp only[wf_preprocess] at h)<;>simp -implicitDefEqProofs (disch:=omega) only[go_sem,hb,encS]<;>refine W3 ?_
 ·have hi:i<x.aA.length:=by omega
  rw[List.drop_eq_getElem_cons hi] at p2
  have p3:among x.aA (jy [] x.bM)=(dec (x.aA[i]∈jy [] x.bM)&&among (x.aA.drop (i+1)) (jy [] x.bM)):=p2.symm
  refine W3 ?_
  refine C2 (P8 x.aA[i] x.bM (by omega)) ?_
  rw[YP]
  refine S0 (fun hb h=>?_) fun hb h=>?_
  ·exact no (by rw[pre,p3,aF h];rfl)
  ·exact bP (i+1) (by omega) rfl rfl ⟨by omega,by rw[p3,bA h];rfl⟩
 rw[List.drop_of_length_le (by omega)] at p2
 have p3:among x.aA (jy [] x.bM)=true:=p2.symm
 rw[p3,Bool.true_and] at pre
 refine(show Hold ((if x.dW=true then gW x.aA x.bK else dec (xu x.bK))=true→ ?T)→_ from fun tail=> ?main) ?tp
 case' main=>
  repeat' (first
   |refine S0 (fun hb h=>?_) fun hb h=>?_
   |((with_reducible show fE _ _ 235 _ _ _ _);refine aZ (uj x.bK x.aA (by omega) (by omega)) ?_;refine W1 ?_)
   |((with_reducible show fE _ _ 239 _ _ _ _);refine aZ (Ms x.bK) ?_;refine W1 ?_)
   |(refine no ?_;rw[pre];grind [gH,jM,bA,aF]))
  all_goals
   have hh:(if x.dW=true then gW x.aA x.bK else dec (xu x.bK))=true:=by grind [gH,jM,bA,aF]
   refine W3 ?_
   refine mR 4 1 [] rfl (by simp) ?_
   refine nN (st':=[.box (x.enc.map .d),.tok 1 []]::S) [1,4,5] [.c (.ptr (0,0) 0),.c (.bS (0,1) []),.c (.d (.i .i64 0))] ?_ ?_ ?_
   ·rfl
   ·first|(refine W1 ?_;done)|(refine W1 ?_;simp[*])
   ·exact tail.out hh
 refine⟨fun hh=> ?_⟩
 rw[hh,Bool.true_and] at pre
 clear p2 p3 p1 hh no
 have ad3:∀i,∀hi:i<x.aL.length,mF x.aL[i]=false→V.c (.d (.b false))=V.c (.d (.b (fH x))):=fun i hi h=>bad (Bool.eq_false_iff.2 fun hx=>by
  rw[List.all_eq_true.1 hx _ (List.getElem_mem hi)] at h;cases h)
 refine aT (ι:=Nat×List (List UInt8)) Tryz.checked.mixed rfl [1,4,5] (fun y=>[.c (.ptr (0,0) 0),.c (.bS (0,1) (y.2.map encS)),.c (.d (.i .i64 y.1))]) (fun y=>[.box (x.enc.map .d),.tok 1 (y.2.map encS)]::S)
  (fun y=>y.1≤x.aL.length∧y.2=(lY x).take y.1∧∀j,∀hj:j<x.aL.length,j<y.1→mF x.aL[j]=true) (fun y=>x.aL.length-y.1) (0,[]) rfl ?_ ⟨Nat.zero_le _,rfl,fun j _ h=>by simp only at h;omega⟩ ?_
 ·exact Z1
 rintro⟨i,names⟩ ⟨p1,p2,p3⟩
 simp only at p1 p2 p3
 have pl:names.length≤x.aL.length:=by rw[p2];simp[lY];omega
 refine W1 ?_
 refine S0 (fun hb h=>?_) fun hb h=>?_
 ·have hi:i<x.aL.length:=by omega
  have hm:=hM _ (List.getElem_mem hi)
  have hms:=bH.sum x.aL[i]
  have hmv:∀s∈x.aL[i].aA,s.length≤4194304:=fun s h=>by have:=rU h;omega
  refine W3 ?_
  refine S0 (fun hb h=>?_) fun hb h=>?_
  ·exact ad3 i hi (by unfold mF;rw[aF (by omega)];rfl)
  refine W3 ?_
  refine C2 (mD x.aL[i].aA 5 (by omega) hmv) ?_
  refine S0 (fun hb h=>?_) fun hb h=>?_
  ·refine ad3 i hi ?_
   unfold mF mX
   have:(dec (x.aL[i].aA.length≤5)&&iL x.aL[i].aA)=false:=by
    rw[←h];congr 1;exact iq ⟨fun h=>by omega,fun h=>by omega⟩
   rw[←Bool.and_assoc (dec (x.aL[i].aA.length≤5)),this];simp
  have k1:=h
  rw[Bool.and_eq_true] at k1
  have k4:=gH k1.1
  refine W3 ?_
  refine C2 (FN x.aL[i].aA x.aL[i].fBody (by omega) (by omega)) ?_
  refine S0 (fun hb h=>?_) fun hb h=>?_
  ·exact ad3 i hi (by unfold mF mX;rw[h];simp)
  have k2:=h
  have k3:mF x.aL[i]=true:=by unfold mF mX;rw[k2,k1.2,bA (by omega),bA (by omega)];rfl
  refine W3 ?_
  rw[show List.map encS names++[[D.s x.aL[i].fName]]=List.map encS (names++[x.aL[i].fName]) by simp[encS]]
  exact dh 2 (by decide) (i+1,names++[x.aL[i].fName]) (by simp only;omega) rfl rfl rfl rfl ⟨by simp only;omega,by simp only;rw[p2,iR (by simpa [lY] using hi)];simp[lY],fun j hj hji=>by
   simp only at hji
   by_cases e:j=i
   ·subst e;exact k3
   ·exact p3 j hj (by omega)⟩
 have hi:i=x.aL.length:=by omega
 have hn:names=lY x:=by rw[p2,List.take_of_length_le (by simp[lY];omega)]
 have hall:x.aL.all mF=true:=List.all_eq_true.2 fun c hc=>by
  obtain⟨j,hj,e⟩:=List.getElem_of_mem hc
  rw[←e];exact p3 j hj (by omega)
 have hnl:∀s∈names,s.length≤4194304:=fun s hm=>by
  rw[hn] at hm
  obtain⟨g,hg,e⟩:=List.mem_map.1 hm
  have:=hM g hg
  have:=bH.sum g
  rw[←e];omega
 have hlen:names.length=x.aL.length:=by rw[hn];simp[lY]
 refine C2 (mD names 6 (by omega) hnl) ?_
 refine aB ?_
 unfold fH
 rw[pre,hall,hn,Bool.true_and]
 congr 1
 rw[←hn,hlen]
 exact iq ⟨fun h=>by omega,fun h=>by omega⟩
end Go.Proofs.YtocpgjlbagncjaaGreatDoor
namespace Go.Ab
def y5(P:Program)(N:Nat)(g:St→St):Nat→Code→(Exit→St→Prop)→St→Prop
 |0,c,Q,s=>CW P N c Q (g s)
 |k+1,.seq x y,Q,s=>CW P N x (oC (y5 P N g k y Q) Q) s
 |_,_,_,_=>False
theorem Tt{P:Program}{N:Nat}{g:St→St}{c:Code}{Q:Exit→St→Prop}{s:St}:y5 P N g 0 c Q s=CW P N c Q (g s):=by rw[y5]
theorem zF{P:Program}{N k:Nat}{g:St→St}{x y:Code}{Q:Exit→St→Prop}{s:St}:y5 P N g (k+1) (.seq x y) Q s=CW P N x (oC (y5 P N g k y Q) Q) s:=by rw[y5]
theorem ad4{P:Program}{N:Nat}{g:St→St}{x y:Code}{Q:Exit→St→Prop}{s:St}:y5 P N g 5 (.seq x y) Q s=CW P N x (oC (y5 P N g 4 y Q) Q) s:=zF
theorem ad5{P:Program}{N:Nat}{g:St→St}{x y:Code}{Q:Exit→St→Prop}{s:St}:y5 P N g 4 (.seq x y) Q s=CW P N x (oC (y5 P N g 3 y Q) Q) s:=zF
theorem aa8{P:Program}{N:Nat}{g:St→St}{x y:Code}{Q:Exit→St→Prop}{s:St}:y5 P N g 3 (.seq x y) Q s=CW P N x (oC (y5 P N g 2 y Q) Q) s:=zF
theorem agp{P:Program}{N:Nat}{g:St→St}{x y:Code}{Q:Exit→St→Prop}{s:St}:y5 P N g 2 (.seq x y) Q s=CW P N x (oC (y5 P N g 1 y Q) Q) s:=zF
theorem agq{P:Program}{N:Nat}{g:St→St}{x y:Code}{Q:Exit→St→Prop}{s:St}:y5 P N g 1 (.seq x y) Q s=CW P N x (oC (y5 P N g 0 y Q) Q) s:=zF
attribute [go_sem] Tt ad4 ad5 aa8 agp agq
theorem O9{P:Program}{N:Nat}{g:St→St}(hg:∀s,iN N s (g s))(kQ:P.follows .mixedOrders=true):∀(k:Nat) (c:Code) (Q:Exit→St→Prop) (s:St),codeOk N c=true→y5 P N g k c Q s→AW P N c Q s
 |0,c,Q,s,ok,h=>by
  rw[Tt] at h
  exact oK (oM kQ c Q _ ok h) (hg s)
 |k+1,.seq x y,Q,s,ok,h=>by
  rw[zF] at h
  simp only[codeOk,Bool.and_eq_true] at ok
  refine Zp (AW.mono (oM kQ x _ s ok.1 h) fun e s' h'=> ?_)
  cases e with
  |normal=>exact O9 hg kQ k y Q s' ok.2 h'
  |_=>exact h'
 |k+1,.region ..,_,_,_,h=>h.elim
 |k+1,.cond ..,_,_,_,h=>h.elim
 |k+1,.block ..,_,_,_,h=>h.elim
 |k+1,.exit ..,_,_,_,h=>h.elim
 |k+1,.ret,_,_,_,h=>h.elim
 |k+1,.skip,_,_,_,h=>h.elim
 |k+1,.loop ..,_,_,_,h=>h.elim
theorem zX{P:Program}{S:Store}{N:Nat}(n k n' pos:Nat){f:FuncId}{fn:Func}{c:Code}{args:List V}{post:V→Store→Prop}{rs:List ResultVar}(kQ:P.follows .mixedOrders=true)(hf:P.funcs[f]? =some fn)(hN:fn.ntmps=N)
 (hb:fn.body=some c) (hn:(fn.name== "runtime.NumGoroutine")=false) (hr:fn.results.toList=rs) (hl:Nat.ble args.length N=true) (hok:codeOk N c=true)
 (h:y5 P N (Cz n') pos c (R8 P n rs post) ⟨rM (args.map (V.up 1)) 0,[.seed n,.seed k]::S⟩):cB P f args S post:=by
 subst hN
 subst hr
 exact zN hf hb hn (Nat.le_of_ble_eq_true hl) (R9 n k (GH (Cm n) (O9 (ED n') kQ pos c _ _ hok h)))
def kL:List UInt8:=[105,110,115,116]
def nT:List UInt8:=[100,101,102,97,117,108,116]
def j5(x:aQ):List (List UInt8):=if x.gy=true then [nT] else []
def j6(x:aQ):List aj:=if x.dW=true then [dw x.bK] else []
def oz(m:bH):aj:=bY [bT m.fName,bY (aV m.aA),fB m.fBody]
def nk(x:aQ):List aj:=[bT kL,bT x.bL,bY (aV x.aA),dw x.bM,bY (x.bn.map qp),bY (aV (j5 x)),bY (j6 x)]
def wL(x:aQ):aj:=bY (nk x++x.aL.map oz)
noncomputable def Tv(x:aQ):aj:=vO (fH x) (wL x)
theorem agr{x:aQ}(h:x.sz≤1048576):(Tv x).sz≤1048576:=Nat.le_trans (IJ _ _) (by decide)
theorem agt(m:bH)(hok:iT m.fBody=true):(oz m).sz≤27+32*m.sz:=by
 have h1:=Hu m.fBody hok
 have h3:=bH.sum m
 rw[dN] at h3
 rw[oz,ku]
 simp[dQ,kr,ku,jH,rR];omega
theorem Tw:∀l:List bH,(∀g∈l,iT g.fBody=true)→dQ (l.map oz)≤27*l.length+32*bD (l.map bH.enc)
 |[],_=>by simp[dQ]
 |c::l,h=>by
  have h1:=agt c (h c (List.mem_cons_self ..))
  have h2:=Tw l fun g hg=>h g (List.mem_cons_of_mem _ hg)
  rw[List.map_cons,dQ,List.map_cons,bD,List.length_cons];simp only[bH.sz] at h1;omega
theorem nU{x:aQ}(h:fH x=true):formed x.bM=true∧(∀b∈x.bn,formed b.fType=true)∧(x.dW=true→formed x.bK=true)∧(∀m∈x.aL,iT m.fBody=true):=by
 unfold fH uJ at h
 simp only[Bool.and_eq_true] at h
 obtain⟨⟨_,_,_,h1,_,_,_,h2,h3,_⟩,h4,_⟩:=h
 refine⟨vv h1,Bf h2,fun ha=> ?_,fun m hm=> ?_⟩
 ·rw[if_pos ha] at h3;exact vv h3
 ·have h5:=List.all_eq_true.1 h4 m hm
  unfold mF at h5
  simp only[Bool.and_eq_true] at h5
  exact Dj h5.2.2
theorem H8{x:aQ}(hok:fH x=true):(wL x).sz≤96+40*x.sz:=by
 obtain⟨_,_,_,hm⟩:=nU hok
 have h1:=Tw x.aL hm
 have h2:=NP x.bn
 have h3:=aQ.sum x
 have h4:=Aj x.bM
 have h5:=Aj x.bK
 have h6:(j5 x).length≤1∧((j5 x).map List.length).sum≤7:=by unfold j5;split<;>simp[nT]
 have h7:(j6 x).length≤1∧dQ (j6 x)≤(dw x.bK).sz:=by unfold j6;split<;>simp[dQ]
 rw[dN] at h3
 rw[wL,ku,kZ,List.length_append,List.length_map]
 simp[nk,dQ,kr,ku,jH,rR,kL];omega
theorem YR(n:Nat)(a b:List UInt8)(w v:List (List UInt8))(h:aj)(bs zs:List aj):lx [bT a,bT b,bY (aV w),h,bY bs,bY (aV v),bY zs] (n+1)=[[.s a,.ol (n+1) []],[.s b,.ol (n+1+1) []],[.s [],.ol (n+1+1+1) (lx (aV w) (n+1+1+1+1))],[.s h.bf,.ol (n+1+1+1+dS (bY (aV w))) (lx h.ah (n+1+1+1+dS (bY (aV w))+1))],[.s [],.ol (n+1+1+1+dS (bY (aV w))+dS h) (lx bs (n+1+1+1+dS (bY (aV w))+dS h+1))],
 [.s [],.ol (n+1+1+1+dS (bY (aV w))+dS h+dS (bY bs)) (lx (aV v) (n+1+1+1+dS (bY (aV w))+dS h+dS (bY bs)+1))],[.s [],.ol (n+1+1+1+dS (bY (aV w))+dS h+dS (bY bs)+dS (bY (aV v))) (lx zs (n+1+1+1+dS (bY (aV w))+dS h+dS (bY bs)+dS (bY (aV v))+1))]]:=by
 simp only[jO,mV,jW,kG,kH,eu,dJ,jU]
theorem Tx(n:Nat)(es:List (List D)):Less (.c (.d (.ol n es))) (.c (.d (.sl es))):=fun w σ S β v h=>⟨sP h.1,h.2⟩
end Go.Ab
namespace Go.Proofs.YtocpgjlbagncjaaGreatDoor
open Go Go.Ab
set_option maxHeartbeats 4000000 in
theorem Tz(x:aQ)(n:Nat)(hv:fH x=true)(hsz:x.sz≤1048576):aI Tryz.prog 168 [x.v] (.agg [.d (.s []),.d (.ol n (lx (wL x).ah (n+1)))]):=fun S=>by
 have hdz:=aQ.sum x
 rw[dN] at hdz
 obtain⟨hf1,hf2,hf3,Dk⟩:=nU hv
 obtain⟨p,hp⟩:∃p:Nat,p=n+1+1+1+dS (bY (aV x.aA))+dS (dw x.bM)+dS (bY (x.bn.map qp))+dS (bY (aV (j5 x))):=⟨_,rfl⟩
 obtain⟨L,hL⟩:∃L:Nat→Nat,L=fun i=>n+1+jq (nk x++(x.aL.map oz).take i):=⟨_,rfl⟩
 obtain⟨T,hT⟩:∃T:Nat→List (List D),T=fun i=>lx (nk x++(x.aL.map oz).take i) (n+1):=⟨_,rfl⟩
 have hT0:T 0=[[.s kL,.ol (n+1) []],[.s x.bL,.ol (n+1+1) []],[.s [],.ol (n+1+1+1) (lx (aV x.aA) (n+1+1+1+1))],[.s (dw x.bM).bf,.ol (n+1+1+1+dS (bY (aV x.aA))) (lx (dw x.bM).ah (n+1+1+1+dS (bY (aV x.aA))+1))],[.s [],.ol (n+1+1+1+dS (bY (aV x.aA))+dS (dw x.bM)) (lx (x.bn.map qp) (n+1+1+1+dS (bY (aV x.aA))+dS (dw x.bM)+1))],[.s [],.ol (n+1+1+1+dS (bY (aV x.aA))+dS (dw x.bM)+dS (bY (x.bn.map qp))) (lx (aV (j5 x)) (n+1+1+1+dS (bY (aV x.aA))+dS (dw x.bM)+dS (bY (x.bn.map qp))+1))],[.s [],.ol p (lx (j6 x) (p+1))]]:=by
  rw[hT,hp];simp only[List.take_zero,List.append_nil,nk,YR]
 have ig:∀i,(T i).length≤i+7:=fun i=>by
  rw[hT];simp only[iw,List.length_append]
  have:=List.length_take_le i (x.aL.map oz)
  simp[nk];omega
 have hTs:∀i (hi:i<x.aL.length),T i++[[.s [],.ol (L i) [[.s x.aL[i].fName,.ol (L i+1) []],[.s [],.ol (L i+1+1) (lx (aV x.aL[i].aA) (L i+1+1+1))],[.s (fB x.aL[i].fBody).bf,.ol (L i+1+1+dS (bY (aV x.aL[i].aA))) (lx (fB x.aL[i].fBody).ah (L i+1+1+dS (bY (aV x.aL[i].aA))+1))]]]]=T (i+1):=fun i hi=>by
  have:=zw (base:=nk x) (l:=x.aL.map oz) (i:=i) (by rw[List.length_map];exact hi) (n+1)
  rw[List.getElem_map,oz,eu,dJ] at this
  simp only[jO,mV,jW,kG,kH,eu,dJ,jU] at this
  rw[hT,hL];exact this
 have hTr:∀i,∀r∈T i,r.length=2:=fun i=>by rw[hT];exact lq
 have hTe:T x.aL.length=lx (wL x).ah (n+1):=by
  rw[hT];simp only
  rw[List.take_of_length_le (by simp)];rfl
 clear hT hL
 refine(show Hold ?T→_ from fun tail=> ?main) ?tp
 case' main=>
  cases ha:x.gy<;>cases hs:x.dW
  ·have hfl:j5 x=[]:=by unfold j5;rw[ha];rfl
   have has:j6 x=[]:=by unfold j6;rw[hs];rfl
   refine zX (p) 1 (n) 5 (rs:=[.cell 2 37]) Tryz.checked.mixed Tryz.func168 Tryz.ntmps168 rfl rfl rfl rfl rfl ?_
   simp -implicitDefEqProofs (disch:=omega) only[go_sem,ha,hs]
   refine W3 ?_
   refine C1 (dI _ (n+1)) ?_
   refine C1 (dI _ (n+1+1)) ?_
   refine C1 (eY x.aA (by omega) (n+1+1+1)) ?_
   refine C1 (lC x.bM (n+1+1+1+dS (bY (aV x.aA))) hf1 (by omega)) ?_
   refine C1 (uH x.bn (n+1+1+1+dS (bY (aV x.aA))+dS (dw x.bM)) hf2 (by omega) (fun b hb=>by have:=qo hb;omega)) ?_
   refine nK (eY [] (by simp) (n+1+1+1+dS (bY (aV x.aA))+dS (dw x.bM)+dS (bY (x.bn.map qp)))) (.cons (om p _) .nil) ?_
   refine W1 ?_
   refine C1 (nO _ _) ?_
   refine W3 ?_
   refine l6 n 5 2 (T 0) (.inl ?_) (hTr 0) ?_
   ·rw[hT0,hfl,has];rfl
   refine qO (L 0) ?_
   refine nN (st':=[.seed (L 0),.seed 1,.box [.d (.s x.bL),.d (.sl (x.aA.map encS)),.d (.i .i64 x.bM.aK),.d (.s x.bM.fName),.d (.sl (x.bM.fArgs.map au.enc)),.d (.sl (x.bn.map aO.enc)),.d (.b x.gy),.d (.b x.dW),.d (.i .i64 x.bK.aK),.d (.s x.bK.fName),.d (.sl (x.bK.fArgs.map au.enc)),.d (.sl (x.aL.map bH.enc))],.box [.d (.s []),.bO []],.fF n 2 (T 0)]::S) [2,5,42,43,44] [.c (.ptr (0,3) 0),.c (.bS (0,4) (T 0)),.c (.d (.sl (x.aL.map bH.enc))),.c (.d (.i .i64 x.aL.length)),.c (.d (.i .i64 0))] ?_ ?_ ?_
   ·rfl
   ·rw[ha,hs];rfl
   ·exact tail.out
  ·have hfl:j5 x=[]:=by unfold j5;rw[ha];rfl
   have has:j6 x=[dw x.bK]:=by unfold j6;rw[hs];rfl
   refine zX (p) 1 (n) 5 (rs:=[.cell 2 37]) Tryz.checked.mixed Tryz.func168 Tryz.ntmps168 rfl rfl rfl rfl rfl ?_
   simp -implicitDefEqProofs (disch:=omega) only[go_sem,ha,hs]
   refine W3 ?_
   refine C1 (lC x.bK (p+1) (hf3 hs) (by omega)) ?_
   refine W3 ?_
   refine C1 (dI _ (n+1)) ?_
   refine C1 (dI _ (n+1+1)) ?_
   refine C1 (eY x.aA (by omega) (n+1+1+1)) ?_
   refine C1 (lC x.bM (n+1+1+1+dS (bY (aV x.aA))) hf1 (by omega)) ?_
   refine C1 (uH x.bn (n+1+1+1+dS (bY (aV x.aA))+dS (dw x.bM)) hf2 (by omega) (fun b hb=>by have:=qo hb;omega)) ?_
   refine nK (eY [] (by simp) (n+1+1+1+dS (bY (aV x.aA))+dS (dw x.bM)+dS (bY (x.bn.map qp)))) (.cons (om p _) .nil) ?_
   refine W1 ?_
   refine C1 (lu _) ?_
   refine W3 ?_
   refine l6 n 5 2 (T 0) (.inl ?_) (hTr 0) ?_
   ·rw[hT0,hfl,has,jO,mV,jW];rfl
   refine qO (L 0) ?_
   refine nN (st':=[.seed (L 0),.seed 1,.box [.d (.s x.bL),.d (.sl (x.aA.map encS)),.d (.i .i64 x.bM.aK),.d (.s x.bM.fName),.d (.sl (x.bM.fArgs.map au.enc)),.d (.sl (x.bn.map aO.enc)),.d (.b x.gy),.d (.b x.dW),.d (.i .i64 x.bK.aK),.d (.s x.bK.fName),.d (.sl (x.bK.fArgs.map au.enc)),.d (.sl (x.aL.map bH.enc))],.box [.d (.s []),.bO []],.fF n 2 (T 0)]::S) [2,5,42,43,44] [.c (.ptr (0,3) 0),.c (.bS (0,4) (T 0)),.c (.d (.sl (x.aL.map bH.enc))),.c (.d (.i .i64 x.aL.length)),.c (.d (.i .i64 0))] ?_ ?_ ?_
   ·rfl
   ·rw[ha,hs];rfl
   ·exact tail.out
  ·have hfl:j5 x=[nT]:=by unfold j5;rw[ha];rfl
   have has:j6 x=[]:=by unfold j6;rw[hs];rfl
   refine zX (p) 1 (n) 5 (rs:=[.cell 2 37]) Tryz.checked.mixed Tryz.func168 Tryz.ntmps168 rfl rfl rfl rfl rfl ?_
   simp -implicitDefEqProofs (disch:=omega) only[go_sem,ha,hs]
   refine W3 ?_
   refine C1 (dI _ (n+1)) ?_
   refine C1 (dI _ (n+1+1)) ?_
   refine C1 (eY x.aA (by omega) (n+1+1+1)) ?_
   refine C1 (lC x.bM (n+1+1+1+dS (bY (aV x.aA))) hf1 (by omega)) ?_
   refine C1 (uH x.bn (n+1+1+1+dS (bY (aV x.aA))+dS (dw x.bM)) hf2 (by omega) (fun b hb=>by have:=qo hb;omega)) ?_
   refine nK (eY [nT] (by simp) (n+1+1+1+dS (bY (aV x.aA))+dS (dw x.bM)+dS (bY (x.bn.map qp)))) (.cons (Tx p _) .nil) ?_
   refine W1 ?_
   refine C1 (nO _ _) ?_
   refine W3 ?_
   refine l6 n 5 2 (T 0) (.inl ?_) (hTr 0) ?_
   ·rw[hT0,hfl,has];rfl
   refine qO (L 0) ?_
   refine nN (st':=[.seed (L 0),.seed 1,.box [.d (.s x.bL),.d (.sl (x.aA.map encS)),.d (.i .i64 x.bM.aK),.d (.s x.bM.fName),.d (.sl (x.bM.fArgs.map au.enc)),.d (.sl (x.bn.map aO.enc)),.d (.b x.gy),.d (.b x.dW),.d (.i .i64 x.bK.aK),.d (.s x.bK.fName),.d (.sl (x.bK.fArgs.map au.enc)),.d (.sl (x.aL.map bH.enc))],.box [.d (.s []),.bO []],.fF n 2 (T 0)]::S) [2,5,42,43,44] [.c (.ptr (0,3) 0),.c (.bS (0,4) (T 0)),.c (.d (.sl (x.aL.map bH.enc))),.c (.d (.i .i64 x.aL.length)),.c (.d (.i .i64 0))] ?_ ?_ ?_
   ·rfl
   ·rw[ha,hs];rfl
   ·exact tail.out
  ·have hfl:j5 x=[nT]:=by unfold j5;rw[ha];rfl
   have has:j6 x=[dw x.bK]:=by unfold j6;rw[hs];rfl
   refine zX (p) 1 (n) 5 (rs:=[.cell 2 37]) Tryz.checked.mixed Tryz.func168 Tryz.ntmps168 rfl rfl rfl rfl rfl ?_
   simp -implicitDefEqProofs (disch:=omega) only[go_sem,ha,hs]
   refine W3 ?_
   refine C1 (lC x.bK (p+1) (hf3 hs) (by omega)) ?_
   refine W3 ?_
   refine C1 (dI _ (n+1)) ?_
   refine C1 (dI _ (n+1+1)) ?_
   refine C1 (eY x.aA (by omega) (n+1+1+1)) ?_
   refine C1 (lC x.bM (n+1+1+1+dS (bY (aV x.aA))) hf1 (by omega)) ?_
   refine C1 (uH x.bn (n+1+1+1+dS (bY (aV x.aA))+dS (dw x.bM)) hf2 (by omega) (fun b hb=>by have:=qo hb;omega)) ?_
   refine nK (eY [nT] (by simp) (n+1+1+1+dS (bY (aV x.aA))+dS (dw x.bM)+dS (bY (x.bn.map qp)))) (.cons (Tx p _) .nil) ?_
   refine W1 ?_
   refine C1 (lu _) ?_
   refine W3 ?_
   refine l6 n 5 2 (T 0) (.inl ?_) (hTr 0) ?_
   ·rw[hT0,hfl,has,jO,mV,jW];rfl
   refine qO (L 0) ?_
   refine nN (st':=[.seed (L 0),.seed 1,.box [.d (.s x.bL),.d (.sl (x.aA.map encS)),.d (.i .i64 x.bM.aK),.d (.s x.bM.fName),.d (.sl (x.bM.fArgs.map au.enc)),.d (.sl (x.bn.map aO.enc)),.d (.b x.gy),.d (.b x.dW),.d (.i .i64 x.bK.aK),.d (.s x.bK.fName),.d (.sl (x.bK.fArgs.map au.enc)),.d (.sl (x.aL.map bH.enc))],.box [.d (.s []),.bO []],.fF n 2 (T 0)]::S) [2,5,42,43,44] [.c (.ptr (0,3) 0),.c (.bS (0,4) (T 0)),.c (.d (.sl (x.aL.map bH.enc))),.c (.d (.i .i64 x.aL.length)),.c (.d (.i .i64 0))] ?_ ?_ ?_
   ·rfl
   ·rw[ha,hs];rfl
   ·exact tail.out
 refine⟨?_⟩
 refine aT (ι:=Nat) Tryz.checked.mixed rfl [2,5,42,43,44] (fun i=>[.c (.ptr (0,3) 0),.c (.bS (0,4) (T i)),.c (.d (.sl (x.aL.map bH.enc))),.c (.d (.i .i64 x.aL.length)),.c (.d (.i .i64 i))])
  (fun i=>[.seed (L i),.seed 1,.box [.d (.s x.bL),.d (.sl (x.aA.map encS)),.d (.i .i64 x.bM.aK),.d (.s x.bM.fName),.d (.sl (x.bM.fArgs.map au.enc)),.d (.sl (x.bn.map aO.enc)),.d (.b x.gy),.d (.b x.dW),.d (.i .i64 x.bK.aK),.d (.s x.bK.fName),.d (.sl (x.bK.fArgs.map au.enc)),.d (.sl (x.aL.map bH.enc))],.box [.d (.s []),.bO []],.fF n 2 (T i)]::S)
  (fun i=>i≤x.aL.length) (fun i=>x.aL.length-i) 0 rfl rfl (Nat.zero_le _) ?_
 intro i hi
 have hl:=ig i
 refine W1 ?_
 refine S0 (fun hb h=>?_) fun hb h=>?_
 ·have hi':i<x.aL.length:=by omega
  have hm:=List.getElem_mem hi'
  have hcz:=zD hm
  have hce:=bH.sum x.aL[i]
  rw[dN] at hce
  have hst:=hTs i hi'
  refine W3 ?_
  refine C1 (dI _ (L i+1)) ?_
  refine C1 (eY x.aL[i].aA (by omega) (L i+1+1)) ?_
  refine C1 (yP x.aL[i].fBody (L i+1+1+dS (bY (aV x.aL[i].aA))) (Dk _ hm) (by omega)) ?_
  refine W3 ?_
  refine C1 (nO _ _) ?_
  refine W3 ?_
  rw[hst]
  refine su (L (i+1)) 4 (by decide) (i+1) (by omega) rfl rfl ?_ rfl (by omega)
  simp[kF,jo,V.refs,C.refs,nC]
 ·have hi':i=x.aL.length:=by omega
  refine bJ rfl (jZ 0 4 _ _) ?_
  refine W1 ?_
  rw[hi',hTe]
set_option maxHeartbeats 4000000 in
theorem ad6(x:aQ)(hv:fH x=true)(hsz:x.sz≤1048576)(ha:x.gy=true)(hs:x.dW=true):aI Tryz.prog 149 [x.v] (Ck (wL x)).v:=fun S=>by
 have hdz:=aQ.sum x
 rw[dN] at hdz
 obtain⟨hf1,hf2,hf3,Dk⟩:=nU hv
 have hz:=H8 hv
 have hfl:j5 x=[nT]:=by unfold j5;rw[ha];rfl
 have has:j6 x=[dw x.bK]:=by unfold j6;rw[hs];rfl
 obtain⟨T,hT⟩:∃T:Nat→List (List D),T=fun i=>(nk x++(x.aL.map oz).take i).map aj.enc:=⟨_,rfl⟩
 have hT0:T 0=[[.s kL,.sl []],[.s x.bL,.sl []],[.s [],.sl ((aV x.aA).map aj.enc)],[.s (dw x.bM).bf,.sl ((dw x.bM).ah.map aj.enc)],[.s [],.sl ((x.bn.map qp).map aj.enc)],[.s [],.sl ((aV [nT]).map aj.enc)],[.s [],.sl [[.s (dw x.bK).bf,.sl ((dw x.bK).ah.map aj.enc)]]]]:=by
  rw[hT];simp only[List.take_zero,List.append_nil,nk,hfl,has,List.map_cons,List.map_nil,fM,j3,aj.aD (dw x.bM),aj.aD (dw x.bK)]
 have ig:∀i,(T i).length≤i+7:=fun i=>by
  rw[hT];simp only[List.length_map,List.length_append]
  have:=List.length_take_le i (x.aL.map oz)
  simp[nk];omega
 have hTs:∀i (hi:i<x.aL.length),T i++[[.s [],.sl [[.s x.aL[i].fName,.sl []],[.s [],.sl ((aV x.aL[i].aA).map aj.enc)],[.s (fB x.aL[i].fBody).bf,.sl ((fB x.aL[i].fBody).ah.map aj.enc)]]]]=T (i+1):=fun i hi=>by
  have:=jI (base:=nk x) (l:=x.aL.map oz) (i:=i) (by rw[List.length_map];exact hi)
  rw[List.getElem_map,oz,eu,dJ] at this
  simp only[List.map_cons,List.map_nil,fM,j3,aj.aD (fB x.aL[i].fBody)] at this
  rw[hT];exact this
 have hTr:∀i,∀r∈T i,r.length=2:=fun i=>by rw[hT];exact gT
 have hTe:T x.aL.length=(wL x).ah.map aj.enc:=by
  rw[hT];simp only
  rw[List.take_of_length_le (by simp)];rfl
 clear hT
 refine aG (rs:=[.cell 2 37]) Tryz.checked.mixed Tryz.func149 Tryz.ntmps149 rfl rfl rfl rfl rfl ?_
 refine W1 ?_
 refine aZ (oP x (by omega)) ?_
 simp -implicitDefEqProofs (disch:=omega) only[go_sem,hv,ha,hs]
 refine W3 ?_
 refine C1 (lW x.bK (by omega)) ?_
 refine W3 ?_
 refine C1 (nD _ (by simp) (by simp)) ?_
 refine W3 ?_
 refine C1 (cK _) ?_
 refine C1 (cK _) ?_
 refine C1 (eO x.aA (by omega)) ?_
 refine C1 (lW x.bM (by omega)) ?_
 refine C1 (vY x.bn (by omega) (fun b hb=>by have:=qo hb;omega)) ?_
 refine C1 (eO [nT] (by simp)) ?_
 have hE:=fun bZ Ω=>kU (T 0) (hTr 0) (by have:=ig 0;omega) bZ Ω
 simp only[hT0] at hE
 refine pJ [false] rfl (hE _ _) ?_
 refine W1 ?_
 refine aT (ι:=Nat) Tryz.checked.mixed rfl [1,2,5,6] (fun i=>[.c (.ptr (0,0) 0),.c (.ptr (0,1) 0),.c (.ptr (0,6) 0),.c (.d (.i .i64 i))])
  (fun i=>[.box [.d (.s x.bL),.d (.sl (x.aA.map encS)),.d (.i .i64 x.bM.aK),.d (.s x.bM.fName),.d (.sl (x.bM.fArgs.map au.enc)),.d (.sl (x.bn.map aO.enc)),.d (.b true),.d (.b true),.d (.i .i64 x.bK.aK),.d (.s x.bK.fName),.d (.sl (x.bK.fArgs.map au.enc)),.d (.sl (x.aL.map bH.enc))],.box [.d (.s []),.bO []],.tok 1 [[.s nT]],.box [.d (.s []),.d (.sl [[.s (dw x.bK).bf,.sl ((dw x.bK).ah.map aj.enc)]])],.box [.d (.s []),.bS (0,5) (T 0)],.tok 2 (T i),.box [.d (.s []),.bS (0,5) (T i)]]::S)
  (fun i=>i≤x.aL.length) (fun i=>x.aL.length-i) 0 rfl (by simp only[hT0]<;>(try rfl)) (Nat.zero_le _) ?_
 intro i hi
 have hl:=ig i
 refine W1 ?_
 refine S0 (fun hb h=>?_) fun hb h=>?_
 ·have hi':i<x.aL.length:=by omega
  have hm:=List.getElem_mem hi'
  have hcz:=zD hm
  have hce:=bH.sum x.aL[i]
  rw[dN] at hce
  have hst:=hTs i hi'
  refine W3 ?_
  refine C1 (cK _) ?_
  refine C1 (eO x.aL[i].aA (by omega)) ?_
  refine C1 (tJ x.aL[i].fBody (Dk _ hm) (by omega)) ?_
  refine C1 (nD _ (by simp) (by simp)) ?_
  refine W3 ?_
  rw[hst]
  exact dh 7 (by decide) (i+1) (by omega) rfl rfl rfl rfl (by omega)
 ·have hi':i=x.aL.length:=by omega
  subst hi'
  rw[hTe]
  refine C1 (rW true (wL x) (by omega)) ?_
  rfl
set_option maxHeartbeats 4000000 in
theorem ad7(x:aQ)(hv:fH x=true)(hsz:x.sz≤1048576)(ha:x.gy=true)(hs:x.dW=false):aI Tryz.prog 149 [x.v] (Ck (wL x)).v:=fun S=>by
 have hdz:=aQ.sum x
 rw[dN] at hdz
 obtain⟨hf1,hf2,hf3,Dk⟩:=nU hv
 have hz:=H8 hv
 have hfl:j5 x=[nT]:=by unfold j5;rw[ha];rfl
 have has:j6 x=[]:=by unfold j6;rw[hs];rfl
 obtain⟨T,hT⟩:∃T:Nat→List (List D),T=fun i=>(nk x++(x.aL.map oz).take i).map aj.enc:=⟨_,rfl⟩
 have hT0:T 0=[[.s kL,.sl []],[.s x.bL,.sl []],[.s [],.sl ((aV x.aA).map aj.enc)],[.s (dw x.bM).bf,.sl ((dw x.bM).ah.map aj.enc)],[.s [],.sl ((x.bn.map qp).map aj.enc)],[.s [],.sl ((aV [nT]).map aj.enc)],[.s [],.sl []]]:=by
  rw[hT];simp only[List.take_zero,List.append_nil,nk,hfl,has,List.map_cons,List.map_nil,fM,j3,aj.aD (dw x.bM),aj.aD (dw x.bK)]
 have ig:∀i,(T i).length≤i+7:=fun i=>by
  rw[hT];simp only[List.length_map,List.length_append]
  have:=List.length_take_le i (x.aL.map oz)
  simp[nk];omega
 have hTs:∀i (hi:i<x.aL.length),T i++[[.s [],.sl [[.s x.aL[i].fName,.sl []],[.s [],.sl ((aV x.aL[i].aA).map aj.enc)],[.s (fB x.aL[i].fBody).bf,.sl ((fB x.aL[i].fBody).ah.map aj.enc)]]]]=T (i+1):=fun i hi=>by
  have:=jI (base:=nk x) (l:=x.aL.map oz) (i:=i) (by rw[List.length_map];exact hi)
  rw[List.getElem_map,oz,eu,dJ] at this
  simp only[List.map_cons,List.map_nil,fM,j3,aj.aD (fB x.aL[i].fBody)] at this
  rw[hT];exact this
 have hTr:∀i,∀r∈T i,r.length=2:=fun i=>by rw[hT];exact gT
 have hTe:T x.aL.length=(wL x).ah.map aj.enc:=by
  rw[hT];simp only
  rw[List.take_of_length_le (by simp)];rfl
 clear hT
 refine aG (rs:=[.cell 2 37]) Tryz.checked.mixed Tryz.func149 Tryz.ntmps149 rfl rfl rfl rfl rfl ?_
 refine W1 ?_
 refine aZ (oP x (by omega)) ?_
 simp -implicitDefEqProofs (disch:=omega) only[go_sem,hv,ha,hs]
 refine W3 ?_
 refine C1 (cK _) ?_
 refine C1 (cK _) ?_
 refine C1 (eO x.aA (by omega)) ?_
 refine C1 (lW x.bM (by omega)) ?_
 refine C1 (vY x.bn (by omega) (fun b hb=>by have:=qo hb;omega)) ?_
 refine C1 (eO [nT] (by simp)) ?_
 have hE:=fun bZ Ω=>kU (T 0) (hTr 0) (by have:=ig 0;omega) bZ Ω
 simp only[hT0] at hE
 refine pJ [false] rfl (hE _ _) ?_
 refine W1 ?_
 refine aT (ι:=Nat) Tryz.checked.mixed rfl [1,2,5,6] (fun i=>[.c (.ptr (0,0) 0),.c (.ptr (0,1) 0),.c (.ptr (0,6) 0),.c (.d (.i .i64 i))])
  (fun i=>[.box [.d (.s x.bL),.d (.sl (x.aA.map encS)),.d (.i .i64 x.bM.aK),.d (.s x.bM.fName),.d (.sl (x.bM.fArgs.map au.enc)),.d (.sl (x.bn.map aO.enc)),.d (.b true),.d (.b false),.d (.i .i64 x.bK.aK),.d (.s x.bK.fName),.d (.sl (x.bK.fArgs.map au.enc)),.d (.sl (x.aL.map bH.enc))],.box [.d (.s []),.bO []],.tok 1 [[.s nT]],.box [.d (.s []),.bO []],.box [.d (.s []),.bS (0,5) (T 0)],.tok 2 (T i),.box [.d (.s []),.bS (0,5) (T i)]]::S)
  (fun i=>i≤x.aL.length) (fun i=>x.aL.length-i) 0 rfl (by simp only[hT0]<;>(try rfl)) (Nat.zero_le _) ?_
 intro i hi
 have hl:=ig i
 refine W1 ?_
 refine S0 (fun hb h=>?_) fun hb h=>?_
 ·have hi':i<x.aL.length:=by omega
  have hm:=List.getElem_mem hi'
  have hcz:=zD hm
  have hce:=bH.sum x.aL[i]
  rw[dN] at hce
  have hst:=hTs i hi'
  refine W3 ?_
  refine C1 (cK _) ?_
  refine C1 (eO x.aL[i].aA (by omega)) ?_
  refine C1 (tJ x.aL[i].fBody (Dk _ hm) (by omega)) ?_
  refine C1 (nD _ (by simp) (by simp)) ?_
  refine W3 ?_
  rw[hst]
  exact dh 7 (by decide) (i+1) (by omega) rfl rfl rfl rfl (by omega)
 ·have hi':i=x.aL.length:=by omega
  subst hi'
  rw[hTe]
  refine C1 (rW true (wL x) (by omega)) ?_
  rfl
set_option maxHeartbeats 4000000 in
theorem ad8(x:aQ)(hv:fH x=true)(hsz:x.sz≤1048576)(ha:x.gy=false)(hs:x.dW=true):aI Tryz.prog 149 [x.v] (Ck (wL x)).v:=fun S=>by
 have hdz:=aQ.sum x
 rw[dN] at hdz
 obtain⟨hf1,hf2,hf3,Dk⟩:=nU hv
 have hz:=H8 hv
 have hfl:j5 x=[]:=by unfold j5;rw[ha];rfl
 have has:j6 x=[dw x.bK]:=by unfold j6;rw[hs];rfl
 obtain⟨T,hT⟩:∃T:Nat→List (List D),T=fun i=>(nk x++(x.aL.map oz).take i).map aj.enc:=⟨_,rfl⟩
 have hT0:T 0=[[.s kL,.sl []],[.s x.bL,.sl []],[.s [],.sl ((aV x.aA).map aj.enc)],[.s (dw x.bM).bf,.sl ((dw x.bM).ah.map aj.enc)],[.s [],.sl ((x.bn.map qp).map aj.enc)],[.s [],.sl ((aV []).map aj.enc)],[.s [],.sl [[.s (dw x.bK).bf,.sl ((dw x.bK).ah.map aj.enc)]]]]:=by
  rw[hT];simp only[List.take_zero,List.append_nil,nk,hfl,has,List.map_cons,List.map_nil,fM,j3,aj.aD (dw x.bM),aj.aD (dw x.bK)]
 have ig:∀i,(T i).length≤i+7:=fun i=>by
  rw[hT];simp only[List.length_map,List.length_append]
  have:=List.length_take_le i (x.aL.map oz)
  simp[nk];omega
 have hTs:∀i (hi:i<x.aL.length),T i++[[.s [],.sl [[.s x.aL[i].fName,.sl []],[.s [],.sl ((aV x.aL[i].aA).map aj.enc)],[.s (fB x.aL[i].fBody).bf,.sl ((fB x.aL[i].fBody).ah.map aj.enc)]]]]=T (i+1):=fun i hi=>by
  have:=jI (base:=nk x) (l:=x.aL.map oz) (i:=i) (by rw[List.length_map];exact hi)
  rw[List.getElem_map,oz,eu,dJ] at this
  simp only[List.map_cons,List.map_nil,fM,j3,aj.aD (fB x.aL[i].fBody)] at this
  rw[hT];exact this
 have hTr:∀i,∀r∈T i,r.length=2:=fun i=>by rw[hT];exact gT
 have hTe:T x.aL.length=(wL x).ah.map aj.enc:=by
  rw[hT];simp only
  rw[List.take_of_length_le (by simp)];rfl
 clear hT
 refine aG (rs:=[.cell 2 37]) Tryz.checked.mixed Tryz.func149 Tryz.ntmps149 rfl rfl rfl rfl rfl ?_
 refine W1 ?_
 refine aZ (oP x (by omega)) ?_
 simp -implicitDefEqProofs (disch:=omega) only[go_sem,hv,ha,hs]
 refine W3 ?_
 refine C1 (lW x.bK (by omega)) ?_
 refine W3 ?_
 refine C1 (nD _ (by simp) (by simp)) ?_
 refine W3 ?_
 refine C1 (cK _) ?_
 refine C1 (cK _) ?_
 refine C1 (eO x.aA (by omega)) ?_
 refine C1 (lW x.bM (by omega)) ?_
 refine C1 (vY x.bn (by omega) (fun b hb=>by have:=qo hb;omega)) ?_
 refine C1 (eO [] (by simp)) ?_
 have hE:=fun bZ Ω=>kU (T 0) (hTr 0) (by have:=ig 0;omega) bZ Ω
 simp only[hT0] at hE
 refine pJ [false] rfl (hE _ _) ?_
 refine W1 ?_
 refine aT (ι:=Nat) Tryz.checked.mixed rfl [1,2,5,6] (fun i=>[.c (.ptr (0,0) 0),.c (.ptr (0,1) 0),.c (.ptr (0,5) 0),.c (.d (.i .i64 i))])
  (fun i=>[.box [.d (.s x.bL),.d (.sl (x.aA.map encS)),.d (.i .i64 x.bM.aK),.d (.s x.bM.fName),.d (.sl (x.bM.fArgs.map au.enc)),.d (.sl (x.bn.map aO.enc)),.d (.b false),.d (.b true),.d (.i .i64 x.bK.aK),.d (.s x.bK.fName),.d (.sl (x.bK.fArgs.map au.enc)),.d (.sl (x.aL.map bH.enc))],.box [.d (.s []),.bO []],.box [.d (.s []),.d (.sl [[.s (dw x.bK).bf,.sl ((dw x.bK).ah.map aj.enc)]])],.box [.d (.s []),.bS (0,4) (T 0)],.tok 2 (T i),.box [.d (.s []),.bS (0,4) (T i)]]::S)
  (fun i=>i≤x.aL.length) (fun i=>x.aL.length-i) 0 rfl (by simp only[hT0]<;>(try rfl)) (Nat.zero_le _) ?_
 intro i hi
 have hl:=ig i
 refine W1 ?_
 refine S0 (fun hb h=>?_) fun hb h=>?_
 ·have hi':i<x.aL.length:=by omega
  have hm:=List.getElem_mem hi'
  have hcz:=zD hm
  have hce:=bH.sum x.aL[i]
  rw[dN] at hce
  have hst:=hTs i hi'
  refine W3 ?_
  refine C1 (cK _) ?_
  refine C1 (eO x.aL[i].aA (by omega)) ?_
  refine C1 (tJ x.aL[i].fBody (Dk _ hm) (by omega)) ?_
  refine C1 (nD _ (by simp) (by simp)) ?_
  refine W3 ?_
  rw[hst]
  exact dh 6 (by decide) (i+1) (by omega) rfl rfl rfl rfl (by omega)
 ·have hi':i=x.aL.length:=by omega
  subst hi'
  rw[hTe]
  refine C1 (rW true (wL x) (by omega)) ?_
  rfl
set_option maxHeartbeats 4000000 in
theorem ad9(x:aQ)(hv:fH x=true)(hsz:x.sz≤1048576)(ha:x.gy=false)(hs:x.dW=false):aI Tryz.prog 149 [x.v] (Ck (wL x)).v:=fun S=>by
 have hdz:=aQ.sum x
 rw[dN] at hdz
 obtain⟨hf1,hf2,hf3,Dk⟩:=nU hv
 have hz:=H8 hv
 have hfl:j5 x=[]:=by unfold j5;rw[ha];rfl
 have has:j6 x=[]:=by unfold j6;rw[hs];rfl
 obtain⟨T,hT⟩:∃T:Nat→List (List D),T=fun i=>(nk x++(x.aL.map oz).take i).map aj.enc:=⟨_,rfl⟩
 have hT0:T 0=[[.s kL,.sl []],[.s x.bL,.sl []],[.s [],.sl ((aV x.aA).map aj.enc)],[.s (dw x.bM).bf,.sl ((dw x.bM).ah.map aj.enc)],[.s [],.sl ((x.bn.map qp).map aj.enc)],[.s [],.sl ((aV []).map aj.enc)],[.s [],.sl []]]:=by
  rw[hT];simp only[List.take_zero,List.append_nil,nk,hfl,has,List.map_cons,List.map_nil,fM,j3,aj.aD (dw x.bM),aj.aD (dw x.bK)]
 have ig:∀i,(T i).length≤i+7:=fun i=>by
  rw[hT];simp only[List.length_map,List.length_append]
  have:=List.length_take_le i (x.aL.map oz)
  simp[nk];omega
 have hTs:∀i (hi:i<x.aL.length),T i++[[.s [],.sl [[.s x.aL[i].fName,.sl []],[.s [],.sl ((aV x.aL[i].aA).map aj.enc)],[.s (fB x.aL[i].fBody).bf,.sl ((fB x.aL[i].fBody).ah.map aj.enc)]]]]=T (i+1):=fun i hi=>by
  have:=jI (base:=nk x) (l:=x.aL.map oz) (i:=i) (by rw[List.length_map];exact hi)
  rw[List.getElem_map,oz,eu,dJ] at this
  simp only[List.map_cons,List.map_nil,fM,j3,aj.aD (fB x.aL[i].fBody)] at this
  rw[hT];exact this
 have hTr:∀i,∀r∈T i,r.length=2:=fun i=>by rw[hT];exact gT
 have hTe:T x.aL.length=(wL x).ah.map aj.enc:=by
  rw[hT];simp only
  rw[List.take_of_length_le (by simp)];rfl
 clear hT
 refine aG (rs:=[.cell 2 37]) Tryz.checked.mixed Tryz.func149 Tryz.ntmps149 rfl rfl rfl rfl rfl ?_
 refine W1 ?_
 refine aZ (oP x (by omega)) ?_
 simp -implicitDefEqProofs (disch:=omega) only[go_sem,hv,ha,hs]
 refine W3 ?_
 refine C1 (cK _) ?_
 refine C1 (cK _) ?_
 refine C1 (eO x.aA (by omega)) ?_
 refine C1 (lW x.bM (by omega)) ?_
 refine C1 (vY x.bn (by omega) (fun b hb=>by have:=qo hb;omega)) ?_
 refine C1 (eO [] (by simp)) ?_
 have hE:=fun bZ Ω=>kU (T 0) (hTr 0) (by have:=ig 0;omega) bZ Ω
 simp only[hT0] at hE
 refine pJ [false] rfl (hE _ _) ?_
 refine W1 ?_
 refine aT (ι:=Nat) Tryz.checked.mixed rfl [1,2,5,6] (fun i=>[.c (.ptr (0,0) 0),.c (.ptr (0,1) 0),.c (.ptr (0,5) 0),.c (.d (.i .i64 i))])
  (fun i=>[.box [.d (.s x.bL),.d (.sl (x.aA.map encS)),.d (.i .i64 x.bM.aK),.d (.s x.bM.fName),.d (.sl (x.bM.fArgs.map au.enc)),.d (.sl (x.bn.map aO.enc)),.d (.b false),.d (.b false),.d (.i .i64 x.bK.aK),.d (.s x.bK.fName),.d (.sl (x.bK.fArgs.map au.enc)),.d (.sl (x.aL.map bH.enc))],.box [.d (.s []),.bO []],.box [.d (.s []),.bO []],.box [.d (.s []),.bS (0,4) (T 0)],.tok 2 (T i),.box [.d (.s []),.bS (0,4) (T i)]]::S)
  (fun i=>i≤x.aL.length) (fun i=>x.aL.length-i) 0 rfl (by simp only[hT0]<;>(try rfl)) (Nat.zero_le _) ?_
 intro i hi
 have hl:=ig i
 refine W1 ?_
 refine S0 (fun hb h=>?_) fun hb h=>?_
 ·have hi':i<x.aL.length:=by omega
  have hm:=List.getElem_mem hi'
  have hcz:=zD hm
  have hce:=bH.sum x.aL[i]
  rw[dN] at hce
  have hst:=hTs i hi'
  refine W3 ?_
  refine C1 (cK _) ?_
  refine C1 (eO x.aL[i].aA (by omega)) ?_
  refine C1 (tJ x.aL[i].fBody (Dk _ hm) (by omega)) ?_
  refine C1 (nD _ (by simp) (by simp)) ?_
  refine W3 ?_
  rw[hst]
  exact dh 6 (by decide) (i+1) (by omega) rfl rfl rfl rfl (by omega)
 ·have hi':i=x.aL.length:=by omega
  subst hi'
  rw[hTe]
  refine C1 (rW true (wL x) (by omega)) ?_
  rfl
theorem aea(x:aQ)(hsz:x.sz≤1048576):aI Tryz.prog 149 [x.v] (Tv x).v:=by
 unfold Tv
 cases hv:fH x with
 |false=>
  rw[vO]
  refine aI.less (fun S=> ?_) (Et [] [])
  refine aG (rs:=[.cell 2 37]) Tryz.checked.mixed Tryz.func149 Tryz.ntmps149 rfl rfl rfl rfl rfl ?_
  refine W1 ?_
  refine aZ (oP x (by omega)) ?_
  simp -implicitDefEqProofs (disch:=omega) only[go_sem,hv]
 |true=>
  rw[vO]
  cases ha:x.gy with
  |true=>
   cases hs:x.dW with
   |true=>exact ad6 x hv hsz ha hs
   |false=>exact ad7 x hv hsz ha hs
  |false=>
   cases hs:x.dW with
   |true=>exact ad8 x hv hsz ha hs
   |false=>exact ad9 x hv hsz ha hs
end Go.Proofs.YtocpgjlbagncjaaGreatDoor
namespace Go.Ab
def rX(b:Bool)(y:aj):bH:=if b=true∧y.ah.length≠3 then⟨[],[],lG⟩ else⟨dM y.ah 0,nY y.ah 1,eZ b (gX y.ah 2)⟩
def zG(b:Bool)(x:aj):aQ:=
 ⟨dM x.ah 1,nY x.ah 2,dO b (gX x.ah 3),(gX x.ah 4).ah.map (nR b),decide (0<(gX x.ah 5).ah.length),decide (0<(gX x.ah 6).ah.length),
   if 0<(gX x.ah 6).ah.length then dO b (gX (gX x.ah 6).ah 0) else iV,(x.ah.drop 7).map (rX b)⟩
theorem aa9{vars:List (List UInt8)}{e:ay}(h:mX vars e=true):∀v∈vars,v≠[]:=by
 unfold mX at h
 rw[Bool.and_eq_true] at h
 exact zx h.1
theorem aeb(b:Bool){m:bH}(h:mX m.aA m.fBody=true):rX b (oz m)=m:=by
 unfold rX
 rw[if_neg (by simp[oz,dJ])]
 show bH.mk m.fName (fq (aV m.aA)) (eZ b (fB m.fBody))=m
 rw[pX (aa9 h),Ez b _ (Dj h)]
theorem inst_more{x:aQ}(h:fH x=true):(∀v∈x.aA,v≠[])∧(x.dW=false→x.bK=iV)∧(∀m∈x.aL,mX m.aA m.fBody=true):=by
 unfold fH uJ at h
 simp only[Bool.and_eq_true] at h
 obtain⟨⟨_,_,h0,h1,_,_,_,h2,h3,_⟩,h4,_⟩:=h
 refine⟨zx h0,fun ha=> ?_,fun m hm=> ?_⟩
 ·rw[if_neg (by rw[ha];decide)] at h3;exact rH (gH h3)
 ·have h5:=List.all_eq_true.1 h4 m hm
  unfold mF at h5
  simp only[Bool.and_eq_true] at h5
  exact h5.2.2
theorem NS(b:Bool){x:aQ}(h:fH x=true):zG b (wL x)=x:=by
 obtain⟨h1,h2,h3,h4⟩:=nU h
 obtain⟨g1,g2,g3⟩:=inst_more h
 show aQ.mk x.bL (fq (aV x.aA)) (dO b (dw x.bM)) ((x.bn.map qp).map (nR b)) (decide (0<(aV (j5 x)).length)) (decide (0<(j6 x).length)) (if 0<(j6 x).length then dO b (gX (j6 x) 0) else iV) ((x.aL.map oz).map (rX b))=x
 rw[pX g1,wF b _ h1,CF fun c hc=>Wm b (h2 c hc),CF fun c hc=>aeb b (g3 c hc),jH]
 have e1:decide (0<(j5 x).length)=x.gy:=by unfold j5;cases x.gy<;>rfl
 rw[e1]
 unfold j6
 cases ha:x.dW with
 |true=>
  rw[if_pos rfl]
  show aQ.mk _ _ _ _ _ true (dO b (dw x.bK)) _=x
  rw[wF b _ (h3 ha),←ha]
 |false=>
  rw[if_neg (by decide)]
  show aQ.mk _ _ _ _ _ false iV _=x
  rw[←g2 ha,←ha]
noncomputable def yu(x:aj):Bool:=dec (iI x=true∧(7≤x.ah.length∧dM x.ah 0=kL)∧fH (zG true x)=true∧wL (zG true x)=x)
theorem aec{x:aj}(hx:x.ah≠[]):yu x=(iI x&&dec (Tv (zG false x)=x)):=
 Tp hx (fun a h1 h2=>by rw[←h2];exact⟨NS true h1,NS false h1⟩) fun a h=>by rw[←h];exact⟨by rw[wL,dJ];simp[nk],rfl⟩
theorem aed{x:aj}(h:yu x=true):zG false x=zG true x:=by
 have h1:=gH h
 conv=>lhs;rw[←h1.2.2.2]
 exact NS false h1.2.2.1
def IZ:aQ:=⟨[],[],iV,[],false,false,iV,[]⟩
noncomputable def qE(x:aj):aQ:=if yu x=true then zG true x else IZ
theorem aee(b:Bool)(y:aj):(rX b y).sz≤y.sz:=by
 have h1:=CB y.ah
 have h2:=pY y
 have h3:=pY (gX y.ah 0)
 have h4:=qP (gX y.ah 1).ah
 have h4':=pY (gX y.ah 1)
 have h5:=BI b (gX y.ah 2)
 unfold rX
 split
 ·simp only[bH.sz,bH.aD,cu,bN,D.sz,ay.dZ,yh,List.map_nil,bD,List.length_nil];omega
 ·simp only[bH.sz,bH.aD,cu,bN,D.sz,ay.dZ,List.length_map,nY,dN,Dl];omega
theorem Pb(b:Bool):∀l:List aj,bD ((l.map (rX b)).map bH.enc)≤dQ l
 |[]=>by simp[bD]
 |y::l=>by
  have h1:=aee b y
  have h2:=Pb b l
  rw[List.map_cons,List.map_cons,bD,dQ];simp only[bH.sz] at h1;omega
theorem NT(b:Bool)(x:aj):(zG b x).sz≤x.sz:=by
 have h1:=Aw x.ah
 have h2:=pY x
 have h3:=pY (gX x.ah 1)
 have h4:=qP (gX x.ah 2).ah
 have h4':=pY (gX x.ah 2)
 have h5:=yg b (gX x.ah 3)
 have h6:=Kq b (gX x.ah 4).ah
 have h6':=pY (gX x.ah 4)
 have h7:(if 0<(gX x.ah 6).ah.length then dO b (gX (gX x.ah 6).ah 0) else iV).sz≤(gX x.ah 6).sz:=by
  have a1:=pY (gX x.ah 6)
  have a2:=CB (gX x.ah 6).ah
  have a3:=yg b (gX (gX x.ah 6).ah 0)
  split
  ·omega
  ·rw[Au];omega
 have h8:=Pb b (x.ah.drop 7)
 generalize hz:(if 0<(gX x.ah 6).ah.length then dO b (gX (gX x.ah 6).ah 0) else iV)=z at h7
 simp only[aQ.sz,aQ.aD,cu,bN,D.sz,au.dZ,zG,hz,List.length_map,List.length_drop,nY,dN,Dl]
 omega
end Go.Ab
namespace Go.Ab
noncomputable def lN(t:bC):List (List UInt8):=t.aC.map aN.fName
noncomputable def wH(t:bC):Prop:=t.kY=true∧(t.bK=true∨0<t.aC.length∨0<t.bF.length)
noncomputable def dP(t:bC):Bool:=
 validName t.fName&&(dec (t.bF.length≤4)&&(iL t.bF&&(dec (t.aC.length≤6)&&(!dec (wH t)&&(t.aC.all iG&&dec (lN t).Nodup)))))
theorem bC.sum(x:bC):x.fName.length+(x.bF.length+bD (x.bF.map encS))+(x.aC.length+bD (x.aC.map aN.enc))≤x.sz:=by
 simp only[bC.sz,bC.aD,cu,bN,D.sz,List.length_map]
 omega
theorem yw{xs:List aN}{t:aN}(h:t∈xs):t.sz≤bD (xs.map aN.enc):=dA (List.mem_map_of_mem h)
theorem YS{g:aN}(h:iG g=true):validName g.fName=true:=by
 unfold iG at h
 rw[Bool.and_eq_true] at h
 exact h.1
theorem Vm{t:bC}(h:t.aC.all iG=true):(lN t).all validName=true:=by
 unfold lN
 rw[List.all_map]
 refine List.all_eq_true.2 fun g hg=>YS (List.all_eq_true.1 h g hg)
end Go.Ab
namespace Go.Proofs.YtocpgjlbagncjaaGreatDoor
open Go Go.Ab
theorem Bg(t:bC)(hsz:t.sz≤4194304):aI Tryz.prog 98 [t.v] (.c (.d (.b (dP t)))):=fun S=>by
 have hs:=bC.sum t
 have hV:∀s∈t.bF,s.length≤4194304:=fun s h=>by have:=rU h;omega
 have hG:∀g∈t.aC,g.sz≤4194304:=fun g h=>by have:=yw h;omega
 refine(show Hold ((validName t.fName=true∧t.bF.length≤4∧iL t.bF=true∧t.aC.length≤6∧¬wH t)→ ?T)→_ from fun tail=> ?main) ?tp
 case' main=>
  refine aG (rs:=[.tmp 2]) Tryz.checked.mixed Tryz.func98 Tryz.ntmps98 rfl rfl rfl rfl rfl ?_
  refine W1 ?_
  refine C2 (iD t.fName (by omega)) ?_
  refine S0 (fun hb h=>?_) fun hb h=>?_
  ·exact aB (by unfold dP;rw[h];rfl)
  have h1:=h
  refine S0 (fun hb h=>?_) fun hb h=>?_
  ·exact aB (by unfold dP;rw[aF (show ¬t.bF.length≤4 by omega)];simp)
  have h2:=h
  refine W3 ?_
  refine C2 (oW t.bF (by omega) hV) ?_
  refine S0 (fun hb h=>?_) fun hb h=>?_
  ·exact aB (by unfold dP;rw[h];simp)
  have h3:=h
  refine S0 (fun hb h=>?_) fun hb h=>?_
  ·exact aB (by unfold dP;rw[aF (show ¬t.aC.length≤6 by omega)];simp)
  have h4:=h
  have bad:wH t→V.c (.d (.b false))=V.c (.d (.b (dP t))):=fun h=>aB (by unfold dP;rw[bA h];simp)
  have pre:¬wH t→(validName t.fName=true∧t.bF.length≤4∧iL t.bF=true∧t.aC.length≤6∧¬wH t):=fun h=>⟨h1,by omega,h3,by omega,h⟩
  repeat' (first|refine S0 (fun hb h=>?_) fun hb h=>?_)
  all_goals first
   |(refine bad ⟨by assumption,?_⟩;first|exact .inl (by assumption)|exact .inr (.inl (by omega))|exact .inr (.inr (by omega)))
   |skip
  all_goals
   have na:¬wH t:=fun x=>by
    obtain⟨x1,x2⟩:=x
    rcases x2 with x2|x2|x2<;>first|omega|simp_all
   refine W3 ?_
   refine mR 3 1 [] rfl (by simp) ?_
   refine nN (st':=[.box (t.enc.map .d),.tok 1 []]::S) [3,48,49,50] [.c (.bS (0,1) []),.c (.d (.sl (t.aC.map aN.enc))),.c (.d (.i .i64 t.aC.length)),.c (.d (.i .i64 0))] ?_ ?_ ?_
   ·rfl
   ·first|(refine W1 ?_;done)|(refine W1 ?_;simp[*])
   ·exact tail.out (pre na)
 refine⟨fun hp=> ?_⟩
 obtain⟨h1,h2,h3,h4,h5⟩:=hp
 have bad:∀i,∀hi:i<t.aC.length,iG t.aC[i]=false→dP t=false:=fun i hi h=>by
  have:t.aC.all iG=false:=Bool.eq_false_iff.2 fun hx=>by
   rw[List.all_eq_true.1 hx _ (List.getElem_mem hi)] at h;cases h
  unfold dP
  rw[this];simp
 refine aT (ι:=Nat×List (List UInt8)) Tryz.checked.mixed rfl [3,48,49,50] (fun y=>[.c (.bS (0,1) (y.2.map encS)),.c (.d (.sl (t.aC.map aN.enc))),.c (.d (.i .i64 t.aC.length)),.c (.d (.i .i64 y.1))]) (fun y=>[.box (t.enc.map .d),.tok 1 (y.2.map encS)]::S)
  (fun y=>y.1≤t.aC.length∧y.2=(lN t).take y.1∧∀j,∀hj:j<t.aC.length,j<y.1→iG t.aC[j]=true) (fun y=>t.aC.length-y.1) (0,[]) rfl ?_ ⟨Nat.zero_le _,rfl,fun j _ h=>by simp only at h;omega⟩ ?_
 ·exact Z1
 rintro⟨i,names⟩ ⟨p1,p2,p3⟩
 simp only at p1 p2 p3
 have pl:names.length≤t.aC.length:=by rw[p2];simp[lN];omega
 refine W1 ?_
 refine S0 (fun hb h=>?_) fun hb h=>?_
 ·have hi:i<t.aC.length:=by omega
  refine W3 ?_
  refine C2 (NK t.aC[i] (hG _ (List.getElem_mem hi))) ?_
  refine S0 (fun hb h=>?_) fun hb h=>?_
  ·rw[bad i hi h]
  have k2:=h
  refine W3 ?_
  rw[show List.map encS names++[[D.s t.aC[i].fName]]=List.map encS (names++[t.aC[i].fName]) by simp[encS]]
  exact dh 2 (by decide) (i+1,names++[t.aC[i].fName]) (by simp only;omega) rfl rfl rfl rfl ⟨by simp only;omega,by simp only;rw[p2,iR (by simpa [lN] using hi)];simp[lN],fun j hj hji=>by
   simp only at hji
   by_cases e:j=i
   ·subst e;exact k2
   ·exact p3 j hj (by omega)⟩
 have hi:i=t.aC.length:=by omega
 have hn:names=lN t:=by rw[p2,List.take_of_length_le (by simp[lN];omega)]
 have hall:t.aC.all iG=true:=List.all_eq_true.2 fun c hc=>by
  obtain⟨j,hj,e⟩:=List.getElem_of_mem hc
  rw[←e];exact p3 j hj (by omega)
 refine C2 (qj names (by omega)) ?_
 exact aB (by unfold dP;rw[h1,h3,hall,←hn,bA h2,bA h4,aF h5];simp)
theorem qG(t:bC)(hsz:t.sz≤4194304):aI Tryz.prog 154 [t.v] (.c (.d (.b (dP t)))):=fun S=>by
 have hs:=bC.sum t
 have hV:∀s∈t.bF,s.length≤4194304:=fun s h=>by have:=rU h;omega
 have hG:∀g∈t.aC,g.sz≤4194304:=fun g h=>by have:=yw h;omega
 have bad:∀i,∀hi:i<t.aC.length,iG t.aC[i]=false→dP t=false:=fun i hi h=>by
  have:t.aC.all iG=false:=Bool.eq_false_iff.2 fun hx=>by
   rw[List.all_eq_true.1 hx _ (List.getElem_mem hi)] at h;cases h
  unfold dP
  rw[this];simp
 have alA:wH t→V.c (.d (.b false))=V.c (.d (.b (dP t))):=fun h=>aB (by unfold dP;rw[bA h];simp)
 refine aG (rs:=[.tmp 2]) Tryz.checked.mixed Tryz.func154 Tryz.ntmps154 rfl rfl rfl rfl rfl ?_
 refine W1 ?_
 refine W3 ?_
 refine mR 3 1 [] rfl (by simp) ?_
 refine aT (ι:=Nat×List (List UInt8)) Tryz.checked.mixed rfl [1,3,4] (fun y=>[.c (.ptr (0,0) 0),.c (.bS (0,1) (y.2.map encS)),.c (.d (.i .i64 y.1))]) (fun y=>[.box (t.enc.map .d),.tok 1 (y.2.map encS)]::S)
  (fun y=>y.1≤t.aC.length∧y.2=(lN t).take y.1∧∀j,∀hj:j<t.aC.length,j<y.1→iG t.aC[j]=true) (fun y=>t.aC.length-y.1) (0,[]) rfl ?_ ⟨Nat.zero_le _,rfl,fun j _ h=>by simp only at h;omega⟩ ?_
 ·exact Z1
 rintro⟨i,names⟩ ⟨p1,p2,p3⟩
 simp only at p1 p2 p3
 have pl:names.length≤t.aC.length:=by rw[p2];simp[lN];omega
 refine W1 ?_
 refine S0 (fun hb h=>?_) fun hb h=>?_
 ·have hi:i<t.aC.length:=by omega
  refine W3 ?_
  refine C2 (aa1 t.aC[i] (hG _ (List.getElem_mem hi))) ?_
  refine S0 (fun hb h=>?_) fun hb h=>?_
  ·rw[bad i hi h]
  have k2:=h
  refine W3 ?_
  rw[show List.map encS names++[[D.s t.aC[i].fName]]=List.map encS (names++[t.aC[i].fName]) by simp[encS]]
  exact bP (i+1,names++[t.aC[i].fName]) (by simp only;omega) rfl rfl ⟨by simp only;omega,by simp only;rw[p2,iR (by simpa [lN] using hi)];simp[lN],fun j hj hji=>by
   simp only at hji
   by_cases e:j=i
   ·subst e;exact k2
   ·exact p3 j hj (by omega)⟩
 have hi:i=t.aC.length:=by omega
 have hn:names=lN t:=by rw[p2,List.take_of_length_le (by simp[lN];omega)]
 have hall:t.aC.all iG=true:=List.all_eq_true.2 fun c hc=>by
  obtain⟨j,hj,e⟩:=List.getElem_of_mem hc
  rw[←e];exact p3 j hj (by omega)
 have KR:=Vm hall
 have hnl:∀s∈names,s.length≤4194304:=fun s hm=>by
  rw[hn] at hm
  obtain⟨g,hg,e⟩:=List.mem_map.1 hm
  have:=hG g hg
  have:=aN.sum g
  rw[←e]
  omega
 have hlen:names.length=t.aC.length:=by rw[hn];simp[lN]
 clear bad p2 p3
 repeat' (first|refine S0 (fun hb h=>?_) fun hb h=>?_)
 all_goals first
  |(refine alA ⟨by assumption,?_⟩;first|exact .inl (by assumption)|exact .inr (.inl (by omega))|exact .inr (.inr (by omega)))
  |skip
 all_goals
  have na:¬wH t:=fun x=>by
   obtain⟨x1,x2⟩:=x
   rcases x2 with x2|x2|x2<;>first|omega|simp_all
  refine W3 ?_
  refine C1 (iE t.fName (by omega)) ?_
  refine S0 (fun hb h=>?_) fun hb h=>?_
  ·have h1:=h
   refine W3 ?_
   refine C2 (mD t.bF 4 (by omega) hV) ?_
   refine S0 (fun hb h=>?_) fun hb h=>?_
   ·have h2:=h
    rw[Bool.and_eq_true] at h2
    have h3:=gH h2.1
    refine C2 (mD names 6 (by omega) hnl) ?_
    refine aB ?_
    unfold dP
    rw[h1,h2.2,hall,aF na,bA (show t.bF.length≤4 by omega),hlen]
    unfold iL
    rw[hn,KR,Bool.and_true]
    simp only[Bool.true_and,Bool.not_false]
    congr 1
    exact iq ⟨fun h=>by omega,fun h=>by omega⟩
   ·refine aB ?_
    unfold dP
    have h2:(dec (t.bF.length≤4)&&iL t.bF)=false:=by
     rw[←h];congr 1;exact iq ⟨fun h=>by omega,fun h=>by omega⟩
    rw[←Bool.and_assoc (dec (t.bF.length≤4)),h2];simp
  ·exact aB (by unfold dP;rw[h];rfl)
end Go.Proofs.YtocpgjlbagncjaaGreatDoor
namespace Go.Ab
def sM:List UInt8:=[97,117,116,111]
def jV:List UInt8:=[116,114,97,105,116]
def kV(t:bC):List (List UInt8):=(if t.kY=true then [sM] else [])++(if t.bK=true then [iO] else [])
def nV(g:aN):aj:=bY ([bT g.fName,bY (g.aJ.map dw),dw g.aU]++if g.gF=true then [bY (aV g.aA),fB g.fBody] else [])
theorem I4(n:Nat)(es:List (List D)):Less (.c (.d (.ol n es))) (.c (.d (.sl es))):=fun w σ S β v h=>⟨sP h.1,h.2⟩
def jh(t:bC):List aj:=[bT jV,bT t.fName,bY (aV t.bF),bY (aV (kV t))]
def qM(t:bC):aj:=bY (jh t++t.aC.map nV)
noncomputable def MG(x:bC):aj:=vO (dP x) (qM x)
theorem aef{x:bC}(h:x.sz≤1048576):(MG x).sz≤1048576:=Nat.le_trans (IJ _ _) (by decide)
theorem zH{g:aN}(h:g.gF=true):(nV g).ah=[bT g.fName,bY (g.aJ.map dw),dw g.aU,bY (aV g.aA),fB g.fBody]:=by rw[nV,if_pos h];rfl
theorem zI{g:aN}(h:g.gF=false):(nV g).ah=[bT g.fName,bY (g.aJ.map dw),dw g.aU]:=by rw[nV,if_neg (by rw[h];decide)];rfl
theorem zJ(g:aN):(nV g).bf=[]:=rfl
theorem qU{g:aN}(h:iG g=true):iZ g.aJ=true∧formed g.aU=true∧(g.gF=true→iT g.fBody=true):=by
 unfold iG at h
 simp only[Bool.and_eq_true] at h
 obtain⟨_,_,h1,h2,h3⟩:=h
 refine⟨xJ h1,vv h2,fun hd=> ?_⟩
 rw[if_pos hd,Bool.and_eq_true] at h3
 exact Dj h3.2
theorem ahV(g:aN)(hok:iG g=true):(nV g).sz≤48+32*g.sz:=by
 obtain⟨_,_,hb⟩:=qU hok
 have h1:=Lg g.aJ
 have h2:=Aj g.aU
 have h3:=aN.sum g
 rw[dN,zq] at h3
 by_cases hd:g.gF=true
 ·have h4:=Hu g.fBody (hb hd)
  rw[nV,if_pos hd,ku]
  simp[dQ,kr,ku,jH,rR];omega
 ·rw[nV,if_neg hd,ku]
  simp[dQ,kr,ku,jH,rR];omega
theorem Wn:∀l:List aN,(∀g∈l,iG g=true)→dQ (l.map nV)≤48*l.length+32*bD (l.map aN.enc)
 |[],_=>by simp[dQ]
 |c::l,h=>by
  have h1:=ahV c (h c (List.mem_cons_self ..))
  have h2:=Wn l fun g hg=>h g (List.mem_cons_of_mem _ hg)
  rw[List.map_cons,dQ,List.map_cons,bD,List.length_cons];simp only[aN.sz] at h1;omega
theorem jw{t:bC}(h:dP t=true):(∀g∈t.aC,iG g=true)∧¬(t.kY=true∧t.bK=true):=by
 unfold dP at h
 simp only[Bool.and_eq_true,Bool.not_eq_true'] at h
 obtain⟨_,_,_,_,h1,h2,_⟩:=h
 refine⟨fun g hg=>List.all_eq_true.1 h2 g hg,fun hh=> ?_⟩
 rw[bA (show wH t from⟨hh.1,.inl hh.2⟩)] at h1
 cases h1
theorem abb(t:bC):(kV t).length≤2∧((kV t).map List.length).sum≤9:=by
 unfold kV;split<;>split<;>simp[sM,iO]
theorem I5{t:bC}(hok:dP t=true):(qM t).sz≤64+49*t.sz:=by
 have h1:=Wn t.aC (jw hok).1
 have h2:=abb t
 have h3:=bC.sum t
 rw[dN] at h3
 rw[qM,ku,kZ,List.length_append,List.length_map]
 simp[jh,dQ,kr,ku,jH,rR,jV];omega
theorem DW(n:Nat)(a b:List UInt8)(w v:List (List UInt8)):lx [bT a,bT b,bY (aV w),bY (aV v)] (n+1)=[[.s a,.ol (n+1) []],[.s b,.ol (n+1+1) []],[.s [],.ol (n+1+1+1) (lx (aV w) (n+1+1+1+1))],[.s [],.ol (n+1+1+1+dS (bY (aV w))) (lx (aV v) (n+1+1+1+dS (bY (aV w))+1))]]:=by
 simp only[jO,mV,jW,kG,kH,eu,dJ,jU]
end Go.Ab
namespace Go.Proofs.YtocpgjlbagncjaaGreatDoor
open Go Go.Ab
theorem Vn(t:bC)(n:Nat)(hv:dP t=true)(hsz:t.sz≤1048576)(ha:t.kY=true)(hs:t.bK=false):aI Tryz.prog 162 [t.v] (.agg [.d (.s []),.d (.ol n (lx (qM t).ah (n+1)))]):=fun S=>by
 have hdz:=bC.sum t
 rw[dN] at hdz
 obtain⟨hso,_⟩:=jw hv
 have hfl:kV t=[sM]:=by unfold kV;rw[ha,hs];rfl
 obtain⟨L,hL⟩:∃L:Nat→Nat,L=fun i=>n+1+jq (jh t++(t.aC.map nV).take i):=⟨_,rfl⟩
 obtain⟨T,hT⟩:∃T:Nat→List (List D),T=fun i=>lx (jh t++(t.aC.map nV).take i) (n+1):=⟨_,rfl⟩
 have hT0:T 0=[[.s jV,.ol (n+1) []],[.s t.fName,.ol (n+1+1) []],[.s [],.ol (n+1+1+1) (lx (aV t.bF) (n+1+1+1+1))],[.s [],.ol (n+1+1+1+dS (bY (aV t.bF))) (lx (aV [sM]) (n+1+1+1+dS (bY (aV t.bF))+1))]]:=by
  rw[hT];simp only[List.take_zero,List.append_nil,jh,hfl];exact DW _ _ _ _ _
 have ig:∀i,(T i).length≤i+4:=fun i=>by
  rw[hT];simp only[iw,List.length_append]
  have:=List.length_take_le i (t.aC.map nV)
  simp[jh];omega
 have hTs:∀i (hi:i<t.aC.length),T i++[[.s [],.ol (L i) (lx (nV t.aC[i]).ah (L i+1))]]=T (i+1):=fun i hi=>by
  have:=zw (base:=jh t) (l:=t.aC.map nV) (i:=i) (by rw[List.length_map];exact hi) (n+1)
  rw[List.getElem_map,zJ] at this
  rw[hT,hL];exact this
 have hTr:∀i,∀r∈T i,r.length=2:=fun i=>by rw[hT];exact lq
 have hTe:T t.aC.length=lx (qM t).ah (n+1):=by
  rw[hT];simp only
  rw[List.take_of_length_le (by simp)];rfl
 clear hT hL
 refine ug (n) 1 (rs:=[.cell 2 37]) Tryz.checked.mixed Tryz.func162 Tryz.ntmps162 rfl rfl rfl rfl rfl ?_
 simp -implicitDefEqProofs (disch:=omega) only[go_sem,ha,hs]
 refine W3 ?_
 refine C1 (dI _ (n+1)) ?_
 refine C1 (dI _ (n+1+1)) ?_
 refine C1 (eY t.bF (by omega) (n+1+1+1)) ?_
 refine nK (eY [sM] (by simp) (n+1+1+1+dS (bY (aV t.bF)))) (.cons (I4 n _) .nil) ?_
 refine W1 ?_
 refine W3 ?_
 refine l6 n 4 2 (T 0) (.inl ?_) (hTr 0) ?_
 ·rw[hT0];rfl
 refine qO (L 0) ?_
 refine aT (ι:=Nat) Tryz.checked.mixed rfl [2,4,30,31,32] (fun i=>[.c (.ptr (0,3) 0),.c (.bS (0,4) (T i)),.c (.d (.sl (t.aC.map aN.enc))),.c (.d (.i .i64 t.aC.length)),.c (.d (.i .i64 i))])
  (fun i=>[.seed (L i),.seed 1,.box [.d (.s t.fName),.d (.sl (t.bF.map encS)),.d (.b true),.d (.b false),.d (.sl (t.aC.map aN.enc))],.box [.d (.s []),.bO []],.fF n 2 (T i)]::S)
  (fun i=>i≤t.aC.length) (fun i=>t.aC.length-i) 0 rfl rfl (Nat.zero_le _) ?_
 intro i hi
 have hl:=ig i
 refine W1 ?_
 refine S0 (fun hb h=>?_) fun hb h=>?_
 ·have hi':i<t.aC.length:=by omega
  have hm:=List.getElem_mem hi'
  have hcz:=yw hm
  have hce:=aN.sum t.aC[i]
  rw[dN] at hce
  obtain⟨q1,q2,q3⟩:=qU (hso _ hm)
  have hst:=hTs i hi'
  refine W3 ?_
  refine C1 (dI _ (L i+1)) ?_
  refine C1 (zV t.aC[i].aJ (L i+1+1) (L i+1+1+1) q1 (by omega) (fun u hu=>by have:=yt hu;omega)) ?_
  refine C1 (lu _) ?_
  refine C1 (lC t.aC[i].aU (L i+1+1+dS (bY (t.aC[i].aJ.map dw))) q2 (by omega)) ?_
  refine S0 (fun hb h=>?_) fun hb h=>?_
  ·rw[zH h] at hst
   simp only[jO,mV,jW,kG,kH,eu,dJ,jU] at hst
   refine C1 (eY t.aC[i].aA (by omega) (L i+1+1+dS (bY (t.aC[i].aJ.map dw))+dS (dw t.aC[i].aU))) ?_
   refine C1 (yP t.aC[i].fBody (L i+1+1+dS (bY (t.aC[i].aJ.map dw))+dS (dw t.aC[i].aU)+dS (bY (aV t.aC[i].aA))) (q3 h) (by omega)) ?_
   refine W3 ?_
   refine C1 (lu _) ?_
   refine W3 ?_
   rw[hst]
   refine su (L (i+1)) 4 (by decide) (i+1) (by omega) rfl rfl ?_ rfl (by omega)
   simp[kF,jo,V.refs,C.refs,nC]
  ·rw[zI h] at hst
   simp only[jO,mV,jW,kG,kH,eu,dJ,jU] at hst
   refine C1 (nO _ _) ?_
   refine W3 ?_
   rw[hst]
   refine su (L (i+1)) 4 (by decide) (i+1) (by omega) rfl rfl ?_ rfl (by omega)
   simp[kF,jo,V.refs,C.refs,nC]
 ·have hi':i=t.aC.length:=by omega
  refine bJ rfl (jZ 0 4 _ _) ?_
  refine W1 ?_
  rw[hi',hTe]
theorem Vo(t:bC)(n:Nat)(hv:dP t=true)(hsz:t.sz≤1048576)(ha:t.kY=false)(hs:t.bK=true):aI Tryz.prog 162 [t.v] (.agg [.d (.s []),.d (.ol n (lx (qM t).ah (n+1)))]):=fun S=>by
 have hdz:=bC.sum t
 rw[dN] at hdz
 obtain⟨hso,_⟩:=jw hv
 have hfl:kV t=[iO]:=by unfold kV;rw[ha,hs];rfl
 obtain⟨L,hL⟩:∃L:Nat→Nat,L=fun i=>n+1+jq (jh t++(t.aC.map nV).take i):=⟨_,rfl⟩
 obtain⟨T,hT⟩:∃T:Nat→List (List D),T=fun i=>lx (jh t++(t.aC.map nV).take i) (n+1):=⟨_,rfl⟩
 have hT0:T 0=[[.s jV,.ol (n+1) []],[.s t.fName,.ol (n+1+1) []],[.s [],.ol (n+1+1+1) (lx (aV t.bF) (n+1+1+1+1))],[.s [],.ol (n+1+1+1+dS (bY (aV t.bF))) (lx (aV [iO]) (n+1+1+1+dS (bY (aV t.bF))+1))]]:=by
  rw[hT];simp only[List.take_zero,List.append_nil,jh,hfl];exact DW _ _ _ _ _
 have ig:∀i,(T i).length≤i+4:=fun i=>by
  rw[hT];simp only[iw,List.length_append]
  have:=List.length_take_le i (t.aC.map nV)
  simp[jh];omega
 have hTs:∀i (hi:i<t.aC.length),T i++[[.s [],.ol (L i) (lx (nV t.aC[i]).ah (L i+1))]]=T (i+1):=fun i hi=>by
  have:=zw (base:=jh t) (l:=t.aC.map nV) (i:=i) (by rw[List.length_map];exact hi) (n+1)
  rw[List.getElem_map,zJ] at this
  rw[hT,hL];exact this
 have hTr:∀i,∀r∈T i,r.length=2:=fun i=>by rw[hT];exact lq
 have hTe:T t.aC.length=lx (qM t).ah (n+1):=by
  rw[hT];simp only
  rw[List.take_of_length_le (by simp)];rfl
 clear hT hL
 refine ug (n) 1 (rs:=[.cell 2 37]) Tryz.checked.mixed Tryz.func162 Tryz.ntmps162 rfl rfl rfl rfl rfl ?_
 simp -implicitDefEqProofs (disch:=omega) only[go_sem,ha,hs]
 refine W3 ?_
 refine C1 (dI _ (n+1)) ?_
 refine C1 (dI _ (n+1+1)) ?_
 refine C1 (eY t.bF (by omega) (n+1+1+1)) ?_
 refine nK (eY [iO] (by simp) (n+1+1+1+dS (bY (aV t.bF)))) (.cons (I4 n _) .nil) ?_
 refine W1 ?_
 refine W3 ?_
 refine l6 n 4 2 (T 0) (.inl ?_) (hTr 0) ?_
 ·rw[hT0];rfl
 refine qO (L 0) ?_
 refine aT (ι:=Nat) Tryz.checked.mixed rfl [2,4,30,31,32] (fun i=>[.c (.ptr (0,3) 0),.c (.bS (0,4) (T i)),.c (.d (.sl (t.aC.map aN.enc))),.c (.d (.i .i64 t.aC.length)),.c (.d (.i .i64 i))])
  (fun i=>[.seed (L i),.seed 1,.box [.d (.s t.fName),.d (.sl (t.bF.map encS)),.d (.b false),.d (.b true),.d (.sl (t.aC.map aN.enc))],.box [.d (.s []),.bO []],.fF n 2 (T i)]::S)
  (fun i=>i≤t.aC.length) (fun i=>t.aC.length-i) 0 rfl rfl (Nat.zero_le _) ?_
 intro i hi
 have hl:=ig i
 refine W1 ?_
 refine S0 (fun hb h=>?_) fun hb h=>?_
 ·have hi':i<t.aC.length:=by omega
  have hm:=List.getElem_mem hi'
  have hcz:=yw hm
  have hce:=aN.sum t.aC[i]
  rw[dN] at hce
  obtain⟨q1,q2,q3⟩:=qU (hso _ hm)
  have hst:=hTs i hi'
  refine W3 ?_
  refine C1 (dI _ (L i+1)) ?_
  refine C1 (zV t.aC[i].aJ (L i+1+1) (L i+1+1+1) q1 (by omega) (fun u hu=>by have:=yt hu;omega)) ?_
  refine C1 (lu _) ?_
  refine C1 (lC t.aC[i].aU (L i+1+1+dS (bY (t.aC[i].aJ.map dw))) q2 (by omega)) ?_
  refine S0 (fun hb h=>?_) fun hb h=>?_
  ·rw[zH h] at hst
   simp only[jO,mV,jW,kG,kH,eu,dJ,jU] at hst
   refine C1 (eY t.aC[i].aA (by omega) (L i+1+1+dS (bY (t.aC[i].aJ.map dw))+dS (dw t.aC[i].aU))) ?_
   refine C1 (yP t.aC[i].fBody (L i+1+1+dS (bY (t.aC[i].aJ.map dw))+dS (dw t.aC[i].aU)+dS (bY (aV t.aC[i].aA))) (q3 h) (by omega)) ?_
   refine W3 ?_
   refine C1 (lu _) ?_
   refine W3 ?_
   rw[hst]
   refine su (L (i+1)) 4 (by decide) (i+1) (by omega) rfl rfl ?_ rfl (by omega)
   simp[kF,jo,V.refs,C.refs,nC]
  ·rw[zI h] at hst
   simp only[jO,mV,jW,kG,kH,eu,dJ,jU] at hst
   refine C1 (nO _ _) ?_
   refine W3 ?_
   rw[hst]
   refine su (L (i+1)) 4 (by decide) (i+1) (by omega) rfl rfl ?_ rfl (by omega)
   simp[kF,jo,V.refs,C.refs,nC]
 ·have hi':i=t.aC.length:=by omega
  refine bJ rfl (jZ 0 4 _ _) ?_
  refine W1 ?_
  rw[hi',hTe]
theorem Vp(t:bC)(n:Nat)(hv:dP t=true)(hsz:t.sz≤1048576)(ha:t.kY=false)(hs:t.bK=false):aI Tryz.prog 162 [t.v] (.agg [.d (.s []),.d (.ol n (lx (qM t).ah (n+1)))]):=fun S=>by
 have hdz:=bC.sum t
 rw[dN] at hdz
 obtain⟨hso,_⟩:=jw hv
 have hfl:kV t=[]:=by unfold kV;rw[ha,hs];rfl
 obtain⟨L,hL⟩:∃L:Nat→Nat,L=fun i=>n+1+jq (jh t++(t.aC.map nV).take i):=⟨_,rfl⟩
 obtain⟨T,hT⟩:∃T:Nat→List (List D),T=fun i=>lx (jh t++(t.aC.map nV).take i) (n+1):=⟨_,rfl⟩
 have hT0:T 0=[[.s jV,.ol (n+1) []],[.s t.fName,.ol (n+1+1) []],[.s [],.ol (n+1+1+1) (lx (aV t.bF) (n+1+1+1+1))],[.s [],.ol (n+1+1+1+dS (bY (aV t.bF))) (lx (aV []) (n+1+1+1+dS (bY (aV t.bF))+1))]]:=by
  rw[hT];simp only[List.take_zero,List.append_nil,jh,hfl];exact DW _ _ _ _ _
 have ig:∀i,(T i).length≤i+4:=fun i=>by
  rw[hT];simp only[iw,List.length_append]
  have:=List.length_take_le i (t.aC.map nV)
  simp[jh];omega
 have hTs:∀i (hi:i<t.aC.length),T i++[[.s [],.ol (L i) (lx (nV t.aC[i]).ah (L i+1))]]=T (i+1):=fun i hi=>by
  have:=zw (base:=jh t) (l:=t.aC.map nV) (i:=i) (by rw[List.length_map];exact hi) (n+1)
  rw[List.getElem_map,zJ] at this
  rw[hT,hL];exact this
 have hTr:∀i,∀r∈T i,r.length=2:=fun i=>by rw[hT];exact lq
 have hTe:T t.aC.length=lx (qM t).ah (n+1):=by
  rw[hT];simp only
  rw[List.take_of_length_le (by simp)];rfl
 clear hT hL
 refine ug (n) 1 (rs:=[.cell 2 37]) Tryz.checked.mixed Tryz.func162 Tryz.ntmps162 rfl rfl rfl rfl rfl ?_
 simp -implicitDefEqProofs (disch:=omega) only[go_sem,ha,hs]
 refine W3 ?_
 refine C1 (dI _ (n+1)) ?_
 refine C1 (dI _ (n+1+1)) ?_
 refine C1 (eY t.bF (by omega) (n+1+1+1)) ?_
 refine nK (eY [] (by simp) (n+1+1+1+dS (bY (aV t.bF)))) (.cons (om n _) .nil) ?_
 refine W1 ?_
 refine W3 ?_
 refine l6 n 4 2 (T 0) (.inl ?_) (hTr 0) ?_
 ·rw[hT0];rfl
 refine qO (L 0) ?_
 refine aT (ι:=Nat) Tryz.checked.mixed rfl [2,4,30,31,32] (fun i=>[.c (.ptr (0,3) 0),.c (.bS (0,4) (T i)),.c (.d (.sl (t.aC.map aN.enc))),.c (.d (.i .i64 t.aC.length)),.c (.d (.i .i64 i))])
  (fun i=>[.seed (L i),.seed 1,.box [.d (.s t.fName),.d (.sl (t.bF.map encS)),.d (.b false),.d (.b false),.d (.sl (t.aC.map aN.enc))],.box [.d (.s []),.bO []],.fF n 2 (T i)]::S)
  (fun i=>i≤t.aC.length) (fun i=>t.aC.length-i) 0 rfl rfl (Nat.zero_le _) ?_
 intro i hi
 have hl:=ig i
 refine W1 ?_
 refine S0 (fun hb h=>?_) fun hb h=>?_
 ·have hi':i<t.aC.length:=by omega
  have hm:=List.getElem_mem hi'
  have hcz:=yw hm
  have hce:=aN.sum t.aC[i]
  rw[dN] at hce
  obtain⟨q1,q2,q3⟩:=qU (hso _ hm)
  have hst:=hTs i hi'
  refine W3 ?_
  refine C1 (dI _ (L i+1)) ?_
  refine C1 (zV t.aC[i].aJ (L i+1+1) (L i+1+1+1) q1 (by omega) (fun u hu=>by have:=yt hu;omega)) ?_
  refine C1 (lu _) ?_
  refine C1 (lC t.aC[i].aU (L i+1+1+dS (bY (t.aC[i].aJ.map dw))) q2 (by omega)) ?_
  refine S0 (fun hb h=>?_) fun hb h=>?_
  ·rw[zH h] at hst
   simp only[jO,mV,jW,kG,kH,eu,dJ,jU] at hst
   refine C1 (eY t.aC[i].aA (by omega) (L i+1+1+dS (bY (t.aC[i].aJ.map dw))+dS (dw t.aC[i].aU))) ?_
   refine C1 (yP t.aC[i].fBody (L i+1+1+dS (bY (t.aC[i].aJ.map dw))+dS (dw t.aC[i].aU)+dS (bY (aV t.aC[i].aA))) (q3 h) (by omega)) ?_
   refine W3 ?_
   refine C1 (lu _) ?_
   refine W3 ?_
   rw[hst]
   refine su (L (i+1)) 4 (by decide) (i+1) (by omega) rfl rfl ?_ rfl (by omega)
   simp[kF,jo,V.refs,C.refs,nC]
  ·rw[zI h] at hst
   simp only[jO,mV,jW,kG,kH,eu,dJ,jU] at hst
   refine C1 (nO _ _) ?_
   refine W3 ?_
   rw[hst]
   refine su (L (i+1)) 4 (by decide) (i+1) (by omega) rfl rfl ?_ rfl (by omega)
   simp[kF,jo,V.refs,C.refs,nC]
 ·have hi':i=t.aC.length:=by omega
  refine bJ rfl (jZ 0 4 _ _) ?_
  refine W1 ?_
  rw[hi',hTe]
theorem Qf(t:bC)(n:Nat)(hv:dP t=true)(hsz:t.sz≤1048576):aI Tryz.prog 162 [t.v] (.agg [.d (.s []),.d (.ol n (lx (qM t).ah (n+1)))]):=by
 have hb:=(jw hv).2
 cases ha:t.kY with
 |true=>
  cases hs:t.bK with
  |true=>exact absurd ⟨ha,hs⟩ hb
  |false=>exact Vn t n hv hsz ha hs
 |false=>
  cases hs:t.bK with
  |true=>exact Vo t n hv hsz ha hs
  |false=>exact Vp t n hv hsz ha hs
theorem aeg(t:bC)(hv:dP t=true)(hsz:t.sz≤1048576)(ha:t.kY=true)(hs:t.bK=false):aI Tryz.prog 146 [t.v] (Ck (qM t)).v:=fun S=>by
 have hdz:=bC.sum t
 rw[dN] at hdz
 obtain⟨hso,_⟩:=jw hv
 have hz:=I5 hv
 have hfl:kV t=[sM]:=by unfold kV;rw[ha,hs];rfl
 obtain⟨T,hT⟩:∃T:Nat→List (List D),T=fun i=>(jh t++(t.aC.map nV).take i).map aj.enc:=⟨_,rfl⟩
 have hT0:T 0=[[.s jV,.sl []],[.s t.fName,.sl []],[.s [],.sl ((aV t.bF).map aj.enc)],[.s [],.sl ((aV [sM]).map aj.enc)]]:=by
  rw[hT];simp only[List.take_zero,List.append_nil,jh,hfl,List.map_cons,List.map_nil,fM,j3]
 have ig:∀i,(T i).length≤i+4:=fun i=>by
  rw[hT];simp only[List.length_map,List.length_append]
  have:=List.length_take_le i (t.aC.map nV)
  simp[jh];omega
 have hTs:∀i (hi:i<t.aC.length),T i++[[.s [],.sl ((nV t.aC[i]).ah.map aj.enc)]]=T (i+1):=fun i hi=>by
  have:=jI (base:=jh t) (l:=t.aC.map nV) (i:=i) (by rw[List.length_map];exact hi)
  rw[List.getElem_map,zJ] at this
  rw[hT];exact this
 have hTr:∀i,∀r∈T i,r.length=2:=fun i=>by rw[hT];exact gT
 have hTe:T t.aC.length=(qM t).ah.map aj.enc:=by
  rw[hT];simp only
  rw[List.take_of_length_le (by simp)];rfl
 clear hT
 refine aG (rs:=[.cell 2 37]) Tryz.checked.mixed Tryz.func146 Tryz.ntmps146 rfl rfl rfl rfl rfl ?_
 refine W1 ?_
 refine aZ (qG t (by omega)) ?_
 simp -implicitDefEqProofs (disch:=omega) only[go_sem,hv,ha,hs]
 refine W3 ?_
 refine C1 (cK _) ?_
 refine C1 (cK _) ?_
 refine C1 (eO t.bF (by omega)) ?_
 refine C1 (eO [sM] (by simp)) ?_
 have hE:=fun bZ Ω=>kU (T 0) (hTr 0) (by have:=ig 0;omega) bZ Ω
 simp only[hT0] at hE
 refine pJ [false] rfl (hE _ _) ?_
 refine W1 ?_
 refine aT (ι:=Nat) Tryz.checked.mixed rfl [1,2,4,5] (fun i=>[.c (.ptr (0,0) 0),.c (.ptr (0,1) 0),.c (.ptr (0,5) 0),.c (.d (.i .i64 i))])
  (fun i=>[.box [.d (.s t.fName),.d (.sl (t.bF.map encS)),.d (.b true),.d (.b false),.d (.sl (t.aC.map aN.enc))],.box [.d (.s []),.bO []],.tok 1 [[.s sM]],.box [.d (.s []),.bS (0,4) (T 0)],.tok 2 (T i),.box [.d (.s []),.bS (0,4) (T i)]]::S)
  (fun i=>i≤t.aC.length) (fun i=>t.aC.length-i) 0 rfl (by simp only[hT0]<;>(try rfl)) (Nat.zero_le _) ?_
 intro i hi
 have hl:=ig i
 refine W1 ?_
 refine S0 (fun hb h=>?_) fun hb h=>?_
 ·have hi':i<t.aC.length:=by omega
  have hm:=List.getElem_mem hi'
  have hcz:=yw hm
  have hce:=aN.sum t.aC[i]
  rw[dN] at hce
  obtain⟨q1,q2,q3⟩:=qU (hso _ hm)
  have hst:=hTs i hi'
  refine W3 ?_
  refine C1 (cK _) ?_
  refine C1 (Bu t.aC[i].aJ (by omega) (fun u hu=>by have:=yt hu;omega)) ?_
  refine C1 (lW t.aC[i].aU (by omega)) ?_
  refine pJ [false] rfl (kU _ (by simp) (by simp) _ _) ?_
  refine W1 ?_
  refine S0 (fun hb h=>?_) fun hb h=>?_
  ·rw[zH h] at hst
   simp only[List.map_cons,List.map_nil,fM,j3,aj.aD (dw t.aC[i].aU),aj.aD (fB t.aC[i].fBody)] at hst
   refine C1 (eO t.aC[i].aA (by omega)) ?_
   refine C1 (tJ t.aC[i].fBody (q3 h) (by omega)) ?_
   refine W3 ?_
   rw[hst]
   exact dh 6 (by decide) (i+1) (by omega) rfl rfl rfl rfl (by omega)
  ·rw[zI h] at hst
   simp only[List.map_cons,List.map_nil,fM,j3,aj.aD (dw t.aC[i].aU)] at hst
   refine W3 ?_
   rw[hst]
   exact dh 6 (by decide) (i+1) (by omega) rfl rfl rfl rfl (by omega)
 ·have hi':i=t.aC.length:=by omega
  subst hi'
  rw[hTe]
  refine C1 (rW true (qM t) (by omega)) ?_
  rfl
theorem aeh(t:bC)(hv:dP t=true)(hsz:t.sz≤1048576)(ha:t.kY=false)(hs:t.bK=true):aI Tryz.prog 146 [t.v] (Ck (qM t)).v:=fun S=>by
 have hdz:=bC.sum t
 rw[dN] at hdz
 obtain⟨hso,_⟩:=jw hv
 have hz:=I5 hv
 have hfl:kV t=[iO]:=by unfold kV;rw[ha,hs];rfl
 obtain⟨T,hT⟩:∃T:Nat→List (List D),T=fun i=>(jh t++(t.aC.map nV).take i).map aj.enc:=⟨_,rfl⟩
 have hT0:T 0=[[.s jV,.sl []],[.s t.fName,.sl []],[.s [],.sl ((aV t.bF).map aj.enc)],[.s [],.sl ((aV [iO]).map aj.enc)]]:=by
  rw[hT];simp only[List.take_zero,List.append_nil,jh,hfl,List.map_cons,List.map_nil,fM,j3]
 have ig:∀i,(T i).length≤i+4:=fun i=>by
  rw[hT];simp only[List.length_map,List.length_append]
  have:=List.length_take_le i (t.aC.map nV)
  simp[jh];omega
 have hTs:∀i (hi:i<t.aC.length),T i++[[.s [],.sl ((nV t.aC[i]).ah.map aj.enc)]]=T (i+1):=fun i hi=>by
  have:=jI (base:=jh t) (l:=t.aC.map nV) (i:=i) (by rw[List.length_map];exact hi)
  rw[List.getElem_map,zJ] at this
  rw[hT];exact this
 have hTr:∀i,∀r∈T i,r.length=2:=fun i=>by rw[hT];exact gT
 have hTe:T t.aC.length=(qM t).ah.map aj.enc:=by
  rw[hT];simp only
  rw[List.take_of_length_le (by simp)];rfl
 clear hT
 refine aG (rs:=[.cell 2 37]) Tryz.checked.mixed Tryz.func146 Tryz.ntmps146 rfl rfl rfl rfl rfl ?_
 refine W1 ?_
 refine aZ (qG t (by omega)) ?_
 simp -implicitDefEqProofs (disch:=omega) only[go_sem,hv,ha,hs]
 refine W3 ?_
 refine C1 (cK _) ?_
 refine C1 (cK _) ?_
 refine C1 (eO t.bF (by omega)) ?_
 refine C1 (eO [iO] (by simp)) ?_
 have hE:=fun bZ Ω=>kU (T 0) (hTr 0) (by have:=ig 0;omega) bZ Ω
 simp only[hT0] at hE
 refine pJ [false] rfl (hE _ _) ?_
 refine W1 ?_
 refine aT (ι:=Nat) Tryz.checked.mixed rfl [1,2,4,5] (fun i=>[.c (.ptr (0,0) 0),.c (.ptr (0,1) 0),.c (.ptr (0,5) 0),.c (.d (.i .i64 i))])
  (fun i=>[.box [.d (.s t.fName),.d (.sl (t.bF.map encS)),.d (.b false),.d (.b true),.d (.sl (t.aC.map aN.enc))],.box [.d (.s []),.bO []],.tok 1 [[.s iO]],.box [.d (.s []),.bS (0,4) (T 0)],.tok 2 (T i),.box [.d (.s []),.bS (0,4) (T i)]]::S)
  (fun i=>i≤t.aC.length) (fun i=>t.aC.length-i) 0 rfl (by simp only[hT0]<;>(try rfl)) (Nat.zero_le _) ?_
 intro i hi
 have hl:=ig i
 refine W1 ?_
 refine S0 (fun hb h=>?_) fun hb h=>?_
 ·have hi':i<t.aC.length:=by omega
  have hm:=List.getElem_mem hi'
  have hcz:=yw hm
  have hce:=aN.sum t.aC[i]
  rw[dN] at hce
  obtain⟨q1,q2,q3⟩:=qU (hso _ hm)
  have hst:=hTs i hi'
  refine W3 ?_
  refine C1 (cK _) ?_
  refine C1 (Bu t.aC[i].aJ (by omega) (fun u hu=>by have:=yt hu;omega)) ?_
  refine C1 (lW t.aC[i].aU (by omega)) ?_
  refine pJ [false] rfl (kU _ (by simp) (by simp) _ _) ?_
  refine W1 ?_
  refine S0 (fun hb h=>?_) fun hb h=>?_
  ·rw[zH h] at hst
   simp only[List.map_cons,List.map_nil,fM,j3,aj.aD (dw t.aC[i].aU),aj.aD (fB t.aC[i].fBody)] at hst
   refine C1 (eO t.aC[i].aA (by omega)) ?_
   refine C1 (tJ t.aC[i].fBody (q3 h) (by omega)) ?_
   refine W3 ?_
   rw[hst]
   exact dh 6 (by decide) (i+1) (by omega) rfl rfl rfl rfl (by omega)
  ·rw[zI h] at hst
   simp only[List.map_cons,List.map_nil,fM,j3,aj.aD (dw t.aC[i].aU)] at hst
   refine W3 ?_
   rw[hst]
   exact dh 6 (by decide) (i+1) (by omega) rfl rfl rfl rfl (by omega)
 ·have hi':i=t.aC.length:=by omega
  subst hi'
  rw[hTe]
  refine C1 (rW true (qM t) (by omega)) ?_
  rfl
theorem aei(t:bC)(hv:dP t=true)(hsz:t.sz≤1048576)(ha:t.kY=false)(hs:t.bK=false):aI Tryz.prog 146 [t.v] (Ck (qM t)).v:=fun S=>by
 have hdz:=bC.sum t
 rw[dN] at hdz
 obtain⟨hso,_⟩:=jw hv
 have hz:=I5 hv
 have hfl:kV t=[]:=by unfold kV;rw[ha,hs];rfl
 obtain⟨T,hT⟩:∃T:Nat→List (List D),T=fun i=>(jh t++(t.aC.map nV).take i).map aj.enc:=⟨_,rfl⟩
 have hT0:T 0=[[.s jV,.sl []],[.s t.fName,.sl []],[.s [],.sl ((aV t.bF).map aj.enc)],[.s [],.sl ((aV []).map aj.enc)]]:=by
  rw[hT];simp only[List.take_zero,List.append_nil,jh,hfl,List.map_cons,List.map_nil,fM,j3]
 have ig:∀i,(T i).length≤i+4:=fun i=>by
  rw[hT];simp only[List.length_map,List.length_append]
  have:=List.length_take_le i (t.aC.map nV)
  simp[jh];omega
 have hTs:∀i (hi:i<t.aC.length),T i++[[.s [],.sl ((nV t.aC[i]).ah.map aj.enc)]]=T (i+1):=fun i hi=>by
  have:=jI (base:=jh t) (l:=t.aC.map nV) (i:=i) (by rw[List.length_map];exact hi)
  rw[List.getElem_map,zJ] at this
  rw[hT];exact this
 have hTr:∀i,∀r∈T i,r.length=2:=fun i=>by rw[hT];exact gT
 have hTe:T t.aC.length=(qM t).ah.map aj.enc:=by
  rw[hT];simp only
  rw[List.take_of_length_le (by simp)];rfl
 clear hT
 refine aG (rs:=[.cell 2 37]) Tryz.checked.mixed Tryz.func146 Tryz.ntmps146 rfl rfl rfl rfl rfl ?_
 refine W1 ?_
 refine aZ (qG t (by omega)) ?_
 simp -implicitDefEqProofs (disch:=omega) only[go_sem,hv,ha,hs]
 refine W3 ?_
 refine C1 (cK _) ?_
 refine C1 (cK _) ?_
 refine C1 (eO t.bF (by omega)) ?_
 refine C1 (eO [] (by simp)) ?_
 have hE:=fun bZ Ω=>kU (T 0) (hTr 0) (by have:=ig 0;omega) bZ Ω
 simp only[hT0] at hE
 refine pJ [false] rfl (hE _ _) ?_
 refine W1 ?_
 refine aT (ι:=Nat) Tryz.checked.mixed rfl [1,2,4,5] (fun i=>[.c (.ptr (0,0) 0),.c (.ptr (0,1) 0),.c (.ptr (0,4) 0),.c (.d (.i .i64 i))])
  (fun i=>[.box [.d (.s t.fName),.d (.sl (t.bF.map encS)),.d (.b false),.d (.b false),.d (.sl (t.aC.map aN.enc))],.box [.d (.s []),.bO []],.box [.d (.s []),.bS (0,3) (T 0)],.tok 2 (T i),.box [.d (.s []),.bS (0,3) (T i)]]::S)
  (fun i=>i≤t.aC.length) (fun i=>t.aC.length-i) 0 rfl (by simp only[hT0]<;>(try rfl)) (Nat.zero_le _) ?_
 intro i hi
 have hl:=ig i
 refine W1 ?_
 refine S0 (fun hb h=>?_) fun hb h=>?_
 ·have hi':i<t.aC.length:=by omega
  have hm:=List.getElem_mem hi'
  have hcz:=yw hm
  have hce:=aN.sum t.aC[i]
  rw[dN] at hce
  obtain⟨q1,q2,q3⟩:=qU (hso _ hm)
  have hst:=hTs i hi'
  refine W3 ?_
  refine C1 (cK _) ?_
  refine C1 (Bu t.aC[i].aJ (by omega) (fun u hu=>by have:=yt hu;omega)) ?_
  refine C1 (lW t.aC[i].aU (by omega)) ?_
  refine pJ [false] rfl (kU _ (by simp) (by simp) _ _) ?_
  refine W1 ?_
  refine S0 (fun hb h=>?_) fun hb h=>?_
  ·rw[zH h] at hst
   simp only[List.map_cons,List.map_nil,fM,j3,aj.aD (dw t.aC[i].aU),aj.aD (fB t.aC[i].fBody)] at hst
   refine C1 (eO t.aC[i].aA (by omega)) ?_
   refine C1 (tJ t.aC[i].fBody (q3 h) (by omega)) ?_
   refine W3 ?_
   rw[hst]
   exact dh 5 (by decide) (i+1) (by omega) rfl rfl rfl rfl (by omega)
  ·rw[zI h] at hst
   simp only[List.map_cons,List.map_nil,fM,j3,aj.aD (dw t.aC[i].aU)] at hst
   refine W3 ?_
   rw[hst]
   exact dh 5 (by decide) (i+1) (by omega) rfl rfl rfl rfl (by omega)
 ·have hi':i=t.aC.length:=by omega
  subst hi'
  rw[hTe]
  refine C1 (rW true (qM t) (by omega)) ?_
  rfl
theorem abd(t:bC)(hsz:t.sz≤1048576):aI Tryz.prog 146 [t.v] (MG t).v:=by
 unfold MG
 cases hv:dP t with
 |false=>
  rw[vO]
  refine aI.less (fun S=> ?_) (Et [] [])
  refine aG (rs:=[.cell 2 37]) Tryz.checked.mixed Tryz.func146 Tryz.ntmps146 rfl rfl rfl rfl rfl ?_
  refine W1 ?_
  refine aZ (qG t (by omega)) ?_
  simp -implicitDefEqProofs (disch:=omega) only[go_sem,hv]
 |true=>
  rw[vO]
  have hb:=(jw hv).2
  cases ha:t.kY with
  |true=>
   cases hs:t.bK with
   |true=>exact absurd ⟨ha,hs⟩ hb
   |false=>exact aeg t hv hsz ha hs
  |false=>
   cases hs:t.bK with
   |true=>exact aeh t hv hsz ha hs
   |false=>exact aei t hv hsz ha hs
end Go.Proofs.YtocpgjlbagncjaaGreatDoor
namespace Go.Ab
def NU:aN:=⟨[],[],iV,false,[],lG⟩
def wY(b:Bool)(l:List aj):Bool:=match b with
 |true=>decide (l.length=5)
 |false=>decide (3<l.length)
def jC(b:Bool)(y:aj):aN:=if b=true∧y.ah.length<3 then NU else
 ⟨dM y.ah 0,(gX y.ah 1).ah.map (dO b),dO b (gX y.ah 2),wY b y.ah,if wY b y.ah=true then nY y.ah 3 else [],if wY b y.ah=true then eZ b (gX y.ah 4) else lG⟩
def rC(b:Bool)(x:aj):bC:=
 ⟨dM x.ah 1,nY x.ah 2,decide (sM∈nY x.ah 3),decide (iO∈nY x.ah 3),(x.ah.drop 4).map (jC b)⟩
theorem abe{g:aN}(h:iG g=true):(g.gF=true→∀v∈g.aA,v≠[])∧(g.gF=false→g.aA=[]∧g.fBody=lG):=by
 unfold iG at h
 simp only[Bool.and_eq_true] at h
 obtain⟨_,_,_,_,h3⟩:=h
 refine⟨fun hd=> ?_,fun hd=> ?_⟩
 ·rw[if_pos hd,Bool.and_eq_true] at h3
  have:=h3.2
  unfold mX at this
  rw[Bool.and_eq_true] at this
  exact zx this.1
 ·rw[if_neg (by rw[hd];decide),Bool.and_eq_true] at h3
  exact⟨List.eq_nil_of_length_eq_zero (gH h3.1),gH h3.2⟩
theorem abf(b:Bool){g:aN}(h:iG g=true):jC b (nV g)=g:=by
 obtain⟨h1,h2,h3⟩:=qU h
 obtain⟨h4,h5⟩:=abe h
 unfold jC
 cases hd:g.gF with
 |true=>
  rw[zH hd,if_neg (by simp)]
  have e:wY b [bT g.fName,bY (g.aJ.map dw),dw g.aU,bY (aV g.aA),fB g.fBody]=true:=by cases b<;>rfl
  rw[e,if_pos rfl,if_pos rfl]
  show aN.mk g.fName ((g.aJ.map dw).map (dO b)) (dO b (dw g.aU)) true (fq (aV g.aA)) (eZ b (fB g.fBody))=g
  rw[DU b h1,wF b _ h2,pX (h4 hd),Ez b _ (h3 hd),←hd]
 |false=>
  rw[zI hd,if_neg (by simp)]
  have e:wY b [bT g.fName,bY (g.aJ.map dw),dw g.aU]=false:=by cases b<;>rfl
  rw[e,if_neg (by decide),if_neg (by decide)]
  show aN.mk g.fName ((g.aJ.map dw).map (dO b)) (dO b (dw g.aU)) false [] lG=g
  obtain⟨e1,e2⟩:=h5 hd
  rw[DU b h1,wF b _ h2,←e2]
  conv=>lhs;rw[←e1,←hd]
theorem NW{t:bC}(h:dP t=true):∀v∈t.bF,v≠[]:=by
 unfold dP at h
 simp only[Bool.and_eq_true] at h
 exact zx h.2.2.1
theorem abg(t:bC):∀v∈kV t,v≠[]:=fun v hv=>by
 unfold kV at hv
 rw[List.mem_append] at hv
 rcases hv with h|h
 ·split at h
  ·rw[List.mem_singleton.1 h];decide
  ·cases h
 ·split at h
  ·rw[List.mem_singleton.1 h];decide
  ·cases h
theorem MH(t:bC):decide (sM∈kV t)=t.kY∧decide (iO∈kV t)=t.bK:=by
 unfold kV
 cases t.kY<;>cases t.bK<;>exact⟨by decide,by decide⟩
theorem Kr(b:Bool){t:bC}(h:dP t=true):rC b (qM t)=t:=by
 have h1:=(jw h).1
 show bC.mk t.fName (fq (aV t.bF)) (decide (sM∈fq (aV (kV t)))) (decide (iO∈fq (aV (kV t)))) ((t.aC.map nV).map (jC b))=t
 rw[pX (NW h),pX (abg t),(MH t).1,(MH t).2,CF fun c hc=>abf b (h1 c hc)]
noncomputable def wP(x:aj):Bool:=dec (iI x=true∧(4≤x.ah.length∧dM x.ah 0=jV)∧dP (rC true x)=true∧qM (rC true x)=x)
theorem abh{x:aj}(hx:x.ah≠[]):wP x=(iI x&&dec (MG (rC false x)=x)):=
 Tp hx (fun a h1 h2=>by rw[←h2];exact⟨Kr true h1,Kr false h1⟩) fun a h=>by rw[←h];exact⟨by rw[qM,dJ];simp[jh],rfl⟩
theorem abj{x:aj}(h:wP x=true):rC false x=rC true x:=by
 have h1:=gH h
 conv=>lhs;rw[←h1.2.2.2]
 exact Kr false h1.2.2.1
def H9:bC:=⟨[],[],false,false,[]⟩
noncomputable def um(x:aj):bC:=if wP x=true then rC true x else H9
theorem aej(b:Bool)(l:List aj):bD ((l.map (dO b)).map au.enc)≤dQ l:=by
 have:=FH b l
 rw[yc] at this
 rw[zq];exact this
theorem abk(b:Bool)(y:aj):(jC b y).sz≤y.sz:=by
 have h1:=Aw y.ah
 have h2:=pY y
 have h3:=pY (gX y.ah 0)
 have h4:=aej b (gX y.ah 1).ah
 have h4':=pY (gX y.ah 1)
 have h5:=yg b (gX y.ah 2)
 have h6:=qP (gX y.ah 3).ah
 have h6':=pY (gX y.ah 3)
 have h7:=BI b (gX y.ah 4)
 unfold jC
 split
 ·simp only[NU,aN.sz,aN.aD,cu,bN,D.sz,au.dZ,ay.dZ,Au,yh,List.map_nil,bD,List.length_nil];omega
 ·cases wY b y.ah with
  |true=>
   simp only[if_true,aN.sz,aN.aD,cu,bN,D.sz,au.dZ,ay.dZ,List.length_map,nY,dN,Dl]
   omega
  |false=>
   simp only[Bool.false_eq_true,if_false,aN.sz,aN.aD,cu,bN,D.sz,au.dZ,ay.dZ,List.length_map,yh,List.map_nil,bD,List.length_nil,Dl]
   omega
theorem MI(b:Bool):∀l:List aj,bD ((l.map (jC b)).map aN.enc)≤dQ l
 |[]=>by simp[bD]
 |y::l=>by
  have h1:=abk b y
  have h2:=MI b l
  rw[List.map_cons,List.map_cons,bD,dQ];simp only[aN.sz] at h1;omega
theorem Kt(b:Bool)(x:aj):(rC b x).sz≤x.sz:=by
 have h1:=CB x.ah
 have h2:=pY x
 have h3:=pY (gX x.ah 1)
 have h4:=qP (gX x.ah 2).ah
 have h4':=pY (gX x.ah 2)
 have h5:=MI b (x.ah.drop 4)
 simp only[bC.sz,bC.aD,cu,bN,D.sz,rC,List.length_map,List.length_drop,nY,dN,Dl]
 omega
end Go.Ab
namespace Go.Ab
def gN(p:bB):List (List UInt8):=p.dz.map bC.fName
def jc(p:bB):List (List UInt8):=p.aX.map aS.fName
def iB(ds:List aS):List (List UInt8):=ds.flatMap fun d=>d.aH.map aM.fName
def fnNames(p:bB):List (List UInt8):=p.cZ.map aY.fName
def yQ(ps:List bB):List (List UInt8):=ps.flatMap gN
def yR(ps:List bB):List (List UInt8):=ps.flatMap jc
def yS(ps:List bB):List (List UInt8):=ps.flatMap fun p=>iB p.aX
def yT(ps:List bB):List (List UInt8):=ps.flatMap fnNames
noncomputable def nE(ps:List bB):Bool:=dec (yQ ps).Nodup&&(dec (yR ps).Nodup&&(dec (yS ps).Nodup&&dec (yT ps).Nodup))
theorem yx{α β:Type}(f:α→List β){xs:List α}{i:Nat}(hi:i<xs.length):(xs.take (i+1)).flatMap f=(xs.take i).flatMap f++f xs[i]:=by
 rw[List.take_succ_eq_append_getElem hi,List.flatMap_append]
 simp
theorem uS{α β:Type}(f:α→List β)(g:α→List D)(h:∀x,(f x).length≤cu (g x)):∀xs:List α,(xs.flatMap f).length≤bD (xs.map g)
 |[]=>by simp[bD]
 |x::xs=>by
  have h1:=h x
  have h2:=uS f g h xs
  rw[List.flatMap_cons,List.length_append,List.map_cons,bD]
  omega
theorem aeX(ds:List aS):(iB ds).length≤bD (ds.map aS.enc):=uS _ _ (fun d=>by
 rw[List.length_map]
 simp only[aS.aD,cu,bN,D.sz,List.length_map]
 omega) ds
theorem TA(ps:List bB):(yQ ps).length≤bD (ps.map bB.enc)∧(yR ps).length≤bD (ps.map bB.enc)∧(yS ps).length≤bD (ps.map bB.enc)∧(yT ps).length≤bD (ps.map bB.enc):=by
 refine⟨uS _ _ (fun p=> ?_) ps,uS _ _ (fun p=> ?_) ps,uS _ _ (fun p=> ?_) ps,uS _ _ (fun p=> ?_) ps⟩
 ·simp only[gN,bB.aD,cu,bN,D.sz,List.length_map];omega
 ·simp only[jc,bB.aD,cu,bN,D.sz,List.length_map];omega
 ·have:=aeX p.aX
  simp only[bB.aD,cu,bN,D.sz,List.length_map];omega
 ·simp only[fnNames,bB.aD,cu,bN,D.sz,List.length_map];omega
theorem bB.bounds{x:bB}(h:x.sz≤4194304):x.fName.length≤4194304∧x.fU.length≤4194304∧x.dz.length≤4194304∧x.aX.length≤4194304∧x.dx.length≤4194304∧x.cZ.length≤4194304∧(iB x.aX).length≤4194304:=by
 have:=aeX x.aX
 simp only[bB.sz,bB.aD,cu,bN,D.sz,List.length_map] at h
 omega
end Go.Ab
namespace Go.Proofs.YtocpgjlbagncjaaGreatDoor
open Go Go.Ab
theorem CJ(x:bB):∀y:bB,x.sz≤1048576→aI Tryz.prog 11 [x.v,y.v] (.c (.d (.b (dec (x=y))))):=by
 intro y hsz S
 simp only[bB.sz,bB.aD,cu,bN,D.sz,List.length_map] at hsz
 refine aG (rs:=[.tmp 4]) Tryz.checked.mixed Tryz.func11 Tryz.ntmps11 rfl rfl rfl rfl rfl ?_
 refine W1 ?_
 refine S0 (fun hb h=>?_) fun hb h=>?_
 ·exact aB (aF (fun e=>h (by rw[e]))).symm
 have qJ:=h
 clear h
 refine C1 (pQ x.fU _ (by omega)) ?_
 refine S0 (fun hb h=>?_) fun hb h=>?_
 ·exact aB (aF (fun e=>h (by rw[e]))).symm
 have ajW:=h
 clear h
 refine C1 (U3 x.dz _ (by omega)) ?_
 refine S0 (fun hb h=>?_) fun hb h=>?_
 ·exact aB (aF (fun e=>h (by rw[e]))).symm
 have agu:=h
 clear h
 refine C1 (Nz x.aX _ (by omega)) ?_
 refine S0 (fun hb h=>?_) fun hb h=>?_
 ·exact aB (aF (fun e=>h (by rw[e]))).symm
 have YT:=h
 clear h
 refine C1 (NM x.dx _ (by omega)) ?_
 refine S0 (fun hb h=>?_) fun hb h=>?_
 ·exact aB (aF (fun e=>h (by rw[e]))).symm
 have YU:=h
 clear h
 refine C1 (NN x.cZ _ (by omega)) ?_
 refine S0 (fun hb h=>?_) fun hb h=>?_
 ·exact aB (aF (fun e=>h (by rw[e]))).symm
 have YV:=h
 clear h
 exact aB (bA (bB.ext' qJ ajW agu YT YU YV)).symm
end Go.Proofs.YtocpgjlbagncjaaGreatDoor
namespace Go.Proofs.YtocpgjlbagncjaaGreatDoor
open Go Go.Ab
end Go.Proofs.YtocpgjlbagncjaaGreatDoor
namespace Go.Ab
theorem fV.bounds{x:fV}(h:x.sz≤4194304):x.rP.length≤4194304:=by
 simp only[fV.sz,fV.aD,cu,bN,D.sz,List.length_map] at h
 omega
end Go.Ab
namespace Go.Proofs.YtocpgjlbagncjaaGreatDoor
open Go Go.Ab
end Go.Proofs.YtocpgjlbagncjaaGreatDoor
namespace Go.Proofs.YtocpgjlbagncjaaGreatDoor
open Go Go.Ab
theorem Dm(xs:List (List UInt8))(x:List UInt8):xs.map encS++[[D.s x]]=(xs++[x]).map encS:=by simp[encS]
theorem Vq(p:bB)(hsz:p.sz≤4194304):aI Tryz.prog 83 [p.v] (.dY [(false,[.d (.sl ((gN p).map encS))]),(false,[.d (.sl ((jc p).map encS))]),(false,[.d (.sl ((iB p.aX).map encS))]),(false,[.d (.sl ((fnNames p).map encS))])]):=fun S=>by
 have hb0:=bB.bounds hsz
 refine aG (rs:=[.tmp 2,.tmp 3,.tmp 4,.tmp 5]) Tryz.checked.mixed Tryz.func83 Tryz.ntmps83 rfl rfl rfl rfl rfl ?_
 refine W1 ?_
 refine W3 ?_
 refine mR 6 1 [] rfl (by simp) ?_
 refine mR 7 1 [] rfl (by simp) ?_
 refine mR 8 1 [] rfl (by simp) ?_
 refine mR 9 1 [] rfl (by simp) ?_
 refine aT (ι:=Nat×List (List UInt8)) Tryz.checked.mixed rfl [1,6,7,8,9,10] (fun y=>[.c (.ptr (0,0) 0),.c (.bS (0,1) (y.2.map encS)),.c (.bS (0,2) []),.c (.bS (0,3) []),.c (.bS (0,4) []),.c (.d (.i .i64 y.1))]) (fun y=>[.box (p.enc.map .d),.tok 1 (y.2.map encS),.tok 1 [],.tok 1 [],.tok 1 []]::S)
  (fun y=>y.1≤p.dz.length∧y.2=(gN p).take y.1) (fun y=>p.dz.length-y.1) (0,[]) rfl ?_ ⟨Nat.zero_le _,rfl⟩ ?_
 ·exact Z1
 rintro⟨i,a⟩ ⟨p1,p2⟩
 simp only at p1 p2
 have pl:a.length≤p.dz.length:=by rw[p2];simp[gN];omega
 refine W1 ?_
 refine S0 (fun hb h=>?_) fun hb h=>?_
 ·have hi:i<p.dz.length:=by omega
  refine W3 ?_
  rw[Dm]
  exact bP (i+1,a++[p.dz[i].fName]) (by simp only;omega) rfl rfl ⟨by simp only;omega,by simp only;rw[p2,iR (by simpa [gN] using hi)];simp[gN]⟩
 have ha:a=gN p:=by rw[p2,List.take_of_length_le (by simp[gN];omega)]
 clear p1 p2 pl hb h
 subst ha
 refine aT (ι:=Nat×List (List UInt8)×List (List UInt8)) Tryz.checked.mixed rfl [1,6,7,8,9,11] (fun y=>[.c (.ptr (0,0) 0),.c (.bS (0,1) ((gN p).map encS)),.c (.bS (0,2) (y.2.1.map encS)),.c (.bS (0,3) (y.2.2.map encS)),.c (.bS (0,4) []),.c (.d (.i .i64 y.1))]) (fun y=>[.box (p.enc.map .d),.tok 1 ((gN p).map encS),.tok 1 (y.2.1.map encS),.tok 1 (y.2.2.map encS),.tok 1 []]::S)
  (fun y=>y.1≤p.aX.length∧y.2.1=(jc p).take y.1∧y.2.2=iB (p.aX.take y.1)) (fun y=>p.aX.length-y.1) (0,[],[]) rfl ?_ ⟨Nat.zero_le _,rfl,rfl⟩ ?_
 ·exact Z1
 rintro⟨i,b,c⟩ ⟨p1,p2,p3⟩
 simp only at p1 p2 p3
 have pl:b.length≤p.aX.length:=by rw[p2];simp[jc];omega
 refine W1 ?_
 refine S0 (fun hb h=>?_) fun hb h=>?_
 ·have hi:i<p.aX.length:=by omega
  have e3:iB (p.aX.take (i+1))=c++p.aX[i].aH.map aM.fName:=by rw[p3];exact yx _ hi
  have hcl:(iB (p.aX.take (i+1))).length≤4194304:=by
   have h1:(iB (p.aX.take (i+1))).length≤(iB p.aX).length:=by
    conv=>rhs;rw[←List.take_append_drop (i+1) p.aX]
    unfold iB
    rw[List.flatMap_append,List.length_append]
    omega
   omega
  rw[e3,List.length_append,List.length_map] at hcl
  refine W3 ?_
  rw[Dm]
  refine aT (ι:=Nat×List (List UInt8)) Tryz.checked.mixed rfl [1,6,7,8,9,11,12] (fun y=>[.c (.ptr (0,0) 0),.c (.bS (0,1) ((gN p).map encS)),.c (.bS (0,2) ((b++[p.aX[i].fName]).map encS)),.c (.bS (0,3) (y.2.map encS)),.c (.bS (0,4) []),.c (.d (.i .i64 i)),.c (.d (.i .i64 y.1))]) (fun y=>[.box (p.enc.map .d),.tok 1 ((gN p).map encS),.tok 1 ((b++[p.aX[i].fName]).map encS),.tok 1 (y.2.map encS),.tok 1 []]::S)
   (fun y=>y.1≤p.aX[i].aH.length∧y.2=c++(p.aX[i].aH.map aM.fName).take y.1) (fun y=>p.aX[i].aH.length-y.1) (0,c) rfl ?_ ⟨Nat.zero_le _,by simp⟩ ?_
  ·exact Z1
  rintro⟨k,e⟩ ⟨q1,q2⟩
  simp only at q1 q2
  have pl2:e.length≤4194304:=by rw[q2];simp;omega
  refine W1 ?_
  refine W3 ?_
  refine S0 (fun hb h=>?_) fun hb h=>?_
  ·have hk:k<p.aX[i].aH.length:=by omega
   refine W3 ?_
   rw[Dm]
   exact bP (k+1,e++[p.aX[i].aH[k].fName]) (by simp only;omega) rfl rfl ⟨by simp only;omega,by simp only;rw[q2,iR (by simpa using hk)];simp⟩
  ·have hk:k=p.aX[i].aH.length:=by omega
   have he:e=c++p.aX[i].aH.map aM.fName:=by rw[q2,List.take_of_length_le (by simp;omega)]
   exact bP (i+1,b++[p.aX[i].fName],e) (by simp only;omega) rfl rfl ⟨by simp only;omega,by simp only;rw[p2,iR (by simpa [jc] using hi)];simp[jc],by simp only;rw[e3,he]⟩
 have hb1:b=jc p:=by rw[p2,List.take_of_length_le (by simp[jc];omega)]
 have hc1:c=iB p.aX:=by rw[p3,List.take_of_length_le (by omega)]
 clear p1 p2 p3 pl hb h
 subst hb1
 subst hc1
 refine aT (ι:=Nat×List (List UInt8)) Tryz.checked.mixed rfl [1,6,7,8,9,13] (fun y=>[.c (.ptr (0,0) 0),.c (.bS (0,1) ((gN p).map encS)),.c (.bS (0,2) ((jc p).map encS)),.c (.bS (0,3) ((iB p.aX).map encS)),.c (.bS (0,4) (y.2.map encS)),.c (.d (.i .i64 y.1))]) (fun y=>[.box (p.enc.map .d),.tok 1 ((gN p).map encS),.tok 1 ((jc p).map encS),.tok 1 ((iB p.aX).map encS),.tok 1 (y.2.map encS)]::S)
  (fun y=>y.1≤p.cZ.length∧y.2=(fnNames p).take y.1) (fun y=>p.cZ.length-y.1) (0,[]) rfl ?_ ⟨Nat.zero_le _,rfl⟩ ?_
 ·exact Z1
 rintro⟨i,a⟩ ⟨p1,p2⟩
 simp only at p1 p2
 have pl:a.length≤p.cZ.length:=by rw[p2];simp[fnNames];omega
 refine W1 ?_
 refine S0 (fun hb h=>?_) fun hb h=>?_
 ·have hi:i<p.cZ.length:=by omega
  refine W3 ?_
  rw[Dm]
  exact bP (i+1,a++[p.cZ[i].fName]) (by simp only;omega) rfl rfl ⟨by simp only;omega,by simp only;rw[p2,iR (by simpa [fnNames] using hi)];simp[fnNames]⟩
 ·have ha:a=fnNames p:=by rw[p2,List.take_of_length_le (by simp[fnNames];omega)]
  rw[ha]
end Go.Proofs.YtocpgjlbagncjaaGreatDoor
namespace Go.Proofs.YtocpgjlbagncjaaGreatDoor
open Go Go.Ab
def AV(a b c d:List (List UInt8))(rest:List Ab.Obj)(S:Store):Store:=
 (.box [.bO [],.bO [],.bO [],.bO []]:: .box [.bS (0,2) (a.map encS),.bS (0,3) (b.map encS),.bS (0,4) (c.map encS),.bS (0,5) (d.map encS)]:: .tok 1 (a.map encS):: .tok 1 (b.map encS):: .tok 1 (c.map encS):: .tok 1 (d.map encS)::rest)::S
theorem Vr(ps:List bB)(hl:ps.length≤4194304)(hz:bD (ps.map bB.enc)≤4194304):aI Tryz.prog 177 [.c (.d (.sl (ps.map bB.enc)))] (.agg [.d (.sl ((yQ ps).map encS)),.d (.sl ((yR ps).map encS)),.d (.sl ((yS ps).map encS)),.d (.sl ((yT ps).map encS))]):=fun S=>by
 have hn:=TA ps
 refine aG (rs:=[.cell 2 187]) Tryz.checked.mixed Tryz.func177 Tryz.ntmps177 rfl rfl rfl rfl rfl ?_
 refine W1 ?_
 refine W3 ?_
 refine rO 1 0 1 [] [.bO [],.bO [],.bO [],.bO []] rfl rfl (by simp) ?_
 refine rO 1 1 1 [] [.bS (0,2) [],.bO [],.bO [],.bO []] rfl rfl (by simp) ?_
 refine rO 1 2 1 [] [.bS (0,2) [],.bS (0,3) [],.bO [],.bO []] rfl rfl (by simp) ?_
 refine rO 1 3 1 [] [.bS (0,2) [],.bS (0,3) [],.bS (0,4) [],.bO []] rfl rfl (by simp) ?_
 refine aT (ι:=Nat×List (List UInt8)×List (List UInt8)×List (List UInt8)×List (List UInt8)) Tryz.checked.mixed rfl [2,3,15,16,17] (fun y=>[.c (.ptr (0,0) 0),.c (.ptr (0,1) 0),.c (.d (.sl (ps.map bB.enc))),.c (.d (.i .i64 ps.length)),.c (.d (.i .i64 y.1))])
  (fun y=>[.box [.bO [],.bO [],.bO [],.bO []],.box [.bS (0,2) (y.2.1.map encS),.bS (0,3) (y.2.2.1.map encS),.bS (0,4) (y.2.2.2.1.map encS),.bS (0,5) (y.2.2.2.2.map encS)],.tok 1 (y.2.1.map encS),.tok 1 (y.2.2.1.map encS),.tok 1 (y.2.2.2.1.map encS),.tok 1 (y.2.2.2.2.map encS)]::S)
  (fun y=>y.1≤ps.length∧y.2.1=yQ (ps.take y.1)∧y.2.2.1=yR (ps.take y.1)∧y.2.2.2.1=yS (ps.take y.1)∧y.2.2.2.2=yT (ps.take y.1)) (fun y=>ps.length-y.1) (0,[],[],[],[]) rfl rfl ⟨Nat.zero_le _,rfl,rfl,rfl,rfl⟩ ?_
 rintro⟨i,a,b,c,d⟩ ⟨p1,p2,p3,p4,p5⟩
 simp only at p1 p2 p3 p4 p5
 refine W1 ?_
 refine S0 (fun hb h=>?_) fun hb h=>?_
 ·have hi:i<ps.length:=by omega
  have hp:ps[i].sz≤4194304:=by
   have hx:ps[i].sz≤bD (ps.map bB.enc):=dA (List.mem_map_of_mem (List.getElem_mem hi))
   omega
  refine W3 ?_
  have sub:∀(f:bB→List (List UInt8)),((ps.take (i+1)).flatMap f).length≤(ps.flatMap f).length:=fun f=>by
   conv=>rhs;rw[←List.take_append_drop (i+1) ps]
   rw[List.flatMap_append,List.length_append]
   omega
  have e2:yQ (ps.take (i+1))=a++gN ps[i]:=by rw[p2];exact yx _ hi
  have e3:yR (ps.take (i+1))=b++jc ps[i]:=by rw[p3];exact yx _ hi
  have e4:yS (ps.take (i+1))=c++iB ps[i].aX:=by rw[p4];exact yx _ hi
  have e5:yT (ps.take (i+1))=d++fnNames ps[i]:=by rw[p5];exact yx _ hi
  have l2:(a++gN ps[i]).length≤4194304:=by rw[←e2];have:=sub gN;unfold yQ at *;omega
  have l3:(b++jc ps[i]).length≤4194304:=by rw[←e3];have:=sub jc;unfold yR at *;omega
  have l4:(c++iB ps[i].aX).length≤4194304:=by rw[←e4];have:=sub (fun p=>iB p.aX);unfold yS at *;omega
  have l5:(d++fnNames ps[i]).length≤4194304:=by rw[←e5];have:=sub fnNames;unfold yT at *;omega
  have hbp:=bB.bounds hp
  rw[List.length_append] at l2 l3 l4 l5
  refine aT (ι:=Nat×List (List UInt8)) Tryz.checked.mixed rfl [2,3,5,15,16,17,22,23,24] (fun y=>[.c (.ptr (0,0) 0),.c (.ptr (0,1) 0),.c (.ptr (0,6) 0),.c (.d (.sl (ps.map bB.enc))),.c (.d (.i .i64 ps.length)),.c (.d (.i .i64 i)),.c (.d (.sl (ps[i].dz.map bC.enc))),.c (.d (.i .i64 ps[i].dz.length)),.c (.d (.i .i64 y.1))]) (fun y=>AV y.2 b c d [.box (ps[i].enc.map .d)] S)
   (fun y=>y.1≤ps[i].dz.length∧y.2=a++(gN ps[i]).take y.1) (fun y=>ps[i].dz.length-y.1) (0,a) rfl ?_ ⟨Nat.zero_le _,by simp⟩ ?_
  ·unfold AV
   exact Z1
  rintro⟨k,a'⟩ ⟨q1,q2⟩
  simp only at q1 q2
  have ql:a'.length≤4194304:=by rw[q2];simp[gN] at *;omega
  unfold AV
  refine W1 ?_
  refine S0 (fun hb h=>?_) fun hb h=>?_
  ·have hk:k<ps[i].dz.length:=by omega
   have ql':a'.length+1≤4194304:=by rw[q2];simp[gN] at *;omega
   refine W3 ?_
   rw[Dm]
   exact dh 7 (by decide) (k+1,a'++[ps[i].dz[k].fName]) (by simp only;omega) rfl rfl rfl rfl ⟨by simp only;omega,by simp only;rw[q2,iR (by simpa [gN] using hk)];simp[gN]⟩
  have ha:a'=a++gN ps[i]:=by rw[q2,List.take_of_length_le (by simp[gN];omega)]
  clear q1 q2 ql hb h
  subst ha
  refine aT (ι:=Nat×List (List UInt8)×List (List UInt8)) Tryz.checked.mixed rfl [2,3,5,15,16,17,37,38,39] (fun y=>[.c (.ptr (0,0) 0),.c (.ptr (0,1) 0),.c (.ptr (0,6) 0),.c (.d (.sl (ps.map bB.enc))),.c (.d (.i .i64 ps.length)),.c (.d (.i .i64 i)),.c (.d (.sl (ps[i].aX.map aS.enc))),.c (.d (.i .i64 ps[i].aX.length)),.c (.d (.i .i64 y.1))]) (fun y=>AV (a++gN ps[i]) y.2.1 y.2.2 d [.box (ps[i].enc.map .d)] S)
   (fun y=>y.1≤ps[i].aX.length∧y.2.1=b++(jc ps[i]).take y.1∧y.2.2=c++iB (ps[i].aX.take y.1)) (fun y=>ps[i].aX.length-y.1) (0,b,c) rfl ?_ ⟨Nat.zero_le _,by simp,by simp[iB]⟩ ?_
  ·unfold AV
   exact Z1
  rintro⟨k',b',c'⟩ ⟨q1,q2,q3⟩
  simp only at q1 q2 q3
  unfold AV
  refine W1 ?_
  refine S0 (fun hb h=>?_) fun hb h=>?_
  ·have hk:k'<ps[i].aX.length:=by omega
   have e6:iB (ps[i].aX.take (k'+1))=iB (ps[i].aX.take k')++ps[i].aX[k'].aH.map aM.fName:=yx _ hk
   have hcl:(iB (ps[i].aX.take (k'+1))).length≤(iB ps[i].aX).length:=by
    conv=>rhs;rw[←List.take_append_drop (k'+1) ps[i].aX]
    unfold iB
    rw[List.flatMap_append,List.length_append]
    omega
   have ql':b'.length+1≤4194304:=by rw[q2];simp[jc] at *;omega
   have qc:c'.length+ps[i].aX[k'].aH.length≤4194304:=by
    rw[e6,List.length_append,List.length_map] at hcl
    rw[q3,List.length_append]
    omega
   refine W3 ?_
   rw[Dm]
   refine aT (ι:=Nat×List (List UInt8)) Tryz.checked.mixed rfl [2,3,5,15,16,17,37,38,39,51,52,53] (fun y=>[.c (.ptr (0,0) 0),.c (.ptr (0,1) 0),.c (.ptr (0,6) 0),.c (.d (.sl (ps.map bB.enc))),.c (.d (.i .i64 ps.length)),.c (.d (.i .i64 i)),.c (.d (.sl (ps[i].aX.map aS.enc))),.c (.d (.i .i64 ps[i].aX.length)),.c (.d (.i .i64 k')),.c (.d (.sl (ps[i].aX[k'].aH.map aM.enc))),.c (.d (.i .i64 ps[i].aX[k'].aH.length)),.c (.d (.i .i64 y.1))]) (fun y=>AV (a++gN ps[i]) (b'++[ps[i].aX[k'].fName]) y.2 d [.box (ps[i].enc.map .d),.box (ps[i].aX[k'].enc.map .d)] S)
    (fun y=>y.1≤ps[i].aX[k'].aH.length∧y.2=c'++(ps[i].aX[k'].aH.map aM.fName).take y.1) (fun y=>ps[i].aX[k'].aH.length-y.1) (0,c') rfl ?_ ⟨Nat.zero_le _,by simp⟩ ?_
   ·unfold AV
    exact Z1
   rintro⟨m,c''⟩ ⟨r1,r2⟩
   simp only at r1 r2
   have rl:c''.length≤4194304:=by rw[r2];simp;omega
   unfold AV
   refine W1 ?_
   refine S0 (fun hb h=>?_) fun hb h=>?_
   ·have hm:m<ps[i].aX[k'].aH.length:=by omega
    have rl':c''.length+1≤4194304:=by rw[r2];simp;omega
    refine W3 ?_
    rw[Dm]
    exact dh 8 (by decide) (m+1,c''++[ps[i].aX[k'].aH[m].fName]) (by simp only;omega) rfl rfl rfl rfl ⟨by simp only;omega,by simp only;rw[r2,iR (by simpa using hm)];simp⟩
   ·have hm:m=ps[i].aX[k'].aH.length:=by omega
    have hc:c''=c'++ps[i].aX[k'].aH.map aM.fName:=by rw[r2,List.take_of_length_le (by simp;omega)]
    exact dh 7 (by decide) (k'+1,b'++[ps[i].aX[k'].fName],c'') (by simp only;omega) rfl rfl rfl rfl ⟨by simp only;omega,by simp only;rw[q2,iR (by simpa [jc] using hk)];simp[jc],by simp only;rw[hc,e6,q3,List.append_assoc]⟩
  have hb':b'=b++jc ps[i]:=by rw[q2,List.take_of_length_le (by simp[jc];omega)]
  have hc':c'=c++iB ps[i].aX:=by rw[q3,List.take_of_length_le (by omega)]
  clear q1 q2 q3 hb h
  subst hb'
  subst hc'
  refine aT (ι:=Nat×List (List UInt8)) Tryz.checked.mixed rfl [2,3,5,15,16,17,67,68,69] (fun y=>[.c (.ptr (0,0) 0),.c (.ptr (0,1) 0),.c (.ptr (0,6) 0),.c (.d (.sl (ps.map bB.enc))),.c (.d (.i .i64 ps.length)),.c (.d (.i .i64 i)),.c (.d (.sl (ps[i].cZ.map aY.enc))),.c (.d (.i .i64 ps[i].cZ.length)),.c (.d (.i .i64 y.1))]) (fun y=>AV (a++gN ps[i]) (b++jc ps[i]) (c++iB ps[i].aX) y.2 [.box (ps[i].enc.map .d)] S)
   (fun y=>y.1≤ps[i].cZ.length∧y.2=d++(fnNames ps[i]).take y.1) (fun y=>ps[i].cZ.length-y.1) (0,d) rfl ?_ ⟨Nat.zero_le _,by simp⟩ ?_
  ·unfold AV
   exact Z1
  rintro⟨k4,d'⟩ ⟨q1,q2⟩
  simp only at q1 q2
  have ql:d'.length≤4194304:=by rw[q2];simp[fnNames] at *;omega
  unfold AV
  refine W1 ?_
  refine S0 (fun hb h=>?_) fun hb h=>?_
  ·have hk:k4<ps[i].cZ.length:=by omega
   have ql':d'.length+1≤4194304:=by rw[q2];simp[fnNames] at *;omega
   refine W3 ?_
   rw[Dm]
   exact dh 7 (by decide) (k4+1,d'++[ps[i].cZ[k4].fName]) (by simp only;omega) rfl rfl rfl rfl ⟨by simp only;omega,by simp only;rw[q2,iR (by simpa [fnNames] using hk)];simp[fnNames]⟩
  ·have hd:d'=d++fnNames ps[i]:=by rw[q2,List.take_of_length_le (by simp[fnNames];omega)]
   exact dh 6 (by decide) (i+1,a++gN ps[i],b++jc ps[i],c++iB ps[i].aX,d') (by simp only;omega) rfl rfl rfl rfl ⟨by simp only;omega,e2.symm,e3.symm,e4.symm,by simp only;rw[hd,e5]⟩
 ·have hi:i=ps.length:=by omega
  rw[List.take_of_length_le (by omega)] at p2 p3 p4 p5
  rw[p2,p3,p4,p5]
theorem TB(ps:List bB)(hl:ps.length≤4194304)(hz:bD (ps.map bB.enc)≤4194304):aI Tryz.prog 97 [.c (.d (.sl (ps.map bB.enc)))] (.c (.d (.b (nE ps)))):=fun S=>by
 have hn:=TA ps
 refine aG (rs:=[.tmp 2]) Tryz.checked.mixed Tryz.func97 Tryz.ntmps97 rfl rfl rfl rfl rfl ?_
 refine W1 ?_
 refine C2 (Vr ps hl hz) ?_
 refine aT (ι:=Int) Tryz.checked.mixed rfl [6,7] (fun i=>[.agg [.d (.sl ((yQ ps).map encS)),.d (.sl ((yR ps).map encS)),.d (.sl ((yS ps).map encS)),.d (.sl ((yT ps).map encS))],.c (.d (.i .i64 i))]) (fun _=>[]::S)
  (fun i=>(0≤i∧i≤4)∧(1≤i→(yQ ps).Nodup)∧(2≤i→(yR ps).Nodup)∧(3≤i→(yS ps).Nodup)∧(4≤i→(yT ps).Nodup)) (fun i=>(4-i).toNat) 0 rfl rfl ⟨⟨by omega,by omega⟩,by omega,by omega,by omega,by omega⟩ ?_
 rintro i ⟨p0,p1,p2,p3,p4⟩
 have hi:i=0∨i=1∨i=2∨i=3∨i=4:=by omega
 rcases hi with rfl|rfl|rfl|rfl|rfl
 ·refine W1 ?_
  refine W3 ?_
  refine C2 (qj (yQ ps) (by omega)) ?_
  refine S0 (fun hb h=>?_) fun hb h=>?_
  ·exact aB (by unfold nE;rw[aF h];rfl)
  ·exact bP 1 (by decide) rfl rfl ⟨⟨by omega,by omega⟩,fun _=>h,by omega,by omega,by omega⟩
 ·refine W1 ?_
  refine W3 ?_
  refine C2 (qj (yR ps) (by omega)) ?_
  refine S0 (fun hb h=>?_) fun hb h=>?_
  ·exact aB (by unfold nE;rw[aF h];simp)
  ·exact bP 2 (by decide) rfl rfl ⟨⟨by omega,by omega⟩,fun _=>p1 (by omega),fun _=>h,by omega,by omega⟩
 ·refine W1 ?_
  refine W3 ?_
  refine C2 (qj (yS ps) (by omega)) ?_
  refine S0 (fun hb h=>?_) fun hb h=>?_
  ·exact aB (by unfold nE;rw[aF h];simp)
  ·exact bP 3 (by decide) rfl rfl ⟨⟨by omega,by omega⟩,fun _=>p1 (by omega),fun _=>p2 (by omega),fun _=>h,by omega⟩
 ·refine W1 ?_
  refine W3 ?_
  refine C2 (qj (yT ps) (by omega)) ?_
  refine S0 (fun hb h=>?_) fun hb h=>?_
  ·exact aB (by unfold nE;rw[aF h];simp)
  ·exact bP 4 (by decide) rfl rfl ⟨⟨by omega,by omega⟩,fun _=>p1 (by omega),fun _=>p2 (by omega),fun _=>p3 (by omega),fun _=>h⟩
 ·refine W1 ?_
  exact aB (by unfold nE;rw[bA (p1 (by omega)),bA (p2 (by omega)),bA (p3 (by omega)),bA (p4 (by omega))];rfl)
end Go.Proofs.YtocpgjlbagncjaaGreatDoor
namespace Go.Ab
noncomputable def vZ(p:bB):Bool:=p.dz.all dP&&(p.aX.all fO&&(p.dx.all fH&&p.cZ.all jX))
noncomputable def uT(p:bB):Bool:=validName p.fName&&(dec (p.fU.length≤5)&&(iL p.fU&&(!dec (p.fName∈p.fU)&&dec (p.dz.length+p.aX.length+p.dx.length+p.cZ.length≤24))))
noncomputable def validPkg(p:bB):Bool:=uT p&&(nE [p]&&vZ p)
theorem bB.sum(x:bB):x.fName.length+(x.fU.length+bD (x.fU.map encS))+(x.dz.length+bD (x.dz.map bC.enc))+(x.aX.length+bD (x.aX.map aS.enc))+(x.dx.length+bD (x.dx.map aQ.enc))+(x.cZ.length+bD (x.cZ.map aY.enc))≤x.sz:=by
 simp only[bB.sz,bB.aD,cu,bN,D.sz,List.length_map]
 omega
theorem wh{α:Type}{f:α→Bool}{xs:List α}{i:Nat}(hi:i<xs.length):(xs.drop i).all f=(f xs[i]&&(xs.drop (i+1)).all f):=by
 rw[List.drop_eq_getElem_cons hi,List.all_cons]
end Go.Ab
namespace Go.Proofs.YtocpgjlbagncjaaGreatDoor
open Go Go.Ab
theorem NY(xs:List (List UInt8))(s:List UInt8)(hl:xs.length≤1073741824):aI Tryz.prog 96 [.c (.d (.sl (xs.map encS))),.c (.d (.s s))] (.c (.d (.i .i64 (wU xs s)))):=fun S=>by
 refine aG (rs:=[.tmp 4]) Tryz.checked.mixed Tryz.func96 Tryz.ntmps96 rfl rfl rfl rfl rfl ?_
 refine W1 ?_
 exact C4 (OQ xs s hl)
set_option maxHeartbeats 4000000 in
theorem MJ(p:bB)(hsz:p.sz≤4194304):aI Tryz.prog 38 [p.v] (.c (.d (.b (validPkg p)))):=fun S=>by
 have hs:=bB.sum p
 have hV:∀s∈p.fU,s.length≤4194304:=fun s h=>by have:=rU h;omega
 have no:uT p=false→V.c (.d (.b false))=V.c (.d (.b (validPkg p))):=fun h=>aB (by unfold validPkg;rw[h];rfl)
 have hu:=TB [p] (by simp) (by simp[bD];have:cu p.enc=p.sz:=rfl;omega)
 have hix:decide (wU p.fU p.fName≥0)=dec (p.fName∈p.fU):=Lf
 refine aG (rs:=[.tmp 2]) Tryz.checked.mixed Tryz.func38 Tryz.ntmps38 rfl rfl rfl rfl rfl ?_
 refine W1 ?_
 refine C2 (iD p.fName (by omega)) ?_
 refine S0 (fun hb h=>?_) fun hb h=>?_
 ·exact no (by unfold uT;rw[h];rfl)
 have k1:=h
 refine S0 (fun hb h=>?_) fun hb h=>?_
 ·exact no (by unfold uT;rw[aF (show ¬p.fU.length≤5 by omega)];simp)
 have k2:=h
 refine W3 ?_
 refine C2 (oW p.fU (by omega) hV) ?_
 refine S0 (fun hb h=>?_) fun hb h=>?_
 ·exact no (by unfold uT;rw[h];simp)
 have k3:=h
 refine W3 ?_
 refine C1 (NY p.fU p.fName (by omega)) ?_
 rw[show decide (0≤wU p.fU p.fName)=dec (p.fName∈p.fU) from hix]
 refine S0 (fun hb h=>?_) fun hb h=>?_
 ·exact no (by unfold uT;rw[bA h];simp)
 have k4:=h
 refine S0 (fun hb h=>?_) fun hb h=>?_
 ·exact no (by unfold uT;rw[aF (show ¬p.dz.length+p.aX.length+p.dx.length+p.cZ.length≤24 by omega)];simp)
 have hh:uT p=true:=by unfold uT;rw[k1,k3,bA (show p.fU.length≤5 by omega),aF k4,bA (by omega)];rfl
 simp only[List.map_cons,List.map_nil] at hu
 refine W3 ?_
 refine aZ hu ?_
 refine W1 ?_
 clear hu hix no k1 k2 k3 k4
 have fin:validPkg p=((((nE [p]&&p.dz.all dP)&&p.aX.all fO)&&p.dx.all fH)&&p.cZ.all jX):=by unfold validPkg vZ;rw[hh];simp[Bool.and_assoc]
 generalize nE [p]=b0 at fin ⊢
 refine aT (ι:=Nat×Bool) Tryz.checked.mixed rfl [1,3,56,57,58] (fun y=>[.c (.ptr (0,0) 0),.c (.d (.b y.2)),.c (.d (.sl (p.dz.map bC.enc))),.c (.d (.i .i64 p.dz.length)),.c (.d (.i .i64 y.1))]) (fun _=>[.box (p.enc.map .d)]::S)
  (fun y=>y.1≤p.dz.length∧(y.2&&(p.dz.drop y.1).all dP)=(b0&&p.dz.all dP)) (fun y=>p.dz.length-y.1) (0,b0) rfl ?_ ⟨Nat.zero_le _,rfl⟩ ?_
 ·exact Z1
 rintro⟨i,b⟩ ⟨p1,p2⟩
 simp only at p1 p2
 refine W1 ?_
 refine S0 (fun hb h=>?_) fun hb h=>?_
 ·have hi:i<p.dz.length:=by omega
  have hx:p.dz[i].sz≤bD (p.dz.map bC.enc):=dA (List.mem_map_of_mem (List.getElem_mem hi))
  rw[wh hi] at p2
  refine W3 ?_
  refine S0 (fun hb h=>?_) fun hb h=>?_
  ·have hb1:=h
   rw[hb1,Bool.true_and] at p2
   refine C2 (Bg p.dz[i] (by omega)) ?_
   exact dh 1 (by decide) (i+1,dP p.dz[i]) (by simp only;omega) rfl rfl rfl rfl ⟨by simp only;omega,p2⟩
  ·have hb1:=h
   rw[hb1,Bool.false_and] at p2
   exact dh 1 (by decide) (i+1,false) (by simp only;omega) rfl rfl rfl rfl ⟨by simp only;omega,p2⟩
 rw[List.drop_of_length_le (by omega),List.all_nil,Bool.and_true] at p2
 rw[←p2] at fin
 clear p2 p1 hb h
 generalize b=b1 at fin ⊢
 refine aT (ι:=Nat×Bool) Tryz.checked.mixed rfl [1,3,69,70,71] (fun y=>[.c (.ptr (0,0) 0),.c (.d (.b y.2)),.c (.d (.sl (p.aX.map aS.enc))),.c (.d (.i .i64 p.aX.length)),.c (.d (.i .i64 y.1))]) (fun _=>[.box (p.enc.map .d)]::S)
  (fun y=>y.1≤p.aX.length∧(y.2&&(p.aX.drop y.1).all fO)=(b1&&p.aX.all fO)) (fun y=>p.aX.length-y.1) (0,b1) rfl ?_ ⟨Nat.zero_le _,rfl⟩ ?_
 ·exact Z1
 rintro⟨i,b⟩ ⟨p1,p2⟩
 simp only at p1 p2
 refine W1 ?_
 refine S0 (fun hb h=>?_) fun hb h=>?_
 ·have hi:i<p.aX.length:=by omega
  have hx:p.aX[i].sz≤bD (p.aX.map aS.enc):=dA (List.mem_map_of_mem (List.getElem_mem hi))
  rw[wh hi] at p2
  refine W3 ?_
  refine S0 (fun hb h=>?_) fun hb h=>?_
  ·have hb1:=h
   rw[hb1,Bool.true_and] at p2
   refine C2 (Cr p.aX[i] (by omega)) ?_
   exact dh 1 (by decide) (i+1,fO p.aX[i]) (by simp only;omega) rfl rfl rfl rfl ⟨by simp only;omega,p2⟩
  ·have hb1:=h
   rw[hb1,Bool.false_and] at p2
   exact dh 1 (by decide) (i+1,false) (by simp only;omega) rfl rfl rfl rfl ⟨by simp only;omega,p2⟩
 rw[List.drop_of_length_le (by omega),List.all_nil,Bool.and_true] at p2
 rw[←p2] at fin
 clear p2 p1 hb h
 generalize b=b2 at fin ⊢
 refine aT (ι:=Nat×Bool) Tryz.checked.mixed rfl [1,3,82,83,84] (fun y=>[.c (.ptr (0,0) 0),.c (.d (.b y.2)),.c (.d (.sl (p.dx.map aQ.enc))),.c (.d (.i .i64 p.dx.length)),.c (.d (.i .i64 y.1))]) (fun _=>[.box (p.enc.map .d)]::S)
  (fun y=>y.1≤p.dx.length∧(y.2&&(p.dx.drop y.1).all fH)=(b2&&p.dx.all fH)) (fun y=>p.dx.length-y.1) (0,b2) rfl ?_ ⟨Nat.zero_le _,rfl⟩ ?_
 ·exact Z1
 rintro⟨i,b⟩ ⟨p1,p2⟩
 simp only at p1 p2
 refine W1 ?_
 refine S0 (fun hb h=>?_) fun hb h=>?_
 ·have hi:i<p.dx.length:=by omega
  have hx:p.dx[i].sz≤bD (p.dx.map aQ.enc):=dA (List.mem_map_of_mem (List.getElem_mem hi))
  rw[wh hi] at p2
  refine W3 ?_
  refine S0 (fun hb h=>?_) fun hb h=>?_
  ·have hb1:=h
   rw[hb1,Bool.true_and] at p2
   refine C2 (CG p.dx[i] (by omega)) ?_
   exact dh 1 (by decide) (i+1,fH p.dx[i]) (by simp only;omega) rfl rfl rfl rfl ⟨by simp only;omega,p2⟩
  ·have hb1:=h
   rw[hb1,Bool.false_and] at p2
   exact dh 1 (by decide) (i+1,false) (by simp only;omega) rfl rfl rfl rfl ⟨by simp only;omega,p2⟩
 rw[List.drop_of_length_le (by omega),List.all_nil,Bool.and_true] at p2
 rw[←p2] at fin
 clear p2 p1 hb h
 generalize b=b3 at fin ⊢
 refine aT (ι:=Nat×Bool) Tryz.checked.mixed rfl [3,95,96,97] (fun y=>[.c (.d (.b y.2)),.c (.d (.sl (p.cZ.map aY.enc))),.c (.d (.i .i64 p.cZ.length)),.c (.d (.i .i64 y.1))]) (fun _=>[.box (p.enc.map .d)]::S)
  (fun y=>y.1≤p.cZ.length∧(y.2&&(p.cZ.drop y.1).all jX)=(b3&&p.cZ.all jX)) (fun y=>p.cZ.length-y.1) (0,b3) rfl ?_ ⟨Nat.zero_le _,rfl⟩ ?_
 ·exact Z1
 rintro⟨i,b⟩ ⟨p1,p2⟩
 simp only at p1 p2
 refine W1 ?_
 refine S0 (fun hb h=>?_) fun hb h=>?_
 ·have hi:i<p.cZ.length:=by omega
  have hx:p.cZ[i].sz≤bD (p.cZ.map aY.enc):=dA (List.mem_map_of_mem (List.getElem_mem hi))
  rw[wh hi] at p2
  refine W3 ?_
  refine S0 (fun hb h=>?_) fun hb h=>?_
  ·have hb1:=h
   rw[hb1,Bool.true_and] at p2
   refine C2 (EC p.cZ[i] (by omega)) ?_
   exact dh 1 (by decide) (i+1,jX p.cZ[i]) (by simp only;omega) rfl rfl rfl rfl ⟨by simp only;omega,p2⟩
  ·have hb1:=h
   rw[hb1,Bool.false_and] at p2
   exact dh 1 (by decide) (i+1,false) (by simp only;omega) rfl rfl rfl rfl ⟨by simp only;omega,p2⟩
 rw[List.drop_of_length_le (by omega),List.all_nil,Bool.and_true] at p2
 rw[←p2] at fin
 clear p2 p1 hb h
 exact aB fin.symm
set_option maxHeartbeats 4000000 in
theorem Vs(p:bB)(hsz:p.sz≤4194304):aI Tryz.prog 88 [p.v] (.c (.d (.b (vZ p)))):=fun S=>by
 have hs:=bB.sum p
 refine aG (rs:=[.tmp 2]) Tryz.checked.mixed Tryz.func88 Tryz.ntmps88 rfl rfl rfl rfl rfl ?_
 refine W1 ?_
 refine aT (ι:=Nat) Tryz.checked.mixed rfl [1,3] (fun i=>[.c (.ptr (0,0) 0),.c (.d (.i .i64 i))]) (fun _=>[.box (p.enc.map .d)]::S)
  (fun i=>i≤p.dz.length∧(p.dz.drop i).all dP=p.dz.all dP) (fun i=>p.dz.length-i) 0 rfl ?_ ⟨Nat.zero_le _,rfl⟩ ?_
 ·exact Z1
 rintro i ⟨p1,p2⟩
 refine W1 ?_
 refine S0 (fun hb h=>?_) fun hb h=>?_
 ·have hi:i<p.dz.length:=by omega
  have hx:p.dz[i].sz≤bD (p.dz.map bC.enc):=dA (List.mem_map_of_mem (List.getElem_mem hi))
  rw[wh hi] at p2
  refine W3 ?_
  refine C2 (qG p.dz[i] (by omega)) ?_
  refine S0 (fun hb h=>?_) fun hb h=>?_
  ·exact aB (by unfold vZ;rw[←p2,h];simp)
  ·rw[h,Bool.true_and] at p2
   exact bP (i+1) (by omega) rfl rfl ⟨by omega,p2⟩
 rw[List.drop_of_length_le (by omega),List.all_nil] at p2
 have f3:=p2.symm
 clear p2 p1 hb h
 refine aT (ι:=Nat) Tryz.checked.mixed rfl [1,4] (fun i=>[.c (.ptr (0,0) 0),.c (.d (.i .i64 i))]) (fun _=>[.box (p.enc.map .d)]::S)
  (fun i=>i≤p.aX.length∧(p.aX.drop i).all fO=p.aX.all fO) (fun i=>p.aX.length-i) 0 rfl ?_ ⟨Nat.zero_le _,rfl⟩ ?_
 ·exact Z1
 rintro i ⟨p1,p2⟩
 refine W1 ?_
 refine S0 (fun hb h=>?_) fun hb h=>?_
 ·have hi:i<p.aX.length:=by omega
  have hx:p.aX[i].sz≤bD (p.aX.map aS.enc):=dA (List.mem_map_of_mem (List.getElem_mem hi))
  rw[wh hi] at p2
  refine W3 ?_
  refine C2 (Cq p.aX[i] (by omega)) ?_
  refine S0 (fun hb h=>?_) fun hb h=>?_
  ·exact aB (by unfold vZ;rw[←p2,h];simp)
  ·rw[h,Bool.true_and] at p2
   exact bP (i+1) (by omega) rfl rfl ⟨by omega,p2⟩
 rw[List.drop_of_length_le (by omega),List.all_nil] at p2
 have f4:=p2.symm
 clear p2 p1 hb h
 refine aT (ι:=Nat) Tryz.checked.mixed rfl [1,5] (fun i=>[.c (.ptr (0,0) 0),.c (.d (.i .i64 i))]) (fun _=>[.box (p.enc.map .d)]::S)
  (fun i=>i≤p.dx.length∧(p.dx.drop i).all fH=p.dx.all fH) (fun i=>p.dx.length-i) 0 rfl ?_ ⟨Nat.zero_le _,rfl⟩ ?_
 ·exact Z1
 rintro i ⟨p1,p2⟩
 refine W1 ?_
 refine S0 (fun hb h=>?_) fun hb h=>?_
 ·have hi:i<p.dx.length:=by omega
  have hx:p.dx[i].sz≤bD (p.dx.map aQ.enc):=dA (List.mem_map_of_mem (List.getElem_mem hi))
  rw[wh hi] at p2
  refine W3 ?_
  refine C2 (oP p.dx[i] (by omega)) ?_
  refine S0 (fun hb h=>?_) fun hb h=>?_
  ·exact aB (by unfold vZ;rw[←p2,h];simp)
  ·rw[h,Bool.true_and] at p2
   exact bP (i+1) (by omega) rfl rfl ⟨by omega,p2⟩
 rw[List.drop_of_length_le (by omega),List.all_nil] at p2
 have f5:=p2.symm
 clear p2 p1 hb h
 refine aT (ι:=Nat) Tryz.checked.mixed rfl [1,6] (fun i=>[.c (.ptr (0,0) 0),.c (.d (.i .i64 i))]) (fun _=>[.box (p.enc.map .d)]::S)
  (fun i=>i≤p.cZ.length∧(p.cZ.drop i).all jX=p.cZ.all jX) (fun i=>p.cZ.length-i) 0 rfl ?_ ⟨Nat.zero_le _,rfl⟩ ?_
 ·exact Z1
 rintro i ⟨p1,p2⟩
 refine W1 ?_
 refine S0 (fun hb h=>?_) fun hb h=>?_
 ·have hi:i<p.cZ.length:=by omega
  have hx:p.cZ[i].sz≤bD (p.cZ.map aY.enc):=dA (List.mem_map_of_mem (List.getElem_mem hi))
  rw[wh hi] at p2
  refine W3 ?_
  refine C2 (zB p.cZ[i] (by omega)) ?_
  refine S0 (fun hb h=>?_) fun hb h=>?_
  ·exact aB (by unfold vZ;rw[←p2,h];simp)
  ·rw[h,Bool.true_and] at p2
   exact bP (i+1) (by omega) rfl rfl ⟨by omega,p2⟩
 rw[List.drop_of_length_le (by omega),List.all_nil] at p2
 have f6:=p2.symm
 clear p2 p1 hb h
 exact aB (by unfold vZ;rw[f3,f4,f5,f6];rfl)
end Go.Proofs.YtocpgjlbagncjaaGreatDoor
