/-
  SEVERAL TEXTS IN ONE (merged by program): contracts and models, each with its own heading.
-/
import Derived.Test.YtocpgjlbagncjaaGreatDoorPartRvbC
import Derived.Lib.ItoaNum
import Derived.Lib.Atoi
import Derived.Shelf.LaysM
import Derived.Shelf.Strconv.Itoa3
import Derived.Test.YtocpgjlbagncjaaGreatDoorProg
import Derived.WalkKit
import Derived.ProofKit
import Derived.Lib.AppendZeros
import Derived.Laws.Cover3
set_option linter.unusedSimpArgs false
set_option linter.unusedVariables false
set_option maxRecDepth 4000
namespace Go.Proofs.YtocpgjlbagncjaaGreatDoor
open Go Go.Ab
theorem BG{x:au}{i:Nat}(hi:i<x.fArgs.length)(h:x.sz≤4194304):x.fArgs[i].sz≤4194304∧x.fArgs.length≤4194304∧x.fName.length≤4194304:=by
 have hx:x.fArgs[i].sz≤bD (x.fArgs.map au.enc):=dA (List.mem_map_of_mem (List.getElem_mem hi))
 simp only[au.sz,au.aD,cu,D.sz,List.length_map] at h
 omega
theorem G7{x:au}(h:x.sz≤4194304):x.fArgs.length≤4194304∧x.fName.length≤4194304:=by
 simp only[au.sz,au.aD,cu,D.sz,List.length_map] at h
 omega
theorem G8:∀n:Nat,∀t:au,SizeOf.sizeOf t<n→t.sz≤4194304→∀(g:Nat) (caps:List (Key×Nat)) (α:Type) (st:α→Store) (I:Nat→α→Prop) (f:α→au→α) (hf:Fb Tryz.prog g caps st I f au.v (fun u=>u.sz≤4194304)) (m:Nat) (a:α),I (m+t.cnt) a→
 I m ((qD t).foldl f a)∧cB Tryz.prog 256 [t.v,.c (.fn g caps)] (st a) (fun r S'=>r=.dY []∧S'=st ((qD t).foldl f a))
 |0=>fun t h=>by omega
 |n+1=>by
  have ih:=G8 n
  intro t hn hsz g caps α st I f hf m a ha
  have jS:=au.gM t
  have hts:=G7 hsz
  rw[au.qC,show m+(1+au.eG t.fArgs)=(m+au.eG t.fArgs)+1 by omega] at ha
  have h1:=hf _ a t ha hsz
  have hI:∀(ts:List au),SizeOf.sizeOf ts<n→(∀x∈ts,x.sz≤4194304)→∀a,I (m+au.eG ts) a→I m ((pR ts).foldl f a):=by
   intro ts
   induction ts with
   |nil=>intro _ _ a ha;exact ha
   |cons x xs ihx=>
    intro hs hz a ha
    simp only[List.cons.sizeOf_spec] at hs
    rw[pR,List.foldl_append]
    rw[au.eG,show m+(x.cnt+au.eG xs)=(m+au.eG xs)+x.cnt by omega] at ha
    exact ihx (by omega) (fun y hy=>hz y (by simp[hy])) _ (ih x (by omega) (hz x (by simp)) g caps α st I f hf _ a ha).1
  have hall:∀x∈t.fArgs,x.sz≤4194304:=fun x hx=>by
   obtain⟨i,hi,e⟩:=List.getElem_of_mem hx
   rw[←e];exact(BG hi hsz).1
  refine⟨by rw[Am,List.foldl_cons];exact hI t.fArgs (by omega) hall _ h1.1,?_⟩
  refine aG (rs:=[]) Tryz.checked.mixed Tryz.func256 Tryz.ntmps256 rfl rfl rfl rfl rfl ?_
  refine W1 ?_
  refine bJ rfl (h1.2 [_]) ?_
  refine W1 ?_
  refine aT (ι:=Nat×α) Tryz.checked.mixed rfl [1,10,11,12] (fun y=>[.c (.fn g (jL 1 caps)),.c (.d (.sl (t.fArgs.map au.enc))),.c (.d (.i .i64 t.fArgs.length)),.c (.d (.i .i64 y.1))]) (fun y=>[.box [.d (.i .i64 t.aK),.d (.s t.fName),.d (.sl (t.fArgs.map au.enc))]]::st y.2)
   (fun y=>y.1≤t.fArgs.length∧I (m+au.eG (t.fArgs.drop y.1)) y.2∧(pR (t.fArgs.drop y.1)).foldl f y.2=(qD t).foldl f a) (fun y=>t.fArgs.length-y.1) (0,f a t) rfl rfl ⟨Nat.zero_le _,h1.1,by rw[Am,List.foldl_cons];rfl⟩ ?_
  rintro⟨i,b⟩ ⟨p1,p2,p3⟩
  simp only at p1 p2 p3
  refine W1 ?_
  refine S0 (fun hb h=>?_) fun hb h=>?_
  ·have hi:i<t.fArgs.length:=by omega
   have hs:=List.sizeOf_lt_of_mem (List.getElem_mem hi)
   rw[zT hi,List.foldl_append] at p3
   rw[List.drop_eq_getElem_cons hi,au.eG,show m+(t.fArgs[i].cnt+au.eG (t.fArgs.drop (i+1)))=(m+au.eG (t.fArgs.drop (i+1)))+t.fArgs[i].cnt by omega] at p2
   have h2:=(ih t.fArgs[i] (by omega) (BG hi hsz).1 g caps α st I f hf _ b p2).1
   refine W3 ?_
   refine bJ rfl (((ih t.fArgs[i] (by omega) (BG hi hsz).1 g (jL 1 caps) α (fun a=>[.box [.d (.i .i64 t.aK),.d (.s t.fName),.d (.sl (t.fArgs.map au.enc))],.box [.d (.i .i64 t.fArgs[i].aK),.d (.s t.fArgs[i].fName),.d (.sl (t.fArgs[i].fArgs.map au.enc))]]::st a) I f (hf.push _) _ b p2)).2) ?_
   refine W1 ?_
   exact dh 1 (by decide) (i+1,(qD t.fArgs[i]).foldl f b) (by simp only;omega) rfl rfl (by simp only[jo,kF,List.all_cons,List.all_nil,V.refs,C.refs,RQ,Bool.and_true]) rfl ⟨by simp only;omega,h2,p3⟩
  ·have hi:i=t.fArgs.length:=by omega
   rw[hi,List.drop_length,pR,List.foldl_nil] at p3
   rw[p3]
theorem JA{t:au}(hsz:t.sz≤4194304){g:Nat}{caps:List (Key×Nat)}{α:Type}{st:α→Store}{I:Nat→α→Prop}{f:α→au→α}(hf:Fb Tryz.prog g caps st I f au.v (fun u=>u.sz≤4194304))(m:Nat)(a:α)(ha:I (m+t.cnt) a):
 I m ((qD t).foldl f a)∧cB Tryz.prog 256 [t.v,.c (.fn g caps)] (st a) (fun r S'=>r=.dY []∧S'=st ((qD t).foldl f a)):=G8 _ t (Nat.lt_succ_self _) hsz g caps α st I f hf m a ha
theorem Ja(rest:List Ab.Obj)(S:Store):Fb Tryz.prog 300 [((0,0),0)] (fun out:List (List UInt8)=>(.box [.bS (0,1) (out.map encS)]:: .tok 1 (out.map encS)::rest)::S) (fun n out=>out.length+n≤1073741824) u7 au.v (fun u=>u.sz≤4194304):=by
 intro n out u hI hu
 refine⟨by have:=J2 out u;omega,fun F=> ?_⟩
 have hts:=G7 hu
 refine aG (rs:=[]) Tryz.checked.mixed Tryz.func300 Tryz.ntmps300 rfl rfl rfl rfl rfl ?_
 refine W1 ?_
 refine S0 (fun hb h=>?_) fun hb h=>?_
 ·have h1:=h
  refine C2 (q8 out u.fName (by omega)) ?_
  refine S0 (fun hb h=>?_) fun hb h=>?_
  ·refine W3 ?_
   have ha:u7 out u=out++[u.fName]:=if_pos ⟨h1,h⟩
   rw[ha];simp[encS]
  ·have ha:u7 out u=out:=if_neg fun x=>x.2 h
   rw[ha]
 ·have ha:u7 out u=out:=if_neg fun x=>h x.1
  rw[ha]
theorem NC(ts:List au)(hl:ts.length≤4194304)(hz:∀t∈ts,t.sz≤4194304)(hc:au.eG ts≤1073741823):aI Tryz.prog 259 [.c (.d (.sl (ts.map au.enc)))] (.c (.d (.sl ((uE [] ts).map encS)))):=fun S=>by
 refine aG (rs:=[.tmp 2]) Tryz.checked.mixed Tryz.func259 Tryz.ntmps259 rfl rfl rfl rfl rfl ?_
 refine W1 ?_
 refine W3 ?_
 refine rO 0 0 1 [] [.bO []] rfl rfl (by simp) ?_
 refine aT (ι:=Nat×List (List UInt8)) Tryz.checked.mixed rfl [3,7,8,9] (fun y=>[.c (.ptr (0,0) 0),.c (.d (.sl (ts.map au.enc))),.c (.d (.i .i64 ts.length)),.c (.d (.i .i64 y.1))]) (fun y=>[.box [.bS (0,1) (y.2.map encS)],.tok 1 (y.2.map encS)]::S)
  (fun y=>y.1≤ts.length∧y.2.length+au.eG (ts.drop y.1)≤1073741824∧uE y.2 (ts.drop y.1)=uE [] ts) (fun y=>ts.length-y.1) (0,[]) rfl rfl ⟨Nat.zero_le _,by simp only[List.drop_zero,List.length_nil];omega,rfl⟩ ?_
 rintro⟨i,out⟩ ⟨p1,p2,p3⟩
 simp only at p1 p2 p3
 refine W1 ?_
 refine S0 (fun hb h=>?_) fun hb h=>?_
 ·have hi:i<ts.length:=by omega
  rw[Jz hi] at p3
  rw[List.drop_eq_getElem_cons hi,au.eG] at p2
  have hlen:=Ao ts[i] out
  refine W3 ?_
  refine bJ rfl (JA (hz _ (List.getElem_mem hi)) (Ja [Ab.Obj.box [.d (.i .i64 ts[i].aK),.d (.s ts[i].fName),.d (.sl (ts[i].fArgs.map au.enc))]] S) (au.eG (ts.drop (i+1))) out (by omega)).2 ?_
  refine W1 ?_
  exact dh 2 (by decide) (i+1,jy out ts[i]) (by simp only;omega) rfl rfl rfl rfl ⟨by simp only;omega,by simp only;omega,p3⟩
 ·have hi:i=ts.length:=by omega
  rw[hi,List.drop_length] at p3
  rw[←p3];rfl
theorem yM(t:au)(hsz:t.sz≤4194304):aI Tryz.prog 183 [t.v] (.c (.d (.sl ((jy [] t).map encS)))):=fun S=>by
 have hc:=mh t
 have h0:=NC [t] (by simp) (by simpa using hsz) (by simp[au.eG];omega)
 simp only[List.map_cons,List.map_nil,au.aD] at h0
 refine aG (rs:=[.tmp 2]) Tryz.checked.mixed Tryz.func183 Tryz.ntmps183 rfl rfl rfl rfl rfl ?_
 refine W1 ?_
 refine W3 ?_
 refine aZ h0 ?_
 refine W1 ?_
 rw[show uE [] [t]=jy [] t by simp[uE,jy,pR]]
theorem LM:∀n:Nat,∀t:au,SizeOf.sizeOf t<n→t.sz≤4194304→∀(out:List (List UInt8)) (l j:Nat) (S:Store),bI S (l,j)=some (.tok 1 (out.map encS))→out.length+t.cnt≤1073741824→
 cB Tryz.prog 320 [t.v,.c (.bS (l,j) (out.map encS))] S (fun r S'=>r=.c (.bS (l,j) ((jy out t).map encS))∧S'=bQ S (l,j) (.tok 1 ((jy out t).map encS)))
 |0=>fun t h=>by omega
 |n+1=>by
  have ih:=LM n
  intro t hn hsz out l j S hk hc
  have jS:=au.gM t
  have hts:=G7 hsz
  have hcn:=au.qC t
  have LP:∀x:Ab.Obj,bI (bQ S (l,j) x) (l,j)=some x:=fun x=>dK _ _ _ _ hk
  have hS0:bQ S (l,j) (.tok 1 (out.map encS))=S:=jG _ _ hk
  have fin:jy out t=uE (u7 out t) t.fArgs:=adK out t
  have hal:=J2 out t
  have e0:(out++[t.fName]).map encS=out.map encS++[[D.s t.fName]]:=by simp[encS]
  refine aG (rs:=[.tmp 4]) Tryz.checked.mixed Tryz.func320 Tryz.ntmps320 rfl rfl rfl rfl rfl ?_
  simp -implicitDefEqProofs (disch:=omega) only[go_sem,hk]
  repeat' (first
   |(with_reducible refine dU (fun hb=> ?_) (fun hb=> ?_)<;>have h:=hb<;>(try simp only[wf_preprocess] at h)<;>simp -implicitDefEqProofs (disch:=omega) only[go_sem,hb,hk]<;>refine W3 ?_)
   |(refine aZ (qZ out t.fName (by omega)) ?_;simp -implicitDefEqProofs (disch:=omega) only[go_sem,hk];refine W3 ?_))
  all_goals first
   |(have ha:u7 out t=out++[t.fName]:=if_pos ⟨by assumption,by assumption⟩)
   |(have ha:u7 out t=out:=if_neg (fun x=>by have:=x.1;have:=x.2;contradiction))
  all_goals
   refine aT (ι:=Nat×List (List UInt8)) Tryz.checked.mixed rfl [1,2,5] (fun y=>[.c (.bS (1+l,j) (y.2.map encS)),.c (.ptr (0,0) 0),.c (.d (.i .i64 y.1))]) (fun y=>[.box [.d (.i .i64 t.aK),.d (.s t.fName),.d (.sl (t.fArgs.map au.enc))]]::bQ S (l,j) (.tok 1 (y.2.map encS)))
    (fun y=>y.1≤t.fArgs.length∧y.2.length+au.eG (t.fArgs.drop y.1)≤1073741824∧uE y.2 (t.fArgs.drop y.1)=jy out t) (fun y=>t.fArgs.length-y.1) (0,u7 out t) (by first|(rw[ha,e0];rfl)|(rw[ha];rfl)) (by first|(simp only[ha,e0];done)|(simp only[ha,hS0];done)) ⟨Nat.zero_le _,by simp only[List.drop_zero];omega,by rw[fin];rfl⟩ ?_
   rintro⟨i,b⟩ ⟨p1,p2,p3⟩
   simp only at p1 p2 p3
   refine W1 ?_
   refine S0 (fun hb h=>?_) fun hb h=>?_
   ·have hi:i<t.fArgs.length:=by omega
    have hs:=List.sizeOf_lt_of_mem (List.getElem_mem hi)
    rw[Jz hi] at p3
    rw[List.drop_eq_getElem_cons hi,au.eG] at p2
    have hlen:=Ao t.fArgs[i] b
    refine W3 ?_
    refine bJ rfl (ih t.fArgs[i] (by omega) (BG hi hsz).1 b (1+l) j _ (by rw[dR];exact LP _) (by omega)) ?_
    simp -implicitDefEqProofs (disch:=omega) only[go_sem,bq]
    exact bP (i+1,jy b t.fArgs[i]) (by simp only;omega) rfl rfl ⟨by simp only;omega,by simp only;omega,p3⟩
   ·have hi:i=t.fArgs.length:=by omega
    rw[hi,List.drop_length] at p3
    rw[←p3]
    exact⟨rfl,rfl⟩
theorem LQ(t:au)(hsz:t.sz≤4194304):aI Tryz.prog 289 [t.v] (.c (.d (.sl ((jy [] t).map encS)))):=fun S=>by
 have hc:=mh t
 have h0:∀S,cB Tryz.prog 320 [t.v,.c (.bO [])] S (fun r S'=>r=.c (.d (.sl ((jy [] t).map encS)))∧S'=S):=fun S=>by
  refine cB.ade 1 (es:=[]) (bE:=1) rfl (by simp) (LM _ t (Nat.lt_succ_self _) hsz [] 0 0 ([.tok 1 []]::S) rfl (by simp;omega)) ?_
  rintro r fr S' ⟨rfl,h2⟩
  injection h2 with h2 h3
  exact⟨_,rfl,rfl,h3⟩
 refine aG (rs:=[.tmp 2]) Tryz.checked.mixed Tryz.func289 Tryz.ntmps289 rfl rfl rfl rfl rfl ?_
 refine W1 ?_
 refine W3 ?_
 refine pJ [true,true] rfl (h0 _) ?_
 exact Z1
theorem Df:∀n:Nat,∀t:au,SizeOf.sizeOf t<n→t.sz≤4194304→aI Tryz.prog 236 [t.v] (.c (.d (.b (rG t))))
 |0=>fun t h=>by omega
 |n+1=>by
  have ih:=Df n
  intro t hn hsz S
  have jS:=au.gM t
  have hts:=G7 hsz
  refine aG (rs:=[.tmp 2]) Tryz.checked.mixed Tryz.func236 Tryz.ntmps236 rfl rfl rfl rfl rfl ?_
  refine W1 ?_
  refine aT (ι:=Nat) Tryz.checked.mixed rfl [1,3] (fun i=>[.c (.ptr (0,0) 0),.c (.d (.i .i64 i))]) (fun _=>[.box [.d (.i .i64 t.aK),.d (.s t.fName),.d (.sl (t.fArgs.map au.enc))]]::S)
   (fun i=>i≤t.fArgs.length∧vT (t.fArgs.drop i)=vT t.fArgs) (fun i=>t.fArgs.length-i) 0 rfl rfl ⟨Nat.zero_le _,rfl⟩ ?_
  rintro i ⟨p1,p2⟩
  refine W1 ?_
  refine S0 (fun hb h=>?_) fun hb h=>?_
  ·have hi:i<t.fArgs.length:=by omega
   rw[PV hi] at p2
   refine W3 ?_
   refine C2 (ih t.fArgs[i] (by have:=List.sizeOf_lt_of_mem (List.getElem_mem hi);omega) (BG hi hsz).1) ?_
   refine S0 (fun hb h=>?_) fun hb h=>?_
   ·rw[Fy,←p2,h];simp
   ·exact bP (i+1) (by omega) rfl rfl ⟨by omega,by rw[←p2,h];rfl⟩
  ·have hi:i=t.fArgs.length:=by omega
   rw[hi,List.drop_length] at p2
   rw[Fy,←p2]
   exact aB (by simp[vT,pR])
theorem En(t:au)(hsz:t.sz≤4194304):aI Tryz.prog 236 [t.v] (.c (.d (.b (rG t)))):=Df _ t (Nat.lt_succ_self _) hsz
theorem PW(rest:List Ab.Obj)(cs:List C)(S:Store):Fb Tryz.prog 257 [((0,1),0)] (fun b:Bool=>(.box cs:: .box [.d (.b b)]::rest)::S) (fun _ _=>True) (fun b u=>b||decide (u.aK=3)) au.v (fun u=>u.sz≤4194304):=by
 intro n b u _ hu
 refine⟨trivial,fun F=> ?_⟩
 refine aG (rs:=[]) Tryz.checked.mixed Tryz.func257 Tryz.ntmps257 rfl rfl rfl rfl rfl ?_
 refine W1 ?_
 cases b with
 |true=>
  refine W1 ?_
  rfl
 |false=>
  refine W1 ?_
  rfl
theorem Eo(t:au)(hsz:t.sz≤4194304):aI Tryz.prog 181 [t.v] (.c (.d (.b (rG t)))):=fun S=>by
 refine aG (rs:=[.tmp 2]) Tryz.checked.mixed Tryz.func181 Tryz.ntmps181 rfl rfl rfl rfl rfl ?_
 refine W1 ?_
 refine W3 ?_
 refine bJ rfl (JA hsz (PW [] [.d (.i .i64 t.aK),.d (.s t.fName),.d (.sl (t.fArgs.map au.enc))] S) 0 false trivial).2 ?_
 refine W1 ?_
 rw[SB]
 rfl
end Go.Proofs.YtocpgjlbagncjaaGreatDoor
namespace Go.Proofs.YtocpgjlbagncjaaGreatDoor
open Go Go.Ab
theorem J3(g:Nat)(xs ys:List ay)(hl:xs.length≤1073741824)(hg:∀x∈xs,∀y,aI Tryz.prog g [x.v,y.v] (.c (.d (.b (dec (x=y)))))):
 aI Tryz.prog 324 [.c (.d (.sl (xs.map ay.enc))),.c (.d (.sl (ys.map ay.enc))),.c (.fn g [])] (.c (.d (.b (dec (xs=ys))))):=fun S=>by
 refine aG (rs:=[.tmp 6]) Tryz.checked.mixed Tryz.func324 Tryz.ntmps324 rfl rfl rfl rfl rfl ?_
 refine W1 ?_
 refine S0 (fun hb h=>?_) fun hb h=>?_
 ·exact aB (aF (fun e=>h (by rw[e]))).symm
 have hl':xs.length=ys.length:=by omega
 refine aT (ι:=Nat) Tryz.checked.mixed rfl [1,2,15,16,17] (fun y=>[.c (.d (.sl (ys.map ay.enc))),.c (.fn g []),.c (.d (.sl (xs.map ay.enc))),.c (.d (.i .i64 xs.length)),.c (.d (.i .i64 y))]) (fun y=>[]::S)
  (fun i=>i≤xs.length∧∀j,j<i→xs[j]? =ys[j]?) (fun y=>xs.length-y) 0 rfl rfl ⟨Nat.zero_le _,fun j h=>by omega⟩ ?_
 rintro i ⟨p1,p2⟩
 refine W1 ?_
 refine S0 (fun hb h=>?_) fun hb h=>?_
 ·have hi:i<xs.length:=by omega
  have hi':i<ys.length:=by omega
  refine W3 ?_
  refine C1 (hg xs[i] (List.getElem_mem hi) ys[i]) ?_
  refine S0 (fun hb h=>?_) fun hb h=>?_
  ·exact aB (aF (fun e=>h (by simp only[e]))).symm
  refine dh 0 (by decide) (i+1) (by omega) rfl rfl rfl rfl ⟨by omega,fun j hj=> ?_⟩
  by_cases e:j=i
  ·subst e
   rw[List.getElem?_eq_getElem hi,List.getElem?_eq_getElem hi',h]
  ·exact p2 j (by omega)
 ·have hi:i=xs.length:=by omega
  refine aB (bA (List.ext_getElem? fun j=> ?_)).symm
  by_cases hj:j<i
  ·exact p2 j hj
  ·rw[List.getElem?_eq_none (by omega),List.getElem?_eq_none (by omega)]
theorem LU(g:Nat)(xs ys:List aR)(hl:xs.length≤1073741824)(hg:∀x∈xs,∀y,aI Tryz.prog g [x.v,y.v] (.c (.d (.b (dec (x=y)))))):
 aI Tryz.prog 325 [.c (.d (.sl (xs.map aR.enc))),.c (.d (.sl (ys.map aR.enc))),.c (.fn g [])] (.c (.d (.b (dec (xs=ys))))):=fun S=>by
 refine aG (rs:=[.tmp 6]) Tryz.checked.mixed Tryz.func325 Tryz.ntmps325 rfl rfl rfl rfl rfl ?_
 refine W1 ?_
 refine S0 (fun hb h=>?_) fun hb h=>?_
 ·exact aB (aF (fun e=>h (by rw[e]))).symm
 have hl':xs.length=ys.length:=by omega
 refine aT (ι:=Nat) Tryz.checked.mixed rfl [1,2,15,16,17] (fun y=>[.c (.d (.sl (ys.map aR.enc))),.c (.fn g []),.c (.d (.sl (xs.map aR.enc))),.c (.d (.i .i64 xs.length)),.c (.d (.i .i64 y))]) (fun y=>[]::S)
  (fun i=>i≤xs.length∧∀j,j<i→xs[j]? =ys[j]?) (fun y=>xs.length-y) 0 rfl rfl ⟨Nat.zero_le _,fun j h=>by omega⟩ ?_
 rintro i ⟨p1,p2⟩
 refine W1 ?_
 refine S0 (fun hb h=>?_) fun hb h=>?_
 ·have hi:i<xs.length:=by omega
  have hi':i<ys.length:=by omega
  refine W3 ?_
  refine C1 (hg xs[i] (List.getElem_mem hi) ys[i]) ?_
  refine S0 (fun hb h=>?_) fun hb h=>?_
  ·exact aB (aF (fun e=>h (by simp only[e]))).symm
  refine dh 0 (by decide) (i+1) (by omega) rfl rfl rfl rfl ⟨by omega,fun j hj=> ?_⟩
  by_cases e:j=i
  ·subst e
   rw[List.getElem?_eq_getElem hi,List.getElem?_eq_getElem hi',h]
  ·exact p2 j (by omega)
 ·have hi:i=xs.length:=by omega
  refine aB (bA (List.ext_getElem? fun j=> ?_)).symm
  by_cases hj:j<i
  ·exact p2 j hj
  ·rw[List.getElem?_eq_none (by omega),List.getElem?_eq_none (by omega)]
theorem J4(g:Nat)(caps:List (Key×Nat))(S:Store)(xs:List au)(p:au→Bool)(hl:xs.length≤1073741824)(hp:∀x∈xs,oV Tryz.prog g caps S [x.v] (.c (.d (.b (p x))))):
 cB Tryz.prog 296 [.c (.d (.sl (xs.map au.enc))),.c (.fn g caps)] S (fun r S'=>r=.c (.d (.i .i64 (sS p xs)))∧S'=S):=by
 refine aG (rs:=[.tmp 4]) Tryz.checked.mixed Tryz.func296 Tryz.ntmps296 rfl rfl rfl rfl rfl ?_
 refine W1 ?_
 refine aT (ι:=Nat) Tryz.checked.mixed rfl [0,1,7,8] (fun i=>[.c (.d (.sl (xs.map au.enc))),.c (.fn g (jL 1 caps)),.c (.d (.i .i64 xs.length)),.c (.d (.i .i64 i))]) (fun _=>[]::S)
  (fun i=>i≤xs.length∧∀j,∀hj:j<xs.length,j<i→p xs[j]=false) (fun i=>xs.length-i) 0 rfl rfl ⟨Nat.zero_le _,fun j _ h=>by omega⟩ ?_
 rintro i ⟨p1,p2⟩
 refine W1 ?_
 refine S0 (fun hb h=>?_) fun hb h=>?_
 ·have hi:i<xs.length:=by omega
  refine W3 ?_
  refine bJ rfl (hp xs[i] (List.getElem_mem hi) [_]) ?_
  refine W1 ?_
  refine S0 (fun hb h=>?_) fun hb h=>?_
  ·rw[sj hi p2 h]
  ·refine bP (i+1) (by omega) rfl rfl ⟨by omega,fun j hj hji=> ?_⟩
   by_cases e:j=i
   ·subst e;exact h
   ·exact p2 j hj (by omega)
 ·rw[vK (fun j hj=>p2 j hj (by omega))]
theorem Gn(g:Nat)(caps:List (Key×Nat))(S:Store)(xs:List au)(p:au→Bool)(hl:xs.length≤1073741824)(hp:∀x∈xs,oV Tryz.prog g caps S [x.v] (.c (.d (.b (p x))))):
 cB Tryz.prog 253 [.c (.d (.sl (xs.map au.enc))),.c (.fn g caps)] S (fun r S'=>r=.c (.d (.b (xs.any p)))∧S'=S):=by
 refine aG (rs:=[.tmp 4]) Tryz.checked.mixed Tryz.func253 Tryz.ntmps253 rfl rfl rfl rfl rfl ?_
 refine W1 ?_
 refine bJ rfl (J4 g (jL 1 caps) _ xs p hl fun x hx=>(hp x hx).push _) ?_
 refine W1 ?_
 exact aB tZ
theorem J5(g:Nat)(caps:List (Key×Nat))(S:Store)(xs:List ay)(p:ay→Bool)(hl:xs.length≤1073741824)(hp:∀x∈xs,oV Tryz.prog g caps S [x.v] (.c (.d (.b (p x))))):
 cB Tryz.prog 310 [.c (.d (.sl (xs.map ay.enc))),.c (.fn g caps)] S (fun r S'=>r=.c (.d (.i .i64 (sS p xs)))∧S'=S):=by
 refine aG (rs:=[.tmp 4]) Tryz.checked.mixed Tryz.func310 Tryz.ntmps310 rfl rfl rfl rfl rfl ?_
 refine W1 ?_
 refine aT (ι:=Nat) Tryz.checked.mixed rfl [0,1,7,8] (fun i=>[.c (.d (.sl (xs.map ay.enc))),.c (.fn g (jL 1 caps)),.c (.d (.i .i64 xs.length)),.c (.d (.i .i64 i))]) (fun _=>[]::S)
  (fun i=>i≤xs.length∧∀j,∀hj:j<xs.length,j<i→p xs[j]=false) (fun i=>xs.length-i) 0 rfl rfl ⟨Nat.zero_le _,fun j _ h=>by omega⟩ ?_
 rintro i ⟨p1,p2⟩
 refine W1 ?_
 refine S0 (fun hb h=>?_) fun hb h=>?_
 ·have hi:i<xs.length:=by omega
  refine W3 ?_
  refine bJ rfl (hp xs[i] (List.getElem_mem hi) [_]) ?_
  refine W1 ?_
  refine S0 (fun hb h=>?_) fun hb h=>?_
  ·rw[sj hi p2 h]
  ·refine bP (i+1) (by omega) rfl rfl ⟨by omega,fun j hj hji=> ?_⟩
   by_cases e:j=i
   ·subst e;exact h
   ·exact p2 j hj (by omega)
 ·rw[vK (fun j hj=>p2 j hj (by omega))]
theorem Gp(g:Nat)(caps:List (Key×Nat))(S:Store)(xs:List ay)(p:ay→Bool)(hl:xs.length≤1073741824)(hp:∀x∈xs,oV Tryz.prog g caps S [x.v] (.c (.d (.b (p x))))):
 cB Tryz.prog 276 [.c (.d (.sl (xs.map ay.enc))),.c (.fn g caps)] S (fun r S'=>r=.c (.d (.b (xs.any p)))∧S'=S):=by
 refine aG (rs:=[.tmp 4]) Tryz.checked.mixed Tryz.func276 Tryz.ntmps276 rfl rfl rfl rfl rfl ?_
 refine W1 ?_
 refine bJ rfl (J5 g (jL 1 caps) _ xs p hl fun x hx=>(hp x hx).push _) ?_
 refine W1 ?_
 exact aB tZ
theorem LV(g:Nat)(caps:List (Key×Nat))(S:Store)(xs:List aR)(p:aR→Bool)(hl:xs.length≤1073741824)(hp:∀x∈xs,oV Tryz.prog g caps S [x.v] (.c (.d (.b (p x))))):
 cB Tryz.prog 311 [.c (.d (.sl (xs.map aR.enc))),.c (.fn g caps)] S (fun r S'=>r=.c (.d (.i .i64 (sS p xs)))∧S'=S):=by
 refine aG (rs:=[.tmp 4]) Tryz.checked.mixed Tryz.func311 Tryz.ntmps311 rfl rfl rfl rfl rfl ?_
 refine W1 ?_
 refine aT (ι:=Nat) Tryz.checked.mixed rfl [0,1,7,8] (fun i=>[.c (.d (.sl (xs.map aR.enc))),.c (.fn g (jL 1 caps)),.c (.d (.i .i64 xs.length)),.c (.d (.i .i64 i))]) (fun _=>[]::S)
  (fun i=>i≤xs.length∧∀j,∀hj:j<xs.length,j<i→p xs[j]=false) (fun i=>xs.length-i) 0 rfl rfl ⟨Nat.zero_le _,fun j _ h=>by omega⟩ ?_
 rintro i ⟨p1,p2⟩
 refine W1 ?_
 refine S0 (fun hb h=>?_) fun hb h=>?_
 ·have hi:i<xs.length:=by omega
  refine W3 ?_
  refine bJ rfl (hp xs[i] (List.getElem_mem hi) [_]) ?_
  refine W1 ?_
  refine S0 (fun hb h=>?_) fun hb h=>?_
  ·rw[sj hi p2 h]
  ·refine bP (i+1) (by omega) rfl rfl ⟨by omega,fun j hj hji=> ?_⟩
   by_cases e:j=i
   ·subst e;exact h
   ·exact p2 j hj (by omega)
 ·rw[vK (fun j hj=>p2 j hj (by omega))]
theorem G9(g:Nat)(caps:List (Key×Nat))(S:Store)(xs:List aR)(p:aR→Bool)(hl:xs.length≤1073741824)(hp:∀x∈xs,oV Tryz.prog g caps S [x.v] (.c (.d (.b (p x))))):
 cB Tryz.prog 278 [.c (.d (.sl (xs.map aR.enc))),.c (.fn g caps)] S (fun r S'=>r=.c (.d (.b (xs.any p)))∧S'=S):=by
 refine aG (rs:=[.tmp 4]) Tryz.checked.mixed Tryz.func278 Tryz.ntmps278 rfl rfl rfl rfl rfl ?_
 refine W1 ?_
 refine bJ rfl (LV g (jL 1 caps) _ xs p hl fun x hx=>(hp x hx).push _) ?_
 refine W1 ?_
 exact aB tZ
theorem Jb(g:Nat)(caps:List (Key×Nat))(S:Store)(xs:List aO)(p:aO→Bool)(hl:xs.length≤1073741824)(hp:∀x∈xs,oV Tryz.prog g caps S [x.v] (.c (.d (.b (p x))))):
 cB Tryz.prog 301 [.c (.d (.sl (xs.map aO.enc))),.c (.fn g caps)] S (fun r S'=>r=.c (.d (.i .i64 (sS p xs)))∧S'=S):=by
 refine aG (rs:=[.tmp 4]) Tryz.checked.mixed Tryz.func301 Tryz.ntmps301 rfl rfl rfl rfl rfl ?_
 refine W1 ?_
 refine aT (ι:=Nat) Tryz.checked.mixed rfl [0,1,7,8] (fun i=>[.c (.d (.sl (xs.map aO.enc))),.c (.fn g (jL 1 caps)),.c (.d (.i .i64 xs.length)),.c (.d (.i .i64 i))]) (fun _=>[]::S)
  (fun i=>i≤xs.length∧∀j,∀hj:j<xs.length,j<i→p xs[j]=false) (fun i=>xs.length-i) 0 rfl rfl ⟨Nat.zero_le _,fun j _ h=>by omega⟩ ?_
 rintro i ⟨p1,p2⟩
 refine W1 ?_
 refine S0 (fun hb h=>?_) fun hb h=>?_
 ·have hi:i<xs.length:=by omega
  refine W3 ?_
  refine bJ rfl (hp xs[i] (List.getElem_mem hi) [_]) ?_
  refine W1 ?_
  refine S0 (fun hb h=>?_) fun hb h=>?_
  ·rw[sj hi p2 h]
  ·refine bP (i+1) (by omega) rfl rfl ⟨by omega,fun j hj hji=> ?_⟩
   by_cases e:j=i
   ·subst e;exact h
   ·exact p2 j hj (by omega)
 ·rw[vK (fun j hj=>p2 j hj (by omega))]
theorem Fz(g:Nat)(caps:List (Key×Nat))(S:Store)(xs:List aO)(p:aO→Bool)(hl:xs.length≤1073741824)(hp:∀x∈xs,oV Tryz.prog g caps S [x.v] (.c (.d (.b (p x))))):
 cB Tryz.prog 260 [.c (.d (.sl (xs.map aO.enc))),.c (.fn g caps)] S (fun r S'=>r=.c (.d (.b (xs.any p)))∧S'=S):=by
 refine aG (rs:=[.tmp 4]) Tryz.checked.mixed Tryz.func260 Tryz.ntmps260 rfl rfl rfl rfl rfl ?_
 refine W1 ?_
 refine bJ rfl (Jb g (jL 1 caps) _ xs p hl fun x hx=>(hp x hx).push _) ?_
 refine W1 ?_
 exact aB tZ
theorem He(g:Nat)(caps:List (Key×Nat))(S:Store)(xs:List (List UInt8))(p:(List UInt8)→Bool)(hl:xs.length≤1073741824)(hp:∀x∈xs,oV Tryz.prog g caps S [.c (.d (.s x))] (.c (.d (.b (p x))))):
 cB Tryz.prog 251 [.c (.d (.sl (xs.map encS))),.c (.fn g caps)] S (fun r S'=>r=.c (.d (.i .i64 (sS p xs)))∧S'=S):=by
 refine aG (rs:=[.tmp 4]) Tryz.checked.mixed Tryz.func251 Tryz.ntmps251 rfl rfl rfl rfl rfl ?_
 simp -implicitDefEqProofs (disch:=omega) only[go_sem,encS]
 refine aT (ι:=Nat) Tryz.checked.mixed rfl [0,1,7,8] (fun i=>[.c (.d (.sl (xs.map encS))),.c (.fn g (jL 1 caps)),.c (.d (.i .i64 xs.length)),.c (.d (.i .i64 i))]) (fun _=>[]::S)
  (fun i=>i≤xs.length∧∀j,∀hj:j<xs.length,j<i→p xs[j]=false) (fun i=>xs.length-i) 0 rfl rfl ⟨Nat.zero_le _,fun j _ h=>by omega⟩ ?_
 rintro i ⟨p1,p2⟩
 simp -implicitDefEqProofs (disch:=omega) only[go_sem,encS]
 with_reducible refine dU (fun hb=> ?_) (fun hb=> ?_)<;>have h:=hb<;>(try simp only[wf_preprocess] at h)<;>simp -implicitDefEqProofs (disch:=omega) only[go_sem,hb,encS]<;>refine W3 ?_
 ·have hi:i<xs.length:=by omega
  refine W3 ?_
  refine bJ rfl (hp xs[i] (List.getElem_mem hi) [_]) ?_
  simp -implicitDefEqProofs (disch:=omega) only[go_sem,encS]
  with_reducible refine dU (fun hb=> ?_) (fun hb=> ?_)<;>have h:=hb<;>(try simp only[wf_preprocess] at h)<;>simp -implicitDefEqProofs (disch:=omega) only[go_sem,hb,encS]<;>refine W3 ?_
  ·rw[sj hi p2 h]
  ·refine bP (i+1) (by omega) rfl rfl ⟨by omega,fun j hj hji=> ?_⟩
   by_cases e:j=i
   ·subst e;exact h
   ·exact p2 j hj (by omega)
 ·rw[vK (fun j hj=>p2 j hj (by omega))]
theorem xZ(g:Nat)(caps:List (Key×Nat))(S:Store)(xs:List (List UInt8))(p:(List UInt8)→Bool)(hl:xs.length≤1073741824)(hp:∀x∈xs,oV Tryz.prog g caps S [.c (.d (.s x))] (.c (.d (.b (p x))))):
 cB Tryz.prog 174 [.c (.d (.sl (xs.map encS))),.c (.fn g caps)] S (fun r S'=>r=.c (.d (.b (xs.any p)))∧S'=S):=by
 refine aG (rs:=[.tmp 4]) Tryz.checked.mixed Tryz.func174 Tryz.ntmps174 rfl rfl rfl rfl rfl ?_
 simp -implicitDefEqProofs (disch:=omega) only[go_sem,encS]
 refine bJ rfl (He g (jL 1 caps) _ xs p hl fun x hx=>(hp x hx).push _) ?_
 simp -implicitDefEqProofs (disch:=omega) only[go_sem,encS]
 exact aB tZ
theorem aaF(xs ys:List (List UInt8))(hl:xs.length≤1073741824):aI Tryz.prog 327 [.c (.d (.sl (xs.map encS))),.c (.d (.sl (ys.map encS)))] (.c (.d (.b (dec (xs=ys))))):=fun S=>by
 refine aG (rs:=[.tmp 4]) Tryz.checked.mixed Tryz.func327 Tryz.ntmps327 rfl rfl rfl rfl rfl ?_
 simp -implicitDefEqProofs (disch:=omega) only[go_sem,encS]
 with_reducible refine dU (fun hb=> ?_) (fun hb=> ?_)<;>have h:=hb<;>(try simp only[wf_preprocess] at h)<;>simp -implicitDefEqProofs (disch:=omega) only[go_sem,hb,encS]<;>refine W3 ?_
 ·exact aB (aF (fun e=>h (by rw[e]))).symm
 have hl':xs.length=ys.length:=by omega
 refine aT (ι:=Nat) Tryz.checked.mixed rfl [0,1,12,13] (fun i=>[.c (.d (.sl (xs.map encS))),.c (.d (.sl (ys.map encS))),.c (.d (.i .i64 xs.length)),.c (.d (.i .i64 i))]) (fun _=>[]::S)
  (fun i=>i≤xs.length∧∀j,j<i→xs[j]? =ys[j]?) (fun y=>xs.length-y) 0 rfl rfl ⟨Nat.zero_le _,fun j h=>by omega⟩ ?_
 rintro i ⟨p1,p2⟩
 simp -implicitDefEqProofs (disch:=omega) only[go_sem,encS]
 with_reducible refine dU (fun hb=> ?_) (fun hb=> ?_)<;>have h:=hb<;>(try simp only[wf_preprocess] at h)<;>simp -implicitDefEqProofs (disch:=omega) only[go_sem,hb,encS]<;>refine W3 ?_
 ·have hi:i<xs.length:=by omega
  have hi':i<ys.length:=by omega
  refine W3 ?_
  with_reducible refine dU (fun hb=> ?_) (fun hb=> ?_)<;>have h:=hb<;>(try simp only[wf_preprocess] at h)<;>simp -implicitDefEqProofs (disch:=omega) only[go_sem,hb,encS]<;>refine W3 ?_
  ·exact aB (aF (fun e=>h (by simp only[e]))).symm
  refine bP (i+1) (by omega) rfl rfl ⟨by omega,fun j hj=> ?_⟩
  by_cases e:j=i
  ·subst e
   rw[List.getElem?_eq_getElem hi,List.getElem?_eq_getElem hi',h]
  ·exact p2 j (by omega)
 ·have hi:i=xs.length:=by omega
  refine aB (bA (List.ext_getElem? fun j=> ?_)).symm
  by_cases hj:j<i
  ·exact p2 j hj
  ·rw[List.getElem?_eq_none (by omega),List.getElem?_eq_none (by omega)]
theorem U6(xs ys:List (List UInt8))(hl:xs.length≤1073741824):aI Tryz.prog 339 [.c (.d (.sl (xs.map encS))),.c (.d (.sl (ys.map encS)))] (.c (.d (.b (dec (xs=ys))))):=fun S=>by
 refine aG (rs:=[.tmp 4]) Tryz.checked.mixed Tryz.func339 Tryz.ntmps339 rfl rfl rfl rfl rfl ?_
 simp -implicitDefEqProofs (disch:=omega) only[go_sem,encS]
 with_reducible refine dU (fun hb=> ?_) (fun hb=> ?_)<;>have h:=hb<;>(try simp only[wf_preprocess] at h)<;>simp -implicitDefEqProofs (disch:=omega) only[go_sem,hb,encS]<;>refine W3 ?_
 ·exact aB (aF (fun e=>h (by rw[e]))).symm
 have hl':xs.length=ys.length:=by omega
 refine aT (ι:=Nat) Tryz.checked.mixed rfl [0,1,5] (fun i=>[.c (.d (.sl (xs.map encS))),.c (.d (.sl (ys.map encS))),.c (.d (.i .i64 i))]) (fun _=>[]::S)
  (fun i=>i≤xs.length∧∀j,j<i→xs[j]? =ys[j]?) (fun y=>xs.length-y) 0 rfl rfl ⟨Nat.zero_le _,fun j h=>by omega⟩ ?_
 rintro i ⟨p1,p2⟩
 simp -implicitDefEqProofs (disch:=omega) only[go_sem,encS]
 with_reducible refine dU (fun hb=> ?_) (fun hb=> ?_)<;>have h:=hb<;>(try simp only[wf_preprocess] at h)<;>simp -implicitDefEqProofs (disch:=omega) only[go_sem,hb,encS]<;>refine W3 ?_
 ·have hi:i<xs.length:=by omega
  have hi':i<ys.length:=by omega
  refine W3 ?_
  with_reducible refine dU (fun hb=> ?_) (fun hb=> ?_)<;>have h:=hb<;>(try simp only[wf_preprocess] at h)<;>simp -implicitDefEqProofs (disch:=omega) only[go_sem,hb,encS]<;>refine W3 ?_
  ·exact aB (aF (fun e=>h (by simp only[e]))).symm
  refine bP (i+1) (by omega) rfl rfl ⟨by omega,fun j hj=> ?_⟩
  by_cases e:j=i
  ·subst e
   rw[List.getElem?_eq_getElem hi,List.getElem?_eq_getElem hi',h]
  ·exact p2 j (by omega)
 ·have hi:i=xs.length:=by omega
  refine aB (bA (List.ext_getElem? fun j=> ?_)).symm
  by_cases hj:j<i
  ·exact p2 j hj
  ·rw[List.getElem?_eq_none (by omega),List.getElem?_eq_none (by omega)]
end Go.Proofs.YtocpgjlbagncjaaGreatDoor
namespace Go.Ab
theorem rU{s:List UInt8}{xs:List (List UInt8)}(h:s∈xs):s.length≤bD (xs.map encS):=by
 have:=dA (List.mem_map_of_mem (f:=encS) h)
 simpa [encS,cu,D.sz] using this
noncomputable def iL(xs:List (List UInt8)):Bool:=dec xs.Nodup&&xs.all validName
noncomputable def among(xs ys:List (List UInt8)):Bool:=xs.all fun s=>dec (s∈ys)
noncomputable def gW(vars:List (List UInt8))(t:au):Bool:=oh t&&among (jy [] t) vars
noncomputable def lV(vars:List (List UInt8))(ts:List au):Bool:=ts.all (gW vars)
theorem adL{s l:List UInt8}{m:List (List UInt8)}:s∈Gw l m↔s=l∨s∈m:=by
 unfold Gw
 split
 ·rename_i h
  exact⟨.inr,fun x=>x.elim (fun e=>e▸h) id⟩
 ·rw[List.mem_append,List.mem_singleton];exact Or.comm
theorem iR{α:Type}{xs:List α}{i:Nat}(hi:i<xs.length):xs.take (i+1)=xs.take i++[xs[i]]:=List.take_succ_eq_append_getElem hi
theorem FB{α:Type}{xs:List α}{x:α}:(xs++[x]).Nodup↔xs.Nodup∧x∉xs:=by
 rw[List.nodup_append]
 constructor
 ·rintro⟨h1,_,h3⟩
  exact⟨h1,fun hx=>h3 x hx x (by simp) rfl⟩
 ·rintro⟨h1,h2⟩
  exact⟨h1,by simp,fun a ha b hb e=>by simp at hb;subst hb;exact h2 (e▸ha)⟩
theorem OU{α:Type}{xs:List α}{i:Nat}(hi:i<xs.length)(h:xs[i]∈xs.take i):¬xs.Nodup:=fun hn=>by
 have h1:(xs.take (i+1)).Nodup:=hn.sublist (List.take_sublist _ _)
 rw[iR hi] at h1
 exact(FB.1 h1).2 h
end Go.Ab
namespace Go.Proofs.YtocpgjlbagncjaaGreatDoor
open Go Go.Ab
theorem qj(xs:List (List UInt8))(hl:xs.length≤1073741824):aI Tryz.prog 173 [.c (.d (.sl (xs.map encS)))] (.c (.d (.b (dec xs.Nodup)))):=fun S=>by
 refine aG (rs:=[.tmp 2]) Tryz.checked.mixed Tryz.func173 Tryz.ntmps173 rfl rfl rfl rfl rfl ?_
 simp -implicitDefEqProofs (disch:=omega) only[go_sem,encS]
 refine W3 ?_
 refine aT (ι:=Nat×List (List UInt8)) Tryz.checked.mixed rfl [3,7,8,9] (fun y=>[.c (.mp (0,0)),.c (.d (.sl (xs.map encS))),.c (.d (.i .i64 xs.length)),.c (.d (.i .i64 y.1))]) (fun y=>[.mp y.2]::S)
  (fun y=>y.1≤xs.length∧(∀s,s∈y.2↔s∈xs.take y.1)∧(xs.take y.1).Nodup) (fun y=>xs.length-y.1) (0,[]) rfl rfl ⟨Nat.zero_le _,fun s=>by simp,by simp⟩ ?_
 rintro⟨i,m⟩ ⟨p1,p2,p3⟩
 simp only at p1 p2 p3
 simp -implicitDefEqProofs (disch:=omega) only[go_sem,encS]
 with_reducible refine dU (fun hb=> ?_) (fun hb=> ?_)<;>have h:=hb<;>(try simp only[wf_preprocess] at h)<;>simp -implicitDefEqProofs (disch:=omega) only[go_sem,hb,encS]<;>refine W3 ?_
 ·have hi:i<xs.length:=by omega
  refine W3 ?_
  with_reducible refine dU (fun hb=> ?_) (fun hb=> ?_)<;>have h:=hb<;>(try simp only[wf_preprocess] at h)<;>simp -implicitDefEqProofs (disch:=omega) only[go_sem,hb,encS]<;>refine W3 ?_
  ·exact aB (aF (OU hi ((p2 _).1 h))).symm
  ·refine bP (i+1,Gw xs[i] m) (by simp only;omega) rfl rfl ⟨by simp only;omega,fun s=> ?_,?_⟩
   ·simp only
    rw[adL,iR hi,List.mem_append,List.mem_singleton,p2]
    exact Or.comm
   ·simp only
    rw[iR hi,FB]
    exact⟨p3,fun hx=>h ((p2 _).2 hx)⟩
 ·rw[List.take_of_length_le (by omega)] at p3
  exact aB (bA p3).symm
theorem qm(xs:List (List UInt8))(hl:xs.length≤1073741824):aI Tryz.prog 87 [.c (.d (.sl (xs.map encS)))] (.c (.d (.b (dec xs.Nodup)))):=fun S=>by
 refine aG (rs:=[.tmp 2]) Tryz.checked.mixed Tryz.func87 Tryz.ntmps87 rfl rfl rfl rfl rfl ?_
 simp -implicitDefEqProofs (disch:=omega) only[go_sem,encS]
 refine aT (ι:=Nat) Tryz.checked.mixed rfl [0,3] (fun i=>[.c (.d (.sl (xs.map encS))),.c (.d (.i .i64 i))]) (fun _=>[]::S)
  (fun i=>i≤xs.length∧(xs.take i).Nodup) (fun i=>xs.length-i) 0 rfl rfl ⟨Nat.zero_le _,by simp⟩ ?_
 rintro i ⟨p1,p3⟩
 simp -implicitDefEqProofs (disch:=omega) only[go_sem,encS]
 with_reducible refine dU (fun hb=> ?_) (fun hb=> ?_)<;>have h:=hb<;>(try simp only[wf_preprocess] at h)<;>simp -implicitDefEqProofs (disch:=omega) only[go_sem,hb,encS]<;>refine W3 ?_
 ·have hi:i<xs.length:=by omega
  have hc:∀y∈xs.map encS,y.length=1:=fun y hy=>by
   obtain⟨s,_,rfl⟩:=List.mem_map.1 hy
   rfl
  have e:(xs.map encS).take i=(xs.take i).map encS:=List.map_take.symm
  refine And.intro ⟨by omega,by omega,hc⟩ ?_
  refine W3 ?_
  simp -implicitDefEqProofs (disch:=omega) only[go_sem,Int.toNat_zero,e]
  refine C2 (qZ (xs.take i) xs[i] (by simp;omega)) ?_
  refine S0 (fun hb h=>?_) fun hb h=>?_
  ·exact aB (aF (OU hi h)).symm
  ·refine bP (i+1) (by omega) rfl rfl ⟨by omega,?_⟩
   rw[iR hi,FB]
   exact⟨p3,h⟩
 ·rw[List.take_of_length_le (by omega)] at p3
  exact aB (bA p3).symm
theorem LW(xs:List (List UInt8))(hl:xs.length≤1073741824)(hs:∀s∈xs,s.length≤4194304):aI Tryz.prog 153 [.c (.d (.sl (xs.map encS)))] (.c (.d (.b (xs.all validName)))):=fun S=>by
 refine aG (rs:=[.tmp 2]) Tryz.checked.mixed Tryz.func153 Tryz.ntmps153 rfl rfl rfl rfl rfl ?_
 simp -implicitDefEqProofs (disch:=omega) only[go_sem,encS]
 refine aT (ι:=Nat) Tryz.checked.mixed rfl [0,3] (fun i=>[.c (.d (.sl (xs.map encS))),.c (.d (.i .i64 i))]) (fun _=>[]::S)
  (fun i=>i≤xs.length∧(xs.drop i).all validName=xs.all validName) (fun i=>xs.length-i) 0 rfl rfl ⟨Nat.zero_le _,rfl⟩ ?_
 rintro i ⟨p1,p2⟩
 simp -implicitDefEqProofs (disch:=omega) only[go_sem,encS]
 with_reducible refine dU (fun hb=> ?_) (fun hb=> ?_)<;>have h:=hb<;>(try simp only[wf_preprocess] at h)<;>simp -implicitDefEqProofs (disch:=omega) only[go_sem,hb,encS]<;>refine W3 ?_
 ·have hi:i<xs.length:=by omega
  have hz:=hs _ (List.getElem_mem hi)
  rw[List.drop_eq_getElem_cons hi,List.all_cons] at p2
  refine W3 ?_
  refine C2 (iE xs[i] (by omega)) ?_
  refine S0 (fun hb h=>?_) fun hb h=>?_
  ·rw[←p2,h];rfl
  ·exact bP (i+1) (by omega) rfl rfl ⟨by omega,by rw[←p2,h];rfl⟩
 ·rw[List.drop_of_length_le (by omega)] at p2
  rw[←p2];rfl
theorem oW(xs:List (List UInt8))(hl:xs.length≤1073741824)(hs:∀s∈xs,s.length≤4194304):aI Tryz.prog 95 [.c (.d (.sl (xs.map encS)))] (.c (.d (.b (iL xs)))):=fun S=>by
 have hcl:∀s∈xs,aI Tryz.prog 175 [.c (.d (.s s))] (.c (.d (.b (!validName s)))):=fun s hx S=>by
  have:=hs s hx
  refine aG (rs:=[.tmp 2]) Tryz.checked.mixed Tryz.func175 Tryz.ntmps175 rfl rfl rfl rfl rfl ?_
  refine W1 ?_
  exact C4 (iD s (by omega))
 have ha:(xs.any fun s=> !validName s)= !xs.all validName:=by rw[List.not_all_eq_any_not]
 refine aG (rs:=[.tmp 2]) Tryz.checked.mixed Tryz.func95 Tryz.ntmps95 rfl rfl rfl rfl rfl ?_
 refine W1 ?_
 refine C2 (qj xs hl) ?_
 refine S0 (fun hb h=>?_) fun hb h=>?_
 ·refine bJ rfl (xZ 175 [] _ xs (fun s=> !validName s) hl fun s hx=>oV.Np (hcl s hx)) ?_
  refine W1 ?_
  rw[ha]
  exact aB (by unfold iL;rw[hb];simp)
 ·exact aB (by unfold iL;rw[hb];rfl)
theorem zU(xs ys:List (List UInt8))(hl:xs.length≤1073741824)(hl':ys.length≤1073741824):aI Tryz.prog 182 [.c (.d (.sl (xs.map encS))),.c (.d (.sl (ys.map encS)))] (.c (.d (.b (among xs ys)))):=fun S=>by
 have ha:(xs.any fun s=> !dec (s∈ys))= !among xs ys:=by unfold among;rw[List.not_all_eq_any_not]
 have hcl:∀(rest:List Ab.Obj) (s:List UInt8),oV Tryz.prog 258 [((0,0),0)] ((.box [.d (.sl (ys.map encS))]::rest)::S) [.c (.d (.s s))] (.c (.d (.b (!dec (s∈ys))))):=fun rest s F=>by
  refine aG (rs:=[.tmp 3]) Tryz.checked.mixed Tryz.func258 Tryz.ntmps258 rfl rfl rfl rfl rfl ?_
  refine W1 ?_
  exact C4 (q8 ys s hl')
 refine aG (rs:=[.tmp 4]) Tryz.checked.mixed Tryz.func182 Tryz.ntmps182 rfl rfl rfl rfl rfl ?_
 refine W1 ?_
 refine bJ rfl (xZ 258 [((0,0),0)] _ xs (fun s=> !dec (s∈ys)) hl fun s hx=>hcl [] s) ?_
 refine W1 ?_
 rw[ha]
 exact aB (by simp)
theorem uF(t:au)(vars:List (List UInt8))(hsz:t.sz≤4194304)(hv:vars.length≤1073741824):aI Tryz.prog 180 [t.v,.c (.d (.sl (vars.map encS)))] (.c (.d (.b (gW vars t)))):=fun S=>by
 have h1:=Ao t []
 have h2:=mh t
 refine aG (rs:=[.tmp 4]) Tryz.checked.mixed Tryz.func180 Tryz.ntmps180 rfl rfl rfl rfl rfl ?_
 refine W1 ?_
 refine C2 (xH t hsz) ?_
 refine S0 (fun hb h=>?_) fun hb h=>?_
 ·refine C2 (yM t hsz) ?_
  refine C2 (zU (jy [] t) vars (by simp at h1;omega) hv) ?_
  exact aB (by unfold gW;rw[hb];rfl)
 ·exact aB (by unfold gW;rw[hb];rfl)
theorem yN(ts:List au)(vars:List (List UInt8))(hl:ts.length≤1073741824)(hsz:∀t∈ts,t.sz≤4194304)(hv:vars.length≤1073741824):aI Tryz.prog 179 [.c (.d (.sl (ts.map au.enc))),.c (.d (.sl (vars.map encS)))] (.c (.d (.b (lV vars ts)))):=fun S=>by
 have ha:(ts.any fun t=> !gW vars t)= !lV vars ts:=by unfold lV;rw[List.not_all_eq_any_not]
 have hcl:∀(rest:List Ab.Obj) (t:au),t.sz≤4194304→oV Tryz.prog 254 [((0,0),0)] ((.box [.d (.sl (vars.map encS))]::rest)::S) [t.v] (.c (.d (.b (!gW vars t)))):=fun rest t ht F=>by
  refine aG (rs:=[.tmp 3]) Tryz.checked.mixed Tryz.func254 Tryz.ntmps254 rfl rfl rfl rfl rfl ?_
  refine W1 ?_
  exact C4 (uF t vars ht hv)
 refine aG (rs:=[.tmp 4]) Tryz.checked.mixed Tryz.func179 Tryz.ntmps179 rfl rfl rfl rfl rfl ?_
 refine W1 ?_
 refine bJ rfl (Gn 254 [((0,0),0)] _ ts (fun t=> !gW vars t) hl fun t hx=>hcl [] t (hsz t hx)) ?_
 refine W1 ?_
 rw[ha]
 exact aB (by simp)
theorem mD(xs:List (List UInt8))(most:Int)(hl:xs.length≤1073741824)(hs:∀s∈xs,s.length≤4194304):aI Tryz.prog 85 [.c (.d (.sl (xs.map encS))),.c (.d (.i .i64 most))] (.c (.d (.b (dec ((xs.length:Int)≤most)&&iL xs)))):=fun S=>by
 refine aG (rs:=[.tmp 4]) Tryz.checked.mixed Tryz.func85 Tryz.ntmps85 rfl rfl rfl rfl rfl ?_
 refine W1 ?_
 refine S0 (fun hb h=>?_) fun hb h=>?_
 ·have h1:=h
  refine C2 (LW xs hl hs) ?_
  refine S0 (fun hb h=>?_) fun hb h=>?_
  ·refine C2 (qm xs hl) ?_
   exact aB (by rw[bA h1];unfold iL;rw[hb];simp)
  ·exact aB (by rw[bA h1];unfold iL;rw[hb];simp)
 ·exact aB (by rw[aF h];rfl)
theorem uj(t:au)(vars:List (List UInt8))(hsz:t.sz≤4194304)(hv:vars.length≤1073741824):aI Tryz.prog 235 [t.v,.c (.d (.sl (vars.map encS)))] (.c (.d (.b (gW vars t)))):=fun S=>by
 have h1:=Ao t []
 have h2:=mh t
 have hlen:(jy [] t).length≤1073741824:=by simp at h1;omega
 refine aG (rs:=[.tmp 4]) Tryz.checked.mixed Tryz.func235 Tryz.ntmps235 rfl rfl rfl rfl rfl ?_
 refine W1 ?_
 refine C2 (LQ t hsz) ?_
 generalize hxs:jy [] t=xs at hlen
 refine aT (ι:=Nat) Tryz.checked.mixed rfl [1,2,5,6] (fun i=>[.c (.d (.sl (vars.map encS))),.c (.ptr (0,0) 0),.c (.d (.sl (xs.map encS))),.c (.d (.i .i64 i))]) (fun _=>[.box [.d (.i .i64 t.aK),.d (.s t.fName),.d (.sl (t.fArgs.map au.enc))]]::S)
  (fun i=>i≤xs.length∧among (xs.drop i) vars=among xs vars) (fun i=>xs.length-i) 0 rfl rfl ⟨Nat.zero_le _,rfl⟩ ?_
 rintro i ⟨p1,p2⟩
 simp -implicitDefEqProofs (disch:=omega) only[go_sem,encS]
 with_reducible refine dU (fun hb=> ?_) (fun hb=> ?_)<;>have h:=hb<;>(try simp only[wf_preprocess] at h)<;>simp -implicitDefEqProofs (disch:=omega) only[go_sem,hb,encS]<;>refine W3 ?_
 ·have hi:i<xs.length:=by omega
  rw[List.drop_eq_getElem_cons hi] at p2
  have p3:among xs vars=(dec (xs[i]∈vars)&&among (xs.drop (i+1)) vars):=p2.symm
  refine W3 ?_
  refine C2 (qZ vars xs[i] hv) ?_
  refine S0 (fun hb h=>?_) fun hb h=>?_
  ·exact aB (by unfold gW;rw[hxs,p3,aF h];simp)
  ·exact bP (i+1) (by omega) rfl rfl ⟨by omega,by rw[p3,bA h];rfl⟩
 ·rw[List.drop_of_length_le (by omega)] at p2
  have p3:among xs vars=true:=p2.symm
  refine W3 ?_
  refine C2 (xI t hsz) ?_
  exact aB (by unfold gW;rw[hxs,p3];simp)
theorem OV(ts:List au)(vars:List (List UInt8))(hl:ts.length≤1073741824)(hsz:∀t∈ts,t.sz≤4194304)(hv:vars.length≤1073741824):aI Tryz.prog 234 [.c (.d (.sl (ts.map au.enc))),.c (.d (.sl (vars.map encS)))] (.c (.d (.b (lV vars ts)))):=fun S=>by
 refine aG (rs:=[.tmp 4]) Tryz.checked.mixed Tryz.func234 Tryz.ntmps234 rfl rfl rfl rfl rfl ?_
 refine W1 ?_
 refine aT (ι:=Nat) Tryz.checked.mixed rfl [0,1,5] (fun i=>[.c (.d (.sl (ts.map au.enc))),.c (.d (.sl (vars.map encS))),.c (.d (.i .i64 i))]) (fun _=>[]::S)
  (fun i=>i≤ts.length∧lV vars (ts.drop i)=lV vars ts) (fun i=>ts.length-i) 0 rfl rfl ⟨Nat.zero_le _,rfl⟩ ?_
 rintro i ⟨p1,p2⟩
 refine W1 ?_
 refine S0 (fun hb h=>?_) fun hb h=>?_
 ·have hi:i<ts.length:=by omega
  rw[List.drop_eq_getElem_cons hi] at p2
  have p3:lV vars ts=(gW vars ts[i]&&lV vars (ts.drop (i+1))):=p2.symm
  refine W3 ?_
  refine C2 (uj ts[i] vars (hsz _ (List.getElem_mem hi)) hv) ?_
  refine S0 (fun hb h=>?_) fun hb h=>?_
  ·rw[p3,h];rfl
  ·exact bP (i+1) (by omega) rfl rfl ⟨by omega,by rw[p3,h];rfl⟩
 ·rw[List.drop_of_length_le (by omega)] at p2
  rw[←p2];rfl
end Go.Proofs.YtocpgjlbagncjaaGreatDoor
namespace Go.Ab
def ops:List (List UInt8):=[[43],[45],[42],[60],[61]]
def xu(t:au):Prop:=t.aK=0∧t.fName=[]∧t.fArgs.length=0
def uR(e:ay):Prop:=
 (1≤e.aK∧e.aK≤12)∧
 (if e.aK=5∨e.aK=11 then validName e.bL=true else e.bL=[])∧
 (if e.aK=3∨e.aK=4∨e.aK=5∨e.aK=6∨e.aK=8 then validName e.fName=true else if e.aK=10 then e.fName∈ops else e.fName=[])∧
 (if e.aK=1 then -999999≤e.fN∧e.fN≤999999 else if e.aK=2 then e.fN=0∨e.fN=1 else e.fN=0)∧
 (if e.aK=12 then oh e.fType=true else xu e.fType)∧
 (if e.aK=4∨e.aK=6 then True else if e.aK=5 then 1≤e.fArgs.length else if e.aK=7∨e.aK=11∨e.aK=12 then e.fArgs.length=1 else if e.aK=8∨e.aK=10 then e.fArgs.length=2 else if e.aK=9 then e.fArgs.length=3 else e.fArgs.length=0)∧
 (e.aK=7↔0<e.aP.length)
mutual
noncomputable def iT:ay→Bool
 | .mk k t n m ty a b=>dec (uR (.mk k t n m ty a b))&&(l7 a&&pU b)
noncomputable def l7:List ay→Bool
 |[]=>true
 |x::xs=>iT x&&l7 xs
noncomputable def wE:aR→Bool
 | .mk c v b=>validName c&&(iL v&&iT b)
noncomputable def pU:List aR→Bool
 |[]=>true
 |x::xs=>wE x&&pU xs
end
theorem x9(x:ay):iT x=(dec (uR x)&&(l7 x.fArgs&&pU x.aP)):=by cases x;rw[iT];rfl
theorem sw(x:aR):wE x=(validName x.dL&&(iL x.aA&&iT x.fBody)):=by cases x;rw[wE];rfl
theorem SE{xs:List ay}{i:Nat}(hi:i<xs.length):l7 (xs.drop i)=(iT xs[i]&&l7 (xs.drop (i+1))):=by rw[List.drop_eq_getElem_cons hi,l7]
theorem U7{xs:List aR}{i:Nat}(hi:i<xs.length):pU (xs.drop i)=(wE xs[i]&&pU (xs.drop (i+1))):=by rw[List.drop_eq_getElem_cons hi,pU]
theorem JB:∀{xs:List ay},(xs.any fun t=> !iT t)= !l7 xs
 |[]=>rfl
 |t::ts=>by rw[List.any_cons,JB (xs:=ts),l7];simp
theorem LX:∀{xs:List aR},(xs.any fun t=> !wE t)= !pU xs
 |[]=>rfl
 |t::ts=>by rw[List.any_cons,LX (xs:=ts),pU];simp
noncomputable def rV(e:ay):Bool:=dec (e.cnt≤300)&&iT e
def pV(l:Int)(c:Nat):Int:=if l<0 then -1 else if c≤l then l-c else -1
theorem FC{l:Int}{a b:Nat}:pV (pV l a) b=pV l (a+b):=by unfold pV;split<;>split<;>(try split)<;>(try split)<;>omega
theorem J6{l:Int}{a:Nat}(h:l<0):pV l a= -1:=if_pos h
theorem Hf{l:Int}(h: -1≤l):pV l 0=l:=by unfold pV;split<;>(try split)<;>omega
theorem ND{l:Int}{c:Nat}(h:0≤l): -1≤pV l c∧pV l c≤l:=by unfold pV;split<;>(try split)<;>omega
theorem adM{l:Int}{c:Nat}(h:0≤l):decide (pV l c≥0)=decide ((c:Int)≤l):=by unfold pV;rw[if_neg (by omega)];split<;>simp<;>omega
theorem PX:validName []=false:=aF fun h=>by have:=h.1.1;simp at this
theorem aaG{s:List UInt8}(h:s∈ops):s.length=1:=by simp[ops] at h;rcases h with h|h|h|h|h<;>rw[h]<;>rfl
theorem SF{s:List UInt8}(h:s∈ops):validName s=false:=aF fun x=>by
 have h1:=x.2.2 0 (by have:=x.1.1;omega)
 simp[ops] at h;rcases h with h|h|h|h|h<;>rw[h] at h1<;>simp[lowerB,rQ] at h1
theorem LY{t:au}(h:xu t):oh t=false:=aF fun x=>by
 have h1:=x.1
 rw[xU,Bool.and_eq_true] at h1
 have h2:=gH h1.1
 rw[h.1] at h2
 omega
end Go.Ab
namespace Go.Ab
structure Hold (p:Prop):Prop where
 out:p
theorem nN{P:Program}{N:Nat}{c:Code}{Q:Exit→St→Prop}{tm:List (Nat×V)}{st st':Store}(ts:List Nat)(vs:List V)(hv:ts.map (look tm)=vs)(hs:st=st')
 (h:AW P N c Q ⟨jo ts vs,st'⟩):AW P N c Q ⟨tm,st⟩:=by
 subst hs
 refine oK h ?_
 rw[←hv]
 exact JU fun t=>Ce _ ts t
end Go.Ab
namespace Go.Ab
theorem af4(b:UInt8):decide (firstIdx ⟨[43,45,42,60,61].toArray⟩ b≥0)=dec ([b]∈ops):=by
 have h:∀n:Nat,n<256→decide (firstIdx ⟨[43,45,42,60,61].toArray⟩ (UInt8.ofNat n)≥0)=decide ([UInt8.ofNat n]∈ops):=by decide +kernel
 have h1:=h b.toNat (UInt8.toNat_lt b)
 rw[UInt8.ofNat_toNat] at h1
 rw[h1]
 by_cases h2:[b]∈ops
 ·rw[bA h2];simp[h2]
 ·rw[aF h2];simp[h2]
def Yq(k:Int):Int:=if k=5∨k=7∨k=11∨k=12 then 1 else if k=8∨k=10 then 2 else if k=9 then 3 else 0
def Yr(k:Int):Int:=if k=4∨k=6∨k=5 then 300 else if k=7∨k=11∨k=12 then 1 else if k=8∨k=10 then 2 else if k=9 then 3 else 0
end Go.Ab
namespace Go.Proofs.YtocpgjlbagncjaaGreatDoor
open Go Go.Ab
theorem Jc(l:List UInt8)(b:UInt8):Xk Tryz.prog 306 [.c (.d (.s l)),.c (.d (.i .u8 b.toNat))] (.c (.d (.i .i64 (firstIdx ⟨l.toArray⟩ b)))):=by
 refine⟨_,Extern.BytealgIndexByte.indexByte,Tryz.func306,by kernel_rfl,by kernel_rfl,by kernel_rfl,by kernel_rfl,fun w σ S β vs hS hv=> ?_⟩
 obtain⟨hl,h⟩:=hv
 obtain⟨v0,e0,h0,_⟩:=h 0 _ rfl
 obtain⟨v1,e1,h1,_⟩:=h 1 _ rfl
 cases h0
 cases h1
 have hvs:vs=[.string ⟨l.toArray⟩,.int .u8 b.toNat]:=by
  match vs,hl,e0,e1 with
  |[x,y],_,e0,e1=>simp at e0 e1;rw[e0,e1]
 subst hvs
 refine⟨_,run_indexByte_string _ _ w,?_,rfl⟩
 have hb:(b.toNat:Int).toNat.toUInt8=b:=by simp
 rw[hb]
 exact .i _ _
theorem Hg(l:List UInt8)(b:UInt8):aI Tryz.prog 273 [.c (.d (.s l)),.c (.d (.i .u8 b.toNat))] (.c (.d (.i .i64 (firstIdx ⟨l.toArray⟩ b)))):=fun S=>by
 refine aG (rs:=[.tmp 4]) Tryz.checked.mixed Tryz.func273 Tryz.ntmps273 rfl rfl rfl rfl rfl ?_
 refine W1 ?_
 refine ahn (Jc l b) ?_
 exact Z1
theorem U8(l:List UInt8)(b:UInt8)(hl:[b]≠l):aI Tryz.prog 315 [.c (.d (.s l)),.c (.d (.s [b]))] (.c (.d (.i .i64 (firstIdx ⟨l.toArray⟩ b)))):=fun S=>by
 have c1:decide (((1:Nat):Int)=0)=false:=rfl
 have c2:decide (((1:Nat):Int)=1)=true:=rfl
 refine aG (rs:=[.tmp 4]) Tryz.checked.mixed Tryz.func315 Tryz.ntmps315 rfl rfl rfl rfl rfl ?_
 simp -implicitDefEqProofs (disch:=omega) only[go_sem,c1,c2]
 with_reducible refine dU (fun hb=> ?_) (fun hb=> ?_)<;>have h:=hb<;>(try simp only[wf_preprocess] at h)<;>simp -implicitDefEqProofs (disch:=omega) only[go_sem,hb,c1,c2]<;>refine W3 ?_
 ·exact absurd h hl
 exact C4 (Hg l b)
theorem aaH(l:List UInt8)(b:UInt8)(hl:[b]≠l):aI Tryz.prog 284 [.c (.d (.s l)),.c (.d (.s [b]))] (.c (.d (.i .i64 (firstIdx ⟨l.toArray⟩ b)))):=fun S=>by
 refine aG (rs:=[.tmp 4]) Tryz.checked.mixed Tryz.func284 Tryz.ntmps284 rfl rfl rfl rfl rfl ?_
 refine W1 ?_
 exact C4 (U8 l b hl)
theorem SG(l:List UInt8)(b:UInt8)(hl:[b]≠l):aI Tryz.prog 335 [.c (.d (.s l)),.c (.d (.s [b]))] (.c (.d (.b (decide (firstIdx ⟨l.toArray⟩ b≥0))))):=fun S=>by
 refine aG (rs:=[.tmp 4]) Tryz.checked.mixed Tryz.func335 Tryz.ntmps335 rfl rfl rfl rfl rfl ?_
 refine W1 ?_
 exact C4 (aaH l b hl)
theorem PY(s:List UInt8):aI Tryz.prog 309 [.c (.d (.s s))] (.c (.d (.b (dec (s∈ops))))):=fun S=>by
 refine aG (rs:=[.tmp 2]) Tryz.checked.mixed Tryz.func309 Tryz.ntmps309 rfl rfl rfl rfl rfl ?_
 refine W1 ?_
 refine S0 (fun hb h=>?_) fun hb h=>?_
 ·obtain⟨b,rfl⟩:=List.length_eq_one_iff.1 (show s.length=1 by omega)
  refine C2 (SG [43,45,42,60,61] b (by intro x;cases x)) ?_
  exact aB (af4 b)
 ·exact aB (aF fun x=>h (by rw[aaG x];rfl)).symm
theorem Ga(t:au):aI Tryz.prog 185 [t.v] (.c (.d (.b (dec (xu t))))):=fun S=>by
 refine aG (rs:=[.tmp 2]) Tryz.checked.mixed Tryz.func185 Tryz.ntmps185 rfl rfl rfl rfl rfl ?_
 refine W1 ?_
 repeat' (first
  |refine S0 (fun hb h=>?_) fun hb h=>?_
  |(refine aB ?_;unfold xu;grind [bA,aF,gH,jM]))
theorem JC(k:Int):aI Tryz.prog 308 [.c (.d (.i .i64 k))] (.dY [(false,[.d (.i .i64 (Yq k))]),(false,[.d (.i .i64 (Yr k))])]):=fun S=>by
 refine aG (rs:=[.tmp 2,.tmp 3]) Tryz.checked.mixed Tryz.func308 Tryz.ntmps308 rfl rfl rfl rfl rfl ?_
 refine W1 ?_
 repeat' (first
  |refine S0 (fun hb h=>?_) fun hb h=>?_
  |(unfold Yq Yr;grind))
end Go.Proofs.YtocpgjlbagncjaaGreatDoor
namespace Go.Ab
theorem aaI(b:UInt8):decide (firstIdx ⟨[39,45,43,42,60,61,46].toArray⟩ b≥0)=decide (b∈([39,45,43,42,60,61,46]:List UInt8)):=by
 have h:∀n:Nat,n<256→decide (firstIdx ⟨[39,45,43,42,60,61,46].toArray⟩ (UInt8.ofNat n)≥0)=decide (UInt8.ofNat n∈([39,45,43,42,60,61,46]:List UInt8)):=by decide +kernel
 have h1:=h b.toNat (UInt8.toNat_lt b)
 rwa [UInt8.ofNat_toNat] at h1
theorem adN(b:UInt8):b∈([39,45,43,42,60,61,46]:List UInt8)↔(b.toNat=39∨b.toNat=45∨b.toNat=43∨b.toNat=42∨b.toNat=60∨b.toNat=61∨b.toNat=46):=by
 have h:∀n:Nat,n<256→(UInt8.ofNat n∈([39,45,43,42,60,61,46]:List UInt8)↔(n=39∨n=45∨n=43∨n=42∨n=60∨n=61∨n=46)):=by decide +kernel
 have h1:=h b.toNat (UInt8.toNat_lt b)
 rwa [UInt8.ofNat_toNat] at h1
theorem vU(b:UInt8):lH b=true↔(97≤b.toNat∧b.toNat≤122)∨(48≤b.toNat∧b.toNat≤57)∨b.toNat=39∨b.toNat=45∨b.toNat=43∨b.toNat=42∨b.toNat=60∨b.toNat=61∨b.toNat=46:=by
 unfold lH
 rw[Bool.or_eq_true,Bool.or_eq_true,decide_eq_true_eq,decide_eq_true_eq,decide_eq_true_eq,adN,or_assoc]
theorem all_false{s:List UInt8}{i:Nat}(hi:i<s.length)(h:lH s[i]=false):s.all lH=false:=by
 rw[List.all_eq_false]
 exact⟨s[i],List.getElem_mem hi,by simp[h]⟩
theorem all_true{s:List UInt8}(h:∀j (hj:j<s.length),lH s[j]=true):s.all lH=true:=by
 rw[List.all_eq_true]
 intro b hb
 obtain⟨j,hj,e⟩:=List.getElem_of_mem hb
 rw[←e];exact h j hj
theorem BH{x:aj}{i:Nat}(hi:i<x.ah.length)(h:x.sz≤67108864):x.ah[i].sz≤67108864∧x.ah.length≤67108864∧x.bf.length≤67108864:=by
 have:=iK (List.getElem_mem hi)
 rw[kI,mI] at h
 omega
theorem Ep{x:aj}(h:x.sz≤67108864):x.ah.length≤67108864∧x.bf.length≤67108864:=by
 rw[kI,mI] at h
 omega
theorem U9{l:List aj}{i:Nat}(hi:i<l.length):kJ (l.drop i)=(jJ l[i]&&kJ (l.drop (i+1))):=by rw[List.drop_eq_getElem_cons hi,kJ]
theorem Hl{l:List aj}{i:Nat}(hi:i<l.length):qW (l.drop i)=max (nJ l[i]) (qW (l.drop (i+1))):=by rw[List.drop_eq_getElem_cons hi,qW]
theorem JD{l:List aj}{i:Nat}(hi:i<l.length):pK (l.drop i)=mH l[i]+pK (l.drop (i+1)):=by rw[List.drop_eq_getElem_cons hi,pK]
theorem J7{x:aj}(h:x.sz≤67108864):mH x≤67108865:=by have:=R4 x;omega
theorem aj.LZ{x:aj}{i:Nat}(hi:i<x.ah.length):SizeOf.sizeOf x.ah[i]<SizeOf.sizeOf x:=by
 have:=List.sizeOf_lt_of_mem (List.getElem_mem hi)
 have:=aj.oO x
 omega
end Go.Ab
namespace Go.Proofs.YtocpgjlbagncjaaGreatDoor
open Go Go.Ab
theorem L6(l:List UInt8)(b:UInt8):aI Tryz.prog 208 [.c (.d (.s l)),.c (.d (.i .u8 b.toNat))] (.c (.d (.i .i64 (firstIdx ⟨l.toArray⟩ b)))):=fun S=>by
 refine aG (rs:=[.tmp 4]) Tryz.checked.mixed Tryz.func208 Tryz.ntmps208 rfl rfl rfl rfl rfl ?_
 refine W1 ?_
 exact C4 (Hg l b)
theorem PZ(b:UInt8):aI Tryz.prog 125 [.c (.d (.i .u8 b.toNat))] (.c (.d (.b (lH b)))):=fun S=>by
 refine aG (rs:=[.tmp 2]) Tryz.checked.mixed Tryz.func125 Tryz.ntmps125 rfl rfl rfl rfl rfl ?_
 refine W1 ?_
 refine C2 (LB b) ?_
 refine S0 (fun hb h=>?_) fun hb h=>?_
 ·exact aB ((vU b).2 (.inl h)).symm
 have h1:=h
 refine C2 (LC b) ?_
 refine S0 (fun hb h=>?_) fun hb h=>?_
 ·exact aB ((vU b).2 (.inr (.inl h))).symm
 have h2:=h
 refine C2 (L6 [39,45,43,42,60,61,46] b) ?_
 refine aB ?_
 rw[aaI]
 unfold lH
 unfold lowerB at h1
 unfold rQ at h2
 simp[h1,h2]
theorem Yt(s:List UInt8)(hs:s.length≤1073741824):aI Tryz.prog 241 [.c (.d (.s s))] (.c (.d (.b (validAtom s)))):=fun S=>by
 refine aG (rs:=[.tmp 2]) Tryz.checked.mixed Tryz.func241 Tryz.ntmps241 rfl rfl rfl rfl rfl ?_
 refine W1 ?_
 refine aT (ι:=Nat) Tryz.checked.mixed rfl [0,5,6] (fun i=>[.c (.d (.s s)),.c (.d (.i .i64 s.length)),.c (.d (.i .i64 i))]) (fun _=>[]::S)
  (fun i=>i≤s.length∧∀j,∀hj:j<s.length,j<i→lH s[j]=true) (fun i=>s.length-i) 0 rfl rfl ⟨Nat.zero_le _,fun j _ h=>by omega⟩ ?_
 rintro i ⟨p1,p2⟩
 refine W1 ?_
 refine S0 (fun hb h=>?_) fun hb h=>?_
 ·have hi:i<s.length:=by omega
  have e:s.getD i 0=s[i]:=by simp[List.getD,hi]
  refine W3 ?_
  rw[e]
  refine C2 (PZ s[i]) ?_
  refine S0 (fun hb h=>?_) fun hb h=>?_
  ·exact aB (by unfold validAtom;rw[all_false hi h];rfl)
  ·refine bP (i+1) (by omega) rfl rfl ⟨by omega,fun j hj hji=> ?_⟩
   by_cases e':j=i
   ·subst e';exact h
   ·exact p2 j hj (by omega)
 ·have ha:=all_true (s:=s) (fun j hj=>p2 j hj (by omega))
  refine S0 (fun hb h=>?_) fun hb h=>?_
  ·refine aB ?_
   unfold validAtom
   rw[ha,Bool.true_and]
   exact decide_eq_decide.2 (by omega)
  ·refine aB ?_
   unfold validAtom
   rw[ha,Bool.true_and]
   exact(decide_eq_false (by omega)).symm
theorem aaJ(b:UInt8):aI Tryz.prog 194 [.c (.d (.i .u8 b.toNat))] (.c (.d (.b (lH b)))):=fun S=>by
 have yes:((97≤b.toNat∧b.toNat≤122)∨(48≤b.toNat∧b.toNat≤57)∨b.toNat=39∨b.toNat=45∨b.toNat=43∨b.toNat=42∨b.toNat=60∨b.toNat=61∨b.toNat=46)→lH b=true:=(vU b).2
 have no:¬((97≤b.toNat∧b.toNat≤122)∨(48≤b.toNat∧b.toNat≤57)∨b.toNat=39∨b.toNat=45∨b.toNat=43∨b.toNat=42∨b.toNat=60∨b.toNat=61∨b.toNat=46)→lH b=false:=fun h=>by
  cases hb:lH b with
  |false=>rfl
  |true=>exact absurd ((vU b).1 hb) h
 refine aG (rs:=[.tmp 2]) Tryz.checked.mixed Tryz.func194 Tryz.ntmps194 rfl rfl rfl rfl rfl ?_
 refine W1 ?_
 repeat' (first|(refine S0 (fun hb h=>?_) fun hb h=>?_))
 all_goals first
  |exact aB (yes (by omega)).symm
  |exact aB (no (by omega)).symm
  |(refine aB ?_;cases hb:lH b<;>simp only[decide_eq_true_eq,decide_eq_false_iff_not]<;>(first|(have:=(vU b).1 hb;omega)|(intro q;have:=yes (by omega);rw[hb] at this;cases this)))
theorem Yu(s:List UInt8)(hs:s.length≤1073741824):aI Tryz.prog 140 [.c (.d (.s s))] (.c (.d (.b (validAtom s)))):=fun S=>by
 refine aG (rs:=[.tmp 2]) Tryz.checked.mixed Tryz.func140 Tryz.ntmps140 rfl rfl rfl rfl rfl ?_
 refine W1 ?_
 refine aT (ι:=Nat) Tryz.checked.mixed rfl [0,3] (fun i=>[.c (.d (.s s)),.c (.d (.i .i64 i))]) (fun _=>[]::S)
  (fun i=>i≤s.length∧∀j,∀hj:j<s.length,j<i→lH s[j]=true) (fun i=>s.length-i) 0 rfl rfl ⟨Nat.zero_le _,fun j _ h=>by omega⟩ ?_
 rintro i ⟨p1,p2⟩
 refine W1 ?_
 refine S0 (fun hb h=>?_) fun hb h=>?_
 ·have hi:i<s.length:=by omega
  have e:s.getD i 0=s[i]:=by simp[List.getD,hi]
  refine W3 ?_
  rw[e]
  refine C2 (aaJ s[i]) ?_
  refine S0 (fun hb h=>?_) fun hb h=>?_
  ·exact aB (by unfold validAtom;rw[all_false hi h];rfl)
  ·refine bP (i+1) (by omega) rfl rfl ⟨by omega,fun j hj hji=> ?_⟩
   by_cases e':j=i
   ·subst e';exact h
   ·exact p2 j hj (by omega)
 ·have ha:=all_true (s:=s) (fun j hj=>p2 j hj (by omega))
  refine C2 (Em s.length 1 12) ?_
  refine aB ?_
  unfold validAtom
  rw[ha,Bool.true_and,←jY]
  exact decide_eq_decide.2 (by omega)
theorem Ho:∀n:Nat,(∀x:aj,SizeOf.sizeOf x<n→x.sz≤67108864→aI Tryz.prog 158 [x.v] (.c (.d (.b (jJ x)))))∧
 (∀xs:List aj,SizeOf.sizeOf xs<n→xs.length≤67108864→(∀t∈xs,t.sz≤67108864)→aI Tryz.prog 242 [.c (.d (.sl (xs.map aj.enc))),.c (.fn 243 [])] (.c (.d (.b (!kJ xs)))))
 |0=>⟨fun x h=>by omega,fun x h=>by omega⟩
 |n+1=>by
  obtain⟨ih,qh⟩:=Ho n
  refine⟨fun x hn hsz S=> ?_,fun xs hn hlen hsz S=> ?_⟩
  ·have jS:=aj.oO x
   have hts:=Ep hsz
   have hall:∀t∈x.ah,t.sz≤67108864:=fun t ht=>by
    obtain⟨i,hi,e⟩:=List.getElem_of_mem ht
    rw[←e];exact(BH hi hsz).1
   have tail:=qh x.ah (by omega) hts.1 hall
   have hf:=Cj x
   refine aG (rs:=[.tmp 2]) Tryz.checked.mixed Tryz.func158 Tryz.ntmps158 rfl rfl rfl rfl rfl ?_
   refine W1 ?_
   refine S0 (fun hb h=>?_) fun hb h=>?_
   ·rw[if_neg h] at hf
    refine C2 (Yt x.bf (by omega)) ?_
    refine S0 (fun hb h=>?_) fun hb h=>?_
    ·rw[hf,h,Bool.true_and]
     exact aB (decide_eq_decide.2 (by omega))
    ·rw[hf,h,Bool.false_and]
   ·rw[if_pos h] at hf
    refine aZ tail ?_
    refine W1 ?_
    rw[hf,Bool.not_not]
  ·have hcl:∀y∈xs,aI Tryz.prog 243 [y.v] (.c (.d (.b (!jJ y)))):=fun y hy S=>by
    have hys:=List.sizeOf_lt_of_mem hy
    refine aG (rs:=[.tmp 2]) Tryz.checked.mixed Tryz.func243 Tryz.ntmps243 rfl rfl rfl rfl rfl ?_
    refine W1 ?_
    exact C4 (ih y (by omega) (hsz y hy))
   have hidx:aI Tryz.prog 293 [.c (.d (.sl (xs.map aj.enc))),.c (.fn 243 [])] (.c (.d (.i .i64 (sS (fun y=> !jJ y) xs)))):=fun S=>by
    refine aG (rs:=[.tmp 4]) Tryz.checked.mixed Tryz.func293 Tryz.ntmps293 rfl rfl rfl rfl rfl ?_
    refine W1 ?_
    refine aT (ι:=Nat) Tryz.checked.mixed rfl [0,1,7,8] (fun i=>[.c (.d (.sl (xs.map aj.enc))),.c (.fn 243 []),.c (.d (.i .i64 xs.length)),.c (.d (.i .i64 i))]) (fun _=>[]::S)
     (fun i=>i≤xs.length∧∀j,∀hj:j<xs.length,j<i→jJ xs[j]=true) (fun i=>xs.length-i) 0 rfl rfl ⟨Nat.zero_le _,fun j _ h=>by omega⟩ ?_
    rintro i ⟨p1,p2⟩
    refine W1 ?_
    refine S0 (fun hb h=>?_) fun hb h=>?_
    ·have hi:i<xs.length:=by omega
     refine W3 ?_
     refine C2 (hcl xs[i] (List.getElem_mem hi)) ?_
     refine S0 (fun hb h=>?_) fun hb h=>?_
     ·rw[sj hi (fun j hj hji=>by rw[p2 j hj hji];rfl) (by rw[h];rfl)]
     ·refine bP (i+1) (by omega) rfl rfl ⟨by omega,fun j hj hji=> ?_⟩
      by_cases e:j=i
      ·subst e;exact h
      ·exact p2 j hj (by omega)
    ·rw[vK (fun j hj=>by rw[p2 j hj (by omega)];rfl)]
   refine aG (rs:=[.tmp 4]) Tryz.checked.mixed Tryz.func242 Tryz.ntmps242 rfl rfl rfl rfl rfl ?_
   refine W1 ?_
   refine C2 (hidx) ?_
   rw[←Lh]
   exact aB tZ
theorem Va(x:aj)(hsz:x.sz≤67108864):aI Tryz.prog 158 [x.v] (.c (.d (.b (jJ x)))):=(Ho _).1 x (Nat.lt_succ_self _) hsz
theorem Er:∀n:Nat,∀x:aj,SizeOf.sizeOf x<n→x.sz≤67108864→aI Tryz.prog 159 [x.v] (.c (.d (.i .i64 (nJ x))))
 |0=>fun x h=>by omega
 |n+1=>by
  have ih:=Er n
  intro x hn hsz S
  have hts:=Ep hsz
  have hd:=OE x
  have hd1:=DL x
  have hd2:=J7 hsz
  refine aG (rs:=[.tmp 2]) Tryz.checked.mixed Tryz.func159 Tryz.ntmps159 rfl rfl rfl rfl rfl ?_
  refine W1 ?_
  refine S0 (fun hb h=>?_) fun hb h=>?_
  ·rw[if_neg h] at hd
   rw[hd];rfl
  rw[if_pos h] at hd
  refine aT (ι:=Nat×Nat) Tryz.checked.mixed rfl [3,10,11,12] (fun y=>[.c (.d (.i .i64 y.2)),.c (.d (.sl (x.ah.map aj.enc))),.c (.d (.i .i64 x.ah.length)),.c (.d (.i .i64 y.1))]) (fun y=>[.box [.d (.s x.bf),.d (.sl (x.ah.map aj.enc))]]::S)
   (fun y=>y.1≤x.ah.length∧nJ x=max y.2 (qW (x.ah.drop y.1))+1) (fun y=>x.ah.length-y.1) (0,0) rfl rfl ⟨Nat.zero_le _,by simp[hd]⟩ ?_
  rintro⟨i,c⟩ ⟨p1,p2⟩
  simp only at p1 p2
  refine W1 ?_
  refine S0 (fun hb h=>?_) fun hb h=>?_
  ·have hi:i<x.ah.length:=by omega
   have hsz':=BH hi hsz
   rw[Hl hi] at p2
   refine W3 ?_
   refine C2 (ih x.ah[i] (by have:=aj.LZ hi;omega) (by omega)) ?_
   rw[show max (c:Int) ((nJ x.ah[i]:Int))=((max c (nJ x.ah[i]):Nat):Int) by omega]
   exact dh 1 (by decide) (i+1,max c (nJ x.ah[i])) (by simp only;omega) rfl rfl rfl rfl ⟨by simp only;omega,by simp only;omega⟩
  ·have hi:i=x.ah.length:=by omega
   rw[hi,List.drop_length,qW] at p2
   refine W3 ?_
   exact int_eq (by omega)
theorem P5(x:aj)(hsz:x.sz≤67108864):aI Tryz.prog 159 [x.v] (.c (.d (.i .i64 (nJ x)))):=Er _ x (Nat.lt_succ_self _) hsz
theorem Gb:∀n:Nat,∀x:aj,SizeOf.sizeOf x<n→x.sz≤67108864→aI Tryz.prog 160 [x.v] (.c (.d (.i .i64 (mH x))))
 |0=>fun x h=>by omega
 |n+1=>by
  have ih:=Gb n
  intro x hn hsz S
  have hts:=Ep hsz
  have hd2:=J7 hsz
  refine aG (rs:=[.tmp 2]) Tryz.checked.mixed Tryz.func160 Tryz.ntmps160 rfl rfl rfl rfl rfl ?_
  refine W1 ?_
  refine aT (ι:=Nat×Nat) Tryz.checked.mixed rfl [3,7,8,9] (fun y=>[.c (.d (.i .i64 y.2)),.c (.d (.sl (x.ah.map aj.enc))),.c (.d (.i .i64 x.ah.length)),.c (.d (.i .i64 y.1))]) (fun y=>[.box [.d (.s x.bf),.d (.sl (x.ah.map aj.enc))]]::S)
   (fun y=>y.1≤x.ah.length∧mH x=y.2+pK (x.ah.drop y.1)) (fun y=>x.ah.length-y.1) (0,1) rfl rfl ⟨Nat.zero_le _,by simp[R3];omega⟩ ?_
  rintro⟨i,c⟩ ⟨p1,p2⟩
  simp only at p1 p2
  refine W1 ?_
  refine S0 (fun hb h=>?_) fun hb h=>?_
  ·have hi:i<x.ah.length:=by omega
   have hsz':=BH hi hsz
   rw[JD hi] at p2
   refine W3 ?_
   refine C2 (ih x.ah[i] (by have:=aj.LZ hi;omega) (by omega)) ?_
   rw[show(c:Int)+(mH x.ah[i]:Int)=((c+mH x.ah[i]:Nat):Int) by omega]
   exact dh 1 (by decide) (i+1,c+mH x.ah[i]) (by simp only;omega) rfl rfl rfl rfl ⟨by simp only;omega,by simp only;omega⟩
  ·have hi:i=x.ah.length:=by omega
   rw[hi,List.drop_length,pK] at p2
   exact int_eq (by omega)
theorem SH(x:aj)(hsz:x.sz≤67108864):aI Tryz.prog 160 [x.v] (.c (.d (.i .i64 (mH x)))):=Gb _ x (Nat.lt_succ_self _) hsz
theorem P6(x:aj)(hsz:x.sz≤67108864):aI Tryz.prog 89 [x.v] (.c (.d (.b (iI x)))):=fun S=>by
 refine aG (rs:=[.tmp 2]) Tryz.checked.mixed Tryz.func89 Tryz.ntmps89 rfl rfl rfl rfl rfl ?_
 refine W1 ?_
 refine C2 (Va x hsz) ?_
 refine S0 (fun hb h=>?_) fun hb h=>?_
 ·have hf:=h
  refine C2 (P5 x hsz) ?_
  refine S0 (fun hb h=>?_) fun hb h=>?_
  ·refine C2 (SH x hsz) ?_
   refine aB ?_
   unfold iI
   rw[hf,Bool.true_and]
   exact decide_eq_decide.2 (by omega)
  ·refine aB ?_
   unfold iI
   rw[hf,Bool.true_and]
   exact(decide_eq_false (by omega)).symm
 ·refine aB ?_
  unfold iI
  rw[h,Bool.false_and]
theorem L8:∀n:Nat,∀x:aj,SizeOf.sizeOf x<n→∀l:Int,0≤l→l≤1073741824→x.sz≤67108864→aI Tryz.prog 76 [x.v,.c (.d (.i .i64 l))] (.c (.d (.i .i64 (kR l (mH x)))))
 |0=>fun x h=>by omega
 |n+1=>by
  have ih:=L8 n
  intro x hn l h0 h1 hsz S
  have hts:=Ep hsz
  have hcn:=R3 x
  refine aG (rs:=[.tmp 4]) Tryz.checked.mixed Tryz.func76 Tryz.ntmps76 rfl rfl rfl rfl rfl ?_
  refine W1 ?_
  refine aT (ι:=Nat×Int) Tryz.checked.mixed rfl [1,2,5] (fun y=>[.c (.d (.i .i64 y.2)),.c (.ptr (0,0) 0),.c (.d (.i .i64 y.1))]) (fun y=>[.box [.d (.s x.bf),.d (.sl (x.ah.map aj.enc))]]::S)
   (fun y=>y.1≤x.ah.length∧ -1≤y.2∧y.2≤1073741824∧(0≤y.2→kR l (mH x)=kR y.2 (pK (x.ah.drop y.1)))∧(y.2<0→kR l (mH x)= -1)) (fun y=>x.ah.length-y.1) (0,l-1) rfl rfl ⟨Nat.zero_le _,by simp only;omega,by simp only;omega,fun h=> ?_,fun h=> ?_⟩ ?_
  ·simp only[List.drop_zero] at h ⊢
   unfold kR
   rw[hcn]
   split<;>split<;>omega
  ·simp only at h
   exact xR (by omega)
  rintro⟨i,c⟩ ⟨p1,p2,p3,p4,p5⟩
  simp only at p1 p2 p3 p4 p5
  refine W1 ?_
  refine S0 (fun hb h=>?_) fun hb h=>?_
  ·have hi:i<x.ah.length:=by omega
   refine S0 (fun hb h=>?_) fun hb h=>?_
   ·have hsz':=BH hi hsz
    have p6:=p4 h
    rw[JD hi] at p6
    refine W3 ?_
    refine C2 (ih x.ah[i] (by have:=aj.LZ hi;omega) c (by omega) (by omega) (by omega)) ?_
    refine bP (i+1,kR c _) (by simp only;omega) rfl rfl ⟨by simp only;omega,?_,?_,fun h=> ?_,fun h=> ?_⟩
    ·simp only;unfold kR;split<;>omega
    ·simp only;unfold kR;split<;>omega
    ·simp only at h ⊢
     rw[p6]
     have:=zm (l:=c) (a:=mH x.ah[i]) (by omega)
     rw[this.1]
     unfold kR
     split<;>split<;>omega
    ·simp only at h ⊢
     rw[p6]
     have:=zn h
     exact xR (by omega)
   ·have hc:c= -1:=by omega
    rw[p5 (by omega),hc]
  ·have hi:i=x.ah.length:=by omega
   by_cases hc:0≤c
   ·rw[p4 hc,hi,List.drop_length,pK,Fg (by omega)]
    exact int_eq (by simp)
   ·rw[p5 (by omega)]
    exact int_eq (by omega)
theorem aaK(x:aj)(l:Int)(h0:0≤l)(h1:l≤1073741824)(hsz:x.sz≤67108864):aI Tryz.prog 76 [x.v,.c (.d (.i .i64 l))] (.c (.d (.i .i64 (kR l (mH x))))):=L8 _ x (Nat.lt_succ_self _) l h0 h1 hsz
theorem L9:∀n:Nat,∀x:aj,SizeOf.sizeOf x<n→x.sz≤67108864→aI Tryz.prog 77 [x.v] (.c (.d (.b (jJ x))))
 |0=>fun x h=>by omega
 |n+1=>by
  have ih:=L9 n
  intro x hn hsz S
  have hts:=Ep hsz
  have hf:=Cj x
  refine aG (rs:=[.tmp 2]) Tryz.checked.mixed Tryz.func77 Tryz.ntmps77 rfl rfl rfl rfl rfl ?_
  refine W1 ?_
  refine S0 (fun hb h=>?_) fun hb h=>?_
  ·rw[if_neg h] at hf
   refine C2 (Yu x.bf (by omega)) ?_
   refine S0 (fun hb h=>?_) fun hb h=>?_
   ·rw[hf,h,Bool.true_and]
    exact aB (decide_eq_decide.2 (by omega))
   ·rw[hf,h,Bool.false_and]
  rw[if_pos h] at hf
  refine aT (ι:=Nat) Tryz.checked.mixed rfl [1,3] (fun y=>[.c (.ptr (0,0) 0),.c (.d (.i .i64 y))]) (fun y=>[.box [.d (.s x.bf),.d (.sl (x.ah.map aj.enc))]]::S)
   (fun y=>y≤x.ah.length∧jJ x=kJ (x.ah.drop y)) (fun y=>x.ah.length-y) 0 rfl rfl ⟨Nat.zero_le _,hf⟩ ?_
  rintro i ⟨p1,p2⟩
  refine W1 ?_
  refine S0 (fun hb h=>?_) fun hb h=>?_
  ·have hi:i<x.ah.length:=by omega
   have hsz':=BH hi hsz
   rw[U9 hi] at p2
   refine W3 ?_
   refine C2 (ih x.ah[i] (by have:=aj.LZ hi;omega) (by omega)) ?_
   refine S0 (fun hb h=>?_) fun hb h=>?_
   ·rw[p2,h,Bool.false_and]
   ·exact bP (i+1) (by omega) rfl rfl ⟨by omega,by rw[p2,h,Bool.true_and]⟩
  ·have hi:i=x.ah.length:=by omega
   rw[hi,List.drop_length,kJ] at p2
   rw[p2]
theorem aaL(x:aj)(hsz:x.sz≤67108864):aI Tryz.prog 77 [x.v] (.c (.d (.b (jJ x)))):=L9 _ x (Nat.lt_succ_self _) hsz
theorem Es:∀n:Nat,∀x:aj,SizeOf.sizeOf x<n→x.sz≤67108864→aI Tryz.prog 78 [x.v] (.c (.d (.i .i64 (nJ x))))
 |0=>fun x h=>by omega
 |n+1=>by
  have ih:=Es n
  intro x hn hsz S
  have hts:=Ep hsz
  have hd:=OE x
  have hd1:=DL x
  have hd2:=J7 hsz
  refine aG (rs:=[.tmp 2]) Tryz.checked.mixed Tryz.func78 Tryz.ntmps78 rfl rfl rfl rfl rfl ?_
  refine W1 ?_
  refine S0 (fun hb h=>?_) fun hb h=>?_
  ·rw[if_neg h] at hd
   rw[hd];rfl
  rw[if_pos h] at hd
  refine aT (ι:=Nat×Nat) Tryz.checked.mixed rfl [1,3,4] (fun y=>[.c (.ptr (0,0) 0),.c (.d (.i .i64 y.2)),.c (.d (.i .i64 y.1))]) (fun y=>[.box [.d (.s x.bf),.d (.sl (x.ah.map aj.enc))]]::S)
   (fun y=>y.1≤x.ah.length∧nJ x=max y.2 (qW (x.ah.drop y.1))+1) (fun y=>x.ah.length-y.1) (0,0) rfl rfl ⟨Nat.zero_le _,by simp[hd]⟩ ?_
  rintro⟨i,c⟩ ⟨p1,p2⟩
  simp only at p1 p2
  refine W1 ?_
  refine S0 (fun hb h=>?_) fun hb h=>?_
  ·have hi:i<x.ah.length:=by omega
   have hsz':=BH hi hsz
   rw[Hl hi] at p2
   refine W3 ?_
   refine C2 (ih x.ah[i] (by have:=aj.LZ hi;omega) (by omega)) ?_
   refine C2 (Sy _ _) ?_
   rw[show max (c:Int) ((nJ x.ah[i]:Int))=((max c (nJ x.ah[i]):Nat):Int) by omega]
   exact bP (i+1,max c (nJ x.ah[i])) (by simp only;omega) rfl rfl ⟨by simp only;omega,by simp only;omega⟩
  ·have hi:i=x.ah.length:=by omega
   rw[hi,List.drop_length,qW] at p2
   refine W3 ?_
   exact int_eq (by omega)
theorem P7(x:aj)(hsz:x.sz≤67108864):aI Tryz.prog 78 [x.v] (.c (.d (.i .i64 (nJ x)))):=Es _ x (Nat.lt_succ_self _) hsz
theorem qy(x:aj)(hsz:x.sz≤67108864):aI Tryz.prog 31 [x.v] (.c (.d (.b (iI x)))):=fun S=>by
 refine aG (rs:=[.tmp 2]) Tryz.checked.mixed Tryz.func31 Tryz.ntmps31 rfl rfl rfl rfl rfl ?_
 refine W1 ?_
 refine C2 (aaK x 900 (by omega) (by omega) hsz) ?_
 refine S0 (fun hb h=>?_) fun hb h=>?_
 ·have h1:=(zm (l:=900) (a:=mH x) (by omega)).2
  refine C2 (aaL x hsz) ?_
  refine S0 (fun hb h=>?_) fun hb h=>?_
  ·have hf:=h
   refine C2 (P7 x hsz) ?_
   refine aB ?_
   unfold iI
   rw[hf,Bool.true_and]
   exact decide_eq_decide.2 (by omega)
  ·refine aB ?_
   unfold iI
   rw[h,Bool.false_and]
 ·have h1:=zn (l:=900) (a:=mH x) (by omega)
  refine aB ?_
  unfold iI
  rw[decide_eq_false (by omega),Bool.and_false]
end Go.Proofs.YtocpgjlbagncjaaGreatDoor
namespace Go.Ab
def lx(l:List aj)(n:Nat):List (List D):=eB (l.map aj.enc) n
def dS(x:aj):Nat:=sU x.enc
def jq(l:List aj):Nat:=iW (l.map aj.enc)
theorem jW(x:aj)(n:Nat):eX x.enc n=[.s x.bf,.ol n (lx x.ah (n+1))]:=by
 rw[aj.aD];simp only[eX,lI,ow,Nat.add_zero,lx]
theorem vV(s:List UInt8)(n:Nat):eX (bT s).enc n=[.s s,.ol n []]:=by rw[jW];rfl
theorem af5(x:aj):dS x=jq x.ah+1:=by
 unfold dS jq
 rw[aj.aD];simp only[sU,ow];omega
theorem jU(s:List UInt8):dS (bT s)=1:=by rw[af5];rfl
theorem mV(n:Nat):lx [] n=[]:=rfl
theorem jO(x:aj)(l:List aj)(n:Nat):lx (x::l) n=eX x.enc n::lx l (n+dS x):=rfl
theorem mW(a b:List aj)(n:Nat):lx (a++b) n=lx a n++lx b (n+jq a):=by unfold lx jq;rw[List.map_append,pO]
theorem aaM:jq []=0:=rfl
theorem Yv(x:aj)(l:List aj):jq (x::l)=dS x+jq l:=rfl
theorem iw(l:List aj)(n:Nat):(lx l n).length=l.length:=by unfold lx;rw[jN,List.length_map]
theorem lq{l:List aj}{n:Nat}:∀r∈lx l n,r.length=2:=wB fun r hr=>by
 obtain⟨z,_,rfl⟩:=List.mem_map.1 hr
 exact z.dn
theorem NG{l:List aj}{i:Nat}(hi:i<l.length)(n:Nat):lx (l.take i) n++[eX l[i].enc (n+jq (l.take i))]=lx (l.take (i+1)) n:=by
 rw[List.take_succ_eq_append_getElem hi,mW];rfl
theorem FD{l:List aj}{i:Nat}(hi:i<l.length)(n:Nat):lx (l.take i) n++[[.s l[i].bf,.ol (n+jq (l.take i)) (lx l[i].ah (n+jq (l.take i)+1))]]=lx (l.take (i+1)) n:=by
 rw[←NG hi,jW]
theorem zw{base l:List aj}{i:Nat}(hi:i<l.length)(q:Nat):lx (base++l.take i) q++[[.s l[i].bf,.ol (q+jq (base++l.take i)) (lx l[i].ah (q+jq (base++l.take i)+1))]]=lx (base++l.take (i+1)) q:=by
 rw[List.take_succ_eq_append_getElem hi,←List.append_assoc,mW (base++l.take i),jO,mV,jW]
theorem gT{l:List aj}:∀r∈l.map aj.enc,r.length=2:=fun r hr=>by
 obtain⟨z,_,rfl⟩:=List.mem_map.1 hr
 exact z.dn
theorem DT{cs cs':List C}(hl:cs'.length=cs.length)(h:∀(j:Nat) (x y:C),cs[j]? =some x→cs'[j]? =some y→∀w σ S β v,jf w σ S β x v→jf w σ S β y v):Less (.agg cs) (.agg cs'):=by
 rintro w σ S β v ⟨a,ha,hc⟩
 refine⟨a,ha,hl.trans hc.1,fun j y hy=> ?_⟩
 have hj:j<cs.length:=by rw[←hl];exact(List.getElem?_eq_some_iff.1 hy).1
 obtain⟨v,h1,h2,h3⟩:=hc.2 j _ (List.getElem?_eq_getElem hj)
 exact⟨v,h1,h j _ y (List.getElem?_eq_getElem hj) hy w σ S β v h2,h3⟩
theorem ahO{w:World}{σ:Nat→Nat}{S:Store}{β:Hs}{v:Value}(n:Nat)(h:jf w σ S β (.bO []) v):jf w σ S β (.d (.ol n [])) v:=by
 obtain⟨hd,ad,m,hval⟩:=h
 have hm:m=0:=by rw[hval] at hd;cases hd<;>rfl
 subst hm
 rw[hval]
 exact .vw _ _ _
theorem af6(s:List UInt8)(n:Nat):Less (.agg [.d (.s s),.bO []]) (.agg [.d (.s s),.d (.ol n [])]):=DT rfl fun j x y hx hy w σ S β v hv=>by
 match j,hx,hy with
 |0,hx,hy=>cases hx;cases hy;exact hv
 |1,hx,hy=>cases hx;cases hy;exact ahO _ hv
 |j+2,hx,hy=>simp at hx
theorem af7(s:List UInt8)(n:Nat)(es:List (List D)):Less (.agg [.d (.s s),.kW n es]) (.agg [.d (.s s),.d (.ol n es)]):=DT rfl fun j x y hx hy w σ S β v hv=>by
 match j,hx,hy with
 |0,hx,hy=>cases hx;cases hy;exact hv
 |1,hx,hy=>cases hx;cases hy;exact hv.1
 |j+2,hx,hy=>simp at hx
end Go.Ab
namespace Go.Proofs.YtocpgjlbagncjaaGreatDoor
open Go Go.Ab
theorem Vb(s:List UInt8):aI Tryz.prog 215 [.c (.d (.s s))] (.agg [.d (.s s),.bO []]):=fun S=>by
 refine aG (rs:=[.cell 2 37]) Tryz.checked.mixed Tryz.func215 Tryz.ntmps215 rfl rfl rfl rfl rfl ?_
 exact Z1
theorem dI(s:List UInt8)(n:Nat):aI Tryz.prog 215 [.c (.d (.s s))] (.agg [.d (.s s),.d (.ol n [])]):=aI.less (Vb s) (af6 s n)
theorem lu(d:D):aI Tryz.prog 218 [.c (.d d)] (.agg [.d (.s []),.d d]):=fun S=>by
 refine aG (rs:=[.cell 2 37]) Tryz.checked.mixed Tryz.func218 Tryz.ntmps218 rfl rfl rfl rfl rfl ?_
 exact Z1
theorem Vd(n:Nat)(es:List (List D)):aI Tryz.prog 218 [.c (.kW n es)] (.agg [.d (.s []),.kW n es]):=fun S=>by
 refine aG (rs:=[.cell 2 37]) Tryz.checked.mixed Tryz.func218 Tryz.ntmps218 rfl rfl rfl rfl rfl ?_
 exact Z1
theorem nO(n:Nat)(es:List (List D)):aI Tryz.prog 218 [.c (.kW n es)] (.agg [.d (.s []),.d (.ol n es)]):=aI.less (Vd n es) (af7 [] n es)
theorem jZ(l j:Nat)(es:List (List D))(S:Store):cB Tryz.prog 218 [.c (.bS (l,j) es)] S (fun r S'=>r=.agg [.d (.s []),.bS (l,j) es]∧S'=S):=by
 refine aG (rs:=[.cell 2 37]) Tryz.checked.mixed Tryz.func218 Tryz.ntmps218 rfl rfl rfl rfl rfl ?_
 exact Z1
theorem AQ(xs:List (List UInt8))(hx:xs.length≤1073741824)(n q:Nat):aI Tryz.prog 217 [.c (.d (.sl (xs.map encS)))] (.c (.d (.ol n (lx (aV xs) q)))):=fun S=>by
 refine kC (n) (rs:=[.tmp 2]) Tryz.checked.mixed Tryz.func217 Tryz.ntmps217 rfl rfl rfl rfl rfl ?_
 refine W1 ?_
 refine W3 ?_
 refine l6 n 3 2 [] (.inl rfl) (by simp) ?_
 refine aT (ι:=Nat) Tryz.checked.mixed rfl [3,7,8,9] (fun i=>[.c (.bS (0,1) (lx ((aV xs).take i) q)),.c (.d (.sl (xs.map encS))),.c (.d (.i .i64 xs.length)),.c (.d (.i .i64 i))]) (fun i=>[.seed n,.fF n 2 (lx ((aV xs).take i) q)]::S)
  (fun i=>i≤xs.length) (fun i=>xs.length-i) 0 rfl rfl (Nat.zero_le _) ?_
 intro i hi
 refine W1 ?_
 refine S0 (fun hb h=>?_) fun hb h=>?_
 ·have hi':i<xs.length:=by omega
  have hw:i<(aV xs).length:=by rw[jH];exact hi'
  have hg:(aV xs)[i]=bT xs[i]:=by simp[aV]
  have hl:(lx ((aV xs).take i) q).length≤i:=by rw[iw];exact List.length_take_le _ _
  refine W3 ?_
  refine C1 (dI xs[i] (q+jq ((aV xs).take i))) ?_
  refine W3 ?_
  have hs:=NG hw q
  rw[hg,vV] at hs
  rw[hs]
  exact bP (i+1) (by omega) rfl rfl (by omega)
 ·have hi':i=(aV xs).length:=by rw[jH];omega
  rw[hi',List.take_length]
theorem eY(xs:List (List UInt8))(hx:xs.length≤1073741824)(n:Nat):aI Tryz.prog 245 [.c (.d (.sl (xs.map encS)))] (.agg [.d (.s []),.d (.ol n (lx (aV xs) (n+1)))]):=fun S=>by
 refine aG (rs:=[.cell 2 37]) Tryz.checked.mixed Tryz.func245 Tryz.ntmps245 rfl rfl rfl rfl rfl ?_
 refine W1 ?_
 refine C1 (AQ xs hx n (n+1)) ?_
 exact C3 (lu _)
theorem FE:∀N:Nat,(∀x:au,SizeOf.sizeOf x<N→∀n:Nat,formed x=true→x.sz≤4194304→aI Tryz.prog 220 [x.v] (.agg [.d (.s (dw x).bf),.d (.ol n (lx (dw x).ah (n+1)))]))∧
 (∀xs:List au,SizeOf.sizeOf xs<N→∀n q:Nat,iZ xs=true→xs.length≤4194304→(∀t∈xs,t.sz≤4194304)→aI Tryz.prog 246 [.c (.d (.sl (xs.map au.enc)))] (.c (.d (.ol n (lx (xs.map dw) q)))))
 |0=>⟨fun x h=>by omega,fun x h=>by omega⟩
 |N+1=>by
  obtain⟨ih,qh⟩:=FE N
  refine⟨fun x hn n hf hsz=> ?_,fun xs hn n q hf hlen hsz=> ?_⟩
  ·have jS:=au.gM x
   have hts:=Dc hsz
   have hx:=aaq x
   rw[xU,Bool.and_eq_true] at hf
   have hfi:=gH hf.1
   have hall:∀t∈x.fArgs,t.sz≤4194304:=fun t ht=>by
    obtain⟨i,hi,e⟩:=List.getElem_of_mem ht
    rw[←e];exact(vS hi hsz).1
   intro S
   refine ug (n) 1 (rs:=[.cell 2 37]) Tryz.checked.mixed Tryz.func220 Tryz.ntmps220 rfl rfl rfl rfl rfl ?_
   refine W1 ?_
   refine S0 (fun hb h=>?_) fun hb h=>?_
   ·rw[if_pos h] at hx
    rw[hx]
    refine W3 ?_
    refine C1 (dI _ n) ?_
    rfl
   have k1:=h
   rw[if_neg h] at hx
   refine S0 (fun hb h=>?_) fun hb h=>?_
   ·rw[if_pos h] at hx
    rw[hx]
    refine C1 (dI _ (n+1)) ?_
    refine C1 (dI _ (n+1+1)) ?_
    refine C1 (nO _ _) ?_
    rfl
   have k4:=h
   rw[if_neg h] at hx
   refine S0 (fun hb h=>?_) fun hb h=>?_
   ·have hlen:x.fArgs.length=1:=by omega
    obtain⟨a,ha⟩:=List.length_eq_one_iff.1 hlen
    have ha0:x.fArgs[0]'(by omega)=a:=by simp[ha]
    rw[if_neg (by omega),if_pos h,ha] at hx
    have hfa:formed a=true:=wV.1 hf.2 a (by rw[ha];simp)
    have hsa:a.sz≤4194304:=hall a (by rw[ha];simp)
    have hla:SizeOf.sizeOf a<N:=by
     have:=List.sizeOf_lt_of_mem (show a∈x.fArgs by rw[ha];simp)
     omega
    rw[hx]
    refine C1 (dI _ (n+1)) ?_
    refine aZ (dI _ (n+1+1)) ?_
    simp -implicitDefEqProofs (disch:=omega) only[go_sem,ha,List.getD_cons_zero]
    refine W3 ?_
    refine C1 (ih a hla (n+1+1+1) hfa hsa) ?_
    refine C1 (nO _ _) ?_
    simp only[eu,dJ,List.cons_append,List.nil_append,List.map_cons,List.map_nil,jO,mV,vV,jU,jW,kG,kH,iO]
   have k3:=h
   refine S0 (fun hb h=>?_) fun hb h=>?_
   ·rw[if_pos ⟨by omega,by omega⟩] at hx
    rw[hx]
    refine C1 (dI _ n) ?_
    rfl
   rw[if_neg (by omega),if_neg k3] at hx
   rw[hx]
   refine C1 (dI _ (n+1)) ?_
   refine C1 (qh x.fArgs (by omega) 0 (n+1+1) hf.2 hts.1 hall) ?_
   have hl:(lx (x.fArgs.map dw) (n+1+1)).length=x.fArgs.length:=by rw[iw,List.length_map]
   have hr:=lq (l:=x.fArgs.map dw) (n:=n+1+1)
   refine W3 ?_
   refine C1 (lu _) ?_
   simp only[eu,dJ,List.cons_append,List.nil_append,jO,mV,vV,jU]
  ·have Bt:=fun(i:Nat) (hi:i<xs.length)=>FD (l:=xs.map dw) (i:=i) (by rw[List.length_map];exact hi) q
   intro S
   refine kC (n) (rs:=[.tmp 2]) Tryz.checked.mixed Tryz.func246 Tryz.ntmps246 rfl rfl rfl rfl rfl ?_
   refine W1 ?_
   refine W3 ?_
   refine l6 n 3 2 [] (.inl rfl) (by simp) ?_
   refine aT (ι:=Nat) Tryz.checked.mixed rfl [3,7,8,9] (fun i=>[.c (.bS (0,1) (lx ((xs.map dw).take i) q)),.c (.d (.sl (xs.map au.enc))),.c (.d (.i .i64 xs.length)),.c (.d (.i .i64 i))]) (fun i=>[.seed n,.fF n 2 (lx ((xs.map dw).take i) q)]::S)
    (fun i=>i≤xs.length) (fun i=>xs.length-i) 0 rfl rfl (Nat.zero_le _) ?_
   intro i hi
   refine W1 ?_
   refine S0 (fun hb h=>?_) fun hb h=>?_
   ·have hi':i<xs.length:=by omega
    have hs:=Bt i hi'
    rw[List.getElem_map] at hs
    have hl:(lx ((xs.map dw).take i) q).length≤i:=by rw[iw];exact List.length_take_le _ _
    refine W3 ?_
    refine C1 (ih xs[i] (by have:=List.sizeOf_lt_of_mem (List.getElem_mem hi');omega) (q+jq ((xs.map dw).take i)) (wV.1 hf _ (List.getElem_mem hi')) (hsz _ (List.getElem_mem hi'))) ?_
    refine W3 ?_
    rw[hs]
    exact dh 2 (by decide) (i+1) (by omega) rfl rfl rfl rfl (by omega)
   ·have hi':i=(xs.map dw).length:=by rw[List.length_map];omega
    rw[hi',List.take_length]
theorem lC(x:au)(n:Nat)(hf:formed x=true)(hsz:x.sz≤4194304):aI Tryz.prog 220 [x.v] (.agg [.d (.s (dw x).bf),.d (.ol n (lx (dw x).ah (n+1)))]):=(FE _).1 x (Nat.lt_succ_self _) n hf hsz
theorem zV(xs:List au)(n q:Nat)(hf:iZ xs=true)(hlen:xs.length≤4194304)(hsz:∀t∈xs,t.sz≤4194304):aI Tryz.prog 246 [.c (.d (.sl (xs.map au.enc)))] (.c (.d (.ol n (lx (xs.map dw) q)))):=(FE _).2 xs (Nat.lt_succ_self _) n q hf hlen hsz
end Go.Proofs.YtocpgjlbagncjaaGreatDoor
namespace Go.Ab
theorem fM(s:List UInt8):(bT s).enc=[.s s,.sl []]:=by rw[aj.aD];rfl
theorem j3(l:List aj):(bY l).enc=[.s [],.sl (l.map aj.enc)]:=by rw[aj.aD];rfl
theorem jI{base l:List aj}{i:Nat}(hi:i<l.length):(base++l.take i).map aj.enc++[[.s l[i].bf,.sl (l[i].ah.map aj.enc)]]=(base++l.take (i+1)).map aj.enc:=by
 rw[List.take_succ_eq_append_getElem hi,←List.append_assoc,List.map_append (l₂:=[l[i]]),List.map_cons,List.map_nil,aj.aD]
theorem Et(s:List UInt8)(es:List (List D)):Less (.agg [.d (.s s),.bO es]) (.agg [.d (.s s),.d (.sl es)]):=DT rfl fun j x y hx hy w σ S β v hv=>by
 match j,hx,hy with
 |0,hx,hy=>cases hx;cases hy;exact hv
 |1,hx,hy=>cases hx;cases hy;exact hv.1
 |j+2,hx,hy=>simp at hx
theorem IU(x:aj)(n:Nat):Less (.agg [.d (.s x.bf),.d (.ol n (lx x.ah (n+1)))]) x.v:=by
 have h:=JX (r:=x.enc) (n:=n)
 rw[jW,aj.tY] at h
 exact h
end Go.Ab
namespace Go.Proofs.YtocpgjlbagncjaaGreatDoor
open Go Go.Ab
theorem SI(s:List UInt8):aI Tryz.prog 203 [.c (.d (.s s))] (.agg [.d (.s s),.bO []]):=fun S=>by
 refine aG (rs:=[.cell 2 37]) Tryz.checked.mixed Tryz.func203 Tryz.ntmps203 rfl rfl rfl rfl rfl ?_
 exact Z1
theorem cK(s:List UInt8):aI Tryz.prog 203 [.c (.d (.s s))] (.agg [.d (.s s),.d (.sl [])]):=aI.less (SI s) (Et s [])
theorem nD(es:List (List D))(hes:∀e∈es,e.length=2)(hl:es.length≤1073741824):aI Tryz.prog 228 [.c (.d (.sl es))] (.agg [.d (.s []),.d (.sl es)]):=fun S=>by
 refine aG (rs:=[.cell 2 37]) Tryz.checked.mixed Tryz.func228 Tryz.ntmps228 rfl rfl rfl rfl rfl ?_
 refine W1 ?_
 exact⟨hes,⟨_,rfl,rfl⟩,(fun y hy=>by cases hy),hl⟩
theorem kU(es:List (List D))(hes:∀e∈es,e.length=2)(hl:es.length≤1073741824)(bZ:List Ab.Obj)(Ω:Store):cB Tryz.prog 228 [.c (.d (.sl es))] (bZ::Ω)
 (fun r S'=>r=.agg [.d (.s []),.bS (0,bZ.length+1) es]∧S'=(bZ++[.box [.d (.s []),.bS (0,bZ.length+1) es],.tok 2 es])::Ω):=by
 refine OJ (rs:=[.cell 2 37]) Tryz.checked.mixed Tryz.func228 Tryz.ntmps228 rfl rfl rfl rfl rfl ?_
 refine W1 ?_
 exact⟨hes,⟨_,rfl,rfl⟩,(fun y hy=>by cases hy),hl⟩
theorem Hr(xs:List (List UInt8))(hx:xs.length≤1073741824):aI Tryz.prog 207 [.c (.d (.sl (xs.map encS)))] (.c (.d (.sl ((aV xs).map aj.enc)))):=fun S=>by
 refine aG (rs:=[.tmp 2]) Tryz.checked.mixed Tryz.func207 Tryz.ntmps207 rfl rfl rfl rfl rfl ?_
 refine W1 ?_
 refine W3 ?_
 refine mR 3 2 [] rfl (by simp) ?_
 refine aT (ι:=Nat) Tryz.checked.mixed rfl [0,3,4] (fun i=>[.c (.d (.sl (xs.map encS))),.c (.bS (0,0) (((aV xs).take i).map aj.enc)),.c (.d (.i .i64 i))]) (fun i=>[.tok 2 (((aV xs).take i).map aj.enc)]::S)
  (fun i=>i≤xs.length) (fun i=>xs.length-i) 0 rfl rfl (Nat.zero_le _) ?_
 intro i hi
 have hl:(((aV xs).take i).map aj.enc).length≤i:=by rw[List.length_map];exact List.length_take_le _ _
 refine W1 ?_
 refine S0 (fun hb h=>?_) fun hb h=>?_
 ·have hi':i<xs.length:=by omega
  have hs:=jI (base:=[]) (l:=aV xs) (i:=i) (by rw[jH];exact hi')
  have hg:(aV xs)[i]'(by rw[jH];exact hi')=bT xs[i]:=by simp[aV]
  rw[hg] at hs
  simp only[List.nil_append,kG,kH,List.map_nil] at hs
  refine W3 ?_
  refine C1 (cK xs[i]) ?_
  refine W3 ?_
  rw[hs]
  exact bP (i+1) (by omega) rfl rfl (by omega)
 ·have hi':i=(aV xs).length:=by rw[jH];omega
  rw[hi',List.take_length]
theorem eO(xs:List (List UInt8))(hx:xs.length≤1073741824):aI Tryz.prog 229 [.c (.d (.sl (xs.map encS)))] (.agg [.d (.s []),.d (.sl ((aV xs).map aj.enc))]):=fun S=>by
 refine aG (rs:=[.cell 2 37]) Tryz.checked.mixed Tryz.func229 Tryz.ntmps229 rfl rfl rfl rfl rfl ?_
 refine W1 ?_
 exact C3 (Hr xs hx)
theorem Ma:∀N:Nat,(∀x:au,SizeOf.sizeOf x<N→x.sz≤4194304→aI Tryz.prog 206 [x.v] (.agg [.d (.s (dw x).bf),.d (.sl ((dw x).ah.map aj.enc))]))
 |0=>fun x h=>by omega
 |N+1=>by
  have ih:=Ma N
  intro x hn hsz
  have jS:=au.gM x
  have hts:=Dc hsz
  have hx:=aaq x
  have hall:∀t∈x.fArgs,t.sz≤4194304:=fun t ht=>by
   obtain⟨i,hi,e⟩:=List.getElem_of_mem ht
   rw[←e];exact(vS hi hsz).1
  intro S
  refine aG (rs:=[.cell 2 37]) Tryz.checked.mixed Tryz.func206 Tryz.ntmps206 rfl rfl rfl rfl rfl ?_
  refine W1 ?_
  refine S0 (fun hb h=>?_) fun hb h=>?_
  ·rw[if_pos h] at hx
   rw[hx]
   refine W3 ?_
   refine C1 (cK _) ?_
   rfl
  rw[if_neg h] at hx
  refine S0 (fun hb h=>?_) fun hb h=>?_
  ·rw[if_pos h] at hx
   rw[hx]
   refine C1 (cK _) ?_
   refine C1 (cK _) ?_
   refine C1 (nD _ (by simp) (by simp)) ?_
   simp only[eu,dJ,List.map_cons,List.map_nil,fM,Fh]
  rw[if_neg h] at hx
  have alv:x.aK=2→x.fArgs.length=0→dw x=bT x.fName:=fun a b=>by rw[hx,if_pos ⟨a,b⟩]
  have adO:¬(x.aK=2∧x.fArgs.length=0)→dw x=bY ((if x.aK=3 then [bT iO] else [])++[bT x.fName]++x.fArgs.map dw):=fun a=>by rw[hx,if_neg a]
  clear hx
  repeat' (first|(refine S0 (fun hb h=>?_) fun hb h=>?_))
  ·rw[alv (by omega) (by omega)]
   refine C1 (cK _) ?_
   rfl
  ·exfalso;omega
  ·have hx:=adO (by omega)
   rw[if_neg h,List.nil_append] at hx
   refine C1 (cK _) ?_
   refine W3 ?_
   refine aT (ι:=Nat) Tryz.checked.mixed rfl [1,2,3,4] (fun i=>[.c (.ptr (0,0) 0),.c (.ptr (0,1) 0),.c (.ptr (0,2) 0),.c (.d (.i .i64 i))])
    (fun i=>[.box [.d (.i .i64 x.aK),.d (.s x.fName),.d (.sl (x.fArgs.map au.enc))],.box [.d (.s []),.bO []],.box [.d (.s []),.bS (0,3) (([bT x.fName]++(x.fArgs.map dw).take i).map aj.enc)],.tok 2 (([bT x.fName]++(x.fArgs.map dw).take i).map aj.enc)]::S)
    (fun i=>i≤x.fArgs.length) (fun i=>x.fArgs.length-i) 0 rfl ?_ (Nat.zero_le _) ?_
   ·simp only[List.take_zero,List.append_nil,List.map_cons,List.map_nil,List.cons_append,List.nil_append,fM]<;>(try rfl)
   intro i hi
   have hl:(([bT x.fName]++(x.fArgs.map dw).take i).map aj.enc).length≤i+2:=by
    rw[List.length_map,List.length_append]
    have:=List.length_take_le i (x.fArgs.map dw)
    simp only[List.length_cons,List.length_nil];omega
   have hs:=fun hi=>jI (base:=[bT x.fName]) (l:=x.fArgs.map dw) (i:=i) hi
   have hrw:=gT (l:=[bT x.fName]++(x.fArgs.map dw).take i)
   generalize hR:([bT x.fName]++(x.fArgs.map dw).take i).map aj.enc=R at hl hs hrw
   refine W1 ?_
   refine S0 (fun hb h=>?_) fun hb h=>?_
   ·have hi':i<x.fArgs.length:=by omega
    have hs':=hs (by rw[List.length_map];exact hi')
    rw[List.getElem_map] at hs'
    refine W3 ?_
    refine C1 (ih x.fArgs[i] (by have:=List.sizeOf_lt_of_mem (List.getElem_mem hi');omega) (hall _ (List.getElem_mem hi'))) ?_
    refine W3 ?_
    rw[hs']
    exact bP (i+1) (by omega) rfl rfl (by omega)
   ·have hi':i=(x.fArgs.map dw).length:=by rw[List.length_map];omega
    rw[hx,←hR,hi',List.take_length]
    simp only[eu,dJ,List.cons_append,List.nil_append]
  ·have hx:=adO (by omega)
   rw[if_pos h] at hx
   refine C1 (cK _) ?_
   refine W3 ?_
   refine C1 (cK _) ?_
   refine W3 ?_
   refine aT (ι:=Nat) Tryz.checked.mixed rfl [1,2,3,4] (fun i=>[.c (.ptr (0,0) 0),.c (.ptr (0,1) 0),.c (.ptr (0,2) 0),.c (.d (.i .i64 i))])
    (fun i=>[.box [.d (.i .i64 x.aK),.d (.s x.fName),.d (.sl (x.fArgs.map au.enc))],.box [.d (.s []),.bO []],.box [.d (.s []),.bS (0,3) (([bT iO,bT x.fName]++(x.fArgs.map dw).take i).map aj.enc)],.tok 2 (([bT iO,bT x.fName]++(x.fArgs.map dw).take i).map aj.enc)]::S)
    (fun i=>i≤x.fArgs.length) (fun i=>x.fArgs.length-i) 0 rfl ?_ (Nat.zero_le _) ?_
   ·simp only[List.take_zero,List.append_nil,List.map_cons,List.map_nil,List.cons_append,List.nil_append,fM]<;>(try rfl)
   intro i hi
   have hl:(([bT iO,bT x.fName]++(x.fArgs.map dw).take i).map aj.enc).length≤i+2:=by
    rw[List.length_map,List.length_append]
    have:=List.length_take_le i (x.fArgs.map dw)
    simp only[List.length_cons,List.length_nil];omega
   have hs:=fun hi=>jI (base:=[bT iO,bT x.fName]) (l:=x.fArgs.map dw) (i:=i) hi
   have hrw:=gT (l:=[bT iO,bT x.fName]++(x.fArgs.map dw).take i)
   generalize hR:([bT iO,bT x.fName]++(x.fArgs.map dw).take i).map aj.enc=R at hl hs hrw
   refine W1 ?_
   refine S0 (fun hb h=>?_) fun hb h=>?_
   ·have hi':i<x.fArgs.length:=by omega
    have hs':=hs (by rw[List.length_map];exact hi')
    rw[List.getElem_map] at hs'
    refine W3 ?_
    refine C1 (ih x.fArgs[i] (by have:=List.sizeOf_lt_of_mem (List.getElem_mem hi');omega) (hall _ (List.getElem_mem hi'))) ?_
    refine W3 ?_
    rw[hs']
    exact bP (i+1) (by omega) rfl rfl (by omega)
   ·have hi':i=(x.fArgs.map dw).length:=by rw[List.length_map];omega
    rw[hx,←hR,hi',List.take_length]
    simp only[eu,dJ,List.cons_append,List.nil_append]
  ·have hx:=adO (by omega)
   rw[if_neg h,List.nil_append] at hx
   refine C1 (cK _) ?_
   refine W3 ?_
   refine aT (ι:=Nat) Tryz.checked.mixed rfl [1,2,3,4] (fun i=>[.c (.ptr (0,0) 0),.c (.ptr (0,1) 0),.c (.ptr (0,2) 0),.c (.d (.i .i64 i))])
    (fun i=>[.box [.d (.i .i64 x.aK),.d (.s x.fName),.d (.sl (x.fArgs.map au.enc))],.box [.d (.s []),.bO []],.box [.d (.s []),.bS (0,3) (([bT x.fName]++(x.fArgs.map dw).take i).map aj.enc)],.tok 2 (([bT x.fName]++(x.fArgs.map dw).take i).map aj.enc)]::S)
    (fun i=>i≤x.fArgs.length) (fun i=>x.fArgs.length-i) 0 rfl ?_ (Nat.zero_le _) ?_
   ·simp only[List.take_zero,List.append_nil,List.map_cons,List.map_nil,List.cons_append,List.nil_append,fM]<;>(try rfl)
   intro i hi
   have hl:(([bT x.fName]++(x.fArgs.map dw).take i).map aj.enc).length≤i+2:=by
    rw[List.length_map,List.length_append]
    have:=List.length_take_le i (x.fArgs.map dw)
    simp only[List.length_cons,List.length_nil];omega
   have hs:=fun hi=>jI (base:=[bT x.fName]) (l:=x.fArgs.map dw) (i:=i) hi
   have hrw:=gT (l:=[bT x.fName]++(x.fArgs.map dw).take i)
   generalize hR:([bT x.fName]++(x.fArgs.map dw).take i).map aj.enc=R at hl hs hrw
   refine W1 ?_
   refine S0 (fun hb h=>?_) fun hb h=>?_
   ·have hi':i<x.fArgs.length:=by omega
    have hs':=hs (by rw[List.length_map];exact hi')
    rw[List.getElem_map] at hs'
    refine W3 ?_
    refine C1 (ih x.fArgs[i] (by have:=List.sizeOf_lt_of_mem (List.getElem_mem hi');omega) (hall _ (List.getElem_mem hi'))) ?_
    refine W3 ?_
    rw[hs']
    exact bP (i+1) (by omega) rfl rfl (by omega)
   ·have hi':i=(x.fArgs.map dw).length:=by rw[List.length_map];omega
    rw[hx,←hR,hi',List.take_length]
    simp only[eu,dJ,List.cons_append,List.nil_append]
theorem lW(x:au)(hsz:x.sz≤4194304):aI Tryz.prog 206 [x.v] (.agg [.d (.s (dw x).bf),.d (.sl ((dw x).ah.map aj.enc))]):=Ma _ x (Nat.lt_succ_self _) hsz
theorem Bu(xs:List au)(hlen:xs.length≤4194304)(hsz:∀t∈xs,t.sz≤4194304):aI Tryz.prog 230 [.c (.d (.sl (xs.map au.enc)))] (.c (.d (.sl ((xs.map dw).map aj.enc)))):=fun S=>by
 refine aG (rs:=[.tmp 2]) Tryz.checked.mixed Tryz.func230 Tryz.ntmps230 rfl rfl rfl rfl rfl ?_
 refine W1 ?_
 refine W3 ?_
 refine mR 3 2 [] rfl (by simp) ?_
 refine aT (ι:=Nat) Tryz.checked.mixed rfl [0,3,4] (fun i=>[.c (.d (.sl (xs.map au.enc))),.c (.bS (0,0) (((xs.map dw).take i).map aj.enc)),.c (.d (.i .i64 i))]) (fun i=>[.tok 2 (((xs.map dw).take i).map aj.enc)]::S)
  (fun i=>i≤xs.length) (fun i=>xs.length-i) 0 rfl rfl (Nat.zero_le _) ?_
 intro i hi
 have hl:(((xs.map dw).take i).map aj.enc).length≤i:=by rw[List.length_map];exact List.length_take_le _ _
 refine W1 ?_
 refine S0 (fun hb h=>?_) fun hb h=>?_
 ·have hi':i<xs.length:=by omega
  have hs:=jI (base:=[]) (l:=xs.map dw) (i:=i) (by rw[List.length_map];exact hi')
  rw[List.getElem_map] at hs
  simp only[List.nil_append] at hs
  refine W3 ?_
  refine C1 (lW xs[i] (hsz _ (List.getElem_mem hi'))) ?_
  refine W3 ?_
  rw[hs]
  exact bP (i+1) (by omega) rfl rfl (by omega)
 ·have hi':i=(xs.map dw).length:=by rw[List.length_map];omega
  rw[hi',List.take_length]
theorem rW(b:Bool)(x:aj)(hsz:x.sz≤67108864):aI Tryz.prog 231 [.c (.d (.b b)),x.v] (vO b x).v:=by
 have zero:aI Tryz.prog 231 [.c (.d (.b b)),x.v] (.agg [.d (.s []),.bO []])→aI Tryz.prog 231 [.c (.d (.b b)),x.v] dB.v:=fun h=>aI.less h (Et [] [])
 cases b with
 |false=>
  refine zero fun S=> ?_
  refine aG (rs:=[.cell 4 37]) Tryz.checked.mixed Tryz.func231 Tryz.ntmps231 rfl rfl rfl rfl rfl ?_
  exact Z1
 |true=>
  show aI Tryz.prog 231 [.c (.d (.b true)),x.v] (Ck x).v
  unfold Ck
  cases hv:iI x with
  |false=>
   refine zero fun S=> ?_
   refine aG (rs:=[.cell 4 37]) Tryz.checked.mixed Tryz.func231 Tryz.ntmps231 rfl rfl rfl rfl rfl ?_
   refine W1 ?_
   refine aZ (qy x hsz) ?_
   simp -implicitDefEqProofs (disch:=omega) only[go_sem,hv]
  |true=>
   intro S
   refine aG (rs:=[.cell 4 37]) Tryz.checked.mixed Tryz.func231 Tryz.ntmps231 rfl rfl rfl rfl rfl ?_
   refine W1 ?_
   refine aZ (qy x hsz) ?_
   simp -implicitDefEqProofs (disch:=omega) only[go_sem,hv]
end Go.Proofs.YtocpgjlbagncjaaGreatDoor
namespace Go.Ab
theorem aS.bounds{x:aS}(h:x.sz≤4194304):x.fName.length≤4194304∧x.aA.length≤4194304∧x.aH.length≤4194304∧∀s∈x.aA,s.length≤4194304:=by
 simp only[aS.sz,aS.aD,cu,bN,D.sz,List.length_map] at h
 refine⟨by omega,by omega,by omega,fun s hs=> ?_⟩
 have:=rU hs
 omega
theorem aS.QC{x:aS}{i:Nat}(hi:i<x.aH.length)(h:x.sz≤4194304):x.aH[i].sz≤4194304:=by
 have hx:x.aH[i].sz≤bD (x.aH.map aM.enc):=dA (List.mem_map_of_mem (List.getElem_mem hi))
 simp only[aS.sz,aS.aD,cu,bN,D.sz,List.length_map] at h
 omega
theorem aM.bounds{x:aM}(h:x.sz≤4194304):x.fName.length≤4194304∧x.fG.length≤4194304∧∀t∈x.fG,t.sz≤4194304:=by
 simp only[aM.sz,aM.aD,cu,bN,D.sz,List.length_map] at h
 refine⟨by omega,by omega,fun t ht=> ?_⟩
 have hx:t.sz≤bD (x.fG.map au.enc):=dA (List.mem_map_of_mem ht)
 omega
noncomputable def pW(vars:List (List UInt8))(c:aM):Bool:=dec (c.fG.length≤4)&&lV vars c.fG
noncomputable def lX(d:aS):List (List UInt8):=d.aH.map aM.fName
noncomputable def fO(d:aS):Bool:=
 validName d.fName&&(dec (d.aA.length≤3)&&(iL d.aA&&(dec (1≤d.aH.length)&&(dec (d.aH.length≤5)&&(d.aH.all (pW d.aA)&&iL (lX d))))))
end Go.Ab
namespace Go.Proofs.YtocpgjlbagncjaaGreatDoor
open Go Go.Ab
theorem Cq(d:aS)(hsz:d.sz≤4194304):aI Tryz.prog 155 [d.v] (.c (.d (.b (fO d)))):=fun S=>by
 have hb0:=aS.bounds hsz
 have bad:∀i,∀hi:i<d.aH.length,pW d.aA d.aH[i]=false→fO d=false:=fun i hi h=>by
  have:d.aH.all (pW d.aA)=false:=Bool.eq_false_iff.2 fun hx=>by
   rw[List.all_eq_true.1 hx _ (List.getElem_mem hi)] at h;cases h
  unfold fO
  rw[this];simp
 refine aG (rs:=[.tmp 2]) Tryz.checked.mixed Tryz.func155 Tryz.ntmps155 rfl rfl rfl rfl rfl ?_
 refine W1 ?_
 refine W3 ?_
 refine mR 3 1 [] rfl (by simp) ?_
 refine aT (ι:=Nat×List (List UInt8)) Tryz.checked.mixed rfl [1,3,4] (fun y=>[.c (.ptr (0,0) 0),.c (.bS (0,1) (y.2.map encS)),.c (.d (.i .i64 y.1))]) (fun y=>[.box (d.enc.map .d),.tok 1 (y.2.map encS)]::S)
  (fun y=>y.1≤d.aH.length∧y.2=(lX d).take y.1∧∀j,∀hj:j<d.aH.length,j<y.1→pW d.aA d.aH[j]=true) (fun y=>d.aH.length-y.1) (0,[]) rfl ?_ ⟨Nat.zero_le _,rfl,fun j _ h=>by simp only at h;omega⟩ ?_
 ·exact Z1
 rintro⟨i,names⟩ ⟨p1,p2,p3⟩
 simp only at p1 p2 p3
 have pl:names.length≤d.aH.length:=by rw[p2];simp[lX];omega
 refine W1 ?_
 refine S0 (fun hb h=>?_) fun hb h=>?_
 ·have hi:i<d.aH.length:=by omega
  have hc:=aM.bounds (aS.QC hi hsz)
  refine W3 ?_
  refine S0 (fun hb h=>?_) fun hb h=>?_
  ·rw[bad i hi (by unfold pW;rw[aF (by omega)];rfl)]
  have h1:=h
  refine W3 ?_
  refine C2 (OV d.aH[i].fG d.aA (by omega) hc.2.2 (by omega)) ?_
  refine S0 (fun hb h=>?_) fun hb h=>?_
  ·rw[bad i hi (by unfold pW;rw[h];simp)]
  have h2:=h
  refine W3 ?_
  rw[show List.map encS names++[[D.s d.aH[i].fName]]=List.map encS (names++[d.aH[i].fName]) by simp[encS]]
  exact bP (i+1,names++[d.aH[i].fName]) (by simp only;omega) rfl rfl ⟨by simp only;omega,by simp only;rw[p2,iR (by simpa [lX] using hi)];simp[lX],fun j hj hji=>by
   simp only at hji
   by_cases e:j=i
   ·subst e;unfold pW;rw[h2,bA (by omega)];rfl
   ·exact p3 j hj (by omega)⟩
 have hi:i=d.aH.length:=by omega
 have hn:names=lX d:=by rw[p2,List.take_of_length_le (by simp[lX];omega)]
 have hall:d.aH.all (pW d.aA)=true:=List.all_eq_true.2 fun c hc=>by
  obtain⟨j,hj,e⟩:=List.getElem_of_mem hc
  rw[←e];exact p3 j hj (by omega)
 have hnl:∀s∈names,s.length≤4194304:=fun s hs=>by
  rw[hn] at hs
  obtain⟨c,hc,e⟩:=List.mem_map.1 hs
  obtain⟨j,hj,e'⟩:=List.getElem_of_mem hc
  rw[←e,←e'];exact(aM.bounds (aS.QC hj hsz)).1
 have hlen:names.length=d.aH.length:=by rw[hn];simp[lX]
 refine C2 (iE d.fName (by omega)) ?_
 refine S0 (fun hb h=>?_) fun hb h=>?_
 ·have h1:=h
  refine C2 (mD d.aA 3 (by omega) hb0.2.2.2) ?_
  refine S0 (fun hb h=>?_) fun hb h=>?_
  ·have h2:=h
   refine S0 (fun hb h=>?_) fun hb h=>?_
   ·have h3:=h
    refine C2 (mD names 5 (by omega) hnl) ?_
    refine aB ?_
    rw[Bool.and_eq_true] at h2
    have h4:=gH h2.1
    unfold fO
    rw[h1,h2.2,hall,←hn,bA (show d.aA.length≤3 by omega),bA (show 1≤d.aH.length by omega),hlen]
    simp only[Bool.true_and]
    congr 1
    exact iq ⟨fun h=>by omega,fun h=>by omega⟩
   ·refine aB ?_
    unfold fO
    rw[aF (show ¬1≤d.aH.length by omega)];simp
  ·refine aB ?_
   unfold fO
   have h2:(dec (d.aA.length≤3)&&iL d.aA)=false:=by
    rw[←h];congr 1;exact iq ⟨fun h=>by omega,fun h=>by omega⟩
   rw[←Bool.and_assoc (dec (d.aA.length≤3)),h2];simp
 ·exact aB (by unfold fO;rw[h];rfl)
theorem Cr(d:aS)(hsz:d.sz≤4194304):aI Tryz.prog 99 [d.v] (.c (.d (.b (fO d)))):=fun S=>by
 have hb0:=aS.bounds hsz
 have bad:∀i,∀hi:i<d.aH.length,pW d.aA d.aH[i]=false→fO d=false:=fun i hi h=>by
  have:d.aH.all (pW d.aA)=false:=Bool.eq_false_iff.2 fun hx=>by
   rw[List.all_eq_true.1 hx _ (List.getElem_mem hi)] at h;cases h
  unfold fO
  rw[this];simp
 refine aG (rs:=[.tmp 2]) Tryz.checked.mixed Tryz.func99 Tryz.ntmps99 rfl rfl rfl rfl rfl ?_
 refine W1 ?_
 refine C2 (iD d.fName (by omega)) ?_
 refine S0 (fun hb h=>?_) fun hb h=>?_
 ·exact aB (by unfold fO;rw[h];rfl)
 have h1:=h
 refine S0 (fun hb h=>?_) fun hb h=>?_
 ·exact aB (by unfold fO;rw[aF (show ¬d.aA.length≤3 by omega)];simp)
 have h2:=h
 refine C2 (oW d.aA (by omega) hb0.2.2.2) ?_
 refine S0 (fun hb h=>?_) fun hb h=>?_
 ·exact aB (by unfold fO;rw[h];simp)
 have h3:=h
 refine S0 (fun hb h=>?_) fun hb h=>?_
 ·exact aB (by unfold fO;rw[aF (show ¬1≤d.aH.length by omega)];simp)
 have h4:=h
 refine S0 (fun hb h=>?_) fun hb h=>?_
 ·exact aB (by unfold fO;rw[aF (show ¬d.aH.length≤5 by omega)];simp)
 have h5:=h
 refine W3 ?_
 refine mR 3 1 [] rfl (by simp) ?_
 refine aT (ι:=Nat×List (List UInt8)) Tryz.checked.mixed rfl [1,3,36,37,38] (fun y=>[.c (.ptr (0,0) 0),.c (.bS (0,1) (y.2.map encS)),.c (.d (.sl (d.aH.map aM.enc))),.c (.d (.i .i64 d.aH.length)),.c (.d (.i .i64 y.1))]) (fun y=>[.box (d.enc.map .d),.tok 1 (y.2.map encS)]::S)
  (fun y=>y.1≤d.aH.length∧y.2=(lX d).take y.1∧∀j,∀hj:j<d.aH.length,j<y.1→pW d.aA d.aH[j]=true) (fun y=>d.aH.length-y.1) (0,[]) rfl ?_ ⟨Nat.zero_le _,rfl,fun j _ h=>by simp only at h;omega⟩ ?_
 ·exact Z1
 rintro⟨i,names⟩ ⟨p1,p2,p3⟩
 simp only at p1 p2 p3
 have pl:names.length≤d.aH.length:=by rw[p2];simp[lX];omega
 refine W1 ?_
 refine S0 (fun hb h=>?_) fun hb h=>?_
 ·have hi:i<d.aH.length:=by omega
  have hc:=aM.bounds (aS.QC hi hsz)
  refine W3 ?_
  refine S0 (fun hb h=>?_) fun hb h=>?_
  ·rw[bad i hi (by unfold pW;rw[aF (by omega)];rfl)]
  have k1:=h
  refine W3 ?_
  refine C2 (yN d.aH[i].fG d.aA (by omega) hc.2.2 (by omega)) ?_
  refine S0 (fun hb h=>?_) fun hb h=>?_
  ·rw[bad i hi (by unfold pW;rw[h];simp)]
  have k2:=h
  refine W3 ?_
  rw[show List.map encS names++[[D.s d.aH[i].fName]]=List.map encS (names++[d.aH[i].fName]) by simp[encS]]
  exact dh 2 (by decide) (i+1,names++[d.aH[i].fName]) (by simp only;omega) rfl rfl rfl rfl ⟨by simp only;omega,by simp only;rw[p2,iR (by simpa [lX] using hi)];simp[lX],fun j hj hji=>by
   simp only at hji
   by_cases e:j=i
   ·subst e;unfold pW;rw[k2,bA (by omega)];rfl
   ·exact p3 j hj (by omega)⟩
 have hi:i=d.aH.length:=by omega
 have hn:names=lX d:=by rw[p2,List.take_of_length_le (by simp[lX];omega)]
 have hall:d.aH.all (pW d.aA)=true:=List.all_eq_true.2 fun c hc=>by
  obtain⟨j,hj,e⟩:=List.getElem_of_mem hc
  rw[←e];exact p3 j hj (by omega)
 have hnl:∀s∈names,s.length≤4194304:=fun s hs=>by
  rw[hn] at hs
  obtain⟨c,hc,e⟩:=List.mem_map.1 hs
  obtain⟨j,hj,e'⟩:=List.getElem_of_mem hc
  rw[←e,←e'];exact(aM.bounds (aS.QC hj hsz)).1
 refine C2 (oW names (by omega) hnl) ?_
 exact aB (by unfold fO;rw[h1,h3,hall,←hn,bA (show d.aA.length≤3 by omega),bA (show 1≤d.aH.length by omega),bA (show d.aH.length≤5 by omega)];simp)
end Go.Proofs.YtocpgjlbagncjaaGreatDoor
namespace Go.Ab
def nP:List UInt8:=[100,97,116,97]
def Ap(c:aM):aj:=bY ([bT c.fName]++c.fG.map dw)
def baseD(d:aS):List aj:=[bT nP,bT d.fName,bY (aV d.aA)]
def Ct(d:aS):aj:=bY (baseD d++d.aH.map Ap)
noncomputable def SK(d:aS):aj:=vO (fO d) (Ct d)
theorem af8{d:aS}(h:d.sz≤1048576):(SK d).sz≤1048576:=Nat.le_trans (IJ _ _) (by decide)
def JE:List aM→Nat
 |[]=>0
 |x::xs=>x.sz+JE xs
theorem J8:∀l,bD (l.map aM.enc)=JE l
 |[]=>rfl
 |x::xs=>by rw[List.map_cons,bD,JE,J8 xs];rfl
theorem Dg(x:aM):x.sz=x.fName.length+(x.fG.length+tC x.fG):=by
 rw[←zq];simp only[aM.sz,aM.aD,cu,D.sz,List.length_map];omega
theorem Bv(x:aS):x.sz=x.fName.length+(x.aA.length+(x.aA.map List.length).sum)+(x.aH.length+JE x.aH):=by
 rw[←J8,←dN];simp only[aS.sz,aS.aD,cu,D.sz,List.length_map];omega
theorem ahP(c:aM):(Ap c).sz≤1+16*c.sz:=by
 have:=Lg c.fG
 rw[Ap,ku,kZ,List.length_append,List.length_map,Dg]
 simp[dQ,kr];omega
theorem V9:∀l:List aM,dQ (l.map Ap)≤l.length+16*JE l
 |[]=>by simp[dQ]
 |c::l=>by
  have h1:=ahP c
  have h2:=V9 l
  rw[List.map_cons,dQ,JE,List.length_cons];omega
theorem aaN(d:aS):(Ct d).sz≤7+16*d.sz:=by
 have:=V9 d.aH
 rw[Ct,ku,kZ,List.length_append,List.length_map,Bv]
 simp[baseD,dQ,kr,ku,jH,rR,nP];omega
theorem aaO(n:Nat)(a b:List UInt8)(w:List (List UInt8)):lx [bT a,bT b,bY (aV w)] (n+1)=[[.s a,.ol (n+1) []],[.s b,.ol (n+1+1) []],[.s [],.ol (n+1+1+1) (lx (aV w) (n+1+1+1+1))]]:=by
 simp only[jO,mV,jW,kG,kH,eu,dJ,jU]
theorem xJ{vars:List (List UInt8)}{ts:List au}(h:lV vars ts=true):iZ ts=true:=wV.2 fun t ht=>by
 have:=List.all_eq_true.1 h t ht
 unfold gW at this
 rw[Bool.and_eq_true] at this
 exact vM this.1
theorem Eu{d:aS}(h:fO d=true):∀c∈d.aH,iZ c.fG=true:=fun c hc=>by
 have h1:d.aH.all (pW d.aA)=true:=by
  unfold fO at h
  simp only[Bool.and_eq_true] at h
  simp_all
 have h2:=List.all_eq_true.1 h1 c hc
 unfold pW at h2
 rw[Bool.and_eq_true] at h2
 exact xJ h2.2
theorem OW{l:List au}{t:au}(h:t∈l):t.sz≤tC l:=by
 rw[←zq];exact dA (List.mem_map_of_mem h)
theorem Mc{l:List aM}{t:aM}(h:t∈l):t.sz≤JE l:=by
 rw[←J8];exact dA (List.mem_map_of_mem h)
end Go.Ab
namespace Go.Proofs.YtocpgjlbagncjaaGreatDoor
open Go Go.Ab
theorem Me(d:aS)(n:Nat)(hv:fO d=true)(hsz:d.sz≤1048576):aI Tryz.prog 165 [d.v] (.agg [.d (.s []),.d (.ol n (lx (Ct d).ah (n+1)))]):=fun S=>by
 have hdz:=Bv d
 have hfo:=Eu hv
 have hlen:d.aH.length≤1048576:=by omega
 obtain⟨L,hL⟩:∃L:Nat→Nat,L=fun i=>n+1+jq (baseD d++(d.aH.map Ap).take i):=⟨_,rfl⟩
 obtain⟨T,hT⟩:∃T:Nat→List (List D),T=fun i=>lx (baseD d++(d.aH.map Ap).take i) (n+1):=⟨_,rfl⟩
 have hT0:T 0=[[.s nP,.ol (n+1) []],[.s d.fName,.ol (n+1+1) []],[.s [],.ol (n+1+1+1) (lx (aV d.aA) (n+1+1+1+1))]]:=by
  rw[hT];simp only[List.take_zero,List.append_nil];exact aaO _ _ _ _
 have ig:∀i,(T i).length≤i+3:=fun i=>by
  rw[hT];simp only[iw,List.length_append]
  have:=List.length_take_le i (d.aH.map Ap)
  simp[baseD];omega
 have hTs:∀i (hi:i<d.aH.length),T i++[[.s [],.ol (L i) (lx ([bT d.aH[i].fName]++d.aH[i].fG.map dw) (L i+1))]]=T (i+1):=fun i hi=>by
  have:=zw (base:=baseD d) (l:=d.aH.map Ap) (i:=i) (by rw[List.length_map];exact hi) (n+1)
  rw[List.getElem_map] at this
  rw[hT,hL];exact this
 have hTr:∀i,∀r∈T i,r.length=2:=fun i=>by rw[hT];exact lq
 have hTe:T d.aH.length=lx (Ct d).ah (n+1):=by
  rw[hT];simp only
  rw[List.take_of_length_le (by simp)];rfl
 clear hT hL
 refine ug (n) 1 (rs:=[.cell 2 37]) Tryz.checked.mixed Tryz.func165 Tryz.ntmps165 rfl rfl rfl rfl rfl ?_
 refine W1 ?_
 refine C1 (dI _ (n+1)) ?_
 refine C1 (dI _ (n+1+1)) ?_
 refine C1 (eY d.aA (by omega) (n+1+1+1)) ?_
 refine W3 ?_
 refine l6 n 3 2 (T 0) (.inl ?_) (hTr 0) ?_
 ·rw[hT0];rfl
 refine qO (L 0) ?_
 refine aT (ι:=Nat) Tryz.checked.mixed rfl [2,3,15,16,17] (fun i=>[.c (.ptr (0,3) 0),.c (.bS (0,4) (T i)),.c (.d (.sl (d.aH.map aM.enc))),.c (.d (.i .i64 d.aH.length)),.c (.d (.i .i64 i))])
  (fun i=>[.seed (L i),.seed 1,.box [.d (.s d.fName),.d (.sl (d.aA.map encS)),.d (.sl (d.aH.map aM.enc))],.box [.d (.s []),.bO []],.fF n 2 (T i)]::S)
  (fun i=>i≤d.aH.length) (fun i=>d.aH.length-i) 0 rfl rfl (Nat.zero_le _) ?_
 intro i hi
 have hl:=ig i
 refine W1 ?_
 refine S0 (fun hb h=>?_) fun hb h=>?_
 ·have hi':i<d.aH.length:=by omega
  have hm:=List.getElem_mem hi'
  have hcz:=Mc hm
  have hce:=Dg d.aH[i]
  have hs:=hTs i hi'
  refine W3 ?_
  refine C1 (dI _ (L i+1)) ?_
  refine C1 (zV d.aH[i].fG 0 (L i+1+1) (hfo _ hm) (by omega) (fun t ht=>by have:=OW ht;omega)) ?_
  have hr:=lq (l:=d.aH[i].fG.map dw) (n:=L i+1+1)
  have hl2:(lx (d.aH[i].fG.map dw) (L i+1+1)).length=d.aH[i].fG.length:=by rw[iw,List.length_map]
  refine W3 ?_
  refine C1 (lu _) ?_
  refine W3 ?_
  simp only[List.cons_append,List.nil_append,jO,vV,jU] at hs
  rw[hs]
  refine su (L (i+1)) 4 (by decide) (i+1) (by omega) rfl rfl ?_ rfl (by omega)
  simp[kF,jo,V.refs,C.refs,nC]
 ·have hi':i=d.aH.length:=by omega
  refine bJ rfl (jZ 0 4 _ _) ?_
  refine W1 ?_
  rw[hi',hTe]
theorem Ve(d:aS)(hsz:d.sz≤1048576):aI Tryz.prog 147 [d.v] (SK d).v:=fun S=>by
 have hz:=aaN d
 have hdz:=Bv d
 obtain⟨T,hT⟩:∃T:Nat→List (List D),T=fun i=>(baseD d++(d.aH.map Ap).take i).map aj.enc:=⟨_,rfl⟩
 have hT0:T 0=[[.s nP,.sl []],[.s d.fName,.sl []],[.s [],.sl ((aV d.aA).map aj.enc)]]:=by
  rw[hT];simp only[List.take_zero,List.append_nil,baseD,List.map_cons,List.map_nil,fM,j3]
 have ig:∀i,(T i).length≤i+3:=fun i=>by
  rw[hT];simp only[List.length_map,List.length_append]
  have:=List.length_take_le i (d.aH.map Ap)
  simp[baseD];omega
 have hTs:∀i (hi:i<d.aH.length),T i++[[.s [],.sl (([bT d.aH[i].fName]++d.aH[i].fG.map dw).map aj.enc)]]=T (i+1):=fun i hi=>by
  have:=jI (base:=baseD d) (l:=d.aH.map Ap) (i:=i) (by rw[List.length_map];exact hi)
  rw[List.getElem_map] at this
  rw[hT];exact this
 have hTr:∀i,∀r∈T i,r.length=2:=fun i=>by rw[hT];exact gT
 have hTe:T d.aH.length=(Ct d).ah.map aj.enc:=by
  rw[hT];simp only
  rw[List.take_of_length_le (by simp)];rfl
 clear hT
 refine aG (rs:=[.cell 2 37]) Tryz.checked.mixed Tryz.func147 Tryz.ntmps147 rfl rfl rfl rfl rfl ?_
 refine W1 ?_
 refine C1 (cK _) ?_
 refine C1 (cK _) ?_
 refine C1 (eO d.aA (by omega)) ?_
 have hE:=fun bZ Ω=>kU (T 0) (hTr 0) (by have:=ig 0;omega) bZ Ω
 simp only[hT0] at hE
 refine pJ [false] rfl (hE _ _) ?_
 refine W1 ?_
 refine aT (ι:=Nat) Tryz.checked.mixed rfl [1,2,3,4] (fun i=>[.c (.ptr (0,0) 0),.c (.ptr (0,1) 0),.c (.ptr (0,4) 0),.c (.d (.i .i64 i))])
  (fun i=>[.box [.d (.s d.fName),.d (.sl (d.aA.map encS)),.d (.sl (d.aH.map aM.enc))],.box [.d (.s []),.bO []],.box [.d (.s []),.bS (0,3) (T 0)],.tok 2 (T i),.box [.d (.s []),.bS (0,3) (T i)]]::S)
  (fun i=>i≤d.aH.length) (fun i=>d.aH.length-i) 0 rfl (by simp only[hT0]<;>(try rfl)) (Nat.zero_le _) ?_
 intro i hi
 have hl:=ig i
 refine W1 ?_
 refine S0 (fun hb h=>?_) fun hb h=>?_
 ·have hi':i<d.aH.length:=by omega
  have hm:=List.getElem_mem hi'
  have hcz:=Mc hm
  have hce:=Dg d.aH[i]
  have hs:=hTs i hi'
  refine W3 ?_
  refine C1 (cK _) ?_
  refine W3 ?_
  refine C1 (Bu d.aH[i].fG (by omega) (fun t ht=>by have:=OW ht;omega)) ?_
  have hr:=gT (l:=d.aH[i].fG.map dw)
  have hl2:((d.aH[i].fG.map dw).map aj.enc).length=d.aH[i].fG.length:=by rw[List.length_map,List.length_map]
  refine W3 ?_
  simp only[List.cons_append,List.nil_append,List.map_cons,fM] at hs
  rw[hs]
  exact dh 5 (by decide) (i+1) (by omega) rfl rfl rfl rfl (by omega)
 ·have hi':i=d.aH.length:=by omega
  subst hi'
  rw[hTe]
  refine C1 (Cq d (by omega)) ?_
  refine C1 (rW (fO d) (Ct d) (by omega)) ?_
  rfl
end Go.Proofs.YtocpgjlbagncjaaGreatDoor
namespace Go.Ab
def dM(l:List aj)(i:Nat):List UInt8:=(l.getD i dB).bf
theorem jA{l:List aj}{i:Nat}(h:i<l.length):dM l i=l[i].bf:=by simp[dM,List.getD,h]
theorem Ev{l:List aj}{i:Nat}(h:l.length≤i):dM l i=[]:=by simp[dM,List.getD,h];rfl
def fq(l:List aj):List (List UInt8):=if l.all (fun x=>decide (x.bf≠[]))=true then l.map aj.bf else []
theorem pX:∀{vs:List (List UInt8)},(∀v∈vs,v≠[])→fq (aV vs)=vs:=fun {vs} h=>by
 unfold fq aV
 rw[if_pos (List.all_eq_true.2 fun x hx=> ?_),List.map_map]
 ·conv=>rhs;rw[←List.map_id vs]
  rfl
 ·obtain⟨v,hv,rfl⟩:=List.mem_map.1 hx
  exact decide_eq_true (h v hv)
theorem SL:∀l:List aj,((l.map aj.bf).map List.length).sum≤dQ l
 |[]=>by simp[dQ]
 |x::l=>by
  have:=SL l
  rw[List.map_cons,List.map_cons,List.sum_cons,dQ,kI];omega
theorem qP(l:List aj):(fq l).length≤l.length∧((fq l).map List.length).sum≤dQ l:=by
 unfold fq
 split
 ·refine⟨by simp,?_⟩
  exact SL l
 ·simp
mutual
def dO(b:Bool):aj→au
 | .mk a l=>if a=[] then
    if l.length<2 then .mk 0 [] []
    else if dM l 0=Fh∧(b=true∨l.length=2∧dM l 1≠[]) then .mk 4 (dM l 1) []
    else if dM l 0=iO∧(b=true∨l.length=3∧dM l 1≠[]) then .mk 3 (dM l 1) ((qK b l).drop 2)
    else .mk 2 (dM l 0) ((qK b l).drop 1)
   else if a.head? =some 39 then .mk 1 a.tail [] else .mk 2 a []
def qK(b:Bool):List aj→List au
 |[]=>[]
 |x::xs=>dO b x::qK b xs
end
theorem yc(b:Bool):∀l,qK b l=l.map (dO b)
 |[]=>rfl
 |t::ts=>by rw[qK,List.map_cons,yc b ts]
theorem Wd(b:Bool)(x:aj):dO b x=if x.bf=[] then
 if x.ah.length<2 then .mk 0 [] []
 else if dM x.ah 0=Fh∧(b=true∨x.ah.length=2∧dM x.ah 1≠[]) then .mk 4 (dM x.ah 1) []
 else if dM x.ah 0=iO∧(b=true∨x.ah.length=3∧dM x.ah 1≠[]) then .mk 3 (dM x.ah 1) ((x.ah.map (dO b)).drop 2)
 else .mk 2 (dM x.ah 0) ((x.ah.map (dO b)).drop 1)
 else if x.bf.head? =some 39 then .mk 1 x.bf.tail [] else .mk 2 x.bf []:=by
 cases x;rw[dO,yc];rfl
theorem Mf:∀a b,tC (a++b)=tC a+tC b
 |[],b=>by simp[tC]
 |x::a,b=>by rw[List.cons_append,tC,tC,Mf a b];omega
theorem SN(l:List au)(i:Nat):tC (l.drop i)≤tC l:=by
 have:=Mf (l.take i) (l.drop i)
 rw[List.take_append_drop] at this
 omega
theorem SQ(l:List aj)(i:Nat):dQ (l.drop i)≤dQ l:=by
 have:=kZ (l.take i) (l.drop i)
 rw[List.take_append_drop] at this
 omega
theorem aaP(l:List aj)(i:Nat):(dM l i).length≤dQ l:=by
 by_cases h:i<l.length
 ·rw[jA h]
  have h1:=iK (List.getElem_mem h)
  rw[kI] at h1;omega
 ·rw[Ev (by omega)];simp
mutual
theorem yg(b:Bool):∀x:aj,(dO b x).sz≤x.sz
 | .mk a l=>by
   have h1:=FH b l
   have h2:=SN (qK b l) 2
   have h3:=SN (qK b l) 1
   have h4:=aaP l 0
   have h5:=aaP l 1
   have h6:(qK b l).length=l.length:=by rw[yc,List.length_map]
   rw[kI,mI];simp only[aj.bf,aj.ah]
   rw[dO]
   split
   ·split
    ·rw[vN];simp[au.fName,au.fArgs,tC]
    ·split
     ·rw[vN];simp[au.fName,au.fArgs,tC];omega
     ·have g0:=Dh b l 0
      have g1:=Dh b l 1
      simp only[Nat.zero_add,Nat.reduceAdd] at g0 g1
      split
      ·rw[vN];simp only[au.fName,au.fArgs,List.length_drop,h6];omega
      ·rw[vN];simp only[au.fName,au.fArgs,List.length_drop,h6];omega
   ·split
    ·rw[vN];simp[au.fName,au.fArgs,tC];omega
    ·rw[vN];simp[au.fName,au.fArgs,tC]
theorem FH(b:Bool):∀l:List aj,tC (qK b l)≤dQ l
 |[]=>by simp[qK,tC]
 |x::xs=>by
  have h1:=yg b x
  have h2:=FH b xs
  rw[qK,tC,dQ];omega
theorem Dh(b:Bool):∀(l:List aj) (i:Nat),tC ((qK b l).drop (i+1))+(dM l i).length≤dQ l
 |[],i=>by simp[qK,tC,Ev]
 |x::xs,0=>by
  have h2:=FH b xs
  rw[qK,List.drop_succ_cons,List.drop_zero,dQ,show dM (x::xs) 0=x.bf from rfl,kI];omega
 |x::xs,i+1=>by
  have h2:=Dh b xs i
  rw[qK,List.drop_succ_cons,dQ,show dM (x::xs) (i+1)=dM xs i from rfl];omega
end
theorem Ew{s:List UInt8}(h:validName s=true):s≠[]:=fun e=>by rw[e] at h;have:=gH h;simp at this
theorem aaQ{s:List UInt8}(h:validName s=true):s.head? ≠some 39:=fun e=>by
 have h1:=gH h
 have h2:=h1.2.2 0 (by omega)
 cases s with
 |nil=>cases e
 |cons c s=>
  simp only[List.head?_cons,Option.some.injEq] at e
  subst e
  simp[lowerB,rQ] at h2
theorem adP{s:List UInt8}(h:validName s=true):s≠Fh∧s≠iO:=by
 have h1:=(gH h).2.1
 refine⟨fun e=>h1 (by rw[e];simp[reserved,Fh]),fun e=>h1 (by rw[e];simp[reserved,iO])⟩
mutual
theorem wF(b:Bool):∀t:au,formed t=true→dO b (dw t)=t
 | .mk k n zs=>fun hf=>by
   rw[formed,Bool.and_eq_true] at hf
   have hfi:=gH hf.1
   have hzs:=J9 b zs hf.2
   rw[dw]
   by_cases h1:k=1
   ·have hz:zs=[]:=by
     have:zs.length=0:=by omega
     exact List.eq_nil_of_length_eq_zero this
    rw[if_pos h1,bT,dO,if_neg (by simp),if_pos (by simp),hz,h1];rfl
   rw[if_neg h1]
   by_cases h4:k=4
   ·have hz:zs=[]:=by
     have:zs.length=0:=by omega
     exact List.eq_nil_of_length_eq_zero this
    have hn:validName n=true:=by
     rcases hfi with h|h|h
     ·exact h.2.1
     ·exact h.2.1
     ·omega
    rw[if_pos h4,bY,dO,if_pos rfl,if_neg (by simp),if_pos ⟨rfl,.inr ⟨rfl,Ew hn⟩⟩,hz,h4];rfl
   rw[if_neg h4]
   by_cases h2:k=2∧zs.length=0
   ·have hz:zs=[]:=List.eq_nil_of_length_eq_zero h2.2
    have hn:n≠[]∧n.head? ≠some 39:=by
     rcases hfi with h|h|h
     ·omega
     ·omega
     ·rcases h.2 with g|g
      ·exact⟨Ew g.1,aaQ g.1⟩
      ·rcases gH g.1 with e|e<;>rw[e]<;>simp
    rw[if_pos h2,bT,dO,if_neg hn.1,if_neg hn.2,hz,h2.1]
   rw[if_neg h2]
   by_cases h3:k=3
   ·have hz:zs.length=1∧validName n=true:=by
     rcases hfi with h|h|h
     ·omega
     ·exact⟨h.2.2,h.2.1⟩
     ·omega
    rw[if_pos h3,bY,dO,if_pos rfl,if_neg (by simp),if_neg (fun h=>by have:=h.1;simp[dM,bT,aj.bf,Fh,iO] at this),if_pos ⟨rfl,.inr ⟨by rw[vL];simp[hz.1],Ew hz.2⟩⟩]
    show au.mk 3 n (qK b (Ci zs))=_
    rw[hzs,h3]
   ·have hn:validName n=true∧zs≠[]:=by
     rcases hfi with h|h|h
     ·omega
     ·omega
     ·rcases h.2 with g|g
      ·exact⟨g.1,fun e=>h2 ⟨h.1,by rw[e];rfl⟩⟩
      ·exact(h2 ⟨h.1,g.2⟩).elim
    have hk:k=2:=by
     rcases hfi with h|h|h
     ·omega
     ·omega
     ·exact h.1
    have hd:=adP hn.1
    rw[if_neg h3,bY,dO,if_pos rfl,if_neg (by rw[vL];cases zs with|nil=>exact(hn.2 rfl).elim|cons z zs=>simp),if_neg (fun h=>hd.1 h.1),if_neg (fun h=>hd.2 h.1)]
    show au.mk 2 n (qK b (Ci zs))=_
    rw[hzs,hk]
theorem J9(b:Bool):∀ts:List au,iZ ts=true→qK b (Ci ts)=ts
 |[],_=>rfl
 |t::ts,h=>by
  rw[iZ,Bool.and_eq_true] at h
  rw[Ci,qK,wF b t h.1,J9 b ts h.2]
end
theorem DU(b:Bool){ts:List au}(h:iZ ts=true):(ts.map dw).map (dO b)=ts:=by
 have:=J9 b ts h
 rw[yc,vL] at this
 exact this
def vW(b:Bool)(y:aj):aM:=⟨dM y.ah 0,(y.ah.drop 1).map (dO b)⟩
def j4(b:Bool)(x:aj):aS:=⟨dM x.ah 1,fq (x.ah.getD 2 dB).ah,(x.ah.drop 3).map (vW b)⟩
theorem zx{vs:List (List UInt8)}(h:iL vs=true):∀v∈vs,v≠[]:=fun v hv=>by
 unfold iL at h
 rw[Bool.and_eq_true] at h
 exact Ew (List.all_eq_true.1 h.2 v hv)
theorem af9(b:Bool){c:aM}(h:iZ c.fG=true):vW b (Ap c)=c:=by
 show aM.mk c.fName ((c.fG.map dw).map (dO b))=c
 rw[DU b h]
theorem NH{d:aS}(h:fO d=true):∀v∈d.aA,v≠[]:=by
 unfold fO at h
 simp only[Bool.and_eq_true] at h
 exact zx (by simp_all)
theorem NI(b:Bool){d:aS}(h:fO d=true):j4 b (Ct d)=d:=by
 show aS.mk d.fName (fq (aV d.aA)) ((d.aH.map Ap).map (vW b))=d
 rw[pX (NH h),List.map_map,show d.aH.map (vW b∘Ap)=d.aH.map id from List.map_congr_left (fun c hc=>af9 b (Eu h c hc)),List.map_id]
theorem adQ(d:aS):3≤(Ct d).ah.length∧dM (Ct d).ah 0=nP:=⟨by rw[Ct,dJ];simp[baseD],rfl⟩
noncomputable def okD(x:aj):Bool:=dec (iI x=true∧3≤x.ah.length∧dM x.ah 0=nP∧fO (j4 true x)=true∧Ct (j4 true x)=x)
noncomputable def qQ(x:aj):aS:=if okD x=true then j4 true x else⟨[],[],[]⟩
theorem Ka:dB.sz=0:=by rw[kI];simp[dB,aj.bf,aj.ah,bD]
theorem SS{b:Bool}{s x:aj}(h:vO b s=x)(hx:x.ah≠[]):b=true∧s=x∧iI x=true:=by
 cases b with
 |false=>rw[←h] at hx;exact(hx rfl).elim
 |true=>
  rw[vO] at h
  unfold Ck at h
  split at h
  ·rename_i hv;exact⟨rfl,h,by rw[←h];exact hv⟩
  ·rw[←h] at hx;exact(hx rfl).elim
theorem adR{x:aj}(hx:x.ah≠[]):okD x=(iI x&&dec (SK (j4 false x)=x)):=by
 cases hv:iI x with
 |false=>exact aF fun h=>by rw[hv] at h;cases h.1
 |true=>
  rw[Bool.true_and]
  refine iq ⟨fun⟨_,h1,h2,h3,h4⟩=> ?_,fun h=> ?_⟩
  ·have e:j4 false x=j4 true x:=by conv=>lhs;rw[←h4]
                                   exact NI false h3
   rw[e,SK,h3,h4,vO,Ck,if_pos hv]
  ·obtain⟨h1,h2,_⟩:=SS h hx
   have e:j4 true x=j4 false x:=by conv=>lhs;rw[←h2]
                                   exact NI true h1
   have:=adQ (j4 false x)
   rw[h2] at this
   rw[e]
   exact⟨hv,this.1,this.2,h1,h2⟩
theorem adS{x:aj}(h:okD x=true):j4 false x=j4 true x:=by
 have h1:=gH h
 conv=>lhs;rw[←h1.2.2.2.2]
 exact NI false h1.2.2.2.1
theorem aga(b:Bool)(y:aj):(vW b y).sz≤y.sz:=by
 have h:=Dh b y.ah 0
 rw[yc] at h
 rw[Dg,kI,mI]
 simp only[vW,List.length_map,List.length_drop,←List.map_drop,Nat.zero_add] at h ⊢
 omega
theorem SV(b:Bool):∀l:List aj,JE (l.map (vW b))≤dQ l
 |[]=>by simp[JE]
 |y::l=>by
  have h1:=aga b y
  have h2:=SV b l
  rw[List.map_cons,JE,dQ];omega
theorem Yw(l:List aj):(dM l 1).length+((l.getD 2 dB).ah.length+dQ (l.getD 2 dB).ah)+dQ (l.drop 3)≤dQ l:=by
 match l with
 |[]=>simp[dM,dQ,dB,aj.bf,aj.ah]
 |[x]=>simp[dM,dQ,dB,aj.bf,aj.ah]
 |[x,y]=>
  simp only[dQ,kI y]
  simp[dM,dQ,dB,aj.bf,aj.ah];omega
 |x::y::z::l=>
  simp only[dQ,kI y,kI z,mI]
  simp[dM];omega
theorem NJ(b:Bool)(x:aj):(j4 b x).sz≤x.sz:=by
 have h1:=SV b (x.ah.drop 3)
 have h2:=qP (x.ah.getD 2 dB).ah
 have h3:=Yw x.ah
 rw[Bv,kI,mI]
 simp only[j4,List.length_map,List.length_drop]
 omega
end Go.Ab
namespace Go.Ab
def zW:List UInt8:=[116,114,117,101]
def yO:List UInt8:=[102,97,108,115,101]
def oZ:List UInt8:=[99,97,108,108]
def jl:List UInt8:=[109,101,116,104,111,100]
def sD:List UInt8:=[110,101,119]
def kM:List UInt8:=[99,97,115,101]
def sF:List UInt8:=[108,101,116]
def wX:List UInt8:=[105,102]
def o9:List UInt8:=[112,97,99,107]
def sZ:List UInt8:=[116,104,101]
def ji(k:Int)(tr nm:List UInt8)(ty:au):List aj:=
 if k=4 then aV [oZ,nm] else if k=5 then aV [jl,tr,nm] else if k=6 then aV [sD,nm] else if k=8 then aV [sF,nm] else
 if k=9 then aV [wX] else if k=10 then aV [nm] else if k=11 then aV [o9,tr] else if k=12 then [bT sZ,dw ty] else aV [kM]
mutual
def fB:ay→aj
 | .mk k tr nm n ty zs ms=>if k=1 then bT (Lib.itoa n) else if k=2 then bT (if n=1 then zW else yO) else if k=3 then bT nm else
   bY (ji k tr nm ty++AR zs++(if k=4∨k=5∨k=6∨k=8∨k=9∨k=10∨k=11∨k=12 then [] else FI ms))
def AR:List ay→List aj
 |[]=>[]
 |t::ts=>fB t::AR ts
def yY:aR→aj
 | .mk c vs b=>bY ([bT c]++aV vs++[fB b])
def FI:List aR→List aj
 |[]=>[]
 |t::ts=>yY t::FI ts
end
theorem Cu:∀l,AR l=l.map fB
 |[]=>rfl
 |t::ts=>by rw[AR,List.map_cons,Cu ts]
theorem FJ:∀l,FI l=l.map yY
 |[]=>rfl
 |t::ts=>by rw[FI,List.map_cons,FJ ts]
theorem Ht(x:ay):fB x=if x.aK=1 then bT (Lib.itoa x.fN) else if x.aK=2 then bT (if x.fN=1 then zW else yO) else if x.aK=3 then bT x.fName else
 bY (ji x.aK x.bL x.fName x.fType++x.fArgs.map fB++(if x.aK=4∨x.aK=5∨x.aK=6∨x.aK=8∨x.aK=9∨x.aK=10∨x.aK=11∨x.aK=12 then [] else x.aP.map yY)):=by
 cases x;rw[fB,Cu,FJ];rfl
theorem aaR(x:aR):yY x=bY ([bT x.dL]++aV x.aA++[fB x.fBody]):=by cases x;rw[yY];rfl
def uG:List ay→Nat
 |[]=>0
 |x::xs=>x.sz+uG xs
theorem Kc:∀l,bD (l.map ay.enc)=uG l
 |[]=>rfl
 |x::xs=>by rw[List.map_cons,bD,uG,Kc xs];rfl
def A9:List aR→Nat
 |[]=>0
 |x::xs=>x.sz+A9 xs
theorem Ke:∀l,bD (l.map aR.enc)=A9 l
 |[]=>rfl
 |x::xs=>by rw[List.map_cons,bD,A9,Ke xs];rfl
theorem xK(x:ay):x.sz=x.bL.length+x.fName.length+x.fType.sz+(x.fArgs.length+uG x.fArgs)+(x.aP.length+A9 x.aP):=by
 rw[←Kc,←Ke];simp only[ay.sz,ay.aD,cu,bN,D.sz,List.length_map,au.dZ];omega
theorem Aq(x:aR):x.sz=x.dL.length+(x.aA.length+(x.aA.map List.length).sum)+x.fBody.sz:=by
 rw[←dN];simp only[aR.sz,aR.aD,cu,bN,D.sz,List.length_map,ay.dZ];omega
theorem Ey:∀(k n:Nat),n<10^ (k+1)→(Lib.decDigits n).length≤k+1
 |0,n,h=>by rw[Lib.decDigits,dif_pos (by simpa using h)];simp
 |k+1,n,h=>by
  rw[Lib.decDigits]
  split
  ·simp
  ·rw[List.length_append]
   have:=Ey k (n/10) (by rw[Nat.pow_succ] at h;omega)
   simp;omega
theorem adT{n:Int}(h: -999999≤n∧n≤999999):(Lib.itoa n).length≤7:=by
 unfold Lib.itoa
 split
 ·have:=Ey 5 n.natAbs (by omega)
  simp;omega
 ·have:=Ey 5 n.toNat (by omega)
  omega
theorem aaS(k:Int)(tr nm:List UInt8)(ty:au):(ji k tr nm ty).length≤3∧dQ (ji k tr nm ty)≤18+tr.length+nm.length+16*ty.sz:=by
 have h:=Aj ty
 unfold ji
 repeat' (first|(split;·refine⟨by simp[aV],?_⟩;simp[dQ,aV,kr,oZ,jl,sD,sF,wX,o9,sZ,kM];omega))
 refine⟨by simp[aV],?_⟩;simp[dQ,aV,kr,kM];omega
mutual
theorem Hu:∀x:ay,iT x=true→(fB x).sz≤24+32*x.sz
 | .mk k tr nm n ty zs ms=>fun hok=>by
   rw[iT,Bool.and_eq_true,Bool.and_eq_true] at hok
   have hf:=gH hok.1
   have h1:=Wh zs hok.2.1
   have h2:=Wi ms hok.2.2
   have h3:=aaS k tr nm ty
   rw[xK]
   simp only[ay.fName,ay.fArgs,ay.bL,ay.fType,ay.aP]
   rw[fB]
   split
   ·rename_i hk
    have h4:=hf.2.2.2.1
    simp only[ay.aK,ay.fN,hk,if_true] at h4
    have:=adT h4
    rw[kr];omega
   ·split
    ·rw[kr];split<;>simp[zW,yO]<;>omega
    ·split
     ·rw[kr];omega
     ·rw[ku,kZ,kZ,List.length_append,List.length_append,Cu,List.length_map,←Cu]
      split
      ·simp[dQ];omega
      ·rw[FJ,List.length_map,←FJ];omega
theorem Wh:∀xs:List ay,l7 xs=true→dQ (AR xs)≤24*xs.length+32*uG xs
 |[],_=>by simp[AR,dQ]
 |x::xs,h=>by
  rw[l7,Bool.and_eq_true] at h
  have h1:=Hu x h.1
  have h2:=Wh xs h.2
  rw[AR,dQ,uG,List.length_cons];omega
theorem ahQ:∀x:aR,wE x=true→(yY x).sz≤26+32*x.sz
 | .mk c vs b=>fun hok=>by
   rw[wE,Bool.and_eq_true,Bool.and_eq_true] at hok
   have h1:=Hu b hok.2.2
   rw[Aq]
   simp only[aR.dL,aR.aA,aR.fBody]
   rw[yY,ku,kZ,kZ,List.length_append,List.length_append,jH,rR]
   simp[dQ,kr];omega
theorem Wi:∀xs:List aR,pU xs=true→dQ (FI xs)≤26*xs.length+32*A9 xs
 |[],_=>by simp[FI,dQ]
 |x::xs,h=>by
  rw[pU,Bool.and_eq_true] at h
  have h1:=ahQ x h.1
  have h2:=Wi xs h.2
  rw[FI,dQ,A9,List.length_cons];omega
end
end Go.Ab
namespace Go.Ab
theorem JF(d:Nat)(h:d<10):Lib.digitVal (UInt8.ofNat (48+d))=some d:=by
 have:(UInt8.ofNat (48+d)).toNat=48+d:=by rw[UInt8.toNat_ofNat'];omega
 unfold Lib.digitVal
 rw[this,if_pos (by omega)]
 congr 1;omega
theorem Cv:∀(l:List UInt8) (acc:Nat) (b:UInt8),Lib.decFrom acc (l++[b])=(Lib.decFrom acc l).bind fun m=>(Lib.digitVal b).map fun d=>m*10+d
 |[],acc,b=>by
  rw[List.nil_append,Lib.decFrom,Lib.decFrom]
  cases Lib.digitVal b<;>rfl
 |a::l,acc,b=>by
  rw[List.cons_append,Lib.decFrom,Lib.decFrom]
  cases Lib.digitVal a with
  |none=>rfl
  |some e=>exact Cv l _ b
theorem zy(n:Nat):Lib.decFrom 0 (Lib.decDigits n)=some n:=by
 induction n using Nat.strongRecOn with
 |_ n ih=>
  rw[Lib.decDigits]
  split
  ·rename_i h
   rw[Lib.decFrom,JF n h]
   simp[Lib.decFrom]
  ·rename_i h
   rw[Cv,ih (n/10) (by omega),JF _ (Nat.mod_lt _ (by decide))]
   simp only[Option.bind_some,Option.map_some,Option.some.injEq]
   omega
theorem zA(n:Nat):∃b r,Lib.decDigits n=b::r∧48≤b.toNat∧b.toNat≤57:=by
 induction n using Nat.strongRecOn with
 |_ n ih=>
  rw[Lib.decDigits]
  split
  ·rename_i h
   exact⟨_,_,rfl,by rw[UInt8.toNat_ofNat'];omega,by rw[UInt8.toNat_ofNat'];omega⟩
  ·rename_i h
   obtain⟨b,r,e,h1,h2⟩:=ih (n/10) (by omega)
   rw[e]
   exact⟨b,r++_,rfl,h1,h2⟩
theorem Gc(n:Nat):Lib.decNat (Lib.decDigits n)=some n:=by
 obtain⟨b,r,e,_⟩:=zA n
 unfold Lib.decNat
 rw[show(Lib.decDigits n).isEmpty=false from by rw[e];rfl]
 exact zy n
theorem Hw(b:UInt8)(r:List UInt8):Lib.atoi (b::r)=if b==45 then(Lib.decNat r).map fun(m:Nat)=> -(m:Int) else if b==43 then(Lib.decNat r).map fun(m:Nat)=>(m:Int) else(Lib.decNat (b::r)).map fun(m:Nat)=>(m:Int):=rfl
theorem OX(n:Int):Lib.atoi (Lib.itoa n)=some n:=by
 unfold Lib.itoa
 split
 ·rename_i h
  show Lib.atoi (45::Lib.decDigits n.natAbs)=_
  rw[Hw,if_pos (by decide),Gc]
  simp only[Option.map_some,Option.some.injEq]
  omega
 ·rename_i h
  obtain⟨b,r,e,h1,h2⟩:=zA n.toNat
  have hd:=Gc n.toNat
  rw[e] at hd ⊢
  rw[Hw,if_neg (by simp only[beq_iff_eq];intro h;rw[h] at h1;revert h1;decide),if_neg (by simp only[beq_iff_eq];intro h;rw[h] at h1;revert h1;decide),hd]
  simp only[Option.map_some,Option.some.injEq]
  omega
theorem agb(n:Int):Lib.itoa n≠[]:=fun e=>by
 have:=OX n
 rw[e] at this
 cases this
def gZ(s:List UInt8):Option Int:=match Lib.atoi s with
 |some n=>if(-999999999999≤n∧n≤999999999999)∧Lib.itoa n=s then some n else none
 |none=>none
theorem Mg{n:Int}(h: -999999999999≤n∧n≤999999999999):gZ (Lib.itoa n)=some n:=by
 unfold gZ
 rw[OX]
 exact if_pos ⟨h,rfl⟩
theorem Mh{s:List UInt8}{n:Int}(h:gZ s=some n):(-999999999999≤n∧n≤999999999999)∧Lib.itoa n=s:=by
 unfold gZ at h
 split at h
 ·split at h
  ·cases h;assumption
  ·cases h
 ·cases h
theorem Cw{b:UInt8}{r:List UInt8}(h:lowerB b):gZ (b::r)=none:=by
 have h1:(b==45)=false:=by simp only[beq_eq_false_iff_ne];intro e;rw[e] at h;revert h;simp[lowerB]
 have h2:(b==43)=false:=by simp only[beq_eq_false_iff_ne];intro e;rw[e] at h;revert h;simp[lowerB]
 have h3:Lib.digitVal b=none:=if_neg (fun x=>by unfold lowerB at h;omega)
 unfold gZ
 rw[Hw,h1,h2]
 simp[Lib.decNat,Lib.decFrom,h3]
theorem Yx{s:List UInt8}(h:validName s=true):gZ s=none:=by
 have h1:=gH h
 have h2:=h1.2.2 0 (by omega)
 cases s with
 |nil=>simp at h1
 |cons b r=>
  rcases h2 with h2|h2
  ·exact Cw h2
  ·exact(h2.1 rfl).elim
def iV:au:=.mk 0 [] []
def lG:ay:=.mk 0 [] [] 0 iV [] []
mutual
def eZ(b:Bool):aj→ay
 | .mk a l=>if a=[] then
    if b=true∧(l.length<2∨dM l 0=jl∧l.length<3) then lG
    else if dM l 0=oZ then .mk 4 [] (dM l 1) 0 iV ((gB b l).drop 2) []
    else if dM l 0=sD then .mk 6 [] (dM l 1) 0 iV ((gB b l).drop 2) []
    else if dM l 0=sF then .mk 8 [] (dM l 1) 0 iV ((gB b l).drop 2) []
    else if dM l 0=o9 then .mk 11 (dM l 1) [] 0 iV ((gB b l).drop 2) []
    else if dM l 0=jl then .mk 5 (dM l 1) (dM l 2) 0 iV ((gB b l).drop 3) []
    else if dM l 0=wX then .mk 9 [] [] 0 iV ((gB b l).drop 1) []
    else if dM l 0=sZ then .mk 12 [] [] 0 (dO b (l.getD 1 dB)) ((gB b l).drop 2) []
    else if dM l 0=kM then .mk 7 [] [] 0 iV (((gB b l).drop 1).take 1) ((nQ b l).drop 2)
    else .mk 10 [] (dM l 0) 0 iV ((gB b l).drop 1) []
   else match gZ a with
    |some n=>.mk 1 [] [] n iV [] []
    |none=>if a=zW then .mk 2 [] [] 1 iV [] [] else if a=yO then .mk 2 [] [] 0 iV [] [] else .mk 3 [] a 0 iV [] []
def gB(b:Bool):List aj→List ay
 |[]=>[]
 |x::xs=>eZ b x::gB b xs
def ru(b:Bool):aj→aR
 | .mk a l=>if l.length<2 then .mk [] [] lG else .mk (dM l 0) (fq ((l.drop 1).dropLast)) ((gB b l).getLastD lG)
def nQ(b:Bool):List aj→List aR
 |[]=>[]
 |x::xs=>ru b x::nQ b xs
end
theorem Ar(b:Bool):∀l,gB b l=l.map (eZ b)
 |[]=>rfl
 |t::ts=>by rw[gB,List.map_cons,Ar b ts]
theorem Di(b:Bool):∀l,nQ b l=l.map (ru b)
 |[]=>rfl
 |t::ts=>by rw[nQ,List.map_cons,Di b ts]
theorem mE(b:Bool)(l m:List aj):gB b (l++m)=gB b l++gB b m:=by simp only[Ar,List.map_append]
theorem rz(b:Bool)(l m:List aj):nQ b (l++m)=nQ b l++nQ b m:=by simp only[Di,List.map_append]
theorem rH{t:au}(h:xu t):t=iV:=au.ext h.1 h.2.1 (List.eq_nil_of_length_eq_zero h.2.2)
theorem Vf{s:List UInt8}(h:s∈ops):s≠[]∧∀w∈[oZ,sD,sF,o9,jl,wX,sZ,kM],s≠w:=by
 have:=aaG h
 refine⟨fun e=>by rw[e] at this;simp at this,fun w hw e=> ?_⟩
 rw[e] at this
 simp only[List.mem_cons,List.not_mem_nil,or_false] at hw
 rcases hw with g|g|g|g|g|g|g|g<;>rw[g] at this<;>revert this<;>decide
set_option maxHeartbeats 2000000 in
mutual
theorem Ez(b:Bool):∀e:ay,iT e=true→eZ b (fB e)=e
 | .mk k tr nm n ty zs ms=>fun hok=>by
   rw[iT,Bool.and_eq_true,Bool.and_eq_true] at hok
   have hf:=gH hok.1
   have h1:=SX b zs hok.2.1
   have h2:=SY b ms hok.2.2
   obtain⟨p0,p1,p2,p3,p4,p5,p6⟩:=hf
   simp only[ay.aK,ay.bL,ay.fName,ay.fN,ay.fType,ay.fArgs,ay.aP] at p0 p1 p2 p3 p4 p5 p6
   have nz:∀{l:List ay},l.length=0→l=[]:=fun h=>List.eq_nil_of_length_eq_zero h
   have Hy:k≠7→ms=[]:=fun h=>List.eq_nil_of_length_eq_zero (by
    have:¬0<ms.length:=fun x=>h (p6.2 x)
    omega)
   have hk:k=1∨k=2∨k=3∨k=4∨k=5∨k=6∨k=7∨k=8∨k=9∨k=10∨k=11∨k=12:=by omega
   rcases hk with rfl|rfl|rfl|rfl|rfl|rfl|rfl|rfl|rfl|rfl|rfl|rfl
   all_goals simp only[if_true,if_false,true_or,or_true,false_or,or_false,or_self,(by decide:(1:Int)=5↔False),Int.reduceEq] at p1 p2 p3 p4 p5
   ·have e1:=rH p4;have e2:=nz p5;have e3:=Hy (by decide)
    subst e1 e2 e3 p1 p2
    rw[fB,if_pos rfl,bT,eZ,if_neg (agb n),Mg (by omega)]
   ·have e1:=rH p4;have e2:=nz p5;have e3:=Hy (by decide)
    subst e1 e2 e3 p1 p2
    rw[fB,if_neg (by decide),if_pos rfl,bT,eZ]
    rcases p3 with rfl|rfl
    ·rw[if_neg (by decide:¬(0:Int)=1),if_neg (by decide),show gZ yO=none from Cw (by simp[lowerB]),if_neg (by decide),if_pos rfl]
    ·rw[if_pos rfl,if_neg (by decide),show gZ zW=none from Cw (by simp[lowerB]),if_pos rfl]
   ·have e1:=rH p4;have e2:=nz p5;have e3:=Hy (by decide)
    subst e1 e2 e3 p1 p3
    have hr:=(gH p2).2.1
    rw[fB,if_neg (by decide),if_neg (by decide),if_pos rfl,bT,eZ,if_neg (Ew p2),Yx p2,if_neg (fun e=>hr (by rw[e];simp[reserved,zW])),if_neg (fun e=>hr (by rw[e];simp[reserved,yO]))]
   all_goals have hz:(AR zs).length=zs.length:=by rw[Cu,List.length_map]
   ·have e1:=rH p4;have e3:=Hy (by decide)
    subst e1 e3 p1 p3
    simp[fB,ji,bY,aV,eZ,gB,mE,nQ,rz,dM,bT,aj.bf,oZ,jl,sD,kM,sF,wX,o9,sZ,h1,hz,h2]
    all_goals (intros;omega)
   ·have e1:=rH p4;have e3:=Hy (by decide)
    subst e1 e3 p3
    simp[fB,ji,bY,aV,eZ,gB,mE,nQ,rz,dM,bT,aj.bf,oZ,jl,sD,kM,sF,wX,o9,sZ,h1,hz,h2]
    all_goals (intros;omega)
   ·have e1:=rH p4;have e3:=Hy (by decide)
    subst e1 e3 p1 p3
    simp[fB,ji,bY,aV,eZ,gB,mE,nQ,rz,dM,bT,aj.bf,oZ,jl,sD,kM,sF,wX,o9,sZ,h1,hz,h2]
    all_goals (intros;omega)
   ·have e1:=rH p4
    subst e1 p1 p2 p3
    have hm:0<ms.length:=p6.1 rfl
    obtain⟨z,rfl⟩:∃z,zs=[z]:=by
     cases zs with
     |nil=>simp at p5
     |cons z t=>cases t with
      |nil=>exact⟨z,rfl⟩
      |cons _ _=>simp at p5
    simp only[AR,gB,List.cons.injEq,and_true] at h1
    simp[fB,ji,bY,aV,eZ,gB,mE,nQ,rz,AR,dM,bT,aj.bf,oZ,jl,sD,kM,sF,wX,o9,sZ,h1,h2]
    all_goals (intros;omega)
   ·have e1:=rH p4;have e3:=Hy (by decide)
    subst e1 e3 p1 p3
    simp[fB,ji,bY,aV,eZ,gB,mE,nQ,rz,dM,bT,aj.bf,oZ,jl,sD,kM,sF,wX,o9,sZ,h1,hz,h2]
    all_goals (intros;omega)
   ·have e1:=rH p4;have e3:=Hy (by decide)
    subst e1 e3 p1 p2 p3
    simp[fB,ji,bY,aV,eZ,gB,mE,nQ,rz,dM,bT,aj.bf,oZ,jl,sD,kM,sF,wX,o9,sZ,h1,hz,h2]
    all_goals (intros;omega)
   ·have e1:=rH p4;have e3:=Hy (by decide)
    subst e1 e3 p1 p3
    have ho:=Vf p2
    simp only[List.mem_cons,List.not_mem_nil,or_false,ne_eq,forall_eq_or_imp,forall_eq] at ho
    obtain⟨_,o1,o2,o3,o4,o5,o6,o7,o8⟩:=ho
    simp[fB,ji,bY,aV,eZ,gB,mE,dM,bT,aj.bf,h1,hz,o1,o2,o3,o4,o5,o6,o7,o8]
    all_goals (intros;omega)
   ·have e1:=rH p4;have e3:=Hy (by decide)
    subst e1 e3 p2 p3
    simp[fB,ji,bY,aV,eZ,gB,mE,nQ,rz,dM,bT,aj.bf,oZ,jl,sD,kM,sF,wX,o9,sZ,h1,hz,h2]
    all_goals (intros;omega)
   ·have e3:=Hy (by decide)
    subst e3 p1 p2 p3
    have ht:=wF b ty (vM p4)
    simp[fB,ji,bY,aV,eZ,gB,mE,dM,bT,aj.bf,oZ,jl,sD,kM,sF,wX,o9,sZ,h1,hz,ht]
    all_goals (intros;omega)
theorem SX(b:Bool):∀es:List ay,l7 es=true→gB b (AR es)=es
 |[],_=>rfl
 |t::ts,h=>by
  rw[l7,Bool.and_eq_true] at h
  rw[AR,gB,Ez b t h.1,SX b ts h.2]
theorem agc(b:Bool):∀m:aR,wE m=true→ru b (yY m)=m
 | .mk c vs e=>fun h=>by
   rw[wE,Bool.and_eq_true,Bool.and_eq_true] at h
   have he:=Ez b e h.2.2
   rw[yY,bY,ru,if_neg (by simp),mE]
   have e1:dM ([bT c]++aV vs++[fB e]) 0=c:=rfl
   have e2:(([bT c]++aV vs++[fB e]).drop 1).dropLast=aV vs:=by
    rw[List.append_assoc,List.singleton_append,List.drop_succ_cons,List.drop_zero,List.dropLast_concat]
   rw[e1,e2,pX (zx h.2.1)]
   congr 1
   rw[gB,he,List.getLastD_eq_getLast?,List.getLast?_append]
   simp[gB]
theorem SY(b:Bool):∀ms:List aR,pU ms=true→nQ b (FI ms)=ms
 |[],_=>rfl
 |t::ts,h=>by
  rw[pU,Bool.and_eq_true] at h
  rw[FI,nQ,agc b t h.1,SY b ts h.2]
end
theorem Au:iV.sz=0:=by rw[vN];rfl
theorem yh:lG.sz=0:=by rw[xK];simp[lG,ay.bL,ay.fName,ay.fType,ay.fArgs,ay.aP,Au,uG,A9]
theorem Yy(l:List aj):((fq ((l.drop 1).dropLast)).length+((fq ((l.drop 1).dropLast)).map List.length).sum)≤(l.drop 1).dropLast.length+dQ ((l.drop 1).dropLast):=by
 have:=qP ((l.drop 1).dropLast)
 omega
theorem agd(x:aj)(m:List aj)(y:aj):dQ (x::(m++[y]))=x.sz+(dQ m+y.sz):=by rw[dQ,kZ];simp[dQ]
mutual
theorem BI(b:Bool):∀x:aj,(eZ b x).sz≤x.sz
 | .mk a l=>by
   have g:=OY b l
   have hl:(gB b l).length=l.length:=by rw[Ar,List.length_map]
   have hm:(nQ b l).length=l.length:=by rw[Di,List.length_map]
   rw[kI,mI];simp only[aj.bf,aj.ah]
   rw[eZ]
   split
   ·have g1:uG ((gB b l).drop 1)+(dM l 0).length≤dQ l:=by
     have:=g 0
     simp only[Nat.zero_add,(by decide:¬(1≤0)),if_false] at this
     omega
    have g2:uG ((gB b l).drop 2)+((dM l 0).length+(dM l 1).length)≤dQ l:=by
     have:=g 1
     simp only[Nat.reduceAdd,Nat.le_refl,if_true,Nat.sub_self] at this
     omega
    have g3:uG ((gB b l).drop 3)+((dM l 1).length+(dM l 2).length)≤dQ l:=by
     have:=g 2
     simp only[Nat.reduceAdd,(by decide:1≤2),if_true,Nat.reduceSub] at this
     omega
    split
    ·rw[yh];omega
    ·repeat' split
     all_goals rw[xK];simp only[ay.bL,ay.fName,ay.fType,ay.fArgs,ay.aP,Au,uG,A9,List.length_nil,List.length_drop,List.length_take,hl,hm,List.drop_zero] at g1 g2 g3 ⊢
     all_goals try omega
     ·have h1:=yg b (l.getD 1 dB)
      have h2:uG ((gB b l).drop 2)+(l.getD 1 dB).sz≤dQ l:=by
       match l with
       |[]=>simp[gB,uG,dQ,Ka]
       |[x]=>simp[gB,uG,dQ,Ka]
       |x::y::l=>
        have:=Kg b l
        simp only[gB,List.drop_succ_cons,List.drop_zero,dQ]
        show _+y.sz≤_
        omega
      omega
     ·match l with
      |[]=>simp[uG,A9,gB,nQ]
      |[x]=>simp[uG,A9,gB,nQ]
      |x::y::l=>
       have h1:=BI b y
       have h2:=S9 b l
       simp only[gB,nQ,List.drop_succ_cons,List.drop_zero,List.take_succ_cons,List.take_zero,uG,dQ,List.length_cons]
       omega
   ·split
    ·rw[xK];simp[ay.bL,ay.fName,ay.fType,ay.fArgs,ay.aP,Au,uG,A9]
    ·repeat' split
     all_goals rw[xK];simp[ay.bL,ay.fName,ay.fType,ay.fArgs,ay.aP,Au,uG,A9]
theorem Kg(b:Bool):∀l:List aj,uG (gB b l)≤dQ l
 |[]=>by simp[gB,uG]
 |x::xs=>by
  have h1:=BI b x
  have h2:=Kg b xs
  rw[gB,uG,dQ];omega
theorem OY(b:Bool):∀(l:List aj) (i:Nat),uG ((gB b l).drop (i+1))+((if 1≤i then(dM l (i-1)).length else 0)+(dM l i).length)≤dQ l
 |[],i=>by simp[gB,uG,Ev]
 |x::xs,0=>by
  have h2:=Kg b xs
  rw[gB,List.drop_succ_cons,List.drop_zero,dQ,show dM (x::xs) 0=x.bf from rfl,kI];simp;omega
 |x::xs,i+1=>by
  have h2:=OY b xs i
  rw[gB,List.drop_succ_cons,dQ,show dM (x::xs) (i+1)=dM xs i from rfl]
  cases i with
  |zero=>rw[show dM (x::xs) (0+1-1)=x.bf from rfl,kI];simp at h2 ⊢;omega
  |succ i=>rw[show dM (x::xs) (i+1+1-1)=dM xs i from rfl];simp at h2 ⊢;omega
theorem agf(b:Bool):∀x:aj,(ru b x).sz≤x.sz
 | .mk a l=>by
   rw[kI,mI];simp only[aj.bf,aj.ah]
   rw[ru]
   split
   ·rw[Aq];simp[aR.dL,aR.aA,aR.fBody,yh]
   ·rename_i h
    have hn:=Yy l
    have hb:=Mi b l
    rw[Aq];simp only[aR.dL,aR.aA,aR.fBody]
    obtain⟨x,m,y,rfl⟩:∃x m y,l=x::(m++[y]):=by
     cases l with
     |nil=>simp at h
     |cons x l=>
      have hl:l≠[]:=fun e=>by rw[e] at h;simp at h
      exact⟨x,l.dropLast,l.getLast hl,by rw[List.dropLast_concat_getLast]⟩
    rw[agd] at *
    rw[show dM (x::(m++[y])) 0=x.bf from rfl,kI x]
    simp only[List.drop_succ_cons,List.drop_zero,List.dropLast_concat,List.length_cons,List.length_append,List.length_nil] at hn ⊢
    have hy:((x::(m++[y])).getLastD dB)=y:=by rw[←List.cons_append,List.getLastD_eq_getLast?,List.getLast?_append];simp
    rw[hy] at hb
    omega
theorem S9(b:Bool):∀l:List aj,A9 (nQ b l)≤dQ l
 |[]=>by simp[nQ,A9]
 |x::xs=>by
  have h1:=agf b x
  have h2:=S9 b xs
  rw[nQ,A9,dQ];omega
theorem Mi(b:Bool):∀l:List aj,((gB b l).getLastD lG).sz≤(l.getLastD dB).sz
 |[]=>by simp[gB,yh]
 |[x]=>by simpa [gB] using BI b x
 |x::y::l=>by
  have:=Mi b (y::l)
  simpa [gB] using this
end
end Go.Ab
namespace Go.Proofs
open Go.Shelf
def Tryz.laysM171_ren:Go.Shelf.Ren:=⟨fun|171=>280|243=>312|246=>336|283=>347|284=>348|285=>349|286=>350|129=>357|317=>356|318=>358|319=>359|320=>360|337=>363|338=>364|n=>n,fun|3=>3|9=>9|2=>2|4=>4|171=>300|0=>0|53=>301|37=>158|5=>5|173=>304|212=>316|51=>306|20=>20|213=>317|46=>276|232=>326|233=>327|n=>n,fun|17=>5|18=>6|19=>7|n=>n⟩
theorem Tryz.laysM171:Go.Proofs.LaysM.n171 Tryz.prog Tryz.laysM171_ren:={
 mixed:=by kernel_rfl
 f129:=Tryz.func357.trans (congrArg some (by kernel_rfl))
 f171:=Tryz.func280.trans (congrArg some (by kernel_rfl))
 f243:=Tryz.func312.trans (congrArg some (by kernel_rfl))
 f246:=Tryz.func336.trans (congrArg some (by kernel_rfl))
 f283:=Tryz.func347.trans (congrArg some (by kernel_rfl))
 f284:=Tryz.func348.trans (congrArg some (by kernel_rfl))
 f285:=Tryz.func349.trans (congrArg some (by kernel_rfl))
 f286:=Tryz.func350.trans (congrArg some (by kernel_rfl))
 f317:=Tryz.func356.trans (congrArg some (by kernel_rfl))
 f318:=Tryz.func358.trans (congrArg some (by kernel_rfl))
 f319:=Tryz.func359.trans (congrArg some (by kernel_rfl))
 f320:=Tryz.func360.trans (congrArg some (by kernel_rfl))
 f337:=Tryz.func363.trans (congrArg some (by kernel_rfl))
 f338:=Tryz.func364.trans (congrArg some (by kernel_rfl))
 t0:=Tryz.underlying0
 a0:=Tryz.isAgg0
 z0:=Tryz.sizeOf0
 v0:=Tryz.zeroValue0
 t2:=Tryz.underlying2
 a2:=Tryz.isAgg2
 z2:=Tryz.sizeOf2
 v2:=Tryz.zeroValue2
 t3:=Tryz.underlying3
 a3:=Tryz.isAgg3
 z3:=Tryz.sizeOf3
 v3:=Tryz.zeroValue3
 t4:=Tryz.underlying4
 a4:=Tryz.isAgg4
 z4:=Tryz.sizeOf4
 v4:=Tryz.zeroValue4
 t5:=Tryz.underlying5
 a5:=Tryz.isAgg5
 z5:=Tryz.sizeOf5
 v5:=Tryz.zeroValue5
 t9:=Tryz.underlying9
 a9:=Tryz.isAgg9
 z9:=Tryz.sizeOf9
 v9:=Tryz.zeroValue9
 t20:=Tryz.underlying20
 a20:=Tryz.isAgg20
 z20:=Tryz.sizeOf20
 v20:=Tryz.zeroValue20
 t37:=Tryz.underlying158
 a37:=Tryz.isAgg158
 z37:=Tryz.sizeOf158
 v37:=Tryz.zeroValue158
 t46:=Tryz.underlying276
 a46:=Tryz.isAgg276
 z46:=Tryz.sizeOf276
 v46:=Tryz.zeroValue276
 t51:=Tryz.underlying306
 a51:=Tryz.isAgg306
 z51:=Tryz.sizeOf306
 v51:=Tryz.zeroValue306
 t53:=Tryz.underlying301
 a53:=Tryz.isAgg301
 z53:=Tryz.sizeOf301
 v53:=Tryz.zeroValue301
 t171:=Tryz.underlying300
 a171:=Tryz.isAgg300
 z171:=Tryz.sizeOf300
 v171:=Tryz.zeroValue300
 t173:=Tryz.underlying304
 a173:=Tryz.isAgg304
 z173:=Tryz.sizeOf304
 v173:=Tryz.zeroValue304
 t212:=Tryz.underlying316
 a212:=Tryz.isAgg316
 z212:=Tryz.sizeOf316
 v212:=Tryz.zeroValue316
 t213:=Tryz.underlying317
 a213:=Tryz.isAgg317
 z213:=Tryz.sizeOf317
 t232:=Tryz.underlying326
 a232:=Tryz.isAgg326
 z232:=Tryz.sizeOf326
 v232:=Tryz.zeroValue326
 t233:=Tryz.underlying327
 a233:=Tryz.isAgg327
 z233:=Tryz.sizeOf327
 v233:=Tryz.zeroValue327
 g17:=by kernel_rfl
 g18:=by kernel_rfl
 g19:=by kernel_rfl
 i0:=by kernel_rfl
 i2:=by kernel_rfl
 i3:=by kernel_rfl
 i4:=by kernel_rfl
 i5:=by kernel_rfl
 i9:=by kernel_rfl
 i20:=by kernel_rfl
 i37:=by kernel_rfl
 i46:=by kernel_rfl
 i51:=by kernel_rfl
 i53:=by kernel_rfl
 i171:=by kernel_rfl
 i173:=by kernel_rfl
 i212:=by kernel_rfl
 i232:=by kernel_rfl
 i233:=by kernel_rfl
 m17:=by kernel_rfl
 m18:=by kernel_rfl
 m19:=by kernel_rfl}
open Go.RowKit Go.Sort Go.Lib in
theorem Tryz.strconv_Itoa(n:Int)(h0: -9223372036854775808≤n)(h1:n≤9223372036854775807)(w:World)(htab:Lib.TabIs Tryz.prog w "internal/strconv.uint64pow10" .u64 Lib.pow10Tab):
 Calls Tryz.prog 280 #[.int .i64 n] w fun e w'=>e=.returned (.string ⟨(Lib.itoa n).toArray⟩)∧∃k os,w'=grow (w.drewN k) os:=Any.strconv_Itoa Tryz.laysM171 n h0 h1 w htab
end Go.Proofs
namespace Go.Ab
theorem Yz{w:World}{σ:Nat→Nat}{k:Nat}{os:Array Go.Obj}(hl:∀b,b<w.heap.size∨σ b=0):Grow w σ (Go.Sort.grow (w.drewN k) os) σ:=by
 have hh:(Go.Sort.grow (w.drewN k) os).heap=w.heap++os:=rfl
 refine⟨by rw[hh];simp,rfl,rfl,fun b hb=>⟨by rw[hh,Array.getElem?_append_left hb],rfl⟩,fun b=> ?_⟩
 rcases hl b with h|h
 ·left;rw[hh];simp;omega
 ·exact .inr h
theorem agh{x:V}{vs:List Value}{w:World}{σ:Nat→Nat}{S:Store}{β:Hs}(h:p9 w σ S β [x] vs):∃v,vs=[v]∧dV w σ S β x v:=by
 obtain⟨hl,h⟩:=h
 obtain⟨v,e,hr⟩:=h 0 x rfl
 match vs,hl,e with
 |[y],_,e=>simp at e;subst e;exact⟨_,rfl,hr⟩
end Go.Ab
namespace Go.Proofs.YtocpgjlbagncjaaGreatDoor
open Go Go.Ab
theorem OZ{w:World}{σ:Nat→Nat}(h:DC w σ):Lib.TabIs Tryz.prog w "internal/strconv.uint64pow10" .u64 Lib.pow10Tab:=by
 obtain⟨c,t,fz,q1,q2,q3⟩:=h _ _ (show _∈VK from List.mem_cons_self ..)
 have hn:Tryz.prog.globalNamed "internal/strconv.uint64pow10" =some 5:=by kernel_rfl
 unfold Lib.TabIs World.var?
 rw[hn]
 simp only[Option.bind_some,q1,Option.some.injEq]
 apply Array.ext'
 rw[q2]
 simp[Lib.pow10Tab]
theorem agi(n:Int)(h0: -9223372036854775808≤n)(h1:n≤9223372036854775807):aI Tryz.prog 280 [.c (.d (.i .i64 n))] (.c (.d (.s (Lib.itoa n)))):=fun S=>by
 refine⟨⟨_,Tryz.func280,by kernel_rfl,by kernel_rfl⟩,fun w σ β vs hS hv=> ?_⟩
 obtain⟨v,rfl,hr,_⟩:=agh hv
 have hv0:v=.int .i64 n:=by cases hr;rfl
 subst hv0
 refine(Tryz.strconv_Itoa n h0 h1 w (OZ hS.uW)).mono fun e w' ⟨he,k,os,hw⟩=> ?_
 subst hw
 have hg:Grow w σ (Go.Sort.grow (w.drewN k) os) σ:=Yz hS.live
 exact⟨_,.c (.d (.s (Lib.itoa n))),S,σ,β,he,hS.grow hg,Keep.refl _ _,Step.oH hg,⟨.s _,rfl⟩,rfl,rfl⟩
theorem Kh(n:Int)(h0: -9223372036854775808≤n)(h1:n≤9223372036854775807):aI Tryz.prog 216 [.c (.d (.i .i64 n))] (.c (.d (.s (Lib.itoa n)))):=fun S=>by
 refine aG (rs:=[.tmp 2]) Tryz.checked.mixed Tryz.func216 Tryz.ntmps216 rfl rfl rfl rfl rfl ?_
 refine W1 ?_
 exact C4 (agi n h0 h1)
end Go.Proofs.YtocpgjlbagncjaaGreatDoor
namespace Go.Ab
def Hz(m:Nat):List UInt8:=if m=0 then [] else Lib.decDigits m
theorem aaT{m:Nat}(h:m≠0):Hz (m/10)++[UInt8.ofNat (48+m % 10)]=Hz m:=by
 unfold Hz
 rw[if_neg h]
 conv=>rhs;rw[Lib.decDigits]
 by_cases h10:m<10
 ·rw[dif_pos h10,if_pos (by omega),List.nil_append,Nat.mod_eq_of_lt h10]
 ·rw[dif_neg h10,if_neg (by omega)]
theorem adU(n:Int)(h0: -9223372036854775808≤n)(h1:n≤9223372036854775807):∃sg:Nat→Int,sg 0=0∧sg n.natAbs=n∧(∀m,m≠0→sg m≠0)∧(∀m,(sg m).tmod 10= -((m % 10:Nat):Int)∨(sg m).tmod 10=((m % 10:Nat):Int))∧
 (∀m,(sg m).tdiv 10=sg (m/10))∧∀m,m≤n.natAbs→ -9223372036854775808≤sg m∧sg m≤9223372036854775807:=by
 by_cases h:n<0
 ·refine⟨fun m=> -(m:Int),rfl,by simp only;omega,fun m hm=>by simp only;omega,fun m=>.inl ?_,fun m=> ?_,fun m hm=>by simp only;omega⟩
  ·simp only;rw[Int.neg_tmod];congr 1
  ·simp only;rw[Int.neg_tdiv];congr 1
 ·refine⟨fun m=>(m:Int),rfl,by simp only;omega,fun m hm=>by simp only;omega,fun m=>.inr rfl,fun m=>rfl,fun m hm=>by simp only;omega⟩
theorem aaU:Lib.itoa 0=[48]:=by
 unfold Lib.itoa
 rw[if_neg (by decide),Lib.decDigits,dif_pos (by decide)];rfl
theorem YA(a:Nat)(h:a≤9223372036854775808):(Lib.decDigits a).length≤19:=Ey 18 a (by omega)
end Go.Ab
namespace Go.Proofs.YtocpgjlbagncjaaGreatDoor
open Go Go.Ab
theorem xL(n:Int)(h0: -9223372036854775808≤n)(h1:n≤9223372036854775807):aI Tryz.prog 204 [.c (.d (.i .i64 n))] (.c (.d (.s (Lib.itoa n)))):=fun S=>by
 obtain⟨sg,g0,gn,gne,alx,aly,ahR⟩:=adU n h0 h1
 refine aG (rs:=[.tmp 2]) Tryz.checked.mixed Tryz.func204 Tryz.ntmps204 rfl rfl rfl rfl rfl ?_
 refine W1 ?_
 refine S0 (fun hb h=>?_) fun hb h=>?_
 ·rw[h,aaU]
 have hn0:=h
 have hd0:Hz n.natAbs=Lib.decDigits n.natAbs:=by unfold Hz;rw[if_neg (by omega)]
 have hln:=YA n.natAbs (by omega)
 refine aT (ι:=Nat×List UInt8) Tryz.checked.mixed rfl [0,3,4] (fun y=>[.c (.d (.i .i64 (sg y.1))),.c (.d (.b (decide (n<0)))),.c (.d (.s y.2))]) (fun _=>[]::S)
  (fun y=>y.1≤n.natAbs∧Hz y.1++y.2=Hz n.natAbs∧y.2.length≤19) (fun y=>y.1) (n.natAbs,[]) (by rw[gn];rfl) rfl ⟨Nat.le_refl _,List.append_nil _,by simp⟩ ?_
 rintro⟨m,out⟩ ⟨p1,p2,p3⟩
 simp only at p1 p2 p3
 have hr:=ahR m p1
 have hm:=alx m
 have hq:=aly m
 generalize hx:sg m=x at *
 generalize hy:x.tmod 10=y at *
 have hlo:out.length≤19:=p3
 refine W1 ?_
 refine S0 (fun hb h=>?_) fun hb h=>?_
 ·have hm0:m≠0:=fun e=>by rw[e,g0] at hx;omega
  have hst:=aaT hm0
  have hr2:=ahR (m/10) (by omega)
  have amv:(Hz (m/10)).length+1+out.length≤19:=by
   have:=congrArg List.length p2
   rw[←hst,hd0] at this
   simp only[List.length_append,List.length_cons,List.length_nil] at this
   omega
  simp -implicitDefEqProofs (disch:=omega) only[go_sem,hy]
  refine S0 (fun hb h=>?_) fun hb h=>?_
  ·have e1:(0:Int)-y=((m % 10:Nat):Int):=by omega
   have hc:UInt8.ofNat (IntKind.u8.wrap (48+(0-y))).toNat=UInt8.ofNat (48+m % 10):=by
    rw[wrap_u8 _ (by omega),e1]
    congr 1
   simp -implicitDefEqProofs (disch:=omega) only[go_sem,hy,hq]
   refine W3 ?_
   refine bP (m/10,UInt8.ofNat (48+m % 10)::out) (by simp only;omega) (by rw[←hc];rfl) rfl ⟨by simp only;omega,?_,by simp only[List.length_cons];omega⟩
   simp only
   rw[←p2,←hst,List.append_assoc];rfl
  ·have e1:y=((m % 10:Nat):Int):=by omega
   have hc:UInt8.ofNat (IntKind.u8.wrap (48+y)).toNat=UInt8.ofNat (48+m % 10):=by
    rw[wrap_u8 _ (by omega),e1]
    congr 1
   simp -implicitDefEqProofs (disch:=omega) only[go_sem,hy,hq]
   refine W3 ?_
   refine bP (m/10,UInt8.ofNat (48+m % 10)::out) (by simp only;omega) (by rw[←hc];rfl) rfl ⟨by simp only;omega,?_,by simp only[List.length_cons];omega⟩
   simp only
   rw[←p2,←hst,List.append_assoc];rfl
 ·have hm0:m=0:=by
   rcases Nat.eq_zero_or_pos m with e|e
   ·exact e
   ·exact absurd (by rw[hx];omega) (gne m (by omega))
  subst hm0
  have hout:out=Lib.decDigits n.natAbs:=by rw[←hd0,←p2];rfl
  refine S0 (fun hb h=>?_) fun hb h=>?_
  ·refine W3 ?_
   rw[hout]
   unfold Lib.itoa
   rw[if_pos h]
  ·rw[hout]
   unfold Lib.itoa
   rw[if_neg h,show n.toNat=n.natAbs by omega]
end Go.Proofs.YtocpgjlbagncjaaGreatDoor
namespace Go.Ab
theorem HV{P:Program}{w:World}{t u ty e:TypeId}{base:Option Addr}{n:Nat}{i:TypeInfo}{z:Value}(ht:P.underlying t=some (.slice e))(hu:P.underlying u=some (.int .i64))(hi:P.info? e=some i)
 (hz:i.zero=some z) (h1:1≤n) (hn:n≤1073741824) (hb:i.bytes≤4096) (hs:i.size=z.cells.size):
 ∃(cap:Nat) (row:Array Value),n≤cap∧row.size=cap*z.cells.size∧(Builtin.append_ #[t,u] ty #[.slice base 0 0,.int .i64 n]).run P w=
  .ok (.slice (some ⟨w.heap.size,0,none⟩) n cap) {w.drew with heap:=w.heap.push (.cells row e)}:=by
 have hn1:=KN n 0 (by omega)
 have h48:¬(281474976710656<Builtin.nextslicecap n 0*i.bytes):=by
  have:Builtin.nextslicecap n 0*i.bytes≤(2*n+512)*4096:=Nat.mul_le_mul hn1 hb
  omega
 have h49:¬(281474976710656<(n:Int)*(i.bytes:Int)):=by
  have h2:n*i.bytes≤1073741824*4096:=Nat.mul_le_mul hn hb
  have:(n:Int)*(i.bytes:Int)=((n*i.bytes:Nat):Int):=by simp
  rw[this];omega
 have h63':¬(9223372036854775807<(n:Int)):=by omega
 have hroom':¬(n≤0):=by omega
 have hneg:¬((n:Int)<0):=by omega
 have hn0:¬n=0:=by omega
 have hw:IntKind.i64.wrap (n:Int)=n:=VZ _ (by omega)
 have hmax:IntKind.i64.max=9223372036854775807:=by decide
 have ha:∀w:World,(asInt (.int .i64 (n:Int))).run P w=.ok (n:Int) w:=fun w=>by simp[asInt,asIntOf]
 let cap:=(Question.appendCap n 0 e).cut (w.tape w.drawn (Question.appendCap n 0 e))
 have hcap:n≤cap:=by simp[cap,Question.cut]
 refine⟨cap,#[]++(if n*i.size=0 then #[] else Builtin.zeroCells z.cells n)++Builtin.zeroCells z.cells (cap-n),hcap,?_,?_⟩
 ·by_cases h0:n*i.size=0
  ·rw[if_pos h0]
   have hsz:z.cells.size=0:=by
    rcases Nat.mul_eq_zero.1 h0 with h|h
    ·omega
    ·omega
   simp[Builtin.zeroCells,hsz]
  ·rw[if_neg h0]
   simp only[Builtin.zeroCells,Array.size_append,Array.size_map,Array.size_range,Array.size_empty,Nat.zero_add]
   rw[←Nat.add_mul]
   congr 1
   omega
 ·by_cases h0:n*i.size=0
  ·rw[if_pos h0]
   cases base<;>simp[Builtin.append_,run_underlying ht,run_underlying hu,sizeOf,typeInfo,zeroValue,hi,hz,hroom',h48,h49,h63',hneg,hw,hmax,Question.forced,newRow,ha,hn0,loadCellsFrom,h0,Builtin.firstCells,loadCells]<;>exact⟨rfl,rfl⟩
  ·rw[if_neg h0]
   cases base<;>simp[Builtin.append_,run_underlying ht,run_underlying hu,sizeOf,typeInfo,zeroValue,hi,hz,hroom',h48,h49,h63',hneg,hw,hmax,Question.forced,newRow,ha,hn0,loadCellsFrom,h0,Builtin.firstCells,loadCells]<;>exact⟨rfl,rfl⟩
end Go.Ab
namespace Go.Proofs.YtocpgjlbagncjaaGreatDoor
open Go Go.Ab
theorem aaV(base:Option Addr)(n:Nat)(h1:1≤n)(hn:n≤1073741824)(w:World):Calls Tryz.prog 341 #[.slice base 0 0,.int .i64 n] w fun e w'=>
 ∃cap row,n≤cap∧row.size=cap∧e=.returned (.slice (some ⟨w.heap.size,0,none⟩) 0 cap)∧w'={w.drew with heap:=w.heap.push (.cells row 9)}:=by
 obtain⟨cap,row,hc,hr,hm⟩:=HV (P:=Tryz.prog) (w:=w) (t:=26) (u:=3) (ty:=26) (e:=9) (base:=base) (n:=n) Tryz.underlying26 Tryz.underlying3 rfl rfl h1 hn (by decide +kernel) rfl
 have h0:¬((n:Int)<0):=by omega
 have h2:(0:Int)<n:=by omega
 go_enter Tryz.func341,Tryz.ntmps341
 go_wp2_with (at_builtin;refine Lib.wpList_append_run _ rfl _ _ _ _ rfl _ _ rfl rfl _ _ hm ?_)
 all_goals go_ret
 exact⟨cap,hc,row,hr.trans (Nat.mul_one _),rfl,rfl⟩
theorem YB(base:Option Addr)(w:World):Calls Tryz.prog 341 #[.slice base 0 0,.int .i64 0] w fun e w'=>e=.returned (.slice base 0 0)∧w'=w:=by
 go_enter Tryz.func341,Tryz.ntmps341
 go_wp2
 all_goals go_ret
 exact⟨rfl,rfl⟩
theorem adV(n:Nat)(hn:n≤1073741824)(bZ:List Ab.Obj)(Ω:Store):cB Tryz.prog 341 [.c (.bO []),.c (.d (.i .i64 n))] (bZ::Ω)
 (fun r S'=>r=.c (.bS (0,bZ.length) [])∧S'=(bZ++[.tok 1 []])::Ω):=by
 refine⟨⟨_,Tryz.func341,by kernel_rfl,by kernel_rfl⟩,fun w σ β vs hS hv=> ?_⟩
 obtain⟨hl,h⟩:=hv
 obtain⟨v0,e0,⟨h0,a,m,h00⟩,_⟩:=h 0 _ rfl
 obtain⟨v1,e1,h1,_⟩:=h 1 _ rfl
 have h1':v1=.int .i64 n:=by cases h1;rfl
 subst h1'
 have hm:m=0:=by rw[h00] at h0;cases h0<;>rfl
 subst hm
 subst h00
 have hvs:vs=[.slice a 0 0,.int .i64 n]:=by
  match vs,hl,e0,e1 with
  |[x,y],_,e0,e1=>simp at e0 e1;rw[e0,e1]
 subst hvs
 cases β with
 |nil=>have:=hS.shape.1;simp at this
 |cons bo bΩ=>
 have hlen:bo.length=bZ.length:=by
  obtain⟨gr,g1,g2⟩:=hS.shape.2 0 bZ rfl
  simp at g1;rw[g1];exact g2
 by_cases hz:n=0
 ·subst hz
  refine(YB a w).mono fun e w' ⟨he,hw⟩=> ?_
  subst hw
  obtain⟨hS',hk,hst⟩:=hS.push (o:=.tok 1 []) (h:=.slice a 0 0) (Grow.refl hS.live) hlen ⟨h0,by simp,a,0,rfl,by simp,.inl rfl⟩ (fun b hb=>by cases a<;>simp[owns,blk] at hb)
  refine⟨_,.c (.bS (0,bZ.length) []),_,_,_,he,hS',hk,hst,⟨⟨h0,.tok 1 [],?_,fun bE es e=> ?_⟩,rfl⟩,rfl,rfl⟩
  ·rw[dH]
  ·obtain⟨_,rfl⟩:=oI (lab:=none) e;exact⟨Nat.le_refl _,fun _=>by rw[←hlen,dH]⟩
 ·refine(aaV a n (by omega) hn w).mono fun e w' ⟨cap,row,hc,hr,he,hw⟩=> ?_
  subst hw
  have hσ:σ w.heap.size=0:=(hS.live w.heap.size).resolve_left (by omega)
  have hg:Grow w σ {w.drew with heap:=w.heap.push (.cells row 9)} σ:=by
   refine⟨by simp,rfl,rfl,fun b hb=>⟨?_,rfl⟩,fun b=> ?_⟩
   ·simp only[Array.getElem?_push]
    rw[if_neg (by omega)]
   ·rcases hS.live b with hb|hb
    ·left;simp;omega
    ·exact .inr hb
  obtain⟨hS',hk,hst⟩:=hS.push (o:=.tok 1 []) (h:=.slice (some ⟨w.heap.size,0,none⟩) 0 cap) hg hlen ⟨.nil _ _,by simp,_,cap,rfl,by simp,.inr ⟨w.heap.size,0,row,9,rfl,by simp,by simp[hσ],by omega⟩⟩ (fun b hb=>by
   simp only[owns,blk] at hb
   split at hb
   ·cases hb
   ·cases hb;exact Nat.le_refl _)
  refine⟨_,.c (.bS (0,bZ.length) []),_,_,_,he,hS',hk,hst,⟨⟨.nil _ _,.tok 1 [],?_,fun bE es e=> ?_⟩,rfl⟩,rfl,rfl⟩
  ·rw[dH]
  ·obtain⟨_,rfl⟩:=oI (lab:=none) e;exact⟨Nat.le_refl _,fun _=>by rw[←hlen,dH]⟩
theorem Cx{xs:List (List UInt8)}:∀y∈xs.map encS,y.length=1:=fun y hy=>by
 obtain⟨z,_,rfl⟩:=List.mem_map.1 hy
 rfl
theorem FK{α:Type}(xss:List (List α)){i:Nat}(hi:i<xss.length):(xss.take (i+1)).flatten.length=(xss.take i).flatten.length+xss[i].length:=by
 rw[List.take_succ_eq_append_getElem hi,List.flatten_append,List.length_append]
 simp only[List.flatten_cons,List.flatten_nil,List.append_nil]
theorem yj{α:Type}(xss:List (List α))(i:Nat):(xss.take i).flatten.length≤xss.flatten.length:=by
 conv=>rhs;rw[←List.take_append_drop i xss]
 rw[List.flatten_append,List.length_append]
 omega
theorem YC(xss:List (List (List UInt8)))(hl:xss.length≤1073741824)(hf:xss.flatten.length≤1073741824):aI Tryz.prog 331 [.c (.d (.sl (xss.map fun a=>[.sl (a.map encS)])))] (.c (.d (.sl (xss.flatten.map encS)))):=fun S=>by
 refine aG (rs:=[.tmp 2]) Tryz.checked.mixed Tryz.func331 Tryz.ntmps331 rfl rfl rfl rfl rfl ?_
 refine W1 ?_
 refine aT (ι:=Nat) Tryz.checked.mixed rfl [0,3,9,10,11] (fun i=>[.c (.d (.sl (xss.map fun a=>[.sl (a.map encS)]))),.c (.d (.i .i64 (xss.take i).flatten.length)),.c (.d (.sl (xss.map fun a=>[.sl (a.map encS)]))),.c (.d (.i .i64 xss.length)),.c (.d (.i .i64 i))]) (fun _=>[]::S)
  (fun i=>i≤xss.length) (fun i=>xss.length-i) 0 rfl rfl (Nat.zero_le _) ?_
 rintro i p1
 have hfi:=yj xss i
 by_cases hi:i<xss.length
 ·have hs:=FK xss hi
  have adW:=yj xss (i+1)
  refine W1 ?_
  refine S0 (fun hb h=>?_) fun hb h=>?_
  ·refine W3 ?_
   refine S0 (fun hb h=>?_) fun hb h=>?_
   ·omega
   ·refine bP (i+1) (by omega) ?_ rfl (by omega)
    rw[hs];rfl
  ·omega
 have hi:i=xss.length:=by omega
 subst hi
 refine W1 ?_
 refine S0 (fun hb h=>?_) fun hb h=>?_
 ·omega
 rw[List.take_length]
 clear hfi
 refine bJ rfl (adV xss.flatten.length hf [] S) ?_
 refine W1 ?_
 refine aT (ι:=Nat) Tryz.checked.mixed rfl [6,25,26,27] (fun i=>[.c (.bS (0,0) ((xss.take i).flatten.map encS)),.c (.d (.sl (xss.map fun a=>[.sl (a.map encS)]))),.c (.d (.i .i64 xss.length)),.c (.d (.i .i64 i))]) (fun i=>[.tok 1 ((xss.take i).flatten.map encS)]::S)
  (fun i=>i≤xss.length) (fun i=>xss.length-i) 0 rfl rfl (Nat.zero_le _) ?_
 rintro i p1
 have hfi:=yj xss i
 by_cases hi:i<xss.length
 ·have hs:=FK xss hi
  have adW:=yj xss (i+1)
  have e:(xss.take (i+1)).flatten.map encS=(xss.take i).flatten.map encS++xss[i].map encS:=by
   rw[List.take_succ_eq_append_getElem hi,List.flatten_append,List.map_append]
   simp only[List.flatten_cons,List.flatten_nil,List.append_nil]
  refine W1 ?_
  refine S0 (fun hb h=>?_) fun hb h=>?_
  ·refine W3 ?_
   refine⟨Cx,⟨_,rfl,rfl⟩,by omega,?_⟩
   exact bP (i+1) (by omega) (by rw[e];rfl) (by rw[e]) (by omega)
  ·omega
 ·have hi:i=xss.length:=by omega
  subst hi
  refine W1 ?_
  refine S0 (fun hb h=>?_) fun hb h=>?_
  ·omega
  rw[List.take_length]
theorem YD(c:Nat)(w:World):Calls Tryz.prog 330 #[.slice none 0 c] w fun e w'=>e=.returned (.slice none 0 0)∧w'=w:=by
 have hb:(binOp .eql 26 (.slice none 0 c) (.slice none 0 0)).run Tryz.prog w=.ok (.bool true) w:=by
  simp[binOp,run_equal_slice_nil w _ _ _ _ _ Tryz.underlying26]
 go_enter Tryz.func330,Tryz.ntmps330
 go_wp2
 all_goals go_ret
 exact⟨rfl,rfl⟩
theorem YE(w w':World)(a:Addr)(n c:Nat)(r:Value)(hm:(Builtin.append_ #[26,26] 26 #[.slice (some ⟨w.heap.size,0,none⟩) 0 0,.slice (some a) n c]).run Tryz.prog (w.alloc (.cells #[] 9))=.ok r w'):
 Calls Tryz.prog 330 #[.slice (some a) n c] w fun e w''=>e=.returned r∧w''=w':=by
 have hb:(binOp .eql 26 (.slice (some a) n c) (.slice none 0 0)).run Tryz.prog w=.ok (.bool false) w:=by
  simp[binOp,run_equal_slice_nil w _ _ _ _ _ Tryz.underlying26]
 go_enter Tryz.func330,Tryz.ntmps330
 go_wp2_with (at_builtin;refine Lib.wpList_append_run _ rfl _ _ _ _ rfl _ _ rfl rfl _ _ hm ?_)
 all_goals go_ret
 exact⟨rfl,rfl⟩
theorem aaW(xs:List (List UInt8))(hx:xs.length≤1073741824)(bZ:List Ab.Obj)(Ω:Store):cB Tryz.prog 330 [.c (.d (.sl (xs.map encS)))] (bZ::Ω)
 (fun r S'=>r=.c (.bS (0,bZ.length) (xs.map encS))∧S'=(bZ++[.tok 1 (xs.map encS)])::Ω):=by
 have ajT:(xs.map encS).length≤1073741824:=by simpa using hx
 have h1:=Cx (xs:=xs)
 generalize xs.map encS=es at *
 refine⟨⟨_,Tryz.func330,by kernel_rfl,by kernel_rfl⟩,fun w σ β vs hS hv=> ?_⟩
 obtain⟨hl,h⟩:=hv
 obtain⟨v,e0,hd,_⟩:=h 0 _ rfl
 have hd:d9 w σ (.sl es) v:=hd
 have hvs:vs=[v]:=by
  match vs,hl,e0 with
  |[x],_,e0=>simp at e0;rw[e0]
 subst hvs
 cases β with
 |nil=>have:=hS.shape.1;simp at this
 |cons bo bΩ=>
 have hlen:bo.length=bZ.length:=by
  obtain⟨gr,g1,g2⟩:=hS.shape.2 0 bZ rfl
  simp at g1;rw[g1];exact g2
 have hv:∃a c,v=.slice a es.length c∧(a=none→es=[]):=by
  cases hd with
  |nil a cap=>exact⟨a,cap,rfl,fun _=>rfl⟩
  |sl b off cap bE es vals c t fz=>exact⟨_,_,rfl,fun h=>by cases h⟩
 obtain⟨a,c,rfl,ha⟩:=hv
 cases a with
 |none=>
  have:=ha rfl
  subst this
  refine(YD c w).mono fun e w' ⟨he,hw⟩=> ?_
  subst hw
  obtain⟨hS',hk,hst⟩:=hS.push (o:=.tok 1 []) (h:=.slice none 0 0) (Grow.refl hS.live) hlen ⟨.nil _ _,by simp,none,0,rfl,by simp,.inl rfl⟩ (fun b hb=>by simp[owns,blk] at hb)
  refine⟨_,.c (.bS (0,bZ.length) []),_,_,_,he,hS',hk,hst,⟨⟨.nil _ _,.tok 1 [],?_,fun bE es e=> ?_⟩,rfl⟩,rfl,rfl⟩
  ·rw[dH]
  ·obtain⟨_,rfl⟩:=oI (lab:=none) e;exact⟨Nat.le_refl _,fun _=>by rw[←hlen,dH]⟩
 |some a=>
  have hσ:σ w.heap.size=0:=(hS.live w.heap.size).resolve_left (by omega)
  have hg:Grow w σ (w.alloc (.cells #[] 9)) σ:=by
   have hh:(w.alloc (.cells #[] 9)).heap=w.heap.push (.cells #[] 9):=rfl
   refine⟨by rw[hh];simp,rfl,rfl,fun b hb=>⟨?_,rfl⟩,fun b=> ?_⟩
   ·rw[hh,Array.getElem?_push]
    rw[if_neg (by omega)]
   ·rcases hS.live b with hb|hb
    ·left;rw[hh];simp;omega
    ·exact .inr hb
  have AO:jm (w.alloc (.cells #[] 9)) σ [] [] (.tok 1 []) (.slice (some ⟨w.heap.size,0,none⟩) 0 0):=⟨.nil _ _,by simp,_,0,rfl,by simp,.inl rfl⟩
  obtain⟨r,w',σ',hr,hro,hsz,hos,hout,hn,hli,AL,hbk,hzero,h1c⟩:=yE (lab:=none) (P:=Tryz.prog) (w:=w.alloc (.cells #[] 9)) (σ:=σ) (S:=[]) (β:=[]) (t:=26) (u:=26) (ty:=26) (e:=9) (size:=1) (es:=[]) (ys:=es) hg.live Tryz.underlying26 (.inl ⟨_,Tryz.underlying26⟩) ⟨[.d (.s [])],by kernel_rfl,rfl⟩ rfl (by decide +kernel) AO (Gv (d9.mono hg.near hd) h1) (by simpa using ajT)
  rw[List.nil_append] at hro hbk
  refine(YE w w' a es.length c r hr).mono fun e w'' ⟨he,hw⟩=> ?_
  subst hw
  have hg2:Grow (w.alloc (.cells #[] 9)) σ w'' σ':=⟨hsz,hos,hout,fun b hb=>AL b hb (by simp[jE,owns,blk]),hli⟩
  have hg3:=hg.trans hg2
  obtain⟨hS',hk,hst⟩:=hS.push (o:=.tok 1 es) (h:=r) hg3 hlen (hro _ _) (fun b hb=>by
   rcases hbk b hb with h|h
   ·simp[jE,owns,blk] at h
   ·exact Nat.le_trans hg.size h)
  refine⟨_,.c (.bS (0,bZ.length) es),_,_,_,he,hS',hk,hst,⟨⟨(hro [] []).1,.tok 1 es,?_,fun bE es' e=> ?_⟩,h1c⟩,rfl,rfl⟩
  ·rw[dH]
  ·obtain⟨_,rfl⟩:=oI (lab:=none) e;exact⟨Nat.le_refl _,fun _=>by rw[←hlen,dH]⟩
end Go.Proofs.YtocpgjlbagncjaaGreatDoor
namespace Go.Ab
theorem cB.args{P:Program}{f:FuncId}{args args':List V}{S:Store}{post:V→Store→Prop}(h:cB P f args' S post)(hl:uD args args'):cB P f args S post:=h.weaken hl.length fun j x y hx hy w σ β v hr=>hl.at j x y hx hy w σ S β v hr
theorem om(n:Nat)(es:List (List D)):Less (.c (.kW n es)) (.c (.d (.sl es))):=fun w σ S β v h=>⟨sP h.1.1,h.2⟩
end Go.Ab
namespace Go.Proofs.YtocpgjlbagncjaaGreatDoor
open Go Go.Ab
theorem oo(xs:List (List UInt8))(hx:xs.length≤1073741824)(n q:Nat)(bZ:List Ab.Obj)(Ω:Store):cB Tryz.prog 217 [.c (.d (.sl (xs.map encS)))] (bZ::Ω)
 (fun r S'=>r=.c (.bS (0,bZ.length+1) (lx (aV xs) q))∧S'=(bZ++[.seed n,.fF n 2 (lx (aV xs) q)])::Ω):=by
 refine Yf (n) (rs:=[.tmp 2]) Tryz.checked.mixed Tryz.func217 Tryz.ntmps217 rfl rfl rfl rfl rfl ?_
 refine W1 ?_
 refine W3 ?_
 refine l6 n 3 2 [] (.inl rfl) (by simp) ?_
 refine aT (ι:=Nat) Tryz.checked.mixed rfl [3,7,8,9] (fun i=>[.c (.bS (0,1) (lx ((aV xs).take i) q)),.c (.d (.sl (xs.map encS))),.c (.d (.i .i64 xs.length)),.c (.d (.i .i64 i))]) (fun i=>[.seed n,.fF n 2 (lx ((aV xs).take i) q)]::bZ::Ω)
  (fun i=>i≤xs.length) (fun i=>xs.length-i) 0 rfl rfl (Nat.zero_le _) ?_
 intro i hi
 refine W1 ?_
 refine S0 (fun hb h=>?_) fun hb h=>?_
 ·have hi':i<xs.length:=by omega
  have hw:i<(aV xs).length:=by rw[jH];exact hi'
  have hg:(aV xs)[i]=bT xs[i]:=by simp[aV]
  have hl:(lx ((aV xs).take i) q).length≤i:=by rw[iw];exact List.length_take_le _ _
  refine W3 ?_
  refine C1 (dI xs[i] (q+jq ((aV xs).take i))) ?_
  refine W3 ?_
  have hs:=NG hw q
  rw[hg,vV] at hs
  rw[hs]
  exact bP (i+1) (by omega) rfl rfl (by omega)
 ·have hi':i=(aV xs).length:=by rw[jH];omega
  rw[hi',List.take_length]
  exact⟨rfl,rfl⟩
theorem aaX(base:Option Addr)(n:Nat)(h1:1≤n)(hn:n≤1073741824)(w:World):Calls Tryz.prog 281 #[.slice base 0 0,.int .i64 n] w fun e w'=>
 ∃cap row,n≤cap∧row.size=cap*2∧e=.returned (.slice (some ⟨w.heap.size,0,none⟩) 0 cap)∧w'={w.drew with heap:=w.heap.push (.cells row 37)}:=by
 obtain⟨cap,row,hc,hr,hm⟩:=HV (P:=Tryz.prog) (w:=w) (t:=35) (u:=3) (ty:=35) (e:=37) (base:=base) (n:=n) Tryz.underlying35 Tryz.underlying3 rfl rfl h1 hn (by decide +kernel) rfl
 have h0:¬((n:Int)<0):=by omega
 have h2:(0:Int)<n:=by omega
 go_enter Tryz.func281,Tryz.ntmps281
 go_wp2_with (at_builtin;refine Lib.wpList_append_run _ rfl _ _ _ _ rfl _ _ rfl rfl _ _ hm ?_)
 all_goals go_ret
 exact⟨cap,hc,row,hr,rfl,rfl⟩
theorem YF(base:Option Addr)(w:World):Calls Tryz.prog 281 #[.slice base 0 0,.int .i64 0] w fun e w'=>e=.returned (.slice base 0 0)∧w'=w:=by
 go_enter Tryz.func281,Tryz.ntmps281
 go_wp2
 all_goals go_ret
 exact⟨rfl,rfl⟩
theorem aaY(m n:Nat)(hn:n≤1073741824)(bZ:List Ab.Obj)(Ω:Store):cB Tryz.prog 281 [.c (.bO []),.c (.d (.i .i64 n))] (bZ::Ω)
 (fun r S'=>r=.c (.bS (0,bZ.length) [])∧S'=(bZ++[.fF m 2 []])::Ω):=by
 refine⟨⟨_,Tryz.func281,by kernel_rfl,by kernel_rfl⟩,fun w σ β vs hS hv=> ?_⟩
 obtain⟨hl,h⟩:=hv
 obtain⟨v0,e0,⟨h0,a,m',h00⟩,_⟩:=h 0 _ rfl
 obtain⟨v1,e1,h1,_⟩:=h 1 _ rfl
 have h1':v1=.int .i64 n:=by cases h1;rfl
 subst h1'
 have hm:m'=0:=by rw[h00] at h0;cases h0<;>rfl
 subst hm
 subst h00
 have hvs:vs=[.slice a 0 0,.int .i64 n]:=by
  match vs,hl,e0,e1 with
  |[x,y],_,e0,e1=>simp at e0 e1;rw[e0,e1]
 subst hvs
 cases β with
 |nil=>have:=hS.shape.1;simp at this
 |cons bo bΩ=>
 have hlen:bo.length=bZ.length:=by
  obtain⟨gr,g1,g2⟩:=hS.shape.2 0 bZ rfl
  simp at g1;rw[g1];exact g2
 by_cases hz:n=0
 ·subst hz
  refine(YF a w).mono fun e w' ⟨he,hw⟩=> ?_
  subst hw
  obtain⟨hS',hk,hst⟩:=hS.push (o:=.fF m 2 []) (h:=.slice a 0 0) (Grow.refl hS.live) hlen ⟨h0,by simp,a,0,rfl,by simp,.inl ⟨rfl,.vw _ _ _⟩⟩ (fun b hb=>by cases a<;>simp[owns,blk] at hb)
  refine⟨_,.c (.bS (0,bZ.length) []),_,_,_,he,hS',hk,hst,⟨⟨h0,.fF m 2 [],?_,fun bE es e=> ?_⟩,rfl⟩,rfl,rfl⟩
  ·rw[dH]
  ·obtain⟨_,rfl⟩:=oI (lab:=some m) e;exact⟨Nat.le_refl _,fun _=>by rw[←hlen,dH]⟩
 ·refine(aaX a n (by omega) hn w).mono fun e w' ⟨cap,row,hc,hr,he,hw⟩=> ?_
  subst hw
  have hσ:σ w.heap.size=0:=(hS.live w.heap.size).resolve_left (by omega)
  have hg:Grow w σ {w.drew with heap:=w.heap.push (.cells row 37)} σ:=by
   refine⟨by simp,rfl,rfl,fun b hb=>⟨?_,rfl⟩,fun b=> ?_⟩
   ·simp only[Array.getElem?_push]
    rw[if_neg (by omega)]
   ·rcases hS.live b with hb|hb
    ·left;simp;omega
    ·exact .inr hb
  obtain⟨hS',hk,hst⟩:=hS.push (o:=.fF m 2 []) (h:=.slice (some ⟨w.heap.size,0,none⟩) 0 cap) hg hlen ⟨.nil _ _,by simp,_,cap,rfl,by simp,.inr ⟨by simp;omega,w.heap.size,0,row,37,rfl,by simp,by simp[hσ],by omega⟩⟩ (fun b hb=>by
   simp only[owns,blk] at hb
   split at hb
   ·cases hb
   ·cases hb;exact Nat.le_refl _)
  refine⟨_,.c (.bS (0,bZ.length) []),_,_,_,he,hS',hk,hst,⟨⟨.nil _ _,.fF m 2 [],?_,fun bE es e=> ?_⟩,rfl⟩,rfl,rfl⟩
  ·rw[dH]
  ·obtain⟨_,rfl⟩:=oI (lab:=some m) e;exact⟨Nat.le_refl _,fun _=>by rw[←hlen,dH]⟩
theorem Vg(m l:Nat)(xss:List (Nat×List (List D)))(hl:xss.length≤1073741824)(hr:∀p∈xss,∀r∈p.2,r.length=2)(hf:(xss.map (·.2)).flatten.length≤1073741824):aI Tryz.prog 219 [.c (.kW l (xss.map fun p=>[.ol p.1 p.2]))] (.c (.d (.ol m (xss.map (·.2)).flatten))):=fun S=>by
 obtain⟨ys,hys⟩:∃ys:List (List (List D)),ys=xss.map (·.2):=⟨_,rfl⟩
 rw[←hys] at hf ⊢
 have hyl:ys.length=xss.length:=by rw[hys,List.length_map]
 have hyi:∀i (hi:i<xss.length),ys[i]'(by omega)=xss[i].2:=fun i hi=>by simp[hys]
 have hyr:∀i (hi:i<xss.length),∀r∈xss[i].2,r.length=2:=fun i hi=>hr _ (List.getElem_mem hi)
 refine kC (m) (rs:=[.tmp 2]) Tryz.checked.mixed Tryz.func219 Tryz.ntmps219 rfl rfl rfl rfl rfl ?_
 refine W1 ?_
 refine aT (ι:=Nat) Tryz.checked.mixed rfl [0,3,9,10,11] (fun i=>[.c (.kW l (xss.map fun p=>[.ol p.1 p.2])),.c (.d (.i .i64 (ys.take i).flatten.length)),.c (.kW l (xss.map fun p=>[.ol p.1 p.2])),.c (.d (.i .i64 xss.length)),.c (.d (.i .i64 i))]) (fun _=>[.seed m]::S)
  (fun i=>i≤xss.length) (fun i=>xss.length-i) 0 rfl rfl (Nat.zero_le _) ?_
 rintro i p1
 have hfi:=yj ys i
 by_cases hi:i<xss.length
 ·have hs:=FK ys (i:=i) (by omega)
  rw[hyi i hi] at hs
  have adW:=yj ys (i+1)
  refine W1 ?_
  refine S0 (fun hb h=>?_) fun hb h=>?_
  ·refine W3 ?_
   refine S0 (fun hb h=>?_) fun hb h=>?_
   ·omega
   ·refine bP (i+1) (by omega) ?_ rfl (by omega)
    rw[hs];rfl
  ·omega
 have hi:i=xss.length:=by omega
 subst hi
 refine W1 ?_
 refine S0 (fun hb h=>?_) fun hb h=>?_
 ·omega
 rw[←hyl,List.take_length]
 clear hfi
 refine bJ rfl (aaY m ys.flatten.length hf [.seed m] S) ?_
 refine W1 ?_
 refine aT (ι:=Nat) Tryz.checked.mixed rfl [6,25,26,27] (fun i=>[.c (.bS (0,1) (ys.take i).flatten),.c (.kW l (xss.map fun p=>[.ol p.1 p.2])),.c (.d (.i .i64 xss.length)),.c (.d (.i .i64 i))]) (fun i=>[.seed m,.fF m 2 (ys.take i).flatten]::S)
  (fun i=>i≤xss.length) (fun i=>xss.length-i) 0 (by rw[←hyl];rfl) rfl (Nat.zero_le _) ?_
 rintro i p1
 have hfi:=yj ys i
 by_cases hi:i<xss.length
 ·have hs:=FK ys (i:=i) (by omega)
  rw[hyi i hi] at hs
  have adW:=yj ys (i+1)
  have e:(ys.take (i+1)).flatten=(ys.take i).flatten++xss[i].2:=by
   rw[List.take_succ_eq_append_getElem (by omega),List.flatten_append,hyi i hi]
   simp only[List.flatten_cons,List.flatten_nil,List.append_nil]
  have Av:=hyr i hi
  refine W1 ?_
  refine S0 (fun hb h=>?_) fun hb h=>?_
  ·refine W3 ?_
   exact bP (i+1) (by omega) (by rw[e];rfl) (by rw[e]) (by omega)
  ·omega
 ·have hi:i=ys.length:=by omega
  refine W1 ?_
  refine S0 (fun hb h=>?_) fun hb h=>?_
  ·omega
  rw[hi,List.take_length]
end Go.Proofs.YtocpgjlbagncjaaGreatDoor
namespace Go.Ab
theorem kE{x:ay}{k:Int}(h:x.aK=k):ji x.aK x.bL x.fName x.fType=ji k x.bL x.fName x.fType:=by rw[h]
theorem O0{l:List ay}{t:ay}(h:t∈l):t.sz≤uG l:=by
 rw[←Kc];exact dA (List.mem_map_of_mem h)
theorem Mj{l:List aR}{t:aR}(h:t∈l):t.sz≤A9 l:=by
 rw[←Ke];exact dA (List.mem_map_of_mem h)
theorem DV:∀{xs:List ay},l7 xs=true↔∀t∈xs,iT t=true
 |[]=>by simp[l7]
 |t::ts=>by simp[l7,DV (xs:=ts)]
theorem FL:∀{xs:List aR},pU xs=true↔∀t∈xs,wE t=true
 |[]=>by simp[pU]
 |t::ts=>by simp[pU,FL (xs:=ts)]
theorem lK{x:ay}(h1:x.aK≠1)(h2:x.aK≠2)(h3:x.aK≠3)(h:x.aK=4∨x.aK=5∨x.aK=6∨x.aK=8∨x.aK=9∨x.aK=10∨x.aK=11∨x.aK=12):
 fB x=bY (ji x.aK x.bL x.fName x.fType++x.fArgs.map fB):=by rw[Ht,if_neg h1,if_neg h2,if_neg h3,if_pos h,List.append_nil]
end Go.Ab
namespace Go.Proofs.YtocpgjlbagncjaaGreatDoor
open Go Go.Ab
theorem Mk:∀N:Nat,∀x:ay,SizeOf.sizeOf x<N→∀n:Nat,iT x=true→x.sz≤4194304→aI Tryz.prog 129 [x.v] (.agg [.d (.s (fB x).bf),.d (.ol n (lx (fB x).ah (n+1)))])
 |0=>fun x h=>by omega
 |N+1=>by
  have ih:=Mk N
  intro x hn n hok hsz S
  have jS:=ay.gM x
  have zS:=ay.oN x
  have hzz:=xK x
  rw[x9,Bool.and_eq_true,Bool.and_eq_true] at hok
  obtain⟨hfi,hoa,Ta⟩:=hok
  have hfi:=gH hfi
  have hoa:=DV.1 hoa
  have Ta:=FL.1 Ta
  obtain⟨qa,yZ⟩:∃qa,qa=n+1+jq (ji x.aK x.bL x.fName x.fType):=⟨_,rfl⟩
  obtain⟨T,hT⟩:∃T:Nat→List (List D),T=fun i=>lx ((x.fArgs.map fB).take i) qa:=⟨_,rfl⟩
  have hT0:T 0=[]:=by rw[hT];rfl
  have ig:∀i,(T i).length≤i:=fun i=>by rw[hT];simp only[iw];exact List.length_take_le _ _
  have hTr:∀i,∀r∈T i,r.length=2:=fun i=>by rw[hT];exact lq
  have hTs:∀i (hi:i<x.fArgs.length),T i++[[.s (fB x.fArgs[i]).bf,.ol (qa+jq ((x.fArgs.map fB).take i)) (lx (fB x.fArgs[i]).ah (qa+jq ((x.fArgs.map fB).take i)+1))]]=T (i+1):=fun i hi=>by
   have:=FD (l:=x.fArgs.map fB) (i:=i) (by rw[List.length_map];exact hi) qa
   rw[List.getElem_map] at this
   rw[hT];exact this
  have hTe:T x.fArgs.length=lx (x.fArgs.map fB) qa:=by rw[hT];simp only;rw[List.take_of_length_le (by simp)]
  clear hT
  refine kC (n) (rs:=[.cell 2 37]) Tryz.checked.mixed Tryz.func129 Tryz.ntmps129 rfl rfl rfl rfl rfl ?_
  refine W1 ?_
  refine W3 ?_
  refine l6 n 3 2 [] (.inl rfl) (by simp) ?_
  refine aT (ι:=Nat) Tryz.checked.mixed rfl [1,2,3,11,12,13] (fun i=>[.c (.ptr (0,1) 0),.c (.ptr (0,2) 0),.c (.bS (0,3) (T i)),.c (.d (.sl (x.fArgs.map ay.enc))),.c (.d (.i .i64 x.fArgs.length)),.c (.d (.i .i64 i))])
   (fun i=>[.seed n,.box [.d (.i .i64 x.aK),.d (.s x.bL),.d (.s x.fName),.d (.i .i64 x.fN),.d (.i .i64 x.fType.aK),.d (.s x.fType.fName),.d (.sl (x.fType.fArgs.map au.enc)),.d (.sl (x.fArgs.map ay.enc)),.d (.sl (x.aP.map aR.enc))],.box [.d (.s []),.bO []],.fF n 2 (T i)]::S)
   (fun i=>i≤x.fArgs.length) (fun i=>x.fArgs.length-i) 0 (by rw[hT0];rfl) (by rw[hT0];rfl) (Nat.zero_le _) ?_
  intro i hi
  have hl:=ig i
  refine W1 ?_
  refine S0 (fun hb h=>?_) fun hb h=>?_
  ·have hi':i<x.fArgs.length:=by omega
   have hm:=List.getElem_mem hi'
   have hez:=O0 hm
   have hs:=hTs i hi'
   refine W3 ?_
   refine C1 (ih x.fArgs[i] (by have:=List.sizeOf_lt_of_mem hm;omega) (qa+jq ((x.fArgs.map fB).take i)) (hoa _ hm) (by omega)) ?_
   refine W3 ?_
   rw[hs]
   exact dh 4 (by decide) (i+1) (by omega) rfl rfl rfl rfl (by omega)
  have hi':i=x.fArgs.length:=by omega
  subst hi'
  clear hTs hi h hb
  have hTT:=hTr x.fArgs.length
  have hxe:=Ht x
  refine S0 (fun hb h=>?_) fun hb h=>?_
  ·rw[if_pos h] at hxe
   rw[hxe]
   have hb:=hfi.2.2.2.1
   rw[if_pos h] at hb
   refine C1 (Kh x.fN (by omega) (by omega)) ?_
   refine C1 (dI _ n) ?_
   rfl
  have k1:=h
  rw[if_neg h] at hxe
  refine S0 (fun hb h=>?_) fun hb h=>?_
  ·rw[if_pos h] at hxe
   rw[hxe]
   refine S0 (fun hb h=>?_) fun hb h=>?_
   ·rw[if_pos h]
    refine C1 (dI _ n) ?_
    rfl
   ·rw[if_neg h]
    refine C1 (dI _ n) ?_
    rfl
  have k2:=h
  rw[if_neg h] at hxe
  refine S0 (fun hb h=>?_) fun hb h=>?_
  ·rw[if_pos h] at hxe
   rw[hxe]
   refine C1 (dI _ n) ?_
   rfl
  have k3:=h
  clear hxe
  refine S0 (fun hb h=>?_) fun hb h=>?_
  ·have hx:=lK k1 k2 k3 (by omega)
   have hh:ji x.aK x.bL x.fName x.fType=aV [oZ,x.fName]:=by rw[kE h];rfl
   rw[hh] at hx yZ
   refine W3 ?_
   refine bJ rfl (cB.args (oo [oZ,x.fName] (by simp) n (n+1) _ _) (.cons (om n _) .nil)) ?_
   have O1:(lx (aV [oZ,x.fName]) (n+1)).length=2:=by rw[iw];rfl
   have O3:=lq (l:=aV [oZ,x.fName]) (n:=n+1)
   refine W1 ?_
   refine W3 ?_
   refine bJ rfl (jZ 0 5 _ _) ?_
   refine W1 ?_
   rw[hx,hTe,yZ,eu,dJ,mW]
  have k4:=h
  refine S0 (fun hb h=>?_) fun hb h=>?_
  ·have hx:=lK k1 k2 k3 (by omega)
   have hh:ji x.aK x.bL x.fName x.fType=aV [jl,x.bL,x.fName]:=by rw[kE h];rfl
   rw[hh] at hx yZ
   refine W3 ?_
   refine bJ rfl (cB.args (oo [jl,x.bL,x.fName] (by simp) n (n+1) _ _) (.cons (om n _) .nil)) ?_
   have O1:(lx (aV [jl,x.bL,x.fName]) (n+1)).length=3:=by rw[iw];rfl
   have O3:=lq (l:=aV [jl,x.bL,x.fName]) (n:=n+1)
   refine W1 ?_
   refine W3 ?_
   refine bJ rfl (jZ 0 5 _ _) ?_
   refine W1 ?_
   rw[hx,hTe,yZ,eu,dJ,mW]
  have k5:=h
  refine S0 (fun hb h=>?_) fun hb h=>?_
  ·have hx:=lK k1 k2 k3 (by omega)
   have hh:ji x.aK x.bL x.fName x.fType=aV [sD,x.fName]:=by rw[kE h];rfl
   rw[hh] at hx yZ
   refine W3 ?_
   refine bJ rfl (cB.args (oo [sD,x.fName] (by simp) n (n+1) _ _) (.cons (om n _) .nil)) ?_
   have O1:(lx (aV [sD,x.fName]) (n+1)).length=2:=by rw[iw];rfl
   have O3:=lq (l:=aV [sD,x.fName]) (n:=n+1)
   refine W1 ?_
   refine W3 ?_
   refine bJ rfl (jZ 0 5 _ _) ?_
   refine W1 ?_
   rw[hx,hTe,yZ,eu,dJ,mW]
  have k6:=h
  refine S0 (fun hb h=>?_) fun hb h=>?_
  ·have hx:=Ht x
   rw[if_neg k1,if_neg k2,if_neg k3,if_neg (by omega)] at hx
   have hh:ji x.aK x.bL x.fName x.fType=aV [kM]:=by rw[kE h];rfl
   rw[hh] at hx yZ
   obtain⟨B,hB⟩:∃B:Nat→List (List D),B=fun i=>lx (x.fArgs.map fB++(x.aP.map yY).take i) qa:=⟨_,rfl⟩
   obtain⟨L,hL⟩:∃L:Nat→Nat,L=fun i=>qa+jq (x.fArgs.map fB++(x.aP.map yY).take i):=⟨_,rfl⟩
   have hB0:T x.fArgs.length=B 0:=by rw[hTe,hB];simp only[List.take_zero,List.append_nil]
   have hBl:∀i,(B i).length≤i+x.fArgs.length:=fun i=>by
    rw[hB];simp only[iw,List.length_append,List.length_map]
    have:=List.length_take_le i (x.aP.map yY)
    omega
   have hBr:∀i,∀r∈B i,r.length=2:=fun i=>by rw[hB];exact lq
   have hBs:∀i (hi:i<x.aP.length),B i++[[.s [],.ol (L i) (lx ([bT x.aP[i].dL]++aV x.aP[i].aA++[fB x.aP[i].fBody]) (L i+1))]]=B (i+1):=fun i hi=>by
    have:=zw (base:=x.fArgs.map fB) (l:=x.aP.map yY) (i:=i) (by rw[List.length_map];exact hi) qa
    rw[List.getElem_map,aaR,eu,dJ] at this
    rw[hB,hL];exact this
   have hBe:B x.aP.length=lx (x.fArgs.map fB++x.aP.map yY) qa:=by rw[hB];simp only;rw[List.take_of_length_le (by simp)]
   clear hB hL hTT
   refine W3 ?_
   refine bJ rfl (cB.args (oo [kM] (by simp) n (n+1) _ _) (.cons (om n _) .nil)) ?_
   have O1:(lx (aV [kM]) (n+1)).length=1:=by rw[iw];rfl
   have O3:=lq (l:=aV [kM]) (n:=n+1)
   refine W1 ?_
   rw[hB0]
   obtain⟨HD,hHD⟩:∃HD,HD=lx (aV [kM]) (n+1):=⟨_,rfl⟩
   rw[←hHD] at O1 O3 ⊢
   refine aT (ι:=Nat) Tryz.checked.mixed rfl [2,3,6,69,70,71] (fun i=>[.c (.ptr (0,2) 0),.c (.bS (0,3) (B i)),.c (.bS (0,5) HD),.c (.d (.sl (x.aP.map aR.enc))),.c (.d (.i .i64 x.aP.length)),.c (.d (.i .i64 i))])
    (fun i=>[.seed n,.box [.d (.i .i64 x.aK),.d (.s x.bL),.d (.s x.fName),.d (.i .i64 x.fN),.d (.i .i64 x.fType.aK),.d (.s x.fType.fName),.d (.sl (x.fType.fArgs.map au.enc)),.d (.sl (x.fArgs.map ay.enc)),.d (.sl (x.aP.map aR.enc))],.box [.d (.s []),.bO []],.fF n 2 (B i),.seed n,.fF n 2 HD]::S)
    (fun i=>i≤x.aP.length) (fun i=>x.aP.length-i) 0 rfl rfl (Nat.zero_le _) ?_
   intro i hi
   have hl:=hBl i
   have hr:=hBr i
   refine W1 ?_
   refine S0 (fun hb h=>?_) fun hb h=>?_
   ·have hi':i<x.aP.length:=by omega
    have hm:=List.getElem_mem hi'
    have hez:=Mj hm
    have hea:=Aq x.aP[i]
    have hs:=hBs i hi'
    have hak:=Ta _ hm
    rw[sw,Bool.and_eq_true,Bool.and_eq_true] at hak
    have hls:=List.sizeOf_lt_of_mem hm
    have hlb:=aR.nW x.aP[i]
    refine W3 ?_
    refine nK (AQ [x.aP[i].dL] (by simp) 0 (L i+1)) (.cons (om n _) .nil) ?_
    refine W1 ?_
    refine C1 (AQ x.aP[i].aA (by omega) 0 (L i+1+jq (aV [x.aP[i].dL]))) ?_
    refine C1 (ih x.aP[i].fBody (by omega) (L i+1+jq (aV [x.aP[i].dL]++aV x.aP[i].aA)) hak.2.2 (by omega)) ?_
    refine W3 ?_
    refine aZ (Vg (L i) n [(0,lx (aV [x.aP[i].dL]) (L i+1)),(0,lx (aV x.aP[i].aA) (L i+1+jq (aV [x.aP[i].dL]))),(n,[[.s (fB x.aP[i].fBody).bf,.ol (L i+1+jq (aV [x.aP[i].dL]++aV x.aP[i].aA)) (lx (fB x.aP[i].fBody).ah (L i+1+jq (aV [x.aP[i].dL]++aV x.aP[i].aA)+1))]])] (by simp) ?_ ?_) ?_
    ·intro p hp
     simp only[List.mem_cons,List.not_mem_nil,or_false] at hp
     rcases hp with rfl|rfl|rfl
     ·exact lq
     ·exact lq
     ·simp
    ·simp only[List.map_cons,List.map_nil,List.flatten_cons,List.flatten_nil,List.length_append,iw,jH,List.length_cons,List.length_nil];omega
    refine W1 ?_
    refine C1 (lu _) ?_
    refine W3 ?_
    have hrow:[lx (aV [x.aP[i].dL]) (L i+1),lx (aV x.aP[i].aA) (L i+1+jq (aV [x.aP[i].dL])),[[.s (fB x.aP[i].fBody).bf,.ol (L i+1+jq (aV [x.aP[i].dL]++aV x.aP[i].aA)) (lx (fB x.aP[i].fBody).ah (L i+1+jq (aV [x.aP[i].dL]++aV x.aP[i].aA)+1))]]].flatten=lx ([bT x.aP[i].dL]++aV x.aP[i].aA++[fB x.aP[i].fBody]) (L i+1):=by
     have e1:[bT x.aP[i].dL]=aV [x.aP[i].dL]:=rfl
     rw[e1,mW,mW,jO (fB x.aP[i].fBody) [],mV,jW (fB x.aP[i].fBody)]
     simp only[List.flatten_cons,List.flatten_nil,List.append_nil,List.append_assoc]
    rw[hrow,hs]
    exact dh 6 (by decide) (i+1) (by omega) rfl rfl rfl rfl (by omega)
   ·have hi':i=x.aP.length:=by omega
    subst hi'
    have hr2:=hBr x.aP.length
    refine W3 ?_
    refine bJ rfl (jZ 0 5 _ _) ?_
    refine W1 ?_
    rw[hx,hBe,yZ,hHD,eu,dJ,List.append_assoc,mW (aV [kM])]
  have k7:=h
  refine S0 (fun hb h=>?_) fun hb h=>?_
  ·have hx:=lK k1 k2 k3 (by omega)
   have hh:ji x.aK x.bL x.fName x.fType=aV [sF,x.fName]:=by rw[kE h];rfl
   rw[hh] at hx yZ
   refine W3 ?_
   refine bJ rfl (cB.args (oo [sF,x.fName] (by simp) n (n+1) _ _) (.cons (om n _) .nil)) ?_
   have O1:(lx (aV [sF,x.fName]) (n+1)).length=2:=by rw[iw];rfl
   have O3:=lq (l:=aV [sF,x.fName]) (n:=n+1)
   refine W1 ?_
   refine W3 ?_
   refine bJ rfl (jZ 0 5 _ _) ?_
   refine W1 ?_
   rw[hx,hTe,yZ,eu,dJ,mW]
  have k8:=h
  refine S0 (fun hb h=>?_) fun hb h=>?_
  ·have hx:=lK k1 k2 k3 (by omega)
   have hh:ji x.aK x.bL x.fName x.fType=aV [wX]:=by rw[kE h];rfl
   rw[hh] at hx yZ
   refine W3 ?_
   refine bJ rfl (cB.args (oo [wX] (by simp) n (n+1) _ _) (.cons (om n _) .nil)) ?_
   have O1:(lx (aV [wX]) (n+1)).length=1:=by rw[iw];rfl
   have O3:=lq (l:=aV [wX]) (n:=n+1)
   refine W1 ?_
   refine W3 ?_
   refine bJ rfl (jZ 0 5 _ _) ?_
   refine W1 ?_
   rw[hx,hTe,yZ,eu,dJ,mW]
  have k9:=h
  refine S0 (fun hb h=>?_) fun hb h=>?_
  ·have hx:=lK k1 k2 k3 (by omega)
   have hh:ji x.aK x.bL x.fName x.fType=aV [x.fName]:=by rw[kE h];rfl
   rw[hh] at hx yZ
   refine W3 ?_
   refine bJ rfl (cB.args (oo [x.fName] (by simp) n (n+1) _ _) (.cons (om n _) .nil)) ?_
   have O1:(lx (aV [x.fName]) (n+1)).length=1:=by rw[iw];rfl
   have O3:=lq (l:=aV [x.fName]) (n:=n+1)
   refine W1 ?_
   refine W3 ?_
   refine bJ rfl (jZ 0 5 _ _) ?_
   refine W1 ?_
   rw[hx,hTe,yZ,eu,dJ,mW]
  have k10:=h
  refine S0 (fun hb h=>?_) fun hb h=>?_
  ·have hx:=lK k1 k2 k3 (by omega)
   have hh:ji x.aK x.bL x.fName x.fType=aV [o9,x.bL]:=by rw[kE h];rfl
   rw[hh] at hx yZ
   refine W3 ?_
   refine bJ rfl (cB.args (oo [o9,x.bL] (by simp) n (n+1) _ _) (.cons (om n _) .nil)) ?_
   have O1:(lx (aV [o9,x.bL]) (n+1)).length=2:=by rw[iw];rfl
   have O3:=lq (l:=aV [o9,x.bL]) (n:=n+1)
   refine W1 ?_
   refine W3 ?_
   refine bJ rfl (jZ 0 5 _ _) ?_
   refine W1 ?_
   rw[hx,hTe,yZ,eu,dJ,mW]
  have k11:=h
  refine S0 (fun hb h=>?_) fun hb h=>?_
  ·have hx:=lK k1 k2 k3 (by omega)
   have hh:ji x.aK x.bL x.fName x.fType=[bT sZ,dw x.fType]:=by rw[kE h];rfl
   rw[hh] at hx yZ
   have hty:=hfi.2.2.2.2.1
   rw[if_pos h] at hty
   refine C1 (dI _ (n+1)) ?_
   refine C1 (lC x.fType (n+1+1) (vM hty) (by omega)) ?_
   refine W3 ?_
   refine bJ rfl (jZ 0 4 _ _) ?_
   refine W1 ?_
   rw[hx,hTe,yZ,eu,dJ,mW]
   simp only[jO,mV,jW,kG,kH,jU,Yv,aaM,sZ,List.cons_append,List.nil_append]
  ·have:=hfi.1
   omega
theorem yP(x:ay)(n:Nat)(hok:iT x=true)(hsz:x.sz≤4194304):aI Tryz.prog 129 [x.v] (.agg [.d (.s (fB x).bf),.d (.ol n (lx (fB x).ah (n+1)))]):=Mk _ x (Nat.lt_succ_self _) n hok hsz
end Go.Proofs.YtocpgjlbagncjaaGreatDoor
namespace Go.Proofs.YtocpgjlbagncjaaGreatDoor
open Go Go.Ab
theorem qR(hd:List aj)(xs:List ay)(S:Store)(hA:∀t∈xs,aI Tryz.prog 124 [t.v] (fB t).v)(hl:xs.length≤4194304)(hh:hd.length≤4):cB Tryz.prog 205 [.c (.bO (hd.map aj.enc)),.c (.d (.sl (xs.map ay.enc)))] S
 (fun r S'=>r=.agg [.d (.s []),.d (.sl ((hd++xs.map fB).map aj.enc))]∧S'=S):=by
 obtain⟨T,hT⟩:∃T:Nat→List (List D),T=fun i=>(hd++(xs.map fB).take i).map aj.enc:=⟨_,rfl⟩
 have hT0:T 0=hd.map aj.enc:=by rw[hT];simp only[List.take_zero,List.append_nil]
 have ig:∀i,(T i).length≤i+hd.length:=fun i=>by
  rw[hT];simp only[List.length_map,List.length_append]
  have:=List.length_take_le i (xs.map fB)
  omega
 have hTs:∀i (hi:i<xs.length),T i++[[.s (fB xs[i]).bf,.sl ((fB xs[i]).ah.map aj.enc)]]=T (i+1):=fun i hi=>by
  have:=jI (base:=hd) (l:=xs.map fB) (i:=i) (by rw[List.length_map];exact hi)
  rw[List.getElem_map] at this
  rw[hT];exact this
 have hTe:T xs.length=(hd++xs.map fB).map aj.enc:=by rw[hT];simp only;rw[List.take_of_length_le (by simp)]
 clear hT
 rw[←hT0]
 rw[←hTe]
 refine aG (rs:=[.cell 4 37]) Tryz.checked.mixed Tryz.func205 Tryz.ntmps205 rfl rfl rfl rfl rfl ?_
 refine W1 ?_
 refine rO 1 1 2 (T 0) [.d (.s []),.bO (T 0)] rfl rfl (by rw[hT0];exact gT) ?_
 refine aT (ι:=Nat) Tryz.checked.mixed rfl [1,4,5,6] (fun i=>[.c (.d (.sl (xs.map ay.enc))),.c (.ptr (0,0) 0),.c (.ptr (0,1) 0),.c (.d (.i .i64 i))])
  (fun i=>[.box [.d (.s []),.bO []],.box [.d (.s []),.bS (0,2) (T i)],.tok 2 (T i)]::S)
  (fun i=>i≤xs.length) (fun i=>xs.length-i) 0 rfl rfl (Nat.zero_le _) ?_
 intro i hi
 have hl:=ig i
 refine W1 ?_
 refine S0 (fun hb h=>?_) fun hb h=>?_
 ·have hi':i<xs.length:=by omega
  have hs:=hTs i hi'
  refine W3 ?_
  refine C1 (hA xs[i] (List.getElem_mem hi')) ?_
  refine W3 ?_
  rw[hs]
  exact bP (i+1) (by omega) rfl rfl (by omega)
 ·have hi':i=xs.length:=by omega
  subst hi'
  rfl
theorem Tc(hd:List aj)(xs:List ay)(bZ:List Ab.Obj)(Ω:Store)(hA:∀t∈xs,aI Tryz.prog 124 [t.v] (fB t).v)(hl:xs.length≤4194304)(hh:hd.length≤4):cB Tryz.prog 205 [.c (.bO (hd.map aj.enc)),.c (.d (.sl (xs.map ay.enc)))] (bZ::Ω)
 (fun r S'=>r=.agg [.d (.s []),.bS (0,bZ.length+2) ((hd++xs.map fB).map aj.enc)]∧S'=(bZ++[.box [.d (.s []),.bS (0,bZ.length+2) ((hd++xs.map fB).map aj.enc)],.box [.d (.s []),.bS (0,bZ.length+2) ((hd++xs.map fB).map aj.enc)],.tok 2 ((hd++xs.map fB).map aj.enc)])::Ω):=by
 obtain⟨T,hT⟩:∃T:Nat→List (List D),T=fun i=>(hd++(xs.map fB).take i).map aj.enc:=⟨_,rfl⟩
 have hT0:T 0=hd.map aj.enc:=by rw[hT];simp only[List.take_zero,List.append_nil]
 have ig:∀i,(T i).length≤i+hd.length:=fun i=>by
  rw[hT];simp only[List.length_map,List.length_append]
  have:=List.length_take_le i (xs.map fB)
  omega
 have hTs:∀i (hi:i<xs.length),T i++[[.s (fB xs[i]).bf,.sl ((fB xs[i]).ah.map aj.enc)]]=T (i+1):=fun i hi=>by
  have:=jI (base:=hd) (l:=xs.map fB) (i:=i) (by rw[List.length_map];exact hi)
  rw[List.getElem_map] at this
  rw[hT];exact this
 have hTe:T xs.length=(hd++xs.map fB).map aj.enc:=by rw[hT];simp only;rw[List.take_of_length_le (by simp)]
 clear hT
 rw[←hT0]
 rw[←hTe]
 refine OJ (rs:=[.cell 4 37]) Tryz.checked.mixed Tryz.func205 Tryz.ntmps205 rfl rfl rfl rfl rfl ?_
 refine W1 ?_
 refine rO 1 1 2 (T 0) [.d (.s []),.bO (T 0)] rfl rfl (by rw[hT0];exact gT) ?_
 refine aT (ι:=Nat) Tryz.checked.mixed rfl [1,4,5,6] (fun i=>[.c (.d (.sl (xs.map ay.enc))),.c (.ptr (0,0) 0),.c (.ptr (0,1) 0),.c (.d (.i .i64 i))])
  (fun i=>[.box [.d (.s []),.bO []],.box [.d (.s []),.bS (0,2) (T i)],.tok 2 (T i)]::bZ::Ω)
  (fun i=>i≤xs.length) (fun i=>xs.length-i) 0 rfl rfl (Nat.zero_le _) ?_
 intro i hi
 have hl:=ig i
 refine W1 ?_
 refine S0 (fun hb h=>?_) fun hb h=>?_
 ·have hi':i<xs.length:=by omega
  have hs:=hTs i hi'
  refine W3 ?_
  refine C1 (hA xs[i] (List.getElem_mem hi')) ?_
  refine W3 ?_
  rw[hs]
  exact bP (i+1) (by omega) rfl rfl (by omega)
 ·have hi':i=xs.length:=by omega
  subst hi'
  exact⟨rfl,rfl⟩
theorem Ml:∀N:Nat,∀x:ay,SizeOf.sizeOf x<N→iT x=true→x.sz≤4194304→aI Tryz.prog 124 [x.v] (fB x).v
 |0=>fun x h=>by omega
 |N+1=>by
  have ih:=Ml N
  intro x hn hok hsz S
  have jS:=ay.gM x
  have zS:=ay.oN x
  have hzz:=xK x
  rw[x9,Bool.and_eq_true,Bool.and_eq_true] at hok
  obtain⟨hfi,hoa,Ta⟩:=hok
  have hfi:=gH hfi
  have hoa:=DV.1 hoa
  have Ta:=FL.1 Ta
  have hA:∀t∈x.fArgs,aI Tryz.prog 124 [t.v] (fB t).v:=fun t ht=>ih t (by have:=List.sizeOf_lt_of_mem ht;omega) (hoa t ht) (by have:=O0 ht;omega)
  have hxe:=Ht x
  refine aG (rs:=[.cell 2 37]) Tryz.checked.mixed Tryz.func124 Tryz.ntmps124 rfl rfl rfl rfl rfl ?_
  refine W1 ?_
  refine S0 (fun hb h=>?_) fun hb h=>?_
  ·rw[if_pos h] at hxe
   rw[hxe]
   have hb:=hfi.2.2.2.1
   rw[if_pos h] at hb
   refine C1 (xL x.fN (by omega) (by omega)) ?_
   refine C1 (cK _) ?_
   rfl
  have k1:=h
  rw[if_neg h] at hxe
  refine S0 (fun hb h=>?_) fun hb h=>?_
  ·rw[if_pos h] at hxe
   rw[hxe]
   have hb:=hfi.2.2.2.1
   rw[if_neg k1,if_pos h] at hb
   rcases hb with e|e
   ·rw[e]
    simp -implicitDefEqProofs (disch:=omega) only[go_sem,List.getD_cons_zero]
    refine W3 ?_
    refine C1 (cK _) ?_
    rfl
   ·rw[e]
    simp -implicitDefEqProofs (disch:=omega) only[go_sem,List.getD_cons_zero,List.getD_cons_succ]
    refine W3 ?_
    refine C1 (cK _) ?_
    rfl
  have k2:=h
  rw[if_neg h] at hxe
  refine S0 (fun hb h=>?_) fun hb h=>?_
  ·rw[if_pos h] at hxe
   rw[hxe]
   refine C1 (cK _) ?_
   rfl
  have k3:=h
  clear hxe
  refine S0 (fun hb h=>?_) fun hb h=>?_
  ·have hx:=lK k1 k2 k3 (by omega)
   have hh:ji x.aK x.bL x.fName x.fType=[bT oZ,bT x.fName]:=by rw[kE h];rfl
   rw[hh] at hx
   refine C1 (cK _) ?_
   refine C1 (cK _) ?_
   have hE:=fun S=>qR [bT oZ,bT x.fName] x.fArgs S hA (by omega) (by simp)
   simp only[List.map_cons,List.map_nil,fM] at hE
   refine bJ rfl (hE _) ?_
   refine W1 ?_
   rw[hx]
   rfl
  have k4:=h
  refine S0 (fun hb h=>?_) fun hb h=>?_
  ·have hx:=lK k1 k2 k3 (by omega)
   have hh:ji x.aK x.bL x.fName x.fType=[bT jl,bT x.bL,bT x.fName]:=by rw[kE h];rfl
   rw[hh] at hx
   refine C1 (cK _) ?_
   refine C1 (cK _) ?_
   refine C1 (cK _) ?_
   have hE:=fun S=>qR [bT jl,bT x.bL,bT x.fName] x.fArgs S hA (by omega) (by simp)
   simp only[List.map_cons,List.map_nil,fM] at hE
   refine bJ rfl (hE _) ?_
   refine W1 ?_
   rw[hx]
   rfl
  have k5:=h
  refine S0 (fun hb h=>?_) fun hb h=>?_
  ·have hx:=lK k1 k2 k3 (by omega)
   have hh:ji x.aK x.bL x.fName x.fType=[bT sD,bT x.fName]:=by rw[kE h];rfl
   rw[hh] at hx
   refine C1 (cK _) ?_
   refine C1 (cK _) ?_
   have hE:=fun S=>qR [bT sD,bT x.fName] x.fArgs S hA (by omega) (by simp)
   simp only[List.map_cons,List.map_nil,fM] at hE
   refine bJ rfl (hE _) ?_
   refine W1 ?_
   rw[hx]
   rfl
  have k6:=h
  refine S0 (fun hb h=>?_) fun hb h=>?_
  ·have hx:=lK k1 k2 k3 (by omega)
   have hh:ji x.aK x.bL x.fName x.fType=[bT sF,bT x.fName]:=by rw[kE h];rfl
   rw[hh] at hx
   refine C1 (cK _) ?_
   refine C1 (cK _) ?_
   have hE:=fun S=>qR [bT sF,bT x.fName] x.fArgs S hA (by omega) (by simp)
   simp only[List.map_cons,List.map_nil,fM] at hE
   refine bJ rfl (hE _) ?_
   refine W1 ?_
   rw[hx]
   rfl
  have k8:=h
  refine S0 (fun hb h=>?_) fun hb h=>?_
  ·have hx:=lK k1 k2 k3 (by omega)
   have hh:ji x.aK x.bL x.fName x.fType=[bT wX]:=by rw[kE h];rfl
   rw[hh] at hx
   refine C1 (cK _) ?_
   have hE:=fun S=>qR [bT wX] x.fArgs S hA (by omega) (by simp)
   simp only[List.map_cons,List.map_nil,fM] at hE
   refine bJ rfl (hE _) ?_
   refine W1 ?_
   rw[hx]
   rfl
  have k9:=h
  refine S0 (fun hb h=>?_) fun hb h=>?_
  ·have hx:=lK k1 k2 k3 (by omega)
   have hh:ji x.aK x.bL x.fName x.fType=[bT x.fName]:=by rw[kE h];rfl
   rw[hh] at hx
   refine C1 (cK _) ?_
   have hE:=fun S=>qR [bT x.fName] x.fArgs S hA (by omega) (by simp)
   simp only[List.map_cons,List.map_nil,fM] at hE
   refine bJ rfl (hE _) ?_
   refine W1 ?_
   rw[hx]
   rfl
  have k10:=h
  refine S0 (fun hb h=>?_) fun hb h=>?_
  ·have hx:=lK k1 k2 k3 (by omega)
   have hh:ji x.aK x.bL x.fName x.fType=[bT o9,bT x.bL]:=by rw[kE h];rfl
   rw[hh] at hx
   refine C1 (cK _) ?_
   refine C1 (cK _) ?_
   have hE:=fun S=>qR [bT o9,bT x.bL] x.fArgs S hA (by omega) (by simp)
   simp only[List.map_cons,List.map_nil,fM] at hE
   refine bJ rfl (hE _) ?_
   refine W1 ?_
   rw[hx]
   rfl
  have k11:=h
  refine S0 (fun hb h=>?_) fun hb h=>?_
  ·have hx:=lK k1 k2 k3 (by omega)
   have hh:ji x.aK x.bL x.fName x.fType=[bT sZ,dw x.fType]:=by rw[kE h];rfl
   rw[hh] at hx
   refine C1 (cK _) ?_
   refine C1 (lW x.fType (by omega)) ?_
   have hE:=fun S=>qR [bT sZ,dw x.fType] x.fArgs S hA (by omega) (by simp)
   simp only[List.map_cons,List.map_nil,fM,aj.aD (dw x.fType)] at hE
   refine bJ rfl (hE _) ?_
   refine W1 ?_
   rw[hx]
   show _=V.agg [.d (.s []),.d (.sl (List.map aj.enc (bT sZ::dw x.fType::x.fArgs.map fB)))]
   simp only[List.cons_append,List.nil_append,List.map_cons,fM,aj.aD (dw x.fType)]
   rfl
  have k12:=h
  have hk7:x.aK=7:=by have:=hfi.1;omega
  have hx:=Ht x
  rw[if_neg k1,if_neg k2,if_neg k3,if_neg (by omega)] at hx
  have hh:ji x.aK x.bL x.fName x.fType=[bT kM]:=by rw[kE hk7];rfl
  rw[hh] at hx
  refine C1 (cK _) ?_
  have hE:=fun bZ Ω=>Tc [bT kM] x.fArgs bZ Ω hA (by omega) (by simp)
  obtain⟨B,hB⟩:∃B:Nat→List (List D),B=fun i=>(([bT kM]++x.fArgs.map fB)++(x.aP.map yY).take i).map aj.enc:=⟨_,rfl⟩
  have hB0:([bT kM]++x.fArgs.map fB).map aj.enc=B 0:=by rw[hB];simp only[List.take_zero,List.append_nil]
  have hBl:∀i,(B i).length≤i+x.fArgs.length+1:=fun i=>by
   rw[hB];simp only[List.length_append,List.length_map,List.length_cons,List.length_nil]
   have:=List.length_take_le i (x.aP.map yY)
   omega
  have hBr:∀i,∀r∈B i,r.length=2:=fun i=>by rw[hB];exact gT
  have hBs:∀i (hi:i<x.aP.length),B i++[[.s [],.sl (([bT x.aP[i].dL]++aV x.aP[i].aA++[fB x.aP[i].fBody]).map aj.enc)]]=B (i+1):=fun i hi=>by
   have:=jI (base:=[bT kM]++x.fArgs.map fB) (l:=x.aP.map yY) (i:=i) (by rw[List.length_map];exact hi)
   rw[List.getElem_map,aaR,eu,dJ] at this
   rw[hB];exact this
  have hBe:B x.aP.length=([bT kM]++x.fArgs.map fB++x.aP.map yY).map aj.enc:=by rw[hB];simp only;rw[List.take_of_length_le (by simp)]
  clear hB
  simp only[hB0] at hE
  simp only[List.map_cons,List.map_nil,fM] at hE
  refine bJ rfl (hE _ _) ?_
  refine W1 ?_
  refine aT (ι:=Nat) Tryz.checked.mixed rfl [1,2,3,4] (fun i=>[.c (.ptr (0,0) 0),.c (.ptr (0,1) 0),.c (.ptr (0,5) 0),.c (.d (.i .i64 i))])
   (fun i=>[.box [.d (.i .i64 x.aK),.d (.s x.bL),.d (.s x.fName),.d (.i .i64 x.fN),.d (.i .i64 x.fType.aK),.d (.s x.fType.fName),.d (.sl (x.fType.fArgs.map au.enc)),.d (.sl (x.fArgs.map ay.enc)),.d (.sl (x.aP.map aR.enc))],.box [.d (.s []),.bO []],.box [.d (.s []),.bS (0,4) (B 0)],.box [.d (.s []),.bS (0,4) (B 0)],.tok 2 (B i),.box [.d (.s []),.bS (0,4) (B i)]]::S)
   (fun i=>i≤x.aP.length) (fun i=>x.aP.length-i) 0 rfl rfl (Nat.zero_le _) ?_
  intro i hi
  have hl:=hBl i
  have hr:=hBr i
  refine W1 ?_
  refine S0 (fun hb h=>?_) fun hb h=>?_
  ·have hi':i<x.aP.length:=by omega
   have hm:=List.getElem_mem hi'
   have hez:=Mj hm
   have hea:=Aq x.aP[i]
   have hs:=hBs i hi'
   have hak:=Ta _ hm
   rw[sw,Bool.and_eq_true,Bool.and_eq_true] at hak
   have hls:=List.sizeOf_lt_of_mem hm
   have hlb:=aR.nW x.aP[i]
   refine W3 ?_
   refine C1 (cK _) ?_
   refine W3 ?_
   refine aZ (Hr x.aP[i].aA (by omega)) ?_
   have hwr:=gT (l:=aV x.aP[i].aA)
   have hwl:(aV x.aP[i].aA).length=x.aP[i].aA.length:=by rw[jH]
   refine W1 ?_
   refine W3 ?_
   refine C1 (ih x.aP[i].fBody (by omega) hak.2.2 (by omega)) ?_
   refine W3 ?_
   simp only[List.cons_append,List.nil_append,List.map_cons,List.map_nil,List.map_append,fM,aj.aD (fB x.aP[i].fBody)] at hs
   rw[hs]
   exact dh 6 (by decide) (i+1) (by omega) rfl rfl rfl rfl (by omega)
  ·have hi':i=x.aP.length:=by omega
   subst hi'
   rw[hx,hBe]
   rfl
theorem tJ(x:ay)(hok:iT x=true)(hsz:x.sz≤4194304):aI Tryz.prog 124 [x.v] (fB x).v:=Ml _ x (Nat.lt_succ_self _) hok hsz
end Go.Proofs.YtocpgjlbagncjaaGreatDoor
namespace Go.Ab
theorem ay.bounds{x:ay}(h:x.sz≤4194304):x.bL.length≤4194304∧x.fName.length≤4194304∧x.fArgs.length≤4194304∧x.aP.length≤4194304∧x.fType.sz≤4194304:=by
 simp only[ay.sz,ay.aD,cu,bN,D.sz,List.length_map,au.dZ] at h
 omega
theorem ay.arg_b{x:ay}{i:Nat}(hi:i<x.fArgs.length)(h:x.sz≤4194304):x.fArgs[i].sz≤4194304:=by
 have hx:x.fArgs[i].sz≤bD (x.fArgs.map ay.enc):=dA (List.mem_map_of_mem (List.getElem_mem hi))
 simp only[ay.sz,ay.aD,cu,bN,D.sz,List.length_map] at h
 omega
theorem ay.QD{x:ay}{i:Nat}(hi:i<x.aP.length)(h:x.sz≤4194304):x.aP[i].sz≤4194304:=by
 have hx:x.aP[i].sz≤bD (x.aP.map aR.enc):=dA (List.mem_map_of_mem (List.getElem_mem hi))
 simp only[ay.sz,ay.aD,cu,bN,D.sz,List.length_map] at h
 omega
theorem aR.bounds{x:aR}(h:x.sz≤4194304):x.dL.length≤4194304∧x.aA.length≤4194304∧(∀s∈x.aA,s.length≤4194304)∧x.fBody.sz≤4194304:=by
 have hb:=aR.NA x
 simp only[aR.sz,aR.aD,cu,bN,D.sz,List.length_map] at h hb
 refine⟨by omega,by omega,fun s hs=> ?_,by omega⟩
 have:=rU hs
 omega
theorem Mq(k:Int):(k<1∨12<k)∨k=1∨k=2∨k=3∨k=4∨k=5∨k=6∨k=7∨k=8∨k=9∨k=10∨k=11∨k=12:=by omega
end Go.Ab
namespace Go.Proofs.YtocpgjlbagncjaaGreatDoor
open Go Go.Ab
set_option maxHeartbeats 8000000 in
theorem Td(x:ay)(hsz:x.sz≤4194304)(hc:x.fArgs.length≤300):aI Tryz.prog 275 [x.v] (.c (.d (.b (dec (uR x))))):=fun S=>by
 have hb0:=ay.bounds hsz
 have hz:xu x.fType→oh x.fType=false:=LY
 rcases Mq x.aK with hk|hk|hk|hk|hk|hk|hk|hk|hk|hk|hk|hk|hk
 ·have h1:¬uR x:=fun h=>by have:=h.1;omega
  refine aG (rs:=[.tmp 2]) Tryz.checked.mixed Tryz.func275 Tryz.ntmps275 rfl rfl rfl rfl rfl ?_
  refine W1 ?_
  refine C2 (JC x.aK) ?_
  refine S0 (fun hb h=>?_) fun hb h=>?_
  ·exact aB (aF h1).symm
  refine S0 (fun hb h=>?_) fun hb h=>?_
  ·exact aB (aF h1).symm
  ·omega
 all_goals
  refine aG (rs:=[.tmp 2]) Tryz.checked.mixed Tryz.func275 Tryz.ntmps275 rfl rfl rfl rfl rfl ?_
  simp -implicitDefEqProofs (disch:=omega) only[go_sem,hk]
  refine aZ (JC _) ?_
  simp -implicitDefEqProofs (disch:=omega) only[go_sem,hk,Yq,Yr]
  repeat' (first
   |with_reducible refine dU (fun hb=> ?_) (fun hb=> ?_)<;>have h:=hb<;>(try simp only[wf_preprocess] at h)<;>simp -implicitDefEqProofs (disch:=omega) only[go_sem,hb,hk]<;>refine W3 ?_
   |((with_reducible show fE _ _ 94 _ _ _ _);refine aZ (iD x.fName (by omega)) ?_;simp -implicitDefEqProofs (disch:=omega) only[go_sem,hk])
   |((with_reducible show fE _ _ 94 _ _ _ _);refine aZ (iD x.bL (by omega)) ?_;simp -implicitDefEqProofs (disch:=omega) only[go_sem,hk])
   |((with_reducible show fE _ _ 309 _ _ _ _);refine aZ (PY x.fName) ?_;simp -implicitDefEqProofs (disch:=omega) only[go_sem,hk])
   |((with_reducible show fE _ _ 185 _ _ _ _);refine aZ (Ga x.fType) ?_;simp -implicitDefEqProofs (disch:=omega) only[go_sem,hk])
   |((with_reducible show fE _ _ 255 _ _ _ _);refine aZ (xH x.fType (by omega)) ?_;simp -implicitDefEqProofs (disch:=omega) only[go_sem,hk])
   |(refine aB (Bool.eq_iff_iff.2 ?_);simp only[zR,uR,hk];grind [gH,jM,bA,aF]))
end Go.Proofs.YtocpgjlbagncjaaGreatDoor
namespace Go.Ab
theorem ay.agj{x:ay}{y:ay}(h:y∈x.fArgs):y.cnt+1≤x.cnt:=by
 rw[ay.qC x]
 have:∀xs:List ay,y∈xs→y.cnt≤ay.eG xs:=by
  intro xs
  induction xs with
  |nil=>intro h;cases h
  |cons z zs ih=>
   intro h
   rw[ay.eG]
   rcases List.mem_cons.1 h with e|e
   ·subst e;omega
   ·have:=ih e;omega
 have:=this _ h
 omega
theorem ay.agk{x:ay}{y:aR}(h:y∈x.aP):y.fBody.cnt+1≤x.cnt:=by
 rw[ay.qC x]
 have:∀xs:List aR,y∈xs→y.fBody.cnt≤aR.eG xs:=by
  intro xs
  induction xs with
  |nil=>intro h;cases h
  |cons z zs ih=>
   intro h
   rw[aR.eG]
   rcases List.mem_cons.1 h with e|e
   ·subst e;rw[aR.qC];omega
   ·have:=ih e;omega
 have:=this _ h
 omega
theorem ay.agl(x:ay):x.fArgs.length+1≤x.cnt:=by
 rw[ay.qC x]
 have:∀xs:List ay,xs.length≤ay.eG xs:=by
  intro xs
  induction xs with
  |nil=>simp
  |cons z zs ih=>rw[ay.eG,List.length_cons];have:=ay.qC z;omega
 have:=this x.fArgs
 omega
def YG(k:Int):Bool:=if k=5∨k=11 then true else false
def YH(k:Int):Bool:=if k=3∨k=4∨k=6∨k=5∨k=8∨k=10 then true else false
def YI(k:Int):Bool:=if k=1∨k=2 then true else false
def YJ(k:Int):Bool:=if k=1∨k=2∨k=3∨k=4∨k=6∨k=5∨k=7∨k=8∨k=10∨k=9∨k=11 then false else true
def YK(k:Int):Int:=if k=1∨k=2∨k=3 then 0 else if k=4∨k=6∨k=5 then -1 else if k=8∨k=10 then 2 else if k=9 then 3 else 1
def YL(k:Int):Bool:=if k=7 then true else false
end Go.Ab
namespace Go.Proofs.YtocpgjlbagncjaaGreatDoor
open Go Go.Ab
theorem Mr:∀n:Nat,∀x:ay,SizeOf.sizeOf x<n→x.sz≤4194304→x.cnt≤300→aI Tryz.prog 213 [x.v] (.c (.d (.b (iT x))))
 |0=>fun x h=>by omega
 |n+1=>by
  have ih:=Mr n
  intro x hn hsz hc S
  have hb0:=ay.bounds hsz
  have jS:=ay.gM x
  have zS:=ay.oN x
  have hl:=ay.agl x
  have h1:∀y∈x.fArgs,aI Tryz.prog 277 [y.v] (.c (.d (.b (!iT y)))):=fun y hy S=>by
   have hys:=List.sizeOf_lt_of_mem hy
   have hyc:=ay.agj hy
   have hyz:y.sz≤4194304:=by obtain⟨i,hi,e⟩:=List.getElem_of_mem hy;rw[←e];exact ay.arg_b hi hsz
   refine aG (rs:=[.tmp 2]) Tryz.checked.mixed Tryz.func277 Tryz.ntmps277 rfl rfl rfl rfl rfl ?_
   refine W1 ?_
   exact C4 (ih y (by omega) hyz (by omega))
  have h2:∀y∈x.aP,aI Tryz.prog 279 [y.v] (.c (.d (.b (!wE y)))):=fun y hy S=>by
   have hys:=List.sizeOf_lt_of_mem hy
   have hyb:=aR.nW y
   have hyc:=ay.agk hy
   have hyz:y.sz≤4194304:=by obtain⟨i,hi,e⟩:=List.getElem_of_mem hy;rw[←e];exact ay.QD hi hsz
   have hyy:=aR.bounds hyz
   refine aG (rs:=[.tmp 2]) Tryz.checked.mixed Tryz.func279 Tryz.ntmps279 rfl rfl rfl rfl rfl ?_
   refine W1 ?_
   refine C2 (iD y.dL (by omega)) ?_
   refine S0 (fun hb h=>?_) fun hb h=>?_
   ·exact aB (by rw[sw,h];rfl)
   have k1:=h
   refine C2 (oW y.aA (by omega) hyy.2.2.1) ?_
   refine S0 (fun hb h=>?_) fun hb h=>?_
   ·exact aB (by rw[sw,h];simp)
   have k2:=h
   refine C2 (ih y.fBody (by omega) hyy.2.2.2 (by omega)) ?_
   exact aB (by rw[sw,k1,k2];simp)
  refine aG (rs:=[.tmp 2]) Tryz.checked.mixed Tryz.func213 Tryz.ntmps213 rfl rfl rfl rfl rfl ?_
  refine W1 ?_
  refine C2 (Td x hsz (by omega)) ?_
  refine S0 (fun hb h=>?_) fun hb h=>?_
  ·exact aB (by rw[x9,aF h];rfl)
  have k1:=h
  refine W3 ?_
  refine bJ rfl (Gp 277 [] _ x.fArgs (fun y=> !iT y) (by omega) fun y hy=>oV.Np (h1 y hy)) ?_
  refine W1 ?_
  rw[JB]
  refine S0 (fun hb h=>?_) fun hb h=>?_
  ·exact aB (by rw[x9,h];simp)
  have k2:=h
  refine W3 ?_
  refine bJ rfl (G9 279 [] _ x.aP (fun y=> !wE y) (by omega) fun y hy=>oV.Np (h2 y hy)) ?_
  refine W1 ?_
  rw[LX]
  exact aB (by rw[x9,bA k1,k2];simp)
theorem Ki(x:ay)(hsz:x.sz≤4194304):aI Tryz.prog 127 [x.v] (.c (.d (.b (rV x)))):=fun S=>by
 refine aG (rs:=[.tmp 2]) Tryz.checked.mixed Tryz.func127 Tryz.ntmps127 rfl rfl rfl rfl rfl ?_
 refine W1 ?_
 refine C2 (LH x hsz) ?_
 refine S0 (fun hb h=>?_) fun hb h=>?_
 ·refine C2 (Mr _ x (Nat.lt_succ_self _) hsz (by omega)) ?_
  exact aB (by unfold rV;rw[bA (by omega)];rfl)
 ·exact aB (by unfold rV;rw[aF (by omega)];rfl)
theorem O4(k:Int):aI Tryz.prog 270 [.c (.d (.i .i64 k))] (.dY [(false,[.d (.b (YG k))]),(false,[.d (.b (YH k))]),(false,[.d (.b (YI k))]),(false,[.d (.b (YJ k))]),(false,[.d (.i .i64 (YK k))]),(false,[.d (.b (YL k))])]):=fun S=>by
 refine aG (rs:=[.tmp 2,.tmp 3,.tmp 4,.tmp 5,.tmp 6,.tmp 7]) Tryz.checked.mixed Tryz.func270 Tryz.ntmps270 rfl rfl rfl rfl rfl ?_
 refine W1 ?_
 repeat' (first
  |refine S0 (fun hb h=>?_) fun hb h=>?_
  |(unfold YG YH YI YJ YK YL;grind))
theorem Ms(t:au):aI Tryz.prog 239 [t.v] (.c (.d (.b (dec (xu t))))):=fun S=>by
 refine aG (rs:=[.tmp 2]) Tryz.checked.mixed Tryz.func239 Tryz.ntmps239 rfl rfl rfl rfl rfl ?_
 refine W1 ?_
 repeat' (first
  |refine S0 (fun hb h=>?_) fun hb h=>?_
  |(refine aB ?_;unfold xu;grind [bA,aF,gH,jM]))
theorem YM(s:List UInt8):aI Tryz.prog 271 [.c (.d (.s s))] (.c (.d (.b (dec (s∈ops))))):=fun S=>by
 refine aG (rs:=[.tmp 2]) Tryz.checked.mixed Tryz.func271 Tryz.ntmps271 rfl rfl rfl rfl rfl ?_
 refine W1 ?_
 refine W3 ?_
 exact C4 (qZ ops s (by decide))
theorem JG:∀n:Nat,∀x:ay,SizeOf.sizeOf x<n→x.sz≤4194304→∀l:Int,0≤l→l≤1048576→aI Tryz.prog 201 [x.v,.c (.d (.i .i64 l))] (.c (.d (.i .i64 (pV l x.cnt))))
 |0=>fun x h=>by omega
 |n+1=>by
  have ih:=JG n
  intro x hn hsz l hl hl2 S
  have hb0:=ay.bounds hsz
  have jS:=ay.gM x
  have zS:=ay.oN x
  have he:=ay.qC x
  refine aG (rs:=[.tmp 4]) Tryz.checked.mixed Tryz.func201 Tryz.ntmps201 rfl rfl rfl rfl rfl ?_
  refine W1 ?_
  refine aT (ι:=Nat×Int) Tryz.checked.mixed rfl [1,2,5] (fun y=>[.c (.d (.i .i64 y.2)),.c (.ptr (0,0) 0),.c (.d (.i .i64 y.1))]) (fun y=>[.box (x.enc.map .d)]::S)
   (fun y=>y.1≤x.fArgs.length∧(-1≤y.2∧y.2≤1048576)∧pV y.2 (ay.eG (x.fArgs.drop y.1))=pV (l-1) (ay.eG x.fArgs)) (fun y=>x.fArgs.length-y.1) (0,l-1) rfl ?_ ⟨Nat.zero_le _,by simp only;omega,rfl⟩ ?_
  ·exact Z1
  rintro⟨i,c⟩ ⟨p1,p2,p3⟩
  simp only at p1 p2 p3
  have out:(i=x.fArgs.length∨c<0)→c=pV (l-1) (ay.eG x.fArgs):=fun h=>by
   rcases h with h|h
   ·rw[h,List.drop_length,ay.eG,Hf p2.1] at p3
    exact p3
   ·rw[←p3,J6 h];omega
  have second:(i=x.fArgs.length∨c<0)→pV c (aR.eG x.aP)=pV l x.cnt:=fun h=>by
   rw[out h,FC,he]
   unfold pV
   split<;>split<;>(try split)<;>omega
  refine W1 ?_
  refine S0 (fun hb h=>?_) fun hb h=>?_
  ·have hi:i<x.fArgs.length:=by omega
   refine S0 (fun hb h=>?_) fun hb h=>?_
   ·have hs:=List.sizeOf_lt_of_mem (List.getElem_mem hi)
    have hr:=ND (l:=c) (c:=x.fArgs[i].cnt) (by omega)
    rw[ay.mU hi,←FC] at p3
    refine W3 ?_
    refine C2 (ih x.fArgs[i] (by omega) (ay.arg_b hi hsz) c (by omega) (by omega)) ?_
    exact bP (i+1,pV c x.fArgs[i].cnt) (by simp only;omega) rfl rfl ⟨by simp only;omega,by simp only;omega,p3⟩
   ·have p4:=second (.inr (by omega))
    clear second out p3
    refine aT (ι:=Nat×Int) Tryz.checked.mixed rfl [1,2,6] (fun y=>[.c (.d (.i .i64 y.2)),.c (.ptr (0,0) 0),.c (.d (.i .i64 y.1))]) (fun y=>[.box (x.enc.map .d)]::S)
     (fun y=>y.1≤x.aP.length∧(-1≤y.2∧y.2≤1048576)∧pV y.2 (aR.eG (x.aP.drop y.1))=pV l x.cnt) (fun y=>x.aP.length-y.1) (0,c) rfl ?_ ⟨Nat.zero_le _,by simp only;omega,p4⟩ ?_
    ·exact Z1
    clear p1 p2 p4
    rintro⟨i,d⟩ ⟨p1,p2,p3⟩
    simp only at p1 p2 p3
    refine W1 ?_
    refine S0 (fun hb h=>?_) fun hb h=>?_
    ·have hi:i<x.aP.length:=by omega
     refine S0 (fun hb h=>?_) fun hb h=>?_
     ·have hs:=List.sizeOf_lt_of_mem (List.getElem_mem hi)
      have hs':=aR.nW x.aP[i]
      have hr:=ND (l:=d) (c:=x.aP[i].fBody.cnt) (by omega)
      rw[aR.mU hi,←FC] at p3
      refine W3 ?_
      refine C2 (ih x.aP[i].fBody (by omega) (aR.bounds (ay.QD hi hsz)).2.2.2 d (by omega) (by omega)) ?_
      exact bP (i+1,pV d x.aP[i].fBody.cnt) (by simp only;omega) rfl rfl ⟨by simp only;omega,by simp only;omega,p3⟩
     ·rw[J6 (by omega)] at p3
      exact int_eq (by omega)
    ·have hi:i=x.aP.length:=by omega
     rw[hi,List.drop_length,aR.eG,Hf p2.1] at p3
     exact int_eq (by omega)
  ·have p4:=second (.inl (by omega))
   clear second out p3
   refine aT (ι:=Nat×Int) Tryz.checked.mixed rfl [1,2,6] (fun y=>[.c (.d (.i .i64 y.2)),.c (.ptr (0,0) 0),.c (.d (.i .i64 y.1))]) (fun y=>[.box (x.enc.map .d)]::S)
    (fun y=>y.1≤x.aP.length∧(-1≤y.2∧y.2≤1048576)∧pV y.2 (aR.eG (x.aP.drop y.1))=pV l x.cnt) (fun y=>x.aP.length-y.1) (0,c) rfl ?_ ⟨Nat.zero_le _,by simp only;omega,p4⟩ ?_
   ·exact Z1
   clear p1 p2 p4
   rintro⟨i,d⟩ ⟨p1,p2,p3⟩
   simp only at p1 p2 p3
   refine W1 ?_
   refine S0 (fun hb h=>?_) fun hb h=>?_
   ·have hi:i<x.aP.length:=by omega
    refine S0 (fun hb h=>?_) fun hb h=>?_
    ·have hs:=List.sizeOf_lt_of_mem (List.getElem_mem hi)
     have hs':=aR.nW x.aP[i]
     have hr:=ND (l:=d) (c:=x.aP[i].fBody.cnt) (by omega)
     rw[aR.mU hi,←FC] at p3
     refine W3 ?_
     refine C2 (ih x.aP[i].fBody (by omega) (aR.bounds (ay.QD hi hsz)).2.2.2 d (by omega) (by omega)) ?_
     exact bP (i+1,pV d x.aP[i].fBody.cnt) (by simp only;omega) rfl rfl ⟨by simp only;omega,by simp only;omega,p3⟩
    ·rw[J6 (by omega)] at p3
     exact int_eq (by omega)
   ·have hi:i=x.aP.length:=by omega
    rw[hi,List.drop_length,aR.eG,Hf p2.1] at p3
    exact int_eq (by omega)
end Go.Proofs.YtocpgjlbagncjaaGreatDoor
namespace Go.Proofs.YtocpgjlbagncjaaGreatDoor
open Go Go.Ab
set_option maxHeartbeats 8000000 in
theorem Vh:∀n:Nat,∀x:ay,SizeOf.sizeOf x<n→x.sz≤4194304→aI Tryz.prog 202 [x.v] (.c (.d (.b (iT x)))):=by
 intro n
 induction n with
 |zero=>intro x h;omega
 |succ n ih=>
  intro x hn hsz S
  have hb0:=ay.bounds hsz
  have jS:=ay.gM x
  have zS:=ay.oN x
  have he:=x9 x
  have hv0:=PX
  have hop:x.fName∈ops→validName x.fName=false:=SF
  refine(show(uR x→ ?T)→_ from fun tail=> ?main) ?tp
  case' main=>
   rcases Mq x.aK with hk|hk|hk|hk|hk|hk|hk|hk|hk|hk|hk|hk|hk
   ·have h1:iT x=false:=by rw[he,aF (fun h=>by have:=h.1;omega)];rfl
    refine aG (rs:=[.tmp 2]) Tryz.checked.mixed Tryz.func202 Tryz.ntmps202 rfl rfl rfl rfl rfl ?_
    refine W1 ?_
    refine C1 (O4 _) ?_
    refine C1 (Em _ _ _) ?_
    refine S0 (fun hb h=>?_) fun hb h=>?_
    ·rw[h1]
    ·omega
   all_goals
    have hf0:¬uR x→V.c (.d (.b false))=V.c (.d (.b (iT x))):=fun h=>aB (by rw[he,aF h];rfl)
    refine aG (rs:=[.tmp 2]) Tryz.checked.mixed Tryz.func202 Tryz.ntmps202 rfl rfl rfl rfl rfl ?_
    simp -implicitDefEqProofs (disch:=omega) only[go_sem,hk]
    refine aZ (O4 _) ?_
    simp -implicitDefEqProofs (disch:=omega) only[go_sem,hk,YG,YH,YI,YJ,YK,YL,or_false,or_true,true_or,false_or]
    refine aZ (Em _ _ _) ?_
    simp -implicitDefEqProofs (disch:=omega) only[go_sem,hk]
    repeat' (first
     |with_reducible refine dU (fun hb=> ?_) (fun hb=> ?_)<;>have h:=hb<;>(try simp only[wf_preprocess] at h)<;>simp -implicitDefEqProofs (disch:=omega) only[go_sem,hb,hk]<;>refine W3 ?_
     |((with_reducible show fE _ _ 84 _ _ _ _);refine aZ (iE x.fName (by omega)) ?_;simp -implicitDefEqProofs (disch:=omega) only[go_sem,hk])
     |((with_reducible show fE _ _ 84 _ _ _ _);refine aZ (iE x.bL (by omega)) ?_;simp -implicitDefEqProofs (disch:=omega) only[go_sem,hk])
     |((with_reducible show fE _ _ 271 _ _ _ _);refine aZ (YM x.fName) ?_;simp -implicitDefEqProofs (disch:=omega) only[go_sem,hk])
     |((with_reducible show fE _ _ 239 _ _ _ _);refine aZ (Ms x.fType) ?_;simp -implicitDefEqProofs (disch:=omega) only[go_sem,hk])
     |((with_reducible show fE _ _ 272 _ _ _ _);refine aZ (xI x.fType (by omega)) ?_;simp -implicitDefEqProofs (disch:=omega) only[go_sem,hk])
     |((with_reducible show fE _ _ 151 _ _ _ _);refine aZ (Em x.fN _ _) ?_;simp -implicitDefEqProofs (disch:=omega) only[go_sem,hk])
     |(refine hf0 fun hF=> ?_;simp only[uR,hk,or_false,or_true,true_or,false_or,and_true,true_and,if_true,if_false,↓reduceIte,Int.reduceEq,Int.reduceLT,Int.reduceLE] at hF;grind [gH,jM,bA,aF]))
   all_goals
    have hF:uR x:=by simp only[uR,hk,or_false,or_true,true_or,false_or,and_true,true_and,if_true,if_false,↓reduceIte,Int.reduceEq,Int.reduceLT,Int.reduceLE];grind [gH,jM,bA,aF]
    refine nN (st':=[.box (x.enc.map .d)]::S) [1,9] [.c (.ptr (0,0) 0),.c (.d (.i .i64 0))] rfl (by simp -implicitDefEqProofs (disch:=omega) only[go_sem,hk]) ?_
    exact tail hF
  intro hF
  rw[bA hF,Bool.true_and] at he
  clear hF hop hv0
  refine aT (ι:=Nat) Tryz.checked.mixed rfl [1,9] (fun i=>[.c (.ptr (0,0) 0),.c (.d (.i .i64 i))]) (fun _=>[.box (x.enc.map .d)]::S)
   (fun i=>i≤x.fArgs.length∧l7 (x.fArgs.drop i)=l7 x.fArgs) (fun i=>x.fArgs.length-i) 0 rfl ?_ ⟨Nat.zero_le _,rfl⟩ ?_
  ·exact Z1
  rintro i ⟨p1,p2⟩
  refine W1 ?_
  refine S0 (fun hb h=>?_) fun hb h=>?_
  ·have hi:i<x.fArgs.length:=by omega
   have hs:=List.sizeOf_lt_of_mem (List.getElem_mem hi)
   rw[SE hi] at p2
   refine W3 ?_
   refine C2 (ih x.fArgs[i] (by omega) (ay.arg_b hi hsz)) ?_
   refine S0 (fun hb h=>?_) fun hb h=>?_
   ·exact aB (by rw[he,←p2,h];rfl)
   ·exact bP (i+1) (by omega) rfl rfl ⟨by omega,by rw[←p2,h];rfl⟩
  rw[List.drop_of_length_le (by omega)] at p2
  have q:l7 x.fArgs=true:=p2.symm
  clear p2 p1
  refine aT (ι:=Nat) Tryz.checked.mixed rfl [1,10] (fun i=>[.c (.ptr (0,0) 0),.c (.d (.i .i64 i))]) (fun _=>[.box (x.enc.map .d)]::S)
   (fun i=>i≤x.aP.length∧pU (x.aP.drop i)=pU x.aP) (fun i=>x.aP.length-i) 0 rfl ?_ ⟨Nat.zero_le _,rfl⟩ ?_
  ·exact Z1
  rintro i ⟨p1,p2⟩
  refine W1 ?_
  refine S0 (fun hb h=>?_) fun hb h=>?_
  ·have hi:i<x.aP.length:=by omega
   have hs:=List.sizeOf_lt_of_mem (List.getElem_mem hi)
   have hs':=aR.nW x.aP[i]
   have hab:=aR.bounds (ay.QD hi hsz)
   rw[U7 hi] at p2
   have no:wE x.aP[i]=false→V.c (.d (.b false))=V.c (.d (.b (iT x))):=fun h=>aB (by rw[he,←p2,h];simp)
   refine W3 ?_
   refine C2 (iE x.aP[i].dL (by omega)) ?_
   refine S0 (fun hb h=>?_) fun hb h=>?_
   ·exact no (by rw[sw,h];rfl)
   have k1:=h
   refine W3 ?_
   refine C2 (LW x.aP[i].aA (by omega) hab.2.2.1) ?_
   refine S0 (fun hb h=>?_) fun hb h=>?_
   ·exact no (by rw[sw];unfold iL;rw[h];simp)
   have k2:=h
   refine W3 ?_
   refine C2 (qm x.aP[i].aA (by omega)) ?_
   refine S0 (fun hb h=>?_) fun hb h=>?_
   ·exact no (by rw[sw];unfold iL;rw[aF h];simp)
   have k3:=h
   refine W3 ?_
   refine C2 (ih x.aP[i].fBody (by omega) hab.2.2.2) ?_
   refine S0 (fun hb h=>?_) fun hb h=>?_
   ·exact no (by rw[sw,h];simp)
   ·exact dh 1 (by decide) (i+1) (by omega) rfl rfl rfl rfl ⟨by omega,by rw[←p2,sw,k1,h];unfold iL;rw[k2,bA k3];rfl⟩
  ·rw[List.drop_of_length_le (by omega)] at p2
   exact aB (by rw[he,q,←p2];rfl)
theorem Kj(x:ay)(hsz:x.sz≤4194304):aI Tryz.prog 122 [x.v] (.c (.d (.b (rV x)))):=fun S=>by
 have hs:=adM (l:=300) (c:=x.cnt) (by omega)
 refine aG (rs:=[.tmp 2]) Tryz.checked.mixed Tryz.func122 Tryz.ntmps122 rfl rfl rfl rfl rfl ?_
 refine W1 ?_
 refine C2 (JG _ x (Nat.lt_succ_self _) hsz 300 (by omega) (by omega)) ?_
 rw[hs]
 refine S0 (fun hb h=>?_) fun hb h=>?_
 ·refine C2 (Vh _ x (Nat.lt_succ_self _) hsz) ?_
  exact aB (by unfold rV;rw[bA (by omega)];rfl)
 ·exact aB (by unfold rV;rw[aF (by omega)];rfl)
end Go.Proofs.YtocpgjlbagncjaaGreatDoor
namespace Go.Ab
theorem Te{x:ay}(h:rV x=true):iT x=true:=by rw[rV,Bool.and_eq_true] at h;exact h.2
end Go.Ab
namespace Go.Proofs.YtocpgjlbagncjaaGreatDoor
open Go Go.Ab
end Go.Proofs.YtocpgjlbagncjaaGreatDoor
