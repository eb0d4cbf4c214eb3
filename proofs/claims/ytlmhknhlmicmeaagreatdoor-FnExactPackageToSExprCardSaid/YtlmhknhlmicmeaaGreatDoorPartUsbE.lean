/-
  SEVERAL TEXTS IN ONE (merged by program): contracts and models, each with its own heading.
-/
import Derived.Test.YtlmhknhlmicmeaaGreatDoorPartUsbD
set_option linter.unusedSimpArgs false
set_option linter.unusedVariables false
set_option maxRecDepth 4000
namespace Go.Ab
theorem dh.args{P:Program}{f:FuncId}{args args':List V}{S:Store}{post:V→Store→Prop}(h:dh P f args' S post)(hl:q8 args args'):dh P f args S post:=h.weaken hl.length fun j x y hx hy w σ β v hr=>hl.at j x y hx hy w σ S β v hr
theorem mG(n:Nat)(es:List (List D)):Less (.c (.kT n es)) (.c (.d (.sl es))):=fun w σ S β v h=>⟨w9 h.1.1,h.2⟩
end Go.Ab
namespace Go.Proofs.YtlmhknhlmicmeaaGreatDoor
open Go Go.Ab
theorem mH(xs:List (List UInt8))(hx:xs.length≤1073741824)(n q:Nat)(bT:List Ab.Obj)(Ω:Store):dh Tryz.prog 173 [.c (.d (.sl (xs.map encS)))] (bT::Ω)
 (fun r S'=>r=.c (.bU (0,bT.length+1) (lx (bf xs) q))∧S'=(bT++[.seed n,.fB n 2 (lx (bf xs) q)])::Ω):=by
 refine TI (n) (rs:=[.tmp 2]) Tryz.checked.mixed Tryz.func173 Tryz.ntmps173 rfl rfl rfl rfl rfl ?_
 first|refine W1 ?_|exact Z1
 refine W3 ?_
 refine mh n 3 2 [] (.inl rfl) (by simp) ?_
 refine aV (ι:=Nat) Tryz.checked.mixed rfl [3,7,8,9] (fun i=>[.c (.bU (0,1) (lx ((bf xs).take i) q)),.c (.d (.sl (xs.map encS))),.c (.d (.i .i64 xs.length)),.c (.d (.i .i64 i))]) (fun i=>[.seed n,.fB n 2 (lx ((bf xs).take i) q)]::bT::Ω)
  (fun i=>i≤xs.length) (fun i=>xs.length-i) 0 rfl rfl (Nat.zero_le _) ?_
 intro i hi
 first|refine W1 ?_|exact Z1
 with_reducible refine aS (fun hb=> ?_) (fun hb=> ?_)<;>have h:=hb<;>(try simp only[wf_preprocess] at h)<;>simp -implicitDefEqProofs (disch:=omega) only[go_sem,hb]<;>(repeat(with_reducible refine And.intro ?_ ?_;focus first|omega|rfl|assumption|exact⟨_,rfl,rfl⟩|(simp;omega)|(simp;done)))
 ·have hi':i<xs.length:=by omega
  have hw:i<(bf xs).length:=by rw[iR];exact hi'
  have hg:(bf xs)[i]=cu xs[i]:=by simp[bf]
  have hl:(lx ((bf xs).take i) q).length≤i:=by rw[fK];exact List.length_take_le _ _
  refine W3 ?_
  refine ah (dx xs[i] (q+gT ((bf xs).take i))) ?_
  first|refine W1 ?_|exact Z1
  (repeat(with_reducible refine And.intro ?_ ?_;focus first|omega|rfl|assumption|exact⟨_,rfl,rfl⟩|(simp;omega)|(simp;done)))
  have hs:=J4 hw q
  rw[hg,sS] at hs
  rw[hs]
  exact bL (i+1) (by omega) rfl rfl (by omega)
 ·have hi':i=(bf xs).length:=by rw[iR];omega
  rw[hi',List.take_length]
  exact⟨rfl,rfl⟩
theorem WG(base:Option Addr)(n:Nat)(h1:1≤n)(hn:n≤1073741824)(w:World):Calls Tryz.prog 288 #[.slice base 0 0,.int .i64 n] w fun e w'=>
 ∃cap row,n≤cap∧row.size=cap*2∧e=.returned (.slice (some ⟨w.heap.size,0,none⟩) 0 cap)∧w'={w.drew with heap:=w.heap.push (.cells row 32)}:=by
 obtain⟨cap,row,hc,hr,hm⟩:=DF (P:=Tryz.prog) (w:=w) (t:=30) (u:=3) (ty:=30) (e:=32) (base:=base) (n:=n) Tryz.underlying30 Tryz.underlying3 rfl rfl h1 hn (by decide +kernel) rfl
 have h0:¬((n:Int)<0):=by omega
 have h2:(0:Int)<n:=by omega
 go_enter Tryz.func288,Tryz.ntmps288
 go_wp2_with (at_builtin;refine Lib.wpList_append_run _ rfl _ _ _ _ rfl _ _ rfl rfl _ _ hm ?_)
 all_goals go_ret
 exact⟨cap,hc,row,hr,rfl,rfl⟩
theorem Ue(base:Option Addr)(w:World):Calls Tryz.prog 288 #[.slice base 0 0,.int .i64 0] w fun e w'=>e=.returned (.slice base 0 0)∧w'=w:=by
 go_enter Tryz.func288,Tryz.ntmps288
 go_wp2
 all_goals go_ret
 exact⟨rfl,rfl⟩
theorem WH(m n:Nat)(hn:n≤1073741824)(bT:List Ab.Obj)(Ω:Store):dh Tryz.prog 288 [.c (.bD []),.c (.d (.i .i64 n))] (bT::Ω)
 (fun r S'=>r=.c (.bU (0,bT.length) [])∧S'=(bT++[.fB m 2 []])::Ω):=by
 refine⟨⟨_,Tryz.func288,by kernel_rfl,by kernel_rfl⟩,fun w σ β vs hS hv=> ?_⟩
 obtain⟨hl,h⟩:=hv
 obtain⟨v0,e0,⟨h0,a,m',h00⟩,_⟩:=h 0 _ rfl
 obtain⟨v1,e1,h1,_⟩:=h 1 _ rfl
 have h1':v1=.int .i64 n:=by cases h1;rfl
 subst h1'
 have hm:m'=0:=by rw[h00] at h0;cases h0<;>rfl
 subst hm
 subst h00
 have hvs:vs=[.slice a 0 0,.int .i64 n]:=by
  match vs,hl,e0,e1 with
  |[x,y],_,e0,e1=>simp at e0 e1;rw[e0,e1]
 subst hvs
 cases β with
 |nil=>have:=hS.shape.1;simp at this
 |cons bo bΩ=>
 have hlen:bo.length=bT.length:=by
  obtain⟨gr,g1,g2⟩:=hS.shape.2 0 bT rfl
  simp at g1;rw[g1];exact g2
 by_cases hz:n=0
 ·subst hz
  refine(Ue a w).mono fun e w' ⟨he,hw⟩=> ?_
  subst hw
  obtain⟨hS',hk,hst⟩:=hS.push (o:=.fB m 2 []) (h:=.slice a 0 0) (Grow.refl hS.live) hlen ⟨h0,by simp,a,0,rfl,by simp,.inl ⟨rfl,.xJ _ _ _⟩⟩ (fun b hb=>by cases a<;>simp[owns,blk] at hb)
  refine⟨_,.c (.bU (0,bT.length) []),_,_,_,he,hS',hk,hst,⟨⟨h0,.fB m 2 [],?_,fun bK es e=> ?_⟩,rfl⟩,rfl,rfl⟩
  ·rw[dJ]
  ·obtain⟨_,rfl⟩:=nW (lab:=some m) e;exact⟨Nat.le_refl _,fun _=>by rw[←hlen,dJ]⟩
 ·refine(WG a n (by omega) hn w).mono fun e w' ⟨cap,row,hc,hr,he,hw⟩=> ?_
  subst hw
  have hσ:σ w.heap.size=0:=(hS.live w.heap.size).resolve_left (by omega)
  have hg:Grow w σ {w.drew with heap:=w.heap.push (.cells row 32)} σ:=by
   refine⟨by simp,rfl,rfl,fun b hb=>⟨?_,rfl⟩,fun b=> ?_⟩
   ·simp only[Array.getElem?_push]
    rw[if_neg (by omega)]
   ·rcases hS.live b with hb|hb
    ·left;simp;omega
    ·exact .inr hb
  obtain⟨hS',hk,hst⟩:=hS.push (o:=.fB m 2 []) (h:=.slice (some ⟨w.heap.size,0,none⟩) 0 cap) hg hlen ⟨.nil _ _,by simp,_,cap,rfl,by simp,.inr ⟨by simp;omega,w.heap.size,0,row,32,rfl,by simp,by simp[hσ],by omega⟩⟩ (fun b hb=>by
   simp only[owns,blk] at hb
   split at hb
   ·cases hb
   ·cases hb;exact Nat.le_refl _)
  refine⟨_,.c (.bU (0,bT.length) []),_,_,_,he,hS',hk,hst,⟨⟨.nil _ _,.fB m 2 [],?_,fun bK es e=> ?_⟩,rfl⟩,rfl,rfl⟩
  ·rw[dJ]
  ·obtain⟨_,rfl⟩:=nW (lab:=some m) e;exact⟨Nat.le_refl _,fun _=>by rw[←hlen,dJ]⟩
theorem QF(m l:Nat)(xss:List (Nat×List (List D)))(hl:xss.length≤1073741824)(hr:∀p∈xss,∀r∈p.2,r.length=2)(hf:(xss.map (·.2)).flatten.length≤1073741824):aG Tryz.prog 213 [.c (.kT l (xss.map fun p=>[.ol p.1 p.2]))] (.c (.d (.ol m (xss.map (·.2)).flatten))):=fun S=>by
 obtain⟨ys,hys⟩:∃ys:List (List (List D)),ys=xss.map (·.2):=⟨_,rfl⟩
 rw[←hys] at hf ⊢
 have hyl:ys.length=xss.length:=by rw[hys,List.length_map]
 have hyi:∀i (hi:i<xss.length),ys[i]'(by omega)=xss[i].2:=fun i hi=>by simp[hys]
 have Zw:∀i (hi:i<xss.length),∀r∈xss[i].2,r.length=2:=fun i hi=>hr _ (List.getElem_mem hi)
 refine jk (m) (rs:=[.tmp 2]) Tryz.checked.mixed Tryz.func213 Tryz.ntmps213 rfl rfl rfl rfl rfl ?_
 first|refine W1 ?_|exact Z1
 refine aV (ι:=Nat) Tryz.checked.mixed rfl [0,3,9,10,11] (fun i=>[.c (.kT l (xss.map fun p=>[.ol p.1 p.2])),.c (.d (.i .i64 (ys.take i).flatten.length)),.c (.kT l (xss.map fun p=>[.ol p.1 p.2])),.c (.d (.i .i64 xss.length)),.c (.d (.i .i64 i))]) (fun _=>[.seed m]::S)
  (fun i=>i≤xss.length) (fun i=>xss.length-i) 0 rfl rfl (Nat.zero_le _) ?_
 rintro i p1
 have hfi:=uV ys i
 by_cases hi:i<xss.length
 ·have hs:=BQ ys (i:=i) (by omega)
  rw[hyi i hi] at hs
  have Y6:=uV ys (i+1)
  first|refine W1 ?_|exact Z1
  first|refine S0 (fun hb h=>?_) (fun hb h=>?_)|refine S1 fun hb h=>?_|refine S2 fun hb h=>?_|exact S3
  ·refine W3 ?_
   first|refine S0 (fun hb h=>?_) (fun hb h=>?_)|refine S1 fun hb h=>?_|refine S2 fun hb h=>?_|exact S3
   ·omega
   ·refine bL (i+1) (by omega) ?_ rfl (by omega)
    rw[hs];rfl
  ·omega
 have hi:i=xss.length:=by omega
 subst hi
 first|refine W1 ?_|exact Z1
 with_reducible refine aS (fun hb=> ?_) (fun hb=> ?_)<;>have h:=hb<;>(try simp only[wf_preprocess] at h)<;>simp -implicitDefEqProofs (disch:=omega) only[go_sem,hb]<;>(repeat(with_reducible refine And.intro ?_ ?_;focus first|omega|rfl|assumption|exact⟨_,rfl,rfl⟩|(simp;omega)|(simp;done)))
 ·omega
 rw[←hyl,List.take_length]
 clear hfi
 refine bV rfl (WH m ys.flatten.length hf [.seed m] S) ?_
 first|refine W1 ?_|exact Z1
 refine aV (ι:=Nat) Tryz.checked.mixed rfl [6,25,26,27] (fun i=>[.c (.bU (0,1) (ys.take i).flatten),.c (.kT l (xss.map fun p=>[.ol p.1 p.2])),.c (.d (.i .i64 xss.length)),.c (.d (.i .i64 i))]) (fun i=>[.seed m,.fB m 2 (ys.take i).flatten]::S)
  (fun i=>i≤xss.length) (fun i=>xss.length-i) 0 (by rw[←hyl];rfl) rfl (Nat.zero_le _) ?_
 rintro i p1
 have hfi:=uV ys i
 by_cases hi:i<xss.length
 ·have hs:=BQ ys (i:=i) (by omega)
  rw[hyi i hi] at hs
  have Y6:=uV ys (i+1)
  have e:(ys.take (i+1)).flatten=(ys.take i).flatten++xss[i].2:=by
   rw[List.take_succ_eq_append_getElem (by omega),List.flatten_append,hyi i hi]
   simp only[List.flatten_cons,List.flatten_nil,List.append_nil]
  have hri:=Zw i hi
  first|refine W1 ?_|exact Z1
  first|refine S0 (fun hb h=>?_) (fun hb h=>?_)|refine S1 fun hb h=>?_|refine S2 fun hb h=>?_|exact S3
  ·refine W3 ?_
   exact bL (i+1) (by omega) (by rw[e];rfl) (by rw[e]) (by omega)
  ·omega
 ·have hi:i=ys.length:=by omega
  first|refine W1 ?_|exact Z1
  with_reducible refine aS (fun hb=> ?_) (fun hb=> ?_)<;>have h:=hb<;>(try simp only[wf_preprocess] at h)<;>simp -implicitDefEqProofs (disch:=omega) only[go_sem,hb]<;>(repeat(with_reducible refine And.intro ?_ ?_;focus first|omega|rfl|assumption|exact⟨_,rfl,rfl⟩|(simp;omega)|(simp;done)))
  ·omega
  rw[hi,List.take_length]
end Go.Proofs.YtlmhknhlmicmeaaGreatDoor
namespace Go.Ab
theorem jF{x:au}{k:Int}(h:x.aX=k):jS x.aX x.bR x.fName x.fType=jS k x.bR x.fName x.fType:=by rw[h]
theorem La{l:List au}{t:au}(h:t∈l):t.sz≤OA l:=by
 rw[←FQ];exact bI (List.mem_map_of_mem h)
theorem IK{l:List aW}{t:aW}(h:t∈l):t.sz≤OB l:=by
 rw[←FR];exact bI (List.mem_map_of_mem h)
theorem z8:∀{xs:List au},mq xs=true↔∀t∈xs,iE t=true
 |[]=>by simp[mq]
 |t::ts=>by simp[mq,z8 (xs:=ts)]
theorem BR:∀{xs:List aW},oO xs=true↔∀t∈xs,vJ t=true
 |[]=>by simp[oO]
 |t::ts=>by simp[oO,BR (xs:=ts)]
theorem j3{x:au}(h1:x.aX≠1)(h2:x.aX≠2)(h3:x.aX≠3)(h:x.aX=4∨x.aX=5∨x.aX=6∨x.aX=8∨x.aX=9∨x.aX=10∨x.aX=11∨x.aX=12):
 fH x=cO (jS x.aX x.bR x.fName x.fType++x.fArgs.map fH):=by rw[Dn,if_neg h1,if_neg h2,if_neg h3,if_pos h,List.append_nil]
end Go.Ab
namespace Go.Proofs.YtlmhknhlmicmeaaGreatDoor
open Go Go.Ab
theorem IL:∀N:Nat,∀x:au,SizeOf.sizeOf x<N→∀n:Nat,iE x=true→x.sz≤4194304→aG Tryz.prog 112 [x.v] (.agg [.d (.s (fH x).dI),.d (.ol n (lx (fH x).bF (n+1)))])
 |0=>fun x h=>by omega
 |N+1=>by
  have ih:=IL N
  intro x hn n hok hsz S
  have jf:=au.fI x
  have tu:=au.mo x
  have hzz:=FT x
  rw[uP,Bool.and_eq_true,Bool.and_eq_true] at hok
  obtain⟨hfi,hoa,O0⟩:=hok
  have hfi:=ji hfi
  have hoa:=z8.1 hoa
  have O0:=BR.1 O0
  obtain⟨qa,vT⟩:∃qa,qa=n+1+gT (jS x.aX x.bR x.fName x.fType):=⟨_,rfl⟩
  obtain⟨T,hT⟩:∃T:Nat→List (List D),T=fun i=>lx ((x.fArgs.map fH).take i) qa:=⟨_,rfl⟩
  have hT0:T 0=[]:=by rw[hT];rfl
  have eO:∀i,(T i).length≤i:=fun i=>by rw[hT];simp only[fK];exact List.length_take_le _ _
  have hTr:∀i,∀r∈T i,r.length=2:=fun i=>by rw[hT];exact jB
  have hTs:∀i (hi:i<x.fArgs.length),T i++[[.s (fH x.fArgs[i]).dI,.ol (qa+gT ((x.fArgs.map fH).take i)) (lx (fH x.fArgs[i]).bF (qa+gT ((x.fArgs.map fH).take i)+1))]]=T (i+1):=fun i hi=>by
   have:=wF (l:=x.fArgs.map fH) (i:=i) (by rw[List.length_map];exact hi) qa
   rw[List.getElem_map] at this
   rw[hT];exact this
  have hTe:T x.fArgs.length=lx (x.fArgs.map fH) qa:=by rw[hT];simp only;rw[List.take_of_length_le (by simp)]
  clear hT
  refine jk (n) (rs:=[.cell 2 32]) Tryz.checked.mixed Tryz.func112 Tryz.ntmps112 rfl rfl rfl rfl rfl ?_
  simp -implicitDefEqProofs (disch:=omega) only[go_sem]
  (repeat(with_reducible refine And.intro ?_ ?_;focus first|omega|rfl|assumption|exact⟨_,rfl,rfl⟩|(simp;omega)|(simp;done)))
  refine mh n 3 2 [] (.inl rfl) (by simp) ?_
  refine aV (ι:=Nat) Tryz.checked.mixed rfl [1,2,3,11,12,13] (fun i=>[.c (.ptr (0,1) 0),.c (.ptr (0,2) 0),.c (.bU (0,3) (T i)),.c (.d (.sl (x.fArgs.map au.enc))),.c (.d (.i .i64 x.fArgs.length)),.c (.d (.i .i64 i))])
   (fun i=>[.seed n,.box [.d (.i .i64 x.aX),.d (.s x.bR),.d (.s x.fName),.d (.i .i64 x.fN),.d (.i .i64 x.fType.aX),.d (.s x.fType.fName),.d (.sl (x.fType.fArgs.map aj.enc)),.d (.sl (x.fArgs.map au.enc)),.d (.sl (x.aZ.map aW.enc))],.box [.d (.s []),.bD []],.fB n 2 (T i)]::S)
   (fun i=>i≤x.fArgs.length) (fun i=>x.fArgs.length-i) 0 (by rw[hT0];rfl) (by rw[hT0];rfl) (Nat.zero_le _) ?_
  intro i hi
  have hl:=eO i
  simp -implicitDefEqProofs (disch:=omega) only[go_sem]
  with_reducible refine aS (fun hb=> ?_) (fun hb=> ?_)<;>have h:=hb<;>(try simp only[wf_preprocess] at h)<;>simp -implicitDefEqProofs (disch:=omega) only[go_sem,hb]<;>(repeat(with_reducible refine And.intro ?_ ?_;focus first|omega|rfl|assumption|exact⟨_,rfl,rfl⟩|(simp;omega)|(simp;done)))
  ·have hi':i<x.fArgs.length:=by omega
   have hm:=List.getElem_mem hi'
   have Zz:=La hm
   have hs:=hTs i hi'
   (repeat(with_reducible refine And.intro ?_ ?_;focus first|omega|rfl|assumption|exact⟨_,rfl,rfl⟩|(simp;omega)|(simp;done)))
   refine ah (ih x.fArgs[i] (by have:=List.sizeOf_lt_of_mem hm;omega) (qa+gT ((x.fArgs.map fH).take i)) (hoa _ hm) (by omega)) ?_
   simp -implicitDefEqProofs (disch:=omega) only[go_sem]
   (repeat(with_reducible refine And.intro ?_ ?_;focus first|omega|rfl|assumption|exact⟨_,rfl,rfl⟩|(simp;omega)|(simp;done)))
   rw[hs]
   exact dz 4 (by decide) (i+1) (by omega) rfl rfl rfl rfl (by omega)
  have hi':i=x.fArgs.length:=by omega
  subst hi'
  clear hTs hi h hb
  have hTT:=hTr x.fArgs.length
  have hxe:=Dn x
  with_reducible refine aS (fun hb=> ?_) (fun hb=> ?_)<;>have h:=hb<;>(try simp only[wf_preprocess] at h)<;>simp -implicitDefEqProofs (disch:=omega) only[go_sem,hb]<;>(repeat(with_reducible refine And.intro ?_ ?_;focus first|omega|rfl|assumption|exact⟨_,rfl,rfl⟩|(simp;omega)|(simp;done)))
  ·rw[if_pos h] at hxe
   rw[hxe]
   have hb:=hfi.2.2.2.1
   rw[if_pos h] at hb
   refine ah (F3 x.fN (by omega) (by omega)) ?_
   simp -implicitDefEqProofs (disch:=omega) only[go_sem]
   refine ah (dx _ n) ?_
   simp -implicitDefEqProofs (disch:=omega) only[go_sem]
   rfl
  have k1:=h
  rw[if_neg h] at hxe
  with_reducible refine aS (fun hb=> ?_) (fun hb=> ?_)<;>have h:=hb<;>(try simp only[wf_preprocess] at h)<;>simp -implicitDefEqProofs (disch:=omega) only[go_sem,hb]<;>(repeat(with_reducible refine And.intro ?_ ?_;focus first|omega|rfl|assumption|exact⟨_,rfl,rfl⟩|(simp;omega)|(simp;done)))
  ·rw[if_pos h] at hxe
   rw[hxe]
   with_reducible refine aS (fun hb=> ?_) (fun hb=> ?_)<;>have h:=hb<;>(try simp only[wf_preprocess] at h)<;>simp -implicitDefEqProofs (disch:=omega) only[go_sem,hb]<;>(repeat(with_reducible refine And.intro ?_ ?_;focus first|omega|rfl|assumption|exact⟨_,rfl,rfl⟩|(simp;omega)|(simp;done)))
   ·rw[if_pos h]
    refine ah (dx _ n) ?_
    simp -implicitDefEqProofs (disch:=omega) only[go_sem]
    rfl
   ·rw[if_neg h]
    refine ah (dx _ n) ?_
    simp -implicitDefEqProofs (disch:=omega) only[go_sem]
    rfl
  have k2:=h
  rw[if_neg h] at hxe
  with_reducible refine aS (fun hb=> ?_) (fun hb=> ?_)<;>have h:=hb<;>(try simp only[wf_preprocess] at h)<;>simp -implicitDefEqProofs (disch:=omega) only[go_sem,hb]<;>(repeat(with_reducible refine And.intro ?_ ?_;focus first|omega|rfl|assumption|exact⟨_,rfl,rfl⟩|(simp;omega)|(simp;done)))
  ·rw[if_pos h] at hxe
   rw[hxe]
   refine ah (dx _ n) ?_
   simp -implicitDefEqProofs (disch:=omega) only[go_sem]
   rfl
  have k3:=h
  clear hxe
  with_reducible refine aS (fun hb=> ?_) (fun hb=> ?_)<;>have h:=hb<;>(try simp only[wf_preprocess] at h)<;>simp -implicitDefEqProofs (disch:=omega) only[go_sem,hb]<;>(repeat(with_reducible refine And.intro ?_ ?_;focus first|omega|rfl|assumption|exact⟨_,rfl,rfl⟩|(simp;omega)|(simp;done)))
  ·have hx:=j3 k1 k2 k3 (by omega)
   have hh:jS x.aX x.bR x.fName x.fType=bf [zK,x.fName]:=by rw[jF h];rfl
   rw[hh] at hx vT
   (repeat(with_reducible refine And.intro ?_ ?_;focus first|omega|rfl|assumption|exact⟨_,rfl,rfl⟩|(simp;omega)|(simp;done)))
   refine bV rfl (dh.args (mH [zK,x.fName] (by simp) n (n+1) _ _) (.cons (mG n _) .nil)) ?_
   have Lb:(lx (bf [zK,x.fName]) (n+1)).length=2:=by rw[fK];rfl
   have Lc:=jB (l:=bf [zK,x.fName]) (n:=n+1)
   simp -implicitDefEqProofs (disch:=omega) only[go_sem]
   (repeat(with_reducible refine And.intro ?_ ?_;focus first|omega|rfl|assumption|exact⟨_,rfl,rfl⟩|(simp;omega)|(simp;done)))
   refine bV rfl (jr 0 5 _ _) ?_
   simp -implicitDefEqProofs (disch:=omega) only[go_sem]
   rw[hx,hTe,vT,dX,dF,jQ]
  have k4:=h
  with_reducible refine aS (fun hb=> ?_) (fun hb=> ?_)<;>have h:=hb<;>(try simp only[wf_preprocess] at h)<;>simp -implicitDefEqProofs (disch:=omega) only[go_sem,hb]<;>(repeat(with_reducible refine And.intro ?_ ?_;focus first|omega|rfl|assumption|exact⟨_,rfl,rfl⟩|(simp;omega)|(simp;done)))
  ·have hx:=j3 k1 k2 k3 (by omega)
   have hh:jS x.aX x.bR x.fName x.fType=bf [uQ,x.bR,x.fName]:=by rw[jF h];rfl
   rw[hh] at hx vT
   (repeat(with_reducible refine And.intro ?_ ?_;focus first|omega|rfl|assumption|exact⟨_,rfl,rfl⟩|(simp;omega)|(simp;done)))
   refine bV rfl (dh.args (mH [uQ,x.bR,x.fName] (by simp) n (n+1) _ _) (.cons (mG n _) .nil)) ?_
   have Lb:(lx (bf [uQ,x.bR,x.fName]) (n+1)).length=3:=by rw[fK];rfl
   have Lc:=jB (l:=bf [uQ,x.bR,x.fName]) (n:=n+1)
   simp -implicitDefEqProofs (disch:=omega) only[go_sem]
   (repeat(with_reducible refine And.intro ?_ ?_;focus first|omega|rfl|assumption|exact⟨_,rfl,rfl⟩|(simp;omega)|(simp;done)))
   refine bV rfl (jr 0 5 _ _) ?_
   simp -implicitDefEqProofs (disch:=omega) only[go_sem]
   rw[hx,hTe,vT,dX,dF,jQ]
  have k5:=h
  with_reducible refine aS (fun hb=> ?_) (fun hb=> ?_)<;>have h:=hb<;>(try simp only[wf_preprocess] at h)<;>simp -implicitDefEqProofs (disch:=omega) only[go_sem,hb]<;>(repeat(with_reducible refine And.intro ?_ ?_;focus first|omega|rfl|assumption|exact⟨_,rfl,rfl⟩|(simp;omega)|(simp;done)))
  ·have hx:=j3 k1 k2 k3 (by omega)
   have hh:jS x.aX x.bR x.fName x.fType=bf [Dl,x.fName]:=by rw[jF h];rfl
   rw[hh] at hx vT
   (repeat(with_reducible refine And.intro ?_ ?_;focus first|omega|rfl|assumption|exact⟨_,rfl,rfl⟩|(simp;omega)|(simp;done)))
   refine bV rfl (dh.args (mH [Dl,x.fName] (by simp) n (n+1) _ _) (.cons (mG n _) .nil)) ?_
   have Lb:(lx (bf [Dl,x.fName]) (n+1)).length=2:=by rw[fK];rfl
   have Lc:=jB (l:=bf [Dl,x.fName]) (n:=n+1)
   simp -implicitDefEqProofs (disch:=omega) only[go_sem]
   (repeat(with_reducible refine And.intro ?_ ?_;focus first|omega|rfl|assumption|exact⟨_,rfl,rfl⟩|(simp;omega)|(simp;done)))
   refine bV rfl (jr 0 5 _ _) ?_
   simp -implicitDefEqProofs (disch:=omega) only[go_sem]
   rw[hx,hTe,vT,dX,dF,jQ]
  have k6:=h
  with_reducible refine aS (fun hb=> ?_) (fun hb=> ?_)<;>have h:=hb<;>(try simp only[wf_preprocess] at h)<;>simp -implicitDefEqProofs (disch:=omega) only[go_sem,hb]<;>(repeat(with_reducible refine And.intro ?_ ?_;focus first|omega|rfl|assumption|exact⟨_,rfl,rfl⟩|(simp;omega)|(simp;done)))
  ·have hx:=Dn x
   rw[if_neg k1,if_neg k2,if_neg k3,if_neg (by omega)] at hx
   have hh:jS x.aX x.bR x.fName x.fType=bf [qP]:=by rw[jF h];rfl
   rw[hh] at hx vT
   obtain⟨B,hB⟩:∃B:Nat→List (List D),B=fun i=>lx (x.fArgs.map fH++(x.aZ.map xU).take i) qa:=⟨_,rfl⟩
   obtain⟨L,hL⟩:∃L:Nat→Nat,L=fun i=>qa+gT (x.fArgs.map fH++(x.aZ.map xU).take i):=⟨_,rfl⟩
   have hB0:T x.fArgs.length=B 0:=by rw[hTe,hB];simp only[List.take_zero,List.append_nil]
   have hBl:∀i,(B i).length≤i+x.fArgs.length:=fun i=>by
    rw[hB];simp only[fK,List.length_append,List.length_map]
    have:=List.length_take_le i (x.aZ.map xU)
    omega
   have hBr:∀i,∀r∈B i,r.length=2:=fun i=>by rw[hB];exact jB
   have hBs:∀i (hi:i<x.aZ.length),B i++[[.s [],.ol (L i) (lx ([cu x.aZ[i].dK]++bf x.aZ[i].aF++[fH x.aZ[i].fBody]) (L i+1))]]=B (i+1):=fun i hi=>by
    have:=wG (base:=x.fArgs.map fH) (l:=x.aZ.map xU) (i:=i) (by rw[List.length_map];exact hi) qa
    rw[List.getElem_map,Wd,dX,dF] at this
    rw[hB,hL];exact this
   have hBe:B x.aZ.length=lx (x.fArgs.map fH++x.aZ.map xU) qa:=by rw[hB];simp only;rw[List.take_of_length_le (by simp)]
   clear hB hL hTT
   (repeat(with_reducible refine And.intro ?_ ?_;focus first|omega|rfl|assumption|exact⟨_,rfl,rfl⟩|(simp;omega)|(simp;done)))
   refine bV rfl (dh.args (mH [qP] (by simp) n (n+1) _ _) (.cons (mG n _) .nil)) ?_
   have Lb:(lx (bf [qP]) (n+1)).length=1:=by rw[fK];rfl
   have Lc:=jB (l:=bf [qP]) (n:=n+1)
   simp -implicitDefEqProofs (disch:=omega) only[go_sem]
   rw[hB0]
   obtain⟨HD,hHD⟩:∃HD,HD=lx (bf [qP]) (n+1):=⟨_,rfl⟩
   rw[←hHD] at Lb Lc ⊢
   refine aV (ι:=Nat) Tryz.checked.mixed rfl [2,3,6,69,70,71] (fun i=>[.c (.ptr (0,2) 0),.c (.bU (0,3) (B i)),.c (.bU (0,5) HD),.c (.d (.sl (x.aZ.map aW.enc))),.c (.d (.i .i64 x.aZ.length)),.c (.d (.i .i64 i))])
    (fun i=>[.seed n,.box [.d (.i .i64 x.aX),.d (.s x.bR),.d (.s x.fName),.d (.i .i64 x.fN),.d (.i .i64 x.fType.aX),.d (.s x.fType.fName),.d (.sl (x.fType.fArgs.map aj.enc)),.d (.sl (x.fArgs.map au.enc)),.d (.sl (x.aZ.map aW.enc))],.box [.d (.s []),.bD []],.fB n 2 (B i),.seed n,.fB n 2 HD]::S)
    (fun i=>i≤x.aZ.length) (fun i=>x.aZ.length-i) 0 rfl rfl (Nat.zero_le _) ?_
   intro i hi
   have hl:=hBl i
   have hr:=hBr i
   simp -implicitDefEqProofs (disch:=omega) only[go_sem]
   with_reducible refine aS (fun hb=> ?_) (fun hb=> ?_)<;>have h:=hb<;>(try simp only[wf_preprocess] at h)<;>simp -implicitDefEqProofs (disch:=omega) only[go_sem,hb]<;>(repeat(with_reducible refine And.intro ?_ ?_;focus first|omega|rfl|assumption|exact⟨_,rfl,rfl⟩|(simp;omega)|(simp;done)))
   ·have hi':i<x.aZ.length:=by omega
    have hm:=List.getElem_mem hi'
    have Zz:=IK hm
    have hea:=Dp x.aZ[i]
    have hs:=hBs i hi'
    have hak:=O0 _ hm
    rw[pV,Bool.and_eq_true,Bool.and_eq_true] at hak
    have hls:=List.sizeOf_lt_of_mem hm
    have hlb:=aW.kW x.aZ[i]
    (repeat(with_reducible refine And.intro ?_ ?_;focus first|omega|rfl|assumption|exact⟨_,rfl,rfl⟩|(simp;omega)|(simp;done)))
    refine q9 (xO [x.aZ[i].dK] (by simp) 0 (L i+1)) (.cons (mG n _) .nil) ?_
    simp -implicitDefEqProofs (disch:=omega) only[go_sem]
    refine ah (xO x.aZ[i].aF (by omega) 0 (L i+1+gT (bf [x.aZ[i].dK]))) ?_
    simp -implicitDefEqProofs (disch:=omega) only[go_sem]
    refine ah (ih x.aZ[i].fBody (by omega) (L i+1+gT (bf [x.aZ[i].dK]++bf x.aZ[i].aF)) hak.2.2 (by omega)) ?_
    simp -implicitDefEqProofs (disch:=omega) only[go_sem]
    (repeat(with_reducible refine And.intro ?_ ?_;focus first|omega|rfl|assumption|exact⟨_,rfl,rfl⟩|(simp;omega)|(simp;done)))
    refine ah (QF (L i) n [(0,lx (bf [x.aZ[i].dK]) (L i+1)),(0,lx (bf x.aZ[i].aF) (L i+1+gT (bf [x.aZ[i].dK]))),(n,[[.s (fH x.aZ[i].fBody).dI,.ol (L i+1+gT (bf [x.aZ[i].dK]++bf x.aZ[i].aF)) (lx (fH x.aZ[i].fBody).bF (L i+1+gT (bf [x.aZ[i].dK]++bf x.aZ[i].aF)+1))]])] (by simp) ?_ ?_) ?_
    ·intro p hp
     simp only[List.mem_cons,List.not_mem_nil,or_false] at hp
     rcases hp with rfl|rfl|rfl
     ·exact jB
     ·exact jB
     ·simp
    ·simp only[List.map_cons,List.map_nil,List.flatten_cons,List.flatten_nil,List.length_append,fK,iR,List.length_cons,List.length_nil];omega
    simp -implicitDefEqProofs (disch:=omega) only[go_sem]
    refine ah (jK _) ?_
    simp -implicitDefEqProofs (disch:=omega) only[go_sem]
    (repeat(with_reducible refine And.intro ?_ ?_;focus first|omega|rfl|assumption|exact⟨_,rfl,rfl⟩|(simp;omega)|(simp;done)))
    have hrow:[lx (bf [x.aZ[i].dK]) (L i+1),lx (bf x.aZ[i].aF) (L i+1+gT (bf [x.aZ[i].dK])),[[.s (fH x.aZ[i].fBody).dI,.ol (L i+1+gT (bf [x.aZ[i].dK]++bf x.aZ[i].aF)) (lx (fH x.aZ[i].fBody).bF (L i+1+gT (bf [x.aZ[i].dK]++bf x.aZ[i].aF)+1))]]].flatten=lx ([cu x.aZ[i].dK]++bf x.aZ[i].aF++[fH x.aZ[i].fBody]) (L i+1):=by
     have e1:[cu x.aZ[i].dK]=bf [x.aZ[i].dK]:=rfl
     rw[e1,jQ,jQ,iN (fH x.aZ[i].fBody) [],lq,iM (fH x.aZ[i].fBody)]
     simp only[List.flatten_cons,List.flatten_nil,List.append_nil,List.append_assoc]
    rw[hrow,hs]
    exact dz 6 (by decide) (i+1) (by omega) rfl rfl rfl rfl (by omega)
   ·have hi':i=x.aZ.length:=by omega
    subst hi'
    have hr2:=hBr x.aZ.length
    (repeat(with_reducible refine And.intro ?_ ?_;focus first|omega|rfl|assumption|exact⟨_,rfl,rfl⟩|(simp;omega)|(simp;done)))
    refine bV rfl (jr 0 5 _ _) ?_
    simp -implicitDefEqProofs (disch:=omega) only[go_sem]
    rw[hx,hBe,vT,hHD,dX,dF,List.append_assoc,jQ (bf [qP])]
  have k7:=h
  with_reducible refine aS (fun hb=> ?_) (fun hb=> ?_)<;>have h:=hb<;>(try simp only[wf_preprocess] at h)<;>simp -implicitDefEqProofs (disch:=omega) only[go_sem,hb]<;>(repeat(with_reducible refine And.intro ?_ ?_;focus first|omega|rfl|assumption|exact⟨_,rfl,rfl⟩|(simp;omega)|(simp;done)))
  ·have hx:=j3 k1 k2 k3 (by omega)
   have hh:jS x.aX x.bR x.fName x.fType=bf [Dm,x.fName]:=by rw[jF h];rfl
   rw[hh] at hx vT
   (repeat(with_reducible refine And.intro ?_ ?_;focus first|omega|rfl|assumption|exact⟨_,rfl,rfl⟩|(simp;omega)|(simp;done)))
   refine bV rfl (dh.args (mH [Dm,x.fName] (by simp) n (n+1) _ _) (.cons (mG n _) .nil)) ?_
   have Lb:(lx (bf [Dm,x.fName]) (n+1)).length=2:=by rw[fK];rfl
   have Lc:=jB (l:=bf [Dm,x.fName]) (n:=n+1)
   simp -implicitDefEqProofs (disch:=omega) only[go_sem]
   (repeat(with_reducible refine And.intro ?_ ?_;focus first|omega|rfl|assumption|exact⟨_,rfl,rfl⟩|(simp;omega)|(simp;done)))
   refine bV rfl (jr 0 5 _ _) ?_
   simp -implicitDefEqProofs (disch:=omega) only[go_sem]
   rw[hx,hTe,vT,dX,dF,jQ]
  have k8:=h
  with_reducible refine aS (fun hb=> ?_) (fun hb=> ?_)<;>have h:=hb<;>(try simp only[wf_preprocess] at h)<;>simp -implicitDefEqProofs (disch:=omega) only[go_sem,hb]<;>(repeat(with_reducible refine And.intro ?_ ?_;focus first|omega|rfl|assumption|exact⟨_,rfl,rfl⟩|(simp;omega)|(simp;done)))
  ·have hx:=j3 k1 k2 k3 (by omega)
   have hh:jS x.aX x.bR x.fName x.fType=bf [K3]:=by rw[jF h];rfl
   rw[hh] at hx vT
   (repeat(with_reducible refine And.intro ?_ ?_;focus first|omega|rfl|assumption|exact⟨_,rfl,rfl⟩|(simp;omega)|(simp;done)))
   refine bV rfl (dh.args (mH [K3] (by simp) n (n+1) _ _) (.cons (mG n _) .nil)) ?_
   have Lb:(lx (bf [K3]) (n+1)).length=1:=by rw[fK];rfl
   have Lc:=jB (l:=bf [K3]) (n:=n+1)
   simp -implicitDefEqProofs (disch:=omega) only[go_sem]
   (repeat(with_reducible refine And.intro ?_ ?_;focus first|omega|rfl|assumption|exact⟨_,rfl,rfl⟩|(simp;omega)|(simp;done)))
   refine bV rfl (jr 0 5 _ _) ?_
   simp -implicitDefEqProofs (disch:=omega) only[go_sem]
   rw[hx,hTe,vT,dX,dF,jQ]
  have k9:=h
  with_reducible refine aS (fun hb=> ?_) (fun hb=> ?_)<;>have h:=hb<;>(try simp only[wf_preprocess] at h)<;>simp -implicitDefEqProofs (disch:=omega) only[go_sem,hb]<;>(repeat(with_reducible refine And.intro ?_ ?_;focus first|omega|rfl|assumption|exact⟨_,rfl,rfl⟩|(simp;omega)|(simp;done)))
  ·have hx:=j3 k1 k2 k3 (by omega)
   have hh:jS x.aX x.bR x.fName x.fType=bf [x.fName]:=by rw[jF h];rfl
   rw[hh] at hx vT
   (repeat(with_reducible refine And.intro ?_ ?_;focus first|omega|rfl|assumption|exact⟨_,rfl,rfl⟩|(simp;omega)|(simp;done)))
   refine bV rfl (dh.args (mH [x.fName] (by simp) n (n+1) _ _) (.cons (mG n _) .nil)) ?_
   have Lb:(lx (bf [x.fName]) (n+1)).length=1:=by rw[fK];rfl
   have Lc:=jB (l:=bf [x.fName]) (n:=n+1)
   simp -implicitDefEqProofs (disch:=omega) only[go_sem]
   (repeat(with_reducible refine And.intro ?_ ?_;focus first|omega|rfl|assumption|exact⟨_,rfl,rfl⟩|(simp;omega)|(simp;done)))
   refine bV rfl (jr 0 5 _ _) ?_
   simp -implicitDefEqProofs (disch:=omega) only[go_sem]
   rw[hx,hTe,vT,dX,dF,jQ]
  have k10:=h
  with_reducible refine aS (fun hb=> ?_) (fun hb=> ?_)<;>have h:=hb<;>(try simp only[wf_preprocess] at h)<;>simp -implicitDefEqProofs (disch:=omega) only[go_sem,hb]<;>(repeat(with_reducible refine And.intro ?_ ?_;focus first|omega|rfl|assumption|exact⟨_,rfl,rfl⟩|(simp;omega)|(simp;done)))
  ·have hx:=j3 k1 k2 k3 (by omega)
   have hh:jS x.aX x.bR x.fName x.fType=bf [zL,x.bR]:=by rw[jF h];rfl
   rw[hh] at hx vT
   (repeat(with_reducible refine And.intro ?_ ?_;focus first|omega|rfl|assumption|exact⟨_,rfl,rfl⟩|(simp;omega)|(simp;done)))
   refine bV rfl (dh.args (mH [zL,x.bR] (by simp) n (n+1) _ _) (.cons (mG n _) .nil)) ?_
   have Lb:(lx (bf [zL,x.bR]) (n+1)).length=2:=by rw[fK];rfl
   have Lc:=jB (l:=bf [zL,x.bR]) (n:=n+1)
   simp -implicitDefEqProofs (disch:=omega) only[go_sem]
   (repeat(with_reducible refine And.intro ?_ ?_;focus first|omega|rfl|assumption|exact⟨_,rfl,rfl⟩|(simp;omega)|(simp;done)))
   refine bV rfl (jr 0 5 _ _) ?_
   simp -implicitDefEqProofs (disch:=omega) only[go_sem]
   rw[hx,hTe,vT,dX,dF,jQ]
  have k11:=h
  with_reducible refine aS (fun hb=> ?_) (fun hb=> ?_)<;>have h:=hb<;>(try simp only[wf_preprocess] at h)<;>simp -implicitDefEqProofs (disch:=omega) only[go_sem,hb]<;>(repeat(with_reducible refine And.intro ?_ ?_;focus first|omega|rfl|assumption|exact⟨_,rfl,rfl⟩|(simp;omega)|(simp;done)))
  ·have hx:=j3 k1 k2 k3 (by omega)
   have hh:jS x.aX x.bR x.fName x.fType=[cu FM,dA x.fType]:=by rw[jF h];rfl
   rw[hh] at hx vT
   have hty:=hfi.2.2.2.2.1
   rw[if_pos h] at hty
   refine ah (dx _ (n+1)) ?_
   simp -implicitDefEqProofs (disch:=omega) only[go_sem]
   refine ah (jU x.fType (n+1+1) (vD hty) (by omega)) ?_
   simp -implicitDefEqProofs (disch:=omega) only[go_sem]
   (repeat(with_reducible refine And.intro ?_ ?_;focus first|omega|rfl|assumption|exact⟨_,rfl,rfl⟩|(simp;omega)|(simp;done)))
   refine bV rfl (jr 0 4 _ _) ?_
   simp -implicitDefEqProofs (disch:=omega) only[go_sem]
   rw[hx,hTe,vT,dX,dF,jQ]
   simp only[iN,lq,iM,jG,jH,jl,TV,Wy,FM,List.cons_append,List.nil_append]
  ·have:=hfi.1
   omega
theorem vL(x:au)(n:Nat)(hok:iE x=true)(hsz:x.sz≤4194304):aG Tryz.prog 112 [x.v] (.agg [.d (.s (fH x).dI),.d (.ol n (lx (fH x).bF (n+1)))]):=IL _ x (Nat.lt_succ_self _) n hok hsz
end Go.Proofs.YtlmhknhlmicmeaaGreatDoor
namespace Go.Proofs.YtlmhknhlmicmeaaGreatDoor
open Go Go.Ab
theorem oG(hd:List ak)(xs:List au)(S:Store)(hA:∀t∈xs,aG Tryz.prog 108 [t.v] (fH t).v)(hl:xs.length≤4194304)(hh:hd.length≤4):dh Tryz.prog 206 [.c (.bD (hd.map ak.enc)),.c (.d (.sl (xs.map au.enc)))] S
 (fun r S'=>r=.agg [.d (.s []),.d (.sl ((hd++xs.map fH).map ak.enc))]∧S'=S):=by
 obtain⟨T,hT⟩:∃T:Nat→List (List D),T=fun i=>(hd++(xs.map fH).take i).map ak.enc:=⟨_,rfl⟩
 have hT0:T 0=hd.map ak.enc:=by rw[hT];simp only[List.take_zero,List.append_nil]
 have eO:∀i,(T i).length≤i+hd.length:=fun i=>by
  rw[hT];simp only[List.length_map,List.length_append]
  have:=List.length_take_le i (xs.map fH)
  omega
 have hTs:∀i (hi:i<xs.length),T i++[[.s (fH xs[i]).dI,.sl ((fH xs[i]).bF.map ak.enc)]]=T (i+1):=fun i hi=>by
  have:=iB (base:=hd) (l:=xs.map fH) (i:=i) (by rw[List.length_map];exact hi)
  rw[List.getElem_map] at this
  rw[hT];exact this
 have hTe:T xs.length=(hd++xs.map fH).map ak.enc:=by rw[hT];simp only;rw[List.take_of_length_le (by simp)]
 clear hT
 rw[←hT0]
 rw[←hTe]
 refine aA (rs:=[.cell 4 32]) Tryz.checked.mixed Tryz.func206 Tryz.ntmps206 rfl rfl rfl rfl rfl ?_
 first|refine W1 ?_|exact Z1
 refine pz 1 1 2 (T 0) [.d (.s []),.bD (T 0)] rfl rfl (by rw[hT0];exact jE) ?_
 refine aV (ι:=Nat) Tryz.checked.mixed rfl [1,4,5,6] (fun i=>[.c (.d (.sl (xs.map au.enc))),.c (.ptr (0,0) 0),.c (.ptr (0,1) 0),.c (.d (.i .i64 i))])
  (fun i=>[.box [.d (.s []),.bD []],.box [.d (.s []),.bU (0,2) (T i)],.tok 2 (T i)]::S)
  (fun i=>i≤xs.length) (fun i=>xs.length-i) 0 rfl rfl (Nat.zero_le _) ?_
 intro i hi
 have hl:=eO i
 first|refine W1 ?_|exact Z1
 with_reducible refine aS (fun hb=> ?_) (fun hb=> ?_)<;>have h:=hb<;>(try simp only[wf_preprocess] at h)<;>simp -implicitDefEqProofs (disch:=omega) only[go_sem,hb]<;>(repeat(with_reducible refine And.intro ?_ ?_;focus first|omega|rfl|assumption|exact⟨_,rfl,rfl⟩|(simp;omega)|(simp;done)))
 ·have hi':i<xs.length:=by omega
  have hs:=hTs i hi'
  refine W3 ?_
  refine ah (hA xs[i] (List.getElem_mem hi')) ?_
  first|refine W1 ?_|exact Z1
  (repeat(with_reducible refine And.intro ?_ ?_;focus first|omega|rfl|assumption|exact⟨_,rfl,rfl⟩|(simp;omega)|(simp;done)))
  rw[hs]
  exact bL (i+1) (by omega) rfl rfl (by omega)
 ·have hi':i=xs.length:=by omega
  subst hi'
  rfl
theorem O1(hd:List ak)(xs:List au)(bT:List Ab.Obj)(Ω:Store)(hA:∀t∈xs,aG Tryz.prog 108 [t.v] (fH t).v)(hl:xs.length≤4194304)(hh:hd.length≤4):dh Tryz.prog 206 [.c (.bD (hd.map ak.enc)),.c (.d (.sl (xs.map au.enc)))] (bT::Ω)
 (fun r S'=>r=.agg [.d (.s []),.bU (0,bT.length+2) ((hd++xs.map fH).map ak.enc)]∧S'=(bT++[.box [.d (.s []),.bU (0,bT.length+2) ((hd++xs.map fH).map ak.enc)],.box [.d (.s []),.bU (0,bT.length+2) ((hd++xs.map fH).map ak.enc)],.tok 2 ((hd++xs.map fH).map ak.enc)])::Ω):=by
 obtain⟨T,hT⟩:∃T:Nat→List (List D),T=fun i=>(hd++(xs.map fH).take i).map ak.enc:=⟨_,rfl⟩
 have hT0:T 0=hd.map ak.enc:=by rw[hT];simp only[List.take_zero,List.append_nil]
 have eO:∀i,(T i).length≤i+hd.length:=fun i=>by
  rw[hT];simp only[List.length_map,List.length_append]
  have:=List.length_take_le i (xs.map fH)
  omega
 have hTs:∀i (hi:i<xs.length),T i++[[.s (fH xs[i]).dI,.sl ((fH xs[i]).bF.map ak.enc)]]=T (i+1):=fun i hi=>by
  have:=iB (base:=hd) (l:=xs.map fH) (i:=i) (by rw[List.length_map];exact hi)
  rw[List.getElem_map] at this
  rw[hT];exact this
 have hTe:T xs.length=(hd++xs.map fH).map ak.enc:=by rw[hT];simp only;rw[List.take_of_length_le (by simp)]
 clear hT
 rw[←hT0]
 rw[←hTe]
 refine K5 (rs:=[.cell 4 32]) Tryz.checked.mixed Tryz.func206 Tryz.ntmps206 rfl rfl rfl rfl rfl ?_
 first|refine W1 ?_|exact Z1
 refine pz 1 1 2 (T 0) [.d (.s []),.bD (T 0)] rfl rfl (by rw[hT0];exact jE) ?_
 refine aV (ι:=Nat) Tryz.checked.mixed rfl [1,4,5,6] (fun i=>[.c (.d (.sl (xs.map au.enc))),.c (.ptr (0,0) 0),.c (.ptr (0,1) 0),.c (.d (.i .i64 i))])
  (fun i=>[.box [.d (.s []),.bD []],.box [.d (.s []),.bU (0,2) (T i)],.tok 2 (T i)]::bT::Ω)
  (fun i=>i≤xs.length) (fun i=>xs.length-i) 0 rfl rfl (Nat.zero_le _) ?_
 intro i hi
 have hl:=eO i
 first|refine W1 ?_|exact Z1
 with_reducible refine aS (fun hb=> ?_) (fun hb=> ?_)<;>have h:=hb<;>(try simp only[wf_preprocess] at h)<;>simp -implicitDefEqProofs (disch:=omega) only[go_sem,hb]<;>(repeat(with_reducible refine And.intro ?_ ?_;focus first|omega|rfl|assumption|exact⟨_,rfl,rfl⟩|(simp;omega)|(simp;done)))
 ·have hi':i<xs.length:=by omega
  have hs:=hTs i hi'
  refine W3 ?_
  refine ah (hA xs[i] (List.getElem_mem hi')) ?_
  first|refine W1 ?_|exact Z1
  (repeat(with_reducible refine And.intro ?_ ?_;focus first|omega|rfl|assumption|exact⟨_,rfl,rfl⟩|(simp;omega)|(simp;done)))
  rw[hs]
  exact bL (i+1) (by omega) rfl rfl (by omega)
 ·have hi':i=xs.length:=by omega
  subst hi'
  exact⟨rfl,rfl⟩
theorem IQ:∀N:Nat,∀x:au,SizeOf.sizeOf x<N→iE x=true→x.sz≤4194304→aG Tryz.prog 108 [x.v] (fH x).v
 |0=>fun x h=>by omega
 |N+1=>by
  have ih:=IQ N
  intro x hn hok hsz S
  have jf:=au.fI x
  have tu:=au.mo x
  have hzz:=FT x
  rw[uP,Bool.and_eq_true,Bool.and_eq_true] at hok
  obtain⟨hfi,hoa,O0⟩:=hok
  have hfi:=ji hfi
  have hoa:=z8.1 hoa
  have O0:=BR.1 O0
  have hA:∀t∈x.fArgs,aG Tryz.prog 108 [t.v] (fH t).v:=fun t ht=>ih t (by have:=List.sizeOf_lt_of_mem ht;omega) (hoa t ht) (by have:=La ht;omega)
  have hxe:=Dn x
  refine aA (rs:=[.cell 2 32]) Tryz.checked.mixed Tryz.func108 Tryz.ntmps108 rfl rfl rfl rfl rfl ?_
  first|refine W1 ?_|exact Z1
  first|refine S0 (fun hb h=>?_) (fun hb h=>?_)|refine S1 fun hb h=>?_|refine S2 fun hb h=>?_|exact S3
  ·rw[if_pos h] at hxe
   rw[hxe]
   have hb:=hfi.2.2.2.1
   rw[if_pos h] at hb
   refine ah (F4 x.fN (by omega) (by omega)) ?_
   first|refine W1 ?_|exact Z1
   refine ah (bW _) ?_
   first|refine W1 ?_|exact Z1
   rfl
  have k1:=h
  rw[if_neg h] at hxe
  first|refine S0 (fun hb h=>?_) (fun hb h=>?_)|refine S1 fun hb h=>?_|refine S2 fun hb h=>?_|exact S3
  ·rw[if_pos h] at hxe
   rw[hxe]
   have hb:=hfi.2.2.2.1
   rw[if_neg k1,if_pos h] at hb
   rcases hb with e|e
   ·rw[e]
    simp -implicitDefEqProofs (disch:=omega) only[go_sem,List.getD_cons_zero]
    refine W3 ?_
    refine ah (bW _) ?_
    first|refine W1 ?_|exact Z1
    rfl
   ·rw[e]
    simp -implicitDefEqProofs (disch:=omega) only[go_sem,List.getD_cons_zero,List.getD_cons_succ]
    (repeat(with_reducible refine And.intro ?_ ?_;focus first|omega|rfl|assumption|exact⟨_,rfl,rfl⟩|(simp;omega)|(simp;done)))
    refine ah (bW _) ?_
    first|refine W1 ?_|exact Z1
    rfl
  have k2:=h
  rw[if_neg h] at hxe
  first|refine S0 (fun hb h=>?_) (fun hb h=>?_)|refine S1 fun hb h=>?_|refine S2 fun hb h=>?_|exact S3
  ·rw[if_pos h] at hxe
   rw[hxe]
   refine ah (bW _) ?_
   first|refine W1 ?_|exact Z1
   rfl
  have k3:=h
  clear hxe
  first|refine S0 (fun hb h=>?_) (fun hb h=>?_)|refine S1 fun hb h=>?_|refine S2 fun hb h=>?_|exact S3
  ·have hx:=j3 k1 k2 k3 (by omega)
   have hh:jS x.aX x.bR x.fName x.fType=[cu zK,cu x.fName]:=by rw[jF h];rfl
   rw[hh] at hx
   refine ah (bW _) ?_
   first|refine W1 ?_|exact Z1
   refine ah (bW _) ?_
   first|refine W1 ?_|exact Z1
   have hE:=fun S=>oG [cu zK,cu x.fName] x.fArgs S hA (by omega) (by simp)
   simp only[List.map_cons,List.map_nil,eT] at hE
   refine bV rfl (hE _) ?_
   first|refine W1 ?_|exact Z1
   rw[hx]
   rfl
  have k4:=h
  first|refine S0 (fun hb h=>?_) (fun hb h=>?_)|refine S1 fun hb h=>?_|refine S2 fun hb h=>?_|exact S3
  ·have hx:=j3 k1 k2 k3 (by omega)
   have hh:jS x.aX x.bR x.fName x.fType=[cu uQ,cu x.bR,cu x.fName]:=by rw[jF h];rfl
   rw[hh] at hx
   refine ah (bW _) ?_
   first|refine W1 ?_|exact Z1
   refine ah (bW _) ?_
   first|refine W1 ?_|exact Z1
   refine ah (bW _) ?_
   first|refine W1 ?_|exact Z1
   have hE:=fun S=>oG [cu uQ,cu x.bR,cu x.fName] x.fArgs S hA (by omega) (by simp)
   simp only[List.map_cons,List.map_nil,eT] at hE
   refine bV rfl (hE _) ?_
   first|refine W1 ?_|exact Z1
   rw[hx]
   rfl
  have k5:=h
  first|refine S0 (fun hb h=>?_) (fun hb h=>?_)|refine S1 fun hb h=>?_|refine S2 fun hb h=>?_|exact S3
  ·have hx:=j3 k1 k2 k3 (by omega)
   have hh:jS x.aX x.bR x.fName x.fType=[cu Dl,cu x.fName]:=by rw[jF h];rfl
   rw[hh] at hx
   refine ah (bW _) ?_
   first|refine W1 ?_|exact Z1
   refine ah (bW _) ?_
   first|refine W1 ?_|exact Z1
   have hE:=fun S=>oG [cu Dl,cu x.fName] x.fArgs S hA (by omega) (by simp)
   simp only[List.map_cons,List.map_nil,eT] at hE
   refine bV rfl (hE _) ?_
   first|refine W1 ?_|exact Z1
   rw[hx]
   rfl
  have k6:=h
  first|refine S0 (fun hb h=>?_) (fun hb h=>?_)|refine S1 fun hb h=>?_|refine S2 fun hb h=>?_|exact S3
  ·have hx:=j3 k1 k2 k3 (by omega)
   have hh:jS x.aX x.bR x.fName x.fType=[cu Dm,cu x.fName]:=by rw[jF h];rfl
   rw[hh] at hx
   refine ah (bW _) ?_
   first|refine W1 ?_|exact Z1
   refine ah (bW _) ?_
   first|refine W1 ?_|exact Z1
   have hE:=fun S=>oG [cu Dm,cu x.fName] x.fArgs S hA (by omega) (by simp)
   simp only[List.map_cons,List.map_nil,eT] at hE
   refine bV rfl (hE _) ?_
   first|refine W1 ?_|exact Z1
   rw[hx]
   rfl
  have k8:=h
  first|refine S0 (fun hb h=>?_) (fun hb h=>?_)|refine S1 fun hb h=>?_|refine S2 fun hb h=>?_|exact S3
  ·have hx:=j3 k1 k2 k3 (by omega)
   have hh:jS x.aX x.bR x.fName x.fType=[cu K3]:=by rw[jF h];rfl
   rw[hh] at hx
   refine ah (bW _) ?_
   first|refine W1 ?_|exact Z1
   have hE:=fun S=>oG [cu K3] x.fArgs S hA (by omega) (by simp)
   simp only[List.map_cons,List.map_nil,eT] at hE
   refine bV rfl (hE _) ?_
   first|refine W1 ?_|exact Z1
   rw[hx]
   rfl
  have k9:=h
  first|refine S0 (fun hb h=>?_) (fun hb h=>?_)|refine S1 fun hb h=>?_|refine S2 fun hb h=>?_|exact S3
  ·have hx:=j3 k1 k2 k3 (by omega)
   have hh:jS x.aX x.bR x.fName x.fType=[cu x.fName]:=by rw[jF h];rfl
   rw[hh] at hx
   refine ah (bW _) ?_
   first|refine W1 ?_|exact Z1
   have hE:=fun S=>oG [cu x.fName] x.fArgs S hA (by omega) (by simp)
   simp only[List.map_cons,List.map_nil,eT] at hE
   refine bV rfl (hE _) ?_
   first|refine W1 ?_|exact Z1
   rw[hx]
   rfl
  have k10:=h
  first|refine S0 (fun hb h=>?_) (fun hb h=>?_)|refine S1 fun hb h=>?_|refine S2 fun hb h=>?_|exact S3
  ·have hx:=j3 k1 k2 k3 (by omega)
   have hh:jS x.aX x.bR x.fName x.fType=[cu zL,cu x.bR]:=by rw[jF h];rfl
   rw[hh] at hx
   refine ah (bW _) ?_
   first|refine W1 ?_|exact Z1
   refine ah (bW _) ?_
   first|refine W1 ?_|exact Z1
   have hE:=fun S=>oG [cu zL,cu x.bR] x.fArgs S hA (by omega) (by simp)
   simp only[List.map_cons,List.map_nil,eT] at hE
   refine bV rfl (hE _) ?_
   first|refine W1 ?_|exact Z1
   rw[hx]
   rfl
  have k11:=h
  first|refine S0 (fun hb h=>?_) (fun hb h=>?_)|refine S1 fun hb h=>?_|refine S2 fun hb h=>?_|exact S3
  ·have hx:=j3 k1 k2 k3 (by omega)
   have hh:jS x.aX x.bR x.fName x.fType=[cu FM,dA x.fType]:=by rw[jF h];rfl
   rw[hh] at hx
   refine ah (bW _) ?_
   first|refine W1 ?_|exact Z1
   refine ah (kC x.fType (by omega)) ?_
   first|refine W1 ?_|exact Z1
   have hE:=fun S=>oG [cu FM,dA x.fType] x.fArgs S hA (by omega) (by simp)
   simp only[List.map_cons,List.map_nil,eT,ak.aC (dA x.fType)] at hE
   refine bV rfl (hE _) ?_
   first|refine W1 ?_|exact Z1
   rw[hx]
   show _=V.agg [.d (.s []),.d (.sl (List.map ak.enc (cu FM::dA x.fType::x.fArgs.map fH)))]
   simp only[List.cons_append,List.nil_append,List.map_cons,eT,ak.aC (dA x.fType)]
   rfl
  have k12:=h
  have hk7:x.aX=7:=by have:=hfi.1;omega
  have hx:=Dn x
  rw[if_neg k1,if_neg k2,if_neg k3,if_neg (by omega)] at hx
  have hh:jS x.aX x.bR x.fName x.fType=[cu qP]:=by rw[jF hk7];rfl
  rw[hh] at hx
  refine ah (bW _) ?_
  first|refine W1 ?_|exact Z1
  have hE:=fun bT Ω=>O1 [cu qP] x.fArgs bT Ω hA (by omega) (by simp)
  obtain⟨B,hB⟩:∃B:Nat→List (List D),B=fun i=>(([cu qP]++x.fArgs.map fH)++(x.aZ.map xU).take i).map ak.enc:=⟨_,rfl⟩
  have hB0:([cu qP]++x.fArgs.map fH).map ak.enc=B 0:=by rw[hB];simp only[List.take_zero,List.append_nil]
  have hBl:∀i,(B i).length≤i+x.fArgs.length+1:=fun i=>by
   rw[hB];simp only[List.length_append,List.length_map,List.length_cons,List.length_nil]
   have:=List.length_take_le i (x.aZ.map xU)
   omega
  have hBr:∀i,∀r∈B i,r.length=2:=fun i=>by rw[hB];exact jE
  have hBs:∀i (hi:i<x.aZ.length),B i++[[.s [],.sl (([cu x.aZ[i].dK]++bf x.aZ[i].aF++[fH x.aZ[i].fBody]).map ak.enc)]]=B (i+1):=fun i hi=>by
   have:=iB (base:=[cu qP]++x.fArgs.map fH) (l:=x.aZ.map xU) (i:=i) (by rw[List.length_map];exact hi)
   rw[List.getElem_map,Wd,dX,dF] at this
   rw[hB];exact this
  have hBe:B x.aZ.length=([cu qP]++x.fArgs.map fH++x.aZ.map xU).map ak.enc:=by rw[hB];simp only;rw[List.take_of_length_le (by simp)]
  clear hB
  simp only[hB0] at hE
  simp only[List.map_cons,List.map_nil,eT] at hE
  refine bV rfl (hE _ _) ?_
  first|refine W1 ?_|exact Z1
  refine aV (ι:=Nat) Tryz.checked.mixed rfl [1,2,3,4] (fun i=>[.c (.ptr (0,0) 0),.c (.ptr (0,1) 0),.c (.ptr (0,5) 0),.c (.d (.i .i64 i))])
   (fun i=>[.box [.d (.i .i64 x.aX),.d (.s x.bR),.d (.s x.fName),.d (.i .i64 x.fN),.d (.i .i64 x.fType.aX),.d (.s x.fType.fName),.d (.sl (x.fType.fArgs.map aj.enc)),.d (.sl (x.fArgs.map au.enc)),.d (.sl (x.aZ.map aW.enc))],.box [.d (.s []),.bD []],.box [.d (.s []),.bU (0,4) (B 0)],.box [.d (.s []),.bU (0,4) (B 0)],.tok 2 (B i),.box [.d (.s []),.bU (0,4) (B i)]]::S)
   (fun i=>i≤x.aZ.length) (fun i=>x.aZ.length-i) 0 rfl rfl (Nat.zero_le _) ?_
  intro i hi
  have hl:=hBl i
  have hr:=hBr i
  first|refine W1 ?_|exact Z1
  with_reducible refine aS (fun hb=> ?_) (fun hb=> ?_)<;>have h:=hb<;>(try simp only[wf_preprocess] at h)<;>simp -implicitDefEqProofs (disch:=omega) only[go_sem,hb]<;>(repeat(with_reducible refine And.intro ?_ ?_;focus first|omega|rfl|assumption|exact⟨_,rfl,rfl⟩|(simp;omega)|(simp;done)))
  ·have hi':i<x.aZ.length:=by omega
   have hm:=List.getElem_mem hi'
   have Zz:=IK hm
   have hea:=Dp x.aZ[i]
   have hs:=hBs i hi'
   have hak:=O0 _ hm
   rw[pV,Bool.and_eq_true,Bool.and_eq_true] at hak
   have hls:=List.sizeOf_lt_of_mem hm
   have hlb:=aW.kW x.aZ[i]
   refine W3 ?_
   refine ah (bW _) ?_
   first|refine W1 ?_|exact Z1
   refine W3 ?_
   refine ah (Dz x.aZ[i].aF (by omega)) ?_
   have hwr:=jE (l:=bf x.aZ[i].aF)
   have hwl:(bf x.aZ[i].aF).length=x.aZ[i].aF.length:=by rw[iR]
   first|refine W1 ?_|exact Z1
   (repeat(with_reducible refine And.intro ?_ ?_;focus first|omega|rfl|assumption|exact⟨_,rfl,rfl⟩|(simp;omega)|(simp;done)))
   refine ah (ih x.aZ[i].fBody (by omega) hak.2.2 (by omega)) ?_
   first|refine W1 ?_|exact Z1
   (repeat(with_reducible refine And.intro ?_ ?_;focus first|omega|rfl|assumption|exact⟨_,rfl,rfl⟩|(simp;omega)|(simp;done)))
   simp only[List.cons_append,List.nil_append,List.map_cons,List.map_nil,List.map_append,eT,ak.aC (fH x.aZ[i].fBody)] at hs
   rw[hs]
   exact dz 6 (by decide) (i+1) (by omega) rfl rfl rfl rfl (by omega)
  ·have hi':i=x.aZ.length:=by omega
   subst hi'
   rw[hx,hBe]
   rfl
theorem qC(x:au)(hok:iE x=true)(hsz:x.sz≤4194304):aG Tryz.prog 108 [x.v] (fH x).v:=IQ _ x (Nat.lt_succ_self _) hok hsz
end Go.Proofs.YtlmhknhlmicmeaaGreatDoor
namespace Go.Ab
theorem au.bounds{x:au}(h:x.sz≤4194304):x.bR.length≤4194304∧x.fName.length≤4194304∧x.fArgs.length≤4194304∧x.aZ.length≤4194304∧x.fType.sz≤4194304:=by
 simp only[au.sz,au.aC,bP,bA,D.sz,List.length_map,aj.dw] at h
 omega
theorem au.arg_b{x:au}{i:Nat}(hi:i<x.fArgs.length)(h:x.sz≤4194304):x.fArgs[i].sz≤4194304:=by
 have hx:x.fArgs[i].sz≤aI (x.fArgs.map au.enc):=bI (List.mem_map_of_mem (List.getElem_mem hi))
 simp only[au.sz,au.aC,bP,bA,D.sz,List.length_map] at h
 omega
theorem au.MP{x:au}{i:Nat}(hi:i<x.aZ.length)(h:x.sz≤4194304):x.aZ[i].sz≤4194304:=by
 have hx:x.aZ[i].sz≤aI (x.aZ.map aW.enc):=bI (List.mem_map_of_mem (List.getElem_mem hi))
 simp only[au.sz,au.aC,bP,bA,D.sz,List.length_map] at h
 omega
theorem aW.bounds{x:aW}(h:x.sz≤4194304):x.dK.length≤4194304∧x.aF.length≤4194304∧(∀s∈x.aF,s.length≤4194304)∧x.fBody.sz≤4194304:=by
 have hb:=aW.JJ x
 simp only[aW.sz,aW.aC,bP,bA,D.sz,List.length_map] at h hb
 refine⟨by omega,by omega,fun s hs=> ?_,by omega⟩
 have:=pG hs
 omega
theorem IU(k:Int):(k<1∨12<k)∨k=1∨k=2∨k=3∨k=4∨k=5∨k=6∨k=7∨k=8∨k=9∨k=10∨k=11∨k=12:=by omega
end Go.Ab
namespace Go.Proofs.YtlmhknhlmicmeaaGreatDoor
open Go Go.Ab
set_option maxHeartbeats 8000000 in
theorem O3(x:au)(hsz:x.sz≤4194304)(hc:x.fArgs.length≤300):aG Tryz.prog 282 [x.v] (.c (.d (.b (dec (rG x))))):=fun S=>by
 have hb0:=au.bounds hsz
 have hz:vI x.fType→mF x.fType=false:=Io
 rcases IU x.aX with hk|hk|hk|hk|hk|hk|hk|hk|hk|hk|hk|hk|hk
 ·have h1:¬rG x:=fun h=>by have:=h.1;omega
  refine aA (rs:=[.tmp 2]) Tryz.checked.mixed Tryz.func282 Tryz.ntmps282 rfl rfl rfl rfl rfl ?_
  first|refine W1 ?_|exact Z1
  refine ah (Fb x.aX) ?_
  first|refine W2 ?_|exact Z2
  first|refine S0 (fun hb h=>?_) (fun hb h=>?_)|refine S1 fun hb h=>?_|refine S2 fun hb h=>?_|exact S3
  ·exact aB (aH h1).symm
  first|refine S0 (fun hb h=>?_) (fun hb h=>?_)|refine S1 fun hb h=>?_|refine S2 fun hb h=>?_|exact S3
  ·exact aB (aH h1).symm
  ·omega
 all_goals
  refine aA (rs:=[.tmp 2]) Tryz.checked.mixed Tryz.func282 Tryz.ntmps282 rfl rfl rfl rfl rfl ?_
  simp -implicitDefEqProofs (disch:=omega) only[go_sem,hk]
  refine ah (Fb _) ?_
  simp -implicitDefEqProofs (disch:=omega) only[go_sem,hk,TR,TS]
  repeat' (first
   |with_reducible refine aS (fun hb=> ?_) (fun hb=> ?_)<;>have h:=hb<;>(try simp only[wf_preprocess] at h)<;>simp -implicitDefEqProofs (disch:=omega) only[go_sem,hb,hk]<;>(repeat(with_reducible refine And.intro ?_ ?_;focus first|omega|rfl|assumption|exact⟨_,rfl,rfl⟩|(simp;omega)|(simp;done)))
   |((with_reducible show fq _ _ 168 _ _ _ _);refine ah (gJ x.fName (by omega)) ?_;simp -implicitDefEqProofs (disch:=omega) only[go_sem,hk])
   |((with_reducible show fq _ _ 168 _ _ _ _);refine ah (gJ x.bR (by omega)) ?_;simp -implicitDefEqProofs (disch:=omega) only[go_sem,hk])
   |((with_reducible show fq _ _ 328 _ _ _ _);refine ah (L8 x.fName) ?_;simp -implicitDefEqProofs (disch:=omega) only[go_sem,hk])
   |((with_reducible show fq _ _ 238 _ _ _ _);refine ah (Cn x.fType) ?_;simp -implicitDefEqProofs (disch:=omega) only[go_sem,hk])
   |((with_reducible show fq _ _ 295 _ _ _ _);refine ah (uE x.fType (by omega)) ?_;simp -implicitDefEqProofs (disch:=omega) only[go_sem,hk])
   |(refine aB (Bool.eq_iff_iff.2 ?_);simp only[wS,rG,hk];grind [ji,iW,bJ,aH]))
end Go.Proofs.YtlmhknhlmicmeaaGreatDoor
namespace Go.Ab
theorem au.aa0{x:au}{y:au}(h:y∈x.fArgs):y.cnt+1≤x.cnt:=by
 rw[au.nZ x]
 have:∀xs:List au,y∈xs→y.cnt≤au.eB xs:=by
  intro xs
  induction xs with
  |nil=>intro h;cases h
  |cons z zs ih=>
   intro h
   rw[au.eB]
   rcases List.mem_cons.1 h with e|e
   ·subst e;omega
   ·have:=ih e;omega
 have:=this _ h
 omega
theorem au.aa1{x:au}{y:aW}(h:y∈x.aZ):y.fBody.cnt+1≤x.cnt:=by
 rw[au.nZ x]
 have:∀xs:List aW,y∈xs→y.fBody.cnt≤aW.eB xs:=by
  intro xs
  induction xs with
  |nil=>intro h;cases h
  |cons z zs ih=>
   intro h
   rw[aW.eB]
   rcases List.mem_cons.1 h with e|e
   ·subst e;rw[aW.nZ];omega
   ·have:=ih e;omega
 have:=this _ h
 omega
theorem au.aa2(x:au):x.fArgs.length+1≤x.cnt:=by
 rw[au.nZ x]
 have:∀xs:List au,xs.length≤au.eB xs:=by
  intro xs
  induction xs with
  |nil=>simp
  |cons z zs ih=>rw[au.eB,List.length_cons];have:=au.nZ z;omega
 have:=this x.fArgs
 omega
def Uf(k:Int):Bool:=if k=5∨k=11 then true else false
def Ug(k:Int):Bool:=if k=3∨k=4∨k=6∨k=5∨k=8∨k=10 then true else false
def Uh(k:Int):Bool:=if k=1∨k=2 then true else false
def Ui(k:Int):Bool:=if k=1∨k=2∨k=3∨k=4∨k=6∨k=5∨k=7∨k=8∨k=10∨k=9∨k=11 then false else true
def Uj(k:Int):Int:=if k=1∨k=2∨k=3 then 0 else if k=4∨k=6∨k=5 then -1 else if k=8∨k=10 then 2 else if k=9 then 3 else 1
def Uk(k:Int):Bool:=if k=7 then true else false
end Go.Ab
namespace Go.Proofs.YtlmhknhlmicmeaaGreatDoor
open Go Go.Ab
theorem IV:∀n:Nat,∀x:au,SizeOf.sizeOf x<n→x.sz≤4194304→x.cnt≤300→aG Tryz.prog 211 [x.v] (.c (.d (.b (iE x))))
 |0=>fun x h=>by omega
 |n+1=>by
  have ih:=IV n
  intro x hn hsz hc S
  have hb0:=au.bounds hsz
  have jf:=au.fI x
  have tu:=au.mo x
  have hl:=au.aa2 x
  have h1:∀y∈x.fArgs,aG Tryz.prog 284 [y.v] (.c (.d (.b (!iE y)))):=fun y hy S=>by
   have hys:=List.sizeOf_lt_of_mem hy
   have hyc:=au.aa0 hy
   have hyz:y.sz≤4194304:=by obtain⟨i,hi,e⟩:=List.getElem_of_mem hy;rw[←e];exact au.arg_b hi hsz
   refine aA (rs:=[.tmp 2]) Tryz.checked.mixed Tryz.func284 Tryz.ntmps284 rfl rfl rfl rfl rfl ?_
   first|refine W1 ?_|exact Z1
   refine ah (ih y (by omega) hyz (by omega)) ?_
   first|refine W2 ?_|exact Z2
  have h2:∀y∈x.aZ,aG Tryz.prog 286 [y.v] (.c (.d (.b (!vJ y)))):=fun y hy S=>by
   have hys:=List.sizeOf_lt_of_mem hy
   have hyb:=aW.kW y
   have hyc:=au.aa1 hy
   have hyz:y.sz≤4194304:=by obtain⟨i,hi,e⟩:=List.getElem_of_mem hy;rw[←e];exact au.MP hi hsz
   have hyy:=aW.bounds hyz
   refine aA (rs:=[.tmp 2]) Tryz.checked.mixed Tryz.func286 Tryz.ntmps286 rfl rfl rfl rfl rfl ?_
   first|refine W1 ?_|exact Z1
   refine ah (gJ y.dK (by omega)) ?_
   first|refine W2 ?_|exact Z2
   first|refine S0 (fun hb h=>?_) (fun hb h=>?_)|refine S1 fun hb h=>?_|refine S2 fun hb h=>?_|exact S3
   ·exact aB (by rw[pV,h];rfl)
   have k1:=h
   refine ah (nA y.aF (by omega) hyy.2.2.1) ?_
   first|refine W2 ?_|exact Z2
   first|refine S0 (fun hb h=>?_) (fun hb h=>?_)|refine S1 fun hb h=>?_|refine S2 fun hb h=>?_|exact S3
   ·exact aB (by rw[pV,h];simp)
   have k2:=h
   refine ah (ih y.fBody (by omega) hyy.2.2.2 (by omega)) ?_
   first|refine W2 ?_|exact Z2
   exact aB (by rw[pV,k1,k2];simp)
  refine aA (rs:=[.tmp 2]) Tryz.checked.mixed Tryz.func211 Tryz.ntmps211 rfl rfl rfl rfl rfl ?_
  first|refine W1 ?_|exact Z1
  refine ah (O3 x hsz (by omega)) ?_
  first|refine W2 ?_|exact Z2
  first|refine S0 (fun hb h=>?_) (fun hb h=>?_)|refine S1 fun hb h=>?_|refine S2 fun hb h=>?_|exact S3
  ·exact aB (by rw[uP,aH h];rfl)
  have k1:=h
  refine W3 ?_
  refine bV rfl (Cy 284 [] _ x.fArgs (fun y=> !iE y) (by omega) fun y hy=>nu.JG (h1 y hy)) ?_
  first|refine W1 ?_|exact Z1
  rw[EY]
  first|refine S0 (fun hb h=>?_) (fun hb h=>?_)|refine S1 fun hb h=>?_|refine S2 fun hb h=>?_|exact S3
  ·exact aB (by rw[uP,h];simp)
  have k2:=h
  refine W3 ?_
  refine bV rfl (Di 286 [] _ x.aZ (fun y=> !vJ y) (by omega) fun y hy=>nu.JG (h2 y hy)) ?_
  first|refine W1 ?_|exact Z1
  rw[Im]
  exact aB (by rw[uP,bJ k1,k2];simp)
theorem F5(x:au)(hsz:x.sz≤4194304):aG Tryz.prog 111 [x.v] (.c (.d (.b (pI x)))):=fun S=>by
 refine aA (rs:=[.tmp 2]) Tryz.checked.mixed Tryz.func111 Tryz.ntmps111 rfl rfl rfl rfl rfl ?_
 first|refine W1 ?_|exact Z1
 refine ah (HY x hsz) ?_
 first|refine W2 ?_|exact Z2
 first|refine S0 (fun hb h=>?_) (fun hb h=>?_)|refine S1 fun hb h=>?_|refine S2 fun hb h=>?_|exact S3
 ·refine ah (IV _ x (Nat.lt_succ_self _) hsz (by omega)) ?_
  first|refine W2 ?_|exact Z2
  exact aB (by unfold pI;rw[bJ (by omega)];rfl)
 ·exact aB (by unfold pI;rw[aH (by omega)];rfl)
theorem Ld(k:Int):aG Tryz.prog 278 [.c (.d (.i .i64 k))] (.iO [(false,[.d (.b (Uf k))]),(false,[.d (.b (Ug k))]),(false,[.d (.b (Uh k))]),(false,[.d (.b (Ui k))]),(false,[.d (.i .i64 (Uj k))]),(false,[.d (.b (Uk k))])]):=fun S=>by
 refine aA (rs:=[.tmp 2,.tmp 3,.tmp 4,.tmp 5,.tmp 6,.tmp 7]) Tryz.checked.mixed Tryz.func278 Tryz.ntmps278 rfl rfl rfl rfl rfl ?_
 first|refine W1 ?_|exact Z1
 repeat' (first
  |with_reducible refine aS (fun hb=> ?_) (fun hb=> ?_)<;>have h:=hb<;>(try simp only[wf_preprocess] at h)<;>simp -implicitDefEqProofs (disch:=omega) only[go_sem,hb]<;>(repeat(with_reducible refine And.intro ?_ ?_;focus first|omega|rfl|assumption|exact⟨_,rfl,rfl⟩|(simp;omega)|(simp;done)))
  |(unfold Uf Ug Uh Ui Uj Uk;grind))
theorem IW(t:aj):aG Tryz.prog 254 [t.v] (.c (.d (.b (dec (vI t))))):=fun S=>by
 refine aA (rs:=[.tmp 2]) Tryz.checked.mixed Tryz.func254 Tryz.ntmps254 rfl rfl rfl rfl rfl ?_
 first|refine W1 ?_|exact Z1
 repeat' (first
  |with_reducible refine aS (fun hb=> ?_) (fun hb=> ?_)<;>have h:=hb<;>(try simp only[wf_preprocess] at h)<;>simp -implicitDefEqProofs (disch:=omega) only[go_sem,hb]<;>(repeat(with_reducible refine And.intro ?_ ?_;focus first|omega|rfl|assumption|exact⟨_,rfl,rfl⟩|(simp;omega)|(simp;done)))
  |(refine aB ?_;unfold vI;grind [bJ,aH,ji,iW]))
theorem Ul(s:List UInt8):aG Tryz.prog 279 [.c (.d (.s s))] (.c (.d (.b (dec (s∈ops))))):=fun S=>by
 refine aA (rs:=[.tmp 2]) Tryz.checked.mixed Tryz.func279 Tryz.ntmps279 rfl rfl rfl rfl rfl ?_
 first|refine W1 ?_|exact Z1
 refine W3 ?_
 refine ah (qN ops s (by decide)) ?_
 first|refine W2 ?_|exact Z2
theorem Fg:∀n:Nat,∀x:au,SizeOf.sizeOf x<n→x.sz≤4194304→∀l:Int,0≤l→l≤1048576→aG Tryz.prog 203 [x.v,.c (.d (.i .i64 l))] (.c (.d (.i .i64 (nL l x.cnt))))
 |0=>fun x h=>by omega
 |n+1=>by
  have ih:=Fg n
  intro x hn hsz l hl hl2 S
  have hb0:=au.bounds hsz
  have jf:=au.fI x
  have tu:=au.mo x
  have he:=au.nZ x
  refine aA (rs:=[.tmp 4]) Tryz.checked.mixed Tryz.func203 Tryz.ntmps203 rfl rfl rfl rfl rfl ?_
  first|refine W1 ?_|exact Z1
  refine aV (ι:=Nat×Int) Tryz.checked.mixed rfl [1,2,5] (fun y=>[.c (.d (.i .i64 y.2)),.c (.ptr (0,0) 0),.c (.d (.i .i64 y.1))]) (fun y=>[.box (x.enc.map .d)]::S)
   (fun y=>y.1≤x.fArgs.length∧(-1≤y.2∧y.2≤1048576)∧nL y.2 (au.eB (x.fArgs.drop y.1))=nL (l-1) (au.eB x.fArgs)) (fun y=>x.fArgs.length-y.1) (0,l-1) rfl ?_ ⟨Nat.zero_le _,by simp only;omega,rfl⟩ ?_
  ·first|refine W1 ?_|exact Z1
  rintro⟨i,c⟩ ⟨p1,p2,p3⟩
  simp only at p1 p2 p3
  have out:(i=x.fArgs.length∨c<0)→c=nL (l-1) (au.eB x.fArgs):=fun h=>by
   rcases h with h|h
   ·rw[h,List.drop_length,au.eB,Dk p2.1] at p3
    exact p3
   ·rw[←p3,FL h];omega
  have second:(i=x.fArgs.length∨c<0)→nL c (aW.eB x.aZ)=nL l x.cnt:=fun h=>by
   rw[out h,BI,he]
   unfold nL
   split<;>split<;>(try split)<;>omega
  first|refine W1 ?_|exact Z1
  first|refine S0 (fun hb h=>?_) (fun hb h=>?_)|refine S1 fun hb h=>?_|refine S2 fun hb h=>?_|exact S3
  ·have hi:i<x.fArgs.length:=by omega
   first|refine S0 (fun hb h=>?_) (fun hb h=>?_)|refine S1 fun hb h=>?_|refine S2 fun hb h=>?_|exact S3
   ·have hs:=List.sizeOf_lt_of_mem (List.getElem_mem hi)
    have hr:=JL (l:=c) (c:=x.fArgs[i].cnt) (by omega)
    rw[au.kY hi,←BI] at p3
    refine W3 ?_
    refine ah (ih x.fArgs[i] (by omega) (au.arg_b hi hsz) c (by omega) (by omega)) ?_
    first|refine W2 ?_|exact Z2
    exact bL (i+1,nL c x.fArgs[i].cnt) (by simp only;omega) rfl rfl ⟨by simp only;omega,by simp only;omega,p3⟩
   ·have p4:=second (.inr (by omega))
    clear second out p3
    refine aV (ι:=Nat×Int) Tryz.checked.mixed rfl [1,2,6] (fun y=>[.c (.d (.i .i64 y.2)),.c (.ptr (0,0) 0),.c (.d (.i .i64 y.1))]) (fun y=>[.box (x.enc.map .d)]::S)
     (fun y=>y.1≤x.aZ.length∧(-1≤y.2∧y.2≤1048576)∧nL y.2 (aW.eB (x.aZ.drop y.1))=nL l x.cnt) (fun y=>x.aZ.length-y.1) (0,c) rfl ?_ ⟨Nat.zero_le _,by simp only;omega,p4⟩ ?_
    ·first|refine W1 ?_|exact Z1
    clear p1 p2 p4
    rintro⟨i,d⟩ ⟨p1,p2,p3⟩
    simp only at p1 p2 p3
    first|refine W1 ?_|exact Z1
    first|refine S0 (fun hb h=>?_) (fun hb h=>?_)|refine S1 fun hb h=>?_|refine S2 fun hb h=>?_|exact S3
    ·have hi:i<x.aZ.length:=by omega
     first|refine S0 (fun hb h=>?_) (fun hb h=>?_)|refine S1 fun hb h=>?_|refine S2 fun hb h=>?_|exact S3
     ·have hs:=List.sizeOf_lt_of_mem (List.getElem_mem hi)
      have hs':=aW.kW x.aZ[i]
      have hr:=JL (l:=d) (c:=x.aZ[i].fBody.cnt) (by omega)
      rw[aW.kY hi,←BI] at p3
      refine W3 ?_
      refine ah (ih x.aZ[i].fBody (by omega) (aW.bounds (au.MP hi hsz)).2.2.2 d (by omega) (by omega)) ?_
      first|refine W2 ?_|exact Z2
      exact bL (i+1,nL d x.aZ[i].fBody.cnt) (by simp only;omega) rfl rfl ⟨by simp only;omega,by simp only;omega,p3⟩
     ·rw[FL (by omega)] at p3
      exact int_eq (by omega)
    ·have hi:i=x.aZ.length:=by omega
     rw[hi,List.drop_length,aW.eB,Dk p2.1] at p3
     exact int_eq (by omega)
  ·have p4:=second (.inl (by omega))
   clear second out p3
   refine aV (ι:=Nat×Int) Tryz.checked.mixed rfl [1,2,6] (fun y=>[.c (.d (.i .i64 y.2)),.c (.ptr (0,0) 0),.c (.d (.i .i64 y.1))]) (fun y=>[.box (x.enc.map .d)]::S)
    (fun y=>y.1≤x.aZ.length∧(-1≤y.2∧y.2≤1048576)∧nL y.2 (aW.eB (x.aZ.drop y.1))=nL l x.cnt) (fun y=>x.aZ.length-y.1) (0,c) rfl ?_ ⟨Nat.zero_le _,by simp only;omega,p4⟩ ?_
   ·first|refine W1 ?_|exact Z1
   clear p1 p2 p4
   rintro⟨i,d⟩ ⟨p1,p2,p3⟩
   simp only at p1 p2 p3
   first|refine W1 ?_|exact Z1
   first|refine S0 (fun hb h=>?_) (fun hb h=>?_)|refine S1 fun hb h=>?_|refine S2 fun hb h=>?_|exact S3
   ·have hi:i<x.aZ.length:=by omega
    first|refine S0 (fun hb h=>?_) (fun hb h=>?_)|refine S1 fun hb h=>?_|refine S2 fun hb h=>?_|exact S3
    ·have hs:=List.sizeOf_lt_of_mem (List.getElem_mem hi)
     have hs':=aW.kW x.aZ[i]
     have hr:=JL (l:=d) (c:=x.aZ[i].fBody.cnt) (by omega)
     rw[aW.kY hi,←BI] at p3
     refine W3 ?_
     refine ah (ih x.aZ[i].fBody (by omega) (aW.bounds (au.MP hi hsz)).2.2.2 d (by omega) (by omega)) ?_
     first|refine W2 ?_|exact Z2
     exact bL (i+1,nL d x.aZ[i].fBody.cnt) (by simp only;omega) rfl rfl ⟨by simp only;omega,by simp only;omega,p3⟩
    ·rw[FL (by omega)] at p3
     exact int_eq (by omega)
   ·have hi:i=x.aZ.length:=by omega
    rw[hi,List.drop_length,aW.eB,Dk p2.1] at p3
    exact int_eq (by omega)
end Go.Proofs.YtlmhknhlmicmeaaGreatDoor
namespace Go.Proofs.YtlmhknhlmicmeaaGreatDoor
open Go Go.Ab
set_option maxHeartbeats 8000000 in
theorem QG:∀n:Nat,∀x:au,SizeOf.sizeOf x<n→x.sz≤4194304→aG Tryz.prog 204 [x.v] (.c (.d (.b (iE x)))):=by
 intro n
 induction n with
 |zero=>intro x h;omega
 |succ n ih=>
  intro x hn hsz S
  have hb0:=au.bounds hsz
  have jf:=au.fI x
  have tu:=au.mo x
  have he:=uP x
  have hv0:=LV
  have hop:x.fName∈ops→validName x.fName=false:=Oy
  refine(show(rG x→ ?T)→_ from fun tail=> ?main) ?tp
  case' main=>
   rcases IU x.aX with hk|hk|hk|hk|hk|hk|hk|hk|hk|hk|hk|hk|hk
   ·have h1:iE x=false:=by rw[he,aH (fun h=>by have:=h.1;omega)];rfl
    refine aA (rs:=[.tmp 2]) Tryz.checked.mixed Tryz.func204 Tryz.ntmps204 rfl rfl rfl rfl rfl ?_
    first|refine W1 ?_|exact Z1
    refine ah (Ld _) ?_
    first|refine W1 ?_|exact Z1
    refine ah (Aw _ _ _) ?_
    first|refine W1 ?_|exact Z1
    first|refine S0 (fun hb h=>?_) (fun hb h=>?_)|refine S1 fun hb h=>?_|refine S2 fun hb h=>?_|exact S3
    ·rw[h1]
    ·omega
   all_goals
    have hf0:¬rG x→V.c (.d (.b false))=V.c (.d (.b (iE x))):=fun h=>aB (by rw[he,aH h];rfl)
    refine aA (rs:=[.tmp 2]) Tryz.checked.mixed Tryz.func204 Tryz.ntmps204 rfl rfl rfl rfl rfl ?_
    simp -implicitDefEqProofs (disch:=omega) only[go_sem,hk]
    refine ah (Ld _) ?_
    simp -implicitDefEqProofs (disch:=omega) only[go_sem,hk,Uf,Ug,Uh,Ui,Uj,Uk,or_false,or_true,true_or,false_or]
    refine ah (Aw _ _ _) ?_
    simp -implicitDefEqProofs (disch:=omega) only[go_sem,hk]
    repeat' (first
     |with_reducible refine aS (fun hb=> ?_) (fun hb=> ?_)<;>have h:=hb<;>(try simp only[wf_preprocess] at h)<;>simp -implicitDefEqProofs (disch:=omega) only[go_sem,hb,hk]<;>(repeat(with_reducible refine And.intro ?_ ?_;focus first|omega|rfl|assumption|exact⟨_,rfl,rfl⟩|(simp;omega)|(simp;done)))
     |((with_reducible show fq _ _ 152 _ _ _ _);refine ah (gK x.fName (by omega)) ?_;simp -implicitDefEqProofs (disch:=omega) only[go_sem,hk])
     |((with_reducible show fq _ _ 152 _ _ _ _);refine ah (gK x.bR (by omega)) ?_;simp -implicitDefEqProofs (disch:=omega) only[go_sem,hk])
     |((with_reducible show fq _ _ 279 _ _ _ _);refine ah (Ul x.fName) ?_;simp -implicitDefEqProofs (disch:=omega) only[go_sem,hk])
     |((with_reducible show fq _ _ 254 _ _ _ _);refine ah (IW x.fType) ?_;simp -implicitDefEqProofs (disch:=omega) only[go_sem,hk])
     |((with_reducible show fq _ _ 280 _ _ _ _);refine ah (uF x.fType (by omega)) ?_;simp -implicitDefEqProofs (disch:=omega) only[go_sem,hk])
     |((with_reducible show fq _ _ 245 _ _ _ _);refine ah (Aw x.fN _ _) ?_;simp -implicitDefEqProofs (disch:=omega) only[go_sem,hk])
     |(refine hf0 fun hF=> ?_;simp only[rG,hk,or_false,or_true,true_or,false_or,and_true,true_and,if_true,if_false,↓reduceIte,Int.reduceEq,Int.reduceLT,Int.reduceLE] at hF;grind [ji,iW,bJ,aH]))
   all_goals
    have hF:rG x:=by simp only[rG,hk,or_false,or_true,true_or,false_or,and_true,true_and,if_true,if_false,↓reduceIte,Int.reduceEq,Int.reduceLT,Int.reduceLE];grind [ji,iW,bJ,aH]
    refine pW (st':=[.box (x.enc.map .d)]::S) [1,9] [.c (.ptr (0,0) 0),.c (.d (.i .i64 0))] rfl (by simp -implicitDefEqProofs (disch:=omega) only[go_sem,hk]) ?_
    exact tail hF
  intro hF
  rw[bJ hF,Bool.true_and] at he
  clear hF hop hv0
  refine aV (ι:=Nat) Tryz.checked.mixed rfl [1,9] (fun i=>[.c (.ptr (0,0) 0),.c (.d (.i .i64 i))]) (fun _=>[.box (x.enc.map .d)]::S)
   (fun i=>i≤x.fArgs.length∧mq (x.fArgs.drop i)=mq x.fArgs) (fun i=>x.fArgs.length-i) 0 rfl ?_ ⟨Nat.zero_le _,rfl⟩ ?_
  ·first|refine W1 ?_|exact Z1
  rintro i ⟨p1,p2⟩
  first|refine W1 ?_|exact Z1
  with_reducible refine aS (fun hb=> ?_) (fun hb=> ?_)<;>have h:=hb<;>(try simp only[wf_preprocess] at h)<;>simp -implicitDefEqProofs (disch:=omega) only[go_sem,hb]<;>(repeat(with_reducible refine And.intro ?_ ?_;focus first|omega|rfl|assumption|exact⟨_,rfl,rfl⟩|(simp;omega)|(simp;done)))
  ·have hi:i<x.fArgs.length:=by omega
   have hs:=List.sizeOf_lt_of_mem (List.getElem_mem hi)
   rw[Ox hi] at p2
   refine W3 ?_
   refine ah (ih x.fArgs[i] (by omega) (au.arg_b hi hsz)) ?_
   first|refine W2 ?_|exact Z2
   first|refine S0 (fun hb h=>?_) (fun hb h=>?_)|refine S1 fun hb h=>?_|refine S2 fun hb h=>?_|exact S3
   ·exact aB (by rw[he,←p2,h];rfl)
   ·exact bL (i+1) (by omega) rfl rfl ⟨by omega,by rw[←p2,h];rfl⟩
  rw[List.drop_of_length_le (by omega)] at p2
  have q:mq x.fArgs=true:=p2.symm
  clear p2 p1
  refine aV (ι:=Nat) Tryz.checked.mixed rfl [1,10] (fun i=>[.c (.ptr (0,0) 0),.c (.d (.i .i64 i))]) (fun _=>[.box (x.enc.map .d)]::S)
   (fun i=>i≤x.aZ.length∧oO (x.aZ.drop i)=oO x.aZ) (fun i=>x.aZ.length-i) 0 rfl ?_ ⟨Nat.zero_le _,rfl⟩ ?_
  ·first|refine W1 ?_|exact Z1
  rintro i ⟨p1,p2⟩
  first|refine W1 ?_|exact Z1
  with_reducible refine aS (fun hb=> ?_) (fun hb=> ?_)<;>have h:=hb<;>(try simp only[wf_preprocess] at h)<;>simp -implicitDefEqProofs (disch:=omega) only[go_sem,hb]<;>(repeat(with_reducible refine And.intro ?_ ?_;focus first|omega|rfl|assumption|exact⟨_,rfl,rfl⟩|(simp;omega)|(simp;done)))
  ·have hi:i<x.aZ.length:=by omega
   have hs:=List.sizeOf_lt_of_mem (List.getElem_mem hi)
   have hs':=aW.kW x.aZ[i]
   have hab:=aW.bounds (au.MP hi hsz)
   rw[Qr hi] at p2
   have no:vJ x.aZ[i]=false→V.c (.d (.b false))=V.c (.d (.b (iE x))):=fun h=>aB (by rw[he,←p2,h];simp)
   refine W3 ?_
   refine ah (gK x.aZ[i].dK (by omega)) ?_
   first|refine W2 ?_|exact Z2
   first|refine S0 (fun hb h=>?_) (fun hb h=>?_)|refine S1 fun hb h=>?_|refine S2 fun hb h=>?_|exact S3
   ·exact no (by rw[pV,h];rfl)
   have k1:=h
   refine W3 ?_
   refine ah (Il x.aZ[i].aF (by omega) hab.2.2.1) ?_
   first|refine W2 ?_|exact Z2
   first|refine S0 (fun hb h=>?_) (fun hb h=>?_)|refine S1 fun hb h=>?_|refine S2 fun hb h=>?_|exact S3
   ·exact no (by rw[pV];unfold iA;rw[h];simp)
   have k2:=h
   refine W3 ?_
   refine ah (nQ x.aZ[i].aF (by omega)) ?_
   first|refine W2 ?_|exact Z2
   first|refine S0 (fun hb h=>?_) (fun hb h=>?_)|refine S1 fun hb h=>?_|refine S2 fun hb h=>?_|exact S3
   ·exact no (by rw[pV];unfold iA;rw[aH h];simp)
   have k3:=h
   refine W3 ?_
   refine ah (ih x.aZ[i].fBody (by omega) hab.2.2.2) ?_
   first|refine W2 ?_|exact Z2
   first|refine S0 (fun hb h=>?_) (fun hb h=>?_)|refine S1 fun hb h=>?_|refine S2 fun hb h=>?_|exact S3
   ·exact no (by rw[pV,h];simp)
   ·exact dz 1 (by decide) (i+1) (by omega) rfl rfl rfl rfl ⟨by omega,by rw[←p2,pV,k1,h];unfold iA;rw[k2,bJ k3];rfl⟩
  ·rw[List.drop_of_length_le (by omega)] at p2
   exact aB (by rw[he,q,←p2];rfl)
theorem F6(x:au)(hsz:x.sz≤4194304):aG Tryz.prog 106 [x.v] (.c (.d (.b (pI x)))):=fun S=>by
 have hs:=Yz (l:=300) (c:=x.cnt) (by omega)
 refine aA (rs:=[.tmp 2]) Tryz.checked.mixed Tryz.func106 Tryz.ntmps106 rfl rfl rfl rfl rfl ?_
 first|refine W1 ?_|exact Z1
 refine ah (Fg _ x (Nat.lt_succ_self _) hsz 300 (by omega) (by omega)) ?_
 first|refine W2 ?_|exact Z2
 rw[hs]
 first|refine S0 (fun hb h=>?_) (fun hb h=>?_)|refine S1 fun hb h=>?_|refine S2 fun hb h=>?_|exact S3
 ·refine ah (QG _ x (Nat.lt_succ_self _) hsz) ?_
  first|refine W2 ?_|exact Z2
  exact aB (by unfold pI;rw[bJ (by omega)];rfl)
 ·exact aB (by unfold pI;rw[aH (by omega)];rfl)
end Go.Proofs.YtlmhknhlmicmeaaGreatDoor
namespace Go.Ab
theorem O4{x:au}(h:pI x=true):iE x=true:=by rw[pI,Bool.and_eq_true] at h;exact h.2
end Go.Ab
namespace Go.Proofs.YtlmhknhlmicmeaaGreatDoor
open Go Go.Ab
end Go.Proofs.YtlmhknhlmicmeaaGreatDoor
namespace Go.Ab
theorem aL.bounds{x:aL}(h:x.sz≤4194304):x.fName.length≤4194304∧x.aF.length≤4194304∧x.aJ.length≤4194304∧∀s∈x.aF,s.length≤4194304:=by
 simp only[aL.sz,aL.aC,bP,bA,D.sz,List.length_map] at h
 refine⟨by omega,by omega,by omega,fun s hs=> ?_⟩
 have:=pG hs
 omega
theorem aL.MQ{x:aL}{i:Nat}(hi:i<x.aJ.length)(h:x.sz≤4194304):x.aJ[i].sz≤4194304:=by
 have hx:x.aJ[i].sz≤aI (x.aJ.map aK.enc):=bI (List.mem_map_of_mem (List.getElem_mem hi))
 simp only[aL.sz,aL.aC,bP,bA,D.sz,List.length_map] at h
 omega
theorem aK.bounds{x:aK}(h:x.sz≤4194304):x.fName.length≤4194304∧x.fA.length≤4194304∧∀t∈x.fA,t.sz≤4194304:=by
 simp only[aK.sz,aK.aC,bP,bA,D.sz,List.length_map] at h
 refine⟨by omega,by omega,fun t ht=> ?_⟩
 have hx:t.sz≤aI (x.fA.map aj.enc):=bI (List.mem_map_of_mem ht)
 omega
noncomputable def nM(vars:List (List UInt8))(c:aK):Bool:=dec (c.fA.length≤4)&&kg vars c.fA
noncomputable def kD(d:aL):List (List UInt8):=d.aJ.map aK.fName
noncomputable def fG(d:aL):Bool:=
 validName d.fName&&(dec (d.aF.length≤3)&&(iA d.aF&&(dec (1≤d.aJ.length)&&(dec (d.aJ.length≤5)&&(d.aJ.all (nM d.aF)&&iA (kD d))))))
end Go.Ab
namespace Go.Proofs.YtlmhknhlmicmeaaGreatDoor
open Go Go.Ab
theorem zm(d:aL)(hsz:d.sz≤4194304):aG Tryz.prog 160 [d.v] (.c (.d (.b (fG d)))):=fun S=>by
 have hb0:=aL.bounds hsz
 have bad:∀i,∀hi:i<d.aJ.length,nM d.aF d.aJ[i]=false→fG d=false:=fun i hi h=>by
  have:d.aJ.all (nM d.aF)=false:=Bool.eq_false_iff.2 fun hx=>by
   rw[List.all_eq_true.1 hx _ (List.getElem_mem hi)] at h;cases h
  unfold fG
  rw[this];simp
 refine aA (rs:=[.tmp 2]) Tryz.checked.mixed Tryz.func160 Tryz.ntmps160 rfl rfl rfl rfl rfl ?_
 first|refine W1 ?_|exact Z1
 refine W3 ?_
 refine oL 3 1 [] rfl (by simp) ?_
 refine aV (ι:=Nat×List (List UInt8)) Tryz.checked.mixed rfl [1,3,4] (fun y=>[.c (.ptr (0,0) 0),.c (.bU (0,1) (y.2.map encS)),.c (.d (.i .i64 y.1))]) (fun y=>[.box (d.enc.map .d),.tok 1 (y.2.map encS)]::S)
  (fun y=>y.1≤d.aJ.length∧y.2=(kD d).take y.1∧∀j,∀hj:j<d.aJ.length,j<y.1→nM d.aF d.aJ[j]=true) (fun y=>d.aJ.length-y.1) (0,[]) rfl ?_ ⟨Nat.zero_le _,rfl,fun j _ h=>by simp only at h;omega⟩ ?_
 ·first|refine W1 ?_|exact Z1
 rintro⟨i,names⟩ ⟨p1,p2,p3⟩
 simp only at p1 p2 p3
 have pl:names.length≤d.aJ.length:=by rw[p2];simp[kD];omega
 first|refine W1 ?_|exact Z1
 with_reducible refine aS (fun hb=> ?_) (fun hb=> ?_)<;>have h:=hb<;>(try simp only[wf_preprocess] at h)<;>simp -implicitDefEqProofs (disch:=omega) only[go_sem,hb]<;>(repeat(with_reducible refine And.intro ?_ ?_;focus first|omega|rfl|assumption|exact⟨_,rfl,rfl⟩|(simp;omega)|(simp;done)))
 ·have hi:i<d.aJ.length:=by omega
  have hc:=aK.bounds (aL.MQ hi hsz)
  refine W3 ?_
  first|refine S0 (fun hb h=>?_) (fun hb h=>?_)|refine S1 fun hb h=>?_|refine S2 fun hb h=>?_|exact S3
  ·rw[bad i hi (by unfold nM;rw[aH (by omega)];rfl)]
  have h1:=h
  refine W3 ?_
  refine ah (KZ d.aJ[i].fA d.aF (by omega) hc.2.2 (by omega)) ?_
  first|refine W2 ?_|exact Z2
  first|refine S0 (fun hb h=>?_) (fun hb h=>?_)|refine S1 fun hb h=>?_|refine S2 fun hb h=>?_|exact S3
  ·rw[bad i hi (by unfold nM;rw[h];simp)]
  have h2:=h
  refine W3 ?_
  rw[show List.map encS names++[[D.s d.aJ[i].fName]]=List.map encS (names++[d.aJ[i].fName]) by simp[encS]]
  exact bL (i+1,names++[d.aJ[i].fName]) (by simp only;omega) rfl rfl ⟨by simp only;omega,by simp only;rw[p2,gW (by simpa [kD] using hi)];simp[kD],fun j hj hji=>by
   simp only at hji
   by_cases e:j=i
   ·subst e;unfold nM;rw[h2,bJ (by omega)];rfl
   ·exact p3 j hj (by omega)⟩
 have hi:i=d.aJ.length:=by omega
 have hn:names=kD d:=by rw[p2,List.take_of_length_le (by simp[kD];omega)]
 have hall:d.aJ.all (nM d.aF)=true:=List.all_eq_true.2 fun c hc=>by
  obtain⟨j,hj,e⟩:=List.getElem_of_mem hc
  rw[←e];exact p3 j hj (by omega)
 have hnl:∀s∈names,s.length≤4194304:=fun s hs=>by
  rw[hn] at hs
  obtain⟨c,hc,e⟩:=List.mem_map.1 hs
  obtain⟨j,hj,e'⟩:=List.getElem_of_mem hc
  rw[←e,←e'];exact(aK.bounds (aL.MQ hj hsz)).1
 have hlen:names.length=d.aJ.length:=by rw[hn];simp[kD]
 refine ah (gK d.fName (by omega)) ?_
 first|refine W2 ?_|exact Z2
 first|refine S0 (fun hb h=>?_) (fun hb h=>?_)|refine S1 fun hb h=>?_|refine S2 fun hb h=>?_|exact S3
 ·have h1:=h
  refine ah (kK d.aF 3 (by omega) hb0.2.2.2) ?_
  first|refine W2 ?_|exact Z2
  first|refine S0 (fun hb h=>?_) (fun hb h=>?_)|refine S1 fun hb h=>?_|refine S2 fun hb h=>?_|exact S3
  ·have h2:=h
   first|refine S0 (fun hb h=>?_) (fun hb h=>?_)|refine S1 fun hb h=>?_|refine S2 fun hb h=>?_|exact S3
   ·have h3:=h
    refine ah (kK names 5 (by omega) hnl) ?_
    first|refine W2 ?_|exact Z2
    refine aB ?_
    rw[Bool.and_eq_true] at h2
    have h4:=ji h2.1
    unfold fG
    rw[h1,h2.2,hall,←hn,bJ (show d.aF.length≤3 by omega),bJ (show 1≤d.aJ.length by omega),hlen]
    simp only[Bool.true_and]
    congr 1
    exact iJ ⟨fun h=>by omega,fun h=>by omega⟩
   ·refine aB ?_
    unfold fG
    rw[aH (show ¬1≤d.aJ.length by omega)];simp
  ·refine aB ?_
   unfold fG
   have h2:(dec (d.aF.length≤3)&&iA d.aF)=false:=by
    rw[←h];congr 1;exact iJ ⟨fun h=>by omega,fun h=>by omega⟩
   rw[←Bool.and_assoc (dec (d.aF.length≤3)),h2];simp
 ·exact aB (by unfold fG;rw[h];rfl)
theorem F7(d:aL)(hsz:d.sz≤4194304):aG Tryz.prog 172 [d.v] (.c (.d (.b (fG d)))):=fun S=>by
 have hb0:=aL.bounds hsz
 have bad:∀i,∀hi:i<d.aJ.length,nM d.aF d.aJ[i]=false→fG d=false:=fun i hi h=>by
  have:d.aJ.all (nM d.aF)=false:=Bool.eq_false_iff.2 fun hx=>by
   rw[List.all_eq_true.1 hx _ (List.getElem_mem hi)] at h;cases h
  unfold fG
  rw[this];simp
 refine aA (rs:=[.tmp 2]) Tryz.checked.mixed Tryz.func172 Tryz.ntmps172 rfl rfl rfl rfl rfl ?_
 first|refine W1 ?_|exact Z1
 refine ah (gJ d.fName (by omega)) ?_
 first|refine W2 ?_|exact Z2
 first|refine S0 (fun hb h=>?_) (fun hb h=>?_)|refine S1 fun hb h=>?_|refine S2 fun hb h=>?_|exact S3
 ·exact aB (by unfold fG;rw[h];rfl)
 have h1:=h
 first|refine S0 (fun hb h=>?_) (fun hb h=>?_)|refine S1 fun hb h=>?_|refine S2 fun hb h=>?_|exact S3
 ·exact aB (by unfold fG;rw[aH (show ¬d.aF.length≤3 by omega)];simp)
 have h2:=h
 refine ah (nA d.aF (by omega) hb0.2.2.2) ?_
 first|refine W2 ?_|exact Z2
 first|refine S0 (fun hb h=>?_) (fun hb h=>?_)|refine S1 fun hb h=>?_|refine S2 fun hb h=>?_|exact S3
 ·exact aB (by unfold fG;rw[h];simp)
 have h3:=h
 first|refine S0 (fun hb h=>?_) (fun hb h=>?_)|refine S1 fun hb h=>?_|refine S2 fun hb h=>?_|exact S3
 ·exact aB (by unfold fG;rw[aH (show ¬1≤d.aJ.length by omega)];simp)
 have h4:=h
 first|refine S0 (fun hb h=>?_) (fun hb h=>?_)|refine S1 fun hb h=>?_|refine S2 fun hb h=>?_|exact S3
 ·exact aB (by unfold fG;rw[aH (show ¬d.aJ.length≤5 by omega)];simp)
 have h5:=h
 refine W3 ?_
 refine oL 3 1 [] rfl (by simp) ?_
 refine aV (ι:=Nat×List (List UInt8)) Tryz.checked.mixed rfl [1,3,36,37,38] (fun y=>[.c (.ptr (0,0) 0),.c (.bU (0,1) (y.2.map encS)),.c (.d (.sl (d.aJ.map aK.enc))),.c (.d (.i .i64 d.aJ.length)),.c (.d (.i .i64 y.1))]) (fun y=>[.box (d.enc.map .d),.tok 1 (y.2.map encS)]::S)
  (fun y=>y.1≤d.aJ.length∧y.2=(kD d).take y.1∧∀j,∀hj:j<d.aJ.length,j<y.1→nM d.aF d.aJ[j]=true) (fun y=>d.aJ.length-y.1) (0,[]) rfl ?_ ⟨Nat.zero_le _,rfl,fun j _ h=>by simp only at h;omega⟩ ?_
 ·first|refine W1 ?_|exact Z1
 rintro⟨i,names⟩ ⟨p1,p2,p3⟩
 simp only at p1 p2 p3
 have pl:names.length≤d.aJ.length:=by rw[p2];simp[kD];omega
 first|refine W1 ?_|exact Z1
 with_reducible refine aS (fun hb=> ?_) (fun hb=> ?_)<;>have h:=hb<;>(try simp only[wf_preprocess] at h)<;>simp -implicitDefEqProofs (disch:=omega) only[go_sem,hb]<;>(repeat(with_reducible refine And.intro ?_ ?_;focus first|omega|rfl|assumption|exact⟨_,rfl,rfl⟩|(simp;omega)|(simp;done)))
 ·have hi:i<d.aJ.length:=by omega
  have hc:=aK.bounds (aL.MQ hi hsz)
  refine W3 ?_
  first|refine S0 (fun hb h=>?_) (fun hb h=>?_)|refine S1 fun hb h=>?_|refine S2 fun hb h=>?_|exact S3
  ·rw[bad i hi (by unfold nM;rw[aH (by omega)];rfl)]
  have k1:=h
  refine W3 ?_
  refine ah (vH d.aJ[i].fA d.aF (by omega) hc.2.2 (by omega)) ?_
  first|refine W2 ?_|exact Z2
  first|refine S0 (fun hb h=>?_) (fun hb h=>?_)|refine S1 fun hb h=>?_|refine S2 fun hb h=>?_|exact S3
  ·rw[bad i hi (by unfold nM;rw[h];simp)]
  have k2:=h
  refine W3 ?_
  rw[show List.map encS names++[[D.s d.aJ[i].fName]]=List.map encS (names++[d.aJ[i].fName]) by simp[encS]]
  exact dz 2 (by decide) (i+1,names++[d.aJ[i].fName]) (by simp only;omega) rfl rfl rfl rfl ⟨by simp only;omega,by simp only;rw[p2,gW (by simpa [kD] using hi)];simp[kD],fun j hj hji=>by
   simp only at hji
   by_cases e:j=i
   ·subst e;unfold nM;rw[k2,bJ (by omega)];rfl
   ·exact p3 j hj (by omega)⟩
 have hi:i=d.aJ.length:=by omega
 have hn:names=kD d:=by rw[p2,List.take_of_length_le (by simp[kD];omega)]
 have hall:d.aJ.all (nM d.aF)=true:=List.all_eq_true.2 fun c hc=>by
  obtain⟨j,hj,e⟩:=List.getElem_of_mem hc
  rw[←e];exact p3 j hj (by omega)
 have hnl:∀s∈names,s.length≤4194304:=fun s hs=>by
  rw[hn] at hs
  obtain⟨c,hc,e⟩:=List.mem_map.1 hs
  obtain⟨j,hj,e'⟩:=List.getElem_of_mem hc
  rw[←e,←e'];exact(aK.bounds (aL.MQ hj hsz)).1
 refine ah (nA names (by omega) hnl) ?_
 first|refine W2 ?_|exact Z2
 exact aB (by unfold fG;rw[h1,h3,hall,←hn,bJ (show d.aF.length≤3 by omega),bJ (show 1≤d.aJ.length by omega),bJ (show d.aJ.length≤5 by omega)];simp)
end Go.Proofs.YtlmhknhlmicmeaaGreatDoor
namespace Go.Ab
def MR:List UInt8:=[100,97,116,97]
def DI(c:aK):ak:=cO ([cu c.fName]++c.fA.map dA)
def baseD(d:aL):List ak:=[cu MR,cu d.fName,cO (bf d.aF)]
def zO(d:aL):ak:=cO (baseD d++d.aJ.map DI)
noncomputable def Aa(d:aL):ak:=sH (fG d) (zO d)
def O5:List aK→Nat
 |[]=>0
 |x::xs=>x.sz+O5 xs
theorem F8:∀l,aI (l.map aK.enc)=O5 l
 |[]=>rfl
 |x::xs=>by rw[List.map_cons,aI,O5,F8 xs];rfl
theorem DJ(x:aK):x.sz=x.fName.length+(x.fA.length+Hl x.fA):=by
 rw[←za];simp only[aK.sz,aK.aC,bP,D.sz,List.length_map];omega
theorem BS(x:aL):x.sz=x.fName.length+(x.aF.length+(x.aF.map List.length).sum)+(x.aJ.length+O5 x.aJ):=by
 rw[←F8,←dM];simp only[aL.sz,aL.aC,bP,D.sz,List.length_map];omega
theorem acp(c:aK):(DI c).sz≤1+16*c.sz:=by
 have:=Ho c.fA
 rw[DI,iY,gZ,List.length_append,List.length_map,DJ]
 simp[gq,jo];omega
theorem Rx:∀l:List aK,gq (l.map DI)≤l.length+16*O5 l
 |[]=>by simp[gq]
 |c::l=>by
  have h1:=acp c
  have h2:=Rx l
  rw[List.map_cons,gq,O5,List.length_cons];omega
theorem WI(d:aL):(zO d).sz≤7+16*d.sz:=by
 have:=Rx d.aJ
 rw[zO,iY,gZ,List.length_append,List.length_map,BS]
 simp[baseD,gq,jo,iY,iR,oD,MR];omega
theorem DK(n:Nat)(a b:List UInt8)(w:List (List UInt8)):lx [cu a,cu b,cO (bf w)] (n+1)=[[.s a,.ol (n+1) []],[.s b,.ol (n+1+1) []],[.s [],.ol (n+1+1+1) (lx (bf w) (n+1+1+1+1))]]:=by
 simp only[iN,lq,iM,jG,jH,dX,dF,jl]
theorem uG{vars:List (List UInt8)}{ts:List aj}(h:kg vars ts=true):jm ts=true:=ug.2 fun t ht=>by
 have:=List.all_eq_true.1 h t ht
 unfold gu at this
 rw[Bool.and_eq_true] at this
 exact vD this.1
theorem J5{d:aL}(h:fG d=true):∀c∈d.aJ,jm c.fA=true:=fun c hc=>by
 have h1:d.aJ.all (nM d.aF)=true:=by
  unfold fG at h
  simp only[Bool.and_eq_true] at h
  simp_all
 have h2:=List.all_eq_true.1 h1 c hc
 unfold nM at h2
 rw[Bool.and_eq_true] at h2
 exact uG h2.2
theorem Le{l:List aj}{t:aj}(h:t∈l):t.sz≤Hl l:=by
 rw[←za];exact bI (List.mem_map_of_mem h)
theorem IX{l:List aK}{t:aK}(h:t∈l):t.sz≤O5 l:=by
 rw[←F8];exact bI (List.mem_map_of_mem h)
end Go.Ab
namespace Go.Proofs.YtlmhknhlmicmeaaGreatDoor
open Go Go.Ab
theorem zP(d:aL)(n:Nat)(hv:fG d=true)(hsz:d.sz≤1048576):aG Tryz.prog 70 [d.v] (.agg [.d (.s []),.d (.ol n (lx (zO d).bF (n+1)))]):=fun S=>by
 have hdz:=BS d
 have hfo:=J5 hv
 have hlen:d.aJ.length≤1048576:=by omega
 obtain⟨L,hL⟩:∃L:Nat→Nat,L=fun i=>n+1+gT (baseD d++(d.aJ.map DI).take i):=⟨_,rfl⟩
 obtain⟨T,hT⟩:∃T:Nat→List (List D),T=fun i=>lx (baseD d++(d.aJ.map DI).take i) (n+1):=⟨_,rfl⟩
 have hT0:T 0=[[.s MR,.ol (n+1) []],[.s d.fName,.ol (n+1+1) []],[.s [],.ol (n+1+1+1) (lx (bf d.aF) (n+1+1+1+1))]]:=by
  rw[hT];simp only[List.take_zero,List.append_nil];exact DK _ _ _ _
 have eO:∀i,(T i).length≤i+3:=fun i=>by
  rw[hT];simp only[fK,List.length_append]
  have:=List.length_take_le i (d.aJ.map DI)
  simp[baseD];omega
 have hTs:∀i (hi:i<d.aJ.length),T i++[[.s [],.ol (L i) (lx ([cu d.aJ[i].fName]++d.aJ[i].fA.map dA) (L i+1))]]=T (i+1):=fun i hi=>by
  have:=wG (base:=baseD d) (l:=d.aJ.map DI) (i:=i) (by rw[List.length_map];exact hi) (n+1)
  rw[List.getElem_map] at this
  rw[hT,hL];exact this
 have hTr:∀i,∀r∈T i,r.length=2:=fun i=>by rw[hT];exact jB
 have hTe:T d.aJ.length=lx (zO d).bF (n+1):=by
  rw[hT];simp only
  rw[List.take_of_length_le (by simp)];rfl
 clear hT hL
 refine oz (n) 1 (rs:=[.cell 2 32]) Tryz.checked.mixed Tryz.func70 Tryz.ntmps70 rfl rfl rfl rfl rfl ?_
 first|refine W1 ?_|exact Z1
 refine ah (dx _ (n+1)) ?_
 first|refine W1 ?_|exact Z1
 refine ah (dx _ (n+1+1)) ?_
 first|refine W1 ?_|exact Z1
 refine ah (dZ d.aF (by omega) (n+1+1+1)) ?_
 first|refine W1 ?_|exact Z1
 refine W3 ?_
 refine mh n 3 2 (T 0) (.inl ?_) (hTr 0) ?_
 ·rw[hT0];rfl
 refine mE (L 0) ?_
 refine aV (ι:=Nat) Tryz.checked.mixed rfl [2,3,15,16,17] (fun i=>[.c (.ptr (0,3) 0),.c (.bU (0,4) (T i)),.c (.d (.sl (d.aJ.map aK.enc))),.c (.d (.i .i64 d.aJ.length)),.c (.d (.i .i64 i))])
  (fun i=>[.seed (L i),.seed 1,.box [.d (.s d.fName),.d (.sl (d.aF.map encS)),.d (.sl (d.aJ.map aK.enc))],.box [.d (.s []),.bD []],.fB n 2 (T i)]::S)
  (fun i=>i≤d.aJ.length) (fun i=>d.aJ.length-i) 0 rfl rfl (Nat.zero_le _) ?_
 intro i hi
 have hl:=eO i
 first|refine W1 ?_|exact Z1
 with_reducible refine aS (fun hb=> ?_) (fun hb=> ?_)<;>have h:=hb<;>(try simp only[wf_preprocess] at h)<;>simp -implicitDefEqProofs (disch:=omega) only[go_sem,hb]<;>(repeat(with_reducible refine And.intro ?_ ?_;focus first|omega|rfl|assumption|exact⟨_,rfl,rfl⟩|(simp;omega)|(simp;done)))
 ·have hi':i<d.aJ.length:=by omega
  have hm:=List.getElem_mem hi'
  have hcz:=IX hm
  have hce:=DJ d.aJ[i]
  have hs:=hTs i hi'
  refine W3 ?_
  refine ah (dx _ (L i+1)) ?_
  first|refine W1 ?_|exact Z1
  refine ah (wW d.aJ[i].fA 0 (L i+1+1) (hfo _ hm) (by omega) (fun t ht=>by have:=Le ht;omega)) ?_
  first|refine W1 ?_|exact Z1
  have hr:=jB (l:=d.aJ[i].fA.map dA) (n:=L i+1+1)
  have hl2:(lx (d.aJ[i].fA.map dA) (L i+1+1)).length=d.aJ[i].fA.length:=by rw[fK,List.length_map]
  (repeat(with_reducible refine And.intro ?_ ?_;focus first|omega|rfl|assumption|exact⟨_,rfl,rfl⟩|(simp;omega)|(simp;done)))
  refine ah (jK _) ?_
  first|refine W1 ?_|exact Z1
  (repeat(with_reducible refine And.intro ?_ ?_;focus first|omega|rfl|assumption|exact⟨_,rfl,rfl⟩|(simp;omega)|(simp;done)))
  simp only[List.cons_append,List.nil_append,iN,sS,jl] at hs
  rw[hs]
  refine jD (L (i+1)) 4 (by decide) (i+1) (by omega) rfl rfl ?_ rfl (by omega)
  simp[gV,gy,V.refs,C.refs,jw]
 ·have hi':i=d.aJ.length:=by omega
  refine bV rfl (jr 0 4 _ _) ?_
  first|refine W1 ?_|exact Z1
  rw[hi',hTe]
theorem Fh(d:aL)(hsz:d.sz≤1048576):aG Tryz.prog 57 [d.v] (Aa d).v:=fun S=>by
 have hz:=WI d
 have hdz:=BS d
 obtain⟨T,hT⟩:∃T:Nat→List (List D),T=fun i=>(baseD d++(d.aJ.map DI).take i).map ak.enc:=⟨_,rfl⟩
 have hT0:T 0=[[.s MR,.sl []],[.s d.fName,.sl []],[.s [],.sl ((bf d.aF).map ak.enc)]]:=by
  rw[hT];simp only[List.take_zero,List.append_nil,baseD,List.map_cons,List.map_nil,eT,iK]
 have eO:∀i,(T i).length≤i+3:=fun i=>by
  rw[hT];simp only[List.length_map,List.length_append]
  have:=List.length_take_le i (d.aJ.map DI)
  simp[baseD];omega
 have hTs:∀i (hi:i<d.aJ.length),T i++[[.s [],.sl (([cu d.aJ[i].fName]++d.aJ[i].fA.map dA).map ak.enc)]]=T (i+1):=fun i hi=>by
  have:=iB (base:=baseD d) (l:=d.aJ.map DI) (i:=i) (by rw[List.length_map];exact hi)
  rw[List.getElem_map] at this
  rw[hT];exact this
 have hTr:∀i,∀r∈T i,r.length=2:=fun i=>by rw[hT];exact jE
 have hTe:T d.aJ.length=(zO d).bF.map ak.enc:=by
  rw[hT];simp only
  rw[List.take_of_length_le (by simp)];rfl
 clear hT
 refine aA (rs:=[.cell 2 32]) Tryz.checked.mixed Tryz.func57 Tryz.ntmps57 rfl rfl rfl rfl rfl ?_
 first|refine W1 ?_|exact Z1
 refine ah (bW _) ?_
 first|refine W1 ?_|exact Z1
 refine ah (bW _) ?_
 first|refine W1 ?_|exact Z1
 refine ah (dU d.aF (by omega)) ?_
 first|refine W1 ?_|exact Z1
 have hE:=fun bT Ω=>iZ (T 0) (hTr 0) (by have:=eO 0;omega) bT Ω
 simp only[hT0] at hE
 refine lT [false] rfl (hE _ _) ?_
 first|refine W1 ?_|exact Z1
 refine aV (ι:=Nat) Tryz.checked.mixed rfl [1,2,3,4] (fun i=>[.c (.ptr (0,0) 0),.c (.ptr (0,1) 0),.c (.ptr (0,4) 0),.c (.d (.i .i64 i))])
  (fun i=>[.box [.d (.s d.fName),.d (.sl (d.aF.map encS)),.d (.sl (d.aJ.map aK.enc))],.box [.d (.s []),.bD []],.box [.d (.s []),.bU (0,3) (T 0)],.tok 2 (T i),.box [.d (.s []),.bU (0,3) (T i)]]::S)
  (fun i=>i≤d.aJ.length) (fun i=>d.aJ.length-i) 0 rfl (by simp only[hT0]<;>(try rfl)) (Nat.zero_le _) ?_
 intro i hi
 have hl:=eO i
 first|refine W1 ?_|exact Z1
 with_reducible refine aS (fun hb=> ?_) (fun hb=> ?_)<;>have h:=hb<;>(try simp only[wf_preprocess] at h)<;>simp -implicitDefEqProofs (disch:=omega) only[go_sem,hb]<;>(repeat(with_reducible refine And.intro ?_ ?_;focus first|omega|rfl|assumption|exact⟨_,rfl,rfl⟩|(simp;omega)|(simp;done)))
 ·have hi':i<d.aJ.length:=by omega
  have hm:=List.getElem_mem hi'
  have hcz:=IX hm
  have hce:=DJ d.aJ[i]
  have hs:=hTs i hi'
  refine W3 ?_
  refine ah (bW _) ?_
  first|refine W1 ?_|exact Z1
  (repeat(with_reducible refine And.intro ?_ ?_;focus first|omega|rfl|assumption|exact⟨_,rfl,rfl⟩|(simp;omega)|(simp;done)))
  refine ah (yB d.aJ[i].fA (by omega) (fun t ht=>by have:=Le ht;omega)) ?_
  first|refine W1 ?_|exact Z1
  have hr:=jE (l:=d.aJ[i].fA.map dA)
  have hl2:((d.aJ[i].fA.map dA).map ak.enc).length=d.aJ[i].fA.length:=by rw[List.length_map,List.length_map]
  (repeat(with_reducible refine And.intro ?_ ?_;focus first|omega|rfl|assumption|exact⟨_,rfl,rfl⟩|(simp;omega)|(simp;done)))
  simp only[List.cons_append,List.nil_append,List.map_cons,eT] at hs
  rw[hs]
  exact dz 5 (by decide) (i+1) (by omega) rfl rfl rfl rfl (by omega)
 ·have hi':i=d.aJ.length:=by omega
  subst hi'
  rw[hTe]
  refine ah (zm d (by omega)) ?_
  first|refine W1 ?_|exact Z1
  refine ah (oF (fG d) (zO d) (by omega)) ?_
  first|refine W1 ?_|exact Z1
  rfl
end Go.Proofs.YtlmhknhlmicmeaaGreatDoor
namespace Go.Ab
noncomputable def xP(k:Int)(n:List UInt8)(bound out:List (List UInt8)):List (List UInt8):=if k=3∧n∉bound∧n∉out then out++[n] else out
mutual
noncomputable def jL:au→List (List UInt8)→List (List UInt8)→List (List UInt8)
 | .mk k _ n _ _ a b,bound,out=>tH b bound (qd a k n 0 bound (xP k n bound out))
noncomputable def qd:List au→Int→List UInt8→Nat→List (List UInt8)→List (List UInt8)→List (List UInt8)
 |[],_,_,_,_,out=>out
 |x::xs,k,n,i,bound,out=>qd xs k n (i+1) bound (jL x (if k=8∧i=1 then bound++[n] else bound) out)
noncomputable def tH:List aW→List (List UInt8)→List (List UInt8)→List (List UInt8)
 |[],_,out=>out
 |x::xs,bound,out=>tH xs bound (BU x bound out)
noncomputable def BU:aW→List (List UInt8)→List (List UInt8)→List (List UInt8)
 | .mk _ v b,bound,out=>jL b (bound++v) out
end
theorem O6(x:au)(bound out:List (List UInt8)):jL x bound out=tH x.aZ bound (qd x.fArgs x.aX x.fName 0 bound (xP x.aX x.fName bound out)):=by cases x;rw[jL];rfl
theorem O7(x:aW)(bound out:List (List UInt8)):BU x bound out=jL x.fBody (bound++x.aF) out:=by cases x;rw[BU];rfl
theorem IY{xs:List au}{k:Int}{n:List UInt8}{i:Nat}{bound out:List (List UInt8)}(hi:i<xs.length):qd (xs.drop i) k n i bound out=qd (xs.drop (i+1)) k n (i+1) bound (jL xs[i] (if k=8∧i=1 then bound++[n] else bound) out):=by
 rw[List.drop_eq_getElem_cons hi,qd]
theorem IZ{xs:List aW}{i:Nat}{bound out:List (List UInt8)}(hi:i<xs.length):tH (xs.drop i) bound out=tH (xs.drop (i+1)) bound (BU xs[i] bound out):=by
 rw[List.drop_eq_getElem_cons hi,tH]
theorem F9(k:Int)(n:List UInt8)(bound out:List (List UInt8)):(xP k n bound out).length≤out.length+1:=by
 unfold xP;split<;>simp
mutual
theorem sU:∀(x:au) (bound out:List (List UInt8)),(jL x bound out).length≤out.length+x.cnt
 | .mk k t n m ty a b,bound,out=>by
   have h1:=F9 k n bound out
   have h2:=Lf a k n 0 bound (xP k n bound out)
   have h3:=Lg b bound (qd a k n 0 bound (xP k n bound out))
   rw[jL,au.cnt];omega
theorem Lf:∀(xs:List au) (k:Int) (n:List UInt8) (i:Nat) (bound out:List (List UInt8)),(qd xs k n i bound out).length≤out.length+au.eB xs
 |[],k,n,i,bound,out=>by rw[qd,au.eB];omega
 |x::xs,k,n,i,bound,out=>by
  have h1:=sU x (if k=8∧i=1 then bound++[n] else bound) out
  have h2:=Lf xs k n (i+1) bound (jL x (if k=8∧i=1 then bound++[n] else bound) out)
  rw[qd,au.eB];omega
theorem Lg:∀(xs:List aW) (bound out:List (List UInt8)),(tH xs bound out).length≤out.length+aW.eB xs
 |[],bound,out=>by rw[tH,aW.eB];omega
 |x::xs,bound,out=>by
  have h1:=WJ x bound out
  have h2:=Lg xs bound (BU x bound out)
  rw[tH,aW.eB];omega
theorem WJ:∀(x:aW) (bound out:List (List UInt8)),(BU x bound out).length≤out.length+x.cnt
 | .mk c v b,bound,out=>by
   have h1:=sU b (bound++v) out
   rw[BU,aW.cnt];omega
end
theorem au.sO{x:au}{i:Nat}(hi:i<x.fArgs.length):x.fArgs[i].sz+x.fArgs.length≤x.sz:=by
 have hx:x.fArgs[i].sz≤aI (x.fArgs.map au.enc):=bI (List.mem_map_of_mem (List.getElem_mem hi))
 have:=au.zf x
 omega
theorem au.WK{x:au}{i:Nat}(hi:i<x.aZ.length):x.aZ[i].sz+x.aZ.length≤x.sz:=by
 have hx:x.aZ[i].sz≤aI (x.aZ.map aW.enc):=bI (List.mem_map_of_mem (List.getElem_mem hi))
 have:=au.zf x
 omega
theorem aW.Ry(x:aW):x.aF.length+x.fBody.sz≤x.sz:=by
 simp only[aW.sz,aW.aC,au.sz,bP,bA,D.sz,List.length_map]
 omega
theorem Et(xs:List (List UInt8))(s:List UInt8):xs.map encS++[[D.s s]]=(xs++[s]).map encS:=by simp[encS]
end Go.Ab
namespace Go.Proofs.YtlmhknhlmicmeaaGreatDoor
open Go Go.Ab
set_option maxHeartbeats 2000000 in
theorem DL:∀N:Nat,∀x:au,SizeOf.sizeOf x<N→x.sz≤4194304→∀(bound out:List (List UInt8)) (l j:Nat) (S:Store),bM S (l,j)=some (.tok 1 (out.map encS))→out.length+x.cnt≤1073741824→bound.length+x.sz≤1073741824→
 dh Tryz.prog 338 [.c (.bU (l,j) (out.map encS)),x.v,.c (.d (.sl (bound.map encS)))] S (fun r S'=>r=.c (.bU (l,j) ((jL x bound out).map encS))∧S'=bQ S (l,j) (.tok 1 ((jL x bound out).map encS)))
 |0=>fun x h=>by omega
 |N+1=>by
  have ih:=DL N
  intro x hn hsz bound out l j S hk hc hbd
  have hb0:=au.zf x
  have jf:=au.fI x
  have tu:=au.mo x
  have hcn:=au.nZ x
  have Ic:∀y:Ab.Obj,bM (bQ S (l,j) y) (l,j)=some y:=fun y=>dN _ _ _ _ hk
  have hS0:bQ S (l,j) (.tok 1 (out.map encS))=S:=iQ _ _ hk
  have fin:=O6 x bound out
  have hal:=F9 x.aX x.fName bound out
  obtain⟨o1,ho1⟩:∃o1,xP x.aX x.fName bound out=o1:=⟨_,rfl⟩
  rw[ho1] at fin hal
  refine(show Hold ?T→_ from fun tail=> ?main) ?tp
  case' main=>
   refine aA (rs:=[.tmp 6]) Tryz.checked.mixed Tryz.func338 Tryz.ntmps338 rfl rfl rfl rfl rfl ?_
   simp -implicitDefEqProofs (disch:=omega) only[go_sem,hk]
   repeat' (first
    |(with_reducible refine aS (fun hb=> ?_) (fun hb=> ?_)<;>have h:=hb<;>(try simp only[wf_preprocess] at h)<;>simp -implicitDefEqProofs (disch:=omega) only[go_sem,hb,hk]<;>(repeat(with_reducible refine And.intro ?_ ?_;focus first|omega|rfl|assumption|exact⟨_,rfl,rfl⟩|(simp;omega)|(simp;done))))
    |(refine ah (sN bound x.fName (by omega)) ?_;simp -implicitDefEqProofs (disch:=omega) only[go_sem,hk];(repeat(with_reducible refine And.intro ?_ ?_;focus first|omega|rfl|assumption|exact⟨_,rfl,rfl⟩|(simp;omega)|(simp;done))))
    |(refine ah (sN out x.fName (by omega)) ?_;simp -implicitDefEqProofs (disch:=omega) only[go_sem,hk];(repeat(with_reducible refine And.intro ?_ ?_;focus first|omega|rfl|assumption|exact⟨_,rfl,rfl⟩|(simp;omega)|(simp;done)))))
   all_goals first
    |(have ha:xP x.aX x.fName bound out=out++[x.fName]:=if_pos ⟨by assumption,by assumption,by assumption⟩)
    |(have ha:xP x.aX x.fName bound out=out:=if_neg (fun y=>by have:=y.1;have:=y.2.1;have:=y.2.2;contradiction))
   all_goals
    refine pW (st':=[.box (x.enc.map .d)]::bQ S (l,j) (.tok 1 (o1.map encS))) [0,2,4,34,35,36] [.c (.bU (1+l,j) (o1.map encS)),.c (.d (.sl (bound.map encS))),.c (.ptr (0,0) 0),.c (.d (.sl (x.fArgs.map au.enc))),.c (.d (.i .i64 x.fArgs.length)),.c (.d (.i .i64 0))] ?_ ?_ ?_
    ·first|(rw[←ho1,ha];rfl)|(rw[←ho1,ha,←Et];rfl)
    ·first|(rw[←ho1,ha,hS0];simp -implicitDefEqProofs (disch:=omega) only[go_sem];done)|(rw[←ho1,ha,←Et];simp -implicitDefEqProofs (disch:=omega) only[go_sem];done)
    ·exact tail.out
  refine⟨?_⟩
  clear ho1
  refine aV (ι:=Nat×List (List UInt8)) Tryz.checked.mixed rfl [0,2,4,34,35,36] (fun y=>[.c (.bU (1+l,j) (y.2.map encS)),.c (.d (.sl (bound.map encS))),.c (.ptr (0,0) 0),.c (.d (.sl (x.fArgs.map au.enc))),.c (.d (.i .i64 x.fArgs.length)),.c (.d (.i .i64 y.1))]) (fun y=>[.box (x.enc.map .d)]::bQ S (l,j) (.tok 1 (y.2.map encS)))
   (fun y=>y.1≤x.fArgs.length∧y.2.length+au.eB (x.fArgs.drop y.1)+aW.eB x.aZ≤1073741824∧qd (x.fArgs.drop y.1) x.aX x.fName y.1 bound y.2=qd x.fArgs x.aX x.fName 0 bound o1) (fun y=>x.fArgs.length-y.1) (0,o1) rfl rfl ⟨Nat.zero_le _,by simp only[List.drop_zero];omega,rfl⟩ ?_
  rintro⟨i,o⟩ ⟨p1,p2,p3⟩
  have refs:∀{a b},gV 1 (gy [0,2,4,34,35,36] [.c (.bU (1+l,j) a),.c (.d (.sl (bound.map encS))),.c (.ptr (0,0) 0),.c (.d (.sl (x.fArgs.map au.enc))),.c (.d (.i .i64 x.fArgs.length)),.c (.d (.i .i64 b))])=true:=fun {a b}=>by simp[gV,gy,V.refs,C.refs,jw];omega
  simp only at p1 p2 p3
  first|refine W1 ?_|exact Z1
  with_reducible refine aS (fun hb=> ?_) (fun hb=> ?_)<;>have h:=hb<;>(try simp only[wf_preprocess] at h)<;>simp -implicitDefEqProofs (disch:=omega) only[go_sem,hb]<;>(repeat(with_reducible refine And.intro ?_ ?_;focus first|omega|rfl|assumption|exact⟨_,rfl,rfl⟩|(simp;omega)|(simp;done)))
  ·have hi:i<x.fArgs.length:=by omega
   have hs:=List.sizeOf_lt_of_mem (List.getElem_mem hi)
   have hz:=au.sO hi
   rw[IY hi] at p3
   rw[au.kY hi] at p2
   have hlo:=sU x.fArgs[i] (if x.aX=8∧i=1 then bound++[x.fName] else bound) o
   refine W3 ?_
   have two:x.fArgs[i].sz+(bound.length+1)≤1073741824:=by omega
   repeat' (first|with_reducible refine aS (fun hb=> ?_) (fun hb=> ?_)<;>have h:=hb<;>(try simp only[wf_preprocess] at h)<;>simp -implicitDefEqProofs (disch:=omega) only[go_sem,hb]<;>(repeat(with_reducible refine And.intro ?_ ?_;focus first|omega|rfl|assumption|exact⟨_,rfl,rfl⟩|(simp;omega)|(simp;done))))
   ·
    have e1:x.aX=8∧i=1:=⟨by omega,by omega⟩
    rw[if_pos e1] at p3 hlo
    refine Vh rfl DS.push (WE bound (by omega) _ _) ?_
    first|refine W1 ?_|exact Z1
    (repeat(with_reducible refine And.intro ?_ ?_;focus first|omega|rfl|assumption|exact⟨_,rfl,rfl⟩|(simp;omega)|(simp;done)))
    rw[Et]
    refine lT [true,true,false] rfl (ih x.fArgs[i] (by omega) (by omega) (bound++[x.fName]) o (1+l) j _ (by simp -implicitDefEqProofs (disch:=omega) only[go_sem];exact Ic _) (by omega) (by simp only[List.length_append,List.length_cons,List.length_nil];omega)) ?_
    simp -implicitDefEqProofs (disch:=omega) only[go_sem,bC]
    exact dz 1 (by decide) (i+1,jL x.fArgs[i] (bound++[x.fName]) o) (by simp only;omega) rfl rfl refs rfl ⟨by simp only;omega,by simp only;omega,p3⟩
   all_goals
    have e1:¬(x.aX=8∧i=1):=fun h=>by omega
    rw[if_neg e1] at p3 hlo
    refine bV rfl (ih x.fArgs[i] (by omega) (by omega) bound o (1+l) j _ (by simp -implicitDefEqProofs (disch:=omega) only[go_sem];exact Ic _) (by omega) (by omega)) ?_
    simp -implicitDefEqProofs (disch:=omega) only[go_sem,bC]
    exact dz 1 (by decide) (i+1,jL x.fArgs[i] bound o) (by simp only;omega) rfl rfl refs rfl ⟨by simp only;omega,by simp only;omega,p3⟩
  have hi:i=x.fArgs.length:=by omega
  rw[hi,List.drop_length] at p2 p3
  rw[au.eB] at p2
  rw[qd] at p3
  rw[←p3] at fin
  clear p3 refs
  refine aV (ι:=Nat×List (List UInt8)) Tryz.checked.mixed rfl [0,2,63,64,65] (fun y=>[.c (.bU (1+l,j) (y.2.map encS)),.c (.d (.sl (bound.map encS))),.c (.d (.sl (x.aZ.map aW.enc))),.c (.d (.i .i64 x.aZ.length)),.c (.d (.i .i64 y.1))]) (fun y=>[.box (x.enc.map .d)]::bQ S (l,j) (.tok 1 (y.2.map encS)))
   (fun y=>y.1≤x.aZ.length∧y.2.length+aW.eB (x.aZ.drop y.1)≤1073741824∧tH (x.aZ.drop y.1) bound y.2=jL x bound out) (fun y=>x.aZ.length-y.1) (0,o) rfl ?_ ⟨Nat.zero_le _,by simp only[List.drop_zero];omega,fin.symm⟩ ?_
  ·first|refine W1 ?_|exact Z1
  clear p1 p2 fin hal
  rintro⟨i,o⟩ ⟨p1,p2,p3⟩
  have refs:∀a b,gV 1 (gy [0,2,63,64,65] [.c (.bU (1+l,j) a),.c (.d (.sl (bound.map encS))),.c (.d (.sl (x.aZ.map aW.enc))),.c (.d (.i .i64 x.aZ.length)),.c (.d (.i .i64 b))])=true:=fun a b=>by simp[gV,gy,V.refs,C.refs,jw];omega
  simp only at p1 p2 p3
  first|refine W1 ?_|exact Z1
  with_reducible refine aS (fun hb=> ?_) (fun hb=> ?_)<;>have h:=hb<;>(try simp only[wf_preprocess] at h)<;>simp -implicitDefEqProofs (disch:=omega) only[go_sem,hb]<;>(repeat(with_reducible refine And.intro ?_ ?_;focus first|omega|rfl|assumption|exact⟨_,rfl,rfl⟩|(simp;omega)|(simp;done)))
  ·have hi:i<x.aZ.length:=by omega
   have hs:=List.sizeOf_lt_of_mem (List.getElem_mem hi)
   have hs':=aW.kW x.aZ[i]
   have hz:=au.WK hi
   have hz':=aW.Ry x.aZ[i]
   rw[IZ hi,O7] at p3
   rw[aW.kY hi] at p2
   have hlo:=sU x.aZ[i].fBody (bound++x.aZ[i].aF) o
   have hcc:=Ub [bound,x.aZ[i].aF] (by simp) (by simp only[List.flatten_cons,List.flatten_nil,List.append_nil,List.length_append];omega)
   simp only[List.map_cons,List.map_nil,List.flatten_cons,List.flatten_nil,List.append_nil] at hcc
   refine W3 ?_
   refine ah hcc ?_
   first|refine W1 ?_|exact Z1
   refine bV rfl (ih x.aZ[i].fBody (by omega) (by omega) (bound++x.aZ[i].aF) o (1+l) j _ (by simp -implicitDefEqProofs (disch:=omega) only[go_sem];exact Ic _) (by omega) (by simp only[List.length_append];omega)) ?_
   simp -implicitDefEqProofs (disch:=omega) only[go_sem,bC]
   exact dz 1 (by decide) (i+1,jL x.aZ[i].fBody (bound++x.aZ[i].aF) o) (by simp only;omega) rfl rfl (refs _ _) rfl ⟨by simp only;omega,by simp only;omega,p3⟩
  ·have hi:i=x.aZ.length:=by omega
   rw[hi,List.drop_length,tH] at p3
   rw[←p3]
   exact⟨rfl,rfl⟩
theorem I4(x:au)(hsz:x.sz≤4194304):aG Tryz.prog 296 [x.v] (.c (.d (.sl ((jL x [] []).map encS)))):=fun S=>by
 have hc:=au.kJ x
 have h0:∀S,dh Tryz.prog 338 [.c (.bD []),x.v,.c (.d (.sl []))] S (fun r S'=>r=.c (.d (.sl ((jL x [] []).map encS)))∧S'=S):=fun S=>by
  refine dh.Yq 0 (es:=[]) (bK:=1) rfl (by simp) (DL _ x (Nat.lt_succ_self _) hsz [] [] 0 0 ([.tok 1 []]::S) rfl (by simp;omega) (by simp;omega)) ?_
  rintro r fr S' ⟨rfl,h2⟩
  injection h2 with h2 h3
  exact⟨_,rfl,rfl,h3⟩
 refine aA (rs:=[.tmp 2]) Tryz.checked.mixed Tryz.func296 Tryz.ntmps296 rfl rfl rfl rfl rfl ?_
 first|refine W1 ?_|exact Z1
 refine W3 ?_
 refine lT [true,true,false] rfl (h0 _) ?_
 first|refine W1 ?_|exact Z1
set_option maxHeartbeats 2000000 in
theorem DN:∀N:Nat,∀x:au,SizeOf.sizeOf x<N→x.sz≤4194304→∀(bound out:List (List UInt8)) (l j:Nat) (S:Store),bM S (l,j)=some (.tok 1 (out.map encS))→out.length+x.cnt≤1073741824→bound.length+x.sz≤1073741824→
 dh Tryz.prog 343 [x.v,.c (.d (.sl (bound.map encS))),.c (.bU (l,j) (out.map encS))] S (fun r S'=>r=.c (.bU (l,j) ((jL x bound out).map encS))∧S'=bQ S (l,j) (.tok 1 ((jL x bound out).map encS)))
 |0=>fun x h=>by omega
 |N+1=>by
  have ih:=DN N
  intro x hn hsz bound out l j S hk hc hbd
  have hb0:=au.zf x
  have jf:=au.fI x
  have tu:=au.mo x
  have hcn:=au.nZ x
  have Ic:∀y:Ab.Obj,bM (bQ S (l,j) y) (l,j)=some y:=fun y=>dN _ _ _ _ hk
  have hS0:bQ S (l,j) (.tok 1 (out.map encS))=S:=iQ _ _ hk
  have fin:=O6 x bound out
  have hal:=F9 x.aX x.fName bound out
  obtain⟨o1,ho1⟩:∃o1,xP x.aX x.fName bound out=o1:=⟨_,rfl⟩
  rw[ho1] at fin hal
  refine(show Hold ?T→_ from fun tail=> ?main) ?tp
  case' main=>
   refine aA (rs:=[.tmp 6]) Tryz.checked.mixed Tryz.func343 Tryz.ntmps343 rfl rfl rfl rfl rfl ?_
   simp -implicitDefEqProofs (disch:=omega) only[go_sem,hk]
   repeat' (first
    |(with_reducible refine aS (fun hb=> ?_) (fun hb=> ?_)<;>have h:=hb<;>(try simp only[wf_preprocess] at h)<;>simp -implicitDefEqProofs (disch:=omega) only[go_sem,hb,hk]<;>(repeat(with_reducible refine And.intro ?_ ?_;focus first|omega|rfl|assumption|exact⟨_,rfl,rfl⟩|(simp;omega)|(simp;done))))
    |(refine ah (qN bound x.fName (by omega)) ?_;simp -implicitDefEqProofs (disch:=omega) only[go_sem,hk];(repeat(with_reducible refine And.intro ?_ ?_;focus first|omega|rfl|assumption|exact⟨_,rfl,rfl⟩|(simp;omega)|(simp;done))))
    |(refine ah (qN out x.fName (by omega)) ?_;simp -implicitDefEqProofs (disch:=omega) only[go_sem,hk];(repeat(with_reducible refine And.intro ?_ ?_;focus first|omega|rfl|assumption|exact⟨_,rfl,rfl⟩|(simp;omega)|(simp;done)))))
   all_goals first
    |(have ha:xP x.aX x.fName bound out=out++[x.fName]:=if_pos ⟨by assumption,by assumption,by assumption⟩)
    |(have ha:xP x.aX x.fName bound out=out:=if_neg (fun y=>by have:=y.1;have:=y.2.1;have:=y.2.2;contradiction))
   all_goals
    refine pW (st':=[.box (x.enc.map .d)]::bQ S (l,j) (.tok 1 (o1.map encS))) [1,2,3,7] [.c (.d (.sl (bound.map encS))),.c (.bU (1+l,j) (o1.map encS)),.c (.ptr (0,0) 0),.c (.d (.i .i64 0))] ?_ ?_ ?_
    ·first|(rw[←ho1,ha];rfl)|(rw[←ho1,ha,←Et];rfl)
    ·first|(rw[←ho1,ha,hS0];simp -implicitDefEqProofs (disch:=omega) only[go_sem];done)|(rw[←ho1,ha,←Et];simp -implicitDefEqProofs (disch:=omega) only[go_sem];done)
    ·exact tail.out
  refine⟨?_⟩
  clear ho1
  refine aV (ι:=Nat×List (List UInt8)) Tryz.checked.mixed rfl [1,2,3,7] (fun y=>[.c (.d (.sl (bound.map encS))),.c (.bU (1+l,j) (y.2.map encS)),.c (.ptr (0,0) 0),.c (.d (.i .i64 y.1))]) (fun y=>[.box (x.enc.map .d)]::bQ S (l,j) (.tok 1 (y.2.map encS)))
   (fun y=>y.1≤x.fArgs.length∧y.2.length+au.eB (x.fArgs.drop y.1)+aW.eB x.aZ≤1073741824∧qd (x.fArgs.drop y.1) x.aX x.fName y.1 bound y.2=qd x.fArgs x.aX x.fName 0 bound o1) (fun y=>x.fArgs.length-y.1) (0,o1) rfl rfl ⟨Nat.zero_le _,by simp only[List.drop_zero];omega,rfl⟩ ?_
  rintro⟨i,o⟩ ⟨p1,p2,p3⟩
  have refs:∀{a b},gV 1 (gy [1,2,3,7] [.c (.d (.sl (bound.map encS))),.c (.bU (1+l,j) a),.c (.ptr (0,0) 0),.c (.d (.i .i64 b))])=true:=fun {a b}=>by simp[gV,gy,V.refs,C.refs,jw];omega
  simp only at p1 p2 p3
  first|refine W1 ?_|exact Z1
  first|refine S0 (fun hb h=>?_) (fun hb h=>?_)|refine S1 fun hb h=>?_|refine S2 fun hb h=>?_|exact S3
  ·have hi:i<x.fArgs.length:=by omega
   have hs:=List.sizeOf_lt_of_mem (List.getElem_mem hi)
   have hz:=au.sO hi
   rw[IY hi] at p3
   rw[au.kY hi] at p2
   have hlo:=sU x.fArgs[i] (if x.aX=8∧i=1 then bound++[x.fName] else bound) o
   have two:x.fArgs[i].sz+(bound.length+1)≤1073741824:=by omega
   repeat' (first|with_reducible refine aS (fun hb=> ?_) (fun hb=> ?_)<;>have h:=hb<;>(try simp only[wf_preprocess] at h)<;>simp -implicitDefEqProofs (disch:=omega) only[go_sem,hb]<;>(repeat(with_reducible refine And.intro ?_ ?_;focus first|omega|rfl|assumption|exact⟨_,rfl,rfl⟩|(simp;omega)|(simp;done))))
   ·have e1:x.aX=8∧i=1:=⟨by omega,by omega⟩
    rw[if_pos e1] at p3 hlo
    refine⟨zl,⟨_,rfl,rfl⟩,fun y hy=>(by cases hy),by omega,?_⟩
    (repeat(with_reducible refine And.intro ?_ ?_;focus first|omega|rfl|assumption|exact⟨_,rfl,rfl⟩|(simp;omega)|(simp;done)))
    rw[Et]
    refine lT [true,false,true] rfl (ih x.fArgs[i] (by omega) (by omega) (bound++[x.fName]) o (1+l) j _ (by simp -implicitDefEqProofs (disch:=omega) only[go_sem];exact Ic _) (by omega) (by simp only[List.length_append,List.length_cons,List.length_nil];omega)) ?_
    simp -implicitDefEqProofs (disch:=omega) only[go_sem,bC]
    exact dz 1 (by decide) (i+1,jL x.fArgs[i] (bound++[x.fName]) o) (by simp only;omega) rfl rfl refs rfl ⟨by simp only;omega,by simp only;omega,p3⟩
   all_goals
    have e1:¬(x.aX=8∧i=1):=fun h=>by omega
    rw[if_neg e1] at p3 hlo
    refine W3 ?_
    refine bV rfl (ih x.fArgs[i] (by omega) (by omega) bound o (1+l) j _ (by simp -implicitDefEqProofs (disch:=omega) only[go_sem];exact Ic _) (by omega) (by omega)) ?_
    simp -implicitDefEqProofs (disch:=omega) only[go_sem,bC]
    exact dz 1 (by decide) (i+1,jL x.fArgs[i] bound o) (by simp only;omega) rfl rfl refs rfl ⟨by simp only;omega,by simp only;omega,p3⟩
  have hi:i=x.fArgs.length:=by omega
  rw[hi,List.drop_length] at p2 p3
  rw[au.eB] at p2
  rw[qd] at p3
  rw[←p3] at fin
  clear p3 refs
  refine aV (ι:=Nat×List (List UInt8)) Tryz.checked.mixed rfl [1,2,3,9] (fun y=>[.c (.d (.sl (bound.map encS))),.c (.bU (1+l,j) (y.2.map encS)),.c (.ptr (0,0) 0),.c (.d (.i .i64 y.1))]) (fun y=>[.box (x.enc.map .d)]::bQ S (l,j) (.tok 1 (y.2.map encS)))
   (fun y=>y.1≤x.aZ.length∧y.2.length+aW.eB (x.aZ.drop y.1)≤1073741824∧tH (x.aZ.drop y.1) bound y.2=jL x bound out) (fun y=>x.aZ.length-y.1) (0,o) rfl ?_ ⟨Nat.zero_le _,by simp only[List.drop_zero];omega,fin.symm⟩ ?_
  ·first|refine W1 ?_|exact Z1
  clear p1 p2 fin hal
  rintro⟨i,o⟩ ⟨p1,p2,p3⟩
  have refs:∀a b,gV 1 (gy [1,2,3,9] [.c (.d (.sl (bound.map encS))),.c (.bU (1+l,j) a),.c (.ptr (0,0) 0),.c (.d (.i .i64 b))])=true:=fun a b=>by simp[gV,gy,V.refs,C.refs,jw];omega
  simp only at p1 p2 p3
  first|refine W1 ?_|exact Z1
  with_reducible refine aS (fun hb=> ?_) (fun hb=> ?_)<;>have h:=hb<;>(try simp only[wf_preprocess] at h)<;>simp -implicitDefEqProofs (disch:=omega) only[go_sem,hb]<;>(repeat(with_reducible refine And.intro ?_ ?_;focus first|omega|rfl|assumption|exact⟨_,rfl,rfl⟩|(simp;omega)|(simp;done)))
  ·have hi:i<x.aZ.length:=by omega
   have hs:=List.sizeOf_lt_of_mem (List.getElem_mem hi)
   have hs':=aW.kW x.aZ[i]
   have hz:=au.WK hi
   have hz':=aW.Ry x.aZ[i]
   rw[IZ hi,O7] at p3
   rw[aW.kY hi] at p2
   have hlo:=sU x.aZ[i].fBody (bound++x.aZ[i].aF) o
   refine⟨zl,⟨_,rfl,rfl⟩,fun y hy=>(by cases hy),by omega,⟨by omega,hi⟩,zl,⟨_,rfl,rfl⟩,by omega,?_⟩
   rw[←List.map_append]
   refine lT [true,false,true] rfl (ih x.aZ[i].fBody (by omega) (by omega) (bound++x.aZ[i].aF) o (1+l) j _ (by simp -implicitDefEqProofs (disch:=omega) only[go_sem];exact Ic _) (by omega) (by simp only[List.length_append];omega)) ?_
   simp -implicitDefEqProofs (disch:=omega) only[go_sem,bC]
   exact dz 1 (by decide) (i+1,jL x.aZ[i].fBody (bound++x.aZ[i].aF) o) (by simp only;omega) rfl rfl (refs _ _) rfl ⟨by simp only;omega,by simp only;omega,p3⟩
  ·have hi:i=x.aZ.length:=by omega
   rw[hi,List.drop_length,tH] at p3
   rw[←p3]
   exact⟨rfl,rfl⟩
theorem I5(x:au)(hsz:x.sz≤4194304):aG Tryz.prog 311 [x.v] (.c (.d (.sl ((jL x [] []).map encS)))):=fun S=>by
 have hc:=au.kJ x
 have h0:∀S,dh Tryz.prog 343 [x.v,.c (.d (.sl [])),.c (.bD [])] S (fun r S'=>r=.c (.d (.sl ((jL x [] []).map encS)))∧S'=S):=fun S=>by
  refine dh.Yq 2 (es:=[]) (bK:=1) rfl (by simp) (DN _ x (Nat.lt_succ_self _) hsz [] [] 0 0 ([.tok 1 []]::S) rfl (by simp;omega) (by simp;omega)) ?_
  rintro r fr S' ⟨rfl,h2⟩
  injection h2 with h2 h3
  exact⟨_,rfl,rfl,h3⟩
 refine aA (rs:=[.tmp 2]) Tryz.checked.mixed Tryz.func311 Tryz.ntmps311 rfl rfl rfl rfl rfl ?_
 first|refine W1 ?_|exact Z1
 refine W3 ?_
 refine lT [true,false,true] rfl (h0 _) ?_
 first|refine W1 ?_|exact Z1
end Go.Proofs.YtlmhknhlmicmeaaGreatDoor
namespace Go.Proofs.YtlmhknhlmicmeaaGreatDoor
open Go Go.Ab
theorem xX:∀n:Nat,(∀x:aj,SizeOf.sizeOf x<n→∀y:aj,x.sz≤4194304→aG Tryz.prog 360 [x.v,y.v] (.c (.d (.b (dec (x=y))))))∧
 (∀xs:List aj,SizeOf.sizeOf xs<n→∀ys:List aj,xs.length+aI (xs.map aj.enc)≤4194304→aG Tryz.prog 375 [.c (.d (.sl (xs.map aj.enc))),.c (.d (.sl (ys.map aj.enc)))] (.c (.d (.b (dec (xs=ys))))))
 |0=>⟨fun x h=>by omega,fun x h=>by omega⟩
 |n+1=>by
  obtain⟨ih,Ih⟩:=xX n
  refine⟨fun x hn y hsz S=> ?_,fun xs hn ys hsz S=> ?_⟩
  ·have jf:=aj.fI x
   simp only[aj.sz,aj.aC,bP,bA,D.sz,List.length_map] at hsz
   refine aA (rs:=[.tmp 4]) Tryz.checked.mixed Tryz.func360 Tryz.ntmps360 rfl rfl rfl rfl rfl ?_
   first|refine W1 ?_|exact Z1
   first|refine S0 (fun hb h=>?_) (fun hb h=>?_)|refine S1 fun hb h=>?_|refine S2 fun hb h=>?_|exact S3
   ·first|refine S0 (fun hb h=>?_) (fun hb h=>?_)|refine S1 fun hb h=>?_|refine S2 fun hb h=>?_|exact S3
    ·refine W3 ?_
     refine ah (Ih x.fArgs (by omega) y.fArgs (by omega)) ?_
     first|refine W1 ?_|exact Z1
     refine aB (iJ ⟨fun e=> ?_,fun e=>by rw[e]⟩)
     exact aj.ext ‹x.aX=y.aX› h e
    ·exact aB (aH (fun e=>h (by rw[e]))).symm
   ·exact aB (aH (fun e=>h (by rw[e]))).symm
  ·refine aA (rs:=[.tmp 4]) Tryz.checked.mixed Tryz.func375 Tryz.ntmps375 rfl rfl rfl rfl rfl ?_
   first|refine W1 ?_|exact Z1
   first|refine S0 (fun hb h=>?_) (fun hb h=>?_)|refine S1 fun hb h=>?_|refine S2 fun hb h=>?_|exact S3
   ·exact aB (aH (fun e=>h (by rw[e]))).symm
   have hl:xs.length=ys.length:=by omega
   refine aV (ι:=Nat) Tryz.checked.mixed rfl [0,1,5] (fun y=>[.c (.d (.sl (xs.map aj.enc))),.c (.d (.sl (ys.map aj.enc))),.c (.d (.i .i64 y))]) (fun y=>[]::S)
    (fun i=>i≤xs.length∧∀j,j<i→xs[j]? =ys[j]?) (fun y=>xs.length-y) 0 rfl rfl ⟨Nat.zero_le _,fun j h=>by omega⟩ ?_
   rintro i ⟨p1,p2⟩
   first|refine W1 ?_|exact Z1
   with_reducible refine aS (fun hb=> ?_) (fun hb=> ?_)<;>have h:=hb<;>(try simp only[wf_preprocess] at h)<;>simp -implicitDefEqProofs (disch:=omega) only[go_sem,hb]<;>(repeat(with_reducible refine And.intro ?_ ?_;focus first|omega|rfl|assumption|exact⟨_,rfl,rfl⟩|(simp;omega)|(simp;done)))
   ·have hi:i<xs.length:=by omega
    have hi':i<ys.length:=by omega
    have hx:xs[i].sz≤aI (xs.map aj.enc):=bI (List.mem_map_of_mem (List.getElem_mem hi))
    refine W3 ?_
    refine ah (ih xs[i] (by have:=List.sizeOf_lt_of_mem (List.getElem_mem hi);omega) ys[i] (by omega)) ?_
    first|refine W1 ?_|exact Z1
    first|refine S0 (fun hb h=>?_) (fun hb h=>?_)|refine S1 fun hb h=>?_|refine S2 fun hb h=>?_|exact S3
    ·exact aB (aH (fun e=>h (by simp only[e]))).symm
    refine bL (i+1) (by omega) rfl rfl ⟨by omega,fun j hj=> ?_⟩
    by_cases e:j=i
    ·subst e
     rw[List.getElem?_eq_getElem hi,List.getElem?_eq_getElem hi',h]
    ·exact p2 j (by omega)
   ·have hi:i=xs.length:=by omega
    refine aB (bJ (List.ext_getElem? fun j=> ?_)).symm
    by_cases hj:j<i
    ·exact p2 j hj
    ·rw[List.getElem?_eq_none (by omega),List.getElem?_eq_none (by omega)]
theorem Ga(x y:aj)(h:x.sz≤4194304):aG Tryz.prog 360 [x.v,y.v] (.c (.d (.b (dec (x=y))))):=(xX _).1 x (Nat.lt_succ_self _) y h
theorem xY:∀n:Nat,(∀x:aj,SizeOf.sizeOf x<n→∀y:aj,x.sz≤4194304→aG Tryz.prog 355 [x.v,y.v] (.c (.d (.b (dec (x=y))))))∧
 (∀xs:List aj,SizeOf.sizeOf xs<n→∀ys:List aj,xs.length+aI (xs.map aj.enc)≤4194304→aG Tryz.prog 374 [.c (.d (.sl (xs.map aj.enc))),.c (.d (.sl (ys.map aj.enc))),.c (.fn 355 [])] (.c (.d (.b (dec (xs=ys))))))
 |0=>⟨fun x h=>by omega,fun x h=>by omega⟩
 |n+1=>by
  obtain⟨ih,Ih⟩:=xY n
  refine⟨fun x hn y hsz S=> ?_,fun xs hn ys hsz S=> ?_⟩
  ·have jf:=aj.fI x
   simp only[aj.sz,aj.aC,bP,bA,D.sz,List.length_map] at hsz
   refine aA (rs:=[.tmp 4]) Tryz.checked.mixed Tryz.func355 Tryz.ntmps355 rfl rfl rfl rfl rfl ?_
   first|refine W1 ?_|exact Z1
   first|refine S0 (fun hb h=>?_) (fun hb h=>?_)|refine S1 fun hb h=>?_|refine S2 fun hb h=>?_|exact S3
   ·first|refine S0 (fun hb h=>?_) (fun hb h=>?_)|refine S1 fun hb h=>?_|refine S2 fun hb h=>?_|exact S3
    ·refine W3 ?_
     refine ah (Ih x.fArgs (by omega) y.fArgs (by omega)) ?_
     first|refine W1 ?_|exact Z1
     refine aB (iJ ⟨fun e=> ?_,fun e=>by rw[e]⟩)
     exact aj.ext ‹x.aX=y.aX› h e
    ·exact aB (aH (fun e=>h (by rw[e]))).symm
   ·exact aB (aH (fun e=>h (by rw[e]))).symm
  ·refine aA (rs:=[.tmp 6]) Tryz.checked.mixed Tryz.func374 Tryz.ntmps374 rfl rfl rfl rfl rfl ?_
   first|refine W1 ?_|exact Z1
   first|refine S0 (fun hb h=>?_) (fun hb h=>?_)|refine S1 fun hb h=>?_|refine S2 fun hb h=>?_|exact S3
   ·exact aB (aH (fun e=>h (by rw[e]))).symm
   have hl:xs.length=ys.length:=by omega
   refine aV (ι:=Nat) Tryz.checked.mixed rfl [1,2,15,16,17] (fun y=>[.c (.d (.sl (ys.map aj.enc))),.c (.fn 355 []),.c (.d (.sl (xs.map aj.enc))),.c (.d (.i .i64 xs.length)),.c (.d (.i .i64 y))]) (fun y=>[]::S)
    (fun i=>i≤xs.length∧∀j,j<i→xs[j]? =ys[j]?) (fun y=>xs.length-y) 0 rfl rfl ⟨Nat.zero_le _,fun j h=>by omega⟩ ?_
   rintro i ⟨p1,p2⟩
   first|refine W1 ?_|exact Z1
   with_reducible refine aS (fun hb=> ?_) (fun hb=> ?_)<;>have h:=hb<;>(try simp only[wf_preprocess] at h)<;>simp -implicitDefEqProofs (disch:=omega) only[go_sem,hb]<;>(repeat(with_reducible refine And.intro ?_ ?_;focus first|omega|rfl|assumption|exact⟨_,rfl,rfl⟩|(simp;omega)|(simp;done)))
   ·have hi:i<xs.length:=by omega
    have hi':i<ys.length:=by omega
    have hx:xs[i].sz≤aI (xs.map aj.enc):=bI (List.mem_map_of_mem (List.getElem_mem hi))
    refine W3 ?_
    refine ah (ih xs[i] (by have:=List.sizeOf_lt_of_mem (List.getElem_mem hi);omega) ys[i] (by omega)) ?_
    first|refine W1 ?_|exact Z1
    first|refine S0 (fun hb h=>?_) (fun hb h=>?_)|refine S1 fun hb h=>?_|refine S2 fun hb h=>?_|exact S3
    ·exact aB (aH (fun e=>h (by simp only[e]))).symm
    refine dz 0 (by decide) (i+1) (by omega) rfl rfl rfl rfl ⟨by omega,fun j hj=> ?_⟩
    by_cases e:j=i
    ·subst e
     rw[List.getElem?_eq_getElem hi,List.getElem?_eq_getElem hi',h]
    ·exact p2 j (by omega)
   ·have hi:i=xs.length:=by omega
    refine aB (bJ (List.ext_getElem? fun j=> ?_)).symm
    by_cases hj:j<i
    ·exact p2 j hj
    ·rw[List.getElem?_eq_none (by omega),List.getElem?_eq_none (by omega)]
theorem Gb(x y:aj)(h:x.sz≤4194304):aG Tryz.prog 355 [x.v,y.v] (.c (.d (.b (dec (x=y))))):=(xY _).1 x (Nat.lt_succ_self _) y h
end Go.Proofs.YtlmhknhlmicmeaaGreatDoor
namespace Go.Ab
theorem au.zn{x:au}(h:x.sz≤4194304):x.bR.length≤4194304∧x.fName.length≤4194304∧x.fType.sz≤4194304∧x.fArgs.length≤4194304∧x.aZ.length≤4194304:=by
 simp only[au.sz,au.aC,bP,bA,D.sz,List.length_map,aj.dw] at h
 omega
theorem au.ZN{x:au}{i:Nat}(hi:i<x.fArgs.length)(h:x.sz≤4194304):x.fArgs[i].sz≤4194304:=by
 have hx:x.fArgs[i].sz≤aI (x.fArgs.map au.enc):=bI (List.mem_map_of_mem (List.getElem_mem hi))
 simp only[au.sz,au.aC,bP,bA,D.sz,List.length_map,aj.dw] at h
 omega
theorem au.ZO{x:au}{i:Nat}(hi:i<x.aZ.length)(h:x.sz≤4194304):x.aZ[i].sz≤4194304:=by
 have hx:x.aZ[i].sz≤aI (x.aZ.map aW.enc):=bI (List.mem_map_of_mem (List.getElem_mem hi))
 simp only[au.sz,au.aC,bP,bA,D.sz,List.length_map,aj.dw] at h
 omega
theorem aW.zn{x:aW}(h:x.sz≤4194304):x.dK.length≤4194304∧x.aF.length≤4194304∧x.fBody.sz≤4194304:=by
 simp only[aW.sz,aW.aC,bP,bA,D.sz,List.length_map,au.dw] at h
 omega
end Go.Ab
namespace Go.Proofs.YtlmhknhlmicmeaaGreatDoor
open Go Go.Ab
theorem xZ:∀n:Nat,∀x:au,SizeOf.sizeOf x<n→∀y:au,x.sz≤4194304→aG Tryz.prog 339 [x.v,y.v] (.c (.d (.b (dec (x=y)))))
 |0=>fun x h=>by omega
 |n+1=>by
  have ih:=xZ n
  intro x hn y hsz S
  have jf:=au.fI x
  have tu:=au.mo x
  have hb0:=au.zn hsz
  have hargs:=FI 339 x.fArgs y.fArgs (by omega) (fun u hu v=>by
   obtain⟨i,hi,e⟩:=List.getElem_of_mem hu
   have:=List.sizeOf_lt_of_mem hu
   exact ih u (by omega) v (by rw[←e];exact au.ZN hi hsz))
  have aeL:=Ij 358 x.aZ y.aZ (by omega) (fun u hu v=>by
   obtain⟨i,hi,e⟩:=List.getElem_of_mem hu
   have hs:=List.sizeOf_lt_of_mem hu
   have hz:u.sz≤4194304:=by rw[←e];exact au.ZO hi hsz
   have hz':=aW.zn hz
   have Hy:=aW.kW u
   intro S
   refine aA (rs:=[.tmp 4]) Tryz.checked.mixed Tryz.func358 Tryz.ntmps358 rfl rfl rfl rfl rfl ?_
   first|refine W1 ?_|exact Z1
   first|refine S0 (fun hb h=>?_) (fun hb h=>?_)|refine S1 fun hb h=>?_|refine S2 fun hb h=>?_|exact S3
   ·have h1:=h
    refine ah (V9 u.aF v.aF (by omega)) ?_
    first|refine W2 ?_|exact Z2
    first|refine S0 (fun hb h=>?_) (fun hb h=>?_)|refine S1 fun hb h=>?_|refine S2 fun hb h=>?_|exact S3
    ·have h2:=h
     refine ah (ih u.fBody (by omega) v.fBody (by omega)) ?_
     first|refine W2 ?_|exact Z2
     exact aB (iJ ⟨fun e=>aW.ext h1 h2 e,fun e=>by rw[e]⟩)
    ·exact aB (aH (fun e=>h (by rw[e]))).symm
   ·exact aB (aH (fun e=>h (by rw[e]))).symm)
  refine aA (rs:=[.tmp 4]) Tryz.checked.mixed Tryz.func339 Tryz.ntmps339 rfl rfl rfl rfl rfl ?_
  first|refine W1 ?_|exact Z1
  first|refine S0 (fun hb h=>?_) (fun hb h=>?_)|refine S1 fun hb h=>?_|refine S2 fun hb h=>?_|exact S3
  ·have h1:=h
   first|refine S0 (fun hb h=>?_) (fun hb h=>?_)|refine S1 fun hb h=>?_|refine S2 fun hb h=>?_|exact S3
   ·have h2:=h
    first|refine S0 (fun hb h=>?_) (fun hb h=>?_)|refine S1 fun hb h=>?_|refine S2 fun hb h=>?_|exact S3
    ·have h3:=h
     first|refine S0 (fun hb h=>?_) (fun hb h=>?_)|refine S1 fun hb h=>?_|refine S2 fun hb h=>?_|exact S3
     ·have h4:=h
      refine ah (Gb x.fType y.fType (by omega)) ?_
      first|refine W2 ?_|exact Z2
      first|refine S0 (fun hb h=>?_) (fun hb h=>?_)|refine S1 fun hb h=>?_|refine S2 fun hb h=>?_|exact S3
      ·have h5:=h
       refine ah (hargs) ?_
       first|refine W2 ?_|exact Z2
       first|refine S0 (fun hb h=>?_) (fun hb h=>?_)|refine S1 fun hb h=>?_|refine S2 fun hb h=>?_|exact S3
       ·have h6:=h
        refine ah (aeL) ?_
        first|refine W2 ?_|exact Z2
        exact aB (iJ ⟨fun e=>au.ext h1 h2 h3 h4 h5 h6 e,fun e=>by rw[e]⟩)
       ·exact aB (aH (fun e=>h (by rw[e]))).symm
      ·exact aB (aH (fun e=>h (by rw[e]))).symm
     ·exact aB (aH (fun e=>h (by rw[e]))).symm
    ·exact aB (aH (fun e=>h (by rw[e]))).symm
   ·exact aB (aH (fun e=>h (by rw[e]))).symm
  ·exact aB (aH (fun e=>h (by rw[e]))).symm
theorem Gc(x y:au)(h:x.sz≤4194304):aG Tryz.prog 339 [x.v,y.v] (.c (.d (.b (dec (x=y))))):=xZ _ x (Nat.lt_succ_self _) y h
theorem x9:∀n:Nat,∀x:au,SizeOf.sizeOf x<n→∀y:au,x.sz≤4194304→aG Tryz.prog 341 [x.v,y.v] (.c (.d (.b (dec (x=y)))))
 |0=>fun x h=>by omega
 |n+1=>by
  have ih:=x9 n
  intro x hn y hsz S
  have jf:=au.fI x
  have tu:=au.mo x
  have hb0:=au.zn hsz
  refine aA (rs:=[.tmp 4]) Tryz.checked.mixed Tryz.func341 Tryz.ntmps341 rfl rfl rfl rfl rfl ?_
  first|refine W1 ?_|exact Z1
  first|refine S0 (fun hb h=>?_) (fun hb h=>?_)|refine S1 fun hb h=>?_|refine S2 fun hb h=>?_|exact S3
  ·exact aB (aH (fun e=>h (by rw[e]))).symm
  have h1:=h
  first|refine S0 (fun hb h=>?_) (fun hb h=>?_)|refine S1 fun hb h=>?_|refine S2 fun hb h=>?_|exact S3
  ·exact aB (aH (fun e=>h (by rw[e]))).symm
  have h2:=h
  first|refine S0 (fun hb h=>?_) (fun hb h=>?_)|refine S1 fun hb h=>?_|refine S2 fun hb h=>?_|exact S3
  ·exact aB (aH (fun e=>h (by rw[e]))).symm
  have h3:=h
  first|refine S0 (fun hb h=>?_) (fun hb h=>?_)|refine S1 fun hb h=>?_|refine S2 fun hb h=>?_|exact S3
  ·exact aB (aH (fun e=>h (by rw[e]))).symm
  have h4:=h
  refine ah (Ga x.fType y.fType (by omega)) ?_
  first|refine W2 ?_|exact Z2
  first|refine S0 (fun hb h=>?_) (fun hb h=>?_)|refine S1 fun hb h=>?_|refine S2 fun hb h=>?_|exact S3
  ·exact aB (aH (fun e=>h (by rw[e]))).symm
  have h5:=h
  first|refine S0 (fun hb h=>?_) (fun hb h=>?_)|refine S1 fun hb h=>?_|refine S2 fun hb h=>?_|exact S3
  ·exact aB (aH (fun e=>h (by rw[e]))).symm
  have h6:x.fArgs.length=y.fArgs.length:=by omega
  first|refine S0 (fun hb h=>?_) (fun hb h=>?_)|refine S1 fun hb h=>?_|refine S2 fun hb h=>?_|exact S3
  ·exact aB (aH (fun e=>h (by rw[e]))).symm
  have h7:x.aZ.length=y.aZ.length:=by omega
  refine aV (ι:=Nat) Tryz.checked.mixed rfl [2,3,5] (fun i=>[.c (.ptr (0,0) 0),.c (.ptr (0,1) 0),.c (.d (.i .i64 i))]) (fun _=>[.box (x.enc.map .d),.box (y.enc.map .d)]::S)
   (fun i=>i≤x.fArgs.length∧∀j,j<i→x.fArgs[j]? =y.fArgs[j]?) (fun i=>x.fArgs.length-i) 0 rfl ?_ ⟨Nat.zero_le _,fun j h=>by omega⟩ ?_
  ·first|refine W1 ?_|exact Z1
  rintro i ⟨p1,p2⟩
  first|refine W1 ?_|exact Z1
  with_reducible refine aS (fun hb=> ?_) (fun hb=> ?_)<;>have h:=hb<;>(try simp only[wf_preprocess] at h)<;>simp -implicitDefEqProofs (disch:=omega) only[go_sem,hb]<;>(repeat(with_reducible refine And.intro ?_ ?_;focus first|omega|rfl|assumption|exact⟨_,rfl,rfl⟩|(simp;omega)|(simp;done)))
  ·have hi:i<x.fArgs.length:=by omega
   have hi':i<y.fArgs.length:=by omega
   refine W3 ?_
   refine ah (ih x.fArgs[i] (by have:=List.sizeOf_lt_of_mem (List.getElem_mem hi);omega) y.fArgs[i] (au.ZN hi hsz)) ?_
   first|refine W2 ?_|exact Z2
   first|refine S0 (fun hb h=>?_) (fun hb h=>?_)|refine S1 fun hb h=>?_|refine S2 fun hb h=>?_|exact S3
   ·exact aB (aH (fun e=>h (by simp only[e]))).symm
   refine bL (i+1) (by omega) rfl rfl ⟨by omega,fun j hj=> ?_⟩
   by_cases e:j=i
   ·subst e
    rw[List.getElem?_eq_getElem hi,List.getElem?_eq_getElem hi',h]
   ·exact p2 j (by omega)
  have hi:i=x.fArgs.length:=by omega
  have h8:x.fArgs=y.fArgs:=List.ext_getElem? fun j=>by
   by_cases hj:j<i
   ·exact p2 j hj
   ·rw[List.getElem?_eq_none (by omega),List.getElem?_eq_none (by omega)]
  refine aV (ι:=Nat) Tryz.checked.mixed rfl [2,3,6] (fun i=>[.c (.ptr (0,0) 0),.c (.ptr (0,1) 0),.c (.d (.i .i64 i))]) (fun _=>[.box (x.enc.map .d),.box (y.enc.map .d)]::S)
   (fun i=>i≤x.aZ.length∧∀j,j<i→x.aZ[j]? =y.aZ[j]?) (fun i=>x.aZ.length-i) 0 rfl ?_ ⟨Nat.zero_le _,fun j h=>by omega⟩ ?_
  ·first|refine W1 ?_|exact Z1
  clear p1 p2 hi hb h
  clear i
  rintro i ⟨p1,p2⟩
  first|refine W1 ?_|exact Z1
  with_reducible refine aS (fun hb=> ?_) (fun hb=> ?_)<;>have h:=hb<;>(try simp only[wf_preprocess] at h)<;>simp -implicitDefEqProofs (disch:=omega) only[go_sem,hb]<;>(repeat(with_reducible refine And.intro ?_ ?_;focus first|omega|rfl|assumption|exact⟨_,rfl,rfl⟩|(simp;omega)|(simp;done)))
  ·have hi:i<x.aZ.length:=by omega
   have hi':i<y.aZ.length:=by omega
   have hs:=List.sizeOf_lt_of_mem (List.getElem_mem hi)
   have hz:=aW.zn (au.ZO hi hsz)
   have Hy:=aW.kW x.aZ[i]
   refine W3 ?_
   first|refine S0 (fun hb h=>?_) (fun hb h=>?_)|refine S1 fun hb h=>?_|refine S2 fun hb h=>?_|exact S3
   ·exact aB (aH (fun e=>h (by simp only[e]))).symm
   have k1:=h
   refine W3 ?_
   refine ah (Qq x.aZ[i].aF y.aZ[i].aF (by omega)) ?_
   first|refine W2 ?_|exact Z2
   first|refine S0 (fun hb h=>?_) (fun hb h=>?_)|refine S1 fun hb h=>?_|refine S2 fun hb h=>?_|exact S3
   ·exact aB (aH (fun e=>h (by simp only[e]))).symm
   have k2:=h
   refine W3 ?_
   refine ah (ih x.aZ[i].fBody (by omega) y.aZ[i].fBody (by omega)) ?_
   first|refine W2 ?_|exact Z2
   first|refine S0 (fun hb h=>?_) (fun hb h=>?_)|refine S1 fun hb h=>?_|refine S2 fun hb h=>?_|exact S3
   ·exact aB (aH (fun e=>h (by simp only[e]))).symm
   have k3:=h
   refine bL (i+1) (by omega) rfl rfl ⟨by omega,fun j hj=> ?_⟩
   by_cases e:j=i
   ·subst e
    rw[List.getElem?_eq_getElem hi,List.getElem?_eq_getElem hi',aW.ext k1 k2 k3]
   ·exact p2 j (by omega)
  ·have hi:i=x.aZ.length:=by omega
   have h9:x.aZ=y.aZ:=List.ext_getElem? fun j=>by
    by_cases hj:j<i
    ·exact p2 j hj
    ·rw[List.getElem?_eq_none (by omega),List.getElem?_eq_none (by omega)]
   exact aB (bJ (au.ext h1 h2 h3 h4 h5 h8 h9)).symm
theorem Gd(x y:au)(h:x.sz≤4194304):aG Tryz.prog 341 [x.v,y.v] (.c (.d (.b (dec (x=y))))):=x9 _ x (Nat.lt_succ_self _) y h
end Go.Proofs.YtlmhknhlmicmeaaGreatDoor
namespace Go.Proofs.YtlmhknhlmicmeaaGreatDoor
open Go Go.Ab
theorem AQ:∀n:Nat,∀t:aj,SizeOf.sizeOf t<n→t.sz≤4194304→∀v:List UInt8,aG Tryz.prog 310 [t.v,.c (.d (.s v))] (.c (.d (.i .i64 (oN v t))))
 |0=>fun t h=>by omega
 |n+1=>by
  have ih:=AQ n
  intro t hn hsz v S
  have jf:=aj.fI t
  have hts:=Dc hsz
  have hcl:=V5 v t
  have hcn:=kJ t
  have he:=V4 v t
  refine aA (rs:=[.tmp 4]) Tryz.checked.mixed Tryz.func310 Tryz.ntmps310 rfl rfl rfl rfl rfl ?_
  first|refine W1 ?_|exact Z1
  repeat' (first|(with_reducible refine aS (fun hb=> ?_) (fun hb=> ?_)<;>have h:=hb<;>(try simp only[wf_preprocess] at h)<;>simp -implicitDefEqProofs (disch:=omega) only[go_sem,hb]<;>(repeat(with_reducible refine And.intro ?_ ?_;focus first|omega|rfl|assumption|exact⟨_,rfl,rfl⟩|(simp;omega)|(simp;done)))))
  all_goals first
   |(have hc:oN v t=1+tC v t.fArgs:=by rw[he,if_pos (by simp only[H6,decide_eq_true_eq];exact⟨by assumption,by assumption⟩)])
   |(have hc:oN v t=0+tC v t.fArgs:=by rw[he,if_neg (by simp only[H6,decide_eq_true_eq];exact fun x=>by have:=x.1;have:=x.2;contradiction)])
  all_goals
   refine aV (ι:=Nat×Nat) Tryz.checked.mixed rfl [1,2,5,6] (fun y=>[.c (.d (.s v)),.c (.ptr (0,0) 0),.c (.d (.i .i64 y.2)),.c (.d (.i .i64 y.1))]) (fun _=>[.box [.d (.i .i64 t.aX),.d (.s t.fName),.d (.sl (t.fArgs.map aj.enc))]]::S)
    (fun y=>y.1≤t.fArgs.length∧oN v t=y.2+tC v (t.fArgs.drop y.1)) (fun y=>t.fArgs.length-y.1) (0,_) rfl rfl ⟨Nat.zero_le _,hc⟩ ?_
   rintro⟨i,c⟩ ⟨p1,p2⟩
   simp only at p1 p2
   first|refine W1 ?_|exact Z1
   with_reducible refine aS (fun hb=> ?_) (fun hb=> ?_)<;>have h:=hb<;>(try simp only[wf_preprocess] at h)<;>simp -implicitDefEqProofs (disch:=omega) only[go_sem,hb]<;>(repeat(with_reducible refine And.intro ?_ ?_;focus first|omega|rfl|assumption|exact⟨_,rfl,rfl⟩|(simp;omega)|(simp;done)))
   ·have hi:i<t.fArgs.length:=by omega
    rw[Oo hi] at p2
    refine W3 ?_
    refine ah (ih t.fArgs[i] (by have:=List.sizeOf_lt_of_mem (List.getElem_mem hi);omega) (yF hi hsz).1 v) ?_
    first|refine W2 ?_|exact Z2
    rw[show(c:Int)+(oN v t.fArgs[i]:Int)=((c+oN v t.fArgs[i]:Nat):Int) by omega]
    exact bL (i+1,c+oN v t.fArgs[i]) (by simp only;omega) rfl rfl ⟨by simp only;omega,by simp only;omega⟩
   ·have hi:i=t.fArgs.length:=by omega
    rw[hi,List.drop_length] at p2
    have h0:tC v []=0:=rfl
    exact int_eq (by omega)
theorem Me(v:List UInt8)(t:aj)(hsz:t.sz≤4194304):aG Tryz.prog 253 [.c (.d (.s v)),t.v] (.c (.d (.b (occurs v t)))):=fun S=>by
 refine aA (rs:=[.tmp 4]) Tryz.checked.mixed Tryz.func253 Tryz.ntmps253 rfl rfl rfl rfl rfl ?_
 first|refine W1 ?_|exact Z1
 refine ah (AQ _ t (Nat.lt_succ_self _) hsz v) ?_
 first|refine W2 ?_|exact Z2
 exact aB (by unfold occurs;rw[Bool.eq_iff_iff];simp only[decide_eq_true_eq];omega)
end Go.Proofs.YtlmhknhlmicmeaaGreatDoor
namespace Go.Ab
def zeroE:au:=.mk 0 [] [] 0 (.mk 0 [] []) [] []
def Eu:List (List UInt8):=[[115,101,108,102]]
noncomputable def AR(vars:List (List UInt8))(e:au):Bool:=pI e&&among (jL e [] []) vars
noncomputable def oQ(vars:List (List UInt8))(e:au):Bool:=iA vars&&AR vars e
noncomputable def mD(vars:List (List UInt8))(b:bq):Bool:=(validName b.bR&&mF b.fType)&&(!o7 b.fType&&among (iL [] b.fType) vars)
noncomputable def nX(vars:List (List UInt8))(bs:List bq):Bool:=dec (bs.length≤4)&&bs.all (mD vars)
noncomputable def iw(g:aR):Bool:=
 validName g.fName&&(dec (g.aY.length≤4)&&(kg Eu g.aY&&(gu Eu g.bO&&
  (if g.iD=true then dec (g.aF.length=g.aY.length+1)&&oQ g.aF g.fBody else dec (g.aF.length=0)&&dec (g.fBody=zeroE)))))
theorem uW{xs:List aj}{t:aj}(h:t∈xs):t.sz≤aI (xs.map aj.enc):=bI (List.mem_map_of_mem h)
theorem nT{xs:List bq}{t:bq}(h:t∈xs):t.sz≤aI (xs.map bq.enc):=bI (List.mem_map_of_mem h)
theorem aR.sum(x:aR):x.fName.length+(x.aY.length+aI (x.aY.map aj.enc))+x.bO.sz+(x.aF.length+aI (x.aF.map encS))+x.fBody.sz≤x.sz:=by
 simp only[aR.sz,aR.aC,bP,bA,D.sz,List.length_map,aj.dw,au.dw]
 omega
theorem bq.sum(x:bq):x.bR.length+x.fType.sz≤x.sz:=by
 simp only[bq.sz,bq.aC,bP,bA,D.sz,List.length_map,aj.dw]
 omega
theorem O8(e:au)(h:e.sz≤4194304):(jL e [] []).length≤1073741824:=by
 have h1:=sU e [] []
 have h2:=au.kJ e
 simp at h1
 omega
theorem I6(t:aj)(h:t.sz≤4194304):(iL [] t).length≤1073741824:=by
 have h1:=xE t []
 have h2:=_root_.Go.Ab.kJ t
 simp at h1
 omega
theorem Fj(vars:List (List UInt8))(t:aj):gu vars t=(mF t&&among (iL [] t) vars):=rfl
end Go.Ab
namespace Go.Proofs.YtlmhknhlmicmeaaGreatDoor
open Go Go.Ab
theorem DR(vars:List (List UInt8))(e:au)(hv:vars.length≤1073741824)(hs:∀s∈vars,s.length≤4194304)(hsz:e.sz≤4194304):aG Tryz.prog 227 [.c (.d (.sl (vars.map encS))),e.v] (.c (.d (.b (oQ vars e)))):=fun S=>by
 refine aA (rs:=[.tmp 4]) Tryz.checked.mixed Tryz.func227 Tryz.ntmps227 rfl rfl rfl rfl rfl ?_
 first|refine W1 ?_|exact Z1
 refine ah (nA vars hv hs) ?_
 first|refine W2 ?_|exact Z2
 first|refine S0 (fun hb h=>?_) (fun hb h=>?_)|refine S1 fun hb h=>?_|refine S2 fun hb h=>?_|exact S3
 ·have h1:=h
  refine ah (F5 e hsz) ?_
  first|refine W2 ?_|exact Z2
  first|refine S0 (fun hb h=>?_) (fun hb h=>?_)|refine S1 fun hb h=>?_|refine S2 fun hb h=>?_|exact S3
  ·have h2:=h
   refine ah (I4 e hsz) ?_
   first|refine W2 ?_|exact Z2
   refine ah (wV _ vars (O8 e hsz) hv) ?_
   first|refine W2 ?_|exact Z2
   exact aB (by unfold oQ AR;rw[h1,h2];rfl)
  ·exact aB (by unfold oQ AR;rw[h];simp)
 ·exact aB (by unfold oQ;rw[h];rfl)
theorem BX(vars:List (List UInt8))(e:au)(hv:vars.length≤1073741824)(hsz:e.sz≤4194304):aG Tryz.prog 255 [e.v,.c (.d (.sl (vars.map encS)))] (.c (.d (.b (AR vars e)))):=fun S=>by
 have hlen:=O8 e hsz
 refine aA (rs:=[.tmp 4]) Tryz.checked.mixed Tryz.func255 Tryz.ntmps255 rfl rfl rfl rfl rfl ?_
 first|refine W1 ?_|exact Z1
 refine ah (I5 e hsz) ?_
 first|refine W2 ?_|exact Z2
 unfold AR
 generalize jL e [] []=xs at hlen ⊢
 refine aV (ι:=Nat) Tryz.checked.mixed rfl [1,2,5,6] (fun i=>[.c (.d (.sl (vars.map encS))),.c (.ptr (0,0) 0),.c (.d (.sl (xs.map encS))),.c (.d (.i .i64 i))]) (fun _=>[.box (e.enc.map .d)]::S)
  (fun i=>i≤xs.length∧among (xs.drop i) vars=among xs vars) (fun i=>xs.length-i) 0 rfl ?_ ⟨Nat.zero_le _,rfl⟩ ?_
 ·first|refine W1 ?_|exact Z1
 rintro i ⟨p1,p2⟩
 simp -implicitDefEqProofs (disch:=omega) only[go_sem,encS]
 with_reducible refine aS (fun hb=> ?_) (fun hb=> ?_)<;>have h:=hb<;>(try simp only[wf_preprocess] at h)<;>simp -implicitDefEqProofs (disch:=omega) only[go_sem,hb,encS]<;>(repeat(with_reducible refine And.intro ?_ ?_;focus first|omega|rfl|assumption|exact⟨_,rfl,rfl⟩|(simp;omega)|(simp;done)))
 ·have hi:i<xs.length:=by omega
  rw[List.drop_eq_getElem_cons hi] at p2
  have p3:among xs vars=(dec (xs[i]∈vars)&&among (xs.drop (i+1)) vars):=p2.symm
  refine W3 ?_
  refine ah (qN vars xs[i] hv) ?_
  first|refine W2 ?_|exact Z2
  first|refine S0 (fun hb h=>?_) (fun hb h=>?_)|refine S1 fun hb h=>?_|refine S2 fun hb h=>?_|exact S3
  ·exact aB (by rw[p3,aH h];simp)
  ·exact bL (i+1) (by omega) rfl rfl ⟨by omega,by rw[p3,bJ h];rfl⟩
 ·rw[List.drop_of_length_le (by omega)] at p2
  have p3:among xs vars=true:=p2.symm
  refine W3 ?_
  refine ah (F6 e hsz) ?_
  first|refine W2 ?_|exact Z2
  exact aB (by rw[p3];simp)
theorem I7(vars:List (List UInt8))(hv:vars.length≤1073741824)(rest:List Ab.Obj)(S:Store)(b:bq)(hb:b.sz≤4194304):nu Tryz.prog 291 [((0,0),0)] ((.box [.d (.sl (vars.map encS))]::rest)::S) [b.v] (.c (.d (.b (!mD vars b)))):=fun F=>by
 have hs:=bq.sum b
 refine aA (rs:=[.tmp 3]) Tryz.checked.mixed Tryz.func291 Tryz.ntmps291 rfl rfl rfl rfl rfl ?_
 first|refine W1 ?_|exact Z1
 refine ah (EA b (by omega) (by omega)) ?_
 first|refine W2 ?_|exact Z2
 first|refine S0 (fun hb h=>?_) (fun hb h=>?_)|refine S1 fun hb h=>?_|refine S2 fun hb h=>?_|exact S3
 ·exact aB (by unfold mD;rw[h];rfl)
 have h1:=h
 refine W3 ?_
 refine ah (Az b.fType (by omega)) ?_
 first|refine W2 ?_|exact Z2
 first|refine S0 (fun hb h=>?_) (fun hb h=>?_)|refine S1 fun hb h=>?_|refine S2 fun hb h=>?_|exact S3
 ·exact aB (by unfold mD;rw[h];simp)
 have h2:=h
 refine W3 ?_
 refine ah (vG b.fType (by omega)) ?_
 first|refine W2 ?_|exact Z2
 refine ah (wV _ vars (I6 _ (by omega)) hv) ?_
 first|refine W2 ?_|exact Z2
 exact aB (by unfold mD;rw[h1,h2];simp)
theorem DT(bs:List bq)(vars:List (List UInt8))(hl:bs.length≤1073741824)(hz:∀b∈bs,b.sz≤4194304)(hv:vars.length≤1073741824):aG Tryz.prog 223 [.c (.d (.sl (bs.map bq.enc))),.c (.d (.sl (vars.map encS)))] (.c (.d (.b (nX vars bs)))):=fun S=>by
 have ha:(bs.any fun t=> !mD vars t)= !bs.all (mD vars):=by rw[List.not_all_eq_any_not]
 refine aA (rs:=[.tmp 4]) Tryz.checked.mixed Tryz.func223 Tryz.ntmps223 rfl rfl rfl rfl rfl ?_
 first|refine W1 ?_|exact Z1
 first|refine S0 (fun hb h=>?_) (fun hb h=>?_)|refine S1 fun hb h=>?_|refine S2 fun hb h=>?_|exact S3
 ·have h1:=h
  refine W3 ?_
  refine bV rfl (BG 291 [((0,0),0)] _ bs (fun t=> !mD vars t) hl fun t hx=>I7 vars hv [] S t (hz t hx)) ?_
  first|refine W1 ?_|exact Z1
  rw[ha]
  exact aB (by unfold nX;rw[bJ (by omega)];simp)
 ·exact aB (by unfold nX;rw[aH (by omega)];rfl)
theorem Fp(bs:List bq)(vars:List (List UInt8))(hl:bs.length≤1073741824)(hz:∀b∈bs,b.sz≤4194304)(hv:vars.length≤1073741824):aG Tryz.prog 252 [.c (.d (.sl (bs.map bq.enc))),.c (.d (.sl (vars.map encS)))] (.c (.d (.b (nX vars bs)))):=fun S=>by
 refine aA (rs:=[.tmp 4]) Tryz.checked.mixed Tryz.func252 Tryz.ntmps252 rfl rfl rfl rfl rfl ?_
 first|refine W1 ?_|exact Z1
 refine aV (ι:=Nat) Tryz.checked.mixed rfl [0,1,5] (fun i=>[.c (.d (.sl (bs.map bq.enc))),.c (.d (.sl (vars.map encS))),.c (.d (.i .i64 i))]) (fun _=>[]::S)
  (fun i=>i≤bs.length∧(bs.drop i).all (mD vars)=bs.all (mD vars)) (fun i=>bs.length-i) 0 rfl rfl ⟨Nat.zero_le _,rfl⟩ ?_
 rintro i ⟨p1,p2⟩
 first|refine W1 ?_|exact Z1
 with_reducible refine aS (fun hb=> ?_) (fun hb=> ?_)<;>have h:=hb<;>(try simp only[wf_preprocess] at h)<;>simp -implicitDefEqProofs (disch:=omega) only[go_sem,hb]<;>(repeat(with_reducible refine And.intro ?_ ?_;focus first|omega|rfl|assumption|exact⟨_,rfl,rfl⟩|(simp;omega)|(simp;done)))
 ·have hi:i<bs.length:=by omega
  have hb:=hz _ (List.getElem_mem hi)
  have hs:=bq.sum bs[i]
  rw[List.drop_eq_getElem_cons hi,List.all_cons] at p2
  have no:mD vars bs[i]=false→V.c (.d (.b false))=V.c (.d (.b (nX vars bs))):=fun h=>aB (by unfold nX;rw[←p2,h];simp)
  refine W3 ?_
  refine ah (Ez bs[i] (by omega) (by omega)) ?_
  first|refine W2 ?_|exact Z2
  first|refine S0 (fun hb h=>?_) (fun hb h=>?_)|refine S1 fun hb h=>?_|refine S2 fun hb h=>?_|exact S3
  ·exact no (by unfold mD;rw[h];rfl)
  have h1:=h
  refine W3 ?_
  refine ah (qO bs[i].fType vars (by omega) hv) ?_
  first|refine W2 ?_|exact Z2
  first|refine S0 (fun hb h=>?_) (fun hb h=>?_)|refine S1 fun hb h=>?_|refine S2 fun hb h=>?_|exact S3
  ·exact no (by unfold mD;rw[Fj] at h;rw[Bool.and_eq_true] at h1;rw[h1.2,Bool.true_and] at h;rw[h];simp)
  have h2:=h
  refine W3 ?_
  refine ah (Ay bs[i].fType (by omega)) ?_
  first|refine W2 ?_|exact Z2
  first|refine S0 (fun hb h=>?_) (fun hb h=>?_)|refine S1 fun hb h=>?_|refine S2 fun hb h=>?_|exact S3
  ·exact no (by unfold mD;rw[h];simp)
  have h3:=h
  rw[Fj,Bool.and_eq_true] at h2
  exact bL (i+1) (by omega) rfl rfl ⟨by omega,by rw[←p2];unfold mD;rw[h1,h2.2,h3];rfl⟩
 ·rw[List.drop_of_length_le (by omega)] at p2
  exact aB (by unfold nX;rw[←p2,ny];simp only[List.all_nil,Bool.and_true];exact iJ ⟨fun h=>by omega,fun h=>by omega⟩)
theorem Mf(e:au)(hsz:e.sz≤4194304):aG Tryz.prog 297 [e.v] (.c (.d (.b (dec (e=zeroE))))):=fun S=>by
 refine aA (rs:=[.tmp 2]) Tryz.checked.mixed Tryz.func297 Tryz.ntmps297 rfl rfl rfl rfl rfl ?_
 first|refine W1 ?_|exact Z1
 refine ah (Gc e zeroE hsz) ?_
 first|refine W1 ?_|exact Z1
theorem Um(e:au)(hsz:e.sz≤4194304):aG Tryz.prog 307 [e.v] (.c (.d (.b (dec (e=zeroE))))):=fun S=>by
 refine aA (rs:=[.tmp 2]) Tryz.checked.mixed Tryz.func307 Tryz.ntmps307 rfl rfl rfl rfl rfl ?_
 first|refine W1 ?_|exact Z1
 refine ah (Gd e zeroE hsz) ?_
 first|refine W1 ?_|exact Z1
theorem J6(g:aR)(hsz:g.sz≤4194304):aG Tryz.prog 232 [g.v] (.c (.d (.b (iw g)))):=fun S=>by
 have hs:=aR.sum g
 have hT:∀t∈g.aY,t.sz≤4194304:=fun t ht=>by have:=uW ht;omega
 have hV:∀s∈g.aF,s.length≤4194304:=fun s h=>by have:=pG h;omega
 refine aA (rs:=[.tmp 2]) Tryz.checked.mixed Tryz.func232 Tryz.ntmps232 rfl rfl rfl rfl rfl ?_
 first|refine W1 ?_|exact Z1
 refine ah (gJ g.fName (by omega)) ?_
 first|refine W2 ?_|exact Z2
 first|refine S0 (fun hb h=>?_) (fun hb h=>?_)|refine S1 fun hb h=>?_|refine S2 fun hb h=>?_|exact S3
 ·exact aB (by unfold iw;rw[h];rfl)
 have h1:=h
 first|refine S0 (fun hb h=>?_) (fun hb h=>?_)|refine S1 fun hb h=>?_|refine S2 fun hb h=>?_|exact S3
 ·exact aB (by unfold iw;rw[aH (show ¬g.aY.length≤4 by omega)];simp)
 have h2:=h
 refine W3 ?_
 refine ah (vH g.aY Eu (by omega) hT (by decide)) ?_
 first|refine W1 ?_|exact Z1
 first|refine S0 (fun hb h=>?_) (fun hb h=>?_)|refine S1 fun hb h=>?_|refine S2 fun hb h=>?_|exact S3
 ·exact aB (by unfold iw;rw[h];simp)
 have h3:=h
 refine W3 ?_
 refine ah (qZ g.bO Eu (by omega) (by decide)) ?_
 first|refine W1 ?_|exact Z1
 first|refine S0 (fun hb h=>?_) (fun hb h=>?_)|refine S1 fun hb h=>?_|refine S2 fun hb h=>?_|exact S3
 ·exact aB (by unfold iw;rw[h];simp)
 have h4:=h
 first|refine S0 (fun hb h=>?_) (fun hb h=>?_)|refine S1 fun hb h=>?_|refine S2 fun hb h=>?_|exact S3
 ·have h5:=h
  first|refine S0 (fun hb h=>?_) (fun hb h=>?_)|refine S1 fun hb h=>?_|refine S2 fun hb h=>?_|exact S3
  ·have h6:=h
   refine ah (DR g.aF g.fBody (by omega) hV (by omega)) ?_
   first|refine W2 ?_|exact Z2
   exact aB (by unfold iw;rw[h1,h3,h4,if_pos h5,bJ (show g.aY.length≤4 by omega),bJ (show g.aF.length=g.aY.length+1 by omega)];rfl)
  ·exact aB (by unfold iw;rw[if_pos h5,aH (show ¬g.aF.length=g.aY.length+1 by omega)];simp)
 ·have h5:¬g.iD=true:=by rw[h];simp
  first|refine S0 (fun hb h=>?_) (fun hb h=>?_)|refine S1 fun hb h=>?_|refine S2 fun hb h=>?_|exact S3
  ·refine ah (Mf g.fBody (by omega)) ?_
   first|refine W2 ?_|exact Z2
   exact aB (by unfold iw;rw[h1,h3,h4,if_neg h5,bJ (show g.aY.length≤4 by omega),bJ (show g.aF.length=0 by omega)];rfl)
  ·exact aB (by unfold iw;rw[if_neg h5,aH (show ¬g.aF.length=0 by omega)];simp)
theorem WL(g:aR)(hsz:g.sz≤4194304):aG Tryz.prog 248 [g.v] (.c (.d (.b (iw g)))):=fun S=>by
 have hs:=aR.sum g
 have hT:∀t∈g.aY,t.sz≤4194304:=fun t ht=>by have:=uW ht;omega
 have hV:∀s∈g.aF,s.length≤4194304:=fun s h=>by have:=pG h;omega
 refine aA (rs:=[.tmp 2]) Tryz.checked.mixed Tryz.func248 Tryz.ntmps248 rfl rfl rfl rfl rfl ?_
 first|refine W1 ?_|exact Z1
 refine ah (gK g.fName (by omega)) ?_
 first|refine W2 ?_|exact Z2
 first|refine S0 (fun hb h=>?_) (fun hb h=>?_)|refine S1 fun hb h=>?_|refine S2 fun hb h=>?_|exact S3
 ·exact aB (by unfold iw;rw[h];rfl)
 have h1:=h
 first|refine S0 (fun hb h=>?_) (fun hb h=>?_)|refine S1 fun hb h=>?_|refine S2 fun hb h=>?_|exact S3
 ·exact aB (by unfold iw;rw[aH (show ¬g.aY.length≤4 by omega)];simp)
 have h2:=h
 refine W3 ?_
 refine ah (KZ g.aY Eu (by omega) hT (by decide)) ?_
 first|refine W1 ?_|exact Z1
 first|refine S0 (fun hb h=>?_) (fun hb h=>?_)|refine S1 fun hb h=>?_|refine S2 fun hb h=>?_|exact S3
 ·exact aB (by unfold iw;rw[h];simp)
 have h3:=h
 refine W3 ?_
 refine ah (qO g.bO Eu (by omega) (by decide)) ?_
 first|refine W1 ?_|exact Z1
 first|refine S0 (fun hb h=>?_) (fun hb h=>?_)|refine S1 fun hb h=>?_|refine S2 fun hb h=>?_|exact S3
 ·exact aB (by unfold iw;rw[h];simp)
 have h4:=h
 first|refine S0 (fun hb h=>?_) (fun hb h=>?_)|refine S1 fun hb h=>?_|refine S2 fun hb h=>?_|exact S3
 ·have h5:¬g.iD=true:=by rw[h];simp
  first|refine S0 (fun hb h=>?_) (fun hb h=>?_)|refine S1 fun hb h=>?_|refine S2 fun hb h=>?_|exact S3
  ·refine ah (Um g.fBody (by omega)) ?_
   first|refine W2 ?_|exact Z2
   exact aB (by unfold iw;rw[h1,h3,h4,if_neg h5,bJ (show g.aY.length≤4 by omega),bJ (show g.aF.length=0 by omega)];rfl)
  ·exact aB (by unfold iw;rw[if_neg h5,aH (show ¬g.aF.length=0 by omega)];simp)
 ·have h5:=h
  refine ah (kK g.aF 5 (by omega) hV) ?_
  first|refine W2 ?_|exact Z2
  first|refine S0 (fun hb h=>?_) (fun hb h=>?_)|refine S1 fun hb h=>?_|refine S2 fun hb h=>?_|exact S3
  ·have h6:=h
   rw[Bool.and_eq_true] at h6
   first|refine S0 (fun hb h=>?_) (fun hb h=>?_)|refine S1 fun hb h=>?_|refine S2 fun hb h=>?_|exact S3
   ·refine ah (BX g.aF g.fBody (by omega) (by omega)) ?_
    first|refine W2 ?_|exact Z2
    exact aB (by unfold iw oQ;rw[h1,h3,h4,if_pos h5,h6.2,bJ (show g.aY.length≤4 by omega),bJ (show g.aF.length=g.aY.length+1 by omega)];rfl)
   ·exact aB (by unfold iw;rw[if_pos h5,aH (show ¬g.aF.length=g.aY.length+1 by omega)];simp)
  ·refine aB ?_
   by_cases h7:g.aF.length=g.aY.length+1
   ·rw[bJ (by omega),Bool.true_and] at h
    unfold iw oQ;rw[if_pos h5,h];simp
   ·unfold iw;rw[if_pos h5,aH h7];simp
end Go.Proofs.YtlmhknhlmicmeaaGreatDoor
namespace Go.Proofs.YtlmhknhlmicmeaaGreatDoor
open Go Go.Ab
theorem QH(x:bB):∀left:Int,0≤left→left≤1048576→lU x.enc→aG Tryz.prog 305 [x.v,.c (.d (.i .i64 left))] (.c (.d (.i .i64 (dD left x.sz)))):=by
 intro left h0 h1 hf S
 simp only[bB.aC,List.cons_append,List.nil_append,jh,je,iV,and_true] at hf
 obtain⟨fName,aF,fBody⟩:=hf
 have hz:x.sz=x.fName.length+((x.aF.length+aI (x.aF.map encS))+(x.fBody.sz)):=by
  simp only[bB.sz,bB.aC,bP,bA,D.sz,List.length_map,Nat.add_zero,Nat.zero_add,au.dw]<;>omega
 refine aA (rs:=[.tmp 4]) Tryz.checked.mixed Tryz.func305 Tryz.ntmps305 rfl rfl rfl rfl rfl ?_
 rw[hz]
 have yA:=qK fName
 first|refine W1 ?_|exact Z1
 first|refine S0 (fun hb h=>?_) (fun hb h=>?_)|refine S1 fun hb h=>?_|refine S2 fun hb h=>?_|exact S3
 ·exact int_eq (dn (by omega)).symm
 refine ah (nH x.aF _ (by omega) (by omega) aF) ?_
 first|refine W1 ?_|exact Z1
 first|refine S0 (fun hb h=>?_) (fun hb h=>?_)|refine S1 fun hb h=>?_|refine S2 fun hb h=>?_|exact S3
 ·have h':=dO h
  exact int_eq (dn (by omega)).symm
 have hVars:=eu h
 simp only[hVars.1]
 refine ah (C8 x.fBody _ (by omega) (by omega) fBody) ?_
 first|refine W1 ?_|exact Z1
 first|refine S0 (fun hb h=>?_) (fun hb h=>?_)|refine S1 fun hb h=>?_|refine S2 fun hb h=>?_|exact S3
 ·have h':=dO h
  exact int_eq (dn (by omega)).symm
 have BA:=eu h
 simp only[BA.1]
 refine int_eq ?_
 rw[fU (by omega)]
 omega
theorem O9(xs:List bB):∀left:Int,0≤left→left≤1048576→(D.sl (xs.map bB.enc)).Fit→aG Tryz.prog 243 [.c (.d (.sl (xs.map bB.enc))),.c (.d (.i .i64 left))] (.c (.d (.i .i64 (dD left (xs.length+aI (xs.map bB.enc)))))):=by
 intro left h0 h1 hf S
 obtain⟨hf1,hf2⟩:=qj hf
 rw[List.length_map] at hf1
 refine aA (rs:=[.tmp 4]) Tryz.checked.mixed Tryz.func243 Tryz.ntmps243 rfl rfl rfl rfl rfl ?_
 first|refine W1 ?_|exact Z1
 first|refine S0 (fun hb h=>?_) (fun hb h=>?_)|refine S1 fun hb h=>?_|refine S2 fun hb h=>?_|exact S3
 ·exact int_eq (dn (by omega)).symm
 refine aV (ι:=Nat×Int) Tryz.checked.mixed rfl [0,1,5] (fun y=>[.c (.d (.sl (xs.map bB.enc))),.c (.d (.i .i64 y.2)),.c (.d (.i .i64 y.1))]) (fun _=>[]::S)
  (fun y=>y.1≤xs.length∧0≤y.2∧y.2≤1048576∧dD y.2 (aI ((xs.map bB.enc).drop y.1))=dD left (xs.length+aI (xs.map bB.enc))) (fun y=>xs.length-y.1) (0,left-xs.length) rfl rfl ⟨by omega,by omega,by omega,?_⟩ ?_
 ·unfold dD
  rw[List.drop_zero]
  split<;>split<;>omega
 rintro⟨i,l⟩ ⟨p1,p2,p3,p4⟩
 simp only at p1 p2 p3 p4
 first|refine W1 ?_|exact Z1
 with_reducible refine aS (fun hb=> ?_) (fun hb=> ?_)<;>have h:=hb<;>(try simp only[wf_preprocess] at h)<;>simp -implicitDefEqProofs (disch:=omega) only[go_sem,hb]<;>(repeat(with_reducible refine And.intro ?_ ?_;focus first|omega|rfl|assumption|exact⟨_,rfl,rfl⟩|(simp;omega)|(simp;done)))
 ·have hi:i<xs.length:=by omega
  rw[List.drop_eq_getElem_cons (by rw[List.length_map];exact hi),aI,List.getElem_map,bB.dw] at p4
  refine W3 ?_
  refine ah (QH xs[i] _ (by omega) (by omega) (hf2 _ (List.mem_map_of_mem (List.getElem_mem hi)))) ?_
  first|refine W1 ?_|exact Z1
  first|refine S0 (fun hb h=>?_) (fun hb h=>?_)|refine S1 fun hb h=>?_|refine S2 fun hb h=>?_|exact S3
  ·have h':=dO h
   rw[←p4,dn (by omega)]
  ·have h':=eu h
   refine bL (i+1,dD l _) (by simp only;omega) rfl rfl ⟨by simp only;omega,by simp only;omega,by simp only;omega,?_⟩
   simp only
   rw[←p4,h'.1]
   unfold dD
   split<;>split<;>omega
 ·have hi:i=xs.length:=by omega
  rw[hi,List.drop_of_length_le (by simp),aI,fU (by omega)] at p4
  rw[←p4]
  refine int_eq ?_
  omega
theorem QI(x:bB):x.sz≤1048576→aG Tryz.prog 315 [x.v] x.v:=by
 intro hsz S
 simp only[bB.sz,bB.aC,bP,bA,D.sz,List.length_map,au.dw] at hsz
 refine aA (rs:=[.cell 2 172]) Tryz.checked.mixed Tryz.func315 Tryz.ntmps315 rfl rfl rfl rfl rfl ?_
 first|refine W1 ?_|exact Z1
 refine ah (nI x.aF (by omega)) ?_
 first|refine W1 ?_|exact Z1
 refine ah (C9 x.fBody (by omega)) ?_
 first|refine W1 ?_|exact Z1
theorem Pb(xs:List bB):xs.length+aI (xs.map bB.enc)≤1048576→aG Tryz.prog 259 [.c (.d (.sl (xs.map bB.enc)))] (.c (.d (.sl (xs.map bB.enc)))):=by
 intro hsz S
 refine aA (rs:=[.tmp 2]) Tryz.checked.mixed Tryz.func259 Tryz.ntmps259 rfl rfl rfl rfl rfl ?_
 first|refine W1 ?_|exact Z1
 (repeat(with_reducible refine And.intro ?_ ?_;focus first|omega|rfl|assumption|exact⟨_,rfl,rfl⟩|(simp;omega)|(simp;done)))
 refine aV (ι:=Nat×List (List D)) Tryz.checked.mixed rfl [0,3,4] (fun y=>[.c (.d (.sl (xs.map bB.enc))),.c (.iy (0,0)),.c (.d (.i .i64 y.1))]) (fun y=>[.eZ 11 y.2]::S)
  (fun y=>y.1≤xs.length∧eD 11 y.1 y.2 (xs.map bB.enc)) (fun y=>xs.length-y.1) (0,_) rfl rfl ⟨Nat.zero_le _,eD.start (by simp) rfl⟩ ?_
 rintro⟨i,R⟩ ⟨p1,p2⟩
 simp only at p1 p2
 first|refine W1 ?_|exact Z1
 with_reducible refine aS (fun hb=> ?_) (fun hb=> ?_)<;>have h:=hb<;>(try simp only[wf_preprocess] at h)<;>simp -implicitDefEqProofs (disch:=omega) only[go_sem,hb]<;>(repeat(with_reducible refine And.intro ?_ ?_;focus first|omega|rfl|assumption|exact⟨_,rfl,rfl⟩|(simp;omega)|(simp;done)))
 ·have hi:i<xs.length:=by omega
  have hx:xs[i].sz≤aI (xs.map bB.enc):=bI (List.mem_map_of_mem (List.getElem_mem hi))
  refine W3 ?_
  refine ah (QI xs[i] (by omega)) ?_
  first|refine W1 ?_|exact Z1
  have hR:=p2.1
  rw[List.length_map] at hR
  (repeat(with_reducible refine And.intro ?_ ?_;focus first|omega|rfl|assumption|exact⟨_,rfl,rfl⟩|(simp;omega)|(simp;done)))
  refine bL (i+1,_) (by simp only;omega) rfl rfl ⟨by simp only;omega,p2.step (by simp[hi,au.aC,bB.aC,aj.aC]) rfl⟩
 ·have hi:i=xs.length:=by omega
  rw[p2.done (by rw[List.length_map];omega)]
theorem QJ(x:bB):∀y:bB,x.sz≤1048576→aG Tryz.prog 239 [x.v,y.v] (.c (.d (.b (dec (x=y))))):=by
 intro y hsz S
 simp only[bB.sz,bB.aC,bP,bA,D.sz,List.length_map,au.dw] at hsz
 refine aA (rs:=[.tmp 4]) Tryz.checked.mixed Tryz.func239 Tryz.ntmps239 rfl rfl rfl rfl rfl ?_
 first|refine W1 ?_|exact Z1
 first|refine S0 (fun hb h=>?_) (fun hb h=>?_)|refine S1 fun hb h=>?_|refine S2 fun hb h=>?_|exact S3
 ·exact aB (aH (fun e=>h (by rw[e]))).symm
 have ow:=h
 clear h
 refine ah (nJ x.aF _ (by omega)) ?_
 first|refine W1 ?_|exact Z1
 first|refine S0 (fun hb h=>?_) (fun hb h=>?_)|refine S1 fun hb h=>?_|refine S2 fun hb h=>?_|exact S3
 ·exact aB (aH (fun e=>h (by rw[e]))).symm
 have vF:=h
 clear h
 refine ah (Da x.fBody _ (by omega)) ?_
 first|refine W1 ?_|exact Z1
 first|refine S0 (fun hb h=>?_) (fun hb h=>?_)|refine S1 fun hb h=>?_|refine S2 fun hb h=>?_|exact S3
 ·exact aB (aH (fun e=>h (by rw[e]))).symm
 have BD:=h
 clear h
 exact aB (bJ (bB.ext' ow vF BD)).symm
theorem Pd(xs:List bB):∀ys:List bB,xs.length+aI (xs.map bB.enc)≤1048576→aG Tryz.prog 144 [.c (.d (.sl (xs.map bB.enc))),.c (.d (.sl (ys.map bB.enc)))] (.c (.d (.b (dec (xs=ys))))):=by
 intro ys hsz S
 refine aA (rs:=[.tmp 4]) Tryz.checked.mixed Tryz.func144 Tryz.ntmps144 rfl rfl rfl rfl rfl ?_
 first|refine W1 ?_|exact Z1
 first|refine S0 (fun hb h=>?_) (fun hb h=>?_)|refine S1 fun hb h=>?_|refine S2 fun hb h=>?_|exact S3
 ·exact aB (aH (fun e=>h (by rw[e]))).symm
 have hl:xs.length=ys.length:=by omega
 refine aV (ι:=Nat) Tryz.checked.mixed rfl [0,1,5] (fun y=>[.c (.d (.sl (xs.map bB.enc))),.c (.d (.sl (ys.map bB.enc))),.c (.d (.i .i64 y))]) (fun y=>[]::S)
  (fun i=>i≤xs.length∧∀j,j<i→xs[j]? =ys[j]?) (fun y=>xs.length-y) 0 rfl rfl ⟨Nat.zero_le _,fun j h=>by omega⟩ ?_
 rintro i ⟨p1,p2⟩
 first|refine W1 ?_|exact Z1
 with_reducible refine aS (fun hb=> ?_) (fun hb=> ?_)<;>have h:=hb<;>(try simp only[wf_preprocess] at h)<;>simp -implicitDefEqProofs (disch:=omega) only[go_sem,hb]<;>(repeat(with_reducible refine And.intro ?_ ?_;focus first|omega|rfl|assumption|exact⟨_,rfl,rfl⟩|(simp;omega)|(simp;done)))
 ·have hi:i<xs.length:=by omega
  have hi':i<ys.length:=by omega
  have hx:xs[i].sz≤aI (xs.map bB.enc):=bI (List.mem_map_of_mem (List.getElem_mem hi))
  refine W3 ?_
  refine ah (QJ xs[i] ys[i] (by omega)) ?_
  first|refine W1 ?_|exact Z1
  first|refine S0 (fun hb h=>?_) (fun hb h=>?_)|refine S1 fun hb h=>?_|refine S2 fun hb h=>?_|exact S3
  ·exact aB (aH (fun e=>h (by simp only[e]))).symm
  refine bL (i+1) (by omega) rfl rfl ⟨by omega,fun j hj=> ?_⟩
  by_cases e:j=i
  ·subst e
   rw[List.getElem?_eq_getElem hi,List.getElem?_eq_getElem hi',h]
  ·exact p2 j (by omega)
 ·have hi:i=xs.length:=by omega
  refine aB (bJ (List.ext_getElem? fun j=> ?_)).symm
  by_cases hj:j<i
  ·exact p2 j hj
  ·rw[List.getElem?_eq_none (by omega),List.getElem?_eq_none (by omega)]
end Go.Proofs.YtlmhknhlmicmeaaGreatDoor
namespace Go.Proofs.YtlmhknhlmicmeaaGreatDoor
open Go Go.Ab
theorem Mg(x:aN):∀left:Int,0≤left→left≤1048576→lU x.enc→aG Tryz.prog 149 [x.v,.c (.d (.i .i64 left))] (.c (.d (.i .i64 (dD left x.sz)))):=by
 intro left h0 h1 hf S
 simp only[aN.aC,List.cons_append,List.nil_append,jh,je,iV,and_true] at hf
 obtain⟨bR,aF,bZ,bX,iX,fO,bY,aT⟩:=hf
 have hz:x.sz=x.bR.length+((x.aF.length+aI (x.aF.map encS))+(x.bZ.sz+((x.bX.length+aI (x.bX.map bq.enc))+(x.bY.sz+((x.aT.length+aI (x.aT.map bB.enc))))))):=by
  simp only[aN.sz,aN.aC,bP,bA,D.sz,List.length_map,Nat.add_zero,Nat.zero_add,aj.dw]<;>omega
 refine aA (rs:=[.tmp 4]) Tryz.checked.mixed Tryz.func149 Tryz.ntmps149 rfl rfl rfl rfl rfl ?_
 rw[hz]
 have V3:=qK bR
 first|refine W1 ?_|exact Z1
 first|refine S0 (fun hb h=>?_) (fun hb h=>?_)|refine S1 fun hb h=>?_|refine S2 fun hb h=>?_|exact S3
 ·exact int_eq (dn (by omega)).symm
 refine ah (nH x.aF _ (by omega) (by omega) aF) ?_
 first|refine W1 ?_|exact Z1
 first|refine S0 (fun hb h=>?_) (fun hb h=>?_)|refine S1 fun hb h=>?_|refine S2 fun hb h=>?_|exact S3
 ·have h':=dO h
  exact int_eq (dn (by omega)).symm
 have hVars:=eu h
 simp only[hVars.1]
 refine ah (sI x.bZ _ (by omega) (by omega) bZ) ?_
 first|refine W1 ?_|exact Z1
 first|refine S0 (fun hb h=>?_) (fun hb h=>?_)|refine S1 fun hb h=>?_|refine S2 fun hb h=>?_|exact S3
 ·have h':=dO h
  exact int_eq (dn (by omega)).symm
 have hHead:=eu h
 simp only[hHead.1]
 refine ah (ER x.bX _ (by omega) (by omega) bX) ?_
 first|refine W1 ?_|exact Z1
 first|refine S0 (fun hb h=>?_) (fun hb h=>?_)|refine S1 fun hb h=>?_|refine S2 fun hb h=>?_|exact S3
 ·have h':=dO h
  exact int_eq (dn (by omega)).symm
 have Pe:=eu h
 simp only[Pe.1]
 refine ah (sI x.bY _ (by omega) (by omega) bY) ?_
 first|refine W1 ?_|exact Z1
 first|refine S0 (fun hb h=>?_) (fun hb h=>?_)|refine S1 fun hb h=>?_|refine S2 fun hb h=>?_|exact S3
 ·have h':=dO h
  exact int_eq (dn (by omega)).symm
 have acr:=eu h
 simp only[acr.1]
 refine ah (O9 x.aT _ (by omega) (by omega) aT) ?_
 first|refine W1 ?_|exact Z1
 first|refine S0 (fun hb h=>?_) (fun hb h=>?_)|refine S1 fun hb h=>?_|refine S2 fun hb h=>?_|exact S3
 ·have h':=dO h
  exact int_eq (dn (by omega)).symm
 have Y7:=eu h
 simp only[Y7.1]
 refine int_eq ?_
 rw[fU (by omega)]
 omega
theorem J7(xs:List aN):∀left:Int,0≤left→left≤1048576→(D.sl (xs.map aN.enc)).Fit→aG Tryz.prog 50 [.c (.d (.sl (xs.map aN.enc))),.c (.d (.i .i64 left))] (.c (.d (.i .i64 (dD left (xs.length+aI (xs.map aN.enc)))))):=by
 intro left h0 h1 hf S
 obtain⟨hf1,hf2⟩:=qj hf
 rw[List.length_map] at hf1
 refine aA (rs:=[.tmp 4]) Tryz.checked.mixed Tryz.func50 Tryz.ntmps50 rfl rfl rfl rfl rfl ?_
 first|refine W1 ?_|exact Z1
 first|refine S0 (fun hb h=>?_) (fun hb h=>?_)|refine S1 fun hb h=>?_|refine S2 fun hb h=>?_|exact S3
 ·exact int_eq (dn (by omega)).symm
 refine aV (ι:=Nat×Int) Tryz.checked.mixed rfl [0,1,5] (fun y=>[.c (.d (.sl (xs.map aN.enc))),.c (.d (.i .i64 y.2)),.c (.d (.i .i64 y.1))]) (fun _=>[]::S)
  (fun y=>y.1≤xs.length∧0≤y.2∧y.2≤1048576∧dD y.2 (aI ((xs.map aN.enc).drop y.1))=dD left (xs.length+aI (xs.map aN.enc))) (fun y=>xs.length-y.1) (0,left-xs.length) rfl rfl ⟨by omega,by omega,by omega,?_⟩ ?_
 ·unfold dD
  rw[List.drop_zero]
  split<;>split<;>omega
 rintro⟨i,l⟩ ⟨p1,p2,p3,p4⟩
 simp only at p1 p2 p3 p4
 first|refine W1 ?_|exact Z1
 with_reducible refine aS (fun hb=> ?_) (fun hb=> ?_)<;>have h:=hb<;>(try simp only[wf_preprocess] at h)<;>simp -implicitDefEqProofs (disch:=omega) only[go_sem,hb]<;>(repeat(with_reducible refine And.intro ?_ ?_;focus first|omega|rfl|assumption|exact⟨_,rfl,rfl⟩|(simp;omega)|(simp;done)))
 ·have hi:i<xs.length:=by omega
  rw[List.drop_eq_getElem_cons (by rw[List.length_map];exact hi),aI,List.getElem_map,aN.dw] at p4
  refine W3 ?_
  refine ah (Mg xs[i] _ (by omega) (by omega) (hf2 _ (List.mem_map_of_mem (List.getElem_mem hi)))) ?_
  first|refine W1 ?_|exact Z1
  first|refine S0 (fun hb h=>?_) (fun hb h=>?_)|refine S1 fun hb h=>?_|refine S2 fun hb h=>?_|exact S3
  ·have h':=dO h
   rw[←p4,dn (by omega)]
  ·have h':=eu h
   refine bL (i+1,dD l _) (by simp only;omega) rfl rfl ⟨by simp only;omega,by simp only;omega,by simp only;omega,?_⟩
   simp only
   rw[←p4,h'.1]
   unfold dD
   split<;>split<;>omega
 ·have hi:i=xs.length:=by omega
  rw[hi,List.drop_of_length_le (by simp),aI,fU (by omega)] at p4
  rw[←p4]
  refine int_eq ?_
  omega
theorem Mh(x:aN):x.sz≤1048576→aG Tryz.prog 166 [x.v] x.v:=by
 intro hsz S
 simp only[aN.sz,aN.aC,bP,bA,D.sz,List.length_map,aj.dw] at hsz
 refine aA (rs:=[.cell 2 92]) Tryz.checked.mixed Tryz.func166 Tryz.ntmps166 rfl rfl rfl rfl rfl ?_
 first|refine W1 ?_|exact Z1
 refine ah (nI x.aF (by omega)) ?_
 first|refine W1 ?_|exact Z1
 refine ah (sJ x.bZ (by omega)) ?_
 first|refine W1 ?_|exact Z1
 refine ah (ES x.bX (by omega)) ?_
 first|refine W1 ?_|exact Z1
 refine ah (sJ x.bY (by omega)) ?_
 first|refine W1 ?_|exact Z1
 refine ah (Pb x.aT (by omega)) ?_
 first|refine W1 ?_|exact Z1
theorem J8(xs:List aN):xs.length+aI (xs.map aN.enc)≤1048576→aG Tryz.prog 64 [.c (.d (.sl (xs.map aN.enc)))] (.c (.d (.sl (xs.map aN.enc)))):=by
 intro hsz S
 refine aA (rs:=[.tmp 2]) Tryz.checked.mixed Tryz.func64 Tryz.ntmps64 rfl rfl rfl rfl rfl ?_
 first|refine W1 ?_|exact Z1
 (repeat(with_reducible refine And.intro ?_ ?_;focus first|omega|rfl|assumption|exact⟨_,rfl,rfl⟩|(simp;omega)|(simp;done)))
 refine aV (ι:=Nat×List (List D)) Tryz.checked.mixed rfl [0,3,4] (fun y=>[.c (.d (.sl (xs.map aN.enc))),.c (.iy (0,0)),.c (.d (.i .i64 y.1))]) (fun y=>[.eZ 12 y.2]::S)
  (fun y=>y.1≤xs.length∧eD 12 y.1 y.2 (xs.map aN.enc)) (fun y=>xs.length-y.1) (0,_) rfl rfl ⟨Nat.zero_le _,eD.start (by simp) rfl⟩ ?_
 rintro⟨i,R⟩ ⟨p1,p2⟩
 simp only at p1 p2
 first|refine W1 ?_|exact Z1
 with_reducible refine aS (fun hb=> ?_) (fun hb=> ?_)<;>have h:=hb<;>(try simp only[wf_preprocess] at h)<;>simp -implicitDefEqProofs (disch:=omega) only[go_sem,hb]<;>(repeat(with_reducible refine And.intro ?_ ?_;focus first|omega|rfl|assumption|exact⟨_,rfl,rfl⟩|(simp;omega)|(simp;done)))
 ·have hi:i<xs.length:=by omega
  have hx:xs[i].sz≤aI (xs.map aN.enc):=bI (List.mem_map_of_mem (List.getElem_mem hi))
  refine W3 ?_
  refine ah (Mh xs[i] (by omega)) ?_
  first|refine W1 ?_|exact Z1
  have hR:=p2.1
  rw[List.length_map] at hR
  (repeat(with_reducible refine And.intro ?_ ?_;focus first|omega|rfl|assumption|exact⟨_,rfl,rfl⟩|(simp;omega)|(simp;done)))
  refine bL (i+1,_) (by simp only;omega) rfl rfl ⟨by simp only;omega,p2.step (by simp[hi,aN.aC,aj.aC]) rfl⟩
 ·have hi:i=xs.length:=by omega
  rw[p2.done (by rw[List.length_map];omega)]
theorem Mi(x:aN):∀y:aN,x.sz≤1048576→aG Tryz.prog 44 [x.v,y.v] (.c (.d (.b (dec (x=y))))):=by
 intro y hsz S
 simp only[aN.sz,aN.aC,bP,bA,D.sz,List.length_map,aj.dw] at hsz
 refine aA (rs:=[.tmp 4]) Tryz.checked.mixed Tryz.func44 Tryz.ntmps44 rfl rfl rfl rfl rfl ?_
 first|refine W1 ?_|exact Z1
 first|refine S0 (fun hb h=>?_) (fun hb h=>?_)|refine S1 fun hb h=>?_|refine S2 fun hb h=>?_|exact S3
 ·exact aB (aH (fun e=>h (by rw[e]))).symm
 have CZ:=h
 clear h
 refine ah (nJ x.aF _ (by omega)) ?_
 first|refine W1 ?_|exact Z1
 first|refine S0 (fun hb h=>?_) (fun hb h=>?_)|refine S1 fun hb h=>?_|refine S2 fun hb h=>?_|exact S3
 ·exact aB (aH (fun e=>h (by rw[e]))).symm
 have vF:=h
 clear h
 refine ah (sK x.bZ _ (by omega)) ?_
 first|refine W1 ?_|exact Z1
 first|refine S0 (fun hb h=>?_) (fun hb h=>?_)|refine S1 fun hb h=>?_|refine S2 fun hb h=>?_|exact S3
 ·exact aB (aH (fun e=>h (by rw[e]))).symm
 have aeM:=h
 clear h
 refine ah (ET x.bX _ (by omega)) ?_
 first|refine W1 ?_|exact Z1
 first|refine S0 (fun hb h=>?_) (fun hb h=>?_)|refine S1 fun hb h=>?_|refine S2 fun hb h=>?_|exact S3
 ·exact aB (aH (fun e=>h (by rw[e]))).symm
 have Pf:=h
 clear h
 first|refine S0 (fun hb h=>?_) (fun hb h=>?_)|refine S1 fun hb h=>?_|refine S2 fun hb h=>?_|exact S3
 ·exact aB (aH (fun e=>h (by rw[e]))).symm
 have Y8:=h
 clear h
 first|refine S0 (fun hb h=>?_) (fun hb h=>?_)|refine S1 fun hb h=>?_|refine S2 fun hb h=>?_|exact S3
 ·exact aB (aH (fun e=>h (by rw[e]))).symm
 have WM:=h
 clear h
 refine ah (sK x.bY _ (by omega)) ?_
 first|refine W1 ?_|exact Z1
 first|refine S0 (fun hb h=>?_) (fun hb h=>?_)|refine S1 fun hb h=>?_|refine S2 fun hb h=>?_|exact S3
 ·exact aB (aH (fun e=>h (by rw[e]))).symm
 have OW:=h
 clear h
 refine ah (Pd x.aT _ (by omega)) ?_
 first|refine W1 ?_|exact Z1
 first|refine S0 (fun hb h=>?_) (fun hb h=>?_)|refine S1 fun hb h=>?_|refine S2 fun hb h=>?_|exact S3
 ·exact aB (aH (fun e=>h (by rw[e]))).symm
 have Y9:=h
 clear h
 exact aB (bJ (aN.ext' CZ vF aeM Pf Y8 WM OW Y9)).symm
theorem J9(xs:List aN):∀ys:List aN,xs.length+aI (xs.map aN.enc)≤1048576→aG Tryz.prog 80 [.c (.d (.sl (xs.map aN.enc))),.c (.d (.sl (ys.map aN.enc)))] (.c (.d (.b (dec (xs=ys))))):=by
 intro ys hsz S
 refine aA (rs:=[.tmp 4]) Tryz.checked.mixed Tryz.func80 Tryz.ntmps80 rfl rfl rfl rfl rfl ?_
 first|refine W1 ?_|exact Z1
 first|refine S0 (fun hb h=>?_) (fun hb h=>?_)|refine S1 fun hb h=>?_|refine S2 fun hb h=>?_|exact S3
 ·exact aB (aH (fun e=>h (by rw[e]))).symm
 have hl:xs.length=ys.length:=by omega
 refine aV (ι:=Nat) Tryz.checked.mixed rfl [0,1,5] (fun y=>[.c (.d (.sl (xs.map aN.enc))),.c (.d (.sl (ys.map aN.enc))),.c (.d (.i .i64 y))]) (fun y=>[]::S)
  (fun i=>i≤xs.length∧∀j,j<i→xs[j]? =ys[j]?) (fun y=>xs.length-y) 0 rfl rfl ⟨Nat.zero_le _,fun j h=>by omega⟩ ?_
 rintro i ⟨p1,p2⟩
 first|refine W1 ?_|exact Z1
 with_reducible refine aS (fun hb=> ?_) (fun hb=> ?_)<;>have h:=hb<;>(try simp only[wf_preprocess] at h)<;>simp -implicitDefEqProofs (disch:=omega) only[go_sem,hb]<;>(repeat(with_reducible refine And.intro ?_ ?_;focus first|omega|rfl|assumption|exact⟨_,rfl,rfl⟩|(simp;omega)|(simp;done)))
 ·have hi:i<xs.length:=by omega
  have hi':i<ys.length:=by omega
  have hx:xs[i].sz≤aI (xs.map aN.enc):=bI (List.mem_map_of_mem (List.getElem_mem hi))
  refine W3 ?_
  refine ah (Mi xs[i] ys[i] (by omega)) ?_
  first|refine W1 ?_|exact Z1
  first|refine S0 (fun hb h=>?_) (fun hb h=>?_)|refine S1 fun hb h=>?_|refine S2 fun hb h=>?_|exact S3
  ·exact aB (aH (fun e=>h (by simp only[e]))).symm
  refine bL (i+1) (by omega) rfl rfl ⟨by omega,fun j hj=> ?_⟩
  by_cases e:j=i
  ·subst e
   rw[List.getElem?_eq_getElem hi,List.getElem?_eq_getElem hi',h]
  ·exact p2 j (by omega)
 ·have hi:i=xs.length:=by omega
  refine aB (bJ (List.ext_getElem? fun j=> ?_)).symm
  by_cases hj:j<i
  ·exact p2 j hj
  ·rw[List.getElem?_eq_none (by omega),List.getElem?_eq_none (by omega)]
end Go.Proofs.YtlmhknhlmicmeaaGreatDoor
namespace Go.Proofs.YtlmhknhlmicmeaaGreatDoor
open Go Go.Ab
theorem Un(x:bG):∀left:Int,0≤left→left≤1048576→lU x.enc→aG Tryz.prog 306 [x.v,.c (.d (.i .i64 left))] (.c (.d (.i .i64 (dD left x.sz)))):=by
 intro left h0 h1 hf S
 simp only[bG.aC,List.cons_append,List.nil_append,jh,je,iV,and_true] at hf
 obtain⟨fName,fType⟩:=hf
 have hz:x.sz=x.fName.length+(x.fType.sz):=by
  simp only[bG.sz,bG.aC,bP,bA,D.sz,List.length_map,Nat.add_zero,Nat.zero_add,aj.dw]<;>omega
 refine aA (rs:=[.tmp 4]) Tryz.checked.mixed Tryz.func306 Tryz.ntmps306 rfl rfl rfl rfl rfl ?_
 rw[hz]
 have yA:=qK fName
 first|refine W1 ?_|exact Z1
 first|refine S0 (fun hb h=>?_) (fun hb h=>?_)|refine S1 fun hb h=>?_|refine S2 fun hb h=>?_|exact S3
 ·exact int_eq (dn (by omega)).symm
 refine ah (sI x.fType _ (by omega) (by omega) fType) ?_
 first|refine W1 ?_|exact Z1
 first|refine S0 (fun hb h=>?_) (fun hb h=>?_)|refine S1 fun hb h=>?_|refine S2 fun hb h=>?_|exact S3
 ·have h':=dO h
  exact int_eq (dn (by omega)).symm
 have hType:=eu h
 simp only[hType.1]
 refine int_eq ?_
 rw[fU (by omega)]
 omega
theorem QK(xs:List bG):∀left:Int,0≤left→left≤1048576→(D.sl (xs.map bG.enc)).Fit→aG Tryz.prog 244 [.c (.d (.sl (xs.map bG.enc))),.c (.d (.i .i64 left))] (.c (.d (.i .i64 (dD left (xs.length+aI (xs.map bG.enc)))))):=by
 intro left h0 h1 hf S
 obtain⟨hf1,hf2⟩:=qj hf
 rw[List.length_map] at hf1
 refine aA (rs:=[.tmp 4]) Tryz.checked.mixed Tryz.func244 Tryz.ntmps244 rfl rfl rfl rfl rfl ?_
 first|refine W1 ?_|exact Z1
 first|refine S0 (fun hb h=>?_) (fun hb h=>?_)|refine S1 fun hb h=>?_|refine S2 fun hb h=>?_|exact S3
 ·exact int_eq (dn (by omega)).symm
 refine aV (ι:=Nat×Int) Tryz.checked.mixed rfl [0,1,5] (fun y=>[.c (.d (.sl (xs.map bG.enc))),.c (.d (.i .i64 y.2)),.c (.d (.i .i64 y.1))]) (fun _=>[]::S)
  (fun y=>y.1≤xs.length∧0≤y.2∧y.2≤1048576∧dD y.2 (aI ((xs.map bG.enc).drop y.1))=dD left (xs.length+aI (xs.map bG.enc))) (fun y=>xs.length-y.1) (0,left-xs.length) rfl rfl ⟨by omega,by omega,by omega,?_⟩ ?_
 ·unfold dD
  rw[List.drop_zero]
  split<;>split<;>omega
 rintro⟨i,l⟩ ⟨p1,p2,p3,p4⟩
 simp only at p1 p2 p3 p4
 first|refine W1 ?_|exact Z1
 with_reducible refine aS (fun hb=> ?_) (fun hb=> ?_)<;>have h:=hb<;>(try simp only[wf_preprocess] at h)<;>simp -implicitDefEqProofs (disch:=omega) only[go_sem,hb]<;>(repeat(with_reducible refine And.intro ?_ ?_;focus first|omega|rfl|assumption|exact⟨_,rfl,rfl⟩|(simp;omega)|(simp;done)))
 ·have hi:i<xs.length:=by omega
  rw[List.drop_eq_getElem_cons (by rw[List.length_map];exact hi),aI,List.getElem_map,bG.dw] at p4
  refine W3 ?_
  refine ah (Un xs[i] _ (by omega) (by omega) (hf2 _ (List.mem_map_of_mem (List.getElem_mem hi)))) ?_
  first|refine W1 ?_|exact Z1
  first|refine S0 (fun hb h=>?_) (fun hb h=>?_)|refine S1 fun hb h=>?_|refine S2 fun hb h=>?_|exact S3
  ·have h':=dO h
   rw[←p4,dn (by omega)]
  ·have h':=eu h
   refine bL (i+1,dD l _) (by simp only;omega) rfl rfl ⟨by simp only;omega,by simp only;omega,by simp only;omega,?_⟩
   simp only
   rw[←p4,h'.1]
   unfold dD
   split<;>split<;>omega
 ·have hi:i=xs.length:=by omega
  rw[hi,List.drop_of_length_le (by simp),aI,fU (by omega)] at p4
  rw[←p4]
  refine int_eq ?_
  omega
theorem Uo(x:bG):x.sz≤1048576→aG Tryz.prog 316 [x.v] x.v:=by
 intro hsz S
 simp only[bG.sz,bG.aC,bP,bA,D.sz,List.length_map,aj.dw] at hsz
 refine aA (rs:=[.cell 2 155]) Tryz.checked.mixed Tryz.func316 Tryz.ntmps316 rfl rfl rfl rfl rfl ?_
 first|refine W1 ?_|exact Z1
 refine ah (sJ x.fType (by omega)) ?_
 first|refine W1 ?_|exact Z1
theorem QL(xs:List bG):xs.length+aI (xs.map bG.enc)≤1048576→aG Tryz.prog 260 [.c (.d (.sl (xs.map bG.enc)))] (.c (.d (.sl (xs.map bG.enc)))):=by
 intro hsz S
 refine aA (rs:=[.tmp 2]) Tryz.checked.mixed Tryz.func260 Tryz.ntmps260 rfl rfl rfl rfl rfl ?_
 first|refine W1 ?_|exact Z1
 (repeat(with_reducible refine And.intro ?_ ?_;focus first|omega|rfl|assumption|exact⟨_,rfl,rfl⟩|(simp;omega)|(simp;done)))
 refine aV (ι:=Nat×List (List D)) Tryz.checked.mixed rfl [0,3,4] (fun y=>[.c (.d (.sl (xs.map bG.enc))),.c (.iy (0,0)),.c (.d (.i .i64 y.1))]) (fun y=>[.eZ 4 y.2]::S)
  (fun y=>y.1≤xs.length∧eD 4 y.1 y.2 (xs.map bG.enc)) (fun y=>xs.length-y.1) (0,_) rfl rfl ⟨Nat.zero_le _,eD.start (by simp) rfl⟩ ?_
 rintro⟨i,R⟩ ⟨p1,p2⟩
 simp only at p1 p2
 first|refine W1 ?_|exact Z1
 with_reducible refine aS (fun hb=> ?_) (fun hb=> ?_)<;>have h:=hb<;>(try simp only[wf_preprocess] at h)<;>simp -implicitDefEqProofs (disch:=omega) only[go_sem,hb]<;>(repeat(with_reducible refine And.intro ?_ ?_;focus first|omega|rfl|assumption|exact⟨_,rfl,rfl⟩|(simp;omega)|(simp;done)))
 ·have hi:i<xs.length:=by omega
  have hx:xs[i].sz≤aI (xs.map bG.enc):=bI (List.mem_map_of_mem (List.getElem_mem hi))
  refine W3 ?_
  refine ah (Uo xs[i] (by omega)) ?_
  first|refine W1 ?_|exact Z1
  have hR:=p2.1
  rw[List.length_map] at hR
  (repeat(with_reducible refine And.intro ?_ ?_;focus first|omega|rfl|assumption|exact⟨_,rfl,rfl⟩|(simp;omega)|(simp;done)))
  refine bL (i+1,_) (by simp only;omega) rfl rfl ⟨by simp only;omega,p2.step (by simp[hi,bG.aC,aj.aC]) rfl⟩
 ·have hi:i=xs.length:=by omega
  rw[p2.done (by rw[List.length_map];omega)]
theorem Uq(x:bG):∀y:bG,x.sz≤1048576→aG Tryz.prog 230 [x.v,y.v] (.c (.d (.b (dec (x=y))))):=by
 intro y hsz S
 simp only[bG.sz,bG.aC,bP,bA,D.sz,List.length_map,aj.dw] at hsz
 refine aA (rs:=[.tmp 4]) Tryz.checked.mixed Tryz.func230 Tryz.ntmps230 rfl rfl rfl rfl rfl ?_
 first|refine W1 ?_|exact Z1
 first|refine S0 (fun hb h=>?_) (fun hb h=>?_)|refine S1 fun hb h=>?_|refine S2 fun hb h=>?_|exact S3
 ·exact aB (aH (fun e=>h (by rw[e]))).symm
 have ow:=h
 clear h
 refine ah (sK x.fType _ (by omega)) ?_
 first|refine W1 ?_|exact Z1
 first|refine S0 (fun hb h=>?_) (fun hb h=>?_)|refine S1 fun hb h=>?_|refine S2 fun hb h=>?_|exact S3
 ·exact aB (aH (fun e=>h (by rw[e]))).symm
 have eType:=h
 clear h
 exact aB (bJ (bG.ext' ow eType)).symm
theorem QM(xs:List bG):∀ys:List bG,xs.length+aI (xs.map bG.enc)≤1048576→aG Tryz.prog 129 [.c (.d (.sl (xs.map bG.enc))),.c (.d (.sl (ys.map bG.enc)))] (.c (.d (.b (dec (xs=ys))))):=by
 intro ys hsz S
 refine aA (rs:=[.tmp 4]) Tryz.checked.mixed Tryz.func129 Tryz.ntmps129 rfl rfl rfl rfl rfl ?_
 first|refine W1 ?_|exact Z1
 first|refine S0 (fun hb h=>?_) (fun hb h=>?_)|refine S1 fun hb h=>?_|refine S2 fun hb h=>?_|exact S3
 ·exact aB (aH (fun e=>h (by rw[e]))).symm
 have hl:xs.length=ys.length:=by omega
 refine aV (ι:=Nat) Tryz.checked.mixed rfl [0,1,5] (fun y=>[.c (.d (.sl (xs.map bG.enc))),.c (.d (.sl (ys.map bG.enc))),.c (.d (.i .i64 y))]) (fun y=>[]::S)
  (fun i=>i≤xs.length∧∀j,j<i→xs[j]? =ys[j]?) (fun y=>xs.length-y) 0 rfl rfl ⟨Nat.zero_le _,fun j h=>by omega⟩ ?_
 rintro i ⟨p1,p2⟩
 first|refine W1 ?_|exact Z1
 with_reducible refine aS (fun hb=> ?_) (fun hb=> ?_)<;>have h:=hb<;>(try simp only[wf_preprocess] at h)<;>simp -implicitDefEqProofs (disch:=omega) only[go_sem,hb]<;>(repeat(with_reducible refine And.intro ?_ ?_;focus first|omega|rfl|assumption|exact⟨_,rfl,rfl⟩|(simp;omega)|(simp;done)))
 ·have hi:i<xs.length:=by omega
  have hi':i<ys.length:=by omega
  have hx:xs[i].sz≤aI (xs.map bG.enc):=bI (List.mem_map_of_mem (List.getElem_mem hi))
  refine W3 ?_
  refine ah (Uq xs[i] ys[i] (by omega)) ?_
  first|refine W1 ?_|exact Z1
  first|refine S0 (fun hb h=>?_) (fun hb h=>?_)|refine S1 fun hb h=>?_|refine S2 fun hb h=>?_|exact S3
  ·exact aB (aH (fun e=>h (by simp only[e]))).symm
  refine bL (i+1) (by omega) rfl rfl ⟨by omega,fun j hj=> ?_⟩
  by_cases e:j=i
  ·subst e
   rw[List.getElem?_eq_getElem hi,List.getElem?_eq_getElem hi',h]
  ·exact p2 j (by omega)
 ·have hi:i=xs.length:=by omega
  refine aB (bJ (List.ext_getElem? fun j=> ?_)).symm
  by_cases hj:j<i
  ·exact p2 j hj
  ·rw[List.getElem?_eq_none (by omega),List.getElem?_eq_none (by omega)]
end Go.Proofs.YtlmhknhlmicmeaaGreatDoor
namespace Go.Proofs.YtlmhknhlmicmeaaGreatDoor
open Go Go.Ab
theorem Mj(x:aQ):∀left:Int,0≤left→left≤1048576→lU x.enc→aG Tryz.prog 150 [x.v,.c (.d (.i .i64 left))] (.c (.d (.i .i64 (dD left x.sz)))):=by
 intro left h0 h1 hf S
 simp only[aQ.aC,List.cons_append,List.nil_append,jh,je,iV,and_true] at hf
 obtain⟨fName,aF,bX,aY,bO,fBody⟩:=hf
 have hz:x.sz=x.fName.length+((x.aF.length+aI (x.aF.map encS))+((x.bX.length+aI (x.bX.map bq.enc))+((x.aY.length+aI (x.aY.map bG.enc))+(x.bO.sz+(x.fBody.sz))))):=by
  simp only[aQ.sz,aQ.aC,bP,bA,D.sz,List.length_map,Nat.add_zero,Nat.zero_add,au.dw,aj.dw]<;>omega
 refine aA (rs:=[.tmp 4]) Tryz.checked.mixed Tryz.func150 Tryz.ntmps150 rfl rfl rfl rfl rfl ?_
 rw[hz]
 have yA:=qK fName
 first|refine W1 ?_|exact Z1
 first|refine S0 (fun hb h=>?_) (fun hb h=>?_)|refine S1 fun hb h=>?_|refine S2 fun hb h=>?_|exact S3
 ·exact int_eq (dn (by omega)).symm
 refine ah (nH x.aF _ (by omega) (by omega) aF) ?_
 first|refine W1 ?_|exact Z1
 first|refine S0 (fun hb h=>?_) (fun hb h=>?_)|refine S1 fun hb h=>?_|refine S2 fun hb h=>?_|exact S3
 ·have h':=dO h
  exact int_eq (dn (by omega)).symm
 have hVars:=eu h
 simp only[hVars.1]
 refine ah (ER x.bX _ (by omega) (by omega) bX) ?_
 first|refine W1 ?_|exact Z1
 first|refine S0 (fun hb h=>?_) (fun hb h=>?_)|refine S1 fun hb h=>?_|refine S2 fun hb h=>?_|exact S3
 ·have h':=dO h
  exact int_eq (dn (by omega)).symm
 have Pe:=eu h
 simp only[Pe.1]
 refine ah (QK x.aY _ (by omega) (by omega) aY) ?_
 first|refine W1 ?_|exact Z1
 first|refine S0 (fun hb h=>?_) (fun hb h=>?_)|refine S1 fun hb h=>?_|refine S2 fun hb h=>?_|exact S3
 ·have h':=dO h
  exact int_eq (dn (by omega)).symm
 have JR:=eu h
 simp only[JR.1]
 refine ah (sI x.bO _ (by omega) (by omega) bO) ?_
 first|refine W1 ?_|exact Z1
 first|refine S0 (fun hb h=>?_) (fun hb h=>?_)|refine S1 fun hb h=>?_|refine S2 fun hb h=>?_|exact S3
 ·have h':=dO h
  exact int_eq (dn (by omega)).symm
 have JU:=eu h
 simp only[JU.1]
 refine ah (C8 x.fBody _ (by omega) (by omega) fBody) ?_
 first|refine W1 ?_|exact Z1
 first|refine S0 (fun hb h=>?_) (fun hb h=>?_)|refine S1 fun hb h=>?_|refine S2 fun hb h=>?_|exact S3
 ·have h':=dO h
  exact int_eq (dn (by omega)).symm
 have BA:=eu h
 simp only[BA.1]
 refine int_eq ?_
 rw[fU (by omega)]
 omega
theorem Ka(xs:List aQ):∀left:Int,0≤left→left≤1048576→(D.sl (xs.map aQ.enc)).Fit→aG Tryz.prog 51 [.c (.d (.sl (xs.map aQ.enc))),.c (.d (.i .i64 left))] (.c (.d (.i .i64 (dD left (xs.length+aI (xs.map aQ.enc)))))):=by
 intro left h0 h1 hf S
 obtain⟨hf1,hf2⟩:=qj hf
 rw[List.length_map] at hf1
 refine aA (rs:=[.tmp 4]) Tryz.checked.mixed Tryz.func51 Tryz.ntmps51 rfl rfl rfl rfl rfl ?_
 first|refine W1 ?_|exact Z1
 first|refine S0 (fun hb h=>?_) (fun hb h=>?_)|refine S1 fun hb h=>?_|refine S2 fun hb h=>?_|exact S3
 ·exact int_eq (dn (by omega)).symm
 refine aV (ι:=Nat×Int) Tryz.checked.mixed rfl [0,1,5] (fun y=>[.c (.d (.sl (xs.map aQ.enc))),.c (.d (.i .i64 y.2)),.c (.d (.i .i64 y.1))]) (fun _=>[]::S)
  (fun y=>y.1≤xs.length∧0≤y.2∧y.2≤1048576∧dD y.2 (aI ((xs.map aQ.enc).drop y.1))=dD left (xs.length+aI (xs.map aQ.enc))) (fun y=>xs.length-y.1) (0,left-xs.length) rfl rfl ⟨by omega,by omega,by omega,?_⟩ ?_
 ·unfold dD
  rw[List.drop_zero]
  split<;>split<;>omega
 rintro⟨i,l⟩ ⟨p1,p2,p3,p4⟩
 simp only at p1 p2 p3 p4
 first|refine W1 ?_|exact Z1
 with_reducible refine aS (fun hb=> ?_) (fun hb=> ?_)<;>have h:=hb<;>(try simp only[wf_preprocess] at h)<;>simp -implicitDefEqProofs (disch:=omega) only[go_sem,hb]<;>(repeat(with_reducible refine And.intro ?_ ?_;focus first|omega|rfl|assumption|exact⟨_,rfl,rfl⟩|(simp;omega)|(simp;done)))
 ·have hi:i<xs.length:=by omega
  rw[List.drop_eq_getElem_cons (by rw[List.length_map];exact hi),aI,List.getElem_map,aQ.dw] at p4
  refine W3 ?_
  refine ah (Mj xs[i] _ (by omega) (by omega) (hf2 _ (List.mem_map_of_mem (List.getElem_mem hi)))) ?_
  first|refine W1 ?_|exact Z1
  first|refine S0 (fun hb h=>?_) (fun hb h=>?_)|refine S1 fun hb h=>?_|refine S2 fun hb h=>?_|exact S3
  ·have h':=dO h
   rw[←p4,dn (by omega)]
  ·have h':=eu h
   refine bL (i+1,dD l _) (by simp only;omega) rfl rfl ⟨by simp only;omega,by simp only;omega,by simp only;omega,?_⟩
   simp only
   rw[←p4,h'.1]
   unfold dD
   split<;>split<;>omega
 ·have hi:i=xs.length:=by omega
  rw[hi,List.drop_of_length_le (by simp),aI,fU (by omega)] at p4
  rw[←p4]
  refine int_eq ?_
  omega
theorem Mk(x:aQ):x.sz≤1048576→aG Tryz.prog 167 [x.v] x.v:=by
 intro hsz S
 simp only[aQ.sz,aQ.aC,bP,bA,D.sz,List.length_map,au.dw,aj.dw] at hsz
 refine aA (rs:=[.cell 2 78]) Tryz.checked.mixed Tryz.func167 Tryz.ntmps167 rfl rfl rfl rfl rfl ?_
 first|refine W1 ?_|exact Z1
 refine ah (nI x.aF (by omega)) ?_
 first|refine W1 ?_|exact Z1
 refine ah (ES x.bX (by omega)) ?_
 first|refine W1 ?_|exact Z1
 refine ah (QL x.aY (by omega)) ?_
 first|refine W1 ?_|exact Z1
 refine ah (sJ x.bO (by omega)) ?_
 first|refine W1 ?_|exact Z1
 refine ah (C9 x.fBody (by omega)) ?_
 first|refine W1 ?_|exact Z1
theorem Kc(xs:List aQ):xs.length+aI (xs.map aQ.enc)≤1048576→aG Tryz.prog 65 [.c (.d (.sl (xs.map aQ.enc)))] (.c (.d (.sl (xs.map aQ.enc)))):=by
 intro hsz S
 refine aA (rs:=[.tmp 2]) Tryz.checked.mixed Tryz.func65 Tryz.ntmps65 rfl rfl rfl rfl rfl ?_
 first|refine W1 ?_|exact Z1
 (repeat(with_reducible refine And.intro ?_ ?_;focus first|omega|rfl|assumption|exact⟨_,rfl,rfl⟩|(simp;omega)|(simp;done)))
 refine aV (ι:=Nat×List (List D)) Tryz.checked.mixed rfl [0,3,4] (fun y=>[.c (.d (.sl (xs.map aQ.enc))),.c (.iy (0,0)),.c (.d (.i .i64 y.1))]) (fun y=>[.eZ 16 y.2]::S)
  (fun y=>y.1≤xs.length∧eD 16 y.1 y.2 (xs.map aQ.enc)) (fun y=>xs.length-y.1) (0,_) rfl rfl ⟨Nat.zero_le _,eD.start (by simp) rfl⟩ ?_
 rintro⟨i,R⟩ ⟨p1,p2⟩
 simp only at p1 p2
 first|refine W1 ?_|exact Z1
 with_reducible refine aS (fun hb=> ?_) (fun hb=> ?_)<;>have h:=hb<;>(try simp only[wf_preprocess] at h)<;>simp -implicitDefEqProofs (disch:=omega) only[go_sem,hb]<;>(repeat(with_reducible refine And.intro ?_ ?_;focus first|omega|rfl|assumption|exact⟨_,rfl,rfl⟩|(simp;omega)|(simp;done)))
 ·have hi:i<xs.length:=by omega
  have hx:xs[i].sz≤aI (xs.map aQ.enc):=bI (List.mem_map_of_mem (List.getElem_mem hi))
  refine W3 ?_
  refine ah (Mk xs[i] (by omega)) ?_
  first|refine W1 ?_|exact Z1
  have hR:=p2.1
  rw[List.length_map] at hR
  (repeat(with_reducible refine And.intro ?_ ?_;focus first|omega|rfl|assumption|exact⟨_,rfl,rfl⟩|(simp;omega)|(simp;done)))
  refine bL (i+1,_) (by simp only;omega) rfl rfl ⟨by simp only;omega,p2.step (by simp[hi,au.aC,aQ.aC,aj.aC]) rfl⟩
 ·have hi:i=xs.length:=by omega
  rw[p2.done (by rw[List.length_map];omega)]
theorem Ml(x:aQ):∀y:aQ,x.sz≤1048576→aG Tryz.prog 34 [x.v,y.v] (.c (.d (.b (dec (x=y))))):=by
 intro y hsz S
 simp only[aQ.sz,aQ.aC,bP,bA,D.sz,List.length_map,au.dw,aj.dw] at hsz
 refine aA (rs:=[.tmp 4]) Tryz.checked.mixed Tryz.func34 Tryz.ntmps34 rfl rfl rfl rfl rfl ?_
 first|refine W1 ?_|exact Z1
 first|refine S0 (fun hb h=>?_) (fun hb h=>?_)|refine S1 fun hb h=>?_|refine S2 fun hb h=>?_|exact S3
 ·exact aB (aH (fun e=>h (by rw[e]))).symm
 have ow:=h
 clear h
 refine ah (nJ x.aF _ (by omega)) ?_
 first|refine W1 ?_|exact Z1
 first|refine S0 (fun hb h=>?_) (fun hb h=>?_)|refine S1 fun hb h=>?_|refine S2 fun hb h=>?_|exact S3
 ·exact aB (aH (fun e=>h (by rw[e]))).symm
 have vF:=h
 clear h
 refine ah (ET x.bX _ (by omega)) ?_
 first|refine W1 ?_|exact Z1
 first|refine S0 (fun hb h=>?_) (fun hb h=>?_)|refine S1 fun hb h=>?_|refine S2 fun hb h=>?_|exact S3
 ·exact aB (aH (fun e=>h (by rw[e]))).symm
 have Pf:=h
 clear h
 refine ah (QM x.aY _ (by omega)) ?_
 first|refine W1 ?_|exact Z1
 first|refine S0 (fun hb h=>?_) (fun hb h=>?_)|refine S1 fun hb h=>?_|refine S2 fun hb h=>?_|exact S3
 ·exact aB (aH (fun e=>h (by rw[e]))).symm
 have JX:=h
 clear h
 refine ah (sK x.bO _ (by omega)) ?_
 first|refine W1 ?_|exact Z1
 first|refine S0 (fun hb h=>?_) (fun hb h=>?_)|refine S1 fun hb h=>?_|refine S2 fun hb h=>?_|exact S3
 ·exact aB (aH (fun e=>h (by rw[e]))).symm
 have JY:=h
 clear h
 refine ah (Da x.fBody _ (by omega)) ?_
 first|refine W1 ?_|exact Z1
 first|refine S0 (fun hb h=>?_) (fun hb h=>?_)|refine S1 fun hb h=>?_|refine S2 fun hb h=>?_|exact S3
 ·exact aB (aH (fun e=>h (by rw[e]))).symm
 have BD:=h
 clear h
 exact aB (bJ (aQ.ext' ow vF Pf JX JY BD)).symm
theorem Ke(xs:List aQ):∀ys:List aQ,xs.length+aI (xs.map aQ.enc)≤1048576→aG Tryz.prog 81 [.c (.d (.sl (xs.map aQ.enc))),.c (.d (.sl (ys.map aQ.enc)))] (.c (.d (.b (dec (xs=ys))))):=by
 intro ys hsz S
 refine aA (rs:=[.tmp 4]) Tryz.checked.mixed Tryz.func81 Tryz.ntmps81 rfl rfl rfl rfl rfl ?_
 first|refine W1 ?_|exact Z1
 first|refine S0 (fun hb h=>?_) (fun hb h=>?_)|refine S1 fun hb h=>?_|refine S2 fun hb h=>?_|exact S3
 ·exact aB (aH (fun e=>h (by rw[e]))).symm
 have hl:xs.length=ys.length:=by omega
 refine aV (ι:=Nat) Tryz.checked.mixed rfl [0,1,5] (fun y=>[.c (.d (.sl (xs.map aQ.enc))),.c (.d (.sl (ys.map aQ.enc))),.c (.d (.i .i64 y))]) (fun y=>[]::S)
  (fun i=>i≤xs.length∧∀j,j<i→xs[j]? =ys[j]?) (fun y=>xs.length-y) 0 rfl rfl ⟨Nat.zero_le _,fun j h=>by omega⟩ ?_
 rintro i ⟨p1,p2⟩
 first|refine W1 ?_|exact Z1
 with_reducible refine aS (fun hb=> ?_) (fun hb=> ?_)<;>have h:=hb<;>(try simp only[wf_preprocess] at h)<;>simp -implicitDefEqProofs (disch:=omega) only[go_sem,hb]<;>(repeat(with_reducible refine And.intro ?_ ?_;focus first|omega|rfl|assumption|exact⟨_,rfl,rfl⟩|(simp;omega)|(simp;done)))
 ·have hi:i<xs.length:=by omega
  have hi':i<ys.length:=by omega
  have hx:xs[i].sz≤aI (xs.map aQ.enc):=bI (List.mem_map_of_mem (List.getElem_mem hi))
  refine W3 ?_
  refine ah (Ml xs[i] ys[i] (by omega)) ?_
  first|refine W1 ?_|exact Z1
  first|refine S0 (fun hb h=>?_) (fun hb h=>?_)|refine S1 fun hb h=>?_|refine S2 fun hb h=>?_|exact S3
  ·exact aB (aH (fun e=>h (by simp only[e]))).symm
  refine bL (i+1) (by omega) rfl rfl ⟨by omega,fun j hj=> ?_⟩
  by_cases e:j=i
  ·subst e
   rw[List.getElem?_eq_getElem hi,List.getElem?_eq_getElem hi',h]
  ·exact p2 j (by omega)
 ·have hi:i=xs.length:=by omega
  refine aB (bJ (List.ext_getElem? fun j=> ?_)).symm
  by_cases hj:j<i
  ·exact p2 j hj
  ·rw[List.getElem?_eq_none (by omega),List.getElem?_eq_none (by omega)]
end Go.Proofs.YtlmhknhlmicmeaaGreatDoor
namespace Go.Ab
def qx(f:aQ):List (List UInt8):=f.aY.map bG.fName
def I8(f:aQ):List aj:=f.aY.map bG.fType
noncomputable def jV(f:aQ):Bool:=
 validName f.fName&&(dec (f.aF.length≤3)&&(iA f.aF&&(nX f.aF f.bX&&(dec (f.aY.length≤5)&&(kg f.aF (I8 f)&&(gu f.aF f.bO&&oQ (qx f) f.fBody))))))
theorem aQ.sum(x:aQ):x.fName.length+(x.aF.length+aI (x.aF.map encS))+(x.bX.length+aI (x.bX.map bq.enc))+(x.aY.length+aI (x.aY.map bG.enc))+x.bO.sz+x.fBody.sz≤x.sz:=by
 simp only[aQ.sz,aQ.aC,bP,bA,D.sz,List.length_map,aj.dw,au.dw]
 omega
theorem bG.sum(x:bG):x.fName.length+x.fType.sz≤x.sz:=by
 simp only[bG.sz,bG.aC,bP,bA,D.sz,List.length_map,aj.dw]
 omega
theorem Ev{xs:List bG}{t:bG}(h:t∈xs):t.sz≤aI (xs.map bG.enc):=bI (List.mem_map_of_mem h)
end Go.Ab
namespace Go.Proofs.YtlmhknhlmicmeaaGreatDoor
open Go Go.Ab
theorem Mq(ps:List bG)(hl:ps.length≤1073741823):aG Tryz.prog 228 [.c (.d (.sl (ps.map bG.enc)))] (.c (.d (.sl ((ps.map bG.fName).map encS)))):=fun S=>by
 refine aA (rs:=[.tmp 2]) Tryz.checked.mixed Tryz.func228 Tryz.ntmps228 rfl rfl rfl rfl rfl ?_
 first|refine W1 ?_|exact Z1
 refine W3 ?_
 refine oL 3 1 [] rfl (by simp) ?_
 refine aV (ι:=Nat×List (List UInt8)) Tryz.checked.mixed rfl [3,7,8,9] (fun y=>[.c (.bU (0,0) (y.2.map encS)),.c (.d (.sl (ps.map bG.enc))),.c (.d (.i .i64 ps.length)),.c (.d (.i .i64 y.1))]) (fun y=>[.tok 1 (y.2.map encS)]::S)
  (fun y=>y.1≤ps.length∧y.2=(ps.map bG.fName).take y.1) (fun y=>ps.length-y.1) (0,[]) rfl rfl ⟨Nat.zero_le _,rfl⟩ ?_
 rintro⟨i,names⟩ ⟨p1,p2⟩
 simp only at p1 p2
 have pl:names.length≤ps.length:=by rw[p2];simp;omega
 first|refine W1 ?_|exact Z1
 with_reducible refine aS (fun hb=> ?_) (fun hb=> ?_)<;>have h:=hb<;>(try simp only[wf_preprocess] at h)<;>simp -implicitDefEqProofs (disch:=omega) only[go_sem,hb]<;>(repeat(with_reducible refine And.intro ?_ ?_;focus first|omega|rfl|assumption|exact⟨_,rfl,rfl⟩|(simp;omega)|(simp;done)))
 ·have hi:i<ps.length:=by omega
  refine W3 ?_
  rw[show List.map encS names++[[D.s ps[i].fName]]=List.map encS (names++[ps[i].fName]) by simp[encS]]
  exact dz 1 (by decide) (i+1,names++[ps[i].fName]) (by simp only;omega) rfl rfl rfl rfl ⟨by simp only;omega,by simp only;rw[p2,gW (by simpa using hi)];simp⟩
 ·rw[List.take_of_length_le (by simp;omega)] at p2
  rw[p2]
theorem Mr(ps:List bG)(hl:ps.length≤1073741823):aG Tryz.prog 225 [.c (.d (.sl (ps.map bG.enc)))] (.c (.d (.sl ((ps.map bG.fType).map aj.enc)))):=fun S=>by
 refine aA (rs:=[.tmp 2]) Tryz.checked.mixed Tryz.func225 Tryz.ntmps225 rfl rfl rfl rfl rfl ?_
 first|refine W1 ?_|exact Z1
 refine W3 ?_
 refine oL 3 3 [] rfl (by simp) ?_
 refine aV (ι:=Nat×List aj) Tryz.checked.mixed rfl [3,7,8,9] (fun y=>[.c (.bU (0,0) (y.2.map aj.enc)),.c (.d (.sl (ps.map bG.enc))),.c (.d (.i .i64 ps.length)),.c (.d (.i .i64 y.1))]) (fun y=>[.tok 3 (y.2.map aj.enc)]::S)
  (fun y=>y.1≤ps.length∧y.2=(ps.map bG.fType).take y.1) (fun y=>ps.length-y.1) (0,[]) rfl rfl ⟨Nat.zero_le _,rfl⟩ ?_
 rintro⟨i,names⟩ ⟨p1,p2⟩
 simp only at p1 p2
 have pl:names.length≤ps.length:=by rw[p2];simp;omega
 first|refine W1 ?_|exact Z1
 with_reducible refine aS (fun hb=> ?_) (fun hb=> ?_)<;>have h:=hb<;>(try simp only[wf_preprocess] at h)<;>simp -implicitDefEqProofs (disch:=omega) only[go_sem,hb]<;>(repeat(with_reducible refine And.intro ?_ ?_;focus first|omega|rfl|assumption|exact⟨_,rfl,rfl⟩|(simp;omega)|(simp;done)))
 ·have hi:i<ps.length:=by omega
  refine W3 ?_
  rw[show List.map aj.enc names++[[D.i .i64 ps[i].fType.aX,D.s ps[i].fType.fName,D.sl (ps[i].fType.fArgs.map aj.enc)]]=List.map aj.enc (names++[ps[i].fType]) by simp[aj.aC]]
  exact dz 1 (by decide) (i+1,names++[ps[i].fType]) (by simp only;omega) rfl rfl rfl rfl ⟨by simp only;omega,by simp only;rw[p2,gW (by simpa using hi)];simp⟩
 ·rw[List.take_of_length_le (by simp;omega)] at p2
  rw[p2]
theorem Kg(f:aQ)(hsz:f.sz≤4194304):aG Tryz.prog 127 [f.v] (.c (.d (.b (jV f)))):=fun S=>by
 have hs:=aQ.sum f
 have hV:∀s∈f.aF,s.length≤4194304:=fun s h=>by have:=pG h;omega
 have hW:∀b∈f.bX,b.sz≤4194304:=fun b h=>by have:=nT h;omega
 have hP:∀p∈f.aY,p.sz≤4194304:=fun m h=>by have:=Ev h;omega
 have hpt:∀t∈f.aY.map bG.fType,t.sz≤4194304:=fun t h=>by
  obtain⟨p,hp,e⟩:=List.mem_map.1 h
  have:=hP p hp
  have:=bG.sum p
  rw[←e];omega
 have hpn:∀s∈f.aY.map bG.fName,s.length≤4194304:=fun t h=>by
  obtain⟨p,hp,e⟩:=List.mem_map.1 h
  have:=hP p hp
  have:=bG.sum p
  rw[←e];omega
 have hpl:(f.aY.map bG.fName).length=f.aY.length:=by simp
 have hpl':(f.aY.map bG.fType).length=f.aY.length:=by simp
 refine aA (rs:=[.tmp 2]) Tryz.checked.mixed Tryz.func127 Tryz.ntmps127 rfl rfl rfl rfl rfl ?_
 first|refine W1 ?_|exact Z1
 repeat' (first
  |with_reducible refine aS (fun hb=> ?_) (fun hb=> ?_)<;>have h:=hb<;>(try simp only[wf_preprocess] at h)<;>simp -implicitDefEqProofs (disch:=omega) only[go_sem,hb]<;>(repeat(with_reducible refine And.intro ?_ ?_;focus first|omega|rfl|assumption|exact⟨_,rfl,rfl⟩|(simp;omega)|(simp;done)))
  |((with_reducible show fq _ _ 168 _ _ _ _);refine ah (gJ f.fName (by omega)) ?_;simp -implicitDefEqProofs (disch:=omega) only[go_sem])
  |((with_reducible show fq _ _ 169 _ _ _ _);refine ah (nA f.aF (by omega) hV) ?_;simp -implicitDefEqProofs (disch:=omega) only[go_sem])
  |((with_reducible show fq _ _ 223 _ _ _ _);refine ah (DT f.bX f.aF (by omega) hW (by omega)) ?_;simp -implicitDefEqProofs (disch:=omega) only[go_sem])
  |((with_reducible show fq _ _ 225 _ _ _ _);refine ah (Mr f.aY (by omega)) ?_;simp -implicitDefEqProofs (disch:=omega) only[go_sem])
  |((with_reducible show fq _ _ 224 _ _ _ _);refine ah (vH (f.aY.map bG.fType) f.aF (by omega) hpt (by omega)) ?_;simp -implicitDefEqProofs (disch:=omega) only[go_sem])
  |((with_reducible show fq _ _ 226 _ _ _ _);refine ah (qZ f.bO f.aF (by omega) (by omega)) ?_;simp -implicitDefEqProofs (disch:=omega) only[go_sem])
  |((with_reducible show fq _ _ 228 _ _ _ _);refine ah (Mq f.aY (by omega)) ?_;simp -implicitDefEqProofs (disch:=omega) only[go_sem])
  |((with_reducible show fq _ _ 227 _ _ _ _);refine ah (DR (f.aY.map bG.fName) f.fBody (by omega) hpn (by omega)) ?_;simp -implicitDefEqProofs (disch:=omega) only[go_sem])
  |(refine aB ?_;unfold jV I8 qx;grind [ji,iW,bJ,aH]))
theorem wI(f:aQ)(hsz:f.sz≤4194304):aG Tryz.prog 163 [f.v] (.c (.d (.b (jV f)))):=fun S=>by
 have hs:=aQ.sum f
 have hV:∀s∈f.aF,s.length≤4194304:=fun s h=>by have:=pG h;omega
 have hW:∀b∈f.bX,b.sz≤4194304:=fun b h=>by have:=nT h;omega
 have hP:∀p∈f.aY,p.sz≤4194304:=fun m h=>by have:=Ev h;omega
 have hpn:∀s∈qx f,s.length≤4194304:=fun t h=>by
  obtain⟨p,hp,e⟩:=List.mem_map.1 h
  have:=hP p hp
  have:=bG.sum p
  rw[←e];omega
 have hnl:(qx f).length=f.aY.length:=by simp[qx]
 have bad:∀i,∀hi:i<f.aY.length,gu f.aF f.aY[i].fType=false→V.c (.d (.b false))=V.c (.d (.b (jV f))):=fun i hi h=>aB (by
  have:kg f.aF (I8 f)=false:=Bool.eq_false_iff.2 fun hx=>by
   have:=List.all_eq_true.1 hx f.aY[i].fType (List.mem_map_of_mem (List.getElem_mem hi))
   rw[h] at this;cases this
  unfold jV
  rw[this];simp)
 refine aA (rs:=[.tmp 2]) Tryz.checked.mixed Tryz.func163 Tryz.ntmps163 rfl rfl rfl rfl rfl ?_
 first|refine W1 ?_|exact Z1
 refine W3 ?_
 refine oL 3 1 [] rfl (by simp) ?_
 refine aV (ι:=Nat×List (List UInt8)) Tryz.checked.mixed rfl [1,3,4] (fun y=>[.c (.ptr (0,0) 0),.c (.bU (0,1) (y.2.map encS)),.c (.d (.i .i64 y.1))]) (fun y=>[.box (f.enc.map .d),.tok 1 (y.2.map encS)]::S)
  (fun y=>y.1≤f.aY.length∧y.2=(qx f).take y.1∧∀j,∀hj:j<f.aY.length,j<y.1→gu f.aF f.aY[j].fType=true) (fun y=>f.aY.length-y.1) (0,[]) rfl ?_ ⟨Nat.zero_le _,rfl,fun j _ h=>by simp only at h;omega⟩ ?_
 ·first|refine W1 ?_|exact Z1
 rintro⟨i,names⟩ ⟨p1,p2,p3⟩
 simp only at p1 p2 p3
 have pl:names.length≤f.aY.length:=by rw[p2];simp[qx];omega
 first|refine W1 ?_|exact Z1
 with_reducible refine aS (fun hb=> ?_) (fun hb=> ?_)<;>have h:=hb<;>(try simp only[wf_preprocess] at h)<;>simp -implicitDefEqProofs (disch:=omega) only[go_sem,hb]<;>(repeat(with_reducible refine And.intro ?_ ?_;focus first|omega|rfl|assumption|exact⟨_,rfl,rfl⟩|(simp;omega)|(simp;done)))
 ·have hi:i<f.aY.length:=by omega
  have hp:=hP _ (List.getElem_mem hi)
  have hps:=bG.sum f.aY[i]
  refine W3 ?_
  refine ah (qO f.aY[i].fType f.aF (by omega) (by omega)) ?_
  first|refine W2 ?_|exact Z2
  first|refine S0 (fun hb h=>?_) (fun hb h=>?_)|refine S1 fun hb h=>?_|refine S2 fun hb h=>?_|exact S3
  ·exact bad i hi h
  have k3:=h
  refine W3 ?_
  rw[show List.map encS names++[[D.s f.aY[i].fName]]=List.map encS (names++[f.aY[i].fName]) by simp[encS]]
  exact bL (i+1,names++[f.aY[i].fName]) (by simp only;omega) rfl rfl ⟨by simp only;omega,by simp only;rw[p2,gW (by simpa [qx] using hi)];simp[qx],fun j hj hji=>by
   simp only at hji
   by_cases e:j=i
   ·subst e;exact k3
   ·exact p3 j hj (by omega)⟩
 have hi:i=f.aY.length:=by omega
 have hn:names=qx f:=by rw[p2,List.take_of_length_le (by simp[qx];omega)]
 have hall:kg f.aF (I8 f)=true:=List.all_eq_true.2 fun c hc=>by
  obtain⟨p,hp,e⟩:=List.mem_map.1 hc
  obtain⟨j,hj,e'⟩:=List.getElem_of_mem hp
  rw[←e,←e'];exact p3 j hj (by omega)
 clear p2 p3 bad
 subst hn
 repeat' (first
  |with_reducible refine aS (fun hb=> ?_) (fun hb=> ?_)<;>have h:=hb<;>(try simp only[wf_preprocess] at h)<;>simp -implicitDefEqProofs (disch:=omega) only[go_sem,hb]<;>(repeat(with_reducible refine And.intro ?_ ?_;focus first|omega|rfl|assumption|exact⟨_,rfl,rfl⟩|(simp;omega)|(simp;done)))
  |((with_reducible show fq _ _ 152 _ _ _ _);refine ah (gK f.fName (by omega)) ?_;simp -implicitDefEqProofs (disch:=omega) only[go_sem])
  |((with_reducible show fq _ _ 153 _ _ _ _);refine ah (kK f.aF 3 (by omega) hV) ?_;simp -implicitDefEqProofs (disch:=omega) only[go_sem])
  |((with_reducible show fq _ _ 252 _ _ _ _);refine ah (Fp f.bX f.aF (by omega) hW (by omega)) ?_;simp -implicitDefEqProofs (disch:=omega) only[go_sem])
  |((with_reducible show fq _ _ 153 _ _ _ _);refine ah (kK (qx f) 5 (by omega) hpn) ?_;simp -implicitDefEqProofs (disch:=omega) only[go_sem])
  |((with_reducible show fq _ _ 250 _ _ _ _);refine ah (qO f.bO f.aF (by omega) (by omega)) ?_;simp -implicitDefEqProofs (disch:=omega) only[go_sem])
  |((with_reducible show fq _ _ 255 _ _ _ _);refine ah (BX (qx f) f.fBody (by omega) (by omega)) ?_;simp -implicitDefEqProofs (disch:=omega) only[go_sem])
  |(refine aB ?_;unfold jV oQ;grind [ji,iW,bJ,aH]))
end Go.Proofs.YtlmhknhlmicmeaaGreatDoor
namespace Go.Ab
def zo(n:Nat)(s:St):St:=match s.st with
 |(.seed _::own)::Ω=>⟨s.tm,(.seed n::own)::Ω⟩
 |_=>s
theorem AU{N:Nat}(n:Nat)(s:St):gY N s (zo n s):=by
 obtain⟨tm,st⟩:=s
 unfold zo
 split
 ·rename_i h;simp only at h;subst h;exact yV n
 ·exact gY.refl _ _
theorem QN{n m:Nat}{tm:List (Nat×V)}{own:List Obj}{Ω:Store}:zo n ⟨tm,(.seed m::own)::Ω⟩=⟨tm,(.seed n::own)::Ω⟩:=rfl
def ZP(j p n:Nat)(s:St):St:=zo n (MK j p s)
theorem Ac{N:Nat}(j p n:Nat)(s:St):gY N s (ZP j p n s):=(EZ j p s).trans (AU n _)
attribute [go_sem] ZP QN
def ZQ:List UInt8:=[102,110]
def oV(b:bq):ak:=cO [cu b.bR,dA b.fType]
def qg(b:bG):ak:=cO [cu b.fName,dA b.fType]
def AV(f:aQ):ak:=cO [cu ZQ,cu f.fName,cO (bf f.aF),cO (f.bX.map oV),cO (f.aY.map qg),dA f.bO,fH f.fBody]
noncomputable def BZ(f:aQ):ak:=sH (jV f) (AV f)
theorem acs(b:bq):(oV b).sz≤14+16*b.sz:=by
 have:=xC b.fType
 have:=bq.sum b
 rw[oV,iY];simp[gq,jo];omega
theorem Za(b:bG):(qg b).sz≤14+16*b.sz:=by
 have:=xC b.fType
 have:=bG.sum b
 rw[qg,iY];simp[gq,jo];omega
theorem Kh:∀l:List bq,gq (l.map oV)≤14*l.length+16*aI (l.map bq.enc)
 |[]=>by simp[gq]
 |c::l=>by
  have h1:=acs c
  have h2:=Kh l
  rw[List.map_cons,gq,List.map_cons,aI,List.length_cons];simp only[bq.sz] at h1;omega
theorem Lh:∀l:List bG,gq (l.map qg)≤14*l.length+16*aI (l.map bG.enc)
 |[]=>by simp[gq]
 |c::l=>by
  have h1:=Za c
  have h2:=Lh l
  rw[List.map_cons,gq,List.map_cons,aI,List.length_cons];simp only[bG.sz] at h1;omega
theorem WO{f:aQ}(hok:iE f.fBody=true):(AV f).sz≤60+32*f.sz:=by
 have h1:=Kh f.bX
 have h2:=Lh f.aY
 have h3:=xC f.bO
 have h4:=Dq f.fBody hok
 have h5:=aQ.sum f
 rw[dM] at h5
 rw[AV,iY]
 simp[gq,jo,iY,iR,oD,ZQ];omega
theorem yc{vars:List (List UInt8)}{bs:List bq}(h:nX vars bs=true):∀b∈bs,formed b.fType=true:=fun b hb=>by
 unfold nX at h
 rw[Bool.and_eq_true] at h
 have h2:=List.all_eq_true.1 h.2 b hb
 unfold mD at h2
 simp only[Bool.and_eq_true] at h2
 exact vD h2.1.2
theorem rX{vars:List (List UInt8)}{t:aj}(h:gu vars t=true):formed t=true:=by
 unfold gu at h
 rw[Bool.and_eq_true] at h
 exact vD h.1
theorem DU{vars:List (List UInt8)}{e:au}(h:oQ vars e=true):iE e=true:=by
 unfold oQ AR at h
 simp only[Bool.and_eq_true] at h
 exact O4 h.2.1
theorem xQ{f:aQ}(h:jV f=true):(∀b∈f.bX,formed b.fType=true)∧(∀q∈f.aY,formed q.fType=true)∧formed f.bO=true∧iE f.fBody=true:=by
 unfold jV at h
 simp only[Bool.and_eq_true] at h
 obtain⟨_,_,_,h1,_,h2,h3,h4⟩:=h
 exact⟨yc h1,fun q hq=>ug.1 (uG h2) _ (List.mem_map_of_mem hq),rX h3,DU h4⟩
end Go.Ab
namespace Go.Proofs.YtlmhknhlmicmeaaGreatDoor
open Go Go.Ab
theorem ru(xs:List bq)(n:Nat)(hfo:∀b∈xs,formed b.fType=true)(hlen:xs.length≤4194304)(hsz:∀b∈xs,b.sz≤4194304):aG Tryz.prog 176 [.c (.d (.sl (xs.map bq.enc)))] (.agg [.d (.s []),.d (.ol n (lx (xs.map oV) (n+1)))]):=fun S=>by
 obtain⟨L,hL⟩:∃L:Nat→Nat,L=fun i=>n+1+gT ((xs.map oV).take i):=⟨_,rfl⟩
 obtain⟨T,hT⟩:∃T:Nat→List (List D),T=fun i=>lx ((xs.map oV).take i) (n+1):=⟨_,rfl⟩
 have hT0:T 0=[]:=by rw[hT];rfl
 have eO:∀i,(T i).length≤i:=fun i=>by
  rw[hT];simp only[fK]
  exact List.length_take_le _ _
 have hTs:∀i (hi:i<xs.length),T i++[[.s [],.ol (L i) [[.s xs[i].bR,.ol (L i+1) []],[.s (dA xs[i].fType).dI,.ol (L i+1+1) (lx (dA xs[i].fType).bF (L i+1+1+1))]]]]=T (i+1):=fun i hi=>by
  have:=wF (l:=xs.map oV) (i:=i) (by rw[List.length_map];exact hi) (n+1)
  rw[List.getElem_map,oV,dX,dF,iN,iN,lq,sS,iM,jl] at this
  rw[hT,hL];exact this
 have hTe:T xs.length=lx (xs.map oV) (n+1):=by
  rw[hT];simp only
  rw[List.take_of_length_le (by simp)]
 clear hT hL
 refine oz (n) 1 (rs:=[.cell 2 32]) Tryz.checked.mixed Tryz.func176 Tryz.ntmps176 rfl rfl rfl rfl rfl ?_
 first|refine W1 ?_|exact Z1
 refine W3 ?_
 refine mh n 3 2 [] (.inl rfl) (by simp) ?_
 refine mE (L 0) ?_
 refine aV (ι:=Nat) Tryz.checked.mixed rfl [2,3,7,8,9] (fun i=>[.c (.ptr (0,2) 0),.c (.bU (0,3) (T i)),.c (.d (.sl (xs.map bq.enc))),.c (.d (.i .i64 xs.length)),.c (.d (.i .i64 i))])
  (fun i=>[.seed (L i),.seed 1,.box [.d (.s []),.bD []],.fB n 2 (T i)]::S)
  (fun i=>i≤xs.length) (fun i=>xs.length-i) 0 (by rw[hT0];rfl) (by rw[hT0];rfl) (Nat.zero_le _) ?_
 intro i hi
 have hl:=eO i
 first|refine W1 ?_|exact Z1
 with_reducible refine aS (fun hb=> ?_) (fun hb=> ?_)<;>have h:=hb<;>(try simp only[wf_preprocess] at h)<;>simp -implicitDefEqProofs (disch:=omega) only[go_sem,hb]<;>(repeat(with_reducible refine And.intro ?_ ?_;focus first|omega|rfl|assumption|exact⟨_,rfl,rfl⟩|(simp;omega)|(simp;done)))
 ·have hi':i<xs.length:=by omega
  have hm:=List.getElem_mem hi'
  have hcz:=hsz _ hm
  have hce:=bq.sum xs[i]
  have hs:=hTs i hi'
  refine W3 ?_
  refine ah (dx _ (L i+1)) ?_
  first|refine W1 ?_|exact Z1
  refine ah (jU xs[i].fType (L i+1+1) (hfo _ hm) (by omega)) ?_
  first|refine W1 ?_|exact Z1
  refine W3 ?_
  refine ah (l8 _ _) ?_
  first|refine W1 ?_|exact Z1
  (repeat(with_reducible refine And.intro ?_ ?_;focus first|omega|rfl|assumption|exact⟨_,rfl,rfl⟩|(simp;omega)|(simp;done)))
  rw[hs]
  refine jD (L (i+1)) 3 (by decide) (i+1) (by omega) rfl rfl ?_ rfl (by omega)
  simp[gV,gy,V.refs,C.refs,jw]
 ·have hi':i=xs.length:=by omega
  refine bV rfl (jr 0 3 _ _) ?_
  first|refine W1 ?_|exact Z1
  rw[hi',hTe]
theorem Cr(f:aQ)(n:Nat)(hv:jV f=true)(hsz:f.sz≤1048576):aG Tryz.prog 72 [f.v] (.agg [.d (.s []),.d (.ol n (lx (AV f).bF (n+1)))]):=fun S=>by
 have hdz:=aQ.sum f
 rw[dM] at hdz
 obtain⟨hf1,hf2,hf3,zQ⟩:=xQ hv
 obtain⟨p,hp⟩:∃p:Nat,p=n+1+1+1+dL (cO (bf f.aF))+dL (cO (f.bX.map oV)):=⟨_,rfl⟩
 obtain⟨L,hL⟩:∃L:Nat→Nat,L=fun i=>p+1+gT ((f.aY.map qg).take i):=⟨_,rfl⟩
 obtain⟨T,hT⟩:∃T:Nat→List (List D),T=fun i=>lx ((f.aY.map qg).take i) (p+1):=⟨_,rfl⟩
 have hT0:T 0=[]:=by rw[hT];rfl
 have eO:∀i,(T i).length≤i:=fun i=>by
  rw[hT];simp only[fK]
  exact List.length_take_le _ _
 have hTs:∀i (hi:i<f.aY.length),T i++[[.s [],.ol (L i) [[.s f.aY[i].fName,.ol (L i+1) []],[.s (dA f.aY[i].fType).dI,.ol (L i+1+1) (lx (dA f.aY[i].fType).bF (L i+1+1+1))]]]]=T (i+1):=fun i hi=>by
  have:=wF (l:=f.aY.map qg) (i:=i) (by rw[List.length_map];exact hi) (p+1)
  rw[List.getElem_map,qg,dX,dF,iN,iN,lq,sS,iM,jl] at this
  rw[hT,hL];exact this
 have hTe:T f.aY.length=lx (f.aY.map qg) (p+1):=by
  rw[hT];simp only
  rw[List.take_of_length_le (by simp)]
 clear hT hL
 refine oz (p) 1 (rs:=[.cell 2 32]) Tryz.checked.mixed Tryz.func72 Tryz.ntmps72 rfl rfl rfl rfl rfl ?_
 first|refine W1 ?_|exact Z1
 refine W3 ?_
 refine mh p 3 2 [] (.inl rfl) (by simp) ?_
 refine mE (L 0) ?_
 refine yX (Ac 4 p n) ?_
 refine aV (ι:=Nat) Tryz.checked.mixed rfl [1,2,3,8,9,10] (fun i=>[.c (.ptr (0,2) 0),.c (.ptr (0,3) 0),.c (.bU (0,4) (T i)),.c (.d (.sl (f.aY.map bG.enc))),.c (.d (.i .i64 f.aY.length)),.c (.d (.i .i64 i))])
  (fun i=>[.seed (L i),.seed 1,.box [.d (.s f.fName),.d (.sl (f.aF.map encS)),.d (.sl (f.bX.map bq.enc)),.d (.sl (f.aY.map bG.enc)),.d (.i .i64 f.bO.aX),.d (.s f.bO.fName),.d (.sl (f.bO.fArgs.map aj.enc)),.d (.i .i64 f.fBody.aX),.d (.s f.fBody.bR),.d (.s f.fBody.fName),.d (.i .i64 f.fBody.fN),.d (.i .i64 f.fBody.fType.aX),.d (.s f.fBody.fType.fName),.d (.sl (f.fBody.fType.fArgs.map aj.enc)),.d (.sl (f.fBody.fArgs.map au.enc)),.d (.sl (f.fBody.aZ.map aW.enc))],.box [.d (.s []),.bD []],.fB p 2 (T i)]::S)
  (fun i=>i≤f.aY.length) (fun i=>f.aY.length-i) 0 (by rw[hT0];rfl) (by rw[hT0];rfl) (Nat.zero_le _) ?_
 intro i hi
 have hl:=eO i
 first|refine W1 ?_|exact Z1
 with_reducible refine aS (fun hb=> ?_) (fun hb=> ?_)<;>have h:=hb<;>(try simp only[wf_preprocess] at h)<;>simp -implicitDefEqProofs (disch:=omega) only[go_sem,hb]<;>(repeat(with_reducible refine And.intro ?_ ?_;focus first|omega|rfl|assumption|exact⟨_,rfl,rfl⟩|(simp;omega)|(simp;done)))
 ·have hi':i<f.aY.length:=by omega
  have hm:=List.getElem_mem hi'
  have hcz:=Ev hm
  have hce:=bG.sum f.aY[i]
  have hs:=hTs i hi'
  refine W3 ?_
  refine ah (dx _ (L i+1)) ?_
  first|refine W1 ?_|exact Z1
  refine ah (jU f.aY[i].fType (L i+1+1) (hf2 _ hm) (by omega)) ?_
  first|refine W1 ?_|exact Z1
  refine W3 ?_
  refine ah (l8 _ _) ?_
  first|refine W1 ?_|exact Z1
  (repeat(with_reducible refine And.intro ?_ ?_;focus first|omega|rfl|assumption|exact⟨_,rfl,rfl⟩|(simp;omega)|(simp;done)))
  rw[hs]
  refine jD (L (i+1)) 4 (by decide) (i+1) (by omega) rfl rfl ?_ rfl (by omega)
  simp[gV,gy,V.refs,C.refs,jw]
 ·have hi':i=f.aY.length:=by omega
  subst hi'
  rw[hTe]
  refine ah (dx _ (n+1)) ?_
  first|refine W1 ?_|exact Z1
  refine ah (dx _ (n+1+1)) ?_
  first|refine W1 ?_|exact Z1
  refine ah (dZ f.aF (by omega) (n+1+1+1)) ?_
  first|refine W1 ?_|exact Z1
  refine ah (ru f.bX (n+1+1+1+dL (cO (bf f.aF))) hf1 (by omega) (fun b hb=>by have:=nT hb;omega)) ?_
  first|refine W1 ?_|exact Z1
  refine ah (jK _) ?_
  first|refine W1 ?_|exact Z1
  refine ah (jU f.bO (p+dL (cO (f.aY.map qg))) hf3 (by omega)) ?_
  first|refine W1 ?_|exact Z1
  refine ah (vL f.fBody (p+dL (cO (f.aY.map qg))+dL (dA f.bO)) zQ (by omega)) ?_
  first|refine W1 ?_|exact Z1
  refine W3 ?_
  refine ah (l8 _ _) ?_
  first|refine W1 ?_|exact Z1
  rw[AV,dF]
  simp only[iN,lq,iM,jG,jH,dX,dF,jl,←hp,ZQ]
theorem sV(xs:List bq)(hlen:xs.length≤4194304)(hsz:∀b∈xs,b.sz≤4194304):aG Tryz.prog 162 [.c (.d (.sl (xs.map bq.enc)))] (.agg [.d (.s []),.d (.sl ((xs.map oV).map ak.enc))]):=fun S=>by
 obtain⟨T,hT⟩:∃T:Nat→List (List D),T=fun i=>((xs.map oV).take i).map ak.enc:=⟨_,rfl⟩
 have hT0:T 0=[]:=by rw[hT];rfl
 have eO:∀i,(T i).length≤i:=fun i=>by
  rw[hT];simp only[List.length_map]
  exact List.length_take_le _ _
 have hTs:∀i (hi:i<xs.length),T i++[[.s [],.sl [[.s xs[i].bR,.sl []],[.s (dA xs[i].fType).dI,.sl ((dA xs[i].fType).bF.map ak.enc)]]]]=T (i+1):=fun i hi=>by
  have:=iB (base:=[]) (l:=xs.map oV) (i:=i) (by rw[List.length_map];exact hi)
  rw[List.getElem_map,oV,dX,dF,List.map_cons,List.map_cons,List.map_nil,eT,ak.aC (dA xs[i].fType)] at this
  rw[hT];exact this
 have hTe:T xs.length=(xs.map oV).map ak.enc:=by
  rw[hT];simp only
  rw[List.take_of_length_le (by simp)]
 clear hT
 refine aA (rs:=[.cell 2 32]) Tryz.checked.mixed Tryz.func162 Tryz.ntmps162 rfl rfl rfl rfl rfl ?_
 first|refine W1 ?_|exact Z1
 refine pz 1 1 2 [] [.d (.s []),.bD []] rfl rfl (by simp) ?_
 refine aV (ι:=Nat) Tryz.checked.mixed rfl [0,2,3,4] (fun i=>[.c (.d (.sl (xs.map bq.enc))),.c (.ptr (0,0) 0),.c (.ptr (0,1) 0),.c (.d (.i .i64 i))])
  (fun i=>[.box [.d (.s []),.bD []],.box [.d (.s []),.bU (0,2) (T i)],.tok 2 (T i)]::S)
  (fun i=>i≤xs.length) (fun i=>xs.length-i) 0 rfl (by rw[hT0];rfl) (Nat.zero_le _) ?_
 intro i hi
 have hl:=eO i
 first|refine W1 ?_|exact Z1
 with_reducible refine aS (fun hb=> ?_) (fun hb=> ?_)<;>have h:=hb<;>(try simp only[wf_preprocess] at h)<;>simp -implicitDefEqProofs (disch:=omega) only[go_sem,hb]<;>(repeat(with_reducible refine And.intro ?_ ?_;focus first|omega|rfl|assumption|exact⟨_,rfl,rfl⟩|(simp;omega)|(simp;done)))
 ·have hi':i<xs.length:=by omega
  have hm:=List.getElem_mem hi'
  have hcz:=hsz _ hm
  have hce:=bq.sum xs[i]
  have hs:=hTs i hi'
  refine W3 ?_
  refine ah (bW _) ?_
  first|refine W1 ?_|exact Z1
  (repeat(with_reducible refine And.intro ?_ ?_;focus first|omega|rfl|assumption|exact⟨_,rfl,rfl⟩|(simp;omega)|(simp;done)))
  refine ah (kC xs[i].fType (by omega)) ?_
  first|refine W1 ?_|exact Z1
  refine W3 ?_
  refine ah (lM _ (by simp) (by simp)) ?_
  first|refine W1 ?_|exact Z1
  (repeat(with_reducible refine And.intro ?_ ?_;focus first|omega|rfl|assumption|exact⟨_,rfl,rfl⟩|(simp;omega)|(simp;done)))
  rw[hs]
  exact bL (i+1) (by omega) rfl rfl (by omega)
 ·have hi':i=xs.length:=by omega
  subst hi'
  rw[hTe]
theorem Li(f:aQ)(hsz:f.sz≤1048576):aG Tryz.prog 59 [f.v] (BZ f).v:=by
 unfold BZ
 cases hv:jV f with
 |false=>
  rw[sH]
  refine aG.less (fun S=> ?_) (wH [] [])
  refine aA (rs:=[.cell 2 32]) Tryz.checked.mixed Tryz.func59 Tryz.ntmps59 rfl rfl rfl rfl rfl ?_
  first|refine W1 ?_|exact Z1
  refine ah (wI f (by omega)) ?_
  simp -implicitDefEqProofs (disch:=omega) only[go_sem,hv]
 |true=>
  intro S
  have hdz:=aQ.sum f
  rw[dM] at hdz
  obtain⟨hf1,hf2,hf3,zQ⟩:=xQ hv
  have hz:=WO zQ
  obtain⟨T,hT⟩:∃T:Nat→List (List D),T=fun i=>((f.aY.map qg).take i).map ak.enc:=⟨_,rfl⟩
  have hT0:T 0=[]:=by rw[hT];rfl
  have eO:∀i,(T i).length≤i:=fun i=>by
   rw[hT];simp only[List.length_map]
   exact List.length_take_le _ _
  have hTs:∀i (hi:i<f.aY.length),T i++[[.s [],.sl [[.s f.aY[i].fName,.sl []],[.s (dA f.aY[i].fType).dI,.sl ((dA f.aY[i].fType).bF.map ak.enc)]]]]=T (i+1):=fun i hi=>by
   have:=iB (base:=[]) (l:=f.aY.map qg) (i:=i) (by rw[List.length_map];exact hi)
   rw[List.getElem_map,qg,dX,dF,List.map_cons,List.map_cons,List.map_nil,eT,ak.aC (dA f.aY[i].fType)] at this
   rw[hT];exact this
  have hTe:T f.aY.length=(f.aY.map qg).map ak.enc:=by
   rw[hT];simp only
   rw[List.take_of_length_le (by simp)]
  clear hT
  refine aA (rs:=[.cell 2 32]) Tryz.checked.mixed Tryz.func59 Tryz.ntmps59 rfl rfl rfl rfl rfl ?_
  first|refine W1 ?_|exact Z1
  refine ah (wI f (by omega)) ?_
  simp -implicitDefEqProofs (disch:=omega) only[go_sem,hv]
  refine pz 2 1 2 [] [.d (.s []),.bD []] rfl rfl (by simp) ?_
  refine aV (ι:=Nat) Tryz.checked.mixed rfl [1,2,3,4] (fun i=>[.c (.ptr (0,0) 0),.c (.ptr (0,1) 0),.c (.ptr (0,2) 0),.c (.d (.i .i64 i))])
   (fun i=>[.box [.d (.s f.fName),.d (.sl (f.aF.map encS)),.d (.sl (f.bX.map bq.enc)),.d (.sl (f.aY.map bG.enc)),.d (.i .i64 f.bO.aX),.d (.s f.bO.fName),.d (.sl (f.bO.fArgs.map aj.enc)),.d (.i .i64 f.fBody.aX),.d (.s f.fBody.bR),.d (.s f.fBody.fName),.d (.i .i64 f.fBody.fN),.d (.i .i64 f.fBody.fType.aX),.d (.s f.fBody.fType.fName),.d (.sl (f.fBody.fType.fArgs.map aj.enc)),.d (.sl (f.fBody.fArgs.map au.enc)),.d (.sl (f.fBody.aZ.map aW.enc))],.box [.d (.s []),.bD []],.box [.d (.s []),.bU (0,3) (T i)],.tok 2 (T i)]::S)
   (fun i=>i≤f.aY.length) (fun i=>f.aY.length-i) 0 rfl (by rw[hT0];rfl) (Nat.zero_le _) ?_
  intro i hi
  have hl:=eO i
  first|refine W1 ?_|exact Z1
  with_reducible refine aS (fun hb=> ?_) (fun hb=> ?_)<;>have h:=hb<;>(try simp only[wf_preprocess] at h)<;>simp -implicitDefEqProofs (disch:=omega) only[go_sem,hb]<;>(repeat(with_reducible refine And.intro ?_ ?_;focus first|omega|rfl|assumption|exact⟨_,rfl,rfl⟩|(simp;omega)|(simp;done)))
  ·have hi':i<f.aY.length:=by omega
   have hm:=List.getElem_mem hi'
   have hcz:=Ev hm
   have hce:=bG.sum f.aY[i]
   have hs:=hTs i hi'
   refine W3 ?_
   refine ah (bW _) ?_
   first|refine W1 ?_|exact Z1
   (repeat(with_reducible refine And.intro ?_ ?_;focus first|omega|rfl|assumption|exact⟨_,rfl,rfl⟩|(simp;omega)|(simp;done)))
   refine ah (kC f.aY[i].fType (by omega)) ?_
   first|refine W1 ?_|exact Z1
   refine W3 ?_
   refine ah (lM _ (by simp) (by simp)) ?_
   first|refine W1 ?_|exact Z1
   (repeat(with_reducible refine And.intro ?_ ?_;focus first|omega|rfl|assumption|exact⟨_,rfl,rfl⟩|(simp;omega)|(simp;done)))
   rw[hs]
   exact bL (i+1) (by omega) rfl rfl (by omega)
  ·have hi':i=f.aY.length:=by omega
   subst hi'
   rw[hTe]
   refine ah (bW _) ?_
   first|refine W1 ?_|exact Z1
   refine ah (bW _) ?_
   first|refine W1 ?_|exact Z1
   refine ah (dU f.aF (by omega)) ?_
   first|refine W1 ?_|exact Z1
   refine ah (sV f.bX (by omega) (fun b hb=>by have:=nT hb;omega)) ?_
   first|refine W1 ?_|exact Z1
   refine ah (kC f.bO (by omega)) ?_
   first|refine W1 ?_|exact Z1
   refine ah (qC f.fBody zQ (by omega)) ?_
   first|refine W1 ?_|exact Z1
   refine W3 ?_
   refine ah (lM _ (by simp) (by simp)) ?_
   first|refine W1 ?_|exact Z1
   refine W3 ?_
   have hI:=oF true (AV f) (by omega)
   have hx:(AV f).v=V.agg [.d (.s []),.d (.sl [[.s [102,110],.sl []],[.s f.fName,.sl []],[.s [],.sl ((bf f.aF).map ak.enc)],[.s [],.sl ((f.bX.map oV).map ak.enc)],[.s [],.sl ((f.aY.map qg).map ak.enc)],[.s (dA f.bO).dI,.sl ((dA f.bO).bF.map ak.enc)],[.s (fH f.fBody).dI,.sl ((fH f.fBody).bF.map ak.enc)]])]:=by
    rw[AV]
    show V.agg [.d (.s []),.d (.sl (List.map ak.enc _))]=_
    simp only[dF,List.map_cons,List.map_nil,eT,iK,ak.aC (dA f.bO),ak.aC (fH f.fBody),ZQ]
   rw[hx] at hI
   refine ah hI ?_
   first|refine W1 ?_|exact Z1
end Go.Proofs.YtlmhknhlmicmeaaGreatDoor
