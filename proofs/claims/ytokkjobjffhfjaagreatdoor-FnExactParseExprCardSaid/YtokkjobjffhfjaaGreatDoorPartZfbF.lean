/-
  SEVERAL TEXTS IN ONE (merged by program): contracts and models, each with its own heading.
-/
import Derived.Test.YtokkjobjffhfjaaGreatDoorPartZfbE
import Derived.Test.YtokkjobjffhfjaaGreatDoorRows
import Derived.OpenShut
import Derived.LaidMore
import Derived.Stop.LaidErr
set_option linter.unusedSimpArgs false
set_option linter.unusedVariables false
set_option maxRecDepth 4000
set_option maxRecDepth 8000
namespace Go.Proofs.YtokkjobjffhfjaaGreatDoor
open Go Go.Ab
theorem lF(hd:List ah)(xs:List aj)(S:Store)(hA:∀t∈xs,aD Tryz.prog 64 [t.v] (dJ t).v)(hl:xs.length≤4194304)(hh:hd.length≤4):bD Tryz.prog 121 [.c (.aY (hd.map ah.enc)),.c (.d (.sl (xs.map aj.enc)))] S
 (fun r S'=>r=.agg [.d (.s []),.d (.sl ((hd++xs.map dJ).map ah.enc))]∧S'=S):=by
 obtain⟨T,hT⟩:∃T:Nat→List (List D),T=fun i=>(hd++(xs.map dJ).take i).map ah.enc:=⟨_,rfl⟩
 have hT0:T 0=hd.map ah.enc:=by rw[hT];simp only[List.take_zero,List.append_nil]
 have C8:∀i,(T i).length≤i+hd.length:=fun i=>by
  rw[hT];simp only[List.length_map,List.length_append]
  have:=List.length_take_le i (xs.map dJ)
  omega
 have hTs:∀i (hi:i<xs.length),T i++[[.s (dJ xs[i]).aI,.sl ((dJ xs[i]).au.map ah.enc)]]=T (i+1):=fun i hi=>by
  have:=qw (base:=hd) (l:=xs.map dJ) (i:=i) (by rw[List.length_map];exact hi)
  rw[List.getElem_map] at this
  rw[hT];exact this
 have hTe:T xs.length=(hd++xs.map dJ).map ah.enc:=by rw[hT];simp only;rw[List.take_of_length_le (by simp)]
 clear hT
 rw[←hT0]
 rw[←hTe]
 refine aB (rs:=[.cell 4 54]) Tryz.checked.mixed Tryz.func121 Tryz.ntmps121 rfl rfl rfl rfl rfl ?_
 refine W1 ?_
 refine JF 1 1 2 (T 0) [.d (.s []),.aY (T 0)] rfl rfl (by rw[hT0];exact j5) ?_
 refine aW (ι:=Nat) Tryz.checked.mixed rfl [1,4,5,6] (fun i=>[.c (.d (.sl (xs.map aj.enc))),.c (.ptr (0,0) 0),.c (.ptr (0,1) 0),.c (.d (.i .i64 i))])
  (fun i=>[.box [.d (.s []),.aY []],.box [.d (.s []),.bQ (0,2) (T i)],.tok 2 (T i)]::S)
  (fun i=>i≤xs.length) (fun i=>xs.length-i) 0 rfl rfl (Nat.zero_le _) ?_
 intro i hi
 have hl:=C8 i
 refine W1 ?_
 refine S0 (fun hb h=>?_) fun hb h=>?_
 ·have hi':i<xs.length:=by omega
  have hs:=hTs i hi'
  refine W3 ?_
  refine C1 (hA xs[i] (List.getElem_mem hi')) ?_
  refine W3 ?_
  rw[hs]
  exact bK (i+1) (by omega) rfl rfl (by omega)
 ·have hi':i=xs.length:=by omega
  subst hi'
  rfl
theorem Oq(hd:List ah)(xs:List aj)(bn:List Ab.Obj)(Ω:Store)(hA:∀t∈xs,aD Tryz.prog 64 [t.v] (dJ t).v)(hl:xs.length≤4194304)(hh:hd.length≤4):bD Tryz.prog 121 [.c (.aY (hd.map ah.enc)),.c (.d (.sl (xs.map aj.enc)))] (bn::Ω)
 (fun r S'=>r=.agg [.d (.s []),.bQ (0,bn.length+2) ((hd++xs.map dJ).map ah.enc)]∧S'=(bn++[.box [.d (.s []),.bQ (0,bn.length+2) ((hd++xs.map dJ).map ah.enc)],.box [.d (.s []),.bQ (0,bn.length+2) ((hd++xs.map dJ).map ah.enc)],.tok 2 ((hd++xs.map dJ).map ah.enc)])::Ω):=by
 obtain⟨T,hT⟩:∃T:Nat→List (List D),T=fun i=>(hd++(xs.map dJ).take i).map ah.enc:=⟨_,rfl⟩
 have hT0:T 0=hd.map ah.enc:=by rw[hT];simp only[List.take_zero,List.append_nil]
 have C8:∀i,(T i).length≤i+hd.length:=fun i=>by
  rw[hT];simp only[List.length_map,List.length_append]
  have:=List.length_take_le i (xs.map dJ)
  omega
 have hTs:∀i (hi:i<xs.length),T i++[[.s (dJ xs[i]).aI,.sl ((dJ xs[i]).au.map ah.enc)]]=T (i+1):=fun i hi=>by
  have:=qw (base:=hd) (l:=xs.map dJ) (i:=i) (by rw[List.length_map];exact hi)
  rw[List.getElem_map] at this
  rw[hT];exact this
 have hTe:T xs.length=(hd++xs.map dJ).map ah.enc:=by rw[hT];simp only;rw[List.take_of_length_le (by simp)]
 clear hT
 rw[←hT0]
 rw[←hTe]
 refine V9 (rs:=[.cell 4 54]) Tryz.checked.mixed Tryz.func121 Tryz.ntmps121 rfl rfl rfl rfl rfl ?_
 refine W1 ?_
 refine JF 1 1 2 (T 0) [.d (.s []),.aY (T 0)] rfl rfl (by rw[hT0];exact j5) ?_
 refine aW (ι:=Nat) Tryz.checked.mixed rfl [1,4,5,6] (fun i=>[.c (.d (.sl (xs.map aj.enc))),.c (.ptr (0,0) 0),.c (.ptr (0,1) 0),.c (.d (.i .i64 i))])
  (fun i=>[.box [.d (.s []),.aY []],.box [.d (.s []),.bQ (0,2) (T i)],.tok 2 (T i)]::bn::Ω)
  (fun i=>i≤xs.length) (fun i=>xs.length-i) 0 rfl rfl (Nat.zero_le _) ?_
 intro i hi
 have hl:=C8 i
 refine W1 ?_
 refine S0 (fun hb h=>?_) fun hb h=>?_
 ·have hi':i<xs.length:=by omega
  have hs:=hTs i hi'
  refine W3 ?_
  refine C1 (hA xs[i] (List.getElem_mem hi')) ?_
  refine W3 ?_
  rw[hs]
  exact bK (i+1) (by omega) rfl rfl (by omega)
 ·have hi':i=xs.length:=by omega
  subst hi'
  exact⟨rfl,rfl⟩
theorem Ic:∀N:Nat,∀x:aj,SizeOf.sizeOf x<N→gL x=true→x.sz≤4194304→aD Tryz.prog 64 [x.v] (dJ x).v
 |0=>fun x h=>by omega
 |N+1=>by
  have ih:=Ic N
  intro x hn hok hsz S
  have jS:=aj.gF x
  have Dz:=aj.nk x
  have hzz:=qY x
  rw[rP,Bool.and_eq_true,Bool.and_eq_true] at hok
  obtain⟨hfi,hoa,Oo⟩:=hok
  have hfi:=iK hfi
  have hoa:=yZ.1 hoa
  have Oo:=AR.1 Oo
  have hA:∀t∈x.fArgs,aD Tryz.prog 64 [t.v] (dJ t).v:=fun t ht=>ih t (by have:=List.sizeOf_lt_of_mem ht;omega) (hoa t ht) (by have:=Kr ht;omega)
  have hxe:=CR x
  refine aB (rs:=[.cell 2 54]) Tryz.checked.mixed Tryz.func64 Tryz.ntmps64 rfl rfl rfl rfl rfl ?_
  refine W1 ?_
  refine S0 (fun hb h=>?_) fun hb h=>?_
  ·rw[if_pos h] at hxe
   rw[hxe]
   have hb:=hfi.2.2.2.1
   rw[if_pos h] at hb
   refine C1 (qZ x.fN (by omega) (by omega)) ?_
   refine C1 (bX _) ?_
   rfl
  have k1:=h
  rw[if_neg h] at hxe
  refine S0 (fun hb h=>?_) fun hb h=>?_
  ·rw[if_pos h] at hxe
   rw[hxe]
   have hb:=hfi.2.2.2.1
   rw[if_neg k1,if_pos h] at hb
   rcases hb with e|e
   ·rw[e]
    simp -implicitDefEqProofs (disch:=omega) only[go_sem,List.getD_cons_zero]
    refine W3 ?_
    refine C1 (bX _) ?_
    rfl
   ·rw[e]
    simp -implicitDefEqProofs (disch:=omega) only[go_sem,List.getD_cons_zero,List.getD_cons_succ]
    refine W3 ?_
    refine C1 (bX _) ?_
    rfl
  have k2:=h
  rw[if_neg h] at hxe
  refine S0 (fun hb h=>?_) fun hb h=>?_
  ·rw[if_pos h] at hxe
   rw[hxe]
   refine C1 (bX _) ?_
   rfl
  have k3:=h
  clear hxe
  refine S0 (fun hb h=>?_) fun hb h=>?_
  ·have hx:=iQ k1 k2 k3 (by omega)
   have hh:fI x.aH x.aU x.fName x.fType=[aM ku,aM x.fName]:=by rw[gW h];rfl
   rw[hh] at hx
   refine C1 (bX _) ?_
   refine C1 (bX _) ?_
   have hE:=fun S=>lF [aM ku,aM x.fName] x.fArgs S hA (by omega) (by simp)
   simp only[List.map_cons,List.map_nil,jo] at hE
   refine bG rfl (hE _) ?_
   refine W1 ?_
   rw[hx]
   rfl
  have k4:=h
  refine S0 (fun hb h=>?_) fun hb h=>?_
  ·have hx:=iQ k1 k2 k3 (by omega)
   have hh:fI x.aH x.aU x.fName x.fType=[aM fM,aM x.aU,aM x.fName]:=by rw[gW h];rfl
   rw[hh] at hx
   refine C1 (bX _) ?_
   refine C1 (bX _) ?_
   refine C1 (bX _) ?_
   have hE:=fun S=>lF [aM fM,aM x.aU,aM x.fName] x.fArgs S hA (by omega) (by simp)
   simp only[List.map_cons,List.map_nil,jo] at hE
   refine bG rfl (hE _) ?_
   refine W1 ?_
   rw[hx]
   rfl
  have k5:=h
  refine S0 (fun hb h=>?_) fun hb h=>?_
  ·have hx:=iQ k1 k2 k3 (by omega)
   have hh:fI x.aH x.aU x.fName x.fType=[aM mP,aM x.fName]:=by rw[gW h];rfl
   rw[hh] at hx
   refine C1 (bX _) ?_
   refine C1 (bX _) ?_
   have hE:=fun S=>lF [aM mP,aM x.fName] x.fArgs S hA (by omega) (by simp)
   simp only[List.map_cons,List.map_nil,jo] at hE
   refine bG rfl (hE _) ?_
   refine W1 ?_
   rw[hx]
   rfl
  have k6:=h
  refine S0 (fun hb h=>?_) fun hb h=>?_
  ·have hx:=iQ k1 k2 k3 (by omega)
   have hh:fI x.aH x.aU x.fName x.fType=[aM mQ,aM x.fName]:=by rw[gW h];rfl
   rw[hh] at hx
   refine C1 (bX _) ?_
   refine C1 (bX _) ?_
   have hE:=fun S=>lF [aM mQ,aM x.fName] x.fArgs S hA (by omega) (by simp)
   simp only[List.map_cons,List.map_nil,jo] at hE
   refine bG rfl (hE _) ?_
   refine W1 ?_
   rw[hx]
   rfl
  have k8:=h
  refine S0 (fun hb h=>?_) fun hb h=>?_
  ·have hx:=iQ k1 k2 k3 (by omega)
   have hh:fI x.aH x.aU x.fName x.fType=[aM qK]:=by rw[gW h];rfl
   rw[hh] at hx
   refine C1 (bX _) ?_
   have hE:=fun S=>lF [aM qK] x.fArgs S hA (by omega) (by simp)
   simp only[List.map_cons,List.map_nil,jo] at hE
   refine bG rfl (hE _) ?_
   refine W1 ?_
   rw[hx]
   rfl
  have k9:=h
  refine S0 (fun hb h=>?_) fun hb h=>?_
  ·have hx:=iQ k1 k2 k3 (by omega)
   have hh:fI x.aH x.aU x.fName x.fType=[aM x.fName]:=by rw[gW h];rfl
   rw[hh] at hx
   refine C1 (bX _) ?_
   have hE:=fun S=>lF [aM x.fName] x.fArgs S hA (by omega) (by simp)
   simp only[List.map_cons,List.map_nil,jo] at hE
   refine bG rfl (hE _) ?_
   refine W1 ?_
   rw[hx]
   rfl
  have k10:=h
  refine S0 (fun hb h=>?_) fun hb h=>?_
  ·have hx:=iQ k1 k2 k3 (by omega)
   have hh:fI x.aH x.aU x.fName x.fType=[aM kC,aM x.aU]:=by rw[gW h];rfl
   rw[hh] at hx
   refine C1 (bX _) ?_
   refine C1 (bX _) ?_
   have hE:=fun S=>lF [aM kC,aM x.aU] x.fArgs S hA (by omega) (by simp)
   simp only[List.map_cons,List.map_nil,jo] at hE
   refine bG rfl (hE _) ?_
   refine W1 ?_
   rw[hx]
   rfl
  have k11:=h
  refine S0 (fun hb h=>?_) fun hb h=>?_
  ·have hx:=iQ k1 k2 k3 (by omega)
   have hh:fI x.aH x.aU x.fName x.fType=[aM nD,fK x.fType]:=by rw[gW h];rfl
   rw[hh] at hx
   refine C1 (bX _) ?_
   refine C1 (WR x.fType (by omega)) ?_
   have hE:=fun S=>lF [aM nD,fK x.fType] x.fArgs S hA (by omega) (by simp)
   simp only[List.map_cons,List.map_nil,jo,ah.aC (fK x.fType)] at hE
   refine bG rfl (hE _) ?_
   refine W1 ?_
   rw[hx]
   show _=V.agg [.d (.s []),.d (.sl (List.map ah.enc (aM nD::fK x.fType::x.fArgs.map dJ)))]
   simp only[List.cons_append,List.nil_append,List.map_cons,jo,ah.aC (fK x.fType)]
   rfl
  have k12:=h
  have hk7:x.aH=7:=by have:=hfi.1;omega
  have hx:=CR x
  rw[if_neg k1,if_neg k2,if_neg k3,if_neg (by omega)] at hx
  have hh:fI x.aH x.aU x.fName x.fType=[aM iC]:=by rw[gW hk7];rfl
  rw[hh] at hx
  refine C1 (bX _) ?_
  have hE:=fun bn Ω=>Oq [aM iC] x.fArgs bn Ω hA (by omega) (by simp)
  obtain⟨B,hB⟩:∃B:Nat→List (List D),B=fun i=>(([aM iC]++x.fArgs.map dJ)++(x.aG.map tJ).take i).map ah.enc:=⟨_,rfl⟩
  have hB0:([aM iC]++x.fArgs.map dJ).map ah.enc=B 0:=by rw[hB];simp only[List.take_zero,List.append_nil]
  have hBl:∀i,(B i).length≤i+x.fArgs.length+1:=fun i=>by
   rw[hB];simp only[List.length_append,List.length_map,List.length_cons,List.length_nil]
   have:=List.length_take_le i (x.aG.map tJ)
   omega
  have hBr:∀i,∀r∈B i,r.length=2:=fun i=>by rw[hB];exact j5
  have hBs:∀i (hi:i<x.aG.length),B i++[[.s [],.sl (([aM x.aG[i].bC]++aQ x.aG[i].aS++[dJ x.aG[i].fBody]).map ah.enc)]]=B (i+1):=fun i hi=>by
   have:=qw (base:=[aM iC]++x.fArgs.map dJ) (l:=x.aG.map tJ) (i:=i) (by rw[List.length_map];exact hi)
   rw[List.getElem_map,WW,fO,fP] at this
   rw[hB];exact this
  have hBe:B x.aG.length=([aM iC]++x.fArgs.map dJ++x.aG.map tJ).map ah.enc:=by rw[hB];simp only;rw[List.take_of_length_le (by simp)]
  clear hB
  simp only[hB0] at hE
  simp only[List.map_cons,List.map_nil,jo] at hE
  refine bG rfl (hE _ _) ?_
  refine W1 ?_
  refine aW (ι:=Nat) Tryz.checked.mixed rfl [1,2,3,4] (fun i=>[.c (.ptr (0,0) 0),.c (.ptr (0,1) 0),.c (.ptr (0,5) 0),.c (.d (.i .i64 i))])
   (fun i=>[.box [.d (.i .i64 x.aH),.d (.s x.aU),.d (.s x.fName),.d (.i .i64 x.fN),.d (.i .i64 x.fType.aH),.d (.s x.fType.fName),.d (.sl (x.fType.fArgs.map ak.enc)),.d (.sl (x.fArgs.map aj.enc)),.d (.sl (x.aG.map aA.enc))],.box [.d (.s []),.aY []],.box [.d (.s []),.bQ (0,4) (B 0)],.box [.d (.s []),.bQ (0,4) (B 0)],.tok 2 (B i),.box [.d (.s []),.bQ (0,4) (B i)]]::S)
   (fun i=>i≤x.aG.length) (fun i=>x.aG.length-i) 0 rfl rfl (Nat.zero_le _) ?_
  intro i hi
  have hl:=hBl i
  have hr:=hBr i
  refine W1 ?_
  refine S0 (fun hb h=>?_) fun hb h=>?_
  ·have hi':i<x.aG.length:=by omega
   have hm:=List.getElem_mem hi'
   have hez:=Ia hm
   have hea:=vH x.aG[i]
   have hs:=hBs i hi'
   have hak:=Oo _ hm
   rw[mO,Bool.and_eq_true,Bool.and_eq_true] at hak
   have hls:=List.sizeOf_lt_of_mem hm
   have hlb:=aA.l5 x.aG[i]
   refine W3 ?_
   refine C1 (bX _) ?_
   refine W3 ?_
   refine bH (NN x.aG[i].aS (by omega)) ?_
   have hwr:=j5 (l:=aQ x.aG[i].aS)
   have hwl:(aQ x.aG[i].aS).length=x.aG[i].aS.length:=by rw[lu]
   refine W1 ?_
   refine W3 ?_
   refine C1 (ih x.aG[i].fBody (by omega) hak.2.2 (by omega)) ?_
   refine W3 ?_
   simp only[List.cons_append,List.nil_append,List.map_cons,List.map_nil,List.map_append,jo,ah.aC (dJ x.aG[i].fBody)] at hs
   rw[hs]
   exact iP 6 (by decide) (i+1) (by omega) rfl rfl rfl rfl (by omega)
  ·have hi':i=x.aG.length:=by omega
   subst hi'
   rw[hx,hBe]
   rfl
theorem Xp(x:aj)(hok:gL x=true)(hsz:x.sz≤4194304):aD Tryz.prog 64 [x.v] (dJ x).v:=Ic _ x (Nat.lt_succ_self _) hok hsz
end Go.Proofs.YtokkjobjffhfjaaGreatDoor
namespace Go.Ab
theorem aj.bounds{x:aj}(h:x.sz≤4194304):x.aU.length≤4194304∧x.fName.length≤4194304∧x.fArgs.length≤4194304∧x.aG.length≤4194304∧x.fType.sz≤4194304:=by
 simp only[aj.sz,aj.aC,bS,eT,D.sz,List.length_map,ak.gJ] at h
 omega
theorem aj.arg_b{x:aj}{i:Nat}(hi:i<x.fArgs.length)(h:x.sz≤4194304):x.fArgs[i].sz≤4194304:=by
 have hx:x.fArgs[i].sz≤dz (x.fArgs.map aj.enc):=gY (List.mem_map_of_mem (List.getElem_mem hi))
 simp only[aj.sz,aj.aC,bS,eT,D.sz,List.length_map] at h
 omega
theorem aj.Lb{x:aj}{i:Nat}(hi:i<x.aG.length)(h:x.sz≤4194304):x.aG[i].sz≤4194304:=by
 have hx:x.aG[i].sz≤dz (x.aG.map aA.enc):=gY (List.mem_map_of_mem (List.getElem_mem hi))
 simp only[aj.sz,aj.aC,bS,eT,D.sz,List.length_map] at h
 omega
theorem aA.bounds{x:aA}(h:x.sz≤4194304):x.bC.length≤4194304∧x.aS.length≤4194304∧(∀s∈x.aS,s.length≤4194304)∧x.fBody.sz≤4194304:=by
 have hb:=aA.IZ x
 simp only[aA.sz,aA.aC,bS,eT,D.sz,List.length_map] at h hb
 refine⟨by omega,by omega,fun s hs=> ?_,by omega⟩
 have:=V8 hs
 omega
theorem Ie(k:Int):(k<1∨12<k)∨k=1∨k=2∨k=3∨k=4∨k=5∨k=6∨k=7∨k=8∨k=9∨k=10∨k=11∨k=12:=by omega
end Go.Ab
namespace Go.Proofs.YtokkjobjffhfjaaGreatDoor
open Go Go.Ab
set_option maxHeartbeats 8000000 in
theorem Ot(x:aj)(hsz:x.sz≤4194304)(hc:x.fArgs.length≤300):aD Tryz.prog 196 [x.v] (.c (.d (.b (dec (oP x))))):=fun S=>by
 have hb0:=aj.bounds hsz
 have hz:yE x.fType→rM x.fType=false:=GA
 rcases Ie x.aH with hk|hk|hk|hk|hk|hk|hk|hk|hk|hk|hk|hk|hk
 ·have h1:¬oP x:=fun h=>by have:=h.1;omega
  refine aB (rs:=[.tmp 2]) Tryz.checked.mixed Tryz.func196 Tryz.ntmps196 rfl rfl rfl rfl rfl ?_
  refine W1 ?_
  refine C2 (Ej x.aH) ?_
  refine S0 (fun hb h=>?_) fun hb h=>?_
  ·exact aK (aN h1).symm
  refine S0 (fun hb h=>?_) fun hb h=>?_
  ·exact aK (aN h1).symm
  ·omega
 all_goals
  refine aB (rs:=[.tmp 2]) Tryz.checked.mixed Tryz.func196 Tryz.ntmps196 rfl rfl rfl rfl rfl ?_
  simp -implicitDefEqProofs (disch:=omega) only[go_sem,hk]
  refine bH (Ej _) ?_
  simp -implicitDefEqProofs (disch:=omega) only[go_sem,hk,S9,Ta]
  repeat' (first
   |with_reducible refine dP (fun hb=> ?_) (fun hb=> ?_)<;>have h:=hb<;>(try simp only[wf_preprocess] at h)<;>simp -implicitDefEqProofs (disch:=omega) only[go_sem,hb,hk]<;>refine W3 ?_
   |((with_reducible show jJ _ _ 157 _ _ _ _);refine bH (lQ x.fName (by omega)) ?_;simp -implicitDefEqProofs (disch:=omega) only[go_sem,hk])
   |((with_reducible show jJ _ _ 157 _ _ _ _);refine bH (lQ x.aU (by omega)) ?_;simp -implicitDefEqProofs (disch:=omega) only[go_sem,hk])
   |((with_reducible show jJ _ _ 260 _ _ _ _);refine bH (KI x.fName) ?_;simp -implicitDefEqProofs (disch:=omega) only[go_sem,hk])
   |((with_reducible show jJ _ _ 237 _ _ _ _);refine bH (KJ x.fType) ?_;simp -implicitDefEqProofs (disch:=omega) only[go_sem,hk])
   |((with_reducible show jJ _ _ 261 _ _ _ _);refine bH (EI x.fType (by omega)) ?_;simp -implicitDefEqProofs (disch:=omega) only[go_sem,hk])
   |(refine aK (Bool.eq_iff_iff.2 ?_);simp only[uJ,oP,hk];grind [iK,lN,cK,aN]))
end Go.Proofs.YtokkjobjffhfjaaGreatDoor
namespace Go.Ab
theorem aj.ab8{x:aj}{y:aj}(h:y∈x.fArgs):y.cnt+1≤x.cnt:=by
 rw[aj.oz x]
 have:∀xs:List aj,y∈xs→y.cnt≤aj.dS xs:=by
  intro xs
  induction xs with
  |nil=>intro h;cases h
  |cons z zs ih=>
   intro h
   rw[aj.dS]
   rcases List.mem_cons.1 h with e|e
   ·subst e;omega
   ·have:=ih e;omega
 have:=this _ h
 omega
theorem aj.ab9{x:aj}{y:aA}(h:y∈x.aG):y.fBody.cnt+1≤x.cnt:=by
 rw[aj.oz x]
 have:∀xs:List aA,y∈xs→y.fBody.cnt≤aA.dS xs:=by
  intro xs
  induction xs with
  |nil=>intro h;cases h
  |cons z zs ih=>
   intro h
   rw[aA.dS]
   rcases List.mem_cons.1 h with e|e
   ·subst e;rw[aA.oz];omega
   ·have:=ih e;omega
 have:=this _ h
 omega
theorem aj.acd(x:aj):x.fArgs.length+1≤x.cnt:=by
 rw[aj.oz x]
 have:∀xs:List aj,xs.length≤aj.dS xs:=by
  intro xs
  induction xs with
  |nil=>simp
  |cons z zs ih=>rw[aj.dS,List.length_cons];have:=aj.oz z;omega
 have:=this x.fArgs
 omega
def Uk(k:Int):Bool:=if k=5∨k=11 then true else false
def Ul(k:Int):Bool:=if k=3∨k=4∨k=6∨k=5∨k=8∨k=10 then true else false
def Um(k:Int):Bool:=if k=1∨k=2 then true else false
def Un(k:Int):Bool:=if k=1∨k=2∨k=3∨k=4∨k=6∨k=5∨k=7∨k=8∨k=10∨k=9∨k=11 then false else true
def Uo(k:Int):Int:=if k=1∨k=2∨k=3 then 0 else if k=4∨k=6∨k=5 then -1 else if k=8∨k=10 then 2 else if k=9 then 3 else 1
def Uq(k:Int):Bool:=if k=7 then true else false
end Go.Ab
namespace Go.Proofs.YtokkjobjffhfjaaGreatDoor
open Go Go.Ab
theorem Ig:∀n:Nat,∀x:aj,SizeOf.sizeOf x<n→x.sz≤4194304→x.cnt≤300→aD Tryz.prog 135 [x.v] (.c (.d (.b (gL x))))
 |0=>fun x h=>by omega
 |n+1=>by
  have ih:=Ig n
  intro x hn hsz hc S
  have hb0:=aj.bounds hsz
  have jS:=aj.gF x
  have Dz:=aj.nk x
  have hl:=aj.acd x
  have h1:∀y∈x.fArgs,aD Tryz.prog 198 [y.v] (.c (.d (.b (!gL y)))):=fun y hy S=>by
   have hys:=List.sizeOf_lt_of_mem hy
   have hyc:=aj.ab8 hy
   have hyz:y.sz≤4194304:=by obtain⟨i,hi,e⟩:=List.getElem_of_mem hy;rw[←e];exact aj.arg_b hi hsz
   refine aB (rs:=[.tmp 2]) Tryz.checked.mixed Tryz.func198 Tryz.ntmps198 rfl rfl rfl rfl rfl ?_
   refine W1 ?_
   exact C4 (ih y (by omega) hyz (by omega))
  have h2:∀y∈x.aG,aD Tryz.prog 200 [y.v] (.c (.d (.b (!qy y)))):=fun y hy S=>by
   have hys:=List.sizeOf_lt_of_mem hy
   have hyb:=aA.l5 y
   have hyc:=aj.ab9 hy
   have hyz:y.sz≤4194304:=by obtain⟨i,hi,e⟩:=List.getElem_of_mem hy;rw[←e];exact aj.Lb hi hsz
   have hyy:=aA.bounds hyz
   refine aB (rs:=[.tmp 2]) Tryz.checked.mixed Tryz.func200 Tryz.ntmps200 rfl rfl rfl rfl rfl ?_
   refine W1 ?_
   refine C2 (lQ y.bC (by omega)) ?_
   refine S0 (fun hb h=>?_) fun hb h=>?_
   ·exact aK (by rw[mO,h];rfl)
   have k1:=h
   refine C2 (Pp y.aS (by omega) hyy.2.2.1) ?_
   refine S0 (fun hb h=>?_) fun hb h=>?_
   ·exact aK (by rw[mO,h];simp)
   have k2:=h
   refine C2 (ih y.fBody (by omega) hyy.2.2.2 (by omega)) ?_
   exact aK (by rw[mO,k1,k2];simp)
  refine aB (rs:=[.tmp 2]) Tryz.checked.mixed Tryz.func135 Tryz.ntmps135 rfl rfl rfl rfl rfl ?_
  refine W1 ?_
  refine C2 (Ot x hsz (by omega)) ?_
  refine S0 (fun hb h=>?_) fun hb h=>?_
  ·exact aK (by rw[rP,aN h];rfl)
  have k1:=h
  refine W3 ?_
  refine bG rfl (Bp 198 [] _ x.fArgs (fun y=> !gL y) (by omega) fun y hy=>pI.IV (h1 y hy)) ?_
  refine W1 ?_
  rw[Ei]
  refine S0 (fun hb h=>?_) fun hb h=>?_
  ·exact aK (by rw[rP,h];simp)
  have k2:=h
  refine W3 ?_
  refine bG rfl (Cb 200 [] _ x.aG (fun y=> !qy y) (by omega) fun y hy=>pI.IV (h2 y hy)) ?_
  refine W1 ?_
  rw[Gz]
  exact aK (by rw[rP,cK k1,k2];simp)
theorem E8(x:aj)(hsz:x.sz≤4194304):aD Tryz.prog 68 [x.v] (.c (.d (.b (jv x)))):=fun S=>by
 refine aB (rs:=[.tmp 2]) Tryz.checked.mixed Tryz.func68 Tryz.ntmps68 rfl rfl rfl rfl rfl ?_
 refine W1 ?_
 refine C2 (Gy x hsz) ?_
 refine S0 (fun hb h=>?_) fun hb h=>?_
 ·refine C2 (Ig _ x (Nat.lt_succ_self _) hsz (by omega)) ?_
  exact aK (by unfold jv;rw[cK (by omega)];rfl)
 ·exact aK (by unfold jv;rw[aN (by omega)];rfl)
theorem Ku(k:Int):aD Tryz.prog 180 [.c (.d (.i .i64 k))] (.dw [(false,[.d (.b (Uk k))]),(false,[.d (.b (Ul k))]),(false,[.d (.b (Um k))]),(false,[.d (.b (Un k))]),(false,[.d (.i .i64 (Uo k))]),(false,[.d (.b (Uq k))])]):=fun S=>by
 refine aB (rs:=[.tmp 2,.tmp 3,.tmp 4,.tmp 5,.tmp 6,.tmp 7]) Tryz.checked.mixed Tryz.func180 Tryz.ntmps180 rfl rfl rfl rfl rfl ?_
 refine W1 ?_
 repeat' (first
  |refine S0 (fun hb h=>?_) fun hb h=>?_
  |(unfold Uk Ul Um Un Uo Uq;grind))
theorem Ur(t:ak):aD Tryz.prog 184 [t.v] (.c (.d (.b (dec (yE t))))):=fun S=>by
 refine aB (rs:=[.tmp 2]) Tryz.checked.mixed Tryz.func184 Tryz.ntmps184 rfl rfl rfl rfl rfl ?_
 refine W1 ?_
 repeat' (first
  |refine S0 (fun hb h=>?_) fun hb h=>?_
  |(refine aK ?_;unfold yE;grind [cK,aN,iK,lN]))
theorem Us(s:List UInt8):aD Tryz.prog 182 [.c (.d (.s s))] (.c (.d (.b (dec (s∈ops))))):=fun S=>by
 refine aB (rs:=[.tmp 2]) Tryz.checked.mixed Tryz.func182 Tryz.ntmps182 rfl rfl rfl rfl rfl ?_
 refine W1 ?_
 refine W3 ?_
 exact C4 (EH ops s (by decide))
theorem Eu:∀n:Nat,∀x:aj,SizeOf.sizeOf x<n→x.sz≤4194304→∀l:Int,0≤l→l≤1048576→aD Tryz.prog 117 [x.v,.c (.d (.i .i64 l))] (.c (.d (.i .i64 (kI l x.cnt))))
 |0=>fun x h=>by omega
 |n+1=>by
  have ih:=Eu n
  intro x hn hsz l hl hl2 S
  have hb0:=aj.bounds hsz
  have jS:=aj.gF x
  have Dz:=aj.nk x
  have he:=aj.oz x
  refine aB (rs:=[.tmp 4]) Tryz.checked.mixed Tryz.func117 Tryz.ntmps117 rfl rfl rfl rfl rfl ?_
  refine W1 ?_
  refine aW (ι:=Nat×Int) Tryz.checked.mixed rfl [1,2,5] (fun y=>[.c (.d (.i .i64 y.2)),.c (.ptr (0,0) 0),.c (.d (.i .i64 y.1))]) (fun y=>[.box (x.enc.map .d)]::S)
   (fun y=>y.1≤x.fArgs.length∧(-1≤y.2∧y.2≤1048576)∧kI y.2 (aj.dS (x.fArgs.drop y.1))=kI (l-1) (aj.dS x.fArgs)) (fun y=>x.fArgs.length-y.1) (0,l-1) rfl ?_ ⟨Nat.zero_le _,by simp only;omega,rfl⟩ ?_
  ·exact Z1
  rintro⟨i,c⟩ ⟨p1,p2,p3⟩
  simp only at p1 p2 p3
  have out:(i=x.fArgs.length∨c<0)→c=kI (l-1) (aj.dS x.fArgs):=fun h=>by
   rcases h with h|h
   ·rw[h,List.drop_length,aj.dS,Cg p2.1] at p3
    exact p3
   ·rw[←p3,EL h];omega
  have second:(i=x.fArgs.length∨c<0)→kI c (aA.dS x.aG)=kI l x.cnt:=fun h=>by
   rw[out h,Al,he]
   unfold kI
   split<;>split<;>(try split)<;>omega
  refine W1 ?_
  refine S0 (fun hb h=>?_) fun hb h=>?_
  ·have hi:i<x.fArgs.length:=by omega
   refine S0 (fun hb h=>?_) fun hb h=>?_
   ·have hs:=List.sizeOf_lt_of_mem (List.getElem_mem hi)
    have hr:=I4 (l:=c) (c:=x.fArgs[i].cnt) (by omega)
    rw[aj.mG hi,←Al] at p3
    refine W3 ?_
    refine C2 (ih x.fArgs[i] (by omega) (aj.arg_b hi hsz) c (by omega) (by omega)) ?_
    exact bK (i+1,kI c x.fArgs[i].cnt) (by simp only;omega) rfl rfl ⟨by simp only;omega,by simp only;omega,p3⟩
   ·have p4:=second (.inr (by omega))
    clear second out p3
    refine aW (ι:=Nat×Int) Tryz.checked.mixed rfl [1,2,6] (fun y=>[.c (.d (.i .i64 y.2)),.c (.ptr (0,0) 0),.c (.d (.i .i64 y.1))]) (fun y=>[.box (x.enc.map .d)]::S)
     (fun y=>y.1≤x.aG.length∧(-1≤y.2∧y.2≤1048576)∧kI y.2 (aA.dS (x.aG.drop y.1))=kI l x.cnt) (fun y=>x.aG.length-y.1) (0,c) rfl ?_ ⟨Nat.zero_le _,by simp only;omega,p4⟩ ?_
    ·exact Z1
    clear p1 p2 p4
    rintro⟨i,d⟩ ⟨p1,p2,p3⟩
    simp only at p1 p2 p3
    refine W1 ?_
    refine S0 (fun hb h=>?_) fun hb h=>?_
    ·have hi:i<x.aG.length:=by omega
     refine S0 (fun hb h=>?_) fun hb h=>?_
     ·have hs:=List.sizeOf_lt_of_mem (List.getElem_mem hi)
      have hs':=aA.l5 x.aG[i]
      have hr:=I4 (l:=d) (c:=x.aG[i].fBody.cnt) (by omega)
      rw[aA.mG hi,←Al] at p3
      refine W3 ?_
      refine C2 (ih x.aG[i].fBody (by omega) (aA.bounds (aj.Lb hi hsz)).2.2.2 d (by omega) (by omega)) ?_
      exact bK (i+1,kI d x.aG[i].fBody.cnt) (by simp only;omega) rfl rfl ⟨by simp only;omega,by simp only;omega,p3⟩
     ·rw[EL (by omega)] at p3
      exact int_eq (by omega)
    ·have hi:i=x.aG.length:=by omega
     rw[hi,List.drop_length,aA.dS,Cg p2.1] at p3
     exact int_eq (by omega)
  ·have p4:=second (.inl (by omega))
   clear second out p3
   refine aW (ι:=Nat×Int) Tryz.checked.mixed rfl [1,2,6] (fun y=>[.c (.d (.i .i64 y.2)),.c (.ptr (0,0) 0),.c (.d (.i .i64 y.1))]) (fun y=>[.box (x.enc.map .d)]::S)
    (fun y=>y.1≤x.aG.length∧(-1≤y.2∧y.2≤1048576)∧kI y.2 (aA.dS (x.aG.drop y.1))=kI l x.cnt) (fun y=>x.aG.length-y.1) (0,c) rfl ?_ ⟨Nat.zero_le _,by simp only;omega,p4⟩ ?_
   ·exact Z1
   clear p1 p2 p4
   rintro⟨i,d⟩ ⟨p1,p2,p3⟩
   simp only at p1 p2 p3
   refine W1 ?_
   refine S0 (fun hb h=>?_) fun hb h=>?_
   ·have hi:i<x.aG.length:=by omega
    refine S0 (fun hb h=>?_) fun hb h=>?_
    ·have hs:=List.sizeOf_lt_of_mem (List.getElem_mem hi)
     have hs':=aA.l5 x.aG[i]
     have hr:=I4 (l:=d) (c:=x.aG[i].fBody.cnt) (by omega)
     rw[aA.mG hi,←Al] at p3
     refine W3 ?_
     refine C2 (ih x.aG[i].fBody (by omega) (aA.bounds (aj.Lb hi hsz)).2.2.2 d (by omega) (by omega)) ?_
     exact bK (i+1,kI d x.aG[i].fBody.cnt) (by simp only;omega) rfl rfl ⟨by simp only;omega,by simp only;omega,p3⟩
    ·rw[EL (by omega)] at p3
     exact int_eq (by omega)
   ·have hi:i=x.aG.length:=by omega
    rw[hi,List.drop_length,aA.dS,Cg p2.1] at p3
    exact int_eq (by omega)
end Go.Proofs.YtokkjobjffhfjaaGreatDoor
namespace Go.Proofs.YtokkjobjffhfjaaGreatDoor
open Go Go.Ab
set_option maxHeartbeats 8000000 in
theorem P6:∀n:Nat,∀x:aj,SizeOf.sizeOf x<n→x.sz≤4194304→aD Tryz.prog 118 [x.v] (.c (.d (.b (gL x)))):=by
 intro n
 induction n with
 |zero=>intro x h;omega
 |succ n ih=>
  intro x hn hsz S
  have hb0:=aj.bounds hsz
  have jS:=aj.gF x
  have Dz:=aj.nk x
  have he:=rP x
  have hv0:=KH
  have hop:x.fName∈ops→validName x.fName=false:=Nf
  refine(show(oP x→ ?T)→_ from fun tail=> ?main) ?tp
  case' main=>
   rcases Ie x.aH with hk|hk|hk|hk|hk|hk|hk|hk|hk|hk|hk|hk|hk
   ·have h1:gL x=false:=by rw[he,aN (fun h=>by have:=h.1;omega)];rfl
    refine aB (rs:=[.tmp 2]) Tryz.checked.mixed Tryz.func118 Tryz.ntmps118 rfl rfl rfl rfl rfl ?_
    refine W1 ?_
    refine C1 (Ku _) ?_
    refine C1 (zo _ _ _) ?_
    refine S0 (fun hb h=>?_) fun hb h=>?_
    ·rw[h1]
    ·omega
   all_goals
    have hf0:¬oP x→V.c (.d (.b false))=V.c (.d (.b (gL x))):=fun h=>aK (by rw[he,aN h];rfl)
    refine aB (rs:=[.tmp 2]) Tryz.checked.mixed Tryz.func118 Tryz.ntmps118 rfl rfl rfl rfl rfl ?_
    simp -implicitDefEqProofs (disch:=omega) only[go_sem,hk]
    refine bH (Ku _) ?_
    simp -implicitDefEqProofs (disch:=omega) only[go_sem,hk,Uk,Ul,Um,Un,Uo,Uq,or_false,or_true,true_or,false_or]
    refine bH (zo _ _ _) ?_
    simp -implicitDefEqProofs (disch:=omega) only[go_sem,hk]
    repeat' (first
     |with_reducible refine dP (fun hb=> ?_) (fun hb=> ?_)<;>have h:=hb<;>(try simp only[wf_preprocess] at h)<;>simp -implicitDefEqProofs (disch:=omega) only[go_sem,hb,hk]<;>refine W3 ?_
     |((with_reducible show jJ _ _ 148 _ _ _ _);refine bH (lS x.fName (by omega)) ?_;simp -implicitDefEqProofs (disch:=omega) only[go_sem,hk])
     |((with_reducible show jJ _ _ 148 _ _ _ _);refine bH (lS x.aU (by omega)) ?_;simp -implicitDefEqProofs (disch:=omega) only[go_sem,hk])
     |((with_reducible show jJ _ _ 182 _ _ _ _);refine bH (Us x.fName) ?_;simp -implicitDefEqProofs (disch:=omega) only[go_sem,hk])
     |((with_reducible show jJ _ _ 184 _ _ _ _);refine bH (Ur x.fType) ?_;simp -implicitDefEqProofs (disch:=omega) only[go_sem,hk])
     |((with_reducible show jJ _ _ 183 _ _ _ _);refine bH (EJ x.fType (by omega)) ?_;simp -implicitDefEqProofs (disch:=omega) only[go_sem,hk])
     |((with_reducible show jJ _ _ 181 _ _ _ _);refine bH (zo x.fN _ _) ?_;simp -implicitDefEqProofs (disch:=omega) only[go_sem,hk])
     |(refine hf0 fun hF=> ?_;simp only[oP,hk,or_false,or_true,true_or,false_or,and_true,true_and,if_true,if_false,↓reduceIte,Int.reduceEq,Int.reduceLT,Int.reduceLE] at hF;grind [iK,lN,cK,aN]))
   all_goals
    have hF:oP x:=by simp only[oP,hk,or_false,or_true,true_or,false_or,and_true,true_and,if_true,if_false,↓reduceIte,Int.reduceEq,Int.reduceLT,Int.reduceLE];grind [iK,lN,cK,aN]
    refine Y6 (st':=[.box (x.enc.map .d)]::S) [1,9] [.c (.ptr (0,0) 0),.c (.d (.i .i64 0))] rfl (by simp -implicitDefEqProofs (disch:=omega) only[go_sem,hk]) ?_
    exact tail hF
  intro hF
  rw[cK hF,Bool.true_and] at he
  clear hF hop hv0
  refine aW (ι:=Nat) Tryz.checked.mixed rfl [1,9] (fun i=>[.c (.ptr (0,0) 0),.c (.d (.i .i64 i))]) (fun _=>[.box (x.enc.map .d)]::S)
   (fun i=>i≤x.fArgs.length∧iV (x.fArgs.drop i)=iV x.fArgs) (fun i=>x.fArgs.length-i) 0 rfl ?_ ⟨Nat.zero_le _,rfl⟩ ?_
  ·exact Z1
  rintro i ⟨p1,p2⟩
  refine W1 ?_
  refine S0 (fun hb h=>?_) fun hb h=>?_
  ·have hi:i<x.fArgs.length:=by omega
   have hs:=List.sizeOf_lt_of_mem (List.getElem_mem hi)
   rw[Nc hi] at p2
   refine W3 ?_
   refine C2 (ih x.fArgs[i] (by omega) (aj.arg_b hi hsz)) ?_
   refine S0 (fun hb h=>?_) fun hb h=>?_
   ·exact aK (by rw[he,←p2,h];rfl)
   ·exact bK (i+1) (by omega) rfl rfl ⟨by omega,by rw[←p2,h];rfl⟩
  rw[List.drop_of_length_le (by omega)] at p2
  have q:iV x.fArgs=true:=p2.symm
  clear p2 p1
  refine aW (ι:=Nat) Tryz.checked.mixed rfl [1,10] (fun i=>[.c (.ptr (0,0) 0),.c (.d (.i .i64 i))]) (fun _=>[.box (x.enc.map .d)]::S)
   (fun i=>i≤x.aG.length∧kH (x.aG.drop i)=kH x.aG) (fun i=>x.aG.length-i) 0 rfl ?_ ⟨Nat.zero_le _,rfl⟩ ?_
  ·exact Z1
  rintro i ⟨p1,p2⟩
  refine W1 ?_
  refine S0 (fun hb h=>?_) fun hb h=>?_
  ·have hi:i<x.aG.length:=by omega
   have hs:=List.sizeOf_lt_of_mem (List.getElem_mem hi)
   have hs':=aA.l5 x.aG[i]
   have hab:=aA.bounds (aj.Lb hi hsz)
   rw[Pt hi] at p2
   have no:qy x.aG[i]=false→V.c (.d (.b false))=V.c (.d (.b (gL x))):=fun h=>aK (by rw[he,←p2,h];simp)
   refine W3 ?_
   refine C2 (lS x.aG[i].bC (by omega)) ?_
   refine S0 (fun hb h=>?_) fun hb h=>?_
   ·exact no (by rw[mO,h];rfl)
   have k1:=h
   refine W3 ?_
   refine C2 (SN x.aG[i].aS (by omega) hab.2.2.1) ?_
   refine S0 (fun hb h=>?_) fun hb h=>?_
   ·exact no (by rw[mO];unfold oO;rw[h];simp)
   have k2:=h
   refine W3 ?_
   refine C2 (Gu x.aG[i].aS (by omega)) ?_
   refine S0 (fun hb h=>?_) fun hb h=>?_
   ·exact no (by rw[mO];unfold oO;rw[aN h];simp)
   have k3:=h
   refine W3 ?_
   refine C2 (ih x.aG[i].fBody (by omega) hab.2.2.2) ?_
   refine S0 (fun hb h=>?_) fun hb h=>?_
   ·exact no (by rw[mO,h];simp)
   ·exact iP 1 (by decide) (i+1) (by omega) rfl rfl rfl rfl ⟨by omega,by rw[←p2,mO,k1,h];unfold oO;rw[k2,cK k3];rfl⟩
  ·rw[List.drop_of_length_le (by omega)] at p2
   exact aK (by rw[he,q,←p2];rfl)
theorem E9(x:aj)(hsz:x.sz≤4194304):aD Tryz.prog 62 [x.v] (.c (.d (.b (jv x)))):=fun S=>by
 have hs:=Y5 (l:=300) (c:=x.cnt) (by omega)
 refine aB (rs:=[.tmp 2]) Tryz.checked.mixed Tryz.func62 Tryz.ntmps62 rfl rfl rfl rfl rfl ?_
 refine W1 ?_
 refine C2 (Eu _ x (Nat.lt_succ_self _) hsz 300 (by omega) (by omega)) ?_
 rw[hs]
 refine S0 (fun hb h=>?_) fun hb h=>?_
 ·refine C2 (P6 _ x (Nat.lt_succ_self _) hsz) ?_
  exact aK (by unfold jv;rw[cK (by omega)];rfl)
 ·exact aK (by unfold jv;rw[aN (by omega)];rfl)
end Go.Proofs.YtokkjobjffhfjaaGreatDoor
namespace Go.Ab
theorem tC{x:aj}(h:jv x=true):gL x=true:=by rw[jv,Bool.and_eq_true] at h;exact h.2
end Go.Ab
namespace Go.Proofs.YtokkjobjffhfjaaGreatDoor
open Go Go.Ab
end Go.Proofs.YtokkjobjffhfjaaGreatDoor
namespace Go.Ab
theorem QV(x:aj)(n:Nat):Less (x.vl n) x.v:=by
 have:=ET (r:=x.enc) (n:=n)
 rw[AQ,aj.nV] at this
 exact this
theorem Xq{x:ah}(h:vZ x=false):CV x=kK:=if_neg (by rw[h];decide)
theorem QW{x:ah}(h:vZ x=true):CV x=bM true x:=if_pos h
abbrev aj.cv (x:aj):List C:=[.d (.i .i64 x.aH),.d (.s x.aU),.d (.s x.fName),.d (.i .i64 x.fN),.d (.i .i64 x.fType.aH),.d (.s x.fType.fName),.d (.sl (x.fType.fArgs.map ak.enc)),.d (.sl (x.fArgs.map aj.enc)),.d (.sl (x.aG.map aA.enc))]
abbrev aj.cl (x:aj) (n:Nat):List C:=[.d (.i .i64 x.aH),.d (.s x.aU),.d (.s x.fName),.d (.i .i64 x.fN),.d (.i .i64 x.fType.aH),.d (.s x.fType.fName),.d (.ol n (lt x.fType.fArgs (n+1))),
 .d (.ol (n+(jg x.fType.fArgs+1)) (lE x.fArgs (n+(jg x.fType.fArgs+1)+1))),.d (.ol (n+(jg x.fType.fArgs+1)+(ow x.fArgs+1)) (lM x.aG (n+(jg x.fType.fArgs+1)+(ow x.fArgs+1)+1)))]
abbrev zM:List C:=[.d (.i .i64 0),.d (.s []),.d (.s []),.d (.i .i64 0),.d (.i .i64 0),.d (.s []),.aY [],.aY [],.aY []]
theorem adQ(e:aj)(h:e=kK)(ok:Bool):Less (.dw [(true,zM),(false,[.d (.b ok)])]) (.dw [(true,e.cv),(false,[.d (.b ok)])]):=by
 rw[h]
 exact(jw.cons (.cons (.refl _) (.cons (.refl _) (.cons (.refl _) (.cons (.refl _) (.cons (.refl _) (.cons (.refl _) (.cons (gN _) (.cons (gN _) (.cons (gN _) .nil))))))))) (.refl _)).less
theorem Xr(e:aj)(h:e=kK)(n:Nat)(ok:Bool):Less (.dw [(true,zM),(false,[.d (.b ok)])]) (.dw [(true,e.cl n),(false,[.d (.b ok)])]):=by
 rw[h]
 exact(jw.cons (.cons (.refl _) (.cons (.refl _) (.cons (.refl _) (.cons (.refl _) (.cons (.refl _) (.cons (.refl _) (.cons (fF _) (.cons (fF _) (.cons (fF _) .nil))))))))) (.refl _)).less
end Go.Ab
namespace Go.Proofs.YtokkjobjffhfjaaGreatDoor
open Go Go.Ab
theorem Jf(x:ah)(hsz:x.sz≤1048576):aD Tryz.prog 22 [x.v] (.dw [(true,(CV x).cv),(false,[.d (.b (vZ x))])]):=aD.of_le fun S=>by
 have hds:=wO false x
 have hok:=Z7 x
 have oo:vZ x=false→Less (.dw [(true,zM),(false,[.d (.b false)])]) (.dw [(true,(CV x).cv),(false,[.d (.b (vZ x))])]):=fun e=>by
  rw[e];exact adQ _ (Xq e) false
 refine aB (rs:=[.cell 2 28,.tmp 3]) Tryz.checked.mixed Tryz.func22 Tryz.ntmps22 rfl rfl rfl rfl rfl ?_
 refine W1 ?_
 refine C1 (Bd x (by omega)) ?_
 refine S0 (fun hb h=>?_) fun hb h=>?_
 ·exact oo (aN fun e=>by rw[e.1] at h;cases h)
 have hv:=h
 have Em:=BS hv
 refine C1 (PY x (by omega)) ?_
 refine C1 (E9 (bM false x) (by omega)) ?_
 refine S0 (fun hb h=>?_) fun hb h=>?_
 ·exact oo (hok.trans (aN fun e=>by rw[e.2.1] at h;cases h))
 have he:=h
 have hz:=Ho (bM false x) (tC he)
 refine W3 ?_
 refine C1 (Xp (bM false x) (tC he) (by omega)) ?_
 refine C1 (DX (dJ (bM false x)) x (by omega)) ?_
 refine S0 (fun hb h=>?_) fun hb h=>?_
 ·exact oo (hok.trans (aN fun e=>h e.2.2))
 ·have hy:vZ x=true:=hok.trans (cK ⟨hv,he,h⟩)
  rw[QW hy,hy,←Z8 hy]
  exact gB _
theorem Ih(x:ah)(n:Nat)(hsz:x.sz≤1048576):aD Tryz.prog 24 [x.v] (.dw [(true,(CV x).cl n),(false,[.d (.b (vZ x))])]):=aD.of_le fun S=>by
 have hds:=wO true x
 have oo:vZ x=false→Less (.dw [(true,zM),(false,[.d (.b false)])]) (.dw [(true,(CV x).cl n),(false,[.d (.b (vZ x))])]):=fun e=>by
  rw[e];exact Xr _ (Xq e) n false
 refine aB (rs:=[.cell 2 28,.tmp 3]) Tryz.checked.mixed Tryz.func24 Tryz.ntmps24 rfl rfl rfl rfl rfl ?_
 refine W1 ?_
 refine C1 (Bc x (by omega)) ?_
 refine S0 (fun hb h=>?_) fun hb h=>?_
 ·exact oo (aN fun e=>by rw[e.1] at h;cases h)
 have hv:=h
 have Em:=BS hv
 have hfo:gD x=true:=by unfold fT at hv;rw[Bool.and_eq_true] at hv;exact hv.1
 refine C1 (Oj x n hfo (by omega)) ?_
 refine Nv (E8 (bM true x) (by omega)) (.cons (QV _ n) .nil) ?_
 refine W1 ?_
 refine S0 (fun hb h=>?_) fun hb h=>?_
 ·exact oo (aN fun e=>by rw[e.2.1] at h;cases h)
 have he:=h
 have hz:=Ho (bM true x) (tC he)
 refine W3 ?_
 refine Nv (aD.less (Uj (bM true x) 0 (tC he) (by omega)) (abV (dJ (bM true x)) 0)) (.cons (QV _ n) .nil) ?_
 refine W1 ?_
 refine C1 (DY (dJ (bM true x)) x (by omega)) ?_
 refine S0 (fun hb h=>?_) fun hb h=>?_
 ·exact oo (aN fun e=>h e.2.2)
 ·have hy:vZ x=true:=cK ⟨hv,he,h⟩
  rw[QW hy,hy]
  exact gB _
end Go.Proofs.YtokkjobjffhfjaaGreatDoor
namespace Go.Ab
theorem Ut{s:List UInt8}(h:iw s=false):gu s=gq:=by
 unfold gu
 rw[dif_neg (lN h)]
theorem Fb(s:List UInt8):(gu s).sz≤1048576:=by
 cases h:iw s with
 |true=>have:=BS (Pm h);omega
 |false=>rw[Ut h,EW];omega
noncomputable def uz(s:List UInt8):Bool:=iw s&&vZ (gu s)
noncomputable def vW(s:List UInt8):aj:=if iw s=true then CV (gu s) else kK
theorem ace(s:List UInt8):(vW s).sz≤1048576:=by
 unfold vW
 split
 ·exact adI (Fb s)
 ·rw[vJ];omega
theorem Xt{w:World}{σ:Nat→Nat}{S:Store}{β:Hs}{x:ah}{lv:Value}{b:Bool}(h:bB w σ (.sl (x.au.map ah.enc)) lv)(h1:lv.oneCell'=true):
 bF w σ S β (.dw [(true,x.enc.map .d),(false,[.d (.b b)])]) (.tuple #[.agg #[.string ⟨x.aI.toArray⟩,lv],.bool b]):=by
 refine⟨_,rfl,rfl,fun j y hy=> ?_⟩
 match j,hy with
 |0,hy=>
  simp at hy
  subst hy
  refine⟨_,rfl,_,rfl,by rw[ah.aC];rfl,fun j y hy=> ?_⟩
  rw[ah.aC] at hy
  match j,hy with
  |0,hy=>simp at hy;subst hy;exact⟨_,rfl,.s _,rfl⟩
  |1,hy=>simp at hy;subst hy;exact⟨_,rfl,h,h1⟩
 |1,hy=>
  simp at hy
  subst hy
  exact⟨_,rfl,_,rfl,.b _,rfl⟩
theorem adR{w:World}{σ:Nat→Nat}{es:List (List D)}{v:Value}(h:bB w σ (.sl es) v):v.oneCell'=true:=by
 cases h<;>rfl
end Go.Ab
namespace Go.Proofs.YtokkjobjffhfjaaGreatDoor
open Go Go.Ab
theorem KT(s:List UInt8)(hs:s.length≤33554432):aD Tryz.prog 23 [.c (.d (.s s))] (.dw [(true,(gu s).enc.map .d),(false,[.d (.b (iw s))])]):=fun S=>by
 refine⟨⟨_,Tryz.func23,by kernel_rfl,by kernel_rfl⟩,fun w σ β vs hS hv=> ?_⟩
 obtain⟨u,rfl,hu⟩:=Y9 hv
 obtain rfl:u=.string ⟨s.toArray⟩:=by cases hu.1;rfl
 refine(Tk s w σ hS.live hS.mY hs).mono fun e w' ⟨lv,σ',he,hr,hg,hgl⟩=> ?_
 exact⟨_,_,S,σ',β,he,hS.grow hg,Keep.refl _ _,Step.jM hg,Xt hr (adR hr),rfl,rfl⟩
theorem KU(s:List UInt8)(hs:s.length≤1048576):aD Tryz.prog 6 [.c (.d (.s s))] (.dw [(true,(vW s).cv),(false,[.d (.b (uz s))])]):=aD.of_le fun S=>by
 have hz:=Fb s
 have c1:=KO s hs
 have c2:=Jf (gu s) hz
 have oo:iw s=false→Less (.dw [(true,zM),(false,[.d (.b false)])]) (.dw [(true,(vW s).cv),(false,[.d (.b (uz s))])]):=fun e=>by
  have e1:vW s=kK:=if_neg (by rw[e];decide)
  have e2:uz s=false:=by unfold uz;rw[e];rfl
  rw[e2];exact adQ _ e1 false
 have Ii:iw s=true→vW s=CV (gu s)∧uz s=vZ (gu s):=fun e=>⟨if_pos e,by unfold uz;rw[e];rfl⟩
 obtain⟨X,hX⟩:∃X,X=gu s:=⟨_,rfl⟩
 rw[←hX] at c1 c2 Ii
 refine aB (rs:=[.cell 2 28,.tmp 3]) Tryz.checked.mixed Tryz.func6 Tryz.ntmps6 rfl rfl rfl rfl rfl ?_
 refine W1 ?_
 refine bH c1 ?_
 simp -implicitDefEqProofs (disch:=omega) only[go_sem,ah.aC,List.map_cons,List.map_nil]
 refine S0 (fun hb h=>?_) fun hb h=>?_
 ·exact oo h
 ·obtain⟨q1,q2⟩:=Ii h
  rw[q1,q2]
  refine bH c2 ?_
  refine W1 ?_
  exact gB _
theorem Ij(s:List UInt8)(n:Nat)(hs:s.length≤1048576):aD Tryz.prog 7 [.c (.d (.s s))] (.dw [(true,(fE (vW s).enc n).map .d),(false,[.d (.b (uz s))])]):=aD.of_le fun S=>by
 rw[AQ]
 have hz:=Fb s
 have c1:=KT s (by omega)
 have c2:=Ih (gu s) n hz
 have oo:iw s=false→Less (.dw [(true,zM),(false,[.d (.b false)])]) (.dw [(true,(vW s).cl n),(false,[.d (.b (uz s))])]):=fun e=>by
  have e1:vW s=kK:=if_neg (by rw[e];decide)
  have e2:uz s=false:=by unfold uz;rw[e];rfl
  rw[e2];exact Xr _ e1 n false
 have Ii:iw s=true→vW s=CV (gu s)∧uz s=vZ (gu s):=fun e=>⟨if_pos e,by unfold uz;rw[e];rfl⟩
 obtain⟨X,hX⟩:∃X,X=gu s:=⟨_,rfl⟩
 rw[←hX] at c1 c2 Ii
 refine aB (rs:=[.cell 2 28,.tmp 3]) Tryz.checked.mixed Tryz.func7 Tryz.ntmps7 rfl rfl rfl rfl rfl ?_
 refine W1 ?_
 refine bH c1 ?_
 simp -implicitDefEqProofs (disch:=omega) only[go_sem,ah.aC,List.map_cons,List.map_nil]
 refine S0 (fun hb h=>?_) fun hb h=>?_
 ·exact oo h
 ·obtain⟨q1,q2⟩:=Ii h
  rw[q1,q2]
  refine bH c2 ?_
  refine W1 ?_
  exact gB _
end Go.Proofs.YtokkjobjffhfjaaGreatDoor
namespace Go.Proofs.YtokkjobjffhfjaaGreatDoor
open Go Go.Ab
theorem Jg(xs:List (List UInt8)):∀(k:Int) (l j r:Nat) (p:List (Nat×Nat)) (S:Store) (rs:List (List (List D))),aJ S (l,j)=some (.xf rs)→atR rs r p=some (xs.map encS)→0≤k∧k+ay (xs.map encS)≤4611686018427387904→bD Tryz.prog 41 [.c (.xp (l,j) r p),.c (.d (.i .i64 k))] S (fun res S'=>res=.c (.d (.i .i64 (k+ay (xs.map encS))))∧S'=aP S (l,j) (.xf (dU rs r p (dB (xs.map encS) k)))):=by
 intro k l j r p S rs hS hp hk
 have hlen:=sZ (f:=encS) (fun x=>by simp only[encS,List.cons_append,List.nil_append,nM,nL];omega) xs
 obtain⟨rows,hr⟩:∃rows,rows=xs.map encS:=⟨_,rfl⟩
 have hl:rows.length=xs.length:=by rw[hr,List.length_map]
 rw[←hr] at hp hk hlen ⊢
 have ht:∀x:Ab.Obj,aJ (aP S (l,j) x) (l,j)=some x:=fun x=>bT _ _ _ _ hS
 have hA:∀new,atR (dU rs r p new) r p=some new:=fun new=>uo hp
 have hU:∀a b,dU (dU rs r p a) r p b=dU rs r p b:=fun a b=>vE hp
 refine aB (rs:=[.tmp 4]) Tryz.checked.mixed Tryz.func41 Tryz.ntmps41 rfl rfl rfl rfl rfl ?_
 refine W1 ?_
 refine aW (ι:=Nat) Tryz.checked.mixed rfl [0,1,5] (fun i=>[.c (.xp (1+l,j) r p),.c (.d (.i .i64 (k+ay (rows.take i)))),.c (.d (.i .i64 i))])
  (fun i=>[]::aP S (l,j) (.xf (dU rs r p (oq rows k i)))) (fun i=>i≤xs.length) (fun i=>xs.length-i) 0 ?_ ?_ (Nat.zero_le _) ?_
 ·have z0:k+((ay (rows.take 0):Nat):Int)=k:=by simp[ay]
  rw[z0]
  rfl
 ·rw[yI,yH hp,rF _ _ hS]
 intro i hi
 simp -implicitDefEqProofs (disch:=omega) only[go_sem,ht,hA,lD,hl]
 with_reducible refine dP (fun hb=> ?_) (fun hb=> ?_)<;>have h:=hb<;>try simp only[wf_preprocess] at h
 ·have hi:i<xs.length:=by omega
  have hir:i<rows.length:=by omega
  obtain⟨x,hx⟩:∃x,x=xs[i]:=⟨_,rfl⟩
  have e1:rows[i]=[.s x]:=by
   simp only[hr,List.getElem_map,←hx]
   simp only[encS,List.cons_append,List.nil_append]
  have hm:=nN hir
  have hle:=rR (rows:=rows) (i:=i+1)
  rw[hm,e1] at hle
  rw[e1] at hm
  simp only[nM,nL] at hle hm
  have hK:k+((ay (rows.take (i+1)):Nat):Int)=k+((ay (rows.take i):Nat):Int)+1:=by rw[hm];omega
  have e2:=DL (k:=k) hir
  rw[e1] at e2
  have hC:∀row o,cellAt (kT rows k i row) i o=row[o]? :=fun row o=>rT hir
  have hG:∀row,(kT rows k i row).getD i []=row:=fun row=>xR hir
  simp -implicitDefEqProofs (disch:=omega) only[go_sem,hb,ht,hA,hU,e2,hC,hG,fJ,dQ,hl,aL,eZ]
  refine W3 ?_
  refine bH (eP (k+((ay (rows.take i):Nat):Int)) (by omega)) ?_
  simp -implicitDefEqProofs (disch:=omega) only[go_sem,hb,ht,hA,hU,e2,hC,hG,fJ,dQ,hl,aL,eZ]
  refine W3 ?_
  refine bK (i+1) (by omega) (by rw[hK];rfl) ?_ (by omega)
  have h3:=DN (k:=k) hir
  rw[e1] at h3
  simp only[qJ,G8] at h3
  rw[←h3]
  all_goals rfl
 ·simp -implicitDefEqProofs (disch:=omega) only[go_sem,hb]
  have hi:i=xs.length:=by omega
  rw[AB (by omega),List.take_of_length_le (by omega)]
  all_goals (first|rfl|exact⟨rfl,rfl⟩)
theorem Jh(xs:List (List UInt8)):∀(k:Int) (l j r:Nat) (p:List (Nat×Nat)) (S:Store) (rs:List (List (List D))),aJ S (l,j)=some (.xf rs)→atR rs r p=some (dB (xs.map encS) k)→0≤k∧k+ay (xs.map encS)≤4611686018427387904→bD Tryz.prog 46 [.c (.xp (l,j) r p),.c (.d (.i .i64 k))] S (fun res S'=>res=.c (.d (.i .i64 (k+ay (xs.map encS))))∧S'=S):=by
 intro k l j r p S rs hS hp hk
 have hlen:=sZ (f:=encS) (fun x=>by simp only[encS,List.cons_append,List.nil_append,nM,nL];omega) xs
 obtain⟨rows,hr⟩:∃rows,rows=xs.map encS:=⟨_,rfl⟩
 have hl:rows.length=xs.length:=by rw[hr,List.length_map]
 rw[←hr] at hp hk hlen ⊢
 refine aB (rs:=[.tmp 4]) Tryz.checked.mixed Tryz.func46 Tryz.ntmps46 rfl rfl rfl rfl rfl ?_
 refine W1 ?_
 refine aW (ι:=Nat) Tryz.checked.mixed rfl [0,1,5] (fun i=>[.c (.xp (1+l,j) r p),.c (.d (.i .i64 (k+ay (rows.take i)))),.c (.d (.i .i64 i))])
  (fun i=>[]::S) (fun i=>i≤xs.length) (fun i=>xs.length-i) 0 ?_ rfl (Nat.zero_le _) ?_
 ·have z0:k+((ay (rows.take 0):Nat):Int)=k:=by simp[ay]
  rw[z0]
  rfl
 intro i hi
 simp -implicitDefEqProofs (disch:=omega) only[go_sem,hS,hp,bJ,hl]
 with_reducible refine dP (fun hb=> ?_) (fun hb=> ?_)<;>have h:=hb<;>try simp only[wf_preprocess] at h
 ·have hi:i<xs.length:=by omega
  have hir:i<rows.length:=by omega
  obtain⟨x,hx⟩:∃x,x=xs[i]:=⟨_,rfl⟩
  have e1:rows[i]=[.s x]:=by
   simp only[hr,List.getElem_map,←hx]
   simp only[encS,List.cons_append,List.nil_append]
  have hm:=nN hir
  have hle:=rR (rows:=rows) (i:=i+1)
  rw[hm,e1] at hle
  rw[e1] at hm
  simp only[nM,nL] at hle hm
  have hK:k+((ay (rows.take (i+1)):Nat):Int)=k+((ay (rows.take i):Nat):Int)+1:=by rw[hm];omega
  have e2:qJ rows[i] (k+((ay (rows.take i):Nat):Int))=[.s (jW (k+((ay (rows.take i):Nat):Int)))]:=by
   rw[e1]
   simp only[qJ,G8]
   all_goals rfl
  have hC:∀o,cellAt (dB rows k) i o=([.s (jW (k+((ay (rows.take i):Nat):Int)))]:List D)[o]? :=fun o=>by
   have h1:(dB rows k)[i]? =some (qJ rows[i] (k+((ay (rows.take i):Nat):Int))):=by
    have h2:=ou (k:=k) hir
    have h3:i<(dB rows k).length:=by rw[bJ];exact hir
    rw[List.getD_eq_getElem?_getD,List.getElem?_eq_getElem h3,Option.getD_some] at h2
    rw[List.getElem?_eq_getElem h3,h2]
   unfold cellAt
   rw[h1,Option.bind_some,e2]
  have hG:=ou (k:=k) hir
  rw[e2] at hG
  simp -implicitDefEqProofs (disch:=omega) only[go_sem,hb,hS,hp,hC,hG,bJ,hl,eZ]
  refine W3 ?_
  refine bH (eP (k+((ay (rows.take i):Nat):Int)) (by omega)) ?_
  simp -implicitDefEqProofs (disch:=omega) only[go_sem,hb,hS,hp,hC,hG,bJ,hl,eZ]
  refine W3 ?_
  refine bK (i+1) (by omega) (by rw[hK];rfl) rfl (by omega)
 ·simp -implicitDefEqProofs (disch:=omega) only[go_sem,hb]
  have hi:i=xs.length:=by omega
  rw[List.take_of_length_le (by omega)]
  all_goals (first|rfl|exact⟨rfl,rfl⟩)
end Go.Proofs.YtokkjobjffhfjaaGreatDoor
namespace Go.Proofs.YtokkjobjffhfjaaGreatDoor
open Go Go.Ab
end Go.Proofs.YtokkjobjffhfjaaGreatDoor
namespace Go.Proofs.YtokkjobjffhfjaaGreatDoor
open Go Go.Ab
theorem Db:∀n:Nat,(∀xs:List ak,SizeOf.sizeOf xs<n→∀(k:Int) (l j r:Nat) (p:List (Nat×Nat)) (S:Store) (rs:List (List (List D))),aJ S (l,j)=some (.xf rs)→atR rs r p=some (xs.map ak.enc)→0≤k∧k+ay (xs.map ak.enc)≤4611686018427387904→bD Tryz.prog 73 [.c (.xp (l,j) r p),.c (.d (.i .i64 k))] S (fun res S'=>res=.c (.d (.i .i64 (k+ay (xs.map ak.enc))))∧S'=aP S (l,j) (.xf (dU rs r p (dB (xs.map ak.enc) k)))))
 |0=>fun xs h=>by omega
 |n+1=>by
  have Ce:=Db n
  refine fun xs hn k l j r p S rs hS hp hk=> ?_
  ·have hlen:=sZ (f:=ak.enc) (fun x=>by simp only[ak.aC,encS,encI,List.cons_append,List.nil_append,nM,nL];omega) xs
   obtain⟨rows,hr⟩:∃rows,rows=xs.map ak.enc:=⟨_,rfl⟩
   have hl:rows.length=xs.length:=by rw[hr,List.length_map]
   rw[←hr] at hp hk hlen ⊢
   have ht:∀x:Ab.Obj,aJ (aP S (l,j) x) (l,j)=some x:=fun x=>bT _ _ _ _ hS
   have hA:∀new,atR (dU rs r p new) r p=some new:=fun new=>uo hp
   have hU:∀a b,dU (dU rs r p a) r p b=dU rs r p b:=fun a b=>vE hp
   refine aB (rs:=[.tmp 4]) Tryz.checked.mixed Tryz.func73 Tryz.ntmps73 rfl rfl rfl rfl rfl ?_
   refine W1 ?_
   refine aW (ι:=Nat) Tryz.checked.mixed rfl [0,1,5] (fun i=>[.c (.xp (1+l,j) r p),.c (.d (.i .i64 (k+ay (rows.take i)))),.c (.d (.i .i64 i))])
    (fun i=>[]::aP S (l,j) (.xf (dU rs r p (oq rows k i)))) (fun i=>i≤xs.length) (fun i=>xs.length-i) 0 ?_ ?_ (Nat.zero_le _) ?_
   ·have z0:k+((ay (rows.take 0):Nat):Int)=k:=by simp[ay]
    rw[z0]
    rfl
   ·rw[yI,yH hp,rF _ _ hS]
   intro i hi
   simp -implicitDefEqProofs (disch:=omega) only[go_sem,ht,hA,lD,hl]
   with_reducible refine dP (fun hb=> ?_) (fun hb=> ?_)<;>have h:=hb<;>try simp only[wf_preprocess] at h
   ·have hi:i<xs.length:=by omega
    have hir:i<rows.length:=by omega
    obtain⟨x,hx⟩:∃x,x=xs[i]:=⟨_,rfl⟩
    have e1:rows[i]=[.i .i64 x.aH,.s x.fName,.sl (x.fArgs.map ak.enc)]:=by
     simp only[hr,List.getElem_map,←hx]
     simp only[ak.aC,encS,encI,List.cons_append,List.nil_append]
    have hm:=nN hir
    have hle:=rR (rows:=rows) (i:=i+1)
    rw[hm,e1] at hle
    rw[e1] at hm
    simp only[nM,nL] at hle hm
    have hK:k+((ay (rows.take (i+1)):Nat):Int)=k+((ay (rows.take i):Nat):Int)+1+1+((ay (x.fArgs.map ak.enc):Nat):Int):=by rw[hm];omega
    have e2:=DL (k:=k) hir
    rw[e1] at e2
    have hC:∀row o,cellAt (kT rows k i row) i o=row[o]? :=fun row o=>rT hir
    have hG:∀row,(kT rows k i row).getD i []=row:=fun row=>xR hir
    simp -implicitDefEqProofs (disch:=omega) only[go_sem,hb,ht,hA,hU,e2,hC,hG,fJ,dQ,hl,aL,eZ]
    refine W3 ?_
    refine bH (eP (k+((ay (rows.take i):Nat):Int)+1) (by omega)) ?_
    simp -implicitDefEqProofs (disch:=omega) only[go_sem,hb,ht,hA,hU,e2,hC,hG,fJ,dQ,hl,aL,eZ]
    refine W3 ?_
    refine bG rfl (vG hS hp hir (by rfl) (fun S' rs' g1 g2=>Ce x.fArgs (by have:=List.sizeOf_lt_of_mem (List.getElem_mem hi);rw[←hx] at this;have:=ak.gF x;omega) (k+((ay (rows.take i):Nat):Int)+1+1) (1+l) j r _ S' rs' g1 g2 (by omega))) ?_
    simp -implicitDefEqProofs (disch:=omega) only[go_sem,hb,ht,hA,hU,e2,hC,hG,fJ,dQ,hl,aL,eZ]
    refine W3 ?_
    refine bK (i+1) (by omega) (by rw[hK];rfl) ?_ (by omega)
    have h3:=DN (k:=k) hir
    rw[e1] at h3
    simp only[qJ,G8] at h3
    rw[←h3]
    all_goals rfl
   ·simp -implicitDefEqProofs (disch:=omega) only[go_sem,hb]
    have hi:i=xs.length:=by omega
    rw[AB (by omega),List.take_of_length_le (by omega)]
    all_goals (first|rfl|exact⟨rfl,rfl⟩)
theorem xX(xs:List ak):∀(k:Int) (l j r:Nat) (p:List (Nat×Nat)) (S:Store) (rs:List (List (List D))),aJ S (l,j)=some (.xf rs)→atR rs r p=some (xs.map ak.enc)→0≤k∧k+ay (xs.map ak.enc)≤4611686018427387904→bD Tryz.prog 73 [.c (.xp (l,j) r p),.c (.d (.i .i64 k))] S (fun res S'=>res=.c (.d (.i .i64 (k+ay (xs.map ak.enc))))∧S'=aP S (l,j) (.xf (dU rs r p (dB (xs.map ak.enc) k)))):=(Db _) xs (Nat.lt_succ_self _)
theorem P7(x:ak)(k:Int)(l j b:Nat)(S:Store)(rs:List (List (List D)))(hS:aJ S (l,j)=some (.xf rs))(h2:atR rs (b+2) []=some (x.fArgs.map ak.enc))(hk:0≤k∧k+((ay (x.fArgs.map ak.enc):Nat):Int)≤4611686018427387904):bD Tryz.prog 28 [.agg [.d (.i .i64 x.aH),.d (.s x.fName),.xp (l,j) (b+2) []],.c (.d (.i .i64 k))] S (fun res S'=>res=.c (.d (.i .i64 (k+((ay (x.fArgs.map ak.enc):Nat):Int))))∧S'=aP S (l,j) (.xf (dU (rs) (b+2) [] (dB (x.fArgs.map ak.enc) (k))))):=by
 have ht:∀x:Ab.Obj,aJ (aP S (l,j) x) (l,j)=some x:=fun x=>bT _ _ _ _ hS
 refine aB (rs:=[.tmp 4]) Tryz.checked.mixed Tryz.func28 Tryz.ntmps28 rfl rfl rfl rfl rfl ?_
 refine W1 ?_
 refine bG rfl (xX x.fArgs (k) (1+l) j (b+2) [] _ _ (by rw[aV];first|exact hS|exact ht _) (by first|assumption|(simp(disch:=omega) only[ne_eq,vF];assumption)) (by omega)) ?_
 simp -implicitDefEqProofs (disch:=omega) only[go_sem,aL,bI]
 try exact⟨rfl,rfl⟩
theorem Dc:∀n:Nat,(∀xs:List ak,SizeOf.sizeOf xs<n→∀(k:Int) (l j r:Nat) (p:List (Nat×Nat)) (S:Store) (rs:List (List (List D))),aJ S (l,j)=some (.xf rs)→atR rs r p=some (dB (xs.map ak.enc) k)→0≤k∧k+ay (xs.map ak.enc)≤4611686018427387904→bD Tryz.prog 75 [.c (.xp (l,j) r p),.c (.d (.i .i64 k))] S (fun res S'=>res=.c (.d (.i .i64 (k+ay (xs.map ak.enc))))∧S'=S))
 |0=>fun xs h=>by omega
 |n+1=>by
  have Ce:=Dc n
  refine fun xs hn k l j r p S rs hS hp hk=> ?_
  ·have hlen:=sZ (f:=ak.enc) (fun x=>by simp only[ak.aC,encS,encI,List.cons_append,List.nil_append,nM,nL];omega) xs
   obtain⟨rows,hr⟩:∃rows,rows=xs.map ak.enc:=⟨_,rfl⟩
   have hl:rows.length=xs.length:=by rw[hr,List.length_map]
   rw[←hr] at hp hk hlen ⊢
   refine aB (rs:=[.tmp 4]) Tryz.checked.mixed Tryz.func75 Tryz.ntmps75 rfl rfl rfl rfl rfl ?_
   refine W1 ?_
   refine aW (ι:=Nat) Tryz.checked.mixed rfl [0,1,5] (fun i=>[.c (.xp (1+l,j) r p),.c (.d (.i .i64 (k+ay (rows.take i)))),.c (.d (.i .i64 i))])
    (fun i=>[]::S) (fun i=>i≤xs.length) (fun i=>xs.length-i) 0 ?_ rfl (Nat.zero_le _) ?_
   ·have z0:k+((ay (rows.take 0):Nat):Int)=k:=by simp[ay]
    rw[z0]
    rfl
   intro i hi
   simp -implicitDefEqProofs (disch:=omega) only[go_sem,hS,hp,bJ,hl]
   with_reducible refine dP (fun hb=> ?_) (fun hb=> ?_)<;>have h:=hb<;>try simp only[wf_preprocess] at h
   ·have hi:i<xs.length:=by omega
    have hir:i<rows.length:=by omega
    obtain⟨x,hx⟩:∃x,x=xs[i]:=⟨_,rfl⟩
    have e1:rows[i]=[.i .i64 x.aH,.s x.fName,.sl (x.fArgs.map ak.enc)]:=by
     simp only[hr,List.getElem_map,←hx]
     simp only[ak.aC,encS,encI,List.cons_append,List.nil_append]
    have hm:=nN hir
    have hle:=rR (rows:=rows) (i:=i+1)
    rw[hm,e1] at hle
    rw[e1] at hm
    simp only[nM,nL] at hle hm
    have hK:k+((ay (rows.take (i+1)):Nat):Int)=k+((ay (rows.take i):Nat):Int)+1+1+((ay (x.fArgs.map ak.enc):Nat):Int):=by rw[hm];omega
    have e2:qJ rows[i] (k+((ay (rows.take i):Nat):Int))=[.i .i64 (k+((ay (rows.take i):Nat):Int)),.s (jW (k+((ay (rows.take i):Nat):Int)+1)),.sl (dB (x.fArgs.map ak.enc) (k+((ay (rows.take i):Nat):Int)+1+1))]:=by
     rw[e1]
     simp only[qJ,G8]
     all_goals rfl
    have hC:∀o,cellAt (dB rows k) i o=([.i .i64 (k+((ay (rows.take i):Nat):Int)),.s (jW (k+((ay (rows.take i):Nat):Int)+1)),.sl (dB (x.fArgs.map ak.enc) (k+((ay (rows.take i):Nat):Int)+1+1))]:List D)[o]? :=fun o=>by
     have h1:(dB rows k)[i]? =some (qJ rows[i] (k+((ay (rows.take i):Nat):Int))):=by
      have h2:=ou (k:=k) hir
      have h3:i<(dB rows k).length:=by rw[bJ];exact hir
      rw[List.getD_eq_getElem?_getD,List.getElem?_eq_getElem h3,Option.getD_some] at h2
      rw[List.getElem?_eq_getElem h3,h2]
     unfold cellAt
     rw[h1,Option.bind_some,e2]
    have hG:=ou (k:=k) hir
    rw[e2] at hG
    simp -implicitDefEqProofs (disch:=omega) only[go_sem,hb,hS,hp,hC,hG,bJ,hl,eZ]
    refine W3 ?_
    refine bH (eP (k+((ay (rows.take i):Nat):Int)+1) (by omega)) ?_
    simp -implicitDefEqProofs (disch:=omega) only[go_sem,hb,hS,hp,hC,hG,bJ,hl,eZ]
    refine W3 ?_
    refine bG rfl (Ce x.fArgs (by have:=List.sizeOf_lt_of_mem (List.getElem_mem hi);rw[←hx] at this;have:=ak.gF x;omega) (k+((ay (rows.take i):Nat):Int)+1+1) (1+l) j r _ _ _ (by rw[aV];exact hS) (om hp (by rw[hC];rfl)) (by omega)) ?_
    simp -implicitDefEqProofs (disch:=omega) only[go_sem,hb,hS,hp,hC,hG,bJ,hl,eZ,kP]
    refine W3 ?_
    refine bK (i+1) (by omega) (by rw[hK];rfl) rfl (by omega)
   ·simp -implicitDefEqProofs (disch:=omega) only[go_sem,hb]
    have hi:i=xs.length:=by omega
    rw[List.take_of_length_le (by omega)]
    all_goals (first|rfl|exact⟨rfl,rfl⟩)
theorem xY(xs:List ak):∀(k:Int) (l j r:Nat) (p:List (Nat×Nat)) (S:Store) (rs:List (List (List D))),aJ S (l,j)=some (.xf rs)→atR rs r p=some (dB (xs.map ak.enc) k)→0≤k∧k+ay (xs.map ak.enc)≤4611686018427387904→bD Tryz.prog 75 [.c (.xp (l,j) r p),.c (.d (.i .i64 k))] S (fun res S'=>res=.c (.d (.i .i64 (k+ay (xs.map ak.enc))))∧S'=S):=(Dc _) xs (Nat.lt_succ_self _)
theorem P8(x:ak)(k:Int)(l j b:Nat)(S:Store)(rs:List (List (List D)))(hS:aJ S (l,j)=some (.xf rs))(h2:atR rs (b+2) []=some (dB (x.fArgs.map ak.enc) (k)))(hk:0≤k∧k+((ay (x.fArgs.map ak.enc):Nat):Int)≤4611686018427387904):bD Tryz.prog 31 [.agg [.d (.i .i64 x.aH),.d (.s x.fName),.xp (l,j) (b+2) []],.c (.d (.i .i64 k))] S (fun res S'=>res=.c (.d (.i .i64 (k+((ay (x.fArgs.map ak.enc):Nat):Int))))∧S'=S):=by
 refine aB (rs:=[.tmp 4]) Tryz.checked.mixed Tryz.func31 Tryz.ntmps31 rfl rfl rfl rfl rfl ?_
 refine W1 ?_
 refine bG rfl (xY x.fArgs (k) (1+l) j (b+2) [] _ _ (by rw[aV];first|exact hS|exact ht _) (by first|assumption|(simp(disch:=omega) only[ne_eq,vF];assumption)) (by omega)) ?_
 simp -implicitDefEqProofs (disch:=omega) only[go_sem,kP]
 try exact⟨rfl,rfl⟩
end Go.Proofs.YtokkjobjffhfjaaGreatDoor
namespace Go.Proofs.YtokkjobjffhfjaaGreatDoor
open Go Go.Ab
end Go.Proofs.YtokkjobjffhfjaaGreatDoor
namespace Go.Proofs.YtokkjobjffhfjaaGreatDoor
open Go Go.Ab
end Go.Proofs.YtokkjobjffhfjaaGreatDoor
namespace Go.Proofs.YtokkjobjffhfjaaGreatDoor
open Go Go.Ab
theorem xZ:∀n:Nat,(∀xs:List aj,SizeOf.sizeOf xs<n→∀(k:Int) (l j r:Nat) (p:List (Nat×Nat)) (S:Store) (rs:List (List (List D))),aJ S (l,j)=some (.xf rs)→atR rs r p=some (xs.map aj.enc)→0≤k∧k+ay (xs.map aj.enc)≤4611686018427387904→bD Tryz.prog 29 [.c (.xp (l,j) r p),.c (.d (.i .i64 k))] S (fun res S'=>res=.c (.d (.i .i64 (k+ay (xs.map aj.enc))))∧S'=aP S (l,j) (.xf (dU rs r p (dB (xs.map aj.enc) k)))))∧
 (∀xs:List aA,SizeOf.sizeOf xs<n→∀(k:Int) (l j r:Nat) (p:List (Nat×Nat)) (S:Store) (rs:List (List (List D))),aJ S (l,j)=some (.xf rs)→atR rs r p=some (xs.map aA.enc)→0≤k∧k+ay (xs.map aA.enc)≤4611686018427387904→bD Tryz.prog 30 [.c (.xp (l,j) r p),.c (.d (.i .i64 k))] S (fun res S'=>res=.c (.d (.i .i64 (k+ay (xs.map aA.enc))))∧S'=aP S (l,j) (.xf (dU rs r p (dB (xs.map aA.enc) k)))))
 |0=>⟨fun xs h=>by omega,fun xs h=>by omega⟩
 |n+1=>by
  obtain⟨vC,Ak⟩:=xZ n
  refine⟨fun xs hn k l j r p S rs hS hp hk=> ?_,fun xs hn k l j r p S rs hS hp hk=> ?_⟩
  ·have hlen:=sZ (f:=aj.enc) (fun x=>by simp only[aj.aC,ak.aC,encS,encI,List.cons_append,List.nil_append,nM,nL];omega) xs
   obtain⟨rows,hr⟩:∃rows,rows=xs.map aj.enc:=⟨_,rfl⟩
   have hl:rows.length=xs.length:=by rw[hr,List.length_map]
   rw[←hr] at hp hk hlen ⊢
   have ht:∀x:Ab.Obj,aJ (aP S (l,j) x) (l,j)=some x:=fun x=>bT _ _ _ _ hS
   have hA:∀new,atR (dU rs r p new) r p=some new:=fun new=>uo hp
   have hU:∀a b,dU (dU rs r p a) r p b=dU rs r p b:=fun a b=>vE hp
   refine aB (rs:=[.tmp 4]) Tryz.checked.mixed Tryz.func29 Tryz.ntmps29 rfl rfl rfl rfl rfl ?_
   refine W1 ?_
   refine aW (ι:=Nat) Tryz.checked.mixed rfl [0,1,5] (fun i=>[.c (.xp (1+l,j) r p),.c (.d (.i .i64 (k+ay (rows.take i)))),.c (.d (.i .i64 i))])
    (fun i=>[]::aP S (l,j) (.xf (dU rs r p (oq rows k i)))) (fun i=>i≤xs.length) (fun i=>xs.length-i) 0 ?_ ?_ (Nat.zero_le _) ?_
   ·have z0:k+((ay (rows.take 0):Nat):Int)=k:=by simp[ay]
    rw[z0]
    rfl
   ·rw[yI,yH hp,rF _ _ hS]
   intro i hi
   simp -implicitDefEqProofs (disch:=omega) only[go_sem,ht,hA,lD,hl]
   with_reducible refine dP (fun hb=> ?_) (fun hb=> ?_)<;>have h:=hb<;>try simp only[wf_preprocess] at h
   ·have hi:i<xs.length:=by omega
    have hir:i<rows.length:=by omega
    obtain⟨x,hx⟩:∃x,x=xs[i]:=⟨_,rfl⟩
    have e1:rows[i]=[.i .i64 x.aH,.s x.aU,.s x.fName,.i .i64 x.fN,.i .i64 x.fType.aH,.s x.fType.fName,.sl (x.fType.fArgs.map ak.enc),.sl (x.fArgs.map aj.enc),.sl (x.aG.map aA.enc)]:=by
     simp only[hr,List.getElem_map,←hx]
     simp only[aj.aC,ak.aC,encS,encI,List.cons_append,List.nil_append]
    have hm:=nN hir
    have hle:=rR (rows:=rows) (i:=i+1)
    rw[hm,e1] at hle
    rw[e1] at hm
    simp only[nM,nL] at hle hm
    have hK:k+((ay (rows.take (i+1)):Nat):Int)=k+((ay (rows.take i):Nat):Int)+1+1+1+1+1+1+((ay (x.fType.fArgs.map ak.enc):Nat):Int)+((ay (x.fArgs.map aj.enc):Nat):Int)+((ay (x.aG.map aA.enc):Nat):Int):=by rw[hm];omega
    have e2:=DL (k:=k) hir
    rw[e1] at e2
    have hC:∀row o,cellAt (kT rows k i row) i o=row[o]? :=fun row o=>rT hir
    have hG:∀row,(kT rows k i row).getD i []=row:=fun row=>xR hir
    simp -implicitDefEqProofs (disch:=omega) only[go_sem,hb,ht,hA,hU,e2,hC,hG,fJ,dQ,hl,aL,eZ]
    refine W3 ?_
    refine bH (eP (k+((ay (rows.take i):Nat):Int)+1) (by omega)) ?_
    simp -implicitDefEqProofs (disch:=omega) only[go_sem,hb,ht,hA,hU,e2,hC,hG,fJ,dQ,hl,aL,eZ]
    refine W3 ?_
    refine bH (eP (k+((ay (rows.take i):Nat):Int)+1+1) (by omega)) ?_
    simp -implicitDefEqProofs (disch:=omega) only[go_sem,hb,ht,hA,hU,e2,hC,hG,fJ,dQ,hl,aL,eZ]
    refine W3 ?_
    refine bH (eP (k+((ay (rows.take i):Nat):Int)+1+1+1+1+1) (by omega)) ?_
    simp -implicitDefEqProofs (disch:=omega) only[go_sem,hb,ht,hA,hU,e2,hC,hG,fJ,dQ,hl,aL,eZ]
    refine W3 ?_
    refine bG rfl (vG hS hp hir (by rfl) (fun S' rs' g1 g2=>xX x.fType.fArgs (k+((ay (rows.take i):Nat):Int)+1+1+1+1+1+1) (1+l) j r _ S' rs' g1 g2 (by omega))) ?_
    simp -implicitDefEqProofs (disch:=omega) only[go_sem,hb,ht,hA,hU,e2,hC,hG,fJ,dQ,hl,aL,eZ]
    refine W3 ?_
    refine bG rfl (vG hS hp hir (by rfl) (fun S' rs' g1 g2=>vC x.fArgs (by have:=List.sizeOf_lt_of_mem (List.getElem_mem hi);rw[←hx] at this;have:=aj.gF x;omega) (k+((ay (rows.take i):Nat):Int)+1+1+1+1+1+1+((ay (x.fType.fArgs.map ak.enc):Nat):Int)) (1+l) j r _ S' rs' g1 g2 (by omega))) ?_
    simp -implicitDefEqProofs (disch:=omega) only[go_sem,hb,ht,hA,hU,e2,hC,hG,fJ,dQ,hl,aL,eZ]
    refine W3 ?_
    refine bG rfl (vG hS hp hir (by rfl) (fun S' rs' g1 g2=>Ak x.aG (by have:=List.sizeOf_lt_of_mem (List.getElem_mem hi);rw[←hx] at this;have:=aj.nk x;omega) (k+((ay (rows.take i):Nat):Int)+1+1+1+1+1+1+((ay (x.fType.fArgs.map ak.enc):Nat):Int)+((ay (x.fArgs.map aj.enc):Nat):Int)) (1+l) j r _ S' rs' g1 g2 (by omega))) ?_
    simp -implicitDefEqProofs (disch:=omega) only[go_sem,hb,ht,hA,hU,e2,hC,hG,fJ,dQ,hl,aL,eZ]
    refine W3 ?_
    refine bK (i+1) (by omega) (by rw[hK];rfl) ?_ (by omega)
    have h3:=DN (k:=k) hir
    rw[e1] at h3
    simp only[qJ,G8] at h3
    rw[←h3]
    all_goals rfl
   ·simp -implicitDefEqProofs (disch:=omega) only[go_sem,hb]
    have hi:i=xs.length:=by omega
    rw[AB (by omega),List.take_of_length_le (by omega)]
    all_goals (first|rfl|exact⟨rfl,rfl⟩)
  ·have hlen:=sZ (f:=aA.enc) (fun x=>by simp only[aA.aC,aj.aC,ak.aC,encS,encI,List.cons_append,List.nil_append,nM,nL];omega) xs
   obtain⟨rows,hr⟩:∃rows,rows=xs.map aA.enc:=⟨_,rfl⟩
   have hl:rows.length=xs.length:=by rw[hr,List.length_map]
   rw[←hr] at hp hk hlen ⊢
   have ht:∀x:Ab.Obj,aJ (aP S (l,j) x) (l,j)=some x:=fun x=>bT _ _ _ _ hS
   have hA:∀new,atR (dU rs r p new) r p=some new:=fun new=>uo hp
   have hU:∀a b,dU (dU rs r p a) r p b=dU rs r p b:=fun a b=>vE hp
   refine aB (rs:=[.tmp 4]) Tryz.checked.mixed Tryz.func30 Tryz.ntmps30 rfl rfl rfl rfl rfl ?_
   refine W1 ?_
   refine aW (ι:=Nat) Tryz.checked.mixed rfl [0,1,5] (fun i=>[.c (.xp (1+l,j) r p),.c (.d (.i .i64 (k+ay (rows.take i)))),.c (.d (.i .i64 i))])
    (fun i=>[]::aP S (l,j) (.xf (dU rs r p (oq rows k i)))) (fun i=>i≤xs.length) (fun i=>xs.length-i) 0 ?_ ?_ (Nat.zero_le _) ?_
   ·have z0:k+((ay (rows.take 0):Nat):Int)=k:=by simp[ay]
    rw[z0]
    rfl
   ·rw[yI,yH hp,rF _ _ hS]
   intro i hi
   simp -implicitDefEqProofs (disch:=omega) only[go_sem,ht,hA,lD,hl]
   with_reducible refine dP (fun hb=> ?_) (fun hb=> ?_)<;>have h:=hb<;>try simp only[wf_preprocess] at h
   ·have hi:i<xs.length:=by omega
    have hir:i<rows.length:=by omega
    obtain⟨x,hx⟩:∃x,x=xs[i]:=⟨_,rfl⟩
    have e1:rows[i]=[.s x.bC,.sl (x.aS.map encS),.i .i64 x.fBody.aH,.s x.fBody.aU,.s x.fBody.fName,.i .i64 x.fBody.fN,.i .i64 x.fBody.fType.aH,.s x.fBody.fType.fName,.sl (x.fBody.fType.fArgs.map ak.enc),.sl (x.fBody.fArgs.map aj.enc),.sl (x.fBody.aG.map aA.enc)]:=by
     simp only[hr,List.getElem_map,←hx]
     simp only[aA.aC,aj.aC,ak.aC,encS,encI,List.cons_append,List.nil_append]
    have hm:=nN hir
    have hle:=rR (rows:=rows) (i:=i+1)
    rw[hm,e1] at hle
    rw[e1] at hm
    simp only[nM,nL] at hle hm
    have hK:k+((ay (rows.take (i+1)):Nat):Int)=k+((ay (rows.take i):Nat):Int)+1+((ay (x.aS.map encS):Nat):Int)+1+1+1+1+1+1+((ay (x.fBody.fType.fArgs.map ak.enc):Nat):Int)+((ay (x.fBody.fArgs.map aj.enc):Nat):Int)+((ay (x.fBody.aG.map aA.enc):Nat):Int):=by rw[hm];omega
    have e2:=DL (k:=k) hir
    rw[e1] at e2
    have hC:∀row o,cellAt (kT rows k i row) i o=row[o]? :=fun row o=>rT hir
    have hG:∀row,(kT rows k i row).getD i []=row:=fun row=>xR hir
    simp -implicitDefEqProofs (disch:=omega) only[go_sem,hb,ht,hA,hU,e2,hC,hG,fJ,dQ,hl,aL,eZ]
    refine W3 ?_
    refine bH (eP (k+((ay (rows.take i):Nat):Int)) (by omega)) ?_
    simp -implicitDefEqProofs (disch:=omega) only[go_sem,hb,ht,hA,hU,e2,hC,hG,fJ,dQ,hl,aL,eZ]
    refine W3 ?_
    refine bG rfl (vG hS hp hir (by rfl) (fun S' rs' g1 g2=>Jg x.aS (k+((ay (rows.take i):Nat):Int)+1) (1+l) j r _ S' rs' g1 g2 (by omega))) ?_
    simp -implicitDefEqProofs (disch:=omega) only[go_sem,hb,ht,hA,hU,e2,hC,hG,fJ,dQ,hl,aL,eZ]
    refine W3 ?_
    refine bH (eP (k+((ay (rows.take i):Nat):Int)+1+((ay (x.aS.map encS):Nat):Int)+1) (by omega)) ?_
    simp -implicitDefEqProofs (disch:=omega) only[go_sem,hb,ht,hA,hU,e2,hC,hG,fJ,dQ,hl,aL,eZ]
    refine W3 ?_
    refine bH (eP (k+((ay (rows.take i):Nat):Int)+1+((ay (x.aS.map encS):Nat):Int)+1+1) (by omega)) ?_
    simp -implicitDefEqProofs (disch:=omega) only[go_sem,hb,ht,hA,hU,e2,hC,hG,fJ,dQ,hl,aL,eZ]
    refine W3 ?_
    refine bH (eP (k+((ay (rows.take i):Nat):Int)+1+((ay (x.aS.map encS):Nat):Int)+1+1+1+1+1) (by omega)) ?_
    simp -implicitDefEqProofs (disch:=omega) only[go_sem,hb,ht,hA,hU,e2,hC,hG,fJ,dQ,hl,aL,eZ]
    refine W3 ?_
    refine bG rfl (vG hS hp hir (by rfl) (fun S' rs' g1 g2=>xX x.fBody.fType.fArgs (k+((ay (rows.take i):Nat):Int)+1+((ay (x.aS.map encS):Nat):Int)+1+1+1+1+1+1) (1+l) j r _ S' rs' g1 g2 (by omega))) ?_
    simp -implicitDefEqProofs (disch:=omega) only[go_sem,hb,ht,hA,hU,e2,hC,hG,fJ,dQ,hl,aL,eZ]
    refine W3 ?_
    refine bG rfl (vG hS hp hir (by rfl) (fun S' rs' g1 g2=>vC x.fBody.fArgs (by have:=List.sizeOf_lt_of_mem (List.getElem_mem hi);rw[←hx] at this;have:=aA.l5 x;have:=aj.gF x.fBody;omega) (k+((ay (rows.take i):Nat):Int)+1+((ay (x.aS.map encS):Nat):Int)+1+1+1+1+1+1+((ay (x.fBody.fType.fArgs.map ak.enc):Nat):Int)) (1+l) j r _ S' rs' g1 g2 (by omega))) ?_
    simp -implicitDefEqProofs (disch:=omega) only[go_sem,hb,ht,hA,hU,e2,hC,hG,fJ,dQ,hl,aL,eZ]
    refine W3 ?_
    refine bG rfl (vG hS hp hir (by rfl) (fun S' rs' g1 g2=>Ak x.fBody.aG (by have:=List.sizeOf_lt_of_mem (List.getElem_mem hi);rw[←hx] at this;have:=aA.l5 x;have:=aj.nk x.fBody;omega) (k+((ay (rows.take i):Nat):Int)+1+((ay (x.aS.map encS):Nat):Int)+1+1+1+1+1+1+((ay (x.fBody.fType.fArgs.map ak.enc):Nat):Int)+((ay (x.fBody.fArgs.map aj.enc):Nat):Int)) (1+l) j r _ S' rs' g1 g2 (by omega))) ?_
    simp -implicitDefEqProofs (disch:=omega) only[go_sem,hb,ht,hA,hU,e2,hC,hG,fJ,dQ,hl,aL,eZ]
    refine W3 ?_
    refine bK (i+1) (by omega) (by rw[hK];rfl) ?_ (by omega)
    have h3:=DN (k:=k) hir
    rw[e1] at h3
    simp only[qJ,G8] at h3
    rw[←h3]
    all_goals rfl
   ·simp -implicitDefEqProofs (disch:=omega) only[go_sem,hb]
    have hi:i=xs.length:=by omega
    rw[AB (by omega),List.take_of_length_le (by omega)]
    all_goals (first|rfl|exact⟨rfl,rfl⟩)
theorem Ou(xs:List aj):∀(k:Int) (l j r:Nat) (p:List (Nat×Nat)) (S:Store) (rs:List (List (List D))),aJ S (l,j)=some (.xf rs)→atR rs r p=some (xs.map aj.enc)→0≤k∧k+ay (xs.map aj.enc)≤4611686018427387904→bD Tryz.prog 29 [.c (.xp (l,j) r p),.c (.d (.i .i64 k))] S (fun res S'=>res=.c (.d (.i .i64 (k+ay (xs.map aj.enc))))∧S'=aP S (l,j) (.xf (dU rs r p (dB (xs.map aj.enc) k)))):=(xZ _).1 xs (Nat.lt_succ_self _)
theorem P9(xs:List aA):∀(k:Int) (l j r:Nat) (p:List (Nat×Nat)) (S:Store) (rs:List (List (List D))),aJ S (l,j)=some (.xf rs)→atR rs r p=some (xs.map aA.enc)→0≤k∧k+ay (xs.map aA.enc)≤4611686018427387904→bD Tryz.prog 30 [.c (.xp (l,j) r p),.c (.d (.i .i64 k))] S (fun res S'=>res=.c (.d (.i .i64 (k+ay (xs.map aA.enc))))∧S'=aP S (l,j) (.xf (dU rs r p (dB (xs.map aA.enc) k)))):=(xZ _).2 xs (Nat.lt_succ_self _)
theorem Qa(x:aj)(k:Int)(l j b:Nat)(S:Store)(rs:List (List (List D)))(hS:aJ S (l,j)=some (.xf rs))(h6:atR rs (b+6) []=some (x.fType.fArgs.map ak.enc))(h7:atR rs (b+7) []=some (x.fArgs.map aj.enc))(h8:atR rs (b+8) []=some (x.aG.map aA.enc))(hk:0≤k∧k+((ay (x.fType.fArgs.map ak.enc):Nat):Int)+((ay (x.fArgs.map aj.enc):Nat):Int)+((ay (x.aG.map aA.enc):Nat):Int)≤4611686018427387904):bD Tryz.prog 9 [.agg [.d (.i .i64 x.aH),.d (.s x.aU),.d (.s x.fName),.d (.i .i64 x.fN),.d (.i .i64 x.fType.aH),.d (.s x.fType.fName),.xp (l,j) (b+6) [],.xp (l,j) (b+7) [],.xp (l,j) (b+8) []],.c (.d (.i .i64 k))] S (fun res S'=>res=.c (.d (.i .i64 (k+((ay (x.fType.fArgs.map ak.enc):Nat):Int)+((ay (x.fArgs.map aj.enc):Nat):Int)+((ay (x.aG.map aA.enc):Nat):Int))))∧S'=aP S (l,j) (.xf (dU (dU (dU (rs) (b+6) [] (dB (x.fType.fArgs.map ak.enc) (k))) (b+7) [] (dB (x.fArgs.map aj.enc) (k+((ay (x.fType.fArgs.map ak.enc):Nat):Int)))) (b+8) [] (dB (x.aG.map aA.enc) (k+((ay (x.fType.fArgs.map ak.enc):Nat):Int)+((ay (x.fArgs.map aj.enc):Nat):Int)))))):=by
 have ht:∀x:Ab.Obj,aJ (aP S (l,j) x) (l,j)=some x:=fun x=>bT _ _ _ _ hS
 refine aB (rs:=[.tmp 4]) Tryz.checked.mixed Tryz.func9 Tryz.ntmps9 rfl rfl rfl rfl rfl ?_
 refine W1 ?_
 refine bG rfl (P7 x.fType (k) (1+l) j (b+4) _ _ (by rw[aV];first|exact hS|exact ht _) (by first|assumption|(simp(disch:=omega) only[ne_eq,vF];assumption)) (by omega)) ?_
 simp -implicitDefEqProofs (disch:=omega) only[go_sem,aL,bI,Nat.add_assoc,Nat.reduceAdd]
 refine bG rfl (Ou x.fArgs (k+((ay (x.fType.fArgs.map ak.enc):Nat):Int)) (1+l) j (b+7) [] _ _ (by rw[aV];first|exact hS|exact ht _) (by first|assumption|(simp(disch:=omega) only[ne_eq,vF];assumption)) (by omega)) ?_
 simp -implicitDefEqProofs (disch:=omega) only[go_sem,aL,bI]
 refine bG rfl (P9 x.aG (k+((ay (x.fType.fArgs.map ak.enc):Nat):Int)+((ay (x.fArgs.map aj.enc):Nat):Int)) (1+l) j (b+8) [] _ _ (by rw[aV];first|exact hS|exact ht _) (by first|assumption|(simp(disch:=omega) only[ne_eq,vF];assumption)) (by omega)) ?_
 simp -implicitDefEqProofs (disch:=omega) only[go_sem,aL,bI]
 try exact⟨rfl,rfl⟩
theorem x9:∀n:Nat,(∀xs:List aj,SizeOf.sizeOf xs<n→∀(k:Int) (l j r:Nat) (p:List (Nat×Nat)) (S:Store) (rs:List (List (List D))),aJ S (l,j)=some (.xf rs)→atR rs r p=some (dB (xs.map aj.enc) k)→0≤k∧k+ay (xs.map aj.enc)≤4611686018427387904→bD Tryz.prog 32 [.c (.xp (l,j) r p),.c (.d (.i .i64 k))] S (fun res S'=>res=.c (.d (.i .i64 (k+ay (xs.map aj.enc))))∧S'=S))∧
 (∀xs:List aA,SizeOf.sizeOf xs<n→∀(k:Int) (l j r:Nat) (p:List (Nat×Nat)) (S:Store) (rs:List (List (List D))),aJ S (l,j)=some (.xf rs)→atR rs r p=some (dB (xs.map aA.enc) k)→0≤k∧k+ay (xs.map aA.enc)≤4611686018427387904→bD Tryz.prog 33 [.c (.xp (l,j) r p),.c (.d (.i .i64 k))] S (fun res S'=>res=.c (.d (.i .i64 (k+ay (xs.map aA.enc))))∧S'=S))
 |0=>⟨fun xs h=>by omega,fun xs h=>by omega⟩
 |n+1=>by
  obtain⟨vC,Ak⟩:=x9 n
  refine⟨fun xs hn k l j r p S rs hS hp hk=> ?_,fun xs hn k l j r p S rs hS hp hk=> ?_⟩
  ·have hlen:=sZ (f:=aj.enc) (fun x=>by simp only[aj.aC,ak.aC,encS,encI,List.cons_append,List.nil_append,nM,nL];omega) xs
   obtain⟨rows,hr⟩:∃rows,rows=xs.map aj.enc:=⟨_,rfl⟩
   have hl:rows.length=xs.length:=by rw[hr,List.length_map]
   rw[←hr] at hp hk hlen ⊢
   refine aB (rs:=[.tmp 4]) Tryz.checked.mixed Tryz.func32 Tryz.ntmps32 rfl rfl rfl rfl rfl ?_
   refine W1 ?_
   refine aW (ι:=Nat) Tryz.checked.mixed rfl [0,1,5] (fun i=>[.c (.xp (1+l,j) r p),.c (.d (.i .i64 (k+ay (rows.take i)))),.c (.d (.i .i64 i))])
    (fun i=>[]::S) (fun i=>i≤xs.length) (fun i=>xs.length-i) 0 ?_ rfl (Nat.zero_le _) ?_
   ·have z0:k+((ay (rows.take 0):Nat):Int)=k:=by simp[ay]
    rw[z0]
    rfl
   intro i hi
   simp -implicitDefEqProofs (disch:=omega) only[go_sem,hS,hp,bJ,hl]
   with_reducible refine dP (fun hb=> ?_) (fun hb=> ?_)<;>have h:=hb<;>try simp only[wf_preprocess] at h
   ·have hi:i<xs.length:=by omega
    have hir:i<rows.length:=by omega
    obtain⟨x,hx⟩:∃x,x=xs[i]:=⟨_,rfl⟩
    have e1:rows[i]=[.i .i64 x.aH,.s x.aU,.s x.fName,.i .i64 x.fN,.i .i64 x.fType.aH,.s x.fType.fName,.sl (x.fType.fArgs.map ak.enc),.sl (x.fArgs.map aj.enc),.sl (x.aG.map aA.enc)]:=by
     simp only[hr,List.getElem_map,←hx]
     simp only[aj.aC,ak.aC,encS,encI,List.cons_append,List.nil_append]
    have hm:=nN hir
    have hle:=rR (rows:=rows) (i:=i+1)
    rw[hm,e1] at hle
    rw[e1] at hm
    simp only[nM,nL] at hle hm
    have hK:k+((ay (rows.take (i+1)):Nat):Int)=k+((ay (rows.take i):Nat):Int)+1+1+1+1+1+1+((ay (x.fType.fArgs.map ak.enc):Nat):Int)+((ay (x.fArgs.map aj.enc):Nat):Int)+((ay (x.aG.map aA.enc):Nat):Int):=by rw[hm];omega
    have e2:qJ rows[i] (k+((ay (rows.take i):Nat):Int))=[.i .i64 (k+((ay (rows.take i):Nat):Int)),.s (jW (k+((ay (rows.take i):Nat):Int)+1)),.s (jW (k+((ay (rows.take i):Nat):Int)+1+1)),.i .i64 (k+((ay (rows.take i):Nat):Int)+1+1+1),.i .i64 (k+((ay (rows.take i):Nat):Int)+1+1+1+1),.s (jW (k+((ay (rows.take i):Nat):Int)+1+1+1+1+1)),.sl (dB (x.fType.fArgs.map ak.enc) (k+((ay (rows.take i):Nat):Int)+1+1+1+1+1+1)),.sl (dB (x.fArgs.map aj.enc) (k+((ay (rows.take i):Nat):Int)+1+1+1+1+1+1+((ay (x.fType.fArgs.map ak.enc):Nat):Int))),.sl (dB (x.aG.map aA.enc) (k+((ay (rows.take i):Nat):Int)+1+1+1+1+1+1+((ay (x.fType.fArgs.map ak.enc):Nat):Int)+((ay (x.fArgs.map aj.enc):Nat):Int)))]:=by
     rw[e1]
     simp only[qJ,G8]
     all_goals rfl
    have hC:∀o,cellAt (dB rows k) i o=([.i .i64 (k+((ay (rows.take i):Nat):Int)),.s (jW (k+((ay (rows.take i):Nat):Int)+1)),.s (jW (k+((ay (rows.take i):Nat):Int)+1+1)),.i .i64 (k+((ay (rows.take i):Nat):Int)+1+1+1),.i .i64 (k+((ay (rows.take i):Nat):Int)+1+1+1+1),.s (jW (k+((ay (rows.take i):Nat):Int)+1+1+1+1+1)),.sl (dB (x.fType.fArgs.map ak.enc) (k+((ay (rows.take i):Nat):Int)+1+1+1+1+1+1)),.sl (dB (x.fArgs.map aj.enc) (k+((ay (rows.take i):Nat):Int)+1+1+1+1+1+1+((ay (x.fType.fArgs.map ak.enc):Nat):Int))),.sl (dB (x.aG.map aA.enc) (k+((ay (rows.take i):Nat):Int)+1+1+1+1+1+1+((ay (x.fType.fArgs.map ak.enc):Nat):Int)+((ay (x.fArgs.map aj.enc):Nat):Int)))]:List D)[o]? :=fun o=>by
     have h1:(dB rows k)[i]? =some (qJ rows[i] (k+((ay (rows.take i):Nat):Int))):=by
      have h2:=ou (k:=k) hir
      have h3:i<(dB rows k).length:=by rw[bJ];exact hir
      rw[List.getD_eq_getElem?_getD,List.getElem?_eq_getElem h3,Option.getD_some] at h2
      rw[List.getElem?_eq_getElem h3,h2]
     unfold cellAt
     rw[h1,Option.bind_some,e2]
    have hG:=ou (k:=k) hir
    rw[e2] at hG
    simp -implicitDefEqProofs (disch:=omega) only[go_sem,hb,hS,hp,hC,hG,bJ,hl,eZ]
    refine W3 ?_
    refine bH (eP (k+((ay (rows.take i):Nat):Int)+1) (by omega)) ?_
    simp -implicitDefEqProofs (disch:=omega) only[go_sem,hb,hS,hp,hC,hG,bJ,hl,eZ]
    refine W3 ?_
    refine bH (eP (k+((ay (rows.take i):Nat):Int)+1+1) (by omega)) ?_
    simp -implicitDefEqProofs (disch:=omega) only[go_sem,hb,hS,hp,hC,hG,bJ,hl,eZ]
    refine W3 ?_
    refine bH (eP (k+((ay (rows.take i):Nat):Int)+1+1+1+1+1) (by omega)) ?_
    simp -implicitDefEqProofs (disch:=omega) only[go_sem,hb,hS,hp,hC,hG,bJ,hl,eZ]
    refine W3 ?_
    refine bG rfl (xY x.fType.fArgs (k+((ay (rows.take i):Nat):Int)+1+1+1+1+1+1) (1+l) j r _ _ _ (by rw[aV];exact hS) (om hp (by rw[hC];rfl)) (by omega)) ?_
    simp -implicitDefEqProofs (disch:=omega) only[go_sem,hb,hS,hp,hC,hG,bJ,hl,eZ,kP]
    refine W3 ?_
    refine bG rfl (vC x.fArgs (by have:=List.sizeOf_lt_of_mem (List.getElem_mem hi);rw[←hx] at this;have:=aj.gF x;omega) (k+((ay (rows.take i):Nat):Int)+1+1+1+1+1+1+((ay (x.fType.fArgs.map ak.enc):Nat):Int)) (1+l) j r _ _ _ (by rw[aV];exact hS) (om hp (by rw[hC];rfl)) (by omega)) ?_
    simp -implicitDefEqProofs (disch:=omega) only[go_sem,hb,hS,hp,hC,hG,bJ,hl,eZ,kP]
    refine W3 ?_
    refine bG rfl (Ak x.aG (by have:=List.sizeOf_lt_of_mem (List.getElem_mem hi);rw[←hx] at this;have:=aj.nk x;omega) (k+((ay (rows.take i):Nat):Int)+1+1+1+1+1+1+((ay (x.fType.fArgs.map ak.enc):Nat):Int)+((ay (x.fArgs.map aj.enc):Nat):Int)) (1+l) j r _ _ _ (by rw[aV];exact hS) (om hp (by rw[hC];rfl)) (by omega)) ?_
    simp -implicitDefEqProofs (disch:=omega) only[go_sem,hb,hS,hp,hC,hG,bJ,hl,eZ,kP]
    refine W3 ?_
    refine bK (i+1) (by omega) (by rw[hK];rfl) rfl (by omega)
   ·simp -implicitDefEqProofs (disch:=omega) only[go_sem,hb]
    have hi:i=xs.length:=by omega
    rw[List.take_of_length_le (by omega)]
    all_goals (first|rfl|exact⟨rfl,rfl⟩)
  ·have hlen:=sZ (f:=aA.enc) (fun x=>by simp only[aA.aC,aj.aC,ak.aC,encS,encI,List.cons_append,List.nil_append,nM,nL];omega) xs
   obtain⟨rows,hr⟩:∃rows,rows=xs.map aA.enc:=⟨_,rfl⟩
   have hl:rows.length=xs.length:=by rw[hr,List.length_map]
   rw[←hr] at hp hk hlen ⊢
   refine aB (rs:=[.tmp 4]) Tryz.checked.mixed Tryz.func33 Tryz.ntmps33 rfl rfl rfl rfl rfl ?_
   refine W1 ?_
   refine aW (ι:=Nat) Tryz.checked.mixed rfl [0,1,5] (fun i=>[.c (.xp (1+l,j) r p),.c (.d (.i .i64 (k+ay (rows.take i)))),.c (.d (.i .i64 i))])
    (fun i=>[]::S) (fun i=>i≤xs.length) (fun i=>xs.length-i) 0 ?_ rfl (Nat.zero_le _) ?_
   ·have z0:k+((ay (rows.take 0):Nat):Int)=k:=by simp[ay]
    rw[z0]
    rfl
   intro i hi
   simp -implicitDefEqProofs (disch:=omega) only[go_sem,hS,hp,bJ,hl]
   with_reducible refine dP (fun hb=> ?_) (fun hb=> ?_)<;>have h:=hb<;>try simp only[wf_preprocess] at h
   ·have hi:i<xs.length:=by omega
    have hir:i<rows.length:=by omega
    obtain⟨x,hx⟩:∃x,x=xs[i]:=⟨_,rfl⟩
    have e1:rows[i]=[.s x.bC,.sl (x.aS.map encS),.i .i64 x.fBody.aH,.s x.fBody.aU,.s x.fBody.fName,.i .i64 x.fBody.fN,.i .i64 x.fBody.fType.aH,.s x.fBody.fType.fName,.sl (x.fBody.fType.fArgs.map ak.enc),.sl (x.fBody.fArgs.map aj.enc),.sl (x.fBody.aG.map aA.enc)]:=by
     simp only[hr,List.getElem_map,←hx]
     simp only[aA.aC,aj.aC,ak.aC,encS,encI,List.cons_append,List.nil_append]
    have hm:=nN hir
    have hle:=rR (rows:=rows) (i:=i+1)
    rw[hm,e1] at hle
    rw[e1] at hm
    simp only[nM,nL] at hle hm
    have hK:k+((ay (rows.take (i+1)):Nat):Int)=k+((ay (rows.take i):Nat):Int)+1+((ay (x.aS.map encS):Nat):Int)+1+1+1+1+1+1+((ay (x.fBody.fType.fArgs.map ak.enc):Nat):Int)+((ay (x.fBody.fArgs.map aj.enc):Nat):Int)+((ay (x.fBody.aG.map aA.enc):Nat):Int):=by rw[hm];omega
    have e2:qJ rows[i] (k+((ay (rows.take i):Nat):Int))=[.s (jW (k+((ay (rows.take i):Nat):Int))),.sl (dB (x.aS.map encS) (k+((ay (rows.take i):Nat):Int)+1)),.i .i64 (k+((ay (rows.take i):Nat):Int)+1+((ay (x.aS.map encS):Nat):Int)),.s (jW (k+((ay (rows.take i):Nat):Int)+1+((ay (x.aS.map encS):Nat):Int)+1)),.s (jW (k+((ay (rows.take i):Nat):Int)+1+((ay (x.aS.map encS):Nat):Int)+1+1)),.i .i64 (k+((ay (rows.take i):Nat):Int)+1+((ay (x.aS.map encS):Nat):Int)+1+1+1),.i .i64 (k+((ay (rows.take i):Nat):Int)+1+((ay (x.aS.map encS):Nat):Int)+1+1+1+1),.s (jW (k+((ay (rows.take i):Nat):Int)+1+((ay (x.aS.map encS):Nat):Int)+1+1+1+1+1)),.sl (dB (x.fBody.fType.fArgs.map ak.enc) (k+((ay (rows.take i):Nat):Int)+1+((ay (x.aS.map encS):Nat):Int)+1+1+1+1+1+1)),.sl (dB (x.fBody.fArgs.map aj.enc) (k+((ay (rows.take i):Nat):Int)+1+((ay (x.aS.map encS):Nat):Int)+1+1+1+1+1+1+((ay (x.fBody.fType.fArgs.map ak.enc):Nat):Int))),.sl (dB (x.fBody.aG.map aA.enc) (k+((ay (rows.take i):Nat):Int)+1+((ay (x.aS.map encS):Nat):Int)+1+1+1+1+1+1+((ay (x.fBody.fType.fArgs.map ak.enc):Nat):Int)+((ay (x.fBody.fArgs.map aj.enc):Nat):Int)))]:=by
     rw[e1]
     simp only[qJ,G8]
     all_goals rfl
    have hC:∀o,cellAt (dB rows k) i o=([.s (jW (k+((ay (rows.take i):Nat):Int))),.sl (dB (x.aS.map encS) (k+((ay (rows.take i):Nat):Int)+1)),.i .i64 (k+((ay (rows.take i):Nat):Int)+1+((ay (x.aS.map encS):Nat):Int)),.s (jW (k+((ay (rows.take i):Nat):Int)+1+((ay (x.aS.map encS):Nat):Int)+1)),.s (jW (k+((ay (rows.take i):Nat):Int)+1+((ay (x.aS.map encS):Nat):Int)+1+1)),.i .i64 (k+((ay (rows.take i):Nat):Int)+1+((ay (x.aS.map encS):Nat):Int)+1+1+1),.i .i64 (k+((ay (rows.take i):Nat):Int)+1+((ay (x.aS.map encS):Nat):Int)+1+1+1+1),.s (jW (k+((ay (rows.take i):Nat):Int)+1+((ay (x.aS.map encS):Nat):Int)+1+1+1+1+1)),.sl (dB (x.fBody.fType.fArgs.map ak.enc) (k+((ay (rows.take i):Nat):Int)+1+((ay (x.aS.map encS):Nat):Int)+1+1+1+1+1+1)),.sl (dB (x.fBody.fArgs.map aj.enc) (k+((ay (rows.take i):Nat):Int)+1+((ay (x.aS.map encS):Nat):Int)+1+1+1+1+1+1+((ay (x.fBody.fType.fArgs.map ak.enc):Nat):Int))),.sl (dB (x.fBody.aG.map aA.enc) (k+((ay (rows.take i):Nat):Int)+1+((ay (x.aS.map encS):Nat):Int)+1+1+1+1+1+1+((ay (x.fBody.fType.fArgs.map ak.enc):Nat):Int)+((ay (x.fBody.fArgs.map aj.enc):Nat):Int)))]:List D)[o]? :=fun o=>by
     have h1:(dB rows k)[i]? =some (qJ rows[i] (k+((ay (rows.take i):Nat):Int))):=by
      have h2:=ou (k:=k) hir
      have h3:i<(dB rows k).length:=by rw[bJ];exact hir
      rw[List.getD_eq_getElem?_getD,List.getElem?_eq_getElem h3,Option.getD_some] at h2
      rw[List.getElem?_eq_getElem h3,h2]
     unfold cellAt
     rw[h1,Option.bind_some,e2]
    have hG:=ou (k:=k) hir
    rw[e2] at hG
    simp -implicitDefEqProofs (disch:=omega) only[go_sem,hb,hS,hp,hC,hG,bJ,hl,eZ]
    refine W3 ?_
    refine bH (eP (k+((ay (rows.take i):Nat):Int)) (by omega)) ?_
    simp -implicitDefEqProofs (disch:=omega) only[go_sem,hb,hS,hp,hC,hG,bJ,hl,eZ]
    refine W3 ?_
    refine bG rfl (Jh x.aS (k+((ay (rows.take i):Nat):Int)+1) (1+l) j r _ _ _ (by rw[aV];exact hS) (om hp (by rw[hC];rfl)) (by omega)) ?_
    simp -implicitDefEqProofs (disch:=omega) only[go_sem,hb,hS,hp,hC,hG,bJ,hl,eZ,kP]
    refine W3 ?_
    refine bH (eP (k+((ay (rows.take i):Nat):Int)+1+((ay (x.aS.map encS):Nat):Int)+1) (by omega)) ?_
    simp -implicitDefEqProofs (disch:=omega) only[go_sem,hb,hS,hp,hC,hG,bJ,hl,eZ]
    refine W3 ?_
    refine bH (eP (k+((ay (rows.take i):Nat):Int)+1+((ay (x.aS.map encS):Nat):Int)+1+1) (by omega)) ?_
    simp -implicitDefEqProofs (disch:=omega) only[go_sem,hb,hS,hp,hC,hG,bJ,hl,eZ]
    refine W3 ?_
    refine bH (eP (k+((ay (rows.take i):Nat):Int)+1+((ay (x.aS.map encS):Nat):Int)+1+1+1+1+1) (by omega)) ?_
    simp -implicitDefEqProofs (disch:=omega) only[go_sem,hb,hS,hp,hC,hG,bJ,hl,eZ]
    refine W3 ?_
    refine bG rfl (xY x.fBody.fType.fArgs (k+((ay (rows.take i):Nat):Int)+1+((ay (x.aS.map encS):Nat):Int)+1+1+1+1+1+1) (1+l) j r _ _ _ (by rw[aV];exact hS) (om hp (by rw[hC];rfl)) (by omega)) ?_
    simp -implicitDefEqProofs (disch:=omega) only[go_sem,hb,hS,hp,hC,hG,bJ,hl,eZ,kP]
    refine W3 ?_
    refine bG rfl (vC x.fBody.fArgs (by have:=List.sizeOf_lt_of_mem (List.getElem_mem hi);rw[←hx] at this;have:=aA.l5 x;have:=aj.gF x.fBody;omega) (k+((ay (rows.take i):Nat):Int)+1+((ay (x.aS.map encS):Nat):Int)+1+1+1+1+1+1+((ay (x.fBody.fType.fArgs.map ak.enc):Nat):Int)) (1+l) j r _ _ _ (by rw[aV];exact hS) (om hp (by rw[hC];rfl)) (by omega)) ?_
    simp -implicitDefEqProofs (disch:=omega) only[go_sem,hb,hS,hp,hC,hG,bJ,hl,eZ,kP]
    refine W3 ?_
    refine bG rfl (Ak x.fBody.aG (by have:=List.sizeOf_lt_of_mem (List.getElem_mem hi);rw[←hx] at this;have:=aA.l5 x;have:=aj.nk x.fBody;omega) (k+((ay (rows.take i):Nat):Int)+1+((ay (x.aS.map encS):Nat):Int)+1+1+1+1+1+1+((ay (x.fBody.fType.fArgs.map ak.enc):Nat):Int)+((ay (x.fBody.fArgs.map aj.enc):Nat):Int)) (1+l) j r _ _ _ (by rw[aV];exact hS) (om hp (by rw[hC];rfl)) (by omega)) ?_
    simp -implicitDefEqProofs (disch:=omega) only[go_sem,hb,hS,hp,hC,hG,bJ,hl,eZ,kP]
    refine W3 ?_
    refine bK (i+1) (by omega) (by rw[hK];rfl) rfl (by omega)
   ·simp -implicitDefEqProofs (disch:=omega) only[go_sem,hb]
    have hi:i=xs.length:=by omega
    rw[List.take_of_length_le (by omega)]
    all_goals (first|rfl|exact⟨rfl,rfl⟩)
theorem Ov(xs:List aj):∀(k:Int) (l j r:Nat) (p:List (Nat×Nat)) (S:Store) (rs:List (List (List D))),aJ S (l,j)=some (.xf rs)→atR rs r p=some (dB (xs.map aj.enc) k)→0≤k∧k+ay (xs.map aj.enc)≤4611686018427387904→bD Tryz.prog 32 [.c (.xp (l,j) r p),.c (.d (.i .i64 k))] S (fun res S'=>res=.c (.d (.i .i64 (k+ay (xs.map aj.enc))))∧S'=S):=(x9 _).1 xs (Nat.lt_succ_self _)
theorem Qb(xs:List aA):∀(k:Int) (l j r:Nat) (p:List (Nat×Nat)) (S:Store) (rs:List (List (List D))),aJ S (l,j)=some (.xf rs)→atR rs r p=some (dB (xs.map aA.enc) k)→0≤k∧k+ay (xs.map aA.enc)≤4611686018427387904→bD Tryz.prog 33 [.c (.xp (l,j) r p),.c (.d (.i .i64 k))] S (fun res S'=>res=.c (.d (.i .i64 (k+ay (xs.map aA.enc))))∧S'=S):=(x9 _).2 xs (Nat.lt_succ_self _)
theorem Ev(x:aj)(k:Int)(l j b:Nat)(S:Store)(rs:List (List (List D)))(hS:aJ S (l,j)=some (.xf rs))(h6:atR rs (b+6) []=some (dB (x.fType.fArgs.map ak.enc) (k)))(h7:atR rs (b+7) []=some (dB (x.fArgs.map aj.enc) (k+((ay (x.fType.fArgs.map ak.enc):Nat):Int))))(h8:atR rs (b+8) []=some (dB (x.aG.map aA.enc) (k+((ay (x.fType.fArgs.map ak.enc):Nat):Int)+((ay (x.fArgs.map aj.enc):Nat):Int))))(hk:0≤k∧k+((ay (x.fType.fArgs.map ak.enc):Nat):Int)+((ay (x.fArgs.map aj.enc):Nat):Int)+((ay (x.aG.map aA.enc):Nat):Int)≤4611686018427387904):bD Tryz.prog 10 [.agg [.d (.i .i64 x.aH),.d (.s x.aU),.d (.s x.fName),.d (.i .i64 x.fN),.d (.i .i64 x.fType.aH),.d (.s x.fType.fName),.xp (l,j) (b+6) [],.xp (l,j) (b+7) [],.xp (l,j) (b+8) []],.c (.d (.i .i64 k))] S (fun res S'=>res=.c (.d (.i .i64 (k+((ay (x.fType.fArgs.map ak.enc):Nat):Int)+((ay (x.fArgs.map aj.enc):Nat):Int)+((ay (x.aG.map aA.enc):Nat):Int))))∧S'=S):=by
 refine aB (rs:=[.tmp 4]) Tryz.checked.mixed Tryz.func10 Tryz.ntmps10 rfl rfl rfl rfl rfl ?_
 refine W1 ?_
 refine bG rfl (P8 x.fType (k) (1+l) j (b+4) _ _ (by rw[aV];first|exact hS|exact ht _) (by first|assumption|(simp(disch:=omega) only[ne_eq,vF];assumption)) (by omega)) ?_
 simp -implicitDefEqProofs (disch:=omega) only[go_sem,kP]
 refine bG rfl (Ov x.fArgs (k+((ay (x.fType.fArgs.map ak.enc):Nat):Int)) (1+l) j (b+7) [] _ _ (by rw[aV];first|exact hS|exact ht _) (by first|assumption|(simp(disch:=omega) only[ne_eq,vF];assumption)) (by omega)) ?_
 simp -implicitDefEqProofs (disch:=omega) only[go_sem,kP]
 refine bG rfl (Qb x.aG (k+((ay (x.fType.fArgs.map ak.enc):Nat):Int)+((ay (x.fArgs.map aj.enc):Nat):Int)) (1+l) j (b+8) [] _ _ (by rw[aV];first|exact hS|exact ht _) (by first|assumption|(simp(disch:=omega) only[ne_eq,vF];assumption)) (by omega)) ?_
 simp -implicitDefEqProofs (disch:=omega) only[go_sem,kP]
 try exact⟨rfl,rfl⟩
end Go.Proofs.YtokkjobjffhfjaaGreatDoor
namespace Go.Proofs.YtokkjobjffhfjaaGreatDoor.fnExactParseExpr
open Go Go.Ab
set_option maxHeartbeats 4000000 in
theorem law(x0:List UInt8)(f0:vR [D.s x0]):bD Tryz.prog 3 [.c (.d (.s x0))] [] (fun r _=>r=.c (.d (.b true))):=by
 refine aB (rs:=[.tmp 2]) Tryz.checked.mixed Tryz.func3 Tryz.ntmps3 rfl rfl rfl rfl rfl ?_
 simp -implicitDefEqProofs (disch:=omega) only[go_sem]
 with_reducible refine dP (fun hb=> ?_) (fun hb=> ?_)<;>have h:=hb<;>(try simp only[wf_preprocess] at h)<;>simp -implicitDefEqProofs (disch:=omega) only[go_sem,hb]<;>(repeat(with_reducible refine And.intro ?_ ?_;focus first|omega|rfl|assumption|exact⟨_,rfl,rfl⟩|(simp;omega)|(simp;done)))
 have h0:x0.length≤1048576:=by omega
 have c1:=KU x0 h0
 have c2:=fun n=>Ij x0 n h0
 have hd:(vW x0).sz≤1048576:=ace x0
 obtain⟨X,hX⟩:∃X,X=vW x0:=⟨_,rfl⟩
 obtain⟨B,hB⟩:∃B,B=uz x0:=⟨_,rfl⟩
 rw[←hX] at hd
 simp only[←hX,←hB] at c1 c2
 have hmd:=NG X.enc X.dY.2
 rw[aj.bA,aj.gJ] at hmd
 simp only[aj.aC,ak.aC,List.cons_append,List.nil_append,nM,nL] at hmd
 have c3:aD Tryz.prog 7 [.c (.d (.s x0))] (.dw [(true,X.enc.map .d),(false,[.d (.b B)])]):=
  aD.less (c2 0) (WB fun w σ S β vs h=>Wu h)
 simp only[aj.aC,ak.aC,List.cons_append,List.nil_append,List.map_cons,List.map_nil] at c1 c3
 refine bH c1 ?_
 simp -implicitDefEqProofs (disch:=omega) only[go_sem]
 refine bG rfl (bD.own (mk:=fun cs=>.dw ((true,cs)::[C.d (.b B)].map fun x=>(false,[x]))) (r:=X.enc) (Tz [C.d (.b B)] rfl) X.dY.1 (fun n=>c2 n)) ?_
 simp -implicitDefEqProofs (disch:=omega) only[go_sem,aj.aC,ak.aC,List.cons_append,List.nil_append,List.map_cons,List.map_nil,Cy,Tv,DF]
 refine bG rfl (bD.lend (k:=(0,1)) rfl (TA rfl) (JU X X (by omega))) ?_
 simp -implicitDefEqProofs (disch:=omega) only[go_sem,cK rfl,Bool.not_true]
 refine bG rfl (Qa X 1 0 1 0 _ _ rfl rfl rfl rfl ⟨by omega,by omega⟩) ?_
 simp -implicitDefEqProofs (disch:=omega) only[go_sem]
 refine bG rfl (Ev X 1 0 1 0 _ _ rfl rfl rfl rfl ⟨by omega,by omega⟩) ?_
 simp -implicitDefEqProofs (disch:=omega) only[go_sem,kP,Bool.not_true]
 refine bH c3 ?_
 simp -implicitDefEqProofs (disch:=omega) only[go_sem]
 refine bH (JU X X (by omega)) ?_
 simp -implicitDefEqProofs (disch:=omega) only[go_sem,cK rfl,Bool.not_true]
 refine bG rfl (Ev X 1 0 1 0 _ _ rfl rfl rfl rfl ⟨by omega,by omega⟩) ?_
 simp -implicitDefEqProofs (disch:=omega) only[go_sem,kP,Bool.not_true]
end Go.Proofs.YtokkjobjffhfjaaGreatDoor.fnExactParseExpr
namespace Go.Ab
open Go
theorem KV{H:Type}{enc:TypeId×Value→H}{P:Program}{w:World}{base:Nat}{sp:Nat→Bool}{held:Bool}{fuel n:Nat}{t e:TypeId}{k:IntKind}{cs:List Value}{ns:List Int}{p:List MemPlace}
 (ht:P.underlying t=some (.array n e)) (he:P.underlying e=some (.int k)) (ce:P.cellsOf e=1) (ct:P.cellsOf t=n)
 (h:DataW.trod enc P w base sp held fuel t cs=some (.agg (ns.map fun z=>.lit (.int k z)),p)):cs=ns.map (Value.int k ·):=by
 obtain⟨xs,m,_,ex,hlen,hl,hel⟩:=DataW.trod_array ht h
 rw[ct] at hlen
 have e3:=DataW.agg.inj (Prod.mk.inj ex).1
 have hns:ns.length=n:=by have:=congrArg List.length e3;simpa [hl] using this
 refine List.ext_getElem (by rw[hlen,List.length_map,hns]) fun i h1 h2=> ?_
 have k0:=hel i (by omega)
 rw[ce,Nat.mul_one] at k0
 have hd:(cs.drop i).take 1=[cs[i]]:=by
  rw[List.drop_eq_getElem_cons h1];rfl
 rw[hd,List.getElem?_eq_getElem (by omega)] at k0
 obtain⟨z,a,b,_⟩:=DataW.trod_int he k0
 have e4:(ns.map fun z=>(DataW.lit (Lit.int k z):DataW H))[i]'(by rw[List.length_map];omega)=(xs.map (·.1))[i]'(by rw[List.length_map];omega):=by simp only[e3]
 rw[List.getElem_map,List.getElem_map,b] at e4
 simp only[DataW.lit.injEq,Lit.int.injEq,true_and] at e4
 rw[List.getElem_map,e4]
 simpa using a
theorem Df{P:Program}{w:World}{n:String}{g:Nat}{cs:Array Value}(hg:P.globalNamed n=some g)(h:w.var? P n=some cs):∃t fz,w.heap[g]? =some (.cells cs t fz):=by
 unfold World.var? at h
 rw[hg] at h
 simp only[Option.bind_some] at h
 split at h
 ·rename_i c t fz hh
  cases h
  exact⟨t,fz,hh⟩
 ·cases h
end Go.Ab
namespace Go.Proofs.YtokkjobjffhfjaaGreatDoor
open Go Go.Ab Go.ChangeShapes Go.RowKit
theorem gES:Tryz.prog.globalNamed "strconv.ErrSyntax" =some 3:=by kernel_rfl
theorem acf:(Tryz.prog.globals[3]?).map (·.type)=some 239:=by kernel_rfl
theorem gER:Tryz.prog.globalNamed "strconv.ErrRange" =some 4:=by kernel_rfl
theorem acg:(Tryz.prog.globals[4]?).map (·.type)=some 239:=by kernel_rfl
theorem cellsE:Tryz.prog.cellsOf 314=1:=by kernel_rfl
theorem cellsS:Tryz.prog.cellsOf 9=1:=by kernel_rfl
theorem aaH: "*" ++ "errors.errorString" = "*errors.errorString" :=by decide
theorem adS(u:TypeId)(h:Tryz.prog.typeName? 3 u=some "*errors.errorString"):u=312:=
 typeName_ptr_named (nm:= "errors.errorString") (by rw[aaH];kernel_rfl) (by kernel_rfl) (by decide) u (by rw[aaH];exact h)
theorem Ow{W:World}{r:List (String×DataW Unit)}(hr:(r.all fun x=>x.2.handleName?.isNone)=true)
 (h0:laidMetH Tryz.prog (("math/bits.deBruijn32tab",Rows.laid_math_bits_deBruijn32tab)::("math/bits.deBruijn64tab",Rows.laid_math_bits_deBruijn64tab)::("internal/strconv.uint64pow10",Rows.laid_internal_strconv_uint64pow10)::("strconv.ErrRange",Rows.laid_strconv_ErrRange)::("strconv.ErrSyntax",Rows.laid_strconv_ErrSyntax)::r) W):iN W (ig W):=by
 rw[MakeChecks.laidMetH_plain _ _ _ (by
  rw[List.all_cons,List.all_cons,List.all_cons,List.all_cons,List.all_cons,hr];kernel_rfl)] at h0
 have hR:=h0.tail.tail.tail
 have hS:=hR.tail
 obtain⟨a1,s1,hv1,_,_,_⟩:=laid_sentinel hR gER acg Tryz.underlying239 adS Tryz.underlying312 Tryz.underlying314 rfl rfl Tryz.underlying9 cellsE cellsS
 obtain⟨a2,s2,hv2,_,_,_⟩:=laid_sentinel hS gES acf Tryz.underlying239 adS Tryz.underlying312 Tryz.underlying314 rfl rfl Tryz.underlying9 cellsE cellsS
 obtain⟨t1,zh,AZ⟩:=Df gER hv1
 obtain⟨t2,fz2,qC⟩:=Df gES hv2
 obtain⟨ps,⟨_,_,_,_,_,_,_,_,_,_,⟨_,_,_,_,_,_,_,_,_,_,⟨g,t,cs,fuel,p,q,hg,ht,hv,hd,_,_⟩,_⟩,_⟩,_,_⟩:=h0
 have hn:Tryz.prog.globalNamed "internal/strconv.uint64pow10" =some 5:=by kernel_rfl
 obtain rfl:=Option.some.inj (hn.symm.trans hg)
 obtain rfl:=Option.some.inj ((show(Tryz.prog.globals[5]?).map (·.type)=some 303 by kernel_rfl).symm.trans ht)
 have hl:(Rows.laid_internal_strconv_uint64pow10:DataW Unit)=.agg (((List.range 20).map fun i=>((10^i:Nat):Int)).map fun z=>.lit (.int .u64 z)):=by kernel_rfl
 rw[hl] at hd
 have e:=KV Tryz.underlying303 Tryz.underlying282 (by kernel_rfl) (by kernel_rfl) hd
 obtain⟨t',fz,hh⟩:=Df hg hv
 intro g' p' hm
 have fast:∀{b:Nat} {c:Array Value} {t:TypeId} {fz:Nat×Nat},W.heap[b]? =some (.cells c t fz)→c.size≤ig W b:=fun {b c t fz} hb=>by
  unfold ig;rw[hb];exact Nat.le_refl _
 rcases List.mem_cons.1 hm with hm|hm
 ·cases hm
  refine⟨cs,t',fz,hh,?_,fast hh⟩
  show cs.toList=_
  rw[e,List.map_map];rfl
 rcases List.mem_cons.1 hm with hm|hm
 ·cases hm
  exact⟨_,t1,zh,AZ,⟨_,_,rfl⟩,fast AZ⟩
 ·have hm':=List.eq_of_mem_singleton hm
  cases hm'
  exact⟨_,t2,fz2,qC,⟨_,_,rfl⟩,fast qC⟩
end Go.Proofs.YtokkjobjffhfjaaGreatDoor
namespace Go.Ab
theorem adT{P:Program}{n:Nat}{t:TypeId}{ds:List D}(h:WT P n t ds):∃m,n=m+1:=by
 cases n with
 |zero=>exact h.elim
 |succ m=>exact⟨m,rfl⟩
theorem Xu{P:Program}{n:Nat}{t:TypeId}{ds:List D}(ht:P.underlying t=some .string)(h:WT P n t ds):∃l,ds=[.s l]:=by
 obtain⟨m,rfl⟩:=adT h
 simp only[WT,ht] at h;exact⟨h.choose,h.choose_spec.1⟩
theorem QX{P:Program}{W:TypeId→List D→Prop}(hW:∀t ds,W t ds→vR ds):∀(fs:List Field) (ds:List D),WTF P W fs ds→vR ds
 |[],ds,h=>by
  have h:ds=[]:=h
  rw[h];exact xC
 |f::fs,ds,h=>by
  obtain⟨a,b,rfl,_,h1,h2⟩:=h
  exact Pg.2 ⟨hW _ _ h1,QX hW fs b h2⟩
theorem Ox{P:Program}:∀(n:Nat) (t:TypeId) (ds:List D),WT P n t ds→vR ds
 |0,t,ds,h=>h.elim
 |n+1,t,ds,h=>by
  simp only[WT] at h
  split at h
  ·obtain⟨b,rfl⟩:=h;exact yw.2 ⟨.b _,xC⟩
  ·obtain⟨b,rfl,_⟩:=h;exact yw.2 ⟨.i _ _,xC⟩
  ·obtain⟨l,rfl,hl⟩:=h;exact yw.2 ⟨.s _ hl,xC⟩
  ·obtain⟨es,rfl,hl,hh⟩:=h
   exact yw.2 ⟨.sl _ hl fun e he d hd=>Ox n _ e (hh e he).2 d hd,xC⟩
  ·exact QX (Ox n) _ _ h
  ·exact h.elim
end Go.Ab
namespace Go.Proofs.YtokkjobjffhfjaaGreatDoor
open Go Go.Ab
end Go.Proofs.YtokkjobjffhfjaaGreatDoor
