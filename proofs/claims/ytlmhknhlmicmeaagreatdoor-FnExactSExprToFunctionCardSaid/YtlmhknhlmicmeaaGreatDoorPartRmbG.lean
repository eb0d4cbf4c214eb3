/-
  SEVERAL TEXTS IN ONE (merged by program): contracts and models, each with its own heading.
-/
import Derived.Test.YtlmhknhlmicmeaaGreatDoorPartRmbF
import Derived.Test.YtlmhknhlmicmeaaGreatDoorRows
import Derived.OpenShut
import Derived.LaidMore
import Derived.Stop.LaidErr
set_option linter.unusedSimpArgs false
set_option linter.unusedVariables false
set_option maxRecDepth 4000
namespace Go.Proofs.YtlmhknhlmicmeaaGreatDoor.fnExactSExprToFunction
open Go Go.Ab
set_option maxHeartbeats 4000000 in
theorem law(x0:ah)(f0:qN x0.enc):bA Tryz.prog 7 [x0.v] [] (fun r _=>r=.c (.d (.b true))):=by
 have hmx:=FL x0.enc x0.eG.2
 rw[ah.bC,ah.dB] at hmx
 simp only[ah.aD,List.cons_append,List.nil_append,jP,jO] at hmx
 refine aC (rs:=[.tmp 2]) Tryz.checked.mixed Tryz.func7 Tryz.ntmps7 rfl rfl rfl rfl rfl ?_
 simp -implicitDefEqProofs (disch:=omega) only[go_sem]
 refine ay (RQ x0 _ (by omega) (by omega) f0) ?_
 simp -implicitDefEqProofs (disch:=omega) only[go_sem]<;>(repeat(with_reducible refine And.intro ?_ ?_;focus first|omega|rfl|assumption|exact⟨_,rfl,rfl⟩|(simp;omega)|(simp;done)))
 with_reducible refine aA (fun hb=> ?_) (fun hb=> ?_)<;>have h:=hb<;>(try simp only[wf_preprocess] at h)<;>simp -implicitDefEqProofs (disch:=omega) only[go_sem,hb]<;>(repeat(with_reducible refine And.intro ?_ ?_;focus first|omega|rfl|assumption|exact⟨_,rfl,rfl⟩|(simp;omega)|(simp;done)))
 have h0:=uh h
 have c1:=NA x0 (by omega)
 have c2:=fun n=>Iu x0 n (by omega)
 have hd:(vJ x0).sz≤1048576:=abI (by omega)
 obtain⟨X,hX⟩:∃X,X=vJ x0:=⟨_,rfl⟩
 obtain⟨B,hB⟩:∃B,B=okF x0:=⟨_,rfl⟩
 rw[←hX] at hd
 simp only[←hX,←hB] at c1 c2
 have hmd:=FL X.enc X.eG.2
 rw[aU.bC,aU.dB] at hmd
 simp only[aU.aD,aj.aD,au.aD,List.cons_append,List.nil_append,jP,jO] at hmd
 have c3:aH Tryz.prog 33 [x0.v] (.dS [(true,X.enc.map .d),(false,[.d (.b B)])]):=
  aH.less (c2 0) (Ve fun w σ S β vs h=>UD h)
 simp only[aU.aD,aj.aD,au.aD,List.cons_append,List.nil_append,List.map_cons,List.map_nil] at c1 c3
 refine ay (Ak x0 (by omega)) ?_
 simp -implicitDefEqProofs (disch:=omega) only[go_sem]<;>(repeat(with_reducible refine And.intro ?_ ?_;focus first|omega|rfl|assumption|exact⟨_,rfl,rfl⟩|(simp;omega)|(simp;done)))
 refine ay c1 ?_
 simp -implicitDefEqProofs (disch:=omega) only[go_sem]
 refine bf rfl (bA.own (mk:=V.agg) (r:=x0.enc) RH x0.eG.1 (fun n=>O5 x0 n (by omega))) ?_
 simp -implicitDefEqProofs (disch:=omega) only[go_sem,ah.aD,List.cons_append,List.nil_append,yO,KD,qZ]
 refine bf rfl (bA.aeC (k:=(0,2)) rfl (mk:=fun cs=>.dS ((true,cs)::[C.d (.b B)].map fun x=>(false,[x]))) (r:=X.enc) (RI [C.d (.b B)] rfl) X.eG.1 (fun n=>c2 n)) ?_
 simp -implicitDefEqProofs (disch:=omega) only[go_sem,aU.aD,aj.aD,au.aD,List.cons_append,List.nil_append,List.map_cons,List.map_nil,yO,KD,qZ]
 refine bf rfl (bA.lend (k:=(0,4)) rfl (Ag rfl) (vT X X (by omega))) ?_
 simp -implicitDefEqProofs (disch:=omega) only[go_sem,bR rfl,Bool.not_true]
 refine ay (Ak x0 (by omega)) ?_
 simp -implicitDefEqProofs (disch:=omega) only[go_sem]<;>(repeat(with_reducible refine And.intro ?_ ?_;focus first|omega|rfl|assumption|exact⟨_,rfl,rfl⟩|(simp;omega)|(simp;done)))
 refine TL rfl (DS.refl _) (bA.lend (k:=(0,2)) rfl (Ag rfl) (RS x0 x0 (by omega))) ?_
 simp -implicitDefEqProofs (disch:=omega) only[go_sem,bR rfl,Bool.not_true]
 refine bf rfl (NG x0 1 0 2 0 _ _ rfl rfl ⟨by omega,by omega⟩) ?_
 simp -implicitDefEqProofs (disch:=omega) only[go_sem,gF]
 refine bf rfl (bA.lend (k:=(0,4)) rfl (Ag rfl) (vT X X (by omega))) ?_
 simp -implicitDefEqProofs (disch:=omega) only[go_sem,bR rfl,Bool.not_true]
 refine bf rfl (GZ X 1 0 4 0 _ _ rfl rfl rfl rfl rfl rfl rfl rfl ⟨by omega,by omega⟩) ?_
 simp -implicitDefEqProofs (disch:=omega) only[go_sem]
 refine bf rfl (yG X 1 0 4 0 _ _ rfl rfl rfl rfl rfl rfl rfl rfl ⟨by omega,by omega⟩) ?_
 simp -implicitDefEqProofs (disch:=omega) only[go_sem,gF,Bool.not_true]
 refine ay (Ak x0 (by omega)) ?_
 simp -implicitDefEqProofs (disch:=omega) only[go_sem]<;>(repeat(with_reducible refine And.intro ?_ ?_;focus first|omega|rfl|assumption|exact⟨_,rfl,rfl⟩|(simp;omega)|(simp;done)))
 refine ay c3 ?_
 simp -implicitDefEqProofs (disch:=omega) only[go_sem]
 refine ay (vT X X (by omega)) ?_
 simp -implicitDefEqProofs (disch:=omega) only[go_sem,bR rfl,Bool.not_true]
 refine bf rfl (yG X 1 0 4 0 _ _ rfl rfl rfl rfl rfl rfl rfl rfl ⟨by omega,by omega⟩) ?_
 simp -implicitDefEqProofs (disch:=omega) only[go_sem,gF,Bool.not_true]
end Go.Proofs.YtlmhknhlmicmeaaGreatDoor.fnExactSExprToFunction
namespace Go.Ab
open Go
theorem Kq{H:Type}{enc:TypeId×Value→H}{P:Program}{w:World}{base:Nat}{sp:Nat→Bool}{held:Bool}{fuel n:Nat}{t e:TypeId}{k:IntKind}{cs:List Value}{ns:List Int}{p:List MemPlace}
 (ht:P.underlying t=some (.array n e)) (he:P.underlying e=some (.int k)) (ce:P.cellsOf e=1) (ct:P.cellsOf t=n)
 (h:DataW.trod enc P w base sp held fuel t cs=some (.agg (ns.map fun z=>.lit (.int k z)),p)):cs=ns.map (Value.int k ·):=by
 obtain⟨xs,m,_,ex,hlen,hl,hel⟩:=DataW.trod_array ht h
 rw[ct] at hlen
 have e3:=DataW.agg.inj (Prod.mk.inj ex).1
 have hns:ns.length=n:=by have:=congrArg List.length e3;simpa [hl] using this
 refine List.ext_getElem (by rw[hlen,List.length_map,hns]) fun i h1 h2=> ?_
 have k0:=hel i (by omega)
 rw[ce,Nat.mul_one] at k0
 have hd:(cs.drop i).take 1=[cs[i]]:=by
  rw[List.drop_eq_getElem_cons h1];rfl
 rw[hd,List.getElem?_eq_getElem (by omega)] at k0
 obtain⟨z,a,b,_⟩:=DataW.trod_int he k0
 have e4:(ns.map fun z=>(DataW.lit (Lit.int k z):DataW H))[i]'(by rw[List.length_map];omega)=(xs.map (·.1))[i]'(by rw[List.length_map];omega):=by simp only[e3]
 rw[List.getElem_map,List.getElem_map,b] at e4
 simp only[DataW.lit.injEq,Lit.int.injEq,true_and] at e4
 rw[List.getElem_map,e4]
 simpa using a
theorem CG{P:Program}{w:World}{n:String}{g:Nat}{cs:Array Value}(hg:P.globalNamed n=some g)(h:w.var? P n=some cs):∃t fz,w.heap[g]? =some (.cells cs t fz):=by
 unfold World.var? at h
 rw[hg] at h
 simp only[Option.bind_some] at h
 split at h
 ·rename_i c t fz hh
  cases h
  exact⟨t,fz,hh⟩
 ·cases h
end Go.Ab
namespace Go.Proofs.YtlmhknhlmicmeaaGreatDoor
open Go Go.Ab Go.ChangeShapes Go.RowKit
theorem gES:Tryz.prog.globalNamed "strconv.ErrSyntax" =some 0:=by kernel_rfl
theorem aap:(Tryz.prog.globals[0]?).map (·.type)=some 286:=by kernel_rfl
theorem gER:Tryz.prog.globalNamed "strconv.ErrRange" =some 1:=by kernel_rfl
theorem aaq:(Tryz.prog.globals[1]?).map (·.type)=some 286:=by kernel_rfl
theorem cellsE:Tryz.prog.cellsOf 384=1:=by kernel_rfl
theorem cellsS:Tryz.prog.cellsOf 9=1:=by kernel_rfl
theorem YO: "*" ++ "errors.errorString" = "*errors.errorString" :=by decide
theorem abN(u:TypeId)(h:Tryz.prog.typeName? 3 u=some "*errors.errorString"):u=382:=
 typeName_ptr_named (nm:= "errors.errorString") (by rw[YO];kernel_rfl) (by kernel_rfl) (by decide) u (by rw[YO];exact h)
theorem NH{W:World}{r:List (String×DataW Unit)}(hr:(r.all fun x=>x.2.handleName?.isNone)=true)
 (h0:laidMetH Tryz.prog (("math/bits.deBruijn32tab",Rows.laid_math_bits_deBruijn32tab)::("math/bits.deBruijn64tab",Rows.laid_math_bits_deBruijn64tab)::("internal/strconv.uint64pow10",Rows.laid_internal_strconv_uint64pow10)::("strconv.ErrRange",Rows.laid_strconv_ErrRange)::("strconv.ErrSyntax",Rows.laid_strconv_ErrSyntax)::r) W):yH W (iw W):=by
 rw[MakeChecks.laidMetH_plain _ _ _ (by
  rw[List.all_cons,List.all_cons,List.all_cons,List.all_cons,List.all_cons,hr];kernel_rfl)] at h0
 have hR:=h0.tail.tail.tail
 have hS:=hR.tail
 obtain⟨a1,s1,hv1,_,_,_⟩:=laid_sentinel hR gER aaq Tryz.underlying286 abN Tryz.underlying382 Tryz.underlying384 rfl rfl Tryz.underlying9 cellsE cellsS
 obtain⟨a2,s2,hv2,_,_,_⟩:=laid_sentinel hS gES aap Tryz.underlying286 abN Tryz.underlying382 Tryz.underlying384 rfl rfl Tryz.underlying9 cellsE cellsS
 obtain⟨t1,Dv,AV⟩:=CG gER hv1
 obtain⟨t2,fz2,vV⟩:=CG gES hv2
 obtain⟨ps,⟨_,_,_,_,_,_,_,_,_,_,⟨_,_,_,_,_,_,_,_,_,_,⟨g,t,cs,fuel,p,q,hg,ht,hv,hd,_,_⟩,_⟩,_⟩,_,_⟩:=h0
 have hn:Tryz.prog.globalNamed "internal/strconv.uint64pow10" =some 2:=by kernel_rfl
 obtain rfl:=Option.some.inj (hn.symm.trans hg)
 obtain rfl:=Option.some.inj ((show(Tryz.prog.globals[2]?).map (·.type)=some 376 by kernel_rfl).symm.trans ht)
 have hl:(Rows.laid_internal_strconv_uint64pow10:DataW Unit)=.agg (((List.range 20).map fun i=>((10^i:Nat):Int)).map fun z=>.lit (.int .u64 z)):=by kernel_rfl
 rw[hl] at hd
 have e:=Kq Tryz.underlying376 Tryz.underlying359 (by kernel_rfl) (by kernel_rfl) hd
 obtain⟨t',fz,hh⟩:=CG hg hv
 intro g' p' hm
 have fast:∀{b:Nat} {c:Array Value} {t:TypeId} {fz:Nat×Nat},W.heap[b]? =some (.cells c t fz)→c.size≤iw W b:=fun {b c t fz} hb=>by
  unfold iw;rw[hb];exact Nat.le_refl _
 rcases List.mem_cons.1 hm with hm|hm
 ·cases hm
  refine⟨cs,t',fz,hh,?_,fast hh⟩
  show cs.toList=_
  rw[e,List.map_map];rfl
 rcases List.mem_cons.1 hm with hm|hm
 ·cases hm
  exact⟨_,t1,Dv,AV,⟨_,_,rfl⟩,fast AV⟩
 ·have hm':=List.eq_of_mem_singleton hm
  cases hm'
  exact⟨_,t2,fz2,vV,⟨_,_,rfl⟩,fast vV⟩
end Go.Proofs.YtlmhknhlmicmeaaGreatDoor
namespace Go.Ab
theorem NI{P:Program}{n:Nat}{t:TypeId}{ds:List D}(h:WT P n t ds):∃m,n=m+1:=by
 cases n with
 |zero=>exact h.elim
 |succ m=>exact⟨m,rfl⟩
theorem VF{P:Program}{n:Nat}{t:TypeId}{ds:List D}(ht:P.underlying t=some .string)(h:WT P n t ds):∃l,ds=[.s l]:=by
 obtain⟨m,rfl⟩:=NI h
 simp only[WT,ht] at h;exact⟨h.choose,h.choose_spec.1⟩
theorem Yn{P:Program}{n:Nat}{t e:TypeId}{ds:List D}(ht:P.underlying t=some (.slice e))(h:WT P n t ds):∃es m,m<n∧ds=[.sl es]∧∀x∈es,WT P m e x:=by
 obtain⟨m,rfl⟩:=NI h
 simp only[WT,ht] at h
 obtain⟨es,h1,_,h2⟩:=h
 exact⟨es,m,by omega,h1,fun x hx=>(h2 x hx).2⟩
theorem VG{P:Program}{n:Nat}{t:TypeId}{fs:Array Field}{ds:List D}(ht:P.underlying t=some (.struct fs))(h:WT P n t ds):∃m,m<n∧Px P (WT P m) fs.toList ds:=by
 obtain⟨m,rfl⟩:=NI h
 simp only[WT,ht] at h
 exact⟨m,by omega,h⟩
theorem NJ{α:Type}{enc:α→List D}:∀{es:List (List D)},(∀x∈es,∃m,x=enc m)→∃ms:List α,es=ms.map enc
 |[],_=>⟨[],rfl⟩
 |e::es,h=>by
  obtain⟨m,hm⟩:=h e (by simp)
  obtain⟨ms,hms⟩:=NJ (es:=es) fun x hx=>h x (by simp[hx])
  exact⟨m::ms,by rw[List.map_cons,←hm,←hms]⟩
theorem Qc{P:Program}{W:TypeId→List D→Prop}(hW:∀t ds,W t ds→qN ds):∀(fs:List Field) (ds:List D),Px P W fs ds→qN ds
 |[],ds,h=>by
  have h:ds=[]:=h
  rw[h];exact ug
 |f::fs,ds,h=>by
  obtain⟨a,b,rfl,_,h1,h2⟩:=h
  exact Dy.2 ⟨hW _ _ h1,Qc hW fs b h2⟩
theorem NK{P:Program}:∀(n:Nat) (t:TypeId) (ds:List D),WT P n t ds→qN ds
 |0,t,ds,h=>h.elim
 |n+1,t,ds,h=>by
  simp only[WT] at h
  split at h
  ·obtain⟨b,rfl⟩:=h;exact u6.2 ⟨.b _,ug⟩
  ·obtain⟨b,rfl,_⟩:=h;exact u6.2 ⟨.i _ _,ug⟩
  ·obtain⟨l,rfl,hl⟩:=h;exact u6.2 ⟨.s _ hl,ug⟩
  ·obtain⟨es,rfl,hl,hh⟩:=h
   exact u6.2 ⟨.sl _ hl fun e he d hd=>NK n _ e (hh e he).2 d hd,ug⟩
  ·exact Qc (NK n) _ _ h
  ·exact h.elim
end Go.Ab
namespace Go.Proofs.YtlmhknhlmicmeaaGreatDoor
open Go Go.Ab
theorem Yo:∀(n:Nat) (ds:List D),WT Tryz.prog n 68 ds→∃x:ah,ds=x.enc:=by
 intro n
 induction n using Nat.strongRecOn with
 |_ n ih=>
  intro ds h
  obtain⟨m,hm,h⟩:=VG Tryz.underlying68 h
  simp only[Px] at h
  obtain⟨a0,r0,rfl,l0,h0,a1,r1,rfl,l1,h1,rfl⟩:=h
  obtain⟨x0,rfl⟩:=VF Tryz.underlying9 h0
  obtain⟨es1,m1,hm1,rfl,hs1⟩:=Yn Tryz.underlying66 h1
  obtain⟨x1,rfl⟩:=NJ (enc:=ah.enc) fun y hy=>ih m1 (by omega) y (hs1 y hy)
  refine⟨ah.mk x0 x1,?_⟩
  rw[ah.aD]
  simp[ah.aT,ah.ak]
end Go.Proofs.YtlmhknhlmicmeaaGreatDoor
