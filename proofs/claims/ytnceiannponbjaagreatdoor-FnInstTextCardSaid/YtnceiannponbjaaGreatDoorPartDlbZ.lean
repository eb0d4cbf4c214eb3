/-
  SEVERAL TEXTS IN ONE (merged by program): contracts and models, each with its own heading.
-/
import Derived.Test.YtnceiannponbjaaGreatDoorPartDlbU
import Derived.Test.YtnceiannponbjaaGreatDoorPartDlbY
import Derived.Test.YtnceiannponbjaaGreatDoorRows
import Derived.LaidMore
import Derived.Stop.LaidErr
set_option maxHeartbeats 8000000
open Go.Proofs Go.Proofs.Tryz
set_option linter.unusedSimpArgs false
set_option linter.unusedVariables false
set_option maxRecDepth 8000
namespace Go.Ab
theorem Xz(b:Bool)(x:ah):(b=true/\iE x=true/\wm b x=x)\/wm b x=eH:=by
 cases b with
 |false=>exact .inr rfl
 |true=>
  cases h:iE x with
  |true=>exact .inl ⟨rfl,rfl,if_pos h⟩
  |false=>exact .inr (if_neg (by rw[h];decide))
theorem adr{x:ah}(h:iE x=true):wm true x=x:=if_pos h
theorem aan(l:List ah):(bS l).aj.length=l.length:=rfl
theorem RA:eH.aj.length=0:=rfl
theorem rtI(d:aH):qz (kI d)=dec (0<(kI d).aj.length):=by
 rcases Xz (eO d) (qg d) with⟨h1,h2,h3⟩|h
 ·have e:kI d=qg d:=h3
  have hl:7<=(qg d).aj.length:=by rw[qg,aan];simp[kg]
  rw[e,bT (by omega)];exact bT ⟨h2,⟨hl,rfl⟩,by rw[CP true h1];exact h1,by rw[CP true h1]⟩
 ·have e:kI d=eH:=h;rw[e,bI (by rw[RA];omega)]
  exact bI fun q=>by have:=q.2.1.1;rw[RA] at this;omega
theorem RB{x:ah}(h:qz x=true):kI (kP x)=x:=by
 obtain⟨h1,h2,h4,h5⟩:=gF h;unfold kP;rw[if_pos h];unfold kI;rw[h4,h5];exact adr h1
end Go.Ab
namespace Go.Proofs.YtnceiannponbjaaGreatDoor.fnInstText
open Go Go.Ab
theorem ads{bs:List Int}(hB:Bytes bs):aJ prog 24 [.c (.d (.sl (bs.map yN)))] (instX (sP bs)).1.v:=fun S=>by
 refine zcx [.cell 2 56] func24 ntmps24 ?_;simp -implicitDefEqProofs (disch:=omega) only[go_sem];refine aT rfl (QO hB _ _) ?_;simp -implicitDefEqProofs (disch:=omega) only[go_sem];refine aT rfl (KR hB (sP bs) 0 1 _ rfl) ?_;simp -implicitDefEqProofs (disch:=omega) only[go_sem]
 first|done|rfl
noncomputable def UA(bs:List Int):ah:=(Bj (kI (instX (sP bs)).1) (instX (sP bs)).2).1
theorem ag1(bs:List Int):(UA bs).sz<=100000:=by
 have h1:=acR (kI (instX (sP bs)).1) (instX (sP bs)).2;have h2:(kI (instX (sP bs)).1).sz<=11700:=zy _ _;unfold UA;omega
theorem adt{bs:List Int}(hB:Bytes bs):aJ prog 30 [.c (.d (.sl (bs.map yN)))] (UA bs).v:=fun S=>by
 have hs:=instX_sz (sP bs);have ho:(kI (instX (sP bs)).1).sz<=11700:=zy _ _;obtain⟨R,hR⟩:∃R,R=UA bs:=⟨_,rfl⟩;rw[<-hR];unfold UA at hR;obtain⟨d,hd⟩:∃d,d=(instX (sP bs)).1:=⟨_,rfl⟩;obtain⟨c1,hc1⟩:∃c1,c1=(instX (sP bs)).2:=⟨_,rfl⟩;have q1:=fun(l j:Nat) (S:Store) (hk:aW S (l,j)=some (.box (cur (sP bs))))=>KR hB (sP bs) l j S hk;rw[<-hd] at hs ho;rw[<-hd,<-hc1] at hR q1;have q2:=DU d (by omega);have q3:=fun(l j:Nat) (S:Store) (hk:aW S (l,j)=some (.box (cur c1)))=>QX hB c1 l j S (kI d) hk (by omega);rw[<-hR] at q3;refine zcx [.cell 2 39] func30 ntmps30 ?_;simp -implicitDefEqProofs (disch:=omega) only[go_sem];refine aT rfl (QO hB _ _) ?_;simp -implicitDefEqProofs (disch:=omega) only[go_sem];refine aT rfl (q1 0 1 _ rfl) ?_;simp -implicitDefEqProofs (disch:=omega) only[go_sem];refine aA q2 ?_;simp -implicitDefEqProofs (disch:=omega) only[go_sem];refine aT rfl (q3 0 1 _ rfl) ?_;simp -implicitDefEqProofs (disch:=omega) only[go_sem]
 first|done|rfl
theorem law(x0:List Int)(b0:∀x∈x0,0<=x/\x<=255):bJ prog 5 [.c (.d (.sl (x0.map yN)))] [] (fun r _=>r=.c (.d (.b true))):=by
 refine zcx [.tmp 2] func5 ntmps5 ?_;simp -implicitDefEqProofs (disch:=omega) only[go_sem];refine aA (agO x0) ?_;simp -implicitDefEqProofs (disch:=omega) only[go_sem]
 with_reducible refine aD (fun hb=> ?_) (fun hb=> ?_)<;>have h:=hb<;>(try simp only[wf_preprocess] at h)<;>simp -implicitDefEqProofs (disch:=omega) only[go_sem,hb]<;>(repeat(with_reducible refine And.intro ?_ ?_;focus first|omega|rfl|assumption|exact⟨_,rfl,rfl⟩|(simp;omega)|(simp;done)))
 have Ue:Bytes x0:=⟨by omega,b0⟩;have p1:=ads Ue;have p2:=adt Ue;have hds:=instX_sz (sP x0);have hys:=ag1 x0;obtain⟨d,hd⟩:∃d,d=(instX (sP x0)).1:=⟨_,rfl⟩;obtain⟨y,hy⟩:∃y,y=UA x0:=⟨_,rfl⟩;rw[<-hd] at p1 hds;rw[<-hy] at p2 hys;have ho:(kI d).sz<=11700:=zy _ _;have hrt:=rtI d;have e1:=DU d (by omega)
 have e2:aJ prog 25 [d.v] (kI d).v:=by
  have h:aJ prog 25 [d.v] (.agg ((dW (kI d).enc 0).map .d)):=by rw[l9];exact Ni d 0 (by omega)
  have:=aJ.less h Ak;rw[ah.pV] at this;exact this
 obtain⟨X,hX⟩:∃X,X=kI d:=⟨_,rfl⟩;rw[<-hX] at e1 e2 ho hrt
 have d1:aJ prog 29 [X.v] (.eU [(true,(kP X).enc.map .d),(false,[.d (.b (qz X))])]):=
  aJ.less (Em X 0 (by omega)) (Na fun w σ S β vs h=>MU h)
 have d2:aJ prog 29 [y.v] (.eU [(true,(kP y).enc.map .d),(false,[.d (.b (qz y))])]):=
  aJ.less (Em y 0 (by omega)) (Na fun w σ S β vs h=>MU h)
 have d3:=Tw y (by omega);have hu:(kP X).sz<=1048576:=aai (by omega);have hv:(kP y).sz<=1048576:=aai (by omega);have f1:=DU (kP X) hu
 have f2:aJ prog 25 [(kP y).v] (kI (kP y)).v:=by
  have h:aJ prog 25 [(kP y).v] (.agg ((dW (kI (kP y)).enc 0).map .d)):=by rw[l9];exact Ni (kP y) 0 (by omega)
  have:=aJ.less h Ak;rw[ah.pV] at this;exact this
 have g1:(kI (kP X)).sz<=11700:=zy _ _;have g2:(kI (kP y)).sz<=11700:=zy _ _;have bX:qz X=true->kI (kP X)=X:=fun h=>RB h;have bY:qz y=true->kI (kP y)=y:=fun h=>RB h;obtain⟨u,hu0⟩:∃u,u=kP X:=⟨_,rfl⟩;obtain⟨v,hv0⟩:∃v,v=kP y:=⟨_,rfl⟩;obtain⟨B,hB0⟩:∃B,B=qz X:=⟨_,rfl⟩;obtain⟨C,hC0⟩:∃C,C=qz y:=⟨_,rfl⟩;obtain⟨U,hU0⟩:∃U,U=kI u:=⟨_,rfl⟩;obtain⟨V0,hV0⟩:∃V0,V0=kI v:=⟨_,rfl⟩;rw[<-hu0,<-hB0] at d1;rw[<-hv0,<-hC0] at d2 d3;rw[<-hu0] at f1 g1 hu;rw[<-hv0] at f2 g2 hv;rw[<-hB0,<-hu0,<-hU0] at bX;rw[<-hC0,<-hv0,<-hV0] at bY;rw[<-hU0] at f1 g1;rw[<-hV0] at f2 g2;rw[<-hB0] at hrt;simp only[aH.aB,au.aB,aC.aB,List.cons_append,List.nil_append,List.map_cons,List.map_nil] at d1 d2 d3;clear hu0 hv0 hB0 hC0 hU0 hV0 hX hd hy;refine aA p1 ?_;simp -implicitDefEqProofs (disch:=omega) only[go_sem];refine aA e2 ?_;simp -implicitDefEqProofs (disch:=omega) only[go_sem];refine aA e1 ?_;simp -implicitDefEqProofs (disch:=omega) only[go_sem];refine aA (nD X X (by omega)) ?_;simp -implicitDefEqProofs (disch:=omega) only[go_sem,bT rfl,Bool.not_true];refine aA (qM d (by omega)) ?_;simp -implicitDefEqProofs (disch:=omega) only[go_sem,bT rfl,Bool.not_true];refine aA (mh d (by omega)) ?_;simp -implicitDefEqProofs (disch:=omega) only[go_sem,bT rfl,Bool.not_true];refine aA d1 ?_;simp -implicitDefEqProofs (disch:=omega) only[go_sem];refine aA p2 ?_;simp -implicitDefEqProofs (disch:=omega) only[go_sem];refine aA d2 ?_;simp -implicitDefEqProofs (disch:=omega) only[go_sem];refine aA d3 ?_
 have hdl:(decide (0<(X.aj.length:Int)))=B:=by
  rw[hrt];by_cases hl:0<X.aj.length
  ·rw[bT hl];exact decide_eq_true (by omega)
  ·rw[bI hl];exact decide_eq_false (by omega)
 cases B with
 |true=>
  have hUX:=bX rfl;subst hUX;simp -implicitDefEqProofs (disch:=omega) only[go_sem,hdl];refine aA f1 ?_;simp -implicitDefEqProofs (disch:=omega) only[go_sem,hdl];refine aA (nD U U (by omega)) ?_
  cases C with
  |true=>
   have hVy:=bY rfl;subst hVy;simp -implicitDefEqProofs (disch:=omega) only[go_sem,bT rfl,hdl];refine aA f2 ?_;simp -implicitDefEqProofs (disch:=omega) only[go_sem,bT rfl,hdl];refine aA (nD V0 V0 (by omega)) ?_;simp -implicitDefEqProofs (disch:=omega) only[go_sem,bT rfl,hdl]
   first|done|rfl
  |false=>
   simp -implicitDefEqProofs (disch:=omega) only[go_sem,bT rfl,hdl]
   first|done|rfl
 |false=>
  cases C with
  |true=>
   have hVy:=bY rfl;subst hVy;simp -implicitDefEqProofs (disch:=omega) only[go_sem,hdl];refine aA f2 ?_;simp -implicitDefEqProofs (disch:=omega) only[go_sem,hdl];refine aA (nD V0 V0 (by omega)) ?_;simp -implicitDefEqProofs (disch:=omega) only[go_sem,bT rfl,hdl]
   first|done|rfl
  |false=>
   simp -implicitDefEqProofs (disch:=omega) only[go_sem,hdl]
   first|done|rfl
end Go.Proofs.YtnceiannponbjaaGreatDoor.fnInstText
namespace Go.Ab
theorem Oa{H:Type}{enc:TypeId×Value->H}{P:Program}{w:World}{base:Nat}{sp:Nat->Bool}{held:Bool}{fuel n:Nat}{t e:TypeId}{k:IntKind}{cs:List Value}{ns:List Int}{p:List MemPlace}
 (ht:P.underlying t=some (.array n e))(he:P.underlying e=some (.int k))(ce:P.cellsOf e=1)(ct:P.cellsOf t=n)
 (h:DataW.trod enc P w base sp held fuel t cs=some (.agg (ns.map fun z=>.lit (.int k z)),p)):cs=ns.map (Value.int k ·):=by
 obtain⟨xs,m,_,ex,hlen,hl,hel⟩:=DataW.trod_array ht h;rw[ct] at hlen;have e3:=DataW.agg.inj (Prod.mk.inj ex).1
 have hns:ns.length=n:=by have:=congrArg List.length e3;simpa [hl] using this
 refine List.ext_getElem (by rw[hlen,List.length_map,hns]) fun i h1 h2=> ?_;have k0:=hel i (by omega);rw[ce,Nat.mul_one] at k0
 have hd:(cs.drop i).take 1=[cs[i]]:=by
  rw[List.drop_eq_getElem_cons h1];rfl
 rw[hd,List.getElem?_eq_getElem (by omega)] at k0;obtain⟨z,a,b,_⟩:=DataW.trod_int he k0
 have e4:(ns.map fun z=>(DataW.lit (Lit.int k z):DataW H))[i]'(by rw[List.length_map];omega)=(xs.map (·.1))[i]'(by rw[List.length_map];omega):=by simp only[e3]
 rw[List.getElem_map,List.getElem_map,b] at e4;simp only[DataW.lit.injEq,Lit.int.injEq,true_and] at e4;rw[List.getElem_map,e4];simpa using a
theorem FY{P:Program}{w:World}{n:String}{g:Nat}{cs:Array Value}(hg:P.globalNamed n=some g)(h:w.var? P n=some cs):∃t fz,w.heap[g]? =some (.cells cs t fz):=by
 unfold World.var? at h;rw[hg] at h;simp only[Option.bind_some] at h;split at h
 ·rename_i c t fz hh;cases h;exact⟨t,fz,hh⟩
 ·cases h
open Go.ChangeShapes Go.RowKit
theorem gES:prog.globalNamed "strconv.ErrSyntax" =some 0:=by kernel_rfl
theorem afx:(prog.globals[0]?).map (·.type)=some 187:=by kernel_rfl
theorem gER:prog.globalNamed "strconv.ErrRange" =some 1:=by kernel_rfl
theorem afy:(prog.globals[1]?).map (·.type)=some 187:=by kernel_rfl
theorem cellsE:prog.cellsOf 237=1:=by kernel_rfl
theorem cellsS:prog.cellsOf 9=1:=by kernel_rfl
theorem adV: "*" ++ "errors.errorString" = "*errors.errorString" :=by decide
theorem ag5(u:TypeId)(h:prog.typeName? 3 u=some "*errors.errorString"):u=235:=
 typeName_ptr_named (nm:= "errors.errorString") (by rw[adV];kernel_rfl) (by kernel_rfl) (by decide) u (by rw[adV];exact h)
theorem RD{W:World}{r:List (String×DataW Unit)}(hr:(r.all fun x=>x.2.handleName?.isNone)=true)
 (h0:laidMetH prog (("math/bits.deBruijn32tab",YtnceiannponbjaaGreatDoor.Rows.laid_math_bits_deBruijn32tab)::("math/bits.deBruijn64tab",YtnceiannponbjaaGreatDoor.Rows.laid_math_bits_deBruijn64tab)::("internal/strconv.uint64pow10",YtnceiannponbjaaGreatDoor.Rows.laid_internal_strconv_uint64pow10)::("strconv.ErrRange",YtnceiannponbjaaGreatDoor.Rows.laid_strconv_ErrRange)::("strconv.ErrSyntax",YtnceiannponbjaaGreatDoor.Rows.laid_strconv_ErrSyntax)::r) W):Br W (jh W):=by
 rw[MakeChecks.laidMetH_plain _ _ _ (by
  rw[List.all_cons,List.all_cons,List.all_cons,List.all_cons,List.all_cons,hr];kernel_rfl)] at h0
 have hR:=h0.tail.tail.tail;have hS:=hR.tail;obtain⟨a1,s1,hv1,_,_,_⟩:=laid_sentinel hR gER afy underlying187 ag5 underlying235 underlying237 rfl rfl underlying9 cellsE cellsS;obtain⟨a2,s2,hv2,_,_,_⟩:=laid_sentinel hS gES afx underlying187 ag5 underlying235 underlying237 rfl rfl underlying9 cellsE cellsS;obtain⟨t1,yV,D8⟩:=FY gER hv1;obtain⟨t2,fz2,tQ⟩:=FY gES hv2;obtain⟨ps,⟨_,_,_,_,_,_,_,_,_,_,⟨_,_,_,_,_,_,_,_,_,_,⟨g,t,cs,fuel,p,q,hg,ht,hv,hd,_,_⟩,_⟩,_⟩,_,_⟩:=h0
 have hn:prog.globalNamed "internal/strconv.uint64pow10" =some 2:=by kernel_rfl
 obtain rfl:=Option.some.inj (hn.symm.trans hg);obtain rfl:=Option.some.inj ((show(prog.globals[2]?).map (·.type)=some 228 by kernel_rfl).symm.trans ht)
 have hl:(YtnceiannponbjaaGreatDoor.Rows.laid_internal_strconv_uint64pow10:DataW Unit)=.agg (((List.range 20).map fun i=>((10^i:Nat):Int)).map fun z=>.lit (.int .u64 z)):=by kernel_rfl
 rw[hl] at hd;have e:=Oa underlying228 underlying214 (by kernel_rfl) (by kernel_rfl) hd;obtain⟨t',fz,hh⟩:=FY hg hv;intro g' p' hm
 have fast:∀{b:Nat}{c:Array Value}{t:TypeId}{fz:Nat×Nat},W.heap[b]? =some (.cells c t fz)->c.size<=jh W b:=fun {b c t fz} hb=>by
  unfold jh;rw[hb];exact Nat.le_refl _
 rcases List.mem_cons.1 hm with hm|hm
 ·cases hm;refine⟨cs,t',fz,hh,?_,fast hh⟩;show cs.toList=_;rw[e,List.map_map];rfl
 rcases List.mem_cons.1 hm with hm|hm
 ·cases hm;exact⟨_,t1,yV,D8,⟨_,_,rfl⟩,fast D8⟩
 ·have hm':=List.eq_of_mem_singleton hm;cases hm';exact⟨_,t2,fz2,tQ,⟨_,_,rfl⟩,fast tQ⟩
theorem aao{P:Program}{n:Nat}{t:TypeId}{ds:List D}(h:WT P n t ds):∃m,n=m+1:=by
 cases n with
 |zero=>exact h.elim
 |succ m=>exact⟨m,rfl⟩
theorem ag6{P:Program}{n:Nat}{t:TypeId}{k:IntKind}{ds:List D}(ht:P.underlying t=some (.int k))(h:WT P n t ds):∃x,ds=[.i k x]/\(Lit.int k x).wf=true:=by
 obtain⟨m,rfl⟩:=aao h;simp only[WT,ht] at h;exact h
theorem adu{P:Program}{n:Nat}{t e:TypeId}{ds:List D}(ht:P.underlying t=some (.slice e))(h:WT P n t ds):∃es m,m<n/\ds=[.sl es]/\∀x∈es,WT P m e x:=by
 obtain⟨m,rfl⟩:=aao h;simp only[WT,ht] at h;obtain⟨es,h1,_,h2⟩:=h;exact⟨es,m,by omega,h1,fun x hx=>(h2 x hx).2⟩
theorem UC{P:Program}{W:TypeId->List D->Prop}(hW:∀t ds,W t ds->zV ds):∀(fs:List Field)(ds:List D),WTF P W fs ds->zV ds
 |[],ds,h=>by
  have h:ds=[]:=h;rw[h];exact zW
 |f::fs,ds,h=>by
  obtain⟨a,b,rfl,_,h1,h2⟩:=h;exact Sw.2 ⟨hW _ _ h1,UC hW fs b h2⟩
theorem RF{P:Program}:∀(n:Nat)(t:TypeId)(ds:List D),WT P n t ds->zV ds
 |0,t,ds,h=>h.elim
 |n+1,t,ds,h=>by
  simp only[WT] at h;split at h
  ·obtain⟨b,rfl⟩:=h;exact AR.2 ⟨.b _,zW⟩
  ·obtain⟨b,rfl,_⟩:=h;exact AR.2 ⟨.i _ _,zW⟩
  ·obtain⟨l,rfl,hl⟩:=h;exact AR.2 ⟨.s _ hl,zW⟩
  ·obtain⟨es,rfl,hl,hh⟩:=h;exact AR.2 ⟨.sl _ hl fun e he d hd=>RF n _ e (hh e he).2 d hd,zW⟩
  ·exact UC (RF n) _ _ h
  ·exact h.elim
end Go.Ab