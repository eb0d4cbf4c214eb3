/-
  SEVERAL TEXTS IN ONE (merged by program): contracts and models, each with its own heading.
-/
import Derived.Test.YtokkjobjffhfjaaGreatDoorPartZgbE
import Derived.Lib.AppendIntMem
import Derived.Lib.AtoiBound
import Derived.WalkKit
import Derived.ProofKit
import Derived.Lib.AppendZeros
import Derived.Laws.Cover3
set_option maxHeartbeats 8000000
open Go.Proofs Go.Proofs.Tryz
set_option linter.unusedSimpArgs false
set_option linter.unusedVariables false
set_option maxRecDepth 4000
namespace Go.Ab
theorem TY{w w':World}{σ:Nat->Nat}(hl:∀b,b<w.heap.size\/σ b=0)(h:Go.RowKit.Below w.heap.size w w'):Grow w σ w' σ:=
 ⟨h.size,h.os,h.output,fun b hb=>⟨h.block b hb,rfl⟩,fun b=>(hl b).elim (fun x=>.inl (Nat.lt_of_lt_of_le x h.size)) .inr⟩
theorem afI{x y z:V}{vs:List Value}{w:World}{σ:Nat->Nat}{S:Store}{β:Hs}(h:qg w σ S β [x,y,z] vs):∃u v t,vs=[u,v,t]/\dP w σ S β x u/\dP w σ S β y v/\dP w σ S β z t:=by
 obtain⟨hl,h⟩:=h;obtain⟨u,e0,h0⟩:=h 0 x rfl;obtain⟨v,e1,h1⟩:=h 1 y rfl;obtain⟨t,e2,h2⟩:=h 2 z rfl
 match vs,hl,e0,e1,e2 with
 |[a,b,c],_,e0,e1,e2=>simp at e0 e1 e2;subst e0;subst e1;subst e2;exact⟨_,_,_,rfl,h0,h1,h2⟩
theorem acW(n:Int)(h0: -9223372036854775808<=n)(h1:n<=9223372036854775807)(w:World)(htab:Lib.TabIs prog w "internal/strconv.uint64pow10" .u64 Lib.pow10Tab):
 Calls prog 201 #[.int .i64 n] w fun e w'=>e=.returned (.string ⟨(Lib.itoa n).toArray⟩)/\Go.RowKit.Below w.heap.size w w':=
 (Tryz.strconv_Itoa n h0 h1 w htab).mono fun e w' ⟨he,k,os,hw⟩=>⟨he,by
   subst hw
   exact⟨rfl,rfl,rfl,by show w.heap.size<=(w.heap++os).size;simp,fun b hb=>by show(w.heap++os)[b]? =_;rw[Array.getElem?_append_left hb]⟩⟩
theorem Zh(s:List UInt8)(hs:s.length<=18)(tp:TypeId)(p:Value)(w:World)(htab:Lib.TabIs prog w "internal/strconv.uint64pow10" .u64 Lib.pow10Tab)(hvar:w.var? prog "strconv.ErrSyntax" =some #[.iface tp p]):
 Calls prog 191 #[.string ⟨s.toArray⟩,.int .i64 (-999999999999),.int .i64 999999999999] w fun e w'=>e=.returned (.tuple #[.int .i64 ((iA s).getD 0),.bool (iA s).isSome])/\Go.RowKit.Below w.heap.size w w':=by
 have hsz:(⟨s.toArray⟩:ByteArray).size<=18:=by show s.toArray.size<=18;simpa using hs
 cases h:Lib.atoi s with
 |none=>
  have hc:=Tryz.strconv_Atoi_err_var ⟨s.toArray⟩ hsz (by simpa using h) tp p w hvar
  have Ci:iA s=none:=by unfold iA;rw[h]
  rw[Ci];clear hsz
  go_enter func191,ntmps191
  go_wp2_with (go_at_call 257;refine hc.mono ?_;rintro e W1 ⟨N,rfl,-,-,hb⟩)
  go_ret2
  exact⟨rfl,hb⟩
 |some n=>
  have hbd:=Lib.atoi_bound h hs;have hc:=Tryz.strconv_Atoi ⟨s.toArray⟩ n hsz (by simpa using h) w
  have Ci:iA s=if(-999999999999<=n/\n<=999999999999)/\Lib.itoa n=s then some n else none:=by unfold iA;rw[h]
  have hc':Calls prog 257 #[.string ⟨s.toArray⟩] w fun e w'=>e=.returned (.tuple #[.int .i64 n,.nilIface])/\Go.RowKit.Below w.heap.size w w':=hc.mono fun e w' ⟨he,t,hw⟩=>⟨he,by rw[hw];exact Lib.bytesWorld_below _ _ _⟩
  have hi:∀W1,Go.RowKit.Below w.heap.size w W1->Calls prog 201 #[.int .i64 n] W1 fun e w'=>e=.returned (.string ⟨(Lib.itoa n).toArray⟩)/\Go.RowKit.Below w.heap.size w w':=fun W1 hw=>
   (acW n (by omega) (by omega) _ ((Lib.tabBelow_of_tabIs htab).on hw).here).mono fun e w' ⟨he,hb⟩=>⟨he,hw.trans (hb.mono hw.size)⟩
  clear hsz h hc
  go_enter func191,ntmps191
  go_wp2_with (first|(go_at_call 257;refine hc'.mono ?_;rintro e W1 ⟨rfl,hb1⟩)|(go_at_call 201;refine(hi _ hb1).mono ?_;rintro e W2 ⟨rfl,hb2⟩))
  all_goals go_ret2
  all_goals first
   |(exfalso;omega)
   |exact⟨rfl,hb2⟩
   |exact⟨rfl,hb1⟩
   |(rw[Ci,if_pos ⟨⟨by omega,by omega⟩,by simp_all;done⟩];exact⟨rfl,hb2⟩)
   |(rw[Ci,if_neg (by rintro⟨hc,_⟩;omega)];exact⟨rfl,hb1⟩)
   |(rw[Ci,if_neg (by rintro⟨_,hc⟩;simp[hc] at *;omega)];exact⟨rfl,hb2⟩)
   |(rw[Ci,if_neg (by rintro⟨_,hc⟩;simp_all;done)];exact⟨rfl,hb2⟩)
   |trace_state
theorem T9{w:World}{σ:Nat->Nat}(h:nD w σ):∃tp p,w.var? prog "strconv.ErrSyntax" =some #[.iface tp p]:=by
 obtain⟨c,t,fz,q1,q2,q3⟩:=h 3 (fun l=>∃te pe,l=[Value.iface te pe]) (List.mem_cons_of_mem _ (List.mem_cons_of_mem _ (List.mem_cons_self ..)));obtain⟨te,pe,e⟩:=q2
 have hn:prog.globalNamed "strconv.ErrSyntax" =some 3:=by kernel_rfl
 refine⟨te,pe,?_⟩;unfold World.var?;rw[hn];simp only[Option.bind_some,q1,Option.some.injEq];exact Array.ext' e
theorem Ri(s:List UInt8)(hs:s.length<=18):aH prog 191 [.c (.d (.s s)),.c (.d (.i .i64 (-999999999999))),.c (.d (.i .i64 999999999999))] (.dQ [(false,[.d (.i .i64 ((iA s).getD 0))]),(false,[.d (.b (iA s).isSome)])]):=fun S=>by
 refine⟨⟨_,func191,by kernel_rfl,by kernel_rfl⟩,fun w σ β vs hS hv=> ?_⟩;obtain⟨u,v,t,rfl,⟨hu,_⟩,⟨hv,_⟩,⟨ht,_⟩⟩:=afI hv
 have hu0:u=.string ⟨s.toArray⟩:=by cases hu;rfl
 have hv0:v=.int .i64 (-999999999999):=by cases hv;rfl
 have ht0:t=.int .i64 999999999999:=by cases ht;rfl
 subst hu0 hv0 ht0;obtain⟨tp,p,hvar⟩:=T9 hS.uz;refine(Zh s hs tp p w (SQ hS.uz) hvar).mono fun e w' ⟨he,hb⟩=> ?_;have hg:Grow w σ w' σ:=TY hS.live hb
 exact⟨_,.dQ [(false,[.d (.i .i64 ((iA s).getD 0))]),(false,[.d (.b (iA s).isSome)])],S,σ,β,he,hS.grow hg,Keep.refl _ _,Step.oN hg,⟨_,rfl,rfl,fun j y hy=>by
  match j,hy with
  |0,hy=>simp at hy;subst hy;exact⟨_,rfl,_,rfl,.i _ _,rfl⟩
  |1,hy=>simp at hy;subst hy;exact⟨_,rfl,_,rfl,.b _,rfl⟩
  |j+2,hy=>simp at hy⟩,rfl,rfl⟩
theorem PW(s:List UInt8)(hs:s.length<=18):aH prog 130 [.c (.d (.s s))] (.dQ [(false,[.d (.i .i64 ((iA s).getD 0))]),(false,[.d (.b (iA s).isSome)])]):=fun S=>by
 refine aD (rs:=[.tmp 2,.tmp 3]) zmx func130 ntmps130 rfl rfl rfl rfl rfl ?_;refine W1 ?_;exact C4 (Ri s hs)
theorem Dx{l:List aj}(h2:2<=l.length)(h:dJ l 0=jv->3<=l.length):yF true l:=fun e=>by
 rcases e.2 with e|e
 ·omega
 ·have:=h e.1;omega
theorem Tf{x:aj}(h:iK x=true)(ha:x.aO=[]):jw x.ah=true:=by rw[D8,if_pos ha] at h;exact h
theorem afJ{x:aj}(h:iK x=true)(ha:x.aO≠[]):x.aO.length<=18:=by
 rw[D8,if_neg ha,Bool.and_eq_true] at h;have h1:=h.1;unfold validAtom at h1;rw[Bool.and_eq_true,decide_eq_true_eq] at h1;omega
theorem E8{x:aj}(h:iK x=true)(ha:x.ah≠[]):jw x.ah=true:=by
 by_cases e:x.aO=[]
 ·exact Tf h e
 ·rw[D8,if_neg e,Bool.and_eq_true,decide_eq_true_eq] at h;exact absurd (List.eq_nil_of_length_eq_zero h.2) ha
theorem ma0{x:aT}{n:Nat}(h:x=.mk [] [] l9):Less (.agg [.d (.s []),.bG [],.d (.i .i64 0),.d (.s []),.d (.s []),.d (.i .i64 0),.d (.i .i64 0),.d (.s []),.bG [],.bG [],.bG []]) (x.vl n):=by
 rw[h];exact(fG.cons (.refl _) (.cons (dV _) (.cons (.refl _) (.cons (.refl _) (.cons (.refl _) (.cons (.refl _) (.cons (.refl _) (.cons (.refl _) (.cons (dV _) (.cons (dV _) (.cons (dV _) .nil))))))))))).less
theorem KF:∀N:Nat,(∀x:aj,SizeOf.sizeOf x<N->∀n:Nat,iK x=true->x.sz<=4194304->aH prog 67 [x.v] ((eP true x).vl n))/\
 (∀xs:List aj,SizeOf.sizeOf xs<N->∀n q:Nat,jw xs=true->xs.length<=4194304->(∀t∈xs,t.sz<=4194304)->aH prog 131 [.c (.d (.sl (xs.map aj.enc)))] (.c (.d (.ol n (lE (xs.map (eP true)) q)))))/\
 (∀x:aj,SizeOf.sizeOf x<N->∀n:Nat,iK x=true->x.sz<=4194304->aH prog 133 [x.v] ((sG true x).vl n))
 |0=>⟨fun x h=>by omega,fun x h=>by omega,fun x h=>by omega⟩
 |N+1=>by
  obtain⟨ih,qQ,ihM⟩:=KF N;refine⟨fun x hn n hfo hsz=>aH.of_le fun S=> ?_,fun xs hn n q hfo hlen hsz S=> ?_,fun x hn n hfo hsz=>aH.of_le fun S=> ?_⟩
  ·have jX:=aj.vT x;have h1:=eG x;have h2:=AQ x
   have hall:∀t∈x.ah,t.sz<=4194304:=fun t ht=>by have:=iO ht;omega
   have hr:=gV (l:=x.ah);have hso:=fun i=>Bv i x.ah
   have hdl:∀i,(x.ah.drop i).length<=4194304:=fun i=>by rw[List.length_drop];omega
   have hda:∀i,∀t∈x.ah.drop i,t.sz<=4194304:=fun i t ht=>hall t (List.mem_of_mem_drop ht);have hdd:=oZ x.ah x.ah.length 1 (Nat.le_refl _);refine lN (n) (rs:=[.cell 2 28]) zmx func67 ntmps67 rfl rfl rfl rfl rfl ?_;refine W1 ?_;refine S0 (fun hb h=>?_) fun hb h=>?_
   ·have hne:=h;refine aZ (PW x.aO (afJ hfo hne)) ?_
    cases Ci:iA x.aO with
    |some m=>
     simp -implicitDefEqProofs (disch:=omega) only[go_sem,Option.getD_some,Option.isSome_some];exact ie0 (Xp hne Ci)
    |none=>
     simp -implicitDefEqProofs (disch:=omega) only[go_sem,Option.getD_none,Option.isSome_none];refine S0 (fun hb h=>?_) fun hb h=>?_
     ·exact ie0 (Td hne Ci h)
     have k1:=h;refine S0 (fun hb h=>?_) fun hb h=>?_
     ·exact ie0 (PV hne Ci k1 h)
     have k2:=h;exact ie0 (Xq hne Ci k1 k2)
   have ha:=h;have hfs:=Tf hfo ha;refine S0 (fun hb h=>?_) fun hb h=>?_
   ·exact ie0 (Tc ha fun e=>e ⟨rfl,.inl (by omega)⟩)
   have hl2:2<=x.ah.length:=by omega
   have a0:=jH (l:=x.ah) (i:=0) (by omega);obtain⟨m,hm⟩:∃m,m=x.ah.drop 1:=⟨_,rfl⟩
   have hml:m.length=x.ah.length-1:=by rw[hm,List.length_drop]
   have hmi:∀i (hi:i<m.length),m[i]=x.ah[i+1]'(by omega):=fun i hi=>by simp only[hm,List.getElem_drop,Nat.add_comm 1 i]
   have hrm:=gV (l:=m)
   have hmd:∀i,m.drop i=x.ah.drop (i+1):=fun i=>by rw[hm,List.drop_drop,Nat.add_comm 1 i]
   have hme:=fun i=>oZ m m.length i (Nat.le_refl _)
   have b1:dJ x.ah 1=(m[0]'(by omega)).aO:=by rw[hmi 0 (by omega),jH (by omega)]
   refine⟨⟨by omega,by omega,hr⟩,?_⟩;rw[hdd,<-hm];simp only[<-a0];refine S0 (fun hb h=>?_) fun hb h=>?_
   ·have hg:=Dx hl2 fun e=>by rw[h] at e;exact absurd e (by decide)
    have hdec:=SX ha hg h;refine W3 ?_;refine⟨⟨by omega,by omega,hrm⟩,?_⟩;rw[hme,hmd,<-b1];refine C1 (qQ (x.ah.drop 2) (by have:=hso 2;omega) (n+1) (n+1+1) (tK hfs 2) (hdl 2) (hda 2)) ?_;exact Xt hdec
   have acS:=h;refine S0 (fun hb h=>?_) fun hb h=>?_
   ·have hg:=Dx hl2 fun e=>by rw[h] at e;exact absurd e (by decide)
    have hdec:=Xm ha hg h;refine W3 ?_;refine⟨⟨by omega,by omega,hrm⟩,?_⟩;rw[hme,hmd,<-b1];refine C1 (qQ (x.ah.drop 2) (by have:=hso 2;omega) (n+1) (n+1+1) (tK hfs 2) (hdl 2) (hda 2)) ?_;exact Xt hdec
   have nNew:=h;refine S0 (fun hb h=>?_) fun hb h=>?_
   ·have hg:=Dx hl2 fun e=>by rw[h] at e;exact absurd e (by decide)
    have hdec:=Xn ha hg h;refine W3 ?_;refine⟨⟨by omega,by omega,hrm⟩,?_⟩;rw[hme,hmd,<-b1];refine C1 (qQ (x.ah.drop 2) (by have:=hso 2;omega) (n+1) (n+1+1) (tK hfs 2) (hdl 2) (hda 2)) ?_;exact Xt hdec
   have ai0:=h;refine S0 (fun hb h=>?_) fun hb h=>?_
   ·have hg:=Dx hl2 fun e=>by rw[h] at e;exact absurd e (by decide)
    have hdec:=SY ha hg h;refine W3 ?_;refine⟨⟨by omega,by omega,hrm⟩,?_⟩;rw[hme,hmd,<-b1];refine C1 (qQ (x.ah.drop 2) (by have:=hso 2;omega) (n+1) (n+1+1) (tK hfs 2) (hdl 2) (hda 2)) ?_;exact Xt hdec
   have acT:=h;refine S0 (fun hb h=>?_) fun hb h=>?_
   ·have hM:=h;refine S0 (fun hb h=>?_) fun hb h=>?_
    ·exact ie0 (Tc ha fun e=>e ⟨rfl,.inr ⟨hM,by omega⟩⟩)
    have hl3:3<=x.ah.length:=by omega
    have hg:=Dx hl2 fun _=>hl3;have hdec:=MB ha hg hM
    have b2:dJ x.ah 2=(m[1]'(by omega)).aO:=by rw[hmi 1 (by omega),jH (by omega)]
    refine W3 ?_;refine⟨⟨by omega,by omega,hrm⟩,?_⟩;rw[hme,hmd,<-b1,<-b2];refine C1 (qQ (x.ah.drop 3) (by have:=hso 3;omega) (n+1) (n+1+1) (tK hfs 3) (hdl 3) (hda 3)) ?_;exact Xt hdec
   have Lp:=h;have hg:=Dx hl2 fun e=>(Lp e).elim;refine S0 (fun hb h=>?_) fun hb h=>?_
   ·have hdec:=aaj ha hg h;rw[hm];refine C1 (qQ (x.ah.drop 1) (by have:=hso 1;omega) (n+1) (n+1+1) (tK hfs 1) (hdl 1) (hda 1)) ?_;exact Xt hdec
   have nIf:=h;refine S0 (fun hb h=>?_) fun hb h=>?_
   ·have hdec:=Xo ha hg h
    have g1:x.ah.getD 1 cu=m[0]'(by omega):=by rw[hmi 0 (by omega),List.getD_eq_getElem?_getD,List.getElem?_eq_getElem (by omega)];rfl
    have gz:=vE x 1 hsz;rw[g1] at hdec gz;refine W3 ?_;refine C1 (q9 m[0] n gz) ?_;refine⟨⟨by omega,by omega,hrm⟩,?_⟩;rw[hme,hmd];refine C1 (qQ (x.ah.drop 2) (by have:=hso 2;omega) (n+(gq (dO true m[0]).fArgs+1)) (n+(gq (dO true m[0]).fArgs+1)+1) (tK hfs 2) (hdl 2) (hda 2)) ?_;exact ie2 hdec
   have nThe:=h;refine S0 (fun hb h=>?_) fun hb h=>?_
   ·have hdec:=S9 ha hg h;refine⟨⟨by omega,hrm⟩,?_⟩;rw[<-List.map_take];refine C1 (qQ (m.take 1) (by have:=hso 1;have:=FL 1 m;rw[hm] at this ⊢;omega) (n+1) (n+1+1) (afH (by rw[hm];exact tK hfs 1) 1) (by rw[List.length_take];omega) (fun t ht=>hda 1 t (by rw[<-hm];exact List.mem_of_mem_take ht))) ?_;refine⟨⟨by omega,by omega,hrm⟩,?_⟩;rw[hme,hmd];obtain⟨zN,acU⟩:∃zN,zN=(m.take 1).map (eP true):=⟨_,rfl⟩;obtain⟨r,hrr⟩:∃r,r=x.ah.drop 2:=⟨_,rfl⟩
    have hrl:r.length=x.ah.length-2:=by rw[hrr,List.length_drop]
    have hrs:∀t∈r,t.sz<=4194304/\SizeOf.sizeOf t<N/\iK t=true:=fun t ht=>by
     rw[hrr] at ht;have h5:=List.mem_of_mem_drop ht;have:=List.sizeOf_lt_of_mem h5;exact⟨hda 2 t ht,by omega,xA hfs h5⟩
    obtain⟨q,hq⟩:∃q,q=n+1+(lF zN+1):=⟨_,rfl⟩;obtain⟨L,hL⟩:∃L:Nat->Nat,L=fun k=>q+1+acP ((r.map (sG true)).take k):=⟨_,rfl⟩;obtain⟨T,hT⟩:∃T:Nat->List (List D),T=fun k=>lM ((r.map (sG true)).take k) (q+1):=⟨_,rfl⟩
    have hT0:T 0=[]:=by rw[hT];rfl
    have iG:∀k,(T k).length<=k:=fun k=>by rw[hT];simp only[afE];exact List.length_take_le _ _
    have hTs:∀k (hk:k<r.length),T k++[eZ (sG true r[k]).enc (L k)]=T (k+1):=fun k hk=>by
     have:=alH (l:=r.map (sG true)) (i:=k) (by rw[List.length_map];exact hk) (q+1);rw[List.getElem_map] at this;rw[hT,hL];exact this
    have hTe:T r.length=lM (r.map (sG true)) (q+1):=by
     rw[hT];simp only
     rw[List.take_of_length_le (by simp)]
    clear hT hL;rw[<-hm,<-acU,<-hrr] at hdec;rw[<-acU,<-hrr];refine W1 ?_;refine qo q 3 8 11 _ rfl rfl ?_
    refine aU (ι:=Nat) zmx rfl [2,7,127,128,129] (fun k=>[.c (.ptr (0,2) 0),.c (.ptr (0,3) 0),.c (.d (.sl (r.map aj.enc))),.c (.d (.i .i64 r.length)),.c (.d (.i .i64 k))])
     (fun k=>[.seed n,.box [.d (.s x.aO),.d (.sl (x.ah.map aj.enc))],.box [.d (.i .i64 0),.d (.s []),.d (.s []),.d (.i .i64 0),.d (.i .i64 0),.d (.s []),.bG [],.bG [],.bG []],
       .box [.d (.i .i64 7),.d (.s []),.d (.s []),.d (.i .i64 0),.d (.i .i64 0),.d (.s []),.bG [],.d (.ol (n+1) (lE zN (n+1+1))),.bN (0,4) (T k)],.fu q 11 (T k)]::S)
     (fun k=>k<=r.length) (fun k=>r.length-k) 0 rfl (by rw[hT0];rfl) (Nat.zero_le _) ?_
    intro k hk;have hlk:=iG k;refine W1 ?_;refine S0 (fun hb h=>?_) fun hb h=>?_
    ·have hk':k<r.length:=by omega
     have hmm:=hrs _ (List.getElem_mem hk');have hs:=hTs k hk';simp only[aiZ,Xr,List.cons_append,List.nil_append] at hs;refine W3 ?_;refine C1 (ihM r[k] hmm.2.1 (L k) hmm.2.2 hmm.1) ?_;refine W3 ?_;rw[hs];exact bZ 5 (by decide) (k+1) (by omega) rfl rfl rfl rfl (by omega)
    ·have hk':k=r.length:=by omega
     rw[hk',hTe,hq];exact ie3 hdec
   have acV:=h;have hdec:=Ta ha hg acS nNew ai0 acT Lp nIf nThe acV;rw[hm];refine C1 (qQ (x.ah.drop 1) (by have:=hso 1;omega) (n+1) (n+1+1) (tK hfs 1) (hdl 1) (hda 1)) ?_;exact Xt hdec
  ·have Dj:=fun(i:Nat) (hi:i<xs.length)=>alG (l:=xs.map (eP true)) (i:=i) (by rw[List.length_map];exact hi) q;refine lN (n) (rs:=[.tmp 2]) zmx func131 ntmps131 rfl rfl rfl rfl rfl ?_;refine W1 ?_;refine W3 ?_;refine mU n 3 9 [] (.inl rfl) (by simp) ?_
   refine aU (ι:=Nat) zmx rfl [3,7,8,9] (fun i=>[.c (.bN (0,1) (lE ((xs.map (eP true)).take i) q)),.c (.d (.sl (xs.map aj.enc))),.c (.d (.i .i64 xs.length)),.c (.d (.i .i64 i))]) (fun i=>[.seed n,.fu n 9 (lE ((xs.map (eP true)).take i) q)]::S)
    (fun i=>i<=xs.length) (fun i=>xs.length-i) 0 rfl rfl (Nat.zero_le _) ?_
   intro i hi;refine W1 ?_;refine S0 (fun hb h=>?_) fun hb h=>?_
   ·have hi':i<xs.length:=by omega
    have hs:=Dj i hi';rw[List.getElem_map] at hs;simp only[Xr] at hs
    have hl:(lE ((xs.map (eP true)).take i) q).length<=i:=by rw[afD];exact List.length_take_le _ _
    refine W3 ?_;refine C1 (ih xs[i] (by have:=List.sizeOf_lt_of_mem (List.getElem_mem hi');omega) (q+lF ((xs.map (eP true)).take i)) (xA hfo (List.getElem_mem hi')) (hsz _ (List.getElem_mem hi'))) ?_;refine W3 ?_;rw[hs];exact bZ 2 (by decide) (i+1) (by omega) rfl rfl rfl rfl (by omega)
   ·have hi':i=(xs.map (eP true)).length:=by rw[List.length_map];omega
    rw[hi',List.take_length]
  ·have jX:=aj.vT x;have h1:=eG x
   have hall:∀t∈x.ah,t.sz<=4194304:=fun t ht=>by have:=iO ht;omega
   have hr:=gV (l:=x.ah);refine aD (rs:=[.cell 2 94]) zmx func133 ntmps133 rfl rfl rfl rfl rfl ?_;refine W1 ?_;refine S0 (fun hb h=>?_) fun hb h=>?_
   ·exact ma0 (aai true x (by omega))
   have hl2:2<=x.ah.length:=by omega
   have a0:=jH (l:=x.ah) (i:=0) (by omega);have hm:=List.getElem_mem (l:=x.ah) (n:=x.ah.length-1) (by omega);have hfs:=E8 hfo (fun e=>by rw[e] at hl2;simp at hl2);rw[aah true x hl2,a0];refine⟨⟨by omega,by omega,hr⟩,?_⟩;rw[Te _ hl2];refine C1 (z8 ((x.ah.drop 1).dropLast) (by rw[List.length_dropLast,List.length_drop];omega) n) ?_;refine W3 ?_
   have el:((x.ah.length:Int)-1).toNat=x.ah.length-1:=by omega
   simp only[el];refine C1 (ih (x.ah[x.ah.length-1]) (by have:=List.sizeOf_lt_of_mem hm;omega) (n+1) (xA hfs hm) (hall _ hm)) ?_;exact gL _
theorem Et(x:aj)(n:Nat)(hf:iK x=true)(hsz:x.sz<=4194304):aH prog 67 [x.v] ((eP true x).vl n):=(KF _).1 x (Nat.lt_succ_self _) n hf hsz
theorem KG{P:Program}{w:World}{t u ty e:TypeId}{base:Option Addr}{n:Nat}{i:TypeInfo}{z:Value}(ht:P.underlying t=some (.slice e))(hu:P.underlying u=some (.int .i64))(hi:P.info? e=some i)
 (hz:i.zero=some z) (h1:1<=n) (hn:n<=1073741824) (hb:i.bytes<=4096) (hs:i.size=z.cells.size):
 ∃(cap:Nat) (row:Array Value),n<=cap/\row.size=cap*z.cells.size/\(Builtin.append_ #[t,u] ty #[.slice base 0 0,.int .i64 n]).run P w=
  .ok (.slice (some ⟨w.heap.size,0,none⟩) n cap) {w.drew with heap:=w.heap.push (.cells row e)}:=by
 have hn1:=NR n 0 (by omega)
 have h48:¬(281474976710656<Builtin.nextslicecap n 0*i.bytes):=by
  have:Builtin.nextslicecap n 0*i.bytes<=(2*n+512)*4096:=Nat.mul_le_mul hn1 hb;omega
 have h49:¬(281474976710656<(n:Int)*(i.bytes:Int)):=by
  have h2:n*i.bytes<=1073741824*4096:=Nat.mul_le_mul hn hb
  have:(n:Int)*(i.bytes:Int)=((n*i.bytes:Nat):Int):=by simp
  rw[this];omega
 have h63':¬(9223372036854775807<(n:Int)):=by omega
 have hroom':¬(n<=0):=by omega
 have hneg:¬((n:Int)<0):=by omega
 have hn0:¬n=0:=by omega
 have hw:IntKind.i64.wrap (n:Int)=n:=K9 _ (by omega)
 have hmax:IntKind.i64.max=9223372036854775807:=by decide
 have ha:∀w:World,(asInt (.int .i64 (n:Int))).run P w=.ok (n:Int) w:=fun w=>by simp[asInt,asIntOf]
 let cap:=(Question.appendCap n 0 e).cut (w.tape w.drawn (Question.appendCap n 0 e))
 have hcap:n<=cap:=by simp[cap,Question.cut]
 refine⟨cap,#[]++(if n*i.size=0 then #[] else Builtin.zeroCells z.cells n)++Builtin.zeroCells z.cells (cap-n),hcap,?_,?_⟩
 ·by_cases h0:n*i.size=0
  ·rw[if_pos h0]
   have hsz:z.cells.size=0:=by
    rcases Nat.mul_eq_zero.1 h0 with h|h
    ·omega
    ·omega
   simp[Builtin.zeroCells,hsz]
  ·rw[if_neg h0];simp only[Builtin.zeroCells,Array.size_append,Array.size_map,Array.size_range,Array.size_empty,Nat.zero_add];rw[<-Nat.add_mul];congr 1;omega
 ·by_cases h0:n*i.size=0
  ·rw[if_pos h0];cases base<;>simp[Builtin.append_,run_underlying ht,run_underlying hu,sizeOf,typeInfo,zeroValue,hi,hz,hroom',h48,h49,h63',hneg,hw,hmax,Question.forced,newRow,ha,hn0,loadCellsFrom,h0,Builtin.firstCells,loadCells]<;>exact⟨rfl,rfl⟩
  ·rw[if_neg h0];cases base<;>simp[Builtin.append_,run_underlying ht,run_underlying hu,sizeOf,typeInfo,zeroValue,hi,hz,hroom',h48,h49,h63',hneg,hw,hmax,Question.forced,newRow,ha,hn0,loadCellsFrom,h0,Builtin.firstCells,loadCells]<;>exact⟨rfl,rfl⟩
theorem afK(base:Option Addr)(n:Nat)(h1:1<=n)(hn:n<=1073741824)(w:World):Calls prog 350 #[.slice base 0 0,.int .i64 n] w fun e w'=>
 ∃cap row,n<=cap/\row.size=cap/\e=.returned (.slice (some ⟨w.heap.size,0,none⟩) 0 cap)/\w'={w.drew with heap:=w.heap.push (.cells row 9)}:=by
 obtain⟨cap,row,hc,hr,hm⟩:=KG (P:=prog) (w:=w) (t:=34) (u:=3) (ty:=34) (e:=9) (base:=base) (n:=n) underlying34 underlying3 rfl rfl h1 hn (by decide +kernel) rfl
 have h0:¬((n:Int)<0):=by omega
 have h2:(0:Int)<n:=by omega
 go_enter func350,ntmps350
 go_wp2_with (at_builtin;refine Lib.wpList_append_run _ rfl _ _ _ _ rfl _ _ rfl rfl _ _ hm ?_)
 all_goals go_ret
 exact⟨cap,hc,row,hr.trans (Nat.mul_one _),rfl,rfl⟩
theorem acX(base:Option Addr)(w:World):Calls prog 350 #[.slice base 0 0,.int .i64 0] w fun e w'=>e=.returned (.slice base 0 0)/\w'=w:=by
 go_enter func350,ntmps350
 go_wp2
 all_goals go_ret
 exact⟨rfl,rfl⟩
theorem ai1(n:Nat)(hn:n<=1073741824)(bU:List Ab.Obj)(Ω:Store):dz prog 350 [.c (.bG []),.c (.d (.i .i64 n))] (bU::Ω)
 (fun r S'=>r=.c (.bN (0,bU.length) [])/\S'=(bU++[.tok 1 []])::Ω):=by
 refine⟨⟨_,func350,by kernel_rfl,by kernel_rfl⟩,fun w σ β vs hS hv=> ?_⟩;obtain⟨hl,h⟩:=hv;obtain⟨v0,e0,⟨h0,a,m,h00⟩,_⟩:=h 0 _ rfl;obtain⟨v1,e1,h1,_⟩:=h 1 _ rfl
 have h1':v1=.int .i64 n:=by cases h1;rfl
 subst h1'
 have hm:m=0:=by rw[h00] at h0;cases h0<;>rfl
 subst hm;subst h00
 have hvs:vs=[.slice a 0 0,.int .i64 n]:=by
  match vs,hl,e0,e1 with
  |[x,y],_,e0,e1=>simp at e0 e1;rw[e0,e1]
 subst hvs
 cases β with
 |nil=>have:=hS.shape.1;simp at this
 |cons bo bΩ=>
 have hlen:bo.length=bU.length:=by
  obtain⟨gr,g1,g2⟩:=hS.shape.2 0 bU rfl;simp at g1;rw[g1];exact g2
 by_cases hz:n=0
 ·subst hz;refine(acX a w).mono fun e w' ⟨he,hw⟩=> ?_;subst hw;obtain⟨hS',hk,hst⟩:=hS.push (o:=.tok 1 []) (h:=.slice a 0 0) (Grow.refl hS.live) hlen ⟨h0,by simp,a,0,rfl,by simp,.inl rfl⟩ (fun b hb=>by cases a<;>simp[owns,blk] at hb);refine⟨_,.c (.bN (0,bU.length) []),_,_,_,he,hS',hk,hst,⟨⟨h0,.tok 1 [],?_,fun aX es e=> ?_⟩,rfl⟩,rfl,rfl⟩
  ·rw[cZ]
  ·obtain⟨_,rfl⟩:=pR (lab:=none) e;exact⟨Nat.le_refl _,fun _=>by rw[<-hlen,cZ]⟩
 ·refine(afK a n (by omega) hn w).mono fun e w' ⟨cap,row,hc,hr,he,hw⟩=> ?_;subst hw;have hσ:σ w.heap.size=0:=(hS.live w.heap.size).resolve_left (by omega)
  have hg:Grow w σ {w.drew with heap:=w.heap.push (.cells row 9)} σ:=by
   refine⟨by simp,rfl,rfl,fun b hb=>⟨?_,rfl⟩,fun b=> ?_⟩
   ·simp only[Array.getElem?_push];rw[if_neg (by omega)]
   ·rcases hS.live b with hb|hb
    ·left;simp;omega
    ·exact .inr hb
  obtain⟨hS',hk,hst⟩:=hS.push (o:=.tok 1 []) (h:=.slice (some ⟨w.heap.size,0,none⟩) 0 cap) hg hlen ⟨.nil _ _,by simp,_,cap,rfl,by simp,.inr ⟨w.heap.size,0,row,9,rfl,by simp,by simp[hσ],by omega⟩⟩ (fun b hb=>by
   simp only[owns,blk] at hb;split at hb
   ·cases hb
   ·cases hb;exact Nat.le_refl _)
  refine⟨_,.c (.bN (0,bU.length) []),_,_,_,he,hS',hk,hst,⟨⟨.nil _ _,.tok 1 [],?_,fun aX es e=> ?_⟩,rfl⟩,rfl,rfl⟩
  ·rw[cZ]
  ·obtain⟨_,rfl⟩:=pR (lab:=none) e;exact⟨Nat.le_refl _,fun _=>by rw[<-hlen,cZ]⟩
theorem Eu{xs:List (List UInt8)}:∀y∈xs.map encS,y.length=1:=fun y hy=>by
 obtain⟨z,_,rfl⟩:=List.mem_map.1 hy;rfl
theorem Iy{α:Type}(xss:List (List α)){i:Nat}(hi:i<xss.length):(xss.take (i+1)).flatten.length=(xss.take i).flatten.length+xss[i].length:=by
 rw[List.take_succ_eq_append_getElem hi,List.flatten_append,List.length_append];simp only[List.flatten_cons,List.flatten_nil,List.append_nil]
theorem zu{α:Type}(xss:List (List α))(i:Nat):(xss.take i).flatten.length<=xss.flatten.length:=by
 conv=>rhs;rw[<-List.take_append_drop i xss]
 rw[List.flatten_append,List.length_append];omega
theorem acY(xss:List (List (List UInt8)))(hl:xss.length<=1073741824)(hf:xss.flatten.length<=1073741824):aH prog 337 [.c (.d (.sl (xss.map fun a=>[.sl (a.map encS)])))] (.c (.d (.sl (xss.flatten.map encS)))):=fun S=>by
 refine aD (rs:=[.tmp 2]) zmx func337 ntmps337 rfl rfl rfl rfl rfl ?_;refine W1 ?_
 refine aU (ι:=Nat) zmx rfl [0,3,9,10,11] (fun i=>[.c (.d (.sl (xss.map fun a=>[.sl (a.map encS)]))),.c (.d (.i .i64 (xss.take i).flatten.length)),.c (.d (.sl (xss.map fun a=>[.sl (a.map encS)]))),.c (.d (.i .i64 xss.length)),.c (.d (.i .i64 i))]) (fun _=>[]::S)
  (fun i=>i<=xss.length) (fun i=>xss.length-i) 0 rfl rfl (Nat.zero_le _) ?_
 rintro i p1;have hfi:=zu xss i;by_cases hi:i<xss.length
 ·have hs:=Iy xss hi;have ai2:=zu xss (i+1);refine W1 ?_;refine S0 (fun hb h=>?_) fun hb h=>?_
  ·refine W3 ?_;refine S0 (fun hb h=>?_) fun hb h=>?_
   ·omega
   ·refine bJ (i+1) (by omega) ?_ rfl (by omega);rw[hs];rfl
  ·omega
 have hi:i=xss.length:=by omega
 subst hi;refine W1 ?_;refine S0 (fun hb h=>?_) fun hb h=>?_
 ·omega
 rw[List.take_length];clear hfi;refine bg rfl (ai1 xss.flatten.length hf [] S) ?_;refine W1 ?_
 refine aU (ι:=Nat) zmx rfl [6,25,26,27] (fun i=>[.c (.bN (0,0) ((xss.take i).flatten.map encS)),.c (.d (.sl (xss.map fun a=>[.sl (a.map encS)]))),.c (.d (.i .i64 xss.length)),.c (.d (.i .i64 i))]) (fun i=>[.tok 1 ((xss.take i).flatten.map encS)]::S)
  (fun i=>i<=xss.length) (fun i=>xss.length-i) 0 rfl rfl (Nat.zero_le _) ?_
 rintro i p1;have hfi:=zu xss i;by_cases hi:i<xss.length
 ·have hs:=Iy xss hi;have ai2:=zu xss (i+1)
  have e:(xss.take (i+1)).flatten.map encS=(xss.take i).flatten.map encS++xss[i].map encS:=by
   rw[List.take_succ_eq_append_getElem hi,List.flatten_append,List.map_append];simp only[List.flatten_cons,List.flatten_nil,List.append_nil]
  refine W1 ?_;refine S0 (fun hb h=>?_) fun hb h=>?_
  ·refine W3 ?_;refine⟨Eu,⟨_,rfl,rfl⟩,by omega,?_⟩;exact bJ (i+1) (by omega) (by rw[e];rfl) (by rw[e]) (by omega)
  ·omega
 ·have hi:i=xss.length:=by omega
  subst hi;refine W1 ?_;refine S0 (fun hb h=>?_) fun hb h=>?_
  ·omega
  rw[List.take_length]
theorem acZ(c:Nat)(w:World):Calls prog 336 #[.slice none 0 c] w fun e w'=>e=.returned (.slice none 0 0)/\w'=w:=by
 have hb:(binOp .eql 34 (.slice none 0 c) (.slice none 0 0)).run prog w=.ok (.bool true) w:=by
  simp[binOp,run_equal_slice_nil w _ _ _ _ _ underlying34]
 go_enter func336,ntmps336
 go_wp2
 all_goals go_ret
 exact⟨rfl,rfl⟩
theorem ac0(w w':World)(a:Addr)(n c:Nat)(r:Value)(hm:(Builtin.append_ #[34,34] 34 #[.slice (some ⟨w.heap.size,0,none⟩) 0 0,.slice (some a) n c]).run prog (w.alloc (.cells #[] 9))=.ok r w'):
 Calls prog 336 #[.slice (some a) n c] w fun e w''=>e=.returned r/\w''=w':=by
 have hb:(binOp .eql 34 (.slice (some a) n c) (.slice none 0 0)).run prog w=.ok (.bool false) w:=by
  simp[binOp,run_equal_slice_nil w _ _ _ _ _ underlying34]
 go_enter func336,ntmps336
 go_wp2_with (at_builtin;refine Lib.wpList_append_run _ rfl _ _ _ _ rfl _ _ rfl rfl _ _ hm ?_)
 all_goals go_ret
 exact⟨rfl,rfl⟩
theorem afL(xs:List (List UInt8))(hx:xs.length<=1073741824)(bU:List Ab.Obj)(Ω:Store):dz prog 336 [.c (.d (.sl (xs.map encS)))] (bU::Ω)
 (fun r S'=>r=.c (.bN (0,bU.length) (xs.map encS))/\S'=(bU++[.tok 1 (xs.map encS)])::Ω):=by
 have apg:(xs.map encS).length<=1073741824:=by simpa using hx
 have h1:=Eu (xs:=xs)
 generalize xs.map encS=es at *
 refine⟨⟨_,func336,by kernel_rfl,by kernel_rfl⟩,fun w σ β vs hS hv=> ?_⟩;obtain⟨hl,h⟩:=hv;obtain⟨v,e0,hd,_⟩:=h 0 _ rfl;have hd:dI w σ (.sl es) v:=hd
 have hvs:vs=[v]:=by
  match vs,hl,e0 with
  |[x],_,e0=>simp at e0;rw[e0]
 subst hvs
 cases β with
 |nil=>have:=hS.shape.1;simp at this
 |cons bo bΩ=>
 have hlen:bo.length=bU.length:=by
  obtain⟨gr,g1,g2⟩:=hS.shape.2 0 bU rfl;simp at g1;rw[g1];exact g2
 have hv:∃a c,v=.slice a es.length c/\(a=none->es=[]):=by
  cases hd with
  |nil a cap=>exact⟨a,cap,rfl,fun _=>rfl⟩
  |sl b off cap aX es vals c t fz=>exact⟨_,_,rfl,fun h=>by cases h⟩
 obtain⟨a,c,rfl,ha⟩:=hv
 cases a with
 |none=>
  have:=ha rfl;subst this;refine(acZ c w).mono fun e w' ⟨he,hw⟩=> ?_;subst hw;obtain⟨hS',hk,hst⟩:=hS.push (o:=.tok 1 []) (h:=.slice none 0 0) (Grow.refl hS.live) hlen ⟨.nil _ _,by simp,none,0,rfl,by simp,.inl rfl⟩ (fun b hb=>by simp[owns,blk] at hb);refine⟨_,.c (.bN (0,bU.length) []),_,_,_,he,hS',hk,hst,⟨⟨.nil _ _,.tok 1 [],?_,fun aX es e=> ?_⟩,rfl⟩,rfl,rfl⟩
  ·rw[cZ]
  ·obtain⟨_,rfl⟩:=pR (lab:=none) e;exact⟨Nat.le_refl _,fun _=>by rw[<-hlen,cZ]⟩
 |some a=>
  have hσ:σ w.heap.size=0:=(hS.live w.heap.size).resolve_left (by omega)
  have hg:Grow w σ (w.alloc (.cells #[] 9)) σ:=by
   have hh:(w.alloc (.cells #[] 9)).heap=w.heap.push (.cells #[] 9):=rfl;refine⟨by rw[hh];simp,rfl,rfl,fun b hb=>⟨?_,rfl⟩,fun b=> ?_⟩
   ·rw[hh,Array.getElem?_push];rw[if_neg (by omega)]
   ·rcases hS.live b with hb|hb
    ·left;rw[hh];simp;omega
    ·exact .inr hb
  have Cm:iM (w.alloc (.cells #[] 9)) σ [] [] (.tok 1 []) (.slice (some ⟨w.heap.size,0,none⟩) 0 0):=⟨.nil _ _,by simp,_,0,rfl,by simp,.inl rfl⟩;obtain⟨r,w',σ',hr,hro,hsz,hos,hout,hn,hli,uE,hbk,hzero,h1c⟩:=zI (lab:=none) (P:=prog) (w:=w.alloc (.cells #[] 9)) (σ:=σ) (S:=[]) (β:=[]) (t:=34) (u:=34) (ty:=34) (e:=9) (size:=1) (es:=[]) (ys:=es) hg.live underlying34 (.inl ⟨_,underlying34⟩) ⟨[.d (.s [])],by kernel_rfl,rfl⟩ rfl (by decide +kernel) Cm (Ju (dI.mono hg.near hd) h1) (by simpa using apg);rw[List.nil_append] at hro hbk;refine(ac0 w w' a es.length c r hr).mono fun e w'' ⟨he,hw⟩=> ?_;subst hw;have hg2:Grow (w.alloc (.cells #[] 9)) σ w'' σ':=⟨hsz,hos,hout,fun b hb=>uE b hb (by simp[jL,owns,blk]),hli⟩;have hg3:=hg.trans hg2
  obtain⟨hS',hk,hst⟩:=hS.push (o:=.tok 1 es) (h:=r) hg3 hlen (hro _ _) (fun b hb=>by
   rcases hbk b hb with h|h
   ·simp[jL,owns,blk] at h
   ·exact Nat.le_trans hg.size h)
  refine⟨_,.c (.bN (0,bU.length) es),_,_,_,he,hS',hk,hst,⟨⟨(hro [] []).1,.tok 1 es,?_,fun aX es' e=> ?_⟩,h1c⟩,rfl,rfl⟩
  ·rw[cZ]
  ·obtain⟨_,rfl⟩:=pR (lab:=none) e;exact⟨Nat.le_refl _,fun _=>by rw[<-hlen,cZ]⟩
theorem dz.args{P:Program}{f:FuncId}{args args':List V}{S:Store}{post:V->Store->Prop}(h:dz P f args' S post)(hl:vI args args'):dz P f args S post:=h.weaken hl.length fun j x y hx hy w σ β v hr=>hl.at j x y hx hy w σ S β v hr
theorem o9(n:Nat)(es:List (List D)):Less (.c (.lU n es)) (.c (.d (.sl es))):=fun w σ S β v h=>⟨uD h.1.1,h.2⟩
theorem pq(xs:List (List UInt8))(hx:xs.length<=1073741824)(n q:Nat)(bU:List Ab.Obj)(Ω:Store):dz prog 139 [.c (.d (.sl (xs.map encS)))] (bU::Ω)
 (fun r S'=>r=.c (.bN (0,bU.length+1) (lx (aN xs) q))/\S'=(bU++[.seed n,.fu n 2 (lx (aN xs) q)])::Ω):=by
 refine acF (n) (rs:=[.tmp 2]) zmx func139 ntmps139 rfl rfl rfl rfl rfl ?_;refine W1 ?_;refine W3 ?_;refine mU n 3 2 [] (.inl rfl) (by simp) ?_
 refine aU (ι:=Nat) zmx rfl [3,7,8,9] (fun i=>[.c (.bN (0,1) (lx ((aN xs).take i) q)),.c (.d (.sl (xs.map encS))),.c (.d (.i .i64 xs.length)),.c (.d (.i .i64 i))]) (fun i=>[.seed n,.fu n 2 (lx ((aN xs).take i) q)]::bU::Ω)
  (fun i=>i<=xs.length) (fun i=>xs.length-i) 0 rfl rfl (Nat.zero_le _) ?_
 intro i hi;refine W1 ?_;refine S0 (fun hb h=>?_) fun hb h=>?_
 ·have hi':i<xs.length:=by omega
  have hw:i<(aN xs).length:=by rw[jN];exact hi'
  have hg:(aN xs)[i]=bI xs[i]:=by simp[aN]
  have hl:(lx ((aN xs).take i) q).length<=i:=by rw[iC];exact List.length_take_le _ _
  refine W3 ?_;refine C1 (dG xs[i] (q+jB ((aN xs).take i))) ?_;refine W3 ?_;have hs:=Ra hw q;rw[hg,xg] at hs;rw[hs];exact bJ (i+1) (by omega) rfl rfl (by omega)
 ·have hi':i=(aN xs).length:=by rw[jN];omega
  rw[hi',List.take_length];exact⟨rfl,rfl⟩
theorem afM(base:Option Addr)(n:Nat)(h1:1<=n)(hn:n<=1073741824)(w:World):Calls prog 202 #[.slice base 0 0,.int .i64 n] w fun e w'=>
 ∃cap row,n<=cap/\row.size=cap*2/\e=.returned (.slice (some ⟨w.heap.size,0,none⟩) 0 cap)/\w'={w.drew with heap:=w.heap.push (.cells row 54)}:=by
 obtain⟨cap,row,hc,hr,hm⟩:=KG (P:=prog) (w:=w) (t:=52) (u:=3) (ty:=52) (e:=54) (base:=base) (n:=n) underlying52 underlying3 rfl rfl h1 hn (by decide +kernel) rfl
 have h0:¬((n:Int)<0):=by omega
 have h2:(0:Int)<n:=by omega
 go_enter func202,ntmps202
 go_wp2_with (at_builtin;refine Lib.wpList_append_run _ rfl _ _ _ _ rfl _ _ rfl rfl _ _ hm ?_)
 all_goals go_ret
 exact⟨cap,hc,row,hr,rfl,rfl⟩
theorem ac1(base:Option Addr)(w:World):Calls prog 202 #[.slice base 0 0,.int .i64 0] w fun e w'=>e=.returned (.slice base 0 0)/\w'=w:=by
 go_enter func202,ntmps202
 go_wp2
 all_goals go_ret
 exact⟨rfl,rfl⟩
theorem afN(m n:Nat)(hn:n<=1073741824)(bU:List Ab.Obj)(Ω:Store):dz prog 202 [.c (.bG []),.c (.d (.i .i64 n))] (bU::Ω)
 (fun r S'=>r=.c (.bN (0,bU.length) [])/\S'=(bU++[.fu m 2 []])::Ω):=by
 refine⟨⟨_,func202,by kernel_rfl,by kernel_rfl⟩,fun w σ β vs hS hv=> ?_⟩;obtain⟨hl,h⟩:=hv;obtain⟨v0,e0,⟨h0,a,m',h00⟩,_⟩:=h 0 _ rfl;obtain⟨v1,e1,h1,_⟩:=h 1 _ rfl
 have h1':v1=.int .i64 n:=by cases h1;rfl
 subst h1'
 have hm:m'=0:=by rw[h00] at h0;cases h0<;>rfl
 subst hm;subst h00
 have hvs:vs=[.slice a 0 0,.int .i64 n]:=by
  match vs,hl,e0,e1 with
  |[x,y],_,e0,e1=>simp at e0 e1;rw[e0,e1]
 subst hvs
 cases β with
 |nil=>have:=hS.shape.1;simp at this
 |cons bo bΩ=>
 have hlen:bo.length=bU.length:=by
  obtain⟨gr,g1,g2⟩:=hS.shape.2 0 bU rfl;simp at g1;rw[g1];exact g2
 by_cases hz:n=0
 ·subst hz;refine(ac1 a w).mono fun e w' ⟨he,hw⟩=> ?_;subst hw;obtain⟨hS',hk,hst⟩:=hS.push (o:=.fu m 2 []) (h:=.slice a 0 0) (Grow.refl hS.live) hlen ⟨h0,by simp,a,0,rfl,by simp,.inl ⟨rfl,.vZ _ _ _⟩⟩ (fun b hb=>by cases a<;>simp[owns,blk] at hb);refine⟨_,.c (.bN (0,bU.length) []),_,_,_,he,hS',hk,hst,⟨⟨h0,.fu m 2 [],?_,fun aX es e=> ?_⟩,rfl⟩,rfl,rfl⟩
  ·rw[cZ]
  ·obtain⟨_,rfl⟩:=pR (lab:=some m) e;exact⟨Nat.le_refl _,fun _=>by rw[<-hlen,cZ]⟩
 ·refine(afM a n (by omega) hn w).mono fun e w' ⟨cap,row,hc,hr,he,hw⟩=> ?_;subst hw;have hσ:σ w.heap.size=0:=(hS.live w.heap.size).resolve_left (by omega)
  have hg:Grow w σ {w.drew with heap:=w.heap.push (.cells row 54)} σ:=by
   refine⟨by simp,rfl,rfl,fun b hb=>⟨?_,rfl⟩,fun b=> ?_⟩
   ·simp only[Array.getElem?_push];rw[if_neg (by omega)]
   ·rcases hS.live b with hb|hb
    ·left;simp;omega
    ·exact .inr hb
  obtain⟨hS',hk,hst⟩:=hS.push (o:=.fu m 2 []) (h:=.slice (some ⟨w.heap.size,0,none⟩) 0 cap) hg hlen ⟨.nil _ _,by simp,_,cap,rfl,by simp,.inr ⟨by simp;omega,w.heap.size,0,row,54,rfl,by simp,by simp[hσ],by omega⟩⟩ (fun b hb=>by
   simp only[owns,blk] at hb;split at hb
   ·cases hb
   ·cases hb;exact Nat.le_refl _)
  refine⟨_,.c (.bN (0,bU.length) []),_,_,_,he,hS',hk,hst,⟨⟨.nil _ _,.fu m 2 [],?_,fun aX es e=> ?_⟩,rfl⟩,rfl,rfl⟩
  ·rw[cZ]
  ·obtain⟨_,rfl⟩:=pR (lab:=some m) e;exact⟨Nat.le_refl _,fun _=>by rw[<-hlen,cZ]⟩
theorem Zi(m l:Nat)(xss:List (Nat×List (List D)))(hl:xss.length<=1073741824)(hr:∀p∈xss,∀r∈p.2,r.length=2)(hf:(xss.map (·.2)).flatten.length<=1073741824):aH prog 141 [.c (.lU l (xss.map fun p=>[.ol p.1 p.2]))] (.c (.d (.ol m (xss.map (·.2)).flatten))):=fun S=>by
 obtain⟨ys,hys⟩:∃ys:List (List (List D)),ys=xss.map (·.2):=⟨_,rfl⟩;rw[<-hys] at hf ⊢
 have hyl:ys.length=xss.length:=by rw[hys,List.length_map]
 have hyi:∀i (hi:i<xss.length),ys[i]'(by omega)=xss[i].2:=fun i hi=>by simp[hys]
 have NU:∀i (hi:i<xss.length),∀r∈xss[i].2,r.length=2:=fun i hi=>hr _ (List.getElem_mem hi);refine lN (m) (rs:=[.tmp 2]) zmx func141 ntmps141 rfl rfl rfl rfl rfl ?_;refine W1 ?_
 refine aU (ι:=Nat) zmx rfl [0,3,9,10,11] (fun i=>[.c (.lU l (xss.map fun p=>[.ol p.1 p.2])),.c (.d (.i .i64 (ys.take i).flatten.length)),.c (.lU l (xss.map fun p=>[.ol p.1 p.2])),.c (.d (.i .i64 xss.length)),.c (.d (.i .i64 i))]) (fun _=>[.seed m]::S)
  (fun i=>i<=xss.length) (fun i=>xss.length-i) 0 rfl rfl (Nat.zero_le _) ?_
 rintro i p1;have hfi:=zu ys i;by_cases hi:i<xss.length
 ·have hs:=Iy ys (i:=i) (by omega);rw[hyi i hi] at hs;have ai2:=zu ys (i+1);refine W1 ?_;refine S0 (fun hb h=>?_) fun hb h=>?_
  ·refine W3 ?_;refine S0 (fun hb h=>?_) fun hb h=>?_
   ·omega
   ·refine bJ (i+1) (by omega) ?_ rfl (by omega);rw[hs];rfl
  ·omega
 have hi:i=xss.length:=by omega
 subst hi;refine W1 ?_;refine S0 (fun hb h=>?_) fun hb h=>?_
 ·omega
 rw[<-hyl,List.take_length];clear hfi;refine bg rfl (afN m ys.flatten.length hf [.seed m] S) ?_;refine W1 ?_
 refine aU (ι:=Nat) zmx rfl [6,25,26,27] (fun i=>[.c (.bN (0,1) (ys.take i).flatten),.c (.lU l (xss.map fun p=>[.ol p.1 p.2])),.c (.d (.i .i64 xss.length)),.c (.d (.i .i64 i))]) (fun i=>[.seed m,.fu m 2 (ys.take i).flatten]::S)
  (fun i=>i<=xss.length) (fun i=>xss.length-i) 0 (by rw[<-hyl];rfl) rfl (Nat.zero_le _) ?_
 rintro i p1;have hfi:=zu ys i;by_cases hi:i<xss.length
 ·have hs:=Iy ys (i:=i) (by omega);rw[hyi i hi] at hs;have ai2:=zu ys (i+1)
  have e:(ys.take (i+1)).flatten=(ys.take i).flatten++xss[i].2:=by
   rw[List.take_succ_eq_append_getElem (by omega),List.flatten_append,hyi i hi];simp only[List.flatten_cons,List.flatten_nil,List.append_nil]
  have Ci:=NU i hi;refine W1 ?_;refine S0 (fun hb h=>?_) fun hb h=>?_
  ·refine W3 ?_;exact bJ (i+1) (by omega) (by rw[e];rfl) (by rw[e]) (by omega)
  ·omega
 ·have hi:i=ys.length:=by omega
  refine W1 ?_;refine S0 (fun hb h=>?_) fun hb h=>?_
  ·omega
  rw[hi,List.take_length]
theorem kR{x:au}{k:Int}(h:x.aJ=k):jr x.aJ x.bD x.fName x.fType=jr k x.bD x.fName x.fType:=by rw[h]
theorem Tg{l:List au}{t:au}(h:t∈l):t.sz<=vK l:=by
 rw[<-Nb];exact dD (List.mem_map_of_mem h)
theorem PX{l:List aT}{t:aT}(h:t∈l):t.sz<=CK l:=by
 rw[<-Nc];exact dD (List.mem_map_of_mem h)
theorem FN:∀{xs:List au},mW xs=true<->∀t∈xs,iW t=true
 |[]=>by simp[mW]
 |t::ts=>by simp[mW,FN (xs:=ts)]
theorem Iz:∀{xs:List aT},qC xs=true<->∀t∈xs,xI t=true
 |[]=>by simp[qC]
 |t::ts=>by simp[qC,Iz (xs:=ts)]
theorem mq{x:au}(h1:x.aJ≠1)(h2:x.aJ≠2)(h3:x.aJ≠3)(h:x.aJ=4\/x.aJ=5\/x.aJ=6\/x.aJ=8\/x.aJ=9\/x.aJ=10\/x.aJ=11\/x.aJ=12):
 fq x=bC (jr x.aJ x.bD x.fName x.fType++x.fArgs.map fq):=by rw[Kv,if_neg h1,if_neg h2,if_neg h3,if_pos h,List.append_nil]
theorem PY:∀N:Nat,∀x:au,SizeOf.sizeOf x<N->∀n:Nat,iW x=true->x.sz<=4194304->aH prog 70 [x.v] (.agg [.d (.s (fq x).aO),.d (.ol n (lx (fq x).ah (n+1)))])
 |0=>fun x h=>by omega
 |N+1=>by
  have ih:=PY N;intro x hn n hok hsz S;have jX:=au.gP x;have Bp:=au.pW x;have hzz:=yS x;rw[zf,Bool.and_eq_true,Bool.and_eq_true] at hok;obtain⟨hfi,hoa,Xv⟩:=hok;have hfi:=gG hfi;have hoa:=FN.1 hoa;have Xv:=Iz.1 Xv;obtain⟨qa,Al⟩:∃qa,qa=n+1+jB (jr x.aJ x.bD x.fName x.fType):=⟨_,rfl⟩;obtain⟨T,hT⟩:∃T:Nat->List (List D),T=fun i=>lx ((x.fArgs.map fq).take i) qa:=⟨_,rfl⟩
  have hT0:T 0=[]:=by rw[hT];rfl
  have iG:∀i,(T i).length<=i:=fun i=>by rw[hT];simp only[iC];exact List.length_take_le _ _
  have hTr:∀i,∀r∈T i,r.length=2:=fun i=>by rw[hT];exact lZ
  have hTs:∀i (hi:i<x.fArgs.length),T i++[[.s (fq x.fArgs[i]).aO,.ol (qa+jB ((x.fArgs.map fq).take i)) (lx (fq x.fArgs[i]).ah (qa+jB ((x.fArgs.map fq).take i)+1))]]=T (i+1):=fun i hi=>by
   have:=Io (l:=x.fArgs.map fq) (i:=i) (by rw[List.length_map];exact hi) qa;rw[List.getElem_map] at this;rw[hT];exact this
  have hTe:T x.fArgs.length=lx (x.fArgs.map fq) qa:=by rw[hT];simp only;rw[List.take_of_length_le (by simp)]
  clear hT;refine lN (n) (rs:=[.cell 2 54]) zmx func70 ntmps70 rfl rfl rfl rfl rfl ?_;refine W1 ?_;refine W3 ?_;refine mU n 3 2 [] (.inl rfl) (by simp) ?_
  refine aU (ι:=Nat) zmx rfl [1,2,3,11,12,13] (fun i=>[.c (.ptr (0,1) 0),.c (.ptr (0,2) 0),.c (.bN (0,3) (T i)),.c (.d (.sl (x.fArgs.map au.enc))),.c (.d (.i .i64 x.fArgs.length)),.c (.d (.i .i64 i))])
   (fun i=>[.seed n,.box [.d (.i .i64 x.aJ),.d (.s x.bD),.d (.s x.fName),.d (.i .i64 x.fN),.d (.i .i64 x.fType.aJ),.d (.s x.fType.fName),.d (.sl (x.fType.fArgs.map ak.enc)),.d (.sl (x.fArgs.map au.enc)),.d (.sl (x.aR.map aT.enc))],.box [.d (.s []),.bG []],.fu n 2 (T i)]::S)
   (fun i=>i<=x.fArgs.length) (fun i=>x.fArgs.length-i) 0 (by rw[hT0];rfl) (by rw[hT0];rfl) (Nat.zero_le _) ?_
  intro i hi;have hl:=iG i;refine W1 ?_;refine S0 (fun hb h=>?_) fun hb h=>?_
  ·have hi':i<x.fArgs.length:=by omega
   have hm:=List.getElem_mem hi';have hez:=Tg hm;have hs:=hTs i hi';refine W3 ?_;refine C1 (ih x.fArgs[i] (by have:=List.sizeOf_lt_of_mem hm;omega) (qa+jB ((x.fArgs.map fq).take i)) (hoa _ hm) (by omega)) ?_;refine W3 ?_;rw[hs];exact bZ 4 (by decide) (i+1) (by omega) rfl rfl rfl rfl (by omega)
  have hi':i=x.fArgs.length:=by omega
  subst hi';clear hTs hi h hb;have hTT:=hTr x.fArgs.length;have hxe:=Kv x;refine S0 (fun hb h=>?_) fun hb h=>?_
  ·rw[if_pos h] at hxe;rw[hxe];have hb:=hfi.2.2.2.1;rw[if_pos h] at hb;refine C1 (Ng x.fN (by omega) (by omega)) ?_;refine C1 (dG _ n) ?_;rfl
  have k1:=h;rw[if_neg h] at hxe;refine S0 (fun hb h=>?_) fun hb h=>?_
  ·rw[if_pos h] at hxe;rw[hxe];refine S0 (fun hb h=>?_) fun hb h=>?_
   ·rw[if_pos h];refine C1 (dG _ n) ?_;rfl
   ·rw[if_neg h];refine C1 (dG _ n) ?_;rfl
  have k2:=h;rw[if_neg h] at hxe;refine S0 (fun hb h=>?_) fun hb h=>?_
  ·rw[if_pos h] at hxe;rw[hxe];refine C1 (dG _ n) ?_;rfl
  have k3:=h;clear hxe;refine S0 (fun hb h=>?_) fun hb h=>?_
  ·have hx:=mq k1 k2 k3 (by omega)
   have hh:jr x.aJ x.bD x.fName x.fType=aN [qw,x.fName]:=by rw[kR h];rfl
   rw[hh] at hx Al;refine W3 ?_;refine bg rfl (dz.args (pq [qw,x.fName] (by simp) n (n+1) _ _) (.cons (o9 n _) .nil)) ?_
   have I6:(lx (aN [qw,x.fName]) (n+1)).length=2:=by rw[iC];rfl
   have Ti:=lZ (l:=aN [qw,x.fName]) (n:=n+1);refine W1 ?_;refine W3 ?_;refine bg rfl (kE 0 5 _ _) ?_;refine W1 ?_;rw[hx,hTe,Al,dW,dH,nP]
  have k4:=h;refine S0 (fun hb h=>?_) fun hb h=>?_
  ·have hx:=mq k1 k2 k3 (by omega)
   have hh:jr x.aJ x.bD x.fName x.fType=aN [jv,x.bD,x.fName]:=by rw[kR h];rfl
   rw[hh] at hx Al;refine W3 ?_;refine bg rfl (dz.args (pq [jv,x.bD,x.fName] (by simp) n (n+1) _ _) (.cons (o9 n _) .nil)) ?_
   have I6:(lx (aN [jv,x.bD,x.fName]) (n+1)).length=3:=by rw[iC];rfl
   have Ti:=lZ (l:=aN [jv,x.bD,x.fName]) (n:=n+1);refine W1 ?_;refine W3 ?_;refine bg rfl (kE 0 5 _ _) ?_;refine W1 ?_;rw[hx,hTe,Al,dW,dH,nP]
  have k5:=h;refine S0 (fun hb h=>?_) fun hb h=>?_
  ·have hx:=mq k1 k2 k3 (by omega)
   have hh:jr x.aJ x.bD x.fName x.fType=aN [tY,x.fName]:=by rw[kR h];rfl
   rw[hh] at hx Al;refine W3 ?_;refine bg rfl (dz.args (pq [tY,x.fName] (by simp) n (n+1) _ _) (.cons (o9 n _) .nil)) ?_
   have I6:(lx (aN [tY,x.fName]) (n+1)).length=2:=by rw[iC];rfl
   have Ti:=lZ (l:=aN [tY,x.fName]) (n:=n+1);refine W1 ?_;refine W3 ?_;refine bg rfl (kE 0 5 _ _) ?_;refine W1 ?_;rw[hx,hTe,Al,dW,dH,nP]
  have k6:=h;refine S0 (fun hb h=>?_) fun hb h=>?_
  ·have hx:=Kv x;rw[if_neg k1,if_neg k2,if_neg k3,if_neg (by omega)] at hx
   have hh:jr x.aJ x.bD x.fName x.fType=aN [lD]:=by rw[kR h];rfl
   rw[hh] at hx Al;obtain⟨B,hB⟩:∃B:Nat->List (List D),B=fun i=>lx (x.fArgs.map fq++(x.aR.map Ak).take i) qa:=⟨_,rfl⟩;obtain⟨L,hL⟩:∃L:Nat->Nat,L=fun i=>qa+jB (x.fArgs.map fq++(x.aR.map Ak).take i):=⟨_,rfl⟩
   have hB0:T x.fArgs.length=B 0:=by rw[hTe,hB];simp only[List.take_zero,List.append_nil]
   have hBl:∀i,(B i).length<=i+x.fArgs.length:=fun i=>by
    rw[hB];simp only[iC,List.length_append,List.length_map];have:=List.length_take_le i (x.aR.map Ak);omega
   have hBr:∀i,∀r∈B i,r.length=2:=fun i=>by rw[hB];exact lZ
   have hBs:∀i (hi:i<x.aR.length),B i++[[.s [],.ol (L i) (lx ([bI x.aR[i].dN]++aN x.aR[i].aG++[fq x.aR[i].fBody]) (L i+1))]]=B (i+1):=fun i hi=>by
    have:=AJ (base:=x.fArgs.map fq) (l:=x.aR.map Ak) (i:=i) (by rw[List.length_map];exact hi) qa;rw[List.getElem_map,afu,dW,dH] at this;rw[hB,hL];exact this
   have hBe:B x.aR.length=lx (x.fArgs.map fq++x.aR.map Ak) qa:=by rw[hB];simp only;rw[List.take_of_length_le (by simp)]
   clear hB hL hTT;refine W3 ?_;refine bg rfl (dz.args (pq [lD] (by simp) n (n+1) _ _) (.cons (o9 n _) .nil)) ?_
   have I6:(lx (aN [lD]) (n+1)).length=1:=by rw[iC];rfl
   have Ti:=lZ (l:=aN [lD]) (n:=n+1);refine W1 ?_;rw[hB0];obtain⟨HD,hHD⟩:∃HD,HD=lx (aN [lD]) (n+1):=⟨_,rfl⟩;rw[<-hHD] at I6 Ti ⊢
   refine aU (ι:=Nat) zmx rfl [2,3,6,69,70,71] (fun i=>[.c (.ptr (0,2) 0),.c (.bN (0,3) (B i)),.c (.bN (0,5) HD),.c (.d (.sl (x.aR.map aT.enc))),.c (.d (.i .i64 x.aR.length)),.c (.d (.i .i64 i))])
    (fun i=>[.seed n,.box [.d (.i .i64 x.aJ),.d (.s x.bD),.d (.s x.fName),.d (.i .i64 x.fN),.d (.i .i64 x.fType.aJ),.d (.s x.fType.fName),.d (.sl (x.fType.fArgs.map ak.enc)),.d (.sl (x.fArgs.map au.enc)),.d (.sl (x.aR.map aT.enc))],.box [.d (.s []),.bG []],.fu n 2 (B i),.seed n,.fu n 2 HD]::S)
    (fun i=>i<=x.aR.length) (fun i=>x.aR.length-i) 0 rfl rfl (Nat.zero_le _) ?_
   intro i hi;have hl:=hBl i;have hr:=hBr i;refine W1 ?_;refine S0 (fun hb h=>?_) fun hb h=>?_
   ·have hi':i<x.aR.length:=by omega
    have hm:=List.getElem_mem hi';have hez:=PX hm;have hea:=Ca x.aR[i];have hs:=hBs i hi';have hak:=Xv _ hm;rw[tV,Bool.and_eq_true,Bool.and_eq_true] at hak;have hls:=List.sizeOf_lt_of_mem hm;have hlb:=aT.oO x.aR[i];refine W3 ?_;refine oD (Cv [x.aR[i].dN] (by simp) 0 (L i+1)) (.cons (o9 n _) .nil) ?_;refine W1 ?_;refine C1 (Cv x.aR[i].aG (by omega) 0 (L i+1+jB (aN [x.aR[i].dN]))) ?_;refine C1 (ih x.aR[i].fBody (by omega) (L i+1+jB (aN [x.aR[i].dN]++aN x.aR[i].aG)) hak.2.2 (by omega)) ?_;refine W3 ?_;refine aZ (Zi (L i) n [(0,lx (aN [x.aR[i].dN]) (L i+1)),(0,lx (aN x.aR[i].aG) (L i+1+jB (aN [x.aR[i].dN]))),(n,[[.s (fq x.aR[i].fBody).aO,.ol (L i+1+jB (aN [x.aR[i].dN]++aN x.aR[i].aG)) (lx (fq x.aR[i].fBody).ah (L i+1+jB (aN [x.aR[i].dN]++aN x.aR[i].aG)+1))]])] (by simp) ?_ ?_) ?_
    ·intro p hp;simp only[List.mem_cons,List.not_mem_nil,or_false] at hp;rcases hp with rfl|rfl|rfl
     ·exact lZ
     ·exact lZ
     ·simp
    ·simp only[List.map_cons,List.map_nil,List.flatten_cons,List.flatten_nil,List.length_append,iC,jN,List.length_cons,List.length_nil];omega
    refine W1 ?_;refine C1 (l6 _) ?_;refine W3 ?_
    have hrow:[lx (aN [x.aR[i].dN]) (L i+1),lx (aN x.aR[i].aG) (L i+1+jB (aN [x.aR[i].dN])),[[.s (fq x.aR[i].fBody).aO,.ol (L i+1+jB (aN [x.aR[i].dN]++aN x.aR[i].aG)) (lx (fq x.aR[i].fBody).ah (L i+1+jB (aN [x.aR[i].dN]++aN x.aR[i].aG)+1))]]].flatten=lx ([bI x.aR[i].dN]++aN x.aR[i].aG++[fq x.aR[i].fBody]) (L i+1):=by
     have e1:[bI x.aR[i].dN]=aN [x.aR[i].dN]:=rfl;rw[e1,nP,nP,jT (fq x.aR[i].fBody) [],nO,j6 (fq x.aR[i].fBody)];simp only[List.flatten_cons,List.flatten_nil,List.append_nil,List.append_assoc]
    rw[hrow,hs];exact bZ 6 (by decide) (i+1) (by omega) rfl rfl rfl rfl (by omega)
   ·have hi':i=x.aR.length:=by omega
    subst hi';have hr2:=hBr x.aR.length;refine W3 ?_;refine bg rfl (kE 0 5 _ _) ?_;refine W1 ?_;rw[hx,hBe,Al,hHD,dW,dH,List.append_assoc,nP (aN [lD])]
  have k7:=h;refine S0 (fun hb h=>?_) fun hb h=>?_
  ·have hx:=mq k1 k2 k3 (by omega)
   have hh:jr x.aJ x.bD x.fName x.fType=aN [tZ,x.fName]:=by rw[kR h];rfl
   rw[hh] at hx Al;refine W3 ?_;refine bg rfl (dz.args (pq [tZ,x.fName] (by simp) n (n+1) _ _) (.cons (o9 n _) .nil)) ?_
   have I6:(lx (aN [tZ,x.fName]) (n+1)).length=2:=by rw[iC];rfl
   have Ti:=lZ (l:=aN [tZ,x.fName]) (n:=n+1);refine W1 ?_;refine W3 ?_;refine bg rfl (kE 0 5 _ _) ?_;refine W1 ?_;rw[hx,hTe,Al,dW,dH,nP]
  have k8:=h;refine S0 (fun hb h=>?_) fun hb h=>?_
  ·have hx:=mq k1 k2 k3 (by omega)
   have hh:jr x.aJ x.bD x.fName x.fType=aN [yA]:=by rw[kR h];rfl
   rw[hh] at hx Al;refine W3 ?_;refine bg rfl (dz.args (pq [yA] (by simp) n (n+1) _ _) (.cons (o9 n _) .nil)) ?_
   have I6:(lx (aN [yA]) (n+1)).length=1:=by rw[iC];rfl
   have Ti:=lZ (l:=aN [yA]) (n:=n+1);refine W1 ?_;refine W3 ?_;refine bg rfl (kE 0 5 _ _) ?_;refine W1 ?_;rw[hx,hTe,Al,dW,dH,nP]
  have k9:=h;refine S0 (fun hb h=>?_) fun hb h=>?_
  ·have hx:=mq k1 k2 k3 (by omega)
   have hh:jr x.aJ x.bD x.fName x.fType=aN [x.fName]:=by rw[kR h];rfl
   rw[hh] at hx Al;refine W3 ?_;refine bg rfl (dz.args (pq [x.fName] (by simp) n (n+1) _ _) (.cons (o9 n _) .nil)) ?_
   have I6:(lx (aN [x.fName]) (n+1)).length=1:=by rw[iC];rfl
   have Ti:=lZ (l:=aN [x.fName]) (n:=n+1);refine W1 ?_;refine W3 ?_;refine bg rfl (kE 0 5 _ _) ?_;refine W1 ?_;rw[hx,hTe,Al,dW,dH,nP]
  have k10:=h;refine S0 (fun hb h=>?_) fun hb h=>?_
  ·have hx:=mq k1 k2 k3 (by omega)
   have hh:jr x.aJ x.bD x.fName x.fType=aN [qx,x.bD]:=by rw[kR h];rfl
   rw[hh] at hx Al;refine W3 ?_;refine bg rfl (dz.args (pq [qx,x.bD] (by simp) n (n+1) _ _) (.cons (o9 n _) .nil)) ?_
   have I6:(lx (aN [qx,x.bD]) (n+1)).length=2:=by rw[iC];rfl
   have Ti:=lZ (l:=aN [qx,x.bD]) (n:=n+1);refine W1 ?_;refine W3 ?_;refine bg rfl (kE 0 5 _ _) ?_;refine W1 ?_;rw[hx,hTe,Al,dW,dH,nP]
  have k11:=h;refine S0 (fun hb h=>?_) fun hb h=>?_
  ·have hx:=mq k1 k2 k3 (by omega)
   have hh:jr x.aJ x.bD x.fName x.fType=[bI uM,cK x.fType]:=by rw[kR h];rfl
   rw[hh] at hx Al;have hty:=hfi.2.2.2.2.1;rw[if_pos h] at hty;refine C1 (dG _ (n+1)) ?_;refine C1 (l7 x.fType (n+1+1) (wQ hty) (by omega)) ?_;refine W3 ?_;refine bg rfl (kE 0 4 _ _) ?_;refine W1 ?_;rw[hx,hTe,Al,dW,dH,nP];simp only[jT,nO,j6,kU,kV,j4,acH,afp,uM,List.cons_append,List.nil_append]
  ·have:=hfi.1;omega
theorem Aa(x:au)(n:Nat)(hok:iW x=true)(hsz:x.sz<=4194304):aH prog 70 [x.v] (.agg [.d (.s (fq x).aO),.d (.ol n (lx (fq x).ah (n+1)))]):=PY _ x (Nat.lt_succ_self _) n hok hsz
theorem rW(hd:List aj)(xs:List au)(S:Store)(hA:∀t∈xs,aH prog 64 [t.v] (fq t).v)(hl:xs.length<=4194304)(hh:hd.length<=4):dz prog 121 [.c (.bG (hd.map aj.enc)),.c (.d (.sl (xs.map au.enc)))] S
 (fun r S'=>r=.agg [.d (.s []),.d (.sl ((hd++xs.map fq).map aj.enc))]/\S'=S):=by
 obtain⟨T,hT⟩:∃T:Nat->List (List D),T=fun i=>(hd++(xs.map fq).take i).map aj.enc:=⟨_,rfl⟩
 have hT0:T 0=hd.map aj.enc:=by rw[hT];simp only[List.take_zero,List.append_nil]
 have iG:∀i,(T i).length<=i+hd.length:=fun i=>by
  rw[hT];simp only[List.length_map,List.length_append];have:=List.length_take_le i (xs.map fq);omega
 have hTs:∀i (hi:i<xs.length),T i++[[.s (fq xs[i]).aO,.sl ((fq xs[i]).ah.map aj.enc)]]=T (i+1):=fun i hi=>by
  have:=jO (base:=hd) (l:=xs.map fq) (i:=i) (by rw[List.length_map];exact hi);rw[List.getElem_map] at this;rw[hT];exact this
 have hTe:T xs.length=(hd++xs.map fq).map aj.enc:=by rw[hT];simp only;rw[List.take_of_length_le (by simp)]
 clear hT;rw[<-hT0];rw[<-hTe];refine aD (rs:=[.cell 4 54]) zmx func121 ntmps121 rfl rfl rfl rfl rfl ?_;refine W1 ?_;refine sS 1 1 2 (T 0) [.d (.s []),.bG (T 0)] rfl rfl (by rw[hT0];exact gV) ?_
 refine aU (ι:=Nat) zmx rfl [1,4,5,6] (fun i=>[.c (.d (.sl (xs.map au.enc))),.c (.ptr (0,0) 0),.c (.ptr (0,1) 0),.c (.d (.i .i64 i))])
  (fun i=>[.box [.d (.s []),.bG []],.box [.d (.s []),.bN (0,2) (T i)],.tok 2 (T i)]::S)
  (fun i=>i<=xs.length) (fun i=>xs.length-i) 0 rfl rfl (Nat.zero_le _) ?_
 intro i hi;have hl:=iG i;refine W1 ?_;refine S0 (fun hb h=>?_) fun hb h=>?_
 ·have hi':i<xs.length:=by omega
  have hs:=hTs i hi';refine W3 ?_;refine C1 (hA xs[i] (List.getElem_mem hi')) ?_;refine W3 ?_;rw[hs];exact bJ (i+1) (by omega) rfl rfl (by omega)
 ·have hi':i=xs.length:=by omega
  subst hi';rfl
theorem Xw(hd:List aj)(xs:List au)(bU:List Ab.Obj)(Ω:Store)(hA:∀t∈xs,aH prog 64 [t.v] (fq t).v)(hl:xs.length<=4194304)(hh:hd.length<=4):dz prog 121 [.c (.bG (hd.map aj.enc)),.c (.d (.sl (xs.map au.enc)))] (bU::Ω)
 (fun r S'=>r=.agg [.d (.s []),.bN (0,bU.length+2) ((hd++xs.map fq).map aj.enc)]/\S'=(bU++[.box [.d (.s []),.bN (0,bU.length+2) ((hd++xs.map fq).map aj.enc)],.box [.d (.s []),.bN (0,bU.length+2) ((hd++xs.map fq).map aj.enc)],.tok 2 ((hd++xs.map fq).map aj.enc)])::Ω):=by
 obtain⟨T,hT⟩:∃T:Nat->List (List D),T=fun i=>(hd++(xs.map fq).take i).map aj.enc:=⟨_,rfl⟩
 have hT0:T 0=hd.map aj.enc:=by rw[hT];simp only[List.take_zero,List.append_nil]
 have iG:∀i,(T i).length<=i+hd.length:=fun i=>by
  rw[hT];simp only[List.length_map,List.length_append];have:=List.length_take_le i (xs.map fq);omega
 have hTs:∀i (hi:i<xs.length),T i++[[.s (fq xs[i]).aO,.sl ((fq xs[i]).ah.map aj.enc)]]=T (i+1):=fun i hi=>by
  have:=jO (base:=hd) (l:=xs.map fq) (i:=i) (by rw[List.length_map];exact hi);rw[List.getElem_map] at this;rw[hT];exact this
 have hTe:T xs.length=(hd++xs.map fq).map aj.enc:=by rw[hT];simp only;rw[List.take_of_length_le (by simp)]
 clear hT;rw[<-hT0];rw[<-hTe];refine Sq (rs:=[.cell 4 54]) zmx func121 ntmps121 rfl rfl rfl rfl rfl ?_;refine W1 ?_;refine sS 1 1 2 (T 0) [.d (.s []),.bG (T 0)] rfl rfl (by rw[hT0];exact gV) ?_
 refine aU (ι:=Nat) zmx rfl [1,4,5,6] (fun i=>[.c (.d (.sl (xs.map au.enc))),.c (.ptr (0,0) 0),.c (.ptr (0,1) 0),.c (.d (.i .i64 i))])
  (fun i=>[.box [.d (.s []),.bG []],.box [.d (.s []),.bN (0,2) (T i)],.tok 2 (T i)]::bU::Ω)
  (fun i=>i<=xs.length) (fun i=>xs.length-i) 0 rfl rfl (Nat.zero_le _) ?_
 intro i hi;have hl:=iG i;refine W1 ?_;refine S0 (fun hb h=>?_) fun hb h=>?_
 ·have hi':i<xs.length:=by omega
  have hs:=hTs i hi';refine W3 ?_;refine C1 (hA xs[i] (List.getElem_mem hi')) ?_;refine W3 ?_;rw[hs];exact bJ (i+1) (by omega) rfl rfl (by omega)
 ·have hi':i=xs.length:=by omega
  subst hi';exact⟨rfl,rfl⟩
theorem PZ:∀N:Nat,∀x:au,SizeOf.sizeOf x<N->iW x=true->x.sz<=4194304->aH prog 64 [x.v] (fq x).v
 |0=>fun x h=>by omega
 |N+1=>by
  have ih:=PZ N;intro x hn hok hsz S;have jX:=au.gP x;have Bp:=au.pW x;have hzz:=yS x;rw[zf,Bool.and_eq_true,Bool.and_eq_true] at hok;obtain⟨hfi,hoa,Xv⟩:=hok;have hfi:=gG hfi;have hoa:=FN.1 hoa;have Xv:=Iz.1 Xv;have hA:∀t∈x.fArgs,aH prog 64 [t.v] (fq t).v:=fun t ht=>ih t (by have:=List.sizeOf_lt_of_mem ht;omega) (hoa t ht) (by have:=Tg ht;omega);have hxe:=Kv x;refine aD (rs:=[.cell 2 54]) zmx func64 ntmps64 rfl rfl rfl rfl rfl ?_;refine W1 ?_;refine S0 (fun hb h=>?_) fun hb h=>?_
  ·rw[if_pos h] at hxe;rw[hxe];have hb:=hfi.2.2.2.1;rw[if_pos h] at hb;refine C1 (yT x.fN (by omega) (by omega)) ?_;refine C1 (bW _) ?_;rfl
  have k1:=h;rw[if_neg h] at hxe;refine S0 (fun hb h=>?_) fun hb h=>?_
  ·rw[if_pos h] at hxe;rw[hxe];have hb:=hfi.2.2.2.1;rw[if_neg k1,if_pos h] at hb;rcases hb with e|e
   ·rw[e];simp -implicitDefEqProofs (disch:=omega) only[go_sem,List.getD_cons_zero];refine W3 ?_;refine C1 (bW _) ?_;rfl
   ·rw[e];simp -implicitDefEqProofs (disch:=omega) only[go_sem,List.getD_cons_zero,List.getD_cons_succ];refine W3 ?_;refine C1 (bW _) ?_;rfl
  have k2:=h;rw[if_neg h] at hxe;refine S0 (fun hb h=>?_) fun hb h=>?_
  ·rw[if_pos h] at hxe;rw[hxe];refine C1 (bW _) ?_;rfl
  have k3:=h;clear hxe;refine S0 (fun hb h=>?_) fun hb h=>?_
  ·have hx:=mq k1 k2 k3 (by omega)
   have hh:jr x.aJ x.bD x.fName x.fType=[bI qw,bI x.fName]:=by rw[kR h];rfl
   rw[hh] at hx;refine C1 (bW _) ?_;refine C1 (bW _) ?_;have hE:=fun S=>rW [bI qw,bI x.fName] x.fArgs S hA (by omega) (by simp);simp only[List.map_cons,List.map_nil,fJ] at hE;refine bg rfl (hE _) ?_;refine W1 ?_;rw[hx];rfl
  have k4:=h;refine S0 (fun hb h=>?_) fun hb h=>?_
  ·have hx:=mq k1 k2 k3 (by omega)
   have hh:jr x.aJ x.bD x.fName x.fType=[bI jv,bI x.bD,bI x.fName]:=by rw[kR h];rfl
   rw[hh] at hx;refine C1 (bW _) ?_;refine C1 (bW _) ?_;refine C1 (bW _) ?_;have hE:=fun S=>rW [bI jv,bI x.bD,bI x.fName] x.fArgs S hA (by omega) (by simp);simp only[List.map_cons,List.map_nil,fJ] at hE;refine bg rfl (hE _) ?_;refine W1 ?_;rw[hx];rfl
  have k5:=h;refine S0 (fun hb h=>?_) fun hb h=>?_
  ·have hx:=mq k1 k2 k3 (by omega)
   have hh:jr x.aJ x.bD x.fName x.fType=[bI tY,bI x.fName]:=by rw[kR h];rfl
   rw[hh] at hx;refine C1 (bW _) ?_;refine C1 (bW _) ?_;have hE:=fun S=>rW [bI tY,bI x.fName] x.fArgs S hA (by omega) (by simp);simp only[List.map_cons,List.map_nil,fJ] at hE;refine bg rfl (hE _) ?_;refine W1 ?_;rw[hx];rfl
  have k6:=h;refine S0 (fun hb h=>?_) fun hb h=>?_
  ·have hx:=mq k1 k2 k3 (by omega)
   have hh:jr x.aJ x.bD x.fName x.fType=[bI tZ,bI x.fName]:=by rw[kR h];rfl
   rw[hh] at hx;refine C1 (bW _) ?_;refine C1 (bW _) ?_;have hE:=fun S=>rW [bI tZ,bI x.fName] x.fArgs S hA (by omega) (by simp);simp only[List.map_cons,List.map_nil,fJ] at hE;refine bg rfl (hE _) ?_;refine W1 ?_;rw[hx];rfl
  have k8:=h;refine S0 (fun hb h=>?_) fun hb h=>?_
  ·have hx:=mq k1 k2 k3 (by omega)
   have hh:jr x.aJ x.bD x.fName x.fType=[bI yA]:=by rw[kR h];rfl
   rw[hh] at hx;refine C1 (bW _) ?_;have hE:=fun S=>rW [bI yA] x.fArgs S hA (by omega) (by simp);simp only[List.map_cons,List.map_nil,fJ] at hE;refine bg rfl (hE _) ?_;refine W1 ?_;rw[hx];rfl
  have k9:=h;refine S0 (fun hb h=>?_) fun hb h=>?_
  ·have hx:=mq k1 k2 k3 (by omega)
   have hh:jr x.aJ x.bD x.fName x.fType=[bI x.fName]:=by rw[kR h];rfl
   rw[hh] at hx;refine C1 (bW _) ?_;have hE:=fun S=>rW [bI x.fName] x.fArgs S hA (by omega) (by simp);simp only[List.map_cons,List.map_nil,fJ] at hE;refine bg rfl (hE _) ?_;refine W1 ?_;rw[hx];rfl
  have k10:=h;refine S0 (fun hb h=>?_) fun hb h=>?_
  ·have hx:=mq k1 k2 k3 (by omega)
   have hh:jr x.aJ x.bD x.fName x.fType=[bI qx,bI x.bD]:=by rw[kR h];rfl
   rw[hh] at hx;refine C1 (bW _) ?_;refine C1 (bW _) ?_;have hE:=fun S=>rW [bI qx,bI x.bD] x.fArgs S hA (by omega) (by simp);simp only[List.map_cons,List.map_nil,fJ] at hE;refine bg rfl (hE _) ?_;refine W1 ?_;rw[hx];rfl
  have k11:=h;refine S0 (fun hb h=>?_) fun hb h=>?_
  ·have hx:=mq k1 k2 k3 (by omega)
   have hh:jr x.aJ x.bD x.fName x.fType=[bI uM,cK x.fType]:=by rw[kR h];rfl
   rw[hh] at hx;refine C1 (bW _) ?_;refine C1 (mP x.fType (by omega)) ?_;have hE:=fun S=>rW [bI uM,cK x.fType] x.fArgs S hA (by omega) (by simp);simp only[List.map_cons,List.map_nil,fJ,aj.aB (cK x.fType)] at hE;refine bg rfl (hE _) ?_;refine W1 ?_;rw[hx];show _=V.agg [.d (.s []),.d (.sl (List.map aj.enc (bI uM::cK x.fType::x.fArgs.map fq)))];simp only[List.cons_append,List.nil_append,List.map_cons,fJ,aj.aB (cK x.fType)];rfl
  have k12:=h
  have hk7:x.aJ=7:=by have:=hfi.1;omega
  have hx:=Kv x;rw[if_neg k1,if_neg k2,if_neg k3,if_neg (by omega)] at hx
  have hh:jr x.aJ x.bD x.fName x.fType=[bI lD]:=by rw[kR hk7];rfl
  rw[hh] at hx;refine C1 (bW _) ?_;have hE:=fun bU Ω=>Xw [bI lD] x.fArgs bU Ω hA (by omega) (by simp);obtain⟨B,hB⟩:∃B:Nat->List (List D),B=fun i=>(([bI lD]++x.fArgs.map fq)++(x.aR.map Ak).take i).map aj.enc:=⟨_,rfl⟩
  have hB0:([bI lD]++x.fArgs.map fq).map aj.enc=B 0:=by rw[hB];simp only[List.take_zero,List.append_nil]
  have hBl:∀i,(B i).length<=i+x.fArgs.length+1:=fun i=>by
   rw[hB];simp only[List.length_append,List.length_map,List.length_cons,List.length_nil];have:=List.length_take_le i (x.aR.map Ak);omega
  have hBr:∀i,∀r∈B i,r.length=2:=fun i=>by rw[hB];exact gV
  have hBs:∀i (hi:i<x.aR.length),B i++[[.s [],.sl (([bI x.aR[i].dN]++aN x.aR[i].aG++[fq x.aR[i].fBody]).map aj.enc)]]=B (i+1):=fun i hi=>by
   have:=jO (base:=[bI lD]++x.fArgs.map fq) (l:=x.aR.map Ak) (i:=i) (by rw[List.length_map];exact hi);rw[List.getElem_map,afu,dW,dH] at this;rw[hB];exact this
  have hBe:B x.aR.length=([bI lD]++x.fArgs.map fq++x.aR.map Ak).map aj.enc:=by rw[hB];simp only;rw[List.take_of_length_le (by simp)]
  clear hB;simp only[hB0] at hE;simp only[List.map_cons,List.map_nil,fJ] at hE;refine bg rfl (hE _ _) ?_;refine W1 ?_
  refine aU (ι:=Nat) zmx rfl [1,2,3,4] (fun i=>[.c (.ptr (0,0) 0),.c (.ptr (0,1) 0),.c (.ptr (0,5) 0),.c (.d (.i .i64 i))])
   (fun i=>[.box [.d (.i .i64 x.aJ),.d (.s x.bD),.d (.s x.fName),.d (.i .i64 x.fN),.d (.i .i64 x.fType.aJ),.d (.s x.fType.fName),.d (.sl (x.fType.fArgs.map ak.enc)),.d (.sl (x.fArgs.map au.enc)),.d (.sl (x.aR.map aT.enc))],.box [.d (.s []),.bG []],.box [.d (.s []),.bN (0,4) (B 0)],.box [.d (.s []),.bN (0,4) (B 0)],.tok 2 (B i),.box [.d (.s []),.bN (0,4) (B i)]]::S)
   (fun i=>i<=x.aR.length) (fun i=>x.aR.length-i) 0 rfl rfl (Nat.zero_le _) ?_
  intro i hi;have hl:=hBl i;have hr:=hBr i;refine W1 ?_;refine S0 (fun hb h=>?_) fun hb h=>?_
  ·have hi':i<x.aR.length:=by omega
   have hm:=List.getElem_mem hi';have hez:=PX hm;have hea:=Ca x.aR[i];have hs:=hBs i hi';have hak:=Xv _ hm;rw[tV,Bool.and_eq_true,Bool.and_eq_true] at hak;have hls:=List.sizeOf_lt_of_mem hm;have hlb:=aT.oO x.aR[i];refine W3 ?_;refine C1 (bW _) ?_;refine W3 ?_;refine aZ (Ku x.aR[i].aG (by omega)) ?_;have hwr:=gV (l:=aN x.aR[i].aG)
   have hwl:(aN x.aR[i].aG).length=x.aR[i].aG.length:=by rw[jN]
   refine W1 ?_;refine W3 ?_;refine C1 (ih x.aR[i].fBody (by omega) hak.2.2 (by omega)) ?_;refine W3 ?_;simp only[List.cons_append,List.nil_append,List.map_cons,List.map_nil,List.map_append,fJ,aj.aB (fq x.aR[i].fBody)] at hs;rw[hs];exact bZ 6 (by decide) (i+1) (by omega) rfl rfl rfl rfl (by omega)
  ·have hi':i=x.aR.length:=by omega
   subst hi';rw[hx,hBe];rfl
theorem uS(x:au)(hok:iW x=true)(hsz:x.sz<=4194304):aH prog 64 [x.v] (fq x).v:=PZ _ x (Nat.lt_succ_self _) hok hsz
theorem au.bounds{x:au}(h:x.sz<=4194304):x.bD.length<=4194304/\x.fName.length<=4194304/\x.fArgs.length<=4194304/\x.aR.length<=4194304/\x.fType.sz<=4194304:=by
 simp only[au.sz,au.aB,bT,bL,D.sz,List.length_map,ak.d9] at h;omega
theorem au.arg_b{x:au}{i:Nat}(hi:i<x.fArgs.length)(h:x.sz<=4194304):x.fArgs[i].sz<=4194304:=by
 have hx:x.fArgs[i].sz<=bn (x.fArgs.map au.enc):=dD (List.mem_map_of_mem (List.getElem_mem hi));simp only[au.sz,au.aB,bT,bL,D.sz,List.length_map] at h;omega
theorem au.UJ{x:au}{i:Nat}(hi:i<x.aR.length)(h:x.sz<=4194304):x.aR[i].sz<=4194304:=by
 have hx:x.aR[i].sz<=bn (x.aR.map aT.enc):=dD (List.mem_map_of_mem (List.getElem_mem hi));simp only[au.sz,au.aB,bT,bL,D.sz,List.length_map] at h;omega
theorem aT.bounds{x:aT}(h:x.sz<=4194304):x.dN.length<=4194304/\x.aG.length<=4194304/\(∀s∈x.aG,s.length<=4194304)/\x.fBody.sz<=4194304:=by
 have hb:=aT.QU x;simp only[aT.sz,aT.aB,bT,bL,D.sz,List.length_map] at h hb;refine⟨by omega,by omega,fun s hs=> ?_,by omega⟩;have:=tq hs;omega
theorem P5(k:Int):(k<1\/12<k)\/k=1\/k=2\/k=3\/k=4\/k=5\/k=6\/k=7\/k=8\/k=9\/k=10\/k=11\/k=12:=by omega
theorem Xx(x:au)(hsz:x.sz<=4194304)(hc:x.fArgs.length<=300):aH prog 196 [x.v] (.c (.d (.b (dec (vU x))))):=fun S=>by
 have hb0:=au.bounds hsz;have hz:yE x.fType->oV x.fType=false:=O7;rcases P5 x.aJ with hk|hk|hk|hk|hk|hk|hk|hk|hk|hk|hk|hk|hk
 ·have h1:¬vU x:=fun h=>by have:=h.1;omega
  refine aD (rs:=[.tmp 2]) zmx func196 ntmps196 rfl rfl rfl rfl rfl ?_;refine W1 ?_;refine C2 (Mk x.aJ) ?_;refine S0 (fun hb h=>?_) fun hb h=>?_
  ·exact ay (aA h1).symm
  refine S0 (fun hb h=>?_) fun hb h=>?_
  ·exact ay (aA h1).symm
  ·omega
 all_goals
  refine aD (rs:=[.tmp 2]) zmx func196 ntmps196 rfl rfl rfl rfl rfl ?_;simp -implicitDefEqProofs (disch:=omega) only[go_sem,hk];refine aZ (Mk _) ?_;simp -implicitDefEqProofs (disch:=omega) only[go_sem,hk,ab0,ab1]
  repeat' (first
   |with_reducible refine dM (fun hb=> ?_) (fun hb=> ?_)<;>have h:=hb<;>(try simp only[wf_preprocess] at h)<;>simp -implicitDefEqProofs (disch:=omega) only[go_sem,hb,hk]<;>refine W3 ?_
   |((with_reducible show fA _ _ 157 _ _ _ _);refine aZ (iI x.fName (by omega)) ?_;simp -implicitDefEqProofs (disch:=omega) only[go_sem,hk])
   |((with_reducible show fA _ _ 157 _ _ _ _);refine aZ (iI x.bD (by omega)) ?_;simp -implicitDefEqProofs (disch:=omega) only[go_sem,hk])
   |((with_reducible show fA _ _ 260 _ _ _ _);refine aZ (TQ x.fName) ?_;simp -implicitDefEqProofs (disch:=omega) only[go_sem,hk])
   |((with_reducible show fA _ _ 237 _ _ _ _);refine aZ (IZ x.fType) ?_;simp -implicitDefEqProofs (disch:=omega) only[go_sem,hk])
   |((with_reducible show fA _ _ 261 _ _ _ _);refine aZ (yO x.fType (by omega)) ?_;simp -implicitDefEqProofs (disch:=omega) only[go_sem,hk])
   |(refine ay (Bool.eq_iff_iff.2 ?_);simp only[Bh,vU,hk];grind [gG,je,aY,aA]))
theorem au.alJ{x:au}{y:au}(h:y∈x.fArgs):y.cnt+1<=x.cnt:=by
 rw[au.rA x]
 have:∀xs:List au,y∈xs->y.cnt<=au.eB xs:=by
  intro xs
  induction xs with
  |nil=>intro h;cases h
  |cons z zs ih=>
   intro h;rw[au.eB];rcases List.mem_cons.1 h with e|e
   ·subst e;omega
   ·have:=ih e;omega
 have:=this _ h;omega
theorem au.alK{x:au}{y:aT}(h:y∈x.aR):y.fBody.cnt+1<=x.cnt:=by
 rw[au.rA x]
 have:∀xs:List aT,y∈xs->y.fBody.cnt<=aT.eB xs:=by
  intro xs
  induction xs with
  |nil=>intro h;cases h
  |cons z zs ih=>
   intro h;rw[aT.eB];rcases List.mem_cons.1 h with e|e
   ·subst e;rw[aT.rA];omega
   ·have:=ih e;omega
 have:=this _ h;omega
theorem au.alL(x:au):x.fArgs.length+1<=x.cnt:=by
 rw[au.rA x]
 have:∀xs:List au,xs.length<=au.eB xs:=by
  intro xs
  induction xs with
  |nil=>simp
  |cons z zs ih=>rw[au.eB,List.length_cons];have:=au.rA z;omega
 have:=this x.fArgs;omega
def ac2(k:Int):Bool:=if k=5\/k=11 then true else false
def ac3(k:Int):Bool:=if k=3\/k=4\/k=6\/k=5\/k=8\/k=10 then true else false
def ac4(k:Int):Bool:=if k=1\/k=2 then true else false
def ac5(k:Int):Bool:=if k=1\/k=2\/k=3\/k=4\/k=6\/k=5\/k=7\/k=8\/k=10\/k=9\/k=11 then false else true
def ac6(k:Int):Int:=if k=1\/k=2\/k=3 then 0 else if k=4\/k=6\/k=5 then -1 else if k=8\/k=10 then 2 else if k=9 then 3 else 1
def ac7(k:Int):Bool:=if k=7 then true else false
theorem P6:∀n:Nat,∀x:au,SizeOf.sizeOf x<n->x.sz<=4194304->x.cnt<=300->aH prog 135 [x.v] (.c (.d (.b (iW x))))
 |0=>fun x h=>by omega
 |n+1=>by
  have ih:=P6 n;intro x hn hsz hc S;have hb0:=au.bounds hsz;have jX:=au.gP x;have Bp:=au.pW x;have hl:=au.alL x
  have h1:∀y∈x.fArgs,aH prog 198 [y.v] (.c (.d (.b (!iW y)))):=fun y hy S=>by
   have hys:=List.sizeOf_lt_of_mem hy;have hyc:=au.alJ hy
   have hyz:y.sz<=4194304:=by obtain⟨i,hi,e⟩:=List.getElem_of_mem hy;rw[<-e];exact au.arg_b hi hsz
   refine aD (rs:=[.tmp 2]) zmx func198 ntmps198 rfl rfl rfl rfl rfl ?_;refine W1 ?_;exact C4 (ih y (by omega) hyz (by omega))
  have h2:∀y∈x.aR,aH prog 200 [y.v] (.c (.d (.b (!xI y)))):=fun y hy S=>by
   have hys:=List.sizeOf_lt_of_mem hy;have hyb:=aT.oO y;have hyc:=au.alK hy
   have hyz:y.sz<=4194304:=by obtain⟨i,hi,e⟩:=List.getElem_of_mem hy;rw[<-e];exact au.UJ hi hsz
   have hyy:=aT.bounds hyz;refine aD (rs:=[.tmp 2]) zmx func200 ntmps200 rfl rfl rfl rfl rfl ?_;refine W1 ?_;refine C2 (iI y.dN (by omega)) ?_;refine S0 (fun hb h=>?_) fun hb h=>?_
   ·exact ay (by rw[tV,h];rfl)
   have k1:=h;refine C2 (qm y.aG (by omega) hyy.2.2.1) ?_;refine S0 (fun hb h=>?_) fun hb h=>?_
   ·exact ay (by rw[tV,h];simp)
   have k2:=h;refine C2 (ih y.fBody (by omega) hyy.2.2.2 (by omega)) ?_;exact ay (by rw[tV,k1,k2];simp)
  refine aD (rs:=[.tmp 2]) zmx func135 ntmps135 rfl rfl rfl rfl rfl ?_;refine W1 ?_;refine C2 (Xx x hsz (by omega)) ?_;refine S0 (fun hb h=>?_) fun hb h=>?_
  ·exact ay (by rw[zf,aA h];rfl)
  have k1:=h;refine W3 ?_;refine bg rfl (Jk 198 [] _ x.fArgs (fun y=> !iW y) (by omega) fun y hy=>qj.QL (h1 y hy)) ?_;refine W1 ?_;rw[Mj];refine S0 (fun hb h=>?_) fun hb h=>?_
  ·exact ay (by rw[zf,h];simp)
  have k2:=h;refine W3 ?_;refine bg rfl (JV 200 [] _ x.aR (fun y=> !xI y) (by omega) fun y hy=>qj.QL (h2 y hy)) ?_;refine W1 ?_;rw[O6];exact ay (by rw[zf,aY k1,k2];simp)
theorem Nh(x:au)(hsz:x.sz<=4194304):aH prog 68 [x.v] (.c (.d (.b (tC x)))):=fun S=>by
 refine aD (rs:=[.tmp 2]) zmx func68 ntmps68 rfl rfl rfl rfl rfl ?_;refine W1 ?_;refine C2 (O5 x hsz) ?_;refine S0 (fun hb h=>?_) fun hb h=>?_
 ·refine C2 (P6 _ x (Nat.lt_succ_self _) hsz (by omega)) ?_;exact ay (by unfold tC;rw[aY (by omega)];rfl)
 ·exact ay (by unfold tC;rw[aA (by omega)];rfl)
theorem Tj(k:Int):aH prog 180 [.c (.d (.i .i64 k))] (.dQ [(false,[.d (.b (ac2 k))]),(false,[.d (.b (ac3 k))]),(false,[.d (.b (ac4 k))]),(false,[.d (.b (ac5 k))]),(false,[.d (.i .i64 (ac6 k))]),(false,[.d (.b (ac7 k))])]):=fun S=>by
 refine aD (rs:=[.tmp 2,.tmp 3,.tmp 4,.tmp 5,.tmp 6,.tmp 7]) zmx func180 ntmps180 rfl rfl rfl rfl rfl ?_;refine W1 ?_
 repeat' (first
  |refine S0 (fun hb h=>?_) fun hb h=>?_
  |(unfold ac2 ac3 ac4 ac5 ac6 ac7;grind))
theorem P7(t:ak):aH prog 184 [t.v] (.c (.d (.b (dec (yE t))))):=fun S=>by
 refine aD (rs:=[.tmp 2]) zmx func184 ntmps184 rfl rfl rfl rfl rfl ?_;refine W1 ?_
 repeat' (first
  |refine S0 (fun hb h=>?_) fun hb h=>?_
  |(refine ay ?_;unfold yE;grind [aY,aA,gG,je]))
theorem ac8(s:List UInt8):aH prog 182 [.c (.d (.s s))] (.c (.d (.b (dec (s∈ops))))):=fun S=>by
 refine aD (rs:=[.tmp 2]) zmx func182 ntmps182 rfl rfl rfl rfl rfl ?_;refine W1 ?_;refine W3 ?_;exact C4 (su ops s (by decide))
theorem MC:∀n:Nat,∀x:au,SizeOf.sizeOf x<n->x.sz<=4194304->∀l:Int,0<=l->l<=1048576->aH prog 117 [x.v,.c (.d (.i .i64 l))] (.c (.d (.i .i64 (qD l x.cnt))))
 |0=>fun x h=>by omega
 |n+1=>by
  have ih:=MC n;intro x hn hsz l hl hl2 S;have hb0:=au.bounds hsz;have jX:=au.gP x;have Bp:=au.pW x;have he:=au.rA x;refine aD (rs:=[.tmp 4]) zmx func117 ntmps117 rfl rfl rfl rfl rfl ?_;refine W1 ?_
  refine aU (ι:=Nat×Int) zmx rfl [1,2,5] (fun y=>[.c (.d (.i .i64 y.2)),.c (.ptr (0,0) 0),.c (.d (.i .i64 y.1))]) (fun y=>[.box (x.enc.map .d)]::S)
   (fun y=>y.1<=x.fArgs.length/\(-1<=y.2/\y.2<=1048576)/\qD y.2 (au.eB (x.fArgs.drop y.1))=qD (l-1) (au.eB x.fArgs)) (fun y=>x.fArgs.length-y.1) (0,l-1) rfl ?_ ⟨Nat.zero_le _,by simp only;omega,rfl⟩ ?_
  ·exact Z1
  rintro⟨i,c⟩ ⟨p1,p2,p3⟩;simp only at p1 p2 p3
  have out:(i=x.fArgs.length\/c<0)->c=qD (l-1) (au.eB x.fArgs):=fun h=>by
   rcases h with h|h
   ·rw[h,List.drop_length,au.eB,J2 p2.1] at p3;exact p3
   ·rw[<-p3,MW h];omega
  have second:(i=x.fArgs.length\/c<0)->qD c (aT.eB x.aR)=qD l x.cnt:=fun h=>by
   rw[out h,Ia,he];unfold qD;split<;>split<;>(try split)<;>omega
  refine W1 ?_;refine S0 (fun hb h=>?_) fun hb h=>?_
  ·have hi:i<x.fArgs.length:=by omega
   refine S0 (fun hb h=>?_) fun hb h=>?_
   ·have hs:=List.sizeOf_lt_of_mem (List.getElem_mem hi);have hr:=QV (l:=c) (c:=x.fArgs[i].cnt) (by omega);rw[au.nL hi,<-Ia] at p3;refine W3 ?_;refine C2 (ih x.fArgs[i] (by omega) (au.arg_b hi hsz) c (by omega) (by omega)) ?_;exact bJ (i+1,qD c x.fArgs[i].cnt) (by simp only;omega) rfl rfl ⟨by simp only;omega,by simp only;omega,p3⟩
   ·have p4:=second (.inr (by omega));clear second out p3
    refine aU (ι:=Nat×Int) zmx rfl [1,2,6] (fun y=>[.c (.d (.i .i64 y.2)),.c (.ptr (0,0) 0),.c (.d (.i .i64 y.1))]) (fun y=>[.box (x.enc.map .d)]::S)
     (fun y=>y.1<=x.aR.length/\(-1<=y.2/\y.2<=1048576)/\qD y.2 (aT.eB (x.aR.drop y.1))=qD l x.cnt) (fun y=>x.aR.length-y.1) (0,c) rfl ?_ ⟨Nat.zero_le _,by simp only;omega,p4⟩ ?_
    ·exact Z1
    clear p1 p2 p4;rintro⟨i,d⟩ ⟨p1,p2,p3⟩;simp only at p1 p2 p3;refine W1 ?_;refine S0 (fun hb h=>?_) fun hb h=>?_
    ·have hi:i<x.aR.length:=by omega
     refine S0 (fun hb h=>?_) fun hb h=>?_
     ·have hs:=List.sizeOf_lt_of_mem (List.getElem_mem hi);have hs':=aT.oO x.aR[i];have hr:=QV (l:=d) (c:=x.aR[i].fBody.cnt) (by omega);rw[aT.nL hi,<-Ia] at p3;refine W3 ?_;refine C2 (ih x.aR[i].fBody (by omega) (aT.bounds (au.UJ hi hsz)).2.2.2 d (by omega) (by omega)) ?_;exact bJ (i+1,qD d x.aR[i].fBody.cnt) (by simp only;omega) rfl rfl ⟨by simp only;omega,by simp only;omega,p3⟩
     ·rw[MW (by omega)] at p3;exact int_eq (by omega)
    ·have hi:i=x.aR.length:=by omega
     rw[hi,List.drop_length,aT.eB,J2 p2.1] at p3;exact int_eq (by omega)
  ·have p4:=second (.inl (by omega));clear second out p3
   refine aU (ι:=Nat×Int) zmx rfl [1,2,6] (fun y=>[.c (.d (.i .i64 y.2)),.c (.ptr (0,0) 0),.c (.d (.i .i64 y.1))]) (fun y=>[.box (x.enc.map .d)]::S)
    (fun y=>y.1<=x.aR.length/\(-1<=y.2/\y.2<=1048576)/\qD y.2 (aT.eB (x.aR.drop y.1))=qD l x.cnt) (fun y=>x.aR.length-y.1) (0,c) rfl ?_ ⟨Nat.zero_le _,by simp only;omega,p4⟩ ?_
   ·exact Z1
   clear p1 p2 p4;rintro⟨i,d⟩ ⟨p1,p2,p3⟩;simp only at p1 p2 p3;refine W1 ?_;refine S0 (fun hb h=>?_) fun hb h=>?_
   ·have hi:i<x.aR.length:=by omega
    refine S0 (fun hb h=>?_) fun hb h=>?_
    ·have hs:=List.sizeOf_lt_of_mem (List.getElem_mem hi);have hs':=aT.oO x.aR[i];have hr:=QV (l:=d) (c:=x.aR[i].fBody.cnt) (by omega);rw[aT.nL hi,<-Ia] at p3;refine W3 ?_;refine C2 (ih x.aR[i].fBody (by omega) (aT.bounds (au.UJ hi hsz)).2.2.2 d (by omega) (by omega)) ?_;exact bJ (i+1,qD d x.aR[i].fBody.cnt) (by simp only;omega) rfl rfl ⟨by simp only;omega,by simp only;omega,p3⟩
    ·rw[MW (by omega)] at p3;exact int_eq (by omega)
   ·have hi:i=x.aR.length:=by omega
    rw[hi,List.drop_length,aT.eB,J2 p2.1] at p3;exact int_eq (by omega)
theorem Zj:∀n:Nat,∀x:au,SizeOf.sizeOf x<n->x.sz<=4194304->aH prog 118 [x.v] (.c (.d (.b (iW x)))):=by
 intro n
 induction n with
 |zero=>intro x h;omega
 |succ n ih=>
  intro x hn hsz S;have hb0:=au.bounds hsz;have jX:=au.gP x;have Bp:=au.pW x;have he:=zf x;have hv0:=TP;have hop:x.fName∈ops->validName x.fName=false:=Wu;refine(show(vU x-> ?T)->_ from fun tail=> ?main) ?tp
  case' main=>
   rcases P5 x.aJ with hk|hk|hk|hk|hk|hk|hk|hk|hk|hk|hk|hk|hk
   ·have h1:iW x=false:=by rw[he,aA (fun h=>by have:=h.1;omega)];rfl
    refine aD (rs:=[.tmp 2]) zmx func118 ntmps118 rfl rfl rfl rfl rfl ?_;refine W1 ?_;refine C1 (Tj _) ?_;refine C1 (Gb _ _ _) ?_;refine S0 (fun hb h=>?_) fun hb h=>?_
    ·rw[h1]
    ·omega
   all_goals
    have hf0:¬vU x->V.c (.d (.b false))=V.c (.d (.b (iW x))):=fun h=>ay (by rw[he,aA h];rfl);refine aD (rs:=[.tmp 2]) zmx func118 ntmps118 rfl rfl rfl rfl rfl ?_;simp -implicitDefEqProofs (disch:=omega) only[go_sem,hk];refine aZ (Tj _) ?_;simp -implicitDefEqProofs (disch:=omega) only[go_sem,hk,ac2,ac3,ac4,ac5,ac6,ac7,or_false,or_true,true_or,false_or];refine aZ (Gb _ _ _) ?_;simp -implicitDefEqProofs (disch:=omega) only[go_sem,hk]
    repeat' (first
     |with_reducible refine dM (fun hb=> ?_) (fun hb=> ?_)<;>have h:=hb<;>(try simp only[wf_preprocess] at h)<;>simp -implicitDefEqProofs (disch:=omega) only[go_sem,hb,hk]<;>refine W3 ?_
     |((with_reducible show fA _ _ 148 _ _ _ _);refine aZ (iJ x.fName (by omega)) ?_;simp -implicitDefEqProofs (disch:=omega) only[go_sem,hk])
     |((with_reducible show fA _ _ 148 _ _ _ _);refine aZ (iJ x.bD (by omega)) ?_;simp -implicitDefEqProofs (disch:=omega) only[go_sem,hk])
     |((with_reducible show fA _ _ 182 _ _ _ _);refine aZ (ac8 x.fName) ?_;simp -implicitDefEqProofs (disch:=omega) only[go_sem,hk])
     |((with_reducible show fA _ _ 184 _ _ _ _);refine aZ (P7 x.fType) ?_;simp -implicitDefEqProofs (disch:=omega) only[go_sem,hk])
     |((with_reducible show fA _ _ 183 _ _ _ _);refine aZ (yP x.fType (by omega)) ?_;simp -implicitDefEqProofs (disch:=omega) only[go_sem,hk])
     |((with_reducible show fA _ _ 181 _ _ _ _);refine aZ (Gb x.fN _ _) ?_;simp -implicitDefEqProofs (disch:=omega) only[go_sem,hk])
     |(refine hf0 fun hF=> ?_;simp only[vU,hk,or_false,or_true,true_or,false_or,and_true,true_and,if_true,if_false,↓reduceIte,Int.reduceEq,Int.reduceLT,Int.reduceLE] at hF;grind [gG,je,aY,aA]))
   all_goals
    have hF:vU x:=by simp only[vU,hk,or_false,or_true,true_or,false_or,and_true,true_and,if_true,if_false,↓reduceIte,Int.reduceEq,Int.reduceLT,Int.reduceLE];grind [gG,je,aY,aA]
    refine oC (st':=[.box (x.enc.map .d)]::S) [1,9] [.c (.ptr (0,0) 0),.c (.d (.i .i64 0))] rfl (by simp -implicitDefEqProofs (disch:=omega) only[go_sem,hk]) ?_;exact tail hF
  intro hF;rw[aY hF,Bool.true_and] at he;clear hF hop hv0
  refine aU (ι:=Nat) zmx rfl [1,9] (fun i=>[.c (.ptr (0,0) 0),.c (.d (.i .i64 i))]) (fun _=>[.box (x.enc.map .d)]::S)
   (fun i=>i<=x.fArgs.length/\mW (x.fArgs.drop i)=mW x.fArgs) (fun i=>x.fArgs.length-i) 0 rfl ?_ ⟨Nat.zero_le _,rfl⟩ ?_
  ·exact Z1
  rintro i ⟨p1,p2⟩;refine W1 ?_;refine S0 (fun hb h=>?_) fun hb h=>?_
  ·have hi:i<x.fArgs.length:=by omega
   have hs:=List.sizeOf_lt_of_mem (List.getElem_mem hi);rw[Wt hi] at p2;refine W3 ?_;refine C2 (ih x.fArgs[i] (by omega) (au.arg_b hi hsz)) ?_;refine S0 (fun hb h=>?_) fun hb h=>?_
   ·exact ay (by rw[he,<-p2,h];rfl)
   ·exact bJ (i+1) (by omega) rfl rfl ⟨by omega,by rw[<-p2,h];rfl⟩
  rw[List.drop_of_length_le (by omega)] at p2;have q:mW x.fArgs=true:=p2.symm;clear p2 p1
  refine aU (ι:=Nat) zmx rfl [1,10] (fun i=>[.c (.ptr (0,0) 0),.c (.d (.i .i64 i))]) (fun _=>[.box (x.enc.map .d)]::S)
   (fun i=>i<=x.aR.length/\qC (x.aR.drop i)=qC x.aR) (fun i=>x.aR.length-i) 0 rfl ?_ ⟨Nat.zero_le _,rfl⟩ ?_
  ·exact Z1
  rintro i ⟨p1,p2⟩;refine W1 ?_;refine S0 (fun hb h=>?_) fun hb h=>?_
  ·have hi:i<x.aR.length:=by omega
   have hs:=List.sizeOf_lt_of_mem (List.getElem_mem hi);have hs':=aT.oO x.aR[i];have hab:=aT.bounds (au.UJ hi hsz);rw[YV hi] at p2;have no:xI x.aR[i]=false->V.c (.d (.b false))=V.c (.d (.b (iW x))):=fun h=>ay (by rw[he,<-p2,h];simp);refine W3 ?_;refine C2 (iJ x.aR[i].dN (by omega)) ?_;refine S0 (fun hb h=>?_) fun hb h=>?_
   ·exact no (by rw[tV,h];rfl)
   have k1:=h;refine W3 ?_;refine C2 (O0 x.aR[i].aG (by omega) hab.2.2.1) ?_;refine S0 (fun hb h=>?_) fun hb h=>?_
   ·exact no (by rw[tV];unfold iP;rw[h];simp)
   have k2:=h;refine W3 ?_;refine C2 (qU x.aR[i].aG (by omega)) ?_;refine S0 (fun hb h=>?_) fun hb h=>?_
   ·exact no (by rw[tV];unfold iP;rw[aA h];simp)
   have k3:=h;refine W3 ?_;refine C2 (ih x.aR[i].fBody (by omega) hab.2.2.2) ?_;refine S0 (fun hb h=>?_) fun hb h=>?_
   ·exact no (by rw[tV,h];simp)
   ·exact bZ 1 (by decide) (i+1) (by omega) rfl rfl rfl rfl ⟨by omega,by rw[<-p2,tV,k1,h];unfold iP;rw[k2,aY k3];rfl⟩
  ·rw[List.drop_of_length_le (by omega)] at p2;exact ay (by rw[he,q,<-p2];rfl)
theorem Ni(x:au)(hsz:x.sz<=4194304):aH prog 62 [x.v] (.c (.d (.b (tC x)))):=fun S=>by
 have hs:=ahW (l:=300) (c:=x.cnt) (by omega);refine aD (rs:=[.tmp 2]) zmx func62 ntmps62 rfl rfl rfl rfl rfl ?_;refine W1 ?_;refine C2 (MC _ x (Nat.lt_succ_self _) hsz 300 (by omega) (by omega)) ?_;rw[hs];refine S0 (fun hb h=>?_) fun hb h=>?_
 ·refine C2 (Zj _ x (Nat.lt_succ_self _) hsz) ?_;exact ay (by unfold tC;rw[aY (by omega)];rfl)
 ·exact ay (by unfold tC;rw[aA (by omega)];rfl)
theorem Xy{x:au}(h:tC x=true):iW x=true:=by rw[tC,Bool.and_eq_true] at h;exact h.2
abbrev au.cv(x:au):List C:=[.d (.i .i64 x.aJ),.d (.s x.bD),.d (.s x.fName),.d (.i .i64 x.fN),.d (.i .i64 x.fType.aJ),.d (.s x.fType.fName),.d (.sl (x.fType.fArgs.map ak.enc)),.d (.sl (x.fArgs.map au.enc)),.d (.sl (x.aR.map aT.enc))]
abbrev au.cl(x:au)(n:Nat):List C:=[.d (.i .i64 x.aJ),.d (.s x.bD),.d (.s x.fName),.d (.i .i64 x.fN),.d (.i .i64 x.fType.aJ),.d (.s x.fType.fName),.d (.ol n (lt x.fType.fArgs (n+1))),
 .d (.ol (n+(gq x.fType.fArgs+1)) (lE x.fArgs (n+(gq x.fType.fArgs+1)+1))),.d (.ol (n+(gq x.fType.fArgs+1)+(lF x.fArgs+1)) (lM x.aR (n+(gq x.fType.fArgs+1)+(lF x.fArgs+1)+1)))]
abbrev ar7:List C:=[.d (.i .i64 0),.d (.s []),.d (.s []),.d (.i .i64 0),.d (.i .i64 0),.d (.s []),.bG [],.bG [],.bG []]
theorem ac9{s:List UInt8}(h:lg s=false):jy s=cu:=by
 unfold jy;rw[dif_neg (je h)]
theorem Xz(s:List UInt8):(jy s).sz<=1048576:=by
 cases h:lg s with
 |true=>have:=sZ (YQ h);omega
 |false=>rw[ac9 h,Ir];omega
theorem afO{w:World}{σ:Nat->Nat}{S:Store}{β:Hs}{x:aj}{lv:Value}{b:Bool}(h:dI w σ (.sl (x.ah.map aj.enc)) lv)(h1:lv.oneCell'=true):
 dP w σ S β (.dQ [(true,x.enc.map .d),(false,[.d (.b b)])]) (.tuple #[.agg #[.string ⟨x.aO.toArray⟩,lv],.bool b]):=by
 refine⟨_,rfl,rfl,fun j y hy=> ?_⟩
 match j,hy with
 |0,hy=>
  simp at hy;subst hy;refine⟨_,rfl,_,rfl,by rw[aj.aB];rfl,fun j y hy=> ?_⟩;rw[aj.aB] at hy
  match j,hy with
  |0,hy=>simp at hy;subst hy;exact⟨_,rfl,.s _,rfl⟩
  |1,hy=>simp at hy;subst hy;exact⟨_,rfl,h,h1⟩
 |1,hy=>
  simp at hy;subst hy;exact⟨_,rfl,_,rfl,.b _,rfl⟩
theorem anF{w:World}{σ:Nat->Nat}{es:List (List D)}{v:Value}(h:dI w σ (.sl es) v):v.oneCell'=true:=by
 cases h<;>rfl
theorem Ua(s:List UInt8)(hs:s.length<=33554432):aH prog 23 [.c (.d (.s s))] (.dQ [(true,(jy s).enc.map .d),(false,[.d (.b (lg s))])]):=fun S=>by
 refine⟨⟨_,func23,by kernel_rfl,by kernel_rfl⟩,fun w σ β vs hS hv=> ?_⟩;obtain⟨u,rfl,hu⟩:=ahZ hv
 obtain rfl:u=.string ⟨s.toArray⟩:=by cases hu.1;rfl
 refine(acf s w σ hS.live hS.uz hs).mono fun e w' ⟨lv,σ',he,hr,hg,hgl⟩=> ?_;exact⟨_,_,S,σ',β,he,hS.grow hg,Keep.refl _ _,Step.oN hg,afO hr (anF hr),rfl,rfl⟩
noncomputable def Cy(k:Int)(n:List UInt8)(bound out:List (List UInt8)):List (List UInt8):=if k=3/\n∉bound/\n∉out then out++[n] else out
mutual
noncomputable def lG:au->List (List UInt8)->List (List UInt8)->List (List UInt8)
 | .mk k _ n _ _ a b,bound,out=>xL b bound (uw a k n 0 bound (Cy k n bound out))
noncomputable def uw:List au->Int->List UInt8->Nat->List (List UInt8)->List (List UInt8)->List (List UInt8)
 |[],_,_,_,_,out=>out
 |x::xs,k,n,i,bound,out=>uw xs k n (i+1) bound (lG x (if k=8/\i=1 then bound++[n] else bound) out)
noncomputable def xL:List aT->List (List UInt8)->List (List UInt8)->List (List UInt8)
 |[],_,out=>out
 |x::xs,bound,out=>xL xs bound (IB x bound out)
noncomputable def IB:aT->List (List UInt8)->List (List UInt8)->List (List UInt8)
 | .mk _ v b,bound,out=>lG b (bound++v) out
end
theorem XA(x:au)(bound out:List (List UInt8)):lG x bound out=xL x.aR bound (uw x.fArgs x.aJ x.fName 0 bound (Cy x.aJ x.fName bound out)):=by cases x;rw[lG];rfl
theorem XB(x:aT)(bound out:List (List UInt8)):IB x bound out=lG x.fBody (bound++x.aG) out:=by cases x;rw[IB];rfl
theorem P8{xs:List au}{k:Int}{n:List UInt8}{i:Nat}{bound out:List (List UInt8)}(hi:i<xs.length):uw (xs.drop i) k n i bound out=uw (xs.drop (i+1)) k n (i+1) bound (lG xs[i] (if k=8/\i=1 then bound++[n] else bound) out):=by
 rw[List.drop_eq_getElem_cons hi,uw]
theorem P9{xs:List aT}{i:Nat}{bound out:List (List UInt8)}(hi:i<xs.length):xL (xs.drop i) bound out=xL (xs.drop (i+1)) bound (IB xs[i] bound out):=by
 rw[List.drop_eq_getElem_cons hi,xL]
theorem Nj(k:Int)(n:List UInt8)(bound out:List (List UInt8)):(Cy k n bound out).length<=out.length+1:=by
 unfold Cy;split<;>simp
mutual
theorem xB:∀(x:au)(bound out:List (List UInt8)),(lG x bound out).length<=out.length+x.cnt
 | .mk k t n m ty a b,bound,out=>by
   have h1:=Nj k n bound out;have h2:=Tk a k n 0 bound (Cy k n bound out);have h3:=Tm b bound (uw a k n 0 bound (Cy k n bound out));rw[lG,au.cnt];omega
theorem Tk:∀(xs:List au)(k:Int)(n:List UInt8)(i:Nat)(bound out:List (List UInt8)),(uw xs k n i bound out).length<=out.length+au.eB xs
 |[],k,n,i,bound,out=>by rw[uw,au.eB];omega
 |x::xs,k,n,i,bound,out=>by
  have h1:=xB x (if k=8/\i=1 then bound++[n] else bound) out;have h2:=Tk xs k n (i+1) bound (lG x (if k=8/\i=1 then bound++[n] else bound) out);rw[uw,au.eB];omega
theorem Tm:∀(xs:List aT)(bound out:List (List UInt8)),(xL xs bound out).length<=out.length+aT.eB xs
 |[],bound,out=>by rw[xL,aT.eB];omega
 |x::xs,bound,out=>by
  have h1:=afP x bound out;have h2:=Tm xs bound (IB x bound out);rw[xL,aT.eB];omega
theorem afP:∀(x:aT)(bound out:List (List UInt8)),(IB x bound out).length<=out.length+x.cnt
 | .mk c v b,bound,out=>by
   have h1:=xB b (bound++v) out;rw[IB,aT.cnt];omega
end
theorem au.wV{x:au}{i:Nat}(hi:i<x.fArgs.length):x.fArgs[i].sz+x.fArgs.length<=x.sz:=by
 have hx:x.fArgs[i].sz<=bn (x.fArgs.map au.enc):=dD (List.mem_map_of_mem (List.getElem_mem hi));have:=au.Ea x;omega
theorem au.afQ{x:au}{i:Nat}(hi:i<x.aR.length):x.aR[i].sz+x.aR.length<=x.sz:=by
 have hx:x.aR[i].sz<=bn (x.aR.map aT.enc):=dD (List.mem_map_of_mem (List.getElem_mem hi));have:=au.Ea x;omega
theorem aT.aal(x:aT):x.aG.length+x.fBody.sz<=x.sz:=by
 simp only[aT.sz,aT.aB,au.sz,bT,bL,D.sz,List.length_map];omega
theorem Lr(xs:List (List UInt8))(s:List UInt8):xs.map encS++[[D.s s]]=(xs++[s]).map encS:=by simp[encS]
theorem KH:∀N:Nat,∀x:au,SizeOf.sizeOf x<N->x.sz<=4194304->∀(bound out:List (List UInt8))(l j:Nat)(S:Store),bF S (l,j)=some (.tok 1 (out.map encS))->out.length+x.cnt<=1073741824->bound.length+x.sz<=1073741824->
 dz prog 315 [.c (.bN (l,j) (out.map encS)),x.v,.c (.d (.sl (bound.map encS)))] S (fun r S'=>r=.c (.bN (l,j) ((lG x bound out).map encS))/\S'=bR S (l,j) (.tok 1 ((lG x bound out).map encS)))
 |0=>fun x h=>by omega
 |N+1=>by
  have ih:=KH N;intro x hn hsz bound out l j S hk hc hbd;have hb0:=au.Ea x;have jX:=au.gP x;have Bp:=au.pW x;have hcn:=au.rA x;have OU:∀y:Ab.Obj,bF (bR S (l,j) y) (l,j)=some y:=fun y=>eY _ _ _ _ hk;have hS0:bR S (l,j) (.tok 1 (out.map encS))=S:=y7 _ _ hk;have fin:=XA x bound out;have hal:=Nj x.aJ x.fName bound out;obtain⟨o1,ho1⟩:∃o1,Cy x.aJ x.fName bound out=o1:=⟨_,rfl⟩;rw[ho1] at fin hal;refine(show Hold ?T->_ from fun tail=> ?main) ?tp
  case' main=>
   refine aD (rs:=[.tmp 6]) zmx func315 ntmps315 rfl rfl rfl rfl rfl ?_;simp -implicitDefEqProofs (disch:=omega) only[go_sem,hk]
   repeat' (first
    |(with_reducible refine dM (fun hb=> ?_) (fun hb=> ?_)<;>have h:=hb<;>(try simp only[wf_preprocess] at h)<;>simp -implicitDefEqProofs (disch:=omega) only[go_sem,hb,hk]<;>refine W3 ?_)
    |(refine aZ (sw bound x.fName (by omega)) ?_;simp -implicitDefEqProofs (disch:=omega) only[go_sem,hk];refine W3 ?_)
    |(refine aZ (sw out x.fName (by omega)) ?_;simp -implicitDefEqProofs (disch:=omega) only[go_sem,hk];refine W3 ?_))
   all_goals first
    |(have ha:Cy x.aJ x.fName bound out=out++[x.fName]:=if_pos ⟨by assumption,by assumption,by assumption⟩)
    |(have ha:Cy x.aJ x.fName bound out=out:=if_neg (fun y=>by have:=y.1;have:=y.2.1;have:=y.2.2;contradiction))
   all_goals
    refine oC (st':=[.box (x.enc.map .d)]::bR S (l,j) (.tok 1 (o1.map encS))) [0,2,4,34,35,36] [.c (.bN (1+l,j) (o1.map encS)),.c (.d (.sl (bound.map encS))),.c (.ptr (0,0) 0),.c (.d (.sl (x.fArgs.map au.enc))),.c (.d (.i .i64 x.fArgs.length)),.c (.d (.i .i64 0))] ?_ ?_ ?_
    ·first|(rw[<-ho1,ha];rfl)|(rw[<-ho1,ha,<-Lr];rfl)
    ·first|(rw[<-ho1,ha,hS0];exact Z1;done)|(rw[<-ho1,ha,<-Lr];exact Z1;done)
    ·exact tail.out
  refine⟨?_⟩;clear ho1
  refine aU (ι:=Nat×List (List UInt8)) zmx rfl [0,2,4,34,35,36] (fun y=>[.c (.bN (1+l,j) (y.2.map encS)),.c (.d (.sl (bound.map encS))),.c (.ptr (0,0) 0),.c (.d (.sl (x.fArgs.map au.enc))),.c (.d (.i .i64 x.fArgs.length)),.c (.d (.i .i64 y.1))]) (fun y=>[.box (x.enc.map .d)]::bR S (l,j) (.tok 1 (y.2.map encS)))
   (fun y=>y.1<=x.fArgs.length/\y.2.length+au.eB (x.fArgs.drop y.1)+aT.eB x.aR<=1073741824/\uw (x.fArgs.drop y.1) x.aJ x.fName y.1 bound y.2=uw x.fArgs x.aJ x.fName 0 bound o1) (fun y=>x.fArgs.length-y.1) (0,o1) rfl rfl ⟨Nat.zero_le _,by simp only[List.drop_zero];omega,rfl⟩ ?_
  rintro⟨i,o⟩ ⟨p1,p2,p3⟩
  have refs:∀{a b},kT 1 (jd [0,2,4,34,35,36] [.c (.bN (1+l,j) a),.c (.d (.sl (bound.map encS))),.c (.ptr (0,0) 0),.c (.d (.sl (x.fArgs.map au.enc))),.c (.d (.i .i64 x.fArgs.length)),.c (.d (.i .i64 b))])=true:=fun {a b}=>by simp[kT,jd,V.refs,C.refs,nZ];omega
  simp only at p1 p2 p3;refine W1 ?_;refine S0 (fun hb h=>?_) fun hb h=>?_
  ·have hi:i<x.fArgs.length:=by omega
   have hs:=List.sizeOf_lt_of_mem (List.getElem_mem hi);have hz:=au.wV hi;rw[P8 hi] at p3;rw[au.nL hi] at p2;have hlo:=xB x.fArgs[i] (if x.aJ=8/\i=1 then bound++[x.fName] else bound) o;refine W3 ?_
   have two:x.fArgs[i].sz+(bound.length+1)<=1073741824:=by omega
   repeat' (first|refine S0 (fun hb h=>?_) fun hb h=>?_)
   ·
    have e1:x.aJ=8/\i=1:=⟨by omega,by omega⟩;rw[if_pos e1] at p3 hlo;refine amG rfl DS.push (afL bound (by omega) _ _) ?_;refine W1 ?_;refine W3 ?_;rw[Lr];refine qz [true,true,false] rfl (ih x.fArgs[i] (by omega) (by omega) (bound++[x.fName]) o (1+l) j _ (by refine W1 ?_;exact OU _) (by omega) (by simp only[List.length_append,List.length_cons,List.length_nil];omega)) ?_;simp -implicitDefEqProofs (disch:=omega) only[go_sem,bB];exact bZ 1 (by decide) (i+1,lG x.fArgs[i] (bound++[x.fName]) o) (by simp only;omega) rfl rfl refs rfl ⟨by simp only;omega,by simp only;omega,p3⟩
   all_goals
    have e1:¬(x.aJ=8/\i=1):=fun h=>by omega
    rw[if_neg e1] at p3 hlo;refine bg rfl (ih x.fArgs[i] (by omega) (by omega) bound o (1+l) j _ (by refine W1 ?_;exact OU _) (by omega) (by omega)) ?_;simp -implicitDefEqProofs (disch:=omega) only[go_sem,bB];exact bZ 1 (by decide) (i+1,lG x.fArgs[i] bound o) (by simp only;omega) rfl rfl refs rfl ⟨by simp only;omega,by simp only;omega,p3⟩
  have hi:i=x.fArgs.length:=by omega
  rw[hi,List.drop_length] at p2 p3;rw[au.eB] at p2;rw[uw] at p3;rw[<-p3] at fin;clear p3 refs
  refine aU (ι:=Nat×List (List UInt8)) zmx rfl [0,2,63,64,65] (fun y=>[.c (.bN (1+l,j) (y.2.map encS)),.c (.d (.sl (bound.map encS))),.c (.d (.sl (x.aR.map aT.enc))),.c (.d (.i .i64 x.aR.length)),.c (.d (.i .i64 y.1))]) (fun y=>[.box (x.enc.map .d)]::bR S (l,j) (.tok 1 (y.2.map encS)))
   (fun y=>y.1<=x.aR.length/\y.2.length+aT.eB (x.aR.drop y.1)<=1073741824/\xL (x.aR.drop y.1) bound y.2=lG x bound out) (fun y=>x.aR.length-y.1) (0,o) rfl ?_ ⟨Nat.zero_le _,by simp only[List.drop_zero];omega,fin.symm⟩ ?_
  ·exact Z1
  clear p1 p2 fin hal;rintro⟨i,o⟩ ⟨p1,p2,p3⟩
  have refs:∀a b,kT 1 (jd [0,2,63,64,65] [.c (.bN (1+l,j) a),.c (.d (.sl (bound.map encS))),.c (.d (.sl (x.aR.map aT.enc))),.c (.d (.i .i64 x.aR.length)),.c (.d (.i .i64 b))])=true:=fun a b=>by simp[kT,jd,V.refs,C.refs,nZ];omega
  simp only at p1 p2 p3;refine W1 ?_;refine S0 (fun hb h=>?_) fun hb h=>?_
  ·have hi:i<x.aR.length:=by omega
   have hs:=List.sizeOf_lt_of_mem (List.getElem_mem hi);have hs':=aT.oO x.aR[i];have hz:=au.afQ hi;have hz':=aT.aal x.aR[i];rw[P9 hi,XB] at p3;rw[aT.nL hi] at p2;have hlo:=xB x.aR[i].fBody (bound++x.aR[i].aG) o;have hcc:=acY [bound,x.aR[i].aG] (by simp) (by simp only[List.flatten_cons,List.flatten_nil,List.append_nil,List.length_append];omega);simp only[List.map_cons,List.map_nil,List.flatten_cons,List.flatten_nil,List.append_nil] at hcc;refine W3 ?_;refine aZ hcc ?_;refine W1 ?_;refine bg rfl (ih x.aR[i].fBody (by omega) (by omega) (bound++x.aR[i].aG) o (1+l) j _ (by refine W1 ?_;exact OU _) (by omega) (by simp only[List.length_append];omega)) ?_;simp -implicitDefEqProofs (disch:=omega) only[go_sem,bB];exact bZ 1 (by decide) (i+1,lG x.aR[i].fBody (bound++x.aR[i].aG) o) (by simp only;omega) rfl rfl (refs _ _) rfl ⟨by simp only;omega,by simp only;omega,p3⟩
  ·have hi:i=x.aR.length:=by omega
   rw[hi,List.drop_length,xL] at p3;rw[<-p3];exact⟨rfl,rfl⟩
theorem Qa(x:au)(hsz:x.sz<=4194304):aH prog 290 [x.v] (.c (.d (.sl ((lG x [] []).map encS)))):=fun S=>by
 have hc:=au.mZ x
 have h0:∀S,dz prog 315 [.c (.bG []),x.v,.c (.d (.sl []))] S (fun r S'=>r=.c (.d (.sl ((lG x [] []).map encS)))/\S'=S):=fun S=>by
  refine dz.ahM 0 (es:=[]) (aX:=1) rfl (by simp) (KH _ x (Nat.lt_succ_self _) hsz [] [] 0 0 ([.tok 1 []]::S) rfl (by simp;omega) (by simp;omega)) ?_;rintro r fr S' ⟨rfl,h2⟩;injection h2 with h2 h3;exact⟨_,rfl,rfl,h3⟩
 refine aD (rs:=[.tmp 2]) zmx func290 ntmps290 rfl rfl rfl rfl rfl ?_;refine W1 ?_;refine W3 ?_;refine qz [true,true,false] rfl (h0 _) ?_;exact Z1
theorem KI:∀N:Nat,∀x:au,SizeOf.sizeOf x<N->x.sz<=4194304->∀(bound out:List (List UInt8))(l j:Nat)(S:Store),bF S (l,j)=some (.tok 1 (out.map encS))->out.length+x.cnt<=1073741824->bound.length+x.sz<=1073741824->
 dz prog 330 [x.v,.c (.d (.sl (bound.map encS))),.c (.bN (l,j) (out.map encS))] S (fun r S'=>r=.c (.bN (l,j) ((lG x bound out).map encS))/\S'=bR S (l,j) (.tok 1 ((lG x bound out).map encS)))
 |0=>fun x h=>by omega
 |N+1=>by
  have ih:=KI N;intro x hn hsz bound out l j S hk hc hbd;have hb0:=au.Ea x;have jX:=au.gP x;have Bp:=au.pW x;have hcn:=au.rA x;have OU:∀y:Ab.Obj,bF (bR S (l,j) y) (l,j)=some y:=fun y=>eY _ _ _ _ hk;have hS0:bR S (l,j) (.tok 1 (out.map encS))=S:=y7 _ _ hk;have fin:=XA x bound out;have hal:=Nj x.aJ x.fName bound out;obtain⟨o1,ho1⟩:∃o1,Cy x.aJ x.fName bound out=o1:=⟨_,rfl⟩;rw[ho1] at fin hal;refine(show Hold ?T->_ from fun tail=> ?main) ?tp
  case' main=>
   refine aD (rs:=[.tmp 6]) zmx func330 ntmps330 rfl rfl rfl rfl rfl ?_;simp -implicitDefEqProofs (disch:=omega) only[go_sem,hk]
   repeat' (first
    |(with_reducible refine dM (fun hb=> ?_) (fun hb=> ?_)<;>have h:=hb<;>(try simp only[wf_preprocess] at h)<;>simp -implicitDefEqProofs (disch:=omega) only[go_sem,hb,hk]<;>refine W3 ?_)
    |(refine aZ (su bound x.fName (by omega)) ?_;simp -implicitDefEqProofs (disch:=omega) only[go_sem,hk];refine W3 ?_)
    |(refine aZ (su out x.fName (by omega)) ?_;simp -implicitDefEqProofs (disch:=omega) only[go_sem,hk];refine W3 ?_))
   all_goals first
    |(have ha:Cy x.aJ x.fName bound out=out++[x.fName]:=if_pos ⟨by assumption,by assumption,by assumption⟩)
    |(have ha:Cy x.aJ x.fName bound out=out:=if_neg (fun y=>by have:=y.1;have:=y.2.1;have:=y.2.2;contradiction))
   all_goals
    refine oC (st':=[.box (x.enc.map .d)]::bR S (l,j) (.tok 1 (o1.map encS))) [1,2,3,7] [.c (.d (.sl (bound.map encS))),.c (.bN (1+l,j) (o1.map encS)),.c (.ptr (0,0) 0),.c (.d (.i .i64 0))] ?_ ?_ ?_
    ·first|(rw[<-ho1,ha];rfl)|(rw[<-ho1,ha,<-Lr];rfl)
    ·first|(rw[<-ho1,ha,hS0];exact Z1;done)|(rw[<-ho1,ha,<-Lr];exact Z1;done)
    ·exact tail.out
  refine⟨?_⟩;clear ho1
  refine aU (ι:=Nat×List (List UInt8)) zmx rfl [1,2,3,7] (fun y=>[.c (.d (.sl (bound.map encS))),.c (.bN (1+l,j) (y.2.map encS)),.c (.ptr (0,0) 0),.c (.d (.i .i64 y.1))]) (fun y=>[.box (x.enc.map .d)]::bR S (l,j) (.tok 1 (y.2.map encS)))
   (fun y=>y.1<=x.fArgs.length/\y.2.length+au.eB (x.fArgs.drop y.1)+aT.eB x.aR<=1073741824/\uw (x.fArgs.drop y.1) x.aJ x.fName y.1 bound y.2=uw x.fArgs x.aJ x.fName 0 bound o1) (fun y=>x.fArgs.length-y.1) (0,o1) rfl rfl ⟨Nat.zero_le _,by simp only[List.drop_zero];omega,rfl⟩ ?_
  rintro⟨i,o⟩ ⟨p1,p2,p3⟩
  have refs:∀{a b},kT 1 (jd [1,2,3,7] [.c (.d (.sl (bound.map encS))),.c (.bN (1+l,j) a),.c (.ptr (0,0) 0),.c (.d (.i .i64 b))])=true:=fun {a b}=>by simp[kT,jd,V.refs,C.refs,nZ];omega
  simp only at p1 p2 p3;refine W1 ?_;refine S0 (fun hb h=>?_) fun hb h=>?_
  ·have hi:i<x.fArgs.length:=by omega
   have hs:=List.sizeOf_lt_of_mem (List.getElem_mem hi);have hz:=au.wV hi;rw[P8 hi] at p3;rw[au.nL hi] at p2;have hlo:=xB x.fArgs[i] (if x.aJ=8/\i=1 then bound++[x.fName] else bound) o
   have two:x.fArgs[i].sz+(bound.length+1)<=1073741824:=by omega
   repeat' (first|refine S0 (fun hb h=>?_) fun hb h=>?_)
   ·have e1:x.aJ=8/\i=1:=⟨by omega,by omega⟩;rw[if_pos e1] at p3 hlo;refine⟨Eu,⟨_,rfl,rfl⟩,fun y hy=>(by cases hy),by omega,?_⟩;refine W3 ?_;rw[Lr];refine qz [true,false,true] rfl (ih x.fArgs[i] (by omega) (by omega) (bound++[x.fName]) o (1+l) j _ (by refine W1 ?_;exact OU _) (by omega) (by simp only[List.length_append,List.length_cons,List.length_nil];omega)) ?_;simp -implicitDefEqProofs (disch:=omega) only[go_sem,bB];exact bZ 1 (by decide) (i+1,lG x.fArgs[i] (bound++[x.fName]) o) (by simp only;omega) rfl rfl refs rfl ⟨by simp only;omega,by simp only;omega,p3⟩
   all_goals
    have e1:¬(x.aJ=8/\i=1):=fun h=>by omega
    rw[if_neg e1] at p3 hlo;refine W3 ?_;refine bg rfl (ih x.fArgs[i] (by omega) (by omega) bound o (1+l) j _ (by refine W1 ?_;exact OU _) (by omega) (by omega)) ?_;simp -implicitDefEqProofs (disch:=omega) only[go_sem,bB];exact bZ 1 (by decide) (i+1,lG x.fArgs[i] bound o) (by simp only;omega) rfl rfl refs rfl ⟨by simp only;omega,by simp only;omega,p3⟩
  have hi:i=x.fArgs.length:=by omega
  rw[hi,List.drop_length] at p2 p3;rw[au.eB] at p2;rw[uw] at p3;rw[<-p3] at fin;clear p3 refs
  refine aU (ι:=Nat×List (List UInt8)) zmx rfl [1,2,3,9] (fun y=>[.c (.d (.sl (bound.map encS))),.c (.bN (1+l,j) (y.2.map encS)),.c (.ptr (0,0) 0),.c (.d (.i .i64 y.1))]) (fun y=>[.box (x.enc.map .d)]::bR S (l,j) (.tok 1 (y.2.map encS)))
   (fun y=>y.1<=x.aR.length/\y.2.length+aT.eB (x.aR.drop y.1)<=1073741824/\xL (x.aR.drop y.1) bound y.2=lG x bound out) (fun y=>x.aR.length-y.1) (0,o) rfl ?_ ⟨Nat.zero_le _,by simp only[List.drop_zero];omega,fin.symm⟩ ?_
  ·exact Z1
  clear p1 p2 fin hal;rintro⟨i,o⟩ ⟨p1,p2,p3⟩
  have refs:∀a b,kT 1 (jd [1,2,3,9] [.c (.d (.sl (bound.map encS))),.c (.bN (1+l,j) a),.c (.ptr (0,0) 0),.c (.d (.i .i64 b))])=true:=fun a b=>by simp[kT,jd,V.refs,C.refs,nZ];omega
  simp only at p1 p2 p3;refine W1 ?_;refine S0 (fun hb h=>?_) fun hb h=>?_
  ·have hi:i<x.aR.length:=by omega
   have hs:=List.sizeOf_lt_of_mem (List.getElem_mem hi);have hs':=aT.oO x.aR[i];have hz:=au.afQ hi;have hz':=aT.aal x.aR[i];rw[P9 hi,XB] at p3;rw[aT.nL hi] at p2;have hlo:=xB x.aR[i].fBody (bound++x.aR[i].aG) o;refine⟨Eu,⟨_,rfl,rfl⟩,fun y hy=>(by cases hy),by omega,⟨by omega,hi⟩,Eu,⟨_,rfl,rfl⟩,by omega,?_⟩;rw[<-List.map_append];refine qz [true,false,true] rfl (ih x.aR[i].fBody (by omega) (by omega) (bound++x.aR[i].aG) o (1+l) j _ (by refine W1 ?_;exact OU _) (by omega) (by simp only[List.length_append];omega)) ?_;simp -implicitDefEqProofs (disch:=omega) only[go_sem,bB];exact bZ 1 (by decide) (i+1,lG x.aR[i].fBody (bound++x.aR[i].aG) o) (by simp only;omega) rfl rfl (refs _ _) rfl ⟨by simp only;omega,by simp only;omega,p3⟩
  ·have hi:i=x.aR.length:=by omega
   rw[hi,List.drop_length,xL] at p3;rw[<-p3];exact⟨rfl,rfl⟩
theorem Qb(x:au)(hsz:x.sz<=4194304):aH prog 310 [x.v] (.c (.d (.sl ((lG x [] []).map encS)))):=fun S=>by
 have hc:=au.mZ x
 have h0:∀S,dz prog 330 [x.v,.c (.d (.sl [])),.c (.bG [])] S (fun r S'=>r=.c (.d (.sl ((lG x [] []).map encS)))/\S'=S):=fun S=>by
  refine dz.ahM 2 (es:=[]) (aX:=1) rfl (by simp) (KI _ x (Nat.lt_succ_self _) hsz [] [] 0 0 ([.tok 1 []]::S) rfl (by simp;omega) (by simp;omega)) ?_;rintro r fr S' ⟨rfl,h2⟩;injection h2 with h2 h3;exact⟨_,rfl,rfl,h3⟩
 refine aD (rs:=[.tmp 2]) zmx func310 ntmps310 rfl rfl rfl rfl rfl ?_;refine W1 ?_;refine W3 ?_;refine qz [true,false,true] rfl (h0 _) ?_;exact Z1
theorem CO:∀n:Nat,(∀x:ak,SizeOf.sizeOf x<n->∀y:ak,x.sz<=4194304->aH prog 347 [x.v,y.v] (.c (.d (.b (dec (x=y))))))/\
 (∀xs:List ak,SizeOf.sizeOf xs<n->∀ys:List ak,xs.length+bn (xs.map ak.enc)<=4194304->aH prog 355 [.c (.d (.sl (xs.map ak.enc))),.c (.d (.sl (ys.map ak.enc)))] (.c (.d (.b (dec (xs=ys))))))
 |0=>⟨fun x h=>by omega,fun x h=>by omega⟩
 |n+1=>by
  obtain⟨ih,qQ⟩:=CO n;refine⟨fun x hn y hsz S=> ?_,fun xs hn ys hsz S=> ?_⟩
  ·have jX:=ak.gP x;simp only[ak.sz,ak.aB,bT,bL,D.sz,List.length_map] at hsz;refine aD (rs:=[.tmp 4]) zmx func347 ntmps347 rfl rfl rfl rfl rfl ?_;refine W1 ?_;refine S0 (fun hb h=>?_) fun hb h=>?_
   ·refine S0 (fun hb h=>?_) fun hb h=>?_
    ·refine W3 ?_;refine C1 (qQ x.fArgs (by omega) y.fArgs (by omega)) ?_;refine ay (iB ⟨fun e=> ?_,fun e=>by rw[e]⟩);exact ak.ext ‹x.aJ=y.aJ› h e
    ·exact ay (aA (fun e=>h (by rw[e]))).symm
   ·exact ay (aA (fun e=>h (by rw[e]))).symm
  ·refine aD (rs:=[.tmp 4]) zmx func355 ntmps355 rfl rfl rfl rfl rfl ?_;refine W1 ?_;refine S0 (fun hb h=>?_) fun hb h=>?_
   ·exact ay (aA (fun e=>h (by rw[e]))).symm
   have hl:xs.length=ys.length:=by omega
   refine aU (ι:=Nat) zmx rfl [0,1,5] (fun y=>[.c (.d (.sl (xs.map ak.enc))),.c (.d (.sl (ys.map ak.enc))),.c (.d (.i .i64 y))]) (fun y=>[]::S)
    (fun i=>i<=xs.length/\∀j,j<i->xs[j]? =ys[j]?) (fun y=>xs.length-y) 0 rfl rfl ⟨Nat.zero_le _,fun j h=>by omega⟩ ?_
   rintro i ⟨p1,p2⟩;refine W1 ?_;refine S0 (fun hb h=>?_) fun hb h=>?_
   ·have hi:i<xs.length:=by omega
    have hi':i<ys.length:=by omega
    have hx:xs[i].sz<=bn (xs.map ak.enc):=dD (List.mem_map_of_mem (List.getElem_mem hi));refine W3 ?_;refine C1 (ih xs[i] (by have:=List.sizeOf_lt_of_mem (List.getElem_mem hi);omega) ys[i] (by omega)) ?_;refine S0 (fun hb h=>?_) fun hb h=>?_
    ·exact ay (aA (fun e=>h (by simp only[e]))).symm
    refine bJ (i+1) (by omega) rfl rfl ⟨by omega,fun j hj=> ?_⟩;by_cases e:j=i
    ·subst e;rw[List.getElem?_eq_getElem hi,List.getElem?_eq_getElem hi',h]
    ·exact p2 j (by omega)
   ·have hi:i=xs.length:=by omega
    refine ay (aY (List.ext_getElem? fun j=> ?_)).symm;by_cases hj:j<i
    ·exact p2 j hj
    ·rw[List.getElem?_eq_none (by omega),List.getElem?_eq_none (by omega)]
theorem Nk(x y:ak)(h:x.sz<=4194304):aH prog 347 [x.v,y.v] (.c (.d (.b (dec (x=y))))):=(CO _).1 x (Nat.lt_succ_self _) y h
theorem CP:∀n:Nat,(∀x:ak,SizeOf.sizeOf x<n->∀y:ak,x.sz<=4194304->aH prog 331 [x.v,y.v] (.c (.d (.b (dec (x=y))))))/\
 (∀xs:List ak,SizeOf.sizeOf xs<n->∀ys:List ak,xs.length+bn (xs.map ak.enc)<=4194304->aH prog 349 [.c (.d (.sl (xs.map ak.enc))),.c (.d (.sl (ys.map ak.enc))),.c (.fn 331 [])] (.c (.d (.b (dec (xs=ys))))))
 |0=>⟨fun x h=>by omega,fun x h=>by omega⟩
 |n+1=>by
  obtain⟨ih,qQ⟩:=CP n;refine⟨fun x hn y hsz S=> ?_,fun xs hn ys hsz S=> ?_⟩
  ·have jX:=ak.gP x;simp only[ak.sz,ak.aB,bT,bL,D.sz,List.length_map] at hsz;refine aD (rs:=[.tmp 4]) zmx func331 ntmps331 rfl rfl rfl rfl rfl ?_;refine W1 ?_;refine S0 (fun hb h=>?_) fun hb h=>?_
   ·refine S0 (fun hb h=>?_) fun hb h=>?_
    ·refine W3 ?_;refine C1 (qQ x.fArgs (by omega) y.fArgs (by omega)) ?_;refine ay (iB ⟨fun e=> ?_,fun e=>by rw[e]⟩);exact ak.ext ‹x.aJ=y.aJ› h e
    ·exact ay (aA (fun e=>h (by rw[e]))).symm
   ·exact ay (aA (fun e=>h (by rw[e]))).symm
  ·refine aD (rs:=[.tmp 6]) zmx func349 ntmps349 rfl rfl rfl rfl rfl ?_;refine W1 ?_;refine S0 (fun hb h=>?_) fun hb h=>?_
   ·exact ay (aA (fun e=>h (by rw[e]))).symm
   have hl:xs.length=ys.length:=by omega
   refine aU (ι:=Nat) zmx rfl [1,2,15,16,17] (fun y=>[.c (.d (.sl (ys.map ak.enc))),.c (.fn 331 []),.c (.d (.sl (xs.map ak.enc))),.c (.d (.i .i64 xs.length)),.c (.d (.i .i64 y))]) (fun y=>[]::S)
    (fun i=>i<=xs.length/\∀j,j<i->xs[j]? =ys[j]?) (fun y=>xs.length-y) 0 rfl rfl ⟨Nat.zero_le _,fun j h=>by omega⟩ ?_
   rintro i ⟨p1,p2⟩;refine W1 ?_;refine S0 (fun hb h=>?_) fun hb h=>?_
   ·have hi:i<xs.length:=by omega
    have hi':i<ys.length:=by omega
    have hx:xs[i].sz<=bn (xs.map ak.enc):=dD (List.mem_map_of_mem (List.getElem_mem hi));refine W3 ?_;refine C1 (ih xs[i] (by have:=List.sizeOf_lt_of_mem (List.getElem_mem hi);omega) ys[i] (by omega)) ?_;refine S0 (fun hb h=>?_) fun hb h=>?_
    ·exact ay (aA (fun e=>h (by simp only[e]))).symm
    refine bZ 0 (by decide) (i+1) (by omega) rfl rfl rfl rfl ⟨by omega,fun j hj=> ?_⟩;by_cases e:j=i
    ·subst e;rw[List.getElem?_eq_getElem hi,List.getElem?_eq_getElem hi',h]
    ·exact p2 j (by omega)
   ·have hi:i=xs.length:=by omega
    refine ay (aY (List.ext_getElem? fun j=> ?_)).symm;by_cases hj:j<i
    ·exact p2 j hj
    ·rw[List.getElem?_eq_none (by omega),List.getElem?_eq_none (by omega)]
theorem Nl(x y:ak)(h:x.sz<=4194304):aH prog 331 [x.v,y.v] (.c (.d (.b (dec (x=y))))):=(CP _).1 x (Nat.lt_succ_self _) y h
theorem au.Ev{x:au}(h:x.sz<=4194304):x.bD.length<=4194304/\x.fName.length<=4194304/\x.fType.sz<=4194304/\x.fArgs.length<=4194304/\x.aR.length<=4194304:=by
 simp only[au.sz,au.aB,bT,bL,D.sz,List.length_map,ak.d9] at h;omega
theorem au.aj2{x:au}{i:Nat}(hi:i<x.fArgs.length)(h:x.sz<=4194304):x.fArgs[i].sz<=4194304:=by
 have hx:x.fArgs[i].sz<=bn (x.fArgs.map au.enc):=dD (List.mem_map_of_mem (List.getElem_mem hi));simp only[au.sz,au.aB,bT,bL,D.sz,List.length_map,ak.d9] at h;omega
theorem au.aj3{x:au}{i:Nat}(hi:i<x.aR.length)(h:x.sz<=4194304):x.aR[i].sz<=4194304:=by
 have hx:x.aR[i].sz<=bn (x.aR.map aT.enc):=dD (List.mem_map_of_mem (List.getElem_mem hi));simp only[au.sz,au.aB,bT,bL,D.sz,List.length_map,ak.d9] at h;omega
theorem aT.Ev{x:aT}(h:x.sz<=4194304):x.dN.length<=4194304/\x.aG.length<=4194304/\x.fBody.sz<=4194304:=by
 simp only[aT.sz,aT.aB,bT,bL,D.sz,List.length_map,au.d9] at h;omega
theorem CQ:∀n:Nat,∀x:au,SizeOf.sizeOf x<n->∀y:au,x.sz<=4194304->aH prog 311 [x.v,y.v] (.c (.d (.b (dec (x=y)))))
 |0=>fun x h=>by omega
 |n+1=>by
  have ih:=CQ n;intro x hn y hsz S;have jX:=au.gP x;have Bp:=au.pW x;have hb0:=au.Ev hsz
  have hargs:=MS 311 x.fArgs y.fArgs (by omega) (fun u hu v=>by
   obtain⟨i,hi,e⟩:=List.getElem_of_mem hu;have:=List.sizeOf_lt_of_mem hu
   exact ih u (by omega) v (by rw[<-e];exact au.aj2 hi hsz))
  have aph:=OY 334 x.aR y.aR (by omega) (fun u hu v=>by
   obtain⟨i,hi,e⟩:=List.getElem_of_mem hu;have hs:=List.sizeOf_lt_of_mem hu
   have hz:u.sz<=4194304:=by rw[<-e];exact au.aj3 hi hsz
   have hz':=aT.Ev hz;have ajN:=aT.oO u;intro S;refine aD (rs:=[.tmp 4]) zmx func334 ntmps334 rfl rfl rfl rfl rfl ?_;refine W1 ?_;refine S0 (fun hb h=>?_) fun hb h=>?_
   ·have h1:=h;refine C2 (aeQ u.aG v.aG (by omega)) ?_;refine S0 (fun hb h=>?_) fun hb h=>?_
    ·have h2:=h;refine C2 (ih u.fBody (by omega) v.fBody (by omega)) ?_;exact ay (iB ⟨fun e=>aT.ext h1 h2 e,fun e=>by rw[e]⟩)
    ·exact ay (aA (fun e=>h (by rw[e]))).symm
   ·exact ay (aA (fun e=>h (by rw[e]))).symm)
  refine aD (rs:=[.tmp 4]) zmx func311 ntmps311 rfl rfl rfl rfl rfl ?_;refine W1 ?_;refine S0 (fun hb h=>?_) fun hb h=>?_
  ·have h1:=h;refine S0 (fun hb h=>?_) fun hb h=>?_
   ·have h2:=h;refine S0 (fun hb h=>?_) fun hb h=>?_
    ·have h3:=h;refine S0 (fun hb h=>?_) fun hb h=>?_
     ·have h4:=h;refine C2 (Nl x.fType y.fType (by omega)) ?_;refine S0 (fun hb h=>?_) fun hb h=>?_
      ·have h5:=h;refine C2 (hargs) ?_;refine S0 (fun hb h=>?_) fun hb h=>?_
       ·have h6:=h;refine C2 (aph) ?_;exact ay (iB ⟨fun e=>au.ext h1 h2 h3 h4 h5 h6 e,fun e=>by rw[e]⟩)
       ·exact ay (aA (fun e=>h (by rw[e]))).symm
      ·exact ay (aA (fun e=>h (by rw[e]))).symm
     ·exact ay (aA (fun e=>h (by rw[e]))).symm
    ·exact ay (aA (fun e=>h (by rw[e]))).symm
   ·exact ay (aA (fun e=>h (by rw[e]))).symm
  ·exact ay (aA (fun e=>h (by rw[e]))).symm
theorem Nn(x y:au)(h:x.sz<=4194304):aH prog 311 [x.v,y.v] (.c (.d (.b (dec (x=y))))):=CQ _ x (Nat.lt_succ_self _) y h
theorem CR:∀n:Nat,∀x:au,SizeOf.sizeOf x<n->∀y:au,x.sz<=4194304->aH prog 328 [x.v,y.v] (.c (.d (.b (dec (x=y)))))
 |0=>fun x h=>by omega
 |n+1=>by
  have ih:=CR n;intro x hn y hsz S;have jX:=au.gP x;have Bp:=au.pW x;have hb0:=au.Ev hsz;refine aD (rs:=[.tmp 4]) zmx func328 ntmps328 rfl rfl rfl rfl rfl ?_;refine W1 ?_;refine S0 (fun hb h=>?_) fun hb h=>?_
  ·exact ay (aA (fun e=>h (by rw[e]))).symm
  have h1:=h;refine S0 (fun hb h=>?_) fun hb h=>?_
  ·exact ay (aA (fun e=>h (by rw[e]))).symm
  have h2:=h;refine S0 (fun hb h=>?_) fun hb h=>?_
  ·exact ay (aA (fun e=>h (by rw[e]))).symm
  have h3:=h;refine S0 (fun hb h=>?_) fun hb h=>?_
  ·exact ay (aA (fun e=>h (by rw[e]))).symm
  have h4:=h;refine C2 (Nk x.fType y.fType (by omega)) ?_;refine S0 (fun hb h=>?_) fun hb h=>?_
  ·exact ay (aA (fun e=>h (by rw[e]))).symm
  have h5:=h;refine S0 (fun hb h=>?_) fun hb h=>?_
  ·exact ay (aA (fun e=>h (by rw[e]))).symm
  have h6:x.fArgs.length=y.fArgs.length:=by omega
  refine S0 (fun hb h=>?_) fun hb h=>?_
  ·exact ay (aA (fun e=>h (by rw[e]))).symm
  have h7:x.aR.length=y.aR.length:=by omega
  refine aU (ι:=Nat) zmx rfl [2,3,5] (fun i=>[.c (.ptr (0,0) 0),.c (.ptr (0,1) 0),.c (.d (.i .i64 i))]) (fun _=>[.box (x.enc.map .d),.box (y.enc.map .d)]::S)
   (fun i=>i<=x.fArgs.length/\∀j,j<i->x.fArgs[j]? =y.fArgs[j]?) (fun i=>x.fArgs.length-i) 0 rfl ?_ ⟨Nat.zero_le _,fun j h=>by omega⟩ ?_
  ·exact Z1
  rintro i ⟨p1,p2⟩;refine W1 ?_;refine S0 (fun hb h=>?_) fun hb h=>?_
  ·have hi:i<x.fArgs.length:=by omega
   have hi':i<y.fArgs.length:=by omega
   refine W3 ?_;refine C2 (ih x.fArgs[i] (by have:=List.sizeOf_lt_of_mem (List.getElem_mem hi);omega) y.fArgs[i] (au.aj2 hi hsz)) ?_;refine S0 (fun hb h=>?_) fun hb h=>?_
   ·exact ay (aA (fun e=>h (by simp only[e]))).symm
   refine bJ (i+1) (by omega) rfl rfl ⟨by omega,fun j hj=> ?_⟩;by_cases e:j=i
   ·subst e;rw[List.getElem?_eq_getElem hi,List.getElem?_eq_getElem hi',h]
   ·exact p2 j (by omega)
  have hi:i=x.fArgs.length:=by omega
  have h8:x.fArgs=y.fArgs:=List.ext_getElem? fun j=>by
   by_cases hj:j<i
   ·exact p2 j hj
   ·rw[List.getElem?_eq_none (by omega),List.getElem?_eq_none (by omega)]
  refine aU (ι:=Nat) zmx rfl [2,3,6] (fun i=>[.c (.ptr (0,0) 0),.c (.ptr (0,1) 0),.c (.d (.i .i64 i))]) (fun _=>[.box (x.enc.map .d),.box (y.enc.map .d)]::S)
   (fun i=>i<=x.aR.length/\∀j,j<i->x.aR[j]? =y.aR[j]?) (fun i=>x.aR.length-i) 0 rfl ?_ ⟨Nat.zero_le _,fun j h=>by omega⟩ ?_
  ·exact Z1
  clear p1 p2 hi hb h;clear i;rintro i ⟨p1,p2⟩;refine W1 ?_;refine S0 (fun hb h=>?_) fun hb h=>?_
  ·have hi:i<x.aR.length:=by omega
   have hi':i<y.aR.length:=by omega
   have hs:=List.sizeOf_lt_of_mem (List.getElem_mem hi);have hz:=aT.Ev (au.aj3 hi hsz);have ajN:=aT.oO x.aR[i];refine W3 ?_;refine S0 (fun hb h=>?_) fun hb h=>?_
   ·exact ay (aA (fun e=>h (by simp only[e]))).symm
   have k1:=h;refine W3 ?_;refine C2 (YT x.aR[i].aG y.aR[i].aG (by omega)) ?_;refine S0 (fun hb h=>?_) fun hb h=>?_
   ·exact ay (aA (fun e=>h (by simp only[e]))).symm
   have k2:=h;refine W3 ?_;refine C2 (ih x.aR[i].fBody (by omega) y.aR[i].fBody (by omega)) ?_;refine S0 (fun hb h=>?_) fun hb h=>?_
   ·exact ay (aA (fun e=>h (by simp only[e]))).symm
   have k3:=h;refine bJ (i+1) (by omega) rfl rfl ⟨by omega,fun j hj=> ?_⟩;by_cases e:j=i
   ·subst e;rw[List.getElem?_eq_getElem hi,List.getElem?_eq_getElem hi',aT.ext k1 k2 k3]
   ·exact p2 j (by omega)
  ·have hi:i=x.aR.length:=by omega
   have h9:x.aR=y.aR:=List.ext_getElem? fun j=>by
    by_cases hj:j<i
    ·exact p2 j hj
    ·rw[List.getElem?_eq_none (by omega),List.getElem?_eq_none (by omega)]
   exact ay (aY (au.ext h1 h2 h3 h4 h5 h8 h9)).symm
theorem Np(x y:au)(h:x.sz<=4194304):aH prog 328 [x.v,y.v] (.c (.d (.b (dec (x=y))))):=CR _ x (Nat.lt_succ_self _) y h
theorem GA:∀n:Nat,∀t:ak,SizeOf.sizeOf t<n->t.sz<=4194304->∀v:List UInt8,aH prog 309 [t.v,.c (.d (.s v))] (.c (.d (.i .i64 (sj v t))))
 |0=>fun t h=>by omega
 |n+1=>by
  have ih:=GA n;intro t hn hsz v S;have jX:=ak.gP t;have hts:=JO hsz;have hcl:=aeM v t;have hcn:=mZ t;have he:=aeL v t;refine aD (rs:=[.tmp 4]) zmx func309 ntmps309 rfl rfl rfl rfl rfl ?_;refine W1 ?_
  repeat' (first|(refine S0 (fun hb h=>?_) fun hb h=>?_))
  all_goals first
   |(have hc:sj v t=1+xH v t.fArgs:=by rw[he,if_pos (by simp only[OL,decide_eq_true_eq];exact⟨by assumption,by assumption⟩)])
   |(have hc:sj v t=0+xH v t.fArgs:=by rw[he,if_neg (by simp only[OL,decide_eq_true_eq];exact fun x=>by have:=x.1;have:=x.2;contradiction)])
  all_goals
   refine aU (ι:=Nat×Nat) zmx rfl [1,2,5,6] (fun y=>[.c (.d (.s v)),.c (.ptr (0,0) 0),.c (.d (.i .i64 y.2)),.c (.d (.i .i64 y.1))]) (fun _=>[.box [.d (.i .i64 t.aJ),.d (.s t.fName),.d (.sl (t.fArgs.map ak.enc))]]::S)
    (fun y=>y.1<=t.fArgs.length/\sj v t=y.2+xH v (t.fArgs.drop y.1)) (fun y=>t.fArgs.length-y.1) (0,_) rfl rfl ⟨Nat.zero_le _,hc⟩ ?_
   rintro⟨i,c⟩ ⟨p1,p2⟩;simp only at p1 p2;refine W1 ?_;refine S0 (fun hb h=>?_) fun hb h=>?_
   ·have hi:i<t.fArgs.length:=by omega
    rw[Wi hi] at p2;refine W3 ?_;refine C2 (ih t.fArgs[i] (by have:=List.sizeOf_lt_of_mem (List.getElem_mem hi);omega) (Dt hi hsz).1 v) ?_;rw[show(c:Int)+(sj v t.fArgs[i]:Int)=((c+sj v t.fArgs[i]:Nat):Int) by omega];exact bJ (i+1,c+sj v t.fArgs[i]) (by simp only;omega) rfl rfl ⟨by simp only;omega,by simp only;omega⟩
   ·have hi:i=t.fArgs.length:=by omega
    rw[hi,List.drop_length] at p2;have h0:xH v []=0:=rfl;exact int_eq (by omega)
theorem Ub(v:List UInt8)(t:ak)(hsz:t.sz<=4194304):aH prog 274 [.c (.d (.s v)),t.v] (.c (.d (.b (occurs v t)))):=fun S=>by
 refine aD (rs:=[.tmp 4]) zmx func274 ntmps274 rfl rfl rfl rfl rfl ?_;refine W1 ?_;refine C2 (GA _ t (Nat.lt_succ_self _) hsz v) ?_;exact ay (by unfold occurs;rw[Bool.eq_iff_iff];simp only[decide_eq_true_eq];omega)
def zeroE:au:=.mk 0 [] [] 0 (.mk 0 [] []) [] []
def Ls:List (List UInt8):=[[115,101,108,102]]
noncomputable def GD(vars:List (List UInt8))(e:au):Bool:=tC e&&among (lG e [] []) vars
noncomputable def nQ(vars:List (List UInt8))(e:au):Bool:=iP vars&&GD vars e
noncomputable def oQ(vars:List (List UInt8))(b:bq):Bool:=(validName b.bD&&oV b.fType)&&(!sM b.fType&&among (jG [] b.fType) vars)
noncomputable def ru(vars:List (List UInt8))(bs:List bq):Bool:=dec (bs.length<=4)&&bs.all (oQ vars)
noncomputable def iL(g:aL):Bool:=
 validName g.fName&&(dec (g.aV.length<=4)&&(mG Ls g.aV&&(iq Ls g.bO&&
  (if g.gW=true then dec (g.aG.length=g.aV.length+1)&&nQ g.aG g.fBody else dec (g.aG.length=0)&&dec (g.fBody=zeroE)))))
theorem zw{xs:List ak}{t:ak}(h:t∈xs):t.sz<=bn (xs.map ak.enc):=dD (List.mem_map_of_mem h)
theorem qX{xs:List bq}{t:bq}(h:t∈xs):t.sz<=bn (xs.map bq.enc):=dD (List.mem_map_of_mem h)
theorem aL.sum(x:aL):x.fName.length+(x.aV.length+bn (x.aV.map ak.enc))+x.bO.sz+(x.aG.length+bn (x.aG.map encS))+x.fBody.sz<=x.sz:=by
 simp only[aL.sz,aL.aB,bT,bL,D.sz,List.length_map,ak.d9,au.d9];omega
theorem bq.sum(x:bq):x.bD.length+x.fType.sz<=x.sz:=by
 simp only[bq.sz,bq.aB,bT,bL,D.sz,List.length_map,ak.d9];omega
theorem XC(e:au)(h:e.sz<=4194304):(lG e [] []).length<=1073741824:=by
 have h1:=xB e [] [];have h2:=au.mZ e;simp at h1;omega
theorem Qc(t:ak)(h:t.sz<=4194304):(jG [] t).length<=1073741824:=by
 have h1:=BS t [];have h2:=_root_.Go.Ab.mZ t;simp at h1;omega
theorem ME(vars:List (List UInt8))(t:ak):iq vars t=(oV t&&among (jG [] t) vars):=rfl
theorem KJ(vars:List (List UInt8))(e:au)(hv:vars.length<=1073741824)(hs:∀s∈vars,s.length<=4194304)(hsz:e.sz<=4194304):aH prog 238 [.c (.d (.sl (vars.map encS))),e.v] (.c (.d (.b (nQ vars e)))):=fun S=>by
 refine aD (rs:=[.tmp 4]) zmx func238 ntmps238 rfl rfl rfl rfl rfl ?_;refine W1 ?_;refine C2 (qm vars hv hs) ?_;refine S0 (fun hb h=>?_) fun hb h=>?_
 ·have h1:=h;refine C2 (Nh e hsz) ?_;refine S0 (fun hb h=>?_) fun hb h=>?_
  ·have h2:=h;refine C2 (Qa e hsz) ?_;refine C2 (Bo _ vars (XC e hsz) hv) ?_;exact ay (by unfold nQ GD;rw[h1,h2];rfl)
  ·exact ay (by unfold nQ GD;rw[h];simp)
 ·exact ay (by unfold nQ;rw[h];rfl)
theorem IC(vars:List (List UInt8))(e:au)(hv:vars.length<=1073741824)(hsz:e.sz<=4194304):aH prog 275 [e.v,.c (.d (.sl (vars.map encS)))] (.c (.d (.b (GD vars e)))):=fun S=>by
 have hlen:=XC e hsz;refine aD (rs:=[.tmp 4]) zmx func275 ntmps275 rfl rfl rfl rfl rfl ?_;refine W1 ?_;refine C2 (Qb e hsz) ?_;unfold GD;generalize lG e [] []=xs at hlen ⊢
 refine aU (ι:=Nat) zmx rfl [1,2,5,6] (fun i=>[.c (.d (.sl (vars.map encS))),.c (.ptr (0,0) 0),.c (.d (.sl (xs.map encS))),.c (.d (.i .i64 i))]) (fun _=>[.box (e.enc.map .d)]::S)
  (fun i=>i<=xs.length/\among (xs.drop i) vars=among xs vars) (fun i=>xs.length-i) 0 rfl ?_ ⟨Nat.zero_le _,rfl⟩ ?_
 ·exact Z1
 rintro i ⟨p1,p2⟩;simp -implicitDefEqProofs (disch:=omega) only[go_sem,encS]
 with_reducible refine dM (fun hb=> ?_) (fun hb=> ?_)<;>have h:=hb<;>(try simp only[wf_preprocess] at h)<;>simp -implicitDefEqProofs (disch:=omega) only[go_sem,hb,encS]<;>refine W3 ?_
 ·have hi:i<xs.length:=by omega
  rw[List.drop_eq_getElem_cons hi] at p2;have p3:among xs vars=(dec (xs[i]∈vars)&&among (xs.drop (i+1)) vars):=p2.symm;refine W3 ?_;refine C2 (su vars xs[i] hv) ?_;refine S0 (fun hb h=>?_) fun hb h=>?_
  ·exact ay (by rw[p3,aA h];simp)
  ·exact bJ (i+1) (by omega) rfl rfl ⟨by omega,by rw[p3,aY h];rfl⟩
 ·rw[List.drop_of_length_le (by omega)] at p2;have p3:among xs vars=true:=p2.symm;refine W3 ?_;refine C2 (Ni e hsz) ?_;exact ay (by rw[p3];simp)
theorem Qd(vars:List (List UInt8))(hv:vars.length<=1073741824)(rest:List Ab.Obj)(S:Store)(b:bq)(hb:b.sz<=4194304):qj prog 288 [((0,0),0)] ((.box [.d (.sl (vars.map encS))]::rest)::S) [b.v] (.c (.d (.b (!oQ vars b)))):=fun F=>by
 have hs:=bq.sum b;refine aD (rs:=[.tmp 3]) zmx func288 ntmps288 rfl rfl rfl rfl rfl ?_;refine W1 ?_;refine C2 (LH b (by omega) (by omega)) ?_;refine S0 (fun hb h=>?_) fun hb h=>?_
 ·exact ay (by unfold oQ;rw[h];rfl)
 have h1:=h;refine W3 ?_;refine C2 (Gd b.fType (by omega)) ?_;refine S0 (fun hb h=>?_) fun hb h=>?_
 ·exact ay (by unfold oQ;rw[h];simp)
 have h2:=h;refine W3 ?_;refine C2 (zT b.fType (by omega)) ?_;refine C2 (Bo _ vars (Qc _ (by omega)) hv) ?_;exact ay (by unfold oQ;rw[h1,h2];simp)
theorem KL(bs:List bq)(vars:List (List UInt8))(hl:bs.length<=1073741824)(hz:∀b∈bs,b.sz<=4194304)(hv:vars.length<=1073741824):aH prog 236 [.c (.d (.sl (bs.map bq.enc))),.c (.d (.sl (vars.map encS)))] (.c (.d (.b (ru vars bs)))):=fun S=>by
 have ha:(bs.any fun t=> !oQ vars t)= !bs.all (oQ vars):=by rw[List.not_all_eq_any_not]
 refine aD (rs:=[.tmp 4]) zmx func236 ntmps236 rfl rfl rfl rfl rfl ?_;refine W1 ?_;refine S0 (fun hb h=>?_) fun hb h=>?_
 ·have h1:=h;refine W3 ?_;refine bg rfl (HY 288 [((0,0),0)] _ bs (fun t=> !oQ vars t) hl fun t hx=>Qd vars hv [] S t (hz t hx)) ?_;refine W1 ?_;rw[ha];exact ay (by unfold ru;rw[aY (by omega)];simp)
 ·exact ay (by unfold ru;rw[aA (by omega)];rfl)
theorem MF(bs:List bq)(vars:List (List UInt8))(hl:bs.length<=1073741824)(hz:∀b∈bs,b.sz<=4194304)(hv:vars.length<=1073741824):aH prog 273 [.c (.d (.sl (bs.map bq.enc))),.c (.d (.sl (vars.map encS)))] (.c (.d (.b (ru vars bs)))):=fun S=>by
 refine aD (rs:=[.tmp 4]) zmx func273 ntmps273 rfl rfl rfl rfl rfl ?_;refine W1 ?_
 refine aU (ι:=Nat) zmx rfl [0,1,5] (fun i=>[.c (.d (.sl (bs.map bq.enc))),.c (.d (.sl (vars.map encS))),.c (.d (.i .i64 i))]) (fun _=>[]::S)
  (fun i=>i<=bs.length/\(bs.drop i).all (oQ vars)=bs.all (oQ vars)) (fun i=>bs.length-i) 0 rfl rfl ⟨Nat.zero_le _,rfl⟩ ?_
 rintro i ⟨p1,p2⟩;refine W1 ?_;refine S0 (fun hb h=>?_) fun hb h=>?_
 ·have hi:i<bs.length:=by omega
  have hb:=hz _ (List.getElem_mem hi);have hs:=bq.sum bs[i];rw[List.drop_eq_getElem_cons hi,List.all_cons] at p2;have no:oQ vars bs[i]=false->V.c (.d (.b false))=V.c (.d (.b (ru vars bs))):=fun h=>ay (by unfold ru;rw[<-p2,h];simp);refine W3 ?_;refine C2 (LG bs[i] (by omega) (by omega)) ?_;refine S0 (fun hb h=>?_) fun hb h=>?_
  ·exact no (by unfold oQ;rw[h];rfl)
  have h1:=h;refine W3 ?_;refine C2 (vg bs[i].fType vars (by omega) hv) ?_;refine S0 (fun hb h=>?_) fun hb h=>?_
  ·exact no (by unfold oQ;rw[ME] at h;rw[Bool.and_eq_true] at h1;rw[h1.2,Bool.true_and] at h;rw[h];simp)
  have h2:=h;refine W3 ?_;refine C2 (Gc bs[i].fType (by omega)) ?_;refine S0 (fun hb h=>?_) fun hb h=>?_
  ·exact no (by unfold oQ;rw[h];simp)
  have h3:=h;rw[ME,Bool.and_eq_true] at h2;exact bJ (i+1) (by omega) rfl rfl ⟨by omega,by rw[<-p2];unfold oQ;rw[h1,h2.2,h3];rfl⟩
 ·rw[List.drop_of_length_le (by omega)] at p2;exact ay (by unfold ru;rw[<-p2,ku];simp only[List.all_nil,Bool.and_true];exact iB ⟨fun h=>by omega,fun h=>by omega⟩)
theorem Uc(e:au)(hsz:e.sz<=4194304):aH prog 280 [e.v] (.c (.d (.b (dec (e=zeroE))))):=fun S=>by
 refine aD (rs:=[.tmp 2]) zmx func280 ntmps280 rfl rfl rfl rfl rfl ?_;refine W1 ?_;exact C3 (Nn e zeroE hsz)
theorem ada(e:au)(hsz:e.sz<=4194304):aH prog 306 [e.v] (.c (.d (.b (dec (e=zeroE))))):=fun S=>by
 refine aD (rs:=[.tmp 2]) zmx func306 ntmps306 rfl rfl rfl rfl rfl ?_;refine W1 ?_;exact C3 (Np e zeroE hsz)
theorem Rj(g:aL)(hsz:g.sz<=4194304):aH prog 230 [g.v] (.c (.d (.b (iL g)))):=fun S=>by
 have hs:=aL.sum g
 have hT:∀t∈g.aV,t.sz<=4194304:=fun t ht=>by have:=zw ht;omega
 have hV:∀s∈g.aG,s.length<=4194304:=fun s h=>by have:=tq h;omega
 refine aD (rs:=[.tmp 2]) zmx func230 ntmps230 rfl rfl rfl rfl rfl ?_;refine W1 ?_;refine C2 (iI g.fName (by omega)) ?_;refine S0 (fun hb h=>?_) fun hb h=>?_
 ·exact ay (by unfold iL;rw[h];rfl)
 have h1:=h;refine S0 (fun hb h=>?_) fun hb h=>?_
 ·exact ay (by unfold iL;rw[aA (show ¬g.aV.length<=4 by omega)];simp)
 have h2:=h;refine W3 ?_;refine C1 (zU g.aV Ls (by omega) hT (by decide)) ?_;refine S0 (fun hb h=>?_) fun hb h=>?_
 ·exact ay (by unfold iL;rw[h];simp)
 have h3:=h;refine W3 ?_;refine C1 (vH g.bO Ls (by omega) (by decide)) ?_;refine S0 (fun hb h=>?_) fun hb h=>?_
 ·exact ay (by unfold iL;rw[h];simp)
 have h4:=h;refine S0 (fun hb h=>?_) fun hb h=>?_
 ·have h5:=h;refine S0 (fun hb h=>?_) fun hb h=>?_
  ·have h6:=h;refine C2 (KJ g.aG g.fBody (by omega) hV (by omega)) ?_;exact ay (by unfold iL;rw[h1,h3,h4,if_pos h5,aY (show g.aV.length<=4 by omega),aY (show g.aG.length=g.aV.length+1 by omega)];rfl)
  ·exact ay (by unfold iL;rw[if_pos h5,aA (show ¬g.aG.length=g.aV.length+1 by omega)];simp)
 ·have h5:¬g.gW=true:=by rw[h];simp
  refine S0 (fun hb h=>?_) fun hb h=>?_
  ·refine C2 (Uc g.fBody (by omega)) ?_;exact ay (by unfold iL;rw[h1,h3,h4,if_neg h5,aY (show g.aV.length<=4 by omega),aY (show g.aG.length=0 by omega)];rfl)
  ·exact ay (by unfold iL;rw[if_neg h5,aA (show ¬g.aG.length=0 by omega)];simp)
theorem afR(g:aL)(hsz:g.sz<=4194304):aH prog 269 [g.v] (.c (.d (.b (iL g)))):=fun S=>by
 have hs:=aL.sum g
 have hT:∀t∈g.aV,t.sz<=4194304:=fun t ht=>by have:=zw ht;omega
 have hV:∀s∈g.aG,s.length<=4194304:=fun s h=>by have:=tq h;omega
 refine aD (rs:=[.tmp 2]) zmx func269 ntmps269 rfl rfl rfl rfl rfl ?_;refine W1 ?_;refine C2 (iJ g.fName (by omega)) ?_;refine S0 (fun hb h=>?_) fun hb h=>?_
 ·exact ay (by unfold iL;rw[h];rfl)
 have h1:=h;refine S0 (fun hb h=>?_) fun hb h=>?_
 ·exact ay (by unfold iL;rw[aA (show ¬g.aV.length<=4 by omega)];simp)
 have h2:=h;refine W3 ?_;refine C1 (Sm g.aV Ls (by omega) hT (by decide)) ?_;refine S0 (fun hb h=>?_) fun hb h=>?_
 ·exact ay (by unfold iL;rw[h];simp)
 have h3:=h;refine W3 ?_;refine C1 (vg g.bO Ls (by omega) (by decide)) ?_;refine S0 (fun hb h=>?_) fun hb h=>?_
 ·exact ay (by unfold iL;rw[h];simp)
 have h4:=h;refine S0 (fun hb h=>?_) fun hb h=>?_
 ·have h5:¬g.gW=true:=by rw[h];simp
  refine S0 (fun hb h=>?_) fun hb h=>?_
  ·refine C2 (ada g.fBody (by omega)) ?_;exact ay (by unfold iL;rw[h1,h3,h4,if_neg h5,aY (show g.aV.length<=4 by omega),aY (show g.aG.length=0 by omega)];rfl)
  ·exact ay (by unfold iL;rw[if_neg h5,aA (show ¬g.aG.length=0 by omega)];simp)
 ·have h5:=h;refine C2 (ng g.aG 5 (by omega) hV) ?_;refine S0 (fun hb h=>?_) fun hb h=>?_
  ·have h6:=h;rw[Bool.and_eq_true] at h6;refine S0 (fun hb h=>?_) fun hb h=>?_
   ·refine C2 (IC g.aG g.fBody (by omega) (by omega)) ?_;exact ay (by unfold iL nQ;rw[h1,h3,h4,if_pos h5,h6.2,aY (show g.aV.length<=4 by omega),aY (show g.aG.length=g.aV.length+1 by omega)];rfl)
   ·exact ay (by unfold iL;rw[if_pos h5,aA (show ¬g.aG.length=g.aV.length+1 by omega)];simp)
  ·refine ay ?_;by_cases h7:g.aG.length=g.aV.length+1
   ·rw[aY (by omega),Bool.true_and] at h
    unfold iL nQ;rw[if_pos h5,h];simp
   ·unfold iL;rw[if_pos h5,aA h7];simp
theorem Zk(x:bA):∀y:bA,x.sz<=1048576->aH prog 244 [x.v,y.v] (.c (.d (.b (dec (x=y))))):=by
 intro y hsz S;simp only[bA.sz,bA.aB,bT,bL,D.sz,List.length_map,au.d9] at hsz;refine aD (rs:=[.tmp 4]) zmx func244 ntmps244 rfl rfl rfl rfl rfl ?_;refine W1 ?_;refine S0 (fun hb h=>?_) fun hb h=>?_
 ·exact ay (aA (fun e=>h (by rw[e]))).symm
 have rJ:=h;clear h;refine C1 (qB x.aG _ (by omega)) ?_;refine S0 (fun hb h=>?_) fun hb h=>?_
 ·exact ay (aA (fun e=>h (by rw[e]))).symm
 have zV:=h;clear h;refine C1 (JZ x.fBody _ (by omega)) ?_;refine S0 (fun hb h=>?_) fun hb h=>?_
 ·exact ay (aA (fun e=>h (by rw[e]))).symm
 have H9:=h;clear h;exact ay (aY (bA.ext' rJ zV H9)).symm
theorem XD(xs:List bA):∀ys:List bA,xs.length+bn (xs.map bA.enc)<=1048576->aH prog 168 [.c (.d (.sl (xs.map bA.enc))),.c (.d (.sl (ys.map bA.enc)))] (.c (.d (.b (dec (xs=ys))))):=by
 intro ys hsz S;refine aD (rs:=[.tmp 4]) zmx func168 ntmps168 rfl rfl rfl rfl rfl ?_;refine W1 ?_;refine S0 (fun hb h=>?_) fun hb h=>?_
 ·exact ay (aA (fun e=>h (by rw[e]))).symm
 have hl:xs.length=ys.length:=by omega
 refine aU (ι:=Nat) zmx rfl [0,1,5] (fun y=>[.c (.d (.sl (xs.map bA.enc))),.c (.d (.sl (ys.map bA.enc))),.c (.d (.i .i64 y))]) (fun y=>[]::S)
  (fun i=>i<=xs.length/\∀j,j<i->xs[j]? =ys[j]?) (fun y=>xs.length-y) 0 rfl rfl ⟨Nat.zero_le _,fun j h=>by omega⟩ ?_
 rintro i ⟨p1,p2⟩;refine W1 ?_;refine S0 (fun hb h=>?_) fun hb h=>?_
 ·have hi:i<xs.length:=by omega
  have hi':i<ys.length:=by omega
  have hx:xs[i].sz<=bn (xs.map bA.enc):=dD (List.mem_map_of_mem (List.getElem_mem hi));refine W3 ?_;refine C1 (Zk xs[i] ys[i] (by omega)) ?_;refine S0 (fun hb h=>?_) fun hb h=>?_
  ·exact ay (aA (fun e=>h (by simp only[e]))).symm
  refine bJ (i+1) (by omega) rfl rfl ⟨by omega,fun j hj=> ?_⟩;by_cases e:j=i
  ·subst e;rw[List.getElem?_eq_getElem hi,List.getElem?_eq_getElem hi',h]
  ·exact p2 j (by omega)
 ·have hi:i=xs.length:=by omega
  refine ay (aY (List.ext_getElem? fun j=> ?_)).symm;by_cases hj:j<i
  ·exact p2 j hj
  ·rw[List.getElem?_eq_none (by omega),List.getElem?_eq_none (by omega)]
theorem Ud(x:aM):∀y:aM,x.sz<=1048576->aH prog 86 [x.v,y.v] (.c (.d (.b (dec (x=y))))):=by
 intro y hsz S;simp only[aM.sz,aM.aB,bT,bL,D.sz,List.length_map,ak.d9] at hsz;refine aD (rs:=[.tmp 4]) zmx func86 ntmps86 rfl rfl rfl rfl rfl ?_;refine W1 ?_;refine S0 (fun hb h=>?_) fun hb h=>?_
 ·exact ay (aA (fun e=>h (by rw[e]))).symm
 have JY:=h;clear h;refine C1 (qB x.aG _ (by omega)) ?_;refine S0 (fun hb h=>?_) fun hb h=>?_
 ·exact ay (aA (fun e=>h (by rw[e]))).symm
 have zV:=h;clear h;refine C1 (wW x.bQ _ (by omega)) ?_;refine S0 (fun hb h=>?_) fun hb h=>?_
 ·exact ay (aA (fun e=>h (by rw[e]))).symm
 have apj:=h;clear h;refine C1 (Mi x.bY _ (by omega)) ?_;refine S0 (fun hb h=>?_) fun hb h=>?_
 ·exact ay (aA (fun e=>h (by rw[e]))).symm
 have XE:=h;clear h;refine S0 (fun hb h=>?_) fun hb h=>?_
 ·exact ay (aA (fun e=>h (by rw[e]))).symm
 have ai3:=h;clear h;refine S0 (fun hb h=>?_) fun hb h=>?_
 ·exact ay (aA (fun e=>h (by rw[e]))).symm
 have afS:=h;clear h;refine C1 (wW x.bE _ (by omega)) ?_;refine S0 (fun hb h=>?_) fun hb h=>?_
 ·exact ay (aA (fun e=>h (by rw[e]))).symm
 have W9:=h;clear h;refine C1 (XD x.aI _ (by omega)) ?_;refine S0 (fun hb h=>?_) fun hb h=>?_
 ·exact ay (aA (fun e=>h (by rw[e]))).symm
 have ai4:=h;clear h;exact ay (aY (aM.ext' JY zV apj XE ai3 afS W9 ai4)).symm
theorem Rk(xs:List aM):∀ys:List aM,xs.length+bn (xs.map aM.enc)<=1048576->aH prog 39 [.c (.d (.sl (xs.map aM.enc))),.c (.d (.sl (ys.map aM.enc)))] (.c (.d (.b (dec (xs=ys))))):=by
 intro ys hsz S;refine aD (rs:=[.tmp 4]) zmx func39 ntmps39 rfl rfl rfl rfl rfl ?_;refine W1 ?_;refine S0 (fun hb h=>?_) fun hb h=>?_
 ·exact ay (aA (fun e=>h (by rw[e]))).symm
 have hl:xs.length=ys.length:=by omega
 refine aU (ι:=Nat) zmx rfl [0,1,5] (fun y=>[.c (.d (.sl (xs.map aM.enc))),.c (.d (.sl (ys.map aM.enc))),.c (.d (.i .i64 y))]) (fun y=>[]::S)
  (fun i=>i<=xs.length/\∀j,j<i->xs[j]? =ys[j]?) (fun y=>xs.length-y) 0 rfl rfl ⟨Nat.zero_le _,fun j h=>by omega⟩ ?_
 rintro i ⟨p1,p2⟩;refine W1 ?_;refine S0 (fun hb h=>?_) fun hb h=>?_
 ·have hi:i<xs.length:=by omega
  have hi':i<ys.length:=by omega
  have hx:xs[i].sz<=bn (xs.map aM.enc):=dD (List.mem_map_of_mem (List.getElem_mem hi));refine W3 ?_;refine C1 (Ud xs[i] ys[i] (by omega)) ?_;refine S0 (fun hb h=>?_) fun hb h=>?_
  ·exact ay (aA (fun e=>h (by simp only[e]))).symm
  refine bJ (i+1) (by omega) rfl rfl ⟨by omega,fun j hj=> ?_⟩;by_cases e:j=i
  ·subst e;rw[List.getElem?_eq_getElem hi,List.getElem?_eq_getElem hi',h]
  ·exact p2 j (by omega)
 ·have hi:i=xs.length:=by omega
  refine ay (aY (List.ext_getElem? fun j=> ?_)).symm;by_cases hj:j<i
  ·exact p2 j hj
  ·rw[List.getElem?_eq_none (by omega),List.getElem?_eq_none (by omega)]
theorem adb(x:bM):∀y:bM,x.sz<=1048576->aH prog 245 [x.v,y.v] (.c (.d (.b (dec (x=y))))):=by
 intro y hsz S;simp only[bM.sz,bM.aB,bT,bL,D.sz,List.length_map,ak.d9] at hsz;refine aD (rs:=[.tmp 4]) zmx func245 ntmps245 rfl rfl rfl rfl rfl ?_;refine W1 ?_;refine S0 (fun hb h=>?_) fun hb h=>?_
 ·exact ay (aA (fun e=>h (by rw[e]))).symm
 have rJ:=h;clear h;refine C1 (wW x.fType _ (by omega)) ?_;refine S0 (fun hb h=>?_) fun hb h=>?_
 ·exact ay (aA (fun e=>h (by rw[e]))).symm
 have eType:=h;clear h;exact ay (aY (bM.ext' rJ eType)).symm
theorem Zl(xs:List bM):∀ys:List bM,xs.length+bn (xs.map bM.enc)<=1048576->aH prog 169 [.c (.d (.sl (xs.map bM.enc))),.c (.d (.sl (ys.map bM.enc)))] (.c (.d (.b (dec (xs=ys))))):=by
 intro ys hsz S;refine aD (rs:=[.tmp 4]) zmx func169 ntmps169 rfl rfl rfl rfl rfl ?_;refine W1 ?_;refine S0 (fun hb h=>?_) fun hb h=>?_
 ·exact ay (aA (fun e=>h (by rw[e]))).symm
 have hl:xs.length=ys.length:=by omega
 refine aU (ι:=Nat) zmx rfl [0,1,5] (fun y=>[.c (.d (.sl (xs.map bM.enc))),.c (.d (.sl (ys.map bM.enc))),.c (.d (.i .i64 y))]) (fun y=>[]::S)
  (fun i=>i<=xs.length/\∀j,j<i->xs[j]? =ys[j]?) (fun y=>xs.length-y) 0 rfl rfl ⟨Nat.zero_le _,fun j h=>by omega⟩ ?_
 rintro i ⟨p1,p2⟩;refine W1 ?_;refine S0 (fun hb h=>?_) fun hb h=>?_
 ·have hi:i<xs.length:=by omega
  have hi':i<ys.length:=by omega
  have hx:xs[i].sz<=bn (xs.map bM.enc):=dD (List.mem_map_of_mem (List.getElem_mem hi));refine W3 ?_;refine C1 (adb xs[i] ys[i] (by omega)) ?_;refine S0 (fun hb h=>?_) fun hb h=>?_
  ·exact ay (aA (fun e=>h (by simp only[e]))).symm
  refine bJ (i+1) (by omega) rfl rfl ⟨by omega,fun j hj=> ?_⟩;by_cases e:j=i
  ·subst e;rw[List.getElem?_eq_getElem hi,List.getElem?_eq_getElem hi',h]
  ·exact p2 j (by omega)
 ·have hi:i=xs.length:=by omega
  refine ay (aY (List.ext_getElem? fun j=> ?_)).symm;by_cases hj:j<i
  ·exact p2 j hj
  ·rw[List.getElem?_eq_none (by omega),List.getElem?_eq_none (by omega)]
theorem Ue(x:aS):∀y:aS,x.sz<=1048576->aH prog 87 [x.v,y.v] (.c (.d (.b (dec (x=y))))):=by
 intro y hsz S;simp only[aS.sz,aS.aB,bT,bL,D.sz,List.length_map,au.d9,ak.d9] at hsz;refine aD (rs:=[.tmp 4]) zmx func87 ntmps87 rfl rfl rfl rfl rfl ?_;refine W1 ?_;refine S0 (fun hb h=>?_) fun hb h=>?_
 ·exact ay (aA (fun e=>h (by rw[e]))).symm
 have rJ:=h;clear h;refine C1 (qB x.aG _ (by omega)) ?_;refine S0 (fun hb h=>?_) fun hb h=>?_
 ·exact ay (aA (fun e=>h (by rw[e]))).symm
 have zV:=h;clear h;refine C1 (Mi x.bY _ (by omega)) ?_;refine S0 (fun hb h=>?_) fun hb h=>?_
 ·exact ay (aA (fun e=>h (by rw[e]))).symm
 have XE:=h;clear h;refine C1 (Zl x.aV _ (by omega)) ?_;refine S0 (fun hb h=>?_) fun hb h=>?_
 ·exact ay (aA (fun e=>h (by rw[e]))).symm
 have Q7:=h;clear h;refine C1 (wW x.bO _ (by omega)) ?_;refine S0 (fun hb h=>?_) fun hb h=>?_
 ·exact ay (aA (fun e=>h (by rw[e]))).symm
 have Q8:=h;clear h;refine C1 (JZ x.fBody _ (by omega)) ?_;refine S0 (fun hb h=>?_) fun hb h=>?_
 ·exact ay (aA (fun e=>h (by rw[e]))).symm
 have H9:=h;clear h;exact ay (aY (aS.ext' rJ zV XE Q7 Q8 H9)).symm
theorem Rl(xs:List aS):∀ys:List aS,xs.length+bn (xs.map aS.enc)<=1048576->aH prog 40 [.c (.d (.sl (xs.map aS.enc))),.c (.d (.sl (ys.map aS.enc)))] (.c (.d (.b (dec (xs=ys))))):=by
 intro ys hsz S;refine aD (rs:=[.tmp 4]) zmx func40 ntmps40 rfl rfl rfl rfl rfl ?_;refine W1 ?_;refine S0 (fun hb h=>?_) fun hb h=>?_
 ·exact ay (aA (fun e=>h (by rw[e]))).symm
 have hl:xs.length=ys.length:=by omega
 refine aU (ι:=Nat) zmx rfl [0,1,5] (fun y=>[.c (.d (.sl (xs.map aS.enc))),.c (.d (.sl (ys.map aS.enc))),.c (.d (.i .i64 y))]) (fun y=>[]::S)
  (fun i=>i<=xs.length/\∀j,j<i->xs[j]? =ys[j]?) (fun y=>xs.length-y) 0 rfl rfl ⟨Nat.zero_le _,fun j h=>by omega⟩ ?_
 rintro i ⟨p1,p2⟩;refine W1 ?_;refine S0 (fun hb h=>?_) fun hb h=>?_
 ·have hi:i<xs.length:=by omega
  have hi':i<ys.length:=by omega
  have hx:xs[i].sz<=bn (xs.map aS.enc):=dD (List.mem_map_of_mem (List.getElem_mem hi));refine W3 ?_;refine C1 (Ue xs[i] ys[i] (by omega)) ?_;refine S0 (fun hb h=>?_) fun hb h=>?_
  ·exact ay (aA (fun e=>h (by simp only[e]))).symm
  refine bJ (i+1) (by omega) rfl rfl ⟨by omega,fun j hj=> ?_⟩;by_cases e:j=i
  ·subst e;rw[List.getElem?_eq_getElem hi,List.getElem?_eq_getElem hi',h]
  ·exact p2 j (by omega)
 ·have hi:i=xs.length:=by omega
  refine ay (aY (List.ext_getElem? fun j=> ?_)).symm;by_cases hj:j<i
  ·exact p2 j hj
  ·rw[List.getElem?_eq_none (by omega),List.getElem?_eq_none (by omega)]
def uN(f:aS):List (List UInt8):=f.aV.map bM.fName
def Qe(f:aS):List ak:=f.aV.map bM.fType
noncomputable def kg(f:aS):Bool:=
 validName f.fName&&(dec (f.aG.length<=3)&&(iP f.aG&&(ru f.aG f.bY&&(dec (f.aV.length<=5)&&(mG f.aG (Qe f)&&(iq f.aG f.bO&&nQ (uN f) f.fBody))))))
theorem aS.sum(x:aS):x.fName.length+(x.aG.length+bn (x.aG.map encS))+(x.bY.length+bn (x.bY.map bq.enc))+(x.aV.length+bn (x.aV.map bM.enc))+x.bO.sz+x.fBody.sz<=x.sz:=by
 simp only[aS.sz,aS.aB,bT,bL,D.sz,List.length_map,ak.d9,au.d9];omega
theorem bM.sum(x:bM):x.fName.length+x.fType.sz<=x.sz:=by
 simp only[bM.sz,bM.aB,bT,bL,D.sz,List.length_map,ak.d9];omega
theorem Lu{xs:List bM}{t:bM}(h:t∈xs):t.sz<=bn (xs.map bM.enc):=dD (List.mem_map_of_mem h)
theorem Uf(ps:List bM)(hl:ps.length<=1073741823):aH prog 240 [.c (.d (.sl (ps.map bM.enc)))] (.c (.d (.sl ((ps.map bM.fName).map encS)))):=fun S=>by
 refine aD (rs:=[.tmp 2]) zmx func240 ntmps240 rfl rfl rfl rfl rfl ?_;refine W1 ?_;refine W3 ?_;refine nK 3 1 [] rfl (by simp) ?_
 refine aU (ι:=Nat×List (List UInt8)) zmx rfl [3,7,8,9] (fun y=>[.c (.bN (0,0) (y.2.map encS)),.c (.d (.sl (ps.map bM.enc))),.c (.d (.i .i64 ps.length)),.c (.d (.i .i64 y.1))]) (fun y=>[.tok 1 (y.2.map encS)]::S)
  (fun y=>y.1<=ps.length/\y.2=(ps.map bM.fName).take y.1) (fun y=>ps.length-y.1) (0,[]) rfl rfl ⟨Nat.zero_le _,rfl⟩ ?_
 rintro⟨i,names⟩ ⟨p1,p2⟩;simp only at p1 p2
 have pl:names.length<=ps.length:=by rw[p2];simp;omega
 refine W1 ?_;refine S0 (fun hb h=>?_) fun hb h=>?_
 ·have hi:i<ps.length:=by omega
  refine W3 ?_;rw[show List.map encS names++[[D.s ps[i].fName]]=List.map encS (names++[ps[i].fName]) by simp[encS]];exact bZ 1 (by decide) (i+1,names++[ps[i].fName]) (by simp only;omega) rfl rfl rfl rfl ⟨by simp only;omega,by simp only;rw[p2,iV (by simpa using hi)];simp⟩
 ·rw[List.take_of_length_le (by simp;omega)] at p2;rw[p2]
theorem Ug(ps:List bM)(hl:ps.length<=1073741823):aH prog 239 [.c (.d (.sl (ps.map bM.enc)))] (.c (.d (.sl ((ps.map bM.fType).map ak.enc)))):=fun S=>by
 refine aD (rs:=[.tmp 2]) zmx func239 ntmps239 rfl rfl rfl rfl rfl ?_;refine W1 ?_;refine W3 ?_;refine nK 3 3 [] rfl (by simp) ?_
 refine aU (ι:=Nat×List ak) zmx rfl [3,7,8,9] (fun y=>[.c (.bN (0,0) (y.2.map ak.enc)),.c (.d (.sl (ps.map bM.enc))),.c (.d (.i .i64 ps.length)),.c (.d (.i .i64 y.1))]) (fun y=>[.tok 3 (y.2.map ak.enc)]::S)
  (fun y=>y.1<=ps.length/\y.2=(ps.map bM.fType).take y.1) (fun y=>ps.length-y.1) (0,[]) rfl rfl ⟨Nat.zero_le _,rfl⟩ ?_
 rintro⟨i,names⟩ ⟨p1,p2⟩;simp only at p1 p2
 have pl:names.length<=ps.length:=by rw[p2];simp;omega
 refine W1 ?_;refine S0 (fun hb h=>?_) fun hb h=>?_
 ·have hi:i<ps.length:=by omega
  refine W3 ?_;rw[show List.map ak.enc names++[[D.i .i64 ps[i].fType.aJ,D.s ps[i].fType.fName,D.sl (ps[i].fType.fArgs.map ak.enc)]]=List.map ak.enc (names++[ps[i].fType]) by simp[ak.aB]];exact bZ 1 (by decide) (i+1,names++[ps[i].fType]) (by simp only;omega) rfl rfl rfl rfl ⟨by simp only;omega,by simp only;rw[p2,iV (by simpa using hi)];simp⟩
 ·rw[List.take_of_length_le (by simp;omega)] at p2;rw[p2]
theorem GH(f:aS)(hsz:f.sz<=4194304):aH prog 164 [f.v] (.c (.d (.b (kg f)))):=fun S=>by
 have hs:=aS.sum f
 have hV:∀s∈f.aG,s.length<=4194304:=fun s h=>by have:=tq h;omega
 have hW:∀b∈f.bY,b.sz<=4194304:=fun b h=>by have:=qX h;omega
 have hP:∀p∈f.aV,p.sz<=4194304:=fun m h=>by have:=Lu h;omega
 have hpt:∀t∈f.aV.map bM.fType,t.sz<=4194304:=fun t h=>by
  obtain⟨p,hp,e⟩:=List.mem_map.1 h;have:=hP p hp;have:=bM.sum p;rw[<-e];omega
 have hpn:∀s∈f.aV.map bM.fName,s.length<=4194304:=fun t h=>by
  obtain⟨p,hp,e⟩:=List.mem_map.1 h;have:=hP p hp;have:=bM.sum p;rw[<-e];omega
 have hpl:(f.aV.map bM.fName).length=f.aV.length:=by simp
 have hpl':(f.aV.map bM.fType).length=f.aV.length:=by simp
 refine aD (rs:=[.tmp 2]) zmx func164 ntmps164 rfl rfl rfl rfl rfl ?_;refine W1 ?_
 repeat' (first
  |refine S0 (fun hb h=>?_) fun hb h=>?_
  |((with_reducible show fA _ _ 157 _ _ _ _);refine aZ (iI f.fName (by omega)) ?_;refine W1 ?_)
  |((with_reducible show fA _ _ 158 _ _ _ _);refine aZ (qm f.aG (by omega) hV) ?_;refine W1 ?_)
  |((with_reducible show fA _ _ 236 _ _ _ _);refine aZ (KL f.bY f.aG (by omega) hW (by omega)) ?_;refine W1 ?_)
  |((with_reducible show fA _ _ 239 _ _ _ _);refine aZ (Ug f.aV (by omega)) ?_;refine W1 ?_)
  |((with_reducible show fA _ _ 231 _ _ _ _);refine aZ (zU (f.aV.map bM.fType) f.aG (by omega) hpt (by omega)) ?_;refine W1 ?_)
  |((with_reducible show fA _ _ 232 _ _ _ _);refine aZ (vH f.bO f.aG (by omega) (by omega)) ?_;refine W1 ?_)
  |((with_reducible show fA _ _ 240 _ _ _ _);refine aZ (Uf f.aV (by omega)) ?_;refine W1 ?_)
  |((with_reducible show fA _ _ 238 _ _ _ _);refine aZ (KJ (f.aV.map bM.fName) f.fBody (by omega) hpn (by omega)) ?_;refine W1 ?_)
  |(refine ay ?_;unfold kg Qe uN;grind [gG,je,aY,aA]))
theorem AR(f:aS)(hsz:f.sz<=4194304):aH prog 216 [f.v] (.c (.d (.b (kg f)))):=fun S=>by
 have hs:=aS.sum f
 have hV:∀s∈f.aG,s.length<=4194304:=fun s h=>by have:=tq h;omega
 have hW:∀b∈f.bY,b.sz<=4194304:=fun b h=>by have:=qX h;omega
 have hP:∀p∈f.aV,p.sz<=4194304:=fun m h=>by have:=Lu h;omega
 have hpn:∀s∈uN f,s.length<=4194304:=fun t h=>by
  obtain⟨p,hp,e⟩:=List.mem_map.1 h;have:=hP p hp;have:=bM.sum p;rw[<-e];omega
 have hnl:(uN f).length=f.aV.length:=by simp[uN]
 have bad:∀i,∀hi:i<f.aV.length,iq f.aG f.aV[i].fType=false->V.c (.d (.b false))=V.c (.d (.b (kg f))):=fun i hi h=>ay (by
  have:mG f.aG (Qe f)=false:=Bool.eq_false_iff.2 fun hx=>by
   have:=List.all_eq_true.1 hx f.aV[i].fType (List.mem_map_of_mem (List.getElem_mem hi));rw[h] at this;cases this
  unfold kg
  rw[this];simp)
 refine aD (rs:=[.tmp 2]) zmx func216 ntmps216 rfl rfl rfl rfl rfl ?_;refine W1 ?_;refine W3 ?_;refine nK 3 1 [] rfl (by simp) ?_
 refine aU (ι:=Nat×List (List UInt8)) zmx rfl [1,3,4] (fun y=>[.c (.ptr (0,0) 0),.c (.bN (0,1) (y.2.map encS)),.c (.d (.i .i64 y.1))]) (fun y=>[.box (f.enc.map .d),.tok 1 (y.2.map encS)]::S)
  (fun y=>y.1<=f.aV.length/\y.2=(uN f).take y.1/\∀j,∀hj:j<f.aV.length,j<y.1->iq f.aG f.aV[j].fType=true) (fun y=>f.aV.length-y.1) (0,[]) rfl ?_ ⟨Nat.zero_le _,rfl,fun j _ h=>by simp only at h;omega⟩ ?_
 ·exact Z1
 rintro⟨i,names⟩ ⟨p1,p2,p3⟩;simp only at p1 p2 p3
 have pl:names.length<=f.aV.length:=by rw[p2];simp[uN];omega
 refine W1 ?_;refine S0 (fun hb h=>?_) fun hb h=>?_
 ·have hi:i<f.aV.length:=by omega
  have hp:=hP _ (List.getElem_mem hi);have hps:=bM.sum f.aV[i];refine W3 ?_;refine C2 (vg f.aV[i].fType f.aG (by omega) (by omega)) ?_;refine S0 (fun hb h=>?_) fun hb h=>?_
  ·exact bad i hi h
  have k3:=h;refine W3 ?_;rw[show List.map encS names++[[D.s f.aV[i].fName]]=List.map encS (names++[f.aV[i].fName]) by simp[encS]]
  exact bJ (i+1,names++[f.aV[i].fName]) (by simp only;omega) rfl rfl ⟨by simp only;omega,by simp only;rw[p2,iV (by simpa [uN] using hi)];simp[uN],fun j hj hji=>by
   simp only at hji;by_cases e:j=i
   ·subst e;exact k3
   ·exact p3 j hj (by omega)⟩
 have hi:i=f.aV.length:=by omega
 have hn:names=uN f:=by rw[p2,List.take_of_length_le (by simp[uN];omega)]
 have hall:mG f.aG (Qe f)=true:=List.all_eq_true.2 fun c hc=>by
  obtain⟨p,hp,e⟩:=List.mem_map.1 hc;obtain⟨j,hj,e'⟩:=List.getElem_of_mem hp;rw[<-e,<-e'];exact p3 j hj (by omega)
 clear p2 p3 bad;subst hn
 repeat' (first
  |refine S0 (fun hb h=>?_) fun hb h=>?_
  |((with_reducible show fA _ _ 148 _ _ _ _);refine aZ (iJ f.fName (by omega)) ?_;refine W1 ?_)
  |((with_reducible show fA _ _ 149 _ _ _ _);refine aZ (ng f.aG 3 (by omega) hV) ?_;refine W1 ?_)
  |((with_reducible show fA _ _ 273 _ _ _ _);refine aZ (MF f.bY f.aG (by omega) hW (by omega)) ?_;refine W1 ?_)
  |((with_reducible show fA _ _ 149 _ _ _ _);refine aZ (ng (uN f) 5 (by omega) hpn) ?_;refine W1 ?_)
  |((with_reducible show fA _ _ 271 _ _ _ _);refine aZ (vg f.bO f.aG (by omega) (by omega)) ?_;refine W1 ?_)
  |((with_reducible show fA _ _ 275 _ _ _ _);refine aZ (IC (uN f) f.fBody (by omega) (by omega)) ?_;refine W1 ?_)
  |(refine ay ?_;unfold kg nQ;grind [gG,je,aY,aA]))
def Ew(n:Nat)(s:St):St:=match s.st with
 |(.seed _::own)::Ω=>⟨s.tm,(.seed n::own)::Ω⟩
 |_=>s
theorem GI{N:Nat}(n:Nat)(s:St):iD N s (Ew n s):=by
 obtain⟨tm,st⟩:=s;unfold Ew;split
 ·rename_i h;simp only at h;subst h;exact DW n
 ·exact iD.refl _ _
theorem Zm{n m:Nat}{tm:List (Nat×V)}{own:List Obj}{Ω:Store}:Ew n ⟨tm,(.seed m::own)::Ω⟩=⟨tm,(.seed n::own)::Ω⟩:=rfl
def aj4(j p n:Nat)(s:St):St:=Ew n (UC j p s)
theorem Zn{N:Nat}(j p n:Nat)(s:St):iD N s (aj4 j p n s):=(Mr j p s).trans (GI n _)
attribute [go_sem] aj4 Zm
def xQ:List UInt8:=[102,110]
def qY(b:bq):aj:=bC [bI b.bD,cK b.fType]
def rP(b:bM):aj:=bC [bI b.fName,cK b.fType]
def Jc(f:aS):aj:=bC [bI xQ,bI f.fName,bC (aN f.aG),bC (f.bY.map qY),bC (f.aV.map rP),cK f.bO,fq f.fBody]
noncomputable def XF(f:aS):aj:=wS (kg f) (Jc f)
theorem alM{f:aS}(h:f.sz<=1048576):(XF f).sz<=1048576:=Nat.le_trans (Lc _ _) (by decide)
theorem anG(b:bq):(qY b).sz<=14+16*b.sz:=by
 have:=BO b.fType;have:=bq.sum b;rw[qY,jF];simp[dA,jR];omega
theorem ai5(b:bM):(rP b).sz<=14+16*b.sz:=by
 have:=BO b.fType;have:=bM.sum b;rw[rP,jF];simp[dA,jR];omega
theorem Rm:∀l:List bq,dA (l.map qY)<=14*l.length+16*bn (l.map bq.enc)
 |[]=>by simp[dA]
 |c::l=>by
  have h1:=anG c;have h2:=Rm l;rw[List.map_cons,dA,List.map_cons,bn,List.length_cons];simp only[bq.sz] at h1;omega
theorem Tn:∀l:List bM,dA (l.map rP)<=14*l.length+16*bn (l.map bM.enc)
 |[]=>by simp[dA]
 |c::l=>by
  have h1:=ai5 c;have h2:=Tn l;rw[List.map_cons,dA,List.map_cons,bn,List.length_cons];simp only[bM.sz] at h1;omega
theorem afT{f:aS}(hok:iW f.fBody=true):(Jc f).sz<=60+32*f.sz:=by
 have h1:=Rm f.bY;have h2:=Tn f.aV;have h3:=BO f.bO;have h4:=Kw f.fBody hok;have h5:=aS.sum f;rw[dK] at h5;rw[Jc,jF];simp[dA,jR,jF,jN,sW,xQ];omega
theorem CS{vars:List (List UInt8)}{bs:List bq}(h:ru vars bs=true):∀b∈bs,formed b.fType=true:=fun b hb=>by
 unfold ru at h;rw[Bool.and_eq_true] at h;have h2:=List.all_eq_true.1 h.2 b hb;unfold oQ at h2;simp only[Bool.and_eq_true] at h2;exact wQ h2.1.2
theorem wG{vars:List (List UInt8)}{t:ak}(h:iq vars t=true):formed t=true:=by
 unfold iq at h;rw[Bool.and_eq_true] at h;exact wQ h.1
theorem E9{vars:List (List UInt8)}{e:au}(h:nQ vars e=true):iW e=true:=by
 unfold nQ GD at h;simp only[Bool.and_eq_true] at h;exact Xy h.2.1
theorem yG{f:aS}(h:kg f=true):(∀b∈f.bY,formed b.fType=true)/\(∀q∈f.aV,formed q.fType=true)/\formed f.bO=true/\iW f.fBody=true:=by
 unfold kg at h;simp only[Bool.and_eq_true] at h;obtain⟨_,_,_,h1,_,h2,h3,h4⟩:=h;exact⟨CS h1,fun q hq=>yw.1 (yR h2) _ (List.mem_map_of_mem hq),wG h3,E9 h4⟩
theorem vL(xs:List bq)(n:Nat)(hfo:∀b∈xs,formed b.fType=true)(hlen:xs.length<=4194304)(hsz:∀b∈xs,b.sz<=4194304):aH prog 278 [.c (.d (.sl (xs.map bq.enc)))] (.agg [.d (.s []),.d (.ol n (lx (xs.map qY) (n+1)))]):=fun S=>by
 obtain⟨L,hL⟩:∃L:Nat->Nat,L=fun i=>n+1+jB ((xs.map qY).take i):=⟨_,rfl⟩;obtain⟨T,hT⟩:∃T:Nat->List (List D),T=fun i=>lx ((xs.map qY).take i) (n+1):=⟨_,rfl⟩
 have hT0:T 0=[]:=by rw[hT];rfl
 have iG:∀i,(T i).length<=i:=fun i=>by
  rw[hT];simp only[iC];exact List.length_take_le _ _
 have hTs:∀i (hi:i<xs.length),T i++[[.s [],.ol (L i) [[.s xs[i].bD,.ol (L i+1) []],[.s (cK xs[i].fType).aO,.ol (L i+1+1) (lx (cK xs[i].fType).ah (L i+1+1+1))]]]]=T (i+1):=fun i hi=>by
  have:=Io (l:=xs.map qY) (i:=i) (by rw[List.length_map];exact hi) (n+1);rw[List.getElem_map,qY,dW,dH,jT,jT,nO,xg,j6,j4] at this;rw[hT,hL];exact this
 have hTe:T xs.length=lx (xs.map qY) (n+1):=by
  rw[hT];simp only
  rw[List.take_of_length_le (by simp)]
 clear hT hL;refine vw (n) 1 (rs:=[.cell 2 54]) zmx func278 ntmps278 rfl rfl rfl rfl rfl ?_;refine W1 ?_;refine W3 ?_;refine mU n 3 2 [] (.inl rfl) (by simp) ?_;refine rT (L 0) ?_
 refine aU (ι:=Nat) zmx rfl [2,3,7,8,9] (fun i=>[.c (.ptr (0,2) 0),.c (.bN (0,3) (T i)),.c (.d (.sl (xs.map bq.enc))),.c (.d (.i .i64 xs.length)),.c (.d (.i .i64 i))])
  (fun i=>[.seed (L i),.seed 1,.box [.d (.s []),.bG []],.fu n 2 (T i)]::S)
  (fun i=>i<=xs.length) (fun i=>xs.length-i) 0 (by rw[hT0];rfl) (by rw[hT0];rfl) (Nat.zero_le _) ?_
 intro i hi;have hl:=iG i;refine W1 ?_;refine S0 (fun hb h=>?_) fun hb h=>?_
 ·have hi':i<xs.length:=by omega
  have hm:=List.getElem_mem hi';have hcz:=hsz _ hm;have hce:=bq.sum xs[i];have hs:=hTs i hi';refine W3 ?_;refine C1 (dG _ (L i+1)) ?_;refine C1 (l7 xs[i].fType (L i+1+1) (hfo _ hm) (by omega)) ?_;refine W3 ?_;refine C1 (oF _ _) ?_;refine W3 ?_;rw[hs];refine tX (L (i+1)) 3 (by decide) (i+1) (by omega) rfl rfl ?_ rfl (by omega);simp[kT,jd,V.refs,C.refs,nZ]
 ·have hi':i=xs.length:=by omega
  refine bg rfl (kE 0 3 _ _) ?_;refine W1 ?_;rw[hi',hTe]
theorem Uh(f:aS)(n:Nat)(hv:kg f=true)(hsz:f.sz<=1048576):aH prog 223 [f.v] (.agg [.d (.s []),.d (.ol n (lx (Jc f).ah (n+1)))]):=fun S=>by
 have hdz:=aS.sum f;rw[dK] at hdz;obtain⟨hf1,hf2,hf3,Fb⟩:=yG hv;obtain⟨p,hp⟩:∃p:Nat,p=n+1+1+1+dS (bC (aN f.aG))+dS (bC (f.bY.map qY)):=⟨_,rfl⟩;obtain⟨L,hL⟩:∃L:Nat->Nat,L=fun i=>p+1+jB ((f.aV.map rP).take i):=⟨_,rfl⟩;obtain⟨T,hT⟩:∃T:Nat->List (List D),T=fun i=>lx ((f.aV.map rP).take i) (p+1):=⟨_,rfl⟩
 have hT0:T 0=[]:=by rw[hT];rfl
 have iG:∀i,(T i).length<=i:=fun i=>by
  rw[hT];simp only[iC];exact List.length_take_le _ _
 have hTs:∀i (hi:i<f.aV.length),T i++[[.s [],.ol (L i) [[.s f.aV[i].fName,.ol (L i+1) []],[.s (cK f.aV[i].fType).aO,.ol (L i+1+1) (lx (cK f.aV[i].fType).ah (L i+1+1+1))]]]]=T (i+1):=fun i hi=>by
  have:=Io (l:=f.aV.map rP) (i:=i) (by rw[List.length_map];exact hi) (p+1);rw[List.getElem_map,rP,dW,dH,jT,jT,nO,xg,j6,j4] at this;rw[hT,hL];exact this
 have hTe:T f.aV.length=lx (f.aV.map rP) (p+1):=by
  rw[hT];simp only
  rw[List.take_of_length_le (by simp)]
 clear hT hL;refine vw (p) 1 (rs:=[.cell 2 54]) zmx func223 ntmps223 rfl rfl rfl rfl rfl ?_;refine W1 ?_;refine W3 ?_;refine mU p 3 2 [] (.inl rfl) (by simp) ?_;refine rT (L 0) ?_;refine F9 (Zn 4 p n) ?_
 refine aU (ι:=Nat) zmx rfl [1,2,3,8,9,10] (fun i=>[.c (.ptr (0,2) 0),.c (.ptr (0,3) 0),.c (.bN (0,4) (T i)),.c (.d (.sl (f.aV.map bM.enc))),.c (.d (.i .i64 f.aV.length)),.c (.d (.i .i64 i))])
  (fun i=>[.seed (L i),.seed 1,.box [.d (.s f.fName),.d (.sl (f.aG.map encS)),.d (.sl (f.bY.map bq.enc)),.d (.sl (f.aV.map bM.enc)),.d (.i .i64 f.bO.aJ),.d (.s f.bO.fName),.d (.sl (f.bO.fArgs.map ak.enc)),.d (.i .i64 f.fBody.aJ),.d (.s f.fBody.bD),.d (.s f.fBody.fName),.d (.i .i64 f.fBody.fN),.d (.i .i64 f.fBody.fType.aJ),.d (.s f.fBody.fType.fName),.d (.sl (f.fBody.fType.fArgs.map ak.enc)),.d (.sl (f.fBody.fArgs.map au.enc)),.d (.sl (f.fBody.aR.map aT.enc))],.box [.d (.s []),.bG []],.fu p 2 (T i)]::S)
  (fun i=>i<=f.aV.length) (fun i=>f.aV.length-i) 0 (by rw[hT0];rfl) (by rw[hT0];rfl) (Nat.zero_le _) ?_
 intro i hi;have hl:=iG i;refine W1 ?_;refine S0 (fun hb h=>?_) fun hb h=>?_
 ·have hi':i<f.aV.length:=by omega
  have hm:=List.getElem_mem hi';have hcz:=Lu hm;have hce:=bM.sum f.aV[i];have hs:=hTs i hi';refine W3 ?_;refine C1 (dG _ (L i+1)) ?_;refine C1 (l7 f.aV[i].fType (L i+1+1) (hf2 _ hm) (by omega)) ?_;refine W3 ?_;refine C1 (oF _ _) ?_;refine W3 ?_;rw[hs];refine tX (L (i+1)) 4 (by decide) (i+1) (by omega) rfl rfl ?_ rfl (by omega);simp[kT,jd,V.refs,C.refs,nZ]
 ·have hi':i=f.aV.length:=by omega
  subst hi';rw[hTe];refine C1 (dG _ (n+1)) ?_;refine C1 (dG _ (n+1+1)) ?_;refine C1 (eO f.aG (by omega) (n+1+1+1)) ?_;refine C1 (vL f.bY (n+1+1+1+dS (bC (aN f.aG))) hf1 (by omega) (fun b hb=>by have:=qX hb;omega)) ?_;refine C1 (l6 _) ?_;refine C1 (l7 f.bO (p+dS (bC (f.aV.map rP))) hf3 (by omega)) ?_;refine C1 (Aa f.fBody (p+dS (bC (f.aV.map rP))+dS (cK f.bO)) Fb (by omega)) ?_;refine W3 ?_;refine C1 (oF _ _) ?_;rw[Jc,dH];simp only[jT,nO,j6,kU,kV,dW,dH,j4,<-hp,xQ]
theorem xC(xs:List bq)(hlen:xs.length<=4194304)(hsz:∀b∈xs,b.sz<=4194304):aH prog 268 [.c (.d (.sl (xs.map bq.enc)))] (.agg [.d (.s []),.d (.sl ((xs.map qY).map aj.enc))]):=fun S=>by
 obtain⟨T,hT⟩:∃T:Nat->List (List D),T=fun i=>((xs.map qY).take i).map aj.enc:=⟨_,rfl⟩
 have hT0:T 0=[]:=by rw[hT];rfl
 have iG:∀i,(T i).length<=i:=fun i=>by
  rw[hT];simp only[List.length_map];exact List.length_take_le _ _
 have hTs:∀i (hi:i<xs.length),T i++[[.s [],.sl [[.s xs[i].bD,.sl []],[.s (cK xs[i].fType).aO,.sl ((cK xs[i].fType).ah.map aj.enc)]]]]=T (i+1):=fun i hi=>by
  have:=jO (base:=[]) (l:=xs.map qY) (i:=i) (by rw[List.length_map];exact hi);rw[List.getElem_map,qY,dW,dH,List.map_cons,List.map_cons,List.map_nil,fJ,aj.aB (cK xs[i].fType)] at this;rw[hT];exact this
 have hTe:T xs.length=(xs.map qY).map aj.enc:=by
  rw[hT];simp only
  rw[List.take_of_length_le (by simp)]
 clear hT;refine aD (rs:=[.cell 2 54]) zmx func268 ntmps268 rfl rfl rfl rfl rfl ?_;refine W1 ?_;refine sS 1 1 2 [] [.d (.s []),.bG []] rfl rfl (by simp) ?_
 refine aU (ι:=Nat) zmx rfl [0,2,3,4] (fun i=>[.c (.d (.sl (xs.map bq.enc))),.c (.ptr (0,0) 0),.c (.ptr (0,1) 0),.c (.d (.i .i64 i))])
  (fun i=>[.box [.d (.s []),.bG []],.box [.d (.s []),.bN (0,2) (T i)],.tok 2 (T i)]::S)
  (fun i=>i<=xs.length) (fun i=>xs.length-i) 0 rfl (by rw[hT0];rfl) (Nat.zero_le _) ?_
 intro i hi;have hl:=iG i;refine W1 ?_;refine S0 (fun hb h=>?_) fun hb h=>?_
 ·have hi':i<xs.length:=by omega
  have hm:=List.getElem_mem hi';have hcz:=hsz _ hm;have hce:=bq.sum xs[i];have hs:=hTs i hi';refine W3 ?_;refine C1 (bW _) ?_;refine W3 ?_;refine C1 (mP xs[i].fType (by omega)) ?_;refine W3 ?_;refine C1 (om _ (by simp) (by simp)) ?_;refine W3 ?_;rw[hs];exact bJ (i+1) (by omega) rfl rfl (by omega)
 ·have hi':i=xs.length:=by omega
  subst hi';rw[hTe]
theorem afU(f:aS)(hsz:f.sz<=1048576):aH prog 211 [f.v] (XF f).v:=by
 unfold XF
 cases hv:kg f with
 |false=>
  rw[wS];refine aH.less (fun S=> ?_) (Gt [] []);refine aD (rs:=[.cell 2 54]) zmx func211 ntmps211 rfl rfl rfl rfl rfl ?_;refine W1 ?_;refine aZ (AR f (by omega)) ?_;simp -implicitDefEqProofs (disch:=omega) only[go_sem,hv]
 |true=>
  intro S;have hdz:=aS.sum f;rw[dK] at hdz;obtain⟨hf1,hf2,hf3,Fb⟩:=yG hv;have hz:=afT Fb;obtain⟨T,hT⟩:∃T:Nat->List (List D),T=fun i=>((f.aV.map rP).take i).map aj.enc:=⟨_,rfl⟩
  have hT0:T 0=[]:=by rw[hT];rfl
  have iG:∀i,(T i).length<=i:=fun i=>by
   rw[hT];simp only[List.length_map];exact List.length_take_le _ _
  have hTs:∀i (hi:i<f.aV.length),T i++[[.s [],.sl [[.s f.aV[i].fName,.sl []],[.s (cK f.aV[i].fType).aO,.sl ((cK f.aV[i].fType).ah.map aj.enc)]]]]=T (i+1):=fun i hi=>by
   have:=jO (base:=[]) (l:=f.aV.map rP) (i:=i) (by rw[List.length_map];exact hi);rw[List.getElem_map,rP,dW,dH,List.map_cons,List.map_cons,List.map_nil,fJ,aj.aB (cK f.aV[i].fType)] at this;rw[hT];exact this
  have hTe:T f.aV.length=(f.aV.map rP).map aj.enc:=by
   rw[hT];simp only
   rw[List.take_of_length_le (by simp)]
  clear hT;refine aD (rs:=[.cell 2 54]) zmx func211 ntmps211 rfl rfl rfl rfl rfl ?_;refine W1 ?_;refine aZ (AR f (by omega)) ?_;simp -implicitDefEqProofs (disch:=omega) only[go_sem,hv];refine sS 2 1 2 [] [.d (.s []),.bG []] rfl rfl (by simp) ?_
  refine aU (ι:=Nat) zmx rfl [1,2,3,4] (fun i=>[.c (.ptr (0,0) 0),.c (.ptr (0,1) 0),.c (.ptr (0,2) 0),.c (.d (.i .i64 i))])
   (fun i=>[.box [.d (.s f.fName),.d (.sl (f.aG.map encS)),.d (.sl (f.bY.map bq.enc)),.d (.sl (f.aV.map bM.enc)),.d (.i .i64 f.bO.aJ),.d (.s f.bO.fName),.d (.sl (f.bO.fArgs.map ak.enc)),.d (.i .i64 f.fBody.aJ),.d (.s f.fBody.bD),.d (.s f.fBody.fName),.d (.i .i64 f.fBody.fN),.d (.i .i64 f.fBody.fType.aJ),.d (.s f.fBody.fType.fName),.d (.sl (f.fBody.fType.fArgs.map ak.enc)),.d (.sl (f.fBody.fArgs.map au.enc)),.d (.sl (f.fBody.aR.map aT.enc))],.box [.d (.s []),.bG []],.box [.d (.s []),.bN (0,3) (T i)],.tok 2 (T i)]::S)
   (fun i=>i<=f.aV.length) (fun i=>f.aV.length-i) 0 rfl (by rw[hT0];rfl) (Nat.zero_le _) ?_
  intro i hi;have hl:=iG i;refine W1 ?_;refine S0 (fun hb h=>?_) fun hb h=>?_
  ·have hi':i<f.aV.length:=by omega
   have hm:=List.getElem_mem hi';have hcz:=Lu hm;have hce:=bM.sum f.aV[i];have hs:=hTs i hi';refine W3 ?_;refine C1 (bW _) ?_;refine W3 ?_;refine C1 (mP f.aV[i].fType (by omega)) ?_;refine W3 ?_;refine C1 (om _ (by simp) (by simp)) ?_;refine W3 ?_;rw[hs];exact bJ (i+1) (by omega) rfl rfl (by omega)
  ·have hi':i=f.aV.length:=by omega
   subst hi';rw[hTe];refine C1 (bW _) ?_;refine C1 (bW _) ?_;refine C1 (eF f.aG (by omega)) ?_;refine C1 (xC f.bY (by omega) (fun b hb=>by have:=qX hb;omega)) ?_;refine C1 (mP f.bO (by omega)) ?_;refine C1 (uS f.fBody Fb (by omega)) ?_;refine W3 ?_;refine C1 (om _ (by simp) (by simp)) ?_;refine W3 ?_;have hI:=tJ true (Jc f) (by omega)
   have hx:(Jc f).v=V.agg [.d (.s []),.d (.sl [[.s [102,110],.sl []],[.s f.fName,.sl []],[.s [],.sl ((aN f.aG).map aj.enc)],[.s [],.sl ((f.bY.map qY).map aj.enc)],[.s [],.sl ((f.aV.map rP).map aj.enc)],[.s (cK f.bO).aO,.sl ((cK f.bO).ah.map aj.enc)],[.s (fq f.fBody).aO,.sl ((fq f.fBody).ah.map aj.enc)]])]:=by
    rw[Jc];show V.agg [.d (.s []),.d (.sl (List.map aj.enc _))]=_;simp only[dH,List.map_cons,List.map_nil,fJ,kF,aj.aB (cK f.bO),aj.aB (fq f.fBody),xQ]
   rw[hx] at hI;refine aZ hI ?_;exact Z1
abbrev gX(l:List aj)(i:Nat):aj:=l.getD i cu
theorem XG(l:List aj):dA l=(gX l 0).sz+dA (l.drop 1):=by
 cases l with
 |nil=>simp[dA,gX,Ir]
 |cons x l=>rw[dA,List.drop_succ_cons,List.drop_zero];rfl
theorem aam(l:List aj)(k i:Nat):gX (l.drop k) i=gX l (k+i):=by
 simp[gX,List.getD_eq_getElem?_getD,List.getElem?_drop]
theorem Cj(l:List aj):dA l=(gX l 0).sz+(gX l 1).sz+(gX l 2).sz+(gX l 3).sz+(gX l 4).sz+(gX l 5).sz+(gX l 6).sz+dA (l.drop 7):=by
 have h:∀k,dA (l.drop k)=(gX l k).sz+dA (l.drop (k+1)):=fun k=>by
  rw[XG (l.drop k),aam,Nat.add_zero,List.drop_drop]
 have h0:=h 0;rw[List.drop_zero] at h0;have h1:=h 1;have h2:=h 2;have h3:=h 3;have h4:=h 4;have h5:=h 5;have h6:=h 6
 simp only[Nat.reduceAdd] at *
 omega
theorem Ey(l:List aj):dA l=(gX l 0).sz+(gX l 1).sz+(gX l 2).sz+(gX l 3).sz+dA (l.drop 4):=by
 have h:=Cj l;have h1:=Cj (l.drop 4)
 have e:∀k,dA (l.drop k)=(gX l k).sz+dA (l.drop (k+1)):=fun k=>by
  rw[XG (l.drop k),aam,Nat.add_zero,List.drop_drop]
 have h4:=e 4;have h5:=e 5;have h6:=e 6
 simp only[Nat.reduceAdd] at *
 omega
theorem Fe(l:List aj)(i:Nat):dJ l i=(gX l i).aO:=rfl
theorem qO(x:aj):x.aO.length+(x.ah.length+dA x.ah)=x.sz:=by rw[jW,mh]
theorem XH{α:Type}{x:aj}{dT dF:α}{valid:α->Bool}{sx:α->aj}{head:Prop}(hx:x.ah≠[])(hd:∀a,valid a=true->sx a=x->dT=a/\dF=a)(hh:∀a,sx a=x->head):
 dec (fM x=true/\head/\valid dT=true/\sx dT=x)=(fM x&&dec (wS (valid dF) (sx dF)=x)):=by
 cases hv:fM x with
 |false=>exact aA fun h=>by cases h.1
 |true=>
  rw[Bool.true_and];refine iB ⟨fun⟨_,h2,h3,h4⟩=> ?_,fun h=> ?_⟩
  ·have e:=(hd _ h3 h4).2;rw[e,h3,h4,wS,D9,if_pos hv]
  ·obtain⟨h1,h2,_⟩:=Xf h hx;have e:=(hd _ h1 h2).1;rw[e];exact⟨rfl,hh _ h2,h1,h2⟩
def oI(b:Bool)(y:aj):bq:=if b=true/\y.ah.length≠2 then⟨[],jf⟩ else⟨dJ y.ah 0,dO b (gX y.ah 1)⟩
def oJ(b:Bool)(y:aj):bM:=if b=true/\y.ah.length≠2 then⟨[],jf⟩ else⟨dJ y.ah 0,dO b (gX y.ah 1)⟩
def oU(l:List aj)(i:Nat):List (List UInt8):=eU (gX l i).ah
def AU(b:Bool)(x:aj):aS:=
 ⟨dJ x.ah 1,oU x.ah 2,(gX x.ah 3).ah.map (oI b),(gX x.ah 4).ah.map (oJ b),dO b (gX x.ah 5),eP b (gX x.ah 6)⟩
theorem aan(b:Bool){c:bq}(h:formed c.fType=true):oI b (qY c)=c:=by
 unfold oI;rw[if_neg (by simp[qY,dH])];show bq.mk c.bD (dO b (cK c.fType))=c;rw[xK b _ h]
theorem afV(b:Bool){c:bM}(h:formed c.fType=true):oJ b (rP c)=c:=by
 unfold oJ;rw[if_neg (by simp[rP,dH])];show bM.mk c.fName (dO b (cK c.fType))=c;rw[xK b _ h]
theorem Ez{α β:Type}{f:α->β}{g:β->α}{l:List α}(h:∀a∈l,g (f a)=a):(l.map f).map g=l:=by
 rw[List.map_map,show l.map (g∘f)=l.map id from List.map_congr_left (fun c hc=>h c hc),List.map_id]
theorem XI{f:aS}(h:kg f=true):∀v∈f.aG,v≠[]:=by
 unfold kg at h;simp only[Bool.and_eq_true] at h;exact AL h.2.2.1
theorem Rn(b:Bool){f:aS}(h:kg f=true):AU b (Jc f)=f:=by
 obtain⟨h1,h2,h3,h4⟩:=yG h;show aS.mk f.fName (eU (aN f.aG)) ((f.bY.map qY).map (oI b)) ((f.aV.map rP).map (oJ b)) (dO b (cK f.bO)) (eP b (fq f.fBody))=f;rw[qM (XI h),Ez fun c hc=>aan b (h1 c hc),Ez fun c hc=>afV b (h2 c hc),xK b _ h3,Gy b _ h4]
noncomputable def okF(x:aj):Bool:=dec (fM x=true/\(7<=x.ah.length/\dJ x.ah 0=xQ)/\kg (AU true x)=true/\Jc (AU true x)=x)
theorem ai6{x:aj}(hx:x.ah≠[]):okF x=(fM x&&dec (XF (AU false x)=x)):=
 XH hx (fun a h1 h2=>by rw[<-h2];exact⟨Rn true h1,Rn false h1⟩) fun a h=>by rw[<-h];exact⟨Nat.le_refl _,rfl⟩
theorem ai7{x:aj}(h:okF x=true):AU false x=AU true x:=by
 have h1:=gG h
 conv=>lhs;rw[<-h1.2.2.2]
 exact Rn false h1.2.2.1
def Lv:aS:=⟨[],[],[],[],jf,l9⟩
noncomputable def vM(x:aj):aS:=if okF x=true then AU true x else Lv
theorem alN(b:Bool)(y:aj):(oI b y).sz<=y.sz:=by
 have h:=zn b (gX y.ah 1);have h1:=Ey y.ah;have h2:=qO y;have h3:=qO (gX y.ah 0);unfold oI;split
 ·simp only[bq.sz,bq.aB,bT,bL,D.sz,ak.d9,Cc];simp
 ·simp only[bq.sz,bq.aB,bT,bL,D.sz,ak.d9,Fe];omega
theorem afW(b:Bool)(y:aj):(oJ b y).sz<=y.sz:=by
 have h:=zn b (gX y.ah 1);have h1:=Ey y.ah;have h2:=qO y;have h3:=qO (gX y.ah 0);unfold oJ;split
 ·simp only[bM.sz,bM.aB,bT,bL,D.sz,ak.d9,Cc];simp
 ·simp only[bM.sz,bM.aB,bT,bL,D.sz,ak.d9,Fe];omega
theorem Nq(b:Bool):∀l:List aj,bn ((l.map (oI b)).map bq.enc)<=dA l
 |[]=>by simp[bn]
 |y::l=>by
  have h1:=alN b y;have h2:=Nq b l;rw[List.map_cons,List.map_cons,bn,dA];simp only[bq.sz] at h1;omega
theorem Qf(b:Bool):∀l:List aj,bn ((l.map (oJ b)).map bM.enc)<=dA l
 |[]=>by simp[bn]
 |y::l=>by
  have h1:=afW b y;have h2:=Qf b l;rw[List.map_cons,List.map_cons,bn,dA];simp only[bM.sz] at h1;omega
theorem Ro(b:Bool)(x:aj):(AU b x).sz<=x.sz:=by
 have h1:=Cj x.ah;have h2:=qO x;have h3:=qO (gX x.ah 1);have h4:=rU (gX x.ah 2).ah;have h4':=qO (gX x.ah 2);have h5:=Nq b (gX x.ah 3).ah;have h5':=qO (gX x.ah 3);have h6:=Qf b (gX x.ah 4).ah;have h6':=qO (gX x.ah 4);have h7:=zn b (gX x.ah 5);have h8:=Dw b (gX x.ah 6);simp only[aS.sz,aS.aB,bT,bL,D.sz,ak.d9,au.d9,AU,List.length_map,oU,dK,Fe];omega
noncomputable def nu(m:bA):Bool:=dec (1<=m.aG.length)&&(dec (m.aG.length<=5)&&nQ m.aG m.fBody)
noncomputable def mR(x:aM):List (List UInt8):=x.aI.map bA.fName
noncomputable def vN(x:aM):Bool:=validName x.bD&&(dec (x.aG.length<=3)&&(iP x.aG&&(iq x.aG x.bQ&&(!sM x.bQ&&(dec (x.bQ.aJ=2\/x.bQ.aJ=1)&&(among x.aG (jG [] x.bQ)&&(ru x.aG x.bY&&((if x.dX=true then iq x.aG x.bE else dec (yE x.bE))&&dec (x.aI.length<=6)))))))))
noncomputable def fD(x:aM):Bool:=vN x&&(x.aI.all nu&&iP (mR x))
theorem aM.sum(x:aM):x.bD.length+(x.aG.length+bn (x.aG.map encS))+x.bQ.sz+(x.bY.length+bn (x.bY.map bq.enc))+x.bE.sz+(x.aI.length+bn (x.aI.map bA.enc))<=x.sz:=by
 simp only[aM.sz,aM.aB,bT,bL,D.sz,List.length_map,ak.d9];omega
theorem bA.sum(x:bA):x.fName.length+(x.aG.length+bn (x.aG.map encS))+x.fBody.sz<=x.sz:=by
 simp only[bA.sz,bA.aB,bT,bL,D.sz,List.length_map,au.d9];omega
theorem AV{xs:List bA}{t:bA}(h:t∈xs):t.sz<=bn (xs.map bA.enc):=dD (List.mem_map_of_mem h)
theorem Tp(v:List UInt8):∀(us:List ak)(out:List (List UInt8)),v∈us.foldl wC out<->v∈out\/0<us.countP (OL v)
 |[],out=>by simp
 |u::us,out=>by
  rw[List.foldl_cons,Tp v us,List.countP_cons]
  have h:v∈wC out u<->v∈out\/OL v u=true:=by
   unfold wC OL;split
   ·rename_i h;simp only[List.mem_append,List.mem_singleton];constructor
    ·rintro(h1|h1)
     ·exact .inl h1
     ·right;simp[h1,h.1]
    ·rintro(h1|h1)
     ·exact .inl h1
     ·right;simp at h1;exact h1.2.symm
   ·rename_i h;constructor
    ·exact .inl
    ·rintro(h1|h1)
     ·exact h1
     ·simp at h1;by_cases e:u.fName∈out
      ·rw[<-h1.2];exact e
      ·exact absurd ⟨h1.1,e⟩ h
  rw[h]
  cases OL v u<;>simp
theorem ade(v:List UInt8)(t:ak):occurs v t=dec (v∈jG [] t):=by
 unfold occurs jG sj;rw[ku];exact iB (by rw[Tp];simp)
theorem adf{t:ak}(h:oV t=true):t.aJ=1\/t.aJ=2\/t.aJ=3\/t.aJ=4:=by
 have h1:=(gG h).1;rw[y9,Bool.and_eq_true] at h1;have h2:=gG h1.1;omega
theorem afX{t:ak}(h:sM t=false):t.aJ≠3:=by
 rw[Hz] at h;intro e;simp[e] at h
theorem EA(x:aM)(hsz:x.sz<=4194304):aH prog 163 [x.v] (.c (.d (.b (fD x)))):=fun S=>by
 have hs:=aM.sum x
 have hV:∀s∈x.aG,s.length<=4194304:=fun s h=>by have:=tq h;omega
 have hW:∀b∈x.bY,b.sz<=4194304:=fun b h=>by have:=qX h;omega
 have hM:∀m∈x.aI,m.sz<=4194304:=fun m h=>by have:=AV h;omega
 have no:vN x=false->V.c (.d (.b false))=V.c (.d (.b (fD x))):=fun h=>ay (by unfold fD;rw[h];rfl);refine(show Hold (vN x=true-> ?T)->_ from fun tail=> ?main) ?tp
 case' main=>
  refine aD (rs:=[.tmp 2]) zmx func163 ntmps163 rfl rfl rfl rfl rfl ?_;refine W1 ?_
  repeat' (first
   |refine S0 (fun hb h=>?_) fun hb h=>?_
   |((with_reducible show fA _ _ 157 _ _ _ _);refine aZ (iI x.bD (by omega)) ?_;refine W1 ?_)
   |((with_reducible show fA _ _ 158 _ _ _ _);refine aZ (qm x.aG (by omega) hV) ?_;refine W1 ?_)
   |((with_reducible show fA _ _ 232 _ _ _ _);refine aZ (vH x.bQ x.aG (by omega) (by omega)) ?_;refine W1 ?_)
   |((with_reducible show fA _ _ 232 _ _ _ _);refine aZ (vH x.bE x.aG (by omega) (by omega)) ?_;refine W1 ?_)
   |((with_reducible show fA _ _ 233 _ _ _ _);refine aZ (Gd x.bQ (by omega)) ?_;refine W1 ?_)
   |((with_reducible show fA _ _ 235 _ _ _ _);refine aZ (zT x.bQ (by omega)) ?_;refine W1 ?_)
   |((with_reducible show fA _ _ 234 _ _ _ _);refine aZ (Bo x.aG (jG [] x.bQ) (by omega) (Qc _ (by omega))) ?_;refine W1 ?_)
   |((with_reducible show fA _ _ 236 _ _ _ _);refine aZ (KL x.bY x.aG (by omega) hW (by omega)) ?_;refine W1 ?_)
   |((with_reducible show fA _ _ 237 _ _ _ _);refine aZ (IZ x.bE) ?_;refine W1 ?_)
   |(refine no ?_;unfold vN;grind [gG,je,aY,aA]))
  all_goals
   have hh:vN x=true:=by unfold vN;grind [gG,je,aY,aA]
   refine W3 ?_;refine nK 3 1 [] rfl (by simp) ?_;refine oC (st':=[.box (x.enc.map .d),.tok 1 []]::S) [3,91,92,93] [.c (.bN (0,1) []),.c (.d (.sl (x.aI.map bA.enc))),.c (.d (.i .i64 x.aI.length)),.c (.d (.i .i64 0))] ?_ ?_ ?_
   ·rfl
   ·first|(refine W1 ?_;done)|(refine W1 ?_;simp[*])
   ·exact tail.out hh
 refine⟨fun hh=> ?_⟩
 have bad:∀i,∀hi:i<x.aI.length,nu x.aI[i]=false->V.c (.d (.b false))=V.c (.d (.b (fD x))):=fun i hi h=>by
  have:x.aI.all nu=false:=Bool.eq_false_iff.2 fun hx=>by
   rw[List.all_eq_true.1 hx _ (List.getElem_mem hi)] at h;cases h
  unfold fD
  rw[this];simp
 refine aU (ι:=Nat×List (List UInt8)) zmx rfl [3,91,92,93] (fun y=>[.c (.bN (0,1) (y.2.map encS)),.c (.d (.sl (x.aI.map bA.enc))),.c (.d (.i .i64 x.aI.length)),.c (.d (.i .i64 y.1))]) (fun y=>[.box (x.enc.map .d),.tok 1 (y.2.map encS)]::S)
  (fun y=>y.1<=x.aI.length/\y.2=(mR x).take y.1/\∀j,∀hj:j<x.aI.length,j<y.1->nu x.aI[j]=true) (fun y=>x.aI.length-y.1) (0,[]) rfl ?_ ⟨Nat.zero_le _,rfl,fun j _ h=>by simp only at h;omega⟩ ?_
 ·exact Z1
 rintro⟨i,names⟩ ⟨p1,p2,p3⟩;simp only at p1 p2 p3
 have pl:names.length<=x.aI.length:=by rw[p2];simp[mR];omega
 refine W1 ?_;refine S0 (fun hb h=>?_) fun hb h=>?_
 ·have hi:i<x.aI.length:=by omega
  have hm:=hM _ (List.getElem_mem hi);have hms:=bA.sum x.aI[i]
  have hmv:∀s∈x.aI[i].aG,s.length<=4194304:=fun s h=>by have:=tq h;omega
  refine W3 ?_;refine S0 (fun hb h=>?_) fun hb h=>?_
  ·exact bad i hi (by unfold nu;rw[aA (by omega)];rfl)
  refine W3 ?_;refine S0 (fun hb h=>?_) fun hb h=>?_
  ·exact bad i hi (by unfold nu;rw[aA (show ¬x.aI[i].aG.length<=5 by omega)];simp)
  refine W3 ?_;refine C2 (KJ x.aI[i].aG x.aI[i].fBody (by omega) hmv (by omega)) ?_;refine S0 (fun hb h=>?_) fun hb h=>?_
  ·exact bad i hi (by unfold nu;rw[h];simp)
  have k2:=h
  have k3:nu x.aI[i]=true:=by unfold nu;rw[k2,aY (by omega),aY (by omega)];rfl
  refine W3 ?_;rw[show List.map encS names++[[D.s x.aI[i].fName]]=List.map encS (names++[x.aI[i].fName]) by simp[encS]]
  exact bZ 2 (by decide) (i+1,names++[x.aI[i].fName]) (by simp only;omega) rfl rfl rfl rfl ⟨by simp only;omega,by simp only;rw[p2,iV (by simpa [mR] using hi)];simp[mR],fun j hj hji=>by
   simp only at hji;by_cases e:j=i
   ·subst e;exact k3
   ·exact p3 j hj (by omega)⟩
 have hi:i=x.aI.length:=by omega
 have hn:names=mR x:=by rw[p2,List.take_of_length_le (by simp[mR];omega)]
 have hall:x.aI.all nu=true:=List.all_eq_true.2 fun c hc=>by
  obtain⟨j,hj,e⟩:=List.getElem_of_mem hc;rw[<-e];exact p3 j hj (by omega)
 have hnl:∀s∈names,s.length<=4194304:=fun s hm=>by
  rw[hn] at hm;obtain⟨g,hg,e⟩:=List.mem_map.1 hm;have:=hM g hg;have:=bA.sum g;rw[<-e];omega
 refine C2 (qm names (by omega) hnl) ?_;exact ay (by unfold fD;rw[hh,hall,hn];rfl)
theorem p9(x:aM)(hsz:x.sz<=4194304):aH prog 215 [x.v] (.c (.d (.b (fD x)))):=fun S=>by
 have hs:=aM.sum x
 have hV:∀s∈x.aG,s.length<=4194304:=fun s h=>by have:=tq h;omega
 have hW:∀b∈x.bY,b.sz<=4194304:=fun b h=>by have:=qX h;omega
 have hM:∀m∈x.aI,m.sz<=4194304:=fun m h=>by have:=AV h;omega
 have bad:x.aI.all nu=false->V.c (.d (.b false))=V.c (.d (.b (fD x))):=fun h=>ay (by unfold fD;rw[h];simp);have no:vN x=false->V.c (.d (.b false))=V.c (.d (.b (fD x))):=fun h=>ay (by unfold fD;rw[h];rfl)
 have hk:iq x.aG x.bQ=true->sM x.bQ=false->(x.bQ.aJ=1\/x.bQ.aJ=2\/x.bQ.aJ=4):=fun h1 h2=>by
  unfold iq at h1;rw[Bool.and_eq_true] at h1;have:=adf h1.1;have:=afX h2;omega
 refine aD (rs:=[.tmp 2]) zmx func215 ntmps215 rfl rfl rfl rfl rfl ?_;refine W1 ?_
 repeat' (first
  |refine S0 (fun hb h=>?_) fun hb h=>?_
  |((with_reducible show fA _ _ 148 _ _ _ _);refine aZ (iJ x.bD (by omega)) ?_;refine W1 ?_)
  |((with_reducible show fA _ _ 149 _ _ _ _);refine aZ (ng x.aG 3 (by omega) hV) ?_;refine W1 ?_)
  |((with_reducible show fA _ _ 271 _ _ _ _);refine aZ (vg x.bQ x.aG (by omega) (by omega)) ?_;refine W1 ?_)
  |((with_reducible show fA _ _ 272 _ _ _ _);refine aZ (Gc x.bQ (by omega)) ?_;refine W1 ?_)
  |((with_reducible show fA _ _ 273 _ _ _ _);refine aZ (MF x.bY x.aG (by omega) hW (by omega)) ?_;refine W1 ?_)
  |(refine no ?_;unfold vN;grind [gG,je,aY,aA]))
 all_goals
  have h1:validName x.bD=true:=by assumption
  have h2:(dec ((x.aG.length:Int)<=3)&&iP x.aG)=true:=by assumption
  have h3:iq x.aG x.bQ=true:=by assumption
  have h4:sM x.bQ=false:=by assumption
  have h5:¬x.bQ.aJ=4:=by assumption
  have h6:ru x.aG x.bY=true:=by assumption
 have h7:=hk h3 h4;clear hk;rw[Bool.and_eq_true] at h2;have h8:=gG h2.1
 have pre:vN x=(among x.aG (jG [] x.bQ)&&((if x.dX=true then iq x.aG x.bE else dec (yE x.bE))&&dec (x.aI.length<=6))):=by
  unfold vN;rw[h1,h2.2,h3,h4,h6,aY (show x.aG.length<=3 by omega),aY (show x.bQ.aJ=2\/x.bQ.aJ=1 by omega)]
  simp
 clear h1 h2 h3 h4 h5 h6 h7 h8
 refine aU (ι:=Nat) zmx rfl [1,3] (fun i=>[.c (.ptr (0,0) 0),.c (.d (.i .i64 i))]) (fun _=>[.box (x.enc.map .d)]::S)
  (fun i=>i<=x.aG.length/\among (x.aG.drop i) (jG [] x.bQ)=among x.aG (jG [] x.bQ)) (fun i=>x.aG.length-i) 0 rfl ?_ ⟨Nat.zero_le _,rfl⟩ ?_
 ·exact Z1
 rintro i ⟨p1,p2⟩;simp -implicitDefEqProofs (disch:=omega) only[go_sem,encS]
 with_reducible refine dM (fun hb=> ?_) (fun hb=> ?_)<;>have h:=hb<;>(try simp only[wf_preprocess] at h)<;>simp -implicitDefEqProofs (disch:=omega) only[go_sem,hb,encS]<;>refine W3 ?_
 ·have hi:i<x.aG.length:=by omega
  rw[List.drop_eq_getElem_cons hi] at p2;have p3:among x.aG (jG [] x.bQ)=(dec (x.aG[i]∈jG [] x.bQ)&&among (x.aG.drop (i+1)) (jG [] x.bQ)):=p2.symm;refine W3 ?_;refine C2 (Ub x.aG[i] x.bQ (by omega)) ?_;rw[ade];refine S0 (fun hb h=>?_) fun hb h=>?_
  ·exact no (by rw[pre,p3,aA h];rfl)
  ·exact bJ (i+1) (by omega) rfl rfl ⟨by omega,by rw[p3,aY h];rfl⟩
 rw[List.drop_of_length_le (by omega)] at p2;have p3:among x.aG (jG [] x.bQ)=true:=p2.symm;rw[p3,Bool.true_and] at pre;refine(show Hold ((if x.dX=true then iq x.aG x.bE else dec (yE x.bE))=true-> ?T)->_ from fun tail=> ?main) ?tp
 case' main=>
  repeat' (first
   |refine S0 (fun hb h=>?_) fun hb h=>?_
   |((with_reducible show fA _ _ 271 _ _ _ _);refine aZ (vg x.bE x.aG (by omega) (by omega)) ?_;refine W1 ?_)
   |((with_reducible show fA _ _ 184 _ _ _ _);refine aZ (P7 x.bE) ?_;refine W1 ?_)
   |(refine no ?_;rw[pre];grind [gG,je,aY,aA]))
  all_goals
   have hh:(if x.dX=true then iq x.aG x.bE else dec (yE x.bE))=true:=by grind [gG,je,aY,aA]
   refine W3 ?_;refine nK 4 1 [] rfl (by simp) ?_;refine oC (st':=[.box (x.enc.map .d),.tok 1 []]::S) [1,4,5] [.c (.ptr (0,0) 0),.c (.bN (0,1) []),.c (.d (.i .i64 0))] ?_ ?_ ?_
   ·rfl
   ·first|(refine W1 ?_;done)|(refine W1 ?_;simp[*])
   ·exact tail.out hh
 refine⟨fun hh=> ?_⟩;rw[hh,Bool.true_and] at pre;clear p2 p3 p1 hh no
 have ai8:∀i,∀hi:i<x.aI.length,nu x.aI[i]=false->V.c (.d (.b false))=V.c (.d (.b (fD x))):=fun i hi h=>bad (Bool.eq_false_iff.2 fun hx=>by
  rw[List.all_eq_true.1 hx _ (List.getElem_mem hi)] at h;cases h)
 refine aU (ι:=Nat×List (List UInt8)) zmx rfl [1,4,5] (fun y=>[.c (.ptr (0,0) 0),.c (.bN (0,1) (y.2.map encS)),.c (.d (.i .i64 y.1))]) (fun y=>[.box (x.enc.map .d),.tok 1 (y.2.map encS)]::S)
  (fun y=>y.1<=x.aI.length/\y.2=(mR x).take y.1/\∀j,∀hj:j<x.aI.length,j<y.1->nu x.aI[j]=true) (fun y=>x.aI.length-y.1) (0,[]) rfl ?_ ⟨Nat.zero_le _,rfl,fun j _ h=>by simp only at h;omega⟩ ?_
 ·exact Z1
 rintro⟨i,names⟩ ⟨p1,p2,p3⟩;simp only at p1 p2 p3
 have pl:names.length<=x.aI.length:=by rw[p2];simp[mR];omega
 refine W1 ?_;refine S0 (fun hb h=>?_) fun hb h=>?_
 ·have hi:i<x.aI.length:=by omega
  have hm:=hM _ (List.getElem_mem hi);have hms:=bA.sum x.aI[i]
  have hmv:∀s∈x.aI[i].aG,s.length<=4194304:=fun s h=>by have:=tq h;omega
  refine W3 ?_;refine S0 (fun hb h=>?_) fun hb h=>?_
  ·exact ai8 i hi (by unfold nu;rw[aA (by omega)];rfl)
  refine W3 ?_;refine C2 (ng x.aI[i].aG 5 (by omega) hmv) ?_;refine S0 (fun hb h=>?_) fun hb h=>?_
  ·refine ai8 i hi ?_;unfold nu nQ
   have:(dec (x.aI[i].aG.length<=5)&&iP x.aI[i].aG)=false:=by
    rw[<-h];congr 1;exact iB ⟨fun h=>by omega,fun h=>by omega⟩
   rw[<-Bool.and_assoc (dec (x.aI[i].aG.length<=5)),this];simp
  have k1:=h;rw[Bool.and_eq_true] at k1;have k4:=gG k1.1;refine W3 ?_;refine C2 (IC x.aI[i].aG x.aI[i].fBody (by omega) (by omega)) ?_;refine S0 (fun hb h=>?_) fun hb h=>?_
  ·exact ai8 i hi (by unfold nu nQ;rw[h];simp)
  have k2:=h
  have k3:nu x.aI[i]=true:=by unfold nu nQ;rw[k2,k1.2,aY (by omega),aY (by omega)];rfl
  refine W3 ?_;rw[show List.map encS names++[[D.s x.aI[i].fName]]=List.map encS (names++[x.aI[i].fName]) by simp[encS]]
  exact bZ 2 (by decide) (i+1,names++[x.aI[i].fName]) (by simp only;omega) rfl rfl rfl rfl ⟨by simp only;omega,by simp only;rw[p2,iV (by simpa [mR] using hi)];simp[mR],fun j hj hji=>by
   simp only at hji;by_cases e:j=i
   ·subst e;exact k3
   ·exact p3 j hj (by omega)⟩
 have hi:i=x.aI.length:=by omega
 have hn:names=mR x:=by rw[p2,List.take_of_length_le (by simp[mR];omega)]
 have hall:x.aI.all nu=true:=List.all_eq_true.2 fun c hc=>by
  obtain⟨j,hj,e⟩:=List.getElem_of_mem hc;rw[<-e];exact p3 j hj (by omega)
 have hnl:∀s∈names,s.length<=4194304:=fun s hm=>by
  rw[hn] at hm;obtain⟨g,hg,e⟩:=List.mem_map.1 hm;have:=hM g hg;have:=bA.sum g;rw[<-e];omega
 have hlen:names.length=x.aI.length:=by rw[hn];simp[mR]
 refine C2 (ng names 6 (by omega) hnl) ?_;refine ay ?_;unfold fD;rw[pre,hall,hn,Bool.true_and];congr 1;rw[<-hn,hlen];exact iB ⟨fun h=>by omega,fun h=>by omega⟩
end Go.Ab