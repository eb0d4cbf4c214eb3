/-
  SEVERAL TEXTS IN ONE (merged by program): contracts and models, each with its own heading.
-/
import Derived.Test.YtokkjobjffhfjaaGreatDoorPartZfbD
import Derived.Lib.ItoaNum
import Derived.Lib.Atoi
import Derived.Shelf.LaysM
import Derived.Shelf.Strconv.Itoa3
import Derived.Test.YtokkjobjffhfjaaGreatDoorProg
import Derived.Shelf.Strconv.Atoi
import Derived.Shelf.LaysC
import Derived.Shelf.Strconv.AtoiErr
import Derived.Shelf.Strconv.ErrVar
import Derived.Lib.AppendIntMem
import Derived.Lib.AtoiBound
import Derived.WalkKit
import Derived.ProofKit
import Derived.Lib.AppendZeros
import Derived.Laws.Cover3
set_option linter.unusedSimpArgs false
set_option linter.unusedVariables false
set_option maxRecDepth 4000
namespace Go.Ab
def dN(s:List UInt8)(r:RS):List C:=[.d (.s s),.d (.i .i64 (s.length-r.t.length:Nat)),.d (.i .i64 r.deep),.d (.i .i64 r.size),.d (.b r.bad)]
theorem wN{s u:List UInt8}{b:UInt8}(h:b::u <:+ s):s.length-(b::u).length<s.length∧s.getD (s.length-(b::u).length) 0=b∧s.length-(b::u).length+1=s.length-u.length:=by
 obtain⟨p,rfl⟩:=h
 have e:(p++b::u).length-(b::u).length=p.length:=by simp
 rw[e]
 refine⟨by simp,by simp[List.getD],by simp;omega⟩
theorem ZT{s t a c:List UInt8}(h:t <:+ s)(e:t=a++c):(s.take (s.length-c.length)).drop (s.length-t.length)=a:=by
 obtain⟨p,rfl⟩:=h
 subst e
 have e1:(p++(a++c)).length-c.length=(p++a).length:=by simp;omega
 have e2:(p++(a++c)).length-(a++c).length=p.length:=by simp
 rw[e1,e2,←List.append_assoc,List.take_left,List.drop_left]
theorem G7{s t:List UInt8}(h:t <:+ s):dD t <:+ s:=(sS t).trans h
theorem bD.of_le{P:Program}{f:FuncId}{args:List V}{t:V}{S S1:Store}(h:bD P f args S fun r S'=>Less r t∧S'=S1):bD P f args S fun r S'=>r=t∧S'=S1:=
 ⟨h.1,fun w σ β vs hS hv=>(h.2 w σ β vs hS hv).mono fun e w' ⟨v,r,S',σ',β',h1,h2,h3,h4,h5,h6,h7⟩=>⟨v,t,S',σ',β',h1,h2,h3,h4,h6 _ _ _ _ _ h5,rfl,h7⟩⟩
theorem Az:Less (.agg [.d (.s []),.aY []]) gq.v:=dH.less (.cons (.refl _) (.cons (gN _) .nil))
theorem QG{b c:UInt8}(h:(b.toNat:Int)=c.toNat):b=c:=UInt8.toNat_inj.1 (by omega)
end Go.Ab
namespace Go.Proofs.YtokkjobjffhfjaaGreatDoor
open Go Go.Ab
theorem CJ(s:List UInt8)(hs:s.length≤1073741824)(r:RS)(ht:r.t <:+ s)(l j:Nat)(S:Store)(hk:aJ S (l,j)=some (.box (dN s r))):
 bD Tryz.prog 59 [.c (.ptr (l,j) 0)] S (fun v S'=>v=.dw []∧S'=aP S (l,j) (.box (dN s ⟨dD r.t,r.deep,r.size,r.bad⟩))):=by
 have g:∀x:Ab.Obj,aJ (aP S (l,j) x) (l,j)=some x:=fun x=>bT _ _ _ _ hk
 refine aB (rs:=[]) Tryz.checked.mixed Tryz.func59 Tryz.ntmps59 rfl rfl rfl rfl rfl ?_
 refine W1 ?_
 refine aW (ι:=List UInt8) Tryz.checked.mixed rfl [0] (fun _=>[.c (.ptr (1+l,j) 0)]) (fun t=>[]::aP S (l,j) (.box (dN s ⟨t,r.deep,r.size,r.bad⟩)))
  (fun t=>t <:+ s∧dD t=dD r.t) (fun t=>t.length) r.t rfl (congrArg (fun z=>[]::z) (rF S (l,j) hk).symm) ⟨ht,rfl⟩ ?_
 rintro t ⟨p1,p2⟩
 have pl:=p1.length_le
 rw[←p2]
 cases t with
 |nil=>
  have d:decide (((s.length-0:Nat):Int)<s.length)=false:=decide_eq_false (by omega)
  simp -implicitDefEqProofs (disch:=omega) only[go_sem,g,aV,bI,aL,dN,d]
  rfl
 |cons b u=>
  obtain⟨q1,q2,q3⟩:=wN p1
  rw[List.length_cons] at q1 q2 q3
  simp -implicitDefEqProofs (disch:=omega) only[go_sem,g,aV,bI,aL,dN]
  generalize hA:s.length-(u.length+1)=a at q1 q2 q3 ⊢
  have d:decide ((a:Int)<s.length)=true:=decide_eq_true (by omega)
  simp -implicitDefEqProofs (disch:=omega) only[go_sem,d,q2,g,aV,bI,aL,dN]
  refine W3 ?_
  have eI:((s.length-u.length:Nat):Int)=(a:Int)+1:=by omega
  have blank:iF b=true→[]::aP S (l,j) (.box [.d (.s s),.d (.i .i64 ((a:Int)+1)),.d (.i .i64 r.deep),.d (.i .i64 r.size),.d (.b r.bad)])=[]::aP S (l,j) (.box (dN s ⟨u,r.deep,r.size,r.bad⟩))∧u <:+ s∧dD u=dD (b::u):=fun hb=>
   ⟨by simp only[dN];rw[eI],(List.suffix_cons b u).trans p1,(Ai hb).symm⟩
  with_reducible refine dP (fun hb=> ?_) (fun hb=> ?_)<;>have h:=hb<;>(try simp only[wf_preprocess] at h)<;>simp -implicitDefEqProofs (disch:=omega) only[go_sem,hb,g,aV,bI,aL,dN]<;>refine W3 ?_
  ·obtain⟨x1,x2⟩:=blank (by unfold iF;simp only[Bool.or_eq_true,decide_eq_true_eq];omega)
   exact bK u (by simp) rfl x1 x2
  have hn:=h
  simp only[q2]
  with_reducible refine dP (fun hb=> ?_) (fun hb=> ?_)<;>have h:=hb<;>(try simp only[wf_preprocess] at h)<;>simp -implicitDefEqProofs (disch:=omega) only[go_sem,hb,g,aV,bI,aL,dN]<;>refine W3 ?_
  ·obtain⟨x1,x2⟩:=blank (by unfold iF;simp only[Bool.or_eq_true,decide_eq_true_eq];omega)
   exact bK u (by simp) rfl x1 x2
  ·have hb:iF b=false:=by
    cases e:iF b with
    |false=>rfl
    |true=>unfold iF at e;simp only[Bool.or_eq_true,decide_eq_true_eq] at e;omega
   rw[qg hb,List.length_cons,hA]
set_option maxHeartbeats 2000000 in
theorem TN(s:List UInt8)(hs:s.length≤1048576):∀(n:Nat) (r:RS),r.t <:+ s→r.bad=false→r.deep≤14→r.size≤900→2*r.t.length+1≤n→∀(l j:Nat) (S:Store),aJ S (l,j)=some (.box (dN s r))→
 bD Tryz.prog 58 [.c (.ptr (l,j) 0)] S (fun v S'=>v=(iA n r).1.v∧S'=aP S (l,j) (.box (dN s (iA n r).2))):=by
 intro n
 induction n using Nat.strongRecOn with
 |_ n ih=>
 intro r ht hbad hd hz hn l j S hk
 cases n with
 |zero=>omega
 |succ n=>
 refine bD.of_le ?_
 have g:∀x:Ab.Obj,aJ (aP S (l,j) x) (l,j)=some x:=fun x=>bT _ _ _ _ hk
 have hsk:=G7 ht
 have hsl:=vv r.t
 obtain⟨y,hy⟩:∃y,y=iA (n+1) r:=⟨_,rfl⟩
 rw[←hy]
 rw[iA] at hy
 obtain⟨rt,rd,rz,rb⟩:=r
 simp only at *
 subst hbad
 refine WL [79] (rs:=[.cell 2 54]) Tryz.checked.mixed Tryz.func58 Tryz.ntmps58 rfl rfl rfl rfl rfl ?_
 refine W1 ?_
 refine bG rfl (CJ s (by omega) _ ht (1+l) j _ (by rw[aV];exact hk)) ?_
 simp -implicitDefEqProofs (disch:=omega) only[go_sem,g,aV,bI,aL,dN]
 cases e:dD rt with
 |nil=>
  rw[e] at hy
  simp only at hy
  have d:decide ((s.length:Int)≤((s.length-0:Nat):Int))=true:=decide_eq_true (by omega)
  simp -implicitDefEqProofs (disch:=omega) only[go_sem,d,g,aV,bI,aL,dN]
  refine⟨by rfl,?_⟩
  simp -implicitDefEqProofs (disch:=omega) only[go_sem,g,aV,bI,aL,dN]
  subst hy
  exact⟨Az,rfl⟩
 |cons b u=>
  rw[e] at hy hsk hsl
  simp only at hy
  obtain⟨q1,q2,q3⟩:=wN hsk
  rw[List.length_cons] at q1 q2 q3 hsl
  simp -implicitDefEqProofs (disch:=omega) only[go_sem,g,aV,bI,aL,dN]
  generalize hA:s.length-(u.length+1)=a at q1 q2 q3 ⊢
  have d:decide ((s.length:Int)≤(a:Int))=false:=decide_eq_false (by omega)
  simp -implicitDefEqProofs (disch:=omega) only[go_sem,d,g,aV,bI,aL,dN]
  refine⟨by rfl,?_⟩
  simp -implicitDefEqProofs (disch:=omega) only[go_sem,g,aV,bI,aL,dN]
  with_reducible refine dP (fun hb=> ?_) (fun hb=> ?_)<;>have h:=hb<;>(try simp only[wf_preprocess] at h)<;>simp -implicitDefEqProofs (disch:=omega) only[go_sem,hb,g,aV,bI,aL,dN]<;>refine W3 ?_
  ·rw[if_pos (by omega)] at hy
   subst hy
   refine⟨Az,?_⟩
   rw[←hA]
   simp only[dN]
   rfl
  have hsz:¬900<rz+1:=by omega
  rw[if_neg hsz] at hy
  clear h hb
  obtain⟨z,hzd⟩:∃z,z=(b::u).dropWhile aO:=⟨_,rfl⟩
  refine ND [79] Tryz.checked.mixed rfl [0,2,3] (ι:=List UInt8) (fun _=>[.c (.ptr (1+l,j) 0),.c (.ptr (0,0) 0),.c (.d (.i .i64 a))])
   (fun t=>[.box [.d (.s []),.aY []]]::aP S (l,j) (.box (dN s ⟨t,rd,rz+1,false⟩)))
   (fun t=>t <:+ b::u∧t.dropWhile aO=z) (fun t=>t.length) (b::u) rfl (by rw[←hA];simp only[dN];rfl) ⟨List.suffix_refl _,hzd.symm⟩ ?_
  rintro t ⟨p1,p2⟩
  have p3:=p1.trans hsk
  have p4:=p3.length_le
  have ex:(t=[]∨∃c v,t=c::v∧aO c=false)∨∃c v,t=c::v∧aO c=true:=by
   cases t with
   |nil=>exact .inl (.inl rfl)
   |cons c v=>cases hc:aO c with
    |false=>exact .inl (.inr ⟨c,v,rfl,hc⟩)
    |true=>exact .inr ⟨c,v,rfl,hc⟩
  rcases ex with ex|⟨c,v,rfl,hc⟩
  rotate_left
  ·obtain⟨k1,k2,k3⟩:=wN p3
   rw[List.length_cons] at k1 k2 k3
   simp -implicitDefEqProofs (disch:=omega) only[go_sem,g,aV,bI,aL,dN]
   generalize hB:s.length-(v.length+1)=m at k1 k2 k3 ⊢
   have d1:decide ((m:Int)<s.length)=true:=decide_eq_true (by omega)
   simp -implicitDefEqProofs (disch:=omega) only[go_sem,d1,g,aV,bI,aL,dN]
   refine W3 ?_
   rw[k2]
   refine bH (Cj c) ?_
   rw[hc]
   simp -implicitDefEqProofs (disch:=omega) only[go_sem,g,aV,bI,aL,dN]
   refine⟨by rfl,?_⟩
   simp -implicitDefEqProofs (disch:=omega) only[go_sem,g,aV,bI,aL,dN]
   refine bK v (by simp) rfl ?_ ⟨(List.suffix_cons c v).trans p1,?_⟩
   ·have eI:((s.length-v.length:Nat):Int)=(m:Int)+1:=by omega
    simp only[dN]
    rw[eI]
    first|done|rfl
   ·rw[←p2,List.dropWhile_cons,if_pos hc]
  have hzt:z=t:=by
   rw[←p2]
   rcases ex with rfl|⟨c,v,rfl,hc⟩
   ·rfl
   ·rw[List.dropWhile_cons,if_neg (by rw[hc];decide)]
  subst hzt
  obtain⟨m,hm⟩:∃m,m=s.length-z.length:=⟨_,rfl⟩
  have hyes:aO b=true→(s.take m).drop a=b::u.takeWhile aO∧a<m∧m=s.length-(u.dropWhile aO).length:=fun hab=>by
   have e1:z=u.dropWhile aO:=by rw[hzd,List.dropWhile_cons,if_pos hab]
   have e2:(u.dropWhile aO).length≤u.length:=(List.dropWhile_suffix aO).length_le
   have e3:=ZT (a:=b::u.takeWhile aO) (c:=z) hsk (by rw[e1,List.cons_append,List.takeWhile_append_dropWhile])
   rw[←hm,List.length_cons,hA] at e3
   have e4:=hsk.length_le
   rw[List.length_cons] at e4
   rw[e1] at hm
   exact⟨e3,by omega,hm⟩
  have hno:aO b=false→m=a:=fun hab=>by
   have e1:z=b::u:=by rw[hzd,List.dropWhile_cons,if_neg (by rw[hab];decide)]
   rw[hm,e1,List.length_cons,hA]
  clear p1 p2 p4 hzd
  rcases ex with rfl|⟨c,v,rfl,hc⟩
  rw[List.length_nil] at hm
  have d1:decide ((m:Int)<s.length)=false:=decide_eq_false (by omega)
  simp -implicitDefEqProofs (disch:=omega) only[go_sem,g,aV,bI,aL,dN]
  rw[←hm]
  simp -implicitDefEqProofs (disch:=omega) only[go_sem,d1,g,aV,bI,aL,dN]
  refine⟨by rfl,?_⟩
  simp -implicitDefEqProofs (disch:=omega) only[go_sem,g,aV,bI,aL,dN]
  rotate_left
  obtain⟨k1,k2,k3⟩:=wN p3
  rw[List.length_cons] at k1 k2 k3 hm
  simp -implicitDefEqProofs (disch:=omega) only[go_sem,g,aV,bI,aL,dN]
  rw[←hm] at k1 k2 k3 ⊢
  have d1:decide ((m:Int)<s.length)=true:=decide_eq_true (by omega)
  simp -implicitDefEqProofs (disch:=omega) only[go_sem,d1,g,aV,bI,aL,dN]
  refine W3 ?_
  rw[k2]
  refine bH (Cj c) ?_
  rw[hc]
  simp -implicitDefEqProofs (disch:=omega) only[go_sem,g,aV,bI,aL,dN]
  refine⟨by rfl,?_⟩
  simp -implicitDefEqProofs (disch:=omega) only[go_sem,g,aV,bI,aL,dN]
  all_goals clear p3 hm d1
  all_goals
   cases hab:aO b with
   |true=>
    obtain⟨r1,r2,r3⟩:=hyes hab
    have d2:decide ((a:Int)<(m:Int))=true:=decide_eq_true (by omega)
    rw[if_pos hab] at hy
    simp -implicitDefEqProofs (disch:=omega) only[go_sem,d2,g,aV,bI,aL,dN]
    refine W3 ?_
    refine⟨by rfl,?_⟩
    simp -implicitDefEqProofs (disch:=omega) only[go_sem,g,aV,bI,aL,dN]
    rw[r1]
    subst hy
    refine⟨dH.less (.cons (.refl _) (.cons (gN _) .nil)),?_⟩
    simp only[dN,←r3]
    first|done|rfl
   |false=>
    obtain rfl:=hno hab
    have d2:decide ((m:Int)<(m:Int))=false:=decide_eq_false (by omega)
    rw[if_neg (by rw[hab];decide)] at hy
    clear hyes hno
    simp -implicitDefEqProofs (disch:=omega) only[go_sem,d2,g,aV,bI,aL,dN]
    refine W3 ?_
    simp only[q2]
    have Ja:b≠40∨rd=14→Less (.agg [.d (.s []),.aY []]) y.1.v∧aP S (l,j) (.box [.d (.s s),.d (.i .i64 m),.d (.i .i64 rd),.d (.i .i64 (rz+1:Nat)),.d (.b true)])=aP S (l,j) (.box (dN s y.2)):=fun hq=>by
     rw[if_pos hq] at hy
     subst hy
     refine⟨Az,?_⟩
     rw[←hA]
     simp only[dN]
     rfl
    with_reducible refine dP (fun hb=> ?_) (fun hb=> ?_)<;>have h:=hb<;>(try simp only[wf_preprocess] at h)<;>simp -implicitDefEqProofs (disch:=omega) only[go_sem,hb,g,aV,bI,aL,dN]<;>refine W3 ?_
    ·refine⟨by rfl,?_⟩
     simp -implicitDefEqProofs (disch:=omega) only[go_sem,g,aV,bI,aL,dN]
     exact Ja (.inl fun hq=>h (by rw[hq];rfl))
    have agR:b=40:=QG h
    refine⟨by rfl,?_⟩
    simp -implicitDefEqProofs (disch:=omega) only[go_sem,g,aV,bI,aL,dN]
    with_reducible refine dP (fun hb=> ?_) (fun hb=> ?_)<;>have h:=hb<;>(try simp only[wf_preprocess] at h)<;>simp -implicitDefEqProofs (disch:=omega) only[go_sem,hb,g,aV,bI,aL,dN]<;>refine W3 ?_
    ·exact Ja (.inr (by omega))
    have adD:¬(b≠40∨rd=14):=by rintro(h1|h1);exact h1 agR;omega
    rw[if_neg adD] at hy
    clear Ja d2 d adD hab
    refine J7 1 1 2 _ rfl rfl ?_
    refine ND [79] Tryz.checked.mixed rfl [0,2,4] (ι:=Nat×RS×List ah) (fun _=>[.c (.ptr (1+l,j) 0),.c (.ptr (0,0) 0),.c (.ptr (0,1) 0)])
     (fun x=>[.box [.d (.s []),.aY []],.box [.d (.s []),.bQ (0,2) (x.2.2.map ah.enc)],.tok 2 (x.2.2.map ah.enc)]::aP S (l,j) (.box (dN s x.2.1)))
     (fun x=>kX x.1 x.2.1 x.2.2=y∧x.2.1.t <:+ s∧x.2.1.deep≤14∧x.2.1.size≤901∧(x.2.1.bad=false→1≤x.2.1.deep∧x.2.1.size≤900)∧x.2.2.length≤x.2.1.size∧(x.2.1.bad=true∧1≤x.1∨2*x.2.1.t.length+2≤x.1)∧x.1≤n) (fun x=>x.1)
     (n,⟨u,rd+1,rz+1,false⟩,[]) rfl ?_ ⟨hy.symm,(List.suffix_cons b u).trans hsk,by simp only;omega,by simp only;omega,fun _=>by simp only;omega,by simp only[List.length_nil];omega,.inr (by simp only;omega),Nat.le_refl _⟩ ?_
    ·have eI:((s.length-u.length:Nat):Int)=(m:Int)+1:=by omega
     simp only[dN,eI]
     rfl
    rintro⟨f,⟨t,dp,zz,bd⟩,acc⟩ ⟨p1,p2,p3,p4,p5,p6,p7,p8⟩
    simp only at p1 p2 p3 p4 p5 p6 p7 p8
    simp -implicitDefEqProofs (disch:=omega) only[go_sem,g,aV,bI,aL,dN]
    cases bd with
    |true=>
     simp -implicitDefEqProofs (disch:=omega) only[go_sem,g,aV,bI,aL,dN]
     cases f with
     |zero=>omega
     |succ f=>
      rw[kX,if_pos rfl] at p1
      subst p1
      exact⟨gB _,rfl⟩
    |false=>
     have p5:=p5 rfl
     have p7:=p7.resolve_left fun h=>Bool.noConfusion h.1
     simp -implicitDefEqProofs (disch:=omega) only[go_sem,g,aV,bI,aL,dN]
     refine bG rfl (CJ s (by omega) ⟨t,dp,zz,false⟩ p2 (1+l) j _ (by rw[aV];exact g _)) ?_
     simp -implicitDefEqProofs (disch:=omega) only[go_sem,g,aV,bI,aL,dN]
     cases f with
     |zero=>omega
     |succ f=>
     rw[kX,if_neg Bool.false_ne_true] at p1
     have k1:=G7 p2
     have k0:=k1
     have k2:=vv t
     have k3:=k2
     have k4:=k1.length_le
     obtain⟨q,hq⟩:∃q,q=iA f ⟨dD t,dp,zz,false⟩:=⟨_,rfl⟩
     have hcall:=ih f (by omega) ⟨dD t,dp,zz,false⟩ k1 rfl p3 p5.2 (by simp only;omega)
     have adE:=(IX f).1 ⟨dD t,dp,zz,false⟩ p3 p5.2
     simp only at p1
     rw[←hq] at hcall adE p1
     obtain⟨o1,o2,o3,o4,o5,o6⟩:=adE
     simp only at o1 o2 o4 o5 o6
     have o7:=o1.length_le
     have ek:(dD t=[]∨∃c v,dD t=c::v∧c≠41)∨∃v,dD t=41::v:=by
      cases dD t with
      |nil=>exact .inl (.inl rfl)
      |cons c v=>by_cases hc:c=41
                 ·subst hc;exact .inr ⟨v,rfl⟩
                 ·exact .inl (.inr ⟨c,v,rfl,hc⟩)
     rcases ek with ek|⟨v,e2⟩
     rotate_left
     ·rw[e2] at k1 k2 p1 ⊢
      obtain⟨w1,w2,w3⟩:=wN k1
      rw[List.length_cons] at w1 w2 w3
      have d1:decide (((s.length-(v.length+1):Nat):Int)<s.length)=true:=decide_eq_true (by omega)
      rw[if_pos (show(41::v).head? =some 41 from rfl)] at p1
      simp -implicitDefEqProofs (disch:=omega) only[go_sem,d1,g,aV,bI,aL,dN]
      refine W3 ?_
      rw[w2]
      refine⟨by rfl,?_⟩
      have d2:decide ((((41:UInt8).toNat:Nat):Int)=41)=true:=by decide
      simp -implicitDefEqProofs (disch:=omega) only[go_sem,d2,g,aV,bI,aL,dN]
      subst p1
      have e3:((s.length-v.length:Nat):Int)=((s.length-(v.length+1):Nat):Int)+1:=by omega
      have e4:((dp-1:Nat):Int)=(dp:Int)-1:=by omega
      refine⟨gB _,?_⟩
      simp only[List.tail_cons,e3,e4]
     have hne:(dD t).head? ≠some 41:=by
      rcases ek with e2|⟨c,v,e2,hc⟩
      ·rw[e2];simp
      ·rw[e2];simpa using hc
     rw[if_neg hne] at p1
     rcases ek with e2|⟨c,v,e2,hc⟩
     have d1:decide (((s.length-0:Nat):Int)<s.length)=false:=decide_eq_false (by omega)
     rw[e2]
     simp -implicitDefEqProofs (disch:=omega) only[go_sem,d1,g,aV,bI,aL,dN]
     refine⟨by rfl,?_⟩
     simp -implicitDefEqProofs (disch:=omega) only[go_sem,g,aV,bI,aL,dN]
     rotate_left
     rw[e2] at k1 k2 ⊢
     obtain⟨w1,w2,w3⟩:=wN k1
     rw[List.length_cons] at w1 w2 w3
     have d1:decide (((s.length-(v.length+1):Nat):Int)<s.length)=true:=decide_eq_true (by omega)
     simp -implicitDefEqProofs (disch:=omega) only[go_sem,d1,g,aV,bI,aL,dN]
     refine W3 ?_
     simp only[w2]
     refine⟨by rfl,?_⟩
     have d2:decide ((c.toNat:Int)=41)=false:=decide_eq_false fun hq=>hc (QG (c:=41) hq)
     simp -implicitDefEqProofs (disch:=omega) only[go_sem,d2,g,aV,bI,aL,dN]
     all_goals
      refine bG rfl (hcall (1+l) j _ (by rw[aV,e2];exact g _)) ?_
      simp -implicitDefEqProofs (disch:=omega) only[go_sem,g,aV,bI,aL,dN]
      refine W3 ?_
      refine⟨by cases l<;>rfl,?_⟩
      simp -implicitDefEqProofs (disch:=omega) only[go_sem,g,aV,bI,aL,dN]
      refine bK (f,q.2,acc++[q.1]) (by simp) rfl ?_ ⟨p1,o1.trans k0,o3,o4.2,fun hq=>⟨by simp only;rw[o2 hq];exact p5.1,(o6 hq).2⟩,?_,?_,by simp only;omega⟩
      ·simp only[List.map_append,List.map_cons,List.map_nil,ah.aC,dN]
      ·simp only[List.length_append,List.length_cons,List.length_nil];omega
      ·cases hqb:q.2.bad with
       |true=>exact .inl ⟨rfl,by simp only;omega⟩
       |false=>
        have:=(o6 hqb).1
        exact .inr (by simp only;omega)
theorem KO(s:List UInt8)(hs:s.length≤1048576):aD Tryz.prog 21 [.c (.d (.s s))] (.dw [(true,(gu s).enc.map .d),(false,[.d (.b (iw s))])]):=aD.of_le fun S=>by
 obtain⟨n,hn,hok,hx⟩:=MW s
 obtain⟨q,hq⟩:∃q,q=iA n ⟨s,0,0,false⟩:=⟨_,rfl⟩
 have hr:=(IX n).1 ⟨s,0,0,false⟩ (by simp only;omega) (by simp only;omega)
 have hc:=TN s hs n ⟨s,0,0,false⟩ (List.suffix_refl _) rfl (by simp only;omega) (by simp only;omega) (by unfold Gg at hn;simp only;omega)
 rw[←hq] at hok hx hr hc
 clear hq hn
 obtain⟨o1,o2,o3,o4,o5,o6⟩:=hr
 simp only at o1 o2 o4 o5 o6
 have oo:iw s=false→Less (.dw [(true,[.d (.s []),.aY []]),(false,[.d (.b false)])]) (.dw [(true,[.d (.s (gu s).aI),.d (.sl ((gu s).au.map ah.enc))]),(false,[.d (.b (iw s))])]):=fun e=>by
  have e2:gu s=gq:=by
   unfold gu
   rw[dif_neg (lN e)]
  rw[e,e2]
  exact(jw.cons (.cons (.refl _) (.cons (gN _) .nil)) (.refl _)).less
 have hsl:=vv q.2.t
 have hsz:q.1.sz≤67108864:=by omega
 refine aB (rs:=[.cell 2 54,.tmp 3]) Tryz.checked.mixed Tryz.func21 Tryz.ntmps21 rfl rfl rfl rfl rfl ?_
 refine W1 ?_
 refine bG rfl (hc 0 1 _ (by simp[aJ,dN])) ?_
 simp -implicitDefEqProofs (disch:=omega) only[go_sem,dN]
 refine bG rfl (CJ s (by omega) q.2 o1 0 1 _ rfl) ?_
 simp -implicitDefEqProofs (disch:=omega) only[go_sem,dN]
 cases hqb:q.2.bad with
 |true=>
  refine W1 ?_
  exact oo (by rw[←hok];exact aN fun h=>by rw[hqb] at h;cases h.1)
 |false=>
  refine W1 ?_
  refine S0 (fun hb h=>?_) fun hb h=>?_
  ·refine oo ?_
   rw[←hok]
   refine aN fun hq=> ?_
   rw[hq.2.1] at h
   exact h (by simp)
  have hnil:dD q.2.t=[]:=List.eq_nil_of_length_eq_zero (by have:=o1.length_le;omega)
  refine C1 (Bd q.1 hsz) ?_
  refine S0 (fun hb h=>?_) fun hb h=>?_
  ·refine oo ?_
   rw[←hok]
   refine aN fun hq=> ?_
   rw[hq.2.2] at h;cases h
  ·have hy:iw s=true:=by rw[←hok];exact cK ⟨hqb,hnil,h⟩
   rw[hy,←hx hy]
   exact gB _
end Go.Proofs.YtokkjobjffhfjaaGreatDoor
namespace Go.Ab
section
variable {P:Program} {N:Nat} {S:Store} {s:St} {tm:List (Nat×V)}
end
end Go.Ab
namespace Go.Ab
theorem TP{P:Program}{N:Nat}(n:Nat){f:FuncId}{fn:Func}{c:Code}{args:List V}{bn:List Obj}{Ω:Store}{post:V→Store→Prop}{rs:List ResultVar}(fD:P.follows .mixedOrders=true)(hf:P.funcs[f]? =some fn)(hN:fn.ntmps=N)
 (hb:fn.body=some c) (hn:(fn.name== "runtime.NumGoroutine")=false) (hr:fn.results.toList=rs) (hl:Nat.ble args.length N=true) (hok:codeOk N c=true)
 (h:CW P N c (M9 P rs post) ⟨l9 (args.map (V.up 1)) 0,[.seed n]::bn::Ω⟩):bD P f args (bn::Ω) post:=by
 subst hN
 subst hr
 exact JR hf hb hn (Nat.le_of_ble_eq_true hl) (IC n (ji fD c _ _ hok h))
theorem ZU{P:Program}{N:Nat}{c:Code}{Q:Exit→St→Prop}{tm:List (Nat×V)}{Ω:Store}(n k:Nat)(h:AW P N c Q ⟨tm,[.seed n,.seed k]::Ω⟩):AW P N c Q ⟨tm,[]::Ω⟩:=by
 refine IC n (kR h fun a w σ β hR=> ?_)
 obtain⟨bo,bΩ,rfl,hlen⟩:=frames hR
 obtain⟨hS',hk,hst⟩:=hR.S.push (o:=.seed k) (h:=undef) (Grow.refl hR.S.live) hlen trivial (fun b hb=>by cases hb)
 exact⟨σ,_,⟨hR.size,hR.defers,hS',fun u=>(hR.T u).mono (bR.refl _ _) hk⟩,hst,Keep.refl _ _⟩
section
variable {P:Program} {N:Nat} {S:Store}
theorem TQ(n k:Nat){f:FuncId}{fn:Func}{c:Code}{args:List V}{post:V→Store→Prop}{rs:List ResultVar}(fD:P.follows .mixedOrders=true)(hf:P.funcs[f]? =some fn)(hN:fn.ntmps=N)
 (hb:fn.body=some c) (hn:(fn.name== "runtime.NumGoroutine")=false) (hr:fn.results.toList=rs) (hl:Nat.ble args.length N=true) (hok:codeOk N c=true)
 (h:CW P N c (Tq P n rs post) ⟨l9 (args.map (V.up 1)) 0,[.seed n,.seed k]::S⟩):bD P f args S post:=by
 subst hN
 subst hr
 exact uF hf hb hn (Nat.le_of_ble_eq_true hl) (ZU n k (FW (Cx n) (ji fD c _ _ hok h)))
end
end Go.Ab
namespace Go.Ab
def AA(n:Nat)(out:List UInt8):List UInt8:=if h:n=0 then out else AA (n/10) (UInt8.ofNat (48+n % 10)::out)
termination_by n
decreasing_by omega
def jW(k:Int):List UInt8:=if k≤0 then [109,48] else 109::AA k.toNat []
theorem WM{out:List UInt8}:AA 0 out=out:=by rw[AA];simp
theorem ZV{n:Nat}{out:List UInt8}(h:n≠0):AA n out=AA (n/10) (UInt8.ofNat (48+n % 10)::out):=by rw[AA];simp[h]
mutual
def nL:D→Nat
 | .sl es=>ay es
 | .b _=>1
 | .i _ _=>1
 | .s _=>1
 | .o _=>0
 | .ol _ _=>0
def nM:List D→Nat
 |[]=>0
 |d::ds=>nL d+nM ds
def ay:List (List D)→Nat
 |[]=>0
 |r::rs=>nM r+ay rs
end
mutual
def G8:D→Int→D
 | .sl es,k=>.sl (dB es k)
 | .b _,k=>.b (decide (k.tmod 3=0))
 | .i kd _,k=>.i kd k
 | .s _,k=>.s (jW k)
 | .o v,_=>.o v
 | .ol n es,_=>.ol n es
def qJ:List D→Int→List D
 |[],_=>[]
 |d::ds,k=>G8 d k::qJ ds (k+nL d)
def dB:List (List D)→Int→List (List D)
 |[],_=>[]
 |r::rs,k=>qJ r k::dB rs (k+nM r)
end
mutual
def rQ:D→Bool
 | .sl es=>iY es
 | .b _=>true
 | .i _ _=>true
 | .s _=>true
 | .o _=>true
 | .ol _ _=>true
def iL:List D→Bool
 |[]=>true
 |d::ds=>rQ d&&iL ds
def iY:List (List D)→Bool
 |[]=>true
 |r::rs=>decide (r.length≤32)&&iL r&&iY rs
end
mutual
theorem afs:∀d:D,rQ d=true→nL d≤32*d.sz+1
 | .sl es,h=>by
   have:=WO es (by simpa [rQ] using h)
   simp only[nL,D.sz];omega
 | .b _,_=>by simp[nL]
 | .i _ _,_=>by simp[nL]
 | .s _,_=>by simp[nL]
 | .o _,_=>by simp[nL]
 | .ol _ _,_=>by simp[nL]
theorem NG:∀r:List D,iL r=true→nM r≤32*bS r+r.length
 |[],_=>by simp[nM]
 |d::ds,h=>by
  rw[iL,Bool.and_eq_true] at h
  have h1:=afs d h.1
  have h2:=NG ds h.2
  simp only[nM,bS,List.length_cons];omega
theorem WO:∀rs:List (List D),iY rs=true→ay rs≤32*(rs.length+dz rs)
 |[],_=>by simp[ay]
 |r::rs,h=>by
  rw[iY,Bool.and_eq_true,Bool.and_eq_true,decide_eq_true_eq] at h
  have h1:=NG r h.1.2
  have h2:=WO rs h.2
  simp only[ay,dz,List.length_cons];omega
end
theorem fC:∀a b,iL (a++b)=(iL a&&iL b)
 |[],b=>by simp[iL]
 |d::ds,b=>by rw[List.cons_append,iL,iL,fC ds b,Bool.and_assoc]
theorem jm{α:Type}{f:α→List D}:∀{xs:List α},(∀x∈xs,iL (f x)=true∧(f x).length≤32)→iY (xs.map f)=true
 |[],_=>rfl
 |x::xs,h=>by
  rw[List.map_cons,iY,(h x (by simp)).1,jm fun y hy=>h y (by simp[hy]),decide_eq_true (h x (by simp)).2];rfl
theorem yV:∀a b,ay (a++b)=ay a+ay b
 |[],b=>by simp[ay]
 |d::ds,b=>by rw[List.cons_append,ay,ay,yV ds b];omega
theorem Ep:∀a b k,dB (a++b) k=dB a k++dB b (k+ay a)
 |[],b,k=>by simp[dB,ay]
 |d::ds,b,k=>by rw[List.cons_append,dB,dB,Ep ds b,ay];simp only[List.cons_append,Int.natCast_add,Int.add_assoc]
theorem bJ:∀rs k,(dB rs k).length=rs.length
 |[],_=>rfl
 |r::rs,k=>by rw[dB,List.length_cons,bJ rs,List.length_cons]
theorem NH{rows:List (List D)}{i:Nat}(hi:i<rows.length):rows.take (i+1)=rows.take i++[rows[i]]:=List.take_succ_eq_append_getElem hi
theorem nN{rows:List (List D)}{i:Nat}(hi:i<rows.length):ay (rows.take (i+1))=ay (rows.take i)+nM rows[i]:=by
 rw[NH hi,yV];simp[ay]
theorem rR{rows:List (List D)}{i:Nat}:ay (rows.take i)≤ay rows:=by
 have:=yV (rows.take i) (rows.drop i)
 rw[List.take_append_drop] at this
 omega
def oq(rows:List (List D))(k:Int)(i:Nat):List (List D):=dB (rows.take i) k++rows.drop i
theorem yI{rows:List (List D)}{k:Int}:oq rows k 0=rows:=by simp[oq,dB]
theorem AB{rows:List (List D)}{k:Int}{i:Nat}(h:rows.length≤i):oq rows k i=dB rows k:=by
 unfold oq;rw[List.take_of_length_le h,List.drop_of_length_le h,List.append_nil]
theorem lD{rows:List (List D)}{k:Int}{i:Nat}:(oq rows k i).length=rows.length:=by
 unfold oq;rw[List.length_append,bJ,List.length_take,List.length_drop];omega
theorem ZW{rows:List (List D)}{k:Int}{i:Nat}(hi:i<rows.length):(oq rows k i).getD i []=rows[i]:=by
 unfold oq
 rw[List.getD_eq_getElem?_getD,List.getElem?_append_right (by rw[bJ,List.length_take];omega),bJ,List.length_take,List.getElem?_drop]
 rw[show i+(i-min i rows.length)=i by omega,List.getElem?_eq_getElem hi];rfl
theorem ZX{rows:List (List D)}{k:Int}{i:Nat}(hi:i<rows.length):(oq rows k i).set i (qJ rows[i] (k+ay (rows.take i)))=oq rows k (i+1):=by
 unfold oq
 have hl:(dB (rows.take i) k).length=i:=by rw[bJ,List.length_take];omega
 rw[List.set_append_right _ _ (by omega),hl,Nat.sub_self,List.drop_eq_getElem_cons hi,List.set_cons_zero,NH hi,Ep,List.append_assoc]
 rfl
def kT(rows:List (List D))(k:Int)(i:Nat)(row:List D):List (List D):=(oq rows k i).set i row
theorem dQ{rows:List (List D)}{k:Int}{i:Nat}{row:List D}:(kT rows k i row).length=rows.length:=by unfold kT;rw[List.length_set,lD]
theorem xR{rows:List (List D)}{k:Int}{i:Nat}{row:List D}(hi:i<rows.length):(kT rows k i row).getD i []=row:=by
 unfold kT
 rw[List.getD_eq_getElem?_getD,List.getElem?_set_self (by rw[lD];exact hi)];rfl
theorem rT{rows:List (List D)}{k:Int}{i o:Nat}{row:List D}(hi:i<rows.length):cellAt (kT rows k i row) i o=row[o]? :=by
 unfold kT cellAt
 rw[List.getElem?_set_self (by rw[lD];exact hi),Option.bind_some]
theorem fJ{rows:List (List D)}{k:Int}{i:Nat}{row row':List D}:(kT rows k i row).set i row'=kT rows k i row':=by unfold kT;rw[List.set_set]
theorem DL{rows:List (List D)}{k:Int}{i:Nat}(hi:i<rows.length):oq rows k i=kT rows k i rows[i]:=by
 have h:=ZW (k:=k) hi
 have hl:i<(oq rows k i).length:=by rw[lD];exact hi
 rw[List.getD_eq_getElem?_getD,List.getElem?_eq_getElem hl,Option.getD_some] at h
 unfold kT
 rw[←h,List.set_getElem_self]
theorem DN{rows:List (List D)}{k:Int}{i:Nat}(hi:i<rows.length):kT rows k i (qJ rows[i] (k+ay (rows.take i)))=oq rows k (i+1):=ZX hi
theorem abQ{rs:List (List (List D))}{r:Nat}{p:List (Nat×Nat)}{rows es:List (List D)}{k:Int}{i o:Nat}{row:List D}(hp:atR rs r p=some rows)(hi:i<rows.length)(h:row[o]? =some (.sl es)):
 atR (dU rs r p (kT rows k i row)) r (p++[(i,o)])=some es:=om (uo hp) (by rw[rT hi,h])
theorem ZY{rs:List (List (List D))}{r:Nat}{p:List (Nat×Nat)}{rows es new:List (List D)}{k:Int}{i o:Nat}{row:List D}(hp:atR rs r p=some rows)(hi:i<rows.length)(h:row[o]? =some (.sl es)):
 dU (dU rs r p (kT rows k i row)) r (p++[(i,o)]) new=dU rs r p (kT rows k i (row.set o (.sl new))):=by
 rw[WA (uo hp) (by rw[rT hi,h]),vE hp,xR hi,fJ]
theorem ou:∀{rows:List (List D)} {k:Int} {i:Nat} (hi:i<rows.length),(dB rows k).getD i []=qJ rows[i] (k+ay (rows.take i))
 |r::rows,k,0,_=>by simp[dB,ay]
 |r::rows,k,i+1,hi=>by
  have:=ou (rows:=rows) (k:=k+nM r) (i:=i) (by simpa using hi)
  rw[dB,List.getD_cons_succ,this,List.getElem_cons_succ,List.take_succ_cons,ay,Int.natCast_add,Int.add_assoc]
theorem sZ{α:Type}{f:α→List D}(h:∀x,1≤nM (f x)):∀xs:List α,xs.length≤ay (xs.map f)
 |[]=>Nat.zero_le _
 |x::xs=>by
  have h1:=h x
  have h2:=sZ h xs
  rw[List.map_cons,ay,List.length_cons]
  omega
theorem vG{P:Program}{f:FuncId}{S:Store}{l j r i o:Nat}{p:List (Nat×Nat)}{rs:List (List (List D))}{rows es new:List (List D)}{row:List D}{k:Int}{args:List V}{R:V}
 (hS:aJ S (l,j)=some (.xf rs)) (hp:atR rs r p=some rows) (hi:i<rows.length) (h:row[o]? =some (.sl es))
 (hA:∀(S':Store) (rs':List (List (List D))),aJ S' (1+l,j)=some (.xf rs')→atR rs' r (p++[(i,o)])=some es→bD P f args S' (fun res AU=>res=R∧AU=aP S' (1+l,j) (.xf (dU rs' r (p++[(i,o)]) new)))):
 bD P f args ([]::aP S (l,j) (.xf (dU rs r p (kT rows k i row)))) (fun res AU=>res=R∧AU=[]::aP S (l,j) (.xf (dU rs r p (kT rows k i (row.set o (.sl new)))))):=by
 refine(hA _ _ (by rw[aV];exact bT _ _ _ _ hS) (abQ (k:=k) hp hi h)).mono fun res AU ⟨h1,h2⟩=>⟨h1,?_⟩
 rw[h2,bI,aL,ZY hp hi h]
theorem kP{a:Int}(h:0≤a):decide (a<0)=false:=decide_eq_false (by omega)
end Go.Ab
namespace Go.Proofs.YtokkjobjffhfjaaGreatDoor
open Go Go.Ab
theorem eP(k:Int)(hk: -9223372036854775808≤k∧k≤4611686018427387904):aD Tryz.prog 74 [.c (.d (.i .i64 k))] (.c (.d (.s (jW k)))):=fun S=>by
 refine aB (rs:=[.tmp 2]) Tryz.checked.mixed Tryz.func74 Tryz.ntmps74 rfl rfl rfl rfl rfl ?_
 refine W1 ?_
 refine S0 (fun hb h=>?_) fun hb h=>?_
 ·unfold jW;rw[if_pos h]
 have hpos:¬k≤0:=h
 refine aW (ι:=Int×List UInt8) Tryz.checked.mixed rfl [0,3] (fun y=>[.c (.d (.i .i64 y.1)),.c (.d (.s y.2))]) (fun _=>[]::S)
  (fun y=>0≤y.1∧AA y.1.toNat y.2=AA k.toNat []∧y.1≤k∧y.1.toNat*2^y.2.length≤4611686018427387904∧y.2.length≤63) (fun y=>y.1.toNat) (k,[]) rfl rfl ⟨by simp only;omega,rfl,by simp only;omega,by simp only[List.length_nil];omega,by simp⟩ ?_
 rintro⟨n,out⟩ ⟨p1,p2,p3,p4,p5⟩
 simp only at p1 p2 p3 p4 p5
 refine W1 ?_
 refine S0 (fun hb h=>?_) fun hb h=>?_
 ·have hn:n.toNat≠0:=by omega
  have hm:=Int.tmod_nonneg 10 p1
  have hm2:=Int.tmod_lt_of_pos n (show(0:Int)<10 by omega)
  have hm3:n.tmod 10=(n.toNat % 10:Nat):=by
   rw[Int.tmod_eq_emod_of_nonneg p1]
   omega
  have hq:n.tdiv 10=(n.toNat/10:Nat):=by
   rw[Int.tdiv_eq_ediv_of_nonneg p1]
   omega
  have hlen:out.length≤62:=by
   refine Nat.le_of_not_lt fun hgt=> ?_
   have h1:2^63≤2^out.length:=Nat.pow_le_pow_right (by omega) (by omega)
   have h2:1*2^out.length≤n.toNat*2^out.length:=Nat.mul_le_mul_right _ (by omega)
   omega
  refine W1 ?_
  have hc:UInt8.ofNat (IntKind.u8.wrap (48+n.tmod 10)).toNat=UInt8.ofNat (48+n.toNat % 10):=by
   rw[wrap_u8 _ (by omega),hm3]
   congr 1
  refine bK (ι:=Int×List UInt8) (n.tdiv 10,UInt8.ofNat (48+n.toNat % 10)::out) (by simp only;omega) (by rw[←hc];rfl) rfl ?_
  have hq2:(n.tdiv 10).toNat=n.toNat/10:=by omega
  refine⟨by simp only;omega,?_,by simp only;omega,?_,by simp only[List.length_cons];omega⟩
  ·simp only
   rw[hq2,←ZV hn,p2]
  ·simp only[List.length_cons]
   rw[hq2,Nat.pow_succ]
   have:n.toNat/10*2≤n.toNat:=by omega
   calc n.toNat/10*(2^out.length*2)=n.toNat/10*2*2^out.length:=by rw[Nat.mul_comm (2^out.length) 2,Nat.mul_assoc]
    _≤n.toNat*2^out.length:=Nat.mul_le_mul_right _ this
    _≤_:=p4
 ·have:n.toNat=0:=by omega
  rw[this,WM] at p2
  unfold jW
  rw[if_neg hpos,p2]
end Go.Proofs.YtokkjobjffhfjaaGreatDoor
namespace Go.Ab
theorem rU(xs:List (List UInt8)):iJ (xs.map encS)=true:=jl fun _ _=>rfl
theorem rV(xs:List (List UInt8)):iY (xs.map encS)=true:=jm fun _ _=>⟨rfl,by simp[encS]⟩
theorem NI:∀(xs:List (List UInt8)) (n:Nat),fH (xs.map encS) n=xs.map encS
 |[],_=>rfl
 |x::xs,n=>by rw[List.map_cons,fH,NI xs];rfl
mutual
theorem ak.dY:∀x:ak,iy x.enc=true∧iL x.enc=true
 | .mk a0 a1 a2=>by simp only[ak.enc,iy,nJ,iL,rQ,fB,fC,Bool.and_true,Bool.true_and,Bool.and_self,and_self,and_true,true_and,(ak.lV a2).1,(ak.lV a2).2]
theorem ak.lV:∀xs:List ak,iJ (ak.encs xs)=true∧iY (ak.encs xs)=true
 |[]=>⟨rfl,rfl⟩
 |x::xs=>by
  have h:decide ((ak.enc x).length≤32)=true:=by rw[ak.bA];rfl
  simp only[ak.encs,iJ,iY,h,(ak.dY x).1,(ak.dY x).2,(ak.lV xs).1,(ak.lV xs).2,Bool.and_self,and_self]
end
theorem ak.gy(xs:List ak):iJ (xs.map ak.enc)=true∧iY (xs.map ak.enc)=true:=by rw[←ak.iE];exact ak.lV xs
theorem bP.dY(x:bP):iy x.enc=true∧iL x.enc=true:=by
 rw[bP.aC];simp only[List.cons_append,List.nil_append,iy,nJ,iL,rQ,fB,fC,Bool.and_true,Bool.true_and,Bool.and_self,and_self,and_true,true_and,(ak.dY x.fType).1,(ak.dY x.fType).2]
theorem bP.gy(xs:List bP):iJ (xs.map bP.enc)=true∧iY (xs.map bP.enc)=true:=⟨jl fun x _=>x.dY.1,jm fun x _=>⟨x.dY.2,by rw[bP.bA];decide⟩⟩
theorem dI.dY(x:dI):iy x.enc=true∧iL x.enc=true:=by
 rw[dI.aC];simp only[List.cons_append,List.nil_append,iy,nJ,iL,rQ,fB,fC,Bool.and_true,Bool.true_and,Bool.and_self,and_self,and_true,true_and,(ak.dY x.fType).1,(ak.dY x.fType).2]
theorem dI.gy(xs:List dI):iJ (xs.map dI.enc)=true∧iY (xs.map dI.enc)=true:=⟨jl fun x _=>x.dY.1,jm fun x _=>⟨x.dY.2,by rw[dI.bA];decide⟩⟩
mutual
theorem aj.dY:∀x:aj,iy x.enc=true∧iL x.enc=true
 | .mk a0 a1 a2 a3 a4 a5 a6=>by simp only[aj.enc,iy,nJ,iL,rQ,fB,fC,Bool.and_true,Bool.true_and,Bool.and_self,and_self,and_true,true_and,(ak.dY a4).1,(ak.dY a4).2,(aj.lV a5).1,(aj.lV a5).2,(aA.lV a6).1,(aA.lV a6).2]
theorem aj.lV:∀xs:List aj,iJ (aj.encs xs)=true∧iY (aj.encs xs)=true
 |[]=>⟨rfl,rfl⟩
 |x::xs=>by
  have h:decide ((aj.enc x).length≤32)=true:=by rw[aj.bA];rfl
  simp only[aj.encs,iJ,iY,h,(aj.dY x).1,(aj.dY x).2,(aj.lV xs).1,(aj.lV xs).2,Bool.and_self,and_self]
theorem aA.dY:∀x:aA,iy x.enc=true∧iL x.enc=true
 | .mk a0 a1 a2=>by simp only[aA.enc,iy,nJ,iL,rQ,fB,fC,Bool.and_true,Bool.true_and,Bool.and_self,and_self,and_true,true_and,rU a1,rV a1,(aj.dY a2).1,(aj.dY a2).2]
theorem aA.lV:∀xs:List aA,iJ (aA.encs xs)=true∧iY (aA.encs xs)=true
 |[]=>⟨rfl,rfl⟩
 |x::xs=>by
  have h:decide ((aA.enc x).length≤32)=true:=by rw[aA.bA];rfl
  simp only[aA.encs,iJ,iY,h,(aA.dY x).1,(aA.dY x).2,(aA.lV xs).1,(aA.lV xs).2,Bool.and_self,and_self]
end
theorem aj.gy(xs:List aj):iJ (xs.map aj.enc)=true∧iY (xs.map aj.enc)=true:=by rw[←aj.iE];exact aj.lV xs
theorem aA.gy(xs:List aA):iJ (xs.map aA.enc)=true∧iY (xs.map aA.enc)=true:=by rw[←aA.iE];exact aA.lV xs
mutual
theorem ah.dY:∀x:ah,iy x.enc=true∧iL x.enc=true
 | .mk a0 a1=>by simp only[ah.enc,iy,nJ,iL,rQ,fB,fC,Bool.and_true,Bool.true_and,Bool.and_self,and_self,and_true,true_and,(ah.lV a1).1,(ah.lV a1).2]
theorem ah.lV:∀xs:List ah,iJ (ah.encs xs)=true∧iY (ah.encs xs)=true
 |[]=>⟨rfl,rfl⟩
 |x::xs=>by
  have h:decide ((ah.enc x).length≤32)=true:=by rw[ah.bA];rfl
  simp only[ah.encs,iJ,iY,h,(ah.dY x).1,(ah.dY x).2,(ah.lV xs).1,(ah.lV xs).2,Bool.and_self,and_self]
end
theorem ah.gy(xs:List ah):iJ (xs.map ah.enc)=true∧iY (xs.map ah.enc)=true:=by rw[←ah.iE];exact ah.lV xs
theorem bN.dY(x:bN):iy x.enc=true∧iL x.enc=true:=by
 rw[bN.aC];simp only[List.cons_append,List.nil_append,iy,nJ,iL,rQ,fB,fC,Bool.and_true,Bool.true_and,Bool.and_self,and_self,and_true,true_and,(ak.gy x.jr).1,(ak.gy x.jr).2,(ak.dY x.gU).1,(ak.dY x.gU).2,rU x.aS,rV x.aS,(aj.dY x.fBody).1,(aj.dY x.fBody).2]
theorem bN.gy(xs:List bN):iJ (xs.map bN.enc)=true∧iY (xs.map bN.enc)=true:=⟨jl fun x _=>x.dY.1,jm fun x _=>⟨x.dY.2,by rw[bN.bA];decide⟩⟩
theorem d9.dY(x:d9):iy x.enc=true∧iL x.enc=true:=by
 rw[d9.aC];simp only[List.cons_append,List.nil_append,iy,nJ,iL,rQ,fB,fC,Bool.and_true,Bool.true_and,Bool.and_self,and_self,and_true,true_and,rU x.kE,rV x.kE,(bN.gy x.lq).1,(bN.gy x.lq).2]
theorem d9.gy(xs:List d9):iJ (xs.map d9.enc)=true∧iY (xs.map d9.enc)=true:=⟨jl fun x _=>x.dY.1,jm fun x _=>⟨x.dY.2,by rw[d9.bA];decide⟩⟩
theorem bg.dY(x:bg):iy x.enc=true∧iL x.enc=true:=by
 rw[bg.aC];simp only[List.cons_append,List.nil_append,iy,nJ,iL,rQ,fB,fC,Bool.and_true,Bool.true_and,Bool.and_self,and_self,and_true,true_and,(ak.gy x.nu).1,(ak.gy x.nu).2]
theorem bg.gy(xs:List bg):iJ (xs.map bg.enc)=true∧iY (xs.map bg.enc)=true:=⟨jl fun x _=>x.dY.1,jm fun x _=>⟨x.dY.2,by rw[bg.bA];decide⟩⟩
theorem bO.dY(x:bO):iy x.enc=true∧iL x.enc=true:=by
 rw[bO.aC];simp only[List.cons_append,List.nil_append,iy,nJ,iL,rQ,fB,fC,Bool.and_true,Bool.true_and,Bool.and_self,and_self,and_true,true_and,rU x.aS,rV x.aS,(bg.gy x.je).1,(bg.gy x.je).2]
theorem bO.gy(xs:List bO):iJ (xs.map bO.enc)=true∧iY (xs.map bO.enc)=true:=⟨jl fun x _=>x.dY.1,jm fun x _=>⟨x.dY.2,by rw[bO.bA];decide⟩⟩
theorem dG.dY(x:dG):iy x.enc=true∧iL x.enc=true:=by
 rw[dG.aC];simp only[List.cons_append,List.nil_append,iy,nJ,iL,rQ,fB,fC,Bool.and_true,Bool.true_and,Bool.and_self,and_self,and_true,true_and,rU x.aS,rV x.aS,(aj.dY x.fBody).1,(aj.dY x.fBody).2]
theorem dG.gy(xs:List dG):iJ (xs.map dG.enc)=true∧iY (xs.map dG.enc)=true:=⟨jl fun x _=>x.dY.1,jm fun x _=>⟨x.dY.2,by rw[dG.bA];decide⟩⟩
theorem bU.dY(x:bU):iy x.enc=true∧iL x.enc=true:=by
 rw[bU.aC];simp only[List.cons_append,List.nil_append,iy,nJ,iL,rQ,fB,fC,Bool.and_true,Bool.true_and,Bool.and_self,and_self,and_true,true_and,rU x.aS,rV x.aS,(ak.dY x.uK).1,(ak.dY x.uK).2,(dI.gy x.kG).1,(dI.gy x.kG).2,(ak.dY x.kF).1,(ak.dY x.kF).2,(dG.gy x.p9).1,(dG.gy x.p9).2]
theorem bU.gy(xs:List bU):iJ (xs.map bU.enc)=true∧iY (xs.map bU.enc)=true:=⟨jl fun x _=>x.dY.1,jm fun x _=>⟨x.dY.2,by rw[bU.bA];decide⟩⟩
theorem eu.dY(x:eu):iy x.enc=true∧iL x.enc=true:=by
 rw[eu.aC];simp only[List.cons_append,List.nil_append,iy,nJ,iL,rQ,fB,fC,Bool.and_true,Bool.true_and,Bool.and_self,and_self,and_true,true_and,(ak.dY x.fType).1,(ak.dY x.fType).2]
theorem eu.gy(xs:List eu):iJ (xs.map eu.enc)=true∧iY (xs.map eu.enc)=true:=⟨jl fun x _=>x.dY.1,jm fun x _=>⟨x.dY.2,by rw[eu.bA];decide⟩⟩
theorem bV.dY(x:bV):iy x.enc=true∧iL x.enc=true:=by
 rw[bV.aC];simp only[List.cons_append,List.nil_append,iy,nJ,iL,rQ,fB,fC,Bool.and_true,Bool.true_and,Bool.and_self,and_self,and_true,true_and,rU x.aS,rV x.aS,(dI.gy x.kG).1,(dI.gy x.kG).2,(eu.gy x.jr).1,(eu.gy x.jr).2,(ak.dY x.gU).1,(ak.dY x.gU).2,(aj.dY x.fBody).1,(aj.dY x.fBody).2]
theorem bV.gy(xs:List bV):iJ (xs.map bV.enc)=true∧iY (xs.map bV.enc)=true:=⟨jl fun x _=>x.dY.1,jm fun x _=>⟨x.dY.2,by rw[bV.bA];decide⟩⟩
theorem cZ.dY(x:cZ):iy x.enc=true∧iL x.enc=true:=by
 rw[cZ.aC];simp only[List.cons_append,List.nil_append,iy,nJ,iL,rQ,fB,fC,Bool.and_true,Bool.true_and,Bool.and_self,and_self,and_true,true_and,rU x.yx,rV x.yx,(d9.gy x.rH).1,(d9.gy x.rH).2,(bO.gy x.mq).1,(bO.gy x.mq).2,(bU.gy x.mD).1,(bU.gy x.mD).2,(bV.gy x.mE).1,(bV.gy x.mE).2]
theorem cZ.gy(xs:List cZ):iJ (xs.map cZ.enc)=true∧iY (xs.map cZ.enc)=true:=⟨jl fun x _=>x.dY.1,jm fun x _=>⟨x.dY.2,by rw[cZ.bA];decide⟩⟩
theorem dO.dY(x:dO):iy x.enc=true∧iL x.enc=true:=by
 rw[dO.aC];simp only[List.cons_append,List.nil_append,iy,nJ,iL,rQ,fB,fC,Bool.and_true,Bool.true_and,Bool.and_self,and_self,and_true,true_and,(cZ.gy x.nI).1,(cZ.gy x.nI).2]
theorem dO.gy(xs:List dO):iJ (xs.map dO.enc)=true∧iY (xs.map dO.enc)=true:=⟨jl fun x _=>x.dY.1,jm fun x _=>⟨x.dY.2,by rw[dO.bA];decide⟩⟩
theorem bL.dY(x:bL):iy x.enc=true∧iL x.enc=true:=by
 rw[bL.aC];simp only[List.cons_append,List.nil_append,iy,nJ,iL,rQ,fB,fC,Bool.and_true,Bool.true_and,Bool.and_self,and_self,and_true,true_and]
theorem bL.gy(xs:List bL):iJ (xs.map bL.enc)=true∧iY (xs.map bL.enc)=true:=⟨jl fun x _=>x.dY.1,jm fun x _=>⟨x.dY.2,by rw[bL.bA];decide⟩⟩
end Go.Ab
namespace Go.Proofs.YtokkjobjffhfjaaGreatDoor
open Go Go.Ab
end Go.Proofs.YtokkjobjffhfjaaGreatDoor
namespace Go.Proofs.YtokkjobjffhfjaaGreatDoor
open Go Go.Ab
end Go.Proofs.YtokkjobjffhfjaaGreatDoor
namespace Go.Proofs.YtokkjobjffhfjaaGreatDoor
open Go Go.Ab
end Go.Proofs.YtokkjobjffhfjaaGreatDoor
namespace Go.Proofs.YtokkjobjffhfjaaGreatDoor
open Go Go.Ab
end Go.Proofs.YtokkjobjffhfjaaGreatDoor
namespace Go.Proofs.YtokkjobjffhfjaaGreatDoor
open Go Go.Ab
end Go.Proofs.YtokkjobjffhfjaaGreatDoor
namespace Go.Proofs.YtokkjobjffhfjaaGreatDoor
open Go Go.Ab
end Go.Proofs.YtokkjobjffhfjaaGreatDoor
namespace Go.Ab
def lx(l:List ah)(n:Nat):List (List D):=fH (l.map ah.enc) n
def NJ(x:ah):Nat:=pz x.enc
def iB(l:List ah):Nat:=og (l.map ah.enc)
theorem uq(x:ah)(n:Nat):fE x.enc n=[.s x.aI,.ol n (lx x.au (n+1))]:=by
 rw[ah.aC];simp only[fE,oh,qm,Nat.add_zero,lx]
theorem yJ(s:List UInt8)(n:Nat):fE (aM s).enc n=[.s s,.ol n []]:=by rw[uq];rfl
theorem abR(x:ah):NJ x=iB x.au+1:=by
 unfold NJ iB
 rw[ah.aC];simp only[pz,qm];omega
theorem CK(s:List UInt8):NJ (aM s)=1:=by rw[abR];rfl
theorem CO(n:Nat):lx [] n=[]:=rfl
theorem zI(x:ah)(l:List ah)(n:Nat):lx (x::l) n=fE x.enc n::lx l (n+NJ x):=rfl
theorem jy(a b:List ah)(n:Nat):lx (a++b) n=lx a n++lx b (n+iB a):=by unfold lx iB;rw[List.map_append,qo]
theorem WQ:iB []=0:=rfl
theorem TR(x:ah)(l:List ah):iB (x::l)=NJ x+iB l:=rfl
theorem iG(l:List ah)(n:Nat):(lx l n).length=l.length:=by unfold lx;rw[lU,List.length_map]
theorem lH{l:List ah}{n:Nat}:∀r∈lx l n,r.length=2:=GV fun r hr=>by
 obtain⟨z,_,rfl⟩:=List.mem_map.1 hr
 exact z.bA
theorem Jb{l:List ah}{i:Nat}(hi:i<l.length)(n:Nat):lx (l.take i) n++[fE l[i].enc (n+iB (l.take i))]=lx (l.take (i+1)) n:=by
 rw[List.take_succ_eq_append_getElem hi,jy];rfl
theorem NK{l:List ah}{i:Nat}(hi:i<l.length)(n:Nat):lx (l.take i) n++[[.s l[i].aI,.ol (n+iB (l.take i)) (lx l[i].au (n+iB (l.take i)+1))]]=lx (l.take (i+1)) n:=by
 rw[←Jb hi,uq]
theorem Z0{base l:List ah}{i:Nat}(hi:i<l.length)(q:Nat):lx (base++l.take i) q++[[.s l[i].aI,.ol (q+iB (base++l.take i)) (lx l[i].au (q+iB (base++l.take i)+1))]]=lx (base++l.take (i+1)) q:=by
 rw[List.take_succ_eq_append_getElem hi,←List.append_assoc,jy (base++l.take i),zI,CO,uq]
theorem j5{l:List ah}:∀r∈l.map ah.enc,r.length=2:=fun r hr=>by
 obtain⟨z,_,rfl⟩:=List.mem_map.1 hr
 exact z.bA
theorem yX{cs cs':List C}(hl:cs'.length=cs.length)(h:∀(j:Nat) (x y:C),cs[j]? =some x→cs'[j]? =some y→∀w σ S β v,fZ w σ S β x v→fZ w σ S β y v):Less (.agg cs) (.agg cs'):=by
 rintro w σ S β v ⟨a,ha,hc⟩
 refine⟨a,ha,hl.trans hc.1,fun j y hy=> ?_⟩
 have hj:j<cs.length:=by rw[←hl];exact(List.getElem?_eq_some_iff.1 hy).1
 obtain⟨v,h1,h2,h3⟩:=hc.2 j _ (List.getElem?_eq_getElem hj)
 exact⟨v,h1,h j _ y (List.getElem?_eq_getElem hj) hy w σ S β v h2,h3⟩
theorem adG{w:World}{σ:Nat→Nat}{S:Store}{β:Hs}{v:Value}(n:Nat)(h:fZ w σ S β (.aY []) v):fZ w σ S β (.d (.ol n [])) v:=by
 obtain⟨hd,ad,m,hval⟩:=h
 have hm:m=0:=by rw[hval] at hd;cases hd<;>rfl
 subst hm
 rw[hval]
 exact .rX _ _ _
theorem abS(s:List UInt8)(n:Nat):Less (.agg [.d (.s s),.aY []]) (.agg [.d (.s s),.d (.ol n [])]):=yX rfl fun j x y hx hy w σ S β v hv=>by
 match j,hx,hy with
 |0,hx,hy=>cases hx;cases hy;exact hv
 |1,hx,hy=>cases hx;cases hy;exact adG _ hv
 |j+2,hx,hy=>simp at hx
theorem abT(s:List UInt8)(n:Nat)(es:List (List D)):Less (.agg [.d (.s s),.iI n es]) (.agg [.d (.s s),.d (.ol n es)]):=yX rfl fun j x y hx hy w σ S β v hv=>by
 match j,hx,hy with
 |0,hx,hy=>cases hx;cases hy;exact hv
 |1,hx,hy=>cases hx;cases hy;exact hv.1
 |j+2,hx,hy=>simp at hx
end Go.Ab
namespace Go.Proofs.YtokkjobjffhfjaaGreatDoor
open Go Go.Ab
theorem PG(s:List UInt8):aD Tryz.prog 137 [.c (.d (.s s))] (.agg [.d (.s s),.aY []]):=fun S=>by
 refine aB (rs:=[.cell 2 54]) Tryz.checked.mixed Tryz.func137 Tryz.ntmps137 rfl rfl rfl rfl rfl ?_
 exact Z1
theorem fV(s:List UInt8)(n:Nat):aD Tryz.prog 137 [.c (.d (.s s))] (.agg [.d (.s s),.d (.ol n [])]):=aD.less (PG s) (abS s n)
theorem G9(d:D):aD Tryz.prog 140 [.c (.d d)] (.agg [.d (.s []),.d d]):=fun S=>by
 refine aB (rs:=[.cell 2 54]) Tryz.checked.mixed Tryz.func140 Tryz.ntmps140 rfl rfl rfl rfl rfl ?_
 exact Z1
theorem PI(n:Nat)(es:List (List D)):aD Tryz.prog 140 [.c (.iI n es)] (.agg [.d (.s []),.iI n es]):=fun S=>by
 refine aB (rs:=[.cell 2 54]) Tryz.checked.mixed Tryz.func140 Tryz.ntmps140 rfl rfl rfl rfl rfl ?_
 exact Z1
theorem He(n:Nat)(es:List (List D)):aD Tryz.prog 140 [.c (.iI n es)] (.agg [.d (.s []),.d (.ol n es)]):=aD.less (PI n es) (abT [] n es)
theorem kY(l j:Nat)(es:List (List D))(S:Store):bD Tryz.prog 140 [.c (.bQ (l,j) es)] S (fun r S'=>r=.agg [.d (.s []),.bQ (l,j) es]∧S'=S):=by
 refine aB (rs:=[.cell 2 54]) Tryz.checked.mixed Tryz.func140 Tryz.ntmps140 rfl rfl rfl rfl rfl ?_
 exact Z1
theorem Bh(xs:List (List UInt8))(hx:xs.length≤1073741824)(n q:Nat):aD Tryz.prog 139 [.c (.d (.sl (xs.map encS)))] (.c (.d (.ol n (lx (aQ xs) q)))):=fun S=>by
 refine nK (n) (rs:=[.tmp 2]) Tryz.checked.mixed Tryz.func139 Tryz.ntmps139 rfl rfl rfl rfl rfl ?_
 refine W1 ?_
 refine W3 ?_
 refine tY n 3 2 [] (.inl rfl) (by simp) ?_
 refine aW (ι:=Nat) Tryz.checked.mixed rfl [3,7,8,9] (fun i=>[.c (.bQ (0,1) (lx ((aQ xs).take i) q)),.c (.d (.sl (xs.map encS))),.c (.d (.i .i64 xs.length)),.c (.d (.i .i64 i))]) (fun i=>[.seed n,.dW n 2 (lx ((aQ xs).take i) q)]::S)
  (fun i=>i≤xs.length) (fun i=>xs.length-i) 0 rfl rfl (Nat.zero_le _) ?_
 intro i hi
 refine W1 ?_
 refine S0 (fun hb h=>?_) fun hb h=>?_
 ·have hi':i<xs.length:=by omega
  have hw:i<(aQ xs).length:=by rw[lu];exact hi'
  have hg:(aQ xs)[i]=aM xs[i]:=by simp[aQ]
  have hl:(lx ((aQ xs).take i) q).length≤i:=by rw[iG];exact List.length_take_le _ _
  refine W3 ?_
  refine C1 (fV xs[i] (q+iB ((aQ xs).take i))) ?_
  refine W3 ?_
  have hs:=Jb hw q
  rw[hg,yJ] at hs
  rw[hs]
  exact bK (i+1) (by omega) rfl rfl (by omega)
 ·have hi':i=(aQ xs).length:=by rw[lu];omega
  rw[hi',List.take_length]
theorem Hf:∀N:Nat,(∀x:ak,SizeOf.sizeOf x<N→∀n:Nat,formed x=true→x.sz≤4194304→aD Tryz.prog 142 [x.v] (.agg [.d (.s (fK x).aI),.d (.ol n (lx (fK x).au (n+1)))]))∧
 (∀xs:List ak,SizeOf.sizeOf xs<N→∀n q:Nat,iq xs=true→xs.length≤4194304→(∀t∈xs,t.sz≤4194304)→aD Tryz.prog 203 [.c (.d (.sl (xs.map ak.enc)))] (.c (.d (.ol n (lx (xs.map fK) q)))))
 |0=>⟨fun x h=>by omega,fun x h=>by omega⟩
 |N+1=>by
  obtain⟨ih,lZ⟩:=Hf N
  refine⟨fun x hn n hf hsz=> ?_,fun xs hn n q hf hlen hsz=> ?_⟩
  ·have jS:=ak.gF x
   have hts:=yA hsz
   have hx:=VY x
   rw[vk,Bool.and_eq_true] at hf
   have hfi:=iK hf.1
   have hall:∀t∈x.fArgs,t.sz≤4194304:=fun t ht=>by
    obtain⟨i,hi,e⟩:=List.getElem_of_mem ht
    rw[←e];exact(vB hi hsz).1
   intro S
   refine TQ (n) 1 (rs:=[.cell 2 54]) Tryz.checked.mixed Tryz.func142 Tryz.ntmps142 rfl rfl rfl rfl rfl ?_
   refine W1 ?_
   refine S0 (fun hb h=>?_) fun hb h=>?_
   ·rw[if_pos h] at hx
    rw[hx]
    refine W3 ?_
    refine C1 (fV _ n) ?_
    rfl
   have k1:=h
   rw[if_neg h] at hx
   refine S0 (fun hb h=>?_) fun hb h=>?_
   ·rw[if_pos h] at hx
    rw[hx]
    refine C1 (fV _ (n+1)) ?_
    refine C1 (fV _ (n+1+1)) ?_
    refine C1 (He _ _) ?_
    rfl
   have k4:=h
   rw[if_neg h] at hx
   refine S0 (fun hb h=>?_) fun hb h=>?_
   ·have hlen:x.fArgs.length=1:=by omega
    obtain⟨a,ha⟩:=List.length_eq_one_iff.1 hlen
    have ha0:x.fArgs[0]'(by omega)=a:=by simp[ha]
    rw[if_neg (by omega),if_pos h,ha] at hx
    have hfa:formed a=true:=yR.1 hf.2 a (by rw[ha];simp)
    have hsa:a.sz≤4194304:=hall a (by rw[ha];simp)
    have hla:SizeOf.sizeOf a<N:=by
     have:=List.sizeOf_lt_of_mem (show a∈x.fArgs by rw[ha];simp)
     omega
    rw[hx]
    refine C1 (fV _ (n+1)) ?_
    refine bH (fV _ (n+1+1)) ?_
    simp -implicitDefEqProofs (disch:=omega) only[go_sem,ha,List.getD_cons_zero]
    refine W3 ?_
    refine C1 (ih a hla (n+1+1+1) hfa hsa) ?_
    refine C1 (He _ _) ?_
    simp only[fO,fP,List.cons_append,List.nil_append,List.map_cons,List.map_nil,zI,CO,yJ,CK,uq,Af,Ag,kU]
   have k3:=h
   refine S0 (fun hb h=>?_) fun hb h=>?_
   ·rw[if_pos ⟨by omega,by omega⟩] at hx
    rw[hx]
    refine C1 (fV _ n) ?_
    rfl
   rw[if_neg (by omega),if_neg k3] at hx
   rw[hx]
   refine C1 (fV _ (n+1)) ?_
   refine C1 (lZ x.fArgs (by omega) 0 (n+1+1) hf.2 hts.1 hall) ?_
   have hl:(lx (x.fArgs.map fK) (n+1+1)).length=x.fArgs.length:=by rw[iG,List.length_map]
   have hr:=lH (l:=x.fArgs.map fK) (n:=n+1+1)
   refine W3 ?_
   refine C1 (G9 _) ?_
   simp only[fO,fP,List.cons_append,List.nil_append,zI,CO,yJ,CK]
  ·have AJ:=fun(i:Nat) (hi:i<xs.length)=>NK (l:=xs.map fK) (i:=i) (by rw[List.length_map];exact hi) q
   intro S
   refine nK (n) (rs:=[.tmp 2]) Tryz.checked.mixed Tryz.func203 Tryz.ntmps203 rfl rfl rfl rfl rfl ?_
   refine W1 ?_
   refine W3 ?_
   refine tY n 3 2 [] (.inl rfl) (by simp) ?_
   refine aW (ι:=Nat) Tryz.checked.mixed rfl [3,7,8,9] (fun i=>[.c (.bQ (0,1) (lx ((xs.map fK).take i) q)),.c (.d (.sl (xs.map ak.enc))),.c (.d (.i .i64 xs.length)),.c (.d (.i .i64 i))]) (fun i=>[.seed n,.dW n 2 (lx ((xs.map fK).take i) q)]::S)
    (fun i=>i≤xs.length) (fun i=>xs.length-i) 0 rfl rfl (Nat.zero_le _) ?_
   intro i hi
   refine W1 ?_
   refine S0 (fun hb h=>?_) fun hb h=>?_
   ·have hi':i<xs.length:=by omega
    have hs:=AJ i hi'
    rw[List.getElem_map] at hs
    have hl:(lx ((xs.map fK).take i) q).length≤i:=by rw[iG];exact List.length_take_le _ _
    refine W3 ?_
    refine C1 (ih xs[i] (by have:=List.sizeOf_lt_of_mem (List.getElem_mem hi');omega) (q+iB ((xs.map fK).take i)) (yR.1 hf _ (List.getElem_mem hi')) (hsz _ (List.getElem_mem hi'))) ?_
    refine W3 ?_
    rw[hs]
    exact iP 2 (by decide) (i+1) (by omega) rfl rfl rfl rfl (by omega)
   ·have hi':i=(xs.map fK).length:=by rw[List.length_map];omega
    rw[hi',List.take_length]
theorem TS(x:ak)(n:Nat)(hf:formed x=true)(hsz:x.sz≤4194304):aD Tryz.prog 142 [x.v] (.agg [.d (.s (fK x).aI),.d (.ol n (lx (fK x).au (n+1)))]):=(Hf _).1 x (Nat.lt_succ_self _) n hf hsz
end Go.Proofs.YtokkjobjffhfjaaGreatDoor
namespace Go.Ab
theorem jo(s:List UInt8):(aM s).enc=[.s s,.sl []]:=by rw[ah.aC];rfl
theorem qw{base l:List ah}{i:Nat}(hi:i<l.length):(base++l.take i).map ah.enc++[[.s l[i].aI,.sl (l[i].au.map ah.enc)]]=(base++l.take (i+1)).map ah.enc:=by
 rw[List.take_succ_eq_append_getElem hi,←List.append_assoc,List.map_append (l₂:=[l[i]]),List.map_cons,List.map_nil,ah.aC]
theorem abU(s:List UInt8)(es:List (List D)):Less (.agg [.d (.s s),.aY es]) (.agg [.d (.s s),.d (.sl es)]):=yX rfl fun j x y hx hy w σ S β v hv=>by
 match j,hx,hy with
 |0,hx,hy=>cases hx;cases hy;exact hv
 |1,hx,hy=>cases hx;cases hy;exact hv.1
 |j+2,hx,hy=>simp at hx
theorem abV(x:ah)(n:Nat):Less (.agg [.d (.s x.aI),.d (.ol n (lx x.au (n+1)))]) x.v:=by
 have h:=ET (r:=x.enc) (n:=n)
 rw[uq,ah.nV] at h
 exact h
end Go.Ab
namespace Go.Proofs.YtokkjobjffhfjaaGreatDoor
open Go Go.Ab
theorem NM(s:List UInt8):aD Tryz.prog 119 [.c (.d (.s s))] (.agg [.d (.s s),.aY []]):=fun S=>by
 refine aB (rs:=[.cell 2 54]) Tryz.checked.mixed Tryz.func119 Tryz.ntmps119 rfl rfl rfl rfl rfl ?_
 exact Z1
theorem bX(s:List UInt8):aD Tryz.prog 119 [.c (.d (.s s))] (.agg [.d (.s s),.d (.sl [])]):=aD.less (NM s) (abU s [])
theorem PK(es:List (List D))(hes:∀e∈es,e.length=2)(hl:es.length≤1073741824):aD Tryz.prog 186 [.c (.d (.sl es))] (.agg [.d (.s []),.d (.sl es)]):=fun S=>by
 refine aB (rs:=[.cell 2 54]) Tryz.checked.mixed Tryz.func186 Tryz.ntmps186 rfl rfl rfl rfl rfl ?_
 refine W1 ?_
 exact⟨hes,⟨_,rfl,rfl⟩,(fun y hy=>by cases hy),hl⟩
theorem NN(xs:List (List UInt8))(hx:xs.length≤1073741824):aD Tryz.prog 123 [.c (.d (.sl (xs.map encS)))] (.c (.d (.sl ((aQ xs).map ah.enc)))):=fun S=>by
 refine aB (rs:=[.tmp 2]) Tryz.checked.mixed Tryz.func123 Tryz.ntmps123 rfl rfl rfl rfl rfl ?_
 refine W1 ?_
 refine W3 ?_
 refine FP 3 2 [] rfl (by simp) ?_
 refine aW (ι:=Nat) Tryz.checked.mixed rfl [0,3,4] (fun i=>[.c (.d (.sl (xs.map encS))),.c (.bQ (0,0) (((aQ xs).take i).map ah.enc)),.c (.d (.i .i64 i))]) (fun i=>[.tok 2 (((aQ xs).take i).map ah.enc)]::S)
  (fun i=>i≤xs.length) (fun i=>xs.length-i) 0 rfl rfl (Nat.zero_le _) ?_
 intro i hi
 have hl:(((aQ xs).take i).map ah.enc).length≤i:=by rw[List.length_map];exact List.length_take_le _ _
 refine W1 ?_
 refine S0 (fun hb h=>?_) fun hb h=>?_
 ·have hi':i<xs.length:=by omega
  have hs:=qw (base:=[]) (l:=aQ xs) (i:=i) (by rw[lu];exact hi')
  have hg:(aQ xs)[i]'(by rw[lu];exact hi')=aM xs[i]:=by simp[aQ]
  rw[hg] at hs
  simp only[List.nil_append,Af,Ag,List.map_nil] at hs
  refine W3 ?_
  refine C1 (bX xs[i]) ?_
  refine W3 ?_
  rw[hs]
  exact bK (i+1) (by omega) rfl rfl (by omega)
 ·have hi':i=(aQ xs).length:=by rw[lu];omega
  rw[hi',List.take_length]
theorem Hg:∀N:Nat,(∀x:ak,SizeOf.sizeOf x<N→x.sz≤4194304→aD Tryz.prog 122 [x.v] (.agg [.d (.s (fK x).aI),.d (.sl ((fK x).au.map ah.enc))]))
 |0=>fun x h=>by omega
 |N+1=>by
  have ih:=Hg N
  intro x hn hsz
  have jS:=ak.gF x
  have hts:=yA hsz
  have hx:=VY x
  have hall:∀t∈x.fArgs,t.sz≤4194304:=fun t ht=>by
   obtain⟨i,hi,e⟩:=List.getElem_of_mem ht
   rw[←e];exact(vB hi hsz).1
  intro S
  refine aB (rs:=[.cell 2 54]) Tryz.checked.mixed Tryz.func122 Tryz.ntmps122 rfl rfl rfl rfl rfl ?_
  refine W1 ?_
  refine S0 (fun hb h=>?_) fun hb h=>?_
  ·rw[if_pos h] at hx
   rw[hx]
   refine W3 ?_
   refine C1 (bX _) ?_
   rfl
  rw[if_neg h] at hx
  refine S0 (fun hb h=>?_) fun hb h=>?_
  ·rw[if_pos h] at hx
   rw[hx]
   refine C1 (bX _) ?_
   refine C1 (bX _) ?_
   refine C1 (PK _ (by simp) (by simp)) ?_
   simp only[fO,fP,List.map_cons,List.map_nil,jo,Ah]
  rw[if_neg h] at hx
  have agS:x.aH=2→x.fArgs.length=0→fK x=aM x.fName:=fun a b=>by rw[hx,if_pos ⟨a,b⟩]
  have Z4:¬(x.aH=2∧x.fArgs.length=0)→fK x=dh ((if x.aH=3 then [aM kU] else [])++[aM x.fName]++x.fArgs.map fK):=fun a=>by rw[hx,if_neg a]
  clear hx
  repeat' (first|(refine S0 (fun hb h=>?_) fun hb h=>?_))
  ·rw[agS (by omega) (by omega)]
   refine C1 (bX _) ?_
   rfl
  ·exfalso;omega
  ·have hx:=Z4 (by omega)
   rw[if_neg h,List.nil_append] at hx
   refine C1 (bX _) ?_
   refine W3 ?_
   refine aW (ι:=Nat) Tryz.checked.mixed rfl [1,2,3,4] (fun i=>[.c (.ptr (0,0) 0),.c (.ptr (0,1) 0),.c (.ptr (0,2) 0),.c (.d (.i .i64 i))])
    (fun i=>[.box [.d (.i .i64 x.aH),.d (.s x.fName),.d (.sl (x.fArgs.map ak.enc))],.box [.d (.s []),.aY []],.box [.d (.s []),.bQ (0,3) (([aM x.fName]++(x.fArgs.map fK).take i).map ah.enc)],.tok 2 (([aM x.fName]++(x.fArgs.map fK).take i).map ah.enc)]::S)
    (fun i=>i≤x.fArgs.length) (fun i=>x.fArgs.length-i) 0 rfl ?_ (Nat.zero_le _) ?_
   ·simp only[List.take_zero,List.append_nil,List.map_cons,List.map_nil,List.cons_append,List.nil_append,jo]<;>(try rfl)
   intro i hi
   have hl:(([aM x.fName]++(x.fArgs.map fK).take i).map ah.enc).length≤i+2:=by
    rw[List.length_map,List.length_append]
    have:=List.length_take_le i (x.fArgs.map fK)
    simp only[List.length_cons,List.length_nil];omega
   have hs:=fun hi=>qw (base:=[aM x.fName]) (l:=x.fArgs.map fK) (i:=i) hi
   have hrw:=j5 (l:=[aM x.fName]++(x.fArgs.map fK).take i)
   generalize hR:([aM x.fName]++(x.fArgs.map fK).take i).map ah.enc=R at hl hs hrw
   refine W1 ?_
   refine S0 (fun hb h=>?_) fun hb h=>?_
   ·have hi':i<x.fArgs.length:=by omega
    have hs':=hs (by rw[List.length_map];exact hi')
    rw[List.getElem_map] at hs'
    refine W3 ?_
    refine C1 (ih x.fArgs[i] (by have:=List.sizeOf_lt_of_mem (List.getElem_mem hi');omega) (hall _ (List.getElem_mem hi'))) ?_
    refine W3 ?_
    rw[hs']
    exact bK (i+1) (by omega) rfl rfl (by omega)
   ·have hi':i=(x.fArgs.map fK).length:=by rw[List.length_map];omega
    rw[hx,←hR,hi',List.take_length]
    simp only[fO,fP,List.cons_append,List.nil_append]
  ·have hx:=Z4 (by omega)
   rw[if_pos h] at hx
   refine C1 (bX _) ?_
   refine W3 ?_
   refine C1 (bX _) ?_
   refine W3 ?_
   refine aW (ι:=Nat) Tryz.checked.mixed rfl [1,2,3,4] (fun i=>[.c (.ptr (0,0) 0),.c (.ptr (0,1) 0),.c (.ptr (0,2) 0),.c (.d (.i .i64 i))])
    (fun i=>[.box [.d (.i .i64 x.aH),.d (.s x.fName),.d (.sl (x.fArgs.map ak.enc))],.box [.d (.s []),.aY []],.box [.d (.s []),.bQ (0,3) (([aM kU,aM x.fName]++(x.fArgs.map fK).take i).map ah.enc)],.tok 2 (([aM kU,aM x.fName]++(x.fArgs.map fK).take i).map ah.enc)]::S)
    (fun i=>i≤x.fArgs.length) (fun i=>x.fArgs.length-i) 0 rfl ?_ (Nat.zero_le _) ?_
   ·simp only[List.take_zero,List.append_nil,List.map_cons,List.map_nil,List.cons_append,List.nil_append,jo]<;>(try rfl)
   intro i hi
   have hl:(([aM kU,aM x.fName]++(x.fArgs.map fK).take i).map ah.enc).length≤i+2:=by
    rw[List.length_map,List.length_append]
    have:=List.length_take_le i (x.fArgs.map fK)
    simp only[List.length_cons,List.length_nil];omega
   have hs:=fun hi=>qw (base:=[aM kU,aM x.fName]) (l:=x.fArgs.map fK) (i:=i) hi
   have hrw:=j5 (l:=[aM kU,aM x.fName]++(x.fArgs.map fK).take i)
   generalize hR:([aM kU,aM x.fName]++(x.fArgs.map fK).take i).map ah.enc=R at hl hs hrw
   refine W1 ?_
   refine S0 (fun hb h=>?_) fun hb h=>?_
   ·have hi':i<x.fArgs.length:=by omega
    have hs':=hs (by rw[List.length_map];exact hi')
    rw[List.getElem_map] at hs'
    refine W3 ?_
    refine C1 (ih x.fArgs[i] (by have:=List.sizeOf_lt_of_mem (List.getElem_mem hi');omega) (hall _ (List.getElem_mem hi'))) ?_
    refine W3 ?_
    rw[hs']
    exact bK (i+1) (by omega) rfl rfl (by omega)
   ·have hi':i=(x.fArgs.map fK).length:=by rw[List.length_map];omega
    rw[hx,←hR,hi',List.take_length]
    simp only[fO,fP,List.cons_append,List.nil_append]
  ·have hx:=Z4 (by omega)
   rw[if_neg h,List.nil_append] at hx
   refine C1 (bX _) ?_
   refine W3 ?_
   refine aW (ι:=Nat) Tryz.checked.mixed rfl [1,2,3,4] (fun i=>[.c (.ptr (0,0) 0),.c (.ptr (0,1) 0),.c (.ptr (0,2) 0),.c (.d (.i .i64 i))])
    (fun i=>[.box [.d (.i .i64 x.aH),.d (.s x.fName),.d (.sl (x.fArgs.map ak.enc))],.box [.d (.s []),.aY []],.box [.d (.s []),.bQ (0,3) (([aM x.fName]++(x.fArgs.map fK).take i).map ah.enc)],.tok 2 (([aM x.fName]++(x.fArgs.map fK).take i).map ah.enc)]::S)
    (fun i=>i≤x.fArgs.length) (fun i=>x.fArgs.length-i) 0 rfl ?_ (Nat.zero_le _) ?_
   ·simp only[List.take_zero,List.append_nil,List.map_cons,List.map_nil,List.cons_append,List.nil_append,jo]<;>(try rfl)
   intro i hi
   have hl:(([aM x.fName]++(x.fArgs.map fK).take i).map ah.enc).length≤i+2:=by
    rw[List.length_map,List.length_append]
    have:=List.length_take_le i (x.fArgs.map fK)
    simp only[List.length_cons,List.length_nil];omega
   have hs:=fun hi=>qw (base:=[aM x.fName]) (l:=x.fArgs.map fK) (i:=i) hi
   have hrw:=j5 (l:=[aM x.fName]++(x.fArgs.map fK).take i)
   generalize hR:([aM x.fName]++(x.fArgs.map fK).take i).map ah.enc=R at hl hs hrw
   refine W1 ?_
   refine S0 (fun hb h=>?_) fun hb h=>?_
   ·have hi':i<x.fArgs.length:=by omega
    have hs':=hs (by rw[List.length_map];exact hi')
    rw[List.getElem_map] at hs'
    refine W3 ?_
    refine C1 (ih x.fArgs[i] (by have:=List.sizeOf_lt_of_mem (List.getElem_mem hi');omega) (hall _ (List.getElem_mem hi'))) ?_
    refine W3 ?_
    rw[hs']
    exact bK (i+1) (by omega) rfl rfl (by omega)
   ·have hi':i=(x.fArgs.map fK).length:=by rw[List.length_map];omega
    rw[hx,←hR,hi',List.take_length]
    simp only[fO,fP,List.cons_append,List.nil_append]
theorem WR(x:ak)(hsz:x.sz≤4194304):aD Tryz.prog 122 [x.v] (.agg [.d (.s (fK x).aI),.d (.sl ((fK x).au.map ah.enc))]):=Hg _ x (Nat.lt_succ_self _) hsz
end Go.Proofs.YtokkjobjffhfjaaGreatDoor
namespace Go.Ab
theorem bO.bounds{x:bO}(h:x.sz≤4194304):x.fName.length≤4194304∧x.aS.length≤4194304∧x.je.length≤4194304∧∀s∈x.aS,s.length≤4194304:=by
 simp only[bO.sz,bO.aC,bS,eT,D.sz,List.length_map] at h
 refine⟨by omega,by omega,by omega,fun s hs=> ?_⟩
 have:=V8 hs
 omega
theorem bg.bounds{x:bg}(h:x.sz≤4194304):x.fName.length≤4194304∧x.nu.length≤4194304∧∀t∈x.nu,t.sz≤4194304:=by
 simp only[bg.sz,bg.aC,bS,eT,D.sz,List.length_map] at h
 refine⟨by omega,by omega,fun t ht=> ?_⟩
 have hx:t.sz≤dz (x.nu.map ak.enc):=gY (List.mem_map_of_mem ht)
 omega
end Go.Ab
namespace Go.Proofs.YtokkjobjffhfjaaGreatDoor
open Go Go.Ab
end Go.Proofs.YtokkjobjffhfjaaGreatDoor
namespace Go.Ab
end Go.Ab
namespace Go.Proofs.YtokkjobjffhfjaaGreatDoor
open Go Go.Ab
end Go.Proofs.YtokkjobjffhfjaaGreatDoor
namespace Go.Ab
def bW(l:List ah)(i:Nat):List UInt8:=(l.getD i gq).aI
theorem nC{l:List ah}{i:Nat}(h:i<l.length):bW l i=l[i].aI:=by simp[bW,List.getD,h]
theorem zJ{l:List ah}{i:Nat}(h:l.length≤i):bW l i=[]:=by simp[bW,List.getD,h];rfl
def lW(l:List ah):List (List UInt8):=if l.all (fun x=>decide (x.aI≠[]))=true then l.map ah.aI else []
theorem NP:∀{vs:List (List UInt8)},(∀v∈vs,v≠[])→lW (aQ vs)=vs:=fun {vs} h=>by
 unfold lW aQ
 rw[if_pos (List.all_eq_true.2 fun x hx=> ?_),List.map_map]
 ·conv=>rhs;rw[←List.map_id vs]
  rfl
 ·obtain⟨v,hv,rfl⟩:=List.mem_map.1 hx
  exact decide_eq_true (h v hv)
theorem NQ:∀l:List ah,((l.map ah.aI).map List.length).sum≤dn l
 |[]=>by simp[dn]
 |x::l=>by
  have:=NQ l
  rw[List.map_cons,List.map_cons,List.sum_cons,dn,jB];omega
theorem WS(l:List ah):(lW l).length≤l.length∧((lW l).map List.length).sum≤dn l:=by
 unfold lW
 split
 ·refine⟨by simp,?_⟩
  exact NQ l
 ·simp
mutual
def eF(b:Bool):ah→ak
 | .mk a l=>if a=[] then
    if l.length<2 then .mk 0 [] []
    else if bW l 0=Ah∧(b=true∨l.length=2∧bW l 1≠[]) then .mk 4 (bW l 1) []
    else if bW l 0=kU∧(b=true∨l.length=3∧bW l 1≠[]) then .mk 3 (bW l 1) ((kZ b l).drop 2)
    else .mk 2 (bW l 0) ((kZ b l).drop 1)
   else if a.head? =some 39 then .mk 1 a.tail [] else .mk 2 a []
def kZ(b:Bool):List ah→List ak
 |[]=>[]
 |x::xs=>eF b x::kZ b xs
end
theorem CP(b:Bool):∀l,kZ b l=l.map (eF b)
 |[]=>rfl
 |t::ts=>by rw[kZ,List.map_cons,CP b ts]
theorem QH(b:Bool)(x:ah):eF b x=if x.aI=[] then
 if x.au.length<2 then .mk 0 [] []
 else if bW x.au 0=Ah∧(b=true∨x.au.length=2∧bW x.au 1≠[]) then .mk 4 (bW x.au 1) []
 else if bW x.au 0=kU∧(b=true∨x.au.length=3∧bW x.au 1≠[]) then .mk 3 (bW x.au 1) ((x.au.map (eF b)).drop 2)
 else .mk 2 (bW x.au 0) ((x.au.map (eF b)).drop 1)
 else if x.aI.head? =some 39 then .mk 1 x.aI.tail [] else .mk 2 x.aI []:=by
 cases x;rw[eF,CP];rfl
theorem Hl:∀a b,qc (a++b)=qc a+qc b
 |[],b=>by simp[qc]
 |x::a,b=>by rw[List.cons_append,qc,qc,Hl a b];omega
theorem NR(l:List ak)(i:Nat):qc (l.drop i)≤qc l:=by
 have:=Hl (l.take i) (l.drop i)
 rw[List.take_append_drop] at this
 omega
theorem WU(l:List ah)(i:Nat):(bW l i).length≤dn l:=by
 by_cases h:i<l.length
 ·rw[nC h]
  have h1:=ny (List.getElem_mem h)
  rw[jB] at h1;omega
 ·rw[zJ (by omega)];simp
mutual
theorem QI(b:Bool):∀x:ah,(eF b x).sz≤x.sz
 | .mk a l=>by
   have h1:=EU b l
   have h2:=NR (kZ b l) 2
   have h3:=NR (kZ b l) 1
   have h4:=WU l 0
   have h5:=WU l 1
   have h6:(kZ b l).length=l.length:=by rw[CP,List.length_map]
   rw[jB,kS];simp only[ah.aI,ah.au]
   rw[eF]
   split
   ·split
    ·rw[qd];simp[ak.fName,ak.fArgs,qc]
    ·split
     ·rw[qd];simp[ak.fName,ak.fArgs,qc];omega
     ·have g0:=CQ b l 0
      have g1:=CQ b l 1
      simp only[Nat.zero_add,Nat.reduceAdd] at g0 g1
      split
      ·rw[qd];simp only[ak.fName,ak.fArgs,List.length_drop,h6];omega
      ·rw[qd];simp only[ak.fName,ak.fArgs,List.length_drop,h6];omega
   ·split
    ·rw[qd];simp[ak.fName,ak.fArgs,qc];omega
    ·rw[qd];simp[ak.fName,ak.fArgs,qc]
theorem EU(b:Bool):∀l:List ah,qc (kZ b l)≤dn l
 |[]=>by simp[kZ,qc]
 |x::xs=>by
  have h1:=QI b x
  have h2:=EU b xs
  rw[kZ,qc,dn];omega
theorem CQ(b:Bool):∀(l:List ah) (i:Nat),qc ((kZ b l).drop (i+1))+(bW l i).length≤dn l
 |[],i=>by simp[kZ,qc,zJ]
 |x::xs,0=>by
  have h2:=EU b xs
  rw[kZ,List.drop_succ_cons,List.drop_zero,dn,show bW (x::xs) 0=x.aI from rfl,jB];omega
 |x::xs,i+1=>by
  have h2:=CQ b xs i
  rw[kZ,List.drop_succ_cons,dn,show bW (x::xs) (i+1)=bW xs i from rfl];omega
end
theorem zK{s:List UInt8}(h:validName s=true):s≠[]:=fun e=>by rw[e] at h;have:=iK h;simp at this
theorem WV{s:List UInt8}(h:validName s=true):s.head? ≠some 39:=fun e=>by
 have h1:=iK h
 have h2:=h1.2.2 0 (by omega)
 cases s with
 |nil=>cases e
 |cons c s=>
  simp only[List.head?_cons,Option.some.injEq] at e
  subst e
  simp[lowerB,mF] at h2
theorem Z5{s:List UInt8}(h:validName s=true):s≠Ah∧s≠kU:=by
 have h1:=(iK h).2.1
 refine⟨fun e=>h1 (by rw[e];simp[reserved,Ah]),fun e=>h1 (by rw[e];simp[reserved,kU])⟩
mutual
theorem QJ(b:Bool):∀t:ak,formed t=true→eF b (fK t)=t
 | .mk k n zs=>fun hf=>by
   rw[formed,Bool.and_eq_true] at hf
   have hfi:=iK hf.1
   have hzs:=NS b zs hf.2
   rw[fK]
   by_cases h1:k=1
   ·have hz:zs=[]:=by
     have:zs.length=0:=by omega
     exact List.eq_nil_of_length_eq_zero this
    rw[if_pos h1,aM,eF,if_neg (by simp),if_pos (by simp),hz,h1];rfl
   rw[if_neg h1]
   by_cases h4:k=4
   ·have hz:zs=[]:=by
     have:zs.length=0:=by omega
     exact List.eq_nil_of_length_eq_zero this
    have hn:validName n=true:=by
     rcases hfi with h|h|h
     ·exact h.2.1
     ·exact h.2.1
     ·omega
    rw[if_pos h4,dh,eF,if_pos rfl,if_neg (by simp),if_pos ⟨rfl,.inr ⟨rfl,zK hn⟩⟩,hz,h4];rfl
   rw[if_neg h4]
   by_cases h2:k=2∧zs.length=0
   ·have hz:zs=[]:=List.eq_nil_of_length_eq_zero h2.2
    have hn:n≠[]∧n.head? ≠some 39:=by
     rcases hfi with h|h|h
     ·omega
     ·omega
     ·rcases h.2 with g|g
      ·exact⟨zK g.1,WV g.1⟩
      ·rcases iK g.1 with e|e<;>rw[e]<;>simp
    rw[if_pos h2,aM,eF,if_neg hn.1,if_neg hn.2,hz,h2.1]
   rw[if_neg h2]
   by_cases h3:k=3
   ·have hz:zs.length=1∧validName n=true:=by
     rcases hfi with h|h|h
     ·omega
     ·exact⟨h.2.2,h.2.1⟩
     ·omega
    rw[if_pos h3,dh,eF,if_pos rfl,if_neg (by simp),if_neg (fun h=>by have:=h.1;simp[bW,aM,ah.aI,Ah,kU] at this),if_pos ⟨rfl,.inr ⟨by rw[ug];simp[hz.1],zK hz.2⟩⟩]
    show ak.mk 3 n (kZ b (xG zs))=_
    rw[hzs,h3]
   ·have hn:validName n=true∧zs≠[]:=by
     rcases hfi with h|h|h
     ·omega
     ·omega
     ·rcases h.2 with g|g
      ·exact⟨g.1,fun e=>h2 ⟨h.1,by rw[e];rfl⟩⟩
      ·exact(h2 ⟨h.1,g.2⟩).elim
    have hk:k=2:=by
     rcases hfi with h|h|h
     ·omega
     ·omega
     ·exact h.1
    have hd:=Z5 hn.1
    rw[if_neg h3,dh,eF,if_pos rfl,if_neg (by rw[ug];cases zs with|nil=>exact(hn.2 rfl).elim|cons z zs=>simp),if_neg (fun h=>hd.1 h.1),if_neg (fun h=>hd.2 h.1)]
    show ak.mk 2 n (kZ b (xG zs))=_
    rw[hzs,hk]
theorem NS(b:Bool):∀ts:List ak,iq ts=true→kZ b (xG ts)=ts
 |[],_=>rfl
 |t::ts,h=>by
  rw[iq,Bool.and_eq_true] at h
  rw[xG,kZ,QJ b t h.1,NS b ts h.2]
end
theorem abW{vs:List (List UInt8)}(h:oO vs=true):∀v∈vs,v≠[]:=fun v hv=>by
 unfold oO at h
 rw[Bool.and_eq_true] at h
 exact zK (List.all_eq_true.1 h.2 v hv)
theorem EW:gq.sz=0:=by rw[jB];simp[gq,ah.aI,ah.au,dz]
end Go.Ab
namespace Go.Ab
def uP:List UInt8:=[116,114,117,101]
def tq:List UInt8:=[102,97,108,115,101]
def ku:List UInt8:=[99,97,108,108]
def fM:List UInt8:=[109,101,116,104,111,100]
def mP:List UInt8:=[110,101,119]
def iC:List UInt8:=[99,97,115,101]
def mQ:List UInt8:=[108,101,116]
def qK:List UInt8:=[105,102]
def kC:List UInt8:=[112,97,99,107]
def nD:List UInt8:=[116,104,101]
def fI(k:Int)(tr nm:List UInt8)(ty:ak):List ah:=
 if k=4 then aQ [ku,nm] else if k=5 then aQ [fM,tr,nm] else if k=6 then aQ [mP,nm] else if k=8 then aQ [mQ,nm] else
 if k=9 then aQ [qK] else if k=10 then aQ [nm] else if k=11 then aQ [kC,tr] else if k=12 then [aM nD,fK ty] else aQ [iC]
mutual
def dJ:aj→ah
 | .mk k tr nm n ty zs ms=>if k=1 then aM (Lib.itoa n) else if k=2 then aM (if n=1 then uP else tq) else if k=3 then aM nm else
   dh (fI k tr nm ty++vV zs++(if k=4∨k=5∨k=6∨k=8∨k=9∨k=10∨k=11∨k=12 then [] else AL ms))
def vV:List aj→List ah
 |[]=>[]
 |t::ts=>dJ t::vV ts
def tJ:aA→ah
 | .mk c vs b=>dh ([aM c]++aQ vs++[dJ b])
def AL:List aA→List ah
 |[]=>[]
 |t::ts=>tJ t::AL ts
end
theorem xS:∀l,vV l=l.map dJ
 |[]=>rfl
 |t::ts=>by rw[vV,List.map_cons,xS ts]
theorem AO:∀l,AL l=l.map tJ
 |[]=>rfl
 |t::ts=>by rw[AL,List.map_cons,AO ts]
theorem CR(x:aj):dJ x=if x.aH=1 then aM (Lib.itoa x.fN) else if x.aH=2 then aM (if x.fN=1 then uP else tq) else if x.aH=3 then aM x.fName else
 dh (fI x.aH x.aU x.fName x.fType++x.fArgs.map dJ++(if x.aH=4∨x.aH=5∨x.aH=6∨x.aH=8∨x.aH=9∨x.aH=10∨x.aH=11∨x.aH=12 then [] else x.aG.map tJ)):=by
 cases x;rw[dJ,xS,AO];rfl
theorem WW(x:aA):tJ x=dh ([aM x.bC]++aQ x.aS++[dJ x.fBody]):=by cases x;rw[tJ];rfl
def oI:List aj→Nat
 |[]=>0
 |x::xs=>x.sz+oI xs
theorem EX:∀l,dz (l.map aj.enc)=oI l
 |[]=>rfl
 |x::xs=>by rw[List.map_cons,dz,oI,EX xs];rfl
def vY:List aA→Nat
 |[]=>0
 |x::xs=>x.sz+vY xs
theorem EY:∀l,dz (l.map aA.enc)=vY l
 |[]=>rfl
 |x::xs=>by rw[List.map_cons,dz,vY,EY xs];rfl
theorem qY(x:aj):x.sz=x.aU.length+x.fName.length+x.fType.sz+(x.fArgs.length+oI x.fArgs)+(x.aG.length+vY x.aG):=by
 rw[←EX,←EY];simp only[aj.sz,aj.aC,bS,eT,D.sz,List.length_map,ak.gJ];omega
theorem vH(x:aA):x.sz=x.bC.length+(x.aS.length+(x.aS.map List.length).sum)+x.fBody.sz:=by
 rw[←Ee];simp only[aA.sz,aA.aC,bS,eT,D.sz,List.length_map,aj.gJ];omega
theorem zL:∀(k n:Nat),n<10^ (k+1)→(Lib.decDigits n).length≤k+1
 |0,n,h=>by rw[Lib.decDigits,dif_pos (by simpa using h)];simp
 |k+1,n,h=>by
  rw[Lib.decDigits]
  split
  ·simp
  ·rw[List.length_append]
   have:=zL k (n/10) (by rw[Nat.pow_succ] at h;omega)
   simp;omega
theorem Z6{n:Int}(h: -999999≤n∧n≤999999):(Lib.itoa n).length≤7:=by
 unfold Lib.itoa
 split
 ·have:=zL 5 n.natAbs (by omega)
  simp;omega
 ·have:=zL 5 n.toNat (by omega)
  omega
theorem WX(k:Int)(tr nm:List UInt8)(ty:ak):(fI k tr nm ty).length≤3∧dn (fI k tr nm ty)≤18+tr.length+nm.length+16*ty.sz:=by
 have h:=VZ ty
 unfold fI
 repeat' (first|(split;·refine⟨by simp[aQ],?_⟩;simp[dn,aQ,kN,ku,fM,mP,mQ,qK,kC,nD,iC];omega))
 refine⟨by simp[aQ],?_⟩;simp[dn,aQ,kN,iC];omega
mutual
theorem Ho:∀x:aj,gL x=true→(dJ x).sz≤24+32*x.sz
 | .mk k tr nm n ty zs ms=>fun hok=>by
   rw[gL,Bool.and_eq_true,Bool.and_eq_true] at hok
   have hf:=iK hok.1
   have h1:=QK zs hok.2.1
   have h2:=QL ms hok.2.2
   have h3:=WX k tr nm ty
   rw[qY]
   simp only[aj.fName,aj.fArgs,aj.aU,aj.fType,aj.aG]
   rw[dJ]
   split
   ·rename_i hk
    have h4:=hf.2.2.2.1
    simp only[aj.aH,aj.fN,hk,if_true] at h4
    have:=Z6 h4
    rw[kN];omega
   ·split
    ·rw[kN];split<;>simp[uP,tq]<;>omega
    ·split
     ·rw[kN];omega
     ·rw[uh,jf,jf,List.length_append,List.length_append,xS,List.length_map,←xS]
      split
      ·simp[dn];omega
      ·rw[AO,List.length_map,←AO];omega
theorem QK:∀xs:List aj,iV xs=true→dn (vV xs)≤24*xs.length+32*oI xs
 |[],_=>by simp[vV,dn]
 |x::xs,h=>by
  rw[iV,Bool.and_eq_true] at h
  have h1:=Ho x h.1
  have h2:=QK xs h.2
  rw[vV,dn,oI,List.length_cons];omega
theorem adH:∀x:aA,qy x=true→(tJ x).sz≤26+32*x.sz
 | .mk c vs b=>fun hok=>by
   rw[qy,Bool.and_eq_true,Bool.and_eq_true] at hok
   have h1:=Ho b hok.2.2
   rw[vH]
   simp only[aA.bC,aA.aS,aA.fBody]
   rw[tJ,uh,jf,jf,List.length_append,List.length_append,lu,JI]
   simp[dn,kN];omega
theorem QL:∀xs:List aA,kH xs=true→dn (AL xs)≤26*xs.length+32*vY xs
 |[],_=>by simp[AL,dn]
 |x::xs,h=>by
  rw[kH,Bool.and_eq_true] at h
  have h1:=adH x h.1
  have h2:=QL xs h.2
  rw[AL,dn,vY,List.length_cons];omega
end
end Go.Ab
namespace Go.Ab
theorem Er(d:Nat)(h:d<10):Lib.digitVal (UInt8.ofNat (48+d))=some d:=by
 have:(UInt8.ofNat (48+d)).toNat=48+d:=by rw[UInt8.toNat_ofNat'];omega
 unfold Lib.digitVal
 rw[this,if_pos (by omega)]
 congr 1;omega
theorem xU:∀(l:List UInt8) (acc:Nat) (b:UInt8),Lib.decFrom acc (l++[b])=(Lib.decFrom acc l).bind fun m=>(Lib.digitVal b).map fun d=>m*10+d
 |[],acc,b=>by
  rw[List.nil_append,Lib.decFrom,Lib.decFrom]
  cases Lib.digitVal b<;>rfl
 |a::l,acc,b=>by
  rw[List.cons_append,Lib.decFrom,Lib.decFrom]
  cases Lib.digitVal a with
  |none=>rfl
  |some e=>exact xU l _ b
theorem uw(n:Nat):Lib.decFrom 0 (Lib.decDigits n)=some n:=by
 induction n using Nat.strongRecOn with
 |_ n ih=>
  rw[Lib.decDigits]
  split
  ·rename_i h
   rw[Lib.decFrom,Er n h]
   simp[Lib.decFrom]
  ·rename_i h
   rw[xU,ih (n/10) (by omega),Er _ (Nat.mod_lt _ (by decide))]
   simp only[Option.bind_some,Option.map_some,Option.some.injEq]
   omega
theorem uy(n:Nat):∃b r,Lib.decDigits n=b::r∧48≤b.toNat∧b.toNat≤57:=by
 induction n using Nat.strongRecOn with
 |_ n ih=>
  rw[Lib.decDigits]
  split
  ·rename_i h
   exact⟨_,_,rfl,by rw[UInt8.toNat_ofNat'];omega,by rw[UInt8.toNat_ofNat'];omega⟩
  ·rename_i h
   obtain⟨b,r,e,h1,h2⟩:=ih (n/10) (by omega)
   rw[e]
   exact⟨b,r++_,rfl,h1,h2⟩
theorem Bj(n:Nat):Lib.decNat (Lib.decDigits n)=some n:=by
 obtain⟨b,r,e,_⟩:=uy n
 unfold Lib.decNat
 rw[show(Lib.decDigits n).isEmpty=false from by rw[e];rfl]
 exact uw n
theorem CS(b:UInt8)(r:List UInt8):Lib.atoi (b::r)=if b==45 then(Lib.decNat r).map fun(m:Nat)=> -(m:Int) else if b==43 then(Lib.decNat r).map fun(m:Nat)=>(m:Int) else(Lib.decNat (b::r)).map fun(m:Nat)=>(m:Int):=rfl
theorem Kc(n:Int):Lib.atoi (Lib.itoa n)=some n:=by
 unfold Lib.itoa
 split
 ·rename_i h
  show Lib.atoi (45::Lib.decDigits n.natAbs)=_
  rw[CS,if_pos (by decide),Bj]
  simp only[Option.map_some,Option.some.injEq]
  omega
 ·rename_i h
  obtain⟨b,r,e,h1,h2⟩:=uy n.toNat
  have hd:=Bj n.toNat
  rw[e] at hd ⊢
  rw[CS,if_neg (by simp only[beq_iff_eq];intro h;rw[h] at h1;revert h1;decide),if_neg (by simp only[beq_iff_eq];intro h;rw[h] at h1;revert h1;decide),hd]
  simp only[Option.map_some,Option.some.injEq]
  omega
theorem abX(n:Int):Lib.itoa n≠[]:=fun e=>by
 have:=Kc n
 rw[e] at this
 cases this
def eG(s:List UInt8):Option Int:=match Lib.atoi s with
 |some n=>if(-999999999999≤n∧n≤999999999999)∧Lib.itoa n=s then some n else none
 |none=>none
theorem Hr{n:Int}(h: -999999999999≤n∧n≤999999999999):eG (Lib.itoa n)=some n:=by
 unfold eG
 rw[Kc]
 exact if_pos ⟨h,rfl⟩
theorem Ht{s:List UInt8}{n:Int}(h:eG s=some n):(-999999999999≤n∧n≤999999999999)∧Lib.itoa n=s:=by
 unfold eG at h
 split at h
 ·split at h
  ·cases h;assumption
  ·cases h
 ·cases h
theorem xV{b:UInt8}{r:List UInt8}(h:lowerB b):eG (b::r)=none:=by
 have h1:(b==45)=false:=by simp only[beq_eq_false_iff_ne];intro e;rw[e] at h;revert h;simp[lowerB]
 have h2:(b==43)=false:=by simp only[beq_eq_false_iff_ne];intro e;rw[e] at h;revert h;simp[lowerB]
 have h3:Lib.digitVal b=none:=if_neg (fun x=>by unfold lowerB at h;omega)
 unfold eG
 rw[CS,h1,h2]
 simp[Lib.decNat,Lib.decFrom,h3]
theorem TT{s:List UInt8}(h:validName s=true):eG s=none:=by
 have h1:=iK h
 have h2:=h1.2.2 0 (by omega)
 cases s with
 |nil=>simp at h1
 |cons b r=>
  rcases h2 with h2|h2
  ·exact xV h2
  ·exact(h2.1 rfl).elim
def iM:ak:=.mk 0 [] []
def kK:aj:=.mk 0 [] [] 0 iM [] []
mutual
def bM(b:Bool):ah→aj
 | .mk a l=>if a=[] then
    if b=true∧(l.length<2∨bW l 0=fM∧l.length<3) then kK
    else if bW l 0=ku then .mk 4 [] (bW l 1) 0 iM ((dF b l).drop 2) []
    else if bW l 0=mP then .mk 6 [] (bW l 1) 0 iM ((dF b l).drop 2) []
    else if bW l 0=mQ then .mk 8 [] (bW l 1) 0 iM ((dF b l).drop 2) []
    else if bW l 0=kC then .mk 11 (bW l 1) [] 0 iM ((dF b l).drop 2) []
    else if bW l 0=fM then .mk 5 (bW l 1) (bW l 2) 0 iM ((dF b l).drop 3) []
    else if bW l 0=qK then .mk 9 [] [] 0 iM ((dF b l).drop 1) []
    else if bW l 0=nD then .mk 12 [] [] 0 (eF b (l.getD 1 gq)) ((dF b l).drop 2) []
    else if bW l 0=iC then .mk 7 [] [] 0 iM (((dF b l).drop 1).take 1) ((jL b l).drop 2)
    else .mk 10 [] (bW l 0) 0 iM ((dF b l).drop 1) []
   else match eG a with
    |some n=>.mk 1 [] [] n iM [] []
    |none=>if a=uP then .mk 2 [] [] 1 iM [] [] else if a=tq then .mk 2 [] [] 0 iM [] [] else .mk 3 [] a 0 iM [] []
def dF(b:Bool):List ah→List aj
 |[]=>[]
 |x::xs=>bM b x::dF b xs
def lX(b:Bool):ah→aA
 | .mk a l=>if l.length<2 then .mk [] [] kK else .mk (bW l 0) (lW ((l.drop 1).dropLast)) ((dF b l).getLastD kK)
def jL(b:Bool):List ah→List aA
 |[]=>[]
 |x::xs=>lX b x::jL b xs
end
theorem vI(b:Bool):∀l,dF b l=l.map (bM b)
 |[]=>rfl
 |t::ts=>by rw[dF,List.map_cons,vI b ts]
theorem yK(b:Bool):∀l,jL b l=l.map (lX b)
 |[]=>rfl
 |t::ts=>by rw[jL,List.map_cons,yK b ts]
theorem iZ(b:Bool)(l m:List ah):dF b (l++m)=dF b l++dF b m:=by simp only[vI,List.map_append]
theorem lY(b:Bool)(l m:List ah):jL b (l++m)=jL b l++jL b m:=by simp only[yK,List.map_append]
theorem nE{t:ak}(h:yE t):t=iM:=ak.ext h.1 h.2.1 (List.eq_nil_of_length_eq_zero h.2.2)
theorem PL{s:List UInt8}(h:s∈ops):s≠[]∧∀w∈[ku,mP,mQ,kC,fM,qK,nD,iC],s≠w:=by
 have:=Wj h
 refine⟨fun e=>by rw[e] at this;simp at this,fun w hw e=> ?_⟩
 rw[e] at this
 simp only[List.mem_cons,List.not_mem_nil,or_false] at hw
 rcases hw with g|g|g|g|g|g|g|g<;>rw[g] at this<;>revert this<;>decide
set_option maxHeartbeats 2000000 in
mutual
theorem DR(b:Bool):∀e:aj,gL e=true→bM b (dJ e)=e
 | .mk k tr nm n ty zs ms=>fun hok=>by
   rw[gL,Bool.and_eq_true,Bool.and_eq_true] at hok
   have hf:=iK hok.1
   have h1:=NT b zs hok.2.1
   have h2:=NU b ms hok.2.2
   obtain⟨p0,p1,p2,p3,p4,p5,p6⟩:=hf
   simp only[aj.aH,aj.aU,aj.fName,aj.fN,aj.fType,aj.fArgs,aj.aG] at p0 p1 p2 p3 p4 p5 p6
   have nz:∀{l:List aj},l.length=0→l=[]:=fun h=>List.eq_nil_of_length_eq_zero h
   have CU:k≠7→ms=[]:=fun h=>List.eq_nil_of_length_eq_zero (by
    have:¬0<ms.length:=fun x=>h (p6.2 x)
    omega)
   have hk:k=1∨k=2∨k=3∨k=4∨k=5∨k=6∨k=7∨k=8∨k=9∨k=10∨k=11∨k=12:=by omega
   rcases hk with rfl|rfl|rfl|rfl|rfl|rfl|rfl|rfl|rfl|rfl|rfl|rfl
   all_goals simp only[if_true,if_false,true_or,or_true,false_or,or_false,or_self,(by decide:(1:Int)=5↔False),Int.reduceEq] at p1 p2 p3 p4 p5
   ·have e1:=nE p4;have e2:=nz p5;have e3:=CU (by decide)
    subst e1 e2 e3 p1 p2
    rw[dJ,if_pos rfl,aM,bM,if_neg (abX n),Hr (by omega)]
   ·have e1:=nE p4;have e2:=nz p5;have e3:=CU (by decide)
    subst e1 e2 e3 p1 p2
    rw[dJ,if_neg (by decide),if_pos rfl,aM,bM]
    rcases p3 with rfl|rfl
    ·rw[if_neg (by decide:¬(0:Int)=1),if_neg (by decide),show eG tq=none from xV (by simp[lowerB]),if_neg (by decide),if_pos rfl]
    ·rw[if_pos rfl,if_neg (by decide),show eG uP=none from xV (by simp[lowerB]),if_pos rfl]
   ·have e1:=nE p4;have e2:=nz p5;have e3:=CU (by decide)
    subst e1 e2 e3 p1 p3
    have hr:=(iK p2).2.1
    rw[dJ,if_neg (by decide),if_neg (by decide),if_pos rfl,aM,bM,if_neg (zK p2),TT p2,if_neg (fun e=>hr (by rw[e];simp[reserved,uP])),if_neg (fun e=>hr (by rw[e];simp[reserved,tq]))]
   all_goals have hz:(vV zs).length=zs.length:=by rw[xS,List.length_map]
   ·have e1:=nE p4;have e3:=CU (by decide)
    subst e1 e3 p1 p3
    simp[dJ,fI,dh,aQ,bM,dF,iZ,jL,lY,bW,aM,ah.aI,ku,fM,mP,iC,mQ,qK,kC,nD,h1,hz,h2]
    all_goals (intros;omega)
   ·have e1:=nE p4;have e3:=CU (by decide)
    subst e1 e3 p3
    simp[dJ,fI,dh,aQ,bM,dF,iZ,jL,lY,bW,aM,ah.aI,ku,fM,mP,iC,mQ,qK,kC,nD,h1,hz,h2]
    all_goals (intros;omega)
   ·have e1:=nE p4;have e3:=CU (by decide)
    subst e1 e3 p1 p3
    simp[dJ,fI,dh,aQ,bM,dF,iZ,jL,lY,bW,aM,ah.aI,ku,fM,mP,iC,mQ,qK,kC,nD,h1,hz,h2]
    all_goals (intros;omega)
   ·have e1:=nE p4
    subst e1 p1 p2 p3
    have hm:0<ms.length:=p6.1 rfl
    obtain⟨z,rfl⟩:∃z,zs=[z]:=by
     cases zs with
     |nil=>simp at p5
     |cons z t=>cases t with
      |nil=>exact⟨z,rfl⟩
      |cons _ _=>simp at p5
    simp only[vV,dF,List.cons.injEq,and_true] at h1
    simp[dJ,fI,dh,aQ,bM,dF,iZ,jL,lY,vV,bW,aM,ah.aI,ku,fM,mP,iC,mQ,qK,kC,nD,h1,h2]
    all_goals (intros;omega)
   ·have e1:=nE p4;have e3:=CU (by decide)
    subst e1 e3 p1 p3
    simp[dJ,fI,dh,aQ,bM,dF,iZ,jL,lY,bW,aM,ah.aI,ku,fM,mP,iC,mQ,qK,kC,nD,h1,hz,h2]
    all_goals (intros;omega)
   ·have e1:=nE p4;have e3:=CU (by decide)
    subst e1 e3 p1 p2 p3
    simp[dJ,fI,dh,aQ,bM,dF,iZ,jL,lY,bW,aM,ah.aI,ku,fM,mP,iC,mQ,qK,kC,nD,h1,hz,h2]
    all_goals (intros;omega)
   ·have e1:=nE p4;have e3:=CU (by decide)
    subst e1 e3 p1 p3
    have ho:=PL p2
    simp only[List.mem_cons,List.not_mem_nil,or_false,ne_eq,forall_eq_or_imp,forall_eq] at ho
    obtain⟨_,o1,o2,o3,o4,o5,o6,o7,o8⟩:=ho
    simp[dJ,fI,dh,aQ,bM,dF,iZ,bW,aM,ah.aI,h1,hz,o1,o2,o3,o4,o5,o6,o7,o8]
    all_goals (intros;omega)
   ·have e1:=nE p4;have e3:=CU (by decide)
    subst e1 e3 p2 p3
    simp[dJ,fI,dh,aQ,bM,dF,iZ,jL,lY,bW,aM,ah.aI,ku,fM,mP,iC,mQ,qK,kC,nD,h1,hz,h2]
    all_goals (intros;omega)
   ·have e3:=CU (by decide)
    subst e3 p1 p2 p3
    have ht:=QJ b ty (BQ p4)
    simp[dJ,fI,dh,aQ,bM,dF,iZ,bW,aM,ah.aI,ku,fM,mP,iC,mQ,qK,kC,nD,h1,hz,ht]
    all_goals (intros;omega)
theorem NT(b:Bool):∀es:List aj,iV es=true→dF b (vV es)=es
 |[],_=>rfl
 |t::ts,h=>by
  rw[iV,Bool.and_eq_true] at h
  rw[vV,dF,DR b t h.1,NT b ts h.2]
theorem abY(b:Bool):∀m:aA,qy m=true→lX b (tJ m)=m
 | .mk c vs e=>fun h=>by
   rw[qy,Bool.and_eq_true,Bool.and_eq_true] at h
   have he:=DR b e h.2.2
   rw[tJ,dh,lX,if_neg (by simp),iZ]
   have e1:bW ([aM c]++aQ vs++[dJ e]) 0=c:=rfl
   have e2:(([aM c]++aQ vs++[dJ e]).drop 1).dropLast=aQ vs:=by
    rw[List.append_assoc,List.singleton_append,List.drop_succ_cons,List.drop_zero,List.dropLast_concat]
   rw[e1,e2,NP (abW h.2.1)]
   congr 1
   rw[dF,he,List.getLastD_eq_getLast?,List.getLast?_append]
   simp[dF]
theorem NU(b:Bool):∀ms:List aA,kH ms=true→jL b (AL ms)=ms
 |[],_=>rfl
 |t::ts,h=>by
  rw[kH,Bool.and_eq_true] at h
  rw[AL,jL,abY b t h.1,NU b ts h.2]
end
theorem Hu:iM.sz=0:=by rw[qd];rfl
theorem vJ:kK.sz=0:=by rw[qY];simp[kK,aj.aU,aj.fName,aj.fType,aj.fArgs,aj.aG,Hu,oI,vY]
theorem TU(l:List ah):((lW ((l.drop 1).dropLast)).length+((lW ((l.drop 1).dropLast)).map List.length).sum)≤(l.drop 1).dropLast.length+dn ((l.drop 1).dropLast):=by
 have:=WS ((l.drop 1).dropLast)
 omega
theorem abZ(x:ah)(m:List ah)(y:ah):dn (x::(m++[y]))=x.sz+(dn m+y.sz):=by rw[dn,jf];simp[dn]
mutual
theorem wO(b:Bool):∀x:ah,(bM b x).sz≤x.sz
 | .mk a l=>by
   have g:=Ke b l
   have hl:(dF b l).length=l.length:=by rw[vI,List.length_map]
   have hm:(jL b l).length=l.length:=by rw[yK,List.length_map]
   rw[jB,kS];simp only[ah.aI,ah.au]
   rw[bM]
   split
   ·have g1:oI ((dF b l).drop 1)+(bW l 0).length≤dn l:=by
     have:=g 0
     simp only[Nat.zero_add,(by decide:¬(1≤0)),if_false] at this
     omega
    have g2:oI ((dF b l).drop 2)+((bW l 0).length+(bW l 1).length)≤dn l:=by
     have:=g 1
     simp only[Nat.reduceAdd,Nat.le_refl,if_true,Nat.sub_self] at this
     omega
    have g3:oI ((dF b l).drop 3)+((bW l 1).length+(bW l 2).length)≤dn l:=by
     have:=g 2
     simp only[Nat.reduceAdd,(by decide:1≤2),if_true,Nat.reduceSub] at this
     omega
    split
    ·rw[vJ];omega
    ·repeat' split
     all_goals rw[qY];simp only[aj.aU,aj.fName,aj.fType,aj.fArgs,aj.aG,Hu,oI,vY,List.length_nil,List.length_drop,List.length_take,hl,hm,List.drop_zero] at g1 g2 g3 ⊢
     all_goals try omega
     ·have h1:=QI b (l.getD 1 gq)
      have h2:oI ((dF b l).drop 2)+(l.getD 1 gq).sz≤dn l:=by
       match l with
       |[]=>simp[dF,oI,dn,EW]
       |[x]=>simp[dF,oI,dn,EW]
       |x::y::l=>
        have:=EZ b l
        simp only[dF,List.drop_succ_cons,List.drop_zero,dn]
        show _+y.sz≤_
        omega
      omega
     ·match l with
      |[]=>simp[oI,vY,dF,jL]
      |[x]=>simp[oI,vY,dF,jL]
      |x::y::l=>
       have h1:=wO b y
       have h2:=NW b l
       simp only[dF,jL,List.drop_succ_cons,List.drop_zero,List.take_succ_cons,List.take_zero,oI,dn,List.length_cons]
       omega
   ·split
    ·rw[qY];simp[aj.aU,aj.fName,aj.fType,aj.fArgs,aj.aG,Hu,oI,vY]
    ·repeat' split
     all_goals rw[qY];simp[aj.aU,aj.fName,aj.fType,aj.fArgs,aj.aG,Hu,oI,vY]
theorem EZ(b:Bool):∀l:List ah,oI (dF b l)≤dn l
 |[]=>by simp[dF,oI]
 |x::xs=>by
  have h1:=wO b x
  have h2:=EZ b xs
  rw[dF,oI,dn];omega
theorem Ke(b:Bool):∀(l:List ah) (i:Nat),oI ((dF b l).drop (i+1))+((if 1≤i then(bW l (i-1)).length else 0)+(bW l i).length)≤dn l
 |[],i=>by simp[dF,oI,zJ]
 |x::xs,0=>by
  have h2:=EZ b xs
  rw[dF,List.drop_succ_cons,List.drop_zero,dn,show bW (x::xs) 0=x.aI from rfl,jB];simp;omega
 |x::xs,i+1=>by
  have h2:=Ke b xs i
  rw[dF,List.drop_succ_cons,dn,show bW (x::xs) (i+1)=bW xs i from rfl]
  cases i with
  |zero=>rw[show bW (x::xs) (0+1-1)=x.aI from rfl,jB];simp at h2 ⊢;omega
  |succ i=>rw[show bW (x::xs) (i+1+1-1)=bW xs i from rfl];simp at h2 ⊢;omega
theorem ab0(b:Bool):∀x:ah,(lX b x).sz≤x.sz
 | .mk a l=>by
   rw[jB,kS];simp only[ah.aI,ah.au]
   rw[lX]
   split
   ·rw[vH];simp[aA.bC,aA.aS,aA.fBody,vJ]
   ·rename_i h
    have hn:=TU l
    have hb:=Hw b l
    rw[vH];simp only[aA.bC,aA.aS,aA.fBody]
    obtain⟨x,m,y,rfl⟩:∃x m y,l=x::(m++[y]):=by
     cases l with
     |nil=>simp at h
     |cons x l=>
      have hl:l≠[]:=fun e=>by rw[e] at h;simp at h
      exact⟨x,l.dropLast,l.getLast hl,by rw[List.dropLast_concat_getLast]⟩
    rw[abZ] at *
    rw[show bW (x::(m++[y])) 0=x.aI from rfl,jB x]
    simp only[List.drop_succ_cons,List.drop_zero,List.dropLast_concat,List.length_cons,List.length_append,List.length_nil] at hn ⊢
    have hy:((x::(m++[y])).getLastD gq)=y:=by rw[←List.cons_append,List.getLastD_eq_getLast?,List.getLast?_append];simp
    rw[hy] at hb
    omega
theorem NW(b:Bool):∀l:List ah,vY (jL b l)≤dn l
 |[]=>by simp[jL,vY]
 |x::xs=>by
  have h1:=ab0 b x
  have h2:=NW b xs
  rw[jL,vY,dn];omega
theorem Hw(b:Bool):∀l:List ah,((dF b l).getLastD kK).sz≤(l.getLastD gq).sz
 |[]=>by simp[dF,vJ]
 |[x]=>by simpa [dF] using wO b x
 |x::y::l=>by
  have:=Hw b (y::l)
  simpa [dF] using this
end
theorem NY{x:aj}(h:jv x=true):gL x=true:=by rw[jv,Bool.and_eq_true] at h;exact h.2
noncomputable def vZ(x:ah):Bool:=dec (fT x=true∧jv (bM true x)=true∧dJ (bM true x)=x)
theorem Z7(x:ah):vZ x=dec (fT x=true∧jv (bM false x)=true∧dJ (bM false x)=x):=by
 have key:∀b c:Bool,jv (bM b x)=true→dJ (bM b x)=x→bM c x=bM b x:=fun b c h1 h2=>by
  conv=>lhs;rw[←h2]
  exact DR c _ (NY h1)
 refine mh ⟨fun⟨h0,h1,h2⟩=> ?_,fun⟨h0,h1,h2⟩=> ?_⟩
 ·rw[key true false h1 h2];exact⟨h0,h1,h2⟩
 ·rw[key false true h1 h2];exact⟨h0,h1,h2⟩
theorem Z8{x:ah}(h:vZ x=true):bM false x=bM true x:=by
 have h1:=iK h
 conv=>lhs;rw[←h1.2.2]
 exact DR false _ (NY h1.2.1)
noncomputable def CV(x:ah):aj:=if vZ x=true then bM true x else kK
theorem adI{x:ah}(h:x.sz≤1048576):(CV x).sz≤1048576:=by
 have:=wO true x
 unfold CV
 split
 ·omega
 ·rw[vJ];omega
end Go.Ab
namespace Go.Proofs
open Go.Shelf
def Tryz.laysM171_ren:Go.Shelf.Ren:=⟨fun|171=>201|243=>264|246=>305|283=>324|284=>325|285=>326|286=>327|129=>343|317=>342|318=>344|319=>345|320=>346|337=>353|338=>354|n=>n,fun|3=>3|9=>9|2=>2|4=>4|171=>281|0=>0|53=>282|37=>127|5=>5|173=>285|212=>303|51=>293|20=>20|213=>304|46=>262|232=>316|233=>317|n=>n,fun|17=>5|18=>6|19=>7|n=>n⟩
theorem Tryz.laysM171:Go.Proofs.LaysM.n171 Tryz.prog Tryz.laysM171_ren:={
 mixed:=by kernel_rfl
 f129:=Tryz.func343.trans (congrArg some (by kernel_rfl))
 f171:=Tryz.func201.trans (congrArg some (by kernel_rfl))
 f243:=Tryz.func264.trans (congrArg some (by kernel_rfl))
 f246:=Tryz.func305.trans (congrArg some (by kernel_rfl))
 f283:=Tryz.func324.trans (congrArg some (by kernel_rfl))
 f284:=Tryz.func325.trans (congrArg some (by kernel_rfl))
 f285:=Tryz.func326.trans (congrArg some (by kernel_rfl))
 f286:=Tryz.func327.trans (congrArg some (by kernel_rfl))
 f317:=Tryz.func342.trans (congrArg some (by kernel_rfl))
 f318:=Tryz.func344.trans (congrArg some (by kernel_rfl))
 f319:=Tryz.func345.trans (congrArg some (by kernel_rfl))
 f320:=Tryz.func346.trans (congrArg some (by kernel_rfl))
 f337:=Tryz.func353.trans (congrArg some (by kernel_rfl))
 f338:=Tryz.func354.trans (congrArg some (by kernel_rfl))
 t0:=Tryz.underlying0
 a0:=Tryz.isAgg0
 z0:=Tryz.sizeOf0
 v0:=Tryz.zeroValue0
 t2:=Tryz.underlying2
 a2:=Tryz.isAgg2
 z2:=Tryz.sizeOf2
 v2:=Tryz.zeroValue2
 t3:=Tryz.underlying3
 a3:=Tryz.isAgg3
 z3:=Tryz.sizeOf3
 v3:=Tryz.zeroValue3
 t4:=Tryz.underlying4
 a4:=Tryz.isAgg4
 z4:=Tryz.sizeOf4
 v4:=Tryz.zeroValue4
 t5:=Tryz.underlying5
 a5:=Tryz.isAgg5
 z5:=Tryz.sizeOf5
 v5:=Tryz.zeroValue5
 t9:=Tryz.underlying9
 a9:=Tryz.isAgg9
 z9:=Tryz.sizeOf9
 v9:=Tryz.zeroValue9
 t20:=Tryz.underlying20
 a20:=Tryz.isAgg20
 z20:=Tryz.sizeOf20
 v20:=Tryz.zeroValue20
 t37:=Tryz.underlying127
 a37:=Tryz.isAgg127
 z37:=Tryz.sizeOf127
 v37:=Tryz.zeroValue127
 t46:=Tryz.underlying262
 a46:=Tryz.isAgg262
 z46:=Tryz.sizeOf262
 v46:=Tryz.zeroValue262
 t51:=Tryz.underlying293
 a51:=Tryz.isAgg293
 z51:=Tryz.sizeOf293
 v51:=Tryz.zeroValue293
 t53:=Tryz.underlying282
 a53:=Tryz.isAgg282
 z53:=Tryz.sizeOf282
 v53:=Tryz.zeroValue282
 t171:=Tryz.underlying281
 a171:=Tryz.isAgg281
 z171:=Tryz.sizeOf281
 v171:=Tryz.zeroValue281
 t173:=Tryz.underlying285
 a173:=Tryz.isAgg285
 z173:=Tryz.sizeOf285
 v173:=Tryz.zeroValue285
 t212:=Tryz.underlying303
 a212:=Tryz.isAgg303
 z212:=Tryz.sizeOf303
 v212:=Tryz.zeroValue303
 t213:=Tryz.underlying304
 a213:=Tryz.isAgg304
 z213:=Tryz.sizeOf304
 t232:=Tryz.underlying316
 a232:=Tryz.isAgg316
 z232:=Tryz.sizeOf316
 v232:=Tryz.zeroValue316
 t233:=Tryz.underlying317
 a233:=Tryz.isAgg317
 z233:=Tryz.sizeOf317
 v233:=Tryz.zeroValue317
 g17:=by kernel_rfl
 g18:=by kernel_rfl
 g19:=by kernel_rfl
 i0:=by kernel_rfl
 i2:=by kernel_rfl
 i3:=by kernel_rfl
 i4:=by kernel_rfl
 i5:=by kernel_rfl
 i9:=by kernel_rfl
 i20:=by kernel_rfl
 i37:=by kernel_rfl
 i46:=by kernel_rfl
 i51:=by kernel_rfl
 i53:=by kernel_rfl
 i171:=by kernel_rfl
 i173:=by kernel_rfl
 i212:=by kernel_rfl
 i232:=by kernel_rfl
 i233:=by kernel_rfl
 m17:=by kernel_rfl
 m18:=by kernel_rfl
 m19:=by kernel_rfl}
open Go.RowKit Go.Sort Go.Lib in
theorem Tryz.strconv_Itoa(n:Int)(h0: -9223372036854775808≤n)(h1:n≤9223372036854775807)(w:World)(htab:Lib.TabIs Tryz.prog w "internal/strconv.uint64pow10" .u64 Lib.pow10Tab):
 Calls Tryz.prog 201 #[.int .i64 n] w fun e w'=>e=.returned (.string ⟨(Lib.itoa n).toArray⟩)∧∃k os,w'=grow (w.drewN k) os:=Any.strconv_Itoa Tryz.laysM171 n h0 h1 w htab
end Go.Proofs
namespace Go.Ab
theorem TV{w:World}{σ:Nat→Nat}{k:Nat}{os:Array Go.Obj}(hl:∀b,b<w.heap.size∨σ b=0):Grow w σ (Go.Sort.grow (w.drewN k) os) σ:=by
 have hh:(Go.Sort.grow (w.drewN k) os).heap=w.heap++os:=rfl
 refine⟨by rw[hh];simp,rfl,rfl,fun b hb=>⟨by rw[hh,Array.getElem?_append_left hb],rfl⟩,fun b=> ?_⟩
 rcases hl b with h|h
 ·left;rw[hh];simp;omega
 ·exact .inr h
theorem ab1{x:V}{vs:List Value}{w:World}{σ:Nat→Nat}{S:Store}{β:Hs}(h:kM w σ S β [x] vs):∃v,vs=[v]∧bF w σ S β x v:=by
 obtain⟨hl,h⟩:=h
 obtain⟨v,e,hr⟩:=h 0 x rfl
 match vs,hl,e with
 |[y],_,e=>simp at e;subst e;exact⟨_,rfl,hr⟩
end Go.Ab
namespace Go.Proofs.YtokkjobjffhfjaaGreatDoor
open Go Go.Ab
theorem Kg{w:World}{σ:Nat→Nat}(h:iN w σ):Lib.TabIs Tryz.prog w "internal/strconv.uint64pow10" .u64 Lib.pow10Tab:=by
 obtain⟨c,t,fz,q1,q2,q3⟩:=h _ _ (show _∈Qc from List.mem_cons_self ..)
 have hn:Tryz.prog.globalNamed "internal/strconv.uint64pow10" =some 5:=by kernel_rfl
 unfold Lib.TabIs World.var?
 rw[hn]
 simp only[Option.bind_some,q1,Option.some.injEq]
 apply Array.ext'
 rw[q2]
 simp[Lib.pow10Tab]
theorem ab2(n:Int)(h0: -9223372036854775808≤n)(h1:n≤9223372036854775807):aD Tryz.prog 201 [.c (.d (.i .i64 n))] (.c (.d (.s (Lib.itoa n)))):=fun S=>by
 refine⟨⟨_,Tryz.func201,by kernel_rfl,by kernel_rfl⟩,fun w σ β vs hS hv=> ?_⟩
 obtain⟨v,rfl,hr,_⟩:=ab1 hv
 have hv0:v=.int .i64 n:=by cases hr;rfl
 subst hv0
 refine(Tryz.strconv_Itoa n h0 h1 w (Kg hS.mY)).mono fun e w' ⟨he,k,os,hw⟩=> ?_
 subst hw
 have hg:Grow w σ (Go.Sort.grow (w.drewN k) os) σ:=TV hS.live
 exact⟨_,.c (.d (.s (Lib.itoa n))),S,σ,β,he,hS.grow hg,Keep.refl _ _,Step.jM hg,⟨.s _,rfl⟩,rfl,rfl⟩
theorem E5(n:Int)(h0: -9223372036854775808≤n)(h1:n≤9223372036854775807):aD Tryz.prog 138 [.c (.d (.i .i64 n))] (.c (.d (.s (Lib.itoa n)))):=fun S=>by
 refine aB (rs:=[.tmp 2]) Tryz.checked.mixed Tryz.func138 Tryz.ntmps138 rfl rfl rfl rfl rfl ?_
 refine W1 ?_
 exact C4 (ab2 n h0 h1)
end Go.Proofs.YtokkjobjffhfjaaGreatDoor
namespace Go.Ab
def CX(m:Nat):List UInt8:=if m=0 then [] else Lib.decDigits m
theorem WY{m:Nat}(h:m≠0):CX (m/10)++[UInt8.ofNat (48+m % 10)]=CX m:=by
 unfold CX
 rw[if_neg h]
 conv=>rhs;rw[Lib.decDigits]
 by_cases h10:m<10
 ·rw[dif_pos h10,if_pos (by omega),List.nil_append,Nat.mod_eq_of_lt h10]
 ·rw[dif_neg h10,if_neg (by omega)]
theorem Z9(n:Int)(h0: -9223372036854775808≤n)(h1:n≤9223372036854775807):∃sg:Nat→Int,sg 0=0∧sg n.natAbs=n∧(∀m,m≠0→sg m≠0)∧(∀m,(sg m).tmod 10= -((m % 10:Nat):Int)∨(sg m).tmod 10=((m % 10:Nat):Int))∧
 (∀m,(sg m).tdiv 10=sg (m/10))∧∀m,m≤n.natAbs→ -9223372036854775808≤sg m∧sg m≤9223372036854775807:=by
 by_cases h:n<0
 ·refine⟨fun m=> -(m:Int),rfl,by simp only;omega,fun m hm=>by simp only;omega,fun m=>.inl ?_,fun m=> ?_,fun m hm=>by simp only;omega⟩
  ·simp only;rw[Int.neg_tmod];congr 1
  ·simp only;rw[Int.neg_tdiv];congr 1
 ·refine⟨fun m=>(m:Int),rfl,by simp only;omega,fun m hm=>by simp only;omega,fun m=>.inr rfl,fun m=>rfl,fun m hm=>by simp only;omega⟩
theorem WZ:Lib.itoa 0=[48]:=by
 unfold Lib.itoa
 rw[if_neg (by decide),Lib.decDigits,dif_pos (by decide)];rfl
theorem TW(a:Nat)(h:a≤9223372036854775808):(Lib.decDigits a).length≤19:=zL 18 a (by omega)
end Go.Ab
namespace Go.Proofs.YtokkjobjffhfjaaGreatDoor
open Go Go.Ab
theorem qZ(n:Int)(h0: -9223372036854775808≤n)(h1:n≤9223372036854775807):aD Tryz.prog 120 [.c (.d (.i .i64 n))] (.c (.d (.s (Lib.itoa n)))):=fun S=>by
 obtain⟨sg,g0,gn,gne,agT,agU,adJ⟩:=Z9 n h0 h1
 refine aB (rs:=[.tmp 2]) Tryz.checked.mixed Tryz.func120 Tryz.ntmps120 rfl rfl rfl rfl rfl ?_
 refine W1 ?_
 refine S0 (fun hb h=>?_) fun hb h=>?_
 ·rw[h,WZ]
 have hn0:=h
 have hd0:CX n.natAbs=Lib.decDigits n.natAbs:=by unfold CX;rw[if_neg (by omega)]
 have hln:=TW n.natAbs (by omega)
 refine aW (ι:=Nat×List UInt8) Tryz.checked.mixed rfl [0,3,4] (fun y=>[.c (.d (.i .i64 (sg y.1))),.c (.d (.b (decide (n<0)))),.c (.d (.s y.2))]) (fun _=>[]::S)
  (fun y=>y.1≤n.natAbs∧CX y.1++y.2=CX n.natAbs∧y.2.length≤19) (fun y=>y.1) (n.natAbs,[]) (by rw[gn];rfl) rfl ⟨Nat.le_refl _,List.append_nil _,by simp⟩ ?_
 rintro⟨m,out⟩ ⟨p1,p2,p3⟩
 simp only at p1 p2 p3
 have hr:=adJ m p1
 have hm:=agT m
 have hq:=agU m
 generalize hx:sg m=x at *
 generalize hy:x.tmod 10=y at *
 have hlo:out.length≤19:=p3
 refine W1 ?_
 refine S0 (fun hb h=>?_) fun hb h=>?_
 ·have hm0:m≠0:=fun e=>by rw[e,g0] at hx;omega
  have hst:=WY hm0
  have hr2:=adJ (m/10) (by omega)
  have ahI:(CX (m/10)).length+1+out.length≤19:=by
   have:=congrArg List.length p2
   rw[←hst,hd0] at this
   simp only[List.length_append,List.length_cons,List.length_nil] at this
   omega
  simp -implicitDefEqProofs (disch:=omega) only[go_sem,hy]
  refine S0 (fun hb h=>?_) fun hb h=>?_
  ·have e1:(0:Int)-y=((m % 10:Nat):Int):=by omega
   have hc:UInt8.ofNat (IntKind.u8.wrap (48+(0-y))).toNat=UInt8.ofNat (48+m % 10):=by
    rw[wrap_u8 _ (by omega),e1]
    congr 1
   simp -implicitDefEqProofs (disch:=omega) only[go_sem,hy,hq]
   refine W3 ?_
   refine bK (m/10,UInt8.ofNat (48+m % 10)::out) (by simp only;omega) (by rw[←hc];rfl) rfl ⟨by simp only;omega,?_,by simp only[List.length_cons];omega⟩
   simp only
   rw[←p2,←hst,List.append_assoc];rfl
  ·have e1:y=((m % 10:Nat):Int):=by omega
   have hc:UInt8.ofNat (IntKind.u8.wrap (48+y)).toNat=UInt8.ofNat (48+m % 10):=by
    rw[wrap_u8 _ (by omega),e1]
    congr 1
   simp -implicitDefEqProofs (disch:=omega) only[go_sem,hy,hq]
   refine W3 ?_
   refine bK (m/10,UInt8.ofNat (48+m % 10)::out) (by simp only;omega) (by rw[←hc];rfl) rfl ⟨by simp only;omega,?_,by simp only[List.length_cons];omega⟩
   simp only
   rw[←p2,←hst,List.append_assoc];rfl
 ·have hm0:m=0:=by
   rcases Nat.eq_zero_or_pos m with e|e
   ·exact e
   ·exact absurd (by rw[hx];omega) (gne m (by omega))
  subst hm0
  have hout:out=Lib.decDigits n.natAbs:=by rw[←hd0,←p2];rfl
  refine S0 (fun hb h=>?_) fun hb h=>?_
  ·refine W3 ?_
   rw[hout]
   unfold Lib.itoa
   rw[if_pos h]
  ·rw[hout]
   unfold Lib.itoa
   rw[if_neg h,show n.toNat=n.natAbs by omega]
end Go.Proofs.YtokkjobjffhfjaaGreatDoor
namespace Go.Ab
def tu(s:List UInt8):Prop:=s.head? =some 45
instance (s:List UInt8):Decidable (tu s):=inferInstanceAs (Decidable (_=_))
def dA(s:List UInt8):List UInt8:=if tu s then s.tail else s
theorem vK:∀(l:List UInt8) (acc v:Nat),Lib.decFrom acc l=some v→∀b∈l,48≤b.toNat∧b.toNat≤57
 |[],_,_,_,b,hb=>by cases hb
 |a::l,acc,v,h,b,hb=>by
  rw[Lib.decFrom] at h
  cases hd:Lib.digitVal a with
  |none=>rw[hd] at h;cases h
  |some d=>
   rw[hd] at h
   rcases List.mem_cons.1 hb with rfl|hb
   ·unfold Lib.digitVal at hd
    split at hd
    ·assumption
    ·cases hd
   ·exact vK l _ v h b hb
theorem PN{b:UInt8}(h:48≤b.toNat∧b.toNat≤57):Lib.digitVal b=some (b.toNat-48):=if_pos h
theorem decFrom_take{t:List UInt8}{i acc:Nat}(hi:i<t.length)(h:Lib.decFrom 0 (t.take i)=some acc)(hd:48≤t[i].toNat∧t[i].toNat≤57):Lib.decFrom 0 (t.take (i+1))=some (acc*10+(t[i].toNat-48)):=by
 rw[List.take_succ_eq_append_getElem hi,xU,h,PN hd];rfl
theorem CY{s:List UInt8}{m:Int}(h:eG s=some m):(tu s↔m<0)∧dA s=Lib.decDigits m.natAbs∧1≤(dA s).length∧(dA s).length≤12:=by
 obtain⟨hr,he⟩:=Ht h
 have hl:(Lib.decDigits m.natAbs).length≤12:=zL 11 _ (by omega)
 obtain⟨b,r,e,b1,b2⟩:=uy m.natAbs
 have hl1:1≤(Lib.decDigits m.natAbs).length:=by rw[e];simp
 unfold Lib.itoa at he
 by_cases hn:m<0
 ·rw[if_pos hn] at he
  have hs:tu s:=by rw[←he];rfl
  have hb:dA s=Lib.decDigits m.natAbs:=by unfold dA;rw[if_pos hs,←he];rfl
  exact⟨⟨fun _=>hn,fun _=>hs⟩,hb,by rw[hb];exact⟨hl1,hl⟩⟩
 ·rw[if_neg hn,show m.toNat=m.natAbs by omega] at he
  have hs:¬tu s:=fun x=>by
   rw[←he,e] at x
   unfold tu at x
   simp only[List.head?_cons,Option.some.injEq] at x
   rw[x] at b1;revert b1;decide
  have hb:dA s=Lib.decDigits m.natAbs:=by unfold dA;rw[if_neg hs,←he]
  exact⟨⟨fun x=>(hs x).elim,fun x=>(hn x).elim⟩,hb,by rw[hb];exact⟨hl1,hl⟩⟩
theorem qL{s:List UInt8}(h:(dA s).length<1∨12<(dA s).length):eG s=none:=by
 cases hr:eG s with
 |none=>rfl
 |some m=>have:=(CY hr).2.2;omega
theorem yL{s:List UInt8}{i:Nat}(hi:i<(dA s).length)(h:¬(48≤(dA s)[i].toNat∧(dA s)[i].toNat≤57)):eG s=none:=by
 cases hr:eG s with
 |none=>rfl
 |some m=>
  have hk:=(CY hr).2.1
  have hd:=uw m.natAbs
  rw[←hk] at hd
  exact absurd (vK _ _ _ hd _ (List.getElem_mem hi)) h
theorem Kh{s:List UInt8}{v:Nat}(hv:Lib.decFrom 0 (dA s)=some v)(hb:v≤999999999999):eG s=if Lib.itoa (if tu s then -(v:Int) else v)=s then some (if tu s then -(v:Int) else v) else none:=by
 obtain⟨z,hz⟩:∃z,z=(if tu s then -(v:Int) else v):=⟨_,rfl⟩
 have hzb: -999999999999≤z∧z≤999999999999:=by rw[hz];split<;>omega
 rw[←hz]
 by_cases h:Lib.itoa z=s
 ·rw[if_pos h]
  conv=>lhs;rw[←h]
  exact Hr hzb
 ·rw[if_neg h]
  cases hr:eG s with
  |none=>rfl
  |some m=>
   have hk:=CY hr
   have hd:=uw m.natAbs
   rw[←hk.2.1,hv] at hd
   have hm:v=m.natAbs:=by simpa using hd
   have:z=m:=by
    rw[hz]
    by_cases hn:tu s
    ·have:=hk.1.1 hn
     rw[if_pos hn];omega
    ·rw[if_neg hn]
     have:¬m<0:=fun x=>hn (hk.1.2 x)
     omega
   rw[this] at h
   exact absurd (Ht hr).2 h
end Go.Ab
namespace Go.Proofs.YtokkjobjffhfjaaGreatDoor
open Go Go.Ab
theorem PO(s:List UInt8)(hs:s.length≤1073741824):aD Tryz.prog 177 [.c (.d (.s s)),.c (.d (.i .i64 12))] (.dw [(false,[.d (.i .i64 ((eG s).getD 0))]),(false,[.d (.b (eG s).isSome)])]):=fun S=>by
 have d0:eG s=none→V.dw [(false,[.d (.i .i64 0)]),(false,[.d (.b false)])]=.dw [(false,[.d (.i .i64 ((eG s).getD 0))]),(false,[.d (.b (eG s).isSome)])]:=fun e=>by rw[e];rfl
 refine aB (rs:=[.tmp 4,.tmp 5]) Tryz.checked.mixed Tryz.func177 Tryz.ntmps177 rfl rfl rfl rfl rfl ?_
 refine W1 ?_
 refine S0 (fun hb h=>?_) fun hb h=>?_
 ·have hpos:0<s.length:=by omega
  have h0:(s.getD 0 0).toNat=45↔tu s:=by
   cases s with
   |nil=>simp at hpos
   |cons b s=>
    unfold tu
    simp only[List.getD_cons_zero,List.head?_cons,Option.some.injEq]
    constructor
    ·intro e;exact UInt8.toNat.inj e
    ·intro e;rw[e];rfl
  refine W3 ?_
  refine S0 (fun hb h=>?_) fun hb h=>?_
  ·have hn:tu s:=h0.1 (by omega)
   have hb:dA s=(s.take s.length).drop 1:=by unfold dA;rw[if_pos hn,List.take_length,List.drop_one]
   refine W3 ?_
   rw[←hb]
   have hbl:(dA s).length≤s.length:=by rw[hb];simp
   refine S0 (fun hb h=>?_) fun hb h=>?_
   ·exact d0 (qL (by omega))
   refine S0 (fun hb h=>?_) fun hb h=>?_
   ·exact d0 (qL (by omega))
   have hl1:1≤(dA s).length:=by omega
   have hl12:(dA s).length≤12:=by omega
   refine aW (ι:=Nat×Nat) Tryz.checked.mixed rfl [0,6,7,8,9] (fun y=>[.c (.d (.s s)),.c (.d (.b true)),.c (.d (.s (dA s))),.c (.d (.i .i64 y.2)),.c (.d (.i .i64 y.1))]) (fun _=>[]::S)
    (fun y=>y.1≤(dA s).length∧Lib.decFrom 0 ((dA s).take y.1)=some y.2∧y.2<10^y.1) (fun y=>(dA s).length-y.1) (0,0) rfl rfl ⟨Nat.zero_le _,rfl,by decide⟩ ?_
   rintro⟨i,acc⟩ ⟨p1,p2,p3⟩
   simp only at p1 p2 p3
   have p4:10^i≤10^12:=Nat.pow_le_pow_right (by decide) (by omega)
   refine W1 ?_
   refine S0 (fun hb h=>?_) fun hb h=>?_
   ·have hi:i<(dA s).length:=by omega
    have e:(dA s).getD i 0=(dA s)[i]:=by simp[List.getD,hi]
    have hbb:=(dA s)[i].toNat_lt
    refine W3 ?_
    simp only[e]
    refine S0 (fun hb h=>?_) fun hb h=>?_
    ·exact d0 (yL hi (by omega))
    refine W3 ?_
    simp only[e]
    refine S0 (fun hb h=>?_) fun hb h=>?_
    ·exact d0 (yL hi (by omega))
    have hdg:48≤(dA s)[i].toNat∧(dA s)[i].toNat≤57:=by omega
    have ht:=decFrom_take hi p2 hdg
    have e2:(10:Int)*acc+(((dA s)[i].toNat:Int)-48)=((acc*10+((dA s)[i].toNat-48):Nat):Int):=by omega
    refine W3 ?_
    simp -implicitDefEqProofs (disch:=omega) only[go_sem,wrap_u8,e]
    rw[e2]
    exact bK (i+1,acc*10+((dA s)[i].toNat-48)) (by simp only;omega) rfl rfl ⟨by simp only;omega,ht,by simp only[Nat.pow_succ];omega⟩
   ·have hi:i=(dA s).length:=by omega
    have hv:Lib.decFrom 0 (dA s)=some acc:=by rw[hi,List.take_length] at p2;exact p2
    have rD:=Kh hv (by omega)
    rw[if_pos hn] at rD
    rw[show(0:Int)-acc= -(acc:Int) by omega]
    refine C1 (qZ (-(acc:Int)) (by omega) (by omega)) ?_
    refine S0 (fun hb h=>?_) fun hb h=>?_
    ·exact d0 (rD.trans (if_neg h))
    ·rw[rD.trans (if_pos h)];rfl
  ·have hn:¬tu s:=fun x=>h (by rw[h0.2 x];rfl)
   have hbs:dA s=s:=by unfold dA;rw[if_neg hn]
   have hbl:(dA s).length=s.length:=by rw[hbs]
   refine S0 (fun hb h=>?_) fun hb h=>?_
   ·exact d0 (qL (by omega))
   refine S0 (fun hb h=>?_) fun hb h=>?_
   ·exact d0 (qL (by omega))
   have hl1:1≤(dA s).length:=by omega
   have hl12:(dA s).length≤12:=by omega
   refine aW (ι:=Nat×Nat) Tryz.checked.mixed rfl [0,6,7,8,9] (fun y=>[.c (.d (.s s)),.c (.d (.b false)),.c (.d (.s (dA s))),.c (.d (.i .i64 y.2)),.c (.d (.i .i64 y.1))]) (fun _=>[]::S)
    (fun y=>y.1≤(dA s).length∧Lib.decFrom 0 ((dA s).take y.1)=some y.2∧y.2<10^y.1) (fun y=>(dA s).length-y.1) (0,0) (by rw[hbs];rfl) rfl ⟨Nat.zero_le _,rfl,by decide⟩ ?_
   rintro⟨i,acc⟩ ⟨p1,p2,p3⟩
   simp only at p1 p2 p3
   have p4:10^i≤10^12:=Nat.pow_le_pow_right (by decide) (by omega)
   refine W1 ?_
   refine S0 (fun hb h=>?_) fun hb h=>?_
   ·have hi:i<(dA s).length:=by omega
    have e:(dA s).getD i 0=(dA s)[i]:=by simp[List.getD,hi]
    have hbb:=(dA s)[i].toNat_lt
    refine W3 ?_
    simp only[e]
    refine S0 (fun hb h=>?_) fun hb h=>?_
    ·exact d0 (yL hi (by omega))
    refine W3 ?_
    simp only[e]
    refine S0 (fun hb h=>?_) fun hb h=>?_
    ·exact d0 (yL hi (by omega))
    have hdg:48≤(dA s)[i].toNat∧(dA s)[i].toNat≤57:=by omega
    have ht:=decFrom_take hi p2 hdg
    have e2:(10:Int)*acc+(((dA s)[i].toNat:Int)-48)=((acc*10+((dA s)[i].toNat-48):Nat):Int):=by omega
    refine W3 ?_
    simp -implicitDefEqProofs (disch:=omega) only[go_sem,wrap_u8,e]
    rw[e2]
    exact bK (i+1,acc*10+((dA s)[i].toNat-48)) (by simp only;omega) rfl rfl ⟨by simp only;omega,ht,by simp only[Nat.pow_succ];omega⟩
   ·have hi:i=(dA s).length:=by omega
    have hv:Lib.decFrom 0 (dA s)=some acc:=by rw[hi,List.take_length] at p2;exact p2
    have rD:=Kh hv (by omega)
    rw[if_neg hn] at rD
    refine C1 (qZ ((acc:Int)) (by omega) (by omega)) ?_
    refine S0 (fun hb h=>?_) fun hb h=>?_
    ·exact d0 (rD.trans (if_neg h))
    ·rw[rD.trans (if_pos h)];rfl
 ·have hs0:s=[]:=List.eq_nil_of_length_eq_zero (by omega)
  have hb0:(dA s).length=0:=by rw[hs0];rfl
  refine S0 (fun hb h=>?_) fun hb h=>?_
  ·exact d0 (qL (by omega))
  ·omega
theorem Hy(s:List UInt8)(hs:s.length≤1073741824):aD Tryz.prog 110 [.c (.d (.s s))] (.dw [(false,[.d (.i .i64 ((eG s).getD 0))]),(false,[.d (.b (eG s).isSome)])]):=fun S=>by
 refine aB (rs:=[.tmp 2,.tmp 3]) Tryz.checked.mixed Tryz.func110 Tryz.ntmps110 rfl rfl rfl rfl rfl ?_
 refine W1 ?_
 exact C4 (PO s hs)
end Go.Proofs.YtokkjobjffhfjaaGreatDoor
namespace Go.Ab
theorem W9{x:ah}{i:Nat}(hi:i<x.au.length)(h:x.sz≤4194304):x.au[i].sz≤4194304:=by
 have:=ny (List.getElem_mem hi)
 rw[jB,kS] at h
 omega
theorem Xa{x:ah}(h:x.sz≤4194304):x.aI.length≤4194304∧x.au.length≤4194304:=by
 rw[jB] at h
 omega
end Go.Ab
namespace Go.Proofs.YtokkjobjffhfjaaGreatDoor
open Go Go.Ab
theorem vL:∀n:Nat,∀x:ah,SizeOf.sizeOf x<n→∀y:ah,x.sz≤4194304→aD Tryz.prog 63 [x.v,y.v] (.c (.d (.b (dec (x=y)))))
 |0=>fun x h=>by omega
 |n+1=>by
  have ih:=vL n
  intro x hn y hsz S
  have aft:=ah.oM x
  have hb:=Xa hsz
  refine aB (rs:=[.tmp 4]) Tryz.checked.mixed Tryz.func63 Tryz.ntmps63 rfl rfl rfl rfl rfl ?_
  refine W1 ?_
  refine S0 (fun hb h=>?_) fun hb h=>?_
  ·exact aK (aN (fun e=>h (by rw[e]))).symm
  have h1:=h
  refine S0 (fun hb h=>?_) fun hb h=>?_
  ·exact aK (aN (fun e=>h (by rw[e]))).symm
  have hl:x.au.length=y.au.length:=by omega
  refine aW (ι:=Nat) Tryz.checked.mixed rfl [2,3,5] (fun i=>[.c (.ptr (0,0) 0),.c (.ptr (0,1) 0),.c (.d (.i .i64 i))]) (fun i=>[.box [.d (.s x.aI),.d (.sl (x.au.map ah.enc))],.box [.d (.s y.aI),.d (.sl (y.au.map ah.enc))]]::S)
   (fun i=>i≤x.au.length∧∀j,j<i→x.au[j]? =y.au[j]?) (fun i=>x.au.length-i) 0 rfl rfl ⟨Nat.zero_le _,fun j h=>by omega⟩ ?_
  rintro i ⟨p1,p2⟩
  simp -implicitDefEqProofs (disch:=omega) only[go_sem,ah.aC]
  refine S0 (fun hb h=>?_) fun hb h=>?_
  ·have hi:i<x.au.length:=by omega
   have hi':i<y.au.length:=by omega
   refine W3 ?_
   refine C1 (ih x.au[i] (by have:=List.sizeOf_lt_of_mem (List.getElem_mem hi);omega) y.au[i] (W9 hi hsz)) ?_
   refine S0 (fun hb h=>?_) fun hb h=>?_
   ·exact aK (aN (fun e=>h (by simp only[e]))).symm
   refine bK (i+1) (by omega) rfl rfl ⟨by omega,fun j hj=> ?_⟩
   by_cases e:j=i
   ·subst e
    rw[List.getElem?_eq_getElem hi,List.getElem?_eq_getElem hi',h]
   ·exact p2 j (by omega)
  ·have hi:i=x.au.length:=by omega
   refine aK (cK ?_).symm
   refine ah.ext (by first|exact h1|(simp at h1;exact h1)) (List.ext_getElem? fun j=> ?_)
   by_cases hj:j<i
   ·exact p2 j hj
   ·rw[List.getElem?_eq_none (by omega),List.getElem?_eq_none (by omega)]
theorem DX(x y:ah)(h:x.sz≤4194304):aD Tryz.prog 63 [x.v,y.v] (.c (.d (.b (dec (x=y))))):=vL _ x (Nat.lt_succ_self _) y h
theorem vM:∀n:Nat,(∀x:ah,SizeOf.sizeOf x<n→∀y:ah,x.sz≤4194304→aD Tryz.prog 69 [x.v,y.v] (.c (.d (.b (dec (x=y))))))∧
 (∀xs:List ah,SizeOf.sizeOf xs<n→∀ys:List ah,xs.length≤4194304→(∀t∈xs,t.sz≤4194304)→aD Tryz.prog 136 [.c (.d (.sl (xs.map ah.enc))),.c (.d (.sl (ys.map ah.enc))),.c (.fn 69 [])] (.c (.d (.b (dec (xs=ys))))))
 |0=>⟨fun x h=>by omega,fun x h=>by omega⟩
 |n+1=>by
  obtain⟨ih,lZ⟩:=vM n
  refine⟨fun x hn y hsz S=> ?_,fun xs hn ys hlen hsz S=> ?_⟩
  ·have aft:=ah.oM x
   have hb:=Xa hsz
   refine aB (rs:=[.tmp 4]) Tryz.checked.mixed Tryz.func69 Tryz.ntmps69 rfl rfl rfl rfl rfl ?_
   refine W1 ?_
   refine S0 (fun hb h=>?_) fun hb h=>?_
   ·have h1:=h
    refine W3 ?_
    refine bH (lZ x.au (by omega) y.au (by omega) (fun t ht=>by
     obtain⟨i,hi,e⟩:=List.getElem_of_mem ht
     rw[←e];exact W9 hi hsz)) ?_
    refine W1 ?_
    refine aK (mh ⟨fun e=>ah.ext h1 e,fun e=>by rw[e]⟩)
   ·exact aK (aN (fun e=>h (by rw[e]))).symm
  ·refine aB (rs:=[.tmp 6]) Tryz.checked.mixed Tryz.func136 Tryz.ntmps136 rfl rfl rfl rfl rfl ?_
   refine W1 ?_
   refine S0 (fun hb h=>?_) fun hb h=>?_
   ·exact aK (aN (fun e=>h (by rw[e]))).symm
   have hl:xs.length=ys.length:=by omega
   refine aW (ι:=Nat) Tryz.checked.mixed rfl [1,2,15,16,17] (fun y=>[.c (.d (.sl (ys.map ah.enc))),.c (.fn 69 []),.c (.d (.sl (xs.map ah.enc))),.c (.d (.i .i64 xs.length)),.c (.d (.i .i64 y))]) (fun y=>[]::S)
    (fun i=>i≤xs.length∧∀j,j<i→xs[j]? =ys[j]?) (fun y=>xs.length-y) 0 rfl rfl ⟨Nat.zero_le _,fun j h=>by omega⟩ ?_
   rintro i ⟨p1,p2⟩
   refine W1 ?_
   refine S0 (fun hb h=>?_) fun hb h=>?_
   ·have hi:i<xs.length:=by omega
    have hi':i<ys.length:=by omega
    refine W3 ?_
    refine C1 (ih xs[i] (by have:=List.sizeOf_lt_of_mem (List.getElem_mem hi);omega) ys[i] (hsz _ (List.getElem_mem hi))) ?_
    refine S0 (fun hb h=>?_) fun hb h=>?_
    ·exact aK (aN (fun e=>h (by simp only[e]))).symm
    refine iP 0 (by decide) (i+1) (by omega) rfl rfl rfl rfl ⟨by omega,fun j hj=> ?_⟩
    by_cases e:j=i
    ·subst e
     rw[List.getElem?_eq_getElem hi,List.getElem?_eq_getElem hi',h]
    ·exact p2 j (by omega)
   ·have hi:i=xs.length:=by omega
    refine aK (cK (List.ext_getElem? fun j=> ?_)).symm
    by_cases hj:j<i
    ·exact p2 j hj
    ·rw[List.getElem?_eq_none (by omega),List.getElem?_eq_none (by omega)]
theorem DY(x y:ah)(h:x.sz≤4194304):aD Tryz.prog 69 [x.v,y.v] (.c (.d (.b (dec (x=y))))):=(vM _).1 x (Nat.lt_succ_self _) y h
end Go.Proofs.YtokkjobjffhfjaaGreatDoor
namespace Go.Ab
theorem uQ{α:Type}[SizeOf α]:∀(i:Nat) (l:List α),SizeOf.sizeOf (l.drop i)≤SizeOf.sizeOf l
 |0,l=>by simp
 |i+1,[]=>by simp
 |i+1,x::l=>by
  have:=uQ i l
  rw[List.drop_succ_cons];simp only[List.cons.sizeOf_spec];omega
theorem vN(l:List ah)(n i:Nat)(h:l.length≤n):((l.map ah.enc).take n).drop i=(l.drop i).map ah.enc:=by
 rw[List.take_of_length_le (by rw[List.length_map];exact h),List.map_drop]
theorem aac(l:List ah)(i:Nat):(l.getD i gq).sz≤dn l:=by
 rw[List.getD_eq_getElem?_getD]
 by_cases h:i<l.length
 ·rw[List.getElem?_eq_getElem h];exact ny (List.getElem_mem h)
 ·rw[List.getElem?_eq_none (by omega)]
  rw[Option.getD_none,jB];simp[gq,ah.aI,ah.au,dz]
theorem q8(x:ah):x.au.length+dn x.au≤x.sz:=by rw[jB,kS];omega
theorem AP(x:ah):x.aI.length≤x.sz:=by rw[jB];omega
def rW(x:ah):List D:=[.s x.aI]
def allA(l:List ah):Bool:=l.all fun x=>decide (x.aI≠[])
theorem QM{l:List ah}{i:Nat}(hi:i<l.length)(h:l[i].aI=[]):allA l=false∧lW l=[]:=by
 have:allA l=false:=by
  unfold allA
  rw[List.all_eq_false]
  exact⟨_,List.getElem_mem hi,by simp[h]⟩
 refine⟨this,?_⟩
 unfold lW
 unfold allA at this
 rw[this];rfl
theorem NZ{l:List ah}(h:∀j (hj:j<l.length),l[j].aI≠[]):allA l=true∧(lW l).map encS=l.map rW:=by
 have:allA l=true:=by
  unfold allA
  rw[List.all_eq_true]
  intro x hx
  obtain⟨j,hj,rfl⟩:=List.getElem_of_mem hx
  exact decide_eq_true (h j hj)
 refine⟨this,?_⟩
 unfold lW
 unfold allA at this
 rw[this,if_pos rfl,List.map_map];rfl
theorem CZ{l:List ah}{i:Nat}(hi:i<l.length):(l.take i).map rW++[[.s l[i].aI]]=(l.take (i+1)).map rW:=by
 rw[List.take_succ_eq_append_getElem hi,List.map_append];rfl
theorem Es{l:List ah}{i:Nat}:((l.take i).map rW).length≤i:=by rw[List.length_map];exact List.length_take_le _ _
def lt(l:List ak)(n:Nat):List (List D):=fH (l.map ak.enc) n
def jg(l:List ak):Nat:=og (l.map ak.enc)
theorem ab3(x:ak)(n:Nat):fE x.enc n=[.i .i64 x.aH,.s x.fName,.ol n (lt x.fArgs (n+1))]:=by
 rw[ak.aC];simp only[fE,oh,qm,Nat.add_zero,lt]
theorem Xb(l:List ak)(n:Nat):(lt l n).length=l.length:=by unfold lt;rw[lU,List.length_map]
theorem ab4{l:List ak}{i:Nat}(hi:i<l.length)(n:Nat):lt (l.take i) n++[[.i .i64 l[i].aH,.s l[i].fName,.ol (n+jg (l.take i)) (lt l[i].fArgs (n+jg (l.take i)+1))]]=lt (l.take (i+1)) n:=by
 rw[List.take_succ_eq_append_getElem hi]
 unfold lt jg
 rw[List.map_append,qo]
 simp only[List.map_cons,List.map_nil,fH,ab3,lt]
theorem Xc{l:List ak}{i:Nat}(hi:i<l.length):(l.take i).map ak.enc++[[.i .i64 l[i].aH,.s l[i].fName,.sl (l[i].fArgs.map ak.enc)]]=(l.take (i+1)).map ak.enc:=by
 rw[List.take_succ_eq_append_getElem hi,List.map_append]
 simp only[List.map_cons,List.map_nil,ak.aC]
theorem Jc(k:Int)(s:List UInt8)(n:Nat):Less (.agg [.d (.i .i64 k),.d (.s s),.aY []]) (.agg [.d (.i .i64 k),.d (.s s),.d (.ol n [])]):=(dH.cons (.refl _) (.cons (.refl _) (.cons (fF n) .nil))).less
theorem QN(k:Int)(s:List UInt8)(es:List (List D)):Less (.agg [.d (.i .i64 k),.d (.s s),.aY es]) (.agg [.d (.i .i64 k),.d (.s s),.d (.sl es)]):=(dH.cons (.refl _) (.cons (.refl _) (.cons (gN es) .nil))).less
theorem adK{s:List UInt8}(h:s≠[]):((s.getD 0 0).toNat:Int)=39↔s.head? =some 39:=by
 cases s with
 |nil=>exact(h rfl).elim
 |cons b s=>
  simp only[List.getD_cons_zero,List.head?_cons,Option.some.injEq]
  constructor
  ·intro e
   have:b.toNat=39:=by omega
   exact UInt8.toNat.inj this
  ·intro e;rw[e];rfl
theorem Hz(s:List UInt8)(n:Nat)(h:s.length≤n):(s.take n).drop 1=s.tail:=by rw[List.take_of_length_le h,List.drop_one]
abbrev ak.vl (t:ak) (n:Nat):V:=.agg [.d (.i .i64 t.aH),.d (.s t.fName),.d (.ol n (lt t.fArgs (n+1)))]
theorem aad(l:List (List UInt8)):og (l.map encS)=0:=by
 induction l with
 |nil=>rfl
 |cons s l ih=>rw[List.map_cons,og,ih];rfl
theorem adL{b:Bool}{x:ah}{r:V}{k:Int}{s:List UInt8}{l:List ak}(h:eF b x=.mk k s l)(hl:Less r (.agg [.d (.i .i64 k),.d (.s s),.d (.sl (l.map ak.enc))])):Less r (eF b x).v:=by rw[h];exact hl
theorem aaD{b:Bool}{x:ah}{k:Int}{s:List UInt8}(h:eF b x=.mk k s []):Less (.agg [.d (.i .i64 k),.d (.s s),.aY []]) (eF b x).v:=by rw[h];exact QN k s []
theorem aaE{b:Bool}{x:ah}{k:Int}{s:List UInt8}(h:eF b x=.mk k s []):Less (.agg [.d (.i .i64 k),.d (.s s),.d (.sl [])]) (eF b x).v:=by rw[h];exact gB _
theorem aaF{b:Bool}{x:ah}{r:V}{n:Nat}{k:Int}{s:List UInt8}{l:List ak}(h:eF b x=.mk k s l)(hl:Less r (.agg [.d (.i .i64 k),.d (.s s),.d (.ol n (lt l (n+1)))])):Less r ((eF b x).vl n):=by rw[h];exact hl
theorem Xd{b:Bool}{x:ah}{n:Nat}{k:Int}{s:List UInt8}(h:eF b x=.mk k s []):Less (.agg [.d (.i .i64 k),.d (.s s),.aY []]) ((eF b x).vl n):=by rw[h];exact Jc k s n
theorem Xe{b:Bool}{x:ah}{n:Nat}{k:Int}{s:List UInt8}(h:eF b x=.mk k s []):Less (.agg [.d (.i .i64 k),.d (.s s),.d (.ol n [])]) ((eF b x).vl n):=by rw[h];exact gB _
theorem PS{s:List UInt8}(h:1≤s.length):(s.take 1).drop 0=[39]↔s.head? =some 39:=by
 cases s with
 |nil=>simp at h
 |cons b s=>simp
end Go.Ab
namespace Go.Proofs.YtokkjobjffhfjaaGreatDoor
open Go Go.Ab
theorem N7(xs:List ah)(hx:xs.length≤1073741824):aD Tryz.prog 76 [.c (.d (.sl (xs.map ah.enc)))] (.dw [(false,[.d (.sl ((lW xs).map encS))]),(false,[.d (.b (allA xs))])]):=aD.of_le fun S=>by
 refine aB (rs:=[.tmp 2,.tmp 3]) Tryz.checked.mixed Tryz.func76 Tryz.ntmps76 rfl rfl rfl rfl rfl ?_
 refine W1 ?_
 refine W3 ?_
 refine FP 4 1 [] rfl (by simp) ?_
 refine aW (ι:=Nat) Tryz.checked.mixed rfl [0,4,5] (fun i=>[.c (.d (.sl (xs.map ah.enc))),.c (.bQ (0,0) ((xs.take i).map rW)),.c (.d (.i .i64 i))]) (fun i=>[.tok 1 ((xs.take i).map rW)]::S)
  (fun i=>i≤xs.length∧∀j,∀hj:j<xs.length,j<i→xs[j].aI≠[]) (fun i=>xs.length-i) 0 rfl rfl ⟨Nat.zero_le _,fun j _ h=>by omega⟩ ?_
 rintro i ⟨p1,p2⟩
 have hl:=Es (l:=xs) (i:=i)
 simp -implicitDefEqProofs (disch:=omega) only[go_sem,ah.aC]
 refine S0 (fun hb h=>?_) fun hb h=>?_
 ·have hi':i<xs.length:=by omega
  have hs:=CZ hi'
  refine W3 ?_
  refine S0 (fun hb h=>?_) fun hb h=>?_
  ·obtain⟨e1,e2⟩:=QM hi' h
   rw[e1,e2]
   exact(jw.cons (.cons (gN _) .nil) (.refl _)).less
  ·refine W3 ?_
   rw[hs]
   refine bK (i+1) (by omega) rfl rfl ⟨by omega,fun j hj hji=> ?_⟩
   by_cases e':j=i
   ·subst e';exact h
   ·exact p2 j hj (by omega)
 ·have hi':i=xs.length:=by omega
  subst hi'
  obtain⟨e1,e2⟩:=NZ fun j hj=>p2 j hj hj
  rw[e1,e2,List.take_length]
  exact gB _
theorem qx(a b:Int):aD Tryz.prog 114 [.c (.d (.i .i64 a)),.c (.d (.i .i64 b))] (.c (.d (.i .i64 (min a b)))):=fun S=>by
 refine aB (rs:=[.tmp 4]) Tryz.checked.mixed Tryz.func114 Tryz.ntmps114 rfl rfl rfl rfl rfl ?_
 refine W1 ?_
 refine S0 (fun hb h=>?_) fun hb h=>?_
 ·exact int_eq (by omega)
 ·exact int_eq (by omega)
theorem TY(s:List UInt8):aD Tryz.prog 179 [.c (.d (.s s)),.c (.d (.sl []))] (.agg [.d (.i .i64 2),.d (.s s),.d (.sl [])]):=aD.of_le fun S=>by
 refine aB (rs:=[.cell 4 24]) Tryz.checked.mixed Tryz.func179 Tryz.ntmps179 rfl rfl rfl rfl rfl ?_
 refine W1 ?_
 refine W3 ?_
 exact gB _
theorem T9(s:List UInt8):aD Tryz.prog 178 [.c (.d (.s s))] (.agg [.d (.i .i64 1),.d (.s s),.d (.sl [])]):=aD.of_le fun S=>by
 refine aB (rs:=[.cell 2 24]) Tryz.checked.mixed Tryz.func178 Tryz.ntmps178 rfl rfl rfl rfl rfl ?_
 refine W1 ?_
 refine W3 ?_
 exact QN _ _ _
theorem Bl:∀N:Nat,(∀x:ah,SizeOf.sizeOf x<N→x.sz≤4194304→aD Tryz.prog 115 [x.v] (eF false x).v)
 |0=>fun x h=>by omega
 |N+1=>by
  have ih:=Bl N
  intro x hn hsz
  have jS:=ah.oM x
  have h1:=q8 x
  have h2:=AP x
  have hx:=QH false x
  have hall:∀t∈x.au,t.sz≤4194304:=fun t ht=>by have:=ny ht;omega
  refine aD.of_le fun S=> ?_
  refine aB (rs:=[.cell 2 24]) Tryz.checked.mixed Tryz.func115 Tryz.ntmps115 rfl rfl rfl rfl rfl ?_
  refine W1 ?_
  refine S0 (fun hb h=>?_) fun hb h=>?_
  ·have hne:=h
   rw[if_neg h] at hx
   have h39:=adK h
   have hln:0<x.aI.length:=List.length_pos_iff.2 hne
   have hsl:=Hz x.aI x.aI.length (Nat.le_refl _)
   refine W3 ?_
   refine S0 (fun hb h=>?_) fun hb h=>?_
   ·rw[if_pos (h39.1 h)] at hx
    refine W3 ?_
    rw[hsl]
    refine C1 (T9 _) ?_
    exact aaE hx
   ·rw[if_neg (fun e=>h (h39.2 e))] at hx
    refine C1 (TY _) ?_
    exact aaE hx
  rw[if_pos h] at hx
  refine S0 (fun hb h=>?_) fun hb h=>?_
  ·rw[if_pos (by omega)] at hx
   exact aaD hx
  rw[if_neg (by omega)] at hx
  have hl2:2≤x.au.length:=by omega
  have a0:=nC (l:=x.au) (i:=0) (by omega)
  have a1:=nC (l:=x.au) (i:=1) (by omega)
  obtain⟨T,hT⟩:∃T:Nat→List (List D),T=fun i=>(((x.au.map (eF false)).drop 1).take i).map ak.enc:=⟨_,rfl⟩
  have hT0:T 0=[]:=by rw[hT];rfl
  have C8:∀i,(T i).length≤i:=fun i=>by rw[hT];simp only[List.length_map];exact List.length_take_le _ _
  have hTr:∀i,∀r∈T i,r.length=3:=fun i=>by
   rw[hT];intro r hr
   obtain⟨z,_,rfl⟩:=List.mem_map.1 hr
   exact z.bA
  have hTs:∀i (hi:i+1<x.au.length),T i++[[.i .i64 (eF false x.au[i+1]).aH,.s (eF false x.au[i+1]).fName,.sl ((eF false x.au[i+1]).fArgs.map ak.enc)]]=T (i+1):=fun i hi=>by
   have:=Xc (l:=(x.au.map (eF false)).drop 1) (i:=i) (by rw[List.length_drop,List.length_map];omega)
   rw[List.getElem_drop,List.getElem_map] at this
   rw[hT];simp only[Nat.add_comm 1 i] at this ⊢;exact this
  have hTe:T (x.au.length-1)=((x.au.map (eF false)).drop 1).map ak.enc:=by
   rw[hT];simp only
   rw[List.take_of_length_le (by simp)]
  have hTn:(T (x.au.length-1)).length=x.au.length-1:=by rw[hTe];simp
  have hTd:(T (x.au.length-1)).drop 1=((x.au.map (eF false)).drop 2).map ak.enc:=by rw[hTe,←List.map_drop,List.drop_drop]
  clear hT
  refine W3 ?_
  refine FP 4 3 [] rfl (by simp) ?_
  refine aW (ι:=Nat) Tryz.checked.mixed rfl [1,2,3,4,5] (fun i=>[.c (.ptr (0,0) 0),.c (.ptr (0,1) 0),.c (.d (.s x.au[0].aI)),.c (.bQ (0,2) (T i)),.c (.d (.i .i64 ((i+1:Nat):Int)))])
   (fun i=>[.box [.d (.s x.aI),.d (.sl (x.au.map ah.enc))],.box [.d (.i .i64 0),.d (.s []),.aY []],.tok 3 (T i)]::S)
   (fun i=>i+1≤x.au.length) (fun i=>x.au.length-(i+1)) 0 (by rw[hT0];rfl) (by rw[hT0];rfl) (by omega) ?_
  intro i hi
  have hl:=C8 i
  refine W1 ?_
  refine S0 (fun hb h=>?_) fun hb h=>?_
  ·have hi':i+1<x.au.length:=by omega
   have hm:=List.getElem_mem hi'
   have hs:=hTs i hi'
   refine W3 ?_
   refine bH (ih x.au[i+1] (by have:=List.sizeOf_lt_of_mem hm;omega) (hall _ hm)) ?_
   simp -implicitDefEqProofs (disch:=omega) only[go_sem,ak.aC]
   refine W3 ?_
   rw[hs]
   exact bK (i+1) (by omega) rfl rfl (by omega)
  have hi':i=x.au.length-1:=by omega
  subst hi'
  have hrows:=hTr (x.au.length-1)
  have hta:((T (x.au.length-1)).take (x.au.length-1))=T (x.au.length-1):=List.take_of_length_le (by omega)
  rw[a0,a1] at hx
  have tD:x.au[0].aI=[100,121,110]∧x.au.length=2∧x.au[1].aI≠[]→eF false x=.mk 4 x.au[1].aI []:=fun e=>hx.trans (if_pos ⟨e.1,.inr e.2⟩)
  have tA:x.au[0].aI=[97,115,115,111,99]∧x.au.length=3∧x.au[1].aI≠[]→eF false x=.mk 3 x.au[1].aI ((x.au.map (eF false)).drop 2):=fun e=>by
   rw[hx,if_neg (fun e'=>by have:=e'.1.symm.trans e.1;revert this;decide),if_pos ⟨e.1,.inr e.2⟩]
  have tN:¬(x.au[0].aI=[100,121,110]∧x.au.length=2∧x.au[1].aI≠[])→¬(x.au[0].aI=[97,115,115,111,99]∧x.au.length=3∧x.au[1].aI≠[])→eF false x=.mk 2 x.au[0].aI ((x.au.map (eF false)).drop 1):=fun e1 e2=>by
   rw[hx,if_neg (fun e'=>e1 ⟨e'.1,e'.2.resolve_left (by decide)⟩),if_neg (fun e'=>e2 ⟨e'.1,e'.2.resolve_left (by decide)⟩)]
  clear hx hTs ih
  repeat' (first|(refine S0 (fun hb h=>?_) fun hb h=>?_))
  all_goals first
   |(refine⟨⟨by omega,by omega,hrows⟩,?_⟩;refine adL (tA ⟨by assumption,by omega,by assumption⟩) ?_;rw[hTn,hta,hTd];exact gB _)
   |exact aaD (tD ⟨by assumption,by omega,by assumption⟩)
   |(refine adL (tN (fun⟨a,b,c⟩=>by first|contradiction|omega) (fun⟨a,b,c⟩=>by first|contradiction|omega)) ?_;rw[hTe];exact gB _)
   |trace_state
theorem N8(x:ah)(hsz:x.sz≤4194304):aD Tryz.prog 115 [x.v] (eF false x).v:=Bl _ x (Nat.lt_succ_self _) hsz
theorem HY(s:List UInt8)(hs:s.length≤1073741824):aD Tryz.prog 300 [.c (.d (.s s)),.c (.d (.s [39]))] (.c (.d (.b (decide (s.head? =some 39))))):=fun S=>by
 refine aB (rs:=[.tmp 4]) Tryz.checked.mixed Tryz.func300 Tryz.ntmps300 rfl rfl rfl rfl rfl ?_
 refine W1 ?_
 refine S0 (fun hb h=>?_) fun hb h=>?_
 ·exact aK (decide_eq_decide.2 (PS (by omega)))
 ·have:s=[]:=List.eq_nil_of_length_eq_zero (by omega)
  subst this
  rfl
theorem H6(s:List UInt8)(hs:s.length≤1073741824):aD Tryz.prog 258 [.c (.d (.s s)),.c (.d (.s [39]))] (.dw [(false,[.d (.s (if s.head? =some 39 then s.tail else s))]),(false,[.d (.b (decide (s.head? =some 39)))])]):=fun S=>by
 refine aB (rs:=[.tmp 4,.tmp 5]) Tryz.checked.mixed Tryz.func258 Tryz.ntmps258 rfl rfl rfl rfl rfl ?_
 refine W1 ?_
 refine C1 (HY s hs) ?_
 refine S0 (fun hb h=>?_) fun hb h=>?_
 ·rw[if_neg h,decide_eq_false h]
 ·have hl:0<s.length:=by
   cases s with
   |nil=>cases h
   |cons _ _=>simp
  refine W3 ?_
  rw[if_pos h,decide_eq_true h,Hz _ _ (Nat.le_refl _)]
theorem N9(s:List UInt8)(hs:s.length≤1073741824):aD Tryz.prog 192 [.c (.d (.s s)),.c (.d (.s [39]))] (.dw [(false,[.d (.s (if s.head? =some 39 then s.tail else s))]),(false,[.d (.b (decide (s.head? =some 39)))])]):=fun S=>by
 refine aB (rs:=[.tmp 4,.tmp 5]) Tryz.checked.mixed Tryz.func192 Tryz.ntmps192 rfl rfl rfl rfl rfl ?_
 refine W1 ?_
 exact C3 (H6 s hs)
theorem H7(xs:List ah)(hx:xs.length≤1073741824)(n:Nat):aD Tryz.prog 81 [.c (.d (.sl (xs.map ah.enc)))] (.dw [(false,[.d (.ol n ((lW xs).map encS))]),(false,[.d (.b (allA xs))])]):=aD.of_le fun S=>by
 refine nK (n) (rs:=[.tmp 2,.tmp 3]) Tryz.checked.mixed Tryz.func81 Tryz.ntmps81 rfl rfl rfl rfl rfl ?_
 refine W1 ?_
 refine W3 ?_
 refine tY n 4 1 [] (.inl rfl) (by simp) ?_
 refine aW (ι:=Nat) Tryz.checked.mixed rfl [4,8,9,10] (fun i=>[.c (.bQ (0,1) ((xs.take i).map rW)),.c (.d (.sl (xs.map ah.enc))),.c (.d (.i .i64 xs.length)),.c (.d (.i .i64 i))]) (fun i=>[.seed n,.dW n 1 ((xs.take i).map rW)]::S)
  (fun i=>i≤xs.length∧∀j,∀hj:j<xs.length,j<i→xs[j].aI≠[]) (fun i=>xs.length-i) 0 rfl rfl ⟨Nat.zero_le _,fun j _ h=>by omega⟩ ?_
 rintro i ⟨p1,p2⟩
 have hl:=Es (l:=xs) (i:=i)
 simp -implicitDefEqProofs (disch:=omega) only[go_sem,ah.aC]
 refine S0 (fun hb h=>?_) fun hb h=>?_
 ·have hi':i<xs.length:=by omega
  have hs:=CZ hi'
  refine W3 ?_
  refine S0 (fun hb h=>?_) fun hb h=>?_
  ·obtain⟨e1,e2⟩:=QM hi' h
   rw[e1,e2]
   exact(jw.cons (.cons (fF n) .nil) (.refl _)).less
  ·refine W3 ?_
   rw[hs]
   refine iP 2 (by decide) (i+1) (by omega) rfl rfl rfl rfl ⟨by omega,fun j hj hji=> ?_⟩
   by_cases e':j=i
   ·subst e';exact h
   ·exact p2 j hj (by omega)
 ·have hi':i=xs.length:=by omega
  subst hi'
  obtain⟨e1,e2⟩:=NZ fun j hj=>p2 j hj hj
  rw[e1,e2,List.take_length]
  exact gB _
theorem PU(s:List UInt8)(n:Nat):aD Tryz.prog 193 [.c (.d (.s s))] (.agg [.d (.i .i64 1),.d (.s s),.d (.ol n [])]):=aD.of_le fun S=>by
 refine aB (rs:=[.cell 2 24]) Tryz.checked.mixed Tryz.func193 Tryz.ntmps193 rfl rfl rfl rfl rfl ?_
 refine W1 ?_
 refine W3 ?_
 exact Jc _ _ _
theorem PV(s:List UInt8)(n:Nat):aD Tryz.prog 194 [.c (.d (.s s))] (.agg [.d (.i .i64 4),.d (.s s),.d (.ol n [])]):=aD.of_le fun S=>by
 refine aB (rs:=[.cell 2 24]) Tryz.checked.mixed Tryz.func194 Tryz.ntmps194 rfl rfl rfl rfl rfl ?_
 refine W1 ?_
 refine W3 ?_
 exact Jc _ _ _
theorem Bn:∀N:Nat,(∀x:ah,SizeOf.sizeOf x<N→∀n:Nat,x.sz≤4194304→aD Tryz.prog 132 [x.v] ((eF true x).vl n))∧
 (∀xs:List ah,SizeOf.sizeOf xs<N→∀n q:Nat,xs.length≤4194304→(∀t∈xs,t.sz≤4194304)→aD Tryz.prog 195 [.c (.d (.sl (xs.map ah.enc)))] (.c (.d (.ol n (lt (xs.map (eF true)) q)))))
 |0=>⟨fun x h=>by omega,fun x h=>by omega⟩
 |N+1=>by
  obtain⟨ih,lZ⟩:=Bn N
  refine⟨fun x hn n hsz=>aD.of_le fun S=> ?_,fun xs hn n q hlen hsz S=> ?_⟩
  ·have jS:=ah.oM x
   have h1:=q8 x
   have h2:=AP x
   have hx:=QH true x
   have hall:∀t∈x.au,t.sz≤4194304:=fun t ht=>by have:=ny ht;omega
   refine aB (rs:=[.cell 2 24]) Tryz.checked.mixed Tryz.func132 Tryz.ntmps132 rfl rfl rfl rfl rfl ?_
   refine W1 ?_
   refine S0 (fun hb h=>?_) fun hb h=>?_
   ·rw[if_neg h] at hx
    refine C1 (N9 x.aI (by omega)) ?_
    refine S0 (fun hb h=>?_) fun hb h=>?_
    ·rw[if_pos h] at hx ⊢
     refine C1 (PU _ n) ?_
     exact Xe hx
    ·rw[if_neg h] at hx
     refine W3 ?_
     exact Xd hx
   rw[if_pos h] at hx
   refine S0 (fun hb h=>?_) fun hb h=>?_
   ·rw[if_pos (by omega)] at hx
    exact Xd hx
   rw[if_neg (by omega)] at hx
   have hl2:2≤x.au.length:=by omega
   have a0:=nC (l:=x.au) (i:=0) (by omega)
   have a1:=nC (l:=x.au) (i:=1) (by omega)
   rw[a0,a1] at hx
   have hr:=j5 (l:=x.au)
   have hd:=fun i=>vN x.au x.au.length i (Nat.le_refl _)
   have hso:=fun i=>uQ i x.au
   have hdl:∀i,(x.au.drop i).length≤4194304:=fun i=>by rw[List.length_drop];omega
   have hda:∀i,∀t∈x.au.drop i,t.sz≤4194304:=fun i t ht=>hall t (List.mem_of_mem_drop ht)
   refine W3 ?_
   refine S0 (fun hb h=>?_) fun hb h=>?_
   ·have hx:=hx.trans (if_pos ⟨h,.inl rfl⟩)
    refine W3 ?_
    refine C1 (PV _ n) ?_
    exact Xe hx
   have hx:=hx.trans (if_neg fun e=>h e.1)
   refine S0 (fun hb h=>?_) fun hb h=>?_
   ·have hx:=hx.trans (if_pos ⟨h,.inl rfl⟩)
    refine⟨⟨by omega,by omega,hr⟩,?_⟩
    rw[hd]
    refine C1 (lZ (x.au.drop 2) (by have:=hso 2;omega) n (n+1) (hdl 2) (hda 2)) ?_
    refine aaF hx ?_
    rw[List.map_drop]
    exact gB _
   ·have hx:=hx.trans (if_neg fun e=>h e.1)
    refine⟨⟨by omega,by omega,hr⟩,?_⟩
    rw[hd]
    refine C1 (lZ (x.au.drop 1) (by have:=hso 1;omega) n (n+1) (hdl 1) (hda 1)) ?_
    refine aaF hx ?_
    rw[List.map_drop]
    exact gB _
  ·have AJ:=fun(i:Nat) (hi:i<xs.length)=>ab4 (l:=xs.map (eF true)) (i:=i) (by rw[List.length_map];exact hi) q
   refine nK (n) (rs:=[.tmp 2]) Tryz.checked.mixed Tryz.func195 Tryz.ntmps195 rfl rfl rfl rfl rfl ?_
   refine W1 ?_
   refine W3 ?_
   refine tY n 3 3 [] (.inl rfl) (by simp) ?_
   refine aW (ι:=Nat) Tryz.checked.mixed rfl [3,7,8,9] (fun i=>[.c (.bQ (0,1) (lt ((xs.map (eF true)).take i) q)),.c (.d (.sl (xs.map ah.enc))),.c (.d (.i .i64 xs.length)),.c (.d (.i .i64 i))]) (fun i=>[.seed n,.dW n 3 (lt ((xs.map (eF true)).take i) q)]::S)
    (fun i=>i≤xs.length) (fun i=>xs.length-i) 0 rfl rfl (Nat.zero_le _) ?_
   intro i hi
   simp -implicitDefEqProofs (disch:=omega) only[go_sem,ah.aC]
   refine S0 (fun hb h=>?_) fun hb h=>?_
   ·have hi':i<xs.length:=by omega
    have hs:=AJ i hi'
    rw[List.getElem_map] at hs
    have hl:(lt ((xs.map (eF true)).take i) q).length≤i:=by rw[Xb];exact List.length_take_le _ _
    refine W3 ?_
    refine C1 (ih xs[i] (by have:=List.sizeOf_lt_of_mem (List.getElem_mem hi');omega) (q+jg ((xs.map (eF true)).take i)) (hsz _ (List.getElem_mem hi'))) ?_
    refine W3 ?_
    rw[hs]
    exact iP 2 (by decide) (i+1) (by omega) rfl rfl rfl rfl (by omega)
   ·have hi':i=(xs.map (eF true)).length:=by rw[List.length_map];omega
    rw[hi',List.take_length]
theorem KP(x:ah)(n:Nat)(hsz:x.sz≤4194304):aD Tryz.prog 132 [x.v] ((eF true x).vl n):=(Bn _).1 x (Nat.lt_succ_self _) n hsz
end Go.Proofs.YtokkjobjffhfjaaGreatDoor
namespace Go.Ab
theorem kQ(b:Bool)(x:ah):bM b x=if x.aI=[] then
 if b=true∧(x.au.length<2∨bW x.au 0=fM∧x.au.length<3) then kK
 else if bW x.au 0=ku then .mk 4 [] (bW x.au 1) 0 iM ((x.au.map (bM b)).drop 2) []
 else if bW x.au 0=mP then .mk 6 [] (bW x.au 1) 0 iM ((x.au.map (bM b)).drop 2) []
 else if bW x.au 0=mQ then .mk 8 [] (bW x.au 1) 0 iM ((x.au.map (bM b)).drop 2) []
 else if bW x.au 0=kC then .mk 11 (bW x.au 1) [] 0 iM ((x.au.map (bM b)).drop 2) []
 else if bW x.au 0=fM then .mk 5 (bW x.au 1) (bW x.au 2) 0 iM ((x.au.map (bM b)).drop 3) []
 else if bW x.au 0=qK then .mk 9 [] [] 0 iM ((x.au.map (bM b)).drop 1) []
 else if bW x.au 0=nD then .mk 12 [] [] 0 (eF b (x.au.getD 1 gq)) ((x.au.map (bM b)).drop 2) []
 else if bW x.au 0=iC then .mk 7 [] [] 0 iM (((x.au.map (bM b)).drop 1).take 1) ((x.au.map (lX b)).drop 2)
 else .mk 10 [] (bW x.au 0) 0 iM ((x.au.map (bM b)).drop 1) []
 else match eG x.aI with
  |some n=>.mk 1 [] [] n iM [] []
  |none=>if x.aI=uP then .mk 2 [] [] 1 iM [] [] else if x.aI=tq then .mk 2 [] [] 0 iM [] [] else .mk 3 [] x.aI 0 iM [] []:=by
 cases x;rw[bM,vI,yK];rfl
theorem QO(b:Bool)(x:ah)(h:2≤x.au.length):lX b x=.mk (bW x.au 0) (lW ((x.au.drop 1).dropLast)) (bM b (x.au[x.au.length-1]'(by omega))):=by
 obtain⟨a,l⟩:=x
 simp only[ah.au] at h ⊢
 rw[lX,if_neg (by omega),vI]
 congr 1
 rw[List.getLastD_eq_getLast?,List.getLast?_eq_getElem?,List.length_map,List.getElem?_eq_getElem (by rw[List.length_map];omega)]
 simp
theorem QS(b:Bool)(x:ah)(h:x.au.length<2):lX b x=.mk [] [] kK:=by
 obtain⟨a,l⟩:=x
 rw[lX]
 exact if_pos h
def qN(b:Bool)(l:List ah):Prop:=¬(b=true∧(l.length<2∨bW l 0=fM∧l.length<3))
theorem Ki{b:Bool}{x:ah}(ha:x.aI=[])(hg:qN b x.au)(h:bW x.au 0=ku):bM b x=.mk 4 [] (bW x.au 1) 0 iM ((x.au.drop 2).map (bM b)) []:=by
 rw[kQ,if_pos ha,if_neg hg,if_pos h]
 simp only[List.map_drop,List.map_take]
theorem Oa{b:Bool}{x:ah}(ha:x.aI=[])(hg:qN b x.au)(h:bW x.au 0=mP):bM b x=.mk 6 [] (bW x.au 1) 0 iM ((x.au.drop 2).map (bM b)) []:=by
 rw[kQ,if_pos ha,if_neg hg,if_neg (by rw[h];decide),if_pos h]
 simp only[List.map_drop,List.map_take]
theorem Ob{b:Bool}{x:ah}(ha:x.aI=[])(hg:qN b x.au)(h:bW x.au 0=mQ):bM b x=.mk 8 [] (bW x.au 1) 0 iM ((x.au.drop 2).map (bM b)) []:=by
 rw[kQ,if_pos ha,if_neg hg,if_neg (by rw[h];decide),if_neg (by rw[h];decide),if_pos h]
 simp only[List.map_drop,List.map_take]
theorem Kj{b:Bool}{x:ah}(ha:x.aI=[])(hg:qN b x.au)(h:bW x.au 0=kC):bM b x=.mk 11 (bW x.au 1) [] 0 iM ((x.au.drop 2).map (bM b)) []:=by
 rw[kQ,if_pos ha,if_neg hg,if_neg (by rw[h];decide),if_neg (by rw[h];decide),if_neg (by rw[h];decide),if_pos h]
 simp only[List.map_drop,List.map_take]
theorem Et{b:Bool}{x:ah}(ha:x.aI=[])(hg:qN b x.au)(h:bW x.au 0=fM):bM b x=.mk 5 (bW x.au 1) (bW x.au 2) 0 iM ((x.au.drop 3).map (bM b)) []:=by
 rw[kQ,if_pos ha,if_neg hg,if_neg (by rw[h];decide),if_neg (by rw[h];decide),if_neg (by rw[h];decide),if_neg (by rw[h];decide),if_pos h]
 simp only[List.map_drop,List.map_take]
theorem QT{b:Bool}{x:ah}(ha:x.aI=[])(hg:qN b x.au)(h:bW x.au 0=qK):bM b x=.mk 9 [] [] 0 iM ((x.au.drop 1).map (bM b)) []:=by
 rw[kQ,if_pos ha,if_neg hg,if_neg (by rw[h];decide),if_neg (by rw[h];decide),if_neg (by rw[h];decide),if_neg (by rw[h];decide),if_neg (by rw[h];decide),if_pos h]
 simp only[List.map_drop,List.map_take]
theorem Oc{b:Bool}{x:ah}(ha:x.aI=[])(hg:qN b x.au)(h:bW x.au 0=nD):bM b x=.mk 12 [] [] 0 (eF b (x.au.getD 1 gq)) ((x.au.drop 2).map (bM b)) []:=by
 rw[kQ,if_pos ha,if_neg hg,if_neg (by rw[h];decide),if_neg (by rw[h];decide),if_neg (by rw[h];decide),if_neg (by rw[h];decide),if_neg (by rw[h];decide),if_neg (by rw[h];decide),if_pos h]
 simp only[List.map_drop,List.map_take]
theorem Kk{b:Bool}{x:ah}(ha:x.aI=[])(hg:qN b x.au)(h:bW x.au 0=iC):bM b x=.mk 7 [] [] 0 iM (((x.au.drop 1).take 1).map (bM b)) ((x.au.drop 2).map (lX b)):=by
 rw[kQ,if_pos ha,if_neg hg,if_neg (by rw[h];decide),if_neg (by rw[h];decide),if_neg (by rw[h];decide),if_neg (by rw[h];decide),if_neg (by rw[h];decide),if_neg (by rw[h];decide),if_neg (by rw[h];decide),if_pos h]
 simp only[List.map_drop,List.map_take]
theorem Kl{b:Bool}{x:ah}(ha:x.aI=[])(hg:qN b x.au)(h0:bW x.au 0≠ku)(h1:bW x.au 0≠mP)(h2:bW x.au 0≠mQ)(h3:bW x.au 0≠kC)(h4:bW x.au 0≠fM)(h5:bW x.au 0≠qK)(h6:bW x.au 0≠nD)(h7:bW x.au 0≠iC):bM b x=.mk 10 [] (bW x.au 0) 0 iM ((x.au.drop 1).map (bM b)) []:=by
 rw[kQ,if_pos ha,if_neg hg,if_neg h0,if_neg h1,if_neg h2,if_neg h3,if_neg h4,if_neg h5,if_neg h6,if_neg h7]
 simp only[List.map_drop,List.map_take]
theorem Km{x:ah}(ha:x.aI=[])(hg:¬qN true x.au):bM true x=kK:=by
 rw[kQ,if_pos ha,if_pos (Decidable.not_not.1 hg)]
theorem Od{b:Bool}{x:ah}{n:Int}(ha:x.aI≠[])(h:eG x.aI=some n):bM b x=.mk 1 [] [] n iM [] []:=by
 rw[kQ,if_neg ha,h]
theorem Kn{b:Bool}{x:ah}(ha:x.aI≠[])(h:eG x.aI=none)(h1:x.aI=uP):bM b x=.mk 2 [] [] 1 iM [] []:=by
 rw[kQ,if_neg ha,h];exact if_pos h1
theorem H8{b:Bool}{x:ah}(ha:x.aI≠[])(h:eG x.aI=none)(h1:x.aI≠uP)(h2:x.aI=tq):bM b x=.mk 2 [] [] 0 iM [] []:=by
 rw[kQ,if_neg ha,h];exact(if_neg h1).trans (if_pos h2)
theorem Oe{b:Bool}{x:ah}(ha:x.aI≠[])(h:eG x.aI=none)(h1:x.aI≠uP)(h2:x.aI≠tq):bM b x=.mk 3 [] x.aI 0 iM [] []:=by
 rw[kQ,if_neg ha,h];exact(if_neg h1).trans (if_neg h2)
def lE(l:List aj)(n:Nat):List (List D):=fH (l.map aj.enc) n
def ow(l:List aj):Nat:=og (l.map aj.enc)
def lM(l:List aA)(n:Nat):List (List D):=fH (l.map aA.enc) n
def Ua(l:List aA):Nat:=og (l.map aA.enc)
abbrev aj.vl (x:aj) (n:Nat):V:=.agg [.d (.i .i64 x.aH),.d (.s x.aU),.d (.s x.fName),.d (.i .i64 x.fN),.d (.i .i64 x.fType.aH),.d (.s x.fType.fName),.d (.ol n (lt x.fType.fArgs (n+1))),
 .d (.ol (n+(jg x.fType.fArgs+1)) (lE x.fArgs (n+(jg x.fType.fArgs+1)+1))),.d (.ol (n+(jg x.fType.fArgs+1)+(ow x.fArgs+1)) (lM x.aG (n+(jg x.fType.fArgs+1)+(ow x.fArgs+1)+1)))]
theorem AQ(x:aj)(n:Nat):fE x.enc n=[.i .i64 x.aH,.s x.aU,.s x.fName,.i .i64 x.fN,.i .i64 x.fType.aH,.s x.fType.fName,.ol n (lt x.fType.fArgs (n+1)),
 .ol (n+(jg x.fType.fArgs+1)) (lE x.fArgs (n+(jg x.fType.fArgs+1)+1)),.ol (n+(jg x.fType.fArgs+1)+(ow x.fArgs+1)) (lM x.aG (n+(jg x.fType.fArgs+1)+(ow x.fArgs+1)+1))]:=by
 simp only[aj.aC,ak.aC,List.cons_append,List.nil_append,fE,oh,qm,Nat.add_zero,lt,lE,lM,jg,ow]
theorem aae(x:aA)(n:Nat):fE x.enc n=[.s x.bC,.ol n (x.aS.map encS)]++fE x.fBody.enc (n+1):=by
 rw[aA.aC,En]
 simp only[fE,oh,pz,qm,Nat.add_zero,NI,aad,Nat.zero_add]
abbrev aA.vl (x:aA) (n:Nat):V:=.agg [.d (.s x.bC),.d (.ol n (x.aS.map encS)),.d (.i .i64 x.fBody.aH),.d (.s x.fBody.aU),.d (.s x.fBody.fName),.d (.i .i64 x.fBody.fN),.d (.i .i64 x.fBody.fType.aH),.d (.s x.fBody.fType.fName),.d (.ol (n+1) (lt x.fBody.fType.fArgs (n+1+1))),
 .d (.ol (n+1+(jg x.fBody.fType.fArgs+1)) (lE x.fBody.fArgs (n+1+(jg x.fBody.fType.fArgs+1)+1))),.d (.ol (n+1+(jg x.fBody.fType.fArgs+1)+(ow x.fBody.fArgs+1)) (lM x.fBody.aG (n+1+(jg x.fBody.fType.fArgs+1)+(ow x.fBody.fArgs+1)+1)))]
theorem Xf(l:List aj)(n:Nat):(lE l n).length=l.length:=by unfold lE;rw[lU,List.length_map]
theorem Xg(l:List aA)(n:Nat):(lM l n).length=l.length:=by unfold lM;rw[lU,List.length_map]
theorem ab5{l:List aj}{i:Nat}(hi:i<l.length)(n:Nat):lE (l.take i) n++[fE l[i].enc (n+ow (l.take i))]=lE (l.take (i+1)) n:=by
 rw[List.take_succ_eq_append_getElem hi]
 unfold lE ow
 rw[List.map_append,qo];rfl
theorem ab6{l:List aA}{i:Nat}(hi:i<l.length)(n:Nat):lM (l.take i) n++[fE l[i].enc (n+Ua (l.take i))]=lM (l.take (i+1)) n:=by
 rw[List.take_succ_eq_append_getElem hi]
 unfold lM Ua
 rw[List.map_append,qo];rfl
theorem Xh{l:List aj}{i:Nat}(hi:i<l.length):(l.take i).map aj.enc++[l[i].enc]=(l.take (i+1)).map aj.enc:=by
 rw[List.take_succ_eq_append_getElem hi,List.map_append];rfl
theorem Xi{l:List aA}{i:Nat}(hi:i<l.length):(l.take i).map aA.enc++[l[i].enc]=(l.take (i+1)).map aA.enc:=by
 rw[List.take_succ_eq_append_getElem hi,List.map_append];rfl
theorem QU{x:aj}{n:Nat}{k N:Int}{tr nm:List UInt8}(h:x=.mk k tr nm N iM [] []):Less (.agg [.d (.i .i64 k),.d (.s tr),.d (.s nm),.d (.i .i64 N),.d (.i .i64 0),.d (.s []),.aY [],.aY [],.aY []]) (x.vl n):=by
 rw[h]
 exact(dH.cons (.refl _) (.cons (.refl _) (.cons (.refl _) (.cons (.refl _) (.cons (.refl _) (.cons (.refl _) (.cons (fF _) (.cons (fF _) (.cons (fF _) .nil))))))))).less
theorem Og{x:aj}{n:Nat}{k N:Int}{tr nm:List UInt8}{args:List aj}(h:x=.mk k tr nm N iM args []):Less (.agg [.d (.i .i64 k),.d (.s tr),.d (.s nm),.d (.i .i64 N),.d (.i .i64 0),.d (.s []),.aY [],.d (.ol (n+1) (lE args (n+1+1))),.aY []]) (x.vl n):=by
 rw[h]
 exact(dH.cons (.refl _) (.cons (.refl _) (.cons (.refl _) (.cons (.refl _) (.cons (.refl _) (.cons (.refl _) (.cons (fF _) (.cons (.refl _) (.cons (fF _) .nil))))))))).less
theorem ie2{x:aj}{n:Nat}{k N:Int}{tr nm:List UInt8}{ty:ak}{args:List aj}(h:x=.mk k tr nm N ty args []):Less (.agg [.d (.i .i64 k),.d (.s tr),.d (.s nm),.d (.i .i64 N),.d (.i .i64 ty.aH),.d (.s ty.fName),.d (.ol n (lt ty.fArgs (n+1))),.d (.ol (n+(jg ty.fArgs+1)) (lE args (n+(jg ty.fArgs+1)+1))),.aY []]) (x.vl n):=by
 rw[h]
 exact(dH.cons (.refl _) (.cons (.refl _) (.cons (.refl _) (.cons (.refl _) (.cons (.refl _) (.cons (.refl _) (.cons (.refl _) (.cons (.refl _) (.cons (fF _) .nil))))))))).less
theorem ie3{x:aj}{n:Nat}{k N:Int}{tr nm:List UInt8}{args:List aj}{arms:List aA}(h:x=.mk k tr nm N iM args arms):Less (.agg [.d (.i .i64 k),.d (.s tr),.d (.s nm),.d (.i .i64 N),.d (.i .i64 0),.d (.s []),.aY [],.d (.ol (n+1) (lE args (n+1+1))),.d (.ol (n+1+(ow args+1)) (lM arms (n+1+(ow args+1)+1)))]) (x.vl n):=by
 rw[h]
 exact(dH.cons (.refl _) (.cons (.refl _) (.cons (.refl _) (.cons (.refl _) (.cons (.refl _) (.cons (.refl _) (.cons (fF _) (.cons (.refl _) (.cons (.refl _) .nil))))))))).less
theorem se0{x:aj}{k N:Int}{tr nm:List UInt8}(h:x=.mk k tr nm N iM [] []):Less (.agg [.d (.i .i64 k),.d (.s tr),.d (.s nm),.d (.i .i64 N),.d (.i .i64 0),.d (.s []),.aY [],.aY [],.aY []]) x.v:=by
 rw[h]
 exact(dH.cons (.refl _) (.cons (.refl _) (.cons (.refl _) (.cons (.refl _) (.cons (.refl _) (.cons (.refl _) (.cons (gN _) (.cons (gN _) (.cons (gN _) .nil))))))))).less
theorem Oh{x:aj}{k N:Int}{tr nm:List UInt8}{args:List aj}(h:x=.mk k tr nm N iM args []):Less (.agg [.d (.i .i64 k),.d (.s tr),.d (.s nm),.d (.i .i64 N),.d (.i .i64 0),.d (.s []),.aY [],.d (.sl (args.map aj.enc)),.aY []]) x.v:=by
 rw[h]
 exact(dH.cons (.refl _) (.cons (.refl _) (.cons (.refl _) (.cons (.refl _) (.cons (.refl _) (.cons (.refl _) (.cons (gN _) (.cons (.refl _) (.cons (gN _) .nil))))))))).less
theorem se2{x:aj}{k N:Int}{tr nm:List UInt8}{ty:ak}{args:List aj}(h:x=.mk k tr nm N ty args []):Less (.agg [.d (.i .i64 k),.d (.s tr),.d (.s nm),.d (.i .i64 N),.d (.i .i64 ty.aH),.d (.s ty.fName),.d (.sl (ty.fArgs.map ak.enc)),.d (.sl (args.map aj.enc)),.aY []]) x.v:=by
 rw[h]
 exact(dH.cons (.refl _) (.cons (.refl _) (.cons (.refl _) (.cons (.refl _) (.cons (.refl _) (.cons (.refl _) (.cons (.refl _) (.cons (.refl _) (.cons (gN _) .nil))))))))).less
theorem se3{x:aj}{k N:Int}{tr nm:List UInt8}{args:List aj}{arms:List aA}(h:x=.mk k tr nm N iM args arms):Less (.agg [.d (.i .i64 k),.d (.s tr),.d (.s nm),.d (.i .i64 N),.d (.i .i64 0),.d (.s []),.aY [],.d (.sl (args.map aj.enc)),.d (.sl (arms.map aA.enc))]) x.v:=by
 rw[h]
 exact(dH.cons (.refl _) (.cons (.refl _) (.cons (.refl _) (.cons (.refl _) (.cons (.refl _) (.cons (.refl _) (.cons (gN _) (.cons (.refl _) (.cons (.refl _) .nil))))))))).less
theorem PW(l:List ah)(i:Nat):((l.map ah.enc).take l.length).drop (min i l.length)=(l.drop i).map ah.enc:=by
 rw[vN _ _ _ (Nat.le_refl _)]
 by_cases h:i≤l.length
 ·rw[Nat.min_eq_left h]
 ·rw[Nat.min_eq_right (by omega),List.drop_length,List.drop_of_length_le (by omega)]
theorem ab7(l:List ah):((l.map ah.enc).take (min 2 l.length)).drop 1=((l.drop 1).take 1).map ah.enc:=by
 match l with
 |[]=>rfl
 |[x]=>rfl
 |x::y::l=>simp[show min 2 (l.length+1+1)=2 by omega]
theorem Ub(l:List ah)(i:Nat)(h:i<l.length+3):(l.map ah.enc++([[.s [],.sl []],[.s [],.sl []],[.s [],.sl []]]:List (List D))).getD i []=[.s (bW l i),.sl ((l.getD i gq).au.map ah.enc)]:=by
 rw[List.getD_eq_getElem?_getD,List.getElem?_append]
 split
 ·rename_i hi
  rw[List.length_map] at hi
  rw[List.getElem?_map,List.getElem?_eq_getElem hi]
  simp only[Option.map_some,Option.getD_some]
  rw[ah.aC,nC hi,List.getD_eq_getElem?_getD,List.getElem?_eq_getElem hi];rfl
 ·rename_i hi
  rw[List.length_map] at hi
  rw[zJ (by omega),List.getD_eq_getElem?_getD,List.getElem?_eq_none (by omega:l.length≤i),List.length_map]
  have:i-l.length=0∨i-l.length=1∨i-l.length=2:=by omega
  rcases this with e|e|e<;>rw[e]<;>rfl
theorem Ko(l:List ah)(h:2≤l.length):((l.map ah.enc).take ((l.length:Int)-1).toNat).drop 1=((l.drop 1).dropLast).map ah.enc:=by
 rw[show((l.length:Int)-1).toNat=l.length-1 by omega,←List.map_take,←List.map_drop,List.dropLast_eq_take,List.length_drop,List.drop_take]
theorem Oi(x:ah)(i:Nat){m:Nat}(h:x.sz≤m):(x.au.getD i gq).sz≤m:=by
 have:=aac x.au i
 have:=q8 x
 omega
theorem xW{l:List ah}(h:fQ l=true){t:ah}(ht:t∈l):gD t=true:=wH.1 h t ht
theorem mI{l:List ah}(h:fQ l=true)(i:Nat):fQ (l.drop i)=true:=wH.2 fun t ht=>xW h (List.mem_of_mem_drop ht)
theorem Xj{l:List ah}(h:fQ l=true)(i:Nat):fQ (l.take i)=true:=wH.2 fun t ht=>xW h (List.mem_of_mem_take ht)
theorem yY{α:Type}[SizeOf α]:∀(i:Nat) (l:List α),SizeOf.sizeOf (l.take i)≤SizeOf.sizeOf l
 |0,[]=>by simp
 |0,x::l=>by rw[List.take_zero];simp only[List.cons.sizeOf_spec,List.nil.sizeOf_spec];omega
 |i+1,[]=>by simp
 |i+1,x::l=>by
  have:=yY i l
  rw[List.take_succ_cons];simp only[List.cons.sizeOf_spec];omega
end Go.Ab
namespace Go.Proofs.YtokkjobjffhfjaaGreatDoor
open Go Go.Ab
theorem Uc(n:Int):aD Tryz.prog 111 [.c (.d (.i .i64 n))] (.agg [.d (.i .i64 1),.d (.s []),.d (.s []),.d (.i .i64 n),.d (.i .i64 0),.d (.s []),.aY [],.aY [],.aY []]):=fun S=>by
 refine aB (rs:=[.cell 2 28]) Tryz.checked.mixed Tryz.func111 Tryz.ntmps111 rfl rfl rfl rfl rfl ?_
 exact Z1
theorem PX(s:List UInt8):aD Tryz.prog 112 [.c (.d (.s s))] (.agg [.d (.i .i64 3),.d (.s []),.d (.s s),.d (.i .i64 0),.d (.i .i64 0),.d (.s []),.aY [],.aY [],.aY []]):=fun S=>by
 refine aB (rs:=[.cell 2 28]) Tryz.checked.mixed Tryz.func112 Tryz.ntmps112 rfl rfl rfl rfl rfl ?_
 exact Z1
theorem C9:∀N:Nat,(∀x:ah,SizeOf.sizeOf x<N→x.sz≤4194304→aD Tryz.prog 61 [x.v] (bM false x).v)∧
 (∀xs:List ah,SizeOf.sizeOf xs<N→xs.length≤4194304→(∀t∈xs,t.sz≤4194304)→aD Tryz.prog 113 [.c (.d (.sl (xs.map ah.enc)))] (.c (.d (.sl ((xs.map (bM false)).map aj.enc)))))∧
 (∀x:ah,SizeOf.sizeOf x<N→x.sz≤4194304→aD Tryz.prog 116 [x.v] (lX false x).v)
 |0=>⟨fun x h=>by omega,fun x h=>by omega,fun x h=>by omega⟩
 |N+1=>by
  obtain⟨ih,lZ,ihM⟩:=C9 N
  refine⟨fun x hn hsz=>aD.of_le fun S=> ?_,fun xs hn hlen hsz S=> ?_,fun x hn hsz=>aD.of_le fun S=> ?_⟩
  ·have jS:=ah.oM x
   have h1:=q8 x
   have h2:=AP x
   have hall:∀t∈x.au,t.sz≤4194304:=fun t ht=>by have:=ny ht;omega
   have hr:=j5 (l:=x.au)
   have hso:=fun i=>uQ i x.au
   have hdl:∀i,(x.au.drop i).length≤4194304:=fun i=>by rw[List.length_drop];omega
   have hda:∀i,∀t∈x.au.drop i,t.sz≤4194304:=fun i t ht=>hall t (List.mem_of_mem_drop ht)
   have hg:qN false x.au:=fun e=>by cases e.1
   refine aB (rs:=[.cell 2 28]) Tryz.checked.mixed Tryz.func61 Tryz.ntmps61 rfl rfl rfl rfl rfl ?_
   refine W1 ?_
   refine S0 (fun hb h=>?_) fun hb h=>?_
   ·have hne:=h
    refine bH (Hy x.aI (by omega)) ?_
    cases vO:eG x.aI with
    |some m=>
     simp -implicitDefEqProofs (disch:=omega) only[go_sem,Option.getD_some,Option.isSome_some]
     refine C1 (Uc m) ?_
     exact se0 (Od hne vO)
    |none=>
     simp -implicitDefEqProofs (disch:=omega) only[go_sem,Option.getD_none,Option.isSome_none]
     refine S0 (fun hb h=>?_) fun hb h=>?_
     ·exact se0 (Kn hne vO h)
     have k1:=h
     refine S0 (fun hb h=>?_) fun hb h=>?_
     ·exact se0 (H8 hne vO k1 h)
     have k2:=h
     refine C1 (PX _) ?_
     exact se0 (Oe hne vO k1 k2)
   have ha:=h
   have l0:=Ub x.au 0 (by omega)
   have l1:=Ub x.au 1 (by omega)
   have l2:=Ub x.au 2 (by omega)
   have hm1:min (1:Int) (x.au.length:Int)=((min 1 x.au.length:Nat):Int):=by omega
   have hm2:min (2:Int) (x.au.length:Int)=((min 2 x.au.length:Nat):Int):=by omega
   have hm3:min (3:Int) (x.au.length:Int)=((min 3 x.au.length:Nat):Int):=by omega
   have hd:=fun i=>PW x.au i
   have hdd:=vN x.au x.au.length 1 (Nat.le_refl _)
   simp -implicitDefEqProofs (disch:=omega) only[go_sem,l0,l1,l2]
   refine W3 ?_
   with_reducible refine dP (fun hb=> ?_) (fun hb=> ?_)<;>have h:=hb<;>(try simp only[wf_preprocess] at h)<;>simp -implicitDefEqProofs (disch:=omega) only[go_sem,hb,l0,l1,l2]<;>refine W3 ?_
   ·refine bH (qx _ _) ?_
    rw[hm2]
    refine W1 ?_
    refine⟨⟨by omega,by omega,by omega,hr⟩,?_⟩
    rw[hd]
    refine C1 (lZ (x.au.drop 2) (by have:=hso 2;omega) (hdl 2) (hda 2)) ?_
    exact Oh (Ki ha hg h)
   have Ud:=h
   with_reducible refine dP (fun hb=> ?_) (fun hb=> ?_)<;>have h:=hb<;>(try simp only[wf_preprocess] at h)<;>simp -implicitDefEqProofs (disch:=omega) only[go_sem,hb,l0,l1,l2]<;>refine W3 ?_
   ·refine bH (qx _ _) ?_
    rw[hm3]
    refine W1 ?_
    refine⟨⟨by omega,by omega,by omega,hr⟩,?_⟩
    rw[hd]
    refine C1 (lZ (x.au.drop 3) (by have:=hso 3;omega) (hdl 3) (hda 3)) ?_
    exact Oh (Et ha hg h)
   have DT:=h
   with_reducible refine dP (fun hb=> ?_) (fun hb=> ?_)<;>have h:=hb<;>(try simp only[wf_preprocess] at h)<;>simp -implicitDefEqProofs (disch:=omega) only[go_sem,hb,l0,l1,l2]<;>refine W3 ?_
   ·refine bH (qx _ _) ?_
    rw[hm2]
    refine W1 ?_
    refine⟨⟨by omega,by omega,by omega,hr⟩,?_⟩
    rw[hd]
    refine C1 (lZ (x.au.drop 2) (by have:=hso 2;omega) (hdl 2) (hda 2)) ?_
    exact Oh (Oa ha hg h)
   have nNew:=h
   with_reducible refine dP (fun hb=> ?_) (fun hb=> ?_)<;>have h:=hb<;>(try simp only[wf_preprocess] at h)<;>simp -implicitDefEqProofs (disch:=omega) only[go_sem,hb,l0,l1,l2]<;>refine W3 ?_
   ·refine bH (qx _ _) ?_
    rw[hm2]
    refine W1 ?_
    refine⟨⟨by omega,by omega,by omega,hr⟩,?_⟩
    rw[hd]
    refine C1 (lZ (x.au.drop 2) (by have:=hso 2;omega) (hdl 2) (hda 2)) ?_
    exact Oh (Ob ha hg h)
   have aaf:=h
   with_reducible refine dP (fun hb=> ?_) (fun hb=> ?_)<;>have h:=hb<;>(try simp only[wf_preprocess] at h)<;>simp -implicitDefEqProofs (disch:=omega) only[go_sem,hb,l0,l1,l2]<;>refine W3 ?_
   ·have hpos:0<x.au.length:=by
     rcases Nat.eq_zero_or_pos x.au.length with e|e
     ·rw[zJ (by omega)] at h;cases h
     ·exact e
    refine⟨⟨by omega,by omega,hr⟩,?_⟩
    rw[hdd]
    refine C1 (lZ (x.au.drop 1) (by have:=hso 1;omega) (hdl 1) (hda 1)) ?_
    exact Oh (QT ha hg h)
   have nIf:=h
   with_reducible refine dP (fun hb=> ?_) (fun hb=> ?_)<;>have h:=hb<;>(try simp only[wf_preprocess] at h)<;>simp -implicitDefEqProofs (disch:=omega) only[go_sem,hb,l0,l1,l2]<;>refine W3 ?_
   ·refine bH (qx _ _) ?_
    rw[hm2]
    refine W1 ?_
    refine⟨⟨by omega,by omega,by omega,hr⟩,?_⟩
    rw[hd]
    refine C1 (lZ (x.au.drop 2) (by have:=hso 2;omega) (hdl 2) (hda 2)) ?_
    exact Oh (Kj ha hg h)
   have Ue:=h
   with_reducible refine dP (fun hb=> ?_) (fun hb=> ?_)<;>have h:=hb<;>(try simp only[wf_preprocess] at h)<;>simp -implicitDefEqProofs (disch:=omega) only[go_sem,hb,l0,l1,l2]<;>refine W3 ?_
   ·refine C1 (N8 (x.au.getD 1 gq) (Oi x 1 hsz)) ?_
    refine bH (qx _ _) ?_
    rw[hm2]
    refine W1 ?_
    refine⟨⟨by omega,by omega,by omega,hr⟩,?_⟩
    rw[hd]
    refine C1 (lZ (x.au.drop 2) (by have:=hso 2;omega) (hdl 2) (hda 2)) ?_
    exact se2 (Oc ha hg h)
   have nThe:=h
   with_reducible refine dP (fun hb=> ?_) (fun hb=> ?_)<;>have h:=hb<;>(try simp only[wf_preprocess] at h)<;>simp -implicitDefEqProofs (disch:=omega) only[go_sem,hb,l0,l1,l2]<;>refine W3 ?_
   ·have hpos:0<x.au.length:=by
     rcases Nat.eq_zero_or_pos x.au.length with e|e
     ·rw[zJ (by omega)] at h;cases h
     ·exact e
    have hdec:=Kk ha hg h
    refine bH (qx _ _) ?_
    rw[hm2]
    refine W1 ?_
    refine⟨⟨by omega,by omega,hr⟩,?_⟩
    rw[ab7]
    refine C1 (lZ ((x.au.drop 1).take 1) (by have:=hso 1;have:=yY 1 (x.au.drop 1);omega) (by rw[List.length_take];omega) (fun t ht=>hda 1 t (List.mem_of_mem_take ht))) ?_
    obtain⟨sI,Uf⟩:∃sI,sI=((x.au.drop 1).take 1).map (bM false):=⟨_,rfl⟩
    obtain⟨T,hT⟩:∃T:Nat→List (List D),T=fun k=>(((x.au.drop 2).map (lX false)).take k).map aA.enc:=⟨_,rfl⟩
    have hT0:T 0=[]:=by rw[hT];rfl
    have C8:∀k,(T k).length≤k:=fun k=>by rw[hT];simp only[List.length_map];exact List.length_take_le _ _
    have hTs:∀k (hk:k+2<x.au.length),T k++[(lX false x.au[k+2]).enc]=T (k+1):=fun k hk=>by
     have:=Xi (l:=(x.au.drop 2).map (lX false)) (i:=k) (by rw[List.length_map,List.length_drop];omega)
     rw[List.getElem_map,List.getElem_drop] at this
     rw[hT];simp only[Nat.add_comm 2 k] at this ⊢;exact this
    have hTe:T (x.au.length-2)=((x.au.drop 2).map (lX false)).map aA.enc:=by
     rw[hT];simp only
     rw[List.take_of_length_le (by simp)]
    clear hT
    rw[←Uf] at hdec ⊢
    refine J7 3 8 11 _ rfl rfl ?_
    refine aW (ι:=Nat) Tryz.checked.mixed rfl [1,2,6,8,9] (fun k=>[.c (.ptr (0,0) 0),.c (.ptr (0,1) 0),.c (.d (.i .i64 x.au.length)),.c (.ptr (0,3) 0),.c (.d (.i .i64 ((k+2:Nat):Int)))])
     (fun k=>[.box [.d (.s x.aI),.d (.sl (x.au.map ah.enc))],.box [.d (.i .i64 0),.d (.s []),.d (.s []),.d (.i .i64 0),.d (.i .i64 0),.d (.s []),.aY [],.aY [],.aY []],.tok 2 (x.au.map ah.enc++[[.s [],.sl []],[.s [],.sl []],[.s [],.sl []]]),
       .box [.d (.i .i64 7),.d (.s []),.d (.s []),.d (.i .i64 0),.d (.i .i64 0),.d (.s []),.aY [],.d (.sl (sI.map aj.enc)),.bQ (0,4) (T k)],.tok 11 (T k)]::S)
     (fun k=>k≤x.au.length-2) (fun k=>x.au.length-(k+2)) 0 rfl (by rw[hT0];rfl) (Nat.zero_le _) ?_
    intro k hk
    have hlk:=C8 k
    clear l0 l1 l2
    refine W1 ?_
    refine S0 (fun hb h=>?_) fun hb h=>?_
    ·have hk':k+2<x.au.length:=by omega
     have hm:=List.getElem_mem hk'
     have hs:=hTs k hk'
     simp only[aA.aC,aj.aC,ak.aC,List.cons_append,List.nil_append] at hs
     refine W3 ?_
     refine C1 (ihM x.au[k+2] (by have:=List.sizeOf_lt_of_mem hm;omega) (hall _ hm)) ?_
     refine W3 ?_
     rw[hs]
     exact bK (k+1) (by omega) rfl rfl (by omega)
    ·have hk':k=x.au.length-2:=by omega
     subst hk'
     rw[hTe]
     exact se3 hdec
   have Ug:=h
   refine bH (qx _ _) ?_
   rw[hm1]
   refine W1 ?_
   refine⟨⟨by omega,by omega,by omega,hr⟩,?_⟩
   rw[hd]
   refine C1 (lZ (x.au.drop 1) (by have:=hso 1;omega) (hdl 1) (hda 1)) ?_
   exact Oh (Kl ha hg Ud nNew aaf Ue DT nIf nThe Ug)
  ·have AJ:=fun(i:Nat) (hi:i<xs.length)=>Xh (l:=xs.map (bM false)) (i:=i) (by rw[List.length_map];exact hi)
   refine aB (rs:=[.tmp 2]) Tryz.checked.mixed Tryz.func113 Tryz.ntmps113 rfl rfl rfl rfl rfl ?_
   refine W1 ?_
   refine W3 ?_
   refine FP 3 9 [] rfl (by simp) ?_
   refine aW (ι:=Nat) Tryz.checked.mixed rfl [0,3,4] (fun i=>[.c (.d (.sl (xs.map ah.enc))),.c (.bQ (0,0) (((xs.map (bM false)).take i).map aj.enc)),.c (.d (.i .i64 i))]) (fun i=>[.tok 9 (((xs.map (bM false)).take i).map aj.enc)]::S)
    (fun i=>i≤xs.length) (fun i=>xs.length-i) 0 rfl rfl (Nat.zero_le _) ?_
   intro i hi
   have hl:(((xs.map (bM false)).take i).map aj.enc).length≤i:=by rw[List.length_map];exact List.length_take_le _ _
   refine W1 ?_
   refine S0 (fun hb h=>?_) fun hb h=>?_
   ·have hi':i<xs.length:=by omega
    have hs:=AJ i hi'
    rw[List.getElem_map] at hs
    simp only[aj.aC,ak.aC,List.cons_append,List.nil_append] at hs
    refine W3 ?_
    refine C1 (ih xs[i] (by have:=List.sizeOf_lt_of_mem (List.getElem_mem hi');omega) (hsz _ (List.getElem_mem hi'))) ?_
    refine W3 ?_
    rw[hs]
    exact bK (i+1) (by omega) rfl rfl (by omega)
   ·have hi':i=(xs.map (bM false)).length:=by rw[List.length_map];omega
    rw[hi',List.take_length]
  ·have jS:=ah.oM x
   have h1:=q8 x
   have hall:∀t∈x.au,t.sz≤4194304:=fun t ht=>by have:=ny ht;omega
   have hr:=j5 (l:=x.au)
   refine aB (rs:=[.cell 2 94]) Tryz.checked.mixed Tryz.func116 Tryz.ntmps116 rfl rfl rfl rfl rfl ?_
   refine W1 ?_
   refine S0 (fun hb h=>?_) fun hb h=>?_
   ·rw[QS false x (by omega)]
    exact(dH.cons (.refl _) (.cons (gN _) (.cons (.refl _) (.cons (.refl _) (.cons (.refl _) (.cons (.refl _) (.cons (.refl _) (.cons (.refl _) (.cons (gN _) (.cons (gN _) (.cons (gN _) .nil))))))))))).less
   have hl2:2≤x.au.length:=by omega
   have a0:=nC (l:=x.au) (i:=0) (by omega)
   have hm:=List.getElem_mem (l:=x.au) (n:=x.au.length-1) (by omega)
   rw[QO false x hl2,a0]
   refine⟨⟨by omega,by omega,hr⟩,?_⟩
   rw[Ko _ hl2]
   refine C1 (N7 ((x.au.drop 1).dropLast) (by rw[List.length_dropLast,List.length_drop];omega)) ?_
   refine W3 ?_
   have el:((x.au.length:Int)-1).toNat=x.au.length-1:=by omega
   simp only[el]
   refine C1 (ih (x.au[x.au.length-1]) (by have:=List.sizeOf_lt_of_mem hm;omega) (hall _ hm)) ?_
   exact gB _
theorem PY(x:ah)(hsz:x.sz≤4194304):aD Tryz.prog 61 [x.v] (bM false x).v:=(C9 _).1 x (Nat.lt_succ_self _) hsz
end Go.Proofs.YtokkjobjffhfjaaGreatDoor
namespace Go.Proofs
open Go.Shelf
def Tryz.lays172_ren:Go.Shelf.Ren:=⟨fun|172=>257|244=>298|245=>299|247=>317|279=>318|280=>319|281=>320|282=>321|287=>339|316=>340|171=>201|205=>341|321=>351|322=>352|243=>264|246=>305|283=>324|284=>325|285=>326|286=>327|129=>343|317=>342|318=>344|319=>345|320=>346|337=>353|338=>354|n=>n,fun|9=>9|3=>3|75=>239|76=>240|4=>4|5=>5|167=>275|37=>127|0=>0|85=>276|2=>2|168=>278|53=>282|175=>296|46=>262|210=>300|127=>311|145=>314|143=>312|21=>21|171=>281|173=>285|212=>303|51=>293|20=>20|213=>304|232=>316|233=>317|80=>318|n=>n,fun|15=>3|16=>4|17=>5|18=>6|19=>7|n=>n⟩
theorem Tryz.lays172:Go.Proofs.Lays.n172 Tryz.prog Tryz.lays172_ren:={
 mixed:=by kernel_rfl
 f129:=Tryz.func343.trans (congrArg some (by kernel_rfl))
 f171:=Tryz.func201.trans (congrArg some (by kernel_rfl))
 f172:=Tryz.func257.trans (congrArg some (by kernel_rfl))
 f205:=Tryz.func341.trans (congrArg some (by kernel_rfl))
 f243:=Tryz.func264.trans (congrArg some (by kernel_rfl))
 f244:=Tryz.func298.trans (congrArg some (by kernel_rfl))
 f245:=Tryz.func299.trans (congrArg some (by kernel_rfl))
 f246:=Tryz.func305.trans (congrArg some (by kernel_rfl))
 f247:=Tryz.func317.trans (congrArg some (by kernel_rfl))
 f279:=Tryz.func318.trans (congrArg some (by kernel_rfl))
 f280:=Tryz.func319.trans (congrArg some (by kernel_rfl))
 f281:=Tryz.func320.trans (congrArg some (by kernel_rfl))
 f282:=Tryz.func321.trans (congrArg some (by kernel_rfl))
 f283:=Tryz.func324.trans (congrArg some (by kernel_rfl))
 f284:=Tryz.func325.trans (congrArg some (by kernel_rfl))
 f285:=Tryz.func326.trans (congrArg some (by kernel_rfl))
 f286:=Tryz.func327.trans (congrArg some (by kernel_rfl))
 f287:=Tryz.func339.trans (congrArg some (by kernel_rfl))
 f316:=Tryz.func340.trans (congrArg some (by kernel_rfl))
 f317:=Tryz.func342.trans (congrArg some (by kernel_rfl))
 f318:=Tryz.func344.trans (congrArg some (by kernel_rfl))
 f319:=Tryz.func345.trans (congrArg some (by kernel_rfl))
 f320:=Tryz.func346.trans (congrArg some (by kernel_rfl))
 f321:=Tryz.func351.trans (congrArg some (by kernel_rfl))
 f322:=Tryz.func352.trans (congrArg some (by kernel_rfl))
 f337:=Tryz.func353.trans (congrArg some (by kernel_rfl))
 f338:=Tryz.func354.trans (congrArg some (by kernel_rfl))
 t0:=Tryz.underlying0
 a0:=Tryz.isAgg0
 z0:=Tryz.sizeOf0
 v0:=Tryz.zeroValue0
 t2:=Tryz.underlying2
 a2:=Tryz.isAgg2
 z2:=Tryz.sizeOf2
 v2:=Tryz.zeroValue2
 t3:=Tryz.underlying3
 a3:=Tryz.isAgg3
 z3:=Tryz.sizeOf3
 v3:=Tryz.zeroValue3
 t4:=Tryz.underlying4
 a4:=Tryz.isAgg4
 z4:=Tryz.sizeOf4
 v4:=Tryz.zeroValue4
 t5:=Tryz.underlying5
 a5:=Tryz.isAgg5
 z5:=Tryz.sizeOf5
 v5:=Tryz.zeroValue5
 t9:=Tryz.underlying9
 a9:=Tryz.isAgg9
 z9:=Tryz.sizeOf9
 v9:=Tryz.zeroValue9
 t20:=Tryz.underlying20
 a20:=Tryz.isAgg20
 z20:=Tryz.sizeOf20
 v20:=Tryz.zeroValue20
 t21:=Tryz.underlying21
 a21:=Tryz.isAgg21
 z21:=Tryz.sizeOf21
 v21:=Tryz.zeroValue21
 t37:=Tryz.underlying127
 a37:=Tryz.isAgg127
 z37:=Tryz.sizeOf127
 v37:=Tryz.zeroValue127
 t46:=Tryz.underlying262
 a46:=Tryz.isAgg262
 z46:=Tryz.sizeOf262
 v46:=Tryz.zeroValue262
 t51:=Tryz.underlying293
 a51:=Tryz.isAgg293
 z51:=Tryz.sizeOf293
 v51:=Tryz.zeroValue293
 t53:=Tryz.underlying282
 a53:=Tryz.isAgg282
 z53:=Tryz.sizeOf282
 v53:=Tryz.zeroValue282
 t75:=Tryz.underlying239
 a75:=Tryz.isAgg239
 z75:=Tryz.sizeOf239
 v75:=Tryz.zeroValue239
 t76:=Tryz.underlying240
 a76:=Tryz.isAgg240
 z76:=Tryz.sizeOf240
 v76:=Tryz.zeroValue240
 t85:=Tryz.underlying276
 a85:=Tryz.isAgg276
 z85:=Tryz.sizeOf276
 v85:=Tryz.zeroValue276
 t127:=Tryz.underlying311
 a127:=Tryz.isAgg311
 z127:=Tryz.sizeOf311
 v127:=Tryz.zeroValue311
 t143:=Tryz.underlying312
 a143:=Tryz.isAgg312
 z143:=Tryz.sizeOf312
 v143:=Tryz.zeroValue312
 t145:=Tryz.underlying314
 a145:=Tryz.isAgg314
 z145:=Tryz.sizeOf314
 v145:=Tryz.zeroValue314
 t167:=Tryz.underlying275
 a167:=Tryz.isAgg275
 z167:=Tryz.sizeOf275
 v167:=Tryz.zeroValue275
 t168:=Tryz.underlying278
 a168:=Tryz.isAgg278
 z168:=Tryz.sizeOf278
 v168:=Tryz.zeroValue278
 t171:=Tryz.underlying281
 a171:=Tryz.isAgg281
 z171:=Tryz.sizeOf281
 v171:=Tryz.zeroValue281
 t173:=Tryz.underlying285
 a173:=Tryz.isAgg285
 z173:=Tryz.sizeOf285
 v173:=Tryz.zeroValue285
 t175:=Tryz.underlying296
 a175:=Tryz.isAgg296
 z175:=Tryz.sizeOf296
 v175:=Tryz.zeroValue296
 t210:=Tryz.underlying300
 a210:=Tryz.isAgg300
 z210:=Tryz.sizeOf300
 v210:=Tryz.zeroValue300
 t212:=Tryz.underlying303
 a212:=Tryz.isAgg303
 z212:=Tryz.sizeOf303
 v212:=Tryz.zeroValue303
 t213:=Tryz.underlying304
 a213:=Tryz.isAgg304
 z213:=Tryz.sizeOf304
 t232:=Tryz.underlying316
 a232:=Tryz.isAgg316
 z232:=Tryz.sizeOf316
 v232:=Tryz.zeroValue316
 t233:=Tryz.underlying317
 a233:=Tryz.isAgg317
 z233:=Tryz.sizeOf317
 v233:=Tryz.zeroValue317
 g15:=by kernel_rfl
 g16:=by kernel_rfl
 g17:=by kernel_rfl
 g18:=by kernel_rfl
 g19:=by kernel_rfl}
open Go.RowKit in
theorem Tryz.strconv_Atoi(s:ByteArray)(n:Int)(hl:s.size≤18)(h:Lib.atoi s.data.toList=some n)(w:World):
 Calls Tryz.prog 257 #[.string s] w fun e w'=>e=.returned (.tuple #[.int .i64 n,.nilIface])∧∃t,w'=Lib.bytesWorld w 5 t:=Any.strconv_Atoi Tryz.lays172 s n hl h w
def Tryz.laysC172_ren:Go.Shelf.Ren:=⟨fun|172=>257|244=>298|245=>299|247=>317|279=>318|280=>319|281=>320|282=>321|287=>339|316=>340|171=>201|205=>341|321=>351|322=>352|243=>264|246=>305|283=>324|284=>325|285=>326|286=>327|129=>343|317=>342|318=>344|319=>345|320=>346|337=>353|338=>354|n=>n,fun|9=>9|3=>3|75=>239|76=>240|4=>4|5=>5|167=>275|37=>127|0=>0|85=>276|2=>2|168=>278|53=>282|175=>296|46=>262|210=>300|127=>311|145=>314|143=>312|21=>21|171=>281|173=>285|212=>303|51=>293|20=>20|213=>304|232=>316|233=>317|80=>318|n=>n,fun|15=>3|16=>4|17=>5|18=>6|19=>7|n=>n⟩
theorem Tryz.laysC172:Go.Proofs.LaysC.n172 Tryz.prog Tryz.laysC172_ren:={
 mixed:=by kernel_rfl
 f129:=Tryz.func343.trans (congrArg some (by kernel_rfl))
 f171:=Tryz.func201.trans (congrArg some (by kernel_rfl))
 f172:=Tryz.func257.trans (congrArg some (by kernel_rfl))
 f205:=Tryz.func341.trans (congrArg some (by kernel_rfl))
 f243:=Tryz.func264.trans (congrArg some (by kernel_rfl))
 f244:=Tryz.func298.trans (congrArg some (by kernel_rfl))
 f245:=Tryz.func299.trans (congrArg some (by kernel_rfl))
 f246:=Tryz.func305.trans (congrArg some (by kernel_rfl))
 f247:=Tryz.func317.trans (congrArg some (by kernel_rfl))
 f279:=Tryz.func318.trans (congrArg some (by kernel_rfl))
 f280:=Tryz.func319.trans (congrArg some (by kernel_rfl))
 f281:=Tryz.func320.trans (congrArg some (by kernel_rfl))
 f282:=Tryz.func321.trans (congrArg some (by kernel_rfl))
 f283:=Tryz.func324.trans (congrArg some (by kernel_rfl))
 f284:=Tryz.func325.trans (congrArg some (by kernel_rfl))
 f285:=Tryz.func326.trans (congrArg some (by kernel_rfl))
 f286:=Tryz.func327.trans (congrArg some (by kernel_rfl))
 f287:=Tryz.func339.trans (congrArg some (by kernel_rfl))
 f316:=Tryz.func340.trans (congrArg some (by kernel_rfl))
 f317:=Tryz.func342.trans (congrArg some (by kernel_rfl))
 f318:=Tryz.func344.trans (congrArg some (by kernel_rfl))
 f319:=Tryz.func345.trans (congrArg some (by kernel_rfl))
 f320:=Tryz.func346.trans (congrArg some (by kernel_rfl))
 f321:=Tryz.func351.trans (congrArg some (by kernel_rfl))
 f322:=Tryz.func352.trans (congrArg some (by kernel_rfl))
 f337:=Tryz.func353.trans (congrArg some (by kernel_rfl))
 f338:=Tryz.func354.trans (congrArg some (by kernel_rfl))
 t0:=Tryz.underlying0
 a0:=Tryz.isAgg0
 z0:=Tryz.sizeOf0
 v0:=Tryz.zeroValue0
 t2:=Tryz.underlying2
 a2:=Tryz.isAgg2
 z2:=Tryz.sizeOf2
 v2:=Tryz.zeroValue2
 t3:=Tryz.underlying3
 a3:=Tryz.isAgg3
 z3:=Tryz.sizeOf3
 v3:=Tryz.zeroValue3
 t4:=Tryz.underlying4
 a4:=Tryz.isAgg4
 z4:=Tryz.sizeOf4
 v4:=Tryz.zeroValue4
 t5:=Tryz.underlying5
 a5:=Tryz.isAgg5
 z5:=Tryz.sizeOf5
 v5:=Tryz.zeroValue5
 t9:=Tryz.underlying9
 a9:=Tryz.isAgg9
 z9:=Tryz.sizeOf9
 v9:=Tryz.zeroValue9
 t20:=Tryz.underlying20
 a20:=Tryz.isAgg20
 z20:=Tryz.sizeOf20
 v20:=Tryz.zeroValue20
 t21:=Tryz.underlying21
 a21:=Tryz.isAgg21
 z21:=Tryz.sizeOf21
 v21:=Tryz.zeroValue21
 t37:=Tryz.underlying127
 a37:=Tryz.isAgg127
 z37:=Tryz.sizeOf127
 v37:=Tryz.zeroValue127
 t46:=Tryz.underlying262
 a46:=Tryz.isAgg262
 z46:=Tryz.sizeOf262
 v46:=Tryz.zeroValue262
 t51:=Tryz.underlying293
 a51:=Tryz.isAgg293
 z51:=Tryz.sizeOf293
 v51:=Tryz.zeroValue293
 t53:=Tryz.underlying282
 a53:=Tryz.isAgg282
 z53:=Tryz.sizeOf282
 v53:=Tryz.zeroValue282
 t75:=Tryz.underlying239
 a75:=Tryz.isAgg239
 z75:=Tryz.sizeOf239
 v75:=Tryz.zeroValue239
 t76:=Tryz.underlying240
 a76:=Tryz.isAgg240
 z76:=Tryz.sizeOf240
 v76:=Tryz.zeroValue240
 t85:=Tryz.underlying276
 a85:=Tryz.isAgg276
 z85:=Tryz.sizeOf276
 v85:=Tryz.zeroValue276
 t127:=Tryz.underlying311
 a127:=Tryz.isAgg311
 z127:=Tryz.sizeOf311
 v127:=Tryz.zeroValue311
 t143:=Tryz.underlying312
 a143:=Tryz.isAgg312
 z143:=Tryz.sizeOf312
 v143:=Tryz.zeroValue312
 t145:=Tryz.underlying314
 a145:=Tryz.isAgg314
 z145:=Tryz.sizeOf314
 v145:=Tryz.zeroValue314
 t167:=Tryz.underlying275
 a167:=Tryz.isAgg275
 z167:=Tryz.sizeOf275
 v167:=Tryz.zeroValue275
 t168:=Tryz.underlying278
 a168:=Tryz.isAgg278
 z168:=Tryz.sizeOf278
 v168:=Tryz.zeroValue278
 t171:=Tryz.underlying281
 a171:=Tryz.isAgg281
 z171:=Tryz.sizeOf281
 v171:=Tryz.zeroValue281
 t173:=Tryz.underlying285
 a173:=Tryz.isAgg285
 z173:=Tryz.sizeOf285
 v173:=Tryz.zeroValue285
 t175:=Tryz.underlying296
 a175:=Tryz.isAgg296
 z175:=Tryz.sizeOf296
 v175:=Tryz.zeroValue296
 t210:=Tryz.underlying300
 a210:=Tryz.isAgg300
 z210:=Tryz.sizeOf300
 v210:=Tryz.zeroValue300
 t212:=Tryz.underlying303
 a212:=Tryz.isAgg303
 z212:=Tryz.sizeOf303
 v212:=Tryz.zeroValue303
 t213:=Tryz.underlying304
 a213:=Tryz.isAgg304
 z213:=Tryz.sizeOf304
 t232:=Tryz.underlying316
 a232:=Tryz.isAgg316
 z232:=Tryz.sizeOf316
 v232:=Tryz.zeroValue316
 t233:=Tryz.underlying317
 a233:=Tryz.isAgg317
 z233:=Tryz.sizeOf317
 v233:=Tryz.zeroValue317
 g15:=by kernel_rfl
 g16:=by kernel_rfl
 g17:=by kernel_rfl
 g18:=by kernel_rfl
 g19:=by kernel_rfl
 t80:=Tryz.underlying318
 a80:=Tryz.isAgg318
 z80:=Tryz.sizeOf318
 v80:=Tryz.zeroValue318
 i0:=by kernel_rfl
 i2:=by kernel_rfl
 i3:=by kernel_rfl
 i4:=by kernel_rfl
 i5:=by kernel_rfl
 i9:=by kernel_rfl
 i20:=by kernel_rfl
 i21:=by kernel_rfl
 i37:=by kernel_rfl
 i46:=by kernel_rfl
 i51:=by kernel_rfl
 i53:=by kernel_rfl
 i75:=by kernel_rfl
 i76:=by kernel_rfl
 i80:=by kernel_rfl
 i85:=by kernel_rfl
 i127:=by kernel_rfl
 i143:=by kernel_rfl
 i145:=by kernel_rfl
 i167:=by kernel_rfl
 i168:=by kernel_rfl
 i171:=by kernel_rfl
 i173:=by kernel_rfl
 i175:=by kernel_rfl
 i210:=by kernel_rfl
 i212:=by kernel_rfl
 i232:=by kernel_rfl
 i233:=by kernel_rfl
 m15:=by kernel_rfl
 m16:=by kernel_rfl
 m17:=by kernel_rfl
 m18:=by kernel_rfl
 m19:=by kernel_rfl
 c0:=by kernel_rfl
 c2:=by kernel_rfl
 c3:=by kernel_rfl
 c4:=by kernel_rfl
 c5:=by kernel_rfl
 c9:=by kernel_rfl
 c20:=by kernel_rfl
 c21:=by kernel_rfl
 c37:=by kernel_rfl
 c46:=by kernel_rfl
 c51:=by kernel_rfl
 c53:=by kernel_rfl
 c75:=by kernel_rfl
 c76:=by kernel_rfl
 c80:=by kernel_rfl
 c85:=by kernel_rfl
 c127:=by kernel_rfl
 c143:=by kernel_rfl
 c145:=by kernel_rfl
 c167:=by kernel_rfl
 c168:=by kernel_rfl
 c171:=by kernel_rfl
 c173:=by kernel_rfl
 c175:=by kernel_rfl
 c210:=by kernel_rfl
 c212:=by kernel_rfl
 c213:=by kernel_rfl
 c232:=by kernel_rfl
 c233:=by kernel_rfl}
open Go.RowKit in
theorem Tryz.strconv_Atoi_err_var(s:ByteArray)(hl:s.size≤18)(h:Lib.atoi s.data.toList=none)(tp:TypeId)(p:Value)(w:World)(hvar:w.var? Tryz.prog "strconv.ErrSyntax" =some #[.iface tp p]):
 Calls Tryz.prog 257 #[.string s] w fun e w'=>∃N,e=.returned (.tuple #[.int .i64 0,.iface 278 (.pointer (some ⟨N,0,none⟩))])∧w.heap.size≤N∧w'.heap[N]? =some (.cells #[.string ⟨#[65,116,111,105]⟩,.string s,.iface tp p] 300 (0,0))∧Below w.heap.size w w':=Any.strconv_Atoi_err_var Tryz.laysC172 s hl h tp p w hvar
end Go.Proofs
namespace Go.Ab
theorem KQ{w w':World}{σ:Nat→Nat}(hl:∀b,b<w.heap.size∨σ b=0)(h:Go.RowKit.Below w.heap.size w w'):Grow w σ w' σ:=
 ⟨h.size,h.os,h.output,fun b hb=>⟨h.block b hb,rfl⟩,fun b=>(hl b).elim (fun x=>.inl (Nat.lt_of_lt_of_le x h.size)) .inr⟩
theorem Xk{x y z:V}{vs:List Value}{w:World}{σ:Nat→Nat}{S:Store}{β:Hs}(h:kM w σ S β [x,y,z] vs):∃u v t,vs=[u,v,t]∧bF w σ S β x u∧bF w σ S β y v∧bF w σ S β z t:=by
 obtain⟨hl,h⟩:=h
 obtain⟨u,e0,h0⟩:=h 0 x rfl
 obtain⟨v,e1,h1⟩:=h 1 y rfl
 obtain⟨t,e2,h2⟩:=h 2 z rfl
 match vs,hl,e0,e1,e2 with
 |[a,b,c],_,e0,e1,e2=>simp at e0 e1 e2;subst e0;subst e1;subst e2;exact⟨_,_,_,rfl,h0,h1,h2⟩
end Go.Ab
namespace Go.Proofs.YtokkjobjffhfjaaGreatDoor
open Go Go.Ab
theorem Uh(n:Int)(h0: -9223372036854775808≤n)(h1:n≤9223372036854775807)(w:World)(htab:Lib.TabIs Tryz.prog w "internal/strconv.uint64pow10" .u64 Lib.pow10Tab):
 Calls Tryz.prog 201 #[.int .i64 n] w fun e w'=>e=.returned (.string ⟨(Lib.itoa n).toArray⟩)∧Go.RowKit.Below w.heap.size w w':=
 (Tryz.strconv_Itoa n h0 h1 w htab).mono fun e w' ⟨he,k,os,hw⟩=>⟨he,by
   subst hw
   exact⟨rfl,rfl,rfl,by show w.heap.size≤(w.heap++os).size;simp,fun b hb=>by show(w.heap++os)[b]? =_;rw[Array.getElem?_append_left hb]⟩⟩
set_option maxHeartbeats 2000000 in
theorem PZ(s:List UInt8)(hs:s.length≤18)(tp:TypeId)(p:Value)(w:World)(htab:Lib.TabIs Tryz.prog w "internal/strconv.uint64pow10" .u64 Lib.pow10Tab)(hvar:w.var? Tryz.prog "strconv.ErrSyntax" =some #[.iface tp p]):
 Calls Tryz.prog 191 #[.string ⟨s.toArray⟩,.int .i64 (-999999999999),.int .i64 999999999999] w fun e w'=>e=.returned (.tuple #[.int .i64 ((eG s).getD 0),.bool (eG s).isSome])∧Go.RowKit.Below w.heap.size w w':=by
 have hsz:(⟨s.toArray⟩:ByteArray).size≤18:=by show s.toArray.size≤18;simpa using hs
 cases h:Lib.atoi s with
 |none=>
  have hc:=Tryz.strconv_Atoi_err_var ⟨s.toArray⟩ hsz (by simpa using h) tp p w hvar
  have vO:eG s=none:=by unfold eG;rw[h]
  rw[vO]
  clear hsz
  go_enter Tryz.func191,Tryz.ntmps191
  go_wp2_with (go_at_call 257;refine hc.mono ?_;rintro e W1 ⟨N,rfl,-,-,hb⟩)
  go_ret2
  exact⟨rfl,hb⟩
 |some n=>
  have hbd:=Lib.atoi_bound h hs
  have hc:=Tryz.strconv_Atoi ⟨s.toArray⟩ n hsz (by simpa using h) w
  have vO:eG s=if(-999999999999≤n∧n≤999999999999)∧Lib.itoa n=s then some n else none:=by unfold eG;rw[h]
  have hc':Calls Tryz.prog 257 #[.string ⟨s.toArray⟩] w fun e w'=>e=.returned (.tuple #[.int .i64 n,.nilIface])∧Go.RowKit.Below w.heap.size w w':=hc.mono fun e w' ⟨he,t,hw⟩=>⟨he,by rw[hw];exact Lib.bytesWorld_below _ _ _⟩
  have hi:∀W1,Go.RowKit.Below w.heap.size w W1→Calls Tryz.prog 201 #[.int .i64 n] W1 fun e w'=>e=.returned (.string ⟨(Lib.itoa n).toArray⟩)∧Go.RowKit.Below w.heap.size w w':=fun W1 hw=>
   (Uh n (by omega) (by omega) _ ((Lib.tabBelow_of_tabIs htab).on hw).here).mono fun e w' ⟨he,hb⟩=>⟨he,hw.trans (hb.mono hw.size)⟩
  clear hsz h hc
  go_enter Tryz.func191,Tryz.ntmps191
  go_wp2_with (first|(go_at_call 257;refine hc'.mono ?_;rintro e W1 ⟨rfl,hb1⟩)|(go_at_call 201;refine(hi _ hb1).mono ?_;rintro e W2 ⟨rfl,hb2⟩))
  all_goals go_ret2
  all_goals first
   |(exfalso;omega)
   |exact⟨rfl,hb2⟩
   |exact⟨rfl,hb1⟩
   |(rw[vO,if_pos ⟨⟨by omega,by omega⟩,by simp_all;done⟩];exact⟨rfl,hb2⟩)
   |(rw[vO,if_neg (by rintro⟨hc,_⟩;omega)];exact⟨rfl,hb1⟩)
   |(rw[vO,if_neg (by rintro⟨_,hc⟩;simp[hc] at *;omega)];exact⟨rfl,hb2⟩)
   |(rw[vO,if_neg (by rintro⟨_,hc⟩;simp_all;done)];exact⟨rfl,hb2⟩)
   |trace_state
theorem KR{w:World}{σ:Nat→Nat}(h:iN w σ):∃tp p,w.var? Tryz.prog "strconv.ErrSyntax" =some #[.iface tp p]:=by
 obtain⟨c,t,fz,q1,q2,q3⟩:=h 3 (fun l=>∃te pe,l=[Value.iface te pe]) (List.mem_cons_of_mem _ (List.mem_cons_of_mem _ (List.mem_cons_self ..)))
 obtain⟨te,pe,e⟩:=q2
 have hn:Tryz.prog.globalNamed "strconv.ErrSyntax" =some 3:=by kernel_rfl
 refine⟨te,pe,?_⟩
 unfold World.var?
 rw[hn]
 simp only[Option.bind_some,q1,Option.some.injEq]
 exact Array.ext' e
theorem Je(s:List UInt8)(hs:s.length≤18):aD Tryz.prog 191 [.c (.d (.s s)),.c (.d (.i .i64 (-999999999999))),.c (.d (.i .i64 999999999999))] (.dw [(false,[.d (.i .i64 ((eG s).getD 0))]),(false,[.d (.b (eG s).isSome)])]):=fun S=>by
 refine⟨⟨_,Tryz.func191,by kernel_rfl,by kernel_rfl⟩,fun w σ β vs hS hv=> ?_⟩
 obtain⟨u,v,t,rfl,⟨hu,_⟩,⟨hv,_⟩,⟨ht,_⟩⟩:=Xk hv
 have hu0:u=.string ⟨s.toArray⟩:=by cases hu;rfl
 have hv0:v=.int .i64 (-999999999999):=by cases hv;rfl
 have ht0:t=.int .i64 999999999999:=by cases ht;rfl
 subst hu0 hv0 ht0
 obtain⟨tp,p,hvar⟩:=KR hS.mY
 refine(PZ s hs tp p w (Kg hS.mY) hvar).mono fun e w' ⟨he,hb⟩=> ?_
 have hg:Grow w σ w' σ:=KQ hS.live hb
 exact⟨_,.dw [(false,[.d (.i .i64 ((eG s).getD 0))]),(false,[.d (.b (eG s).isSome)])],S,σ,β,he,hS.grow hg,Keep.refl _ _,Step.jM hg,⟨_,rfl,rfl,fun j y hy=>by
  match j,hy with
  |0,hy=>simp at hy;subst hy;exact⟨_,rfl,_,rfl,.i _ _,rfl⟩
  |1,hy=>simp at hy;subst hy;exact⟨_,rfl,_,rfl,.b _,rfl⟩
  |j+2,hy=>simp at hy⟩,rfl,rfl⟩
theorem H9(s:List UInt8)(hs:s.length≤18):aD Tryz.prog 130 [.c (.d (.s s))] (.dw [(false,[.d (.i .i64 ((eG s).getD 0))]),(false,[.d (.b (eG s).isSome)])]):=fun S=>by
 refine aB (rs:=[.tmp 2,.tmp 3]) Tryz.checked.mixed Tryz.func130 Tryz.ntmps130 rfl rfl rfl rfl rfl ?_
 refine W1 ?_
 exact C4 (Je s hs)
end Go.Proofs.YtokkjobjffhfjaaGreatDoor
namespace Go.Ab
theorem wP{l:List ah}(h2:2≤l.length)(h:bW l 0=fM→3≤l.length):qN true l:=fun e=>by
 rcases e.2 with e|e
 ·omega
 ·have:=h e.1;omega
theorem Kq{x:ah}(h:gD x=true)(ha:x.aI=[]):fQ x.au=true:=by rw[xH,if_pos ha] at h;exact h
theorem Xl{x:ah}(h:gD x=true)(ha:x.aI≠[]):x.aI.length≤18:=by
 rw[xH,if_neg ha,Bool.and_eq_true] at h
 have h1:=h.1
 unfold validAtom at h1
 rw[Bool.and_eq_true,decide_eq_true_eq] at h1
 omega
theorem Xm{x:ah}(h:gD x=true)(ha:x.au≠[]):fQ x.au=true:=by
 by_cases e:x.aI=[]
 ·exact Kq h e
 ·rw[xH,if_neg e,Bool.and_eq_true,decide_eq_true_eq] at h
  exact absurd (List.eq_nil_of_length_eq_zero h.2) ha
theorem ma0{x:aA}{n:Nat}(h:x=.mk [] [] kK):Less (.agg [.d (.s []),.aY [],.d (.i .i64 0),.d (.s []),.d (.s []),.d (.i .i64 0),.d (.i .i64 0),.d (.s []),.aY [],.aY [],.aY []]) (x.vl n):=by
 rw[h]
 exact(dH.cons (.refl _) (.cons (fF _) (.cons (.refl _) (.cons (.refl _) (.cons (.refl _) (.cons (.refl _) (.cons (.refl _) (.cons (.refl _) (.cons (fF _) (.cons (fF _) (.cons (fF _) .nil))))))))))).less
end Go.Ab
namespace Go.Proofs.YtokkjobjffhfjaaGreatDoor
open Go Go.Ab
theorem Da:∀N:Nat,(∀x:ah,SizeOf.sizeOf x<N→∀n:Nat,gD x=true→x.sz≤4194304→aD Tryz.prog 67 [x.v] ((bM true x).vl n))∧
 (∀xs:List ah,SizeOf.sizeOf xs<N→∀n q:Nat,fQ xs=true→xs.length≤4194304→(∀t∈xs,t.sz≤4194304)→aD Tryz.prog 131 [.c (.d (.sl (xs.map ah.enc)))] (.c (.d (.ol n (lE (xs.map (bM true)) q)))))∧
 (∀x:ah,SizeOf.sizeOf x<N→∀n:Nat,gD x=true→x.sz≤4194304→aD Tryz.prog 133 [x.v] ((lX true x).vl n))
 |0=>⟨fun x h=>by omega,fun x h=>by omega,fun x h=>by omega⟩
 |N+1=>by
  obtain⟨ih,lZ,ihM⟩:=Da N
  refine⟨fun x hn n hfo hsz=>aD.of_le fun S=> ?_,fun xs hn n q hfo hlen hsz S=> ?_,fun x hn n hfo hsz=>aD.of_le fun S=> ?_⟩
  ·have jS:=ah.oM x
   have h1:=q8 x
   have h2:=AP x
   have hall:∀t∈x.au,t.sz≤4194304:=fun t ht=>by have:=ny ht;omega
   have hr:=j5 (l:=x.au)
   have hso:=fun i=>uQ i x.au
   have hdl:∀i,(x.au.drop i).length≤4194304:=fun i=>by rw[List.length_drop];omega
   have hda:∀i,∀t∈x.au.drop i,t.sz≤4194304:=fun i t ht=>hall t (List.mem_of_mem_drop ht)
   have hdd:=vN x.au x.au.length 1 (Nat.le_refl _)
   refine nK (n) (rs:=[.cell 2 28]) Tryz.checked.mixed Tryz.func67 Tryz.ntmps67 rfl rfl rfl rfl rfl ?_
   refine W1 ?_
   refine S0 (fun hb h=>?_) fun hb h=>?_
   ·have hne:=h
    refine bH (H9 x.aI (Xl hfo hne)) ?_
    cases vO:eG x.aI with
    |some m=>
     simp -implicitDefEqProofs (disch:=omega) only[go_sem,Option.getD_some,Option.isSome_some]
     exact QU (Od hne vO)
    |none=>
     simp -implicitDefEqProofs (disch:=omega) only[go_sem,Option.getD_none,Option.isSome_none]
     refine S0 (fun hb h=>?_) fun hb h=>?_
     ·exact QU (Kn hne vO h)
     have k1:=h
     refine S0 (fun hb h=>?_) fun hb h=>?_
     ·exact QU (H8 hne vO k1 h)
     have k2:=h
     exact QU (Oe hne vO k1 k2)
   have ha:=h
   have hfs:=Kq hfo ha
   refine S0 (fun hb h=>?_) fun hb h=>?_
   ·exact QU (Km ha fun e=>e ⟨rfl,.inl (by omega)⟩)
   have hl2:2≤x.au.length:=by omega
   have a0:=nC (l:=x.au) (i:=0) (by omega)
   obtain⟨m,hm⟩:∃m,m=x.au.drop 1:=⟨_,rfl⟩
   have hml:m.length=x.au.length-1:=by rw[hm,List.length_drop]
   have hmi:∀i (hi:i<m.length),m[i]=x.au[i+1]'(by omega):=fun i hi=>by simp only[hm,List.getElem_drop,Nat.add_comm 1 i]
   have hrm:=j5 (l:=m)
   have hmd:∀i,m.drop i=x.au.drop (i+1):=fun i=>by rw[hm,List.drop_drop,Nat.add_comm 1 i]
   have hme:=fun i=>vN m m.length i (Nat.le_refl _)
   have b1:bW x.au 1=(m[0]'(by omega)).aI:=by rw[hmi 0 (by omega),nC (by omega)]
   refine⟨⟨by omega,by omega,hr⟩,?_⟩
   rw[hdd,←hm]
   simp only[←a0]
   refine S0 (fun hb h=>?_) fun hb h=>?_
   ·have hg:=wP hl2 fun e=>by rw[h] at e;exact absurd e (by decide)
    have hdec:=Ki ha hg h
    refine W3 ?_
    refine⟨⟨by omega,by omega,hrm⟩,?_⟩
    rw[hme,hmd,←b1]
    refine C1 (lZ (x.au.drop 2) (by have:=hso 2;omega) (n+1) (n+1+1) (mI hfs 2) (hdl 2) (hda 2)) ?_
    exact Og hdec
   have Ud:=h
   refine S0 (fun hb h=>?_) fun hb h=>?_
   ·have hg:=wP hl2 fun e=>by rw[h] at e;exact absurd e (by decide)
    have hdec:=Oa ha hg h
    refine W3 ?_
    refine⟨⟨by omega,by omega,hrm⟩,?_⟩
    rw[hme,hmd,←b1]
    refine C1 (lZ (x.au.drop 2) (by have:=hso 2;omega) (n+1) (n+1+1) (mI hfs 2) (hdl 2) (hda 2)) ?_
    exact Og hdec
   have nNew:=h
   refine S0 (fun hb h=>?_) fun hb h=>?_
   ·have hg:=wP hl2 fun e=>by rw[h] at e;exact absurd e (by decide)
    have hdec:=Ob ha hg h
    refine W3 ?_
    refine⟨⟨by omega,by omega,hrm⟩,?_⟩
    rw[hme,hmd,←b1]
    refine C1 (lZ (x.au.drop 2) (by have:=hso 2;omega) (n+1) (n+1+1) (mI hfs 2) (hdl 2) (hda 2)) ?_
    exact Og hdec
   have aaf:=h
   refine S0 (fun hb h=>?_) fun hb h=>?_
   ·have hg:=wP hl2 fun e=>by rw[h] at e;exact absurd e (by decide)
    have hdec:=Kj ha hg h
    refine W3 ?_
    refine⟨⟨by omega,by omega,hrm⟩,?_⟩
    rw[hme,hmd,←b1]
    refine C1 (lZ (x.au.drop 2) (by have:=hso 2;omega) (n+1) (n+1+1) (mI hfs 2) (hdl 2) (hda 2)) ?_
    exact Og hdec
   have Ue:=h
   refine S0 (fun hb h=>?_) fun hb h=>?_
   ·have hM:=h
    refine S0 (fun hb h=>?_) fun hb h=>?_
    ·exact QU (Km ha fun e=>e ⟨rfl,.inr ⟨hM,by omega⟩⟩)
    have hl3:3≤x.au.length:=by omega
    have hg:=wP hl2 fun _=>hl3
    have hdec:=Et ha hg hM
    have b2:bW x.au 2=(m[1]'(by omega)).aI:=by rw[hmi 1 (by omega),nC (by omega)]
    refine W3 ?_
    refine⟨⟨by omega,by omega,hrm⟩,?_⟩
    rw[hme,hmd,←b1,←b2]
    refine C1 (lZ (x.au.drop 3) (by have:=hso 3;omega) (n+1) (n+1+1) (mI hfs 3) (hdl 3) (hda 3)) ?_
    exact Og hdec
   have DT:=h
   have hg:=wP hl2 fun e=>(DT e).elim
   refine S0 (fun hb h=>?_) fun hb h=>?_
   ·have hdec:=QT ha hg h
    rw[hm]
    refine C1 (lZ (x.au.drop 1) (by have:=hso 1;omega) (n+1) (n+1+1) (mI hfs 1) (hdl 1) (hda 1)) ?_
    exact Og hdec
   have nIf:=h
   refine S0 (fun hb h=>?_) fun hb h=>?_
   ·have hdec:=Oc ha hg h
    have g1:x.au.getD 1 gq=m[0]'(by omega):=by rw[hmi 0 (by omega),List.getD_eq_getElem?_getD,List.getElem?_eq_getElem (by omega)];rfl
    have gz:=Oi x 1 hsz
    rw[g1] at hdec gz
    refine W3 ?_
    refine C1 (KP m[0] n gz) ?_
    refine⟨⟨by omega,by omega,hrm⟩,?_⟩
    rw[hme,hmd]
    refine C1 (lZ (x.au.drop 2) (by have:=hso 2;omega) (n+(jg (eF true m[0]).fArgs+1)) (n+(jg (eF true m[0]).fArgs+1)+1) (mI hfs 2) (hdl 2) (hda 2)) ?_
    exact ie2 hdec
   have nThe:=h
   refine S0 (fun hb h=>?_) fun hb h=>?_
   ·have hdec:=Kk ha hg h
    refine⟨⟨by omega,hrm⟩,?_⟩
    rw[←List.map_take]
    refine C1 (lZ (m.take 1) (by have:=hso 1;have:=yY 1 m;rw[hm] at this ⊢;omega) (n+1) (n+1+1) (Xj (by rw[hm];exact mI hfs 1) 1) (by rw[List.length_take];omega) (fun t ht=>hda 1 t (by rw[←hm];exact List.mem_of_mem_take ht))) ?_
    refine⟨⟨by omega,by omega,hrm⟩,?_⟩
    rw[hme,hmd]
    obtain⟨sI,Uf⟩:∃sI,sI=(m.take 1).map (bM true):=⟨_,rfl⟩
    obtain⟨r,hrr⟩:∃r,r=x.au.drop 2:=⟨_,rfl⟩
    have hrl:r.length=x.au.length-2:=by rw[hrr,List.length_drop]
    have hrs:∀t∈r,t.sz≤4194304∧SizeOf.sizeOf t<N∧gD t=true:=fun t ht=>by
     rw[hrr] at ht
     have h5:=List.mem_of_mem_drop ht
     have:=List.sizeOf_lt_of_mem h5
     exact⟨hda 2 t ht,by omega,xW hfs h5⟩
    obtain⟨q,hq⟩:∃q,q=n+1+(ow sI+1):=⟨_,rfl⟩
    obtain⟨L,hL⟩:∃L:Nat→Nat,L=fun k=>q+1+Ua ((r.map (lX true)).take k):=⟨_,rfl⟩
    obtain⟨T,hT⟩:∃T:Nat→List (List D),T=fun k=>lM ((r.map (lX true)).take k) (q+1):=⟨_,rfl⟩
    have hT0:T 0=[]:=by rw[hT];rfl
    have C8:∀k,(T k).length≤k:=fun k=>by rw[hT];simp only[Xg];exact List.length_take_le _ _
    have hTs:∀k (hk:k<r.length),T k++[fE (lX true r[k]).enc (L k)]=T (k+1):=fun k hk=>by
     have:=ab6 (l:=r.map (lX true)) (i:=k) (by rw[List.length_map];exact hk) (q+1)
     rw[List.getElem_map] at this
     rw[hT,hL];exact this
    have hTe:T r.length=lM (r.map (lX true)) (q+1):=by
     rw[hT];simp only
     rw[List.take_of_length_le (by simp)]
    clear hT hL
    rw[←hm,←Uf,←hrr] at hdec
    rw[←Uf,←hrr]
    refine W1 ?_
    refine TD q 3 8 11 _ rfl rfl ?_
    refine aW (ι:=Nat) Tryz.checked.mixed rfl [2,7,127,128,129] (fun k=>[.c (.ptr (0,2) 0),.c (.ptr (0,3) 0),.c (.d (.sl (r.map ah.enc))),.c (.d (.i .i64 r.length)),.c (.d (.i .i64 k))])
     (fun k=>[.seed n,.box [.d (.s x.aI),.d (.sl (x.au.map ah.enc))],.box [.d (.i .i64 0),.d (.s []),.d (.s []),.d (.i .i64 0),.d (.i .i64 0),.d (.s []),.aY [],.aY [],.aY []],
       .box [.d (.i .i64 7),.d (.s []),.d (.s []),.d (.i .i64 0),.d (.i .i64 0),.d (.s []),.aY [],.d (.ol (n+1) (lE sI (n+1+1))),.bQ (0,4) (T k)],.dW q 11 (T k)]::S)
     (fun k=>k≤r.length) (fun k=>r.length-k) 0 rfl (by rw[hT0];rfl) (Nat.zero_le _) ?_
    intro k hk
    have hlk:=C8 k
    refine W1 ?_
    refine S0 (fun hb h=>?_) fun hb h=>?_
    ·have hk':k<r.length:=by omega
     have hmm:=hrs _ (List.getElem_mem hk')
     have hs:=hTs k hk'
     simp only[aae,AQ,List.cons_append,List.nil_append] at hs
     refine W3 ?_
     refine C1 (ihM r[k] hmm.2.1 (L k) hmm.2.2 hmm.1) ?_
     refine W3 ?_
     rw[hs]
     exact iP 5 (by decide) (k+1) (by omega) rfl rfl rfl rfl (by omega)
    ·have hk':k=r.length:=by omega
     rw[hk',hTe,hq]
     exact ie3 hdec
   have Ug:=h
   have hdec:=Kl ha hg Ud nNew aaf Ue DT nIf nThe Ug
   rw[hm]
   refine C1 (lZ (x.au.drop 1) (by have:=hso 1;omega) (n+1) (n+1+1) (mI hfs 1) (hdl 1) (hda 1)) ?_
   exact Og hdec
  ·have AJ:=fun(i:Nat) (hi:i<xs.length)=>ab5 (l:=xs.map (bM true)) (i:=i) (by rw[List.length_map];exact hi) q
   refine nK (n) (rs:=[.tmp 2]) Tryz.checked.mixed Tryz.func131 Tryz.ntmps131 rfl rfl rfl rfl rfl ?_
   refine W1 ?_
   refine W3 ?_
   refine tY n 3 9 [] (.inl rfl) (by simp) ?_
   refine aW (ι:=Nat) Tryz.checked.mixed rfl [3,7,8,9] (fun i=>[.c (.bQ (0,1) (lE ((xs.map (bM true)).take i) q)),.c (.d (.sl (xs.map ah.enc))),.c (.d (.i .i64 xs.length)),.c (.d (.i .i64 i))]) (fun i=>[.seed n,.dW n 9 (lE ((xs.map (bM true)).take i) q)]::S)
    (fun i=>i≤xs.length) (fun i=>xs.length-i) 0 rfl rfl (Nat.zero_le _) ?_
   intro i hi
   refine W1 ?_
   refine S0 (fun hb h=>?_) fun hb h=>?_
   ·have hi':i<xs.length:=by omega
    have hs:=AJ i hi'
    rw[List.getElem_map] at hs
    simp only[AQ] at hs
    have hl:(lE ((xs.map (bM true)).take i) q).length≤i:=by rw[Xf];exact List.length_take_le _ _
    refine W3 ?_
    refine C1 (ih xs[i] (by have:=List.sizeOf_lt_of_mem (List.getElem_mem hi');omega) (q+ow ((xs.map (bM true)).take i)) (xW hfo (List.getElem_mem hi')) (hsz _ (List.getElem_mem hi'))) ?_
    refine W3 ?_
    rw[hs]
    exact iP 2 (by decide) (i+1) (by omega) rfl rfl rfl rfl (by omega)
   ·have hi':i=(xs.map (bM true)).length:=by rw[List.length_map];omega
    rw[hi',List.take_length]
  ·have jS:=ah.oM x
   have h1:=q8 x
   have hall:∀t∈x.au,t.sz≤4194304:=fun t ht=>by have:=ny ht;omega
   have hr:=j5 (l:=x.au)
   refine aB (rs:=[.cell 2 94]) Tryz.checked.mixed Tryz.func133 Tryz.ntmps133 rfl rfl rfl rfl rfl ?_
   refine W1 ?_
   refine S0 (fun hb h=>?_) fun hb h=>?_
   ·exact ma0 (QS true x (by omega))
   have hl2:2≤x.au.length:=by omega
   have a0:=nC (l:=x.au) (i:=0) (by omega)
   have hm:=List.getElem_mem (l:=x.au) (n:=x.au.length-1) (by omega)
   have hfs:=Xm hfo (fun e=>by rw[e] at hl2;simp at hl2)
   rw[QO true x hl2,a0]
   refine⟨⟨by omega,by omega,hr⟩,?_⟩
   rw[Ko _ hl2]
   refine C1 (H7 ((x.au.drop 1).dropLast) (by rw[List.length_dropLast,List.length_drop];omega) n) ?_
   refine W3 ?_
   have el:((x.au.length:Int)-1).toNat=x.au.length-1:=by omega
   simp only[el]
   refine C1 (ih (x.au[x.au.length-1]) (by have:=List.sizeOf_lt_of_mem hm;omega) (n+1) (xW hfs hm) (hall _ hm)) ?_
   exact gB _
theorem Oj(x:ah)(n:Nat)(hf:gD x=true)(hsz:x.sz≤4194304):aD Tryz.prog 67 [x.v] ((bM true x).vl n):=(Da _).1 x (Nat.lt_succ_self _) n hf hsz
end Go.Proofs.YtokkjobjffhfjaaGreatDoor
namespace Go.Ab
theorem Ol{P:Program}{w:World}{t u ty e:TypeId}{base:Option Addr}{n:Nat}{i:TypeInfo}{z:Value}(ht:P.underlying t=some (.slice e))(hu:P.underlying u=some (.int .i64))(hi:P.info? e=some i)
 (hz:i.zero=some z) (h1:1≤n) (hn:n≤1073741824) (hb:i.bytes≤4096) (hs:i.size=z.cells.size):
 ∃(cap:Nat) (row:Array Value),n≤cap∧row.size=cap*z.cells.size∧(Builtin.append_ #[t,u] ty #[.slice base 0 0,.int .i64 n]).run P w=
  .ok (.slice (some ⟨w.heap.size,0,none⟩) n cap) {w.drew with heap:=w.heap.push (.cells row e)}:=by
 have hn1:=Fx n 0 (by omega)
 have h48:¬(281474976710656<Builtin.nextslicecap n 0*i.bytes):=by
  have:Builtin.nextslicecap n 0*i.bytes≤(2*n+512)*4096:=Nat.mul_le_mul hn1 hb
  omega
 have h49:¬(281474976710656<(n:Int)*(i.bytes:Int)):=by
  have h2:n*i.bytes≤1073741824*4096:=Nat.mul_le_mul hn hb
  have:(n:Int)*(i.bytes:Int)=((n*i.bytes:Nat):Int):=by simp
  rw[this];omega
 have h63':¬(9223372036854775807<(n:Int)):=by omega
 have hroom':¬(n≤0):=by omega
 have hneg:¬((n:Int)<0):=by omega
 have hn0:¬n=0:=by omega
 have hw:IntKind.i64.wrap (n:Int)=n:=Dt _ (by omega)
 have hmax:IntKind.i64.max=9223372036854775807:=by decide
 have ha:∀w:World,(asInt (.int .i64 (n:Int))).run P w=.ok (n:Int) w:=fun w=>by simp[asInt,asIntOf]
 let cap:=(Question.appendCap n 0 e).cut (w.tape w.drawn (Question.appendCap n 0 e))
 have hcap:n≤cap:=by simp[cap,Question.cut]
 refine⟨cap,#[]++(if n*i.size=0 then #[] else Builtin.zeroCells z.cells n)++Builtin.zeroCells z.cells (cap-n),hcap,?_,?_⟩
 ·by_cases h0:n*i.size=0
  ·rw[if_pos h0]
   have hsz:z.cells.size=0:=by
    rcases Nat.mul_eq_zero.1 h0 with h|h
    ·omega
    ·omega
   simp[Builtin.zeroCells,hsz]
  ·rw[if_neg h0]
   simp only[Builtin.zeroCells,Array.size_append,Array.size_map,Array.size_range,Array.size_empty,Nat.zero_add]
   rw[←Nat.add_mul]
   congr 1
   omega
 ·by_cases h0:n*i.size=0
  ·rw[if_pos h0]
   cases base<;>simp[Builtin.append_,run_underlying ht,run_underlying hu,sizeOf,typeInfo,zeroValue,hi,hz,hroom',h48,h49,h63',hneg,hw,hmax,Question.forced,newRow,ha,hn0,loadCellsFrom,h0,Builtin.firstCells,loadCells]<;>exact⟨rfl,rfl⟩
  ·rw[if_neg h0]
   cases base<;>simp[Builtin.append_,run_underlying ht,run_underlying hu,sizeOf,typeInfo,zeroValue,hi,hz,hroom',h48,h49,h63',hneg,hw,hmax,Question.forced,newRow,ha,hn0,loadCellsFrom,h0,Builtin.firstCells,loadCells]<;>exact⟨rfl,rfl⟩
end Go.Ab
namespace Go.Proofs.YtokkjobjffhfjaaGreatDoor
open Go Go.Ab
theorem Om{α:Type}(xss:List (List α)){i:Nat}(hi:i<xss.length):(xss.take (i+1)).flatten.length=(xss.take i).flatten.length+xss[i].length:=by
 rw[List.take_succ_eq_append_getElem hi,List.flatten_append,List.length_append]
 simp only[List.flatten_cons,List.flatten_nil,List.append_nil]
theorem DU{α:Type}(xss:List (List α))(i:Nat):(xss.take i).flatten.length≤xss.flatten.length:=by
 conv=>rhs;rw[←List.take_append_drop i xss]
 rw[List.flatten_append,List.length_append]
 omega
end Go.Proofs.YtokkjobjffhfjaaGreatDoor
namespace Go.Ab
theorem bD.args{P:Program}{f:FuncId}{args args':List V}{S:Store}{post:V→Store→Prop}(h:bD P f args' S post)(hl:oF args args'):bD P f args S post:=h.weaken hl.length fun j x y hx hy w σ β v hr=>hl.at j x y hx hy w σ S β v hr
theorem mJ(n:Nat)(es:List (List D)):Less (.c (.iI n es)) (.c (.d (.sl es))):=fun w σ S β v h=>⟨uU h.1.1,h.2⟩
end Go.Ab
namespace Go.Proofs.YtokkjobjffhfjaaGreatDoor
open Go Go.Ab
theorem jQ(xs:List (List UInt8))(hx:xs.length≤1073741824)(n q:Nat)(bn:List Ab.Obj)(Ω:Store):bD Tryz.prog 139 [.c (.d (.sl (xs.map encS)))] (bn::Ω)
 (fun r S'=>r=.c (.bQ (0,bn.length+1) (lx (aQ xs) q))∧S'=(bn++[.seed n,.dW n 2 (lx (aQ xs) q)])::Ω):=by
 refine TP (n) (rs:=[.tmp 2]) Tryz.checked.mixed Tryz.func139 Tryz.ntmps139 rfl rfl rfl rfl rfl ?_
 refine W1 ?_
 refine W3 ?_
 refine tY n 3 2 [] (.inl rfl) (by simp) ?_
 refine aW (ι:=Nat) Tryz.checked.mixed rfl [3,7,8,9] (fun i=>[.c (.bQ (0,1) (lx ((aQ xs).take i) q)),.c (.d (.sl (xs.map encS))),.c (.d (.i .i64 xs.length)),.c (.d (.i .i64 i))]) (fun i=>[.seed n,.dW n 2 (lx ((aQ xs).take i) q)]::bn::Ω)
  (fun i=>i≤xs.length) (fun i=>xs.length-i) 0 rfl rfl (Nat.zero_le _) ?_
 intro i hi
 refine W1 ?_
 refine S0 (fun hb h=>?_) fun hb h=>?_
 ·have hi':i<xs.length:=by omega
  have hw:i<(aQ xs).length:=by rw[lu];exact hi'
  have hg:(aQ xs)[i]=aM xs[i]:=by simp[aQ]
  have hl:(lx ((aQ xs).take i) q).length≤i:=by rw[iG];exact List.length_take_le _ _
  refine W3 ?_
  refine C1 (fV xs[i] (q+iB ((aQ xs).take i))) ?_
  refine W3 ?_
  have hs:=Jb hw q
  rw[hg,yJ] at hs
  rw[hs]
  exact bK (i+1) (by omega) rfl rfl (by omega)
 ·have hi':i=(aQ xs).length:=by rw[lu];omega
  rw[hi',List.take_length]
  exact⟨rfl,rfl⟩
theorem Xn(base:Option Addr)(n:Nat)(h1:1≤n)(hn:n≤1073741824)(w:World):Calls Tryz.prog 202 #[.slice base 0 0,.int .i64 n] w fun e w'=>
 ∃cap row,n≤cap∧row.size=cap*2∧e=.returned (.slice (some ⟨w.heap.size,0,none⟩) 0 cap)∧w'={w.drew with heap:=w.heap.push (.cells row 54)}:=by
 obtain⟨cap,row,hc,hr,hm⟩:=Ol (P:=Tryz.prog) (w:=w) (t:=52) (u:=3) (ty:=52) (e:=54) (base:=base) (n:=n) Tryz.underlying52 Tryz.underlying3 rfl rfl h1 hn (by decide +kernel) rfl
 have h0:¬((n:Int)<0):=by omega
 have h2:(0:Int)<n:=by omega
 go_enter Tryz.func202,Tryz.ntmps202
 go_wp2_with (at_builtin;refine Lib.wpList_append_run _ rfl _ _ _ _ rfl _ _ rfl rfl _ _ hm ?_)
 all_goals go_ret
 exact⟨cap,hc,row,hr,rfl,rfl⟩
theorem Ui(base:Option Addr)(w:World):Calls Tryz.prog 202 #[.slice base 0 0,.int .i64 0] w fun e w'=>e=.returned (.slice base 0 0)∧w'=w:=by
 go_enter Tryz.func202,Tryz.ntmps202
 go_wp2
 all_goals go_ret
 exact⟨rfl,rfl⟩
theorem Xo(m n:Nat)(hn:n≤1073741824)(bn:List Ab.Obj)(Ω:Store):bD Tryz.prog 202 [.c (.aY []),.c (.d (.i .i64 n))] (bn::Ω)
 (fun r S'=>r=.c (.bQ (0,bn.length) [])∧S'=(bn++[.dW m 2 []])::Ω):=by
 refine⟨⟨_,Tryz.func202,by kernel_rfl,by kernel_rfl⟩,fun w σ β vs hS hv=> ?_⟩
 obtain⟨hl,h⟩:=hv
 obtain⟨v0,e0,⟨h0,a,m',h00⟩,_⟩:=h 0 _ rfl
 obtain⟨v1,e1,h1,_⟩:=h 1 _ rfl
 have h1':v1=.int .i64 n:=by cases h1;rfl
 subst h1'
 have hm:m'=0:=by rw[h00] at h0;cases h0<;>rfl
 subst hm
 subst h00
 have hvs:vs=[.slice a 0 0,.int .i64 n]:=by
  match vs,hl,e0,e1 with
  |[x,y],_,e0,e1=>simp at e0 e1;rw[e0,e1]
 subst hvs
 cases β with
 |nil=>have:=hS.shape.1;simp at this
 |cons bo bΩ=>
 have hlen:bo.length=bn.length:=by
  obtain⟨gr,g1,g2⟩:=hS.shape.2 0 bn rfl
  simp at g1;rw[g1];exact g2
 by_cases hz:n=0
 ·subst hz
  refine(Ui a w).mono fun e w' ⟨he,hw⟩=> ?_
  subst hw
  obtain⟨hS',hk,hst⟩:=hS.push (o:=.dW m 2 []) (h:=.slice a 0 0) (Grow.refl hS.live) hlen ⟨h0,by simp,a,0,rfl,by simp,.inl ⟨rfl,.rX _ _ _⟩⟩ (fun b hb=>by cases a<;>simp[owns,blk] at hb)
  refine⟨_,.c (.bQ (0,bn.length) []),_,_,_,he,hS',hk,hst,⟨⟨h0,.dW m 2 [],?_,fun aF es e=> ?_⟩,rfl⟩,rfl,rfl⟩
  ·rw[bE]
  ·obtain⟨_,rfl⟩:=pK (lab:=some m) e;exact⟨Nat.le_refl _,fun _=>by rw[←hlen,bE]⟩
 ·refine(Xn a n (by omega) hn w).mono fun e w' ⟨cap,row,hc,hr,he,hw⟩=> ?_
  subst hw
  have hσ:σ w.heap.size=0:=(hS.live w.heap.size).resolve_left (by omega)
  have hg:Grow w σ {w.drew with heap:=w.heap.push (.cells row 54)} σ:=by
   refine⟨by simp,rfl,rfl,fun b hb=>⟨?_,rfl⟩,fun b=> ?_⟩
   ·simp only[Array.getElem?_push]
    rw[if_neg (by omega)]
   ·rcases hS.live b with hb|hb
    ·left;simp;omega
    ·exact .inr hb
  obtain⟨hS',hk,hst⟩:=hS.push (o:=.dW m 2 []) (h:=.slice (some ⟨w.heap.size,0,none⟩) 0 cap) hg hlen ⟨.nil _ _,by simp,_,cap,rfl,by simp,.inr ⟨by simp;omega,w.heap.size,0,row,54,rfl,by simp,by simp[hσ],by omega⟩⟩ (fun b hb=>by
   simp only[owns,blk] at hb
   split at hb
   ·cases hb
   ·cases hb;exact Nat.le_refl _)
  refine⟨_,.c (.bQ (0,bn.length) []),_,_,_,he,hS',hk,hst,⟨⟨.nil _ _,.dW m 2 [],?_,fun aF es e=> ?_⟩,rfl⟩,rfl,rfl⟩
  ·rw[bE]
  ·obtain⟨_,rfl⟩:=pK (lab:=some m) e;exact⟨Nat.le_refl _,fun _=>by rw[←hlen,bE]⟩
theorem P5(m l:Nat)(xss:List (Nat×List (List D)))(hl:xss.length≤1073741824)(hr:∀p∈xss,∀r∈p.2,r.length=2)(hf:(xss.map (·.2)).flatten.length≤1073741824):aD Tryz.prog 141 [.c (.iI l (xss.map fun p=>[.ol p.1 p.2]))] (.c (.d (.ol m (xss.map (·.2)).flatten))):=fun S=>by
 obtain⟨ys,hys⟩:∃ys:List (List (List D)),ys=xss.map (·.2):=⟨_,rfl⟩
 rw[←hys] at hf ⊢
 have hyl:ys.length=xss.length:=by rw[hys,List.length_map]
 have hyi:∀i (hi:i<xss.length),ys[i]'(by omega)=xss[i].2:=fun i hi=>by simp[hys]
 have FB:∀i (hi:i<xss.length),∀r∈xss[i].2,r.length=2:=fun i hi=>hr _ (List.getElem_mem hi)
 refine nK (m) (rs:=[.tmp 2]) Tryz.checked.mixed Tryz.func141 Tryz.ntmps141 rfl rfl rfl rfl rfl ?_
 refine W1 ?_
 refine aW (ι:=Nat) Tryz.checked.mixed rfl [0,3,9,10,11] (fun i=>[.c (.iI l (xss.map fun p=>[.ol p.1 p.2])),.c (.d (.i .i64 (ys.take i).flatten.length)),.c (.iI l (xss.map fun p=>[.ol p.1 p.2])),.c (.d (.i .i64 xss.length)),.c (.d (.i .i64 i))]) (fun _=>[.seed m]::S)
  (fun i=>i≤xss.length) (fun i=>xss.length-i) 0 rfl rfl (Nat.zero_le _) ?_
 rintro i p1
 have hfi:=DU ys i
 by_cases hi:i<xss.length
 ·have hs:=Om ys (i:=i) (by omega)
  rw[hyi i hi] at hs
  have agV:=DU ys (i+1)
  refine W1 ?_
  refine S0 (fun hb h=>?_) fun hb h=>?_
  ·refine W3 ?_
   refine S0 (fun hb h=>?_) fun hb h=>?_
   ·omega
   ·refine bK (i+1) (by omega) ?_ rfl (by omega)
    rw[hs];rfl
  ·omega
 have hi:i=xss.length:=by omega
 subst hi
 refine W1 ?_
 refine S0 (fun hb h=>?_) fun hb h=>?_
 ·omega
 rw[←hyl,List.take_length]
 clear hfi
 refine bG rfl (Xo m ys.flatten.length hf [.seed m] S) ?_
 refine W1 ?_
 refine aW (ι:=Nat) Tryz.checked.mixed rfl [6,25,26,27] (fun i=>[.c (.bQ (0,1) (ys.take i).flatten),.c (.iI l (xss.map fun p=>[.ol p.1 p.2])),.c (.d (.i .i64 xss.length)),.c (.d (.i .i64 i))]) (fun i=>[.seed m,.dW m 2 (ys.take i).flatten]::S)
  (fun i=>i≤xss.length) (fun i=>xss.length-i) 0 (by rw[←hyl];rfl) rfl (Nat.zero_le _) ?_
 rintro i p1
 have hfi:=DU ys i
 by_cases hi:i<xss.length
 ·have hs:=Om ys (i:=i) (by omega)
  rw[hyi i hi] at hs
  have agV:=DU ys (i+1)
  have e:(ys.take (i+1)).flatten=(ys.take i).flatten++xss[i].2:=by
   rw[List.take_succ_eq_append_getElem (by omega),List.flatten_append,hyi i hi]
   simp only[List.flatten_cons,List.flatten_nil,List.append_nil]
  have vO:=FB i hi
  refine W1 ?_
  refine S0 (fun hb h=>?_) fun hb h=>?_
  ·refine W3 ?_
   exact bK (i+1) (by omega) (by rw[e];rfl) (by rw[e]) (by omega)
  ·omega
 ·have hi:i=ys.length:=by omega
  refine W1 ?_
  refine S0 (fun hb h=>?_) fun hb h=>?_
  ·omega
  rw[hi,List.take_length]
end Go.Proofs.YtokkjobjffhfjaaGreatDoor
namespace Go.Ab
theorem gW{x:aj}{k:Int}(h:x.aH=k):fI x.aH x.aU x.fName x.fType=fI k x.aU x.fName x.fType:=by rw[h]
theorem Kr{l:List aj}{t:aj}(h:t∈l):t.sz≤oI l:=by
 rw[←EX];exact gY (List.mem_map_of_mem h)
theorem Ia{l:List aA}{t:aA}(h:t∈l):t.sz≤vY l:=by
 rw[←EY];exact gY (List.mem_map_of_mem h)
theorem yZ:∀{xs:List aj},iV xs=true↔∀t∈xs,gL t=true
 |[]=>by simp[iV]
 |t::ts=>by simp[iV,yZ (xs:=ts)]
theorem AR:∀{xs:List aA},kH xs=true↔∀t∈xs,qy t=true
 |[]=>by simp[kH]
 |t::ts=>by simp[kH,AR (xs:=ts)]
theorem iQ{x:aj}(h1:x.aH≠1)(h2:x.aH≠2)(h3:x.aH≠3)(h:x.aH=4∨x.aH=5∨x.aH=6∨x.aH=8∨x.aH=9∨x.aH=10∨x.aH=11∨x.aH=12):
 dJ x=dh (fI x.aH x.aU x.fName x.fType++x.fArgs.map dJ):=by rw[CR,if_neg h1,if_neg h2,if_neg h3,if_pos h,List.append_nil]
end Go.Ab
namespace Go.Proofs.YtokkjobjffhfjaaGreatDoor
open Go Go.Ab
theorem Ib:∀N:Nat,∀x:aj,SizeOf.sizeOf x<N→∀n:Nat,gL x=true→x.sz≤4194304→aD Tryz.prog 70 [x.v] (.agg [.d (.s (dJ x).aI),.d (.ol n (lx (dJ x).au (n+1)))])
 |0=>fun x h=>by omega
 |N+1=>by
  have ih:=Ib N
  intro x hn n hok hsz S
  have jS:=aj.gF x
  have Dz:=aj.nk x
  have hzz:=qY x
  rw[rP,Bool.and_eq_true,Bool.and_eq_true] at hok
  obtain⟨hfi,hoa,Oo⟩:=hok
  have hfi:=iK hfi
  have hoa:=yZ.1 hoa
  have Oo:=AR.1 Oo
  obtain⟨qa,tK⟩:∃qa,qa=n+1+iB (fI x.aH x.aU x.fName x.fType):=⟨_,rfl⟩
  obtain⟨T,hT⟩:∃T:Nat→List (List D),T=fun i=>lx ((x.fArgs.map dJ).take i) qa:=⟨_,rfl⟩
  have hT0:T 0=[]:=by rw[hT];rfl
  have C8:∀i,(T i).length≤i:=fun i=>by rw[hT];simp only[iG];exact List.length_take_le _ _
  have hTr:∀i,∀r∈T i,r.length=2:=fun i=>by rw[hT];exact lH
  have hTs:∀i (hi:i<x.fArgs.length),T i++[[.s (dJ x.fArgs[i]).aI,.ol (qa+iB ((x.fArgs.map dJ).take i)) (lx (dJ x.fArgs[i]).au (qa+iB ((x.fArgs.map dJ).take i)+1))]]=T (i+1):=fun i hi=>by
   have:=NK (l:=x.fArgs.map dJ) (i:=i) (by rw[List.length_map];exact hi) qa
   rw[List.getElem_map] at this
   rw[hT];exact this
  have hTe:T x.fArgs.length=lx (x.fArgs.map dJ) qa:=by rw[hT];simp only;rw[List.take_of_length_le (by simp)]
  clear hT
  refine nK (n) (rs:=[.cell 2 54]) Tryz.checked.mixed Tryz.func70 Tryz.ntmps70 rfl rfl rfl rfl rfl ?_
  refine W1 ?_
  refine W3 ?_
  refine tY n 3 2 [] (.inl rfl) (by simp) ?_
  refine aW (ι:=Nat) Tryz.checked.mixed rfl [1,2,3,11,12,13] (fun i=>[.c (.ptr (0,1) 0),.c (.ptr (0,2) 0),.c (.bQ (0,3) (T i)),.c (.d (.sl (x.fArgs.map aj.enc))),.c (.d (.i .i64 x.fArgs.length)),.c (.d (.i .i64 i))])
   (fun i=>[.seed n,.box [.d (.i .i64 x.aH),.d (.s x.aU),.d (.s x.fName),.d (.i .i64 x.fN),.d (.i .i64 x.fType.aH),.d (.s x.fType.fName),.d (.sl (x.fType.fArgs.map ak.enc)),.d (.sl (x.fArgs.map aj.enc)),.d (.sl (x.aG.map aA.enc))],.box [.d (.s []),.aY []],.dW n 2 (T i)]::S)
   (fun i=>i≤x.fArgs.length) (fun i=>x.fArgs.length-i) 0 (by rw[hT0];rfl) (by rw[hT0];rfl) (Nat.zero_le _) ?_
  intro i hi
  have hl:=C8 i
  refine W1 ?_
  refine S0 (fun hb h=>?_) fun hb h=>?_
  ·have hi':i<x.fArgs.length:=by omega
   have hm:=List.getElem_mem hi'
   have hez:=Kr hm
   have hs:=hTs i hi'
   refine W3 ?_
   refine C1 (ih x.fArgs[i] (by have:=List.sizeOf_lt_of_mem hm;omega) (qa+iB ((x.fArgs.map dJ).take i)) (hoa _ hm) (by omega)) ?_
   refine W3 ?_
   rw[hs]
   exact iP 4 (by decide) (i+1) (by omega) rfl rfl rfl rfl (by omega)
  have hi':i=x.fArgs.length:=by omega
  subst hi'
  clear hTs hi h hb
  have hTT:=hTr x.fArgs.length
  have hxe:=CR x
  refine S0 (fun hb h=>?_) fun hb h=>?_
  ·rw[if_pos h] at hxe
   rw[hxe]
   have hb:=hfi.2.2.2.1
   rw[if_pos h] at hb
   refine C1 (E5 x.fN (by omega) (by omega)) ?_
   refine C1 (fV _ n) ?_
   rfl
  have k1:=h
  rw[if_neg h] at hxe
  refine S0 (fun hb h=>?_) fun hb h=>?_
  ·rw[if_pos h] at hxe
   rw[hxe]
   refine S0 (fun hb h=>?_) fun hb h=>?_
   ·rw[if_pos h]
    refine C1 (fV _ n) ?_
    rfl
   ·rw[if_neg h]
    refine C1 (fV _ n) ?_
    rfl
  have k2:=h
  rw[if_neg h] at hxe
  refine S0 (fun hb h=>?_) fun hb h=>?_
  ·rw[if_pos h] at hxe
   rw[hxe]
   refine C1 (fV _ n) ?_
   rfl
  have k3:=h
  clear hxe
  refine S0 (fun hb h=>?_) fun hb h=>?_
  ·have hx:=iQ k1 k2 k3 (by omega)
   have hh:fI x.aH x.aU x.fName x.fType=aQ [ku,x.fName]:=by rw[gW h];rfl
   rw[hh] at hx tK
   refine W3 ?_
   refine bG rfl (bD.args (jQ [ku,x.fName] (by simp) n (n+1) _ _) (.cons (mJ n _) .nil)) ?_
   have Bf:(lx (aQ [ku,x.fName]) (n+1)).length=2:=by rw[iG];rfl
   have Kt:=lH (l:=aQ [ku,x.fName]) (n:=n+1)
   refine W1 ?_
   refine W3 ?_
   refine bG rfl (kY 0 5 _ _) ?_
   refine W1 ?_
   rw[hx,hTe,tK,fO,fP,jy]
  have k4:=h
  refine S0 (fun hb h=>?_) fun hb h=>?_
  ·have hx:=iQ k1 k2 k3 (by omega)
   have hh:fI x.aH x.aU x.fName x.fType=aQ [fM,x.aU,x.fName]:=by rw[gW h];rfl
   rw[hh] at hx tK
   refine W3 ?_
   refine bG rfl (bD.args (jQ [fM,x.aU,x.fName] (by simp) n (n+1) _ _) (.cons (mJ n _) .nil)) ?_
   have Bf:(lx (aQ [fM,x.aU,x.fName]) (n+1)).length=3:=by rw[iG];rfl
   have Kt:=lH (l:=aQ [fM,x.aU,x.fName]) (n:=n+1)
   refine W1 ?_
   refine W3 ?_
   refine bG rfl (kY 0 5 _ _) ?_
   refine W1 ?_
   rw[hx,hTe,tK,fO,fP,jy]
  have k5:=h
  refine S0 (fun hb h=>?_) fun hb h=>?_
  ·have hx:=iQ k1 k2 k3 (by omega)
   have hh:fI x.aH x.aU x.fName x.fType=aQ [mP,x.fName]:=by rw[gW h];rfl
   rw[hh] at hx tK
   refine W3 ?_
   refine bG rfl (bD.args (jQ [mP,x.fName] (by simp) n (n+1) _ _) (.cons (mJ n _) .nil)) ?_
   have Bf:(lx (aQ [mP,x.fName]) (n+1)).length=2:=by rw[iG];rfl
   have Kt:=lH (l:=aQ [mP,x.fName]) (n:=n+1)
   refine W1 ?_
   refine W3 ?_
   refine bG rfl (kY 0 5 _ _) ?_
   refine W1 ?_
   rw[hx,hTe,tK,fO,fP,jy]
  have k6:=h
  refine S0 (fun hb h=>?_) fun hb h=>?_
  ·have hx:=CR x
   rw[if_neg k1,if_neg k2,if_neg k3,if_neg (by omega)] at hx
   have hh:fI x.aH x.aU x.fName x.fType=aQ [iC]:=by rw[gW h];rfl
   rw[hh] at hx tK
   obtain⟨B,hB⟩:∃B:Nat→List (List D),B=fun i=>lx (x.fArgs.map dJ++(x.aG.map tJ).take i) qa:=⟨_,rfl⟩
   obtain⟨L,hL⟩:∃L:Nat→Nat,L=fun i=>qa+iB (x.fArgs.map dJ++(x.aG.map tJ).take i):=⟨_,rfl⟩
   have hB0:T x.fArgs.length=B 0:=by rw[hTe,hB];simp only[List.take_zero,List.append_nil]
   have hBl:∀i,(B i).length≤i+x.fArgs.length:=fun i=>by
    rw[hB];simp only[iG,List.length_append,List.length_map]
    have:=List.length_take_le i (x.aG.map tJ)
    omega
   have hBr:∀i,∀r∈B i,r.length=2:=fun i=>by rw[hB];exact lH
   have hBs:∀i (hi:i<x.aG.length),B i++[[.s [],.ol (L i) (lx ([aM x.aG[i].bC]++aQ x.aG[i].aS++[dJ x.aG[i].fBody]) (L i+1))]]=B (i+1):=fun i hi=>by
    have:=Z0 (base:=x.fArgs.map dJ) (l:=x.aG.map tJ) (i:=i) (by rw[List.length_map];exact hi) qa
    rw[List.getElem_map,WW,fO,fP] at this
    rw[hB,hL];exact this
   have hBe:B x.aG.length=lx (x.fArgs.map dJ++x.aG.map tJ) qa:=by rw[hB];simp only;rw[List.take_of_length_le (by simp)]
   clear hB hL hTT
   refine W3 ?_
   refine bG rfl (bD.args (jQ [iC] (by simp) n (n+1) _ _) (.cons (mJ n _) .nil)) ?_
   have Bf:(lx (aQ [iC]) (n+1)).length=1:=by rw[iG];rfl
   have Kt:=lH (l:=aQ [iC]) (n:=n+1)
   refine W1 ?_
   rw[hB0]
   obtain⟨HD,hHD⟩:∃HD,HD=lx (aQ [iC]) (n+1):=⟨_,rfl⟩
   rw[←hHD] at Bf Kt ⊢
   refine aW (ι:=Nat) Tryz.checked.mixed rfl [2,3,6,69,70,71] (fun i=>[.c (.ptr (0,2) 0),.c (.bQ (0,3) (B i)),.c (.bQ (0,5) HD),.c (.d (.sl (x.aG.map aA.enc))),.c (.d (.i .i64 x.aG.length)),.c (.d (.i .i64 i))])
    (fun i=>[.seed n,.box [.d (.i .i64 x.aH),.d (.s x.aU),.d (.s x.fName),.d (.i .i64 x.fN),.d (.i .i64 x.fType.aH),.d (.s x.fType.fName),.d (.sl (x.fType.fArgs.map ak.enc)),.d (.sl (x.fArgs.map aj.enc)),.d (.sl (x.aG.map aA.enc))],.box [.d (.s []),.aY []],.dW n 2 (B i),.seed n,.dW n 2 HD]::S)
    (fun i=>i≤x.aG.length) (fun i=>x.aG.length-i) 0 rfl rfl (Nat.zero_le _) ?_
   intro i hi
   have hl:=hBl i
   have hr:=hBr i
   refine W1 ?_
   refine S0 (fun hb h=>?_) fun hb h=>?_
   ·have hi':i<x.aG.length:=by omega
    have hm:=List.getElem_mem hi'
    have hez:=Ia hm
    have hea:=vH x.aG[i]
    have hs:=hBs i hi'
    have hak:=Oo _ hm
    rw[mO,Bool.and_eq_true,Bool.and_eq_true] at hak
    have hls:=List.sizeOf_lt_of_mem hm
    have hlb:=aA.l5 x.aG[i]
    refine W3 ?_
    refine Nv (Bh [x.aG[i].bC] (by simp) 0 (L i+1)) (.cons (mJ n _) .nil) ?_
    refine W1 ?_
    refine C1 (Bh x.aG[i].aS (by omega) 0 (L i+1+iB (aQ [x.aG[i].bC]))) ?_
    refine C1 (ih x.aG[i].fBody (by omega) (L i+1+iB (aQ [x.aG[i].bC]++aQ x.aG[i].aS)) hak.2.2 (by omega)) ?_
    refine W3 ?_
    refine bH (P5 (L i) n [(0,lx (aQ [x.aG[i].bC]) (L i+1)),(0,lx (aQ x.aG[i].aS) (L i+1+iB (aQ [x.aG[i].bC]))),(n,[[.s (dJ x.aG[i].fBody).aI,.ol (L i+1+iB (aQ [x.aG[i].bC]++aQ x.aG[i].aS)) (lx (dJ x.aG[i].fBody).au (L i+1+iB (aQ [x.aG[i].bC]++aQ x.aG[i].aS)+1))]])] (by simp) ?_ ?_) ?_
    ·intro p hp
     simp only[List.mem_cons,List.not_mem_nil,or_false] at hp
     rcases hp with rfl|rfl|rfl
     ·exact lH
     ·exact lH
     ·simp
    ·simp only[List.map_cons,List.map_nil,List.flatten_cons,List.flatten_nil,List.length_append,iG,lu,List.length_cons,List.length_nil];omega
    refine W1 ?_
    refine C1 (G9 _) ?_
    refine W3 ?_
    have hrow:[lx (aQ [x.aG[i].bC]) (L i+1),lx (aQ x.aG[i].aS) (L i+1+iB (aQ [x.aG[i].bC])),[[.s (dJ x.aG[i].fBody).aI,.ol (L i+1+iB (aQ [x.aG[i].bC]++aQ x.aG[i].aS)) (lx (dJ x.aG[i].fBody).au (L i+1+iB (aQ [x.aG[i].bC]++aQ x.aG[i].aS)+1))]]].flatten=lx ([aM x.aG[i].bC]++aQ x.aG[i].aS++[dJ x.aG[i].fBody]) (L i+1):=by
     have e1:[aM x.aG[i].bC]=aQ [x.aG[i].bC]:=rfl
     rw[e1,jy,jy,zI (dJ x.aG[i].fBody) [],CO,uq (dJ x.aG[i].fBody)]
     simp only[List.flatten_cons,List.flatten_nil,List.append_nil,List.append_assoc]
    rw[hrow,hs]
    exact iP 6 (by decide) (i+1) (by omega) rfl rfl rfl rfl (by omega)
   ·have hi':i=x.aG.length:=by omega
    subst hi'
    have hr2:=hBr x.aG.length
    refine W3 ?_
    refine bG rfl (kY 0 5 _ _) ?_
    refine W1 ?_
    rw[hx,hBe,tK,hHD,fO,fP,List.append_assoc,jy (aQ [iC])]
  have k7:=h
  refine S0 (fun hb h=>?_) fun hb h=>?_
  ·have hx:=iQ k1 k2 k3 (by omega)
   have hh:fI x.aH x.aU x.fName x.fType=aQ [mQ,x.fName]:=by rw[gW h];rfl
   rw[hh] at hx tK
   refine W3 ?_
   refine bG rfl (bD.args (jQ [mQ,x.fName] (by simp) n (n+1) _ _) (.cons (mJ n _) .nil)) ?_
   have Bf:(lx (aQ [mQ,x.fName]) (n+1)).length=2:=by rw[iG];rfl
   have Kt:=lH (l:=aQ [mQ,x.fName]) (n:=n+1)
   refine W1 ?_
   refine W3 ?_
   refine bG rfl (kY 0 5 _ _) ?_
   refine W1 ?_
   rw[hx,hTe,tK,fO,fP,jy]
  have k8:=h
  refine S0 (fun hb h=>?_) fun hb h=>?_
  ·have hx:=iQ k1 k2 k3 (by omega)
   have hh:fI x.aH x.aU x.fName x.fType=aQ [qK]:=by rw[gW h];rfl
   rw[hh] at hx tK
   refine W3 ?_
   refine bG rfl (bD.args (jQ [qK] (by simp) n (n+1) _ _) (.cons (mJ n _) .nil)) ?_
   have Bf:(lx (aQ [qK]) (n+1)).length=1:=by rw[iG];rfl
   have Kt:=lH (l:=aQ [qK]) (n:=n+1)
   refine W1 ?_
   refine W3 ?_
   refine bG rfl (kY 0 5 _ _) ?_
   refine W1 ?_
   rw[hx,hTe,tK,fO,fP,jy]
  have k9:=h
  refine S0 (fun hb h=>?_) fun hb h=>?_
  ·have hx:=iQ k1 k2 k3 (by omega)
   have hh:fI x.aH x.aU x.fName x.fType=aQ [x.fName]:=by rw[gW h];rfl
   rw[hh] at hx tK
   refine W3 ?_
   refine bG rfl (bD.args (jQ [x.fName] (by simp) n (n+1) _ _) (.cons (mJ n _) .nil)) ?_
   have Bf:(lx (aQ [x.fName]) (n+1)).length=1:=by rw[iG];rfl
   have Kt:=lH (l:=aQ [x.fName]) (n:=n+1)
   refine W1 ?_
   refine W3 ?_
   refine bG rfl (kY 0 5 _ _) ?_
   refine W1 ?_
   rw[hx,hTe,tK,fO,fP,jy]
  have k10:=h
  refine S0 (fun hb h=>?_) fun hb h=>?_
  ·have hx:=iQ k1 k2 k3 (by omega)
   have hh:fI x.aH x.aU x.fName x.fType=aQ [kC,x.aU]:=by rw[gW h];rfl
   rw[hh] at hx tK
   refine W3 ?_
   refine bG rfl (bD.args (jQ [kC,x.aU] (by simp) n (n+1) _ _) (.cons (mJ n _) .nil)) ?_
   have Bf:(lx (aQ [kC,x.aU]) (n+1)).length=2:=by rw[iG];rfl
   have Kt:=lH (l:=aQ [kC,x.aU]) (n:=n+1)
   refine W1 ?_
   refine W3 ?_
   refine bG rfl (kY 0 5 _ _) ?_
   refine W1 ?_
   rw[hx,hTe,tK,fO,fP,jy]
  have k11:=h
  refine S0 (fun hb h=>?_) fun hb h=>?_
  ·have hx:=iQ k1 k2 k3 (by omega)
   have hh:fI x.aH x.aU x.fName x.fType=[aM nD,fK x.fType]:=by rw[gW h];rfl
   rw[hh] at hx tK
   have hty:=hfi.2.2.2.2.1
   rw[if_pos h] at hty
   refine C1 (fV _ (n+1)) ?_
   refine C1 (TS x.fType (n+1+1) (BQ hty) (by omega)) ?_
   refine W3 ?_
   refine bG rfl (kY 0 4 _ _) ?_
   refine W1 ?_
   rw[hx,hTe,tK,fO,fP,jy]
   simp only[zI,CO,uq,Af,Ag,CK,TR,WQ,nD,List.cons_append,List.nil_append]
  ·have:=hfi.1
   omega
theorem Uj(x:aj)(n:Nat)(hok:gL x=true)(hsz:x.sz≤4194304):aD Tryz.prog 70 [x.v] (.agg [.d (.s (dJ x).aI),.d (.ol n (lx (dJ x).au (n+1)))]):=Ib _ x (Nat.lt_succ_self _) n hok hsz
end Go.Proofs.YtokkjobjffhfjaaGreatDoor
