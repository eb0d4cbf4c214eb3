/-
  SEVERAL TEXTS IN ONE (merged by program): contracts and models, each with its own heading.
-/
import Derived.Test.YtokkjobjffhfjaaGreatDoorPartZgbD
import Derived.Lib.ItoaNum
import Derived.Lib.Atoi
import Derived.Shelf.LaysM
import Derived.Shelf.Strconv.Itoa3
import Derived.Test.YtokkjobjffhfjaaGreatDoorProg
import Derived.Shelf.Strconv.Atoi
import Derived.Shelf.LaysC
import Derived.Shelf.Strconv.AtoiErr
import Derived.Shelf.Strconv.ErrVar
set_option maxHeartbeats 8000000
open Go.Proofs Go.Proofs.Tryz
set_option linter.unusedSimpArgs false
set_option linter.unusedVariables false
set_option maxRecDepth 4000
namespace Go.Ab
def gM(s:List UInt8)(r:RS):List C:=[.d (.s s),.d (.i .i64 (s.length-r.t.length:Nat)),.d (.i .i64 r.deep),.d (.i .i64 r.size),.d (.b r.bad)]
theorem Dv{s u:List UInt8}{b:UInt8}(h:b::u <:+ s):s.length-(b::u).length<s.length/\s.getD (s.length-(b::u).length) 0=b/\s.length-(b::u).length+1=s.length-u.length:=by
 obtain⟨p,rfl⟩:=h
 have e:(p++b::u).length-(b::u).length=p.length:=by simp
 rw[e];refine⟨by simp,by simp[List.getD],by simp;omega⟩
theorem aiN{s t a c:List UInt8}(h:t <:+ s)(e:t=a++c):(s.take (s.length-c.length)).drop (s.length-t.length)=a:=by
 obtain⟨p,rfl⟩:=h;subst e
 have e1:(p++(a++c)).length-c.length=(p++a).length:=by simp;omega
 have e2:(p++(a++c)).length-(a++c).length=p.length:=by simp
 rw[e1,e2,<-List.append_assoc,List.take_left,List.drop_left]
theorem Pv{s t:List UInt8}(h:t <:+ s):gD t <:+ s:=(zS t).trans h
theorem dz.of_le{P:Program}{f:FuncId}{args:List V}{t:V}{S S1:Store}(h:dz P f args S fun r S'=>Less r t/\S'=S1):dz P f args S fun r S'=>r=t/\S'=S1:=
 ⟨h.1,fun w σ β vs hS hv=>(h.2 w σ β vs hS hv).mono fun e w' ⟨v,r,S',σ',β',h1,h2,h3,h4,h5,h6,h7⟩=>⟨v,t,S',σ',β',h1,h2,h3,h4,h6 _ _ _ _ _ h5,rfl,h7⟩⟩
theorem Il:Less (.agg [.d (.s []),.bG []]) cu.v:=fG.less (.cons (.refl _) (.cons (fB _) .nil))
theorem Z8{b c:UInt8}(h:(b.toNat:Int)=c.toNat):b=c:=UInt8.toNat_inj.1 (by omega)
theorem Kr(s:List UInt8)(hs:s.length<=1073741824)(r:RS)(ht:r.t <:+ s)(l j:Nat)(S:Store)(hk:bF S (l,j)=some (.box (gM s r))):
 dz prog 59 [.c (.ptr (l,j) 0)] S (fun v S'=>v=.dQ []/\S'=bR S (l,j) (.box (gM s ⟨gD r.t,r.deep,r.size,r.bad⟩))):=by
 have g:∀x:Ab.Obj,bF (bR S (l,j) x) (l,j)=some x:=fun x=>eY _ _ _ _ hk;refine aD (rs:=[]) zmx func59 ntmps59 rfl rfl rfl rfl rfl ?_;refine W1 ?_
 refine aU (ι:=List UInt8) zmx rfl [0] (fun _=>[.c (.ptr (1+l,j) 0)]) (fun t=>[]::bR S (l,j) (.box (gM s ⟨t,r.deep,r.size,r.bad⟩)))
  (fun t=>t <:+ s/\gD t=gD r.t) (fun t=>t.length) r.t rfl (congrArg (fun z=>[]::z) (y7 S (l,j) hk).symm) ⟨ht,rfl⟩ ?_
 rintro t ⟨p1,p2⟩;have pl:=p1.length_le;rw[<-p2]
 cases t with
 |nil=>
  have d:decide (((s.length-0:Nat):Int)<s.length)=false:=decide_eq_false (by omega);simp -implicitDefEqProofs (disch:=omega) only[go_sem,g,bK,dU,bB,gM,d];rfl
 |cons b u=>
  obtain⟨q1,q2,q3⟩:=Dv p1;rw[List.length_cons] at q1 q2 q3;simp -implicitDefEqProofs (disch:=omega) only[go_sem,g,bK,dU,bB,gM];generalize hA:s.length-(u.length+1)=a at q1 q2 q3 ⊢;have d:decide ((a:Int)<s.length)=true:=decide_eq_true (by omega);simp -implicitDefEqProofs (disch:=omega) only[go_sem,d,q2,g,bK,dU,bB,gM];refine W3 ?_
  have eI:((s.length-u.length:Nat):Int)=(a:Int)+1:=by omega
  have blank:lK b=true->[]::bR S (l,j) (.box [.d (.s s),.d (.i .i64 ((a:Int)+1)),.d (.i .i64 r.deep),.d (.i .i64 r.size),.d (.b r.bad)])=[]::bR S (l,j) (.box (gM s ⟨u,r.deep,r.size,r.bad⟩))/\u <:+ s/\gD u=gD (b::u):=fun hb=>
   ⟨by simp only[gM];rw[eI],(List.suffix_cons b u).trans p1,(Hy hb).symm⟩
  with_reducible refine dM (fun hb=> ?_) (fun hb=> ?_)<;>have h:=hb<;>(try simp only[wf_preprocess] at h)<;>simp -implicitDefEqProofs (disch:=omega) only[go_sem,hb,g,bK,dU,bB,gM]<;>refine W3 ?_
  ·obtain⟨x1,x2⟩:=blank (by unfold lK;simp only[Bool.or_eq_true,decide_eq_true_eq];omega);exact bJ u (by simp) rfl x1 x2
  have hn:=h;simp only[q2]
  with_reducible refine dM (fun hb=> ?_) (fun hb=> ?_)<;>have h:=hb<;>(try simp only[wf_preprocess] at h)<;>simp -implicitDefEqProofs (disch:=omega) only[go_sem,hb,g,bK,dU,bB,gM]<;>refine W3 ?_
  ·obtain⟨x1,x2⟩:=blank (by unfold lK;simp only[Bool.or_eq_true,decide_eq_true_eq];omega);exact bJ u (by simp) rfl x1 x2
  ·have hb:lK b=false:=by
    cases e:lK b with
    |false=>rfl
    |true=>unfold lK at e;simp only[Bool.or_eq_true,decide_eq_true_eq] at e;omega
   rw[wT hb,List.length_cons,hA]
theorem acE(s:List UInt8)(hs:s.length<=1048576):∀(n:Nat)(r:RS),r.t <:+ s->r.bad=false->r.deep<=14->r.size<=900->2*r.t.length+1<=n->∀(l j:Nat)(S:Store),bF S (l,j)=some (.box (gM s r))->
 dz prog 58 [.c (.ptr (l,j) 0)] S (fun v S'=>v=(lC n r).1.v/\S'=bR S (l,j) (.box (gM s (lC n r).2))):=by
 intro n
 induction n using Nat.strongRecOn with
 |_ n ih=>
 intro r ht hbad hd hz hn l j S hk
 cases n with
 |zero=>omega
 |succ n=>
 refine dz.of_le ?_;have g:∀x:Ab.Obj,bF (bR S (l,j) x) (l,j)=some x:=fun x=>eY _ _ _ _ hk;have hsk:=Pv ht;have hsl:=BP r.t;obtain⟨y,hy⟩:∃y,y=lC (n+1) r:=⟨_,rfl⟩;rw[<-hy];rw[lC] at hy;obtain⟨rt,rd,rz,rb⟩:=r
 simp only at *
 subst hbad;refine afk [79] (rs:=[.cell 2 54]) zmx func58 ntmps58 rfl rfl rfl rfl rfl ?_;refine W1 ?_;refine bg rfl (Kr s (by omega) _ ht (1+l) j _ (by rw[bK];exact hk)) ?_;simp -implicitDefEqProofs (disch:=omega) only[go_sem,g,bK,dU,bB,gM]
 cases e:gD rt with
 |nil=>
  rw[e] at hy;simp only at hy;have d:decide ((s.length:Int)<=((s.length-0:Nat):Int))=true:=decide_eq_true (by omega);simp -implicitDefEqProofs (disch:=omega) only[go_sem,d,g,bK,dU,bB,gM];refine⟨by rfl,?_⟩;simp -implicitDefEqProofs (disch:=omega) only[go_sem,g,bK,dU,bB,gM];subst hy;exact⟨Il,rfl⟩
 |cons b u=>
  rw[e] at hy hsk hsl;simp only at hy;obtain⟨q1,q2,q3⟩:=Dv hsk;rw[List.length_cons] at q1 q2 q3 hsl;simp -implicitDefEqProofs (disch:=omega) only[go_sem,g,bK,dU,bB,gM];generalize hA:s.length-(u.length+1)=a at q1 q2 q3 ⊢;have d:decide ((s.length:Int)<=(a:Int))=false:=decide_eq_false (by omega);simp -implicitDefEqProofs (disch:=omega) only[go_sem,d,g,bK,dU,bB,gM];refine⟨by rfl,?_⟩;simp -implicitDefEqProofs (disch:=omega) only[go_sem,g,bK,dU,bB,gM]
  with_reducible refine dM (fun hb=> ?_) (fun hb=> ?_)<;>have h:=hb<;>(try simp only[wf_preprocess] at h)<;>simp -implicitDefEqProofs (disch:=omega) only[go_sem,hb,g,bK,dU,bB,gM]<;>refine W3 ?_
  ·rw[if_pos (by omega)] at hy;subst hy;refine⟨Il,?_⟩;rw[<-hA];simp only[gM];rfl
  have hsz:¬900<rz+1:=by omega
  rw[if_neg hsz] at hy;clear h hb;obtain⟨z,hzd⟩:∃z,z=(b::u).dropWhile bS:=⟨_,rfl⟩
  refine WS [79] zmx rfl [0,2,3] (ι:=List UInt8) (fun _=>[.c (.ptr (1+l,j) 0),.c (.ptr (0,0) 0),.c (.d (.i .i64 a))])
   (fun t=>[.box [.d (.s []),.bG []]]::bR S (l,j) (.box (gM s ⟨t,rd,rz+1,false⟩)))
   (fun t=>t <:+ b::u/\t.dropWhile bS=z) (fun t=>t.length) (b::u) rfl (by rw[<-hA];simp only[gM];rfl) ⟨List.suffix_refl _,hzd.symm⟩ ?_
  rintro t ⟨p1,p2⟩;have p3:=p1.trans hsk;have p4:=p3.length_le
  have ex:(t=[]\/∃c v,t=c::v/\bS c=false)\/∃c v,t=c::v/\bS c=true:=by
   cases t with
   |nil=>exact .inl (.inl rfl)
   |cons c v=>cases hc:bS c with
    |false=>exact .inl (.inr ⟨c,v,rfl,hc⟩)
    |true=>exact .inr ⟨c,v,rfl,hc⟩
  rcases ex with ex|⟨c,v,rfl,hc⟩
  rotate_left
  ·obtain⟨k1,k2,k3⟩:=Dv p3;rw[List.length_cons] at k1 k2 k3;simp -implicitDefEqProofs (disch:=omega) only[go_sem,g,bK,dU,bB,gM];generalize hB:s.length-(v.length+1)=m at k1 k2 k3 ⊢;have d1:decide ((m:Int)<s.length)=true:=decide_eq_true (by omega);simp -implicitDefEqProofs (disch:=omega) only[go_sem,d1,g,bK,dU,bB,gM];refine W3 ?_;rw[k2];refine aZ (J5 c) ?_;rw[hc];simp -implicitDefEqProofs (disch:=omega) only[go_sem,g,bK,dU,bB,gM];refine⟨by rfl,?_⟩;simp -implicitDefEqProofs (disch:=omega) only[go_sem,g,bK,dU,bB,gM];refine bJ v (by simp) rfl ?_ ⟨(List.suffix_cons c v).trans p1,?_⟩
   ·have eI:((s.length-v.length:Nat):Int)=(m:Int)+1:=by omega
    simp only[gM];rw[eI]
    first|done|rfl
   ·rw[<-p2,List.dropWhile_cons,if_pos hc]
  have hzt:z=t:=by
   rw[<-p2];rcases ex with rfl|⟨c,v,rfl,hc⟩
   ·rfl
   ·rw[List.dropWhile_cons,if_neg (by rw[hc];decide)]
  subst hzt;obtain⟨m,hm⟩:∃m,m=s.length-z.length:=⟨_,rfl⟩
  have hyes:bS b=true->(s.take m).drop a=b::u.takeWhile bS/\a<m/\m=s.length-(u.dropWhile bS).length:=fun hab=>by
   have e1:z=u.dropWhile bS:=by rw[hzd,List.dropWhile_cons,if_pos hab]
   have e2:(u.dropWhile bS).length<=u.length:=(List.dropWhile_suffix bS).length_le;have e3:=aiN (a:=b::u.takeWhile bS) (c:=z) hsk (by rw[e1,List.cons_append,List.takeWhile_append_dropWhile]);rw[<-hm,List.length_cons,hA] at e3;have e4:=hsk.length_le;rw[List.length_cons] at e4;rw[e1] at hm;exact⟨e3,by omega,hm⟩
  have hno:bS b=false->m=a:=fun hab=>by
   have e1:z=b::u:=by rw[hzd,List.dropWhile_cons,if_neg (by rw[hab];decide)]
   rw[hm,e1,List.length_cons,hA]
  clear p1 p2 p4 hzd;rcases ex with rfl|⟨c,v,rfl,hc⟩;rw[List.length_nil] at hm;have d1:decide ((m:Int)<s.length)=false:=decide_eq_false (by omega);simp -implicitDefEqProofs (disch:=omega) only[go_sem,g,bK,dU,bB,gM];rw[<-hm];simp -implicitDefEqProofs (disch:=omega) only[go_sem,d1,g,bK,dU,bB,gM];refine⟨by rfl,?_⟩;simp -implicitDefEqProofs (disch:=omega) only[go_sem,g,bK,dU,bB,gM]
  rotate_left
  obtain⟨k1,k2,k3⟩:=Dv p3;rw[List.length_cons] at k1 k2 k3 hm;simp -implicitDefEqProofs (disch:=omega) only[go_sem,g,bK,dU,bB,gM];rw[<-hm] at k1 k2 k3 ⊢;have d1:decide ((m:Int)<s.length)=true:=decide_eq_true (by omega);simp -implicitDefEqProofs (disch:=omega) only[go_sem,d1,g,bK,dU,bB,gM];refine W3 ?_;rw[k2];refine aZ (J5 c) ?_;rw[hc];simp -implicitDefEqProofs (disch:=omega) only[go_sem,g,bK,dU,bB,gM];refine⟨by rfl,?_⟩;simp -implicitDefEqProofs (disch:=omega) only[go_sem,g,bK,dU,bB,gM]
  all_goals clear p3 hm d1
  all_goals
   cases hab:bS b with
   |true=>
    obtain⟨r1,r2,r3⟩:=hyes hab;have d2:decide ((a:Int)<(m:Int))=true:=decide_eq_true (by omega);rw[if_pos hab] at hy;simp -implicitDefEqProofs (disch:=omega) only[go_sem,d2,g,bK,dU,bB,gM];refine W3 ?_;refine⟨by rfl,?_⟩;simp -implicitDefEqProofs (disch:=omega) only[go_sem,g,bK,dU,bB,gM];rw[r1];subst hy;refine⟨fG.less (.cons (.refl _) (.cons (fB _) .nil)),?_⟩;simp only[gM,<-r3]
    first|done|rfl
   |false=>
    obtain rfl:=hno hab;have d2:decide ((m:Int)<(m:Int))=false:=decide_eq_false (by omega);rw[if_neg (by rw[hab];decide)] at hy;clear hyes hno;simp -implicitDefEqProofs (disch:=omega) only[go_sem,d2,g,bK,dU,bB,gM];refine W3 ?_;simp only[q2]
    have Q5:b≠40\/rd=14->Less (.agg [.d (.s []),.bG []]) y.1.v/\bR S (l,j) (.box [.d (.s s),.d (.i .i64 m),.d (.i .i64 rd),.d (.i .i64 (rz+1:Nat)),.d (.b true)])=bR S (l,j) (.box (gM s y.2)):=fun hq=>by
     rw[if_pos hq] at hy;subst hy;refine⟨Il,?_⟩;rw[<-hA];simp only[gM];rfl
    with_reducible refine dM (fun hb=> ?_) (fun hb=> ?_)<;>have h:=hb<;>(try simp only[wf_preprocess] at h)<;>simp -implicitDefEqProofs (disch:=omega) only[go_sem,hb,g,bK,dU,bB,gM]<;>refine W3 ?_
    ·refine⟨by rfl,?_⟩;simp -implicitDefEqProofs (disch:=omega) only[go_sem,g,bK,dU,bB,gM];exact Q5 (.inl fun hq=>h (by rw[hq];rfl))
    have aq6:b=40:=Z8 h;refine⟨by rfl,?_⟩;simp -implicitDefEqProofs (disch:=omega) only[go_sem,g,bK,dU,bB,gM]
    with_reducible refine dM (fun hb=> ?_) (fun hb=> ?_)<;>have h:=hb<;>(try simp only[wf_preprocess] at h)<;>simp -implicitDefEqProofs (disch:=omega) only[go_sem,hb,g,bK,dU,bB,gM]<;>refine W3 ?_
    ·exact Q5 (.inr (by omega))
    have anp:¬(b≠40\/rd=14):=by rintro(h1|h1);exact h1 aq6;omega
    rw[if_neg anp] at hy;clear Q5 d2 d anp hab;refine qK 1 1 2 _ rfl rfl ?_
    refine WS [79] zmx rfl [0,2,4] (ι:=Nat×RS×List aj) (fun _=>[.c (.ptr (1+l,j) 0),.c (.ptr (0,0) 0),.c (.ptr (0,1) 0)])
     (fun x=>[.box [.d (.s []),.bG []],.box [.d (.s []),.bN (0,2) (x.2.2.map aj.enc)],.tok 2 (x.2.2.map aj.enc)]::bR S (l,j) (.box (gM s x.2.1)))
     (fun x=>rH x.1 x.2.1 x.2.2=y/\x.2.1.t <:+ s/\x.2.1.deep<=14/\x.2.1.size<=901/\(x.2.1.bad=false->1<=x.2.1.deep/\x.2.1.size<=900)/\x.2.2.length<=x.2.1.size/\(x.2.1.bad=true/\1<=x.1\/2*x.2.1.t.length+2<=x.1)/\x.1<=n) (fun x=>x.1)
     (n,⟨u,rd+1,rz+1,false⟩,[]) rfl ?_ ⟨hy.symm,(List.suffix_cons b u).trans hsk,by simp only;omega,by simp only;omega,fun _=>by simp only;omega,by simp only[List.length_nil];omega,.inr (by simp only;omega),Nat.le_refl _⟩ ?_
    ·have eI:((s.length-u.length:Nat):Int)=(m:Int)+1:=by omega
     simp only[gM,eI];rfl
    rintro⟨f,⟨t,dp,zz,bd⟩,acc⟩ ⟨p1,p2,p3,p4,p5,p6,p7,p8⟩;simp only at p1 p2 p3 p4 p5 p6 p7 p8;simp -implicitDefEqProofs (disch:=omega) only[go_sem,g,bK,dU,bB,gM]
    cases bd with
    |true=>
     simp -implicitDefEqProofs (disch:=omega) only[go_sem,g,bK,dU,bB,gM]
     cases f with
     |zero=>omega
     |succ f=>
      rw[rH,if_pos rfl] at p1;subst p1;exact⟨gL _,rfl⟩
    |false=>
     have p5:=p5 rfl;have p7:=p7.resolve_left fun h=>Bool.noConfusion h.1;simp -implicitDefEqProofs (disch:=omega) only[go_sem,g,bK,dU,bB,gM];refine bg rfl (Kr s (by omega) ⟨t,dp,zz,false⟩ p2 (1+l) j _ (by rw[bK];exact g _)) ?_;simp -implicitDefEqProofs (disch:=omega) only[go_sem,g,bK,dU,bB,gM]
     cases f with
     |zero=>omega
     |succ f=>
     rw[rH,if_neg Bool.false_ne_true] at p1;have k1:=Pv p2;have k0:=k1;have k2:=BP t;have k3:=k2;have k4:=k1.length_le;obtain⟨q,hq⟩:∃q,q=lC f ⟨gD t,dp,zz,false⟩:=⟨_,rfl⟩;have hcall:=ih f (by omega) ⟨gD t,dp,zz,false⟩ k1 rfl p3 p5.2 (by simp only;omega);have anq:=(QO f).1 ⟨gD t,dp,zz,false⟩ p3 p5.2;simp only at p1;rw[<-hq] at hcall anq p1;obtain⟨o1,o2,o3,o4,o5,o6⟩:=anq;simp only at o1 o2 o4 o5 o6;have o7:=o1.length_le
     have ek:(gD t=[]\/∃c v,gD t=c::v/\c≠41)\/∃v,gD t=41::v:=by
      cases gD t with
      |nil=>exact .inl (.inl rfl)
      |cons c v=>by_cases hc:c=41
                 ·subst hc;exact .inr ⟨v,rfl⟩
                 ·exact .inl (.inr ⟨c,v,rfl,hc⟩)
     rcases ek with ek|⟨v,e2⟩
     rotate_left
     ·rw[e2] at k1 k2 p1 ⊢;obtain⟨w1,w2,w3⟩:=Dv k1;rw[List.length_cons] at w1 w2 w3;have d1:decide (((s.length-(v.length+1):Nat):Int)<s.length)=true:=decide_eq_true (by omega);rw[if_pos (show(41::v).head? =some 41 from rfl)] at p1;simp -implicitDefEqProofs (disch:=omega) only[go_sem,d1,g,bK,dU,bB,gM];refine W3 ?_;rw[w2];refine⟨by rfl,?_⟩
      have d2:decide ((((41:UInt8).toNat:Nat):Int)=41)=true:=by decide
      simp -implicitDefEqProofs (disch:=omega) only[go_sem,d2,g,bK,dU,bB,gM];subst p1
      have e3:((s.length-v.length:Nat):Int)=((s.length-(v.length+1):Nat):Int)+1:=by omega
      have e4:((dp-1:Nat):Int)=(dp:Int)-1:=by omega
      refine⟨gL _,?_⟩;simp only[List.tail_cons,e3,e4]
     have hne:(gD t).head? ≠some 41:=by
      rcases ek with e2|⟨c,v,e2,hc⟩
      ·rw[e2];simp
      ·rw[e2];simpa using hc
     rw[if_neg hne] at p1;rcases ek with e2|⟨c,v,e2,hc⟩;have d1:decide (((s.length-0:Nat):Int)<s.length)=false:=decide_eq_false (by omega);rw[e2];simp -implicitDefEqProofs (disch:=omega) only[go_sem,d1,g,bK,dU,bB,gM];refine⟨by rfl,?_⟩;simp -implicitDefEqProofs (disch:=omega) only[go_sem,g,bK,dU,bB,gM]
     rotate_left
     rw[e2] at k1 k2 ⊢;obtain⟨w1,w2,w3⟩:=Dv k1;rw[List.length_cons] at w1 w2 w3;have d1:decide (((s.length-(v.length+1):Nat):Int)<s.length)=true:=decide_eq_true (by omega);simp -implicitDefEqProofs (disch:=omega) only[go_sem,d1,g,bK,dU,bB,gM];refine W3 ?_;simp only[w2];refine⟨by rfl,?_⟩;have d2:decide ((c.toNat:Int)=41)=false:=decide_eq_false fun hq=>hc (Z8 (c:=41) hq);simp -implicitDefEqProofs (disch:=omega) only[go_sem,d2,g,bK,dU,bB,gM]
     all_goals
      refine bg rfl (hcall (1+l) j _ (by rw[bK,e2];exact g _)) ?_;simp -implicitDefEqProofs (disch:=omega) only[go_sem,g,bK,dU,bB,gM];refine W3 ?_;refine⟨by cases l<;>rfl,?_⟩;simp -implicitDefEqProofs (disch:=omega) only[go_sem,g,bK,dU,bB,gM];refine bJ (f,q.2,acc++[q.1]) (by simp) rfl ?_ ⟨p1,o1.trans k0,o3,o4.2,fun hq=>⟨by simp only;rw[o2 hq];exact p5.1,(o6 hq).2⟩,?_,?_,by simp only;omega⟩
      ·simp only[List.map_append,List.map_cons,List.map_nil,aj.aB,gM]
      ·simp only[List.length_append,List.length_cons,List.length_nil];omega
      ·cases hqb:q.2.bad with
       |true=>exact .inl ⟨rfl,by simp only;omega⟩
       |false=>
        have:=(o6 hqb).1;exact .inr (by simp only;omega)
theorem TU(s:List UInt8)(hs:s.length<=1048576):aH prog 21 [.c (.d (.s s))] (.dQ [(true,(jy s).enc.map .d),(false,[.d (.b (lg s))])]):=aH.of_le fun S=>by
 obtain⟨n,hn,hok,hx⟩:=Wd s;obtain⟨q,hq⟩:∃q,q=lC n ⟨s,0,0,false⟩:=⟨_,rfl⟩;have hr:=(QO n).1 ⟨s,0,0,false⟩ (by simp only;omega) (by simp only;omega);have hc:=acE s hs n ⟨s,0,0,false⟩ (List.suffix_refl _) rfl (by simp only;omega) (by simp only;omega) (by unfold OI at hn;simp only;omega);rw[<-hq] at hok hx hr hc;clear hq hn;obtain⟨o1,o2,o3,o4,o5,o6⟩:=hr;simp only at o1 o2 o4 o5 o6
 have fV:lg s=false->Less (.dQ [(true,[.d (.s []),.bG []]),(false,[.d (.b false)])]) (.dQ [(true,[.d (.s (jy s).aO),.d (.sl ((jy s).ah.map aj.enc))]),(false,[.d (.b (lg s))])]):=fun e=>by
  have e2:jy s=cu:=by
   unfold jy;rw[dif_neg (je e)]
  rw[e,e2];exact(iZ.cons (.cons (.refl _) (.cons (fB _) .nil)) (.refl _)).less
 have hsl:=BP q.2.t
 have hsz:q.1.sz<=67108864:=by omega
 refine aD (rs:=[.cell 2 54,.tmp 3]) zmx func21 ntmps21 rfl rfl rfl rfl rfl ?_;refine W1 ?_;refine bg rfl (hc 0 1 _ (by simp[bF,gM])) ?_;simp -implicitDefEqProofs (disch:=omega) only[go_sem,gM];refine bg rfl (Kr s (by omega) q.2 o1 0 1 _ rfl) ?_;simp -implicitDefEqProofs (disch:=omega) only[go_sem,gM]
 cases hqb:q.2.bad with
 |true=>
  refine W1 ?_;exact fV (by rw[<-hok];exact aA fun h=>by rw[hqb] at h;cases h.1)
 |false=>
  refine W1 ?_;refine S0 (fun hb h=>?_) fun hb h=>?_
  ·refine fV ?_;rw[<-hok];refine aA fun hq=> ?_;rw[hq.2.1] at h;exact h (by simp)
  have hnil:gD q.2.t=[]:=List.eq_nil_of_length_eq_zero (by have:=o1.length_le;omega);refine C1 (oW q.1 hsz) ?_;refine S0 (fun hb h=>?_) fun hb h=>?_
  ·refine fV ?_;rw[<-hok];refine aA fun hq=> ?_;rw[hq.2.2] at h;cases h
  ·have hy:lg s=true:=by rw[<-hok];exact aY ⟨hqb,hnil,h⟩
   rw[hy,<-hx hy];exact gL _
section
variable {P:Program} {N:Nat} {S:Store} {s:St} {tm:List (Nat×V)}
end
theorem acF{P:Program}{N:Nat}(n:Nat){f:FuncId}{fn:Func}{c:Code}{args:List V}{bU:List Obj}{Ω:Store}{post:V->Store->Prop}{rs:List ResultVar}(ig:P.follows .mixedOrders=true)(hf:P.funcs[f]? =some fn)(hN:fn.ntmps=N)
 (hb:fn.body=some c) (hn:(fn.name== "runtime.NumGoroutine")=false) (hr:fn.results.toList=rs) (hl:Nat.ble args.length N=true) (hok:codeOk N c=true)
 (h:CW P N c (Wp P rs post) ⟨sJ (args.map (V.up 1)) 0,[.seed n]::bU::Ω⟩):dz P f args (bU::Ω) post:=by
 subst hN;subst hr;exact Sn hf hb hn (Nat.le_of_ble_eq_true hl) (QC n (lI ig c _ _ hok h))
theorem WU{P:Program}{N:Nat}{c:Code}{Q:Exit->St->Prop}{tm:List (Nat×V)}{Ω:Store}(n k:Nat)(h:AW P N c Q ⟨tm,[.seed n,.seed k]::Ω⟩):AW P N c Q ⟨tm,[]::Ω⟩:=by
 refine QC n (ow h fun a w σ β hR=> ?_);obtain⟨bo,bΩ,rfl,hlen⟩:=frames hR;obtain⟨hS',hk,hst⟩:=hR.S.push (o:=.seed k) (h:=undef) (Grow.refl hR.S.live) hlen trivial (fun b hb=>by cases hb);exact⟨σ,_,⟨hR.size,hR.defers,hS',fun u=>(hR.T u).mono (eH.refl _ _) hk⟩,hst,Keep.refl _ _⟩
section
variable {P:Program} {N:Nat} {S:Store}
theorem vw(n k:Nat){f:FuncId}{fn:Func}{c:Code}{args:List V}{post:V->Store->Prop}{rs:List ResultVar}(ig:P.follows .mixedOrders=true)(hf:P.funcs[f]? =some fn)(hN:fn.ntmps=N)
 (hb:fn.body=some c) (hn:(fn.name== "runtime.NumGoroutine")=false) (hr:fn.results.toList=rs) (hl:Nat.ble args.length N=true) (hok:codeOk N c=true)
 (h:CW P N c (WK P n rs post) ⟨sJ (args.map (V.up 1)) 0,[.seed n,.seed k]::S⟩):dz P f args S post:=by
 subst hN;subst hr;exact yg hf hb hn (Nat.le_of_ble_eq_true hl) (WU n k (F9 (Eh n) (lI ig c _ _ hok h)))
end
def Im(n:Nat)(out:List UInt8):List UInt8:=if h:n=0 then out else Im (n/10) (UInt8.ofNat (48+n % 10)::out)
termination_by n
decreasing_by omega
def Pw(k:Int):List UInt8:=if k<=0 then [109,48] else 109::Im k.toNat []
theorem afl{out:List UInt8}:Im 0 out=out:=by rw[Im];simp
theorem aiO{n:Nat}{out:List UInt8}(h:n≠0):Im n out=Im (n/10) (UInt8.ofNat (48+n % 10)::out):=by rw[Im];simp[h]
mutual
def jl:D->Nat
 | .sl es=>dL es
 | .b _=>1
 | .i _ _=>1
 | .s _=>1
 | .o _=>0
 | .ol _ _=>0
def iQ:List D->Nat
 |[]=>0
 |d::ds=>jl d+iQ ds
def dL:List (List D)->Nat
 |[]=>0
 |r::rs=>iQ r+dL rs
end
mutual
def mkD:D->Int->D
 | .sl es,k=>.sl (lW es k)
 | .b _,k=>.b (decide (k.tmod 3=0))
 | .i kd _,k=>.i kd k
 | .s _,k=>.s (Pw k)
 | .o v,_=>.o v
 | .ol n es,_=>.ol n es
def BX:List D->Int->List D
 |[],_=>[]
 |d::ds,k=>mkD d k::BX ds (k+jl d)
def lW:List (List D)->Int->List (List D)
 |[],_=>[]
 |r::rs,k=>BX r k::lW rs (k+iQ r)
end
mutual
def zi:D->Bool
 | .sl es=>ni es
 | .b _=>true
 | .i _ _=>true
 | .s _=>true
 | .o _=>true
 | .ol _ _=>true
def l8:List D->Bool
 |[]=>true
 |d::ds=>zi d&&l8 ds
def ni:List (List D)->Bool
 |[]=>true
 |r::rs=>decide (r.length<=32)&&l8 r&&ni rs
end
mutual
theorem apd:∀d:D,zi d=true->jl d<=32*d.sz+1
 | .sl es,h=>by
   have:=afm es (by simpa [zi] using h);simp only[jl,D.sz];omega
 | .b _,_=>by simp[jl]
 | .i _ _,_=>by simp[jl]
 | .s _,_=>by simp[jl]
 | .o _,_=>by simp[jl]
 | .ol _ _,_=>by simp[jl]
theorem WV:∀r:List D,l8 r=true->iQ r<=32*bT r+r.length
 |[],_=>by simp[iQ]
 |d::ds,h=>by
  rw[l8,Bool.and_eq_true] at h;have h1:=apd d h.1;have h2:=WV ds h.2;simp only[iQ,bT,List.length_cons];omega
theorem afm:∀rs:List (List D),ni rs=true->dL rs<=32*(rs.length+bn rs)
 |[],_=>by simp[dL]
 |r::rs,h=>by
  rw[ni,Bool.and_eq_true,Bool.and_eq_true,decide_eq_true_eq] at h;have h1:=WV r h.1.2;have h2:=afm rs h.2;simp only[dL,bn,List.length_cons];omega
end
theorem ji:∀a b,l8 (a++b)=(l8 a&&l8 b)
 |[],b=>by simp[l8]
 |d::ds,b=>by rw[List.cons_append,l8,l8,ji ds b,Bool.and_assoc]
theorem nI{α:Type}{f:α->List D}:∀{xs:List α},(∀x∈xs,l8 (f x)=true/\(f x).length<=32)->ni (xs.map f)=true
 |[],_=>rfl
 |x::xs,h=>by
  rw[List.map_cons,ni,(h x (by simp)).1,nI fun y hy=>h y (by simp[hy]),decide_eq_true (h x (by simp)).2];rfl
theorem FH:∀a b,dL (a++b)=dL a+dL b
 |[],b=>by simp[dL]
 |d::ds,b=>by rw[List.cons_append,dL,dL,FH ds b];omega
theorem Mt:∀a b k,lW (a++b) k=lW a k++lW b (k+dL a)
 |[],b,k=>by simp[lW,dL]
 |d::ds,b,k=>by rw[List.cons_append,lW,lW,Mt ds b,dL];simp only[List.cons_append,Int.natCast_add,Int.add_assoc]
theorem dn:∀rs k,(lW rs k).length=rs.length
 |[],_=>rfl
 |r::rs,k=>by rw[lW,List.length_cons,dn rs,List.length_cons]
theorem WW{rows:List (List D)}{i:Nat}(hi:i<rows.length):rows.take (i+1)=rows.take i++[rows[i]]:=List.take_succ_eq_append_getElem hi
theorem afn{rows:List (List D)}{i:Nat}(hi:i<rows.length):dL (rows.take (i+1))=dL (rows.take i)+iQ rows[i]:=by
 rw[WW hi,FH];simp[dL]
theorem alk{rows:List (List D)}{i:Nat}:dL (rows.take i)<=dL rows:=by
 have:=FH (rows.take i) (rows.drop i);rw[List.take_append_drop] at this;omega
def uK(rows:List (List D))(k:Int)(i:Nat):List (List D):=lW (rows.take i) k++rows.drop i
theorem afo{rows:List (List D)}{k:Int}:uK rows k 0=rows:=by simp[uK,lW]
theorem pY{rows:List (List D)}{k:Int}{i:Nat}(h:rows.length<=i):uK rows k i=lW rows k:=by
 unfold uK;rw[List.take_of_length_le h,List.drop_of_length_le h,List.append_nil]
theorem iX{rows:List (List D)}{k:Int}{i:Nat}:(uK rows k i).length=rows.length:=by
 unfold uK;rw[List.length_append,dn,List.length_take,List.length_drop];omega
theorem aiP{rows:List (List D)}{k:Int}{i:Nat}(hi:i<rows.length):(uK rows k i).getD i []=rows[i]:=by
 unfold uK;rw[List.getD_eq_getElem?_getD,List.getElem?_append_right (by rw[dn,List.length_take];omega),dn,List.length_take,List.getElem?_drop];rw[show i+(i-min i rows.length)=i by omega,List.getElem?_eq_getElem hi];rfl
theorem aiQ{rows:List (List D)}{k:Int}{i:Nat}(hi:i<rows.length):(uK rows k i).set i (BX rows[i] (k+dL (rows.take i)))=uK rows k (i+1):=by
 unfold uK
 have hl:(lW (rows.take i) k).length=i:=by rw[dn,List.length_take];omega
 rw[List.set_append_right _ _ (by omega),hl,Nat.sub_self,List.drop_eq_getElem_cons hi,List.set_cons_zero,WW hi,Mt,List.append_assoc];rfl
def sD(rows:List (List D))(k:Int)(i:Nat)(row:List D):List (List D):=(uK rows k i).set i row
theorem fO{rows:List (List D)}{k:Int}{i:Nat}{row:List D}:(sD rows k i row).length=rows.length:=by unfold sD;rw[List.length_set,iX]
theorem WX{rows:List (List D)}{k:Int}{i:Nat}{row:List D}(hi:i<rows.length):(sD rows k i row).getD i []=row:=by
 unfold sD;rw[List.getD_eq_getElem?_getD,List.getElem?_set_self (by rw[iX];exact hi)];rfl
theorem Kt{rows:List (List D)}{k:Int}{i o:Nat}{row:List D}(hi:i<rows.length):cellAt (sD rows k i row) i o=row[o]? :=by
 unfold sD cellAt;rw[List.getElem?_set_self (by rw[iX];exact hi),Option.bind_some]
theorem iw{rows:List (List D)}{k:Int}{i:Nat}{row row':List D}:(sD rows k i row).set i row'=sD rows k i row':=by unfold sD;rw[List.set_set]
theorem alm{rows:List (List D)}{k:Int}{i:Nat}(hi:i<rows.length):uK rows k i=sD rows k i rows[i]:=by
 have h:=aiP (k:=k) hi
 have hl:i<(uK rows k i).length:=by rw[iX];exact hi
 rw[List.getD_eq_getElem?_getD,List.getElem?_eq_getElem hl,Option.getD_some] at h;unfold sD;rw[<-h,List.set_getElem_self]
theorem aln{rows:List (List D)}{k:Int}{i:Nat}(hi:i<rows.length):sD rows k i (BX rows[i] (k+dL (rows.take i)))=uK rows k (i+1):=aiQ hi
theorem alo{rs:List (List (List D))}{r:Nat}{p:List (Nat×Nat)}{rows es:List (List D)}{k:Int}{i o:Nat}{row:List D}(hp:atR rs r p=some rows)(hi:i<rows.length)(h:row[o]? =some (.sl es)):
 atR (jK rs r p (sD rows k i row)) r (p++[(i,o)])=some es:=fF (M7 hp) (by rw[Kt hi,h])
theorem aiR{rs:List (List (List D))}{r:Nat}{p:List (Nat×Nat)}{rows es new:List (List D)}{k:Int}{i o:Nat}{row:List D}(hp:atR rs r p=some rows)(hi:i<rows.length)(h:row[o]? =some (.sl es)):
 jK (jK rs r p (sD rows k i row)) r (p++[(i,o)]) new=jK rs r p (sD rows k i (row.set o (.sl new))):=by
 rw[afb (M7 hp) (by rw[Kt hi,h]),SE hp,WX hi,iw]
theorem WY:∀{rows:List (List D)}{k:Int}{i:Nat}(hi:i<rows.length),(lW rows k).getD i []=BX rows[i] (k+dL (rows.take i))
 |r::rows,k,0,_=>by simp[lW,dL]
 |r::rows,k,i+1,hi=>by
  have:=WY (rows:=rows) (k:=k+iQ r) (i:=i) (by simpa using hi);rw[lW,List.getD_cons_succ,this,List.getElem_cons_succ,List.take_succ_cons,dL,Int.natCast_add,Int.add_assoc]
theorem jS{α:Type}{f:α->List D}(h:∀x,1<=iQ (f x)):∀xs:List α,xs.length<=dL (xs.map f)
 |[]=>Nat.zero_le _
 |x::xs=>by
  have h1:=h x;have h2:=jS h xs;rw[List.map_cons,dL,List.length_cons];omega
theorem anr{P:Program}{f:FuncId}{S:Store}{l j r i o:Nat}{p:List (Nat×Nat)}{rs:List (List (List D))}{rows es new:List (List D)}{row:List D}{k:Int}{args:List V}{R:V}
 (hS:bF S (l,j)=some (.xf rs)) (hp:atR rs r p=some rows) (hi:i<rows.length) (h:row[o]? =some (.sl es))
 (hA:∀(S':Store)(rs':List (List (List D))),bF S' (1+l,j)=some (.xf rs')->atR rs' r (p++[(i,o)])=some es->dz P f args S' (fun res EI=>res=R/\EI=bR S' (1+l,j) (.xf (jK rs' r (p++[(i,o)]) new)))):
 dz P f args ([]::bR S (l,j) (.xf (jK rs r p (sD rows k i row)))) (fun res EI=>res=R/\EI=[]::bR S (l,j) (.xf (jK rs r p (sD rows k i (row.set o (.sl new)))))):=by
 refine(hA _ _ (by rw[bK];exact eY _ _ _ _ hS) (alo (k:=k) hp hi h)).mono fun res EI ⟨h1,h2⟩=>⟨h1,?_⟩;rw[h2,dU,bB,aiR hp hi h]
abbrev tH(P:Program)(f:FuncId)(es:List (List D)):Prop:=∀(k:Int)(l j r:Nat)(p:List (Nat×Nat))(S:Store)(rs:List (List (List D))),bF S (l,j)=some (.xf rs)->atR rs r p=some es->0<=k/\k+dL es<=4611686018427387904->
 dz P f [.c (.xp (l,j) r p),.c (.d (.i .i64 k))] S (fun res S'=>res=.c (.d (.i .i64 (k+dL es)))/\S'=bR S (l,j) (.xf (jK rs r p (lW es k))))
abbrev um(P:Program)(f:FuncId)(es:List (List D)):Prop:=∀(k:Int)(l j r:Nat)(p:List (Nat×Nat))(S:Store)(rs:List (List (List D))),bF S (l,j)=some (.xf rs)->atR rs r p=some (lW es k)->0<=k/\k+dL es<=4611686018427387904->
 dz P f [.c (.xp (l,j) r p),.c (.d (.i .i64 k))] S (fun res S'=>res=.c (.d (.i .i64 (k+dL es)))/\S'=S)
theorem fI{P:Program}{f:FuncId}{S:Store}{l j r i o:Nat}{p:List (Nat×Nat)}{rs:List (List (List D))}{rows es:List (List D)}{row:List D}{k K:Int}
 (hS:bF S (l,j)=some (.xf rs)) (hp:atR rs r p=some rows) (hi:i<rows.length) (h:row[o]? =some (.sl es)) (hA:tH P f es) (hK:0<=K/\K+dL es<=4611686018427387904):
 dz P f [.c (.xp (1+l,j) r (p++[(i,o)])),.c (.d (.i .i64 K))] ([]::bR S (l,j) (.xf (jK rs r p (sD rows k i row)))) (fun res EI=>res=.c (.d (.i .i64 (K+dL es)))/\EI=[]::bR S (l,j) (.xf (jK rs r p (sD rows k i (row.set o (.sl (lW es K))))))):=
 anr hS hp hi h fun S' rs' g1 g2=>hA K (1+l) j r _ S' rs' g1 g2 hK
theorem uL{S:Store}{l j r:Nat}{p:List (Nat×Nat)}{rs:List (List (List D))}{rows:List (List D)}(hS:bF S (l,j)=some (.xf rs))(hp:atR rs r p=some rows):
 (∀x:Obj,bF (bR S (l,j) x) (l,j)=some x)/\(∀new,atR (jK rs r p new) r p=some new)/\∀a b,jK (jK rs r p a) r p b=jK rs r p b:=
 ⟨fun x=>eY _ _ _ _ hS,fun new=>M7 hp,fun a b=>SE hp⟩
theorem kX{α:Type}{f:α->List D}{xs:List α}{rows:List (List D)}{k K:Int}{i:Nat}(hr:rows=xs.map f)(hi:i<xs.length)(hK:K=k+((dL (rows.take i):Nat):Int)):
 ∃x,x=xs[i]/\∃_:i<rows.length,k+((dL (rows.take (i+1)):Nat):Int)=K+((iQ (f x):Nat):Int)/\K+((iQ (f x):Nat):Int)<=k+((dL rows:Nat):Int)/\uK rows k i=sD rows k i (f x)/\(∀row o,cellAt (sD rows k i row) i o=row[o]?)/\
  (∀row,(sD rows k i row).getD i []=row)/\sD rows k i (BX (f x) K)=uK rows k (i+1):=by
 have hir:i<rows.length:=by rw[hr,List.length_map];exact hi
 have e1:rows[i]=f xs[i]:=by simp only[hr,List.getElem_map]
 have h1:=afn hir;have h2:=alk (rows:=rows) (i:=i+1);have h3:=alm (k:=k) hir;have h4:=aln (k:=k) hir;rw[e1] at h1 h3 h4;rw[<-hK] at h4;exact⟨_,rfl,hir,by omega,by omega,h3,fun row o=>Kt hir,fun row=>WX hir,h4⟩
theorem lX{α:Type}{f:α->List D}{xs:List α}{rows:List (List D)}{k K:Int}{i:Nat}(hr:rows=xs.map f)(hi:i<xs.length)(hK:K=k+((dL (rows.take i):Nat):Int)):
 ∃x,x=xs[i]/\∃_:i<rows.length,k+((dL (rows.take (i+1)):Nat):Int)=K+((iQ (f x):Nat):Int)/\K+((iQ (f x):Nat):Int)<=k+((dL rows:Nat):Int)/\(∀o,cellAt (lW rows k) i o=(BX (f x) K)[o]?)/\(lW rows k).getD i []=BX (f x) K:=by
 obtain⟨x,hx,hir,h1,h2,_⟩:=kX hr hi hK
 have e1:rows[i]=f x:=by simp only[hr,List.getElem_map,hx]
 have h3:=WY (k:=k) hir;rw[e1,<-hK] at h3
 have h4:i<(lW rows k).length:=by rw[dn];exact hir
 refine⟨x,hx,hir,h1,h2,fun o=> ?_,h3⟩;rw[List.getD_eq_getElem?_getD,List.getElem?_eq_getElem h4,Option.getD_some] at h3;unfold cellAt;rw[List.getElem?_eq_getElem h4,h3,Option.bind_some]
theorem mH(k:Int):BX [] k=[]:=rfl
theorem mI(x:List UInt8)(ds:List D)(k:Int):BX (.s x::ds) k=.s (Pw k)::BX ds (k+1):=rfl
theorem mJ(t:IntKind)(x:Int)(ds:List D)(k:Int):BX (.i t x::ds) k=.i t k::BX ds (k+1):=rfl
theorem mK(x:Bool)(ds:List D)(k:Int):BX (.b x::ds) k=.b (decide (k.tmod 3=0))::BX ds (k+1):=rfl
theorem mM(es:List (List D))(ds:List D)(k:Int):BX (.sl es::ds) k=.sl (lW es k)::BX ds (k+((dL es:Nat):Int)):=rfl
theorem mO{x:V}{a b c:Int}(h:a=b):[x,.c (.d (.i .i64 a)),.c (.d (.i .i64 c))]=[x,.c (.d (.i .i64 b)),.c (.d (.i .i64 c))]:=by rw[h]
section
variable {P:Program} {N:Nat} {c:Code} {Q:Exit->St->Prop} {s:St} {S:Store} {l j r n:Nat} {p:List (Nat×Nat)} {rs:List (List (List D))} {rows:List (List D)} {k:Int}
abbrev Ll(l j r:Nat)(p:List (Nat×Nat))(k:Int)(i:Nat):List V:=[.c (.xp (1+l,j) r p),.c (.d (.i .i64 k)),.c (.d (.i .i64 i))]
theorem nM(ig:P.follows .mixedOrders=true)(hok:codeOk N c=true)(hS:bF S (l,j)=some (.xf rs))(hp:atR rs r p=some rows)(hl:rows.length=n)(h1:[0,1,5].map (look s.tm)=Ll l j r p k 0)(h2:s.st=[]::S)
 (round:∀i:Nat,i<=n->∀K:Int,K=k+((dL (rows.take i):Nat):Int)->CW P N c (lu (Inv N [0,1,5] (fun i=>Ll l j r p (k+dL (rows.take i)) i) (fun i=>[]::bR S (l,j) (.xf (jK rs r p (uK rows k i)))) (fun i=>i<=n) (fun i=>n-i) i) Q)
   ⟨jd [0,1,5] [.c (.xp (1+l,j) r p),.c (.d (.i .i64 K)),.c (.d (.i .i64 i))],[]::bR S (l,j) (.xf (jK rs r p (uK rows k i)))⟩):AW P N (.loop c) Q s:=by
 refine aU ig hok [0,1,5] (fun i=>Ll l j r p (k+dL (rows.take i)) i) (fun i=>[]::bR S (l,j) (.xf (jK rs r p (uK rows k i)))) (fun i=>i<=n) (fun i=>n-i) 0 ?_ ?_ (Nat.zero_le _) fun i hi=>round i hi _ rfl
 ·rw[h1,show((dL (rows.take 0):Nat):Int)=0 by simp[dL],Int.add_zero]
 ·rw[h2,afo,afa hp,y7 _ _ hS]
theorem nN(ig:P.follows .mixedOrders=true)(hok:codeOk N c=true)(hl:rows.length=n)(h1:[0,1,5].map (look s.tm)=Ll l j r p k 0)(h2:s.st=[]::S)
 (round:∀i:Nat,i<=n->∀K:Int,K=k+((dL (rows.take i):Nat):Int)->CW P N c (lu (Inv N [0,1,5] (fun i=>Ll l j r p (k+dL (rows.take i)) i) (fun _=>[]::S) (fun i=>i<=n) (fun i=>n-i) i) Q)
   ⟨jd [0,1,5] [.c (.xp (1+l,j) r p),.c (.d (.i .i64 K)),.c (.d (.i .i64 i))],[]::S⟩):AW P N (.loop c) Q s:=by
 refine aU ig hok [0,1,5] (fun i=>Ll l j r p (k+dL (rows.take i)) i) (fun _=>[]::S) (fun i=>i<=n) (fun i=>n-i) 0 ?_ h2 (Nat.zero_le _) fun i hi=>round i hi _ rfl;rw[h1,show((dL (rows.take 0):Nat):Int)=0 by simp[dL],Int.add_zero]
end
theorem lY{a:Int}(h:0<=a):decide (a<0)=false:=decide_eq_false (by omega)
theorem fP(k:Int)(hk: -9223372036854775808<=k/\k<=4611686018427387904):aH prog 74 [.c (.d (.i .i64 k))] (.c (.d (.s (Pw k)))):=fun S=>by
 refine aD (rs:=[.tmp 2]) zmx func74 ntmps74 rfl rfl rfl rfl rfl ?_;refine W1 ?_;refine S0 (fun hb h=>?_) fun hb h=>?_
 ·unfold Pw;rw[if_pos h]
 have hpos:¬k<=0:=h
 refine aU (ι:=Int×List UInt8) zmx rfl [0,3] (fun y=>[.c (.d (.i .i64 y.1)),.c (.d (.s y.2))]) (fun _=>[]::S)
  (fun y=>0<=y.1/\Im y.1.toNat y.2=Im k.toNat []/\y.1<=k/\y.1.toNat*2^y.2.length<=4611686018427387904/\y.2.length<=63) (fun y=>y.1.toNat) (k,[]) rfl rfl ⟨by simp only;omega,rfl,by simp only;omega,by simp only[List.length_nil];omega,by simp⟩ ?_
 rintro⟨n,out⟩ ⟨p1,p2,p3,p4,p5⟩;simp only at p1 p2 p3 p4 p5;refine W1 ?_;refine S0 (fun hb h=>?_) fun hb h=>?_
 ·have hn:n.toNat≠0:=by omega
  have hm:=Int.tmod_nonneg 10 p1;have hm2:=Int.tmod_lt_of_pos n (show(0:Int)<10 by omega)
  have hm3:n.tmod 10=(n.toNat % 10:Nat):=by
   rw[Int.tmod_eq_emod_of_nonneg p1];omega
  have hq:n.tdiv 10=(n.toNat/10:Nat):=by
   rw[Int.tdiv_eq_ediv_of_nonneg p1];omega
  have hlen:out.length<=62:=by
   refine Nat.le_of_not_lt fun hgt=> ?_;have h1:2^63<=2^out.length:=Nat.pow_le_pow_right (by omega) (by omega);have h2:1*2^out.length<=n.toNat*2^out.length:=Nat.mul_le_mul_right _ (by omega);omega
  refine W1 ?_
  have hc:UInt8.ofNat (IntKind.u8.wrap (48+n.tmod 10)).toNat=UInt8.ofNat (48+n.toNat % 10):=by
   rw[wrap_u8 _ (by omega),hm3];congr 1
  refine bJ (ι:=Int×List UInt8) (n.tdiv 10,UInt8.ofNat (48+n.toNat % 10)::out) (by simp only;omega) (by rw[<-hc];rfl) rfl ?_
  have hq2:(n.tdiv 10).toNat=n.toNat/10:=by omega
  refine⟨by simp only;omega,?_,by simp only;omega,?_,by simp only[List.length_cons];omega⟩
  ·simp only
   rw[hq2,<-aiO hn,p2]
  ·simp only[List.length_cons];rw[hq2,Nat.pow_succ]
   have:n.toNat/10*2<=n.toNat:=by omega
   calc n.toNat/10*(2^out.length*2)=n.toNat/10*2*2^out.length:=by rw[Nat.mul_comm (2^out.length) 2,Nat.mul_assoc]
    _<=n.toNat*2^out.length:=Nat.mul_le_mul_right _ this
    _<=_:=p4
 ·have:n.toNat=0:=by omega
  rw[this,afl] at p2;unfold Pw;rw[if_neg hpos,p2]
theorem zk(xs:List (List UInt8)):lV (xs.map encS)=true:=nH fun _ _=>rfl
theorem zl(xs:List (List UInt8)):ni (xs.map encS)=true:=nI fun _ _=>⟨rfl,by simp[encS]⟩
theorem vB:∀(xs:List (List UInt8))(n:Nat),dZ (xs.map encS) n=xs.map encS
 |[],_=>rfl
 |x::xs,n=>by rw[List.map_cons,dZ,vB xs];rfl
mutual
theorem ak.gY:∀x:ak,lq x.enc=true/\l8 x.enc=true
 | .mk a0 a1 a2=>by simp only[ak.enc,lq,uR,l8,zi,jh,ji,Bool.and_true,Bool.true_and,Bool.and_self,and_self,and_true,true_and,(ak.sF a2).1,(ak.sF a2).2]
theorem ak.sF:∀xs:List ak,lV (ak.encs xs)=true/\ni (ak.encs xs)=true
 |[]=>⟨rfl,rfl⟩
 |x::xs=>by
  have h:decide ((ak.enc x).length<=32)=true:=by rw[ak.cO];rfl
  simp only[ak.encs,lV,ni,h,(ak.gY x).1,(ak.gY x).2,(ak.sF xs).1,(ak.sF xs).2,Bool.and_self,and_self]
end
theorem ak.jM(xs:List ak):lV (xs.map ak.enc)=true/\ni (xs.map ak.enc)=true:=by rw[<-ak.lJ];exact ak.sF xs
theorem eD.gY(x:eD):lq x.enc=true/\l8 x.enc=true:=by
 rw[eD.aB];simp only[List.cons_append,List.nil_append,lq,uR,l8,zi,jh,ji,Bool.and_true,Bool.true_and,Bool.and_self,and_self,and_true,true_and,(ak.gY x.fType).1,(ak.gY x.fType).2]
theorem eD.jM(xs:List eD):lV (xs.map eD.enc)=true/\ni (xs.map eD.enc)=true:=⟨nH fun x _=>x.gY.1,nI fun x _=>⟨x.gY.2,by rw[eD.cO];decide⟩⟩
theorem bq.gY(x:bq):lq x.enc=true/\l8 x.enc=true:=by
 rw[bq.aB];simp only[List.cons_append,List.nil_append,lq,uR,l8,zi,jh,ji,Bool.and_true,Bool.true_and,Bool.and_self,and_self,and_true,true_and,(ak.gY x.fType).1,(ak.gY x.fType).2]
theorem bq.jM(xs:List bq):lV (xs.map bq.enc)=true/\ni (xs.map bq.enc)=true:=⟨nH fun x _=>x.gY.1,nI fun x _=>⟨x.gY.2,by rw[bq.cO];decide⟩⟩
mutual
theorem au.gY:∀x:au,lq x.enc=true/\l8 x.enc=true
 | .mk a0 a1 a2 a3 a4 a5 a6=>by simp only[au.enc,lq,uR,l8,zi,jh,ji,Bool.and_true,Bool.true_and,Bool.and_self,and_self,and_true,true_and,(ak.gY a4).1,(ak.gY a4).2,(au.sF a5).1,(au.sF a5).2,(aT.sF a6).1,(aT.sF a6).2]
theorem au.sF:∀xs:List au,lV (au.encs xs)=true/\ni (au.encs xs)=true
 |[]=>⟨rfl,rfl⟩
 |x::xs=>by
  have h:decide ((au.enc x).length<=32)=true:=by rw[au.cO];rfl
  simp only[au.encs,lV,ni,h,(au.gY x).1,(au.gY x).2,(au.sF xs).1,(au.sF xs).2,Bool.and_self,and_self]
theorem aT.gY:∀x:aT,lq x.enc=true/\l8 x.enc=true
 | .mk a0 a1 a2=>by simp only[aT.enc,lq,uR,l8,zi,jh,ji,Bool.and_true,Bool.true_and,Bool.and_self,and_self,and_true,true_and,zk a1,zl a1,(au.gY a2).1,(au.gY a2).2]
theorem aT.sF:∀xs:List aT,lV (aT.encs xs)=true/\ni (aT.encs xs)=true
 |[]=>⟨rfl,rfl⟩
 |x::xs=>by
  have h:decide ((aT.enc x).length<=32)=true:=by rw[aT.cO];rfl
  simp only[aT.encs,lV,ni,h,(aT.gY x).1,(aT.gY x).2,(aT.sF xs).1,(aT.sF xs).2,Bool.and_self,and_self]
end
theorem au.jM(xs:List au):lV (xs.map au.enc)=true/\ni (xs.map au.enc)=true:=by rw[<-au.lJ];exact au.sF xs
theorem aT.jM(xs:List aT):lV (xs.map aT.enc)=true/\ni (xs.map aT.enc)=true:=by rw[<-aT.lJ];exact aT.sF xs
mutual
theorem aj.gY:∀x:aj,lq x.enc=true/\l8 x.enc=true
 | .mk a0 a1=>by simp only[aj.enc,lq,uR,l8,zi,jh,ji,Bool.and_true,Bool.true_and,Bool.and_self,and_self,and_true,true_and,(aj.sF a1).1,(aj.sF a1).2]
theorem aj.sF:∀xs:List aj,lV (aj.encs xs)=true/\ni (aj.encs xs)=true
 |[]=>⟨rfl,rfl⟩
 |x::xs=>by
  have h:decide ((aj.enc x).length<=32)=true:=by rw[aj.cO];rfl
  simp only[aj.encs,lV,ni,h,(aj.gY x).1,(aj.gY x).2,(aj.sF xs).1,(aj.sF xs).2,Bool.and_self,and_self]
end
theorem aj.jM(xs:List aj):lV (xs.map aj.enc)=true/\ni (xs.map aj.enc)=true:=by rw[<-aj.lJ];exact aj.sF xs
theorem aL.gY(x:aL):lq x.enc=true/\l8 x.enc=true:=by
 rw[aL.aB];simp only[List.cons_append,List.nil_append,lq,uR,l8,zi,jh,ji,Bool.and_true,Bool.true_and,Bool.and_self,and_self,and_true,true_and,(ak.jM x.aV).1,(ak.jM x.aV).2,(ak.gY x.bO).1,(ak.gY x.bO).2,zk x.aG,zl x.aG,(au.gY x.fBody).1,(au.gY x.fBody).2]
theorem aL.jM(xs:List aL):lV (xs.map aL.enc)=true/\ni (xs.map aL.enc)=true:=⟨nH fun x _=>x.gY.1,nI fun x _=>⟨x.gY.2,by rw[aL.cO];decide⟩⟩
theorem bf.gY(x:bf):lq x.enc=true/\l8 x.enc=true:=by
 rw[bf.aB];simp only[List.cons_append,List.nil_append,lq,uR,l8,zi,jh,ji,Bool.and_true,Bool.true_and,Bool.and_self,and_self,and_true,true_and,zk x.bH,zl x.bH,(aL.jM x.aC).1,(aL.jM x.aC).2]
theorem bf.jM(xs:List bf):lV (xs.map bf.enc)=true/\ni (xs.map bf.enc)=true:=⟨nH fun x _=>x.gY.1,nI fun x _=>⟨x.gY.2,by rw[bf.cO];decide⟩⟩
theorem aK.gY(x:aK):lq x.enc=true/\l8 x.enc=true:=by
 rw[aK.aB];simp only[List.cons_append,List.nil_append,lq,uR,l8,zi,jh,ji,Bool.and_true,Bool.true_and,Bool.and_self,and_self,and_true,true_and,(ak.jM x.gu).1,(ak.jM x.gu).2]
theorem aK.jM(xs:List aK):lV (xs.map aK.enc)=true/\ni (xs.map aK.enc)=true:=⟨nH fun x _=>x.gY.1,nI fun x _=>⟨x.gY.2,by rw[aK.cO];decide⟩⟩
theorem aP.gY(x:aP):lq x.enc=true/\l8 x.enc=true:=by
 rw[aP.aB];simp only[List.cons_append,List.nil_append,lq,uR,l8,zi,jh,ji,Bool.and_true,Bool.true_and,Bool.and_self,and_self,and_true,true_and,zk x.aG,zl x.aG,(aK.jM x.aF).1,(aK.jM x.aF).2]
theorem aP.jM(xs:List aP):lV (xs.map aP.enc)=true/\ni (xs.map aP.enc)=true:=⟨nH fun x _=>x.gY.1,nI fun x _=>⟨x.gY.2,by rw[aP.cO];decide⟩⟩
theorem bA.gY(x:bA):lq x.enc=true/\l8 x.enc=true:=by
 rw[bA.aB];simp only[List.cons_append,List.nil_append,lq,uR,l8,zi,jh,ji,Bool.and_true,Bool.true_and,Bool.and_self,and_self,and_true,true_and,zk x.aG,zl x.aG,(au.gY x.fBody).1,(au.gY x.fBody).2]
theorem bA.jM(xs:List bA):lV (xs.map bA.enc)=true/\ni (xs.map bA.enc)=true:=⟨nH fun x _=>x.gY.1,nI fun x _=>⟨x.gY.2,by rw[bA.cO];decide⟩⟩
theorem aM.gY(x:aM):lq x.enc=true/\l8 x.enc=true:=by
 rw[aM.aB];simp only[List.cons_append,List.nil_append,lq,uR,l8,zi,jh,ji,Bool.and_true,Bool.true_and,Bool.and_self,and_self,and_true,true_and,zk x.aG,zl x.aG,(ak.gY x.bQ).1,(ak.gY x.bQ).2,(bq.jM x.bY).1,(bq.jM x.bY).2,(ak.gY x.bE).1,(ak.gY x.bE).2,(bA.jM x.aI).1,(bA.jM x.aI).2]
theorem aM.jM(xs:List aM):lV (xs.map aM.enc)=true/\ni (xs.map aM.enc)=true:=⟨nH fun x _=>x.gY.1,nI fun x _=>⟨x.gY.2,by rw[aM.cO];decide⟩⟩
theorem bM.gY(x:bM):lq x.enc=true/\l8 x.enc=true:=by
 rw[bM.aB];simp only[List.cons_append,List.nil_append,lq,uR,l8,zi,jh,ji,Bool.and_true,Bool.true_and,Bool.and_self,and_self,and_true,true_and,(ak.gY x.fType).1,(ak.gY x.fType).2]
theorem bM.jM(xs:List bM):lV (xs.map bM.enc)=true/\ni (xs.map bM.enc)=true:=⟨nH fun x _=>x.gY.1,nI fun x _=>⟨x.gY.2,by rw[bM.cO];decide⟩⟩
theorem aS.gY(x:aS):lq x.enc=true/\l8 x.enc=true:=by
 rw[aS.aB];simp only[List.cons_append,List.nil_append,lq,uR,l8,zi,jh,ji,Bool.and_true,Bool.true_and,Bool.and_self,and_self,and_true,true_and,zk x.aG,zl x.aG,(bq.jM x.bY).1,(bq.jM x.bY).2,(bM.jM x.aV).1,(bM.jM x.aV).2,(ak.gY x.bO).1,(ak.gY x.bO).2,(au.gY x.fBody).1,(au.gY x.fBody).2]
theorem aS.jM(xs:List aS):lV (xs.map aS.enc)=true/\ni (xs.map aS.enc)=true:=⟨nH fun x _=>x.gY.1,nI fun x _=>⟨x.gY.2,by rw[aS.cO];decide⟩⟩
theorem aW.gY(x:aW):lq x.enc=true/\l8 x.enc=true:=by
 rw[aW.aB];simp only[List.cons_append,List.nil_append,lq,uR,l8,zi,jh,ji,Bool.and_true,Bool.true_and,Bool.and_self,and_self,and_true,true_and,zk x.fT,zl x.fT,(bf.jM x.dh).1,(bf.jM x.dh).2,(aP.jM x.aQ).1,(aP.jM x.aQ).2,(aM.jM x.cB).1,(aM.jM x.cB).2,(aS.jM x.bX).1,(aS.jM x.bX).2]
theorem aW.jM(xs:List aW):lV (xs.map aW.enc)=true/\ni (xs.map aW.enc)=true:=⟨nH fun x _=>x.gY.1,nI fun x _=>⟨x.gY.2,by rw[aW.cO];decide⟩⟩
theorem fU.gY(x:fU):lq x.enc=true/\l8 x.enc=true:=by
 rw[fU.aB];simp only[List.cons_append,List.nil_append,lq,uR,l8,zi,jh,ji,Bool.and_true,Bool.true_and,Bool.and_self,and_self,and_true,true_and,(aW.jM x.sU).1,(aW.jM x.sU).2]
theorem fU.jM(xs:List fU):lV (xs.map fU.enc)=true/\ni (xs.map fU.enc)=true:=⟨nH fun x _=>x.gY.1,nI fun x _=>⟨x.gY.2,by rw[fU.cO];decide⟩⟩
theorem eu.gY(x:eu):lq x.enc=true/\l8 x.enc=true:=by
 rw[eu.aB];simp only[List.cons_append,List.nil_append,lq,uR,l8,zi,jh,ji,Bool.and_true,Bool.true_and,Bool.and_self,and_self,and_true,true_and]
theorem eu.jM(xs:List eu):lV (xs.map eu.enc)=true/\ni (xs.map eu.enc)=true:=⟨nH fun x _=>x.gY.1,nI fun x _=>⟨x.gY.2,by rw[eu.cO];decide⟩⟩
theorem Q6(x:aL):∀y:aL,x.sz<=1048576->aH prog 241 [x.v,y.v] (.c (.d (.b (dec (x=y))))):=by
 intro y hsz S;simp only[aL.sz,aL.aB,bT,bL,D.sz,List.length_map,au.d9,ak.d9] at hsz;refine aD (rs:=[.tmp 4]) zmx func241 ntmps241 rfl rfl rfl rfl rfl ?_;refine W1 ?_;refine S0 (fun hb h=>?_) fun hb h=>?_
 ·exact ay (aA (fun e=>h (by rw[e]))).symm
 have rJ:=h;clear h;refine C1 (O3 x.aV _ (by omega)) ?_;refine S0 (fun hb h=>?_) fun hb h=>?_
 ·exact ay (aA (fun e=>h (by rw[e]))).symm
 have Q7:=h;clear h;refine C1 (wW x.bO _ (by omega)) ?_;refine S0 (fun hb h=>?_) fun hb h=>?_
 ·exact ay (aA (fun e=>h (by rw[e]))).symm
 have Q8:=h;clear h;refine S0 (fun hb h=>?_) fun hb h=>?_
 ·exact ay (aA (fun e=>h (by rw[e]))).symm
 have Y3:=h;clear h;refine C1 (qB x.aG _ (by omega)) ?_;refine S0 (fun hb h=>?_) fun hb h=>?_
 ·exact ay (aA (fun e=>h (by rw[e]))).symm
 have zV:=h;clear h;refine C1 (JZ x.fBody _ (by omega)) ?_;refine S0 (fun hb h=>?_) fun hb h=>?_
 ·exact ay (aA (fun e=>h (by rw[e]))).symm
 have H9:=h;clear h;exact ay (aY (aL.ext' rJ Q7 Q8 Y3 zV H9)).symm
theorem Px(xs:List aL):∀ys:List aL,xs.length+bn (xs.map aL.enc)<=1048576->aH prog 165 [.c (.d (.sl (xs.map aL.enc))),.c (.d (.sl (ys.map aL.enc)))] (.c (.d (.b (dec (xs=ys))))):=by
 intro ys hsz S;refine aD (rs:=[.tmp 4]) zmx func165 ntmps165 rfl rfl rfl rfl rfl ?_;refine W1 ?_;refine S0 (fun hb h=>?_) fun hb h=>?_
 ·exact ay (aA (fun e=>h (by rw[e]))).symm
 have hl:xs.length=ys.length:=by omega
 refine aU (ι:=Nat) zmx rfl [0,1,5] (fun y=>[.c (.d (.sl (xs.map aL.enc))),.c (.d (.sl (ys.map aL.enc))),.c (.d (.i .i64 y))]) (fun y=>[]::S)
  (fun i=>i<=xs.length/\∀j,j<i->xs[j]? =ys[j]?) (fun y=>xs.length-y) 0 rfl rfl ⟨Nat.zero_le _,fun j h=>by omega⟩ ?_
 rintro i ⟨p1,p2⟩;refine W1 ?_;refine S0 (fun hb h=>?_) fun hb h=>?_
 ·have hi:i<xs.length:=by omega
  have hi':i<ys.length:=by omega
  have hx:xs[i].sz<=bn (xs.map aL.enc):=dD (List.mem_map_of_mem (List.getElem_mem hi));refine W3 ?_;refine C1 (Q6 xs[i] ys[i] (by omega)) ?_;refine S0 (fun hb h=>?_) fun hb h=>?_
  ·exact ay (aA (fun e=>h (by simp only[e]))).symm
  refine bJ (i+1) (by omega) rfl rfl ⟨by omega,fun j hj=> ?_⟩;by_cases e:j=i
  ·subst e;rw[List.getElem?_eq_getElem hi,List.getElem?_eq_getElem hi',h]
  ·exact p2 j (by omega)
 ·have hi:i=xs.length:=by omega
  refine ay (aY (List.ext_getElem? fun j=> ?_)).symm;by_cases hj:j<i
  ·exact p2 j hj
  ·rw[List.getElem?_eq_none (by omega),List.getElem?_eq_none (by omega)]
theorem acG(x:bf):∀y:bf,x.sz<=1048576->aH prog 84 [x.v,y.v] (.c (.d (.b (dec (x=y))))):=by
 intro y hsz S;simp only[bf.sz,bf.aB,bT,bL,D.sz,List.length_map] at hsz;refine aD (rs:=[.tmp 4]) zmx func84 ntmps84 rfl rfl rfl rfl rfl ?_;refine W1 ?_;refine S0 (fun hb h=>?_) fun hb h=>?_
 ·exact ay (aA (fun e=>h (by rw[e]))).symm
 have rJ:=h;clear h;refine C1 (qB x.bH _ (by omega)) ?_;refine S0 (fun hb h=>?_) fun hb h=>?_
 ·exact ay (aA (fun e=>h (by rw[e]))).symm
 have WZ:=h;clear h;refine S0 (fun hb h=>?_) fun hb h=>?_
 ·exact ay (aA (fun e=>h (by rw[e]))).symm
 have ape:=h;clear h;refine S0 (fun hb h=>?_) fun hb h=>?_
 ·exact ay (aA (fun e=>h (by rw[e]))).symm
 have W9:=h;clear h;refine C1 (Px x.aC _ (by omega)) ?_;refine S0 (fun hb h=>?_) fun hb h=>?_
 ·exact ay (aA (fun e=>h (by rw[e]))).symm
 have Y4:=h;clear h;exact ay (aY (bf.ext' rJ WZ ape W9 Y4)).symm
theorem Y5(xs:List bf):∀ys:List bf,xs.length+bn (xs.map bf.enc)<=1048576->aH prog 37 [.c (.d (.sl (xs.map bf.enc))),.c (.d (.sl (ys.map bf.enc)))] (.c (.d (.b (dec (xs=ys))))):=by
 intro ys hsz S;refine aD (rs:=[.tmp 4]) zmx func37 ntmps37 rfl rfl rfl rfl rfl ?_;refine W1 ?_;refine S0 (fun hb h=>?_) fun hb h=>?_
 ·exact ay (aA (fun e=>h (by rw[e]))).symm
 have hl:xs.length=ys.length:=by omega
 refine aU (ι:=Nat) zmx rfl [0,1,5] (fun y=>[.c (.d (.sl (xs.map bf.enc))),.c (.d (.sl (ys.map bf.enc))),.c (.d (.i .i64 y))]) (fun y=>[]::S)
  (fun i=>i<=xs.length/\∀j,j<i->xs[j]? =ys[j]?) (fun y=>xs.length-y) 0 rfl rfl ⟨Nat.zero_le _,fun j h=>by omega⟩ ?_
 rintro i ⟨p1,p2⟩;refine W1 ?_;refine S0 (fun hb h=>?_) fun hb h=>?_
 ·have hi:i<xs.length:=by omega
  have hi':i<ys.length:=by omega
  have hx:xs[i].sz<=bn (xs.map bf.enc):=dD (List.mem_map_of_mem (List.getElem_mem hi));refine W3 ?_;refine C1 (acG xs[i] ys[i] (by omega)) ?_;refine S0 (fun hb h=>?_) fun hb h=>?_
  ·exact ay (aA (fun e=>h (by simp only[e]))).symm
  refine bJ (i+1) (by omega) rfl rfl ⟨by omega,fun j hj=> ?_⟩;by_cases e:j=i
  ·subst e;rw[List.getElem?_eq_getElem hi,List.getElem?_eq_getElem hi',h]
  ·exact p2 j (by omega)
 ·have hi:i=xs.length:=by omega
  refine ay (aY (List.ext_getElem? fun j=> ?_)).symm;by_cases hj:j<i
  ·exact p2 j hj
  ·rw[List.getElem?_eq_none (by omega),List.getElem?_eq_none (by omega)]
theorem M8(x:aK):∀y:aK,x.sz<=1048576->aH prog 242 [x.v,y.v] (.c (.d (.b (dec (x=y))))):=by
 intro y hsz S;simp only[aK.sz,aK.aB,bT,bL,D.sz,List.length_map] at hsz;refine aD (rs:=[.tmp 4]) zmx func242 ntmps242 rfl rfl rfl rfl rfl ?_;refine W1 ?_;refine S0 (fun hb h=>?_) fun hb h=>?_
 ·exact ay (aA (fun e=>h (by rw[e]))).symm
 have rJ:=h;clear h;refine C1 (O3 x.gu _ (by omega)) ?_;refine S0 (fun hb h=>?_) fun hb h=>?_
 ·exact ay (aA (fun e=>h (by rw[e]))).symm
 have alp:=h;clear h;exact ay (aY (aK.ext' rJ alp)).symm
theorem LP(xs:List aK):∀ys:List aK,xs.length+bn (xs.map aK.enc)<=1048576->aH prog 166 [.c (.d (.sl (xs.map aK.enc))),.c (.d (.sl (ys.map aK.enc)))] (.c (.d (.b (dec (xs=ys))))):=by
 intro ys hsz S;refine aD (rs:=[.tmp 4]) zmx func166 ntmps166 rfl rfl rfl rfl rfl ?_;refine W1 ?_;refine S0 (fun hb h=>?_) fun hb h=>?_
 ·exact ay (aA (fun e=>h (by rw[e]))).symm
 have hl:xs.length=ys.length:=by omega
 refine aU (ι:=Nat) zmx rfl [0,1,5] (fun y=>[.c (.d (.sl (xs.map aK.enc))),.c (.d (.sl (ys.map aK.enc))),.c (.d (.i .i64 y))]) (fun y=>[]::S)
  (fun i=>i<=xs.length/\∀j,j<i->xs[j]? =ys[j]?) (fun y=>xs.length-y) 0 rfl rfl ⟨Nat.zero_le _,fun j h=>by omega⟩ ?_
 rintro i ⟨p1,p2⟩;refine W1 ?_;refine S0 (fun hb h=>?_) fun hb h=>?_
 ·have hi:i<xs.length:=by omega
  have hi':i<ys.length:=by omega
  have hx:xs[i].sz<=bn (xs.map aK.enc):=dD (List.mem_map_of_mem (List.getElem_mem hi));refine W3 ?_;refine C1 (M8 xs[i] ys[i] (by omega)) ?_;refine S0 (fun hb h=>?_) fun hb h=>?_
  ·exact ay (aA (fun e=>h (by simp only[e]))).symm
  refine bJ (i+1) (by omega) rfl rfl ⟨by omega,fun j hj=> ?_⟩;by_cases e:j=i
  ·subst e;rw[List.getElem?_eq_getElem hi,List.getElem?_eq_getElem hi',h]
  ·exact p2 j (by omega)
 ·have hi:i=xs.length:=by omega
  refine ay (aY (List.ext_getElem? fun j=> ?_)).symm;by_cases hj:j<i
  ·exact p2 j hj
  ·rw[List.getElem?_eq_none (by omega),List.getElem?_eq_none (by omega)]
theorem TV(x:aP):∀y:aP,x.sz<=1048576->aH prog 85 [x.v,y.v] (.c (.d (.b (dec (x=y))))):=by
 intro y hsz S;simp only[aP.sz,aP.aB,bT,bL,D.sz,List.length_map] at hsz;refine aD (rs:=[.tmp 4]) zmx func85 ntmps85 rfl rfl rfl rfl rfl ?_;refine W1 ?_;refine S0 (fun hb h=>?_) fun hb h=>?_
 ·exact ay (aA (fun e=>h (by rw[e]))).symm
 have rJ:=h;clear h;refine C1 (qB x.aG _ (by omega)) ?_;refine S0 (fun hb h=>?_) fun hb h=>?_
 ·exact ay (aA (fun e=>h (by rw[e]))).symm
 have zV:=h;clear h;refine C1 (LP x.aF _ (by omega)) ?_;refine S0 (fun hb h=>?_) fun hb h=>?_
 ·exact ay (aA (fun e=>h (by rw[e]))).symm
 have TW:=h;clear h;exact ay (aY (aP.ext' rJ zV TW)).symm
theorem Q9(xs:List aP):∀ys:List aP,xs.length+bn (xs.map aP.enc)<=1048576->aH prog 38 [.c (.d (.sl (xs.map aP.enc))),.c (.d (.sl (ys.map aP.enc)))] (.c (.d (.b (dec (xs=ys))))):=by
 intro ys hsz S;refine aD (rs:=[.tmp 4]) zmx func38 ntmps38 rfl rfl rfl rfl rfl ?_;refine W1 ?_;refine S0 (fun hb h=>?_) fun hb h=>?_
 ·exact ay (aA (fun e=>h (by rw[e]))).symm
 have hl:xs.length=ys.length:=by omega
 refine aU (ι:=Nat) zmx rfl [0,1,5] (fun y=>[.c (.d (.sl (xs.map aP.enc))),.c (.d (.sl (ys.map aP.enc))),.c (.d (.i .i64 y))]) (fun y=>[]::S)
  (fun i=>i<=xs.length/\∀j,j<i->xs[j]? =ys[j]?) (fun y=>xs.length-y) 0 rfl rfl ⟨Nat.zero_le _,fun j h=>by omega⟩ ?_
 rintro i ⟨p1,p2⟩;refine W1 ?_;refine S0 (fun hb h=>?_) fun hb h=>?_
 ·have hi:i<xs.length:=by omega
  have hi':i<ys.length:=by omega
  have hx:xs[i].sz<=bn (xs.map aP.enc):=dD (List.mem_map_of_mem (List.getElem_mem hi));refine W3 ?_;refine C1 (TV xs[i] ys[i] (by omega)) ?_;refine S0 (fun hb h=>?_) fun hb h=>?_
  ·exact ay (aA (fun e=>h (by simp only[e]))).symm
  refine bJ (i+1) (by omega) rfl rfl ⟨by omega,fun j hj=> ?_⟩;by_cases e:j=i
  ·subst e;rw[List.getElem?_eq_getElem hi,List.getElem?_eq_getElem hi',h]
  ·exact p2 j (by omega)
 ·have hi:i=xs.length:=by omega
  refine ay (aY (List.ext_getElem? fun j=> ?_)).symm;by_cases hj:j<i
  ·exact p2 j hj
  ·rw[List.getElem?_eq_none (by omega),List.getElem?_eq_none (by omega)]
def lx(l:List aj)(n:Nat):List (List D):=dZ (l.map aj.enc) n
def dS(x:aj):Nat:=wD x.enc
def jB(l:List aj):Nat:=kD (l.map aj.enc)
theorem j6(x:aj)(n:Nat):eZ x.enc n=[.s x.aO,.ol n (lx x.ah (n+1))]:=by
 rw[aj.aB];simp only[eZ,og,pX,Nat.add_zero,lx]
theorem xg(s:List UInt8)(n:Nat):eZ (bI s).enc n=[.s s,.ol n []]:=by rw[j6];rfl
theorem alq(x:aj):dS x=jB x.ah+1:=by
 unfold dS jB;rw[aj.aB];simp only[wD,pX];omega
theorem j4(s:List UInt8):dS (bI s)=1:=by rw[alq];rfl
theorem nO(n:Nat):lx [] n=[]:=rfl
theorem jT(x:aj)(l:List aj)(n:Nat):lx (x::l) n=eZ x.enc n::lx l (n+dS x):=rfl
theorem nP(a b:List aj)(n:Nat):lx (a++b) n=lx a n++lx b (n+jB a):=by unfold lx jB;rw[List.map_append,qJ]
theorem afp:jB []=0:=rfl
theorem acH(x:aj)(l:List aj):jB (x::l)=dS x+jB l:=rfl
theorem iC(l:List aj)(n:Nat):(lx l n).length=l.length:=by unfold lx;rw[kI,List.length_map]
theorem lZ{l:List aj}{n:Nat}:∀r∈lx l n,r.length=2:=xJ fun r hr=>by
 obtain⟨z,_,rfl⟩:=List.mem_map.1 hr;exact z.cO
theorem Ra{l:List aj}{i:Nat}(hi:i<l.length)(n:Nat):lx (l.take i) n++[eZ l[i].enc (n+jB (l.take i))]=lx (l.take (i+1)) n:=by
 rw[List.take_succ_eq_append_getElem hi,nP];rfl
theorem Io{l:List aj}{i:Nat}(hi:i<l.length)(n:Nat):lx (l.take i) n++[[.s l[i].aO,.ol (n+jB (l.take i)) (lx l[i].ah (n+jB (l.take i)+1))]]=lx (l.take (i+1)) n:=by
 rw[<-Ra hi,j6]
theorem AJ{base l:List aj}{i:Nat}(hi:i<l.length)(q:Nat):lx (base++l.take i) q++[[.s l[i].aO,.ol (q+jB (base++l.take i)) (lx l[i].ah (q+jB (base++l.take i)+1))]]=lx (base++l.take (i+1)) q:=by
 rw[List.take_succ_eq_append_getElem hi,<-List.append_assoc,nP (base++l.take i),jT,nO,j6]
theorem gV{l:List aj}:∀r∈l.map aj.enc,r.length=2:=fun r hr=>by
 obtain⟨z,_,rfl⟩:=List.mem_map.1 hr;exact z.cO
theorem FI{cs cs':List C}(hl:cs'.length=cs.length)(h:∀(j:Nat)(x y:C),cs[j]? =some x->cs'[j]? =some y->∀w σ S β v,jD w σ S β x v->jD w σ S β y v):Less (.agg cs) (.agg cs'):=by
 rintro w σ S β v ⟨a,ha,hc⟩;refine⟨a,ha,hl.trans hc.1,fun j y hy=> ?_⟩
 have hj:j<cs.length:=by rw[<-hl];exact(List.getElem?_eq_some_iff.1 hy).1
 obtain⟨v,h1,h2,h3⟩:=hc.2 j _ (List.getElem?_eq_getElem hj);exact⟨v,h1,h j _ y (List.getElem?_eq_getElem hj) hy w σ S β v h2,h3⟩
theorem anu{w:World}{σ:Nat->Nat}{S:Store}{β:Hs}{v:Value}(n:Nat)(h:jD w σ S β (.bG []) v):jD w σ S β (.d (.ol n [])) v:=by
 obtain⟨hd,ad,m,hval⟩:=h
 have hm:m=0:=by rw[hval] at hd;cases hd<;>rfl
 subst hm;rw[hval];exact .vZ _ _ _
theorem alr(s:List UInt8)(n:Nat):Less (.agg [.d (.s s),.bG []]) (.agg [.d (.s s),.d (.ol n [])]):=FI rfl fun j x y hx hy w σ S β v hv=>by
 match j,hx,hy with
 |0,hx,hy=>cases hx;cases hy;exact hv
 |1,hx,hy=>cases hx;cases hy;exact anu _ hv
 |j+2,hx,hy=>simp at hx
theorem als(s:List UInt8)(n:Nat)(es:List (List D)):Less (.agg [.d (.s s),.lU n es]) (.agg [.d (.s s),.d (.ol n es)]):=FI rfl fun j x y hx hy w σ S β v hv=>by
 match j,hx,hy with
 |0,hx,hy=>cases hx;cases hy;exact hv
 |1,hx,hy=>cases hx;cases hy;exact hv.1
 |j+2,hx,hy=>simp at hx
theorem Y6(s:List UInt8):aH prog 137 [.c (.d (.s s))] (.agg [.d (.s s),.bG []]):=fun S=>by
 refine aD (rs:=[.cell 2 54]) zmx func137 ntmps137 rfl rfl rfl rfl rfl ?_;exact Z1
theorem dG(s:List UInt8)(n:Nat):aH prog 137 [.c (.d (.s s))] (.agg [.d (.s s),.d (.ol n [])]):=aH.less (Y6 s) (alr s n)
theorem l6(d:D):aH prog 140 [.c (.d d)] (.agg [.d (.s []),.d d]):=fun S=>by
 refine aD (rs:=[.cell 2 54]) zmx func140 ntmps140 rfl rfl rfl rfl rfl ?_;exact Z1
theorem Y7(n:Nat)(es:List (List D)):aH prog 140 [.c (.lU n es)] (.agg [.d (.s []),.lU n es]):=fun S=>by
 refine aD (rs:=[.cell 2 54]) zmx func140 ntmps140 rfl rfl rfl rfl rfl ?_;exact Z1
theorem oF(n:Nat)(es:List (List D)):aH prog 140 [.c (.lU n es)] (.agg [.d (.s []),.d (.ol n es)]):=aH.less (Y7 n es) (als [] n es)
theorem kE(l j:Nat)(es:List (List D))(S:Store):dz prog 140 [.c (.bN (l,j) es)] S (fun r S'=>r=.agg [.d (.s []),.bN (l,j) es]/\S'=S):=by
 refine aD (rs:=[.cell 2 54]) zmx func140 ntmps140 rfl rfl rfl rfl rfl ?_;exact Z1
theorem Cv(xs:List (List UInt8))(hx:xs.length<=1073741824)(n q:Nat):aH prog 139 [.c (.d (.sl (xs.map encS)))] (.c (.d (.ol n (lx (aN xs) q)))):=fun S=>by
 refine lN (n) (rs:=[.tmp 2]) zmx func139 ntmps139 rfl rfl rfl rfl rfl ?_;refine W1 ?_;refine W3 ?_;refine mU n 3 2 [] (.inl rfl) (by simp) ?_
 refine aU (ι:=Nat) zmx rfl [3,7,8,9] (fun i=>[.c (.bN (0,1) (lx ((aN xs).take i) q)),.c (.d (.sl (xs.map encS))),.c (.d (.i .i64 xs.length)),.c (.d (.i .i64 i))]) (fun i=>[.seed n,.fu n 2 (lx ((aN xs).take i) q)]::S)
  (fun i=>i<=xs.length) (fun i=>xs.length-i) 0 rfl rfl (Nat.zero_le _) ?_
 intro i hi;refine W1 ?_;refine S0 (fun hb h=>?_) fun hb h=>?_
 ·have hi':i<xs.length:=by omega
  have hw:i<(aN xs).length:=by rw[jN];exact hi'
  have hg:(aN xs)[i]=bI xs[i]:=by simp[aN]
  have hl:(lx ((aN xs).take i) q).length<=i:=by rw[iC];exact List.length_take_le _ _
  refine W3 ?_;refine C1 (dG xs[i] (q+jB ((aN xs).take i))) ?_;refine W3 ?_;have hs:=Ra hw q;rw[hg,xg] at hs;rw[hs];exact bJ (i+1) (by omega) rfl rfl (by omega)
 ·have hi':i=(aN xs).length:=by rw[jN];omega
  rw[hi',List.take_length]
theorem eO(xs:List (List UInt8))(hx:xs.length<=1073741824)(n:Nat):aH prog 277 [.c (.d (.sl (xs.map encS)))] (.agg [.d (.s []),.d (.ol n (lx (aN xs) (n+1)))]):=fun S=>by
 refine aD (rs:=[.cell 2 54]) zmx func277 ntmps277 rfl rfl rfl rfl rfl ?_;refine W1 ?_;refine C1 (Cv xs hx n (n+1)) ?_;exact C3 (l6 _)
theorem Ip:∀N:Nat,(∀x:ak,SizeOf.sizeOf x<N->∀n:Nat,formed x=true->x.sz<=4194304->aH prog 142 [x.v] (.agg [.d (.s (cK x).aO),.d (.ol n (lx (cK x).ah (n+1)))]))/\
 (∀xs:List ak,SizeOf.sizeOf xs<N->∀n q:Nat,jk xs=true->xs.length<=4194304->(∀t∈xs,t.sz<=4194304)->aH prog 203 [.c (.d (.sl (xs.map ak.enc)))] (.c (.d (.ol n (lx (xs.map cK) q)))))
 |0=>⟨fun x h=>by omega,fun x h=>by omega⟩
 |N+1=>by
  obtain⟨ih,qQ⟩:=Ip N;refine⟨fun x hn n hf hsz=> ?_,fun xs hn n q hf hlen hsz=> ?_⟩
  ·have jX:=ak.gP x;have hts:=ER hsz;have hx:=aeK x;rw[y9,Bool.and_eq_true] at hf;have hfi:=gG hf.1
   have hall:∀t∈x.fArgs,t.sz<=4194304:=fun t ht=>by
    obtain⟨i,hi,e⟩:=List.getElem_of_mem ht;rw[<-e];exact(wV hi hsz).1
   intro S;refine vw (n) 1 (rs:=[.cell 2 54]) zmx func142 ntmps142 rfl rfl rfl rfl rfl ?_;refine W1 ?_;refine S0 (fun hb h=>?_) fun hb h=>?_
   ·rw[if_pos h] at hx;rw[hx];refine W3 ?_;refine C1 (dG _ n) ?_;rfl
   have k1:=h;rw[if_neg h] at hx;refine S0 (fun hb h=>?_) fun hb h=>?_
   ·rw[if_pos h] at hx;rw[hx];refine C1 (dG _ (n+1)) ?_;refine C1 (dG _ (n+1+1)) ?_;refine C1 (oF _ _) ?_;rfl
   have k4:=h;rw[if_neg h] at hx;refine S0 (fun hb h=>?_) fun hb h=>?_
   ·have hlen:x.fArgs.length=1:=by omega
    obtain⟨a,ha⟩:=List.length_eq_one_iff.1 hlen
    have ha0:x.fArgs[0]'(by omega)=a:=by simp[ha]
    rw[if_neg (by omega),if_pos h,ha] at hx;have hfa:formed a=true:=yw.1 hf.2 a (by rw[ha];simp);have hsa:a.sz<=4194304:=hall a (by rw[ha];simp)
    have hla:SizeOf.sizeOf a<N:=by
     have:=List.sizeOf_lt_of_mem (show a∈x.fArgs by rw[ha];simp);omega
    rw[hx];refine C1 (dG _ (n+1)) ?_;refine aZ (dG _ (n+1+1)) ?_;simp -implicitDefEqProofs (disch:=omega) only[go_sem,ha,List.getD_cons_zero];refine W3 ?_;refine C1 (ih a hla (n+1+1+1) hfa hsa) ?_;refine C1 (oF _ _) ?_;simp only[dW,dH,List.cons_append,List.nil_append,List.map_cons,List.map_nil,jT,nO,xg,j4,j6,kU,kV,iU]
   have k3:=h;refine S0 (fun hb h=>?_) fun hb h=>?_
   ·rw[if_pos ⟨by omega,by omega⟩] at hx;rw[hx];refine C1 (dG _ n) ?_;rfl
   rw[if_neg (by omega),if_neg k3] at hx;rw[hx];refine C1 (dG _ (n+1)) ?_;refine C1 (qQ x.fArgs (by omega) 0 (n+1+1) hf.2 hts.1 hall) ?_
   have hl:(lx (x.fArgs.map cK) (n+1+1)).length=x.fArgs.length:=by rw[iC,List.length_map]
   have hr:=lZ (l:=x.fArgs.map cK) (n:=n+1+1);refine W3 ?_;refine C1 (l6 _) ?_;simp only[dW,dH,List.cons_append,List.nil_append,jT,nO,xg,j4]
  ·have Dj:=fun(i:Nat) (hi:i<xs.length)=>Io (l:=xs.map cK) (i:=i) (by rw[List.length_map];exact hi) q;intro S;refine lN (n) (rs:=[.tmp 2]) zmx func203 ntmps203 rfl rfl rfl rfl rfl ?_;refine W1 ?_;refine W3 ?_;refine mU n 3 2 [] (.inl rfl) (by simp) ?_
   refine aU (ι:=Nat) zmx rfl [3,7,8,9] (fun i=>[.c (.bN (0,1) (lx ((xs.map cK).take i) q)),.c (.d (.sl (xs.map ak.enc))),.c (.d (.i .i64 xs.length)),.c (.d (.i .i64 i))]) (fun i=>[.seed n,.fu n 2 (lx ((xs.map cK).take i) q)]::S)
    (fun i=>i<=xs.length) (fun i=>xs.length-i) 0 rfl rfl (Nat.zero_le _) ?_
   intro i hi;refine W1 ?_;refine S0 (fun hb h=>?_) fun hb h=>?_
   ·have hi':i<xs.length:=by omega
    have hs:=Dj i hi';rw[List.getElem_map] at hs
    have hl:(lx ((xs.map cK).take i) q).length<=i:=by rw[iC];exact List.length_take_le _ _
    refine W3 ?_;refine C1 (ih xs[i] (by have:=List.sizeOf_lt_of_mem (List.getElem_mem hi');omega) (q+jB ((xs.map cK).take i)) (yw.1 hf _ (List.getElem_mem hi')) (hsz _ (List.getElem_mem hi'))) ?_;refine W3 ?_;rw[hs];exact bZ 2 (by decide) (i+1) (by omega) rfl rfl rfl rfl (by omega)
   ·have hi':i=(xs.map cK).length:=by rw[List.length_map];omega
    rw[hi',List.take_length]
theorem l7(x:ak)(n:Nat)(hf:formed x=true)(hsz:x.sz<=4194304):aH prog 142 [x.v] (.agg [.d (.s (cK x).aO),.d (.ol n (lx (cK x).ah (n+1)))]):=(Ip _).1 x (Nat.lt_succ_self _) n hf hsz
theorem Bt(xs:List ak)(n q:Nat)(hf:jk xs=true)(hlen:xs.length<=4194304)(hsz:∀t∈xs,t.sz<=4194304):aH prog 203 [.c (.d (.sl (xs.map ak.enc)))] (.c (.d (.ol n (lx (xs.map cK) q)))):=(Ip _).2 xs (Nat.lt_succ_self _) n q hf hlen hsz
theorem fJ(s:List UInt8):(bI s).enc=[.s s,.sl []]:=by rw[aj.aB];rfl
theorem kF(l:List aj):(bC l).enc=[.s [],.sl (l.map aj.enc)]:=by rw[aj.aB];rfl
theorem jO{base l:List aj}{i:Nat}(hi:i<l.length):(base++l.take i).map aj.enc++[[.s l[i].aO,.sl (l[i].ah.map aj.enc)]]=(base++l.take (i+1)).map aj.enc:=by
 rw[List.take_succ_eq_append_getElem hi,<-List.append_assoc,List.map_append (l₂:=[l[i]]),List.map_cons,List.map_nil,aj.aB]
theorem Gt(s:List UInt8)(es:List (List D)):Less (.agg [.d (.s s),.bG es]) (.agg [.d (.s s),.d (.sl es)]):=FI rfl fun j x y hx hy w σ S β v hv=>by
 match j,hx,hy with
 |0,hx,hy=>cases hx;cases hy;exact hv
 |1,hx,hy=>cases hx;cases hy;exact hv.1
 |j+2,hx,hy=>simp at hx
theorem Lm(x:aj)(n:Nat):Less (.agg [.d (.s x.aO),.d (.ol n (lx x.ah (n+1)))]) x.v:=by
 have h:=M6 (r:=x.enc) (n:=n);rw[j6,aj.u6] at h;exact h
theorem Xa(s:List UInt8):aH prog 119 [.c (.d (.s s))] (.agg [.d (.s s),.bG []]):=fun S=>by
 refine aD (rs:=[.cell 2 54]) zmx func119 ntmps119 rfl rfl rfl rfl rfl ?_;exact Z1
theorem bW(s:List UInt8):aH prog 119 [.c (.d (.s s))] (.agg [.d (.s s),.d (.sl [])]):=aH.less (Xa s) (Gt s [])
theorem om(es:List (List D))(hes:∀e∈es,e.length=2)(hl:es.length<=1073741824):aH prog 186 [.c (.d (.sl es))] (.agg [.d (.s []),.d (.sl es)]):=fun S=>by
 refine aD (rs:=[.cell 2 54]) zmx func186 ntmps186 rfl rfl rfl rfl rfl ?_;refine W1 ?_;exact⟨hes,⟨_,rfl,rfl⟩,(fun y hy=>by cases hy),hl⟩
theorem lQ(es:List (List D))(hes:∀e∈es,e.length=2)(hl:es.length<=1073741824)(bU:List Ab.Obj)(Ω:Store):dz prog 186 [.c (.d (.sl es))] (bU::Ω)
 (fun r S'=>r=.agg [.d (.s []),.bN (0,bU.length+1) es]/\S'=(bU++[.box [.d (.s []),.bN (0,bU.length+1) es],.tok 2 es])::Ω):=by
 refine Sq (rs:=[.cell 2 54]) zmx func186 ntmps186 rfl rfl rfl rfl rfl ?_;refine W1 ?_;exact⟨hes,⟨_,rfl,rfl⟩,(fun y hy=>by cases hy),hl⟩
theorem Ku(xs:List (List UInt8))(hx:xs.length<=1073741824):aH prog 123 [.c (.d (.sl (xs.map encS)))] (.c (.d (.sl ((aN xs).map aj.enc)))):=fun S=>by
 refine aD (rs:=[.tmp 2]) zmx func123 ntmps123 rfl rfl rfl rfl rfl ?_;refine W1 ?_;refine W3 ?_;refine nK 3 2 [] rfl (by simp) ?_
 refine aU (ι:=Nat) zmx rfl [0,3,4] (fun i=>[.c (.d (.sl (xs.map encS))),.c (.bN (0,0) (((aN xs).take i).map aj.enc)),.c (.d (.i .i64 i))]) (fun i=>[.tok 2 (((aN xs).take i).map aj.enc)]::S)
  (fun i=>i<=xs.length) (fun i=>xs.length-i) 0 rfl rfl (Nat.zero_le _) ?_
 intro i hi
 have hl:(((aN xs).take i).map aj.enc).length<=i:=by rw[List.length_map];exact List.length_take_le _ _
 refine W1 ?_;refine S0 (fun hb h=>?_) fun hb h=>?_
 ·have hi':i<xs.length:=by omega
  have hs:=jO (base:=[]) (l:=aN xs) (i:=i) (by rw[jN];exact hi')
  have hg:(aN xs)[i]'(by rw[jN];exact hi')=bI xs[i]:=by simp[aN]
  rw[hg] at hs;simp only[List.nil_append,kU,kV,List.map_nil] at hs;refine W3 ?_;refine C1 (bW xs[i]) ?_;refine W3 ?_;rw[hs];exact bJ (i+1) (by omega) rfl rfl (by omega)
 ·have hi':i=(aN xs).length:=by rw[jN];omega
  rw[hi',List.take_length]
theorem eF(xs:List (List UInt8))(hx:xs.length<=1073741824):aH prog 265 [.c (.d (.sl (xs.map encS)))] (.agg [.d (.s []),.d (.sl ((aN xs).map aj.enc))]):=fun S=>by
 refine aD (rs:=[.cell 2 54]) zmx func265 ntmps265 rfl rfl rfl rfl rfl ?_;refine W1 ?_;exact C3 (Ku xs hx)
theorem Py:∀N:Nat,(∀x:ak,SizeOf.sizeOf x<N->x.sz<=4194304->aH prog 122 [x.v] (.agg [.d (.s (cK x).aO),.d (.sl ((cK x).ah.map aj.enc))]))
 |0=>fun x h=>by omega
 |N+1=>by
  have ih:=Py N;intro x hn hsz;have jX:=ak.gP x;have hts:=ER hsz;have hx:=aeK x
  have hall:∀t∈x.fArgs,t.sz<=4194304:=fun t ht=>by
   obtain⟨i,hi,e⟩:=List.getElem_of_mem ht;rw[<-e];exact(wV hi hsz).1
  intro S;refine aD (rs:=[.cell 2 54]) zmx func122 ntmps122 rfl rfl rfl rfl rfl ?_;refine W1 ?_;refine S0 (fun hb h=>?_) fun hb h=>?_
  ·rw[if_pos h] at hx;rw[hx];refine W3 ?_;refine C1 (bW _) ?_;rfl
  rw[if_neg h] at hx;refine S0 (fun hb h=>?_) fun hb h=>?_
  ·rw[if_pos h] at hx;rw[hx];refine C1 (bW _) ?_;refine C1 (bW _) ?_;refine C1 (om _ (by simp) (by simp)) ?_;simp only[dW,dH,List.map_cons,List.map_nil,fJ,Hw]
  rw[if_neg h] at hx
  have aq7:x.aJ=2->x.fArgs.length=0->cK x=bI x.fName:=fun a b=>by rw[hx,if_pos ⟨a,b⟩]
  have aiS:¬(x.aJ=2/\x.fArgs.length=0)->cK x=bC ((if x.aJ=3 then [bI iU] else [])++[bI x.fName]++x.fArgs.map cK):=fun a=>by rw[hx,if_neg a]
  clear hx
  repeat' (first|(refine S0 (fun hb h=>?_) fun hb h=>?_))
  ·rw[aq7 (by omega) (by omega)];refine C1 (bW _) ?_;rfl
  ·exfalso;omega
  ·have hx:=aiS (by omega);rw[if_neg h,List.nil_append] at hx;refine C1 (bW _) ?_;refine W3 ?_
   refine aU (ι:=Nat) zmx rfl [1,2,3,4] (fun i=>[.c (.ptr (0,0) 0),.c (.ptr (0,1) 0),.c (.ptr (0,2) 0),.c (.d (.i .i64 i))])
    (fun i=>[.box [.d (.i .i64 x.aJ),.d (.s x.fName),.d (.sl (x.fArgs.map ak.enc))],.box [.d (.s []),.bG []],.box [.d (.s []),.bN (0,3) (([bI x.fName]++(x.fArgs.map cK).take i).map aj.enc)],.tok 2 (([bI x.fName]++(x.fArgs.map cK).take i).map aj.enc)]::S)
    (fun i=>i<=x.fArgs.length) (fun i=>x.fArgs.length-i) 0 rfl ?_ (Nat.zero_le _) ?_
   ·simp only[List.take_zero,List.append_nil,List.map_cons,List.map_nil,List.cons_append,List.nil_append,fJ]<;>(try rfl)
   intro i hi
   have hl:(([bI x.fName]++(x.fArgs.map cK).take i).map aj.enc).length<=i+2:=by
    rw[List.length_map,List.length_append];have:=List.length_take_le i (x.fArgs.map cK);simp only[List.length_cons,List.length_nil];omega
   have hs:=fun hi=>jO (base:=[bI x.fName]) (l:=x.fArgs.map cK) (i:=i) hi;have hrw:=gV (l:=[bI x.fName]++(x.fArgs.map cK).take i);generalize hR:([bI x.fName]++(x.fArgs.map cK).take i).map aj.enc=R at hl hs hrw;refine W1 ?_;refine S0 (fun hb h=>?_) fun hb h=>?_
   ·have hi':i<x.fArgs.length:=by omega
    have hs':=hs (by rw[List.length_map];exact hi');rw[List.getElem_map] at hs';refine W3 ?_;refine C1 (ih x.fArgs[i] (by have:=List.sizeOf_lt_of_mem (List.getElem_mem hi');omega) (hall _ (List.getElem_mem hi'))) ?_;refine W3 ?_;rw[hs'];exact bJ (i+1) (by omega) rfl rfl (by omega)
   ·have hi':i=(x.fArgs.map cK).length:=by rw[List.length_map];omega
    rw[hx,<-hR,hi',List.take_length];simp only[dW,dH,List.cons_append,List.nil_append]
  ·have hx:=aiS (by omega);rw[if_pos h] at hx;refine C1 (bW _) ?_;refine W3 ?_;refine C1 (bW _) ?_;refine W3 ?_
   refine aU (ι:=Nat) zmx rfl [1,2,3,4] (fun i=>[.c (.ptr (0,0) 0),.c (.ptr (0,1) 0),.c (.ptr (0,2) 0),.c (.d (.i .i64 i))])
    (fun i=>[.box [.d (.i .i64 x.aJ),.d (.s x.fName),.d (.sl (x.fArgs.map ak.enc))],.box [.d (.s []),.bG []],.box [.d (.s []),.bN (0,3) (([bI iU,bI x.fName]++(x.fArgs.map cK).take i).map aj.enc)],.tok 2 (([bI iU,bI x.fName]++(x.fArgs.map cK).take i).map aj.enc)]::S)
    (fun i=>i<=x.fArgs.length) (fun i=>x.fArgs.length-i) 0 rfl ?_ (Nat.zero_le _) ?_
   ·simp only[List.take_zero,List.append_nil,List.map_cons,List.map_nil,List.cons_append,List.nil_append,fJ]<;>(try rfl)
   intro i hi
   have hl:(([bI iU,bI x.fName]++(x.fArgs.map cK).take i).map aj.enc).length<=i+2:=by
    rw[List.length_map,List.length_append];have:=List.length_take_le i (x.fArgs.map cK);simp only[List.length_cons,List.length_nil];omega
   have hs:=fun hi=>jO (base:=[bI iU,bI x.fName]) (l:=x.fArgs.map cK) (i:=i) hi;have hrw:=gV (l:=[bI iU,bI x.fName]++(x.fArgs.map cK).take i);generalize hR:([bI iU,bI x.fName]++(x.fArgs.map cK).take i).map aj.enc=R at hl hs hrw;refine W1 ?_;refine S0 (fun hb h=>?_) fun hb h=>?_
   ·have hi':i<x.fArgs.length:=by omega
    have hs':=hs (by rw[List.length_map];exact hi');rw[List.getElem_map] at hs';refine W3 ?_;refine C1 (ih x.fArgs[i] (by have:=List.sizeOf_lt_of_mem (List.getElem_mem hi');omega) (hall _ (List.getElem_mem hi'))) ?_;refine W3 ?_;rw[hs'];exact bJ (i+1) (by omega) rfl rfl (by omega)
   ·have hi':i=(x.fArgs.map cK).length:=by rw[List.length_map];omega
    rw[hx,<-hR,hi',List.take_length];simp only[dW,dH,List.cons_append,List.nil_append]
  ·have hx:=aiS (by omega);rw[if_neg h,List.nil_append] at hx;refine C1 (bW _) ?_;refine W3 ?_
   refine aU (ι:=Nat) zmx rfl [1,2,3,4] (fun i=>[.c (.ptr (0,0) 0),.c (.ptr (0,1) 0),.c (.ptr (0,2) 0),.c (.d (.i .i64 i))])
    (fun i=>[.box [.d (.i .i64 x.aJ),.d (.s x.fName),.d (.sl (x.fArgs.map ak.enc))],.box [.d (.s []),.bG []],.box [.d (.s []),.bN (0,3) (([bI x.fName]++(x.fArgs.map cK).take i).map aj.enc)],.tok 2 (([bI x.fName]++(x.fArgs.map cK).take i).map aj.enc)]::S)
    (fun i=>i<=x.fArgs.length) (fun i=>x.fArgs.length-i) 0 rfl ?_ (Nat.zero_le _) ?_
   ·simp only[List.take_zero,List.append_nil,List.map_cons,List.map_nil,List.cons_append,List.nil_append,fJ]<;>(try rfl)
   intro i hi
   have hl:(([bI x.fName]++(x.fArgs.map cK).take i).map aj.enc).length<=i+2:=by
    rw[List.length_map,List.length_append];have:=List.length_take_le i (x.fArgs.map cK);simp only[List.length_cons,List.length_nil];omega
   have hs:=fun hi=>jO (base:=[bI x.fName]) (l:=x.fArgs.map cK) (i:=i) hi;have hrw:=gV (l:=[bI x.fName]++(x.fArgs.map cK).take i);generalize hR:([bI x.fName]++(x.fArgs.map cK).take i).map aj.enc=R at hl hs hrw;refine W1 ?_;refine S0 (fun hb h=>?_) fun hb h=>?_
   ·have hi':i<x.fArgs.length:=by omega
    have hs':=hs (by rw[List.length_map];exact hi');rw[List.getElem_map] at hs';refine W3 ?_;refine C1 (ih x.fArgs[i] (by have:=List.sizeOf_lt_of_mem (List.getElem_mem hi');omega) (hall _ (List.getElem_mem hi'))) ?_;refine W3 ?_;rw[hs'];exact bJ (i+1) (by omega) rfl rfl (by omega)
   ·have hi':i=(x.fArgs.map cK).length:=by rw[List.length_map];omega
    rw[hx,<-hR,hi',List.take_length];simp only[dW,dH,List.cons_append,List.nil_append]
theorem mP(x:ak)(hsz:x.sz<=4194304):aH prog 122 [x.v] (.agg [.d (.s (cK x).aO),.d (.sl ((cK x).ah.map aj.enc))]):=Py _ x (Nat.lt_succ_self _) hsz
theorem Dk(xs:List ak)(hlen:xs.length<=4194304)(hsz:∀t∈xs,t.sz<=4194304):aH prog 266 [.c (.d (.sl (xs.map ak.enc)))] (.c (.d (.sl ((xs.map cK).map aj.enc)))):=fun S=>by
 refine aD (rs:=[.tmp 2]) zmx func266 ntmps266 rfl rfl rfl rfl rfl ?_;refine W1 ?_;refine W3 ?_;refine nK 3 2 [] rfl (by simp) ?_
 refine aU (ι:=Nat) zmx rfl [0,3,4] (fun i=>[.c (.d (.sl (xs.map ak.enc))),.c (.bN (0,0) (((xs.map cK).take i).map aj.enc)),.c (.d (.i .i64 i))]) (fun i=>[.tok 2 (((xs.map cK).take i).map aj.enc)]::S)
  (fun i=>i<=xs.length) (fun i=>xs.length-i) 0 rfl rfl (Nat.zero_le _) ?_
 intro i hi
 have hl:(((xs.map cK).take i).map aj.enc).length<=i:=by rw[List.length_map];exact List.length_take_le _ _
 refine W1 ?_;refine S0 (fun hb h=>?_) fun hb h=>?_
 ·have hi':i<xs.length:=by omega
  have hs:=jO (base:=[]) (l:=xs.map cK) (i:=i) (by rw[List.length_map];exact hi');rw[List.getElem_map] at hs;simp only[List.nil_append] at hs;refine W3 ?_;refine C1 (mP xs[i] (hsz _ (List.getElem_mem hi'))) ?_;refine W3 ?_;rw[hs];exact bJ (i+1) (by omega) rfl rfl (by omega)
 ·have hi':i=(xs.map cK).length:=by rw[List.length_map];omega
  rw[hi',List.take_length]
theorem tJ(b:Bool)(x:aj)(hsz:x.sz<=67108864):aH prog 267 [.c (.d (.b b)),x.v] (wS b x).v:=by
 have zero:aH prog 267 [.c (.d (.b b)),x.v] (.agg [.d (.s []),.bG []])->aH prog 267 [.c (.d (.b b)),x.v] cu.v:=fun h=>aH.less h (Gt [] [])
 cases b with
 |false=>
  refine zero fun S=> ?_;refine aD (rs:=[.cell 4 54]) zmx func267 ntmps267 rfl rfl rfl rfl rfl ?_;exact Z1
 |true=>
  show aH prog 267 [.c (.d (.b true)),x.v] (D9 x).v;unfold D9
  cases hv:fM x with
  |false=>
   refine zero fun S=> ?_;refine aD (rs:=[.cell 4 54]) zmx func267 ntmps267 rfl rfl rfl rfl rfl ?_;refine W1 ?_;refine aZ (oW x hsz) ?_;simp -implicitDefEqProofs (disch:=omega) only[go_sem,hv]
  |true=>
   intro S;refine aD (rs:=[.cell 4 54]) zmx func267 ntmps267 rfl rfl rfl rfl rfl ?_;refine W1 ?_;refine aZ (oW x hsz) ?_;simp -implicitDefEqProofs (disch:=omega) only[go_sem,hv]
theorem aP.bounds{x:aP}(h:x.sz<=4194304):x.fName.length<=4194304/\x.aG.length<=4194304/\x.aF.length<=4194304/\∀s∈x.aG,s.length<=4194304:=by
 simp only[aP.sz,aP.aB,bT,bL,D.sz,List.length_map] at h;refine⟨by omega,by omega,by omega,fun s hs=> ?_⟩;have:=tq hs;omega
theorem aP.UH{x:aP}{i:Nat}(hi:i<x.aF.length)(h:x.sz<=4194304):x.aF[i].sz<=4194304:=by
 have hx:x.aF[i].sz<=bn (x.aF.map aK.enc):=dD (List.mem_map_of_mem (List.getElem_mem hi));simp only[aP.sz,aP.aB,bT,bL,D.sz,List.length_map] at h;omega
theorem aK.bounds{x:aK}(h:x.sz<=4194304):x.fName.length<=4194304/\x.gu.length<=4194304/\∀t∈x.gu,t.sz<=4194304:=by
 simp only[aK.sz,aK.aB,bT,bL,D.sz,List.length_map] at h;refine⟨by omega,by omega,fun t ht=> ?_⟩;have hx:t.sz<=bn (x.gu.map ak.enc):=dD (List.mem_map_of_mem ht);omega
noncomputable def qL(vars:List (List UInt8))(c:aK):Bool:=dec (c.gu.length<=4)&&mG vars c.gu
noncomputable def mQ(d:aP):List (List UInt8):=d.aF.map aK.fName
noncomputable def fQ(d:aP):Bool:=
 validName d.fName&&(dec (d.aG.length<=3)&&(iP d.aG&&(dec (1<=d.aF.length)&&(dec (d.aF.length<=5)&&(d.aF.all (qL d.aG)&&iP (mQ d))))))
theorem El(d:aP)(hsz:d.sz<=4194304):aH prog 214 [d.v] (.c (.d (.b (fQ d)))):=fun S=>by
 have hb0:=aP.bounds hsz
 have bad:∀i,∀hi:i<d.aF.length,qL d.aG d.aF[i]=false->fQ d=false:=fun i hi h=>by
  have:d.aF.all (qL d.aG)=false:=Bool.eq_false_iff.2 fun hx=>by
   rw[List.all_eq_true.1 hx _ (List.getElem_mem hi)] at h;cases h
  unfold fQ
  rw[this];simp
 refine aD (rs:=[.tmp 2]) zmx func214 ntmps214 rfl rfl rfl rfl rfl ?_;refine W1 ?_;refine W3 ?_;refine nK 3 1 [] rfl (by simp) ?_
 refine aU (ι:=Nat×List (List UInt8)) zmx rfl [1,3,4] (fun y=>[.c (.ptr (0,0) 0),.c (.bN (0,1) (y.2.map encS)),.c (.d (.i .i64 y.1))]) (fun y=>[.box (d.enc.map .d),.tok 1 (y.2.map encS)]::S)
  (fun y=>y.1<=d.aF.length/\y.2=(mQ d).take y.1/\∀j,∀hj:j<d.aF.length,j<y.1->qL d.aG d.aF[j]=true) (fun y=>d.aF.length-y.1) (0,[]) rfl ?_ ⟨Nat.zero_le _,rfl,fun j _ h=>by simp only at h;omega⟩ ?_
 ·exact Z1
 rintro⟨i,names⟩ ⟨p1,p2,p3⟩;simp only at p1 p2 p3
 have pl:names.length<=d.aF.length:=by rw[p2];simp[mQ];omega
 refine W1 ?_;refine S0 (fun hb h=>?_) fun hb h=>?_
 ·have hi:i<d.aF.length:=by omega
  have hc:=aK.bounds (aP.UH hi hsz);refine W3 ?_;refine S0 (fun hb h=>?_) fun hb h=>?_
  ·rw[bad i hi (by unfold qL;rw[aA (by omega)];rfl)]
  have h1:=h;refine W3 ?_;refine C2 (Sm d.aF[i].gu d.aG (by omega) hc.2.2 (by omega)) ?_;refine S0 (fun hb h=>?_) fun hb h=>?_
  ·rw[bad i hi (by unfold qL;rw[h];simp)]
  have h2:=h;refine W3 ?_;rw[show List.map encS names++[[D.s d.aF[i].fName]]=List.map encS (names++[d.aF[i].fName]) by simp[encS]]
  exact bJ (i+1,names++[d.aF[i].fName]) (by simp only;omega) rfl rfl ⟨by simp only;omega,by simp only;rw[p2,iV (by simpa [mQ] using hi)];simp[mQ],fun j hj hji=>by
   simp only at hji;by_cases e:j=i
   ·subst e;unfold qL;rw[h2,aY (by omega)];rfl
   ·exact p3 j hj (by omega)⟩
 have hi:i=d.aF.length:=by omega
 have hn:names=mQ d:=by rw[p2,List.take_of_length_le (by simp[mQ];omega)]
 have hall:d.aF.all (qL d.aG)=true:=List.all_eq_true.2 fun c hc=>by
  obtain⟨j,hj,e⟩:=List.getElem_of_mem hc;rw[<-e];exact p3 j hj (by omega)
 have hnl:∀s∈names,s.length<=4194304:=fun s hs=>by
  rw[hn] at hs;obtain⟨c,hc,e⟩:=List.mem_map.1 hs;obtain⟨j,hj,e'⟩:=List.getElem_of_mem hc;rw[<-e,<-e'];exact(aK.bounds (aP.UH hj hsz)).1
 have hlen:names.length=d.aF.length:=by rw[hn];simp[mQ]
 refine C2 (iJ d.fName (by omega)) ?_;refine S0 (fun hb h=>?_) fun hb h=>?_
 ·have h1:=h;refine C2 (ng d.aG 3 (by omega) hb0.2.2.2) ?_;refine S0 (fun hb h=>?_) fun hb h=>?_
  ·have h2:=h;refine S0 (fun hb h=>?_) fun hb h=>?_
   ·have h3:=h;refine C2 (ng names 5 (by omega) hnl) ?_;refine ay ?_;rw[Bool.and_eq_true] at h2;have h4:=gG h2.1;unfold fQ;rw[h1,h2.2,hall,<-hn,aY (show d.aG.length<=3 by omega),aY (show 1<=d.aF.length by omega),hlen];simp only[Bool.true_and];congr 1;exact iB ⟨fun h=>by omega,fun h=>by omega⟩
   ·refine ay ?_;unfold fQ
    rw[aA (show ¬1<=d.aF.length by omega)];simp
  ·refine ay ?_;unfold fQ
   have h2:(dec (d.aG.length<=3)&&iP d.aG)=false:=by
    rw[<-h];congr 1;exact iB ⟨fun h=>by omega,fun h=>by omega⟩
   rw[<-Bool.and_assoc (dec (d.aG.length<=3)),h2];simp
 ·exact ay (by unfold fQ;rw[h];rfl)
theorem Em(d:aP)(hsz:d.sz<=4194304):aH prog 162 [d.v] (.c (.d (.b (fQ d)))):=fun S=>by
 have hb0:=aP.bounds hsz
 have bad:∀i,∀hi:i<d.aF.length,qL d.aG d.aF[i]=false->fQ d=false:=fun i hi h=>by
  have:d.aF.all (qL d.aG)=false:=Bool.eq_false_iff.2 fun hx=>by
   rw[List.all_eq_true.1 hx _ (List.getElem_mem hi)] at h;cases h
  unfold fQ
  rw[this];simp
 refine aD (rs:=[.tmp 2]) zmx func162 ntmps162 rfl rfl rfl rfl rfl ?_;refine W1 ?_;refine C2 (iI d.fName (by omega)) ?_;refine S0 (fun hb h=>?_) fun hb h=>?_
 ·exact ay (by unfold fQ;rw[h];rfl)
 have h1:=h;refine S0 (fun hb h=>?_) fun hb h=>?_
 ·exact ay (by unfold fQ;rw[aA (show ¬d.aG.length<=3 by omega)];simp)
 have h2:=h;refine C2 (qm d.aG (by omega) hb0.2.2.2) ?_;refine S0 (fun hb h=>?_) fun hb h=>?_
 ·exact ay (by unfold fQ;rw[h];simp)
 have h3:=h;refine S0 (fun hb h=>?_) fun hb h=>?_
 ·exact ay (by unfold fQ;rw[aA (show ¬1<=d.aF.length by omega)];simp)
 have h4:=h;refine S0 (fun hb h=>?_) fun hb h=>?_
 ·exact ay (by unfold fQ;rw[aA (show ¬d.aF.length<=5 by omega)];simp)
 have h5:=h;refine W3 ?_;refine nK 3 1 [] rfl (by simp) ?_
 refine aU (ι:=Nat×List (List UInt8)) zmx rfl [1,3,36,37,38] (fun y=>[.c (.ptr (0,0) 0),.c (.bN (0,1) (y.2.map encS)),.c (.d (.sl (d.aF.map aK.enc))),.c (.d (.i .i64 d.aF.length)),.c (.d (.i .i64 y.1))]) (fun y=>[.box (d.enc.map .d),.tok 1 (y.2.map encS)]::S)
  (fun y=>y.1<=d.aF.length/\y.2=(mQ d).take y.1/\∀j,∀hj:j<d.aF.length,j<y.1->qL d.aG d.aF[j]=true) (fun y=>d.aF.length-y.1) (0,[]) rfl ?_ ⟨Nat.zero_le _,rfl,fun j _ h=>by simp only at h;omega⟩ ?_
 ·exact Z1
 rintro⟨i,names⟩ ⟨p1,p2,p3⟩;simp only at p1 p2 p3
 have pl:names.length<=d.aF.length:=by rw[p2];simp[mQ];omega
 refine W1 ?_;refine S0 (fun hb h=>?_) fun hb h=>?_
 ·have hi:i<d.aF.length:=by omega
  have hc:=aK.bounds (aP.UH hi hsz);refine W3 ?_;refine S0 (fun hb h=>?_) fun hb h=>?_
  ·rw[bad i hi (by unfold qL;rw[aA (by omega)];rfl)]
  have k1:=h;refine W3 ?_;refine C2 (zU d.aF[i].gu d.aG (by omega) hc.2.2 (by omega)) ?_;refine S0 (fun hb h=>?_) fun hb h=>?_
  ·rw[bad i hi (by unfold qL;rw[h];simp)]
  have k2:=h;refine W3 ?_;rw[show List.map encS names++[[D.s d.aF[i].fName]]=List.map encS (names++[d.aF[i].fName]) by simp[encS]]
  exact bZ 2 (by decide) (i+1,names++[d.aF[i].fName]) (by simp only;omega) rfl rfl rfl rfl ⟨by simp only;omega,by simp only;rw[p2,iV (by simpa [mQ] using hi)];simp[mQ],fun j hj hji=>by
   simp only at hji;by_cases e:j=i
   ·subst e;unfold qL;rw[k2,aY (by omega)];rfl
   ·exact p3 j hj (by omega)⟩
 have hi:i=d.aF.length:=by omega
 have hn:names=mQ d:=by rw[p2,List.take_of_length_le (by simp[mQ];omega)]
 have hall:d.aF.all (qL d.aG)=true:=List.all_eq_true.2 fun c hc=>by
  obtain⟨j,hj,e⟩:=List.getElem_of_mem hc;rw[<-e];exact p3 j hj (by omega)
 have hnl:∀s∈names,s.length<=4194304:=fun s hs=>by
  rw[hn] at hs;obtain⟨c,hc,e⟩:=List.mem_map.1 hs;obtain⟨j,hj,e'⟩:=List.getElem_of_mem hc;rw[<-e,<-e'];exact(aK.bounds (aP.UH hj hsz)).1
 refine C2 (qm names (by omega) hnl) ?_;exact ay (by unfold fQ;rw[h1,h3,hall,<-hn,aY (show d.aG.length<=3 by omega),aY (show 1<=d.aF.length by omega),aY (show d.aF.length<=5 by omega)];simp)
def oG:List UInt8:=[100,97,116,97]
def BZ(c:aK):aj:=bC ([bI c.fName]++c.gu.map cK)
def baseD(d:aP):List aj:=[bI oG,bI d.fName,bC (aN d.aG)]
def En(d:aP):aj:=bC (baseD d++d.aF.map BZ)
noncomputable def Xb(d:aP):aj:=wS (fQ d) (En d)
theorem alu{d:aP}(h:d.sz<=1048576):(Xb d).sz<=1048576:=Nat.le_trans (Lc _ _) (by decide)
def Mv:List aK->Nat
 |[]=>0
 |x::xs=>x.sz+Mv xs
theorem M9:∀l,bn (l.map aK.enc)=Mv l
 |[]=>rfl
 |x::xs=>by rw[List.map_cons,bn,Mv,M9 xs];rfl
theorem EX(x:aK):x.sz=x.fName.length+(x.gu.length+uQ x.gu):=by
 rw[<-Az];simp only[aK.sz,aK.aB,bT,D.sz,List.length_map];omega
theorem Dl(x:aP):x.sz=x.fName.length+(x.aG.length+(x.aG.map List.length).sum)+(x.aF.length+Mv x.aF):=by
 rw[<-M9,<-dK];simp only[aP.sz,aP.aB,bT,D.sz,List.length_map];omega
theorem anv(c:aK):(BZ c).sz<=1+16*c.sz:=by
 have:=Oz c.gu;rw[BZ,jF,jP,List.length_append,List.length_map,EX];simp[dA,jR];omega
theorem Z9:∀l:List aK,dA (l.map BZ)<=l.length+16*Mv l
 |[]=>by simp[dA]
 |c::l=>by
  have h1:=anv c;have h2:=Z9 l;rw[List.map_cons,dA,Mv,List.length_cons];omega
theorem afq(d:aP):(En d).sz<=7+16*d.sz:=by
 have:=Z9 d.aF;rw[En,jF,jP,List.length_append,List.length_map,Dl];simp[baseD,dA,jR,jF,jN,sW,oG];omega
theorem afr(n:Nat)(a b:List UInt8)(w:List (List UInt8)):lx [bI a,bI b,bC (aN w)] (n+1)=[[.s a,.ol (n+1) []],[.s b,.ol (n+1+1) []],[.s [],.ol (n+1+1+1) (lx (aN w) (n+1+1+1+1))]]:=by
 simp only[jT,nO,j6,kU,kV,dW,dH,j4]
theorem yR{vars:List (List UInt8)}{ts:List ak}(h:mG vars ts=true):jk ts=true:=yw.2 fun t ht=>by
 have:=List.all_eq_true.1 h t ht;unfold iq at this;rw[Bool.and_eq_true] at this;exact wQ this.1
theorem Gu{d:aP}(h:fQ d=true):∀c∈d.aF,jk c.gu=true:=fun c hc=>by
 have h1:d.aF.all (qL d.aG)=true:=by
  unfold fQ at h;simp only[Bool.and_eq_true] at h;simp_all
 have h2:=List.all_eq_true.1 h1 c hc;unfold qL at h2;rw[Bool.and_eq_true] at h2;exact yR h2.2
theorem SK{l:List ak}{t:ak}(h:t∈l):t.sz<=uQ l:=by
 rw[<-Az];exact dD (List.mem_map_of_mem h)
theorem Pz{l:List aK}{t:aK}(h:t∈l):t.sz<=Mv l:=by
 rw[<-M9];exact dD (List.mem_map_of_mem h)
theorem PD(d:aP)(n:Nat)(hv:fQ d=true)(hsz:d.sz<=1048576):aH prog 220 [d.v] (.agg [.d (.s []),.d (.ol n (lx (En d).ah (n+1)))]):=fun S=>by
 have hdz:=Dl d;have hfo:=Gu hv
 have hlen:d.aF.length<=1048576:=by omega
 obtain⟨L,hL⟩:∃L:Nat->Nat,L=fun i=>n+1+jB (baseD d++(d.aF.map BZ).take i):=⟨_,rfl⟩;obtain⟨T,hT⟩:∃T:Nat->List (List D),T=fun i=>lx (baseD d++(d.aF.map BZ).take i) (n+1):=⟨_,rfl⟩
 have hT0:T 0=[[.s oG,.ol (n+1) []],[.s d.fName,.ol (n+1+1) []],[.s [],.ol (n+1+1+1) (lx (aN d.aG) (n+1+1+1+1))]]:=by
  rw[hT];simp only[List.take_zero,List.append_nil];exact afr _ _ _ _
 have iG:∀i,(T i).length<=i+3:=fun i=>by
  rw[hT];simp only[iC,List.length_append];have:=List.length_take_le i (d.aF.map BZ);simp[baseD];omega
 have hTs:∀i (hi:i<d.aF.length),T i++[[.s [],.ol (L i) (lx ([bI d.aF[i].fName]++d.aF[i].gu.map cK) (L i+1))]]=T (i+1):=fun i hi=>by
  have:=AJ (base:=baseD d) (l:=d.aF.map BZ) (i:=i) (by rw[List.length_map];exact hi) (n+1);rw[List.getElem_map] at this;rw[hT,hL];exact this
 have hTr:∀i,∀r∈T i,r.length=2:=fun i=>by rw[hT];exact lZ
 have hTe:T d.aF.length=lx (En d).ah (n+1):=by
  rw[hT];simp only
  rw[List.take_of_length_le (by simp)];rfl
 clear hT hL;refine vw (n) 1 (rs:=[.cell 2 54]) zmx func220 ntmps220 rfl rfl rfl rfl rfl ?_;refine W1 ?_;refine C1 (dG _ (n+1)) ?_;refine C1 (dG _ (n+1+1)) ?_;refine C1 (eO d.aG (by omega) (n+1+1+1)) ?_;refine W3 ?_;refine mU n 3 2 (T 0) (.inl ?_) (hTr 0) ?_
 ·rw[hT0];rfl
 refine rT (L 0) ?_
 refine aU (ι:=Nat) zmx rfl [2,3,15,16,17] (fun i=>[.c (.ptr (0,3) 0),.c (.bN (0,4) (T i)),.c (.d (.sl (d.aF.map aK.enc))),.c (.d (.i .i64 d.aF.length)),.c (.d (.i .i64 i))])
  (fun i=>[.seed (L i),.seed 1,.box [.d (.s d.fName),.d (.sl (d.aG.map encS)),.d (.sl (d.aF.map aK.enc))],.box [.d (.s []),.bG []],.fu n 2 (T i)]::S)
  (fun i=>i<=d.aF.length) (fun i=>d.aF.length-i) 0 rfl rfl (Nat.zero_le _) ?_
 intro i hi;have hl:=iG i;refine W1 ?_;refine S0 (fun hb h=>?_) fun hb h=>?_
 ·have hi':i<d.aF.length:=by omega
  have hm:=List.getElem_mem hi';have hcz:=Pz hm;have hce:=EX d.aF[i];have hs:=hTs i hi';refine W3 ?_;refine C1 (dG _ (L i+1)) ?_;refine C1 (Bt d.aF[i].gu 0 (L i+1+1) (hfo _ hm) (by omega) (fun t ht=>by have:=SK ht;omega)) ?_;have hr:=lZ (l:=d.aF[i].gu.map cK) (n:=L i+1+1)
  have hl2:(lx (d.aF[i].gu.map cK) (L i+1+1)).length=d.aF[i].gu.length:=by rw[iC,List.length_map]
  refine W3 ?_;refine C1 (l6 _) ?_;refine W3 ?_;simp only[List.cons_append,List.nil_append,jT,xg,j4] at hs;rw[hs];refine tX (L (i+1)) 4 (by decide) (i+1) (by omega) rfl rfl ?_ rfl (by omega);simp[kT,jd,V.refs,C.refs,nZ]
 ·have hi':i=d.aF.length:=by omega
  refine bg rfl (kE 0 4 _ _) ?_;refine W1 ?_;rw[hi',hTe]
theorem Y8(d:aP)(hsz:d.sz<=1048576):aH prog 208 [d.v] (Xb d).v:=fun S=>by
 have hz:=afq d;have hdz:=Dl d;obtain⟨T,hT⟩:∃T:Nat->List (List D),T=fun i=>(baseD d++(d.aF.map BZ).take i).map aj.enc:=⟨_,rfl⟩
 have hT0:T 0=[[.s oG,.sl []],[.s d.fName,.sl []],[.s [],.sl ((aN d.aG).map aj.enc)]]:=by
  rw[hT];simp only[List.take_zero,List.append_nil,baseD,List.map_cons,List.map_nil,fJ,kF]
 have iG:∀i,(T i).length<=i+3:=fun i=>by
  rw[hT];simp only[List.length_map,List.length_append];have:=List.length_take_le i (d.aF.map BZ);simp[baseD];omega
 have hTs:∀i (hi:i<d.aF.length),T i++[[.s [],.sl (([bI d.aF[i].fName]++d.aF[i].gu.map cK).map aj.enc)]]=T (i+1):=fun i hi=>by
  have:=jO (base:=baseD d) (l:=d.aF.map BZ) (i:=i) (by rw[List.length_map];exact hi);rw[List.getElem_map] at this;rw[hT];exact this
 have hTr:∀i,∀r∈T i,r.length=2:=fun i=>by rw[hT];exact gV
 have hTe:T d.aF.length=(En d).ah.map aj.enc:=by
  rw[hT];simp only
  rw[List.take_of_length_le (by simp)];rfl
 clear hT;refine aD (rs:=[.cell 2 54]) zmx func208 ntmps208 rfl rfl rfl rfl rfl ?_;refine W1 ?_;refine C1 (bW _) ?_;refine C1 (bW _) ?_;refine C1 (eF d.aG (by omega)) ?_;have hE:=fun bU Ω=>lQ (T 0) (hTr 0) (by have:=iG 0;omega) bU Ω;simp only[hT0] at hE;refine qz [false] rfl (hE _ _) ?_;refine W1 ?_
 refine aU (ι:=Nat) zmx rfl [1,2,3,4] (fun i=>[.c (.ptr (0,0) 0),.c (.ptr (0,1) 0),.c (.ptr (0,4) 0),.c (.d (.i .i64 i))])
  (fun i=>[.box [.d (.s d.fName),.d (.sl (d.aG.map encS)),.d (.sl (d.aF.map aK.enc))],.box [.d (.s []),.bG []],.box [.d (.s []),.bN (0,3) (T 0)],.tok 2 (T i),.box [.d (.s []),.bN (0,3) (T i)]]::S)
  (fun i=>i<=d.aF.length) (fun i=>d.aF.length-i) 0 rfl (by simp only[hT0]<;>(try rfl)) (Nat.zero_le _) ?_
 intro i hi;have hl:=iG i;refine W1 ?_;refine S0 (fun hb h=>?_) fun hb h=>?_
 ·have hi':i<d.aF.length:=by omega
  have hm:=List.getElem_mem hi';have hcz:=Pz hm;have hce:=EX d.aF[i];have hs:=hTs i hi';refine W3 ?_;refine C1 (bW _) ?_;refine W3 ?_;refine C1 (Dk d.aF[i].gu (by omega) (fun t ht=>by have:=SK ht;omega)) ?_;have hr:=gV (l:=d.aF[i].gu.map cK)
  have hl2:((d.aF[i].gu.map cK).map aj.enc).length=d.aF[i].gu.length:=by rw[List.length_map,List.length_map]
  refine W3 ?_;simp only[List.cons_append,List.nil_append,List.map_cons,fJ] at hs;rw[hs];exact bZ 5 (by decide) (i+1) (by omega) rfl rfl rfl rfl (by omega)
 ·have hi':i=d.aF.length:=by omega
  subst hi';rw[hTe];refine C1 (El d (by omega)) ?_;refine C1 (tJ (fQ d) (En d) (by omega)) ?_;rfl
def dJ(l:List aj)(i:Nat):List UInt8:=(l.getD i cu).aO
theorem jH{l:List aj}{i:Nat}(h:i<l.length):dJ l i=l[i].aO:=by simp[dJ,List.getD,h]
theorem Gv{l:List aj}{i:Nat}(h:l.length<=i):dJ l i=[]:=by simp[dJ,List.getD,h];rfl
def eU(l:List aj):List (List UInt8):=if l.all (fun x=>decide (x.aO≠[]))=true then l.map aj.aO else []
theorem qM:∀{vs:List (List UInt8)},(∀v∈vs,v≠[])->eU (aN vs)=vs:=fun {vs} h=>by
 unfold eU aN;rw[if_pos (List.all_eq_true.2 fun x hx=> ?_),List.map_map]
 ·conv=>rhs;rw[<-List.map_id vs]
  rfl
 ·obtain⟨v,hv,rfl⟩:=List.mem_map.1 hx;exact decide_eq_true (h v hv)
theorem Xc:∀l:List aj,((l.map aj.aO).map List.length).sum<=dA l
 |[]=>by simp[dA]
 |x::l=>by
  have:=Xc l;rw[List.map_cons,List.map_cons,List.sum_cons,dA,jW];omega
theorem rU(l:List aj):(eU l).length<=l.length/\((eU l).map List.length).sum<=dA l:=by
 unfold eU;split
 ·refine⟨by simp,?_⟩;exact Xc l
 ·simp
mutual
def dO(b:Bool):aj->ak
 | .mk a l=>if a=[] then
    if l.length<2 then .mk 0 [] []
    else if dJ l 0=Hw/\(b=true\/l.length=2/\dJ l 1≠[]) then .mk 4 (dJ l 1) []
    else if dJ l 0=iU/\(b=true\/l.length=3/\dJ l 1≠[]) then .mk 3 (dJ l 1) ((rO b l).drop 2)
    else .mk 2 (dJ l 0) ((rO b l).drop 1)
   else if a.head? =some 39 then .mk 1 a.tail [] else .mk 2 a []
def rO(b:Bool):List aj->List ak
 |[]=>[]
 |x::xs=>dO b x::rO b xs
end
theorem zm(b:Bool):∀l,rO b l=l.map (dO b)
 |[]=>rfl
 |t::ts=>by rw[rO,List.map_cons,zm b ts]
theorem aac(b:Bool)(x:aj):dO b x=if x.aO=[] then
 if x.ah.length<2 then .mk 0 [] []
 else if dJ x.ah 0=Hw/\(b=true\/x.ah.length=2/\dJ x.ah 1≠[]) then .mk 4 (dJ x.ah 1) []
 else if dJ x.ah 0=iU/\(b=true\/x.ah.length=3/\dJ x.ah 1≠[]) then .mk 3 (dJ x.ah 1) ((x.ah.map (dO b)).drop 2)
 else .mk 2 (dJ x.ah 0) ((x.ah.map (dO b)).drop 1)
 else if x.aO.head? =some 39 then .mk 1 x.aO.tail [] else .mk 2 x.aO []:=by
 cases x;rw[dO,zm];rfl
theorem PE:∀a b,uQ (a++b)=uQ a+uQ b
 |[],b=>by simp[uQ]
 |x::a,b=>by rw[List.cons_append,uQ,uQ,PE a b];omega
theorem Xd(l:List ak)(i:Nat):uQ (l.drop i)<=uQ l:=by
 have:=PE (l.take i) (l.drop i);rw[List.take_append_drop] at this;omega
theorem Xe(l:List aj)(i:Nat):dA (l.drop i)<=dA l:=by
 have:=jP (l.take i) (l.drop i);rw[List.take_append_drop] at this;omega
theorem afs(l:List aj)(i:Nat):(dJ l i).length<=dA l:=by
 by_cases h:i<l.length
 ·rw[jH h];have h1:=iO (List.getElem_mem h);rw[jW] at h1;omega
 ·rw[Gv (by omega)];simp
mutual
theorem zn(b:Bool):∀x:aj,(dO b x).sz<=x.sz
 | .mk a l=>by
   have h1:=Iq b l;have h2:=Xd (rO b l) 2;have h3:=Xd (rO b l) 1;have h4:=afs l 0;have h5:=afs l 1
   have h6:(rO b l).length=l.length:=by rw[zm,List.length_map]
   rw[jW,mh];simp only[aj.aO,aj.ah];rw[dO];split
   ·split
    ·rw[wR];simp[ak.fName,ak.fArgs,uQ]
    ·split
     ·rw[wR];simp[ak.fName,ak.fArgs,uQ];omega
     ·have g0:=EY b l 0;have g1:=EY b l 1;simp only[Nat.zero_add,Nat.reduceAdd] at g0 g1;split
      ·rw[wR];simp only[ak.fName,ak.fArgs,List.length_drop,h6];omega
      ·rw[wR];simp only[ak.fName,ak.fArgs,List.length_drop,h6];omega
   ·split
    ·rw[wR];simp[ak.fName,ak.fArgs,uQ];omega
    ·rw[wR];simp[ak.fName,ak.fArgs,uQ]
theorem Iq(b:Bool):∀l:List aj,uQ (rO b l)<=dA l
 |[]=>by simp[rO,uQ]
 |x::xs=>by
  have h1:=zn b x;have h2:=Iq b xs;rw[rO,uQ,dA];omega
theorem EY(b:Bool):∀(l:List aj)(i:Nat),uQ ((rO b l).drop (i+1))+(dJ l i).length<=dA l
 |[],i=>by simp[rO,uQ,Gv]
 |x::xs,0=>by
  have h2:=Iq b xs;rw[rO,List.drop_succ_cons,List.drop_zero,dA,show dJ (x::xs) 0=x.aO from rfl,jW];omega
 |x::xs,i+1=>by
  have h2:=EY b xs i;rw[rO,List.drop_succ_cons,dA,show dJ (x::xs) (i+1)=dJ xs i from rfl];omega
end
theorem Gw{s:List UInt8}(h:validName s=true):s≠[]:=fun e=>by rw[e] at h;have:=gG h;simp at this
theorem aft{s:List UInt8}(h:validName s=true):s.head? ≠some 39:=fun e=>by
 have h1:=gG h;have h2:=h1.2.2 0 (by omega)
 cases s with
 |nil=>cases e
 |cons c s=>
  simp only[List.head?_cons,Option.some.injEq] at e;subst e;simp[lowerB,sV] at h2
theorem aiT{s:List UInt8}(h:validName s=true):s≠Hw/\s≠iU:=by
 have h1:=(gG h).2.1;refine⟨fun e=>h1 (by rw[e];simp[reserved,Hw]),fun e=>h1 (by rw[e];simp[reserved,iU])⟩
mutual
theorem xK(b:Bool):∀t:ak,formed t=true->dO b (cK t)=t
 | .mk k n zs=>fun hf=>by
   rw[formed,Bool.and_eq_true] at hf;have hfi:=gG hf.1;have hzs:=Na b zs hf.2;rw[cK];by_cases h1:k=1
   ·have hz:zs=[]:=by
     have:zs.length=0:=by omega
     exact List.eq_nil_of_length_eq_zero this
    rw[if_pos h1,bI,dO,if_neg (by simp),if_pos (by simp),hz,h1];rfl
   rw[if_neg h1];by_cases h4:k=4
   ·have hz:zs=[]:=by
     have:zs.length=0:=by omega
     exact List.eq_nil_of_length_eq_zero this
    have hn:validName n=true:=by
     rcases hfi with h|h|h
     ·exact h.2.1
     ·exact h.2.1
     ·omega
    rw[if_pos h4,bC,dO,if_pos rfl,if_neg (by simp),if_pos ⟨rfl,.inr ⟨rfl,Gw hn⟩⟩,hz,h4];rfl
   rw[if_neg h4];by_cases h2:k=2/\zs.length=0
   ·have hz:zs=[]:=List.eq_nil_of_length_eq_zero h2.2
    have hn:n≠[]/\n.head? ≠some 39:=by
     rcases hfi with h|h|h
     ·omega
     ·omega
     ·rcases h.2 with g|g
      ·exact⟨Gw g.1,aft g.1⟩
      ·rcases gG g.1 with e|e<;>rw[e]<;>simp
    rw[if_pos h2,bI,dO,if_neg hn.1,if_neg hn.2,hz,h2.1]
   rw[if_neg h2];by_cases h3:k=3
   ·have hz:zs.length=1/\validName n=true:=by
     rcases hfi with h|h|h
     ·omega
     ·exact⟨h.2.2,h.2.1⟩
     ·omega
    rw[if_pos h3,bC,dO,if_pos rfl,if_neg (by simp),if_neg (fun h=>by have:=h.1;simp[dJ,bI,aj.aO,Hw,iU] at this),if_pos ⟨rfl,.inr ⟨by rw[wP];simp[hz.1],Gw hz.2⟩⟩];show ak.mk 3 n (rO b (D7 zs))=_;rw[hzs,h3]
   ·have hn:validName n=true/\zs≠[]:=by
     rcases hfi with h|h|h
     ·omega
     ·omega
     ·rcases h.2 with g|g
      ·exact⟨g.1,fun e=>h2 ⟨h.1,by rw[e];rfl⟩⟩
      ·exact(h2 ⟨h.1,g.2⟩).elim
    have hk:k=2:=by
     rcases hfi with h|h|h
     ·omega
     ·omega
     ·exact h.1
    have hd:=aiT hn.1;rw[if_neg h3,bC,dO,if_pos rfl,if_neg (by rw[wP];cases zs with|nil=>exact(hn.2 rfl).elim|cons z zs=>simp),if_neg (fun h=>hd.1 h.1),if_neg (fun h=>hd.2 h.1)];show ak.mk 2 n (rO b (D7 zs))=_;rw[hzs,hk]
theorem Na(b:Bool):∀ts:List ak,jk ts=true->rO b (D7 ts)=ts
 |[],_=>rfl
 |t::ts,h=>by
  rw[jk,Bool.and_eq_true] at h;rw[D7,rO,xK b t h.1,Na b ts h.2]
end
theorem FJ(b:Bool){ts:List ak}(h:jk ts=true):(ts.map cK).map (dO b)=ts:=by
 have:=Na b ts h;rw[zm,wP] at this;exact this
def xk(b:Bool)(y:aj):aK:=⟨dJ y.ah 0,(y.ah.drop 1).map (dO b)⟩
def kJ(b:Bool)(x:aj):aP:=⟨dJ x.ah 1,eU (x.ah.getD 2 cu).ah,(x.ah.drop 3).map (xk b)⟩
theorem AL{vs:List (List UInt8)}(h:iP vs=true):∀v∈vs,v≠[]:=fun v hv=>by
 unfold iP at h;rw[Bool.and_eq_true] at h;exact Gw (List.all_eq_true.1 h.2 v hv)
theorem alv(b:Bool){c:aK}(h:jk c.gu=true):xk b (BZ c)=c:=by
 show aK.mk c.fName ((c.gu.map cK).map (dO b))=c;rw[FJ b h]
theorem Rb{d:aP}(h:fQ d=true):∀v∈d.aG,v≠[]:=by
 unfold fQ at h;simp only[Bool.and_eq_true] at h;exact AL (by simp_all)
theorem Rc(b:Bool){d:aP}(h:fQ d=true):kJ b (En d)=d:=by
 show aP.mk d.fName (eU (aN d.aG)) ((d.aF.map BZ).map (xk b))=d;rw[qM (Rb h),List.map_map,show d.aF.map (xk b∘BZ)=d.aF.map id from List.map_congr_left (fun c hc=>alv b (Gu h c hc)),List.map_id]
theorem aiU(d:aP):3<=(En d).ah.length/\dJ (En d).ah 0=oG:=⟨by rw[En,dH];simp[baseD],rfl⟩
noncomputable def okD(x:aj):Bool:=dec (fM x=true/\3<=x.ah.length/\dJ x.ah 0=oG/\fQ (kJ true x)=true/\En (kJ true x)=x)
noncomputable def rV(x:aj):aP:=if okD x=true then kJ true x else⟨[],[],[]⟩
theorem Ir:cu.sz=0:=by rw[jW];simp[cu,aj.aO,aj.ah,bn]
theorem Xf{b:Bool}{s x:aj}(h:wS b s=x)(hx:x.ah≠[]):b=true/\s=x/\fM x=true:=by
 cases b with
 |false=>rw[<-h] at hx;exact(hx rfl).elim
 |true=>
  rw[wS] at h;unfold D9 at h;split at h
  ·rename_i hv;exact⟨rfl,h,by rw[<-h];exact hv⟩
  ·rw[<-h] at hx;exact(hx rfl).elim
theorem aiV{x:aj}(hx:x.ah≠[]):okD x=(fM x&&dec (Xb (kJ false x)=x)):=by
 cases hv:fM x with
 |false=>exact aA fun h=>by rw[hv] at h;cases h.1
 |true=>
  rw[Bool.true_and];refine iB ⟨fun⟨_,h1,h2,h3,h4⟩=> ?_,fun h=> ?_⟩
  ·have e:kJ false x=kJ true x:=by conv=>lhs;rw[<-h4]
                                   exact Rc false h3
   rw[e,Xb,h3,h4,wS,D9,if_pos hv]
  ·obtain⟨h1,h2,_⟩:=Xf h hx
   have e:kJ true x=kJ false x:=by conv=>lhs;rw[<-h2]
                                   exact Rc true h1
   have:=aiU (kJ false x);rw[h2] at this;rw[e];exact⟨hv,this.1,this.2,h1,h2⟩
theorem aiW{x:aj}(h:okD x=true):kJ false x=kJ true x:=by
 have h1:=gG h
 conv=>lhs;rw[<-h1.2.2.2.2]
 exact Rc false h1.2.2.2.1
theorem alx(b:Bool)(y:aj):(xk b y).sz<=y.sz:=by
 have h:=EY b y.ah 0;rw[zm] at h;rw[EX,jW,mh];simp only[xk,List.length_map,List.length_drop,<-List.map_drop,Nat.zero_add] at h ⊢;omega
theorem Xg(b:Bool):∀l:List aj,Mv (l.map (xk b))<=dA l
 |[]=>by simp[Mv]
 |y::l=>by
  have h1:=alx b y;have h2:=Xg b l;rw[List.map_cons,Mv,dA];omega
theorem acI(l:List aj):(dJ l 1).length+((l.getD 2 cu).ah.length+dA (l.getD 2 cu).ah)+dA (l.drop 3)<=dA l:=by
 match l with
 |[]=>simp[dJ,dA,cu,aj.aO,aj.ah]
 |[x]=>simp[dJ,dA,cu,aj.aO,aj.ah]
 |[x,y]=>
  simp only[dA,jW y];simp[dJ,dA,cu,aj.aO,aj.ah];omega
 |x::y::z::l=>
  simp only[dA,jW y,jW z,mh];simp[dJ];omega
theorem Rf(b:Bool)(x:aj):(kJ b x).sz<=x.sz:=by
 have h1:=Xg b (x.ah.drop 3);have h2:=rU (x.ah.getD 2 cu).ah;have h3:=acI x.ah;rw[Dl,jW,mh];simp only[kJ,List.length_map,List.length_drop];omega
def Bu:List UInt8:=[116,114,117,101]
def zY:List UInt8:=[102,97,108,115,101]
def qw:List UInt8:=[99,97,108,108]
def jv:List UInt8:=[109,101,116,104,111,100]
def tY:List UInt8:=[110,101,119]
def lD:List UInt8:=[99,97,115,101]
def tZ:List UInt8:=[108,101,116]
def yA:List UInt8:=[105,102]
def qx:List UInt8:=[112,97,99,107]
def uM:List UInt8:=[116,104,101]
def jr(k:Int)(tr nm:List UInt8)(ty:ak):List aj:=
 if k=4 then aN [qw,nm] else if k=5 then aN [jv,tr,nm] else if k=6 then aN [tY,nm] else if k=8 then aN [tZ,nm] else
 if k=9 then aN [yA] else if k=10 then aN [nm] else if k=11 then aN [qx,tr] else if k=12 then [bI uM,cK ty] else aN [lD]
mutual
def fq:au->aj
 | .mk k tr nm n ty zs ms=>if k=1 then bI (Lib.itoa n) else if k=2 then bI (if n=1 then Bu else zY) else if k=3 then bI nm else
   bC (jr k tr nm ty++Cw zs++(if k=4\/k=5\/k=6\/k=8\/k=9\/k=10\/k=11\/k=12 then [] else Iu ms))
def Cw:List au->List aj
 |[]=>[]
 |t::ts=>fq t::Cw ts
def Ak:aT->aj
 | .mk c vs b=>bC ([bI c]++aN vs++[fq b])
def Iu:List aT->List aj
 |[]=>[]
 |t::ts=>Ak t::Iu ts
end
theorem Eo:∀l,Cw l=l.map fq
 |[]=>rfl
 |t::ts=>by rw[Cw,List.map_cons,Eo ts]
theorem Iw:∀l,Iu l=l.map Ak
 |[]=>rfl
 |t::ts=>by rw[Iu,List.map_cons,Iw ts]
theorem Kv(x:au):fq x=if x.aJ=1 then bI (Lib.itoa x.fN) else if x.aJ=2 then bI (if x.fN=1 then Bu else zY) else if x.aJ=3 then bI x.fName else
 bC (jr x.aJ x.bD x.fName x.fType++x.fArgs.map fq++(if x.aJ=4\/x.aJ=5\/x.aJ=6\/x.aJ=8\/x.aJ=9\/x.aJ=10\/x.aJ=11\/x.aJ=12 then [] else x.aR.map Ak)):=by
 cases x;rw[fq,Eo,Iw];rfl
theorem afu(x:aT):Ak x=bC ([bI x.dN]++aN x.aG++[fq x.fBody]):=by cases x;rw[Ak];rfl
def vK:List au->Nat
 |[]=>0
 |x::xs=>x.sz+vK xs
theorem Nb:∀l,bn (l.map au.enc)=vK l
 |[]=>rfl
 |x::xs=>by rw[List.map_cons,bn,vK,Nb xs];rfl
def CK:List aT->Nat
 |[]=>0
 |x::xs=>x.sz+CK xs
theorem Nc:∀l,bn (l.map aT.enc)=CK l
 |[]=>rfl
 |x::xs=>by rw[List.map_cons,bn,CK,Nc xs];rfl
theorem yS(x:au):x.sz=x.bD.length+x.fName.length+x.fType.sz+(x.fArgs.length+vK x.fArgs)+(x.aR.length+CK x.aR):=by
 rw[<-Nb,<-Nc];simp only[au.sz,au.aB,bT,bL,D.sz,List.length_map,ak.d9];omega
theorem Ca(x:aT):x.sz=x.dN.length+(x.aG.length+(x.aG.map List.length).sum)+x.fBody.sz:=by
 rw[<-dK];simp only[aT.sz,aT.aB,bT,bL,D.sz,List.length_map,au.d9];omega
theorem Gx:∀(k n:Nat),n<10^ (k+1)->(Lib.decDigits n).length<=k+1
 |0,n,h=>by rw[Lib.decDigits,dif_pos (by simpa using h)];simp
 |k+1,n,h=>by
  rw[Lib.decDigits];split
  ·simp
  ·rw[List.length_append];have:=Gx k (n/10) (by rw[Nat.pow_succ] at h;omega);simp;omega
theorem aiX{n:Int}(h: -999999<=n/\n<=999999):(Lib.itoa n).length<=7:=by
 unfold Lib.itoa;split
 ·have:=Gx 5 n.natAbs (by omega);simp;omega
 ·have:=Gx 5 n.toNat (by omega);omega
theorem afv(k:Int)(tr nm:List UInt8)(ty:ak):(jr k tr nm ty).length<=3/\dA (jr k tr nm ty)<=18+tr.length+nm.length+16*ty.sz:=by
 have h:=BO ty;unfold jr
 repeat' (first|(split;·refine⟨by simp[aN],?_⟩;simp[dA,aN,jR,qw,jv,tY,tZ,yA,qx,uM,lD];omega))
 refine⟨by simp[aN],?_⟩;simp[dA,aN,jR,lD];omega
mutual
theorem Kw:∀x:au,iW x=true->(fq x).sz<=24+32*x.sz
 | .mk k tr nm n ty zs ms=>fun hok=>by
   rw[iW,Bool.and_eq_true,Bool.and_eq_true] at hok;have hf:=gG hok.1;have h1:=aad zs hok.2.1;have h2:=aae ms hok.2.2;have h3:=afv k tr nm ty;rw[yS];simp only[au.fName,au.fArgs,au.bD,au.fType,au.aR];rw[fq];split
   ·rename_i hk;have h4:=hf.2.2.2.1;simp only[au.aJ,au.fN,hk,if_true] at h4;have:=aiX h4;rw[jR];omega
   ·split
    ·rw[jR];split<;>simp[Bu,zY]<;>omega
    ·split
     ·rw[jR];omega
     ·rw[jF,jP,jP,List.length_append,List.length_append,Eo,List.length_map,<-Eo];split
      ·simp[dA];omega
      ·rw[Iw,List.length_map,<-Iw];omega
theorem aad:∀xs:List au,mW xs=true->dA (Cw xs)<=24*xs.length+32*vK xs
 |[],_=>by simp[Cw,dA]
 |x::xs,h=>by
  rw[mW,Bool.and_eq_true] at h;have h1:=Kw x h.1;have h2:=aad xs h.2;rw[Cw,dA,vK,List.length_cons];omega
theorem anw:∀x:aT,xI x=true->(Ak x).sz<=26+32*x.sz
 | .mk c vs b=>fun hok=>by
   rw[xI,Bool.and_eq_true,Bool.and_eq_true] at hok;have h1:=Kw b hok.2.2;rw[Ca];simp only[aT.dN,aT.aG,aT.fBody];rw[Ak,jF,jP,jP,List.length_append,List.length_append,jN,sW];simp[dA,jR];omega
theorem aae:∀xs:List aT,qC xs=true->dA (Iu xs)<=26*xs.length+32*CK xs
 |[],_=>by simp[Iu,dA]
 |x::xs,h=>by
  rw[qC,Bool.and_eq_true] at h;have h1:=anw x h.1;have h2:=aae xs h.2;rw[Iu,dA,CK,List.length_cons];omega
end
theorem Mw(d:Nat)(h:d<10):Lib.digitVal (UInt8.ofNat (48+d))=some d:=by
 have:(UInt8.ofNat (48+d)).toNat=48+d:=by rw[UInt8.toNat_ofNat'];omega
 unfold Lib.digitVal;rw[this,if_pos (by omega)];congr 1;omega
theorem Ep:∀(l:List UInt8)(acc:Nat)(b:UInt8),Lib.decFrom acc (l++[b])=(Lib.decFrom acc l).bind fun m=>(Lib.digitVal b).map fun d=>m*10+d
 |[],acc,b=>by
  rw[List.nil_append,Lib.decFrom,Lib.decFrom];cases Lib.digitVal b<;>rfl
 |a::l,acc,b=>by
  rw[List.cons_append,Lib.decFrom,Lib.decFrom]
  cases Lib.digitVal a with
  |none=>rfl
  |some e=>exact Ep l _ b
theorem AO(n:Nat):Lib.decFrom 0 (Lib.decDigits n)=some n:=by
 induction n using Nat.strongRecOn with
 |_ n ih=>
  rw[Lib.decDigits];split
  ·rename_i h;rw[Lib.decFrom,Mw n h];simp[Lib.decFrom]
  ·rename_i h;rw[Ep,ih (n/10) (by omega),Mw _ (Nat.mod_lt _ (by decide))];simp only[Option.bind_some,Option.map_some,Option.some.injEq];omega
theorem AP(n:Nat):∃b r,Lib.decDigits n=b::r/\48<=b.toNat/\b.toNat<=57:=by
 induction n using Nat.strongRecOn with
 |_ n ih=>
  rw[Lib.decDigits];split
  ·rename_i h;exact⟨_,_,rfl,by rw[UInt8.toNat_ofNat'];omega,by rw[UInt8.toNat_ofNat'];omega⟩
  ·rename_i h;obtain⟨b,r,e,h1,h2⟩:=ih (n/10) (by omega);rw[e];exact⟨b,r++_,rfl,h1,h2⟩
theorem I9(n:Nat):Lib.decNat (Lib.decDigits n)=some n:=by
 obtain⟨b,r,e,_⟩:=AP n;unfold Lib.decNat;rw[show(Lib.decDigits n).isEmpty=false from by rw[e];rfl];exact AO n
theorem Ky(b:UInt8)(r:List UInt8):Lib.atoi (b::r)=if b==45 then(Lib.decNat r).map fun(m:Nat)=> -(m:Int) else if b==43 then(Lib.decNat r).map fun(m:Nat)=>(m:Int) else(Lib.decNat (b::r)).map fun(m:Nat)=>(m:Int):=rfl
theorem SL(n:Int):Lib.atoi (Lib.itoa n)=some n:=by
 unfold Lib.itoa;split
 ·rename_i h;show Lib.atoi (45::Lib.decDigits n.natAbs)=_;rw[Ky,if_pos (by decide),I9];simp only[Option.map_some,Option.some.injEq];omega
 ·rename_i h;obtain⟨b,r,e,h1,h2⟩:=AP n.toNat;have hd:=I9 n.toNat;rw[e] at hd ⊢;rw[Ky,if_neg (by simp only[beq_iff_eq];intro h;rw[h] at h1;revert h1;decide),if_neg (by simp only[beq_iff_eq];intro h;rw[h] at h1;revert h1;decide),hd];simp only[Option.map_some,Option.some.injEq];omega
theorem aly(n:Int):Lib.itoa n≠[]:=fun e=>by
 have:=SL n;rw[e] at this;cases this
def iA(s:List UInt8):Option Int:=match Lib.atoi s with
 |some n=>if(-999999999999<=n/\n<=999999999999)/\Lib.itoa n=s then some n else none
 |none=>none
theorem PG{n:Int}(h: -999999999999<=n/\n<=999999999999):iA (Lib.itoa n)=some n:=by
 unfold iA;rw[SL];exact if_pos ⟨h,rfl⟩
theorem PI{s:List UInt8}{n:Int}(h:iA s=some n):(-999999999999<=n/\n<=999999999999)/\Lib.itoa n=s:=by
 unfold iA at h;split at h
 ·split at h
  ·cases h;assumption
  ·cases h
 ·cases h
theorem Er{b:UInt8}{r:List UInt8}(h:lowerB b):iA (b::r)=none:=by
 have h1:(b==45)=false:=by simp only[beq_eq_false_iff_ne];intro e;rw[e] at h;revert h;simp[lowerB]
 have h2:(b==43)=false:=by simp only[beq_eq_false_iff_ne];intro e;rw[e] at h;revert h;simp[lowerB]
 have h3:Lib.digitVal b=none:=if_neg (fun x=>by unfold lowerB at h;omega);unfold iA;rw[Ky,h1,h2];simp[Lib.decNat,Lib.decFrom,h3]
theorem acJ{s:List UInt8}(h:validName s=true):iA s=none:=by
 have h1:=gG h;have h2:=h1.2.2 0 (by omega)
 cases s with
 |nil=>simp at h1
 |cons b r=>
  rcases h2 with h2|h2
  ·exact Er h2
  ·exact(h2.1 rfl).elim
def jf:ak:=.mk 0 [] []
def l9:au:=.mk 0 [] [] 0 jf [] []
mutual
def eP(b:Bool):aj->au
 | .mk a l=>if a=[] then
    if b=true/\(l.length<2\/dJ l 0=jv/\l.length<3) then l9
    else if dJ l 0=qw then .mk 4 [] (dJ l 1) 0 jf ((gF b l).drop 2) []
    else if dJ l 0=tY then .mk 6 [] (dJ l 1) 0 jf ((gF b l).drop 2) []
    else if dJ l 0=tZ then .mk 8 [] (dJ l 1) 0 jf ((gF b l).drop 2) []
    else if dJ l 0=qx then .mk 11 (dJ l 1) [] 0 jf ((gF b l).drop 2) []
    else if dJ l 0=jv then .mk 5 (dJ l 1) (dJ l 2) 0 jf ((gF b l).drop 3) []
    else if dJ l 0=yA then .mk 9 [] [] 0 jf ((gF b l).drop 1) []
    else if dJ l 0=uM then .mk 12 [] [] 0 (dO b (l.getD 1 cu)) ((gF b l).drop 2) []
    else if dJ l 0=lD then .mk 7 [] [] 0 jf (((gF b l).drop 1).take 1) ((oH b l).drop 2)
    else .mk 10 [] (dJ l 0) 0 jf ((gF b l).drop 1) []
   else match iA a with
    |some n=>.mk 1 [] [] n jf [] []
    |none=>if a=Bu then .mk 2 [] [] 1 jf [] [] else if a=zY then .mk 2 [] [] 0 jf [] [] else .mk 3 [] a 0 jf [] []
def gF(b:Bool):List aj->List au
 |[]=>[]
 |x::xs=>eP b x::gF b xs
def sG(b:Bool):aj->aT
 | .mk a l=>if l.length<2 then .mk [] [] l9 else .mk (dJ l 0) (eU ((l.drop 1).dropLast)) ((gF b l).getLastD l9)
def oH(b:Bool):List aj->List aT
 |[]=>[]
 |x::xs=>sG b x::oH b xs
end
theorem Cb(b:Bool):∀l,gF b l=l.map (eP b)
 |[]=>rfl
 |t::ts=>by rw[gF,List.map_cons,Cb b ts]
theorem EZ(b:Bool):∀l,oH b l=l.map (sG b)
 |[]=>rfl
 |t::ts=>by rw[oH,List.map_cons,EZ b ts]
theorem nk(b:Bool)(l m:List aj):gF b (l++m)=gF b l++gF b m:=by simp only[Cb,List.map_append]
theorem sH(b:Bool)(l m:List aj):oH b (l++m)=oH b l++oH b m:=by simp only[EZ,List.map_append]
theorem sN{t:ak}(h:yE t):t=jf:=ak.ext h.1 h.2.1 (List.eq_nil_of_length_eq_zero h.2.2)
theorem Y9{s:List UInt8}(h:s∈ops):s≠[]/\∀w∈[qw,tY,tZ,qx,jv,yA,uM,lD],s≠w:=by
 have:=aeT h;refine⟨fun e=>by rw[e] at this;simp at this,fun w hw e=> ?_⟩;rw[e] at this;simp only[List.mem_cons,List.not_mem_nil,or_false] at hw;rcases hw with g|g|g|g|g|g|g|g<;>rw[g] at this<;>revert this<;>decide
mutual
theorem Gy(b:Bool):∀e:au,iW e=true->eP b (fq e)=e
 | .mk k tr nm n ty zs ms=>fun hok=>by
   rw[iW,Bool.and_eq_true,Bool.and_eq_true] at hok;have hf:=gG hok.1;have h1:=Xh b zs hok.2.1;have h2:=Xi b ms hok.2.2;obtain⟨p0,p1,p2,p3,p4,p5,p6⟩:=hf;simp only[au.aJ,au.bD,au.fName,au.fN,au.fType,au.fArgs,au.aR] at p0 p1 p2 p3 p4 p5 p6;have nz:∀{l:List au},l.length=0->l=[]:=fun h=>List.eq_nil_of_length_eq_zero h
   have Kz:k≠7->ms=[]:=fun h=>List.eq_nil_of_length_eq_zero (by
    have:¬0<ms.length:=fun x=>h (p6.2 x)
    omega)
   have hk:k=1\/k=2\/k=3\/k=4\/k=5\/k=6\/k=7\/k=8\/k=9\/k=10\/k=11\/k=12:=by omega
   rcases hk with rfl|rfl|rfl|rfl|rfl|rfl|rfl|rfl|rfl|rfl|rfl|rfl
   all_goals simp only[if_true,if_false,true_or,or_true,false_or,or_false,or_self,(by decide:(1:Int)=5<->False),Int.reduceEq] at p1 p2 p3 p4 p5
   ·have e1:=sN p4;have e2:=nz p5;have e3:=Kz (by decide);subst e1 e2 e3 p1 p2;rw[fq,if_pos rfl,bI,eP,if_neg (aly n),PG (by omega)]
   ·have e1:=sN p4;have e2:=nz p5;have e3:=Kz (by decide);subst e1 e2 e3 p1 p2;rw[fq,if_neg (by decide),if_pos rfl,bI,eP];rcases p3 with rfl|rfl
    ·rw[if_neg (by decide:¬(0:Int)=1),if_neg (by decide),show iA zY=none from Er (by simp[lowerB]),if_neg (by decide),if_pos rfl]
    ·rw[if_pos rfl,if_neg (by decide),show iA Bu=none from Er (by simp[lowerB]),if_pos rfl]
   ·have e1:=sN p4;have e2:=nz p5;have e3:=Kz (by decide);subst e1 e2 e3 p1 p3;have hr:=(gG p2).2.1;rw[fq,if_neg (by decide),if_neg (by decide),if_pos rfl,bI,eP,if_neg (Gw p2),acJ p2,if_neg (fun e=>hr (by rw[e];simp[reserved,Bu])),if_neg (fun e=>hr (by rw[e];simp[reserved,zY]))]
   all_goals have hz:(Cw zs).length=zs.length:=by rw[Eo,List.length_map]
   ·have e1:=sN p4;have e3:=Kz (by decide);subst e1 e3 p1 p3;simp[fq,jr,bC,aN,eP,gF,nk,oH,sH,dJ,bI,aj.aO,qw,jv,tY,lD,tZ,yA,qx,uM,h1,hz,h2]
    all_goals (intros;omega)
   ·have e1:=sN p4;have e3:=Kz (by decide);subst e1 e3 p3;simp[fq,jr,bC,aN,eP,gF,nk,oH,sH,dJ,bI,aj.aO,qw,jv,tY,lD,tZ,yA,qx,uM,h1,hz,h2]
    all_goals (intros;omega)
   ·have e1:=sN p4;have e3:=Kz (by decide);subst e1 e3 p1 p3;simp[fq,jr,bC,aN,eP,gF,nk,oH,sH,dJ,bI,aj.aO,qw,jv,tY,lD,tZ,yA,qx,uM,h1,hz,h2]
    all_goals (intros;omega)
   ·have e1:=sN p4;subst e1 p1 p2 p3;have hm:0<ms.length:=p6.1 rfl
    obtain⟨z,rfl⟩:∃z,zs=[z]:=by
     cases zs with
     |nil=>simp at p5
     |cons z t=>cases t with
      |nil=>exact⟨z,rfl⟩
      |cons _ _=>simp at p5
    simp only[Cw,gF,List.cons.injEq,and_true] at h1;simp[fq,jr,bC,aN,eP,gF,nk,oH,sH,Cw,dJ,bI,aj.aO,qw,jv,tY,lD,tZ,yA,qx,uM,h1,h2]
    all_goals (intros;omega)
   ·have e1:=sN p4;have e3:=Kz (by decide);subst e1 e3 p1 p3;simp[fq,jr,bC,aN,eP,gF,nk,oH,sH,dJ,bI,aj.aO,qw,jv,tY,lD,tZ,yA,qx,uM,h1,hz,h2]
    all_goals (intros;omega)
   ·have e1:=sN p4;have e3:=Kz (by decide);subst e1 e3 p1 p2 p3;simp[fq,jr,bC,aN,eP,gF,nk,oH,sH,dJ,bI,aj.aO,qw,jv,tY,lD,tZ,yA,qx,uM,h1,hz,h2]
    all_goals (intros;omega)
   ·have e1:=sN p4;have e3:=Kz (by decide);subst e1 e3 p1 p3;have ho:=Y9 p2;simp only[List.mem_cons,List.not_mem_nil,or_false,ne_eq,forall_eq_or_imp,forall_eq] at ho;obtain⟨_,o1,o2,o3,o4,o5,o6,o7,o8⟩:=ho;simp[fq,jr,bC,aN,eP,gF,nk,dJ,bI,aj.aO,h1,hz,o1,o2,o3,o4,o5,o6,o7,o8]
    all_goals (intros;omega)
   ·have e1:=sN p4;have e3:=Kz (by decide);subst e1 e3 p2 p3;simp[fq,jr,bC,aN,eP,gF,nk,oH,sH,dJ,bI,aj.aO,qw,jv,tY,lD,tZ,yA,qx,uM,h1,hz,h2]
    all_goals (intros;omega)
   ·have e3:=Kz (by decide);subst e3 p1 p2 p3;have ht:=xK b ty (wQ p4);simp[fq,jr,bC,aN,eP,gF,nk,dJ,bI,aj.aO,qw,jv,tY,lD,tZ,yA,qx,uM,h1,hz,ht]
    all_goals (intros;omega)
theorem Xh(b:Bool):∀es:List au,mW es=true->gF b (Cw es)=es
 |[],_=>rfl
 |t::ts,h=>by
  rw[mW,Bool.and_eq_true] at h;rw[Cw,gF,Gy b t h.1,Xh b ts h.2]
theorem alz(b:Bool):∀m:aT,xI m=true->sG b (Ak m)=m
 | .mk c vs e=>fun h=>by
   rw[xI,Bool.and_eq_true,Bool.and_eq_true] at h;have he:=Gy b e h.2.2;rw[Ak,bC,sG,if_neg (by simp),nk];have e1:dJ ([bI c]++aN vs++[fq e]) 0=c:=rfl
   have e2:(([bI c]++aN vs++[fq e]).drop 1).dropLast=aN vs:=by
    rw[List.append_assoc,List.singleton_append,List.drop_succ_cons,List.drop_zero,List.dropLast_concat]
   rw[e1,e2,qM (AL h.2.1)];congr 1;rw[gF,he,List.getLastD_eq_getLast?,List.getLast?_append];simp[gF]
theorem Xi(b:Bool):∀ms:List aT,qC ms=true->oH b (Iu ms)=ms
 |[],_=>rfl
 |t::ts,h=>by
  rw[qC,Bool.and_eq_true] at h;rw[Iu,oH,alz b t h.1,Xi b ts h.2]
end
theorem Cc:jf.sz=0:=by rw[wR];rfl
theorem zo:l9.sz=0:=by rw[yS];simp[l9,au.bD,au.fName,au.fType,au.fArgs,au.aR,Cc,vK,CK]
theorem acK(l:List aj):((eU ((l.drop 1).dropLast)).length+((eU ((l.drop 1).dropLast)).map List.length).sum)<=(l.drop 1).dropLast.length+dA ((l.drop 1).dropLast):=by
 have:=rU ((l.drop 1).dropLast);omega
theorem alA(x:aj)(m:List aj)(y:aj):dA (x::(m++[y]))=x.sz+(dA m+y.sz):=by rw[dA,jP];simp[dA]
mutual
theorem Dw(b:Bool):∀x:aj,(eP b x).sz<=x.sz
 | .mk a l=>by
   have g:=SN b l
   have hl:(gF b l).length=l.length:=by rw[Cb,List.length_map]
   have hm:(oH b l).length=l.length:=by rw[EZ,List.length_map]
   rw[jW,mh];simp only[aj.aO,aj.ah];rw[eP];split
   ·have g1:vK ((gF b l).drop 1)+(dJ l 0).length<=dA l:=by
     have:=g 0;simp only[Nat.zero_add,(by decide:¬(1<=0)),if_false] at this;omega
    have g2:vK ((gF b l).drop 2)+((dJ l 0).length+(dJ l 1).length)<=dA l:=by
     have:=g 1;simp only[Nat.reduceAdd,Nat.le_refl,if_true,Nat.sub_self] at this;omega
    have g3:vK ((gF b l).drop 3)+((dJ l 1).length+(dJ l 2).length)<=dA l:=by
     have:=g 2;simp only[Nat.reduceAdd,(by decide:1<=2),if_true,Nat.reduceSub] at this;omega
    split
    ·rw[zo];omega
    ·repeat' split
     all_goals rw[yS];simp only[au.bD,au.fName,au.fType,au.fArgs,au.aR,Cc,vK,CK,List.length_nil,List.length_drop,List.length_take,hl,hm,List.drop_zero] at g1 g2 g3 ⊢
     all_goals try omega
     ·have h1:=zn b (l.getD 1 cu)
      have h2:vK ((gF b l).drop 2)+(l.getD 1 cu).sz<=dA l:=by
       match l with
       |[]=>simp[gF,vK,dA,Ir]
       |[x]=>simp[gF,vK,dA,Ir]
       |x::y::l=>
        have:=Nf b l;simp only[gF,List.drop_succ_cons,List.drop_zero,dA];show _+y.sz<=_;omega
      omega
     ·match l with
      |[]=>simp[vK,CK,gF,oH]
      |[x]=>simp[vK,CK,gF,oH]
      |x::y::l=>
       have h1:=Dw b y;have h2:=Xj b l;simp only[gF,oH,List.drop_succ_cons,List.drop_zero,List.take_succ_cons,List.take_zero,vK,dA,List.length_cons];omega
   ·split
    ·rw[yS];simp[au.bD,au.fName,au.fType,au.fArgs,au.aR,Cc,vK,CK]
    ·repeat' split
     all_goals rw[yS];simp[au.bD,au.fName,au.fType,au.fArgs,au.aR,Cc,vK,CK]
theorem Nf(b:Bool):∀l:List aj,vK (gF b l)<=dA l
 |[]=>by simp[gF,vK]
 |x::xs=>by
  have h1:=Dw b x;have h2:=Nf b xs;rw[gF,vK,dA];omega
theorem SN(b:Bool):∀(l:List aj)(i:Nat),vK ((gF b l).drop (i+1))+((if 1<=i then(dJ l (i-1)).length else 0)+(dJ l i).length)<=dA l
 |[],i=>by simp[gF,vK,Gv]
 |x::xs,0=>by
  have h2:=Nf b xs;rw[gF,List.drop_succ_cons,List.drop_zero,dA,show dJ (x::xs) 0=x.aO from rfl,jW];simp;omega
 |x::xs,i+1=>by
  have h2:=SN b xs i;rw[gF,List.drop_succ_cons,dA,show dJ (x::xs) (i+1)=dJ xs i from rfl]
  cases i with
  |zero=>rw[show dJ (x::xs) (0+1-1)=x.aO from rfl,jW];simp at h2 ⊢;omega
  |succ i=>rw[show dJ (x::xs) (i+1+1-1)=dJ xs i from rfl];simp at h2 ⊢;omega
theorem alB(b:Bool):∀x:aj,(sG b x).sz<=x.sz
 | .mk a l=>by
   rw[jW,mh];simp only[aj.aO,aj.ah];rw[sG];split
   ·rw[Ca];simp[aT.dN,aT.aG,aT.fBody,zo]
   ·rename_i h;have hn:=acK l;have hb:=PK b l;rw[Ca];simp only[aT.dN,aT.aG,aT.fBody]
    obtain⟨x,m,y,rfl⟩:∃x m y,l=x::(m++[y]):=by
     cases l with
     |nil=>simp at h
     |cons x l=>
      have hl:l≠[]:=fun e=>by rw[e] at h;simp at h
      exact⟨x,l.dropLast,l.getLast hl,by rw[List.dropLast_concat_getLast]⟩
    rw[alA] at *
    rw[show dJ (x::(m++[y])) 0=x.aO from rfl,jW x];simp only[List.drop_succ_cons,List.drop_zero,List.dropLast_concat,List.length_cons,List.length_append,List.length_nil] at hn ⊢
    have hy:((x::(m++[y])).getLastD cu)=y:=by rw[<-List.cons_append,List.getLastD_eq_getLast?,List.getLast?_append];simp
    rw[hy] at hb;omega
theorem Xj(b:Bool):∀l:List aj,CK (oH b l)<=dA l
 |[]=>by simp[oH,CK]
 |x::xs=>by
  have h1:=alB b x;have h2:=Xj b xs;rw[oH,CK,dA];omega
theorem PK(b:Bool):∀l:List aj,((gF b l).getLastD l9).sz<=(l.getLastD cu).sz
 |[]=>by simp[gF,zo]
 |[x]=>by simpa [gF] using Dw b x
 |x::y::l=>by
  have:=PK b (y::l);simpa [gF] using this
end
end Go.Ab
namespace Go.Proofs
open Go.Shelf
def Tryz.laysM171_ren:Go.Shelf.Ren:=⟨fun|171=>201|243=>264|246=>305|283=>324|284=>325|285=>326|286=>327|129=>343|317=>342|318=>344|319=>345|320=>346|337=>353|338=>354|n=>n,fun|3=>3|9=>9|2=>2|4=>4|171=>281|0=>0|53=>282|37=>127|5=>5|173=>285|212=>303|51=>293|20=>20|213=>304|46=>262|232=>316|233=>317|n=>n,fun|17=>5|18=>6|19=>7|n=>n⟩
theorem Tryz.laysM171:Go.Proofs.LaysM.n171 prog Tryz.laysM171_ren:={
 mixed:=by kernel_rfl
 f129:=func343.trans (congrArg some (by kernel_rfl))
 f171:=func201.trans (congrArg some (by kernel_rfl))
 f243:=func264.trans (congrArg some (by kernel_rfl))
 f246:=func305.trans (congrArg some (by kernel_rfl))
 f283:=func324.trans (congrArg some (by kernel_rfl))
 f284:=func325.trans (congrArg some (by kernel_rfl))
 f285:=func326.trans (congrArg some (by kernel_rfl))
 f286:=func327.trans (congrArg some (by kernel_rfl))
 f317:=func342.trans (congrArg some (by kernel_rfl))
 f318:=func344.trans (congrArg some (by kernel_rfl))
 f319:=func345.trans (congrArg some (by kernel_rfl))
 f320:=func346.trans (congrArg some (by kernel_rfl))
 f337:=func353.trans (congrArg some (by kernel_rfl))
 f338:=func354.trans (congrArg some (by kernel_rfl))
 t0:=underlying0
 a0:=Tryz.isAgg0
 z0:=Tryz.sizeOf0
 v0:=Tryz.zeroValue0
 t2:=underlying2
 a2:=Tryz.isAgg2
 z2:=Tryz.sizeOf2
 v2:=Tryz.zeroValue2
 t3:=underlying3
 a3:=Tryz.isAgg3
 z3:=Tryz.sizeOf3
 v3:=Tryz.zeroValue3
 t4:=underlying4
 a4:=Tryz.isAgg4
 z4:=Tryz.sizeOf4
 v4:=Tryz.zeroValue4
 t5:=underlying5
 a5:=Tryz.isAgg5
 z5:=Tryz.sizeOf5
 v5:=Tryz.zeroValue5
 t9:=underlying9
 a9:=Tryz.isAgg9
 z9:=Tryz.sizeOf9
 v9:=Tryz.zeroValue9
 t20:=underlying20
 a20:=Tryz.isAgg20
 z20:=Tryz.sizeOf20
 v20:=Tryz.zeroValue20
 t37:=underlying127
 a37:=Tryz.isAgg127
 z37:=Tryz.sizeOf127
 v37:=Tryz.zeroValue127
 t46:=underlying262
 a46:=Tryz.isAgg262
 z46:=Tryz.sizeOf262
 v46:=Tryz.zeroValue262
 t51:=underlying293
 a51:=Tryz.isAgg293
 z51:=Tryz.sizeOf293
 v51:=Tryz.zeroValue293
 t53:=underlying282
 a53:=Tryz.isAgg282
 z53:=Tryz.sizeOf282
 v53:=Tryz.zeroValue282
 t171:=underlying281
 a171:=Tryz.isAgg281
 z171:=Tryz.sizeOf281
 v171:=Tryz.zeroValue281
 t173:=underlying285
 a173:=Tryz.isAgg285
 z173:=Tryz.sizeOf285
 v173:=Tryz.zeroValue285
 t212:=underlying303
 a212:=Tryz.isAgg303
 z212:=Tryz.sizeOf303
 v212:=Tryz.zeroValue303
 t213:=underlying304
 a213:=Tryz.isAgg304
 z213:=Tryz.sizeOf304
 t232:=underlying316
 a232:=Tryz.isAgg316
 z232:=Tryz.sizeOf316
 v232:=Tryz.zeroValue316
 t233:=underlying317
 a233:=Tryz.isAgg317
 z233:=Tryz.sizeOf317
 v233:=Tryz.zeroValue317
 g17:=by kernel_rfl
 g18:=by kernel_rfl
 g19:=by kernel_rfl
 i0:=by kernel_rfl
 i2:=by kernel_rfl
 i3:=by kernel_rfl
 i4:=by kernel_rfl
 i5:=by kernel_rfl
 i9:=by kernel_rfl
 i20:=by kernel_rfl
 i37:=by kernel_rfl
 i46:=by kernel_rfl
 i51:=by kernel_rfl
 i53:=by kernel_rfl
 i171:=by kernel_rfl
 i173:=by kernel_rfl
 i212:=by kernel_rfl
 i232:=by kernel_rfl
 i233:=by kernel_rfl
 m17:=by kernel_rfl
 m18:=by kernel_rfl
 m19:=by kernel_rfl}
open Go.RowKit Go.Sort Go.Lib in
theorem Tryz.strconv_Itoa(n:Int)(h0: -9223372036854775808<=n)(h1:n<=9223372036854775807)(w:World)(htab:Lib.TabIs prog w "internal/strconv.uint64pow10" .u64 Lib.pow10Tab):
 Calls prog 201 #[.int .i64 n] w fun e w'=>e=.returned (.string ⟨(Lib.itoa n).toArray⟩)/\∃k os,w'=grow (w.drewN k) os:=Any.strconv_Itoa Tryz.laysM171 n h0 h1 w htab
end Go.Proofs
namespace Go.Ab
theorem acL{w:World}{σ:Nat->Nat}{k:Nat}{os:Array Go.Obj}(hl:∀b,b<w.heap.size\/σ b=0):Grow w σ (Go.Sort.grow (w.drewN k) os) σ:=by
 have hh:(Go.Sort.grow (w.drewN k) os).heap=w.heap++os:=rfl;refine⟨by rw[hh];simp,rfl,rfl,fun b hb=>⟨by rw[hh,Array.getElem?_append_left hb],rfl⟩,fun b=> ?_⟩;rcases hl b with h|h
 ·left;rw[hh];simp;omega
 ·exact .inr h
theorem alC{x:V}{vs:List Value}{w:World}{σ:Nat->Nat}{S:Store}{β:Hs}(h:qg w σ S β [x] vs):∃v,vs=[v]/\dP w σ S β x v:=by
 obtain⟨hl,h⟩:=h;obtain⟨v,e,hr⟩:=h 0 x rfl
 match vs,hl,e with
 |[y],_,e=>simp at e;subst e;exact⟨_,rfl,hr⟩
theorem SQ{w:World}{σ:Nat->Nat}(h:nD w σ):Lib.TabIs prog w "internal/strconv.uint64pow10" .u64 Lib.pow10Tab:=by
 obtain⟨c,t,fz,q1,q2,q3⟩:=h _ _ (show _∈ZE from List.mem_cons_self ..)
 have hn:prog.globalNamed "internal/strconv.uint64pow10" =some 5:=by kernel_rfl
 unfold Lib.TabIs World.var?;rw[hn];simp only[Option.bind_some,q1,Option.some.injEq];apply Array.ext';rw[q2];simp[Lib.pow10Tab]
theorem alD(n:Int)(h0: -9223372036854775808<=n)(h1:n<=9223372036854775807):aH prog 201 [.c (.d (.i .i64 n))] (.c (.d (.s (Lib.itoa n)))):=fun S=>by
 refine⟨⟨_,func201,by kernel_rfl,by kernel_rfl⟩,fun w σ β vs hS hv=> ?_⟩;obtain⟨v,rfl,hr,_⟩:=alC hv
 have hv0:v=.int .i64 n:=by cases hr;rfl
 subst hv0;refine(Tryz.strconv_Itoa n h0 h1 w (SQ hS.uz)).mono fun e w' ⟨he,k,os,hw⟩=> ?_;subst hw;have hg:Grow w σ (Go.Sort.grow (w.drewN k) os) σ:=acL hS.live;exact⟨_,.c (.d (.s (Lib.itoa n))),S,σ,β,he,hS.grow hg,Keep.refl _ _,Step.oN hg,⟨.s _,rfl⟩,rfl,rfl⟩
theorem Ng(n:Int)(h0: -9223372036854775808<=n)(h1:n<=9223372036854775807):aH prog 138 [.c (.d (.i .i64 n))] (.c (.d (.s (Lib.itoa n)))):=fun S=>by
 refine aD (rs:=[.tmp 2]) zmx func138 ntmps138 rfl rfl rfl rfl rfl ?_;refine W1 ?_;exact C4 (alD n h0 h1)
def KA(m:Nat):List UInt8:=if m=0 then [] else Lib.decDigits m
theorem afw{m:Nat}(h:m≠0):KA (m/10)++[UInt8.ofNat (48+m % 10)]=KA m:=by
 unfold KA;rw[if_neg h]
 conv=>rhs;rw[Lib.decDigits]
 by_cases h10:m<10
 ·rw[dif_pos h10,if_pos (by omega),List.nil_append,Nat.mod_eq_of_lt h10]
 ·rw[dif_neg h10,if_neg (by omega)]
theorem aiY(n:Int)(h0: -9223372036854775808<=n)(h1:n<=9223372036854775807):∃sg:Nat->Int,sg 0=0/\sg n.natAbs=n/\(∀m,m≠0->sg m≠0)/\(∀m,(sg m).tmod 10= -((m % 10:Nat):Int)\/(sg m).tmod 10=((m % 10:Nat):Int))/\
 (∀m,(sg m).tdiv 10=sg (m/10))/\∀m,m<=n.natAbs-> -9223372036854775808<=sg m/\sg m<=9223372036854775807:=by
 by_cases h:n<0
 ·refine⟨fun m=> -(m:Int),rfl,by simp only;omega,fun m hm=>by simp only;omega,fun m=>.inl ?_,fun m=> ?_,fun m hm=>by simp only;omega⟩
  ·simp only;rw[Int.neg_tmod];congr 1
  ·simp only;rw[Int.neg_tdiv];congr 1
 ·refine⟨fun m=>(m:Int),rfl,by simp only;omega,fun m hm=>by simp only;omega,fun m=>.inr rfl,fun m=>rfl,fun m hm=>by simp only;omega⟩
theorem afx:Lib.itoa 0=[48]:=by
 unfold Lib.itoa;rw[if_neg (by decide),Lib.decDigits,dif_pos (by decide)];rfl
theorem acM(a:Nat)(h:a<=9223372036854775808):(Lib.decDigits a).length<=19:=Gx 18 a (by omega)
theorem yT(n:Int)(h0: -9223372036854775808<=n)(h1:n<=9223372036854775807):aH prog 120 [.c (.d (.i .i64 n))] (.c (.d (.s (Lib.itoa n)))):=fun S=>by
 obtain⟨sg,g0,gn,gne,aq8,aq9,anx⟩:=aiY n h0 h1;refine aD (rs:=[.tmp 2]) zmx func120 ntmps120 rfl rfl rfl rfl rfl ?_;refine W1 ?_;refine S0 (fun hb h=>?_) fun hb h=>?_
 ·rw[h,afx]
 have hn0:=h
 have hd0:KA n.natAbs=Lib.decDigits n.natAbs:=by unfold KA;rw[if_neg (by omega)]
 have hln:=acM n.natAbs (by omega)
 refine aU (ι:=Nat×List UInt8) zmx rfl [0,3,4] (fun y=>[.c (.d (.i .i64 (sg y.1))),.c (.d (.b (decide (n<0)))),.c (.d (.s y.2))]) (fun _=>[]::S)
  (fun y=>y.1<=n.natAbs/\KA y.1++y.2=KA n.natAbs/\y.2.length<=19) (fun y=>y.1) (n.natAbs,[]) (by rw[gn];rfl) rfl ⟨Nat.le_refl _,List.append_nil _,by simp⟩ ?_
 rintro⟨m,out⟩ ⟨p1,p2,p3⟩;simp only at p1 p2 p3;have hr:=anx m p1;have hm:=aq8 m;have hq:=aq9 m
 generalize hx:sg m=x at *
 generalize hy:x.tmod 10=y at *
 have hlo:out.length<=19:=p3;refine W1 ?_;refine S0 (fun hb h=>?_) fun hb h=>?_
 ·have hm0:m≠0:=fun e=>by rw[e,g0] at hx;omega
  have hst:=afw hm0;have hr2:=anx (m/10) (by omega)
  have asn:(KA (m/10)).length+1+out.length<=19:=by
   have:=congrArg List.length p2;rw[<-hst,hd0] at this;simp only[List.length_append,List.length_cons,List.length_nil] at this;omega
  simp -implicitDefEqProofs (disch:=omega) only[go_sem,hy];refine S0 (fun hb h=>?_) fun hb h=>?_
  ·have e1:(0:Int)-y=((m % 10:Nat):Int):=by omega
   have hc:UInt8.ofNat (IntKind.u8.wrap (48+(0-y))).toNat=UInt8.ofNat (48+m % 10):=by
    rw[wrap_u8 _ (by omega),e1];congr 1
   simp -implicitDefEqProofs (disch:=omega) only[go_sem,hy,hq];refine W3 ?_;refine bJ (m/10,UInt8.ofNat (48+m % 10)::out) (by simp only;omega) (by rw[<-hc];rfl) rfl ⟨by simp only;omega,?_,by simp only[List.length_cons];omega⟩
   simp only
   rw[<-p2,<-hst,List.append_assoc];rfl
  ·have e1:y=((m % 10:Nat):Int):=by omega
   have hc:UInt8.ofNat (IntKind.u8.wrap (48+y)).toNat=UInt8.ofNat (48+m % 10):=by
    rw[wrap_u8 _ (by omega),e1];congr 1
   simp -implicitDefEqProofs (disch:=omega) only[go_sem,hy,hq];refine W3 ?_;refine bJ (m/10,UInt8.ofNat (48+m % 10)::out) (by simp only;omega) (by rw[<-hc];rfl) rfl ⟨by simp only;omega,?_,by simp only[List.length_cons];omega⟩
   simp only
   rw[<-p2,<-hst,List.append_assoc];rfl
 ·have hm0:m=0:=by
   rcases Nat.eq_zero_or_pos m with e|e
   ·exact e
   ·exact absurd (by rw[hx];omega) (gne m (by omega))
  subst hm0
  have hout:out=Lib.decDigits n.natAbs:=by rw[<-hd0,<-p2];rfl
  refine S0 (fun hb h=>?_) fun hb h=>?_
  ·refine W3 ?_;rw[hout];unfold Lib.itoa;rw[if_pos h]
  ·rw[hout];unfold Lib.itoa;rw[if_neg h,show n.toNat=n.natAbs by omega]
def zZ(s:List UInt8):Prop:=s.head? =some 45
instance (s:List UInt8):Decidable (zZ s):=inferInstanceAs (Decidable (_=_))
def fZ(s:List UInt8):List UInt8:=if zZ s then s.tail else s
theorem Ce:∀(l:List UInt8)(acc v:Nat),Lib.decFrom acc l=some v->∀b∈l,48<=b.toNat/\b.toNat<=57
 |[],_,_,_,b,hb=>by cases hb
 |a::l,acc,v,h,b,hb=>by
  rw[Lib.decFrom] at h
  cases hd:Lib.digitVal a with
  |none=>rw[hd] at h;cases h
  |some d=>
   rw[hd] at h;rcases List.mem_cons.1 hb with rfl|hb
   ·unfold Lib.digitVal at hd;split at hd
    ·assumption
    ·cases hd
   ·exact Ce l _ v h b hb
theorem Za{b:UInt8}(h:48<=b.toNat/\b.toNat<=57):Lib.digitVal b=some (b.toNat-48):=if_pos h
theorem decFrom_take{t:List UInt8}{i acc:Nat}(hi:i<t.length)(h:Lib.decFrom 0 (t.take i)=some acc)(hd:48<=t[i].toNat/\t[i].toNat<=57):Lib.decFrom 0 (t.take (i+1))=some (acc*10+(t[i].toNat-48)):=by
 rw[List.take_succ_eq_append_getElem hi,Ep,h,Za hd];rfl
theorem KC{s:List UInt8}{m:Int}(h:iA s=some m):(zZ s<->m<0)/\fZ s=Lib.decDigits m.natAbs/\1<=(fZ s).length/\(fZ s).length<=12:=by
 obtain⟨hr,he⟩:=PI h;have hl:(Lib.decDigits m.natAbs).length<=12:=Gx 11 _ (by omega);obtain⟨b,r,e,b1,b2⟩:=AP m.natAbs
 have hl1:1<=(Lib.decDigits m.natAbs).length:=by rw[e];simp
 unfold Lib.itoa at he;by_cases hn:m<0
 ·rw[if_pos hn] at he
  have hs:zZ s:=by rw[<-he];rfl
  have hb:fZ s=Lib.decDigits m.natAbs:=by unfold fZ;rw[if_pos hs,<-he];rfl
  exact⟨⟨fun _=>hn,fun _=>hs⟩,hb,by rw[hb];exact⟨hl1,hl⟩⟩
 ·rw[if_neg hn,show m.toNat=m.natAbs by omega] at he
  have hs:¬zZ s:=fun x=>by
   rw[<-he,e] at x;unfold zZ at x;simp only[List.head?_cons,Option.some.injEq] at x;rw[x] at b1;revert b1;decide
  have hb:fZ s=Lib.decDigits m.natAbs:=by unfold fZ;rw[if_neg hs,<-he]
  exact⟨⟨fun x=>(hs x).elim,fun x=>(hn x).elim⟩,hb,by rw[hb];exact⟨hl1,hl⟩⟩
theorem yB{s:List UInt8}(h:(fZ s).length<1\/12<(fZ s).length):iA s=none:=by
 cases hr:iA s with
 |none=>rfl
 |some m=>have:=(KC hr).2.2;omega
theorem E5{s:List UInt8}{i:Nat}(hi:i<(fZ s).length)(h:¬(48<=(fZ s)[i].toNat/\(fZ s)[i].toNat<=57)):iA s=none:=by
 cases hr:iA s with
 |none=>rfl
 |some m=>
  have hk:=(KC hr).2.1;have hd:=AO m.natAbs;rw[<-hk] at hd;exact absurd (Ce _ _ _ hd _ (List.getElem_mem hi)) h
theorem SS{s:List UInt8}{v:Nat}(hv:Lib.decFrom 0 (fZ s)=some v)(hb:v<=999999999999):iA s=if Lib.itoa (if zZ s then -(v:Int) else v)=s then some (if zZ s then -(v:Int) else v) else none:=by
 obtain⟨z,hz⟩:∃z,z=(if zZ s then -(v:Int) else v):=⟨_,rfl⟩
 have hzb: -999999999999<=z/\z<=999999999999:=by rw[hz];split<;>omega
 rw[<-hz];by_cases h:Lib.itoa z=s
 ·rw[if_pos h]
  conv=>lhs;rw[<-h]
  exact PG hzb
 ·rw[if_neg h]
  cases hr:iA s with
  |none=>rfl
  |some m=>
   have hk:=KC hr;have hd:=AO m.natAbs;rw[<-hk.2.1,hv] at hd
   have hm:v=m.natAbs:=by simpa using hd
   have:z=m:=by
    rw[hz];by_cases hn:zZ s
    ·have:=hk.1.1 hn;rw[if_pos hn];omega
    ·rw[if_neg hn];have:¬m<0:=fun x=>hn (hk.1.2 x);omega
   rw[this] at h;exact absurd (PI hr).2 h
theorem Zb(s:List UInt8)(hs:s.length<=1073741824):aH prog 177 [.c (.d (.s s)),.c (.d (.i .i64 12))] (.dQ [(false,[.d (.i .i64 ((iA s).getD 0))]),(false,[.d (.b (iA s).isSome)])]):=fun S=>by
 have d0:iA s=none->V.dQ [(false,[.d (.i .i64 0)]),(false,[.d (.b false)])]=.dQ [(false,[.d (.i .i64 ((iA s).getD 0))]),(false,[.d (.b (iA s).isSome)])]:=fun e=>by rw[e];rfl
 refine aD (rs:=[.tmp 4,.tmp 5]) zmx func177 ntmps177 rfl rfl rfl rfl rfl ?_;refine W1 ?_;refine S0 (fun hb h=>?_) fun hb h=>?_
 ·have hpos:0<s.length:=by omega
  have h0:(s.getD 0 0).toNat=45<->zZ s:=by
   cases s with
   |nil=>simp at hpos
   |cons b s=>
    unfold zZ;simp only[List.getD_cons_zero,List.head?_cons,Option.some.injEq];constructor
    ·intro e;exact UInt8.toNat.inj e
    ·intro e;rw[e];rfl
  refine W3 ?_;refine S0 (fun hb h=>?_) fun hb h=>?_
  ·have hn:zZ s:=h0.1 (by omega)
   have hb:fZ s=(s.take s.length).drop 1:=by unfold fZ;rw[if_pos hn,List.take_length,List.drop_one]
   refine W3 ?_;rw[<-hb]
   have hbl:(fZ s).length<=s.length:=by rw[hb];simp
   refine S0 (fun hb h=>?_) fun hb h=>?_
   ·exact d0 (yB (by omega))
   refine S0 (fun hb h=>?_) fun hb h=>?_
   ·exact d0 (yB (by omega))
   have hl1:1<=(fZ s).length:=by omega
   have hl12:(fZ s).length<=12:=by omega
   refine aU (ι:=Nat×Nat) zmx rfl [0,6,7,8,9] (fun y=>[.c (.d (.s s)),.c (.d (.b true)),.c (.d (.s (fZ s))),.c (.d (.i .i64 y.2)),.c (.d (.i .i64 y.1))]) (fun _=>[]::S)
    (fun y=>y.1<=(fZ s).length/\Lib.decFrom 0 ((fZ s).take y.1)=some y.2/\y.2<10^y.1) (fun y=>(fZ s).length-y.1) (0,0) rfl rfl ⟨Nat.zero_le _,rfl,by decide⟩ ?_
   rintro⟨i,acc⟩ ⟨p1,p2,p3⟩;simp only at p1 p2 p3;have p4:10^i<=10^12:=Nat.pow_le_pow_right (by decide) (by omega);refine W1 ?_;refine S0 (fun hb h=>?_) fun hb h=>?_
   ·have hi:i<(fZ s).length:=by omega
    have e:(fZ s).getD i 0=(fZ s)[i]:=by simp[List.getD,hi]
    have hbb:=(fZ s)[i].toNat_lt;refine W3 ?_;simp only[e];refine S0 (fun hb h=>?_) fun hb h=>?_
    ·exact d0 (E5 hi (by omega))
    refine W3 ?_;simp only[e];refine S0 (fun hb h=>?_) fun hb h=>?_
    ·exact d0 (E5 hi (by omega))
    have hdg:48<=(fZ s)[i].toNat/\(fZ s)[i].toNat<=57:=by omega
    have ht:=decFrom_take hi p2 hdg
    have e2:(10:Int)*acc+(((fZ s)[i].toNat:Int)-48)=((acc*10+((fZ s)[i].toNat-48):Nat):Int):=by omega
    refine W3 ?_;simp -implicitDefEqProofs (disch:=omega) only[go_sem,wrap_u8,e];rw[e2];exact bJ (i+1,acc*10+((fZ s)[i].toNat-48)) (by simp only;omega) rfl rfl ⟨by simp only;omega,ht,by simp only[Nat.pow_succ];omega⟩
   ·have hi:i=(fZ s).length:=by omega
    have hv:Lib.decFrom 0 (fZ s)=some acc:=by rw[hi,List.take_length] at p2;exact p2
    have yZ:=SS hv (by omega);rw[if_pos hn] at yZ;rw[show(0:Int)-acc= -(acc:Int) by omega];refine C1 (yT (-(acc:Int)) (by omega) (by omega)) ?_;refine S0 (fun hb h=>?_) fun hb h=>?_
    ·exact d0 (yZ.trans (if_neg h))
    ·rw[yZ.trans (if_pos h)];rfl
  ·have hn:¬zZ s:=fun x=>h (by rw[h0.2 x];rfl)
   have hbs:fZ s=s:=by unfold fZ;rw[if_neg hn]
   have hbl:(fZ s).length=s.length:=by rw[hbs]
   refine S0 (fun hb h=>?_) fun hb h=>?_
   ·exact d0 (yB (by omega))
   refine S0 (fun hb h=>?_) fun hb h=>?_
   ·exact d0 (yB (by omega))
   have hl1:1<=(fZ s).length:=by omega
   have hl12:(fZ s).length<=12:=by omega
   refine aU (ι:=Nat×Nat) zmx rfl [0,6,7,8,9] (fun y=>[.c (.d (.s s)),.c (.d (.b false)),.c (.d (.s (fZ s))),.c (.d (.i .i64 y.2)),.c (.d (.i .i64 y.1))]) (fun _=>[]::S)
    (fun y=>y.1<=(fZ s).length/\Lib.decFrom 0 ((fZ s).take y.1)=some y.2/\y.2<10^y.1) (fun y=>(fZ s).length-y.1) (0,0) (by rw[hbs];rfl) rfl ⟨Nat.zero_le _,rfl,by decide⟩ ?_
   rintro⟨i,acc⟩ ⟨p1,p2,p3⟩;simp only at p1 p2 p3;have p4:10^i<=10^12:=Nat.pow_le_pow_right (by decide) (by omega);refine W1 ?_;refine S0 (fun hb h=>?_) fun hb h=>?_
   ·have hi:i<(fZ s).length:=by omega
    have e:(fZ s).getD i 0=(fZ s)[i]:=by simp[List.getD,hi]
    have hbb:=(fZ s)[i].toNat_lt;refine W3 ?_;simp only[e];refine S0 (fun hb h=>?_) fun hb h=>?_
    ·exact d0 (E5 hi (by omega))
    refine W3 ?_;simp only[e];refine S0 (fun hb h=>?_) fun hb h=>?_
    ·exact d0 (E5 hi (by omega))
    have hdg:48<=(fZ s)[i].toNat/\(fZ s)[i].toNat<=57:=by omega
    have ht:=decFrom_take hi p2 hdg
    have e2:(10:Int)*acc+(((fZ s)[i].toNat:Int)-48)=((acc*10+((fZ s)[i].toNat-48):Nat):Int):=by omega
    refine W3 ?_;simp -implicitDefEqProofs (disch:=omega) only[go_sem,wrap_u8,e];rw[e2];exact bJ (i+1,acc*10+((fZ s)[i].toNat-48)) (by simp only;omega) rfl rfl ⟨by simp only;omega,ht,by simp only[Nat.pow_succ];omega⟩
   ·have hi:i=(fZ s).length:=by omega
    have hv:Lib.decFrom 0 (fZ s)=some acc:=by rw[hi,List.take_length] at p2;exact p2
    have yZ:=SS hv (by omega);rw[if_neg hn] at yZ;refine C1 (yT ((acc:Int)) (by omega) (by omega)) ?_;refine S0 (fun hb h=>?_) fun hb h=>?_
    ·exact d0 (yZ.trans (if_neg h))
    ·rw[yZ.trans (if_pos h)];rfl
 ·have hs0:s=[]:=List.eq_nil_of_length_eq_zero (by omega)
  have hb0:(fZ s).length=0:=by rw[hs0];rfl
  refine S0 (fun hb h=>?_) fun hb h=>?_
  ·exact d0 (yB (by omega))
  ·omega
theorem PL(s:List UInt8)(hs:s.length<=1073741824):aH prog 110 [.c (.d (.s s))] (.dQ [(false,[.d (.i .i64 ((iA s).getD 0))]),(false,[.d (.b (iA s).isSome)])]):=fun S=>by
 refine aD (rs:=[.tmp 2,.tmp 3]) zmx func110 ntmps110 rfl rfl rfl rfl rfl ?_;refine W1 ?_;exact C4 (Zb s hs)
theorem afy{x:aj}{i:Nat}(hi:i<x.ah.length)(h:x.sz<=4194304):x.ah[i].sz<=4194304:=by
 have:=iO (List.getElem_mem hi);rw[jW,mh] at h;omega
theorem afz{x:aj}(h:x.sz<=4194304):x.aO.length<=4194304/\x.ah.length<=4194304:=by
 rw[jW] at h;omega
theorem Cg:∀n:Nat,∀x:aj,SizeOf.sizeOf x<n->∀y:aj,x.sz<=4194304->aH prog 63 [x.v,y.v] (.c (.d (.b (dec (x=y)))))
 |0=>fun x h=>by omega
 |n+1=>by
  have ih:=Cg n;intro x hn y hsz S;have apf:=aj.vT x;have hb:=afz hsz;refine aD (rs:=[.tmp 4]) zmx func63 ntmps63 rfl rfl rfl rfl rfl ?_;refine W1 ?_;refine S0 (fun hb h=>?_) fun hb h=>?_
  ·exact ay (aA (fun e=>h (by rw[e]))).symm
  have h1:=h;refine S0 (fun hb h=>?_) fun hb h=>?_
  ·exact ay (aA (fun e=>h (by rw[e]))).symm
  have hl:x.ah.length=y.ah.length:=by omega
  refine aU (ι:=Nat) zmx rfl [2,3,5] (fun i=>[.c (.ptr (0,0) 0),.c (.ptr (0,1) 0),.c (.d (.i .i64 i))]) (fun i=>[.box [.d (.s x.aO),.d (.sl (x.ah.map aj.enc))],.box [.d (.s y.aO),.d (.sl (y.ah.map aj.enc))]]::S)
   (fun i=>i<=x.ah.length/\∀j,j<i->x.ah[j]? =y.ah[j]?) (fun i=>x.ah.length-i) 0 rfl rfl ⟨Nat.zero_le _,fun j h=>by omega⟩ ?_
  rintro i ⟨p1,p2⟩;simp -implicitDefEqProofs (disch:=omega) only[go_sem,aj.aB];refine S0 (fun hb h=>?_) fun hb h=>?_
  ·have hi:i<x.ah.length:=by omega
   have hi':i<y.ah.length:=by omega
   refine W3 ?_;refine C1 (ih x.ah[i] (by have:=List.sizeOf_lt_of_mem (List.getElem_mem hi);omega) y.ah[i] (afy hi hsz)) ?_;refine S0 (fun hb h=>?_) fun hb h=>?_
   ·exact ay (aA (fun e=>h (by simp only[e]))).symm
   refine bJ (i+1) (by omega) rfl rfl ⟨by omega,fun j hj=> ?_⟩;by_cases e:j=i
   ·subst e;rw[List.getElem?_eq_getElem hi,List.getElem?_eq_getElem hi',h]
   ·exact p2 j (by omega)
  ·have hi:i=x.ah.length:=by omega
   refine ay (aY ?_).symm;refine aj.ext (by first|exact h1|(simp at h1;exact h1)) (List.ext_getElem? fun j=> ?_);by_cases hj:j<i
   ·exact p2 j hj
   ·rw[List.getElem?_eq_none (by omega),List.getElem?_eq_none (by omega)]
theorem uo(x y:aj)(h:x.sz<=4194304):aH prog 63 [x.v,y.v] (.c (.d (.b (dec (x=y))))):=Cg _ x (Nat.lt_succ_self _) y h
theorem Ch:∀n:Nat,(∀x:aj,SizeOf.sizeOf x<n->∀y:aj,x.sz<=4194304->aH prog 69 [x.v,y.v] (.c (.d (.b (dec (x=y))))))/\
 (∀xs:List aj,SizeOf.sizeOf xs<n->∀ys:List aj,xs.length<=4194304->(∀t∈xs,t.sz<=4194304)->aH prog 136 [.c (.d (.sl (xs.map aj.enc))),.c (.d (.sl (ys.map aj.enc))),.c (.fn 69 [])] (.c (.d (.b (dec (xs=ys))))))
 |0=>⟨fun x h=>by omega,fun x h=>by omega⟩
 |n+1=>by
  obtain⟨ih,qQ⟩:=Ch n;refine⟨fun x hn y hsz S=> ?_,fun xs hn ys hlen hsz S=> ?_⟩
  ·have apf:=aj.vT x;have hb:=afz hsz;refine aD (rs:=[.tmp 4]) zmx func69 ntmps69 rfl rfl rfl rfl rfl ?_;refine W1 ?_;refine S0 (fun hb h=>?_) fun hb h=>?_
   ·have h1:=h;refine W3 ?_
    refine aZ (qQ x.ah (by omega) y.ah (by omega) (fun t ht=>by
     obtain⟨i,hi,e⟩:=List.getElem_of_mem ht
     rw[<-e];exact afy hi hsz)) ?_
    refine W1 ?_;refine ay (iB ⟨fun e=>aj.ext h1 e,fun e=>by rw[e]⟩)
   ·exact ay (aA (fun e=>h (by rw[e]))).symm
  ·refine aD (rs:=[.tmp 6]) zmx func136 ntmps136 rfl rfl rfl rfl rfl ?_;refine W1 ?_;refine S0 (fun hb h=>?_) fun hb h=>?_
   ·exact ay (aA (fun e=>h (by rw[e]))).symm
   have hl:xs.length=ys.length:=by omega
   refine aU (ι:=Nat) zmx rfl [1,2,15,16,17] (fun y=>[.c (.d (.sl (ys.map aj.enc))),.c (.fn 69 []),.c (.d (.sl (xs.map aj.enc))),.c (.d (.i .i64 xs.length)),.c (.d (.i .i64 y))]) (fun y=>[]::S)
    (fun i=>i<=xs.length/\∀j,j<i->xs[j]? =ys[j]?) (fun y=>xs.length-y) 0 rfl rfl ⟨Nat.zero_le _,fun j h=>by omega⟩ ?_
   rintro i ⟨p1,p2⟩;refine W1 ?_;refine S0 (fun hb h=>?_) fun hb h=>?_
   ·have hi:i<xs.length:=by omega
    have hi':i<ys.length:=by omega
    refine W3 ?_;refine C1 (ih xs[i] (by have:=List.sizeOf_lt_of_mem (List.getElem_mem hi);omega) ys[i] (hsz _ (List.getElem_mem hi))) ?_;refine S0 (fun hb h=>?_) fun hb h=>?_
    ·exact ay (aA (fun e=>h (by simp only[e]))).symm
    refine bZ 0 (by decide) (i+1) (by omega) rfl rfl rfl rfl ⟨by omega,fun j hj=> ?_⟩;by_cases e:j=i
    ·subst e;rw[List.getElem?_eq_getElem hi,List.getElem?_eq_getElem hi',h]
    ·exact p2 j (by omega)
   ·have hi:i=xs.length:=by omega
    refine ay (aY (List.ext_getElem? fun j=> ?_)).symm;by_cases hj:j<i
    ·exact p2 j hj
    ·rw[List.getElem?_eq_none (by omega),List.getElem?_eq_none (by omega)]
theorem uq(x y:aj)(h:x.sz<=4194304):aH prog 69 [x.v,y.v] (.c (.d (.b (dec (x=y))))):=(Ch _).1 x (Nat.lt_succ_self _) y h
theorem Bv{α:Type}[SizeOf α]:∀(i:Nat)(l:List α),SizeOf.sizeOf (l.drop i)<=SizeOf.sizeOf l
 |0,l=>by simp
 |i+1,[]=>by simp
 |i+1,x::l=>by
  have:=Bv i l;rw[List.drop_succ_cons];simp only[List.cons.sizeOf_spec];omega
theorem oZ(l:List aj)(n i:Nat)(h:l.length<=n):((l.map aj.enc).take n).drop i=(l.drop i).map aj.enc:=by
 rw[List.take_of_length_le (by rw[List.length_map];exact h),List.map_drop]
theorem xu(l:List aj)(i:Nat):(l.getD i cu).sz<=dA l:=by
 rw[List.getD_eq_getElem?_getD];by_cases h:i<l.length
 ·rw[List.getElem?_eq_getElem h];exact iO (List.getElem_mem h)
 ·rw[List.getElem?_eq_none (by omega)];rw[Option.getD_none,jW];simp[cu,aj.aO,aj.ah,bn]
theorem eG(x:aj):x.ah.length+dA x.ah<=x.sz:=by rw[jW,mh];omega
theorem AQ(x:aj):x.aO.length<=x.sz:=by rw[jW];omega
def zq(x:aj):List D:=[.s x.aO]
def allA(l:List aj):Bool:=l.all fun x=>decide (x.aO≠[])
theorem aaf{l:List aj}{i:Nat}(hi:i<l.length)(h:l[i].aO=[]):allA l=false/\eU l=[]:=by
 have:allA l=false:=by
  unfold allA;rw[List.all_eq_false];exact⟨_,List.getElem_mem hi,by simp[h]⟩
 refine⟨this,?_⟩;unfold eU;unfold allA at this;rw[this];rfl
theorem Xk{l:List aj}(h:∀j (hj:j<l.length),l[j].aO≠[]):allA l=true/\(eU l).map encS=l.map zq:=by
 have:allA l=true:=by
  unfold allA;rw[List.all_eq_true];intro x hx;obtain⟨j,hj,rfl⟩:=List.getElem_of_mem hx;exact decide_eq_true (h j hj)
 refine⟨this,?_⟩;unfold eU;unfold allA at this;rw[this,if_pos rfl,List.map_map];rfl
theorem KD{l:List aj}{i:Nat}(hi:i<l.length):(l.take i).map zq++[[.s l[i].aO]]=(l.take (i+1)).map zq:=by
 rw[List.take_succ_eq_append_getElem hi,List.map_append];rfl
theorem Mx{l:List aj}{i:Nat}:((l.take i).map zq).length<=i:=by rw[List.length_map];exact List.length_take_le _ _
def lt(l:List ak)(n:Nat):List (List D):=dZ (l.map ak.enc) n
def gq(l:List ak):Nat:=kD (l.map ak.enc)
theorem alE(x:ak)(n:Nat):eZ x.enc n=[.i .i64 x.aJ,.s x.fName,.ol n (lt x.fArgs (n+1))]:=by
 rw[ak.aB];simp only[eZ,og,pX,Nat.add_zero,lt]
theorem afA(l:List ak)(n:Nat):(lt l n).length=l.length:=by unfold lt;rw[kI,List.length_map]
theorem alF{l:List ak}{i:Nat}(hi:i<l.length)(n:Nat):lt (l.take i) n++[[.i .i64 l[i].aJ,.s l[i].fName,.ol (n+gq (l.take i)) (lt l[i].fArgs (n+gq (l.take i)+1))]]=lt (l.take (i+1)) n:=by
 rw[List.take_succ_eq_append_getElem hi];unfold lt gq;rw[List.map_append,qJ];simp only[List.map_cons,List.map_nil,dZ,alE,lt]
theorem SV{l:List ak}{i:Nat}(hi:i<l.length):(l.take i).map ak.enc++[[.i .i64 l[i].aJ,.s l[i].fName,.sl (l[i].fArgs.map ak.enc)]]=(l.take (i+1)).map ak.enc:=by
 rw[List.take_succ_eq_append_getElem hi,List.map_append];simp only[List.map_cons,List.map_nil,ak.aB]
theorem Rh(k:Int)(s:List UInt8)(n:Nat):Less (.agg [.d (.i .i64 k),.d (.s s),.bG []]) (.agg [.d (.i .i64 k),.d (.s s),.d (.ol n [])]):=(fG.cons (.refl _) (.cons (.refl _) (.cons (dV n) .nil))).less
theorem aag(k:Int)(s:List UInt8)(es:List (List D)):Less (.agg [.d (.i .i64 k),.d (.s s),.bG es]) (.agg [.d (.i .i64 k),.d (.s s),.d (.sl es)]):=(fG.cons (.refl _) (.cons (.refl _) (.cons (fB es) .nil))).less
theorem anz{s:List UInt8}(h:s≠[]):((s.getD 0 0).toNat:Int)=39<->s.head? =some 39:=by
 cases s with
 |nil=>exact(h rfl).elim
 |cons b s=>
  simp only[List.getD_cons_zero,List.head?_cons,Option.some.injEq];constructor
  ·intro e
   have:b.toNat=39:=by omega
   exact UInt8.toNat.inj this
  ·intro e;rw[e];rfl
theorem PN(s:List UInt8)(n:Nat)(h:s.length<=n):(s.take n).drop 1=s.tail:=by rw[List.take_of_length_le h,List.drop_one]
theorem PO{a b:List (List D)}(h:iN a b):pO (.d (.sl a)) (.d (.sl b)):=fun w σ S β v hr=>h.rep hr
abbrev ak.vl(t:ak)(n:Nat):V:=.agg [.d (.i .i64 t.aJ),.d (.s t.fName),.d (.ol n (lt t.fArgs (n+1)))]
theorem xw(l:List (List UInt8)):kD (l.map encS)=0:=by
 induction l with
 |nil=>rfl
 |cons s l ih=>rw[List.map_cons,kD,ih];rfl
theorem anA{b:Bool}{x:aj}{r:V}{k:Int}{s:List UInt8}{l:List ak}(h:dO b x=.mk k s l)(hl:Less r (.agg [.d (.i .i64 k),.d (.s s),.d (.sl (l.map ak.enc))])):Less r (dO b x).v:=by rw[h];exact hl
theorem ajY{b:Bool}{x:aj}{k:Int}{s:List UInt8}(h:dO b x=.mk k s []):Less (.agg [.d (.i .i64 k),.d (.s s),.bG []]) (dO b x).v:=by rw[h];exact aag k s []
theorem ajZ{b:Bool}{x:aj}{k:Int}{s:List UInt8}(h:dO b x=.mk k s []):Less (.agg [.d (.i .i64 k),.d (.s s),.d (.sl [])]) (dO b x).v:=by rw[h];exact gL _
theorem aj0{b:Bool}{x:aj}{r:V}{n:Nat}{k:Int}{s:List UInt8}{l:List ak}(h:dO b x=.mk k s l)(hl:Less r (.agg [.d (.i .i64 k),.d (.s s),.d (.ol n (lt l (n+1)))])):Less r ((dO b x).vl n):=by rw[h];exact hl
theorem afB{b:Bool}{x:aj}{n:Nat}{k:Int}{s:List UInt8}(h:dO b x=.mk k s []):Less (.agg [.d (.i .i64 k),.d (.s s),.bG []]) ((dO b x).vl n):=by rw[h];exact Rh k s n
theorem afC{b:Bool}{x:aj}{n:Nat}{k:Int}{s:List UInt8}(h:dO b x=.mk k s []):Less (.agg [.d (.i .i64 k),.d (.s s),.d (.ol n [])]) ((dO b x).vl n):=by rw[h];exact gL _
theorem Zc{s:List UInt8}(h:1<=s.length):(s.take 1).drop 0=[39]<->s.head? =some 39:=by
 cases s with
 |nil=>simp at h
 |cons b s=>simp
theorem Es(xs:List aj)(hx:xs.length<=1073741824):aH prog 76 [.c (.d (.sl (xs.map aj.enc)))] (.dQ [(false,[.d (.sl ((eU xs).map encS))]),(false,[.d (.b (allA xs))])]):=aH.of_le fun S=>by
 refine aD (rs:=[.tmp 2,.tmp 3]) zmx func76 ntmps76 rfl rfl rfl rfl rfl ?_;refine W1 ?_;refine W3 ?_;refine nK 4 1 [] rfl (by simp) ?_
 refine aU (ι:=Nat) zmx rfl [0,4,5] (fun i=>[.c (.d (.sl (xs.map aj.enc))),.c (.bN (0,0) ((xs.take i).map zq)),.c (.d (.i .i64 i))]) (fun i=>[.tok 1 ((xs.take i).map zq)]::S)
  (fun i=>i<=xs.length/\∀j,∀hj:j<xs.length,j<i->xs[j].aO≠[]) (fun i=>xs.length-i) 0 rfl rfl ⟨Nat.zero_le _,fun j _ h=>by omega⟩ ?_
 rintro i ⟨p1,p2⟩;have hl:=Mx (l:=xs) (i:=i);simp -implicitDefEqProofs (disch:=omega) only[go_sem,aj.aB];refine S0 (fun hb h=>?_) fun hb h=>?_
 ·have hi':i<xs.length:=by omega
  have hs:=KD hi';refine W3 ?_;refine S0 (fun hb h=>?_) fun hb h=>?_
  ·obtain⟨e1,e2⟩:=aaf hi' h;rw[e1,e2];exact(iZ.cons (.cons (fB _) .nil) (.refl _)).less
  ·refine W3 ?_;rw[hs];refine bJ (i+1) (by omega) rfl rfl ⟨by omega,fun j hj hji=> ?_⟩;by_cases e':j=i
   ·subst e';exact h
   ·exact p2 j hj (by omega)
 ·have hi':i=xs.length:=by omega
  subst hi';obtain⟨e1,e2⟩:=Xk fun j hj=>p2 j hj hj;rw[e1,e2,List.take_length];exact gL _
theorem sI(x:aj)(hx:x.sz<=4194304):aH prog 204 [x.v] (.c (.d (.sl ((eU x.ah).map encS)))):=fun S=>by
 have:=eG x;refine aD (rs:=[.tmp 2]) zmx func204 ntmps204 rfl rfl rfl rfl rfl ?_;refine W1 ?_;exact C3 (Es x.ah (by omega))
theorem fH(x:aj)(i:Nat)(hx:x.sz<=4194304)(hi:i<=100):aH prog 77 [x.v,.c (.d (.i .i64 i))] (x.ah.getD i cu).v:=aH.of_le fun S=>by
 have:=eG x;refine aD (rs:=[.cell 4 54]) zmx func77 ntmps77 rfl rfl rfl rfl rfl ?_;refine W1 ?_;refine S0 (fun hb h=>?_) fun hb h=>?_
 ·rw[List.getD_eq_getElem?_getD,List.getElem?_eq_none (by omega)];exact(fG.cons (.refl _) (.cons (fB _) .nil)).less
 ·have hi:i<x.ah.length:=by omega
  rw[List.getD_eq_getElem?_getD,List.getElem?_eq_getElem hi];exact gL _
theorem vC(a b:Int):aH prog 114 [.c (.d (.i .i64 a)),.c (.d (.i .i64 b))] (.c (.d (.i .i64 (min a b)))):=fun S=>by
 refine aD (rs:=[.tmp 4]) zmx func114 ntmps114 rfl rfl rfl rfl rfl ?_;refine W1 ?_;refine S0 (fun hb h=>?_) fun hb h=>?_
 ·exact int_eq (by omega)
 ·exact int_eq (by omega)
theorem yC(x:aj)(i:Nat)(hx:x.sz<=4194304):aH prog 205 [x.v,.c (.d (.i .i64 i))] (.c (.d (.sl ((x.ah.drop i).map aj.enc)))):=fun S=>by
 have:=eG x;refine aD (rs:=[.tmp 4]) zmx func205 ntmps205 rfl rfl rfl rfl rfl ?_;refine W1 ?_;refine aZ (vC _ _) ?_
 have e:min (i:Int) (x.ah.length:Int)=((min i x.ah.length:Nat):Int):=by omega
 rw[e];have hr:=gV (l:=x.ah);refine W1 ?_;refine W3 ?_;refine⟨⟨by omega,by omega,by omega,hr⟩,?_⟩;rw[oZ _ _ _ (Nat.le_refl _)];by_cases h:i<=x.ah.length
 ·rw[Nat.min_eq_left h]
 ·rw[Nat.min_eq_right (by omega),List.drop_length,List.drop_of_length_le (by omega)]
theorem acN(s:List UInt8):aH prog 179 [.c (.d (.s s)),.c (.d (.sl []))] (.agg [.d (.i .i64 2),.d (.s s),.d (.sl [])]):=aH.of_le fun S=>by
 refine aD (rs:=[.cell 4 24]) zmx func179 ntmps179 rfl rfl rfl rfl rfl ?_;refine W1 ?_;refine W3 ?_;exact gL _
theorem acO(s:List UInt8):aH prog 178 [.c (.d (.s s))] (.agg [.d (.i .i64 1),.d (.s s),.d (.sl [])]):=aH.of_le fun S=>by
 refine aD (rs:=[.cell 2 24]) zmx func178 ntmps178 rfl rfl rfl rfl rfl ?_;refine W1 ?_;refine W3 ?_;exact aag _ _ _
theorem Ja:∀N:Nat,(∀x:aj,SizeOf.sizeOf x<N->x.sz<=4194304->aH prog 115 [x.v] (dO false x).v)
 |0=>fun x h=>by omega
 |N+1=>by
  have ih:=Ja N;intro x hn hsz;have jX:=aj.vT x;have h1:=eG x;have h2:=AQ x;have hx:=aac false x
  have hall:∀t∈x.ah,t.sz<=4194304:=fun t ht=>by have:=iO ht;omega
  refine aH.of_le fun S=> ?_;refine aD (rs:=[.cell 2 24]) zmx func115 ntmps115 rfl rfl rfl rfl rfl ?_;refine W1 ?_;refine S0 (fun hb h=>?_) fun hb h=>?_
  ·have hne:=h;rw[if_neg h] at hx;have h39:=anz h;have hln:0<x.aO.length:=List.length_pos_iff.2 hne;have hsl:=PN x.aO x.aO.length (Nat.le_refl _);refine W3 ?_;refine S0 (fun hb h=>?_) fun hb h=>?_
   ·rw[if_pos (h39.1 h)] at hx;refine W3 ?_;rw[hsl];refine C1 (acO _) ?_;exact ajZ hx
   ·rw[if_neg (fun e=>h (h39.2 e))] at hx;refine C1 (acN _) ?_;exact ajZ hx
  rw[if_pos h] at hx;refine S0 (fun hb h=>?_) fun hb h=>?_
  ·rw[if_pos (by omega)] at hx;exact ajY hx
  rw[if_neg (by omega)] at hx
  have hl2:2<=x.ah.length:=by omega
  have a0:=jH (l:=x.ah) (i:=0) (by omega);have a1:=jH (l:=x.ah) (i:=1) (by omega);obtain⟨T,hT⟩:∃T:Nat->List (List D),T=fun i=>(((x.ah.map (dO false)).drop 1).take i).map ak.enc:=⟨_,rfl⟩
  have hT0:T 0=[]:=by rw[hT];rfl
  have iG:∀i,(T i).length<=i:=fun i=>by rw[hT];simp only[List.length_map];exact List.length_take_le _ _
  have hTr:∀i,∀r∈T i,r.length=3:=fun i=>by
   rw[hT];intro r hr;obtain⟨z,_,rfl⟩:=List.mem_map.1 hr;exact z.cO
  have hTs:∀i (hi:i+1<x.ah.length),T i++[[.i .i64 (dO false x.ah[i+1]).aJ,.s (dO false x.ah[i+1]).fName,.sl ((dO false x.ah[i+1]).fArgs.map ak.enc)]]=T (i+1):=fun i hi=>by
   have:=SV (l:=(x.ah.map (dO false)).drop 1) (i:=i) (by rw[List.length_drop,List.length_map];omega);rw[List.getElem_drop,List.getElem_map] at this;rw[hT];simp only[Nat.add_comm 1 i] at this ⊢;exact this
  have hTe:T (x.ah.length-1)=((x.ah.map (dO false)).drop 1).map ak.enc:=by
   rw[hT];simp only
   rw[List.take_of_length_le (by simp)]
  have hTn:(T (x.ah.length-1)).length=x.ah.length-1:=by rw[hTe];simp
  have hTd:(T (x.ah.length-1)).drop 1=((x.ah.map (dO false)).drop 2).map ak.enc:=by rw[hTe,<-List.map_drop,List.drop_drop]
  clear hT;refine W3 ?_;refine nK 4 3 [] rfl (by simp) ?_
  refine aU (ι:=Nat) zmx rfl [1,2,3,4,5] (fun i=>[.c (.ptr (0,0) 0),.c (.ptr (0,1) 0),.c (.d (.s x.ah[0].aO)),.c (.bN (0,2) (T i)),.c (.d (.i .i64 ((i+1:Nat):Int)))])
   (fun i=>[.box [.d (.s x.aO),.d (.sl (x.ah.map aj.enc))],.box [.d (.i .i64 0),.d (.s []),.bG []],.tok 3 (T i)]::S)
   (fun i=>i+1<=x.ah.length) (fun i=>x.ah.length-(i+1)) 0 (by rw[hT0];rfl) (by rw[hT0];rfl) (by omega) ?_
  intro i hi;have hl:=iG i;refine W1 ?_;refine S0 (fun hb h=>?_) fun hb h=>?_
  ·have hi':i+1<x.ah.length:=by omega
   have hm:=List.getElem_mem hi';have hs:=hTs i hi';refine W3 ?_;refine aZ (ih x.ah[i+1] (by have:=List.sizeOf_lt_of_mem hm;omega) (hall _ hm)) ?_;simp -implicitDefEqProofs (disch:=omega) only[go_sem,ak.aB];refine W3 ?_;rw[hs];exact bJ (i+1) (by omega) rfl rfl (by omega)
  have hi':i=x.ah.length-1:=by omega
  subst hi';have hrows:=hTr (x.ah.length-1);have hta:((T (x.ah.length-1)).take (x.ah.length-1))=T (x.ah.length-1):=List.take_of_length_le (by omega);rw[a0,a1] at hx;have tD:x.ah[0].aO=[100,121,110]/\x.ah.length=2/\x.ah[1].aO≠[]->dO false x=.mk 4 x.ah[1].aO []:=fun e=>hx.trans (if_pos ⟨e.1,.inr e.2⟩)
  have tA:x.ah[0].aO=[97,115,115,111,99]/\x.ah.length=3/\x.ah[1].aO≠[]->dO false x=.mk 3 x.ah[1].aO ((x.ah.map (dO false)).drop 2):=fun e=>by
   rw[hx,if_neg (fun e'=>by have:=e'.1.symm.trans e.1;revert this;decide),if_pos ⟨e.1,.inr e.2⟩]
  have tN:¬(x.ah[0].aO=[100,121,110]/\x.ah.length=2/\x.ah[1].aO≠[])->¬(x.ah[0].aO=[97,115,115,111,99]/\x.ah.length=3/\x.ah[1].aO≠[])->dO false x=.mk 2 x.ah[0].aO ((x.ah.map (dO false)).drop 1):=fun e1 e2=>by
   rw[hx,if_neg (fun e'=>e1 ⟨e'.1,e'.2.resolve_left (by decide)⟩),if_neg (fun e'=>e2 ⟨e'.1,e'.2.resolve_left (by decide)⟩)]
  clear hx hTs ih
  repeat' (first|(refine S0 (fun hb h=>?_) fun hb h=>?_))
  all_goals first
   |(refine⟨⟨by omega,by omega,hrows⟩,?_⟩;refine anA (tA ⟨by assumption,by omega,by assumption⟩) ?_;rw[hTn,hta,hTd];exact gL _)
   |exact ajY (tD ⟨by assumption,by omega,by assumption⟩)
   |(refine anA (tN (fun⟨a,b,c⟩=>by first|contradiction|omega) (fun⟨a,b,c⟩=>by first|contradiction|omega)) ?_;rw[hTe];exact gL _)
   |trace_state
theorem qN(x:aj)(hsz:x.sz<=4194304):aH prog 115 [x.v] (dO false x).v:=Ja _ x (Nat.lt_succ_self _) hsz
theorem Jb(xs:List aj)(hlen:xs.length<=4194304)(hsz:∀t∈xs,t.sz<=4194304):aH prog 206 [.c (.d (.sl (xs.map aj.enc)))] (.c (.d (.sl ((xs.map (dO false)).map ak.enc)))):=fun S=>by
 refine aD (rs:=[.tmp 2]) zmx func206 ntmps206 rfl rfl rfl rfl rfl ?_;refine W1 ?_;refine W3 ?_;refine nK 3 3 [] rfl (by simp) ?_
 refine aU (ι:=Nat) zmx rfl [0,3,4] (fun i=>[.c (.d (.sl (xs.map aj.enc))),.c (.bN (0,0) (((xs.map (dO false)).take i).map ak.enc)),.c (.d (.i .i64 i))]) (fun i=>[.tok 3 (((xs.map (dO false)).take i).map ak.enc)]::S)
  (fun i=>i<=xs.length) (fun i=>xs.length-i) 0 rfl rfl (Nat.zero_le _) ?_
 intro i hi
 have hl:(((xs.map (dO false)).take i).map ak.enc).length<=i:=by rw[List.length_map];exact List.length_take_le _ _
 refine W1 ?_;refine S0 (fun hb h=>?_) fun hb h=>?_
 ·have hi':i<xs.length:=by omega
  have hs:=SV (l:=xs.map (dO false)) (i:=i) (by rw[List.length_map];exact hi');rw[List.getElem_map] at hs;refine W3 ?_;refine C1 (qN xs[i] (hsz _ (List.getElem_mem hi'))) ?_;refine W3 ?_;rw[hs];exact bJ (i+1) (by omega) rfl rfl (by omega)
 ·have hi':i=(xs.map (dO false)).length:=by rw[List.length_map];omega
  rw[hi',List.take_length]
theorem PS(s:List UInt8)(hs:s.length<=1073741824):aH prog 300 [.c (.d (.s s)),.c (.d (.s [39]))] (.c (.d (.b (decide (s.head? =some 39))))):=fun S=>by
 refine aD (rs:=[.tmp 4]) zmx func300 ntmps300 rfl rfl rfl rfl rfl ?_;refine W1 ?_;refine S0 (fun hb h=>?_) fun hb h=>?_
 ·exact ay (decide_eq_decide.2 (Zc (by omega)))
 ·have:s=[]:=List.eq_nil_of_length_eq_zero (by omega);subst this;rfl
theorem PU(s:List UInt8)(hs:s.length<=1073741824):aH prog 258 [.c (.d (.s s)),.c (.d (.s [39]))] (.dQ [(false,[.d (.s (if s.head? =some 39 then s.tail else s))]),(false,[.d (.b (decide (s.head? =some 39)))])]):=fun S=>by
 refine aD (rs:=[.tmp 4,.tmp 5]) zmx func258 ntmps258 rfl rfl rfl rfl rfl ?_;refine W1 ?_;refine C1 (PS s hs) ?_;refine S0 (fun hb h=>?_) fun hb h=>?_
 ·rw[if_neg h,decide_eq_false h]
 ·have hl:0<s.length:=by
   cases s with
   |nil=>cases h
   |cons _ _=>simp
  refine W3 ?_;rw[if_pos h,decide_eq_true h,PN _ _ (Nat.le_refl _)]
theorem Xl(s:List UInt8)(hs:s.length<=1073741824):aH prog 192 [.c (.d (.s s)),.c (.d (.s [39]))] (.dQ [(false,[.d (.s (if s.head? =some 39 then s.tail else s))]),(false,[.d (.b (decide (s.head? =some 39)))])]):=fun S=>by
 refine aD (rs:=[.tmp 4,.tmp 5]) zmx func192 ntmps192 rfl rfl rfl rfl rfl ?_;refine W1 ?_;exact C3 (PU s hs)
theorem z8(xs:List aj)(hx:xs.length<=1073741824)(n:Nat):aH prog 81 [.c (.d (.sl (xs.map aj.enc)))] (.dQ [(false,[.d (.ol n ((eU xs).map encS))]),(false,[.d (.b (allA xs))])]):=aH.of_le fun S=>by
 refine lN (n) (rs:=[.tmp 2,.tmp 3]) zmx func81 ntmps81 rfl rfl rfl rfl rfl ?_;refine W1 ?_;refine W3 ?_;refine mU n 4 1 [] (.inl rfl) (by simp) ?_
 refine aU (ι:=Nat) zmx rfl [4,8,9,10] (fun i=>[.c (.bN (0,1) ((xs.take i).map zq)),.c (.d (.sl (xs.map aj.enc))),.c (.d (.i .i64 xs.length)),.c (.d (.i .i64 i))]) (fun i=>[.seed n,.fu n 1 ((xs.take i).map zq)]::S)
  (fun i=>i<=xs.length/\∀j,∀hj:j<xs.length,j<i->xs[j].aO≠[]) (fun i=>xs.length-i) 0 rfl rfl ⟨Nat.zero_le _,fun j _ h=>by omega⟩ ?_
 rintro i ⟨p1,p2⟩;have hl:=Mx (l:=xs) (i:=i);simp -implicitDefEqProofs (disch:=omega) only[go_sem,aj.aB];refine S0 (fun hb h=>?_) fun hb h=>?_
 ·have hi':i<xs.length:=by omega
  have hs:=KD hi';refine W3 ?_;refine S0 (fun hb h=>?_) fun hb h=>?_
  ·obtain⟨e1,e2⟩:=aaf hi' h;rw[e1,e2];exact(iZ.cons (.cons (dV n) .nil) (.refl _)).less
  ·refine W3 ?_;rw[hs];refine bZ 2 (by decide) (i+1) (by omega) rfl rfl rfl rfl ⟨by omega,fun j hj hji=> ?_⟩;by_cases e':j=i
   ·subst e';exact h
   ·exact p2 j hj (by omega)
 ·have hi':i=xs.length:=by omega
  subst hi';obtain⟨e1,e2⟩:=Xk fun j hj=>p2 j hj hj;rw[e1,e2,List.take_length];exact gL _
theorem q8(x:aj)(hx:x.sz<=4194304)(n:Nat):aH prog 219 [x.v] (.c (.d (.ol n ((eU x.ah).map encS)))):=fun S=>by
 have:=eG x;refine aD (rs:=[.tmp 2]) zmx func219 ntmps219 rfl rfl rfl rfl rfl ?_;refine W1 ?_;exact C3 (z8 x.ah (by omega) n)
theorem Zd(s:List UInt8)(n:Nat):aH prog 193 [.c (.d (.s s))] (.agg [.d (.i .i64 1),.d (.s s),.d (.ol n [])]):=aH.of_le fun S=>by
 refine aD (rs:=[.cell 2 24]) zmx func193 ntmps193 rfl rfl rfl rfl rfl ?_;refine W1 ?_;refine W3 ?_;exact Rh _ _ _
theorem Ze(s:List UInt8)(n:Nat):aH prog 194 [.c (.d (.s s))] (.agg [.d (.i .i64 4),.d (.s s),.d (.ol n [])]):=aH.of_le fun S=>by
 refine aD (rs:=[.cell 2 24]) zmx func194 ntmps194 rfl rfl rfl rfl rfl ?_;refine W1 ?_;refine W3 ?_;exact Rh _ _ _
theorem Cx:∀N:Nat,(∀x:aj,SizeOf.sizeOf x<N->∀n:Nat,x.sz<=4194304->aH prog 132 [x.v] ((dO true x).vl n))/\
 (∀xs:List aj,SizeOf.sizeOf xs<N->∀n q:Nat,xs.length<=4194304->(∀t∈xs,t.sz<=4194304)->aH prog 195 [.c (.d (.sl (xs.map aj.enc)))] (.c (.d (.ol n (lt (xs.map (dO true)) q)))))
 |0=>⟨fun x h=>by omega,fun x h=>by omega⟩
 |N+1=>by
  obtain⟨ih,qQ⟩:=Cx N;refine⟨fun x hn n hsz=>aH.of_le fun S=> ?_,fun xs hn n q hlen hsz S=> ?_⟩
  ·have jX:=aj.vT x;have h1:=eG x;have h2:=AQ x;have hx:=aac true x
   have hall:∀t∈x.ah,t.sz<=4194304:=fun t ht=>by have:=iO ht;omega
   refine aD (rs:=[.cell 2 24]) zmx func132 ntmps132 rfl rfl rfl rfl rfl ?_;refine W1 ?_;refine S0 (fun hb h=>?_) fun hb h=>?_
   ·rw[if_neg h] at hx;refine C1 (Xl x.aO (by omega)) ?_;refine S0 (fun hb h=>?_) fun hb h=>?_
    ·rw[if_pos h] at hx ⊢;refine C1 (Zd _ n) ?_;exact afC hx
    ·rw[if_neg h] at hx;refine W3 ?_;exact afB hx
   rw[if_pos h] at hx;refine S0 (fun hb h=>?_) fun hb h=>?_
   ·rw[if_pos (by omega)] at hx;exact afB hx
   rw[if_neg (by omega)] at hx
   have hl2:2<=x.ah.length:=by omega
   have a0:=jH (l:=x.ah) (i:=0) (by omega);have a1:=jH (l:=x.ah) (i:=1) (by omega);rw[a0,a1] at hx;have hr:=gV (l:=x.ah);have hd:=fun i=>oZ x.ah x.ah.length i (Nat.le_refl _);have hso:=fun i=>Bv i x.ah
   have hdl:∀i,(x.ah.drop i).length<=4194304:=fun i=>by rw[List.length_drop];omega
   have hda:∀i,∀t∈x.ah.drop i,t.sz<=4194304:=fun i t ht=>hall t (List.mem_of_mem_drop ht);refine W3 ?_;refine S0 (fun hb h=>?_) fun hb h=>?_
   ·have hx:=hx.trans (if_pos ⟨h,.inl rfl⟩);refine W3 ?_;refine C1 (Ze _ n) ?_;exact afC hx
   have hx:=hx.trans (if_neg fun e=>h e.1);refine S0 (fun hb h=>?_) fun hb h=>?_
   ·have hx:=hx.trans (if_pos ⟨h,.inl rfl⟩);refine⟨⟨by omega,by omega,hr⟩,?_⟩;rw[hd];refine C1 (qQ (x.ah.drop 2) (by have:=hso 2;omega) n (n+1) (hdl 2) (hda 2)) ?_;refine aj0 hx ?_;rw[List.map_drop];exact gL _
   ·have hx:=hx.trans (if_neg fun e=>h e.1);refine⟨⟨by omega,by omega,hr⟩,?_⟩;rw[hd];refine C1 (qQ (x.ah.drop 1) (by have:=hso 1;omega) n (n+1) (hdl 1) (hda 1)) ?_;refine aj0 hx ?_;rw[List.map_drop];exact gL _
  ·have Dj:=fun(i:Nat) (hi:i<xs.length)=>alF (l:=xs.map (dO true)) (i:=i) (by rw[List.length_map];exact hi) q;refine lN (n) (rs:=[.tmp 2]) zmx func195 ntmps195 rfl rfl rfl rfl rfl ?_;refine W1 ?_;refine W3 ?_;refine mU n 3 3 [] (.inl rfl) (by simp) ?_
   refine aU (ι:=Nat) zmx rfl [3,7,8,9] (fun i=>[.c (.bN (0,1) (lt ((xs.map (dO true)).take i) q)),.c (.d (.sl (xs.map aj.enc))),.c (.d (.i .i64 xs.length)),.c (.d (.i .i64 i))]) (fun i=>[.seed n,.fu n 3 (lt ((xs.map (dO true)).take i) q)]::S)
    (fun i=>i<=xs.length) (fun i=>xs.length-i) 0 rfl rfl (Nat.zero_le _) ?_
   intro i hi;simp -implicitDefEqProofs (disch:=omega) only[go_sem,aj.aB];refine S0 (fun hb h=>?_) fun hb h=>?_
   ·have hi':i<xs.length:=by omega
    have hs:=Dj i hi';rw[List.getElem_map] at hs
    have hl:(lt ((xs.map (dO true)).take i) q).length<=i:=by rw[afA];exact List.length_take_le _ _
    refine W3 ?_;refine C1 (ih xs[i] (by have:=List.sizeOf_lt_of_mem (List.getElem_mem hi');omega) (q+gq ((xs.map (dO true)).take i)) (hsz _ (List.getElem_mem hi'))) ?_;refine W3 ?_;rw[hs];exact bZ 2 (by decide) (i+1) (by omega) rfl rfl rfl rfl (by omega)
   ·have hi':i=(xs.map (dO true)).length:=by rw[List.length_map];omega
    rw[hi',List.take_length]
theorem q9(x:aj)(n:Nat)(hsz:x.sz<=4194304):aH prog 132 [x.v] ((dO true x).vl n):=(Cx _).1 x (Nat.lt_succ_self _) n hsz
theorem Gz(xs:List aj)(n q:Nat)(hlen:xs.length<=4194304)(hsz:∀t∈xs,t.sz<=4194304):aH prog 195 [.c (.d (.sl (xs.map aj.enc)))] (.c (.d (.ol n (lt (xs.map (dO true)) q)))):=(Cx _).2 xs (Nat.lt_succ_self _) n q hlen hsz
theorem vD(x:aj)(s:List UInt8)(k:Nat)(hk:1<=k)(hk2:k<=100)(hsz:x.sz<=4194304):aH prog 80 [x.v,.c (.d (.s s)),.c (.d (.i .i64 k))] (.c (.d (.b (dec (fM x=true/\k<=x.ah.length/\dJ x.ah 0=s))))):=fun S=>by
 have h1:=eG x;obtain⟨t,ht⟩:∃t,t=dec (fM x=true/\k<=x.ah.length/\dJ x.ah 0=s):=⟨_,rfl⟩;rw[<-ht];refine aD (rs:=[.tmp 6]) zmx func80 ntmps80 rfl rfl rfl rfl rfl ?_;refine W1 ?_;refine C1 (I5 x (by omega)) ?_;refine S0 (fun hb h=>?_) fun hb h=>?_
 ·have hv:=h;refine S0 (fun hb h=>?_) fun hb h=>?_
  ·have hl:0<x.ah.length:=by omega
   have hl2:k<=x.ah.length:=by omega
   have a0:=jH hl;refine W3 ?_;refine ay ?_;rw[ku,ht];exact iB ⟨fun e=>⟨hv,hl2,by rw[a0];exact e⟩,fun e=>by rw[<-a0];exact e.2.2⟩
  ·exact ay (ht.trans (aA fun e=>by omega)).symm
 ·exact ay (ht.trans (aA fun e=>by rw[e.1] at h;cases h)).symm
theorem qW(b:Bool)(x:aj):eP b x=if x.aO=[] then
 if b=true/\(x.ah.length<2\/dJ x.ah 0=jv/\x.ah.length<3) then l9
 else if dJ x.ah 0=qw then .mk 4 [] (dJ x.ah 1) 0 jf ((x.ah.map (eP b)).drop 2) []
 else if dJ x.ah 0=tY then .mk 6 [] (dJ x.ah 1) 0 jf ((x.ah.map (eP b)).drop 2) []
 else if dJ x.ah 0=tZ then .mk 8 [] (dJ x.ah 1) 0 jf ((x.ah.map (eP b)).drop 2) []
 else if dJ x.ah 0=qx then .mk 11 (dJ x.ah 1) [] 0 jf ((x.ah.map (eP b)).drop 2) []
 else if dJ x.ah 0=jv then .mk 5 (dJ x.ah 1) (dJ x.ah 2) 0 jf ((x.ah.map (eP b)).drop 3) []
 else if dJ x.ah 0=yA then .mk 9 [] [] 0 jf ((x.ah.map (eP b)).drop 1) []
 else if dJ x.ah 0=uM then .mk 12 [] [] 0 (dO b (x.ah.getD 1 cu)) ((x.ah.map (eP b)).drop 2) []
 else if dJ x.ah 0=lD then .mk 7 [] [] 0 jf (((x.ah.map (eP b)).drop 1).take 1) ((x.ah.map (sG b)).drop 2)
 else .mk 10 [] (dJ x.ah 0) 0 jf ((x.ah.map (eP b)).drop 1) []
 else match iA x.aO with
  |some n=>.mk 1 [] [] n jf [] []
  |none=>if x.aO=Bu then .mk 2 [] [] 1 jf [] [] else if x.aO=zY then .mk 2 [] [] 0 jf [] [] else .mk 3 [] x.aO 0 jf [] []:=by
 cases x;rw[eP,Cb,EZ];rfl
theorem aah(b:Bool)(x:aj)(h:2<=x.ah.length):sG b x=.mk (dJ x.ah 0) (eU ((x.ah.drop 1).dropLast)) (eP b (x.ah[x.ah.length-1]'(by omega))):=by
 obtain⟨a,l⟩:=x;simp only[aj.ah] at h ⊢;rw[sG,if_neg (by omega),Cb];congr 1;rw[List.getLastD_eq_getLast?,List.getLast?_eq_getElem?,List.length_map,List.getElem?_eq_getElem (by rw[List.length_map];omega)]
 simp
theorem aai(b:Bool)(x:aj)(h:x.ah.length<2):sG b x=.mk [] [] l9:=by
 obtain⟨a,l⟩:=x;rw[sG];exact if_pos h
def yF(b:Bool)(l:List aj):Prop:=¬(b=true/\(l.length<2\/dJ l 0=jv/\l.length<3))
theorem SX{b:Bool}{x:aj}(ha:x.aO=[])(hg:yF b x.ah)(h:dJ x.ah 0=qw):eP b x=.mk 4 [] (dJ x.ah 1) 0 jf ((x.ah.drop 2).map (eP b)) []:=by
 rw[qW,if_pos ha,if_neg hg,if_pos h];simp only[List.map_drop,List.map_take]
theorem Xm{b:Bool}{x:aj}(ha:x.aO=[])(hg:yF b x.ah)(h:dJ x.ah 0=tY):eP b x=.mk 6 [] (dJ x.ah 1) 0 jf ((x.ah.drop 2).map (eP b)) []:=by
 rw[qW,if_pos ha,if_neg hg,if_neg (by rw[h];decide),if_pos h];simp only[List.map_drop,List.map_take]
theorem Xn{b:Bool}{x:aj}(ha:x.aO=[])(hg:yF b x.ah)(h:dJ x.ah 0=tZ):eP b x=.mk 8 [] (dJ x.ah 1) 0 jf ((x.ah.drop 2).map (eP b)) []:=by
 rw[qW,if_pos ha,if_neg hg,if_neg (by rw[h];decide),if_neg (by rw[h];decide),if_pos h];simp only[List.map_drop,List.map_take]
theorem SY{b:Bool}{x:aj}(ha:x.aO=[])(hg:yF b x.ah)(h:dJ x.ah 0=qx):eP b x=.mk 11 (dJ x.ah 1) [] 0 jf ((x.ah.drop 2).map (eP b)) []:=by
 rw[qW,if_pos ha,if_neg hg,if_neg (by rw[h];decide),if_neg (by rw[h];decide),if_neg (by rw[h];decide),if_pos h];simp only[List.map_drop,List.map_take]
theorem MB{b:Bool}{x:aj}(ha:x.aO=[])(hg:yF b x.ah)(h:dJ x.ah 0=jv):eP b x=.mk 5 (dJ x.ah 1) (dJ x.ah 2) 0 jf ((x.ah.drop 3).map (eP b)) []:=by
 rw[qW,if_pos ha,if_neg hg,if_neg (by rw[h];decide),if_neg (by rw[h];decide),if_neg (by rw[h];decide),if_neg (by rw[h];decide),if_pos h];simp only[List.map_drop,List.map_take]
theorem aaj{b:Bool}{x:aj}(ha:x.aO=[])(hg:yF b x.ah)(h:dJ x.ah 0=yA):eP b x=.mk 9 [] [] 0 jf ((x.ah.drop 1).map (eP b)) []:=by
 rw[qW,if_pos ha,if_neg hg,if_neg (by rw[h];decide),if_neg (by rw[h];decide),if_neg (by rw[h];decide),if_neg (by rw[h];decide),if_neg (by rw[h];decide),if_pos h];simp only[List.map_drop,List.map_take]
theorem Xo{b:Bool}{x:aj}(ha:x.aO=[])(hg:yF b x.ah)(h:dJ x.ah 0=uM):eP b x=.mk 12 [] [] 0 (dO b (x.ah.getD 1 cu)) ((x.ah.drop 2).map (eP b)) []:=by
 rw[qW,if_pos ha,if_neg hg,if_neg (by rw[h];decide),if_neg (by rw[h];decide),if_neg (by rw[h];decide),if_neg (by rw[h];decide),if_neg (by rw[h];decide),if_neg (by rw[h];decide),if_pos h];simp only[List.map_drop,List.map_take]
theorem S9{b:Bool}{x:aj}(ha:x.aO=[])(hg:yF b x.ah)(h:dJ x.ah 0=lD):eP b x=.mk 7 [] [] 0 jf (((x.ah.drop 1).take 1).map (eP b)) ((x.ah.drop 2).map (sG b)):=by
 rw[qW,if_pos ha,if_neg hg,if_neg (by rw[h];decide),if_neg (by rw[h];decide),if_neg (by rw[h];decide),if_neg (by rw[h];decide),if_neg (by rw[h];decide),if_neg (by rw[h];decide),if_neg (by rw[h];decide),if_pos h];simp only[List.map_drop,List.map_take]
theorem Ta{b:Bool}{x:aj}(ha:x.aO=[])(hg:yF b x.ah)(h0:dJ x.ah 0≠qw)(h1:dJ x.ah 0≠tY)(h2:dJ x.ah 0≠tZ)(h3:dJ x.ah 0≠qx)(h4:dJ x.ah 0≠jv)(h5:dJ x.ah 0≠yA)(h6:dJ x.ah 0≠uM)(h7:dJ x.ah 0≠lD):eP b x=.mk 10 [] (dJ x.ah 0) 0 jf ((x.ah.drop 1).map (eP b)) []:=by
 rw[qW,if_pos ha,if_neg hg,if_neg h0,if_neg h1,if_neg h2,if_neg h3,if_neg h4,if_neg h5,if_neg h6,if_neg h7];simp only[List.map_drop,List.map_take]
theorem Tc{x:aj}(ha:x.aO=[])(hg:¬yF true x.ah):eP true x=l9:=by
 rw[qW,if_pos ha,if_pos (Decidable.not_not.1 hg)]
theorem Xp{b:Bool}{x:aj}{n:Int}(ha:x.aO≠[])(h:iA x.aO=some n):eP b x=.mk 1 [] [] n jf [] []:=by
 rw[qW,if_neg ha,h]
theorem Td{b:Bool}{x:aj}(ha:x.aO≠[])(h:iA x.aO=none)(h1:x.aO=Bu):eP b x=.mk 2 [] [] 1 jf [] []:=by
 rw[qW,if_neg ha,h];exact if_pos h1
theorem PV{b:Bool}{x:aj}(ha:x.aO≠[])(h:iA x.aO=none)(h1:x.aO≠Bu)(h2:x.aO=zY):eP b x=.mk 2 [] [] 0 jf [] []:=by
 rw[qW,if_neg ha,h];exact(if_neg h1).trans (if_pos h2)
theorem Xq{b:Bool}{x:aj}(ha:x.aO≠[])(h:iA x.aO=none)(h1:x.aO≠Bu)(h2:x.aO≠zY):eP b x=.mk 3 [] x.aO 0 jf [] []:=by
 rw[qW,if_neg ha,h];exact(if_neg h1).trans (if_neg h2)
def lE(l:List au)(n:Nat):List (List D):=dZ (l.map au.enc) n
def lF(l:List au):Nat:=kD (l.map au.enc)
def lM(l:List aT)(n:Nat):List (List D):=dZ (l.map aT.enc) n
def acP(l:List aT):Nat:=kD (l.map aT.enc)
abbrev au.vl(x:au)(n:Nat):V:=.agg [.d (.i .i64 x.aJ),.d (.s x.bD),.d (.s x.fName),.d (.i .i64 x.fN),.d (.i .i64 x.fType.aJ),.d (.s x.fType.fName),.d (.ol n (lt x.fType.fArgs (n+1))),
 .d (.ol (n+(gq x.fType.fArgs+1)) (lE x.fArgs (n+(gq x.fType.fArgs+1)+1))),.d (.ol (n+(gq x.fType.fArgs+1)+(lF x.fArgs+1)) (lM x.aR (n+(gq x.fType.fArgs+1)+(lF x.fArgs+1)+1)))]
theorem Xr(x:au)(n:Nat):eZ x.enc n=[.i .i64 x.aJ,.s x.bD,.s x.fName,.i .i64 x.fN,.i .i64 x.fType.aJ,.s x.fType.fName,.ol n (lt x.fType.fArgs (n+1)),
 .ol (n+(gq x.fType.fArgs+1)) (lE x.fArgs (n+(gq x.fType.fArgs+1)+1)),.ol (n+(gq x.fType.fArgs+1)+(lF x.fArgs+1)) (lM x.aR (n+(gq x.fType.fArgs+1)+(lF x.fArgs+1)+1))]:=by
 simp only[au.aB,ak.aB,List.cons_append,List.nil_append,eZ,og,pX,Nat.add_zero,lt,lE,lM,gq,lF]
theorem aiZ(x:aT)(n:Nat):eZ x.enc n=[.s x.dN,.ol n (x.aG.map encS)]++eZ x.fBody.enc (n+1):=by
 rw[aT.aB,Mq];simp only[eZ,og,wD,pX,Nat.add_zero,vB,xw,Nat.zero_add]
abbrev aT.vl(x:aT)(n:Nat):V:=.agg [.d (.s x.dN),.d (.ol n (x.aG.map encS)),.d (.i .i64 x.fBody.aJ),.d (.s x.fBody.bD),.d (.s x.fBody.fName),.d (.i .i64 x.fBody.fN),.d (.i .i64 x.fBody.fType.aJ),.d (.s x.fBody.fType.fName),.d (.ol (n+1) (lt x.fBody.fType.fArgs (n+1+1))),
 .d (.ol (n+1+(gq x.fBody.fType.fArgs+1)) (lE x.fBody.fArgs (n+1+(gq x.fBody.fType.fArgs+1)+1))),.d (.ol (n+1+(gq x.fBody.fType.fArgs+1)+(lF x.fBody.fArgs+1)) (lM x.fBody.aR (n+1+(gq x.fBody.fType.fArgs+1)+(lF x.fBody.fArgs+1)+1)))]
theorem afD(l:List au)(n:Nat):(lE l n).length=l.length:=by unfold lE;rw[kI,List.length_map]
theorem afE(l:List aT)(n:Nat):(lM l n).length=l.length:=by unfold lM;rw[kI,List.length_map]
theorem alG{l:List au}{i:Nat}(hi:i<l.length)(n:Nat):lE (l.take i) n++[eZ l[i].enc (n+lF (l.take i))]=lE (l.take (i+1)) n:=by
 rw[List.take_succ_eq_append_getElem hi];unfold lE lF;rw[List.map_append,qJ];rfl
theorem alH{l:List aT}{i:Nat}(hi:i<l.length)(n:Nat):lM (l.take i) n++[eZ l[i].enc (n+acP (l.take i))]=lM (l.take (i+1)) n:=by
 rw[List.take_succ_eq_append_getElem hi];unfold lM acP;rw[List.map_append,qJ];rfl
theorem afF{l:List au}{i:Nat}(hi:i<l.length):(l.take i).map au.enc++[l[i].enc]=(l.take (i+1)).map au.enc:=by
 rw[List.take_succ_eq_append_getElem hi,List.map_append];rfl
theorem afG{l:List aT}{i:Nat}(hi:i<l.length):(l.take i).map aT.enc++[l[i].enc]=(l.take (i+1)).map aT.enc:=by
 rw[List.take_succ_eq_append_getElem hi,List.map_append];rfl
theorem ie0{x:au}{n:Nat}{k N:Int}{tr nm:List UInt8}(h:x=.mk k tr nm N jf [] []):Less (.agg [.d (.i .i64 k),.d (.s tr),.d (.s nm),.d (.i .i64 N),.d (.i .i64 0),.d (.s []),.bG [],.bG [],.bG []]) (x.vl n):=by
 rw[h];exact(fG.cons (.refl _) (.cons (.refl _) (.cons (.refl _) (.cons (.refl _) (.cons (.refl _) (.cons (.refl _) (.cons (dV _) (.cons (dV _) (.cons (dV _) .nil))))))))).less
theorem Xt{x:au}{n:Nat}{k N:Int}{tr nm:List UInt8}{args:List au}(h:x=.mk k tr nm N jf args []):Less (.agg [.d (.i .i64 k),.d (.s tr),.d (.s nm),.d (.i .i64 N),.d (.i .i64 0),.d (.s []),.bG [],.d (.ol (n+1) (lE args (n+1+1))),.bG []]) (x.vl n):=by
 rw[h];exact(fG.cons (.refl _) (.cons (.refl _) (.cons (.refl _) (.cons (.refl _) (.cons (.refl _) (.cons (.refl _) (.cons (dV _) (.cons (.refl _) (.cons (dV _) .nil))))))))).less
theorem ie2{x:au}{n:Nat}{k N:Int}{tr nm:List UInt8}{ty:ak}{args:List au}(h:x=.mk k tr nm N ty args []):Less (.agg [.d (.i .i64 k),.d (.s tr),.d (.s nm),.d (.i .i64 N),.d (.i .i64 ty.aJ),.d (.s ty.fName),.d (.ol n (lt ty.fArgs (n+1))),.d (.ol (n+(gq ty.fArgs+1)) (lE args (n+(gq ty.fArgs+1)+1))),.bG []]) (x.vl n):=by
 rw[h];exact(fG.cons (.refl _) (.cons (.refl _) (.cons (.refl _) (.cons (.refl _) (.cons (.refl _) (.cons (.refl _) (.cons (.refl _) (.cons (.refl _) (.cons (dV _) .nil))))))))).less
theorem ie3{x:au}{n:Nat}{k N:Int}{tr nm:List UInt8}{args:List au}{arms:List aT}(h:x=.mk k tr nm N jf args arms):Less (.agg [.d (.i .i64 k),.d (.s tr),.d (.s nm),.d (.i .i64 N),.d (.i .i64 0),.d (.s []),.bG [],.d (.ol (n+1) (lE args (n+1+1))),.d (.ol (n+1+(lF args+1)) (lM arms (n+1+(lF args+1)+1)))]) (x.vl n):=by
 rw[h];exact(fG.cons (.refl _) (.cons (.refl _) (.cons (.refl _) (.cons (.refl _) (.cons (.refl _) (.cons (.refl _) (.cons (dV _) (.cons (.refl _) (.cons (.refl _) .nil))))))))).less
theorem se0{x:au}{k N:Int}{tr nm:List UInt8}(h:x=.mk k tr nm N jf [] []):Less (.agg [.d (.i .i64 k),.d (.s tr),.d (.s nm),.d (.i .i64 N),.d (.i .i64 0),.d (.s []),.bG [],.bG [],.bG []]) x.v:=by
 rw[h];exact(fG.cons (.refl _) (.cons (.refl _) (.cons (.refl _) (.cons (.refl _) (.cons (.refl _) (.cons (.refl _) (.cons (fB _) (.cons (fB _) (.cons (fB _) .nil))))))))).less
theorem Xu{x:au}{k N:Int}{tr nm:List UInt8}{args:List au}(h:x=.mk k tr nm N jf args []):Less (.agg [.d (.i .i64 k),.d (.s tr),.d (.s nm),.d (.i .i64 N),.d (.i .i64 0),.d (.s []),.bG [],.d (.sl (args.map au.enc)),.bG []]) x.v:=by
 rw[h];exact(fG.cons (.refl _) (.cons (.refl _) (.cons (.refl _) (.cons (.refl _) (.cons (.refl _) (.cons (.refl _) (.cons (fB _) (.cons (.refl _) (.cons (fB _) .nil))))))))).less
theorem se2{x:au}{k N:Int}{tr nm:List UInt8}{ty:ak}{args:List au}(h:x=.mk k tr nm N ty args []):Less (.agg [.d (.i .i64 k),.d (.s tr),.d (.s nm),.d (.i .i64 N),.d (.i .i64 ty.aJ),.d (.s ty.fName),.d (.sl (ty.fArgs.map ak.enc)),.d (.sl (args.map au.enc)),.bG []]) x.v:=by
 rw[h];exact(fG.cons (.refl _) (.cons (.refl _) (.cons (.refl _) (.cons (.refl _) (.cons (.refl _) (.cons (.refl _) (.cons (.refl _) (.cons (.refl _) (.cons (fB _) .nil))))))))).less
theorem se3{x:au}{k N:Int}{tr nm:List UInt8}{args:List au}{arms:List aT}(h:x=.mk k tr nm N jf args arms):Less (.agg [.d (.i .i64 k),.d (.s tr),.d (.s nm),.d (.i .i64 N),.d (.i .i64 0),.d (.s []),.bG [],.d (.sl (args.map au.enc)),.d (.sl (arms.map aT.enc))]) x.v:=by
 rw[h];exact(fG.cons (.refl _) (.cons (.refl _) (.cons (.refl _) (.cons (.refl _) (.cons (.refl _) (.cons (.refl _) (.cons (fB _) (.cons (.refl _) (.cons (.refl _) .nil))))))))).less
theorem Zf(l:List aj)(i:Nat):((l.map aj.enc).take l.length).drop (min i l.length)=(l.drop i).map aj.enc:=by
 rw[oZ _ _ _ (Nat.le_refl _)];by_cases h:i<=l.length
 ·rw[Nat.min_eq_left h]
 ·rw[Nat.min_eq_right (by omega),List.drop_length,List.drop_of_length_le (by omega)]
theorem alI(l:List aj):((l.map aj.enc).take (min 2 l.length)).drop 1=((l.drop 1).take 1).map aj.enc:=by
 match l with
 |[]=>rfl
 |[x]=>rfl
 |x::y::l=>simp[show min 2 (l.length+1+1)=2 by omega]
theorem acQ(l:List aj)(i:Nat)(h:i<l.length+3):(l.map aj.enc++([[.s [],.sl []],[.s [],.sl []],[.s [],.sl []]]:List (List D))).getD i []=[.s (dJ l i),.sl ((l.getD i cu).ah.map aj.enc)]:=by
 rw[List.getD_eq_getElem?_getD,List.getElem?_append];split
 ·rename_i hi;rw[List.length_map] at hi;rw[List.getElem?_map,List.getElem?_eq_getElem hi];simp only[Option.map_some,Option.getD_some];rw[aj.aB,jH hi,List.getD_eq_getElem?_getD,List.getElem?_eq_getElem hi];rfl
 ·rename_i hi;rw[List.length_map] at hi;rw[Gv (by omega),List.getD_eq_getElem?_getD,List.getElem?_eq_none (by omega:l.length<=i),List.length_map]
  have:i-l.length=0\/i-l.length=1\/i-l.length=2:=by omega
  rcases this with e|e|e<;>rw[e]<;>rfl
theorem Te(l:List aj)(h:2<=l.length):((l.map aj.enc).take ((l.length:Int)-1).toNat).drop 1=((l.drop 1).dropLast).map aj.enc:=by
 rw[show((l.length:Int)-1).toNat=l.length-1 by omega,<-List.map_take,<-List.map_drop,List.dropLast_eq_take,List.length_drop,List.drop_take]
theorem vE(x:aj)(i:Nat){m:Nat}(h:x.sz<=m):(x.ah.getD i cu).sz<=m:=by
 have:=xu x.ah i;have:=eG x;omega
theorem xA{l:List aj}(h:jw l=true){t:aj}(ht:t∈l):iK t=true:=Dh.1 h t ht
theorem tK{l:List aj}(h:jw l=true)(i:Nat):jw (l.drop i)=true:=Dh.2 fun t ht=>xA h (List.mem_of_mem_drop ht)
theorem afH{l:List aj}(h:jw l=true)(i:Nat):jw (l.take i)=true:=Dh.2 fun t ht=>xA h (List.mem_of_mem_take ht)
theorem FL{α:Type}[SizeOf α]:∀(i:Nat)(l:List α),SizeOf.sizeOf (l.take i)<=SizeOf.sizeOf l
 |0,[]=>by simp
 |0,x::l=>by rw[List.take_zero];simp only[List.cons.sizeOf_spec,List.nil.sizeOf_spec];omega
 |i+1,[]=>by simp
 |i+1,x::l=>by
  have:=FL i l;rw[List.take_succ_cons];simp only[List.cons.sizeOf_spec];omega
theorem acR(n:Int):aH prog 111 [.c (.d (.i .i64 n))] (.agg [.d (.i .i64 1),.d (.s []),.d (.s []),.d (.i .i64 n),.d (.i .i64 0),.d (.s []),.bG [],.bG [],.bG []]):=fun S=>by
 refine aD (rs:=[.cell 2 28]) zmx func111 ntmps111 rfl rfl rfl rfl rfl ?_;exact Z1
theorem Zg(s:List UInt8):aH prog 112 [.c (.d (.s s))] (.agg [.d (.i .i64 3),.d (.s []),.d (.s s),.d (.i .i64 0),.d (.i .i64 0),.d (.s []),.bG [],.bG [],.bG []]):=fun S=>by
 refine aD (rs:=[.cell 2 28]) zmx func112 ntmps112 rfl rfl rfl rfl rfl ?_;exact Z1
theorem KE:∀N:Nat,(∀x:aj,SizeOf.sizeOf x<N->x.sz<=4194304->aH prog 61 [x.v] (eP false x).v)/\
 (∀xs:List aj,SizeOf.sizeOf xs<N->xs.length<=4194304->(∀t∈xs,t.sz<=4194304)->aH prog 113 [.c (.d (.sl (xs.map aj.enc)))] (.c (.d (.sl ((xs.map (eP false)).map au.enc)))))/\
 (∀x:aj,SizeOf.sizeOf x<N->x.sz<=4194304->aH prog 116 [x.v] (sG false x).v)
 |0=>⟨fun x h=>by omega,fun x h=>by omega,fun x h=>by omega⟩
 |N+1=>by
  obtain⟨ih,qQ,ihM⟩:=KE N;refine⟨fun x hn hsz=>aH.of_le fun S=> ?_,fun xs hn hlen hsz S=> ?_,fun x hn hsz=>aH.of_le fun S=> ?_⟩
  ·have jX:=aj.vT x;have h1:=eG x;have h2:=AQ x
   have hall:∀t∈x.ah,t.sz<=4194304:=fun t ht=>by have:=iO ht;omega
   have hr:=gV (l:=x.ah);have hso:=fun i=>Bv i x.ah
   have hdl:∀i,(x.ah.drop i).length<=4194304:=fun i=>by rw[List.length_drop];omega
   have hda:∀i,∀t∈x.ah.drop i,t.sz<=4194304:=fun i t ht=>hall t (List.mem_of_mem_drop ht)
   have hg:yF false x.ah:=fun e=>by cases e.1
   refine aD (rs:=[.cell 2 28]) zmx func61 ntmps61 rfl rfl rfl rfl rfl ?_;refine W1 ?_;refine S0 (fun hb h=>?_) fun hb h=>?_
   ·have hne:=h;refine aZ (PL x.aO (by omega)) ?_
    cases Ci:iA x.aO with
    |some m=>
     simp -implicitDefEqProofs (disch:=omega) only[go_sem,Option.getD_some,Option.isSome_some];refine C1 (acR m) ?_;exact se0 (Xp hne Ci)
    |none=>
     simp -implicitDefEqProofs (disch:=omega) only[go_sem,Option.getD_none,Option.isSome_none];refine S0 (fun hb h=>?_) fun hb h=>?_
     ·exact se0 (Td hne Ci h)
     have k1:=h;refine S0 (fun hb h=>?_) fun hb h=>?_
     ·exact se0 (PV hne Ci k1 h)
     have k2:=h;refine C1 (Zg _) ?_;exact se0 (Xq hne Ci k1 k2)
   have ha:=h;have l0:=acQ x.ah 0 (by omega);have l1:=acQ x.ah 1 (by omega);have l2:=acQ x.ah 2 (by omega)
   have hm1:min (1:Int) (x.ah.length:Int)=((min 1 x.ah.length:Nat):Int):=by omega
   have hm2:min (2:Int) (x.ah.length:Int)=((min 2 x.ah.length:Nat):Int):=by omega
   have hm3:min (3:Int) (x.ah.length:Int)=((min 3 x.ah.length:Nat):Int):=by omega
   have hd:=fun i=>Zf x.ah i;have hdd:=oZ x.ah x.ah.length 1 (Nat.le_refl _);simp -implicitDefEqProofs (disch:=omega) only[go_sem,l0,l1,l2];refine W3 ?_
   with_reducible refine dM (fun hb=> ?_) (fun hb=> ?_)<;>have h:=hb<;>(try simp only[wf_preprocess] at h)<;>simp -implicitDefEqProofs (disch:=omega) only[go_sem,hb,l0,l1,l2]<;>refine W3 ?_
   ·refine aZ (vC _ _) ?_;rw[hm2];refine W1 ?_;refine⟨⟨by omega,by omega,by omega,hr⟩,?_⟩;rw[hd];refine C1 (qQ (x.ah.drop 2) (by have:=hso 2;omega) (hdl 2) (hda 2)) ?_;exact Xu (SX ha hg h)
   have acS:=h
   with_reducible refine dM (fun hb=> ?_) (fun hb=> ?_)<;>have h:=hb<;>(try simp only[wf_preprocess] at h)<;>simp -implicitDefEqProofs (disch:=omega) only[go_sem,hb,l0,l1,l2]<;>refine W3 ?_
   ·refine aZ (vC _ _) ?_;rw[hm3];refine W1 ?_;refine⟨⟨by omega,by omega,by omega,hr⟩,?_⟩;rw[hd];refine C1 (qQ (x.ah.drop 3) (by have:=hso 3;omega) (hdl 3) (hda 3)) ?_;exact Xu (MB ha hg h)
   have Lp:=h
   with_reducible refine dM (fun hb=> ?_) (fun hb=> ?_)<;>have h:=hb<;>(try simp only[wf_preprocess] at h)<;>simp -implicitDefEqProofs (disch:=omega) only[go_sem,hb,l0,l1,l2]<;>refine W3 ?_
   ·refine aZ (vC _ _) ?_;rw[hm2];refine W1 ?_;refine⟨⟨by omega,by omega,by omega,hr⟩,?_⟩;rw[hd];refine C1 (qQ (x.ah.drop 2) (by have:=hso 2;omega) (hdl 2) (hda 2)) ?_;exact Xu (Xm ha hg h)
   have nNew:=h
   with_reducible refine dM (fun hb=> ?_) (fun hb=> ?_)<;>have h:=hb<;>(try simp only[wf_preprocess] at h)<;>simp -implicitDefEqProofs (disch:=omega) only[go_sem,hb,l0,l1,l2]<;>refine W3 ?_
   ·refine aZ (vC _ _) ?_;rw[hm2];refine W1 ?_;refine⟨⟨by omega,by omega,by omega,hr⟩,?_⟩;rw[hd];refine C1 (qQ (x.ah.drop 2) (by have:=hso 2;omega) (hdl 2) (hda 2)) ?_;exact Xu (Xn ha hg h)
   have ai0:=h
   with_reducible refine dM (fun hb=> ?_) (fun hb=> ?_)<;>have h:=hb<;>(try simp only[wf_preprocess] at h)<;>simp -implicitDefEqProofs (disch:=omega) only[go_sem,hb,l0,l1,l2]<;>refine W3 ?_
   ·have hpos:0<x.ah.length:=by
     rcases Nat.eq_zero_or_pos x.ah.length with e|e
     ·rw[Gv (by omega)] at h;cases h
     ·exact e
    refine⟨⟨by omega,by omega,hr⟩,?_⟩;rw[hdd];refine C1 (qQ (x.ah.drop 1) (by have:=hso 1;omega) (hdl 1) (hda 1)) ?_;exact Xu (aaj ha hg h)
   have nIf:=h
   with_reducible refine dM (fun hb=> ?_) (fun hb=> ?_)<;>have h:=hb<;>(try simp only[wf_preprocess] at h)<;>simp -implicitDefEqProofs (disch:=omega) only[go_sem,hb,l0,l1,l2]<;>refine W3 ?_
   ·refine aZ (vC _ _) ?_;rw[hm2];refine W1 ?_;refine⟨⟨by omega,by omega,by omega,hr⟩,?_⟩;rw[hd];refine C1 (qQ (x.ah.drop 2) (by have:=hso 2;omega) (hdl 2) (hda 2)) ?_;exact Xu (SY ha hg h)
   have acT:=h
   with_reducible refine dM (fun hb=> ?_) (fun hb=> ?_)<;>have h:=hb<;>(try simp only[wf_preprocess] at h)<;>simp -implicitDefEqProofs (disch:=omega) only[go_sem,hb,l0,l1,l2]<;>refine W3 ?_
   ·refine C1 (qN (x.ah.getD 1 cu) (vE x 1 hsz)) ?_;refine aZ (vC _ _) ?_;rw[hm2];refine W1 ?_;refine⟨⟨by omega,by omega,by omega,hr⟩,?_⟩;rw[hd];refine C1 (qQ (x.ah.drop 2) (by have:=hso 2;omega) (hdl 2) (hda 2)) ?_;exact se2 (Xo ha hg h)
   have nThe:=h
   with_reducible refine dM (fun hb=> ?_) (fun hb=> ?_)<;>have h:=hb<;>(try simp only[wf_preprocess] at h)<;>simp -implicitDefEqProofs (disch:=omega) only[go_sem,hb,l0,l1,l2]<;>refine W3 ?_
   ·have hpos:0<x.ah.length:=by
     rcases Nat.eq_zero_or_pos x.ah.length with e|e
     ·rw[Gv (by omega)] at h;cases h
     ·exact e
    have hdec:=S9 ha hg h;refine aZ (vC _ _) ?_;rw[hm2];refine W1 ?_;refine⟨⟨by omega,by omega,hr⟩,?_⟩;rw[alI];refine C1 (qQ ((x.ah.drop 1).take 1) (by have:=hso 1;have:=FL 1 (x.ah.drop 1);omega) (by rw[List.length_take];omega) (fun t ht=>hda 1 t (List.mem_of_mem_take ht))) ?_;obtain⟨zN,acU⟩:∃zN,zN=((x.ah.drop 1).take 1).map (eP false):=⟨_,rfl⟩;obtain⟨T,hT⟩:∃T:Nat->List (List D),T=fun k=>(((x.ah.drop 2).map (sG false)).take k).map aT.enc:=⟨_,rfl⟩
    have hT0:T 0=[]:=by rw[hT];rfl
    have iG:∀k,(T k).length<=k:=fun k=>by rw[hT];simp only[List.length_map];exact List.length_take_le _ _
    have hTs:∀k (hk:k+2<x.ah.length),T k++[(sG false x.ah[k+2]).enc]=T (k+1):=fun k hk=>by
     have:=afG (l:=(x.ah.drop 2).map (sG false)) (i:=k) (by rw[List.length_map,List.length_drop];omega);rw[List.getElem_map,List.getElem_drop] at this;rw[hT];simp only[Nat.add_comm 2 k] at this ⊢;exact this
    have hTe:T (x.ah.length-2)=((x.ah.drop 2).map (sG false)).map aT.enc:=by
     rw[hT];simp only
     rw[List.take_of_length_le (by simp)]
    clear hT;rw[<-acU] at hdec ⊢;refine qK 3 8 11 _ rfl rfl ?_
    refine aU (ι:=Nat) zmx rfl [1,2,6,8,9] (fun k=>[.c (.ptr (0,0) 0),.c (.ptr (0,1) 0),.c (.d (.i .i64 x.ah.length)),.c (.ptr (0,3) 0),.c (.d (.i .i64 ((k+2:Nat):Int)))])
     (fun k=>[.box [.d (.s x.aO),.d (.sl (x.ah.map aj.enc))],.box [.d (.i .i64 0),.d (.s []),.d (.s []),.d (.i .i64 0),.d (.i .i64 0),.d (.s []),.bG [],.bG [],.bG []],.tok 2 (x.ah.map aj.enc++[[.s [],.sl []],[.s [],.sl []],[.s [],.sl []]]),
       .box [.d (.i .i64 7),.d (.s []),.d (.s []),.d (.i .i64 0),.d (.i .i64 0),.d (.s []),.bG [],.d (.sl (zN.map au.enc)),.bN (0,4) (T k)],.tok 11 (T k)]::S)
     (fun k=>k<=x.ah.length-2) (fun k=>x.ah.length-(k+2)) 0 rfl (by rw[hT0];rfl) (Nat.zero_le _) ?_
    intro k hk;have hlk:=iG k;clear l0 l1 l2;refine W1 ?_;refine S0 (fun hb h=>?_) fun hb h=>?_
    ·have hk':k+2<x.ah.length:=by omega
     have hm:=List.getElem_mem hk';have hs:=hTs k hk';simp only[aT.aB,au.aB,ak.aB,List.cons_append,List.nil_append] at hs;refine W3 ?_;refine C1 (ihM x.ah[k+2] (by have:=List.sizeOf_lt_of_mem hm;omega) (hall _ hm)) ?_;refine W3 ?_;rw[hs];exact bJ (k+1) (by omega) rfl rfl (by omega)
    ·have hk':k=x.ah.length-2:=by omega
     subst hk';rw[hTe];exact se3 hdec
   have acV:=h;refine aZ (vC _ _) ?_;rw[hm1];refine W1 ?_;refine⟨⟨by omega,by omega,by omega,hr⟩,?_⟩;rw[hd];refine C1 (qQ (x.ah.drop 1) (by have:=hso 1;omega) (hdl 1) (hda 1)) ?_;exact Xu (Ta ha hg acS nNew ai0 acT Lp nIf nThe acV)
  ·have Dj:=fun(i:Nat) (hi:i<xs.length)=>afF (l:=xs.map (eP false)) (i:=i) (by rw[List.length_map];exact hi);refine aD (rs:=[.tmp 2]) zmx func113 ntmps113 rfl rfl rfl rfl rfl ?_;refine W1 ?_;refine W3 ?_;refine nK 3 9 [] rfl (by simp) ?_
   refine aU (ι:=Nat) zmx rfl [0,3,4] (fun i=>[.c (.d (.sl (xs.map aj.enc))),.c (.bN (0,0) (((xs.map (eP false)).take i).map au.enc)),.c (.d (.i .i64 i))]) (fun i=>[.tok 9 (((xs.map (eP false)).take i).map au.enc)]::S)
    (fun i=>i<=xs.length) (fun i=>xs.length-i) 0 rfl rfl (Nat.zero_le _) ?_
   intro i hi
   have hl:(((xs.map (eP false)).take i).map au.enc).length<=i:=by rw[List.length_map];exact List.length_take_le _ _
   refine W1 ?_;refine S0 (fun hb h=>?_) fun hb h=>?_
   ·have hi':i<xs.length:=by omega
    have hs:=Dj i hi';rw[List.getElem_map] at hs;simp only[au.aB,ak.aB,List.cons_append,List.nil_append] at hs;refine W3 ?_;refine C1 (ih xs[i] (by have:=List.sizeOf_lt_of_mem (List.getElem_mem hi');omega) (hsz _ (List.getElem_mem hi'))) ?_;refine W3 ?_;rw[hs];exact bJ (i+1) (by omega) rfl rfl (by omega)
   ·have hi':i=(xs.map (eP false)).length:=by rw[List.length_map];omega
    rw[hi',List.take_length]
  ·have jX:=aj.vT x;have h1:=eG x
   have hall:∀t∈x.ah,t.sz<=4194304:=fun t ht=>by have:=iO ht;omega
   have hr:=gV (l:=x.ah);refine aD (rs:=[.cell 2 94]) zmx func116 ntmps116 rfl rfl rfl rfl rfl ?_;refine W1 ?_;refine S0 (fun hb h=>?_) fun hb h=>?_
   ·rw[aai false x (by omega)];exact(fG.cons (.refl _) (.cons (fB _) (.cons (.refl _) (.cons (.refl _) (.cons (.refl _) (.cons (.refl _) (.cons (.refl _) (.cons (.refl _) (.cons (fB _) (.cons (fB _) (.cons (fB _) .nil))))))))))).less
   have hl2:2<=x.ah.length:=by omega
   have a0:=jH (l:=x.ah) (i:=0) (by omega);have hm:=List.getElem_mem (l:=x.ah) (n:=x.ah.length-1) (by omega);rw[aah false x hl2,a0];refine⟨⟨by omega,by omega,hr⟩,?_⟩;rw[Te _ hl2];refine C1 (Es ((x.ah.drop 1).dropLast) (by rw[List.length_dropLast,List.length_drop];omega)) ?_;refine W3 ?_
   have el:((x.ah.length:Int)-1).toNat=x.ah.length-1:=by omega
   simp only[el];refine C1 (ih (x.ah[x.ah.length-1]) (by have:=List.sizeOf_lt_of_mem hm;omega) (hall _ hm)) ?_;exact gL _
theorem FM(x:aj)(hsz:x.sz<=4194304):aH prog 61 [x.v] (eP false x).v:=(KE _).1 x (Nat.lt_succ_self _) hsz
end Go.Ab
namespace Go.Proofs
open Go.Shelf
def Tryz.lays172_ren:Go.Shelf.Ren:=⟨fun|172=>257|244=>298|245=>299|247=>317|279=>318|280=>319|281=>320|282=>321|287=>339|316=>340|171=>201|205=>341|321=>351|322=>352|243=>264|246=>305|283=>324|284=>325|285=>326|286=>327|129=>343|317=>342|318=>344|319=>345|320=>346|337=>353|338=>354|n=>n,fun|9=>9|3=>3|75=>239|76=>240|4=>4|5=>5|167=>275|37=>127|0=>0|85=>276|2=>2|168=>278|53=>282|175=>296|46=>262|210=>300|127=>311|145=>314|143=>312|21=>21|171=>281|173=>285|212=>303|51=>293|20=>20|213=>304|232=>316|233=>317|80=>318|n=>n,fun|15=>3|16=>4|17=>5|18=>6|19=>7|n=>n⟩
theorem Tryz.lays172:Go.Proofs.Lays.n172 prog Tryz.lays172_ren:={
 mixed:=by kernel_rfl
 f129:=func343.trans (congrArg some (by kernel_rfl))
 f171:=func201.trans (congrArg some (by kernel_rfl))
 f172:=func257.trans (congrArg some (by kernel_rfl))
 f205:=func341.trans (congrArg some (by kernel_rfl))
 f243:=func264.trans (congrArg some (by kernel_rfl))
 f244:=func298.trans (congrArg some (by kernel_rfl))
 f245:=func299.trans (congrArg some (by kernel_rfl))
 f246:=func305.trans (congrArg some (by kernel_rfl))
 f247:=func317.trans (congrArg some (by kernel_rfl))
 f279:=func318.trans (congrArg some (by kernel_rfl))
 f280:=func319.trans (congrArg some (by kernel_rfl))
 f281:=func320.trans (congrArg some (by kernel_rfl))
 f282:=func321.trans (congrArg some (by kernel_rfl))
 f283:=func324.trans (congrArg some (by kernel_rfl))
 f284:=func325.trans (congrArg some (by kernel_rfl))
 f285:=func326.trans (congrArg some (by kernel_rfl))
 f286:=func327.trans (congrArg some (by kernel_rfl))
 f287:=func339.trans (congrArg some (by kernel_rfl))
 f316:=func340.trans (congrArg some (by kernel_rfl))
 f317:=func342.trans (congrArg some (by kernel_rfl))
 f318:=func344.trans (congrArg some (by kernel_rfl))
 f319:=func345.trans (congrArg some (by kernel_rfl))
 f320:=func346.trans (congrArg some (by kernel_rfl))
 f321:=func351.trans (congrArg some (by kernel_rfl))
 f322:=func352.trans (congrArg some (by kernel_rfl))
 f337:=func353.trans (congrArg some (by kernel_rfl))
 f338:=func354.trans (congrArg some (by kernel_rfl))
 t0:=underlying0
 a0:=Tryz.isAgg0
 z0:=Tryz.sizeOf0
 v0:=Tryz.zeroValue0
 t2:=underlying2
 a2:=Tryz.isAgg2
 z2:=Tryz.sizeOf2
 v2:=Tryz.zeroValue2
 t3:=underlying3
 a3:=Tryz.isAgg3
 z3:=Tryz.sizeOf3
 v3:=Tryz.zeroValue3
 t4:=underlying4
 a4:=Tryz.isAgg4
 z4:=Tryz.sizeOf4
 v4:=Tryz.zeroValue4
 t5:=underlying5
 a5:=Tryz.isAgg5
 z5:=Tryz.sizeOf5
 v5:=Tryz.zeroValue5
 t9:=underlying9
 a9:=Tryz.isAgg9
 z9:=Tryz.sizeOf9
 v9:=Tryz.zeroValue9
 t20:=underlying20
 a20:=Tryz.isAgg20
 z20:=Tryz.sizeOf20
 v20:=Tryz.zeroValue20
 t21:=underlying21
 a21:=Tryz.isAgg21
 z21:=Tryz.sizeOf21
 v21:=Tryz.zeroValue21
 t37:=underlying127
 a37:=Tryz.isAgg127
 z37:=Tryz.sizeOf127
 v37:=Tryz.zeroValue127
 t46:=underlying262
 a46:=Tryz.isAgg262
 z46:=Tryz.sizeOf262
 v46:=Tryz.zeroValue262
 t51:=underlying293
 a51:=Tryz.isAgg293
 z51:=Tryz.sizeOf293
 v51:=Tryz.zeroValue293
 t53:=underlying282
 a53:=Tryz.isAgg282
 z53:=Tryz.sizeOf282
 v53:=Tryz.zeroValue282
 t75:=underlying239
 a75:=Tryz.isAgg239
 z75:=Tryz.sizeOf239
 v75:=Tryz.zeroValue239
 t76:=underlying240
 a76:=Tryz.isAgg240
 z76:=Tryz.sizeOf240
 v76:=Tryz.zeroValue240
 t85:=underlying276
 a85:=Tryz.isAgg276
 z85:=Tryz.sizeOf276
 v85:=Tryz.zeroValue276
 t127:=underlying311
 a127:=Tryz.isAgg311
 z127:=Tryz.sizeOf311
 v127:=Tryz.zeroValue311
 t143:=underlying312
 a143:=Tryz.isAgg312
 z143:=Tryz.sizeOf312
 v143:=Tryz.zeroValue312
 t145:=underlying314
 a145:=Tryz.isAgg314
 z145:=Tryz.sizeOf314
 v145:=Tryz.zeroValue314
 t167:=underlying275
 a167:=Tryz.isAgg275
 z167:=Tryz.sizeOf275
 v167:=Tryz.zeroValue275
 t168:=underlying278
 a168:=Tryz.isAgg278
 z168:=Tryz.sizeOf278
 v168:=Tryz.zeroValue278
 t171:=underlying281
 a171:=Tryz.isAgg281
 z171:=Tryz.sizeOf281
 v171:=Tryz.zeroValue281
 t173:=underlying285
 a173:=Tryz.isAgg285
 z173:=Tryz.sizeOf285
 v173:=Tryz.zeroValue285
 t175:=underlying296
 a175:=Tryz.isAgg296
 z175:=Tryz.sizeOf296
 v175:=Tryz.zeroValue296
 t210:=underlying300
 a210:=Tryz.isAgg300
 z210:=Tryz.sizeOf300
 v210:=Tryz.zeroValue300
 t212:=underlying303
 a212:=Tryz.isAgg303
 z212:=Tryz.sizeOf303
 v212:=Tryz.zeroValue303
 t213:=underlying304
 a213:=Tryz.isAgg304
 z213:=Tryz.sizeOf304
 t232:=underlying316
 a232:=Tryz.isAgg316
 z232:=Tryz.sizeOf316
 v232:=Tryz.zeroValue316
 t233:=underlying317
 a233:=Tryz.isAgg317
 z233:=Tryz.sizeOf317
 v233:=Tryz.zeroValue317
 g15:=by kernel_rfl
 g16:=by kernel_rfl
 g17:=by kernel_rfl
 g18:=by kernel_rfl
 g19:=by kernel_rfl}
open Go.RowKit in
theorem Tryz.strconv_Atoi(s:ByteArray)(n:Int)(hl:s.size<=18)(h:Lib.atoi s.data.toList=some n)(w:World):
 Calls prog 257 #[.string s] w fun e w'=>e=.returned (.tuple #[.int .i64 n,.nilIface])/\∃t,w'=Lib.bytesWorld w 5 t:=Any.strconv_Atoi Tryz.lays172 s n hl h w
def Tryz.laysC172_ren:Go.Shelf.Ren:=⟨fun|172=>257|244=>298|245=>299|247=>317|279=>318|280=>319|281=>320|282=>321|287=>339|316=>340|171=>201|205=>341|321=>351|322=>352|243=>264|246=>305|283=>324|284=>325|285=>326|286=>327|129=>343|317=>342|318=>344|319=>345|320=>346|337=>353|338=>354|n=>n,fun|9=>9|3=>3|75=>239|76=>240|4=>4|5=>5|167=>275|37=>127|0=>0|85=>276|2=>2|168=>278|53=>282|175=>296|46=>262|210=>300|127=>311|145=>314|143=>312|21=>21|171=>281|173=>285|212=>303|51=>293|20=>20|213=>304|232=>316|233=>317|80=>318|n=>n,fun|15=>3|16=>4|17=>5|18=>6|19=>7|n=>n⟩
theorem Tryz.laysC172:Go.Proofs.LaysC.n172 prog Tryz.laysC172_ren:={
 mixed:=by kernel_rfl
 f129:=func343.trans (congrArg some (by kernel_rfl))
 f171:=func201.trans (congrArg some (by kernel_rfl))
 f172:=func257.trans (congrArg some (by kernel_rfl))
 f205:=func341.trans (congrArg some (by kernel_rfl))
 f243:=func264.trans (congrArg some (by kernel_rfl))
 f244:=func298.trans (congrArg some (by kernel_rfl))
 f245:=func299.trans (congrArg some (by kernel_rfl))
 f246:=func305.trans (congrArg some (by kernel_rfl))
 f247:=func317.trans (congrArg some (by kernel_rfl))
 f279:=func318.trans (congrArg some (by kernel_rfl))
 f280:=func319.trans (congrArg some (by kernel_rfl))
 f281:=func320.trans (congrArg some (by kernel_rfl))
 f282:=func321.trans (congrArg some (by kernel_rfl))
 f283:=func324.trans (congrArg some (by kernel_rfl))
 f284:=func325.trans (congrArg some (by kernel_rfl))
 f285:=func326.trans (congrArg some (by kernel_rfl))
 f286:=func327.trans (congrArg some (by kernel_rfl))
 f287:=func339.trans (congrArg some (by kernel_rfl))
 f316:=func340.trans (congrArg some (by kernel_rfl))
 f317:=func342.trans (congrArg some (by kernel_rfl))
 f318:=func344.trans (congrArg some (by kernel_rfl))
 f319:=func345.trans (congrArg some (by kernel_rfl))
 f320:=func346.trans (congrArg some (by kernel_rfl))
 f321:=func351.trans (congrArg some (by kernel_rfl))
 f322:=func352.trans (congrArg some (by kernel_rfl))
 f337:=func353.trans (congrArg some (by kernel_rfl))
 f338:=func354.trans (congrArg some (by kernel_rfl))
 t0:=underlying0
 a0:=Tryz.isAgg0
 z0:=Tryz.sizeOf0
 v0:=Tryz.zeroValue0
 t2:=underlying2
 a2:=Tryz.isAgg2
 z2:=Tryz.sizeOf2
 v2:=Tryz.zeroValue2
 t3:=underlying3
 a3:=Tryz.isAgg3
 z3:=Tryz.sizeOf3
 v3:=Tryz.zeroValue3
 t4:=underlying4
 a4:=Tryz.isAgg4
 z4:=Tryz.sizeOf4
 v4:=Tryz.zeroValue4
 t5:=underlying5
 a5:=Tryz.isAgg5
 z5:=Tryz.sizeOf5
 v5:=Tryz.zeroValue5
 t9:=underlying9
 a9:=Tryz.isAgg9
 z9:=Tryz.sizeOf9
 v9:=Tryz.zeroValue9
 t20:=underlying20
 a20:=Tryz.isAgg20
 z20:=Tryz.sizeOf20
 v20:=Tryz.zeroValue20
 t21:=underlying21
 a21:=Tryz.isAgg21
 z21:=Tryz.sizeOf21
 v21:=Tryz.zeroValue21
 t37:=underlying127
 a37:=Tryz.isAgg127
 z37:=Tryz.sizeOf127
 v37:=Tryz.zeroValue127
 t46:=underlying262
 a46:=Tryz.isAgg262
 z46:=Tryz.sizeOf262
 v46:=Tryz.zeroValue262
 t51:=underlying293
 a51:=Tryz.isAgg293
 z51:=Tryz.sizeOf293
 v51:=Tryz.zeroValue293
 t53:=underlying282
 a53:=Tryz.isAgg282
 z53:=Tryz.sizeOf282
 v53:=Tryz.zeroValue282
 t75:=underlying239
 a75:=Tryz.isAgg239
 z75:=Tryz.sizeOf239
 v75:=Tryz.zeroValue239
 t76:=underlying240
 a76:=Tryz.isAgg240
 z76:=Tryz.sizeOf240
 v76:=Tryz.zeroValue240
 t85:=underlying276
 a85:=Tryz.isAgg276
 z85:=Tryz.sizeOf276
 v85:=Tryz.zeroValue276
 t127:=underlying311
 a127:=Tryz.isAgg311
 z127:=Tryz.sizeOf311
 v127:=Tryz.zeroValue311
 t143:=underlying312
 a143:=Tryz.isAgg312
 z143:=Tryz.sizeOf312
 v143:=Tryz.zeroValue312
 t145:=underlying314
 a145:=Tryz.isAgg314
 z145:=Tryz.sizeOf314
 v145:=Tryz.zeroValue314
 t167:=underlying275
 a167:=Tryz.isAgg275
 z167:=Tryz.sizeOf275
 v167:=Tryz.zeroValue275
 t168:=underlying278
 a168:=Tryz.isAgg278
 z168:=Tryz.sizeOf278
 v168:=Tryz.zeroValue278
 t171:=underlying281
 a171:=Tryz.isAgg281
 z171:=Tryz.sizeOf281
 v171:=Tryz.zeroValue281
 t173:=underlying285
 a173:=Tryz.isAgg285
 z173:=Tryz.sizeOf285
 v173:=Tryz.zeroValue285
 t175:=underlying296
 a175:=Tryz.isAgg296
 z175:=Tryz.sizeOf296
 v175:=Tryz.zeroValue296
 t210:=underlying300
 a210:=Tryz.isAgg300
 z210:=Tryz.sizeOf300
 v210:=Tryz.zeroValue300
 t212:=underlying303
 a212:=Tryz.isAgg303
 z212:=Tryz.sizeOf303
 v212:=Tryz.zeroValue303
 t213:=underlying304
 a213:=Tryz.isAgg304
 z213:=Tryz.sizeOf304
 t232:=underlying316
 a232:=Tryz.isAgg316
 z232:=Tryz.sizeOf316
 v232:=Tryz.zeroValue316
 t233:=underlying317
 a233:=Tryz.isAgg317
 z233:=Tryz.sizeOf317
 v233:=Tryz.zeroValue317
 g15:=by kernel_rfl
 g16:=by kernel_rfl
 g17:=by kernel_rfl
 g18:=by kernel_rfl
 g19:=by kernel_rfl
 t80:=underlying318
 a80:=Tryz.isAgg318
 z80:=Tryz.sizeOf318
 v80:=Tryz.zeroValue318
 i0:=by kernel_rfl
 i2:=by kernel_rfl
 i3:=by kernel_rfl
 i4:=by kernel_rfl
 i5:=by kernel_rfl
 i9:=by kernel_rfl
 i20:=by kernel_rfl
 i21:=by kernel_rfl
 i37:=by kernel_rfl
 i46:=by kernel_rfl
 i51:=by kernel_rfl
 i53:=by kernel_rfl
 i75:=by kernel_rfl
 i76:=by kernel_rfl
 i80:=by kernel_rfl
 i85:=by kernel_rfl
 i127:=by kernel_rfl
 i143:=by kernel_rfl
 i145:=by kernel_rfl
 i167:=by kernel_rfl
 i168:=by kernel_rfl
 i171:=by kernel_rfl
 i173:=by kernel_rfl
 i175:=by kernel_rfl
 i210:=by kernel_rfl
 i212:=by kernel_rfl
 i232:=by kernel_rfl
 i233:=by kernel_rfl
 m15:=by kernel_rfl
 m16:=by kernel_rfl
 m17:=by kernel_rfl
 m18:=by kernel_rfl
 m19:=by kernel_rfl
 c0:=by kernel_rfl
 c2:=by kernel_rfl
 c3:=by kernel_rfl
 c4:=by kernel_rfl
 c5:=by kernel_rfl
 c9:=by kernel_rfl
 c20:=by kernel_rfl
 c21:=by kernel_rfl
 c37:=by kernel_rfl
 c46:=by kernel_rfl
 c51:=by kernel_rfl
 c53:=by kernel_rfl
 c75:=by kernel_rfl
 c76:=by kernel_rfl
 c80:=by kernel_rfl
 c85:=by kernel_rfl
 c127:=by kernel_rfl
 c143:=by kernel_rfl
 c145:=by kernel_rfl
 c167:=by kernel_rfl
 c168:=by kernel_rfl
 c171:=by kernel_rfl
 c173:=by kernel_rfl
 c175:=by kernel_rfl
 c210:=by kernel_rfl
 c212:=by kernel_rfl
 c213:=by kernel_rfl
 c232:=by kernel_rfl
 c233:=by kernel_rfl}
open Go.RowKit in
theorem Tryz.strconv_Atoi_err_var(s:ByteArray)(hl:s.size<=18)(h:Lib.atoi s.data.toList=none)(tp:TypeId)(p:Value)(w:World)(hvar:w.var? prog "strconv.ErrSyntax" =some #[.iface tp p]):
 Calls prog 257 #[.string s] w fun e w'=>∃N,e=.returned (.tuple #[.int .i64 0,.iface 278 (.pointer (some ⟨N,0,none⟩))])/\w.heap.size<=N/\w'.heap[N]? =some (.cells #[.string ⟨#[65,116,111,105]⟩,.string s,.iface tp p] 300 (0,0))/\Below w.heap.size w w':=Any.strconv_Atoi_err_var Tryz.laysC172 s hl h tp p w hvar
end Go.Proofs
