/-
  SEVERAL TEXTS IN ONE (merged by program): contracts and models, each with its own heading.
-/
import Derived.Test.YtokkjobjffhfjaaGreatDoorPartZibD
import Derived.Lib.ItoaNum
import Derived.Lib.Atoi
import Derived.Shelf.LaysM
import Derived.Shelf.Strconv.Itoa3
import Derived.Test.YtokkjobjffhfjaaGreatDoorProg
set_option maxHeartbeats 8000000
open Go.Proofs Go.Proofs.Tryz
set_option linter.unusedSimpArgs false
set_option linter.unusedVariables false
set_option maxRecDepth 4000
namespace Go.Ab
def gM(s:List UInt8)(r:RS):List C:=[.d (.s s),.d (.i .i64 (s.length-r.t.length:Nat)),.d (.i .i64 r.deep),.d (.i .i64 r.size),.d (.b r.bad)]
theorem DC{s u:List UInt8}{b:UInt8}(h:b::u <:+ s):s.length-(b::u).length<s.length/\s.getD (s.length-(b::u).length) 0=b/\s.length-(b::u).length+1=s.length-u.length:=by
 obtain⟨p,rfl⟩:=h
 have e:(p++b::u).length-(b::u).length=p.length:=by simp
 rw[e];refine⟨by simp,by simp[List.getD],by simp;omega⟩
theorem ajs{s t a c:List UInt8}(h:t <:+ s)(e:t=a++c):(s.take (s.length-c.length)).drop (s.length-t.length)=a:=by
 obtain⟨p,rfl⟩:=h;subst e
 have e1:(p++(a++c)).length-c.length=(p++a).length:=by simp;omega
 have e2:(p++(a++c)).length-(a++c).length=p.length:=by simp
 rw[e1,e2,<-List.append_assoc,List.take_left,List.drop_left]
theorem PS{s t:List UInt8}(h:t <:+ s):gD t <:+ s:=(zW t).trans h
theorem dh.of_le{P:Program}{f:FuncId}{args:List V}{t:V}{S S1:Store}(h:dh P f args S fun r S'=>Less r t/\S'=S1):dh P f args S fun r S'=>r=t/\S'=S1:=
 ⟨h.1,fun w σ β vs hS hv=>(h.2 w σ β vs hS hv).mono fun e w' ⟨v,r,S',σ',β',h1,h2,h3,h4,h5,h6,h7⟩=>⟨v,t,S',σ',β',h1,h2,h3,h4,h6 _ _ _ _ _ h5,rfl,h7⟩⟩
theorem Iy:Less (.agg [.d (.s []),.bE []]) bZ.v:=fK.less (.cons (.refl _) (.cons (eU _) .nil))
theorem aaD{b c:UInt8}(h:(b.toNat:Int)=c.toNat):b=c:=UInt8.toNat_inj.1 (by omega)
theorem KD(s:List UInt8)(hs:s.length<=1073741824)(r:RS)(ht:r.t <:+ s)(l j:Nat)(S:Store)(hk:bG S (l,j)=some (.box (gM s r))):
 dh prog 59 [.c (.ptr (l,j) 0)] S (fun v S'=>v=.dL []/\S'=bR S (l,j) (.box (gM s ⟨gD r.t,r.deep,r.size,r.bad⟩))):=by
 have g:∀x:Ab.Obj,bG (bR S (l,j) x) (l,j)=some x:=fun x=>fB _ _ _ _ hk;refine zcx [] func59 ntmps59 ?_;refine W1 ?_
 refine aT (ι:=List UInt8) zmx rfl [0] (fun _=>[.c (.ptr (1+l,j) 0)]) (fun t=>[]::bR S (l,j) (.box (gM s ⟨t,r.deep,r.size,r.bad⟩)))
  (fun t=>t <:+ s/\gD t=gD r.t) (fun t=>t.length) r.t rfl (congrArg (fun z=>[]::z) (ze S (l,j) hk).symm) ⟨ht,rfl⟩ ?_
 rintro t ⟨p1,p2⟩;have pl:=p1.length_le;rw[<-p2]
 cases t with
 |nil=>
  have d:decide (((s.length-0:Nat):Int)<s.length)=false:=decide_eq_false (by omega);simp -implicitDefEqProofs (disch:=omega) only[go_sem,g,bM,dZ,bH,gM,d];rfl
 |cons b u=>
  obtain⟨q1,q2,q3⟩:=DC p1;rw[List.length_cons] at q1 q2 q3;simp -implicitDefEqProofs (disch:=omega) only[go_sem,g,bM,dZ,bH,gM];generalize hA:s.length-(u.length+1)=a at q1 q2 q3 ⊢;have d:decide ((a:Int)<s.length)=true:=decide_eq_true (by omega);simp -implicitDefEqProofs (disch:=omega) only[go_sem,d,q2,g,bM,dZ,bH,gM];refine W3 ?_
  have eI:((s.length-u.length:Nat):Int)=(a:Int)+1:=by omega
  have blank:lX b=true->[]::bR S (l,j) (.box [.d (.s s),.d (.i .i64 ((a:Int)+1)),.d (.i .i64 r.deep),.d (.i .i64 r.size),.d (.b r.bad)])=[]::bR S (l,j) (.box (gM s ⟨u,r.deep,r.size,r.bad⟩))/\u <:+ s/\gD u=gD (b::u):=fun hb=>
   ⟨by simp only[gM];rw[eI],(List.suffix_cons b u).trans p1,(Ib hb).symm⟩
  with_reducible refine dD (fun hb=> ?_) (fun hb=> ?_)<;>have h:=hb<;>(try simp only[wf_preprocess] at h)<;>simp -implicitDefEqProofs (disch:=omega) only[go_sem,hb,g,bM,dZ,bH,gM]<;>refine W3 ?_
  ·obtain⟨x1,x2⟩:=blank (by unfold lX;simp only[Bool.or_eq_true,decide_eq_true_eq];omega);exact bF u (by simp) rfl x1 x2
  have hn:=h;simp only[q2]
  with_reducible refine dD (fun hb=> ?_) (fun hb=> ?_)<;>have h:=hb<;>(try simp only[wf_preprocess] at h)<;>simp -implicitDefEqProofs (disch:=omega) only[go_sem,hb,g,bM,dZ,bH,gM]<;>refine W3 ?_
  ·obtain⟨x1,x2⟩:=blank (by unfold lX;simp only[Bool.or_eq_true,decide_eq_true_eq];omega);exact bF u (by simp) rfl x1 x2
  ·have hb:lX b=false:=by
    cases e:lX b with
    |false=>rfl
    |true=>unfold lX at e;simp only[Bool.or_eq_true,decide_eq_true_eq] at e;omega
   rw[wZ hb,List.length_cons,hA]
theorem ac8(s:List UInt8)(hs:s.length<=1048576):∀(n:Nat)(r:RS),r.t <:+ s->r.bad=false->r.deep<=14->r.size<=900->2*r.t.length+1<=n->∀(l j:Nat)(S:Store),bG S (l,j)=some (.box (gM s r))->
 dh prog 58 [.c (.ptr (l,j) 0)] S (fun v S'=>v=(lG n r).1.v/\S'=bR S (l,j) (.box (gM s (lG n r).2))):=by
 intro n
 induction n using Nat.strongRecOn with
 |_ n ih=>
 intro r ht hbad hd hz hn l j S hk
 cases n with
 |zero=>omega
 |succ n=>
 refine dh.of_le ?_;have g:∀x:Ab.Obj,bG (bR S (l,j) x) (l,j)=some x:=fun x=>fB _ _ _ _ hk;have hsk:=PS ht;have hsl:=Cb r.t;obtain⟨y,hy⟩:∃y,y=lG (n+1) r:=⟨_,rfl⟩;rw[<-hy];rw[lG] at hy;obtain⟨rt,rd,rz,rb⟩:=r
 simp only at *
 subst hbad;refine afU [79] (rs:=[.cell 2 54]) zmx func58 ntmps58 rfl rfl rfl rfl rfl ?_;refine W1 ?_;refine bg rfl (KD s (by omega) _ ht (1+l) j _ (by rw[bM];exact hk)) ?_;simp -implicitDefEqProofs (disch:=omega) only[go_sem,g,bM,dZ,bH,gM]
 cases e:gD rt with
 |nil=>
  rw[e] at hy;simp only at hy;have d:decide ((s.length:Int)<=((s.length-0:Nat):Int))=true:=decide_eq_true (by omega);simp -implicitDefEqProofs (disch:=omega) only[go_sem,d,g,bM,dZ,bH,gM];refine⟨by rfl,?_⟩;simp -implicitDefEqProofs (disch:=omega) only[go_sem,g,bM,dZ,bH,gM];subst hy;exact⟨Iy,rfl⟩
 |cons b u=>
  rw[e] at hy hsk hsl;simp only at hy;obtain⟨q1,q2,q3⟩:=DC hsk;rw[List.length_cons] at q1 q2 q3 hsl;simp -implicitDefEqProofs (disch:=omega) only[go_sem,g,bM,dZ,bH,gM];generalize hA:s.length-(u.length+1)=a at q1 q2 q3 ⊢;have d:decide ((s.length:Int)<=(a:Int))=false:=decide_eq_false (by omega);simp -implicitDefEqProofs (disch:=omega) only[go_sem,d,g,bM,dZ,bH,gM];refine⟨by rfl,?_⟩;simp -implicitDefEqProofs (disch:=omega) only[go_sem,g,bM,dZ,bH,gM]
  with_reducible refine dD (fun hb=> ?_) (fun hb=> ?_)<;>have h:=hb<;>(try simp only[wf_preprocess] at h)<;>simp -implicitDefEqProofs (disch:=omega) only[go_sem,hb,g,bM,dZ,bH,gM]<;>refine W3 ?_
  ·rw[if_pos (by omega)] at hy;subst hy;refine⟨Iy,?_⟩;rw[<-hA];simp only[gM];rfl
  have hsz:¬900<rz+1:=by omega
  rw[if_neg hsz] at hy;clear h hb;obtain⟨z,hzd⟩:∃z,z=(b::u).dropWhile bS:=⟨_,rfl⟩
  refine Xq [79] zmx rfl [0,2,3] (ι:=List UInt8) (fun _=>[.c (.ptr (1+l,j) 0),.c (.ptr (0,0) 0),.c (.d (.i .i64 a))])
   (fun t=>[.box [.d (.s []),.bE []]]::bR S (l,j) (.box (gM s ⟨t,rd,rz+1,false⟩)))
   (fun t=>t <:+ b::u/\t.dropWhile bS=z) (fun t=>t.length) (b::u) rfl (by rw[<-hA];simp only[gM];rfl) ⟨List.suffix_refl _,hzd.symm⟩ ?_
  rintro t ⟨p1,p2⟩;have p3:=p1.trans hsk;have p4:=p3.length_le
  have ex:(t=[]\/∃c v,t=c::v/\bS c=false)\/∃c v,t=c::v/\bS c=true:=by
   cases t with
   |nil=>exact .inl (.inl rfl)
   |cons c v=>cases hc:bS c with
    |false=>exact .inl (.inr ⟨c,v,rfl,hc⟩)
    |true=>exact .inr ⟨c,v,rfl,hc⟩
  rcases ex with ex|⟨c,v,rfl,hc⟩
  rotate_left
  ·obtain⟨k1,k2,k3⟩:=DC p3;rw[List.length_cons] at k1 k2 k3;simp -implicitDefEqProofs (disch:=omega) only[go_sem,g,bM,dZ,bH,gM];generalize hB:s.length-(v.length+1)=m at k1 k2 k3 ⊢;have d1:decide ((m:Int)<s.length)=true:=decide_eq_true (by omega);simp -implicitDefEqProofs (disch:=omega) only[go_sem,d1,g,bM,dZ,bH,gM];refine W3 ?_;rw[k2];refine aX (Kh c) ?_;rw[hc];simp -implicitDefEqProofs (disch:=omega) only[go_sem,g,bM,dZ,bH,gM];refine⟨by rfl,?_⟩;simp -implicitDefEqProofs (disch:=omega) only[go_sem,g,bM,dZ,bH,gM];refine bF v (by simp) rfl ?_ ⟨(List.suffix_cons c v).trans p1,?_⟩
   ·have eI:((s.length-v.length:Nat):Int)=(m:Int)+1:=by omega
    simp only[gM];rw[eI]
    first|done|rfl
   ·rw[<-p2,List.dropWhile_cons,if_pos hc]
  have hzt:z=t:=by
   rw[<-p2];rcases ex with rfl|⟨c,v,rfl,hc⟩
   ·rfl
   ·rw[List.dropWhile_cons,if_neg (by rw[hc];decide)]
  subst hzt;obtain⟨m,hm⟩:∃m,m=s.length-z.length:=⟨_,rfl⟩
  have hyes:bS b=true->(s.take m).drop a=b::u.takeWhile bS/\a<m/\m=s.length-(u.dropWhile bS).length:=fun hab=>by
   have e1:z=u.dropWhile bS:=by rw[hzd,List.dropWhile_cons,if_pos hab]
   have e2:(u.dropWhile bS).length<=u.length:=(List.dropWhile_suffix bS).length_le;have e3:=ajs (a:=b::u.takeWhile bS) (c:=z) hsk (by rw[e1,List.cons_append,List.takeWhile_append_dropWhile]);rw[<-hm,List.length_cons,hA] at e3;have e4:=hsk.length_le;rw[List.length_cons] at e4;rw[e1] at hm;exact⟨e3,by omega,hm⟩
  have hno:bS b=false->m=a:=fun hab=>by
   have e1:z=b::u:=by rw[hzd,List.dropWhile_cons,if_neg (by rw[hab];decide)]
   rw[hm,e1,List.length_cons,hA]
  clear p1 p2 p4 hzd;rcases ex with rfl|⟨c,v,rfl,hc⟩;rw[List.length_nil] at hm;have d1:decide ((m:Int)<s.length)=false:=decide_eq_false (by omega);simp -implicitDefEqProofs (disch:=omega) only[go_sem,g,bM,dZ,bH,gM];rw[<-hm];simp -implicitDefEqProofs (disch:=omega) only[go_sem,d1,g,bM,dZ,bH,gM];refine⟨by rfl,?_⟩;simp -implicitDefEqProofs (disch:=omega) only[go_sem,g,bM,dZ,bH,gM]
  rotate_left
  obtain⟨k1,k2,k3⟩:=DC p3;rw[List.length_cons] at k1 k2 k3 hm;simp -implicitDefEqProofs (disch:=omega) only[go_sem,g,bM,dZ,bH,gM];rw[<-hm] at k1 k2 k3 ⊢;have d1:decide ((m:Int)<s.length)=true:=decide_eq_true (by omega);simp -implicitDefEqProofs (disch:=omega) only[go_sem,d1,g,bM,dZ,bH,gM];refine W3 ?_;rw[k2];refine aX (Kh c) ?_;rw[hc];simp -implicitDefEqProofs (disch:=omega) only[go_sem,g,bM,dZ,bH,gM];refine⟨by rfl,?_⟩;simp -implicitDefEqProofs (disch:=omega) only[go_sem,g,bM,dZ,bH,gM]
  all_goals clear p3 hm d1
  all_goals
   cases hab:bS b with
   |true=>
    obtain⟨r1,r2,r3⟩:=hyes hab;have d2:decide ((a:Int)<(m:Int))=true:=decide_eq_true (by omega);rw[if_pos hab] at hy;simp -implicitDefEqProofs (disch:=omega) only[go_sem,d2,g,bM,dZ,bH,gM];refine W3 ?_;refine⟨by rfl,?_⟩;simp -implicitDefEqProofs (disch:=omega) only[go_sem,g,bM,dZ,bH,gM];rw[r1];subst hy;refine⟨fK.less (.cons (.refl _) (.cons (eU _) .nil)),?_⟩;simp only[gM,<-r3]
    first|done|rfl
   |false=>
    obtain rfl:=hno hab;have d2:decide ((m:Int)<(m:Int))=false:=decide_eq_false (by omega);rw[if_neg (by rw[hab];decide)] at hy;clear hyes hno;simp -implicitDefEqProofs (disch:=omega) only[go_sem,d2,g,bM,dZ,bH,gM];refine W3 ?_;simp only[q2]
    have Ru:b≠40\/rd=14->Less (.agg [.d (.s []),.bE []]) y.1.v/\bR S (l,j) (.box [.d (.s s),.d (.i .i64 m),.d (.i .i64 rd),.d (.i .i64 (rz+1:Nat)),.d (.b true)])=bR S (l,j) (.box (gM s y.2)):=fun hq=>by
     rw[if_pos hq] at hy;subst hy;refine⟨Iy,?_⟩;rw[<-hA];simp only[gM];rfl
    with_reducible refine dD (fun hb=> ?_) (fun hb=> ?_)<;>have h:=hb<;>(try simp only[wf_preprocess] at h)<;>simp -implicitDefEqProofs (disch:=omega) only[go_sem,hb,g,bM,dZ,bH,gM]<;>refine W3 ?_
    ·refine⟨by rfl,?_⟩;simp -implicitDefEqProofs (disch:=omega) only[go_sem,g,bM,dZ,bH,gM];exact Ru (.inl fun hq=>h (by rw[hq];rfl))
    have arR:b=40:=aaD h;refine⟨by rfl,?_⟩;simp -implicitDefEqProofs (disch:=omega) only[go_sem,g,bM,dZ,bH,gM]
    with_reducible refine dD (fun hb=> ?_) (fun hb=> ?_)<;>have h:=hb<;>(try simp only[wf_preprocess] at h)<;>simp -implicitDefEqProofs (disch:=omega) only[go_sem,hb,g,bM,dZ,bH,gM]<;>refine W3 ?_
    ·exact Ru (.inr (by omega))
    have an5:¬(b≠40\/rd=14):=by rintro(h1|h1);exact h1 arR;omega
    rw[if_neg an5] at hy;clear Ru d2 d an5 hab;refine pE 1 1 2 _ rfl rfl ?_
    refine Xq [79] zmx rfl [0,2,4] (ι:=Nat×RS×List aj) (fun _=>[.c (.ptr (1+l,j) 0),.c (.ptr (0,0) 0),.c (.ptr (0,1) 0)])
     (fun x=>[.box [.d (.s []),.bE []],.box [.d (.s []),.bN (0,2) (x.2.2.map aj.enc)],.tok 2 (x.2.2.map aj.enc)]::bR S (l,j) (.box (gM s x.2.1)))
     (fun x=>rP x.1 x.2.1 x.2.2=y/\x.2.1.t <:+ s/\x.2.1.deep<=14/\x.2.1.size<=901/\(x.2.1.bad=false->1<=x.2.1.deep/\x.2.1.size<=900)/\x.2.2.length<=x.2.1.size/\(x.2.1.bad=true/\1<=x.1\/2*x.2.1.t.length+2<=x.1)/\x.1<=n) (fun x=>x.1)
     (n,⟨u,rd+1,rz+1,false⟩,[]) rfl ?_ ⟨hy.symm,(List.suffix_cons b u).trans hsk,by simp only;omega,by simp only;omega,fun _=>by simp only;omega,by simp only[List.length_nil];omega,.inr (by simp only;omega),Nat.le_refl _⟩ ?_
    ·have eI:((s.length-u.length:Nat):Int)=(m:Int)+1:=by omega
     simp only[gM,eI];rfl
    rintro⟨f,⟨t,dp,zz,bd⟩,acc⟩ ⟨p1,p2,p3,p4,p5,p6,p7,p8⟩;simp only at p1 p2 p3 p4 p5 p6 p7 p8;simp -implicitDefEqProofs (disch:=omega) only[go_sem,g,bM,dZ,bH,gM]
    cases bd with
    |true=>
     simp -implicitDefEqProofs (disch:=omega) only[go_sem,g,bM,dZ,bH,gM]
     cases f with
     |zero=>omega
     |succ f=>
      rw[rP,if_pos rfl] at p1;subst p1;exact⟨gy _,rfl⟩
    |false=>
     have p5:=p5 rfl;have p7:=p7.resolve_left fun h=>Bool.noConfusion h.1;simp -implicitDefEqProofs (disch:=omega) only[go_sem,g,bM,dZ,bH,gM];refine bg rfl (KD s (by omega) ⟨t,dp,zz,false⟩ p2 (1+l) j _ (by rw[bM];exact g _)) ?_;simp -implicitDefEqProofs (disch:=omega) only[go_sem,g,bM,dZ,bH,gM]
     cases f with
     |zero=>omega
     |succ f=>
     rw[rP,if_neg Bool.false_ne_true] at p1;have k1:=PS p2;have k0:=k1;have k2:=Cb t;have k3:=k2;have k4:=k1.length_le;obtain⟨q,hq⟩:∃q,q=lG f ⟨gD t,dp,zz,false⟩:=⟨_,rfl⟩;have hcall:=ih f (by omega) ⟨gD t,dp,zz,false⟩ k1 rfl p3 p5.2 (by simp only;omega);have an6:=(Ri f).1 ⟨gD t,dp,zz,false⟩ p3 p5.2;simp only at p1;rw[<-hq] at hcall an6 p1;obtain⟨o1,o2,o3,o4,o5,o6⟩:=an6;simp only at o1 o2 o4 o5 o6;have o7:=o1.length_le
     have ek:(gD t=[]\/∃c v,gD t=c::v/\c≠41)\/∃v,gD t=41::v:=by
      cases gD t with
      |nil=>exact .inl (.inl rfl)
      |cons c v=>by_cases hc:c=41
                 ·subst hc;exact .inr ⟨v,rfl⟩
                 ·exact .inl (.inr ⟨c,v,rfl,hc⟩)
     rcases ek with ek|⟨v,e2⟩
     rotate_left
     ·rw[e2] at k1 k2 p1 ⊢;obtain⟨w1,w2,w3⟩:=DC k1;rw[List.length_cons] at w1 w2 w3;have d1:decide (((s.length-(v.length+1):Nat):Int)<s.length)=true:=decide_eq_true (by omega);rw[if_pos (show(41::v).head? =some 41 from rfl)] at p1;simp -implicitDefEqProofs (disch:=omega) only[go_sem,d1,g,bM,dZ,bH,gM];refine W3 ?_;rw[w2];refine⟨by rfl,?_⟩
      have d2:decide ((((41:UInt8).toNat:Nat):Int)=41)=true:=by decide
      simp -implicitDefEqProofs (disch:=omega) only[go_sem,d2,g,bM,dZ,bH,gM];subst p1
      have e3:((s.length-v.length:Nat):Int)=((s.length-(v.length+1):Nat):Int)+1:=by omega
      have e4:((dp-1:Nat):Int)=(dp:Int)-1:=by omega
      refine⟨gy _,?_⟩;simp only[List.tail_cons,e3,e4]
     have hne:(gD t).head? ≠some 41:=by
      rcases ek with e2|⟨c,v,e2,hc⟩
      ·rw[e2];simp
      ·rw[e2];simpa using hc
     rw[if_neg hne] at p1;rcases ek with e2|⟨c,v,e2,hc⟩;have d1:decide (((s.length-0:Nat):Int)<s.length)=false:=decide_eq_false (by omega);rw[e2];simp -implicitDefEqProofs (disch:=omega) only[go_sem,d1,g,bM,dZ,bH,gM];refine⟨by rfl,?_⟩;simp -implicitDefEqProofs (disch:=omega) only[go_sem,g,bM,dZ,bH,gM]
     rotate_left
     rw[e2] at k1 k2 ⊢;obtain⟨w1,w2,w3⟩:=DC k1;rw[List.length_cons] at w1 w2 w3;have d1:decide (((s.length-(v.length+1):Nat):Int)<s.length)=true:=decide_eq_true (by omega);simp -implicitDefEqProofs (disch:=omega) only[go_sem,d1,g,bM,dZ,bH,gM];refine W3 ?_;simp only[w2];refine⟨by rfl,?_⟩;have d2:decide ((c.toNat:Int)=41)=false:=decide_eq_false fun hq=>hc (aaD (c:=41) hq);simp -implicitDefEqProofs (disch:=omega) only[go_sem,d2,g,bM,dZ,bH,gM]
     all_goals
      refine bg rfl (hcall (1+l) j _ (by rw[bM,e2];exact g _)) ?_;simp -implicitDefEqProofs (disch:=omega) only[go_sem,g,bM,dZ,bH,gM];refine W3 ?_;refine⟨by cases l<;>rfl,?_⟩;simp -implicitDefEqProofs (disch:=omega) only[go_sem,g,bM,dZ,bH,gM];refine bF (f,q.2,acc++[q.1]) (by simp) rfl ?_ ⟨p1,o1.trans k0,o3,o4.2,fun hq=>⟨by simp only;rw[o2 hq];exact p5.1,(o6 hq).2⟩,?_,?_,by simp only;omega⟩
      ·simp only[List.map_append,List.map_cons,List.map_nil,aj.aA,gM]
      ·simp only[List.length_append,List.length_cons,List.length_nil];omega
      ·cases hqb:q.2.bad with
       |true=>exact .inl ⟨rfl,by simp only;omega⟩
       |false=>
        have:=(o6 hqb).1;exact .inr (by simp only;omega)
theorem Uv(s:List UInt8)(hs:s.length<=1048576):aH prog 21 [.c (.d (.s s))] (.dL [(true,(jB s).enc.map .d),(false,[.d (.b (lD s))])]):=aH.of_le fun S=>by
 obtain⟨n,hn,hok,hx⟩:=WJ s;obtain⟨q,hq⟩:∃q,q=lG n ⟨s,0,0,false⟩:=⟨_,rfl⟩;have hr:=(Ri n).1 ⟨s,0,0,false⟩ (by simp only;omega) (by simp only;omega);have hc:=ac8 s hs n ⟨s,0,0,false⟩ (List.suffix_refl _) rfl (by simp only;omega) (by simp only;omega) (by unfold OZ at hn;simp only;omega);rw[<-hq] at hok hx hr hc;clear hq hn;obtain⟨o1,o2,o3,o4,o5,o6⟩:=hr;simp only at o1 o2 o4 o5 o6
 have fU:lD s=false->Less (.dL [(true,[.d (.s []),.bE []]),(false,[.d (.b false)])]) (.dL [(true,[.d (.s (jB s).aO),.d (.sl ((jB s).ah.map aj.enc))]),(false,[.d (.b (lD s))])]):=fun e=>by
  have e2:jB s=bZ:=by
   unfold jB;rw[dif_neg (jg e)]
  rw[e,e2];exact(iw.cons (.cons (.refl _) (.cons (eU _) .nil)) (.refl _)).less
 have hsl:=Cb q.2.t
 have hsz:q.1.sz<=67108864:=by omega
 refine zcx [.cell 2 54,.tmp 3] func21 ntmps21 ?_;refine W1 ?_;refine bg rfl (hc 0 1 _ (by simp[bG,gM])) ?_;simp -implicitDefEqProofs (disch:=omega) only[go_sem,gM];refine bg rfl (KD s (by omega) q.2 o1 0 1 _ rfl) ?_;simp -implicitDefEqProofs (disch:=omega) only[go_sem,gM]
 cases hqb:q.2.bad with
 |true=>
  refine W1 ?_;exact fU (by rw[<-hok];exact aB fun h=>by rw[hqb] at h;cases h.1)
 |false=>
  refine W1 ?_;refine S0 (fun hb h=>?_) fun hb h=>?_
  ·refine fU ?_;rw[<-hok];refine aB fun hq=> ?_;rw[hq.2.1] at h;exact h (by simp)
  have hnil:gD q.2.t=[]:=List.eq_nil_of_length_eq_zero (by have:=o1.length_le;omega);refine C1 (pz q.1 hsz) ?_;refine S0 (fun hb h=>?_) fun hb h=>?_
  ·refine fU ?_;rw[<-hok];refine aB fun hq=> ?_;rw[hq.2.2] at h;cases h
  ·have hy:lD s=true:=by rw[<-hok];exact aZ ⟨hqb,hnil,h⟩
   rw[hy,<-hx hy];exact gy _
section
variable {P:Program} {N:Nat} {S:Store} {s:St} {tm:List (Nat×V)}
def uN(N:Nat):Code->Bool
 | .seq x y=>uN N x&&uN N y
 | .region _ R true=>M5 R N
 | .cond _ x y=>uN N x&&uN N y
 | .block _ c=>uN N c
 | .loop _=>true
 |c=>codeOk N c
theorem uV(fJ:P.follows .mixedOrders=true):∀(c:Code)(Q:Exit->St->Prop)(s:St),uN N c=true->qY P N c Q s->AW P N c Q s
 | .seq x y,Q,s,ok,h=>by
   simp only[uN,Bool.and_eq_true] at ok;refine Om (AW.mono (uV fJ x _ s ok.1 h) fun e s' h'=> ?_)
   cases e with
   |normal=>exact uV fJ y Q s' ok.2 h'
   |_=>exact h'
 | .region _ R true,Q,s,ok,h=>YO fJ ok h
 | .region id R false,Q,s,ok,h=>jH fJ _ Q s ok h
 | .cond c x y,Q,s,ok,h=>by
   simp only[uN,Bool.and_eq_true] at ok;simp only[qY,Br] at h;split at h
   ·rename_i b hb;exact QT hb (fun e=>uV fJ x Q s ok.1 (h.1 e)) (fun e=>uV fJ y Q s ok.2 (h.2 e))
   ·exact h.elim
 | .block id c,Q,s,ok,h=>MZ (uV fJ c _ s ok h)
 | .exit id,Q,s,ok,h=>jH fJ _ Q s ok h
 | .ret,Q,s,ok,h=>jH fJ _ Q s ok h
 | .skip,Q,s,ok,h=>jH fJ _ Q s ok h
 | .loop c,Q,s,ok,h=>by
   rw[qY,Ra] at h;exact h
 | .rangeFunc _ _ _ _,Q,s,ok,h=>h.elim
 | .scope _,Q,s,ok,h=>h.elim
 | .label _,Q,s,ok,h=>h.elim
 | .goto _,Q,s,ok,h=>h.elim
 | .refuse _,Q,s,ok,h=>h.elim
theorem Xr{ι:Type}{c:Code}{Q:Exit->St->Prop}(fJ:P.follows .mixedOrders=true)(hok:uN N c=true)(ts:List Nat)(f:ι->List V)(g:ι->Store)(p:ι->Prop)(μ:ι->Nat)(i0:ι)
 (h1:ts.map (look s.tm)=f i0)(h2:s.st=g i0)(h3:p i0)
 (round:∀i,p i->qY P N c (kQ (Inv N ts f g p μ i) Q) ⟨iX ts (f i),g i⟩):AW P N (.loop c) Q s:=by
 refine QU (ι:=ι) (fun i s=>∃s0,ig N s s0/\ts.map (look s0.tm)=f i/\s0.st=g i/\p i) μ i0 ⟨s,ig.refl _ _,h1,h2,h3⟩ fun i s hI=> ?_;obtain⟨s0,hg,h1,h2,h3⟩:=hI;refine nJ ?_ hg
 have hr:=(uV fJ c _ _ hok (round i h3)).mono (Q':=kQ (fun s'=>∃j,μ j<μ i/\∃s0,ig N s' s0/\ts.map (look s0.tm)=f j/\s0.st=g j/\p j) Q) fun e s' h=>by
  cases e with
  |normal=>
   obtain⟨j,s0,a1,a2,a3,a4,a5⟩:=h;exact⟨j,a1,s0,a2,a3,a4,a5⟩
  |_=>exact h
 obtain⟨tm,st⟩:=s0;simp only at h1 h2;subst h2;rw[<-h1] at hr;exact abI hr fun t=>yO _ ts t
theorem afV{f:FuncId}{fn:Func}{c:Code}{args:List V}{post:V->Store->Prop}{rs:List ResultVar}(fJ:P.follows .mixedOrders=true)(hf:P.funcs[f]? =some fn)(hN:fn.ntmps=N)
 (hb:fn.body=some c) (hn:(fn.name== "runtime.NumGoroutine")=false) (hr:fn.results.toList=rs) (hl:Nat.ble args.length N=true) (hok:uN N c=true)
 (h:qY P N c (Ws P rs post) ⟨qR (args.map (V.up 1)) 0,[]::S⟩):dh P f args S post:=by
 subst hN;subst hr;exact tZ hf hb hn (Nat.le_of_ble_eq_true hl) (BU D8 (uV fJ c _ _ hok h))
theorem ac9(n:Nat){f:FuncId}{fn:Func}{c:Code}{args:List V}{post:V->Store->Prop}{rs:List ResultVar}(fJ:P.follows .mixedOrders=true)(hf:P.funcs[f]? =some fn)(hN:fn.ntmps=N)
 (hb:fn.body=some c) (hn:(fn.name== "runtime.NumGoroutine")=false) (hr:fn.results.toList=rs) (hl:Nat.ble args.length N=true) (hok:uN N c=true)
 (h:qY P N c (Rq P n rs post) ⟨qR (args.map (V.up 1)) 0,[.seed n]::S⟩):dh P f args S post:=by
 subst hN;subst hr;exact tZ hf hb hn (Nat.le_of_ble_eq_true hl) (Li n (BU (Aa n) (uV fJ c _ _ hok h)))
end
theorem ada{P:Program}{N:Nat}(n:Nat){f:FuncId}{fn:Func}{c:Code}{args:List V}{bU:List Obj}{Ω:Store}{post:V->Store->Prop}{rs:List ResultVar}(fJ:P.follows .mixedOrders=true)(hf:P.funcs[f]? =some fn)(hN:fn.ntmps=N)
 (hb:fn.body=some c) (hn:(fn.name== "runtime.NumGoroutine")=false) (hr:fn.results.toList=rs) (hl:Nat.ble args.length N=true) (hok:codeOk N c=true)
 (h:CW P N c (WU P rs post) ⟨qR (args.map (V.up 1)) 0,[.seed n]::bU::Ω⟩):dh P f args (bU::Ω) post:=by
 subst hN;subst hr;exact S9 hf hb hn (Nat.le_of_ble_eq_true hl) (Li n (jH fJ c _ _ hok h))
theorem Xt{P:Program}{N:Nat}{c:Code}{Q:Exit->St->Prop}{tm:List (Nat×V)}{Ω:Store}(n k:Nat)(h:AW P N c Q ⟨tm,[.seed n,.seed k]::Ω⟩):AW P N c Q ⟨tm,[]::Ω⟩:=by
 refine Li n (nJ h fun a w σ β hR=> ?_);obtain⟨bo,bΩ,rfl,hlen⟩:=frames hR;obtain⟨hS',hk,hst⟩:=hR.S.push (o:=.seed k) (h:=undef) (Grow.refl hR.S.live) hlen trivial (fun b hb=>by cases hb);exact⟨σ,_,⟨hR.size,hR.defers,hS',fun u=>(hR.T u).mono (eH.refl _ _) hk⟩,hst,Keep.refl _ _⟩
section
variable {P:Program} {N:Nat} {S:Store}
theorem vF(n k:Nat){f:FuncId}{fn:Func}{c:Code}{args:List V}{post:V->Store->Prop}{rs:List ResultVar}(fJ:P.follows .mixedOrders=true)(hf:P.funcs[f]? =some fn)(hN:fn.ntmps=N)
 (hb:fn.body=some c) (hn:(fn.name== "runtime.NumGoroutine")=false) (hr:fn.results.toList=rs) (hl:Nat.ble args.length N=true) (hok:codeOk N c=true)
 (h:CW P N c (Rq P n rs post) ⟨qR (args.map (V.up 1)) 0,[.seed n,.seed k]::S⟩):dh P f args S post:=by
 subst hN;subst hr;exact tZ hf hb hn (Nat.le_of_ble_eq_true hl) (Xt n k (BU (Aa n) (jH fJ c _ _ hok h)))
end
def Iz(n:Nat)(out:List UInt8):List UInt8:=if h:n=0 then out else Iz (n/10) (UInt8.ofNat (48+n % 10)::out)
termination_by n
decreasing_by omega
def PU(k:Int):List UInt8:=if k<=0 then [109,48] else 109::Iz k.toNat []
theorem afW{out:List UInt8}:Iz 0 out=out:=by rw[Iz];simp
theorem ajt{n:Nat}{out:List UInt8}(h:n≠0):Iz n out=Iz (n/10) (UInt8.ofNat (48+n % 10)::out):=by rw[Iz];simp[h]
mutual
def iV:D->Nat
 | .sl es=>iC es
 | .b _=>1
 | .i _ _=>1
 | .s _=>1
 | .o _=>0
 | .ol _ _=>0
def iF:List D->Nat
 |[]=>0
 |d::ds=>iV d+iF ds
def iC:List (List D)->Nat
 |[]=>0
 |r::rs=>iF r+iC rs
end
mutual
def mkD:D->Int->D
 | .sl es,k=>.sl (qL es k)
 | .b _,k=>.b (decide (k.tmod 3=0))
 | .i kd _,k=>.i kd k
 | .s _,k=>.s (PU k)
 | .o v,_=>.o v
 | .ol n es,_=>.ol n es
def Ci:List D->Int->List D
 |[],_=>[]
 |d::ds,k=>mkD d k::Ci ds (k+iV d)
def qL:List (List D)->Int->List (List D)
 |[],_=>[]
 |r::rs,k=>Ci r k::qL rs (k+iF r)
end
mutual
def zn:D->Bool
 | .sl es=>nA es
 | .b _=>true
 | .i _ _=>true
 | .s _=>true
 | .o _=>true
 | .ol _ _=>true
def mE:List D->Bool
 |[]=>true
 |d::ds=>zn d&&mE ds
def nA:List (List D)->Bool
 |[]=>true
 |r::rs=>decide (r.length<=32)&&mE r&&nA rs
end
mutual
theorem apV:∀d:D,zn d=true->iV d<=32*d.sz+1
 | .sl es,h=>by
   have:=afX es (by simpa [zn] using h);simp only[iV,D.sz];omega
 | .b _,_=>by simp[iV]
 | .i _ _,_=>by simp[iV]
 | .s _,_=>by simp[iV]
 | .o _,_=>by simp[iV]
 | .ol _ _,_=>by simp[iV]
theorem Xu:∀r:List D,mE r=true->iF r<=32*bT r+r.length
 |[],_=>by simp[iF]
 |d::ds,h=>by
  rw[mE,Bool.and_eq_true] at h;have h1:=apV d h.1;have h2:=Xu ds h.2;simp only[iF,bT,List.length_cons];omega
theorem afX:∀rs:List (List D),nA rs=true->iC rs<=32*(rs.length+bf rs)
 |[],_=>by simp[iC]
 |r::rs,h=>by
  rw[nA,Bool.and_eq_true,Bool.and_eq_true,decide_eq_true_eq] at h;have h1:=Xu r h.1.2;have h2:=afX rs h.2;simp only[iC,bf,List.length_cons];omega
end
theorem jl:∀a b,mE (a++b)=(mE a&&mE b)
 |[],b=>by simp[mE]
 |d::ds,b=>by rw[List.cons_append,mE,mE,jl ds b,Bool.and_assoc]
theorem nN{α:Type}{f:α->List D}:∀{xs:List α},(∀x∈xs,mE (f x)=true/\(f x).length<=32)->nA (xs.map f)=true
 |[],_=>rfl
 |x::xs,h=>by
  rw[List.map_cons,nA,(h x (by simp)).1,nN fun y hy=>h y (by simp[hy]),decide_eq_true (h x (by simp)).2];rfl
theorem FM:∀a b,iC (a++b)=iC a+iC b
 |[],b=>by simp[iC]
 |d::ds,b=>by rw[List.cons_append,iC,iC,FM ds b];omega
theorem ML:∀a b k,qL (a++b) k=qL a k++qL b (k+iC a)
 |[],b,k=>by simp[qL,iC]
 |d::ds,b,k=>by rw[List.cons_append,qL,qL,ML ds b,iC];simp only[List.cons_append,Int.natCast_add,Int.add_assoc]
theorem cO:∀rs k,(qL rs k).length=rs.length
 |[],_=>rfl
 |r::rs,k=>by rw[qL,List.length_cons,cO rs,List.length_cons]
theorem Xv{rows:List (List D)}{i:Nat}(hi:i<rows.length):rows.take (i+1)=rows.take i++[rows[i]]:=List.take_succ_eq_append_getElem hi
theorem afY{rows:List (List D)}{i:Nat}(hi:i<rows.length):iC (rows.take (i+1))=iC (rows.take i)+iF rows[i]:=by
 rw[Xv hi,FM];simp[iC]
theorem al1{rows:List (List D)}{i:Nat}:iC (rows.take i)<=iC rows:=by
 have:=FM (rows.take i) (rows.drop i);rw[List.take_append_drop] at this;omega
def uO(rows:List (List D))(k:Int)(i:Nat):List (List D):=qL (rows.take i) k++rows.drop i
theorem afZ{rows:List (List D)}{k:Int}:uO rows k 0=rows:=by simp[uO,qL]
theorem oI{rows:List (List D)}{k:Int}{i:Nat}(h:rows.length<=i):uO rows k i=qL rows k:=by
 unfold uO;rw[List.take_of_length_le h,List.drop_of_length_le h,List.append_nil]
theorem iK{rows:List (List D)}{k:Int}{i:Nat}:(uO rows k i).length=rows.length:=by
 unfold uO;rw[List.length_append,cO,List.length_take,List.length_drop];omega
theorem aju{rows:List (List D)}{k:Int}{i:Nat}(hi:i<rows.length):(uO rows k i).getD i []=rows[i]:=by
 unfold uO;rw[List.getD_eq_getElem?_getD,List.getElem?_append_right (by rw[cO,List.length_take];omega),cO,List.length_take,List.getElem?_drop];rw[show i+(i-min i rows.length)=i by omega,List.getElem?_eq_getElem hi];rfl
theorem ajv{rows:List (List D)}{k:Int}{i:Nat}(hi:i<rows.length):(uO rows k i).set i (Ci rows[i] (k+iC (rows.take i)))=uO rows k (i+1):=by
 unfold uO
 have hl:(qL (rows.take i) k).length=i:=by rw[cO,List.length_take];omega
 rw[List.set_append_right _ _ (by omega),hl,Nat.sub_self,List.drop_eq_getElem_cons hi,List.set_cons_zero,Xv hi,ML,List.append_assoc];rfl
def sI(rows:List (List D))(k:Int)(i:Nat)(row:List D):List (List D):=(uO rows k i).set i row
theorem fE{rows:List (List D)}{k:Int}{i:Nat}{row:List D}:(sI rows k i row).length=rows.length:=by unfold sI;rw[List.length_set,iK]
theorem Xw{rows:List (List D)}{k:Int}{i:Nat}{row:List D}(hi:i<rows.length):(sI rows k i row).getD i []=row:=by
 unfold sI;rw[List.getD_eq_getElem?_getD,List.getElem?_set_self (by rw[iK];exact hi)];rfl
theorem KE{rows:List (List D)}{k:Int}{i o:Nat}{row:List D}(hi:i<rows.length):cellAt (sI rows k i row) i o=row[o]? :=by
 unfold sI cellAt;rw[List.getElem?_set_self (by rw[iK];exact hi),Option.bind_some]
theorem gQ{rows:List (List D)}{k:Int}{i:Nat}{row row':List D}:(sI rows k i row).set i row'=sI rows k i row':=by unfold sI;rw[List.set_set]
theorem al2{rows:List (List D)}{k:Int}{i:Nat}(hi:i<rows.length):uO rows k i=sI rows k i rows[i]:=by
 have h:=aju (k:=k) hi
 have hl:i<(uO rows k i).length:=by rw[iK];exact hi
 rw[List.getD_eq_getElem?_getD,List.getElem?_eq_getElem hl,Option.getD_some] at h;unfold sI;rw[<-h,List.set_getElem_self]
theorem al3{rows:List (List D)}{k:Int}{i:Nat}(hi:i<rows.length):sI rows k i (Ci rows[i] (k+iC (rows.take i)))=uO rows k (i+1):=ajv hi
theorem al4{rs:List (List (List D))}{r:Nat}{p:List (Nat×Nat)}{rows es:List (List D)}{k:Int}{i o:Nat}{row:List D}(hp:atR rs r p=some rows)(hi:i<rows.length)(h:row[o]? =some (.sl es)):
 atR (kK rs r p (sI rows k i row)) r (p++[(i,o)])=some es:=eO (Np hp) (by rw[KE hi,h])
theorem ajw{rs:List (List (List D))}{r:Nat}{p:List (Nat×Nat)}{rows es new:List (List D)}{k:Int}{i o:Nat}{row:List D}(hp:atR rs r p=some rows)(hi:i<rows.length)(h:row[o]? =some (.sl es)):
 kK (kK rs r p (sI rows k i row)) r (p++[(i,o)]) new=kK rs r p (sI rows k i (row.set o (.sl new))):=by
 rw[afK (Np hp) (by rw[KE hi,h]),Tm hp,Xw hi,gQ]
theorem Xx:∀{rows:List (List D)}{k:Int}{i:Nat}(hi:i<rows.length),(qL rows k).getD i []=Ci rows[i] (k+iC (rows.take i))
 |r::rows,k,0,_=>by simp[qL,iC]
 |r::rows,k,i+1,hi=>by
  have:=Xx (rows:=rows) (k:=k+iF r) (i:=i) (by simpa using hi);rw[qL,List.getD_cons_succ,this,List.getElem_cons_succ,List.take_succ_cons,iC,Int.natCast_add,Int.add_assoc]
theorem jD{α:Type}{f:α->List D}(h:∀x,1<=iF (f x)):∀xs:List α,xs.length<=iC (xs.map f)
 |[]=>Nat.zero_le _
 |x::xs=>by
  have h1:=h x;have h2:=jD h xs;rw[List.map_cons,iC,List.length_cons];omega
theorem an7{P:Program}{f:FuncId}{S:Store}{l j r i o:Nat}{p:List (Nat×Nat)}{rs:List (List (List D))}{rows es new:List (List D)}{row:List D}{k:Int}{args:List V}{R:V}
 (hS:bG S (l,j)=some (.xf rs))(hp:atR rs r p=some rows)(hi:i<rows.length)(h:row[o]? =some (.sl es))
 (hA:∀(S':Store) (rs':List (List (List D))),bG S' (1+l,j)=some (.xf rs')->atR rs' r (p++[(i,o)])=some es->dh P f args S' (fun res EN=>res=R/\EN=bR S' (1+l,j) (.xf (kK rs' r (p++[(i,o)]) new)))):
 dh P f args ([]::bR S (l,j) (.xf (kK rs r p (sI rows k i row)))) (fun res EN=>res=R/\EN=[]::bR S (l,j) (.xf (kK rs r p (sI rows k i (row.set o (.sl new)))))):=by
 refine(hA _ _ (by rw[bM];exact fB _ _ _ _ hS) (al4 (k:=k) hp hi h)).mono fun res EN ⟨h1,h2⟩=>⟨h1,?_⟩;rw[h2,dZ,bH,ajw hp hi h]
abbrev sO(P:Program)(f:FuncId)(es:List (List D)):Prop:=∀(k:Int)(l j r:Nat)(p:List (Nat×Nat))(S:Store)(rs:List (List (List D))),bG S (l,j)=some (.xf rs)->atR rs r p=some es->0<=k/\k+iC es<=4611686018427387904->
 dh P f [.c (.xp (l,j) r p),.c (.d (.i .i64 k))] S (fun res S'=>res=.c (.d (.i .i64 (k+iC es)))/\S'=bR S (l,j) (.xf (kK rs r p (qL es k))))
abbrev tL(P:Program)(f:FuncId)(es:List (List D)):Prop:=∀(k:Int)(l j r:Nat)(p:List (Nat×Nat))(S:Store)(rs:List (List (List D))),bG S (l,j)=some (.xf rs)->atR rs r p=some (qL es k)->0<=k/\k+iC es<=4611686018427387904->
 dh P f [.c (.xp (l,j) r p),.c (.d (.i .i64 k))] S (fun res S'=>res=.c (.d (.i .i64 (k+iC es)))/\S'=S)
theorem eP{P:Program}{f:FuncId}{S:Store}{l j r i o:Nat}{p:List (Nat×Nat)}{rs:List (List (List D))}{rows es:List (List D)}{row:List D}{k K:Int}
 (hS:bG S (l,j)=some (.xf rs))(hp:atR rs r p=some rows)(hi:i<rows.length)(h:row[o]? =some (.sl es))(hA:sO P f es)(hK:0<=K/\K+iC es<=4611686018427387904):
 dh P f [.c (.xp (1+l,j) r (p++[(i,o)])),.c (.d (.i .i64 K))] ([]::bR S (l,j) (.xf (kK rs r p (sI rows k i row)))) (fun res EN=>res=.c (.d (.i .i64 (K+iC es)))/\EN=[]::bR S (l,j) (.xf (kK rs r p (sI rows k i (row.set o (.sl (qL es K))))))):=
 an7 hS hp hi h fun S' rs' g1 g2=>hA K (1+l) j r _ S' rs' g1 g2 hK
theorem tO{S:Store}{l j r:Nat}{p:List (Nat×Nat)}{rs:List (List (List D))}{rows:List (List D)}(hS:bG S (l,j)=some (.xf rs))(hp:atR rs r p=some rows):
 (∀x:Obj,bG (bR S (l,j) x) (l,j)=some x)/\(∀new,atR (kK rs r p new) r p=some new)/\∀a b,kK (kK rs r p a) r p b=kK rs r p b:=
 ⟨fun x=>fB _ _ _ _ hS,fun new=>Np hp,fun a b=>Tm hp⟩
theorem kG{α:Type}{f:α->List D}{xs:List α}{rows:List (List D)}{k K:Int}{i:Nat}(hr:rows=xs.map f)(hi:i<xs.length)(hK:K=k+((iC (rows.take i):Nat):Int)):
 ∃x,x=xs[i]/\∃_:i<rows.length,k+((iC (rows.take (i+1)):Nat):Int)=K+((iF (f x):Nat):Int)/\K+((iF (f x):Nat):Int)<=k+((iC rows:Nat):Int)/\uO rows k i=sI rows k i (f x)/\(∀row o,cellAt (sI rows k i row) i o=row[o]?)/\
  (∀row,(sI rows k i row).getD i []=row)/\sI rows k i (Ci (f x) K)=uO rows k (i+1):=by
 have hir:i<rows.length:=by rw[hr,List.length_map];exact hi
 have e1:rows[i]=f xs[i]:=by simp only[hr,List.getElem_map]
 have h1:=afY hir;have h2:=al1 (rows:=rows) (i:=i+1);have h3:=al2 (k:=k) hir;have h4:=al3 (k:=k) hir;rw[e1] at h1 h3 h4;rw[<-hK] at h4;exact⟨_,rfl,hir,by omega,by omega,h3,fun row o=>KE hir,fun row=>Xw hir,h4⟩
theorem lq{α:Type}{f:α->List D}{xs:List α}{rows:List (List D)}{k K:Int}{i:Nat}(hr:rows=xs.map f)(hi:i<xs.length)(hK:K=k+((iC (rows.take i):Nat):Int)):
 ∃x,x=xs[i]/\∃_:i<rows.length,k+((iC (rows.take (i+1)):Nat):Int)=K+((iF (f x):Nat):Int)/\K+((iF (f x):Nat):Int)<=k+((iC rows:Nat):Int)/\(∀o,cellAt (qL rows k) i o=(Ci (f x) K)[o]?)/\(qL rows k).getD i []=Ci (f x) K:=by
 obtain⟨x,hx,hir,h1,h2,_⟩:=kG hr hi hK
 have e1:rows[i]=f x:=by simp only[hr,List.getElem_map,hx]
 have h3:=Xx (k:=k) hir;rw[e1,<-hK] at h3
 have h4:i<(qL rows k).length:=by rw[cO];exact hir
 refine⟨x,hx,hir,h1,h2,fun o=> ?_,h3⟩;rw[List.getD_eq_getElem?_getD,List.getElem?_eq_getElem h4,Option.getD_some] at h3;unfold cellAt;rw[List.getElem?_eq_getElem h4,h3,Option.bind_some]
theorem lH(k:Int):Ci [] k=[]:=rfl
theorem lI(x:List UInt8)(ds:List D)(k:Int):Ci (.s x::ds) k=.s (PU k)::Ci ds (k+1):=rfl
theorem lJ(t:IntKind)(x:Int)(ds:List D)(k:Int):Ci (.i t x::ds) k=.i t k::Ci ds (k+1):=rfl
theorem lK(x:Bool)(ds:List D)(k:Int):Ci (.b x::ds) k=.b (decide (k.tmod 3=0))::Ci ds (k+1):=rfl
theorem lN(es:List (List D))(ds:List D)(k:Int):Ci (.sl es::ds) k=.sl (qL es k)::Ci ds (k+((iC es:Nat):Int)):=rfl
theorem lQ{x:V}{a b c:Int}(h:a=b):[x,.c (.d (.i .i64 a)),.c (.d (.i .i64 c))]=[x,.c (.d (.i .i64 b)),.c (.d (.i .i64 c))]:=by rw[h]
section
variable {P:Program} {N:Nat} {c:Code} {Q:Exit->St->Prop} {s:St} {S:Store} {l j r n:Nat} {p:List (Nat×Nat)} {rs:List (List (List D))} {rows:List (List D)} {k:Int}
abbrev LG(l j r:Nat)(p:List (Nat×Nat))(k:Int)(i:Nat):List V:=[.c (.xp (1+l,j) r p),.c (.d (.i .i64 k)),.c (.d (.i .i64 i))]
theorem mP(fJ:P.follows .mixedOrders=true)(hok:codeOk N c=true)(hS:bG S (l,j)=some (.xf rs))(hp:atR rs r p=some rows)(hl:rows.length=n)(h1:[0,1,5].map (look s.tm)=LG l j r p k 0)(h2:s.st=[]::S)
 (round:∀i:Nat,i<=n->∀K:Int,K=k+((iC (rows.take i):Nat):Int)->CW P N c (kQ (Inv N [0,1,5] (fun i=>LG l j r p (k+iC (rows.take i)) i) (fun i=>[]::bR S (l,j) (.xf (kK rs r p (uO rows k i)))) (fun i=>i<=n) (fun i=>n-i) i) Q)
   ⟨iX [0,1,5] [.c (.xp (1+l,j) r p),.c (.d (.i .i64 K)),.c (.d (.i .i64 i))],[]::bR S (l,j) (.xf (kK rs r p (uO rows k i)))⟩):AW P N (.loop c) Q s:=by
 refine aT fJ hok [0,1,5] (fun i=>LG l j r p (k+iC (rows.take i)) i) (fun i=>[]::bR S (l,j) (.xf (kK rs r p (uO rows k i)))) (fun i=>i<=n) (fun i=>n-i) 0 ?_ ?_ (Nat.zero_le _) fun i hi=>round i hi _ rfl
 ·rw[h1,show((iC (rows.take 0):Nat):Int)=0 by simp[iC],Int.add_zero]
 ·rw[h2,afZ,afJ hp,ze _ _ hS]
theorem mQ(fJ:P.follows .mixedOrders=true)(hok:codeOk N c=true)(hl:rows.length=n)(h1:[0,1,5].map (look s.tm)=LG l j r p k 0)(h2:s.st=[]::S)
 (round:∀i:Nat,i<=n->∀K:Int,K=k+((iC (rows.take i):Nat):Int)->CW P N c (kQ (Inv N [0,1,5] (fun i=>LG l j r p (k+iC (rows.take i)) i) (fun _=>[]::S) (fun i=>i<=n) (fun i=>n-i) i) Q)
   ⟨iX [0,1,5] [.c (.xp (1+l,j) r p),.c (.d (.i .i64 K)),.c (.d (.i .i64 i))],[]::S⟩):AW P N (.loop c) Q s:=by
 refine aT fJ hok [0,1,5] (fun i=>LG l j r p (k+iC (rows.take i)) i) (fun _=>[]::S) (fun i=>i<=n) (fun i=>n-i) 0 ?_ h2 (Nat.zero_le _) fun i hi=>round i hi _ rfl;rw[h1,show((iC (rows.take 0):Nat):Int)=0 by simp[iC],Int.add_zero]
end
theorem oW{a:Int}(h:0<=a):decide (a<0)=false:=decide_eq_false (by omega)
theorem fF(k:Int)(hk: -9223372036854775808<=k/\k<=4611686018427387904):aH prog 74 [.c (.d (.i .i64 k))] (.c (.d (.s (PU k)))):=fun S=>by
 refine zcx [.tmp 2] func74 ntmps74 ?_;refine W1 ?_;refine S0 (fun hb h=>?_) fun hb h=>?_
 ·unfold PU;rw[if_pos h]
 have hpos:¬k<=0:=h
 refine aT (ι:=Int×List UInt8) zmx rfl [0,3] (fun y=>[.c (.d (.i .i64 y.1)),.c (.d (.s y.2))]) (fun _=>[]::S)
  (fun y=>0<=y.1/\Iz y.1.toNat y.2=Iz k.toNat []/\y.1<=k/\y.1.toNat*2^y.2.length<=4611686018427387904/\y.2.length<=63) (fun y=>y.1.toNat) (k,[]) rfl rfl ⟨by simp only;omega,rfl,by simp only;omega,by simp only[List.length_nil];omega,by simp⟩ ?_
 rintro⟨n,out⟩ ⟨p1,p2,p3,p4,p5⟩;simp only at p1 p2 p3 p4 p5;refine W1 ?_;refine S0 (fun hb h=>?_) fun hb h=>?_
 ·have hn:n.toNat≠0:=by omega
  have hm:=Int.tmod_nonneg 10 p1;have hm2:=Int.tmod_lt_of_pos n (show(0:Int)<10 by omega)
  have hm3:n.tmod 10=(n.toNat % 10:Nat):=by
   rw[Int.tmod_eq_emod_of_nonneg p1];omega
  have hq:n.tdiv 10=(n.toNat/10:Nat):=by
   rw[Int.tdiv_eq_ediv_of_nonneg p1];omega
  have hlen:out.length<=62:=by
   refine Nat.le_of_not_lt fun hgt=> ?_;have h1:2^63<=2^out.length:=Nat.pow_le_pow_right (by omega) (by omega);have h2:1*2^out.length<=n.toNat*2^out.length:=Nat.mul_le_mul_right _ (by omega);omega
  refine W1 ?_
  have hc:UInt8.ofNat (IntKind.u8.wrap (48+n.tmod 10)).toNat=UInt8.ofNat (48+n.toNat % 10):=by
   rw[wrap_u8 _ (by omega),hm3];congr 1
  refine bF (ι:=Int×List UInt8) (n.tdiv 10,UInt8.ofNat (48+n.toNat % 10)::out) (by simp only;omega) (by rw[<-hc];rfl) rfl ?_
  have hq2:(n.tdiv 10).toNat=n.toNat/10:=by omega
  refine⟨by simp only;omega,?_,by simp only;omega,?_,by simp only[List.length_cons];omega⟩
  ·simp only
   rw[hq2,<-ajt hn,p2]
  ·simp only[List.length_cons];rw[hq2,Nat.pow_succ]
   have:n.toNat/10*2<=n.toNat:=by omega
   calc n.toNat/10*(2^out.length*2)=n.toNat/10*2*2^out.length:=by rw[Nat.mul_comm (2^out.length) 2,Nat.mul_assoc]
    _<=n.toNat*2^out.length:=Nat.mul_le_mul_right _ this
    _<=_:=p4
 ·have:n.toNat=0:=by omega
  rw[this,afW] at p2;unfold PU;rw[if_neg hpos,p2]
theorem zo(xs:List (List UInt8)):l9 (xs.map encS)=true:=nM fun _ _=>rfl
theorem zq(xs:List (List UInt8)):nA (xs.map encS)=true:=nN fun _ _=>⟨rfl,by simp[encS]⟩
theorem vG:∀(xs:List (List UInt8))(n:Nat),dO (xs.map encS) n=xs.map encS
 |[],_=>rfl
 |x::xs,n=>by rw[List.map_cons,dO,vG xs];rfl
mutual
theorem ak.gY:∀x:ak,lF x.enc=true/\mE x.enc=true
 | .mk a0 a1 a2=>by simp only[ak.enc,lF,uU,mE,zn,jk,jl,Bool.and_true,Bool.true_and,Bool.and_self,and_self,and_true,true_and,(ak.sJ a2).1,(ak.sJ a2).2]
theorem ak.sJ:∀xs:List ak,l9 (ak.encs xs)=true/\nA (ak.encs xs)=true
 |[]=>⟨rfl,rfl⟩
 |x::xs=>by
  have h:decide ((ak.enc x).length<=32)=true:=by rw[ak.cK];rfl
  simp only[ak.encs,l9,nA,h,(ak.gY x).1,(ak.gY x).2,(ak.sJ xs).1,(ak.sJ xs).2,Bool.and_self,and_self]
end
theorem ak.jP(xs:List ak):l9 (xs.map ak.enc)=true/\nA (xs.map ak.enc)=true:=by rw[<-ak.lW];exact ak.sJ xs
theorem eD.gY(x:eD):lF x.enc=true/\mE x.enc=true:=by
 rw[eD.aA];simp only[List.cons_append,List.nil_append,lF,uU,mE,zn,jk,jl,Bool.and_true,Bool.true_and,Bool.and_self,and_self,and_true,true_and,(ak.gY x.fType).1,(ak.gY x.fType).2]
theorem eD.jP(xs:List eD):l9 (xs.map eD.enc)=true/\nA (xs.map eD.enc)=true:=⟨nM fun x _=>x.gY.1,nN fun x _=>⟨x.gY.2,by rw[eD.cK];decide⟩⟩
theorem bn.gY(x:bn):lF x.enc=true/\mE x.enc=true:=by
 rw[bn.aA];simp only[List.cons_append,List.nil_append,lF,uU,mE,zn,jk,jl,Bool.and_true,Bool.true_and,Bool.and_self,and_self,and_true,true_and,(ak.gY x.fType).1,(ak.gY x.fType).2]
theorem bn.jP(xs:List bn):l9 (xs.map bn.enc)=true/\nA (xs.map bn.enc)=true:=⟨nM fun x _=>x.gY.1,nN fun x _=>⟨x.gY.2,by rw[bn.cK];decide⟩⟩
mutual
theorem au.gY:∀x:au,lF x.enc=true/\mE x.enc=true
 | .mk a0 a1 a2 a3 a4 a5 a6=>by simp only[au.enc,lF,uU,mE,zn,jk,jl,Bool.and_true,Bool.true_and,Bool.and_self,and_self,and_true,true_and,(ak.gY a4).1,(ak.gY a4).2,(au.sJ a5).1,(au.sJ a5).2,(aR.sJ a6).1,(aR.sJ a6).2]
theorem au.sJ:∀xs:List au,l9 (au.encs xs)=true/\nA (au.encs xs)=true
 |[]=>⟨rfl,rfl⟩
 |x::xs=>by
  have h:decide ((au.enc x).length<=32)=true:=by rw[au.cK];rfl
  simp only[au.encs,l9,nA,h,(au.gY x).1,(au.gY x).2,(au.sJ xs).1,(au.sJ xs).2,Bool.and_self,and_self]
theorem aR.gY:∀x:aR,lF x.enc=true/\mE x.enc=true
 | .mk a0 a1 a2=>by simp only[aR.enc,lF,uU,mE,zn,jk,jl,Bool.and_true,Bool.true_and,Bool.and_self,and_self,and_true,true_and,zo a1,zq a1,(au.gY a2).1,(au.gY a2).2]
theorem aR.sJ:∀xs:List aR,l9 (aR.encs xs)=true/\nA (aR.encs xs)=true
 |[]=>⟨rfl,rfl⟩
 |x::xs=>by
  have h:decide ((aR.enc x).length<=32)=true:=by rw[aR.cK];rfl
  simp only[aR.encs,l9,nA,h,(aR.gY x).1,(aR.gY x).2,(aR.sJ xs).1,(aR.sJ xs).2,Bool.and_self,and_self]
end
theorem au.jP(xs:List au):l9 (xs.map au.enc)=true/\nA (xs.map au.enc)=true:=by rw[<-au.lW];exact au.sJ xs
theorem aR.jP(xs:List aR):l9 (xs.map aR.enc)=true/\nA (xs.map aR.enc)=true:=by rw[<-aR.lW];exact aR.sJ xs
mutual
theorem aj.gY:∀x:aj,lF x.enc=true/\mE x.enc=true
 | .mk a0 a1=>by simp only[aj.enc,lF,uU,mE,zn,jk,jl,Bool.and_true,Bool.true_and,Bool.and_self,and_self,and_true,true_and,(aj.sJ a1).1,(aj.sJ a1).2]
theorem aj.sJ:∀xs:List aj,l9 (aj.encs xs)=true/\nA (aj.encs xs)=true
 |[]=>⟨rfl,rfl⟩
 |x::xs=>by
  have h:decide ((aj.enc x).length<=32)=true:=by rw[aj.cK];rfl
  simp only[aj.encs,l9,nA,h,(aj.gY x).1,(aj.gY x).2,(aj.sJ xs).1,(aj.sJ xs).2,Bool.and_self,and_self]
end
theorem aj.jP(xs:List aj):l9 (xs.map aj.enc)=true/\nA (xs.map aj.enc)=true:=by rw[<-aj.lW];exact aj.sJ xs
theorem aM.gY(x:aM):lF x.enc=true/\mE x.enc=true:=by
 rw[aM.aA];simp only[List.cons_append,List.nil_append,lF,uU,mE,zn,jk,jl,Bool.and_true,Bool.true_and,Bool.and_self,and_self,and_true,true_and,(ak.jP x.aW).1,(ak.jP x.aW).2,(ak.gY x.bP).1,(ak.gY x.bP).2,zo x.aG,zq x.aG,(au.gY x.fBody).1,(au.gY x.fBody).2]
theorem aM.jP(xs:List aM):l9 (xs.map aM.enc)=true/\nA (xs.map aM.enc)=true:=⟨nM fun x _=>x.gY.1,nN fun x _=>⟨x.gY.2,by rw[aM.cK];decide⟩⟩
theorem bA.gY(x:bA):lF x.enc=true/\mE x.enc=true:=by
 rw[bA.aA];simp only[List.cons_append,List.nil_append,lF,uU,mE,zn,jk,jl,Bool.and_true,Bool.true_and,Bool.and_self,and_self,and_true,true_and,zo x.bI,zq x.bI,(aM.jP x.aD).1,(aM.jP x.aD).2]
theorem bA.jP(xs:List bA):l9 (xs.map bA.enc)=true/\nA (xs.map bA.enc)=true:=⟨nM fun x _=>x.gY.1,nN fun x _=>⟨x.gY.2,by rw[bA.cK];decide⟩⟩
theorem aL.gY(x:aL):lF x.enc=true/\mE x.enc=true:=by
 rw[aL.aA];simp only[List.cons_append,List.nil_append,lF,uU,mE,zn,jk,jl,Bool.and_true,Bool.true_and,Bool.and_self,and_self,and_true,true_and,(ak.jP x.gq).1,(ak.jP x.gq).2]
theorem aL.jP(xs:List aL):l9 (xs.map aL.enc)=true/\nA (xs.map aL.enc)=true:=⟨nM fun x _=>x.gY.1,nN fun x _=>⟨x.gY.2,by rw[aL.cK];decide⟩⟩
theorem aS.gY(x:aS):lF x.enc=true/\mE x.enc=true:=by
 rw[aS.aA];simp only[List.cons_append,List.nil_append,lF,uU,mE,zn,jk,jl,Bool.and_true,Bool.true_and,Bool.and_self,and_self,and_true,true_and,zo x.aG,zq x.aG,(aL.jP x.aF).1,(aL.jP x.aF).2]
theorem aS.jP(xs:List aS):l9 (xs.map aS.enc)=true/\nA (xs.map aS.enc)=true:=⟨nM fun x _=>x.gY.1,nN fun x _=>⟨x.gY.2,by rw[aS.cK];decide⟩⟩
theorem bq.gY(x:bq):lF x.enc=true/\mE x.enc=true:=by
 rw[bq.aA];simp only[List.cons_append,List.nil_append,lF,uU,mE,zn,jk,jl,Bool.and_true,Bool.true_and,Bool.and_self,and_self,and_true,true_and,zo x.aG,zq x.aG,(au.gY x.fBody).1,(au.gY x.fBody).2]
theorem bq.jP(xs:List bq):l9 (xs.map bq.enc)=true/\nA (xs.map bq.enc)=true:=⟨nM fun x _=>x.gY.1,nN fun x _=>⟨x.gY.2,by rw[bq.cK];decide⟩⟩
theorem aP.gY(x:aP):lF x.enc=true/\mE x.enc=true:=by
 rw[aP.aA];simp only[List.cons_append,List.nil_append,lF,uU,mE,zn,jk,jl,Bool.and_true,Bool.true_and,Bool.and_self,and_self,and_true,true_and,zo x.aG,zq x.aG,(ak.gY x.bQ).1,(ak.gY x.bQ).2,(bn.jP x.bY).1,(bn.jP x.bY).2,(ak.gY x.bD).1,(ak.gY x.bD).2,(bq.jP x.aJ).1,(bq.jP x.aJ).2]
theorem aP.jP(xs:List aP):l9 (xs.map aP.enc)=true/\nA (xs.map aP.enc)=true:=⟨nM fun x _=>x.gY.1,nN fun x _=>⟨x.gY.2,by rw[aP.cK];decide⟩⟩
theorem bL.gY(x:bL):lF x.enc=true/\mE x.enc=true:=by
 rw[bL.aA];simp only[List.cons_append,List.nil_append,lF,uU,mE,zn,jk,jl,Bool.and_true,Bool.true_and,Bool.and_self,and_self,and_true,true_and,(ak.gY x.fType).1,(ak.gY x.fType).2]
theorem bL.jP(xs:List bL):l9 (xs.map bL.enc)=true/\nA (xs.map bL.enc)=true:=⟨nM fun x _=>x.gY.1,nN fun x _=>⟨x.gY.2,by rw[bL.cK];decide⟩⟩
theorem aU.gY(x:aU):lF x.enc=true/\mE x.enc=true:=by
 rw[aU.aA];simp only[List.cons_append,List.nil_append,lF,uU,mE,zn,jk,jl,Bool.and_true,Bool.true_and,Bool.and_self,and_self,and_true,true_and,zo x.aG,zq x.aG,(bn.jP x.bY).1,(bn.jP x.bY).2,(bL.jP x.aW).1,(bL.jP x.aW).2,(ak.gY x.bP).1,(ak.gY x.bP).2,(au.gY x.fBody).1,(au.gY x.fBody).2]
theorem aU.jP(xs:List aU):l9 (xs.map aU.enc)=true/\nA (xs.map aU.enc)=true:=⟨nM fun x _=>x.gY.1,nN fun x _=>⟨x.gY.2,by rw[aU.cK];decide⟩⟩
theorem aI.gY(x:aI):lF x.enc=true/\mE x.enc=true:=by
 rw[aI.aA];simp only[List.cons_append,List.nil_append,lF,uU,mE,zn,jk,jl,Bool.and_true,Bool.true_and,Bool.and_self,and_self,and_true,true_and,zo x.jv,zq x.jv,(bA.jP x.dV).1,(bA.jP x.dV).2,(aS.jP x.aV).1,(aS.jP x.aV).2,(aP.jP x.dI).1,(aP.jP x.dI).2,(aU.jP x.cu).1,(aU.jP x.cu).2]
theorem aI.jP(xs:List aI):l9 (xs.map aI.enc)=true/\nA (xs.map aI.enc)=true:=⟨nM fun x _=>x.gY.1,nN fun x _=>⟨x.gY.2,by rw[aI.cK];decide⟩⟩
theorem dU.gY(x:dU):lF x.enc=true/\mE x.enc=true:=by
 rw[dU.aA];simp only[List.cons_append,List.nil_append,lF,uU,mE,zn,jk,jl,Bool.and_true,Bool.true_and,Bool.and_self,and_self,and_true,true_and,(aI.jP x.iN).1,(aI.jP x.iN).2]
theorem dU.jP(xs:List dU):l9 (xs.map dU.enc)=true/\nA (xs.map dU.enc)=true:=⟨nM fun x _=>x.gY.1,nN fun x _=>⟨x.gY.2,by rw[dU.cK];decide⟩⟩
theorem eu.gY(x:eu):lF x.enc=true/\mE x.enc=true:=by
 rw[eu.aA];simp only[List.cons_append,List.nil_append,lF,uU,mE,zn,jk,jl,Bool.and_true,Bool.true_and,Bool.and_self,and_self,and_true,true_and]
theorem eu.jP(xs:List eu):l9 (xs.map eu.enc)=true/\nA (xs.map eu.enc)=true:=⟨nM fun x _=>x.gY.1,nN fun x _=>⟨x.gY.2,by rw[eu.cK];decide⟩⟩
theorem Rv(x:aM):∀y:aM,x.sz<=1048576->aH prog 241 [x.v,y.v] (.c (.d (.b (dec (x=y))))):=by
 intro y hsz S;simp only[aM.sz,aM.aA,bT,bK,D.sz,List.length_map,au.d9,ak.d9] at hsz;refine zcx [.tmp 4] func241 ntmps241 ?_;refine W1 ?_;refine S0 (fun hb h=>?_) fun hb h=>?_
 ·exact ay (aB (fun e=>h (by rw[e]))).symm
 have rQ:=h;clear h;refine C1 (Pm x.aW _ (by omega)) ?_;refine S0 (fun hb h=>?_) fun hb h=>?_
 ·exact ay (aB (fun e=>h (by rw[e]))).symm
 have Rw:=h;clear h;refine C1 (xk x.bP _ (by omega)) ?_;refine S0 (fun hb h=>?_) fun hb h=>?_
 ·exact ay (aB (fun e=>h (by rw[e]))).symm
 have Rx:=h;clear h;refine S0 (fun hb h=>?_) fun hb h=>?_
 ·exact ay (aB (fun e=>h (by rw[e]))).symm
 have ZA:=h;clear h;refine C1 (qD x.aG _ (by omega)) ?_;refine S0 (fun hb h=>?_) fun hb h=>?_
 ·exact ay (aB (fun e=>h (by rw[e]))).symm
 have zZ:=h;clear h;refine C1 (Ka x.fBody _ (by omega)) ?_;refine S0 (fun hb h=>?_) fun hb h=>?_
 ·exact ay (aB (fun e=>h (by rw[e]))).symm
 have Ij:=h;clear h;exact ay (aZ (aM.ext' rQ Rw Rx ZA zZ Ij)).symm
theorem PV(xs:List aM):∀ys:List aM,xs.length+bf (xs.map aM.enc)<=1048576->aH prog 165 [.c (.d (.sl (xs.map aM.enc))),.c (.d (.sl (ys.map aM.enc)))] (.c (.d (.b (dec (xs=ys))))):=by
 intro ys hsz S;refine zcx [.tmp 4] func165 ntmps165 ?_;refine W1 ?_;refine S0 (fun hb h=>?_) fun hb h=>?_
 ·exact ay (aB (fun e=>h (by rw[e]))).symm
 have hl:xs.length=ys.length:=by omega
 refine aT (ι:=Nat) zmx rfl [0,1,5] (fun y=>[.c (.d (.sl (xs.map aM.enc))),.c (.d (.sl (ys.map aM.enc))),.c (.d (.i .i64 y))]) (fun y=>[]::S)
  (fun i=>i<=xs.length/\∀j,j<i->xs[j]? =ys[j]?) (fun y=>xs.length-y) 0 rfl rfl ⟨Nat.zero_le _,fun j h=>by omega⟩ ?_
 rintro i ⟨p1,p2⟩;refine W1 ?_;refine S0 (fun hb h=>?_) fun hb h=>?_
 ·have hi:i<xs.length:=by omega
  have hi':i<ys.length:=by omega
  have hx:xs[i].sz<=bf (xs.map aM.enc):=dA (List.mem_map_of_mem (List.getElem_mem hi));refine W3 ?_;refine C1 (Rv xs[i] ys[i] (by omega)) ?_;refine S0 (fun hb h=>?_) fun hb h=>?_
  ·exact ay (aB (fun e=>h (by simp only[e]))).symm
  refine bF (i+1) (by omega) rfl rfl ⟨by omega,fun j hj=> ?_⟩;by_cases e:j=i
  ·subst e;rw[List.getElem?_eq_getElem hi,List.getElem?_eq_getElem hi',h]
  ·exact p2 j (by omega)
 ·have hi:i=xs.length:=by omega
  refine ay (aZ (List.ext_getElem? fun j=> ?_)).symm;by_cases hj:j<i
  ·exact p2 j hj
  ·rw[List.getElem?_eq_none (by omega),List.getElem?_eq_none (by omega)]
theorem adb(x:bA):∀y:bA,x.sz<=1048576->aH prog 84 [x.v,y.v] (.c (.d (.b (dec (x=y))))):=by
 intro y hsz S;simp only[bA.sz,bA.aA,bT,bK,D.sz,List.length_map] at hsz;refine zcx [.tmp 4] func84 ntmps84 ?_;refine W1 ?_;refine S0 (fun hb h=>?_) fun hb h=>?_
 ·exact ay (aB (fun e=>h (by rw[e]))).symm
 have rQ:=h;clear h;refine C1 (qD x.bI _ (by omega)) ?_;refine S0 (fun hb h=>?_) fun hb h=>?_
 ·exact ay (aB (fun e=>h (by rw[e]))).symm
 have Xy:=h;clear h;refine S0 (fun hb h=>?_) fun hb h=>?_
 ·exact ay (aB (fun e=>h (by rw[e]))).symm
 have apW:=h;clear h;refine S0 (fun hb h=>?_) fun hb h=>?_
 ·exact ay (aB (fun e=>h (by rw[e]))).symm
 have Xz:=h;clear h;refine C1 (PV x.aD _ (by omega)) ?_;refine S0 (fun hb h=>?_) fun hb h=>?_
 ·exact ay (aB (fun e=>h (by rw[e]))).symm
 have ZB:=h;clear h;exact ay (aZ (bA.ext' rQ Xy apW Xz ZB)).symm
theorem ZC(xs:List bA):∀ys:List bA,xs.length+bf (xs.map bA.enc)<=1048576->aH prog 37 [.c (.d (.sl (xs.map bA.enc))),.c (.d (.sl (ys.map bA.enc)))] (.c (.d (.b (dec (xs=ys))))):=by
 intro ys hsz S;refine zcx [.tmp 4] func37 ntmps37 ?_;refine W1 ?_;refine S0 (fun hb h=>?_) fun hb h=>?_
 ·exact ay (aB (fun e=>h (by rw[e]))).symm
 have hl:xs.length=ys.length:=by omega
 refine aT (ι:=Nat) zmx rfl [0,1,5] (fun y=>[.c (.d (.sl (xs.map bA.enc))),.c (.d (.sl (ys.map bA.enc))),.c (.d (.i .i64 y))]) (fun y=>[]::S)
  (fun i=>i<=xs.length/\∀j,j<i->xs[j]? =ys[j]?) (fun y=>xs.length-y) 0 rfl rfl ⟨Nat.zero_le _,fun j h=>by omega⟩ ?_
 rintro i ⟨p1,p2⟩;refine W1 ?_;refine S0 (fun hb h=>?_) fun hb h=>?_
 ·have hi:i<xs.length:=by omega
  have hi':i<ys.length:=by omega
  have hx:xs[i].sz<=bf (xs.map bA.enc):=dA (List.mem_map_of_mem (List.getElem_mem hi));refine W3 ?_;refine C1 (adb xs[i] ys[i] (by omega)) ?_;refine S0 (fun hb h=>?_) fun hb h=>?_
  ·exact ay (aB (fun e=>h (by simp only[e]))).symm
  refine bF (i+1) (by omega) rfl rfl ⟨by omega,fun j hj=> ?_⟩;by_cases e:j=i
  ·subst e;rw[List.getElem?_eq_getElem hi,List.getElem?_eq_getElem hi',h]
  ·exact p2 j (by omega)
 ·have hi:i=xs.length:=by omega
  refine ay (aZ (List.ext_getElem? fun j=> ?_)).symm;by_cases hj:j<i
  ·exact p2 j hj
  ·rw[List.getElem?_eq_none (by omega),List.getElem?_eq_none (by omega)]
theorem Nq(x:aL):∀y:aL,x.sz<=1048576->aH prog 242 [x.v,y.v] (.c (.d (.b (dec (x=y))))):=by
 intro y hsz S;simp only[aL.sz,aL.aA,bT,bK,D.sz,List.length_map] at hsz;refine zcx [.tmp 4] func242 ntmps242 ?_;refine W1 ?_;refine S0 (fun hb h=>?_) fun hb h=>?_
 ·exact ay (aB (fun e=>h (by rw[e]))).symm
 have rQ:=h;clear h;refine C1 (Pm x.gq _ (by omega)) ?_;refine S0 (fun hb h=>?_) fun hb h=>?_
 ·exact ay (aB (fun e=>h (by rw[e]))).symm
 have al5:=h;clear h;exact ay (aZ (aL.ext' rQ al5)).symm
theorem Me(xs:List aL):∀ys:List aL,xs.length+bf (xs.map aL.enc)<=1048576->aH prog 166 [.c (.d (.sl (xs.map aL.enc))),.c (.d (.sl (ys.map aL.enc)))] (.c (.d (.b (dec (xs=ys))))):=by
 intro ys hsz S;refine zcx [.tmp 4] func166 ntmps166 ?_;refine W1 ?_;refine S0 (fun hb h=>?_) fun hb h=>?_
 ·exact ay (aB (fun e=>h (by rw[e]))).symm
 have hl:xs.length=ys.length:=by omega
 refine aT (ι:=Nat) zmx rfl [0,1,5] (fun y=>[.c (.d (.sl (xs.map aL.enc))),.c (.d (.sl (ys.map aL.enc))),.c (.d (.i .i64 y))]) (fun y=>[]::S)
  (fun i=>i<=xs.length/\∀j,j<i->xs[j]? =ys[j]?) (fun y=>xs.length-y) 0 rfl rfl ⟨Nat.zero_le _,fun j h=>by omega⟩ ?_
 rintro i ⟨p1,p2⟩;refine W1 ?_;refine S0 (fun hb h=>?_) fun hb h=>?_
 ·have hi:i<xs.length:=by omega
  have hi':i<ys.length:=by omega
  have hx:xs[i].sz<=bf (xs.map aL.enc):=dA (List.mem_map_of_mem (List.getElem_mem hi));refine W3 ?_;refine C1 (Nq xs[i] ys[i] (by omega)) ?_;refine S0 (fun hb h=>?_) fun hb h=>?_
  ·exact ay (aB (fun e=>h (by simp only[e]))).symm
  refine bF (i+1) (by omega) rfl rfl ⟨by omega,fun j hj=> ?_⟩;by_cases e:j=i
  ·subst e;rw[List.getElem?_eq_getElem hi,List.getElem?_eq_getElem hi',h]
  ·exact p2 j (by omega)
 ·have hi:i=xs.length:=by omega
  refine ay (aZ (List.ext_getElem? fun j=> ?_)).symm;by_cases hj:j<i
  ·exact p2 j hj
  ·rw[List.getElem?_eq_none (by omega),List.getElem?_eq_none (by omega)]
theorem Uw(x:aS):∀y:aS,x.sz<=1048576->aH prog 85 [x.v,y.v] (.c (.d (.b (dec (x=y))))):=by
 intro y hsz S;simp only[aS.sz,aS.aA,bT,bK,D.sz,List.length_map] at hsz;refine zcx [.tmp 4] func85 ntmps85 ?_;refine W1 ?_;refine S0 (fun hb h=>?_) fun hb h=>?_
 ·exact ay (aB (fun e=>h (by rw[e]))).symm
 have rQ:=h;clear h;refine C1 (qD x.aG _ (by omega)) ?_;refine S0 (fun hb h=>?_) fun hb h=>?_
 ·exact ay (aB (fun e=>h (by rw[e]))).symm
 have zZ:=h;clear h;refine C1 (Me x.aF _ (by omega)) ?_;refine S0 (fun hb h=>?_) fun hb h=>?_
 ·exact ay (aB (fun e=>h (by rw[e]))).symm
 have Ux:=h;clear h;exact ay (aZ (aS.ext' rQ zZ Ux)).symm
theorem Ry(xs:List aS):∀ys:List aS,xs.length+bf (xs.map aS.enc)<=1048576->aH prog 38 [.c (.d (.sl (xs.map aS.enc))),.c (.d (.sl (ys.map aS.enc)))] (.c (.d (.b (dec (xs=ys))))):=by
 intro ys hsz S;refine zcx [.tmp 4] func38 ntmps38 ?_;refine W1 ?_;refine S0 (fun hb h=>?_) fun hb h=>?_
 ·exact ay (aB (fun e=>h (by rw[e]))).symm
 have hl:xs.length=ys.length:=by omega
 refine aT (ι:=Nat) zmx rfl [0,1,5] (fun y=>[.c (.d (.sl (xs.map aS.enc))),.c (.d (.sl (ys.map aS.enc))),.c (.d (.i .i64 y))]) (fun y=>[]::S)
  (fun i=>i<=xs.length/\∀j,j<i->xs[j]? =ys[j]?) (fun y=>xs.length-y) 0 rfl rfl ⟨Nat.zero_le _,fun j h=>by omega⟩ ?_
 rintro i ⟨p1,p2⟩;refine W1 ?_;refine S0 (fun hb h=>?_) fun hb h=>?_
 ·have hi:i<xs.length:=by omega
  have hi':i<ys.length:=by omega
  have hx:xs[i].sz<=bf (xs.map aS.enc):=dA (List.mem_map_of_mem (List.getElem_mem hi));refine W3 ?_;refine C1 (Uw xs[i] ys[i] (by omega)) ?_;refine S0 (fun hb h=>?_) fun hb h=>?_
  ·exact ay (aB (fun e=>h (by simp only[e]))).symm
  refine bF (i+1) (by omega) rfl rfl ⟨by omega,fun j hj=> ?_⟩;by_cases e:j=i
  ·subst e;rw[List.getElem?_eq_getElem hi,List.getElem?_eq_getElem hi',h]
  ·exact p2 j (by omega)
 ·have hi:i=xs.length:=by omega
  refine ay (aZ (List.ext_getElem? fun j=> ?_)).symm;by_cases hj:j<i
  ·exact p2 j hj
  ·rw[List.getElem?_eq_none (by omega),List.getElem?_eq_none (by omega)]
def lx(l:List aj)(n:Nat):List (List D):=dO (l.map aj.enc) n
def dS(x:aj):Nat:=wJ x.enc
def jE(l:List aj):Nat:=iH (l.map aj.enc)
theorem ku(x:aj)(n:Nat):eT x.enc n=[.s x.aO,.ol n (lx x.ah (n+1))]:=by
 rw[aj.aA];simp only[eT,nL,qd,Nat.add_zero,lx]
theorem xC(s:List UInt8)(n:Nat):eT (bJ s).enc n=[.s s,.ol n []]:=by rw[ku];rfl
theorem al6(x:aj):dS x=jE x.ah+1:=by
 unfold dS jE;rw[aj.aA];simp only[wJ,qd];omega
theorem kg(s:List UInt8):dS (bJ s)=1:=by rw[al6];rfl
theorem nQ(n:Nat):lx [] n=[]:=rfl
theorem jW(x:aj)(l:List aj)(n:Nat):lx (x::l) n=eT x.enc n::lx l (n+dS x):=rfl
theorem nR(a b:List aj)(n:Nat):lx (a++b) n=lx a n++lx b (n+jE a):=by unfold lx jE;rw[List.map_append,oF]
theorem af0:jE []=0:=rfl
theorem ade(x:aj)(l:List aj):jE (x::l)=dS x+jE l:=rfl
theorem iD(l:List aj)(n:Nat):(lx l n).length=l.length:=by unfold lx;rw[jV,List.length_map]
theorem mh{l:List aj}{n:Nat}:∀r∈lx l n,r.length=2:=xQ fun r hr=>by
 obtain⟨z,_,rfl⟩:=List.mem_map.1 hr;exact z.cK
theorem Rz{l:List aj}{i:Nat}(hi:i<l.length)(n:Nat):lx (l.take i) n++[eT l[i].enc (n+jE (l.take i))]=lx (l.take (i+1)) n:=by
 rw[List.take_succ_eq_append_getElem hi,nR];rfl
theorem IB{l:List aj}{i:Nat}(hi:i<l.length)(n:Nat):lx (l.take i) n++[[.s l[i].aO,.ol (n+jE (l.take i)) (lx l[i].ah (n+jE (l.take i)+1))]]=lx (l.take (i+1)) n:=by
 rw[<-Rz hi,ku]
theorem AU{base l:List aj}{i:Nat}(hi:i<l.length)(q:Nat):lx (base++l.take i) q++[[.s l[i].aO,.ol (q+jE (base++l.take i)) (lx l[i].ah (q+jE (base++l.take i)+1))]]=lx (base++l.take (i+1)) q:=by
 rw[List.take_succ_eq_append_getElem hi,<-List.append_assoc,nR (base++l.take i),jW,nQ,ku]
theorem gV{l:List aj}:∀r∈l.map aj.enc,r.length=2:=fun r hr=>by
 obtain⟨z,_,rfl⟩:=List.mem_map.1 hr;exact z.cK
theorem FN{cs cs':List C}(hl:cs'.length=cs.length)(h:∀(j:Nat)(x y:C),cs[j]? =some x->cs'[j]? =some y->∀w σ S β v,jG w σ S β x v->jG w σ S β y v):Less (.agg cs) (.agg cs'):=by
 rintro w σ S β v ⟨a,ha,hc⟩;refine⟨a,ha,hl.trans hc.1,fun j y hy=> ?_⟩
 have hj:j<cs.length:=by rw[<-hl];exact(List.getElem?_eq_some_iff.1 hy).1
 obtain⟨v,h1,h2,h3⟩:=hc.2 j _ (List.getElem?_eq_getElem hj);exact⟨v,h1,h j _ y (List.getElem?_eq_getElem hj) hy w σ S β v h2,h3⟩
theorem an9{w:World}{σ:Nat->Nat}{S:Store}{β:Hs}{v:Value}(n:Nat)(h:jG w σ S β (.bE []) v):jG w σ S β (.d (.ol n [])) v:=by
 obtain⟨hd,ad,m,hval⟩:=h
 have hm:m=0:=by rw[hval] at hd;cases hd<;>rfl
 subst hm;rw[hval];exact .wD _ _ _
theorem al7(s:List UInt8)(n:Nat):Less (.agg [.d (.s s),.bE []]) (.agg [.d (.s s),.d (.ol n [])]):=FN rfl fun j x y hx hy w σ S β v hv=>by
 match j,hx,hy with
 |0,hx,hy=>cases hx;cases hy;exact hv
 |1,hx,hy=>cases hx;cases hy;exact an9 _ hv
 |j+2,hx,hy=>simp at hx
theorem al8(s:List UInt8)(n:Nat)(es:List (List D)):Less (.agg [.d (.s s),.l8 n es]) (.agg [.d (.s s),.d (.ol n es)]):=FN rfl fun j x y hx hy w σ S β v hv=>by
 match j,hx,hy with
 |0,hx,hy=>cases hx;cases hy;exact hv
 |1,hx,hy=>cases hx;cases hy;exact hv.1
 |j+2,hx,hy=>simp at hx
theorem ZE(s:List UInt8):aH prog 137 [.c (.d (.s s))] (.agg [.d (.s s),.bE []]):=fun S=>by
 refine zcx [.cell 2 54] func137 ntmps137 ?_;exact Z1
theorem dB(s:List UInt8)(n:Nat):aH prog 137 [.c (.d (.s s))] (.agg [.d (.s s),.d (.ol n [])]):=aH.less (ZE s) (al7 s n)
theorem mq(d:D):aH prog 140 [.c (.d d)] (.agg [.d (.s []),.d d]):=fun S=>by
 refine zcx [.cell 2 54] func140 ntmps140 ?_;exact Z1
theorem ZF(n:Nat)(es:List (List D)):aH prog 140 [.c (.l8 n es)] (.agg [.d (.s []),.l8 n es]):=fun S=>by
 refine zcx [.cell 2 54] func140 ntmps140 ?_;exact Z1
theorem oJ(n:Nat)(es:List (List D)):aH prog 140 [.c (.l8 n es)] (.agg [.d (.s []),.d (.ol n es)]):=aH.less (ZF n es) (al8 [] n es)
theorem kH(l j:Nat)(es:List (List D))(S:Store):dh prog 140 [.c (.bN (l,j) es)] S (fun r S'=>r=.agg [.d (.s []),.bN (l,j) es]/\S'=S):=by
 refine zcx [.cell 2 54] func140 ntmps140 ?_;exact Z1
theorem CK(xs:List (List UInt8))(hx:xs.length<=1073741824)(n q:Nat):aH prog 139 [.c (.d (.sl (xs.map encS)))] (.c (.d (.ol n (lx (aN xs) q)))):=fun S=>by
 refine lY (n) (rs:=[.tmp 2]) zmx func139 ntmps139 rfl rfl rfl rfl rfl ?_;refine W1 ?_;refine W3 ?_;refine mX n 3 2 [] (.inl rfl) (by simp) ?_
 refine aT (ι:=Nat) zmx rfl [3,7,8,9] (fun i=>[.c (.bN (0,1) (lx ((aN xs).take i) q)),.c (.d (.sl (xs.map encS))),.c (.d (.i .i64 xs.length)),.c (.d (.i .i64 i))]) (fun i=>[.seed n,.fu n 2 (lx ((aN xs).take i) q)]::S)
  (fun i=>i<=xs.length) (fun i=>xs.length-i) 0 rfl rfl (Nat.zero_le _) ?_
 intro i hi;refine W1 ?_;refine S0 (fun hb h=>?_) fun hb h=>?_
 ·have hi':i<xs.length:=by omega
  have hw:i<(aN xs).length:=by rw[jQ];exact hi'
  have hg:(aN xs)[i]=bJ xs[i]:=by simp[aN]
  have hl:(lx ((aN xs).take i) q).length<=i:=by rw[iD];exact List.length_take_le _ _
  refine W3 ?_;refine C1 (dB xs[i] (q+jE ((aN xs).take i))) ?_;refine W3 ?_;have hs:=Rz hw q;rw[hg,xC] at hs;rw[hs];exact bF (i+1) (by omega) rfl rfl (by omega)
 ·have hi':i=(aN xs).length:=by rw[jQ];omega
  rw[hi',List.take_length]
theorem eX(xs:List (List UInt8))(hx:xs.length<=1073741824)(n:Nat):aH prog 277 [.c (.d (.sl (xs.map encS)))] (.agg [.d (.s []),.d (.ol n (lx (aN xs) (n+1)))]):=fun S=>by
 refine zcx [.cell 2 54] func277 ntmps277 ?_;refine W1 ?_;refine C1 (CK xs hx n (n+1)) ?_;exact C3 (mq _)
theorem IC:∀N:Nat,(∀x:ak,SizeOf.sizeOf x<N->∀n:Nat,formed x=true->x.sz<=4194304->aH prog 142 [x.v] (.agg [.d (.s (cB x).aO),.d (.ol n (lx (cB x).ah (n+1)))]))/\
 (∀xs:List ak,SizeOf.sizeOf xs<N->∀n q:Nat,jm xs=true->xs.length<=4194304->(∀t∈xs,t.sz<=4194304)->aH prog 203 [.c (.d (.sl (xs.map ak.enc)))] (.c (.d (.ol n (lx (xs.map cB) q)))))
 |0=>⟨fun x h=>by omega,fun x h=>by omega⟩
 |N+1=>by
  obtain⟨ih,qU⟩:=IC N;refine⟨fun x hn n hf hsz=> ?_,fun xs hn n q hf hlen hsz=> ?_⟩
  ·have j3:=ak.gT x;have hts:=EX hsz;have hx:=afj x;rw[zh,Bool.and_eq_true] at hf;have hfi:=gH hf.1
   have hall:∀t∈x.fArgs,t.sz<=4194304:=fun t ht=>by
    obtain⟨i,hi,e⟩:=List.getElem_of_mem ht;rw[<-e];exact(xg hi hsz).1
   intro S;refine vF (n) 1 (rs:=[.cell 2 54]) zmx func142 ntmps142 rfl rfl rfl rfl rfl ?_;refine W1 ?_;refine S0 (fun hb h=>?_) fun hb h=>?_
   ·rw[if_pos h] at hx;rw[hx];refine W3 ?_;refine C1 (dB _ n) ?_;rfl
   have k1:=h;rw[if_neg h] at hx;refine S0 (fun hb h=>?_) fun hb h=>?_
   ·rw[if_pos h] at hx;rw[hx];refine C1 (dB _ (n+1)) ?_;refine C1 (dB _ (n+1+1)) ?_;refine C1 (oJ _ _) ?_;rfl
   have k4:=h;rw[if_neg h] at hx;refine S0 (fun hb h=>?_) fun hb h=>?_
   ·have hlen:x.fArgs.length=1:=by omega
    obtain⟨a,ha⟩:=List.length_eq_one_iff.1 hlen
    have ha0:x.fArgs[0]'(by omega)=a:=by simp[ha]
    rw[if_neg (by omega),if_pos h,ha] at hx;have hfa:formed a=true:=yC.1 hf.2 a (by rw[ha];simp);have hsa:a.sz<=4194304:=hall a (by rw[ha];simp)
    have hla:SizeOf.sizeOf a<N:=by
     have:=List.sizeOf_lt_of_mem (show a∈x.fArgs by rw[ha];simp);omega
    rw[hx];refine C1 (dB _ (n+1)) ?_;refine aX (dB _ (n+1+1)) ?_;simp -implicitDefEqProofs (disch:=omega) only[go_sem,ha,List.getD_cons_zero];refine W3 ?_;refine C1 (ih a hla (n+1+1+1) hfa hsa) ?_;refine C1 (oJ _ _) ?_;simp only[dW,dG,List.cons_append,List.nil_append,List.map_cons,List.map_nil,jW,nQ,xC,kg,ku,kY,kZ,iZ]
   have k3:=h;refine S0 (fun hb h=>?_) fun hb h=>?_
   ·rw[if_pos ⟨by omega,by omega⟩] at hx;rw[hx];refine C1 (dB _ n) ?_;rfl
   rw[if_neg (by omega),if_neg k3] at hx;rw[hx];refine C1 (dB _ (n+1)) ?_;refine C1 (qU x.fArgs (by omega) 0 (n+1+1) hf.2 hts.1 hall) ?_
   have hl:(lx (x.fArgs.map cB) (n+1+1)).length=x.fArgs.length:=by rw[iD,List.length_map]
   have hr:=mh (l:=x.fArgs.map cB) (n:=n+1+1);refine W3 ?_;refine C1 (mq _) ?_;simp only[dW,dG,List.cons_append,List.nil_append,jW,nQ,xC,kg]
  ·have Dp:=fun(i:Nat) (hi:i<xs.length)=>IB (l:=xs.map cB) (i:=i) (by rw[List.length_map];exact hi) q;intro S;refine lY (n) (rs:=[.tmp 2]) zmx func203 ntmps203 rfl rfl rfl rfl rfl ?_;refine W1 ?_;refine W3 ?_;refine mX n 3 2 [] (.inl rfl) (by simp) ?_
   refine aT (ι:=Nat) zmx rfl [3,7,8,9] (fun i=>[.c (.bN (0,1) (lx ((xs.map cB).take i) q)),.c (.d (.sl (xs.map ak.enc))),.c (.d (.i .i64 xs.length)),.c (.d (.i .i64 i))]) (fun i=>[.seed n,.fu n 2 (lx ((xs.map cB).take i) q)]::S)
    (fun i=>i<=xs.length) (fun i=>xs.length-i) 0 rfl rfl (Nat.zero_le _) ?_
   intro i hi;refine W1 ?_;refine S0 (fun hb h=>?_) fun hb h=>?_
   ·have hi':i<xs.length:=by omega
    have hs:=Dp i hi';rw[List.getElem_map] at hs
    have hl:(lx ((xs.map cB).take i) q).length<=i:=by rw[iD];exact List.length_take_le _ _
    refine W3 ?_;refine C1 (ih xs[i] (by have:=List.sizeOf_lt_of_mem (List.getElem_mem hi');omega) (q+jE ((xs.map cB).take i)) (yC.1 hf _ (List.getElem_mem hi')) (hsz _ (List.getElem_mem hi'))) ?_;refine W3 ?_;rw[hs];exact bX 2 (by decide) (i+1) (by omega) rfl rfl rfl rfl (by omega)
   ·have hi':i=(xs.map cB).length:=by rw[List.length_map];omega
    rw[hi',List.take_length]
theorem mD(x:ak)(n:Nat)(hf:formed x=true)(hsz:x.sz<=4194304):aH prog 142 [x.v] (.agg [.d (.s (cB x).aO),.d (.ol n (lx (cB x).ah (n+1)))]):=(IC _).1 x (Nat.lt_succ_self _) n hf hsz
theorem BG(xs:List ak)(n q:Nat)(hf:jm xs=true)(hlen:xs.length<=4194304)(hsz:∀t∈xs,t.sz<=4194304):aH prog 203 [.c (.d (.sl (xs.map ak.enc)))] (.c (.d (.ol n (lx (xs.map cB) q)))):=(IC _).2 xs (Nat.lt_succ_self _) n q hf hlen hsz
theorem fO(s:List UInt8):(bJ s).enc=[.s s,.sl []]:=by rw[aj.aA];rfl
theorem kI(l:List aj):(bB l).enc=[.s [],.sl (l.map aj.enc)]:=by rw[aj.aA];rfl
theorem jR{base l:List aj}{i:Nat}(hi:i<l.length):(base++l.take i).map aj.enc++[[.s l[i].aO,.sl (l[i].ah.map aj.enc)]]=(base++l.take (i+1)).map aj.enc:=by
 rw[List.take_succ_eq_append_getElem hi,<-List.append_assoc,List.map_append (l₂:=[l[i]]),List.map_cons,List.map_nil,aj.aA]
theorem Gy(s:List UInt8)(es:List (List D)):Less (.agg [.d (.s s),.bE es]) (.agg [.d (.s s),.d (.sl es)]):=FN rfl fun j x y hx hy w σ S β v hv=>by
 match j,hx,hy with
 |0,hx,hy=>cases hx;cases hy;exact hv
 |1,hx,hy=>cases hx;cases hy;exact hv.1
 |j+2,hx,hy=>simp at hx
theorem LH(x:aj)(n:Nat):Less (.agg [.d (.s x.aO),.d (.ol n (lx x.ah (n+1)))]) x.v:=by
 have h:=Nn (r:=x.enc) (n:=n);rw[ku,aj.vv] at h;exact h
theorem XA(s:List UInt8):aH prog 119 [.c (.d (.s s))] (.agg [.d (.s s),.bE []]):=fun S=>by
 refine zcx [.cell 2 54] func119 ntmps119 ?_;exact Z1
theorem bW(s:List UInt8):aH prog 119 [.c (.d (.s s))] (.agg [.d (.s s),.d (.sl [])]):=aH.less (XA s) (Gy s [])
theorem oo(es:List (List D))(hes:∀e∈es,e.length=2)(hl:es.length<=1073741824):aH prog 186 [.c (.d (.sl es))] (.agg [.d (.s []),.d (.sl es)]):=fun S=>by
 refine zcx [.cell 2 54] func186 ntmps186 ?_;refine W1 ?_;exact⟨hes,⟨_,rfl,rfl⟩,(fun y hy=>by cases hy),hl⟩
theorem lZ(es:List (List D))(hes:∀e∈es,e.length=2)(hl:es.length<=1073741824)(bU:List Ab.Obj)(Ω:Store):dh prog 186 [.c (.d (.sl es))] (bU::Ω)
 (fun r S'=>r=.agg [.d (.s []),.bN (0,bU.length+1) es]/\S'=(bU++[.box [.d (.s []),.bN (0,bU.length+1) es],.tok 2 es])::Ω):=by
 refine Ta (rs:=[.cell 2 54]) zmx func186 ntmps186 rfl rfl rfl rfl rfl ?_;refine W1 ?_;exact⟨hes,⟨_,rfl,rfl⟩,(fun y hy=>by cases hy),hl⟩
theorem KF(xs:List (List UInt8))(hx:xs.length<=1073741824):aH prog 123 [.c (.d (.sl (xs.map encS)))] (.c (.d (.sl ((aN xs).map aj.enc)))):=fun S=>by
 refine zcx [.tmp 2] func123 ntmps123 ?_;refine W1 ?_;refine W3 ?_;refine ni 3 2 [] rfl (by simp) ?_
 refine aT (ι:=Nat) zmx rfl [0,3,4] (fun i=>[.c (.d (.sl (xs.map encS))),.c (.bN (0,0) (((aN xs).take i).map aj.enc)),.c (.d (.i .i64 i))]) (fun i=>[.tok 2 (((aN xs).take i).map aj.enc)]::S)
  (fun i=>i<=xs.length) (fun i=>xs.length-i) 0 rfl rfl (Nat.zero_le _) ?_
 intro i hi
 have hl:(((aN xs).take i).map aj.enc).length<=i:=by rw[List.length_map];exact List.length_take_le _ _
 refine W1 ?_;refine S0 (fun hb h=>?_) fun hb h=>?_
 ·have hi':i<xs.length:=by omega
  have hs:=jR (base:=[]) (l:=aN xs) (i:=i) (by rw[jQ];exact hi')
  have hg:(aN xs)[i]'(by rw[jQ];exact hi')=bJ xs[i]:=by simp[aN]
  rw[hg] at hs;simp only[List.nil_append,kY,kZ,List.map_nil] at hs;refine W3 ?_;refine C1 (bW xs[i]) ?_;refine W3 ?_;rw[hs];exact bF (i+1) (by omega) rfl rfl (by omega)
 ·have hi':i=(aN xs).length:=by rw[jQ];omega
  rw[hi',List.take_length]
theorem eF(xs:List (List UInt8))(hx:xs.length<=1073741824):aH prog 265 [.c (.d (.sl (xs.map encS)))] (.agg [.d (.s []),.d (.sl ((aN xs).map aj.enc))]):=fun S=>by
 refine zcx [.cell 2 54] func265 ntmps265 ?_;refine W1 ?_;exact C3 (KF xs hx)
theorem PW:∀N:Nat,(∀x:ak,SizeOf.sizeOf x<N->x.sz<=4194304->aH prog 122 [x.v] (.agg [.d (.s (cB x).aO),.d (.sl ((cB x).ah.map aj.enc))]))
 |0=>fun x h=>by omega
 |N+1=>by
  have ih:=PW N;intro x hn hsz;have j3:=ak.gT x;have hts:=EX hsz;have hx:=afj x
  have hall:∀t∈x.fArgs,t.sz<=4194304:=fun t ht=>by
   obtain⟨i,hi,e⟩:=List.getElem_of_mem ht;rw[<-e];exact(xg hi hsz).1
  intro S;refine zcx [.cell 2 54] func122 ntmps122 ?_;refine W1 ?_;refine S0 (fun hb h=>?_) fun hb h=>?_
  ·rw[if_pos h] at hx;rw[hx];refine W3 ?_;refine C1 (bW _) ?_;rfl
  rw[if_neg h] at hx;refine S0 (fun hb h=>?_) fun hb h=>?_
  ·rw[if_pos h] at hx;rw[hx];refine C1 (bW _) ?_;refine C1 (bW _) ?_;refine C1 (oo _ (by simp) (by simp)) ?_;simp only[dW,dG,List.map_cons,List.map_nil,fO,Ia]
  rw[if_neg h] at hx
  have arS:x.aK=2->x.fArgs.length=0->cB x=bJ x.fName:=fun a b=>by rw[hx,if_pos ⟨a,b⟩]
  have ajx:¬(x.aK=2/\x.fArgs.length=0)->cB x=bB ((if x.aK=3 then [bJ iZ] else [])++[bJ x.fName]++x.fArgs.map cB):=fun a=>by rw[hx,if_neg a]
  clear hx
  repeat' (first|(refine S0 (fun hb h=>?_) fun hb h=>?_))
  ·rw[arS (by omega) (by omega)];refine C1 (bW _) ?_;rfl
  ·exfalso;omega
  ·have hx:=ajx (by omega);rw[if_neg h,List.nil_append] at hx;refine C1 (bW _) ?_;refine W3 ?_
   refine aT (ι:=Nat) zmx rfl [1,2,3,4] (fun i=>[.c (.ptr (0,0) 0),.c (.ptr (0,1) 0),.c (.ptr (0,2) 0),.c (.d (.i .i64 i))])
    (fun i=>[.box [.d (.i .i64 x.aK),.d (.s x.fName),.d (.sl (x.fArgs.map ak.enc))],.box [.d (.s []),.bE []],.box [.d (.s []),.bN (0,3) (([bJ x.fName]++(x.fArgs.map cB).take i).map aj.enc)],.tok 2 (([bJ x.fName]++(x.fArgs.map cB).take i).map aj.enc)]::S)
    (fun i=>i<=x.fArgs.length) (fun i=>x.fArgs.length-i) 0 rfl ?_ (Nat.zero_le _) ?_
   ·simp only[List.take_zero,List.append_nil,List.map_cons,List.map_nil,List.cons_append,List.nil_append,fO]<;>(try rfl)
   intro i hi
   have hl:(([bJ x.fName]++(x.fArgs.map cB).take i).map aj.enc).length<=i+2:=by
    rw[List.length_map,List.length_append];have:=List.length_take_le i (x.fArgs.map cB);simp only[List.length_cons,List.length_nil];omega
   have hs:=fun hi=>jR (base:=[bJ x.fName]) (l:=x.fArgs.map cB) (i:=i) hi;have hrw:=gV (l:=[bJ x.fName]++(x.fArgs.map cB).take i);generalize hR:([bJ x.fName]++(x.fArgs.map cB).take i).map aj.enc=R at hl hs hrw;refine W1 ?_;refine S0 (fun hb h=>?_) fun hb h=>?_
   ·have hi':i<x.fArgs.length:=by omega
    have hs':=hs (by rw[List.length_map];exact hi');rw[List.getElem_map] at hs';refine W3 ?_;refine C1 (ih x.fArgs[i] (by have:=List.sizeOf_lt_of_mem (List.getElem_mem hi');omega) (hall _ (List.getElem_mem hi'))) ?_;refine W3 ?_;rw[hs'];exact bF (i+1) (by omega) rfl rfl (by omega)
   ·have hi':i=(x.fArgs.map cB).length:=by rw[List.length_map];omega
    rw[hx,<-hR,hi',List.take_length];simp only[dW,dG,List.cons_append,List.nil_append]
  ·have hx:=ajx (by omega);rw[if_pos h] at hx;refine C1 (bW _) ?_;refine W3 ?_;refine C1 (bW _) ?_;refine W3 ?_
   refine aT (ι:=Nat) zmx rfl [1,2,3,4] (fun i=>[.c (.ptr (0,0) 0),.c (.ptr (0,1) 0),.c (.ptr (0,2) 0),.c (.d (.i .i64 i))])
    (fun i=>[.box [.d (.i .i64 x.aK),.d (.s x.fName),.d (.sl (x.fArgs.map ak.enc))],.box [.d (.s []),.bE []],.box [.d (.s []),.bN (0,3) (([bJ iZ,bJ x.fName]++(x.fArgs.map cB).take i).map aj.enc)],.tok 2 (([bJ iZ,bJ x.fName]++(x.fArgs.map cB).take i).map aj.enc)]::S)
    (fun i=>i<=x.fArgs.length) (fun i=>x.fArgs.length-i) 0 rfl ?_ (Nat.zero_le _) ?_
   ·simp only[List.take_zero,List.append_nil,List.map_cons,List.map_nil,List.cons_append,List.nil_append,fO]<;>(try rfl)
   intro i hi
   have hl:(([bJ iZ,bJ x.fName]++(x.fArgs.map cB).take i).map aj.enc).length<=i+2:=by
    rw[List.length_map,List.length_append];have:=List.length_take_le i (x.fArgs.map cB);simp only[List.length_cons,List.length_nil];omega
   have hs:=fun hi=>jR (base:=[bJ iZ,bJ x.fName]) (l:=x.fArgs.map cB) (i:=i) hi;have hrw:=gV (l:=[bJ iZ,bJ x.fName]++(x.fArgs.map cB).take i);generalize hR:([bJ iZ,bJ x.fName]++(x.fArgs.map cB).take i).map aj.enc=R at hl hs hrw;refine W1 ?_;refine S0 (fun hb h=>?_) fun hb h=>?_
   ·have hi':i<x.fArgs.length:=by omega
    have hs':=hs (by rw[List.length_map];exact hi');rw[List.getElem_map] at hs';refine W3 ?_;refine C1 (ih x.fArgs[i] (by have:=List.sizeOf_lt_of_mem (List.getElem_mem hi');omega) (hall _ (List.getElem_mem hi'))) ?_;refine W3 ?_;rw[hs'];exact bF (i+1) (by omega) rfl rfl (by omega)
   ·have hi':i=(x.fArgs.map cB).length:=by rw[List.length_map];omega
    rw[hx,<-hR,hi',List.take_length];simp only[dW,dG,List.cons_append,List.nil_append]
  ·have hx:=ajx (by omega);rw[if_neg h,List.nil_append] at hx;refine C1 (bW _) ?_;refine W3 ?_
   refine aT (ι:=Nat) zmx rfl [1,2,3,4] (fun i=>[.c (.ptr (0,0) 0),.c (.ptr (0,1) 0),.c (.ptr (0,2) 0),.c (.d (.i .i64 i))])
    (fun i=>[.box [.d (.i .i64 x.aK),.d (.s x.fName),.d (.sl (x.fArgs.map ak.enc))],.box [.d (.s []),.bE []],.box [.d (.s []),.bN (0,3) (([bJ x.fName]++(x.fArgs.map cB).take i).map aj.enc)],.tok 2 (([bJ x.fName]++(x.fArgs.map cB).take i).map aj.enc)]::S)
    (fun i=>i<=x.fArgs.length) (fun i=>x.fArgs.length-i) 0 rfl ?_ (Nat.zero_le _) ?_
   ·simp only[List.take_zero,List.append_nil,List.map_cons,List.map_nil,List.cons_append,List.nil_append,fO]<;>(try rfl)
   intro i hi
   have hl:(([bJ x.fName]++(x.fArgs.map cB).take i).map aj.enc).length<=i+2:=by
    rw[List.length_map,List.length_append];have:=List.length_take_le i (x.fArgs.map cB);simp only[List.length_cons,List.length_nil];omega
   have hs:=fun hi=>jR (base:=[bJ x.fName]) (l:=x.fArgs.map cB) (i:=i) hi;have hrw:=gV (l:=[bJ x.fName]++(x.fArgs.map cB).take i);generalize hR:([bJ x.fName]++(x.fArgs.map cB).take i).map aj.enc=R at hl hs hrw;refine W1 ?_;refine S0 (fun hb h=>?_) fun hb h=>?_
   ·have hi':i<x.fArgs.length:=by omega
    have hs':=hs (by rw[List.length_map];exact hi');rw[List.getElem_map] at hs';refine W3 ?_;refine C1 (ih x.fArgs[i] (by have:=List.sizeOf_lt_of_mem (List.getElem_mem hi');omega) (hall _ (List.getElem_mem hi'))) ?_;refine W3 ?_;rw[hs'];exact bF (i+1) (by omega) rfl rfl (by omega)
   ·have hi':i=(x.fArgs.map cB).length:=by rw[List.length_map];omega
    rw[hx,<-hR,hi',List.take_length];simp only[dW,dG,List.cons_append,List.nil_append]
theorem mR(x:ak)(hsz:x.sz<=4194304):aH prog 122 [x.v] (.agg [.d (.s (cB x).aO),.d (.sl ((cB x).ah.map aj.enc))]):=PW _ x (Nat.lt_succ_self _) hsz
theorem Dq(xs:List ak)(hlen:xs.length<=4194304)(hsz:∀t∈xs,t.sz<=4194304):aH prog 266 [.c (.d (.sl (xs.map ak.enc)))] (.c (.d (.sl ((xs.map cB).map aj.enc)))):=fun S=>by
 refine zcx [.tmp 2] func266 ntmps266 ?_;refine W1 ?_;refine W3 ?_;refine ni 3 2 [] rfl (by simp) ?_
 refine aT (ι:=Nat) zmx rfl [0,3,4] (fun i=>[.c (.d (.sl (xs.map ak.enc))),.c (.bN (0,0) (((xs.map cB).take i).map aj.enc)),.c (.d (.i .i64 i))]) (fun i=>[.tok 2 (((xs.map cB).take i).map aj.enc)]::S)
  (fun i=>i<=xs.length) (fun i=>xs.length-i) 0 rfl rfl (Nat.zero_le _) ?_
 intro i hi
 have hl:(((xs.map cB).take i).map aj.enc).length<=i:=by rw[List.length_map];exact List.length_take_le _ _
 refine W1 ?_;refine S0 (fun hb h=>?_) fun hb h=>?_
 ·have hi':i<xs.length:=by omega
  have hs:=jR (base:=[]) (l:=xs.map cB) (i:=i) (by rw[List.length_map];exact hi');rw[List.getElem_map] at hs;simp only[List.nil_append] at hs;refine W3 ?_;refine C1 (mR xs[i] (hsz _ (List.getElem_mem hi'))) ?_;refine W3 ?_;rw[hs];exact bF (i+1) (by omega) rfl rfl (by omega)
 ·have hi':i=(xs.map cB).length:=by rw[List.length_map];omega
  rw[hi',List.take_length]
theorem tQ(b:Bool)(x:aj)(hsz:x.sz<=67108864):aH prog 267 [.c (.d (.b b)),x.v] (wY b x).v:=by
 have zero:aH prog 267 [.c (.d (.b b)),x.v] (.agg [.d (.s []),.bE []])->aH prog 267 [.c (.d (.b b)),x.v] bZ.v:=fun h=>aH.less h (Gy [] [])
 cases b with
 |false=>
  refine zero fun S=> ?_;refine zcx [.cell 4 54] func267 ntmps267 ?_;exact Z1
 |true=>
  show aH prog 267 [.c (.d (.b true)),x.v] (Eh x).v;unfold Eh
  cases hv:fQ x with
  |false=>
   refine zero fun S=> ?_;refine zcx [.cell 4 54] func267 ntmps267 ?_;refine W1 ?_;refine aX (pz x hsz) ?_;simp -implicitDefEqProofs (disch:=omega) only[go_sem,hv]
  |true=>
   intro S;refine zcx [.cell 4 54] func267 ntmps267 ?_;refine W1 ?_;refine aX (pz x hsz) ?_;simp -implicitDefEqProofs (disch:=omega) only[go_sem,hv]
theorem aS.bounds{x:aS}(h:x.sz<=4194304):x.fName.length<=4194304/\x.aG.length<=4194304/\x.aF.length<=4194304/\∀s∈x.aG,s.length<=4194304:=by
 simp only[aS.sz,aS.aA,bT,bK,D.sz,List.length_map] at h;refine⟨by omega,by omega,by omega,fun s hs=> ?_⟩;have:=tF hs;omega
theorem aS.Ve{x:aS}{i:Nat}(hi:i<x.aF.length)(h:x.sz<=4194304):x.aF[i].sz<=4194304:=by
 have hx:x.aF[i].sz<=bf (x.aF.map aL.enc):=dA (List.mem_map_of_mem (List.getElem_mem hi));simp only[aS.sz,aS.aA,bT,bK,D.sz,List.length_map] at h;omega
theorem aL.bounds{x:aL}(h:x.sz<=4194304):x.fName.length<=4194304/\x.gq.length<=4194304/\∀t∈x.gq,t.sz<=4194304:=by
 simp only[aL.sz,aL.aA,bT,bK,D.sz,List.length_map] at h;refine⟨by omega,by omega,fun t ht=> ?_⟩;have hx:t.sz<=bf (x.gq.map ak.enc):=dA (List.mem_map_of_mem ht);omega
noncomputable def qM(vars:List (List UInt8))(c:aL):Bool:=dec (c.gq.length<=4)&&mO vars c.gq
noncomputable def mU(d:aS):List (List UInt8):=d.aF.map aL.fName
noncomputable def fT(d:aS):Bool:=
 validName d.fName&&(dec (d.aG.length<=3)&&(iU d.aG&&(dec (1<=d.aF.length)&&(dec (d.aF.length<=5)&&(d.aF.all (qM d.aG)&&iU (mU d))))))
theorem Es(d:aS)(hsz:d.sz<=4194304):aH prog 214 [d.v] (.c (.d (.b (fT d)))):=fun S=>by
 have hb0:=aS.bounds hsz
 have bad:∀i,∀hi:i<d.aF.length,qM d.aG d.aF[i]=false->fT d=false:=fun i hi h=>by
  have:d.aF.all (qM d.aG)=false:=Bool.eq_false_iff.2 fun hx=>by
   rw[List.all_eq_true.1 hx _ (List.getElem_mem hi)] at h;cases h
  unfold fT
  rw[this];simp
 refine zcx [.tmp 2] func214 ntmps214 ?_;refine W1 ?_;refine W3 ?_;refine ni 3 1 [] rfl (by simp) ?_
 refine aT (ι:=Nat×List (List UInt8)) zmx rfl [1,3,4] (fun y=>[.c (.ptr (0,0) 0),.c (.bN (0,1) (y.2.map encS)),.c (.d (.i .i64 y.1))]) (fun y=>[.box (d.enc.map .d),.tok 1 (y.2.map encS)]::S)
  (fun y=>y.1<=d.aF.length/\y.2=(mU d).take y.1/\∀j,∀hj:j<d.aF.length,j<y.1->qM d.aG d.aF[j]=true) (fun y=>d.aF.length-y.1) (0,[]) rfl ?_ ⟨Nat.zero_le _,rfl,fun j _ h=>by simp only at h;omega⟩ ?_
 ·exact Z1
 rintro⟨i,names⟩ ⟨p1,p2,p3⟩;simp only at p1 p2 p3
 have pl:names.length<=d.aF.length:=by rw[p2];simp[mU];omega
 refine W1 ?_;refine S0 (fun hb h=>?_) fun hb h=>?_
 ·have hi:i<d.aF.length:=by omega
  have hc:=aL.bounds (aS.Ve hi hsz);refine W3 ?_;refine S0 (fun hb h=>?_) fun hb h=>?_
  ·rw[bad i hi (by unfold qM;rw[aB (by omega)];rfl)]
  have h1:=h;refine W3 ?_;refine C2 (SY d.aF[i].gq d.aG (by omega) hc.2.2 (by omega)) ?_;refine S0 (fun hb h=>?_) fun hb h=>?_
  ·rw[bad i hi (by unfold qM;rw[h];simp)]
  have h2:=h;refine W3 ?_;rw[show List.map encS names++[[D.s d.aF[i].fName]]=List.map encS (names++[d.aF[i].fName]) by simp[encS]]
  exact bF (i+1,names++[d.aF[i].fName]) (by simp only;omega) rfl rfl ⟨by simp only;omega,by simp only;rw[p2,jc (by simpa [mU] using hi)];simp[mU],fun j hj hji=>by
   simp only at hji;by_cases e:j=i
   ·subst e;unfold qM;rw[h2,aZ (by omega)];rfl
   ·exact p3 j hj (by omega)⟩
 have hi:i=d.aF.length:=by omega
 have hn:names=mU d:=by rw[p2,List.take_of_length_le (by simp[mU];omega)]
 have hall:d.aF.all (qM d.aG)=true:=List.all_eq_true.2 fun c hc=>by
  obtain⟨j,hj,e⟩:=List.getElem_of_mem hc;rw[<-e];exact p3 j hj (by omega)
 have hnl:∀s∈names,s.length<=4194304:=fun s hs=>by
  rw[hn] at hs;obtain⟨c,hc,e⟩:=List.mem_map.1 hs;obtain⟨j,hj,e'⟩:=List.getElem_of_mem hc;rw[<-e,<-e'];exact(aL.bounds (aS.Ve hj hsz)).1
 have hlen:names.length=d.aF.length:=by rw[hn];simp[mU]
 refine C2 (iM d.fName (by omega)) ?_;refine S0 (fun hb h=>?_) fun hb h=>?_
 ·have h1:=h;refine C2 (ny d.aG 3 (by omega) hb0.2.2.2) ?_;refine S0 (fun hb h=>?_) fun hb h=>?_
  ·have h2:=h;refine S0 (fun hb h=>?_) fun hb h=>?_
   ·have h3:=h;refine C2 (ny names 5 (by omega) hnl) ?_;refine ay ?_;rw[Bool.and_eq_true] at h2;have h4:=gH h2.1;unfold fT;rw[h1,h2.2,hall,<-hn,aZ (show d.aG.length<=3 by omega),aZ (show 1<=d.aF.length by omega),hlen];simp only[Bool.true_and];congr 1;exact iB ⟨fun h=>by omega,fun h=>by omega⟩
   ·refine ay ?_;unfold fT
    rw[aB (show ¬1<=d.aF.length by omega)];simp
  ·refine ay ?_;unfold fT
   have h2:(dec (d.aG.length<=3)&&iU d.aG)=false:=by
    rw[<-h];congr 1;exact iB ⟨fun h=>by omega,fun h=>by omega⟩
   rw[<-Bool.and_assoc (dec (d.aG.length<=3)),h2];simp
 ·exact ay (by unfold fT;rw[h];rfl)
theorem Et(d:aS)(hsz:d.sz<=4194304):aH prog 162 [d.v] (.c (.d (.b (fT d)))):=fun S=>by
 have hb0:=aS.bounds hsz
 have bad:∀i,∀hi:i<d.aF.length,qM d.aG d.aF[i]=false->fT d=false:=fun i hi h=>by
  have:d.aF.all (qM d.aG)=false:=Bool.eq_false_iff.2 fun hx=>by
   rw[List.all_eq_true.1 hx _ (List.getElem_mem hi)] at h;cases h
  unfold fT
  rw[this];simp
 refine zcx [.tmp 2] func162 ntmps162 ?_;refine W1 ?_;refine C2 (iL d.fName (by omega)) ?_;refine S0 (fun hb h=>?_) fun hb h=>?_
 ·exact ay (by unfold fT;rw[h];rfl)
 have h1:=h;refine S0 (fun hb h=>?_) fun hb h=>?_
 ·exact ay (by unfold fT;rw[aB (show ¬d.aG.length<=3 by omega)];simp)
 have h2:=h;refine C2 (qw d.aG (by omega) hb0.2.2.2) ?_;refine S0 (fun hb h=>?_) fun hb h=>?_
 ·exact ay (by unfold fT;rw[h];simp)
 have h3:=h;refine S0 (fun hb h=>?_) fun hb h=>?_
 ·exact ay (by unfold fT;rw[aB (show ¬1<=d.aF.length by omega)];simp)
 have h4:=h;refine S0 (fun hb h=>?_) fun hb h=>?_
 ·exact ay (by unfold fT;rw[aB (show ¬d.aF.length<=5 by omega)];simp)
 have h5:=h;refine W3 ?_;refine ni 3 1 [] rfl (by simp) ?_
 refine aT (ι:=Nat×List (List UInt8)) zmx rfl [1,3,36,37,38] (fun y=>[.c (.ptr (0,0) 0),.c (.bN (0,1) (y.2.map encS)),.c (.d (.sl (d.aF.map aL.enc))),.c (.d (.i .i64 d.aF.length)),.c (.d (.i .i64 y.1))]) (fun y=>[.box (d.enc.map .d),.tok 1 (y.2.map encS)]::S)
  (fun y=>y.1<=d.aF.length/\y.2=(mU d).take y.1/\∀j,∀hj:j<d.aF.length,j<y.1->qM d.aG d.aF[j]=true) (fun y=>d.aF.length-y.1) (0,[]) rfl ?_ ⟨Nat.zero_le _,rfl,fun j _ h=>by simp only at h;omega⟩ ?_
 ·exact Z1
 rintro⟨i,names⟩ ⟨p1,p2,p3⟩;simp only at p1 p2 p3
 have pl:names.length<=d.aF.length:=by rw[p2];simp[mU];omega
 refine W1 ?_;refine S0 (fun hb h=>?_) fun hb h=>?_
 ·have hi:i<d.aF.length:=by omega
  have hc:=aL.bounds (aS.Ve hi hsz);refine W3 ?_;refine S0 (fun hb h=>?_) fun hb h=>?_
  ·rw[bad i hi (by unfold qM;rw[aB (by omega)];rfl)]
  have k1:=h;refine W3 ?_;refine C2 (zY d.aF[i].gq d.aG (by omega) hc.2.2 (by omega)) ?_;refine S0 (fun hb h=>?_) fun hb h=>?_
  ·rw[bad i hi (by unfold qM;rw[h];simp)]
  have k2:=h;refine W3 ?_;rw[show List.map encS names++[[D.s d.aF[i].fName]]=List.map encS (names++[d.aF[i].fName]) by simp[encS]]
  exact bX 2 (by decide) (i+1,names++[d.aF[i].fName]) (by simp only;omega) rfl rfl rfl rfl ⟨by simp only;omega,by simp only;rw[p2,jc (by simpa [mU] using hi)];simp[mU],fun j hj hji=>by
   simp only at hji;by_cases e:j=i
   ·subst e;unfold qM;rw[k2,aZ (by omega)];rfl
   ·exact p3 j hj (by omega)⟩
 have hi:i=d.aF.length:=by omega
 have hn:names=mU d:=by rw[p2,List.take_of_length_le (by simp[mU];omega)]
 have hall:d.aF.all (qM d.aG)=true:=List.all_eq_true.2 fun c hc=>by
  obtain⟨j,hj,e⟩:=List.getElem_of_mem hc;rw[<-e];exact p3 j hj (by omega)
 have hnl:∀s∈names,s.length<=4194304:=fun s hs=>by
  rw[hn] at hs;obtain⟨c,hc,e⟩:=List.mem_map.1 hs;obtain⟨j,hj,e'⟩:=List.getElem_of_mem hc;rw[<-e,<-e'];exact(aL.bounds (aS.Ve hj hsz)).1
 refine C2 (qw names (by omega) hnl) ?_;exact ay (by unfold fT;rw[h1,h3,hall,<-hn,aZ (show d.aG.length<=3 by omega),aZ (show 1<=d.aF.length by omega),aZ (show d.aF.length<=5 by omega)];simp)
def oK:List UInt8:=[100,97,116,97]
def Cj(c:aL):aj:=bB ([bJ c.fName]++c.gq.map cB)
def baseD(d:aS):List aj:=[bJ oK,bJ d.fName,bB (aN d.aG)]
def Eu(d:aS):aj:=bB (baseD d++d.aF.map Cj)
noncomputable def XB(d:aS):aj:=wY (fT d) (Eu d)
theorem al9{d:aS}(h:d.sz<=1048576):(XB d).sz<=1048576:=Nat.le_trans (Ls _ _) (by decide)
def MN:List aL->Nat
 |[]=>0
 |x::xs=>x.sz+MN xs
theorem Nr:∀l,bf (l.map aL.enc)=MN l
 |[]=>rfl
 |x::xs=>by rw[List.map_cons,bf,MN,Nr xs];rfl
theorem E9(x:aL):x.sz=x.fName.length+(x.gq.length+uT x.gq):=by
 rw[<-AP];simp only[aL.sz,aL.aA,bT,D.sz,List.length_map];omega
theorem Dr(x:aS):x.sz=x.fName.length+(x.aG.length+(x.aG.map List.length).sum)+(x.aF.length+MN x.aF):=by
 rw[<-Nr,<-dK];simp only[aS.sz,aS.aA,bT,D.sz,List.length_map];omega
theorem aoa(c:aL):(Cj c).sz<=1+16*c.sz:=by
 have:=OP c.gq;rw[Cj,jJ,jS,List.length_append,List.length_map,E9];simp[dx,jU];omega
theorem aaE:∀l:List aL,dx (l.map Cj)<=l.length+16*MN l
 |[]=>by simp[dx]
 |c::l=>by
  have h1:=aoa c;have h2:=aaE l;rw[List.map_cons,dx,MN,List.length_cons];omega
theorem af2(d:aS):(Eu d).sz<=7+16*d.sz:=by
 have:=aaE d.aF;rw[Eu,jJ,jS,List.length_append,List.length_map,Dr];simp[baseD,dx,jU,jJ,jQ,tu,oK];omega
theorem af3(n:Nat)(a b:List UInt8)(w:List (List UInt8)):lx [bJ a,bJ b,bB (aN w)] (n+1)=[[.s a,.ol (n+1) []],[.s b,.ol (n+1+1) []],[.s [],.ol (n+1+1+1) (lx (aN w) (n+1+1+1+1))]]:=by
 simp only[jW,nQ,ku,kY,kZ,dW,dG,kg]
theorem yV{vars:List (List UInt8)}{ts:List ak}(h:mO vars ts=true):jm ts=true:=yC.2 fun t ht=>by
 have:=List.all_eq_true.1 h t ht;unfold iq at this;rw[Bool.and_eq_true] at this;exact wW this.1
theorem Gz{d:aS}(h:fT d=true):∀c∈d.aF,jm c.gq=true:=fun c hc=>by
 have h1:d.aF.all (qM d.aG)=true:=by
  unfold fT at h;simp only[Bool.and_eq_true] at h;simp_all
 have h2:=List.all_eq_true.1 h1 c hc;unfold qM at h2;rw[Bool.and_eq_true] at h2;exact yV h2.2
theorem Tv{l:List ak}{t:ak}(h:t∈l):t.sz<=uT l:=by
 rw[<-AP];exact dA (List.mem_map_of_mem h)
theorem PX{l:List aL}{t:aL}(h:t∈l):t.sz<=MN l:=by
 rw[<-Nr];exact dA (List.mem_map_of_mem h)
theorem PY(d:aS)(n:Nat)(hv:fT d=true)(hsz:d.sz<=1048576):aH prog 220 [d.v] (.agg [.d (.s []),.d (.ol n (lx (Eu d).ah (n+1)))]):=fun S=>by
 have hdz:=Dr d;have hfo:=Gz hv
 have hlen:d.aF.length<=1048576:=by omega
 obtain⟨L,hL⟩:∃L:Nat->Nat,L=fun i=>n+1+jE (baseD d++(d.aF.map Cj).take i):=⟨_,rfl⟩;obtain⟨T,hT⟩:∃T:Nat->List (List D),T=fun i=>lx (baseD d++(d.aF.map Cj).take i) (n+1):=⟨_,rfl⟩
 have hT0:T 0=[[.s oK,.ol (n+1) []],[.s d.fName,.ol (n+1+1) []],[.s [],.ol (n+1+1+1) (lx (aN d.aG) (n+1+1+1+1))]]:=by
  rw[hT];simp only[List.take_zero,List.append_nil];exact af3 _ _ _ _
 have iI:∀i,(T i).length<=i+3:=fun i=>by
  rw[hT];simp only[iD,List.length_append];have:=List.length_take_le i (d.aF.map Cj);simp[baseD];omega
 have hTs:∀i (hi:i<d.aF.length),T i++[[.s [],.ol (L i) (lx ([bJ d.aF[i].fName]++d.aF[i].gq.map cB) (L i+1))]]=T (i+1):=fun i hi=>by
  have:=AU (base:=baseD d) (l:=d.aF.map Cj) (i:=i) (by rw[List.length_map];exact hi) (n+1);rw[List.getElem_map] at this;rw[hT,hL];exact this
 have hTr:∀i,∀r∈T i,r.length=2:=fun i=>by rw[hT];exact mh
 have hTe:T d.aF.length=lx (Eu d).ah (n+1):=by
  rw[hT];simp only
  rw[List.take_of_length_le (by simp)];rfl
 clear hT hL;refine vF (n) 1 (rs:=[.cell 2 54]) zmx func220 ntmps220 rfl rfl rfl rfl rfl ?_;refine W1 ?_;refine C1 (dB _ (n+1)) ?_;refine C1 (dB _ (n+1+1)) ?_;refine C1 (eX d.aG (by omega) (n+1+1+1)) ?_;refine W3 ?_;refine mX n 3 2 (T 0) (.inl ?_) (hTr 0) ?_
 ·rw[hT0];rfl
 refine rX (L 0) ?_
 refine aT (ι:=Nat) zmx rfl [2,3,15,16,17] (fun i=>[.c (.ptr (0,3) 0),.c (.bN (0,4) (T i)),.c (.d (.sl (d.aF.map aL.enc))),.c (.d (.i .i64 d.aF.length)),.c (.d (.i .i64 i))])
  (fun i=>[.seed (L i),.seed 1,.box [.d (.s d.fName),.d (.sl (d.aG.map encS)),.d (.sl (d.aF.map aL.enc))],.box [.d (.s []),.bE []],.fu n 2 (T i)]::S)
  (fun i=>i<=d.aF.length) (fun i=>d.aF.length-i) 0 rfl rfl (Nat.zero_le _) ?_
 intro i hi;have hl:=iI i;refine W1 ?_;refine S0 (fun hb h=>?_) fun hb h=>?_
 ·have hi':i<d.aF.length:=by omega
  have hm:=List.getElem_mem hi';have hcz:=PX hm;have hce:=E9 d.aF[i];have hs:=hTs i hi';refine W3 ?_;refine C1 (dB _ (L i+1)) ?_;refine C1 (BG d.aF[i].gq 0 (L i+1+1) (hfo _ hm) (by omega) (fun t ht=>by have:=Tv ht;omega)) ?_;have hr:=mh (l:=d.aF[i].gq.map cB) (n:=L i+1+1)
  have hl2:(lx (d.aF[i].gq.map cB) (L i+1+1)).length=d.aF[i].gq.length:=by rw[iD,List.length_map]
  refine W3 ?_;refine C1 (mq _) ?_;refine W3 ?_;simp only[List.cons_append,List.nil_append,jW,xC,kg] at hs;rw[hs];refine uh (L (i+1)) 4 (by decide) (i+1) (by omega) rfl rfl ?_ rfl (by omega);simp[kX,iX,V.refs,C.refs,oh]
 ·have hi':i=d.aF.length:=by omega
  refine bg rfl (kH 0 4 _ _) ?_;refine W1 ?_;rw[hi',hTe]
theorem ZG(d:aS)(hsz:d.sz<=1048576):aH prog 208 [d.v] (XB d).v:=fun S=>by
 have hz:=af2 d;have hdz:=Dr d;obtain⟨T,hT⟩:∃T:Nat->List (List D),T=fun i=>(baseD d++(d.aF.map Cj).take i).map aj.enc:=⟨_,rfl⟩
 have hT0:T 0=[[.s oK,.sl []],[.s d.fName,.sl []],[.s [],.sl ((aN d.aG).map aj.enc)]]:=by
  rw[hT];simp only[List.take_zero,List.append_nil,baseD,List.map_cons,List.map_nil,fO,kI]
 have iI:∀i,(T i).length<=i+3:=fun i=>by
  rw[hT];simp only[List.length_map,List.length_append];have:=List.length_take_le i (d.aF.map Cj);simp[baseD];omega
 have hTs:∀i (hi:i<d.aF.length),T i++[[.s [],.sl (([bJ d.aF[i].fName]++d.aF[i].gq.map cB).map aj.enc)]]=T (i+1):=fun i hi=>by
  have:=jR (base:=baseD d) (l:=d.aF.map Cj) (i:=i) (by rw[List.length_map];exact hi);rw[List.getElem_map] at this;rw[hT];exact this
 have hTr:∀i,∀r∈T i,r.length=2:=fun i=>by rw[hT];exact gV
 have hTe:T d.aF.length=(Eu d).ah.map aj.enc:=by
  rw[hT];simp only
  rw[List.take_of_length_le (by simp)];rfl
 clear hT;refine zcx [.cell 2 54] func208 ntmps208 ?_;refine W1 ?_;refine C1 (bW _) ?_;refine C1 (bW _) ?_;refine C1 (eF d.aG (by omega)) ?_;have hE:=fun bU Ω=>lZ (T 0) (hTr 0) (by have:=iI 0;omega) bU Ω;simp only[hT0] at hE;refine qB [false] rfl (hE _ _) ?_;refine W1 ?_
 refine aT (ι:=Nat) zmx rfl [1,2,3,4] (fun i=>[.c (.ptr (0,0) 0),.c (.ptr (0,1) 0),.c (.ptr (0,4) 0),.c (.d (.i .i64 i))])
  (fun i=>[.box [.d (.s d.fName),.d (.sl (d.aG.map encS)),.d (.sl (d.aF.map aL.enc))],.box [.d (.s []),.bE []],.box [.d (.s []),.bN (0,3) (T 0)],.tok 2 (T i),.box [.d (.s []),.bN (0,3) (T i)]]::S)
  (fun i=>i<=d.aF.length) (fun i=>d.aF.length-i) 0 rfl (by simp only[hT0]<;>(try rfl)) (Nat.zero_le _) ?_
 intro i hi;have hl:=iI i;refine W1 ?_;refine S0 (fun hb h=>?_) fun hb h=>?_
 ·have hi':i<d.aF.length:=by omega
  have hm:=List.getElem_mem hi';have hcz:=PX hm;have hce:=E9 d.aF[i];have hs:=hTs i hi';refine W3 ?_;refine C1 (bW _) ?_;refine W3 ?_;refine C1 (Dq d.aF[i].gq (by omega) (fun t ht=>by have:=Tv ht;omega)) ?_;have hr:=gV (l:=d.aF[i].gq.map cB)
  have hl2:((d.aF[i].gq.map cB).map aj.enc).length=d.aF[i].gq.length:=by rw[List.length_map,List.length_map]
  refine W3 ?_;simp only[List.cons_append,List.nil_append,List.map_cons,fO] at hs;rw[hs];exact bX 5 (by decide) (i+1) (by omega) rfl rfl rfl rfl (by omega)
 ·have hi':i=d.aF.length:=by omega
  subst hi';rw[hTe];refine C1 (Es d (by omega)) ?_;refine C1 (tQ (fT d) (Eu d) (by omega)) ?_;rfl
def dJ(l:List aj)(i:Nat):List UInt8:=(l.getD i bZ).aO
theorem jL{l:List aj}{i:Nat}(h:i<l.length):dJ l i=l[i].aO:=by simp[dJ,List.getD,h]
theorem GA{l:List aj}{i:Nat}(h:l.length<=i):dJ l i=[]:=by simp[dJ,List.getD,h];rfl
def fq(l:List aj):List (List UInt8):=if l.all (fun x=>decide (x.aO≠[]))=true then l.map aj.aO else []
theorem qN:∀{vs:List (List UInt8)},(∀v∈vs,v≠[])->fq (aN vs)=vs:=fun {vs} h=>by
 unfold fq aN;rw[if_pos (List.all_eq_true.2 fun x hx=> ?_),List.map_map]
 ·conv=>rhs;rw[<-List.map_id vs]
  rfl
 ·obtain⟨v,hv,rfl⟩:=List.mem_map.1 hx;exact decide_eq_true (h v hv)
theorem XC:∀l:List aj,((l.map aj.aO).map List.length).sum<=dx l
 |[]=>by simp[dx]
 |x::l=>by
  have:=XC l;rw[List.map_cons,List.map_cons,List.sum_cons,dx,jZ];omega
theorem rY(l:List aj):(fq l).length<=l.length/\((fq l).map List.length).sum<=dx l:=by
 unfold fq;split
 ·refine⟨by simp,?_⟩;exact XC l
 ·simp
mutual
def dN(b:Bool):aj->ak
 | .mk a l=>if a=[] then
    if l.length<2 then .mk 0 [] []
    else if dJ l 0=Ia/\(b=true\/l.length=2/\dJ l 1≠[]) then .mk 4 (dJ l 1) []
    else if dJ l 0=iZ/\(b=true\/l.length=3/\dJ l 1≠[]) then .mk 3 (dJ l 1) ((rT b l).drop 2)
    else .mk 2 (dJ l 0) ((rT b l).drop 1)
   else if a.head? =some 39 then .mk 1 a.tail [] else .mk 2 a []
def rT(b:Bool):List aj->List ak
 |[]=>[]
 |x::xs=>dN b x::rT b xs
end
theorem zu(b:Bool):∀l,rT b l=l.map (dN b)
 |[]=>rfl
 |t::ts=>by rw[rT,List.map_cons,zu b ts]
theorem aaF(b:Bool)(x:aj):dN b x=if x.aO=[] then
 if x.ah.length<2 then .mk 0 [] []
 else if dJ x.ah 0=Ia/\(b=true\/x.ah.length=2/\dJ x.ah 1≠[]) then .mk 4 (dJ x.ah 1) []
 else if dJ x.ah 0=iZ/\(b=true\/x.ah.length=3/\dJ x.ah 1≠[]) then .mk 3 (dJ x.ah 1) ((x.ah.map (dN b)).drop 2)
 else .mk 2 (dJ x.ah 0) ((x.ah.map (dN b)).drop 1)
 else if x.aO.head? =some 39 then .mk 1 x.aO.tail [] else .mk 2 x.aO []:=by
 cases x;rw[dN,zu];rfl
theorem PZ:∀a b,uT (a++b)=uT a+uT b
 |[],b=>by simp[uT]
 |x::a,b=>by rw[List.cons_append,uT,uT,PZ a b];omega
theorem XD(l:List ak)(i:Nat):uT (l.drop i)<=uT l:=by
 have:=PZ (l.take i) (l.drop i);rw[List.take_append_drop] at this;omega
theorem XE(l:List aj)(i:Nat):dx (l.drop i)<=dx l:=by
 have:=jS (l.take i) (l.drop i);rw[List.take_append_drop] at this;omega
theorem af4(l:List aj)(i:Nat):(dJ l i).length<=dx l:=by
 by_cases h:i<l.length
 ·rw[jL h];have h1:=iT (List.getElem_mem h);rw[jZ] at h1;omega
 ·rw[GA (by omega)];simp
mutual
theorem zw(b:Bool):∀x:aj,(dN b x).sz<=x.sz
 | .mk a l=>by
   have h1:=IE b l;have h2:=XD (rT b l) 2;have h3:=XD (rT b l) 1;have h4:=af4 l 0;have h5:=af4 l 1
   have h6:(rT b l).length=l.length:=by rw[zu,List.length_map]
   rw[jZ,mH];simp only[aj.aO,aj.ah];rw[dN];split
   ·split
    ·rw[wX];simp[ak.fName,ak.fArgs,uT]
    ·split
     ·rw[wX];simp[ak.fName,ak.fArgs,uT];omega
     ·have g0:=Fb b l 0;have g1:=Fb b l 1;simp only[Nat.zero_add,Nat.reduceAdd] at g0 g1;split
      ·rw[wX];simp only[ak.fName,ak.fArgs,List.length_drop,h6];omega
      ·rw[wX];simp only[ak.fName,ak.fArgs,List.length_drop,h6];omega
   ·split
    ·rw[wX];simp[ak.fName,ak.fArgs,uT];omega
    ·rw[wX];simp[ak.fName,ak.fArgs,uT]
theorem IE(b:Bool):∀l:List aj,uT (rT b l)<=dx l
 |[]=>by simp[rT,uT]
 |x::xs=>by
  have h1:=zw b x;have h2:=IE b xs;rw[rT,uT,dx];omega
theorem Fb(b:Bool):∀(l:List aj)(i:Nat),uT ((rT b l).drop (i+1))+(dJ l i).length<=dx l
 |[],i=>by simp[rT,uT,GA]
 |x::xs,0=>by
  have h2:=IE b xs;rw[rT,List.drop_succ_cons,List.drop_zero,dx,show dJ (x::xs) 0=x.aO from rfl,jZ];omega
 |x::xs,i+1=>by
  have h2:=Fb b xs i;rw[rT,List.drop_succ_cons,dx,show dJ (x::xs) (i+1)=dJ xs i from rfl];omega
end
theorem GD{s:List UInt8}(h:validName s=true):s≠[]:=fun e=>by rw[e] at h;have:=gH h;simp at this
theorem af5{s:List UInt8}(h:validName s=true):s.head? ≠some 39:=fun e=>by
 have h1:=gH h;have h2:=h1.2.2 0 (by omega)
 cases s with
 |nil=>cases e
 |cons c s=>
  simp only[List.head?_cons,Option.some.injEq] at e;subst e;simp[lowerB,tq] at h2
theorem ajy{s:List UInt8}(h:validName s=true):s≠Ia/\s≠iZ:=by
 have h1:=(gH h).2.1;refine⟨fun e=>h1 (by rw[e];simp[reserved,Ia]),fun e=>h1 (by rw[e];simp[reserved,iZ])⟩
mutual
theorem xR(b:Bool):∀t:ak,formed t=true->dN b (cB t)=t
 | .mk k n zs=>fun hf=>by
   rw[formed,Bool.and_eq_true] at hf;have hfi:=gH hf.1;have hzs:=Ns b zs hf.2;rw[cB];by_cases h1:k=1
   ·have hz:zs=[]:=by
     have:zs.length=0:=by omega
     exact List.eq_nil_of_length_eq_zero this
    rw[if_pos h1,bJ,dN,if_neg (by simp),if_pos (by simp),hz,h1];rfl
   rw[if_neg h1];by_cases h4:k=4
   ·have hz:zs=[]:=by
     have:zs.length=0:=by omega
     exact List.eq_nil_of_length_eq_zero this
    have hn:validName n=true:=by
     rcases hfi with h|h|h
     ·exact h.2.1
     ·exact h.2.1
     ·omega
    rw[if_pos h4,bB,dN,if_pos rfl,if_neg (by simp),if_pos ⟨rfl,.inr ⟨rfl,GD hn⟩⟩,hz,h4];rfl
   rw[if_neg h4];by_cases h2:k=2/\zs.length=0
   ·have hz:zs=[]:=List.eq_nil_of_length_eq_zero h2.2
    have hn:n≠[]/\n.head? ≠some 39:=by
     rcases hfi with h|h|h
     ·omega
     ·omega
     ·rcases h.2 with g|g
      ·exact⟨GD g.1,af5 g.1⟩
      ·rcases gH g.1 with e|e<;>rw[e]<;>simp
    rw[if_pos h2,bJ,dN,if_neg hn.1,if_neg hn.2,hz,h2.1]
   rw[if_neg h2];by_cases h3:k=3
   ·have hz:zs.length=1/\validName n=true:=by
     rcases hfi with h|h|h
     ·omega
     ·exact⟨h.2.2,h.2.1⟩
     ·omega
    rw[if_pos h3,bB,dN,if_pos rfl,if_neg (by simp),if_neg (fun h=>by have:=h.1;simp[dJ,bJ,aj.aO,Ia,iZ] at this),if_pos ⟨rfl,.inr ⟨by rw[wV];simp[hz.1],GD hz.2⟩⟩];show ak.mk 3 n (rT b (Ee zs))=_;rw[hzs,h3]
   ·have hn:validName n=true/\zs≠[]:=by
     rcases hfi with h|h|h
     ·omega
     ·omega
     ·rcases h.2 with g|g
      ·exact⟨g.1,fun e=>h2 ⟨h.1,by rw[e];rfl⟩⟩
      ·exact(h2 ⟨h.1,g.2⟩).elim
    have hk:k=2:=by
     rcases hfi with h|h|h
     ·omega
     ·omega
     ·exact h.1
    have hd:=ajy hn.1;rw[if_neg h3,bB,dN,if_pos rfl,if_neg (by rw[wV];cases zs with|nil=>exact(hn.2 rfl).elim|cons z zs=>simp),if_neg (fun h=>hd.1 h.1),if_neg (fun h=>hd.2 h.1)];show ak.mk 2 n (rT b (Ee zs))=_;rw[hzs,hk]
theorem Ns(b:Bool):∀ts:List ak,jm ts=true->rT b (Ee ts)=ts
 |[],_=>rfl
 |t::ts,h=>by
  rw[jm,Bool.and_eq_true] at h;rw[Ee,rT,xR b t h.1,Ns b ts h.2]
end
theorem FP(b:Bool){ts:List ak}(h:jm ts=true):(ts.map cB).map (dN b)=ts:=by
 have:=Ns b ts h;rw[zu,wV] at this;exact this
def xD(b:Bool)(y:aj):aL:=⟨dJ y.ah 0,(y.ah.drop 1).map (dN b)⟩
def kM(b:Bool)(x:aj):aS:=⟨dJ x.ah 1,fq (x.ah.getD 2 bZ).ah,(x.ah.drop 3).map (xD b)⟩
theorem AV{vs:List (List UInt8)}(h:iU vs=true):∀v∈vs,v≠[]:=fun v hv=>by
 unfold iU at h;rw[Bool.and_eq_true] at h;exact GD (List.all_eq_true.1 h.2 v hv)
theorem ama(b:Bool){c:aL}(h:jm c.gq=true):xD b (Cj c)=c:=by
 show aL.mk c.fName ((c.gq.map cB).map (dN b))=c;rw[FP b h]
theorem RA{d:aS}(h:fT d=true):∀v∈d.aG,v≠[]:=by
 unfold fT at h;simp only[Bool.and_eq_true] at h;exact AV (by simp_all)
theorem RB(b:Bool){d:aS}(h:fT d=true):kM b (Eu d)=d:=by
 show aS.mk d.fName (fq (aN d.aG)) ((d.aF.map Cj).map (xD b))=d;rw[qN (RA h),List.map_map,show d.aF.map (xD b∘Cj)=d.aF.map id from List.map_congr_left (fun c hc=>ama b (Gz h c hc)),List.map_id]
theorem ajz(d:aS):3<=(Eu d).ah.length/\dJ (Eu d).ah 0=oK:=⟨by rw[Eu,dG];simp[baseD],rfl⟩
noncomputable def okD(x:aj):Bool:=dec (fQ x=true/\3<=x.ah.length/\dJ x.ah 0=oK/\fT (kM true x)=true/\Eu (kM true x)=x)
noncomputable def rZ(x:aj):aS:=if okD x=true then kM true x else⟨[],[],[]⟩
theorem IG:bZ.sz=0:=by rw[jZ];simp[bZ,aj.aO,aj.ah,bf]
theorem XF{b:Bool}{s x:aj}(h:wY b s=x)(hx:x.ah≠[]):b=true/\s=x/\fQ x=true:=by
 cases b with
 |false=>rw[<-h] at hx;exact(hx rfl).elim
 |true=>
  rw[wY] at h;unfold Eh at h;split at h
  ·rename_i hv;exact⟨rfl,h,by rw[<-h];exact hv⟩
  ·rw[<-h] at hx;exact(hx rfl).elim
theorem ajA{x:aj}(hx:x.ah≠[]):okD x=(fQ x&&dec (XB (kM false x)=x)):=by
 cases hv:fQ x with
 |false=>exact aB fun h=>by rw[hv] at h;cases h.1
 |true=>
  rw[Bool.true_and];refine iB ⟨fun⟨_,h1,h2,h3,h4⟩=> ?_,fun h=> ?_⟩
  ·have e:kM false x=kM true x:=by conv=>lhs;rw[<-h4]
                                   exact RB false h3
   rw[e,XB,h3,h4,wY,Eh,if_pos hv]
  ·obtain⟨h1,h2,_⟩:=XF h hx
   have e:kM true x=kM false x:=by conv=>lhs;rw[<-h2]
                                   exact RB true h1
   have:=ajz (kM false x);rw[h2] at this;rw[e];exact⟨hv,this.1,this.2,h1,h2⟩
theorem ajB{x:aj}(h:okD x=true):kM false x=kM true x:=by
 have h1:=gH h
 conv=>lhs;rw[<-h1.2.2.2.2]
 exact RB false h1.2.2.2.1
theorem amb(b:Bool)(y:aj):(xD b y).sz<=y.sz:=by
 have h:=Fb b y.ah 0;rw[zu] at h;rw[E9,jZ,mH];simp only[xD,List.length_map,List.length_drop,<-List.map_drop,Nat.zero_add] at h ⊢;omega
theorem XG(b:Bool):∀l:List aj,MN (l.map (xD b))<=dx l
 |[]=>by simp[MN]
 |y::l=>by
  have h1:=amb b y;have h2:=XG b l;rw[List.map_cons,MN,dx];omega
theorem adf(l:List aj):(dJ l 1).length+((l.getD 2 bZ).ah.length+dx (l.getD 2 bZ).ah)+dx (l.drop 3)<=dx l:=by
 match l with
 |[]=>simp[dJ,dx,bZ,aj.aO,aj.ah]
 |[x]=>simp[dJ,dx,bZ,aj.aO,aj.ah]
 |[x,y]=>
  simp only[dx,jZ y];simp[dJ,dx,bZ,aj.aO,aj.ah];omega
 |x::y::z::l=>
  simp only[dx,jZ y,jZ z,mH];simp[dJ];omega
theorem RD(b:Bool)(x:aj):(kM b x).sz<=x.sz:=by
 have h1:=XG b (x.ah.drop 3);have h2:=rY (x.ah.getD 2 bZ).ah;have h3:=adf x.ah;rw[Dr,jZ,mH];simp only[kM,List.length_map,List.length_drop];omega
def BH:List UInt8:=[116,114,117,101]
def Ad:List UInt8:=[102,97,108,115,101]
def qy:List UInt8:=[99,97,108,108]
def jy:List UInt8:=[109,101,116,104,111,100]
def uj:List UInt8:=[110,101,119]
def lS:List UInt8:=[99,97,115,101]
def um:List UInt8:=[108,101,116]
def yD:List UInt8:=[105,102]
def qz:List UInt8:=[112,97,99,107]
def uP:List UInt8:=[116,104,101]
def jw(k:Int)(tr nm:List UInt8)(ty:ak):List aj:=
 if k=4 then aN [qy,nm] else if k=5 then aN [jy,tr,nm] else if k=6 then aN [uj,nm] else if k=8 then aN [um,nm] else
 if k=9 then aN [yD] else if k=10 then aN [nm] else if k=11 then aN [qz,tr] else if k=12 then [bJ uP,cB ty] else aN [lS]
mutual
def fC:au->aj
 | .mk k tr nm n ty zs ms=>if k=1 then bJ (Lib.itoa n) else if k=2 then bJ (if n=1 then BH else Ad) else if k=3 then bJ nm else
   bB (jw k tr nm ty++CO zs++(if k=4\/k=5\/k=6\/k=8\/k=9\/k=10\/k=11\/k=12 then [] else II ms))
def CO:List au->List aj
 |[]=>[]
 |t::ts=>fC t::CO ts
def Aq:aR->aj
 | .mk c vs b=>bB ([bJ c]++aN vs++[fC b])
def II:List aR->List aj
 |[]=>[]
 |t::ts=>Aq t::II ts
end
theorem Ev:∀l,CO l=l.map fC
 |[]=>rfl
 |t::ts=>by rw[CO,List.map_cons,Ev ts]
theorem IJ:∀l,II l=l.map Aq
 |[]=>rfl
 |t::ts=>by rw[II,List.map_cons,IJ ts]
theorem KG(x:au):fC x=if x.aK=1 then bJ (Lib.itoa x.fN) else if x.aK=2 then bJ (if x.fN=1 then BH else Ad) else if x.aK=3 then bJ x.fName else
 bB (jw x.aK x.bC x.fName x.fType++x.fArgs.map fC++(if x.aK=4\/x.aK=5\/x.aK=6\/x.aK=8\/x.aK=9\/x.aK=10\/x.aK=11\/x.aK=12 then [] else x.aQ.map Aq)):=by
 cases x;rw[fC,Ev,IJ];rfl
theorem af6(x:aR):Aq x=bB ([bJ x.dM]++aN x.aG++[fC x.fBody]):=by cases x;rw[Aq];rfl
def vR:List au->Nat
 |[]=>0
 |x::xs=>x.sz+vR xs
theorem Nt:∀l,bf (l.map au.enc)=vR l
 |[]=>rfl
 |x::xs=>by rw[List.map_cons,bf,vR,Nt xs];rfl
def CX:List aR->Nat
 |[]=>0
 |x::xs=>x.sz+CX xs
theorem Nu:∀l,bf (l.map aR.enc)=CX l
 |[]=>rfl
 |x::xs=>by rw[List.map_cons,bf,CX,Nu xs];rfl
theorem yX(x:au):x.sz=x.bC.length+x.fName.length+x.fType.sz+(x.fArgs.length+vR x.fArgs)+(x.aQ.length+CX x.aQ):=by
 rw[<-Nt,<-Nu];simp only[au.sz,au.aA,bT,bK,D.sz,List.length_map,ak.d9];omega
theorem Ck(x:aR):x.sz=x.dM.length+(x.aG.length+(x.aG.map List.length).sum)+x.fBody.sz:=by
 rw[<-dK];simp only[aR.sz,aR.aA,bT,bK,D.sz,List.length_map,au.d9];omega
theorem GH:∀(k n:Nat),n<10^ (k+1)->(Lib.decDigits n).length<=k+1
 |0,n,h=>by rw[Lib.decDigits,dif_pos (by simpa using h)];simp
 |k+1,n,h=>by
  rw[Lib.decDigits];split
  ·simp
  ·rw[List.length_append];have:=GH k (n/10) (by rw[Nat.pow_succ] at h;omega);simp;omega
theorem ajC{n:Int}(h: -999999<=n/\n<=999999):(Lib.itoa n).length<=7:=by
 unfold Lib.itoa;split
 ·have:=GH 5 n.natAbs (by omega);simp;omega
 ·have:=GH 5 n.toNat (by omega);omega
theorem af7(k:Int)(tr nm:List UInt8)(ty:ak):(jw k tr nm ty).length<=3/\dx (jw k tr nm ty)<=18+tr.length+nm.length+16*ty.sz:=by
 have h:=Ca ty;unfold jw
 repeat' (first|(split;·refine⟨by simp[aN],?_⟩;simp[dx,aN,jU,qy,jy,uj,um,yD,qz,uP,lS];omega))
 refine⟨by simp[aN],?_⟩;simp[dx,aN,jU,lS];omega
mutual
theorem KH:∀x:au,jd x=true->(fC x).sz<=24+32*x.sz
 | .mk k tr nm n ty zs ms=>fun hok=>by
   rw[jd,Bool.and_eq_true,Bool.and_eq_true] at hok;have hf:=gH hok.1;have h1:=aaG zs hok.2.1;have h2:=aaH ms hok.2.2;have h3:=af7 k tr nm ty;rw[yX];simp only[au.fName,au.fArgs,au.bC,au.fType,au.aQ];rw[fC];split
   ·rename_i hk;have h4:=hf.2.2.2.1;simp only[au.aK,au.fN,hk,if_true] at h4;have:=ajC h4;rw[jU];omega
   ·split
    ·rw[jU];split<;>simp[BH,Ad]<;>omega
    ·split
     ·rw[jU];omega
     ·rw[jJ,jS,jS,List.length_append,List.length_append,Ev,List.length_map,<-Ev];split
      ·simp[dx];omega
      ·rw[IJ,List.length_map,<-IJ];omega
theorem aaG:∀xs:List au,mZ xs=true->dx (CO xs)<=24*xs.length+32*vR xs
 |[],_=>by simp[CO,dx]
 |x::xs,h=>by
  rw[mZ,Bool.and_eq_true] at h;have h1:=KH x h.1;have h2:=aaG xs h.2;rw[CO,dx,vR,List.length_cons];omega
theorem aob:∀x:aR,xP x=true->(Aq x).sz<=26+32*x.sz
 | .mk c vs b=>fun hok=>by
   rw[xP,Bool.and_eq_true,Bool.and_eq_true] at hok;have h1:=KH b hok.2.2;rw[Ck];simp only[aR.dM,aR.aG,aR.fBody];rw[Aq,jJ,jS,jS,List.length_append,List.length_append,jQ,tu];simp[dx,jU];omega
theorem aaH:∀xs:List aR,qE xs=true->dx (II xs)<=26*xs.length+32*CX xs
 |[],_=>by simp[II,dx]
 |x::xs,h=>by
  rw[qE,Bool.and_eq_true] at h;have h1:=aob x h.1;have h2:=aaH xs h.2;rw[II,dx,CX,List.length_cons];omega
end
theorem MO(d:Nat)(h:d<10):Lib.digitVal (UInt8.ofNat (48+d))=some d:=by
 have:(UInt8.ofNat (48+d)).toNat=48+d:=by rw[UInt8.toNat_ofNat'];omega
 unfold Lib.digitVal;rw[this,if_pos (by omega)];congr 1;omega
theorem Ew:∀(l:List UInt8)(acc:Nat)(b:UInt8),Lib.decFrom acc (l++[b])=(Lib.decFrom acc l).bind fun m=>(Lib.digitVal b).map fun d=>m*10+d
 |[],acc,b=>by
  rw[List.nil_append,Lib.decFrom,Lib.decFrom];cases Lib.digitVal b<;>rfl
 |a::l,acc,b=>by
  rw[List.cons_append,Lib.decFrom,Lib.decFrom]
  cases Lib.digitVal a with
  |none=>rfl
  |some e=>exact Ew l _ b
theorem AX(n:Nat):Lib.decFrom 0 (Lib.decDigits n)=some n:=by
 induction n using Nat.strongRecOn with
 |_ n ih=>
  rw[Lib.decDigits];split
  ·rename_i h;rw[Lib.decFrom,MO n h];simp[Lib.decFrom]
  ·rename_i h;rw[Ew,ih (n/10) (by omega),MO _ (Nat.mod_lt _ (by decide))];simp only[Option.bind_some,Option.map_some,Option.some.injEq];omega
theorem AY(n:Nat):∃b r,Lib.decDigits n=b::r/\48<=b.toNat/\b.toNat<=57:=by
 induction n using Nat.strongRecOn with
 |_ n ih=>
  rw[Lib.decDigits];split
  ·rename_i h;exact⟨_,_,rfl,by rw[UInt8.toNat_ofNat'];omega,by rw[UInt8.toNat_ofNat'];omega⟩
  ·rename_i h;obtain⟨b,r,e,h1,h2⟩:=ih (n/10) (by omega);rw[e];exact⟨b,r++_,rfl,h1,h2⟩
theorem Jj(n:Nat):Lib.decNat (Lib.decDigits n)=some n:=by
 obtain⟨b,r,e,_⟩:=AY n;unfold Lib.decNat;rw[show(Lib.decDigits n).isEmpty=false from by rw[e];rfl];exact AX n
theorem KI(b:UInt8)(r:List UInt8):Lib.atoi (b::r)=if b==45 then(Lib.decNat r).map fun(m:Nat)=> -(m:Int) else if b==43 then(Lib.decNat r).map fun(m:Nat)=>(m:Int) else(Lib.decNat (b::r)).map fun(m:Nat)=>(m:Int):=rfl
theorem Tw(n:Int):Lib.atoi (Lib.itoa n)=some n:=by
 unfold Lib.itoa;split
 ·rename_i h;show Lib.atoi (45::Lib.decDigits n.natAbs)=_;rw[KI,if_pos (by decide),Jj];simp only[Option.map_some,Option.some.injEq];omega
 ·rename_i h;obtain⟨b,r,e,h1,h2⟩:=AY n.toNat;have hd:=Jj n.toNat;rw[e] at hd ⊢;rw[KI,if_neg (by simp only[beq_iff_eq];intro h;rw[h] at h1;revert h1;decide),if_neg (by simp only[beq_iff_eq];intro h;rw[h] at h1;revert h1;decide),hd];simp only[Option.map_some,Option.some.injEq];omega
theorem amc(n:Int):Lib.itoa n≠[]:=fun e=>by
 have:=Tw n;rw[e] at this;cases this
def iA(s:List UInt8):Option Int:=match Lib.atoi s with
 |some n=>if(-999999999999<=n/\n<=999999999999)/\Lib.itoa n=s then some n else none
 |none=>none
theorem P5{n:Int}(h: -999999999999<=n/\n<=999999999999):iA (Lib.itoa n)=some n:=by
 unfold iA;rw[Tw];exact if_pos ⟨h,rfl⟩
theorem P6{s:List UInt8}{n:Int}(h:iA s=some n):(-999999999999<=n/\n<=999999999999)/\Lib.itoa n=s:=by
 unfold iA at h;split at h
 ·split at h
  ·cases h;assumption
  ·cases h
 ·cases h
theorem Ey{b:UInt8}{r:List UInt8}(h:lowerB b):iA (b::r)=none:=by
 have h1:(b==45)=false:=by simp only[beq_eq_false_iff_ne];intro e;rw[e] at h;revert h;simp[lowerB]
 have h2:(b==43)=false:=by simp only[beq_eq_false_iff_ne];intro e;rw[e] at h;revert h;simp[lowerB]
 have h3:Lib.digitVal b=none:=if_neg (fun x=>by unfold lowerB at h;omega);unfold iA;rw[KI,h1,h2];simp[Lib.decNat,Lib.decFrom,h3]
theorem adg{s:List UInt8}(h:validName s=true):iA s=none:=by
 have h1:=gH h;have h2:=h1.2.2 0 (by omega)
 cases s with
 |nil=>simp at h1
 |cons b r=>
  rcases h2 with h2|h2
  ·exact Ey h2
  ·exact(h2.1 rfl).elim
def jh:ak:=.mk 0 [] []
def mF:au:=.mk 0 [] [] 0 jh [] []
mutual
def eY(b:Bool):aj->au
 | .mk a l=>if a=[] then
    if b=true/\(l.length<2\/dJ l 0=jy/\l.length<3) then mF
    else if dJ l 0=qy then .mk 4 [] (dJ l 1) 0 jh ((gF b l).drop 2) []
    else if dJ l 0=uj then .mk 6 [] (dJ l 1) 0 jh ((gF b l).drop 2) []
    else if dJ l 0=um then .mk 8 [] (dJ l 1) 0 jh ((gF b l).drop 2) []
    else if dJ l 0=qz then .mk 11 (dJ l 1) [] 0 jh ((gF b l).drop 2) []
    else if dJ l 0=jy then .mk 5 (dJ l 1) (dJ l 2) 0 jh ((gF b l).drop 3) []
    else if dJ l 0=yD then .mk 9 [] [] 0 jh ((gF b l).drop 1) []
    else if dJ l 0=uP then .mk 12 [] [] 0 (dN b (l.getD 1 bZ)) ((gF b l).drop 2) []
    else if dJ l 0=lS then .mk 7 [] [] 0 jh (((gF b l).drop 1).take 1) ((oL b l).drop 2)
    else .mk 10 [] (dJ l 0) 0 jh ((gF b l).drop 1) []
   else match iA a with
    |some n=>.mk 1 [] [] n jh [] []
    |none=>if a=BH then .mk 2 [] [] 1 jh [] [] else if a=Ad then .mk 2 [] [] 0 jh [] [] else .mk 3 [] a 0 jh [] []
def gF(b:Bool):List aj->List au
 |[]=>[]
 |x::xs=>eY b x::gF b xs
def sK(b:Bool):aj->aR
 | .mk a l=>if l.length<2 then .mk [] [] mF else .mk (dJ l 0) (fq ((l.drop 1).dropLast)) ((gF b l).getLastD mF)
def oL(b:Bool):List aj->List aR
 |[]=>[]
 |x::xs=>sK b x::oL b xs
end
theorem Cm(b:Bool):∀l,gF b l=l.map (eY b)
 |[]=>rfl
 |t::ts=>by rw[gF,List.map_cons,Cm b ts]
theorem Fe(b:Bool):∀l,oL b l=l.map (sK b)
 |[]=>rfl
 |t::ts=>by rw[oL,List.map_cons,Fe b ts]
theorem nC(b:Bool)(l m:List aj):gF b (l++m)=gF b l++gF b m:=by simp only[Cm,List.map_append]
theorem sM(b:Bool)(l m:List aj):oL b (l++m)=oL b l++oL b m:=by simp only[Fe,List.map_append]
theorem sS{t:ak}(h:yH t):t=jh:=ak.ext h.1 h.2.1 (List.eq_nil_of_length_eq_zero h.2.2)
theorem ZH{s:List UInt8}(h:s∈ops):s≠[]/\∀w∈[qy,uj,um,qz,jy,yD,uP,lS],s≠w:=by
 have:=afs h;refine⟨fun e=>by rw[e] at this;simp at this,fun w hw e=> ?_⟩;rw[e] at this;simp only[List.mem_cons,List.not_mem_nil,or_false] at hw;rcases hw with g|g|g|g|g|g|g|g<;>rw[g] at this<;>revert this<;>decide
mutual
theorem GI(b:Bool):∀e:au,jd e=true->eY b (fC e)=e
 | .mk k tr nm n ty zs ms=>fun hok=>by
   rw[jd,Bool.and_eq_true,Bool.and_eq_true] at hok;have hf:=gH hok.1;have h1:=XH b zs hok.2.1;have h2:=XI b ms hok.2.2;obtain⟨p0,p1,p2,p3,p4,p5,p6⟩:=hf;simp only[au.aK,au.bC,au.fName,au.fN,au.fType,au.fArgs,au.aQ] at p0 p1 p2 p3 p4 p5 p6;have nz:∀{l:List au},l.length=0->l=[]:=fun h=>List.eq_nil_of_length_eq_zero h
   have KJ:k≠7->ms=[]:=fun h=>List.eq_nil_of_length_eq_zero (by
    have:¬0<ms.length:=fun x=>h (p6.2 x)
    omega)
   have hk:k=1\/k=2\/k=3\/k=4\/k=5\/k=6\/k=7\/k=8\/k=9\/k=10\/k=11\/k=12:=by omega
   rcases hk with rfl|rfl|rfl|rfl|rfl|rfl|rfl|rfl|rfl|rfl|rfl|rfl
   all_goals simp only[if_true,if_false,true_or,or_true,false_or,or_false,or_self,(by decide:(1:Int)=5<->False),Int.reduceEq] at p1 p2 p3 p4 p5
   ·have e1:=sS p4;have e2:=nz p5;have e3:=KJ (by decide);subst e1 e2 e3 p1 p2;rw[fC,if_pos rfl,bJ,eY,if_neg (amc n),P5 (by omega)]
   ·have e1:=sS p4;have e2:=nz p5;have e3:=KJ (by decide);subst e1 e2 e3 p1 p2;rw[fC,if_neg (by decide),if_pos rfl,bJ,eY];rcases p3 with rfl|rfl
    ·rw[if_neg (by decide:¬(0:Int)=1),if_neg (by decide),show iA Ad=none from Ey (by simp[lowerB]),if_neg (by decide),if_pos rfl]
    ·rw[if_pos rfl,if_neg (by decide),show iA BH=none from Ey (by simp[lowerB]),if_pos rfl]
   ·have e1:=sS p4;have e2:=nz p5;have e3:=KJ (by decide);subst e1 e2 e3 p1 p3;have hr:=(gH p2).2.1;rw[fC,if_neg (by decide),if_neg (by decide),if_pos rfl,bJ,eY,if_neg (GD p2),adg p2,if_neg (fun e=>hr (by rw[e];simp[reserved,BH])),if_neg (fun e=>hr (by rw[e];simp[reserved,Ad]))]
   all_goals have hz:(CO zs).length=zs.length:=by rw[Ev,List.length_map]
   ·have e1:=sS p4;have e3:=KJ (by decide);subst e1 e3 p1 p3;simp[fC,jw,bB,aN,eY,gF,nC,oL,sM,dJ,bJ,aj.aO,qy,jy,uj,lS,um,yD,qz,uP,h1,hz,h2]
    all_goals (intros;omega)
   ·have e1:=sS p4;have e3:=KJ (by decide);subst e1 e3 p3;simp[fC,jw,bB,aN,eY,gF,nC,oL,sM,dJ,bJ,aj.aO,qy,jy,uj,lS,um,yD,qz,uP,h1,hz,h2]
    all_goals (intros;omega)
   ·have e1:=sS p4;have e3:=KJ (by decide);subst e1 e3 p1 p3;simp[fC,jw,bB,aN,eY,gF,nC,oL,sM,dJ,bJ,aj.aO,qy,jy,uj,lS,um,yD,qz,uP,h1,hz,h2]
    all_goals (intros;omega)
   ·have e1:=sS p4;subst e1 p1 p2 p3;have hm:0<ms.length:=p6.1 rfl
    obtain⟨z,rfl⟩:∃z,zs=[z]:=by
     cases zs with
     |nil=>simp at p5
     |cons z t=>cases t with
      |nil=>exact⟨z,rfl⟩
      |cons _ _=>simp at p5
    simp only[CO,gF,List.cons.injEq,and_true] at h1;simp[fC,jw,bB,aN,eY,gF,nC,oL,sM,CO,dJ,bJ,aj.aO,qy,jy,uj,lS,um,yD,qz,uP,h1,h2]
    all_goals (intros;omega)
   ·have e1:=sS p4;have e3:=KJ (by decide);subst e1 e3 p1 p3;simp[fC,jw,bB,aN,eY,gF,nC,oL,sM,dJ,bJ,aj.aO,qy,jy,uj,lS,um,yD,qz,uP,h1,hz,h2]
    all_goals (intros;omega)
   ·have e1:=sS p4;have e3:=KJ (by decide);subst e1 e3 p1 p2 p3;simp[fC,jw,bB,aN,eY,gF,nC,oL,sM,dJ,bJ,aj.aO,qy,jy,uj,lS,um,yD,qz,uP,h1,hz,h2]
    all_goals (intros;omega)
   ·have e1:=sS p4;have e3:=KJ (by decide);subst e1 e3 p1 p3;have ho:=ZH p2;simp only[List.mem_cons,List.not_mem_nil,or_false,ne_eq,forall_eq_or_imp,forall_eq] at ho;obtain⟨_,o1,o2,o3,o4,o5,o6,o7,o8⟩:=ho;simp[fC,jw,bB,aN,eY,gF,nC,dJ,bJ,aj.aO,h1,hz,o1,o2,o3,o4,o5,o6,o7,o8]
    all_goals (intros;omega)
   ·have e1:=sS p4;have e3:=KJ (by decide);subst e1 e3 p2 p3;simp[fC,jw,bB,aN,eY,gF,nC,oL,sM,dJ,bJ,aj.aO,qy,jy,uj,lS,um,yD,qz,uP,h1,hz,h2]
    all_goals (intros;omega)
   ·have e3:=KJ (by decide);subst e3 p1 p2 p3;have ht:=xR b ty (wW p4);simp[fC,jw,bB,aN,eY,gF,nC,dJ,bJ,aj.aO,qy,jy,uj,lS,um,yD,qz,uP,h1,hz,ht]
    all_goals (intros;omega)
theorem XH(b:Bool):∀es:List au,mZ es=true->gF b (CO es)=es
 |[],_=>rfl
 |t::ts,h=>by
  rw[mZ,Bool.and_eq_true] at h;rw[CO,gF,GI b t h.1,XH b ts h.2]
theorem amd(b:Bool):∀m:aR,xP m=true->sK b (Aq m)=m
 | .mk c vs e=>fun h=>by
   rw[xP,Bool.and_eq_true,Bool.and_eq_true] at h;have he:=GI b e h.2.2;rw[Aq,bB,sK,if_neg (by simp),nC];have e1:dJ ([bJ c]++aN vs++[fC e]) 0=c:=rfl
   have e2:(([bJ c]++aN vs++[fC e]).drop 1).dropLast=aN vs:=by
    rw[List.append_assoc,List.singleton_append,List.drop_succ_cons,List.drop_zero,List.dropLast_concat]
   rw[e1,e2,qN (AV h.2.1)];congr 1;rw[gF,he,List.getLastD_eq_getLast?,List.getLast?_append];simp[gF]
theorem XI(b:Bool):∀ms:List aR,qE ms=true->oL b (II ms)=ms
 |[],_=>rfl
 |t::ts,h=>by
  rw[qE,Bool.and_eq_true] at h;rw[II,oL,amd b t h.1,XI b ts h.2]
end
theorem Cn:jh.sz=0:=by rw[wX];rfl
theorem zx:mF.sz=0:=by rw[yX];simp[mF,au.bC,au.fName,au.fType,au.fArgs,au.aQ,Cn,vR,CX]
theorem adh(l:List aj):((fq ((l.drop 1).dropLast)).length+((fq ((l.drop 1).dropLast)).map List.length).sum)<=(l.drop 1).dropLast.length+dx ((l.drop 1).dropLast):=by
 have:=rY ((l.drop 1).dropLast);omega
theorem ame(x:aj)(m:List aj)(y:aj):dx (x::(m++[y]))=x.sz+(dx m+y.sz):=by rw[dx,jS];simp[dx]
mutual
theorem DF(b:Bool):∀x:aj,(eY b x).sz<=x.sz
 | .mk a l=>by
   have g:=Tx b l
   have hl:(gF b l).length=l.length:=by rw[Cm,List.length_map]
   have hm:(oL b l).length=l.length:=by rw[Fe,List.length_map]
   rw[jZ,mH];simp only[aj.aO,aj.ah];rw[eY];split
   ·have g1:vR ((gF b l).drop 1)+(dJ l 0).length<=dx l:=by
     have:=g 0;simp only[Nat.zero_add,(by decide:¬(1<=0)),if_false] at this;omega
    have g2:vR ((gF b l).drop 2)+((dJ l 0).length+(dJ l 1).length)<=dx l:=by
     have:=g 1;simp only[Nat.reduceAdd,Nat.le_refl,if_true,Nat.sub_self] at this;omega
    have g3:vR ((gF b l).drop 3)+((dJ l 1).length+(dJ l 2).length)<=dx l:=by
     have:=g 2;simp only[Nat.reduceAdd,(by decide:1<=2),if_true,Nat.reduceSub] at this;omega
    split
    ·rw[zx];omega
    ·repeat' split
     all_goals rw[yX];simp only[au.bC,au.fName,au.fType,au.fArgs,au.aQ,Cn,vR,CX,List.length_nil,List.length_drop,List.length_take,hl,hm,List.drop_zero] at g1 g2 g3 ⊢
     all_goals try omega
     ·have h1:=zw b (l.getD 1 bZ)
      have h2:vR ((gF b l).drop 2)+(l.getD 1 bZ).sz<=dx l:=by
       match l with
       |[]=>simp[gF,vR,dx,IG]
       |[x]=>simp[gF,vR,dx,IG]
       |x::y::l=>
        have:=Nv b l;simp only[gF,List.drop_succ_cons,List.drop_zero,dx];show _+y.sz<=_;omega
      omega
     ·match l with
      |[]=>simp[vR,CX,gF,oL]
      |[x]=>simp[vR,CX,gF,oL]
      |x::y::l=>
       have h1:=DF b y;have h2:=XJ b l;simp only[gF,oL,List.drop_succ_cons,List.drop_zero,List.take_succ_cons,List.take_zero,vR,dx,List.length_cons];omega
   ·split
    ·rw[yX];simp[au.bC,au.fName,au.fType,au.fArgs,au.aQ,Cn,vR,CX]
    ·repeat' split
     all_goals rw[yX];simp[au.bC,au.fName,au.fType,au.fArgs,au.aQ,Cn,vR,CX]
theorem Nv(b:Bool):∀l:List aj,vR (gF b l)<=dx l
 |[]=>by simp[gF,vR]
 |x::xs=>by
  have h1:=DF b x;have h2:=Nv b xs;rw[gF,vR,dx];omega
theorem Tx(b:Bool):∀(l:List aj)(i:Nat),vR ((gF b l).drop (i+1))+((if 1<=i then(dJ l (i-1)).length else 0)+(dJ l i).length)<=dx l
 |[],i=>by simp[gF,vR,GA]
 |x::xs,0=>by
  have h2:=Nv b xs;rw[gF,List.drop_succ_cons,List.drop_zero,dx,show dJ (x::xs) 0=x.aO from rfl,jZ];simp;omega
 |x::xs,i+1=>by
  have h2:=Tx b xs i;rw[gF,List.drop_succ_cons,dx,show dJ (x::xs) (i+1)=dJ xs i from rfl]
  cases i with
  |zero=>rw[show dJ (x::xs) (0+1-1)=x.aO from rfl,jZ];simp at h2 ⊢;omega
  |succ i=>rw[show dJ (x::xs) (i+1+1-1)=dJ xs i from rfl];simp at h2 ⊢;omega
theorem amf(b:Bool):∀x:aj,(sK b x).sz<=x.sz
 | .mk a l=>by
   rw[jZ,mH];simp only[aj.aO,aj.ah];rw[sK];split
   ·rw[Ck];simp[aR.dM,aR.aG,aR.fBody,zx]
   ·rename_i h;have hn:=adh l;have hb:=P7 b l;rw[Ck];simp only[aR.dM,aR.aG,aR.fBody]
    obtain⟨x,m,y,rfl⟩:∃x m y,l=x::(m++[y]):=by
     cases l with
     |nil=>simp at h
     |cons x l=>
      have hl:l≠[]:=fun e=>by rw[e] at h;simp at h
      exact⟨x,l.dropLast,l.getLast hl,by rw[List.dropLast_concat_getLast]⟩
    rw[ame] at *
    rw[show dJ (x::(m++[y])) 0=x.aO from rfl,jZ x];simp only[List.drop_succ_cons,List.drop_zero,List.dropLast_concat,List.length_cons,List.length_append,List.length_nil] at hn ⊢
    have hy:((x::(m++[y])).getLastD bZ)=y:=by rw[<-List.cons_append,List.getLastD_eq_getLast?,List.getLast?_append];simp
    rw[hy] at hb;omega
theorem XJ(b:Bool):∀l:List aj,CX (oL b l)<=dx l
 |[]=>by simp[oL,CX]
 |x::xs=>by
  have h1:=amf b x;have h2:=XJ b xs;rw[oL,CX,dx];omega
theorem P7(b:Bool):∀l:List aj,((gF b l).getLastD mF).sz<=(l.getLastD bZ).sz
 |[]=>by simp[gF,zx]
 |[x]=>by simpa [gF] using DF b x
 |x::y::l=>by
  have:=P7 b (y::l);simpa [gF] using this
end
end Go.Ab
namespace Go.Proofs
open Go.Shelf
def Tryz.laysM171_ren:Go.Shelf.Ren:=⟨fun|171=>201|243=>264|246=>305|283=>324|284=>325|285=>326|286=>327|129=>343|317=>342|318=>344|319=>345|320=>346|337=>353|338=>354|n=>n,fun|3=>3|9=>9|2=>2|4=>4|171=>281|0=>0|53=>282|37=>127|5=>5|173=>285|212=>303|51=>293|20=>20|213=>304|46=>262|232=>316|233=>317|n=>n,fun|17=>5|18=>6|19=>7|n=>n⟩
theorem Tryz.laysM171:Go.Proofs.LaysM.n171 prog Tryz.laysM171_ren:={
 mixed:=by kernel_rfl
 f129:=func343.trans (congrArg some (by kernel_rfl))
 f171:=func201.trans (congrArg some (by kernel_rfl))
 f243:=func264.trans (congrArg some (by kernel_rfl))
 f246:=func305.trans (congrArg some (by kernel_rfl))
 f283:=func324.trans (congrArg some (by kernel_rfl))
 f284:=func325.trans (congrArg some (by kernel_rfl))
 f285:=func326.trans (congrArg some (by kernel_rfl))
 f286:=func327.trans (congrArg some (by kernel_rfl))
 f317:=func342.trans (congrArg some (by kernel_rfl))
 f318:=func344.trans (congrArg some (by kernel_rfl))
 f319:=func345.trans (congrArg some (by kernel_rfl))
 f320:=func346.trans (congrArg some (by kernel_rfl))
 f337:=func353.trans (congrArg some (by kernel_rfl))
 f338:=func354.trans (congrArg some (by kernel_rfl))
 t0:=underlying0
 a0:=Tryz.isAgg0
 z0:=Tryz.sizeOf0
 v0:=Tryz.zeroValue0
 t2:=underlying2
 a2:=Tryz.isAgg2
 z2:=Tryz.sizeOf2
 v2:=Tryz.zeroValue2
 t3:=underlying3
 a3:=Tryz.isAgg3
 z3:=Tryz.sizeOf3
 v3:=Tryz.zeroValue3
 t4:=underlying4
 a4:=Tryz.isAgg4
 z4:=Tryz.sizeOf4
 v4:=Tryz.zeroValue4
 t5:=underlying5
 a5:=Tryz.isAgg5
 z5:=Tryz.sizeOf5
 v5:=Tryz.zeroValue5
 t9:=underlying9
 a9:=Tryz.isAgg9
 z9:=Tryz.sizeOf9
 v9:=Tryz.zeroValue9
 t20:=underlying20
 a20:=Tryz.isAgg20
 z20:=Tryz.sizeOf20
 v20:=Tryz.zeroValue20
 t37:=underlying127
 a37:=Tryz.isAgg127
 z37:=Tryz.sizeOf127
 v37:=Tryz.zeroValue127
 t46:=underlying262
 a46:=Tryz.isAgg262
 z46:=Tryz.sizeOf262
 v46:=Tryz.zeroValue262
 t51:=underlying293
 a51:=Tryz.isAgg293
 z51:=Tryz.sizeOf293
 v51:=Tryz.zeroValue293
 t53:=underlying282
 a53:=Tryz.isAgg282
 z53:=Tryz.sizeOf282
 v53:=Tryz.zeroValue282
 t171:=underlying281
 a171:=Tryz.isAgg281
 z171:=Tryz.sizeOf281
 v171:=Tryz.zeroValue281
 t173:=underlying285
 a173:=Tryz.isAgg285
 z173:=Tryz.sizeOf285
 v173:=Tryz.zeroValue285
 t212:=underlying303
 a212:=Tryz.isAgg303
 z212:=Tryz.sizeOf303
 v212:=Tryz.zeroValue303
 t213:=underlying304
 a213:=Tryz.isAgg304
 z213:=Tryz.sizeOf304
 t232:=underlying316
 a232:=Tryz.isAgg316
 z232:=Tryz.sizeOf316
 v232:=Tryz.zeroValue316
 t233:=underlying317
 a233:=Tryz.isAgg317
 z233:=Tryz.sizeOf317
 v233:=Tryz.zeroValue317
 g17:=by kernel_rfl
 g18:=by kernel_rfl
 g19:=by kernel_rfl
 i0:=by kernel_rfl
 i2:=by kernel_rfl
 i3:=by kernel_rfl
 i4:=by kernel_rfl
 i5:=by kernel_rfl
 i9:=by kernel_rfl
 i20:=by kernel_rfl
 i37:=by kernel_rfl
 i46:=by kernel_rfl
 i51:=by kernel_rfl
 i53:=by kernel_rfl
 i171:=by kernel_rfl
 i173:=by kernel_rfl
 i212:=by kernel_rfl
 i232:=by kernel_rfl
 i233:=by kernel_rfl
 m17:=by kernel_rfl
 m18:=by kernel_rfl
 m19:=by kernel_rfl}
open Go.RowKit Go.Sort Go.Lib in
theorem Tryz.strconv_Itoa(n:Int)(h0: -9223372036854775808<=n)(h1:n<=9223372036854775807)(w:World)(htab:Lib.TabIs prog w "internal/strconv.uint64pow10" .u64 Lib.pow10Tab):
 Calls prog 201 #[.int .i64 n] w fun e w'=>e=.returned (.string ⟨(Lib.itoa n).toArray⟩)/\∃k os,w'=grow (w.drewN k) os:=Any.strconv_Itoa Tryz.laysM171 n h0 h1 w htab
end Go.Proofs
namespace Go.Ab
theorem adi{w:World}{σ:Nat->Nat}{k:Nat}{os:Array Go.Obj}(hl:∀b,b<w.heap.size\/σ b=0):Grow w σ (Go.Sort.grow (w.drewN k) os) σ:=by
 have hh:(Go.Sort.grow (w.drewN k) os).heap=w.heap++os:=rfl;refine⟨by rw[hh];simp,rfl,rfl,fun b hb=>⟨by rw[hh,Array.getElem?_append_left hb],rfl⟩,fun b=> ?_⟩;rcases hl b with h|h
 ·left;rw[hh];simp;omega
 ·exact .inr h
theorem amg{x:V}{vs:List Value}{w:World}{σ:Nat->Nat}{S:Store}{β:Hs}(h:qm w σ S β [x] vs):∃v,vs=[v]/\dP w σ S β x v:=by
 obtain⟨hl,h⟩:=h;obtain⟨v,e,hr⟩:=h 0 x rfl
 match vs,hl,e with
 |[y],_,e=>simp at e;subst e;exact⟨_,rfl,hr⟩
theorem Tz{w:World}{σ:Nat->Nat}(h:nI w σ):Lib.TabIs prog w "internal/strconv.uint64pow10" .u64 Lib.pow10Tab:=by
 obtain⟨c,t,fz,q1,q2,q3⟩:=h _ _ (show _∈aai from List.mem_cons_self ..)
 have hn:prog.globalNamed "internal/strconv.uint64pow10" =some 5:=by kernel_rfl
 unfold Lib.TabIs World.var?;rw[hn];simp only[Option.bind_some,q1,Option.some.injEq];apply Array.ext';rw[q2];simp[Lib.pow10Tab]
theorem amh(n:Int)(h0: -9223372036854775808<=n)(h1:n<=9223372036854775807):aH prog 201 [.c (.d (.i .i64 n))] (.c (.d (.s (Lib.itoa n)))):=fun S=>by
 refine⟨⟨_,func201,by kernel_rfl,by kernel_rfl⟩,fun w σ β vs hS hv=> ?_⟩;obtain⟨v,rfl,hr,_⟩:=amg hv
 have hv0:v=.int .i64 n:=by cases hr;rfl
 subst hv0;refine(Tryz.strconv_Itoa n h0 h1 w (Tz hS.uF)).mono fun e w' ⟨he,k,os,hw⟩=> ?_;subst hw;have hg:Grow w σ (Go.Sort.grow (w.drewN k) os) σ:=adi hS.live;exact⟨_,.c (.d (.s (Lib.itoa n))),S,σ,β,he,hS.grow hg,Keep.refl _ _,Step.mW hg,⟨.s _,rfl⟩,rfl,rfl⟩
theorem Nw(n:Int)(h0: -9223372036854775808<=n)(h1:n<=9223372036854775807):aH prog 138 [.c (.d (.i .i64 n))] (.c (.d (.s (Lib.itoa n)))):=fun S=>by
 refine zcx [.tmp 2] func138 ntmps138 ?_;refine W1 ?_;exact C4 (amh n h0 h1)
def KL(m:Nat):List UInt8:=if m=0 then [] else Lib.decDigits m
theorem af8{m:Nat}(h:m≠0):KL (m/10)++[UInt8.ofNat (48+m % 10)]=KL m:=by
 unfold KL;rw[if_neg h]
 conv=>rhs;rw[Lib.decDigits]
 by_cases h10:m<10
 ·rw[dif_pos h10,if_pos (by omega),List.nil_append,Nat.mod_eq_of_lt h10]
 ·rw[dif_neg h10,if_neg (by omega)]
theorem ajD(n:Int)(h0: -9223372036854775808<=n)(h1:n<=9223372036854775807):∃sg:Nat->Int,sg 0=0/\sg n.natAbs=n/\(∀m,m≠0->sg m≠0)/\(∀m,(sg m).tmod 10= -((m % 10:Nat):Int)\/(sg m).tmod 10=((m % 10:Nat):Int))/\
 (∀m,(sg m).tdiv 10=sg (m/10))/\∀m,m<=n.natAbs-> -9223372036854775808<=sg m/\sg m<=9223372036854775807:=by
 by_cases h:n<0
 ·refine⟨fun m=> -(m:Int),rfl,by simp only;omega,fun m hm=>by simp only;omega,fun m=>.inl ?_,fun m=> ?_,fun m hm=>by simp only;omega⟩
  ·simp only;rw[Int.neg_tmod];congr 1
  ·simp only;rw[Int.neg_tdiv];congr 1
 ·refine⟨fun m=>(m:Int),rfl,by simp only;omega,fun m hm=>by simp only;omega,fun m=>.inr rfl,fun m=>rfl,fun m hm=>by simp only;omega⟩
theorem af9:Lib.itoa 0=[48]:=by
 unfold Lib.itoa;rw[if_neg (by decide),Lib.decDigits,dif_pos (by decide)];rfl
theorem adj(a:Nat)(h:a<=9223372036854775808):(Lib.decDigits a).length<=19:=GH 18 a (by omega)
theorem yY(n:Int)(h0: -9223372036854775808<=n)(h1:n<=9223372036854775807):aH prog 120 [.c (.d (.i .i64 n))] (.c (.d (.s (Lib.itoa n)))):=fun S=>by
 obtain⟨sg,g0,gn,gne,arT,arU,aoc⟩:=ajD n h0 h1;refine zcx [.tmp 2] func120 ntmps120 ?_;refine W1 ?_;refine S0 (fun hb h=>?_) fun hb h=>?_
 ·rw[h,af9]
 have hn0:=h
 have hd0:KL n.natAbs=Lib.decDigits n.natAbs:=by unfold KL;rw[if_neg (by omega)]
 have hln:=adj n.natAbs (by omega)
 refine aT (ι:=Nat×List UInt8) zmx rfl [0,3,4] (fun y=>[.c (.d (.i .i64 (sg y.1))),.c (.d (.b (decide (n<0)))),.c (.d (.s y.2))]) (fun _=>[]::S)
  (fun y=>y.1<=n.natAbs/\KL y.1++y.2=KL n.natAbs/\y.2.length<=19) (fun y=>y.1) (n.natAbs,[]) (by rw[gn];rfl) rfl ⟨Nat.le_refl _,List.append_nil _,by simp⟩ ?_
 rintro⟨m,out⟩ ⟨p1,p2,p3⟩;simp only at p1 p2 p3;have hr:=aoc m p1;have hm:=arT m;have hq:=arU m
 generalize hx:sg m=x at *
 generalize hy:x.tmod 10=y at *
 have hlo:out.length<=19:=p3;refine W1 ?_;refine S0 (fun hb h=>?_) fun hb h=>?_
 ·have hm0:m≠0:=fun e=>by rw[e,g0] at hx;omega
  have hst:=af8 hm0;have hr2:=aoc (m/10) (by omega)
  have as3:(KL (m/10)).length+1+out.length<=19:=by
   have:=congrArg List.length p2;rw[<-hst,hd0] at this;simp only[List.length_append,List.length_cons,List.length_nil] at this;omega
  simp -implicitDefEqProofs (disch:=omega) only[go_sem,hy];refine S0 (fun hb h=>?_) fun hb h=>?_
  ·have e1:(0:Int)-y=((m % 10:Nat):Int):=by omega
   have hc:UInt8.ofNat (IntKind.u8.wrap (48+(0-y))).toNat=UInt8.ofNat (48+m % 10):=by
    rw[wrap_u8 _ (by omega),e1];congr 1
   simp -implicitDefEqProofs (disch:=omega) only[go_sem,hy,hq];refine W3 ?_;refine bF (m/10,UInt8.ofNat (48+m % 10)::out) (by simp only;omega) (by rw[<-hc];rfl) rfl ⟨by simp only;omega,?_,by simp only[List.length_cons];omega⟩
   simp only
   rw[<-p2,<-hst,List.append_assoc];rfl
  ·have e1:y=((m % 10:Nat):Int):=by omega
   have hc:UInt8.ofNat (IntKind.u8.wrap (48+y)).toNat=UInt8.ofNat (48+m % 10):=by
    rw[wrap_u8 _ (by omega),e1];congr 1
   simp -implicitDefEqProofs (disch:=omega) only[go_sem,hy,hq];refine W3 ?_;refine bF (m/10,UInt8.ofNat (48+m % 10)::out) (by simp only;omega) (by rw[<-hc];rfl) rfl ⟨by simp only;omega,?_,by simp only[List.length_cons];omega⟩
   simp only
   rw[<-p2,<-hst,List.append_assoc];rfl
 ·have hm0:m=0:=by
   rcases Nat.eq_zero_or_pos m with e|e
   ·exact e
   ·exact absurd (by rw[hx];omega) (gne m (by omega))
  subst hm0
  have hout:out=Lib.decDigits n.natAbs:=by rw[<-hd0,<-p2];rfl
  refine S0 (fun hb h=>?_) fun hb h=>?_
  ·refine W3 ?_;rw[hout];unfold Lib.itoa;rw[if_pos h]
  ·rw[hout];unfold Lib.itoa;rw[if_neg h,show n.toNat=n.natAbs by omega]
def Ae(s:List UInt8):Prop:=s.head? =some 45
instance (s:List UInt8):Decidable (Ae s):=inferInstanceAs (Decidable (_=_))
def fV(s:List UInt8):List UInt8:=if Ae s then s.tail else s
theorem Co:∀(l:List UInt8)(acc v:Nat),Lib.decFrom acc l=some v->∀b∈l,48<=b.toNat/\b.toNat<=57
 |[],_,_,_,b,hb=>by cases hb
 |a::l,acc,v,h,b,hb=>by
  rw[Lib.decFrom] at h
  cases hd:Lib.digitVal a with
  |none=>rw[hd] at h;cases h
  |some d=>
   rw[hd] at h;rcases List.mem_cons.1 hb with rfl|hb
   ·unfold Lib.digitVal at hd;split at hd
    ·assumption
    ·cases hd
   ·exact Co l _ v h b hb
theorem ZI{b:UInt8}(h:48<=b.toNat/\b.toNat<=57):Lib.digitVal b=some (b.toNat-48):=if_pos h
theorem decFrom_take{t:List UInt8}{i acc:Nat}(hi:i<t.length)(h:Lib.decFrom 0 (t.take i)=some acc)(hd:48<=t[i].toNat/\t[i].toNat<=57):Lib.decFrom 0 (t.take (i+1))=some (acc*10+(t[i].toNat-48)):=by
 rw[List.take_succ_eq_append_getElem hi,Ew,h,ZI hd];rfl
theorem KM{s:List UInt8}{m:Int}(h:iA s=some m):(Ae s<->m<0)/\fV s=Lib.decDigits m.natAbs/\1<=(fV s).length/\(fV s).length<=12:=by
 obtain⟨hr,he⟩:=P6 h;have hl:(Lib.decDigits m.natAbs).length<=12:=GH 11 _ (by omega);obtain⟨b,r,e,b1,b2⟩:=AY m.natAbs
 have hl1:1<=(Lib.decDigits m.natAbs).length:=by rw[e];simp
 unfold Lib.itoa at he;by_cases hn:m<0
 ·rw[if_pos hn] at he
  have hs:Ae s:=by rw[<-he];rfl
  have hb:fV s=Lib.decDigits m.natAbs:=by unfold fV;rw[if_pos hs,<-he];rfl
  exact⟨⟨fun _=>hn,fun _=>hs⟩,hb,by rw[hb];exact⟨hl1,hl⟩⟩
 ·rw[if_neg hn,show m.toNat=m.natAbs by omega] at he
  have hs:¬Ae s:=fun x=>by
   rw[<-he,e] at x;unfold Ae at x;simp only[List.head?_cons,Option.some.injEq] at x;rw[x] at b1;revert b1;decide
  have hb:fV s=Lib.decDigits m.natAbs:=by unfold fV;rw[if_neg hs,<-he]
  exact⟨⟨fun x=>(hs x).elim,fun x=>(hn x).elim⟩,hb,by rw[hb];exact⟨hl1,hl⟩⟩
theorem yE{s:List UInt8}(h:(fV s).length<1\/12<(fV s).length):iA s=none:=by
 cases hr:iA s with
 |none=>rfl
 |some m=>have:=(KM hr).2.2;omega
theorem Fg{s:List UInt8}{i:Nat}(hi:i<(fV s).length)(h:¬(48<=(fV s)[i].toNat/\(fV s)[i].toNat<=57)):iA s=none:=by
 cases hr:iA s with
 |none=>rfl
 |some m=>
  have hk:=(KM hr).2.1;have hd:=AX m.natAbs;rw[<-hk] at hd;exact absurd (Co _ _ _ hd _ (List.getElem_mem hi)) h
theorem TA{s:List UInt8}{v:Nat}(hv:Lib.decFrom 0 (fV s)=some v)(hb:v<=999999999999):iA s=if Lib.itoa (if Ae s then -(v:Int) else v)=s then some (if Ae s then -(v:Int) else v) else none:=by
 obtain⟨z,hz⟩:∃z,z=(if Ae s then -(v:Int) else v):=⟨_,rfl⟩
 have hzb: -999999999999<=z/\z<=999999999999:=by rw[hz];split<;>omega
 rw[<-hz];by_cases h:Lib.itoa z=s
 ·rw[if_pos h]
  conv=>lhs;rw[<-h]
  exact P5 hzb
 ·rw[if_neg h]
  cases hr:iA s with
  |none=>rfl
  |some m=>
   have hk:=KM hr;have hd:=AX m.natAbs;rw[<-hk.2.1,hv] at hd
   have hm:v=m.natAbs:=by simpa using hd
   have:z=m:=by
    rw[hz];by_cases hn:Ae s
    ·have:=hk.1.1 hn;rw[if_pos hn];omega
    ·rw[if_neg hn];have:¬m<0:=fun x=>hn (hk.1.2 x);omega
   rw[this] at h;exact absurd (P6 hr).2 h
theorem ZJ(s:List UInt8)(hs:s.length<=1073741824):aH prog 177 [.c (.d (.s s)),.c (.d (.i .i64 12))] (.dL [(false,[.d (.i .i64 ((iA s).getD 0))]),(false,[.d (.b (iA s).isSome)])]):=fun S=>by
 have d0:iA s=none->V.dL [(false,[.d (.i .i64 0)]),(false,[.d (.b false)])]=.dL [(false,[.d (.i .i64 ((iA s).getD 0))]),(false,[.d (.b (iA s).isSome)])]:=fun e=>by rw[e];rfl
 refine zcx [.tmp 4,.tmp 5] func177 ntmps177 ?_;refine W1 ?_;refine S0 (fun hb h=>?_) fun hb h=>?_
 ·have hpos:0<s.length:=by omega
  have h0:(s.getD 0 0).toNat=45<->Ae s:=by
   cases s with
   |nil=>simp at hpos
   |cons b s=>
    unfold Ae;simp only[List.getD_cons_zero,List.head?_cons,Option.some.injEq];constructor
    ·intro e;exact UInt8.toNat.inj e
    ·intro e;rw[e];rfl
  refine W3 ?_;refine S0 (fun hb h=>?_) fun hb h=>?_
  ·have hn:Ae s:=h0.1 (by omega)
   have hb:fV s=(s.take s.length).drop 1:=by unfold fV;rw[if_pos hn,List.take_length,List.drop_one]
   refine W3 ?_;rw[<-hb]
   have hbl:(fV s).length<=s.length:=by rw[hb];simp
   refine S0 (fun hb h=>?_) fun hb h=>?_
   ·exact d0 (yE (by omega))
   refine S0 (fun hb h=>?_) fun hb h=>?_
   ·exact d0 (yE (by omega))
   have hl1:1<=(fV s).length:=by omega
   have hl12:(fV s).length<=12:=by omega
   refine aT (ι:=Nat×Nat) zmx rfl [0,6,7,8,9] (fun y=>[.c (.d (.s s)),.c (.d (.b true)),.c (.d (.s (fV s))),.c (.d (.i .i64 y.2)),.c (.d (.i .i64 y.1))]) (fun _=>[]::S)
    (fun y=>y.1<=(fV s).length/\Lib.decFrom 0 ((fV s).take y.1)=some y.2/\y.2<10^y.1) (fun y=>(fV s).length-y.1) (0,0) rfl rfl ⟨Nat.zero_le _,rfl,by decide⟩ ?_
   rintro⟨i,acc⟩ ⟨p1,p2,p3⟩;simp only at p1 p2 p3;have p4:10^i<=10^12:=Nat.pow_le_pow_right (by decide) (by omega);refine W1 ?_;refine S0 (fun hb h=>?_) fun hb h=>?_
   ·have hi:i<(fV s).length:=by omega
    have e:(fV s).getD i 0=(fV s)[i]:=by simp[List.getD,hi]
    have hbb:=(fV s)[i].toNat_lt;refine W3 ?_;simp only[e];refine S0 (fun hb h=>?_) fun hb h=>?_
    ·exact d0 (Fg hi (by omega))
    refine W3 ?_;simp only[e];refine S0 (fun hb h=>?_) fun hb h=>?_
    ·exact d0 (Fg hi (by omega))
    have hdg:48<=(fV s)[i].toNat/\(fV s)[i].toNat<=57:=by omega
    have ht:=decFrom_take hi p2 hdg
    have e2:(10:Int)*acc+(((fV s)[i].toNat:Int)-48)=((acc*10+((fV s)[i].toNat-48):Nat):Int):=by omega
    refine W3 ?_;simp -implicitDefEqProofs (disch:=omega) only[go_sem,wrap_u8,e];rw[e2];exact bF (i+1,acc*10+((fV s)[i].toNat-48)) (by simp only;omega) rfl rfl ⟨by simp only;omega,ht,by simp only[Nat.pow_succ];omega⟩
   ·have hi:i=(fV s).length:=by omega
    have hv:Lib.decFrom 0 (fV s)=some acc:=by rw[hi,List.take_length] at p2;exact p2
    have y9:=TA hv (by omega);rw[if_pos hn] at y9;rw[show(0:Int)-acc= -(acc:Int) by omega];refine C1 (yY (-(acc:Int)) (by omega) (by omega)) ?_;refine S0 (fun hb h=>?_) fun hb h=>?_
    ·exact d0 (y9.trans (if_neg h))
    ·rw[y9.trans (if_pos h)];rfl
  ·have hn:¬Ae s:=fun x=>h (by rw[h0.2 x];rfl)
   have hbs:fV s=s:=by unfold fV;rw[if_neg hn]
   have hbl:(fV s).length=s.length:=by rw[hbs]
   refine S0 (fun hb h=>?_) fun hb h=>?_
   ·exact d0 (yE (by omega))
   refine S0 (fun hb h=>?_) fun hb h=>?_
   ·exact d0 (yE (by omega))
   have hl1:1<=(fV s).length:=by omega
   have hl12:(fV s).length<=12:=by omega
   refine aT (ι:=Nat×Nat) zmx rfl [0,6,7,8,9] (fun y=>[.c (.d (.s s)),.c (.d (.b false)),.c (.d (.s (fV s))),.c (.d (.i .i64 y.2)),.c (.d (.i .i64 y.1))]) (fun _=>[]::S)
    (fun y=>y.1<=(fV s).length/\Lib.decFrom 0 ((fV s).take y.1)=some y.2/\y.2<10^y.1) (fun y=>(fV s).length-y.1) (0,0) (by rw[hbs];rfl) rfl ⟨Nat.zero_le _,rfl,by decide⟩ ?_
   rintro⟨i,acc⟩ ⟨p1,p2,p3⟩;simp only at p1 p2 p3;have p4:10^i<=10^12:=Nat.pow_le_pow_right (by decide) (by omega);refine W1 ?_;refine S0 (fun hb h=>?_) fun hb h=>?_
   ·have hi:i<(fV s).length:=by omega
    have e:(fV s).getD i 0=(fV s)[i]:=by simp[List.getD,hi]
    have hbb:=(fV s)[i].toNat_lt;refine W3 ?_;simp only[e];refine S0 (fun hb h=>?_) fun hb h=>?_
    ·exact d0 (Fg hi (by omega))
    refine W3 ?_;simp only[e];refine S0 (fun hb h=>?_) fun hb h=>?_
    ·exact d0 (Fg hi (by omega))
    have hdg:48<=(fV s)[i].toNat/\(fV s)[i].toNat<=57:=by omega
    have ht:=decFrom_take hi p2 hdg
    have e2:(10:Int)*acc+(((fV s)[i].toNat:Int)-48)=((acc*10+((fV s)[i].toNat-48):Nat):Int):=by omega
    refine W3 ?_;simp -implicitDefEqProofs (disch:=omega) only[go_sem,wrap_u8,e];rw[e2];exact bF (i+1,acc*10+((fV s)[i].toNat-48)) (by simp only;omega) rfl rfl ⟨by simp only;omega,ht,by simp only[Nat.pow_succ];omega⟩
   ·have hi:i=(fV s).length:=by omega
    have hv:Lib.decFrom 0 (fV s)=some acc:=by rw[hi,List.take_length] at p2;exact p2
    have y9:=TA hv (by omega);rw[if_neg hn] at y9;refine C1 (yY ((acc:Int)) (by omega) (by omega)) ?_;refine S0 (fun hb h=>?_) fun hb h=>?_
    ·exact d0 (y9.trans (if_neg h))
    ·rw[y9.trans (if_pos h)];rfl
 ·have hs0:s=[]:=List.eq_nil_of_length_eq_zero (by omega)
  have hb0:(fV s).length=0:=by rw[hs0];rfl
  refine S0 (fun hb h=>?_) fun hb h=>?_
  ·exact d0 (yE (by omega))
  ·omega
theorem P8(s:List UInt8)(hs:s.length<=1073741824):aH prog 110 [.c (.d (.s s))] (.dL [(false,[.d (.i .i64 ((iA s).getD 0))]),(false,[.d (.b (iA s).isSome)])]):=fun S=>by
 refine zcx [.tmp 2,.tmp 3] func110 ntmps110 ?_;refine W1 ?_;exact C4 (ZJ s hs)
theorem aga{x:aj}{i:Nat}(hi:i<x.ah.length)(h:x.sz<=4194304):x.ah[i].sz<=4194304:=by
 have:=iT (List.getElem_mem hi);rw[jZ,mH] at h;omega
theorem agb{x:aj}(h:x.sz<=4194304):x.aO.length<=4194304/\x.ah.length<=4194304:=by
 rw[jZ] at h;omega
theorem Cq:∀n:Nat,∀x:aj,SizeOf.sizeOf x<n->∀y:aj,x.sz<=4194304->aH prog 63 [x.v,y.v] (.c (.d (.b (dec (x=y)))))
 |0=>fun x h=>by omega
 |n+1=>by
  have ih:=Cq n;intro x hn y hsz S;have apX:=aj.wh x;have hb:=agb hsz;refine zcx [.tmp 4] func63 ntmps63 ?_;refine W1 ?_;refine S0 (fun hb h=>?_) fun hb h=>?_
  ·exact ay (aB (fun e=>h (by rw[e]))).symm
  have h1:=h;refine S0 (fun hb h=>?_) fun hb h=>?_
  ·exact ay (aB (fun e=>h (by rw[e]))).symm
  have hl:x.ah.length=y.ah.length:=by omega
  refine aT (ι:=Nat) zmx rfl [2,3,5] (fun i=>[.c (.ptr (0,0) 0),.c (.ptr (0,1) 0),.c (.d (.i .i64 i))]) (fun i=>[.box [.d (.s x.aO),.d (.sl (x.ah.map aj.enc))],.box [.d (.s y.aO),.d (.sl (y.ah.map aj.enc))]]::S)
   (fun i=>i<=x.ah.length/\∀j,j<i->x.ah[j]? =y.ah[j]?) (fun i=>x.ah.length-i) 0 rfl rfl ⟨Nat.zero_le _,fun j h=>by omega⟩ ?_
  rintro i ⟨p1,p2⟩;simp -implicitDefEqProofs (disch:=omega) only[go_sem,aj.aA];refine S0 (fun hb h=>?_) fun hb h=>?_
  ·have hi:i<x.ah.length:=by omega
   have hi':i<y.ah.length:=by omega
   refine W3 ?_;refine C1 (ih x.ah[i] (by have:=List.sizeOf_lt_of_mem (List.getElem_mem hi);omega) y.ah[i] (aga hi hsz)) ?_;refine S0 (fun hb h=>?_) fun hb h=>?_
   ·exact ay (aB (fun e=>h (by simp only[e]))).symm
   refine bF (i+1) (by omega) rfl rfl ⟨by omega,fun j hj=> ?_⟩;by_cases e:j=i
   ·subst e;rw[List.getElem?_eq_getElem hi,List.getElem?_eq_getElem hi',h]
   ·exact p2 j (by omega)
  ·have hi:i=x.ah.length:=by omega
   refine ay (aZ ?_).symm;refine aj.ext (by first|exact h1|(simp at h1;exact h1)) (List.ext_getElem? fun j=> ?_);by_cases hj:j<i
   ·exact p2 j hj
   ·rw[List.getElem?_eq_none (by omega),List.getElem?_eq_none (by omega)]
theorem uy(x y:aj)(h:x.sz<=4194304):aH prog 63 [x.v,y.v] (.c (.d (.b (dec (x=y))))):=Cq _ x (Nat.lt_succ_self _) y h
theorem Cr:∀n:Nat,(∀x:aj,SizeOf.sizeOf x<n->∀y:aj,x.sz<=4194304->aH prog 69 [x.v,y.v] (.c (.d (.b (dec (x=y))))))/\
 (∀xs:List aj,SizeOf.sizeOf xs<n->∀ys:List aj,xs.length<=4194304->(∀t∈xs,t.sz<=4194304)->aH prog 136 [.c (.d (.sl (xs.map aj.enc))),.c (.d (.sl (ys.map aj.enc))),.c (.fn 69 [])] (.c (.d (.b (dec (xs=ys))))))
 |0=>⟨fun x h=>by omega,fun x h=>by omega⟩
 |n+1=>by
  obtain⟨ih,qU⟩:=Cr n;refine⟨fun x hn y hsz S=> ?_,fun xs hn ys hlen hsz S=> ?_⟩
  ·have apX:=aj.wh x;have hb:=agb hsz;refine zcx [.tmp 4] func69 ntmps69 ?_;refine W1 ?_;refine S0 (fun hb h=>?_) fun hb h=>?_
   ·have h1:=h;refine W3 ?_
    refine aX (qU x.ah (by omega) y.ah (by omega) (fun t ht=>by
     obtain⟨i,hi,e⟩:=List.getElem_of_mem ht
     rw[<-e];exact aga hi hsz)) ?_
    refine W1 ?_;refine ay (iB ⟨fun e=>aj.ext h1 e,fun e=>by rw[e]⟩)
   ·exact ay (aB (fun e=>h (by rw[e]))).symm
  ·refine zcx [.tmp 6] func136 ntmps136 ?_;refine W1 ?_;refine S0 (fun hb h=>?_) fun hb h=>?_
   ·exact ay (aB (fun e=>h (by rw[e]))).symm
   have hl:xs.length=ys.length:=by omega
   refine aT (ι:=Nat) zmx rfl [1,2,15,16,17] (fun y=>[.c (.d (.sl (ys.map aj.enc))),.c (.fn 69 []),.c (.d (.sl (xs.map aj.enc))),.c (.d (.i .i64 xs.length)),.c (.d (.i .i64 y))]) (fun y=>[]::S)
    (fun i=>i<=xs.length/\∀j,j<i->xs[j]? =ys[j]?) (fun y=>xs.length-y) 0 rfl rfl ⟨Nat.zero_le _,fun j h=>by omega⟩ ?_
   rintro i ⟨p1,p2⟩;refine W1 ?_;refine S0 (fun hb h=>?_) fun hb h=>?_
   ·have hi:i<xs.length:=by omega
    have hi':i<ys.length:=by omega
    refine W3 ?_;refine C1 (ih xs[i] (by have:=List.sizeOf_lt_of_mem (List.getElem_mem hi);omega) ys[i] (hsz _ (List.getElem_mem hi))) ?_;refine S0 (fun hb h=>?_) fun hb h=>?_
    ·exact ay (aB (fun e=>h (by simp only[e]))).symm
    refine bX 0 (by decide) (i+1) (by omega) rfl rfl rfl rfl ⟨by omega,fun j hj=> ?_⟩;by_cases e:j=i
    ·subst e;rw[List.getElem?_eq_getElem hi,List.getElem?_eq_getElem hi',h]
    ·exact p2 j (by omega)
   ·have hi:i=xs.length:=by omega
    refine ay (aZ (List.ext_getElem? fun j=> ?_)).symm;by_cases hj:j<i
    ·exact p2 j hj
    ·rw[List.getElem?_eq_none (by omega),List.getElem?_eq_none (by omega)]
theorem uz(x y:aj)(h:x.sz<=4194304):aH prog 69 [x.v,y.v] (.c (.d (.b (dec (x=y))))):=(Cr _).1 x (Nat.lt_succ_self _) y h
theorem BI{α:Type}[SizeOf α]:∀(i:Nat)(l:List α),SizeOf.sizeOf (l.drop i)<=SizeOf.sizeOf l
 |0,l=>by simp
 |i+1,[]=>by simp
 |i+1,x::l=>by
  have:=BI i l;rw[List.drop_succ_cons];simp only[List.cons.sizeOf_spec];omega
theorem pG(l:List aj)(n i:Nat)(h:l.length<=n):((l.map aj.enc).take n).drop i=(l.drop i).map aj.enc:=by
 rw[List.take_of_length_le (by rw[List.length_map];exact h),List.map_drop]
theorem xE(l:List aj)(i:Nat):(l.getD i bZ).sz<=dx l:=by
 rw[List.getD_eq_getElem?_getD];by_cases h:i<l.length
 ·rw[List.getElem?_eq_getElem h];exact iT (List.getElem_mem h)
 ·rw[List.getElem?_eq_none (by omega)];rw[Option.getD_none,jZ];simp[bZ,aj.aO,aj.ah,bf]
theorem eG(x:aj):x.ah.length+dx x.ah<=x.sz:=by rw[jZ,mH];omega
theorem AZ(x:aj):x.aO.length<=x.sz:=by rw[jZ];omega
def zy(x:aj):List D:=[.s x.aO]
def allA(l:List aj):Bool:=l.all fun x=>decide (x.aO≠[])
theorem aaI{l:List aj}{i:Nat}(hi:i<l.length)(h:l[i].aO=[]):allA l=false/\fq l=[]:=by
 have:allA l=false:=by
  unfold allA;rw[List.all_eq_false];exact⟨_,List.getElem_mem hi,by simp[h]⟩
 refine⟨this,?_⟩;unfold fq;unfold allA at this;rw[this];rfl
theorem XK{l:List aj}(h:∀j (hj:j<l.length),l[j].aO≠[]):allA l=true/\(fq l).map encS=l.map zy:=by
 have:allA l=true:=by
  unfold allA;rw[List.all_eq_true];intro x hx;obtain⟨j,hj,rfl⟩:=List.getElem_of_mem hx;exact decide_eq_true (h j hj)
 refine⟨this,?_⟩;unfold fq;unfold allA at this;rw[this,if_pos rfl,List.map_map];rfl
theorem KN{l:List aj}{i:Nat}(hi:i<l.length):(l.take i).map zy++[[.s l[i].aO]]=(l.take (i+1)).map zy:=by
 rw[List.take_succ_eq_append_getElem hi,List.map_append];rfl
theorem MP{l:List aj}{i:Nat}:((l.take i).map zy).length<=i:=by rw[List.length_map];exact List.length_take_le _ _
def lt(l:List ak)(n:Nat):List (List D):=dO (l.map ak.enc) n
def fZ(l:List ak):Nat:=iH (l.map ak.enc)
theorem ami(x:ak)(n:Nat):eT x.enc n=[.i .i64 x.aK,.s x.fName,.ol n (lt x.fArgs (n+1))]:=by
 rw[ak.aA];simp only[eT,nL,qd,Nat.add_zero,lt]
theorem agc(l:List ak)(n:Nat):(lt l n).length=l.length:=by unfold lt;rw[jV,List.length_map]
theorem amj{l:List ak}{i:Nat}(hi:i<l.length)(n:Nat):lt (l.take i) n++[[.i .i64 l[i].aK,.s l[i].fName,.ol (n+fZ (l.take i)) (lt l[i].fArgs (n+fZ (l.take i)+1))]]=lt (l.take (i+1)) n:=by
 rw[List.take_succ_eq_append_getElem hi];unfold lt fZ;rw[List.map_append,oF];simp only[List.map_cons,List.map_nil,dO,ami,lt]
theorem TB{l:List ak}{i:Nat}(hi:i<l.length):(l.take i).map ak.enc++[[.i .i64 l[i].aK,.s l[i].fName,.sl (l[i].fArgs.map ak.enc)]]=(l.take (i+1)).map ak.enc:=by
 rw[List.take_succ_eq_append_getElem hi,List.map_append];simp only[List.map_cons,List.map_nil,ak.aA]
theorem RF(k:Int)(s:List UInt8)(n:Nat):Less (.agg [.d (.i .i64 k),.d (.s s),.bE []]) (.agg [.d (.i .i64 k),.d (.s s),.d (.ol n [])]):=(fK.cons (.refl _) (.cons (.refl _) (.cons (dR n) .nil))).less
theorem aaJ(k:Int)(s:List UInt8)(es:List (List D)):Less (.agg [.d (.i .i64 k),.d (.s s),.bE es]) (.agg [.d (.i .i64 k),.d (.s s),.d (.sl es)]):=(fK.cons (.refl _) (.cons (.refl _) (.cons (eU es) .nil))).less
theorem aod{s:List UInt8}(h:s≠[]):((s.getD 0 0).toNat:Int)=39<->s.head? =some 39:=by
 cases s with
 |nil=>exact(h rfl).elim
 |cons b s=>
  simp only[List.getD_cons_zero,List.head?_cons,Option.some.injEq];constructor
  ·intro e
   have:b.toNat=39:=by omega
   exact UInt8.toNat.inj this
  ·intro e;rw[e];rfl
theorem P9(s:List UInt8)(n:Nat)(h:s.length<=n):(s.take n).drop 1=s.tail:=by rw[List.take_of_length_le h,List.drop_one]
theorem Qa{a b:List (List D)}(h:iR a b):pV (.d (.sl a)) (.d (.sl b)):=fun w σ S β v hr=>h.rep hr
abbrev ak.vl(t:ak)(n:Nat):V:=.agg [.d (.i .i64 t.aK),.d (.s t.fName),.d (.ol n (lt t.fArgs (n+1)))]
theorem xG(l:List (List UInt8)):iH (l.map encS)=0:=by
 induction l with
 |nil=>rfl
 |cons s l ih=>rw[List.map_cons,iH,ih];rfl
theorem aoe{b:Bool}{x:aj}{r:V}{k:Int}{s:List UInt8}{l:List ak}(h:dN b x=.mk k s l)(hl:Less r (.agg [.d (.i .i64 k),.d (.s s),.d (.sl (l.map ak.enc))])):Less r (dN b x).v:=by rw[h];exact hl
theorem akD{b:Bool}{x:aj}{k:Int}{s:List UInt8}(h:dN b x=.mk k s []):Less (.agg [.d (.i .i64 k),.d (.s s),.bE []]) (dN b x).v:=by rw[h];exact aaJ k s []
theorem akE{b:Bool}{x:aj}{k:Int}{s:List UInt8}(h:dN b x=.mk k s []):Less (.agg [.d (.i .i64 k),.d (.s s),.d (.sl [])]) (dN b x).v:=by rw[h];exact gy _
theorem akF{b:Bool}{x:aj}{r:V}{n:Nat}{k:Int}{s:List UInt8}{l:List ak}(h:dN b x=.mk k s l)(hl:Less r (.agg [.d (.i .i64 k),.d (.s s),.d (.ol n (lt l (n+1)))])):Less r ((dN b x).vl n):=by rw[h];exact hl
theorem agd{b:Bool}{x:aj}{n:Nat}{k:Int}{s:List UInt8}(h:dN b x=.mk k s []):Less (.agg [.d (.i .i64 k),.d (.s s),.bE []]) ((dN b x).vl n):=by rw[h];exact RF k s n
theorem agf{b:Bool}{x:aj}{n:Nat}{k:Int}{s:List UInt8}(h:dN b x=.mk k s []):Less (.agg [.d (.i .i64 k),.d (.s s),.d (.ol n [])]) ((dN b x).vl n):=by rw[h];exact gy _
theorem ZK{s:List UInt8}(h:1<=s.length):(s.take 1).drop 0=[39]<->s.head? =some 39:=by
 cases s with
 |nil=>simp at h
 |cons b s=>simp
theorem Ez(xs:List aj)(hx:xs.length<=1073741824):aH prog 76 [.c (.d (.sl (xs.map aj.enc)))] (.dL [(false,[.d (.sl ((fq xs).map encS))]),(false,[.d (.b (allA xs))])]):=aH.of_le fun S=>by
 refine zcx [.tmp 2,.tmp 3] func76 ntmps76 ?_;refine W1 ?_;refine W3 ?_;refine ni 4 1 [] rfl (by simp) ?_
 refine aT (ι:=Nat) zmx rfl [0,4,5] (fun i=>[.c (.d (.sl (xs.map aj.enc))),.c (.bN (0,0) ((xs.take i).map zy)),.c (.d (.i .i64 i))]) (fun i=>[.tok 1 ((xs.take i).map zy)]::S)
  (fun i=>i<=xs.length/\∀j,∀hj:j<xs.length,j<i->xs[j].aO≠[]) (fun i=>xs.length-i) 0 rfl rfl ⟨Nat.zero_le _,fun j _ h=>by omega⟩ ?_
 rintro i ⟨p1,p2⟩;have hl:=MP (l:=xs) (i:=i);simp -implicitDefEqProofs (disch:=omega) only[go_sem,aj.aA];refine S0 (fun hb h=>?_) fun hb h=>?_
 ·have hi':i<xs.length:=by omega
  have hs:=KN hi';refine W3 ?_;refine S0 (fun hb h=>?_) fun hb h=>?_
  ·obtain⟨e1,e2⟩:=aaI hi' h;rw[e1,e2];exact(iw.cons (.cons (eU _) .nil) (.refl _)).less
  ·refine W3 ?_;rw[hs];refine bF (i+1) (by omega) rfl rfl ⟨by omega,fun j hj hji=> ?_⟩;by_cases e':j=i
   ·subst e';exact h
   ·exact p2 j hj (by omega)
 ·have hi':i=xs.length:=by omega
  subst hi';obtain⟨e1,e2⟩:=XK fun j hj=>p2 j hj hj;rw[e1,e2,List.take_length];exact gy _
theorem sN(x:aj)(hx:x.sz<=4194304):aH prog 204 [x.v] (.c (.d (.sl ((fq x.ah).map encS)))):=fun S=>by
 have:=eG x;refine zcx [.tmp 2] func204 ntmps204 ?_;refine W1 ?_;exact C3 (Ez x.ah (by omega))
theorem fM(x:aj)(i:Nat)(hx:x.sz<=4194304)(hi:i<=100):aH prog 77 [x.v,.c (.d (.i .i64 i))] (x.ah.getD i bZ).v:=aH.of_le fun S=>by
 have:=eG x;refine zcx [.cell 4 54] func77 ntmps77 ?_;refine W1 ?_;refine S0 (fun hb h=>?_) fun hb h=>?_
 ·rw[List.getD_eq_getElem?_getD,List.getElem?_eq_none (by omega)];exact(fK.cons (.refl _) (.cons (eU _) .nil)).less
 ·have hi:i<x.ah.length:=by omega
  rw[List.getD_eq_getElem?_getD,List.getElem?_eq_getElem hi];exact gy _
theorem vH(a b:Int):aH prog 114 [.c (.d (.i .i64 a)),.c (.d (.i .i64 b))] (.c (.d (.i .i64 (min a b)))):=fun S=>by
 refine zcx [.tmp 4] func114 ntmps114 ?_;refine W1 ?_;refine S0 (fun hb h=>?_) fun hb h=>?_
 ·exact int_eq (by omega)
 ·exact int_eq (by omega)
theorem yF(x:aj)(i:Nat)(hx:x.sz<=4194304):aH prog 205 [x.v,.c (.d (.i .i64 i))] (.c (.d (.sl ((x.ah.drop i).map aj.enc)))):=fun S=>by
 have:=eG x;refine zcx [.tmp 4] func205 ntmps205 ?_;refine W1 ?_;refine aX (vH _ _) ?_
 have e:min (i:Int) (x.ah.length:Int)=((min i x.ah.length:Nat):Int):=by omega
 rw[e];have hr:=gV (l:=x.ah);refine W1 ?_;refine W3 ?_;refine⟨⟨by omega,by omega,by omega,hr⟩,?_⟩;rw[pG _ _ _ (Nat.le_refl _)];by_cases h:i<=x.ah.length
 ·rw[Nat.min_eq_left h]
 ·rw[Nat.min_eq_right (by omega),List.drop_length,List.drop_of_length_le (by omega)]
theorem adk(s:List UInt8):aH prog 179 [.c (.d (.s s)),.c (.d (.sl []))] (.agg [.d (.i .i64 2),.d (.s s),.d (.sl [])]):=aH.of_le fun S=>by
 refine zcx [.cell 4 24] func179 ntmps179 ?_;refine W1 ?_;refine W3 ?_;exact gy _
theorem adl(s:List UInt8):aH prog 178 [.c (.d (.s s))] (.agg [.d (.i .i64 1),.d (.s s),.d (.sl [])]):=aH.of_le fun S=>by
 refine zcx [.cell 2 24] func178 ntmps178 ?_;refine W1 ?_;refine W3 ?_;exact aaJ _ _ _
theorem Jk:∀N:Nat,(∀x:aj,SizeOf.sizeOf x<N->x.sz<=4194304->aH prog 115 [x.v] (dN false x).v)
 |0=>fun x h=>by omega
 |N+1=>by
  have ih:=Jk N;intro x hn hsz;have j3:=aj.wh x;have h1:=eG x;have h2:=AZ x;have hx:=aaF false x
  have hall:∀t∈x.ah,t.sz<=4194304:=fun t ht=>by have:=iT ht;omega
  refine aH.of_le fun S=> ?_;refine zcx [.cell 2 24] func115 ntmps115 ?_;refine W1 ?_;refine S0 (fun hb h=>?_) fun hb h=>?_
  ·have hne:=h;rw[if_neg h] at hx;have h39:=aod h;have hln:0<x.aO.length:=List.length_pos_iff.2 hne;have hsl:=P9 x.aO x.aO.length (Nat.le_refl _);refine W3 ?_;refine S0 (fun hb h=>?_) fun hb h=>?_
   ·rw[if_pos (h39.1 h)] at hx;refine W3 ?_;rw[hsl];refine C1 (adl _) ?_;exact akE hx
   ·rw[if_neg (fun e=>h (h39.2 e))] at hx;refine C1 (adk _) ?_;exact akE hx
  rw[if_pos h] at hx;refine S0 (fun hb h=>?_) fun hb h=>?_
  ·rw[if_pos (by omega)] at hx;exact akD hx
  rw[if_neg (by omega)] at hx
  have hl2:2<=x.ah.length:=by omega
  have a0:=jL (l:=x.ah) (i:=0) (by omega);have a1:=jL (l:=x.ah) (i:=1) (by omega);obtain⟨T,hT⟩:∃T:Nat->List (List D),T=fun i=>(((x.ah.map (dN false)).drop 1).take i).map ak.enc:=⟨_,rfl⟩
  have hT0:T 0=[]:=by rw[hT];rfl
  have iI:∀i,(T i).length<=i:=fun i=>by rw[hT];simp only[List.length_map];exact List.length_take_le _ _
  have hTr:∀i,∀r∈T i,r.length=3:=fun i=>by
   rw[hT];intro r hr;obtain⟨z,_,rfl⟩:=List.mem_map.1 hr;exact z.cK
  have hTs:∀i (hi:i+1<x.ah.length),T i++[[.i .i64 (dN false x.ah[i+1]).aK,.s (dN false x.ah[i+1]).fName,.sl ((dN false x.ah[i+1]).fArgs.map ak.enc)]]=T (i+1):=fun i hi=>by
   have:=TB (l:=(x.ah.map (dN false)).drop 1) (i:=i) (by rw[List.length_drop,List.length_map];omega);rw[List.getElem_drop,List.getElem_map] at this;rw[hT];simp only[Nat.add_comm 1 i] at this ⊢;exact this
  have hTe:T (x.ah.length-1)=((x.ah.map (dN false)).drop 1).map ak.enc:=by
   rw[hT];simp only
   rw[List.take_of_length_le (by simp)]
  have hTn:(T (x.ah.length-1)).length=x.ah.length-1:=by rw[hTe];simp
  have hTd:(T (x.ah.length-1)).drop 1=((x.ah.map (dN false)).drop 2).map ak.enc:=by rw[hTe,<-List.map_drop,List.drop_drop]
  clear hT;refine W3 ?_;refine ni 4 3 [] rfl (by simp) ?_
  refine aT (ι:=Nat) zmx rfl [1,2,3,4,5] (fun i=>[.c (.ptr (0,0) 0),.c (.ptr (0,1) 0),.c (.d (.s x.ah[0].aO)),.c (.bN (0,2) (T i)),.c (.d (.i .i64 ((i+1:Nat):Int)))])
   (fun i=>[.box [.d (.s x.aO),.d (.sl (x.ah.map aj.enc))],.box [.d (.i .i64 0),.d (.s []),.bE []],.tok 3 (T i)]::S)
   (fun i=>i+1<=x.ah.length) (fun i=>x.ah.length-(i+1)) 0 (by rw[hT0];rfl) (by rw[hT0];rfl) (by omega) ?_
  intro i hi;have hl:=iI i;refine W1 ?_;refine S0 (fun hb h=>?_) fun hb h=>?_
  ·have hi':i+1<x.ah.length:=by omega
   have hm:=List.getElem_mem hi';have hs:=hTs i hi';refine W3 ?_;refine aX (ih x.ah[i+1] (by have:=List.sizeOf_lt_of_mem hm;omega) (hall _ hm)) ?_;simp -implicitDefEqProofs (disch:=omega) only[go_sem,ak.aA];refine W3 ?_;rw[hs];exact bF (i+1) (by omega) rfl rfl (by omega)
  have hi':i=x.ah.length-1:=by omega
  subst hi';have hrows:=hTr (x.ah.length-1);have hta:((T (x.ah.length-1)).take (x.ah.length-1))=T (x.ah.length-1):=List.take_of_length_le (by omega);rw[a0,a1] at hx;have tD:x.ah[0].aO=[100,121,110]/\x.ah.length=2/\x.ah[1].aO≠[]->dN false x=.mk 4 x.ah[1].aO []:=fun e=>hx.trans (if_pos ⟨e.1,.inr e.2⟩)
  have tA:x.ah[0].aO=[97,115,115,111,99]/\x.ah.length=3/\x.ah[1].aO≠[]->dN false x=.mk 3 x.ah[1].aO ((x.ah.map (dN false)).drop 2):=fun e=>by
   rw[hx,if_neg (fun e'=>by have:=e'.1.symm.trans e.1;revert this;decide),if_pos ⟨e.1,.inr e.2⟩]
  have tN:¬(x.ah[0].aO=[100,121,110]/\x.ah.length=2/\x.ah[1].aO≠[])->¬(x.ah[0].aO=[97,115,115,111,99]/\x.ah.length=3/\x.ah[1].aO≠[])->dN false x=.mk 2 x.ah[0].aO ((x.ah.map (dN false)).drop 1):=fun e1 e2=>by
   rw[hx,if_neg (fun e'=>e1 ⟨e'.1,e'.2.resolve_left (by decide)⟩),if_neg (fun e'=>e2 ⟨e'.1,e'.2.resolve_left (by decide)⟩)]
  clear hx hTs ih
  repeat' (first|(refine S0 (fun hb h=>?_) fun hb h=>?_))
  all_goals first
   |(refine⟨⟨by omega,by omega,hrows⟩,?_⟩;refine aoe (tA ⟨by assumption,by omega,by assumption⟩) ?_;rw[hTn,hta,hTd];exact gy _)
   |exact akD (tD ⟨by assumption,by omega,by assumption⟩)
   |(refine aoe (tN (fun⟨a,b,c⟩=>by first|contradiction|omega) (fun⟨a,b,c⟩=>by first|contradiction|omega)) ?_;rw[hTe];exact gy _)
   |trace_state
theorem qO(x:aj)(hsz:x.sz<=4194304):aH prog 115 [x.v] (dN false x).v:=Jk _ x (Nat.lt_succ_self _) hsz
theorem Jl(xs:List aj)(hlen:xs.length<=4194304)(hsz:∀t∈xs,t.sz<=4194304):aH prog 206 [.c (.d (.sl (xs.map aj.enc)))] (.c (.d (.sl ((xs.map (dN false)).map ak.enc)))):=fun S=>by
 refine zcx [.tmp 2] func206 ntmps206 ?_;refine W1 ?_;refine W3 ?_;refine ni 3 3 [] rfl (by simp) ?_
 refine aT (ι:=Nat) zmx rfl [0,3,4] (fun i=>[.c (.d (.sl (xs.map aj.enc))),.c (.bN (0,0) (((xs.map (dN false)).take i).map ak.enc)),.c (.d (.i .i64 i))]) (fun i=>[.tok 3 (((xs.map (dN false)).take i).map ak.enc)]::S)
  (fun i=>i<=xs.length) (fun i=>xs.length-i) 0 rfl rfl (Nat.zero_le _) ?_
 intro i hi
 have hl:(((xs.map (dN false)).take i).map ak.enc).length<=i:=by rw[List.length_map];exact List.length_take_le _ _
 refine W1 ?_;refine S0 (fun hb h=>?_) fun hb h=>?_
 ·have hi':i<xs.length:=by omega
  have hs:=TB (l:=xs.map (dN false)) (i:=i) (by rw[List.length_map];exact hi');rw[List.getElem_map] at hs;refine W3 ?_;refine C1 (qO xs[i] (hsz _ (List.getElem_mem hi'))) ?_;refine W3 ?_;rw[hs];exact bF (i+1) (by omega) rfl rfl (by omega)
 ·have hi':i=(xs.map (dN false)).length:=by rw[List.length_map];omega
  rw[hi',List.take_length]
theorem Qb(s:List UInt8)(hs:s.length<=1073741824):aH prog 300 [.c (.d (.s s)),.c (.d (.s [39]))] (.c (.d (.b (decide (s.head? =some 39))))):=fun S=>by
 refine zcx [.tmp 4] func300 ntmps300 ?_;refine W1 ?_;refine S0 (fun hb h=>?_) fun hb h=>?_
 ·exact ay (decide_eq_decide.2 (ZK (by omega)))
 ·have:s=[]:=List.eq_nil_of_length_eq_zero (by omega);subst this;rfl
theorem Qc(s:List UInt8)(hs:s.length<=1073741824):aH prog 258 [.c (.d (.s s)),.c (.d (.s [39]))] (.dL [(false,[.d (.s (if s.head? =some 39 then s.tail else s))]),(false,[.d (.b (decide (s.head? =some 39)))])]):=fun S=>by
 refine zcx [.tmp 4,.tmp 5] func258 ntmps258 ?_;refine W1 ?_;refine C1 (Qb s hs) ?_;refine S0 (fun hb h=>?_) fun hb h=>?_
 ·rw[if_neg h,decide_eq_false h]
 ·have hl:0<s.length:=by
   cases s with
   |nil=>cases h
   |cons _ _=>simp
  refine W3 ?_;rw[if_pos h,decide_eq_true h,P9 _ _ (Nat.le_refl _)]
theorem XL(s:List UInt8)(hs:s.length<=1073741824):aH prog 192 [.c (.d (.s s)),.c (.d (.s [39]))] (.dL [(false,[.d (.s (if s.head? =some 39 then s.tail else s))]),(false,[.d (.b (decide (s.head? =some 39)))])]):=fun S=>by
 refine zcx [.tmp 4,.tmp 5] func192 ntmps192 ?_;refine W1 ?_;exact C3 (Qc s hs)
theorem Af(xs:List aj)(hx:xs.length<=1073741824)(n:Nat):aH prog 81 [.c (.d (.sl (xs.map aj.enc)))] (.dL [(false,[.d (.ol n ((fq xs).map encS))]),(false,[.d (.b (allA xs))])]):=aH.of_le fun S=>by
 refine lY (n) (rs:=[.tmp 2,.tmp 3]) zmx func81 ntmps81 rfl rfl rfl rfl rfl ?_;refine W1 ?_;refine W3 ?_;refine mX n 4 1 [] (.inl rfl) (by simp) ?_
 refine aT (ι:=Nat) zmx rfl [4,8,9,10] (fun i=>[.c (.bN (0,1) ((xs.take i).map zy)),.c (.d (.sl (xs.map aj.enc))),.c (.d (.i .i64 xs.length)),.c (.d (.i .i64 i))]) (fun i=>[.seed n,.fu n 1 ((xs.take i).map zy)]::S)
  (fun i=>i<=xs.length/\∀j,∀hj:j<xs.length,j<i->xs[j].aO≠[]) (fun i=>xs.length-i) 0 rfl rfl ⟨Nat.zero_le _,fun j _ h=>by omega⟩ ?_
 rintro i ⟨p1,p2⟩;have hl:=MP (l:=xs) (i:=i);simp -implicitDefEqProofs (disch:=omega) only[go_sem,aj.aA];refine S0 (fun hb h=>?_) fun hb h=>?_
 ·have hi':i<xs.length:=by omega
  have hs:=KN hi';refine W3 ?_;refine S0 (fun hb h=>?_) fun hb h=>?_
  ·obtain⟨e1,e2⟩:=aaI hi' h;rw[e1,e2];exact(iw.cons (.cons (dR n) .nil) (.refl _)).less
  ·refine W3 ?_;rw[hs];refine bX 2 (by decide) (i+1) (by omega) rfl rfl rfl rfl ⟨by omega,fun j hj hji=> ?_⟩;by_cases e':j=i
   ·subst e';exact h
   ·exact p2 j hj (by omega)
 ·have hi':i=xs.length:=by omega
  subst hi';obtain⟨e1,e2⟩:=XK fun j hj=>p2 j hj hj;rw[e1,e2,List.take_length];exact gy _
theorem rA(x:aj)(hx:x.sz<=4194304)(n:Nat):aH prog 219 [x.v] (.c (.d (.ol n ((fq x.ah).map encS)))):=fun S=>by
 have:=eG x;refine zcx [.tmp 2] func219 ntmps219 ?_;refine W1 ?_;exact C3 (Af x.ah (by omega) n)
theorem ZL(s:List UInt8)(n:Nat):aH prog 193 [.c (.d (.s s))] (.agg [.d (.i .i64 1),.d (.s s),.d (.ol n [])]):=aH.of_le fun S=>by
 refine zcx [.cell 2 24] func193 ntmps193 ?_;refine W1 ?_;refine W3 ?_;exact RF _ _ _
theorem ZM(s:List UInt8)(n:Nat):aH prog 194 [.c (.d (.s s))] (.agg [.d (.i .i64 4),.d (.s s),.d (.ol n [])]):=aH.of_le fun S=>by
 refine zcx [.cell 2 24] func194 ntmps194 ?_;refine W1 ?_;refine W3 ?_;exact RF _ _ _
theorem CP:∀N:Nat,(∀x:aj,SizeOf.sizeOf x<N->∀n:Nat,x.sz<=4194304->aH prog 132 [x.v] ((dN true x).vl n))/\
 (∀xs:List aj,SizeOf.sizeOf xs<N->∀n q:Nat,xs.length<=4194304->(∀t∈xs,t.sz<=4194304)->aH prog 195 [.c (.d (.sl (xs.map aj.enc)))] (.c (.d (.ol n (lt (xs.map (dN true)) q)))))
 |0=>⟨fun x h=>by omega,fun x h=>by omega⟩
 |N+1=>by
  obtain⟨ih,qU⟩:=CP N;refine⟨fun x hn n hsz=>aH.of_le fun S=> ?_,fun xs hn n q hlen hsz S=> ?_⟩
  ·have j3:=aj.wh x;have h1:=eG x;have h2:=AZ x;have hx:=aaF true x
   have hall:∀t∈x.ah,t.sz<=4194304:=fun t ht=>by have:=iT ht;omega
   refine zcx [.cell 2 24] func132 ntmps132 ?_;refine W1 ?_;refine S0 (fun hb h=>?_) fun hb h=>?_
   ·rw[if_neg h] at hx;refine C1 (XL x.aO (by omega)) ?_;refine S0 (fun hb h=>?_) fun hb h=>?_
    ·rw[if_pos h] at hx ⊢;refine C1 (ZL _ n) ?_;exact agf hx
    ·rw[if_neg h] at hx;refine W3 ?_;exact agd hx
   rw[if_pos h] at hx;refine S0 (fun hb h=>?_) fun hb h=>?_
   ·rw[if_pos (by omega)] at hx;exact agd hx
   rw[if_neg (by omega)] at hx
   have hl2:2<=x.ah.length:=by omega
   have a0:=jL (l:=x.ah) (i:=0) (by omega);have a1:=jL (l:=x.ah) (i:=1) (by omega);rw[a0,a1] at hx;have hr:=gV (l:=x.ah);have hd:=fun i=>pG x.ah x.ah.length i (Nat.le_refl _);have hso:=fun i=>BI i x.ah
   have hdl:∀i,(x.ah.drop i).length<=4194304:=fun i=>by rw[List.length_drop];omega
   have hda:∀i,∀t∈x.ah.drop i,t.sz<=4194304:=fun i t ht=>hall t (List.mem_of_mem_drop ht);refine W3 ?_;refine S0 (fun hb h=>?_) fun hb h=>?_
   ·have hx:=hx.trans (if_pos ⟨h,.inl rfl⟩);refine W3 ?_;refine C1 (ZM _ n) ?_;exact agf hx
   have hx:=hx.trans (if_neg fun e=>h e.1);refine S0 (fun hb h=>?_) fun hb h=>?_
   ·have hx:=hx.trans (if_pos ⟨h,.inl rfl⟩);refine⟨⟨by omega,by omega,hr⟩,?_⟩;rw[hd];refine C1 (qU (x.ah.drop 2) (by have:=hso 2;omega) n (n+1) (hdl 2) (hda 2)) ?_;refine akF hx ?_;rw[List.map_drop];exact gy _
   ·have hx:=hx.trans (if_neg fun e=>h e.1);refine⟨⟨by omega,by omega,hr⟩,?_⟩;rw[hd];refine C1 (qU (x.ah.drop 1) (by have:=hso 1;omega) n (n+1) (hdl 1) (hda 1)) ?_;refine akF hx ?_;rw[List.map_drop];exact gy _
  ·have Dp:=fun(i:Nat) (hi:i<xs.length)=>amj (l:=xs.map (dN true)) (i:=i) (by rw[List.length_map];exact hi) q;refine lY (n) (rs:=[.tmp 2]) zmx func195 ntmps195 rfl rfl rfl rfl rfl ?_;refine W1 ?_;refine W3 ?_;refine mX n 3 3 [] (.inl rfl) (by simp) ?_
   refine aT (ι:=Nat) zmx rfl [3,7,8,9] (fun i=>[.c (.bN (0,1) (lt ((xs.map (dN true)).take i) q)),.c (.d (.sl (xs.map aj.enc))),.c (.d (.i .i64 xs.length)),.c (.d (.i .i64 i))]) (fun i=>[.seed n,.fu n 3 (lt ((xs.map (dN true)).take i) q)]::S)
    (fun i=>i<=xs.length) (fun i=>xs.length-i) 0 rfl rfl (Nat.zero_le _) ?_
   intro i hi;simp -implicitDefEqProofs (disch:=omega) only[go_sem,aj.aA];refine S0 (fun hb h=>?_) fun hb h=>?_
   ·have hi':i<xs.length:=by omega
    have hs:=Dp i hi';rw[List.getElem_map] at hs
    have hl:(lt ((xs.map (dN true)).take i) q).length<=i:=by rw[agc];exact List.length_take_le _ _
    refine W3 ?_;refine C1 (ih xs[i] (by have:=List.sizeOf_lt_of_mem (List.getElem_mem hi');omega) (q+fZ ((xs.map (dN true)).take i)) (hsz _ (List.getElem_mem hi'))) ?_;refine W3 ?_;rw[hs];exact bX 2 (by decide) (i+1) (by omega) rfl rfl rfl rfl (by omega)
   ·have hi':i=(xs.map (dN true)).length:=by rw[List.length_map];omega
    rw[hi',List.take_length]
theorem rC(x:aj)(n:Nat)(hsz:x.sz<=4194304):aH prog 132 [x.v] ((dN true x).vl n):=(CP _).1 x (Nat.lt_succ_self _) n hsz
theorem GJ(xs:List aj)(n q:Nat)(hlen:xs.length<=4194304)(hsz:∀t∈xs,t.sz<=4194304):aH prog 195 [.c (.d (.sl (xs.map aj.enc)))] (.c (.d (.ol n (lt (xs.map (dN true)) q)))):=(CP _).2 xs (Nat.lt_succ_self _) n q hlen hsz
theorem vI(x:aj)(s:List UInt8)(k:Nat)(hk:1<=k)(hk2:k<=100)(hsz:x.sz<=4194304):aH prog 80 [x.v,.c (.d (.s s)),.c (.d (.i .i64 k))] (.c (.d (.b (dec (fQ x=true/\k<=x.ah.length/\dJ x.ah 0=s))))):=fun S=>by
 have h1:=eG x;obtain⟨t,ht⟩:∃t,t=dec (fQ x=true/\k<=x.ah.length/\dJ x.ah 0=s):=⟨_,rfl⟩;rw[<-ht];refine zcx [.tmp 6] func80 ntmps80 ?_;refine W1 ?_;refine C1 (Jf x (by omega)) ?_;refine S0 (fun hb h=>?_) fun hb h=>?_
 ·have hv:=h;refine S0 (fun hb h=>?_) fun hb h=>?_
  ·have hl:0<x.ah.length:=by omega
   have hl2:k<=x.ah.length:=by omega
   have a0:=jL hl;refine W3 ?_;refine ay ?_;rw[kE,ht];exact iB ⟨fun e=>⟨hv,hl2,by rw[a0];exact e⟩,fun e=>by rw[<-a0];exact e.2.2⟩
  ·exact ay (ht.trans (aB fun e=>by omega)).symm
 ·exact ay (ht.trans (aB fun e=>by rw[e.1] at h;cases h)).symm
theorem qZ(b:Bool)(x:aj):eY b x=if x.aO=[] then
 if b=true/\(x.ah.length<2\/dJ x.ah 0=jy/\x.ah.length<3) then mF
 else if dJ x.ah 0=qy then .mk 4 [] (dJ x.ah 1) 0 jh ((x.ah.map (eY b)).drop 2) []
 else if dJ x.ah 0=uj then .mk 6 [] (dJ x.ah 1) 0 jh ((x.ah.map (eY b)).drop 2) []
 else if dJ x.ah 0=um then .mk 8 [] (dJ x.ah 1) 0 jh ((x.ah.map (eY b)).drop 2) []
 else if dJ x.ah 0=qz then .mk 11 (dJ x.ah 1) [] 0 jh ((x.ah.map (eY b)).drop 2) []
 else if dJ x.ah 0=jy then .mk 5 (dJ x.ah 1) (dJ x.ah 2) 0 jh ((x.ah.map (eY b)).drop 3) []
 else if dJ x.ah 0=yD then .mk 9 [] [] 0 jh ((x.ah.map (eY b)).drop 1) []
 else if dJ x.ah 0=uP then .mk 12 [] [] 0 (dN b (x.ah.getD 1 bZ)) ((x.ah.map (eY b)).drop 2) []
 else if dJ x.ah 0=lS then .mk 7 [] [] 0 jh (((x.ah.map (eY b)).drop 1).take 1) ((x.ah.map (sK b)).drop 2)
 else .mk 10 [] (dJ x.ah 0) 0 jh ((x.ah.map (eY b)).drop 1) []
 else match iA x.aO with
  |some n=>.mk 1 [] [] n jh [] []
  |none=>if x.aO=BH then .mk 2 [] [] 1 jh [] [] else if x.aO=Ad then .mk 2 [] [] 0 jh [] [] else .mk 3 [] x.aO 0 jh [] []:=by
 cases x;rw[eY,Cm,Fe];rfl
theorem aaK(b:Bool)(x:aj)(h:2<=x.ah.length):sK b x=.mk (dJ x.ah 0) (fq ((x.ah.drop 1).dropLast)) (eY b (x.ah[x.ah.length-1]'(by omega))):=by
 obtain⟨a,l⟩:=x;simp only[aj.ah] at h ⊢;rw[sK,if_neg (by omega),Cm];congr 1;rw[List.getLastD_eq_getLast?,List.getLast?_eq_getElem?,List.length_map,List.getElem?_eq_getElem (by rw[List.length_map];omega)]
 simp
theorem aaL(b:Bool)(x:aj)(h:x.ah.length<2):sK b x=.mk [] [] mF:=by
 obtain⟨a,l⟩:=x;rw[sK];exact if_pos h
def yI(b:Bool)(l:List aj):Prop:=¬(b=true/\(l.length<2\/dJ l 0=jy/\l.length<3))
theorem TD{b:Bool}{x:aj}(ha:x.aO=[])(hg:yI b x.ah)(h:dJ x.ah 0=qy):eY b x=.mk 4 [] (dJ x.ah 1) 0 jh ((x.ah.drop 2).map (eY b)) []:=by
 rw[qZ,if_pos ha,if_neg hg,if_pos h];simp only[List.map_drop,List.map_take]
theorem XM{b:Bool}{x:aj}(ha:x.aO=[])(hg:yI b x.ah)(h:dJ x.ah 0=uj):eY b x=.mk 6 [] (dJ x.ah 1) 0 jh ((x.ah.drop 2).map (eY b)) []:=by
 rw[qZ,if_pos ha,if_neg hg,if_neg (by rw[h];decide),if_pos h];simp only[List.map_drop,List.map_take]
theorem XO{b:Bool}{x:aj}(ha:x.aO=[])(hg:yI b x.ah)(h:dJ x.ah 0=um):eY b x=.mk 8 [] (dJ x.ah 1) 0 jh ((x.ah.drop 2).map (eY b)) []:=by
 rw[qZ,if_pos ha,if_neg hg,if_neg (by rw[h];decide),if_neg (by rw[h];decide),if_pos h];simp only[List.map_drop,List.map_take]
theorem TF{b:Bool}{x:aj}(ha:x.aO=[])(hg:yI b x.ah)(h:dJ x.ah 0=qz):eY b x=.mk 11 (dJ x.ah 1) [] 0 jh ((x.ah.drop 2).map (eY b)) []:=by
 rw[qZ,if_pos ha,if_neg hg,if_neg (by rw[h];decide),if_neg (by rw[h];decide),if_neg (by rw[h];decide),if_pos h];simp only[List.map_drop,List.map_take]
theorem MQ{b:Bool}{x:aj}(ha:x.aO=[])(hg:yI b x.ah)(h:dJ x.ah 0=jy):eY b x=.mk 5 (dJ x.ah 1) (dJ x.ah 2) 0 jh ((x.ah.drop 3).map (eY b)) []:=by
 rw[qZ,if_pos ha,if_neg hg,if_neg (by rw[h];decide),if_neg (by rw[h];decide),if_neg (by rw[h];decide),if_neg (by rw[h];decide),if_pos h];simp only[List.map_drop,List.map_take]
theorem aaM{b:Bool}{x:aj}(ha:x.aO=[])(hg:yI b x.ah)(h:dJ x.ah 0=yD):eY b x=.mk 9 [] [] 0 jh ((x.ah.drop 1).map (eY b)) []:=by
 rw[qZ,if_pos ha,if_neg hg,if_neg (by rw[h];decide),if_neg (by rw[h];decide),if_neg (by rw[h];decide),if_neg (by rw[h];decide),if_neg (by rw[h];decide),if_pos h];simp only[List.map_drop,List.map_take]
theorem XP{b:Bool}{x:aj}(ha:x.aO=[])(hg:yI b x.ah)(h:dJ x.ah 0=uP):eY b x=.mk 12 [] [] 0 (dN b (x.ah.getD 1 bZ)) ((x.ah.drop 2).map (eY b)) []:=by
 rw[qZ,if_pos ha,if_neg hg,if_neg (by rw[h];decide),if_neg (by rw[h];decide),if_neg (by rw[h];decide),if_neg (by rw[h];decide),if_neg (by rw[h];decide),if_neg (by rw[h];decide),if_pos h];simp only[List.map_drop,List.map_take]
theorem TG{b:Bool}{x:aj}(ha:x.aO=[])(hg:yI b x.ah)(h:dJ x.ah 0=lS):eY b x=.mk 7 [] [] 0 jh (((x.ah.drop 1).take 1).map (eY b)) ((x.ah.drop 2).map (sK b)):=by
 rw[qZ,if_pos ha,if_neg hg,if_neg (by rw[h];decide),if_neg (by rw[h];decide),if_neg (by rw[h];decide),if_neg (by rw[h];decide),if_neg (by rw[h];decide),if_neg (by rw[h];decide),if_neg (by rw[h];decide),if_pos h];simp only[List.map_drop,List.map_take]
theorem TH{b:Bool}{x:aj}(ha:x.aO=[])(hg:yI b x.ah)(h0:dJ x.ah 0≠qy)(h1:dJ x.ah 0≠uj)(h2:dJ x.ah 0≠um)(h3:dJ x.ah 0≠qz)(h4:dJ x.ah 0≠jy)(h5:dJ x.ah 0≠yD)(h6:dJ x.ah 0≠uP)(h7:dJ x.ah 0≠lS):eY b x=.mk 10 [] (dJ x.ah 0) 0 jh ((x.ah.drop 1).map (eY b)) []:=by
 rw[qZ,if_pos ha,if_neg hg,if_neg h0,if_neg h1,if_neg h2,if_neg h3,if_neg h4,if_neg h5,if_neg h6,if_neg h7];simp only[List.map_drop,List.map_take]
theorem TI{x:aj}(ha:x.aO=[])(hg:¬yI true x.ah):eY true x=mF:=by
 rw[qZ,if_pos ha,if_pos (Decidable.not_not.1 hg)]
theorem XQ{b:Bool}{x:aj}{n:Int}(ha:x.aO≠[])(h:iA x.aO=some n):eY b x=.mk 1 [] [] n jh [] []:=by
 rw[qZ,if_neg ha,h]
theorem TJ{b:Bool}{x:aj}(ha:x.aO≠[])(h:iA x.aO=none)(h1:x.aO=BH):eY b x=.mk 2 [] [] 1 jh [] []:=by
 rw[qZ,if_neg ha,h];exact if_pos h1
theorem Qd{b:Bool}{x:aj}(ha:x.aO≠[])(h:iA x.aO=none)(h1:x.aO≠BH)(h2:x.aO=Ad):eY b x=.mk 2 [] [] 0 jh [] []:=by
 rw[qZ,if_neg ha,h];exact(if_neg h1).trans (if_pos h2)
theorem XR{b:Bool}{x:aj}(ha:x.aO≠[])(h:iA x.aO=none)(h1:x.aO≠BH)(h2:x.aO≠Ad):eY b x=.mk 3 [] x.aO 0 jh [] []:=by
 rw[qZ,if_neg ha,h];exact(if_neg h1).trans (if_neg h2)
def lE(l:List au)(n:Nat):List (List D):=dO (l.map au.enc) n
def lT(l:List au):Nat:=iH (l.map au.enc)
def lM(l:List aR)(n:Nat):List (List D):=dO (l.map aR.enc) n
def adn(l:List aR):Nat:=iH (l.map aR.enc)
abbrev au.vl(x:au)(n:Nat):V:=.agg [.d (.i .i64 x.aK),.d (.s x.bC),.d (.s x.fName),.d (.i .i64 x.fN),.d (.i .i64 x.fType.aK),.d (.s x.fType.fName),.d (.ol n (lt x.fType.fArgs (n+1))),
 .d (.ol (n+(fZ x.fType.fArgs+1)) (lE x.fArgs (n+(fZ x.fType.fArgs+1)+1))),.d (.ol (n+(fZ x.fType.fArgs+1)+(lT x.fArgs+1)) (lM x.aQ (n+(fZ x.fType.fArgs+1)+(lT x.fArgs+1)+1)))]
theorem XT(x:au)(n:Nat):eT x.enc n=[.i .i64 x.aK,.s x.bC,.s x.fName,.i .i64 x.fN,.i .i64 x.fType.aK,.s x.fType.fName,.ol n (lt x.fType.fArgs (n+1)),
 .ol (n+(fZ x.fType.fArgs+1)) (lE x.fArgs (n+(fZ x.fType.fArgs+1)+1)),.ol (n+(fZ x.fType.fArgs+1)+(lT x.fArgs+1)) (lM x.aQ (n+(fZ x.fType.fArgs+1)+(lT x.fArgs+1)+1))]:=by
 simp only[au.aA,ak.aA,List.cons_append,List.nil_append,eT,nL,qd,Nat.add_zero,lt,lE,lM,fZ,lT]
theorem ajE(x:aR)(n:Nat):eT x.enc n=[.s x.dM,.ol n (x.aG.map encS)]++eT x.fBody.enc (n+1):=by
 rw[aR.aA,MI];simp only[eT,nL,wJ,qd,Nat.add_zero,vG,xG,Nat.zero_add]
abbrev aR.vl(x:aR)(n:Nat):V:=.agg [.d (.s x.dM),.d (.ol n (x.aG.map encS)),.d (.i .i64 x.fBody.aK),.d (.s x.fBody.bC),.d (.s x.fBody.fName),.d (.i .i64 x.fBody.fN),.d (.i .i64 x.fBody.fType.aK),.d (.s x.fBody.fType.fName),.d (.ol (n+1) (lt x.fBody.fType.fArgs (n+1+1))),
 .d (.ol (n+1+(fZ x.fBody.fType.fArgs+1)) (lE x.fBody.fArgs (n+1+(fZ x.fBody.fType.fArgs+1)+1))),.d (.ol (n+1+(fZ x.fBody.fType.fArgs+1)+(lT x.fBody.fArgs+1)) (lM x.fBody.aQ (n+1+(fZ x.fBody.fType.fArgs+1)+(lT x.fBody.fArgs+1)+1)))]
theorem agh(l:List au)(n:Nat):(lE l n).length=l.length:=by unfold lE;rw[jV,List.length_map]
theorem agi(l:List aR)(n:Nat):(lM l n).length=l.length:=by unfold lM;rw[jV,List.length_map]
theorem amk{l:List au}{i:Nat}(hi:i<l.length)(n:Nat):lE (l.take i) n++[eT l[i].enc (n+lT (l.take i))]=lE (l.take (i+1)) n:=by
 rw[List.take_succ_eq_append_getElem hi];unfold lE lT;rw[List.map_append,oF];rfl
theorem aml{l:List aR}{i:Nat}(hi:i<l.length)(n:Nat):lM (l.take i) n++[eT l[i].enc (n+adn (l.take i))]=lM (l.take (i+1)) n:=by
 rw[List.take_succ_eq_append_getElem hi];unfold lM adn;rw[List.map_append,oF];rfl
theorem agj{l:List au}{i:Nat}(hi:i<l.length):(l.take i).map au.enc++[l[i].enc]=(l.take (i+1)).map au.enc:=by
 rw[List.take_succ_eq_append_getElem hi,List.map_append];rfl
theorem agk{l:List aR}{i:Nat}(hi:i<l.length):(l.take i).map aR.enc++[l[i].enc]=(l.take (i+1)).map aR.enc:=by
 rw[List.take_succ_eq_append_getElem hi,List.map_append];rfl
theorem ie0{x:au}{n:Nat}{k N:Int}{tr nm:List UInt8}(h:x=.mk k tr nm N jh [] []):Less (.agg [.d (.i .i64 k),.d (.s tr),.d (.s nm),.d (.i .i64 N),.d (.i .i64 0),.d (.s []),.bE [],.bE [],.bE []]) (x.vl n):=by
 rw[h];exact(fK.cons (.refl _) (.cons (.refl _) (.cons (.refl _) (.cons (.refl _) (.cons (.refl _) (.cons (.refl _) (.cons (dR _) (.cons (dR _) (.cons (dR _) .nil))))))))).less
theorem XU{x:au}{n:Nat}{k N:Int}{tr nm:List UInt8}{args:List au}(h:x=.mk k tr nm N jh args []):Less (.agg [.d (.i .i64 k),.d (.s tr),.d (.s nm),.d (.i .i64 N),.d (.i .i64 0),.d (.s []),.bE [],.d (.ol (n+1) (lE args (n+1+1))),.bE []]) (x.vl n):=by
 rw[h];exact(fK.cons (.refl _) (.cons (.refl _) (.cons (.refl _) (.cons (.refl _) (.cons (.refl _) (.cons (.refl _) (.cons (dR _) (.cons (.refl _) (.cons (dR _) .nil))))))))).less
theorem ie2{x:au}{n:Nat}{k N:Int}{tr nm:List UInt8}{ty:ak}{args:List au}(h:x=.mk k tr nm N ty args []):Less (.agg [.d (.i .i64 k),.d (.s tr),.d (.s nm),.d (.i .i64 N),.d (.i .i64 ty.aK),.d (.s ty.fName),.d (.ol n (lt ty.fArgs (n+1))),.d (.ol (n+(fZ ty.fArgs+1)) (lE args (n+(fZ ty.fArgs+1)+1))),.bE []]) (x.vl n):=by
 rw[h];exact(fK.cons (.refl _) (.cons (.refl _) (.cons (.refl _) (.cons (.refl _) (.cons (.refl _) (.cons (.refl _) (.cons (.refl _) (.cons (.refl _) (.cons (dR _) .nil))))))))).less
theorem ie3{x:au}{n:Nat}{k N:Int}{tr nm:List UInt8}{args:List au}{arms:List aR}(h:x=.mk k tr nm N jh args arms):Less (.agg [.d (.i .i64 k),.d (.s tr),.d (.s nm),.d (.i .i64 N),.d (.i .i64 0),.d (.s []),.bE [],.d (.ol (n+1) (lE args (n+1+1))),.d (.ol (n+1+(lT args+1)) (lM arms (n+1+(lT args+1)+1)))]) (x.vl n):=by
 rw[h];exact(fK.cons (.refl _) (.cons (.refl _) (.cons (.refl _) (.cons (.refl _) (.cons (.refl _) (.cons (.refl _) (.cons (dR _) (.cons (.refl _) (.cons (.refl _) .nil))))))))).less
theorem se0{x:au}{k N:Int}{tr nm:List UInt8}(h:x=.mk k tr nm N jh [] []):Less (.agg [.d (.i .i64 k),.d (.s tr),.d (.s nm),.d (.i .i64 N),.d (.i .i64 0),.d (.s []),.bE [],.bE [],.bE []]) x.v:=by
 rw[h];exact(fK.cons (.refl _) (.cons (.refl _) (.cons (.refl _) (.cons (.refl _) (.cons (.refl _) (.cons (.refl _) (.cons (eU _) (.cons (eU _) (.cons (eU _) .nil))))))))).less
theorem XV{x:au}{k N:Int}{tr nm:List UInt8}{args:List au}(h:x=.mk k tr nm N jh args []):Less (.agg [.d (.i .i64 k),.d (.s tr),.d (.s nm),.d (.i .i64 N),.d (.i .i64 0),.d (.s []),.bE [],.d (.sl (args.map au.enc)),.bE []]) x.v:=by
 rw[h];exact(fK.cons (.refl _) (.cons (.refl _) (.cons (.refl _) (.cons (.refl _) (.cons (.refl _) (.cons (.refl _) (.cons (eU _) (.cons (.refl _) (.cons (eU _) .nil))))))))).less
theorem se2{x:au}{k N:Int}{tr nm:List UInt8}{ty:ak}{args:List au}(h:x=.mk k tr nm N ty args []):Less (.agg [.d (.i .i64 k),.d (.s tr),.d (.s nm),.d (.i .i64 N),.d (.i .i64 ty.aK),.d (.s ty.fName),.d (.sl (ty.fArgs.map ak.enc)),.d (.sl (args.map au.enc)),.bE []]) x.v:=by
 rw[h];exact(fK.cons (.refl _) (.cons (.refl _) (.cons (.refl _) (.cons (.refl _) (.cons (.refl _) (.cons (.refl _) (.cons (.refl _) (.cons (.refl _) (.cons (eU _) .nil))))))))).less
theorem se3{x:au}{k N:Int}{tr nm:List UInt8}{args:List au}{arms:List aR}(h:x=.mk k tr nm N jh args arms):Less (.agg [.d (.i .i64 k),.d (.s tr),.d (.s nm),.d (.i .i64 N),.d (.i .i64 0),.d (.s []),.bE [],.d (.sl (args.map au.enc)),.d (.sl (arms.map aR.enc))]) x.v:=by
 rw[h];exact(fK.cons (.refl _) (.cons (.refl _) (.cons (.refl _) (.cons (.refl _) (.cons (.refl _) (.cons (.refl _) (.cons (eU _) (.cons (.refl _) (.cons (.refl _) .nil))))))))).less
theorem ZN(l:List aj)(i:Nat):((l.map aj.enc).take l.length).drop (min i l.length)=(l.drop i).map aj.enc:=by
 rw[pG _ _ _ (Nat.le_refl _)];by_cases h:i<=l.length
 ·rw[Nat.min_eq_left h]
 ·rw[Nat.min_eq_right (by omega),List.drop_length,List.drop_of_length_le (by omega)]
theorem amm(l:List aj):((l.map aj.enc).take (min 2 l.length)).drop 1=((l.drop 1).take 1).map aj.enc:=by
 match l with
 |[]=>rfl
 |[x]=>rfl
 |x::y::l=>simp[show min 2 (l.length+1+1)=2 by omega]
theorem ado(l:List aj)(i:Nat)(h:i<l.length+3):(l.map aj.enc++([[.s [],.sl []],[.s [],.sl []],[.s [],.sl []]]:List (List D))).getD i []=[.s (dJ l i),.sl ((l.getD i bZ).ah.map aj.enc)]:=by
 rw[List.getD_eq_getElem?_getD,List.getElem?_append];split
 ·rename_i hi;rw[List.length_map] at hi;rw[List.getElem?_map,List.getElem?_eq_getElem hi];simp only[Option.map_some,Option.getD_some];rw[aj.aA,jL hi,List.getD_eq_getElem?_getD,List.getElem?_eq_getElem hi];rfl
 ·rename_i hi;rw[List.length_map] at hi;rw[GA (by omega),List.getD_eq_getElem?_getD,List.getElem?_eq_none (by omega:l.length<=i),List.length_map]
  have:i-l.length=0\/i-l.length=1\/i-l.length=2:=by omega
  rcases this with e|e|e<;>rw[e]<;>rfl
theorem TK(l:List aj)(h:2<=l.length):((l.map aj.enc).take ((l.length:Int)-1).toNat).drop 1=((l.drop 1).dropLast).map aj.enc:=by
 rw[show((l.length:Int)-1).toNat=l.length-1 by omega,<-List.map_take,<-List.map_drop,List.dropLast_eq_take,List.length_drop,List.drop_take]
theorem vJ(x:aj)(i:Nat){m:Nat}(h:x.sz<=m):(x.ah.getD i bZ).sz<=m:=by
 have:=xE x.ah i;have:=eG x;omega
theorem xH{l:List aj}(h:jA l=true){t:aj}(ht:t∈l):iO t=true:=Dm.1 h t ht
theorem tT{l:List aj}(h:jA l=true)(i:Nat):jA (l.drop i)=true:=Dm.2 fun t ht=>xH h (List.mem_of_mem_drop ht)
theorem agl{l:List aj}(h:jA l=true)(i:Nat):jA (l.take i)=true:=Dm.2 fun t ht=>xH h (List.mem_of_mem_take ht)
theorem FR{α:Type}[SizeOf α]:∀(i:Nat)(l:List α),SizeOf.sizeOf (l.take i)<=SizeOf.sizeOf l
 |0,[]=>by simp
 |0,x::l=>by rw[List.take_zero];simp only[List.cons.sizeOf_spec,List.nil.sizeOf_spec];omega
 |i+1,[]=>by simp
 |i+1,x::l=>by
  have:=FR i l;rw[List.take_succ_cons];simp only[List.cons.sizeOf_spec];omega
theorem adp(n:Int):aH prog 111 [.c (.d (.i .i64 n))] (.agg [.d (.i .i64 1),.d (.s []),.d (.s []),.d (.i .i64 n),.d (.i .i64 0),.d (.s []),.bE [],.bE [],.bE []]):=fun S=>by
 refine zcx [.cell 2 28] func111 ntmps111 ?_;exact Z1
theorem ZO(s:List UInt8):aH prog 112 [.c (.d (.s s))] (.agg [.d (.i .i64 3),.d (.s []),.d (.s s),.d (.i .i64 0),.d (.i .i64 0),.d (.s []),.bE [],.bE [],.bE []]):=fun S=>by
 refine zcx [.cell 2 28] func112 ntmps112 ?_;exact Z1
theorem KO:∀N:Nat,(∀x:aj,SizeOf.sizeOf x<N->x.sz<=4194304->aH prog 61 [x.v] (eY false x).v)/\
 (∀xs:List aj,SizeOf.sizeOf xs<N->xs.length<=4194304->(∀t∈xs,t.sz<=4194304)->aH prog 113 [.c (.d (.sl (xs.map aj.enc)))] (.c (.d (.sl ((xs.map (eY false)).map au.enc)))))/\
 (∀x:aj,SizeOf.sizeOf x<N->x.sz<=4194304->aH prog 116 [x.v] (sK false x).v)
 |0=>⟨fun x h=>by omega,fun x h=>by omega,fun x h=>by omega⟩
 |N+1=>by
  obtain⟨ih,qU,ihM⟩:=KO N;refine⟨fun x hn hsz=>aH.of_le fun S=> ?_,fun xs hn hlen hsz S=> ?_,fun x hn hsz=>aH.of_le fun S=> ?_⟩
  ·have j3:=aj.wh x;have h1:=eG x;have h2:=AZ x
   have hall:∀t∈x.ah,t.sz<=4194304:=fun t ht=>by have:=iT ht;omega
   have hr:=gV (l:=x.ah);have hso:=fun i=>BI i x.ah
   have hdl:∀i,(x.ah.drop i).length<=4194304:=fun i=>by rw[List.length_drop];omega
   have hda:∀i,∀t∈x.ah.drop i,t.sz<=4194304:=fun i t ht=>hall t (List.mem_of_mem_drop ht)
   have hg:yI false x.ah:=fun e=>by cases e.1
   refine zcx [.cell 2 28] func61 ntmps61 ?_;refine W1 ?_;refine S0 (fun hb h=>?_) fun hb h=>?_
   ·have hne:=h;refine aX (P8 x.aO (by omega)) ?_
    cases Ct:iA x.aO with
    |some m=>
     simp -implicitDefEqProofs (disch:=omega) only[go_sem,Option.getD_some,Option.isSome_some];refine C1 (adp m) ?_;exact se0 (XQ hne Ct)
    |none=>
     simp -implicitDefEqProofs (disch:=omega) only[go_sem,Option.getD_none,Option.isSome_none];refine S0 (fun hb h=>?_) fun hb h=>?_
     ·exact se0 (TJ hne Ct h)
     have k1:=h;refine S0 (fun hb h=>?_) fun hb h=>?_
     ·exact se0 (Qd hne Ct k1 h)
     have k2:=h;refine C1 (ZO _) ?_;exact se0 (XR hne Ct k1 k2)
   have ha:=h;have l0:=ado x.ah 0 (by omega);have l1:=ado x.ah 1 (by omega);have l2:=ado x.ah 2 (by omega)
   have hm1:min (1:Int) (x.ah.length:Int)=((min 1 x.ah.length:Nat):Int):=by omega
   have hm2:min (2:Int) (x.ah.length:Int)=((min 2 x.ah.length:Nat):Int):=by omega
   have hm3:min (3:Int) (x.ah.length:Int)=((min 3 x.ah.length:Nat):Int):=by omega
   have hd:=fun i=>ZN x.ah i;have hdd:=pG x.ah x.ah.length 1 (Nat.le_refl _);simp -implicitDefEqProofs (disch:=omega) only[go_sem,l0,l1,l2];refine W3 ?_
   with_reducible refine dD (fun hb=> ?_) (fun hb=> ?_)<;>have h:=hb<;>(try simp only[wf_preprocess] at h)<;>simp -implicitDefEqProofs (disch:=omega) only[go_sem,hb,l0,l1,l2]<;>refine W3 ?_
   ·refine aX (vH _ _) ?_;rw[hm2];refine W1 ?_;refine⟨⟨by omega,by omega,by omega,hr⟩,?_⟩;rw[hd];refine C1 (qU (x.ah.drop 2) (by have:=hso 2;omega) (hdl 2) (hda 2)) ?_;exact XV (TD ha hg h)
   have adq:=h
   with_reducible refine dD (fun hb=> ?_) (fun hb=> ?_)<;>have h:=hb<;>(try simp only[wf_preprocess] at h)<;>simp -implicitDefEqProofs (disch:=omega) only[go_sem,hb,l0,l1,l2]<;>refine W3 ?_
   ·refine aX (vH _ _) ?_;rw[hm3];refine W1 ?_;refine⟨⟨by omega,by omega,by omega,hr⟩,?_⟩;rw[hd];refine C1 (qU (x.ah.drop 3) (by have:=hso 3;omega) (hdl 3) (hda 3)) ?_;exact XV (MQ ha hg h)
   have LJ:=h
   with_reducible refine dD (fun hb=> ?_) (fun hb=> ?_)<;>have h:=hb<;>(try simp only[wf_preprocess] at h)<;>simp -implicitDefEqProofs (disch:=omega) only[go_sem,hb,l0,l1,l2]<;>refine W3 ?_
   ·refine aX (vH _ _) ?_;rw[hm2];refine W1 ?_;refine⟨⟨by omega,by omega,by omega,hr⟩,?_⟩;rw[hd];refine C1 (qU (x.ah.drop 2) (by have:=hso 2;omega) (hdl 2) (hda 2)) ?_;exact XV (XM ha hg h)
   have nNew:=h
   with_reducible refine dD (fun hb=> ?_) (fun hb=> ?_)<;>have h:=hb<;>(try simp only[wf_preprocess] at h)<;>simp -implicitDefEqProofs (disch:=omega) only[go_sem,hb,l0,l1,l2]<;>refine W3 ?_
   ·refine aX (vH _ _) ?_;rw[hm2];refine W1 ?_;refine⟨⟨by omega,by omega,by omega,hr⟩,?_⟩;rw[hd];refine C1 (qU (x.ah.drop 2) (by have:=hso 2;omega) (hdl 2) (hda 2)) ?_;exact XV (XO ha hg h)
   have ajF:=h
   with_reducible refine dD (fun hb=> ?_) (fun hb=> ?_)<;>have h:=hb<;>(try simp only[wf_preprocess] at h)<;>simp -implicitDefEqProofs (disch:=omega) only[go_sem,hb,l0,l1,l2]<;>refine W3 ?_
   ·have hpos:0<x.ah.length:=by
     rcases Nat.eq_zero_or_pos x.ah.length with e|e
     ·rw[GA (by omega)] at h;cases h
     ·exact e
    refine⟨⟨by omega,by omega,hr⟩,?_⟩;rw[hdd];refine C1 (qU (x.ah.drop 1) (by have:=hso 1;omega) (hdl 1) (hda 1)) ?_;exact XV (aaM ha hg h)
   have nIf:=h
   with_reducible refine dD (fun hb=> ?_) (fun hb=> ?_)<;>have h:=hb<;>(try simp only[wf_preprocess] at h)<;>simp -implicitDefEqProofs (disch:=omega) only[go_sem,hb,l0,l1,l2]<;>refine W3 ?_
   ·refine aX (vH _ _) ?_;rw[hm2];refine W1 ?_;refine⟨⟨by omega,by omega,by omega,hr⟩,?_⟩;rw[hd];refine C1 (qU (x.ah.drop 2) (by have:=hso 2;omega) (hdl 2) (hda 2)) ?_;exact XV (TF ha hg h)
   have adr:=h
   with_reducible refine dD (fun hb=> ?_) (fun hb=> ?_)<;>have h:=hb<;>(try simp only[wf_preprocess] at h)<;>simp -implicitDefEqProofs (disch:=omega) only[go_sem,hb,l0,l1,l2]<;>refine W3 ?_
   ·refine C1 (qO (x.ah.getD 1 bZ) (vJ x 1 hsz)) ?_;refine aX (vH _ _) ?_;rw[hm2];refine W1 ?_;refine⟨⟨by omega,by omega,by omega,hr⟩,?_⟩;rw[hd];refine C1 (qU (x.ah.drop 2) (by have:=hso 2;omega) (hdl 2) (hda 2)) ?_;exact se2 (XP ha hg h)
   have nThe:=h
   with_reducible refine dD (fun hb=> ?_) (fun hb=> ?_)<;>have h:=hb<;>(try simp only[wf_preprocess] at h)<;>simp -implicitDefEqProofs (disch:=omega) only[go_sem,hb,l0,l1,l2]<;>refine W3 ?_
   ·have hpos:0<x.ah.length:=by
     rcases Nat.eq_zero_or_pos x.ah.length with e|e
     ·rw[GA (by omega)] at h;cases h
     ·exact e
    have hdec:=TG ha hg h;refine aX (vH _ _) ?_;rw[hm2];refine W1 ?_;refine⟨⟨by omega,by omega,hr⟩,?_⟩;rw[amm];refine C1 (qU ((x.ah.drop 1).take 1) (by have:=hso 1;have:=FR 1 (x.ah.drop 1);omega) (by rw[List.length_take];omega) (fun t ht=>hda 1 t (List.mem_of_mem_take ht))) ?_;obtain⟨zR,ads⟩:∃zR,zR=((x.ah.drop 1).take 1).map (eY false):=⟨_,rfl⟩;obtain⟨T,hT⟩:∃T:Nat->List (List D),T=fun k=>(((x.ah.drop 2).map (sK false)).take k).map aR.enc:=⟨_,rfl⟩
    have hT0:T 0=[]:=by rw[hT];rfl
    have iI:∀k,(T k).length<=k:=fun k=>by rw[hT];simp only[List.length_map];exact List.length_take_le _ _
    have hTs:∀k (hk:k+2<x.ah.length),T k++[(sK false x.ah[k+2]).enc]=T (k+1):=fun k hk=>by
     have:=agk (l:=(x.ah.drop 2).map (sK false)) (i:=k) (by rw[List.length_map,List.length_drop];omega);rw[List.getElem_map,List.getElem_drop] at this;rw[hT];simp only[Nat.add_comm 2 k] at this ⊢;exact this
    have hTe:T (x.ah.length-2)=((x.ah.drop 2).map (sK false)).map aR.enc:=by
     rw[hT];simp only
     rw[List.take_of_length_le (by simp)]
    clear hT;rw[<-ads] at hdec ⊢;refine pE 3 8 11 _ rfl rfl ?_
    refine aT (ι:=Nat) zmx rfl [1,2,6,8,9] (fun k=>[.c (.ptr (0,0) 0),.c (.ptr (0,1) 0),.c (.d (.i .i64 x.ah.length)),.c (.ptr (0,3) 0),.c (.d (.i .i64 ((k+2:Nat):Int)))])
     (fun k=>[.box [.d (.s x.aO),.d (.sl (x.ah.map aj.enc))],.box [.d (.i .i64 0),.d (.s []),.d (.s []),.d (.i .i64 0),.d (.i .i64 0),.d (.s []),.bE [],.bE [],.bE []],.tok 2 (x.ah.map aj.enc++[[.s [],.sl []],[.s [],.sl []],[.s [],.sl []]]),
       .box [.d (.i .i64 7),.d (.s []),.d (.s []),.d (.i .i64 0),.d (.i .i64 0),.d (.s []),.bE [],.d (.sl (zR.map au.enc)),.bN (0,4) (T k)],.tok 11 (T k)]::S)
     (fun k=>k<=x.ah.length-2) (fun k=>x.ah.length-(k+2)) 0 rfl (by rw[hT0];rfl) (Nat.zero_le _) ?_
    intro k hk;have hlk:=iI k;clear l0 l1 l2;refine W1 ?_;refine S0 (fun hb h=>?_) fun hb h=>?_
    ·have hk':k+2<x.ah.length:=by omega
     have hm:=List.getElem_mem hk';have hs:=hTs k hk';simp only[aR.aA,au.aA,ak.aA,List.cons_append,List.nil_append] at hs;refine W3 ?_;refine C1 (ihM x.ah[k+2] (by have:=List.sizeOf_lt_of_mem hm;omega) (hall _ hm)) ?_;refine W3 ?_;rw[hs];exact bF (k+1) (by omega) rfl rfl (by omega)
    ·have hk':k=x.ah.length-2:=by omega
     subst hk';rw[hTe];exact se3 hdec
   have adt:=h;refine aX (vH _ _) ?_;rw[hm1];refine W1 ?_;refine⟨⟨by omega,by omega,by omega,hr⟩,?_⟩;rw[hd];refine C1 (qU (x.ah.drop 1) (by have:=hso 1;omega) (hdl 1) (hda 1)) ?_;exact XV (TH ha hg adq nNew ajF adr LJ nIf nThe adt)
  ·have Dp:=fun(i:Nat) (hi:i<xs.length)=>agj (l:=xs.map (eY false)) (i:=i) (by rw[List.length_map];exact hi);refine zcx [.tmp 2] func113 ntmps113 ?_;refine W1 ?_;refine W3 ?_;refine ni 3 9 [] rfl (by simp) ?_
   refine aT (ι:=Nat) zmx rfl [0,3,4] (fun i=>[.c (.d (.sl (xs.map aj.enc))),.c (.bN (0,0) (((xs.map (eY false)).take i).map au.enc)),.c (.d (.i .i64 i))]) (fun i=>[.tok 9 (((xs.map (eY false)).take i).map au.enc)]::S)
    (fun i=>i<=xs.length) (fun i=>xs.length-i) 0 rfl rfl (Nat.zero_le _) ?_
   intro i hi
   have hl:(((xs.map (eY false)).take i).map au.enc).length<=i:=by rw[List.length_map];exact List.length_take_le _ _
   refine W1 ?_;refine S0 (fun hb h=>?_) fun hb h=>?_
   ·have hi':i<xs.length:=by omega
    have hs:=Dp i hi';rw[List.getElem_map] at hs;simp only[au.aA,ak.aA,List.cons_append,List.nil_append] at hs;refine W3 ?_;refine C1 (ih xs[i] (by have:=List.sizeOf_lt_of_mem (List.getElem_mem hi');omega) (hsz _ (List.getElem_mem hi'))) ?_;refine W3 ?_;rw[hs];exact bF (i+1) (by omega) rfl rfl (by omega)
   ·have hi':i=(xs.map (eY false)).length:=by rw[List.length_map];omega
    rw[hi',List.take_length]
  ·have j3:=aj.wh x;have h1:=eG x
   have hall:∀t∈x.ah,t.sz<=4194304:=fun t ht=>by have:=iT ht;omega
   have hr:=gV (l:=x.ah);refine zcx [.cell 2 94] func116 ntmps116 ?_;refine W1 ?_;refine S0 (fun hb h=>?_) fun hb h=>?_
   ·rw[aaL false x (by omega)];exact(fK.cons (.refl _) (.cons (eU _) (.cons (.refl _) (.cons (.refl _) (.cons (.refl _) (.cons (.refl _) (.cons (.refl _) (.cons (.refl _) (.cons (eU _) (.cons (eU _) (.cons (eU _) .nil))))))))))).less
   have hl2:2<=x.ah.length:=by omega
   have a0:=jL (l:=x.ah) (i:=0) (by omega);have hm:=List.getElem_mem (l:=x.ah) (n:=x.ah.length-1) (by omega);rw[aaK false x hl2,a0];refine⟨⟨by omega,by omega,hr⟩,?_⟩;rw[TK _ hl2];refine C1 (Ez ((x.ah.drop 1).dropLast) (by rw[List.length_dropLast,List.length_drop];omega)) ?_;refine W3 ?_
   have el:((x.ah.length:Int)-1).toNat=x.ah.length-1:=by omega
   simp only[el];refine C1 (ih (x.ah[x.ah.length-1]) (by have:=List.sizeOf_lt_of_mem hm;omega) (hall _ hm)) ?_;exact gy _
theorem FT(x:aj)(hsz:x.sz<=4194304):aH prog 61 [x.v] (eY false x).v:=(KO _).1 x (Nat.lt_succ_self _) hsz
end Go.Ab