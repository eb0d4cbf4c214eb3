/-
  SEVERAL TEXTS IN ONE (merged by program): contracts and models, each with its own heading.
-/
import Derived.Test.YtbaefeecjjhhkaaGreatDoorPartOcbF
import Derived.Test.YtbaefeecjjhhkaaGreatDoorPartOcbJ
import Derived.Test.YtbaefeecjjhhkaaGreatDoorPartOcbP
import Derived.Test.YtbaefeecjjhhkaaGreatDoorPartOcbR
import Derived.Test.YtbaefeecjjhhkaaGreatDoorPartOcbS
import Derived.Test.YtbaefeecjjhhkaaGreatDoorPartOcbT
import Derived.Lib.SplitLaws
import Derived.Lib.TrimByte
import Derived.Shelf.Strings.Trim
import Derived.Shelf.Strings.Split
import Derived.Test.YtbaefeecjjhhkaaGreatDoorRows
import Derived.LaidMore
import Derived.Stop.LaidErr
set_option maxHeartbeats 8000000
open Go.Proofs Go.Proofs.Tryz
set_option linter.unusedSimpArgs false
set_option linter.unusedVariables false
set_option maxRecDepth 4000
set_option maxRecDepth 100000
namespace Go.Ab
def gI(s:List UInt8)(r:RS):List C:=[.d (.s s),.d (.i .i64 (s.length-r.t.length:Nat)),.d (.i .i64 r.deep),.d (.i .i64 r.size),.d (.b r.bad)]
theorem DR{s u:List UInt8}{b:UInt8}(h:b::u <:+ s):s.length-(b::u).length<s.length/\s.getD (s.length-(b::u).length) 0=b/\s.length-(b::u).length+1=s.length-u.length:=by
 obtain⟨p,rfl⟩:=h
 have e:(p++b::u).length-(b::u).length=p.length:=by simp
 rw[e];refine⟨by simp,by simp[List.getD],by simp;omega⟩
theorem ajF{s t a c:List UInt8}(h:t <:+ s)(e:t=a++c):(s.take (s.length-c.length)).drop (s.length-t.length)=a:=by
 obtain⟨p,rfl⟩:=h;subst e
 have e1:(p++(a++c)).length-c.length=(p++a).length:=by simp;omega
 have e2:(p++(a++c)).length-(a++c).length=p.length:=by simp
 rw[e1,e2,<-List.append_assoc,List.take_left,List.drop_left]
theorem Qn{s t:List UInt8}(h:t <:+ s):gy t <:+ s:=(zO t).trans h
theorem dw.of_le{P:Program}{f:FuncId}{args:List V}{t:V}{S S1:Store}(h:dw P f args S fun r S'=>Less r t/\S'=S1):dw P f args S fun r S'=>r=t/\S'=S1:=
 ⟨h.1,fun w σ β vs hS hv=>(h.2 w σ β vs hS hv).mono fun e w' ⟨v,r,S',σ',β',h1,h2,h3,h4,h5,h6,h7⟩=>⟨v,t,S',σ',β',h1,h2,h3,h4,h6 _ _ _ _ _ h5,rfl,h7⟩⟩
theorem I9:Less (.agg [.d (.s []),.bn []]) bT.v:=fE.less (.cons (.refl _) (.cons (eT _) .nil))
theorem aaB{b c:UInt8}(h:(b.toNat:Int)=c.toNat):b=c:=UInt8.toNat_inj.1 (by omega)
theorem KZ(s:List UInt8)(hs:s.length<=1073741824)(r:RS)(ht:r.t <:+ s)(l j:Nat)(S:Store)(hk:bA S (l,j)=some (.box (gI s r))):
 dw prog 59 [.c (.ptr (l,j) 0)] S (fun v S'=>v=.dN []/\S'=bJ S (l,j) (.box (gI s ⟨gy r.t,r.deep,r.size,r.bad⟩))):=by
 have g:∀x:Ab.Obj,bA (bJ S (l,j) x) (l,j)=some x:=fun x=>eO _ _ _ _ hk;refine zcx [] func59 ntmps59 ?_;refine W1 ?_
 refine aR (ι:=List UInt8) zmx rfl [0] (fun _=>[.c (.ptr (1+l,j) 0)]) (fun t=>[]::bJ S (l,j) (.box (gI s ⟨t,r.deep,r.size,r.bad⟩)))
  (fun t=>t <:+ s/\gy t=gy r.t) (fun t=>t.length) r.t rfl (congrArg (fun z=>[]::z) (BL S (l,j) hk).symm) ⟨ht,rfl⟩ ?_
 rintro t ⟨p1,p2⟩;have pl:=p1.length_le;rw[<-p2]
 cases t with
 |nil=>
  have d:decide (((s.length-0:Nat):Int)<s.length)=false:=decide_eq_false (by omega);simp -implicitDefEqProofs (disch:=omega) only[go_sem,g,cu,dn,bQ,gI,d];rfl
 |cons b u=>
  obtain⟨q1,q2,q3⟩:=DR p1;rw[List.length_cons] at q1 q2 q3;simp -implicitDefEqProofs (disch:=omega) only[go_sem,g,cu,dn,bQ,gI];generalize hA:s.length-(u.length+1)=a at q1 q2 q3 ⊢;have d:decide ((a:Int)<s.length)=true:=decide_eq_true (by omega);simp -implicitDefEqProofs (disch:=omega) only[go_sem,d,q2,g,cu,dn,bQ,gI];refine W3 ?_
  have eI:((s.length-u.length:Nat):Int)=(a:Int)+1:=by omega
  have blank:lT b=true->[]::bJ S (l,j) (.box [.d (.s s),.d (.i .i64 ((a:Int)+1)),.d (.i .i64 r.deep),.d (.i .i64 r.size),.d (.b r.bad)])=[]::bJ S (l,j) (.box (gI s ⟨u,r.deep,r.size,r.bad⟩))/\u <:+ s/\gy u=gy (b::u):=fun hb=>
   ⟨by simp only[gI];rw[eI],(List.suffix_cons b u).trans p1,(Dq hb).symm⟩
  with_reducible refine dZ (fun hb=> ?_) (fun hb=> ?_)<;>have h:=hb<;>(try simp only[wf_preprocess] at h)<;>simp -implicitDefEqProofs (disch:=omega) only[go_sem,hb,g,cu,dn,bQ,gI]<;>refine W3 ?_
  ·obtain⟨x1,x2⟩:=blank (by unfold lT;simp only[Bool.or_eq_true,decide_eq_true_eq];omega);exact bV u (by simp) rfl x1 x2
  have hn:=h;simp only[q2]
  with_reducible refine dZ (fun hb=> ?_) (fun hb=> ?_)<;>have h:=hb<;>(try simp only[wf_preprocess] at h)<;>simp -implicitDefEqProofs (disch:=omega) only[go_sem,hb,g,cu,dn,bQ,gI]<;>refine W3 ?_
  ·obtain⟨x1,x2⟩:=blank (by unfold lT;simp only[Bool.or_eq_true,decide_eq_true_eq];omega);exact bV u (by simp) rfl x1 x2
  ·have hb:lT b=false:=by
    cases e:lT b with
    |false=>rfl
    |true=>unfold lT at e;simp only[Bool.or_eq_true,decide_eq_true_eq] at e;omega
   rw[rO hb,List.length_cons,hA]
theorem ado(s:List UInt8)(hs:s.length<=1048576):∀(n:Nat)(r:RS),r.t <:+ s->r.bad=false->r.deep<=14->r.size<=900->2*r.t.length+1<=n->∀(l j:Nat)(S:Store),bA S (l,j)=some (.box (gI s r))->
 dw prog 58 [.c (.ptr (l,j) 0)] S (fun v S'=>v=(lH n r).1.v/\S'=bJ S (l,j) (.box (gI s (lH n r).2))):=by
 intro n
 induction n using Nat.strongRecOn with
 |_ n ih=>
 intro r ht hbad hd hz hn l j S hk
 cases n with
 |zero=>omega
 |succ n=>
 refine dw.of_le ?_;have g:∀x:Ab.Obj,bA (bJ S (l,j) x) (l,j)=some x:=fun x=>eO _ _ _ _ hk;have hsk:=Qn ht;have hsl:=BU r.t;obtain⟨y,hy⟩:∃y,y=lH (n+1) r:=⟨_,rfl⟩;rw[<-hy];rw[lH] at hy;obtain⟨rt,rd,rz,rb⟩:=r
 simp only at *
 subst hbad;refine BP [83] (rs:=[.cell 2 64]) zmx func58 ntmps58 rfl rfl rfl rfl rfl ?_;refine W1 ?_;refine cK rfl (KZ s (by omega) _ ht (1+l) j _ (by rw[cu];exact hk)) ?_;simp -implicitDefEqProofs (disch:=omega) only[go_sem,g,cu,dn,bQ,gI]
 cases e:gy rt with
 |nil=>
  rw[e] at hy;simp only at hy;have d:decide ((s.length:Int)<=((s.length-0:Nat):Int))=true:=decide_eq_true (by omega);simp -implicitDefEqProofs (disch:=omega) only[go_sem,d,g,cu,dn,bQ,gI];refine⟨by rfl,?_⟩;simp -implicitDefEqProofs (disch:=omega) only[go_sem,g,cu,dn,bQ,gI];subst hy;exact⟨I9,rfl⟩
 |cons b u=>
  rw[e] at hy hsk hsl;simp only at hy;obtain⟨q1,q2,q3⟩:=DR hsk;rw[List.length_cons] at q1 q2 q3 hsl;simp -implicitDefEqProofs (disch:=omega) only[go_sem,g,cu,dn,bQ,gI];generalize hA:s.length-(u.length+1)=a at q1 q2 q3 ⊢;have d:decide ((s.length:Int)<=(a:Int))=false:=decide_eq_false (by omega);simp -implicitDefEqProofs (disch:=omega) only[go_sem,d,g,cu,dn,bQ,gI];refine⟨by rfl,?_⟩;simp -implicitDefEqProofs (disch:=omega) only[go_sem,g,cu,dn,bQ,gI]
  with_reducible refine dZ (fun hb=> ?_) (fun hb=> ?_)<;>have h:=hb<;>(try simp only[wf_preprocess] at h)<;>simp -implicitDefEqProofs (disch:=omega) only[go_sem,hb,g,cu,dn,bQ,gI]<;>refine W3 ?_
  ·rw[if_pos (by omega)] at hy;subst hy;refine⟨I9,?_⟩;rw[<-hA];simp only[gI];rfl
  have hsz:¬900<rz+1:=by omega
  rw[if_neg hsz] at hy;clear h hb;obtain⟨z,hzd⟩:∃z,z=(b::u).dropWhile bK:=⟨_,rfl⟩
  refine Wq [83] zmx rfl [0,2,3] (ι:=List UInt8) (fun _=>[.c (.ptr (1+l,j) 0),.c (.ptr (0,0) 0),.c (.d (.i .i64 a))])
   (fun t=>[.box [.d (.s []),.bn []]]::bJ S (l,j) (.box (gI s ⟨t,rd,rz+1,false⟩)))
   (fun t=>t <:+ b::u/\t.dropWhile bK=z) (fun t=>t.length) (b::u) rfl (by rw[<-hA];simp only[gI];rfl) ⟨List.suffix_refl _,hzd.symm⟩ ?_
  rintro t ⟨p1,p2⟩;have p3:=p1.trans hsk;have p4:=p3.length_le
  have ex:(t=[]\/∃c v,t=c::v/\bK c=false)\/∃c v,t=c::v/\bK c=true:=by
   cases t with
   |nil=>exact .inl (.inl rfl)
   |cons c v=>cases hc:bK c with
    |false=>exact .inl (.inr ⟨c,v,rfl,hc⟩)
    |true=>exact .inr ⟨c,v,rfl,hc⟩
  rcases ex with ex|⟨c,v,rfl,hc⟩
  rotate_left
  ·obtain⟨k1,k2,k3⟩:=DR p3;rw[List.length_cons] at k1 k2 k3;simp -implicitDefEqProofs (disch:=omega) only[go_sem,g,cu,dn,bQ,gI];generalize hB:s.length-(v.length+1)=m at k1 k2 k3 ⊢;have d1:decide ((m:Int)<s.length)=true:=decide_eq_true (by omega);simp -implicitDefEqProofs (disch:=omega) only[go_sem,d1,g,cu,dn,bQ,gI];refine W3 ?_;rw[k2];refine aX (Kh c) ?_;rw[hc];simp -implicitDefEqProofs (disch:=omega) only[go_sem,g,cu,dn,bQ,gI];refine⟨by rfl,?_⟩;simp -implicitDefEqProofs (disch:=omega) only[go_sem,g,cu,dn,bQ,gI];refine bV v (by simp) rfl ?_ ⟨(List.suffix_cons c v).trans p1,?_⟩
   ·have eI:((s.length-v.length:Nat):Int)=(m:Int)+1:=by omega
    simp only[gI];rw[eI]
    first|done|rfl
   ·rw[<-p2,List.dropWhile_cons,if_pos hc]
  have hzt:z=t:=by
   rw[<-p2];rcases ex with rfl|⟨c,v,rfl,hc⟩
   ·rfl
   ·rw[List.dropWhile_cons,if_neg (by rw[hc];decide)]
  subst hzt;obtain⟨m,hm⟩:∃m,m=s.length-z.length:=⟨_,rfl⟩
  have hyes:bK b=true->(s.take m).drop a=b::u.takeWhile bK/\a<m/\m=s.length-(u.dropWhile bK).length:=fun hab=>by
   have e1:z=u.dropWhile bK:=by rw[hzd,List.dropWhile_cons,if_pos hab]
   have e2:(u.dropWhile bK).length<=u.length:=(List.dropWhile_suffix bK).length_le;have e3:=ajF (a:=b::u.takeWhile bK) (c:=z) hsk (by rw[e1,List.cons_append,List.takeWhile_append_dropWhile]);rw[<-hm,List.length_cons,hA] at e3;have e4:=hsk.length_le;rw[List.length_cons] at e4;rw[e1] at hm;exact⟨e3,by omega,hm⟩
  have hno:bK b=false->m=a:=fun hab=>by
   have e1:z=b::u:=by rw[hzd,List.dropWhile_cons,if_neg (by rw[hab];decide)]
   rw[hm,e1,List.length_cons,hA]
  clear p1 p2 p4 hzd;rcases ex with rfl|⟨c,v,rfl,hc⟩;rw[List.length_nil] at hm;have d1:decide ((m:Int)<s.length)=false:=decide_eq_false (by omega);simp -implicitDefEqProofs (disch:=omega) only[go_sem,g,cu,dn,bQ,gI];rw[<-hm];simp -implicitDefEqProofs (disch:=omega) only[go_sem,d1,g,cu,dn,bQ,gI];refine⟨by rfl,?_⟩;simp -implicitDefEqProofs (disch:=omega) only[go_sem,g,cu,dn,bQ,gI]
  rotate_left
  obtain⟨k1,k2,k3⟩:=DR p3;rw[List.length_cons] at k1 k2 k3 hm;simp -implicitDefEqProofs (disch:=omega) only[go_sem,g,cu,dn,bQ,gI];rw[<-hm] at k1 k2 k3 ⊢;have d1:decide ((m:Int)<s.length)=true:=decide_eq_true (by omega);simp -implicitDefEqProofs (disch:=omega) only[go_sem,d1,g,cu,dn,bQ,gI];refine W3 ?_;rw[k2];refine aX (Kh c) ?_;rw[hc];simp -implicitDefEqProofs (disch:=omega) only[go_sem,g,cu,dn,bQ,gI];refine⟨by rfl,?_⟩;simp -implicitDefEqProofs (disch:=omega) only[go_sem,g,cu,dn,bQ,gI]
  all_goals clear p3 hm d1
  all_goals
   cases hab:bK b with
   |true=>
    obtain⟨r1,r2,r3⟩:=hyes hab;have d2:decide ((a:Int)<(m:Int))=true:=decide_eq_true (by omega);rw[if_pos hab] at hy;simp -implicitDefEqProofs (disch:=omega) only[go_sem,d2,g,cu,dn,bQ,gI];refine W3 ?_;refine⟨by rfl,?_⟩;simp -implicitDefEqProofs (disch:=omega) only[go_sem,g,cu,dn,bQ,gI];rw[r1];subst hy;refine⟨fE.less (.cons (.refl _) (.cons (eT _) .nil)),?_⟩;simp only[gI,<-r3]
    first|done|rfl
   |false=>
    obtain rfl:=hno hab;have d2:decide ((m:Int)<(m:Int))=false:=decide_eq_false (by omega);rw[if_neg (by rw[hab];decide)] at hy;clear hyes hno;simp -implicitDefEqProofs (disch:=omega) only[go_sem,d2,g,cu,dn,bQ,gI];refine W3 ?_;simp only[q2]
    have RB:b≠40\/rd=14->Less (.agg [.d (.s []),.bn []]) y.1.v/\bJ S (l,j) (.box [.d (.s s),.d (.i .i64 m),.d (.i .i64 rd),.d (.i .i64 (rz+1:Nat)),.d (.b true)])=bJ S (l,j) (.box (gI s y.2)):=fun hq=>by
     rw[if_pos hq] at hy;subst hy;refine⟨I9,?_⟩;rw[<-hA];simp only[gI];rfl
    with_reducible refine dZ (fun hb=> ?_) (fun hb=> ?_)<;>have h:=hb<;>(try simp only[wf_preprocess] at h)<;>simp -implicitDefEqProofs (disch:=omega) only[go_sem,hb,g,cu,dn,bQ,gI]<;>refine W3 ?_
    ·refine⟨by rfl,?_⟩;simp -implicitDefEqProofs (disch:=omega) only[go_sem,g,cu,dn,bQ,gI];exact RB (.inl fun hq=>h (by rw[hq];rfl))
    have arR:b=40:=aaB h;refine⟨by rfl,?_⟩;simp -implicitDefEqProofs (disch:=omega) only[go_sem,g,cu,dn,bQ,gI]
    with_reducible refine dZ (fun hb=> ?_) (fun hb=> ?_)<;>have h:=hb<;>(try simp only[wf_preprocess] at h)<;>simp -implicitDefEqProofs (disch:=omega) only[go_sem,hb,g,cu,dn,bQ,gI]<;>refine W3 ?_
    ·exact RB (.inr (by omega))
    have anZ:¬(b≠40\/rd=14):=by rintro(h1|h1);exact h1 arR;omega
    rw[if_neg anZ] at hy;clear RB d2 d anZ hab;refine ow 1 1 2 _ rfl rfl ?_
    refine Wq [83] zmx rfl [0,2,4] (ι:=Nat×RS×List aj) (fun _=>[.c (.ptr (1+l,j) 0),.c (.ptr (0,0) 0),.c (.ptr (0,1) 0)])
     (fun x=>[.box [.d (.s []),.bn []],.box [.d (.s []),.bB (0,2) (x.2.2.map aj.enc)],.tok 2 (x.2.2.map aj.enc)]::bJ S (l,j) (.box (gI s x.2.1)))
     (fun x=>qN x.1 x.2.1 x.2.2=y/\x.2.1.t <:+ s/\x.2.1.deep<=14/\x.2.1.size<=901/\(x.2.1.bad=false->1<=x.2.1.deep/\x.2.1.size<=900)/\x.2.2.length<=x.2.1.size/\(x.2.1.bad=true/\1<=x.1\/2*x.2.1.t.length+2<=x.1)/\x.1<=n) (fun x=>x.1)
     (n,⟨u,rd+1,rz+1,false⟩,[]) rfl ?_ ⟨hy.symm,(List.suffix_cons b u).trans hsk,by simp only;omega,by simp only;omega,fun _=>by simp only;omega,by simp only[List.length_nil];omega,.inr (by simp only;omega),Nat.le_refl _⟩ ?_
    ·have eI:((s.length-u.length:Nat):Int)=(m:Int)+1:=by omega
     simp only[gI,eI];rfl
    rintro⟨f,⟨t,dp,zz,bd⟩,acc⟩ ⟨p1,p2,p3,p4,p5,p6,p7,p8⟩;simp only at p1 p2 p3 p4 p5 p6 p7 p8;simp -implicitDefEqProofs (disch:=omega) only[go_sem,g,cu,dn,bQ,gI]
    cases bd with
    |true=>
     simp -implicitDefEqProofs (disch:=omega) only[go_sem,g,cu,dn,bQ,gI]
     cases f with
     |zero=>omega
     |succ f=>
      rw[qN,if_pos rfl] at p1;subst p1;exact⟨gu _,rfl⟩
    |false=>
     have p5:=p5 rfl;have p7:=p7.resolve_left fun h=>Bool.noConfusion h.1;simp -implicitDefEqProofs (disch:=omega) only[go_sem,g,cu,dn,bQ,gI];refine cK rfl (KZ s (by omega) ⟨t,dp,zz,false⟩ p2 (1+l) j _ (by rw[cu];exact g _)) ?_;simp -implicitDefEqProofs (disch:=omega) only[go_sem,g,cu,dn,bQ,gI]
     cases f with
     |zero=>omega
     |succ f=>
     rw[qN,if_neg Bool.false_ne_true] at p1;have k1:=Qn p2;have k0:=k1;have k2:=BU t;have k3:=k2;have k4:=k1.length_le;obtain⟨q,hq⟩:∃q,q=lH f ⟨gy t,dp,zz,false⟩:=⟨_,rfl⟩;have hcall:=ih f (by omega) ⟨gy t,dp,zz,false⟩ k1 rfl p3 p5.2 (by simp only;omega);have an0:=(Rf f).1 ⟨gy t,dp,zz,false⟩ p3 p5.2;simp only at p1;rw[<-hq] at hcall an0 p1;obtain⟨o1,o2,o3,o4,o5,o6⟩:=an0;simp only at o1 o2 o4 o5 o6;have o7:=o1.length_le
     have ek:(gy t=[]\/∃c v,gy t=c::v/\c≠41)\/∃v,gy t=41::v:=by
      cases gy t with
      |nil=>exact .inl (.inl rfl)
      |cons c v=>by_cases hc:c=41
                 ·subst hc;exact .inr ⟨v,rfl⟩
                 ·exact .inl (.inr ⟨c,v,rfl,hc⟩)
     rcases ek with ek|⟨v,e2⟩
     rotate_left
     ·rw[e2] at k1 k2 p1 ⊢;obtain⟨w1,w2,w3⟩:=DR k1;rw[List.length_cons] at w1 w2 w3;have d1:decide (((s.length-(v.length+1):Nat):Int)<s.length)=true:=decide_eq_true (by omega);rw[if_pos (show(41::v).head? =some 41 from rfl)] at p1;simp -implicitDefEqProofs (disch:=omega) only[go_sem,d1,g,cu,dn,bQ,gI];refine W3 ?_;rw[w2];refine⟨by rfl,?_⟩
      have d2:decide ((((41:UInt8).toNat:Nat):Int)=41)=true:=by decide
      simp -implicitDefEqProofs (disch:=omega) only[go_sem,d2,g,cu,dn,bQ,gI];subst p1
      have e3:((s.length-v.length:Nat):Int)=((s.length-(v.length+1):Nat):Int)+1:=by omega
      have e4:((dp-1:Nat):Int)=(dp:Int)-1:=by omega
      refine⟨gu _,?_⟩;simp only[List.tail_cons,e3,e4]
     have hne:(gy t).head? ≠some 41:=by
      rcases ek with e2|⟨c,v,e2,hc⟩
      ·rw[e2];simp
      ·rw[e2];simpa using hc
     rw[if_neg hne] at p1;rcases ek with e2|⟨c,v,e2,hc⟩;have d1:decide (((s.length-0:Nat):Int)<s.length)=false:=decide_eq_false (by omega);rw[e2];simp -implicitDefEqProofs (disch:=omega) only[go_sem,d1,g,cu,dn,bQ,gI];refine⟨by rfl,?_⟩;simp -implicitDefEqProofs (disch:=omega) only[go_sem,g,cu,dn,bQ,gI]
     rotate_left
     rw[e2] at k1 k2 ⊢;obtain⟨w1,w2,w3⟩:=DR k1;rw[List.length_cons] at w1 w2 w3;have d1:decide (((s.length-(v.length+1):Nat):Int)<s.length)=true:=decide_eq_true (by omega);simp -implicitDefEqProofs (disch:=omega) only[go_sem,d1,g,cu,dn,bQ,gI];refine W3 ?_;simp only[w2];refine⟨by rfl,?_⟩;have d2:decide ((c.toNat:Int)=41)=false:=decide_eq_false fun hq=>hc (aaB (c:=41) hq);simp -implicitDefEqProofs (disch:=omega) only[go_sem,d2,g,cu,dn,bQ,gI]
     all_goals
      refine cK rfl (hcall (1+l) j _ (by rw[cu,e2];exact g _)) ?_;simp -implicitDefEqProofs (disch:=omega) only[go_sem,g,cu,dn,bQ,gI];refine W3 ?_;refine⟨by cases l<;>rfl,?_⟩;simp -implicitDefEqProofs (disch:=omega) only[go_sem,g,cu,dn,bQ,gI];refine bV (f,q.2,acc++[q.1]) (by simp) rfl ?_ ⟨p1,o1.trans k0,o3,o4.2,fun hq=>⟨by simp only;rw[o2 hq];exact p5.1,(o6 hq).2⟩,?_,?_,by simp only;omega⟩
      ·simp only[List.map_append,List.map_cons,List.map_nil,aj.aQ,gI]
      ·simp only[List.length_append,List.length_cons,List.length_nil];omega
      ·cases hqb:q.2.bad with
       |true=>exact .inl ⟨rfl,by simp only;omega⟩
       |false=>
        have:=(o6 hqb).1;exact .inr (by simp only;omega)
theorem Ux(s:List UInt8)(hs:s.length<=1048576):aC prog 38 [.c (.d (.s s))] (.dN [(true,(jm s).enc.map .d),(false,[.d (.b (j3 s))])]):=aC.of_le fun S=>by
 obtain⟨n,hn,hok,hx⟩:=WH s;obtain⟨q,hq⟩:∃q,q=lH n ⟨s,0,0,false⟩:=⟨_,rfl⟩;have hr:=(Rf n).1 ⟨s,0,0,false⟩ (by simp only;omega) (by simp only;omega);have hc:=ado s hs n ⟨s,0,0,false⟩ (List.suffix_refl _) rfl (by simp only;omega) (by simp only;omega) (by unfold Pp at hn;simp only;omega);rw[<-hq] at hok hx hr hc;clear hq hn;obtain⟨o1,o2,o3,o4,o5,o6⟩:=hr;simp only at o1 o2 o4 o5 o6
 have fU:j3 s=false->Less (.dN [(true,[.d (.s []),.bn []]),(false,[.d (.b false)])]) (.dN [(true,[.d (.s (jm s).aG),.d (.sl ((jm s).ah.map aj.enc))]),(false,[.d (.b (j3 s))])]):=fun e=>by
  have e2:jm s=bT:=by
   unfold jm;rw[dif_neg (jc e)]
  rw[e,e2];exact(ig.cons (.cons (.refl _) (.cons (eT _) .nil)) (.refl _)).less
 have hsl:=BU q.2.t
 have hsz:q.1.sz<=67108864:=by omega
 refine zcx [.cell 2 64,.tmp 3] func38 ntmps38 ?_;refine W1 ?_;refine cK rfl (hc 0 1 _ (by simp[bA,gI])) ?_;simp -implicitDefEqProofs (disch:=omega) only[go_sem,gI];refine cK rfl (KZ s (by omega) q.2 o1 0 1 _ rfl) ?_;simp -implicitDefEqProofs (disch:=omega) only[go_sem,gI]
 cases hqb:q.2.bad with
 |true=>
  refine W1 ?_;exact fU (by rw[<-hok];exact aK fun h=>by rw[hqb] at h;cases h.1)
 |false=>
  refine W1 ?_;refine S0 (fun hb h=>?_) fun hb h=>?_
  ·refine fU ?_;rw[<-hok];refine aK fun hq=> ?_;rw[hq.2.1] at h;exact h (by simp)
  have hnil:gy q.2.t=[]:=List.eq_nil_of_length_eq_zero (by have:=o1.length_le;omega);refine C1 (ng q.1 hsz) ?_;refine S0 (fun hb h=>?_) fun hb h=>?_
  ·refine fU ?_;rw[<-hok];refine aK fun hq=> ?_;rw[hq.2.2] at h;cases h
  ·have hy:j3 s=true:=by rw[<-hok];exact bD ⟨hqb,hnil,h⟩
   rw[hy,<-hx hy];exact gu _
theorem adp{s:List UInt8}(h:j3 s=false):jm s=bT:=by
 unfold jm;rw[dif_neg (jc h)]
theorem X0(s:List UInt8):(jm s).sz<=1048576:=by
 cases h:j3 s with
 |true=>have:=qZ (Zf h);omega
 |false=>rw[adp h,I8];omega
theorem agm{w:World}{σ:Nat->Nat}{S:Store}{β:Hs}{x:aj}{lv:Value}{b:Bool}(h:dJ w σ (.sl (x.ah.map aj.enc)) lv)(h1:lv.oneCell'=true):
 dS w σ S β (.dN [(true,x.enc.map .d),(false,[.d (.b b)])]) (.tuple #[.agg #[.string ⟨x.aG.toArray⟩,lv],.bool b]):=by
 refine⟨_,rfl,rfl,fun j y hy=> ?_⟩
 match j,hy with
 |0,hy=>
  simp at hy;subst hy;refine⟨_,rfl,_,rfl,by rw[aj.aQ];rfl,fun j y hy=> ?_⟩;rw[aj.aQ] at hy
  match j,hy with
  |0,hy=>simp at hy;subst hy;exact⟨_,rfl,.s _,rfl⟩
  |1,hy=>simp at hy;subst hy;exact⟨_,rfl,h,h1⟩
 |1,hy=>
  simp at hy;subst hy;exact⟨_,rfl,_,rfl,.b _,rfl⟩
theorem an1{w:World}{σ:Nat->Nat}{es:List (List D)}{v:Value}(h:dJ w σ (.sl es) v):v.oneCell'=true:=by
 cases h<;>rfl
theorem Uy(s:List UInt8)(hs:s.length<=33554432):aC prog 36 [.c (.d (.s s))] (.dN [(true,(jm s).enc.map .d),(false,[.d (.b (j3 s))])]):=fun S=>by
 refine⟨⟨_,func36,by kernel_rfl,by kernel_rfl⟩,fun w σ β vs hS hv=> ?_⟩;obtain⟨u,rfl,hu⟩:=WE hv
 obtain rfl:u=.string ⟨s.toArray⟩:=by cases hu.1;rfl
 refine(acC s w σ hS.live hS.vO hs).mono fun e w' ⟨lv,σ',he,hr,hg,hgl⟩=> ?_;exact⟨_,_,S,σ',β,he,hS.grow hg,Keep.refl _ _,Step.lX hg,agm hr (an1 hr),rfl,rfl⟩
def ajG:List UInt8:=[112,97,99,107,97,103,101]
def isK(s:List UInt8)(y:aj):Bool:=decide (dK y.ah 0=s)
noncomputable def ER(l:List aj):List bE:=(l.filter (isK jS)).map rU
noncomputable def ES(l:List aj):List aU:=(l.filter (isK nE)).map qb
noncomputable def ET(l:List aj):List aT:=(l.filter (isK kH)).map oW
noncomputable def EU(l:List aj):List aV:=(l.filter (isK wT)).map tu
noncomputable def jD(y:aj):Bool:=if isK jS y=true then uV y else if isK nE y=true then okD y else if isK kH y=true then wZ y else if isK wT y=true then okF y else false
noncomputable def decP(x:aj):aJ:=⟨dK x.ah 1,nC x.ah 2,ER (x.ah.drop 3),ES (x.ah.drop 3),ET (x.ah.drop 3),EU (x.ah.drop 3)⟩
noncomputable def adq(x:aj):Prop:=dI x=true/\3<=x.ah.length/\dK x.ah 0=ajG/\(gX x.ah 2).aG=[]/\(gX x.ah 2).ah.all (fun y=>decide (y.aG≠[]))=true
noncomputable def Aj(x:aj):Bool:=dec (adq x/\(∀y∈x.ah.drop 3,jD y=true)/\validPkg (decP x)=true)
def Dx:aJ:=⟨[],[],[],[],[],[]⟩
noncomputable def Hl(x:aj):aJ:=if Aj x=true then decP x else Dx
theorem agn{x:aj}(h:Aj x=false):Hl x=Dx:=if_neg (by rw[h];decide)
theorem RD{x:aj}(h:Aj x=true):Hl x=decP x:=if_pos h
theorem fO{s s':List UInt8}{y:aj}(h:isK s y=true)(hs:s≠s'):isK s' y=false:=by
 unfold isK at *
 rw[decide_eq_true_eq] at h;rw[h];exact decide_eq_false hs
theorem EW{α:Type}(s:List UInt8)(f:aj->α){l:List aj}{i:Nat}(hi:i<l.length):((l.take (i+1)).filter (isK s)).map f=((l.take i).filter (isK s)).map f++if isK s l[i]=true then [f l[i]] else []:=by
 rw[List.take_succ_eq_append_getElem hi,List.filter_append,List.map_append];congr 1;by_cases h:isK s l[i]=true
 ·rw[if_pos h,List.filter_cons,if_pos h];rfl
 ·rw[if_neg h,List.filter_cons,if_neg h];rfl
theorem aaC{α:Type}(s:List UInt8)(f:aj->α)(l:List aj)(i:Nat):(((l.take i).filter (isK s)).map f).length<=i:=by
 rw[List.length_map];exact Nat.le_trans (List.length_filter_le _ _) (List.length_take_le _ _)
theorem aaD(y:aj):(rU y).sz<=y.sz:=by
 unfold rU;split
 ·exact ND true y
 ·simp[KX,bE.sz,bE.aQ,dz,D.sz,bf]
theorem agp(y:aj):(qb y).sz<=y.sz:=by
 unfold qb;split
 ·exact Rq true y
 ·simp[aU.sz,aU.aQ,dz,D.sz,bf]
theorem agq(y:aj):(oW y).sz<=y.sz:=by
 unfold oW;split
 ·exact Rw true y
 ·have:LW.sz=0:=by simp[LW,jd,aT.sz,aT.aQ,ak.aQ,ak.aM,ak.fName,ak.fArgs,dz,D.sz,bf]
  omega
theorem agr(y:aj):(tu y).sz<=y.sz:=by
 unfold tu;split
 ·exact Ru true y
 ·have:LV.sz=0:=by simp[LV,jd,l6,aV.sz,aV.aQ,ak.aQ,ak.aM,ak.fName,ak.fArgs,ay.aQ,dz,D.sz,bf,ay.aM,ay.bG,ay.fName,ay.fN,ay.fType,ay.fArgs,ay.aS]
  omega
theorem Ac{α:Type}(s:List UInt8)(f:aj->α)(e:α->List D)(h:∀y,dz (e (f y))<=y.sz):∀l:List aj,bf (((l.filter (isK s)).map f).map e)<=cZ l/\((l.filter (isK s)).map f).length<=l.length
 |[]=>⟨Nat.le_refl _,Nat.le_refl _⟩
 |y::l=>by
  obtain⟨h1,h2⟩:=Ac s f e h l;rw[List.filter_cons];split
  ·have:=h y;rw[List.map_cons,List.map_cons,bf,cZ,List.length_cons,List.length_cons];omega
  ·rw[cZ,List.length_cons];omega
theorem aaE{x:aj}(h:x.sz<=500000):(decP x).sz<=4194304:=by
 have h1:=Xj x.ah 3;have h2:=eD x
 have h3:(x.ah.drop 3).length<=x.ah.length:=by rw[List.length_drop];omega
 have h4:=ru (gX x.ah 2).ah;have h5:(gX x.ah 2).sz<=cZ x.ah:=wW x.ah 2;have h5':=qg (gX x.ah 2);have h6:(dK x.ah 1).length<=cZ x.ah:=Nat.le_trans (AQ _) (wW x.ah 1);have t1:=Ac jS rU bE.enc aaD (x.ah.drop 3);have t2:=Ac nE qb aU.enc agp (x.ah.drop 3);have t3:=Ac kH oW aT.enc agq (x.ah.drop 3);have t4:=Ac wT tu aV.enc agr (x.ah.drop 3);have t5:=eD (gX x.ah 2)
 simp only[aJ.sz,aJ.aQ,dz,bW,D.sz,List.length_map,decP,ER,ES,ET,EU,nC,dB] at *
 omega
theorem RF(x:aj)(i:Nat){m:Nat}(h:x.sz<=m):(x.ah.getD i bT).sz<=m:=by
 have:=wW x.ah i;have:=eD x;omega
theorem TQ{b:Bool}{l:List aj}{i:Nat}(hi:i<l.length):((l.take i).map (wV b)).map bC.enc++[[.s (l[i].ah.getD 0 bT).aG,.sl (((l[i].ah.drop 1).map (dP b)).map ak.enc)]]=((l.take (i+1)).map (wV b)).map bC.enc:=by
 rw[List.take_succ_eq_append_getElem hi,List.map_append,List.map_append];simp only[List.map_cons,List.map_nil,bC.aQ];rfl
theorem al5{x:aj}(h:okD x=true):(qb x).fName=(kD false x).fName/\(qb x).aF=(kD false x).aF/\(qb x).aD=(kD false x).aD:=by
 unfold qb;rw[if_pos h,<-ajc h];exact⟨rfl,rfl,rfl⟩
theorem agt{x:aj}(h:okD x=false):qb x=⟨[],[],[]⟩:=by
 unfold qb;rw[if_neg (by rw[h];decide)]
theorem al6{x:aj}(h:okD x=true):qb x=kD true x:=if_pos h
theorem an2{x:aj}(h:x.ah.length=0):okD x=false:=aK fun h1=>by omega
theorem ajH(ok:Bool):Less (.dN [(true,[.d (.s []),.bn [],.bn []]),(false,[.d (.b ok)])]) (.dN [(true,[.d (.s []),.d (.sl []),.d (.sl [])]),(false,[.d (.b ok)])]):=
 (ig.cons (.cons (.refl _) (.cons (eT _) (.cons (eT _) .nil))) (.refl _)).less
theorem adr(n:Nat)(ok:Bool):Less (.dN [(true,[.d (.s []),.bn [],.bn []]),(false,[.d (.b ok)])]) (.dN [(true,[.d (.s []),.d (.ol n []),.d (.ol (n+1) [])]),(false,[.d (.b ok)])]):=
 (ig.cons (.cons (.refl _) (.cons (dR _) (.cons (dR _) .nil))) (.refl _)).less
def lc(l:List bC)(n:Nat):List (List D):=dX (l.map bC.enc) n
def UU(l:List bC):Nat:=jf (l.map bC.enc)
theorem al7(x:bC)(n:Nat):fQ x.enc n=[.s x.fName,.ol n (lt x.iA (n+1))]:=by
 rw[bC.aQ];simp only[fQ,tZ,uP,Nat.add_zero,lt]
theorem al8(x:aU)(n:Nat):fQ x.enc n=[.s x.fName,.ol n (x.aF.map encS),.ol (n+1) (lc x.aD (n+1+1))]:=by
 rw[aU.aQ];simp only[fQ,tZ,uP,Nat.add_zero,uQ,wX,Nat.zero_add,lc]
theorem an3(l:List ak)(n:Nat):KO (.ol n (lt l (n+1))) (.sl (l.map ak.enc)):=aak (.sl (l.map ak.enc)) n
theorem al9{l:List bC}{i:Nat}(hi:i<l.length)(n:Nat):lc (l.take i) n++[[.s l[i].fName,.ol (n+UU (l.take i)) (lt l[i].iA (n+UU (l.take i)+1))]]=lc (l.take (i+1)) n:=by
 rw[List.take_succ_eq_append_getElem hi];unfold lc UU;rw[List.map_append,nQ];simp only[List.map_cons,List.map_nil,dX,al7]
theorem RG(x:aj)(hsz:x.sz<=1048576):aC prog 116 [x.v] (.dN [(true,[.d (.s (qb x).fName),.d (.sl ((qb x).aF.map encS)),.d (.sl ((qb x).aD.map bC.enc))]),(false,[.d (.b (okD x))])]):=aC.of_le fun S=>by
 have h1:=eD x;have hds:=Rq false x;have hos:=alE (d:=kD false x) (by omega);obtain⟨l,hl⟩:∃l,l=x.ah.drop 3:=⟨_,rfl⟩
 have hll:l.length<=1048576:=by rw[hl,List.length_drop];omega
 have hlm:∀y∈l,y.sz<=1048576:=fun y hy=>by
  have:=gZ (List.mem_of_mem_drop (hl▸hy));omega
 obtain⟨T,hT⟩:∃T:Nat->List (List D),T=fun i=>((l.take i).map (wV false)).map bC.enc:=⟨_,rfl⟩
 have hT0:T 0=[]:=by rw[hT];rfl
 have fP:∀i,(T i).length<=i:=fun i=>by rw[hT];simp only[List.length_map];exact List.length_take_le _ _
 have hTs:∀i (hi:i<l.length),T i++[[.s (l[i].ah.getD 0 bT).aG,.sl (((l[i].ah.drop 1).map (dP false)).map ak.enc)]]=T (i+1):=fun i hi=>by rw[hT];exact TQ hi
 have hTe:T l.length=((kD false x).aD).map bC.enc:=by
  rw[hT];simp only
  rw[List.take_length,hl];rfl
 clear hT;refine zcx [.cell 2 99,.tmp 3] func116 ntmps116 ?_;refine W1 ?_;refine C1 (fG x 1 (by omega) (by omega)) ?_;refine C1 (fG x 2 (by omega) (by omega)) ?_;refine C1 (rR _ (RF x 2 (by omega))) ?_;refine W3 ?_;refine C1 (xW x 3 (by omega)) ?_;rw[<-hl];refine ow 2 2 2 _ rfl rfl ?_
 refine aR (ι:=Nat) zmx rfl [1,2,4,5,6] (fun i=>[.c (.ptr (0,0) 0),.c (.ptr (0,1) 0),.c (.ptr (0,2) 0),.c (.d (.sl (l.map aj.enc))),.c (.d (.i .i64 i))])
  (fun i=>[.box [.d (.s x.aG),.d (.sl (x.ah.map aj.enc))],.box [.d (.s []),.bn [],.bn []],.box [.d (.s (kD false x).fName),.d (.sl ((kD false x).aF.map encS)),.bB (0,3) (T i)],.tok 2 (T i)]::S)
  (fun i=>i<=l.length) (fun i=>l.length-i) 0 rfl (by rw[hT0];rfl) (Nat.zero_le _) ?_
 intro i hi;have hl':=fP i;refine W1 ?_;refine S0 (fun hb h=>?_) fun hb h=>?_
 ·have hi':i<l.length:=by omega
  have hm:=List.getElem_mem hi';have hs:=hTs i hi';have hz:=hlm _ hm;have hz1:=eD l[i];refine W3 ?_;refine C1 (fG l[i] 0 (by omega) (by omega)) ?_;refine W3 ?_;refine C1 (xW l[i] 1 (by omega)) ?_;refine C1 (Jy (l[i].ah.drop 1) (by rw[List.length_drop];omega) (fun t ht=>by have:=gZ (List.mem_of_mem_drop ht);omega)) ?_;refine W3 ?_;rw[hs];exact bL 4 (by decide) (i+1) (by omega) rfl rfl rfl rfl (by omega)
 ·have hi':i=l.length:=by omega
  subst hi';rw[hTe];clear hTs;refine C1 (ng x (by omega)) ?_
  have fU:okD x=false->Less (.dN [(true,[.d (.s []),.bn [],.bn []]),(false,[.d (.b false)])]) (.dN [(true,[.d (.s (qb x).fName),.d (.sl ((qb x).aF.map encS)),.d (.sl ((qb x).aD.map bC.enc))]),(false,[.d (.b (okD x))])]):=fun e=>by
   rw[agt e,e];exact ajH false
  refine S0 (fun hb h=>?_) fun hb h=>?_
  ·exact fU (aK fun e=>by rw[e.1] at h;cases h)
  have hv:=h;refine S0 (fun hb h=>?_) fun hb h=>?_
  ·exact fU (an2 (by omega))
  have hne:x.ah≠[]:=fun e=>by rw[e] at h;exact h rfl
  have hok:=ajb hne;rw[hv,Bool.true_and] at hok;refine W3 ?_;refine C1 (F5 (kD false x) (by omega)) ?_;refine C1 (tF (zS (kD false x)) x (by omega)) ?_;refine S0 (fun hb h=>?_) fun hb h=>?_
  ·exact fU (by rw[hok];exact aK h)
  ·have hy:okD x=true:=by rw[hok];exact bD h
   obtain⟨e1,e2,e3⟩:=al5 hy;rw[e1,e2,e3,hy];exact gu _
theorem Qo(x:aj)(n:Nat)(hsz:x.sz<=1048576):aC prog 100 [x.v] (.dN [(true,[.d (.s (qb x).fName),.d (.ol n ((qb x).aF.map encS)),.d (.ol (n+1) (lc (qb x).aD (n+1+1)))]),(false,[.d (.b (okD x))])]):=aC.of_le fun S=>by
 have h1:=eD x;have hds:=Rq true x;obtain⟨l,hl⟩:∃l,l=x.ah.drop 3:=⟨_,rfl⟩
 have hll:l.length<=1048576:=by rw[hl,List.length_drop];omega
 have hlm:∀y∈l,y.sz<=1048576:=fun y hy=>by
  have:=gZ (List.mem_of_mem_drop (hl▸hy));omega
 have fU:okD x=false->Less (.dN [(true,[.d (.s []),.bn [],.bn []]),(false,[.d (.b false)])]) (.dN [(true,[.d (.s (qb x).fName),.d (.ol n ((qb x).aF.map encS)),.d (.ol (n+1) (lc (qb x).aD (n+1+1)))]),(false,[.d (.b (okD x))])]):=fun e=>by
  rw[agt e,e];exact adr n false
 refine lU (n) (rs:=[.cell 2 99,.tmp 3]) zmx func100 ntmps100 rfl rfl rfl rfl rfl ?_;refine W1 ?_;refine C1 (uS x nE 3 (by omega) (by omega) (by omega)) ?_;refine S0 (fun hb h=>?_) fun hb h=>?_
 ·exact fU (aK fun e=>h ⟨e.1,e.2.1,e.2.2.1⟩)
 have hf:=h;have hlen:3<=x.ah.length:=hf.2.1;have hr:=gJ (l:=x.ah);have a1:=jM (l:=x.ah) (i:=1) (by omega)
 have g2:(x.ah.getD 2 bT)=x.ah[2]:=by rw[List.getD_eq_getElem?_getD,List.getElem?_eq_getElem (by omega)];rfl
 have z2:=RF x 2 hsz;rw[g2] at z2
 have hvars:(kD true x).aF=eY x.ah[2].ah:=by rw[<-g2];rfl
 have hname:(kD true x).fName=x.ah[1].aG:=a1;have tY:=qZ hf.1;have hsl:=W9 (kD true x);obtain⟨L,hL⟩:∃L:Nat->Nat,L=fun i=>n+1+1+UU ((l.map (wV true)).take i):=⟨_,rfl⟩;obtain⟨T,hT⟩:∃T:Nat->List (List D),T=fun i=>lc ((l.map (wV true)).take i) (n+1+1):=⟨_,rfl⟩;obtain⟨P,hP⟩:∃P:Nat->List (List D),P=fun i=>((l.take i).map (wV true)).map bC.enc:=⟨_,rfl⟩
 have hT0:T 0=[]:=by rw[hT];rfl
 have Vu:P 0=[]:=by rw[hP];rfl
 have hPl:∀i,(P i).length<=i:=fun i=>by rw[hP];simp only[List.length_map];exact List.length_take_le _ _
 have hPr:∀i,∀r∈P i,r.length=2:=fun i=>by
  rw[hP];intro r hr;obtain⟨z,_,rfl⟩:=List.mem_map.1 hr;exact z.eB
 have hTs:∀i (hi:i<l.length),T i++[[.s (wV true l[i]).fName,.ol (L i) (lt (wV true l[i]).iA (L i+1))]]=T (i+1):=fun i hi=>by
  have:=al9 (l:=l.map (wV true)) (i:=i) (by rw[List.length_map];exact hi) (n+1+1);rw[List.getElem_map] at this;rw[hT,hL];exact this
 have hPs:∀i (hi:i<l.length),P i++[[.s (l[i].ah.getD 0 bT).aG,.sl (((l[i].ah.drop 1).map (dP true)).map ak.enc)]]=P (i+1):=fun i hi=>by rw[hP];exact TQ hi
 have hTe:T l.length=lc (kD true x).aD (n+1+1):=by
  rw[hT];simp only
  rw[List.take_of_length_le (by simp),hl];rfl
 have hPe:P l.length=(kD true x).aD.map bC.enc:=by
  rw[hP];simp only
  rw[List.take_length,hl];rfl
 clear hT hP hL;refine C1 (qD x.ah[2] (by omega) n) ?_;refine⟨⟨by omega,by omega,hr⟩,?_⟩;rw[oz _ _ _ (Nat.le_refl _),<-hl,<-hvars,<-hname];refine W1 ?_;refine nS (n+1) 3 2 2 _ rfl rfl ?_
 refine aR (ι:=Nat×List (List D)) zmx rfl [1,2,4,25,26,27] (fun y=>[.c (.ptr (0,1) 0),.c (.ptr (0,2) 0),.c (.ptr (0,3) 0),.c (.d (.sl (l.map aj.enc))),.c (.d (.i .i64 l.length)),.c (.d (.i .i64 y.1))])
  (fun y=>[.seed n,.box [.d (.s x.aG),.d (.sl (x.ah.map aj.enc))],.box [.d (.s []),.bn [],.bn []],.box [.d (.s (kD true x).fName),.d (.ol n ((kD true x).aF.map encS)),.bB (0,4) y.2],.eu (n+1) 2 y.2]::S)
  (fun y=>y.1<=l.length/\iM y.2 (P y.1)/\((∀j,∀hj:j<l.length,j<y.1->l[j].ah≠[])->y.2=T y.1)) (fun y=>l.length-y.1) (0,[]) rfl rfl ⟨Nat.zero_le _,by rw[Vu];exact .nil,fun _=>hT0.symm⟩ ?_
 rintro⟨i,U⟩ ⟨p1,p2,p3⟩;simp only at p1 p2 p3;have hU1:=p2.length;have hU2:=hPl i;have hU3:=p2.rows (hPr i);refine W1 ?_;refine S0 (fun hb h=>?_) fun hb h=>?_
 ·have hi':i<l.length:=by omega
  have hm:=List.getElem_mem hi';have hs:=hTs i hi';have hps:=hPs i hi';have hz:=hlm _ hm;have hz1:=eD l[i];have hry:=gJ (l:=l[i].ah);refine W3 ?_;refine S0 (fun hb h=>?_) fun hb h=>?_
  ·have hpos:0<l[i].ah.length:=by omega
   refine W3 ?_;refine⟨⟨by omega,by omega,hry⟩,?_⟩;rw[oz _ _ _ (Nat.le_refl _)];refine C1 (G8 (l[i].ah.drop 1) (L i) (L i+1) (by rw[List.length_drop];omega) (fun t ht=>by have:=gZ (List.mem_of_mem_drop ht);omega)) ?_;refine W3 ?_
   have g0:l[i].ah.getD 0 bT=l[i].ah[0]:=by rw[List.getD_eq_getElem?_getD,List.getElem?_eq_getElem hpos];rfl
   rw[g0] at hps;have hcn:(wV true l[i]).fName=l[i].ah[0].aG:=jM hpos;rw[hcn] at hs;refine bL 5 (by decide) (i+1,_) (by simp only;omega) rfl rfl rfl rfl ⟨by simp only;omega,?_,fun hg=> ?_⟩
   ·simp only
    rw[<-hps];exact p2.snoc (.cons (.refl _) (.cons (an3 _ _) .nil))
   ·simp only
    rw[p3 fun j hj hji=>hg j hj (by simp only;omega),<-hs];rfl
  ·have hnil:l[i].ah=[]:=List.eq_nil_of_length_eq_zero (by omega)
   have g0:l[i].ah.getD 0 bT=bT:=by rw[hnil];rfl
   rw[g0,hnil] at hps;refine bL 5 (by decide) (i+1,_) (by simp only;omega) rfl rfl rfl rfl ⟨by simp only;omega,?_,fun hg=> ?_⟩
   ·simp only
    rw[<-hps];exact p2.snoc (.refl _)
   ·exact absurd hnil (hg i hi' (by simp only;omega))
 ·have hi':i=l.length:=by omega
  subst hi';clear hTs hPs;rw[hPe] at p2;refine jY (EA (kD true x) (by omega)) (.cons (fE.less (.cons (.refl _) (.cons (GZ _ _) (.cons (Qb p2) .nil)))) .nil) ?_;refine W1 ?_;refine S0 (fun hb h=>?_) fun hb h=>?_
  ·exact fU (aK fun e=>by rw[e.2.2.2.1] at h;cases h)
  have hv:=h;refine W3 ?_;refine jY (aC.less (zT (kD true x) 0 hv (by omega)) (yX (sM (kD true x)) 0)) (.cons (fE.less (.cons (.refl _) (.cons (GZ _ _) (.cons (Qb p2) .nil)))) .nil) ?_;refine W1 ?_;refine C1 (qK (sM (kD true x)) x (by omega)) ?_;refine S0 (fun hb h=>?_) fun hb h=>?_
  ·exact fU (aK fun e=>h e.2.2.2.2)
  ·have hy:okD x=true:=bD ⟨hf.1,hf.2.1,hf.2.2,hv,h⟩
   have hgood:U=T l.length:=p3 fun j hj _ e=>by
    have h3:=congrArg (fun z=>z.ah.drop 3) h;simp only[<-hl] at h3;have h4:(sM (kD true x)).ah.drop 3=(kD true x).aD.map BZ:=rfl;rw[h4] at h3
    have h5:l[j]=BZ ((kD true x).aD[j]'(by have:=congrArg List.length h3;rw[List.length_map] at this;omega)):=by
     simp only[<-h3,List.getElem_map]
    rw[h5] at e;simp[BZ,bY] at e
   rw[hgood,hTe,al6 hy,hy];exact gu _
noncomputable def FI(y:aj):List (List D):=if isK jS y=true then [(rU y).enc] else []
noncomputable def FJ(y:aj):List (List D):=if isK nE y=true then [(qb y).enc] else []
noncomputable def FK(y:aj):List (List D):=if isK kH y=true then [(oW y).enc] else []
noncomputable def addFn(y:aj):List (List D):=if isK wT y=true then [(tu y).enc] else []
theorem vD{s s':List UInt8}{y:aj}(h:isK s y=true)(hs:s≠s')(r:List (List D)):(if isK s' y=true then r else [])=[]:=if_neg (by rw[fO h hs];decide)
def pst(bx br:List C)(nm dp:D)(a b c d:List (List D)):List Obj:=[.box bx,.box br,.box [.d nm,.d dp,.bB (0,3) a,.bB (0,4) b,.bB (0,5) c,.bB (0,6) d],.tok 5 a,.tok 3 b,.tok 12 c,.tok 16 d]
theorem ajI{l:List aj}{i:Nat}(hi:i<l.length):(ER (l.take (i+1))).map bE.enc=(ER (l.take i)).map bE.enc++FI l[i]:=by
 unfold ER FI;rw[EW _ _ hi,List.map_append];split<;>rfl
theorem ajJ{l:List aj}{i:Nat}(hi:i<l.length):(ES (l.take (i+1))).map aU.enc=(ES (l.take i)).map aU.enc++FJ l[i]:=by
 unfold ES FJ;rw[EW _ _ hi,List.map_append];split<;>rfl
theorem ajK{l:List aj}{i:Nat}(hi:i<l.length):(ET (l.take (i+1))).map aT.enc=(ET (l.take i)).map aT.enc++FK l[i]:=by
 unfold ET FK;rw[EW _ _ hi,List.map_append];split<;>rfl
theorem ajL{l:List aj}{i:Nat}(hi:i<l.length):(EU (l.take (i+1))).map aV.enc=(EU (l.take i)).map aV.enc++addFn l[i]:=by
 unfold EU addFn;rw[EW _ _ hi,List.map_append];split<;>rfl
theorem agu(l:List aj)(i:Nat):((ER (l.take i)).map bE.enc).length<=i/\((ES (l.take i)).map aU.enc).length<=i/\((ET (l.take i)).map aT.enc).length<=i/\((EU (l.take i)).map aV.enc).length<=i:=by
 have h:=fun {α:Type} s (f:aj->α)=>aaC s f l i
 simp only[List.length_map,ER,ES,ET,EU] at *
 exact⟨h _ id,h _ id,h _ id,h _ id⟩
def vE:List C:=[.d (.s []),.bn [],.bn [],.bn [],.bn [],.bn []]
def aJ.cv(p:aJ):List C:=[.d (.s p.fName),.d (.sl (p.fJ.map encS)),.d (.sl (p.aL.map bE.enc)),.d (.sl (p.au.map aU.enc)),.d (.sl (p.aI.map aT.enc)),.d (.sl (p.aO.map aV.enc))]
theorem an4(e:aJ)(h:e=Dx)(ok:Bool):Less (.dN [(true,vE),(false,[.d (.b ok)])]) (.dN [(true,e.cv),(false,[.d (.b ok)])]):=by
 subst h;exact(ig.cons (.cons (.refl _) (.cons (eT _) (.cons (eT _) (.cons (eT _) (.cons (eT _) (.cons (eT _) .nil)))))) (.refl _)).less
theorem ZJ(y:aj)(hsz:y.sz<=1048576)(bx br:List C)(nm dp:D)(a b c d:List (List D))(Ω:Store)(ha:a.length<=1048576)(hb:b.length<=1048576)(hc:c.length<=1048576)(hd:d.length<=1048576):
 dw prog 63 [.c (.ptr (0,2) 0),y.v] (pst bx br nm dp a b c d::Ω) (fun r S'=>r=.c (.d (.b (jD y)))/\S'=pst bx br nm dp (a++FI y) (b++FJ y) (c++FK y) (d++addFn y)::Ω):=by
 unfold pst;refine zcx [.tmp 4] func63 ntmps63 ?_;refine W1 ?_;refine C1 (fG y 0 (by omega) (by omega)) ?_;have hk:∀s,isK s y=decide ((y.ah.getD 0 bT).aG=s):=fun s=>rfl;refine S0 (fun hb h=>?_) fun hb h=>?_
 ·have h1:isK jS y=true:=by rw[hk];exact hb
  refine C1 (XW y (by omega)) ?_;refine W3 ?_;have e0:jD y=uV y:=if_pos h1;have e1:FI y=[(rU y).enc]:=if_pos h1;have e2:FJ y=[]:=vD h1 (by decide) _;have e3:FK y=[]:=vD h1 (by decide) _;have e4:addFn y=[]:=vD h1 (by decide) _;rw[e0,e1,e2,e3,e4];exact Z1
  (repeat(with_reducible refine And.intro ?_ ?_;focus first|omega|rfl|assumption|exact⟨_,rfl,rfl⟩|(simp;omega)|(simp;done)))
 have n1:isK jS y=false:=by rw[hk];exact hb
 refine S0 (fun hb h=>?_) fun hb h=>?_
 ·have h1:isK nE y=true:=by rw[hk];exact hb
  refine C1 (RG y (by omega)) ?_;refine W3 ?_
  have e0:jD y=okD y:=by unfold jD;simp only[n1,h1,if_false,if_true,Bool.false_eq_true]
  have e1:FI y=[]:=vD h1 (by decide) _;have e2:FJ y=[(qb y).enc]:=if_pos h1;have e3:FK y=[]:=vD h1 (by decide) _;have e4:addFn y=[]:=vD h1 (by decide) _;rw[e0,e1,e2,e3,e4];exact Z1
  (repeat(with_reducible refine And.intro ?_ ?_;focus first|omega|rfl|assumption|exact⟨_,rfl,rfl⟩|(simp;omega)|(simp;done)))
 have n2:isK nE y=false:=by rw[hk];exact hb
 refine S0 (fun hb h=>?_) fun hb h=>?_
 ·have h1:isK kH y=true:=by rw[hk];exact hb
  refine C1 (Zw y (by omega)) ?_;refine W3 ?_
  have e0:jD y=wZ y:=by unfold jD;simp only[n1,n2,h1,if_false,if_true,Bool.false_eq_true]
  have e1:FI y=[]:=vD h1 (by decide) _;have e2:FJ y=[]:=vD h1 (by decide) _;have e3:FK y=[(oW y).enc]:=if_pos h1;have e4:addFn y=[]:=vD h1 (by decide) _;rw[e0,e1,e2,e3,e4];exact Z1
  (repeat(with_reducible refine And.intro ?_ ?_;focus first|omega|rfl|assumption|exact⟨_,rfl,rfl⟩|(simp;omega)|(simp;done)))
 have n3:isK kH y=false:=by rw[hk];exact hb
 refine S0 (fun hb h=>?_) fun hb h=>?_
 ·have h1:isK wT y=true:=by rw[hk];exact hb
  refine C1 (XF y (by omega)) ?_;refine W3 ?_
  have e0:jD y=okF y:=by unfold jD;simp only[n1,n2,n3,h1,if_false,if_true,Bool.false_eq_true]
  have e1:FI y=[]:=vD h1 (by decide) _;have e2:FJ y=[]:=vD h1 (by decide) _;have e3:FK y=[]:=vD h1 (by decide) _;have e4:addFn y=[(tu y).enc]:=if_pos h1;rw[e0,e1,e2,e3,e4];exact Z1
  (repeat(with_reducible refine And.intro ?_ ?_;focus first|omega|rfl|assumption|exact⟨_,rfl,rfl⟩|(simp;omega)|(simp;done)))
 have n4:isK wT y=false:=by rw[hk];exact hb
 unfold jD FI FJ FK addFn;simp only[n1,n2,n3,n4,if_false,Bool.false_eq_true,List.append_nil];exact⟨trivial,trivial⟩
theorem ZK(x:aj)(hsz:x.sz<=1048576):aC prog 39 [x.v] (.dN [(true,(Hl x).cv),(false,[.d (.b (Aj x))])]):=aC.of_le fun S=>by
 have h1:=eD x;obtain⟨l,hl⟩:∃l,l=x.ah.drop 3:=⟨_,rfl⟩
 have hll:l.length<=1048576:=by rw[hl,List.length_drop];omega
 have hlen:l.length=x.ah.length-3:=by rw[hl,List.length_drop]
 have hlm:∀y∈l,y.sz<=1048576:=fun y hy=>by
  have:=gZ (List.mem_of_mem_drop (hl▸hy));omega
 have fU:Aj x=false->Less (.dN [(true,vE),(false,[.d (.b false)])]) (.dN [(true,(Hl x).cv),(false,[.d (.b (Aj x))])]):=fun e=>by
  rw[e];exact an4 _ (agn e) false
 have hnm:((x.ah.getD 2 bT).ah).length<=1073741824:=by
  have:=RF x 2 (Nat.le_refl _);have:=eD (x.ah.getD 2 bT);omega
 refine zcx [.cell 2 44,.tmp 3] func39 ntmps39 ?_;refine W1 ?_;refine C1 (fG x 2 (by omega) (by omega)) ?_;refine C1 (EI _ hnm) ?_;refine C1 (fG x 1 (by omega) (by omega)) ?_;refine C1 (ng x (by omega)) ?_;refine S0 (fun hb h=>?_) fun hb h=>?_
 ·exact fU (aK fun e=>by rw[e.1.1] at h;cases h)
 have hv:=h;refine S0 (fun hb h=>?_) fun hb h=>?_
 ·exact fU (aK fun e=>by have:=e.1.2.1;omega)
 have h3:3<=x.ah.length:=by omega
 refine W3 ?_;have a0:x.ah[0].aG=dK x.ah 0:=(jM (by omega)).symm;have g2:x.ah[2]=gX x.ah 2:=(jC (by omega)).symm;refine S0 (fun hb h=>?_) fun hb h=>?_
 ·exact fU (aK fun e=>h (a0.trans e.1.2.2.1))
 have hw:dK x.ah 0=ajG:=by rw[<-a0];exact h
 refine W3 ?_;refine S0 (fun hb h=>?_) fun hb h=>?_
 ·exact fU (aK fun e=>h (by rw[g2];exact e.1.2.2.2.1))
 have hz2:(gX x.ah 2).aG=[]:=by rw[<-g2];exact h
 refine S0 (fun hb h=>?_) fun hb h=>?_
 ·exact fU (aK fun e=>by have:=e.1.2.2.2.2;unfold allA at h;rw[show(x.ah.getD 2 bT)=gX x.ah 2 from rfl,this] at h;cases h)
 have hall:(gX x.ah 2).ah.all (fun y=>decide (y.aG≠[]))=true:=h;have hhead:adq x:=⟨hv,h3,hw,hz2,hall⟩;have hvs:=qZ hv;refine ow 2 2 5 _ rfl rfl ?_;refine ow 2 3 3 _ rfl rfl ?_;refine ow 2 4 12 _ rfl rfl ?_;refine ow 2 5 16 _ rfl rfl ?_
 refine aR (ι:=Nat) zmx rfl [1,2,6,7] (fun i=>[.c (.ptr (0,0) 0),.c (.ptr (0,1) 0),.c (.ptr (0,2) 0),.c (.d (.i .i64 (i+3:Nat)))])
  (fun i=>pst [.d (.s x.aG),.d (.sl (x.ah.map aj.enc))] vE (.s (x.ah.getD 1 bT).aG) (.sl ((eY (x.ah.getD 2 bT).ah).map encS)) ((ER (l.take i)).map bE.enc) ((ES (l.take i)).map aU.enc) ((ET (l.take i)).map aT.enc) ((EU (l.take i)).map aV.enc)::S)
  (fun i=>i<=l.length/\∀j,∀hj:j<l.length,j<i->jD l[j]=true) (fun i=>l.length-i) 0 rfl rfl ⟨Nat.zero_le _,fun j _ h=>by omega⟩ ?_
 rintro i ⟨p1,p2⟩;obtain⟨t1,t2,t3,t4⟩:=agu l i;simp -implicitDefEqProofs (disch:=omega) only[go_sem,pst];refine S0 (fun hb h=>?_) fun hb h=>?_
 ·have hi:i<l.length:=by omega
  have hm:=List.getElem_mem hi;have hz:=hlm _ hm
  have hg:x.ah[i+3]'(by omega)=l[i]:=by
   simp only[hl,List.getElem_drop];congr 1;omega
  refine W3 ?_;simp only[hg];have hc:=ZJ l[i] hz [.d (.s x.aG),.d (.sl (x.ah.map aj.enc))] vE (.s (x.ah.getD 1 bT).aG) (.sl ((eY (x.ah.getD 2 bT).ah).map encS)) _ _ _ _ S (Nat.le_trans t1 (by omega)) (Nat.le_trans t2 (by omega)) (Nat.le_trans t3 (by omega)) (Nat.le_trans t4 (by omega));rw[<-ajI hi,<-ajJ hi,<-ajK hi,<-ajL hi] at hc;refine cK rfl hc ?_;simp -implicitDefEqProofs (disch:=omega) only[go_sem,pst];refine S0 (fun hb h=>?_) fun hb h=>?_
  ·exact⟨by decide,fU (aK fun e=>by have:=e.2.1 l[i] (by rw[<-hl];exact hm);rw[this] at h;cases h)⟩
  ·refine bV (i+1) (by omega) rfl rfl ⟨by omega,fun j hj hji=> ?_⟩;by_cases e:j=i
   ·subst e;exact h
   ·exact p2 j hj (by omega)
 ·have hi:i=l.length:=by omega
  subst hi;rw[List.take_length,hl];refine C1 (vY (decP x) (aaE (by omega))) ?_
  have hits:∀y∈x.ah.drop 3,jD y=true:=fun y hy=>by
   rw[<-hl] at hy;obtain⟨j,hj,rfl⟩:=List.mem_iff_getElem.1 hy;exact p2 j hj hj
  refine S0 (fun hb h=>?_) fun hb h=>?_
  ·exact⟨by decide,fU (aK fun e=>by rw[e.2.2] at h;cases h)⟩
  ·have hy:Aj x=true:=bD ⟨hhead,hits,h⟩;rw[RD hy,hy];exact⟨by decide,gu _⟩
def oK(b:Bool)(r:List D)(n:Nat):List (List D):=if b=true then [fQ r n] else []
def Gd(n:Nat)(bx br:List C)(nm dp:D)(n1 n2 n3 n4:Nat)(a b c d:List (List D))(mo:List Obj):List Obj:=.seed n:: .box bx:: .box br:: .box [.d nm,.d dp,.bB (0,4) a,.bB (0,5) b,.bB (0,6) c,.bB (0,7) d]:: .eu n1 5 a:: .eu n2 3 b:: .eu n3 12 c:: .eu n4 16 d::mo
def unD:C->D
 | .d x=>x
 |_=>.s []
theorem ama{r:List D}{cs:List C}(h:r.map C.d=cs):r=cs.map unD:=by
 subst h;rw[List.map_map];exact(List.map_id r).symm
theorem Dy{b:Bool}{r:List D}{n:Nat}{cs:List C}(h:b=true)(hc:(fQ r n).map C.d=cs):oK b r n=[cs.map unD]:=by
 unfold oK;rw[if_pos h,ama hc]
theorem jl{b:Bool}{r:List D}{n:Nat}(h:b=false):oK b r n=[]:=by
 unfold oK;rw[if_neg (by rw[h];decide)]
theorem amb(x:aU)(n:Nat):(fQ x.enc n).map C.d=[.d (.s x.fName),.d (.ol n (x.aF.map encS)),.d (.ol (n+1) (lc x.aD (n+1+1)))]:=by rw[al8];rfl
def Ak(p:aJ)(n:Nat):Nat:=n+1+(jf (p.aL.map bE.enc)+1)
def Al(p:aJ)(n:Nat):Nat:=Ak p n+(jf (p.au.map aU.enc)+1)
def Ck(p:aJ)(n:Nat):Nat:=Al p n+(jf (p.aI.map aT.enc)+1)
theorem Ja(p:aJ)(n:Nat):fQ p.enc n=[.s p.fName,.ol n (p.fJ.map encS),.ol (n+1) (dX (p.aL.map bE.enc) (n+1+1)),.ol (Ak p n) (dX (p.au.map aU.enc) (Ak p n+1)),.ol (Al p n) (dX (p.aI.map aT.enc) (Al p n+1)),.ol (Ck p n) (dX (p.aO.map aV.enc) (Ck p n+1))]:=by
 simp only[aJ.aQ,fQ,tZ,uP,Nat.add_zero,uQ,wX,Nat.zero_add,Ak,Al,Ck]
theorem FL{α:Type}(s:List UInt8)(f:aj->α)(e:α->List D){l:List aj}{i:Nat}(hi:i<l.length)(n:Nat):
 dX ((((l.take (i+1)).filter (isK s)).map f).map e) n=dX ((((l.take i).filter (isK s)).map f).map e) n++oK (isK s l[i]) (e (f l[i])) (n+jf ((((l.take i).filter (isK s)).map f).map e)):=by
 rw[EW _ _ hi,List.map_append,nQ];congr 1;unfold oK;split<;>rfl
theorem Jb{α:Type}(s:List UInt8)(f:aj->α)(e:α->List D)(l:List aj)(i n:Nat):(dX ((((l.take i).filter (isK s)).map f).map e) n).length<=i:=by
 rw[kC,List.length_map];exact aaC s f l i
theorem agv(e:aJ)(h:e=Dx)(n:Nat)(ok:Bool):Less (.dN [(true,vE),(false,[.d (.b ok)])]) (.dN [(true,(fQ e.enc n).map .d),(false,[.d (.b ok)])]):=by
 subst h;rw[Ja];exact(ig.cons (.cons (.refl _) (.cons (dR _) (.cons (dR _) (.cons (dR _) (.cons (dR _) (.cons (dR _) .nil)))))) (.refl _)).less
theorem ZL(y:aj)(hsz:y.sz<=1048576)(n:Nat)(bx br:List C)(nm dp:D)(n1 n2 n3 n4:Nat)(q1 q2 q3 q4:Nat)(a b c d:List (List D))(mo:List Ab.Obj)(Ω:Store)(ha:a.length<=1048576)(hb:b.length<=1048576)(hc:c.length<=1048576)(hd:d.length<=1048576):
 dw prog 56 [.c (.ptr (0,3) 0),y.v] (Gd n bx br nm dp n1 n2 n3 n4 a b c d mo::Ω) (fun r S'=>r=.c (.d (.b (jD y)))/\S'=Gd n bx br nm dp n1 n2 n3 n4 (a++oK (isK jS y) (rU y).enc q1) (b++oK (isK nE y) (qb y).enc q2) (c++oK (isK kH y) (oW y).enc q3) (d++oK (isK wT y) (tu y).enc q4) mo::Ω):=by
 have hg:∀h0:0<y.ah.length,y.ah[0].aG=dK y.ah 0:=fun h0=>(jM h0).symm;obtain⟨A,hA'⟩:∃A,A=oK (isK jS y) (rU y).enc q1:=⟨_,rfl⟩;obtain⟨B,hB'⟩:∃A,A=oK (isK nE y) (qb y).enc q2:=⟨_,rfl⟩;obtain⟨C,hC'⟩:∃A,A=oK (isK kH y) (oW y).enc q3:=⟨_,rfl⟩;obtain⟨D,hD'⟩:∃A,A=oK (isK wT y) (tu y).enc q4:=⟨_,rfl⟩;rw[<-hA',<-hB',<-hC',<-hD'];have Qp:∀{s},dK y.ah 0=s->isK s y=true:=fun h=>decide_eq_true h;have K3:∀{s},¬dK y.ah 0=s->isK s y=false:=fun h=>decide_eq_false h;unfold Gd;refine zcx [.tmp 4] func56 ntmps56 ?_;refine W1 ?_;refine S0 (fun hb h=>?_) fun hb h=>?_
 ·have h0:y.ah=[]:=List.eq_nil_of_length_eq_zero (by omega);have hn:∀s,s≠[]->isK s y=false:=fun s hs=>K3 (by rw[h0];exact fun e=>hs e.symm);have m1:=hn jS (by decide);have m2:=hn nE (by decide);have m3:=hn kH (by decide);have m4:=hn wT (by decide)
  have e0:jD y=false:=by unfold jD;simp only[m1,m2,m3,m4,if_false,Bool.false_eq_true]
  rw[e0,hA',hB',hC',hD',jl m1,jl m2,jl m3,jl m4];simp only[List.append_nil];exact⟨trivial,trivial⟩
 have h0:0<y.ah.length:=by omega
 refine W3 ?_;simp only[hg h0];refine S0 (fun hb h=>?_) fun hb h=>?_
 ·have k1:isK jS y=true:=Qp h
  have e0:jD y=uV y:=by unfold jD;simp only[k1,if_false,if_true,Bool.false_eq_true]
  have hA:=(hA').trans (Dy k1 (XQ _ _));simp only[List.map_cons,List.map_nil,unD] at hA;have hB:=(hB').trans (jl (fO k1 (by decide)));have hC:=(hC').trans (jl (fO k1 (by decide)));have hD:=(hD').trans (jl (fO k1 (by decide)));rw[e0,hA,hB,hC,hD];refine C1 (Uw y q1 hsz) ?_;refine W3 ?_;omega
 have m1:isK jS y=false:=K3 h;refine S0 (fun hb h=>?_) fun hb h=>?_
 ·have k1:isK nE y=true:=Qp h
  have e0:jD y=okD y:=by unfold jD;simp only[m1,k1,if_false,if_true,Bool.false_eq_true]
  have hA:=(hA').trans (jl (fO k1 (by decide)));have hB:=(hB').trans (Dy k1 (amb _ _));simp only[List.map_cons,List.map_nil,unD] at hB;have hC:=(hC').trans (jl (fO k1 (by decide)));have hD:=(hD').trans (jl (fO k1 (by decide)));rw[e0,hA,hB,hC,hD];refine C1 (Qo y q2 hsz) ?_;refine W3 ?_;omega
 have m2:isK nE y=false:=K3 h;refine S0 (fun hb h=>?_) fun hb h=>?_
 ·have k1:isK kH y=true:=Qp h
  have e0:jD y=wZ y:=by unfold jD;simp only[m1,m2,k1,if_false,if_true,Bool.false_eq_true]
  have hA:=(hA').trans (jl (fO k1 (by decide)));have hB:=(hB').trans (jl (fO k1 (by decide)));have hC:=(hC').trans (Dy k1 (al2 _ _));simp only[List.map_cons,List.map_nil,unD] at hC;have hD:=(hD').trans (jl (fO k1 (by decide)));rw[e0,hA,hB,hC,hD];refine C1 (XP y q3 hsz) ?_;refine W3 ?_;omega
 have m3:isK kH y=false:=K3 h;refine S0 (fun hb h=>?_) fun hb h=>?_
 ·have k1:isK wT y=true:=Qp h
  have e0:jD y=okF y:=by unfold jD;simp only[m1,m2,m3,k1,if_false,if_true,Bool.false_eq_true]
  have hA:=(hA').trans (jl (fO k1 (by decide)));have hB:=(hB').trans (jl (fO k1 (by decide)));have hC:=(hC').trans (jl (fO k1 (by decide)));have hD:=(hD').trans (Dy k1 (alX _ _));simp only[List.map_cons,List.map_nil,unD] at hD;rw[e0,hA,hB,hC,hD];refine C1 (Uv y q4 hsz) ?_;refine W3 ?_;omega
 have m4:isK wT y=false:=K3 h
 have e0:jD y=false:=by unfold jD;simp only[m1,m2,m3,m4,if_false,Bool.false_eq_true]
 rw[e0,hA',hB',hC',hD',jl m1,jl m2,jl m3,jl m4];simp only[List.append_nil];exact⟨trivial,trivial⟩
theorem X3(x:aj)(n:Nat)(hsz:x.sz<=1048576):aC prog 37 [x.v] (.dN [(true,(fQ (Hl x).enc n).map .d),(false,[.d (.b (Aj x))])]):=aC.of_le fun S=>by
 have h1:=eD x;obtain⟨l,hl⟩:∃l,l=x.ah.drop 3:=⟨_,rfl⟩
 have hll:l.length<=1048576:=by rw[hl,List.length_drop];omega
 have hlen:l.length=x.ah.length-3:=by rw[hl,List.length_drop]
 have hlm:∀y∈l,y.sz<=1048576:=fun y hy=>by
  have:=gZ (List.mem_of_mem_drop (hl▸hy));omega
 have fU:Aj x=false->Less (.dN [(true,vE),(false,[.d (.b false)])]) (.dN [(true,(fQ (Hl x).enc n).map .d),(false,[.d (.b (Aj x))])]):=fun e=>by
  rw[e];exact agv _ (agn e) n false
 refine lU (n) (rs:=[.cell 2 44,.tmp 3]) zmx func37 ntmps37 rfl rfl rfl rfl rfl ?_;refine W1 ?_;refine C1 (uS x ajG 3 (by omega) (by omega) (by omega)) ?_;refine S0 (fun hb h=>?_) fun hb h=>?_
 ·exact fU (aK fun e=>h ⟨e.1.1,e.1.2.1,e.1.2.2.1⟩)
 have hf:=h;have h3:3<=x.ah.length:=hf.2.1;refine W3 ?_;have g2:x.ah[2]=gX x.ah 2:=(jC (by omega)).symm;have a1:x.ah[1].aG=dK x.ah 1:=(jM (by omega)).symm;simp only[g2];refine S0 (fun hb h=>?_) fun hb h=>?_
 ·exact fU (aK fun e=>h e.1.2.2.2.1)
 have hz2:=h;refine W3 ?_;have hvs:=qZ hf.1;obtain⟨F,hF⟩:∃F,F=decP x:=⟨_,rfl⟩
 have hnm:(gX x.ah 2).ah.length<=1073741824:=by
  have:=wW x.ah 2;have:=eD (gX x.ah 2);have:(gX x.ah 2).sz<=cZ x.ah:=wW x.ah 2;omega
 have hc:=zX (gX x.ah 2).ah hnm n;rw[<-g2] at hc;refine aX hc ?_;refine W1 ?_;refine W3 ?_;refine⟨⟨by omega,by omega,gJ⟩,?_⟩;rw[oz _ _ _ (Nat.le_refl _),<-hl];refine W1 ?_;refine nS (n+1) 3 2 5 _ rfl rfl ?_;refine nS (Ak F n) 3 3 3 _ rfl rfl ?_;refine nS (Al F n) 3 4 12 _ rfl rfl ?_;refine nS (Ck F n) 3 5 16 _ rfl rfl ?_;obtain⟨T1,hT1⟩:∃T:Nat->List (List D),T=fun i=>dX ((((l.take i).filter (isK jS)).map rU).map bE.enc) (n+1+1):=⟨_,rfl⟩;obtain⟨T2,Vx⟩:∃T:Nat->List (List D),T=fun i=>dX ((((l.take i).filter (isK nE)).map qb).map aU.enc) (Ak F n+1):=⟨_,rfl⟩;obtain⟨T3,EP⟩:∃T:Nat->List (List D),T=fun i=>dX ((((l.take i).filter (isK kH)).map oW).map aT.enc) (Al F n+1):=⟨_,rfl⟩;obtain⟨T4,hT4⟩:∃T:Nat->List (List D),T=fun i=>dX ((((l.take i).filter (isK wT)).map tu).map aV.enc) (Ck F n+1):=⟨_,rfl⟩
 have z1:T1 0=[]:=by rw[hT1];rfl
 have z2:T2 0=[]:=by rw[Vx];rfl
 have z3:T3 0=[]:=by rw[EP];rfl
 have z4:T4 0=[]:=by rw[hT4];rfl
 have t1:∀i,(T1 i).length<=i:=fun i=>by rw[hT1];exact Jb _ _ _ _ _ _
 have t2:∀i,(T2 i).length<=i:=fun i=>by rw[Vx];exact Jb _ _ _ _ _ _
 have t3:∀i,(T3 i).length<=i:=fun i=>by rw[EP];exact Jb _ _ _ _ _ _
 have t4:∀i,(T4 i).length<=i:=fun i=>by rw[hT4];exact Jb _ _ _ _ _ _
 have apJ:∀i (hi:i<l.length) (mo:List Ab.Obj),dw prog 56 [.c (.ptr (0,3) 0),l[i].v] (Gd n [.d (.s x.aG),.d (.sl (x.ah.map aj.enc))] vE (.s x.ah[1].aG) (.ol n ((eY x.ah[2].ah).map encS)) (n+1) (Ak F n) (Al F n) (Ck F n) (T1 i) (T2 i) (T3 i) (T4 i) mo::S) (fun r S'=>r=.c (.d (.b (jD l[i])))/\S'=Gd n [.d (.s x.aG),.d (.sl (x.ah.map aj.enc))] vE (.s x.ah[1].aG) (.ol n ((eY x.ah[2].ah).map encS)) (n+1) (Ak F n) (Al F n) (Ck F n) (T1 (i+1)) (T2 (i+1)) (T3 (i+1)) (T4 (i+1)) mo::S):=fun i hi mo=>by
  have e1:T1 (i+1)=T1 i++oK (isK jS l[i]) (rU l[i]).enc ((n+1+1)+jf ((((l.take i).filter (isK jS)).map rU).map bE.enc)):=by rw[hT1];exact FL jS rU bE.enc hi (n+1+1)
  have e2:T2 (i+1)=T2 i++oK (isK nE l[i]) (qb l[i]).enc ((Ak F n+1)+jf ((((l.take i).filter (isK nE)).map qb).map aU.enc)):=by rw[Vx];exact FL nE qb aU.enc hi (Ak F n+1)
  have e3:T3 (i+1)=T3 i++oK (isK kH l[i]) (oW l[i]).enc ((Al F n+1)+jf ((((l.take i).filter (isK kH)).map oW).map aT.enc)):=by rw[EP];exact FL kH oW aT.enc hi (Al F n+1)
  have e4:T4 (i+1)=T4 i++oK (isK wT l[i]) (tu l[i]).enc ((Ck F n+1)+jf ((((l.take i).filter (isK wT)).map tu).map aV.enc)):=by rw[hT4];exact FL wT tu aV.enc hi (Ck F n+1)
  rw[e1,e2,e3,e4];exact ZL l[i] (hlm _ (List.getElem_mem hi)) n _ _ _ _ _ _ _ _ _ _ _ _ _ _ _ _ mo S (Nat.le_trans (t1 i) (by omega)) (Nat.le_trans (t2 i) (by omega)) (Nat.le_trans (t3 i) (by omega)) (Nat.le_trans (t4 i) (by omega))
 have w1:T1 l.length=dX (F.aL.map bE.enc) (n+1+1):=by rw[hT1,hF];simp only;rw[List.take_length,hl];rfl
 have w2:T2 l.length=dX (F.au.map aU.enc) (Ak F n+1):=by rw[Vx,hF];simp only;rw[List.take_length,hl];rfl
 have w3:T3 l.length=dX (F.aI.map aT.enc) (Al F n+1):=by rw[EP,hF];simp only;rw[List.take_length,hl];rfl
 have w4:T4 l.length=dX (F.aO.map aV.enc) (Ck F n+1):=by rw[hT4,hF];simp only;rw[List.take_length,hl];rfl
 clear hT1 Vx EP hT4 hc
 have hall:allA x.ah[2].ah=(gX x.ah 2).ah.all (fun y=>decide (y.aG≠[])):=by rw[g2];rfl
 obtain⟨B,hB⟩:∃B,B=allA x.ah[2].ah:=⟨_,rfl⟩;rw[<-hB]
 have arS:F.fName=x.ah[1].aG:=by rw[hF];exact a1.symm
 have arT:F.fJ=eY x.ah[2].ah:=by rw[hF,g2];rfl
 cases B with
 |false=>
  have hno:Aj x=false:=aK fun e=>by have:=e.1.2.2.2.2;rw[<-hall,<-hB] at this;cases this
  refine aR (ι:=Nat) zmx rfl [2,5,6,39,40,41] (fun i=>[.c (.ptr (0,2) 0),.c (.d (.b false)),.c (.ptr (0,3) 0),.c (.d (.sl (l.map aj.enc))),.c (.d (.i .i64 l.length)),.c (.d (.i .i64 0))])
   (fun i=>Gd n [.d (.s x.aG),.d (.sl (x.ah.map aj.enc))] vE (.s x.ah[1].aG) (.ol n ((eY x.ah[2].ah).map encS)) (n+1) (Ak F n) (Al F n) (Ck F n) [] [] [] [] []::S)
   (fun i=>i=0) (fun i=>i) 0 rfl rfl rfl ?_
  rintro i p1;simp -implicitDefEqProofs (disch:=omega) only[go_sem,Gd];refine S0 (fun hb h=>?_) fun hb h=>?_
  ·refine W3 ?_;exact⟨by decide,fU hno⟩
  ·exact⟨by decide,fU hno⟩
 |true=>
  have hhead:adq x:=⟨hf.1,h3,hf.2.2,hz2,hall.symm.trans hB.symm⟩
  refine aR (ι:=Nat) zmx rfl [2,5,6,39,40,41] (fun i=>[.c (.ptr (0,2) 0),.c (.d (.b true)),.c (.ptr (0,3) 0),.c (.d (.sl (l.map aj.enc))),.c (.d (.i .i64 l.length)),.c (.d (.i .i64 i))])
   (fun i=>Gd n [.d (.s x.aG),.d (.sl (x.ah.map aj.enc))] vE (.s x.ah[1].aG) (.ol n ((eY x.ah[2].ah).map encS)) (n+1) (Ak F n) (Al F n) (Ck F n) (T1 i) (T2 i) (T3 i) (T4 i) []::S)
   (fun i=>i<=l.length/\∀j,∀hj:j<l.length,j<i->jD l[j]=true) (fun i=>l.length-i) 0 rfl (by rw[z1,z2,z3,z4];rfl) ⟨Nat.zero_le _,fun j _ h=>by omega⟩ ?_
  rintro i ⟨p1,p2⟩;have t1:=t1 i;have t2:=t2 i;have t3:=t3 i;have t4:=t4 i;simp -implicitDefEqProofs (disch:=omega) only[go_sem,Gd];refine S0 (fun hb h=>?_) fun hb h=>?_
  ·have hi:i<l.length:=by omega
   refine W3 ?_;refine cK rfl (apJ i hi _) ?_;simp -implicitDefEqProofs (disch:=omega) only[go_sem,Gd];refine S0 (fun hb h=>?_) fun hb h=>?_
   ·exact⟨by decide,fU (aK fun e=>by have:=e.2.1 l[i] (by rw[<-hl];exact List.getElem_mem hi);rw[this] at h;cases h)⟩
   ·refine bL 8 (by decide) (i+1) (by omega) rfl rfl rfl rfl ⟨by omega,fun j hj hji=> ?_⟩;by_cases e:j=i
    ·subst e;exact h
    ·exact p2 j hj (by omega)
  ·have hi:i=l.length:=by omega
   subst hi;rw[w1,w2,w3,w4,<-arS,<-arT]
   have hits:∀y∈x.ah.drop 3,jD y=true:=fun y hy=>by
    rw[<-hl] at hy;obtain⟨j,hj,rfl⟩:=List.mem_iff_getElem.1 hy;exact p2 j hj hj
   have hcl:Less (.agg [.d (.s F.fName),.d (.ol n (F.fJ.map encS)),.d (.sl (dX (F.aL.map bE.enc) (n+1+1))),.d (.sl (dX (F.au.map aU.enc) (Ak F n+1))),.d (.sl (dX (F.aI.map aT.enc) (Al F n+1))),.d (.sl (dX (F.aO.map aV.enc) (Ck F n+1)))]) F.v:=
    (fE.cons (.refl _) (.cons (GZ _ _) (.cons (vM (pO _ _)) (.cons (vM (pO _ _)) (.cons (vM (pO _ _)) (.cons (vM (pO _ _)) .nil)))))).less
   refine jY (vX F (by rw[hF];exact aaE (by omega))) (.cons hcl .nil) ?_;refine W1 ?_
   with_reducible refine dZ (fun hb=> ?_) (fun hb=> ?_)<;>have h:=hb<;>(try simp only[wf_preprocess] at h)<;>simp -implicitDefEqProofs (disch:=omega) only[go_sem,hb,false_and,if_false]<;>refine W3 ?_
   ·exact⟨by decide,fU (aK fun e=>by rw[<-hF] at e;rw[e.2.2] at h;cases h)⟩
   ·have hy:Aj x=true:=bD ⟨hhead,hits,by rw[<-hF];exact h⟩;rw[RD hy,hy,<-hF];have hq:=Ja F n;simp only[aJ.aQ] at hq;rw[hq];exact⟨by decide,gu _⟩
theorem Uz(x:aj)(n:Nat)(hsz:x.sz<=1048576):aC prog 37 [x.v] (.dN [(true,(fQ (Hl x).enc n).map .d),(false,[.d (.b (Aj x))])]):=X3 x n hsz
noncomputable def uj(s:List UInt8):Bool:=j3 s&&Aj (jm s)
noncomputable def xM(s:List UInt8):aJ:=if j3 s=true then Hl (jm s) else Dx
abbrev aJ.cl(p:aJ)(n:Nat):List C:=[.d (.s p.fName),.d (.ol n (p.fJ.map encS)),.d (.ol (n+1) (dX (p.aL.map bE.enc) (n+1+1))),.d (.ol (Ak p n) (dX (p.au.map aU.enc) (Ak p n+1))),.d (.ol (Al p n) (dX (p.aI.map aT.enc) (Al p n+1))),.d (.ol (Ck p n) (dX (p.aO.map aV.enc) (Ck p n+1)))]
theorem Jc(p:aJ)(n:Nat):(fQ p.enc n).map C.d=p.cl n:=by rw[Ja];rfl
theorem UA(s:List UInt8)(hs:s.length<=1048576):aC prog 19 [.c (.d (.s s))] (.dN [(true,(xM s).cv),(false,[.d (.b (uj s))])]):=aC.of_le fun S=>by
 have hz:=X0 s;have c1:=Ux s hs;have c2:=ZK (jm s) hz
 have fU:j3 s=false->Less (.dN [(true,vE),(false,[.d (.b false)])]) (.dN [(true,(xM s).cv),(false,[.d (.b (uj s))])]):=fun e=>by
  have e1:xM s=Dx:=if_neg (by rw[e];decide)
  have e2:uj s=false:=by unfold uj;rw[e];rfl
  rw[e2];exact an4 _ e1 false
 have Qq:j3 s=true->xM s=Hl (jm s)/\uj s=Aj (jm s):=fun e=>⟨if_pos e,by unfold uj;rw[e];rfl⟩;obtain⟨X,hX⟩:∃X,X=jm s:=⟨_,rfl⟩;rw[<-hX] at c1 c2 Qq;refine zcx [.cell 2 44,.tmp 3] func19 ntmps19 ?_;refine W1 ?_;refine aX c1 ?_;simp -implicitDefEqProofs (disch:=omega) only[go_sem,aj.aQ,List.map_cons,List.map_nil];refine S0 (fun hb h=>?_) fun hb h=>?_
 ·exact fU h
 ·obtain⟨q1,q2⟩:=Qq h;rw[q1,q2];refine aX c2 ?_;simp -implicitDefEqProofs (disch:=omega) only[go_sem,aJ.cv];exact gu _
theorem Qr(s:List UInt8)(n:Nat)(hs:s.length<=1048576):aC prog 16 [.c (.d (.s s))] (.dN [(true,(fQ (xM s).enc n).map .d),(false,[.d (.b (uj s))])]):=aC.of_le fun S=>by
 rw[Jc];have hz:=X0 s;have c1:=Uy s (by omega);have c2:=Uz (jm s) n hz;rw[Jc] at c2
 have fU:j3 s=false->Less (.dN [(true,vE),(false,[.d (.b false)])]) (.dN [(true,(xM s).cl n),(false,[.d (.b (uj s))])]):=fun e=>by
  have e1:xM s=Dx:=if_neg (by rw[e];decide)
  have e2:uj s=false:=by unfold uj;rw[e];rfl
  rw[e2,<-Jc];exact agv _ e1 n false
 have Qq:j3 s=true->xM s=Hl (jm s)/\uj s=Aj (jm s):=fun e=>⟨if_pos e,by unfold uj;rw[e];rfl⟩;obtain⟨X,hX⟩:∃X,X=jm s:=⟨_,rfl⟩;rw[<-hX] at c1 c2 Qq;refine zcx [.cell 2 44,.tmp 3] func16 ntmps16 ?_;refine W1 ?_;refine aX c1 ?_;simp -implicitDefEqProofs (disch:=omega) only[go_sem,aj.aQ,List.map_cons,List.map_nil];refine S0 (fun hb h=>?_) fun hb h=>?_
 ·exact fU h
 ·obtain⟨q1,q2⟩:=Qq h;rw[q1,q2];refine aX c2 ?_;refine W1 ?_;exact gu _
def spl(c:UInt8)(acc:List UInt8):List UInt8->List (List UInt8)
 |[]=>[acc]
 |b::t=>if b=c then acc::spl c [] t else spl c (acc++[b]) t
theorem X4(c:UInt8):∀(s acc:List UInt8),(∀k:Nat,s[k]? ≠some c)->spl c acc s=[acc++s]
 |[],acc,_=>by simp[spl]
 |b::t,acc,h=>by
  have hb:b≠c:=fun e=>h 0 (by simp[e]);rw[spl,if_neg hb,X4 c t _ fun k hk=>h (k+1) (by simpa using hk)]
  simp
theorem X5(c:UInt8):∀(i:Nat)(s acc:List UInt8),s[i]? =some c->(∀k,k<i->s[k]? ≠some c)->spl c acc s=(acc++s.take i)::spl c [] (s.drop (i+1))
 |_,[],acc,h,_=>by simp at h
 |0,b::t,acc,h,_=>by
  obtain rfl:b=c:=by simpa using h
  simp[spl]
 |i+1,b::t,acc,h,hk=>by
  have hb:b≠c:=fun e=>hk 0 (by omega) (by simp[e]);rw[spl,if_neg hb,X5 c i t _ (by simpa using h) fun k hki hkc=>hk (k+1) (by omega) (by simpa using hkc)]
  simp
theorem adt(c:UInt8):∀(n:Nat)(s:List UInt8),s.length<=n->Lib.splitK [c] 0 (s.count c) s=spl c [] s:=by
 intro n
 induction n with
 |zero=>
  intro s hs;obtain rfl:s=[]:=List.eq_nil_of_length_eq_zero (by omega);rfl
 |succ n ih=>
  intro s hs;have hx:=Lib.indexByte_ge s c;by_cases hn:Lib.indexByte s c= -1
  ·have h0:=Lib.indexByte_none hn;rw[X4 c s [] h0]
   have hc:s.count c=0:=List.count_eq_zero.2 fun hm=>by
    obtain⟨k,hk⟩:=List.mem_iff_getElem?.1 hm;exact h0 k hk
   rw[hc];rfl
  ·obtain⟨i,hi⟩:∃i:Nat,Lib.indexByte s c=i:=⟨(Lib.indexByte s c).toNat,by omega⟩;obtain⟨h1,h2⟩:=Lib.indexByte_some hi;rw[X5 c i s [] h1 h2,List.nil_append];have hil:=(List.getElem?_eq_some_iff.1 h1).1
   have hs2:s=s.take i++c::s.drop (i+1):=by
    conv=>lhs;rw[<-List.take_append_drop i s]
    rw[List.drop_eq_getElem_cons hil,(List.getElem?_eq_some_iff.1 h1).2]
   have hc0:(s.take i).count c=0:=List.count_eq_zero.2 fun hm=>by
    obtain⟨k,hk⟩:=List.mem_iff_getElem?.1 hm;have hkl:=(List.getElem?_eq_some_iff.1 hk).1;rw[List.length_take] at hkl;rw[List.getElem?_take_of_lt (by omega)] at hk;exact h2 k (by omega) hk
   have hc:s.count c=(s.drop (i+1)).count c+1:=by
    conv=>lhs;rw[hs2]
    rw[List.count_append,hc0,List.count_cons_self,Nat.zero_add]
   rw[hc,Lib.splitK,Lib.index_one,hi,if_neg (by simp)];have:=ih (s.drop (i+1)) (by rw[List.length_drop];omega);simpa using this
theorem LY(c:UInt8):∀(s acc:List UInt8),(spl c acc s).length<=s.length+1/\∀l∈spl c acc s,l.length<=acc.length+s.length
 |[],acc=>by simp[spl]
 |b::t,acc=>by
  rw[spl];split
  ·have:=LY c t [];refine⟨by simp only[List.length_cons];omega,fun l hl=> ?_⟩;rcases List.mem_cons.1 hl with rfl|hl
   ·omega
   ·have:=this.2 l hl;simp only[List.length_nil,List.length_cons] at *;omega
  ·have:=LY c t (acc++[b]);refine⟨by simp only[List.length_cons];omega,fun l hl=> ?_⟩;have:=this.2 l hl;simp only[List.length_append,List.length_cons,List.length_nil] at *;omega
theorem aaH(c:UInt8):∀(s acc:List UInt8),1<=(spl c acc s).length
 |[],acc=>by simp[spl]
 |b::t,acc=>by
  rw[spl];split
  ·simp
  ·exact aaH c t _
def EX(s:List UInt8):Bool:=s.all fun b=>decide (b=32)
theorem Qs(s:List UInt8):Lib.trimB s 32=[]<->EX s=true:=by
 unfold Lib.trimB Lib.trimLeftB Lib.trimRightB EX;constructor
 ·intro h
  have h1:∀b∈(s.reverse.dropWhile (· ==32)).reverse,b=32:=by
   intro b hb
   have h2:∀l:List UInt8,l.dropWhile (· ==32)=[]->∀b∈l,b=32:=by
    intro l
    induction l with
    |nil=>intro _ b hb;simp at hb
    |cons a l ih=>
     intro hl b hb;rw[List.dropWhile_cons] at hl;split at hl
     ·rename_i ha;rcases List.mem_cons.1 hb with rfl|hb
      ·simpa using ha
      ·exact ih hl b hb
     ·cases hl
   exact h2 _ h b hb
  rw[List.all_eq_true];intro b hb
  have h3:∀l:List UInt8,(∀b∈l.dropWhile (· ==32),b=32)->∀b∈l,b=32:=by
   intro l
   induction l with
   |nil=>intro _ b hb;simp at hb
   |cons a l ih=>
    intro hl b hb;rw[List.dropWhile_cons] at hl;split at hl
    ·rename_i ha;rcases List.mem_cons.1 hb with rfl|hb
     ·simpa using ha
     ·exact ih hl b hb
    ·exact hl b hb
  have:=h3 s.reverse (fun b hb=>h1 b (by simpa using hb)) b (by simpa using hb);simpa using this
 ·intro h
  have h0:∀l:List UInt8,(∀b∈l,b=32)->l.dropWhile (· ==32)=[]:=by
   intro l
   induction l with
   |nil=>intro _;rfl
   |cons a l ih=>
    intro hl;rw[List.dropWhile_cons,if_pos (by simp[hl a (by simp)])];exact ih fun b hb=>hl b (by simp[hb])
  have h1:∀b∈s,b=32:=fun b hb=>by simpa using List.all_eq_true.1 h b hb
  rw[h0 s.reverse fun b hb=>h1 b (by simpa using hb)];rfl
noncomputable def lu:List (List UInt8)->List aJ->List aJ×Int
 |[],acc=>(acc,-1)
 |l::ls,acc=>if EX l=true then lu ls acc else if uj l=true/\acc.length≠5 then lu ls (acc++[xM l]) else([],acc.length)
noncomputable def Am(s:List UInt8):gW:=⟨(lu (spl 10 [] s) []).1⟩
noncomputable def Ad(s:List UInt8):Int:=(lu (spl 10 [] s) []).2
theorem amc(x:aj):(Hl x).sz<=190000:=by
 unfold Hl;split
 ·rename_i h;have h:x.sz<=11700:=qZ (gq h).1.1;have h1:=Xj x.ah 3;have h2:=eD x
  have h3:(x.ah.drop 3).length<=x.ah.length:=by rw[List.length_drop];omega
  have h4:=ru (gX x.ah 2).ah;have h5:(gX x.ah 2).sz<=cZ x.ah:=wW x.ah 2;have h5':=qg (gX x.ah 2);have h6:(dK x.ah 1).length<=cZ x.ah:=Nat.le_trans (AQ _) (wW x.ah 1);have t1:=Ac jS rU bE.enc aaD (x.ah.drop 3);have t2:=Ac nE qb aU.enc agp (x.ah.drop 3);have t3:=Ac kH oW aT.enc agq (x.ah.drop 3);have t4:=Ac wT tu aV.enc agr (x.ah.drop 3);have t5:=eD (gX x.ah 2)
  simp only[aJ.sz,aJ.aQ,dz,bW,D.sz,List.length_map,decP,ER,ES,ET,EU,nC,dB] at *
  omega
 ·simp[Dx,aJ.sz,aJ.aQ,dz,D.sz,bf]
theorem ajM(s:List UInt8):(xM s).sz<=190000:=by
 unfold xM;split
 ·exact amc (jm s)
 ·simp[Dx,aJ.sz,aJ.aQ,dz,D.sz,bf]
theorem TR:∀a b:List (List D),bf (a++b)=bf a+bf b
 |[],b=>by simp[bf]
 |r::a,b=>by rw[List.cons_append,bf,bf,TR a b];omega
theorem K4:∀(ls:List (List UInt8))(acc:List aJ),acc.length<=5->bf (acc.map aJ.enc)<=acc.length*190000->(lu ls acc).1.length<=5/\bf ((lu ls acc).1.map aJ.enc)<=950000
 |[],acc,h1,h2=>⟨h1,by rw[lu];have:acc.length*190000<=5*190000:=Nat.mul_le_mul_right _ h1;simp only;omega⟩
 |l::ls,acc,h1,h2=>by
  rw[lu];split
  ·exact K4 ls acc h1 h2
  ·split
   ·rename_i h;refine K4 ls _ (by rw[List.length_append,List.length_singleton];omega) ?_;have h3:=ajM l;rw[List.map_append,TR]
    simp only[List.map_cons,List.map_nil,bf,List.length_append,List.length_singleton] at *
    rw[aJ.sz] at h3;omega
   ·exact⟨by simp,by simp[bf]⟩
theorem agx(s:List UInt8):(Am s).sz<=1048576:=by
 obtain⟨h1,h2⟩:=K4 (spl 10 [] s) [] (by simp) (by simp[bf]);rw[gW.sz];simp only[Am,gW.aQ,dz,D.sz,List.length_map];omega
end Go.Ab
namespace Go.Proofs
open Go.Shelf
def Tryz.lays160_ren:Go.Shelf.Ren:=⟨fun|160=>15|232=>30|231=>29|227=>31|234=>33|233=>32|236=>35|235=>34|228=>48|271=>51|151=>50|197=>49|120=>92|152=>91|260=>90|137=>95|119=>145|224=>146|225=>147|217=>148|266=>202|n=>n,fun|9=>9|4=>4|3=>3|5=>5|117=>58|116=>57|0=>0|124=>61|21=>21|105=>74|46=>131|119=>173|139=>176|138=>175|n=>n,fun|3=>0|4=>1|n=>n⟩
theorem Tryz.lays160:Go.Proofs.Lays.n160 prog Tryz.lays160_ren:={
 mixed:=by kernel_rfl
 f119:=func145.trans (congrArg some (by kernel_rfl))
 f120:=func92.trans (congrArg some (by kernel_rfl))
 f137:=func95.trans (congrArg some (by kernel_rfl))
 f151:=func50.trans (congrArg some (by kernel_rfl))
 f152:=func91.trans (congrArg some (by kernel_rfl))
 f160:=func15.trans (congrArg some (by kernel_rfl))
 f197:=func49.trans (congrArg some (by kernel_rfl))
 f217:=func148.trans (congrArg some (by kernel_rfl))
 f224:=func146.trans (congrArg some (by kernel_rfl))
 f225:=func147.trans (congrArg some (by kernel_rfl))
 f227:=func31.trans (congrArg some (by kernel_rfl))
 f228:=func48.trans (congrArg some (by kernel_rfl))
 f231:=func29.trans (congrArg some (by kernel_rfl))
 f232:=func30.trans (congrArg some (by kernel_rfl))
 f233:=func32.trans (congrArg some (by kernel_rfl))
 f234:=func33.trans (congrArg some (by kernel_rfl))
 f235:=func34.trans (congrArg some (by kernel_rfl))
 f236:=func35.trans (congrArg some (by kernel_rfl))
 f260:=func90.trans (congrArg some (by kernel_rfl))
 f266:=func202.trans (congrArg some (by kernel_rfl))
 f271:=func51.trans (congrArg some (by kernel_rfl))
 t0:=underlying0
 a0:=Tryz.isAgg0
 z0:=Tryz.sizeOf0
 v0:=Tryz.zeroValue0
 t3:=underlying3
 a3:=Tryz.isAgg3
 z3:=Tryz.sizeOf3
 v3:=Tryz.zeroValue3
 t4:=underlying4
 a4:=Tryz.isAgg4
 z4:=Tryz.sizeOf4
 v4:=Tryz.zeroValue4
 t5:=underlying5
 a5:=Tryz.isAgg5
 z5:=Tryz.sizeOf5
 v5:=Tryz.zeroValue5
 t9:=underlying9
 a9:=Tryz.isAgg9
 z9:=Tryz.sizeOf9
 v9:=Tryz.zeroValue9
 t21:=underlying21
 a21:=Tryz.isAgg21
 z21:=Tryz.sizeOf21
 v21:=Tryz.zeroValue21
 t46:=underlying131
 a46:=Tryz.isAgg131
 z46:=Tryz.sizeOf131
 v46:=Tryz.zeroValue131
 t105:=underlying74
 a105:=Tryz.isAgg74
 z105:=Tryz.sizeOf74
 v105:=Tryz.zeroValue74
 t116:=underlying57
 a116:=Tryz.isAgg57
 z116:=Tryz.sizeOf57
 t117:=underlying58
 a117:=Tryz.isAgg58
 z117:=Tryz.sizeOf58
 v117:=Tryz.zeroValue58
 t119:=underlying173
 a119:=Tryz.isAgg173
 z119:=Tryz.sizeOf173
 t124:=underlying61
 a124:=Tryz.isAgg61
 z124:=Tryz.sizeOf61
 v124:=Tryz.zeroValue61
 t138:=underlying175
 a138:=Tryz.isAgg175
 z138:=Tryz.sizeOf175
 v138:=Tryz.zeroValue175
 t139:=underlying176
 a139:=Tryz.isAgg176
 z139:=Tryz.sizeOf176
 v139:=Tryz.zeroValue176
 g3:=by kernel_rfl
 g4:=by kernel_rfl}
open Go.RowKit in
theorem Tryz.strings_Trim_one(s:ByteArray)(c:UInt8)(hc:c.toNat<128)(w:World)(hs:s.size<=9223372036854775807):
 Calls prog 15 #[.string s,.string ⟨#[c]⟩] w fun e w'=>e=.returned (.string ⟨(Lib.trimB s.data.toList c).toArray⟩)/\(w'=w\/w'=w.drew):=Any.strings_Trim_one Tryz.lays160 s c hc w hs
def Tryz.lays221_ren:Go.Shelf.Ren:=⟨fun|221=>47|268=>87|138=>88|143=>89|195=>142|197=>49|218=>143|219=>144|260=>90|217=>148|225=>147|224=>146|267=>201|266=>202|314=>242|n=>n,fun|9=>9|3=>3|31=>36|4=>4|0=>0|105=>74|21=>21|5=>5|46=>131|119=>173|139=>176|138=>175|146=>238|51=>237|n=>n,fun|1=>2|3=>0|4=>1|n=>n⟩
theorem Tryz.lays221:Go.Proofs.Lays.n221 prog Tryz.lays221_ren:={
 mixed:=by kernel_rfl
 f138:=func88.trans (congrArg some (by kernel_rfl))
 f143:=func89.trans (congrArg some (by kernel_rfl))
 f195:=func142.trans (congrArg some (by kernel_rfl))
 f197:=func49.trans (congrArg some (by kernel_rfl))
 f217:=func148.trans (congrArg some (by kernel_rfl))
 f218:=func143.trans (congrArg some (by kernel_rfl))
 f219:=func144.trans (congrArg some (by kernel_rfl))
 f221:=func47.trans (congrArg some (by kernel_rfl))
 f224:=func146.trans (congrArg some (by kernel_rfl))
 f225:=func147.trans (congrArg some (by kernel_rfl))
 f260:=func90.trans (congrArg some (by kernel_rfl))
 f266:=func202.trans (congrArg some (by kernel_rfl))
 f267:=func201.trans (congrArg some (by kernel_rfl))
 f268:=func87.trans (congrArg some (by kernel_rfl))
 f314:=func242.trans (congrArg some (by kernel_rfl))
 t0:=underlying0
 a0:=Tryz.isAgg0
 z0:=Tryz.sizeOf0
 v0:=Tryz.zeroValue0
 t3:=underlying3
 a3:=Tryz.isAgg3
 z3:=Tryz.sizeOf3
 v3:=Tryz.zeroValue3
 t4:=underlying4
 a4:=Tryz.isAgg4
 z4:=Tryz.sizeOf4
 v4:=Tryz.zeroValue4
 t5:=underlying5
 a5:=Tryz.isAgg5
 z5:=Tryz.sizeOf5
 v5:=Tryz.zeroValue5
 t9:=underlying9
 a9:=Tryz.isAgg9
 z9:=Tryz.sizeOf9
 v9:=Tryz.zeroValue9
 t21:=underlying21
 a21:=Tryz.isAgg21
 z21:=Tryz.sizeOf21
 v21:=Tryz.zeroValue21
 t31:=underlying36
 a31:=Tryz.isAgg36
 z31:=Tryz.sizeOf36
 v31:=Tryz.zeroValue36
 t46:=underlying131
 a46:=Tryz.isAgg131
 z46:=Tryz.sizeOf131
 v46:=Tryz.zeroValue131
 t51:=underlying237
 a51:=Tryz.isAgg237
 z51:=Tryz.sizeOf237
 v51:=Tryz.zeroValue237
 t105:=underlying74
 a105:=Tryz.isAgg74
 z105:=Tryz.sizeOf74
 v105:=Tryz.zeroValue74
 t119:=underlying173
 a119:=Tryz.isAgg173
 z119:=Tryz.sizeOf173
 t138:=underlying175
 a138:=Tryz.isAgg175
 z138:=Tryz.sizeOf175
 v138:=Tryz.zeroValue175
 t139:=underlying176
 a139:=Tryz.isAgg176
 z139:=Tryz.sizeOf176
 v139:=Tryz.zeroValue176
 t146:=underlying238
 a146:=Tryz.isAgg238
 z146:=Tryz.sizeOf238
 v146:=Tryz.zeroValue238
 g1:=by kernel_rfl
 g3:=by kernel_rfl
 g4:=by kernel_rfl}
end Go.Proofs
namespace Go.Ab
theorem agy{w:World}{σ:Nat->Nat}(hl:∀b,b<w.heap.size\/σ b=0)(L:List (List UInt8))(e:TypeId)(hL:1<=L.length):
 ∃σ',Grow w σ (w.alloc (.cells (L.map fun l=>Value.string ⟨l.toArray⟩).toArray e)) σ'/\dJ (w.alloc (.cells (L.map fun l=>Value.string ⟨l.toArray⟩).toArray e)) σ' (.sl (L.map encS)) (.slice (some ⟨w.heap.size,0,none⟩) L.length L.length):=by
 have hn:=heap_alloc_new w (.cells (L.map fun l=>Value.string ⟨l.toArray⟩).toArray e)
 have hfl:(L.map encS).flatten=L.map D.s:=by
  induction L with
  |nil=>rfl
  |cons a L ih=>
   cases L with
   |nil=>rfl
   |cons b L=>
    have:=ih (by simp) (heap_alloc_new _ _);rw[List.map_cons,List.flatten_cons,this];rfl
 refine⟨fun b=>if b=w.heap.size then L.length else σ b,⟨by simp,rfl,rfl,fun b hb=>⟨Lib.alloc_old w _ b hb,if_neg (by omega)⟩,fun b=> ?_⟩,?_⟩
 ·by_cases q:b=w.heap.size
  ·left;subst q;simp
  ·rw[if_neg q];exact(hl b).imp (fun h=>by simp;omega) id
 ·have:=dJ.sl (w:=w.alloc (.cells (L.map fun l=>Value.string ⟨l.toArray⟩).toArray e)) (σ:=fun b=>if b=w.heap.size then L.length else σ b) w.heap.size 0 L.length 1 (L.map encS) (fun i=>.string ⟨(L.getD i []).toArray⟩) _ e (0,0) (by simp) (by simp[encS]) hn (by simp) (fun i hi=>by
   simp only[List.length_map] at hi
   have hi:i<L.length:=by omega
   simp[hi,List.getD]) (fun i d hd=>by
   rw[hfl,List.getElem?_map] at hd
   cases hli:L[i]? with
   |none=>rw[hli] at hd;cases hd
   |some l=>
    rw[hli] at hd;cases hd;simp only[List.getD,hli,Option.getD_some]
    exact .s _)
  simp only[List.length_map] at this;exact this
open Go.RowKit
theorem agz(s:List UInt8)(hs:s.length<=1048576)(w:World):
 Calls prog 28 #[.string ⟨s.toArray⟩,.string ⟨#[10]⟩] w fun e w'=>e=.returned (.slice (some ⟨w.heap.size,0,none⟩) (spl 10 [] s).length (spl 10 [] s).length)/\w'=w.alloc (.cells ((spl 10 [] s).map fun l=>Value.string ⟨l.toArray⟩).toArray 9):=by
 have hsz:(⟨s.toArray⟩:ByteArray).size=s.length:=by simp[ByteArray.size]
 have hle:=Lib.countB_le ⟨#[10]⟩ (by decide) _ (⟨s.toArray⟩:ByteArray) (Nat.le_refl _);have hlen:=Lib.splitB_all ⟨#[10]⟩ (by decide) 0 _ (⟨s.toArray⟩:ByteArray) rfl;have hdata:=Lib.splitB_data ⟨#[10]⟩ 0 (Lib.countB ⟨s.toArray⟩ ⟨#[10]⟩) ⟨s.toArray⟩;have hcnt:Lib.countB ⟨s.toArray⟩ ⟨#[10]⟩=s.count 10:=Lib.count_one 10 s
 have hsp:(Lib.splitB ⟨#[10]⟩ 0 (Lib.countB ⟨s.toArray⟩ ⟨#[10]⟩) ⟨s.toArray⟩).map (·.data.toList)=spl 10 [] s:=by
  rw[hdata,hcnt];exact adt 10 _ s (Nat.le_refl _)
 have hl2:(spl 10 [] s).length=Lib.countB ⟨s.toArray⟩ ⟨#[10]⟩+1:=by rw[<-hsp,List.length_map,hlen]
 have hcells:(Lib.splitB ⟨#[10]⟩ 0 (Lib.countB ⟨s.toArray⟩ ⟨#[10]⟩) ⟨s.toArray⟩).map Value.string=(spl 10 [] s).map fun l=>Value.string ⟨l.toArray⟩:=by
  rw[<-hsp,List.map_map];refine List.map_congr_left fun x _=> ?_
  simp
 have c:=Any.strings_genSplit_core Tryz.lays221 (by kernel_rfl) ⟨s.toArray⟩ ⟨#[10]⟩ 0 (-1) (Lib.countB ⟨s.toArray⟩ ⟨#[10]⟩+1) w (by omega) (by decide) (Nat.zero_le _)
  (fun x c hx=>(Any.strings_Index_one {Tryz.lays221 with} x 10 _).mono fun e w' ⟨he,hw⟩=>⟨by rw[he,<-Lib.index_one],hw⟩) ((Any.strings_Count_one {Tryz.lays221 with} ⟨s.toArray⟩ 10 w).mono fun e w' ⟨he,hw⟩=>⟨by rw[he,hcnt];rfl,hw⟩) (by decide) (by decide) (by rw[if_pos (by decide)];omega)
 rw[Nat.add_sub_cancel,hlen] at c
 have e2:Lib.cellsOf (Lib.splitB ⟨#[10]⟩ 0 (Lib.countB ⟨s.toArray⟩ ⟨#[10]⟩) ⟨s.toArray⟩) (Lib.countB ⟨s.toArray⟩ ⟨#[10]⟩+1)=((Lib.splitB ⟨#[10]⟩ 0 (Lib.countB ⟨s.toArray⟩ ⟨#[10]⟩) ⟨s.toArray⟩).map Value.string).toArray:=by rw[<-hlen];exact Lib.cellsOf_full _
 rw[e2,hcells,<-hl2] at c;clear hcnt hdata hlen hle hsp hl2 hcells e2 hsz
 go_enter func28,ntmps28
 go_wp2_with (go_at_call 47;refine c.mono ?_;rintro e w' ⟨rfl,hw⟩;rw[hw])
 go_ret
 exact⟨rfl,rfl⟩
theorem ZM(s:List UInt8)(hs:s.length<=1048576):aC prog 28 [.c (.d (.s s)),.c (.d (.s [10]))] (.c (.d (.sl ((spl 10 [] s).map encS)))):=fun S=>by
 refine⟨⟨_,func28,by kernel_rfl,by kernel_rfl⟩,fun w σ β vs hS hv=> ?_⟩;obtain⟨hvl,hv⟩:=hv;obtain⟨u0,k0,r0⟩:=hv 0 _ rfl;obtain⟨u1,k1,r1⟩:=hv 1 _ rfl
 obtain rfl:vs=[u0,u1]:=by
  match vs,hvl,k0,k1 with
  |[a,b],_,k0,k1=>simp at k0 k1;rw[k0,k1]
 obtain rfl:u0=.string ⟨s.toArray⟩:=by cases r0.1;rfl
 obtain rfl:u1=.string ⟨#[10]⟩:=by cases r1.1;rfl
 refine(agz s hs w).mono fun e w' ⟨he,hw⟩=> ?_;obtain⟨σ',hg,hr⟩:=agy hS.live (spl 10 [] s) 9 (aaH 10 s []);rw[<-hw] at hg hr;exact⟨_,.c (.d (.sl ((spl 10 [] s).map encS))),S,σ',β,he,hS.grow hg,Keep.refl _ _,Step.lX hg,⟨hr,rfl⟩,rfl,rfl⟩
theorem adu(s:List UInt8)(hs:s.length<=1073741824):aC prog 15 [.c (.d (.s s)),.c (.d (.s [32]))] (.c (.d (.s (Lib.trimB s 32)))):=fun S=>by
 refine⟨⟨_,func15,by kernel_rfl,by kernel_rfl⟩,fun w σ β vs hS hv=> ?_⟩;obtain⟨hvl,hv⟩:=hv;obtain⟨u0,k0,r0⟩:=hv 0 _ rfl;obtain⟨u1,k1,r1⟩:=hv 1 _ rfl
 obtain rfl:vs=[u0,u1]:=by
  match vs,hvl,k0,k1 with
  |[a,b],_,k0,k1=>simp at k0 k1;rw[k0,k1]
 obtain rfl:u0=.string ⟨s.toArray⟩:=by cases r0.1;rfl
 obtain rfl:u1=.string ⟨#[32]⟩:=by cases r1.1;rfl
 have hsz:(⟨s.toArray⟩:ByteArray).size=s.length:=by simp[ByteArray.size]
 refine(Tryz.strings_Trim_one ⟨s.toArray⟩ 32 (by decide) w (by omega)).mono fun e w' ⟨he,hw⟩=> ?_
 have hg:Grow w σ w' σ:=by
  rcases hw with rfl|rfl
  ·exact Grow.refl hS.live
  ·exact⟨Nat.le_refl _,rfl,rfl,fun _ _=>⟨rfl,rfl⟩,hS.live⟩
 exact⟨_,.c (.d (.s (Lib.trimB s 32))),S,σ,β,he,hS.grow hg,Keep.refl _ _,Step.lX hg,⟨.s _,rfl⟩,rfl,rfl⟩
theorem X6(s:List UInt8)(hs:s.length<=1048576):aC prog 14 [.c (.d (.s s)),.c (.d (.i .u8 10))] (.c (.d (.sl ((spl 10 [] s).map encS)))):=fun S=>by
 refine zcx [.tmp 4] func14 ntmps14 ?_;refine W1 ?_;refine⟨fun y hy=>by rw[List.mem_singleton.1 hy],?_⟩;rw[show UInt8.ofNat 10=10 from rfl];exact C3 (ZM s hs)
theorem an5{s:List UInt8}{i a:Nat}(hi:i<s.length)(ha:a<=i):(s.take (i+1)).drop a=(s.take i).drop a++[s[i]]:=by
 rw[List.take_succ_eq_append_getElem hi,List.drop_append_of_le_length (by rw[List.length_take];omega)]
theorem TS(out:List (List UInt8))(x:List UInt8):out.map encS++[[D.s x]]=(out++[x]).map encS:=by simp[encS]
theorem agA(l:List aJ)(p:aJ):l.map aJ.enc++[[.s p.fName,.sl (p.fJ.map encS),.sl (p.aL.map bE.enc),.sl (p.au.map aU.enc),.sl (p.aI.map aT.enc),.sl (p.aO.map aV.enc)]]=(l++[p]).map aJ.enc:=by rw[List.map_append];rfl
theorem adv(l:List aJ)(p:aJ)(m:Nat):dX (l.map aJ.enc) m++[[.s p.fName,.ol (m+jf (l.map aJ.enc)) (p.fJ.map encS),.ol (m+jf (l.map aJ.enc)+1) (dX (p.aL.map bE.enc) (m+jf (l.map aJ.enc)+1+1)),.ol (Ak p (m+jf (l.map aJ.enc))) (dX (p.au.map aU.enc) (Ak p (m+jf (l.map aJ.enc))+1)),
 .ol (Al p (m+jf (l.map aJ.enc))) (dX (p.aI.map aT.enc) (Al p (m+jf (l.map aJ.enc))+1)),.ol (Ck p (m+jf (l.map aJ.enc))) (dX (p.aO.map aV.enc) (Ck p (m+jf (l.map aJ.enc))+1))]]=dX ((l++[p]).map aJ.enc) m:=by
 rw[List.map_append,nQ,<-Ja];rfl
theorem X7(s:List UInt8)(hs:s.length<=1073741824):aC prog 18 [.c (.d (.s s))] (.c (.d (.b (EX s)))):=fun S=>by
 refine zcx [.tmp 2] func18 ntmps18 ?_;refine W1 ?_
 refine aR (ι:=Nat) zmx rfl [0,3] (fun i=>[.c (.d (.s s)),.c (.d (.i .i64 i))]) (fun _=>[]::S)
  (fun i=>i<=s.length/\∀j,∀hj:j<s.length,j<i->s[j]=32) (fun i=>s.length-i) 0 rfl rfl ⟨Nat.zero_le _,fun j _ h=>by omega⟩ ?_
 rintro i ⟨p1,p2⟩;refine W1 ?_;refine S0 (fun hb h=>?_) fun hb h=>?_
 ·have hi:i<s.length:=by omega
  refine W3 ?_;refine S0 (fun hb h=>?_) fun hb h=>?_
  ·have:EX s=false:=Bool.eq_false_iff.2 fun e=>h (by
    have:=List.all_eq_true.1 e s[i] (List.getElem_mem hi)
    rw[show s.getD i 0=s[i] by simp[List.getD,hi],of_decide_eq_true this];rfl)
   rw[this]
  ·refine bV (i+1) (by omega) rfl rfl ⟨by omega,fun j hj hji=> ?_⟩;by_cases e:j=i
   ·subst e;rw[show s.getD j 0=s[j] by simp[List.getD,hi]] at h;exact UInt8.toNat_inj.1 (by rw[show(32:UInt8).toNat=32 from rfl];omega)
   ·exact p2 j hj (by omega)
 ·have:EX s=true:=List.all_eq_true.2 fun b hb=>by
   obtain⟨j,hj,rfl⟩:=List.mem_iff_getElem.1 hb;exact decide_eq_true (p2 j hj (by omega))
  rw[this]
theorem X8(s:List UInt8)(c:UInt8)(hs:s.length<=1048576):aC prog 17 [.c (.d (.s s)),.c (.d (.i .u8 c.toNat))] (.c (.d (.sl ((spl c [] s).map encS)))):=fun S=>by
 refine zcx [.tmp 4] func17 ntmps17 ?_;refine W1 ?_;refine lQ 5 1 [] rfl (by simp) ?_
 refine aR (ι:=Nat×Nat×List (List UInt8)) zmx rfl [0,1,5,6,7] (fun y=>[.c (.d (.s s)),.c (.d (.i .u8 c.toNat)),.c (.bB (0,0) (y.2.2.map encS)),.c (.d (.i .i64 y.2.1)),.c (.d (.i .i64 y.1))]) (fun y=>[.tok 1 (y.2.2.map encS)]::S)
  (fun y=>y.2.1<=y.1/\y.2.2.length<=y.1/\((y.1<=s.length/\y.2.2++spl c ((s.take y.1).drop y.2.1) (s.drop y.1)=spl c [] s)\/(y.1=s.length+1/\y.2.2=spl c [] s))) (fun y=>s.length+1-y.1) (0,0,[]) rfl rfl ⟨Nat.le_refl _,Nat.le_refl _,.inl ⟨Nat.zero_le _,by simp⟩⟩ ?_
 rintro⟨i,fr,out⟩ ⟨p1,p2,p3⟩;simp only at p1 p2 p3
 have p4:i<=s.length+1:=by omega
 refine W1 ?_;refine S0 (fun hb h=>?_) fun hb h=>?_
 ·have h1:i<=s.length:=by omega
  have hq:out++spl c ((s.take i).drop fr) (s.drop i)=spl c [] s:=by
   rcases p3 with p3|p3
   ·exact p3.2
   ·omega
  refine S0 (fun hb h=>?_) fun hb h=>?_
  ·have hi:i=s.length:=by omega
   subst hi;rw[List.drop_length,spl] at hq;refine W3 ?_;rw[TS];exact bV (s.length+1,s.length+1,out++[(s.take s.length).drop fr]) (by simp only;omega) rfl rfl ⟨Nat.le_refl _,by simp only[List.length_append,List.length_singleton];omega,.inr ⟨rfl,hq⟩⟩
  ·have hi:i<s.length:=by omega
   have hg:s.getD i 0=s[i]:=by simp[List.getD,hi]
   refine W3 ?_;refine S0 (fun hb h=>?_) fun hb h=>?_
   ·have hc:s[i]=c:=by
     rw[hg] at h;exact UInt8.toNat_inj.1 (by omega)
    rw[List.drop_eq_getElem_cons hi,spl,if_pos hc] at hq;refine W3 ?_;rw[TS];refine bV (i+1,i+1,out++[(s.take i).drop fr]) (by simp only;omega) rfl rfl ⟨Nat.le_refl _,by simp only[List.length_append,List.length_singleton];omega,.inl ⟨by simp only;omega,?_⟩⟩
    ·simp only
     rw[show(s.take (i+1)).drop (i+1)=[] from List.drop_eq_nil_of_le (by rw[List.length_take];omega),<-hq,List.append_assoc];rfl
   ·have hc:s[i]≠c:=fun e=>h (by rw[hg,e]);rw[List.drop_eq_getElem_cons hi,spl,if_neg hc,<-an5 hi p1] at hq;exact bV (i+1,fr,out) (by simp only;omega) rfl rfl ⟨by simp only;omega,by simp only;omega,.inl ⟨by simp only;omega,hq⟩⟩
 ·rcases p3 with p3|p3
  ·omega
  ·rw[<-p3.2]
theorem UC(s:List UInt8)(hs:s.length<=1048576):aC prog 7 [.c (.d (.s s))] (.dN [(true,[.d (.sl ((Am s).kP.map aJ.enc))]),(false,[.d (.i .i64 (Ad s))])]):=aC.of_le fun S=>by
 have hl0:=LY 10 s [];unfold Am Ad;obtain⟨L,hL⟩:∃L,L=spl 10 [] s:=⟨_,rfl⟩;have hsp:=X8 s 10 hs;rw[show(10:UInt8).toNat=10 from rfl] at hsp;rw[<-hL] at hsp hl0 ⊢;refine afx (rs:=[.cell 2 27,.tmp 3]) zmx func7 ntmps7 rfl rfl rfl rfl rfl ?_;refine W1 ?_;refine aX hsp ?_;refine W1 ?_;refine ow 1 0 6 _ rfl rfl ?_
 refine WX (ι:=Nat×List aJ) zmx rfl [2,4,5,6] (fun y=>[.c (.ptr (0,0) 0),.c (.ptr (0,1) 0),.c (.d (.sl (L.map encS))),.c (.d (.i .i64 y.1))])
  (fun y=>[.box [.bn []],.box [.bB (0,2) (y.2.map aJ.enc)],.tok 6 (y.2.map aJ.enc)]::S)
  (fun y=>y.1<=L.length/\y.2.length<=5/\lu (L.drop y.1) y.2=lu L []) (fun y=>L.length-y.1) (0,[]) rfl rfl ⟨Nat.zero_le _,by decide,rfl⟩ ?_
 rintro⟨i,acc⟩ ⟨p1,p2,p3⟩;simp only at p1 p2 p3;simp -implicitDefEqProofs (disch:=omega) only[go_sem,encS]
 with_reducible refine dZ (fun hb=> ?_) (fun hb=> ?_)<;>have h:=hb<;>(try simp only[wf_preprocess] at h)<;>simp -implicitDefEqProofs (disch:=omega) only[go_sem,hb,encS]<;>refine W3 ?_
 ·have hi:i<L.length:=by omega
  have hll:L[i].length<=1048576:=by have:=hl0.2 L[i] (List.getElem_mem hi);simp only[List.length_nil] at this;omega
  rw[List.drop_eq_getElem_cons hi,lu] at p3;refine W3 ?_;refine aX (X7 L[i] (by omega)) ?_;simp -implicitDefEqProofs (disch:=omega) only[go_sem,encS]
  with_reducible refine dZ (fun hb=> ?_) (fun hb=> ?_)<;>have h:=hb<;>(try simp only[wf_preprocess] at h)<;>simp -implicitDefEqProofs (disch:=omega) only[go_sem,hb,encS]<;>refine W3 ?_
  ·rw[if_pos h] at p3;exact bV (i+1,acc) (by simp only;omega) rfl rfl ⟨by simp only;omega,p2,p3⟩
  rw[if_neg (by rw[h];decide)] at p3;refine W3 ?_;refine aX (UA L[i] hll) ?_;simp -implicitDefEqProofs (disch:=omega) only[go_sem,aJ.cv];refine S0 (fun hb h=>?_) fun hb h=>?_
  ·rw[if_neg (by rw[h];intro e;cases e.1)] at p3;refine W3 ?_;refine⟨by rfl,?_⟩;refine W1 ?_;rw[<-p3];exact(ig.cons (.cons (eT _) .nil) (.refl _)).less
  have hok:=h;refine S0 (fun hb h=>?_) fun hb h=>?_
  ·rw[if_neg (by intro e;exact e.2 (by omega))] at p3;refine W3 ?_;refine⟨by rfl,?_⟩;refine W1 ?_;rw[<-p3];exact(ig.cons (.cons (eT _) .nil) (.refl _)).less
  have h5:=h;rw[if_pos ⟨hok,by omega⟩] at p3;refine W3 ?_;rw[agA];exact bL 3 (by decide) (i+1,acc++[xM L[i]]) (by simp only;omega) rfl rfl rfl rfl ⟨by simp only;omega,by simp only[List.length_append,List.length_singleton];omega,p3⟩
 ·have hi:i=L.length:=by omega
  subst hi;rw[List.drop_length,lu] at p3;rw[<-p3];exact gu _
theorem RH(s:List UInt8)(n:Nat)(hs:s.length<=1048576):aC prog 6 [.c (.d (.s s))] (.dN [(true,[.d (.ol n (dX ((Am s).kP.map aJ.enc) (n+1)))]),(false,[.d (.i .i64 (Ad s))])]):=aC.of_le fun S=>by
 have hl0:=LY 10 s [];unfold Am Ad;obtain⟨L,hL⟩:∃L,L=spl 10 [] s:=⟨_,rfl⟩;have hsp:=X6 s hs;rw[<-hL] at hsp hl0 ⊢;refine acO (n) (rs:=[.cell 2 27,.tmp 3]) zmx func6 ntmps6 rfl rfl rfl rfl rfl ?_;refine W1 ?_;refine aX hsp ?_;refine W1 ?_;refine nS n 2 0 6 _ rfl rfl ?_
 refine WX (ι:=Nat×List aJ) zmx rfl [2,4,11,12,13] (fun y=>[.c (.ptr (0,1) 0),.c (.ptr (0,2) 0),.c (.d (.sl (L.map encS))),.c (.d (.i .i64 L.length)),.c (.d (.i .i64 y.1))])
  (fun y=>[.seed n,.box [.bn []],.box [.bB (0,3) (dX (y.2.map aJ.enc) (n+1))],.eu n 6 (dX (y.2.map aJ.enc) (n+1))]::S)
  (fun y=>y.1<=L.length/\y.2.length<=5/\lu (L.drop y.1) y.2=lu L []) (fun y=>L.length-y.1) (0,[]) rfl rfl ⟨Nat.zero_le _,by decide,rfl⟩ ?_
 rintro⟨i,acc⟩ ⟨p1,p2,p3⟩;simp only at p1 p2 p3
 have p4:(dX (acc.map aJ.enc) (n+1)).length=acc.length:=by rw[kC,List.length_map]
 simp -implicitDefEqProofs (disch:=omega) only[go_sem,encS]
 with_reducible refine dZ (fun hb=> ?_) (fun hb=> ?_)<;>have h:=hb<;>(try simp only[wf_preprocess] at h)<;>simp -implicitDefEqProofs (disch:=omega) only[go_sem,hb,encS]<;>refine W3 ?_
 ·have hi:i<L.length:=by omega
  have hll:L[i].length<=1048576:=by have:=hl0.2 L[i] (List.getElem_mem hi);simp only[List.length_nil] at this;omega
  rw[List.drop_eq_getElem_cons hi,lu] at p3;refine W3 ?_;refine aX (adu L[i] (by omega)) ?_;simp -implicitDefEqProofs (disch:=omega) only[go_sem,encS]
  with_reducible refine dZ (fun hb=> ?_) (fun hb=> ?_)<;>have h:=hb<;>(try simp only[wf_preprocess] at h)<;>simp -implicitDefEqProofs (disch:=omega) only[go_sem,hb,encS]<;>refine W3 ?_
  ·rw[if_pos ((Qs _).1 h)] at p3;exact bV (i+1,acc) (by simp only;omega) rfl rfl ⟨by simp only;omega,p2,p3⟩
  rw[if_neg (fun e=>h ((Qs _).2 e))] at p3;refine W3 ?_;have hc:=Qr L[i] (n+1+jf (acc.map aJ.enc)) hll;rw[Jc] at hc;refine aX hc ?_;refine W1 ?_;refine S0 (fun hb h=>?_) fun hb h=>?_
  ·rw[if_neg (by rw[h];intro e;cases e.1)] at p3;refine W3 ?_;refine⟨by rfl,?_⟩;refine W1 ?_;rw[<-p3,p4];exact(ig.cons (.cons (dR _) .nil) (.refl _)).less
  have hok:=h;refine S0 (fun hb h=>?_) fun hb h=>?_
  ·rw[if_neg (by intro e;exact e.2 (by omega))] at p3;refine W3 ?_;refine⟨by rfl,?_⟩;refine W1 ?_;rw[<-p3,p4];exact(ig.cons (.cons (dR _) .nil) (.refl _)).less
  have h5:=h;rw[if_pos ⟨hok,by omega⟩] at p3;refine W3 ?_;rw[adv];exact bL 4 (by decide) (i+1,acc++[xM L[i]]) (by simp only;omega) rfl rfl rfl rfl ⟨by simp only;omega,by simp only[List.length_append,List.length_singleton];omega,p3⟩
 ·have hi:i=L.length:=by omega
  subst hi;rw[List.drop_length,lu] at p3;rw[<-p3];exact gu _
theorem FM(s:List UInt8)(n:Nat)(hs:s.length<=1048576):aC prog 6 [.c (.d (.s s))] (.dN [(true,(fQ (Am s).enc n).map .d),(false,[.d (.i .i64 (Ad s))])]):=by
 have:(fQ (Am s).enc n).map C.d=[.d (.ol n (dX ((Am s).kP.map aJ.enc) (n+1)))]:=by simp only[gW.aQ,fQ,tZ,List.map_cons,List.map_nil]
 rw[this];exact RH s n hs
def adw(k:List UInt8):Prop:=∀b,k.head? =some b->bK b=false
theorem ajN:adw []:=fun b h=>by cases h
theorem TT{b:UInt8}{k:List UInt8}(h:bK b=false):adw (b::k):=fun c hc=>by
 obtain rfl:b=c:=by simpa using hc
 exact h
theorem X9:∀(u k:List UInt8),u.all bK=true->adw k->(u++k).takeWhile bK=u/\(u++k).dropWhile bK=k
 |[],k,_,hk=>by
  cases k with
  |nil=>exact⟨rfl,rfl⟩
  |cons b k=>
   have:=hk b rfl;simp[List.takeWhile,List.dropWhile,this]
 |b::u,k,hu,hk=>by
  rw[List.all_cons,Bool.and_eq_true] at hu;obtain⟨h1,h2⟩:=X9 u k hu.2 hk;simp[List.takeWhile,List.dropWhile,hu.1,h1,h2]
mutual
theorem NI:∀(x:aj),gP x=true->∀k,adw k->lex (fT x++k)=qp x++lex k
 | .mk [] l,hf,k,hk=>by
   rw[gP,if_pos rfl] at hf;rw[fT,if_pos rfl,qp,show [40]++dL [32] (lg l)++[41]++k=40::(dL [32] (lg l)++(41::k)) by simp];rw[kR (rO (by decide)),if_neg (by decide),if_pos rfl,K5 l hf k]
   simp
 | .mk (b::u) l,hf,k,hk=>by
   rw[gP,if_neg (by simp),Bool.and_eq_true] at hf;have ha:=hf.1;unfold validAtom at ha;rw[Bool.and_eq_true,List.all_cons,Bool.and_eq_true] at ha;rw[fT,if_neg (by simp),qp,List.cons_append,kR (rO (Kk ha.1.1).1),if_pos ha.1.1];obtain⟨h1,h2⟩:=X9 u k ha.1.2 hk;rw[h1,h2];rfl
theorem K5:∀(l:List aj),iG l=true->∀k,lex (dL [32] (lg l)++(41::k))=jN l++ .cl::lex k
 |[],_,k=>by
  show lex (41::k)=.cl::lex k;rw[kR (rO (by decide)),if_neg (by decide),if_neg (by decide),if_pos rfl]
 |[x],hf,k=>by
  rw[iG,Bool.and_eq_true] at hf;have h1:=NI x hf.1 (41::k) (TT (by decide));have h2:=K5 [] rfl k;rw[show dL [32] (lg [x])=fT x by simp[lg,dL],h1];rw[show dL [32] (lg [])++(41::k)=41::k from rfl] at h2;rw[h2];simp[jN]
 |x::y::l,hf,k=>by
  rw[iG,Bool.and_eq_true] at hf;have h1:=NI x hf.1 (32::(dL [32] (lg (y::l))++(41::k))) (TT (by decide));have h2:=K5 (y::l) hf.2 k;rw[show dL [32] (lg (x::y::l))++(41::k)=fT x++(32::(dL [32] (lg (y::l))++(41::k))) by simp[lg,dL],h1]
  rw[show lex (32::(dL [32] (lg (y::l))++(41::k)))=lex (dL [32] (lg (y::l))++(41::k)) by
   rw[<-wO (32::_),Dq (by decide),wO],h2]
  simp[jN]
end
theorem Ya{x:aj}(h:dI x=true):Denotes (fT x) x:=by
 have hf:=(zP h).1;have:=NI x hf [] ajN;rw[List.append_nil,lex_nil (l:=[]) rfl,List.append_nil] at this;exact⟨h,this⟩
theorem adx{x:aj}(h:dI x=true):j3 (fT x)=true/\jm (fT x)=x:=yU (Ya h)
theorem ZN:j3 []=false:=by
 refine aK fun⟨x,hx⟩=> ?_;have h2:=hx.2;rw[lex_nil (l:=[]) rfl] at h2;obtain⟨a,l⟩:=x;cases a<;>simp[qp] at h2
theorem Qt(b:Bool)(x:aj):(b=true/\dI x=true/\qM b x=x)\/qM b x=bT:=by
 cases b with
 |false=>exact .inr rfl
 |true=>
  cases h:dI x with
  |true=>exact .inl ⟨rfl,rfl,if_pos h⟩
  |false=>exact .inr (if_neg (by rw[h];decide))
theorem Cm(l:List aj):(bq l).ah.length=l.length:=rfl
theorem Jd{α β:Type}{f:α->β}{q:β->Bool}(h:∀x,q (f x)=true)(l:List α):(l.map f).filter q=l.map f:=List.filter_eq_self.2 fun y hy=>by
 obtain⟨x,_,rfl⟩:=List.mem_map.1 hy;exact h x
theorem rZ{α β:Type}{f:α->β}{q:β->Bool}(h:∀x,q (f x)=false)(l:List α):(l.map f).filter q=[]:=List.filter_eq_nil_iff.2 fun y hy=>by
 obtain⟨x,_,rfl⟩:=List.mem_map.1 hy;rw[h x];decide
theorem Je{α β:Type}{f:α->β}{g:β->α}{l:List α}(h:∀x∈l,g (f x)=x):(l.map f).map g=l:=by
 rw[List.map_map]
 conv=>rhs;rw[<-List.map_id l]
 exact List.map_congr_left h
theorem an6{d:aU}(h:fD d=true)(hx:dI (sM d)=true):okD (sM d)=true/\qb (sM d)=d:=by
 have ho:okD (sM d)=true:=bD ⟨hx,(Xk d).1,rfl,by rw[DI true h];exact h,by rw[DI true h]⟩;exact⟨ho,by unfold qb;rw[if_pos ho,DI true h]⟩
theorem amd{d:bE}(h:dM d=true)(hx:dI (jU d)=true):uV (jU d)=true/\rU (jU d)=d:=by
 have ho:uV (jU d)=true:=bD ⟨hx,⟨by rw[jU,Cm];simp[iX],rfl⟩,by rw[Ba true h];exact h,by rw[Ba true h]⟩;exact⟨ho,by unfold rU;rw[if_pos ho,Ba true h]⟩
theorem an7{d:aT}(h:eX d=true)(hx:dI (oV d)=true):wZ (oV d)=true/\oW (oV d)=d:=by
 have ho:wZ (oV d)=true:=bD ⟨hx,⟨by rw[oV,Cm];simp[mJ],rfl⟩,by rw[DN true h];exact h,by rw[DN true h]⟩;exact⟨ho,by unfold oW;rw[if_pos ho,DN true h]⟩
theorem an8{d:aV}(h:jL d=true)(hx:dI (vv d)=true):okF (vv d)=true/\tu (vv d)=d:=by
 have ho:okF (vv d)=true:=bD ⟨hx,⟨by rw[vv,Cm];simp,rfl⟩,by rw[DL true h];exact h,by rw[DL true h]⟩;exact⟨ho,by unfold tu;rw[if_pos ho,DL true h]⟩
theorem Yb(t:bE):isK jS (jU t)=true:=decide_eq_true rfl
theorem RI(t:aU):isK nE (sM t)=true:=decide_eq_true rfl
theorem k_in(t:aT):isK kH (oV t)=true:=decide_eq_true rfl
theorem K6(t:aV):isK wT (vv t)=true:=decide_eq_true rfl
theorem an9{p:aJ}(h:validPkg p=true)(hp:(fC p).all dI=true)(hx:dI (oZ p)=true):Aj (oZ p)=true/\Hl (oZ p)=p:=by
 have h0:=h;unfold validPkg rY sW at h0;simp only[Bool.and_eq_true] at h0;obtain⟨⟨n1,n2,n3,n4,n5⟩,n6,i1,i2,i3,i4⟩:=h0;have hd:(oZ p).ah.drop 3=fC p:=rfl;have hall:=List.all_eq_true.1 hp;have v1:∀t∈p.aL,uV (jU t)=true/\rU (jU t)=t:=fun t ht=>amd (List.all_eq_true.1 i1 t ht) (hall _ (by unfold fC;exact List.mem_append_left _ (List.mem_map_of_mem ht)));have v2:∀t∈p.au,okD (sM t)=true/\qb (sM t)=t:=fun t ht=>an6 (List.all_eq_true.1 i2 t ht) (hall _ (by unfold fC;exact List.mem_append_right _ (List.mem_append_left _ (List.mem_map_of_mem ht))));have v3:∀t∈p.aI,wZ (oV t)=true/\oW (oV t)=t:=fun t ht=>an7 (List.all_eq_true.1 i3 t ht) (hall _ (by unfold fC;exact List.mem_append_right _ (List.mem_append_right _ (List.mem_append_left _ (List.mem_map_of_mem ht)))));have v4:∀t∈p.aO,okF (vv t)=true/\tu (vv t)=t:=fun t ht=>an8 (List.all_eq_true.1 i4 t ht) (hall _ (by unfold fC;exact List.mem_append_right _ (List.mem_append_right _ (List.mem_append_right _ (List.mem_map_of_mem ht)))));have hne:=y8 n3
 have hdec:decP (oZ p)=p:=by
  have e1:ER (fC p)=p.aL:=by
   unfold ER fC;rw[List.filter_append,List.filter_append,List.filter_append,Jd Yb,rZ (fun d=>fO (RI d) (by decide)),rZ (fun d=>fO (k_in d) (by decide)),rZ (fun d=>fO (K6 d) (by decide))];simp only[List.append_nil];exact Je fun t ht=>(v1 t ht).2
  have e2:ES (fC p)=p.au:=by
   unfold ES fC;rw[List.filter_append,List.filter_append,List.filter_append,Jd RI,rZ (fun d=>fO (Yb d) (by decide)),rZ (fun d=>fO (k_in d) (by decide)),rZ (fun d=>fO (K6 d) (by decide))];simp only[List.append_nil,List.nil_append];exact Je fun t ht=>(v2 t ht).2
  have e3:ET (fC p)=p.aI:=by
   unfold ET fC;rw[List.filter_append,List.filter_append,List.filter_append,Jd k_in,rZ (fun d=>fO (Yb d) (by decide)),rZ (fun d=>fO (RI d) (by decide)),rZ (fun d=>fO (K6 d) (by decide))];simp only[List.append_nil,List.nil_append];exact Je fun t ht=>(v3 t ht).2
  have e4:EU (fC p)=p.aO:=by
   unfold EU fC;rw[List.filter_append,List.filter_append,List.filter_append,Jd K6,rZ (fun d=>fO (Yb d) (by decide)),rZ (fun d=>fO (RI d) (by decide)),rZ (fun d=>fO (k_in d) (by decide))];simp only[List.append_nil,List.nil_append];exact Je fun t ht=>(v4 t ht).2
  have e5:nC (oZ p).ah 2=p.fJ:=nT hne;unfold decP;rw[hd,e1,e2,e3,e4,e5];rfl
 have hok:Aj (oZ p)=true:=by
  refine bD ⟨⟨hx,by rw[oZ,Cm];simp[d9],rfl,rfl,?_⟩,fun y hy=> ?_,by rw[hdec];exact h⟩
  ·show(aP p.fJ).all (fun y=>decide (y.aG≠[]))=true;refine List.all_eq_true.2 fun y hy=> ?_;obtain⟨v,hv,rfl⟩:=List.mem_map.1 hy;exact decide_eq_true (hne v hv)
  ·rw[hd] at hy;unfold fC at hy;unfold jD;rcases List.mem_append.1 hy with hy|hy
   ·obtain⟨t,ht,rfl⟩:=List.mem_map.1 hy;rw[if_pos (Yb t)];exact(v1 t ht).1
   rcases List.mem_append.1 hy with hy|hy
   ·obtain⟨t,ht,rfl⟩:=List.mem_map.1 hy;rw[if_neg (by rw[fO (RI t) (by decide)];decide),if_pos (RI t)];exact(v2 t ht).1
   rcases List.mem_append.1 hy with hy|hy
   ·obtain⟨t,ht,rfl⟩:=List.mem_map.1 hy;rw[if_neg (by rw[fO (k_in t) (by decide)];decide),if_neg (by rw[fO (k_in t) (by decide)];decide),if_pos (k_in t)];exact(v3 t ht).1
   ·obtain⟨t,ht,rfl⟩:=List.mem_map.1 hy;rw[if_neg (by rw[fO (K6 t) (by decide)];decide),if_neg (by rw[fO (K6 t) (by decide)];decide),if_neg (by rw[fO (K6 t) (by decide)];decide),if_pos (K6 t)];exact(v4 t ht).1
 exact⟨hok,(RD hok).trans hdec⟩
theorem Yc(p:aJ):¬((oZ p).aG=[]/\(oZ p).ah.length=0):=fun h=>by
 have:=h.2;rw[oZ,Cm] at this;simp[d9] at this
theorem rtP(p:aJ):uj (l9 (jT p))=dec (l9 (jT p)≠[])/\(uj (l9 (jT p))=true->xM (l9 (jT p))=p/\validPkg p=true):=by
 have hno:∀s:List UInt8,s=[]->uj s=dec (s≠[])/\(uj s=true->xM s=p/\validPkg p=true):=fun s hs=>by
  have:uj s=false:=by unfold uj;rw[hs,ZN];rfl
  rw[this,hs];exact⟨(aK fun h=>h rfl).symm,fun h=>by cases h⟩
 rcases Qt (validPkg p&&(fC p).all dI) (oZ p) with⟨h1,h2,h3⟩|h
 ·have e:jT p=oZ p:=h3;rw[Bool.and_eq_true] at h1;obtain⟨q1,q2⟩:=an9 h1.1 h1.2 h2;obtain⟨p1,p2⟩:=adx h2
  have hf:l9 (oZ p)=fT (oZ p):=by
   unfold l9;rw[if_neg (Yc p),zN,if_pos h2]
  have hne:fT (oZ p)≠[]:=by
   rw[IJ];split
   ·simp
   ·assumption
  rw[e,hf];refine⟨?_,fun _=>⟨?_,h1.1⟩⟩
  ·rw[bD hne];unfold uj;rw[p1,p2,q1];rfl
  ·unfold xM;rw[if_pos p1,p2,q2]
 ·have e:jT p=bT:=h;rw[e];exact hno _ (if_pos ⟨rfl,rfl⟩)
theorem agB{b:UInt8}(h:bK b=true):b≠10:=fun e=>by
 subst e;revert h;decide
theorem TU:∀l:List (List UInt8),(∀a∈l,(10:UInt8)∉a)->(10:UInt8)∉dL [32] l
 |[],_=>by simp[dL]
 |[a],h=>by simpa [dL] using h a (by simp)
 |a::b::l,h=>by
  have h1:=h a (by simp);have h2:=TU (b::l) fun c hc=>h c (by simp[hc]);simp only[dL] at h2 ⊢;simp only[List.mem_append,List.mem_cons,List.mem_flatMap,List.not_mem_nil,or_false,not_or] at h2 ⊢;exact⟨h1,by simp_all⟩
mutual
theorem TV:∀x:aj,gP x=true->(10:UInt8)∉fT x
 | .mk [] l,hf=>by
   rw[gP,if_pos rfl] at hf;rw[fT,if_pos rfl];have:=TU (lg l) (Qu l hf);simp[this]
 | .mk (b::u) l,hf=>by
   rw[gP,if_neg (by simp),Bool.and_eq_true] at hf;have ha:=hf.1;unfold validAtom at ha;rw[Bool.and_eq_true] at ha;rw[fT,if_neg (by simp)];exact fun hm=>agB (List.all_eq_true.1 ha.1 10 hm) rfl
theorem Qu:∀l:List aj,iG l=true->∀a∈lg l,(10:UInt8)∉a
 |[],_,a,ha=>by simp[lg] at ha
 |x::l,hf,a,ha=>by
  rw[iG,Bool.and_eq_true] at hf;rw[lg] at ha;rcases List.mem_cons.1 ha with rfl|ha
  ·exact TV x hf.1
  ·exact Qu l hf.2 a ha
end
theorem Yd(p:aJ)(h:l9 (jT p)≠[]):(∃t,l9 (jT p)=40::t)/\(10:UInt8)∉l9 (jT p):=by
 rcases Qt (validPkg p&&(fC p).all dI) (oZ p) with⟨h1,h2,h3⟩|h3
 ·have e:jT p=oZ p:=h3
  have hf:l9 (jT p)=fT (oZ p):=by
   rw[e];unfold l9;rw[if_neg (Yc p),zN,if_pos h2]
  rw[hf];refine⟨?_,TV _ (zP h2).1⟩;rw[IJ,if_pos (show(oZ p).aG=[] from rfl)];exact⟨_,rfl⟩
 ·have e:jT p=bT:=h3;rw[e] at h;exact absurd (if_pos ⟨rfl,rfl⟩) h
theorem aaI(c:UInt8):∀(a acc r:List UInt8),c∉a->spl c acc (a++c::r)=(acc++a)::spl c [] r
 |[],acc,r,_=>by simp[spl]
 |b::a,acc,r,h=>by
  have hb:b≠c:=fun e=>h (by simp[e]);rw[List.cons_append,spl,if_neg hb,aaI c a _ r fun hm=>h (by simp[hm])]
  simp
theorem Ye(c:UInt8):∀(a acc:List UInt8),c∉a->spl c acc a=[acc++a]
 |[],acc,_=>by simp[spl]
 |b::a,acc,h=>by
  have hb:b≠c:=fun e=>h (by simp[e]);rw[spl,if_neg hb,Ye c a _ fun hm=>h (by simp[hm])]
  simp
theorem Yf:∀l:List (List UInt8),l≠[]->(∀a∈l,(10:UInt8)∉a)->spl 10 [] (dL [10] l)=l
 |[],h,_=>absurd rfl h
 |[a],_,h=>by
  rw[show dL [10] [a]=a by simp[dL],Ye 10 a [] (h a (by simp))];rfl
 |a::b::l,_,h=>by
  rw[show dL [10] (a::b::l)=a++10::dL [10] (b::l) by simp[dL],aaI 10 a [] _ (h a (by simp)),Yf (b::l) (by simp) fun c hc=>h c (by simp[hc])];rfl
theorem Qv:∀(ps acc:List aJ),(∀p∈ps,l9 (jT p)≠[])->acc.length+ps.length<=5->lu (ps.map fun p=>l9 (jT p)) acc=(acc++ps,-1)
 |[],acc,_,_=>by simp[lu]
 |p::ps,acc,h,hl=>by
  have hp:=h p (by simp);obtain⟨⟨t,ht⟩,_⟩:=Yd p hp;obtain⟨r1,r2⟩:=rtP p;rw[bD hp] at r1
  have hb:EX (l9 (jT p))=false:=by rw[ht];rfl
  simp only[List.length_cons] at hl;rw[List.map_cons,lu,if_neg (by rw[hb];decide),if_pos ⟨r1,by omega⟩,(r2 r1).1,Qv ps _ (fun q hq=>h q (by simp[hq])) (by rw[List.length_append,List.length_singleton];omega)]
  simp
theorem rtW{ps:List aJ}(hl:ps.length<=5)(h:∀p∈ps,l9 (jT p)≠[])(hne:ps≠[]):Am (dL [10] (ps.map fun p=>l9 (jT p)))=⟨ps⟩/\Ad (dL [10] (ps.map fun p=>l9 (jT p)))= -1:=by
 have hs:=Yf (ps.map fun p=>l9 (jT p)) (by simpa using hne) fun a ha=>by
  obtain⟨p,hp,rfl⟩:=List.mem_map.1 ha;exact(Yd p (h p hp)).2
 unfold Am Ad;rw[hs,Qv ps [] h (by simpa using hl)];exact⟨rfl,rfl⟩
theorem Jf:∀(ls:List (List UInt8))(acc:List aJ),acc.length<=5->(lu ls acc).2= -1\/((lu ls acc).1=[]/\0<=(lu ls acc).2/\(lu ls acc).2<=5)
 |[],acc,_=>.inl rfl
 |l::ls,acc,h=>by
  rw[lu];split
  ·exact Jf ls acc h
  ·split
   ·rename_i q;exact Jf ls _ (by rw[List.length_append,List.length_singleton];omega)
   ·exact .inr ⟨rfl,by simp only;omega,by simp only;omega⟩
theorem ady(s:List UInt8):Ad s= -1\/((Am s).kP=[]/\0<=Ad s/\Ad s<=5):=Jf _ _ (by simp)
def tk0(k:Key):Nat->List (List D)->V
 |0,_=>.c (.bn [])
 |_+1,es=>.c (.bB k es)
def ob0(z:Nat):Nat->List (List D)->List Obj
 |0,_=>[]
 |_+1,es=>[.tok z es]
theorem kU(k:Key)(es:List (List D)):tk0 k 0 es=.c (.bn []):=rfl
theorem jq(k:Key)(n:Nat)(es:List (List D)):tk0 k (n+1) es=.c (.bB k es):=rfl
theorem kV(z:Nat)(es:List (List D)):ob0 z 0 es=[]:=rfl
theorem jr(z n:Nat)(es:List (List D)):ob0 z (n+1) es=[.tok z es]:=rfl
theorem aaJ(xs:List (List UInt8))(b:List UInt8)(hl:xs.length<=1073741824)(hf:(dL b xs).length<=1073741824)(hp:∀i,(dL b (xs.take i)).length<=(dL b xs).length):aC prog 23 [.c (.d (.sl (xs.map encS))),.c (.d (.s b))] (.c (.d (.s (dL b xs)))):=fun S=>by
 refine zcx [.tmp 4] func23 ntmps23 ?_;refine W1 ?_
 refine aR (ι:=Nat) zmx rfl [0,1,5,6] (fun i=>[.c (.d (.sl (xs.map encS))),.c (.d (.s b)),tk0 (0,0) i (sJ (dL b (xs.take i))),.c (.d (.i .i64 i))]) (fun i=>ob0 1 i (sJ (dL b (xs.take i)))::S)
  (fun i=>i<=xs.length) (fun i=>xs.length-i) 0 rfl rfl (Nat.zero_le _) ?_
 rintro i p1;have hi1:=hp (i+1);by_cases hi:i<xs.length
 ·have hst:=Dm b xs i hi
  cases i with
  |zero=>
   simp -implicitDefEqProofs (disch:=omega) only[go_sem,kU,jq,kV,jr]
   with_reducible refine dZ (fun hb=> ?_) (fun hb=> ?_)<;>have h:=hb<;>(try simp only[wf_preprocess] at h)<;>simp -implicitDefEqProofs (disch:=omega) only[go_sem,hb,kU,jq,kV,jr]<;>refine W3 ?_
   ·refine W3 ?_
    with_reducible refine dZ (fun hb=> ?_) (fun hb=> ?_)<;>have h:=hb<;>(try simp only[wf_preprocess] at h)<;>simp -implicitDefEqProofs (disch:=omega) only[go_sem,hb,kU,jq,kV,jr]<;>refine W3 ?_
    ·omega
    ·have e:sJ (dL b (xs.take (0+1)))=xs[0].map (fun b=>[D.i .u8 b.toNat]):=by rw[hst,if_pos rfl];rfl
     rw[hst,if_pos rfl] at hi1;exact⟨by omega,bV (0+1) (by omega) (by rw[jq,e];rfl) (by rw[jr,e]) (by omega)⟩
   ·omega
  |succ j=>
   simp -implicitDefEqProofs (disch:=omega) only[go_sem,kU,jq,kV,jr]
   with_reducible refine dZ (fun hb=> ?_) (fun hb=> ?_)<;>have h:=hb<;>(try simp only[wf_preprocess] at h)<;>simp -implicitDefEqProofs (disch:=omega) only[go_sem,hb,kU,jq,kV,jr]<;>refine W3 ?_
   ·refine W3 ?_
    with_reducible refine dZ (fun hb=> ?_) (fun hb=> ?_)<;>have h:=hb<;>(try simp only[wf_preprocess] at h)<;>simp -implicitDefEqProofs (disch:=omega) only[go_sem,hb,kU,jq,kV,jr]<;>refine W3 ?_
    ·have e:sJ (dL b (xs.take (j+1+1)))=sJ (dL b (xs.take (j+1)))++b.map (fun b=>[D.i .u8 b.toNat])++xs[j+1].map (fun b=>[D.i .u8 b.toNat]):=by
      rw[hst,if_neg (by omega),Jr,Jr];rfl
     rw[hst,if_neg (by omega)] at hi1;simp only[List.length_append] at hi1;refine⟨by rw[Js];omega,⟨by omega,hi⟩,fun y hy=> ?_,⟨_,rfl,rfl⟩,by rw[List.length_append,List.length_map,Js];omega,?_⟩
     ·obtain⟨z,_,rfl⟩:=List.mem_map.1 hy;rfl
     ·exact bV (j+1+1) (by omega) (by rw[jq,e];rfl) (by rw[jr,e]) (by omega)
    ·omega
   ·omega
 ·have hi:i=xs.length:=by omega
  cases i with
  |zero=>
   simp -implicitDefEqProofs (disch:=omega) only[go_sem,kU,jq,kV,jr]
   with_reducible refine dZ (fun hb=> ?_) (fun hb=> ?_)<;>have h:=hb<;>(try simp only[wf_preprocess] at h)<;>simp -implicitDefEqProofs (disch:=omega) only[go_sem,hb,kU,jq,kV,jr]<;>refine W3 ?_
   ·omega
   ·rw[List.eq_nil_of_length_eq_zero hi.symm];rfl
  |succ j=>
   simp -implicitDefEqProofs (disch:=omega) only[go_sem,kU,jq,kV,jr]
   with_reducible refine dZ (fun hb=> ?_) (fun hb=> ?_)<;>have h:=hb<;>(try simp only[wf_preprocess] at h)<;>simp -implicitDefEqProofs (disch:=omega) only[go_sem,hb,kU,jq,kV,jr]<;>refine W3 ?_
   ·omega
   ·refine⟨fun y hy=>acp _ y hy,?_⟩;rw[Zc,hi,List.take_length]
theorem Qw:∀n:Nat,∀x:aj,SizeOf.sizeOf x<n->x.sz<=67108864->aC prog 86 [x.v] (.c (.d (.s (fT x))))
 |0=>fun x h=>by omega
 |n+1=>by
  have ih:=Qw n;intro x hn hsz S;have ht:=IJ x;have hln:=Fp x;have hts:=Et hsz
  have hll:x.ah.length<=67108864:=by
   have h2:=jH x;omega
  have hE:∀i (hi:i<x.ah.length),(((x.ah.take (i+1)).map fT).map encS)=((x.ah.take i).map fT).map encS++[[.s (fT x.ah[i])]]:=fun i hi=>by
   rw[List.take_succ_eq_append_getElem hi,List.map_append,List.map_append];rfl
  refine zcx [.tmp 2] func86 ntmps86 ?_;refine W1 ?_;refine S0 (fun hb h=>?_) fun hb h=>?_
  ·rw[ht,if_neg (by simpa using h)]
  ·rw[if_pos (by simpa using h)] at ht
   have hf:(dL [32] (x.ah.map fT)).length<=1073741824:=by
    rw[ht] at hln;simp only[List.length_append,List.length_cons,List.length_nil] at hln;omega
   have hj:=aaJ (x.ah.map fT) [32] (by rw[List.length_map];omega) hf (Dn _ _)
   refine aR (ι:=Nat) zmx rfl [1,3,4] (fun i=>[.c (.ptr (0,0) 0),tk0 (0,1) i (((x.ah.take i).map fT).map encS),.c (.d (.i .i64 i))]) (fun i=>(.box [.d (.s x.aG),.d (.sl (x.ah.map aj.enc))]::ob0 1 i (((x.ah.take i).map fT).map encS))::S)
    (fun i=>i<=x.ah.length) (fun i=>x.ah.length-i) 0 rfl rfl (Nat.zero_le _) ?_
   rintro i p1;by_cases hi:i<x.ah.length
   ·have hsz':=Ay hi hsz;have he:=hE i hi;have hl:=aj.LG hi
    cases i with
    |zero=>
     simp -implicitDefEqProofs (disch:=omega) only[go_sem,kU,jq,kV,jr]
     with_reducible refine dZ (fun hb=> ?_) (fun hb=> ?_)<;>have h:=hb<;>(try simp only[wf_preprocess] at h)<;>simp -implicitDefEqProofs (disch:=omega) only[go_sem,hb,kU,jq,kV,jr]<;>refine W3 ?_
     ·refine W3 ?_;refine C2 (ih x.ah[0] (by omega) hsz'.1) ?_;exact bV (0+1) (by omega) (by rw[jq,he];rfl) (by rw[jr,he];rfl) (by omega)
     ·omega
    |succ j=>
     simp -implicitDefEqProofs (disch:=omega) only[go_sem,kU,jq,kV,jr]
     with_reducible refine dZ (fun hb=> ?_) (fun hb=> ?_)<;>have h:=hb<;>(try simp only[wf_preprocess] at h)<;>simp -implicitDefEqProofs (disch:=omega) only[go_sem,hb,kU,jq,kV,jr]<;>refine W3 ?_
     ·refine W3 ?_;refine C2 (ih x.ah[j+1] (by omega) hsz'.1) ?_;exact bV (j+1+1) (by omega) (by rw[jq,he];rfl) (by rw[jr,he]) (by omega)
     ·omega
   ·have hi:i=x.ah.length:=by omega
    cases i with
    |zero=>
     simp -implicitDefEqProofs (disch:=omega) only[go_sem,kU,jq,kV,jr]
     with_reducible refine dZ (fun hb=> ?_) (fun hb=> ?_)<;>have h:=hb<;>(try simp only[wf_preprocess] at h)<;>simp -implicitDefEqProofs (disch:=omega) only[go_sem,hb,kU,jq,kV,jr]<;>refine W3 ?_
     ·omega
     ·rw[List.eq_nil_of_length_eq_zero hi.symm] at ht hj;refine jY hj (.cons (by exact Less.refl _) (.cons (Less.refl _) .nil)) ?_;refine W1 ?_;exact⟨by decide,by decide,by rw[ht];rfl⟩
    |succ j=>
     simp -implicitDefEqProofs (disch:=omega) only[go_sem,kU,jq,kV,jr]
     with_reducible refine dZ (fun hb=> ?_) (fun hb=> ?_)<;>have h:=hb<;>(try simp only[wf_preprocess] at h)<;>simp -implicitDefEqProofs (disch:=omega) only[go_sem,hb,kU,jq,kV,jr]<;>refine W3 ?_
     ·omega
     ·rw[hi,List.take_length];refine jY hj (.cons (by exact Less.refl _) (.cons (Less.refl _) .nil)) ?_;refine W1 ?_;exact⟨by omega,by omega,by rw[ht];rfl⟩
theorem agC(x:aj)(hsz:x.sz<=67108864):aC prog 86 [x.v] (.c (.d (.s (fT x)))):=Qw _ x (Nat.lt_succ_self _) hsz
theorem RJ(x:aj)(hsz:x.sz<=67108864):aC prog 45 [x.v] (.c (.d (.s (zN x)))):=fun S=>by
 refine zcx [.tmp 2] func45 ntmps45 ?_;refine W1 ?_;refine C2 (ng x hsz) ?_;refine S0 (fun hb h=>?_) fun hb h=>?_
 ·rw[zN,if_neg (by simpa using h)]
 ·refine C2 (agC x hsz) ?_;rw[zN,if_pos (by simpa using h)]
theorem agD(x:aJ):(jT x).aG=[]:=by
 unfold jT;generalize (validPkg x&&(fC x).all dI)=b;cases b
 ·rfl
 ·show(sI (oZ x)).aG=[];unfold sI;split<;>rfl
theorem RL(x:aJ)(hsz:x.sz<=1048576):aC prog 20 [x.v] (.c (.d (.s (l9 (jT x))))):=fun S=>by
 have c1:aC prog 40 [x.v] (jT x).v:=by
  have h2:aC prog 40 [x.v] (.agg ((fQ (jT x).enc 0).map .d)):=by
   have:=ZI x 0 hsz
   first|exact this|(rw[jJ];exact this)
  have:=aC.less h2 IQ;rw[aj.M5] at this;exact this
 have hd:(jT x).sz<=1048576:=aaA (by omega);obtain⟨X,hX⟩:∃X,X=jT x:=⟨_,rfl⟩;rw[<-hX] at hd c1 ⊢;clear hX;refine zcx [.tmp 2] func20 ntmps20 ?_;refine W1 ?_;refine aX c1 ?_;refine W1 ?_;refine jY (qK X bT (by omega)) (.cons (by exact Less.refl _) (.cons (by exact Less.refl _) .nil)) ?_;refine W1 ?_;refine S0 (fun hb h=>?_) fun hb h=>?_
 ·rw[afm (by simpa using h)]
 ·refine C2 (Rc X (by omega)) ?_;rw[afn (by simpa using h)]
theorem RN(x:aJ)(hsz:x.sz<=1048576):aC prog 22 [x.v] (.c (.d (.s (l9 (jT x))))):=fun S=>by
 have c1:=adn x (by omega);have hd:(jT x).sz<=1048576:=aaA (by omega);have ha:(jT x).aG=[]:=agD x;obtain⟨X,hX⟩:∃X,X=jT x:=⟨_,rfl⟩;rw[<-hX] at hd c1 ha ⊢;clear hX;refine zcx [.tmp 2] func22 ntmps22 ?_;refine W1 ?_;refine aX c1 ?_;refine W1 ?_;refine S0 (fun hb h=>?_) fun hb h=>?_
 ·rw[ang ha (by omega)]
 ·refine C2 (RJ X (by omega)) ?_;rw[anf (by omega)]
def uX(xs:List (List UInt8)):Nat:=(xs.map List.length).sum
theorem agE{xs:List (List UInt8)}{i:Nat}(hi:i<xs.length):uX (xs.take (i+1))=uX (xs.take i)+xs[i].length:=by
 unfold uX
 rw[List.take_succ_eq_append_getElem hi,List.map_append,List.sum_append];simp
theorem agF(xs:List (List UInt8))(i:Nat):uX (xs.take i)<=uX xs:=by
 have:uX xs=uX (xs.take i)+uX (xs.drop i):=by
  unfold uX;rw[<-List.sum_append,<-List.map_append,List.take_append_drop]
 omega
theorem agG(b:UInt8):∀xs:List (List UInt8),xs≠[]->(dL [b] xs).length=uX xs+(xs.length-1)
 |[],h=>absurd rfl h
 |x::xs,_=>by
  have h:∀ys:List (List UInt8),((ys.map fun y=>[b]++y).flatten).length=uX ys+ys.length:=by
   intro ys
   induction ys with
   |nil=>rfl
   |cons y ys ih=>rw[List.map_cons,List.flatten_cons,List.length_append,ih];simp[uX];omega
  rw[dL,List.length_append,h];simp[uX];omega
theorem aoa(xs:List (List UInt8))(b0:UInt8)(h2:2<=xs.length)(hlen:(dL [b0] xs).length<=1073741824)(w:World)(k off cap:Nat)(hcap:xs.length<=cap)(c:Array Value)(t:TypeId)(fz:Nat×Nat)(hk:w.heap[k]? =some (.cells c t fz))
 (hc:∀i (hi:i<xs.length),c[off+i]? =some (.string ⟨xs[i].toArray⟩)):
 Calls prog 43 #[.slice (some ⟨k,off,none⟩) xs.length cap,.string ⟨#[b0]⟩] w fun e w'=>e=.returned (.string ⟨(dL [b0] xs).toArray⟩)/\Below w.heap.size w w':=by
 have hsum:=agG b0 xs (by rintro rfl;simp at h2);have htk:=agF xs;have hts:= @agE xs
 have hcell:∀i (hi:i<xs.length),w.cell? ⟨k,off+i,none⟩=some (.string ⟨xs[i].toArray⟩):=fun i hi=>by rw[Lib.cell_of_heap hk];exact hc i hi
 have hdv:¬((9223372036854775807:Int) / ((xs.length:Int)-1)<=1):=by
  have e:(9223372036854775807:Int) / ((xs.length-1:Nat):Int)=((9223372036854775807/ (xs.length-1):Nat):Int):=IntWalk.up_div (x:=9223372036854775807) rfl rfl
  have e2:2<=9223372036854775807/ (xs.length-1):=by rw[Nat.le_div_iff_mul_le (by omega)];omega
  rw[show((xs.length:Int)-1)=((xs.length-1:Nat):Int) by omega,e];omega
 go_enter func43,ntmps43
 go_wp2
 have HL:Aside ((dL [b0] xs).length<=1073741824):=hlen;have HS:Aside ((dL [b0] xs).length=uX xs+(xs.length-1)):=hsum
 go_loopg [5,41] xs.length (fun g v5 v41 wx=>∃i:Nat,i+g=xs.length/\v5=.int .i64 ((xs.length:Int)-1+uX (xs.take i))/\v41=.int .i64 i/\wx=w)
 case atStart=>exact⟨0,by omega,by simp[uX],rfl,rfl⟩
 case round=>
  obtain⟨i,hi,rfl,rfl,hwr⟩:=hrel;subst wr;have h1:=htk i;have h3:=HL.out;rw[HS.out] at h3
  cases gk with
  |zero=>
   obtain rfl:i=xs.length:=by omega
   rw[List.take_length] at h1 ⊢;obtain⟨M,hM⟩:∃M:Nat,(M:Int)=(xs.length:Int)-1+uX xs:=⟨xs.length-1+uX xs,by omega⟩;rw[<-hM];have HM:Aside ((M:Int)=(xs.length:Int)-1+uX xs):=hM
   have hMl:M<=281474976710656:=by omega
   clear hM hdv;have hbk0:=heap_alloc_new w (.cells #[.pointer none,.slice none 0 0] 122);have hkl:=lt_of_some hk
   go_wp2_with (go_at_call 76;refine(anY w.heap.size w.heap.size M _ (Nat.le_refl _) hbk0 (by simp) hMl).mono ?_)
   rintro e w1 ⟨rfl,hB1,hb1⟩;have ajO:Below w.heap.size w w1:=((Below.refl _ w).alloc (Nat.le_refl _) _).trans hb1
   have e0:w1.cell? ⟨k,off,none⟩=some (.string ⟨(xs[0]'(by omega)).toArray⟩):=by
    have:=ajO.block k hkl;rw[Lib.cell_of_heap (this.trans hk)];exact hc 0 (by omega)
   have hx0:=hts (i:=0) (by omega);have hx1:=htk (0+1)
   have hx2:xs[0].length<=1073741824:=by omega
   go_wp2_with (go_at_call 77;refine(zM w.heap.size w.heap.size [] ⟨(xs[0]'(by omega)).toArray⟩ _ (.inr hB1) ?_ ?_).mono ?_)
   ·show 0+(xs[0]'(by omega)).toArray.size<=_;rw[List.size_toArray];omega
   ·exact ajO.size
   rintro e w2 ⟨rfl,hB2,hb2,hk2⟩;rw[List.nil_append,Lib.strCells_eq] at hB2;have hbw2:=ajO.trans hb2;have hst:=Dm [b0] xs;have hjt:=Dn [b0] xs;clear hbk0 hcell e0 HM hB1 hb1 hk2 hb2 hx0 hx1 hx2
   go_wp2
   go_loopg [65] (xs.length-1) (fun g v wx=>∃i:Nat,i+g=xs.length-1/\v=.int .i64 i/\Lib.BuilderAtF 122 5 w.heap.size w.heap.size (.pointer (some ⟨w.heap.size,0,none⟩)) (Lib.byteCells (dL [b0] (xs.take (i+1)))) wx/\Below w.heap.size w wx)
   case atStart=>exact⟨0,by omega,rfl,by rw[hst 0 (by omega),if_pos rfl];exact hB2,hbw2⟩
   case round=>
    obtain⟨i,hi',rfl,hbd,hbx⟩:=hrel
    cases gk with
    |zero=>
     rw[show i+1=xs.length by omega,List.take_length] at hbd
     have hne:dL [b0] xs≠[]:=fun e=>by rw[e] at hsum;simp at hsum;omega
     have hT:=Pb w.heap.size w.heap.size (dL [b0] xs) _ (.inr hbd) hne
     go_wp2_with (go_at_call 75;refine hT.mono ?_)
     rintro e w4 ⟨rfl,hb4⟩
     go_wp2
     go_ret
     exact⟨rfl,hbx.trans hb4⟩
    |succ g=>
     have hil:i+1<xs.length:=by omega
     have zA:=hst (i+1) hil;rw[if_neg (by omega)] at zA;have h5:=hjt (i+1+1);rw[zA] at h5;simp only[List.length_append,List.length_cons,List.length_nil] at h5;have HST:Aside (dL [b0] (xs.take (i+1+1))=dL [b0] (xs.take (i+1))++[b0]++xs[i+1]):=zA;clear zA
     have d0:wr.cell? ⟨k,off+1+i,none⟩=some (.string ⟨xs[i+1].toArray⟩):=by
      rw[Lib.cell_of_heap ((hbx.block k hkl).trans hk),show off+1+i=off+(i+1) by omega];exact hc (i+1) hil
     go_wp2_with (go_at_call 77;refine(zM w.heap.size w.heap.size _ ⟨#[b0]⟩ _ (.inr hbd) ?_ hbx.size).mono ?_)
     ·rw[Lib.byteCells_length];show _+1<=_;omega
     rintro e w3 ⟨rfl,h3',hb3,hk3⟩;rw[show(⟨#[b0]⟩:ByteArray)=⟨[b0].toArray⟩ from rfl,Lib.strCells_eq,<-Lib.byteCells_append] at h3'
     go_wp2_with (go_at_call 77;refine(zM w.heap.size w.heap.size _ ⟨xs[i+1].toArray⟩ _ (.inr h3') ?_ (hbx.trans hb3).size).mono ?_)
     ·rw[Lib.byteCells_length,List.length_append];show _+(xs[i+1]).toArray.size<=_;rw[List.size_toArray,List.length_singleton];omega
     rintro e w4 ⟨rfl,h4',hb4,hk4⟩
     go_wp2
     go_roundg g
     case measure=>omega
     case rel=>
      refine⟨i+1,by omega,by simp,?_,(hbx.trans hb3).trans hb4⟩;rw[HST.out];rw[Lib.strCells_eq,<-Lib.byteCells_append] at h4';exact h4'
  |succ g=>
   have hil:i<xs.length:=by omega
   have hci:=hcell i hil;have arU:=hts hil;have h4:=htk (i+1)
   go_wp2
   go_roundg g
   case measure=>omega
   case rel=>exact⟨i+1,by omega,by rw[arU];congr 1;omega,by simp,rfl⟩
theorem ame{w:World}{σ:Nat->Nat}{xs:List (List UInt8)}{lv:Value}(h:dJ w σ (.sl (xs.map encS)) lv):∃a cap,lv=.slice a xs.length cap/\(xs≠[]->∃k off c t fz,a=some ⟨k,off,none⟩/\xs.length<=cap/\w.heap[k]? =some (.cells c t fz)/\∀i (hi:i<xs.length),c[off+i]? =some (.string ⟨xs[i].toArray⟩)):=by
 generalize he:xs.map encS=es at h
 have hl:es.length=xs.length:=by rw[<-he,List.length_map]
 cases h with
 |nil a cap=>
  have h0:xs=[]:=List.eq_nil_of_length_eq_zero hl.symm;exact⟨a,cap,by rw[h0];rfl,fun h=>absurd h0 h⟩
 |sl k off cap aW es vals c t fz hcap hlen hb hσ hc hv=>
  refine⟨_,cap,by rw[hl],fun hne=>⟨k,off,c,t,fz,rfl,by omega,hb,fun i hi=> ?_⟩⟩
  have e1:es[i]'(by omega)=[.s xs[i]]:=by
   subst he;rw[List.getElem_map];rfl
  have hz:aW=1:=by
   have:=hlen _ (List.getElem_mem (l:=es) (n:=i) (by omega));rw[e1] at this;exact this.symm
  subst hz;have hf:es.flatten[i*1+0]? =(es[i]'(by omega))[0]? :=flat_get es 1 hlen i 0 (by omega) (by omega);have h0:=hv (i*1+0) (.s xs[i]) (by rw[hf,e1];rfl);have:=hc (i*1+0) (by omega);generalize vals (i*1+0)=v0 at h0 this;cases h0;rw[Nat.mul_one,Nat.add_zero] at this;exact this
theorem adz(xs:List (List UInt8))(b0:UInt8)(hN:xs.length<=1073741824)(hlen:(dL [b0] xs).length<=1073741824):aC prog 43 [.c (.d (.sl (xs.map encS))),.c (.d (.s [b0]))] (.c (.d (.s (dL [b0] xs)))):=fun S=>by
 refine⟨⟨_,func43,by kernel_rfl,by kernel_rfl⟩,fun w σ β vs hS hv=> ?_⟩;obtain⟨hl,hv⟩:=hv;obtain⟨v0,e0,h0,_⟩:=hv 0 _ rfl;obtain⟨v1,e1,h1,_⟩:=hv 1 _ rfl
 obtain rfl:v1=.string ⟨[b0].toArray⟩:=by cases h1;rfl
 obtain⟨a,cap,rfl,hr⟩:=ame h0
 have hvs:vs.toArray= #[.slice a xs.length cap,.string ⟨#[b0]⟩]:=by
  match vs,hl,e0,e1 with
  |[p,q],_,e0,e1=>simp at e0 e1;rw[e0,e1]
 rw[hvs]
 have key:Calls prog 43 #[.slice a xs.length cap,.string ⟨#[b0]⟩] w fun e w'=>e=.returned (.string ⟨(dL [b0] xs).toArray⟩)/\Below w.heap.size w w':=by
  match xs,hr,hN,hlen with
  |[],_,_,_=>
   go_enter func43,ntmps43
   go_wp2
   go_ret
   exact⟨rfl,Below.refl _ _⟩
  |[x],hr,_,_=>
   obtain⟨k,off,c,t,fz,rfl,_,hk,hc⟩:=hr (by simp)
   have d0:w.cell? ⟨k,off,none⟩=some (.string ⟨x.toArray⟩):=by rw[Lib.cell_of_heap hk];exact hc 0 (by simp)
   have ej:dL [b0] [x]=x:=by simp[dL]
   rw[ej]
   go_enter func43,ntmps43
   go_wp2
   go_ret
   exact⟨rfl,Below.refl _ _⟩
  |x::y::z,hr,_,hlen=>
   obtain⟨k,off,c,t,fz,rfl,hcap,hk,hc⟩:=hr (by simp);exact aoa (x::y::z) b0 (by simp) hlen w k off cap hcap c t fz hk hc
 refine key.mono fun e w' ⟨he,hb⟩=> ?_;have hg:Grow w σ w' σ:=⟨hb.size,hb.os,hb.output,fun k hk=>⟨hb.block k hk,rfl⟩,fun k=>(hS.live k).elim (fun h=>.inl (Nat.lt_of_lt_of_le h hb.size)) .inr⟩;exact⟨_,.c (.d (.s (dL [b0] xs))),S,σ,β,he,hS.grow hg,Keep.refl _ _,Step.lX hg,⟨.s _,rfl⟩,rfl,rfl⟩
theorem ZO(xs:List (List UInt8))(b0:UInt8)(hN:xs.length<=1073741824)(hlen:(dL [b0] xs).length<=1073741824):aC prog 21 [.c (.d (.sl (xs.map encS))),.c (.d (.s [b0]))] (.c (.d (.s (dL [b0] xs)))):=fun S=>by
 refine zcx [.tmp 4] func21 ntmps21 ?_;refine W1 ?_;exact C3 (adz xs b0 hN hlen)
noncomputable def mX(p:aJ):List UInt8:=l9 (jT p)
open Classical in
noncomputable def CP(l:List aJ):List UInt8:=if l.length<=5/\∀p∈l,mX p≠[] then dL [10] (l.map mX) else []
theorem DT{l:List aJ}(h:¬(l.length<=5/\∀p∈l,mX p≠[])):CP l=[]:=if_neg h
theorem Yg{l:List aJ}(h1:l.length<=5)(h2:∀j,∀hj:j<l.length,mX l[j]≠[]):CP l=dL [10] (l.map mX):=if_pos ⟨h1,fun p hp=>by
 obtain⟨j,hj,rfl⟩:=List.mem_iff_getElem.1 hp
 exact h2 j hj⟩
theorem Yh{l:List aJ}(h:l.length<=5):(dL [10] (l.map mX)).length<=1073741824:=by
 have h1:=Kj [10] (l.map mX)
 have h2:((l.map mX).map fun x=>([10]:List UInt8).length+x.length).sum<=l.length*40001:=by
  clear h h1
  induction l with
  |nil=>simp
  |cons p l ih=>
   simp only[List.map_cons,List.sum_cons,List.length_cons,List.length_nil];have:=WC (jT p)
   unfold mX at *
   simp only[List.length_cons,List.length_nil] at ih;omega
 omega
theorem Ho(x:gW)(hsz:x.sz<=1048576):aC prog 8 [x.v] (.c (.d (.s (CP x.kP)))):=fun S=>by
 simp only[gW.sz,gW.aQ,dz,D.sz,List.length_map] at hsz;obtain⟨l,hl⟩:∃l,l=x.kP:=⟨_,rfl⟩
 have hE:∀i (hi:i<l.length),(((l.take (i+1)).map mX).map encS)=((l.take i).map mX).map encS++[[.s (mX l[i])]]:=fun i hi=>by
  rw[List.take_succ_eq_append_getElem hi,List.map_append,List.map_append];rfl
 rw[<-hl] at hsz ⊢;refine zcx [.tmp 2] func8 ntmps8 ?_;refine W1 ?_;rw[<-hl];refine S0 (fun hb h=>?_) fun hb h=>?_
 ·rw[DT (fun hq=>by omega)]
 have h5:l.length<=5:=by omega
 refine lQ 3 1 [] rfl (by simp) ?_
 refine aR (ι:=Nat) zmx rfl [3,13,14,15] (fun i=>[.c (.bB (0,1) (((l.take i).map mX).map encS)),.c (.d (.sl (l.map aJ.enc))),.c (.d (.i .i64 l.length)),.c (.d (.i .i64 i))])
  (fun i=>[.box [.d (.sl (l.map aJ.enc))],.tok 1 (((l.take i).map mX).map encS)]::S)
  (fun i=>i<=l.length/\∀j,∀hj:j<l.length,j<i->mX l[j]≠[]) (fun i=>l.length-i) 0 rfl (by rw[hl];rfl) ⟨Nat.zero_le _,fun j _ h=>by omega⟩ ?_
 rintro i ⟨p1,p2⟩;refine W1 ?_;refine S0 (fun hb h=>?_) fun hb h=>?_
 ·have hi:i<l.length:=by omega
  have hx:l[i].sz<=bf (l.map aJ.enc):=cB (List.mem_map_of_mem (List.getElem_mem hi));have he:=hE i hi;refine W3 ?_;refine C2 (RL l[i] (by omega)) ?_;have hf:l9 (jT l[i])=mX l[i]:=rfl;simp only[hf];refine S0 (fun hb h=>?_) fun hb h=>?_
  ·rw[DT (fun hq=>hq.2 _ (List.getElem_mem hi) (by simpa using h))]
  ·refine W3 ?_;rw[<-he];refine bL 2 (by decide) (i+1) (by omega) rfl rfl rfl rfl ⟨by omega,fun j hj hji=> ?_⟩;by_cases e:j=i
   ·subst e;simpa using h
   ·exact p2 j hj (by omega)
 ·have hi:i=l.length:=by omega
  subst hi;rw[List.take_length];refine C1 (ZO (l.map mX) 10 (by rw[List.length_map];omega) (Yh h5)) ?_;rw[Yg h5 fun j hj=>p2 j hj hj]
theorem RO(x:gW)(hsz:x.sz<=1048576):aC prog 9 [x.v] (.c (.d (.s (CP x.kP)))):=fun S=>by
 simp only[gW.sz,gW.aQ,dz,D.sz,List.length_map] at hsz;obtain⟨l,hl⟩:∃l,l=x.kP:=⟨_,rfl⟩
 have hE:∀i (hi:i<l.length),(((l.take (i+1)).map mX).map encS)=((l.take i).map mX).map encS++[[.s (mX l[i])]]:=fun i hi=>by
  rw[List.take_succ_eq_append_getElem hi,List.map_append,List.map_append];rfl
 rw[<-hl] at hsz ⊢;refine zcx [.tmp 2] func9 ntmps9 ?_;refine W1 ?_;rw[<-hl];refine lQ 3 1 [] rfl (by simp) ?_
 refine aR (ι:=Nat) zmx rfl [1,3,4] (fun i=>[.c (.ptr (0,0) 0),.c (.bB (0,1) (((l.take i).map mX).map encS)),.c (.d (.i .i64 i))])
  (fun i=>[.box [.d (.sl (l.map aJ.enc))],.tok 1 (((l.take i).map mX).map encS)]::S)
  (fun i=>i<=l.length/\i<=5/\∀j,∀hj:j<l.length,j<i->mX l[j]≠[]) (fun i=>l.length-i) 0 rfl (by first|rfl|(rw[hl];rfl)) ⟨Nat.zero_le _,Nat.zero_le _,fun j _ h=>by omega⟩ ?_
 rintro i ⟨p1,p3,p2⟩;refine W1 ?_;refine S0 (fun hb h=>?_) fun hb h=>?_
 ·have hi:i<l.length:=by omega
  have hx:l[i].sz<=bf (l.map aJ.enc):=cB (List.mem_map_of_mem (List.getElem_mem hi));have he:=hE i hi;refine W3 ?_;refine C2 (RN l[i] (by omega)) ?_;have hf:l9 (jT l[i])=mX l[i]:=rfl;simp only[hf];refine S0 (fun hb h=>?_) fun hb h=>?_
  ·rw[DT (fun hq=>hq.2 _ (List.getElem_mem hi) (by simpa using h))]
  have hne:=h;refine S0 (fun hb h=>?_) fun hb h=>?_
  ·rw[DT (fun hq=>by omega)]
  ·refine W3 ?_;rw[<-he];refine bL 2 (by decide) (i+1) (by omega) rfl rfl rfl rfl ⟨by omega,by omega,fun j hj hji=> ?_⟩;by_cases e:j=i
   ·subst e;simpa using hne
   ·exact p2 j hj (by omega)
 ·have hi:i=l.length:=by omega
  subst hi;rw[List.take_length];refine C1 (aaJ (l.map mX) [10] (by rw[List.length_map];omega) (Yh p3) (Dn _ _)) ?_;rw[Yg p3 fun j hj=>p2 j hj hj]
theorem agH(l:List aJ):(CP l).length<=1048576:=by
 by_cases hc:l.length<=5/\∀p∈l,mX p≠[]
 ·have e:CP l=dL [10] (l.map mX):=if_pos hc;rw[e];have h1:=Kj [10] (l.map mX)
  have h2:((l.map mX).map fun x=>([10]:List UInt8).length+x.length).sum<=l.length*40001:=by
   clear e h1 hc
   induction l with
   |nil=>simp
   |cons p l ih=>
    simp only[List.map_cons,List.sum_cons,List.length_cons,List.length_nil];have:=WC (jT p)
    unfold mX at *
    simp only[List.length_cons,List.length_nil] at ih;omega
  omega
 ·rw[DT hc];simp
theorem arV{l:List aJ}(h:CP l≠[]):Am (CP l)=⟨l⟩/\Ad (CP l)= -1:=by
 by_cases hc:l.length<=5/\∀p∈l,mX p≠[]
 ·have e:CP l=dL [10] (l.map mX):=if_pos hc
  have hne:l≠[]:=by
   rintro rfl;rw[e] at h;exact h rfl
  rw[e];exact rtW hc.1 hc.2 hne
 ·exact absurd (DT hc) h
theorem gW.eqv(x:gW):x.v=.agg [.d (.sl (x.kP.map aJ.enc))]:=by
 cases x;rfl
end Go.Ab
namespace Go.Proofs.YtbaefeecjjhhkaaGreatDoor.fnWorldText
open Go Go.Ab
theorem law(x0:List Int)(b0:∀x∈x0,0<=x/\x<=255):dw prog 3 [.c (.d (.sl (x0.map Ep)))] [] (fun r _=>r=.c (.d (.b true))):=by
 refine ae5 (rs:=[.tmp 2]) zmx func3 ntmps3 rfl rfl rfl rfl rfl ?_;refine W1 ?_;refine C1 (anb x0) ?_;refine S1 fun hb h=>?_;have hBs:Bytes x0:=⟨by omega,b0⟩;have c0:=Y8 hBs;obtain⟨s,hs⟩:∃s,s=LD x0:=⟨_,rfl⟩
 have h0:s.length<=1048576:=by have:=afd x0;rw[hs];omega
 rw[<-hs] at c0;clear hs;have c1:=UC s h0;have c2:=FM s 0 h0;have hd:(Am s).sz<=1048576:=agx s;have hcs:=ady s;obtain⟨X,hX⟩:∃X,X=Am s:=⟨_,rfl⟩;obtain⟨B,hB⟩:∃B,B=Ad s:=⟨_,rfl⟩;rw[<-hX] at hd;rw[<-hX,<-hB] at hcs c1 c2
 have c3:aC prog 6 [.c (.d (.s s))] (.dN [(true,X.enc.map .d),(false,[.d (.i .i64 B)])]):=
  aC.less c2 (Tg fun w σ S β vs h=>SV h)
 simp only[gW.aQ,List.cons_append,List.nil_append,List.map_cons,List.map_nil] at c1 c3;have cF:=Ho X hd;have cG:=RO X hd;obtain⟨T,hT⟩:∃T,T=CP X.kP:=⟨_,rfl⟩;have fP:T.length<=1048576:=hT▸agH _
 have hrt:T≠[]->Am T=⟨X.kP⟩/\Ad T= -1:=fun h=>by
  subst hT;exact arV h
 rw[<-hT] at cF cG;have c4:=FM T 0 fP;have hu:(Am T).sz<=1048576:=agx T;obtain⟨U,hU⟩:∃U,U=Am T:=⟨_,rfl⟩;obtain⟨C,hC⟩:∃C,C=Ad T:=⟨_,rfl⟩;rw[<-hU] at hu;rw[<-hU,<-hC] at c4 hrt
 have c5:aC prog 6 [.c (.d (.s T))] (.dN [(true,U.enc.map .d),(false,[.d (.i .i64 C)])]):=
  aC.less c4 (Tg fun w σ S β vs h=>SV h)
 simp only[gW.aQ,List.cons_append,List.nil_append,List.map_cons,List.map_nil] at c5;have cH:=Ho U hu
 have hfu:T≠[]->CP U.kP=T:=fun h=>by rw[(hrt h).1,hT]
 rw[gW.eqv] at cF cG cH;refine aX c0 ?_;refine W1 ?_;refine aX c3 ?_;refine W1 ?_;refine aX c1 ?_;rcases hcs with hb|⟨e1,e2,e3⟩
 ·subst hb;refine W1 ?_;refine aX cF ?_;refine W1 ?_;refine aX c5 ?_;refine W1 ?_;refine aX cG ?_;refine W1 ?_;refine S1 fun hb h=>?_;obtain⟨hr1,rfl⟩:=hrt h;rw[hfu h] at cH;refine W1 ?_;refine aX cH ?_;exact Z1
  first|done|rfl
 ·have d1:decide (B= -1)=false:=decide_eq_false (by omega);have d5:decide (B<=5)=true:=decide_eq_true e3
  have dl:(X.kP.length:Int)=0:=by rw[e1];rfl
  simp -implicitDefEqProofs (disch:=omega) only[go_sem,d1,d5,dl,Bool.not_false]
  first|done|rfl
end Go.Proofs.YtbaefeecjjhhkaaGreatDoor.fnWorldText
namespace Go.Ab
theorem UD{H:Type}{enc:TypeId×Value->H}{P:Program}{w:World}{base:Nat}{sp:Nat->Bool}{held:Bool}{fuel n:Nat}{t e:TypeId}{k:IntKind}{cs:List Value}{ns:List Int}{p:List MemPlace}
 (ht:P.underlying t=some (.array n e))(he:P.underlying e=some (.int k))(ce:P.cellsOf e=1)(ct:P.cellsOf t=n)
 (h:DataW.trod enc P w base sp held fuel t cs=some (.agg (ns.map fun z=>.lit (.int k z)),p)):cs=ns.map (Value.int k ·):=by
 obtain⟨xs,m,_,ex,hlen,hl,hel⟩:=DataW.trod_array ht h;rw[ct] at hlen;have e3:=DataW.agg.inj (Prod.mk.inj ex).1
 have hns:ns.length=n:=by have:=congrArg List.length e3;simpa [hl] using this
 refine List.ext_getElem (by rw[hlen,List.length_map,hns]) fun i h1 h2=> ?_;have k0:=hel i (by omega);rw[ce,Nat.mul_one] at k0
 have hd:(cs.drop i).take 1=[cs[i]]:=by
  rw[List.drop_eq_getElem_cons h1];rfl
 rw[hd,List.getElem?_eq_getElem (by omega)] at k0;obtain⟨z,a,b,_⟩:=DataW.trod_int he k0
 have e4:(ns.map fun z=>(DataW.lit (Lit.int k z):DataW H))[i]'(by rw[List.length_map];omega)=(xs.map (·.1))[i]'(by rw[List.length_map];omega):=by simp only[e3]
 rw[List.getElem_map,List.getElem_map,b] at e4;simp only[DataW.lit.injEq,Lit.int.injEq,true_and] at e4;rw[List.getElem_map,e4];simpa using a
theorem K7{P:Program}{w:World}{n:String}{g:Nat}{cs:Array Value}(hg:P.globalNamed n=some g)(h:w.var? P n=some cs):∃t fz,w.heap[g]? =some (.cells cs t fz):=by
 unfold World.var? at h;rw[hg] at h;simp only[Option.bind_some] at h;split at h
 ·rename_i c t fz hh;cases h;exact⟨t,fz,hh⟩
 ·cases h
open Go.ChangeShapes
theorem gES:prog.globalNamed "strconv.ErrSyntax" =some 4:=by kernel_rfl
theorem amf:(prog.globals[4]?).map (·.type)=some 127:=by kernel_rfl
theorem gER:prog.globalNamed "strconv.ErrRange" =some 5:=by kernel_rfl
theorem amg:(prog.globals[5]?).map (·.type)=some 127:=by kernel_rfl
theorem cellsE:prog.cellsOf 301=1:=by kernel_rfl
theorem cellsS:prog.cellsOf 9=1:=by kernel_rfl
theorem aks: "*" ++ "errors.errorString" = "*errors.errorString" :=by decide
theorem aob(u:TypeId)(h:prog.typeName? 3 u=some "*errors.errorString"):u=299:=
 typeName_ptr_named (nm:= "errors.errorString") (by rw[aks];kernel_rfl) (by kernel_rfl) (by decide) u (by rw[aks];exact h)
theorem Yi{W:World}{r:List (String×DataW Unit)}(hr:(r.all fun x=>x.2.handleName?.isNone)=true)
 (h0:laidMetH prog (("math/bits.deBruijn32tab",YtbaefeecjjhhkaaGreatDoor.Rows.laid_math_bits_deBruijn32tab)::("math/bits.deBruijn64tab",YtbaefeecjjhhkaaGreatDoor.Rows.laid_math_bits_deBruijn64tab)::("internal/strconv.uint64pow10",YtbaefeecjjhhkaaGreatDoor.Rows.laid_internal_strconv_uint64pow10)::("unicode/utf8.acceptRanges",YtbaefeecjjhhkaaGreatDoor.Rows.laid_unicode_utf8_acceptRanges)::("strconv.ErrRange",YtbaefeecjjhhkaaGreatDoor.Rows.laid_strconv_ErrRange)::("strconv.ErrSyntax",YtbaefeecjjhhkaaGreatDoor.Rows.laid_strconv_ErrSyntax)::r) W):l7 W (lF W):=by
 rw[MakeChecks.laidMetH_plain _ _ _ (by
  rw[List.all_cons,List.all_cons,List.all_cons,List.all_cons,List.all_cons,List.all_cons,hr];kernel_rfl)] at h0
 have hR:=h0.tail.tail.tail.tail;have hS:=hR.tail;obtain⟨a1,s1,hv1,_,_,_⟩:=laid_sentinel hR gER amg underlying127 aob underlying299 underlying301 rfl rfl underlying9 cellsE cellsS;obtain⟨a2,s2,hv2,_,_,_⟩:=laid_sentinel hS gES amf underlying127 aob underlying299 underlying301 rfl rfl underlying9 cellsE cellsS;obtain⟨t1,Gn,Jj⟩:=K7 gER hv1;obtain⟨t2,fz2,xP⟩:=K7 gES hv2;obtain⟨ps,⟨_,_,_,_,_,_,_,_,_,_,⟨_,_,_,_,_,_,_,_,_,_,⟨g,t,cs,fuel,p,q,hg,ht,hv,hd,_,_⟩,_⟩,_⟩,_,_⟩:=h0
 have hn:prog.globalNamed "internal/strconv.uint64pow10" =some 3:=by kernel_rfl
 obtain rfl:=Option.some.inj (hn.symm.trans hg);obtain rfl:=Option.some.inj ((show(prog.globals[3]?).map (·.type)=some 287 by kernel_rfl).symm.trans ht)
 have hl:(YtbaefeecjjhhkaaGreatDoor.Rows.laid_internal_strconv_uint64pow10:DataW Unit)=.agg (((List.range 20).map fun i=>((10^i:Nat):Int)).map fun z=>.lit (.int .u64 z)):=by kernel_rfl
 rw[hl] at hd;have e:=UD underlying287 underlying274 (by kernel_rfl) (by kernel_rfl) hd;obtain⟨t',fz,hh⟩:=K7 hg hv;intro g' p' hm
 have fast:∀{b:Nat}{c:Array Value}{t:TypeId}{fz:Nat×Nat},W.heap[b]? =some (.cells c t fz)->c.size<=lF W b:=fun {b c t fz} hb=>by
  unfold lF;rw[hb];exact Nat.le_refl _
 rcases List.mem_cons.1 hm with hm|hm
 ·cases hm;refine⟨cs,t',fz,hh,?_,fast hh⟩;show cs.toList=_;rw[e,List.map_map];rfl
 rcases List.mem_cons.1 hm with hm|hm
 ·cases hm;exact⟨_,t1,Gn,Jj,⟨_,_,rfl⟩,fast Jj⟩
 ·have hm':=List.eq_of_mem_singleton hm;cases hm';exact⟨_,t2,fz2,xP,⟨_,_,rfl⟩,fast xP⟩
theorem agI{P:Program}{n:Nat}{t:TypeId}{ds:List D}(h:WT P n t ds):∃m,n=m+1:=by
 cases n with
 |zero=>exact h.elim
 |succ m=>exact⟨m,rfl⟩
theorem aoc{P:Program}{n:Nat}{t:TypeId}{k:IntKind}{ds:List D}(ht:P.underlying t=some (.int k))(h:WT P n t ds):∃x,ds=[.i k x]/\(Lit.int k x).wf=true:=by
 obtain⟨m,rfl⟩:=agI h;simp only[WT,ht] at h;exact h
theorem ajP{P:Program}{n:Nat}{t e:TypeId}{ds:List D}(ht:P.underlying t=some (.slice e))(h:WT P n t ds):∃es m,m<n/\ds=[.sl es]/\∀x∈es,WT P m e x:=by
 obtain⟨m,rfl⟩:=agI h;simp only[WT,ht] at h;obtain⟨es,h1,_,h2⟩:=h;exact⟨es,m,by omega,h1,fun x hx=>(h2 x hx).2⟩
theorem aaK{P:Program}{W:TypeId->List D->Prop}(hW:∀t ds,W t ds->Ej ds):∀(fs:List Field)(ds:List D),WTF P W fs ds->Ej ds
 |[],ds,h=>by
  have h:ds=[]:=h;rw[h];exact El
 |f::fs,ds,h=>by
  obtain⟨a,b,rfl,_,h1,h2⟩:=h;exact YU.2 ⟨hW _ _ h1,aaK hW fs b h2⟩
theorem Yj{P:Program}:∀(n:Nat)(t:TypeId)(ds:List D),WT P n t ds->Ej ds
 |0,t,ds,h=>h.elim
 |n+1,t,ds,h=>by
  simp only[WT] at h;split at h
  ·obtain⟨b,rfl⟩:=h;exact Fb.2 ⟨.b _,El⟩
  ·obtain⟨b,rfl,_⟩:=h;exact Fb.2 ⟨.i _ _,El⟩
  ·obtain⟨l,rfl,hl⟩:=h;exact Fb.2 ⟨.s _ hl,El⟩
  ·obtain⟨es,rfl,hl,hh⟩:=h;exact Fb.2 ⟨.sl _ hl fun e he d hd=>Yj n _ e (hh e he).2 d hd,El⟩
  ·exact aaK (Yj n) _ _ h
  ·exact h.elim
end Go.Ab