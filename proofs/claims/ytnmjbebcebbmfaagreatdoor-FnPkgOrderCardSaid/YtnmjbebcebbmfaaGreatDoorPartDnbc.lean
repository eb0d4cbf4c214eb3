/-
  SEVERAL TEXTS IN ONE (merged by program): contracts and models, each with its own heading.
-/
import Derived.Test.YtnmjbebcebbmfaaGreatDoorPartDnbF
import Derived.Test.YtnmjbebcebbmfaaGreatDoorPartDnbR
import Derived.Test.YtnmjbebcebbmfaaGreatDoorPartDnbZ
set_option maxHeartbeats 8000000
open Go.Proofs Go.Proofs.Tryz
set_option linter.unusedSimpArgs false
set_option linter.unusedVariables false
set_option maxRecDepth 4000
namespace Go.Ab
def nA(s:List UInt8)(r:RS):List C:=[.d (.s s),.d (.i .i64 (s.length-r.t.length:Nat)),.d (.i .i64 r.deep),.d (.i .i64 r.size),.d (.b r.bad)]
theorem F4{s u:List UInt8}{b:UInt8}(h:b::u <:+ s):s.length-(b::u).length<s.length/\s.getD (s.length-(b::u).length) 0=b/\s.length-(b::u).length+1=s.length-u.length:=by
 obtain⟨p,rfl⟩:=h
 have e:(p++b::u).length-(b::u).length=p.length:=gL
 rw[e];refine⟨gL,by simp[List.getD],gR⟩
theorem amX{s t a c:List UInt8}(h:t <:+ s)(e:t=a++c):(s.take (s.length-c.length)).drop (s.length-t.length)=a:=by
 obtain⟨p,rfl⟩:=h;subst e
 have e1:(p++(a++c)).length-c.length=(p++a).length:=gR
 have e2:(p++(a++c)).length-(a++c).length=p.length:=gL
 rw[e1,e2,<-cf,List.take_left,List.drop_left]
theorem TG{s t:List UInt8}(h:t <:+ s):gI t <:+ s:=(BX t).trans h
theorem bS.arV{P:Program}{f:FuncId}{args:List V}{t:V}{S S1:Store}(h:bS P f args S fun r S'=>Less r t/\S'=S1):bS P f args S fun r S'=>r=t/\S'=S1:=
 ⟨h.1,fun w σ β vs hS hv=>(h.2 w σ β vs hS hv).mono fun e w' ⟨v,r,S',σ',β',h1,h2,h3,h4,h5,h6,h7⟩=>⟨v,t,S',σ',β',h1,h2,h3,h4,h6 _ _ _ _ _ h5,rfl,h7⟩⟩
theorem K8:Less (.agg [.d (.s []),.bH []]) cZ.v:=fP.less (.cons (.refl _) (.cons (fJ _) .nil))
theorem adn{b c:UInt8}(h:(b.toNat:Int)=c.toNat):b=c:=gm.1 gA
theorem NC(s:List UInt8)(hs:s.length<=1073741824)(r:RS)(ht:r.t <:+ s)(l j:Nat)(S:Store)(hk:bC S (l,j)=some (.box (nA s r))):
 bS prog 53 [.c (.ptr (l,j) 0)] S (fun v S'=>v=.eu []/\S'=bA S (l,j) (.box (nA s ⟨gI r.t,r.deep,r.size,r.bad⟩))):=by
 have g:∀x:Ab.Obj,bC (bA S (l,j) x) (l,j)=some x:=fun x=>dA _ _ _ _ hk;refine zcx [] func53 ntmps53 ?_;refine W1 ?_
 refine aZ (ι:=List UInt8) zmx rfl [0] (fun _=>[.c (.ptr (1+l,j) 0)]) (fun t=>[]::bA S (l,j) (.box (nA s ⟨t,r.deep,r.size,r.bad⟩)))
  (fun t=>t <:+ s/\gI t=gI r.t) (fun t=>t.length) r.t rfl (congrArg (fun z=>[]::z) (DX S (l,j) hk).symm) ⟨ht,rfl⟩ ?_
 rintro t ⟨p1,p2⟩;have pl:=p1.length_le;rw[<-p2]
 cases t with
 |nil=>
  have d:decide (((s.length-0:Nat):Int)<s.length)=false:=decide_eq_false gA;simp -implicitDefEqProofs (disch:=omega) only[go_sem,g,aW,dn,cu,nA,d];rfl
 |cons b u=>
  obtain⟨q1,q2,q3⟩:=F4 p1;rw[aa] at q1 q2 q3;refine yB ?_;generalize hA:s.length-(u.length+1)=a at q1 q2 q3 ⊢;have d:decide ((a:Int)<s.length)=true:=decide_eq_true gA;simp -implicitDefEqProofs (disch:=omega) only[go_sem,d,q2,g,aW,dn,cu,nA];refine W3 ?_
  have eI:((s.length-u.length:Nat):Int)=(a:Int)+1:=gA
  have blank:mq b=true->[]::bA S (l,j) (.box [.d (.s s),.d (.i .i64 ((a:Int)+1)),.d (.i .i64 r.deep),.d (.i .i64 r.size),.d (.b r.bad)])=[]::bA S (l,j) (.box (nA s ⟨u,r.deep,r.size,r.bad⟩))/\u <:+ s/\gI u=gI (b::u):=fun hb=>
   ⟨by simp only[nA];rw[eI],(gf b u).trans p1,(FK hb).symm⟩
  refine S0g (fun hb h=>?_) fun hb h=>?_
  ·obtain⟨x1,x2⟩:=blank (by unfold mq;simp only[dk,decide_eq_true_eq];omega);exact dH u gL rfl x1 x2
  have hn:=h;simp only[q2];refine S0g (fun hb h=>?_) fun hb h=>?_
  ·obtain⟨x1,x2⟩:=blank (by unfold mq;simp only[dk,decide_eq_true_eq];omega);exact dH u gL rfl x1 x2
  ·have hb:mq b=false:=by
    cases e:mq b with
    |false=>rfl
    |true=>unfold mq at e;simp only[dk,decide_eq_true_eq] at e;omega
   rw[tX hb,aa,hA]
theorem agj(s:List UInt8)(hs:s.length<=1048576):∀(n:Nat)(r:RS),r.t <:+ s->r.bad=false->r.deep<=14->r.size<=900->2*r.t.length+1<=n->∀(l j:Nat)(S:Store),bC S (l,j)=some (.box (nA s r))->
 bS prog 52 [.c (.ptr (l,j) 0)] S (fun v S'=>v=(lZ n r).1.v/\S'=bA S (l,j) (.box (nA s (lZ n r).2))):=by
 intro n
 induction n using Nat.strongRecOn with
 |_ n ih=>
 intro r ht hbad hd hz hn l j S hk
 cases n with
 |zero=>omega
 |succ n=>
 refine bS.arV ?_;have g:∀x:Ab.Obj,bC (bA S (l,j) x) (l,j)=some x:=fun x=>dA _ _ _ _ hk;have hsk:=TG ht;have hsl:=Ei r.t;obtain⟨y,hy⟩:∃y,y=lZ (n+1) r:=⟨_,rfl⟩;rw[<-hy];rw[lZ] at hy;obtain⟨rt,rd,rz,rb⟩:=r
 simp only at *
 subst hbad;refine nT [103] (rs:=[.cell 2 26]) zmx func52 ntmps52 rfl rfl rfl rfl rfl ?_;refine W1 ?_;refine bD rfl (NC s gA _ ht (1+l) j _ (by rw[aW];exact hk)) ?_;refine yB ?_
 cases e:gI rt with
 |nil=>
  rw[e] at hy;simp only at hy;have d:decide ((s.length:Int)<=((s.length-0:Nat):Int))=true:=decide_eq_true gA;simp -implicitDefEqProofs (disch:=omega) only[go_sem,d,g,aW,dn,cu,nA];refine⟨by rfl,?_⟩;refine yB ?_;subst hy;exact⟨K8,rfl⟩
 |cons b u=>
  rw[e] at hy hsk hsl;simp only at hy;obtain⟨q1,q2,q3⟩:=F4 hsk;rw[aa] at q1 q2 q3 hsl;refine yB ?_;generalize hA:s.length-(u.length+1)=a at q1 q2 q3 ⊢;have d:decide ((s.length:Int)<=(a:Int))=false:=decide_eq_false gA;simp -implicitDefEqProofs (disch:=omega) only[go_sem,d,g,aW,dn,cu,nA];refine⟨by rfl,?_⟩;refine yB ?_;refine S0g (fun hb h=>?_) fun hb h=>?_
  ·rw[if_pos gA] at hy;subst hy;refine⟨K8,?_⟩;rw[<-hA];simp only[nA];rfl
  have hsz:¬900<rz+1:=gA
  rw[if_neg hsz] at hy;clear h hb;obtain⟨z,hzd⟩:∃z,z=(b::u).dropWhile bV:=⟨_,rfl⟩
  refine KC [103] zmx rfl [0,2,3] (ι:=List UInt8) (fun _=>[.c (.ptr (1+l,j) 0),.c (.ptr (0,0) 0),.c (.d (.i .i64 a))])
   (fun t=>[.box [.d (.s []),.bH []]]::bA S (l,j) (.box (nA s ⟨t,rd,rz+1,false⟩)))
   (fun t=>t <:+ b::u/\t.dropWhile bV=z) (fun t=>t.length) (b::u) rfl (by rw[<-hA];simp only[nA];rfl) ⟨ge _,hzd.symm⟩ ?_
  rintro t ⟨p1,p2⟩;have p3:=p1.trans hsk;have p4:=p3.length_le
  have ex:(t=[]\/∃c v,t=c::v/\bV c=false)\/∃c v,t=c::v/\bV c=true:=by
   cases t with
   |nil=>exact .inl (.inl rfl)
   |cons c v=>cases hc:bV c with
    |false=>exact .inl (.inr ⟨c,v,rfl,hc⟩)
    |true=>exact .inr ⟨c,v,rfl,hc⟩
  rcases ex with ex|⟨c,v,rfl,hc⟩
  rotate_left
  ·obtain⟨k1,k2,k3⟩:=F4 p3;rw[aa] at k1 k2 k3;refine yB ?_;generalize hB:s.length-(v.length+1)=m at k1 k2 k3 ⊢;have d1:decide ((m:Int)<s.length)=true:=decide_eq_true gA;refine W1i ?_;refine W3 ?_;rw[k2];refine bn (MP c) ?_;rw[hc];refine yB ?_;refine⟨by rfl,?_⟩;refine yB ?_;refine dH v gL rfl ?_ ⟨(gf c v).trans p1,?_⟩
   ·have eI:((s.length-v.length:Nat):Int)=(m:Int)+1:=gA
    simp only[nA];rw[eI]
    first|done|rfl
   ·rw[<-p2,eM,if_pos hc]
  have hzt:z=t:=by
   rw[<-p2];rcases ex with rfl|⟨c,v,rfl,hc⟩
   ·rfl
   ·rw[eM,if_neg (by rw[hc];decide)]
  subst hzt;obtain⟨m,hm⟩:∃m,m=s.length-z.length:=⟨_,rfl⟩
  have hyes:bV b=true->(s.take m).drop a=b::u.takeWhile bV/\a<m/\m=s.length-(u.dropWhile bV).length:=fun hab=>by
   have e1:z=u.dropWhile bV:=by rw[hzd,eM,if_pos hab]
   have e2:(u.dropWhile bV).length<=u.length:=(eS bV).length_le;have e3:=amX (a:=b::u.takeWhile bV) (c:=z) hsk (by rw[e1,ba,List.takeWhile_append_dropWhile]);rw[<-hm,aa,hA] at e3;have e4:=hsk.length_le;rw[aa] at e4;rw[e1] at hm;exact⟨e3,gA,hm⟩
  have hno:bV b=false->m=a:=fun hab=>by
   have e1:z=b::u:=by rw[hzd,eM,if_neg (by rw[hab];decide)]
   rw[hm,e1,aa,hA]
  clear p1 p2 p4 hzd;rcases ex with rfl|⟨c,v,rfl,hc⟩;rw[al] at hm;have d1:decide ((m:Int)<s.length)=false:=decide_eq_false gA;refine yB ?_;rw[<-hm];refine W1i ?_;refine⟨by rfl,?_⟩;refine yB ?_
  rotate_left
  obtain⟨k1,k2,k3⟩:=F4 p3;rw[aa] at k1 k2 k3 hm;refine yB ?_;rw[<-hm] at k1 k2 k3 ⊢;have d1:decide ((m:Int)<s.length)=true:=decide_eq_true gA;refine W1i ?_;refine W3 ?_;rw[k2];refine bn (MP c) ?_;rw[hc];refine yB ?_;refine⟨by rfl,?_⟩;refine yB ?_
  all_goals clear p3 hm d1
  all_goals
   cases hab:bV b with
   |true=>
    obtain⟨r1,r2,r3⟩:=hyes hab;have d2:decide ((a:Int)<(m:Int))=true:=decide_eq_true gA;rw[if_pos hab] at hy;simp -implicitDefEqProofs (disch:=omega) only[go_sem,d2,g,aW,dn,cu,nA];refine W3 ?_;refine⟨by rfl,?_⟩;refine yB ?_;rw[r1];subst hy;refine⟨fP.less (.cons (.refl _) (.cons (fJ _) .nil)),?_⟩;simp only[nA,<-r3]
    first|done|rfl
   |false=>
    obtain rfl:=hno hab;have d2:decide ((m:Int)<(m:Int))=false:=decide_eq_false gA;rw[if_neg (by rw[hab];decide)] at hy;clear hyes hno;simp -implicitDefEqProofs (disch:=omega) only[go_sem,d2,g,aW,dn,cu,nA];refine W3 ?_;simp only[q2]
    have UQ:b≠40\/rd=14->Less (.agg [.d (.s []),.bH []]) y.1.v/\bA S (l,j) (.box [.d (.s s),.d (.i .i64 m),.d (.i .i64 rd),.d (.i .i64 (rz+1:Nat)),.d (.b true)])=bA S (l,j) (.box (nA s y.2)):=fun hq=>by
     rw[if_pos hq] at hy;subst hy;refine⟨K8,?_⟩;rw[<-hA];simp only[nA];rfl
    refine S0g (fun hb h=>?_) fun hb h=>?_
    ·refine⟨by rfl,?_⟩;refine yB ?_;exact UQ (.inl fun hq=>h (by rw[hq];rfl))
    have av0:b=40:=adn h;refine⟨by rfl,?_⟩;refine yB ?_;refine S0g (fun hb h=>?_) fun hb h=>?_
    ·exact UQ (.inr gA)
    have arW:¬(b≠40\/rd=14):=by rintro(h1|h1);exact h1 av0;omega
    rw[if_neg arW] at hy;clear UQ d2 d arW hab;refine kJ 1 1 2 _ rfl rfl ?_
    refine KC [103] zmx rfl [0,2,4] (ι:=Nat×RS×List ah) (fun _=>[.c (.ptr (1+l,j) 0),.c (.ptr (0,0) 0),.c (.ptr (0,1) 0)])
     (fun x=>[.box [.d (.s []),.bH []],.box [.d (.s []),.bJ (0,2) (x.2.2.map ah.enc)],.tok 2 (x.2.2.map ah.enc)]::bA S (l,j) (.box (nA s x.2.1)))
     (fun x=>sK x.1 x.2.1 x.2.2=y/\x.2.1.t <:+ s/\x.2.1.deep<=14/\x.2.1.size<=901/\(x.2.1.bad=false->1<=x.2.1.deep/\x.2.1.size<=900)/\x.2.2.length<=x.2.1.size/\(x.2.1.bad=true/\1<=x.1\/2*x.2.1.t.length+2<=x.1)/\x.1<=n) (fun x=>x.1)
     (n,⟨u,rd+1,rz+1,false⟩,[]) rfl ?_ ⟨hy.symm,(gf b u).trans hsk,gC,gC,fun _=>gC,by simp only[al];omega,.inr gC,ax _⟩ ?_
    ·have eI:((s.length-u.length:Nat):Int)=(m:Int)+1:=gA
     simp only[nA,eI];rfl
    rintro⟨f,⟨t,dp,zz,bd⟩,acc⟩ ⟨p1,p2,p3,p4,p5,p6,p7,p8⟩;simp only at p1 p2 p3 p4 p5 p6 p7 p8;refine yB ?_
    cases bd with
    |true=>
     refine yB ?_
     cases f with
     |zero=>omega
     |succ f=>
      rw[sK,if_pos rfl] at p1;subst p1;exact⟨gV _,rfl⟩
    |false=>
     have p5:=p5 rfl;have p7:=p7.resolve_left fun h=>Bool.noConfusion h.1;refine yB ?_;refine bD rfl (NC s gA ⟨t,dp,zz,false⟩ p2 (1+l) j _ gO) ?_;refine yB ?_
     cases f with
     |zero=>omega
     |succ f=>
     rw[sK,if_neg Bool.false_ne_true] at p1;have k1:=TG p2;have k0:=k1;have k2:=Ei t;have k3:=k2;have k4:=k1.length_le;obtain⟨q,hq⟩:∃q,q=lZ f ⟨gI t,dp,zz,false⟩:=⟨_,rfl⟩;have hcall:=ih f gA ⟨gI t,dp,zz,false⟩ k1 rfl p3 p5.2 gC;have arX:=(UD f).1 ⟨gI t,dp,zz,false⟩ p3 p5.2;simp only at p1;rw[<-hq] at hcall arX p1;obtain⟨o1,o2,o3,o4,o5,o6⟩:=arX;simp only at o1 o2 o4 o5 o6;have o7:=o1.length_le
     have ek:(gI t=[]\/∃c v,gI t=c::v/\c≠41)\/∃v,gI t=41::v:=by
      cases gI t with
      |nil=>exact .inl (.inl rfl)
      |cons c v=>by_cases hc:c=41
                 ·subst hc;exact .inr ⟨v,rfl⟩
                 ·exact .inl (.inr ⟨c,v,rfl,hc⟩)
     rcases ek with ek|⟨v,e2⟩
     rotate_left
     ·rw[e2] at k1 k2 p1 ⊢;obtain⟨w1,w2,w3⟩:=F4 k1;rw[aa] at w1 w2 w3;have d1:decide (((s.length-(v.length+1):Nat):Int)<s.length)=true:=decide_eq_true gA;rw[if_pos (show(41::v).head? =some 41 from rfl)] at p1;refine W1i ?_;refine W3 ?_;rw[w2];refine⟨by rfl,?_⟩
      have d2:decide ((((41:UInt8).toNat:Nat):Int)=41)=true:=gE
      simp -implicitDefEqProofs (disch:=omega) only[go_sem,d2,g,aW,dn,cu,nA];subst p1
      have e3:((s.length-v.length:Nat):Int)=((s.length-(v.length+1):Nat):Int)+1:=gA
      have e4:((dp-1:Nat):Int)=(dp:Int)-1:=gA
      refine⟨gV _,?_⟩;simp only[List.tail_cons,e3,e4]
     have hne:(gI t).head? ≠some 41:=by
      rcases ek with e2|⟨c,v,e2,hc⟩
      ·rw[e2];simp
      ·rw[e2];simpa using hc
     rw[if_neg hne] at p1;rcases ek with e2|⟨c,v,e2,hc⟩;have d1:decide (((s.length-0:Nat):Int)<s.length)=false:=decide_eq_false gA;rw[e2];refine W1i ?_;refine⟨by rfl,?_⟩;refine yB ?_
     rotate_left
     rw[e2] at k1 k2 ⊢;obtain⟨w1,w2,w3⟩:=F4 k1;rw[aa] at w1 w2 w3;have d1:decide (((s.length-(v.length+1):Nat):Int)<s.length)=true:=decide_eq_true gA;refine W1i ?_;refine W3 ?_;simp only[w2];refine⟨by rfl,?_⟩;have d2:decide ((c.toNat:Int)=41)=false:=decide_eq_false fun hq=>hc (adn (c:=41) hq);simp -implicitDefEqProofs (disch:=omega) only[go_sem,d2,g,aW,dn,cu,nA]
     all_goals
      refine bD rfl (hcall (1+l) j _ (by rw[aW,e2];exact g _)) ?_;refine yB ?_;refine W3 ?_;refine⟨by cases l<;>rfl,?_⟩;refine yB ?_;refine dH (f,q.2,acc++[q.1]) gL rfl ?_ ⟨p1,o1.trans k0,o3,o4.2,fun hq=>⟨by simp only;rw[o2 hq];exact p5.1,(o6 hq).2⟩,?_,?_,gC⟩
      ·simp only[bw,af,aw,ah.aC,nA]
      ·simp only[ae,aa,al];omega
      ·cases hqb:q.2.bad with
       |true=>exact .inl ⟨rfl,gC⟩
       |false=>
        have:=(o6 hqb).1;exact .inr gC
theorem Xj(s:List UInt8)(hs:s.length<=1048576):aD prog 15 [.c (.d (.s s))] (.eu [(true,(kg s).enc.map .d),(false,[.d (.b (lu s))])]):=aD.of_le fun S=>by
 obtain⟨n,hn,hok,hx⟩:=ZT s;obtain⟨q,hq⟩:∃q,q=lZ n ⟨s,0,0,false⟩:=⟨_,rfl⟩;have hr:=(UD n).1 ⟨s,0,0,false⟩ gC gC;have hc:=agj s hs n ⟨s,0,0,false⟩ (ge _) rfl gC gC (by unfold Tc at hn;simp only;omega);rw[<-hq] at hok hx hr hc;clear hq hn;obtain⟨o1,o2,o3,o4,o5,o6⟩:=hr;simp only at o1 o2 o4 o5 o6
 have gH:lu s=false->Less (.eu [(true,[.d (.s []),.bH []]),(false,[.d (.b false)])]) (.eu [(true,[.d (.s (kg s).aI),.d (.sl ((kg s).aj.map ah.enc))]),(false,[.d (.b (lu s))])]):=fun e=>by
  have e2:kg s=cZ:=by
   unfold kg;rw[dif_neg (jw e)]
  rw[e,e2];exact(jr.cons (.cons (.refl _) (.cons (fJ _) .nil)) (.refl _)).less
 have hsl:=Ei q.2.t
 have hsz:q.1.sz<=67108864:=gA
 refine zcx [.cell 2 26,.tmp 3] func15 ntmps15 ?_;refine W1 ?_;refine bD rfl (hc 0 1 _ (by simp[bC,nA])) ?_;simp -implicitDefEqProofs (disch:=omega) only[go_sem,nA];refine bD rfl (NC s gA q.2 o1 0 1 _ rfl) ?_;simp -implicitDefEqProofs (disch:=omega) only[go_sem,nA]
 cases hqb:q.2.bad with
 |true=>
  refine W1 ?_;exact gH (by rw[<-hok];exact aO fun h=>by rw[hqb] at h;cases h.1)
 |false=>
  refine W1 ?_;refine S0 (fun hb h=>?_) fun hb h=>?_
  ·refine gH ?_;rw[<-hok];refine aO fun hq=> ?_;rw[hq.2.1] at h;exact h gL
  have hnil:gI q.2.t=[]:=bz (by have:=o1.length_le;omega);refine C1 (pz q.1 hsz) ?_;refine S0 (fun hb h=>?_) fun hb h=>?_
  ·refine gH ?_;rw[<-hok];refine aO fun hq=> ?_;rw[hq.2.2] at h;cases h
  ·have hy:lu s=true:=by rw[<-hok];exact bK ⟨hqb,hnil,h⟩
   rw[hy,<-hx hy];exact gV _
end Go.Ab