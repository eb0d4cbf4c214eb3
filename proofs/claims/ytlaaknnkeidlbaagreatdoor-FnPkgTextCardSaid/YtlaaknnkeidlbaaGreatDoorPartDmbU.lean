/-
  SEVERAL TEXTS IN ONE (merged by program): contracts and models, each with its own heading.
-/
import Derived.Test.YtlaaknnkeidlbaaGreatDoorPartDmbQ
import Derived.Test.YtlaaknnkeidlbaaGreatDoorPartDmbS
set_option maxHeartbeats 8000000
open Go.Proofs Go.Proofs.Tryz
set_option linter.unusedSimpArgs false
set_option linter.unusedVariables false
set_option maxRecDepth 4000
namespace Go.Ab
def gP(p:aU):List (List UInt8):=p.aG.map bJ.fName
def jd(p:aU):List (List UInt8):=p.au.map aX.fName
def iw(ds:List aX):List (List UInt8):=ds.flatMap fun d=>d.aC.map bL.fName
def fnNames(p:aU):List (List UInt8):=p.aK.map aY.fName
def Ah(ps:List aU):List (List UInt8):=ps.flatMap gP
def Ai(ps:List aU):List (List UInt8):=ps.flatMap jd
def Aj(ps:List aU):List (List UInt8):=ps.flatMap fun p=>iw p.au
def Ak(ps:List aU):List (List UInt8):=ps.flatMap fnNames
noncomputable def nJ(ps:List aU):Bool:=dec (Ah ps).Nodup&&(dec (Ai ps).Nodup&&(dec (Aj ps).Nodup&&dec (Ak ps).Nodup))
theorem zx{α β:Type}(f:α->List β){xs:List α}{i:Nat}(hi:i<xs.length):(xs.take (i+1)).flatMap f=(xs.take i).flatMap f++f xs[i]:=by
 rw[List.take_succ_eq_append_getElem hi,List.flatMap_append]
 simp
theorem vZ{α β:Type}(f:α->List β)(g:α->List D)(h:∀x,(f x).length<=bQ (g x)):∀xs:List α,(xs.flatMap f).length<=aP (xs.map g)
 |[]=>by simp[aP]
 |x::xs=>by
  have h1:=h x;have h2:=vZ f g h xs;rw[List.flatMap_cons,List.length_append,List.map_cons,aP];omega
theorem akj(ds:List aX):(iw ds).length<=aP (ds.map aX.enc):=vZ _ _ (fun d=>by
 rw[List.length_map];simp only[aX.aJ,bQ,bP,D.sz,List.length_map]
 omega) ds
theorem Xl(ps:List aU):(Ah ps).length<=aP (ps.map aU.enc)/\(Ai ps).length<=aP (ps.map aU.enc)/\(Aj ps).length<=aP (ps.map aU.enc)/\(Ak ps).length<=aP (ps.map aU.enc):=by
 refine⟨vZ _ _ (fun p=> ?_) ps,vZ _ _ (fun p=> ?_) ps,vZ _ _ (fun p=> ?_) ps,vZ _ _ (fun p=> ?_) ps⟩
 ·simp only[gP,aU.aJ,bQ,bP,D.sz,List.length_map];omega
 ·simp only[jd,aU.aJ,bQ,bP,D.sz,List.length_map];omega
 ·have:=akj p.au;simp only[aU.aJ,bQ,bP,D.sz,List.length_map];omega
 ·simp only[fnNames,aU.aJ,bQ,bP,D.sz,List.length_map];omega
theorem aU.bounds{x:aU}(h:x.sz<=4194304):x.fName.length<=4194304/\x.eH.length<=4194304/\x.aG.length<=4194304/\x.au.length<=4194304/\x.aD.length<=4194304/\x.aK.length<=4194304/\(iw x.au).length<=4194304:=by
 have:=akj x.au;simp only[aU.sz,aU.aJ,bQ,bP,D.sz,List.length_map] at h;omega
theorem FK(xs:List (List UInt8))(x:List UInt8):xs.map encS++[[D.s x]]=(xs++[x]).map encS:=by simp[encS]
theorem Y9(p:aU)(hsz:p.sz<=4194304):aF prog 61 [p.v] (.fF [(false,[.d (.sl ((gP p).map encS))]),(false,[.d (.sl ((jd p).map encS))]),(false,[.d (.sl ((iw p.au).map encS))]),(false,[.d (.sl ((fnNames p).map encS))])]):=fun S=>by
 have hb0:=aU.bounds hsz;refine zcx [.tmp 2,.tmp 3,.tmp 4,.tmp 5] func61 ntmps61 ?_;refine W1 ?_;refine W3 ?_;refine qG 6 1 [] rfl (by simp) ?_;refine qG 7 1 [] rfl (by simp) ?_;refine qG 8 1 [] rfl (by simp) ?_;refine qG 9 1 [] rfl (by simp) ?_
 refine aZ (ι:=Nat×List (List UInt8)) zmx rfl [1,6,7,8,9,10] (fun y=>[.c (.ptr (0,0) 0),.c (.bI (0,1) (y.2.map encS)),.c (.bI (0,2) []),.c (.bI (0,3) []),.c (.bI (0,4) []),.c (.d (.i .i64 y.1))]) (fun y=>[.box (p.enc.map .d),.tok 1 (y.2.map encS),.tok 1 [],.tok 1 [],.tok 1 []]::S)
  (fun y=>y.1<=p.aG.length/\y.2=(gP p).take y.1) (fun y=>p.aG.length-y.1) (0,[]) rfl ?_ ⟨Nat.zero_le _,rfl⟩ ?_
 ·exact Z1
 rintro⟨i,a⟩ ⟨p1,p2⟩;simp only at p1 p2
 have pl:a.length<=p.aG.length:=by rw[p2];simp[gP];omega
 refine W1 ?_;refine S0 (fun hb h=>?_) fun hb h=>?_
 ·have hi:i<p.aG.length:=by omega
  refine W3 ?_;rw[FK];exact dB (i+1,a++[p.aG[i].fName]) (by simp only;omega) rfl rfl ⟨by simp only;omega,by simp only;rw[p2,iQ (by simpa [gP] using hi)];simp[gP]⟩
 have ha:a=gP p:=by rw[p2,List.take_of_length_le (by simp[gP];omega)]
 clear p1 p2 pl hb h;subst ha
 refine aZ (ι:=Nat×List (List UInt8)×List (List UInt8)) zmx rfl [1,6,7,8,9,11] (fun y=>[.c (.ptr (0,0) 0),.c (.bI (0,1) ((gP p).map encS)),.c (.bI (0,2) (y.2.1.map encS)),.c (.bI (0,3) (y.2.2.map encS)),.c (.bI (0,4) []),.c (.d (.i .i64 y.1))]) (fun y=>[.box (p.enc.map .d),.tok 1 ((gP p).map encS),.tok 1 (y.2.1.map encS),.tok 1 (y.2.2.map encS),.tok 1 []]::S)
  (fun y=>y.1<=p.au.length/\y.2.1=(jd p).take y.1/\y.2.2=iw (p.au.take y.1)) (fun y=>p.au.length-y.1) (0,[],[]) rfl ?_ ⟨Nat.zero_le _,rfl,rfl⟩ ?_
 ·exact Z1
 rintro⟨i,b,c⟩ ⟨p1,p2,p3⟩;simp only at p1 p2 p3
 have pl:b.length<=p.au.length:=by rw[p2];simp[jd];omega
 refine W1 ?_;refine S0 (fun hb h=>?_) fun hb h=>?_
 ·have hi:i<p.au.length:=by omega
  have e3:iw (p.au.take (i+1))=c++p.au[i].aC.map bL.fName:=by rw[p3];exact zx _ hi
  have hcl:(iw (p.au.take (i+1))).length<=4194304:=by
   have h1:(iw (p.au.take (i+1))).length<=(iw p.au).length:=by
    conv=>rhs;rw[<-List.take_append_drop (i+1) p.au]
    unfold iw;rw[List.flatMap_append,List.length_append];omega
   omega
  rw[e3,List.length_append,List.length_map] at hcl;refine W3 ?_;rw[FK]
  refine aZ (ι:=Nat×List (List UInt8)) zmx rfl [1,6,7,8,9,11,12] (fun y=>[.c (.ptr (0,0) 0),.c (.bI (0,1) ((gP p).map encS)),.c (.bI (0,2) ((b++[p.au[i].fName]).map encS)),.c (.bI (0,3) (y.2.map encS)),.c (.bI (0,4) []),.c (.d (.i .i64 i)),.c (.d (.i .i64 y.1))]) (fun y=>[.box (p.enc.map .d),.tok 1 ((gP p).map encS),.tok 1 ((b++[p.au[i].fName]).map encS),.tok 1 (y.2.map encS),.tok 1 []]::S)
   (fun y=>y.1<=p.au[i].aC.length/\y.2=c++(p.au[i].aC.map bL.fName).take y.1) (fun y=>p.au[i].aC.length-y.1) (0,c) rfl ?_ ⟨Nat.zero_le _,by simp⟩ ?_
  ·exact Z1
  rintro⟨k,e⟩ ⟨q1,q2⟩;simp only at q1 q2
  have pl2:e.length<=4194304:=by rw[q2];simp;omega
  refine W1 ?_;refine W3 ?_;refine S0 (fun hb h=>?_) fun hb h=>?_
  ·have hk:k<p.au[i].aC.length:=by omega
   refine W3 ?_;rw[FK];exact dB (k+1,e++[p.au[i].aC[k].fName]) (by simp only;omega) rfl rfl ⟨by simp only;omega,by simp only;rw[q2,iQ (by simpa using hk)];simp⟩
  ·have hk:k=p.au[i].aC.length:=by omega
   have he:e=c++p.au[i].aC.map bL.fName:=by rw[q2,List.take_of_length_le (by simp;omega)]
   exact dB (i+1,b++[p.au[i].fName],e) (by simp only;omega) rfl rfl ⟨by simp only;omega,by simp only;rw[p2,iQ (by simpa [jd] using hi)];simp[jd],by simp only;rw[e3,he]⟩
 have hb1:b=jd p:=by rw[p2,List.take_of_length_le (by simp[jd];omega)]
 have hc1:c=iw p.au:=by rw[p3,List.take_of_length_le (by omega)]
 clear p1 p2 p3 pl hb h;subst hb1;subst hc1
 refine aZ (ι:=Nat×List (List UInt8)) zmx rfl [1,6,7,8,9,13] (fun y=>[.c (.ptr (0,0) 0),.c (.bI (0,1) ((gP p).map encS)),.c (.bI (0,2) ((jd p).map encS)),.c (.bI (0,3) ((iw p.au).map encS)),.c (.bI (0,4) (y.2.map encS)),.c (.d (.i .i64 y.1))]) (fun y=>[.box (p.enc.map .d),.tok 1 ((gP p).map encS),.tok 1 ((jd p).map encS),.tok 1 ((iw p.au).map encS),.tok 1 (y.2.map encS)]::S)
  (fun y=>y.1<=p.aK.length/\y.2=(fnNames p).take y.1) (fun y=>p.aK.length-y.1) (0,[]) rfl ?_ ⟨Nat.zero_le _,rfl⟩ ?_
 ·exact Z1
 rintro⟨i,a⟩ ⟨p1,p2⟩;simp only at p1 p2
 have pl:a.length<=p.aK.length:=by rw[p2];simp[fnNames];omega
 refine W1 ?_;refine S0 (fun hb h=>?_) fun hb h=>?_
 ·have hi:i<p.aK.length:=by omega
  refine W3 ?_;rw[FK];exact dB (i+1,a++[p.aK[i].fName]) (by simp only;omega) rfl rfl ⟨by simp only;omega,by simp only;rw[p2,iQ (by simpa [fnNames] using hi)];simp[fnNames]⟩
 ·have ha:a=fnNames p:=by rw[p2,List.take_of_length_le (by simp[fnNames];omega)]
  rw[ha]
def CP(a b c d:List (List UInt8))(rest:List Ab.Obj)(S:Store):Store:=
 (.box [.bF [],.bF [],.bF [],.bF []]:: .box [.bI (0,2) (a.map encS),.bI (0,3) (b.map encS),.bI (0,4) (c.map encS),.bI (0,5) (d.map encS)]:: .tok 1 (a.map encS):: .tok 1 (b.map encS):: .tok 1 (c.map encS):: .tok 1 (d.map encS)::rest)::S
theorem Za(ps:List aU)(hl:ps.length<=4194304)(hz:aP (ps.map aU.enc)<=4194304):aF prog 142 [.c (.d (.sl (ps.map aU.enc)))] (.agg [.d (.sl ((Ah ps).map encS)),.d (.sl ((Ai ps).map encS)),.d (.sl ((Aj ps).map encS)),.d (.sl ((Ak ps).map encS))]):=fun S=>by
 have hn:=Xl ps;refine zcx [.cell 2 158] func142 ntmps142 ?_;refine W1 ?_;refine W3 ?_;refine sJ 1 0 1 [] [.bF [],.bF [],.bF [],.bF []] rfl rfl (by simp) ?_;refine sJ 1 1 1 [] [.bI (0,2) [],.bF [],.bF [],.bF []] rfl rfl (by simp) ?_;refine sJ 1 2 1 [] [.bI (0,2) [],.bI (0,3) [],.bF [],.bF []] rfl rfl (by simp) ?_;refine sJ 1 3 1 [] [.bI (0,2) [],.bI (0,3) [],.bI (0,4) [],.bF []] rfl rfl (by simp) ?_
 refine aZ (ι:=Nat×List (List UInt8)×List (List UInt8)×List (List UInt8)×List (List UInt8)) zmx rfl [2,3,15,16,17] (fun y=>[.c (.ptr (0,0) 0),.c (.ptr (0,1) 0),.c (.d (.sl (ps.map aU.enc))),.c (.d (.i .i64 ps.length)),.c (.d (.i .i64 y.1))])
  (fun y=>[.box [.bF [],.bF [],.bF [],.bF []],.box [.bI (0,2) (y.2.1.map encS),.bI (0,3) (y.2.2.1.map encS),.bI (0,4) (y.2.2.2.1.map encS),.bI (0,5) (y.2.2.2.2.map encS)],.tok 1 (y.2.1.map encS),.tok 1 (y.2.2.1.map encS),.tok 1 (y.2.2.2.1.map encS),.tok 1 (y.2.2.2.2.map encS)]::S)
  (fun y=>y.1<=ps.length/\y.2.1=Ah (ps.take y.1)/\y.2.2.1=Ai (ps.take y.1)/\y.2.2.2.1=Aj (ps.take y.1)/\y.2.2.2.2=Ak (ps.take y.1)) (fun y=>ps.length-y.1) (0,[],[],[],[]) rfl rfl ⟨Nat.zero_le _,rfl,rfl,rfl,rfl⟩ ?_
 rintro⟨i,a,b,c,d⟩ ⟨p1,p2,p3,p4,p5⟩;simp only at p1 p2 p3 p4 p5;refine W1 ?_;refine S0 (fun hb h=>?_) fun hb h=>?_
 ·have hi:i<ps.length:=by omega
  have hp:ps[i].sz<=4194304:=by
   have hx:ps[i].sz<=aP (ps.map aU.enc):=dz (List.mem_map_of_mem (List.getElem_mem hi));omega
  refine W3 ?_
  have sub:∀(f:aU->List (List UInt8)),((ps.take (i+1)).flatMap f).length<=(ps.flatMap f).length:=fun f=>by
   conv=>rhs;rw[<-List.take_append_drop (i+1) ps]
   rw[List.flatMap_append,List.length_append];omega
  have e2:Ah (ps.take (i+1))=a++gP ps[i]:=by rw[p2];exact zx _ hi
  have e3:Ai (ps.take (i+1))=b++jd ps[i]:=by rw[p3];exact zx _ hi
  have e4:Aj (ps.take (i+1))=c++iw ps[i].au:=by rw[p4];exact zx _ hi
  have e5:Ak (ps.take (i+1))=d++fnNames ps[i]:=by rw[p5];exact zx _ hi
  have l2:(a++gP ps[i]).length<=4194304:=by rw[<-e2];have:=sub gP;unfold Ah at *;omega
  have l3:(b++jd ps[i]).length<=4194304:=by rw[<-e3];have:=sub jd;unfold Ai at *;omega
  have l4:(c++iw ps[i].au).length<=4194304:=by rw[<-e4];have:=sub (fun p=>iw p.au);unfold Aj at *;omega
  have l5:(d++fnNames ps[i]).length<=4194304:=by rw[<-e5];have:=sub fnNames;unfold Ak at *;omega
  have hbp:=aU.bounds hp;rw[List.length_append] at l2 l3 l4 l5
  refine aZ (ι:=Nat×List (List UInt8)) zmx rfl [2,3,5,15,16,17,22,23,24] (fun y=>[.c (.ptr (0,0) 0),.c (.ptr (0,1) 0),.c (.ptr (0,6) 0),.c (.d (.sl (ps.map aU.enc))),.c (.d (.i .i64 ps.length)),.c (.d (.i .i64 i)),.c (.d (.sl (ps[i].aG.map bJ.enc))),.c (.d (.i .i64 ps[i].aG.length)),.c (.d (.i .i64 y.1))]) (fun y=>CP y.2 b c d [.box (ps[i].enc.map .d)] S)
   (fun y=>y.1<=ps[i].aG.length/\y.2=a++(gP ps[i]).take y.1) (fun y=>ps[i].aG.length-y.1) (0,a) rfl ?_ ⟨Nat.zero_le _,by simp⟩ ?_
  ·unfold CP;exact Z1
  rintro⟨k,a'⟩ ⟨q1,q2⟩;simp only at q1 q2
  have ql:a'.length<=4194304:=by rw[q2];simp[gP] at *;omega
  unfold CP;refine W1 ?_;refine S0 (fun hb h=>?_) fun hb h=>?_
  ·have hk:k<ps[i].aG.length:=by omega
   have ql':a'.length+1<=4194304:=by rw[q2];simp[gP] at *;omega
   refine W3 ?_;rw[FK];exact bT 7 (by decide) (k+1,a'++[ps[i].aG[k].fName]) (by simp only;omega) rfl rfl rfl rfl ⟨by simp only;omega,by simp only;rw[q2,iQ (by simpa [gP] using hk)];simp[gP]⟩
  have ha:a'=a++gP ps[i]:=by rw[q2,List.take_of_length_le (by simp[gP];omega)]
  clear q1 q2 ql hb h;subst ha
  refine aZ (ι:=Nat×List (List UInt8)×List (List UInt8)) zmx rfl [2,3,5,15,16,17,37,38,39] (fun y=>[.c (.ptr (0,0) 0),.c (.ptr (0,1) 0),.c (.ptr (0,6) 0),.c (.d (.sl (ps.map aU.enc))),.c (.d (.i .i64 ps.length)),.c (.d (.i .i64 i)),.c (.d (.sl (ps[i].au.map aX.enc))),.c (.d (.i .i64 ps[i].au.length)),.c (.d (.i .i64 y.1))]) (fun y=>CP (a++gP ps[i]) y.2.1 y.2.2 d [.box (ps[i].enc.map .d)] S)
   (fun y=>y.1<=ps[i].au.length/\y.2.1=b++(jd ps[i]).take y.1/\y.2.2=c++iw (ps[i].au.take y.1)) (fun y=>ps[i].au.length-y.1) (0,b,c) rfl ?_ ⟨Nat.zero_le _,by simp,by simp[iw]⟩ ?_
  ·unfold CP;exact Z1
  rintro⟨k',b',c'⟩ ⟨q1,q2,q3⟩;simp only at q1 q2 q3;unfold CP;refine W1 ?_;refine S0 (fun hb h=>?_) fun hb h=>?_
  ·have hk:k'<ps[i].au.length:=by omega
   have e6:iw (ps[i].au.take (k'+1))=iw (ps[i].au.take k')++ps[i].au[k'].aC.map bL.fName:=zx _ hk
   have hcl:(iw (ps[i].au.take (k'+1))).length<=(iw ps[i].au).length:=by
    conv=>rhs;rw[<-List.take_append_drop (k'+1) ps[i].au]
    unfold iw;rw[List.flatMap_append,List.length_append];omega
   have ql':b'.length+1<=4194304:=by rw[q2];simp[jd] at *;omega
   have qc:c'.length+ps[i].au[k'].aC.length<=4194304:=by
    rw[e6,List.length_append,List.length_map] at hcl;rw[q3,List.length_append];omega
   refine W3 ?_;rw[FK]
   refine aZ (ι:=Nat×List (List UInt8)) zmx rfl [2,3,5,15,16,17,37,38,39,51,52,53] (fun y=>[.c (.ptr (0,0) 0),.c (.ptr (0,1) 0),.c (.ptr (0,6) 0),.c (.d (.sl (ps.map aU.enc))),.c (.d (.i .i64 ps.length)),.c (.d (.i .i64 i)),.c (.d (.sl (ps[i].au.map aX.enc))),.c (.d (.i .i64 ps[i].au.length)),.c (.d (.i .i64 k')),.c (.d (.sl (ps[i].au[k'].aC.map bL.enc))),.c (.d (.i .i64 ps[i].au[k'].aC.length)),.c (.d (.i .i64 y.1))]) (fun y=>CP (a++gP ps[i]) (b'++[ps[i].au[k'].fName]) y.2 d [.box (ps[i].enc.map .d),.box (ps[i].au[k'].enc.map .d)] S)
    (fun y=>y.1<=ps[i].au[k'].aC.length/\y.2=c'++(ps[i].au[k'].aC.map bL.fName).take y.1) (fun y=>ps[i].au[k'].aC.length-y.1) (0,c') rfl ?_ ⟨Nat.zero_le _,by simp⟩ ?_
   ·unfold CP;exact Z1
   rintro⟨m,c''⟩ ⟨r1,r2⟩;simp only at r1 r2
   have rl:c''.length<=4194304:=by rw[r2];simp;omega
   unfold CP;refine W1 ?_;refine S0 (fun hb h=>?_) fun hb h=>?_
   ·have hm:m<ps[i].au[k'].aC.length:=by omega
    have rl':c''.length+1<=4194304:=by rw[r2];simp;omega
    refine W3 ?_;rw[FK];exact bT 8 (by decide) (m+1,c''++[ps[i].au[k'].aC[m].fName]) (by simp only;omega) rfl rfl rfl rfl ⟨by simp only;omega,by simp only;rw[r2,iQ (by simpa using hm)];simp⟩
   ·have hm:m=ps[i].au[k'].aC.length:=by omega
    have hc:c''=c'++ps[i].au[k'].aC.map bL.fName:=by rw[r2,List.take_of_length_le (by simp;omega)]
    exact bT 7 (by decide) (k'+1,b'++[ps[i].au[k'].fName],c'') (by simp only;omega) rfl rfl rfl rfl ⟨by simp only;omega,by simp only;rw[q2,iQ (by simpa [jd] using hk)];simp[jd],by simp only;rw[hc,e6,q3,List.append_assoc]⟩
  have hb':b'=b++jd ps[i]:=by rw[q2,List.take_of_length_le (by simp[jd];omega)]
  have hc':c'=c++iw ps[i].au:=by rw[q3,List.take_of_length_le (by omega)]
  clear q1 q2 q3 hb h;subst hb';subst hc'
  refine aZ (ι:=Nat×List (List UInt8)) zmx rfl [2,3,5,15,16,17,67,68,69] (fun y=>[.c (.ptr (0,0) 0),.c (.ptr (0,1) 0),.c (.ptr (0,6) 0),.c (.d (.sl (ps.map aU.enc))),.c (.d (.i .i64 ps.length)),.c (.d (.i .i64 i)),.c (.d (.sl (ps[i].aK.map aY.enc))),.c (.d (.i .i64 ps[i].aK.length)),.c (.d (.i .i64 y.1))]) (fun y=>CP (a++gP ps[i]) (b++jd ps[i]) (c++iw ps[i].au) y.2 [.box (ps[i].enc.map .d)] S)
   (fun y=>y.1<=ps[i].aK.length/\y.2=d++(fnNames ps[i]).take y.1) (fun y=>ps[i].aK.length-y.1) (0,d) rfl ?_ ⟨Nat.zero_le _,by simp⟩ ?_
  ·unfold CP;exact Z1
  rintro⟨k4,d'⟩ ⟨q1,q2⟩;simp only at q1 q2
  have ql:d'.length<=4194304:=by rw[q2];simp[fnNames] at *;omega
  unfold CP;refine W1 ?_;refine S0 (fun hb h=>?_) fun hb h=>?_
  ·have hk:k4<ps[i].aK.length:=by omega
   have ql':d'.length+1<=4194304:=by rw[q2];simp[fnNames] at *;omega
   refine W3 ?_;rw[FK];exact bT 7 (by decide) (k4+1,d'++[ps[i].aK[k4].fName]) (by simp only;omega) rfl rfl rfl rfl ⟨by simp only;omega,by simp only;rw[q2,iQ (by simpa [fnNames] using hk)];simp[fnNames]⟩
  ·have hd:d'=d++fnNames ps[i]:=by rw[q2,List.take_of_length_le (by simp[fnNames];omega)]
   exact bT 6 (by decide) (i+1,a++gP ps[i],b++jd ps[i],c++iw ps[i].au,d') (by simp only;omega) rfl rfl rfl rfl ⟨by simp only;omega,e2.symm,e3.symm,e4.symm,by simp only;rw[hd,e5]⟩
 ·have hi:i=ps.length:=by omega
  rw[List.take_of_length_le (by omega)] at p2 p3 p4 p5;rw[p2,p3,p4,p5]
theorem Xm(ps:List aU)(hl:ps.length<=4194304)(hz:aP (ps.map aU.enc)<=4194304):aF prog 56 [.c (.d (.sl (ps.map aU.enc)))] (.c (.d (.b (nJ ps)))):=fun S=>by
 have hn:=Xl ps;refine zcx [.tmp 2] func56 ntmps56 ?_;refine W1 ?_;refine C2 (Za ps hl hz) ?_
 refine aZ (ι:=Int) zmx rfl [6,7] (fun i=>[.agg [.d (.sl ((Ah ps).map encS)),.d (.sl ((Ai ps).map encS)),.d (.sl ((Aj ps).map encS)),.d (.sl ((Ak ps).map encS))],.c (.d (.i .i64 i))]) (fun _=>[]::S)
  (fun i=>(0<=i/\i<=4)/\(1<=i->(Ah ps).Nodup)/\(2<=i->(Ai ps).Nodup)/\(3<=i->(Aj ps).Nodup)/\(4<=i->(Ak ps).Nodup)) (fun i=>(4-i).toNat) 0 rfl rfl ⟨⟨by omega,by omega⟩,by omega,by omega,by omega,by omega⟩ ?_
 rintro i ⟨p0,p1,p2,p3,p4⟩
 have hi:i=0\/i=1\/i=2\/i=3\/i=4:=by omega
 rcases hi with rfl|rfl|rfl|rfl|rfl
 ·refine W1 ?_;refine W3 ?_;refine C2 (p9 (Ah ps) (by omega)) ?_;refine S0 (fun hb h=>?_) fun hb h=>?_
  ·exact aI (by unfold nJ;rw[aR h];rfl)
  ·exact dB 1 (by decide) rfl rfl ⟨⟨by omega,by omega⟩,fun _=>h,by omega,by omega,by omega⟩
 ·refine W1 ?_;refine W3 ?_;refine C2 (p9 (Ai ps) (by omega)) ?_;refine S0 (fun hb h=>?_) fun hb h=>?_
  ·exact aI (by unfold nJ;rw[aR h];simp)
  ·exact dB 2 (by decide) rfl rfl ⟨⟨by omega,by omega⟩,fun _=>p1 (by omega),fun _=>h,by omega,by omega⟩
 ·refine W1 ?_;refine W3 ?_;refine C2 (p9 (Aj ps) (by omega)) ?_;refine S0 (fun hb h=>?_) fun hb h=>?_
  ·exact aI (by unfold nJ;rw[aR h];simp)
  ·exact dB 3 (by decide) rfl rfl ⟨⟨by omega,by omega⟩,fun _=>p1 (by omega),fun _=>p2 (by omega),fun _=>h,by omega⟩
 ·refine W1 ?_;refine W3 ?_;refine C2 (p9 (Ak ps) (by omega)) ?_;refine S0 (fun hb h=>?_) fun hb h=>?_
  ·exact aI (by unfold nJ;rw[aR h];simp)
  ·exact dB 4 (by decide) rfl rfl ⟨⟨by omega,by omega⟩,fun _=>p1 (by omega),fun _=>p2 (by omega),fun _=>p3 (by omega),fun _=>h⟩
 ·refine W1 ?_;exact aI (by unfold nJ;rw[bM (p1 (by omega)),bM (p2 (by omega)),bM (p3 (by omega)),bM (p4 (by omega))];rfl)
noncomputable def tT(p:aU):Bool:=p.aG.all dO&&(p.au.all fD&&(p.aD.all eX&&p.aK.all jH))
noncomputable def sj(p:aU):Bool:=validName p.fName&&(dec (p.eH.length<=5)&&(iI p.eH&&(!dec (p.fName∈p.eH)&&dec (p.aG.length+p.au.length+p.aD.length+p.aK.length<=24))))
noncomputable def validPkg(p:aU):Bool:=sj p&&(nJ [p]&&tT p)
theorem aU.sum(x:aU):x.fName.length+(x.eH.length+aP (x.eH.map encS))+(x.aG.length+aP (x.aG.map bJ.enc))+(x.au.length+aP (x.au.map aX.enc))+(x.aD.length+aP (x.aD.map aS.enc))+(x.aK.length+aP (x.aK.map aY.enc))<=x.sz:=by
 simp only[aU.sz,aU.aJ,bQ,bP,D.sz,List.length_map];omega
theorem xA{α:Type}{f:α->Bool}{xs:List α}{i:Nat}(hi:i<xs.length):(xs.drop i).all f=(f xs[i]&&(xs.drop (i+1)).all f):=by
 rw[List.drop_eq_getElem_cons hi,List.all_cons]
theorem RB(xs:List (List UInt8))(s:List UInt8)(hl:xs.length<=1073741824):aF prog 55 [.c (.d (.sl (xs.map encS))),.c (.d (.s s))] (.c (.d (.i .i64 (yB xs s)))):=fun S=>by
 refine zcx [.tmp 4] func55 ntmps55 ?_;refine W1 ?_;exact C4 (SK xs s hl)
theorem sW(p:aU)(hsz:p.sz<=4194304):aF prog 20 [p.v] (.c (.d (.b (validPkg p)))):=fun S=>by
 have hs:=aU.sum p
 have hV:∀s∈p.eH,s.length<=4194304:=fun s h=>by have:=sP h;omega
 have no:sj p=false->V.c (.d (.b false))=V.c (.d (.b (validPkg p))):=fun h=>aI (by unfold validPkg;rw[h];rfl);have hu:=Xm [p] (by simp) (by simp[aP];have:bQ p.enc=p.sz:=rfl;omega);have hix:decide (yB p.eH p.fName>=0)=dec (p.fName∈p.eH):=Pg;refine zcx [.tmp 2] func20 ntmps20 ?_;refine W1 ?_;refine C2 (iy p.fName (by omega)) ?_;refine S0 (fun hb h=>?_) fun hb h=>?_
 ·exact no (by unfold sj;rw[h];rfl)
 have k1:=h;refine S0 (fun hb h=>?_) fun hb h=>?_
 ·exact no (by unfold sj;rw[aR (show ¬p.eH.length<=5 by omega)];simp)
 have k2:=h;refine W3 ?_;refine C2 (oQ p.eH (by omega) hV) ?_;refine S0 (fun hb h=>?_) fun hb h=>?_
 ·exact no (by unfold sj;rw[h];simp)
 have k3:=h;refine W3 ?_;refine C1 (RB p.eH p.fName (by omega)) ?_;rw[show decide (0<=yB p.eH p.fName)=dec (p.fName∈p.eH) from hix];refine S0 (fun hb h=>?_) fun hb h=>?_
 ·exact no (by unfold sj;rw[bM h];simp)
 have k4:=h;refine S0 (fun hb h=>?_) fun hb h=>?_
 ·exact no (by unfold sj;rw[aR (show ¬p.aG.length+p.au.length+p.aD.length+p.aK.length<=24 by omega)];simp)
 have hh:sj p=true:=by unfold sj;rw[k1,k3,bM (show p.eH.length<=5 by omega),aR k4,bM (by omega)];rfl
 simp only[List.map_cons,List.map_nil] at hu;refine W3 ?_;refine bD hu ?_;refine W1 ?_;clear hu hix no k1 k2 k3 k4
 have fin:validPkg p=((((nJ [p]&&p.aG.all dO)&&p.au.all fD)&&p.aD.all eX)&&p.aK.all jH):=by unfold validPkg tT;rw[hh];simp[Bool.and_assoc]
 generalize nJ [p]=b0 at fin ⊢
 refine aZ (ι:=Nat×Bool) zmx rfl [1,3,56,57,58] (fun y=>[.c (.ptr (0,0) 0),.c (.d (.b y.2)),.c (.d (.sl (p.aG.map bJ.enc))),.c (.d (.i .i64 p.aG.length)),.c (.d (.i .i64 y.1))]) (fun _=>[.box (p.enc.map .d)]::S)
  (fun y=>y.1<=p.aG.length/\(y.2&&(p.aG.drop y.1).all dO)=(b0&&p.aG.all dO)) (fun y=>p.aG.length-y.1) (0,b0) rfl ?_ ⟨Nat.zero_le _,rfl⟩ ?_
 ·exact Z1
 rintro⟨i,b⟩ ⟨p1,p2⟩;simp only at p1 p2;refine W1 ?_;refine S0 (fun hb h=>?_) fun hb h=>?_
 ·have hi:i<p.aG.length:=by omega
  have hx:p.aG[i].sz<=aP (p.aG.map bJ.enc):=dz (List.mem_map_of_mem (List.getElem_mem hi));rw[xA hi] at p2;refine W3 ?_;refine S0 (fun hb h=>?_) fun hb h=>?_
  ·have hb1:=h;rw[hb1,Bool.true_and] at p2;refine C2 (Dg p.aG[i] (by omega)) ?_;exact bT 1 (by decide) (i+1,dO p.aG[i]) (by simp only;omega) rfl rfl rfl rfl ⟨by simp only;omega,p2⟩
  ·have hb1:=h;rw[hb1,Bool.false_and] at p2;exact bT 1 (by decide) (i+1,false) (by simp only;omega) rfl rfl rfl rfl ⟨by simp only;omega,p2⟩
 rw[List.drop_of_length_le (by omega),List.all_nil,Bool.and_true] at p2;rw[<-p2] at fin;clear p2 p1 hb h;generalize b=b1 at fin ⊢
 refine aZ (ι:=Nat×Bool) zmx rfl [1,3,69,70,71] (fun y=>[.c (.ptr (0,0) 0),.c (.d (.b y.2)),.c (.d (.sl (p.au.map aX.enc))),.c (.d (.i .i64 p.au.length)),.c (.d (.i .i64 y.1))]) (fun _=>[.box (p.enc.map .d)]::S)
  (fun y=>y.1<=p.au.length/\(y.2&&(p.au.drop y.1).all fD)=(b1&&p.au.all fD)) (fun y=>p.au.length-y.1) (0,b1) rfl ?_ ⟨Nat.zero_le _,rfl⟩ ?_
 ·exact Z1
 rintro⟨i,b⟩ ⟨p1,p2⟩;simp only at p1 p2;refine W1 ?_;refine S0 (fun hb h=>?_) fun hb h=>?_
 ·have hi:i<p.au.length:=by omega
  have hx:p.au[i].sz<=aP (p.au.map aX.enc):=dz (List.mem_map_of_mem (List.getElem_mem hi));rw[xA hi] at p2;refine W3 ?_;refine S0 (fun hb h=>?_) fun hb h=>?_
  ·have hb1:=h;rw[hb1,Bool.true_and] at p2;refine C2 (EH p.au[i] (by omega)) ?_;exact bT 1 (by decide) (i+1,fD p.au[i]) (by simp only;omega) rfl rfl rfl rfl ⟨by simp only;omega,p2⟩
  ·have hb1:=h;rw[hb1,Bool.false_and] at p2;exact bT 1 (by decide) (i+1,false) (by simp only;omega) rfl rfl rfl rfl ⟨by simp only;omega,p2⟩
 rw[List.drop_of_length_le (by omega),List.all_nil,Bool.and_true] at p2;rw[<-p2] at fin;clear p2 p1 hb h;generalize b=b2 at fin ⊢
 refine aZ (ι:=Nat×Bool) zmx rfl [1,3,82,83,84] (fun y=>[.c (.ptr (0,0) 0),.c (.d (.b y.2)),.c (.d (.sl (p.aD.map aS.enc))),.c (.d (.i .i64 p.aD.length)),.c (.d (.i .i64 y.1))]) (fun _=>[.box (p.enc.map .d)]::S)
  (fun y=>y.1<=p.aD.length/\(y.2&&(p.aD.drop y.1).all eX)=(b2&&p.aD.all eX)) (fun y=>p.aD.length-y.1) (0,b2) rfl ?_ ⟨Nat.zero_le _,rfl⟩ ?_
 ·exact Z1
 rintro⟨i,b⟩ ⟨p1,p2⟩;simp only at p1 p2;refine W1 ?_;refine S0 (fun hb h=>?_) fun hb h=>?_
 ·have hi:i<p.aD.length:=by omega
  have hx:p.aD[i].sz<=aP (p.aD.map aS.enc):=dz (List.mem_map_of_mem (List.getElem_mem hi));rw[xA hi] at p2;refine W3 ?_;refine S0 (fun hb h=>?_) fun hb h=>?_
  ·have hb1:=h;rw[hb1,Bool.true_and] at p2;refine C2 (EN p.aD[i] (by omega)) ?_;exact bT 1 (by decide) (i+1,eX p.aD[i]) (by simp only;omega) rfl rfl rfl rfl ⟨by simp only;omega,p2⟩
  ·have hb1:=h;rw[hb1,Bool.false_and] at p2;exact bT 1 (by decide) (i+1,false) (by simp only;omega) rfl rfl rfl rfl ⟨by simp only;omega,p2⟩
 rw[List.drop_of_length_le (by omega),List.all_nil,Bool.and_true] at p2;rw[<-p2] at fin;clear p2 p1 hb h;generalize b=b3 at fin ⊢
 refine aZ (ι:=Nat×Bool) zmx rfl [3,95,96,97] (fun y=>[.c (.d (.b y.2)),.c (.d (.sl (p.aK.map aY.enc))),.c (.d (.i .i64 p.aK.length)),.c (.d (.i .i64 y.1))]) (fun _=>[.box (p.enc.map .d)]::S)
  (fun y=>y.1<=p.aK.length/\(y.2&&(p.aK.drop y.1).all jH)=(b3&&p.aK.all jH)) (fun y=>p.aK.length-y.1) (0,b3) rfl ?_ ⟨Nat.zero_le _,rfl⟩ ?_
 ·exact Z1
 rintro⟨i,b⟩ ⟨p1,p2⟩;simp only at p1 p2;refine W1 ?_;refine S0 (fun hb h=>?_) fun hb h=>?_
 ·have hi:i<p.aK.length:=by omega
  have hx:p.aK[i].sz<=aP (p.aK.map aY.enc):=dz (List.mem_map_of_mem (List.getElem_mem hi));rw[xA hi] at p2;refine W3 ?_;refine S0 (fun hb h=>?_) fun hb h=>?_
  ·have hb1:=h;rw[hb1,Bool.true_and] at p2;refine C2 (G6 p.aK[i] (by omega)) ?_;exact bT 1 (by decide) (i+1,jH p.aK[i]) (by simp only;omega) rfl rfl rfl rfl ⟨by simp only;omega,p2⟩
  ·have hb1:=h;rw[hb1,Bool.false_and] at p2;exact bT 1 (by decide) (i+1,false) (by simp only;omega) rfl rfl rfl rfl ⟨by simp only;omega,p2⟩
 rw[List.drop_of_length_le (by omega),List.all_nil,Bool.and_true] at p2;rw[<-p2] at fin;clear p2 p1 hb h;exact aI fin.symm
theorem Zb(p:aU)(hsz:p.sz<=4194304):aF prog 66 [p.v] (.c (.d (.b (tT p)))):=fun S=>by
 have hs:=aU.sum p;refine zcx [.tmp 2] func66 ntmps66 ?_;refine W1 ?_
 refine aZ (ι:=Nat) zmx rfl [1,3] (fun i=>[.c (.ptr (0,0) 0),.c (.d (.i .i64 i))]) (fun _=>[.box (p.enc.map .d)]::S)
  (fun i=>i<=p.aG.length/\(p.aG.drop i).all dO=p.aG.all dO) (fun i=>p.aG.length-i) 0 rfl ?_ ⟨Nat.zero_le _,rfl⟩ ?_
 ·exact Z1
 rintro i ⟨p1,p2⟩;refine W1 ?_;refine S0 (fun hb h=>?_) fun hb h=>?_
 ·have hi:i<p.aG.length:=by omega
  have hx:p.aG[i].sz<=aP (p.aG.map bJ.enc):=dz (List.mem_map_of_mem (List.getElem_mem hi));rw[xA hi] at p2;refine W3 ?_;refine C2 (qL p.aG[i] (by omega)) ?_;refine S0 (fun hb h=>?_) fun hb h=>?_
  ·exact aI (by unfold tT;rw[<-p2,h];simp)
  ·rw[h,Bool.true_and] at p2;exact dB (i+1) (by omega) rfl rfl ⟨by omega,p2⟩
 rw[List.drop_of_length_le (by omega),List.all_nil] at p2;have f3:=p2.symm;clear p2 p1 hb h
 refine aZ (ι:=Nat) zmx rfl [1,4] (fun i=>[.c (.ptr (0,0) 0),.c (.d (.i .i64 i))]) (fun _=>[.box (p.enc.map .d)]::S)
  (fun i=>i<=p.au.length/\(p.au.drop i).all fD=p.au.all fD) (fun i=>p.au.length-i) 0 rfl ?_ ⟨Nat.zero_le _,rfl⟩ ?_
 ·exact Z1
 rintro i ⟨p1,p2⟩;refine W1 ?_;refine S0 (fun hb h=>?_) fun hb h=>?_
 ·have hi:i<p.au.length:=by omega
  have hx:p.au[i].sz<=aP (p.au.map aX.enc):=dz (List.mem_map_of_mem (List.getElem_mem hi));rw[xA hi] at p2;refine W3 ?_;refine C2 (EG p.au[i] (by omega)) ?_;refine S0 (fun hb h=>?_) fun hb h=>?_
  ·exact aI (by unfold tT;rw[<-p2,h];simp)
  ·rw[h,Bool.true_and] at p2;exact dB (i+1) (by omega) rfl rfl ⟨by omega,p2⟩
 rw[List.drop_of_length_le (by omega),List.all_nil] at p2;have f4:=p2.symm;clear p2 p1 hb h
 refine aZ (ι:=Nat) zmx rfl [1,5] (fun i=>[.c (.ptr (0,0) 0),.c (.d (.i .i64 i))]) (fun _=>[.box (p.enc.map .d)]::S)
  (fun i=>i<=p.aD.length/\(p.aD.drop i).all eX=p.aD.all eX) (fun i=>p.aD.length-i) 0 rfl ?_ ⟨Nat.zero_le _,rfl⟩ ?_
 ·exact Z1
 rintro i ⟨p1,p2⟩;refine W1 ?_;refine S0 (fun hb h=>?_) fun hb h=>?_
 ·have hi:i<p.aD.length:=by omega
  have hx:p.aD[i].sz<=aP (p.aD.map aS.enc):=dz (List.mem_map_of_mem (List.getElem_mem hi));rw[xA hi] at p2;refine W3 ?_;refine C2 (oI p.aD[i] (by omega)) ?_;refine S0 (fun hb h=>?_) fun hb h=>?_
  ·exact aI (by unfold tT;rw[<-p2,h];simp)
  ·rw[h,Bool.true_and] at p2;exact dB (i+1) (by omega) rfl rfl ⟨by omega,p2⟩
 rw[List.drop_of_length_le (by omega),List.all_nil] at p2;have f5:=p2.symm;clear p2 p1 hb h
 refine aZ (ι:=Nat) zmx rfl [1,6] (fun i=>[.c (.ptr (0,0) 0),.c (.d (.i .i64 i))]) (fun _=>[.box (p.enc.map .d)]::S)
  (fun i=>i<=p.aK.length/\(p.aK.drop i).all jH=p.aK.all jH) (fun i=>p.aK.length-i) 0 rfl ?_ ⟨Nat.zero_le _,rfl⟩ ?_
 ·exact Z1
 rintro i ⟨p1,p2⟩;refine W1 ?_;refine S0 (fun hb h=>?_) fun hb h=>?_
 ·have hi:i<p.aK.length:=by omega
  have hx:p.aK[i].sz<=aP (p.aK.map aY.enc):=dz (List.mem_map_of_mem (List.getElem_mem hi));rw[xA hi] at p2;refine W3 ?_;refine C2 (AX p.aK[i] (by omega)) ?_;refine S0 (fun hb h=>?_) fun hb h=>?_
  ·exact aI (by unfold tT;rw[<-p2,h];simp)
  ·rw[h,Bool.true_and] at p2;exact dB (i+1) (by omega) rfl rfl ⟨by omega,p2⟩
 rw[List.drop_of_length_le (by omega),List.all_nil] at p2;have f6:=p2.symm;clear p2 p1 hb h;exact aI (by unfold tT;rw[f3,f4,f5,f6];rfl)
theorem an6(p:aU):Ah [p]=gP p:=by simp[Ah]
theorem an7(p:aU):Ai [p]=jd p:=by simp[Ai]
theorem an8(p:aU):Aj [p]=iw p.au:=by simp[Aj]
theorem an9(p:aU):Ak [p]=fnNames p:=by simp[Ak]
theorem wI(p:aU)(hsz:p.sz<=4194304):aF prog 21 [p.v] (.c (.d (.b (validPkg p)))):=fun S=>by
 have hs:=aU.sum p;have hb:=aU.bounds hsz
 have hV:∀s∈p.eH,s.length<=4194304:=fun s h=>by have:=sP h;omega
 have l1:(gP p).length<=1073741824:=by simp[gP];omega
 have l2:(jd p).length<=1073741824:=by simp[jd];omega
 have l3:(iw p.au).length<=1073741824:=by omega
 have l4:(fnNames p).length<=1073741824:=by simp[fnNames];omega
 refine zcx [.tmp 2] func21 ntmps21 ?_;refine W1 ?_;refine C1 (Y9 p hsz) ?_
 repeat' (first
  |refine S0 (fun hb h=>?_) fun hb h=>?_
  |((with_reducible show fB _ _ 62 _ _ _ _);refine bD (iA p.fName (by omega)) ?_;refine W1 ?_)
  |((with_reducible show fB _ _ 63 _ _ _ _);refine bD (mG p.eH 5 (by omega) hV) ?_;refine W1 ?_)
  |((with_reducible show fB _ _ 64 _ _ _ _);refine bD (vk p.eH p.fName (by omega)) ?_;refine W1 ?_)
  |((with_reducible show fB _ _ 65 _ _ _ _);refine bD (qb (gP p) l1) ?_;refine W1 ?_)
  |((with_reducible show fB _ _ 65 _ _ _ _);refine bD (qb (jd p) l2) ?_;refine W1 ?_)
  |((with_reducible show fB _ _ 65 _ _ _ _);refine bD (qb (iw p.au) l3) ?_;refine W1 ?_)
  |((with_reducible show fB _ _ 65 _ _ _ _);refine bD (qb (fnNames p) l4) ?_;refine W1 ?_)
  |((with_reducible show fB _ _ 66 _ _ _ _);refine bD (Zb p hsz) ?_;refine W1 ?_)
  |(refine aI ?_;unfold validPkg sj nJ;rw[an6,an7,an8,an9];grind [gJ,jo,bM,aR]))
def RD:List UInt8:=[112,97,99,107,97,103,101]
def fE(p:aU):List ah:=p.aG.map jW++(p.au.map sS++(p.aD.map pR++p.aK.map vN))
noncomputable def ow(p:aU):List ah:=p.aG.map yH++(p.au.map F8++(p.aD.map Gf++p.aK.map IY))
def eF(p:aU):List ah:=[bN RD,bN p.fName,bH (aO p.eH)]
def rH(p:aU):ah:=bH (eF p++fE p)
noncomputable def qB(p:aU):ah:=vv (validPkg p&&(fE p).all dV) (rH p)
theorem Z5{p:aU}(h:p.sz<=1048576):(qB p).sz<=1048576:=Nat.le_trans (alB _ _) (by decide)
theorem vD(p:aU):(eF p++fE p).length=3+p.aG.length+p.au.length+p.aD.length+p.aK.length:=by simp[eF,fE];omega
theorem Qj(p:aU):(eF p++ow p).length=3+p.aG.length+p.au.length+p.aD.length+p.aK.length:=by simp[eF,ow];omega
theorem Tx{p:aU}{i:Nat}(hi:i<p.aG.length):(eF p++fE p)[3+i]? =some (jW p.aG[i]):=by
 unfold fE;rw[List.getElem?_append_right (by simp[eF]<;>omega),List.getElem?_append_left (by simp[eF]<;>omega),List.getElem?_map]
 have e:3+i-(eF p).length=i:=by simp[eF]<;>omega
 rw[e,List.getElem?_eq_getElem hi];rfl
theorem Tz{p:aU}{i:Nat}(hi:i<p.au.length):(eF p++fE p)[3+p.aG.length+i]? =some (sS p.au[i]):=by
 unfold fE;rw[List.getElem?_append_right (by simp[eF]<;>omega),List.getElem?_append_right (by simp[eF]<;>omega),List.getElem?_append_left (by simp[eF]<;>omega),List.getElem?_map]
 have e:3+p.aG.length+i-(eF p).length-(p.aG.map jW).length=i:=by simp[eF]<;>omega
 rw[e,List.getElem?_eq_getElem hi];rfl
theorem Qk{p:aU}{i:Nat}(hi:i<p.aD.length):(eF p++fE p)[3+p.aG.length+p.au.length+i]? =some (pR p.aD[i]):=by
 unfold fE;rw[List.getElem?_append_right (by simp[eF]<;>omega),List.getElem?_append_right (by simp[eF]<;>omega),List.getElem?_append_right (by simp[eF]<;>omega),List.getElem?_append_left (by simp[eF]<;>omega),List.getElem?_map]
 have e:3+p.aG.length+p.au.length+i-(eF p).length-(p.aG.map jW).length-(p.au.map sS).length=i:=by simp[eF]<;>omega
 rw[e,List.getElem?_eq_getElem hi];rfl
theorem TA{p:aU}{i:Nat}(hi:i<p.aK.length):(eF p++fE p)[3+p.aG.length+p.au.length+p.aD.length+i]? =some (vN p.aK[i]):=by
 unfold fE;rw[List.getElem?_append_right (by simp[eF]<;>omega),List.getElem?_append_right (by simp[eF]<;>omega),List.getElem?_append_right (by simp[eF]<;>omega),List.getElem?_append_right (by simp[eF]<;>omega),List.getElem?_map]
 have e:3+p.aG.length+p.au.length+p.aD.length+i-(eF p).length-(p.aG.map jW).length-(p.au.map sS).length-(p.aD.map pR).length=i:=by simp[eF]<;>omega
 rw[e,List.getElem?_eq_getElem hi];rfl
theorem TB{p:aU}{i:Nat}(hi:i<p.aG.length):(eF p++ow p)[3+i]? =some (yH p.aG[i]):=by
 unfold ow;rw[List.getElem?_append_right (by simp[eF]<;>omega),List.getElem?_append_left (by simp[eF]<;>omega),List.getElem?_map]
 have e:3+i-(eF p).length=i:=by simp[eF]<;>omega
 rw[e,List.getElem?_eq_getElem hi];rfl
theorem TD{p:aU}{i:Nat}(hi:i<p.au.length):(eF p++ow p)[3+p.aG.length+i]? =some (F8 p.au[i]):=by
 unfold ow;rw[List.getElem?_append_right (by simp[eF]<;>omega),List.getElem?_append_right (by simp[eF]<;>omega),List.getElem?_append_left (by simp[eF]<;>omega),List.getElem?_map]
 have e:3+p.aG.length+i-(eF p).length-(p.aG.map yH).length=i:=by simp[eF]<;>omega
 rw[e,List.getElem?_eq_getElem hi];rfl
theorem Ql{p:aU}{i:Nat}(hi:i<p.aD.length):(eF p++ow p)[3+p.aG.length+p.au.length+i]? =some (Gf p.aD[i]):=by
 unfold ow;rw[List.getElem?_append_right (by simp[eF]<;>omega),List.getElem?_append_right (by simp[eF]<;>omega),List.getElem?_append_right (by simp[eF]<;>omega),List.getElem?_append_left (by simp[eF]<;>omega),List.getElem?_map]
 have e:3+p.aG.length+p.au.length+i-(eF p).length-(p.aG.map yH).length-(p.au.map F8).length=i:=by simp[eF]<;>omega
 rw[e,List.getElem?_eq_getElem hi];rfl
theorem TF{p:aU}{i:Nat}(hi:i<p.aK.length):(eF p++ow p)[3+p.aG.length+p.au.length+p.aD.length+i]? =some (IY p.aK[i]):=by
 unfold ow;rw[List.getElem?_append_right (by simp[eF]<;>omega),List.getElem?_append_right (by simp[eF]<;>omega),List.getElem?_append_right (by simp[eF]<;>omega),List.getElem?_append_right (by simp[eF]<;>omega),List.getElem?_map]
 have e:3+p.aG.length+p.au.length+p.aD.length+i-(eF p).length-(p.aG.map yH).length-(p.au.map F8).length-(p.aD.map Gf).length=i:=by simp[eF]<;>omega
 rw[e,List.getElem?_eq_getElem hi];rfl
theorem EP{α:Type}(f:α->ah)(e:α->List D)(sz:α->Nat)(hs:∀a,sz a=bQ (e a))(c k:Nat):∀l:List α,(∀a∈l,(f a).sz<=c+k*sz a)->dA (l.map f)<=c*l.length+k*aP (l.map e)
 |[],_=>by simp[dA]
 |a::l,h=>by
  have h1:=h a (List.mem_cons_self ..);have h2:=EP f e sz hs c k l fun b hb=>h b (List.mem_cons_of_mem _ hb);rw[hs] at h1;rw[List.map_cons,dA,List.map_cons,aP,List.length_cons,Nat.mul_add,Nat.mul_add];omega
theorem rO{p:aU}(h:validPkg p=true):(∀t∈p.aG,dO t=true)/\(∀t∈p.au,fD t=true)/\(∀t∈p.aD,eX t=true)/\(∀t∈p.aK,jH t=true)/\p.aG.length+p.au.length+p.aD.length+p.aK.length<=24:=by
 unfold validPkg sj tT at h;simp only[Bool.and_eq_true] at h;obtain⟨⟨_,_,_,_,h0⟩,_,h1,h2,h3,h4⟩:=h;exact⟨List.all_eq_true.1 h1,List.all_eq_true.1 h2,List.all_eq_true.1 h3,List.all_eq_true.1 h4,gJ h0⟩
theorem Qm{p:aU}(hv:validPkg p=true):(rH p).sz<=4096+50*p.sz/\dA (fE p)<=4000+50*p.sz:=by
 obtain⟨v1,v2,v3,v4,v5⟩:=rO hv
 have h1:=EP jW bJ.enc bJ.sz (fun _=>rfl) 96 49 p.aG fun t ht=>by have:=G9 (v1 t ht);omega
 have h2:=EP sS aX.enc aX.sz (fun _=>rfl) 96 49 p.au fun t ht=>by have:=WS t;omega
 have h3:=EP pR aS.enc aS.sz (fun _=>rfl) 96 49 p.aD fun t ht=>by have:=Hf (v3 t ht);omega
 have h4:=EP vN aY.enc aY.sz (fun _=>rfl) 96 49 p.aK fun t ht=>by have:=W9 (vO (v4 t ht)).2.2.2;omega
 have h5:=aU.sum p;rw[dH] at h5
 have h6:dA (fE p)<=4000+50*p.sz:=by
  unfold fE;rw[gL,gL,gL];omega
 have h7:dA (fE p)=dA (p.aG.map jW)+(dA (p.au.map sS)+(dA (p.aD.map pR)+dA (p.aK.map vN))):=by
  unfold fE;rw[gL,gL,gL]
 refine⟨?_,h6⟩;rw[rH,jl,gL,vD];simp[eF,dA,jM,jl,jr,rC,RD];omega
theorem NK:∀(l:List ah)(n:Nat),∃ps:List (Nat×ah),lx l n=(ps.map fun q=>[.s q.2.aQ,.ol q.1 (lx q.2.aj (q.1+1))])/\ps.map Prod.snd=l
 |[],n=>⟨[],rfl,rfl⟩
 |x::l,n=>by
  obtain⟨ps,h1,h2⟩:=NK l (n+dU x);exact⟨(n,x)::ps,by rw[jG,h1,jF];rfl,by rw[List.map_cons,h2]⟩
theorem TG{p:aU}(hv:validPkg p=true):ow p=(fE p).map uO:=by
 obtain⟨v1,v2,v3,v4,_⟩:=rO hv;unfold ow fE;rw[List.map_append,List.map_append,List.map_append,List.map_map,List.map_map,List.map_map,List.map_map];congr 1
 ·exact List.map_congr_left fun t ht=>by unfold yH;rw[v1 t ht];rfl
 congr 1
 ·exact List.map_congr_left fun t ht=>by unfold F8;rw[v2 t ht];rfl
 congr 1
 ·exact List.map_congr_left fun t ht=>by unfold Gf;rw[v3 t ht];rfl
 ·exact List.map_congr_left fun t ht=>by unfold IY;rw[v4 t ht];rfl
theorem afB{p:aU}:∀x∈fE p,x.aj≠[]:=fun x hx=>by
 unfold fE at hx;simp only[List.mem_append,List.mem_map] at hx;rcases hx with⟨t,_,rfl⟩|⟨t,_,rfl⟩|⟨t,_,rfl⟩|⟨t,_,rfl⟩
 ·rw[jW,dw,iX];simp
 ·rw[sS,dw,baseD];simp
 ·rw[pR,dw,mR];simp
 ·rw[vN,dw];simp
theorem ajb(p:aU)(n:Nat)(hv:validPkg p=true)(hsz:p.sz<=1048576)(hall:∀x∈fE p,dV x=true):aF prog 51 [p.v] (.agg [.d (.s (uO (rH p)).aQ),.d (.ol n (lx (uO (rH p)).aj (n+1)))]):=fun S=>by
 have hdz:=aU.sum p;rw[dH] at hdz;obtain⟨v1,v2,v3,v4,v5⟩:=rO hv;obtain⟨hz,hzp⟩:=Qm hv;obtain⟨PL,zy⟩:∃PL:List ah,PL=eF p++fE p:=⟨_,rfl⟩;obtain⟨L,hL⟩:∃L:Nat->Nat,L=fun i=>n+1+iL (PL.take i):=⟨_,rfl⟩;obtain⟨T,hT⟩:∃T:Nat->List (List D),T=fun i=>lx (PL.take i) (n+1):=⟨_,rfl⟩
 have ER:T 3=[[.s RD,.ol (n+1) []],[.s p.fName,.ol (n+1+1) []],[.s [],.ol (n+1+1+1) (lx (aO p.eH) (n+1+1+1+1))]]:=by
  rw[hT,zy];exact Kt _ _ _ _
 have hlp:=vD p;rw[<-zy] at hlp
 have gM:∀i,(T i).length<=i:=fun i=>by
  rw[hT];simp only[gG];exact List.length_take_le i _
 have hTs:∀(i:Nat)(x:ah),PL[i]? =some x->x.aQ=[]->T i++[[.s [],.ol (L i) (lx x.aj (L i+1))]]=T (i+1):=fun i x hx h0=>by
  obtain⟨hi,hg⟩:=List.getElem?_eq_some_iff.1 hx;have:=AR hi (n+1);rw[hg,h0] at this;rw[hT,hL];exact this
 have hTr:∀i,∀r∈T i,r.length=2:=fun i=>by rw[hT];exact ku
 have g1:=fun i hi=>Tx (p:=p) (i:=i) hi;have g2:=fun i hi=>Tz (p:=p) (i:=i) hi;have g3:=fun i hi=>Qk (p:=p) (i:=i) hi;have g4:=fun i hi=>TA (p:=p) (i:=i) hi;rw[<-zy] at g1 g2 g3 g4
 have hTe:T (3+p.aG.length+p.au.length+p.aD.length+p.aK.length)=lx (rH p).aj (n+1):=by
  rw[hT];simp only
  rw[List.take_of_length_le (by omega),zy];rfl
 have hTm:(T (3+p.aG.length+p.au.length+p.aD.length+p.aK.length)).length=3+p.aG.length+p.au.length+p.aD.length+p.aK.length:=by rw[hTe,gG,rH,dw,vD]
 obtain⟨ps,hp1,hp2⟩:=NK (fE p) (n+1+iL (eF p))
 have asg:ps.length<=24:=by
  have h1:=congrArg List.length hp2;rw[List.length_map] at h1;have h2:=vD p;rw[List.length_append] at h2;simp[eF] at h2;omega
 have hdr:(T (3+p.aG.length+p.au.length+p.aD.length+p.aK.length)).drop 3=ps.map fun q=>[.s q.2.aQ,.ol q.1 (lx q.2.aj (q.1+1))]:=by
  rw[hTe,rH,dw,lu,<-hp1];rfl
 clear hT hL;refine qR (n) 1 (rs:=[.cell 2 37]) zmx func51 ntmps51 rfl rfl rfl rfl rfl ?_;refine W1 ?_;refine bD (sW p (by omega)) ?_;simp -implicitDefEqProofs (disch:=omega) only[go_sem,hv];refine C1 (dx _ (n+1)) ?_;refine C1 (dx _ (n+1+1)) ?_;refine C1 (eD p.eH (by omega) (n+1+1+1)) ?_;refine W3 ?_;refine kR n 3 2 (T 3) (.inl ?_) (hTr 3) ?_
 ·rw[ER];rfl
 refine nY (L 3) ?_
 refine aZ (ι:=Nat) zmx rfl [1,2,3,27,28,29] (fun i=>[.c (.ptr (0,2) 0),.c (.ptr (0,3) 0),.c (.bI (0,4) (T (3+i))),.c (.d (.sl (p.aG.map bJ.enc))),.c (.d (.i .i64 p.aG.length)),.c (.d (.i .i64 i))])
  (fun i=>[.seed (L (3+i)),.seed 1,.box [.d (.s p.fName),.d (.sl (p.eH.map encS)),.d (.sl (p.aG.map bJ.enc)),.d (.sl (p.au.map aX.enc)),.d (.sl (p.aD.map aS.enc)),.d (.sl (p.aK.map aY.enc))],.box [.d (.s []),.bF []],.eG n 2 (T (3+i))]::S)
  (fun i=>i<=p.aG.length) (fun i=>p.aG.length-i) 0 rfl rfl (Nat.zero_le _) ?_
 intro i hi;have hl:=gM (3+i);refine W1 ?_;refine S0 (fun hb h=>?_) fun hb h=>?_
 ·have hi':i<p.aG.length:=by omega
  have hm:=List.getElem_mem hi';have hcz:=dz (List.mem_map_of_mem (f:=bJ.enc) hm);have yT:p.aG[i].sz<=aP (p.aG.map bJ.enc):=hcz;have hs:=hTs _ _ (g1 i hi') rfl;refine W3 ?_;refine C1 (CK p.aG[i] (L (3+i)) (v1 _ hm) (by omega)) ?_;refine W3 ?_;rw[hs];refine kH (L (3+(i+1))) 4 (by decide) (i+1) (by omega) rfl rfl ?_ rfl (by omega);simp[iN,gT,V.refs,C.refs,jY]
 have hi':i=p.aG.length:=by omega
 subst hi';clear hi hl h
 refine aZ (ι:=Nat) zmx rfl [1,2,3,40,41,42] (fun i=>[.c (.ptr (0,2) 0),.c (.ptr (0,3) 0),.c (.bI (0,4) (T (3+p.aG.length+i))),.c (.d (.sl (p.au.map aX.enc))),.c (.d (.i .i64 p.au.length)),.c (.d (.i .i64 i))])
  (fun i=>[.seed (L (3+p.aG.length+i)),.seed 1,.box [.d (.s p.fName),.d (.sl (p.eH.map encS)),.d (.sl (p.aG.map bJ.enc)),.d (.sl (p.au.map aX.enc)),.d (.sl (p.aD.map aS.enc)),.d (.sl (p.aK.map aY.enc))],.box [.d (.s []),.bF []],.eG n 2 (T (3+p.aG.length+i))]::S)
  (fun i=>i<=p.au.length) (fun i=>p.au.length-i) 0 rfl rfl (Nat.zero_le _) ?_
 intro i hi;have hl:=gM (3+p.aG.length+i);refine W1 ?_;refine S0 (fun hb h=>?_) fun hb h=>?_
 ·have hi':i<p.au.length:=by omega
  have hm:=List.getElem_mem hi';have hcz:=dz (List.mem_map_of_mem (f:=aX.enc) hm);have yT:p.au[i].sz<=aP (p.au.map aX.enc):=hcz;have hs:=hTs _ _ (g2 i hi') rfl;refine W3 ?_;refine C1 (Ac p.au[i] (L (3+p.aG.length+i)) (v2 _ hm) (by omega)) ?_;refine W3 ?_;rw[hs];refine kH (L (3+p.aG.length+(i+1))) 4 (by decide) (i+1) (by omega) rfl rfl ?_ rfl (by omega);simp[iN,gT,V.refs,C.refs,jY]
 have hi':i=p.au.length:=by omega
 subst hi';clear hi hl h
 refine aZ (ι:=Nat) zmx rfl [1,2,3,53,54,55] (fun i=>[.c (.ptr (0,2) 0),.c (.ptr (0,3) 0),.c (.bI (0,4) (T (3+p.aG.length+p.au.length+i))),.c (.d (.sl (p.aD.map aS.enc))),.c (.d (.i .i64 p.aD.length)),.c (.d (.i .i64 i))])
  (fun i=>[.seed (L (3+p.aG.length+p.au.length+i)),.seed 1,.box [.d (.s p.fName),.d (.sl (p.eH.map encS)),.d (.sl (p.aG.map bJ.enc)),.d (.sl (p.au.map aX.enc)),.d (.sl (p.aD.map aS.enc)),.d (.sl (p.aK.map aY.enc))],.box [.d (.s []),.bF []],.eG n 2 (T (3+p.aG.length+p.au.length+i))]::S)
  (fun i=>i<=p.aD.length) (fun i=>p.aD.length-i) 0 rfl rfl (Nat.zero_le _) ?_
 intro i hi;have hl:=gM (3+p.aG.length+p.au.length+i);refine W1 ?_;refine S0 (fun hb h=>?_) fun hb h=>?_
 ·have hi':i<p.aD.length:=by omega
  have hm:=List.getElem_mem hi';have hcz:=dz (List.mem_map_of_mem (f:=aS.enc) hm);have yT:p.aD[i].sz<=aP (p.aD.map aS.enc):=hcz;have hs:=hTs _ _ (g3 i hi') rfl;refine W3 ?_;refine C1 (EO p.aD[i] (L (3+p.aG.length+p.au.length+i)) (v3 _ hm) (by omega)) ?_;refine W3 ?_;rw[hs];refine kH (L (3+p.aG.length+p.au.length+(i+1))) 4 (by decide) (i+1) (by omega) rfl rfl ?_ rfl (by omega);simp[iN,gT,V.refs,C.refs,jY]
 have hi':i=p.aD.length:=by omega
 subst hi';clear hi hl h
 refine aZ (ι:=Nat) zmx rfl [2,3,66,67,68] (fun i=>[.c (.ptr (0,3) 0),.c (.bI (0,4) (T (3+p.aG.length+p.au.length+p.aD.length+i))),.c (.d (.sl (p.aK.map aY.enc))),.c (.d (.i .i64 p.aK.length)),.c (.d (.i .i64 i))])
  (fun i=>[.seed (L (3+p.aG.length+p.au.length+p.aD.length+i)),.seed 1,.box [.d (.s p.fName),.d (.sl (p.eH.map encS)),.d (.sl (p.aG.map bJ.enc)),.d (.sl (p.au.map aX.enc)),.d (.sl (p.aD.map aS.enc)),.d (.sl (p.aK.map aY.enc))],.box [.d (.s []),.bF []],.eG n 2 (T (3+p.aG.length+p.au.length+p.aD.length+i))]::S)
  (fun i=>i<=p.aK.length) (fun i=>p.aK.length-i) 0 rfl rfl (Nat.zero_le _) ?_
 intro i hi;have hl:=gM (3+p.aG.length+p.au.length+p.aD.length+i);refine W1 ?_;refine S0 (fun hb h=>?_) fun hb h=>?_
 ·have hi':i<p.aK.length:=by omega
  have hm:=List.getElem_mem hi';have hcz:=dz (List.mem_map_of_mem (f:=aY.enc) hm);have yT:p.aK[i].sz<=aP (p.aK.map aY.enc):=hcz;have hs:=hTs _ _ (g4 i hi') rfl;refine W3 ?_;refine C1 (CJ p.aK[i] (L (3+p.aG.length+p.au.length+p.aD.length+i)) (v4 _ hm) (by omega)) ?_;refine W3 ?_;rw[hs];refine kH (L (3+p.aG.length+p.au.length+p.aD.length+(i+1))) 4 (by decide) (i+1) (by omega) rfl rfl ?_ rfl (by omega);simp[iN,gT,V.refs,C.refs,jY]
 have hi':i=p.aK.length:=by omega
 subst hi';clear hi hl h;have ajc:=hTr (3+p.aG.length+p.au.length+p.aD.length+p.aK.length);refine⟨⟨by omega,by omega,ajc⟩,?_⟩;rw[List.take_length,hdr];simp only[List.length_map];refine yA (Ga 4 n n) ?_
 refine aZ (ι:=Nat) zmx rfl [2,3,79,80,81] (fun i=>[.c (.ptr (0,3) 0),.c (.bI (0,4) (T (3+p.aG.length+p.au.length+p.aD.length+p.aK.length))),.c (.d (.sl (ps.map fun q=>[.s q.2.aQ,.ol q.1 (lx q.2.aj (q.1+1))]))),.c (.d (.i .i64 ps.length)),.c (.d (.i .i64 i))])
  (fun i=>[.seed (L (3+p.aG.length+p.au.length+p.aD.length+p.aK.length)),.seed 1,.box [.d (.s p.fName),.d (.sl (p.eH.map encS)),.d (.sl (p.aG.map bJ.enc)),.d (.sl (p.au.map aX.enc)),.d (.sl (p.aD.map aS.enc)),.d (.sl (p.aK.map aY.enc))],.box [.d (.s []),.bF []],.eG n 2 (T (3+p.aG.length+p.au.length+p.aD.length+p.aK.length))]::S)
  (fun i=>i<=ps.length/\∀j (hj:j<ps.length),j<i->dV ps[j].2=true) (fun i=>ps.length-i) 0 rfl rfl ⟨Nat.zero_le _,fun j hj h=>by omega⟩ ?_
 rintro i ⟨hi,hj⟩;refine W1 ?_;refine S0 (fun hb h=>?_) fun hb h=>?_
 ·have hi':i<ps.length:=by omega
  have hm:ps[i].2∈fE p:=by rw[<-hp2];exact List.mem_map_of_mem (List.getElem_mem hi')
  have hx:=kT hm;refine W3 ?_;refine jS (qy ps[i].2 (by omega)) (.cons (zm ps[i].2 ps[i].1) .nil) ?_;have uH:=hall _ hm;simp -implicitDefEqProofs (disch:=omega) only[go_sem,uH]
  exact bT 5 (by decide) (i+1) (by omega) rfl rfl rfl rfl ⟨by omega,fun j hj' hlt=>by
   by_cases e:j=i
   ·subst e;exact uH
   ·exact hj j hj' (by omega)⟩
 ·rw[hTe];refine C1 (kP _) ?_;exact C3 (acd (rH p) n (by omega))
theorem ajd(p:aU)(n:Nat)(hv:validPkg p=true)(hsz:p.sz<=1048576)(hall:¬∀x∈fE p,dV x=true):aF prog 51 [p.v] (.agg [.d (.s []),.bF []]):=fun S=>by
 have hdz:=aU.sum p;rw[dH] at hdz;obtain⟨v1,v2,v3,v4,v5⟩:=rO hv;obtain⟨hz,hzp⟩:=Qm hv;obtain⟨PL,zy⟩:∃PL:List ah,PL=eF p++fE p:=⟨_,rfl⟩;obtain⟨L,hL⟩:∃L:Nat->Nat,L=fun i=>n+1+iL (PL.take i):=⟨_,rfl⟩;obtain⟨T,hT⟩:∃T:Nat->List (List D),T=fun i=>lx (PL.take i) (n+1):=⟨_,rfl⟩
 have ER:T 3=[[.s RD,.ol (n+1) []],[.s p.fName,.ol (n+1+1) []],[.s [],.ol (n+1+1+1) (lx (aO p.eH) (n+1+1+1+1))]]:=by
  rw[hT,zy];exact Kt _ _ _ _
 have hlp:=vD p;rw[<-zy] at hlp
 have gM:∀i,(T i).length<=i:=fun i=>by
  rw[hT];simp only[gG];exact List.length_take_le i _
 have hTs:∀(i:Nat)(x:ah),PL[i]? =some x->x.aQ=[]->T i++[[.s [],.ol (L i) (lx x.aj (L i+1))]]=T (i+1):=fun i x hx h0=>by
  obtain⟨hi,hg⟩:=List.getElem?_eq_some_iff.1 hx;have:=AR hi (n+1);rw[hg,h0] at this;rw[hT,hL];exact this
 have hTr:∀i,∀r∈T i,r.length=2:=fun i=>by rw[hT];exact ku
 have g1:=fun i hi=>Tx (p:=p) (i:=i) hi;have g2:=fun i hi=>Tz (p:=p) (i:=i) hi;have g3:=fun i hi=>Qk (p:=p) (i:=i) hi;have g4:=fun i hi=>TA (p:=p) (i:=i) hi;rw[<-zy] at g1 g2 g3 g4
 have hTe:T (3+p.aG.length+p.au.length+p.aD.length+p.aK.length)=lx (rH p).aj (n+1):=by
  rw[hT];simp only
  rw[List.take_of_length_le (by omega),zy];rfl
 have hTm:(T (3+p.aG.length+p.au.length+p.aD.length+p.aK.length)).length=3+p.aG.length+p.au.length+p.aD.length+p.aK.length:=by rw[hTe,gG,rH,dw,vD]
 obtain⟨ps,hp1,hp2⟩:=NK (fE p) (n+1+iL (eF p))
 have asg:ps.length<=24:=by
  have h1:=congrArg List.length hp2;rw[List.length_map] at h1;have h2:=vD p;rw[List.length_append] at h2;simp[eF] at h2;omega
 have hdr:(T (3+p.aG.length+p.au.length+p.aD.length+p.aK.length)).drop 3=ps.map fun q=>[.s q.2.aQ,.ol q.1 (lx q.2.aj (q.1+1))]:=by
  rw[hTe,rH,dw,lu,<-hp1];rfl
 clear hT hL;refine qR (n) 1 (rs:=[.cell 2 37]) zmx func51 ntmps51 rfl rfl rfl rfl rfl ?_;refine W1 ?_;refine bD (sW p (by omega)) ?_;simp -implicitDefEqProofs (disch:=omega) only[go_sem,hv];refine C1 (dx _ (n+1)) ?_;refine C1 (dx _ (n+1+1)) ?_;refine C1 (eD p.eH (by omega) (n+1+1+1)) ?_;refine W3 ?_;refine kR n 3 2 (T 3) (.inl ?_) (hTr 3) ?_
 ·rw[ER];rfl
 refine nY (L 3) ?_
 refine aZ (ι:=Nat) zmx rfl [1,2,3,27,28,29] (fun i=>[.c (.ptr (0,2) 0),.c (.ptr (0,3) 0),.c (.bI (0,4) (T (3+i))),.c (.d (.sl (p.aG.map bJ.enc))),.c (.d (.i .i64 p.aG.length)),.c (.d (.i .i64 i))])
  (fun i=>[.seed (L (3+i)),.seed 1,.box [.d (.s p.fName),.d (.sl (p.eH.map encS)),.d (.sl (p.aG.map bJ.enc)),.d (.sl (p.au.map aX.enc)),.d (.sl (p.aD.map aS.enc)),.d (.sl (p.aK.map aY.enc))],.box [.d (.s []),.bF []],.eG n 2 (T (3+i))]::S)
  (fun i=>i<=p.aG.length) (fun i=>p.aG.length-i) 0 rfl rfl (Nat.zero_le _) ?_
 intro i hi;have hl:=gM (3+i);refine W1 ?_;refine S0 (fun hb h=>?_) fun hb h=>?_
 ·have hi':i<p.aG.length:=by omega
  have hm:=List.getElem_mem hi';have hcz:=dz (List.mem_map_of_mem (f:=bJ.enc) hm);have yT:p.aG[i].sz<=aP (p.aG.map bJ.enc):=hcz;have hs:=hTs _ _ (g1 i hi') rfl;refine W3 ?_;refine C1 (CK p.aG[i] (L (3+i)) (v1 _ hm) (by omega)) ?_;refine W3 ?_;rw[hs];refine kH (L (3+(i+1))) 4 (by decide) (i+1) (by omega) rfl rfl ?_ rfl (by omega);simp[iN,gT,V.refs,C.refs,jY]
 have hi':i=p.aG.length:=by omega
 subst hi';clear hi hl h
 refine aZ (ι:=Nat) zmx rfl [1,2,3,40,41,42] (fun i=>[.c (.ptr (0,2) 0),.c (.ptr (0,3) 0),.c (.bI (0,4) (T (3+p.aG.length+i))),.c (.d (.sl (p.au.map aX.enc))),.c (.d (.i .i64 p.au.length)),.c (.d (.i .i64 i))])
  (fun i=>[.seed (L (3+p.aG.length+i)),.seed 1,.box [.d (.s p.fName),.d (.sl (p.eH.map encS)),.d (.sl (p.aG.map bJ.enc)),.d (.sl (p.au.map aX.enc)),.d (.sl (p.aD.map aS.enc)),.d (.sl (p.aK.map aY.enc))],.box [.d (.s []),.bF []],.eG n 2 (T (3+p.aG.length+i))]::S)
  (fun i=>i<=p.au.length) (fun i=>p.au.length-i) 0 rfl rfl (Nat.zero_le _) ?_
 intro i hi;have hl:=gM (3+p.aG.length+i);refine W1 ?_;refine S0 (fun hb h=>?_) fun hb h=>?_
 ·have hi':i<p.au.length:=by omega
  have hm:=List.getElem_mem hi';have hcz:=dz (List.mem_map_of_mem (f:=aX.enc) hm);have yT:p.au[i].sz<=aP (p.au.map aX.enc):=hcz;have hs:=hTs _ _ (g2 i hi') rfl;refine W3 ?_;refine C1 (Ac p.au[i] (L (3+p.aG.length+i)) (v2 _ hm) (by omega)) ?_;refine W3 ?_;rw[hs];refine kH (L (3+p.aG.length+(i+1))) 4 (by decide) (i+1) (by omega) rfl rfl ?_ rfl (by omega);simp[iN,gT,V.refs,C.refs,jY]
 have hi':i=p.au.length:=by omega
 subst hi';clear hi hl h
 refine aZ (ι:=Nat) zmx rfl [1,2,3,53,54,55] (fun i=>[.c (.ptr (0,2) 0),.c (.ptr (0,3) 0),.c (.bI (0,4) (T (3+p.aG.length+p.au.length+i))),.c (.d (.sl (p.aD.map aS.enc))),.c (.d (.i .i64 p.aD.length)),.c (.d (.i .i64 i))])
  (fun i=>[.seed (L (3+p.aG.length+p.au.length+i)),.seed 1,.box [.d (.s p.fName),.d (.sl (p.eH.map encS)),.d (.sl (p.aG.map bJ.enc)),.d (.sl (p.au.map aX.enc)),.d (.sl (p.aD.map aS.enc)),.d (.sl (p.aK.map aY.enc))],.box [.d (.s []),.bF []],.eG n 2 (T (3+p.aG.length+p.au.length+i))]::S)
  (fun i=>i<=p.aD.length) (fun i=>p.aD.length-i) 0 rfl rfl (Nat.zero_le _) ?_
 intro i hi;have hl:=gM (3+p.aG.length+p.au.length+i);refine W1 ?_;refine S0 (fun hb h=>?_) fun hb h=>?_
 ·have hi':i<p.aD.length:=by omega
  have hm:=List.getElem_mem hi';have hcz:=dz (List.mem_map_of_mem (f:=aS.enc) hm);have yT:p.aD[i].sz<=aP (p.aD.map aS.enc):=hcz;have hs:=hTs _ _ (g3 i hi') rfl;refine W3 ?_;refine C1 (EO p.aD[i] (L (3+p.aG.length+p.au.length+i)) (v3 _ hm) (by omega)) ?_;refine W3 ?_;rw[hs];refine kH (L (3+p.aG.length+p.au.length+(i+1))) 4 (by decide) (i+1) (by omega) rfl rfl ?_ rfl (by omega);simp[iN,gT,V.refs,C.refs,jY]
 have hi':i=p.aD.length:=by omega
 subst hi';clear hi hl h
 refine aZ (ι:=Nat) zmx rfl [2,3,66,67,68] (fun i=>[.c (.ptr (0,3) 0),.c (.bI (0,4) (T (3+p.aG.length+p.au.length+p.aD.length+i))),.c (.d (.sl (p.aK.map aY.enc))),.c (.d (.i .i64 p.aK.length)),.c (.d (.i .i64 i))])
  (fun i=>[.seed (L (3+p.aG.length+p.au.length+p.aD.length+i)),.seed 1,.box [.d (.s p.fName),.d (.sl (p.eH.map encS)),.d (.sl (p.aG.map bJ.enc)),.d (.sl (p.au.map aX.enc)),.d (.sl (p.aD.map aS.enc)),.d (.sl (p.aK.map aY.enc))],.box [.d (.s []),.bF []],.eG n 2 (T (3+p.aG.length+p.au.length+p.aD.length+i))]::S)
  (fun i=>i<=p.aK.length) (fun i=>p.aK.length-i) 0 rfl rfl (Nat.zero_le _) ?_
 intro i hi;have hl:=gM (3+p.aG.length+p.au.length+p.aD.length+i);refine W1 ?_;refine S0 (fun hb h=>?_) fun hb h=>?_
 ·have hi':i<p.aK.length:=by omega
  have hm:=List.getElem_mem hi';have hcz:=dz (List.mem_map_of_mem (f:=aY.enc) hm);have yT:p.aK[i].sz<=aP (p.aK.map aY.enc):=hcz;have hs:=hTs _ _ (g4 i hi') rfl;refine W3 ?_;refine C1 (CJ p.aK[i] (L (3+p.aG.length+p.au.length+p.aD.length+i)) (v4 _ hm) (by omega)) ?_;refine W3 ?_;rw[hs];refine kH (L (3+p.aG.length+p.au.length+p.aD.length+(i+1))) 4 (by decide) (i+1) (by omega) rfl rfl ?_ rfl (by omega);simp[iN,gT,V.refs,C.refs,jY]
 have hi':i=p.aK.length:=by omega
 subst hi';clear hi hl h;have ajc:=hTr (3+p.aG.length+p.au.length+p.aD.length+p.aK.length);refine⟨⟨by omega,by omega,ajc⟩,?_⟩;rw[List.take_length,hdr];simp only[List.length_map];refine yA (Ga 4 n n) ?_
 refine aZ (ι:=Nat) zmx rfl [2,3,79,80,81] (fun i=>[.c (.ptr (0,3) 0),.c (.bI (0,4) (T (3+p.aG.length+p.au.length+p.aD.length+p.aK.length))),.c (.d (.sl (ps.map fun q=>[.s q.2.aQ,.ol q.1 (lx q.2.aj (q.1+1))]))),.c (.d (.i .i64 ps.length)),.c (.d (.i .i64 i))])
  (fun i=>[.seed (L (3+p.aG.length+p.au.length+p.aD.length+p.aK.length)),.seed 1,.box [.d (.s p.fName),.d (.sl (p.eH.map encS)),.d (.sl (p.aG.map bJ.enc)),.d (.sl (p.au.map aX.enc)),.d (.sl (p.aD.map aS.enc)),.d (.sl (p.aK.map aY.enc))],.box [.d (.s []),.bF []],.eG n 2 (T (3+p.aG.length+p.au.length+p.aD.length+p.aK.length))]::S)
  (fun i=>i<=ps.length/\∀j (hj:j<ps.length),j<i->dV ps[j].2=true) (fun i=>ps.length-i) 0 rfl rfl ⟨Nat.zero_le _,fun j hj h=>by omega⟩ ?_
 rintro i ⟨hi,hj⟩;refine W1 ?_;refine S0 (fun hb h=>?_) fun hb h=>?_
 ·have hi':i<ps.length:=by omega
  have hm:ps[i].2∈fE p:=by rw[<-hp2];exact List.mem_map_of_mem (List.getElem_mem hi')
  have hx:=kT hm;refine W3 ?_;refine jS (qy ps[i].2 (by omega)) (.cons (zm ps[i].2 ps[i].1) .nil) ?_
  cases uH:dV ps[i].2 with
  |false=>simp -implicitDefEqProofs (disch:=omega) only[go_sem,uH]
  |true=>
   simp -implicitDefEqProofs (disch:=omega) only[go_sem,uH]
   exact bT 5 (by decide) (i+1) (by omega) rfl rfl rfl rfl ⟨by omega,fun j hj' hlt=>by
    by_cases e:j=i
    ·subst e;exact uH
    ·exact hj j hj' (by omega)⟩
 ·exact absurd (fun x hx=>by
   rw[<-hp2] at hx;obtain⟨q,hq,rfl⟩:=List.mem_map.1 hx;obtain⟨j,hj1,rfl⟩:=List.getElem_of_mem hq
   exact hj j hj1 (by omega)) hall
theorem Zc(x:aU)(n:Nat)(hsz:x.sz<=1048576):aF prog 51 [x.v] (.agg [.d (.s (qB x).aQ),.d (.ol n (lx (qB x).aj (n+1)))]):=by
 unfold qB
 cases hv:validPkg x with
 |false=>
  rw[Bool.false_and,vv];refine aF.less (fun S=> ?_) (LP [] n);refine zcx [.cell 2 37] func51 ntmps51 ?_;refine W1 ?_;refine bD (sW x (by omega)) ?_;simp -implicitDefEqProofs (disch:=omega) only[go_sem,hv]
 |true=>
  rw[Bool.true_and]
  cases ha:(fE x).all dV with
  |true=>exact ajb x n hv hsz (List.all_eq_true.1 ha)
  |false=>
   rw[vv];refine aF.less (ajd x n hv hsz fun h=> ?_) (LP [] n);rw[List.all_eq_true.2 h] at ha;cases ha
theorem aje(p:aU)(hv:validPkg p=true)(hsz:p.sz<=1048576)(hall:∀x∈fE p,dV x=true):aF prog 52 [p.v] ((uO (rH p)).v):=fun S=>by
 have hdz:=aU.sum p;rw[dH] at hdz;obtain⟨v1,v2,v3,v4,v5⟩:=rO hv;obtain⟨hz,hzp⟩:=Qm hv;obtain⟨PL,zy⟩:∃PL:List ah,PL=eF p++ow p:=⟨_,rfl⟩;obtain⟨T,hT⟩:∃T:Nat->List (List D),T=fun i=>(PL.take i).map ah.enc:=⟨_,rfl⟩
 have ER:T 3=[[.s RD,.sl []],[.s p.fName,.sl []],[.s [],.sl ((aO p.eH).map ah.enc)]]:=by
  rw[hT,zy];simp only[eF,List.cons_append,List.nil_append,List.take_succ_cons,List.take_zero,List.map_cons,List.map_nil,fC,jC]
 have hlp:=Qj p;rw[<-zy] at hlp
 have gM:∀i,(T i).length<=i:=fun i=>by
  rw[hT];simp only[List.length_map];exact List.length_take_le i _
 have hTs:∀(i:Nat)(x:ah),PL[i]? =some x->T i++[[.s x.aQ,.sl (x.aj.map ah.enc)]]=T (i+1):=fun i x hx=>by
  obtain⟨hi,hg⟩:=List.getElem?_eq_some_iff.1 hx;have:=jc (base:=[]) (l:=PL) hi;rw[hg] at this;rw[hT];exact this
 have hTr:∀i,∀r∈T i,r.length=2:=fun i=>by rw[hT];exact gV
 have g1:=fun i hi=>TB (p:=p) (i:=i) hi;have g2:=fun i hi=>TD (p:=p) (i:=i) hi;have g3:=fun i hi=>Ql (p:=p) (i:=i) hi;have g4:=fun i hi=>TF (p:=p) (i:=i) hi;rw[<-zy] at g1 g2 g3 g4
 have hTe:T (3+p.aG.length+p.au.length+p.aD.length+p.aK.length)=PL.map ah.enc:=by
  rw[hT];simp only
  rw[List.take_of_length_le (by omega)]
 clear hT;refine zcx [.cell 2 37] func52 ntmps52 ?_;refine W1 ?_;refine bD (wI p (by omega)) ?_;simp -implicitDefEqProofs (disch:=omega) only[go_sem,hv];refine C1 (bS _) ?_;refine C1 (bS _) ?_;refine C1 (dY p.eH (by omega)) ?_;have hE:=fun bV Ω=>jN (T 3) (hTr 3) (by have:=gM 3;omega) bV Ω;simp only[ER] at hE;refine cK [false] rfl (hE _ _) ?_;refine W1 ?_
 refine aZ (ι:=Nat) zmx rfl [1,2,3,4] (fun i=>[.c (.ptr (0,0) 0),.c (.ptr (0,1) 0),.c (.ptr (0,4) 0),.c (.d (.i .i64 i))])
  (fun i=>[.box [.d (.s p.fName),.d (.sl (p.eH.map encS)),.d (.sl (p.aG.map bJ.enc)),.d (.sl (p.au.map aX.enc)),.d (.sl (p.aD.map aS.enc)),.d (.sl (p.aK.map aY.enc))],.box [.d (.s []),.bF []],.box [.d (.s []),.bI (0,3) (T 3)],.tok 2 (T (3+i)),.box [.d (.s []),.bI (0,3) (T (3+i))]]::S)
  (fun i=>i<=p.aG.length) (fun i=>p.aG.length-i) 0 rfl (by simp only[ER]<;>(try rfl)) (Nat.zero_le _) ?_
 intro i hi;have hl:=gM (3+i);refine W1 ?_;refine S0 (fun hb h=>?_) fun hb h=>?_
 ·have hi':i<p.aG.length:=by omega
  have hm:=List.getElem_mem hi';have hcz:=dz (List.mem_map_of_mem (f:=bJ.enc) hm);have yT:p.aG[i].sz<=aP (p.aG.map bJ.enc):=hcz;have hs:=hTs _ _ (g1 i hi');have hc:aF prog 130 [p.aG[i].v] (.agg [.d (.s (yH p.aG[i]).aQ),.d (.sl ((yH p.aG[i]).aj.map ah.enc))]):=Tp p.aG[i] (by omega);refine W3 ?_;refine bD hc ?_;refine W1 ?_;refine W3 ?_;rw[hs];exact bT 5 (by decide) (i+1) (by omega) rfl rfl rfl rfl (by omega)
 have hi':i=p.aG.length:=by omega
 subst hi';clear hi hl h
 refine aZ (ι:=Nat) zmx rfl [1,2,3,5] (fun i=>[.c (.ptr (0,0) 0),.c (.ptr (0,1) 0),.c (.ptr (0,4) 0),.c (.d (.i .i64 i))])
  (fun i=>[.box [.d (.s p.fName),.d (.sl (p.eH.map encS)),.d (.sl (p.aG.map bJ.enc)),.d (.sl (p.au.map aX.enc)),.d (.sl (p.aD.map aS.enc)),.d (.sl (p.aK.map aY.enc))],.box [.d (.s []),.bF []],.box [.d (.s []),.bI (0,3) (T 3)],.tok 2 (T (3+p.aG.length+i)),.box [.d (.s []),.bI (0,3) (T (3+p.aG.length+i))]]::S)
  (fun i=>i<=p.au.length) (fun i=>p.au.length-i) 0 rfl rfl (Nat.zero_le _) ?_
 intro i hi;have hl:=gM (3+p.aG.length+i);refine W1 ?_;refine S0 (fun hb h=>?_) fun hb h=>?_
 ·have hi':i<p.au.length:=by omega
  have hm:=List.getElem_mem hi';have hcz:=dz (List.mem_map_of_mem (f:=aX.enc) hm);have yT:p.au[i].sz<=aP (p.au.map aX.enc):=hcz;have hs:=hTs _ _ (g2 i hi');have hc:aF prog 131 [p.au[i].v] (.agg [.d (.s (F8 p.au[i]).aQ),.d (.sl ((F8 p.au[i]).aj.map ah.enc))]):=MN p.au[i] (by omega);refine W3 ?_;refine bD hc ?_;refine W1 ?_;refine W3 ?_;rw[hs];exact bT 5 (by decide) (i+1) (by omega) rfl rfl rfl rfl (by omega)
 have hi':i=p.au.length:=by omega
 subst hi';clear hi hl h
 refine aZ (ι:=Nat) zmx rfl [1,2,3,6] (fun i=>[.c (.ptr (0,0) 0),.c (.ptr (0,1) 0),.c (.ptr (0,4) 0),.c (.d (.i .i64 i))])
  (fun i=>[.box [.d (.s p.fName),.d (.sl (p.eH.map encS)),.d (.sl (p.aG.map bJ.enc)),.d (.sl (p.au.map aX.enc)),.d (.sl (p.aD.map aS.enc)),.d (.sl (p.aK.map aY.enc))],.box [.d (.s []),.bF []],.box [.d (.s []),.bI (0,3) (T 3)],.tok 2 (T (3+p.aG.length+p.au.length+i)),.box [.d (.s []),.bI (0,3) (T (3+p.aG.length+p.au.length+i))]]::S)
  (fun i=>i<=p.aD.length) (fun i=>p.aD.length-i) 0 rfl rfl (Nat.zero_le _) ?_
 intro i hi;have hl:=gM (3+p.aG.length+p.au.length+i);refine W1 ?_;refine S0 (fun hb h=>?_) fun hb h=>?_
 ·have hi':i<p.aD.length:=by omega
  have hm:=List.getElem_mem hi';have hcz:=dz (List.mem_map_of_mem (f:=aS.enc) hm);have yT:p.aD[i].sz<=aP (p.aD.map aS.enc):=hcz;have hs:=hTs _ _ (g3 i hi');have hc:aF prog 132 [p.aD[i].v] (.agg [.d (.s (Gf p.aD[i]).aQ),.d (.sl ((Gf p.aD[i]).aj.map ah.enc))]):=Xk p.aD[i] (by omega);refine W3 ?_;refine bD hc ?_;refine W1 ?_;refine W3 ?_;rw[hs];exact bT 5 (by decide) (i+1) (by omega) rfl rfl rfl rfl (by omega)
 have hi':i=p.aD.length:=by omega
 subst hi';clear hi hl h
 refine aZ (ι:=Nat) zmx rfl [1,2,3,7] (fun i=>[.c (.ptr (0,0) 0),.c (.ptr (0,1) 0),.c (.ptr (0,4) 0),.c (.d (.i .i64 i))])
  (fun i=>[.box [.d (.s p.fName),.d (.sl (p.eH.map encS)),.d (.sl (p.aG.map bJ.enc)),.d (.sl (p.au.map aX.enc)),.d (.sl (p.aD.map aS.enc)),.d (.sl (p.aK.map aY.enc))],.box [.d (.s []),.bF []],.box [.d (.s []),.bI (0,3) (T 3)],.tok 2 (T (3+p.aG.length+p.au.length+p.aD.length+i)),.box [.d (.s []),.bI (0,3) (T (3+p.aG.length+p.au.length+p.aD.length+i))]]::S)
  (fun i=>i<=p.aK.length) (fun i=>p.aK.length-i) 0 rfl rfl (Nat.zero_le _) ?_
 intro i hi;have hl:=gM (3+p.aG.length+p.au.length+p.aD.length+i);refine W1 ?_;refine S0 (fun hb h=>?_) fun hb h=>?_
 ·have hi':i<p.aK.length:=by omega
  have hm:=List.getElem_mem hi';have hcz:=dz (List.mem_map_of_mem (f:=aY.enc) hm);have yT:p.aK[i].sz<=aP (p.aK.map aY.enc):=hcz;have hs:=hTs _ _ (g4 i hi');have hc:aF prog 133 [p.aK[i].v] (.agg [.d (.s (IY p.aK[i]).aQ),.d (.sl ((IY p.aK[i]).aj.map ah.enc))]):=Tk p.aK[i] (by omega);refine W3 ?_;refine bD hc ?_;refine W1 ?_;refine W3 ?_;rw[hs];exact bT 5 (by decide) (i+1) (by omega) rfl rfl rfl rfl (by omega)
 have hi':i=p.aK.length:=by omega
 subst hi';clear hi hl h;have hps:=TG hv
 have hq:∀j,PL[3+j]? =(ow p)[j]? :=fun j=>by
  rw[zy,List.getElem?_append_right (by simp[eF])];congr 1;simp[eF]
 have hSP:ow p=fE p:=by
  rw[hps];exact(List.map_congr_left fun x hx=>by show uO x=x;rw[uO,if_pos (hall x hx)]).trans (List.map_id _)
 have hPP:PL.map ah.enc=(rH p).aj.map ah.enc:=by rw[zy,hSP];rfl
 have hok:∀j (hj:3+j<PL.length),PL[3+j].aj≠[]:=fun j hj=>by
  have h1:=(hq j).symm.trans (List.getElem?_eq_getElem hj);exact afB (p:=p) _ (by rw[<-hSP];exact List.mem_of_getElem? h1)
 rw[hTe]
 refine aZ (ι:=Nat) zmx rfl [2,3,8] (fun i=>[.c (.ptr (0,1) 0),.c (.ptr (0,4) 0),.c (.d (.i .i64 ((3+i:Nat):Int)))])
  (fun i=>[.box [.d (.s p.fName),.d (.sl (p.eH.map encS)),.d (.sl (p.aG.map bJ.enc)),.d (.sl (p.au.map aX.enc)),.d (.sl (p.aD.map aS.enc)),.d (.sl (p.aK.map aY.enc))],.box [.d (.s []),.bF []],.box [.d (.s []),.bI (0,3) (T 3)],.tok 2 (PL.map ah.enc),.box [.d (.s []),.bI (0,3) (PL.map ah.enc)]]::S)
  (fun i=>3+i<=PL.length/\∀j (hj:3+j<PL.length),j<i->PL[3+j].aj≠[]) (fun i=>PL.length-i) 0 rfl rfl ⟨by omega,fun j hj h=>by omega⟩ ?_
 rintro i ⟨hi,hj⟩;refine W1 ?_;refine S0 (fun hb h=>?_) fun hb h=>?_
 ·have hi':3+i<PL.length:=by omega
  have hne:=hok i hi';refine S0 (fun hb h=>?_) fun hb h=>?_
  ·exact absurd (List.eq_nil_of_length_eq_zero (by omega)) hne
  ·exact dB (i+1) (by omega) rfl rfl ⟨by omega,fun j hj' hlt=>hok j hj'⟩
 ·rw[hPP];refine C1 (rD true (rH p) (by omega)) ?_;rfl
theorem ajf(p:aU)(hv:validPkg p=true)(hsz:p.sz<=1048576)(hall:¬∀x∈fE p,dV x=true):aF prog 52 [p.v] (.agg [.d (.s []),.bF []]):=fun S=>by
 have hdz:=aU.sum p;rw[dH] at hdz;obtain⟨v1,v2,v3,v4,v5⟩:=rO hv;obtain⟨hz,hzp⟩:=Qm hv;obtain⟨PL,zy⟩:∃PL:List ah,PL=eF p++ow p:=⟨_,rfl⟩;obtain⟨T,hT⟩:∃T:Nat->List (List D),T=fun i=>(PL.take i).map ah.enc:=⟨_,rfl⟩
 have ER:T 3=[[.s RD,.sl []],[.s p.fName,.sl []],[.s [],.sl ((aO p.eH).map ah.enc)]]:=by
  rw[hT,zy];simp only[eF,List.cons_append,List.nil_append,List.take_succ_cons,List.take_zero,List.map_cons,List.map_nil,fC,jC]
 have hlp:=Qj p;rw[<-zy] at hlp
 have gM:∀i,(T i).length<=i:=fun i=>by
  rw[hT];simp only[List.length_map];exact List.length_take_le i _
 have hTs:∀(i:Nat)(x:ah),PL[i]? =some x->T i++[[.s x.aQ,.sl (x.aj.map ah.enc)]]=T (i+1):=fun i x hx=>by
  obtain⟨hi,hg⟩:=List.getElem?_eq_some_iff.1 hx;have:=jc (base:=[]) (l:=PL) hi;rw[hg] at this;rw[hT];exact this
 have hTr:∀i,∀r∈T i,r.length=2:=fun i=>by rw[hT];exact gV
 have g1:=fun i hi=>TB (p:=p) (i:=i) hi;have g2:=fun i hi=>TD (p:=p) (i:=i) hi;have g3:=fun i hi=>Ql (p:=p) (i:=i) hi;have g4:=fun i hi=>TF (p:=p) (i:=i) hi;rw[<-zy] at g1 g2 g3 g4
 have hTe:T (3+p.aG.length+p.au.length+p.aD.length+p.aK.length)=PL.map ah.enc:=by
  rw[hT];simp only
  rw[List.take_of_length_le (by omega)]
 clear hT;refine zcx [.cell 2 37] func52 ntmps52 ?_;refine W1 ?_;refine bD (wI p (by omega)) ?_;simp -implicitDefEqProofs (disch:=omega) only[go_sem,hv];refine C1 (bS _) ?_;refine C1 (bS _) ?_;refine C1 (dY p.eH (by omega)) ?_;have hE:=fun bV Ω=>jN (T 3) (hTr 3) (by have:=gM 3;omega) bV Ω;simp only[ER] at hE;refine cK [false] rfl (hE _ _) ?_;refine W1 ?_
 refine aZ (ι:=Nat) zmx rfl [1,2,3,4] (fun i=>[.c (.ptr (0,0) 0),.c (.ptr (0,1) 0),.c (.ptr (0,4) 0),.c (.d (.i .i64 i))])
  (fun i=>[.box [.d (.s p.fName),.d (.sl (p.eH.map encS)),.d (.sl (p.aG.map bJ.enc)),.d (.sl (p.au.map aX.enc)),.d (.sl (p.aD.map aS.enc)),.d (.sl (p.aK.map aY.enc))],.box [.d (.s []),.bF []],.box [.d (.s []),.bI (0,3) (T 3)],.tok 2 (T (3+i)),.box [.d (.s []),.bI (0,3) (T (3+i))]]::S)
  (fun i=>i<=p.aG.length) (fun i=>p.aG.length-i) 0 rfl (by simp only[ER]<;>(try rfl)) (Nat.zero_le _) ?_
 intro i hi;have hl:=gM (3+i);refine W1 ?_;refine S0 (fun hb h=>?_) fun hb h=>?_
 ·have hi':i<p.aG.length:=by omega
  have hm:=List.getElem_mem hi';have hcz:=dz (List.mem_map_of_mem (f:=bJ.enc) hm);have yT:p.aG[i].sz<=aP (p.aG.map bJ.enc):=hcz;have hs:=hTs _ _ (g1 i hi');have hc:aF prog 130 [p.aG[i].v] (.agg [.d (.s (yH p.aG[i]).aQ),.d (.sl ((yH p.aG[i]).aj.map ah.enc))]):=Tp p.aG[i] (by omega);refine W3 ?_;refine bD hc ?_;refine W1 ?_;refine W3 ?_;rw[hs];exact bT 5 (by decide) (i+1) (by omega) rfl rfl rfl rfl (by omega)
 have hi':i=p.aG.length:=by omega
 subst hi';clear hi hl h
 refine aZ (ι:=Nat) zmx rfl [1,2,3,5] (fun i=>[.c (.ptr (0,0) 0),.c (.ptr (0,1) 0),.c (.ptr (0,4) 0),.c (.d (.i .i64 i))])
  (fun i=>[.box [.d (.s p.fName),.d (.sl (p.eH.map encS)),.d (.sl (p.aG.map bJ.enc)),.d (.sl (p.au.map aX.enc)),.d (.sl (p.aD.map aS.enc)),.d (.sl (p.aK.map aY.enc))],.box [.d (.s []),.bF []],.box [.d (.s []),.bI (0,3) (T 3)],.tok 2 (T (3+p.aG.length+i)),.box [.d (.s []),.bI (0,3) (T (3+p.aG.length+i))]]::S)
  (fun i=>i<=p.au.length) (fun i=>p.au.length-i) 0 rfl rfl (Nat.zero_le _) ?_
 intro i hi;have hl:=gM (3+p.aG.length+i);refine W1 ?_;refine S0 (fun hb h=>?_) fun hb h=>?_
 ·have hi':i<p.au.length:=by omega
  have hm:=List.getElem_mem hi';have hcz:=dz (List.mem_map_of_mem (f:=aX.enc) hm);have yT:p.au[i].sz<=aP (p.au.map aX.enc):=hcz;have hs:=hTs _ _ (g2 i hi');have hc:aF prog 131 [p.au[i].v] (.agg [.d (.s (F8 p.au[i]).aQ),.d (.sl ((F8 p.au[i]).aj.map ah.enc))]):=MN p.au[i] (by omega);refine W3 ?_;refine bD hc ?_;refine W1 ?_;refine W3 ?_;rw[hs];exact bT 5 (by decide) (i+1) (by omega) rfl rfl rfl rfl (by omega)
 have hi':i=p.au.length:=by omega
 subst hi';clear hi hl h
 refine aZ (ι:=Nat) zmx rfl [1,2,3,6] (fun i=>[.c (.ptr (0,0) 0),.c (.ptr (0,1) 0),.c (.ptr (0,4) 0),.c (.d (.i .i64 i))])
  (fun i=>[.box [.d (.s p.fName),.d (.sl (p.eH.map encS)),.d (.sl (p.aG.map bJ.enc)),.d (.sl (p.au.map aX.enc)),.d (.sl (p.aD.map aS.enc)),.d (.sl (p.aK.map aY.enc))],.box [.d (.s []),.bF []],.box [.d (.s []),.bI (0,3) (T 3)],.tok 2 (T (3+p.aG.length+p.au.length+i)),.box [.d (.s []),.bI (0,3) (T (3+p.aG.length+p.au.length+i))]]::S)
  (fun i=>i<=p.aD.length) (fun i=>p.aD.length-i) 0 rfl rfl (Nat.zero_le _) ?_
 intro i hi;have hl:=gM (3+p.aG.length+p.au.length+i);refine W1 ?_;refine S0 (fun hb h=>?_) fun hb h=>?_
 ·have hi':i<p.aD.length:=by omega
  have hm:=List.getElem_mem hi';have hcz:=dz (List.mem_map_of_mem (f:=aS.enc) hm);have yT:p.aD[i].sz<=aP (p.aD.map aS.enc):=hcz;have hs:=hTs _ _ (g3 i hi');have hc:aF prog 132 [p.aD[i].v] (.agg [.d (.s (Gf p.aD[i]).aQ),.d (.sl ((Gf p.aD[i]).aj.map ah.enc))]):=Xk p.aD[i] (by omega);refine W3 ?_;refine bD hc ?_;refine W1 ?_;refine W3 ?_;rw[hs];exact bT 5 (by decide) (i+1) (by omega) rfl rfl rfl rfl (by omega)
 have hi':i=p.aD.length:=by omega
 subst hi';clear hi hl h
 refine aZ (ι:=Nat) zmx rfl [1,2,3,7] (fun i=>[.c (.ptr (0,0) 0),.c (.ptr (0,1) 0),.c (.ptr (0,4) 0),.c (.d (.i .i64 i))])
  (fun i=>[.box [.d (.s p.fName),.d (.sl (p.eH.map encS)),.d (.sl (p.aG.map bJ.enc)),.d (.sl (p.au.map aX.enc)),.d (.sl (p.aD.map aS.enc)),.d (.sl (p.aK.map aY.enc))],.box [.d (.s []),.bF []],.box [.d (.s []),.bI (0,3) (T 3)],.tok 2 (T (3+p.aG.length+p.au.length+p.aD.length+i)),.box [.d (.s []),.bI (0,3) (T (3+p.aG.length+p.au.length+p.aD.length+i))]]::S)
  (fun i=>i<=p.aK.length) (fun i=>p.aK.length-i) 0 rfl rfl (Nat.zero_le _) ?_
 intro i hi;have hl:=gM (3+p.aG.length+p.au.length+p.aD.length+i);refine W1 ?_;refine S0 (fun hb h=>?_) fun hb h=>?_
 ·have hi':i<p.aK.length:=by omega
  have hm:=List.getElem_mem hi';have hcz:=dz (List.mem_map_of_mem (f:=aY.enc) hm);have yT:p.aK[i].sz<=aP (p.aK.map aY.enc):=hcz;have hs:=hTs _ _ (g4 i hi');have hc:aF prog 133 [p.aK[i].v] (.agg [.d (.s (IY p.aK[i]).aQ),.d (.sl ((IY p.aK[i]).aj.map ah.enc))]):=Tk p.aK[i] (by omega);refine W3 ?_;refine bD hc ?_;refine W1 ?_;refine W3 ?_;rw[hs];exact bT 5 (by decide) (i+1) (by omega) rfl rfl rfl rfl (by omega)
 have hi':i=p.aK.length:=by omega
 subst hi';clear hi hl h;have hps:=TG hv
 have hq:∀j,PL[3+j]? =(ow p)[j]? :=fun j=>by
  rw[zy,List.getElem?_append_right (by simp[eF])];congr 1;simp[eF]
 rw[hTe]
 refine aZ (ι:=Nat) zmx rfl [2,3,8] (fun i=>[.c (.ptr (0,1) 0),.c (.ptr (0,4) 0),.c (.d (.i .i64 ((3+i:Nat):Int)))])
  (fun i=>[.box [.d (.s p.fName),.d (.sl (p.eH.map encS)),.d (.sl (p.aG.map bJ.enc)),.d (.sl (p.au.map aX.enc)),.d (.sl (p.aD.map aS.enc)),.d (.sl (p.aK.map aY.enc))],.box [.d (.s []),.bF []],.box [.d (.s []),.bI (0,3) (T 3)],.tok 2 (PL.map ah.enc),.box [.d (.s []),.bI (0,3) (PL.map ah.enc)]]::S)
  (fun i=>3+i<=PL.length/\∀j (hj:3+j<PL.length),j<i->PL[3+j].aj≠[]) (fun i=>PL.length-i) 0 rfl rfl ⟨by omega,fun j hj h=>by omega⟩ ?_
 rintro i ⟨hi,hj⟩;refine W1 ?_;refine S0 (fun hb h=>?_) fun hb h=>?_
 ·have hi':3+i<PL.length:=by omega
  refine S1 fun hb h=>?_
  exact dB (i+1) (by omega) rfl rfl ⟨by omega,fun j hj' hlt=>by
   by_cases e:j=i
   ·subst e;exact fun hn=>h (by rw[hn];rfl)
   ·exact hj j hj' (by omega)⟩
 ·exact absurd (fun x hx=>by
   have hm:uO x∈ow p:=by rw[hps];exact List.mem_map_of_mem hx
   obtain⟨j,hj1,hj2⟩:=List.getElem_of_mem hm
   have hx2:PL[3+j]? =some (uO x):=by rw[hq j,List.getElem?_eq_getElem hj1,hj2]
   obtain⟨hb,hg⟩:=List.getElem?_eq_some_iff.1 hx2;have h5:=hj j hb (by omega);rw[hg] at h5
   cases uH:dV x with
   |true=>rfl
   |false=>exact absurd (by rw[uO,if_neg (by rw[uH];decide)];rfl) h5) hall
theorem acI(x:aU)(hsz:x.sz<=1048576):aF prog 52 [x.v] (qB x).v:=by
 unfold qB
 cases hv:validPkg x with
 |false=>
  rw[Bool.false_and,vv];refine aF.less (fun S=> ?_) (AV [] []);refine zcx [.cell 2 37] func52 ntmps52 ?_;refine W1 ?_;refine bD (wI x (by omega)) ?_;simp -implicitDefEqProofs (disch:=omega) only[go_sem,hv]
 |true=>
  rw[Bool.true_and]
  cases ha:(fE x).all dV with
  |true=>exact aje x hv hsz (List.all_eq_true.1 ha)
  |false=>
   rw[vv];refine aF.less (ajf x hv hsz fun h=> ?_) (AV [] []);rw[List.all_eq_true.2 h] at ha;cases ha
end Go.Ab