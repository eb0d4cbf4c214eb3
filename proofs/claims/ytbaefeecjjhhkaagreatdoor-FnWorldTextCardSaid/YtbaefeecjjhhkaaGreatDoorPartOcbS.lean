/-
  SEVERAL TEXTS IN ONE (merged by program): contracts and models, each with its own heading.
-/
import Derived.Test.YtbaefeecjjhhkaaGreatDoorPartOcbO
import Derived.Test.YtbaefeecjjhhkaaGreatDoorPartOcbQ
set_option maxHeartbeats 8000000
open Go.Proofs Go.Proofs.Tryz
set_option linter.unusedSimpArgs false
set_option linter.unusedVariables false
set_option maxRecDepth 4000
namespace Go.Ab
def gN(p:aJ):List (List UInt8):=p.aL.map bE.fName
def jk(p:aJ):List (List UInt8):=p.au.map aU.fName
def iH(ds:List aU):List (List UInt8):=ds.flatMap fun d=>d.aD.map bC.fName
def fnNames(p:aJ):List (List UInt8):=p.aO.map aV.fName
def zY(ps:List aJ):List (List UInt8):=ps.flatMap gN
def zZ(ps:List aJ):List (List UInt8):=ps.flatMap jk
def z8(ps:List aJ):List (List UInt8):=ps.flatMap fun p=>iH p.au
def Aa(ps:List aJ):List (List UInt8):=ps.flatMap fnNames
noncomputable def nJ(ps:List aJ):Bool:=dec (zY ps).Nodup&&(dec (zZ ps).Nodup&&(dec (z8 ps).Nodup&&dec (Aa ps).Nodup))
theorem zf{α β:Type}(f:α->List β){xs:List α}{i:Nat}(hi:i<xs.length):(xs.take (i+1)).flatMap f=(xs.take i).flatMap f++f xs[i]:=by
 rw[List.take_succ_eq_append_getElem hi,List.flatMap_append]
 simp
theorem vN{α β:Type}(f:α->List β)(g:α->List D)(h:∀x,(f x).length<=dz (g x)):∀xs:List α,(xs.flatMap f).length<=bf (xs.map g)
 |[]=>by simp[bf]
 |x::xs=>by
  have h1:=h x;have h2:=vN f g h xs;rw[List.flatMap_cons,List.length_append,List.map_cons,bf];omega
theorem ako(ds:List aU):(iH ds).length<=bf (ds.map aU.enc):=vN _ _ (fun d=>by
 rw[List.length_map];simp only[aU.aQ,dz,bW,D.sz,List.length_map]
 omega) ds
theorem XY(ps:List aJ):(zY ps).length<=bf (ps.map aJ.enc)/\(zZ ps).length<=bf (ps.map aJ.enc)/\(z8 ps).length<=bf (ps.map aJ.enc)/\(Aa ps).length<=bf (ps.map aJ.enc):=by
 refine⟨vN _ _ (fun p=> ?_) ps,vN _ _ (fun p=> ?_) ps,vN _ _ (fun p=> ?_) ps,vN _ _ (fun p=> ?_) ps⟩
 ·simp only[gN,aJ.aQ,dz,bW,D.sz,List.length_map];omega
 ·simp only[jk,aJ.aQ,dz,bW,D.sz,List.length_map];omega
 ·have:=ako p.au;simp only[aJ.aQ,dz,bW,D.sz,List.length_map];omega
 ·simp only[fnNames,aJ.aQ,dz,bW,D.sz,List.length_map];omega
theorem aJ.bounds{x:aJ}(h:x.sz<=4194304):x.fName.length<=4194304/\x.fJ.length<=4194304/\x.aL.length<=4194304/\x.au.length<=4194304/\x.aI.length<=4194304/\x.aO.length<=4194304/\(iH x.au).length<=4194304:=by
 have:=ako x.au;simp only[aJ.sz,aJ.aQ,dz,bW,D.sz,List.length_map] at h;omega
theorem FH(xs:List (List UInt8))(x:List UInt8):xs.map encS++[[D.s x]]=(xs++[x]).map encS:=by simp[encS]
theorem ZF(p:aJ)(hsz:p.sz<=4194304):aC prog 119 [p.v] (.dN [(false,[.d (.sl ((gN p).map encS))]),(false,[.d (.sl ((jk p).map encS))]),(false,[.d (.sl ((iH p.au).map encS))]),(false,[.d (.sl ((fnNames p).map encS))])]):=fun S=>by
 have hb0:=aJ.bounds hsz;refine zcx [.tmp 2,.tmp 3,.tmp 4,.tmp 5] func119 ntmps119 ?_;refine W1 ?_;refine W3 ?_;refine lQ 6 1 [] rfl (by simp) ?_;refine lQ 7 1 [] rfl (by simp) ?_;refine lQ 8 1 [] rfl (by simp) ?_;refine lQ 9 1 [] rfl (by simp) ?_
 refine aR (ι:=Nat×List (List UInt8)) zmx rfl [1,6,7,8,9,10] (fun y=>[.c (.ptr (0,0) 0),.c (.bB (0,1) (y.2.map encS)),.c (.bB (0,2) []),.c (.bB (0,3) []),.c (.bB (0,4) []),.c (.d (.i .i64 y.1))]) (fun y=>[.box (p.enc.map .d),.tok 1 (y.2.map encS),.tok 1 [],.tok 1 [],.tok 1 []]::S)
  (fun y=>y.1<=p.aL.length/\y.2=(gN p).take y.1) (fun y=>p.aL.length-y.1) (0,[]) rfl ?_ ⟨Nat.zero_le _,rfl⟩ ?_
 ·exact Z1
 rintro⟨i,a⟩ ⟨p1,p2⟩;simp only at p1 p2
 have pl:a.length<=p.aL.length:=by rw[p2];simp[gN];omega
 refine W1 ?_;refine S0 (fun hb h=>?_) fun hb h=>?_
 ·have hi:i<p.aL.length:=by omega
  refine W3 ?_;rw[FH];exact bV (i+1,a++[p.aL[i].fName]) (by simp only;omega) rfl rfl ⟨by simp only;omega,by simp only;rw[p2,iU (by simpa [gN] using hi)];simp[gN]⟩
 have ha:a=gN p:=by rw[p2,List.take_of_length_le (by simp[gN];omega)]
 clear p1 p2 pl hb h;subst ha
 refine aR (ι:=Nat×List (List UInt8)×List (List UInt8)) zmx rfl [1,6,7,8,9,11] (fun y=>[.c (.ptr (0,0) 0),.c (.bB (0,1) ((gN p).map encS)),.c (.bB (0,2) (y.2.1.map encS)),.c (.bB (0,3) (y.2.2.map encS)),.c (.bB (0,4) []),.c (.d (.i .i64 y.1))]) (fun y=>[.box (p.enc.map .d),.tok 1 ((gN p).map encS),.tok 1 (y.2.1.map encS),.tok 1 (y.2.2.map encS),.tok 1 []]::S)
  (fun y=>y.1<=p.au.length/\y.2.1=(jk p).take y.1/\y.2.2=iH (p.au.take y.1)) (fun y=>p.au.length-y.1) (0,[],[]) rfl ?_ ⟨Nat.zero_le _,rfl,rfl⟩ ?_
 ·exact Z1
 rintro⟨i,b,c⟩ ⟨p1,p2,p3⟩;simp only at p1 p2 p3
 have pl:b.length<=p.au.length:=by rw[p2];simp[jk];omega
 refine W1 ?_;refine S0 (fun hb h=>?_) fun hb h=>?_
 ·have hi:i<p.au.length:=by omega
  have e3:iH (p.au.take (i+1))=c++p.au[i].aD.map bC.fName:=by rw[p3];exact zf _ hi
  have hcl:(iH (p.au.take (i+1))).length<=4194304:=by
   have h1:(iH (p.au.take (i+1))).length<=(iH p.au).length:=by
    conv=>rhs;rw[<-List.take_append_drop (i+1) p.au]
    unfold iH;rw[List.flatMap_append,List.length_append];omega
   omega
  rw[e3,List.length_append,List.length_map] at hcl;refine W3 ?_;rw[FH]
  refine aR (ι:=Nat×List (List UInt8)) zmx rfl [1,6,7,8,9,11,12] (fun y=>[.c (.ptr (0,0) 0),.c (.bB (0,1) ((gN p).map encS)),.c (.bB (0,2) ((b++[p.au[i].fName]).map encS)),.c (.bB (0,3) (y.2.map encS)),.c (.bB (0,4) []),.c (.d (.i .i64 i)),.c (.d (.i .i64 y.1))]) (fun y=>[.box (p.enc.map .d),.tok 1 ((gN p).map encS),.tok 1 ((b++[p.au[i].fName]).map encS),.tok 1 (y.2.map encS),.tok 1 []]::S)
   (fun y=>y.1<=p.au[i].aD.length/\y.2=c++(p.au[i].aD.map bC.fName).take y.1) (fun y=>p.au[i].aD.length-y.1) (0,c) rfl ?_ ⟨Nat.zero_le _,by simp⟩ ?_
  ·exact Z1
  rintro⟨k,e⟩ ⟨q1,q2⟩;simp only at q1 q2
  have pl2:e.length<=4194304:=by rw[q2];simp;omega
  refine W1 ?_;refine W3 ?_;refine S0 (fun hb h=>?_) fun hb h=>?_
  ·have hk:k<p.au[i].aD.length:=by omega
   refine W3 ?_;rw[FH];exact bV (k+1,e++[p.au[i].aD[k].fName]) (by simp only;omega) rfl rfl ⟨by simp only;omega,by simp only;rw[q2,iU (by simpa using hk)];simp⟩
  ·have hk:k=p.au[i].aD.length:=by omega
   have he:e=c++p.au[i].aD.map bC.fName:=by rw[q2,List.take_of_length_le (by simp;omega)]
   exact bV (i+1,b++[p.au[i].fName],e) (by simp only;omega) rfl rfl ⟨by simp only;omega,by simp only;rw[p2,iU (by simpa [jk] using hi)];simp[jk],by simp only;rw[e3,he]⟩
 have hb1:b=jk p:=by rw[p2,List.take_of_length_le (by simp[jk];omega)]
 have hc1:c=iH p.au:=by rw[p3,List.take_of_length_le (by omega)]
 clear p1 p2 p3 pl hb h;subst hb1;subst hc1
 refine aR (ι:=Nat×List (List UInt8)) zmx rfl [1,6,7,8,9,13] (fun y=>[.c (.ptr (0,0) 0),.c (.bB (0,1) ((gN p).map encS)),.c (.bB (0,2) ((jk p).map encS)),.c (.bB (0,3) ((iH p.au).map encS)),.c (.bB (0,4) (y.2.map encS)),.c (.d (.i .i64 y.1))]) (fun y=>[.box (p.enc.map .d),.tok 1 ((gN p).map encS),.tok 1 ((jk p).map encS),.tok 1 ((iH p.au).map encS),.tok 1 (y.2.map encS)]::S)
  (fun y=>y.1<=p.aO.length/\y.2=(fnNames p).take y.1) (fun y=>p.aO.length-y.1) (0,[]) rfl ?_ ⟨Nat.zero_le _,rfl⟩ ?_
 ·exact Z1
 rintro⟨i,a⟩ ⟨p1,p2⟩;simp only at p1 p2
 have pl:a.length<=p.aO.length:=by rw[p2];simp[fnNames];omega
 refine W1 ?_;refine S0 (fun hb h=>?_) fun hb h=>?_
 ·have hi:i<p.aO.length:=by omega
  refine W3 ?_;rw[FH];exact bV (i+1,a++[p.aO[i].fName]) (by simp only;omega) rfl rfl ⟨by simp only;omega,by simp only;rw[p2,iU (by simpa [fnNames] using hi)];simp[fnNames]⟩
 ·have ha:a=fnNames p:=by rw[p2,List.take_of_length_le (by simp[fnNames];omega)]
  rw[ha]
def CO(a b c d:List (List UInt8))(rest:List Ab.Obj)(S:Store):Store:=
 (.box [.bn [],.bn [],.bn [],.bn []]:: .box [.bB (0,2) (a.map encS),.bB (0,3) (b.map encS),.bB (0,4) (c.map encS),.bB (0,5) (d.map encS)]:: .tok 1 (a.map encS):: .tok 1 (b.map encS):: .tok 1 (c.map encS):: .tok 1 (d.map encS)::rest)::S
theorem ZG(ps:List aJ)(hl:ps.length<=4194304)(hz:bf (ps.map aJ.enc)<=4194304):aC prog 163 [.c (.d (.sl (ps.map aJ.enc)))] (.agg [.d (.sl ((zY ps).map encS)),.d (.sl ((zZ ps).map encS)),.d (.sl ((z8 ps).map encS)),.d (.sl ((Aa ps).map encS))]):=fun S=>by
 have hn:=XY ps;refine zcx [.cell 2 187] func163 ntmps163 ?_;refine W1 ?_;refine W3 ?_;refine su 1 0 1 [] [.bn [],.bn [],.bn [],.bn []] rfl rfl (by simp) ?_;refine su 1 1 1 [] [.bB (0,2) [],.bn [],.bn [],.bn []] rfl rfl (by simp) ?_;refine su 1 2 1 [] [.bB (0,2) [],.bB (0,3) [],.bn [],.bn []] rfl rfl (by simp) ?_;refine su 1 3 1 [] [.bB (0,2) [],.bB (0,3) [],.bB (0,4) [],.bn []] rfl rfl (by simp) ?_
 refine aR (ι:=Nat×List (List UInt8)×List (List UInt8)×List (List UInt8)×List (List UInt8)) zmx rfl [2,3,15,16,17] (fun y=>[.c (.ptr (0,0) 0),.c (.ptr (0,1) 0),.c (.d (.sl (ps.map aJ.enc))),.c (.d (.i .i64 ps.length)),.c (.d (.i .i64 y.1))])
  (fun y=>[.box [.bn [],.bn [],.bn [],.bn []],.box [.bB (0,2) (y.2.1.map encS),.bB (0,3) (y.2.2.1.map encS),.bB (0,4) (y.2.2.2.1.map encS),.bB (0,5) (y.2.2.2.2.map encS)],.tok 1 (y.2.1.map encS),.tok 1 (y.2.2.1.map encS),.tok 1 (y.2.2.2.1.map encS),.tok 1 (y.2.2.2.2.map encS)]::S)
  (fun y=>y.1<=ps.length/\y.2.1=zY (ps.take y.1)/\y.2.2.1=zZ (ps.take y.1)/\y.2.2.2.1=z8 (ps.take y.1)/\y.2.2.2.2=Aa (ps.take y.1)) (fun y=>ps.length-y.1) (0,[],[],[],[]) rfl rfl ⟨Nat.zero_le _,rfl,rfl,rfl,rfl⟩ ?_
 rintro⟨i,a,b,c,d⟩ ⟨p1,p2,p3,p4,p5⟩;simp only at p1 p2 p3 p4 p5;refine W1 ?_;refine S0 (fun hb h=>?_) fun hb h=>?_
 ·have hi:i<ps.length:=by omega
  have hp:ps[i].sz<=4194304:=by
   have hx:ps[i].sz<=bf (ps.map aJ.enc):=cB (List.mem_map_of_mem (List.getElem_mem hi));omega
  refine W3 ?_
  have sub:∀(f:aJ->List (List UInt8)),((ps.take (i+1)).flatMap f).length<=(ps.flatMap f).length:=fun f=>by
   conv=>rhs;rw[<-List.take_append_drop (i+1) ps]
   rw[List.flatMap_append,List.length_append];omega
  have e2:zY (ps.take (i+1))=a++gN ps[i]:=by rw[p2];exact zf _ hi
  have e3:zZ (ps.take (i+1))=b++jk ps[i]:=by rw[p3];exact zf _ hi
  have e4:z8 (ps.take (i+1))=c++iH ps[i].au:=by rw[p4];exact zf _ hi
  have e5:Aa (ps.take (i+1))=d++fnNames ps[i]:=by rw[p5];exact zf _ hi
  have l2:(a++gN ps[i]).length<=4194304:=by rw[<-e2];have:=sub gN;unfold zY at *;omega
  have l3:(b++jk ps[i]).length<=4194304:=by rw[<-e3];have:=sub jk;unfold zZ at *;omega
  have l4:(c++iH ps[i].au).length<=4194304:=by rw[<-e4];have:=sub (fun p=>iH p.au);unfold z8 at *;omega
  have l5:(d++fnNames ps[i]).length<=4194304:=by rw[<-e5];have:=sub fnNames;unfold Aa at *;omega
  have hbp:=aJ.bounds hp;rw[List.length_append] at l2 l3 l4 l5
  refine aR (ι:=Nat×List (List UInt8)) zmx rfl [2,3,5,15,16,17,22,23,24] (fun y=>[.c (.ptr (0,0) 0),.c (.ptr (0,1) 0),.c (.ptr (0,6) 0),.c (.d (.sl (ps.map aJ.enc))),.c (.d (.i .i64 ps.length)),.c (.d (.i .i64 i)),.c (.d (.sl (ps[i].aL.map bE.enc))),.c (.d (.i .i64 ps[i].aL.length)),.c (.d (.i .i64 y.1))]) (fun y=>CO y.2 b c d [.box (ps[i].enc.map .d)] S)
   (fun y=>y.1<=ps[i].aL.length/\y.2=a++(gN ps[i]).take y.1) (fun y=>ps[i].aL.length-y.1) (0,a) rfl ?_ ⟨Nat.zero_le _,by simp⟩ ?_
  ·unfold CO;exact Z1
  rintro⟨k,a'⟩ ⟨q1,q2⟩;simp only at q1 q2
  have ql:a'.length<=4194304:=by rw[q2];simp[gN] at *;omega
  unfold CO;refine W1 ?_;refine S0 (fun hb h=>?_) fun hb h=>?_
  ·have hk:k<ps[i].aL.length:=by omega
   have ql':a'.length+1<=4194304:=by rw[q2];simp[gN] at *;omega
   refine W3 ?_;rw[FH];exact bL 7 (by decide) (k+1,a'++[ps[i].aL[k].fName]) (by simp only;omega) rfl rfl rfl rfl ⟨by simp only;omega,by simp only;rw[q2,iU (by simpa [gN] using hk)];simp[gN]⟩
  have ha:a'=a++gN ps[i]:=by rw[q2,List.take_of_length_le (by simp[gN];omega)]
  clear q1 q2 ql hb h;subst ha
  refine aR (ι:=Nat×List (List UInt8)×List (List UInt8)) zmx rfl [2,3,5,15,16,17,37,38,39] (fun y=>[.c (.ptr (0,0) 0),.c (.ptr (0,1) 0),.c (.ptr (0,6) 0),.c (.d (.sl (ps.map aJ.enc))),.c (.d (.i .i64 ps.length)),.c (.d (.i .i64 i)),.c (.d (.sl (ps[i].au.map aU.enc))),.c (.d (.i .i64 ps[i].au.length)),.c (.d (.i .i64 y.1))]) (fun y=>CO (a++gN ps[i]) y.2.1 y.2.2 d [.box (ps[i].enc.map .d)] S)
   (fun y=>y.1<=ps[i].au.length/\y.2.1=b++(jk ps[i]).take y.1/\y.2.2=c++iH (ps[i].au.take y.1)) (fun y=>ps[i].au.length-y.1) (0,b,c) rfl ?_ ⟨Nat.zero_le _,by simp,by simp[iH]⟩ ?_
  ·unfold CO;exact Z1
  rintro⟨k',b',c'⟩ ⟨q1,q2,q3⟩;simp only at q1 q2 q3;unfold CO;refine W1 ?_;refine S0 (fun hb h=>?_) fun hb h=>?_
  ·have hk:k'<ps[i].au.length:=by omega
   have e6:iH (ps[i].au.take (k'+1))=iH (ps[i].au.take k')++ps[i].au[k'].aD.map bC.fName:=zf _ hk
   have hcl:(iH (ps[i].au.take (k'+1))).length<=(iH ps[i].au).length:=by
    conv=>rhs;rw[<-List.take_append_drop (k'+1) ps[i].au]
    unfold iH;rw[List.flatMap_append,List.length_append];omega
   have ql':b'.length+1<=4194304:=by rw[q2];simp[jk] at *;omega
   have qc:c'.length+ps[i].au[k'].aD.length<=4194304:=by
    rw[e6,List.length_append,List.length_map] at hcl;rw[q3,List.length_append];omega
   refine W3 ?_;rw[FH]
   refine aR (ι:=Nat×List (List UInt8)) zmx rfl [2,3,5,15,16,17,37,38,39,51,52,53] (fun y=>[.c (.ptr (0,0) 0),.c (.ptr (0,1) 0),.c (.ptr (0,6) 0),.c (.d (.sl (ps.map aJ.enc))),.c (.d (.i .i64 ps.length)),.c (.d (.i .i64 i)),.c (.d (.sl (ps[i].au.map aU.enc))),.c (.d (.i .i64 ps[i].au.length)),.c (.d (.i .i64 k')),.c (.d (.sl (ps[i].au[k'].aD.map bC.enc))),.c (.d (.i .i64 ps[i].au[k'].aD.length)),.c (.d (.i .i64 y.1))]) (fun y=>CO (a++gN ps[i]) (b'++[ps[i].au[k'].fName]) y.2 d [.box (ps[i].enc.map .d),.box (ps[i].au[k'].enc.map .d)] S)
    (fun y=>y.1<=ps[i].au[k'].aD.length/\y.2=c'++(ps[i].au[k'].aD.map bC.fName).take y.1) (fun y=>ps[i].au[k'].aD.length-y.1) (0,c') rfl ?_ ⟨Nat.zero_le _,by simp⟩ ?_
   ·unfold CO;exact Z1
   rintro⟨m,c''⟩ ⟨r1,r2⟩;simp only at r1 r2
   have rl:c''.length<=4194304:=by rw[r2];simp;omega
   unfold CO;refine W1 ?_;refine S0 (fun hb h=>?_) fun hb h=>?_
   ·have hm:m<ps[i].au[k'].aD.length:=by omega
    have rl':c''.length+1<=4194304:=by rw[r2];simp;omega
    refine W3 ?_;rw[FH];exact bL 8 (by decide) (m+1,c''++[ps[i].au[k'].aD[m].fName]) (by simp only;omega) rfl rfl rfl rfl ⟨by simp only;omega,by simp only;rw[r2,iU (by simpa using hm)];simp⟩
   ·have hm:m=ps[i].au[k'].aD.length:=by omega
    have hc:c''=c'++ps[i].au[k'].aD.map bC.fName:=by rw[r2,List.take_of_length_le (by simp;omega)]
    exact bL 7 (by decide) (k'+1,b'++[ps[i].au[k'].fName],c'') (by simp only;omega) rfl rfl rfl rfl ⟨by simp only;omega,by simp only;rw[q2,iU (by simpa [jk] using hk)];simp[jk],by simp only;rw[hc,e6,q3,List.append_assoc]⟩
  have hb':b'=b++jk ps[i]:=by rw[q2,List.take_of_length_le (by simp[jk];omega)]
  have hc':c'=c++iH ps[i].au:=by rw[q3,List.take_of_length_le (by omega)]
  clear q1 q2 q3 hb h;subst hb';subst hc'
  refine aR (ι:=Nat×List (List UInt8)) zmx rfl [2,3,5,15,16,17,67,68,69] (fun y=>[.c (.ptr (0,0) 0),.c (.ptr (0,1) 0),.c (.ptr (0,6) 0),.c (.d (.sl (ps.map aJ.enc))),.c (.d (.i .i64 ps.length)),.c (.d (.i .i64 i)),.c (.d (.sl (ps[i].aO.map aV.enc))),.c (.d (.i .i64 ps[i].aO.length)),.c (.d (.i .i64 y.1))]) (fun y=>CO (a++gN ps[i]) (b++jk ps[i]) (c++iH ps[i].au) y.2 [.box (ps[i].enc.map .d)] S)
   (fun y=>y.1<=ps[i].aO.length/\y.2=d++(fnNames ps[i]).take y.1) (fun y=>ps[i].aO.length-y.1) (0,d) rfl ?_ ⟨Nat.zero_le _,by simp⟩ ?_
  ·unfold CO;exact Z1
  rintro⟨k4,d'⟩ ⟨q1,q2⟩;simp only at q1 q2
  have ql:d'.length<=4194304:=by rw[q2];simp[fnNames] at *;omega
  unfold CO;refine W1 ?_;refine S0 (fun hb h=>?_) fun hb h=>?_
  ·have hk:k4<ps[i].aO.length:=by omega
   have ql':d'.length+1<=4194304:=by rw[q2];simp[fnNames] at *;omega
   refine W3 ?_;rw[FH];exact bL 7 (by decide) (k4+1,d'++[ps[i].aO[k4].fName]) (by simp only;omega) rfl rfl rfl rfl ⟨by simp only;omega,by simp only;rw[q2,iU (by simpa [fnNames] using hk)];simp[fnNames]⟩
  ·have hd:d'=d++fnNames ps[i]:=by rw[q2,List.take_of_length_le (by simp[fnNames];omega)]
   exact bL 6 (by decide) (i+1,a++gN ps[i],b++jk ps[i],c++iH ps[i].au,d') (by simp only;omega) rfl rfl rfl rfl ⟨by simp only;omega,e2.symm,e3.symm,e4.symm,by simp only;rw[hd,e5]⟩
 ·have hi:i=ps.length:=by omega
  rw[List.take_of_length_le (by omega)] at p2 p3 p4 p5;rw[p2,p3,p4,p5]
theorem XZ(ps:List aJ)(hl:ps.length<=4194304)(hz:bf (ps.map aJ.enc)<=4194304):aC prog 106 [.c (.d (.sl (ps.map aJ.enc)))] (.c (.d (.b (nJ ps)))):=fun S=>by
 have hn:=XY ps;refine zcx [.tmp 2] func106 ntmps106 ?_;refine W1 ?_;refine C2 (ZG ps hl hz) ?_
 refine aR (ι:=Int) zmx rfl [6,7] (fun i=>[.agg [.d (.sl ((zY ps).map encS)),.d (.sl ((zZ ps).map encS)),.d (.sl ((z8 ps).map encS)),.d (.sl ((Aa ps).map encS))],.c (.d (.i .i64 i))]) (fun _=>[]::S)
  (fun i=>(0<=i/\i<=4)/\(1<=i->(zY ps).Nodup)/\(2<=i->(zZ ps).Nodup)/\(3<=i->(z8 ps).Nodup)/\(4<=i->(Aa ps).Nodup)) (fun i=>(4-i).toNat) 0 rfl rfl ⟨⟨by omega,by omega⟩,by omega,by omega,by omega,by omega⟩ ?_
 rintro i ⟨p0,p1,p2,p3,p4⟩
 have hi:i=0\/i=1\/i=2\/i=3\/i=4:=by omega
 rcases hi with rfl|rfl|rfl|rfl|rfl
 ·refine W1 ?_;refine W3 ?_;refine C2 (qm (zY ps) (by omega)) ?_;refine S0 (fun hb h=>?_) fun hb h=>?_
  ·exact aH (by unfold nJ;rw[aK h];rfl)
  ·exact bV 1 (by decide) rfl rfl ⟨⟨by omega,by omega⟩,fun _=>h,by omega,by omega,by omega⟩
 ·refine W1 ?_;refine W3 ?_;refine C2 (qm (zZ ps) (by omega)) ?_;refine S0 (fun hb h=>?_) fun hb h=>?_
  ·exact aH (by unfold nJ;rw[aK h];simp)
  ·exact bV 2 (by decide) rfl rfl ⟨⟨by omega,by omega⟩,fun _=>p1 (by omega),fun _=>h,by omega,by omega⟩
 ·refine W1 ?_;refine W3 ?_;refine C2 (qm (z8 ps) (by omega)) ?_;refine S0 (fun hb h=>?_) fun hb h=>?_
  ·exact aH (by unfold nJ;rw[aK h];simp)
  ·exact bV 3 (by decide) rfl rfl ⟨⟨by omega,by omega⟩,fun _=>p1 (by omega),fun _=>p2 (by omega),fun _=>h,by omega⟩
 ·refine W1 ?_;refine W3 ?_;refine C2 (qm (Aa ps) (by omega)) ?_;refine S0 (fun hb h=>?_) fun hb h=>?_
  ·exact aH (by unfold nJ;rw[aK h];simp)
  ·exact bV 4 (by decide) rfl rfl ⟨⟨by omega,by omega⟩,fun _=>p1 (by omega),fun _=>p2 (by omega),fun _=>p3 (by omega),fun _=>h⟩
 ·refine W1 ?_;exact aH (by unfold nJ;rw[bD (p1 (by omega)),bD (p2 (by omega)),bD (p3 (by omega)),bD (p4 (by omega))];rfl)
noncomputable def sW(p:aJ):Bool:=p.aL.all dM&&(p.au.all fD&&(p.aI.all eX&&p.aO.all jL))
noncomputable def rY(p:aJ):Bool:=validName p.fName&&(dec (p.fJ.length<=5)&&(iN p.fJ&&(!dec (p.fName∈p.fJ)&&dec (p.aL.length+p.au.length+p.aI.length+p.aO.length<=24))))
noncomputable def validPkg(p:aJ):Bool:=rY p&&(nJ [p]&&sW p)
theorem aJ.sum(x:aJ):x.fName.length+(x.fJ.length+bf (x.fJ.map encS))+(x.aL.length+bf (x.aL.map bE.enc))+(x.au.length+bf (x.au.map aU.enc))+(x.aI.length+bf (x.aI.map aT.enc))+(x.aO.length+bf (x.aO.map aV.enc))<=x.sz:=by
 simp only[aJ.sz,aJ.aQ,dz,bW,D.sz,List.length_map];omega
theorem xg{α:Type}{f:α->Bool}{xs:List α}{i:Nat}(hi:i<xs.length):(xs.drop i).all f=(f xs[i]&&(xs.drop (i+1)).all f):=by
 rw[List.drop_eq_getElem_cons hi,List.all_cons]
theorem Rz(xs:List (List UInt8))(s:List UInt8)(hl:xs.length<=1073741824):aC prog 105 [.c (.d (.sl (xs.map encS))),.c (.d (.s s))] (.c (.d (.i .i64 (xR xs s)))):=fun S=>by
 refine zcx [.tmp 4] func105 ntmps105 ?_;refine W1 ?_;exact C4 (Sq xs s hl)
theorem vX(p:aJ)(hsz:p.sz<=4194304):aC prog 57 [p.v] (.c (.d (.b (validPkg p)))):=fun S=>by
 have hs:=aJ.sum p
 have hV:∀s∈p.fJ,s.length<=4194304:=fun s h=>by have:=sD h;omega
 have no:rY p=false->V.c (.d (.b false))=V.c (.d (.b (validPkg p))):=fun h=>aH (by unfold validPkg;rw[h];rfl);have hu:=XZ [p] (by simp) (by simp[bf];have:dz p.enc=p.sz:=rfl;omega);have hix:decide (xR p.fJ p.fName>=0)=dec (p.fName∈p.fJ):=OE;refine zcx [.tmp 2] func57 ntmps57 ?_;refine W1 ?_;refine C2 (iI p.fName (by omega)) ?_;refine S0 (fun hb h=>?_) fun hb h=>?_
 ·exact no (by unfold rY;rw[h];rfl)
 have k1:=h;refine S0 (fun hb h=>?_) fun hb h=>?_
 ·exact no (by unfold rY;rw[aK (show ¬p.fJ.length<=5 by omega)];simp)
 have k2:=h;refine W3 ?_;refine C2 (pG p.fJ (by omega) hV) ?_;refine S0 (fun hb h=>?_) fun hb h=>?_
 ·exact no (by unfold rY;rw[h];simp)
 have k3:=h;refine W3 ?_;refine C1 (Rz p.fJ p.fName (by omega)) ?_;rw[show decide (0<=xR p.fJ p.fName)=dec (p.fName∈p.fJ) from hix];refine S0 (fun hb h=>?_) fun hb h=>?_
 ·exact no (by unfold rY;rw[bD h];simp)
 have k4:=h;refine S0 (fun hb h=>?_) fun hb h=>?_
 ·exact no (by unfold rY;rw[aK (show ¬p.aL.length+p.au.length+p.aI.length+p.aO.length<=24 by omega)];simp)
 have hh:rY p=true:=by unfold rY;rw[k1,k3,bD (show p.fJ.length<=5 by omega),aK k4,bD (by omega)];rfl
 simp only[List.map_cons,List.map_nil] at hu;refine W3 ?_;refine aX hu ?_;refine W1 ?_;clear hu hix no k1 k2 k3 k4
 have fin:validPkg p=((((nJ [p]&&p.aL.all dM)&&p.au.all fD)&&p.aI.all eX)&&p.aO.all jL):=by unfold validPkg sW;rw[hh];simp[Bool.and_assoc]
 generalize nJ [p]=b0 at fin ⊢
 refine aR (ι:=Nat×Bool) zmx rfl [1,3,56,57,58] (fun y=>[.c (.ptr (0,0) 0),.c (.d (.b y.2)),.c (.d (.sl (p.aL.map bE.enc))),.c (.d (.i .i64 p.aL.length)),.c (.d (.i .i64 y.1))]) (fun _=>[.box (p.enc.map .d)]::S)
  (fun y=>y.1<=p.aL.length/\(y.2&&(p.aL.drop y.1).all dM)=(b0&&p.aL.all dM)) (fun y=>p.aL.length-y.1) (0,b0) rfl ?_ ⟨Nat.zero_le _,rfl⟩ ?_
 ·exact Z1
 rintro⟨i,b⟩ ⟨p1,p2⟩;simp only at p1 p2;refine W1 ?_;refine S0 (fun hb h=>?_) fun hb h=>?_
 ·have hi:i<p.aL.length:=by omega
  have hx:p.aL[i].sz<=bf (p.aL.map bE.enc):=cB (List.mem_map_of_mem (List.getElem_mem hi));rw[xg hi] at p2;refine W3 ?_;refine S0 (fun hb h=>?_) fun hb h=>?_
  ·have hb1:=h;rw[hb1,Bool.true_and] at p2;refine C2 (C9 p.aL[i] (by omega)) ?_;exact bL 1 (by decide) (i+1,dM p.aL[i]) (by simp only;omega) rfl rfl rfl rfl ⟨by simp only;omega,p2⟩
  ·have hb1:=h;rw[hb1,Bool.false_and] at p2;exact bL 1 (by decide) (i+1,false) (by simp only;omega) rfl rfl rfl rfl ⟨by simp only;omega,p2⟩
 rw[List.drop_of_length_le (by omega),List.all_nil,Bool.and_true] at p2;rw[<-p2] at fin;clear p2 p1 hb h;generalize b=b1 at fin ⊢
 refine aR (ι:=Nat×Bool) zmx rfl [1,3,69,70,71] (fun y=>[.c (.ptr (0,0) 0),.c (.d (.b y.2)),.c (.d (.sl (p.au.map aU.enc))),.c (.d (.i .i64 p.au.length)),.c (.d (.i .i64 y.1))]) (fun _=>[.box (p.enc.map .d)]::S)
  (fun y=>y.1<=p.au.length/\(y.2&&(p.au.drop y.1).all fD)=(b1&&p.au.all fD)) (fun y=>p.au.length-y.1) (0,b1) rfl ?_ ⟨Nat.zero_le _,rfl⟩ ?_
 ·exact Z1
 rintro⟨i,b⟩ ⟨p1,p2⟩;simp only at p1 p2;refine W1 ?_;refine S0 (fun hb h=>?_) fun hb h=>?_
 ·have hi:i<p.au.length:=by omega
  have hx:p.au[i].sz<=bf (p.au.map aU.enc):=cB (List.mem_map_of_mem (List.getElem_mem hi));rw[xg hi] at p2;refine W3 ?_;refine S0 (fun hb h=>?_) fun hb h=>?_
  ·have hb1:=h;rw[hb1,Bool.true_and] at p2;refine C2 (EA p.au[i] (by omega)) ?_;exact bL 1 (by decide) (i+1,fD p.au[i]) (by simp only;omega) rfl rfl rfl rfl ⟨by simp only;omega,p2⟩
  ·have hb1:=h;rw[hb1,Bool.false_and] at p2;exact bL 1 (by decide) (i+1,false) (by simp only;omega) rfl rfl rfl rfl ⟨by simp only;omega,p2⟩
 rw[List.drop_of_length_le (by omega),List.all_nil,Bool.and_true] at p2;rw[<-p2] at fin;clear p2 p1 hb h;generalize b=b2 at fin ⊢
 refine aR (ι:=Nat×Bool) zmx rfl [1,3,82,83,84] (fun y=>[.c (.ptr (0,0) 0),.c (.d (.b y.2)),.c (.d (.sl (p.aI.map aT.enc))),.c (.d (.i .i64 p.aI.length)),.c (.d (.i .i64 y.1))]) (fun _=>[.box (p.enc.map .d)]::S)
  (fun y=>y.1<=p.aI.length/\(y.2&&(p.aI.drop y.1).all eX)=(b2&&p.aI.all eX)) (fun y=>p.aI.length-y.1) (0,b2) rfl ?_ ⟨Nat.zero_le _,rfl⟩ ?_
 ·exact Z1
 rintro⟨i,b⟩ ⟨p1,p2⟩;simp only at p1 p2;refine W1 ?_;refine S0 (fun hb h=>?_) fun hb h=>?_
 ·have hi:i<p.aI.length:=by omega
  have hx:p.aI[i].sz<=bf (p.aI.map aT.enc):=cB (List.mem_map_of_mem (List.getElem_mem hi));rw[xg hi] at p2;refine W3 ?_;refine S0 (fun hb h=>?_) fun hb h=>?_
  ·have hb1:=h;rw[hb1,Bool.true_and] at p2;refine C2 (EM p.aI[i] (by omega)) ?_;exact bL 1 (by decide) (i+1,eX p.aI[i]) (by simp only;omega) rfl rfl rfl rfl ⟨by simp only;omega,p2⟩
  ·have hb1:=h;rw[hb1,Bool.false_and] at p2;exact bL 1 (by decide) (i+1,false) (by simp only;omega) rfl rfl rfl rfl ⟨by simp only;omega,p2⟩
 rw[List.drop_of_length_le (by omega),List.all_nil,Bool.and_true] at p2;rw[<-p2] at fin;clear p2 p1 hb h;generalize b=b3 at fin ⊢
 refine aR (ι:=Nat×Bool) zmx rfl [3,95,96,97] (fun y=>[.c (.d (.b y.2)),.c (.d (.sl (p.aO.map aV.enc))),.c (.d (.i .i64 p.aO.length)),.c (.d (.i .i64 y.1))]) (fun _=>[.box (p.enc.map .d)]::S)
  (fun y=>y.1<=p.aO.length/\(y.2&&(p.aO.drop y.1).all jL)=(b3&&p.aO.all jL)) (fun y=>p.aO.length-y.1) (0,b3) rfl ?_ ⟨Nat.zero_le _,rfl⟩ ?_
 ·exact Z1
 rintro⟨i,b⟩ ⟨p1,p2⟩;simp only at p1 p2;refine W1 ?_;refine S0 (fun hb h=>?_) fun hb h=>?_
 ·have hi:i<p.aO.length:=by omega
  have hx:p.aO[i].sz<=bf (p.aO.map aV.enc):=cB (List.mem_map_of_mem (List.getElem_mem hi));rw[xg hi] at p2;refine W3 ?_;refine S0 (fun hb h=>?_) fun hb h=>?_
  ·have hb1:=h;rw[hb1,Bool.true_and] at p2;refine C2 (GX p.aO[i] (by omega)) ?_;exact bL 1 (by decide) (i+1,jL p.aO[i]) (by simp only;omega) rfl rfl rfl rfl ⟨by simp only;omega,p2⟩
  ·have hb1:=h;rw[hb1,Bool.false_and] at p2;exact bL 1 (by decide) (i+1,false) (by simp only;omega) rfl rfl rfl rfl ⟨by simp only;omega,p2⟩
 rw[List.drop_of_length_le (by omega),List.all_nil,Bool.and_true] at p2;rw[<-p2] at fin;clear p2 p1 hb h;exact aH fin.symm
theorem ZH(p:aJ)(hsz:p.sz<=4194304):aC prog 124 [p.v] (.c (.d (.b (sW p)))):=fun S=>by
 have hs:=aJ.sum p;refine zcx [.tmp 2] func124 ntmps124 ?_;refine W1 ?_
 refine aR (ι:=Nat) zmx rfl [1,3] (fun i=>[.c (.ptr (0,0) 0),.c (.d (.i .i64 i))]) (fun _=>[.box (p.enc.map .d)]::S)
  (fun i=>i<=p.aL.length/\(p.aL.drop i).all dM=p.aL.all dM) (fun i=>p.aL.length-i) 0 rfl ?_ ⟨Nat.zero_le _,rfl⟩ ?_
 ·exact Z1
 rintro i ⟨p1,p2⟩;refine W1 ?_;refine S0 (fun hb h=>?_) fun hb h=>?_
 ·have hi:i<p.aL.length:=by omega
  have hx:p.aL[i].sz<=bf (p.aL.map bE.enc):=cB (List.mem_map_of_mem (List.getElem_mem hi));rw[xg hi] at p2;refine W3 ?_;refine C2 (qL p.aL[i] (by omega)) ?_;refine S0 (fun hb h=>?_) fun hb h=>?_
  ·exact aH (by unfold sW;rw[<-p2,h];simp)
  ·rw[h,Bool.true_and] at p2;exact bV (i+1) (by omega) rfl rfl ⟨by omega,p2⟩
 rw[List.drop_of_length_le (by omega),List.all_nil] at p2;have f3:=p2.symm;clear p2 p1 hb h
 refine aR (ι:=Nat) zmx rfl [1,4] (fun i=>[.c (.ptr (0,0) 0),.c (.d (.i .i64 i))]) (fun _=>[.box (p.enc.map .d)]::S)
  (fun i=>i<=p.au.length/\(p.au.drop i).all fD=p.au.all fD) (fun i=>p.au.length-i) 0 rfl ?_ ⟨Nat.zero_le _,rfl⟩ ?_
 ·exact Z1
 rintro i ⟨p1,p2⟩;refine W1 ?_;refine S0 (fun hb h=>?_) fun hb h=>?_
 ·have hi:i<p.au.length:=by omega
  have hx:p.au[i].sz<=bf (p.au.map aU.enc):=cB (List.mem_map_of_mem (List.getElem_mem hi));rw[xg hi] at p2;refine W3 ?_;refine C2 (Ez p.au[i] (by omega)) ?_;refine S0 (fun hb h=>?_) fun hb h=>?_
  ·exact aH (by unfold sW;rw[<-p2,h];simp)
  ·rw[h,Bool.true_and] at p2;exact bV (i+1) (by omega) rfl rfl ⟨by omega,p2⟩
 rw[List.drop_of_length_le (by omega),List.all_nil] at p2;have f4:=p2.symm;clear p2 p1 hb h
 refine aR (ι:=Nat) zmx rfl [1,5] (fun i=>[.c (.ptr (0,0) 0),.c (.d (.i .i64 i))]) (fun _=>[.box (p.enc.map .d)]::S)
  (fun i=>i<=p.aI.length/\(p.aI.drop i).all eX=p.aI.all eX) (fun i=>p.aI.length-i) 0 rfl ?_ ⟨Nat.zero_le _,rfl⟩ ?_
 ·exact Z1
 rintro i ⟨p1,p2⟩;refine W1 ?_;refine S0 (fun hb h=>?_) fun hb h=>?_
 ·have hi:i<p.aI.length:=by omega
  have hx:p.aI[i].sz<=bf (p.aI.map aT.enc):=cB (List.mem_map_of_mem (List.getElem_mem hi));rw[xg hi] at p2;refine W3 ?_;refine C2 (oQ p.aI[i] (by omega)) ?_;refine S0 (fun hb h=>?_) fun hb h=>?_
  ·exact aH (by unfold sW;rw[<-p2,h];simp)
  ·rw[h,Bool.true_and] at p2;exact bV (i+1) (by omega) rfl rfl ⟨by omega,p2⟩
 rw[List.drop_of_length_le (by omega),List.all_nil] at p2;have f5:=p2.symm;clear p2 p1 hb h
 refine aR (ι:=Nat) zmx rfl [1,6] (fun i=>[.c (.ptr (0,0) 0),.c (.d (.i .i64 i))]) (fun _=>[.box (p.enc.map .d)]::S)
  (fun i=>i<=p.aO.length/\(p.aO.drop i).all jL=p.aO.all jL) (fun i=>p.aO.length-i) 0 rfl ?_ ⟨Nat.zero_le _,rfl⟩ ?_
 ·exact Z1
 rintro i ⟨p1,p2⟩;refine W1 ?_;refine S0 (fun hb h=>?_) fun hb h=>?_
 ·have hi:i<p.aO.length:=by omega
  have hx:p.aO[i].sz<=bf (p.aO.map aV.enc):=cB (List.mem_map_of_mem (List.getElem_mem hi));rw[xg hi] at p2;refine W3 ?_;refine C2 (AL p.aO[i] (by omega)) ?_;refine S0 (fun hb h=>?_) fun hb h=>?_
  ·exact aH (by unfold sW;rw[<-p2,h];simp)
  ·rw[h,Bool.true_and] at p2;exact bV (i+1) (by omega) rfl rfl ⟨by omega,p2⟩
 rw[List.drop_of_length_le (by omega),List.all_nil] at p2;have f6:=p2.symm;clear p2 p1 hb h;exact aH (by unfold sW;rw[f3,f4,f5,f6];rfl)
theorem anT(p:aJ):zY [p]=gN p:=by simp[zY]
theorem anU(p:aJ):zZ [p]=jk p:=by simp[zZ]
theorem anV(p:aJ):z8 [p]=iH p.au:=by simp[z8]
theorem anW(p:aJ):Aa [p]=fnNames p:=by simp[Aa]
theorem vY(p:aJ)(hsz:p.sz<=4194304):aC prog 64 [p.v] (.c (.d (.b (validPkg p)))):=fun S=>by
 have hs:=aJ.sum p;have hb:=aJ.bounds hsz
 have hV:∀s∈p.fJ,s.length<=4194304:=fun s h=>by have:=sD h;omega
 have l1:(gN p).length<=1073741824:=by simp[gN];omega
 have l2:(jk p).length<=1073741824:=by simp[jk];omega
 have l3:(iH p.au).length<=1073741824:=by omega
 have l4:(fnNames p).length<=1073741824:=by simp[fnNames];omega
 refine zcx [.tmp 2] func64 ntmps64 ?_;refine W1 ?_;refine C1 (ZF p hsz) ?_
 repeat' (first
  |refine S0 (fun hb h=>?_) fun hb h=>?_
  |((with_reducible show fA _ _ 120 _ _ _ _);refine aX (iJ p.fName (by omega)) ?_;refine W1 ?_)
  |((with_reducible show fA _ _ 121 _ _ _ _);refine aX (mU p.fJ 5 (by omega) hV) ?_;refine W1 ?_)
  |((with_reducible show fA _ _ 122 _ _ _ _);refine aX (rJ p.fJ p.fName (by omega)) ?_;refine W1 ?_)
  |((with_reducible show fA _ _ 123 _ _ _ _);refine aX (qo (gN p) l1) ?_;refine W1 ?_)
  |((with_reducible show fA _ _ 123 _ _ _ _);refine aX (qo (jk p) l2) ?_;refine W1 ?_)
  |((with_reducible show fA _ _ 123 _ _ _ _);refine aX (qo (iH p.au) l3) ?_;refine W1 ?_)
  |((with_reducible show fA _ _ 123 _ _ _ _);refine aX (qo (fnNames p) l4) ?_;refine W1 ?_)
  |((with_reducible show fA _ _ 124 _ _ _ _);refine aX (ZH p hsz) ?_;refine W1 ?_)
  |(refine aH ?_;unfold validPkg rY nJ;rw[anT,anU,anV,anW];grind [gq,jc,bD,aK]))
def RA:List UInt8:=[112,97,99,107,97,103,101]
def fC(p:aJ):List aj:=p.aL.map jU++(p.au.map sM++(p.aI.map oV++p.aO.map vv))
noncomputable def oJ(p:aJ):List aj:=p.aL.map uU++(p.au.map zS++(p.aI.map AX++p.aO.map CF))
def d9(p:aJ):List aj:=[bF RA,bF p.fName,bq (aP p.fJ)]
def oZ(p:aJ):aj:=bq (d9 p++fC p)
noncomputable def jT(p:aJ):aj:=qM (validPkg p&&(fC p).all dI) (oZ p)
theorem aaA{p:aJ}(h:p.sz<=1048576):(jT p).sz<=1048576:=Nat.le_trans (GH _ _) (by decide)
theorem uW(p:aJ):(d9 p++fC p).length=3+p.aL.length+p.au.length+p.aI.length+p.aO.length:=by simp[d9,fC];omega
theorem Qj(p:aJ):(d9 p++oJ p).length=3+p.aL.length+p.au.length+p.aI.length+p.aO.length:=by simp[d9,oJ];omega
theorem TI{p:aJ}{i:Nat}(hi:i<p.aL.length):(d9 p++fC p)[3+i]? =some (jU p.aL[i]):=by
 unfold fC;rw[List.getElem?_append_right (by simp[d9]<;>omega),List.getElem?_append_left (by simp[d9]<;>omega),List.getElem?_map]
 have e:3+i-(d9 p).length=i:=by simp[d9]<;>omega
 rw[e,List.getElem?_eq_getElem hi];rfl
theorem TJ{p:aJ}{i:Nat}(hi:i<p.au.length):(d9 p++fC p)[3+p.aL.length+i]? =some (sM p.au[i]):=by
 unfold fC;rw[List.getElem?_append_right (by simp[d9]<;>omega),List.getElem?_append_right (by simp[d9]<;>omega),List.getElem?_append_left (by simp[d9]<;>omega),List.getElem?_map]
 have e:3+p.aL.length+i-(d9 p).length-(p.aL.map jU).length=i:=by simp[d9]<;>omega
 rw[e,List.getElem?_eq_getElem hi];rfl
theorem Qk{p:aJ}{i:Nat}(hi:i<p.aI.length):(d9 p++fC p)[3+p.aL.length+p.au.length+i]? =some (oV p.aI[i]):=by
 unfold fC;rw[List.getElem?_append_right (by simp[d9]<;>omega),List.getElem?_append_right (by simp[d9]<;>omega),List.getElem?_append_right (by simp[d9]<;>omega),List.getElem?_append_left (by simp[d9]<;>omega),List.getElem?_map]
 have e:3+p.aL.length+p.au.length+i-(d9 p).length-(p.aL.map jU).length-(p.au.map sM).length=i:=by simp[d9]<;>omega
 rw[e,List.getElem?_eq_getElem hi];rfl
theorem TK{p:aJ}{i:Nat}(hi:i<p.aO.length):(d9 p++fC p)[3+p.aL.length+p.au.length+p.aI.length+i]? =some (vv p.aO[i]):=by
 unfold fC;rw[List.getElem?_append_right (by simp[d9]<;>omega),List.getElem?_append_right (by simp[d9]<;>omega),List.getElem?_append_right (by simp[d9]<;>omega),List.getElem?_append_right (by simp[d9]<;>omega),List.getElem?_map]
 have e:3+p.aL.length+p.au.length+p.aI.length+i-(d9 p).length-(p.aL.map jU).length-(p.au.map sM).length-(p.aI.map oV).length=i:=by simp[d9]<;>omega
 rw[e,List.getElem?_eq_getElem hi];rfl
theorem TL{p:aJ}{i:Nat}(hi:i<p.aL.length):(d9 p++oJ p)[3+i]? =some (uU p.aL[i]):=by
 unfold oJ;rw[List.getElem?_append_right (by simp[d9]<;>omega),List.getElem?_append_left (by simp[d9]<;>omega),List.getElem?_map]
 have e:3+i-(d9 p).length=i:=by simp[d9]<;>omega
 rw[e,List.getElem?_eq_getElem hi];rfl
theorem TM{p:aJ}{i:Nat}(hi:i<p.au.length):(d9 p++oJ p)[3+p.aL.length+i]? =some (zS p.au[i]):=by
 unfold oJ;rw[List.getElem?_append_right (by simp[d9]<;>omega),List.getElem?_append_right (by simp[d9]<;>omega),List.getElem?_append_left (by simp[d9]<;>omega),List.getElem?_map]
 have e:3+p.aL.length+i-(d9 p).length-(p.aL.map uU).length=i:=by simp[d9]<;>omega
 rw[e,List.getElem?_eq_getElem hi];rfl
theorem Ql{p:aJ}{i:Nat}(hi:i<p.aI.length):(d9 p++oJ p)[3+p.aL.length+p.au.length+i]? =some (AX p.aI[i]):=by
 unfold oJ;rw[List.getElem?_append_right (by simp[d9]<;>omega),List.getElem?_append_right (by simp[d9]<;>omega),List.getElem?_append_right (by simp[d9]<;>omega),List.getElem?_append_left (by simp[d9]<;>omega),List.getElem?_map]
 have e:3+p.aL.length+p.au.length+i-(d9 p).length-(p.aL.map uU).length-(p.au.map zS).length=i:=by simp[d9]<;>omega
 rw[e,List.getElem?_eq_getElem hi];rfl
theorem TN{p:aJ}{i:Nat}(hi:i<p.aO.length):(d9 p++oJ p)[3+p.aL.length+p.au.length+p.aI.length+i]? =some (CF p.aO[i]):=by
 unfold oJ;rw[List.getElem?_append_right (by simp[d9]<;>omega),List.getElem?_append_right (by simp[d9]<;>omega),List.getElem?_append_right (by simp[d9]<;>omega),List.getElem?_append_right (by simp[d9]<;>omega),List.getElem?_map]
 have e:3+p.aL.length+p.au.length+p.aI.length+i-(d9 p).length-(p.aL.map uU).length-(p.au.map zS).length-(p.aI.map AX).length=i:=by simp[d9]<;>omega
 rw[e,List.getElem?_eq_getElem hi];rfl
theorem EO{α:Type}(f:α->aj)(e:α->List D)(sz:α->Nat)(hs:∀a,sz a=dz (e a))(c k:Nat):∀l:List α,(∀a∈l,(f a).sz<=c+k*sz a)->cZ (l.map f)<=c*l.length+k*bf (l.map e)
 |[],_=>by simp[cZ]
 |a::l,h=>by
  have h1:=h a (List.mem_cons_self ..);have h2:=EO f e sz hs c k l fun b hb=>h b (List.mem_cons_of_mem _ hb);rw[hs] at h1;rw[List.map_cons,cZ,List.map_cons,bf,List.length_cons,Nat.mul_add,Nat.mul_add];omega
theorem rD{p:aJ}(h:validPkg p=true):(∀t∈p.aL,dM t=true)/\(∀t∈p.au,fD t=true)/\(∀t∈p.aI,eX t=true)/\(∀t∈p.aO,jL t=true)/\p.aL.length+p.au.length+p.aI.length+p.aO.length<=24:=by
 unfold validPkg rY sW at h;simp only[Bool.and_eq_true] at h;obtain⟨⟨_,_,_,_,h0⟩,_,h1,h2,h3,h4⟩:=h;exact⟨List.all_eq_true.1 h1,List.all_eq_true.1 h2,List.all_eq_true.1 h3,List.all_eq_true.1 h4,gq h0⟩
theorem Qm{p:aJ}(hv:validPkg p=true):(oZ p).sz<=4096+50*p.sz/\cZ (fC p)<=4000+50*p.sz:=by
 obtain⟨v1,v2,v3,v4,v5⟩:=rD hv
 have h1:=EO jU bE.enc bE.sz (fun _=>rfl) 96 49 p.aL fun t ht=>by have:=Hf (v1 t ht);omega
 have h2:=EO sM aU.enc aU.sz (fun _=>rfl) 96 49 p.au fun t ht=>by have:=W9 t;omega
 have h3:=EO oV aT.enc aT.sz (fun _=>rfl) 96 49 p.aI fun t ht=>by have:=He (v3 t ht);omega
 have h4:=EO vv aV.enc aV.sz (fun _=>rfl) 96 49 p.aO fun t ht=>by have:=Xg (vw (v4 t ht)).2.2.2;omega
 have h5:=aJ.sum p;rw[dB] at h5
 have h6:cZ (fC p)<=4000+50*p.sz:=by
  unfold fC;rw[gM,gM,gM];omega
 have h7:cZ (fC p)=cZ (p.aL.map jU)+(cZ (p.au.map sM)+(cZ (p.aI.map oV)+cZ (p.aO.map vv))):=by
  unfold fC;rw[gM,gM,gM]
 refine⟨?_,h6⟩;rw[oZ,jh,gM,uW];simp[d9,cZ,jI,jh,jA,qY,RA];omega
theorem NH:∀(l:List aj)(n:Nat),∃ps:List (Nat×aj),lx l n=(ps.map fun q=>[.s q.2.aG,.ol q.1 (lx q.2.ah (q.1+1))])/\ps.map Prod.snd=l
 |[],n=>⟨[],rfl,rfl⟩
 |x::l,n=>by
  obtain⟨ps,h1,h2⟩:=NH l (n+dQ x);exact⟨(n,x)::ps,by rw[jK,h1,jJ];rfl,by rw[List.map_cons,h2]⟩
theorem TP{p:aJ}(hv:validPkg p=true):oJ p=(fC p).map sI:=by
 obtain⟨v1,v2,v3,v4,_⟩:=rD hv;unfold oJ fC;rw[List.map_append,List.map_append,List.map_append,List.map_map,List.map_map,List.map_map,List.map_map];congr 1
 ·exact List.map_congr_left fun t ht=>by unfold uU;rw[v1 t ht];rfl
 congr 1
 ·exact List.map_congr_left fun t ht=>by unfold zS;rw[v2 t ht];rfl
 congr 1
 ·exact List.map_congr_left fun t ht=>by unfold AX;rw[v3 t ht];rfl
 ·exact List.map_congr_left fun t ht=>by unfold CF;rw[v4 t ht];rfl
theorem agl{p:aJ}:∀x∈fC p,x.ah≠[]:=fun x hx=>by
 unfold fC at hx;simp only[List.mem_append,List.mem_map] at hx;rcases hx with⟨t,_,rfl⟩|⟨t,_,rfl⟩|⟨t,_,rfl⟩|⟨t,_,rfl⟩
 ·rw[jU,bY,iX];simp
 ·rw[sM,bY,baseD];simp
 ·rw[oV,bY,mJ];simp
 ·rw[vv,bY];simp
theorem ajz(p:aJ)(n:Nat)(hv:validPkg p=true)(hsz:p.sz<=1048576)(hall:∀x∈fC p,dI x=true):aC prog 40 [p.v] (.agg [.d (.s (sI (oZ p)).aG),.d (.ol n (lx (sI (oZ p)).ah (n+1)))]):=fun S=>by
 have hdz:=aJ.sum p;rw[dB] at hdz;obtain⟨v1,v2,v3,v4,v5⟩:=rD hv;obtain⟨hz,hzp⟩:=Qm hv;obtain⟨PL,zh⟩:∃PL:List aj,PL=d9 p++fC p:=⟨_,rfl⟩;obtain⟨L,hL⟩:∃L:Nat->Nat,L=fun i=>n+1+iQ (PL.take i):=⟨_,rfl⟩;obtain⟨T,hT⟩:∃T:Nat->List (List D),T=fun i=>lx (PL.take i) (n+1):=⟨_,rfl⟩
 have EP:T 3=[[.s RA,.ol (n+1) []],[.s p.fName,.ol (n+1+1) []],[.s [],.ol (n+1+1+1) (lx (aP p.fJ) (n+1+1+1+1))]]:=by
  rw[hT,zh];exact KA _ _ _ _
 have hlp:=uW p;rw[<-zh] at hlp
 have fP:∀i,(T i).length<=i:=fun i=>by
  rw[hT];simp only[gH];exact List.length_take_le i _
 have hTs:∀(i:Nat)(x:aj),PL[i]? =some x->x.aG=[]->T i++[[.s [],.ol (L i) (lx x.ah (L i+1))]]=T (i+1):=fun i x hx h0=>by
  obtain⟨hi,hg⟩:=List.getElem?_eq_some_iff.1 hx;have:=AA hi (n+1);rw[hg,h0] at this;rw[hT,hL];exact this
 have hTr:∀i,∀r∈T i,r.length=2:=fun i=>by rw[hT];exact kM
 have g1:=fun i hi=>TI (p:=p) (i:=i) hi;have g2:=fun i hi=>TJ (p:=p) (i:=i) hi;have g3:=fun i hi=>Qk (p:=p) (i:=i) hi;have g4:=fun i hi=>TK (p:=p) (i:=i) hi;rw[<-zh] at g1 g2 g3 g4
 have hTe:T (3+p.aL.length+p.au.length+p.aI.length+p.aO.length)=lx (oZ p).ah (n+1):=by
  rw[hT];simp only
  rw[List.take_of_length_le (by omega),zh];rfl
 have hTm:(T (3+p.aL.length+p.au.length+p.aI.length+p.aO.length)).length=3+p.aL.length+p.au.length+p.aI.length+p.aO.length:=by rw[hTe,gH,oZ,bY,uW]
 obtain⟨ps,hp1,hp2⟩:=NH (fC p) (n+1+iQ (d9 p))
 have arQ:ps.length<=24:=by
  have h1:=congrArg List.length hp2;rw[List.length_map] at h1;have h2:=uW p;rw[List.length_append] at h2;simp[d9] at h2;omega
 have hdr:(T (3+p.aL.length+p.au.length+p.aI.length+p.aO.length)).drop 3=ps.map fun q=>[.s q.2.aG,.ol q.1 (lx q.2.ah (q.1+1))]:=by
  rw[hTe,oZ,bY,lV,<-hp1];rfl
 clear hT hL;refine qQ (n) 1 (rs:=[.cell 2 64]) zmx func40 ntmps40 rfl rfl rfl rfl rfl ?_;refine W1 ?_;refine aX (vX p (by omega)) ?_;simp -implicitDefEqProofs (disch:=omega) only[go_sem,hv];refine C1 (cO _ (n+1)) ?_;refine C1 (cO _ (n+1+1)) ?_;refine C1 (dY p.fJ (by omega) (n+1+1+1)) ?_;refine W3 ?_;refine lD n 3 2 (T 3) (.inl ?_) (hTr 3) ?_
 ·rw[EP];rfl
 refine om (L 3) ?_
 refine aR (ι:=Nat) zmx rfl [1,2,3,27,28,29] (fun i=>[.c (.ptr (0,2) 0),.c (.ptr (0,3) 0),.c (.bB (0,4) (T (3+i))),.c (.d (.sl (p.aL.map bE.enc))),.c (.d (.i .i64 p.aL.length)),.c (.d (.i .i64 i))])
  (fun i=>[.seed (L (3+i)),.seed 1,.box [.d (.s p.fName),.d (.sl (p.fJ.map encS)),.d (.sl (p.aL.map bE.enc)),.d (.sl (p.au.map aU.enc)),.d (.sl (p.aI.map aT.enc)),.d (.sl (p.aO.map aV.enc))],.box [.d (.s []),.bn []],.eu n 2 (T (3+i))]::S)
  (fun i=>i<=p.aL.length) (fun i=>p.aL.length-i) 0 rfl rfl (Nat.zero_le _) ?_
 intro i hi;have hl:=fP (3+i);refine W1 ?_;refine S0 (fun hb h=>?_) fun hb h=>?_
 ·have hi':i<p.aL.length:=by omega
  have hm:=List.getElem_mem hi';have hcz:=cB (List.mem_map_of_mem (f:=bE.enc) hm);have yH:p.aL[i].sz<=bf (p.aL.map bE.enc):=hcz;have hs:=hTs _ _ (g1 i hi') rfl;refine W3 ?_;refine C1 (CK p.aL[i] (L (3+i)) (v1 _ hm) (by omega)) ?_;refine W3 ?_;rw[hs];refine kS (L (3+(i+1))) 4 (by decide) (i+1) (by omega) rfl rfl ?_ rfl (by omega);simp[iR,gV,V.refs,C.refs,kr]
 have hi':i=p.aL.length:=by omega
 subst hi';clear hi hl h
 refine aR (ι:=Nat) zmx rfl [1,2,3,40,41,42] (fun i=>[.c (.ptr (0,2) 0),.c (.ptr (0,3) 0),.c (.bB (0,4) (T (3+p.aL.length+i))),.c (.d (.sl (p.au.map aU.enc))),.c (.d (.i .i64 p.au.length)),.c (.d (.i .i64 i))])
  (fun i=>[.seed (L (3+p.aL.length+i)),.seed 1,.box [.d (.s p.fName),.d (.sl (p.fJ.map encS)),.d (.sl (p.aL.map bE.enc)),.d (.sl (p.au.map aU.enc)),.d (.sl (p.aI.map aT.enc)),.d (.sl (p.aO.map aV.enc))],.box [.d (.s []),.bn []],.eu n 2 (T (3+p.aL.length+i))]::S)
  (fun i=>i<=p.au.length) (fun i=>p.au.length-i) 0 rfl rfl (Nat.zero_le _) ?_
 intro i hi;have hl:=fP (3+p.aL.length+i);refine W1 ?_;refine S0 (fun hb h=>?_) fun hb h=>?_
 ·have hi':i<p.au.length:=by omega
  have hm:=List.getElem_mem hi';have hcz:=cB (List.mem_map_of_mem (f:=aU.enc) hm);have yH:p.au[i].sz<=bf (p.au.map aU.enc):=hcz;have hs:=hTs _ _ (g2 i hi') rfl;refine W3 ?_;refine C1 (zT p.au[i] (L (3+p.aL.length+i)) (v2 _ hm) (by omega)) ?_;refine W3 ?_;rw[hs];refine kS (L (3+p.aL.length+(i+1))) 4 (by decide) (i+1) (by omega) rfl rfl ?_ rfl (by omega);simp[iR,gV,V.refs,C.refs,kr]
 have hi':i=p.au.length:=by omega
 subst hi';clear hi hl h
 refine aR (ι:=Nat) zmx rfl [1,2,3,53,54,55] (fun i=>[.c (.ptr (0,2) 0),.c (.ptr (0,3) 0),.c (.bB (0,4) (T (3+p.aL.length+p.au.length+i))),.c (.d (.sl (p.aI.map aT.enc))),.c (.d (.i .i64 p.aI.length)),.c (.d (.i .i64 i))])
  (fun i=>[.seed (L (3+p.aL.length+p.au.length+i)),.seed 1,.box [.d (.s p.fName),.d (.sl (p.fJ.map encS)),.d (.sl (p.aL.map bE.enc)),.d (.sl (p.au.map aU.enc)),.d (.sl (p.aI.map aT.enc)),.d (.sl (p.aO.map aV.enc))],.box [.d (.s []),.bn []],.eu n 2 (T (3+p.aL.length+p.au.length+i))]::S)
  (fun i=>i<=p.aI.length) (fun i=>p.aI.length-i) 0 rfl rfl (Nat.zero_le _) ?_
 intro i hi;have hl:=fP (3+p.aL.length+p.au.length+i);refine W1 ?_;refine S0 (fun hb h=>?_) fun hb h=>?_
 ·have hi':i<p.aI.length:=by omega
  have hm:=List.getElem_mem hi';have hcz:=cB (List.mem_map_of_mem (f:=aT.enc) hm);have yH:p.aI[i].sz<=bf (p.aI.map aT.enc):=hcz;have hs:=hTs _ _ (g3 i hi') rfl;refine W3 ?_;refine C1 (EN p.aI[i] (L (3+p.aL.length+p.au.length+i)) (v3 _ hm) (by omega)) ?_;refine W3 ?_;rw[hs];refine kS (L (3+p.aL.length+p.au.length+(i+1))) 4 (by decide) (i+1) (by omega) rfl rfl ?_ rfl (by omega);simp[iR,gV,V.refs,C.refs,kr]
 have hi':i=p.aI.length:=by omega
 subst hi';clear hi hl h
 refine aR (ι:=Nat) zmx rfl [2,3,66,67,68] (fun i=>[.c (.ptr (0,3) 0),.c (.bB (0,4) (T (3+p.aL.length+p.au.length+p.aI.length+i))),.c (.d (.sl (p.aO.map aV.enc))),.c (.d (.i .i64 p.aO.length)),.c (.d (.i .i64 i))])
  (fun i=>[.seed (L (3+p.aL.length+p.au.length+p.aI.length+i)),.seed 1,.box [.d (.s p.fName),.d (.sl (p.fJ.map encS)),.d (.sl (p.aL.map bE.enc)),.d (.sl (p.au.map aU.enc)),.d (.sl (p.aI.map aT.enc)),.d (.sl (p.aO.map aV.enc))],.box [.d (.s []),.bn []],.eu n 2 (T (3+p.aL.length+p.au.length+p.aI.length+i))]::S)
  (fun i=>i<=p.aO.length) (fun i=>p.aO.length-i) 0 rfl rfl (Nat.zero_le _) ?_
 intro i hi;have hl:=fP (3+p.aL.length+p.au.length+p.aI.length+i);refine W1 ?_;refine S0 (fun hb h=>?_) fun hb h=>?_
 ·have hi':i<p.aO.length:=by omega
  have hm:=List.getElem_mem hi';have hcz:=cB (List.mem_map_of_mem (f:=aV.enc) hm);have yH:p.aO[i].sz<=bf (p.aO.map aV.enc):=hcz;have hs:=hTs _ _ (g4 i hi') rfl;refine W3 ?_;refine C1 (CG p.aO[i] (L (3+p.aL.length+p.au.length+p.aI.length+i)) (v4 _ hm) (by omega)) ?_;refine W3 ?_;rw[hs];refine kS (L (3+p.aL.length+p.au.length+p.aI.length+(i+1))) 4 (by decide) (i+1) (by omega) rfl rfl ?_ rfl (by omega);simp[iR,gV,V.refs,C.refs,kr]
 have hi':i=p.aO.length:=by omega
 subst hi';clear hi hl h;have ajA:=hTr (3+p.aL.length+p.au.length+p.aI.length+p.aO.length);refine⟨⟨by omega,by omega,ajA⟩,?_⟩;rw[List.take_length,hdr];simp only[List.length_map];refine wD (F7 4 n n) ?_
 refine aR (ι:=Nat) zmx rfl [2,3,79,80,81] (fun i=>[.c (.ptr (0,3) 0),.c (.bB (0,4) (T (3+p.aL.length+p.au.length+p.aI.length+p.aO.length))),.c (.d (.sl (ps.map fun q=>[.s q.2.aG,.ol q.1 (lx q.2.ah (q.1+1))]))),.c (.d (.i .i64 ps.length)),.c (.d (.i .i64 i))])
  (fun i=>[.seed (L (3+p.aL.length+p.au.length+p.aI.length+p.aO.length)),.seed 1,.box [.d (.s p.fName),.d (.sl (p.fJ.map encS)),.d (.sl (p.aL.map bE.enc)),.d (.sl (p.au.map aU.enc)),.d (.sl (p.aI.map aT.enc)),.d (.sl (p.aO.map aV.enc))],.box [.d (.s []),.bn []],.eu n 2 (T (3+p.aL.length+p.au.length+p.aI.length+p.aO.length))]::S)
  (fun i=>i<=ps.length/\∀j (hj:j<ps.length),j<i->dI ps[j].2=true) (fun i=>ps.length-i) 0 rfl rfl ⟨Nat.zero_le _,fun j hj h=>by omega⟩ ?_
 rintro i ⟨hi,hj⟩;refine W1 ?_;refine S0 (fun hb h=>?_) fun hb h=>?_
 ·have hi':i<ps.length:=by omega
  have hm:ps[i].2∈fC p:=by rw[<-hp2];exact List.mem_map_of_mem (List.getElem_mem hi')
  have hx:=gZ hm;refine W3 ?_;refine jY (qB ps[i].2 (by omega)) (.cons (yX ps[i].2 ps[i].1) .nil) ?_;have tY:=hall _ hm;simp -implicitDefEqProofs (disch:=omega) only[go_sem,tY]
  exact bL 5 (by decide) (i+1) (by omega) rfl rfl rfl rfl ⟨by omega,fun j hj' hlt=>by
   by_cases e:j=i
   ·subst e;exact tY
   ·exact hj j hj' (by omega)⟩
 ·rw[hTe];refine C1 (lq _) ?_;exact C3 (acS (oZ p) n (by omega))
theorem ajB(p:aJ)(n:Nat)(hv:validPkg p=true)(hsz:p.sz<=1048576)(hall:¬∀x∈fC p,dI x=true):aC prog 40 [p.v] (.agg [.d (.s []),.bn []]):=fun S=>by
 have hdz:=aJ.sum p;rw[dB] at hdz;obtain⟨v1,v2,v3,v4,v5⟩:=rD hv;obtain⟨hz,hzp⟩:=Qm hv;obtain⟨PL,zh⟩:∃PL:List aj,PL=d9 p++fC p:=⟨_,rfl⟩;obtain⟨L,hL⟩:∃L:Nat->Nat,L=fun i=>n+1+iQ (PL.take i):=⟨_,rfl⟩;obtain⟨T,hT⟩:∃T:Nat->List (List D),T=fun i=>lx (PL.take i) (n+1):=⟨_,rfl⟩
 have EP:T 3=[[.s RA,.ol (n+1) []],[.s p.fName,.ol (n+1+1) []],[.s [],.ol (n+1+1+1) (lx (aP p.fJ) (n+1+1+1+1))]]:=by
  rw[hT,zh];exact KA _ _ _ _
 have hlp:=uW p;rw[<-zh] at hlp
 have fP:∀i,(T i).length<=i:=fun i=>by
  rw[hT];simp only[gH];exact List.length_take_le i _
 have hTs:∀(i:Nat)(x:aj),PL[i]? =some x->x.aG=[]->T i++[[.s [],.ol (L i) (lx x.ah (L i+1))]]=T (i+1):=fun i x hx h0=>by
  obtain⟨hi,hg⟩:=List.getElem?_eq_some_iff.1 hx;have:=AA hi (n+1);rw[hg,h0] at this;rw[hT,hL];exact this
 have hTr:∀i,∀r∈T i,r.length=2:=fun i=>by rw[hT];exact kM
 have g1:=fun i hi=>TI (p:=p) (i:=i) hi;have g2:=fun i hi=>TJ (p:=p) (i:=i) hi;have g3:=fun i hi=>Qk (p:=p) (i:=i) hi;have g4:=fun i hi=>TK (p:=p) (i:=i) hi;rw[<-zh] at g1 g2 g3 g4
 have hTe:T (3+p.aL.length+p.au.length+p.aI.length+p.aO.length)=lx (oZ p).ah (n+1):=by
  rw[hT];simp only
  rw[List.take_of_length_le (by omega),zh];rfl
 have hTm:(T (3+p.aL.length+p.au.length+p.aI.length+p.aO.length)).length=3+p.aL.length+p.au.length+p.aI.length+p.aO.length:=by rw[hTe,gH,oZ,bY,uW]
 obtain⟨ps,hp1,hp2⟩:=NH (fC p) (n+1+iQ (d9 p))
 have arQ:ps.length<=24:=by
  have h1:=congrArg List.length hp2;rw[List.length_map] at h1;have h2:=uW p;rw[List.length_append] at h2;simp[d9] at h2;omega
 have hdr:(T (3+p.aL.length+p.au.length+p.aI.length+p.aO.length)).drop 3=ps.map fun q=>[.s q.2.aG,.ol q.1 (lx q.2.ah (q.1+1))]:=by
  rw[hTe,oZ,bY,lV,<-hp1];rfl
 clear hT hL;refine qQ (n) 1 (rs:=[.cell 2 64]) zmx func40 ntmps40 rfl rfl rfl rfl rfl ?_;refine W1 ?_;refine aX (vX p (by omega)) ?_;simp -implicitDefEqProofs (disch:=omega) only[go_sem,hv];refine C1 (cO _ (n+1)) ?_;refine C1 (cO _ (n+1+1)) ?_;refine C1 (dY p.fJ (by omega) (n+1+1+1)) ?_;refine W3 ?_;refine lD n 3 2 (T 3) (.inl ?_) (hTr 3) ?_
 ·rw[EP];rfl
 refine om (L 3) ?_
 refine aR (ι:=Nat) zmx rfl [1,2,3,27,28,29] (fun i=>[.c (.ptr (0,2) 0),.c (.ptr (0,3) 0),.c (.bB (0,4) (T (3+i))),.c (.d (.sl (p.aL.map bE.enc))),.c (.d (.i .i64 p.aL.length)),.c (.d (.i .i64 i))])
  (fun i=>[.seed (L (3+i)),.seed 1,.box [.d (.s p.fName),.d (.sl (p.fJ.map encS)),.d (.sl (p.aL.map bE.enc)),.d (.sl (p.au.map aU.enc)),.d (.sl (p.aI.map aT.enc)),.d (.sl (p.aO.map aV.enc))],.box [.d (.s []),.bn []],.eu n 2 (T (3+i))]::S)
  (fun i=>i<=p.aL.length) (fun i=>p.aL.length-i) 0 rfl rfl (Nat.zero_le _) ?_
 intro i hi;have hl:=fP (3+i);refine W1 ?_;refine S0 (fun hb h=>?_) fun hb h=>?_
 ·have hi':i<p.aL.length:=by omega
  have hm:=List.getElem_mem hi';have hcz:=cB (List.mem_map_of_mem (f:=bE.enc) hm);have yH:p.aL[i].sz<=bf (p.aL.map bE.enc):=hcz;have hs:=hTs _ _ (g1 i hi') rfl;refine W3 ?_;refine C1 (CK p.aL[i] (L (3+i)) (v1 _ hm) (by omega)) ?_;refine W3 ?_;rw[hs];refine kS (L (3+(i+1))) 4 (by decide) (i+1) (by omega) rfl rfl ?_ rfl (by omega);simp[iR,gV,V.refs,C.refs,kr]
 have hi':i=p.aL.length:=by omega
 subst hi';clear hi hl h
 refine aR (ι:=Nat) zmx rfl [1,2,3,40,41,42] (fun i=>[.c (.ptr (0,2) 0),.c (.ptr (0,3) 0),.c (.bB (0,4) (T (3+p.aL.length+i))),.c (.d (.sl (p.au.map aU.enc))),.c (.d (.i .i64 p.au.length)),.c (.d (.i .i64 i))])
  (fun i=>[.seed (L (3+p.aL.length+i)),.seed 1,.box [.d (.s p.fName),.d (.sl (p.fJ.map encS)),.d (.sl (p.aL.map bE.enc)),.d (.sl (p.au.map aU.enc)),.d (.sl (p.aI.map aT.enc)),.d (.sl (p.aO.map aV.enc))],.box [.d (.s []),.bn []],.eu n 2 (T (3+p.aL.length+i))]::S)
  (fun i=>i<=p.au.length) (fun i=>p.au.length-i) 0 rfl rfl (Nat.zero_le _) ?_
 intro i hi;have hl:=fP (3+p.aL.length+i);refine W1 ?_;refine S0 (fun hb h=>?_) fun hb h=>?_
 ·have hi':i<p.au.length:=by omega
  have hm:=List.getElem_mem hi';have hcz:=cB (List.mem_map_of_mem (f:=aU.enc) hm);have yH:p.au[i].sz<=bf (p.au.map aU.enc):=hcz;have hs:=hTs _ _ (g2 i hi') rfl;refine W3 ?_;refine C1 (zT p.au[i] (L (3+p.aL.length+i)) (v2 _ hm) (by omega)) ?_;refine W3 ?_;rw[hs];refine kS (L (3+p.aL.length+(i+1))) 4 (by decide) (i+1) (by omega) rfl rfl ?_ rfl (by omega);simp[iR,gV,V.refs,C.refs,kr]
 have hi':i=p.au.length:=by omega
 subst hi';clear hi hl h
 refine aR (ι:=Nat) zmx rfl [1,2,3,53,54,55] (fun i=>[.c (.ptr (0,2) 0),.c (.ptr (0,3) 0),.c (.bB (0,4) (T (3+p.aL.length+p.au.length+i))),.c (.d (.sl (p.aI.map aT.enc))),.c (.d (.i .i64 p.aI.length)),.c (.d (.i .i64 i))])
  (fun i=>[.seed (L (3+p.aL.length+p.au.length+i)),.seed 1,.box [.d (.s p.fName),.d (.sl (p.fJ.map encS)),.d (.sl (p.aL.map bE.enc)),.d (.sl (p.au.map aU.enc)),.d (.sl (p.aI.map aT.enc)),.d (.sl (p.aO.map aV.enc))],.box [.d (.s []),.bn []],.eu n 2 (T (3+p.aL.length+p.au.length+i))]::S)
  (fun i=>i<=p.aI.length) (fun i=>p.aI.length-i) 0 rfl rfl (Nat.zero_le _) ?_
 intro i hi;have hl:=fP (3+p.aL.length+p.au.length+i);refine W1 ?_;refine S0 (fun hb h=>?_) fun hb h=>?_
 ·have hi':i<p.aI.length:=by omega
  have hm:=List.getElem_mem hi';have hcz:=cB (List.mem_map_of_mem (f:=aT.enc) hm);have yH:p.aI[i].sz<=bf (p.aI.map aT.enc):=hcz;have hs:=hTs _ _ (g3 i hi') rfl;refine W3 ?_;refine C1 (EN p.aI[i] (L (3+p.aL.length+p.au.length+i)) (v3 _ hm) (by omega)) ?_;refine W3 ?_;rw[hs];refine kS (L (3+p.aL.length+p.au.length+(i+1))) 4 (by decide) (i+1) (by omega) rfl rfl ?_ rfl (by omega);simp[iR,gV,V.refs,C.refs,kr]
 have hi':i=p.aI.length:=by omega
 subst hi';clear hi hl h
 refine aR (ι:=Nat) zmx rfl [2,3,66,67,68] (fun i=>[.c (.ptr (0,3) 0),.c (.bB (0,4) (T (3+p.aL.length+p.au.length+p.aI.length+i))),.c (.d (.sl (p.aO.map aV.enc))),.c (.d (.i .i64 p.aO.length)),.c (.d (.i .i64 i))])
  (fun i=>[.seed (L (3+p.aL.length+p.au.length+p.aI.length+i)),.seed 1,.box [.d (.s p.fName),.d (.sl (p.fJ.map encS)),.d (.sl (p.aL.map bE.enc)),.d (.sl (p.au.map aU.enc)),.d (.sl (p.aI.map aT.enc)),.d (.sl (p.aO.map aV.enc))],.box [.d (.s []),.bn []],.eu n 2 (T (3+p.aL.length+p.au.length+p.aI.length+i))]::S)
  (fun i=>i<=p.aO.length) (fun i=>p.aO.length-i) 0 rfl rfl (Nat.zero_le _) ?_
 intro i hi;have hl:=fP (3+p.aL.length+p.au.length+p.aI.length+i);refine W1 ?_;refine S0 (fun hb h=>?_) fun hb h=>?_
 ·have hi':i<p.aO.length:=by omega
  have hm:=List.getElem_mem hi';have hcz:=cB (List.mem_map_of_mem (f:=aV.enc) hm);have yH:p.aO[i].sz<=bf (p.aO.map aV.enc):=hcz;have hs:=hTs _ _ (g4 i hi') rfl;refine W3 ?_;refine C1 (CG p.aO[i] (L (3+p.aL.length+p.au.length+p.aI.length+i)) (v4 _ hm) (by omega)) ?_;refine W3 ?_;rw[hs];refine kS (L (3+p.aL.length+p.au.length+p.aI.length+(i+1))) 4 (by decide) (i+1) (by omega) rfl rfl ?_ rfl (by omega);simp[iR,gV,V.refs,C.refs,kr]
 have hi':i=p.aO.length:=by omega
 subst hi';clear hi hl h;have ajA:=hTr (3+p.aL.length+p.au.length+p.aI.length+p.aO.length);refine⟨⟨by omega,by omega,ajA⟩,?_⟩;rw[List.take_length,hdr];simp only[List.length_map];refine wD (F7 4 n n) ?_
 refine aR (ι:=Nat) zmx rfl [2,3,79,80,81] (fun i=>[.c (.ptr (0,3) 0),.c (.bB (0,4) (T (3+p.aL.length+p.au.length+p.aI.length+p.aO.length))),.c (.d (.sl (ps.map fun q=>[.s q.2.aG,.ol q.1 (lx q.2.ah (q.1+1))]))),.c (.d (.i .i64 ps.length)),.c (.d (.i .i64 i))])
  (fun i=>[.seed (L (3+p.aL.length+p.au.length+p.aI.length+p.aO.length)),.seed 1,.box [.d (.s p.fName),.d (.sl (p.fJ.map encS)),.d (.sl (p.aL.map bE.enc)),.d (.sl (p.au.map aU.enc)),.d (.sl (p.aI.map aT.enc)),.d (.sl (p.aO.map aV.enc))],.box [.d (.s []),.bn []],.eu n 2 (T (3+p.aL.length+p.au.length+p.aI.length+p.aO.length))]::S)
  (fun i=>i<=ps.length/\∀j (hj:j<ps.length),j<i->dI ps[j].2=true) (fun i=>ps.length-i) 0 rfl rfl ⟨Nat.zero_le _,fun j hj h=>by omega⟩ ?_
 rintro i ⟨hi,hj⟩;refine W1 ?_;refine S0 (fun hb h=>?_) fun hb h=>?_
 ·have hi':i<ps.length:=by omega
  have hm:ps[i].2∈fC p:=by rw[<-hp2];exact List.mem_map_of_mem (List.getElem_mem hi')
  have hx:=gZ hm;refine W3 ?_;refine jY (qB ps[i].2 (by omega)) (.cons (yX ps[i].2 ps[i].1) .nil) ?_
  cases tY:dI ps[i].2 with
  |false=>simp -implicitDefEqProofs (disch:=omega) only[go_sem,tY]
  |true=>
   simp -implicitDefEqProofs (disch:=omega) only[go_sem,tY]
   exact bL 5 (by decide) (i+1) (by omega) rfl rfl rfl rfl ⟨by omega,fun j hj' hlt=>by
    by_cases e:j=i
    ·subst e;exact tY
    ·exact hj j hj' (by omega)⟩
 ·exact absurd (fun x hx=>by
   rw[<-hp2] at hx;obtain⟨q,hq,rfl⟩:=List.mem_map.1 hx;obtain⟨j,hj1,rfl⟩:=List.getElem_of_mem hq
   exact hj j hj1 (by omega)) hall
theorem ZI(x:aJ)(n:Nat)(hsz:x.sz<=1048576):aC prog 40 [x.v] (.agg [.d (.s (jT x).aG),.d (.ol n (lx (jT x).ah (n+1)))]):=by
 unfold jT
 cases hv:validPkg x with
 |false=>
  rw[Bool.false_and,qM];refine aC.less (fun S=> ?_) (LK [] n);refine zcx [.cell 2 64] func40 ntmps40 ?_;refine W1 ?_;refine aX (vX x (by omega)) ?_;simp -implicitDefEqProofs (disch:=omega) only[go_sem,hv]
 |true=>
  rw[Bool.true_and]
  cases ha:(fC x).all dI with
  |true=>exact ajz x n hv hsz (List.all_eq_true.1 ha)
  |false=>
   rw[qM];refine aC.less (ajB x n hv hsz fun h=> ?_) (LK [] n);rw[List.all_eq_true.2 h] at ha;cases ha
theorem ajC(p:aJ)(hv:validPkg p=true)(hsz:p.sz<=1048576)(hall:∀x∈fC p,dI x=true):aC prog 44 [p.v] ((sI (oZ p)).v):=fun S=>by
 have hdz:=aJ.sum p;rw[dB] at hdz;obtain⟨v1,v2,v3,v4,v5⟩:=rD hv;obtain⟨hz,hzp⟩:=Qm hv;obtain⟨PL,zh⟩:∃PL:List aj,PL=d9 p++oJ p:=⟨_,rfl⟩;obtain⟨T,hT⟩:∃T:Nat->List (List D),T=fun i=>(PL.take i).map aj.enc:=⟨_,rfl⟩
 have EP:T 3=[[.s RA,.sl []],[.s p.fName,.sl []],[.s [],.sl ((aP p.fJ).map aj.enc)]]:=by
  rw[hT,zh];simp only[d9,List.cons_append,List.nil_append,List.take_succ_cons,List.take_zero,List.map_cons,List.map_nil,fB,jE]
 have hlp:=Qj p;rw[<-zh] at hlp
 have fP:∀i,(T i).length<=i:=fun i=>by
  rw[hT];simp only[List.length_map];exact List.length_take_le i _
 have hTs:∀(i:Nat)(x:aj),PL[i]? =some x->T i++[[.s x.aG,.sl (x.ah.map aj.enc)]]=T (i+1):=fun i x hx=>by
  obtain⟨hi,hg⟩:=List.getElem?_eq_some_iff.1 hx;have:=ji (base:=[]) (l:=PL) hi;rw[hg] at this;rw[hT];exact this
 have hTr:∀i,∀r∈T i,r.length=2:=fun i=>by rw[hT];exact gJ
 have g1:=fun i hi=>TL (p:=p) (i:=i) hi;have g2:=fun i hi=>TM (p:=p) (i:=i) hi;have g3:=fun i hi=>Ql (p:=p) (i:=i) hi;have g4:=fun i hi=>TN (p:=p) (i:=i) hi;rw[<-zh] at g1 g2 g3 g4
 have hTe:T (3+p.aL.length+p.au.length+p.aI.length+p.aO.length)=PL.map aj.enc:=by
  rw[hT];simp only
  rw[List.take_of_length_le (by omega)]
 clear hT;refine zcx [.cell 2 64] func44 ntmps44 ?_;refine W1 ?_;refine aX (vY p (by omega)) ?_;simp -implicitDefEqProofs (disch:=omega) only[go_sem,hv];refine C1 (bN _) ?_;refine C1 (bN _) ?_;refine C1 (dU p.fJ (by omega)) ?_;have hE:=fun bP Ω=>jR (T 3) (hTr 3) (by have:=fP 3;omega) bP Ω;simp only[EP] at hE;refine mQ [false] rfl (hE _ _) ?_;refine W1 ?_
 refine aR (ι:=Nat) zmx rfl [1,2,3,4] (fun i=>[.c (.ptr (0,0) 0),.c (.ptr (0,1) 0),.c (.ptr (0,4) 0),.c (.d (.i .i64 i))])
  (fun i=>[.box [.d (.s p.fName),.d (.sl (p.fJ.map encS)),.d (.sl (p.aL.map bE.enc)),.d (.sl (p.au.map aU.enc)),.d (.sl (p.aI.map aT.enc)),.d (.sl (p.aO.map aV.enc))],.box [.d (.s []),.bn []],.box [.d (.s []),.bB (0,3) (T 3)],.tok 2 (T (3+i)),.box [.d (.s []),.bB (0,3) (T (3+i))]]::S)
  (fun i=>i<=p.aL.length) (fun i=>p.aL.length-i) 0 rfl (by simp only[EP]<;>(try rfl)) (Nat.zero_le _) ?_
 intro i hi;have hl:=fP (3+i);refine W1 ?_;refine S0 (fun hb h=>?_) fun hb h=>?_
 ·have hi':i<p.aL.length:=by omega
  have hm:=List.getElem_mem hi';have hcz:=cB (List.mem_map_of_mem (f:=bE.enc) hm);have yH:p.aL[i].sz<=bf (p.aL.map bE.enc):=hcz;have hs:=hTs _ _ (g1 i hi');have hc:aC prog 81 [p.aL[i].v] (.agg [.d (.s (uU p.aL[i]).aG),.d (.sl ((uU p.aL[i]).ah.map aj.enc))]):=KW p.aL[i] (by omega);refine W3 ?_;refine aX hc ?_;refine W1 ?_;refine W3 ?_;rw[hs];exact bL 5 (by decide) (i+1) (by omega) rfl rfl rfl rfl (by omega)
 have hi':i=p.aL.length:=by omega
 subst hi';clear hi hl h
 refine aR (ι:=Nat) zmx rfl [1,2,3,5] (fun i=>[.c (.ptr (0,0) 0),.c (.ptr (0,1) 0),.c (.ptr (0,4) 0),.c (.d (.i .i64 i))])
  (fun i=>[.box [.d (.s p.fName),.d (.sl (p.fJ.map encS)),.d (.sl (p.aL.map bE.enc)),.d (.sl (p.au.map aU.enc)),.d (.sl (p.aI.map aT.enc)),.d (.sl (p.aO.map aV.enc))],.box [.d (.s []),.bn []],.box [.d (.s []),.bB (0,3) (T 3)],.tok 2 (T (3+p.aL.length+i)),.box [.d (.s []),.bB (0,3) (T (3+p.aL.length+i))]]::S)
  (fun i=>i<=p.au.length) (fun i=>p.au.length-i) 0 rfl rfl (Nat.zero_le _) ?_
 intro i hi;have hl:=fP (3+p.aL.length+i);refine W1 ?_;refine S0 (fun hb h=>?_) fun hb h=>?_
 ·have hi':i<p.au.length:=by omega
  have hm:=List.getElem_mem hi';have hcz:=cB (List.mem_map_of_mem (f:=aU.enc) hm);have yH:p.au[i].sz<=bf (p.au.map aU.enc):=hcz;have hs:=hTs _ _ (g2 i hi');have hc:aC prog 82 [p.au[i].v] (.agg [.d (.s (zS p.au[i]).aG),.d (.sl ((zS p.au[i]).ah.map aj.enc))]):=F5 p.au[i] (by omega);refine W3 ?_;refine aX hc ?_;refine W1 ?_;refine W3 ?_;rw[hs];exact bL 5 (by decide) (i+1) (by omega) rfl rfl rfl rfl (by omega)
 have hi':i=p.au.length:=by omega
 subst hi';clear hi hl h
 refine aR (ι:=Nat) zmx rfl [1,2,3,6] (fun i=>[.c (.ptr (0,0) 0),.c (.ptr (0,1) 0),.c (.ptr (0,4) 0),.c (.d (.i .i64 i))])
  (fun i=>[.box [.d (.s p.fName),.d (.sl (p.fJ.map encS)),.d (.sl (p.aL.map bE.enc)),.d (.sl (p.au.map aU.enc)),.d (.sl (p.aI.map aT.enc)),.d (.sl (p.aO.map aV.enc))],.box [.d (.s []),.bn []],.box [.d (.s []),.bB (0,3) (T 3)],.tok 2 (T (3+p.aL.length+p.au.length+i)),.box [.d (.s []),.bB (0,3) (T (3+p.aL.length+p.au.length+i))]]::S)
  (fun i=>i<=p.aI.length) (fun i=>p.aI.length-i) 0 rfl rfl (Nat.zero_le _) ?_
 intro i hi;have hl:=fP (3+p.aL.length+p.au.length+i);refine W1 ?_;refine S0 (fun hb h=>?_) fun hb h=>?_
 ·have hi':i<p.aI.length:=by omega
  have hm:=List.getElem_mem hi';have hcz:=cB (List.mem_map_of_mem (f:=aT.enc) hm);have yH:p.aI[i].sz<=bf (p.aI.map aT.enc):=hcz;have hs:=hTs _ _ (g3 i hi');have hc:aC prog 83 [p.aI[i].v] (.agg [.d (.s (AX p.aI[i]).aG),.d (.sl ((AX p.aI[i]).ah.map aj.enc))]):=NC p.aI[i] (by omega);refine W3 ?_;refine aX hc ?_;refine W1 ?_;refine W3 ?_;rw[hs];exact bL 5 (by decide) (i+1) (by omega) rfl rfl rfl rfl (by omega)
 have hi':i=p.aI.length:=by omega
 subst hi';clear hi hl h
 refine aR (ι:=Nat) zmx rfl [1,2,3,7] (fun i=>[.c (.ptr (0,0) 0),.c (.ptr (0,1) 0),.c (.ptr (0,4) 0),.c (.d (.i .i64 i))])
  (fun i=>[.box [.d (.s p.fName),.d (.sl (p.fJ.map encS)),.d (.sl (p.aL.map bE.enc)),.d (.sl (p.au.map aU.enc)),.d (.sl (p.aI.map aT.enc)),.d (.sl (p.aO.map aV.enc))],.box [.d (.s []),.bn []],.box [.d (.s []),.bB (0,3) (T 3)],.tok 2 (T (3+p.aL.length+p.au.length+p.aI.length+i)),.box [.d (.s []),.bB (0,3) (T (3+p.aL.length+p.au.length+p.aI.length+i))]]::S)
  (fun i=>i<=p.aO.length) (fun i=>p.aO.length-i) 0 rfl rfl (Nat.zero_le _) ?_
 intro i hi;have hl:=fP (3+p.aL.length+p.au.length+p.aI.length+i);refine W1 ?_;refine S0 (fun hb h=>?_) fun hb h=>?_
 ·have hi':i<p.aO.length:=by omega
  have hm:=List.getElem_mem hi';have hcz:=cB (List.mem_map_of_mem (f:=aV.enc) hm);have yH:p.aO[i].sz<=bf (p.aO.map aV.enc):=hcz;have hs:=hTs _ _ (g4 i hi');have hc:aC prog 84 [p.aO[i].v] (.agg [.d (.s (CF p.aO[i]).aG),.d (.sl ((CF p.aO[i]).ah.map aj.enc))]):=KL p.aO[i] (by omega);refine W3 ?_;refine aX hc ?_;refine W1 ?_;refine W3 ?_;rw[hs];exact bL 5 (by decide) (i+1) (by omega) rfl rfl rfl rfl (by omega)
 have hi':i=p.aO.length:=by omega
 subst hi';clear hi hl h;have hps:=TP hv
 have hq:∀j,PL[3+j]? =(oJ p)[j]? :=fun j=>by
  rw[zh,List.getElem?_append_right (by simp[d9])];congr 1;simp[d9]
 have hSP:oJ p=fC p:=by
  rw[hps];exact(List.map_congr_left fun x hx=>by show sI x=x;rw[sI,if_pos (hall x hx)]).trans (List.map_id _)
 have hPP:PL.map aj.enc=(oZ p).ah.map aj.enc:=by rw[zh,hSP];rfl
 have hok:∀j (hj:3+j<PL.length),PL[3+j].ah≠[]:=fun j hj=>by
  have h1:=(hq j).symm.trans (List.getElem?_eq_getElem hj);exact agl (p:=p) _ (by rw[<-hSP];exact List.mem_of_getElem? h1)
 rw[hTe]
 refine aR (ι:=Nat) zmx rfl [2,3,8] (fun i=>[.c (.ptr (0,1) 0),.c (.ptr (0,4) 0),.c (.d (.i .i64 ((3+i:Nat):Int)))])
  (fun i=>[.box [.d (.s p.fName),.d (.sl (p.fJ.map encS)),.d (.sl (p.aL.map bE.enc)),.d (.sl (p.au.map aU.enc)),.d (.sl (p.aI.map aT.enc)),.d (.sl (p.aO.map aV.enc))],.box [.d (.s []),.bn []],.box [.d (.s []),.bB (0,3) (T 3)],.tok 2 (PL.map aj.enc),.box [.d (.s []),.bB (0,3) (PL.map aj.enc)]]::S)
  (fun i=>3+i<=PL.length/\∀j (hj:3+j<PL.length),j<i->PL[3+j].ah≠[]) (fun i=>PL.length-i) 0 rfl rfl ⟨by omega,fun j hj h=>by omega⟩ ?_
 rintro i ⟨hi,hj⟩;refine W1 ?_;refine S0 (fun hb h=>?_) fun hb h=>?_
 ·have hi':3+i<PL.length:=by omega
  have hne:=hok i hi';refine S0 (fun hb h=>?_) fun hb h=>?_
  ·exact absurd (List.eq_nil_of_length_eq_zero (by omega)) hne
  ·exact bV (i+1) (by omega) rfl rfl ⟨by omega,fun j hj' hlt=>hok j hj'⟩
 ·rw[hPP];refine C1 (q8 true (oZ p) (by omega)) ?_;rfl
theorem ajD(p:aJ)(hv:validPkg p=true)(hsz:p.sz<=1048576)(hall:¬∀x∈fC p,dI x=true):aC prog 44 [p.v] (.agg [.d (.s []),.bn []]):=fun S=>by
 have hdz:=aJ.sum p;rw[dB] at hdz;obtain⟨v1,v2,v3,v4,v5⟩:=rD hv;obtain⟨hz,hzp⟩:=Qm hv;obtain⟨PL,zh⟩:∃PL:List aj,PL=d9 p++oJ p:=⟨_,rfl⟩;obtain⟨T,hT⟩:∃T:Nat->List (List D),T=fun i=>(PL.take i).map aj.enc:=⟨_,rfl⟩
 have EP:T 3=[[.s RA,.sl []],[.s p.fName,.sl []],[.s [],.sl ((aP p.fJ).map aj.enc)]]:=by
  rw[hT,zh];simp only[d9,List.cons_append,List.nil_append,List.take_succ_cons,List.take_zero,List.map_cons,List.map_nil,fB,jE]
 have hlp:=Qj p;rw[<-zh] at hlp
 have fP:∀i,(T i).length<=i:=fun i=>by
  rw[hT];simp only[List.length_map];exact List.length_take_le i _
 have hTs:∀(i:Nat)(x:aj),PL[i]? =some x->T i++[[.s x.aG,.sl (x.ah.map aj.enc)]]=T (i+1):=fun i x hx=>by
  obtain⟨hi,hg⟩:=List.getElem?_eq_some_iff.1 hx;have:=ji (base:=[]) (l:=PL) hi;rw[hg] at this;rw[hT];exact this
 have hTr:∀i,∀r∈T i,r.length=2:=fun i=>by rw[hT];exact gJ
 have g1:=fun i hi=>TL (p:=p) (i:=i) hi;have g2:=fun i hi=>TM (p:=p) (i:=i) hi;have g3:=fun i hi=>Ql (p:=p) (i:=i) hi;have g4:=fun i hi=>TN (p:=p) (i:=i) hi;rw[<-zh] at g1 g2 g3 g4
 have hTe:T (3+p.aL.length+p.au.length+p.aI.length+p.aO.length)=PL.map aj.enc:=by
  rw[hT];simp only
  rw[List.take_of_length_le (by omega)]
 clear hT;refine zcx [.cell 2 64] func44 ntmps44 ?_;refine W1 ?_;refine aX (vY p (by omega)) ?_;simp -implicitDefEqProofs (disch:=omega) only[go_sem,hv];refine C1 (bN _) ?_;refine C1 (bN _) ?_;refine C1 (dU p.fJ (by omega)) ?_;have hE:=fun bP Ω=>jR (T 3) (hTr 3) (by have:=fP 3;omega) bP Ω;simp only[EP] at hE;refine mQ [false] rfl (hE _ _) ?_;refine W1 ?_
 refine aR (ι:=Nat) zmx rfl [1,2,3,4] (fun i=>[.c (.ptr (0,0) 0),.c (.ptr (0,1) 0),.c (.ptr (0,4) 0),.c (.d (.i .i64 i))])
  (fun i=>[.box [.d (.s p.fName),.d (.sl (p.fJ.map encS)),.d (.sl (p.aL.map bE.enc)),.d (.sl (p.au.map aU.enc)),.d (.sl (p.aI.map aT.enc)),.d (.sl (p.aO.map aV.enc))],.box [.d (.s []),.bn []],.box [.d (.s []),.bB (0,3) (T 3)],.tok 2 (T (3+i)),.box [.d (.s []),.bB (0,3) (T (3+i))]]::S)
  (fun i=>i<=p.aL.length) (fun i=>p.aL.length-i) 0 rfl (by simp only[EP]<;>(try rfl)) (Nat.zero_le _) ?_
 intro i hi;have hl:=fP (3+i);refine W1 ?_;refine S0 (fun hb h=>?_) fun hb h=>?_
 ·have hi':i<p.aL.length:=by omega
  have hm:=List.getElem_mem hi';have hcz:=cB (List.mem_map_of_mem (f:=bE.enc) hm);have yH:p.aL[i].sz<=bf (p.aL.map bE.enc):=hcz;have hs:=hTs _ _ (g1 i hi');have hc:aC prog 81 [p.aL[i].v] (.agg [.d (.s (uU p.aL[i]).aG),.d (.sl ((uU p.aL[i]).ah.map aj.enc))]):=KW p.aL[i] (by omega);refine W3 ?_;refine aX hc ?_;refine W1 ?_;refine W3 ?_;rw[hs];exact bL 5 (by decide) (i+1) (by omega) rfl rfl rfl rfl (by omega)
 have hi':i=p.aL.length:=by omega
 subst hi';clear hi hl h
 refine aR (ι:=Nat) zmx rfl [1,2,3,5] (fun i=>[.c (.ptr (0,0) 0),.c (.ptr (0,1) 0),.c (.ptr (0,4) 0),.c (.d (.i .i64 i))])
  (fun i=>[.box [.d (.s p.fName),.d (.sl (p.fJ.map encS)),.d (.sl (p.aL.map bE.enc)),.d (.sl (p.au.map aU.enc)),.d (.sl (p.aI.map aT.enc)),.d (.sl (p.aO.map aV.enc))],.box [.d (.s []),.bn []],.box [.d (.s []),.bB (0,3) (T 3)],.tok 2 (T (3+p.aL.length+i)),.box [.d (.s []),.bB (0,3) (T (3+p.aL.length+i))]]::S)
  (fun i=>i<=p.au.length) (fun i=>p.au.length-i) 0 rfl rfl (Nat.zero_le _) ?_
 intro i hi;have hl:=fP (3+p.aL.length+i);refine W1 ?_;refine S0 (fun hb h=>?_) fun hb h=>?_
 ·have hi':i<p.au.length:=by omega
  have hm:=List.getElem_mem hi';have hcz:=cB (List.mem_map_of_mem (f:=aU.enc) hm);have yH:p.au[i].sz<=bf (p.au.map aU.enc):=hcz;have hs:=hTs _ _ (g2 i hi');have hc:aC prog 82 [p.au[i].v] (.agg [.d (.s (zS p.au[i]).aG),.d (.sl ((zS p.au[i]).ah.map aj.enc))]):=F5 p.au[i] (by omega);refine W3 ?_;refine aX hc ?_;refine W1 ?_;refine W3 ?_;rw[hs];exact bL 5 (by decide) (i+1) (by omega) rfl rfl rfl rfl (by omega)
 have hi':i=p.au.length:=by omega
 subst hi';clear hi hl h
 refine aR (ι:=Nat) zmx rfl [1,2,3,6] (fun i=>[.c (.ptr (0,0) 0),.c (.ptr (0,1) 0),.c (.ptr (0,4) 0),.c (.d (.i .i64 i))])
  (fun i=>[.box [.d (.s p.fName),.d (.sl (p.fJ.map encS)),.d (.sl (p.aL.map bE.enc)),.d (.sl (p.au.map aU.enc)),.d (.sl (p.aI.map aT.enc)),.d (.sl (p.aO.map aV.enc))],.box [.d (.s []),.bn []],.box [.d (.s []),.bB (0,3) (T 3)],.tok 2 (T (3+p.aL.length+p.au.length+i)),.box [.d (.s []),.bB (0,3) (T (3+p.aL.length+p.au.length+i))]]::S)
  (fun i=>i<=p.aI.length) (fun i=>p.aI.length-i) 0 rfl rfl (Nat.zero_le _) ?_
 intro i hi;have hl:=fP (3+p.aL.length+p.au.length+i);refine W1 ?_;refine S0 (fun hb h=>?_) fun hb h=>?_
 ·have hi':i<p.aI.length:=by omega
  have hm:=List.getElem_mem hi';have hcz:=cB (List.mem_map_of_mem (f:=aT.enc) hm);have yH:p.aI[i].sz<=bf (p.aI.map aT.enc):=hcz;have hs:=hTs _ _ (g3 i hi');have hc:aC prog 83 [p.aI[i].v] (.agg [.d (.s (AX p.aI[i]).aG),.d (.sl ((AX p.aI[i]).ah.map aj.enc))]):=NC p.aI[i] (by omega);refine W3 ?_;refine aX hc ?_;refine W1 ?_;refine W3 ?_;rw[hs];exact bL 5 (by decide) (i+1) (by omega) rfl rfl rfl rfl (by omega)
 have hi':i=p.aI.length:=by omega
 subst hi';clear hi hl h
 refine aR (ι:=Nat) zmx rfl [1,2,3,7] (fun i=>[.c (.ptr (0,0) 0),.c (.ptr (0,1) 0),.c (.ptr (0,4) 0),.c (.d (.i .i64 i))])
  (fun i=>[.box [.d (.s p.fName),.d (.sl (p.fJ.map encS)),.d (.sl (p.aL.map bE.enc)),.d (.sl (p.au.map aU.enc)),.d (.sl (p.aI.map aT.enc)),.d (.sl (p.aO.map aV.enc))],.box [.d (.s []),.bn []],.box [.d (.s []),.bB (0,3) (T 3)],.tok 2 (T (3+p.aL.length+p.au.length+p.aI.length+i)),.box [.d (.s []),.bB (0,3) (T (3+p.aL.length+p.au.length+p.aI.length+i))]]::S)
  (fun i=>i<=p.aO.length) (fun i=>p.aO.length-i) 0 rfl rfl (Nat.zero_le _) ?_
 intro i hi;have hl:=fP (3+p.aL.length+p.au.length+p.aI.length+i);refine W1 ?_;refine S0 (fun hb h=>?_) fun hb h=>?_
 ·have hi':i<p.aO.length:=by omega
  have hm:=List.getElem_mem hi';have hcz:=cB (List.mem_map_of_mem (f:=aV.enc) hm);have yH:p.aO[i].sz<=bf (p.aO.map aV.enc):=hcz;have hs:=hTs _ _ (g4 i hi');have hc:aC prog 84 [p.aO[i].v] (.agg [.d (.s (CF p.aO[i]).aG),.d (.sl ((CF p.aO[i]).ah.map aj.enc))]):=KL p.aO[i] (by omega);refine W3 ?_;refine aX hc ?_;refine W1 ?_;refine W3 ?_;rw[hs];exact bL 5 (by decide) (i+1) (by omega) rfl rfl rfl rfl (by omega)
 have hi':i=p.aO.length:=by omega
 subst hi';clear hi hl h;have hps:=TP hv
 have hq:∀j,PL[3+j]? =(oJ p)[j]? :=fun j=>by
  rw[zh,List.getElem?_append_right (by simp[d9])];congr 1;simp[d9]
 rw[hTe]
 refine aR (ι:=Nat) zmx rfl [2,3,8] (fun i=>[.c (.ptr (0,1) 0),.c (.ptr (0,4) 0),.c (.d (.i .i64 ((3+i:Nat):Int)))])
  (fun i=>[.box [.d (.s p.fName),.d (.sl (p.fJ.map encS)),.d (.sl (p.aL.map bE.enc)),.d (.sl (p.au.map aU.enc)),.d (.sl (p.aI.map aT.enc)),.d (.sl (p.aO.map aV.enc))],.box [.d (.s []),.bn []],.box [.d (.s []),.bB (0,3) (T 3)],.tok 2 (PL.map aj.enc),.box [.d (.s []),.bB (0,3) (PL.map aj.enc)]]::S)
  (fun i=>3+i<=PL.length/\∀j (hj:3+j<PL.length),j<i->PL[3+j].ah≠[]) (fun i=>PL.length-i) 0 rfl rfl ⟨by omega,fun j hj h=>by omega⟩ ?_
 rintro i ⟨hi,hj⟩;refine W1 ?_;refine S0 (fun hb h=>?_) fun hb h=>?_
 ·have hi':3+i<PL.length:=by omega
  refine S1 fun hb h=>?_
  exact bV (i+1) (by omega) rfl rfl ⟨by omega,fun j hj' hlt=>by
   by_cases e:j=i
   ·subst e;exact fun hn=>h (by rw[hn];rfl)
   ·exact hj j hj' (by omega)⟩
 ·exact absurd (fun x hx=>by
   have hm:sI x∈oJ p:=by rw[hps];exact List.mem_map_of_mem hx
   obtain⟨j,hj1,hj2⟩:=List.getElem_of_mem hm
   have hx2:PL[3+j]? =some (sI x):=by rw[hq j,List.getElem?_eq_getElem hj1,hj2]
   obtain⟨hb,hg⟩:=List.getElem?_eq_some_iff.1 hx2;have h5:=hj j hb (by omega);rw[hg] at h5
   cases tY:dI x with
   |true=>rfl
   |false=>exact absurd (by rw[sI,if_neg (by rw[tY];decide)];rfl) h5) hall
theorem adn(x:aJ)(hsz:x.sz<=1048576):aC prog 44 [x.v] (jT x).v:=by
 unfold jT
 cases hv:validPkg x with
 |false=>
  rw[Bool.false_and,qM];refine aC.less (fun S=> ?_) (AJ [] []);refine zcx [.cell 2 64] func44 ntmps44 ?_;refine W1 ?_;refine aX (vY x (by omega)) ?_;simp -implicitDefEqProofs (disch:=omega) only[go_sem,hv]
 |true=>
  rw[Bool.true_and]
  cases ha:(fC x).all dI with
  |true=>exact ajC x hv hsz (List.all_eq_true.1 ha)
  |false=>
   rw[qM];refine aC.less (ajD x hv hsz fun h=> ?_) (AJ [] []);rw[List.all_eq_true.2 h] at ha;cases ha
end Go.Ab