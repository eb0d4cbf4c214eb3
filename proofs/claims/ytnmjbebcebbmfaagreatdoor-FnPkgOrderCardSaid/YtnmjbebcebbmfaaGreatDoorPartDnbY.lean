/-
  SEVERAL TEXTS IN ONE (merged by program): contracts and models, each with its own heading.
-/
import Derived.Test.YtnmjbebcebbmfaaGreatDoorPartDnbT
import Derived.Test.YtnmjbebcebbmfaaGreatDoorPartDnbV
set_option maxHeartbeats 8000000
open Go.Proofs Go.Proofs.Tryz
set_option linter.unusedSimpArgs false
set_option linter.unusedVariables false
set_option maxRecDepth 4000
namespace Go.Ab
def gZ(p:aT):List (List UInt8):=p.aJ.map bI.fName
def jJ(p:aT):List (List UInt8):=p.ay.map aU.fName
def iR(ds:List aU):List (List UInt8):=ds.flatMap fun d=>d.aF.map bF.fName
def fnNames(p:aT):List (List UInt8):=p.aM.map aV.fName
def BQ(ps:List aT):List (List UInt8):=ps.flatMap gZ
def BR(ps:List aT):List (List UInt8):=ps.flatMap jJ
def BS(ps:List aT):List (List UInt8):=ps.flatMap fun p=>iR p.ay
def BU(ps:List aT):List (List UInt8):=ps.flatMap fnNames
noncomputable def ou(ps:List aT):Bool:=dec (BQ ps).Nodup&&(dec (BR ps).Nodup&&(dec (BS ps).Nodup&&dec (BU ps).Nodup))
theorem AX{α β:Type}(f:α->List β){xs:List α}{i:Nat}(hi:i<xs.length):(xs.take (i+1)).flatMap f=(xs.take i).flatMap f++f xs[i]:=by
 rw[bu hi,gh]
 simp
theorem xM{α β:Type}(f:α->List β)(g:α->List D)(h:∀x,(f x).length<=bX (g x)):∀xs:List α,(xs.flatMap f).length<=aS (xs.map g)
 |[]=>by simp[aS]
 |x::xs=>by
  have h1:=h x;have h2:=xM f g h xs;rw[List.flatMap_cons,ae,af,aS];omega
theorem anK(ds:List aU):(iR ds).length<=aS (ds.map aU.enc):=xM _ _ (fun d=>by
 rw[ab];simp only[aU.aC,bX,bT,D.sz,ab]
 omega) ds
theorem ZP(ps:List aT):(BQ ps).length<=aS (ps.map aT.enc)/\(BR ps).length<=aS (ps.map aT.enc)/\(BS ps).length<=aS (ps.map aT.enc)/\(BU ps).length<=aS (ps.map aT.enc):=by
 refine⟨xM _ _ (fun p=> ?_) ps,xM _ _ (fun p=> ?_) ps,xM _ _ (fun p=> ?_) ps,xM _ _ (fun p=> ?_) ps⟩
 ·simp only[gZ,aT.aC,bX,bT,D.sz,ab];omega
 ·simp only[jJ,aT.aC,bX,bT,D.sz,ab];omega
 ·have:=anK p.ay;simp only[aT.aC,bX,bT,D.sz,ab];omega
 ·simp only[fnNames,aT.aC,bX,bT,D.sz,ab];omega
theorem aT.bounds{x:aT}(h:x.sz<=4194304):x.fName.length<=4194304/\x.eY.length<=4194304/\x.aJ.length<=4194304/\x.ay.length<=4194304/\x.aH.length<=4194304/\x.aM.length<=4194304/\(iR x.ay).length<=4194304:=by
 have:=anK x.ay;simp only[aT.sz,aT.aC,bX,bT,D.sz,ab] at h;omega
theorem IB(xs:List (List UInt8))(x:List UInt8):xs.map encS++[[D.s x]]=(xs++[x]).map encS:=by simp[encS]
theorem abX(p:aT)(hsz:p.sz<=4194304):aD prog 68 [p.v] (.eu [(false,[.d (.sl ((gZ p).map encS))]),(false,[.d (.sl ((jJ p).map encS))]),(false,[.d (.sl ((iR p.ay).map encS))]),(false,[.d (.sl ((fnNames p).map encS))])]):=fun S=>by
 have hb0:=aT.bounds hsz;refine zcx [.tmp 2,.tmp 3,.tmp 4,.tmp 5] func68 ntmps68 ?_;refine W1 ?_;refine W3 ?_;refine nu 6 1 [] rfl gL ?_;refine nu 7 1 [] rfl gL ?_;refine nu 8 1 [] rfl gL ?_;refine nu 9 1 [] rfl gL ?_
 refine aZ (ι:=Nat×List (List UInt8)) zmx rfl [1,6,7,8,9,10] (fun y=>[.c (.ptr (0,0) 0),.c (.bJ (0,1) (y.2.map encS)),.c (.bJ (0,2) []),.c (.bJ (0,3) []),.c (.bJ (0,4) []),.c (.d (.i .i64 y.1))]) (fun y=>[.box (p.enc.map .d),.tok 1 (y.2.map encS),.tok 1 [],.tok 1 [],.tok 1 []]::S)
  (fun y=>y.1<=p.aJ.length/\y.2=(gZ p).take y.1) (fun y=>p.aJ.length-y.1) (0,[]) rfl ?_ ⟨an _,rfl⟩ ?_
 ·exact Z1
 rintro⟨i,a⟩ ⟨p1,p2⟩;simp only at p1 p2
 have pl:a.length<=p.aJ.length:=by rw[p2];simp[gZ];omega
 refine W1 ?_;refine S0 (fun hb h=>?_) fun hb h=>?_
 ·have hi:i<p.aJ.length:=gA
  refine W3 ?_;rw[IB];exact dH (i+1,a++[p.aJ[i].fName]) gC rfl rfl ⟨gC,by simp only;rw[p2,jk (by simpa [gZ] using hi)];simp[gZ]⟩
 have ha:a=gZ p:=by rw[p2,aE (by simp[gZ];omega)]
 clear p1 p2 pl hb h;subst ha
 refine aZ (ι:=Nat×List (List UInt8)×List (List UInt8)) zmx rfl [1,6,7,8,9,11] (fun y=>[.c (.ptr (0,0) 0),.c (.bJ (0,1) ((gZ p).map encS)),.c (.bJ (0,2) (y.2.1.map encS)),.c (.bJ (0,3) (y.2.2.map encS)),.c (.bJ (0,4) []),.c (.d (.i .i64 y.1))]) (fun y=>[.box (p.enc.map .d),.tok 1 ((gZ p).map encS),.tok 1 (y.2.1.map encS),.tok 1 (y.2.2.map encS),.tok 1 []]::S)
  (fun y=>y.1<=p.ay.length/\y.2.1=(jJ p).take y.1/\y.2.2=iR (p.ay.take y.1)) (fun y=>p.ay.length-y.1) (0,[],[]) rfl ?_ ⟨an _,rfl,rfl⟩ ?_
 ·exact Z1
 rintro⟨i,b,c⟩ ⟨p1,p2,p3⟩;simp only at p1 p2 p3
 have pl:b.length<=p.ay.length:=by rw[p2];simp[jJ];omega
 refine W1 ?_;refine S0 (fun hb h=>?_) fun hb h=>?_
 ·have hi:i<p.ay.length:=gA
  have e3:iR (p.ay.take (i+1))=c++p.ay[i].aF.map bF.fName:=by rw[p3];exact AX _ hi
  have hcl:(iR (p.ay.take (i+1))).length<=4194304:=by
   have h1:(iR (p.ay.take (i+1))).length<=(iR p.ay).length:=by
    conv=>rhs;rw[<-da (i+1) p.ay]
    unfold iR;rw[gh,ae];omega
   omega
  rw[e3,ae,ab] at hcl;refine W3 ?_;rw[IB]
  refine aZ (ι:=Nat×List (List UInt8)) zmx rfl [1,6,7,8,9,11,12] (fun y=>[.c (.ptr (0,0) 0),.c (.bJ (0,1) ((gZ p).map encS)),.c (.bJ (0,2) ((b++[p.ay[i].fName]).map encS)),.c (.bJ (0,3) (y.2.map encS)),.c (.bJ (0,4) []),.c (.d (.i .i64 i)),.c (.d (.i .i64 y.1))]) (fun y=>[.box (p.enc.map .d),.tok 1 ((gZ p).map encS),.tok 1 ((b++[p.ay[i].fName]).map encS),.tok 1 (y.2.map encS),.tok 1 []]::S)
   (fun y=>y.1<=p.ay[i].aF.length/\y.2=c++(p.ay[i].aF.map bF.fName).take y.1) (fun y=>p.ay[i].aF.length-y.1) (0,c) rfl ?_ ⟨an _,gL⟩ ?_
  ·exact Z1
  rintro⟨k,e⟩ ⟨q1,q2⟩;simp only at q1 q2
  have pl2:e.length<=4194304:=by rw[q2];simp;omega
  refine W1 ?_;refine W3 ?_;refine S0 (fun hb h=>?_) fun hb h=>?_
  ·have hk:k<p.ay[i].aF.length:=gA
   refine W3 ?_;rw[IB];exact dH (k+1,e++[p.ay[i].aF[k].fName]) gC rfl rfl ⟨gC,by simp only;rw[q2,jk (by simpa using hk)];simp⟩
  ·have hk:k=p.ay[i].aF.length:=gA
   have he:e=c++p.ay[i].aF.map bF.fName:=by rw[q2,aE gR]
   exact dH (i+1,b++[p.ay[i].fName],e) gC rfl rfl ⟨gC,by simp only;rw[p2,jk (by simpa [jJ] using hi)];simp[jJ],by simp only;rw[e3,he]⟩
 have hb1:b=jJ p:=by rw[p2,aE (by simp[jJ];omega)]
 have hc1:c=iR p.ay:=by rw[p3,aE gA]
 clear p1 p2 p3 pl hb h;subst hb1;subst hc1
 refine aZ (ι:=Nat×List (List UInt8)) zmx rfl [1,6,7,8,9,13] (fun y=>[.c (.ptr (0,0) 0),.c (.bJ (0,1) ((gZ p).map encS)),.c (.bJ (0,2) ((jJ p).map encS)),.c (.bJ (0,3) ((iR p.ay).map encS)),.c (.bJ (0,4) (y.2.map encS)),.c (.d (.i .i64 y.1))]) (fun y=>[.box (p.enc.map .d),.tok 1 ((gZ p).map encS),.tok 1 ((jJ p).map encS),.tok 1 ((iR p.ay).map encS),.tok 1 (y.2.map encS)]::S)
  (fun y=>y.1<=p.aM.length/\y.2=(fnNames p).take y.1) (fun y=>p.aM.length-y.1) (0,[]) rfl ?_ ⟨an _,rfl⟩ ?_
 ·exact Z1
 rintro⟨i,a⟩ ⟨p1,p2⟩;simp only at p1 p2
 have pl:a.length<=p.aM.length:=by rw[p2];simp[fnNames];omega
 refine W1 ?_;refine S0 (fun hb h=>?_) fun hb h=>?_
 ·have hi:i<p.aM.length:=gA
  refine W3 ?_;rw[IB];exact dH (i+1,a++[p.aM[i].fName]) gC rfl rfl ⟨gC,by simp only;rw[p2,jk (by simpa [fnNames] using hi)];simp[fnNames]⟩
 ·have ha:a=fnNames p:=by rw[p2,aE (by simp[fnNames];omega)]
  rw[ha]
def EI(a b c d:List (List UInt8))(rest:List Ab.Obj)(S:Store):Store:=
 (.box [.bH [],.bH [],.bH [],.bH []]:: .box [.bJ (0,2) (a.map encS),.bJ (0,3) (b.map encS),.bJ (0,4) (c.map encS),.bJ (0,5) (d.map encS)]:: .tok 1 (a.map encS):: .tok 1 (b.map encS):: .tok 1 (c.map encS):: .tok 1 (d.map encS)::rest)::S
theorem abY(ps:List aT)(hl:ps.length<=4194304)(hz:aS (ps.map aT.enc)<=4194304):aD prog 93 [.c (.d (.sl (ps.map aT.enc)))] (.agg [.d (.sl ((BQ ps).map encS)),.d (.sl ((BR ps).map encS)),.d (.sl ((BS ps).map encS)),.d (.sl ((BU ps).map encS))]):=fun S=>by
 have hn:=ZP ps;refine zcx [.cell 2 133] func93 ntmps93 ?_;refine W1 ?_;refine W3 ?_;refine uI 1 0 1 [] [.bH [],.bH [],.bH [],.bH []] rfl rfl gL ?_;refine uI 1 1 1 [] [.bJ (0,2) [],.bH [],.bH [],.bH []] rfl rfl gL ?_;refine uI 1 2 1 [] [.bJ (0,2) [],.bJ (0,3) [],.bH [],.bH []] rfl rfl gL ?_;refine uI 1 3 1 [] [.bJ (0,2) [],.bJ (0,3) [],.bJ (0,4) [],.bH []] rfl rfl gL ?_
 refine aZ (ι:=Nat×List (List UInt8)×List (List UInt8)×List (List UInt8)×List (List UInt8)) zmx rfl [2,3,15,16,17] (fun y=>[.c (.ptr (0,0) 0),.c (.ptr (0,1) 0),.c (.d (.sl (ps.map aT.enc))),.c (.d (.i .i64 ps.length)),.c (.d (.i .i64 y.1))])
  (fun y=>[.box [.bH [],.bH [],.bH [],.bH []],.box [.bJ (0,2) (y.2.1.map encS),.bJ (0,3) (y.2.2.1.map encS),.bJ (0,4) (y.2.2.2.1.map encS),.bJ (0,5) (y.2.2.2.2.map encS)],.tok 1 (y.2.1.map encS),.tok 1 (y.2.2.1.map encS),.tok 1 (y.2.2.2.1.map encS),.tok 1 (y.2.2.2.2.map encS)]::S)
  (fun y=>y.1<=ps.length/\y.2.1=BQ (ps.take y.1)/\y.2.2.1=BR (ps.take y.1)/\y.2.2.2.1=BS (ps.take y.1)/\y.2.2.2.2=BU (ps.take y.1)) (fun y=>ps.length-y.1) (0,[],[],[],[]) rfl rfl ⟨an _,rfl,rfl,rfl,rfl⟩ ?_
 rintro⟨i,a,b,c,d⟩ ⟨p1,p2,p3,p4,p5⟩;simp only at p1 p2 p3 p4 p5;refine W1 ?_;refine S0 (fun hb h=>?_) fun hb h=>?_
 ·have hi:i<ps.length:=gA
  have hp:ps[i].sz<=4194304:=by
   have hx:ps[i].sz<=aS (ps.map aT.enc):=dM (be (ac hi));omega
  refine W3 ?_
  have sub:∀(f:aT->List (List UInt8)),((ps.take (i+1)).flatMap f).length<=(ps.flatMap f).length:=fun f=>by
   conv=>rhs;rw[<-da (i+1) ps]
   rw[gh,ae];omega
  have e2:BQ (ps.take (i+1))=a++gZ ps[i]:=by rw[p2];exact AX _ hi
  have e3:BR (ps.take (i+1))=b++jJ ps[i]:=by rw[p3];exact AX _ hi
  have e4:BS (ps.take (i+1))=c++iR ps[i].ay:=by rw[p4];exact AX _ hi
  have e5:BU (ps.take (i+1))=d++fnNames ps[i]:=by rw[p5];exact AX _ hi
  have l2:(a++gZ ps[i]).length<=4194304:=by rw[<-e2];have:=sub gZ;unfold BQ at *;omega
  have l3:(b++jJ ps[i]).length<=4194304:=by rw[<-e3];have:=sub jJ;unfold BR at *;omega
  have l4:(c++iR ps[i].ay).length<=4194304:=by rw[<-e4];have:=sub (fun p=>iR p.ay);unfold BS at *;omega
  have l5:(d++fnNames ps[i]).length<=4194304:=by rw[<-e5];have:=sub fnNames;unfold BU at *;omega
  have hbp:=aT.bounds hp;rw[ae] at l2 l3 l4 l5
  refine aZ (ι:=Nat×List (List UInt8)) zmx rfl [2,3,5,15,16,17,22,23,24] (fun y=>[.c (.ptr (0,0) 0),.c (.ptr (0,1) 0),.c (.ptr (0,6) 0),.c (.d (.sl (ps.map aT.enc))),.c (.d (.i .i64 ps.length)),.c (.d (.i .i64 i)),.c (.d (.sl (ps[i].aJ.map bI.enc))),.c (.d (.i .i64 ps[i].aJ.length)),.c (.d (.i .i64 y.1))]) (fun y=>EI y.2 b c d [.box (ps[i].enc.map .d)] S)
   (fun y=>y.1<=ps[i].aJ.length/\y.2=a++(gZ ps[i]).take y.1) (fun y=>ps[i].aJ.length-y.1) (0,a) rfl ?_ ⟨an _,gL⟩ ?_
  ·unfold EI;exact Z1
  rintro⟨k,a'⟩ ⟨q1,q2⟩;simp only at q1 q2
  have ql:a'.length<=4194304:=by rw[q2];simp[gZ] at *;omega
  unfold EI;refine W1 ?_;refine S0 (fun hb h=>?_) fun hb h=>?_
  ·have hk:k<ps[i].aJ.length:=gA
   have ql':a'.length+1<=4194304:=by rw[q2];simp[gZ] at *;omega
   refine W3 ?_;rw[IB];exact bR 7 gE (k+1,a'++[ps[i].aJ[k].fName]) gC rfl rfl rfl rfl ⟨gC,by simp only;rw[q2,jk (by simpa [gZ] using hk)];simp[gZ]⟩
  have ha:a'=a++gZ ps[i]:=by rw[q2,aE (by simp[gZ];omega)]
  clear q1 q2 ql hb h;subst ha
  refine aZ (ι:=Nat×List (List UInt8)×List (List UInt8)) zmx rfl [2,3,5,15,16,17,37,38,39] (fun y=>[.c (.ptr (0,0) 0),.c (.ptr (0,1) 0),.c (.ptr (0,6) 0),.c (.d (.sl (ps.map aT.enc))),.c (.d (.i .i64 ps.length)),.c (.d (.i .i64 i)),.c (.d (.sl (ps[i].ay.map aU.enc))),.c (.d (.i .i64 ps[i].ay.length)),.c (.d (.i .i64 y.1))]) (fun y=>EI (a++gZ ps[i]) y.2.1 y.2.2 d [.box (ps[i].enc.map .d)] S)
   (fun y=>y.1<=ps[i].ay.length/\y.2.1=b++(jJ ps[i]).take y.1/\y.2.2=c++iR (ps[i].ay.take y.1)) (fun y=>ps[i].ay.length-y.1) (0,b,c) rfl ?_ ⟨an _,gL,by simp[iR]⟩ ?_
  ·unfold EI;exact Z1
  rintro⟨k',b',c'⟩ ⟨q1,q2,q3⟩;simp only at q1 q2 q3;unfold EI;refine W1 ?_;refine S0 (fun hb h=>?_) fun hb h=>?_
  ·have hk:k'<ps[i].ay.length:=gA
   have e6:iR (ps[i].ay.take (k'+1))=iR (ps[i].ay.take k')++ps[i].ay[k'].aF.map bF.fName:=AX _ hk
   have hcl:(iR (ps[i].ay.take (k'+1))).length<=(iR ps[i].ay).length:=by
    conv=>rhs;rw[<-da (k'+1) ps[i].ay]
    unfold iR;rw[gh,ae];omega
   have ql':b'.length+1<=4194304:=by rw[q2];simp[jJ] at *;omega
   have qc:c'.length+ps[i].ay[k'].aF.length<=4194304:=by
    rw[e6,ae,ab] at hcl;rw[q3,ae];omega
   refine W3 ?_;rw[IB]
   refine aZ (ι:=Nat×List (List UInt8)) zmx rfl [2,3,5,15,16,17,37,38,39,51,52,53] (fun y=>[.c (.ptr (0,0) 0),.c (.ptr (0,1) 0),.c (.ptr (0,6) 0),.c (.d (.sl (ps.map aT.enc))),.c (.d (.i .i64 ps.length)),.c (.d (.i .i64 i)),.c (.d (.sl (ps[i].ay.map aU.enc))),.c (.d (.i .i64 ps[i].ay.length)),.c (.d (.i .i64 k')),.c (.d (.sl (ps[i].ay[k'].aF.map bF.enc))),.c (.d (.i .i64 ps[i].ay[k'].aF.length)),.c (.d (.i .i64 y.1))]) (fun y=>EI (a++gZ ps[i]) (b'++[ps[i].ay[k'].fName]) y.2 d [.box (ps[i].enc.map .d),.box (ps[i].ay[k'].enc.map .d)] S)
    (fun y=>y.1<=ps[i].ay[k'].aF.length/\y.2=c'++(ps[i].ay[k'].aF.map bF.fName).take y.1) (fun y=>ps[i].ay[k'].aF.length-y.1) (0,c') rfl ?_ ⟨an _,gL⟩ ?_
   ·unfold EI;exact Z1
   rintro⟨m,c''⟩ ⟨r1,r2⟩;simp only at r1 r2
   have rl:c''.length<=4194304:=by rw[r2];simp;omega
   unfold EI;refine W1 ?_;refine S0 (fun hb h=>?_) fun hb h=>?_
   ·have hm:m<ps[i].ay[k'].aF.length:=gA
    have rl':c''.length+1<=4194304:=by rw[r2];simp;omega
    refine W3 ?_;rw[IB];exact bR 8 gE (m+1,c''++[ps[i].ay[k'].aF[m].fName]) gC rfl rfl rfl rfl ⟨gC,by simp only;rw[r2,jk (by simpa using hm)];simp⟩
   ·have hm:m=ps[i].ay[k'].aF.length:=gA
    have hc:c''=c'++ps[i].ay[k'].aF.map bF.fName:=by rw[r2,aE gR]
    exact bR 7 gE (k'+1,b'++[ps[i].ay[k'].fName],c'') gC rfl rfl rfl rfl ⟨gC,by simp only;rw[q2,jk (by simpa [jJ] using hk)];simp[jJ],by simp only;rw[hc,e6,q3,cf]⟩
  have hb':b'=b++jJ ps[i]:=by rw[q2,aE (by simp[jJ];omega)]
  have hc':c'=c++iR ps[i].ay:=by rw[q3,aE gA]
  clear q1 q2 q3 hb h;subst hb';subst hc'
  refine aZ (ι:=Nat×List (List UInt8)) zmx rfl [2,3,5,15,16,17,67,68,69] (fun y=>[.c (.ptr (0,0) 0),.c (.ptr (0,1) 0),.c (.ptr (0,6) 0),.c (.d (.sl (ps.map aT.enc))),.c (.d (.i .i64 ps.length)),.c (.d (.i .i64 i)),.c (.d (.sl (ps[i].aM.map aV.enc))),.c (.d (.i .i64 ps[i].aM.length)),.c (.d (.i .i64 y.1))]) (fun y=>EI (a++gZ ps[i]) (b++jJ ps[i]) (c++iR ps[i].ay) y.2 [.box (ps[i].enc.map .d)] S)
   (fun y=>y.1<=ps[i].aM.length/\y.2=d++(fnNames ps[i]).take y.1) (fun y=>ps[i].aM.length-y.1) (0,d) rfl ?_ ⟨an _,gL⟩ ?_
  ·unfold EI;exact Z1
  rintro⟨k4,d'⟩ ⟨q1,q2⟩;simp only at q1 q2
  have ql:d'.length<=4194304:=by rw[q2];simp[fnNames] at *;omega
  unfold EI;refine W1 ?_;refine S0 (fun hb h=>?_) fun hb h=>?_
  ·have hk:k4<ps[i].aM.length:=gA
   have ql':d'.length+1<=4194304:=by rw[q2];simp[fnNames] at *;omega
   refine W3 ?_;rw[IB];exact bR 7 gE (k4+1,d'++[ps[i].aM[k4].fName]) gC rfl rfl rfl rfl ⟨gC,by simp only;rw[q2,jk (by simpa [fnNames] using hk)];simp[fnNames]⟩
  ·have hd:d'=d++fnNames ps[i]:=by rw[q2,aE (by simp[fnNames];omega)]
   exact bR 6 gE (i+1,a++gZ ps[i],b++jJ ps[i],c++iR ps[i].ay,d') gC rfl rfl rfl rfl ⟨gC,e2.symm,e3.symm,e4.symm,by simp only;rw[hd,e5]⟩
 ·have hi:i=ps.length:=gA
  rw[aE gA] at p2 p3 p4 p5;rw[p2,p3,p4,p5]
theorem ZQ(ps:List aT)(hl:ps.length<=4194304)(hz:aS (ps.map aT.enc)<=4194304):aD prog 33 [.c (.d (.sl (ps.map aT.enc)))] (.c (.d (.b (ou ps)))):=fun S=>by
 have hn:=ZP ps;refine zcx [.tmp 2] func33 ntmps33 ?_;refine W1 ?_;refine C2 (abY ps hl hz) ?_
 refine aZ (ι:=Int) zmx rfl [6,7] (fun i=>[.agg [.d (.sl ((BQ ps).map encS)),.d (.sl ((BR ps).map encS)),.d (.sl ((BS ps).map encS)),.d (.sl ((BU ps).map encS))],.c (.d (.i .i64 i))]) (fun _=>[]::S)
  (fun i=>(0<=i/\i<=4)/\(1<=i->(BQ ps).Nodup)/\(2<=i->(BR ps).Nodup)/\(3<=i->(BS ps).Nodup)/\(4<=i->(BU ps).Nodup)) (fun i=>(4-i).toNat) 0 rfl rfl ⟨⟨gA,gA⟩,gA,gA,gA,gA⟩ ?_
 rintro i ⟨p0,p1,p2,p3,p4⟩
 have hi:i=0\/i=1\/i=2\/i=3\/i=4:=gA
 rcases hi with rfl|rfl|rfl|rfl|rfl
 ·refine W1 ?_;refine W3 ?_;refine C2 (qZ (BQ ps) gA) ?_;refine S0 (fun hb h=>?_) fun hb h=>?_
  ·exact aK (by unfold ou;rw[aO h];rfl)
  ·exact dH 1 gE rfl rfl ⟨⟨gA,gA⟩,fun _=>h,gA,gA,gA⟩
 ·refine W1 ?_;refine W3 ?_;refine C2 (qZ (BR ps) gA) ?_;refine S0 (fun hb h=>?_) fun hb h=>?_
  ·exact aK (by unfold ou;rw[aO h];simp)
  ·exact dH 2 gE rfl rfl ⟨⟨gA,gA⟩,fun _=>p1 gA,fun _=>h,gA,gA⟩
 ·refine W1 ?_;refine W3 ?_;refine C2 (qZ (BS ps) gA) ?_;refine S0 (fun hb h=>?_) fun hb h=>?_
  ·exact aK (by unfold ou;rw[aO h];simp)
  ·exact dH 3 gE rfl rfl ⟨⟨gA,gA⟩,fun _=>p1 gA,fun _=>p2 gA,fun _=>h,gA⟩
 ·refine W1 ?_;refine W3 ?_;refine C2 (qZ (BU ps) gA) ?_;refine S0 (fun hb h=>?_) fun hb h=>?_
  ·exact aK (by unfold ou;rw[aO h];simp)
  ·exact dH 4 gE rfl rfl ⟨⟨gA,gA⟩,fun _=>p1 gA,fun _=>p2 gA,fun _=>p3 gA,fun _=>h⟩
 ·refine W1 ?_;exact aK (by unfold ou;rw[bK (p1 gA),bK (p2 gA),bK (p3 gA),bK (p4 gA)];rfl)
noncomputable def vk(p:aT):Bool:=p.aJ.all dW&&(p.ay.all fK&&(p.aH.all fB&&p.aM.all j3))
noncomputable def uw(p:aT):Bool:=validName p.fName&&(dec (p.eY.length<=5)&&(je p.eY&&(!dec (p.fName∈p.eY)&&dec (p.aJ.length+p.ay.length+p.aH.length+p.aM.length<=24))))
noncomputable def validPkg(p:aT):Bool:=uw p&&(ou [p]&&vk p)
theorem aT.sum(x:aT):x.fName.length+(x.eY.length+aS (x.eY.map encS))+(x.aJ.length+aS (x.aJ.map bI.enc))+(x.ay.length+aS (x.ay.map aU.enc))+(x.aH.length+aS (x.aH.map aQ.enc))+(x.aM.length+aS (x.aM.map aV.enc))<=x.sz:=by
 simp only[aT.sz,aT.aC,bX,bT,D.sz,ab];omega
theorem yS{α:Type}{f:α->Bool}{xs:List α}{i:Nat}(hi:i<xs.length):(xs.drop i).all f=(f xs[i]&&(xs.drop (i+1)).all f):=by
 rw[cb hi,dv]
theorem UA(xs:List (List UInt8))(s:List UInt8)(hl:xs.length<=1073741824):aD prog 32 [.c (.d (.sl (xs.map encS))),.c (.d (.s s))] (.c (.d (.i .i64 (zL xs s)))):=fun S=>by
 refine zcx [.tmp 4] func32 ntmps32 ?_;refine W1 ?_;exact C4 (Vv xs s hl)
theorem uT(p:aT)(hsz:p.sz<=4194304):aD prog 10 [p.v] (.c (.d (.b (validPkg p)))):=fun S=>by
 have hs:=aT.sum p
 have hV:∀s∈p.eY,s.length<=4194304:=fun s h=>by have:=uO h;omega
 have no:uw p=false->V.c (.d (.b false))=V.c (.d (.b (validPkg p))):=fun h=>aK (by unfold validPkg;rw[h];rfl);have hu:=ZQ [p] gL (by simp[aS];have:bX p.enc=p.sz:=rfl;omega);have hix:decide (zL p.eY p.fName>=0)=dec (p.fName∈p.eY):=RF;refine zcx [.tmp 2] func10 ntmps10 ?_;refine W1 ?_;refine C2 (iU p.fName gA) ?_;refine S0 (fun hb h=>?_) fun hb h=>?_
 ·exact no (by unfold uw;rw[h];rfl)
 have k1:=h;refine S0 (fun hb h=>?_) fun hb h=>?_
 ·exact no (by unfold uw;rw[aO (show ¬p.eY.length<=5 by omega)];simp)
 have k2:=h;refine W3 ?_;refine C2 (qB p.eY gA hV) ?_;refine S0 (fun hb h=>?_) fun hb h=>?_
 ·exact no (by unfold uw;rw[h];simp)
 have k3:=h;refine W3 ?_;refine C1 (UA p.eY p.fName gA) ?_;rw[show decide (0<=zL p.eY p.fName)=dec (p.fName∈p.eY) from hix];refine S0 (fun hb h=>?_) fun hb h=>?_
 ·exact no (by unfold uw;rw[bK h];simp)
 have k4:=h;refine S0 (fun hb h=>?_) fun hb h=>?_
 ·exact no (by unfold uw;rw[aO (show ¬p.aJ.length+p.ay.length+p.aH.length+p.aM.length<=24 by omega)];simp)
 have hh:uw p=true:=by unfold uw;rw[k1,k3,bK (show p.eY.length<=5 by omega),aO k4,bK gA];rfl
 simp only[af,aw] at hu;refine W3 ?_;refine bn hu ?_;refine W1 ?_;clear hu hix no k1 k2 k3 k4
 have fin:validPkg p=((((ou [p]&&p.aJ.all dW)&&p.ay.all fK)&&p.aH.all fB)&&p.aM.all j3):=by unfold validPkg vk;rw[hh];simp[fW]
 generalize ou [p]=b0 at fin ⊢
 refine aZ (ι:=Nat×Bool) zmx rfl [1,3,56,57,58] (fun y=>[.c (.ptr (0,0) 0),.c (.d (.b y.2)),.c (.d (.sl (p.aJ.map bI.enc))),.c (.d (.i .i64 p.aJ.length)),.c (.d (.i .i64 y.1))]) (fun _=>[.box (p.enc.map .d)]::S)
  (fun y=>y.1<=p.aJ.length/\(y.2&&(p.aJ.drop y.1).all dW)=(b0&&p.aJ.all dW)) (fun y=>p.aJ.length-y.1) (0,b0) rfl ?_ ⟨an _,rfl⟩ ?_
 ·exact Z1
 rintro⟨i,b⟩ ⟨p1,p2⟩;simp only at p1 p2;refine W1 ?_;refine S0 (fun hb h=>?_) fun hb h=>?_
 ·have hi:i<p.aJ.length:=gA
  have hx:p.aJ[i].sz<=aS (p.aJ.map bI.enc):=dM (be (ac hi));rw[yS hi] at p2;refine W3 ?_;refine S0 (fun hb h=>?_) fun hb h=>?_
  ·have hb1:=h;rw[hb1,cd] at p2;refine C2 (EZ p.aJ[i] gA) ?_;exact bR 1 gE (i+1,dW p.aJ[i]) gC rfl rfl rfl rfl ⟨gC,p2⟩
  ·have hb1:=h;rw[hb1,en] at p2;exact bR 1 gE (i+1,false) gC rfl rfl rfl rfl ⟨gC,p2⟩
 rw[cA gA,eN,cD] at p2;rw[<-p2] at fin;clear p2 p1 hb h;generalize b=b1 at fin ⊢
 refine aZ (ι:=Nat×Bool) zmx rfl [1,3,69,70,71] (fun y=>[.c (.ptr (0,0) 0),.c (.d (.b y.2)),.c (.d (.sl (p.ay.map aU.enc))),.c (.d (.i .i64 p.ay.length)),.c (.d (.i .i64 y.1))]) (fun _=>[.box (p.enc.map .d)]::S)
  (fun y=>y.1<=p.ay.length/\(y.2&&(p.ay.drop y.1).all fK)=(b1&&p.ay.all fK)) (fun y=>p.ay.length-y.1) (0,b1) rfl ?_ ⟨an _,rfl⟩ ?_
 ·exact Z1
 rintro⟨i,b⟩ ⟨p1,p2⟩;simp only at p1 p2;refine W1 ?_;refine S0 (fun hb h=>?_) fun hb h=>?_
 ·have hi:i<p.ay.length:=gA
  have hx:p.ay[i].sz<=aS (p.ay.map aU.enc):=dM (be (ac hi));rw[yS hi] at p2;refine W3 ?_;refine S0 (fun hb h=>?_) fun hb h=>?_
  ·have hb1:=h;rw[hb1,cd] at p2;refine C2 (GQ p.ay[i] gA) ?_;exact bR 1 gE (i+1,fK p.ay[i]) gC rfl rfl rfl rfl ⟨gC,p2⟩
  ·have hb1:=h;rw[hb1,en] at p2;exact bR 1 gE (i+1,false) gC rfl rfl rfl rfl ⟨gC,p2⟩
 rw[cA gA,eN,cD] at p2;rw[<-p2] at fin;clear p2 p1 hb h;generalize b=b2 at fin ⊢
 refine aZ (ι:=Nat×Bool) zmx rfl [1,3,82,83,84] (fun y=>[.c (.ptr (0,0) 0),.c (.d (.b y.2)),.c (.d (.sl (p.aH.map aQ.enc))),.c (.d (.i .i64 p.aH.length)),.c (.d (.i .i64 y.1))]) (fun _=>[.box (p.enc.map .d)]::S)
  (fun y=>y.1<=p.aH.length/\(y.2&&(p.aH.drop y.1).all fB)=(b2&&p.aH.all fB)) (fun y=>p.aH.length-y.1) (0,b2) rfl ?_ ⟨an _,rfl⟩ ?_
 ·exact Z1
 rintro⟨i,b⟩ ⟨p1,p2⟩;simp only at p1 p2;refine W1 ?_;refine S0 (fun hb h=>?_) fun hb h=>?_
 ·have hi:i<p.aH.length:=gA
  have hx:p.aH[i].sz<=aS (p.aH.map aQ.enc):=dM (be (ac hi));rw[yS hi] at p2;refine W3 ?_;refine S0 (fun hb h=>?_) fun hb h=>?_
  ·have hb1:=h;rw[hb1,cd] at p2;refine C2 (GY p.aH[i] gA) ?_;exact bR 1 gE (i+1,fB p.aH[i]) gC rfl rfl rfl rfl ⟨gC,p2⟩
  ·have hb1:=h;rw[hb1,en] at p2;exact bR 1 gE (i+1,false) gC rfl rfl rfl rfl ⟨gC,p2⟩
 rw[cA gA,eN,cD] at p2;rw[<-p2] at fin;clear p2 p1 hb h;generalize b=b3 at fin ⊢
 refine aZ (ι:=Nat×Bool) zmx rfl [3,95,96,97] (fun y=>[.c (.d (.b y.2)),.c (.d (.sl (p.aM.map aV.enc))),.c (.d (.i .i64 p.aM.length)),.c (.d (.i .i64 y.1))]) (fun _=>[.box (p.enc.map .d)]::S)
  (fun y=>y.1<=p.aM.length/\(y.2&&(p.aM.drop y.1).all j3)=(b3&&p.aM.all j3)) (fun y=>p.aM.length-y.1) (0,b3) rfl ?_ ⟨an _,rfl⟩ ?_
 ·exact Z1
 rintro⟨i,b⟩ ⟨p1,p2⟩;simp only at p1 p2;refine W1 ?_;refine S0 (fun hb h=>?_) fun hb h=>?_
 ·have hi:i<p.aM.length:=gA
  have hx:p.aM[i].sz<=aS (p.aM.map aV.enc):=dM (be (ac hi));rw[yS hi] at p2;refine W3 ?_;refine S0 (fun hb h=>?_) fun hb h=>?_
  ·have hb1:=h;rw[hb1,cd] at p2;refine C2 (JU p.aM[i] gA) ?_;exact bR 1 gE (i+1,j3 p.aM[i]) gC rfl rfl rfl rfl ⟨gC,p2⟩
  ·have hb1:=h;rw[hb1,en] at p2;exact bR 1 gE (i+1,false) gC rfl rfl rfl rfl ⟨gC,p2⟩
 rw[cA gA,eN,cD] at p2;rw[<-p2] at fin;clear p2 p1 hb h;exact aK fin.symm
theorem abZ(p:aT)(hsz:p.sz<=4194304):aD prog 73 [p.v] (.c (.d (.b (vk p)))):=fun S=>by
 have hs:=aT.sum p;refine zcx [.tmp 2] func73 ntmps73 ?_;refine W1 ?_
 refine aZ (ι:=Nat) zmx rfl [1,3] (fun i=>[.c (.ptr (0,0) 0),.c (.d (.i .i64 i))]) (fun _=>[.box (p.enc.map .d)]::S)
  (fun i=>i<=p.aJ.length/\(p.aJ.drop i).all dW=p.aJ.all dW) (fun i=>p.aJ.length-i) 0 rfl ?_ ⟨an _,rfl⟩ ?_
 ·exact Z1
 rintro i ⟨p1,p2⟩;refine W1 ?_;refine S0 (fun hb h=>?_) fun hb h=>?_
 ·have hi:i<p.aJ.length:=gA
  have hx:p.aJ[i].sz<=aS (p.aJ.map bI.enc):=dM (be (ac hi));rw[yS hi] at p2;refine W3 ?_;refine C2 (rZ p.aJ[i] gA) ?_;refine S0 (fun hb h=>?_) fun hb h=>?_
  ·exact aK (by unfold vk;rw[<-p2,h];simp)
  ·rw[h,cd] at p2;exact dH (i+1) gA rfl rfl ⟨gA,p2⟩
 rw[cA gA,eN] at p2;have f3:=p2.symm;clear p2 p1 hb h
 refine aZ (ι:=Nat) zmx rfl [1,4] (fun i=>[.c (.ptr (0,0) 0),.c (.d (.i .i64 i))]) (fun _=>[.box (p.enc.map .d)]::S)
  (fun i=>i<=p.ay.length/\(p.ay.drop i).all fK=p.ay.all fK) (fun i=>p.ay.length-i) 0 rfl ?_ ⟨an _,rfl⟩ ?_
 ·exact Z1
 rintro i ⟨p1,p2⟩;refine W1 ?_;refine S0 (fun hb h=>?_) fun hb h=>?_
 ·have hi:i<p.ay.length:=gA
  have hx:p.ay[i].sz<=aS (p.ay.map aU.enc):=dM (be (ac hi));rw[yS hi] at p2;refine W3 ?_;refine C2 (GN p.ay[i] gA) ?_;refine S0 (fun hb h=>?_) fun hb h=>?_
  ·exact aK (by unfold vk;rw[<-p2,h];simp)
  ·rw[h,cd] at p2;exact dH (i+1) gA rfl rfl ⟨gA,p2⟩
 rw[cA gA,eN] at p2;have f4:=p2.symm;clear p2 p1 hb h
 refine aZ (ι:=Nat) zmx rfl [1,5] (fun i=>[.c (.ptr (0,0) 0),.c (.d (.i .i64 i))]) (fun _=>[.box (p.enc.map .d)]::S)
  (fun i=>i<=p.aH.length/\(p.aH.drop i).all fB=p.aH.all fB) (fun i=>p.aH.length-i) 0 rfl ?_ ⟨an _,rfl⟩ ?_
 ·exact Z1
 rintro i ⟨p1,p2⟩;refine W1 ?_;refine S0 (fun hb h=>?_) fun hb h=>?_
 ·have hi:i<p.aH.length:=gA
  have hx:p.aH[i].sz<=aS (p.aH.map aQ.enc):=dM (be (ac hi));rw[yS hi] at p2;refine W3 ?_;refine C2 (qh p.aH[i] gA) ?_;refine S0 (fun hb h=>?_) fun hb h=>?_
  ·exact aK (by unfold vk;rw[<-p2,h];simp)
  ·rw[h,cd] at p2;exact dH (i+1) gA rfl rfl ⟨gA,p2⟩
 rw[cA gA,eN] at p2;have f5:=p2.symm;clear p2 p1 hb h
 refine aZ (ι:=Nat) zmx rfl [1,6] (fun i=>[.c (.ptr (0,0) 0),.c (.d (.i .i64 i))]) (fun _=>[.box (p.enc.map .d)]::S)
  (fun i=>i<=p.aM.length/\(p.aM.drop i).all j3=p.aM.all j3) (fun i=>p.aM.length-i) 0 rfl ?_ ⟨an _,rfl⟩ ?_
 ·exact Z1
 rintro i ⟨p1,p2⟩;refine W1 ?_;refine S0 (fun hb h=>?_) fun hb h=>?_
 ·have hi:i<p.aM.length:=gA
  have hx:p.aM[i].sz<=aS (p.aM.map aV.enc):=dM (be (ac hi));rw[yS hi] at p2;refine W3 ?_;refine C2 (CG p.aM[i] gA) ?_;refine S0 (fun hb h=>?_) fun hb h=>?_
  ·exact aK (by unfold vk;rw[<-p2,h];simp)
  ·rw[h,cd] at p2;exact dH (i+1) gA rfl rfl ⟨gA,p2⟩
 rw[cA gA,eN] at p2;have f6:=p2.symm;clear p2 p1 hb h;exact aK (by unfold vk;rw[f3,f4,f5,f6];rfl)
theorem arw(p:aT):BQ [p]=gZ p:=by simp[BQ]
theorem arx(p:aT):BR [p]=jJ p:=by simp[BR]
theorem arz(p:aT):BS [p]=iR p.ay:=by simp[BS]
theorem arA(p:aT):BU [p]=fnNames p:=by simp[BU]
theorem xZ(p:aT)(hsz:p.sz<=4194304):aD prog 25 [p.v] (.c (.d (.b (validPkg p)))):=fun S=>by
 have hs:=aT.sum p;have hb:=aT.bounds hsz
 have hV:∀s∈p.eY,s.length<=4194304:=fun s h=>by have:=uO h;omega
 have l1:(gZ p).length<=1073741824:=by simp[gZ];omega
 have l2:(jJ p).length<=1073741824:=by simp[jJ];omega
 have l3:(iR p.ay).length<=1073741824:=gA
 have l4:(fnNames p).length<=1073741824:=by simp[fnNames];omega
 refine zcx [.tmp 2] func25 ntmps25 ?_;refine W1 ?_;refine C1 (abX p hsz) ?_
 repeat' (first
  |refine S0 (fun hb h=>?_) fun hb h=>?_
  |((with_reducible show fH _ _ 69 _ _ _ _);refine bn (iV p.fName gA) ?_;refine W1 ?_)
  |((with_reducible show fH _ _ 70 _ _ _ _);refine bn (nD p.eY 5 gA hV) ?_;refine W1 ?_)
  |((with_reducible show fH _ _ 71 _ _ _ _);refine bn (tL p.eY p.fName gA) ?_;refine W1 ?_)
  |((with_reducible show fH _ _ 72 _ _ _ _);refine bn (ru (gZ p) l1) ?_;refine W1 ?_)
  |((with_reducible show fH _ _ 72 _ _ _ _);refine bn (ru (jJ p) l2) ?_;refine W1 ?_)
  |((with_reducible show fH _ _ 72 _ _ _ _);refine bn (ru (iR p.ay) l3) ?_;refine W1 ?_)
  |((with_reducible show fH _ _ 72 _ _ _ _);refine bn (ru (fnNames p) l4) ?_;refine W1 ?_)
  |((with_reducible show fH _ _ 73 _ _ _ _);refine bn (abZ p hsz) ?_;refine W1 ?_)
  |(refine aK ?_;unfold validPkg uw ou;rw[arw,arx,arz,arA];grind [gD,jw,bK,aO]))
def UC:List UInt8:=[112,97,99,107,97,103,101]
def fT(p:aT):List ah:=p.aJ.map kF++(p.ay.map uQ++(p.aH.map qw++p.aM.map xu))
noncomputable def pX(p:aT):List ah:=p.aJ.map wQ++(p.ay.map BJ++(p.aH.map CX++p.aM.map ED))
def eU(p:aT):List ah:=[bN UC,bN p.fName,bL (aR p.eY)]
def tV(p:aT):ah:=bL (eU p++fT p)
noncomputable def vo(p:aT):ah:=sD (validPkg p&&(fT p).all dQ) (tV p)
theorem aps{p:aT}(h:p.sz<=1048576):(vo p).sz<=1048576:=co (FV _ _) gE
theorem wR(p:aT):(eU p++fT p).length=3+p.aJ.length+p.ay.length+p.aH.length+p.aM.length:=by simp[eU,fT];omega
theorem SK(p:aT):(eU p++pX p).length=3+p.aJ.length+p.ay.length+p.aH.length+p.aM.length:=by simp[eU,pX];omega
theorem V3{p:aT}{i:Nat}(hi:i<p.aJ.length):(eU p++fT p)[3+i]? =some (kF p.aJ[i]):=by
 unfold fT;rw[ag (by simp[eU]<;>omega),aq (by simp[eU]<;>omega),bE]
 have e:3+i-(eU p).length=i:=by simp[eU]<;>omega
 rw[e,am hi];rfl
theorem V4{p:aT}{i:Nat}(hi:i<p.ay.length):(eU p++fT p)[3+p.aJ.length+i]? =some (uQ p.ay[i]):=by
 unfold fT;rw[ag (by simp[eU]<;>omega),ag (by simp[eU]<;>omega),aq (by simp[eU]<;>omega),bE]
 have e:3+p.aJ.length+i-(eU p).length-(p.aJ.map kF).length=i:=by simp[eU]<;>omega
 rw[e,am hi];rfl
theorem SL{p:aT}{i:Nat}(hi:i<p.aH.length):(eU p++fT p)[3+p.aJ.length+p.ay.length+i]? =some (qw p.aH[i]):=by
 unfold fT;rw[ag (by simp[eU]<;>omega),ag (by simp[eU]<;>omega),ag (by simp[eU]<;>omega),aq (by simp[eU]<;>omega),bE]
 have e:3+p.aJ.length+p.ay.length+i-(eU p).length-(p.aJ.map kF).length-(p.ay.map uQ).length=i:=by simp[eU]<;>omega
 rw[e,am hi];rfl
theorem V5{p:aT}{i:Nat}(hi:i<p.aM.length):(eU p++fT p)[3+p.aJ.length+p.ay.length+p.aH.length+i]? =some (xu p.aM[i]):=by
 unfold fT;rw[ag (by simp[eU]<;>omega),ag (by simp[eU]<;>omega),ag (by simp[eU]<;>omega),ag (by simp[eU]<;>omega),bE]
 have e:3+p.aJ.length+p.ay.length+p.aH.length+i-(eU p).length-(p.aJ.map kF).length-(p.ay.map uQ).length-(p.aH.map qw).length=i:=by simp[eU]<;>omega
 rw[e,am hi];rfl
theorem V6{p:aT}{i:Nat}(hi:i<p.aJ.length):(eU p++pX p)[3+i]? =some (wQ p.aJ[i]):=by
 unfold pX;rw[ag (by simp[eU]<;>omega),aq (by simp[eU]<;>omega),bE]
 have e:3+i-(eU p).length=i:=by simp[eU]<;>omega
 rw[e,am hi];rfl
theorem V7{p:aT}{i:Nat}(hi:i<p.ay.length):(eU p++pX p)[3+p.aJ.length+i]? =some (BJ p.ay[i]):=by
 unfold pX;rw[ag (by simp[eU]<;>omega),ag (by simp[eU]<;>omega),aq (by simp[eU]<;>omega),bE]
 have e:3+p.aJ.length+i-(eU p).length-(p.aJ.map wQ).length=i:=by simp[eU]<;>omega
 rw[e,am hi];rfl
theorem SN{p:aT}{i:Nat}(hi:i<p.aH.length):(eU p++pX p)[3+p.aJ.length+p.ay.length+i]? =some (CX p.aH[i]):=by
 unfold pX;rw[ag (by simp[eU]<;>omega),ag (by simp[eU]<;>omega),ag (by simp[eU]<;>omega),aq (by simp[eU]<;>omega),bE]
 have e:3+p.aJ.length+p.ay.length+i-(eU p).length-(p.aJ.map wQ).length-(p.ay.map BJ).length=i:=by simp[eU]<;>omega
 rw[e,am hi];rfl
theorem V8{p:aT}{i:Nat}(hi:i<p.aM.length):(eU p++pX p)[3+p.aJ.length+p.ay.length+p.aH.length+i]? =some (ED p.aM[i]):=by
 unfold pX;rw[ag (by simp[eU]<;>omega),ag (by simp[eU]<;>omega),ag (by simp[eU]<;>omega),ag (by simp[eU]<;>omega),bE]
 have e:3+p.aJ.length+p.ay.length+p.aH.length+i-(eU p).length-(p.aJ.map wQ).length-(p.ay.map BJ).length-(p.aH.map CX).length=i:=by simp[eU]<;>omega
 rw[e,am hi];rfl
theorem G5{α:Type}(f:α->ah)(e:α->List D)(sz:α->Nat)(hs:∀a,sz a=bX (e a))(c k:Nat):∀l:List α,(∀a∈l,(f a).sz<=c+k*sz a)->dx (l.map f)<=c*l.length+k*aS (l.map e)
 |[],_=>by simp[dx]
 |a::l,h=>by
  have h1:=h a (ey ..);have h2:=G5 f e sz hs c k l fun b hb=>h b (eC _ hb);rw[hs] at h1;rw[af,dx,af,aS,aa,Nat.mul_add,Nat.mul_add];omega
theorem tF{p:aT}(h:validPkg p=true):(∀t∈p.aJ,dW t=true)/\(∀t∈p.ay,fK t=true)/\(∀t∈p.aH,fB t=true)/\(∀t∈p.aM,j3 t=true)/\p.aJ.length+p.ay.length+p.aH.length+p.aM.length<=24:=by
 unfold validPkg uw vk at h;simp only[ai] at h;obtain⟨⟨_,_,_,_,h0⟩,_,h1,h2,h3,h4⟩:=h;exact⟨az.1 h1,az.1 h2,az.1 h3,az.1 h4,gD h0⟩
theorem SQ{p:aT}(hv:validPkg p=true):(tV p).sz<=4096+50*p.sz/\dx (fT p)<=4000+50*p.sz:=by
 obtain⟨v1,v2,v3,v4,v5⟩:=tF hv
 have h1:=G5 kF bI.enc bI.sz (fun _=>rfl) 96 49 p.aJ fun t ht=>by have:=JX (v1 t ht);omega
 have h2:=G5 uQ aU.enc aU.sz (fun _=>rfl) 96 49 p.ay fun t ht=>by have:=Zv t;omega
 have h3:=G5 qw aQ.enc aQ.sz (fun _=>rfl) 96 49 p.aH fun t ht=>by have:=JZ (v3 t ht);omega
 have h4:=G5 xu aV.enc aV.sz (fun _=>rfl) 96 49 p.aM fun t ht=>by have:=ZC (xw (v4 t ht)).2.2.2;omega
 have h5:=aT.sum p;rw[dN] at h5
 have h6:dx (fT p)<=4000+50*p.sz:=by
  unfold fT;rw[gQ,gQ,gQ];omega
 have h7:dx (fT p)=dx (p.aJ.map kF)+(dx (p.ay.map uQ)+(dx (p.aH.map qw)+dx (p.aM.map xu))):=by
  unfold fT;rw[gQ,gQ,gQ]
 refine⟨?_,h6⟩;rw[tV,jH,gQ,wR];simp[eU,dx,jY,jH,jP,sU,UC];omega
theorem Qq:∀(l:List ah)(n:Nat),∃ps:List (Nat×ah),lx l n=(ps.map fun q=>[.s q.2.aI,.ol q.1 (lx q.2.aj (q.1+1))])/\ps.map Prod.snd=l
 |[],n=>⟨[],rfl,rfl⟩
 |x::l,n=>by
  obtain⟨ps,h1,h2⟩:=Qq l (n+d9 x);exact⟨(n,x)::ps,by rw[jZ,h1,jM];rfl,by rw[af,h2]⟩
theorem V9{p:aT}(hv:validPkg p=true):pX p=(fT p).map vQ:=by
 obtain⟨v1,v2,v3,v4,_⟩:=tF hv;unfold pX fT;rw[bw,bw,bw,ew,ew,ew,ew];congr 1
 ·exact cQ fun t ht=>by unfold wQ;rw[v1 t ht];rfl
 congr 1
 ·exact cQ fun t ht=>by unfold BJ;rw[v2 t ht];rfl
 congr 1
 ·exact cQ fun t ht=>by unfold CX;rw[v3 t ht];rfl
 ·exact cQ fun t ht=>by unfold ED;rw[v4 t ht];rfl
theorem aiQ{p:aT}:∀x∈fT p,x.aj≠[]:=fun x hx=>by
 unfold fT at hx;simp only[dm,cr] at hx;rcases hx with⟨t,_,rfl⟩|⟨t,_,rfl⟩|⟨t,_,rfl⟩|⟨t,_,rfl⟩
 ·rw[kF,dD,jq];simp
 ·rw[uQ,dD,baseD];simp
 ·rw[qw,dD,ng];simp
 ·rw[xu,dD];simp
theorem amv(p:aT)(n:Nat)(hv:validPkg p=true)(hsz:p.sz<=1048576)(hall:∀x∈fT p,dQ x=true):aD prog 26 [p.v] (.agg [.d (.s (vQ (tV p)).aI),.d (.ol n (lx (vQ (tV p)).aj (n+1)))]):=fun S=>by
 have hdz:=aT.sum p;rw[dN] at hdz;obtain⟨v1,v2,v3,v4,v5⟩:=tF hv;obtain⟨hz,hzp⟩:=SQ hv;obtain⟨PL,AY⟩:∃PL:List ah,PL=eU p++fT p:=⟨_,rfl⟩;obtain⟨L,hL⟩:∃L:Nat->Nat,L=fun i=>n+1+iY (PL.take i):=⟨_,rfl⟩;obtain⟨T,hT⟩:∃T:Nat->List (List D),T=fun i=>lx (PL.take i) (n+1):=⟨_,rfl⟩
 have G6:T 3=[[.s UC,.ol (n+1) []],[.s p.fName,.ol (n+1+1) []],[.s [],.ol (n+1+1+1) (lx (aR p.eY) (n+1+1+1+1))]]:=by
  rw[hT,AY];exact MS _ _ _ _
 have hlp:=wR p;rw[<-AY] at hlp
 have fZ:∀i,(T i).length<=i:=fun i=>by
  rw[hT];simp only[gM];exact bi i _
 have hTs:∀(i:Nat)(x:ah),PL[i]? =some x->x.aI=[]->T i++[[.s [],.ol (L i) (lx x.aj (L i+1))]]=T (i+1):=fun i x hx h0=>by
  obtain⟨hi,hg⟩:=ap.1 hx;have:=Cz hi (n+1);rw[hg,h0] at this;rw[hT,hL];exact this
 have hTr:∀i,∀r∈T i,r.length=2:=fun i=>by rw[hT];exact lg
 have g1:=fun i hi=>V3 (p:=p) (i:=i) hi;have g2:=fun i hi=>V4 (p:=p) (i:=i) hi;have g3:=fun i hi=>SL (p:=p) (i:=i) hi;have g4:=fun i hi=>V5 (p:=p) (i:=i) hi;rw[<-AY] at g1 g2 g3 g4
 have hTe:T (3+p.aJ.length+p.ay.length+p.aH.length+p.aM.length)=lx (tV p).aj (n+1):=by
  rw[hT];simp only
  rw[aE gA,AY];rfl
 have hTm:(T (3+p.aJ.length+p.ay.length+p.aH.length+p.aM.length)).length=3+p.aJ.length+p.ay.length+p.aH.length+p.aM.length:=by rw[hTe,gM,tV,dD,wR]
 obtain⟨ps,hp1,hp2⟩:=Qq (fT p) (n+1+iY (eU p))
 have avQ:ps.length<=24:=by
  have h1:=congrArg List.length hp2;rw[ab] at h1;have h2:=wR p;rw[ae] at h2;simp[eU] at h2;omega
 have hdr:(T (3+p.aJ.length+p.ay.length+p.aH.length+p.aM.length)).drop 3=ps.map fun q=>[.s q.2.aI,.ol q.1 (lx q.2.aj (q.1+1))]:=by
  rw[hTe,tV,dD,l9,<-hp1];rfl
 clear hT hL;refine sF (n) 1 (rs:=[.cell 2 26]) zmx func26 ntmps26 rfl rfl rfl rfl rfl ?_;refine W1 ?_;refine bn (uT p gA) ?_;refine W1v ?_;refine C1 (dL _ (n+1)) ?_;refine C1 (dL _ (n+1+1)) ?_;refine C1 (eT p.eY gA (n+1+1+1)) ?_;refine W3 ?_;refine lV n 3 2 (T 3) (.inl ?_) (hTr 3) ?_
 ·rw[G6];rfl
 refine oW (L 3) ?_
 refine aZ (ι:=Nat) zmx rfl [1,2,3,27,28,29] (fun i=>[.c (.ptr (0,2) 0),.c (.ptr (0,3) 0),.c (.bJ (0,4) (T (3+i))),.c (.d (.sl (p.aJ.map bI.enc))),.c (.d (.i .i64 p.aJ.length)),.c (.d (.i .i64 i))])
  (fun i=>[.seed (L (3+i)),.seed 1,.box [.d (.s p.fName),.d (.sl (p.eY.map encS)),.d (.sl (p.aJ.map bI.enc)),.d (.sl (p.ay.map aU.enc)),.d (.sl (p.aH.map aQ.enc)),.d (.sl (p.aM.map aV.enc))],.box [.d (.s []),.bH []],.eP n 2 (T (3+i))]::S)
  (fun i=>i<=p.aJ.length) (fun i=>p.aJ.length-i) 0 rfl rfl (an _) ?_
 intro i hi;have hl:=fZ (3+i);refine W1 ?_;refine S0 (fun hb h=>?_) fun hb h=>?_
 ·have hi':i<p.aJ.length:=gA
  have hm:=ac hi';have hcz:=dM (be (f:=bI.enc) hm);have Ag:p.aJ[i].sz<=aS (p.aJ.map bI.enc):=hcz;have hs:=hTs _ _ (g1 i hi') rfl;refine W3 ?_;refine C1 (EG p.aJ[i] (L (3+i)) (v1 _ hm) gA) ?_;refine W3 ?_;rw[hs];refine lH (L (3+(i+1))) 4 gE (i+1) gA rfl rfl ?_ rfl gA;simp[jh,iy,V.refs,C.refs,kR]
 have hi':i=p.aJ.length:=gA
 subst hi';clear hi hl h
 refine aZ (ι:=Nat) zmx rfl [1,2,3,40,41,42] (fun i=>[.c (.ptr (0,2) 0),.c (.ptr (0,3) 0),.c (.bJ (0,4) (T (3+p.aJ.length+i))),.c (.d (.sl (p.ay.map aU.enc))),.c (.d (.i .i64 p.ay.length)),.c (.d (.i .i64 i))])
  (fun i=>[.seed (L (3+p.aJ.length+i)),.seed 1,.box [.d (.s p.fName),.d (.sl (p.eY.map encS)),.d (.sl (p.aJ.map bI.enc)),.d (.sl (p.ay.map aU.enc)),.d (.sl (p.aH.map aQ.enc)),.d (.sl (p.aM.map aV.enc))],.box [.d (.s []),.bH []],.eP n 2 (T (3+p.aJ.length+i))]::S)
  (fun i=>i<=p.ay.length) (fun i=>p.ay.length-i) 0 rfl rfl (an _) ?_
 intro i hi;have hl:=fZ (3+p.aJ.length+i);refine W1 ?_;refine S0 (fun hb h=>?_) fun hb h=>?_
 ·have hi':i<p.ay.length:=gA
  have hm:=ac hi';have hcz:=dM (be (f:=aU.enc) hm);have Ag:p.ay[i].sz<=aS (p.ay.map aU.enc):=hcz;have hs:=hTs _ _ (g2 i hi') rfl;refine W3 ?_;refine C1 (BK p.ay[i] (L (3+p.aJ.length+i)) (v2 _ hm) gA) ?_;refine W3 ?_;rw[hs];refine lH (L (3+p.aJ.length+(i+1))) 4 gE (i+1) gA rfl rfl ?_ rfl gA;simp[jh,iy,V.refs,C.refs,kR]
 have hi':i=p.ay.length:=gA
 subst hi';clear hi hl h
 refine aZ (ι:=Nat) zmx rfl [1,2,3,53,54,55] (fun i=>[.c (.ptr (0,2) 0),.c (.ptr (0,3) 0),.c (.bJ (0,4) (T (3+p.aJ.length+p.ay.length+i))),.c (.d (.sl (p.aH.map aQ.enc))),.c (.d (.i .i64 p.aH.length)),.c (.d (.i .i64 i))])
  (fun i=>[.seed (L (3+p.aJ.length+p.ay.length+i)),.seed 1,.box [.d (.s p.fName),.d (.sl (p.eY.map encS)),.d (.sl (p.aJ.map bI.enc)),.d (.sl (p.ay.map aU.enc)),.d (.sl (p.aH.map aQ.enc)),.d (.sl (p.aM.map aV.enc))],.box [.d (.s []),.bH []],.eP n 2 (T (3+p.aJ.length+p.ay.length+i))]::S)
  (fun i=>i<=p.aH.length) (fun i=>p.aH.length-i) 0 rfl rfl (an _) ?_
 intro i hi;have hl:=fZ (3+p.aJ.length+p.ay.length+i);refine W1 ?_;refine S0 (fun hb h=>?_) fun hb h=>?_
 ·have hi':i<p.aH.length:=gA
  have hm:=ac hi';have hcz:=dM (be (f:=aQ.enc) hm);have Ag:p.aH[i].sz<=aS (p.aH.map aQ.enc):=hcz;have hs:=hTs _ _ (g3 i hi') rfl;refine W3 ?_;refine C1 (GZ p.aH[i] (L (3+p.aJ.length+p.ay.length+i)) (v3 _ hm) gA) ?_;refine W3 ?_;rw[hs];refine lH (L (3+p.aJ.length+p.ay.length+(i+1))) 4 gE (i+1) gA rfl rfl ?_ rfl gA;simp[jh,iy,V.refs,C.refs,kR]
 have hi':i=p.aH.length:=gA
 subst hi';clear hi hl h
 refine aZ (ι:=Nat) zmx rfl [2,3,66,67,68] (fun i=>[.c (.ptr (0,3) 0),.c (.bJ (0,4) (T (3+p.aJ.length+p.ay.length+p.aH.length+i))),.c (.d (.sl (p.aM.map aV.enc))),.c (.d (.i .i64 p.aM.length)),.c (.d (.i .i64 i))])
  (fun i=>[.seed (L (3+p.aJ.length+p.ay.length+p.aH.length+i)),.seed 1,.box [.d (.s p.fName),.d (.sl (p.eY.map encS)),.d (.sl (p.aJ.map bI.enc)),.d (.sl (p.ay.map aU.enc)),.d (.sl (p.aH.map aQ.enc)),.d (.sl (p.aM.map aV.enc))],.box [.d (.s []),.bH []],.eP n 2 (T (3+p.aJ.length+p.ay.length+p.aH.length+i))]::S)
  (fun i=>i<=p.aM.length) (fun i=>p.aM.length-i) 0 rfl rfl (an _) ?_
 intro i hi;have hl:=fZ (3+p.aJ.length+p.ay.length+p.aH.length+i);refine W1 ?_;refine S0 (fun hb h=>?_) fun hb h=>?_
 ·have hi':i<p.aM.length:=gA
  have hm:=ac hi';have hcz:=dM (be (f:=aV.enc) hm);have Ag:p.aM[i].sz<=aS (p.aM.map aV.enc):=hcz;have hs:=hTs _ _ (g4 i hi') rfl;refine W3 ?_;refine C1 (EF p.aM[i] (L (3+p.aJ.length+p.ay.length+p.aH.length+i)) (v4 _ hm) gA) ?_;refine W3 ?_;rw[hs];refine lH (L (3+p.aJ.length+p.ay.length+p.aH.length+(i+1))) 4 gE (i+1) gA rfl rfl ?_ rfl gA;simp[jh,iy,V.refs,C.refs,kR]
 have hi':i=p.aM.length:=gA
 subst hi';clear hi hl h;have amw:=hTr (3+p.aJ.length+p.ay.length+p.aH.length+p.aM.length);refine⟨⟨gA,gA,amw⟩,?_⟩;rw[ch,hdr];simp only[ab];refine yA (Jd 4 n n) ?_
 refine aZ (ι:=Nat) zmx rfl [2,3,79,80,81] (fun i=>[.c (.ptr (0,3) 0),.c (.bJ (0,4) (T (3+p.aJ.length+p.ay.length+p.aH.length+p.aM.length))),.c (.d (.sl (ps.map fun q=>[.s q.2.aI,.ol q.1 (lx q.2.aj (q.1+1))]))),.c (.d (.i .i64 ps.length)),.c (.d (.i .i64 i))])
  (fun i=>[.seed (L (3+p.aJ.length+p.ay.length+p.aH.length+p.aM.length)),.seed 1,.box [.d (.s p.fName),.d (.sl (p.eY.map encS)),.d (.sl (p.aJ.map bI.enc)),.d (.sl (p.ay.map aU.enc)),.d (.sl (p.aH.map aQ.enc)),.d (.sl (p.aM.map aV.enc))],.box [.d (.s []),.bH []],.eP n 2 (T (3+p.aJ.length+p.ay.length+p.aH.length+p.aM.length))]::S)
  (fun i=>i<=ps.length/\∀j (hj:j<ps.length),j<i->dQ ps[j].2=true) (fun i=>ps.length-i) 0 rfl rfl ⟨an _,fun j hj h=>gA⟩ ?_
 rintro i ⟨hi,hj⟩;refine W1 ?_;refine S0 (fun hb h=>?_) fun hb h=>?_
 ·have hi':i<ps.length:=gA
  have hm:ps[i].2∈fT p:=by rw[<-hp2];exact be (ac hi')
  have hx:=gY hm;refine W3 ?_;refine lQ (rJ ps[i].2 gA) (.cons (AO ps[i].2 ps[i].1) .nil) ?_;have vV:=hall _ hm;simp -implicitDefEqProofs (disch:=omega) only[go_sem,vV]
  exact bR 5 gE (i+1) gA rfl rfl rfl rfl ⟨gA,fun j hj' hlt=>by
   by_cases e:j=i
   ·subst e;exact vV
   ·exact hj j hj' gA⟩
 ·rw[hTe];refine C1 (lS _) ?_;exact C3 (afo (tV p) n gA)
theorem amx(p:aT)(n:Nat)(hv:validPkg p=true)(hsz:p.sz<=1048576)(hall:¬∀x∈fT p,dQ x=true):aD prog 26 [p.v] (.agg [.d (.s []),.bH []]):=fun S=>by
 have hdz:=aT.sum p;rw[dN] at hdz;obtain⟨v1,v2,v3,v4,v5⟩:=tF hv;obtain⟨hz,hzp⟩:=SQ hv;obtain⟨PL,AY⟩:∃PL:List ah,PL=eU p++fT p:=⟨_,rfl⟩;obtain⟨L,hL⟩:∃L:Nat->Nat,L=fun i=>n+1+iY (PL.take i):=⟨_,rfl⟩;obtain⟨T,hT⟩:∃T:Nat->List (List D),T=fun i=>lx (PL.take i) (n+1):=⟨_,rfl⟩
 have G6:T 3=[[.s UC,.ol (n+1) []],[.s p.fName,.ol (n+1+1) []],[.s [],.ol (n+1+1+1) (lx (aR p.eY) (n+1+1+1+1))]]:=by
  rw[hT,AY];exact MS _ _ _ _
 have hlp:=wR p;rw[<-AY] at hlp
 have fZ:∀i,(T i).length<=i:=fun i=>by
  rw[hT];simp only[gM];exact bi i _
 have hTs:∀(i:Nat)(x:ah),PL[i]? =some x->x.aI=[]->T i++[[.s [],.ol (L i) (lx x.aj (L i+1))]]=T (i+1):=fun i x hx h0=>by
  obtain⟨hi,hg⟩:=ap.1 hx;have:=Cz hi (n+1);rw[hg,h0] at this;rw[hT,hL];exact this
 have hTr:∀i,∀r∈T i,r.length=2:=fun i=>by rw[hT];exact lg
 have g1:=fun i hi=>V3 (p:=p) (i:=i) hi;have g2:=fun i hi=>V4 (p:=p) (i:=i) hi;have g3:=fun i hi=>SL (p:=p) (i:=i) hi;have g4:=fun i hi=>V5 (p:=p) (i:=i) hi;rw[<-AY] at g1 g2 g3 g4
 have hTe:T (3+p.aJ.length+p.ay.length+p.aH.length+p.aM.length)=lx (tV p).aj (n+1):=by
  rw[hT];simp only
  rw[aE gA,AY];rfl
 have hTm:(T (3+p.aJ.length+p.ay.length+p.aH.length+p.aM.length)).length=3+p.aJ.length+p.ay.length+p.aH.length+p.aM.length:=by rw[hTe,gM,tV,dD,wR]
 obtain⟨ps,hp1,hp2⟩:=Qq (fT p) (n+1+iY (eU p))
 have avQ:ps.length<=24:=by
  have h1:=congrArg List.length hp2;rw[ab] at h1;have h2:=wR p;rw[ae] at h2;simp[eU] at h2;omega
 have hdr:(T (3+p.aJ.length+p.ay.length+p.aH.length+p.aM.length)).drop 3=ps.map fun q=>[.s q.2.aI,.ol q.1 (lx q.2.aj (q.1+1))]:=by
  rw[hTe,tV,dD,l9,<-hp1];rfl
 clear hT hL;refine sF (n) 1 (rs:=[.cell 2 26]) zmx func26 ntmps26 rfl rfl rfl rfl rfl ?_;refine W1 ?_;refine bn (uT p gA) ?_;refine W1v ?_;refine C1 (dL _ (n+1)) ?_;refine C1 (dL _ (n+1+1)) ?_;refine C1 (eT p.eY gA (n+1+1+1)) ?_;refine W3 ?_;refine lV n 3 2 (T 3) (.inl ?_) (hTr 3) ?_
 ·rw[G6];rfl
 refine oW (L 3) ?_
 refine aZ (ι:=Nat) zmx rfl [1,2,3,27,28,29] (fun i=>[.c (.ptr (0,2) 0),.c (.ptr (0,3) 0),.c (.bJ (0,4) (T (3+i))),.c (.d (.sl (p.aJ.map bI.enc))),.c (.d (.i .i64 p.aJ.length)),.c (.d (.i .i64 i))])
  (fun i=>[.seed (L (3+i)),.seed 1,.box [.d (.s p.fName),.d (.sl (p.eY.map encS)),.d (.sl (p.aJ.map bI.enc)),.d (.sl (p.ay.map aU.enc)),.d (.sl (p.aH.map aQ.enc)),.d (.sl (p.aM.map aV.enc))],.box [.d (.s []),.bH []],.eP n 2 (T (3+i))]::S)
  (fun i=>i<=p.aJ.length) (fun i=>p.aJ.length-i) 0 rfl rfl (an _) ?_
 intro i hi;have hl:=fZ (3+i);refine W1 ?_;refine S0 (fun hb h=>?_) fun hb h=>?_
 ·have hi':i<p.aJ.length:=gA
  have hm:=ac hi';have hcz:=dM (be (f:=bI.enc) hm);have Ag:p.aJ[i].sz<=aS (p.aJ.map bI.enc):=hcz;have hs:=hTs _ _ (g1 i hi') rfl;refine W3 ?_;refine C1 (EG p.aJ[i] (L (3+i)) (v1 _ hm) gA) ?_;refine W3 ?_;rw[hs];refine lH (L (3+(i+1))) 4 gE (i+1) gA rfl rfl ?_ rfl gA;simp[jh,iy,V.refs,C.refs,kR]
 have hi':i=p.aJ.length:=gA
 subst hi';clear hi hl h
 refine aZ (ι:=Nat) zmx rfl [1,2,3,40,41,42] (fun i=>[.c (.ptr (0,2) 0),.c (.ptr (0,3) 0),.c (.bJ (0,4) (T (3+p.aJ.length+i))),.c (.d (.sl (p.ay.map aU.enc))),.c (.d (.i .i64 p.ay.length)),.c (.d (.i .i64 i))])
  (fun i=>[.seed (L (3+p.aJ.length+i)),.seed 1,.box [.d (.s p.fName),.d (.sl (p.eY.map encS)),.d (.sl (p.aJ.map bI.enc)),.d (.sl (p.ay.map aU.enc)),.d (.sl (p.aH.map aQ.enc)),.d (.sl (p.aM.map aV.enc))],.box [.d (.s []),.bH []],.eP n 2 (T (3+p.aJ.length+i))]::S)
  (fun i=>i<=p.ay.length) (fun i=>p.ay.length-i) 0 rfl rfl (an _) ?_
 intro i hi;have hl:=fZ (3+p.aJ.length+i);refine W1 ?_;refine S0 (fun hb h=>?_) fun hb h=>?_
 ·have hi':i<p.ay.length:=gA
  have hm:=ac hi';have hcz:=dM (be (f:=aU.enc) hm);have Ag:p.ay[i].sz<=aS (p.ay.map aU.enc):=hcz;have hs:=hTs _ _ (g2 i hi') rfl;refine W3 ?_;refine C1 (BK p.ay[i] (L (3+p.aJ.length+i)) (v2 _ hm) gA) ?_;refine W3 ?_;rw[hs];refine lH (L (3+p.aJ.length+(i+1))) 4 gE (i+1) gA rfl rfl ?_ rfl gA;simp[jh,iy,V.refs,C.refs,kR]
 have hi':i=p.ay.length:=gA
 subst hi';clear hi hl h
 refine aZ (ι:=Nat) zmx rfl [1,2,3,53,54,55] (fun i=>[.c (.ptr (0,2) 0),.c (.ptr (0,3) 0),.c (.bJ (0,4) (T (3+p.aJ.length+p.ay.length+i))),.c (.d (.sl (p.aH.map aQ.enc))),.c (.d (.i .i64 p.aH.length)),.c (.d (.i .i64 i))])
  (fun i=>[.seed (L (3+p.aJ.length+p.ay.length+i)),.seed 1,.box [.d (.s p.fName),.d (.sl (p.eY.map encS)),.d (.sl (p.aJ.map bI.enc)),.d (.sl (p.ay.map aU.enc)),.d (.sl (p.aH.map aQ.enc)),.d (.sl (p.aM.map aV.enc))],.box [.d (.s []),.bH []],.eP n 2 (T (3+p.aJ.length+p.ay.length+i))]::S)
  (fun i=>i<=p.aH.length) (fun i=>p.aH.length-i) 0 rfl rfl (an _) ?_
 intro i hi;have hl:=fZ (3+p.aJ.length+p.ay.length+i);refine W1 ?_;refine S0 (fun hb h=>?_) fun hb h=>?_
 ·have hi':i<p.aH.length:=gA
  have hm:=ac hi';have hcz:=dM (be (f:=aQ.enc) hm);have Ag:p.aH[i].sz<=aS (p.aH.map aQ.enc):=hcz;have hs:=hTs _ _ (g3 i hi') rfl;refine W3 ?_;refine C1 (GZ p.aH[i] (L (3+p.aJ.length+p.ay.length+i)) (v3 _ hm) gA) ?_;refine W3 ?_;rw[hs];refine lH (L (3+p.aJ.length+p.ay.length+(i+1))) 4 gE (i+1) gA rfl rfl ?_ rfl gA;simp[jh,iy,V.refs,C.refs,kR]
 have hi':i=p.aH.length:=gA
 subst hi';clear hi hl h
 refine aZ (ι:=Nat) zmx rfl [2,3,66,67,68] (fun i=>[.c (.ptr (0,3) 0),.c (.bJ (0,4) (T (3+p.aJ.length+p.ay.length+p.aH.length+i))),.c (.d (.sl (p.aM.map aV.enc))),.c (.d (.i .i64 p.aM.length)),.c (.d (.i .i64 i))])
  (fun i=>[.seed (L (3+p.aJ.length+p.ay.length+p.aH.length+i)),.seed 1,.box [.d (.s p.fName),.d (.sl (p.eY.map encS)),.d (.sl (p.aJ.map bI.enc)),.d (.sl (p.ay.map aU.enc)),.d (.sl (p.aH.map aQ.enc)),.d (.sl (p.aM.map aV.enc))],.box [.d (.s []),.bH []],.eP n 2 (T (3+p.aJ.length+p.ay.length+p.aH.length+i))]::S)
  (fun i=>i<=p.aM.length) (fun i=>p.aM.length-i) 0 rfl rfl (an _) ?_
 intro i hi;have hl:=fZ (3+p.aJ.length+p.ay.length+p.aH.length+i);refine W1 ?_;refine S0 (fun hb h=>?_) fun hb h=>?_
 ·have hi':i<p.aM.length:=gA
  have hm:=ac hi';have hcz:=dM (be (f:=aV.enc) hm);have Ag:p.aM[i].sz<=aS (p.aM.map aV.enc):=hcz;have hs:=hTs _ _ (g4 i hi') rfl;refine W3 ?_;refine C1 (EF p.aM[i] (L (3+p.aJ.length+p.ay.length+p.aH.length+i)) (v4 _ hm) gA) ?_;refine W3 ?_;rw[hs];refine lH (L (3+p.aJ.length+p.ay.length+p.aH.length+(i+1))) 4 gE (i+1) gA rfl rfl ?_ rfl gA;simp[jh,iy,V.refs,C.refs,kR]
 have hi':i=p.aM.length:=gA
 subst hi';clear hi hl h;have amw:=hTr (3+p.aJ.length+p.ay.length+p.aH.length+p.aM.length);refine⟨⟨gA,gA,amw⟩,?_⟩;rw[ch,hdr];simp only[ab];refine yA (Jd 4 n n) ?_
 refine aZ (ι:=Nat) zmx rfl [2,3,79,80,81] (fun i=>[.c (.ptr (0,3) 0),.c (.bJ (0,4) (T (3+p.aJ.length+p.ay.length+p.aH.length+p.aM.length))),.c (.d (.sl (ps.map fun q=>[.s q.2.aI,.ol q.1 (lx q.2.aj (q.1+1))]))),.c (.d (.i .i64 ps.length)),.c (.d (.i .i64 i))])
  (fun i=>[.seed (L (3+p.aJ.length+p.ay.length+p.aH.length+p.aM.length)),.seed 1,.box [.d (.s p.fName),.d (.sl (p.eY.map encS)),.d (.sl (p.aJ.map bI.enc)),.d (.sl (p.ay.map aU.enc)),.d (.sl (p.aH.map aQ.enc)),.d (.sl (p.aM.map aV.enc))],.box [.d (.s []),.bH []],.eP n 2 (T (3+p.aJ.length+p.ay.length+p.aH.length+p.aM.length))]::S)
  (fun i=>i<=ps.length/\∀j (hj:j<ps.length),j<i->dQ ps[j].2=true) (fun i=>ps.length-i) 0 rfl rfl ⟨an _,fun j hj h=>gA⟩ ?_
 rintro i ⟨hi,hj⟩;refine W1 ?_;refine S0 (fun hb h=>?_) fun hb h=>?_
 ·have hi':i<ps.length:=gA
  have hm:ps[i].2∈fT p:=by rw[<-hp2];exact be (ac hi')
  have hx:=gY hm;refine W3 ?_;refine lQ (rJ ps[i].2 gA) (.cons (AO ps[i].2 ps[i].1) .nil) ?_
  cases vV:dQ ps[i].2 with
  |false=>simp -implicitDefEqProofs (disch:=omega) only[go_sem,vV]
  |true=>
   simp -implicitDefEqProofs (disch:=omega) only[go_sem,vV]
   exact bR 5 gE (i+1) gA rfl rfl rfl rfl ⟨gA,fun j hj' hlt=>by
    by_cases e:j=i
    ·subst e;exact vV
    ·exact hj j hj' gA⟩
 ·exact absurd (fun x hx=>by
   rw[<-hp2] at hx;obtain⟨q,hq,rfl⟩:=cr.1 hx;obtain⟨j,hj1,rfl⟩:=ci hq
   exact hj j hj1 gA) hall
theorem ab0(x:aT)(n:Nat)(hsz:x.sz<=1048576):aD prog 26 [x.v] (.agg [.d (.s (vo x).aI),.d (.ol n (lx (vo x).aj (n+1)))]):=by
 unfold vo
 cases hv:validPkg x with
 |false=>
  rw[en,sD];refine aD.less (fun S=> ?_) (Oo [] n);refine zcx [.cell 2 26] func26 ntmps26 ?_;refine W1 ?_;refine bn (uT x gA) ?_;exact Rt
 |true=>
  rw[cd]
  cases ha:(fT x).all dQ with
  |true=>exact amv x n hv hsz (az.1 ha)
  |false=>
   rw[sD];refine aD.less (amx x n hv hsz fun h=> ?_) (Oo [] n);rw[az.2 h] at ha;cases ha
theorem amy(p:aT)(hv:validPkg p=true)(hsz:p.sz<=1048576)(hall:∀x∈fT p,dQ x=true):aD prog 12 [p.v] ((vQ (tV p)).v):=fun S=>by
 have hdz:=aT.sum p;rw[dN] at hdz;obtain⟨v1,v2,v3,v4,v5⟩:=tF hv;obtain⟨hz,hzp⟩:=SQ hv;obtain⟨PL,AY⟩:∃PL:List ah,PL=eU p++pX p:=⟨_,rfl⟩;obtain⟨T,hT⟩:∃T:Nat->List (List D),T=fun i=>(PL.take i).map ah.enc:=⟨_,rfl⟩
 have G6:T 3=[[.s UC,.sl []],[.s p.fName,.sl []],[.s [],.sl ((aR p.eY).map ah.enc)]]:=by
  rw[hT,AY];simp only[eU,ba,bc,eL,cE,af,aw,fI,jV]
 have hlp:=SK p;rw[<-AY] at hlp
 have fZ:∀i,(T i).length<=i:=fun i=>by
  rw[hT];simp only[ab];exact bi i _
 have hTs:∀(i:Nat)(x:ah),PL[i]? =some x->T i++[[.s x.aI,.sl (x.aj.map ah.enc)]]=T (i+1):=fun i x hx=>by
  obtain⟨hi,hg⟩:=ap.1 hx;have:=jI (base:=[]) (l:=PL) hi;rw[hg] at this;rw[hT];exact this
 have hTr:∀i,∀r∈T i,r.length=2:=fun i=>by rw[hT];exact gK
 have g1:=fun i hi=>V6 (p:=p) (i:=i) hi;have g2:=fun i hi=>V7 (p:=p) (i:=i) hi;have g3:=fun i hi=>SN (p:=p) (i:=i) hi;have g4:=fun i hi=>V8 (p:=p) (i:=i) hi;rw[<-AY] at g1 g2 g3 g4
 have hTe:T (3+p.aJ.length+p.ay.length+p.aH.length+p.aM.length)=PL.map ah.enc:=by
  rw[hT];simp only
  rw[aE gA]
 clear hT;refine zcx [.cell 2 26] func12 ntmps12 ?_;refine W1 ?_;refine bn (xZ p gA) ?_;refine W1v ?_;refine C1 (bW _) ?_;refine C1 (bW _) ?_;refine C1 (eG p.eY gA) ?_;have hE:=fun bY Ω=>kD (T 3) (hTr 3) (by have:=fZ 3;omega) bY Ω;simp only[G6] at hE;refine dX [false] rfl (hE _ _) ?_;refine W1 ?_
 refine aZ (ι:=Nat) zmx rfl [1,2,3,4] (fun i=>[.c (.ptr (0,0) 0),.c (.ptr (0,1) 0),.c (.ptr (0,4) 0),.c (.d (.i .i64 i))])
  (fun i=>[.box [.d (.s p.fName),.d (.sl (p.eY.map encS)),.d (.sl (p.aJ.map bI.enc)),.d (.sl (p.ay.map aU.enc)),.d (.sl (p.aH.map aQ.enc)),.d (.sl (p.aM.map aV.enc))],.box [.d (.s []),.bH []],.box [.d (.s []),.bJ (0,3) (T 3)],.tok 2 (T (3+i)),.box [.d (.s []),.bJ (0,3) (T (3+i))]]::S)
  (fun i=>i<=p.aJ.length) (fun i=>p.aJ.length-i) 0 rfl (by simp only[G6]<;>(try rfl)) (an _) ?_
 intro i hi;have hl:=fZ (3+i);refine W1 ?_;refine S0 (fun hb h=>?_) fun hb h=>?_
 ·have hi':i<p.aJ.length:=gA
  have hm:=ac hi';have hcz:=dM (be (f:=bI.enc) hm);have Ag:p.aJ[i].sz<=aS (p.aJ.map bI.enc):=hcz;have hs:=hTs _ _ (g1 i hi');have hc:aD prog 41 [p.aJ[i].v] (.agg [.d (.s (wQ p.aJ[i]).aI),.d (.sl ((wQ p.aJ[i]).aj.map ah.enc))]):=Na p.aJ[i] gA;refine W3 ?_;refine bn hc ?_;refine W1 ?_;refine W3 ?_;rw[hs];exact bR 5 gE (i+1) gA rfl rfl rfl rfl gA
 have hi':i=p.aJ.length:=gA
 subst hi';clear hi hl h
 refine aZ (ι:=Nat) zmx rfl [1,2,3,5] (fun i=>[.c (.ptr (0,0) 0),.c (.ptr (0,1) 0),.c (.ptr (0,4) 0),.c (.d (.i .i64 i))])
  (fun i=>[.box [.d (.s p.fName),.d (.sl (p.eY.map encS)),.d (.sl (p.aJ.map bI.enc)),.d (.sl (p.ay.map aU.enc)),.d (.sl (p.aH.map aQ.enc)),.d (.sl (p.aM.map aV.enc))],.box [.d (.s []),.bH []],.box [.d (.s []),.bJ (0,3) (T 3)],.tok 2 (T (3+p.aJ.length+i)),.box [.d (.s []),.bJ (0,3) (T (3+p.aJ.length+i))]]::S)
  (fun i=>i<=p.ay.length) (fun i=>p.ay.length-i) 0 rfl rfl (an _) ?_
 intro i hi;have hl:=fZ (3+p.aJ.length+i);refine W1 ?_;refine S0 (fun hb h=>?_) fun hb h=>?_
 ·have hi':i<p.ay.length:=gA
  have hm:=ac hi';have hcz:=dM (be (f:=aU.enc) hm);have Ag:p.ay[i].sz<=aS (p.ay.map aU.enc):=hcz;have hs:=hTs _ _ (g2 i hi');have hc:aD prog 42 [p.ay[i].v] (.agg [.d (.s (BJ p.ay[i]).aI),.d (.sl ((BJ p.ay[i]).aj.map ah.enc))]):=Jb p.ay[i] gA;refine W3 ?_;refine bn hc ?_;refine W1 ?_;refine W3 ?_;rw[hs];exact bR 5 gE (i+1) gA rfl rfl rfl rfl gA
 have hi':i=p.ay.length:=gA
 subst hi';clear hi hl h
 refine aZ (ι:=Nat) zmx rfl [1,2,3,6] (fun i=>[.c (.ptr (0,0) 0),.c (.ptr (0,1) 0),.c (.ptr (0,4) 0),.c (.d (.i .i64 i))])
  (fun i=>[.box [.d (.s p.fName),.d (.sl (p.eY.map encS)),.d (.sl (p.aJ.map bI.enc)),.d (.sl (p.ay.map aU.enc)),.d (.sl (p.aH.map aQ.enc)),.d (.sl (p.aM.map aV.enc))],.box [.d (.s []),.bH []],.box [.d (.s []),.bJ (0,3) (T 3)],.tok 2 (T (3+p.aJ.length+p.ay.length+i)),.box [.d (.s []),.bJ (0,3) (T (3+p.aJ.length+p.ay.length+i))]]::S)
  (fun i=>i<=p.aH.length) (fun i=>p.aH.length-i) 0 rfl rfl (an _) ?_
 intro i hi;have hl:=fZ (3+p.aJ.length+p.ay.length+i);refine W1 ?_;refine S0 (fun hb h=>?_) fun hb h=>?_
 ·have hi':i<p.aH.length:=gA
  have hm:=ac hi';have hcz:=dM (be (f:=aQ.enc) hm);have Ag:p.aH[i].sz<=aS (p.aH.map aQ.enc):=hcz;have hs:=hTs _ _ (g3 i hi');have hc:aD prog 43 [p.aH[i].v] (.agg [.d (.s (CX p.aH[i]).aI),.d (.sl ((CX p.aH[i]).aj.map ah.enc))]):=Qp p.aH[i] gA;refine W3 ?_;refine bn hc ?_;refine W1 ?_;refine W3 ?_;rw[hs];exact bR 5 gE (i+1) gA rfl rfl rfl rfl gA
 have hi':i=p.aH.length:=gA
 subst hi';clear hi hl h
 refine aZ (ι:=Nat) zmx rfl [1,2,3,7] (fun i=>[.c (.ptr (0,0) 0),.c (.ptr (0,1) 0),.c (.ptr (0,4) 0),.c (.d (.i .i64 i))])
  (fun i=>[.box [.d (.s p.fName),.d (.sl (p.eY.map encS)),.d (.sl (p.aJ.map bI.enc)),.d (.sl (p.ay.map aU.enc)),.d (.sl (p.aH.map aQ.enc)),.d (.sl (p.aM.map aV.enc))],.box [.d (.s []),.bH []],.box [.d (.s []),.bJ (0,3) (T 3)],.tok 2 (T (3+p.aJ.length+p.ay.length+p.aH.length+i)),.box [.d (.s []),.bJ (0,3) (T (3+p.aJ.length+p.ay.length+p.aH.length+i))]]::S)
  (fun i=>i<=p.aM.length) (fun i=>p.aM.length-i) 0 rfl rfl (an _) ?_
 intro i hi;have hl:=fZ (3+p.aJ.length+p.ay.length+p.aH.length+i);refine W1 ?_;refine S0 (fun hb h=>?_) fun hb h=>?_
 ·have hi':i<p.aM.length:=gA
  have hm:=ac hi';have hcz:=dM (be (f:=aV.enc) hm);have Ag:p.aM[i].sz<=aS (p.aM.map aV.enc):=hcz;have hs:=hTs _ _ (g4 i hi');have hc:aD prog 44 [p.aM[i].v] (.agg [.d (.s (ED p.aM[i]).aI),.d (.sl ((ED p.aM[i]).aj.map ah.enc))]):=M6 p.aM[i] gA;refine W3 ?_;refine bn hc ?_;refine W1 ?_;refine W3 ?_;rw[hs];exact bR 5 gE (i+1) gA rfl rfl rfl rfl gA
 have hi':i=p.aM.length:=gA
 subst hi';clear hi hl h;have hps:=V9 hv
 have hq:∀j,PL[3+j]? =(pX p)[j]? :=fun j=>by
  rw[AY,ag (by simp[eU])];congr 1;simp[eU]
 have hSP:pX p=fT p:=by
  rw[hps];exact(cQ fun x hx=>by show vQ x=x;rw[vQ,if_pos (hall x hx)]).trans (List.map_id _)
 have hPP:PL.map ah.enc=(tV p).aj.map ah.enc:=by rw[AY,hSP];rfl
 have hok:∀j (hj:3+j<PL.length),PL[3+j].aj≠[]:=fun j hj=>by
  have h1:=(hq j).symm.trans (am hj);exact aiQ (p:=p) _ (by rw[<-hSP];exact de h1)
 rw[hTe]
 refine aZ (ι:=Nat) zmx rfl [2,3,8] (fun i=>[.c (.ptr (0,1) 0),.c (.ptr (0,4) 0),.c (.d (.i .i64 ((3+i:Nat):Int)))])
  (fun i=>[.box [.d (.s p.fName),.d (.sl (p.eY.map encS)),.d (.sl (p.aJ.map bI.enc)),.d (.sl (p.ay.map aU.enc)),.d (.sl (p.aH.map aQ.enc)),.d (.sl (p.aM.map aV.enc))],.box [.d (.s []),.bH []],.box [.d (.s []),.bJ (0,3) (T 3)],.tok 2 (PL.map ah.enc),.box [.d (.s []),.bJ (0,3) (PL.map ah.enc)]]::S)
  (fun i=>3+i<=PL.length/\∀j (hj:3+j<PL.length),j<i->PL[3+j].aj≠[]) (fun i=>PL.length-i) 0 rfl rfl ⟨gA,fun j hj h=>gA⟩ ?_
 rintro i ⟨hi,hj⟩;refine W1 ?_;refine S0 (fun hb h=>?_) fun hb h=>?_
 ·have hi':3+i<PL.length:=gA
  have hne:=hok i hi';refine S0 (fun hb h=>?_) fun hb h=>?_
  ·exact absurd (bz gA) hne
  ·exact dH (i+1) gA rfl rfl ⟨gA,fun j hj' hlt=>hok j hj'⟩
 ·rw[hPP];refine C1 (sW true (tV p) gA) ?_;rfl
theorem amz(p:aT)(hv:validPkg p=true)(hsz:p.sz<=1048576)(hall:¬∀x∈fT p,dQ x=true):aD prog 12 [p.v] (.agg [.d (.s []),.bH []]):=fun S=>by
 have hdz:=aT.sum p;rw[dN] at hdz;obtain⟨v1,v2,v3,v4,v5⟩:=tF hv;obtain⟨hz,hzp⟩:=SQ hv;obtain⟨PL,AY⟩:∃PL:List ah,PL=eU p++pX p:=⟨_,rfl⟩;obtain⟨T,hT⟩:∃T:Nat->List (List D),T=fun i=>(PL.take i).map ah.enc:=⟨_,rfl⟩
 have G6:T 3=[[.s UC,.sl []],[.s p.fName,.sl []],[.s [],.sl ((aR p.eY).map ah.enc)]]:=by
  rw[hT,AY];simp only[eU,ba,bc,eL,cE,af,aw,fI,jV]
 have hlp:=SK p;rw[<-AY] at hlp
 have fZ:∀i,(T i).length<=i:=fun i=>by
  rw[hT];simp only[ab];exact bi i _
 have hTs:∀(i:Nat)(x:ah),PL[i]? =some x->T i++[[.s x.aI,.sl (x.aj.map ah.enc)]]=T (i+1):=fun i x hx=>by
  obtain⟨hi,hg⟩:=ap.1 hx;have:=jI (base:=[]) (l:=PL) hi;rw[hg] at this;rw[hT];exact this
 have hTr:∀i,∀r∈T i,r.length=2:=fun i=>by rw[hT];exact gK
 have g1:=fun i hi=>V6 (p:=p) (i:=i) hi;have g2:=fun i hi=>V7 (p:=p) (i:=i) hi;have g3:=fun i hi=>SN (p:=p) (i:=i) hi;have g4:=fun i hi=>V8 (p:=p) (i:=i) hi;rw[<-AY] at g1 g2 g3 g4
 have hTe:T (3+p.aJ.length+p.ay.length+p.aH.length+p.aM.length)=PL.map ah.enc:=by
  rw[hT];simp only
  rw[aE gA]
 clear hT;refine zcx [.cell 2 26] func12 ntmps12 ?_;refine W1 ?_;refine bn (xZ p gA) ?_;refine W1v ?_;refine C1 (bW _) ?_;refine C1 (bW _) ?_;refine C1 (eG p.eY gA) ?_;have hE:=fun bY Ω=>kD (T 3) (hTr 3) (by have:=fZ 3;omega) bY Ω;simp only[G6] at hE;refine dX [false] rfl (hE _ _) ?_;refine W1 ?_
 refine aZ (ι:=Nat) zmx rfl [1,2,3,4] (fun i=>[.c (.ptr (0,0) 0),.c (.ptr (0,1) 0),.c (.ptr (0,4) 0),.c (.d (.i .i64 i))])
  (fun i=>[.box [.d (.s p.fName),.d (.sl (p.eY.map encS)),.d (.sl (p.aJ.map bI.enc)),.d (.sl (p.ay.map aU.enc)),.d (.sl (p.aH.map aQ.enc)),.d (.sl (p.aM.map aV.enc))],.box [.d (.s []),.bH []],.box [.d (.s []),.bJ (0,3) (T 3)],.tok 2 (T (3+i)),.box [.d (.s []),.bJ (0,3) (T (3+i))]]::S)
  (fun i=>i<=p.aJ.length) (fun i=>p.aJ.length-i) 0 rfl (by simp only[G6]<;>(try rfl)) (an _) ?_
 intro i hi;have hl:=fZ (3+i);refine W1 ?_;refine S0 (fun hb h=>?_) fun hb h=>?_
 ·have hi':i<p.aJ.length:=gA
  have hm:=ac hi';have hcz:=dM (be (f:=bI.enc) hm);have Ag:p.aJ[i].sz<=aS (p.aJ.map bI.enc):=hcz;have hs:=hTs _ _ (g1 i hi');have hc:aD prog 41 [p.aJ[i].v] (.agg [.d (.s (wQ p.aJ[i]).aI),.d (.sl ((wQ p.aJ[i]).aj.map ah.enc))]):=Na p.aJ[i] gA;refine W3 ?_;refine bn hc ?_;refine W1 ?_;refine W3 ?_;rw[hs];exact bR 5 gE (i+1) gA rfl rfl rfl rfl gA
 have hi':i=p.aJ.length:=gA
 subst hi';clear hi hl h
 refine aZ (ι:=Nat) zmx rfl [1,2,3,5] (fun i=>[.c (.ptr (0,0) 0),.c (.ptr (0,1) 0),.c (.ptr (0,4) 0),.c (.d (.i .i64 i))])
  (fun i=>[.box [.d (.s p.fName),.d (.sl (p.eY.map encS)),.d (.sl (p.aJ.map bI.enc)),.d (.sl (p.ay.map aU.enc)),.d (.sl (p.aH.map aQ.enc)),.d (.sl (p.aM.map aV.enc))],.box [.d (.s []),.bH []],.box [.d (.s []),.bJ (0,3) (T 3)],.tok 2 (T (3+p.aJ.length+i)),.box [.d (.s []),.bJ (0,3) (T (3+p.aJ.length+i))]]::S)
  (fun i=>i<=p.ay.length) (fun i=>p.ay.length-i) 0 rfl rfl (an _) ?_
 intro i hi;have hl:=fZ (3+p.aJ.length+i);refine W1 ?_;refine S0 (fun hb h=>?_) fun hb h=>?_
 ·have hi':i<p.ay.length:=gA
  have hm:=ac hi';have hcz:=dM (be (f:=aU.enc) hm);have Ag:p.ay[i].sz<=aS (p.ay.map aU.enc):=hcz;have hs:=hTs _ _ (g2 i hi');have hc:aD prog 42 [p.ay[i].v] (.agg [.d (.s (BJ p.ay[i]).aI),.d (.sl ((BJ p.ay[i]).aj.map ah.enc))]):=Jb p.ay[i] gA;refine W3 ?_;refine bn hc ?_;refine W1 ?_;refine W3 ?_;rw[hs];exact bR 5 gE (i+1) gA rfl rfl rfl rfl gA
 have hi':i=p.ay.length:=gA
 subst hi';clear hi hl h
 refine aZ (ι:=Nat) zmx rfl [1,2,3,6] (fun i=>[.c (.ptr (0,0) 0),.c (.ptr (0,1) 0),.c (.ptr (0,4) 0),.c (.d (.i .i64 i))])
  (fun i=>[.box [.d (.s p.fName),.d (.sl (p.eY.map encS)),.d (.sl (p.aJ.map bI.enc)),.d (.sl (p.ay.map aU.enc)),.d (.sl (p.aH.map aQ.enc)),.d (.sl (p.aM.map aV.enc))],.box [.d (.s []),.bH []],.box [.d (.s []),.bJ (0,3) (T 3)],.tok 2 (T (3+p.aJ.length+p.ay.length+i)),.box [.d (.s []),.bJ (0,3) (T (3+p.aJ.length+p.ay.length+i))]]::S)
  (fun i=>i<=p.aH.length) (fun i=>p.aH.length-i) 0 rfl rfl (an _) ?_
 intro i hi;have hl:=fZ (3+p.aJ.length+p.ay.length+i);refine W1 ?_;refine S0 (fun hb h=>?_) fun hb h=>?_
 ·have hi':i<p.aH.length:=gA
  have hm:=ac hi';have hcz:=dM (be (f:=aQ.enc) hm);have Ag:p.aH[i].sz<=aS (p.aH.map aQ.enc):=hcz;have hs:=hTs _ _ (g3 i hi');have hc:aD prog 43 [p.aH[i].v] (.agg [.d (.s (CX p.aH[i]).aI),.d (.sl ((CX p.aH[i]).aj.map ah.enc))]):=Qp p.aH[i] gA;refine W3 ?_;refine bn hc ?_;refine W1 ?_;refine W3 ?_;rw[hs];exact bR 5 gE (i+1) gA rfl rfl rfl rfl gA
 have hi':i=p.aH.length:=gA
 subst hi';clear hi hl h
 refine aZ (ι:=Nat) zmx rfl [1,2,3,7] (fun i=>[.c (.ptr (0,0) 0),.c (.ptr (0,1) 0),.c (.ptr (0,4) 0),.c (.d (.i .i64 i))])
  (fun i=>[.box [.d (.s p.fName),.d (.sl (p.eY.map encS)),.d (.sl (p.aJ.map bI.enc)),.d (.sl (p.ay.map aU.enc)),.d (.sl (p.aH.map aQ.enc)),.d (.sl (p.aM.map aV.enc))],.box [.d (.s []),.bH []],.box [.d (.s []),.bJ (0,3) (T 3)],.tok 2 (T (3+p.aJ.length+p.ay.length+p.aH.length+i)),.box [.d (.s []),.bJ (0,3) (T (3+p.aJ.length+p.ay.length+p.aH.length+i))]]::S)
  (fun i=>i<=p.aM.length) (fun i=>p.aM.length-i) 0 rfl rfl (an _) ?_
 intro i hi;have hl:=fZ (3+p.aJ.length+p.ay.length+p.aH.length+i);refine W1 ?_;refine S0 (fun hb h=>?_) fun hb h=>?_
 ·have hi':i<p.aM.length:=gA
  have hm:=ac hi';have hcz:=dM (be (f:=aV.enc) hm);have Ag:p.aM[i].sz<=aS (p.aM.map aV.enc):=hcz;have hs:=hTs _ _ (g4 i hi');have hc:aD prog 44 [p.aM[i].v] (.agg [.d (.s (ED p.aM[i]).aI),.d (.sl ((ED p.aM[i]).aj.map ah.enc))]):=M6 p.aM[i] gA;refine W3 ?_;refine bn hc ?_;refine W1 ?_;refine W3 ?_;rw[hs];exact bR 5 gE (i+1) gA rfl rfl rfl rfl gA
 have hi':i=p.aM.length:=gA
 subst hi';clear hi hl h;have hps:=V9 hv
 have hq:∀j,PL[3+j]? =(pX p)[j]? :=fun j=>by
  rw[AY,ag (by simp[eU])];congr 1;simp[eU]
 rw[hTe]
 refine aZ (ι:=Nat) zmx rfl [2,3,8] (fun i=>[.c (.ptr (0,1) 0),.c (.ptr (0,4) 0),.c (.d (.i .i64 ((3+i:Nat):Int)))])
  (fun i=>[.box [.d (.s p.fName),.d (.sl (p.eY.map encS)),.d (.sl (p.aJ.map bI.enc)),.d (.sl (p.ay.map aU.enc)),.d (.sl (p.aH.map aQ.enc)),.d (.sl (p.aM.map aV.enc))],.box [.d (.s []),.bH []],.box [.d (.s []),.bJ (0,3) (T 3)],.tok 2 (PL.map ah.enc),.box [.d (.s []),.bJ (0,3) (PL.map ah.enc)]]::S)
  (fun i=>3+i<=PL.length/\∀j (hj:3+j<PL.length),j<i->PL[3+j].aj≠[]) (fun i=>PL.length-i) 0 rfl rfl ⟨gA,fun j hj h=>gA⟩ ?_
 rintro i ⟨hi,hj⟩;refine W1 ?_;refine S0 (fun hb h=>?_) fun hb h=>?_
 ·have hi':3+i<PL.length:=gA
  refine S1 fun hb h=>?_
  exact dH (i+1) gA rfl rfl ⟨gA,fun j hj' hlt=>by
   by_cases e:j=i
   ·subst e;exact fun hn=>h (by rw[hn];rfl)
   ·exact hj j hj' gA⟩
 ·exact absurd (fun x hx=>by
   have hm:vQ x∈pX p:=by rw[hps];exact be hx
   obtain⟨j,hj1,hj2⟩:=ci hm
   have hx2:PL[3+j]? =some (vQ x):=by rw[hq j,am hj1,hj2]
   obtain⟨hb,hg⟩:=ap.1 hx2;have h5:=hj j hb gA;rw[hg] at h5
   cases vV:dQ x with
   |true=>rfl
   |false=>exact absurd (by rw[vQ,if_neg (by rw[vV];decide)];rfl) h5) hall
theorem afQ(x:aT)(hsz:x.sz<=1048576):aD prog 12 [x.v] (vo x).v:=by
 unfold vo
 cases hv:validPkg x with
 |false=>
  rw[en,sD];refine aD.less (fun S=> ?_) (CF [] []);refine zcx [.cell 2 26] func12 ntmps12 ?_;refine W1 ?_;refine bn (xZ x gA) ?_;exact Rt
 |true=>
  rw[cd]
  cases ha:(fT x).all dQ with
  |true=>exact amy x hv hsz (az.1 ha)
  |false=>
   rw[sD];refine aD.less (amz x hv hsz fun h=> ?_) (CF [] []);rw[az.2 h] at ha;cases ha
end Go.Ab