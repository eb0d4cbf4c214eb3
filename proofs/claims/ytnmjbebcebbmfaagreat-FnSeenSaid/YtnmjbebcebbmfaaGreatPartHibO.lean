/-
  SEVERAL TEXTS IN ONE (merged by program): contracts and models, each with its own heading.
-/
import Derived.Test.YtnmjbebcebbmfaaGreatPartHibH
import Derived.Test.YtnmjbebcebbmfaaGreatPartHibJ
import Derived.Test.YtnmjbebcebbmfaaGreatPartHibN
set_option maxHeartbeats 8000000
open Go.Proofs Go.Proofs.Tryz
set_option linter.unusedSimpArgs false
set_option linter.unusedVariables false
set_option maxRecDepth 4000
namespace Go.Ab
def eu(p:aA):List (List UInt8):=p.bZ.map dx.fName
def fZ(p:aA):List (List UInt8):=p.aG.map aZ.fName
def fq(ds:List aZ):List (List UInt8):=ds.flatMap fun d=>d.aK.map aU.fName
def fnNames(p:aA):List (List UInt8):=p.bH.map bJ.fName
def sZ(ps:List aA):List (List UInt8):=ps.flatMap eu
def tq(ps:List aA):List (List UInt8):=ps.flatMap fZ
def tu(ps:List aA):List (List UInt8):=ps.flatMap fun p=>fq p.aG
def tC(ps:List aA):List (List UInt8):=ps.flatMap fnNames
noncomputable def jw(ps:List aA):Bool:=dec (sZ ps).Nodup&&(dec (tq ps).Nodup&&(dec (tu ps).Nodup&&dec (tC ps).Nodup))
theorem rO{α β:Type}(f:α->List β){xs:List α}{i:Nat}(hi:i<xs.length):(xs.take (i+1)).flatMap f=(xs.take i).flatMap f++f xs[i]:=by
 rw[cE hi,eE]
 simp
theorem oJ{α β:Type}(f:α->List β)(g:α->List D)(h:∀x,(f x).length<=aY (g x)):∀xs:List α,(xs.flatMap f).length<=aH (xs.map g)
 |[]=>by simp[aH]
 |x::xs=>by
  have h1:=h x;have h2:=oJ f g h xs;rw[List.flatMap_cons,ab,af,aH];omega
theorem YO(ds:List aZ):(fq ds).length<=aH (ds.map aZ.enc):=oJ _ _ (fun d=>by
 rw[al];simp only[aZ.aB,aY,bG,D.sz,al]
 omega) ds
theorem Mg(ps:List aA):(sZ ps).length<=aH (ps.map aA.enc)/\(tq ps).length<=aH (ps.map aA.enc)/\(tu ps).length<=aH (ps.map aA.enc)/\(tC ps).length<=aH (ps.map aA.enc):=by
 refine⟨oJ _ _ (fun p=> ?_) ps,oJ _ _ (fun p=> ?_) ps,oJ _ _ (fun p=> ?_) ps,oJ _ _ (fun p=> ?_) ps⟩
 ·simp only[eu,aA.aB,aY,bG,D.sz,al];omega
 ·simp only[fZ,aA.aB,aY,bG,D.sz,al];omega
 ·have:=YO p.aG;simp only[aA.aB,aY,bG,D.sz,al];omega
 ·simp only[fnNames,aA.aB,aY,bG,D.sz,al];omega
theorem aA.bounds{x:aA}(h:x.sz<=4194304):x.fName.length<=4194304/\x.bX.length<=4194304/\x.bZ.length<=4194304/\x.aG.length<=4194304/\x.bS.length<=4194304/\x.bH.length<=4194304/\(fq x.aG).length<=4194304:=by
 have:=YO x.aG;simp only[aA.sz,aA.aB,aY,bG,D.sz,al] at h;omega
theorem xX(xs:List (List UInt8))(x:List UInt8):xs.map encS++[[D.s x]]=(xs++[x]).map encS:=by simp[encS]
theorem NI(p:aA)(hsz:p.sz<=4194304):aT prog 41 [p.v] (.gq [(false,[.d (.sl ((eu p).map encS))]),(false,[.d (.sl ((fZ p).map encS))]),(false,[.d (.sl ((fq p.aG).map encS))]),(false,[.d (.sl ((fnNames p).map encS))])]):=fun S=>by
 have hb0:=aA.bounds hsz;refine zcx [.tmp 2,.tmp 3,.tmp 4,.tmp 5] func41 ntmps41 ?_;simp -implicitDefEqProofs (disch:=omega) only[go_sem]
 (repeat(with_reducible refine And.intro ?_ ?_;focus first|omega|rfl|assumption|exact⟨_,rfl,rfl⟩|(simp;omega)|(simp;done)))
 refine jL 6 1 [] rfl (by simp) ?_;refine jL 7 1 [] rfl (by simp) ?_;refine jL 8 1 [] rfl (by simp) ?_;refine jL 9 1 [] rfl (by simp) ?_
 refine bn (ι:=Nat×List (List UInt8)) zmx rfl [1,6,7,8,9,10] (fun y=>[.c (.ptr (0,0) 0),.c (.bM (0,1) (y.2.map encS)),.c (.bM (0,2) []),.c (.bM (0,3) []),.c (.bM (0,4) []),.c (.d (.i .i64 y.1))]) (fun y=>[.box (p.enc.map .d),.tok 1 (y.2.map encS),.tok 1 [],.tok 1 [],.tok 1 []]::S)
  (fun y=>y.1<=p.bZ.length/\y.2=(eu p).take y.1) (fun y=>p.bZ.length-y.1) (0,[]) rfl ?_ ⟨ao _,rfl⟩ ?_
 ·simp -implicitDefEqProofs (disch:=omega) only[go_sem]
 rintro⟨i,a⟩ ⟨p1,p2⟩;simp only at p1 p2
 have pl:a.length<=p.bZ.length:=by rw[p2];simp[eu];omega
 simp -implicitDefEqProofs (disch:=omega) only[go_sem]
 with_reducible refine aj (fun hb=> ?_) (fun hb=> ?_)<;>have h:=hb<;>(try simp only[wf_preprocess] at h)<;>simp -implicitDefEqProofs (disch:=omega) only[go_sem,hb]<;>(repeat(with_reducible refine And.intro ?_ ?_;focus first|omega|rfl|assumption|exact⟨_,rfl,rfl⟩|(simp;omega)|(simp;done)))
 ·have hi:i<p.bZ.length:=by omega
  (repeat(with_reducible refine And.intro ?_ ?_;focus first|omega|rfl|assumption|exact⟨_,rfl,rfl⟩|(simp;omega)|(simp;done)))
  rw[xX];exact bU (i+1,a++[p.bZ[i].fName]) (by simp only;omega) rfl rfl ⟨by simp only;omega,by simp only;rw[p2,fC (by simpa [eu] using hi)];simp[eu]⟩
 have ha:a=eu p:=by rw[p2,bi (by simp[eu];omega)]
 clear p1 p2 pl hb h;subst ha
 refine bn (ι:=Nat×List (List UInt8)×List (List UInt8)) zmx rfl [1,6,7,8,9,11] (fun y=>[.c (.ptr (0,0) 0),.c (.bM (0,1) ((eu p).map encS)),.c (.bM (0,2) (y.2.1.map encS)),.c (.bM (0,3) (y.2.2.map encS)),.c (.bM (0,4) []),.c (.d (.i .i64 y.1))]) (fun y=>[.box (p.enc.map .d),.tok 1 ((eu p).map encS),.tok 1 (y.2.1.map encS),.tok 1 (y.2.2.map encS),.tok 1 []]::S)
  (fun y=>y.1<=p.aG.length/\y.2.1=(fZ p).take y.1/\y.2.2=fq (p.aG.take y.1)) (fun y=>p.aG.length-y.1) (0,[],[]) rfl ?_ ⟨ao _,rfl,rfl⟩ ?_
 ·simp -implicitDefEqProofs (disch:=omega) only[go_sem]
 rintro⟨i,b,c⟩ ⟨p1,p2,p3⟩;simp only at p1 p2 p3
 have pl:b.length<=p.aG.length:=by rw[p2];simp[fZ];omega
 simp -implicitDefEqProofs (disch:=omega) only[go_sem]
 with_reducible refine aj (fun hb=> ?_) (fun hb=> ?_)<;>have h:=hb<;>(try simp only[wf_preprocess] at h)<;>simp -implicitDefEqProofs (disch:=omega) only[go_sem,hb]<;>(repeat(with_reducible refine And.intro ?_ ?_;focus first|omega|rfl|assumption|exact⟨_,rfl,rfl⟩|(simp;omega)|(simp;done)))
 ·have hi:i<p.aG.length:=by omega
  have e3:fq (p.aG.take (i+1))=c++p.aG[i].aK.map aU.fName:=by rw[p3];exact rO _ hi
  have hcl:(fq (p.aG.take (i+1))).length<=4194304:=by
   have h1:(fq (p.aG.take (i+1))).length<=(fq p.aG).length:=by
    conv=>rhs;rw[<-db (i+1) p.aG]
    unfold fq;rw[eE,ab];omega
   omega
  rw[e3,ab,al] at hcl
  (repeat(with_reducible refine And.intro ?_ ?_;focus first|omega|rfl|assumption|exact⟨_,rfl,rfl⟩|(simp;omega)|(simp;done)))
  rw[xX]
  refine bn (ι:=Nat×List (List UInt8)) zmx rfl [1,6,7,8,9,11,12] (fun y=>[.c (.ptr (0,0) 0),.c (.bM (0,1) ((eu p).map encS)),.c (.bM (0,2) ((b++[p.aG[i].fName]).map encS)),.c (.bM (0,3) (y.2.map encS)),.c (.bM (0,4) []),.c (.d (.i .i64 i)),.c (.d (.i .i64 y.1))]) (fun y=>[.box (p.enc.map .d),.tok 1 ((eu p).map encS),.tok 1 ((b++[p.aG[i].fName]).map encS),.tok 1 (y.2.map encS),.tok 1 []]::S)
   (fun y=>y.1<=p.aG[i].aK.length/\y.2=c++(p.aG[i].aK.map aU.fName).take y.1) (fun y=>p.aG[i].aK.length-y.1) (0,c) rfl ?_ ⟨ao _,by simp⟩ ?_
  ·simp -implicitDefEqProofs (disch:=omega) only[go_sem]
  rintro⟨k,e⟩ ⟨q1,q2⟩;simp only at q1 q2
  have pl2:e.length<=4194304:=by rw[q2];simp;omega
  simp -implicitDefEqProofs (disch:=omega) only[go_sem]
  (repeat(with_reducible refine And.intro ?_ ?_;focus first|omega|rfl|assumption|exact⟨_,rfl,rfl⟩|(simp;omega)|(simp;done)))
  with_reducible refine aj (fun hb=> ?_) (fun hb=> ?_)<;>have h:=hb<;>(try simp only[wf_preprocess] at h)<;>simp -implicitDefEqProofs (disch:=omega) only[go_sem,hb]<;>(repeat(with_reducible refine And.intro ?_ ?_;focus first|omega|rfl|assumption|exact⟨_,rfl,rfl⟩|(simp;omega)|(simp;done)))
  ·have hk:k<p.aG[i].aK.length:=by omega
   (repeat(with_reducible refine And.intro ?_ ?_;focus first|omega|rfl|assumption|exact⟨_,rfl,rfl⟩|(simp;omega)|(simp;done)))
   rw[xX];exact bU (k+1,e++[p.aG[i].aK[k].fName]) (by simp only;omega) rfl rfl ⟨by simp only;omega,by simp only;rw[q2,fC (by simpa using hk)];simp⟩
  ·have hk:k=p.aG[i].aK.length:=by omega
   have he:e=c++p.aG[i].aK.map aU.fName:=by rw[q2,bi (by simp;omega)]
   exact bU (i+1,b++[p.aG[i].fName],e) (by simp only;omega) rfl rfl ⟨by simp only;omega,by simp only;rw[p2,fC (by simpa [fZ] using hi)];simp[fZ],by simp only;rw[e3,he]⟩
 have hb1:b=fZ p:=by rw[p2,bi (by simp[fZ];omega)]
 have hc1:c=fq p.aG:=by rw[p3,bi (by omega)]
 clear p1 p2 p3 pl hb h;subst hb1;subst hc1
 refine bn (ι:=Nat×List (List UInt8)) zmx rfl [1,6,7,8,9,13] (fun y=>[.c (.ptr (0,0) 0),.c (.bM (0,1) ((eu p).map encS)),.c (.bM (0,2) ((fZ p).map encS)),.c (.bM (0,3) ((fq p.aG).map encS)),.c (.bM (0,4) (y.2.map encS)),.c (.d (.i .i64 y.1))]) (fun y=>[.box (p.enc.map .d),.tok 1 ((eu p).map encS),.tok 1 ((fZ p).map encS),.tok 1 ((fq p.aG).map encS),.tok 1 (y.2.map encS)]::S)
  (fun y=>y.1<=p.bH.length/\y.2=(fnNames p).take y.1) (fun y=>p.bH.length-y.1) (0,[]) rfl ?_ ⟨ao _,rfl⟩ ?_
 ·simp -implicitDefEqProofs (disch:=omega) only[go_sem]
 rintro⟨i,a⟩ ⟨p1,p2⟩;simp only at p1 p2
 have pl:a.length<=p.bH.length:=by rw[p2];simp[fnNames];omega
 simp -implicitDefEqProofs (disch:=omega) only[go_sem]
 with_reducible refine aj (fun hb=> ?_) (fun hb=> ?_)<;>have h:=hb<;>(try simp only[wf_preprocess] at h)<;>simp -implicitDefEqProofs (disch:=omega) only[go_sem,hb]<;>(repeat(with_reducible refine And.intro ?_ ?_;focus first|omega|rfl|assumption|exact⟨_,rfl,rfl⟩|(simp;omega)|(simp;done)))
 ·have hi:i<p.bH.length:=by omega
  (repeat(with_reducible refine And.intro ?_ ?_;focus first|omega|rfl|assumption|exact⟨_,rfl,rfl⟩|(simp;omega)|(simp;done)))
  rw[xX];exact bU (i+1,a++[p.bH[i].fName]) (by simp only;omega) rfl rfl ⟨by simp only;omega,by simp only;rw[p2,fC (by simpa [fnNames] using hi)];simp[fnNames]⟩
 ·have ha:a=fnNames p:=by rw[p2,bi (by simp[fnNames];omega)]
  rw[ha]
def vJ(a b c d:List (List UInt8))(rest:List Ab.Obj)(S:Store):Store:=
 (.box [.bF [],.bF [],.bF [],.bF []]:: .box [.bM (0,2) (a.map encS),.bM (0,3) (b.map encS),.bM (0,4) (c.map encS),.bM (0,5) (d.map encS)]:: .tok 1 (a.map encS):: .tok 1 (b.map encS):: .tok 1 (c.map encS):: .tok 1 (d.map encS)::rest)::S
theorem NJ(ps:List aA)(hl:ps.length<=4194304)(hz:aH (ps.map aA.enc)<=4194304):aT prog 57 [.c (.d (.sl (ps.map aA.enc)))] (.agg [.d (.sl ((sZ ps).map encS)),.d (.sl ((tq ps).map encS)),.d (.sl ((tu ps).map encS)),.d (.sl ((tC ps).map encS))]):=fun S=>by
 have hn:=Mg ps;refine zcx [.cell 2 100] func57 ntmps57 ?_;simp -implicitDefEqProofs (disch:=omega) only[go_sem]
 (repeat(with_reducible refine And.intro ?_ ?_;focus first|omega|rfl|assumption|exact⟨_,rfl,rfl⟩|(simp;omega)|(simp;done)))
 refine uY 1 0 1 [] [.bF [],.bF [],.bF [],.bF []] rfl rfl (by simp) ?_;refine uY 1 1 1 [] [.bM (0,2) [],.bF [],.bF [],.bF []] rfl rfl (by simp) ?_;refine uY 1 2 1 [] [.bM (0,2) [],.bM (0,3) [],.bF [],.bF []] rfl rfl (by simp) ?_;refine uY 1 3 1 [] [.bM (0,2) [],.bM (0,3) [],.bM (0,4) [],.bF []] rfl rfl (by simp) ?_
 refine bn (ι:=Nat×List (List UInt8)×List (List UInt8)×List (List UInt8)×List (List UInt8)) zmx rfl [2,3,15,16,17] (fun y=>[.c (.ptr (0,0) 0),.c (.ptr (0,1) 0),.c (.d (.sl (ps.map aA.enc))),.c (.d (.i .i64 ps.length)),.c (.d (.i .i64 y.1))])
  (fun y=>[.box [.bF [],.bF [],.bF [],.bF []],.box [.bM (0,2) (y.2.1.map encS),.bM (0,3) (y.2.2.1.map encS),.bM (0,4) (y.2.2.2.1.map encS),.bM (0,5) (y.2.2.2.2.map encS)],.tok 1 (y.2.1.map encS),.tok 1 (y.2.2.1.map encS),.tok 1 (y.2.2.2.1.map encS),.tok 1 (y.2.2.2.2.map encS)]::S)
  (fun y=>y.1<=ps.length/\y.2.1=sZ (ps.take y.1)/\y.2.2.1=tq (ps.take y.1)/\y.2.2.2.1=tu (ps.take y.1)/\y.2.2.2.2=tC (ps.take y.1)) (fun y=>ps.length-y.1) (0,[],[],[],[]) rfl rfl ⟨ao _,rfl,rfl,rfl,rfl⟩ ?_
 rintro⟨i,a,b,c,d⟩ ⟨p1,p2,p3,p4,p5⟩;simp only at p1 p2 p3 p4 p5;simp -implicitDefEqProofs (disch:=omega) only[go_sem]
 with_reducible refine aj (fun hb=> ?_) (fun hb=> ?_)<;>have h:=hb<;>(try simp only[wf_preprocess] at h)<;>simp -implicitDefEqProofs (disch:=omega) only[go_sem,hb]<;>(repeat(with_reducible refine And.intro ?_ ?_;focus first|omega|rfl|assumption|exact⟨_,rfl,rfl⟩|(simp;omega)|(simp;done)))
 ·have hi:i<ps.length:=by omega
  have hp:ps[i].sz<=4194304:=by
   have hx:ps[i].sz<=aH (ps.map aA.enc):=dK (bd (ac hi));omega
  (repeat(with_reducible refine And.intro ?_ ?_;focus first|omega|rfl|assumption|exact⟨_,rfl,rfl⟩|(simp;omega)|(simp;done)))
  have sub:∀(f:aA->List (List UInt8)),((ps.take (i+1)).flatMap f).length<=(ps.flatMap f).length:=fun f=>by
   conv=>rhs;rw[<-db (i+1) ps]
   rw[eE,ab];omega
  have e2:sZ (ps.take (i+1))=a++eu ps[i]:=by rw[p2];exact rO _ hi
  have e3:tq (ps.take (i+1))=b++fZ ps[i]:=by rw[p3];exact rO _ hi
  have e4:tu (ps.take (i+1))=c++fq ps[i].aG:=by rw[p4];exact rO _ hi
  have e5:tC (ps.take (i+1))=d++fnNames ps[i]:=by rw[p5];exact rO _ hi
  have l2:(a++eu ps[i]).length<=4194304:=by rw[<-e2];have:=sub eu;unfold sZ at *;omega
  have l3:(b++fZ ps[i]).length<=4194304:=by rw[<-e3];have:=sub fZ;unfold tq at *;omega
  have l4:(c++fq ps[i].aG).length<=4194304:=by rw[<-e4];have:=sub (fun p=>fq p.aG);unfold tu at *;omega
  have l5:(d++fnNames ps[i]).length<=4194304:=by rw[<-e5];have:=sub fnNames;unfold tC at *;omega
  have hbp:=aA.bounds hp;rw[ab] at l2 l3 l4 l5
  refine bn (ι:=Nat×List (List UInt8)) zmx rfl [2,3,5,15,16,17,22,23,24] (fun y=>[.c (.ptr (0,0) 0),.c (.ptr (0,1) 0),.c (.ptr (0,6) 0),.c (.d (.sl (ps.map aA.enc))),.c (.d (.i .i64 ps.length)),.c (.d (.i .i64 i)),.c (.d (.sl (ps[i].bZ.map dx.enc))),.c (.d (.i .i64 ps[i].bZ.length)),.c (.d (.i .i64 y.1))]) (fun y=>vJ y.2 b c d [.box (ps[i].enc.map .d)] S)
   (fun y=>y.1<=ps[i].bZ.length/\y.2=a++(eu ps[i]).take y.1) (fun y=>ps[i].bZ.length-y.1) (0,a) rfl ?_ ⟨ao _,by simp⟩ ?_
  ·unfold vJ;simp -implicitDefEqProofs (disch:=omega) only[go_sem]
  rintro⟨k,a'⟩ ⟨q1,q2⟩;simp only at q1 q2
  have ql:a'.length<=4194304:=by rw[q2];simp[eu] at *;omega
  unfold vJ;simp -implicitDefEqProofs (disch:=omega) only[go_sem]
  with_reducible refine aj (fun hb=> ?_) (fun hb=> ?_)<;>have h:=hb<;>(try simp only[wf_preprocess] at h)<;>simp -implicitDefEqProofs (disch:=omega) only[go_sem,hb]<;>(repeat(with_reducible refine And.intro ?_ ?_;focus first|omega|rfl|assumption|exact⟨_,rfl,rfl⟩|(simp;omega)|(simp;done)))
  ·have hk:k<ps[i].bZ.length:=by omega
   have ql':a'.length+1<=4194304:=by rw[q2];simp[eu] at *;omega
   (repeat(with_reducible refine And.intro ?_ ?_;focus first|omega|rfl|assumption|exact⟨_,rfl,rfl⟩|(simp;omega)|(simp;done)))
   rw[xX];exact dL 7 (by decide) (k+1,a'++[ps[i].bZ[k].fName]) (by simp only;omega) rfl rfl rfl rfl ⟨by simp only;omega,by simp only;rw[q2,fC (by simpa [eu] using hk)];simp[eu]⟩
  have ha:a'=a++eu ps[i]:=by rw[q2,bi (by simp[eu];omega)]
  clear q1 q2 ql hb h;subst ha
  refine bn (ι:=Nat×List (List UInt8)×List (List UInt8)) zmx rfl [2,3,5,15,16,17,37,38,39] (fun y=>[.c (.ptr (0,0) 0),.c (.ptr (0,1) 0),.c (.ptr (0,6) 0),.c (.d (.sl (ps.map aA.enc))),.c (.d (.i .i64 ps.length)),.c (.d (.i .i64 i)),.c (.d (.sl (ps[i].aG.map aZ.enc))),.c (.d (.i .i64 ps[i].aG.length)),.c (.d (.i .i64 y.1))]) (fun y=>vJ (a++eu ps[i]) y.2.1 y.2.2 d [.box (ps[i].enc.map .d)] S)
   (fun y=>y.1<=ps[i].aG.length/\y.2.1=b++(fZ ps[i]).take y.1/\y.2.2=c++fq (ps[i].aG.take y.1)) (fun y=>ps[i].aG.length-y.1) (0,b,c) rfl ?_ ⟨ao _,by simp,by simp[fq]⟩ ?_
  ·unfold vJ;simp -implicitDefEqProofs (disch:=omega) only[go_sem]
  rintro⟨k',b',c'⟩ ⟨q1,q2,q3⟩;simp only at q1 q2 q3;unfold vJ;simp -implicitDefEqProofs (disch:=omega) only[go_sem]
  with_reducible refine aj (fun hb=> ?_) (fun hb=> ?_)<;>have h:=hb<;>(try simp only[wf_preprocess] at h)<;>simp -implicitDefEqProofs (disch:=omega) only[go_sem,hb]<;>(repeat(with_reducible refine And.intro ?_ ?_;focus first|omega|rfl|assumption|exact⟨_,rfl,rfl⟩|(simp;omega)|(simp;done)))
  ·have hk:k'<ps[i].aG.length:=by omega
   have e6:fq (ps[i].aG.take (k'+1))=fq (ps[i].aG.take k')++ps[i].aG[k'].aK.map aU.fName:=rO _ hk
   have hcl:(fq (ps[i].aG.take (k'+1))).length<=(fq ps[i].aG).length:=by
    conv=>rhs;rw[<-db (k'+1) ps[i].aG]
    unfold fq;rw[eE,ab];omega
   have ql':b'.length+1<=4194304:=by rw[q2];simp[fZ] at *;omega
   have qc:c'.length+ps[i].aG[k'].aK.length<=4194304:=by
    rw[e6,ab,al] at hcl;rw[q3,ab];omega
   (repeat(with_reducible refine And.intro ?_ ?_;focus first|omega|rfl|assumption|exact⟨_,rfl,rfl⟩|(simp;omega)|(simp;done)))
   rw[xX]
   refine bn (ι:=Nat×List (List UInt8)) zmx rfl [2,3,5,15,16,17,37,38,39,51,52,53] (fun y=>[.c (.ptr (0,0) 0),.c (.ptr (0,1) 0),.c (.ptr (0,6) 0),.c (.d (.sl (ps.map aA.enc))),.c (.d (.i .i64 ps.length)),.c (.d (.i .i64 i)),.c (.d (.sl (ps[i].aG.map aZ.enc))),.c (.d (.i .i64 ps[i].aG.length)),.c (.d (.i .i64 k')),.c (.d (.sl (ps[i].aG[k'].aK.map aU.enc))),.c (.d (.i .i64 ps[i].aG[k'].aK.length)),.c (.d (.i .i64 y.1))]) (fun y=>vJ (a++eu ps[i]) (b'++[ps[i].aG[k'].fName]) y.2 d [.box (ps[i].enc.map .d),.box (ps[i].aG[k'].enc.map .d)] S)
    (fun y=>y.1<=ps[i].aG[k'].aK.length/\y.2=c'++(ps[i].aG[k'].aK.map aU.fName).take y.1) (fun y=>ps[i].aG[k'].aK.length-y.1) (0,c') rfl ?_ ⟨ao _,by simp⟩ ?_
   ·unfold vJ;simp -implicitDefEqProofs (disch:=omega) only[go_sem]
   rintro⟨m,c''⟩ ⟨r1,r2⟩;simp only at r1 r2
   have rl:c''.length<=4194304:=by rw[r2];simp;omega
   unfold vJ;simp -implicitDefEqProofs (disch:=omega) only[go_sem]
   with_reducible refine aj (fun hb=> ?_) (fun hb=> ?_)<;>have h:=hb<;>(try simp only[wf_preprocess] at h)<;>simp -implicitDefEqProofs (disch:=omega) only[go_sem,hb]<;>(repeat(with_reducible refine And.intro ?_ ?_;focus first|omega|rfl|assumption|exact⟨_,rfl,rfl⟩|(simp;omega)|(simp;done)))
   ·have hm:m<ps[i].aG[k'].aK.length:=by omega
    have rl':c''.length+1<=4194304:=by rw[r2];simp;omega
    (repeat(with_reducible refine And.intro ?_ ?_;focus first|omega|rfl|assumption|exact⟨_,rfl,rfl⟩|(simp;omega)|(simp;done)))
    rw[xX];exact dL 8 (by decide) (m+1,c''++[ps[i].aG[k'].aK[m].fName]) (by simp only;omega) rfl rfl rfl rfl ⟨by simp only;omega,by simp only;rw[r2,fC (by simpa using hm)];simp⟩
   ·have hm:m=ps[i].aG[k'].aK.length:=by omega
    have hc:c''=c'++ps[i].aG[k'].aK.map aU.fName:=by rw[r2,bi (by simp;omega)]
    exact dL 7 (by decide) (k'+1,b'++[ps[i].aG[k'].fName],c'') (by simp only;omega) rfl rfl rfl rfl ⟨by simp only;omega,by simp only;rw[q2,fC (by simpa [fZ] using hk)];simp[fZ],by simp only;rw[hc,e6,q3,cH]⟩
  have hb':b'=b++fZ ps[i]:=by rw[q2,bi (by simp[fZ];omega)]
  have hc':c'=c++fq ps[i].aG:=by rw[q3,bi (by omega)]
  clear q1 q2 q3 hb h;subst hb';subst hc'
  refine bn (ι:=Nat×List (List UInt8)) zmx rfl [2,3,5,15,16,17,67,68,69] (fun y=>[.c (.ptr (0,0) 0),.c (.ptr (0,1) 0),.c (.ptr (0,6) 0),.c (.d (.sl (ps.map aA.enc))),.c (.d (.i .i64 ps.length)),.c (.d (.i .i64 i)),.c (.d (.sl (ps[i].bH.map bJ.enc))),.c (.d (.i .i64 ps[i].bH.length)),.c (.d (.i .i64 y.1))]) (fun y=>vJ (a++eu ps[i]) (b++fZ ps[i]) (c++fq ps[i].aG) y.2 [.box (ps[i].enc.map .d)] S)
   (fun y=>y.1<=ps[i].bH.length/\y.2=d++(fnNames ps[i]).take y.1) (fun y=>ps[i].bH.length-y.1) (0,d) rfl ?_ ⟨ao _,by simp⟩ ?_
  ·unfold vJ;simp -implicitDefEqProofs (disch:=omega) only[go_sem]
  rintro⟨k4,d'⟩ ⟨q1,q2⟩;simp only at q1 q2
  have ql:d'.length<=4194304:=by rw[q2];simp[fnNames] at *;omega
  unfold vJ;simp -implicitDefEqProofs (disch:=omega) only[go_sem]
  with_reducible refine aj (fun hb=> ?_) (fun hb=> ?_)<;>have h:=hb<;>(try simp only[wf_preprocess] at h)<;>simp -implicitDefEqProofs (disch:=omega) only[go_sem,hb]<;>(repeat(with_reducible refine And.intro ?_ ?_;focus first|omega|rfl|assumption|exact⟨_,rfl,rfl⟩|(simp;omega)|(simp;done)))
  ·have hk:k4<ps[i].bH.length:=by omega
   have ql':d'.length+1<=4194304:=by rw[q2];simp[fnNames] at *;omega
   (repeat(with_reducible refine And.intro ?_ ?_;focus first|omega|rfl|assumption|exact⟨_,rfl,rfl⟩|(simp;omega)|(simp;done)))
   rw[xX];exact dL 7 (by decide) (k4+1,d'++[ps[i].bH[k4].fName]) (by simp only;omega) rfl rfl rfl rfl ⟨by simp only;omega,by simp only;rw[q2,fC (by simpa [fnNames] using hk)];simp[fnNames]⟩
  ·have hd:d'=d++fnNames ps[i]:=by rw[q2,bi (by simp[fnNames];omega)]
   exact dL 6 (by decide) (i+1,a++eu ps[i],b++fZ ps[i],c++fq ps[i].aG,d') (by simp only;omega) rfl rfl rfl rfl ⟨by simp only;omega,e2.symm,e3.symm,e4.symm,by simp only;rw[hd,e5]⟩
 ·have hi:i=ps.length:=by omega
  rw[bi (by omega)] at p2 p3 p4 p5;rw[p2,p3,p4,p5]
theorem Mh(ps:List aA)(hl:ps.length<=4194304)(hz:aH (ps.map aA.enc)<=4194304):aT prog 33 [.c (.d (.sl (ps.map aA.enc)))] (.c (.d (.b (jw ps)))):=fun S=>by
 have hn:=Mg ps;refine zcx [.tmp 2] func33 ntmps33 ?_;simp -implicitDefEqProofs (disch:=omega) only[go_sem];refine au (NJ ps hl hz) ?_;simp -implicitDefEqProofs (disch:=omega) only[go_sem]<;>(repeat(with_reducible refine And.intro ?_ ?_;focus first|omega|rfl|assumption|exact⟨_,rfl,rfl⟩|(simp;omega)|(simp;done)))
 refine bn (ι:=Int) zmx rfl [6,7] (fun i=>[.agg [.d (.sl ((sZ ps).map encS)),.d (.sl ((tq ps).map encS)),.d (.sl ((tu ps).map encS)),.d (.sl ((tC ps).map encS))],.c (.d (.i .i64 i))]) (fun _=>[]::S)
  (fun i=>(0<=i/\i<=4)/\(1<=i->(sZ ps).Nodup)/\(2<=i->(tq ps).Nodup)/\(3<=i->(tu ps).Nodup)/\(4<=i->(tC ps).Nodup)) (fun i=>(4-i).toNat) 0 rfl rfl ⟨⟨by omega,by omega⟩,by omega,by omega,by omega,by omega⟩ ?_
 rintro i ⟨p0,p1,p2,p3,p4⟩
 have hi:i=0\/i=1\/i=2\/i=3\/i=4:=by omega
 rcases hi with rfl|rfl|rfl|rfl|rfl
 ·simp -implicitDefEqProofs (disch:=omega) only[go_sem]
  (repeat(with_reducible refine And.intro ?_ ?_;focus first|omega|rfl|assumption|exact⟨_,rfl,rfl⟩|(simp;omega)|(simp;done)))
  refine au (jD (sZ ps) (by omega)) ?_;simp -implicitDefEqProofs (disch:=omega) only[go_sem]<;>(repeat(with_reducible refine And.intro ?_ ?_;focus first|omega|rfl|assumption|exact⟨_,rfl,rfl⟩|(simp;omega)|(simp;done)))
  with_reducible refine aj (fun hb=> ?_) (fun hb=> ?_)<;>have h:=hb<;>(try simp only[wf_preprocess] at h)<;>simp -implicitDefEqProofs (disch:=omega) only[go_sem,hb]<;>(repeat(with_reducible refine And.intro ?_ ?_;focus first|omega|rfl|assumption|exact⟨_,rfl,rfl⟩|(simp;omega)|(simp;done)))
  ·exact ay (by unfold jw;rw[aI h];rfl)
  ·exact bU 1 (by decide) rfl rfl ⟨⟨by omega,by omega⟩,fun _=>h,by omega,by omega,by omega⟩
 ·simp -implicitDefEqProofs (disch:=omega) only[go_sem]
  (repeat(with_reducible refine And.intro ?_ ?_;focus first|omega|rfl|assumption|exact⟨_,rfl,rfl⟩|(simp;omega)|(simp;done)))
  refine au (jD (tq ps) (by omega)) ?_;simp -implicitDefEqProofs (disch:=omega) only[go_sem]<;>(repeat(with_reducible refine And.intro ?_ ?_;focus first|omega|rfl|assumption|exact⟨_,rfl,rfl⟩|(simp;omega)|(simp;done)))
  with_reducible refine aj (fun hb=> ?_) (fun hb=> ?_)<;>have h:=hb<;>(try simp only[wf_preprocess] at h)<;>simp -implicitDefEqProofs (disch:=omega) only[go_sem,hb]<;>(repeat(with_reducible refine And.intro ?_ ?_;focus first|omega|rfl|assumption|exact⟨_,rfl,rfl⟩|(simp;omega)|(simp;done)))
  ·exact ay (by unfold jw;rw[aI h];simp)
  ·exact bU 2 (by decide) rfl rfl ⟨⟨by omega,by omega⟩,fun _=>p1 (by omega),fun _=>h,by omega,by omega⟩
 ·simp -implicitDefEqProofs (disch:=omega) only[go_sem]
  (repeat(with_reducible refine And.intro ?_ ?_;focus first|omega|rfl|assumption|exact⟨_,rfl,rfl⟩|(simp;omega)|(simp;done)))
  refine au (jD (tu ps) (by omega)) ?_;simp -implicitDefEqProofs (disch:=omega) only[go_sem]<;>(repeat(with_reducible refine And.intro ?_ ?_;focus first|omega|rfl|assumption|exact⟨_,rfl,rfl⟩|(simp;omega)|(simp;done)))
  with_reducible refine aj (fun hb=> ?_) (fun hb=> ?_)<;>have h:=hb<;>(try simp only[wf_preprocess] at h)<;>simp -implicitDefEqProofs (disch:=omega) only[go_sem,hb]<;>(repeat(with_reducible refine And.intro ?_ ?_;focus first|omega|rfl|assumption|exact⟨_,rfl,rfl⟩|(simp;omega)|(simp;done)))
  ·exact ay (by unfold jw;rw[aI h];simp)
  ·exact bU 3 (by decide) rfl rfl ⟨⟨by omega,by omega⟩,fun _=>p1 (by omega),fun _=>p2 (by omega),fun _=>h,by omega⟩
 ·simp -implicitDefEqProofs (disch:=omega) only[go_sem]
  (repeat(with_reducible refine And.intro ?_ ?_;focus first|omega|rfl|assumption|exact⟨_,rfl,rfl⟩|(simp;omega)|(simp;done)))
  refine au (jD (tC ps) (by omega)) ?_;simp -implicitDefEqProofs (disch:=omega) only[go_sem]<;>(repeat(with_reducible refine And.intro ?_ ?_;focus first|omega|rfl|assumption|exact⟨_,rfl,rfl⟩|(simp;omega)|(simp;done)))
  with_reducible refine aj (fun hb=> ?_) (fun hb=> ?_)<;>have h:=hb<;>(try simp only[wf_preprocess] at h)<;>simp -implicitDefEqProofs (disch:=omega) only[go_sem,hb]<;>(repeat(with_reducible refine And.intro ?_ ?_;focus first|omega|rfl|assumption|exact⟨_,rfl,rfl⟩|(simp;omega)|(simp;done)))
  ·exact ay (by unfold jw;rw[aI h];simp)
  ·exact bU 4 (by decide) rfl rfl ⟨⟨by omega,by omega⟩,fun _=>p1 (by omega),fun _=>p2 (by omega),fun _=>p3 (by omega),fun _=>h⟩
 ·simp -implicitDefEqProofs (disch:=omega) only[go_sem];exact ay (by unfold jw;rw[bg (p1 (by omega)),bg (p2 (by omega)),bg (p3 (by omega)),bg (p4 (by omega))];rfl)
noncomputable def pU(p:aA):Bool:=p.bZ.all dW&&(p.aG.all eU&&(p.bS.all fV&&p.bH.all lG))
noncomputable def oK(p:aA):Bool:=validName p.fName&&(dec (p.bX.length<=5)&&(fU p.bX&&(!dec (p.fName∈p.bX)&&dec (p.bZ.length+p.aG.length+p.bS.length+p.bH.length<=24))))
noncomputable def validPkg(p:aA):Bool:=oK p&&(jw [p]&&pU p)
theorem aA.sum(x:aA):x.fName.length+(x.bX.length+aH (x.bX.map encS))+(x.bZ.length+aH (x.bZ.map dx.enc))+(x.aG.length+aH (x.aG.map aZ.enc))+(x.bS.length+aH (x.bS.map bI.enc))+(x.bH.length+aH (x.bH.map bJ.enc))<=x.sz:=by
 simp only[aA.sz,aA.aB,aY,bG,D.sz,al];omega
theorem pV{α:Type}{f:α->Bool}{xs:List α}{i:Nat}(hi:i<xs.length):(xs.drop i).all f=(f xs[i]&&(xs.drop (i+1)).all f):=by
 rw[bh hi,ef]
theorem Hq(xs:List (List UInt8))(s:List UInt8)(hl:xs.length<=1073741824):aT prog 32 [.c (.d (.sl (xs.map encS))),.c (.d (.s s))] (.c (.d (.i .i64 (qG xs s)))):=fun S=>by
 refine zcx [.tmp 4] func32 ntmps32 ?_;simp -implicitDefEqProofs (disch:=omega) only[go_sem];refine au (Iq xs s hl) ?_;simp -implicitDefEqProofs (disch:=omega) only[go_sem]<;>(repeat(with_reducible refine And.intro ?_ ?_;focus first|omega|rfl|assumption|exact⟨_,rfl,rfl⟩|(simp;omega)|(simp;done)))
theorem Gd(p:aA)(hsz:p.sz<=4194304):aT prog 19 [p.v] (.c (.d (.b (validPkg p)))):=fun S=>by
 have hs:=aA.sum p
 have hV:∀s∈p.bX,s.length<=4194304:=fun s h=>by have:=mG h;omega
 have no:oK p=false->V.c (.d (.b false))=V.c (.d (.b (validPkg p))):=fun h=>ay (by unfold validPkg;rw[h];rfl);have hu:=Mh [p] (by simp) (by simp[aH];have:aY p.enc=p.sz:=rfl;omega);have hix:decide (qG p.bX p.fName>=0)=dec (p.fName∈p.bX):=E9;refine zcx [.tmp 2] func19 ntmps19 ?_;simp -implicitDefEqProofs (disch:=omega) only[go_sem];refine au (fA p.fName (by omega)) ?_;simp -implicitDefEqProofs (disch:=omega) only[go_sem]<;>(repeat(with_reducible refine And.intro ?_ ?_;focus first|omega|rfl|assumption|exact⟨_,rfl,rfl⟩|(simp;omega)|(simp;done)))
 with_reducible refine aj (fun hb=> ?_) (fun hb=> ?_)<;>have h:=hb<;>(try simp only[wf_preprocess] at h)<;>simp -implicitDefEqProofs (disch:=omega) only[go_sem,hb]<;>(repeat(with_reducible refine And.intro ?_ ?_;focus first|omega|rfl|assumption|exact⟨_,rfl,rfl⟩|(simp;omega)|(simp;done)))
 ·exact no (by unfold oK;rw[h];rfl)
 have k1:=h
 with_reducible refine aj (fun hb=> ?_) (fun hb=> ?_)<;>have h:=hb<;>(try simp only[wf_preprocess] at h)<;>simp -implicitDefEqProofs (disch:=omega) only[go_sem,hb]<;>(repeat(with_reducible refine And.intro ?_ ?_;focus first|omega|rfl|assumption|exact⟨_,rfl,rfl⟩|(simp;omega)|(simp;done)))
 ·exact no (by unfold oK;rw[aI (show ¬p.bX.length<=5 by omega)];simp)
 have k2:=h
 (repeat(with_reducible refine And.intro ?_ ?_;focus first|omega|rfl|assumption|exact⟨_,rfl,rfl⟩|(simp;omega)|(simp;done)))
 refine au (j5 p.bX (by omega) hV) ?_;simp -implicitDefEqProofs (disch:=omega) only[go_sem]<;>(repeat(with_reducible refine And.intro ?_ ?_;focus first|omega|rfl|assumption|exact⟨_,rfl,rfl⟩|(simp;omega)|(simp;done)))
 with_reducible refine aj (fun hb=> ?_) (fun hb=> ?_)<;>have h:=hb<;>(try simp only[wf_preprocess] at h)<;>simp -implicitDefEqProofs (disch:=omega) only[go_sem,hb]<;>(repeat(with_reducible refine And.intro ?_ ?_;focus first|omega|rfl|assumption|exact⟨_,rfl,rfl⟩|(simp;omega)|(simp;done)))
 ·exact no (by unfold oK;rw[h];simp)
 have k3:=h
 (repeat(with_reducible refine And.intro ?_ ?_;focus first|omega|rfl|assumption|exact⟨_,rfl,rfl⟩|(simp;omega)|(simp;done)))
 refine au (Hq p.bX p.fName (by omega)) ?_;simp -implicitDefEqProofs (disch:=omega) only[go_sem];rw[show decide (0<=qG p.bX p.fName)=dec (p.fName∈p.bX) from hix]
 with_reducible refine aj (fun hb=> ?_) (fun hb=> ?_)<;>have h:=hb<;>(try simp only[wf_preprocess] at h)<;>simp -implicitDefEqProofs (disch:=omega) only[go_sem,hb]<;>(repeat(with_reducible refine And.intro ?_ ?_;focus first|omega|rfl|assumption|exact⟨_,rfl,rfl⟩|(simp;omega)|(simp;done)))
 ·exact no (by unfold oK;rw[bg h];simp)
 have k4:=h
 with_reducible refine aj (fun hb=> ?_) (fun hb=> ?_)<;>have h:=hb<;>(try simp only[wf_preprocess] at h)<;>simp -implicitDefEqProofs (disch:=omega) only[go_sem,hb]<;>(repeat(with_reducible refine And.intro ?_ ?_;focus first|omega|rfl|assumption|exact⟨_,rfl,rfl⟩|(simp;omega)|(simp;done)))
 ·exact no (by unfold oK;rw[aI (show ¬p.bZ.length+p.aG.length+p.bS.length+p.bH.length<=24 by omega)];simp)
 have hh:oK p=true:=by unfold oK;rw[k1,k3,bg (show p.bX.length<=5 by omega),aI k4,bg (by omega)];rfl
 simp only[af,ap] at hu
 (repeat(with_reducible refine And.intro ?_ ?_;focus first|omega|rfl|assumption|exact⟨_,rfl,rfl⟩|(simp;omega)|(simp;done)))
 refine au hu ?_;simp -implicitDefEqProofs (disch:=omega) only[go_sem];clear hu hix no k1 k2 k3 k4
 have fin:validPkg p=((((jw [p]&&p.bZ.all dW)&&p.aG.all eU)&&p.bS.all fV)&&p.bH.all lG):=by unfold validPkg pU;rw[hh];simp[ey]
 generalize jw [p]=b0 at fin ⊢
 refine bn (ι:=Nat×Bool) zmx rfl [1,3,56,57,58] (fun y=>[.c (.ptr (0,0) 0),.c (.d (.b y.2)),.c (.d (.sl (p.bZ.map dx.enc))),.c (.d (.i .i64 p.bZ.length)),.c (.d (.i .i64 y.1))]) (fun _=>[.box (p.enc.map .d)]::S)
  (fun y=>y.1<=p.bZ.length/\(y.2&&(p.bZ.drop y.1).all dW)=(b0&&p.bZ.all dW)) (fun y=>p.bZ.length-y.1) (0,b0) rfl ?_ ⟨ao _,rfl⟩ ?_
 ·simp -implicitDefEqProofs (disch:=omega) only[go_sem]
 rintro⟨i,b⟩ ⟨p1,p2⟩;simp only at p1 p2;simp -implicitDefEqProofs (disch:=omega) only[go_sem]
 with_reducible refine aj (fun hb=> ?_) (fun hb=> ?_)<;>have h:=hb<;>(try simp only[wf_preprocess] at h)<;>simp -implicitDefEqProofs (disch:=omega) only[go_sem,hb]<;>(repeat(with_reducible refine And.intro ?_ ?_;focus first|omega|rfl|assumption|exact⟨_,rfl,rfl⟩|(simp;omega)|(simp;done)))
 ·have hi:i<p.bZ.length:=by omega
  have hx:p.bZ[i].sz<=aH (p.bZ.map dx.enc):=dK (bd (ac hi));rw[pV hi] at p2
  (repeat(with_reducible refine And.intro ?_ ?_;focus first|omega|rfl|assumption|exact⟨_,rfl,rfl⟩|(simp;omega)|(simp;done)))
  with_reducible refine aj (fun hb=> ?_) (fun hb=> ?_)<;>have h:=hb<;>(try simp only[wf_preprocess] at h)<;>simp -implicitDefEqProofs (disch:=omega) only[go_sem,hb]<;>(repeat(with_reducible refine And.intro ?_ ?_;focus first|omega|rfl|assumption|exact⟨_,rfl,rfl⟩|(simp;omega)|(simp;done)))
  ·have hb1:=h;rw[hb1,bj] at p2;refine au (Cz p.bZ[i] (by omega)) ?_;simp -implicitDefEqProofs (disch:=omega) only[go_sem]<;>(repeat(with_reducible refine And.intro ?_ ?_;focus first|omega|rfl|assumption|exact⟨_,rfl,rfl⟩|(simp;omega)|(simp;done)));exact dL 1 (by decide) (i+1,dW p.bZ[i]) (by simp only;omega) rfl rfl rfl rfl ⟨by simp only;omega,p2⟩
  ·have hb1:=h;rw[hb1,Bool.false_and] at p2;exact dL 1 (by decide) (i+1,false) (by simp only;omega) rfl rfl rfl rfl ⟨by simp only;omega,p2⟩
 rw[bz (by omega),dj,bx] at p2;rw[<-p2] at fin;clear p2 p1 hb h;generalize b=b1 at fin ⊢
 refine bn (ι:=Nat×Bool) zmx rfl [1,3,69,70,71] (fun y=>[.c (.ptr (0,0) 0),.c (.d (.b y.2)),.c (.d (.sl (p.aG.map aZ.enc))),.c (.d (.i .i64 p.aG.length)),.c (.d (.i .i64 y.1))]) (fun _=>[.box (p.enc.map .d)]::S)
  (fun y=>y.1<=p.aG.length/\(y.2&&(p.aG.drop y.1).all eU)=(b1&&p.aG.all eU)) (fun y=>p.aG.length-y.1) (0,b1) rfl ?_ ⟨ao _,rfl⟩ ?_
 ·simp -implicitDefEqProofs (disch:=omega) only[go_sem]
 rintro⟨i,b⟩ ⟨p1,p2⟩;simp only at p1 p2;simp -implicitDefEqProofs (disch:=omega) only[go_sem]
 with_reducible refine aj (fun hb=> ?_) (fun hb=> ?_)<;>have h:=hb<;>(try simp only[wf_preprocess] at h)<;>simp -implicitDefEqProofs (disch:=omega) only[go_sem,hb]<;>(repeat(with_reducible refine And.intro ?_ ?_;focus first|omega|rfl|assumption|exact⟨_,rfl,rfl⟩|(simp;omega)|(simp;done)))
 ·have hi:i<p.aG.length:=by omega
  have hx:p.aG[i].sz<=aH (p.aG.map aZ.enc):=dK (bd (ac hi));rw[pV hi] at p2
  (repeat(with_reducible refine And.intro ?_ ?_;focus first|omega|rfl|assumption|exact⟨_,rfl,rfl⟩|(simp;omega)|(simp;done)))
  with_reducible refine aj (fun hb=> ?_) (fun hb=> ?_)<;>have h:=hb<;>(try simp only[wf_preprocess] at h)<;>simp -implicitDefEqProofs (disch:=omega) only[go_sem,hb]<;>(repeat(with_reducible refine And.intro ?_ ?_;focus first|omega|rfl|assumption|exact⟨_,rfl,rfl⟩|(simp;omega)|(simp;done)))
  ·have hb1:=h;rw[hb1,bj] at p2;refine au (DT p.aG[i] (by omega)) ?_;simp -implicitDefEqProofs (disch:=omega) only[go_sem]<;>(repeat(with_reducible refine And.intro ?_ ?_;focus first|omega|rfl|assumption|exact⟨_,rfl,rfl⟩|(simp;omega)|(simp;done)));exact dL 1 (by decide) (i+1,eU p.aG[i]) (by simp only;omega) rfl rfl rfl rfl ⟨by simp only;omega,p2⟩
  ·have hb1:=h;rw[hb1,Bool.false_and] at p2;exact dL 1 (by decide) (i+1,false) (by simp only;omega) rfl rfl rfl rfl ⟨by simp only;omega,p2⟩
 rw[bz (by omega),dj,bx] at p2;rw[<-p2] at fin;clear p2 p1 hb h;generalize b=b2 at fin ⊢
 refine bn (ι:=Nat×Bool) zmx rfl [1,3,82,83,84] (fun y=>[.c (.ptr (0,0) 0),.c (.d (.b y.2)),.c (.d (.sl (p.bS.map bI.enc))),.c (.d (.i .i64 p.bS.length)),.c (.d (.i .i64 y.1))]) (fun _=>[.box (p.enc.map .d)]::S)
  (fun y=>y.1<=p.bS.length/\(y.2&&(p.bS.drop y.1).all fV)=(b2&&p.bS.all fV)) (fun y=>p.bS.length-y.1) (0,b2) rfl ?_ ⟨ao _,rfl⟩ ?_
 ·simp -implicitDefEqProofs (disch:=omega) only[go_sem]
 rintro⟨i,b⟩ ⟨p1,p2⟩;simp only at p1 p2;simp -implicitDefEqProofs (disch:=omega) only[go_sem]
 with_reducible refine aj (fun hb=> ?_) (fun hb=> ?_)<;>have h:=hb<;>(try simp only[wf_preprocess] at h)<;>simp -implicitDefEqProofs (disch:=omega) only[go_sem,hb]<;>(repeat(with_reducible refine And.intro ?_ ?_;focus first|omega|rfl|assumption|exact⟨_,rfl,rfl⟩|(simp;omega)|(simp;done)))
 ·have hi:i<p.bS.length:=by omega
  have hx:p.bS[i].sz<=aH (p.bS.map bI.enc):=dK (bd (ac hi));rw[pV hi] at p2
  (repeat(with_reducible refine And.intro ?_ ?_;focus first|omega|rfl|assumption|exact⟨_,rfl,rfl⟩|(simp;omega)|(simp;done)))
  with_reducible refine aj (fun hb=> ?_) (fun hb=> ?_)<;>have h:=hb<;>(try simp only[wf_preprocess] at h)<;>simp -implicitDefEqProofs (disch:=omega) only[go_sem,hb]<;>(repeat(with_reducible refine And.intro ?_ ?_;focus first|omega|rfl|assumption|exact⟨_,rfl,rfl⟩|(simp;omega)|(simp;done)))
  ·have hb1:=h;rw[hb1,bj] at p2;refine au (Eh p.bS[i] (by omega)) ?_;simp -implicitDefEqProofs (disch:=omega) only[go_sem]<;>(repeat(with_reducible refine And.intro ?_ ?_;focus first|omega|rfl|assumption|exact⟨_,rfl,rfl⟩|(simp;omega)|(simp;done)));exact dL 1 (by decide) (i+1,fV p.bS[i]) (by simp only;omega) rfl rfl rfl rfl ⟨by simp only;omega,p2⟩
  ·have hb1:=h;rw[hb1,Bool.false_and] at p2;exact dL 1 (by decide) (i+1,false) (by simp only;omega) rfl rfl rfl rfl ⟨by simp only;omega,p2⟩
 rw[bz (by omega),dj,bx] at p2;rw[<-p2] at fin;clear p2 p1 hb h;generalize b=b3 at fin ⊢
 refine bn (ι:=Nat×Bool) zmx rfl [3,95,96,97] (fun y=>[.c (.d (.b y.2)),.c (.d (.sl (p.bH.map bJ.enc))),.c (.d (.i .i64 p.bH.length)),.c (.d (.i .i64 y.1))]) (fun _=>[.box (p.enc.map .d)]::S)
  (fun y=>y.1<=p.bH.length/\(y.2&&(p.bH.drop y.1).all lG)=(b3&&p.bH.all lG)) (fun y=>p.bH.length-y.1) (0,b3) rfl ?_ ⟨ao _,rfl⟩ ?_
 ·simp -implicitDefEqProofs (disch:=omega) only[go_sem]
 rintro⟨i,b⟩ ⟨p1,p2⟩;simp only at p1 p2;simp -implicitDefEqProofs (disch:=omega) only[go_sem]
 with_reducible refine aj (fun hb=> ?_) (fun hb=> ?_)<;>have h:=hb<;>(try simp only[wf_preprocess] at h)<;>simp -implicitDefEqProofs (disch:=omega) only[go_sem,hb]<;>(repeat(with_reducible refine And.intro ?_ ?_;focus first|omega|rfl|assumption|exact⟨_,rfl,rfl⟩|(simp;omega)|(simp;done)))
 ·have hi:i<p.bH.length:=by omega
  have hx:p.bH[i].sz<=aH (p.bH.map bJ.enc):=dK (bd (ac hi));rw[pV hi] at p2
  (repeat(with_reducible refine And.intro ?_ ?_;focus first|omega|rfl|assumption|exact⟨_,rfl,rfl⟩|(simp;omega)|(simp;done)))
  with_reducible refine aj (fun hb=> ?_) (fun hb=> ?_)<;>have h:=hb<;>(try simp only[wf_preprocess] at h)<;>simp -implicitDefEqProofs (disch:=omega) only[go_sem,hb]<;>(repeat(with_reducible refine And.intro ?_ ?_;focus first|omega|rfl|assumption|exact⟨_,rfl,rfl⟩|(simp;omega)|(simp;done)))
  ·have hb1:=h;rw[hb1,bj] at p2;refine au (GY p.bH[i] (by omega)) ?_;simp -implicitDefEqProofs (disch:=omega) only[go_sem]<;>(repeat(with_reducible refine And.intro ?_ ?_;focus first|omega|rfl|assumption|exact⟨_,rfl,rfl⟩|(simp;omega)|(simp;done)));exact dL 1 (by decide) (i+1,lG p.bH[i]) (by simp only;omega) rfl rfl rfl rfl ⟨by simp only;omega,p2⟩
  ·have hb1:=h;rw[hb1,Bool.false_and] at p2;exact dL 1 (by decide) (i+1,false) (by simp only;omega) rfl rfl rfl rfl ⟨by simp only;omega,p2⟩
 rw[bz (by omega),dj,bx] at p2;rw[<-p2] at fin;clear p2 p1 hb h;exact ay fin.symm
theorem NK(p:aA)(hsz:p.sz<=4194304):aT prog 46 [p.v] (.c (.d (.b (pU p)))):=fun S=>by
 have hs:=aA.sum p;refine zcx [.tmp 2] func46 ntmps46 ?_;simp -implicitDefEqProofs (disch:=omega) only[go_sem]
 refine bn (ι:=Nat) zmx rfl [1,3] (fun i=>[.c (.ptr (0,0) 0),.c (.d (.i .i64 i))]) (fun _=>[.box (p.enc.map .d)]::S)
  (fun i=>i<=p.bZ.length/\(p.bZ.drop i).all dW=p.bZ.all dW) (fun i=>p.bZ.length-i) 0 rfl ?_ ⟨ao _,rfl⟩ ?_
 ·simp -implicitDefEqProofs (disch:=omega) only[go_sem]
 rintro i ⟨p1,p2⟩;simp -implicitDefEqProofs (disch:=omega) only[go_sem]
 with_reducible refine aj (fun hb=> ?_) (fun hb=> ?_)<;>have h:=hb<;>(try simp only[wf_preprocess] at h)<;>simp -implicitDefEqProofs (disch:=omega) only[go_sem,hb]<;>(repeat(with_reducible refine And.intro ?_ ?_;focus first|omega|rfl|assumption|exact⟨_,rfl,rfl⟩|(simp;omega)|(simp;done)))
 ·have hi:i<p.bZ.length:=by omega
  have hx:p.bZ[i].sz<=aH (p.bZ.map dx.enc):=dK (bd (ac hi));rw[pV hi] at p2
  (repeat(with_reducible refine And.intro ?_ ?_;focus first|omega|rfl|assumption|exact⟨_,rfl,rfl⟩|(simp;omega)|(simp;done)))
  refine au (CB p.bZ[i] (by omega)) ?_;simp -implicitDefEqProofs (disch:=omega) only[go_sem]<;>(repeat(with_reducible refine And.intro ?_ ?_;focus first|omega|rfl|assumption|exact⟨_,rfl,rfl⟩|(simp;omega)|(simp;done)))
  with_reducible refine aj (fun hb=> ?_) (fun hb=> ?_)<;>have h:=hb<;>(try simp only[wf_preprocess] at h)<;>simp -implicitDefEqProofs (disch:=omega) only[go_sem,hb]<;>(repeat(with_reducible refine And.intro ?_ ?_;focus first|omega|rfl|assumption|exact⟨_,rfl,rfl⟩|(simp;omega)|(simp;done)))
  ·exact ay (by unfold pU;rw[<-p2,h];simp)
  ·rw[h,bj] at p2;exact bU (i+1) (by omega) rfl rfl ⟨by omega,p2⟩
 rw[bz (by omega),dj] at p2;have f3:=p2.symm;clear p2 p1 hb h
 refine bn (ι:=Nat) zmx rfl [1,4] (fun i=>[.c (.ptr (0,0) 0),.c (.d (.i .i64 i))]) (fun _=>[.box (p.enc.map .d)]::S)
  (fun i=>i<=p.aG.length/\(p.aG.drop i).all eU=p.aG.all eU) (fun i=>p.aG.length-i) 0 rfl ?_ ⟨ao _,rfl⟩ ?_
 ·simp -implicitDefEqProofs (disch:=omega) only[go_sem]
 rintro i ⟨p1,p2⟩;simp -implicitDefEqProofs (disch:=omega) only[go_sem]
 with_reducible refine aj (fun hb=> ?_) (fun hb=> ?_)<;>have h:=hb<;>(try simp only[wf_preprocess] at h)<;>simp -implicitDefEqProofs (disch:=omega) only[go_sem,hb]<;>(repeat(with_reducible refine And.intro ?_ ?_;focus first|omega|rfl|assumption|exact⟨_,rfl,rfl⟩|(simp;omega)|(simp;done)))
 ·have hi:i<p.aG.length:=by omega
  have hx:p.aG[i].sz<=aH (p.aG.map aZ.enc):=dK (bd (ac hi));rw[pV hi] at p2
  (repeat(with_reducible refine And.intro ?_ ?_;focus first|omega|rfl|assumption|exact⟨_,rfl,rfl⟩|(simp;omega)|(simp;done)))
  refine au (DR p.aG[i] (by omega)) ?_;simp -implicitDefEqProofs (disch:=omega) only[go_sem]<;>(repeat(with_reducible refine And.intro ?_ ?_;focus first|omega|rfl|assumption|exact⟨_,rfl,rfl⟩|(simp;omega)|(simp;done)))
  with_reducible refine aj (fun hb=> ?_) (fun hb=> ?_)<;>have h:=hb<;>(try simp only[wf_preprocess] at h)<;>simp -implicitDefEqProofs (disch:=omega) only[go_sem,hb]<;>(repeat(with_reducible refine And.intro ?_ ?_;focus first|omega|rfl|assumption|exact⟨_,rfl,rfl⟩|(simp;omega)|(simp;done)))
  ·exact ay (by unfold pU;rw[<-p2,h];simp)
  ·rw[h,bj] at p2;exact bU (i+1) (by omega) rfl rfl ⟨by omega,p2⟩
 rw[bz (by omega),dj] at p2;have f4:=p2.symm;clear p2 p1 hb h
 refine bn (ι:=Nat) zmx rfl [1,5] (fun i=>[.c (.ptr (0,0) 0),.c (.d (.i .i64 i))]) (fun _=>[.box (p.enc.map .d)]::S)
  (fun i=>i<=p.bS.length/\(p.bS.drop i).all fV=p.bS.all fV) (fun i=>p.bS.length-i) 0 rfl ?_ ⟨ao _,rfl⟩ ?_
 ·simp -implicitDefEqProofs (disch:=omega) only[go_sem]
 rintro i ⟨p1,p2⟩;simp -implicitDefEqProofs (disch:=omega) only[go_sem]
 with_reducible refine aj (fun hb=> ?_) (fun hb=> ?_)<;>have h:=hb<;>(try simp only[wf_preprocess] at h)<;>simp -implicitDefEqProofs (disch:=omega) only[go_sem,hb]<;>(repeat(with_reducible refine And.intro ?_ ?_;focus first|omega|rfl|assumption|exact⟨_,rfl,rfl⟩|(simp;omega)|(simp;done)))
 ·have hi:i<p.bS.length:=by omega
  have hx:p.bS[i].sz<=aH (p.bS.map bI.enc):=dK (bd (ac hi));rw[pV hi] at p2
  (repeat(with_reducible refine And.intro ?_ ?_;focus first|omega|rfl|assumption|exact⟨_,rfl,rfl⟩|(simp;omega)|(simp;done)))
  refine au (Ei p.bS[i] (by omega)) ?_;simp -implicitDefEqProofs (disch:=omega) only[go_sem]<;>(repeat(with_reducible refine And.intro ?_ ?_;focus first|omega|rfl|assumption|exact⟨_,rfl,rfl⟩|(simp;omega)|(simp;done)))
  with_reducible refine aj (fun hb=> ?_) (fun hb=> ?_)<;>have h:=hb<;>(try simp only[wf_preprocess] at h)<;>simp -implicitDefEqProofs (disch:=omega) only[go_sem,hb]<;>(repeat(with_reducible refine And.intro ?_ ?_;focus first|omega|rfl|assumption|exact⟨_,rfl,rfl⟩|(simp;omega)|(simp;done)))
  ·exact ay (by unfold pU;rw[<-p2,h];simp)
  ·rw[h,bj] at p2;exact bU (i+1) (by omega) rfl rfl ⟨by omega,p2⟩
 rw[bz (by omega),dj] at p2;have f5:=p2.symm;clear p2 p1 hb h
 refine bn (ι:=Nat) zmx rfl [1,6] (fun i=>[.c (.ptr (0,0) 0),.c (.d (.i .i64 i))]) (fun _=>[.box (p.enc.map .d)]::S)
  (fun i=>i<=p.bH.length/\(p.bH.drop i).all lG=p.bH.all lG) (fun i=>p.bH.length-i) 0 rfl ?_ ⟨ao _,rfl⟩ ?_
 ·simp -implicitDefEqProofs (disch:=omega) only[go_sem]
 rintro i ⟨p1,p2⟩;simp -implicitDefEqProofs (disch:=omega) only[go_sem]
 with_reducible refine aj (fun hb=> ?_) (fun hb=> ?_)<;>have h:=hb<;>(try simp only[wf_preprocess] at h)<;>simp -implicitDefEqProofs (disch:=omega) only[go_sem,hb]<;>(repeat(with_reducible refine And.intro ?_ ?_;focus first|omega|rfl|assumption|exact⟨_,rfl,rfl⟩|(simp;omega)|(simp;done)))
 ·have hi:i<p.bH.length:=by omega
  have hx:p.bH[i].sz<=aH (p.bH.map bJ.enc):=dK (bd (ac hi));rw[pV hi] at p2
  (repeat(with_reducible refine And.intro ?_ ?_;focus first|omega|rfl|assumption|exact⟨_,rfl,rfl⟩|(simp;omega)|(simp;done)))
  refine au (GZ p.bH[i] (by omega)) ?_;simp -implicitDefEqProofs (disch:=omega) only[go_sem]<;>(repeat(with_reducible refine And.intro ?_ ?_;focus first|omega|rfl|assumption|exact⟨_,rfl,rfl⟩|(simp;omega)|(simp;done)))
  with_reducible refine aj (fun hb=> ?_) (fun hb=> ?_)<;>have h:=hb<;>(try simp only[wf_preprocess] at h)<;>simp -implicitDefEqProofs (disch:=omega) only[go_sem,hb]<;>(repeat(with_reducible refine And.intro ?_ ?_;focus first|omega|rfl|assumption|exact⟨_,rfl,rfl⟩|(simp;omega)|(simp;done)))
  ·exact ay (by unfold pU;rw[<-p2,h];simp)
  ·rw[h,bj] at p2;exact bU (i+1) (by omega) rfl rfl ⟨by omega,p2⟩
 rw[bz (by omega),dj] at p2;have f6:=p2.symm;clear p2 p1 hb h;exact ay (by unfold pU;rw[f3,f4,f5,f6];rfl)
theorem BA{α:Type}(p:α->Bool)(xs:List α):(jM p xs= -1/\∀j,∀hj:j<xs.length,p xs[j]=false)\/∃j:Nat,∃hj:j<xs.length,jM p xs=j/\p xs[j]=true/\∀k,∀hk:k<xs.length,k<j->p xs[k]=false:=by
 by_cases h:xs.any p=true
 ·right;have hlt:xs.findIdx p<xs.length:=List.findIdx_lt_length_of_exists (List.any_eq_true.1 h);refine⟨xs.findIdx p,hlt,by unfold jM;rw[if_pos h],List.findIdx_getElem,fun k hk hkj=> ?_⟩;have:=List.not_of_lt_findIdx hkj;simpa using this
 ·left;have hf:∀j,∀hj:j<xs.length,p xs[j]=false:=fun j hj=>cY.2 fun hx=>h (List.any_eq_true.2 ⟨_,ac hj,hx⟩);exact⟨kZ hf,hf⟩
def gP(w:aS):List (List UInt8):=w.aF.map aA.fName
def zP(w:aS)(i:Nat):Prop:=∀p,w.aF[i]? =some p->validPkg p=true/\∀d∈p.bX,d∈(gP w).take i
def BD(w:aS):Prop:=(∀i,i<w.aF.length->zP w i)/\(gP w).Nodup/\w.aF.length<=5
theorem Js{w:aS}{i:Nat}(hi:i<w.aF.length)(hn:(gP w).Nodup):eO w w.aF[i].fName=i:=by
 unfold eO;refine jr (p:=fun p:aA=>decide (p.fName=w.aF[i].fName)) hi (fun j hj hji=> ?_) (by simp);simp only[decide_eq_false_iff_not];intro e;unfold gP at hn;rw[List.nodup_iff_pairwise_ne,List.pairwise_iff_getElem] at hn;have:=hn j i (by simpa using hj) (by simpa using hi) hji;simp only[List.getElem_map] at this;exact this e
theorem Hr{w:aS}{i:Nat}(hi:i<w.aF.length)(h:eO w w.aF[i].fName=i):∀j,∀hj:j<i,w.aF[j].fName≠w.aF[i].fName:=by
 intro j hj e;unfold eO at h;rcases BA (fun p:aA=>decide (p.fName=w.aF[i].fName)) w.aF with⟨h1,h2⟩|⟨k,hk,h1,h2,h3⟩
 ·have:=h2 i hi;simp at this
 ·have hki:k=i:=by omega
  have:=h3 j (by omega) (by omega);simp only[decide_eq_false_iff_not] at this;exact this e
theorem Ht{w:aS}(h:∀i,∀hi:i<w.aF.length,eO w w.aF[i].fName=i):(gP w).Nodup:=by
 unfold gP;rw[List.nodup_iff_pairwise_ne,List.pairwise_iff_getElem];intro j i hj hi hji;simp only[List.getElem_map,al] at hj hi ⊢;exact Hr hi (h i hi) j hji
theorem aai{w:aS}{i:Nat}(hi:i<=w.aF.length)(d:List UInt8):(0<=eO w d/\eO w d<=(i:Int)-1)<->d∈(gP w).take i:=by
 unfold eO gP;rcases BA (fun p:aA=>decide (p.fName=d)) w.aF with⟨h1,h2⟩|⟨k,hk,h1,h2,h3⟩
 ·rw[h1];refine⟨fun h=>by omega,fun h=> ?_⟩;obtain⟨j,hj,e⟩:=bm h;simp only[bk,al] at hj;simp only[List.getElem_take,List.getElem_map] at e;have:=h2 j (by omega);simp only[decide_eq_false_iff_not] at this;exact absurd e this
 ·rw[h1];simp only[decide_eq_true_eq] at h2;constructor
  ·intro h
   have hki:k<i:=by omega
   rw[<-h2]
   have:((w.aF.map aA.fName).take i)[k]'(by simp;omega)=w.aF[k].fName:=by simp
   rw[<-this];exact ac _
  ·intro h;obtain⟨j,hj,e⟩:=bm h;simp only[bk,al] at hj;simp only[List.getElem_take,List.getElem_map] at e;refine⟨by omega,?_⟩;rcases ew j k with hjk|hjk
   ·have:=h3 j (by omega) hjk;simp only[decide_eq_false_iff_not] at this;exact absurd e this
   ·omega
theorem abI(p:aA):sZ [p]=eu p:=by simp[sZ]
theorem abJ(p:aA):tq [p]=fZ p:=by simp[tq]
theorem abK(p:aA):tu [p]=fq p.aG:=by simp[tu]
theorem abM(p:aA):tC [p]=fnNames p:=by simp[tC]
theorem aS.abN{w:aS}{i:Nat}(hi:i<w.aF.length)(h:w.sz<=4194304):w.aF[i].sz<=4194304:=by
 have hx:w.aF[i].sz<=aH (w.aF.map aA.enc):=dK (bd (ac hi));simp only[aS.sz,aS.aB,aY,bG,D.sz,al] at h;omega
theorem Gf(p:aA)(hsz:p.sz<=4194304):aT prog 22 [p.v] (.c (.d (.b (validPkg p)))):=fun S=>by
 have hs:=aA.sum p;have hb:=aA.bounds hsz
 have hV:∀s∈p.bX,s.length<=4194304:=fun s h=>by have:=mG h;omega
 have l1:(eu p).length<=1073741824:=by simp[eu];omega
 have l2:(fZ p).length<=1073741824:=by simp[fZ];omega
 have l3:(fq p.aG).length<=1073741824:=by omega
 have l4:(fnNames p).length<=1073741824:=by simp[fnNames];omega
 refine zcx [.tmp 2] func22 ntmps22 ?_;simp -implicitDefEqProofs (disch:=omega) only[go_sem];refine au (NI p hsz) ?_;simp -implicitDefEqProofs (disch:=omega) only[go_sem]
 repeat' (first
  |with_reducible refine aj (fun hb=> ?_) (fun hb=> ?_)<;>have h:=hb<;>(try simp only[wf_preprocess] at h)<;>simp -implicitDefEqProofs (disch:=omega) only[go_sem,hb]<;>(repeat(with_reducible refine And.intro ?_ ?_;focus first|omega|rfl|assumption|exact⟨_,rfl,rfl⟩|(simp;omega)|(simp;done)))
  |((with_reducible show dQ _ _ 42 _ _ _ _);refine au (fB p.fName (by omega)) ?_;simp -implicitDefEqProofs (disch:=omega) only[go_sem])
  |((with_reducible show dQ _ _ 43 _ _ _ _);refine au (iQ p.bX 5 (by omega) hV) ?_;simp -implicitDefEqProofs (disch:=omega) only[go_sem])
  |((with_reducible show dQ _ _ 44 _ _ _ _);refine au (nO p.bX p.fName (by omega)) ?_;simp -implicitDefEqProofs (disch:=omega) only[go_sem])
  |((with_reducible show dQ _ _ 45 _ _ _ _);refine au (kI (eu p) l1) ?_;simp -implicitDefEqProofs (disch:=omega) only[go_sem])
  |((with_reducible show dQ _ _ 45 _ _ _ _);refine au (kI (fZ p) l2) ?_;simp -implicitDefEqProofs (disch:=omega) only[go_sem])
  |((with_reducible show dQ _ _ 45 _ _ _ _);refine au (kI (fq p.aG) l3) ?_;simp -implicitDefEqProofs (disch:=omega) only[go_sem])
  |((with_reducible show dQ _ _ 45 _ _ _ _);refine au (kI (fnNames p) l4) ?_;simp -implicitDefEqProofs (disch:=omega) only[go_sem])
  |((with_reducible show dQ _ _ 46 _ _ _ _);refine au (NK p hsz) ?_;simp -implicitDefEqProofs (disch:=omega) only[go_sem])
  |(refine ay ?_;unfold validPkg oK jw;rw[abI,abJ,abK,abM];grind [iD,gK,bg,aI]))
theorem Ej(w:aS)(hsz:w.sz<=4194304):aT prog 9 [w.v] (.c (.d (.b (dec (BD w))))):=fun S=>by
 have hb0:=aS.bounds hsz
 have bad:∀i,∀hi:i<w.aF.length,¬(validPkg w.aF[i]=true/\∀d∈w.aF[i].bX,d∈(gP w).take i)->V.c (.d (.b false))=V.c (.d (.b (dec (BD w)))):=fun i hi h=>
  ay (aI fun x=>h (x.1 i hi _ (ag hi))).symm
 refine zcx [.tmp 2] func9 ntmps9 ?_;simp -implicitDefEqProofs (disch:=omega) only[go_sem]
 (repeat(with_reducible refine And.intro ?_ ?_;focus first|omega|rfl|assumption|exact⟨_,rfl,rfl⟩|(simp;omega)|(simp;done)))
 refine jL 3 1 [] rfl (by simp) ?_
 refine bn (ι:=Nat×List (List UInt8)) zmx rfl [3,8,9,10] (fun y=>[.c (.bM (0,1) (y.2.map encS)),.c (.d (.sl (w.aF.map aA.enc))),.c (.d (.i .i64 w.aF.length)),.c (.d (.i .i64 y.1))]) (fun y=>[.box (w.enc.map .d),.tok 1 (y.2.map encS)]::S)
  (fun y=>y.1<=w.aF.length/\y.2=(gP w).take y.1/\∀j,j<y.1->zP w j) (fun y=>w.aF.length-y.1) (0,[]) rfl ?_ ⟨ao _,rfl,fun j h=>by simp only at h;omega⟩ ?_
 ·simp -implicitDefEqProofs (disch:=omega) only[go_sem]
 rintro⟨i,names⟩ ⟨p1,p2,p3⟩;simp only at p1 p2 p3
 have pl:names.length<=w.aF.length:=by rw[p2];simp[gP];omega
 simp -implicitDefEqProofs (disch:=omega) only[go_sem]
 with_reducible refine aj (fun hb=> ?_) (fun hb=> ?_)<;>have h:=hb<;>(try simp only[wf_preprocess] at h)<;>simp -implicitDefEqProofs (disch:=omega) only[go_sem,hb]<;>(repeat(with_reducible refine And.intro ?_ ?_;focus first|omega|rfl|assumption|exact⟨_,rfl,rfl⟩|(simp;omega)|(simp;done)))
 ·have hi:i<w.aF.length:=by omega
  have hz:=aS.abN hi hsz;have hd:=(aA.bounds hz).2.1
  (repeat(with_reducible refine And.intro ?_ ?_;focus first|omega|rfl|assumption|exact⟨_,rfl,rfl⟩|(simp;omega)|(simp;done)))
  refine au (Gd w.aF[i] hz) ?_;simp -implicitDefEqProofs (disch:=omega) only[go_sem]<;>(repeat(with_reducible refine And.intro ?_ ?_;focus first|omega|rfl|assumption|exact⟨_,rfl,rfl⟩|(simp;omega)|(simp;done)))
  with_reducible refine aj (fun hb=> ?_) (fun hb=> ?_)<;>have h:=hb<;>(try simp only[wf_preprocess] at h)<;>simp -implicitDefEqProofs (disch:=omega) only[go_sem,hb]<;>(repeat(with_reducible refine And.intro ?_ ?_;focus first|omega|rfl|assumption|exact⟨_,rfl,rfl⟩|(simp;omega)|(simp;done)))
  ·exact bad i hi (fun x=>by rw[h] at x;cases x.1)
  have k1:=h
  (repeat(with_reducible refine And.intro ?_ ?_;focus first|omega|rfl|assumption|exact⟨_,rfl,rfl⟩|(simp;omega)|(simp;done)))
  refine au (qH w.aF[i].bX names (by omega) (by omega)) ?_;simp -implicitDefEqProofs (disch:=omega) only[go_sem]<;>(repeat(with_reducible refine And.intro ?_ ?_;focus first|omega|rfl|assumption|exact⟨_,rfl,rfl⟩|(simp;omega)|(simp;done)))
  with_reducible refine aj (fun hb=> ?_) (fun hb=> ?_)<;>have h:=hb<;>(try simp only[wf_preprocess] at h)<;>simp -implicitDefEqProofs (disch:=omega) only[go_sem,hb]<;>(repeat(with_reducible refine And.intro ?_ ?_;focus first|omega|rfl|assumption|exact⟨_,rfl,rfl⟩|(simp;omega)|(simp;done)))
  ·refine bad i hi (fun x=> ?_);have:among w.aF[i].bX names=true:=ax.2 fun d hd=>bg (by rw[p2];exact x.2 d hd);rw[h] at this;cases this
  have k2:=h
  (repeat(with_reducible refine And.intro ?_ ?_;focus first|omega|rfl|assumption|exact⟨_,rfl,rfl⟩|(simp;omega)|(simp;done)))
  rw[show List.map encS names++[[D.s w.aF[i].fName]]=List.map encS (names++[w.aF[i].fName]) by simp[encS]]
  exact dL 2 (by decide) (i+1,names++[w.aF[i].fName]) (by simp only;omega) rfl rfl rfl rfl ⟨by simp only;omega,by simp only;rw[p2,fC (by simpa [gP] using hi)];simp[gP],fun j hji=>by
   simp only at hji;by_cases e:j=i
   ·subst e;intro p hp;rw[ag hi] at hp;cases hp;exact⟨k1,fun d hd=>by rw[<-p2];exact iD (ax.1 k2 d hd)⟩
   ·exact p3 j (by omega)⟩
 have hi:i=w.aF.length:=by omega
 have hn:names=gP w:=by rw[p2,bi (by simp[gP];omega)]
 have hlen:names.length=w.aF.length:=by rw[hn];simp[gP]
 have hall:∀i,i<w.aF.length->zP w i:=fun j hj=>p3 j (by omega)
 with_reducible refine aj (fun hb=> ?_) (fun hb=> ?_)<;>have h:=hb<;>(try simp only[wf_preprocess] at h)<;>simp -implicitDefEqProofs (disch:=omega) only[go_sem,hb]<;>(repeat(with_reducible refine And.intro ?_ ?_;focus first|omega|rfl|assumption|exact⟨_,rfl,rfl⟩|(simp;omega)|(simp;done)))
 ·have k1:=h;refine au (jD names (by omega)) ?_;simp -implicitDefEqProofs (disch:=omega) only[go_sem]<;>(repeat(with_reducible refine And.intro ?_ ?_;focus first|omega|rfl|assumption|exact⟨_,rfl,rfl⟩|(simp;omega)|(simp;done)));refine ay (dY ?_);rw[hn];exact⟨fun x=>⟨hall,x,by omega⟩,fun x=>x.2.1⟩
 ·exact ay (aI fun x=>by have:=x.2.2;omega).symm
theorem El(w:aS)(hsz:w.sz<=4194304):aT prog 10 [w.v] (.c (.d (.b (dec (BD w))))):=fun S=>by
 have hb0:=aS.bounds hsz
 have bad:∀i,∀hi:i<w.aF.length,¬(validPkg w.aF[i]=true/\∀d∈w.aF[i].bX,d∈(gP w).take i)->V.c (.d (.b false))=V.c (.d (.b (dec (BD w)))):=fun i hi h=>
  ay (aI fun x=>h (x.1 i hi _ (ag hi))).symm
 refine zcx [.tmp 2] func10 ntmps10 ?_;simp -implicitDefEqProofs (disch:=omega) only[go_sem]
 refine bn (ι:=Nat) zmx rfl [1,3] (fun i=>[.c (.ptr (0,0) 0),.c (.d (.i .i64 i))]) (fun _=>[.box (w.enc.map .d)]::S)
  (fun i=>i<=w.aF.length/\∀j,∀hj:j<w.aF.length,j<i->zP w j/\eO w w.aF[j].fName=j) (fun i=>w.aF.length-i) 0 rfl ?_ ⟨ao _,fun j _ h=>by omega⟩ ?_
 ·simp -implicitDefEqProofs (disch:=omega) only[go_sem]
 rintro i ⟨p1,p3⟩;simp -implicitDefEqProofs (disch:=omega) only[go_sem]
 with_reducible refine aj (fun hb=> ?_) (fun hb=> ?_)<;>have h:=hb<;>(try simp only[wf_preprocess] at h)<;>simp -implicitDefEqProofs (disch:=omega) only[go_sem,hb]<;>(repeat(with_reducible refine And.intro ?_ ?_;focus first|omega|rfl|assumption|exact⟨_,rfl,rfl⟩|(simp;omega)|(simp;done)))
 ·have hi:i<w.aF.length:=by omega
  have hz:=aS.abN hi hsz;have hd:=(aA.bounds hz).2.1
  (repeat(with_reducible refine And.intro ?_ ?_;focus first|omega|rfl|assumption|exact⟨_,rfl,rfl⟩|(simp;omega)|(simp;done)))
  refine au (Gf w.aF[i] hz) ?_;simp -implicitDefEqProofs (disch:=omega) only[go_sem]<;>(repeat(with_reducible refine And.intro ?_ ?_;focus first|omega|rfl|assumption|exact⟨_,rfl,rfl⟩|(simp;omega)|(simp;done)))
  with_reducible refine aj (fun hb=> ?_) (fun hb=> ?_)<;>have h:=hb<;>(try simp only[wf_preprocess] at h)<;>simp -implicitDefEqProofs (disch:=omega) only[go_sem,hb]<;>(repeat(with_reducible refine And.intro ?_ ?_;focus first|omega|rfl|assumption|exact⟨_,rfl,rfl⟩|(simp;omega)|(simp;done)))
  ·exact bad i hi (fun x=>by rw[h] at x;cases x.1)
  have k1:=h
  (repeat(with_reducible refine And.intro ?_ ?_;focus first|omega|rfl|assumption|exact⟨_,rfl,rfl⟩|(simp;omega)|(simp;done)))
  refine au (sW w w.aF[i].fName hsz) ?_;simp -implicitDefEqProofs (disch:=omega) only[go_sem]<;>(repeat(with_reducible refine And.intro ?_ ?_;focus first|omega|rfl|assumption|exact⟨_,rfl,rfl⟩|(simp;omega)|(simp;done)))
  with_reducible refine aj (fun hb=> ?_) (fun hb=> ?_)<;>have h:=hb<;>(try simp only[wf_preprocess] at h)<;>simp -implicitDefEqProofs (disch:=omega) only[go_sem,hb]<;>(repeat(with_reducible refine And.intro ?_ ?_;focus first|omega|rfl|assumption|exact⟨_,rfl,rfl⟩|(simp;omega)|(simp;done)))
  ·exact ay (aI fun x=>h (Js hi x.2.1)).symm
  have k2:=h
  (repeat(with_reducible refine And.intro ?_ ?_;focus first|omega|rfl|assumption|exact⟨_,rfl,rfl⟩|(simp;omega)|(simp;done)))
  refine bn (ι:=Nat) zmx rfl [1,3,4,5] (fun k=>[.c (.ptr (0,0) 0),.c (.d (.i .i64 i)),.c (.ptr (0,1) 0),.c (.d (.i .i64 k))]) (fun _=>[.box (w.enc.map .d),.box (w.aF[i].enc.map .d)]::S)
   (fun k=>k<=w.aF[i].bX.length/\∀j,∀hj:j<w.aF[i].bX.length,j<k->w.aF[i].bX[j]∈(gP w).take i) (fun k=>w.aF[i].bX.length-k) 0 rfl ?_ ⟨ao _,fun j _ h=>by omega⟩ ?_
  ·simp -implicitDefEqProofs (disch:=omega) only[go_sem]
  rintro k ⟨q1,q2⟩;simp -implicitDefEqProofs (disch:=omega) only[go_sem]
  with_reducible refine aj (fun hb=> ?_) (fun hb=> ?_)<;>have h:=hb<;>(try simp only[wf_preprocess] at h)<;>simp -implicitDefEqProofs (disch:=omega) only[go_sem,hb]<;>(repeat(with_reducible refine And.intro ?_ ?_;focus first|omega|rfl|assumption|exact⟨_,rfl,rfl⟩|(simp;omega)|(simp;done)))
  ·have hk:k<w.aF[i].bX.length:=by omega
   (repeat(with_reducible refine And.intro ?_ ?_;focus first|omega|rfl|assumption|exact⟨_,rfl,rfl⟩|(simp;omega)|(simp;done)))
   refine au (sW w w.aF[i].bX[k] hsz) ?_;simp -implicitDefEqProofs (disch:=omega) only[go_sem]<;>(repeat(with_reducible refine And.intro ?_ ?_;focus first|omega|rfl|assumption|exact⟨_,rfl,rfl⟩|(simp;omega)|(simp;done)));refine au (ug (eO w w.aF[i].bX[k]) 0 (i-1)) ?_;simp -implicitDefEqProofs (disch:=omega) only[go_sem]<;>(repeat(with_reducible refine And.intro ?_ ?_;focus first|omega|rfl|assumption|exact⟨_,rfl,rfl⟩|(simp;omega)|(simp;done)));rw[dY (aai (w:=w) (i:=i) (by omega) w.aF[i].bX[k])]
   with_reducible refine aj (fun hb=> ?_) (fun hb=> ?_)<;>have h:=hb<;>(try simp only[wf_preprocess] at h)<;>simp -implicitDefEqProofs (disch:=omega) only[go_sem,hb]<;>(repeat(with_reducible refine And.intro ?_ ?_;focus first|omega|rfl|assumption|exact⟨_,rfl,rfl⟩|(simp;omega)|(simp;done)))
   ·exact bad i hi (fun x=>h (x.2 _ (ac hk)))
   ·have k3:=h
    exact bU (k+1) (by omega) rfl rfl ⟨by omega,fun j hj hji=>by
     by_cases e:j=k
     ·subst e;exact k3
     ·exact q2 j hj (by omega)⟩
  ·refine dL 1 (by decide) (i+1) (by omega) rfl rfl rfl rfl ⟨by omega,fun j hj hji=> ?_⟩;by_cases e:j=i
   ·subst e;refine⟨fun p hp=> ?_,k2⟩;rw[ag hi] at hp;cases hp
    exact⟨k1,fun d hd=>by
     obtain⟨m,hm,em⟩:=bm hd
     rw[<-em];exact q2 m hm (by omega)⟩
   ·exact p3 j hj (by omega)
 ·have hn:(gP w).Nodup:=Ht fun j hj=>(p3 j hj (by omega)).2;refine ay ?_;rw[j3];exact dY ⟨fun x=>⟨fun j hj=>(p3 j hj (by omega)).1,hn,by omega⟩,fun x=>by have:=x.2.2;omega⟩
end Go.Ab