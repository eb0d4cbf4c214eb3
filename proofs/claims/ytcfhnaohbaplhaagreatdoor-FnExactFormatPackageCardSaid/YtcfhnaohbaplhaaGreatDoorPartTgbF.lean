/-
  SEVERAL TEXTS IN ONE (merged by program): contracts and models, each with its own heading.
-/
import Derived.Test.YtcfhnaohbaplhaaGreatDoorPartTgbE
import Derived.Test.YtcfhnaohbaplhaaGreatDoorRows
import Derived.OpenShut
import Derived.LaidMore
set_option linter.unusedSimpArgs false
set_option linter.unusedVariables false
set_option maxRecDepth 4000
set_option maxRecDepth 8000
namespace Go.Proofs.YtcfhnaohbaplhaaGreatDoor
open Go Go.Ab
theorem yU(xs:List (List UInt8))(x:List UInt8):xs.map encS++[[D.s x]]=(xs++[x]).map encS:=by simp[encS]
theorem Pk(p:aV)(hsz:p.sz≤4194304):aD Tryz.prog 158 [p.v] (.iB [(false,[.d (.sl ((eZ p).map encS))]),(false,[.d (.sl ((gT p).map encS))]),(false,[.d (.sl ((fO p.ak).map encS))]),(false,[.d (.sl ((fnNames p).map encS))])]):=fun S=>by
 have hb0:=aV.bounds hsz
 refine aB (rs:=[.tmp 2,.tmp 3,.tmp 4,.tmp 5]) Tryz.checked.mixed Tryz.func158 Tryz.ntmps158 rfl rfl rfl rfl rfl ?_
 refine W1 ?_
 refine W3 ?_
 refine nD 6 1 [] rfl (by simp) ?_
 refine nD 7 1 [] rfl (by simp) ?_
 refine nD 8 1 [] rfl (by simp) ?_
 refine nD 9 1 [] rfl (by simp) ?_
 refine aQ (ι:=Nat×List (List UInt8)) Tryz.checked.mixed rfl [1,6,7,8,9,10] (fun y=>[.c (.ptr (0,0) 0),.c (.bH (0,1) (y.2.map encS)),.c (.bH (0,2) []),.c (.bH (0,3) []),.c (.bH (0,4) []),.c (.d (.i .i64 y.1))]) (fun y=>[.box (p.enc.map .d),.tok 1 (y.2.map encS),.tok 1 [],.tok 1 [],.tok 1 []]::S)
  (fun y=>y.1≤p.aK.length∧y.2=(eZ p).take y.1) (fun y=>p.aK.length-y.1) (0,[]) rfl ?_ ⟨Nat.zero_le _,rfl⟩ ?_
 ·exact Z1
 rintro⟨i,a⟩ ⟨p1,p2⟩
 simp only at p1 p2
 have pl:a.length≤p.aK.length:=by rw[p2];simp[eZ];omega
 refine W1 ?_
 refine S0 (fun hb h=>?_) fun hb h=>?_
 ·have hi:i<p.aK.length:=by omega
  refine W3 ?_
  rw[yU]
  exact bF (i+1,a++[p.aK[i].fName]) (by simp only;omega) rfl rfl ⟨by simp only;omega,by simp only;rw[p2,gG (by simpa [eZ] using hi)];simp[eZ]⟩
 have ha:a=eZ p:=by rw[p2,List.take_of_length_le (by simp[eZ];omega)]
 clear p1 p2 pl hb h
 subst ha
 refine aQ (ι:=Nat×List (List UInt8)×List (List UInt8)) Tryz.checked.mixed rfl [1,6,7,8,9,11] (fun y=>[.c (.ptr (0,0) 0),.c (.bH (0,1) ((eZ p).map encS)),.c (.bH (0,2) (y.2.1.map encS)),.c (.bH (0,3) (y.2.2.map encS)),.c (.bH (0,4) []),.c (.d (.i .i64 y.1))]) (fun y=>[.box (p.enc.map .d),.tok 1 ((eZ p).map encS),.tok 1 (y.2.1.map encS),.tok 1 (y.2.2.map encS),.tok 1 []]::S)
  (fun y=>y.1≤p.ak.length∧y.2.1=(gT p).take y.1∧y.2.2=fO (p.ak.take y.1)) (fun y=>p.ak.length-y.1) (0,[],[]) rfl ?_ ⟨Nat.zero_le _,rfl,rfl⟩ ?_
 ·exact Z1
 rintro⟨i,b,c⟩ ⟨p1,p2,p3⟩
 simp only at p1 p2 p3
 have pl:b.length≤p.ak.length:=by rw[p2];simp[gT];omega
 refine W1 ?_
 refine S0 (fun hb h=>?_) fun hb h=>?_
 ·have hi:i<p.ak.length:=by omega
  have e3:fO (p.ak.take (i+1))=c++p.ak[i].aG.map aO.fName:=by rw[p3];exact tF _ hi
  have hcl:(fO (p.ak.take (i+1))).length≤4194304:=by
   have h1:(fO (p.ak.take (i+1))).length≤(fO p.ak).length:=by
    conv=>rhs;rw[←List.take_append_drop (i+1) p.ak]
    unfold fO
    rw[List.flatMap_append,List.length_append]
    omega
   omega
  rw[e3,List.length_append,List.length_map] at hcl
  refine W3 ?_
  rw[yU]
  refine aQ (ι:=Nat×List (List UInt8)) Tryz.checked.mixed rfl [1,6,7,8,9,11,12] (fun y=>[.c (.ptr (0,0) 0),.c (.bH (0,1) ((eZ p).map encS)),.c (.bH (0,2) ((b++[p.ak[i].fName]).map encS)),.c (.bH (0,3) (y.2.map encS)),.c (.bH (0,4) []),.c (.d (.i .i64 i)),.c (.d (.i .i64 y.1))]) (fun y=>[.box (p.enc.map .d),.tok 1 ((eZ p).map encS),.tok 1 ((b++[p.ak[i].fName]).map encS),.tok 1 (y.2.map encS),.tok 1 []]::S)
   (fun y=>y.1≤p.ak[i].aG.length∧y.2=c++(p.ak[i].aG.map aO.fName).take y.1) (fun y=>p.ak[i].aG.length-y.1) (0,c) rfl ?_ ⟨Nat.zero_le _,by simp⟩ ?_
  ·exact Z1
  rintro⟨k,e⟩ ⟨q1,q2⟩
  simp only at q1 q2
  have pl2:e.length≤4194304:=by rw[q2];simp;omega
  refine W1 ?_
  refine W3 ?_
  refine S0 (fun hb h=>?_) fun hb h=>?_
  ·have hk:k<p.ak[i].aG.length:=by omega
   refine W3 ?_
   rw[yU]
   exact bF (k+1,e++[p.ak[i].aG[k].fName]) (by simp only;omega) rfl rfl ⟨by simp only;omega,by simp only;rw[q2,gG (by simpa using hk)];simp⟩
  ·have hk:k=p.ak[i].aG.length:=by omega
   have he:e=c++p.ak[i].aG.map aO.fName:=by rw[q2,List.take_of_length_le (by simp;omega)]
   exact bF (i+1,b++[p.ak[i].fName],e) (by simp only;omega) rfl rfl ⟨by simp only;omega,by simp only;rw[p2,gG (by simpa [gT] using hi)];simp[gT],by simp only;rw[e3,he]⟩
 have hb1:b=gT p:=by rw[p2,List.take_of_length_le (by simp[gT];omega)]
 have hc1:c=fO p.ak:=by rw[p3,List.take_of_length_le (by omega)]
 clear p1 p2 p3 pl hb h
 subst hb1
 subst hc1
 refine aQ (ι:=Nat×List (List UInt8)) Tryz.checked.mixed rfl [1,6,7,8,9,13] (fun y=>[.c (.ptr (0,0) 0),.c (.bH (0,1) ((eZ p).map encS)),.c (.bH (0,2) ((gT p).map encS)),.c (.bH (0,3) ((fO p.ak).map encS)),.c (.bH (0,4) (y.2.map encS)),.c (.d (.i .i64 y.1))]) (fun y=>[.box (p.enc.map .d),.tok 1 ((eZ p).map encS),.tok 1 ((gT p).map encS),.tok 1 ((fO p.ak).map encS),.tok 1 (y.2.map encS)]::S)
  (fun y=>y.1≤p.aM.length∧y.2=(fnNames p).take y.1) (fun y=>p.aM.length-y.1) (0,[]) rfl ?_ ⟨Nat.zero_le _,rfl⟩ ?_
 ·exact Z1
 rintro⟨i,a⟩ ⟨p1,p2⟩
 simp only at p1 p2
 have pl:a.length≤p.aM.length:=by rw[p2];simp[fnNames];omega
 refine W1 ?_
 refine S0 (fun hb h=>?_) fun hb h=>?_
 ·have hi:i<p.aM.length:=by omega
  refine W3 ?_
  rw[yU]
  exact bF (i+1,a++[p.aM[i].fName]) (by simp only;omega) rfl rfl ⟨by simp only;omega,by simp only;rw[p2,gG (by simpa [fnNames] using hi)];simp[fnNames]⟩
 ·have ha:a=fnNames p:=by rw[p2,List.take_of_length_le (by simp[fnNames];omega)]
  rw[ha]
end Go.Proofs.YtcfhnaohbaplhaaGreatDoor
namespace Go.Proofs.YtcfhnaohbaplhaaGreatDoor
open Go Go.Ab
def wF(a b c d:List (List UInt8))(rest:List Ab.Obj)(S:Store):Store:=
 (.box [.bC [],.bC [],.bC [],.bC []]:: .box [.bH (0,2) (a.map encS),.bH (0,3) (b.map encS),.bH (0,4) (c.map encS),.bH (0,5) (d.map encS)]:: .tok 1 (a.map encS):: .tok 1 (b.map encS):: .tok 1 (c.map encS):: .tok 1 (d.map encS)::rest)::S
theorem Pm(ps:List aV)(hl:ps.length≤4194304)(hz:aI (ps.map aV.enc)≤4194304):aD Tryz.prog 258 [.c (.d (.sl (ps.map aV.enc)))] (.agg [.d (.sl ((uD ps).map encS)),.d (.sl ((uE ps).map encS)),.d (.sl ((uF ps).map encS)),.d (.sl ((uG ps).map encS))]):=fun S=>by
 have hn:=NI ps
 refine aB (rs:=[.cell 2 288]) Tryz.checked.mixed Tryz.func258 Tryz.ntmps258 rfl rfl rfl rfl rfl ?_
 refine W1 ?_
 refine W3 ?_
 refine nV 1 0 1 [] [.bC [],.bC [],.bC [],.bC []] rfl rfl (by simp) ?_
 refine nV 1 1 1 [] [.bH (0,2) [],.bC [],.bC [],.bC []] rfl rfl (by simp) ?_
 refine nV 1 2 1 [] [.bH (0,2) [],.bH (0,3) [],.bC [],.bC []] rfl rfl (by simp) ?_
 refine nV 1 3 1 [] [.bH (0,2) [],.bH (0,3) [],.bH (0,4) [],.bC []] rfl rfl (by simp) ?_
 refine aQ (ι:=Nat×List (List UInt8)×List (List UInt8)×List (List UInt8)×List (List UInt8)) Tryz.checked.mixed rfl [2,3,15,16,17] (fun y=>[.c (.ptr (0,0) 0),.c (.ptr (0,1) 0),.c (.d (.sl (ps.map aV.enc))),.c (.d (.i .i64 ps.length)),.c (.d (.i .i64 y.1))])
  (fun y=>[.box [.bC [],.bC [],.bC [],.bC []],.box [.bH (0,2) (y.2.1.map encS),.bH (0,3) (y.2.2.1.map encS),.bH (0,4) (y.2.2.2.1.map encS),.bH (0,5) (y.2.2.2.2.map encS)],.tok 1 (y.2.1.map encS),.tok 1 (y.2.2.1.map encS),.tok 1 (y.2.2.2.1.map encS),.tok 1 (y.2.2.2.2.map encS)]::S)
  (fun y=>y.1≤ps.length∧y.2.1=uD (ps.take y.1)∧y.2.2.1=uE (ps.take y.1)∧y.2.2.2.1=uF (ps.take y.1)∧y.2.2.2.2=uG (ps.take y.1)) (fun y=>ps.length-y.1) (0,[],[],[],[]) rfl rfl ⟨Nat.zero_le _,rfl,rfl,rfl,rfl⟩ ?_
 rintro⟨i,a,b,c,d⟩ ⟨p1,p2,p3,p4,p5⟩
 simp only at p1 p2 p3 p4 p5
 refine W1 ?_
 refine S0 (fun hb h=>?_) fun hb h=>?_
 ·have hi:i<ps.length:=by omega
  have hp:ps[i].sz≤4194304:=by
   have hx:ps[i].sz≤aI (ps.map aV.enc):=bD (List.mem_map_of_mem (List.getElem_mem hi))
   omega
  refine W3 ?_
  have sub:∀(f:aV→List (List UInt8)),((ps.take (i+1)).flatMap f).length≤(ps.flatMap f).length:=fun f=>by
   conv=>rhs;rw[←List.take_append_drop (i+1) ps]
   rw[List.flatMap_append,List.length_append]
   omega
  have e2:uD (ps.take (i+1))=a++eZ ps[i]:=by rw[p2];exact tF _ hi
  have e3:uE (ps.take (i+1))=b++gT ps[i]:=by rw[p3];exact tF _ hi
  have e4:uF (ps.take (i+1))=c++fO ps[i].ak:=by rw[p4];exact tF _ hi
  have e5:uG (ps.take (i+1))=d++fnNames ps[i]:=by rw[p5];exact tF _ hi
  have l2:(a++eZ ps[i]).length≤4194304:=by rw[←e2];have:=sub eZ;unfold uD at *;omega
  have l3:(b++gT ps[i]).length≤4194304:=by rw[←e3];have:=sub gT;unfold uE at *;omega
  have l4:(c++fO ps[i].ak).length≤4194304:=by rw[←e4];have:=sub (fun p=>fO p.ak);unfold uF at *;omega
  have l5:(d++fnNames ps[i]).length≤4194304:=by rw[←e5];have:=sub fnNames;unfold uG at *;omega
  have hbp:=aV.bounds hp
  rw[List.length_append] at l2 l3 l4 l5
  refine aQ (ι:=Nat×List (List UInt8)) Tryz.checked.mixed rfl [2,3,5,15,16,17,22,23,24] (fun y=>[.c (.ptr (0,0) 0),.c (.ptr (0,1) 0),.c (.ptr (0,6) 0),.c (.d (.sl (ps.map aV.enc))),.c (.d (.i .i64 ps.length)),.c (.d (.i .i64 i)),.c (.d (.sl (ps[i].aK.map bg.enc))),.c (.d (.i .i64 ps[i].aK.length)),.c (.d (.i .i64 y.1))]) (fun y=>wF y.2 b c d [.box (ps[i].enc.map .d)] S)
   (fun y=>y.1≤ps[i].aK.length∧y.2=a++(eZ ps[i]).take y.1) (fun y=>ps[i].aK.length-y.1) (0,a) rfl ?_ ⟨Nat.zero_le _,by simp⟩ ?_
  ·unfold wF
   exact Z1
  rintro⟨k,a'⟩ ⟨q1,q2⟩
  simp only at q1 q2
  have ql:a'.length≤4194304:=by rw[q2];simp[eZ] at *;omega
  unfold wF
  refine W1 ?_
  refine S0 (fun hb h=>?_) fun hb h=>?_
  ·have hk:k<ps[i].aK.length:=by omega
   have ql':a'.length+1≤4194304:=by rw[q2];simp[eZ] at *;omega
   refine W3 ?_
   rw[yU]
   exact cu 7 (by decide) (k+1,a'++[ps[i].aK[k].fName]) (by simp only;omega) rfl rfl rfl rfl ⟨by simp only;omega,by simp only;rw[q2,gG (by simpa [eZ] using hk)];simp[eZ]⟩
  have ha:a'=a++eZ ps[i]:=by rw[q2,List.take_of_length_le (by simp[eZ];omega)]
  clear q1 q2 ql hb h
  subst ha
  refine aQ (ι:=Nat×List (List UInt8)×List (List UInt8)) Tryz.checked.mixed rfl [2,3,5,15,16,17,37,38,39] (fun y=>[.c (.ptr (0,0) 0),.c (.ptr (0,1) 0),.c (.ptr (0,6) 0),.c (.d (.sl (ps.map aV.enc))),.c (.d (.i .i64 ps.length)),.c (.d (.i .i64 i)),.c (.d (.sl (ps[i].ak.map aN.enc))),.c (.d (.i .i64 ps[i].ak.length)),.c (.d (.i .i64 y.1))]) (fun y=>wF (a++eZ ps[i]) y.2.1 y.2.2 d [.box (ps[i].enc.map .d)] S)
   (fun y=>y.1≤ps[i].ak.length∧y.2.1=b++(gT ps[i]).take y.1∧y.2.2=c++fO (ps[i].ak.take y.1)) (fun y=>ps[i].ak.length-y.1) (0,b,c) rfl ?_ ⟨Nat.zero_le _,by simp,by simp[fO]⟩ ?_
  ·unfold wF
   exact Z1
  rintro⟨k',b',c'⟩ ⟨q1,q2,q3⟩
  simp only at q1 q2 q3
  unfold wF
  refine W1 ?_
  refine S0 (fun hb h=>?_) fun hb h=>?_
  ·have hk:k'<ps[i].ak.length:=by omega
   have e6:fO (ps[i].ak.take (k'+1))=fO (ps[i].ak.take k')++ps[i].ak[k'].aG.map aO.fName:=tF _ hk
   have hcl:(fO (ps[i].ak.take (k'+1))).length≤(fO ps[i].ak).length:=by
    conv=>rhs;rw[←List.take_append_drop (k'+1) ps[i].ak]
    unfold fO
    rw[List.flatMap_append,List.length_append]
    omega
   have ql':b'.length+1≤4194304:=by rw[q2];simp[gT] at *;omega
   have qc:c'.length+ps[i].ak[k'].aG.length≤4194304:=by
    rw[e6,List.length_append,List.length_map] at hcl
    rw[q3,List.length_append]
    omega
   refine W3 ?_
   rw[yU]
   refine aQ (ι:=Nat×List (List UInt8)) Tryz.checked.mixed rfl [2,3,5,15,16,17,37,38,39,51,52,53] (fun y=>[.c (.ptr (0,0) 0),.c (.ptr (0,1) 0),.c (.ptr (0,6) 0),.c (.d (.sl (ps.map aV.enc))),.c (.d (.i .i64 ps.length)),.c (.d (.i .i64 i)),.c (.d (.sl (ps[i].ak.map aN.enc))),.c (.d (.i .i64 ps[i].ak.length)),.c (.d (.i .i64 k')),.c (.d (.sl (ps[i].ak[k'].aG.map aO.enc))),.c (.d (.i .i64 ps[i].ak[k'].aG.length)),.c (.d (.i .i64 y.1))]) (fun y=>wF (a++eZ ps[i]) (b'++[ps[i].ak[k'].fName]) y.2 d [.box (ps[i].enc.map .d),.box (ps[i].ak[k'].enc.map .d)] S)
    (fun y=>y.1≤ps[i].ak[k'].aG.length∧y.2=c'++(ps[i].ak[k'].aG.map aO.fName).take y.1) (fun y=>ps[i].ak[k'].aG.length-y.1) (0,c') rfl ?_ ⟨Nat.zero_le _,by simp⟩ ?_
   ·unfold wF
    exact Z1
   rintro⟨m,c''⟩ ⟨r1,r2⟩
   simp only at r1 r2
   have rl:c''.length≤4194304:=by rw[r2];simp;omega
   unfold wF
   refine W1 ?_
   refine S0 (fun hb h=>?_) fun hb h=>?_
   ·have hm:m<ps[i].ak[k'].aG.length:=by omega
    have rl':c''.length+1≤4194304:=by rw[r2];simp;omega
    refine W3 ?_
    rw[yU]
    exact cu 8 (by decide) (m+1,c''++[ps[i].ak[k'].aG[m].fName]) (by simp only;omega) rfl rfl rfl rfl ⟨by simp only;omega,by simp only;rw[r2,gG (by simpa using hm)];simp⟩
   ·have hm:m=ps[i].ak[k'].aG.length:=by omega
    have hc:c''=c'++ps[i].ak[k'].aG.map aO.fName:=by rw[r2,List.take_of_length_le (by simp;omega)]
    exact cu 7 (by decide) (k'+1,b'++[ps[i].ak[k'].fName],c'') (by simp only;omega) rfl rfl rfl rfl ⟨by simp only;omega,by simp only;rw[q2,gG (by simpa [gT] using hk)];simp[gT],by simp only;rw[hc,e6,q3,List.append_assoc]⟩
  have hb':b'=b++gT ps[i]:=by rw[q2,List.take_of_length_le (by simp[gT];omega)]
  have hc':c'=c++fO ps[i].ak:=by rw[q3,List.take_of_length_le (by omega)]
  clear q1 q2 q3 hb h
  subst hb'
  subst hc'
  refine aQ (ι:=Nat×List (List UInt8)) Tryz.checked.mixed rfl [2,3,5,15,16,17,67,68,69] (fun y=>[.c (.ptr (0,0) 0),.c (.ptr (0,1) 0),.c (.ptr (0,6) 0),.c (.d (.sl (ps.map aV.enc))),.c (.d (.i .i64 ps.length)),.c (.d (.i .i64 i)),.c (.d (.sl (ps[i].aM.map aR.enc))),.c (.d (.i .i64 ps[i].aM.length)),.c (.d (.i .i64 y.1))]) (fun y=>wF (a++eZ ps[i]) (b++gT ps[i]) (c++fO ps[i].ak) y.2 [.box (ps[i].enc.map .d)] S)
   (fun y=>y.1≤ps[i].aM.length∧y.2=d++(fnNames ps[i]).take y.1) (fun y=>ps[i].aM.length-y.1) (0,d) rfl ?_ ⟨Nat.zero_le _,by simp⟩ ?_
  ·unfold wF
   exact Z1
  rintro⟨k4,d'⟩ ⟨q1,q2⟩
  simp only at q1 q2
  have ql:d'.length≤4194304:=by rw[q2];simp[fnNames] at *;omega
  unfold wF
  refine W1 ?_
  refine S0 (fun hb h=>?_) fun hb h=>?_
  ·have hk:k4<ps[i].aM.length:=by omega
   have ql':d'.length+1≤4194304:=by rw[q2];simp[fnNames] at *;omega
   refine W3 ?_
   rw[yU]
   exact cu 7 (by decide) (k4+1,d'++[ps[i].aM[k4].fName]) (by simp only;omega) rfl rfl rfl rfl ⟨by simp only;omega,by simp only;rw[q2,gG (by simpa [fnNames] using hk)];simp[fnNames]⟩
  ·have hd:d'=d++fnNames ps[i]:=by rw[q2,List.take_of_length_le (by simp[fnNames];omega)]
   exact cu 6 (by decide) (i+1,a++eZ ps[i],b++gT ps[i],c++fO ps[i].ak,d') (by simp only;omega) rfl rfl rfl rfl ⟨by simp only;omega,e2.symm,e3.symm,e4.symm,by simp only;rw[hd,e5]⟩
 ·have hi:i=ps.length:=by omega
  rw[List.take_of_length_le (by omega)] at p2 p3 p4 p5
  rw[p2,p3,p4,p5]
theorem NM(ps:List aV)(hl:ps.length≤4194304)(hz:aI (ps.map aV.enc)≤4194304):aD Tryz.prog 171 [.c (.d (.sl (ps.map aV.enc)))] (.c (.d (.b (kK ps)))):=fun S=>by
 have hn:=NI ps
 refine aB (rs:=[.tmp 2]) Tryz.checked.mixed Tryz.func171 Tryz.ntmps171 rfl rfl rfl rfl rfl ?_
 refine W1 ?_
 refine C2 (Pm ps hl hz) ?_
 refine aQ (ι:=Int) Tryz.checked.mixed rfl [6,7] (fun i=>[.agg [.d (.sl ((uD ps).map encS)),.d (.sl ((uE ps).map encS)),.d (.sl ((uF ps).map encS)),.d (.sl ((uG ps).map encS))],.c (.d (.i .i64 i))]) (fun _=>[]::S)
  (fun i=>(0≤i∧i≤4)∧(1≤i→(uD ps).Nodup)∧(2≤i→(uE ps).Nodup)∧(3≤i→(uF ps).Nodup)∧(4≤i→(uG ps).Nodup)) (fun i=>(4-i).toNat) 0 rfl rfl ⟨⟨by omega,by omega⟩,by omega,by omega,by omega,by omega⟩ ?_
 rintro i ⟨p0,p1,p2,p3,p4⟩
 have hi:i=0∨i=1∨i=2∨i=3∨i=4:=by omega
 rcases hi with rfl|rfl|rfl|rfl|rfl
 ·refine W1 ?_
  refine W3 ?_
  refine C2 (mH (uD ps) (by omega)) ?_
  refine S0 (fun hb h=>?_) fun hb h=>?_
  ·exact ay (by unfold kK;rw[aC h];rfl)
  ·exact bF 1 (by decide) rfl rfl ⟨⟨by omega,by omega⟩,fun _=>h,by omega,by omega,by omega⟩
 ·refine W1 ?_
  refine W3 ?_
  refine C2 (mH (uE ps) (by omega)) ?_
  refine S0 (fun hb h=>?_) fun hb h=>?_
  ·exact ay (by unfold kK;rw[aC h];simp)
  ·exact bF 2 (by decide) rfl rfl ⟨⟨by omega,by omega⟩,fun _=>p1 (by omega),fun _=>h,by omega,by omega⟩
 ·refine W1 ?_
  refine W3 ?_
  refine C2 (mH (uF ps) (by omega)) ?_
  refine S0 (fun hb h=>?_) fun hb h=>?_
  ·exact ay (by unfold kK;rw[aC h];simp)
  ·exact bF 3 (by decide) rfl rfl ⟨⟨by omega,by omega⟩,fun _=>p1 (by omega),fun _=>p2 (by omega),fun _=>h,by omega⟩
 ·refine W1 ?_
  refine W3 ?_
  refine C2 (mH (uG ps) (by omega)) ?_
  refine S0 (fun hb h=>?_) fun hb h=>?_
  ·exact ay (by unfold kK;rw[aC h];simp)
  ·exact bF 4 (by decide) rfl rfl ⟨⟨by omega,by omega⟩,fun _=>p1 (by omega),fun _=>p2 (by omega),fun _=>p3 (by omega),fun _=>h⟩
 ·refine W1 ?_
  exact ay (by unfold kK;rw[bq (p1 (by omega)),bq (p2 (by omega)),bq (p3 (by omega)),bq (p4 (by omega))];rfl)
end Go.Proofs.YtcfhnaohbaplhaaGreatDoor
namespace Go.Ab
noncomputable def pW(p:aV):Bool:=p.aK.all dH&&(p.ak.all eF&&(p.aJ.all eu&&p.aM.all jD))
noncomputable def oV(p:aV):Bool:=validName p.fName&&(dec (p.dY.length≤5)&&(gP p.dY&&(!dec (p.fName∈p.dY)&&dec (p.aK.length+p.ak.length+p.aJ.length+p.aM.length≤24))))
noncomputable def validPkg(p:aV):Bool:=oV p&&(kK [p]&&pW p)
theorem aV.sum(x:aV):x.fName.length+(x.dY.length+aI (x.dY.map encS))+(x.aK.length+aI (x.aK.map bg.enc))+(x.ak.length+aI (x.ak.map aN.enc))+(x.aJ.length+aI (x.aJ.map aP.enc))+(x.aM.length+aI (x.aM.map aR.enc))≤x.sz:=by
 simp only[aV.sz,aV.aH,bL,bf,D.sz,List.length_map]
 omega
theorem rC{α:Type}{f:α→Bool}{xs:List α}{i:Nat}(hi:i<xs.length):(xs.drop i).all f=(f xs[i]&&(xs.drop (i+1)).all f):=by
 rw[List.drop_eq_getElem_cons hi,List.all_cons]
end Go.Ab
namespace Go.Proofs.YtcfhnaohbaplhaaGreatDoor
open Go Go.Ab
theorem I4(xs:List (List UInt8))(s:List UInt8)(hl:xs.length≤1073741824):aD Tryz.prog 170 [.c (.d (.sl (xs.map encS))),.c (.d (.s s))] (.c (.d (.i .i64 (rV xs s)))):=fun S=>by
 refine aB (rs:=[.tmp 4]) Tryz.checked.mixed Tryz.func170 Tryz.ntmps170 rfl rfl rfl rfl rfl ?_
 refine W1 ?_
 exact C4 (Jz xs s hl)
set_option maxHeartbeats 4000000 in
theorem uH(p:aV)(hsz:p.sz≤4194304):aD Tryz.prog 84 [p.v] (.c (.d (.b (validPkg p)))):=fun S=>by
 have hs:=aV.sum p
 have hV:∀s∈p.dY,s.length≤4194304:=fun s h=>by have:=nX h;omega
 have no:oV p=false→V.c (.d (.b false))=V.c (.d (.b (validPkg p))):=fun h=>ay (by unfold validPkg;rw[h];rfl)
 have hu:=NM [p] (by simp) (by simp[aI];have:bL p.enc=p.sz:=rfl;omega)
 have hix:decide (rV p.dY p.fName≥0)=dec (p.fName∈p.dY):=FK
 refine aB (rs:=[.tmp 2]) Tryz.checked.mixed Tryz.func84 Tryz.ntmps84 rfl rfl rfl rfl rfl ?_
 refine W1 ?_
 refine C2 (fP p.fName (by omega)) ?_
 refine S0 (fun hb h=>?_) fun hb h=>?_
 ·exact no (by unfold oV;rw[h];rfl)
 have k1:=h
 refine S0 (fun hb h=>?_) fun hb h=>?_
 ·exact no (by unfold oV;rw[aC (show ¬p.dY.length≤5 by omega)];simp)
 have k2:=h
 refine W3 ?_
 refine C2 (lV p.dY (by omega) hV) ?_
 refine S0 (fun hb h=>?_) fun hb h=>?_
 ·exact no (by unfold oV;rw[h];simp)
 have k3:=h
 refine W3 ?_
 refine C1 (I4 p.dY p.fName (by omega)) ?_
 rw[show decide (0≤rV p.dY p.fName)=dec (p.fName∈p.dY) from hix]
 refine S0 (fun hb h=>?_) fun hb h=>?_
 ·exact no (by unfold oV;rw[bq h];simp)
 have k4:=h
 refine S0 (fun hb h=>?_) fun hb h=>?_
 ·exact no (by unfold oV;rw[aC (show ¬p.aK.length+p.ak.length+p.aJ.length+p.aM.length≤24 by omega)];simp)
 have hh:oV p=true:=by unfold oV;rw[k1,k3,bq (show p.dY.length≤5 by omega),aC k4,bq (by omega)];rfl
 simp only[List.map_cons,List.map_nil] at hu
 refine W3 ?_
 refine bN hu ?_
 refine W1 ?_
 clear hu hix no k1 k2 k3 k4
 have fin:validPkg p=((((kK [p]&&p.aK.all dH)&&p.ak.all eF)&&p.aJ.all eu)&&p.aM.all jD):=by unfold validPkg pW;rw[hh];simp[Bool.and_assoc]
 generalize kK [p]=b0 at fin ⊢
 refine aQ (ι:=Nat×Bool) Tryz.checked.mixed rfl [1,3,56,57,58] (fun y=>[.c (.ptr (0,0) 0),.c (.d (.b y.2)),.c (.d (.sl (p.aK.map bg.enc))),.c (.d (.i .i64 p.aK.length)),.c (.d (.i .i64 y.1))]) (fun _=>[.box (p.enc.map .d)]::S)
  (fun y=>y.1≤p.aK.length∧(y.2&&(p.aK.drop y.1).all dH)=(b0&&p.aK.all dH)) (fun y=>p.aK.length-y.1) (0,b0) rfl ?_ ⟨Nat.zero_le _,rfl⟩ ?_
 ·exact Z1
 rintro⟨i,b⟩ ⟨p1,p2⟩
 simp only at p1 p2
 refine W1 ?_
 refine S0 (fun hb h=>?_) fun hb h=>?_
 ·have hi:i<p.aK.length:=by omega
  have hx:p.aK[i].sz≤aI (p.aK.map bg.enc):=bD (List.mem_map_of_mem (List.getElem_mem hi))
  rw[rC hi] at p2
  refine W3 ?_
  refine S0 (fun hb h=>?_) fun hb h=>?_
  ·have hb1:=h
   rw[hb1,Bool.true_and] at p2
   refine C2 (Du p.aK[i] (by omega)) ?_
   exact cu 1 (by decide) (i+1,dH p.aK[i]) (by simp only;omega) rfl rfl rfl rfl ⟨by simp only;omega,p2⟩
  ·have hb1:=h
   rw[hb1,Bool.false_and] at p2
   exact cu 1 (by decide) (i+1,false) (by simp only;omega) rfl rfl rfl rfl ⟨by simp only;omega,p2⟩
 rw[List.drop_of_length_le (by omega),List.all_nil,Bool.and_true] at p2
 rw[←p2] at fin
 clear p2 p1 hb h
 generalize b=b1 at fin ⊢
 refine aQ (ι:=Nat×Bool) Tryz.checked.mixed rfl [1,3,69,70,71] (fun y=>[.c (.ptr (0,0) 0),.c (.d (.b y.2)),.c (.d (.sl (p.ak.map aN.enc))),.c (.d (.i .i64 p.ak.length)),.c (.d (.i .i64 y.1))]) (fun _=>[.box (p.enc.map .d)]::S)
  (fun y=>y.1≤p.ak.length∧(y.2&&(p.ak.drop y.1).all eF)=(b1&&p.ak.all eF)) (fun y=>p.ak.length-y.1) (0,b1) rfl ?_ ⟨Nat.zero_le _,rfl⟩ ?_
 ·exact Z1
 rintro⟨i,b⟩ ⟨p1,p2⟩
 simp only at p1 p2
 refine W1 ?_
 refine S0 (fun hb h=>?_) fun hb h=>?_
 ·have hi:i<p.ak.length:=by omega
  have hx:p.ak[i].sz≤aI (p.ak.map aN.enc):=bD (List.mem_map_of_mem (List.getElem_mem hi))
  rw[rC hi] at p2
  refine W3 ?_
  refine S0 (fun hb h=>?_) fun hb h=>?_
  ·have hb1:=h
   rw[hb1,Bool.true_and] at p2
   refine C2 (EG p.ak[i] (by omega)) ?_
   exact cu 1 (by decide) (i+1,eF p.ak[i]) (by simp only;omega) rfl rfl rfl rfl ⟨by simp only;omega,p2⟩
  ·have hb1:=h
   rw[hb1,Bool.false_and] at p2
   exact cu 1 (by decide) (i+1,false) (by simp only;omega) rfl rfl rfl rfl ⟨by simp only;omega,p2⟩
 rw[List.drop_of_length_le (by omega),List.all_nil,Bool.and_true] at p2
 rw[←p2] at fin
 clear p2 p1 hb h
 generalize b=b2 at fin ⊢
 refine aQ (ι:=Nat×Bool) Tryz.checked.mixed rfl [1,3,82,83,84] (fun y=>[.c (.ptr (0,0) 0),.c (.d (.b y.2)),.c (.d (.sl (p.aJ.map aP.enc))),.c (.d (.i .i64 p.aJ.length)),.c (.d (.i .i64 y.1))]) (fun _=>[.box (p.enc.map .d)]::S)
  (fun y=>y.1≤p.aJ.length∧(y.2&&(p.aJ.drop y.1).all eu)=(b2&&p.aJ.all eu)) (fun y=>p.aJ.length-y.1) (0,b2) rfl ?_ ⟨Nat.zero_le _,rfl⟩ ?_
 ·exact Z1
 rintro⟨i,b⟩ ⟨p1,p2⟩
 simp only at p1 p2
 refine W1 ?_
 refine S0 (fun hb h=>?_) fun hb h=>?_
 ·have hi:i<p.aJ.length:=by omega
  have hx:p.aJ[i].sz≤aI (p.aJ.map aP.enc):=bD (List.mem_map_of_mem (List.getElem_mem hi))
  rw[rC hi] at p2
  refine W3 ?_
  refine S0 (fun hb h=>?_) fun hb h=>?_
  ·have hb1:=h
   rw[hb1,Bool.true_and] at p2
   refine C2 (EN p.aJ[i] (by omega)) ?_
   exact cu 1 (by decide) (i+1,eu p.aJ[i]) (by simp only;omega) rfl rfl rfl rfl ⟨by simp only;omega,p2⟩
  ·have hb1:=h
   rw[hb1,Bool.false_and] at p2
   exact cu 1 (by decide) (i+1,false) (by simp only;omega) rfl rfl rfl rfl ⟨by simp only;omega,p2⟩
 rw[List.drop_of_length_le (by omega),List.all_nil,Bool.and_true] at p2
 rw[←p2] at fin
 clear p2 p1 hb h
 generalize b=b3 at fin ⊢
 refine aQ (ι:=Nat×Bool) Tryz.checked.mixed rfl [3,95,96,97] (fun y=>[.c (.d (.b y.2)),.c (.d (.sl (p.aM.map aR.enc))),.c (.d (.i .i64 p.aM.length)),.c (.d (.i .i64 y.1))]) (fun _=>[.box (p.enc.map .d)]::S)
  (fun y=>y.1≤p.aM.length∧(y.2&&(p.aM.drop y.1).all jD)=(b3&&p.aM.all jD)) (fun y=>p.aM.length-y.1) (0,b3) rfl ?_ ⟨Nat.zero_le _,rfl⟩ ?_
 ·exact Z1
 rintro⟨i,b⟩ ⟨p1,p2⟩
 simp only at p1 p2
 refine W1 ?_
 refine S0 (fun hb h=>?_) fun hb h=>?_
 ·have hi:i<p.aM.length:=by omega
  have hx:p.aM[i].sz≤aI (p.aM.map aR.enc):=bD (List.mem_map_of_mem (List.getElem_mem hi))
  rw[rC hi] at p2
  refine W3 ?_
  refine S0 (fun hb h=>?_) fun hb h=>?_
  ·have hb1:=h
   rw[hb1,Bool.true_and] at p2
   refine C2 (IY p.aM[i] (by omega)) ?_
   exact cu 1 (by decide) (i+1,jD p.aM[i]) (by simp only;omega) rfl rfl rfl rfl ⟨by simp only;omega,p2⟩
  ·have hb1:=h
   rw[hb1,Bool.false_and] at p2
   exact cu 1 (by decide) (i+1,false) (by simp only;omega) rfl rfl rfl rfl ⟨by simp only;omega,p2⟩
 rw[List.drop_of_length_le (by omega),List.all_nil,Bool.and_true] at p2
 rw[←p2] at fin
 clear p2 p1 hb h
 exact ay fin.symm
set_option maxHeartbeats 4000000 in
theorem Pn(p:aV)(hsz:p.sz≤4194304):aD Tryz.prog 163 [p.v] (.c (.d (.b (pW p)))):=fun S=>by
 have hs:=aV.sum p
 refine aB (rs:=[.tmp 2]) Tryz.checked.mixed Tryz.func163 Tryz.ntmps163 rfl rfl rfl rfl rfl ?_
 refine W1 ?_
 refine aQ (ι:=Nat) Tryz.checked.mixed rfl [1,3] (fun i=>[.c (.ptr (0,0) 0),.c (.d (.i .i64 i))]) (fun _=>[.box (p.enc.map .d)]::S)
  (fun i=>i≤p.aK.length∧(p.aK.drop i).all dH=p.aK.all dH) (fun i=>p.aK.length-i) 0 rfl ?_ ⟨Nat.zero_le _,rfl⟩ ?_
 ·exact Z1
 rintro i ⟨p1,p2⟩
 refine W1 ?_
 refine S0 (fun hb h=>?_) fun hb h=>?_
 ·have hi:i<p.aK.length:=by omega
  have hx:p.aK[i].sz≤aI (p.aK.map bg.enc):=bD (List.mem_map_of_mem (List.getElem_mem hi))
  rw[rC hi] at p2
  refine W3 ?_
  refine C2 (mV p.aK[i] (by omega)) ?_
  refine S0 (fun hb h=>?_) fun hb h=>?_
  ·exact ay (by unfold pW;rw[←p2,h];simp)
  ·rw[h,Bool.true_and] at p2
   exact bF (i+1) (by omega) rfl rfl ⟨by omega,p2⟩
 rw[List.drop_of_length_le (by omega),List.all_nil] at p2
 have f3:=p2.symm
 clear p2 p1 hb h
 refine aQ (ι:=Nat) Tryz.checked.mixed rfl [1,4] (fun i=>[.c (.ptr (0,0) 0),.c (.d (.i .i64 i))]) (fun _=>[.box (p.enc.map .d)]::S)
  (fun i=>i≤p.ak.length∧(p.ak.drop i).all eF=p.ak.all eF) (fun i=>p.ak.length-i) 0 rfl ?_ ⟨Nat.zero_le _,rfl⟩ ?_
 ·exact Z1
 rintro i ⟨p1,p2⟩
 refine W1 ?_
 refine S0 (fun hb h=>?_) fun hb h=>?_
 ·have hi:i<p.ak.length:=by omega
  have hx:p.ak[i].sz≤aI (p.ak.map aN.enc):=bD (List.mem_map_of_mem (List.getElem_mem hi))
  rw[rC hi] at p2
  refine W3 ?_
  refine C2 (yt p.ak[i] (by omega)) ?_
  refine S0 (fun hb h=>?_) fun hb h=>?_
  ·exact ay (by unfold pW;rw[←p2,h];simp)
  ·rw[h,Bool.true_and] at p2
   exact bF (i+1) (by omega) rfl rfl ⟨by omega,p2⟩
 rw[List.drop_of_length_le (by omega),List.all_nil] at p2
 have f4:=p2.symm
 clear p2 p1 hb h
 refine aQ (ι:=Nat) Tryz.checked.mixed rfl [1,5] (fun i=>[.c (.ptr (0,0) 0),.c (.d (.i .i64 i))]) (fun _=>[.box (p.enc.map .d)]::S)
  (fun i=>i≤p.aJ.length∧(p.aJ.drop i).all eu=p.aJ.all eu) (fun i=>p.aJ.length-i) 0 rfl ?_ ⟨Nat.zero_le _,rfl⟩ ?_
 ·exact Z1
 rintro i ⟨p1,p2⟩
 refine W1 ?_
 refine S0 (fun hb h=>?_) fun hb h=>?_
 ·have hi:i<p.aJ.length:=by omega
  have hx:p.aJ[i].sz≤aI (p.aJ.map aP.enc):=bD (List.mem_map_of_mem (List.getElem_mem hi))
  rw[rC hi] at p2
  refine W3 ?_
  refine C2 (lN p.aJ[i] (by omega)) ?_
  refine S0 (fun hb h=>?_) fun hb h=>?_
  ·exact ay (by unfold pW;rw[←p2,h];simp)
  ·rw[h,Bool.true_and] at p2
   exact bF (i+1) (by omega) rfl rfl ⟨by omega,p2⟩
 rw[List.drop_of_length_le (by omega),List.all_nil] at p2
 have f5:=p2.symm
 clear p2 p1 hb h
 refine aQ (ι:=Nat) Tryz.checked.mixed rfl [1,6] (fun i=>[.c (.ptr (0,0) 0),.c (.d (.i .i64 i))]) (fun _=>[.box (p.enc.map .d)]::S)
  (fun i=>i≤p.aM.length∧(p.aM.drop i).all jD=p.aM.all jD) (fun i=>p.aM.length-i) 0 rfl ?_ ⟨Nat.zero_le _,rfl⟩ ?_
 ·exact Z1
 rintro i ⟨p1,p2⟩
 refine W1 ?_
 refine S0 (fun hb h=>?_) fun hb h=>?_
 ·have hi:i<p.aM.length:=by omega
  have hx:p.aM[i].sz≤aI (p.aM.map aR.enc):=bD (List.mem_map_of_mem (List.getElem_mem hi))
  rw[rC hi] at p2
  refine W3 ?_
  refine C2 (u7 p.aM[i] (by omega)) ?_
  refine S0 (fun hb h=>?_) fun hb h=>?_
  ·exact ay (by unfold pW;rw[←p2,h];simp)
  ·rw[h,Bool.true_and] at p2
   exact bF (i+1) (by omega) rfl rfl ⟨by omega,p2⟩
 rw[List.drop_of_length_le (by omega),List.all_nil] at p2
 have f6:=p2.symm
 clear p2 p1 hb h
 exact ay (by unfold pW;rw[f3,f4,f5,f6];rfl)
end Go.Proofs.YtcfhnaohbaplhaaGreatDoor
namespace Go.Ab
theorem abq(p:aV):uD [p]=eZ p:=by simp[uD]
theorem abr(p:aV):uE [p]=gT p:=by simp[uE]
theorem abt(p:aV):uF [p]=fO p.ak:=by simp[uF]
theorem abu(p:aV):uG [p]=fnNames p:=by simp[uG]
end Go.Ab
namespace Go.Proofs.YtcfhnaohbaplhaaGreatDoor
open Go Go.Ab
set_option maxHeartbeats 2000000 in
theorem uI(p:aV)(hsz:p.sz≤4194304):aD Tryz.prog 79 [p.v] (.c (.d (.b (validPkg p)))):=fun S=>by
 have hs:=aV.sum p
 have hb:=aV.bounds hsz
 have hV:∀s∈p.dY,s.length≤4194304:=fun s h=>by have:=nX h;omega
 have l1:(eZ p).length≤1073741824:=by simp[eZ];omega
 have l2:(gT p).length≤1073741824:=by simp[gT];omega
 have l3:(fO p.ak).length≤1073741824:=by omega
 have l4:(fnNames p).length≤1073741824:=by simp[fnNames];omega
 refine aB (rs:=[.tmp 2]) Tryz.checked.mixed Tryz.func79 Tryz.ntmps79 rfl rfl rfl rfl rfl ?_
 refine W1 ?_
 refine C1 (Pk p hsz) ?_
 repeat' (first
  |refine S0 (fun hb h=>?_) fun hb h=>?_
  |((with_reducible show dW _ _ 159 _ _ _ _);refine bN (fQ p.fName (by omega)) ?_;refine W1 ?_)
  |((with_reducible show dW _ _ 160 _ _ _ _);refine bN (jV p.dY 5 (by omega) hV) ?_;refine W1 ?_)
  |((with_reducible show dW _ _ 161 _ _ _ _);refine bN (pO p.dY p.fName (by omega)) ?_;refine W1 ?_)
  |((with_reducible show dW _ _ 162 _ _ _ _);refine bN (mI (eZ p) l1) ?_;refine W1 ?_)
  |((with_reducible show dW _ _ 162 _ _ _ _);refine bN (mI (gT p) l2) ?_;refine W1 ?_)
  |((with_reducible show dW _ _ 162 _ _ _ _);refine bN (mI (fO p.ak) l3) ?_;refine W1 ?_)
  |((with_reducible show dW _ _ 162 _ _ _ _);refine bN (mI (fnNames p) l4) ?_;refine W1 ?_)
  |((with_reducible show dW _ _ 163 _ _ _ _);refine bN (Pn p hsz) ?_;refine W1 ?_)
  |(refine ay ?_;unfold validPkg oV kK;rw[abq,abr,abt,abu];grind [iN,iH,bq,aC]))
end Go.Proofs.YtcfhnaohbaplhaaGreatDoor
namespace Go.Ab
def I5:List UInt8:=[112,97,99,107,97,103,101]
def fH(p:aV):List aj:=p.aK.map lM++(p.ak.map yR++(p.aJ.map rA++p.aM.map zN))
noncomputable def lH(p:aV):List aj:=p.aK.map rY++(p.ak.map za++(p.aJ.map zh++p.aM.map AV))
def dU(p:aV):List aj:=[bO I5,bO p.fName,bR (aT p.dY)]
def wO(p:aV):aj:=bR (dU p++fH p)
noncomputable def qF(p:aV):aj:=qV (validPkg p&&(fH p).all gU) (wO p)
theorem Qe{p:aV}(h:p.sz≤1048576):(qF p).sz≤1048576:=Nat.le_trans (Zy _ _) (by decide)
theorem pX(p:aV):(dU p++fH p).length=3+p.aK.length+p.ak.length+p.aJ.length+p.aM.length:=by simp[dU,fH];omega
theorem GZ(p:aV):(dU p++lH p).length=3+p.aK.length+p.ak.length+p.aJ.length+p.aM.length:=by simp[dU,lH];omega
theorem JZ{p:aV}{i:Nat}(hi:i<p.aK.length):(dU p++fH p)[3+i]? =some (lM p.aK[i]):=by
 unfold fH
 rw[List.getElem?_append_right (by simp[dU]<;>omega),List.getElem?_append_left (by simp[dU]<;>omega),List.getElem?_map]
 have e:3+i-(dU p).length=i:=by simp[dU]<;>omega
 rw[e,List.getElem?_eq_getElem hi];rfl
theorem J2{p:aV}{i:Nat}(hi:i<p.ak.length):(dU p++fH p)[3+p.aK.length+i]? =some (yR p.ak[i]):=by
 unfold fH
 rw[List.getElem?_append_right (by simp[dU]<;>omega),List.getElem?_append_right (by simp[dU]<;>omega),List.getElem?_append_left (by simp[dU]<;>omega),List.getElem?_map]
 have e:3+p.aK.length+i-(dU p).length-(p.aK.map lM).length=i:=by simp[dU]<;>omega
 rw[e,List.getElem?_eq_getElem hi];rfl
theorem G5{p:aV}{i:Nat}(hi:i<p.aJ.length):(dU p++fH p)[3+p.aK.length+p.ak.length+i]? =some (rA p.aJ[i]):=by
 unfold fH
 rw[List.getElem?_append_right (by simp[dU]<;>omega),List.getElem?_append_right (by simp[dU]<;>omega),List.getElem?_append_right (by simp[dU]<;>omega),List.getElem?_append_left (by simp[dU]<;>omega),List.getElem?_map]
 have e:3+p.aK.length+p.ak.length+i-(dU p).length-(p.aK.map lM).length-(p.ak.map yR).length=i:=by simp[dU]<;>omega
 rw[e,List.getElem?_eq_getElem hi];rfl
theorem J3{p:aV}{i:Nat}(hi:i<p.aM.length):(dU p++fH p)[3+p.aK.length+p.ak.length+p.aJ.length+i]? =some (zN p.aM[i]):=by
 unfold fH
 rw[List.getElem?_append_right (by simp[dU]<;>omega),List.getElem?_append_right (by simp[dU]<;>omega),List.getElem?_append_right (by simp[dU]<;>omega),List.getElem?_append_right (by simp[dU]<;>omega),List.getElem?_map]
 have e:3+p.aK.length+p.ak.length+p.aJ.length+i-(dU p).length-(p.aK.map lM).length-(p.ak.map yR).length-(p.aJ.map rA).length=i:=by simp[dU]<;>omega
 rw[e,List.getElem?_eq_getElem hi];rfl
theorem J4{p:aV}{i:Nat}(hi:i<p.aK.length):(dU p++lH p)[3+i]? =some (rY p.aK[i]):=by
 unfold lH
 rw[List.getElem?_append_right (by simp[dU]<;>omega),List.getElem?_append_left (by simp[dU]<;>omega),List.getElem?_map]
 have e:3+i-(dU p).length=i:=by simp[dU]<;>omega
 rw[e,List.getElem?_eq_getElem hi];rfl
theorem J5{p:aV}{i:Nat}(hi:i<p.ak.length):(dU p++lH p)[3+p.aK.length+i]? =some (za p.ak[i]):=by
 unfold lH
 rw[List.getElem?_append_right (by simp[dU]<;>omega),List.getElem?_append_right (by simp[dU]<;>omega),List.getElem?_append_left (by simp[dU]<;>omega),List.getElem?_map]
 have e:3+p.aK.length+i-(dU p).length-(p.aK.map rY).length=i:=by simp[dU]<;>omega
 rw[e,List.getElem?_eq_getElem hi];rfl
theorem G6{p:aV}{i:Nat}(hi:i<p.aJ.length):(dU p++lH p)[3+p.aK.length+p.ak.length+i]? =some (zh p.aJ[i]):=by
 unfold lH
 rw[List.getElem?_append_right (by simp[dU]<;>omega),List.getElem?_append_right (by simp[dU]<;>omega),List.getElem?_append_right (by simp[dU]<;>omega),List.getElem?_append_left (by simp[dU]<;>omega),List.getElem?_map]
 have e:3+p.aK.length+p.ak.length+i-(dU p).length-(p.aK.map rY).length-(p.ak.map za).length=i:=by simp[dU]<;>omega
 rw[e,List.getElem?_eq_getElem hi];rfl
theorem J6{p:aV}{i:Nat}(hi:i<p.aM.length):(dU p++lH p)[3+p.aK.length+p.ak.length+p.aJ.length+i]? =some (AV p.aM[i]):=by
 unfold lH
 rw[List.getElem?_append_right (by simp[dU]<;>omega),List.getElem?_append_right (by simp[dU]<;>omega),List.getElem?_append_right (by simp[dU]<;>omega),List.getElem?_append_right (by simp[dU]<;>omega),List.getElem?_map]
 have e:3+p.aK.length+p.ak.length+p.aJ.length+i-(dU p).length-(p.aK.map rY).length-(p.ak.map za).length-(p.aJ.map zh).length=i:=by simp[dU]<;>omega
 rw[e,List.getElem?_eq_getElem hi];rfl
theorem yA{α:Type}(f:α→aj)(e:α→List D)(sz:α→Nat)(hs:∀a,sz a=bL (e a))(c k:Nat):∀l:List α,(∀a∈l,(f a).sz≤c+k*sz a)→fu (l.map f)≤c*l.length+k*aI (l.map e)
 |[],_=>by simp[fu]
 |a::l,h=>by
  have h1:=h a (List.mem_cons_self ..)
  have h2:=yA f e sz hs c k l fun b hb=>h b (List.mem_cons_of_mem _ hb)
  rw[hs] at h1
  rw[List.map_cons,fu,List.map_cons,aI,List.length_cons,Nat.mul_add,Nat.mul_add];omega
theorem nA{p:aV}(h:validPkg p=true):(∀t∈p.aK,dH t=true)∧(∀t∈p.ak,eF t=true)∧(∀t∈p.aJ,eu t=true)∧(∀t∈p.aM,jD t=true)∧p.aK.length+p.ak.length+p.aJ.length+p.aM.length≤24:=by
 unfold validPkg oV pW at h
 simp only[Bool.and_eq_true] at h
 obtain⟨⟨_,_,_,_,h0⟩,_,h1,h2,h3,h4⟩:=h
 exact⟨List.all_eq_true.1 h1,List.all_eq_true.1 h2,List.all_eq_true.1 h3,List.all_eq_true.1 h4,iN h0⟩
theorem G7{p:aV}(hv:validPkg p=true):(wO p).sz≤4096+50*p.sz∧fu (fH p)≤4000+50*p.sz:=by
 obtain⟨v1,v2,v3,v4,v5⟩:=nA hv
 have h1:=yA lM bg.enc bg.sz (fun _=>rfl) 96 49 p.aK fun t ht=>by have:=Dj (v1 t ht);omega
 have h2:=yA yR aN.enc aN.sz (fun _=>rfl) 96 49 p.ak fun t ht=>by have:=Vo t;omega
 have h3:=yA rA aP.enc aP.sz (fun _=>rfl) 96 49 p.aJ fun t ht=>by have:=CF (v3 t ht);omega
 have h4:=yA zN aR.enc aR.sz (fun _=>rfl) 96 49 p.aM fun t ht=>by have:=Vt (wE (v4 t ht)).2.2.2;omega
 have h5:=aV.sum p
 rw[dA] at h5
 have h6:fu (fH p)≤4000+50*p.sz:=by
  unfold fH;rw[gJ,gJ,gJ];omega
 have h7:fu (fH p)=fu (p.aK.map lM)+(fu (p.ak.map yR)+(fu (p.aJ.map rA)+fu (p.aM.map zN))):=by
  unfold fH;rw[gJ,gJ,gJ]
 refine⟨?_,h6⟩
 rw[wO,iI,gJ,pX]
 simp[dU,fu,iQ,iI,iD,ng,I5];omega
theorem EO:∀(l:List aj) (n:Nat),∃ps:List (Nat×aj),lx l n=(ps.map fun q=>[.s q.2.bS,.ol q.1 (lx q.2.aY (q.1+1))])∧ps.map Prod.snd=l
 |[],n=>⟨[],rfl,rfl⟩
 |x::l,n=>by
  obtain⟨ps,h1,h2⟩:=EO l (n+dz x)
  exact⟨(n,x)::ps,by rw[iA,h1,iy];rfl,by rw[List.map_cons,h2]⟩
theorem J7{p:aV}(hv:validPkg p=true):lH p=(fH p).map oZ:=by
 obtain⟨v1,v2,v3,v4,_⟩:=nA hv
 unfold lH fH
 rw[List.map_append,List.map_append,List.map_append,List.map_map,List.map_map,List.map_map,List.map_map]
 congr 1
 ·exact List.map_congr_left fun t ht=>by unfold rY;rw[v1 t ht];rfl
 congr 1
 ·exact List.map_congr_left fun t ht=>by unfold za;rw[v2 t ht];rfl
 congr 1
 ·exact List.map_congr_left fun t ht=>by unfold zh;rw[v3 t ht];rfl
 ·exact List.map_congr_left fun t ht=>by unfold AV;rw[v4 t ht];rfl
theorem Vx{p:aV}:∀x∈fH p,x.aY≠[]:=fun x hx=>by
 unfold fH at hx
 simp only[List.mem_append,List.mem_map] at hx
 rcases hx with⟨t,_,rfl⟩|⟨t,_,rfl⟩|⟨t,_,rfl⟩|⟨t,_,rfl⟩
 ·rw[lM,cO,gW];simp
 ·rw[yR,cO,baseD];simp
 ·rw[rA,cO,kF];simp
 ·rw[zN,cO];simp
end Go.Ab
namespace Go.Proofs.YtcfhnaohbaplhaaGreatDoor
open Go Go.Ab
set_option maxHeartbeats 4000000 in
theorem Yg(p:aV)(n:Nat)(hv:validPkg p=true)(hsz:p.sz≤1048576)(hall:∀x∈fH p,gU x=true):aD Tryz.prog 63 [p.v] (.agg [.d (.s (oZ (wO p)).bS),.d (.ol n (lx (oZ (wO p)).aY (n+1)))]):=fun S=>by
 have hdz:=aV.sum p
 rw[dA] at hdz
 obtain⟨v1,v2,v3,v4,v5⟩:=nA hv
 obtain⟨hz,hzp⟩:=G7 hv
 obtain⟨PL,tH⟩:∃PL:List aj,PL=dU p++fH p:=⟨_,rfl⟩
 obtain⟨L,hL⟩:∃L:Nat→Nat,L=fun i=>n+1+gB (PL.take i):=⟨_,rfl⟩
 obtain⟨T,hT⟩:∃T:Nat→List (List D),T=fun i=>lx (PL.take i) (n+1):=⟨_,rfl⟩
 have G8:T 3=[[.s I5,.ol (n+1) []],[.s p.fName,.ol (n+1+1) []],[.s [],.ol (n+1+1+1) (lx (aT p.dY) (n+1+1+1+1))]]:=by
  rw[hT,tH];exact Cv _ _ _ _
 have hlp:=pX p
 rw[←tH] at hlp
 have fM:∀i,(T i).length≤i:=fun i=>by
  rw[hT];simp only[eT]
  exact List.length_take_le i _
 have hTs:∀(i:Nat) (x:aj),PL[i]? =some x→x.bS=[]→T i++[[.s [],.ol (L i) (lx x.aY (L i+1))]]=T (i+1):=fun i x hx h0=>by
  obtain⟨hi,hg⟩:=List.getElem?_eq_some_iff.1 hx
  have:=uY hi (n+1)
  rw[hg,h0] at this
  rw[hT,hL];exact this
 have hTr:∀i,∀r∈T i,r.length=2:=fun i=>by rw[hT];exact iZ
 have g1:=fun i hi=>JZ (p:=p) (i:=i) hi
 have g2:=fun i hi=>J2 (p:=p) (i:=i) hi
 have g3:=fun i hi=>G5 (p:=p) (i:=i) hi
 have g4:=fun i hi=>J3 (p:=p) (i:=i) hi
 rw[←tH] at g1 g2 g3 g4
 have hTe:T (3+p.aK.length+p.ak.length+p.aJ.length+p.aM.length)=lx (wO p).aY (n+1):=by
  rw[hT];simp only
  rw[List.take_of_length_le (by omega),tH];rfl
 have hTm:(T (3+p.aK.length+p.ak.length+p.aJ.length+p.aM.length)).length=3+p.aK.length+p.ak.length+p.aJ.length+p.aM.length:=by rw[hTe,eT,wO,cO,pX]
 obtain⟨ps,hp1,hp2⟩:=EO (fH p) (n+1+gB (dU p))
 have afm:ps.length≤24:=by
  have h1:=congrArg List.length hp2
  rw[List.length_map] at h1
  have h2:=pX p
  rw[List.length_append] at h2
  simp[dU] at h2;omega
 have hdr:(T (3+p.aK.length+p.ak.length+p.aJ.length+p.aM.length)).drop 3=ps.map fun q=>[.s q.2.bS,.ol q.1 (lx q.2.aY (q.1+1))]:=by
  rw[hTe,wO,cO,jw,←hp1];rfl
 clear hT hL
 refine mY (n) 1 (rs:=[.cell 2 78]) Tryz.checked.mixed Tryz.func63 Tryz.ntmps63 rfl rfl rfl rfl rfl ?_
 refine W1 ?_
 refine bN (uH p (by omega)) ?_
 simp -implicitDefEqProofs (disch:=omega) only[go_sem,hv]
 refine C1 (bY _ (n+1)) ?_
 refine C1 (bY _ (n+1+1)) ?_
 refine C1 (dN p.dY (by omega) (n+1+1+1)) ?_
 refine W3 ?_
 refine kV n 3 2 (T 3) (.inl ?_) (hTr 3) ?_
 ·rw[G8];rfl
 refine kY (L 3) ?_
 refine aQ (ι:=Nat) Tryz.checked.mixed rfl [1,2,3,27,28,29] (fun i=>[.c (.ptr (0,2) 0),.c (.ptr (0,3) 0),.c (.bH (0,4) (T (3+i))),.c (.d (.sl (p.aK.map bg.enc))),.c (.d (.i .i64 p.aK.length)),.c (.d (.i .i64 i))])
  (fun i=>[.seed (L (3+i)),.seed 1,.box [.d (.s p.fName),.d (.sl (p.dY.map encS)),.d (.sl (p.aK.map bg.enc)),.d (.sl (p.ak.map aN.enc)),.d (.sl (p.aJ.map aP.enc)),.d (.sl (p.aM.map aR.enc))],.box [.d (.s []),.bC []],.d9 n 2 (T (3+i))]::S)
  (fun i=>i≤p.aK.length) (fun i=>p.aK.length-i) 0 rfl rfl (Nat.zero_le _) ?_
 intro i hi
 have hl:=fM (3+i)
 refine W1 ?_
 refine S0 (fun hb h=>?_) fun hb h=>?_
 ·have hi':i<p.aK.length:=by omega
  have hm:=List.getElem_mem hi'
  have hcz:=bD (List.mem_map_of_mem (f:=bg.enc) hm)
  have sH:p.aK[i].sz≤aI (p.aK.map bg.enc):=hcz
  have hs:=hTs _ _ (g1 i hi') rfl
  refine W3 ?_
  refine C1 (Bj p.aK[i] (L (3+i)) (v1 _ hm) (by omega)) ?_
  refine W3 ?_
  rw[hs]
  refine jd (L (3+(i+1))) 4 (by decide) (i+1) (by omega) rfl rfl ?_ rfl (by omega)
  simp[gF,fG,V.refs,C.refs,iV]
 have hi':i=p.aK.length:=by omega
 subst hi'
 clear hi hl h
 refine aQ (ι:=Nat) Tryz.checked.mixed rfl [1,2,3,40,41,42] (fun i=>[.c (.ptr (0,2) 0),.c (.ptr (0,3) 0),.c (.bH (0,4) (T (3+p.aK.length+i))),.c (.d (.sl (p.ak.map aN.enc))),.c (.d (.i .i64 p.ak.length)),.c (.d (.i .i64 i))])
  (fun i=>[.seed (L (3+p.aK.length+i)),.seed 1,.box [.d (.s p.fName),.d (.sl (p.dY.map encS)),.d (.sl (p.aK.map bg.enc)),.d (.sl (p.ak.map aN.enc)),.d (.sl (p.aJ.map aP.enc)),.d (.sl (p.aM.map aR.enc))],.box [.d (.s []),.bC []],.d9 n 2 (T (3+p.aK.length+i))]::S)
  (fun i=>i≤p.ak.length) (fun i=>p.ak.length-i) 0 rfl rfl (Nat.zero_le _) ?_
 intro i hi
 have hl:=fM (3+p.aK.length+i)
 refine W1 ?_
 refine S0 (fun hb h=>?_) fun hb h=>?_
 ·have hi':i<p.ak.length:=by omega
  have hm:=List.getElem_mem hi'
  have hcz:=bD (List.mem_map_of_mem (f:=aN.enc) hm)
  have sH:p.ak[i].sz≤aI (p.ak.map aN.enc):=hcz
  have hs:=hTs _ _ (g2 i hi') rfl
  refine W3 ?_
  refine C1 (yS p.ak[i] (L (3+p.aK.length+i)) (v2 _ hm) (by omega)) ?_
  refine W3 ?_
  rw[hs]
  refine jd (L (3+p.aK.length+(i+1))) 4 (by decide) (i+1) (by omega) rfl rfl ?_ rfl (by omega)
  simp[gF,fG,V.refs,C.refs,iV]
 have hi':i=p.ak.length:=by omega
 subst hi'
 clear hi hl h
 refine aQ (ι:=Nat) Tryz.checked.mixed rfl [1,2,3,53,54,55] (fun i=>[.c (.ptr (0,2) 0),.c (.ptr (0,3) 0),.c (.bH (0,4) (T (3+p.aK.length+p.ak.length+i))),.c (.d (.sl (p.aJ.map aP.enc))),.c (.d (.i .i64 p.aJ.length)),.c (.d (.i .i64 i))])
  (fun i=>[.seed (L (3+p.aK.length+p.ak.length+i)),.seed 1,.box [.d (.s p.fName),.d (.sl (p.dY.map encS)),.d (.sl (p.aK.map bg.enc)),.d (.sl (p.ak.map aN.enc)),.d (.sl (p.aJ.map aP.enc)),.d (.sl (p.aM.map aR.enc))],.box [.d (.s []),.bC []],.d9 n 2 (T (3+p.aK.length+p.ak.length+i))]::S)
  (fun i=>i≤p.aJ.length) (fun i=>p.aJ.length-i) 0 rfl rfl (Nat.zero_le _) ?_
 intro i hi
 have hl:=fM (3+p.aK.length+p.ak.length+i)
 refine W1 ?_
 refine S0 (fun hb h=>?_) fun hb h=>?_
 ·have hi':i<p.aJ.length:=by omega
  have hm:=List.getElem_mem hi'
  have hcz:=bD (List.mem_map_of_mem (f:=aP.enc) hm)
  have sH:p.aJ[i].sz≤aI (p.aJ.map aP.enc):=hcz
  have hs:=hTs _ _ (g3 i hi') rfl
  refine W3 ?_
  refine C1 (CG p.aJ[i] (L (3+p.aK.length+p.ak.length+i)) (v3 _ hm) (by omega)) ?_
  refine W3 ?_
  rw[hs]
  refine jd (L (3+p.aK.length+p.ak.length+(i+1))) 4 (by decide) (i+1) (by omega) rfl rfl ?_ rfl (by omega)
  simp[gF,fG,V.refs,C.refs,iV]
 have hi':i=p.aJ.length:=by omega
 subst hi'
 clear hi hl h
 refine aQ (ι:=Nat) Tryz.checked.mixed rfl [2,3,66,67,68] (fun i=>[.c (.ptr (0,3) 0),.c (.bH (0,4) (T (3+p.aK.length+p.ak.length+p.aJ.length+i))),.c (.d (.sl (p.aM.map aR.enc))),.c (.d (.i .i64 p.aM.length)),.c (.d (.i .i64 i))])
  (fun i=>[.seed (L (3+p.aK.length+p.ak.length+p.aJ.length+i)),.seed 1,.box [.d (.s p.fName),.d (.sl (p.dY.map encS)),.d (.sl (p.aK.map bg.enc)),.d (.sl (p.ak.map aN.enc)),.d (.sl (p.aJ.map aP.enc)),.d (.sl (p.aM.map aR.enc))],.box [.d (.s []),.bC []],.d9 n 2 (T (3+p.aK.length+p.ak.length+p.aJ.length+i))]::S)
  (fun i=>i≤p.aM.length) (fun i=>p.aM.length-i) 0 rfl rfl (Nat.zero_le _) ?_
 intro i hi
 have hl:=fM (3+p.aK.length+p.ak.length+p.aJ.length+i)
 refine W1 ?_
 refine S0 (fun hb h=>?_) fun hb h=>?_
 ·have hi':i<p.aM.length:=by omega
  have hm:=List.getElem_mem hi'
  have hcz:=bD (List.mem_map_of_mem (f:=aR.enc) hm)
  have sH:p.aM[i].sz≤aI (p.aM.map aR.enc):=hcz
  have hs:=hTs _ _ (g4 i hi') rfl
  refine W3 ?_
  refine C1 (Bh p.aM[i] (L (3+p.aK.length+p.ak.length+p.aJ.length+i)) (v4 _ hm) (by omega)) ?_
  refine W3 ?_
  rw[hs]
  refine jd (L (3+p.aK.length+p.ak.length+p.aJ.length+(i+1))) 4 (by decide) (i+1) (by omega) rfl rfl ?_ rfl (by omega)
  simp[gF,fG,V.refs,C.refs,iV]
 have hi':i=p.aM.length:=by omega
 subst hi'
 clear hi hl h
 have Yh:=hTr (3+p.aK.length+p.ak.length+p.aJ.length+p.aM.length)
 refine⟨⟨by omega,by omega,Yh⟩,?_⟩
 rw[List.take_length,hdr]
 simp only[List.length_map]
 refine xO (ze 4 n n) ?_
 refine aQ (ι:=Nat) Tryz.checked.mixed rfl [2,3,79,80,81] (fun i=>[.c (.ptr (0,3) 0),.c (.bH (0,4) (T (3+p.aK.length+p.ak.length+p.aJ.length+p.aM.length))),.c (.d (.sl (ps.map fun q=>[.s q.2.bS,.ol q.1 (lx q.2.aY (q.1+1))]))),.c (.d (.i .i64 ps.length)),.c (.d (.i .i64 i))])
  (fun i=>[.seed (L (3+p.aK.length+p.ak.length+p.aJ.length+p.aM.length)),.seed 1,.box [.d (.s p.fName),.d (.sl (p.dY.map encS)),.d (.sl (p.aK.map bg.enc)),.d (.sl (p.ak.map aN.enc)),.d (.sl (p.aJ.map aP.enc)),.d (.sl (p.aM.map aR.enc))],.box [.d (.s []),.bC []],.d9 n 2 (T (3+p.aK.length+p.ak.length+p.aJ.length+p.aM.length))]::S)
  (fun i=>i≤ps.length∧∀j (hj:j<ps.length),j<i→gU ps[j].2=true) (fun i=>ps.length-i) 0 rfl rfl ⟨Nat.zero_le _,fun j hj h=>by omega⟩ ?_
 rintro i ⟨hi,hj⟩
 refine W1 ?_
 refine S0 (fun hb h=>?_) fun hb h=>?_
 ·have hi':i<ps.length:=by omega
  have hm:ps[i].2∈fH p:=by rw[←hp2];exact List.mem_map_of_mem (List.getElem_mem hi')
  have hx:=xk hm
  refine W3 ?_
  refine nH (qd ps[i].2 (by omega)) (.cons (Df ps[i].2 ps[i].1) .nil) ?_
  have yN:=hall _ hm
  simp -implicitDefEqProofs (disch:=omega) only[go_sem,yN]
  exact cu 5 (by decide) (i+1) (by omega) rfl rfl rfl rfl ⟨by omega,fun j hj' hlt=>by
   by_cases e:j=i
   ·subst e;exact yN
   ·exact hj j hj' (by omega)⟩
 ·rw[hTe]
  refine C1 (jm _) ?_
  exact C3 (Sc (wO p) n (by omega))
set_option maxHeartbeats 4000000 in
theorem Yi(p:aV)(n:Nat)(hv:validPkg p=true)(hsz:p.sz≤1048576)(hall:¬∀x∈fH p,gU x=true):aD Tryz.prog 63 [p.v] (.agg [.d (.s []),.bC []]):=fun S=>by
 have hdz:=aV.sum p
 rw[dA] at hdz
 obtain⟨v1,v2,v3,v4,v5⟩:=nA hv
 obtain⟨hz,hzp⟩:=G7 hv
 obtain⟨PL,tH⟩:∃PL:List aj,PL=dU p++fH p:=⟨_,rfl⟩
 obtain⟨L,hL⟩:∃L:Nat→Nat,L=fun i=>n+1+gB (PL.take i):=⟨_,rfl⟩
 obtain⟨T,hT⟩:∃T:Nat→List (List D),T=fun i=>lx (PL.take i) (n+1):=⟨_,rfl⟩
 have G8:T 3=[[.s I5,.ol (n+1) []],[.s p.fName,.ol (n+1+1) []],[.s [],.ol (n+1+1+1) (lx (aT p.dY) (n+1+1+1+1))]]:=by
  rw[hT,tH];exact Cv _ _ _ _
 have hlp:=pX p
 rw[←tH] at hlp
 have fM:∀i,(T i).length≤i:=fun i=>by
  rw[hT];simp only[eT]
  exact List.length_take_le i _
 have hTs:∀(i:Nat) (x:aj),PL[i]? =some x→x.bS=[]→T i++[[.s [],.ol (L i) (lx x.aY (L i+1))]]=T (i+1):=fun i x hx h0=>by
  obtain⟨hi,hg⟩:=List.getElem?_eq_some_iff.1 hx
  have:=uY hi (n+1)
  rw[hg,h0] at this
  rw[hT,hL];exact this
 have hTr:∀i,∀r∈T i,r.length=2:=fun i=>by rw[hT];exact iZ
 have g1:=fun i hi=>JZ (p:=p) (i:=i) hi
 have g2:=fun i hi=>J2 (p:=p) (i:=i) hi
 have g3:=fun i hi=>G5 (p:=p) (i:=i) hi
 have g4:=fun i hi=>J3 (p:=p) (i:=i) hi
 rw[←tH] at g1 g2 g3 g4
 have hTe:T (3+p.aK.length+p.ak.length+p.aJ.length+p.aM.length)=lx (wO p).aY (n+1):=by
  rw[hT];simp only
  rw[List.take_of_length_le (by omega),tH];rfl
 have hTm:(T (3+p.aK.length+p.ak.length+p.aJ.length+p.aM.length)).length=3+p.aK.length+p.ak.length+p.aJ.length+p.aM.length:=by rw[hTe,eT,wO,cO,pX]
 obtain⟨ps,hp1,hp2⟩:=EO (fH p) (n+1+gB (dU p))
 have afm:ps.length≤24:=by
  have h1:=congrArg List.length hp2
  rw[List.length_map] at h1
  have h2:=pX p
  rw[List.length_append] at h2
  simp[dU] at h2;omega
 have hdr:(T (3+p.aK.length+p.ak.length+p.aJ.length+p.aM.length)).drop 3=ps.map fun q=>[.s q.2.bS,.ol q.1 (lx q.2.aY (q.1+1))]:=by
  rw[hTe,wO,cO,jw,←hp1];rfl
 clear hT hL
 refine mY (n) 1 (rs:=[.cell 2 78]) Tryz.checked.mixed Tryz.func63 Tryz.ntmps63 rfl rfl rfl rfl rfl ?_
 refine W1 ?_
 refine bN (uH p (by omega)) ?_
 simp -implicitDefEqProofs (disch:=omega) only[go_sem,hv]
 refine C1 (bY _ (n+1)) ?_
 refine C1 (bY _ (n+1+1)) ?_
 refine C1 (dN p.dY (by omega) (n+1+1+1)) ?_
 refine W3 ?_
 refine kV n 3 2 (T 3) (.inl ?_) (hTr 3) ?_
 ·rw[G8];rfl
 refine kY (L 3) ?_
 refine aQ (ι:=Nat) Tryz.checked.mixed rfl [1,2,3,27,28,29] (fun i=>[.c (.ptr (0,2) 0),.c (.ptr (0,3) 0),.c (.bH (0,4) (T (3+i))),.c (.d (.sl (p.aK.map bg.enc))),.c (.d (.i .i64 p.aK.length)),.c (.d (.i .i64 i))])
  (fun i=>[.seed (L (3+i)),.seed 1,.box [.d (.s p.fName),.d (.sl (p.dY.map encS)),.d (.sl (p.aK.map bg.enc)),.d (.sl (p.ak.map aN.enc)),.d (.sl (p.aJ.map aP.enc)),.d (.sl (p.aM.map aR.enc))],.box [.d (.s []),.bC []],.d9 n 2 (T (3+i))]::S)
  (fun i=>i≤p.aK.length) (fun i=>p.aK.length-i) 0 rfl rfl (Nat.zero_le _) ?_
 intro i hi
 have hl:=fM (3+i)
 refine W1 ?_
 refine S0 (fun hb h=>?_) fun hb h=>?_
 ·have hi':i<p.aK.length:=by omega
  have hm:=List.getElem_mem hi'
  have hcz:=bD (List.mem_map_of_mem (f:=bg.enc) hm)
  have sH:p.aK[i].sz≤aI (p.aK.map bg.enc):=hcz
  have hs:=hTs _ _ (g1 i hi') rfl
  refine W3 ?_
  refine C1 (Bj p.aK[i] (L (3+i)) (v1 _ hm) (by omega)) ?_
  refine W3 ?_
  rw[hs]
  refine jd (L (3+(i+1))) 4 (by decide) (i+1) (by omega) rfl rfl ?_ rfl (by omega)
  simp[gF,fG,V.refs,C.refs,iV]
 have hi':i=p.aK.length:=by omega
 subst hi'
 clear hi hl h
 refine aQ (ι:=Nat) Tryz.checked.mixed rfl [1,2,3,40,41,42] (fun i=>[.c (.ptr (0,2) 0),.c (.ptr (0,3) 0),.c (.bH (0,4) (T (3+p.aK.length+i))),.c (.d (.sl (p.ak.map aN.enc))),.c (.d (.i .i64 p.ak.length)),.c (.d (.i .i64 i))])
  (fun i=>[.seed (L (3+p.aK.length+i)),.seed 1,.box [.d (.s p.fName),.d (.sl (p.dY.map encS)),.d (.sl (p.aK.map bg.enc)),.d (.sl (p.ak.map aN.enc)),.d (.sl (p.aJ.map aP.enc)),.d (.sl (p.aM.map aR.enc))],.box [.d (.s []),.bC []],.d9 n 2 (T (3+p.aK.length+i))]::S)
  (fun i=>i≤p.ak.length) (fun i=>p.ak.length-i) 0 rfl rfl (Nat.zero_le _) ?_
 intro i hi
 have hl:=fM (3+p.aK.length+i)
 refine W1 ?_
 refine S0 (fun hb h=>?_) fun hb h=>?_
 ·have hi':i<p.ak.length:=by omega
  have hm:=List.getElem_mem hi'
  have hcz:=bD (List.mem_map_of_mem (f:=aN.enc) hm)
  have sH:p.ak[i].sz≤aI (p.ak.map aN.enc):=hcz
  have hs:=hTs _ _ (g2 i hi') rfl
  refine W3 ?_
  refine C1 (yS p.ak[i] (L (3+p.aK.length+i)) (v2 _ hm) (by omega)) ?_
  refine W3 ?_
  rw[hs]
  refine jd (L (3+p.aK.length+(i+1))) 4 (by decide) (i+1) (by omega) rfl rfl ?_ rfl (by omega)
  simp[gF,fG,V.refs,C.refs,iV]
 have hi':i=p.ak.length:=by omega
 subst hi'
 clear hi hl h
 refine aQ (ι:=Nat) Tryz.checked.mixed rfl [1,2,3,53,54,55] (fun i=>[.c (.ptr (0,2) 0),.c (.ptr (0,3) 0),.c (.bH (0,4) (T (3+p.aK.length+p.ak.length+i))),.c (.d (.sl (p.aJ.map aP.enc))),.c (.d (.i .i64 p.aJ.length)),.c (.d (.i .i64 i))])
  (fun i=>[.seed (L (3+p.aK.length+p.ak.length+i)),.seed 1,.box [.d (.s p.fName),.d (.sl (p.dY.map encS)),.d (.sl (p.aK.map bg.enc)),.d (.sl (p.ak.map aN.enc)),.d (.sl (p.aJ.map aP.enc)),.d (.sl (p.aM.map aR.enc))],.box [.d (.s []),.bC []],.d9 n 2 (T (3+p.aK.length+p.ak.length+i))]::S)
  (fun i=>i≤p.aJ.length) (fun i=>p.aJ.length-i) 0 rfl rfl (Nat.zero_le _) ?_
 intro i hi
 have hl:=fM (3+p.aK.length+p.ak.length+i)
 refine W1 ?_
 refine S0 (fun hb h=>?_) fun hb h=>?_
 ·have hi':i<p.aJ.length:=by omega
  have hm:=List.getElem_mem hi'
  have hcz:=bD (List.mem_map_of_mem (f:=aP.enc) hm)
  have sH:p.aJ[i].sz≤aI (p.aJ.map aP.enc):=hcz
  have hs:=hTs _ _ (g3 i hi') rfl
  refine W3 ?_
  refine C1 (CG p.aJ[i] (L (3+p.aK.length+p.ak.length+i)) (v3 _ hm) (by omega)) ?_
  refine W3 ?_
  rw[hs]
  refine jd (L (3+p.aK.length+p.ak.length+(i+1))) 4 (by decide) (i+1) (by omega) rfl rfl ?_ rfl (by omega)
  simp[gF,fG,V.refs,C.refs,iV]
 have hi':i=p.aJ.length:=by omega
 subst hi'
 clear hi hl h
 refine aQ (ι:=Nat) Tryz.checked.mixed rfl [2,3,66,67,68] (fun i=>[.c (.ptr (0,3) 0),.c (.bH (0,4) (T (3+p.aK.length+p.ak.length+p.aJ.length+i))),.c (.d (.sl (p.aM.map aR.enc))),.c (.d (.i .i64 p.aM.length)),.c (.d (.i .i64 i))])
  (fun i=>[.seed (L (3+p.aK.length+p.ak.length+p.aJ.length+i)),.seed 1,.box [.d (.s p.fName),.d (.sl (p.dY.map encS)),.d (.sl (p.aK.map bg.enc)),.d (.sl (p.ak.map aN.enc)),.d (.sl (p.aJ.map aP.enc)),.d (.sl (p.aM.map aR.enc))],.box [.d (.s []),.bC []],.d9 n 2 (T (3+p.aK.length+p.ak.length+p.aJ.length+i))]::S)
  (fun i=>i≤p.aM.length) (fun i=>p.aM.length-i) 0 rfl rfl (Nat.zero_le _) ?_
 intro i hi
 have hl:=fM (3+p.aK.length+p.ak.length+p.aJ.length+i)
 refine W1 ?_
 refine S0 (fun hb h=>?_) fun hb h=>?_
 ·have hi':i<p.aM.length:=by omega
  have hm:=List.getElem_mem hi'
  have hcz:=bD (List.mem_map_of_mem (f:=aR.enc) hm)
  have sH:p.aM[i].sz≤aI (p.aM.map aR.enc):=hcz
  have hs:=hTs _ _ (g4 i hi') rfl
  refine W3 ?_
  refine C1 (Bh p.aM[i] (L (3+p.aK.length+p.ak.length+p.aJ.length+i)) (v4 _ hm) (by omega)) ?_
  refine W3 ?_
  rw[hs]
  refine jd (L (3+p.aK.length+p.ak.length+p.aJ.length+(i+1))) 4 (by decide) (i+1) (by omega) rfl rfl ?_ rfl (by omega)
  simp[gF,fG,V.refs,C.refs,iV]
 have hi':i=p.aM.length:=by omega
 subst hi'
 clear hi hl h
 have Yh:=hTr (3+p.aK.length+p.ak.length+p.aJ.length+p.aM.length)
 refine⟨⟨by omega,by omega,Yh⟩,?_⟩
 rw[List.take_length,hdr]
 simp only[List.length_map]
 refine xO (ze 4 n n) ?_
 refine aQ (ι:=Nat) Tryz.checked.mixed rfl [2,3,79,80,81] (fun i=>[.c (.ptr (0,3) 0),.c (.bH (0,4) (T (3+p.aK.length+p.ak.length+p.aJ.length+p.aM.length))),.c (.d (.sl (ps.map fun q=>[.s q.2.bS,.ol q.1 (lx q.2.aY (q.1+1))]))),.c (.d (.i .i64 ps.length)),.c (.d (.i .i64 i))])
  (fun i=>[.seed (L (3+p.aK.length+p.ak.length+p.aJ.length+p.aM.length)),.seed 1,.box [.d (.s p.fName),.d (.sl (p.dY.map encS)),.d (.sl (p.aK.map bg.enc)),.d (.sl (p.ak.map aN.enc)),.d (.sl (p.aJ.map aP.enc)),.d (.sl (p.aM.map aR.enc))],.box [.d (.s []),.bC []],.d9 n 2 (T (3+p.aK.length+p.ak.length+p.aJ.length+p.aM.length))]::S)
  (fun i=>i≤ps.length∧∀j (hj:j<ps.length),j<i→gU ps[j].2=true) (fun i=>ps.length-i) 0 rfl rfl ⟨Nat.zero_le _,fun j hj h=>by omega⟩ ?_
 rintro i ⟨hi,hj⟩
 refine W1 ?_
 refine S0 (fun hb h=>?_) fun hb h=>?_
 ·have hi':i<ps.length:=by omega
  have hm:ps[i].2∈fH p:=by rw[←hp2];exact List.mem_map_of_mem (List.getElem_mem hi')
  have hx:=xk hm
  refine W3 ?_
  refine nH (qd ps[i].2 (by omega)) (.cons (Df ps[i].2 ps[i].1) .nil) ?_
  cases yN:gU ps[i].2 with
  |false=>simp -implicitDefEqProofs (disch:=omega) only[go_sem,yN]
  |true=>
   simp -implicitDefEqProofs (disch:=omega) only[go_sem,yN]
   exact cu 5 (by decide) (i+1) (by omega) rfl rfl rfl rfl ⟨by omega,fun j hj' hlt=>by
    by_cases e:j=i
    ·subst e;exact yN
    ·exact hj j hj' (by omega)⟩
 ·exact absurd (fun x hx=>by
   rw[←hp2] at hx
   obtain⟨q,hq,rfl⟩:=List.mem_map.1 hx
   obtain⟨j,hj1,rfl⟩:=List.getElem_of_mem hq
   exact hj j hj1 (by omega)) hall
theorem Po(x:aV)(n:Nat)(hsz:x.sz≤1048576):aD Tryz.prog 63 [x.v] (.agg [.d (.s (qF x).bS),.d (.ol n (lx (qF x).aY (n+1)))]):=by
 unfold qF
 cases hv:validPkg x with
 |false=>
  rw[Bool.false_and,qV]
  refine aD.less (fun S=> ?_) (Dc [] n)
  refine aB (rs:=[.cell 2 78]) Tryz.checked.mixed Tryz.func63 Tryz.ntmps63 rfl rfl rfl rfl rfl ?_
  refine W1 ?_
  refine bN (uH x (by omega)) ?_
  simp -implicitDefEqProofs (disch:=omega) only[go_sem,hv]
 |true=>
  rw[Bool.true_and]
  cases ha:(fH x).all gU with
  |true=>exact Yg x n hv hsz (List.all_eq_true.1 ha)
  |false=>
   rw[qV]
   refine aD.less (Yi x n hv hsz fun h=> ?_) (Dc [] n)
   rw[List.all_eq_true.2 h] at ha
   cases ha
set_option maxHeartbeats 4000000 in
theorem Yj(p:aV)(hv:validPkg p=true)(hsz:p.sz≤1048576)(hall:∀x∈fH p,gU x=true):aD Tryz.prog 57 [p.v] ((oZ (wO p)).v):=fun S=>by
 have hdz:=aV.sum p
 rw[dA] at hdz
 obtain⟨v1,v2,v3,v4,v5⟩:=nA hv
 obtain⟨hz,hzp⟩:=G7 hv
 obtain⟨PL,tH⟩:∃PL:List aj,PL=dU p++lH p:=⟨_,rfl⟩
 obtain⟨T,hT⟩:∃T:Nat→List (List D),T=fun i=>(PL.take i).map aj.enc:=⟨_,rfl⟩
 have G8:T 3=[[.s I5,.sl []],[.s p.fName,.sl []],[.s [],.sl ((aT p.dY).map aj.enc)]]:=by
  rw[hT,tH];simp only[dU,List.cons_append,List.nil_append,List.take_succ_cons,List.take_zero,List.map_cons,List.map_nil,dX,iq]
 have hlp:=GZ p
 rw[←tH] at hlp
 have fM:∀i,(T i).length≤i:=fun i=>by
  rw[hT];simp only[List.length_map]
  exact List.length_take_le i _
 have hTs:∀(i:Nat) (x:aj),PL[i]? =some x→T i++[[.s x.bS,.sl (x.aY.map aj.enc)]]=T (i+1):=fun i x hx=>by
  obtain⟨hi,hg⟩:=List.getElem?_eq_some_iff.1 hx
  have:=gQ (base:=[]) (l:=PL) hi
  rw[hg] at this
  rw[hT];exact this
 have hTr:∀i,∀r∈T i,r.length=2:=fun i=>by rw[hT];exact jg
 have g1:=fun i hi=>J4 (p:=p) (i:=i) hi
 have g2:=fun i hi=>J5 (p:=p) (i:=i) hi
 have g3:=fun i hi=>G6 (p:=p) (i:=i) hi
 have g4:=fun i hi=>J6 (p:=p) (i:=i) hi
 rw[←tH] at g1 g2 g3 g4
 have hTe:T (3+p.aK.length+p.ak.length+p.aJ.length+p.aM.length)=PL.map aj.enc:=by
  rw[hT];simp only
  rw[List.take_of_length_le (by omega)]
 clear hT
 refine aB (rs:=[.cell 2 78]) Tryz.checked.mixed Tryz.func57 Tryz.ntmps57 rfl rfl rfl rfl rfl ?_
 refine W1 ?_
 refine bN (uI p (by omega)) ?_
 simp -implicitDefEqProofs (disch:=omega) only[go_sem,hv]
 refine C1 (bJ _) ?_
 refine C1 (bJ _) ?_
 refine C1 (dG p.dY (by omega)) ?_
 have hE:=fun bM Ω=>iJ (T 3) (hTr 3) (by have:=fM 3;omega) bM Ω
 simp only[G8] at hE
 refine kN [false] rfl (hE _ _) ?_
 refine W1 ?_
 refine aQ (ι:=Nat) Tryz.checked.mixed rfl [1,2,3,4] (fun i=>[.c (.ptr (0,0) 0),.c (.ptr (0,1) 0),.c (.ptr (0,4) 0),.c (.d (.i .i64 i))])
  (fun i=>[.box [.d (.s p.fName),.d (.sl (p.dY.map encS)),.d (.sl (p.aK.map bg.enc)),.d (.sl (p.ak.map aN.enc)),.d (.sl (p.aJ.map aP.enc)),.d (.sl (p.aM.map aR.enc))],.box [.d (.s []),.bC []],.box [.d (.s []),.bH (0,3) (T 3)],.tok 2 (T (3+i)),.box [.d (.s []),.bH (0,3) (T (3+i))]]::S)
  (fun i=>i≤p.aK.length) (fun i=>p.aK.length-i) 0 rfl (by simp only[G8]<;>(try rfl)) (Nat.zero_le _) ?_
 intro i hi
 have hl:=fM (3+i)
 refine W1 ?_
 refine S0 (fun hb h=>?_) fun hb h=>?_
 ·have hi':i<p.aK.length:=by omega
  have hm:=List.getElem_mem hi'
  have hcz:=bD (List.mem_map_of_mem (f:=bg.enc) hm)
  have sH:p.aK[i].sz≤aI (p.aK.map bg.enc):=hcz
  have hs:=hTs _ _ (g1 i hi')
  have hc:aD Tryz.prog 130 [p.aK[i].v] (.agg [.d (.s (rY p.aK[i]).bS),.d (.sl ((rY p.aK[i]).aY.map aj.enc))]):=JW p.aK[i] (by omega)
  refine W3 ?_
  refine bN hc ?_
  refine W1 ?_
  refine W3 ?_
  rw[hs]
  exact cu 5 (by decide) (i+1) (by omega) rfl rfl rfl rfl (by omega)
 have hi':i=p.aK.length:=by omega
 subst hi'
 clear hi hl h
 refine aQ (ι:=Nat) Tryz.checked.mixed rfl [1,2,3,5] (fun i=>[.c (.ptr (0,0) 0),.c (.ptr (0,1) 0),.c (.ptr (0,4) 0),.c (.d (.i .i64 i))])
  (fun i=>[.box [.d (.s p.fName),.d (.sl (p.dY.map encS)),.d (.sl (p.aK.map bg.enc)),.d (.sl (p.ak.map aN.enc)),.d (.sl (p.aJ.map aP.enc)),.d (.sl (p.aM.map aR.enc))],.box [.d (.s []),.bC []],.box [.d (.s []),.bH (0,3) (T 3)],.tok 2 (T (3+p.aK.length+i)),.box [.d (.s []),.bH (0,3) (T (3+p.aK.length+i))]]::S)
  (fun i=>i≤p.ak.length) (fun i=>p.ak.length-i) 0 rfl rfl (Nat.zero_le _) ?_
 intro i hi
 have hl:=fM (3+p.aK.length+i)
 refine W1 ?_
 refine S0 (fun hb h=>?_) fun hb h=>?_
 ·have hi':i<p.ak.length:=by omega
  have hm:=List.getElem_mem hi'
  have hcz:=bD (List.mem_map_of_mem (f:=aN.enc) hm)
  have sH:p.ak[i].sz≤aI (p.ak.map aN.enc):=hcz
  have hs:=hTs _ _ (g2 i hi')
  have hc:aD Tryz.prog 131 [p.ak[i].v] (.agg [.d (.s (za p.ak[i]).bS),.d (.sl ((za p.ak[i]).aY.map aj.enc))]):=DZ p.ak[i] (by omega)
  refine W3 ?_
  refine bN hc ?_
  refine W1 ?_
  refine W3 ?_
  rw[hs]
  exact cu 5 (by decide) (i+1) (by omega) rfl rfl rfl rfl (by omega)
 have hi':i=p.ak.length:=by omega
 subst hi'
 clear hi hl h
 refine aQ (ι:=Nat) Tryz.checked.mixed rfl [1,2,3,6] (fun i=>[.c (.ptr (0,0) 0),.c (.ptr (0,1) 0),.c (.ptr (0,4) 0),.c (.d (.i .i64 i))])
  (fun i=>[.box [.d (.s p.fName),.d (.sl (p.dY.map encS)),.d (.sl (p.aK.map bg.enc)),.d (.sl (p.ak.map aN.enc)),.d (.sl (p.aJ.map aP.enc)),.d (.sl (p.aM.map aR.enc))],.box [.d (.s []),.bC []],.box [.d (.s []),.bH (0,3) (T 3)],.tok 2 (T (3+p.aK.length+p.ak.length+i)),.box [.d (.s []),.bH (0,3) (T (3+p.aK.length+p.ak.length+i))]]::S)
  (fun i=>i≤p.aJ.length) (fun i=>p.aJ.length-i) 0 rfl rfl (Nat.zero_le _) ?_
 intro i hi
 have hl:=fM (3+p.aK.length+p.ak.length+i)
 refine W1 ?_
 refine S0 (fun hb h=>?_) fun hb h=>?_
 ·have hi':i<p.aJ.length:=by omega
  have hm:=List.getElem_mem hi'
  have hcz:=bD (List.mem_map_of_mem (f:=aP.enc) hm)
  have sH:p.aJ[i].sz≤aI (p.aJ.map aP.enc):=hcz
  have hs:=hTs _ _ (g3 i hi')
  have hc:aD Tryz.prog 132 [p.aJ[i].v] (.agg [.d (.s (zh p.aJ[i]).bS),.d (.sl ((zh p.aJ[i]).aY.map aj.enc))]):=NH p.aJ[i] (by omega)
  refine W3 ?_
  refine bN hc ?_
  refine W1 ?_
  refine W3 ?_
  rw[hs]
  exact cu 5 (by decide) (i+1) (by omega) rfl rfl rfl rfl (by omega)
 have hi':i=p.aJ.length:=by omega
 subst hi'
 clear hi hl h
 refine aQ (ι:=Nat) Tryz.checked.mixed rfl [1,2,3,7] (fun i=>[.c (.ptr (0,0) 0),.c (.ptr (0,1) 0),.c (.ptr (0,4) 0),.c (.d (.i .i64 i))])
  (fun i=>[.box [.d (.s p.fName),.d (.sl (p.dY.map encS)),.d (.sl (p.aK.map bg.enc)),.d (.sl (p.ak.map aN.enc)),.d (.sl (p.aJ.map aP.enc)),.d (.sl (p.aM.map aR.enc))],.box [.d (.s []),.bC []],.box [.d (.s []),.bH (0,3) (T 3)],.tok 2 (T (3+p.aK.length+p.ak.length+p.aJ.length+i)),.box [.d (.s []),.bH (0,3) (T (3+p.aK.length+p.ak.length+p.aJ.length+i))]]::S)
  (fun i=>i≤p.aM.length) (fun i=>p.aM.length-i) 0 rfl rfl (Nat.zero_le _) ?_
 intro i hi
 have hl:=fM (3+p.aK.length+p.ak.length+p.aJ.length+i)
 refine W1 ?_
 refine S0 (fun hb h=>?_) fun hb h=>?_
 ·have hi':i<p.aM.length:=by omega
  have hm:=List.getElem_mem hi'
  have hcz:=bD (List.mem_map_of_mem (f:=aR.enc) hm)
  have sH:p.aM[i].sz≤aI (p.aM.map aR.enc):=hcz
  have hs:=hTs _ _ (g4 i hi')
  have hc:aD Tryz.prog 133 [p.aM[i].v] (.agg [.d (.s (AV p.aM[i]).bS),.d (.sl ((AV p.aM[i]).aY.map aj.enc))]):=JV p.aM[i] (by omega)
  refine W3 ?_
  refine bN hc ?_
  refine W1 ?_
  refine W3 ?_
  rw[hs]
  exact cu 5 (by decide) (i+1) (by omega) rfl rfl rfl rfl (by omega)
 have hi':i=p.aM.length:=by omega
 subst hi'
 clear hi hl h
 have hps:=J7 hv
 have hq:∀j,PL[3+j]? =(lH p)[j]? :=fun j=>by
  rw[tH,List.getElem?_append_right (by simp[dU])]
  congr 1
  simp[dU]
 have hSP:lH p=fH p:=by
  rw[hps]
  exact(List.map_congr_left fun x hx=>by show oZ x=x;rw[oZ,if_pos (hall x hx)]).trans (List.map_id _)
 have hPP:PL.map aj.enc=(wO p).aY.map aj.enc:=by rw[tH,hSP];rfl
 have hok:∀j (hj:3+j<PL.length),PL[3+j].aY≠[]:=fun j hj=>by
  have h1:=(hq j).symm.trans (List.getElem?_eq_getElem hj)
  exact Vx (p:=p) _ (by rw[←hSP];exact List.mem_of_getElem? h1)
 rw[hTe]
 refine aQ (ι:=Nat) Tryz.checked.mixed rfl [2,3,8] (fun i=>[.c (.ptr (0,1) 0),.c (.ptr (0,4) 0),.c (.d (.i .i64 ((3+i:Nat):Int)))])
  (fun i=>[.box [.d (.s p.fName),.d (.sl (p.dY.map encS)),.d (.sl (p.aK.map bg.enc)),.d (.sl (p.ak.map aN.enc)),.d (.sl (p.aJ.map aP.enc)),.d (.sl (p.aM.map aR.enc))],.box [.d (.s []),.bC []],.box [.d (.s []),.bH (0,3) (T 3)],.tok 2 (PL.map aj.enc),.box [.d (.s []),.bH (0,3) (PL.map aj.enc)]]::S)
  (fun i=>3+i≤PL.length∧∀j (hj:3+j<PL.length),j<i→PL[3+j].aY≠[]) (fun i=>PL.length-i) 0 rfl rfl ⟨by omega,fun j hj h=>by omega⟩ ?_
 rintro i ⟨hi,hj⟩
 refine W1 ?_
 refine S0 (fun hb h=>?_) fun hb h=>?_
 ·have hi':3+i<PL.length:=by omega
  have hne:=hok i hi'
  refine S0 (fun hb h=>?_) fun hb h=>?_
  ·exact absurd (List.eq_nil_of_length_eq_zero (by omega)) hne
  ·exact bF (i+1) (by omega) rfl rfl ⟨by omega,fun j hj' hlt=>hok j hj'⟩
 ·rw[hPP]
  refine C1 (ni true (wO p) (by omega)) ?_
  rfl
set_option maxHeartbeats 4000000 in
theorem Yk(p:aV)(hv:validPkg p=true)(hsz:p.sz≤1048576)(hall:¬∀x∈fH p,gU x=true):aD Tryz.prog 57 [p.v] (.agg [.d (.s []),.bC []]):=fun S=>by
 have hdz:=aV.sum p
 rw[dA] at hdz
 obtain⟨v1,v2,v3,v4,v5⟩:=nA hv
 obtain⟨hz,hzp⟩:=G7 hv
 obtain⟨PL,tH⟩:∃PL:List aj,PL=dU p++lH p:=⟨_,rfl⟩
 obtain⟨T,hT⟩:∃T:Nat→List (List D),T=fun i=>(PL.take i).map aj.enc:=⟨_,rfl⟩
 have G8:T 3=[[.s I5,.sl []],[.s p.fName,.sl []],[.s [],.sl ((aT p.dY).map aj.enc)]]:=by
  rw[hT,tH];simp only[dU,List.cons_append,List.nil_append,List.take_succ_cons,List.take_zero,List.map_cons,List.map_nil,dX,iq]
 have hlp:=GZ p
 rw[←tH] at hlp
 have fM:∀i,(T i).length≤i:=fun i=>by
  rw[hT];simp only[List.length_map]
  exact List.length_take_le i _
 have hTs:∀(i:Nat) (x:aj),PL[i]? =some x→T i++[[.s x.bS,.sl (x.aY.map aj.enc)]]=T (i+1):=fun i x hx=>by
  obtain⟨hi,hg⟩:=List.getElem?_eq_some_iff.1 hx
  have:=gQ (base:=[]) (l:=PL) hi
  rw[hg] at this
  rw[hT];exact this
 have hTr:∀i,∀r∈T i,r.length=2:=fun i=>by rw[hT];exact jg
 have g1:=fun i hi=>J4 (p:=p) (i:=i) hi
 have g2:=fun i hi=>J5 (p:=p) (i:=i) hi
 have g3:=fun i hi=>G6 (p:=p) (i:=i) hi
 have g4:=fun i hi=>J6 (p:=p) (i:=i) hi
 rw[←tH] at g1 g2 g3 g4
 have hTe:T (3+p.aK.length+p.ak.length+p.aJ.length+p.aM.length)=PL.map aj.enc:=by
  rw[hT];simp only
  rw[List.take_of_length_le (by omega)]
 clear hT
 refine aB (rs:=[.cell 2 78]) Tryz.checked.mixed Tryz.func57 Tryz.ntmps57 rfl rfl rfl rfl rfl ?_
 refine W1 ?_
 refine bN (uI p (by omega)) ?_
 simp -implicitDefEqProofs (disch:=omega) only[go_sem,hv]
 refine C1 (bJ _) ?_
 refine C1 (bJ _) ?_
 refine C1 (dG p.dY (by omega)) ?_
 have hE:=fun bM Ω=>iJ (T 3) (hTr 3) (by have:=fM 3;omega) bM Ω
 simp only[G8] at hE
 refine kN [false] rfl (hE _ _) ?_
 refine W1 ?_
 refine aQ (ι:=Nat) Tryz.checked.mixed rfl [1,2,3,4] (fun i=>[.c (.ptr (0,0) 0),.c (.ptr (0,1) 0),.c (.ptr (0,4) 0),.c (.d (.i .i64 i))])
  (fun i=>[.box [.d (.s p.fName),.d (.sl (p.dY.map encS)),.d (.sl (p.aK.map bg.enc)),.d (.sl (p.ak.map aN.enc)),.d (.sl (p.aJ.map aP.enc)),.d (.sl (p.aM.map aR.enc))],.box [.d (.s []),.bC []],.box [.d (.s []),.bH (0,3) (T 3)],.tok 2 (T (3+i)),.box [.d (.s []),.bH (0,3) (T (3+i))]]::S)
  (fun i=>i≤p.aK.length) (fun i=>p.aK.length-i) 0 rfl (by simp only[G8]<;>(try rfl)) (Nat.zero_le _) ?_
 intro i hi
 have hl:=fM (3+i)
 refine W1 ?_
 refine S0 (fun hb h=>?_) fun hb h=>?_
 ·have hi':i<p.aK.length:=by omega
  have hm:=List.getElem_mem hi'
  have hcz:=bD (List.mem_map_of_mem (f:=bg.enc) hm)
  have sH:p.aK[i].sz≤aI (p.aK.map bg.enc):=hcz
  have hs:=hTs _ _ (g1 i hi')
  have hc:aD Tryz.prog 130 [p.aK[i].v] (.agg [.d (.s (rY p.aK[i]).bS),.d (.sl ((rY p.aK[i]).aY.map aj.enc))]):=JW p.aK[i] (by omega)
  refine W3 ?_
  refine bN hc ?_
  refine W1 ?_
  refine W3 ?_
  rw[hs]
  exact cu 5 (by decide) (i+1) (by omega) rfl rfl rfl rfl (by omega)
 have hi':i=p.aK.length:=by omega
 subst hi'
 clear hi hl h
 refine aQ (ι:=Nat) Tryz.checked.mixed rfl [1,2,3,5] (fun i=>[.c (.ptr (0,0) 0),.c (.ptr (0,1) 0),.c (.ptr (0,4) 0),.c (.d (.i .i64 i))])
  (fun i=>[.box [.d (.s p.fName),.d (.sl (p.dY.map encS)),.d (.sl (p.aK.map bg.enc)),.d (.sl (p.ak.map aN.enc)),.d (.sl (p.aJ.map aP.enc)),.d (.sl (p.aM.map aR.enc))],.box [.d (.s []),.bC []],.box [.d (.s []),.bH (0,3) (T 3)],.tok 2 (T (3+p.aK.length+i)),.box [.d (.s []),.bH (0,3) (T (3+p.aK.length+i))]]::S)
  (fun i=>i≤p.ak.length) (fun i=>p.ak.length-i) 0 rfl rfl (Nat.zero_le _) ?_
 intro i hi
 have hl:=fM (3+p.aK.length+i)
 refine W1 ?_
 refine S0 (fun hb h=>?_) fun hb h=>?_
 ·have hi':i<p.ak.length:=by omega
  have hm:=List.getElem_mem hi'
  have hcz:=bD (List.mem_map_of_mem (f:=aN.enc) hm)
  have sH:p.ak[i].sz≤aI (p.ak.map aN.enc):=hcz
  have hs:=hTs _ _ (g2 i hi')
  have hc:aD Tryz.prog 131 [p.ak[i].v] (.agg [.d (.s (za p.ak[i]).bS),.d (.sl ((za p.ak[i]).aY.map aj.enc))]):=DZ p.ak[i] (by omega)
  refine W3 ?_
  refine bN hc ?_
  refine W1 ?_
  refine W3 ?_
  rw[hs]
  exact cu 5 (by decide) (i+1) (by omega) rfl rfl rfl rfl (by omega)
 have hi':i=p.ak.length:=by omega
 subst hi'
 clear hi hl h
 refine aQ (ι:=Nat) Tryz.checked.mixed rfl [1,2,3,6] (fun i=>[.c (.ptr (0,0) 0),.c (.ptr (0,1) 0),.c (.ptr (0,4) 0),.c (.d (.i .i64 i))])
  (fun i=>[.box [.d (.s p.fName),.d (.sl (p.dY.map encS)),.d (.sl (p.aK.map bg.enc)),.d (.sl (p.ak.map aN.enc)),.d (.sl (p.aJ.map aP.enc)),.d (.sl (p.aM.map aR.enc))],.box [.d (.s []),.bC []],.box [.d (.s []),.bH (0,3) (T 3)],.tok 2 (T (3+p.aK.length+p.ak.length+i)),.box [.d (.s []),.bH (0,3) (T (3+p.aK.length+p.ak.length+i))]]::S)
  (fun i=>i≤p.aJ.length) (fun i=>p.aJ.length-i) 0 rfl rfl (Nat.zero_le _) ?_
 intro i hi
 have hl:=fM (3+p.aK.length+p.ak.length+i)
 refine W1 ?_
 refine S0 (fun hb h=>?_) fun hb h=>?_
 ·have hi':i<p.aJ.length:=by omega
  have hm:=List.getElem_mem hi'
  have hcz:=bD (List.mem_map_of_mem (f:=aP.enc) hm)
  have sH:p.aJ[i].sz≤aI (p.aJ.map aP.enc):=hcz
  have hs:=hTs _ _ (g3 i hi')
  have hc:aD Tryz.prog 132 [p.aJ[i].v] (.agg [.d (.s (zh p.aJ[i]).bS),.d (.sl ((zh p.aJ[i]).aY.map aj.enc))]):=NH p.aJ[i] (by omega)
  refine W3 ?_
  refine bN hc ?_
  refine W1 ?_
  refine W3 ?_
  rw[hs]
  exact cu 5 (by decide) (i+1) (by omega) rfl rfl rfl rfl (by omega)
 have hi':i=p.aJ.length:=by omega
 subst hi'
 clear hi hl h
 refine aQ (ι:=Nat) Tryz.checked.mixed rfl [1,2,3,7] (fun i=>[.c (.ptr (0,0) 0),.c (.ptr (0,1) 0),.c (.ptr (0,4) 0),.c (.d (.i .i64 i))])
  (fun i=>[.box [.d (.s p.fName),.d (.sl (p.dY.map encS)),.d (.sl (p.aK.map bg.enc)),.d (.sl (p.ak.map aN.enc)),.d (.sl (p.aJ.map aP.enc)),.d (.sl (p.aM.map aR.enc))],.box [.d (.s []),.bC []],.box [.d (.s []),.bH (0,3) (T 3)],.tok 2 (T (3+p.aK.length+p.ak.length+p.aJ.length+i)),.box [.d (.s []),.bH (0,3) (T (3+p.aK.length+p.ak.length+p.aJ.length+i))]]::S)
  (fun i=>i≤p.aM.length) (fun i=>p.aM.length-i) 0 rfl rfl (Nat.zero_le _) ?_
 intro i hi
 have hl:=fM (3+p.aK.length+p.ak.length+p.aJ.length+i)
 refine W1 ?_
 refine S0 (fun hb h=>?_) fun hb h=>?_
 ·have hi':i<p.aM.length:=by omega
  have hm:=List.getElem_mem hi'
  have hcz:=bD (List.mem_map_of_mem (f:=aR.enc) hm)
  have sH:p.aM[i].sz≤aI (p.aM.map aR.enc):=hcz
  have hs:=hTs _ _ (g4 i hi')
  have hc:aD Tryz.prog 133 [p.aM[i].v] (.agg [.d (.s (AV p.aM[i]).bS),.d (.sl ((AV p.aM[i]).aY.map aj.enc))]):=JV p.aM[i] (by omega)
  refine W3 ?_
  refine bN hc ?_
  refine W1 ?_
  refine W3 ?_
  rw[hs]
  exact cu 5 (by decide) (i+1) (by omega) rfl rfl rfl rfl (by omega)
 have hi':i=p.aM.length:=by omega
 subst hi'
 clear hi hl h
 have hps:=J7 hv
 have hq:∀j,PL[3+j]? =(lH p)[j]? :=fun j=>by
  rw[tH,List.getElem?_append_right (by simp[dU])]
  congr 1
  simp[dU]
 rw[hTe]
 refine aQ (ι:=Nat) Tryz.checked.mixed rfl [2,3,8] (fun i=>[.c (.ptr (0,1) 0),.c (.ptr (0,4) 0),.c (.d (.i .i64 ((3+i:Nat):Int)))])
  (fun i=>[.box [.d (.s p.fName),.d (.sl (p.dY.map encS)),.d (.sl (p.aK.map bg.enc)),.d (.sl (p.ak.map aN.enc)),.d (.sl (p.aJ.map aP.enc)),.d (.sl (p.aM.map aR.enc))],.box [.d (.s []),.bC []],.box [.d (.s []),.bH (0,3) (T 3)],.tok 2 (PL.map aj.enc),.box [.d (.s []),.bH (0,3) (PL.map aj.enc)]]::S)
  (fun i=>3+i≤PL.length∧∀j (hj:3+j<PL.length),j<i→PL[3+j].aY≠[]) (fun i=>PL.length-i) 0 rfl rfl ⟨by omega,fun j hj h=>by omega⟩ ?_
 rintro i ⟨hi,hj⟩
 refine W1 ?_
 refine S0 (fun hb h=>?_) fun hb h=>?_
 ·have hi':3+i<PL.length:=by omega
  refine S1 fun hb h=>?_
  exact bF (i+1) (by omega) rfl rfl ⟨by omega,fun j hj' hlt=>by
   by_cases e:j=i
   ·subst e;exact fun hn=>h (by rw[hn];rfl)
   ·exact hj j hj' (by omega)⟩
 ·exact absurd (fun x hx=>by
   have hm:oZ x∈lH p:=by rw[hps];exact List.mem_map_of_mem hx
   obtain⟨j,hj1,hj2⟩:=List.getElem_of_mem hm
   have hx2:PL[3+j]? =some (oZ x):=by rw[hq j,List.getElem?_eq_getElem hj1,hj2]
   obtain⟨hb,hg⟩:=List.getElem?_eq_some_iff.1 hx2
   have h5:=hj j hb (by omega)
   rw[hg] at h5
   cases yN:gU x with
   |true=>rfl
   |false=>exact absurd (by rw[oZ,if_neg (by rw[yN];decide)];rfl) h5) hall
theorem SX(x:aV)(hsz:x.sz≤1048576):aD Tryz.prog 57 [x.v] (qF x).v:=by
 unfold qF
 cases hv:validPkg x with
 |false=>
  rw[Bool.false_and,qV]
  refine aD.less (fun S=> ?_) (u6 [] [])
  refine aB (rs:=[.cell 2 78]) Tryz.checked.mixed Tryz.func57 Tryz.ntmps57 rfl rfl rfl rfl rfl ?_
  refine W1 ?_
  refine bN (uI x (by omega)) ?_
  simp -implicitDefEqProofs (disch:=omega) only[go_sem,hv]
 |true=>
  rw[Bool.true_and]
  cases ha:(fH x).all gU with
  |true=>exact Yj x hv hsz (List.all_eq_true.1 ha)
  |false=>
   rw[qV]
   refine aD.less (Yk x hv hsz fun h=> ?_) (u6 [] [])
   rw[List.all_eq_true.2 h] at ha
   cases ha
end Go.Proofs.YtcfhnaohbaplhaaGreatDoor
namespace Go.Ab
theorem abw{x:aj}{i:Nat}(hi:i<x.aY.length)(h:x.sz≤4194304):x.aY[i].sz≤4194304:=by
 have:=xk (List.getElem_mem hi)
 rw[rE,pU] at h
 omega
theorem abx{x:aj}(h:x.sz≤4194304):x.bS.length≤4194304∧x.aY.length≤4194304:=by
 rw[rE] at h
 omega
end Go.Ab
namespace Go.Proofs.YtcfhnaohbaplhaaGreatDoor
open Go Go.Ab
theorem wh:∀n:Nat,(∀x:aj,SizeOf.sizeOf x<n→∀y:aj,x.sz≤4194304→aD Tryz.prog 47 [x.v,y.v] (.c (.d (.b (dec (x=y))))))∧
 (∀xs:List aj,SizeOf.sizeOf xs<n→∀ys:List aj,xs.length≤4194304→(∀t∈xs,t.sz≤4194304)→aD Tryz.prog 117 [.c (.d (.sl (xs.map aj.enc))),.c (.d (.sl (ys.map aj.enc))),.c (.fn 47 [])] (.c (.d (.b (dec (xs=ys))))))
 |0=>⟨fun x h=>by omega,fun x h=>by omega⟩
 |n+1=>by
  obtain⟨ih,BM⟩:=wh n
  refine⟨fun x hn y hsz S=> ?_,fun xs hn ys hlen hsz S=> ?_⟩
  ·have afW:=aj.Ig x
   have hb:=abx hsz
   refine aB (rs:=[.tmp 4]) Tryz.checked.mixed Tryz.func47 Tryz.ntmps47 rfl rfl rfl rfl rfl ?_
   refine W1 ?_
   refine S0 (fun hb h=>?_) fun hb h=>?_
   ·have h1:=h
    refine W3 ?_
    refine bN (BM x.aY (by omega) y.aY (by omega) (fun t ht=>by
     obtain⟨i,hi,e⟩:=List.getElem_of_mem ht
     rw[←e];exact abw hi hsz)) ?_
    refine W1 ?_
    refine ay (gN ⟨fun e=>aj.ext h1 e,fun e=>by rw[e]⟩)
   ·exact ay (aC (fun e=>h (by rw[e]))).symm
  ·refine aB (rs:=[.tmp 6]) Tryz.checked.mixed Tryz.func117 Tryz.ntmps117 rfl rfl rfl rfl rfl ?_
   refine W1 ?_
   refine S0 (fun hb h=>?_) fun hb h=>?_
   ·exact ay (aC (fun e=>h (by rw[e]))).symm
   have hl:xs.length=ys.length:=by omega
   refine aQ (ι:=Nat) Tryz.checked.mixed rfl [1,2,15,16,17] (fun y=>[.c (.d (.sl (ys.map aj.enc))),.c (.fn 47 []),.c (.d (.sl (xs.map aj.enc))),.c (.d (.i .i64 xs.length)),.c (.d (.i .i64 y))]) (fun y=>[]::S)
    (fun i=>i≤xs.length∧∀j,j<i→xs[j]? =ys[j]?) (fun y=>xs.length-y) 0 rfl rfl ⟨Nat.zero_le _,fun j h=>by omega⟩ ?_
   rintro i ⟨p1,p2⟩
   refine W1 ?_
   refine S0 (fun hb h=>?_) fun hb h=>?_
   ·have hi:i<xs.length:=by omega
    have hi':i<ys.length:=by omega
    refine W3 ?_
    refine C1 (ih xs[i] (by have:=List.sizeOf_lt_of_mem (List.getElem_mem hi);omega) ys[i] (hsz _ (List.getElem_mem hi))) ?_
    refine S0 (fun hb h=>?_) fun hb h=>?_
    ·exact ay (aC (fun e=>h (by simp only[e]))).symm
    refine cu 0 (by decide) (i+1) (by omega) rfl rfl rfl rfl ⟨by omega,fun j hj=> ?_⟩
    by_cases e:j=i
    ·subst e
     rw[List.getElem?_eq_getElem hi,List.getElem?_eq_getElem hi',h]
    ·exact p2 j (by omega)
   ·have hi:i=xs.length:=by omega
    refine ay (bq (List.ext_getElem? fun j=> ?_)).symm
    by_cases hj:j<i
    ·exact p2 j hj
    ·rw[List.getElem?_eq_none (by omega),List.getElem?_eq_none (by omega)]
theorem Dv(x y:aj)(h:x.sz≤4194304):aD Tryz.prog 47 [x.v,y.v] (.c (.d (.b (dec (x=y))))):=(wh _).1 x (Nat.lt_succ_self _) y h
end Go.Proofs.YtcfhnaohbaplhaaGreatDoor
namespace Go.Ab
theorem Vy(x:aV):(qF x).bS=[]:=by
 unfold qF
 generalize (validPkg x&&(fH x).all gU)=b
 cases b
 ·rfl
 ·show(oZ (wO x)).bS=[]
  unfold oZ
  split<;>rfl
end Go.Ab
namespace Go.Proofs.YtcfhnaohbaplhaaGreatDoor
open Go Go.Ab
theorem I6(x:aV)(hsz:x.sz≤1048576):aD Tryz.prog 17 [x.v] (.c (.d (.s (xY (qF x))))):=fun S=>by
 have c1:aD Tryz.prog 63 [x.v] (qF x).v:=by
  have h2:aD Tryz.prog 63 [x.v] (.agg ((kS (qF x).enc 0).map .d)):=by
   have:=Po x 0 hsz
   first|exact this|(rw[iy];exact this)
  have:=aD.less h2 M6
  rw[aj.oq] at this
  exact this
 have hd:(qF x).sz≤1048576:=Qe (by omega)
 obtain⟨X,hX⟩:∃X,X=qF x:=⟨_,rfl⟩
 rw[←hX] at hd c1 ⊢
 clear hX
 refine aB (rs:=[.tmp 2]) Tryz.checked.mixed Tryz.func17 Tryz.ntmps17 rfl rfl rfl rfl rfl ?_
 refine W1 ?_
 refine bN c1 ?_
 refine W1 ?_
 refine nH (Dv X wV (by omega)) (.cons (by exact Less.refl _) (.cons (by exact Less.refl _) .nil)) ?_
 refine W1 ?_
 refine S0 (fun hb h=>?_) fun hb h=>?_
 ·rw[UW (by simpa using h)]
 ·refine C2 (Im X (by omega)) ?_
  rw[UY (by simpa using h)]
theorem I7(x:aV)(hsz:x.sz≤1048576):aD Tryz.prog 15 [x.v] (.c (.d (.s (xY (qF x))))):=fun S=>by
 have c1:=SX x (by omega)
 have hd:(qF x).sz≤1048576:=Qe (by omega)
 have ha:(qF x).bS=[]:=Vy x
 obtain⟨X,hX⟩:∃X,X=qF x:=⟨_,rfl⟩
 rw[←hX] at hd c1 ha ⊢
 clear hX
 refine aB (rs:=[.tmp 2]) Tryz.checked.mixed Tryz.func15 Tryz.ntmps15 rfl rfl rfl rfl rfl ?_
 refine W1 ?_
 refine bN c1 ?_
 refine W1 ?_
 refine S0 (fun hb h=>?_) fun hb h=>?_
 ·rw[aaZ ha (by omega)]
 ·refine C2 (Io X (by omega)) ?_
  rw[aaY (by omega)]
end Go.Proofs.YtcfhnaohbaplhaaGreatDoor
namespace Go.Proofs.YtcfhnaohbaplhaaGreatDoor
open Go Go.Ab
end Go.Proofs.YtcfhnaohbaplhaaGreatDoor
namespace Go.Proofs.YtcfhnaohbaplhaaGreatDoor
open Go Go.Ab
end Go.Proofs.YtcfhnaohbaplhaaGreatDoor
namespace Go.Proofs.YtcfhnaohbaplhaaGreatDoor
open Go Go.Ab
end Go.Proofs.YtcfhnaohbaplhaaGreatDoor
namespace Go.Proofs.YtcfhnaohbaplhaaGreatDoor
open Go Go.Ab
end Go.Proofs.YtcfhnaohbaplhaaGreatDoor
namespace Go.Proofs.YtcfhnaohbaplhaaGreatDoor
open Go Go.Ab
end Go.Proofs.YtcfhnaohbaplhaaGreatDoor
namespace Go.Proofs.YtcfhnaohbaplhaaGreatDoor
open Go Go.Ab
end Go.Proofs.YtcfhnaohbaplhaaGreatDoor
namespace Go.Proofs.YtcfhnaohbaplhaaGreatDoor
open Go Go.Ab
end Go.Proofs.YtcfhnaohbaplhaaGreatDoor
namespace Go.Proofs.YtcfhnaohbaplhaaGreatDoor
open Go Go.Ab
end Go.Proofs.YtcfhnaohbaplhaaGreatDoor
namespace Go.Proofs.YtcfhnaohbaplhaaGreatDoor
open Go Go.Ab
end Go.Proofs.YtcfhnaohbaplhaaGreatDoor
namespace Go.Proofs.YtcfhnaohbaplhaaGreatDoor
open Go Go.Ab
end Go.Proofs.YtcfhnaohbaplhaaGreatDoor
namespace Go.Proofs.YtcfhnaohbaplhaaGreatDoor
open Go Go.Ab
end Go.Proofs.YtcfhnaohbaplhaaGreatDoor
namespace Go.Proofs.YtcfhnaohbaplhaaGreatDoor
open Go Go.Ab
end Go.Proofs.YtcfhnaohbaplhaaGreatDoor
namespace Go.Proofs.YtcfhnaohbaplhaaGreatDoor
open Go Go.Ab
end Go.Proofs.YtcfhnaohbaplhaaGreatDoor
namespace Go.Proofs.YtcfhnaohbaplhaaGreatDoor
open Go Go.Ab
end Go.Proofs.YtcfhnaohbaplhaaGreatDoor
namespace Go.Proofs.YtcfhnaohbaplhaaGreatDoor
open Go Go.Ab
end Go.Proofs.YtcfhnaohbaplhaaGreatDoor
namespace Go.Proofs.YtcfhnaohbaplhaaGreatDoor
open Go Go.Ab
end Go.Proofs.YtcfhnaohbaplhaaGreatDoor
namespace Go.Proofs.YtcfhnaohbaplhaaGreatDoor.fnExactFormatPackage
open Go Go.Ab
theorem law(x0:aV)(f0:kP x0.enc):dF Tryz.prog 4 [x0.v] [] (fun r _=>r=.c (.d (.b true))):=by
 refine aB (rs:=[.tmp 2]) Tryz.checked.mixed Tryz.func4 Tryz.ntmps4 rfl rfl rfl rfl rfl ?_
 refine W1 ?_
 refine C2 (NJ x0 _ (by omega) (by omega) f0) ?_
 refine S1 fun hb h=>?_
 have h0:=dP h
 have c1:=I7 x0 (by omega)
 have c2:=I6 x0 (by omega)
 generalize xY (qF x0)=T at c1 c2
 refine C2 (yx x0 (by omega)) ?_
 refine bN c1 ?_
 refine W1 ?_
 refine C2 (yx x0 (by omega)) ?_
 refine bN c2 ?_
 simp -implicitDefEqProofs (disch:=omega) only[go_sem,bq rfl,Bool.not_true]
 refine C2 (yx x0 (by omega)) ?_
 refine bN (NK x0 x0 (by omega)) ?_
 simp -implicitDefEqProofs (disch:=omega) only[go_sem,bq rfl,Bool.not_true]
end Go.Proofs.YtcfhnaohbaplhaaGreatDoor.fnExactFormatPackage
namespace Go.Ab
open Go
theorem KL{H:Type}{enc:TypeId×Value→H}{P:Program}{w:World}{base:Nat}{sp:Nat→Bool}{held:Bool}{fuel n:Nat}{t e:TypeId}{k:IntKind}{cs:List Value}{ns:List Int}{p:List MemPlace}
 (ht:P.underlying t=some (.array n e)) (he:P.underlying e=some (.int k)) (ce:P.cellsOf e=1) (ct:P.cellsOf t=n)
 (h:DataW.trod enc P w base sp held fuel t cs=some (.agg (ns.map fun z=>.lit (.int k z)),p)):cs=ns.map (Value.int k ·):=by
 obtain⟨xs,m,_,ex,hlen,hl,hel⟩:=DataW.trod_array ht h
 rw[ct] at hlen
 have e3:=DataW.agg.inj (Prod.mk.inj ex).1
 have hns:ns.length=n:=by have:=congrArg List.length e3;simpa [hl] using this
 refine List.ext_getElem (by rw[hlen,List.length_map,hns]) fun i h1 h2=> ?_
 have k0:=hel i (by omega)
 rw[ce,Nat.mul_one] at k0
 have hd:(cs.drop i).take 1=[cs[i]]:=by
  rw[List.drop_eq_getElem_cons h1];rfl
 rw[hd,List.getElem?_eq_getElem (by omega)] at k0
 obtain⟨z,a,b,_⟩:=DataW.trod_int he k0
 have e4:(ns.map fun z=>(DataW.lit (Lit.int k z):DataW H))[i]'(by rw[List.length_map];omega)=(xs.map (·.1))[i]'(by rw[List.length_map];omega):=by simp only[e3]
 rw[List.getElem_map,List.getElem_map,b] at e4
 simp only[DataW.lit.injEq,Lit.int.injEq,true_and] at e4
 rw[List.getElem_map,e4]
 simpa using a
theorem Vz{P:Program}{w:World}{n:String}{g:Nat}{cs:Array Value}(hg:P.globalNamed n=some g)(h:w.var? P n=some cs):∃t fz,w.heap[g]? =some (.cells cs t fz):=by
 unfold World.var? at h
 rw[hg] at h
 simp only[Option.bind_some] at h
 split at h
 ·rename_i c t fz hh
  cases h
  exact⟨t,fz,hh⟩
 ·cases h
end Go.Ab
namespace Go.Proofs.YtcfhnaohbaplhaaGreatDoor
open Go Go.Ab
theorem NN{W:World}{r:List (String×DataW Unit)}(hr:(r.all fun x=>x.2.handleName?.isNone)=true)
 (h:laidMetH Tryz.prog (("math/bits.deBruijn32tab",Rows.laid_math_bits_deBruijn32tab)::("math/bits.deBruijn64tab",Rows.laid_math_bits_deBruijn64tab)::("internal/strconv.uint64pow10",Rows.laid_internal_strconv_uint64pow10)::r) W):rZ W (jR W):=by
 rw[MakeChecks.laidMetH_plain _ _ _ (by
  rw[List.all_cons,List.all_cons,List.all_cons,hr];kernel_rfl)] at h
 obtain⟨ps,⟨_,_,_,_,_,_,_,_,_,_,⟨_,_,_,_,_,_,_,_,_,_,⟨g,t,cs,fuel,p,q,hg,ht,hv,hd,_,_⟩,_⟩,_⟩,_,_⟩:=h
 have hn:Tryz.prog.globalNamed "internal/strconv.uint64pow10" =some 1:=by kernel_rfl
 obtain rfl:=Option.some.inj (hn.symm.trans hg)
 obtain rfl:=Option.some.inj ((show(Tryz.prog.globals[1]?).map (·.type)=some 396 by kernel_rfl).symm.trans ht)
 have hl:(Rows.laid_internal_strconv_uint64pow10:DataW Unit)=.agg (((List.range 20).map fun i=>((10^i:Nat):Int)).map fun z=>.lit (.int .u64 z)):=by kernel_rfl
 rw[hl] at hd
 have e:=KL Tryz.underlying396 Tryz.underlying380 (by kernel_rfl) (by kernel_rfl) hd
 obtain⟨t',fz,hh⟩:=Vz hg hv
 intro g' p' hm
 have hm':=List.eq_of_mem_singleton hm
 cases hm'
 refine⟨cs,t',fz,hh,?_,?_⟩
 ·show cs.toList=_
  rw[e,List.map_map];rfl
 ·unfold jR;rw[hh]
  exact Nat.le_refl _
end Go.Proofs.YtcfhnaohbaplhaaGreatDoor
namespace Go.Ab
theorem CJ{P:Program}{n:Nat}{t:TypeId}{ds:List D}(h:WT P n t ds):∃m,n=m+1:=by
 cases n with
 |zero=>exact h.elim
 |succ m=>exact⟨m,rfl⟩
theorem zO{P:Program}{n:Nat}{t:TypeId}{ds:List D}(ht:P.underlying t=some .bool)(h:WT P n t ds):∃b,ds=[.b b]:=by
 obtain⟨m,rfl⟩:=CJ h
 simp only[WT,ht] at h;exact h
theorem NP{P:Program}{n:Nat}{t:TypeId}{k:IntKind}{ds:List D}(ht:P.underlying t=some (.int k))(h:WT P n t ds):∃x,ds=[.i k x]∧(Lit.int k x).wf=true:=by
 obtain⟨m,rfl⟩:=CJ h
 simp only[WT,ht] at h;exact h
theorem fT{P:Program}{n:Nat}{t:TypeId}{ds:List D}(ht:P.underlying t=some .string)(h:WT P n t ds):∃l,ds=[.s l]:=by
 obtain⟨m,rfl⟩:=CJ h
 simp only[WT,ht] at h;exact⟨h.choose,h.choose_spec.1⟩
theorem gH{P:Program}{n:Nat}{t e:TypeId}{ds:List D}(ht:P.underlying t=some (.slice e))(h:WT P n t ds):∃es m,m<n∧ds=[.sl es]∧∀x∈es,WT P m e x:=by
 obtain⟨m,rfl⟩:=CJ h
 simp only[WT,ht] at h
 obtain⟨es,h1,_,h2⟩:=h
 exact⟨es,m,by omega,h1,fun x hx=>(h2 x hx).2⟩
theorem kE{P:Program}{n:Nat}{t:TypeId}{fs:Array Field}{ds:List D}(ht:P.underlying t=some (.struct fs))(h:WT P n t ds):∃m,m<n∧uJ P (WT P m) fs.toList ds:=by
 obtain⟨m,rfl⟩:=CJ h
 simp only[WT,ht] at h
 exact⟨m,by omega,h⟩
theorem gD{α:Type}{enc:α→List D}:∀{es:List (List D)},(∀x∈es,∃m,x=enc m)→∃ms:List α,es=ms.map enc
 |[],_=>⟨[],rfl⟩
 |e::es,h=>by
  obtain⟨m,hm⟩:=h e (by simp)
  obtain⟨ms,hms⟩:=gD (es:=es) fun x hx=>h x (by simp[hx])
  exact⟨m::ms,by rw[List.map_cons,←hm,←hms]⟩
theorem Qf{P:Program}{W:TypeId→List D→Prop}(hW:∀t ds,W t ds→kP ds):∀(fs:List Field) (ds:List D),uJ P W fs ds→kP ds
 |[],ds,h=>by
  have h:ds=[]:=h
  rw[h];exact uV
 |f::fs,ds,h=>by
  obtain⟨a,b,rfl,_,h1,h2⟩:=h
  exact iK.2 ⟨hW _ _ h1,Qf hW fs b h2⟩
theorem NQ{P:Program}:∀(n:Nat) (t:TypeId) (ds:List D),WT P n t ds→kP ds
 |0,t,ds,h=>h.elim
 |n+1,t,ds,h=>by
  simp only[WT] at h
  split at h
  ·obtain⟨b,rfl⟩:=h;exact iM.2 ⟨.b _,uV⟩
  ·obtain⟨b,rfl,_⟩:=h;exact iM.2 ⟨.i _ _,uV⟩
  ·obtain⟨l,rfl,hl⟩:=h;exact iM.2 ⟨.s _ hl,uV⟩
  ·obtain⟨es,rfl,hl,hh⟩:=h
   exact iM.2 ⟨.sl _ hl fun e he d hd=>NQ n _ e (hh e he).2 d hd,uV⟩
  ·exact Qf (NQ n) _ _ h
  ·exact h.elim
end Go.Ab
namespace Go.Proofs.YtcfhnaohbaplhaaGreatDoor
open Go Go.Ab
theorem rH:∀(n:Nat) (ds:List D),WT Tryz.prog n 24 ds→∃x:ah,ds=x.enc:=by
 intro n
 induction n using Nat.strongRecOn with
 |_ n ih=>
  intro ds h
  obtain⟨m,hm,h⟩:=kE Tryz.underlying24 h
  simp only[uJ] at h
  obtain⟨a0,r0,rfl,l0,h0,a1,r1,rfl,l1,h1,a2,r2,rfl,l2,h2,rfl⟩:=h
  obtain⟨x0,rfl,_⟩:=NP Tryz.underlying3 h0
  obtain⟨x1,rfl⟩:=fT Tryz.underlying9 h1
  obtain⟨es2,m2,hm2,rfl,hs2⟩:=gH Tryz.underlying22 h2
  obtain⟨x2,rfl⟩:=gD (enc:=ah.enc) fun y hy=>ih m2 (by omega) y (hs2 y hy)
  refine⟨ah.mk x0 x1 x2,?_⟩
  rw[ah.aH]
  simp[ah.aU,ah.fName,ah.fArgs]
theorem NR:∀(n:Nat) (ds:List D),WT Tryz.prog n 323 ds→∃x:bA,ds=x.enc:=by
 intro n
 induction n using Nat.strongRecOn with
 |_ n ih=>
  intro ds h
  obtain⟨m,hm,h⟩:=kE Tryz.underlying323 h
  simp only[uJ] at h
  obtain⟨a0,r0,rfl,l0,h0,a1,r1,rfl,l1,h1,rfl⟩:=h
  obtain⟨x0,rfl⟩:=fT Tryz.underlying9 h0
  obtain⟨x1,rfl⟩:=rH m a1 h1
  refine⟨bA.mk x0 x1,?_⟩
  rw[bA.aH]
  simp
theorem SY:∀(n:Nat),(∀ds:List D,WT Tryz.prog n 28 ds→∃x:au,ds=x.enc)∧(∀ds:List D,WT Tryz.prog n 145 ds→∃x:aX,ds=x.enc):=by
 intro n
 induction n using Nat.strongRecOn with
 |_ n ih=>
  refine⟨fun ds h=> ?_,fun ds h=> ?_⟩
  ·obtain⟨m,hm,h⟩:=kE Tryz.underlying28 h
   simp only[uJ] at h
   obtain⟨a0,r0,rfl,l0,h0,a1,r1,rfl,l1,h1,a2,r2,rfl,l2,h2,a3,r3,rfl,l3,h3,a4,r4,rfl,l4,h4,a5,r5,rfl,l5,h5,a6,r6,rfl,l6,h6,rfl⟩:=h
   obtain⟨x0,rfl,_⟩:=NP Tryz.underlying3 h0
   obtain⟨x1,rfl⟩:=fT Tryz.underlying9 h1
   obtain⟨x2,rfl⟩:=fT Tryz.underlying9 h2
   obtain⟨x3,rfl,_⟩:=NP Tryz.underlying3 h3
   obtain⟨x4,rfl⟩:=rH m a4 h4
   obtain⟨es5,m5,hm5,rfl,hs5⟩:=gH Tryz.underlying25 h5
   obtain⟨x5,rfl⟩:=gD (enc:=au.enc) fun y hy=>(ih m5 (by omega)).1 y (hs5 y hy)
   obtain⟨es6,m6,hm6,rfl,hs6⟩:=gH Tryz.underlying26 h6
   obtain⟨x6,rfl⟩:=gD (enc:=aX.enc) fun y hy=>(ih m6 (by omega)).2 y (hs6 y hy)
   refine⟨au.mk x0 x1 x2 x3 x4 x5 x6,?_⟩
   rw[au.aH]
   simp[au.aU,au.bI,au.fName,au.fN,au.fType,au.fArgs,au.aW]
  ·obtain⟨m,hm,h⟩:=kE Tryz.underlying145 h
   simp only[uJ] at h
   obtain⟨a0,r0,rfl,l0,h0,a1,r1,rfl,l1,h1,a2,r2,rfl,l2,h2,rfl⟩:=h
   obtain⟨x0,rfl⟩:=fT Tryz.underlying9 h0
   obtain⟨es1,m1,hm1,rfl,hs1⟩:=gH Tryz.underlying41 h1
   obtain⟨x1,rfl⟩:=gD (enc:=encS) fun y hy=>fT Tryz.underlying9 (hs1 y hy)
   obtain⟨x2,rfl⟩:=(ih m (by omega)).1 a2 h2
   refine⟨aX.mk x0 x1 x2,?_⟩
   rw[aX.aH]
   simp[aX.dw,aX.aF,aX.fBody]
theorem I8(n:Nat)(ds:List D)(h:WT Tryz.prog n 28 ds):∃x:au,ds=x.enc:=(SY n).1 ds h
theorem NS:∀(n:Nat) (ds:List D),WT Tryz.prog n 317 ds→∃x:aS,ds=x.enc:=by
 intro n
 induction n using Nat.strongRecOn with
 |_ n ih=>
  intro ds h
  obtain⟨m,hm,h⟩:=kE Tryz.underlying317 h
  simp only[uJ] at h
  obtain⟨a0,r0,rfl,l0,h0,a1,r1,rfl,l1,h1,a2,r2,rfl,l2,h2,a3,r3,rfl,l3,h3,a4,r4,rfl,l4,h4,a5,r5,rfl,l5,h5,rfl⟩:=h
  obtain⟨x0,rfl⟩:=fT Tryz.underlying9 h0
  obtain⟨es1,m1,hm1,rfl,hs1⟩:=gH Tryz.underlying22 h1
  obtain⟨x1,rfl⟩:=gD (enc:=ah.enc) fun y hy=>rH m1 y (hs1 y hy)
  obtain⟨x2,rfl⟩:=rH m a2 h2
  obtain⟨x3,rfl⟩:=zO Tryz.underlying4 h3
  obtain⟨es4,m4,hm4,rfl,hs4⟩:=gH Tryz.underlying41 h4
  obtain⟨x4,rfl⟩:=gD (enc:=encS) fun y hy=>fT Tryz.underlying9 (hs4 y hy)
  obtain⟨x5,rfl⟩:=I8 m a5 h5
  refine⟨aS.mk x0 x1 x2 x3 x4 x5,?_⟩
  rw[aS.aH]
  simp
theorem Yl:∀(n:Nat) (ds:List D),WT Tryz.prog n 164 ds→∃x:bg,ds=x.enc:=by
 intro n
 induction n using Nat.strongRecOn with
 |_ n ih=>
  intro ds h
  obtain⟨m,hm,h⟩:=kE Tryz.underlying164 h
  simp only[uJ] at h
  obtain⟨a0,r0,rfl,l0,h0,a1,r1,rfl,l1,h1,a2,r2,rfl,l2,h2,a3,r3,rfl,l3,h3,a4,r4,rfl,l4,h4,rfl⟩:=h
  obtain⟨x0,rfl⟩:=fT Tryz.underlying9 h0
  obtain⟨es1,m1,hm1,rfl,hs1⟩:=gH Tryz.underlying41 h1
  obtain⟨x1,rfl⟩:=gD (enc:=encS) fun y hy=>fT Tryz.underlying9 (hs1 y hy)
  obtain⟨x2,rfl⟩:=zO Tryz.underlying4 h2
  obtain⟨x3,rfl⟩:=zO Tryz.underlying4 h3
  obtain⟨es4,m4,hm4,rfl,hs4⟩:=gH Tryz.underlying162 h4
  obtain⟨x4,rfl⟩:=gD (enc:=aS.enc) fun y hy=>NS m4 y (hs4 y hy)
  refine⟨bg.mk x0 x1 x2 x3 x4,?_⟩
  rw[bg.aH]
  simp
theorem I9:∀(n:Nat) (ds:List D),WT Tryz.prog n 320 ds→∃x:aO,ds=x.enc:=by
 intro n
 induction n using Nat.strongRecOn with
 |_ n ih=>
  intro ds h
  obtain⟨m,hm,h⟩:=kE Tryz.underlying320 h
  simp only[uJ] at h
  obtain⟨a0,r0,rfl,l0,h0,a1,r1,rfl,l1,h1,rfl⟩:=h
  obtain⟨x0,rfl⟩:=fT Tryz.underlying9 h0
  obtain⟨es1,m1,hm1,rfl,hs1⟩:=gH Tryz.underlying22 h1
  obtain⟨x1,rfl⟩:=gD (enc:=ah.enc) fun y hy=>rH m1 y (hs1 y hy)
  refine⟨aO.mk x0 x1,?_⟩
  rw[aO.aH]
  simp
theorem Pp:∀(n:Nat) (ds:List D),WT Tryz.prog n 168 ds→∃x:aN,ds=x.enc:=by
 intro n
 induction n using Nat.strongRecOn with
 |_ n ih=>
  intro ds h
  obtain⟨m,hm,h⟩:=kE Tryz.underlying168 h
  simp only[uJ] at h
  obtain⟨a0,r0,rfl,l0,h0,a1,r1,rfl,l1,h1,a2,r2,rfl,l2,h2,rfl⟩:=h
  obtain⟨x0,rfl⟩:=fT Tryz.underlying9 h0
  obtain⟨es1,m1,hm1,rfl,hs1⟩:=gH Tryz.underlying41 h1
  obtain⟨x1,rfl⟩:=gD (enc:=encS) fun y hy=>fT Tryz.underlying9 (hs1 y hy)
  obtain⟨es2,m2,hm2,rfl,hs2⟩:=gH Tryz.underlying166 h2
  obtain⟨x2,rfl⟩:=gD (enc:=aO.enc) fun y hy=>I9 m2 y (hs2 y hy)
  refine⟨aN.mk x0 x1 x2,?_⟩
  rw[aN.aH]
  simp
theorem VA:∀(n:Nat) (ds:List D),WT Tryz.prog n 326 ds→∃x:bB,ds=x.enc:=by
 intro n
 induction n using Nat.strongRecOn with
 |_ n ih=>
  intro ds h
  obtain⟨m,hm,h⟩:=kE Tryz.underlying326 h
  simp only[uJ] at h
  obtain⟨a0,r0,rfl,l0,h0,a1,r1,rfl,l1,h1,a2,r2,rfl,l2,h2,rfl⟩:=h
  obtain⟨x0,rfl⟩:=fT Tryz.underlying9 h0
  obtain⟨es1,m1,hm1,rfl,hs1⟩:=gH Tryz.underlying41 h1
  obtain⟨x1,rfl⟩:=gD (enc:=encS) fun y hy=>fT Tryz.underlying9 (hs1 y hy)
  obtain⟨x2,rfl⟩:=I8 m a2 h2
  refine⟨bB.mk x0 x1 x2,?_⟩
  rw[bB.aH]
  simp
theorem Pq:∀(n:Nat) (ds:List D),WT Tryz.prog n 173 ds→∃x:aP,ds=x.enc:=by
 intro n
 induction n using Nat.strongRecOn with
 |_ n ih=>
  intro ds h
  obtain⟨m,hm,h⟩:=kE Tryz.underlying173 h
  simp only[uJ] at h
  obtain⟨a0,r0,rfl,l0,h0,a1,r1,rfl,l1,h1,a2,r2,rfl,l2,h2,a3,r3,rfl,l3,h3,a4,r4,rfl,l4,h4,a5,r5,rfl,l5,h5,a6,r6,rfl,l6,h6,a7,r7,rfl,l7,h7,rfl⟩:=h
  obtain⟨x0,rfl⟩:=fT Tryz.underlying9 h0
  obtain⟨es1,m1,hm1,rfl,hs1⟩:=gH Tryz.underlying41 h1
  obtain⟨x1,rfl⟩:=gD (enc:=encS) fun y hy=>fT Tryz.underlying9 (hs1 y hy)
  obtain⟨x2,rfl⟩:=rH m a2 h2
  obtain⟨es3,m3,hm3,rfl,hs3⟩:=gH Tryz.underlying170 h3
  obtain⟨x3,rfl⟩:=gD (enc:=bA.enc) fun y hy=>NR m3 y (hs3 y hy)
  obtain⟨x4,rfl⟩:=zO Tryz.underlying4 h4
  obtain⟨x5,rfl⟩:=zO Tryz.underlying4 h5
  obtain⟨x6,rfl⟩:=rH m a6 h6
  obtain⟨es7,m7,hm7,rfl,hs7⟩:=gH Tryz.underlying171 h7
  obtain⟨x7,rfl⟩:=gD (enc:=bB.enc) fun y hy=>VA m7 y (hs7 y hy)
  refine⟨aP.mk x0 x1 x2 x3 x4 x5 x6 x7,?_⟩
  rw[aP.aH]
  simp
theorem Ym:∀(n:Nat) (ds:List D),WT Tryz.prog n 329 ds→∃x:bG,ds=x.enc:=by
 intro n
 induction n using Nat.strongRecOn with
 |_ n ih=>
  intro ds h
  obtain⟨m,hm,h⟩:=kE Tryz.underlying329 h
  simp only[uJ] at h
  obtain⟨a0,r0,rfl,l0,h0,a1,r1,rfl,l1,h1,rfl⟩:=h
  obtain⟨x0,rfl⟩:=fT Tryz.underlying9 h0
  obtain⟨x1,rfl⟩:=rH m a1 h1
  refine⟨bG.mk x0 x1,?_⟩
  rw[bG.aH]
  simp
theorem Pt:∀(n:Nat) (ds:List D),WT Tryz.prog n 177 ds→∃x:aR,ds=x.enc:=by
 intro n
 induction n using Nat.strongRecOn with
 |_ n ih=>
  intro ds h
  obtain⟨m,hm,h⟩:=kE Tryz.underlying177 h
  simp only[uJ] at h
  obtain⟨a0,r0,rfl,l0,h0,a1,r1,rfl,l1,h1,a2,r2,rfl,l2,h2,a3,r3,rfl,l3,h3,a4,r4,rfl,l4,h4,a5,r5,rfl,l5,h5,rfl⟩:=h
  obtain⟨x0,rfl⟩:=fT Tryz.underlying9 h0
  obtain⟨es1,m1,hm1,rfl,hs1⟩:=gH Tryz.underlying41 h1
  obtain⟨x1,rfl⟩:=gD (enc:=encS) fun y hy=>fT Tryz.underlying9 (hs1 y hy)
  obtain⟨es2,m2,hm2,rfl,hs2⟩:=gH Tryz.underlying170 h2
  obtain⟨x2,rfl⟩:=gD (enc:=bA.enc) fun y hy=>NR m2 y (hs2 y hy)
  obtain⟨es3,m3,hm3,rfl,hs3⟩:=gH Tryz.underlying175 h3
  obtain⟨x3,rfl⟩:=gD (enc:=bG.enc) fun y hy=>Ym m3 y (hs3 y hy)
  obtain⟨x4,rfl⟩:=rH m a4 h4
  obtain⟨x5,rfl⟩:=I8 m a5 h5
  refine⟨aR.mk x0 x1 x2 x3 x4 x5,?_⟩
  rw[aR.aH]
  simp
theorem S9:∀(n:Nat) (ds:List D),WT Tryz.prog n 47 ds→∃x:aV,ds=x.enc:=by
 intro n
 induction n using Nat.strongRecOn with
 |_ n ih=>
  intro ds h
  obtain⟨m,hm,h⟩:=kE Tryz.underlying47 h
  simp only[uJ] at h
  obtain⟨a0,r0,rfl,l0,h0,a1,r1,rfl,l1,h1,a2,r2,rfl,l2,h2,a3,r3,rfl,l3,h3,a4,r4,rfl,l4,h4,a5,r5,rfl,l5,h5,rfl⟩:=h
  obtain⟨x0,rfl⟩:=fT Tryz.underlying9 h0
  obtain⟨es1,m1,hm1,rfl,hs1⟩:=gH Tryz.underlying41 h1
  obtain⟨x1,rfl⟩:=gD (enc:=encS) fun y hy=>fT Tryz.underlying9 (hs1 y hy)
  obtain⟨es2,m2,hm2,rfl,hs2⟩:=gH Tryz.underlying42 h2
  obtain⟨x2,rfl⟩:=gD (enc:=bg.enc) fun y hy=>Yl m2 y (hs2 y hy)
  obtain⟨es3,m3,hm3,rfl,hs3⟩:=gH Tryz.underlying43 h3
  obtain⟨x3,rfl⟩:=gD (enc:=aN.enc) fun y hy=>Pp m3 y (hs3 y hy)
  obtain⟨es4,m4,hm4,rfl,hs4⟩:=gH Tryz.underlying44 h4
  obtain⟨x4,rfl⟩:=gD (enc:=aP.enc) fun y hy=>Pq m4 y (hs4 y hy)
  obtain⟨es5,m5,hm5,rfl,hs5⟩:=gH Tryz.underlying45 h5
  obtain⟨x5,rfl⟩:=gD (enc:=aR.enc) fun y hy=>Pt m5 y (hs5 y hy)
  refine⟨aV.mk x0 x1 x2 x3 x4 x5,?_⟩
  rw[aV.aH]
  simp
end Go.Proofs.YtcfhnaohbaplhaaGreatDoor
