/-
  SEVERAL TEXTS IN ONE (merged by program): contracts and models, each with its own heading.
-/
import Derived.Test.YtcfhnaohbaplhaaGreatDoorPartTpbE
import Derived.Lib.MakeNoZero
import Derived.BigCall
import Derived.BigGuard
import Derived.Test.YtcfhnaohbaplhaaGreatDoorRows
import Derived.OpenShut
import Derived.LaidMore
set_option linter.unusedSimpArgs false
set_option linter.unusedVariables false
set_option maxRecDepth 4000
set_option maxRecDepth 100000
namespace Go.Proofs.YtcfhnaohbaplhaaGreatDoor
open Go Go.Ab
theorem N9(x:dw):∀left:Int,0≤left→left≤1048576→kK x.enc→aD Tryz.prog 19 [x.v,.c (.d (.i .i64 left))] (.c (.d (.i .i64 (cB left x.sz)))):=by
 intro left h0 h1 hf S
 simp only[dw.aH,List.cons_append,List.nil_append,iG,iw,iq,and_true] at hf
 have gH:=hf
 have hz:x.sz=(x.gH.length+aI (x.gH.map aN.enc)):=by
  simp only[dw.sz,dw.aH,bH,bf,D.sz,List.length_map,Nat.add_zero,Nat.zero_add]<;>omega
 refine aB (rs:=[.tmp 4]) Tryz.checked.mixed Tryz.func19 Tryz.ntmps19 rfl rfl rfl rfl rfl ?_
 rw[hz]
 refine W1 ?_
 refine C1 (KW x.gH _ (by omega) (by omega) gH) ?_
 refine S2 fun hb h=>?_
 have h':=dA h
 exact int_eq (bT (by omega)).symm
theorem yF(x:dw):x.sz≤1048576→aD Tryz.prog 21 [x.v] x.v:=by
 intro hsz S
 simp only[dw.sz,dw.aH,bH,bf,D.sz,List.length_map] at hsz
 refine aB (rs:=[.cell 2 66]) Tryz.checked.mixed Tryz.func21 Tryz.ntmps21 rfl rfl rfl rfl rfl ?_
 refine W1 ?_
 exact C3 (KX x.gH (by omega))
theorem Oa(x:dw):∀y:dw,x.sz≤1048576→aD Tryz.prog 23 [x.v,y.v] (.c (.d (.b (dec (x=y))))):=by
 intro y hsz S
 simp only[dw.sz,dw.aH,bH,bf,D.sz,List.length_map] at hsz
 refine aB (rs:=[.tmp 4]) Tryz.checked.mixed Tryz.func23 Tryz.ntmps23 rfl rfl rfl rfl rfl ?_
 refine W1 ?_
 refine C1 (KY x.gH _ (by omega)) ?_
 refine S0 (fun hb h=>?_) fun hb h=>?_
 ·exact ay (aC (fun e=>h (by rw[e]))).symm
 have VU:=h
 clear h
 exact ay (bq (dw.ext' VU)).symm
end Go.Proofs.YtcfhnaohbaplhaaGreatDoor
namespace Go.Ab
theorem dw.bounds{x:dw}(h:x.sz≤4194304):x.gH.length≤4194304:=by
 simp only[dw.sz,dw.aH,bH,bf,D.sz,List.length_map] at h
 omega
end Go.Ab
namespace Go.Proofs.YtcfhnaohbaplhaaGreatDoor
open Go Go.Ab
end Go.Proofs.YtcfhnaohbaplhaaGreatDoor
namespace Go.Proofs.YtcfhnaohbaplhaaGreatDoor
open Go Go.Ab
theorem y8(xs:List (List UInt8))(x:List UInt8):xs.map encS++[[D.s x]]=(xs++[x]).map encS:=by simp[encS]
theorem PS(p:aN)(hsz:p.sz≤4194304):aD Tryz.prog 158 [p.v] (.iE [(false,[.d (.sl ((fu p).map encS))]),(false,[.d (.sl ((gU p).map encS))]),(false,[.d (.sl ((fQ p.ak).map encS))]),(false,[.d (.sl ((fnNames p).map encS))])]):=fun S=>by
 have hb0:=aN.bounds hsz
 refine aB (rs:=[.tmp 2,.tmp 3,.tmp 4,.tmp 5]) Tryz.checked.mixed Tryz.func158 Tryz.ntmps158 rfl rfl rfl rfl rfl ?_
 refine W1 ?_
 refine W3 ?_
 refine l9 6 1 [] rfl (by simp) ?_
 refine l9 7 1 [] rfl (by simp) ?_
 refine l9 8 1 [] rfl (by simp) ?_
 refine l9 9 1 [] rfl (by simp) ?_
 refine aR (ι:=Nat×List (List UInt8)) Tryz.checked.mixed rfl [1,6,7,8,9,10] (fun y=>[.c (.ptr (0,0) 0),.c (.bI (0,1) (y.2.map encS)),.c (.bI (0,2) []),.c (.bI (0,3) []),.c (.bI (0,4) []),.c (.d (.i .i64 y.1))]) (fun y=>[.box (p.enc.map .d),.tok 1 (y.2.map encS),.tok 1 [],.tok 1 [],.tok 1 []]::S)
  (fun y=>y.1≤p.aK.length∧y.2=(fu p).take y.1) (fun y=>p.aK.length-y.1) (0,[]) rfl ?_ ⟨Nat.zero_le _,rfl⟩ ?_
 ·exact Z1
 rintro⟨i,a⟩ ⟨p1,p2⟩
 simp only at p1 p2
 have pl:a.length≤p.aK.length:=by rw[p2];simp[fu];omega
 refine W1 ?_
 refine S0 (fun hb h=>?_) fun hb h=>?_
 ·have hi:i<p.aK.length:=by omega
  refine W3 ?_
  rw[y8]
  exact bF (i+1,a++[p.aK[i].fName]) (by simp only;omega) rfl rfl ⟨by simp only;omega,by simp only;rw[p2,gI (by simpa [fu] using hi)];simp[fu]⟩
 have ha:a=fu p:=by rw[p2,List.take_of_length_le (by simp[fu];omega)]
 clear p1 p2 pl hb h
 subst ha
 refine aR (ι:=Nat×List (List UInt8)×List (List UInt8)) Tryz.checked.mixed rfl [1,6,7,8,9,11] (fun y=>[.c (.ptr (0,0) 0),.c (.bI (0,1) ((fu p).map encS)),.c (.bI (0,2) (y.2.1.map encS)),.c (.bI (0,3) (y.2.2.map encS)),.c (.bI (0,4) []),.c (.d (.i .i64 y.1))]) (fun y=>[.box (p.enc.map .d),.tok 1 ((fu p).map encS),.tok 1 (y.2.1.map encS),.tok 1 (y.2.2.map encS),.tok 1 []]::S)
  (fun y=>y.1≤p.ak.length∧y.2.1=(gU p).take y.1∧y.2.2=fQ (p.ak.take y.1)) (fun y=>p.ak.length-y.1) (0,[],[]) rfl ?_ ⟨Nat.zero_le _,rfl,rfl⟩ ?_
 ·exact Z1
 rintro⟨i,b,c⟩ ⟨p1,p2,p3⟩
 simp only at p1 p2 p3
 have pl:b.length≤p.ak.length:=by rw[p2];simp[gU];omega
 refine W1 ?_
 refine S0 (fun hb h=>?_) fun hb h=>?_
 ·have hi:i<p.ak.length:=by omega
  have e3:fQ (p.ak.take (i+1))=c++p.ak[i].aG.map aP.fName:=by rw[p3];exact tK _ hi
  have hcl:(fQ (p.ak.take (i+1))).length≤4194304:=by
   have h1:(fQ (p.ak.take (i+1))).length≤(fQ p.ak).length:=by
    conv=>rhs;rw[←List.take_append_drop (i+1) p.ak]
    unfold fQ
    rw[List.flatMap_append,List.length_append]
    omega
   omega
  rw[e3,List.length_append,List.length_map] at hcl
  refine W3 ?_
  rw[y8]
  refine aR (ι:=Nat×List (List UInt8)) Tryz.checked.mixed rfl [1,6,7,8,9,11,12] (fun y=>[.c (.ptr (0,0) 0),.c (.bI (0,1) ((fu p).map encS)),.c (.bI (0,2) ((b++[p.ak[i].fName]).map encS)),.c (.bI (0,3) (y.2.map encS)),.c (.bI (0,4) []),.c (.d (.i .i64 i)),.c (.d (.i .i64 y.1))]) (fun y=>[.box (p.enc.map .d),.tok 1 ((fu p).map encS),.tok 1 ((b++[p.ak[i].fName]).map encS),.tok 1 (y.2.map encS),.tok 1 []]::S)
   (fun y=>y.1≤p.ak[i].aG.length∧y.2=c++(p.ak[i].aG.map aP.fName).take y.1) (fun y=>p.ak[i].aG.length-y.1) (0,c) rfl ?_ ⟨Nat.zero_le _,by simp⟩ ?_
  ·exact Z1
  rintro⟨k,e⟩ ⟨q1,q2⟩
  simp only at q1 q2
  have pl2:e.length≤4194304:=by rw[q2];simp;omega
  refine W1 ?_
  refine W3 ?_
  refine S0 (fun hb h=>?_) fun hb h=>?_
  ·have hk:k<p.ak[i].aG.length:=by omega
   refine W3 ?_
   rw[y8]
   exact bF (k+1,e++[p.ak[i].aG[k].fName]) (by simp only;omega) rfl rfl ⟨by simp only;omega,by simp only;rw[q2,gI (by simpa using hk)];simp⟩
  ·have hk:k=p.ak[i].aG.length:=by omega
   have he:e=c++p.ak[i].aG.map aP.fName:=by rw[q2,List.take_of_length_le (by simp;omega)]
   exact bF (i+1,b++[p.ak[i].fName],e) (by simp only;omega) rfl rfl ⟨by simp only;omega,by simp only;rw[p2,gI (by simpa [gU] using hi)];simp[gU],by simp only;rw[e3,he]⟩
 have hb1:b=gU p:=by rw[p2,List.take_of_length_le (by simp[gU];omega)]
 have hc1:c=fQ p.ak:=by rw[p3,List.take_of_length_le (by omega)]
 clear p1 p2 p3 pl hb h
 subst hb1
 subst hc1
 refine aR (ι:=Nat×List (List UInt8)) Tryz.checked.mixed rfl [1,6,7,8,9,13] (fun y=>[.c (.ptr (0,0) 0),.c (.bI (0,1) ((fu p).map encS)),.c (.bI (0,2) ((gU p).map encS)),.c (.bI (0,3) ((fQ p.ak).map encS)),.c (.bI (0,4) (y.2.map encS)),.c (.d (.i .i64 y.1))]) (fun y=>[.box (p.enc.map .d),.tok 1 ((fu p).map encS),.tok 1 ((gU p).map encS),.tok 1 ((fQ p.ak).map encS),.tok 1 (y.2.map encS)]::S)
  (fun y=>y.1≤p.aM.length∧y.2=(fnNames p).take y.1) (fun y=>p.aM.length-y.1) (0,[]) rfl ?_ ⟨Nat.zero_le _,rfl⟩ ?_
 ·exact Z1
 rintro⟨i,a⟩ ⟨p1,p2⟩
 simp only at p1 p2
 have pl:a.length≤p.aM.length:=by rw[p2];simp[fnNames];omega
 refine W1 ?_
 refine S0 (fun hb h=>?_) fun hb h=>?_
 ·have hi:i<p.aM.length:=by omega
  refine W3 ?_
  rw[y8]
  exact bF (i+1,a++[p.aM[i].fName]) (by simp only;omega) rfl rfl ⟨by simp only;omega,by simp only;rw[p2,gI (by simpa [fnNames] using hi)];simp[fnNames]⟩
 ·have ha:a=fnNames p:=by rw[p2,List.take_of_length_le (by simp[fnNames];omega)]
  rw[ha]
end Go.Proofs.YtcfhnaohbaplhaaGreatDoor
namespace Go.Proofs.YtcfhnaohbaplhaaGreatDoor
open Go Go.Ab
def wK(a b c d:List (List UInt8))(rest:List Ab.Obj)(S:Store):Store:=
 (.box [.bC [],.bC [],.bC [],.bC []]:: .box [.bI (0,2) (a.map encS),.bI (0,3) (b.map encS),.bI (0,4) (c.map encS),.bI (0,5) (d.map encS)]:: .tok 1 (a.map encS):: .tok 1 (b.map encS):: .tok 1 (c.map encS):: .tok 1 (d.map encS)::rest)::S
theorem PU(ps:List aN)(hl:ps.length≤4194304)(hz:aI (ps.map aN.enc)≤4194304):aD Tryz.prog 258 [.c (.d (.sl (ps.map aN.enc)))] (.agg [.d (.sl ((uI ps).map encS)),.d (.sl ((uJ ps).map encS)),.d (.sl ((uK ps).map encS)),.d (.sl ((uL ps).map encS))]):=fun S=>by
 have hn:=NY ps
 refine aB (rs:=[.cell 2 288]) Tryz.checked.mixed Tryz.func258 Tryz.ntmps258 rfl rfl rfl rfl rfl ?_
 refine W1 ?_
 refine W3 ?_
 refine nX 1 0 1 [] [.bC [],.bC [],.bC [],.bC []] rfl rfl (by simp) ?_
 refine nX 1 1 1 [] [.bI (0,2) [],.bC [],.bC [],.bC []] rfl rfl (by simp) ?_
 refine nX 1 2 1 [] [.bI (0,2) [],.bI (0,3) [],.bC [],.bC []] rfl rfl (by simp) ?_
 refine nX 1 3 1 [] [.bI (0,2) [],.bI (0,3) [],.bI (0,4) [],.bC []] rfl rfl (by simp) ?_
 refine aR (ι:=Nat×List (List UInt8)×List (List UInt8)×List (List UInt8)×List (List UInt8)) Tryz.checked.mixed rfl [2,3,15,16,17] (fun y=>[.c (.ptr (0,0) 0),.c (.ptr (0,1) 0),.c (.d (.sl (ps.map aN.enc))),.c (.d (.i .i64 ps.length)),.c (.d (.i .i64 y.1))])
  (fun y=>[.box [.bC [],.bC [],.bC [],.bC []],.box [.bI (0,2) (y.2.1.map encS),.bI (0,3) (y.2.2.1.map encS),.bI (0,4) (y.2.2.2.1.map encS),.bI (0,5) (y.2.2.2.2.map encS)],.tok 1 (y.2.1.map encS),.tok 1 (y.2.2.1.map encS),.tok 1 (y.2.2.2.1.map encS),.tok 1 (y.2.2.2.2.map encS)]::S)
  (fun y=>y.1≤ps.length∧y.2.1=uI (ps.take y.1)∧y.2.2.1=uJ (ps.take y.1)∧y.2.2.2.1=uK (ps.take y.1)∧y.2.2.2.2=uL (ps.take y.1)) (fun y=>ps.length-y.1) (0,[],[],[],[]) rfl rfl ⟨Nat.zero_le _,rfl,rfl,rfl,rfl⟩ ?_
 rintro⟨i,a,b,c,d⟩ ⟨p1,p2,p3,p4,p5⟩
 simp only at p1 p2 p3 p4 p5
 refine W1 ?_
 refine S0 (fun hb h=>?_) fun hb h=>?_
 ·have hi:i<ps.length:=by omega
  have hp:ps[i].sz≤4194304:=by
   have hx:ps[i].sz≤aI (ps.map aN.enc):=bD (List.mem_map_of_mem (List.getElem_mem hi))
   omega
  refine W3 ?_
  have sub:∀(f:aN→List (List UInt8)),((ps.take (i+1)).flatMap f).length≤(ps.flatMap f).length:=fun f=>by
   conv=>rhs;rw[←List.take_append_drop (i+1) ps]
   rw[List.flatMap_append,List.length_append]
   omega
  have e2:uI (ps.take (i+1))=a++fu ps[i]:=by rw[p2];exact tK _ hi
  have e3:uJ (ps.take (i+1))=b++gU ps[i]:=by rw[p3];exact tK _ hi
  have e4:uK (ps.take (i+1))=c++fQ ps[i].ak:=by rw[p4];exact tK _ hi
  have e5:uL (ps.take (i+1))=d++fnNames ps[i]:=by rw[p5];exact tK _ hi
  have l2:(a++fu ps[i]).length≤4194304:=by rw[←e2];have:=sub fu;unfold uI at *;omega
  have l3:(b++gU ps[i]).length≤4194304:=by rw[←e3];have:=sub gU;unfold uJ at *;omega
  have l4:(c++fQ ps[i].ak).length≤4194304:=by rw[←e4];have:=sub (fun p=>fQ p.ak);unfold uK at *;omega
  have l5:(d++fnNames ps[i]).length≤4194304:=by rw[←e5];have:=sub fnNames;unfold uL at *;omega
  have hbp:=aN.bounds hp
  rw[List.length_append] at l2 l3 l4 l5
  refine aR (ι:=Nat×List (List UInt8)) Tryz.checked.mixed rfl [2,3,5,15,16,17,22,23,24] (fun y=>[.c (.ptr (0,0) 0),.c (.ptr (0,1) 0),.c (.ptr (0,6) 0),.c (.d (.sl (ps.map aN.enc))),.c (.d (.i .i64 ps.length)),.c (.d (.i .i64 i)),.c (.d (.sl (ps[i].aK.map bg.enc))),.c (.d (.i .i64 ps[i].aK.length)),.c (.d (.i .i64 y.1))]) (fun y=>wK y.2 b c d [.box (ps[i].enc.map .d)] S)
   (fun y=>y.1≤ps[i].aK.length∧y.2=a++(fu ps[i]).take y.1) (fun y=>ps[i].aK.length-y.1) (0,a) rfl ?_ ⟨Nat.zero_le _,by simp⟩ ?_
  ·unfold wK
   exact Z1
  rintro⟨k,a'⟩ ⟨q1,q2⟩
  simp only at q1 q2
  have ql:a'.length≤4194304:=by rw[q2];simp[fu] at *;omega
  unfold wK
  refine W1 ?_
  refine S0 (fun hb h=>?_) fun hb h=>?_
  ·have hk:k<ps[i].aK.length:=by omega
   have ql':a'.length+1≤4194304:=by rw[q2];simp[fu] at *;omega
   refine W3 ?_
   rw[y8]
   exact bX 7 (by decide) (k+1,a'++[ps[i].aK[k].fName]) (by simp only;omega) rfl rfl rfl rfl ⟨by simp only;omega,by simp only;rw[q2,gI (by simpa [fu] using hk)];simp[fu]⟩
  have ha:a'=a++fu ps[i]:=by rw[q2,List.take_of_length_le (by simp[fu];omega)]
  clear q1 q2 ql hb h
  subst ha
  refine aR (ι:=Nat×List (List UInt8)×List (List UInt8)) Tryz.checked.mixed rfl [2,3,5,15,16,17,37,38,39] (fun y=>[.c (.ptr (0,0) 0),.c (.ptr (0,1) 0),.c (.ptr (0,6) 0),.c (.d (.sl (ps.map aN.enc))),.c (.d (.i .i64 ps.length)),.c (.d (.i .i64 i)),.c (.d (.sl (ps[i].ak.map aO.enc))),.c (.d (.i .i64 ps[i].ak.length)),.c (.d (.i .i64 y.1))]) (fun y=>wK (a++fu ps[i]) y.2.1 y.2.2 d [.box (ps[i].enc.map .d)] S)
   (fun y=>y.1≤ps[i].ak.length∧y.2.1=b++(gU ps[i]).take y.1∧y.2.2=c++fQ (ps[i].ak.take y.1)) (fun y=>ps[i].ak.length-y.1) (0,b,c) rfl ?_ ⟨Nat.zero_le _,by simp,by simp[fQ]⟩ ?_
  ·unfold wK
   exact Z1
  rintro⟨k',b',c'⟩ ⟨q1,q2,q3⟩
  simp only at q1 q2 q3
  unfold wK
  refine W1 ?_
  refine S0 (fun hb h=>?_) fun hb h=>?_
  ·have hk:k'<ps[i].ak.length:=by omega
   have e6:fQ (ps[i].ak.take (k'+1))=fQ (ps[i].ak.take k')++ps[i].ak[k'].aG.map aP.fName:=tK _ hk
   have hcl:(fQ (ps[i].ak.take (k'+1))).length≤(fQ ps[i].ak).length:=by
    conv=>rhs;rw[←List.take_append_drop (k'+1) ps[i].ak]
    unfold fQ
    rw[List.flatMap_append,List.length_append]
    omega
   have ql':b'.length+1≤4194304:=by rw[q2];simp[gU] at *;omega
   have qc:c'.length+ps[i].ak[k'].aG.length≤4194304:=by
    rw[e6,List.length_append,List.length_map] at hcl
    rw[q3,List.length_append]
    omega
   refine W3 ?_
   rw[y8]
   refine aR (ι:=Nat×List (List UInt8)) Tryz.checked.mixed rfl [2,3,5,15,16,17,37,38,39,51,52,53] (fun y=>[.c (.ptr (0,0) 0),.c (.ptr (0,1) 0),.c (.ptr (0,6) 0),.c (.d (.sl (ps.map aN.enc))),.c (.d (.i .i64 ps.length)),.c (.d (.i .i64 i)),.c (.d (.sl (ps[i].ak.map aO.enc))),.c (.d (.i .i64 ps[i].ak.length)),.c (.d (.i .i64 k')),.c (.d (.sl (ps[i].ak[k'].aG.map aP.enc))),.c (.d (.i .i64 ps[i].ak[k'].aG.length)),.c (.d (.i .i64 y.1))]) (fun y=>wK (a++fu ps[i]) (b'++[ps[i].ak[k'].fName]) y.2 d [.box (ps[i].enc.map .d),.box (ps[i].ak[k'].enc.map .d)] S)
    (fun y=>y.1≤ps[i].ak[k'].aG.length∧y.2=c'++(ps[i].ak[k'].aG.map aP.fName).take y.1) (fun y=>ps[i].ak[k'].aG.length-y.1) (0,c') rfl ?_ ⟨Nat.zero_le _,by simp⟩ ?_
   ·unfold wK
    exact Z1
   rintro⟨m,c''⟩ ⟨r1,r2⟩
   simp only at r1 r2
   have rl:c''.length≤4194304:=by rw[r2];simp;omega
   unfold wK
   refine W1 ?_
   refine S0 (fun hb h=>?_) fun hb h=>?_
   ·have hm:m<ps[i].ak[k'].aG.length:=by omega
    have rl':c''.length+1≤4194304:=by rw[r2];simp;omega
    refine W3 ?_
    rw[y8]
    exact bX 8 (by decide) (m+1,c''++[ps[i].ak[k'].aG[m].fName]) (by simp only;omega) rfl rfl rfl rfl ⟨by simp only;omega,by simp only;rw[r2,gI (by simpa using hm)];simp⟩
   ·have hm:m=ps[i].ak[k'].aG.length:=by omega
    have hc:c''=c'++ps[i].ak[k'].aG.map aP.fName:=by rw[r2,List.take_of_length_le (by simp;omega)]
    exact bX 7 (by decide) (k'+1,b'++[ps[i].ak[k'].fName],c'') (by simp only;omega) rfl rfl rfl rfl ⟨by simp only;omega,by simp only;rw[q2,gI (by simpa [gU] using hk)];simp[gU],by simp only;rw[hc,e6,q3,List.append_assoc]⟩
  have hb':b'=b++gU ps[i]:=by rw[q2,List.take_of_length_le (by simp[gU];omega)]
  have hc':c'=c++fQ ps[i].ak:=by rw[q3,List.take_of_length_le (by omega)]
  clear q1 q2 q3 hb h
  subst hb'
  subst hc'
  refine aR (ι:=Nat×List (List UInt8)) Tryz.checked.mixed rfl [2,3,5,15,16,17,67,68,69] (fun y=>[.c (.ptr (0,0) 0),.c (.ptr (0,1) 0),.c (.ptr (0,6) 0),.c (.d (.sl (ps.map aN.enc))),.c (.d (.i .i64 ps.length)),.c (.d (.i .i64 i)),.c (.d (.sl (ps[i].aM.map aS.enc))),.c (.d (.i .i64 ps[i].aM.length)),.c (.d (.i .i64 y.1))]) (fun y=>wK (a++fu ps[i]) (b++gU ps[i]) (c++fQ ps[i].ak) y.2 [.box (ps[i].enc.map .d)] S)
   (fun y=>y.1≤ps[i].aM.length∧y.2=d++(fnNames ps[i]).take y.1) (fun y=>ps[i].aM.length-y.1) (0,d) rfl ?_ ⟨Nat.zero_le _,by simp⟩ ?_
  ·unfold wK
   exact Z1
  rintro⟨k4,d'⟩ ⟨q1,q2⟩
  simp only at q1 q2
  have ql:d'.length≤4194304:=by rw[q2];simp[fnNames] at *;omega
  unfold wK
  refine W1 ?_
  refine S0 (fun hb h=>?_) fun hb h=>?_
  ·have hk:k4<ps[i].aM.length:=by omega
   have ql':d'.length+1≤4194304:=by rw[q2];simp[fnNames] at *;omega
   refine W3 ?_
   rw[y8]
   exact bX 7 (by decide) (k4+1,d'++[ps[i].aM[k4].fName]) (by simp only;omega) rfl rfl rfl rfl ⟨by simp only;omega,by simp only;rw[q2,gI (by simpa [fnNames] using hk)];simp[fnNames]⟩
  ·have hd:d'=d++fnNames ps[i]:=by rw[q2,List.take_of_length_le (by simp[fnNames];omega)]
   exact bX 6 (by decide) (i+1,a++fu ps[i],b++gU ps[i],c++fQ ps[i].ak,d') (by simp only;omega) rfl rfl rfl rfl ⟨by simp only;omega,e2.symm,e3.symm,e4.symm,by simp only;rw[hd,e5]⟩
 ·have hi:i=ps.length:=by omega
  rw[List.take_of_length_le (by omega)] at p2 p3 p4 p5
  rw[p2,p3,p4,p5]
theorem Ob(ps:List aN)(hl:ps.length≤4194304)(hz:aI (ps.map aN.enc)≤4194304):aD Tryz.prog 171 [.c (.d (.sl (ps.map aN.enc)))] (.c (.d (.b (kM ps)))):=fun S=>by
 have hn:=NY ps
 refine aB (rs:=[.tmp 2]) Tryz.checked.mixed Tryz.func171 Tryz.ntmps171 rfl rfl rfl rfl rfl ?_
 refine W1 ?_
 refine C2 (PU ps hl hz) ?_
 refine aR (ι:=Int) Tryz.checked.mixed rfl [6,7] (fun i=>[.agg [.d (.sl ((uI ps).map encS)),.d (.sl ((uJ ps).map encS)),.d (.sl ((uK ps).map encS)),.d (.sl ((uL ps).map encS))],.c (.d (.i .i64 i))]) (fun _=>[]::S)
  (fun i=>(0≤i∧i≤4)∧(1≤i→(uI ps).Nodup)∧(2≤i→(uJ ps).Nodup)∧(3≤i→(uK ps).Nodup)∧(4≤i→(uL ps).Nodup)) (fun i=>(4-i).toNat) 0 rfl rfl ⟨⟨by omega,by omega⟩,by omega,by omega,by omega,by omega⟩ ?_
 rintro i ⟨p0,p1,p2,p3,p4⟩
 have hi:i=0∨i=1∨i=2∨i=3∨i=4:=by omega
 rcases hi with rfl|rfl|rfl|rfl|rfl
 ·refine W1 ?_
  refine W3 ?_
  refine C2 (mJ (uI ps) (by omega)) ?_
  refine S0 (fun hb h=>?_) fun hb h=>?_
  ·exact ay (by unfold kM;rw[aC h];rfl)
  ·exact bF 1 (by decide) rfl rfl ⟨⟨by omega,by omega⟩,fun _=>h,by omega,by omega,by omega⟩
 ·refine W1 ?_
  refine W3 ?_
  refine C2 (mJ (uJ ps) (by omega)) ?_
  refine S0 (fun hb h=>?_) fun hb h=>?_
  ·exact ay (by unfold kM;rw[aC h];simp)
  ·exact bF 2 (by decide) rfl rfl ⟨⟨by omega,by omega⟩,fun _=>p1 (by omega),fun _=>h,by omega,by omega⟩
 ·refine W1 ?_
  refine W3 ?_
  refine C2 (mJ (uK ps) (by omega)) ?_
  refine S0 (fun hb h=>?_) fun hb h=>?_
  ·exact ay (by unfold kM;rw[aC h];simp)
  ·exact bF 3 (by decide) rfl rfl ⟨⟨by omega,by omega⟩,fun _=>p1 (by omega),fun _=>p2 (by omega),fun _=>h,by omega⟩
 ·refine W1 ?_
  refine W3 ?_
  refine C2 (mJ (uL ps) (by omega)) ?_
  refine S0 (fun hb h=>?_) fun hb h=>?_
  ·exact ay (by unfold kM;rw[aC h];simp)
  ·exact bF 4 (by decide) rfl rfl ⟨⟨by omega,by omega⟩,fun _=>p1 (by omega),fun _=>p2 (by omega),fun _=>p3 (by omega),fun _=>h⟩
 ·refine W1 ?_
  exact ay (by unfold kM;rw[bq (p1 (by omega)),bq (p2 (by omega)),bq (p3 (by omega)),bq (p4 (by omega))];rfl)
end Go.Proofs.YtcfhnaohbaplhaaGreatDoor
namespace Go.Ab
noncomputable def pX(p:aN):Bool:=p.aK.all dI&&(p.ak.all eG&&(p.aJ.all eD&&p.aM.all jE))
noncomputable def oW(p:aN):Bool:=validName p.fName&&(dec (p.dZ.length≤5)&&(gQ p.dZ&&(!dec (p.fName∈p.dZ)&&dec (p.aK.length+p.ak.length+p.aJ.length+p.aM.length≤24))))
noncomputable def validPkg(p:aN):Bool:=oW p&&(kM [p]&&pX p)
theorem aN.sum(x:aN):x.fName.length+(x.dZ.length+aI (x.dZ.map encS))+(x.aK.length+aI (x.aK.map bg.enc))+(x.ak.length+aI (x.ak.map aO.enc))+(x.aJ.length+aI (x.aJ.map aQ.enc))+(x.aM.length+aI (x.aM.map aS.enc))≤x.sz:=by
 simp only[aN.sz,aN.aH,bH,bf,D.sz,List.length_map]
 omega
theorem rE{α:Type}{f:α→Bool}{xs:List α}{i:Nat}(hi:i<xs.length):(xs.drop i).all f=(f xs[i]&&(xs.drop (i+1)).all f):=by
 rw[List.drop_eq_getElem_cons hi,List.all_cons]
end Go.Ab
namespace Go.Proofs.YtcfhnaohbaplhaaGreatDoor
open Go Go.Ab
theorem Ja(xs:List (List UInt8))(s:List UInt8)(hl:xs.length≤1073741824):aD Tryz.prog 170 [.c (.d (.sl (xs.map encS))),.c (.d (.s s))] (.c (.d (.i .i64 (rX xs s)))):=fun S=>by
 refine aB (rs:=[.tmp 4]) Tryz.checked.mixed Tryz.func170 Tryz.ntmps170 rfl rfl rfl rfl rfl ?_
 refine W1 ?_
 exact C4 (JI xs s hl)
set_option maxHeartbeats 4000000 in
theorem uM(p:aN)(hsz:p.sz≤4194304):aD Tryz.prog 84 [p.v] (.c (.d (.b (validPkg p)))):=fun S=>by
 have hs:=aN.sum p
 have hV:∀s∈p.dZ,s.length≤4194304:=fun s h=>by have:=nZ h;omega
 have no:oW p=false→V.c (.d (.b false))=V.c (.d (.b (validPkg p))):=fun h=>ay (by unfold validPkg;rw[h];rfl)
 have hu:=Ob [p] (by simp) (by simp[aI];have:bH p.enc=p.sz:=rfl;omega)
 have hix:decide (rX p.dZ p.fName≥0)=dec (p.fName∈p.dZ):=FT
 refine aB (rs:=[.tmp 2]) Tryz.checked.mixed Tryz.func84 Tryz.ntmps84 rfl rfl rfl rfl rfl ?_
 refine W1 ?_
 refine C2 (fT p.fName (by omega)) ?_
 refine S0 (fun hb h=>?_) fun hb h=>?_
 ·exact no (by unfold oW;rw[h];rfl)
 have k1:=h
 refine S0 (fun hb h=>?_) fun hb h=>?_
 ·exact no (by unfold oW;rw[aC (show ¬p.dZ.length≤5 by omega)];simp)
 have k2:=h
 refine W3 ?_
 refine C2 (lX p.dZ (by omega) hV) ?_
 refine S0 (fun hb h=>?_) fun hb h=>?_
 ·exact no (by unfold oW;rw[h];simp)
 have k3:=h
 refine W3 ?_
 refine C1 (Ja p.dZ p.fName (by omega)) ?_
 rw[show decide (0≤rX p.dZ p.fName)=dec (p.fName∈p.dZ) from hix]
 refine S0 (fun hb h=>?_) fun hb h=>?_
 ·exact no (by unfold oW;rw[bq h];simp)
 have k4:=h
 refine S0 (fun hb h=>?_) fun hb h=>?_
 ·exact no (by unfold oW;rw[aC (show ¬p.aK.length+p.ak.length+p.aJ.length+p.aM.length≤24 by omega)];simp)
 have hh:oW p=true:=by unfold oW;rw[k1,k3,bq (show p.dZ.length≤5 by omega),aC k4,bq (by omega)];rfl
 simp only[List.map_cons,List.map_nil] at hu
 refine W3 ?_
 refine bN hu ?_
 refine W1 ?_
 clear hu hix no k1 k2 k3 k4
 have fin:validPkg p=((((kM [p]&&p.aK.all dI)&&p.ak.all eG)&&p.aJ.all eD)&&p.aM.all jE):=by unfold validPkg pX;rw[hh];simp[Bool.and_assoc]
 generalize kM [p]=b0 at fin ⊢
 refine aR (ι:=Nat×Bool) Tryz.checked.mixed rfl [1,3,56,57,58] (fun y=>[.c (.ptr (0,0) 0),.c (.d (.b y.2)),.c (.d (.sl (p.aK.map bg.enc))),.c (.d (.i .i64 p.aK.length)),.c (.d (.i .i64 y.1))]) (fun _=>[.box (p.enc.map .d)]::S)
  (fun y=>y.1≤p.aK.length∧(y.2&&(p.aK.drop y.1).all dI)=(b0&&p.aK.all dI)) (fun y=>p.aK.length-y.1) (0,b0) rfl ?_ ⟨Nat.zero_le _,rfl⟩ ?_
 ·exact Z1
 rintro⟨i,b⟩ ⟨p1,p2⟩
 simp only at p1 p2
 refine W1 ?_
 refine S0 (fun hb h=>?_) fun hb h=>?_
 ·have hi:i<p.aK.length:=by omega
  have hx:p.aK[i].sz≤aI (p.aK.map bg.enc):=bD (List.mem_map_of_mem (List.getElem_mem hi))
  rw[rE hi] at p2
  refine W3 ?_
  refine S0 (fun hb h=>?_) fun hb h=>?_
  ·have hb1:=h
   rw[hb1,Bool.true_and] at p2
   refine C2 (DC p.aK[i] (by omega)) ?_
   exact bX 1 (by decide) (i+1,dI p.aK[i]) (by simp only;omega) rfl rfl rfl rfl ⟨by simp only;omega,p2⟩
  ·have hb1:=h
   rw[hb1,Bool.false_and] at p2
   exact bX 1 (by decide) (i+1,false) (by simp only;omega) rfl rfl rfl rfl ⟨by simp only;omega,p2⟩
 rw[List.drop_of_length_le (by omega),List.all_nil,Bool.and_true] at p2
 rw[←p2] at fin
 clear p2 p1 hb h
 generalize b=b1 at fin ⊢
 refine aR (ι:=Nat×Bool) Tryz.checked.mixed rfl [1,3,69,70,71] (fun y=>[.c (.ptr (0,0) 0),.c (.d (.b y.2)),.c (.d (.sl (p.ak.map aO.enc))),.c (.d (.i .i64 p.ak.length)),.c (.d (.i .i64 y.1))]) (fun _=>[.box (p.enc.map .d)]::S)
  (fun y=>y.1≤p.ak.length∧(y.2&&(p.ak.drop y.1).all eG)=(b1&&p.ak.all eG)) (fun y=>p.ak.length-y.1) (0,b1) rfl ?_ ⟨Nat.zero_le _,rfl⟩ ?_
 ·exact Z1
 rintro⟨i,b⟩ ⟨p1,p2⟩
 simp only at p1 p2
 refine W1 ?_
 refine S0 (fun hb h=>?_) fun hb h=>?_
 ·have hi:i<p.ak.length:=by omega
  have hx:p.ak[i].sz≤aI (p.ak.map aO.enc):=bD (List.mem_map_of_mem (List.getElem_mem hi))
  rw[rE hi] at p2
  refine W3 ?_
  refine S0 (fun hb h=>?_) fun hb h=>?_
  ·have hb1:=h
   rw[hb1,Bool.true_and] at p2
   refine C2 (EN p.ak[i] (by omega)) ?_
   exact bX 1 (by decide) (i+1,eG p.ak[i]) (by simp only;omega) rfl rfl rfl rfl ⟨by simp only;omega,p2⟩
  ·have hb1:=h
   rw[hb1,Bool.false_and] at p2
   exact bX 1 (by decide) (i+1,false) (by simp only;omega) rfl rfl rfl rfl ⟨by simp only;omega,p2⟩
 rw[List.drop_of_length_le (by omega),List.all_nil,Bool.and_true] at p2
 rw[←p2] at fin
 clear p2 p1 hb h
 generalize b=b2 at fin ⊢
 refine aR (ι:=Nat×Bool) Tryz.checked.mixed rfl [1,3,82,83,84] (fun y=>[.c (.ptr (0,0) 0),.c (.d (.b y.2)),.c (.d (.sl (p.aJ.map aQ.enc))),.c (.d (.i .i64 p.aJ.length)),.c (.d (.i .i64 y.1))]) (fun _=>[.box (p.enc.map .d)]::S)
  (fun y=>y.1≤p.aJ.length∧(y.2&&(p.aJ.drop y.1).all eD)=(b2&&p.aJ.all eD)) (fun y=>p.aJ.length-y.1) (0,b2) rfl ?_ ⟨Nat.zero_le _,rfl⟩ ?_
 ·exact Z1
 rintro⟨i,b⟩ ⟨p1,p2⟩
 simp only at p1 p2
 refine W1 ?_
 refine S0 (fun hb h=>?_) fun hb h=>?_
 ·have hi:i<p.aJ.length:=by omega
  have hx:p.aJ[i].sz≤aI (p.aJ.map aQ.enc):=bD (List.mem_map_of_mem (List.getElem_mem hi))
  rw[rE hi] at p2
  refine W3 ?_
  refine S0 (fun hb h=>?_) fun hb h=>?_
  ·have hb1:=h
   rw[hb1,Bool.true_and] at p2
   refine C2 (EW p.aJ[i] (by omega)) ?_
   exact bX 1 (by decide) (i+1,eD p.aJ[i]) (by simp only;omega) rfl rfl rfl rfl ⟨by simp only;omega,p2⟩
  ·have hb1:=h
   rw[hb1,Bool.false_and] at p2
   exact bX 1 (by decide) (i+1,false) (by simp only;omega) rfl rfl rfl rfl ⟨by simp only;omega,p2⟩
 rw[List.drop_of_length_le (by omega),List.all_nil,Bool.and_true] at p2
 rw[←p2] at fin
 clear p2 p1 hb h
 generalize b=b3 at fin ⊢
 refine aR (ι:=Nat×Bool) Tryz.checked.mixed rfl [3,95,96,97] (fun y=>[.c (.d (.b y.2)),.c (.d (.sl (p.aM.map aS.enc))),.c (.d (.i .i64 p.aM.length)),.c (.d (.i .i64 y.1))]) (fun _=>[.box (p.enc.map .d)]::S)
  (fun y=>y.1≤p.aM.length∧(y.2&&(p.aM.drop y.1).all jE)=(b3&&p.aM.all jE)) (fun y=>p.aM.length-y.1) (0,b3) rfl ?_ ⟨Nat.zero_le _,rfl⟩ ?_
 ·exact Z1
 rintro⟨i,b⟩ ⟨p1,p2⟩
 simp only at p1 p2
 refine W1 ?_
 refine S0 (fun hb h=>?_) fun hb h=>?_
 ·have hi:i<p.aM.length:=by omega
  have hx:p.aM[i].sz≤aI (p.aM.map aS.enc):=bD (List.mem_map_of_mem (List.getElem_mem hi))
  rw[rE hi] at p2
  refine W3 ?_
  refine S0 (fun hb h=>?_) fun hb h=>?_
  ·have hb1:=h
   rw[hb1,Bool.true_and] at p2
   refine C2 (I8 p.aM[i] (by omega)) ?_
   exact bX 1 (by decide) (i+1,jE p.aM[i]) (by simp only;omega) rfl rfl rfl rfl ⟨by simp only;omega,p2⟩
  ·have hb1:=h
   rw[hb1,Bool.false_and] at p2
   exact bX 1 (by decide) (i+1,false) (by simp only;omega) rfl rfl rfl rfl ⟨by simp only;omega,p2⟩
 rw[List.drop_of_length_le (by omega),List.all_nil,Bool.and_true] at p2
 rw[←p2] at fin
 clear p2 p1 hb h
 exact ay fin.symm
set_option maxHeartbeats 4000000 in
theorem PV(p:aN)(hsz:p.sz≤4194304):aD Tryz.prog 163 [p.v] (.c (.d (.b (pX p)))):=fun S=>by
 have hs:=aN.sum p
 refine aB (rs:=[.tmp 2]) Tryz.checked.mixed Tryz.func163 Tryz.ntmps163 rfl rfl rfl rfl rfl ?_
 refine W1 ?_
 refine aR (ι:=Nat) Tryz.checked.mixed rfl [1,3] (fun i=>[.c (.ptr (0,0) 0),.c (.d (.i .i64 i))]) (fun _=>[.box (p.enc.map .d)]::S)
  (fun i=>i≤p.aK.length∧(p.aK.drop i).all dI=p.aK.all dI) (fun i=>p.aK.length-i) 0 rfl ?_ ⟨Nat.zero_le _,rfl⟩ ?_
 ·exact Z1
 rintro i ⟨p1,p2⟩
 refine W1 ?_
 refine S0 (fun hb h=>?_) fun hb h=>?_
 ·have hi:i<p.aK.length:=by omega
  have hx:p.aK[i].sz≤aI (p.aK.map bg.enc):=bD (List.mem_map_of_mem (List.getElem_mem hi))
  rw[rE hi] at p2
  refine W3 ?_
  refine C2 (mY p.aK[i] (by omega)) ?_
  refine S0 (fun hb h=>?_) fun hb h=>?_
  ·exact ay (by unfold pX;rw[←p2,h];simp)
  ·rw[h,Bool.true_and] at p2
   exact bF (i+1) (by omega) rfl rfl ⟨by omega,p2⟩
 rw[List.drop_of_length_le (by omega),List.all_nil] at p2
 have f3:=p2.symm
 clear p2 p1 hb h
 refine aR (ι:=Nat) Tryz.checked.mixed rfl [1,4] (fun i=>[.c (.ptr (0,0) 0),.c (.d (.i .i64 i))]) (fun _=>[.box (p.enc.map .d)]::S)
  (fun i=>i≤p.ak.length∧(p.ak.drop i).all eG=p.ak.all eG) (fun i=>p.ak.length-i) 0 rfl ?_ ⟨Nat.zero_le _,rfl⟩ ?_
 ·exact Z1
 rintro i ⟨p1,p2⟩
 refine W1 ?_
 refine S0 (fun hb h=>?_) fun hb h=>?_
 ·have hi:i<p.ak.length:=by omega
  have hx:p.ak[i].sz≤aI (p.ak.map aO.enc):=bD (List.mem_map_of_mem (List.getElem_mem hi))
  rw[rE hi] at p2
  refine W3 ?_
  refine C2 (yC p.ak[i] (by omega)) ?_
  refine S0 (fun hb h=>?_) fun hb h=>?_
  ·exact ay (by unfold pX;rw[←p2,h];simp)
  ·rw[h,Bool.true_and] at p2
   exact bF (i+1) (by omega) rfl rfl ⟨by omega,p2⟩
 rw[List.drop_of_length_le (by omega),List.all_nil] at p2
 have f4:=p2.symm
 clear p2 p1 hb h
 refine aR (ι:=Nat) Tryz.checked.mixed rfl [1,5] (fun i=>[.c (.ptr (0,0) 0),.c (.d (.i .i64 i))]) (fun _=>[.box (p.enc.map .d)]::S)
  (fun i=>i≤p.aJ.length∧(p.aJ.drop i).all eD=p.aJ.all eD) (fun i=>p.aJ.length-i) 0 rfl ?_ ⟨Nat.zero_le _,rfl⟩ ?_
 ·exact Z1
 rintro i ⟨p1,p2⟩
 refine W1 ?_
 refine S0 (fun hb h=>?_) fun hb h=>?_
 ·have hi:i<p.aJ.length:=by omega
  have hx:p.aJ[i].sz≤aI (p.aJ.map aQ.enc):=bD (List.mem_map_of_mem (List.getElem_mem hi))
  rw[rE hi] at p2
  refine W3 ?_
  refine C2 (lS p.aJ[i] (by omega)) ?_
  refine S0 (fun hb h=>?_) fun hb h=>?_
  ·exact ay (by unfold pX;rw[←p2,h];simp)
  ·rw[h,Bool.true_and] at p2
   exact bF (i+1) (by omega) rfl rfl ⟨by omega,p2⟩
 rw[List.drop_of_length_le (by omega),List.all_nil] at p2
 have f5:=p2.symm
 clear p2 p1 hb h
 refine aR (ι:=Nat) Tryz.checked.mixed rfl [1,6] (fun i=>[.c (.ptr (0,0) 0),.c (.d (.i .i64 i))]) (fun _=>[.box (p.enc.map .d)]::S)
  (fun i=>i≤p.aM.length∧(p.aM.drop i).all jE=p.aM.all jE) (fun i=>p.aM.length-i) 0 rfl ?_ ⟨Nat.zero_le _,rfl⟩ ?_
 ·exact Z1
 rintro i ⟨p1,p2⟩
 refine W1 ?_
 refine S0 (fun hb h=>?_) fun hb h=>?_
 ·have hi:i<p.aM.length:=by omega
  have hx:p.aM[i].sz≤aI (p.aM.map aS.enc):=bD (List.mem_map_of_mem (List.getElem_mem hi))
  rw[rE hi] at p2
  refine W3 ?_
  refine C2 (vv p.aM[i] (by omega)) ?_
  refine S0 (fun hb h=>?_) fun hb h=>?_
  ·exact ay (by unfold pX;rw[←p2,h];simp)
  ·rw[h,Bool.true_and] at p2
   exact bF (i+1) (by omega) rfl rfl ⟨by omega,p2⟩
 rw[List.drop_of_length_le (by omega),List.all_nil] at p2
 have f6:=p2.symm
 clear p2 p1 hb h
 exact ay (by unfold pX;rw[f3,f4,f5,f6];rfl)
end Go.Proofs.YtcfhnaohbaplhaaGreatDoor
namespace Go.Ab
theorem abU(p:aN):uI [p]=fu p:=by simp[uI]
theorem abV(p:aN):uJ [p]=gU p:=by simp[uJ]
theorem abW(p:aN):uK [p]=fQ p.ak:=by simp[uK]
theorem abX(p:aN):uL [p]=fnNames p:=by simp[uL]
end Go.Ab
namespace Go.Proofs.YtcfhnaohbaplhaaGreatDoor
open Go Go.Ab
set_option maxHeartbeats 2000000 in
theorem uN(p:aN)(hsz:p.sz≤4194304):aD Tryz.prog 79 [p.v] (.c (.d (.b (validPkg p)))):=fun S=>by
 have hs:=aN.sum p
 have hb:=aN.bounds hsz
 have hV:∀s∈p.dZ,s.length≤4194304:=fun s h=>by have:=nZ h;omega
 have l1:(fu p).length≤1073741824:=by simp[fu];omega
 have l2:(gU p).length≤1073741824:=by simp[gU];omega
 have l3:(fQ p.ak).length≤1073741824:=by omega
 have l4:(fnNames p).length≤1073741824:=by simp[fnNames];omega
 refine aB (rs:=[.tmp 2]) Tryz.checked.mixed Tryz.func79 Tryz.ntmps79 rfl rfl rfl rfl rfl ?_
 refine W1 ?_
 refine C1 (PS p hsz) ?_
 repeat' (first
  |refine S0 (fun hb h=>?_) fun hb h=>?_
  |((with_reducible show dX _ _ 159 _ _ _ _);refine bN (fU p.fName (by omega)) ?_;refine W1 ?_)
  |((with_reducible show dX _ _ 160 _ _ _ _);refine bN (jX p.dZ 5 (by omega) hV) ?_;refine W1 ?_)
  |((with_reducible show dX _ _ 161 _ _ _ _);refine bN (pQ p.dZ p.fName (by omega)) ?_;refine W1 ?_)
  |((with_reducible show dX _ _ 162 _ _ _ _);refine bN (mK (fu p) l1) ?_;refine W1 ?_)
  |((with_reducible show dX _ _ 162 _ _ _ _);refine bN (mK (gU p) l2) ?_;refine W1 ?_)
  |((with_reducible show dX _ _ 162 _ _ _ _);refine bN (mK (fQ p.ak) l3) ?_;refine W1 ?_)
  |((with_reducible show dX _ _ 162 _ _ _ _);refine bN (mK (fnNames p) l4) ?_;refine W1 ?_)
  |((with_reducible show dX _ _ 163 _ _ _ _);refine bN (PV p hsz) ?_;refine W1 ?_)
  |(refine ay ?_;unfold validPkg oW kM;rw[abU,abV,abW,abX];grind [iO,iK,bq,aC]))
end Go.Proofs.YtcfhnaohbaplhaaGreatDoor
namespace Go.Ab
def Jb:List UInt8:=[112,97,99,107,97,103,101]
def fJ(p:aN):List aj:=p.aK.map lQ++(p.ak.map yZ++(p.aJ.map rD++p.aM.map zU))
noncomputable def lI(p:aN):List aj:=p.aK.map r9++(p.ak.map zm++(p.aJ.map zq++p.aM.map A9))
def dV(p:aN):List aj:=[bO Jb,bO p.fName,bR (aU p.dZ)]
def wT(p:aN):aj:=bR (dV p++fJ p)
noncomputable def oG(p:aN):aj:=qX (validPkg p&&(fJ p).all gV) (wT p)
theorem Qz{p:aN}(h:p.sz≤1048576):(oG p).sz≤1048576:=Nat.le_trans (Z6 _ _) (by decide)
theorem pY(p:aN):(dV p++fJ p).length=3+p.aK.length+p.ak.length+p.aJ.length+p.aM.length:=by simp[dV,fJ];omega
theorem Hf(p:aN):(dV p++lI p).length=3+p.aK.length+p.ak.length+p.aJ.length+p.aM.length:=by simp[dV,lI];omega
theorem Ke{p:aN}{i:Nat}(hi:i<p.aK.length):(dV p++fJ p)[3+i]? =some (lQ p.aK[i]):=by
 unfold fJ
 rw[List.getElem?_append_right (by simp[dV]<;>omega),List.getElem?_append_left (by simp[dV]<;>omega),List.getElem?_map]
 have e:3+i-(dV p).length=i:=by simp[dV]<;>omega
 rw[e,List.getElem?_eq_getElem hi];rfl
theorem Kg{p:aN}{i:Nat}(hi:i<p.ak.length):(dV p++fJ p)[3+p.aK.length+i]? =some (yZ p.ak[i]):=by
 unfold fJ
 rw[List.getElem?_append_right (by simp[dV]<;>omega),List.getElem?_append_right (by simp[dV]<;>omega),List.getElem?_append_left (by simp[dV]<;>omega),List.getElem?_map]
 have e:3+p.aK.length+i-(dV p).length-(p.aK.map lQ).length=i:=by simp[dV]<;>omega
 rw[e,List.getElem?_eq_getElem hi];rfl
theorem Hg{p:aN}{i:Nat}(hi:i<p.aJ.length):(dV p++fJ p)[3+p.aK.length+p.ak.length+i]? =some (rD p.aJ[i]):=by
 unfold fJ
 rw[List.getElem?_append_right (by simp[dV]<;>omega),List.getElem?_append_right (by simp[dV]<;>omega),List.getElem?_append_right (by simp[dV]<;>omega),List.getElem?_append_left (by simp[dV]<;>omega),List.getElem?_map]
 have e:3+p.aK.length+p.ak.length+i-(dV p).length-(p.aK.map lQ).length-(p.ak.map yZ).length=i:=by simp[dV]<;>omega
 rw[e,List.getElem?_eq_getElem hi];rfl
theorem Kh{p:aN}{i:Nat}(hi:i<p.aM.length):(dV p++fJ p)[3+p.aK.length+p.ak.length+p.aJ.length+i]? =some (zU p.aM[i]):=by
 unfold fJ
 rw[List.getElem?_append_right (by simp[dV]<;>omega),List.getElem?_append_right (by simp[dV]<;>omega),List.getElem?_append_right (by simp[dV]<;>omega),List.getElem?_append_right (by simp[dV]<;>omega),List.getElem?_map]
 have e:3+p.aK.length+p.ak.length+p.aJ.length+i-(dV p).length-(p.aK.map lQ).length-(p.ak.map yZ).length-(p.aJ.map rD).length=i:=by simp[dV]<;>omega
 rw[e,List.getElem?_eq_getElem hi];rfl
theorem Ki{p:aN}{i:Nat}(hi:i<p.aK.length):(dV p++lI p)[3+i]? =some (r9 p.aK[i]):=by
 unfold lI
 rw[List.getElem?_append_right (by simp[dV]<;>omega),List.getElem?_append_left (by simp[dV]<;>omega),List.getElem?_map]
 have e:3+i-(dV p).length=i:=by simp[dV]<;>omega
 rw[e,List.getElem?_eq_getElem hi];rfl
theorem Kj{p:aN}{i:Nat}(hi:i<p.ak.length):(dV p++lI p)[3+p.aK.length+i]? =some (zm p.ak[i]):=by
 unfold lI
 rw[List.getElem?_append_right (by simp[dV]<;>omega),List.getElem?_append_right (by simp[dV]<;>omega),List.getElem?_append_left (by simp[dV]<;>omega),List.getElem?_map]
 have e:3+p.aK.length+i-(dV p).length-(p.aK.map r9).length=i:=by simp[dV]<;>omega
 rw[e,List.getElem?_eq_getElem hi];rfl
theorem Hl{p:aN}{i:Nat}(hi:i<p.aJ.length):(dV p++lI p)[3+p.aK.length+p.ak.length+i]? =some (zq p.aJ[i]):=by
 unfold lI
 rw[List.getElem?_append_right (by simp[dV]<;>omega),List.getElem?_append_right (by simp[dV]<;>omega),List.getElem?_append_right (by simp[dV]<;>omega),List.getElem?_append_left (by simp[dV]<;>omega),List.getElem?_map]
 have e:3+p.aK.length+p.ak.length+i-(dV p).length-(p.aK.map r9).length-(p.ak.map zm).length=i:=by simp[dV]<;>omega
 rw[e,List.getElem?_eq_getElem hi];rfl
theorem Kk{p:aN}{i:Nat}(hi:i<p.aM.length):(dV p++lI p)[3+p.aK.length+p.ak.length+p.aJ.length+i]? =some (A9 p.aM[i]):=by
 unfold lI
 rw[List.getElem?_append_right (by simp[dV]<;>omega),List.getElem?_append_right (by simp[dV]<;>omega),List.getElem?_append_right (by simp[dV]<;>omega),List.getElem?_append_right (by simp[dV]<;>omega),List.getElem?_map]
 have e:3+p.aK.length+p.ak.length+p.aJ.length+i-(dV p).length-(p.aK.map r9).length-(p.ak.map zm).length-(p.aJ.map zq).length=i:=by simp[dV]<;>omega
 rw[e,List.getElem?_eq_getElem hi];rfl
theorem yG{α:Type}(f:α→aj)(e:α→List D)(sz:α→Nat)(hs:∀a,sz a=bH (e a))(c k:Nat):∀l:List α,(∀a∈l,(f a).sz≤c+k*sz a)→fB (l.map f)≤c*l.length+k*aI (l.map e)
 |[],_=>by simp[fB]
 |a::l,h=>by
  have h1:=h a (List.mem_cons_self ..)
  have h2:=yG f e sz hs c k l fun b hb=>h b (List.mem_cons_of_mem _ hb)
  rw[hs] at h1
  rw[List.map_cons,fB,List.map_cons,aI,List.length_cons,Nat.mul_add,Nat.mul_add];omega
theorem nG{p:aN}(h:validPkg p=true):(∀t∈p.aK,dI t=true)∧(∀t∈p.ak,eG t=true)∧(∀t∈p.aJ,eD t=true)∧(∀t∈p.aM,jE t=true)∧p.aK.length+p.ak.length+p.aJ.length+p.aM.length≤24:=by
 unfold validPkg oW pX at h
 simp only[Bool.and_eq_true] at h
 obtain⟨⟨_,_,_,_,h0⟩,_,h1,h2,h3,h4⟩:=h
 exact⟨List.all_eq_true.1 h1,List.all_eq_true.1 h2,List.all_eq_true.1 h3,List.all_eq_true.1 h4,iO h0⟩
theorem Ho{p:aN}(hv:validPkg p=true):(wT p).sz≤4096+50*p.sz∧fB (fJ p)≤4000+50*p.sz:=by
 obtain⟨v1,v2,v3,v4,v5⟩:=nG hv
 have h1:=yG lQ bg.enc bg.sz (fun _=>rfl) 96 49 p.aK fun t ht=>by have:=Dp (v1 t ht);omega
 have h2:=yG yZ aO.enc aO.sz (fun _=>rfl) 96 49 p.ak fun t ht=>by have:=VJ t;omega
 have h3:=yG rD aQ.enc aQ.sz (fun _=>rfl) 96 49 p.aJ fun t ht=>by have:=CP (v3 t ht);omega
 have h4:=yG zU aS.enc aS.sz (fun _=>rfl) 96 49 p.aM fun t ht=>by have:=VP (wJ (v4 t ht)).2.2.2;omega
 have h5:=aN.sum p
 rw[dD] at h5
 have h6:fB (fJ p)≤4000+50*p.sz:=by
  unfold fJ;rw[gK,gK,gK];omega
 have h7:fB (fJ p)=fB (p.aK.map lQ)+(fB (p.ak.map yZ)+(fB (p.aJ.map rD)+fB (p.aM.map zU))):=by
  unfold fJ;rw[gK,gK,gK]
 refine⟨?_,h6⟩
 rw[wT,iL,gK,pY]
 simp[dV,fB,iR,iL,iH,ny,Jb];omega
theorem EX:∀(l:List aj) (n:Nat),∃ps:List (Nat×aj),lx l n=(ps.map fun q=>[.s q.2.bS,.ol q.1 (lx q.2.aY (q.1+1))])∧ps.map Prod.snd=l
 |[],n=>⟨[],rfl,rfl⟩
 |x::l,n=>by
  obtain⟨ps,h1,h2⟩:=EX l (n+dB x)
  exact⟨(n,x)::ps,by rw[iD,h1,iC];rfl,by rw[List.map_cons,h2]⟩
theorem Kl{p:aN}(hv:validPkg p=true):lI p=(fJ p).map o7:=by
 obtain⟨v1,v2,v3,v4,_⟩:=nG hv
 unfold lI fJ
 rw[List.map_append,List.map_append,List.map_append,List.map_map,List.map_map,List.map_map,List.map_map]
 congr 1
 ·exact List.map_congr_left fun t ht=>by unfold r9;rw[v1 t ht];rfl
 congr 1
 ·exact List.map_congr_left fun t ht=>by unfold zm;rw[v2 t ht];rfl
 congr 1
 ·exact List.map_congr_left fun t ht=>by unfold zq;rw[v3 t ht];rfl
 ·exact List.map_congr_left fun t ht=>by unfold A9;rw[v4 t ht];rfl
theorem VW{p:aN}:∀x∈fJ p,x.aY≠[]:=fun x hx=>by
 unfold fJ at hx
 simp only[List.mem_append,List.mem_map] at hx
 rcases hx with⟨t,_,rfl⟩|⟨t,_,rfl⟩|⟨t,_,rfl⟩|⟨t,_,rfl⟩
 ·rw[lQ,cO,gX];simp
 ·rw[yZ,cO,baseD];simp
 ·rw[rD,cO,kG];simp
 ·rw[zU,cO];simp
end Go.Ab
namespace Go.Proofs.YtcfhnaohbaplhaaGreatDoor
open Go Go.Ab
set_option maxHeartbeats 4000000 in
theorem YG(p:aN)(n:Nat)(hv:validPkg p=true)(hsz:p.sz≤1048576)(hall:∀x∈fJ p,gV x=true):aD Tryz.prog 63 [p.v] (.agg [.d (.s (o7 (wT p)).bS),.d (.ol n (lx (o7 (wT p)).aY (n+1)))]):=fun S=>by
 have hdz:=aN.sum p
 rw[dD] at hdz
 obtain⟨v1,v2,v3,v4,v5⟩:=nG hv
 obtain⟨hz,hzp⟩:=Ho hv
 obtain⟨PL,tL⟩:∃PL:List aj,PL=dV p++fJ p:=⟨_,rfl⟩
 obtain⟨L,hL⟩:∃L:Nat→Nat,L=fun i=>n+1+gD (PL.take i):=⟨_,rfl⟩
 obtain⟨T,hT⟩:∃T:Nat→List (List D),T=fun i=>lx (PL.take i) (n+1):=⟨_,rfl⟩
 have Hr:T 3=[[.s Jb,.ol (n+1) []],[.s p.fName,.ol (n+1+1) []],[.s [],.ol (n+1+1+1) (lx (aU p.dZ) (n+1+1+1+1))]]:=by
  rw[hT,tL];exact CB _ _ _ _
 have hlp:=pY p
 rw[←tL] at hlp
 have fP:∀i,(T i).length≤i:=fun i=>by
  rw[hT];simp only[eX]
  exact List.length_take_le i _
 have hTs:∀(i:Nat) (x:aj),PL[i]? =some x→x.bS=[]→T i++[[.s [],.ol (L i) (lx x.aY (L i+1))]]=T (i+1):=fun i x hx h0=>by
  obtain⟨hi,hg⟩:=List.getElem?_eq_some_iff.1 hx
  have:=vg hi (n+1)
  rw[hg,h0] at this
  rw[hT,hL];exact this
 have hTr:∀i,∀r∈T i,r.length=2:=fun i=>by rw[hT];exact jc
 have g1:=fun i hi=>Ke (p:=p) (i:=i) hi
 have g2:=fun i hi=>Kg (p:=p) (i:=i) hi
 have g3:=fun i hi=>Hg (p:=p) (i:=i) hi
 have g4:=fun i hi=>Kh (p:=p) (i:=i) hi
 rw[←tL] at g1 g2 g3 g4
 have hTe:T (3+p.aK.length+p.ak.length+p.aJ.length+p.aM.length)=lx (wT p).aY (n+1):=by
  rw[hT];simp only
  rw[List.take_of_length_le (by omega),tL];rfl
 have hTm:(T (3+p.aK.length+p.ak.length+p.aJ.length+p.aM.length)).length=3+p.aK.length+p.ak.length+p.aJ.length+p.aM.length:=by rw[hTe,eX,wT,cO,pY]
 obtain⟨ps,hp1,hp2⟩:=EX (fJ p) (n+1+gD (dV p))
 have afR:ps.length≤24:=by
  have h1:=congrArg List.length hp2
  rw[List.length_map] at h1
  have h2:=pY p
  rw[List.length_append] at h2
  simp[dV] at h2;omega
 have hdr:(T (3+p.aK.length+p.ak.length+p.aJ.length+p.aM.length)).drop 3=ps.map fun q=>[.s q.2.bS,.ol q.1 (lx q.2.aY (q.1+1))]:=by
  rw[hTe,wT,cO,jy,←hp1];rfl
 clear hT hL
 refine nk (n) 1 (rs:=[.cell 2 78]) Tryz.checked.mixed Tryz.func63 Tryz.ntmps63 rfl rfl rfl rfl rfl ?_
 refine W1 ?_
 refine bN (uM p (by omega)) ?_
 simp -implicitDefEqProofs (disch:=omega) only[go_sem,hv]
 refine C1 (bZ _ (n+1)) ?_
 refine C1 (bZ _ (n+1+1)) ?_
 refine C1 (dP p.dZ (by omega) (n+1+1+1)) ?_
 refine W3 ?_
 refine kW n 3 2 (T 3) (.inl ?_) (hTr 3) ?_
 ·rw[Hr];rfl
 refine kZ (L 3) ?_
 refine aR (ι:=Nat) Tryz.checked.mixed rfl [1,2,3,27,28,29] (fun i=>[.c (.ptr (0,2) 0),.c (.ptr (0,3) 0),.c (.bI (0,4) (T (3+i))),.c (.d (.sl (p.aK.map bg.enc))),.c (.d (.i .i64 p.aK.length)),.c (.d (.i .i64 i))])
  (fun i=>[.seed (L (3+i)),.seed 1,.box [.d (.s p.fName),.d (.sl (p.dZ.map encS)),.d (.sl (p.aK.map bg.enc)),.d (.sl (p.ak.map aO.enc)),.d (.sl (p.aJ.map aQ.enc)),.d (.sl (p.aM.map aS.enc))],.box [.d (.s []),.bC []],.eB n 2 (T (3+i))]::S)
  (fun i=>i≤p.aK.length) (fun i=>p.aK.length-i) 0 rfl rfl (Nat.zero_le _) ?_
 intro i hi
 have hl:=fP (3+i)
 refine W1 ?_
 refine S0 (fun hb h=>?_) fun hb h=>?_
 ·have hi':i<p.aK.length:=by omega
  have hm:=List.getElem_mem hi'
  have hcz:=bD (List.mem_map_of_mem (f:=bg.enc) hm)
  have sK:p.aK[i].sz≤aI (p.aK.map bg.enc):=hcz
  have hs:=hTs _ _ (g1 i hi') rfl
  refine W3 ?_
  refine C1 (Br p.aK[i] (L (3+i)) (v1 _ hm) (by omega)) ?_
  refine W3 ?_
  rw[hs]
  refine jf (L (3+(i+1))) 4 (by decide) (i+1) (by omega) rfl rfl ?_ rfl (by omega)
  simp[gG,fH,V.refs,C.refs,iW]
 have hi':i=p.aK.length:=by omega
 subst hi'
 clear hi hl h
 refine aR (ι:=Nat) Tryz.checked.mixed rfl [1,2,3,40,41,42] (fun i=>[.c (.ptr (0,2) 0),.c (.ptr (0,3) 0),.c (.bI (0,4) (T (3+p.aK.length+i))),.c (.d (.sl (p.ak.map aO.enc))),.c (.d (.i .i64 p.ak.length)),.c (.d (.i .i64 i))])
  (fun i=>[.seed (L (3+p.aK.length+i)),.seed 1,.box [.d (.s p.fName),.d (.sl (p.dZ.map encS)),.d (.sl (p.aK.map bg.enc)),.d (.sl (p.ak.map aO.enc)),.d (.sl (p.aJ.map aQ.enc)),.d (.sl (p.aM.map aS.enc))],.box [.d (.s []),.bC []],.eB n 2 (T (3+p.aK.length+i))]::S)
  (fun i=>i≤p.ak.length) (fun i=>p.ak.length-i) 0 rfl rfl (Nat.zero_le _) ?_
 intro i hi
 have hl:=fP (3+p.aK.length+i)
 refine W1 ?_
 refine S0 (fun hb h=>?_) fun hb h=>?_
 ·have hi':i<p.ak.length:=by omega
  have hm:=List.getElem_mem hi'
  have hcz:=bD (List.mem_map_of_mem (f:=aO.enc) hm)
  have sK:p.ak[i].sz≤aI (p.ak.map aO.enc):=hcz
  have hs:=hTs _ _ (g2 i hi') rfl
  refine W3 ?_
  refine C1 (y5 p.ak[i] (L (3+p.aK.length+i)) (v2 _ hm) (by omega)) ?_
  refine W3 ?_
  rw[hs]
  refine jf (L (3+p.aK.length+(i+1))) 4 (by decide) (i+1) (by omega) rfl rfl ?_ rfl (by omega)
  simp[gG,fH,V.refs,C.refs,iW]
 have hi':i=p.ak.length:=by omega
 subst hi'
 clear hi hl h
 refine aR (ι:=Nat) Tryz.checked.mixed rfl [1,2,3,53,54,55] (fun i=>[.c (.ptr (0,2) 0),.c (.ptr (0,3) 0),.c (.bI (0,4) (T (3+p.aK.length+p.ak.length+i))),.c (.d (.sl (p.aJ.map aQ.enc))),.c (.d (.i .i64 p.aJ.length)),.c (.d (.i .i64 i))])
  (fun i=>[.seed (L (3+p.aK.length+p.ak.length+i)),.seed 1,.box [.d (.s p.fName),.d (.sl (p.dZ.map encS)),.d (.sl (p.aK.map bg.enc)),.d (.sl (p.ak.map aO.enc)),.d (.sl (p.aJ.map aQ.enc)),.d (.sl (p.aM.map aS.enc))],.box [.d (.s []),.bC []],.eB n 2 (T (3+p.aK.length+p.ak.length+i))]::S)
  (fun i=>i≤p.aJ.length) (fun i=>p.aJ.length-i) 0 rfl rfl (Nat.zero_le _) ?_
 intro i hi
 have hl:=fP (3+p.aK.length+p.ak.length+i)
 refine W1 ?_
 refine S0 (fun hb h=>?_) fun hb h=>?_
 ·have hi':i<p.aJ.length:=by omega
  have hm:=List.getElem_mem hi'
  have hcz:=bD (List.mem_map_of_mem (f:=aQ.enc) hm)
  have sK:p.aJ[i].sz≤aI (p.aJ.map aQ.enc):=hcz
  have hs:=hTs _ _ (g3 i hi') rfl
  refine W3 ?_
  refine C1 (CQ p.aJ[i] (L (3+p.aK.length+p.ak.length+i)) (v3 _ hm) (by omega)) ?_
  refine W3 ?_
  rw[hs]
  refine jf (L (3+p.aK.length+p.ak.length+(i+1))) 4 (by decide) (i+1) (by omega) rfl rfl ?_ rfl (by omega)
  simp[gG,fH,V.refs,C.refs,iW]
 have hi':i=p.aJ.length:=by omega
 subst hi'
 clear hi hl h
 refine aR (ι:=Nat) Tryz.checked.mixed rfl [2,3,66,67,68] (fun i=>[.c (.ptr (0,3) 0),.c (.bI (0,4) (T (3+p.aK.length+p.ak.length+p.aJ.length+i))),.c (.d (.sl (p.aM.map aS.enc))),.c (.d (.i .i64 p.aM.length)),.c (.d (.i .i64 i))])
  (fun i=>[.seed (L (3+p.aK.length+p.ak.length+p.aJ.length+i)),.seed 1,.box [.d (.s p.fName),.d (.sl (p.dZ.map encS)),.d (.sl (p.aK.map bg.enc)),.d (.sl (p.ak.map aO.enc)),.d (.sl (p.aJ.map aQ.enc)),.d (.sl (p.aM.map aS.enc))],.box [.d (.s []),.bC []],.eB n 2 (T (3+p.aK.length+p.ak.length+p.aJ.length+i))]::S)
  (fun i=>i≤p.aM.length) (fun i=>p.aM.length-i) 0 rfl rfl (Nat.zero_le _) ?_
 intro i hi
 have hl:=fP (3+p.aK.length+p.ak.length+p.aJ.length+i)
 refine W1 ?_
 refine S0 (fun hb h=>?_) fun hb h=>?_
 ·have hi':i<p.aM.length:=by omega
  have hm:=List.getElem_mem hi'
  have hcz:=bD (List.mem_map_of_mem (f:=aS.enc) hm)
  have sK:p.aM[i].sz≤aI (p.aM.map aS.enc):=hcz
  have hs:=hTs _ _ (g4 i hi') rfl
  refine W3 ?_
  refine C1 (Bq p.aM[i] (L (3+p.aK.length+p.ak.length+p.aJ.length+i)) (v4 _ hm) (by omega)) ?_
  refine W3 ?_
  rw[hs]
  refine jf (L (3+p.aK.length+p.ak.length+p.aJ.length+(i+1))) 4 (by decide) (i+1) (by omega) rfl rfl ?_ rfl (by omega)
  simp[gG,fH,V.refs,C.refs,iW]
 have hi':i=p.aM.length:=by omega
 subst hi'
 clear hi hl h
 have YH:=hTr (3+p.aK.length+p.ak.length+p.aJ.length+p.aM.length)
 refine⟨⟨by omega,by omega,YH⟩,?_⟩
 rw[List.take_length,hdr]
 simp only[List.length_map]
 refine xW (zn 4 n n) ?_
 refine aR (ι:=Nat) Tryz.checked.mixed rfl [2,3,79,80,81] (fun i=>[.c (.ptr (0,3) 0),.c (.bI (0,4) (T (3+p.aK.length+p.ak.length+p.aJ.length+p.aM.length))),.c (.d (.sl (ps.map fun q=>[.s q.2.bS,.ol q.1 (lx q.2.aY (q.1+1))]))),.c (.d (.i .i64 ps.length)),.c (.d (.i .i64 i))])
  (fun i=>[.seed (L (3+p.aK.length+p.ak.length+p.aJ.length+p.aM.length)),.seed 1,.box [.d (.s p.fName),.d (.sl (p.dZ.map encS)),.d (.sl (p.aK.map bg.enc)),.d (.sl (p.ak.map aO.enc)),.d (.sl (p.aJ.map aQ.enc)),.d (.sl (p.aM.map aS.enc))],.box [.d (.s []),.bC []],.eB n 2 (T (3+p.aK.length+p.ak.length+p.aJ.length+p.aM.length))]::S)
  (fun i=>i≤ps.length∧∀j (hj:j<ps.length),j<i→gV ps[j].2=true) (fun i=>ps.length-i) 0 rfl rfl ⟨Nat.zero_le _,fun j hj h=>by omega⟩ ?_
 rintro i ⟨hi,hj⟩
 refine W1 ?_
 refine S0 (fun hb h=>?_) fun hb h=>?_
 ·have hi':i<ps.length:=by omega
  have hm:ps[i].2∈fJ p:=by rw[←hp2];exact List.mem_map_of_mem (List.getElem_mem hi')
  have hx:=xE hm
  refine W3 ?_
  refine nK (qh ps[i].2 (by omega)) (.cons (Dk ps[i].2 ps[i].1) .nil) ?_
  have yU:=hall _ hm
  simp -implicitDefEqProofs (disch:=omega) only[go_sem,yU]
  exact bX 5 (by decide) (i+1) (by omega) rfl rfl rfl rfl ⟨by omega,fun j hj' hlt=>by
   by_cases e:j=i
   ·subst e;exact yU
   ·exact hj j hj' (by omega)⟩
 ·rw[hTe]
  refine C1 (jo _) ?_
  exact C3 (SG (wT p) n (by omega))
set_option maxHeartbeats 4000000 in
theorem YI(p:aN)(n:Nat)(hv:validPkg p=true)(hsz:p.sz≤1048576)(hall:¬∀x∈fJ p,gV x=true):aD Tryz.prog 63 [p.v] (.agg [.d (.s []),.bC []]):=fun S=>by
 have hdz:=aN.sum p
 rw[dD] at hdz
 obtain⟨v1,v2,v3,v4,v5⟩:=nG hv
 obtain⟨hz,hzp⟩:=Ho hv
 obtain⟨PL,tL⟩:∃PL:List aj,PL=dV p++fJ p:=⟨_,rfl⟩
 obtain⟨L,hL⟩:∃L:Nat→Nat,L=fun i=>n+1+gD (PL.take i):=⟨_,rfl⟩
 obtain⟨T,hT⟩:∃T:Nat→List (List D),T=fun i=>lx (PL.take i) (n+1):=⟨_,rfl⟩
 have Hr:T 3=[[.s Jb,.ol (n+1) []],[.s p.fName,.ol (n+1+1) []],[.s [],.ol (n+1+1+1) (lx (aU p.dZ) (n+1+1+1+1))]]:=by
  rw[hT,tL];exact CB _ _ _ _
 have hlp:=pY p
 rw[←tL] at hlp
 have fP:∀i,(T i).length≤i:=fun i=>by
  rw[hT];simp only[eX]
  exact List.length_take_le i _
 have hTs:∀(i:Nat) (x:aj),PL[i]? =some x→x.bS=[]→T i++[[.s [],.ol (L i) (lx x.aY (L i+1))]]=T (i+1):=fun i x hx h0=>by
  obtain⟨hi,hg⟩:=List.getElem?_eq_some_iff.1 hx
  have:=vg hi (n+1)
  rw[hg,h0] at this
  rw[hT,hL];exact this
 have hTr:∀i,∀r∈T i,r.length=2:=fun i=>by rw[hT];exact jc
 have g1:=fun i hi=>Ke (p:=p) (i:=i) hi
 have g2:=fun i hi=>Kg (p:=p) (i:=i) hi
 have g3:=fun i hi=>Hg (p:=p) (i:=i) hi
 have g4:=fun i hi=>Kh (p:=p) (i:=i) hi
 rw[←tL] at g1 g2 g3 g4
 have hTe:T (3+p.aK.length+p.ak.length+p.aJ.length+p.aM.length)=lx (wT p).aY (n+1):=by
  rw[hT];simp only
  rw[List.take_of_length_le (by omega),tL];rfl
 have hTm:(T (3+p.aK.length+p.ak.length+p.aJ.length+p.aM.length)).length=3+p.aK.length+p.ak.length+p.aJ.length+p.aM.length:=by rw[hTe,eX,wT,cO,pY]
 obtain⟨ps,hp1,hp2⟩:=EX (fJ p) (n+1+gD (dV p))
 have afR:ps.length≤24:=by
  have h1:=congrArg List.length hp2
  rw[List.length_map] at h1
  have h2:=pY p
  rw[List.length_append] at h2
  simp[dV] at h2;omega
 have hdr:(T (3+p.aK.length+p.ak.length+p.aJ.length+p.aM.length)).drop 3=ps.map fun q=>[.s q.2.bS,.ol q.1 (lx q.2.aY (q.1+1))]:=by
  rw[hTe,wT,cO,jy,←hp1];rfl
 clear hT hL
 refine nk (n) 1 (rs:=[.cell 2 78]) Tryz.checked.mixed Tryz.func63 Tryz.ntmps63 rfl rfl rfl rfl rfl ?_
 refine W1 ?_
 refine bN (uM p (by omega)) ?_
 simp -implicitDefEqProofs (disch:=omega) only[go_sem,hv]
 refine C1 (bZ _ (n+1)) ?_
 refine C1 (bZ _ (n+1+1)) ?_
 refine C1 (dP p.dZ (by omega) (n+1+1+1)) ?_
 refine W3 ?_
 refine kW n 3 2 (T 3) (.inl ?_) (hTr 3) ?_
 ·rw[Hr];rfl
 refine kZ (L 3) ?_
 refine aR (ι:=Nat) Tryz.checked.mixed rfl [1,2,3,27,28,29] (fun i=>[.c (.ptr (0,2) 0),.c (.ptr (0,3) 0),.c (.bI (0,4) (T (3+i))),.c (.d (.sl (p.aK.map bg.enc))),.c (.d (.i .i64 p.aK.length)),.c (.d (.i .i64 i))])
  (fun i=>[.seed (L (3+i)),.seed 1,.box [.d (.s p.fName),.d (.sl (p.dZ.map encS)),.d (.sl (p.aK.map bg.enc)),.d (.sl (p.ak.map aO.enc)),.d (.sl (p.aJ.map aQ.enc)),.d (.sl (p.aM.map aS.enc))],.box [.d (.s []),.bC []],.eB n 2 (T (3+i))]::S)
  (fun i=>i≤p.aK.length) (fun i=>p.aK.length-i) 0 rfl rfl (Nat.zero_le _) ?_
 intro i hi
 have hl:=fP (3+i)
 refine W1 ?_
 refine S0 (fun hb h=>?_) fun hb h=>?_
 ·have hi':i<p.aK.length:=by omega
  have hm:=List.getElem_mem hi'
  have hcz:=bD (List.mem_map_of_mem (f:=bg.enc) hm)
  have sK:p.aK[i].sz≤aI (p.aK.map bg.enc):=hcz
  have hs:=hTs _ _ (g1 i hi') rfl
  refine W3 ?_
  refine C1 (Br p.aK[i] (L (3+i)) (v1 _ hm) (by omega)) ?_
  refine W3 ?_
  rw[hs]
  refine jf (L (3+(i+1))) 4 (by decide) (i+1) (by omega) rfl rfl ?_ rfl (by omega)
  simp[gG,fH,V.refs,C.refs,iW]
 have hi':i=p.aK.length:=by omega
 subst hi'
 clear hi hl h
 refine aR (ι:=Nat) Tryz.checked.mixed rfl [1,2,3,40,41,42] (fun i=>[.c (.ptr (0,2) 0),.c (.ptr (0,3) 0),.c (.bI (0,4) (T (3+p.aK.length+i))),.c (.d (.sl (p.ak.map aO.enc))),.c (.d (.i .i64 p.ak.length)),.c (.d (.i .i64 i))])
  (fun i=>[.seed (L (3+p.aK.length+i)),.seed 1,.box [.d (.s p.fName),.d (.sl (p.dZ.map encS)),.d (.sl (p.aK.map bg.enc)),.d (.sl (p.ak.map aO.enc)),.d (.sl (p.aJ.map aQ.enc)),.d (.sl (p.aM.map aS.enc))],.box [.d (.s []),.bC []],.eB n 2 (T (3+p.aK.length+i))]::S)
  (fun i=>i≤p.ak.length) (fun i=>p.ak.length-i) 0 rfl rfl (Nat.zero_le _) ?_
 intro i hi
 have hl:=fP (3+p.aK.length+i)
 refine W1 ?_
 refine S0 (fun hb h=>?_) fun hb h=>?_
 ·have hi':i<p.ak.length:=by omega
  have hm:=List.getElem_mem hi'
  have hcz:=bD (List.mem_map_of_mem (f:=aO.enc) hm)
  have sK:p.ak[i].sz≤aI (p.ak.map aO.enc):=hcz
  have hs:=hTs _ _ (g2 i hi') rfl
  refine W3 ?_
  refine C1 (y5 p.ak[i] (L (3+p.aK.length+i)) (v2 _ hm) (by omega)) ?_
  refine W3 ?_
  rw[hs]
  refine jf (L (3+p.aK.length+(i+1))) 4 (by decide) (i+1) (by omega) rfl rfl ?_ rfl (by omega)
  simp[gG,fH,V.refs,C.refs,iW]
 have hi':i=p.ak.length:=by omega
 subst hi'
 clear hi hl h
 refine aR (ι:=Nat) Tryz.checked.mixed rfl [1,2,3,53,54,55] (fun i=>[.c (.ptr (0,2) 0),.c (.ptr (0,3) 0),.c (.bI (0,4) (T (3+p.aK.length+p.ak.length+i))),.c (.d (.sl (p.aJ.map aQ.enc))),.c (.d (.i .i64 p.aJ.length)),.c (.d (.i .i64 i))])
  (fun i=>[.seed (L (3+p.aK.length+p.ak.length+i)),.seed 1,.box [.d (.s p.fName),.d (.sl (p.dZ.map encS)),.d (.sl (p.aK.map bg.enc)),.d (.sl (p.ak.map aO.enc)),.d (.sl (p.aJ.map aQ.enc)),.d (.sl (p.aM.map aS.enc))],.box [.d (.s []),.bC []],.eB n 2 (T (3+p.aK.length+p.ak.length+i))]::S)
  (fun i=>i≤p.aJ.length) (fun i=>p.aJ.length-i) 0 rfl rfl (Nat.zero_le _) ?_
 intro i hi
 have hl:=fP (3+p.aK.length+p.ak.length+i)
 refine W1 ?_
 refine S0 (fun hb h=>?_) fun hb h=>?_
 ·have hi':i<p.aJ.length:=by omega
  have hm:=List.getElem_mem hi'
  have hcz:=bD (List.mem_map_of_mem (f:=aQ.enc) hm)
  have sK:p.aJ[i].sz≤aI (p.aJ.map aQ.enc):=hcz
  have hs:=hTs _ _ (g3 i hi') rfl
  refine W3 ?_
  refine C1 (CQ p.aJ[i] (L (3+p.aK.length+p.ak.length+i)) (v3 _ hm) (by omega)) ?_
  refine W3 ?_
  rw[hs]
  refine jf (L (3+p.aK.length+p.ak.length+(i+1))) 4 (by decide) (i+1) (by omega) rfl rfl ?_ rfl (by omega)
  simp[gG,fH,V.refs,C.refs,iW]
 have hi':i=p.aJ.length:=by omega
 subst hi'
 clear hi hl h
 refine aR (ι:=Nat) Tryz.checked.mixed rfl [2,3,66,67,68] (fun i=>[.c (.ptr (0,3) 0),.c (.bI (0,4) (T (3+p.aK.length+p.ak.length+p.aJ.length+i))),.c (.d (.sl (p.aM.map aS.enc))),.c (.d (.i .i64 p.aM.length)),.c (.d (.i .i64 i))])
  (fun i=>[.seed (L (3+p.aK.length+p.ak.length+p.aJ.length+i)),.seed 1,.box [.d (.s p.fName),.d (.sl (p.dZ.map encS)),.d (.sl (p.aK.map bg.enc)),.d (.sl (p.ak.map aO.enc)),.d (.sl (p.aJ.map aQ.enc)),.d (.sl (p.aM.map aS.enc))],.box [.d (.s []),.bC []],.eB n 2 (T (3+p.aK.length+p.ak.length+p.aJ.length+i))]::S)
  (fun i=>i≤p.aM.length) (fun i=>p.aM.length-i) 0 rfl rfl (Nat.zero_le _) ?_
 intro i hi
 have hl:=fP (3+p.aK.length+p.ak.length+p.aJ.length+i)
 refine W1 ?_
 refine S0 (fun hb h=>?_) fun hb h=>?_
 ·have hi':i<p.aM.length:=by omega
  have hm:=List.getElem_mem hi'
  have hcz:=bD (List.mem_map_of_mem (f:=aS.enc) hm)
  have sK:p.aM[i].sz≤aI (p.aM.map aS.enc):=hcz
  have hs:=hTs _ _ (g4 i hi') rfl
  refine W3 ?_
  refine C1 (Bq p.aM[i] (L (3+p.aK.length+p.ak.length+p.aJ.length+i)) (v4 _ hm) (by omega)) ?_
  refine W3 ?_
  rw[hs]
  refine jf (L (3+p.aK.length+p.ak.length+p.aJ.length+(i+1))) 4 (by decide) (i+1) (by omega) rfl rfl ?_ rfl (by omega)
  simp[gG,fH,V.refs,C.refs,iW]
 have hi':i=p.aM.length:=by omega
 subst hi'
 clear hi hl h
 have YH:=hTr (3+p.aK.length+p.ak.length+p.aJ.length+p.aM.length)
 refine⟨⟨by omega,by omega,YH⟩,?_⟩
 rw[List.take_length,hdr]
 simp only[List.length_map]
 refine xW (zn 4 n n) ?_
 refine aR (ι:=Nat) Tryz.checked.mixed rfl [2,3,79,80,81] (fun i=>[.c (.ptr (0,3) 0),.c (.bI (0,4) (T (3+p.aK.length+p.ak.length+p.aJ.length+p.aM.length))),.c (.d (.sl (ps.map fun q=>[.s q.2.bS,.ol q.1 (lx q.2.aY (q.1+1))]))),.c (.d (.i .i64 ps.length)),.c (.d (.i .i64 i))])
  (fun i=>[.seed (L (3+p.aK.length+p.ak.length+p.aJ.length+p.aM.length)),.seed 1,.box [.d (.s p.fName),.d (.sl (p.dZ.map encS)),.d (.sl (p.aK.map bg.enc)),.d (.sl (p.ak.map aO.enc)),.d (.sl (p.aJ.map aQ.enc)),.d (.sl (p.aM.map aS.enc))],.box [.d (.s []),.bC []],.eB n 2 (T (3+p.aK.length+p.ak.length+p.aJ.length+p.aM.length))]::S)
  (fun i=>i≤ps.length∧∀j (hj:j<ps.length),j<i→gV ps[j].2=true) (fun i=>ps.length-i) 0 rfl rfl ⟨Nat.zero_le _,fun j hj h=>by omega⟩ ?_
 rintro i ⟨hi,hj⟩
 refine W1 ?_
 refine S0 (fun hb h=>?_) fun hb h=>?_
 ·have hi':i<ps.length:=by omega
  have hm:ps[i].2∈fJ p:=by rw[←hp2];exact List.mem_map_of_mem (List.getElem_mem hi')
  have hx:=xE hm
  refine W3 ?_
  refine nK (qh ps[i].2 (by omega)) (.cons (Dk ps[i].2 ps[i].1) .nil) ?_
  cases yU:gV ps[i].2 with
  |false=>simp -implicitDefEqProofs (disch:=omega) only[go_sem,yU]
  |true=>
   simp -implicitDefEqProofs (disch:=omega) only[go_sem,yU]
   exact bX 5 (by decide) (i+1) (by omega) rfl rfl rfl rfl ⟨by omega,fun j hj' hlt=>by
    by_cases e:j=i
    ·subst e;exact yU
    ·exact hj j hj' (by omega)⟩
 ·exact absurd (fun x hx=>by
   rw[←hp2] at hx
   obtain⟨q,hq,rfl⟩:=List.mem_map.1 hx
   obtain⟨j,hj1,rfl⟩:=List.getElem_of_mem hq
   exact hj j hj1 (by omega)) hall
theorem PW(x:aN)(n:Nat)(hsz:x.sz≤1048576):aD Tryz.prog 63 [x.v] (.agg [.d (.s (oG x).bS),.d (.ol n (lx (oG x).aY (n+1)))]):=by
 unfold oG
 cases hv:validPkg x with
 |false=>
  rw[Bool.false_and,qX]
  refine aD.less (fun S=> ?_) (Dj [] n)
  refine aB (rs:=[.cell 2 78]) Tryz.checked.mixed Tryz.func63 Tryz.ntmps63 rfl rfl rfl rfl rfl ?_
  refine W1 ?_
  refine bN (uM x (by omega)) ?_
  simp -implicitDefEqProofs (disch:=omega) only[go_sem,hv]
 |true=>
  rw[Bool.true_and]
  cases ha:(fJ x).all gV with
  |true=>exact YG x n hv hsz (List.all_eq_true.1 ha)
  |false=>
   rw[qX]
   refine aD.less (YI x n hv hsz fun h=> ?_) (Dj [] n)
   rw[List.all_eq_true.2 h] at ha
   cases ha
set_option maxHeartbeats 4000000 in
theorem YJ(p:aN)(hv:validPkg p=true)(hsz:p.sz≤1048576)(hall:∀x∈fJ p,gV x=true):aD Tryz.prog 57 [p.v] ((o7 (wT p)).v):=fun S=>by
 have hdz:=aN.sum p
 rw[dD] at hdz
 obtain⟨v1,v2,v3,v4,v5⟩:=nG hv
 obtain⟨hz,hzp⟩:=Ho hv
 obtain⟨PL,tL⟩:∃PL:List aj,PL=dV p++lI p:=⟨_,rfl⟩
 obtain⟨T,hT⟩:∃T:Nat→List (List D),T=fun i=>(PL.take i).map aj.enc:=⟨_,rfl⟩
 have Hr:T 3=[[.s Jb,.sl []],[.s p.fName,.sl []],[.s [],.sl ((aU p.dZ).map aj.enc)]]:=by
  rw[hT,tL];simp only[dV,List.cons_append,List.nil_append,List.take_succ_cons,List.take_zero,List.map_cons,List.map_nil,dY,iA]
 have hlp:=Hf p
 rw[←tL] at hlp
 have fP:∀i,(T i).length≤i:=fun i=>by
  rw[hT];simp only[List.length_map]
  exact List.length_take_le i _
 have hTs:∀(i:Nat) (x:aj),PL[i]? =some x→T i++[[.s x.bS,.sl (x.aY.map aj.enc)]]=T (i+1):=fun i x hx=>by
  obtain⟨hi,hg⟩:=List.getElem?_eq_some_iff.1 hx
  have:=gT (base:=[]) (l:=PL) hi
  rw[hg] at this
  rw[hT];exact this
 have hTr:∀i,∀r∈T i,r.length=2:=fun i=>by rw[hT];exact ji
 have g1:=fun i hi=>Ki (p:=p) (i:=i) hi
 have g2:=fun i hi=>Kj (p:=p) (i:=i) hi
 have g3:=fun i hi=>Hl (p:=p) (i:=i) hi
 have g4:=fun i hi=>Kk (p:=p) (i:=i) hi
 rw[←tL] at g1 g2 g3 g4
 have hTe:T (3+p.aK.length+p.ak.length+p.aJ.length+p.aM.length)=PL.map aj.enc:=by
  rw[hT];simp only
  rw[List.take_of_length_le (by omega)]
 clear hT
 refine aB (rs:=[.cell 2 78]) Tryz.checked.mixed Tryz.func57 Tryz.ntmps57 rfl rfl rfl rfl rfl ?_
 refine W1 ?_
 refine bN (uN p (by omega)) ?_
 simp -implicitDefEqProofs (disch:=omega) only[go_sem,hv]
 refine C1 (bK _) ?_
 refine C1 (bK _) ?_
 refine C1 (dH p.dZ (by omega)) ?_
 have hE:=fun bM Ω=>iM (T 3) (hTr 3) (by have:=fP 3;omega) bM Ω
 simp only[Hr] at hE
 refine kQ [false] rfl (hE _ _) ?_
 refine W1 ?_
 refine aR (ι:=Nat) Tryz.checked.mixed rfl [1,2,3,4] (fun i=>[.c (.ptr (0,0) 0),.c (.ptr (0,1) 0),.c (.ptr (0,4) 0),.c (.d (.i .i64 i))])
  (fun i=>[.box [.d (.s p.fName),.d (.sl (p.dZ.map encS)),.d (.sl (p.aK.map bg.enc)),.d (.sl (p.ak.map aO.enc)),.d (.sl (p.aJ.map aQ.enc)),.d (.sl (p.aM.map aS.enc))],.box [.d (.s []),.bC []],.box [.d (.s []),.bI (0,3) (T 3)],.tok 2 (T (3+i)),.box [.d (.s []),.bI (0,3) (T (3+i))]]::S)
  (fun i=>i≤p.aK.length) (fun i=>p.aK.length-i) 0 rfl (by simp only[Hr]<;>(try rfl)) (Nat.zero_le _) ?_
 intro i hi
 have hl:=fP (3+i)
 refine W1 ?_
 refine S0 (fun hb h=>?_) fun hb h=>?_
 ·have hi':i<p.aK.length:=by omega
  have hm:=List.getElem_mem hi'
  have hcz:=bD (List.mem_map_of_mem (f:=bg.enc) hm)
  have sK:p.aK[i].sz≤aI (p.aK.map bg.enc):=hcz
  have hs:=hTs _ _ (g1 i hi')
  have hc:aD Tryz.prog 130 [p.aK[i].v] (.agg [.d (.s (r9 p.aK[i]).bS),.d (.sl ((r9 p.aK[i]).aY.map aj.enc))]):=J9 p.aK[i] (by omega)
  refine W3 ?_
  refine bN hc ?_
  refine W1 ?_
  refine W3 ?_
  rw[hs]
  exact bX 5 (by decide) (i+1) (by omega) rfl rfl rfl rfl (by omega)
 have hi':i=p.aK.length:=by omega
 subst hi'
 clear hi hl h
 refine aR (ι:=Nat) Tryz.checked.mixed rfl [1,2,3,5] (fun i=>[.c (.ptr (0,0) 0),.c (.ptr (0,1) 0),.c (.ptr (0,4) 0),.c (.d (.i .i64 i))])
  (fun i=>[.box [.d (.s p.fName),.d (.sl (p.dZ.map encS)),.d (.sl (p.aK.map bg.enc)),.d (.sl (p.ak.map aO.enc)),.d (.sl (p.aJ.map aQ.enc)),.d (.sl (p.aM.map aS.enc))],.box [.d (.s []),.bC []],.box [.d (.s []),.bI (0,3) (T 3)],.tok 2 (T (3+p.aK.length+i)),.box [.d (.s []),.bI (0,3) (T (3+p.aK.length+i))]]::S)
  (fun i=>i≤p.ak.length) (fun i=>p.ak.length-i) 0 rfl rfl (Nat.zero_le _) ?_
 intro i hi
 have hl:=fP (3+p.aK.length+i)
 refine W1 ?_
 refine S0 (fun hb h=>?_) fun hb h=>?_
 ·have hi':i<p.ak.length:=by omega
  have hm:=List.getElem_mem hi'
  have hcz:=bD (List.mem_map_of_mem (f:=aO.enc) hm)
  have sK:p.ak[i].sz≤aI (p.ak.map aO.enc):=hcz
  have hs:=hTs _ _ (g2 i hi')
  have hc:aD Tryz.prog 131 [p.ak[i].v] (.agg [.d (.s (zm p.ak[i]).bS),.d (.sl ((zm p.ak[i]).aY.map aj.enc))]):=Ea p.ak[i] (by omega)
  refine W3 ?_
  refine bN hc ?_
  refine W1 ?_
  refine W3 ?_
  rw[hs]
  exact bX 5 (by decide) (i+1) (by omega) rfl rfl rfl rfl (by omega)
 have hi':i=p.ak.length:=by omega
 subst hi'
 clear hi hl h
 refine aR (ι:=Nat) Tryz.checked.mixed rfl [1,2,3,6] (fun i=>[.c (.ptr (0,0) 0),.c (.ptr (0,1) 0),.c (.ptr (0,4) 0),.c (.d (.i .i64 i))])
  (fun i=>[.box [.d (.s p.fName),.d (.sl (p.dZ.map encS)),.d (.sl (p.aK.map bg.enc)),.d (.sl (p.ak.map aO.enc)),.d (.sl (p.aJ.map aQ.enc)),.d (.sl (p.aM.map aS.enc))],.box [.d (.s []),.bC []],.box [.d (.s []),.bI (0,3) (T 3)],.tok 2 (T (3+p.aK.length+p.ak.length+i)),.box [.d (.s []),.bI (0,3) (T (3+p.aK.length+p.ak.length+i))]]::S)
  (fun i=>i≤p.aJ.length) (fun i=>p.aJ.length-i) 0 rfl rfl (Nat.zero_le _) ?_
 intro i hi
 have hl:=fP (3+p.aK.length+p.ak.length+i)
 refine W1 ?_
 refine S0 (fun hb h=>?_) fun hb h=>?_
 ·have hi':i<p.aJ.length:=by omega
  have hm:=List.getElem_mem hi'
  have hcz:=bD (List.mem_map_of_mem (f:=aQ.enc) hm)
  have sK:p.aJ[i].sz≤aI (p.aJ.map aQ.enc):=hcz
  have hs:=hTs _ _ (g3 i hi')
  have hc:aD Tryz.prog 132 [p.aJ[i].v] (.agg [.d (.s (zq p.aJ[i]).bS),.d (.sl ((zq p.aJ[i]).aY.map aj.enc))]):=NW p.aJ[i] (by omega)
  refine W3 ?_
  refine bN hc ?_
  refine W1 ?_
  refine W3 ?_
  rw[hs]
  exact bX 5 (by decide) (i+1) (by omega) rfl rfl rfl rfl (by omega)
 have hi':i=p.aJ.length:=by omega
 subst hi'
 clear hi hl h
 refine aR (ι:=Nat) Tryz.checked.mixed rfl [1,2,3,7] (fun i=>[.c (.ptr (0,0) 0),.c (.ptr (0,1) 0),.c (.ptr (0,4) 0),.c (.d (.i .i64 i))])
  (fun i=>[.box [.d (.s p.fName),.d (.sl (p.dZ.map encS)),.d (.sl (p.aK.map bg.enc)),.d (.sl (p.ak.map aO.enc)),.d (.sl (p.aJ.map aQ.enc)),.d (.sl (p.aM.map aS.enc))],.box [.d (.s []),.bC []],.box [.d (.s []),.bI (0,3) (T 3)],.tok 2 (T (3+p.aK.length+p.ak.length+p.aJ.length+i)),.box [.d (.s []),.bI (0,3) (T (3+p.aK.length+p.ak.length+p.aJ.length+i))]]::S)
  (fun i=>i≤p.aM.length) (fun i=>p.aM.length-i) 0 rfl rfl (Nat.zero_le _) ?_
 intro i hi
 have hl:=fP (3+p.aK.length+p.ak.length+p.aJ.length+i)
 refine W1 ?_
 refine S0 (fun hb h=>?_) fun hb h=>?_
 ·have hi':i<p.aM.length:=by omega
  have hm:=List.getElem_mem hi'
  have hcz:=bD (List.mem_map_of_mem (f:=aS.enc) hm)
  have sK:p.aM[i].sz≤aI (p.aM.map aS.enc):=hcz
  have hs:=hTs _ _ (g4 i hi')
  have hc:aD Tryz.prog 133 [p.aM[i].v] (.agg [.d (.s (A9 p.aM[i]).bS),.d (.sl ((A9 p.aM[i]).aY.map aj.enc))]):=J8 p.aM[i] (by omega)
  refine W3 ?_
  refine bN hc ?_
  refine W1 ?_
  refine W3 ?_
  rw[hs]
  exact bX 5 (by decide) (i+1) (by omega) rfl rfl rfl rfl (by omega)
 have hi':i=p.aM.length:=by omega
 subst hi'
 clear hi hl h
 have hps:=Kl hv
 have hq:∀j,PL[3+j]? =(lI p)[j]? :=fun j=>by
  rw[tL,List.getElem?_append_right (by simp[dV])]
  congr 1
  simp[dV]
 have hSP:lI p=fJ p:=by
  rw[hps]
  exact(List.map_congr_left fun x hx=>by show o7 x=x;rw[o7,if_pos (hall x hx)]).trans (List.map_id _)
 have hPP:PL.map aj.enc=(wT p).aY.map aj.enc:=by rw[tL,hSP];rfl
 have hok:∀j (hj:3+j<PL.length),PL[3+j].aY≠[]:=fun j hj=>by
  have h1:=(hq j).symm.trans (List.getElem?_eq_getElem hj)
  exact VW (p:=p) _ (by rw[←hSP];exact List.mem_of_getElem? h1)
 rw[hTe]
 refine aR (ι:=Nat) Tryz.checked.mixed rfl [2,3,8] (fun i=>[.c (.ptr (0,1) 0),.c (.ptr (0,4) 0),.c (.d (.i .i64 ((3+i:Nat):Int)))])
  (fun i=>[.box [.d (.s p.fName),.d (.sl (p.dZ.map encS)),.d (.sl (p.aK.map bg.enc)),.d (.sl (p.ak.map aO.enc)),.d (.sl (p.aJ.map aQ.enc)),.d (.sl (p.aM.map aS.enc))],.box [.d (.s []),.bC []],.box [.d (.s []),.bI (0,3) (T 3)],.tok 2 (PL.map aj.enc),.box [.d (.s []),.bI (0,3) (PL.map aj.enc)]]::S)
  (fun i=>3+i≤PL.length∧∀j (hj:3+j<PL.length),j<i→PL[3+j].aY≠[]) (fun i=>PL.length-i) 0 rfl rfl ⟨by omega,fun j hj h=>by omega⟩ ?_
 rintro i ⟨hi,hj⟩
 refine W1 ?_
 refine S0 (fun hb h=>?_) fun hb h=>?_
 ·have hi':3+i<PL.length:=by omega
  have hne:=hok i hi'
  refine S0 (fun hb h=>?_) fun hb h=>?_
  ·exact absurd (List.eq_nil_of_length_eq_zero (by omega)) hne
  ·exact bF (i+1) (by omega) rfl rfl ⟨by omega,fun j hj' hlt=>hok j hj'⟩
 ·rw[hPP]
  refine C1 (nA true (wT p) (by omega)) ?_
  rfl
set_option maxHeartbeats 4000000 in
theorem YK(p:aN)(hv:validPkg p=true)(hsz:p.sz≤1048576)(hall:¬∀x∈fJ p,gV x=true):aD Tryz.prog 57 [p.v] (.agg [.d (.s []),.bC []]):=fun S=>by
 have hdz:=aN.sum p
 rw[dD] at hdz
 obtain⟨v1,v2,v3,v4,v5⟩:=nG hv
 obtain⟨hz,hzp⟩:=Ho hv
 obtain⟨PL,tL⟩:∃PL:List aj,PL=dV p++lI p:=⟨_,rfl⟩
 obtain⟨T,hT⟩:∃T:Nat→List (List D),T=fun i=>(PL.take i).map aj.enc:=⟨_,rfl⟩
 have Hr:T 3=[[.s Jb,.sl []],[.s p.fName,.sl []],[.s [],.sl ((aU p.dZ).map aj.enc)]]:=by
  rw[hT,tL];simp only[dV,List.cons_append,List.nil_append,List.take_succ_cons,List.take_zero,List.map_cons,List.map_nil,dY,iA]
 have hlp:=Hf p
 rw[←tL] at hlp
 have fP:∀i,(T i).length≤i:=fun i=>by
  rw[hT];simp only[List.length_map]
  exact List.length_take_le i _
 have hTs:∀(i:Nat) (x:aj),PL[i]? =some x→T i++[[.s x.bS,.sl (x.aY.map aj.enc)]]=T (i+1):=fun i x hx=>by
  obtain⟨hi,hg⟩:=List.getElem?_eq_some_iff.1 hx
  have:=gT (base:=[]) (l:=PL) hi
  rw[hg] at this
  rw[hT];exact this
 have hTr:∀i,∀r∈T i,r.length=2:=fun i=>by rw[hT];exact ji
 have g1:=fun i hi=>Ki (p:=p) (i:=i) hi
 have g2:=fun i hi=>Kj (p:=p) (i:=i) hi
 have g3:=fun i hi=>Hl (p:=p) (i:=i) hi
 have g4:=fun i hi=>Kk (p:=p) (i:=i) hi
 rw[←tL] at g1 g2 g3 g4
 have hTe:T (3+p.aK.length+p.ak.length+p.aJ.length+p.aM.length)=PL.map aj.enc:=by
  rw[hT];simp only
  rw[List.take_of_length_le (by omega)]
 clear hT
 refine aB (rs:=[.cell 2 78]) Tryz.checked.mixed Tryz.func57 Tryz.ntmps57 rfl rfl rfl rfl rfl ?_
 refine W1 ?_
 refine bN (uN p (by omega)) ?_
 simp -implicitDefEqProofs (disch:=omega) only[go_sem,hv]
 refine C1 (bK _) ?_
 refine C1 (bK _) ?_
 refine C1 (dH p.dZ (by omega)) ?_
 have hE:=fun bM Ω=>iM (T 3) (hTr 3) (by have:=fP 3;omega) bM Ω
 simp only[Hr] at hE
 refine kQ [false] rfl (hE _ _) ?_
 refine W1 ?_
 refine aR (ι:=Nat) Tryz.checked.mixed rfl [1,2,3,4] (fun i=>[.c (.ptr (0,0) 0),.c (.ptr (0,1) 0),.c (.ptr (0,4) 0),.c (.d (.i .i64 i))])
  (fun i=>[.box [.d (.s p.fName),.d (.sl (p.dZ.map encS)),.d (.sl (p.aK.map bg.enc)),.d (.sl (p.ak.map aO.enc)),.d (.sl (p.aJ.map aQ.enc)),.d (.sl (p.aM.map aS.enc))],.box [.d (.s []),.bC []],.box [.d (.s []),.bI (0,3) (T 3)],.tok 2 (T (3+i)),.box [.d (.s []),.bI (0,3) (T (3+i))]]::S)
  (fun i=>i≤p.aK.length) (fun i=>p.aK.length-i) 0 rfl (by simp only[Hr]<;>(try rfl)) (Nat.zero_le _) ?_
 intro i hi
 have hl:=fP (3+i)
 refine W1 ?_
 refine S0 (fun hb h=>?_) fun hb h=>?_
 ·have hi':i<p.aK.length:=by omega
  have hm:=List.getElem_mem hi'
  have hcz:=bD (List.mem_map_of_mem (f:=bg.enc) hm)
  have sK:p.aK[i].sz≤aI (p.aK.map bg.enc):=hcz
  have hs:=hTs _ _ (g1 i hi')
  have hc:aD Tryz.prog 130 [p.aK[i].v] (.agg [.d (.s (r9 p.aK[i]).bS),.d (.sl ((r9 p.aK[i]).aY.map aj.enc))]):=J9 p.aK[i] (by omega)
  refine W3 ?_
  refine bN hc ?_
  refine W1 ?_
  refine W3 ?_
  rw[hs]
  exact bX 5 (by decide) (i+1) (by omega) rfl rfl rfl rfl (by omega)
 have hi':i=p.aK.length:=by omega
 subst hi'
 clear hi hl h
 refine aR (ι:=Nat) Tryz.checked.mixed rfl [1,2,3,5] (fun i=>[.c (.ptr (0,0) 0),.c (.ptr (0,1) 0),.c (.ptr (0,4) 0),.c (.d (.i .i64 i))])
  (fun i=>[.box [.d (.s p.fName),.d (.sl (p.dZ.map encS)),.d (.sl (p.aK.map bg.enc)),.d (.sl (p.ak.map aO.enc)),.d (.sl (p.aJ.map aQ.enc)),.d (.sl (p.aM.map aS.enc))],.box [.d (.s []),.bC []],.box [.d (.s []),.bI (0,3) (T 3)],.tok 2 (T (3+p.aK.length+i)),.box [.d (.s []),.bI (0,3) (T (3+p.aK.length+i))]]::S)
  (fun i=>i≤p.ak.length) (fun i=>p.ak.length-i) 0 rfl rfl (Nat.zero_le _) ?_
 intro i hi
 have hl:=fP (3+p.aK.length+i)
 refine W1 ?_
 refine S0 (fun hb h=>?_) fun hb h=>?_
 ·have hi':i<p.ak.length:=by omega
  have hm:=List.getElem_mem hi'
  have hcz:=bD (List.mem_map_of_mem (f:=aO.enc) hm)
  have sK:p.ak[i].sz≤aI (p.ak.map aO.enc):=hcz
  have hs:=hTs _ _ (g2 i hi')
  have hc:aD Tryz.prog 131 [p.ak[i].v] (.agg [.d (.s (zm p.ak[i]).bS),.d (.sl ((zm p.ak[i]).aY.map aj.enc))]):=Ea p.ak[i] (by omega)
  refine W3 ?_
  refine bN hc ?_
  refine W1 ?_
  refine W3 ?_
  rw[hs]
  exact bX 5 (by decide) (i+1) (by omega) rfl rfl rfl rfl (by omega)
 have hi':i=p.ak.length:=by omega
 subst hi'
 clear hi hl h
 refine aR (ι:=Nat) Tryz.checked.mixed rfl [1,2,3,6] (fun i=>[.c (.ptr (0,0) 0),.c (.ptr (0,1) 0),.c (.ptr (0,4) 0),.c (.d (.i .i64 i))])
  (fun i=>[.box [.d (.s p.fName),.d (.sl (p.dZ.map encS)),.d (.sl (p.aK.map bg.enc)),.d (.sl (p.ak.map aO.enc)),.d (.sl (p.aJ.map aQ.enc)),.d (.sl (p.aM.map aS.enc))],.box [.d (.s []),.bC []],.box [.d (.s []),.bI (0,3) (T 3)],.tok 2 (T (3+p.aK.length+p.ak.length+i)),.box [.d (.s []),.bI (0,3) (T (3+p.aK.length+p.ak.length+i))]]::S)
  (fun i=>i≤p.aJ.length) (fun i=>p.aJ.length-i) 0 rfl rfl (Nat.zero_le _) ?_
 intro i hi
 have hl:=fP (3+p.aK.length+p.ak.length+i)
 refine W1 ?_
 refine S0 (fun hb h=>?_) fun hb h=>?_
 ·have hi':i<p.aJ.length:=by omega
  have hm:=List.getElem_mem hi'
  have hcz:=bD (List.mem_map_of_mem (f:=aQ.enc) hm)
  have sK:p.aJ[i].sz≤aI (p.aJ.map aQ.enc):=hcz
  have hs:=hTs _ _ (g3 i hi')
  have hc:aD Tryz.prog 132 [p.aJ[i].v] (.agg [.d (.s (zq p.aJ[i]).bS),.d (.sl ((zq p.aJ[i]).aY.map aj.enc))]):=NW p.aJ[i] (by omega)
  refine W3 ?_
  refine bN hc ?_
  refine W1 ?_
  refine W3 ?_
  rw[hs]
  exact bX 5 (by decide) (i+1) (by omega) rfl rfl rfl rfl (by omega)
 have hi':i=p.aJ.length:=by omega
 subst hi'
 clear hi hl h
 refine aR (ι:=Nat) Tryz.checked.mixed rfl [1,2,3,7] (fun i=>[.c (.ptr (0,0) 0),.c (.ptr (0,1) 0),.c (.ptr (0,4) 0),.c (.d (.i .i64 i))])
  (fun i=>[.box [.d (.s p.fName),.d (.sl (p.dZ.map encS)),.d (.sl (p.aK.map bg.enc)),.d (.sl (p.ak.map aO.enc)),.d (.sl (p.aJ.map aQ.enc)),.d (.sl (p.aM.map aS.enc))],.box [.d (.s []),.bC []],.box [.d (.s []),.bI (0,3) (T 3)],.tok 2 (T (3+p.aK.length+p.ak.length+p.aJ.length+i)),.box [.d (.s []),.bI (0,3) (T (3+p.aK.length+p.ak.length+p.aJ.length+i))]]::S)
  (fun i=>i≤p.aM.length) (fun i=>p.aM.length-i) 0 rfl rfl (Nat.zero_le _) ?_
 intro i hi
 have hl:=fP (3+p.aK.length+p.ak.length+p.aJ.length+i)
 refine W1 ?_
 refine S0 (fun hb h=>?_) fun hb h=>?_
 ·have hi':i<p.aM.length:=by omega
  have hm:=List.getElem_mem hi'
  have hcz:=bD (List.mem_map_of_mem (f:=aS.enc) hm)
  have sK:p.aM[i].sz≤aI (p.aM.map aS.enc):=hcz
  have hs:=hTs _ _ (g4 i hi')
  have hc:aD Tryz.prog 133 [p.aM[i].v] (.agg [.d (.s (A9 p.aM[i]).bS),.d (.sl ((A9 p.aM[i]).aY.map aj.enc))]):=J8 p.aM[i] (by omega)
  refine W3 ?_
  refine bN hc ?_
  refine W1 ?_
  refine W3 ?_
  rw[hs]
  exact bX 5 (by decide) (i+1) (by omega) rfl rfl rfl rfl (by omega)
 have hi':i=p.aM.length:=by omega
 subst hi'
 clear hi hl h
 have hps:=Kl hv
 have hq:∀j,PL[3+j]? =(lI p)[j]? :=fun j=>by
  rw[tL,List.getElem?_append_right (by simp[dV])]
  congr 1
  simp[dV]
 rw[hTe]
 refine aR (ι:=Nat) Tryz.checked.mixed rfl [2,3,8] (fun i=>[.c (.ptr (0,1) 0),.c (.ptr (0,4) 0),.c (.d (.i .i64 ((3+i:Nat):Int)))])
  (fun i=>[.box [.d (.s p.fName),.d (.sl (p.dZ.map encS)),.d (.sl (p.aK.map bg.enc)),.d (.sl (p.ak.map aO.enc)),.d (.sl (p.aJ.map aQ.enc)),.d (.sl (p.aM.map aS.enc))],.box [.d (.s []),.bC []],.box [.d (.s []),.bI (0,3) (T 3)],.tok 2 (PL.map aj.enc),.box [.d (.s []),.bI (0,3) (PL.map aj.enc)]]::S)
  (fun i=>3+i≤PL.length∧∀j (hj:3+j<PL.length),j<i→PL[3+j].aY≠[]) (fun i=>PL.length-i) 0 rfl rfl ⟨by omega,fun j hj h=>by omega⟩ ?_
 rintro i ⟨hi,hj⟩
 refine W1 ?_
 refine S0 (fun hb h=>?_) fun hb h=>?_
 ·have hi':3+i<PL.length:=by omega
  refine S1 fun hb h=>?_
  exact bF (i+1) (by omega) rfl rfl ⟨by omega,fun j hj' hlt=>by
   by_cases e:j=i
   ·subst e;exact fun hn=>h (by rw[hn];rfl)
   ·exact hj j hj' (by omega)⟩
 ·exact absurd (fun x hx=>by
   have hm:o7 x∈lI p:=by rw[hps];exact List.mem_map_of_mem hx
   obtain⟨j,hj1,hj2⟩:=List.getElem_of_mem hm
   have hx2:PL[3+j]? =some (o7 x):=by rw[hq j,List.getElem?_eq_getElem hj1,hj2]
   obtain⟨hb,hg⟩:=List.getElem?_eq_some_iff.1 hx2
   have h5:=hj j hb (by omega)
   rw[hg] at h5
   cases yU:gV x with
   |true=>rfl
   |false=>exact absurd (by rw[o7,if_neg (by rw[yU];decide)];rfl) h5) hall
theorem Tz(x:aN)(hsz:x.sz≤1048576):aD Tryz.prog 57 [x.v] (oG x).v:=by
 unfold oG
 cases hv:validPkg x with
 |false=>
  rw[Bool.false_and,qX]
  refine aD.less (fun S=> ?_) (vo [] [])
  refine aB (rs:=[.cell 2 78]) Tryz.checked.mixed Tryz.func57 Tryz.ntmps57 rfl rfl rfl rfl rfl ?_
  refine W1 ?_
  refine bN (uN x (by omega)) ?_
  simp -implicitDefEqProofs (disch:=omega) only[go_sem,hv]
 |true=>
  rw[Bool.true_and]
  cases ha:(fJ x).all gV with
  |true=>exact YJ x hv hsz (List.all_eq_true.1 ha)
  |false=>
   rw[qX]
   refine aD.less (YK x hv hsz fun h=> ?_) (vo [] [])
   rw[List.all_eq_true.2 h] at ha
   cases ha
end Go.Proofs.YtcfhnaohbaplhaaGreatDoor
namespace Go.Ab
theorem abZ{x:aj}{i:Nat}(hi:i<x.aY.length)(h:x.sz≤4194304):x.aY[i].sz≤4194304:=by
 have:=xE (List.getElem_mem hi)
 rw[rG,pV] at h
 omega
theorem ab0{x:aj}(h:x.sz≤4194304):x.bS.length≤4194304∧x.aY.length≤4194304:=by
 rw[rG] at h
 omega
end Go.Ab
namespace Go.Proofs.YtcfhnaohbaplhaaGreatDoor
open Go Go.Ab
theorem wz:∀n:Nat,(∀x:aj,SizeOf.sizeOf x<n→∀y:aj,x.sz≤4194304→aD Tryz.prog 47 [x.v,y.v] (.c (.d (.b (dec (x=y))))))∧
 (∀xs:List aj,SizeOf.sizeOf xs<n→∀ys:List aj,xs.length≤4194304→(∀t∈xs,t.sz≤4194304)→aD Tryz.prog 117 [.c (.d (.sl (xs.map aj.enc))),.c (.d (.sl (ys.map aj.enc))),.c (.fn 47 [])] (.c (.d (.b (dec (xs=ys))))))
 |0=>⟨fun x h=>by omega,fun x h=>by omega⟩
 |n+1=>by
  obtain⟨ih,BS⟩:=wz n
  refine⟨fun x hn y hsz S=> ?_,fun xs hn ys hlen hsz S=> ?_⟩
  ·have agx:=aj.Im x
   have hb:=ab0 hsz
   refine aB (rs:=[.tmp 4]) Tryz.checked.mixed Tryz.func47 Tryz.ntmps47 rfl rfl rfl rfl rfl ?_
   refine W1 ?_
   refine S0 (fun hb h=>?_) fun hb h=>?_
   ·have h1:=h
    refine W3 ?_
    refine bN (BS x.aY (by omega) y.aY (by omega) (fun t ht=>by
     obtain⟨i,hi,e⟩:=List.getElem_of_mem ht
     rw[←e];exact abZ hi hsz)) ?_
    refine W1 ?_
    refine ay (gP ⟨fun e=>aj.ext h1 e,fun e=>by rw[e]⟩)
   ·exact ay (aC (fun e=>h (by rw[e]))).symm
  ·refine aB (rs:=[.tmp 6]) Tryz.checked.mixed Tryz.func117 Tryz.ntmps117 rfl rfl rfl rfl rfl ?_
   refine W1 ?_
   refine S0 (fun hb h=>?_) fun hb h=>?_
   ·exact ay (aC (fun e=>h (by rw[e]))).symm
   have hl:xs.length=ys.length:=by omega
   refine aR (ι:=Nat) Tryz.checked.mixed rfl [1,2,15,16,17] (fun y=>[.c (.d (.sl (ys.map aj.enc))),.c (.fn 47 []),.c (.d (.sl (xs.map aj.enc))),.c (.d (.i .i64 xs.length)),.c (.d (.i .i64 y))]) (fun y=>[]::S)
    (fun i=>i≤xs.length∧∀j,j<i→xs[j]? =ys[j]?) (fun y=>xs.length-y) 0 rfl rfl ⟨Nat.zero_le _,fun j h=>by omega⟩ ?_
   rintro i ⟨p1,p2⟩
   refine W1 ?_
   refine S0 (fun hb h=>?_) fun hb h=>?_
   ·have hi:i<xs.length:=by omega
    have hi':i<ys.length:=by omega
    refine W3 ?_
    refine C1 (ih xs[i] (by have:=List.sizeOf_lt_of_mem (List.getElem_mem hi);omega) ys[i] (hsz _ (List.getElem_mem hi))) ?_
    refine S0 (fun hb h=>?_) fun hb h=>?_
    ·exact ay (aC (fun e=>h (by simp only[e]))).symm
    refine bX 0 (by decide) (i+1) (by omega) rfl rfl rfl rfl ⟨by omega,fun j hj=> ?_⟩
    by_cases e:j=i
    ·subst e
     rw[List.getElem?_eq_getElem hi,List.getElem?_eq_getElem hi',h]
    ·exact p2 j (by omega)
   ·have hi:i=xs.length:=by omega
    refine ay (bq (List.ext_getElem? fun j=> ?_)).symm
    by_cases hj:j<i
    ·exact p2 j hj
    ·rw[List.getElem?_eq_none (by omega),List.getElem?_eq_none (by omega)]
theorem DF(x y:aj)(h:x.sz≤4194304):aD Tryz.prog 47 [x.v,y.v] (.c (.d (.b (dec (x=y))))):=(wz _).1 x (Nat.lt_succ_self _) y h
end Go.Proofs.YtcfhnaohbaplhaaGreatDoor
namespace Go.Ab
theorem VX(x:aN):(oG x).bS=[]:=by
 unfold oG
 generalize (validPkg x&&(fJ x).all gV)=b
 cases b
 ·rfl
 ·show(o7 (wT x)).bS=[]
  unfold o7
  split<;>rfl
end Go.Ab
namespace Go.Proofs.YtcfhnaohbaplhaaGreatDoor
open Go Go.Ab
theorem Jc(x:aN)(hsz:x.sz≤1048576):aD Tryz.prog 17 [x.v] (.c (.d (.s (sI (oG x))))):=fun S=>by
 have c1:aD Tryz.prog 63 [x.v] (oG x).v:=by
  have h2:aD Tryz.prog 63 [x.v] (.agg ((kT (oG x).enc 0).map .d)):=by
   have:=PW x 0 hsz
   first|exact this|(rw[iC];exact this)
  have:=aD.less h2 Nk
  rw[aj.ow] at this
  exact this
 have hd:(oG x).sz≤1048576:=Qz (by omega)
 obtain⟨X,hX⟩:∃X,X=oG x:=⟨_,rfl⟩
 rw[←hX] at hd c1 ⊢
 clear hX
 refine aB (rs:=[.tmp 2]) Tryz.checked.mixed Tryz.func17 Tryz.ntmps17 rfl rfl rfl rfl rfl ?_
 refine W1 ?_
 refine bN c1 ?_
 refine W1 ?_
 refine nK (DF X w9 (by omega)) (.cons (by exact Less.refl _) (.cons (by exact Less.refl _) .nil)) ?_
 refine W1 ?_
 refine S0 (fun hb h=>?_) fun hb h=>?_
 ·rw[Vi (by simpa using h)]
 ·refine C2 (Iw X (by omega)) ?_
  rw[Vj (by simpa using h)]
theorem Jd(x:aN)(hsz:x.sz≤1048576):aD Tryz.prog 15 [x.v] (.c (.d (.s (sI (oG x))))):=fun S=>by
 have c1:=Tz x (by omega)
 have hd:(oG x).sz≤1048576:=Qz (by omega)
 have ha:(oG x).bS=[]:=VX x
 obtain⟨X,hX⟩:∃X,X=oG x:=⟨_,rfl⟩
 rw[←hX] at hd c1 ha ⊢
 clear hX
 refine aB (rs:=[.tmp 2]) Tryz.checked.mixed Tryz.func15 Tryz.ntmps15 rfl rfl rfl rfl rfl ?_
 refine W1 ?_
 refine bN c1 ?_
 refine W1 ?_
 refine S0 (fun hb h=>?_) fun hb h=>?_
 ·rw[abw ha (by omega)]
 ·refine C2 (Iy X (by omega)) ?_
  rw[abv (by omega)]
end Go.Proofs.YtcfhnaohbaplhaaGreatDoor
namespace Go.Proofs.YtcfhnaohbaplhaaGreatDoor
open Go Go.Ab Go.RowKit
theorem YL:(Tryz.prog.info? 5).map (·.size)=some 1:=by kernel_rfl
set_option maxHeartbeats 2000000 in
theorem aax(B b n:Nat)(w:World)(hB:B≤b)(hbk:w.heap[b]? =some (.cells #[.pointer (some ⟨b,0,none⟩),.slice none 0 0] 156 (0,0)))(hBw:B≤w.heap.size)(hn:n≤281474976710656):
 Calls Tryz.prog 318 #[.pointer (some ⟨b,0,none⟩),.int .i64 n] w fun e w'=>e=.returned (.tuple #[])∧(Lib.BuilderAt 156 5 B b (.pointer (some ⟨b,0,none⟩)) [] w'∧Below B w w'):=by
 obtain⟨cs,hrun,hle,hmax⟩:=Lib.run_makeNoZero (P:=Tryz.prog) w.drew #[3] 154 5 Tryz.underlying154 n hn
 have hw:IntKind.i64.wrap (n:Int)=n:=by
  rw[IntKind.wrap_i64]
  omega
 have hcall:(callFunc 356 #[.int .i64 (IntKind.i64.wrap (n:Int))]).run Tryz.prog w.drew=.ok (.value (.slice (some ⟨w.drew.heap.size,0,none⟩) n cs.size)) (w.drew.drew.drew.alloc (.cells cs 5)):=by
  rw[hw,run_callFunc_extern Tryz.func356 (by kernel_rfl) (by kernel_rfl) (by kernel_rfl) (e:=Extern.BytealgMakeNoZero.makeNoZero #[3] #[154]) (by kernel_rfl),hrun]
  rfl
 have hlt:b<w.heap.size:=lt_of_some hbk
 have c1:w.drew.cell? ⟨b,1,none⟩=some (.slice none 0 0):=by
  have:w.drew.heap[b]? =_:=hbk
  rw[Lib.cell_of_heap this];rfl
 have hb2:(w.alloc (.cells cs 5)).heap[b]? =_:=(Lib.alloc_old w _ b hlt).trans hbk
 have c2:(w.alloc (.cells cs 5)).cell? ⟨b,1,none⟩=some (.slice none 0 0):=by rw[Lib.cell_of_heap hb2];rfl
 have f2:(w.alloc (.cells cs 5)).frozen? ⟨b,1,none⟩=false:=Lib.frozen_of_heap hb2 1
 have hcopy:∀W:World,(Builtin.copy_ #[154,154] 3 #[.slice (some ⟨w.heap.size,0,none⟩) 0 cs.size,.slice none 0 0]).run Tryz.prog W=.ok (goInt 0) W:=
  fun W=>run_copy_none W 154 154 3 5 _ _ 0 cs.size 0 0 Tryz.underlying154 YL rfl
 clear hw hb2
 go_enter Tryz.func318,Tryz.ntmps318
 go_wp2
 have hfin:=Lib.grown_fresh (T:=156) (e:=5) (cs:=cs) hB hbk hBw (hmax (by unfold maxLen;omega)) (by decide)
 rw[World.setCell_alloc_past _ _ _ _ hlt] at hfin
 go_region
 all_goals (go_wp2;go_end0;exact⟨rfl,hfin⟩)
set_option maxHeartbeats 2000000 in
theorem ab1(B b n:Nat)(w:World)(hB:B≤b)(hbk:w.heap[b]? =some (.cells #[.pointer none,.slice none 0 0] 156 (0,0)))(hBw:B≤w.heap.size)(hn:n≤281474976710656):
 Calls Tryz.prog 235 #[.pointer (some ⟨b,0,none⟩),.int .i64 n] w fun e w'=>e=.returned (.tuple #[])∧(Lib.BuilderAtF 156 5 B b (.pointer (some ⟨b,0,none⟩)) [] w'∧Below B w w'):=by
 have hbk1:(w.setCell ⟨b,0,none⟩ (.pointer (some ⟨b,0,none⟩))).heap[b]? =some (.cells #[.pointer (some ⟨b,0,none⟩),.slice none 0 0] 156 (0,0)):=by
  simp[World.setCell,Array.getElem?_modify,hbk]
 have c1:(w.setCell ⟨b,0,none⟩ (.pointer (some ⟨b,0,none⟩))).cell? ⟨b,1,none⟩=some (.slice none 0 0):=by rw[Lib.cell_of_heap hbk1];rfl
 have hb1:Below B w (w.setCell ⟨b,0,none⟩ (.pointer (some ⟨b,0,none⟩))):=(Below.refl B w).setCell (p:=⟨b,0,none⟩) hB _
 go_enter Tryz.func235,Tryz.ntmps235
 have hU:Lib.BuilderAt 156 5 B b (.pointer (some ⟨b,0,none⟩)) [] (w.setCell ⟨b,0,none⟩ (.pointer (some ⟨b,0,none⟩))):=⟨hB,.slice none 0 0,hbk1,World.ownsRow_nil _ _ _ _,by simp[Value.ownBlock]⟩
 have c1':(w.setCell ⟨b,0,none⟩ (.pointer (some ⟨b,0,none⟩))).drew.cell? ⟨b,1,none⟩=some (.slice none 0 0):=c1
 go_wp2_with (go_at_call 295;refine(Bj b w (by rw[Lib.cell_of_heap hbk];rfl) (by simp[World.shape?,hbk]) (Lib.frozen_of_heap hbk 0)).mono ?_;rintro e w' ⟨rfl,rfl⟩)
 go_region
 all_goals go_wp2_with (go_at_call 318;refine(aax B b n (w.setCell ⟨b,0,none⟩ (.pointer (some ⟨b,0,none⟩))).drew hB hbk1 (by simpa [World.setCell,World.drew,-World.drew_eq] using hBw) hn).mono ?_;rintro e w' ⟨rfl,h1,h2⟩)
 all_goals first
  |(go_end0;exact⟨rfl,.of h1,hb1.drew.trans h2⟩)
  |(go_end0;exact⟨rfl,.of hU.drew,hb1.drew⟩)
end Go.Proofs.YtcfhnaohbaplhaaGreatDoor
namespace Go.Ab
def p8(xs:List (List UInt8)):Nat:=(xs.map List.length).sum
theorem VY{xs:List (List UInt8)}{i:Nat}(hi:i<xs.length):p8 (xs.take (i+1))=p8 (xs.take i)+xs[i].length:=by
 unfold p8
 rw[List.take_succ_eq_append_getElem hi,List.map_append,List.sum_append];simp
theorem VZ(xs:List (List UInt8))(i:Nat):p8 (xs.take i)≤p8 xs:=by
 have:p8 xs=p8 (xs.take i)+p8 (xs.drop i):=by
  unfold p8
  rw[←List.sum_append,←List.map_append,List.take_append_drop]
 omega
theorem V3(b:UInt8):∀xs:List (List UInt8),xs≠[]→(d9 [b] xs).length=p8 xs+(xs.length-1)
 |[],h=>absurd rfl h
 |x::xs,_=>by
  have h:∀ys:List (List UInt8),((ys.map fun y=>[b]++y).flatten).length=p8 ys+ys.length:=by
   intro ys
   induction ys with
   |nil=>rfl
   |cons y ys ih=>rw[List.map_cons,List.flatten_cons,List.length_append,ih];simp[p8];omega
  rw[d9,List.length_append,h];simp[p8];omega
end Go.Ab
namespace Go.Proofs.YtcfhnaohbaplhaaGreatDoor
open Go Go.Ab Go.RowKit
set_option maxHeartbeats 4000000 in
theorem ab2(xs:List (List UInt8))(b0:UInt8)(h2:2≤xs.length)(hlen:(d9 [b0] xs).length≤1073741824)(w:World)(k off cap:Nat)(hcap:xs.length≤cap)(c:Array Value)(t:TypeId)(fz:Nat×Nat)(hk:w.heap[k]? =some (.cells c t fz))
 (hc:∀i (hi:i<xs.length),c[off+i]? =some (.string ⟨xs[i].toArray⟩)):
 Calls Tryz.prog 150 #[.slice (some ⟨k,off,none⟩) xs.length cap,.string ⟨#[b0]⟩] w fun e w'=>e=.returned (.string ⟨(d9 [b0] xs).toArray⟩)∧Below w.heap.size w w':=by
 have hsum:=V3 b0 xs (by rintro rfl;simp at h2)
 have htk:=VZ xs
 have hts:= @VY xs
 have hcell:∀i (hi:i<xs.length),w.cell? ⟨k,off+i,none⟩=some (.string ⟨xs[i].toArray⟩):=fun i hi=>by rw[Lib.cell_of_heap hk];exact hc i hi
 have hdv:¬((9223372036854775807:Int) / ((xs.length:Int)-1)≤1):=by
  have e:(9223372036854775807:Int) / ((xs.length-1:Nat):Int)=((9223372036854775807/ (xs.length-1):Nat):Int):=IntWalk.up_div (x:=9223372036854775807) rfl rfl
  have e2:2≤9223372036854775807/ (xs.length-1):=by rw[Nat.le_div_iff_mul_le (by omega)];omega
  rw[show((xs.length:Int)-1)=((xs.length-1:Nat):Int) by omega,e]
  omega
 go_enter Tryz.func150,Tryz.ntmps150
 go_wp2
 have HL:Aside ((d9 [b0] xs).length≤1073741824):=hlen
 have HS:Aside ((d9 [b0] xs).length=p8 xs+(xs.length-1)):=hsum
 go_loopg [5,41] xs.length (fun g v5 v41 wx=>∃i:Nat,i+g=xs.length∧v5=.int .i64 ((xs.length:Int)-1+p8 (xs.take i))∧v41=.int .i64 i∧wx=w)
 case atStart=>exact⟨0,by omega,by simp[p8],rfl,rfl⟩
 case round=>
  obtain⟨i,hi,rfl,rfl,hwr⟩:=hrel
  subst wr
  have h1:=htk i
  have h3:=HL.out
  rw[HS.out] at h3
  cases gk with
  |zero=>
   obtain rfl:i=xs.length:=by omega
   rw[List.take_length] at h1 ⊢
   obtain⟨M,hM⟩:∃M:Nat,(M:Int)=(xs.length:Int)-1+p8 xs:=⟨xs.length-1+p8 xs,by omega⟩
   rw[←hM]
   have HM:Aside ((M:Int)=(xs.length:Int)-1+p8 xs):=hM
   have hMl:M≤281474976710656:=by omega
   clear hM hdv
   have hbk0:=heap_alloc_new w (.cells #[.pointer none,.slice none 0 0] 156)
   have hkl:=lt_of_some hk
   go_wp2_with (go_at_call 235;refine(ab1 w.heap.size w.heap.size M _ (Nat.le_refl _) hbk0 (by simp) hMl).mono ?_)
   rintro e w1 ⟨rfl,hB1,hb1⟩
   have YM:Below w.heap.size w w1:=((Below.refl _ w).alloc (Nat.le_refl _) _).trans hb1
   have e0:w1.cell? ⟨k,off,none⟩=some (.string ⟨(xs[0]'(by omega)).toArray⟩):=by
    have:=YM.block k hkl
    rw[Lib.cell_of_heap (this.trans hk)]
    exact hc 0 (by omega)
   have hx0:=hts (i:=0) (by omega)
   have hx1:=htk (0+1)
   have hx2:xs[0].length≤1073741824:=by omega
   go_wp2_with (go_at_call 210;refine(uo w.heap.size w.heap.size [] ⟨(xs[0]'(by omega)).toArray⟩ _ (.inr hB1) ?_ ?_).mono ?_)
   ·show 0+(xs[0]'(by omega)).toArray.size≤_
    rw[List.size_toArray];omega
   ·exact YM.size
   rintro e w2 ⟨rfl,hB2,hb2,hk2⟩
   rw[List.nil_append,Lib.strCells_eq] at hB2
   have hbw2:=YM.trans hb2
   have hst:=xg [b0] xs
   have hjt:=xk [b0] xs
   clear hbk0 hcell e0 HM hB1 hb1 hk2 hb2 hx0 hx1 hx2
   go_wp2
   go_loopg [65] (xs.length-1) (fun g v wx=>∃i:Nat,i+g=xs.length-1∧v=.int .i64 i∧Lib.BuilderAtF 156 5 w.heap.size w.heap.size (.pointer (some ⟨w.heap.size,0,none⟩)) (Lib.byteCells (d9 [b0] (xs.take (i+1)))) wx∧Below w.heap.size w wx)
   case atStart=>exact⟨0,by omega,rfl,by rw[hst 0 (by omega),if_pos rfl];exact hB2,hbw2⟩
   case round=>
    obtain⟨i,hi',rfl,hbd,hbx⟩:=hrel
    cases gk with
    |zero=>
     rw[show i+1=xs.length by omega,List.take_length] at hbd
     have hne:d9 [b0] xs≠[]:=fun e=>by rw[e] at hsum;simp at hsum;omega
     have hT:=Gb w.heap.size w.heap.size (d9 [b0] xs) _ (.inr hbd) hne
     go_wp2_with (go_at_call 120;refine hT.mono ?_)
     rintro e w4 ⟨rfl,hb4⟩
     go_wp2
     go_ret
     exact⟨rfl,hbx.trans hb4⟩
    |succ g=>
     have hil:i+1<xs.length:=by omega
     have yc:=hst (i+1) hil
     rw[if_neg (by omega)] at yc
     have h5:=hjt (i+1+1)
     rw[yc] at h5
     simp only[List.length_append,List.length_cons,List.length_nil] at h5
     have HST:Aside (d9 [b0] (xs.take (i+1+1))=d9 [b0] (xs.take (i+1))++[b0]++xs[i+1]):=yc
     clear yc
     have d0:wr.cell? ⟨k,off+1+i,none⟩=some (.string ⟨xs[i+1].toArray⟩):=by
      rw[Lib.cell_of_heap ((hbx.block k hkl).trans hk),show off+1+i=off+(i+1) by omega]
      exact hc (i+1) hil
     go_wp2_with (go_at_call 210;refine(uo w.heap.size w.heap.size _ ⟨#[b0]⟩ _ (.inr hbd) ?_ hbx.size).mono ?_)
     ·rw[Lib.byteCells_length]
      show _+1≤_
      omega
     rintro e w3 ⟨rfl,h3',hb3,hk3⟩
     rw[show(⟨#[b0]⟩:ByteArray)=⟨[b0].toArray⟩ from rfl,Lib.strCells_eq,←Lib.byteCells_append] at h3'
     go_wp2_with (go_at_call 210;refine(uo w.heap.size w.heap.size _ ⟨xs[i+1].toArray⟩ _ (.inr h3') ?_ (hbx.trans hb3).size).mono ?_)
     ·rw[Lib.byteCells_length,List.length_append]
      show _+(xs[i+1]).toArray.size≤_
      rw[List.size_toArray,List.length_singleton];omega
     rintro e w4 ⟨rfl,h4',hb4,hk4⟩
     go_wp2
     go_roundg g
     case measure=>omega
     case rel=>
      refine⟨i+1,by omega,by simp,?_,(hbx.trans hb3).trans hb4⟩
      rw[HST.out]
      rw[Lib.strCells_eq,←Lib.byteCells_append] at h4'
      exact h4'
  |succ g=>
   have hil:i<xs.length:=by omega
   have hci:=hcell i hil
   have afS:=hts hil
   have h4:=htk (i+1)
   go_wp2
   go_roundg g
   case measure=>omega
   case rel=>exact⟨i+1,by omega,by rw[afS];congr 1;omega,by simp,rfl⟩
theorem aay{w:World}{σ:Nat→Nat}{xs:List (List UInt8)}{lv:Value}(h:dK w σ (.sl (xs.map encS)) lv):∃a cap,lv=.slice a xs.length cap∧(xs≠[]→∃k off c t fz,a=some ⟨k,off,none⟩∧xs.length≤cap∧w.heap[k]? =some (.cells c t fz)∧∀i (hi:i<xs.length),c[off+i]? =some (.string ⟨xs[i].toArray⟩)):=by
 generalize he:xs.map encS=es at h
 have hl:es.length=xs.length:=by rw[←he,List.length_map]
 cases h with
 |nil a cap=>
  have h0:xs=[]:=List.eq_nil_of_length_eq_zero hl.symm
  exact⟨a,cap,by rw[h0];rfl,fun h=>absurd h0 h⟩
 |sl k off cap bn es vals c t fz hcap hlen hb hσ hc hv=>
  refine⟨_,cap,by rw[hl],fun hne=>⟨k,off,c,t,fz,rfl,by omega,hb,fun i hi=> ?_⟩⟩
  have e1:es[i]'(by omega)=[.s xs[i]]:=by
   subst he
   rw[List.getElem_map];rfl
  have hz:bn=1:=by
   have:=hlen _ (List.getElem_mem (l:=es) (n:=i) (by omega))
   rw[e1] at this
   exact this.symm
  subst hz
  have hf:es.flatten[i*1+0]? =(es[i]'(by omega))[0]? :=flat_get es 1 hlen i 0 (by omega) (by omega)
  have h0:=hv (i*1+0) (.s xs[i]) (by rw[hf,e1];rfl)
  have:=hc (i*1+0) (by omega)
  generalize vals (i*1+0)=v0 at h0 this
  cases h0
  rw[Nat.mul_one,Nat.add_zero] at this
  exact this
set_option maxHeartbeats 1000000 in
theorem TA(xs:List (List UInt8))(b0:UInt8)(hN:xs.length≤1073741824)(hlen:(d9 [b0] xs).length≤1073741824):aD Tryz.prog 150 [.c (.d (.sl (xs.map encS))),.c (.d (.s [b0]))] (.c (.d (.s (d9 [b0] xs)))):=fun S=>by
 refine⟨⟨_,Tryz.func150,by kernel_rfl,by kernel_rfl⟩,fun w σ β vs hS hv=> ?_⟩
 obtain⟨hl,hv⟩:=hv
 obtain⟨v0,e0,h0,_⟩:=hv 0 _ rfl
 obtain⟨v1,e1,h1,_⟩:=hv 1 _ rfl
 obtain rfl:v1=.string ⟨[b0].toArray⟩:=by cases h1;rfl
 obtain⟨a,cap,rfl,hr⟩:=aay h0
 have hvs:vs.toArray= #[.slice a xs.length cap,.string ⟨#[b0]⟩]:=by
  match vs,hl,e0,e1 with
  |[p,q],_,e0,e1=>simp at e0 e1;rw[e0,e1]
 rw[hvs]
 have key:Calls Tryz.prog 150 #[.slice a xs.length cap,.string ⟨#[b0]⟩] w fun e w'=>e=.returned (.string ⟨(d9 [b0] xs).toArray⟩)∧Below w.heap.size w w':=by
  match xs,hr,hN,hlen with
  |[],_,_,_=>
   go_enter Tryz.func150,Tryz.ntmps150
   go_wp2
   go_ret
   exact⟨rfl,Below.refl _ _⟩
  |[x],hr,_,_=>
   obtain⟨k,off,c,t,fz,rfl,_,hk,hc⟩:=hr (by simp)
   have d0:w.cell? ⟨k,off,none⟩=some (.string ⟨x.toArray⟩):=by rw[Lib.cell_of_heap hk];exact hc 0 (by simp)
   have ej:d9 [b0] [x]=x:=by simp[d9]
   rw[ej]
   go_enter Tryz.func150,Tryz.ntmps150
   go_wp2
   go_ret
   exact⟨rfl,Below.refl _ _⟩
  |x::y::z,hr,_,hlen=>
   obtain⟨k,off,c,t,fz,rfl,hcap,hk,hc⟩:=hr (by simp)
   exact ab2 (x::y::z) b0 (by simp) hlen w k off cap hcap c t fz hk hc
 refine key.mono fun e w' ⟨he,hb⟩=> ?_
 have hg:Grow w σ w' σ:=⟨hb.size,hb.os,hb.output,fun k hk=>⟨hb.block k hk,rfl⟩,fun k=>(hS.live k).elim (fun h=>.inl (Nat.lt_of_lt_of_le h hb.size)) .inr⟩
 exact⟨_,.c (.d (.s (d9 [b0] xs))),S,σ,β,he,hS.grow hg,Keep.refl _ _,Step.lJ hg,⟨.s _,rfl⟩,rfl,rfl⟩
theorem PX(xs:List (List UInt8))(b0:UInt8)(hN:xs.length≤1073741824)(hlen:(d9 [b0] xs).length≤1073741824):aD Tryz.prog 72 [.c (.d (.sl (xs.map encS))),.c (.d (.s [b0]))] (.c (.d (.s (d9 [b0] xs)))):=fun S=>by
 refine aB (rs:=[.tmp 4]) Tryz.checked.mixed Tryz.func72 Tryz.ntmps72 rfl rfl rfl rfl rfl ?_
 refine W1 ?_
 exact C3 (TA xs b0 hN hlen)
end Go.Proofs.YtcfhnaohbaplhaaGreatDoor
namespace Go.Ab
noncomputable def mV(p:aN):List UInt8:=sI (oG p)
open Classical in
noncomputable def Oc(l:List aN):List UInt8:=if l.length≤5∧∀p∈l,mV p≠[] then d9 [10] (l.map mV) else []
theorem Dq{l:List aN}(h:¬(l.length≤5∧∀p∈l,mV p≠[])):Oc l=[]:=if_neg h
theorem Od{l:List aN}(h1:l.length≤5)(h2:∀j,∀hj:j<l.length,mV l[j]≠[]):Oc l=d9 [10] (l.map mV):=if_pos ⟨h1,fun p hp=>by
 obtain⟨j,hj,rfl⟩:=List.mem_iff_getElem.1 hp
 exact h2 j hj⟩
theorem Oe{l:List aN}(h:l.length≤5):(d9 [10] (l.map mV)).length≤1073741824:=by
 have h1:=JU [10] (l.map mV)
 have h2:((l.map mV).map fun x=>([10]:List UInt8).length+x.length).sum≤l.length*40001:=by
  clear h h1
  induction l with
  |nil=>simp
  |cons p l ih=>
   simp only[List.map_cons,List.sum_cons,List.length_cons,List.length_nil]
   have:=XV (oG p)
   unfold mV at *
   simp only[List.length_cons,List.length_nil] at ih
   omega
 omega
end Go.Ab
namespace Go.Proofs.YtcfhnaohbaplhaaGreatDoor
open Go Go.Ab
theorem Je(x:dw)(hsz:x.sz≤1048576):aD Tryz.prog 22 [x.v] (.c (.d (.s (Oc x.gH)))):=fun S=>by
 simp only[dw.sz,dw.aH,bH,D.sz,List.length_map] at hsz
 obtain⟨l,hl⟩:∃l,l=x.gH:=⟨_,rfl⟩
 have hE:∀i (hi:i<l.length),(((l.take (i+1)).map mV).map encS)=((l.take i).map mV).map encS++[[.s (mV l[i])]]:=fun i hi=>by
  rw[List.take_succ_eq_append_getElem hi,List.map_append,List.map_append];rfl
 rw[←hl] at hsz ⊢
 refine aB (rs:=[.tmp 2]) Tryz.checked.mixed Tryz.func22 Tryz.ntmps22 rfl rfl rfl rfl rfl ?_
 refine W1 ?_
 rw[←hl]
 refine S0 (fun hb h=>?_) fun hb h=>?_
 ·rw[Dq (fun hq=>by omega)]
 have h5:l.length≤5:=by omega
 refine l9 3 1 [] rfl (by simp) ?_
 refine aR (ι:=Nat) Tryz.checked.mixed rfl [3,13,14,15] (fun i=>[.c (.bI (0,1) (((l.take i).map mV).map encS)),.c (.d (.sl (l.map aN.enc))),.c (.d (.i .i64 l.length)),.c (.d (.i .i64 i))])
  (fun i=>[.box [.d (.sl (l.map aN.enc))],.tok 1 (((l.take i).map mV).map encS)]::S)
  (fun i=>i≤l.length∧∀j,∀hj:j<l.length,j<i→mV l[j]≠[]) (fun i=>l.length-i) 0 rfl (by rw[hl];rfl) ⟨Nat.zero_le _,fun j _ h=>by omega⟩ ?_
 rintro i ⟨p1,p2⟩
 refine W1 ?_
 refine S0 (fun hb h=>?_) fun hb h=>?_
 ·have hi:i<l.length:=by omega
  have hx:l[i].sz≤aI (l.map aN.enc):=bD (List.mem_map_of_mem (List.getElem_mem hi))
  have he:=hE i hi
  refine W3 ?_
  refine C2 (Jc l[i] (by omega)) ?_
  have hf:sI (oG l[i])=mV l[i]:=rfl
  simp only[hf]
  refine S0 (fun hb h=>?_) fun hb h=>?_
  ·rw[Dq (fun hq=>hq.2 _ (List.getElem_mem hi) (by simpa using h))]
  ·refine W3 ?_
   rw[←he]
   refine bX 2 (by decide) (i+1) (by omega) rfl rfl rfl rfl ⟨by omega,fun j hj hji=> ?_⟩
   by_cases e:j=i
   ·subst e;simpa using h
   ·exact p2 j hj (by omega)
 ·have hi:i=l.length:=by omega
  subst hi
  rw[List.take_length]
  refine C1 (PX (l.map mV) 10 (by rw[List.length_map];omega) (Oe h5)) ?_
  rw[Od h5 fun j hj=>p2 j hj hj]
theorem Jf(x:dw)(hsz:x.sz≤1048576):aD Tryz.prog 20 [x.v] (.c (.d (.s (Oc x.gH)))):=fun S=>by
 simp only[dw.sz,dw.aH,bH,D.sz,List.length_map] at hsz
 obtain⟨l,hl⟩:∃l,l=x.gH:=⟨_,rfl⟩
 have hE:∀i (hi:i<l.length),(((l.take (i+1)).map mV).map encS)=((l.take i).map mV).map encS++[[.s (mV l[i])]]:=fun i hi=>by
  rw[List.take_succ_eq_append_getElem hi,List.map_append,List.map_append];rfl
 rw[←hl] at hsz ⊢
 refine aB (rs:=[.tmp 2]) Tryz.checked.mixed Tryz.func20 Tryz.ntmps20 rfl rfl rfl rfl rfl ?_
 refine W1 ?_
 rw[←hl]
 refine l9 3 1 [] rfl (by simp) ?_
 refine aR (ι:=Nat) Tryz.checked.mixed rfl [1,3,4] (fun i=>[.c (.ptr (0,0) 0),.c (.bI (0,1) (((l.take i).map mV).map encS)),.c (.d (.i .i64 i))])
  (fun i=>[.box [.d (.sl (l.map aN.enc))],.tok 1 (((l.take i).map mV).map encS)]::S)
  (fun i=>i≤l.length∧i≤5∧∀j,∀hj:j<l.length,j<i→mV l[j]≠[]) (fun i=>l.length-i) 0 rfl (by first|rfl|(rw[hl];rfl)) ⟨Nat.zero_le _,Nat.zero_le _,fun j _ h=>by omega⟩ ?_
 rintro i ⟨p1,p3,p2⟩
 refine W1 ?_
 refine S0 (fun hb h=>?_) fun hb h=>?_
 ·have hi:i<l.length:=by omega
  have hx:l[i].sz≤aI (l.map aN.enc):=bD (List.mem_map_of_mem (List.getElem_mem hi))
  have he:=hE i hi
  refine W3 ?_
  refine C2 (Jd l[i] (by omega)) ?_
  have hf:sI (oG l[i])=mV l[i]:=rfl
  simp only[hf]
  refine S0 (fun hb h=>?_) fun hb h=>?_
  ·rw[Dq (fun hq=>hq.2 _ (List.getElem_mem hi) (by simpa using h))]
  have hne:=h
  refine S0 (fun hb h=>?_) fun hb h=>?_
  ·rw[Dq (fun hq=>by omega)]
  ·refine W3 ?_
   rw[←he]
   refine bX 2 (by decide) (i+1) (by omega) rfl rfl rfl rfl ⟨by omega,by omega,fun j hj hji=> ?_⟩
   by_cases e:j=i
   ·subst e;simpa using hne
   ·exact p2 j hj (by omega)
 ·have hi:i=l.length:=by omega
  subst hi
  rw[List.take_length]
  refine C1 (Qo (l.map mV) [10] (by rw[List.length_map];omega) (Oe p3) (xk _ _)) ?_
  rw[Od p3 fun j hj=>p2 j hj hj]
end Go.Proofs.YtcfhnaohbaplhaaGreatDoor
namespace Go.Proofs.YtcfhnaohbaplhaaGreatDoor.fnExactFormatProgram
open Go Go.Ab
theorem law(x0:dw)(f0:kK x0.enc):dG Tryz.prog 5 [x0.v] [] (fun r _=>r=.c (.d (.b true))):=by
 refine aB (rs:=[.tmp 2]) Tryz.checked.mixed Tryz.func5 Tryz.ntmps5 rfl rfl rfl rfl rfl ?_
 refine W1 ?_
 refine C2 (N9 x0 _ (by omega) (by omega) f0) ?_
 refine S1 fun hb h=>?_
 have h0:=dO h
 have c1:=Jf x0 (by omega)
 have c2:=Je x0 (by omega)
 generalize Oc x0.gH=T at c1 c2
 refine C2 (yF x0 (by omega)) ?_
 refine bN c1 ?_
 refine W1 ?_
 refine C2 (yF x0 (by omega)) ?_
 refine bN c2 ?_
 simp -implicitDefEqProofs (disch:=omega) only[go_sem,bq rfl,Bool.not_true]
 refine C2 (yF x0 (by omega)) ?_
 refine bN (Oa x0 x0 (by omega)) ?_
 simp -implicitDefEqProofs (disch:=omega) only[go_sem,bq rfl,Bool.not_true]
end Go.Proofs.YtcfhnaohbaplhaaGreatDoor.fnExactFormatProgram
namespace Go.Ab
open Go
theorem KZ{H:Type}{enc:TypeId×Value→H}{P:Program}{w:World}{base:Nat}{sp:Nat→Bool}{held:Bool}{fuel n:Nat}{t e:TypeId}{k:IntKind}{cs:List Value}{ns:List Int}{p:List MemPlace}
 (ht:P.underlying t=some (.array n e)) (he:P.underlying e=some (.int k)) (ce:P.cellsOf e=1) (ct:P.cellsOf t=n)
 (h:DataW.trod enc P w base sp held fuel t cs=some (.agg (ns.map fun z=>.lit (.int k z)),p)):cs=ns.map (Value.int k ·):=by
 obtain⟨xs,m,_,ex,hlen,hl,hel⟩:=DataW.trod_array ht h
 rw[ct] at hlen
 have e3:=DataW.agg.inj (Prod.mk.inj ex).1
 have hns:ns.length=n:=by have:=congrArg List.length e3;simpa [hl] using this
 refine List.ext_getElem (by rw[hlen,List.length_map,hns]) fun i h1 h2=> ?_
 have k0:=hel i (by omega)
 rw[ce,Nat.mul_one] at k0
 have hd:(cs.drop i).take 1=[cs[i]]:=by
  rw[List.drop_eq_getElem_cons h1];rfl
 rw[hd,List.getElem?_eq_getElem (by omega)] at k0
 obtain⟨z,a,b,_⟩:=DataW.trod_int he k0
 have e4:(ns.map fun z=>(DataW.lit (Lit.int k z):DataW H))[i]'(by rw[List.length_map];omega)=(xs.map (·.1))[i]'(by rw[List.length_map];omega):=by simp only[e3]
 rw[List.getElem_map,List.getElem_map,b] at e4
 simp only[DataW.lit.injEq,Lit.int.injEq,true_and] at e4
 rw[List.getElem_map,e4]
 simpa using a
theorem V4{P:Program}{w:World}{n:String}{g:Nat}{cs:Array Value}(hg:P.globalNamed n=some g)(h:w.var? P n=some cs):∃t fz,w.heap[g]? =some (.cells cs t fz):=by
 unfold World.var? at h
 rw[hg] at h
 simp only[Option.bind_some] at h
 split at h
 ·rename_i c t fz hh
  cases h
  exact⟨t,fz,hh⟩
 ·cases h
end Go.Ab
namespace Go.Proofs.YtcfhnaohbaplhaaGreatDoor
open Go Go.Ab
theorem Og{W:World}{r:List (String×DataW Unit)}(hr:(r.all fun x=>x.2.handleName?.isNone)=true)
 (h:laidMetH Tryz.prog (("math/bits.deBruijn32tab",Rows.laid_math_bits_deBruijn32tab)::("math/bits.deBruijn64tab",Rows.laid_math_bits_deBruijn64tab)::("internal/strconv.uint64pow10",Rows.laid_internal_strconv_uint64pow10)::r) W):sj W (jT W):=by
 rw[MakeChecks.laidMetH_plain _ _ _ (by
  rw[List.all_cons,List.all_cons,List.all_cons,hr];kernel_rfl)] at h
 obtain⟨ps,⟨_,_,_,_,_,_,_,_,_,_,⟨_,_,_,_,_,_,_,_,_,_,⟨g,t,cs,fuel,p,q,hg,ht,hv,hd,_,_⟩,_⟩,_⟩,_,_⟩:=h
 have hn:Tryz.prog.globalNamed "internal/strconv.uint64pow10" =some 1:=by kernel_rfl
 obtain rfl:=Option.some.inj (hn.symm.trans hg)
 obtain rfl:=Option.some.inj ((show(Tryz.prog.globals[1]?).map (·.type)=some 396 by kernel_rfl).symm.trans ht)
 have hl:(Rows.laid_internal_strconv_uint64pow10:DataW Unit)=.agg (((List.range 20).map fun i=>((10^i:Nat):Int)).map fun z=>.lit (.int .u64 z)):=by kernel_rfl
 rw[hl] at hd
 have e:=KZ Tryz.underlying396 Tryz.underlying380 (by kernel_rfl) (by kernel_rfl) hd
 obtain⟨t',fz,hh⟩:=V4 hg hv
 intro g' p' hm
 have hm':=List.eq_of_mem_singleton hm
 cases hm'
 refine⟨cs,t',fz,hh,?_,?_⟩
 ·show cs.toList=_
  rw[e,List.map_map];rfl
 ·unfold jT;rw[hh]
  exact Nat.le_refl _
end Go.Proofs.YtcfhnaohbaplhaaGreatDoor
namespace Go.Ab
theorem CR{P:Program}{n:Nat}{t:TypeId}{ds:List D}(h:WT P n t ds):∃m,n=m+1:=by
 cases n with
 |zero=>exact h.elim
 |succ m=>exact⟨m,rfl⟩
theorem zV{P:Program}{n:Nat}{t:TypeId}{ds:List D}(ht:P.underlying t=some .bool)(h:WT P n t ds):∃b,ds=[.b b]:=by
 obtain⟨m,rfl⟩:=CR h
 simp only[WT,ht] at h;exact h
theorem Oh{P:Program}{n:Nat}{t:TypeId}{k:IntKind}{ds:List D}(ht:P.underlying t=some (.int k))(h:WT P n t ds):∃x,ds=[.i k x]∧(Lit.int k x).wf=true:=by
 obtain⟨m,rfl⟩:=CR h
 simp only[WT,ht] at h;exact h
theorem fZ{P:Program}{n:Nat}{t:TypeId}{ds:List D}(ht:P.underlying t=some .string)(h:WT P n t ds):∃l,ds=[.s l]:=by
 obtain⟨m,rfl⟩:=CR h
 simp only[WT,ht] at h;exact⟨h.choose,h.choose_spec.1⟩
theorem gF{P:Program}{n:Nat}{t e:TypeId}{ds:List D}(ht:P.underlying t=some (.slice e))(h:WT P n t ds):∃es m,m<n∧ds=[.sl es]∧∀x∈es,WT P m e x:=by
 obtain⟨m,rfl⟩:=CR h
 simp only[WT,ht] at h
 obtain⟨es,h1,_,h2⟩:=h
 exact⟨es,m,by omega,h1,fun x hx=>(h2 x hx).2⟩
theorem jR{P:Program}{n:Nat}{t:TypeId}{fs:Array Field}{ds:List D}(ht:P.underlying t=some (.struct fs))(h:WT P n t ds):∃m,m<n∧uh P (WT P m) fs.toList ds:=by
 obtain⟨m,rfl⟩:=CR h
 simp only[WT,ht] at h
 exact⟨m,by omega,h⟩
theorem fV{α:Type}{enc:α→List D}:∀{es:List (List D)},(∀x∈es,∃m,x=enc m)→∃ms:List α,es=ms.map enc
 |[],_=>⟨[],rfl⟩
 |e::es,h=>by
  obtain⟨m,hm⟩:=h e (by simp)
  obtain⟨ms,hms⟩:=fV (es:=es) fun x hx=>h x (by simp[hx])
  exact⟨m::ms,by rw[List.map_cons,←hm,←hms]⟩
theorem QA{P:Program}{W:TypeId→List D→Prop}(hW:∀t ds,W t ds→kK ds):∀(fs:List Field) (ds:List D),uh P W fs ds→kK ds
 |[],ds,h=>by
  have h:ds=[]:=h
  rw[h];exact uZ
 |f::fs,ds,h=>by
  obtain⟨a,b,rfl,_,h1,h2⟩:=h
  exact iw.2 ⟨hW _ _ h1,QA hW fs b h2⟩
theorem Oi{P:Program}:∀(n:Nat) (t:TypeId) (ds:List D),WT P n t ds→kK ds
 |0,t,ds,h=>h.elim
 |n+1,t,ds,h=>by
  simp only[WT] at h
  split at h
  ·obtain⟨b,rfl⟩:=h;exact iG.2 ⟨.b _,uZ⟩
  ·obtain⟨b,rfl,_⟩:=h;exact iG.2 ⟨.i _ _,uZ⟩
  ·obtain⟨l,rfl,hl⟩:=h;exact iG.2 ⟨.s _ hl,uZ⟩
  ·obtain⟨es,rfl,hl,hh⟩:=h
   exact iG.2 ⟨.sl _ hl fun e he d hd=>Oi n _ e (hh e he).2 d hd,uZ⟩
  ·exact QA (Oi n) _ _ h
  ·exact h.elim
end Go.Ab
namespace Go.Proofs.YtcfhnaohbaplhaaGreatDoor
open Go Go.Ab
theorem rM:∀(n:Nat) (ds:List D),WT Tryz.prog n 24 ds→∃x:ah,ds=x.enc:=by
 intro n
 induction n using Nat.strongRecOn with
 |_ n ih=>
  intro ds h
  obtain⟨m,hm,h⟩:=jR Tryz.underlying24 h
  simp only[uh] at h
  obtain⟨a0,r0,rfl,l0,h0,a1,r1,rfl,l1,h1,a2,r2,rfl,l2,h2,rfl⟩:=h
  obtain⟨x0,rfl,_⟩:=Oh Tryz.underlying3 h0
  obtain⟨x1,rfl⟩:=fZ Tryz.underlying9 h1
  obtain⟨es2,m2,hm2,rfl,hs2⟩:=gF Tryz.underlying22 h2
  obtain⟨x2,rfl⟩:=fV (enc:=ah.enc) fun y hy=>ih m2 (by omega) y (hs2 y hy)
  refine⟨ah.mk x0 x1 x2,?_⟩
  rw[ah.aH]
  simp[ah.aV,ah.fName,ah.fArgs]
theorem Oj:∀(n:Nat) (ds:List D),WT Tryz.prog n 323 ds→∃x:bA,ds=x.enc:=by
 intro n
 induction n using Nat.strongRecOn with
 |_ n ih=>
  intro ds h
  obtain⟨m,hm,h⟩:=jR Tryz.underlying323 h
  simp only[uh] at h
  obtain⟨a0,r0,rfl,l0,h0,a1,r1,rfl,l1,h1,rfl⟩:=h
  obtain⟨x0,rfl⟩:=fZ Tryz.underlying9 h0
  obtain⟨x1,rfl⟩:=rM m a1 h1
  refine⟨bA.mk x0 x1,?_⟩
  rw[bA.aH]
  simp
theorem TB:∀(n:Nat),(∀ds:List D,WT Tryz.prog n 28 ds→∃x:au,ds=x.enc)∧(∀ds:List D,WT Tryz.prog n 145 ds→∃x:aX,ds=x.enc):=by
 intro n
 induction n using Nat.strongRecOn with
 |_ n ih=>
  refine⟨fun ds h=> ?_,fun ds h=> ?_⟩
  ·obtain⟨m,hm,h⟩:=jR Tryz.underlying28 h
   simp only[uh] at h
   obtain⟨a0,r0,rfl,l0,h0,a1,r1,rfl,l1,h1,a2,r2,rfl,l2,h2,a3,r3,rfl,l3,h3,a4,r4,rfl,l4,h4,a5,r5,rfl,l5,h5,a6,r6,rfl,l6,h6,rfl⟩:=h
   obtain⟨x0,rfl,_⟩:=Oh Tryz.underlying3 h0
   obtain⟨x1,rfl⟩:=fZ Tryz.underlying9 h1
   obtain⟨x2,rfl⟩:=fZ Tryz.underlying9 h2
   obtain⟨x3,rfl,_⟩:=Oh Tryz.underlying3 h3
   obtain⟨x4,rfl⟩:=rM m a4 h4
   obtain⟨es5,m5,hm5,rfl,hs5⟩:=gF Tryz.underlying25 h5
   obtain⟨x5,rfl⟩:=fV (enc:=au.enc) fun y hy=>(ih m5 (by omega)).1 y (hs5 y hy)
   obtain⟨es6,m6,hm6,rfl,hs6⟩:=gF Tryz.underlying26 h6
   obtain⟨x6,rfl⟩:=fV (enc:=aX.enc) fun y hy=>(ih m6 (by omega)).2 y (hs6 y hy)
   refine⟨au.mk x0 x1 x2 x3 x4 x5 x6,?_⟩
   rw[au.aH]
   simp[au.aV,au.bJ,au.fName,au.fN,au.fType,au.fArgs,au.aW]
  ·obtain⟨m,hm,h⟩:=jR Tryz.underlying145 h
   simp only[uh] at h
   obtain⟨a0,r0,rfl,l0,h0,a1,r1,rfl,l1,h1,a2,r2,rfl,l2,h2,rfl⟩:=h
   obtain⟨x0,rfl⟩:=fZ Tryz.underlying9 h0
   obtain⟨es1,m1,hm1,rfl,hs1⟩:=gF Tryz.underlying41 h1
   obtain⟨x1,rfl⟩:=fV (enc:=encS) fun y hy=>fZ Tryz.underlying9 (hs1 y hy)
   obtain⟨x2,rfl⟩:=(ih m (by omega)).1 a2 h2
   refine⟨aX.mk x0 x1 x2,?_⟩
   rw[aX.aH]
   simp[aX.dx,aX.aF,aX.fBody]
theorem Jg(n:Nat)(ds:List D)(h:WT Tryz.prog n 28 ds):∃x:au,ds=x.enc:=(TB n).1 ds h
theorem Ol:∀(n:Nat) (ds:List D),WT Tryz.prog n 317 ds→∃x:aT,ds=x.enc:=by
 intro n
 induction n using Nat.strongRecOn with
 |_ n ih=>
  intro ds h
  obtain⟨m,hm,h⟩:=jR Tryz.underlying317 h
  simp only[uh] at h
  obtain⟨a0,r0,rfl,l0,h0,a1,r1,rfl,l1,h1,a2,r2,rfl,l2,h2,a3,r3,rfl,l3,h3,a4,r4,rfl,l4,h4,a5,r5,rfl,l5,h5,rfl⟩:=h
  obtain⟨x0,rfl⟩:=fZ Tryz.underlying9 h0
  obtain⟨es1,m1,hm1,rfl,hs1⟩:=gF Tryz.underlying22 h1
  obtain⟨x1,rfl⟩:=fV (enc:=ah.enc) fun y hy=>rM m1 y (hs1 y hy)
  obtain⟨x2,rfl⟩:=rM m a2 h2
  obtain⟨x3,rfl⟩:=zV Tryz.underlying4 h3
  obtain⟨es4,m4,hm4,rfl,hs4⟩:=gF Tryz.underlying41 h4
  obtain⟨x4,rfl⟩:=fV (enc:=encS) fun y hy=>fZ Tryz.underlying9 (hs4 y hy)
  obtain⟨x5,rfl⟩:=Jg m a5 h5
  refine⟨aT.mk x0 x1 x2 x3 x4 x5,?_⟩
  rw[aT.aH]
  simp
theorem YN:∀(n:Nat) (ds:List D),WT Tryz.prog n 164 ds→∃x:bg,ds=x.enc:=by
 intro n
 induction n using Nat.strongRecOn with
 |_ n ih=>
  intro ds h
  obtain⟨m,hm,h⟩:=jR Tryz.underlying164 h
  simp only[uh] at h
  obtain⟨a0,r0,rfl,l0,h0,a1,r1,rfl,l1,h1,a2,r2,rfl,l2,h2,a3,r3,rfl,l3,h3,a4,r4,rfl,l4,h4,rfl⟩:=h
  obtain⟨x0,rfl⟩:=fZ Tryz.underlying9 h0
  obtain⟨es1,m1,hm1,rfl,hs1⟩:=gF Tryz.underlying41 h1
  obtain⟨x1,rfl⟩:=fV (enc:=encS) fun y hy=>fZ Tryz.underlying9 (hs1 y hy)
  obtain⟨x2,rfl⟩:=zV Tryz.underlying4 h2
  obtain⟨x3,rfl⟩:=zV Tryz.underlying4 h3
  obtain⟨es4,m4,hm4,rfl,hs4⟩:=gF Tryz.underlying162 h4
  obtain⟨x4,rfl⟩:=fV (enc:=aT.enc) fun y hy=>Ol m4 y (hs4 y hy)
  refine⟨bg.mk x0 x1 x2 x3 x4,?_⟩
  rw[bg.aH]
  simp
theorem Jh:∀(n:Nat) (ds:List D),WT Tryz.prog n 320 ds→∃x:aP,ds=x.enc:=by
 intro n
 induction n using Nat.strongRecOn with
 |_ n ih=>
  intro ds h
  obtain⟨m,hm,h⟩:=jR Tryz.underlying320 h
  simp only[uh] at h
  obtain⟨a0,r0,rfl,l0,h0,a1,r1,rfl,l1,h1,rfl⟩:=h
  obtain⟨x0,rfl⟩:=fZ Tryz.underlying9 h0
  obtain⟨es1,m1,hm1,rfl,hs1⟩:=gF Tryz.underlying22 h1
  obtain⟨x1,rfl⟩:=fV (enc:=ah.enc) fun y hy=>rM m1 y (hs1 y hy)
  refine⟨aP.mk x0 x1,?_⟩
  rw[aP.aH]
  simp
theorem PY:∀(n:Nat) (ds:List D),WT Tryz.prog n 168 ds→∃x:aO,ds=x.enc:=by
 intro n
 induction n using Nat.strongRecOn with
 |_ n ih=>
  intro ds h
  obtain⟨m,hm,h⟩:=jR Tryz.underlying168 h
  simp only[uh] at h
  obtain⟨a0,r0,rfl,l0,h0,a1,r1,rfl,l1,h1,a2,r2,rfl,l2,h2,rfl⟩:=h
  obtain⟨x0,rfl⟩:=fZ Tryz.underlying9 h0
  obtain⟨es1,m1,hm1,rfl,hs1⟩:=gF Tryz.underlying41 h1
  obtain⟨x1,rfl⟩:=fV (enc:=encS) fun y hy=>fZ Tryz.underlying9 (hs1 y hy)
  obtain⟨es2,m2,hm2,rfl,hs2⟩:=gF Tryz.underlying166 h2
  obtain⟨x2,rfl⟩:=fV (enc:=aP.enc) fun y hy=>Jh m2 y (hs2 y hy)
  refine⟨aO.mk x0 x1 x2,?_⟩
  rw[aO.aH]
  simp
theorem V5:∀(n:Nat) (ds:List D),WT Tryz.prog n 326 ds→∃x:bB,ds=x.enc:=by
 intro n
 induction n using Nat.strongRecOn with
 |_ n ih=>
  intro ds h
  obtain⟨m,hm,h⟩:=jR Tryz.underlying326 h
  simp only[uh] at h
  obtain⟨a0,r0,rfl,l0,h0,a1,r1,rfl,l1,h1,a2,r2,rfl,l2,h2,rfl⟩:=h
  obtain⟨x0,rfl⟩:=fZ Tryz.underlying9 h0
  obtain⟨es1,m1,hm1,rfl,hs1⟩:=gF Tryz.underlying41 h1
  obtain⟨x1,rfl⟩:=fV (enc:=encS) fun y hy=>fZ Tryz.underlying9 (hs1 y hy)
  obtain⟨x2,rfl⟩:=Jg m a2 h2
  refine⟨bB.mk x0 x1 x2,?_⟩
  rw[bB.aH]
  simp
theorem PZ:∀(n:Nat) (ds:List D),WT Tryz.prog n 173 ds→∃x:aQ,ds=x.enc:=by
 intro n
 induction n using Nat.strongRecOn with
 |_ n ih=>
  intro ds h
  obtain⟨m,hm,h⟩:=jR Tryz.underlying173 h
  simp only[uh] at h
  obtain⟨a0,r0,rfl,l0,h0,a1,r1,rfl,l1,h1,a2,r2,rfl,l2,h2,a3,r3,rfl,l3,h3,a4,r4,rfl,l4,h4,a5,r5,rfl,l5,h5,a6,r6,rfl,l6,h6,a7,r7,rfl,l7,h7,rfl⟩:=h
  obtain⟨x0,rfl⟩:=fZ Tryz.underlying9 h0
  obtain⟨es1,m1,hm1,rfl,hs1⟩:=gF Tryz.underlying41 h1
  obtain⟨x1,rfl⟩:=fV (enc:=encS) fun y hy=>fZ Tryz.underlying9 (hs1 y hy)
  obtain⟨x2,rfl⟩:=rM m a2 h2
  obtain⟨es3,m3,hm3,rfl,hs3⟩:=gF Tryz.underlying170 h3
  obtain⟨x3,rfl⟩:=fV (enc:=bA.enc) fun y hy=>Oj m3 y (hs3 y hy)
  obtain⟨x4,rfl⟩:=zV Tryz.underlying4 h4
  obtain⟨x5,rfl⟩:=zV Tryz.underlying4 h5
  obtain⟨x6,rfl⟩:=rM m a6 h6
  obtain⟨es7,m7,hm7,rfl,hs7⟩:=gF Tryz.underlying171 h7
  obtain⟨x7,rfl⟩:=fV (enc:=bB.enc) fun y hy=>V5 m7 y (hs7 y hy)
  refine⟨aQ.mk x0 x1 x2 x3 x4 x5 x6 x7,?_⟩
  rw[aQ.aH]
  simp
theorem YO:∀(n:Nat) (ds:List D),WT Tryz.prog n 329 ds→∃x:bG,ds=x.enc:=by
 intro n
 induction n using Nat.strongRecOn with
 |_ n ih=>
  intro ds h
  obtain⟨m,hm,h⟩:=jR Tryz.underlying329 h
  simp only[uh] at h
  obtain⟨a0,r0,rfl,l0,h0,a1,r1,rfl,l1,h1,rfl⟩:=h
  obtain⟨x0,rfl⟩:=fZ Tryz.underlying9 h0
  obtain⟨x1,rfl⟩:=rM m a1 h1
  refine⟨bG.mk x0 x1,?_⟩
  rw[bG.aH]
  simp
theorem P5:∀(n:Nat) (ds:List D),WT Tryz.prog n 177 ds→∃x:aS,ds=x.enc:=by
 intro n
 induction n using Nat.strongRecOn with
 |_ n ih=>
  intro ds h
  obtain⟨m,hm,h⟩:=jR Tryz.underlying177 h
  simp only[uh] at h
  obtain⟨a0,r0,rfl,l0,h0,a1,r1,rfl,l1,h1,a2,r2,rfl,l2,h2,a3,r3,rfl,l3,h3,a4,r4,rfl,l4,h4,a5,r5,rfl,l5,h5,rfl⟩:=h
  obtain⟨x0,rfl⟩:=fZ Tryz.underlying9 h0
  obtain⟨es1,m1,hm1,rfl,hs1⟩:=gF Tryz.underlying41 h1
  obtain⟨x1,rfl⟩:=fV (enc:=encS) fun y hy=>fZ Tryz.underlying9 (hs1 y hy)
  obtain⟨es2,m2,hm2,rfl,hs2⟩:=gF Tryz.underlying170 h2
  obtain⟨x2,rfl⟩:=fV (enc:=bA.enc) fun y hy=>Oj m2 y (hs2 y hy)
  obtain⟨es3,m3,hm3,rfl,hs3⟩:=gF Tryz.underlying175 h3
  obtain⟨x3,rfl⟩:=fV (enc:=bG.enc) fun y hy=>YO m3 y (hs3 y hy)
  obtain⟨x4,rfl⟩:=rM m a4 h4
  obtain⟨x5,rfl⟩:=Jg m a5 h5
  refine⟨aS.mk x0 x1 x2 x3 x4 x5,?_⟩
  rw[aS.aH]
  simp
theorem TD:∀(n:Nat) (ds:List D),WT Tryz.prog n 47 ds→∃x:aN,ds=x.enc:=by
 intro n
 induction n using Nat.strongRecOn with
 |_ n ih=>
  intro ds h
  obtain⟨m,hm,h⟩:=jR Tryz.underlying47 h
  simp only[uh] at h
  obtain⟨a0,r0,rfl,l0,h0,a1,r1,rfl,l1,h1,a2,r2,rfl,l2,h2,a3,r3,rfl,l3,h3,a4,r4,rfl,l4,h4,a5,r5,rfl,l5,h5,rfl⟩:=h
  obtain⟨x0,rfl⟩:=fZ Tryz.underlying9 h0
  obtain⟨es1,m1,hm1,rfl,hs1⟩:=gF Tryz.underlying41 h1
  obtain⟨x1,rfl⟩:=fV (enc:=encS) fun y hy=>fZ Tryz.underlying9 (hs1 y hy)
  obtain⟨es2,m2,hm2,rfl,hs2⟩:=gF Tryz.underlying42 h2
  obtain⟨x2,rfl⟩:=fV (enc:=bg.enc) fun y hy=>YN m2 y (hs2 y hy)
  obtain⟨es3,m3,hm3,rfl,hs3⟩:=gF Tryz.underlying43 h3
  obtain⟨x3,rfl⟩:=fV (enc:=aO.enc) fun y hy=>PY m3 y (hs3 y hy)
  obtain⟨es4,m4,hm4,rfl,hs4⟩:=gF Tryz.underlying44 h4
  obtain⟨x4,rfl⟩:=fV (enc:=aQ.enc) fun y hy=>PZ m4 y (hs4 y hy)
  obtain⟨es5,m5,hm5,rfl,hs5⟩:=gF Tryz.underlying45 h5
  obtain⟨x5,rfl⟩:=fV (enc:=aS.enc) fun y hy=>P5 m5 y (hs5 y hy)
  refine⟨aN.mk x0 x1 x2 x3 x4 x5,?_⟩
  rw[aN.aH]
  simp
theorem TF:∀(n:Nat) (ds:List D),WT Tryz.prog n 61 ds→∃x:dw,ds=x.enc:=by
 intro n
 induction n using Nat.strongRecOn with
 |_ n ih=>
  intro ds h
  obtain⟨m,hm,h⟩:=jR Tryz.underlying61 h
  simp only[uh] at h
  obtain⟨a0,r0,rfl,l0,h0,rfl⟩:=h
  obtain⟨es0,m0,hm0,rfl,hs0⟩:=gF Tryz.underlying59 h0
  obtain⟨x0,rfl⟩:=fV (enc:=aN.enc) fun y hy=>TD m0 y (hs0 y hy)
  refine⟨dw.mk x0,?_⟩
  rw[dw.aH]
  simp
end Go.Proofs.YtcfhnaohbaplhaaGreatDoor
