/-
  SEVERAL TEXTS IN ONE (merged by program): contracts and models, each with its own heading.
-/
import Derived.Test.YtlaaknnkeidlbaaGreatDoorPartDedbJ
import Derived.Lib.AppendZeros
import Derived.Laws.Cover3
open Go.Proofs Go.Proofs.Tryz
set_option linter.unusedSimpArgs false
set_option linter.unusedVariables false
set_option maxRecDepth 4000
namespace Go.Ab
theorem PV{P:Program}{w:World}{t u ty e:TypeId}{base:Option Addr}{n:Nat}{i:TypeInfo}{z:Value}(ht:P.underlying t=some (.slice e))(hu:P.underlying u=some (.int .i64))(hi:P.info? e=some i)
 (hz:i.zero=some z)(h1:1<=n)(hn:n<=1073741824)(hb:i.bytes<=4096)(hs:i.size=z.cells.size):
 ∃(cap:Nat) (row:Array Value),n<=cap/\row.size=cap*z.cells.size/\(Builtin.append_ #[t,u] ty #[.slice base 0 0,.int .i64 n]).run P w=
  .ok (.slice (some ⟨w.heap.size,0,none⟩) n cap) {w.drew with heap:=w.heap.push (.cells row e)}:=by
 have hn1:=H9 n 0 (by omega)
 have h48:¬(281474976710656<Builtin.nextslicecap n 0*i.bytes):=by
  have:Builtin.nextslicecap n 0*i.bytes<=(2*n+512)*4096:=fj hn1 hb;omega
 have h49:¬(281474976710656<(n:Int)*(i.bytes:Int)):=by
  have h2:n*i.bytes<=1073741824*4096:=fj hn hb
  have:(n:Int)*(i.bytes:Int)=((n*i.bytes:Nat):Int):=by simp
  rw[this];omega
 have h63':¬(9223372036854775807<(n:Int)):=by omega
 have hroom':¬(n<=0):=by omega
 have hneg:¬((n:Int)<0):=by omega
 have hn0:¬n=0:=by omega
 have hw:IntKind.i64.wrap (n:Int)=n:=Fg _ (by omega)
 have hmax:IntKind.i64.max=9223372036854775807:=by decide
 have ha:∀w:World,(asInt (.int .i64 (n:Int))).run P w=.ok (n:Int) w:=fun w=>by simp[asInt,asIntOf]
 let cap:=(Question.appendCap n 0 e).cut (w.tape w.drawn (Question.appendCap n 0 e))
 have hcap:n<=cap:=by simp[cap,Question.cut]
 refine⟨cap,#[]++(if n*i.size=0 then #[] else Builtin.zeroCells z.cells n)++Builtin.zeroCells z.cells (cap-n),hcap,?_,?_⟩
 ·by_cases h0:n*i.size=0
  ·rw[if_pos h0]
   have hsz:z.cells.size=0:=by
    rcases Nat.mul_eq_zero.1 h0 with h|h
    ·omega
    ·omega
   simp[Builtin.zeroCells,hsz]
  ·rw[if_neg h0];simp only[Builtin.zeroCells,Array.size_append,Array.size_map,Array.size_range,Array.size_empty,cL];rw[<-cw];congr 1;omega
 ·by_cases h0:n*i.size=0
  ·rw[if_pos h0];cases base<;>simp[Builtin.append_,run_underlying ht,run_underlying hu,sizeOf,typeInfo,zeroValue,hi,hz,hroom',h48,h49,h63',hneg,hw,hmax,Question.forced,newRow,ha,hn0,loadCellsFrom,h0,Builtin.firstCells,loadCells]<;>exact⟨rfl,rfl⟩
  ·rw[if_neg h0];cases base<;>simp[Builtin.append_,run_underlying ht,run_underlying hu,sizeOf,typeInfo,zeroValue,hi,hz,hroom',h48,h49,h63',hneg,hw,hmax,Question.forced,newRow,ha,hn0,loadCellsFrom,h0,Builtin.firstCells,loadCells]<;>exact⟨rfl,rfl⟩
theorem PW{α:Type}(xss:List (List α)){i:Nat}(hi:i<xss.length):(xss.take (i+1)).flatten.length=(xss.take i).flatten.length+xss[i].length:=by
 rw[bp hi,cS,ab];simp only[cn,List.flatten_nil,bw]
theorem Fy{α:Type}(xss:List (List α))(i:Nat):(xss.take i).flatten.length<=xss.flatten.length:=by
 conv=>rhs;rw[<-dC i xss]
 rw[cS,ab];omega
theorem bL.args{P:Program}{f:FuncId}{args args':List V}{S:Store}{post:V->Store->Prop}(h:bL P f args' S post)(hl:pW args args'):bL P f args S post:=h.weaken hl.length fun j x y hx hy w σ β v hr=>hl.at j x y hx hy w σ S β v hr
theorem nY(n:Nat)(es:List (List D)):Less (.c (.iT n es)) (.c (.d (.sl es))):=fun w σ S β v h=>⟨wz h.1.1,h.2⟩
theorem kF(xs:List (List UInt8))(hx:xs.length<=1073741824)(n q:Nat)(bq:List Ab.Obj)(Ω:Store):bL prog 100 [.c (.d (.sl (xs.map encS)))] (bq::Ω)
 (fun r S'=>r=.c (.bM (0,bq.length+1) (lx (aP xs) q))/\S'=(bq++[.seed n,.dY n 2 (lx (aP xs) q)])::Ω):=by
 refine VI (n) (rs:=[.tmp 2]) zmx func100 ntmps100 rfl rfl rfl rfl rfl ?_;simp -implicitDefEqProofs (disch:=omega) only[go_sem]
 (repeat(with_reducible refine And.intro ?_ ?_;focus first|omega|rfl|assumption|exact⟨_,rfl,rfl⟩|(simp;omega)|(simp;done)))
 refine vv n 3 2 [] (.inl rfl) (by simp) ?_
 refine bI (ι:=Nat) zmx rfl [3,7,8,9] (fun i=>[.c (.bM (0,1) (lx ((aP xs).take i) q)),.c (.d (.sl (xs.map encS))),.c (.d (.i .i64 xs.length)),.c (.d (.i .i64 i))]) (fun i=>[.seed n,.dY n 2 (lx ((aP xs).take i) q)]::bq::Ω)
  (fun i=>i<=xs.length) (fun i=>xs.length-i) 0 rfl rfl (ba _) ?_
 intro i hi;simp -implicitDefEqProofs (disch:=omega) only[go_sem]
 with_reducible refine ay (fun hb=> ?_) (fun hb=> ?_)<;>have h:=hb<;>(try simp only[wf_preprocess] at h)<;>simp -implicitDefEqProofs (disch:=omega) only[go_sem,hb]<;>(repeat(with_reducible refine And.intro ?_ ?_;focus first|omega|rfl|assumption|exact⟨_,rfl,rfl⟩|(simp;omega)|(simp;done)))
 ·have hi':i<xs.length:=by omega
  have hw:i<(aP xs).length:=by rw[lq];exact hi'
  have hg:(aP xs)[i]=aM xs[i]:=by simp[aP]
  have hl:(lx ((aP xs).take i) q).length<=i:=by rw[iX];exact ci _ _
  (repeat(with_reducible refine And.intro ?_ ?_;focus first|omega|rfl|assumption|exact⟨_,rfl,rfl⟩|(simp;omega)|(simp;done)))
  refine aA (gG xs[i] (q+iR ((aP xs).take i))) ?_;simp -implicitDefEqProofs (disch:=omega) only[go_sem]
  (repeat(with_reducible refine And.intro ?_ ?_;focus first|omega|rfl|assumption|exact⟨_,rfl,rfl⟩|(simp;omega)|(simp;done)))
  have hs:=KT hw q;rw[hg,zU] at hs;rw[hs];exact bZ (i+1) (by omega) rfl rfl (by omega)
 ·have hi':i=(aP xs).length:=by rw[lq];omega
  rw[hi',co];exact⟨rfl,rfl⟩
theorem Ze(base:Option Addr)(n:Nat)(h1:1<=n)(hn:n<=1073741824)(w:World):Calls prog 191 #[.slice base 0 0,.int .i64 n] w fun e w'=>
 ∃cap row,n<=cap/\row.size=cap*2/\e=.returned (.slice (some ⟨w.heap.size,0,none⟩) 0 cap)/\w'={w.drew with heap:=w.heap.push (.cells row 37)}:=by
 obtain⟨cap,row,hc,hr,hm⟩:=PV (P:=prog) (w:=w) (t:=35) (u:=3) (ty:=35) (e:=37) (base:=base) (n:=n) underlying35 underlying3 rfl rfl h1 hn (by decide +kernel) rfl
 have h0:¬((n:Int)<0):=by omega
 have h2:(0:Int)<n:=by omega
 go_enter func191,ntmps191
 go_wp2_with (at_builtin;refine Lib.wpList_append_run _ rfl _ _ _ _ rfl _ _ rfl rfl _ _ hm ?_)
 all_goals go_ret
 exact⟨cap,hc,row,hr,rfl,rfl⟩
theorem VR(base:Option Addr)(w:World):Calls prog 191 #[.slice base 0 0,.int .i64 0] w fun e w'=>e=.returned (.slice base 0 0)/\w'=w:=by
 go_enter func191,ntmps191
 go_wp2
 all_goals go_ret
 exact⟨rfl,rfl⟩
theorem Zf(m n:Nat)(hn:n<=1073741824)(bq:List Ab.Obj)(Ω:Store):bL prog 191 [.c (.bB []),.c (.d (.i .i64 n))] (bq::Ω)
 (fun r S'=>r=.c (.bM (0,bq.length) [])/\S'=(bq++[.dY m 2 []])::Ω):=by
 refine⟨⟨_,func191,by kernel_rfl,by kernel_rfl⟩,fun w σ β vs hS hv=> ?_⟩;obtain⟨hl,h⟩:=hv;obtain⟨v0,e0,⟨h0,a,m',h00⟩,_⟩:=h 0 _ rfl;obtain⟨v1,e1,h1,_⟩:=h 1 _ rfl
 have h1':v1=.int .i64 n:=by cases h1;rfl
 subst h1'
 have hm:m'=0:=by rw[h00] at h0;cases h0<;>rfl
 subst hm;subst h00
 have hvs:vs=[.slice a 0 0,.int .i64 n]:=by
  match vs,hl,e0,e1 with
  |[x,y],_,e0,e1=>simp at e0 e1;rw[e0,e1]
 subst hvs
 cases β with
 |nil=>have:=hS.shape.1;simp at this
 |cons bo bΩ=>
 have hlen:bo.length=bq.length:=by
  obtain⟨gr,g1,g2⟩:=hS.shape.2 0 bq rfl;simp at g1;rw[g1];exact g2
 by_cases hz:n=0
 ·subst hz;refine(VR a w).mono fun e w' ⟨he,hw⟩=> ?_;subst hw;obtain⟨hS',hk,hst⟩:=hS.push (o:=.dY m 2 []) (h:=.slice a 0 0) (Grow.refl hS.live) hlen ⟨h0,by simp,a,0,rfl,by simp,.inl ⟨rfl,.rM _ _ _⟩⟩ (fun b hb=>by cases a<;>simp[owns,blk] at hb);refine⟨_,.c (.bM (0,bq.length) []),_,_,_,he,hS',hk,hst,⟨⟨h0,.dY m 2 [],?_,fun aJ es e=> ?_⟩,rfl⟩,rfl,rfl⟩
  ·rw[bg]
  ·obtain⟨_,rfl⟩:=mK (lab:=some m) e;exact⟨ax _,fun _=>by rw[<-hlen,bg]⟩
 ·refine(Ze a n (by omega) hn w).mono fun e w' ⟨cap,row,hc,hr,he,hw⟩=> ?_;subst hw;have hσ:σ w.heap.size=0:=(hS.live w.heap.size).resolve_left (by omega)
  have hg:Grow w σ {w.drew with heap:=w.heap.push (.cells row 37)} σ:=by
   refine⟨by simp,rfl,rfl,fun b hb=>⟨?_,rfl⟩,fun b=> ?_⟩
   ·simp only[dd];rw[if_neg (by omega)]
   ·rcases hS.live b with hb|hb
    ·left;simp;omega
    ·exact .inr hb
  obtain⟨hS',hk,hst⟩:=hS.push (o:=.dY m 2 []) (h:=.slice (some ⟨w.heap.size,0,none⟩) 0 cap) hg hlen ⟨.nil _ _,by simp,_,cap,rfl,by simp,.inr ⟨by simp;omega,w.heap.size,0,row,37,rfl,by simp,by simp[hσ],by omega⟩⟩ (fun b hb=>by
   simp only[owns,blk] at hb;split at hb
   ·cases hb
   ·cases hb;exact ax _)
  refine⟨_,.c (.bM (0,bq.length) []),_,_,_,he,hS',hk,hst,⟨⟨.nil _ _,.dY m 2 [],?_,fun aJ es e=> ?_⟩,rfl⟩,rfl,rfl⟩
  ·rw[bg]
  ·obtain⟨_,rfl⟩:=mK (lab:=some m) e;exact⟨ax _,fun _=>by rw[<-hlen,bg]⟩
theorem Sc(m l:Nat)(xss:List (Nat×List (List D)))(hl:xss.length<=1073741824)(hr:∀p∈xss,∀r∈p.2,r.length=2)(hf:(xss.map (·.2)).flatten.length<=1073741824):aF prog 102 [.c (.iT l (xss.map fun p=>[.ol p.1 p.2]))] (.c (.d (.ol m (xss.map (·.2)).flatten))):=fun S=>by
 obtain⟨ys,hys⟩:∃ys:List (List (List D)),ys=xss.map (·.2):=⟨_,rfl⟩;rw[<-hys] at hf ⊢
 have hyl:ys.length=xss.length:=by rw[hys,ai]
 have hyi:∀i (hi:i<xss.length),ys[i]'(by omega)=xss[i].2:=fun i hi=>by simp[hys]
 have Ie:∀i (hi:i<xss.length),∀r∈xss[i].2,r.length=2:=fun i hi=>hr _ (ap hi);refine oU (m) (rs:=[.tmp 2]) zmx func102 ntmps102 rfl rfl rfl rfl rfl ?_;simp -implicitDefEqProofs (disch:=omega) only[go_sem]
 refine bI (ι:=Nat) zmx rfl [0,3,9,10,11] (fun i=>[.c (.iT l (xss.map fun p=>[.ol p.1 p.2])),.c (.d (.i .i64 (ys.take i).flatten.length)),.c (.iT l (xss.map fun p=>[.ol p.1 p.2])),.c (.d (.i .i64 xss.length)),.c (.d (.i .i64 i))]) (fun _=>[.seed m]::S)
  (fun i=>i<=xss.length) (fun i=>xss.length-i) 0 rfl rfl (ba _) ?_
 rintro i p1;have hfi:=Fy ys i;by_cases hi:i<xss.length
 ·have hs:=PW ys (i:=i) (by omega);rw[hyi i hi] at hs;have ajX:=Fy ys (i+1);simp -implicitDefEqProofs (disch:=omega) only[go_sem]
  with_reducible refine ay (fun hb=> ?_) (fun hb=> ?_)<;>have h:=hb<;>(try simp only[wf_preprocess] at h)<;>simp -implicitDefEqProofs (disch:=omega) only[go_sem,hb]<;>(repeat(with_reducible refine And.intro ?_ ?_;focus first|omega|rfl|assumption|exact⟨_,rfl,rfl⟩|(simp;omega)|(simp;done)))
  ·(repeat(with_reducible refine And.intro ?_ ?_;focus first|omega|rfl|assumption|exact⟨_,rfl,rfl⟩|(simp;omega)|(simp;done)))
   with_reducible refine ay (fun hb=> ?_) (fun hb=> ?_)<;>have h:=hb<;>(try simp only[wf_preprocess] at h)<;>simp -implicitDefEqProofs (disch:=omega) only[go_sem,hb]<;>(repeat(with_reducible refine And.intro ?_ ?_;focus first|omega|rfl|assumption|exact⟨_,rfl,rfl⟩|(simp;omega)|(simp;done)))
   ·omega
   ·refine bZ (i+1) (by omega) ?_ rfl (by omega);rw[hs];rfl
  ·omega
 have hi:i=xss.length:=by omega
 subst hi;simp -implicitDefEqProofs (disch:=omega) only[go_sem]
 with_reducible refine ay (fun hb=> ?_) (fun hb=> ?_)<;>have h:=hb<;>(try simp only[wf_preprocess] at h)<;>simp -implicitDefEqProofs (disch:=omega) only[go_sem,hb]<;>(repeat(with_reducible refine And.intro ?_ ?_;focus first|omega|rfl|assumption|exact⟨_,rfl,rfl⟩|(simp;omega)|(simp;done)))
 ·omega
 rw[<-hyl,co];clear hfi;refine aQ rfl (Zf m ys.flatten.length hf [.seed m] S) ?_;simp -implicitDefEqProofs (disch:=omega) only[go_sem]
 refine bI (ι:=Nat) zmx rfl [6,25,26,27] (fun i=>[.c (.bM (0,1) (ys.take i).flatten),.c (.iT l (xss.map fun p=>[.ol p.1 p.2])),.c (.d (.i .i64 xss.length)),.c (.d (.i .i64 i))]) (fun i=>[.seed m,.dY m 2 (ys.take i).flatten]::S)
  (fun i=>i<=xss.length) (fun i=>xss.length-i) 0 (by rw[<-hyl];rfl) rfl (ba _) ?_
 rintro i p1;have hfi:=Fy ys i;by_cases hi:i<xss.length
 ·have hs:=PW ys (i:=i) (by omega);rw[hyi i hi] at hs;have ajX:=Fy ys (i+1)
  have e:(ys.take (i+1)).flatten=(ys.take i).flatten++xss[i].2:=by
   rw[bp (by omega),cS,hyi i hi];simp only[cn,List.flatten_nil,bw]
  have wQ:=Ie i hi;simp -implicitDefEqProofs (disch:=omega) only[go_sem]
  with_reducible refine ay (fun hb=> ?_) (fun hb=> ?_)<;>have h:=hb<;>(try simp only[wf_preprocess] at h)<;>simp -implicitDefEqProofs (disch:=omega) only[go_sem,hb]<;>(repeat(with_reducible refine And.intro ?_ ?_;focus first|omega|rfl|assumption|exact⟨_,rfl,rfl⟩|(simp;omega)|(simp;done)))
  ·(repeat(with_reducible refine And.intro ?_ ?_;focus first|omega|rfl|assumption|exact⟨_,rfl,rfl⟩|(simp;omega)|(simp;done)))
   exact bZ (i+1) (by omega) (by rw[e];rfl) (by rw[e]) (by omega)
  ·omega
 ·have hi:i=ys.length:=by omega
  simp -implicitDefEqProofs (disch:=omega) only[go_sem]
  with_reducible refine ay (fun hb=> ?_) (fun hb=> ?_)<;>have h:=hb<;>(try simp only[wf_preprocess] at h)<;>simp -implicitDefEqProofs (disch:=omega) only[go_sem,hb]<;>(repeat(with_reducible refine And.intro ?_ ?_;focus first|omega|rfl|assumption|exact⟨_,rfl,rfl⟩|(simp;omega)|(simp;done)))
  ·omega
  rw[hi,co]
theorem eP{x:aj}{k:Int}(h:x.aH=k):eD x.aH x.aW x.fName x.fType=eD k x.aW x.fName x.fType:=by rw[h]
theorem Ed{l:List aj}{t:aj}(h:t∈l):t.sz<=pY l:=by
 rw[<-GL];exact iK (cE h)
theorem Ci{l:List aK}{t:aK}(h:t∈l):t.sz<=xH l:=by
 rw[<-GN];exact iK (cE h)
theorem vT:∀{xs:List aj},jq xs=true<->∀t∈xs,gT t=true
 |[]=>by simp[jq]
 |t::ts=>by simp[jq,vT (xs:=ts)]
theorem yj:∀{xs:List aK},kZ xs=true<->∀t∈xs,rE t=true
 |[]=>by simp[kZ]
 |t::ts=>by simp[kZ,yj (xs:=ts)]
theorem fF{x:aj}(h1:x.aH≠1)(h2:x.aH≠2)(h3:x.aH≠3)(h:x.aH=4\/x.aH=5\/x.aH=6\/x.aH=8\/x.aH=9\/x.aH=10\/x.aH=11\/x.aH=12):
 bT x=dh (eD x.aH x.aW x.fName x.fType++x.fArgs.map bT):=by rw[wP,if_neg h1,if_neg h2,if_neg h3,if_pos h,bw]
theorem Jv:∀N:Nat,∀x:aj,SizeOf.sizeOf x<N->∀n:Nat,gT x=true->x.sz<=4194304->aF prog 41 [x.v] (.agg [.d (.s (bT x).aI),.d (.ol n (lx (bT x).ak (n+1)))])
 |0=>fun x h=>by omega
 |N+1=>by
  have ih:=Jv N;intro x hn n hok hsz S;have j4:=aj.jo x;have BU:=aj.tu x;have hzz:=qZ x;rw[qR,af,af] at hok;obtain⟨hfi,hoa,Ee⟩:=hok;have hfi:=iJ hfi;have hoa:=vT.1 hoa;have Ee:=yj.1 Ee;obtain⟨qa,uW⟩:∃qa,qa=n+1+iR (eD x.aH x.aW x.fName x.fType):=⟨_,rfl⟩;obtain⟨T,hT⟩:∃T:Nat->List (List D),T=fun i=>lx ((x.fArgs.map bT).take i) qa:=⟨_,rfl⟩
  have hT0:T 0=[]:=by rw[hT];rfl
  have Bg:∀i,(T i).length<=i:=fun i=>by rw[hT];simp only[iX];exact ci _ _
  have hTr:∀i,∀r∈T i,r.length=2:=fun i=>by rw[hT];exact mI
  have hTs:∀i (hi:i<x.fArgs.length),T i++[[.s (bT x.fArgs[i]).aI,.ol (qa+iR ((x.fArgs.map bT).take i)) (lx (bT x.fArgs[i]).ak (qa+iR ((x.fArgs.map bT).take i)+1))]]=T (i+1):=fun i hi=>by
   have:=PS (l:=x.fArgs.map bT) (i:=i) (by rw[ai];exact hi) qa;rw[cj] at this;rw[hT];exact this
  have hTe:T x.fArgs.length=lx (x.fArgs.map bT) qa:=by rw[hT];simp only;rw[cm (by simp)]
  clear hT;refine oU (n) (rs:=[.cell 2 37]) zmx func41 ntmps41 rfl rfl rfl rfl rfl ?_;simp -implicitDefEqProofs (disch:=omega) only[go_sem]
  (repeat(with_reducible refine And.intro ?_ ?_;focus first|omega|rfl|assumption|exact⟨_,rfl,rfl⟩|(simp;omega)|(simp;done)))
  refine vv n 3 2 [] (.inl rfl) (by simp) ?_
  refine bI (ι:=Nat) zmx rfl [1,2,3,11,12,13] (fun i=>[.c (.ptr (0,1) 0),.c (.ptr (0,2) 0),.c (.bM (0,3) (T i)),.c (.d (.sl (x.fArgs.map aj.enc))),.c (.d (.i .i64 x.fArgs.length)),.c (.d (.i .i64 i))])
   (fun i=>[.seed n,.box [.d (.i .i64 x.aH),.d (.s x.aW),.d (.s x.fName),.d (.i .i64 x.fN),.d (.i .i64 x.fType.aH),.d (.s x.fType.fName),.d (.sl (x.fType.fArgs.map au.enc)),.d (.sl (x.fArgs.map aj.enc)),.d (.sl (x.aG.map aK.enc))],.box [.d (.s []),.bB []],.dY n 2 (T i)]::S)
   (fun i=>i<=x.fArgs.length) (fun i=>x.fArgs.length-i) 0 (by rw[hT0];rfl) (by rw[hT0];rfl) (ba _) ?_
  intro i hi;have hl:=Bg i;simp -implicitDefEqProofs (disch:=omega) only[go_sem]
  with_reducible refine ay (fun hb=> ?_) (fun hb=> ?_)<;>have h:=hb<;>(try simp only[wf_preprocess] at h)<;>simp -implicitDefEqProofs (disch:=omega) only[go_sem,hb]<;>(repeat(with_reducible refine And.intro ?_ ?_;focus first|omega|rfl|assumption|exact⟨_,rfl,rfl⟩|(simp;omega)|(simp;done)))
  ·have hi':i<x.fArgs.length:=by omega
   have hm:=ap hi';have Xx:=Ed hm;have hs:=hTs i hi'
   (repeat(with_reducible refine And.intro ?_ ?_;focus first|omega|rfl|assumption|exact⟨_,rfl,rfl⟩|(simp;omega)|(simp;done)))
   refine aA (ih x.fArgs[i] (by have:=bc hm;omega) (qa+iR ((x.fArgs.map bT).take i)) (hoa _ hm) (by omega)) ?_;simp -implicitDefEqProofs (disch:=omega) only[go_sem]
   (repeat(with_reducible refine And.intro ?_ ?_;focus first|omega|rfl|assumption|exact⟨_,rfl,rfl⟩|(simp;omega)|(simp;done)))
   rw[hs];exact iD 4 (by decide) (i+1) (by omega) rfl rfl rfl rfl (by omega)
  have hi':i=x.fArgs.length:=by omega
  subst hi';clear hTs hi h hb;have hTT:=hTr x.fArgs.length;have hxe:=wP x
  with_reducible refine ay (fun hb=> ?_) (fun hb=> ?_)<;>have h:=hb<;>(try simp only[wf_preprocess] at h)<;>simp -implicitDefEqProofs (disch:=omega) only[go_sem,hb]<;>(repeat(with_reducible refine And.intro ?_ ?_;focus first|omega|rfl|assumption|exact⟨_,rfl,rfl⟩|(simp;omega)|(simp;done)))
  ·rw[if_pos h] at hxe;rw[hxe];have hb:=hfi.2.2.2.1;rw[if_pos h] at hb;refine aA (GQ x.fN (by omega) (by omega)) ?_;simp -implicitDefEqProofs (disch:=omega) only[go_sem];refine aA (gG _ n) ?_;simp -implicitDefEqProofs (disch:=omega) only[go_sem];rfl
  have k1:=h;rw[if_neg h] at hxe
  with_reducible refine ay (fun hb=> ?_) (fun hb=> ?_)<;>have h:=hb<;>(try simp only[wf_preprocess] at h)<;>simp -implicitDefEqProofs (disch:=omega) only[go_sem,hb]<;>(repeat(with_reducible refine And.intro ?_ ?_;focus first|omega|rfl|assumption|exact⟨_,rfl,rfl⟩|(simp;omega)|(simp;done)))
  ·rw[if_pos h] at hxe;rw[hxe]
   with_reducible refine ay (fun hb=> ?_) (fun hb=> ?_)<;>have h:=hb<;>(try simp only[wf_preprocess] at h)<;>simp -implicitDefEqProofs (disch:=omega) only[go_sem,hb]<;>(repeat(with_reducible refine And.intro ?_ ?_;focus first|omega|rfl|assumption|exact⟨_,rfl,rfl⟩|(simp;omega)|(simp;done)))
   ·rw[if_pos h];refine aA (gG _ n) ?_;simp -implicitDefEqProofs (disch:=omega) only[go_sem];rfl
   ·rw[if_neg h];refine aA (gG _ n) ?_;simp -implicitDefEqProofs (disch:=omega) only[go_sem];rfl
  have k2:=h;rw[if_neg h] at hxe
  with_reducible refine ay (fun hb=> ?_) (fun hb=> ?_)<;>have h:=hb<;>(try simp only[wf_preprocess] at h)<;>simp -implicitDefEqProofs (disch:=omega) only[go_sem,hb]<;>(repeat(with_reducible refine And.intro ?_ ?_;focus first|omega|rfl|assumption|exact⟨_,rfl,rfl⟩|(simp;omega)|(simp;done)))
  ·rw[if_pos h] at hxe;rw[hxe];refine aA (gG _ n) ?_;simp -implicitDefEqProofs (disch:=omega) only[go_sem];rfl
  have k3:=h;clear hxe
  with_reducible refine ay (fun hb=> ?_) (fun hb=> ?_)<;>have h:=hb<;>(try simp only[wf_preprocess] at h)<;>simp -implicitDefEqProofs (disch:=omega) only[go_sem,hb]<;>(repeat(with_reducible refine And.intro ?_ ?_;focus first|omega|rfl|assumption|exact⟨_,rfl,rfl⟩|(simp;omega)|(simp;done)))
  ·have hx:=fF k1 k2 k3 (by omega)
   have hh:eD x.aH x.aW x.fName x.fType=aP [kg,x.fName]:=by rw[eP h];rfl
   rw[hh] at hx uW
   (repeat(with_reducible refine And.intro ?_ ?_;focus first|omega|rfl|assumption|exact⟨_,rfl,rfl⟩|(simp;omega)|(simp;done)))
   refine aQ rfl (bL.args (kF [kg,x.fName] (by simp) n (n+1) _ _) (.cons (nY n _) .nil)) ?_
   have CR:(lx (aP [kg,x.fName]) (n+1)).length=2:=by rw[iX];rfl
   have Ma:=mI (l:=aP [kg,x.fName]) (n:=n+1);simp -implicitDefEqProofs (disch:=omega) only[go_sem]
   (repeat(with_reducible refine And.intro ?_ ?_;focus first|omega|rfl|assumption|exact⟨_,rfl,rfl⟩|(simp;omega)|(simp;done)))
   refine aQ rfl (lZ 0 5 _ _) ?_;simp -implicitDefEqProofs (disch:=omega) only[go_sem];rw[hx,hTe,uW,fB,eY,jO]
  have k4:=h
  with_reducible refine ay (fun hb=> ?_) (fun hb=> ?_)<;>have h:=hb<;>(try simp only[wf_preprocess] at h)<;>simp -implicitDefEqProofs (disch:=omega) only[go_sem,hb]<;>(repeat(with_reducible refine And.intro ?_ ?_;focus first|omega|rfl|assumption|exact⟨_,rfl,rfl⟩|(simp;omega)|(simp;done)))
  ·have hx:=fF k1 k2 k3 (by omega)
   have hh:eD x.aH x.aW x.fName x.fType=aP [fM,x.aW,x.fName]:=by rw[eP h];rfl
   rw[hh] at hx uW
   (repeat(with_reducible refine And.intro ?_ ?_;focus first|omega|rfl|assumption|exact⟨_,rfl,rfl⟩|(simp;omega)|(simp;done)))
   refine aQ rfl (bL.args (kF [fM,x.aW,x.fName] (by simp) n (n+1) _ _) (.cons (nY n _) .nil)) ?_
   have CR:(lx (aP [fM,x.aW,x.fName]) (n+1)).length=3:=by rw[iX];rfl
   have Ma:=mI (l:=aP [fM,x.aW,x.fName]) (n:=n+1);simp -implicitDefEqProofs (disch:=omega) only[go_sem]
   (repeat(with_reducible refine And.intro ?_ ?_;focus first|omega|rfl|assumption|exact⟨_,rfl,rfl⟩|(simp;omega)|(simp;done)))
   refine aQ rfl (lZ 0 5 _ _) ?_;simp -implicitDefEqProofs (disch:=omega) only[go_sem];rw[hx,hTe,uW,fB,eY,jO]
  have k5:=h
  with_reducible refine ay (fun hb=> ?_) (fun hb=> ?_)<;>have h:=hb<;>(try simp only[wf_preprocess] at h)<;>simp -implicitDefEqProofs (disch:=omega) only[go_sem,hb]<;>(repeat(with_reducible refine And.intro ?_ ?_;focus first|omega|rfl|assumption|exact⟨_,rfl,rfl⟩|(simp;omega)|(simp;done)))
  ·have hx:=fF k1 k2 k3 (by omega)
   have hh:eD x.aH x.aW x.fName x.fType=aP [mV,x.fName]:=by rw[eP h];rfl
   rw[hh] at hx uW
   (repeat(with_reducible refine And.intro ?_ ?_;focus first|omega|rfl|assumption|exact⟨_,rfl,rfl⟩|(simp;omega)|(simp;done)))
   refine aQ rfl (bL.args (kF [mV,x.fName] (by simp) n (n+1) _ _) (.cons (nY n _) .nil)) ?_
   have CR:(lx (aP [mV,x.fName]) (n+1)).length=2:=by rw[iX];rfl
   have Ma:=mI (l:=aP [mV,x.fName]) (n:=n+1);simp -implicitDefEqProofs (disch:=omega) only[go_sem]
   (repeat(with_reducible refine And.intro ?_ ?_;focus first|omega|rfl|assumption|exact⟨_,rfl,rfl⟩|(simp;omega)|(simp;done)))
   refine aQ rfl (lZ 0 5 _ _) ?_;simp -implicitDefEqProofs (disch:=omega) only[go_sem];rw[hx,hTe,uW,fB,eY,jO]
  have k6:=h
  with_reducible refine ay (fun hb=> ?_) (fun hb=> ?_)<;>have h:=hb<;>(try simp only[wf_preprocess] at h)<;>simp -implicitDefEqProofs (disch:=omega) only[go_sem,hb]<;>(repeat(with_reducible refine And.intro ?_ ?_;focus first|omega|rfl|assumption|exact⟨_,rfl,rfl⟩|(simp;omega)|(simp;done)))
  ·have hx:=wP x;rw[if_neg k1,if_neg k2,if_neg k3,if_neg (by omega)] at hx
   have hh:eD x.aH x.aW x.fName x.fType=aP [gJ]:=by rw[eP h];rfl
   rw[hh] at hx uW;obtain⟨B,hB⟩:∃B:Nat->List (List D),B=fun i=>lx (x.fArgs.map bT++(x.aG.map rJ).take i) qa:=⟨_,rfl⟩;obtain⟨L,hL⟩:∃L:Nat->Nat,L=fun i=>qa+iR (x.fArgs.map bT++(x.aG.map rJ).take i):=⟨_,rfl⟩
   have hB0:T x.fArgs.length=B 0:=by rw[hTe,hB];simp only[df,bw]
   have hBl:∀i,(B i).length<=i+x.fArgs.length:=fun i=>by
    rw[hB];simp only[iX,ab,ai];have:=ci i (x.aG.map rJ);omega
   have hBr:∀i,∀r∈B i,r.length=2:=fun i=>by rw[hB];exact mI
   have Mc:∀i (hi:i<x.aG.length),B i++[[.s [],.ol (L i) (lx ([aM x.aG[i].bK]++aP x.aG[i].bH++[bT x.aG[i].fBody]) (L i+1))]]=B (i+1):=fun i hi=>by
    have:=acj (base:=x.fArgs.map bT) (l:=x.aG.map rJ) (i:=i) (by rw[ai];exact hi) qa;rw[cj,PU,fB,eY] at this;rw[hB,hL];exact this
   have Zg:B x.aG.length=lx (x.fArgs.map bT++x.aG.map rJ) qa:=by rw[hB];simp only;rw[cm (by simp)]
   clear hB hL hTT
   (repeat(with_reducible refine And.intro ?_ ?_;focus first|omega|rfl|assumption|exact⟨_,rfl,rfl⟩|(simp;omega)|(simp;done)))
   refine aQ rfl (bL.args (kF [gJ] (by simp) n (n+1) _ _) (.cons (nY n _) .nil)) ?_
   have CR:(lx (aP [gJ]) (n+1)).length=1:=by rw[iX];rfl
   have Ma:=mI (l:=aP [gJ]) (n:=n+1);simp -implicitDefEqProofs (disch:=omega) only[go_sem];rw[hB0];obtain⟨HD,hHD⟩:∃HD,HD=lx (aP [gJ]) (n+1):=⟨_,rfl⟩;rw[<-hHD] at CR Ma ⊢
   refine bI (ι:=Nat) zmx rfl [2,3,6,69,70,71] (fun i=>[.c (.ptr (0,2) 0),.c (.bM (0,3) (B i)),.c (.bM (0,5) HD),.c (.d (.sl (x.aG.map aK.enc))),.c (.d (.i .i64 x.aG.length)),.c (.d (.i .i64 i))])
    (fun i=>[.seed n,.box [.d (.i .i64 x.aH),.d (.s x.aW),.d (.s x.fName),.d (.i .i64 x.fN),.d (.i .i64 x.fType.aH),.d (.s x.fType.fName),.d (.sl (x.fType.fArgs.map au.enc)),.d (.sl (x.fArgs.map aj.enc)),.d (.sl (x.aG.map aK.enc))],.box [.d (.s []),.bB []],.dY n 2 (B i),.seed n,.dY n 2 HD]::S)
    (fun i=>i<=x.aG.length) (fun i=>x.aG.length-i) 0 rfl rfl (ba _) ?_
   intro i hi;have hl:=hBl i;have hr:=hBr i;simp -implicitDefEqProofs (disch:=omega) only[go_sem]
   with_reducible refine ay (fun hb=> ?_) (fun hb=> ?_)<;>have h:=hb<;>(try simp only[wf_preprocess] at h)<;>simp -implicitDefEqProofs (disch:=omega) only[go_sem,hb]<;>(repeat(with_reducible refine And.intro ?_ ?_;focus first|omega|rfl|assumption|exact⟨_,rfl,rfl⟩|(simp;omega)|(simp;done)))
   ·have hi':i<x.aG.length:=by omega
    have hm:=ap hi';have Xx:=Ci hm;have Zh:=tV x.aG[i];have hs:=Mc i hi';have hak:=Ee _ hm;rw[mQ,af,af] at hak;have hls:=bc hm;have hlb:=aK.rD x.aG[i]
    (repeat(with_reducible refine And.intro ?_ ?_;focus first|omega|rfl|assumption|exact⟨_,rfl,rfl⟩|(simp;omega)|(simp;done)))
    refine wO (CQ [x.aG[i].bK] (by simp) 0 (L i+1)) (.cons (nY n _) .nil) ?_;simp -implicitDefEqProofs (disch:=omega) only[go_sem];refine aA (CQ x.aG[i].bH (by omega) 0 (L i+1+iR (aP [x.aG[i].bK]))) ?_;simp -implicitDefEqProofs (disch:=omega) only[go_sem];refine aA (ih x.aG[i].fBody (by omega) (L i+1+iR (aP [x.aG[i].bK]++aP x.aG[i].bH)) hak.2.2 (by omega)) ?_;simp -implicitDefEqProofs (disch:=omega) only[go_sem]
    (repeat(with_reducible refine And.intro ?_ ?_;focus first|omega|rfl|assumption|exact⟨_,rfl,rfl⟩|(simp;omega)|(simp;done)))
    refine aA (Sc (L i) n [(0,lx (aP [x.aG[i].bK]) (L i+1)),(0,lx (aP x.aG[i].bH) (L i+1+iR (aP [x.aG[i].bK]))),(n,[[.s (bT x.aG[i].fBody).aI,.ol (L i+1+iR (aP [x.aG[i].bK]++aP x.aG[i].bH)) (lx (bT x.aG[i].fBody).ak (L i+1+iR (aP [x.aG[i].bK]++aP x.aG[i].bH)+1))]])] (by simp) ?_ ?_) ?_
    ·intro p hp;simp only[cA,ep,or_false] at hp;rcases hp with rfl|rfl|rfl
     ·exact mI
     ·exact mI
     ·simp
    ·simp only[ag,az,cn,List.flatten_nil,ab,iX,lq,aa,aq];omega
    simp -implicitDefEqProofs (disch:=omega) only[go_sem];refine aA (Jr _) ?_;simp -implicitDefEqProofs (disch:=omega) only[go_sem]
    (repeat(with_reducible refine And.intro ?_ ?_;focus first|omega|rfl|assumption|exact⟨_,rfl,rfl⟩|(simp;omega)|(simp;done)))
    have hrow:[lx (aP [x.aG[i].bK]) (L i+1),lx (aP x.aG[i].bH) (L i+1+iR (aP [x.aG[i].bK])),[[.s (bT x.aG[i].fBody).aI,.ol (L i+1+iR (aP [x.aG[i].bK]++aP x.aG[i].bH)) (lx (bT x.aG[i].fBody).ak (L i+1+iR (aP [x.aG[i].bK]++aP x.aG[i].bH)+1))]]].flatten=lx ([aM x.aG[i].bK]++aP x.aG[i].bH++[bT x.aG[i].fBody]) (L i+1):=by
     have e1:[aM x.aG[i].bK]=aP [x.aG[i].bK]:=rfl;rw[e1,jO,jO,Bd (bT x.aG[i].fBody) [],D9,tT (bT x.aG[i].fBody)];simp only[cn,List.flatten_nil,bw,bk]
    rw[hrow,hs];exact iD 6 (by decide) (i+1) (by omega) rfl rfl rfl rfl (by omega)
   ·have hi':i=x.aG.length:=by omega
    subst hi';have hr2:=hBr x.aG.length
    (repeat(with_reducible refine And.intro ?_ ?_;focus first|omega|rfl|assumption|exact⟨_,rfl,rfl⟩|(simp;omega)|(simp;done)))
    refine aQ rfl (lZ 0 5 _ _) ?_;simp -implicitDefEqProofs (disch:=omega) only[go_sem];rw[hx,Zg,uW,hHD,fB,eY,bk,jO (aP [gJ])]
  have k7:=h
  with_reducible refine ay (fun hb=> ?_) (fun hb=> ?_)<;>have h:=hb<;>(try simp only[wf_preprocess] at h)<;>simp -implicitDefEqProofs (disch:=omega) only[go_sem,hb]<;>(repeat(with_reducible refine And.intro ?_ ?_;focus first|omega|rfl|assumption|exact⟨_,rfl,rfl⟩|(simp;omega)|(simp;done)))
  ·have hx:=fF k1 k2 k3 (by omega)
   have hh:eD x.aH x.aW x.fName x.fType=aP [mW,x.fName]:=by rw[eP h];rfl
   rw[hh] at hx uW
   (repeat(with_reducible refine And.intro ?_ ?_;focus first|omega|rfl|assumption|exact⟨_,rfl,rfl⟩|(simp;omega)|(simp;done)))
   refine aQ rfl (bL.args (kF [mW,x.fName] (by simp) n (n+1) _ _) (.cons (nY n _) .nil)) ?_
   have CR:(lx (aP [mW,x.fName]) (n+1)).length=2:=by rw[iX];rfl
   have Ma:=mI (l:=aP [mW,x.fName]) (n:=n+1);simp -implicitDefEqProofs (disch:=omega) only[go_sem]
   (repeat(with_reducible refine And.intro ?_ ?_;focus first|omega|rfl|assumption|exact⟨_,rfl,rfl⟩|(simp;omega)|(simp;done)))
   refine aQ rfl (lZ 0 5 _ _) ?_;simp -implicitDefEqProofs (disch:=omega) only[go_sem];rw[hx,hTe,uW,fB,eY,jO]
  have k8:=h
  with_reducible refine ay (fun hb=> ?_) (fun hb=> ?_)<;>have h:=hb<;>(try simp only[wf_preprocess] at h)<;>simp -implicitDefEqProofs (disch:=omega) only[go_sem,hb]<;>(repeat(with_reducible refine And.intro ?_ ?_;focus first|omega|rfl|assumption|exact⟨_,rfl,rfl⟩|(simp;omega)|(simp;done)))
  ·have hx:=fF k1 k2 k3 (by omega)
   have hh:eD x.aH x.aW x.fName x.fType=aP [qY]:=by rw[eP h];rfl
   rw[hh] at hx uW
   (repeat(with_reducible refine And.intro ?_ ?_;focus first|omega|rfl|assumption|exact⟨_,rfl,rfl⟩|(simp;omega)|(simp;done)))
   refine aQ rfl (bL.args (kF [qY] (by simp) n (n+1) _ _) (.cons (nY n _) .nil)) ?_
   have CR:(lx (aP [qY]) (n+1)).length=1:=by rw[iX];rfl
   have Ma:=mI (l:=aP [qY]) (n:=n+1);simp -implicitDefEqProofs (disch:=omega) only[go_sem]
   (repeat(with_reducible refine And.intro ?_ ?_;focus first|omega|rfl|assumption|exact⟨_,rfl,rfl⟩|(simp;omega)|(simp;done)))
   refine aQ rfl (lZ 0 5 _ _) ?_;simp -implicitDefEqProofs (disch:=omega) only[go_sem];rw[hx,hTe,uW,fB,eY,jO]
  have k9:=h
  with_reducible refine ay (fun hb=> ?_) (fun hb=> ?_)<;>have h:=hb<;>(try simp only[wf_preprocess] at h)<;>simp -implicitDefEqProofs (disch:=omega) only[go_sem,hb]<;>(repeat(with_reducible refine And.intro ?_ ?_;focus first|omega|rfl|assumption|exact⟨_,rfl,rfl⟩|(simp;omega)|(simp;done)))
  ·have hx:=fF k1 k2 k3 (by omega)
   have hh:eD x.aH x.aW x.fName x.fType=aP [x.fName]:=by rw[eP h];rfl
   rw[hh] at hx uW
   (repeat(with_reducible refine And.intro ?_ ?_;focus first|omega|rfl|assumption|exact⟨_,rfl,rfl⟩|(simp;omega)|(simp;done)))
   refine aQ rfl (bL.args (kF [x.fName] (by simp) n (n+1) _ _) (.cons (nY n _) .nil)) ?_
   have CR:(lx (aP [x.fName]) (n+1)).length=1:=by rw[iX];rfl
   have Ma:=mI (l:=aP [x.fName]) (n:=n+1);simp -implicitDefEqProofs (disch:=omega) only[go_sem]
   (repeat(with_reducible refine And.intro ?_ ?_;focus first|omega|rfl|assumption|exact⟨_,rfl,rfl⟩|(simp;omega)|(simp;done)))
   refine aQ rfl (lZ 0 5 _ _) ?_;simp -implicitDefEqProofs (disch:=omega) only[go_sem];rw[hx,hTe,uW,fB,eY,jO]
  have k10:=h
  with_reducible refine ay (fun hb=> ?_) (fun hb=> ?_)<;>have h:=hb<;>(try simp only[wf_preprocess] at h)<;>simp -implicitDefEqProofs (disch:=omega) only[go_sem,hb]<;>(repeat(with_reducible refine And.intro ?_ ?_;focus first|omega|rfl|assumption|exact⟨_,rfl,rfl⟩|(simp;omega)|(simp;done)))
  ·have hx:=fF k1 k2 k3 (by omega)
   have hh:eD x.aH x.aW x.fName x.fType=aP [kr,x.aW]:=by rw[eP h];rfl
   rw[hh] at hx uW
   (repeat(with_reducible refine And.intro ?_ ?_;focus first|omega|rfl|assumption|exact⟨_,rfl,rfl⟩|(simp;omega)|(simp;done)))
   refine aQ rfl (bL.args (kF [kr,x.aW] (by simp) n (n+1) _ _) (.cons (nY n _) .nil)) ?_
   have CR:(lx (aP [kr,x.aW]) (n+1)).length=2:=by rw[iX];rfl
   have Ma:=mI (l:=aP [kr,x.aW]) (n:=n+1);simp -implicitDefEqProofs (disch:=omega) only[go_sem]
   (repeat(with_reducible refine And.intro ?_ ?_;focus first|omega|rfl|assumption|exact⟨_,rfl,rfl⟩|(simp;omega)|(simp;done)))
   refine aQ rfl (lZ 0 5 _ _) ?_;simp -implicitDefEqProofs (disch:=omega) only[go_sem];rw[hx,hTe,uW,fB,eY,jO]
  have k11:=h
  with_reducible refine ay (fun hb=> ?_) (fun hb=> ?_)<;>have h:=hb<;>(try simp only[wf_preprocess] at h)<;>simp -implicitDefEqProofs (disch:=omega) only[go_sem,hb]<;>(repeat(with_reducible refine And.intro ?_ ?_;focus first|omega|rfl|assumption|exact⟨_,rfl,rfl⟩|(simp;omega)|(simp;done)))
  ·have hx:=fF k1 k2 k3 (by omega)
   have hh:eD x.aH x.aW x.fName x.fType=[aM nA,fP x.fType]:=by rw[eP h];rfl
   rw[hh] at hx uW;have hty:=hfi.2.2.2.2.1;rw[if_pos h] at hty;refine aA (gG _ (n+1)) ?_;simp -implicitDefEqProofs (disch:=omega) only[go_sem];refine aA (VN x.fType (n+1+1) (DW hty) (by omega)) ?_;simp -implicitDefEqProofs (disch:=omega) only[go_sem]
   (repeat(with_reducible refine And.intro ?_ ?_;focus first|omega|rfl|assumption|exact⟨_,rfl,rfl⟩|(simp;omega)|(simp;done)))
   refine aQ rfl (lZ 0 4 _ _) ?_;simp -implicitDefEqProofs (disch:=omega) only[go_sem];rw[hx,hTe,uW,fB,eY,jO];simp only[Bd,D9,tT,x9,yg,D8,VL,Za,nA,am,aw]
  ·have:=hfi.1;omega
theorem Jw(x:aj)(n:Nat)(hok:gT x=true)(hsz:x.sz<=4194304):aF prog 41 [x.v] (.agg [.d (.s (bT x).aI),.d (.ol n (lx (bT x).ak (n+1)))]):=Jv _ x (br _) n hok hsz
end Go.Ab