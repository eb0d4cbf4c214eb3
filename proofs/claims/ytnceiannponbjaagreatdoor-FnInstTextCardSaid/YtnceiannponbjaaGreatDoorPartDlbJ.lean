/-
  SEVERAL TEXTS IN ONE (merged by program): contracts and models, each with its own heading.
-/
import Derived.Test.YtnceiannponbjaaGreatDoorPartDlbH
import Derived.Lib.AppendZeros
import Derived.Laws.Cover3
open Go.Proofs Go.Proofs.Tryz
set_option linter.unusedSimpArgs false
set_option linter.unusedVariables false
set_option maxRecDepth 4000
namespace Go.Ab
theorem Fw{P:Program}{w:World}{t u ty e:TypeId}{base:Option Addr}{n:Nat}{i:TypeInfo}{z:Value}(ht:P.underlying t=some (.slice e))(hu:P.underlying u=some (.int .i64))(hi:P.info? e=some i)
 (hz:i.zero=some z)(h1:1<=n)(hn:n<=1073741824)(hb:i.bytes<=4096)(hs:i.size=z.cells.size):
 ∃(cap:Nat) (row:Array Value),n<=cap/\row.size=cap*z.cells.size/\(Builtin.append_ #[t,u] ty #[.slice base 0 0,.int .i64 n]).run P w=
  .ok (.slice (some ⟨w.heap.size,0,none⟩) n cap) {w.drew with heap:=w.heap.push (.cells row e)}:=by
 have hn1:=Je n 0 (by omega)
 have h48:¬(281474976710656<Builtin.nextslicecap n 0*i.bytes):=by
  have:Builtin.nextslicecap n 0*i.bytes<=(2*n+512)*4096:=Nat.mul_le_mul hn1 hb;omega
 have h49:¬(281474976710656<(n:Int)*(i.bytes:Int)):=by
  have h2:n*i.bytes<=1073741824*4096:=Nat.mul_le_mul hn hb
  have:(n:Int)*(i.bytes:Int)=((n*i.bytes:Nat):Int):=by simp
  rw[this];omega
 have h63':¬(9223372036854775807<(n:Int)):=by omega
 have hroom':¬(n<=0):=by omega
 have hneg:¬((n:Int)<0):=by omega
 have hn0:¬n=0:=by omega
 have hw:IntKind.i64.wrap (n:Int)=n:=TP _ (by omega)
 have hmax:IntKind.i64.max=9223372036854775807:=by decide
 have ha:∀w:World,(asInt (.int .i64 (n:Int))).run P w=.ok (n:Int) w:=fun w=>by simp[asInt,asIntOf]
 let cap:=(Question.appendCap n 0 e).cut (w.tape w.drawn (Question.appendCap n 0 e))
 have hcap:n<=cap:=by simp[cap,Question.cut]
 refine⟨cap,#[]++(if n*i.size=0 then #[] else Builtin.zeroCells z.cells n)++Builtin.zeroCells z.cells (cap-n),hcap,?_,?_⟩
 ·by_cases h0:n*i.size=0
  ·rw[if_pos h0]
   have hsz:z.cells.size=0:=by
    rcases Nat.mul_eq_zero.1 h0 with h|h
    ·omega
    ·omega
   simp[Builtin.zeroCells,hsz]
  ·rw[if_neg h0];simp only[Builtin.zeroCells,Array.size_append,Array.size_map,Array.size_range,Array.size_empty,Nat.zero_add];rw[<-Nat.add_mul];congr 1;omega
 ·by_cases h0:n*i.size=0
  ·rw[if_pos h0];cases base<;>simp[Builtin.append_,run_underlying ht,run_underlying hu,sizeOf,typeInfo,zeroValue,hi,hz,hroom',h48,h49,h63',hneg,hw,hmax,Question.forced,newRow,ha,hn0,loadCellsFrom,h0,Builtin.firstCells,loadCells]<;>exact⟨rfl,rfl⟩
  ·rw[if_neg h0];cases base<;>simp[Builtin.append_,run_underlying ht,run_underlying hu,sizeOf,typeInfo,zeroValue,hi,hz,hroom',h48,h49,h63',hneg,hw,hmax,Question.forced,newRow,ha,hn0,loadCellsFrom,h0,Builtin.firstCells,loadCells]<;>exact⟨rfl,rfl⟩
theorem Zy(base:Option Addr)(n:Nat)(h1:1<=n)(hn:n<=1073741824)(w:World):Calls prog 230 #[.slice base 0 0,.int .i64 n] w fun e w'=>
 ∃cap row,n<=cap/\row.size=cap/\e=.returned (.slice (some ⟨w.heap.size,0,none⟩) 0 cap)/\w'={w.drew with heap:=w.heap.push (.cells row 9)}:=by
 obtain⟨cap,row,hc,hr,hm⟩:=Fw (P:=prog) (w:=w) (t:=24) (u:=3) (ty:=24) (e:=9) (base:=base) (n:=n) underlying24 underlying3 rfl rfl h1 hn (by decide +kernel) rfl
 have h0:¬((n:Int)<0):=by omega
 have h2:(0:Int)<n:=by omega
 go_enter func230,ntmps230
 go_wp2_with (at_builtin;refine Lib.wpList_append_run _ rfl _ _ _ _ rfl _ _ rfl rfl _ _ hm ?_)
 all_goals go_ret
 exact⟨cap,hc,row,hr.trans (Nat.mul_one _),rfl,rfl⟩
theorem WH(base:Option Addr)(w:World):Calls prog 230 #[.slice base 0 0,.int .i64 0] w fun e w'=>e=.returned (.slice base 0 0)/\w'=w:=by
 go_enter func230,ntmps230
 go_wp2
 all_goals go_ret
 exact⟨rfl,rfl⟩
theorem acK(n:Nat)(hn:n<=1073741824)(bD:List Ab.Obj)(Ω:Store):bJ prog 230 [.c (.bE []),.c (.d (.i .i64 n))] (bD::Ω)
 (fun r S'=>r=.c (.bK (0,bD.length) [])/\S'=(bD++[.tok 1 []])::Ω):=by
 refine⟨⟨_,func230,by kernel_rfl,by kernel_rfl⟩,fun w σ β vs hS hv=> ?_⟩;obtain⟨hl,h⟩:=hv;obtain⟨v0,e0,⟨h0,a,m,h00⟩,_⟩:=h 0 _ rfl;obtain⟨v1,e1,h1,_⟩:=h 1 _ rfl
 have h1':v1=.int .i64 n:=by cases h1;rfl
 subst h1'
 have hm:m=0:=by rw[h00] at h0;cases h0<;>rfl
 subst hm;subst h00
 have hvs:vs=[.slice a 0 0,.int .i64 n]:=by
  match vs,hl,e0,e1 with
  |[x,y],_,e0,e1=>simp at e0 e1;rw[e0,e1]
 subst hvs
 cases β with
 |nil=>have:=hS.shape.1;simp at this
 |cons bo bΩ=>
 have hlen:bo.length=bD.length:=by
  obtain⟨gr,g1,g2⟩:=hS.shape.2 0 bD rfl;simp at g1;rw[g1];exact g2
 by_cases hz:n=0
 ·subst hz;refine(WH a w).mono fun e w' ⟨he,hw⟩=> ?_;subst hw;obtain⟨hS',hk,hst⟩:=hS.push (o:=.tok 1 []) (h:=.slice a 0 0) (Grow.refl hS.live) hlen ⟨h0,by simp,a,0,rfl,by simp,.inl rfl⟩ (fun b hb=>by cases a<;>simp[owns,blk] at hb);refine⟨_,.c (.bK (0,bD.length) []),_,_,_,he,hS',hk,hst,⟨⟨h0,.tok 1 [],?_,fun aQ es e=> ?_⟩,rfl⟩,rfl,rfl⟩
  ·rw[bG]
  ·obtain⟨_,rfl⟩:=jD (lab:=none) e;exact⟨Nat.le_refl _,fun _=>by rw[<-hlen,bG]⟩
 ·refine(Zy a n (by omega) hn w).mono fun e w' ⟨cap,row,hc,hr,he,hw⟩=> ?_;subst hw;have hσ:σ w.heap.size=0:=(hS.live w.heap.size).resolve_left (by omega)
  have hg:Grow w σ {w.drew with heap:=w.heap.push (.cells row 9)} σ:=by
   refine⟨by simp,rfl,rfl,fun b hb=>⟨?_,rfl⟩,fun b=> ?_⟩
   ·simp only[Array.getElem?_push];rw[if_neg (by omega)]
   ·rcases hS.live b with hb|hb
    ·left;simp;omega
    ·exact .inr hb
  obtain⟨hS',hk,hst⟩:=hS.push (o:=.tok 1 []) (h:=.slice (some ⟨w.heap.size,0,none⟩) 0 cap) hg hlen ⟨.nil _ _,by simp,_,cap,rfl,by simp,.inr ⟨w.heap.size,0,row,9,rfl,by simp,by simp[hσ],by omega⟩⟩ (fun b hb=>by
   simp only[owns,blk] at hb;split at hb
   ·cases hb
   ·cases hb;exact Nat.le_refl _)
  refine⟨_,.c (.bK (0,bD.length) []),_,_,_,he,hS',hk,hst,⟨⟨.nil _ _,.tok 1 [],?_,fun aQ es e=> ?_⟩,rfl⟩,rfl,rfl⟩
  ·rw[bG]
  ·obtain⟨_,rfl⟩:=jD (lab:=none) e;exact⟨Nat.le_refl _,fun _=>by rw[<-hlen,bG]⟩
theorem Ap{xs:List (List UInt8)}:∀y∈xs.map encS,y.length=1:=fun y hy=>by
 obtain⟨z,_,rfl⟩:=List.mem_map.1 hy;rfl
theorem DK{α:Type}(xss:List (List α)){i:Nat}(hi:i<xss.length):(xss.take (i+1)).flatten.length=(xss.take i).flatten.length+xss[i].length:=by
 rw[List.take_succ_eq_append_getElem hi,List.flatten_append,List.length_append];simp only[List.flatten_cons,List.flatten_nil,List.append_nil]
theorem vC{α:Type}(xss:List (List α))(i:Nat):(xss.take i).flatten.length<=xss.flatten.length:=by
 conv=>rhs;rw[<-List.take_append_drop i xss]
 rw[List.flatten_append,List.length_append];omega
theorem WI(xss:List (List (List UInt8)))(hl:xss.length<=1073741824)(hf:xss.flatten.length<=1073741824):aJ prog 208 [.c (.d (.sl (xss.map fun a=>[.sl (a.map encS)])))] (.c (.d (.sl (xss.flatten.map encS)))):=fun S=>by
 refine zcx [.tmp 2] func208 ntmps208 ?_;simp -implicitDefEqProofs (disch:=omega) only[go_sem]
 refine bF (ι:=Nat) zmx rfl [0,3,9,10,11] (fun i=>[.c (.d (.sl (xss.map fun a=>[.sl (a.map encS)]))),.c (.d (.i .i64 (xss.take i).flatten.length)),.c (.d (.sl (xss.map fun a=>[.sl (a.map encS)]))),.c (.d (.i .i64 xss.length)),.c (.d (.i .i64 i))]) (fun _=>[]::S)
  (fun i=>i<=xss.length) (fun i=>xss.length-i) 0 rfl rfl (Nat.zero_le _) ?_
 rintro i p1;have hfi:=vC xss i;by_cases hi:i<xss.length
 ·have hs:=DK xss hi;have acM:=vC xss (i+1);simp -implicitDefEqProofs (disch:=omega) only[go_sem]
  with_reducible refine aD (fun hb=> ?_) (fun hb=> ?_)<;>have h:=hb<;>(try simp only[wf_preprocess] at h)<;>simp -implicitDefEqProofs (disch:=omega) only[go_sem,hb]<;>(repeat(with_reducible refine And.intro ?_ ?_;focus first|omega|rfl|assumption|exact⟨_,rfl,rfl⟩|(simp;omega)|(simp;done)))
  ·(repeat(with_reducible refine And.intro ?_ ?_;focus first|omega|rfl|assumption|exact⟨_,rfl,rfl⟩|(simp;omega)|(simp;done)))
   with_reducible refine aD (fun hb=> ?_) (fun hb=> ?_)<;>have h:=hb<;>(try simp only[wf_preprocess] at h)<;>simp -implicitDefEqProofs (disch:=omega) only[go_sem,hb]<;>(repeat(with_reducible refine And.intro ?_ ?_;focus first|omega|rfl|assumption|exact⟨_,rfl,rfl⟩|(simp;omega)|(simp;done)))
   ·omega
   ·refine dG (i+1) (by omega) ?_ rfl (by omega);rw[hs];rfl
  ·omega
 have hi:i=xss.length:=by omega
 subst hi;simp -implicitDefEqProofs (disch:=omega) only[go_sem]
 with_reducible refine aD (fun hb=> ?_) (fun hb=> ?_)<;>have h:=hb<;>(try simp only[wf_preprocess] at h)<;>simp -implicitDefEqProofs (disch:=omega) only[go_sem,hb]<;>(repeat(with_reducible refine And.intro ?_ ?_;focus first|omega|rfl|assumption|exact⟨_,rfl,rfl⟩|(simp;omega)|(simp;done)))
 ·omega
 rw[List.take_length];clear hfi;refine aT rfl (acK xss.flatten.length hf [] S) ?_;simp -implicitDefEqProofs (disch:=omega) only[go_sem]
 refine bF (ι:=Nat) zmx rfl [6,25,26,27] (fun i=>[.c (.bK (0,0) ((xss.take i).flatten.map encS)),.c (.d (.sl (xss.map fun a=>[.sl (a.map encS)]))),.c (.d (.i .i64 xss.length)),.c (.d (.i .i64 i))]) (fun i=>[.tok 1 ((xss.take i).flatten.map encS)]::S)
  (fun i=>i<=xss.length) (fun i=>xss.length-i) 0 rfl rfl (Nat.zero_le _) ?_
 rintro i p1;have hfi:=vC xss i;by_cases hi:i<xss.length
 ·have hs:=DK xss hi;have acM:=vC xss (i+1)
  have e:(xss.take (i+1)).flatten.map encS=(xss.take i).flatten.map encS++xss[i].map encS:=by
   rw[List.take_succ_eq_append_getElem hi,List.flatten_append,List.map_append];simp only[List.flatten_cons,List.flatten_nil,List.append_nil]
  simp -implicitDefEqProofs (disch:=omega) only[go_sem]
  with_reducible refine aD (fun hb=> ?_) (fun hb=> ?_)<;>have h:=hb<;>(try simp only[wf_preprocess] at h)<;>simp -implicitDefEqProofs (disch:=omega) only[go_sem,hb]<;>(repeat(with_reducible refine And.intro ?_ ?_;focus first|omega|rfl|assumption|exact⟨_,rfl,rfl⟩|(simp;omega)|(simp;done)))
  ·(repeat(with_reducible refine And.intro ?_ ?_;focus first|omega|rfl|assumption|exact⟨_,rfl,rfl⟩|(simp;omega)|(simp;done)))
   refine⟨Ap,⟨_,rfl,rfl⟩,by omega,?_⟩;exact dG (i+1) (by omega) (by rw[e];rfl) (by rw[e]) (by omega)
  ·omega
 ·have hi:i=xss.length:=by omega
  subst hi;simp -implicitDefEqProofs (disch:=omega) only[go_sem]
  with_reducible refine aD (fun hb=> ?_) (fun hb=> ?_)<;>have h:=hb<;>(try simp only[wf_preprocess] at h)<;>simp -implicitDefEqProofs (disch:=omega) only[go_sem,hb]<;>(repeat(with_reducible refine And.intro ?_ ?_;focus first|omega|rfl|assumption|exact⟨_,rfl,rfl⟩|(simp;omega)|(simp;done)))
  ·omega
  rw[List.take_length]
theorem WJ(c:Nat)(w:World):Calls prog 207 #[.slice none 0 c] w fun e w'=>e=.returned (.slice none 0 0)/\w'=w:=by
 have hb:(binOp .eql 24 (.slice none 0 c) (.slice none 0 0)).run prog w=.ok (.bool true) w:=by
  simp[binOp,run_equal_slice_nil w _ _ _ _ _ underlying24]
 go_enter func207,ntmps207
 go_wp2
 all_goals go_ret
 exact⟨rfl,rfl⟩
theorem WK(w w':World)(a:Addr)(n c:Nat)(r:Value)(hm:(Builtin.append_ #[24,24] 24 #[.slice (some ⟨w.heap.size,0,none⟩) 0 0,.slice (some a) n c]).run prog (w.alloc (.cells #[] 9))=.ok r w'):
 Calls prog 207 #[.slice (some a) n c] w fun e w''=>e=.returned r/\w''=w':=by
 have hb:(binOp .eql 24 (.slice (some a) n c) (.slice none 0 0)).run prog w=.ok (.bool false) w:=by
  simp[binOp,run_equal_slice_nil w _ _ _ _ _ underlying24]
 go_enter func207,ntmps207
 go_wp2_with (at_builtin;refine Lib.wpList_append_run _ rfl _ _ _ _ rfl _ _ rfl rfl _ _ hm ?_)
 all_goals go_ret
 exact⟨rfl,rfl⟩
theorem Zz(xs:List (List UInt8))(hx:xs.length<=1073741824)(bD:List Ab.Obj)(Ω:Store):bJ prog 207 [.c (.d (.sl (xs.map encS)))] (bD::Ω)
 (fun r S'=>r=.c (.bK (0,bD.length) (xs.map encS))/\S'=(bD++[.tok 1 (xs.map encS)])::Ω):=by
 have ain:(xs.map encS).length<=1073741824:=by simpa using hx
 have h1:=Ap (xs:=xs)
 generalize xs.map encS=es at *
 refine⟨⟨_,func207,by kernel_rfl,by kernel_rfl⟩,fun w σ β vs hS hv=> ?_⟩;obtain⟨hl,h⟩:=hv;obtain⟨v,e0,hd,_⟩:=h 0 _ rfl;have hd:cu w σ (.sl es) v:=hd
 have hvs:vs=[v]:=by
  match vs,hl,e0 with
  |[x],_,e0=>simp at e0;rw[e0]
 subst hvs
 cases β with
 |nil=>have:=hS.shape.1;simp at this
 |cons bo bΩ=>
 have hlen:bo.length=bD.length:=by
  obtain⟨gr,g1,g2⟩:=hS.shape.2 0 bD rfl;simp at g1;rw[g1];exact g2
 have hv:∃a c,v=.slice a es.length c/\(a=none->es=[]):=by
  cases hd with
  |nil a cap=>exact⟨a,cap,rfl,fun _=>rfl⟩
  |sl b off cap aQ es vals c t fz=>exact⟨_,_,rfl,fun h=>by cases h⟩
 obtain⟨a,c,rfl,ha⟩:=hv
 cases a with
 |none=>
  have:=ha rfl;subst this;refine(WJ c w).mono fun e w' ⟨he,hw⟩=> ?_;subst hw;obtain⟨hS',hk,hst⟩:=hS.push (o:=.tok 1 []) (h:=.slice none 0 0) (Grow.refl hS.live) hlen ⟨.nil _ _,by simp,none,0,rfl,by simp,.inl rfl⟩ (fun b hb=>by simp[owns,blk] at hb);refine⟨_,.c (.bK (0,bD.length) []),_,_,_,he,hS',hk,hst,⟨⟨.nil _ _,.tok 1 [],?_,fun aQ es e=> ?_⟩,rfl⟩,rfl,rfl⟩
  ·rw[bG]
  ·obtain⟨_,rfl⟩:=jD (lab:=none) e;exact⟨Nat.le_refl _,fun _=>by rw[<-hlen,bG]⟩
 |some a=>
  have hσ:σ w.heap.size=0:=(hS.live w.heap.size).resolve_left (by omega)
  have hg:Grow w σ (w.alloc (.cells #[] 9)) σ:=by
   have hh:(w.alloc (.cells #[] 9)).heap=w.heap.push (.cells #[] 9):=rfl;refine⟨by rw[hh];simp,rfl,rfl,fun b hb=>⟨?_,rfl⟩,fun b=> ?_⟩
   ·rw[hh,Array.getElem?_push];rw[if_neg (by omega)]
   ·rcases hS.live b with hb|hb
    ·left;rw[hh];simp;omega
    ·exact .inr hb
  have Bv:fM (w.alloc (.cells #[] 9)) σ [] [] (.tok 1 []) (.slice (some ⟨w.heap.size,0,none⟩) 0 0):=⟨.nil _ _,by simp,_,0,rfl,by simp,.inl rfl⟩;obtain⟨r,w',σ',hr,hro,hsz,hos,hout,hn,hli,vJ,hbk,hzero,h1c⟩:=vK (lab:=none) (P:=prog) (w:=w.alloc (.cells #[] 9)) (σ:=σ) (S:=[]) (β:=[]) (t:=24) (u:=24) (ty:=24) (e:=9) (size:=1) (es:=[]) (ys:=es) hg.live underlying24 (.inl ⟨_,underlying24⟩) ⟨[.d (.s [])],by kernel_rfl,rfl⟩ rfl (by decide +kernel) Bv (Eu (cu.mono hg.near hd) h1) (by simpa using ain);rw[List.nil_append] at hro hbk;refine(WK w w' a es.length c r hr).mono fun e w'' ⟨he,hw⟩=> ?_;subst hw;have hg2:Grow (w.alloc (.cells #[] 9)) σ w'' σ':=⟨hsz,hos,hout,fun b hb=>vJ b hb (by simp[iq,owns,blk]),hli⟩;have hg3:=hg.trans hg2
  obtain⟨hS',hk,hst⟩:=hS.push (o:=.tok 1 es) (h:=r) hg3 hlen (hro _ _) (fun b hb=>by
   rcases hbk b hb with h|h
   ·simp[iq,owns,blk] at h
   ·exact Nat.le_trans hg.size h)
  refine⟨_,.c (.bK (0,bD.length) es),_,_,_,he,hS',hk,hst,⟨⟨(hro [] []).1,.tok 1 es,?_,fun aQ es' e=> ?_⟩,h1c⟩,rfl,rfl⟩
  ·rw[bG]
  ·obtain⟨_,rfl⟩:=jD (lab:=none) e;exact⟨Nat.le_refl _,fun _=>by rw[<-hlen,bG]⟩
theorem bJ.args{P:Program}{f:FuncId}{args args':List V}{S:Store}{post:V->Store->Prop}(h:bJ P f args' S post)(hl:qU args args'):bJ P f args S post:=h.weaken hl.length fun j x y hx hy w σ β v hr=>hl.at j x y hx hy w σ S β v hr
theorem mP(n:Nat)(es:List (List D)):Less (.c (.jw n es)) (.c (.d (.sl es))):=fun w σ S β v h=>⟨rX h.1.1,h.2⟩
theorem lS(xs:List (List UInt8))(hx:xs.length<=1073741824)(n q:Nat)(bD:List Ab.Obj)(Ω:Store):bJ prog 166 [.c (.d (.sl (xs.map encS)))] (bD::Ω)
 (fun r S'=>r=.c (.bK (0,bD.length+1) (lx (aR xs) q))/\S'=(bD++[.seed n,.dY n 2 (lx (aR xs) q)])::Ω):=by
 refine Ww (n) (rs:=[.tmp 2]) zmx func166 ntmps166 rfl rfl rfl rfl rfl ?_;simp -implicitDefEqProofs (disch:=omega) only[go_sem]
 (repeat(with_reducible refine And.intro ?_ ?_;focus first|omega|rfl|assumption|exact⟨_,rfl,rfl⟩|(simp;omega)|(simp;done)))
 refine nQ n 3 2 [] (.inl rfl) (by simp) ?_
 refine bF (ι:=Nat) zmx rfl [3,7,8,9] (fun i=>[.c (.bK (0,1) (lx ((aR xs).take i) q)),.c (.d (.sl (xs.map encS))),.c (.d (.i .i64 xs.length)),.c (.d (.i .i64 i))]) (fun i=>[.seed n,.dY n 2 (lx ((aR xs).take i) q)]::bD::Ω)
  (fun i=>i<=xs.length) (fun i=>xs.length-i) 0 rfl rfl (Nat.zero_le _) ?_
 intro i hi;simp -implicitDefEqProofs (disch:=omega) only[go_sem]
 with_reducible refine aD (fun hb=> ?_) (fun hb=> ?_)<;>have h:=hb<;>(try simp only[wf_preprocess] at h)<;>simp -implicitDefEqProofs (disch:=omega) only[go_sem,hb]<;>(repeat(with_reducible refine And.intro ?_ ?_;focus first|omega|rfl|assumption|exact⟨_,rfl,rfl⟩|(simp;omega)|(simp;done)))
 ·have hi':i<xs.length:=by omega
  have hw:i<(aR xs).length:=by rw[kL];exact hi'
  have hg:(aR xs)[i]=bH xs[i]:=by simp[aR]
  have hl:(lx ((aR xs).take i) q).length<=i:=by rw[iy];exact List.length_take_le _ _
  (repeat(with_reducible refine And.intro ?_ ?_;focus first|omega|rfl|assumption|exact⟨_,rfl,rfl⟩|(simp;omega)|(simp;done)))
  refine aA (dS xs[i] (q+iJ ((aR xs).take i))) ?_;simp -implicitDefEqProofs (disch:=omega) only[go_sem]
  (repeat(with_reducible refine And.intro ?_ ?_;focus first|omega|rfl|assumption|exact⟨_,rfl,rfl⟩|(simp;omega)|(simp;done)))
  have hs:=Gu hw q;rw[hg,yA] at hs;rw[hs];exact dG (i+1) (by omega) rfl rfl (by omega)
 ·have hi':i=(aR xs).length:=by rw[kL];omega
  rw[hi',List.take_length];exact⟨rfl,rfl⟩
theorem ZA(base:Option Addr)(n:Nat)(h1:1<=n)(hn:n<=1073741824)(w:World):Calls prog 199 #[.slice base 0 0,.int .i64 n] w fun e w'=>
 ∃cap row,n<=cap/\row.size=cap*2/\e=.returned (.slice (some ⟨w.heap.size,0,none⟩) 0 cap)/\w'={w.drew with heap:=w.heap.push (.cells row 39)}:=by
 obtain⟨cap,row,hc,hr,hm⟩:=Fw (P:=prog) (w:=w) (t:=37) (u:=3) (ty:=37) (e:=39) (base:=base) (n:=n) underlying37 underlying3 rfl rfl h1 hn (by decide +kernel) rfl
 have h0:¬((n:Int)<0):=by omega
 have h2:(0:Int)<n:=by omega
 go_enter func199,ntmps199
 go_wp2_with (at_builtin;refine Lib.wpList_append_run _ rfl _ _ _ _ rfl _ _ rfl rfl _ _ hm ?_)
 all_goals go_ret
 exact⟨cap,hc,row,hr,rfl,rfl⟩
theorem WL(base:Option Addr)(w:World):Calls prog 199 #[.slice base 0 0,.int .i64 0] w fun e w'=>e=.returned (.slice base 0 0)/\w'=w:=by
 go_enter func199,ntmps199
 go_wp2
 all_goals go_ret
 exact⟨rfl,rfl⟩
theorem ZB(m n:Nat)(hn:n<=1073741824)(bD:List Ab.Obj)(Ω:Store):bJ prog 199 [.c (.bE []),.c (.d (.i .i64 n))] (bD::Ω)
 (fun r S'=>r=.c (.bK (0,bD.length) [])/\S'=(bD++[.dY m 2 []])::Ω):=by
 refine⟨⟨_,func199,by kernel_rfl,by kernel_rfl⟩,fun w σ β vs hS hv=> ?_⟩;obtain⟨hl,h⟩:=hv;obtain⟨v0,e0,⟨h0,a,m',h00⟩,_⟩:=h 0 _ rfl;obtain⟨v1,e1,h1,_⟩:=h 1 _ rfl
 have h1':v1=.int .i64 n:=by cases h1;rfl
 subst h1'
 have hm:m'=0:=by rw[h00] at h0;cases h0<;>rfl
 subst hm;subst h00
 have hvs:vs=[.slice a 0 0,.int .i64 n]:=by
  match vs,hl,e0,e1 with
  |[x,y],_,e0,e1=>simp at e0 e1;rw[e0,e1]
 subst hvs
 cases β with
 |nil=>have:=hS.shape.1;simp at this
 |cons bo bΩ=>
 have hlen:bo.length=bD.length:=by
  obtain⟨gr,g1,g2⟩:=hS.shape.2 0 bD rfl;simp at g1;rw[g1];exact g2
 by_cases hz:n=0
 ·subst hz;refine(WL a w).mono fun e w' ⟨he,hw⟩=> ?_;subst hw;obtain⟨hS',hk,hst⟩:=hS.push (o:=.dY m 2 []) (h:=.slice a 0 0) (Grow.refl hS.live) hlen ⟨h0,by simp,a,0,rfl,by simp,.inl ⟨rfl,.oU _ _ _⟩⟩ (fun b hb=>by cases a<;>simp[owns,blk] at hb);refine⟨_,.c (.bK (0,bD.length) []),_,_,_,he,hS',hk,hst,⟨⟨h0,.dY m 2 [],?_,fun aQ es e=> ?_⟩,rfl⟩,rfl,rfl⟩
  ·rw[bG]
  ·obtain⟨_,rfl⟩:=jD (lab:=some m) e;exact⟨Nat.le_refl _,fun _=>by rw[<-hlen,bG]⟩
 ·refine(ZA a n (by omega) hn w).mono fun e w' ⟨cap,row,hc,hr,he,hw⟩=> ?_;subst hw;have hσ:σ w.heap.size=0:=(hS.live w.heap.size).resolve_left (by omega)
  have hg:Grow w σ {w.drew with heap:=w.heap.push (.cells row 39)} σ:=by
   refine⟨by simp,rfl,rfl,fun b hb=>⟨?_,rfl⟩,fun b=> ?_⟩
   ·simp only[Array.getElem?_push];rw[if_neg (by omega)]
   ·rcases hS.live b with hb|hb
    ·left;simp;omega
    ·exact .inr hb
  obtain⟨hS',hk,hst⟩:=hS.push (o:=.dY m 2 []) (h:=.slice (some ⟨w.heap.size,0,none⟩) 0 cap) hg hlen ⟨.nil _ _,by simp,_,cap,rfl,by simp,.inr ⟨by simp;omega,w.heap.size,0,row,39,rfl,by simp,by simp[hσ],by omega⟩⟩ (fun b hb=>by
   simp only[owns,blk] at hb;split at hb
   ·cases hb
   ·cases hb;exact Nat.le_refl _)
  refine⟨_,.c (.bK (0,bD.length) []),_,_,_,he,hS',hk,hst,⟨⟨.nil _ _,.dY m 2 [],?_,fun aQ es e=> ?_⟩,rfl⟩,rfl,rfl⟩
  ·rw[bG]
  ·obtain⟨_,rfl⟩:=jD (lab:=some m) e;exact⟨Nat.le_refl _,fun _=>by rw[<-hlen,bG]⟩
theorem S9(m l:Nat)(xss:List (Nat×List (List D)))(hl:xss.length<=1073741824)(hr:∀p∈xss,∀r∈p.2,r.length=2)(hf:(xss.map (·.2)).flatten.length<=1073741824):aJ prog 168 [.c (.jw l (xss.map fun p=>[.ol p.1 p.2]))] (.c (.d (.ol m (xss.map (·.2)).flatten))):=fun S=>by
 obtain⟨ys,hys⟩:∃ys:List (List (List D)),ys=xss.map (·.2):=⟨_,rfl⟩;rw[<-hys] at hf ⊢
 have hyl:ys.length=xss.length:=by rw[hys,List.length_map]
 have hyi:∀i (hi:i<xss.length),ys[i]'(by omega)=xss[i].2:=fun i hi=>by simp[hys]
 have Ji:∀i (hi:i<xss.length),∀r∈xss[i].2,r.length=2:=fun i hi=>hr _ (List.getElem_mem hi);refine lN (m) (rs:=[.tmp 2]) zmx func168 ntmps168 rfl rfl rfl rfl rfl ?_;simp -implicitDefEqProofs (disch:=omega) only[go_sem]
 refine bF (ι:=Nat) zmx rfl [0,3,9,10,11] (fun i=>[.c (.jw l (xss.map fun p=>[.ol p.1 p.2])),.c (.d (.i .i64 (ys.take i).flatten.length)),.c (.jw l (xss.map fun p=>[.ol p.1 p.2])),.c (.d (.i .i64 xss.length)),.c (.d (.i .i64 i))]) (fun _=>[.seed m]::S)
  (fun i=>i<=xss.length) (fun i=>xss.length-i) 0 rfl rfl (Nat.zero_le _) ?_
 rintro i p1;have hfi:=vC ys i;by_cases hi:i<xss.length
 ·have hs:=DK ys (i:=i) (by omega);rw[hyi i hi] at hs;have acM:=vC ys (i+1);simp -implicitDefEqProofs (disch:=omega) only[go_sem]
  with_reducible refine aD (fun hb=> ?_) (fun hb=> ?_)<;>have h:=hb<;>(try simp only[wf_preprocess] at h)<;>simp -implicitDefEqProofs (disch:=omega) only[go_sem,hb]<;>(repeat(with_reducible refine And.intro ?_ ?_;focus first|omega|rfl|assumption|exact⟨_,rfl,rfl⟩|(simp;omega)|(simp;done)))
  ·(repeat(with_reducible refine And.intro ?_ ?_;focus first|omega|rfl|assumption|exact⟨_,rfl,rfl⟩|(simp;omega)|(simp;done)))
   with_reducible refine aD (fun hb=> ?_) (fun hb=> ?_)<;>have h:=hb<;>(try simp only[wf_preprocess] at h)<;>simp -implicitDefEqProofs (disch:=omega) only[go_sem,hb]<;>(repeat(with_reducible refine And.intro ?_ ?_;focus first|omega|rfl|assumption|exact⟨_,rfl,rfl⟩|(simp;omega)|(simp;done)))
   ·omega
   ·refine dG (i+1) (by omega) ?_ rfl (by omega);rw[hs];rfl
  ·omega
 have hi:i=xss.length:=by omega
 subst hi;simp -implicitDefEqProofs (disch:=omega) only[go_sem]
 with_reducible refine aD (fun hb=> ?_) (fun hb=> ?_)<;>have h:=hb<;>(try simp only[wf_preprocess] at h)<;>simp -implicitDefEqProofs (disch:=omega) only[go_sem,hb]<;>(repeat(with_reducible refine And.intro ?_ ?_;focus first|omega|rfl|assumption|exact⟨_,rfl,rfl⟩|(simp;omega)|(simp;done)))
 ·omega
 rw[<-hyl,List.take_length];clear hfi;refine aT rfl (ZB m ys.flatten.length hf [.seed m] S) ?_;simp -implicitDefEqProofs (disch:=omega) only[go_sem]
 refine bF (ι:=Nat) zmx rfl [6,25,26,27] (fun i=>[.c (.bK (0,1) (ys.take i).flatten),.c (.jw l (xss.map fun p=>[.ol p.1 p.2])),.c (.d (.i .i64 xss.length)),.c (.d (.i .i64 i))]) (fun i=>[.seed m,.dY m 2 (ys.take i).flatten]::S)
  (fun i=>i<=xss.length) (fun i=>xss.length-i) 0 (by rw[<-hyl];rfl) rfl (Nat.zero_le _) ?_
 rintro i p1;have hfi:=vC ys i;by_cases hi:i<xss.length
 ·have hs:=DK ys (i:=i) (by omega);rw[hyi i hi] at hs;have acM:=vC ys (i+1)
  have e:(ys.take (i+1)).flatten=(ys.take i).flatten++xss[i].2:=by
   rw[List.take_succ_eq_append_getElem (by omega),List.flatten_append,hyi i hi];simp only[List.flatten_cons,List.flatten_nil,List.append_nil]
  have yC:=Ji i hi;simp -implicitDefEqProofs (disch:=omega) only[go_sem]
  with_reducible refine aD (fun hb=> ?_) (fun hb=> ?_)<;>have h:=hb<;>(try simp only[wf_preprocess] at h)<;>simp -implicitDefEqProofs (disch:=omega) only[go_sem,hb]<;>(repeat(with_reducible refine And.intro ?_ ?_;focus first|omega|rfl|assumption|exact⟨_,rfl,rfl⟩|(simp;omega)|(simp;done)))
  ·(repeat(with_reducible refine And.intro ?_ ?_;focus first|omega|rfl|assumption|exact⟨_,rfl,rfl⟩|(simp;omega)|(simp;done)))
   exact dG (i+1) (by omega) (by rw[e];rfl) (by rw[e]) (by omega)
  ·omega
 ·have hi:i=ys.length:=by omega
  simp -implicitDefEqProofs (disch:=omega) only[go_sem]
  with_reducible refine aD (fun hb=> ?_) (fun hb=> ?_)<;>have h:=hb<;>(try simp only[wf_preprocess] at h)<;>simp -implicitDefEqProofs (disch:=omega) only[go_sem,hb]<;>(repeat(with_reducible refine And.intro ?_ ?_;focus first|omega|rfl|assumption|exact⟨_,rfl,rfl⟩|(simp;omega)|(simp;done)))
  ·omega
  rw[hi,List.take_length]
theorem jc{x:aC}{k:Int}(h:x.aI=k):gM x.aI x.bg x.fName x.fType=gM k x.bg x.fName x.fType:=by rw[h]
theorem MZ{l:List aC}{t:aC}(h:t∈l):t.sz<=qV l:=by
 rw[<-II];exact gT (List.mem_map_of_mem h)
theorem Kz{l:List aP}{t:aP}(h:t∈l):t.sz<=yY l:=by
 rw[<-IJ];exact gT (List.mem_map_of_mem h)
theorem BK:∀{xs:List aC},jO xs=true<->∀t∈xs,gU t=true
 |[]=>by simp[jO]
 |t::ts=>by simp[jO,BK (xs:=ts)]
theorem DL:∀{xs:List aP},mK xs=true<->∀t∈xs,tC t=true
 |[]=>by simp[mK]
 |t::ts=>by simp[mK,DL (xs:=ts)]
theorem jG{x:aC}(h1:x.aI≠1)(h2:x.aI≠2)(h3:x.aI≠3)(h:x.aI=4\/x.aI=5\/x.aI=6\/x.aI=8\/x.aI=9\/x.aI=10\/x.aI=11\/x.aI=12):
 dX x=bS (gM x.aI x.bg x.fName x.fType++x.fArgs.map dX):=by rw[Fv,if_neg h1,if_neg h2,if_neg h3,if_pos h,List.append_nil]
theorem KA:∀N:Nat,∀x:aC,SizeOf.sizeOf x<N->∀n:Nat,gU x=true->x.sz<=4194304->aJ prog 101 [x.v] (.agg [.d (.s (dX x).aU),.d (.ol n (lx (dX x).aj (n+1)))])
 |0=>fun x h=>by omega
 |N+1=>by
  have ih:=KA N;intro x hn n hok hsz S;have jA:=aC.iI x;have Dm:=aC.uU x;have hzz:=uK x;rw[vk,Bool.and_eq_true,Bool.and_eq_true] at hok;obtain⟨hfi,hoa,QG⟩:=hok;have hfi:=gF hfi;have hoa:=BK.1 hoa;have QG:=DL.1 QG;obtain⟨qa,wL⟩:∃qa,qa=n+1+iJ (gM x.aI x.bg x.fName x.fType):=⟨_,rfl⟩;obtain⟨T,hT⟩:∃T:Nat->List (List D),T=fun i=>lx ((x.fArgs.map dX).take i) qa:=⟨_,rfl⟩
  have hT0:T 0=[]:=by rw[hT];rfl
  have lF:∀i,(T i).length<=i:=fun i=>by rw[hT];simp only[iy];exact List.length_take_le _ _
  have hTr:∀i,∀r∈T i,r.length=2:=fun i=>by rw[hT];exact mW
  have hTs:∀i (hi:i<x.fArgs.length),T i++[[.s (dX x.fArgs[i]).aU,.ol (qa+iJ ((x.fArgs.map dX).take i)) (lx (dX x.fArgs[i]).aj (qa+iJ ((x.fArgs.map dX).take i)+1))]]=T (i+1):=fun i hi=>by
   have:=IG (l:=x.fArgs.map dX) (i:=i) (by rw[List.length_map];exact hi) qa;rw[List.getElem_map] at this;rw[hT];exact this
  have hTe:T x.fArgs.length=lx (x.fArgs.map dX) qa:=by rw[hT];simp only;rw[List.take_of_length_le (by simp)]
  clear hT;refine lN (n) (rs:=[.cell 2 39]) zmx func101 ntmps101 rfl rfl rfl rfl rfl ?_;simp -implicitDefEqProofs (disch:=omega) only[go_sem]
  (repeat(with_reducible refine And.intro ?_ ?_;focus first|omega|rfl|assumption|exact⟨_,rfl,rfl⟩|(simp;omega)|(simp;done)))
  refine nQ n 3 2 [] (.inl rfl) (by simp) ?_
  refine bF (ι:=Nat) zmx rfl [1,2,3,11,12,13] (fun i=>[.c (.ptr (0,1) 0),.c (.ptr (0,2) 0),.c (.bK (0,3) (T i)),.c (.d (.sl (x.fArgs.map aC.enc))),.c (.d (.i .i64 x.fArgs.length)),.c (.d (.i .i64 i))])
   (fun i=>[.seed n,.box [.d (.i .i64 x.aI),.d (.s x.bg),.d (.s x.fName),.d (.i .i64 x.fN),.d (.i .i64 x.fType.aI),.d (.s x.fType.fName),.d (.sl (x.fType.fArgs.map au.enc)),.d (.sl (x.fArgs.map aC.enc)),.d (.sl (x.aO.map aP.enc))],.box [.d (.s []),.bE []],.dY n 2 (T i)]::S)
   (fun i=>i<=x.fArgs.length) (fun i=>x.fArgs.length-i) 0 (by rw[hT0];rfl) (by rw[hT0];rfl) (Nat.zero_le _) ?_
  intro i hi;have hl:=lF i;simp -implicitDefEqProofs (disch:=omega) only[go_sem]
  with_reducible refine aD (fun hb=> ?_) (fun hb=> ?_)<;>have h:=hb<;>(try simp only[wf_preprocess] at h)<;>simp -implicitDefEqProofs (disch:=omega) only[go_sem,hb]<;>(repeat(with_reducible refine And.intro ?_ ?_;focus first|omega|rfl|assumption|exact⟨_,rfl,rfl⟩|(simp;omega)|(simp;done)))
  ·have hi':i<x.fArgs.length:=by omega
   have hm:=List.getElem_mem hi';have hez:=MZ hm;have hs:=hTs i hi'
   (repeat(with_reducible refine And.intro ?_ ?_;focus first|omega|rfl|assumption|exact⟨_,rfl,rfl⟩|(simp;omega)|(simp;done)))
   refine aA (ih x.fArgs[i] (by have:=List.sizeOf_lt_of_mem hm;omega) (qa+iJ ((x.fArgs.map dX).take i)) (hoa _ hm) (by omega)) ?_;simp -implicitDefEqProofs (disch:=omega) only[go_sem]
   (repeat(with_reducible refine And.intro ?_ ?_;focus first|omega|rfl|assumption|exact⟨_,rfl,rfl⟩|(simp;omega)|(simp;done)))
   rw[hs];exact dO 4 (by decide) (i+1) (by omega) rfl rfl rfl rfl (by omega)
  have hi':i=x.fArgs.length:=by omega
  subst hi';clear hTs hi h hb;have hTT:=hTr x.fArgs.length;have hxe:=Fv x
  with_reducible refine aD (fun hb=> ?_) (fun hb=> ?_)<;>have h:=hb<;>(try simp only[wf_preprocess] at h)<;>simp -implicitDefEqProofs (disch:=omega) only[go_sem,hb]<;>(repeat(with_reducible refine And.intro ?_ ?_;focus first|omega|rfl|assumption|exact⟨_,rfl,rfl⟩|(simp;omega)|(simp;done)))
  ·rw[if_pos h] at hxe;rw[hxe];have hb:=hfi.2.2.2.1;rw[if_pos h] at hb;refine aA (IK x.fN (by omega) (by omega)) ?_;simp -implicitDefEqProofs (disch:=omega) only[go_sem];refine aA (dS _ n) ?_;simp -implicitDefEqProofs (disch:=omega) only[go_sem];rfl
  have k1:=h;rw[if_neg h] at hxe
  with_reducible refine aD (fun hb=> ?_) (fun hb=> ?_)<;>have h:=hb<;>(try simp only[wf_preprocess] at h)<;>simp -implicitDefEqProofs (disch:=omega) only[go_sem,hb]<;>(repeat(with_reducible refine And.intro ?_ ?_;focus first|omega|rfl|assumption|exact⟨_,rfl,rfl⟩|(simp;omega)|(simp;done)))
  ·rw[if_pos h] at hxe;rw[hxe]
   with_reducible refine aD (fun hb=> ?_) (fun hb=> ?_)<;>have h:=hb<;>(try simp only[wf_preprocess] at h)<;>simp -implicitDefEqProofs (disch:=omega) only[go_sem,hb]<;>(repeat(with_reducible refine And.intro ?_ ?_;focus first|omega|rfl|assumption|exact⟨_,rfl,rfl⟩|(simp;omega)|(simp;done)))
   ·rw[if_pos h];refine aA (dS _ n) ?_;simp -implicitDefEqProofs (disch:=omega) only[go_sem];rfl
   ·rw[if_neg h];refine aA (dS _ n) ?_;simp -implicitDefEqProofs (disch:=omega) only[go_sem];rfl
  have k2:=h;rw[if_neg h] at hxe
  with_reducible refine aD (fun hb=> ?_) (fun hb=> ?_)<;>have h:=hb<;>(try simp only[wf_preprocess] at h)<;>simp -implicitDefEqProofs (disch:=omega) only[go_sem,hb]<;>(repeat(with_reducible refine And.intro ?_ ?_;focus first|omega|rfl|assumption|exact⟨_,rfl,rfl⟩|(simp;omega)|(simp;done)))
  ·rw[if_pos h] at hxe;rw[hxe];refine aA (dS _ n) ?_;simp -implicitDefEqProofs (disch:=omega) only[go_sem];rfl
  have k3:=h;clear hxe
  with_reducible refine aD (fun hb=> ?_) (fun hb=> ?_)<;>have h:=hb<;>(try simp only[wf_preprocess] at h)<;>simp -implicitDefEqProofs (disch:=omega) only[go_sem,hb]<;>(repeat(with_reducible refine And.intro ?_ ?_;focus first|omega|rfl|assumption|exact⟨_,rfl,rfl⟩|(simp;omega)|(simp;done)))
  ·have hx:=jG k1 k2 k3 (by omega)
   have hh:gM x.aI x.bg x.fName x.fType=aR [mF,x.fName]:=by rw[jc h];rfl
   rw[hh] at hx wL
   (repeat(with_reducible refine And.intro ?_ ?_;focus first|omega|rfl|assumption|exact⟨_,rfl,rfl⟩|(simp;omega)|(simp;done)))
   refine aT rfl (bJ.args (lS [mF,x.fName] (by simp) n (n+1) _ _) (.cons (mP n _) .nil)) ?_
   have M0:(lx (aR [mF,x.fName]) (n+1)).length=2:=by rw[iy];rfl
   have M4:=mW (l:=aR [mF,x.fName]) (n:=n+1);simp -implicitDefEqProofs (disch:=omega) only[go_sem]
   (repeat(with_reducible refine And.intro ?_ ?_;focus first|omega|rfl|assumption|exact⟨_,rfl,rfl⟩|(simp;omega)|(simp;done)))
   refine aT rfl (lD 0 5 _ _) ?_;simp -implicitDefEqProofs (disch:=omega) only[go_sem];rw[hx,hTe,wL,d9,dP,kM]
  have k4:=h
  with_reducible refine aD (fun hb=> ?_) (fun hb=> ?_)<;>have h:=hb<;>(try simp only[wf_preprocess] at h)<;>simp -implicitDefEqProofs (disch:=omega) only[go_sem,hb]<;>(repeat(with_reducible refine And.intro ?_ ?_;focus first|omega|rfl|assumption|exact⟨_,rfl,rfl⟩|(simp;omega)|(simp;done)))
  ·have hx:=jG k1 k2 k3 (by omega)
   have hh:gM x.aI x.bg x.fName x.fType=aR [gP,x.bg,x.fName]:=by rw[jc h];rfl
   rw[hh] at hx wL
   (repeat(with_reducible refine And.intro ?_ ?_;focus first|omega|rfl|assumption|exact⟨_,rfl,rfl⟩|(simp;omega)|(simp;done)))
   refine aT rfl (bJ.args (lS [gP,x.bg,x.fName] (by simp) n (n+1) _ _) (.cons (mP n _) .nil)) ?_
   have M0:(lx (aR [gP,x.bg,x.fName]) (n+1)).length=3:=by rw[iy];rfl
   have M4:=mW (l:=aR [gP,x.bg,x.fName]) (n:=n+1);simp -implicitDefEqProofs (disch:=omega) only[go_sem]
   (repeat(with_reducible refine And.intro ?_ ?_;focus first|omega|rfl|assumption|exact⟨_,rfl,rfl⟩|(simp;omega)|(simp;done)))
   refine aT rfl (lD 0 5 _ _) ?_;simp -implicitDefEqProofs (disch:=omega) only[go_sem];rw[hx,hTe,wL,d9,dP,kM]
  have k5:=h
  with_reducible refine aD (fun hb=> ?_) (fun hb=> ?_)<;>have h:=hb<;>(try simp only[wf_preprocess] at h)<;>simp -implicitDefEqProofs (disch:=omega) only[go_sem,hb]<;>(repeat(with_reducible refine And.intro ?_ ?_;focus first|omega|rfl|assumption|exact⟨_,rfl,rfl⟩|(simp;omega)|(simp;done)))
  ·have hx:=jG k1 k2 k3 (by omega)
   have hh:gM x.aI x.bg x.fName x.fType=aR [pE,x.fName]:=by rw[jc h];rfl
   rw[hh] at hx wL
   (repeat(with_reducible refine And.intro ?_ ?_;focus first|omega|rfl|assumption|exact⟨_,rfl,rfl⟩|(simp;omega)|(simp;done)))
   refine aT rfl (bJ.args (lS [pE,x.fName] (by simp) n (n+1) _ _) (.cons (mP n _) .nil)) ?_
   have M0:(lx (aR [pE,x.fName]) (n+1)).length=2:=by rw[iy];rfl
   have M4:=mW (l:=aR [pE,x.fName]) (n:=n+1);simp -implicitDefEqProofs (disch:=omega) only[go_sem]
   (repeat(with_reducible refine And.intro ?_ ?_;focus first|omega|rfl|assumption|exact⟨_,rfl,rfl⟩|(simp;omega)|(simp;done)))
   refine aT rfl (lD 0 5 _ _) ?_;simp -implicitDefEqProofs (disch:=omega) only[go_sem];rw[hx,hTe,wL,d9,dP,kM]
  have k6:=h
  with_reducible refine aD (fun hb=> ?_) (fun hb=> ?_)<;>have h:=hb<;>(try simp only[wf_preprocess] at h)<;>simp -implicitDefEqProofs (disch:=omega) only[go_sem,hb]<;>(repeat(with_reducible refine And.intro ?_ ?_;focus first|omega|rfl|assumption|exact⟨_,rfl,rfl⟩|(simp;omega)|(simp;done)))
  ·have hx:=Fv x;rw[if_neg k1,if_neg k2,if_neg k3,if_neg (by omega)] at hx
   have hh:gM x.aI x.bg x.fName x.fType=aR [jl]:=by rw[jc h];rfl
   rw[hh] at hx wL;obtain⟨B,hB⟩:∃B:Nat->List (List D),B=fun i=>lx (x.fArgs.map dX++(x.aO.map wK).take i) qa:=⟨_,rfl⟩;obtain⟨L,hL⟩:∃L:Nat->Nat,L=fun i=>qa+iJ (x.fArgs.map dX++(x.aO.map wK).take i):=⟨_,rfl⟩
   have hB0:T x.fArgs.length=B 0:=by rw[hTe,hB];simp only[List.take_zero,List.append_nil]
   have hBl:∀i,(B i).length<=i+x.fArgs.length:=fun i=>by
    rw[hB];simp only[iy,List.length_append,List.length_map];have:=List.length_take_le i (x.aO.map wK);omega
   have hBr:∀i,∀r∈B i,r.length=2:=fun i=>by rw[hB];exact mW
   have Ue:∀i (hi:i<x.aO.length),B i++[[.s [],.ol (L i) (lx ([bH x.aO[i].bU]++aR x.aO[i].aK++[dX x.aO[i].fBody]) (L i+1))]]=B (i+1):=fun i hi=>by
    have:=QD (base:=x.fArgs.map dX) (l:=x.aO.map wK) (i:=i) (by rw[List.length_map];exact hi) qa;rw[List.getElem_map,Zw,d9,dP] at this;rw[hB,hL];exact this
   have hBe:B x.aO.length=lx (x.fArgs.map dX++x.aO.map wK) qa:=by rw[hB];simp only;rw[List.take_of_length_le (by simp)]
   clear hB hL hTT
   (repeat(with_reducible refine And.intro ?_ ?_;focus first|omega|rfl|assumption|exact⟨_,rfl,rfl⟩|(simp;omega)|(simp;done)))
   refine aT rfl (bJ.args (lS [jl] (by simp) n (n+1) _ _) (.cons (mP n _) .nil)) ?_
   have M0:(lx (aR [jl]) (n+1)).length=1:=by rw[iy];rfl
   have M4:=mW (l:=aR [jl]) (n:=n+1);simp -implicitDefEqProofs (disch:=omega) only[go_sem];rw[hB0];obtain⟨HD,hHD⟩:∃HD,HD=lx (aR [jl]) (n+1):=⟨_,rfl⟩;rw[<-hHD] at M0 M4 ⊢
   refine bF (ι:=Nat) zmx rfl [2,3,6,69,70,71] (fun i=>[.c (.ptr (0,2) 0),.c (.bK (0,3) (B i)),.c (.bK (0,5) HD),.c (.d (.sl (x.aO.map aP.enc))),.c (.d (.i .i64 x.aO.length)),.c (.d (.i .i64 i))])
    (fun i=>[.seed n,.box [.d (.i .i64 x.aI),.d (.s x.bg),.d (.s x.fName),.d (.i .i64 x.fN),.d (.i .i64 x.fType.aI),.d (.s x.fType.fName),.d (.sl (x.fType.fArgs.map au.enc)),.d (.sl (x.fArgs.map aC.enc)),.d (.sl (x.aO.map aP.enc))],.box [.d (.s []),.bE []],.dY n 2 (B i),.seed n,.dY n 2 HD]::S)
    (fun i=>i<=x.aO.length) (fun i=>x.aO.length-i) 0 rfl rfl (Nat.zero_le _) ?_
   intro i hi;have hl:=hBl i;have hr:=hBr i;simp -implicitDefEqProofs (disch:=omega) only[go_sem]
   with_reducible refine aD (fun hb=> ?_) (fun hb=> ?_)<;>have h:=hb<;>(try simp only[wf_preprocess] at h)<;>simp -implicitDefEqProofs (disch:=omega) only[go_sem,hb]<;>(repeat(with_reducible refine And.intro ?_ ?_;focus first|omega|rfl|assumption|exact⟨_,rfl,rfl⟩|(simp;omega)|(simp;done)))
   ·have hi':i<x.aO.length:=by omega
    have hm:=List.getElem_mem hi';have hez:=Kz hm;have hea:=yB x.aO[i];have hs:=Ue i hi';have hak:=QG _ hm;rw[pq,Bool.and_eq_true,Bool.and_eq_true] at hak;have hls:=List.sizeOf_lt_of_mem hm;have hlb:=aP.sU x.aO[i]
    (repeat(with_reducible refine And.intro ?_ ?_;focus first|omega|rfl|assumption|exact⟨_,rfl,rfl⟩|(simp;omega)|(simp;done)))
    refine wo (yR [x.aO[i].bU] (by simp) 0 (L i+1)) (.cons (mP n _) .nil) ?_;simp -implicitDefEqProofs (disch:=omega) only[go_sem];refine aA (yR x.aO[i].aK (by omega) 0 (L i+1+iJ (aR [x.aO[i].bU]))) ?_;simp -implicitDefEqProofs (disch:=omega) only[go_sem];refine aA (ih x.aO[i].fBody (by omega) (L i+1+iJ (aR [x.aO[i].bU]++aR x.aO[i].aK)) hak.2.2 (by omega)) ?_;simp -implicitDefEqProofs (disch:=omega) only[go_sem]
    (repeat(with_reducible refine And.intro ?_ ?_;focus first|omega|rfl|assumption|exact⟨_,rfl,rfl⟩|(simp;omega)|(simp;done)))
    refine aA (S9 (L i) n [(0,lx (aR [x.aO[i].bU]) (L i+1)),(0,lx (aR x.aO[i].aK) (L i+1+iJ (aR [x.aO[i].bU]))),(n,[[.s (dX x.aO[i].fBody).aU,.ol (L i+1+iJ (aR [x.aO[i].bU]++aR x.aO[i].aK)) (lx (dX x.aO[i].fBody).aj (L i+1+iJ (aR [x.aO[i].bU]++aR x.aO[i].aK)+1))]])] (by simp) ?_ ?_) ?_
    ·intro p hp;simp only[List.mem_cons,List.not_mem_nil,or_false] at hp;rcases hp with rfl|rfl|rfl
     ·exact mW
     ·exact mW
     ·simp
    ·simp only[List.map_cons,List.map_nil,List.flatten_cons,List.flatten_nil,List.length_append,iy,kL,List.length_cons,List.length_nil];omega
    simp -implicitDefEqProofs (disch:=omega) only[go_sem];refine aA (wz _) ?_;simp -implicitDefEqProofs (disch:=omega) only[go_sem]
    (repeat(with_reducible refine And.intro ?_ ?_;focus first|omega|rfl|assumption|exact⟨_,rfl,rfl⟩|(simp;omega)|(simp;done)))
    have hrow:[lx (aR [x.aO[i].bU]) (L i+1),lx (aR x.aO[i].aK) (L i+1+iJ (aR [x.aO[i].bU])),[[.s (dX x.aO[i].fBody).aU,.ol (L i+1+iJ (aR [x.aO[i].bU]++aR x.aO[i].aK)) (lx (dX x.aO[i].fBody).aj (L i+1+iJ (aR [x.aO[i].bU]++aR x.aO[i].aK)+1))]]].flatten=lx ([bH x.aO[i].bU]++aR x.aO[i].aK++[dX x.aO[i].fBody]) (L i+1):=by
     have e1:[bH x.aO[i].bU]=aR [x.aO[i].bU]:=rfl;rw[e1,kM,kM,qb (dX x.aO[i].fBody) [],uj,l9 (dX x.aO[i].fBody)];simp only[List.flatten_cons,List.flatten_nil,List.append_nil,List.append_assoc]
    rw[hrow,hs];exact dO 6 (by decide) (i+1) (by omega) rfl rfl rfl rfl (by omega)
   ·have hi':i=x.aO.length:=by omega
    subst hi';have hr2:=hBr x.aO.length
    (repeat(with_reducible refine And.intro ?_ ?_;focus first|omega|rfl|assumption|exact⟨_,rfl,rfl⟩|(simp;omega)|(simp;done)))
    refine aT rfl (lD 0 5 _ _) ?_;simp -implicitDefEqProofs (disch:=omega) only[go_sem];rw[hx,hBe,wL,hHD,d9,dP,List.append_assoc,kM (aR [jl])]
  have k7:=h
  with_reducible refine aD (fun hb=> ?_) (fun hb=> ?_)<;>have h:=hb<;>(try simp only[wf_preprocess] at h)<;>simp -implicitDefEqProofs (disch:=omega) only[go_sem,hb]<;>(repeat(with_reducible refine And.intro ?_ ?_;focus first|omega|rfl|assumption|exact⟨_,rfl,rfl⟩|(simp;omega)|(simp;done)))
  ·have hx:=jG k1 k2 k3 (by omega)
   have hh:gM x.aI x.bg x.fName x.fType=aR [pF,x.fName]:=by rw[jc h];rfl
   rw[hh] at hx wL
   (repeat(with_reducible refine And.intro ?_ ?_;focus first|omega|rfl|assumption|exact⟨_,rfl,rfl⟩|(simp;omega)|(simp;done)))
   refine aT rfl (bJ.args (lS [pF,x.fName] (by simp) n (n+1) _ _) (.cons (mP n _) .nil)) ?_
   have M0:(lx (aR [pF,x.fName]) (n+1)).length=2:=by rw[iy];rfl
   have M4:=mW (l:=aR [pF,x.fName]) (n:=n+1);simp -implicitDefEqProofs (disch:=omega) only[go_sem]
   (repeat(with_reducible refine And.intro ?_ ?_;focus first|omega|rfl|assumption|exact⟨_,rfl,rfl⟩|(simp;omega)|(simp;done)))
   refine aT rfl (lD 0 5 _ _) ?_;simp -implicitDefEqProofs (disch:=omega) only[go_sem];rw[hx,hTe,wL,d9,dP,kM]
  have k8:=h
  with_reducible refine aD (fun hb=> ?_) (fun hb=> ?_)<;>have h:=hb<;>(try simp only[wf_preprocess] at h)<;>simp -implicitDefEqProofs (disch:=omega) only[go_sem,hb]<;>(repeat(with_reducible refine And.intro ?_ ?_;focus first|omega|rfl|assumption|exact⟨_,rfl,rfl⟩|(simp;omega)|(simp;done)))
  ·have hx:=jG k1 k2 k3 (by omega)
   have hh:gM x.aI x.bg x.fName x.fType=aR [um]:=by rw[jc h];rfl
   rw[hh] at hx wL
   (repeat(with_reducible refine And.intro ?_ ?_;focus first|omega|rfl|assumption|exact⟨_,rfl,rfl⟩|(simp;omega)|(simp;done)))
   refine aT rfl (bJ.args (lS [um] (by simp) n (n+1) _ _) (.cons (mP n _) .nil)) ?_
   have M0:(lx (aR [um]) (n+1)).length=1:=by rw[iy];rfl
   have M4:=mW (l:=aR [um]) (n:=n+1);simp -implicitDefEqProofs (disch:=omega) only[go_sem]
   (repeat(with_reducible refine And.intro ?_ ?_;focus first|omega|rfl|assumption|exact⟨_,rfl,rfl⟩|(simp;omega)|(simp;done)))
   refine aT rfl (lD 0 5 _ _) ?_;simp -implicitDefEqProofs (disch:=omega) only[go_sem];rw[hx,hTe,wL,d9,dP,kM]
  have k9:=h
  with_reducible refine aD (fun hb=> ?_) (fun hb=> ?_)<;>have h:=hb<;>(try simp only[wf_preprocess] at h)<;>simp -implicitDefEqProofs (disch:=omega) only[go_sem,hb]<;>(repeat(with_reducible refine And.intro ?_ ?_;focus first|omega|rfl|assumption|exact⟨_,rfl,rfl⟩|(simp;omega)|(simp;done)))
  ·have hx:=jG k1 k2 k3 (by omega)
   have hh:gM x.aI x.bg x.fName x.fType=aR [x.fName]:=by rw[jc h];rfl
   rw[hh] at hx wL
   (repeat(with_reducible refine And.intro ?_ ?_;focus first|omega|rfl|assumption|exact⟨_,rfl,rfl⟩|(simp;omega)|(simp;done)))
   refine aT rfl (bJ.args (lS [x.fName] (by simp) n (n+1) _ _) (.cons (mP n _) .nil)) ?_
   have M0:(lx (aR [x.fName]) (n+1)).length=1:=by rw[iy];rfl
   have M4:=mW (l:=aR [x.fName]) (n:=n+1);simp -implicitDefEqProofs (disch:=omega) only[go_sem]
   (repeat(with_reducible refine And.intro ?_ ?_;focus first|omega|rfl|assumption|exact⟨_,rfl,rfl⟩|(simp;omega)|(simp;done)))
   refine aT rfl (lD 0 5 _ _) ?_;simp -implicitDefEqProofs (disch:=omega) only[go_sem];rw[hx,hTe,wL,d9,dP,kM]
  have k10:=h
  with_reducible refine aD (fun hb=> ?_) (fun hb=> ?_)<;>have h:=hb<;>(try simp only[wf_preprocess] at h)<;>simp -implicitDefEqProofs (disch:=omega) only[go_sem,hb]<;>(repeat(with_reducible refine And.intro ?_ ?_;focus first|omega|rfl|assumption|exact⟨_,rfl,rfl⟩|(simp;omega)|(simp;done)))
  ·have hx:=jG k1 k2 k3 (by omega)
   have hh:gM x.aI x.bg x.fName x.fType=aR [mG,x.bg]:=by rw[jc h];rfl
   rw[hh] at hx wL
   (repeat(with_reducible refine And.intro ?_ ?_;focus first|omega|rfl|assumption|exact⟨_,rfl,rfl⟩|(simp;omega)|(simp;done)))
   refine aT rfl (bJ.args (lS [mG,x.bg] (by simp) n (n+1) _ _) (.cons (mP n _) .nil)) ?_
   have M0:(lx (aR [mG,x.bg]) (n+1)).length=2:=by rw[iy];rfl
   have M4:=mW (l:=aR [mG,x.bg]) (n:=n+1);simp -implicitDefEqProofs (disch:=omega) only[go_sem]
   (repeat(with_reducible refine And.intro ?_ ?_;focus first|omega|rfl|assumption|exact⟨_,rfl,rfl⟩|(simp;omega)|(simp;done)))
   refine aT rfl (lD 0 5 _ _) ?_;simp -implicitDefEqProofs (disch:=omega) only[go_sem];rw[hx,hTe,wL,d9,dP,kM]
  have k11:=h
  with_reducible refine aD (fun hb=> ?_) (fun hb=> ?_)<;>have h:=hb<;>(try simp only[wf_preprocess] at h)<;>simp -implicitDefEqProofs (disch:=omega) only[go_sem,hb]<;>(repeat(with_reducible refine And.intro ?_ ?_;focus first|omega|rfl|assumption|exact⟨_,rfl,rfl⟩|(simp;omega)|(simp;done)))
  ·have hx:=jG k1 k2 k3 (by omega)
   have hh:gM x.aI x.bg x.fName x.fType=[bH qd,dK x.fType]:=by rw[jc h];rfl
   rw[hh] at hx wL;have hty:=hfi.2.2.2.2.1;rw[if_pos h] at hty;refine aA (dS _ (n+1)) ?_;simp -implicitDefEqProofs (disch:=omega) only[go_sem];refine aA (oN x.fType (n+1+1) (wh hty) (by omega)) ?_;simp -implicitDefEqProofs (disch:=omega) only[go_sem]
   (repeat(with_reducible refine And.intro ?_ ?_;focus first|omega|rfl|assumption|exact⟨_,rfl,rfl⟩|(simp;omega)|(simp;done)))
   refine aT rfl (lD 0 4 _ _) ?_;simp -implicitDefEqProofs (disch:=omega) only[go_sem];rw[hx,hTe,wL,d9,dP,kM];simp only[qb,uj,l9,tF,tH,vB,WC,Zv,qd,List.cons_append,List.nil_append]
  ·have:=hfi.1;omega
theorem WM(x:aC)(n:Nat)(hok:gU x=true)(hsz:x.sz<=4194304):aJ prog 101 [x.v] (.agg [.d (.s (dX x).aU),.d (.ol n (lx (dX x).aj (n+1)))]):=KA _ x (Nat.lt_succ_self _) n hok hsz
end Go.Ab