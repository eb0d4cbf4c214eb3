/-
  SEVERAL TEXTS IN ONE (merged by program): contracts and models, each with its own heading.
-/
import Derived.Test.YtnceiannponbjaaGreatDoorPartDkbH
import Derived.Lib.AppendZeros
import Derived.Laws.Cover3
open Go.Proofs Go.Proofs.Tryz
set_option linter.unusedSimpArgs false
set_option linter.unusedVariables false
set_option maxRecDepth 4000
namespace Go.Ab
theorem Ej{P:Program}{w:World}{t u ty e:TypeId}{base:Option Addr}{n:Nat}{i:TypeInfo}{z:Value}(ht:P.underlying t=some (.slice e))(hu:P.underlying u=some (.int .i64))(hi:P.info? e=some i)
 (hz:i.zero=some z)(h1:1<=n)(hn:n<=1073741824)(hb:i.bytes<=4096)(hs:i.size=z.cells.size):
 ∃(cap:Nat) (row:Array Value),n<=cap/\row.size=cap*z.cells.size/\(Builtin.append_ #[t,u] ty #[.slice base 0 0,.int .i64 n]).run P w=
  .ok (.slice (some ⟨w.heap.size,0,none⟩) n cap) {w.drew with heap:=w.heap.push (.cells row e)}:=by
 have hn1:=HZ n 0 (by omega)
 have h48:¬(281474976710656<Builtin.nextslicecap n 0*i.bytes):=by
  have:Builtin.nextslicecap n 0*i.bytes<=(2*n+512)*4096:=Nat.mul_le_mul hn1 hb;omega
 have h49:¬(281474976710656<(n:Int)*(i.bytes:Int)):=by
  have h2:n*i.bytes<=1073741824*4096:=Nat.mul_le_mul hn hb
  have:(n:Int)*(i.bytes:Int)=((n*i.bytes:Nat):Int):=by simp
  rw[this];omega
 have h63':¬(9223372036854775807<(n:Int)):=by omega
 have hroom':¬(n<=0):=by omega
 have hneg:¬((n:Int)<0):=by omega
 have hn0:¬n=0:=by omega
 have hw:IntKind.i64.wrap (n:Int)=n:=Si _ (by omega)
 have hmax:IntKind.i64.max=9223372036854775807:=by decide
 have ha:∀w:World,(asInt (.int .i64 (n:Int))).run P w=.ok (n:Int) w:=fun w=>by simp[asInt,asIntOf]
 let cap:=(Question.appendCap n 0 e).cut (w.tape w.drawn (Question.appendCap n 0 e))
 have hcap:n<=cap:=by simp[cap,Question.cut]
 refine⟨cap,#[]++(if n*i.size=0 then #[] else Builtin.zeroCells z.cells n)++Builtin.zeroCells z.cells (cap-n),hcap,?_,?_⟩
 ·by_cases h0:n*i.size=0
  ·rw[if_pos h0]
   have hsz:z.cells.size=0:=by
    rcases Nat.mul_eq_zero.1 h0 with h|h
    ·omega
    ·omega
   simp[Builtin.zeroCells,hsz]
  ·rw[if_neg h0];simp only[Builtin.zeroCells,Array.size_append,Array.size_map,Array.size_range,Array.size_empty,Nat.zero_add];rw[<-Nat.add_mul];congr 1;omega
 ·by_cases h0:n*i.size=0
  ·rw[if_pos h0];cases base<;>simp[Builtin.append_,run_underlying ht,run_underlying hu,sizeOf,typeInfo,zeroValue,hi,hz,hroom',h48,h49,h63',hneg,hw,hmax,Question.forced,newRow,ha,hn0,loadCellsFrom,h0,Builtin.firstCells,loadCells]<;>exact⟨rfl,rfl⟩
  ·rw[if_neg h0];cases base<;>simp[Builtin.append_,run_underlying ht,run_underlying hu,sizeOf,typeInfo,zeroValue,hi,hz,hroom',h48,h49,h63',hneg,hw,hmax,Question.forced,newRow,ha,hn0,loadCellsFrom,h0,Builtin.firstCells,loadCells]<;>exact⟨rfl,rfl⟩
theorem YD(base:Option Addr)(n:Nat)(h1:1<=n)(hn:n<=1073741824)(w:World):Calls prog 230 #[.slice base 0 0,.int .i64 n] w fun e w'=>
 ∃cap row,n<=cap/\row.size=cap/\e=.returned (.slice (some ⟨w.heap.size,0,none⟩) 0 cap)/\w'={w.drew with heap:=w.heap.push (.cells row 9)}:=by
 obtain⟨cap,row,hc,hr,hm⟩:=Ej (P:=prog) (w:=w) (t:=24) (u:=3) (ty:=24) (e:=9) (base:=base) (n:=n) underlying24 underlying3 rfl rfl h1 hn (by decide +kernel) rfl
 have h0:¬((n:Int)<0):=by omega
 have h2:(0:Int)<n:=by omega
 go_enter func230,ntmps230
 go_wp2_with (at_builtin;refine Lib.wpList_append_run _ rfl _ _ _ _ rfl _ _ rfl rfl _ _ hm ?_)
 all_goals go_ret
 exact⟨cap,hc,row,hr.trans (Nat.mul_one _),rfl,rfl⟩
theorem Vo(base:Option Addr)(w:World):Calls prog 230 #[.slice base 0 0,.int .i64 0] w fun e w'=>e=.returned (.slice base 0 0)/\w'=w:=by
 go_enter func230,ntmps230
 go_wp2
 all_goals go_ret
 exact⟨rfl,rfl⟩
theorem abL(n:Nat)(hn:n<=1073741824)(bg:List Ab.Obj)(Ω:Store):bD prog 230 [.c (.bA []),.c (.d (.i .i64 n))] (bg::Ω)
 (fun r S'=>r=.c (.bG (0,bg.length) [])/\S'=(bg++[.tok 1 []])::Ω):=by
 refine⟨⟨_,func230,by kernel_rfl,by kernel_rfl⟩,fun w σ β vs hS hv=> ?_⟩;obtain⟨hl,h⟩:=hv;obtain⟨v0,e0,⟨h0,a,m,h00⟩,_⟩:=h 0 _ rfl;obtain⟨v1,e1,h1,_⟩:=h 1 _ rfl
 have h1':v1=.int .i64 n:=by cases h1;rfl
 subst h1'
 have hm:m=0:=by rw[h00] at h0;cases h0<;>rfl
 subst hm;subst h00
 have hvs:vs=[.slice a 0 0,.int .i64 n]:=by
  match vs,hl,e0,e1 with
  |[x,y],_,e0,e1=>simp at e0 e1;rw[e0,e1]
 subst hvs
 cases β with
 |nil=>have:=hS.shape.1;simp at this
 |cons bo bΩ=>
 have hlen:bo.length=bg.length:=by
  obtain⟨gr,g1,g2⟩:=hS.shape.2 0 bg rfl;simp at g1;rw[g1];exact g2
 by_cases hz:n=0
 ·subst hz;refine(Vo a w).mono fun e w' ⟨he,hw⟩=> ?_;subst hw;obtain⟨hS',hk,hst⟩:=hS.push (o:=.tok 1 []) (h:=.slice a 0 0) (Grow.refl hS.live) hlen ⟨h0,by simp,a,0,rfl,by simp,.inl rfl⟩ (fun b hb=>by cases a<;>simp[owns,blk] at hb);refine⟨_,.c (.bG (0,bg.length) []),_,_,_,he,hS',hk,hst,⟨⟨h0,.tok 1 [],?_,fun aN es e=> ?_⟩,rfl⟩,rfl,rfl⟩
  ·rw[bq]
  ·obtain⟨_,rfl⟩:=kL (lab:=none) e;exact⟨Nat.le_refl _,fun _=>by rw[<-hlen,bq]⟩
 ·refine(YD a n (by omega) hn w).mono fun e w' ⟨cap,row,hc,hr,he,hw⟩=> ?_;subst hw;have hσ:σ w.heap.size=0:=(hS.live w.heap.size).resolve_left (by omega)
  have hg:Grow w σ {w.drew with heap:=w.heap.push (.cells row 9)} σ:=by
   refine⟨by simp,rfl,rfl,fun b hb=>⟨?_,rfl⟩,fun b=> ?_⟩
   ·simp only[Array.getElem?_push];rw[if_neg (by omega)]
   ·rcases hS.live b with hb|hb
    ·left;simp;omega
    ·exact .inr hb
  obtain⟨hS',hk,hst⟩:=hS.push (o:=.tok 1 []) (h:=.slice (some ⟨w.heap.size,0,none⟩) 0 cap) hg hlen ⟨.nil _ _,by simp,_,cap,rfl,by simp,.inr ⟨w.heap.size,0,row,9,rfl,by simp,by simp[hσ],by omega⟩⟩ (fun b hb=>by
   simp only[owns,blk] at hb;split at hb
   ·cases hb
   ·cases hb;exact Nat.le_refl _)
  refine⟨_,.c (.bG (0,bg.length) []),_,_,_,he,hS',hk,hst,⟨⟨.nil _ _,.tok 1 [],?_,fun aN es e=> ?_⟩,rfl⟩,rfl,rfl⟩
  ·rw[bq]
  ·obtain⟨_,rfl⟩:=kL (lab:=none) e;exact⟨Nat.le_refl _,fun _=>by rw[<-hlen,bq]⟩
theorem zq{xs:List (List UInt8)}:∀y∈xs.map encS,y.length=1:=fun y hy=>by
 obtain⟨z,_,rfl⟩:=List.mem_map.1 hy;rfl
theorem Cv{α:Type}(xss:List (List α)){i:Nat}(hi:i<xss.length):(xss.take (i+1)).flatten.length=(xss.take i).flatten.length+xss[i].length:=by
 rw[List.take_succ_eq_append_getElem hi,List.flatten_append,List.length_append];simp only[List.flatten_cons,List.flatten_nil,List.append_nil]
theorem uh{α:Type}(xss:List (List α))(i:Nat):(xss.take i).flatten.length<=xss.flatten.length:=by
 conv=>rhs;rw[<-List.take_append_drop i xss]
 rw[List.flatten_append,List.length_append];omega
theorem Vp(xss:List (List (List UInt8)))(hl:xss.length<=1073741824)(hf:xss.flatten.length<=1073741824):aG prog 208 [.c (.d (.sl (xss.map fun a=>[.sl (a.map encS)])))] (.c (.d (.sl (xss.flatten.map encS)))):=fun S=>by
 refine zcx [.tmp 2] func208 ntmps208 ?_;simp -implicitDefEqProofs (disch:=omega) only[go_sem]
 refine aZ (ι:=Nat) zmx rfl [0,3,9,10,11] (fun i=>[.c (.d (.sl (xss.map fun a=>[.sl (a.map encS)]))),.c (.d (.i .i64 (xss.take i).flatten.length)),.c (.d (.sl (xss.map fun a=>[.sl (a.map encS)]))),.c (.d (.i .i64 xss.length)),.c (.d (.i .i64 i))]) (fun _=>[]::S)
  (fun i=>i<=xss.length) (fun i=>xss.length-i) 0 rfl rfl (Nat.zero_le _) ?_
 rintro i p1;have hfi:=uh xss i;by_cases hi:i<xss.length
 ·have hs:=Cv xss hi;have abM:=uh xss (i+1);simp -implicitDefEqProofs (disch:=omega) only[go_sem]
  with_reducible refine aA (fun hb=> ?_) (fun hb=> ?_)<;>have h:=hb<;>(try simp only[wf_preprocess] at h)<;>simp -implicitDefEqProofs (disch:=omega) only[go_sem,hb]<;>(repeat(with_reducible refine And.intro ?_ ?_;focus first|omega|rfl|assumption|exact⟨_,rfl,rfl⟩|(simp;omega)|(simp;done)))
  ·(repeat(with_reducible refine And.intro ?_ ?_;focus first|omega|rfl|assumption|exact⟨_,rfl,rfl⟩|(simp;omega)|(simp;done)))
   with_reducible refine aA (fun hb=> ?_) (fun hb=> ?_)<;>have h:=hb<;>(try simp only[wf_preprocess] at h)<;>simp -implicitDefEqProofs (disch:=omega) only[go_sem,hb]<;>(repeat(with_reducible refine And.intro ?_ ?_;focus first|omega|rfl|assumption|exact⟨_,rfl,rfl⟩|(simp;omega)|(simp;done)))
   ·omega
   ·refine cK (i+1) (by omega) ?_ rfl (by omega);rw[hs];rfl
  ·omega
 have hi:i=xss.length:=by omega
 subst hi;simp -implicitDefEqProofs (disch:=omega) only[go_sem]
 with_reducible refine aA (fun hb=> ?_) (fun hb=> ?_)<;>have h:=hb<;>(try simp only[wf_preprocess] at h)<;>simp -implicitDefEqProofs (disch:=omega) only[go_sem,hb]<;>(repeat(with_reducible refine And.intro ?_ ?_;focus first|omega|rfl|assumption|exact⟨_,rfl,rfl⟩|(simp;omega)|(simp;done)))
 ·omega
 rw[List.take_length];clear hfi;refine bB rfl (abL xss.flatten.length hf [] S) ?_;simp -implicitDefEqProofs (disch:=omega) only[go_sem]
 refine aZ (ι:=Nat) zmx rfl [6,25,26,27] (fun i=>[.c (.bG (0,0) ((xss.take i).flatten.map encS)),.c (.d (.sl (xss.map fun a=>[.sl (a.map encS)]))),.c (.d (.i .i64 xss.length)),.c (.d (.i .i64 i))]) (fun i=>[.tok 1 ((xss.take i).flatten.map encS)]::S)
  (fun i=>i<=xss.length) (fun i=>xss.length-i) 0 rfl rfl (Nat.zero_le _) ?_
 rintro i p1;have hfi:=uh xss i;by_cases hi:i<xss.length
 ·have hs:=Cv xss hi;have abM:=uh xss (i+1)
  have e:(xss.take (i+1)).flatten.map encS=(xss.take i).flatten.map encS++xss[i].map encS:=by
   rw[List.take_succ_eq_append_getElem hi,List.flatten_append,List.map_append];simp only[List.flatten_cons,List.flatten_nil,List.append_nil]
  simp -implicitDefEqProofs (disch:=omega) only[go_sem]
  with_reducible refine aA (fun hb=> ?_) (fun hb=> ?_)<;>have h:=hb<;>(try simp only[wf_preprocess] at h)<;>simp -implicitDefEqProofs (disch:=omega) only[go_sem,hb]<;>(repeat(with_reducible refine And.intro ?_ ?_;focus first|omega|rfl|assumption|exact⟨_,rfl,rfl⟩|(simp;omega)|(simp;done)))
  ·(repeat(with_reducible refine And.intro ?_ ?_;focus first|omega|rfl|assumption|exact⟨_,rfl,rfl⟩|(simp;omega)|(simp;done)))
   refine⟨zq,⟨_,rfl,rfl⟩,by omega,?_⟩;exact cK (i+1) (by omega) (by rw[e];rfl) (by rw[e]) (by omega)
  ·omega
 ·have hi:i=xss.length:=by omega
  subst hi;simp -implicitDefEqProofs (disch:=omega) only[go_sem]
  with_reducible refine aA (fun hb=> ?_) (fun hb=> ?_)<;>have h:=hb<;>(try simp only[wf_preprocess] at h)<;>simp -implicitDefEqProofs (disch:=omega) only[go_sem,hb]<;>(repeat(with_reducible refine And.intro ?_ ?_;focus first|omega|rfl|assumption|exact⟨_,rfl,rfl⟩|(simp;omega)|(simp;done)))
  ·omega
  rw[List.take_length]
theorem Vq(c:Nat)(w:World):Calls prog 207 #[.slice none 0 c] w fun e w'=>e=.returned (.slice none 0 0)/\w'=w:=by
 have hb:(binOp .eql 24 (.slice none 0 c) (.slice none 0 0)).run prog w=.ok (.bool true) w:=by
  simp[binOp,run_equal_slice_nil w _ _ _ _ _ underlying24]
 go_enter func207,ntmps207
 go_wp2
 all_goals go_ret
 exact⟨rfl,rfl⟩
theorem Vr(w w':World)(a:Addr)(n c:Nat)(r:Value)(hm:(Builtin.append_ #[24,24] 24 #[.slice (some ⟨w.heap.size,0,none⟩) 0 0,.slice (some a) n c]).run prog (w.alloc (.cells #[] 9))=.ok r w'):
 Calls prog 207 #[.slice (some a) n c] w fun e w''=>e=.returned r/\w''=w':=by
 have hb:(binOp .eql 24 (.slice (some a) n c) (.slice none 0 0)).run prog w=.ok (.bool false) w:=by
  simp[binOp,run_equal_slice_nil w _ _ _ _ _ underlying24]
 go_enter func207,ntmps207
 go_wp2_with (at_builtin;refine Lib.wpList_append_run _ rfl _ _ _ _ rfl _ _ rfl rfl _ _ hm ?_)
 all_goals go_ret
 exact⟨rfl,rfl⟩
theorem YE(xs:List (List UInt8))(hx:xs.length<=1073741824)(bg:List Ab.Obj)(Ω:Store):bD prog 207 [.c (.d (.sl (xs.map encS)))] (bg::Ω)
 (fun r S'=>r=.c (.bG (0,bg.length) (xs.map encS))/\S'=(bg++[.tok 1 (xs.map encS)])::Ω):=by
 have ahn:(xs.map encS).length<=1073741824:=by simpa using hx
 have h1:=zq (xs:=xs)
 generalize xs.map encS=es at *
 refine⟨⟨_,func207,by kernel_rfl,by kernel_rfl⟩,fun w σ β vs hS hv=> ?_⟩;obtain⟨hl,h⟩:=hv;obtain⟨v,e0,hd,_⟩:=h 0 _ rfl;have hd:bU w σ (.sl es) v:=hd
 have hvs:vs=[v]:=by
  match vs,hl,e0 with
  |[x],_,e0=>simp at e0;rw[e0]
 subst hvs
 cases β with
 |nil=>have:=hS.shape.1;simp at this
 |cons bo bΩ=>
 have hlen:bo.length=bg.length:=by
  obtain⟨gr,g1,g2⟩:=hS.shape.2 0 bg rfl;simp at g1;rw[g1];exact g2
 have hv:∃a c,v=.slice a es.length c/\(a=none->es=[]):=by
  cases hd with
  |nil a cap=>exact⟨a,cap,rfl,fun _=>rfl⟩
  |sl b off cap aN es vals c t fz=>exact⟨_,_,rfl,fun h=>by cases h⟩
 obtain⟨a,c,rfl,ha⟩:=hv
 cases a with
 |none=>
  have:=ha rfl;subst this;refine(Vq c w).mono fun e w' ⟨he,hw⟩=> ?_;subst hw;obtain⟨hS',hk,hst⟩:=hS.push (o:=.tok 1 []) (h:=.slice none 0 0) (Grow.refl hS.live) hlen ⟨.nil _ _,by simp,none,0,rfl,by simp,.inl rfl⟩ (fun b hb=>by simp[owns,blk] at hb);refine⟨_,.c (.bG (0,bg.length) []),_,_,_,he,hS',hk,hst,⟨⟨.nil _ _,.tok 1 [],?_,fun aN es e=> ?_⟩,rfl⟩,rfl,rfl⟩
  ·rw[bq]
  ·obtain⟨_,rfl⟩:=kL (lab:=none) e;exact⟨Nat.le_refl _,fun _=>by rw[<-hlen,bq]⟩
 |some a=>
  have hσ:σ w.heap.size=0:=(hS.live w.heap.size).resolve_left (by omega)
  have hg:Grow w σ (w.alloc (.cells #[] 9)) σ:=by
   have hh:(w.alloc (.cells #[] 9)).heap=w.heap.push (.cells #[] 9):=rfl;refine⟨by rw[hh];simp,rfl,rfl,fun b hb=>⟨?_,rfl⟩,fun b=> ?_⟩
   ·rw[hh,Array.getElem?_push];rw[if_neg (by omega)]
   ·rcases hS.live b with hb|hb
    ·left;rw[hh];simp;omega
    ·exact .inr hb
  have Ai:fG (w.alloc (.cells #[] 9)) σ [] [] (.tok 1 []) (.slice (some ⟨w.heap.size,0,none⟩) 0 0):=⟨.nil _ _,by simp,_,0,rfl,by simp,.inl rfl⟩;obtain⟨r,w',σ',hr,hro,hsz,hos,hout,hn,hli,uF,hbk,hzero,h1c⟩:=uG (lab:=none) (P:=prog) (w:=w.alloc (.cells #[] 9)) (σ:=σ) (S:=[]) (β:=[]) (t:=24) (u:=24) (ty:=24) (e:=9) (size:=1) (es:=[]) (ys:=es) hg.live underlying24 (.inl ⟨_,underlying24⟩) ⟨[.d (.s [])],by kernel_rfl,rfl⟩ rfl (by decide +kernel) Ai (Dl (bU.mono hg.near hd) h1) (by simpa using ahn);rw[List.nil_append] at hro hbk;refine(Vr w w' a es.length c r hr).mono fun e w'' ⟨he,hw⟩=> ?_;subst hw;have hg2:Grow (w.alloc (.cells #[] 9)) σ w'' σ':=⟨hsz,hos,hout,fun b hb=>uF b hb (by simp[gV,owns,blk]),hli⟩;have hg3:=hg.trans hg2
  obtain⟨hS',hk,hst⟩:=hS.push (o:=.tok 1 es) (h:=r) hg3 hlen (hro _ _) (fun b hb=>by
   rcases hbk b hb with h|h
   ·simp[gV,owns,blk] at h
   ·exact Nat.le_trans hg.size h)
  refine⟨_,.c (.bG (0,bg.length) es),_,_,_,he,hS',hk,hst,⟨⟨(hro [] []).1,.tok 1 es,?_,fun aN es' e=> ?_⟩,h1c⟩,rfl,rfl⟩
  ·rw[bq]
  ·obtain⟨_,rfl⟩:=kL (lab:=none) e;exact⟨Nat.le_refl _,fun _=>by rw[<-hlen,bq]⟩
theorem bD.args{P:Program}{f:FuncId}{args args':List V}{S:Store}{post:V->Store->Prop}(h:bD P f args' S post)(hl:qm args args'):bD P f args S post:=h.weaken hl.length fun j x y hx hy w σ β v hr=>hl.at j x y hx hy w σ S β v hr
theorem mZ(n:Nat)(es:List (List D)):Less (.c (.jm n es)) (.c (.d (.sl es))):=fun w σ S β v h=>⟨uz h.1.1,h.2⟩
theorem lg(xs:List (List UInt8))(hx:xs.length<=1073741824)(n q:Nat)(bg:List Ab.Obj)(Ω:Store):bD prog 166 [.c (.d (.sl (xs.map encS)))] (bg::Ω)
 (fun r S'=>r=.c (.bG (0,bg.length+1) (lx (aP xs) q))/\S'=(bg++[.seed n,.eD n 2 (lx (aP xs) q)])::Ω):=by
 refine Vf (n) (rs:=[.tmp 2]) zmx func166 ntmps166 rfl rfl rfl rfl rfl ?_;simp -implicitDefEqProofs (disch:=omega) only[go_sem]
 (repeat(with_reducible refine And.intro ?_ ?_;focus first|omega|rfl|assumption|exact⟨_,rfl,rfl⟩|(simp;omega)|(simp;done)))
 refine qB n 3 2 [] (.inl rfl) (by simp) ?_
 refine aZ (ι:=Nat) zmx rfl [3,7,8,9] (fun i=>[.c (.bG (0,1) (lx ((aP xs).take i) q)),.c (.d (.sl (xs.map encS))),.c (.d (.i .i64 xs.length)),.c (.d (.i .i64 i))]) (fun i=>[.seed n,.eD n 2 (lx ((aP xs).take i) q)]::bg::Ω)
  (fun i=>i<=xs.length) (fun i=>xs.length-i) 0 rfl rfl (Nat.zero_le _) ?_
 intro i hi;simp -implicitDefEqProofs (disch:=omega) only[go_sem]
 with_reducible refine aA (fun hb=> ?_) (fun hb=> ?_)<;>have h:=hb<;>(try simp only[wf_preprocess] at h)<;>simp -implicitDefEqProofs (disch:=omega) only[go_sem,hb]<;>(repeat(with_reducible refine And.intro ?_ ?_;focus first|omega|rfl|assumption|exact⟨_,rfl,rfl⟩|(simp;omega)|(simp;done)))
 ·have hi':i<xs.length:=by omega
  have hw:i<(aP xs).length:=by rw[kC];exact hi'
  have hg:(aP xs)[i]=bn xs[i]:=by simp[aP]
  have hl:(lx ((aP xs).take i) q).length<=i:=by rw[gL];exact List.length_take_le _ _
  (repeat(with_reducible refine And.intro ?_ ?_;focus first|omega|rfl|assumption|exact⟨_,rfl,rfl⟩|(simp;omega)|(simp;done)))
  refine au (dR xs[i] (q+iB ((aP xs).take i))) ?_;simp -implicitDefEqProofs (disch:=omega) only[go_sem]
  (repeat(with_reducible refine And.intro ?_ ?_;focus first|omega|rfl|assumption|exact⟨_,rfl,rfl⟩|(simp;omega)|(simp;done)))
  have hs:=Fj hw q;rw[hg,zW] at hs;rw[hs];exact cK (i+1) (by omega) rfl rfl (by omega)
 ·have hi':i=(aP xs).length:=by rw[kC];omega
  rw[hi',List.take_length];exact⟨rfl,rfl⟩
theorem YF(base:Option Addr)(n:Nat)(h1:1<=n)(hn:n<=1073741824)(w:World):Calls prog 199 #[.slice base 0 0,.int .i64 n] w fun e w'=>
 ∃cap row,n<=cap/\row.size=cap*2/\e=.returned (.slice (some ⟨w.heap.size,0,none⟩) 0 cap)/\w'={w.drew with heap:=w.heap.push (.cells row 39)}:=by
 obtain⟨cap,row,hc,hr,hm⟩:=Ej (P:=prog) (w:=w) (t:=37) (u:=3) (ty:=37) (e:=39) (base:=base) (n:=n) underlying37 underlying3 rfl rfl h1 hn (by decide +kernel) rfl
 have h0:¬((n:Int)<0):=by omega
 have h2:(0:Int)<n:=by omega
 go_enter func199,ntmps199
 go_wp2_with (at_builtin;refine Lib.wpList_append_run _ rfl _ _ _ _ rfl _ _ rfl rfl _ _ hm ?_)
 all_goals go_ret
 exact⟨cap,hc,row,hr,rfl,rfl⟩
theorem Vs(base:Option Addr)(w:World):Calls prog 199 #[.slice base 0 0,.int .i64 0] w fun e w'=>e=.returned (.slice base 0 0)/\w'=w:=by
 go_enter func199,ntmps199
 go_wp2
 all_goals go_ret
 exact⟨rfl,rfl⟩
theorem YG(m n:Nat)(hn:n<=1073741824)(bg:List Ab.Obj)(Ω:Store):bD prog 199 [.c (.bA []),.c (.d (.i .i64 n))] (bg::Ω)
 (fun r S'=>r=.c (.bG (0,bg.length) [])/\S'=(bg++[.eD m 2 []])::Ω):=by
 refine⟨⟨_,func199,by kernel_rfl,by kernel_rfl⟩,fun w σ β vs hS hv=> ?_⟩;obtain⟨hl,h⟩:=hv;obtain⟨v0,e0,⟨h0,a,m',h00⟩,_⟩:=h 0 _ rfl;obtain⟨v1,e1,h1,_⟩:=h 1 _ rfl
 have h1':v1=.int .i64 n:=by cases h1;rfl
 subst h1'
 have hm:m'=0:=by rw[h00] at h0;cases h0<;>rfl
 subst hm;subst h00
 have hvs:vs=[.slice a 0 0,.int .i64 n]:=by
  match vs,hl,e0,e1 with
  |[x,y],_,e0,e1=>simp at e0 e1;rw[e0,e1]
 subst hvs
 cases β with
 |nil=>have:=hS.shape.1;simp at this
 |cons bo bΩ=>
 have hlen:bo.length=bg.length:=by
  obtain⟨gr,g1,g2⟩:=hS.shape.2 0 bg rfl;simp at g1;rw[g1];exact g2
 by_cases hz:n=0
 ·subst hz;refine(Vs a w).mono fun e w' ⟨he,hw⟩=> ?_;subst hw;obtain⟨hS',hk,hst⟩:=hS.push (o:=.eD m 2 []) (h:=.slice a 0 0) (Grow.refl hS.live) hlen ⟨h0,by simp,a,0,rfl,by simp,.inl ⟨rfl,.oh _ _ _⟩⟩ (fun b hb=>by cases a<;>simp[owns,blk] at hb);refine⟨_,.c (.bG (0,bg.length) []),_,_,_,he,hS',hk,hst,⟨⟨h0,.eD m 2 [],?_,fun aN es e=> ?_⟩,rfl⟩,rfl,rfl⟩
  ·rw[bq]
  ·obtain⟨_,rfl⟩:=kL (lab:=some m) e;exact⟨Nat.le_refl _,fun _=>by rw[<-hlen,bq]⟩
 ·refine(YF a n (by omega) hn w).mono fun e w' ⟨cap,row,hc,hr,he,hw⟩=> ?_;subst hw;have hσ:σ w.heap.size=0:=(hS.live w.heap.size).resolve_left (by omega)
  have hg:Grow w σ {w.drew with heap:=w.heap.push (.cells row 39)} σ:=by
   refine⟨by simp,rfl,rfl,fun b hb=>⟨?_,rfl⟩,fun b=> ?_⟩
   ·simp only[Array.getElem?_push];rw[if_neg (by omega)]
   ·rcases hS.live b with hb|hb
    ·left;simp;omega
    ·exact .inr hb
  obtain⟨hS',hk,hst⟩:=hS.push (o:=.eD m 2 []) (h:=.slice (some ⟨w.heap.size,0,none⟩) 0 cap) hg hlen ⟨.nil _ _,by simp,_,cap,rfl,by simp,.inr ⟨by simp;omega,w.heap.size,0,row,39,rfl,by simp,by simp[hσ],by omega⟩⟩ (fun b hb=>by
   simp only[owns,blk] at hb;split at hb
   ·cases hb
   ·cases hb;exact Nat.le_refl _)
  refine⟨_,.c (.bG (0,bg.length) []),_,_,_,he,hS',hk,hst,⟨⟨.nil _ _,.eD m 2 [],?_,fun aN es e=> ?_⟩,rfl⟩,rfl,rfl⟩
  ·rw[bq]
  ·obtain⟨_,rfl⟩:=kL (lab:=some m) e;exact⟨Nat.le_refl _,fun _=>by rw[<-hlen,bq]⟩
theorem Rt(m l:Nat)(xss:List (Nat×List (List D)))(hl:xss.length<=1073741824)(hr:∀p∈xss,∀r∈p.2,r.length=2)(hf:(xss.map (·.2)).flatten.length<=1073741824):aG prog 168 [.c (.jm l (xss.map fun p=>[.ol p.1 p.2]))] (.c (.d (.ol m (xss.map (·.2)).flatten))):=fun S=>by
 obtain⟨ys,hys⟩:∃ys:List (List (List D)),ys=xss.map (·.2):=⟨_,rfl⟩;rw[<-hys] at hf ⊢
 have hyl:ys.length=xss.length:=by rw[hys,List.length_map]
 have hyi:∀i (hi:i<xss.length),ys[i]'(by omega)=xss[i].2:=fun i hi=>by simp[hys]
 have H9:∀i (hi:i<xss.length),∀r∈xss[i].2,r.length=2:=fun i hi=>hr _ (List.getElem_mem hi);refine mX (m) (rs:=[.tmp 2]) zmx func168 ntmps168 rfl rfl rfl rfl rfl ?_;simp -implicitDefEqProofs (disch:=omega) only[go_sem]
 refine aZ (ι:=Nat) zmx rfl [0,3,9,10,11] (fun i=>[.c (.jm l (xss.map fun p=>[.ol p.1 p.2])),.c (.d (.i .i64 (ys.take i).flatten.length)),.c (.jm l (xss.map fun p=>[.ol p.1 p.2])),.c (.d (.i .i64 xss.length)),.c (.d (.i .i64 i))]) (fun _=>[.seed m]::S)
  (fun i=>i<=xss.length) (fun i=>xss.length-i) 0 rfl rfl (Nat.zero_le _) ?_
 rintro i p1;have hfi:=uh ys i;by_cases hi:i<xss.length
 ·have hs:=Cv ys (i:=i) (by omega);rw[hyi i hi] at hs;have abM:=uh ys (i+1);simp -implicitDefEqProofs (disch:=omega) only[go_sem]
  with_reducible refine aA (fun hb=> ?_) (fun hb=> ?_)<;>have h:=hb<;>(try simp only[wf_preprocess] at h)<;>simp -implicitDefEqProofs (disch:=omega) only[go_sem,hb]<;>(repeat(with_reducible refine And.intro ?_ ?_;focus first|omega|rfl|assumption|exact⟨_,rfl,rfl⟩|(simp;omega)|(simp;done)))
  ·(repeat(with_reducible refine And.intro ?_ ?_;focus first|omega|rfl|assumption|exact⟨_,rfl,rfl⟩|(simp;omega)|(simp;done)))
   with_reducible refine aA (fun hb=> ?_) (fun hb=> ?_)<;>have h:=hb<;>(try simp only[wf_preprocess] at h)<;>simp -implicitDefEqProofs (disch:=omega) only[go_sem,hb]<;>(repeat(with_reducible refine And.intro ?_ ?_;focus first|omega|rfl|assumption|exact⟨_,rfl,rfl⟩|(simp;omega)|(simp;done)))
   ·omega
   ·refine cK (i+1) (by omega) ?_ rfl (by omega);rw[hs];rfl
  ·omega
 have hi:i=xss.length:=by omega
 subst hi;simp -implicitDefEqProofs (disch:=omega) only[go_sem]
 with_reducible refine aA (fun hb=> ?_) (fun hb=> ?_)<;>have h:=hb<;>(try simp only[wf_preprocess] at h)<;>simp -implicitDefEqProofs (disch:=omega) only[go_sem,hb]<;>(repeat(with_reducible refine And.intro ?_ ?_;focus first|omega|rfl|assumption|exact⟨_,rfl,rfl⟩|(simp;omega)|(simp;done)))
 ·omega
 rw[<-hyl,List.take_length];clear hfi;refine bB rfl (YG m ys.flatten.length hf [.seed m] S) ?_;simp -implicitDefEqProofs (disch:=omega) only[go_sem]
 refine aZ (ι:=Nat) zmx rfl [6,25,26,27] (fun i=>[.c (.bG (0,1) (ys.take i).flatten),.c (.jm l (xss.map fun p=>[.ol p.1 p.2])),.c (.d (.i .i64 xss.length)),.c (.d (.i .i64 i))]) (fun i=>[.seed m,.eD m 2 (ys.take i).flatten]::S)
  (fun i=>i<=xss.length) (fun i=>xss.length-i) 0 (by rw[<-hyl];rfl) rfl (Nat.zero_le _) ?_
 rintro i p1;have hfi:=uh ys i;by_cases hi:i<xss.length
 ·have hs:=Cv ys (i:=i) (by omega);rw[hyi i hi] at hs;have abM:=uh ys (i+1)
  have e:(ys.take (i+1)).flatten=(ys.take i).flatten++xss[i].2:=by
   rw[List.take_succ_eq_append_getElem (by omega),List.flatten_append,hyi i hi];simp only[List.flatten_cons,List.flatten_nil,List.append_nil]
  have wV:=H9 i hi;simp -implicitDefEqProofs (disch:=omega) only[go_sem]
  with_reducible refine aA (fun hb=> ?_) (fun hb=> ?_)<;>have h:=hb<;>(try simp only[wf_preprocess] at h)<;>simp -implicitDefEqProofs (disch:=omega) only[go_sem,hb]<;>(repeat(with_reducible refine And.intro ?_ ?_;focus first|omega|rfl|assumption|exact⟨_,rfl,rfl⟩|(simp;omega)|(simp;done)))
  ·(repeat(with_reducible refine And.intro ?_ ?_;focus first|omega|rfl|assumption|exact⟨_,rfl,rfl⟩|(simp;omega)|(simp;done)))
   exact cK (i+1) (by omega) (by rw[e];rfl) (by rw[e]) (by omega)
  ·omega
 ·have hi:i=ys.length:=by omega
  simp -implicitDefEqProofs (disch:=omega) only[go_sem]
  with_reducible refine aA (fun hb=> ?_) (fun hb=> ?_)<;>have h:=hb<;>(try simp only[wf_preprocess] at h)<;>simp -implicitDefEqProofs (disch:=omega) only[go_sem,hb]<;>(repeat(with_reducible refine And.intro ?_ ?_;focus first|omega|rfl|assumption|exact⟨_,rfl,rfl⟩|(simp;omega)|(simp;done)))
  ·omega
  rw[hi,List.take_length]
theorem iV{x:ay}{k:Int}(h:x.aL=k):gF x.aL x.bE x.fName x.fType=gF k x.bE x.fName x.fType:=by rw[h]
theorem LK{l:List ay}{t:ay}(h:t∈l):t.sz<=qx l:=by
 rw[<-GN];exact fI (List.mem_map_of_mem h)
theorem JA{l:List aM}{t:aM}(h:t∈l):t.sz<=xR l:=by
 rw[<-GQ];exact fI (List.mem_map_of_mem h)
theorem Ay:∀{xs:List ay},jK xs=true<->∀t∈xs,ig t=true
 |[]=>by simp[jK]
 |t::ts=>by simp[jK,Ay (xs:=ts)]
theorem Cw:∀{xs:List aM},l6 xs=true<->∀t∈xs,rR t=true
 |[]=>by simp[l6]
 |t::ts=>by simp[l6,Cw (xs:=ts)]
theorem jE{x:ay}(h1:x.aL≠1)(h2:x.aL≠2)(h3:x.aL≠3)(h:x.aL=4\/x.aL=5\/x.aL=6\/x.aL=8\/x.aL=9\/x.aL=10\/x.aL=11\/x.aL=12):
 dZ x=dA (gF x.aL x.bE x.fName x.fType++x.fArgs.map dZ):=by rw[Ei,if_neg h1,if_neg h2,if_neg h3,if_pos h,List.append_nil]
theorem JB:∀N:Nat,∀x:ay,SizeOf.sizeOf x<N->∀n:Nat,ig x=true->x.sz<=4194304->aG prog 101 [x.v] (.agg [.d (.s (dZ x).aQ),.d (.ol n (lx (dZ x).aj (n+1)))])
 |0=>fun x h=>by omega
 |N+1=>by
  have ih:=JB N;intro x hn n hok hsz S;have je:=ay.gZ x;have yt:=ay.qC x;have hzz:=sV x;rw[tY,Bool.and_eq_true,Bool.and_eq_true] at hok;obtain⟨hfi,hoa,Pm⟩:=hok;have hfi:=iX hfi;have hoa:=Ay.1 hoa;have Pm:=Cw.1 Pm;obtain⟨qa,vB⟩:∃qa,qa=n+1+iB (gF x.aL x.bE x.fName x.fType):=⟨_,rfl⟩;obtain⟨T,hT⟩:∃T:Nat->List (List D),T=fun i=>lx ((x.fArgs.map dZ).take i) qa:=⟨_,rfl⟩
  have hT0:T 0=[]:=by rw[hT];rfl
  have mF:∀i,(T i).length<=i:=fun i=>by rw[hT];simp only[gL];exact List.length_take_le _ _
  have hTr:∀i,∀r∈T i,r.length=2:=fun i=>by rw[hT];exact kY
  have hTs:∀i (hi:i<x.fArgs.length),T i++[[.s (dZ x.fArgs[i]).aQ,.ol (qa+iB ((x.fArgs.map dZ).take i)) (lx (dZ x.fArgs[i]).aj (qa+iB ((x.fArgs.map dZ).take i)+1))]]=T (i+1):=fun i hi=>by
   have:=Ph (l:=x.fArgs.map dZ) (i:=i) (by rw[List.length_map];exact hi) qa;rw[List.getElem_map] at this;rw[hT];exact this
  have hTe:T x.fArgs.length=lx (x.fArgs.map dZ) qa:=by rw[hT];simp only;rw[List.take_of_length_le (by simp)]
  clear hT;refine mX (n) (rs:=[.cell 2 39]) zmx func101 ntmps101 rfl rfl rfl rfl rfl ?_;simp -implicitDefEqProofs (disch:=omega) only[go_sem]
  (repeat(with_reducible refine And.intro ?_ ?_;focus first|omega|rfl|assumption|exact⟨_,rfl,rfl⟩|(simp;omega)|(simp;done)))
  refine qB n 3 2 [] (.inl rfl) (by simp) ?_
  refine aZ (ι:=Nat) zmx rfl [1,2,3,11,12,13] (fun i=>[.c (.ptr (0,1) 0),.c (.ptr (0,2) 0),.c (.bG (0,3) (T i)),.c (.d (.sl (x.fArgs.map ay.enc))),.c (.d (.i .i64 x.fArgs.length)),.c (.d (.i .i64 i))])
   (fun i=>[.seed n,.box [.d (.i .i64 x.aL),.d (.s x.bE),.d (.s x.fName),.d (.i .i64 x.fN),.d (.i .i64 x.fType.aL),.d (.s x.fType.fName),.d (.sl (x.fType.fArgs.map ak.enc)),.d (.sl (x.fArgs.map ay.enc)),.d (.sl (x.aK.map aM.enc))],.box [.d (.s []),.bA []],.eD n 2 (T i)]::S)
   (fun i=>i<=x.fArgs.length) (fun i=>x.fArgs.length-i) 0 (by rw[hT0];rfl) (by rw[hT0];rfl) (Nat.zero_le _) ?_
  intro i hi;have hl:=mF i;simp -implicitDefEqProofs (disch:=omega) only[go_sem]
  with_reducible refine aA (fun hb=> ?_) (fun hb=> ?_)<;>have h:=hb<;>(try simp only[wf_preprocess] at h)<;>simp -implicitDefEqProofs (disch:=omega) only[go_sem,hb]<;>(repeat(with_reducible refine And.intro ?_ ?_;focus first|omega|rfl|assumption|exact⟨_,rfl,rfl⟩|(simp;omega)|(simp;done)))
  ·have hi':i<x.fArgs.length:=by omega
   have hm:=List.getElem_mem hi';have hez:=LK hm;have hs:=hTs i hi'
   (repeat(with_reducible refine And.intro ?_ ?_;focus first|omega|rfl|assumption|exact⟨_,rfl,rfl⟩|(simp;omega)|(simp;done)))
   refine au (ih x.fArgs[i] (by have:=List.sizeOf_lt_of_mem hm;omega) (qa+iB ((x.fArgs.map dZ).take i)) (hoa _ hm) (by omega)) ?_;simp -implicitDefEqProofs (disch:=omega) only[go_sem]
   (repeat(with_reducible refine And.intro ?_ ?_;focus first|omega|rfl|assumption|exact⟨_,rfl,rfl⟩|(simp;omega)|(simp;done)))
   rw[hs];exact dD 4 (by decide) (i+1) (by omega) rfl rfl rfl rfl (by omega)
  have hi':i=x.fArgs.length:=by omega
  subst hi';clear hTs hi h hb;have hTT:=hTr x.fArgs.length;have hxe:=Ei x
  with_reducible refine aA (fun hb=> ?_) (fun hb=> ?_)<;>have h:=hb<;>(try simp only[wf_preprocess] at h)<;>simp -implicitDefEqProofs (disch:=omega) only[go_sem,hb]<;>(repeat(with_reducible refine And.intro ?_ ?_;focus first|omega|rfl|assumption|exact⟨_,rfl,rfl⟩|(simp;omega)|(simp;done)))
  ·rw[if_pos h] at hxe;rw[hxe];have hb:=hfi.2.2.2.1;rw[if_pos h] at hb;refine au (GR x.fN (by omega) (by omega)) ?_;simp -implicitDefEqProofs (disch:=omega) only[go_sem];refine au (dR _ n) ?_;simp -implicitDefEqProofs (disch:=omega) only[go_sem];rfl
  have k1:=h;rw[if_neg h] at hxe
  with_reducible refine aA (fun hb=> ?_) (fun hb=> ?_)<;>have h:=hb<;>(try simp only[wf_preprocess] at h)<;>simp -implicitDefEqProofs (disch:=omega) only[go_sem,hb]<;>(repeat(with_reducible refine And.intro ?_ ?_;focus first|omega|rfl|assumption|exact⟨_,rfl,rfl⟩|(simp;omega)|(simp;done)))
  ·rw[if_pos h] at hxe;rw[hxe]
   with_reducible refine aA (fun hb=> ?_) (fun hb=> ?_)<;>have h:=hb<;>(try simp only[wf_preprocess] at h)<;>simp -implicitDefEqProofs (disch:=omega) only[go_sem,hb]<;>(repeat(with_reducible refine And.intro ?_ ?_;focus first|omega|rfl|assumption|exact⟨_,rfl,rfl⟩|(simp;omega)|(simp;done)))
   ·rw[if_pos h];refine au (dR _ n) ?_;simp -implicitDefEqProofs (disch:=omega) only[go_sem];rfl
   ·rw[if_neg h];refine au (dR _ n) ?_;simp -implicitDefEqProofs (disch:=omega) only[go_sem];rfl
  have k2:=h;rw[if_neg h] at hxe
  with_reducible refine aA (fun hb=> ?_) (fun hb=> ?_)<;>have h:=hb<;>(try simp only[wf_preprocess] at h)<;>simp -implicitDefEqProofs (disch:=omega) only[go_sem,hb]<;>(repeat(with_reducible refine And.intro ?_ ?_;focus first|omega|rfl|assumption|exact⟨_,rfl,rfl⟩|(simp;omega)|(simp;done)))
  ·rw[if_pos h] at hxe;rw[hxe];refine au (dR _ n) ?_;simp -implicitDefEqProofs (disch:=omega) only[go_sem];rfl
  have k3:=h;clear hxe
  with_reducible refine aA (fun hb=> ?_) (fun hb=> ?_)<;>have h:=hb<;>(try simp only[wf_preprocess] at h)<;>simp -implicitDefEqProofs (disch:=omega) only[go_sem,hb]<;>(repeat(with_reducible refine And.intro ?_ ?_;focus first|omega|rfl|assumption|exact⟨_,rfl,rfl⟩|(simp;omega)|(simp;done)))
  ·have hx:=jE k1 k2 k3 (by omega)
   have hh:gF x.aL x.bE x.fName x.fType=aP [lW,x.fName]:=by rw[iV h];rfl
   rw[hh] at hx vB
   (repeat(with_reducible refine And.intro ?_ ?_;focus first|omega|rfl|assumption|exact⟨_,rfl,rfl⟩|(simp;omega)|(simp;done)))
   refine bB rfl (bD.args (lg [lW,x.fName] (by simp) n (n+1) _ _) (.cons (mZ n _) .nil)) ?_
   have LM:(lx (aP [lW,x.fName]) (n+1)).length=2:=by rw[gL];rfl
   have LP:=kY (l:=aP [lW,x.fName]) (n:=n+1);simp -implicitDefEqProofs (disch:=omega) only[go_sem]
   (repeat(with_reducible refine And.intro ?_ ?_;focus first|omega|rfl|assumption|exact⟨_,rfl,rfl⟩|(simp;omega)|(simp;done)))
   refine bB rfl (jU 0 5 _ _) ?_;simp -implicitDefEqProofs (disch:=omega) only[go_sem];rw[hx,hTe,vB,eu,dX,kE]
  have k4:=h
  with_reducible refine aA (fun hb=> ?_) (fun hb=> ?_)<;>have h:=hb<;>(try simp only[wf_preprocess] at h)<;>simp -implicitDefEqProofs (disch:=omega) only[go_sem,hb]<;>(repeat(with_reducible refine And.intro ?_ ?_;focus first|omega|rfl|assumption|exact⟨_,rfl,rfl⟩|(simp;omega)|(simp;done)))
  ·have hx:=jE k1 k2 k3 (by omega)
   have hh:gF x.aL x.bE x.fName x.fType=aP [gJ,x.bE,x.fName]:=by rw[iV h];rfl
   rw[hh] at hx vB
   (repeat(with_reducible refine And.intro ?_ ?_;focus first|omega|rfl|assumption|exact⟨_,rfl,rfl⟩|(simp;omega)|(simp;done)))
   refine bB rfl (bD.args (lg [gJ,x.bE,x.fName] (by simp) n (n+1) _ _) (.cons (mZ n _) .nil)) ?_
   have LM:(lx (aP [gJ,x.bE,x.fName]) (n+1)).length=3:=by rw[gL];rfl
   have LP:=kY (l:=aP [gJ,x.bE,x.fName]) (n:=n+1);simp -implicitDefEqProofs (disch:=omega) only[go_sem]
   (repeat(with_reducible refine And.intro ?_ ?_;focus first|omega|rfl|assumption|exact⟨_,rfl,rfl⟩|(simp;omega)|(simp;done)))
   refine bB rfl (jU 0 5 _ _) ?_;simp -implicitDefEqProofs (disch:=omega) only[go_sem];rw[hx,hTe,vB,eu,dX,kE]
  have k5:=h
  with_reducible refine aA (fun hb=> ?_) (fun hb=> ?_)<;>have h:=hb<;>(try simp only[wf_preprocess] at h)<;>simp -implicitDefEqProofs (disch:=omega) only[go_sem,hb]<;>(repeat(with_reducible refine And.intro ?_ ?_;focus first|omega|rfl|assumption|exact⟨_,rfl,rfl⟩|(simp;omega)|(simp;done)))
  ·have hx:=jE k1 k2 k3 (by omega)
   have hh:gF x.aL x.bE x.fName x.fType=aP [oC,x.fName]:=by rw[iV h];rfl
   rw[hh] at hx vB
   (repeat(with_reducible refine And.intro ?_ ?_;focus first|omega|rfl|assumption|exact⟨_,rfl,rfl⟩|(simp;omega)|(simp;done)))
   refine bB rfl (bD.args (lg [oC,x.fName] (by simp) n (n+1) _ _) (.cons (mZ n _) .nil)) ?_
   have LM:(lx (aP [oC,x.fName]) (n+1)).length=2:=by rw[gL];rfl
   have LP:=kY (l:=aP [oC,x.fName]) (n:=n+1);simp -implicitDefEqProofs (disch:=omega) only[go_sem]
   (repeat(with_reducible refine And.intro ?_ ?_;focus first|omega|rfl|assumption|exact⟨_,rfl,rfl⟩|(simp;omega)|(simp;done)))
   refine bB rfl (jU 0 5 _ _) ?_;simp -implicitDefEqProofs (disch:=omega) only[go_sem];rw[hx,hTe,vB,eu,dX,kE]
  have k6:=h
  with_reducible refine aA (fun hb=> ?_) (fun hb=> ?_)<;>have h:=hb<;>(try simp only[wf_preprocess] at h)<;>simp -implicitDefEqProofs (disch:=omega) only[go_sem,hb]<;>(repeat(with_reducible refine And.intro ?_ ?_;focus first|omega|rfl|assumption|exact⟨_,rfl,rfl⟩|(simp;omega)|(simp;done)))
  ·have hx:=Ei x;rw[if_neg k1,if_neg k2,if_neg k3,if_neg (by omega)] at hx
   have hh:gF x.aL x.bE x.fName x.fType=aP [jf]:=by rw[iV h];rfl
   rw[hh] at hx vB;obtain⟨B,hB⟩:∃B:Nat->List (List D),B=fun i=>lx (x.fArgs.map dZ++(x.aK.map vw).take i) qa:=⟨_,rfl⟩;obtain⟨L,hL⟩:∃L:Nat->Nat,L=fun i=>qa+iB (x.fArgs.map dZ++(x.aK.map vw).take i):=⟨_,rfl⟩
   have hB0:T x.fArgs.length=B 0:=by rw[hTe,hB];simp only[List.take_zero,List.append_nil]
   have hBl:∀i,(B i).length<=i+x.fArgs.length:=fun i=>by
    rw[hB];simp only[gL,List.length_append,List.length_map];have:=List.length_take_le i (x.aK.map vw);omega
   have hBr:∀i,∀r∈B i,r.length=2:=fun i=>by rw[hB];exact kY
   have SA:∀i (hi:i<x.aK.length),B i++[[.s [],.ol (L i) (lx ([bn x.aK[i].bS]++aP x.aK[i].aX++[dZ x.aK[i].fBody]) (L i+1))]]=B (i+1):=fun i hi=>by
    have:=Cm (base:=x.fArgs.map dZ) (l:=x.aK.map vw) (i:=i) (by rw[List.length_map];exact hi) qa;rw[List.getElem_map,YB,eu,dX] at this;rw[hB,hL];exact this
   have hBe:B x.aK.length=lx (x.fArgs.map dZ++x.aK.map vw) qa:=by rw[hB];simp only;rw[List.take_of_length_le (by simp)]
   clear hB hL hTT
   (repeat(with_reducible refine And.intro ?_ ?_;focus first|omega|rfl|assumption|exact⟨_,rfl,rfl⟩|(simp;omega)|(simp;done)))
   refine bB rfl (bD.args (lg [jf] (by simp) n (n+1) _ _) (.cons (mZ n _) .nil)) ?_
   have LM:(lx (aP [jf]) (n+1)).length=1:=by rw[gL];rfl
   have LP:=kY (l:=aP [jf]) (n:=n+1);simp -implicitDefEqProofs (disch:=omega) only[go_sem];rw[hB0];obtain⟨HD,hHD⟩:∃HD,HD=lx (aP [jf]) (n+1):=⟨_,rfl⟩;rw[<-hHD] at LM LP ⊢
   refine aZ (ι:=Nat) zmx rfl [2,3,6,69,70,71] (fun i=>[.c (.ptr (0,2) 0),.c (.bG (0,3) (B i)),.c (.bG (0,5) HD),.c (.d (.sl (x.aK.map aM.enc))),.c (.d (.i .i64 x.aK.length)),.c (.d (.i .i64 i))])
    (fun i=>[.seed n,.box [.d (.i .i64 x.aL),.d (.s x.bE),.d (.s x.fName),.d (.i .i64 x.fN),.d (.i .i64 x.fType.aL),.d (.s x.fType.fName),.d (.sl (x.fType.fArgs.map ak.enc)),.d (.sl (x.fArgs.map ay.enc)),.d (.sl (x.aK.map aM.enc))],.box [.d (.s []),.bA []],.eD n 2 (B i),.seed n,.eD n 2 HD]::S)
    (fun i=>i<=x.aK.length) (fun i=>x.aK.length-i) 0 rfl rfl (Nat.zero_le _) ?_
   intro i hi;have hl:=hBl i;have hr:=hBr i;simp -implicitDefEqProofs (disch:=omega) only[go_sem]
   with_reducible refine aA (fun hb=> ?_) (fun hb=> ?_)<;>have h:=hb<;>(try simp only[wf_preprocess] at h)<;>simp -implicitDefEqProofs (disch:=omega) only[go_sem,hb]<;>(repeat(with_reducible refine And.intro ?_ ?_;focus first|omega|rfl|assumption|exact⟨_,rfl,rfl⟩|(simp;omega)|(simp;done)))
   ·have hi':i<x.aK.length:=by omega
    have hm:=List.getElem_mem hi';have hez:=JA hm;have hea:=wU x.aK[i];have hs:=SA i hi';have hak:=Pm _ hm;rw[oz,Bool.and_eq_true,Bool.and_eq_true] at hak;have hls:=List.sizeOf_lt_of_mem hm;have hlb:=aM.oO x.aK[i]
    (repeat(with_reducible refine And.intro ?_ ?_;focus first|omega|rfl|assumption|exact⟨_,rfl,rfl⟩|(simp;omega)|(simp;done)))
    refine sw (xG [x.aK[i].bS] (by simp) 0 (L i+1)) (.cons (mZ n _) .nil) ?_;simp -implicitDefEqProofs (disch:=omega) only[go_sem];refine au (xG x.aK[i].aX (by omega) 0 (L i+1+iB (aP [x.aK[i].bS]))) ?_;simp -implicitDefEqProofs (disch:=omega) only[go_sem];refine au (ih x.aK[i].fBody (by omega) (L i+1+iB (aP [x.aK[i].bS]++aP x.aK[i].aX)) hak.2.2 (by omega)) ?_;simp -implicitDefEqProofs (disch:=omega) only[go_sem]
    (repeat(with_reducible refine And.intro ?_ ?_;focus first|omega|rfl|assumption|exact⟨_,rfl,rfl⟩|(simp;omega)|(simp;done)))
    refine au (Rt (L i) n [(0,lx (aP [x.aK[i].bS]) (L i+1)),(0,lx (aP x.aK[i].aX) (L i+1+iB (aP [x.aK[i].bS]))),(n,[[.s (dZ x.aK[i].fBody).aQ,.ol (L i+1+iB (aP [x.aK[i].bS]++aP x.aK[i].aX)) (lx (dZ x.aK[i].fBody).aj (L i+1+iB (aP [x.aK[i].bS]++aP x.aK[i].aX)+1))]])] (by simp) ?_ ?_) ?_
    ·intro p hp;simp only[List.mem_cons,List.not_mem_nil,or_false] at hp;rcases hp with rfl|rfl|rfl
     ·exact kY
     ·exact kY
     ·simp
    ·simp only[List.map_cons,List.map_nil,List.flatten_cons,List.flatten_nil,List.length_append,gL,kC,List.length_cons,List.length_nil];omega
    simp -implicitDefEqProofs (disch:=omega) only[go_sem];refine au (mP _) ?_;simp -implicitDefEqProofs (disch:=omega) only[go_sem]
    (repeat(with_reducible refine And.intro ?_ ?_;focus first|omega|rfl|assumption|exact⟨_,rfl,rfl⟩|(simp;omega)|(simp;done)))
    have hrow:[lx (aP [x.aK[i].bS]) (L i+1),lx (aP x.aK[i].aX) (L i+1+iB (aP [x.aK[i].bS])),[[.s (dZ x.aK[i].fBody).aQ,.ol (L i+1+iB (aP [x.aK[i].bS]++aP x.aK[i].aX)) (lx (dZ x.aK[i].fBody).aj (L i+1+iB (aP [x.aK[i].bS]++aP x.aK[i].aX)+1))]]].flatten=lx ([bn x.aK[i].bS]++aP x.aK[i].aX++[dZ x.aK[i].fBody]) (L i+1):=by
     have e1:[bn x.aK[i].bS]=aP [x.aK[i].bS]:=rfl;rw[e1,kE,kE,nM (dZ x.aK[i].fBody) [],qw,kD (dZ x.aK[i].fBody)];simp only[List.flatten_cons,List.flatten_nil,List.append_nil,List.append_assoc]
    rw[hrow,hs];exact dD 6 (by decide) (i+1) (by omega) rfl rfl rfl rfl (by omega)
   ·have hi':i=x.aK.length:=by omega
    subst hi';have hr2:=hBr x.aK.length
    (repeat(with_reducible refine And.intro ?_ ?_;focus first|omega|rfl|assumption|exact⟨_,rfl,rfl⟩|(simp;omega)|(simp;done)))
    refine bB rfl (jU 0 5 _ _) ?_;simp -implicitDefEqProofs (disch:=omega) only[go_sem];rw[hx,hBe,vB,hHD,eu,dX,List.append_assoc,kE (aP [jf])]
  have k7:=h
  with_reducible refine aA (fun hb=> ?_) (fun hb=> ?_)<;>have h:=hb<;>(try simp only[wf_preprocess] at h)<;>simp -implicitDefEqProofs (disch:=omega) only[go_sem,hb]<;>(repeat(with_reducible refine And.intro ?_ ?_;focus first|omega|rfl|assumption|exact⟨_,rfl,rfl⟩|(simp;omega)|(simp;done)))
  ·have hx:=jE k1 k2 k3 (by omega)
   have hh:gF x.aL x.bE x.fName x.fType=aP [oD,x.fName]:=by rw[iV h];rfl
   rw[hh] at hx vB
   (repeat(with_reducible refine And.intro ?_ ?_;focus first|omega|rfl|assumption|exact⟨_,rfl,rfl⟩|(simp;omega)|(simp;done)))
   refine bB rfl (bD.args (lg [oD,x.fName] (by simp) n (n+1) _ _) (.cons (mZ n _) .nil)) ?_
   have LM:(lx (aP [oD,x.fName]) (n+1)).length=2:=by rw[gL];rfl
   have LP:=kY (l:=aP [oD,x.fName]) (n:=n+1);simp -implicitDefEqProofs (disch:=omega) only[go_sem]
   (repeat(with_reducible refine And.intro ?_ ?_;focus first|omega|rfl|assumption|exact⟨_,rfl,rfl⟩|(simp;omega)|(simp;done)))
   refine bB rfl (jU 0 5 _ _) ?_;simp -implicitDefEqProofs (disch:=omega) only[go_sem];rw[hx,hTe,vB,eu,dX,kE]
  have k8:=h
  with_reducible refine aA (fun hb=> ?_) (fun hb=> ?_)<;>have h:=hb<;>(try simp only[wf_preprocess] at h)<;>simp -implicitDefEqProofs (disch:=omega) only[go_sem,hb]<;>(repeat(with_reducible refine And.intro ?_ ?_;focus first|omega|rfl|assumption|exact⟨_,rfl,rfl⟩|(simp;omega)|(simp;done)))
  ·have hx:=jE k1 k2 k3 (by omega)
   have hh:gF x.aL x.bE x.fName x.fType=aP [sD]:=by rw[iV h];rfl
   rw[hh] at hx vB
   (repeat(with_reducible refine And.intro ?_ ?_;focus first|omega|rfl|assumption|exact⟨_,rfl,rfl⟩|(simp;omega)|(simp;done)))
   refine bB rfl (bD.args (lg [sD] (by simp) n (n+1) _ _) (.cons (mZ n _) .nil)) ?_
   have LM:(lx (aP [sD]) (n+1)).length=1:=by rw[gL];rfl
   have LP:=kY (l:=aP [sD]) (n:=n+1);simp -implicitDefEqProofs (disch:=omega) only[go_sem]
   (repeat(with_reducible refine And.intro ?_ ?_;focus first|omega|rfl|assumption|exact⟨_,rfl,rfl⟩|(simp;omega)|(simp;done)))
   refine bB rfl (jU 0 5 _ _) ?_;simp -implicitDefEqProofs (disch:=omega) only[go_sem];rw[hx,hTe,vB,eu,dX,kE]
  have k9:=h
  with_reducible refine aA (fun hb=> ?_) (fun hb=> ?_)<;>have h:=hb<;>(try simp only[wf_preprocess] at h)<;>simp -implicitDefEqProofs (disch:=omega) only[go_sem,hb]<;>(repeat(with_reducible refine And.intro ?_ ?_;focus first|omega|rfl|assumption|exact⟨_,rfl,rfl⟩|(simp;omega)|(simp;done)))
  ·have hx:=jE k1 k2 k3 (by omega)
   have hh:gF x.aL x.bE x.fName x.fType=aP [x.fName]:=by rw[iV h];rfl
   rw[hh] at hx vB
   (repeat(with_reducible refine And.intro ?_ ?_;focus first|omega|rfl|assumption|exact⟨_,rfl,rfl⟩|(simp;omega)|(simp;done)))
   refine bB rfl (bD.args (lg [x.fName] (by simp) n (n+1) _ _) (.cons (mZ n _) .nil)) ?_
   have LM:(lx (aP [x.fName]) (n+1)).length=1:=by rw[gL];rfl
   have LP:=kY (l:=aP [x.fName]) (n:=n+1);simp -implicitDefEqProofs (disch:=omega) only[go_sem]
   (repeat(with_reducible refine And.intro ?_ ?_;focus first|omega|rfl|assumption|exact⟨_,rfl,rfl⟩|(simp;omega)|(simp;done)))
   refine bB rfl (jU 0 5 _ _) ?_;simp -implicitDefEqProofs (disch:=omega) only[go_sem];rw[hx,hTe,vB,eu,dX,kE]
  have k10:=h
  with_reducible refine aA (fun hb=> ?_) (fun hb=> ?_)<;>have h:=hb<;>(try simp only[wf_preprocess] at h)<;>simp -implicitDefEqProofs (disch:=omega) only[go_sem,hb]<;>(repeat(with_reducible refine And.intro ?_ ?_;focus first|omega|rfl|assumption|exact⟨_,rfl,rfl⟩|(simp;omega)|(simp;done)))
  ·have hx:=jE k1 k2 k3 (by omega)
   have hh:gF x.aL x.bE x.fName x.fType=aP [lX,x.bE]:=by rw[iV h];rfl
   rw[hh] at hx vB
   (repeat(with_reducible refine And.intro ?_ ?_;focus first|omega|rfl|assumption|exact⟨_,rfl,rfl⟩|(simp;omega)|(simp;done)))
   refine bB rfl (bD.args (lg [lX,x.bE] (by simp) n (n+1) _ _) (.cons (mZ n _) .nil)) ?_
   have LM:(lx (aP [lX,x.bE]) (n+1)).length=2:=by rw[gL];rfl
   have LP:=kY (l:=aP [lX,x.bE]) (n:=n+1);simp -implicitDefEqProofs (disch:=omega) only[go_sem]
   (repeat(with_reducible refine And.intro ?_ ?_;focus first|omega|rfl|assumption|exact⟨_,rfl,rfl⟩|(simp;omega)|(simp;done)))
   refine bB rfl (jU 0 5 _ _) ?_;simp -implicitDefEqProofs (disch:=omega) only[go_sem];rw[hx,hTe,vB,eu,dX,kE]
  have k11:=h
  with_reducible refine aA (fun hb=> ?_) (fun hb=> ?_)<;>have h:=hb<;>(try simp only[wf_preprocess] at h)<;>simp -implicitDefEqProofs (disch:=omega) only[go_sem,hb]<;>(repeat(with_reducible refine And.intro ?_ ?_;focus first|omega|rfl|assumption|exact⟨_,rfl,rfl⟩|(simp;omega)|(simp;done)))
  ·have hx:=jE k1 k2 k3 (by omega)
   have hh:gF x.aL x.bE x.fName x.fType=[bn pq,dK x.fType]:=by rw[iV h];rfl
   rw[hh] at hx vB;have hty:=hfi.2.2.2.2.1;rw[if_pos h] at hty;refine au (dR _ (n+1)) ?_;simp -implicitDefEqProofs (disch:=omega) only[go_sem];refine au (yA x.fType (n+1+1) (uT hty) (by omega)) ?_;simp -implicitDefEqProofs (disch:=omega) only[go_sem]
   (repeat(with_reducible refine And.intro ?_ ?_;focus first|omega|rfl|assumption|exact⟨_,rfl,rfl⟩|(simp;omega)|(simp;done)))
   refine bB rfl (jU 0 4 _ _) ?_;simp -implicitDefEqProofs (disch:=omega) only[go_sem];rw[hx,hTe,vB,eu,dX,kE];simp only[nM,qw,kD,kP,kQ,mY,Vl,YA,pq,List.cons_append,List.nil_append]
  ·have:=hfi.1;omega
theorem Cx(x:ay)(n:Nat)(hok:ig x=true)(hsz:x.sz<=4194304):aG prog 101 [x.v] (.agg [.d (.s (dZ x).aQ),.d (.ol n (lx (dZ x).aj (n+1)))]):=JB _ x (Nat.lt_succ_self _) n hok hsz
end Go.Ab