/-
  SEVERAL TEXTS IN ONE (merged by program): contracts and models, each with its own heading.
-/
import Derived.Test.YtlaaknnkeidlbaaGreatDoorPartDedbB
import Derived.Carry
import Derived.WideKeyArgs
import Derived.ProofKit
import Derived.OpenShut
import Derived.WalkKit
import Derived.Test.YtlaaknnkeidlbaaGreatDoorChecked
import Derived.Eval
import Derived.KernelRfl
open Go.Proofs Go.Proofs.Tryz
theorem Go.Ab.zmx:Go.Proofs.Tryz.prog.follows .mixedOrders=true:=Go.Proofs.Tryz.checked.mixed
open Go Go.Ab in
theorem Go.Ab.zcx{N:Nat}{S:Store}{f:FuncId}{fn:Func}{c:Code}{args:List V}{post:V->Store->Prop}(rs:List ResultVar)(hf:Tryz.prog.funcs[f]? =some fn)(hN:fn.ntmps=N)(h:CW Tryz.prog N c (Vd Tryz.prog rs post) ⟨jR (args.map (V.up 1)) 0,[]::S⟩)(hb:fn.body=some c:=by exact rfl)(hn:(fn.name== "runtime.NumGoroutine")=false:=by exact rfl)(hr:fn.results.toList=rs:=by exact rfl)(hl:Nat.ble args.length N=true:=by exact rfl)(hok:codeOk N c=true:=by exact rfl):bL Tryz.prog f args S post:=aC (rs:=rs) zmx hf hN hb hn hr hl hok h
set_option linter.unusedSimpArgs false
set_option linter.unusedVariables false
set_option maxRecDepth 4000
namespace Go.Ab
theorem Fg(n:Int)(h: -9223372036854775808<=n/\n<=9223372036854775807):IntKind.i64.wrap n=n:=IntWalk.i64_in n h
theorem wrap_u8(n:Int)(h:0<=n/\n<=255):IntKind.u8.wrap n=n:=IntWalk.u8_in n h
theorem getD_map{α β:Type}(f:α->β)(l:List α)(i:Nat)(d:β)(h:i<l.length):(l.map f).getD i d=f l[i]:=by
 simp[List.getD,h]
theorem Ve{k:IntKind}{n:Int}:yJ (.int k n)=.c (.d (.i k n)):=rfl
theorem RG{b:Bool}:yJ (.bool b)=.c (.d (.b b)):=rfl
theorem Vf{l:List UInt8}:yJ (.string ⟨⟨l⟩⟩)=.c (.d (.s l)):=rfl
theorem RH:yJ (.slice none 0 0)=.c (.bB []):=rfl
theorem abh{tm:List (Nat×V)}{S:Store}{d:Nat}{v:V}:St.put ⟨tm,S⟩ (some d) v=⟨(d,v)::tm,S⟩:=rfl
theorem abj{tm:List (Nat×V)}{S:Store}{v:V}:St.put ⟨tm,S⟩ none v=⟨tm,S⟩:=rfl
theorem agr{a b:V}:ES (.c (.d (.b true))) a b=(True,a):=rfl
theorem agt{a b:V}:ES (.c (.d (.b false))) a b=(True,b):=rfl
theorem RI{tm:List (Nat×V)}{own:List Obj}{Ω:Store}{dst:Option Nat}{o:Obj}{mk:Key->V}{K:St->Prop}:
 newObj ⟨tm,own::Ω⟩ dst o mk K=K (St.put ⟨tm,(own++[o])::Ω⟩ dst (mk (0,own.length))):=rfl
theorem agu{x:C}{s:St}{dst:Option Nat}{K:St->Prop}:yP (.c x) s dst K=newObj s dst (.box [x]) (fun k=>.c (.ptr k 0)) K:=rfl
theorem abk{x:List C}{s:St}{dst:Option Nat}{K:St->Prop}:yP (.agg x) s dst K=newObj s dst (.box x) (fun k=>.c (.ptr k 0)) K:=rfl
theorem abl{α β:Type}{f:α->Option β}:([]:List α).mapM f=some []:=by simp
theorem Yj{α β:Type}{f:α->Option β}{x:α}{xs:List α}:(x::xs).mapM f=(f x).bind fun y=>(xs.mapM f).bind fun ys=>some (y::ys):=by
 rw[dv];rfl
theorem ah0{c:C}:C.down 0 c=some c:=by cases c<;>simp[C.down]
theorem abm{n m j:Nat}{es:List (List D)}:C.down n (.bM (n+m,j) es)=some (.bM (m,j) es):=by simp[C.down]
theorem Yk{n j:Nat}{es:List (List D)}:C.down n (.bM (n,j) es)=some (.bM (0,j) es):=by simp[C.down]
theorem agv{n:Nat}{x:D}:C.down n (.d x)=some (.d x):=rfl
theorem abn{n:Nat}:C.down n .any=some .any:=rfl
theorem abo{n:Nat}{es:List (List D)}:C.down n (.bB es)=some (.bB es):=rfl
theorem abp{n m j off:Nat}:C.down n (.ptr (n+m,j) off)=some (.ptr (m,j) off):=by simp[C.down]
theorem Yl{n j off:Nat}:C.down n (.ptr (n,j) off)=some (.ptr (0,j) off):=by simp[C.down]
theorem abq{n m:Nat}{es:List (List D)}:C.down n (.iT m es)=some (.iT m es):=rfl
theorem abr{Ω:Store}:mJ ([]::Ω)=none:=rfl
theorem abt{cs:List C}{own:List Obj}{Ω:Store}:mJ ((.box cs::own)::Ω)=none:=rfl
theorem abu{z:Nat}{es:List (List D)}{own:List Obj}{Ω:Store}:mJ ((.tok z es::own)::Ω)=none:=rfl
theorem Ym{z:Nat}{es:List (List D)}{own:List Obj}{Ω:Store}:mJ ((.bU z es::own)::Ω)=none:=rfl
theorem aeA{m:List (List UInt8)}{own:List Obj}{Ω:Store}:mJ ((.mp m::own)::Ω)=none:=rfl
theorem Yn{own:List Obj}{Ω:Store}:mJ ((.dead::own)::Ω)=none:=rfl
theorem Yo{n z:Nat}{es:List (List D)}{own:List Obj}{Ω:Store}:mJ ((.dY n z es::own)::Ω)=none:=rfl
theorem Yp{n:Nat}{own:List Obj}{Ω:Store}:mJ ((.seed n::own)::Ω)=some n:=rfl
theorem Yq{es x:List (List D)}{z:Nat}{s:St}{dst:Option Nat}{K:St->Prop}:yQ none es s dst z x K=xk (uy s.st) es s dst z x K:=rfl
theorem Vg{es x:List (List D)}{z:Nat}{s:St}{dst:Option Nat}{K:St->Prop}:xk false es s dst z x K=newObj s dst (.tok z x) (fun k=>.c (.bM k x)) K:=rfl
theorem Yr{es x:List (List D)}{z:Nat}{s:St}{dst:Option Nat}{K:St->Prop}:xk true es s dst z x K=(es.length<x.length/\newObj s dst (.bU z x) (fun k=>.c (.fD k)) K):=rfl
theorem abv{Ω:Store}:uy ([]::Ω)=false:=rfl
theorem abw{cs:List C}{own:List Obj}{Ω:Store}:uy ((.box cs::own)::Ω)=false:=rfl
theorem abx{z:Nat}{es:List (List D)}{own:List Obj}{Ω:Store}:uy ((.tok z es::own)::Ω)=false:=rfl
theorem Yt{z:Nat}{es:List (List D)}{own:List Obj}{Ω:Store}:uy ((.bU z es::own)::Ω)=false:=rfl
theorem aeB{m:List (List UInt8)}{own:List Obj}{Ω:Store}:uy ((.mp m::own)::Ω)=false:=rfl
theorem Yu{own:List Obj}{Ω:Store}:uy ((.dead::own)::Ω)=false:=rfl
theorem Yv{n z:Nat}{es:List (List D)}{own:List Obj}{Ω:Store}:uy ((.dY n z es::own)::Ω)=false:=rfl
theorem Yw{n:Nat}{own:List Obj}{Ω:Store}:uy ((.seed n::own)::Ω)=false:=rfl
theorem aeC{own:List Obj}{Ω:Store}:uy ((.xf []::own)::Ω)=false:=rfl
theorem aby{own:List Obj}{Ω:Store}{r:List (List D)}{rs:List (List (List D))}:uy ((.xf (r::rs)::own)::Ω)=true:=rfl
theorem abz{n:Nat}{x:List (List D)}{z:Nat}{s:St}{dst:Option Nat}{K:St->Prop}:yQ (some n) [] s dst z x K=K (St.put ⟨s.tm,s.st⟩ dst (.c (.d (.ol n x)))):=rfl
theorem Yx{n:Nat}{y:List D}{es x:List (List D)}{z:Nat}{s:St}{dst:Option Nat}{K:St->Prop}:yQ (some n) (y::es) s dst z x K=newObj s dst (.tok z x) (fun k=>.c (.bM k x)) K:=rfl
theorem Vh{n:Nat}{x:List (List D)}{z:Nat}{s:St}{dst:Option Nat}{K:St->Prop}:Aj false n s dst z x K=newObj s dst (.dY n z x) (fun k=>.c (.bM k x)) K:=rfl
theorem Yy{n:Nat}{x:List (List D)}{z:Nat}{s:St}{dst:Option Nat}{K:St->Prop}:Aj true n s dst z x K=K (St.put ⟨s.tm,s.st⟩ dst (.c (.d (.ol n x)))):=rfl
theorem abA{own:List Obj}{Ω:Store}:Un (own::Ω)=uz own[1]? :=rfl
theorem Vi:uz none=false:=rfl
theorem Yz{cs:List C}:uz (some (.box cs))=false:=rfl
theorem YA{z:Nat}{es:List (List D)}:uz (some (.tok z es))=false:=rfl
theorem Vj{n z:Nat}{es:List (List D)}:uz (some (.dY n z es))=false:=rfl
theorem Vk{z:Nat}{es:List (List D)}:uz (some (.bU z es))=false:=rfl
theorem Vl:uz (some .dead)=false:=rfl
theorem abB{m:List (List UInt8)}:uz (some (.mp m))=false:=rfl
theorem aeD{own:List Obj}{Ω:Store}{t:TypeId}:Ut (own::Ω) t=xu own[0]? t:=rfl
theorem YB{t:TypeId}:xu none t=false:=rfl
theorem abC{t:TypeId}{cs:List C}:xu (some (.box cs)) t=false:=rfl
theorem abD{t:TypeId}{z:Nat}{es:List (List D)}:xu (some (.tok z es)) t=false:=rfl
theorem YC{t:TypeId}{n z:Nat}{es:List (List D)}:xu (some (.dY n z es)) t=false:=rfl
theorem YD{t:TypeId}{z:Nat}{es:List (List D)}:xu (some (.bU z es)) t=false:=rfl
theorem YE{t:TypeId}:xu (some .dead) t=false:=rfl
theorem aeE{t:TypeId}{m:List (List UInt8)}:xu (some (.mp m)) t=false:=rfl
theorem YF{t:TypeId}{n:Nat}:xu (some (.seed n)) t=false:=rfl
theorem aeF{t:TypeId}:xu (some (.xf [])) t=rowIs t:=rfl
theorem abE{t:TypeId}{r:List (List D)}{rs:List (List (List D))}:xu (some (.xf (r::rs))) t=false:=rfl
theorem Vm{P:Program}{t:TypeId}{s:St}{dst:Option Nat}{K:St->Prop}{r:R}:Dm P t s dst K false r=fA s dst K r:=rfl
theorem YG{P:Program}{t:TypeId}{s:St}{dst:Option Nat}{K:St->Prop}{p:Prop}{es:List (List D)}:Dm P t s dst K true (p,.c (.bB es))=(match P.underlying t with
 |some (.slice e)=>p/\newObj s dst (.bU (P.cellsOf e) es) (fun k=>.c (.fD k)) K
 |_=>False):=rfl
theorem aeG{own:List Obj}{Ω:Store}{rs:List (List (List D))}:mJ ((.xf rs::own)::Ω)=none:=rfl
theorem RJ:uz (some (.seed 0))=false:=rfl
theorem RL:uz (some (.seed 1))=true:=rfl
attribute [go_sem ↓] Rm XY Rn UM MP IJ OP UN XZ X0 X3 UO OQ UQ UR IK Ro IL Rp Rq UU MQ MR KC KD Rs Rt OT Gw
attribute [go_sem] aeD YB abC abD YC YD YE aeE YF aeF abE rowIs Vm YG aeG yB Dq lU List.getElem?_nil
attribute [go_sem] Vg Yr abv abw abx Yt aeB Yu Yv Yw aeC aby Yq abz Yx Vh Yy abA Vi Yz YA Vj Vk Vl abB RJ RL
theorem abF{P:Program}{t:TypeId}{n:Nat}{parts:List (Nat×V)}:jU P none t n parts=oo P t n parts:=rfl
def adG(m:Nat):R->R
 |(p,.c (.bB es))=>(p,.c (.iT m es))
 |_=>no
theorem abG{m:Nat}{p:Prop}{es:List (List D)}:adG m (p,.c (.bB es))=(p,.c (.iT m es)):=rfl
theorem abH{P:Program}{m:Nat}{t:TypeId}{n:Nat}{parts:List (Nat×V)}:jU P (some m) t n parts=adG m (oo P t n parts):=rfl
attribute [go_sem_proc] Nat.reduceEqDiff Nat.reduceAdd Nat.reduceLeDiff Nat.reduceSub Nat.reduceMul Nat.reduceBEq Int.reduceEq Int.reduceLT Int.reduceLE Int.reduceGT Int.reduceGE Int.reduceNeg Int.reduceToNat
attribute [go_sem_proc ↓] reduceIte
attribute [wf_preprocess] decide_eq_true_eq decide_eq_false_iff_not Bool.not_eq_true Bool.not_eq_false Bool.not_eq_eq_eq_not Bool.not_true Bool.not_false Classical.not_not
attribute [go_sem ↓] aa8 XT XU UK aa9 XV XW UL Rj Rk OL OM aes aa3 XM agm Ye aeu aev abd aew agn aex Tg O0 Yf Va O1 Yg Vb abf RF Yi Rl OO XP XQ XR Yc Yd UW abb UY X4 OU KE Ru MS IQ OV X5 X6 Rv X7 X8 KF UZ KG U0 U1 X9 OW OX MU MV U2 U3 IU Rw Ya Rx U4 OY U5 OZ U6 U7 IV Ry IW Rz RA U8 MW MX KH KI RB RD Gx Yb U9
attribute [go_sem] yV UH Ri aa4 aez aey xX IG abg agq Yh V.kR C.kR Obj.kR aa5 aa6 aa7 yX
 UF UG aep aaZ aa0 aa1 aer aa2 ev Ve RG Vf RH AB abh abj look agr agt RI agu abk qJ qK uw mG Oc
 xQ ET ug headD T9 oV AJ zH wh oW AL Ua Ub Kn Uc SN EU uY BA AO uh sS capOf sU
 NJ sD uZ qg qh rU aN aR C.up V.up yG eB jR V.qC C.qC ah0 abm Yk agv abn abo abp Yl
 ag az bw aw aq aa am cQ Option.map_none dc Option.bind_none
 eJ dt List.set_cons_zero List.set_cons_succ db cY List.drop_nil df List.take_succ_cons List.take_nil
 if_true if_false true_and and_true eb cV ej cL di eq Bool.true_eq_false eL fk reduceCtorEq
 decide_true decide_false dT List.all_nil cF cg Option.isSome_some fg Fg getD_map abl Yj Le splice ai BD AP sV oo ej abr abt abu Ym aeA Yn Yo Yp abF abH abG abq
section
variable {P:Program} {S S':Store} {N:Nat} {s:St}
def qD:List Nat->List V->List (Nat×V)
 |t::ts,v::vs=>(t,v)::qD ts vs
 |_,_=>[]
theorem yY(f:Nat->V):∀(ts:List Nat)(t:Nat),look (qD ts (ts.map f)) t=f t\/look (qD ts (ts.map f)) t=.any
 |[],t=>.inr rfl
 |u::us,t=>by
  show(if u=t then f u else look (qD us (us.map f)) t)=f t\/(if u=t then f u else look (qD us (us.map f)) t)=.any;by_cases e:u=t
  ·left;rw[if_pos e,e]
  ·rw[if_neg e];exact yY f us t
def Inv{ι:Type}(N:Nat)(ts:List Nat)(f:ι->List V)(g:ι->Store)(p:ι->Prop)(μ:ι->Nat)(i:ι)(s':St):Prop:=∃j s0,μ j<μ i/\fQ N s' s0/\ts.map (look s0.tm)=f j/\s0.st=g j/\p j
theorem bZ{ι:Type}{ts:List Nat}{f:ι->List V}{g:ι->Store}{p:ι->Prop}{μ:ι->Nat}{i:ι}(j:ι)(h1:μ j<μ i)(h2:ts.map (look s.tm)=f j)(h3:s.st=g j)(h4:p j):Inv N ts f g p μ i s:=
 ⟨j,s,h1,fQ.refl _ _,h2,h3,h4⟩
theorem Dz:∀(ts:List Nat)(vs:List V),ts.Nodup->ts.length=vs.length->ts.map (look (qD ts vs))=vs
 |[],[],_,_=>rfl
 |t::ts,v::vs,hn,hl=>by
  have hn':=List.nodup_cons.1 hn;have ih:=Dz ts vs hn'.2 (by simpa using hl);simp only[qD,ag,look,if_true,ed,true_and];rw[<-ih];refine de fun u hu=> ?_;have hne:t≠u:=fun e=>hn'.1 (e▸hu);rw[if_neg hne,ih]
theorem iD{ι:Type}{ts:List Nat}{f:ι->List V}{g:ι->Store}{p:ι->Prop}{μ:ι->Nat}{i:ι}{tm:List (Nat×V)}{own:List Obj}{Ω:Store}(n:Nat)(hnd:ts.Nodup)(j:ι)(h1:μ j<μ i)(h2:ts.map (look tm)=f j)(h3:own.take n::Ω=g j)
 (hr:Iz n (qD ts (f j))=true)(ho:(own.take n).all (Obj.refs n)=true)(h4:p j):Inv N ts f g p μ i ⟨tm,own::Ω⟩:=by
 refine⟨j,⟨qD ts (f j),own.take n::Ω⟩,h1,?_,?_,h3,h4⟩
 ·have hg:fQ N ⟨tm,own::Ω⟩ ⟨qD ts (f j),own::Ω⟩:=by
   rw[<-h2];exact OC fun t=>yY _ ts t
  exact hg.trans (UE n hr ho)
 ·exact Dz ts (f j) hnd (by rw[<-h2];simp)
theorem bI{ι:Type}{c:Code}{Q:Exit->St->Prop}(dZ:P.follows .mixedOrders=true)(hok:codeOk N c=true)(ts:List Nat)(f:ι->List V)(g:ι->Store)(p:ι->Prop)(μ:ι->Nat)(i0:ι)
 (h1:ts.map (look s.tm)=f i0)(h2:s.st=g i0)(h3:p i0)
 (round:∀i,p i->CW P N c (kU (Inv N ts f g p μ i) Q) ⟨qD ts (f i),g i⟩):AW P N (.loop c) Q s:=by
 refine Ta (ι:=ι) (fun i s=>∃s0,fQ N s s0/\ts.map (look s0.tm)=f i/\s0.st=g i/\p i) μ i0 ⟨s,fQ.refl _ _,h1,h2,h3⟩ fun i s hI=> ?_;obtain⟨s0,hg,h1,h2,h3⟩:=hI;refine kN ?_ hg
 have hr:=(iV dZ c _ _ hok (round i h3)).mono (Q':=kU (fun s'=>∃j,μ j<μ i/\∃s0,fQ N s' s0/\ts.map (look s0.tm)=f j/\s0.st=g j/\p j) Q) fun e s' h=>by
  cases e with
  |normal=>
   obtain⟨j,s0,a1,a2,a3,a4,a5⟩:=h;exact⟨j,a1,s0,a2,a3,a4,a5⟩
  |_=>exact h
 obtain⟨tm,st⟩:=s0;simp only at h1 h2;subst h2;rw[<-h1] at hr;exact adE hr fun t=>yY _ ts t
theorem abI:lY P [] s=(True,.dI []):=rfl
theorem abJ{x:ResultVar}:lY P [x] s=uG P s x:=rfl
theorem abK{x y:ResultVar}{z:List ResultVar}:lY P (x::y::z) s=(match(mM P s (x::y::z)).2 with
 |some ys=>((mM P s (x::y::z)).1,.dI ys)
 |none=>no):=rfl
end
attribute [go_sem] Bz Hr
attribute [go_sem] qD abI abJ abK uG mM Im eX V.ret EZ
section
variable {P:Program} {S S':Store} {N:Nat} {s:St}
theorem aX{α:Type}{fr:List α}{S:List (List α)}{l j:Nat}:aN (fr::S) (1+l,j)=aN S (l,j):=by rw[dE,aV]
theorem j3{α:Type}{fr:List α}{S:List (List α)}{l j:Nat}{x:α}:aR (fr::S) (1+l,j) x=fr::aR S (l,j) x:=by rw[dE,aR]
theorem agw{n l j:Nat}:yG n (l,j)=(n+l,j):=rfl
theorem Vn{l j:Nat}{es:List (List D)}:C.ret (.bM (1+l,j) es)=some (.bM (l,j) es):=by
 rw[dE];show C.down 1 (.bM (l+1,j) es)=_;simp[C.down]
theorem ret_tsl_0{j:Nat}{es:List (List D)}:C.ret (.bM (0,j) es)=some (.d (.sl es)):=rfl
theorem ah1{x:D}:C.ret (.d x)=some (.d x):=rfl
theorem aeH:C.ret .any=some .any:=rfl
theorem aeI{es:List (List D)}:C.ret (.bB es)=some (.bB es):=rfl
theorem aeJ{n:Nat}{es:List (List D)}:C.ret (.iT n es)=some (.iT n es):=rfl
theorem abL{cs:List D}:C.ret (.jI cs)=some (.jI cs):=rfl
theorem aeK{l j off:Nat}:C.ret (.ptr (1+l,j) off)=some (.ptr (l,j) off):=by
 rw[dE];show C.down 1 (.ptr (l+1,j) off)=_;simp[C.down]
theorem aeL{j:Nat}{es es':List (List D)}{k:Key}:C.kR j es (.bM k es')=.bM k es':=rfl
theorem ah2{x:D}:C.qC (.d x)=.d x:=rfl
theorem aeM:C.qC .any=.any:=rfl
theorem aeN{k:Key}{off:Nat}:C.qC (.ptr k off)=.ptr k off:=rfl
theorem agx{f:Nat}{caps:List (Key×Nat)}:C.qC (.fn f caps)=.fn f caps:=rfl
theorem aeO{k:Key}:C.qC (.fD k)=.fD k:=rfl
theorem abM{cs:List D}:C.qC (.jI cs)=.jI cs:=rfl
theorem ah3{j:Nat}{es:List (List D)}{x:D}:C.kR j es (.d x)=.d x:=rfl
theorem aeP{j:Nat}{es:List (List D)}:C.kR j es .any=.any:=rfl
theorem aeQ{j:Nat}{es es':List (List D)}:C.kR j es (.bB es')=.bB es':=rfl
theorem aeR{j:Nat}{es:List (List D)}{k:Key}{off:Nat}:C.kR j es (.ptr k off)=.ptr k off:=rfl
theorem agy{j:Nat}{es:List (List D)}{f:Nat}{caps:List (Key×Nat)}:C.kR j es (.fn f caps)=.fn f caps:=rfl
theorem aeS{j n:Nat}{es es':List (List D)}:C.kR j es (.iT n es')=.iT n es':=rfl
theorem aeT{n:Nat}{es:List (List D)}:C.qC (.iT n es)=.iT n es:=rfl
theorem abN{j:Nat}{es:List (List D)}{cs:List D}:C.kR j es (.jI cs)=.jI cs:=rfl
theorem aeU{j i:Nat}{es:List (List D)}:C.kR j es (.fD (0,i))=if i=j then .d (.sl es) else .fD (0,i):=rfl
end
attribute [go_sem] aX j3 agw Vn ret_tsl_0 ah1 aeH aeI abL aeK aeL ah2 aeM aeN agx aeO abM ah3 aeP aeQ aeR agy abN aeU aeJ aeS aeT
section
variable {P:Program} {S S':Store} {N:Nat} {s:St}
theorem DC(S:Store)(β:Hs)(k:Key):Keep S β (aR S k .dead) β:=by
 intro k' o ho;by_cases e:k=k'
 ·subst e;exact⟨.dead,bX _ _ _ _ ho,.inl rfl⟩
 ·exact⟨o,by rw[dx _ _ _ _ e];exact ho,jQ.refl _ _⟩
theorem wI{k k':Key}{o:Obj}(h:aN (aR S k .dead) k'=some o):(k=k'/\o=.dead)\/aN S k'=some o:=by
 by_cases e:k=k'
 ·subst e
  cases hg:aN S k with
  |none=>
   have:∀(S:Store)(k:Key),aN S k=none->aR S k .dead=S:=by
    intro S
    induction S with
    |nil=>intro k _;rfl
    |cons fr S ih=>
     rintro⟨l,j⟩ h
     cases l with
     |zero=>
      rw[aD] at h;rw[aR,List.set_eq_of_length_le (List.getElem?_eq_none_iff.1 h)]
     |succ l=>rw[aV] at h;rw[aR,ih _ h]
   rw[this S k hg,hg] at h;cases h
  |some y=>
   rw[bX _ _ _ _ hg] at h;cases h;exact .inl ⟨rfl,rfl⟩
 ·rw[dx _ _ _ _ e] at h;exact .inr h
theorem O4(x:Obj):∀(S:Store)(k:Key),(aR S k x).length=S.length
 |[],k=>rfl
 |fr::S,(0,j)=>by rw[aR];simp
 |fr::S,(l+1,j)=>by rw[aR,aa,O4 x S,aa]
theorem Ti(x:Obj):∀(S:Store)(k:Key)(l:Nat)(fr:List Obj),(aR S k x)[l]? =some fr->∃zK,S[l]? =some zK/\zK.length=fr.length
 |[],k,l,fr,h=>by simp[aR] at h
 |f::S,(0,j),0,fr,h=>by rw[aR] at h;simp at h;subst h;exact⟨f,rfl,by simp⟩
 |f::S,(0,j),l+1,fr,h=>by rw[aR] at h;exact⟨fr,by simpa using h,rfl⟩
 |f::S,(i+1,j),0,fr,h=>by rw[aR] at h;exact⟨fr,by simpa using h,rfl⟩
 |f::S,(i+1,j),l+1,fr,h=>by
  rw[aR] at h;simpa using Ti x S (i,j) l fr (by simpa using h)
theorem abO{w:World}{σ:Nat->Nat}{β:Hs}(k:Key)(hS:cZ w σ S β):cZ w σ (aR S k .dead) β:=by
 have hn:bQ w σ w σ:=(Grow.refl hS.live).near;refine⟨fun k' o ho=> ?_,fun k1 k2 o1 o2 h1 h2 b e1 e2 e3 e4 e5 e6=> ?_,⟨by rw[O4];exact hS.shape.1,fun l fr hl=> ?_⟩,hS.live,hS.lX⟩
 ·rcases wI ho with⟨rfl,rfl⟩|ho'
  ·cases hg:aN S k with
   |none=>
    exfalso;have:=DC S β k;rcases wI (S:=S) (k:=k) (k':=k) ho with⟨_,_⟩|h
    ·
     have hne:aN (aR S k .dead) k=none:=by
      have:∀(S:Store)(k:Key),aN S k=none->aN (aR S k Obj.dead) k=none:=by
       intro S
       induction S with
       |nil=>intro k _;rw[aR,jV]
       |cons fr S ih=>
        rintro⟨l,j⟩ h
        cases l with
        |zero=>
         rw[aD] at h;rw[aR,aD,List.set_eq_of_length_le (List.getElem?_eq_none_iff.1 h)];exact h
        |succ l=>rw[aV] at h;rw[aR,aV];exact ih _ h
      exact this S k hg
     rw[hne] at ho;cases ho
    ·rw[hg] at h;cases h
   |some y=>
    obtain⟨h,hh,_⟩:=hS.obj k y hg;exact⟨h,hh,trivial⟩
  ·obtain⟨h,hh,hr⟩:=hS.obj k' o ho';exact⟨h,hh,hr.mono hn ((DC S β k).drop k'.1) fun b _=>⟨rfl,rfl⟩⟩
 ·rcases wI e1 with⟨_,rfl⟩|FT
  ·cases e3
  ·rcases wI e4 with⟨_,rfl⟩|e4'
   ·cases e6
   ·exact hS.apart k1 k2 o1 o2 h1 h2 b FT e2 e3 e4' e5 e6
 ·obtain⟨zK,h1,h2⟩:=Ti _ S k l fr hl;obtain⟨gr,h3,h4⟩:=hS.shape.2 l zK h1;exact⟨gr,h3,by omega⟩
def Less(r r':V):Prop:=∀w σ S β v,bJ w σ S β r v->bJ w σ S β r' v
theorem Less.refl(r:V):Less r r:=fun _ _ _ _ _ h=>h
theorem bL.kill{f:FuncId}{args:List V}{post post':V->Store->Prop}(k:Key)(h:bL P f args S post)(hp:∀r S',post r S'->∃r',Less r r'/\(post' r' S'\/post' r' (aR S' k .dead))):bL P f args S post':=by
 refine⟨h.1,fun w σ β vs hS hv=>(h.2 w σ β vs hS hv).mono fun e w' ⟨v,r,S',σ',β',h1,h2,h3,h4,h5,h6⟩=> ?_⟩;obtain⟨r',hl,hp|hp⟩:=hp r S' h6
 ·exact⟨v,r',S',σ',β',h1,h2,h3,h4,hl _ _ _ _ _ h5,hp⟩
 ·have hkeep:=DC S' β' k;refine⟨v,r',aR S' k .dead,σ',β',h1,abO k h2,h3.trans hkeep,⟨h4.size,h4.os,h4.output,h4.far,h4.near,fun b hb=> ?_⟩,hl _ _ _ _ _ (h5.mono (Grow.refl h2.live).near hkeep),hp⟩;obtain⟨k',o,hv,e1,e2,e3⟩:=hb;rcases wI e1 with⟨_,rfl⟩|FT
  ·cases e3
  ·exact h4.own b ⟨k',o,hv,FT,e2,e3⟩
theorem nP{x y:Obj}:∀(S:Store)(k:Key),aR (aR S k x) k y=aR S k y
 |[],k=>rfl
 |fr::S,(0,j)=>by rw[aR,aR,aR];simp
 |fr::S,(l+1,j)=>by rw[aR,aR,aR,nP S]
def rP:List Bool->List V->List V
 |true::m,v::vs=>v::rP m vs
 |false::m,v::vs=>v.qC::rP m vs
 |[],vs=>vs.map V.qC
 |_,[]=>[]
theorem Gy:∀(m:List Bool)(vs:List V),vs.length=(rP m vs).length
 |true::m,v::vs=>by rw[rP,aa,aa,Gy m vs]
 |false::m,v::vs=>by rw[rP,aa,aa,Gy m vs]
 |[],vs=>by simp[rP]
 |true::m,[]=>rfl
 |false::m,[]=>rfl
theorem KJ:∀(m:List Bool)(vs:List V)(j:Nat)(x y:V),vs[j]? =some x->(rP m vs)[j]? =some y->y=x\/y=x.qC
 |true::m,v::vs,0,x,y,h1,h2=>by rw[rP] at h2;cases h1;cases h2;exact .inl rfl
 |false::m,v::vs,0,x,y,h1,h2=>by rw[rP] at h2;cases h1;cases h2;exact .inr rfl
 |true::m,v::vs,j+1,x,y,h1,h2=>by rw[rP] at h2;exact KJ m vs j x y h1 h2
 |false::m,v::vs,j+1,x,y,h1,h2=>by rw[rP] at h2;exact KJ m vs j x y h1 h2
 |[],vs,j,x,y,h1,h2=>by rw[rP,be,h1] at h2;cases h2;exact .inr rfl
 |true::m,[],j,x,y,h1,h2=>by simp at h1
 |false::m,[],j,x,y,h1,h2=>by simp at h1
theorem bL.rP(m:List Bool){f:FuncId}{args:List V}{post:V->Store->Prop}(h:bL P f (Go.Ab.rP m args) S post):bL P f args S post:=
 h.weaken (Gy m args) fun j x y hx hy w σ β v hr=>by
  rcases KJ m args j x y hx hy with e|e
  ·rw[e];exact hr
  ·rw[e];exact OE hr
theorem dQ(m:List Bool){dr:Option Nat}{f:FuncId}{args:List V}{dst:Option Nat}{K:St->Prop}{r:V}{S1:Store}(hm:adF dr=true)(h:bL P f (rP m args) s.st (fun r' S'=>r'=r/\S'=S1))(hK:K (St.put ⟨s.tm,S1⟩ dst r)):lI P dr f args s dst K:=
 aQ hm (h.rP m) hK
end
theorem aF.less{P:Program}{f:FuncId}{args:List V}{r r':V}(h:aF P f args r)(hl:Less r r'):aF P f args r':=
 fun S=>(h S).kill (0,0) fun r1 S' e=>⟨r',by rw[e.1];exact hl,.inl ⟨rfl,e.2⟩⟩
section
variable {P:Program} {S:Store}
def kK(n:Nat)(caps:List (Key×Nat)):List (Key×Nat):=caps.map fun y=>(yG n y.1,y.2)
theorem Vo{n:Nat}:kK n []=[]:=rfl
theorem RN{n l j off:Nat}{caps:List (Key×Nat)}:kK n (((l,j),off)::caps)=((n+l,j),off)::kK n caps:=rfl
theorem LG{m n:Nat}{caps:List (Key×Nat)}:kK m (kK n caps)=kK (m+n) caps:=by
 unfold kK;rw[fh];refine de fun y _=> ?_;simp only[Function.comp,yG,Prod.mk.injEq,and_true];omega
theorem O5:∀(F S:Store)(l j:Nat),aN (F++S) (F.length+l,j)=aN S (l,j)
 |[],S,l,j=>by simp
 |fr::F,S,l,j=>by
  rw[am,aa,show F.length+1+l=(F.length+l)+1 from by omega,aV,O5 F S l j]
theorem O6(x:Obj):∀(F S:Store)(l j:Nat),aR (F++S) (F.length+l,j) x=F++aR S (l,j) x
 |[],S,l,j=>by simp
 |fr::F,S,l,j=>by
  rw[am,aa,show F.length+1+l=(F.length+l)+1 from by omega,aR,O6 x F S l j,am]
theorem YH{F S:Store}{j:Nat}:aN (F++S) (F.length,j)=aN S (0,j):=O5 F S 0 j
theorem YI{F S:Store}{j:Nat}{x:Obj}:aR (F++S) (F.length,j) x=F++aR S (0,j) x:=O6 x F S 0 j
attribute [go_sem] YH YI Vo RN
def qE(P:Program)(g:Nat)(caps:List (Key×Nat))(S:Store)(xs:List V)(r:V):Prop:=
 ∀F:Store,bL P g (xs++yX (kK F.length caps)) (F++S) (fun r' S'=>r'=r/\S'=F++S)
theorem qE.push{g:Nat}{caps:List (Key×Nat)}{xs:List V}{r:V}(h:qE P g caps S xs r)(fr:List Obj):qE P g (kK 1 caps) (fr::S) xs r:=fun F=>by
 have:=h (F++[fr]);rw[LG];simpa using this
theorem qE.KL{g:Nat}{xs:List V}{r:V}(h:aF P g xs r):qE P g [] S xs r:=fun F=>by
 have:=h (F++S);simpa [kK,yX] using this
def Vp(P:Program)(g:Nat)(caps:List (Key×Nat)){α X:Type}(st:α->Store)(I:Nat->α->Prop)(f:α->X->α)(xv:X->V)(ok:X->Prop):Prop:=
 ∀n a u,I (n+1) a->ok u->I n (f a u)/\∀F:Store,bL P g (xv u::yX (kK F.length caps)) (F++st a) (fun r' S'=>r'=.dI []/\S'=F++st (f a u))
theorem Vp.push{g:Nat}{caps:List (Key×Nat)}{α X:Type}{st:α->Store}{I:Nat->α->Prop}{f:α->X->α}{xv:X->V}{ok:X->Prop}(h:Vp P g caps st I f xv ok)(fr:List Obj):
 Vp P g (kK 1 caps) (fun a=>fr::st a) I f xv ok:=fun n a u ha hu=>⟨(h n a u ha hu).1,fun F=>by
 have:=(h n a u ha hu).2 (F++[fr]);rw[LG]
 simpa using this⟩
theorem LH{N:Nat}{c:Code}{Q:Exit->St->Prop}{tm:List (Nat×V)}{own:List Obj}{Ω:Store}(j i aJ:Nat)(es:List (List D))(cs:List C)(hj:own[j]? =some (.box cs))(hi:cs[i]? =some (.bB es))(hes:∀e∈es,e.length=aJ)
 (h:AW P N c Q ⟨tm,(own.set j (.box (cs.set i (.bM (0,own.length) es)))++[.tok aJ es])::Ω⟩):AW P N c Q ⟨tm,own::Ω⟩:=by
 refine kN h fun a w σ β hR=> ?_;obtain⟨bo,bΩ,rfl,hlen⟩:=frames hR;have hjl:=(ae.1 hj).1
 have hg0:aN (own::Ω) (0,j)=some (.box cs):=by rw[aD];exact hj
 obtain⟨hb,FR,hr⟩:=hR.S.obj (0,j) _ hg0;obtain⟨b,cv,ty,rfl,hbc,hσ,hcs⟩:=hr;have hcs:dF w σ (own::Ω) (bo::bΩ) cs cv.toList:=hcs;obtain⟨v,hv,⟨hd,ad,n,hval⟩,hone⟩:=hcs.2 i _ hi
 have hn:n=es.length:=by rw[hval] at hd;cases hd<;>rfl
 have hg:Grow w σ w σ:=Grow.refl hR.S.live
 obtain⟨hS',hk,hst⟩:=hR.S.push (o:=.tok aJ es) (h:=v) hg hlen ⟨hd,hes,ad,n,by rw[hval,hn],by omega,.inl hn⟩ (fun b hb=>by
  rw[hval,hn] at hb
  cases ad<;>simp[owns,blk] at hb)
 have hk1:aN ((own++[.tok aJ es])::Ω) (0,j)=some (.box cs):=gV _ _ _ _ _ hg0;have CG:aN ((bo++[v])::bΩ) (0,j)=some (.pointer (some ⟨b,0,none⟩)):=gV _ _ _ _ _ FR;have hko:jQ (.box cs) (some (Value.pointer (some ⟨b,0,none⟩))) (.box (cs.set i (.bM (0,own.length) es))) (some (Value.pointer (some ⟨b,0,none⟩))):=.inr ⟨⟨_,rfl⟩,rfl⟩
 have hK:Keep ((own++[.tok aJ es])::Ω) ((bo++[v])::bΩ) (aR ((own++[.tok aJ es])::Ω) (0,j) (.box (cs.set i (.bM (0,own.length) es)))) (aR ((bo++[v])::bΩ) (0,j) (.pointer (some ⟨b,0,none⟩))):=by
  intro k1 o1 e1;by_cases e:k1=(0,j)
  ·subst e;rw[hk1] at e1;cases e1;exact⟨_,bX _ _ _ _ hk1,by rw[CG,bX _ _ _ _ CG];exact hko⟩
  ·exact⟨o1,(dx _ _ _ _ (Ne.symm e)).trans e1,by rw[dx _ _ _ _ (Ne.symm e)];exact .refl _ _⟩
 have hne:(0,own.length)≠(0,j):=fun e=>by injection e with _ e;omega
 obtain⟨hS2,hk2,rO⟩:=hS'.set (w':=w) (σ':=σ) (o':=.box (cs.set i (.bM (0,own.length) es))) (h':=.pointer (some ⟨b,0,none⟩)) hk1 CG (ax _) rfl rfl (bQ.refl _ _) hS'.live (fun _ _ _=>⟨rfl,rfl⟩) hko
  ⟨b,cv,ty,rfl,hbc,hσ,by
    refine⟨by rw[cy];exact hcs.1,fun m x hm=> ?_⟩;rw[eA] at hm;by_cases e:i=m
    ·subst e;rw[if_pos rfl] at hm;split at hm
     ·cases hm;refine⟨v,hv,⟨hd,.tok aJ es,?_,fun a1 b1 e1=> ?_⟩,hone⟩
      ·show aN (aR _ (0,j) _) (0,own.length)=_;rw[dx _ _ _ _ (Ne.symm hne),bg]
      ·obtain⟨_,rfl⟩:=mK (lab:=none) e1;refine⟨ax _,fun _=> ?_⟩;show aN (aR _ (0,j) _) (0,own.length)=_;rw[dx _ _ _ _ (Ne.symm hne),<-hlen,bg]
     ·cases hm
    ·rw[if_neg e] at hm;obtain⟨u,hu,hc,ho⟩:=hcs.2 m x hm
     exact⟨u,hu,(hc.mono (bQ.refl _ _) hk).mono (bQ.refl _ _) hK,ho⟩⟩ (fun _ e=>.inl e)
 have est:aR ((own++[.tok aJ es])::Ω) (0,j) (.box (cs.set i (.bM (0,own.length) es)))=(own.set j (.box (cs.set i (.bM (0,own.length) es)))++[.tok aJ es])::Ω:=by
  rw[aR,List.set_append_left _ _ hjl]
 rw[est] at hS2 hk2 rO
 exact⟨σ,_,⟨hR.size,hR.defers,hS2,fun u=>((hR.T u).mono (bQ.refl _ _) hk).mono (bQ.refl _ _) hk2⟩,hst.trans rO,by
  have:=hk.trans hk2
  exact this.tail⟩
end
inductive D.Fit:D->Prop
 |b (x):Fit (.b x)
 |i (k n):Fit (.i k n)
 |s (l) (h:l.length<=9223372036854775807):Fit (.s l)
 |sl (es) (h:es.length<=9223372036854775807) (hh:∀e∈es,∀d∈e,Fit d):Fit (.sl es)
 |o (v):Fit (.o v)
def yZ(cs:List D):Prop:=∀d∈cs,d.Fit
theorem y5:yZ []:=fun d h=>by cases h
theorem zM{d:D}{ds:List D}:yZ (d::ds)<->d.Fit/\yZ ds:=by simp[yZ]
theorem RO{a b:List D}:yZ (a++b)<->yZ a/\yZ b:=by
 simp only[yZ,ec];exact⟨fun h=>⟨fun d hd=>h d (.inl hd),fun d hd=>h d (.inr hd)⟩,fun h d hd=>hd.elim (h.1 d) (h.2 d)⟩
def WTF(P:Program)(W:TypeId->List D->Prop):List Field->List D->Prop
 |[],ds=>ds=[]
 |f::fs,ds=>∃a b,ds=a++b/\a.length=P.cellsOf f.type/\W f.type a/\WTF P W fs b
def WT(P:Program):Nat->TypeId->List D->Prop
 |0,_,_=>False
 |n+1,t,ds=>
  match P.underlying t with
  |some .bool=>∃b,ds=[.b b]
  |some (.int k)=>∃x,ds=[.i k x]/\(Lit.int k x).wf=true
  |some .string=>∃l,ds=[.s l]/\l.length<=9223372036854775807
  |some (.slice e)=>∃es,ds=[.sl es]/\es.length<=9223372036854775807/\∀x∈es,x.length=P.cellsOf e/\WT P n e x
  |some (.struct fs)=>WTF P (WT P n) fs.toList ds
  |_=>False
def xY(P:Program):List Field->Nat->Nat->Bool
 |[],a,b=>a==b
 |f::fs,a,b=>f.offset==a&&xY P fs (a+P.cellsOf f.type) b
def KM(P:Program)(L:List TypeId):Bool:=
 L.all fun t=>match P.underlying t with
  |some .bool|some (.int _)|some .string=>P.cellsOf t==1
  |some (.slice e)=>P.cellsOf t==1&&L.contains e&&decide (0<P.cellsOf e)
  |some (.struct fs)=>xY P fs.toList 0 (P.cellsOf t)&&fs.toList.all fun f=>L.contains f.type
  |_=>false
def iO(w:World)(b:Nat):Nat:=match w.heap[b]? with
 |some (.cells c _ _)=>c.size
 |_=>0
def o9(w:World)(ds:List D)(vs:List Value):Prop:=ds.length=vs.length/\∀(j:Nat)(d:D),ds[j]? =some d->∃v,vs[j]? =some v/\bn w (iO w) d v/\v.oneCell'=true
theorem o9.append{w:World}{a b:List D}{xs ys:List Value}(h1:o9 w a xs)(h2:o9 w b ys):o9 w (a++b) (xs++ys):=by
 refine⟨by simp[h1.1,h2.1],fun j d hj=> ?_⟩;rw[List.getElem?_append] at hj ⊢;have:=h1.1;split at hj
 ·rw[if_pos (by omega)];exact h1.2 j d hj
 ·rw[if_neg (by omega),<-h1.1];exact h2.2 _ d hj
theorem o9.one{w:World}{d:D}{v:Value}(h:bn w (iO w) d v)(h1:v.oneCell'=true):o9 w [d] [v]:=by
 refine⟨rfl,fun j x hj=> ?_⟩
 cases j with
 |zero=>cases hj;exact⟨v,rfl,h,h1⟩
 |succ j=>simp at hj
theorem O7{α β:Type}(f:α->Option β):∀(l:List α)(ys:List β),l.mapM f=some ys->ys.length=l.length/\∀(j:Nat)(x:α),l[j]? =some x->∃y,f x=some y/\ys[j]? =some y
 |[],ys,h=>by
  simp at h;subst h;exact⟨rfl,fun j x hj=>by simp at hj⟩
 |a::l,ys,h=>by
  rw[dv] at h
  cases ha:f a with
  |none=>rw[ha] at h;cases h
  |some y=>
   cases hl:l.mapM f with
   |none=>rw[ha,hl] at h;cases h
   |some zs=>
    rw[ha,hl] at h;cases h;obtain⟨h1,h2⟩:=O7 f l zs hl;refine⟨by simp[h1],fun j x hj=> ?_⟩
    cases j with
    |zero=>cases hj;exact⟨y,ha,rfl⟩
    |succ j=>exact h2 j x hj
section
variable {H:Type} {enc:TypeId×Value->H} {P:Program} {w:World} {L:List TypeId}
theorem BR{a:Addr}{n:Nat}{vs:List Value}(hn:0<n)(h:w.cells? 0 a n=some vs):a.spot=none/\vs.length=n/\∃c t fz,w.heap[a.block]? =some (.cells c t fz)/\∀j,j<n->∃v,vs[j]? =some v/\c[a.off+j]? =some v:=by
 unfold World.cells? at h;rw[if_pos (ba _)] at h;obtain⟨h1,h2⟩:=O7 _ _ _ h;rw[List.length_range] at h1;obtain⟨v0,hv0,_⟩:=h2 0 0 (by simp[hn])
 have Nk:a.add 0=a:=by simp[Addr.add]
 rw[Nk] at hv0;unfold World.cell? at hv0
 cases hb:w.heap[a.block]? with
 |none=>rw[hb] at hv0;cases hv0
 |some ob=>
  rw[hb] at hv0
  cases ob with
  |map _ _=>cases hv0
  |cells c t fz=>
   have hs:a.spot=none:=by
    cases hsp:a.spot with
    |none=>rfl
    |some x=>rw[hsp] at hv0;simp at hv0
   refine⟨hs,h1,c,t,fz,rfl,fun j hj=> ?_⟩;obtain⟨v,hv,hvs⟩:=h2 j j (by simp[hj]);refine⟨v,hvs,?_⟩;unfold World.cell? at hv;by_cases hj0:j=0
   ·subst hj0;rw[Nk,hb] at hv;simp[hs] at hv;simpa using hv
   ·simp[Addr.add,hj0,hb] at hv;exact hv
  |_=>cases hv0
theorem FZ{α:Type}{p:Nat->α->Prop}:∀n:Nat,(∀i,i<n->∃x,p i x)->∃l:List α,l.length=n/\∀(i:Nat)(x:α),l[i]? =some x->p i x
 |0,_=>⟨[],rfl,fun i x h=>by simp at h⟩
 |n+1,h=>by
  obtain⟨l,hl,hp⟩:=FZ n fun i hi=>h i (by omega);obtain⟨x,hx⟩:=h n (by omega);refine⟨l++[x],by simp[hl],fun i y hy=> ?_⟩;rw[List.getElem?_append] at hy;split at hy
  ·exact hp i y hy
  ·rename_i hlt
   have hi:i-l.length<1:=by
    have:=(ae.1 hy).1;simpa using this
   have:i=n:=by omega
   subst this;rw[show i-l.length=0 from by omega] at hy;cases hy;exact hx
theorem YJ(hc:KM P L=true){t:TypeId}(ht:t∈L):(match P.underlying t with
 |some .bool|some (.int _)|some .string=>P.cellsOf t==1
 |some (.slice e)=>P.cellsOf t==1&&L.contains e&&decide (0<P.cellsOf e)
 |some (.struct fs)=>xY P fs.toList 0 (P.cellsOf t)&&fs.toList.all fun f=>L.contains f.type
 |_=>false)=true:=aS.1 hc t ht
theorem RP{n:Nat}{fs:List Field}{cs:List Value}:∀(off:Nat),off<=cs.length->xY P fs off cs.length=true->
 (∀f∈fs,∃ds,WT P n f.type ds/\o9 w ds ((cs.drop f.offset).take (P.cellsOf f.type)))->∃ds,WTF P (WT P n) fs ds/\o9 w ds (cs.drop off):=by
 induction fs with
 |nil=>
  intro off _ ht _
  have:off=cs.length:=by simpa [xY] using ht
  exact⟨[],rfl,by simp[this,o9]⟩
 |cons f fs ih=>
  intro off ho ht h;simp only[xY,af,beq_iff_eq] at ht;obtain⟨a,ha1,ha2⟩:=h f (by simp)
  have hle:∀(fs:List Field)(o:Nat),xY P fs o cs.length=true->o<=cs.length:=by
   intro fs
   induction fs with
   |nil=>intro o h;have:o=cs.length:=by simpa [xY] using h
         omega
   |cons g gs ih=>intro o h;simp only[xY,af] at h;have:=ih _ h.2;omega
  have hle':=hle fs _ ht.2;obtain⟨b,hb1,hb2⟩:=ih (off+P.cellsOf f.type) hle' ht.2 fun g hg=>h g (by simp[hg]);rw[ht.1] at ha2;refine⟨a++b,⟨a,b,rfl,?_,ha1,hb1⟩,?_⟩
  ·rw[ha2.1];simp;omega
  ·have:=ha2.append hb2;rw[<-List.drop_drop,dC] at this;exact this
theorem DF(hc:KM P L=true){sp:Nat->Bool}{held:Bool}:∀(fuel:Nat)(t:TypeId)(cs:List Value)(x:DataW H×List MemPlace),t∈L->
 DataW.trod enc P w 0 sp held fuel t cs=some x->∃ds,WT P fuel t ds/\o9 w ds cs
 |0,t,cs,x,_,h=>by simp[DataW.trod] at h
 |n+1,t,cs,x,ht,h=>by
  have hcl:=YJ hc ht
  cases hu:P.underlying t with
  |none=>rw[hu] at hcl;cases hcl
  |some u=>
   rw[hu] at hcl
   cases u with
   |bool=>
    obtain⟨b,rfl,_⟩:=DataW.trod_bool hu h;exact⟨[.b b],by simp only[WT,hu];exact⟨b,rfl⟩,o9.one (.b b) rfl⟩
   |int k=>
    obtain⟨m,rfl,_,hw⟩:=DataW.trod_int hu h;exact⟨[.i k m],by simp only[WT,hu];exact⟨m,rfl,hw⟩,o9.one (.i k m) rfl⟩
   |string=>
    obtain⟨s,rfl,_,hs⟩:=DataW.trod_string hu h
    have hl:s.data.toList.length<=9223372036854775807:=by
     have h1:s.data.toList.length=s.size:=by rw[bz];rfl
     rw[h1];exact hs
    refine⟨[.s s.data.toList],?_,o9.one ?_ rfl⟩
    ·simp only[WT,hu];exact⟨_,rfl,hl⟩
    ·exact .s s.data.toList
   |slice e=>
    simp only[af,beq_iff_eq,decide_eq_true_eq,List.contains_iff_mem] at hcl;obtain⟨⟨h1,he⟩,hpos⟩:=hcl;rcases DataW.trod_slice hu h with⟨rfl,_⟩|⟨a,len,cap,elems,rest,m,hm,rfl,_,_,hlc,hcm,hel,hget,_,_⟩
    ·exact⟨[.sl []],by simp only[WT,hu];exact⟨[],rfl,by simp,fun x hx=>by cases hx⟩,o9.one (.nil _ _) rfl⟩
    ·cases hm
     have hall:∀i,i<len->∃ds:List D,ds.length=P.cellsOf e/\WT P n e ds/\∃vs,w.cells? 0 (a.add (i*P.cellsOf e)) (P.cellsOf e)=some vs/\o9 w ds vs:=by
      intro i hi;have hg:=hget i hi
      cases hcs:w.cells? 0 (a.add (i*P.cellsOf e)) (P.cellsOf e) with
      |none=>
       rw[hcs] at hg
       have:i<elems.length:=by omega
       rw[al this] at hg;cases hg
      |some vs=>
       rw[hcs] at hg
       have hlt:i<elems.length:=by omega
       rw[al hlt] at hg;obtain⟨ds,hd1,hd2⟩:=DF hc n e vs _ he hg;have hv:=(BR hpos hcs).2.1;exact⟨ds,by rw[hd2.1,hv],hd1,vs,rfl,hd2⟩
     obtain⟨es,hes,hp⟩:=FZ len hall
     have hwt:WT P (n+1) t [.sl es]:=by
      simp only[WT,hu]
      refine⟨es,rfl,by have:cap<=9223372036854775807:=hcm
                       omega,fun x hx=> ?_⟩
      obtain⟨i,hi⟩:=ea hx;exact⟨(hp i x hi).1,(hp i x hi).2.1⟩
     refine⟨[.sl es],hwt,?_⟩
     cases BG:es with
     |nil=>
      have h0:len=0:=by rw[<-hes,BG];rfl
      subst h0;exact o9.one (.nil _ _) rfl
     |cons e0 es0=>
      have ah4:0<len:=by rw[<-hes,BG];simp
      have hlen:∀x∈es,x.length=P.cellsOf e:=fun x hx=>by
       obtain⟨i,hi⟩:=ea hx;exact(hp i x hi).1
      obtain⟨ds0,_,_,vs0,agz,_⟩:=hall 0 ah4
      have Nk:a.add (0*P.cellsOf e)=a:=by simp[Addr.add]
      rw[Nk] at agz;obtain⟨hsp,_,c,tt,fz,hblk,_⟩:=BR hpos agz
      have hcell:∀i r,i<len->r<P.cellsOf e->∃(x:List D) (v:Value) (d:D),es[i]? =some x/\x[r]? =some d/\c[a.off+(i*P.cellsOf e+r)]? =some v/\bn w (iO w) d v:=by
       intro i r hi hr
       have hlt:i<es.length:=by omega
       obtain⟨hx1,hx2,vs,hvs,hrep⟩:=hp i es[i] (al hlt);obtain⟨_,hvl,c',t',N9,hblk',hcc⟩:=BR hpos hvs
       have hb':(a.add (i*P.cellsOf e)).block=a.block:=by unfold Addr.add;split<;>rfl
       have ho':(a.add (i*P.cellsOf e)).off=a.off+i*P.cellsOf e:=by unfold Addr.add;split<;>simp_all
       rw[hb',hblk] at hblk';cases hblk';obtain⟨v,hv1,hv2⟩:=hcc r hr
       have hdr:r<es[i].length:=by omega
       obtain⟨v',hv',hd',_⟩:=hrep.2 r es[i][r] (al hdr);rw[hv1] at hv';cases hv';refine⟨es[i],v,es[i][r],al hlt,al hdr,?_,hd'⟩;rw[ho'] at hv2;rw[<-dl];exact hv2
      have hbound:a.off+len*P.cellsOf e<=c.size:=by
       obtain⟨_,v,_,_,_,hv,_⟩:=hcell (len-1) (P.cellsOf e-1) (by omega) (by omega);have:=(aE.1 hv).1
       have e1:(len-1)*P.cellsOf e+P.cellsOf e=len*P.cellsOf e:=by
        rw[<-Nat.succ_mul];congr 1;omega
       omega
      have key:bn w (iO w) (.sl es) (.slice (some ⟨a.block,a.off,none⟩) es.length cap):=by
       refine .sl a.block a.off cap (P.cellsOf e) es (fun j=>(c[a.off+j]?).getD undef) c tt fz (by omega) hlen hblk ?_ (fun j hj=> ?_) (fun j d hj=> ?_)
       ·unfold iO;rw[hblk,hes];exact hbound
       ·have:a.off+j<c.size:=by rw[hes] at hj;omega
        rw[cd this];rfl
       ·have hfl:es.flatten.length=es.length*P.cellsOf e:=gy es _ hlen
        have hjl:j<es.length*P.cellsOf e:=by rw[<-hfl];exact(ae.1 hj).1
        have hi:j/P.cellsOf e<len:=by rw[<-hes];exact(Nat.div_lt_iff_lt_mul hpos).2 hjl
        obtain⟨x,v,d',hx,hd',hv,hr⟩:=hcell (j/P.cellsOf e) (j % P.cellsOf e) hi (Nat.mod_lt _ hpos)
        have hlt':j/P.cellsOf e<es.length:=by omega
        have hfg:=flat_get es (P.cellsOf e) hlen (j/P.cellsOf e) (j % P.cellsOf e) hlt' (Nat.mod_lt _ hpos)
        have hj':j/P.cellsOf e*P.cellsOf e+j % P.cellsOf e=j:=by rw[Nat.mul_comm];exact Nat.div_add_mod j _
        rw[hj',hj] at hfg;rw[al hlt'] at hx;cases hx;rw[hd'] at hfg;cases hfg;rw[hj'] at hv;rw[hv];exact hr
      rw[<-BG];refine o9.one ?_ rfl
      have ha:a=⟨a.block,a.off,none⟩:=by cases a;simp at hsp;simp[hsp]
      rw[ha,<-hes];exact key
   |struct fs=>
    simp only[af] at hcl;obtain⟨htl,hfs⟩:=hcl;obtain⟨xs,m,hm,rfl,hlen,hxs,ajk⟩:=DataW.trod_struct hu h;cases hm;rw[<-hlen] at htl
    obtain⟨ds,h1,h2⟩:=RP (w:=w) (n:=n) (cs:=cs) 0 (ba _) htl fun f hf=>by
     obtain⟨i,hi⟩:=ea hf
     have hi':fs[i]? =some f:=by simpa using hi
     have hg:=ajk i f hi'
     have hlt:i<xs.length:=by
      rw[hxs];exact(aE.1 hi').1
     rw[al hlt] at hg
     have hfL:f.type∈L:=by
      have:=aS.1 hfs f hf;simpa using this
     exact DF hc n f.type _ _ hfL hg
    refine⟨ds,by simp only[WT,hu];exact h1,?_⟩;rw[db] at h2;exact h2
   |_=>cases hcl
end
open Go.ChangeShapes Go.WideShapes Go.ChangeAt Go.RowKit
section
variable {H:Type} {enc:TypeId×Value->H} {P:Program} {W W':World} {L:List TypeId} {t:TypeId} {v:Value} {base:Nat}
theorem abP{d:D}(hv:v.cells.toList=[v])(hL:o9 W [d] v.cells.toList):bJ W (iO W) [] [] (.c (.d d)) v:=by
 obtain⟨u,h1,h2,h3⟩:=hL.2 0 d rfl;rw[hv] at h1;cases h1;exact⟨h2,h3⟩
theorem YK{e:TypeId}{d:D}(ht:P.underlying t=some (.slice e))(hok:Value.okWide P W .any base t v)(hL:o9 W [d] v.cells.toList):bJ W (iO W) [] [] (.c (.d d)) v:=by
 obtain⟨a,n,m,rfl⟩:=okWide_slice ht hok;exact abP rfl hL
theorem YL:jX W (iO W) [] [] [] []:=⟨rfl,fun j x h=>by simp at h⟩
theorem Vq{x:V}{xs:List V}{vs:List Value}(h1:bJ W (iO W) [] [] x v)(h2:jX W (iO W) [] [] xs vs):jX W (iO W) [] [] (x::xs) (v::vs):=by
 refine⟨by simp[h2.1],fun j y hj=> ?_⟩
 cases j with
 |zero=>cases hj;exact⟨v,rfl,h1⟩
 |succ j=>exact h2.2 j y hj
theorem abQ(W:World)(hg:iU W (iO W)):cZ W (iO W) [] [] where
 lX:=hg
 obj:=fun k o h=>by rw[jV] at h;cases h
 apart:=fun k k' o o' h h' b h1=>by rw[jV] at h1;cases h1
 shape:=⟨rfl,fun l fr h=>by simp at h⟩
 live:=fun b=>by
  by_cases h:b<W.heap.size
  ·exact .inl h
  ·right;unfold iO;rw[dj (by omega)]
theorem agA{b:Nat}:¬Own [] [] b:=fun⟨k,o,h,h1,_⟩=>by rw[jV] at h1;cases h1
theorem CJ(hl:laidOutB P=true)(hsame:∀b,b<W.heap.size->W'.heap[b]? =W.heap[b]?)(sp:Nat->Bool):∀(ts:List TypeId)(vs:List Value)(ds:List (DataW H))(ps:List MemPlace),
 (ts.all fun t=>P.readableRec t&&decide (t<P.types.size))=true->(∀p∈ps,p.block<W.heap.size/\sp p.block=true)->
   DataW.TrodAll enc P W 0 (fun _=>true) true ts vs ds ps->DataW.TrodAll enc P W' 0 sp true ts vs ds ps
 |[],[],[],ps,_,_,h=>h
 |t::ts,v::vs,d::ds,ps,hr,hlt,h=>by
  simp only[dT,af,decide_eq_true_eq] at hr;obtain⟨p,q,h1,h2,rfl⟩:=h;refine⟨p,q,WideElems.Trod_stays hl hr.1.1 hr.1.2 h1 (fun x hx=> ?_) (fun x hx=>(hlt x (by simp[hx])).2),CJ hl hsame sp ts vs ds q hr.2 (fun x hx=>hlt x (by simp[hx])) h2,rfl⟩;have hb:=(hlt x (by simp[hx])).1
  cases x with
  |cell b o=>exact World.cell?_of_block (w:=W) (hsame b hb)
  |map b=>exact hsame b hb
 |[],[],_::_,ps,_,_,h=>h.elim
 |[],_::_,_,ps,_,_,h=>h.elim
 |_::_,[],_,ps,_,_,h=>h.elim
 |_::_,_::_,[],ps,_,_,h=>h.elim
theorem abR{f:FuncId}{fn:Func}{s:ChangeSpec}{args:Array Value}{ds gs:List (DataW H)}{before:List MemPlace}{vs:List V}{tb:TypeId}(hl:laidOutB P=true)
 (hr:(fn.params.toList.all fun t=>P.readableRec t&&decide (t<P.types.size))=true)(hvars:s.vars=[])(hres:fn.resultTypes= #[tb])(htb:P.underlying tb=some .bool)
 (hs1:(s.fn H (ds++gs)).results=[.lit (.bool true)])(hs2:(s.fn H (ds++gs)).args=ds)(hs3:(s.fn H (ds++gs)).vars=[])
 (hW:DataW.Whole enc P fn.params.toList s.vars false W args.toList ds gs before)(hargs:jX W (iO W) [] [] vs args.toList)
 (hcall:bL P f vs [] fun r _=>r=.c (.d (.b true)))(ah5:iU W (iO W):=by(intro g p hm;exact absurd hm ep)):
 Calls P f args W fun e W'=>∃v,e=.returned v/\s.post enc P fn false true false false W args v W':=by
 have hc:=hcall.2 W (iO W) [] args.toList (abQ W ah5) hargs
 have e1:args.toList.toArray=args:=by simp
 rw[e1] at hc;refine hc.mono fun e W' ⟨v,r,S',σ',β',he,hS',hk,hst,hv,hp⟩=> ?_;subst hp;obtain⟨hv,_⟩:=hv;cases hv;refine⟨_,he,?_⟩;have hsame:∀b,b<W.heap.size->W'.heap[b]? =W.heap[b]? :=fun b hb=>(hst.far b hb agA).1;have hlt:=fun p hp=>hW.lt p hp;have hW0:=hW;obtain⟨pa,q,hA,hV,rfl,hz,hn⟩:=hW;rw[hvars] at hV
 have hq:gs=[]/\q=[]:=by
  obtain⟨h1,h2⟩:=trodVars_none hV;exact⟨h1,h2⟩
 obtain⟨rfl,rfl⟩:=hq
 rw[bw] at *
 refine⟨ds,[],pa,[],pa,[],?_,?_,?_,?_,?_,fun h=>by cases h⟩
 ·simpa using hW0
 ·rw[bw,hs1,hres];exact trodAll_cons_mk (shut_bool htb _) trodAll_mk0
 ·rw[bw,hs2];exact CJ hl hsame _ _ _ _ _ hr (fun p hp=>⟨hlt p hp,by simpa using hlt p hp⟩) hA
 ·rw[bw,hs3,hvars];rfl
 ·refine⟨hst.os,hst.output,fun i hi=> ?_⟩;rw[hsame i hi];split<;>simp_all
end
mutual
def D.sz:D->Nat
 | .s l=>l.length
 | .sl es=>es.length+bC es
 | .b _=>0
 | .i _ _=>0
 | .o _=>0
 | .ol _ es=>es.length+bC es
def bG:List D->Nat
 |[]=>0
 |d::ds=>d.sz+bG ds
def bC:List (List D)->Nat
 |[]=>0
 |r::rs=>bG r+bC rs
end
theorem dR:∀(a b:List D),bG (a++b)=bG a+bG b
 |[],b=>by simp[bG]
 |d::ds,b=>by rw[am,bG,dR ds b,bG];omega
def kQ(left:Int)(n:Nat):Int:=if left-n<0 then -1 else left-n
theorem Fh{l:Int}{a:Nat}(h:¬kQ l a<0):kQ l a=l-a/\0<=l-a:=by
 unfold kQ at *
 split at h
 ·omega
 ·rename_i h';exact⟨if_neg h',by omega⟩
theorem BS{l:Int}{a:Nat}(h:kQ l a<0):l-a<0:=by
 unfold kQ at *
 split at h<;>omega
theorem Fj{l:Int}{a:Nat}(h:l-a<0):kQ l a= -1:=if_pos h
theorem O8{l:Int}{a:Nat}(h:0<=l-a):kQ l a=l-a:=if_neg (by omega)
theorem int_eq{k:IntKind}{a b:Int}(h:a=b):V.c (.d (.i k a))=V.c (.d (.i k b)):=by rw[h]
theorem aO{a b:Bool}(h:a=b):V.c (.d (.b a))=V.c (.d (.b b)):=by rw[h]
noncomputable def dec(p:Prop):Bool:= @decide p (Classical.propDecidable p)
theorem cK{p:Prop}(h:p):dec p=true:=by simp[dec,h]
theorem aT{p:Prop}(h:¬p):dec p=false:=by simp[dec,h]
theorem iJ{p:Prop}(h:dec p=true):p:=by simpa [dec] using h
theorem oD{p:Prop}(h:dec p=false):¬p:=by simpa [dec] using h
theorem vQ{p:Prop}:(dec p=true)=p:=by simp[dec]
theorem DI{p:Prop}:(dec p=false)=¬p:=by simp[dec]
attribute [wf_preprocess] vQ DI
theorem mo{p q:Prop}(h:p<->q):dec p=dec q:=by rw[propext h]
theorem abS:dec True=true:=cK trivial
theorem YM:dec False=false:=aT id
attribute [go_sem] abS YM
theorem nQ{p:Prop}[Decidable p]:decide p=dec p:=by by_cases h:p<;>simp[dec,h]
theorem iK{r:List D}:∀{rs:List (List D)},r∈rs->bG r<=bC rs
 |a::rs,h=>by
  rw[bC];rcases cA.1 h with rfl|h
  ·omega
  ·have:=iK h;omega
def DJ(z i:Nat)(R rows:List (List D)):Prop:=R.length=rows.length/\(∀r∈R,r.length=z)/\∀j,j<i->R[j]? =rows[j]?
theorem DJ.step{z i:Nat}{R rows:List (List D)}{row:List D}(h:DJ z i R rows)(hi:rows[i]? =some row)(hr:row.length=z):DJ z (i+1) (R.set i (qd (R.getD i []) 0 row)) rows:=by
 obtain⟨h1,h2,h3⟩:=h;have hlt:i<rows.length:=(ae.1 hi).1
 have hs:qd (R.getD i []) 0 row=row:=by
  have hm:R.getD i []∈R:=by
   rw[cr,al (by omega)];exact ap _
  have:=h2 _ hm;unfold qd;rw[df,aw,cL,hr,ee (by omega),bw]
 rw[hs];refine⟨by simpa using h1,fun r hr'=> ?_,fun j hj=> ?_⟩
 ·rcases List.mem_or_eq_of_mem_set hr' with h|h
  ·exact h2 r h
  ·rw[h];exact hr
 ·by_cases e:j=i
  ·subst e;rw[hi,cD (by omega)]
  ·rw[cT (by omega)];exact h3 j (by omega)
theorem DJ.done{z i:Nat}{R rows:List (List D)}(h:DJ z i R rows)(hi:rows.length<=i):R=rows:=by
 obtain⟨h1,h2,h3⟩:=h;refine dy fun j=> ?_;by_cases hj:j<i
 ·exact h3 j hj
 ·rw[ck (by omega),ck (by omega)]
def encS(s:List UInt8):List D:=[.s s]
def encI(n:Int):List D:=[.i .i64 n]
inductive au where
 |mk (aH:Int) (fName:List UInt8) (fArgs:List au)
def au.aH:au->Int| .mk x _ _=>x
def au.fName:au->List UInt8| .mk _ x _=>x
def au.fArgs:au->List au| .mk _ _ x=>x
theorem au.eta(x:au):au.mk x.aH x.fName x.fArgs=x:=by cases x;rfl
theorem au.ext{x y:au}(h0:x.aH=y.aH)(h1:x.fName=y.fName)(h2:x.fArgs=y.fArgs):x=y:=by
 rw[<-au.eta x,<-au.eta y,h0,h1,h2]
mutual
def au.enc:au->List D
 | .mk a0 a1 a2=>[.i .i64 a0,.s a1,.sl (au.encs a2)]
def au.encs:List au->List (List D)
 |[]=>[]
 |x::xs=>x.enc::au.encs xs
end
theorem au.iW:∀l,au.encs l=l.map au.enc
 |[]=>rfl
 |x::xs=>by rw[au.encs,ag,au.iW xs]
theorem au.aB(x:au):x.enc=[.i .i64 x.aH,.s x.fName,.sl (x.fArgs.map au.enc)]:=by
 cases x;simp only[au.enc,au.iW,au.aH,au.fName,au.fArgs]
abbrev au.v(x:au):V:=.agg [.d (.i .i64 x.aH),.d (.s x.fName),.d (.sl (x.fArgs.map au.enc))]
theorem au.ny(x:au): .agg (x.enc.map .d)=x.v:=by
 simp only[au.aB,ag,az,am,aw,bi]
theorem au.bF(x:au):x.enc.length=3:=by
 simp only[au.aB,ab,aa,aq]
def au.sz(x:au):Nat:=bG x.enc
theorem au.dz(x:au):bG x.enc=x.sz:=rfl
theorem au.jo(x:au):SizeOf.sizeOf x.fArgs<SizeOf.sizeOf x:=by cases x;simp[au.fArgs];omega
structure bY where
 fVar:List UInt8
 fType:au
def bY.enc(x:bY):List D:=[.s x.fVar]++(x.fType.enc)
theorem bY.aB(x:bY):x.enc=[.s x.fVar]++(x.fType.enc):=rfl
theorem bY.eta(x:bY):bY.mk x.fVar x.fType=x:=rfl
theorem bY.ext'{x y:bY}(h0:x.fVar=y.fVar)(h1:x.fType=y.fType):x=y:=by
 cases x;cases y;simp_all
abbrev bY.v(x:bY):V:=.agg [.d (.s x.fVar),.d (.i .i64 x.fType.aH),.d (.s x.fType.fName),.d (.sl (x.fType.fArgs.map au.enc))]
theorem bY.ny(x:bY): .agg (x.enc.map .d)=x.v:=by
 simp only[bY.aB,au.aB,ag,az,am,aw,bi]
theorem bY.bF(x:bY):x.enc.length=4:=by
 simp only[bY.aB,au.bF,ab,aa,aq]
def bY.sz(x:bY):Nat:=bG x.enc
theorem bY.dz(x:bY):bG x.enc=x.sz:=rfl
structure dN where
 aW:List UInt8
 fType:au
def dN.enc(x:dN):List D:=[.s x.aW]++(x.fType.enc)
theorem dN.aB(x:dN):x.enc=[.s x.aW]++(x.fType.enc):=rfl
theorem dN.eta(x:dN):dN.mk x.aW x.fType=x:=rfl
theorem dN.ext'{x y:dN}(h0:x.aW=y.aW)(h1:x.fType=y.fType):x=y:=by
 cases x;cases y;simp_all
abbrev dN.v(x:dN):V:=.agg [.d (.s x.aW),.d (.i .i64 x.fType.aH),.d (.s x.fType.fName),.d (.sl (x.fType.fArgs.map au.enc))]
theorem dN.ny(x:dN): .agg (x.enc.map .d)=x.v:=by
 simp only[dN.aB,au.aB,ag,az,am,aw,bi]
theorem dN.bF(x:dN):x.enc.length=4:=by
 simp only[dN.aB,au.bF,ab,aa,aq]
def dN.sz(x:dN):Nat:=bG x.enc
theorem dN.dz(x:dN):bG x.enc=x.sz:=rfl
mutual
inductive aj where
 |mk (aH:Int) (aW:List UInt8) (fName:List UInt8) (fN:Int) (fType:au) (fArgs:List aj) (aG:List aK)
inductive aK where
 |mk (bK:List UInt8) (bH:List (List UInt8)) (fBody:aj)
end
def aj.aH:aj->Int| .mk x _ _ _ _ _ _=>x
def aj.aW:aj->List UInt8| .mk _ x _ _ _ _ _=>x
def aj.fName:aj->List UInt8| .mk _ _ x _ _ _ _=>x
def aj.fN:aj->Int| .mk _ _ _ x _ _ _=>x
def aj.fType:aj->au| .mk _ _ _ _ x _ _=>x
def aj.fArgs:aj->List aj| .mk _ _ _ _ _ x _=>x
def aj.aG:aj->List aK| .mk _ _ _ _ _ _ x=>x
theorem aj.eta(x:aj):aj.mk x.aH x.aW x.fName x.fN x.fType x.fArgs x.aG=x:=by cases x;rfl
theorem aj.ext{x y:aj}(h0:x.aH=y.aH)(h1:x.aW=y.aW)(h2:x.fName=y.fName)(h3:x.fN=y.fN)(h4:x.fType=y.fType)(h5:x.fArgs=y.fArgs)(h6:x.aG=y.aG):x=y:=by
 rw[<-aj.eta x,<-aj.eta y,h0,h1,h2,h3,h4,h5,h6]
def aK.bK:aK->List UInt8| .mk x _ _=>x
def aK.bH:aK->List (List UInt8)| .mk _ x _=>x
def aK.fBody:aK->aj| .mk _ _ x=>x
theorem aK.eta(x:aK):aK.mk x.bK x.bH x.fBody=x:=by cases x;rfl
theorem aK.ext{x y:aK}(h0:x.bK=y.bK)(h1:x.bH=y.bH)(h2:x.fBody=y.fBody):x=y:=by
 rw[<-aK.eta x,<-aK.eta y,h0,h1,h2]
mutual
def aj.enc:aj->List D
 | .mk a0 a1 a2 a3 a4 a5 a6=>[.i .i64 a0,.s a1,.s a2,.i .i64 a3]++(a4.enc++([.sl (aj.encs a5),.sl (aK.encs a6)]))
def aj.encs:List aj->List (List D)
 |[]=>[]
 |x::xs=>x.enc::aj.encs xs
def aK.enc:aK->List D
 | .mk a0 a1 a2=>[.s a0,.sl (a1.map encS)]++(aj.enc a2)
def aK.encs:List aK->List (List D)
 |[]=>[]
 |x::xs=>x.enc::aK.encs xs
end
theorem aj.iW:∀l,aj.encs l=l.map aj.enc
 |[]=>rfl
 |x::xs=>by rw[aj.encs,ag,aj.iW xs]
theorem aK.iW:∀l,aK.encs l=l.map aK.enc
 |[]=>rfl
 |x::xs=>by rw[aK.encs,ag,aK.iW xs]
theorem aj.aB(x:aj):x.enc=[.i .i64 x.aH,.s x.aW,.s x.fName,.i .i64 x.fN]++(x.fType.enc++([.sl (x.fArgs.map aj.enc),.sl (x.aG.map aK.enc)])):=by
 cases x;simp only[aj.enc,aj.iW,aK.iW,aj.aH,aj.aW,aj.fName,aj.fN,aj.fType,aj.fArgs,aj.aG]
theorem aK.aB(x:aK):x.enc=[.s x.bK,.sl (x.bH.map encS)]++(x.fBody.enc):=by
 cases x;simp only[aK.enc,aj.iW,aK.iW,aK.bK,aK.bH,aK.fBody]
abbrev aj.v(x:aj):V:=.agg [.d (.i .i64 x.aH),.d (.s x.aW),.d (.s x.fName),.d (.i .i64 x.fN),.d (.i .i64 x.fType.aH),.d (.s x.fType.fName),.d (.sl (x.fType.fArgs.map au.enc)),.d (.sl (x.fArgs.map aj.enc)),.d (.sl (x.aG.map aK.enc))]
theorem aj.ny(x:aj): .agg (x.enc.map .d)=x.v:=by
 simp only[aj.aB,au.aB,ag,az,am,aw,bi]
theorem aj.bF(x:aj):x.enc.length=9:=by
 simp only[aj.aB,au.bF,ab,aa,aq]
def aj.sz(x:aj):Nat:=bG x.enc
theorem aj.dz(x:aj):bG x.enc=x.sz:=rfl
theorem aj.jo(x:aj):SizeOf.sizeOf x.fArgs<SizeOf.sizeOf x:=by cases x;simp[aj.fArgs];omega
theorem aj.tu(x:aj):SizeOf.sizeOf x.aG<SizeOf.sizeOf x:=by cases x;simp[aj.aG];omega
abbrev aK.v(x:aK):V:=.agg [.d (.s x.bK),.d (.sl (x.bH.map encS)),.d (.i .i64 x.fBody.aH),.d (.s x.fBody.aW),.d (.s x.fBody.fName),.d (.i .i64 x.fBody.fN),.d (.i .i64 x.fBody.fType.aH),.d (.s x.fBody.fType.fName),.d (.sl (x.fBody.fType.fArgs.map au.enc)),.d (.sl (x.fBody.fArgs.map aj.enc)),.d (.sl (x.fBody.aG.map aK.enc))]
theorem aK.ny(x:aK): .agg (x.enc.map .d)=x.v:=by
 simp only[aK.aB,aj.aB,au.aB,ag,az,am,aw,bi]
theorem aK.bF(x:aK):x.enc.length=11:=by
 simp only[aK.aB,aj.bF,ab,aa,aq]
def aK.sz(x:aK):Nat:=bG x.enc
theorem aK.dz(x:aK):bG x.enc=x.sz:=rfl
theorem aK.rD(x:aK):SizeOf.sizeOf x.fBody<SizeOf.sizeOf x:=by cases x;simp[aK.fBody];omega
inductive ah where
 |mk (aI:List UInt8) (ak:List ah)
def ah.aI:ah->List UInt8| .mk x _=>x
def ah.ak:ah->List ah| .mk _ x=>x
theorem ah.eta(x:ah):ah.mk x.aI x.ak=x:=by cases x;rfl
theorem ah.ext{x y:ah}(h0:x.aI=y.aI)(h1:x.ak=y.ak):x=y:=by
 rw[<-ah.eta x,<-ah.eta y,h0,h1]
mutual
def ah.enc:ah->List D
 | .mk a0 a1=>[.s a0,.sl (ah.encs a1)]
def ah.encs:List ah->List (List D)
 |[]=>[]
 |x::xs=>x.enc::ah.encs xs
end
theorem ah.iW:∀l,ah.encs l=l.map ah.enc
 |[]=>rfl
 |x::xs=>by rw[ah.encs,ag,ah.iW xs]
theorem ah.aB(x:ah):x.enc=[.s x.aI,.sl (x.ak.map ah.enc)]:=by
 cases x;simp only[ah.enc,ah.iW,ah.aI,ah.ak]
abbrev ah.v(x:ah):V:=.agg [.d (.s x.aI),.d (.sl (x.ak.map ah.enc))]
theorem ah.ny(x:ah): .agg (x.enc.map .d)=x.v:=by
 simp only[ah.aB,ag,az,am,aw,bi]
theorem ah.bF(x:ah):x.enc.length=2:=by
 simp only[ah.aB,ab,aa,aq]
def ah.sz(x:ah):Nat:=bG x.enc
theorem ah.dz(x:ah):bG x.enc=x.sz:=rfl
theorem ah.qj(x:ah):SizeOf.sizeOf x.ak<SizeOf.sizeOf x:=by cases x;simp[ah.ak];omega
structure bR where
 fName:List UInt8
 jN:List au
 iA:au
 ql:Bool
 bH:List (List UInt8)
 fBody:aj
def bR.enc(x:bR):List D:=[.s x.fName,.sl (x.jN.map au.enc)]++(x.iA.enc++([.b x.ql,.sl (x.bH.map encS)]++(x.fBody.enc)))
theorem bR.aB(x:bR):x.enc=[.s x.fName,.sl (x.jN.map au.enc)]++(x.iA.enc++([.b x.ql,.sl (x.bH.map encS)]++(x.fBody.enc))):=rfl
theorem bR.eta(x:bR):bR.mk x.fName x.jN x.iA x.ql x.bH x.fBody=x:=rfl
theorem bR.ext'{x y:bR}(h0:x.fName=y.fName)(h1:x.jN=y.jN)(h2:x.iA=y.iA)(h3:x.ql=y.ql)(h4:x.bH=y.bH)(h5:x.fBody=y.fBody):x=y:=by
 cases x;cases y;simp_all
abbrev bR.v(x:bR):V:=.agg [.d (.s x.fName),.d (.sl (x.jN.map au.enc)),.d (.i .i64 x.iA.aH),.d (.s x.iA.fName),.d (.sl (x.iA.fArgs.map au.enc)),.d (.b x.ql),.d (.sl (x.bH.map encS)),.d (.i .i64 x.fBody.aH),.d (.s x.fBody.aW),.d (.s x.fBody.fName),.d (.i .i64 x.fBody.fN),.d (.i .i64 x.fBody.fType.aH),.d (.s x.fBody.fType.fName),.d (.sl (x.fBody.fType.fArgs.map au.enc)),.d (.sl (x.fBody.fArgs.map aj.enc)),.d (.sl (x.fBody.aG.map aK.enc))]
theorem bR.ny(x:bR): .agg (x.enc.map .d)=x.v:=by
 simp only[bR.aB,aj.aB,au.aB,ag,az,am,aw,bi]
theorem bR.bF(x:bR):x.enc.length=16:=by
 simp only[bR.aB,aj.bF,au.bF,ab,aa,aq]
def bR.sz(x:bR):Nat:=bG x.enc
theorem bR.dz(x:bR):bG x.enc=x.sz:=rfl
structure eF where
 fName:List UInt8
 kW:List (List UInt8)
 Fp:Bool
 kX:Bool
 mq:List bR
def eF.enc(x:eF):List D:=[.s x.fName,.sl (x.kW.map encS),.b x.Fp,.b x.kX,.sl (x.mq.map bR.enc)]
theorem eF.aB(x:eF):x.enc=[.s x.fName,.sl (x.kW.map encS),.b x.Fp,.b x.kX,.sl (x.mq.map bR.enc)]:=rfl
theorem eF.eta(x:eF):eF.mk x.fName x.kW x.Fp x.kX x.mq=x:=rfl
theorem eF.ext'{x y:eF}(h0:x.fName=y.fName)(h1:x.kW=y.kW)(h2:x.Fp=y.Fp)(h3:x.kX=y.kX)(h4:x.mq=y.mq):x=y:=by
 cases x;cases y;simp_all
abbrev eF.v(x:eF):V:=.agg [.d (.s x.fName),.d (.sl (x.kW.map encS)),.d (.b x.Fp),.d (.b x.kX),.d (.sl (x.mq.map bR.enc))]
theorem eF.ny(x:eF): .agg (x.enc.map .d)=x.v:=by
 simp only[eF.aB,ag,az,am,aw,bi]
theorem eF.bF(x:eF):x.enc.length=5:=by
 simp only[eF.aB,ab,aa,aq]
def eF.sz(x:eF):Nat:=bG x.enc
theorem eF.dz(x:eF):bG x.enc=x.sz:=rfl
structure bD where
 fName:List UInt8
 oF:List au
def bD.enc(x:bD):List D:=[.s x.fName,.sl (x.oF.map au.enc)]
theorem bD.aB(x:bD):x.enc=[.s x.fName,.sl (x.oF.map au.enc)]:=rfl
theorem bD.eta(x:bD):bD.mk x.fName x.oF=x:=rfl
theorem bD.ext'{x y:bD}(h0:x.fName=y.fName)(h1:x.oF=y.oF):x=y:=by
 cases x;cases y;simp_all
abbrev bD.v(x:bD):V:=.agg [.d (.s x.fName),.d (.sl (x.oF.map au.enc))]
theorem bD.ny(x:bD): .agg (x.enc.map .d)=x.v:=by
 simp only[bD.aB,ag,az,am,aw,bi]
theorem bD.bF(x:bD):x.enc.length=2:=by
 simp only[bD.aB,ab,aa,aq]
def bD.sz(x:bD):Nat:=bG x.enc
theorem bD.dz(x:bD):bG x.enc=x.sz:=rfl
structure bS where
 fName:List UInt8
 bH:List (List UInt8)
 jE:List bD
def bS.enc(x:bS):List D:=[.s x.fName,.sl (x.bH.map encS),.sl (x.jE.map bD.enc)]
theorem bS.aB(x:bS):x.enc=[.s x.fName,.sl (x.bH.map encS),.sl (x.jE.map bD.enc)]:=rfl
theorem bS.eta(x:bS):bS.mk x.fName x.bH x.jE=x:=rfl
theorem bS.ext'{x y:bS}(h0:x.fName=y.fName)(h1:x.bH=y.bH)(h2:x.jE=y.jE):x=y:=by
 cases x;cases y;simp_all
abbrev bS.v(x:bS):V:=.agg [.d (.s x.fName),.d (.sl (x.bH.map encS)),.d (.sl (x.jE.map bD.enc))]
theorem bS.ny(x:bS): .agg (x.enc.map .d)=x.v:=by
 simp only[bS.aB,ag,az,am,aw,bi]
theorem bS.bF(x:bS):x.enc.length=3:=by
 simp only[bS.aB,ab,aa,aq]
def bS.sz(x:bS):Nat:=bG x.enc
theorem bS.dz(x:bS):bG x.enc=x.sz:=rfl
structure dK where
 fName:List UInt8
 bH:List (List UInt8)
 fBody:aj
def dK.enc(x:dK):List D:=[.s x.fName,.sl (x.bH.map encS)]++(x.fBody.enc)
theorem dK.aB(x:dK):x.enc=[.s x.fName,.sl (x.bH.map encS)]++(x.fBody.enc):=rfl
theorem dK.eta(x:dK):dK.mk x.fName x.bH x.fBody=x:=rfl
theorem dK.ext'{x y:dK}(h0:x.fName=y.fName)(h1:x.bH=y.bH)(h2:x.fBody=y.fBody):x=y:=by
 cases x;cases y;simp_all
abbrev dK.v(x:dK):V:=.agg [.d (.s x.fName),.d (.sl (x.bH.map encS)),.d (.i .i64 x.fBody.aH),.d (.s x.fBody.aW),.d (.s x.fBody.fName),.d (.i .i64 x.fBody.fN),.d (.i .i64 x.fBody.fType.aH),.d (.s x.fBody.fType.fName),.d (.sl (x.fBody.fType.fArgs.map au.enc)),.d (.sl (x.fBody.fArgs.map aj.enc)),.d (.sl (x.fBody.aG.map aK.enc))]
theorem dK.ny(x:dK): .agg (x.enc.map .d)=x.v:=by
 simp only[dK.aB,aj.aB,au.aB,ag,az,am,aw,bi]
theorem dK.bF(x:dK):x.enc.length=11:=by
 simp only[dK.aB,aj.bF,ab,aa,aq]
def dK.sz(x:dK):Nat:=bG x.enc
theorem dK.dz(x:dK):bG x.enc=x.sz:=rfl
structure cu where
 aW:List UInt8
 bH:List (List UInt8)
 vR:au
 kY:List dN
 vB:Bool
 tC:Bool
 kX:au
 qP:List dK
def cu.enc(x:cu):List D:=[.s x.aW,.sl (x.bH.map encS)]++(x.vR.enc++([.sl (x.kY.map dN.enc),.b x.vB,.b x.tC]++(x.kX.enc++([.sl (x.qP.map dK.enc)]))))
theorem cu.aB(x:cu):x.enc=[.s x.aW,.sl (x.bH.map encS)]++(x.vR.enc++([.sl (x.kY.map dN.enc),.b x.vB,.b x.tC]++(x.kX.enc++([.sl (x.qP.map dK.enc)])))):=rfl
theorem cu.eta(x:cu):cu.mk x.aW x.bH x.vR x.kY x.vB x.tC x.kX x.qP=x:=rfl
theorem cu.ext'{x y:cu}(h0:x.aW=y.aW)(h1:x.bH=y.bH)(h2:x.vR=y.vR)(h3:x.kY=y.kY)(h4:x.vB=y.vB)(h5:x.tC=y.tC)(h6:x.kX=y.kX)(h7:x.qP=y.qP):x=y:=by
 cases x;cases y;simp_all
abbrev cu.v(x:cu):V:=.agg [.d (.s x.aW),.d (.sl (x.bH.map encS)),.d (.i .i64 x.vR.aH),.d (.s x.vR.fName),.d (.sl (x.vR.fArgs.map au.enc)),.d (.sl (x.kY.map dN.enc)),.d (.b x.vB),.d (.b x.tC),.d (.i .i64 x.kX.aH),.d (.s x.kX.fName),.d (.sl (x.kX.fArgs.map au.enc)),.d (.sl (x.qP.map dK.enc))]
theorem cu.ny(x:cu): .agg (x.enc.map .d)=x.v:=by
 simp only[cu.aB,au.aB,ag,az,am,aw,bi]
theorem cu.bF(x:cu):x.enc.length=12:=by
 simp only[cu.aB,au.bF,ab,aa,aq]
def cu.sz(x:cu):Nat:=bG x.enc
theorem cu.dz(x:cu):bG x.enc=x.sz:=rfl
structure eU where
 fName:List UInt8
 fType:au
def eU.enc(x:eU):List D:=[.s x.fName]++(x.fType.enc)
theorem eU.aB(x:eU):x.enc=[.s x.fName]++(x.fType.enc):=rfl
theorem eU.eta(x:eU):eU.mk x.fName x.fType=x:=rfl
theorem eU.ext'{x y:eU}(h0:x.fName=y.fName)(h1:x.fType=y.fType):x=y:=by
 cases x;cases y;simp_all
abbrev eU.v(x:eU):V:=.agg [.d (.s x.fName),.d (.i .i64 x.fType.aH),.d (.s x.fType.fName),.d (.sl (x.fType.fArgs.map au.enc))]
theorem eU.ny(x:eU): .agg (x.enc.map .d)=x.v:=by
 simp only[eU.aB,au.aB,ag,az,am,aw,bi]
theorem eU.bF(x:eU):x.enc.length=4:=by
 simp only[eU.aB,au.bF,ab,aa,aq]
def eU.sz(x:eU):Nat:=bG x.enc
theorem eU.dz(x:eU):bG x.enc=x.sz:=rfl
structure cB where
 fName:List UInt8
 bH:List (List UInt8)
 kY:List dN
 jN:List eU
 iA:au
 fBody:aj
def cB.enc(x:cB):List D:=[.s x.fName,.sl (x.bH.map encS),.sl (x.kY.map dN.enc),.sl (x.jN.map eU.enc)]++(x.iA.enc++(x.fBody.enc))
theorem cB.aB(x:cB):x.enc=[.s x.fName,.sl (x.bH.map encS),.sl (x.kY.map dN.enc),.sl (x.jN.map eU.enc)]++(x.iA.enc++(x.fBody.enc)):=rfl
theorem cB.eta(x:cB):cB.mk x.fName x.bH x.kY x.jN x.iA x.fBody=x:=rfl
theorem cB.ext'{x y:cB}(h0:x.fName=y.fName)(h1:x.bH=y.bH)(h2:x.kY=y.kY)(h3:x.jN=y.jN)(h4:x.iA=y.iA)(h5:x.fBody=y.fBody):x=y:=by
 cases x;cases y;simp_all
abbrev cB.v(x:cB):V:=.agg [.d (.s x.fName),.d (.sl (x.bH.map encS)),.d (.sl (x.kY.map dN.enc)),.d (.sl (x.jN.map eU.enc)),.d (.i .i64 x.iA.aH),.d (.s x.iA.fName),.d (.sl (x.iA.fArgs.map au.enc)),.d (.i .i64 x.fBody.aH),.d (.s x.fBody.aW),.d (.s x.fBody.fName),.d (.i .i64 x.fBody.fN),.d (.i .i64 x.fBody.fType.aH),.d (.s x.fBody.fType.fName),.d (.sl (x.fBody.fType.fArgs.map au.enc)),.d (.sl (x.fBody.fArgs.map aj.enc)),.d (.sl (x.fBody.aG.map aK.enc))]
theorem cB.ny(x:cB): .agg (x.enc.map .d)=x.v:=by
 simp only[cB.aB,aj.aB,au.aB,ag,az,am,aw,bi]
theorem cB.bF(x:cB):x.enc.length=16:=by
 simp only[cB.aB,aj.bF,au.bF,ab,aa,aq]
def cB.sz(x:cB):Nat:=bG x.enc
theorem cB.dz(x:cB):bG x.enc=x.sz:=rfl
structure dB where
 fName:List UInt8
 zN:List (List UInt8)
 tF:List eF
 nR:List bS
 nS:List cu
 nT:List cB
def dB.enc(x:dB):List D:=[.s x.fName,.sl (x.zN.map encS),.sl (x.tF.map eF.enc),.sl (x.nR.map bS.enc),.sl (x.nS.map cu.enc),.sl (x.nT.map cB.enc)]
theorem dB.aB(x:dB):x.enc=[.s x.fName,.sl (x.zN.map encS),.sl (x.tF.map eF.enc),.sl (x.nR.map bS.enc),.sl (x.nS.map cu.enc),.sl (x.nT.map cB.enc)]:=rfl
theorem dB.eta(x:dB):dB.mk x.fName x.zN x.tF x.nR x.nS x.nT=x:=rfl
theorem dB.ext'{x y:dB}(h0:x.fName=y.fName)(h1:x.zN=y.zN)(h2:x.tF=y.tF)(h3:x.nR=y.nR)(h4:x.nS=y.nS)(h5:x.nT=y.nT):x=y:=by
 cases x;cases y;simp_all
abbrev dB.v(x:dB):V:=.agg [.d (.s x.fName),.d (.sl (x.zN.map encS)),.d (.sl (x.tF.map eF.enc)),.d (.sl (x.nR.map bS.enc)),.d (.sl (x.nS.map cu.enc)),.d (.sl (x.nT.map cB.enc))]
theorem dB.ny(x:dB): .agg (x.enc.map .d)=x.v:=by
 simp only[dB.aB,ag,az,am,aw,bi]
theorem dB.bF(x:dB):x.enc.length=6:=by
 simp only[dB.aB,ab,aa,aq]
def dB.sz(x:dB):Nat:=bG x.enc
theorem dB.dz(x:dB):bG x.enc=x.sz:=rfl
structure dU where
 oQ:List dB
def dU.enc(x:dU):List D:=[.sl (x.oQ.map dB.enc)]
theorem dU.aB(x:dU):x.enc=[.sl (x.oQ.map dB.enc)]:=rfl
theorem dU.eta(x:dU):dU.mk x.oQ=x:=rfl
theorem dU.ext'{x y:dU}(h0:x.oQ=y.oQ):x=y:=by
 cases x;cases y;simp_all
abbrev dU.v(x:dU):V:=.agg [.d (.sl (x.oQ.map dB.enc))]
theorem dU.ny(x:dU): .agg (x.enc.map .d)=x.v:=by
 simp only[dU.aB,ag,az,am,aw,bi]
theorem dU.bF(x:dU):x.enc.length=1:=by
 simp only[dU.aB,ab,aa,aq]
def dU.sz(x:dU):Nat:=bG x.enc
theorem dU.dz(x:dU):bG x.enc=x.sz:=rfl
structure bV where
 vC:Int
 Tj:Int
def bV.enc(x:bV):List D:=[.i .i64 x.vC,.i .i64 x.Tj]
theorem bV.aB(x:bV):x.enc=[.i .i64 x.vC,.i .i64 x.Tj]:=rfl
theorem bV.eta(x:bV):bV.mk x.vC x.Tj=x:=rfl
theorem bV.ext'{x y:bV}(h0:x.vC=y.vC)(h1:x.Tj=y.Tj):x=y:=by
 cases x;cases y;simp_all
abbrev bV.v(x:bV):V:=.agg [.d (.i .i64 x.vC),.d (.i .i64 x.Tj)]
theorem bV.ny(x:bV): .agg (x.enc.map .d)=x.v:=by
 simp only[bV.aB,ag,az,am,aw,bi]
theorem bV.bF(x:bV):x.enc.length=2:=by
 simp only[bV.aB,ab,aa,aq]
def bV.sz(x:bV):Nat:=bG x.enc
theorem bV.dz(x:bV):bG x.enc=x.sz:=rfl
attribute [go_sem] au.aB bY.aB dN.aB aj.aB aK.aB ah.aB bR.aB eF.aB bD.aB bS.aB dK.aB cu.aB eU.aB cB.aB dB.aB dU.aB bV.aB encS encI
def Tk:List bY->List UInt8->Option au
 |[],_=>none
 |b::bs,v=>if b.fVar=v then some b.fType else Tk bs v
mutual
noncomputable def y7(s:List bY):au->au->Option (List bY)
 | .mk k n a,t=>
   if k=1 then
    match Tk s n with
    |some u=>if dec (u=t)=true then some s else none
    |none=>some (s++[⟨n,t⟩])
   else if k=t.aH/\n=t.fName/\a.length=t.fArgs.length then rZ s a t.fArgs else none
noncomputable def rZ(s:List bY):List au->List au->Option (List bY)
 |[],_=>some s
 |_::_,[]=>none
 |p::ps,t::ts=>
  match y7 s p t with
  |some s'=>rZ s' ps ts
  |none=>none
end
mutual
def au.cnt:au->Nat
 | .mk _ _ a=>1+au.dW a
def au.dW:List au->Nat
 |[]=>0
 |t::ts=>t.cnt+au.dW ts
end
theorem au.pQ(t:au):t.cnt=1+au.dW t.fArgs:=by cases t;rw[au.cnt];rfl
mutual
theorem pR:∀t:au,t.cnt<=1+t.sz
 | .mk k n a=>by
   have h:=tH a;rw[au.cnt]
   have e:(au.mk k n a).sz=n.length+(a.length+bC (a.map au.enc)):=by
    simp only[au.sz,au.aB,bG,D.sz,ai,au.fName,au.fArgs,di,cL]
   omega
theorem tH:∀ts:List au,au.dW ts<=ts.length+bC (ts.map au.enc)
 |[]=>by simp[au.dW]
 |t::ts=>by
  have h1:=pR t;have h2:=tH ts;rw[au.dW,aa,ag,bC,au.dz];omega
end
mutual
theorem Vr:∀(p:au)(s:List bY)(t:au)(s':List bY),y7 s p t=some s'->s'.length<=s.length+p.cnt
 | .mk k n a,s,t,s',h=>by
   rw[y7] at h;rw[au.cnt];split at h
   ·split at h
    ·split at h
     ·cases h;omega
     ·cases h
    ·cases h;simp
   ·split at h
    ·have:=IX a s t.fArgs s' h;omega
    ·cases h
theorem IX:∀(ps:List au)(s:List bY)(ts:List au)(s':List bY),rZ s ps ts=some s'->s'.length<=s.length+au.dW ps
 |[],s,ts,s',h=>by rw[rZ] at h;cases h;omega
 |p::ps,s,[],s',h=>by rw[rZ] at h;cases h
 |p::ps,s,t::ts,s',h=>by
  rw[rZ] at h;rw[au.dW]
  cases hm:y7 s p t with
  |none=>rw[hm] at h;cases h
  |some s1=>
   rw[hm] at h;have h1:=Vr p s t s1 hm;have h2:=IX ps s1 ts s' h;omega
end
def Small(s:List bY):Prop:=∀b∈s,b.fType.sz<=4194304
mutual
theorem O9:∀(p:au)(s:List bY)(t:au)(s':List bY),t.sz<=4194304->Small s->y7 s p t=some s'->Small s'
 | .mk k n a,s,t,s',ht,hs,h=>by
   rw[y7] at h;split at h
   ·split at h
    ·split at h
     ·cases h;exact hs
     ·cases h
    ·cases h;intro b hb;rcases ec.1 hb with hb|hb
     ·exact hs b hb
     ·simp at hb;subst hb;exact ht
   ·split at h
    ·refine DK a s t.fArgs s' ?_ hs h;intro x hx;have h1:=iK (cE (f:=au.enc) hx)
     have h2:t.sz=t.fName.length+(t.fArgs.length+bC (t.fArgs.map au.enc)):=by
      simp only[au.sz,au.aB,bG,dR,D.sz,ai,di,cL]
     rw[au.dz] at h1;omega
    ·cases h
theorem DK:∀(ps:List au)(s:List bY)(ts:List au)(s':List bY),(∀t∈ts,t.sz<=4194304)->Small s->rZ s ps ts=some s'->Small s'
 |[],s,ts,s',ht,hs,h=>by rw[rZ] at h;cases h;exact hs
 |p::ps,s,[],s',ht,hs,h=>by rw[rZ] at h;cases h
 |p::ps,s,t::ts,s',ht,hs,h=>by
  rw[rZ] at h
  cases hm:y7 s p t with
  |none=>rw[hm] at h;cases h
  |some s1=>
   rw[hm] at h;exact DK ps s1 ts s' (fun x hx=>ht x (by simp[hx])) (O9 p s t s1 (ht t (by simp)) hs hm) h
end
end Go.Ab
namespace Go.Proofs.YtlaaknnkeidlbaaGreatDoor.Fa
open Go Go.Ab
abbrev gM(t c b:Nat)(z:List C):Prop:=prog.cellsOf t=c/\prog.bytesOf t=b/\(prog.info? t).isSome=true/\gK prog t=some z
theorem gQ{t c b:Nat}{z:List C}(h1:prog.cellsOf t=c:=by kernel_rfl)(h2:prog.bytesOf t=b:=by kernel_rfl)(h3:(prog.info? t).isSome=true:=by kernel_rfl)(h4:gK prog t=some z:=by kernel_rfl):gM t c b z:=⟨h1,h2,h3,h4⟩
theorem ty1:gM 1 1 8 [.d (.o .nilFunc)]:=gQ
theorem ty2:gM 2 1 8 [.d (.i .i64 0)]:=gQ
theorem ty3:gM 3 1 8 [.d (.i .i64 0)]:=gQ
theorem ty4:gM 4 1 1 [.d (.b false)]:=gQ
theorem ah6:zeroV prog 4=some (.bool false):=by kernel_rfl
theorem ty5:gM 5 1 1 [.d (.i .u8 0)]:=gQ
theorem ty9:gM 9 1 16 [.d (.s [])]:=gQ
theorem ajl:gM 12 1 8 [.d (.i .u64 0)]:=gQ
theorem ajm:gM 20 1 16 [.d (.o .nilIface)]:=gQ
theorem ajn:gM 21 1 4 [.d (.i .i32 0)]:=gQ
theorem ajo:gM 22 1 24 [.bB []]:=gQ
theorem ajp:gM 23 1 8 [.d (.o .nilFunc)]:=gQ
theorem ajq:gM 24 1 24 [.bB []]:=gQ
theorem ajr:gM 25 3 48 [.d (.i .i64 0),.d (.s []),.bB []]:=gQ
theorem ajs:gM 26 3 48 [.d (.i .i64 0),.d (.s []),.bB []]:=gQ
theorem ajt:gM 27 1 24 [.bB []]:=gQ
theorem aju:gM 28 1 24 [.bB []]:=gQ
theorem ajv:gM 30 9 144 [.d (.i .i64 0),.d (.s []),.d (.s []),.d (.i .i64 0),.d (.i .i64 0),.d (.s []),.bB [],.bB [],.bB []]:=gQ
theorem ajw:gM 35 1 24 [.bB []]:=gQ
theorem ajx:gM 36 2 40 [.d (.s []),.bB []]:=gQ
theorem ajy:gM 37 2 40 [.d (.s []),.bB []]:=gQ
theorem ajz:gM 38 1 8 [.d (.o .nilFunc)]:=gQ
theorem ajA:gM 40 1 8 [.d (.o .nilFunc)]:=gQ
theorem ajB:gM 41 1 8 [.d (.o .nilFunc)]:=gQ
theorem ajC:gM 43 1 24 [.bB []]:=gQ
theorem ajD:gM 58 1 8 [.d (.o (.pointer none))]:=gQ
theorem ajE:gM 68 1 8 [.d (.o .nilFunc)]:=gQ
theorem ajF:gM 69 1 8 [.d (.o .nilFunc)]:=gQ
theorem ajG:gM 70 1 8 [.d (.o .nilFunc)]:=gQ
theorem ajH:gM 71 1 8 [.d (.o .nilFunc)]:=gQ
theorem ajI:gM 73 11 184 [.d (.s []),.bB [],.d (.i .i64 0),.d (.s []),.d (.s []),.d (.i .i64 0),.d (.i .i64 0),.d (.s []),.bB [],.bB [],.bB []]:=gQ
theorem ajJ:gM 77 1 8 [.d (.o .nilFunc)]:=gQ
theorem ajK:gM 86 1 24 [.bB []]:=gQ
theorem ajL:gM 88 3 64 [.d (.s []),.bB [],.bB []]:=gQ
theorem ajM:gM 90 1 24 [.bB []]:=gQ
theorem ah7:gM 113 1 24 [.bB []]:=gQ
theorem ah8:gM 116 3 40 [.bB [],.d (.i .i64 0),.d (.i .i64 0)]:=gQ
theorem ah9:gM 118 1 8 [.d (.o (.pointer none))]:=gQ
theorem aia:gM 120 2 32 [.d (.o (.pointer none)),.bB []]:=gQ
theorem aib:gM 123 1 24 [.bB []]:=gQ
theorem aic:gM 127 1 8 [.d (.o .nilFunc)]:=gQ
theorem aie:gM 128 1 8 [.d (.o .nilFunc)]:=gQ
theorem aif:gM 129 1 8 [.d (.o .nilFunc)]:=gQ
theorem aii:gM 164 2 40 [.d (.s []),.bB []]:=gQ
theorem aij:gM 167 1 8 [.d (.o .nilFunc)]:=gQ
theorem aik:gM 176 1 8 [.d (.o (.pointer none))]:=gQ
theorem ail:gM 178 5 48 [.d (.s []),.d (.i .i64 0),.d (.i .i64 0),.d (.i .i64 0),.d (.b false)]:=gQ
theorem ain:gM 190 1 16 [.d (.o .nilIface)]:=gQ
theorem aio:gM 194 1 8 [.d (.o (.pointer none))]:=gQ
theorem aip:gM 206 1 8 [.d (.o .nilFunc)]:=gQ
theorem aiq:gM 216 4 64 [.d (.s []),.d (.i .i64 0),.d (.s []),.bB []]:=gQ
theorem air:gM 220 1 8 [.d (.o (.map none))]:=gQ
theorem ais:gM 224 1 8 [.d (.o .nilFunc)]:=gQ
theorem ait:gM 227 1 8 [.d (.o .nilFunc)]:=gQ
theorem aiu:gM 255 1 8 [.d (.o .nilFunc)]:=gQ
theorem aiv:gM 275 1 24 [.bB []]:=gQ
theorem laidOut:laidOutB prog=true:=by kernel_rfl
theorem own:ownKnob prog.godebug=none:=by kernel_rfl
attribute [go_sem] ty1 underlying1 ty2 underlying2 ty3 underlying3 ty4 underlying4 ah6 ty5 underlying5 ty9 underlying9 ajl underlying12 ajm underlying20 ajn underlying21 ajo underlying22 ajp underlying23 ajq underlying24 ajr underlying25 ajs underlying26 ajt underlying27 aju underlying28 ajv underlying30 ajw underlying35 ajx underlying36 ajy underlying37 ajz underlying38 ajA underlying40 ajB underlying41 ajC underlying43 ajD underlying58 ajE underlying68 ajF underlying69 ajG underlying70 ajH underlying71 ajI underlying73 ajJ underlying77 ajK underlying86 ajL underlying88 ajM underlying90 ah7 underlying113 ah8 underlying116 ah9 underlying118 aia underlying120 aib underlying123 aic underlying127 aie underlying128 aif underlying129 aii underlying164 aij underlying167 aik underlying176 ail underlying178 ain underlying190 aio underlying194 aip underlying206 aiq underlying216 air underlying220 ais underlying224 ait underlying227 aiu underlying255 aiv underlying275
end Go.Proofs.YtlaaknnkeidlbaaGreatDoor.Fa
namespace Go.Ab
mutual
def aj.cnt:aj->Nat
 | .mk _ _ _ _ _ a b=>1+(aj.dW a+aK.dW b)
def aj.dW:List aj->Nat
 |[]=>0
 |x::xs=>x.cnt+aj.dW xs
def aK.cnt:aK->Nat
 | .mk _ _ b=>b.cnt
def aK.dW:List aK->Nat
 |[]=>0
 |x::xs=>x.cnt+aK.dW xs
end
theorem aj.pQ(x:aj):x.cnt=1+(aj.dW x.fArgs+aK.dW x.aG):=by cases x;rw[aj.cnt];rfl
theorem aK.pQ(x:aK):x.cnt=x.fBody.cnt:=by cases x;rw[aK.cnt];rfl
theorem aj.nU{xs:List aj}{i:Nat}(hi:i<xs.length):aj.dW (xs.drop i)=xs[i].cnt+aj.dW (xs.drop (i+1)):=by rw[bO hi,aj.dW]
theorem aK.nU{xs:List aK}{i:Nat}(hi:i<xs.length):aK.dW (xs.drop i)=xs[i].fBody.cnt+aK.dW (xs.drop (i+1)):=by rw[bO hi,aK.dW,aK.pQ]
theorem aj.Pb(x:aj):x.fArgs.length+bC (x.fArgs.map aj.enc)<=x.sz/\x.aG.length+bC (x.aG.map aK.enc)<=x.sz:=by
 simp only[aj.sz,aj.aB,bG,dR,D.sz,ai];omega
theorem aK.KN(x:aK):x.fBody.sz<=x.sz:=by
 simp only[aK.sz,aK.aB,aj.sz,bG,dR,D.sz,ai];omega
mutual
theorem aj.pR:∀x:aj,x.cnt<=1+x.sz
 | .mk k t n m ty a b=>by
   have h1:=aj.tH a;have h2:=aK.tH b;rw[aj.cnt];simp only[aj.sz,aj.aB,bG,dR,D.sz,ai,aj.fArgs,aj.aG];omega
theorem aj.tH:∀xs:List aj,aj.dW xs<=xs.length+bC (xs.map aj.enc)
 |[]=>by simp[aj.dW]
 |x::xs=>by
  have h1:=aj.pR x;have h2:=aj.tH xs;rw[aj.dW,aa,ag,bC,aj.dz];omega
theorem aK.pR:∀x:aK,x.cnt<=1+x.sz
 | .mk c v b=>by
   have h1:=aj.pR b;have h2:=aK.KN (.mk c v b);rw[aK.cnt];simp only[aK.fBody] at h2;omega
theorem aK.tH:∀xs:List aK,aK.dW xs<=xs.length+bC (xs.map aK.enc)
 |[]=>by simp[aK.dW]
 |x::xs=>by
  have h1:=aK.pR x;have h2:=aK.tH xs;rw[aK.dW,aa,ag,bC,aK.dz];omega
end
theorem y8:∀n:Nat,∀x:aj,SizeOf.sizeOf x<n->x.sz<=4194304->aF prog 96 [x.v] (.c (.d (.i .i64 x.cnt)))
 |0=>fun x h=>by omega
 |n+1=>by
  have ih:=y8 n;intro x hn hsz S;have j4:=aj.jo x;have BU:=aj.tu x;have hp:=aj.Pb x;have hc:=aj.pR x;have he:=aj.pQ x;refine zcx [.tmp 2] func96 ntmps96 ?_;simp -implicitDefEqProofs (disch:=omega) only[go_sem]
  refine bI (ι:=Nat×Nat) zmx rfl [1,3,9,10,11] (fun y=>[.c (.ptr (0,0) 0),.c (.d (.i .i64 y.2)),.c (.d (.sl (x.fArgs.map aj.enc))),.c (.d (.i .i64 x.fArgs.length)),.c (.d (.i .i64 y.1))]) (fun y=>[.box (x.enc.map .d)]::S)
   (fun y=>y.1<=x.fArgs.length/\x.cnt=y.2+aj.dW (x.fArgs.drop y.1)+aK.dW x.aG) (fun y=>x.fArgs.length-y.1) (0,1) rfl ?_ ⟨ba _,by simp only[db];omega⟩ ?_
  ·simp -implicitDefEqProofs (disch:=omega) only[go_sem]
  rintro⟨i,c⟩ ⟨p1,p2⟩;simp only at p1 p2;simp -implicitDefEqProofs (disch:=omega) only[go_sem]
  with_reducible refine ay (fun hb=> ?_) (fun hb=> ?_)<;>have h:=hb<;>(try simp only[wf_preprocess] at h)<;>simp -implicitDefEqProofs (disch:=omega) only[go_sem,hb]<;>(repeat(with_reducible refine And.intro ?_ ?_;focus first|omega|rfl|assumption|exact⟨_,rfl,rfl⟩|(simp;omega)|(simp;done)))
  ·have hi:i<x.fArgs.length:=by omega
   have hx:x.fArgs[i].sz<=bC (x.fArgs.map aj.enc):=iK (cE (ap hi));rw[aj.nU hi] at p2
   (repeat(with_reducible refine And.intro ?_ ?_;focus first|omega|rfl|assumption|exact⟨_,rfl,rfl⟩|(simp;omega)|(simp;done)))
   refine aA (ih x.fArgs[i] (by have:=bc (ap hi);omega) (by omega)) ?_;simp -implicitDefEqProofs (disch:=omega) only[go_sem]<;>(repeat(with_reducible refine And.intro ?_ ?_;focus first|omega|rfl|assumption|exact⟨_,rfl,rfl⟩|(simp;omega)|(simp;done)));rw[show(c:Int)+(x.fArgs[i].cnt:Int)=((c+x.fArgs[i].cnt:Nat):Int) by omega];exact iD 1 (by decide) (i+1,c+x.fArgs[i].cnt) (by simp only;omega) rfl rfl rfl rfl ⟨by simp only;omega,by simp only;omega⟩
  have hi:i=x.fArgs.length:=by omega
  rw[hi,cH,aj.dW] at p2
  refine bI (ι:=Nat×Nat) zmx rfl [3,21,22,23] (fun y=>[.c (.d (.i .i64 y.2)),.c (.d (.sl (x.aG.map aK.enc))),.c (.d (.i .i64 x.aG.length)),.c (.d (.i .i64 y.1))]) (fun y=>[.box (x.enc.map .d)]::S)
   (fun y=>y.1<=x.aG.length/\x.cnt=y.2+aK.dW (x.aG.drop y.1)) (fun y=>x.aG.length-y.1) (0,c) rfl ?_ ⟨ba _,by simp only[db];omega⟩ ?_
  ·simp -implicitDefEqProofs (disch:=omega) only[go_sem]
  clear p1 p2 hb h hi i;rintro⟨i,d⟩ ⟨p1,p2⟩;simp only at p1 p2;simp -implicitDefEqProofs (disch:=omega) only[go_sem]
  with_reducible refine ay (fun hb=> ?_) (fun hb=> ?_)<;>have h:=hb<;>(try simp only[wf_preprocess] at h)<;>simp -implicitDefEqProofs (disch:=omega) only[go_sem,hb]<;>(repeat(with_reducible refine And.intro ?_ ?_;focus first|omega|rfl|assumption|exact⟨_,rfl,rfl⟩|(simp;omega)|(simp;done)))
  ·have hi:i<x.aG.length:=by omega
   have hx:x.aG[i].sz<=bC (x.aG.map aK.enc):=iK (cE (ap hi));have hy:=aK.KN x.aG[i];have hs:=bc (ap hi);have hs':=aK.rD x.aG[i];rw[aK.nU hi] at p2
   (repeat(with_reducible refine And.intro ?_ ?_;focus first|omega|rfl|assumption|exact⟨_,rfl,rfl⟩|(simp;omega)|(simp;done)))
   refine aA (ih x.aG[i].fBody (by omega) (by omega)) ?_;simp -implicitDefEqProofs (disch:=omega) only[go_sem]<;>(repeat(with_reducible refine And.intro ?_ ?_;focus first|omega|rfl|assumption|exact⟨_,rfl,rfl⟩|(simp;omega)|(simp;done)));rw[show(d:Int)+(x.aG[i].fBody.cnt:Int)=((d+x.aG[i].fBody.cnt:Nat):Int) by omega];exact iD 1 (by decide) (i+1,d+x.aG[i].fBody.cnt) (by simp only;omega) rfl rfl rfl rfl ⟨by simp only;omega,by simp only;omega⟩
  ·have hi:i=x.aG.length:=by omega
   rw[hi,cH,aK.dW] at p2;exact int_eq (by omega)
theorem IY(x:aj)(hsz:x.sz<=4194304):aF prog 96 [x.v] (.c (.d (.i .i64 x.cnt))):=y8 _ x (br _) hsz
end Go.Ab