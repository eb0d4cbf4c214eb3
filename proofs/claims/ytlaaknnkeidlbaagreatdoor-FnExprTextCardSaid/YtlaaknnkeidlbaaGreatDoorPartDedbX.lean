/-
  SEVERAL TEXTS IN ONE (merged by program): contracts and models, each with its own heading.
-/
import Derived.Test.YtlaaknnkeidlbaaGreatDoorPartDedbW
import Derived.Shelf.Strconv.Atoi
import Derived.Shelf.LaysC
import Derived.Shelf.Strconv.AtoiErr
import Derived.Shelf.Strconv.ErrVar
import Derived.Lib.AppendIntMem
import Derived.Lib.AtoiBound
set_option maxHeartbeats 8000000
open Go.Proofs Go.Proofs.Tryz
set_option linter.unusedSimpArgs false
set_option linter.unusedVariables false
set_option maxRecDepth 4000
namespace Go.Proofs
open Go.Shelf
def Tryz.lays172_ren:Go.Shelf.Ren:=⟨fun|172=>238|244=>264|245=>265|247=>282|279=>283|280=>284|281=>285|282=>286|287=>295|316=>296|171=>190|205=>297|321=>304|322=>305|243=>244|246=>268|283=>288|284=>289|285=>290|286=>291|129=>300|317=>299|318=>301|319=>302|320=>303|337=>309|338=>310|n=>n,fun|9=>9|3=>3|75=>190|76=>191|4=>4|5=>5|167=>260|37=>22|0=>0|85=>261|2=>2|168=>263|53=>268|175=>277|46=>198|210=>281|127=>194|145=>293|143=>291|21=>21|171=>267|173=>271|212=>285|51=>286|20=>20|213=>287|232=>297|233=>298|80=>122|n=>n,fun|15=>1|16=>2|17=>3|18=>4|19=>5|n=>n⟩
theorem Tryz.lays172:Go.Proofs.Lays.n172 prog Tryz.lays172_ren:={
 mixed:=by kernel_rfl
 f129:=func300.trans (congrArg some (by kernel_rfl))
 f171:=func190.trans (congrArg some (by kernel_rfl))
 f172:=func238.trans (congrArg some (by kernel_rfl))
 f205:=func297.trans (congrArg some (by kernel_rfl))
 f243:=func244.trans (congrArg some (by kernel_rfl))
 f244:=func264.trans (congrArg some (by kernel_rfl))
 f245:=func265.trans (congrArg some (by kernel_rfl))
 f246:=func268.trans (congrArg some (by kernel_rfl))
 f247:=func282.trans (congrArg some (by kernel_rfl))
 f279:=func283.trans (congrArg some (by kernel_rfl))
 f280:=func284.trans (congrArg some (by kernel_rfl))
 f281:=func285.trans (congrArg some (by kernel_rfl))
 f282:=func286.trans (congrArg some (by kernel_rfl))
 f283:=func288.trans (congrArg some (by kernel_rfl))
 f284:=func289.trans (congrArg some (by kernel_rfl))
 f285:=func290.trans (congrArg some (by kernel_rfl))
 f286:=func291.trans (congrArg some (by kernel_rfl))
 f287:=func295.trans (congrArg some (by kernel_rfl))
 f316:=func296.trans (congrArg some (by kernel_rfl))
 f317:=func299.trans (congrArg some (by kernel_rfl))
 f318:=func301.trans (congrArg some (by kernel_rfl))
 f319:=func302.trans (congrArg some (by kernel_rfl))
 f320:=func303.trans (congrArg some (by kernel_rfl))
 f321:=func304.trans (congrArg some (by kernel_rfl))
 f322:=func305.trans (congrArg some (by kernel_rfl))
 f337:=func309.trans (congrArg some (by kernel_rfl))
 f338:=func310.trans (congrArg some (by kernel_rfl))
 t0:=underlying0
 a0:=Tryz.isAgg0
 z0:=Tryz.sizeOf0
 v0:=Tryz.zeroValue0
 t2:=underlying2
 a2:=Tryz.isAgg2
 z2:=Tryz.sizeOf2
 v2:=Tryz.zeroValue2
 t3:=underlying3
 a3:=Tryz.isAgg3
 z3:=Tryz.sizeOf3
 v3:=Tryz.zeroValue3
 t4:=underlying4
 a4:=Tryz.isAgg4
 z4:=Tryz.sizeOf4
 v4:=Tryz.zeroValue4
 t5:=underlying5
 a5:=Tryz.isAgg5
 z5:=Tryz.sizeOf5
 v5:=Tryz.zeroValue5
 t9:=underlying9
 a9:=Tryz.isAgg9
 z9:=Tryz.sizeOf9
 v9:=Tryz.zeroValue9
 t20:=underlying20
 a20:=Tryz.isAgg20
 z20:=Tryz.sizeOf20
 v20:=Tryz.zeroValue20
 t21:=underlying21
 a21:=Tryz.isAgg21
 z21:=Tryz.sizeOf21
 v21:=Tryz.zeroValue21
 t37:=underlying22
 a37:=Tryz.isAgg22
 z37:=Tryz.sizeOf22
 v37:=Tryz.zeroValue22
 t46:=underlying198
 a46:=Tryz.isAgg198
 z46:=Tryz.sizeOf198
 v46:=Tryz.zeroValue198
 t51:=underlying286
 a51:=Tryz.isAgg286
 z51:=Tryz.sizeOf286
 v51:=Tryz.zeroValue286
 t53:=underlying268
 a53:=Tryz.isAgg268
 z53:=Tryz.sizeOf268
 v53:=Tryz.zeroValue268
 t75:=underlying190
 a75:=Tryz.isAgg190
 z75:=Tryz.sizeOf190
 v75:=Tryz.zeroValue190
 t76:=underlying191
 a76:=Tryz.isAgg191
 z76:=Tryz.sizeOf191
 v76:=Tryz.zeroValue191
 t85:=underlying261
 a85:=Tryz.isAgg261
 z85:=Tryz.sizeOf261
 v85:=Tryz.zeroValue261
 t127:=underlying194
 a127:=Tryz.isAgg194
 z127:=Tryz.sizeOf194
 v127:=Tryz.zeroValue194
 t143:=underlying291
 a143:=Tryz.isAgg291
 z143:=Tryz.sizeOf291
 v143:=Tryz.zeroValue291
 t145:=underlying293
 a145:=Tryz.isAgg293
 z145:=Tryz.sizeOf293
 v145:=Tryz.zeroValue293
 t167:=underlying260
 a167:=Tryz.isAgg260
 z167:=Tryz.sizeOf260
 v167:=Tryz.zeroValue260
 t168:=underlying263
 a168:=Tryz.isAgg263
 z168:=Tryz.sizeOf263
 v168:=Tryz.zeroValue263
 t171:=underlying267
 a171:=Tryz.isAgg267
 z171:=Tryz.sizeOf267
 v171:=Tryz.zeroValue267
 t173:=underlying271
 a173:=Tryz.isAgg271
 z173:=Tryz.sizeOf271
 v173:=Tryz.zeroValue271
 t175:=underlying277
 a175:=Tryz.isAgg277
 z175:=Tryz.sizeOf277
 v175:=Tryz.zeroValue277
 t210:=underlying281
 a210:=Tryz.isAgg281
 z210:=Tryz.sizeOf281
 v210:=Tryz.zeroValue281
 t212:=underlying285
 a212:=Tryz.isAgg285
 z212:=Tryz.sizeOf285
 v212:=Tryz.zeroValue285
 t213:=underlying287
 a213:=Tryz.isAgg287
 z213:=Tryz.sizeOf287
 t232:=underlying297
 a232:=Tryz.isAgg297
 z232:=Tryz.sizeOf297
 v232:=Tryz.zeroValue297
 t233:=underlying298
 a233:=Tryz.isAgg298
 z233:=Tryz.sizeOf298
 v233:=Tryz.zeroValue298
 g15:=by kernel_rfl
 g16:=by kernel_rfl
 g17:=by kernel_rfl
 g18:=by kernel_rfl
 g19:=by kernel_rfl}
open Go.RowKit in
theorem Tryz.strconv_Atoi(s:ByteArray)(n:Int)(hl:s.size<=18)(h:Lib.atoi s.data.toList=some n)(w:World):
 Calls prog 238 #[.string s] w fun e w'=>e=.returned (.tuple #[.int .i64 n,.nilIface])/\∃t,w'=Lib.bytesWorld w 5 t:=Any.strconv_Atoi Tryz.lays172 s n hl h w
def Tryz.laysC172_ren:Go.Shelf.Ren:=⟨fun|172=>238|244=>264|245=>265|247=>282|279=>283|280=>284|281=>285|282=>286|287=>295|316=>296|171=>190|205=>297|321=>304|322=>305|243=>244|246=>268|283=>288|284=>289|285=>290|286=>291|129=>300|317=>299|318=>301|319=>302|320=>303|337=>309|338=>310|n=>n,fun|9=>9|3=>3|75=>190|76=>191|4=>4|5=>5|167=>260|37=>22|0=>0|85=>261|2=>2|168=>263|53=>268|175=>277|46=>198|210=>281|127=>194|145=>293|143=>291|21=>21|171=>267|173=>271|212=>285|51=>286|20=>20|213=>287|232=>297|233=>298|80=>122|n=>n,fun|15=>1|16=>2|17=>3|18=>4|19=>5|n=>n⟩
theorem Tryz.laysC172:Go.Proofs.LaysC.n172 prog Tryz.laysC172_ren:={
 mixed:=by kernel_rfl
 f129:=func300.trans (congrArg some (by kernel_rfl))
 f171:=func190.trans (congrArg some (by kernel_rfl))
 f172:=func238.trans (congrArg some (by kernel_rfl))
 f205:=func297.trans (congrArg some (by kernel_rfl))
 f243:=func244.trans (congrArg some (by kernel_rfl))
 f244:=func264.trans (congrArg some (by kernel_rfl))
 f245:=func265.trans (congrArg some (by kernel_rfl))
 f246:=func268.trans (congrArg some (by kernel_rfl))
 f247:=func282.trans (congrArg some (by kernel_rfl))
 f279:=func283.trans (congrArg some (by kernel_rfl))
 f280:=func284.trans (congrArg some (by kernel_rfl))
 f281:=func285.trans (congrArg some (by kernel_rfl))
 f282:=func286.trans (congrArg some (by kernel_rfl))
 f283:=func288.trans (congrArg some (by kernel_rfl))
 f284:=func289.trans (congrArg some (by kernel_rfl))
 f285:=func290.trans (congrArg some (by kernel_rfl))
 f286:=func291.trans (congrArg some (by kernel_rfl))
 f287:=func295.trans (congrArg some (by kernel_rfl))
 f316:=func296.trans (congrArg some (by kernel_rfl))
 f317:=func299.trans (congrArg some (by kernel_rfl))
 f318:=func301.trans (congrArg some (by kernel_rfl))
 f319:=func302.trans (congrArg some (by kernel_rfl))
 f320:=func303.trans (congrArg some (by kernel_rfl))
 f321:=func304.trans (congrArg some (by kernel_rfl))
 f322:=func305.trans (congrArg some (by kernel_rfl))
 f337:=func309.trans (congrArg some (by kernel_rfl))
 f338:=func310.trans (congrArg some (by kernel_rfl))
 t0:=underlying0
 a0:=Tryz.isAgg0
 z0:=Tryz.sizeOf0
 v0:=Tryz.zeroValue0
 t2:=underlying2
 a2:=Tryz.isAgg2
 z2:=Tryz.sizeOf2
 v2:=Tryz.zeroValue2
 t3:=underlying3
 a3:=Tryz.isAgg3
 z3:=Tryz.sizeOf3
 v3:=Tryz.zeroValue3
 t4:=underlying4
 a4:=Tryz.isAgg4
 z4:=Tryz.sizeOf4
 v4:=Tryz.zeroValue4
 t5:=underlying5
 a5:=Tryz.isAgg5
 z5:=Tryz.sizeOf5
 v5:=Tryz.zeroValue5
 t9:=underlying9
 a9:=Tryz.isAgg9
 z9:=Tryz.sizeOf9
 v9:=Tryz.zeroValue9
 t20:=underlying20
 a20:=Tryz.isAgg20
 z20:=Tryz.sizeOf20
 v20:=Tryz.zeroValue20
 t21:=underlying21
 a21:=Tryz.isAgg21
 z21:=Tryz.sizeOf21
 v21:=Tryz.zeroValue21
 t37:=underlying22
 a37:=Tryz.isAgg22
 z37:=Tryz.sizeOf22
 v37:=Tryz.zeroValue22
 t46:=underlying198
 a46:=Tryz.isAgg198
 z46:=Tryz.sizeOf198
 v46:=Tryz.zeroValue198
 t51:=underlying286
 a51:=Tryz.isAgg286
 z51:=Tryz.sizeOf286
 v51:=Tryz.zeroValue286
 t53:=underlying268
 a53:=Tryz.isAgg268
 z53:=Tryz.sizeOf268
 v53:=Tryz.zeroValue268
 t75:=underlying190
 a75:=Tryz.isAgg190
 z75:=Tryz.sizeOf190
 v75:=Tryz.zeroValue190
 t76:=underlying191
 a76:=Tryz.isAgg191
 z76:=Tryz.sizeOf191
 v76:=Tryz.zeroValue191
 t85:=underlying261
 a85:=Tryz.isAgg261
 z85:=Tryz.sizeOf261
 v85:=Tryz.zeroValue261
 t127:=underlying194
 a127:=Tryz.isAgg194
 z127:=Tryz.sizeOf194
 v127:=Tryz.zeroValue194
 t143:=underlying291
 a143:=Tryz.isAgg291
 z143:=Tryz.sizeOf291
 v143:=Tryz.zeroValue291
 t145:=underlying293
 a145:=Tryz.isAgg293
 z145:=Tryz.sizeOf293
 v145:=Tryz.zeroValue293
 t167:=underlying260
 a167:=Tryz.isAgg260
 z167:=Tryz.sizeOf260
 v167:=Tryz.zeroValue260
 t168:=underlying263
 a168:=Tryz.isAgg263
 z168:=Tryz.sizeOf263
 v168:=Tryz.zeroValue263
 t171:=underlying267
 a171:=Tryz.isAgg267
 z171:=Tryz.sizeOf267
 v171:=Tryz.zeroValue267
 t173:=underlying271
 a173:=Tryz.isAgg271
 z173:=Tryz.sizeOf271
 v173:=Tryz.zeroValue271
 t175:=underlying277
 a175:=Tryz.isAgg277
 z175:=Tryz.sizeOf277
 v175:=Tryz.zeroValue277
 t210:=underlying281
 a210:=Tryz.isAgg281
 z210:=Tryz.sizeOf281
 v210:=Tryz.zeroValue281
 t212:=underlying285
 a212:=Tryz.isAgg285
 z212:=Tryz.sizeOf285
 v212:=Tryz.zeroValue285
 t213:=underlying287
 a213:=Tryz.isAgg287
 z213:=Tryz.sizeOf287
 t232:=underlying297
 a232:=Tryz.isAgg297
 z232:=Tryz.sizeOf297
 v232:=Tryz.zeroValue297
 t233:=underlying298
 a233:=Tryz.isAgg298
 z233:=Tryz.sizeOf298
 v233:=Tryz.zeroValue298
 g15:=by kernel_rfl
 g16:=by kernel_rfl
 g17:=by kernel_rfl
 g18:=by kernel_rfl
 g19:=by kernel_rfl
 t80:=underlying122
 a80:=Tryz.isAgg122
 z80:=Tryz.sizeOf122
 v80:=Tryz.zeroValue122
 i0:=by kernel_rfl
 i2:=by kernel_rfl
 i3:=by kernel_rfl
 i4:=by kernel_rfl
 i5:=by kernel_rfl
 i9:=by kernel_rfl
 i20:=by kernel_rfl
 i21:=by kernel_rfl
 i37:=by kernel_rfl
 i46:=by kernel_rfl
 i51:=by kernel_rfl
 i53:=by kernel_rfl
 i75:=by kernel_rfl
 i76:=by kernel_rfl
 i80:=by kernel_rfl
 i85:=by kernel_rfl
 i127:=by kernel_rfl
 i143:=by kernel_rfl
 i145:=by kernel_rfl
 i167:=by kernel_rfl
 i168:=by kernel_rfl
 i171:=by kernel_rfl
 i173:=by kernel_rfl
 i175:=by kernel_rfl
 i210:=by kernel_rfl
 i212:=by kernel_rfl
 i232:=by kernel_rfl
 i233:=by kernel_rfl
 m15:=by kernel_rfl
 m16:=by kernel_rfl
 m17:=by kernel_rfl
 m18:=by kernel_rfl
 m19:=by kernel_rfl
 c0:=by kernel_rfl
 c2:=by kernel_rfl
 c3:=by kernel_rfl
 c4:=by kernel_rfl
 c5:=by kernel_rfl
 c9:=by kernel_rfl
 c20:=by kernel_rfl
 c21:=by kernel_rfl
 c37:=by kernel_rfl
 c46:=by kernel_rfl
 c51:=by kernel_rfl
 c53:=by kernel_rfl
 c75:=by kernel_rfl
 c76:=by kernel_rfl
 c80:=by kernel_rfl
 c85:=by kernel_rfl
 c127:=by kernel_rfl
 c143:=by kernel_rfl
 c145:=by kernel_rfl
 c167:=by kernel_rfl
 c168:=by kernel_rfl
 c171:=by kernel_rfl
 c173:=by kernel_rfl
 c175:=by kernel_rfl
 c210:=by kernel_rfl
 c212:=by kernel_rfl
 c213:=by kernel_rfl
 c232:=by kernel_rfl
 c233:=by kernel_rfl}
open Go.RowKit in
theorem Tryz.strconv_Atoi_err_var(s:ByteArray)(hl:s.size<=18)(h:Lib.atoi s.data.toList=none)(tp:TypeId)(p:Value)(w:World)(hvar:w.var? prog "strconv.ErrSyntax" =some #[.iface tp p]):
 Calls prog 238 #[.string s] w fun e w'=>∃N,e=.returned (.tuple #[.int .i64 0,.iface 263 (.pointer (some ⟨N,0,none⟩))])/\w.heap.size<=N/\w'.heap[N]? =some (.cells #[.string ⟨#[65,116,111,105]⟩,.string s,.iface tp p] 281 (0,0))/\Below w.heap.size w w':=Any.strconv_Atoi_err_var Tryz.laysC172 s hl h tp p w hvar
end Go.Proofs
namespace Go.Ab
theorem M9{w w':World}{σ:Nat->Nat}(hl:∀b,b<w.heap.size\/σ b=0)(h:Go.RowKit.Below w.heap.size w w'):Grow w σ w' σ:=
 ⟨h.size,h.os,h.output,fun b hb=>⟨h.block b hb,rfl⟩,fun b=>(hl b).elim (fun x=>.inl (cP x h.size)) .inr⟩
theorem ZO{x y z:V}{vs:List Value}{w:World}{σ:Nat->Nat}{S:Store}{β:Hs}(h:jX w σ S β [x,y,z] vs):∃u v t,vs=[u,v,t]/\bJ w σ S β x u/\bJ w σ S β y v/\bJ w σ S β z t:=by
 obtain⟨hl,h⟩:=h;obtain⟨u,e0,h0⟩:=h 0 x rfl;obtain⟨v,e1,h1⟩:=h 1 y rfl;obtain⟨t,e2,h2⟩:=h 2 z rfl
 match vs,hl,e0,e1,e2 with
 |[a,b,c],_,e0,e1,e2=>simp at e0 e1 e2;subst e0;subst e1;subst e2;exact⟨_,_,_,rfl,h0,h1,h2⟩
theorem WH(n:Int)(h0: -9223372036854775808<=n)(h1:n<=9223372036854775807)(w:World)(htab:Lib.TabIs prog w "internal/strconv.uint64pow10" .u64 Lib.pow10Tab):
 Calls prog 190 #[.int .i64 n] w fun e w'=>e=.returned (.string ⟨(Lib.itoa n).toArray⟩)/\Go.RowKit.Below w.heap.size w w':=
 (Tryz.strconv_Itoa n h0 h1 w htab).mono fun e w' ⟨he,k,os,hw⟩=>⟨he,by
   subst hw
   exact⟨rfl,rfl,rfl,by show w.heap.size<=(w.heap++os).size;simp,fun b hb=>by show(w.heap++os)[b]? =_;rw[cC hb]⟩⟩
theorem SC(s:List UInt8)(hs:s.length<=18)(tp:TypeId)(p:Value)(w:World)(htab:Lib.TabIs prog w "internal/strconv.uint64pow10" .u64 Lib.pow10Tab)(hvar:w.var? prog "strconv.ErrSyntax" =some #[.iface tp p]):
 Calls prog 180 #[.string ⟨s.toArray⟩,.int .i64 (-999999999999),.int .i64 999999999999] w fun e w'=>e=.returned (.tuple #[.int .i64 ((fu s).getD 0),.bool (fu s).isSome])/\Go.RowKit.Below w.heap.size w w':=by
 have hsz:(⟨s.toArray⟩:ByteArray).size<=18:=by show s.toArray.size<=18;simpa using hs
 cases h:Lib.atoi s with
 |none=>
  have hc:=Tryz.strconv_Atoi_err_var ⟨s.toArray⟩ hsz (by simpa using h) tp p w hvar
  have wQ:fu s=none:=by unfold fu;rw[h]
  rw[wQ];clear hsz
  go_enter func180,ntmps180
  go_wp2_with (go_at_call 238;refine hc.mono ?_;rintro e W1 ⟨N,rfl,-,-,hb⟩)
  go_ret2
  exact⟨rfl,hb⟩
 |some n=>
  have hbd:=Lib.atoi_bound h hs;have hc:=Tryz.strconv_Atoi ⟨s.toArray⟩ n hsz (by simpa using h) w
  have wQ:fu s=if(-999999999999<=n/\n<=999999999999)/\Lib.itoa n=s then some n else none:=by unfold fu;rw[h]
  have hc':Calls prog 238 #[.string ⟨s.toArray⟩] w fun e w'=>e=.returned (.tuple #[.int .i64 n,.nilIface])/\Go.RowKit.Below w.heap.size w w':=hc.mono fun e w' ⟨he,t,hw⟩=>⟨he,by rw[hw];exact Lib.bytesWorld_below _ _ _⟩
  have hi:∀W1,Go.RowKit.Below w.heap.size w W1->Calls prog 190 #[.int .i64 n] W1 fun e w'=>e=.returned (.string ⟨(Lib.itoa n).toArray⟩)/\Go.RowKit.Below w.heap.size w w':=fun W1 hw=>
   (WH n (by omega) (by omega) _ ((Lib.tabBelow_of_tabIs htab).on hw).here).mono fun e w' ⟨he,hb⟩=>⟨he,hw.trans (hb.mono hw.size)⟩
  clear hsz h hc
  go_enter func180,ntmps180
  go_wp2_with (first|(go_at_call 238;refine hc'.mono ?_;rintro e W1 ⟨rfl,hb1⟩)|(go_at_call 190;refine(hi _ hb1).mono ?_;rintro e W2 ⟨rfl,hb2⟩))
  all_goals go_ret2
  all_goals first
   |(exfalso;omega)
   |exact⟨rfl,hb2⟩
   |exact⟨rfl,hb1⟩
   |(rw[wQ,if_pos ⟨⟨by omega,by omega⟩,by simp_all;done⟩];exact⟨rfl,hb2⟩)
   |(rw[wQ,if_neg (by rintro⟨hc,_⟩;omega)];exact⟨rfl,hb1⟩)
   |(rw[wQ,if_neg (by rintro⟨_,hc⟩;simp[hc] at *;omega)];exact⟨rfl,hb2⟩)
   |(rw[wQ,if_neg (by rintro⟨_,hc⟩;simp_all;done)];exact⟨rfl,hb2⟩)
   |trace_state
theorem Na{w:World}{σ:Nat->Nat}(h:iU w σ):∃tp p,w.var? prog "strconv.ErrSyntax" =some #[.iface tp p]:=by
 obtain⟨c,t,fz,q1,q2,q3⟩:=h 1 (fun l=>∃te pe,l=[Value.iface te pe]) (fa _ (fa _ (ez ..)));obtain⟨te,pe,e⟩:=q2
 have hn:prog.globalNamed "strconv.ErrSyntax" =some 1:=by kernel_rfl
 refine⟨te,pe,?_⟩;unfold World.var?;rw[hn];simp only[dc,q1,cb];exact Array.ext' e
theorem K3(s:List UInt8)(hs:s.length<=18):aF prog 180 [.c (.d (.s s)),.c (.d (.i .i64 (-999999999999))),.c (.d (.i .i64 999999999999))] (.dI [(false,[.d (.i .i64 ((fu s).getD 0))]),(false,[.d (.b (fu s).isSome)])]):=fun S=>by
 refine⟨⟨_,func180,by kernel_rfl,by kernel_rfl⟩,fun w σ β vs hS hv=> ?_⟩;obtain⟨u,v,t,rfl,⟨hu,_⟩,⟨hv,_⟩,⟨ht,_⟩⟩:=ZO hv
 have hu0:u=.string ⟨s.toArray⟩:=by cases hu;rfl
 have hv0:v=.int .i64 (-999999999999):=by cases hv;rfl
 have ht0:t=.int .i64 999999999999:=by cases ht;rfl
 subst hu0 hv0 ht0;obtain⟨tp,p,hvar⟩:=Na hS.lX;refine(SC s hs tp p w (L9 hS.lX) hvar).mono fun e w' ⟨he,hb⟩=> ?_;have hg:Grow w σ w' σ:=M9 hS.live hb
 exact⟨_,.dI [(false,[.d (.i .i64 ((fu s).getD 0))]),(false,[.d (.b (fu s).isSome)])],S,σ,β,he,hS.grow hg,Keep.refl _ _,Step.jm hg,⟨_,rfl,rfl,fun j y hy=>by
  match j,hy with
  |0,hy=>simp at hy;subst hy;exact⟨_,rfl,_,rfl,.i _ _,rfl⟩
  |1,hy=>simp at hy;subst hy;exact⟨_,rfl,_,rfl,.b _,rfl⟩
  |j+2,hy=>simp at hy⟩,rfl,rfl⟩
theorem J4(s:List UInt8)(hs:s.length<=18):aF prog 92 [.c (.d (.s s))] (.dI [(false,[.d (.i .i64 ((fu s).getD 0))]),(false,[.d (.b (fu s).isSome)])]):=fun S=>by
 refine zcx [.tmp 2,.tmp 3] func92 ntmps92 ?_;simp -implicitDefEqProofs (disch:=omega) only[go_sem];refine aA (K3 s hs) ?_;simp -implicitDefEqProofs (disch:=omega) only[go_sem]<;>(repeat(with_reducible refine And.intro ?_ ?_;focus first|omega|rfl|assumption|exact⟨_,rfl,rfl⟩|(simp;omega)|(simp;done)))
theorem yF{l:List ah}(h2:2<=l.length)(h:cO l 0=fM->3<=l.length):sw true l:=fun e=>by
 rcases e.2 with e|e
 ·omega
 ·have:=h e.1;omega
theorem MH{x:ah}(h:gu x=true)(ha:x.aI=[]):fI x.ak=true:=by rw[ze,if_pos ha] at h;exact h
theorem ZP{x:ah}(h:gu x=true)(ha:x.aI≠[]):x.aI.length<=18:=by
 rw[ze,if_neg ha,af] at h;have h1:=h.1;unfold validAtom at h1;rw[af,decide_eq_true_eq] at h1;omega
theorem ZQ{x:ah}(h:gu x=true)(ha:x.ak≠[]):fI x.ak=true:=by
 by_cases e:x.aI=[]
 ·exact MH h e
 ·rw[ze,if_neg e,af,decide_eq_true_eq] at h;exact absurd (bh h.2) ha
theorem ma0{x:aK}{n:Nat}(h:x=.mk [] [] lW):Less (.agg [.d (.s []),.bB [],.d (.i .i64 0),.d (.s []),.d (.s []),.d (.i .i64 0),.d (.i .i64 0),.d (.s []),.bB [],.bB [],.bB []]) (x.vl n):=by
 rw[h];exact(dV.cons (.refl _) (.cons (gq _) (.cons (.refl _) (.cons (.refl _) (.cons (.refl _) (.cons (.refl _) (.cons (.refl _) (.cons (.refl _) (.cons (gq _) (.cons (gq _) (.cons (gq _) .nil))))))))))).less
theorem EB:∀N:Nat,(∀x:ah,SizeOf.sizeOf x<N->∀n:Nat,gu x=true->x.sz<=4194304->aF prog 39 [x.v] ((bW true x).vl n))/\
 (∀xs:List ah,SizeOf.sizeOf xs<N->∀n q:Nat,fI xs=true->xs.length<=4194304->(∀t∈xs,t.sz<=4194304)->aF prog 93 [.c (.d (.sl (xs.map ah.enc)))] (.c (.d (.ol n (lE (xs.map (bW true)) q)))))/\
 (∀x:ah,SizeOf.sizeOf x<N->∀n:Nat,gu x=true->x.sz<=4194304->aF prog 95 [x.v] ((mZ true x).vl n))
 |0=>⟨fun x h=>by omega,fun x h=>by omega,fun x h=>by omega⟩
 |N+1=>by
  obtain⟨ih,mD,ihM⟩:=EB N;refine⟨fun x hn n hfo hsz=>aF.of_le fun S=> ?_,fun xs hn n q hfo hlen hsz S=> ?_,fun x hn n hfo hsz=>aF.of_le fun S=> ?_⟩
  ·have j4:=ah.qj x;have h1:=sO x;have h2:=Cq x
   have hall:∀t∈x.ak,t.sz<=4194304:=fun t ht=>by have:=nD ht;omega
   have hr:=ji (l:=x.ak);have hso:=fun i=>vY i x.ak
   have hdl:∀i,(x.ak.drop i).length<=4194304:=fun i=>by rw[bj];omega
   have hda:∀i,∀t∈x.ak.drop i,t.sz<=4194304:=fun i t ht=>hall t (eh ht);have hdd:=wY x.ak x.ak.length 1 (ax _);refine oU (n) (rs:=[.cell 2 30]) zmx func39 ntmps39 rfl rfl rfl rfl rfl ?_;simp -implicitDefEqProofs (disch:=omega) only[go_sem]
   with_reducible refine ay (fun hb=> ?_) (fun hb=> ?_)<;>have h:=hb<;>(try simp only[wf_preprocess] at h)<;>simp -implicitDefEqProofs (disch:=omega) only[go_sem,hb]<;>(repeat(with_reducible refine And.intro ?_ ?_;focus first|omega|rfl|assumption|exact⟨_,rfl,rfl⟩|(simp;omega)|(simp;done)))
   ·have hne:=h;refine aA (J4 x.aI (ZP hfo hne)) ?_
    cases wQ:fu x.aI with
    |some m=>
     simp -implicitDefEqProofs (disch:=omega) only[go_sem,cN,Option.isSome_some];exact TL (Qs hne wQ)
    |none=>
     simp -implicitDefEqProofs (disch:=omega) only[go_sem,Option.getD_none,fg]
     with_reducible refine ay (fun hb=> ?_) (fun hb=> ?_)<;>have h:=hb<;>(try simp only[wf_preprocess] at h)<;>simp -implicitDefEqProofs (disch:=omega) only[go_sem,hb]<;>(repeat(with_reducible refine And.intro ?_ ?_;focus first|omega|rfl|assumption|exact⟨_,rfl,rfl⟩|(simp;omega)|(simp;done)))
     ·exact TL (MF hne wQ h)
     have k1:=h
     with_reducible refine ay (fun hb=> ?_) (fun hb=> ?_)<;>have h:=hb<;>(try simp only[wf_preprocess] at h)<;>simp -implicitDefEqProofs (disch:=omega) only[go_sem,hb]<;>(repeat(with_reducible refine And.intro ?_ ?_;focus first|omega|rfl|assumption|exact⟨_,rfl,rfl⟩|(simp;omega)|(simp;done)))
     ·exact TL (J3 hne wQ k1 h)
     have k2:=h;exact TL (Qt hne wQ k1 k2)
   have ha:=h;have hfs:=MH hfo ha
   with_reducible refine ay (fun hb=> ?_) (fun hb=> ?_)<;>have h:=hb<;>(try simp only[wf_preprocess] at h)<;>simp -implicitDefEqProofs (disch:=omega) only[go_sem,hb]<;>(repeat(with_reducible refine And.intro ?_ ?_;focus first|omega|rfl|assumption|exact⟨_,rfl,rfl⟩|(simp;omega)|(simp;done)))
   ·exact TL (ME ha fun e=>e ⟨rfl,.inl (by omega)⟩)
   have hl2:2<=x.ak.length:=by omega
   have a0:=oL (l:=x.ak) (i:=0) (by omega);obtain⟨m,hm⟩:∃m,m=x.ak.drop 1:=⟨_,rfl⟩
   have hml:m.length=x.ak.length-1:=by rw[hm,bj]
   have hmi:∀i (hi:i<m.length),m[i]=x.ak[i+1]'(by omega):=fun i hi=>by simp only[hm,List.getElem_drop,dE 1 i]
   have hrm:=ji (l:=m)
   have hmd:∀i,m.drop i=x.ak.drop (i+1):=fun i=>by rw[hm,List.drop_drop,dE 1 i]
   have hme:=fun i=>wY m m.length i (ax _)
   have b1:cO x.ak 1=(m[0]'(by omega)).aI:=by rw[hmi 0 (by omega),oL (by omega)]
   refine⟨⟨by omega,by omega,hr⟩,?_⟩;rw[hdd,<-hm];simp only[<-a0]
   with_reducible refine ay (fun hb=> ?_) (fun hb=> ?_)<;>have h:=hb<;>(try simp only[wf_preprocess] at h)<;>simp -implicitDefEqProofs (disch:=omega) only[go_sem,hb]<;>(repeat(with_reducible refine And.intro ?_ ?_;focus first|omega|rfl|assumption|exact⟨_,rfl,rfl⟩|(simp;omega)|(simp;done)))
   ·have hg:=yF hl2 fun e=>by rw[h] at e;exact absurd e (by decide)
    have hdec:=Mw ha hg h
    (repeat(with_reducible refine And.intro ?_ ?_;focus first|omega|rfl|assumption|exact⟨_,rfl,rfl⟩|(simp;omega)|(simp;done)))
    refine⟨⟨by omega,by omega,hrm⟩,?_⟩;rw[hme,hmd,<-b1];refine aA (mD (x.ak.drop 2) (by have:=hso 2;omega) (n+1) (n+1+1) (nZ hfs 2) (hdl 2) (hda 2)) ?_;simp -implicitDefEqProofs (disch:=omega) only[go_sem];exact Qu hdec
   have WB:=h
   with_reducible refine ay (fun hb=> ?_) (fun hb=> ?_)<;>have h:=hb<;>(try simp only[wf_preprocess] at h)<;>simp -implicitDefEqProofs (disch:=omega) only[go_sem,hb]<;>(repeat(with_reducible refine And.intro ?_ ?_;focus first|omega|rfl|assumption|exact⟨_,rfl,rfl⟩|(simp;omega)|(simp;done)))
   ·have hg:=yF hl2 fun e=>by rw[h] at e;exact absurd e (by decide)
    have hdec:=Qp ha hg h
    (repeat(with_reducible refine And.intro ?_ ?_;focus first|omega|rfl|assumption|exact⟨_,rfl,rfl⟩|(simp;omega)|(simp;done)))
    refine⟨⟨by omega,by omega,hrm⟩,?_⟩;rw[hme,hmd,<-b1];refine aA (mD (x.ak.drop 2) (by have:=hso 2;omega) (n+1) (n+1+1) (nZ hfs 2) (hdl 2) (hda 2)) ?_;simp -implicitDefEqProofs (disch:=omega) only[go_sem];exact Qu hdec
   have nNew:=h
   with_reducible refine ay (fun hb=> ?_) (fun hb=> ?_)<;>have h:=hb<;>(try simp only[wf_preprocess] at h)<;>simp -implicitDefEqProofs (disch:=omega) only[go_sem,hb]<;>(repeat(with_reducible refine And.intro ?_ ?_;focus first|omega|rfl|assumption|exact⟨_,rfl,rfl⟩|(simp;omega)|(simp;done)))
   ·have hg:=yF hl2 fun e=>by rw[h] at e;exact absurd e (by decide)
    have hdec:=Qq ha hg h
    (repeat(with_reducible refine And.intro ?_ ?_;focus first|omega|rfl|assumption|exact⟨_,rfl,rfl⟩|(simp;omega)|(simp;done)))
    refine⟨⟨by omega,by omega,hrm⟩,?_⟩;rw[hme,hmd,<-b1];refine aA (mD (x.ak.drop 2) (by have:=hso 2;omega) (n+1) (n+1+1) (nZ hfs 2) (hdl 2) (hda 2)) ?_;simp -implicitDefEqProofs (disch:=omega) only[go_sem];exact Qu hdec
   have acV:=h
   with_reducible refine ay (fun hb=> ?_) (fun hb=> ?_)<;>have h:=hb<;>(try simp only[wf_preprocess] at h)<;>simp -implicitDefEqProofs (disch:=omega) only[go_sem,hb]<;>(repeat(with_reducible refine And.intro ?_ ?_;focus first|omega|rfl|assumption|exact⟨_,rfl,rfl⟩|(simp;omega)|(simp;done)))
   ·have hg:=yF hl2 fun e=>by rw[h] at e;exact absurd e (by decide)
    have hdec:=Mx ha hg h
    (repeat(with_reducible refine And.intro ?_ ?_;focus first|omega|rfl|assumption|exact⟨_,rfl,rfl⟩|(simp;omega)|(simp;done)))
    refine⟨⟨by omega,by omega,hrm⟩,?_⟩;rw[hme,hmd,<-b1];refine aA (mD (x.ak.drop 2) (by have:=hso 2;omega) (n+1) (n+1+1) (nZ hfs 2) (hdl 2) (hda 2)) ?_;simp -implicitDefEqProofs (disch:=omega) only[go_sem];exact Qu hdec
   have WC:=h
   with_reducible refine ay (fun hb=> ?_) (fun hb=> ?_)<;>have h:=hb<;>(try simp only[wf_preprocess] at h)<;>simp -implicitDefEqProofs (disch:=omega) only[go_sem,hb]<;>(repeat(with_reducible refine And.intro ?_ ?_;focus first|omega|rfl|assumption|exact⟨_,rfl,rfl⟩|(simp;omega)|(simp;done)))
   ·have hM:=h
    with_reducible refine ay (fun hb=> ?_) (fun hb=> ?_)<;>have h:=hb<;>(try simp only[wf_preprocess] at h)<;>simp -implicitDefEqProofs (disch:=omega) only[go_sem,hb]<;>(repeat(with_reducible refine And.intro ?_ ?_;focus first|omega|rfl|assumption|exact⟨_,rfl,rfl⟩|(simp;omega)|(simp;done)))
    ·exact TL (ME ha fun e=>e ⟨rfl,.inr ⟨hM,by omega⟩⟩)
    have hl3:3<=x.ak.length:=by omega
    have hg:=yF hl2 fun _=>hl3;have hdec:=Gl ha hg hM
    have b2:cO x.ak 2=(m[1]'(by omega)).aI:=by rw[hmi 1 (by omega),oL (by omega)]
    (repeat(with_reducible refine And.intro ?_ ?_;focus first|omega|rfl|assumption|exact⟨_,rfl,rfl⟩|(simp;omega)|(simp;done)))
    refine⟨⟨by omega,by omega,hrm⟩,?_⟩;rw[hme,hmd,<-b1,<-b2];refine aA (mD (x.ak.drop 3) (by have:=hso 3;omega) (n+1) (n+1+1) (nZ hfs 3) (hdl 3) (hda 3)) ?_;simp -implicitDefEqProofs (disch:=omega) only[go_sem];exact Qu hdec
   have FE:=h;have hg:=yF hl2 fun e=>(FE e).elim
   with_reducible refine ay (fun hb=> ?_) (fun hb=> ?_)<;>have h:=hb<;>(try simp only[wf_preprocess] at h)<;>simp -implicitDefEqProofs (disch:=omega) only[go_sem,hb]<;>(repeat(with_reducible refine And.intro ?_ ?_;focus first|omega|rfl|assumption|exact⟨_,rfl,rfl⟩|(simp;omega)|(simp;done)))
   ·have hdec:=TK ha hg h;rw[hm];refine aA (mD (x.ak.drop 1) (by have:=hso 1;omega) (n+1) (n+1+1) (nZ hfs 1) (hdl 1) (hda 1)) ?_;simp -implicitDefEqProofs (disch:=omega) only[go_sem];exact Qu hdec
   have nIf:=h
   with_reducible refine ay (fun hb=> ?_) (fun hb=> ?_)<;>have h:=hb<;>(try simp only[wf_preprocess] at h)<;>simp -implicitDefEqProofs (disch:=omega) only[go_sem,hb]<;>(repeat(with_reducible refine And.intro ?_ ?_;focus first|omega|rfl|assumption|exact⟨_,rfl,rfl⟩|(simp;omega)|(simp;done)))
   ·have hdec:=Qr ha hg h
    have g1:x.ak.getD 1 gF=m[0]'(by omega):=by rw[hmi 0 (by omega),cr,al (by omega)];rfl
    have gz:=Qw x 1 hsz;rw[g1] at hdec gz
    (repeat(with_reducible refine And.intro ?_ ?_;focus first|omega|rfl|assumption|exact⟨_,rfl,rfl⟩|(simp;omega)|(simp;done)))
    refine aA (M8 m[0] n gz) ?_;simp -implicitDefEqProofs (disch:=omega) only[go_sem];refine⟨⟨by omega,by omega,hrm⟩,?_⟩;rw[hme,hmd];refine aA (mD (x.ak.drop 2) (by have:=hso 2;omega) (n+(jH (fq true m[0]).fArgs+1)) (n+(jH (fq true m[0]).fArgs+1)+1) (nZ hfs 2) (hdl 2) (hda 2)) ?_;simp -implicitDefEqProofs (disch:=omega) only[go_sem];exact ie2 hdec
   have nThe:=h
   with_reducible refine ay (fun hb=> ?_) (fun hb=> ?_)<;>have h:=hb<;>(try simp only[wf_preprocess] at h)<;>simp -implicitDefEqProofs (disch:=omega) only[go_sem,hb]<;>(repeat(with_reducible refine And.intro ?_ ?_;focus first|omega|rfl|assumption|exact⟨_,rfl,rfl⟩|(simp;omega)|(simp;done)))
   ·have hdec:=MB ha hg h;refine⟨⟨by omega,hrm⟩,?_⟩;rw[<-du];refine aA (mD (m.take 1) (by have:=hso 1;have:=Aw 1 m;rw[hm] at this ⊢;omega) (n+1) (n+1+1) (ZN (by rw[hm];exact nZ hfs 1) 1) (by rw[bm];omega) (fun t ht=>hda 1 t (by rw[<-hm];exact eg ht))) ?_;simp -implicitDefEqProofs (disch:=omega) only[go_sem];refine⟨⟨by omega,by omega,hrm⟩,?_⟩;rw[hme,hmd];obtain⟨lH,WE⟩:∃lH,lH=(m.take 1).map (bW true):=⟨_,rfl⟩;obtain⟨r,hrr⟩:∃r,r=x.ak.drop 2:=⟨_,rfl⟩
    have hrl:r.length=x.ak.length-2:=by rw[hrr,bj]
    have hrs:∀t∈r,t.sz<=4194304/\SizeOf.sizeOf t<N/\gu t=true:=fun t ht=>by
     rw[hrr] at ht;have h5:=eh ht;have:=bc h5;exact⟨hda 2 t ht,by omega,zy hfs h5⟩
    obtain⟨q,hq⟩:∃q,q=n+1+(pI lH+1):=⟨_,rfl⟩;obtain⟨L,hL⟩:∃L:Nat->Nat,L=fun k=>q+1+Wy ((r.map (mZ true)).take k):=⟨_,rfl⟩;obtain⟨T,hT⟩:∃T:Nat->List (List D),T=fun k=>lM ((r.map (mZ true)).take k) (q+1):=⟨_,rfl⟩
    have hT0:T 0=[]:=by rw[hT];rfl
    have Bg:∀k,(T k).length<=k:=fun k=>by rw[hT];simp only[ZK];exact ci _ _
    have hTs:∀k (hk:k<r.length),T k++[eu (mZ true r[k]).enc (L k)]=T (k+1):=fun k hk=>by
     have:=afv (l:=r.map (mZ true)) (i:=k) (by rw[ai];exact hk) (q+1);rw[cj] at this;rw[hT,hL];exact this
    have hTe:T r.length=lM (r.map (mZ true)) (q+1):=by
     rw[hT];simp only
     rw[cm (by simp)]
    clear hT hL;rw[<-hm,<-WE,<-hrr] at hdec;rw[<-WE,<-hrr];simp -implicitDefEqProofs (disch:=omega) only[go_sem];refine Wd q 3 8 11 _ rfl rfl ?_
    refine bI (ι:=Nat) zmx rfl [2,7,127,128,129] (fun k=>[.c (.ptr (0,2) 0),.c (.ptr (0,3) 0),.c (.d (.sl (r.map ah.enc))),.c (.d (.i .i64 r.length)),.c (.d (.i .i64 k))])
     (fun k=>[.seed n,.box [.d (.s x.aI),.d (.sl (x.ak.map ah.enc))],.box [.d (.i .i64 0),.d (.s []),.d (.s []),.d (.i .i64 0),.d (.i .i64 0),.d (.s []),.bB [],.bB [],.bB []],
       .box [.d (.i .i64 7),.d (.s []),.d (.s []),.d (.i .i64 0),.d (.i .i64 0),.d (.s []),.bB [],.d (.ol (n+1) (lE lH (n+1+1))),.bM (0,4) (T k)],.dY q 11 (T k)]::S)
     (fun k=>k<=r.length) (fun k=>r.length-k) 0 rfl (by rw[hT0];rfl) (ba _) ?_
    intro k hk;have hlk:=Bg k;simp -implicitDefEqProofs (disch:=omega) only[go_sem]
    with_reducible refine ay (fun hb=> ?_) (fun hb=> ?_)<;>have h:=hb<;>(try simp only[wf_preprocess] at h)<;>simp -implicitDefEqProofs (disch:=omega) only[go_sem,hb]<;>(repeat(with_reducible refine And.intro ?_ ?_;focus first|omega|rfl|assumption|exact⟨_,rfl,rfl⟩|(simp;omega)|(simp;done)))
    ·have hk':k<r.length:=by omega
     have hmm:=hrs _ (ap hk');have hs:=hTs k hk';simp only[acU,zx,am,aw] at hs
     (repeat(with_reducible refine And.intro ?_ ?_;focus first|omega|rfl|assumption|exact⟨_,rfl,rfl⟩|(simp;omega)|(simp;done)))
     refine aA (ihM r[k] hmm.2.1 (L k) hmm.2.2 hmm.1) ?_;simp -implicitDefEqProofs (disch:=omega) only[go_sem]
     (repeat(with_reducible refine And.intro ?_ ?_;focus first|omega|rfl|assumption|exact⟨_,rfl,rfl⟩|(simp;omega)|(simp;done)))
     rw[hs];exact iD 5 (by decide) (k+1) (by omega) rfl rfl rfl rfl (by omega)
    ·have hk':k=r.length:=by omega
     rw[hk',hTe,hq];exact ie3 hdec
   have WG:=h;have hdec:=MC ha hg WB nNew acV WC FE nIf nThe WG;rw[hm];refine aA (mD (x.ak.drop 1) (by have:=hso 1;omega) (n+1) (n+1+1) (nZ hfs 1) (hdl 1) (hda 1)) ?_;simp -implicitDefEqProofs (disch:=omega) only[go_sem];exact Qu hdec
  ·have Ce:=fun(i:Nat) (hi:i<xs.length)=>afu (l:=xs.map (bW true)) (i:=i) (by rw[ai];exact hi) q;refine oU (n) (rs:=[.tmp 2]) zmx func93 ntmps93 rfl rfl rfl rfl rfl ?_;simp -implicitDefEqProofs (disch:=omega) only[go_sem]
   (repeat(with_reducible refine And.intro ?_ ?_;focus first|omega|rfl|assumption|exact⟨_,rfl,rfl⟩|(simp;omega)|(simp;done)))
   refine vv n 3 9 [] (.inl rfl) (by simp) ?_
   refine bI (ι:=Nat) zmx rfl [3,7,8,9] (fun i=>[.c (.bM (0,1) (lE ((xs.map (bW true)).take i) q)),.c (.d (.sl (xs.map ah.enc))),.c (.d (.i .i64 xs.length)),.c (.d (.i .i64 i))]) (fun i=>[.seed n,.dY n 9 (lE ((xs.map (bW true)).take i) q)]::S)
    (fun i=>i<=xs.length) (fun i=>xs.length-i) 0 rfl rfl (ba _) ?_
   intro i hi;simp -implicitDefEqProofs (disch:=omega) only[go_sem]
   with_reducible refine ay (fun hb=> ?_) (fun hb=> ?_)<;>have h:=hb<;>(try simp only[wf_preprocess] at h)<;>simp -implicitDefEqProofs (disch:=omega) only[go_sem,hb]<;>(repeat(with_reducible refine And.intro ?_ ?_;focus first|omega|rfl|assumption|exact⟨_,rfl,rfl⟩|(simp;omega)|(simp;done)))
   ·have hi':i<xs.length:=by omega
    have hs:=Ce i hi';rw[cj] at hs;simp only[zx] at hs
    have hl:(lE ((xs.map (bW true)).take i) q).length<=i:=by rw[ZJ];exact ci _ _
    (repeat(with_reducible refine And.intro ?_ ?_;focus first|omega|rfl|assumption|exact⟨_,rfl,rfl⟩|(simp;omega)|(simp;done)))
    refine aA (ih xs[i] (by have:=bc (ap hi');omega) (q+pI ((xs.map (bW true)).take i)) (zy hfo (ap hi')) (hsz _ (ap hi'))) ?_;simp -implicitDefEqProofs (disch:=omega) only[go_sem]
    (repeat(with_reducible refine And.intro ?_ ?_;focus first|omega|rfl|assumption|exact⟨_,rfl,rfl⟩|(simp;omega)|(simp;done)))
    rw[hs];exact iD 2 (by decide) (i+1) (by omega) rfl rfl rfl rfl (by omega)
   ·have hi':i=(xs.map (bW true)).length:=by rw[ai];omega
    rw[hi',co]
  ·have j4:=ah.qj x;have h1:=sO x
   have hall:∀t∈x.ak,t.sz<=4194304:=fun t ht=>by have:=nD ht;omega
   have hr:=ji (l:=x.ak);refine zcx [.cell 2 73] func95 ntmps95 ?_;simp -implicitDefEqProofs (disch:=omega) only[go_sem]
   with_reducible refine ay (fun hb=> ?_) (fun hb=> ?_)<;>have h:=hb<;>(try simp only[wf_preprocess] at h)<;>simp -implicitDefEqProofs (disch:=omega) only[go_sem,hb]<;>(repeat(with_reducible refine And.intro ?_ ?_;focus first|omega|rfl|assumption|exact⟨_,rfl,rfl⟩|(simp;omega)|(simp;done)))
   ·exact ma0 (TJ true x (by omega))
   have hl2:2<=x.ak.length:=by omega
   have a0:=oL (l:=x.ak) (i:=0) (by omega);have hm:=ap (l:=x.ak) (n:=x.ak.length-1) (by omega);have hfs:=ZQ hfo (fun e=>by rw[e] at hl2;simp at hl2);rw[TI true x hl2,a0];refine⟨⟨by omega,by omega,hr⟩,?_⟩;rw[MG _ hl2];refine aA (JV ((x.ak.drop 1).dropLast) (by rw[List.length_dropLast,bj];omega) n) ?_;simp -implicitDefEqProofs (disch:=omega) only[go_sem]
   (repeat(with_reducible refine And.intro ?_ ?_;focus first|omega|rfl|assumption|exact⟨_,rfl,rfl⟩|(simp;omega)|(simp;done)))
   have el:((x.ak.length:Int)-1).toNat=x.ak.length-1:=by omega
   simp only[el];refine aA (ih (x.ak[x.ak.length-1]) (by have:=bc hm;omega) (n+1) (zy hfs hm) (hall _ hm)) ?_;simp -implicitDefEqProofs (disch:=omega) only[go_sem];exact iZ _
theorem Qx(x:ah)(n:Nat)(hf:gu x=true)(hsz:x.sz<=4194304):aF prog 39 [x.v] ((bW true x).vl n):=(EB _).1 x (br _) n hf hsz
end Go.Ab