/-
  SEVERAL TEXTS IN ONE (merged by program): contracts and models, each with its own heading.
-/
import Derived.Test.YtokkjobjffhfjaaGreatDoorPartZibE
import Derived.Shelf.Strconv.Atoi
import Derived.Shelf.LaysC
import Derived.Shelf.Strconv.AtoiErr
import Derived.Shelf.Strconv.ErrVar
import Derived.Test.YtokkjobjffhfjaaGreatDoorProg
import Derived.Lib.AppendIntMem
import Derived.Lib.AtoiBound
import Derived.WalkKit
import Derived.ProofKit
import Derived.Lib.AppendZeros
import Derived.Laws.Cover3
set_option maxHeartbeats 8000000
open Go.Proofs Go.Proofs.Tryz
set_option linter.unusedSimpArgs false
set_option linter.unusedVariables false
set_option maxRecDepth 4000
namespace Go.Proofs
open Go.Shelf
def Tryz.lays172_ren:Go.Shelf.Ren:=⟨fun|172=>257|244=>298|245=>299|247=>317|279=>318|280=>319|281=>320|282=>321|287=>339|316=>340|171=>201|205=>341|321=>351|322=>352|243=>264|246=>305|283=>324|284=>325|285=>326|286=>327|129=>343|317=>342|318=>344|319=>345|320=>346|337=>353|338=>354|n=>n,fun|9=>9|3=>3|75=>239|76=>240|4=>4|5=>5|167=>275|37=>127|0=>0|85=>276|2=>2|168=>278|53=>282|175=>296|46=>262|210=>300|127=>311|145=>314|143=>312|21=>21|171=>281|173=>285|212=>303|51=>293|20=>20|213=>304|232=>316|233=>317|80=>318|n=>n,fun|15=>3|16=>4|17=>5|18=>6|19=>7|n=>n⟩
theorem Tryz.lays172:Go.Proofs.Lays.n172 prog Tryz.lays172_ren:={
 mixed:=by kernel_rfl
 f129:=func343.trans (congrArg some (by kernel_rfl))
 f171:=func201.trans (congrArg some (by kernel_rfl))
 f172:=func257.trans (congrArg some (by kernel_rfl))
 f205:=func341.trans (congrArg some (by kernel_rfl))
 f243:=func264.trans (congrArg some (by kernel_rfl))
 f244:=func298.trans (congrArg some (by kernel_rfl))
 f245:=func299.trans (congrArg some (by kernel_rfl))
 f246:=func305.trans (congrArg some (by kernel_rfl))
 f247:=func317.trans (congrArg some (by kernel_rfl))
 f279:=func318.trans (congrArg some (by kernel_rfl))
 f280:=func319.trans (congrArg some (by kernel_rfl))
 f281:=func320.trans (congrArg some (by kernel_rfl))
 f282:=func321.trans (congrArg some (by kernel_rfl))
 f283:=func324.trans (congrArg some (by kernel_rfl))
 f284:=func325.trans (congrArg some (by kernel_rfl))
 f285:=func326.trans (congrArg some (by kernel_rfl))
 f286:=func327.trans (congrArg some (by kernel_rfl))
 f287:=func339.trans (congrArg some (by kernel_rfl))
 f316:=func340.trans (congrArg some (by kernel_rfl))
 f317:=func342.trans (congrArg some (by kernel_rfl))
 f318:=func344.trans (congrArg some (by kernel_rfl))
 f319:=func345.trans (congrArg some (by kernel_rfl))
 f320:=func346.trans (congrArg some (by kernel_rfl))
 f321:=func351.trans (congrArg some (by kernel_rfl))
 f322:=func352.trans (congrArg some (by kernel_rfl))
 f337:=func353.trans (congrArg some (by kernel_rfl))
 f338:=func354.trans (congrArg some (by kernel_rfl))
 t0:=underlying0
 a0:=Tryz.isAgg0
 z0:=Tryz.sizeOf0
 v0:=Tryz.zeroValue0
 t2:=underlying2
 a2:=Tryz.isAgg2
 z2:=Tryz.sizeOf2
 v2:=Tryz.zeroValue2
 t3:=underlying3
 a3:=Tryz.isAgg3
 z3:=Tryz.sizeOf3
 v3:=Tryz.zeroValue3
 t4:=underlying4
 a4:=Tryz.isAgg4
 z4:=Tryz.sizeOf4
 v4:=Tryz.zeroValue4
 t5:=underlying5
 a5:=Tryz.isAgg5
 z5:=Tryz.sizeOf5
 v5:=Tryz.zeroValue5
 t9:=underlying9
 a9:=Tryz.isAgg9
 z9:=Tryz.sizeOf9
 v9:=Tryz.zeroValue9
 t20:=underlying20
 a20:=Tryz.isAgg20
 z20:=Tryz.sizeOf20
 v20:=Tryz.zeroValue20
 t21:=underlying21
 a21:=Tryz.isAgg21
 z21:=Tryz.sizeOf21
 v21:=Tryz.zeroValue21
 t37:=underlying127
 a37:=Tryz.isAgg127
 z37:=Tryz.sizeOf127
 v37:=Tryz.zeroValue127
 t46:=underlying262
 a46:=Tryz.isAgg262
 z46:=Tryz.sizeOf262
 v46:=Tryz.zeroValue262
 t51:=underlying293
 a51:=Tryz.isAgg293
 z51:=Tryz.sizeOf293
 v51:=Tryz.zeroValue293
 t53:=underlying282
 a53:=Tryz.isAgg282
 z53:=Tryz.sizeOf282
 v53:=Tryz.zeroValue282
 t75:=underlying239
 a75:=Tryz.isAgg239
 z75:=Tryz.sizeOf239
 v75:=Tryz.zeroValue239
 t76:=underlying240
 a76:=Tryz.isAgg240
 z76:=Tryz.sizeOf240
 v76:=Tryz.zeroValue240
 t85:=underlying276
 a85:=Tryz.isAgg276
 z85:=Tryz.sizeOf276
 v85:=Tryz.zeroValue276
 t127:=underlying311
 a127:=Tryz.isAgg311
 z127:=Tryz.sizeOf311
 v127:=Tryz.zeroValue311
 t143:=underlying312
 a143:=Tryz.isAgg312
 z143:=Tryz.sizeOf312
 v143:=Tryz.zeroValue312
 t145:=underlying314
 a145:=Tryz.isAgg314
 z145:=Tryz.sizeOf314
 v145:=Tryz.zeroValue314
 t167:=underlying275
 a167:=Tryz.isAgg275
 z167:=Tryz.sizeOf275
 v167:=Tryz.zeroValue275
 t168:=underlying278
 a168:=Tryz.isAgg278
 z168:=Tryz.sizeOf278
 v168:=Tryz.zeroValue278
 t171:=underlying281
 a171:=Tryz.isAgg281
 z171:=Tryz.sizeOf281
 v171:=Tryz.zeroValue281
 t173:=underlying285
 a173:=Tryz.isAgg285
 z173:=Tryz.sizeOf285
 v173:=Tryz.zeroValue285
 t175:=underlying296
 a175:=Tryz.isAgg296
 z175:=Tryz.sizeOf296
 v175:=Tryz.zeroValue296
 t210:=underlying300
 a210:=Tryz.isAgg300
 z210:=Tryz.sizeOf300
 v210:=Tryz.zeroValue300
 t212:=underlying303
 a212:=Tryz.isAgg303
 z212:=Tryz.sizeOf303
 v212:=Tryz.zeroValue303
 t213:=underlying304
 a213:=Tryz.isAgg304
 z213:=Tryz.sizeOf304
 t232:=underlying316
 a232:=Tryz.isAgg316
 z232:=Tryz.sizeOf316
 v232:=Tryz.zeroValue316
 t233:=underlying317
 a233:=Tryz.isAgg317
 z233:=Tryz.sizeOf317
 v233:=Tryz.zeroValue317
 g15:=by kernel_rfl
 g16:=by kernel_rfl
 g17:=by kernel_rfl
 g18:=by kernel_rfl
 g19:=by kernel_rfl}
open Go.RowKit in
theorem Tryz.strconv_Atoi(s:ByteArray)(n:Int)(hl:s.size<=18)(h:Lib.atoi s.data.toList=some n)(w:World):
 Calls prog 257 #[.string s] w fun e w'=>e=.returned (.tuple #[.int .i64 n,.nilIface])/\∃t,w'=Lib.bytesWorld w 5 t:=Any.strconv_Atoi Tryz.lays172 s n hl h w
def Tryz.laysC172_ren:Go.Shelf.Ren:=⟨fun|172=>257|244=>298|245=>299|247=>317|279=>318|280=>319|281=>320|282=>321|287=>339|316=>340|171=>201|205=>341|321=>351|322=>352|243=>264|246=>305|283=>324|284=>325|285=>326|286=>327|129=>343|317=>342|318=>344|319=>345|320=>346|337=>353|338=>354|n=>n,fun|9=>9|3=>3|75=>239|76=>240|4=>4|5=>5|167=>275|37=>127|0=>0|85=>276|2=>2|168=>278|53=>282|175=>296|46=>262|210=>300|127=>311|145=>314|143=>312|21=>21|171=>281|173=>285|212=>303|51=>293|20=>20|213=>304|232=>316|233=>317|80=>318|n=>n,fun|15=>3|16=>4|17=>5|18=>6|19=>7|n=>n⟩
theorem Tryz.laysC172:Go.Proofs.LaysC.n172 prog Tryz.laysC172_ren:={
 mixed:=by kernel_rfl
 f129:=func343.trans (congrArg some (by kernel_rfl))
 f171:=func201.trans (congrArg some (by kernel_rfl))
 f172:=func257.trans (congrArg some (by kernel_rfl))
 f205:=func341.trans (congrArg some (by kernel_rfl))
 f243:=func264.trans (congrArg some (by kernel_rfl))
 f244:=func298.trans (congrArg some (by kernel_rfl))
 f245:=func299.trans (congrArg some (by kernel_rfl))
 f246:=func305.trans (congrArg some (by kernel_rfl))
 f247:=func317.trans (congrArg some (by kernel_rfl))
 f279:=func318.trans (congrArg some (by kernel_rfl))
 f280:=func319.trans (congrArg some (by kernel_rfl))
 f281:=func320.trans (congrArg some (by kernel_rfl))
 f282:=func321.trans (congrArg some (by kernel_rfl))
 f283:=func324.trans (congrArg some (by kernel_rfl))
 f284:=func325.trans (congrArg some (by kernel_rfl))
 f285:=func326.trans (congrArg some (by kernel_rfl))
 f286:=func327.trans (congrArg some (by kernel_rfl))
 f287:=func339.trans (congrArg some (by kernel_rfl))
 f316:=func340.trans (congrArg some (by kernel_rfl))
 f317:=func342.trans (congrArg some (by kernel_rfl))
 f318:=func344.trans (congrArg some (by kernel_rfl))
 f319:=func345.trans (congrArg some (by kernel_rfl))
 f320:=func346.trans (congrArg some (by kernel_rfl))
 f321:=func351.trans (congrArg some (by kernel_rfl))
 f322:=func352.trans (congrArg some (by kernel_rfl))
 f337:=func353.trans (congrArg some (by kernel_rfl))
 f338:=func354.trans (congrArg some (by kernel_rfl))
 t0:=underlying0
 a0:=Tryz.isAgg0
 z0:=Tryz.sizeOf0
 v0:=Tryz.zeroValue0
 t2:=underlying2
 a2:=Tryz.isAgg2
 z2:=Tryz.sizeOf2
 v2:=Tryz.zeroValue2
 t3:=underlying3
 a3:=Tryz.isAgg3
 z3:=Tryz.sizeOf3
 v3:=Tryz.zeroValue3
 t4:=underlying4
 a4:=Tryz.isAgg4
 z4:=Tryz.sizeOf4
 v4:=Tryz.zeroValue4
 t5:=underlying5
 a5:=Tryz.isAgg5
 z5:=Tryz.sizeOf5
 v5:=Tryz.zeroValue5
 t9:=underlying9
 a9:=Tryz.isAgg9
 z9:=Tryz.sizeOf9
 v9:=Tryz.zeroValue9
 t20:=underlying20
 a20:=Tryz.isAgg20
 z20:=Tryz.sizeOf20
 v20:=Tryz.zeroValue20
 t21:=underlying21
 a21:=Tryz.isAgg21
 z21:=Tryz.sizeOf21
 v21:=Tryz.zeroValue21
 t37:=underlying127
 a37:=Tryz.isAgg127
 z37:=Tryz.sizeOf127
 v37:=Tryz.zeroValue127
 t46:=underlying262
 a46:=Tryz.isAgg262
 z46:=Tryz.sizeOf262
 v46:=Tryz.zeroValue262
 t51:=underlying293
 a51:=Tryz.isAgg293
 z51:=Tryz.sizeOf293
 v51:=Tryz.zeroValue293
 t53:=underlying282
 a53:=Tryz.isAgg282
 z53:=Tryz.sizeOf282
 v53:=Tryz.zeroValue282
 t75:=underlying239
 a75:=Tryz.isAgg239
 z75:=Tryz.sizeOf239
 v75:=Tryz.zeroValue239
 t76:=underlying240
 a76:=Tryz.isAgg240
 z76:=Tryz.sizeOf240
 v76:=Tryz.zeroValue240
 t85:=underlying276
 a85:=Tryz.isAgg276
 z85:=Tryz.sizeOf276
 v85:=Tryz.zeroValue276
 t127:=underlying311
 a127:=Tryz.isAgg311
 z127:=Tryz.sizeOf311
 v127:=Tryz.zeroValue311
 t143:=underlying312
 a143:=Tryz.isAgg312
 z143:=Tryz.sizeOf312
 v143:=Tryz.zeroValue312
 t145:=underlying314
 a145:=Tryz.isAgg314
 z145:=Tryz.sizeOf314
 v145:=Tryz.zeroValue314
 t167:=underlying275
 a167:=Tryz.isAgg275
 z167:=Tryz.sizeOf275
 v167:=Tryz.zeroValue275
 t168:=underlying278
 a168:=Tryz.isAgg278
 z168:=Tryz.sizeOf278
 v168:=Tryz.zeroValue278
 t171:=underlying281
 a171:=Tryz.isAgg281
 z171:=Tryz.sizeOf281
 v171:=Tryz.zeroValue281
 t173:=underlying285
 a173:=Tryz.isAgg285
 z173:=Tryz.sizeOf285
 v173:=Tryz.zeroValue285
 t175:=underlying296
 a175:=Tryz.isAgg296
 z175:=Tryz.sizeOf296
 v175:=Tryz.zeroValue296
 t210:=underlying300
 a210:=Tryz.isAgg300
 z210:=Tryz.sizeOf300
 v210:=Tryz.zeroValue300
 t212:=underlying303
 a212:=Tryz.isAgg303
 z212:=Tryz.sizeOf303
 v212:=Tryz.zeroValue303
 t213:=underlying304
 a213:=Tryz.isAgg304
 z213:=Tryz.sizeOf304
 t232:=underlying316
 a232:=Tryz.isAgg316
 z232:=Tryz.sizeOf316
 v232:=Tryz.zeroValue316
 t233:=underlying317
 a233:=Tryz.isAgg317
 z233:=Tryz.sizeOf317
 v233:=Tryz.zeroValue317
 g15:=by kernel_rfl
 g16:=by kernel_rfl
 g17:=by kernel_rfl
 g18:=by kernel_rfl
 g19:=by kernel_rfl
 t80:=underlying318
 a80:=Tryz.isAgg318
 z80:=Tryz.sizeOf318
 v80:=Tryz.zeroValue318
 i0:=by kernel_rfl
 i2:=by kernel_rfl
 i3:=by kernel_rfl
 i4:=by kernel_rfl
 i5:=by kernel_rfl
 i9:=by kernel_rfl
 i20:=by kernel_rfl
 i21:=by kernel_rfl
 i37:=by kernel_rfl
 i46:=by kernel_rfl
 i51:=by kernel_rfl
 i53:=by kernel_rfl
 i75:=by kernel_rfl
 i76:=by kernel_rfl
 i80:=by kernel_rfl
 i85:=by kernel_rfl
 i127:=by kernel_rfl
 i143:=by kernel_rfl
 i145:=by kernel_rfl
 i167:=by kernel_rfl
 i168:=by kernel_rfl
 i171:=by kernel_rfl
 i173:=by kernel_rfl
 i175:=by kernel_rfl
 i210:=by kernel_rfl
 i212:=by kernel_rfl
 i232:=by kernel_rfl
 i233:=by kernel_rfl
 m15:=by kernel_rfl
 m16:=by kernel_rfl
 m17:=by kernel_rfl
 m18:=by kernel_rfl
 m19:=by kernel_rfl
 c0:=by kernel_rfl
 c2:=by kernel_rfl
 c3:=by kernel_rfl
 c4:=by kernel_rfl
 c5:=by kernel_rfl
 c9:=by kernel_rfl
 c20:=by kernel_rfl
 c21:=by kernel_rfl
 c37:=by kernel_rfl
 c46:=by kernel_rfl
 c51:=by kernel_rfl
 c53:=by kernel_rfl
 c75:=by kernel_rfl
 c76:=by kernel_rfl
 c80:=by kernel_rfl
 c85:=by kernel_rfl
 c127:=by kernel_rfl
 c143:=by kernel_rfl
 c145:=by kernel_rfl
 c167:=by kernel_rfl
 c168:=by kernel_rfl
 c171:=by kernel_rfl
 c173:=by kernel_rfl
 c175:=by kernel_rfl
 c210:=by kernel_rfl
 c212:=by kernel_rfl
 c213:=by kernel_rfl
 c232:=by kernel_rfl
 c233:=by kernel_rfl}
open Go.RowKit in
theorem Tryz.strconv_Atoi_err_var(s:ByteArray)(hl:s.size<=18)(h:Lib.atoi s.data.toList=none)(tp:TypeId)(p:Value)(w:World)(hvar:w.var? prog "strconv.ErrSyntax" =some #[.iface tp p]):
 Calls prog 257 #[.string s] w fun e w'=>∃N,e=.returned (.tuple #[.int .i64 0,.iface 278 (.pointer (some ⟨N,0,none⟩))])/\w.heap.size<=N/\w'.heap[N]? =some (.cells #[.string ⟨#[65,116,111,105]⟩,.string s,.iface tp p] 300 (0,0))/\Below w.heap.size w w':=Any.strconv_Atoi_err_var Tryz.laysC172 s hl h tp p w hvar
end Go.Proofs
namespace Go.Ab
theorem Uy{w w':World}{σ:Nat->Nat}(hl:∀b,b<w.heap.size\/σ b=0)(h:Go.RowKit.Below w.heap.size w w'):Grow w σ w' σ:=
 ⟨h.size,h.os,h.output,fun b hb=>⟨h.block b hb,rfl⟩,fun b=>(hl b).elim (fun x=>.inl (Nat.lt_of_lt_of_le x h.size)) .inr⟩
theorem agm{x y z:V}{vs:List Value}{w:World}{σ:Nat->Nat}{S:Store}{β:Hs}(h:qm w σ S β [x,y,z] vs):∃u v t,vs=[u,v,t]/\dP w σ S β x u/\dP w σ S β y v/\dP w σ S β z t:=by
 obtain⟨hl,h⟩:=h;obtain⟨u,e0,h0⟩:=h 0 x rfl;obtain⟨v,e1,h1⟩:=h 1 y rfl;obtain⟨t,e2,h2⟩:=h 2 z rfl
 match vs,hl,e0,e1,e2 with
 |[a,b,c],_,e0,e1,e2=>simp at e0 e1 e2;subst e0;subst e1;subst e2;exact⟨_,_,_,rfl,h0,h1,h2⟩
theorem adu(n:Int)(h0: -9223372036854775808<=n)(h1:n<=9223372036854775807)(w:World)(htab:Lib.TabIs prog w "internal/strconv.uint64pow10" .u64 Lib.pow10Tab):
 Calls prog 201 #[.int .i64 n] w fun e w'=>e=.returned (.string ⟨(Lib.itoa n).toArray⟩)/\Go.RowKit.Below w.heap.size w w':=
 (Tryz.strconv_Itoa n h0 h1 w htab).mono fun e w' ⟨he,k,os,hw⟩=>⟨he,by
   subst hw
   exact⟨rfl,rfl,rfl,by show w.heap.size<=(w.heap++os).size;simp,fun b hb=>by show(w.heap++os)[b]? =_;rw[Array.getElem?_append_left hb]⟩⟩
theorem ZP(s:List UInt8)(hs:s.length<=18)(tp:TypeId)(p:Value)(w:World)(htab:Lib.TabIs prog w "internal/strconv.uint64pow10" .u64 Lib.pow10Tab)(hvar:w.var? prog "strconv.ErrSyntax" =some #[.iface tp p]):
 Calls prog 191 #[.string ⟨s.toArray⟩,.int .i64 (-999999999999),.int .i64 999999999999] w fun e w'=>e=.returned (.tuple #[.int .i64 ((iA s).getD 0),.bool (iA s).isSome])/\Go.RowKit.Below w.heap.size w w':=by
 have hsz:(⟨s.toArray⟩:ByteArray).size<=18:=by show s.toArray.size<=18;simpa using hs
 cases h:Lib.atoi s with
 |none=>
  have hc:=Tryz.strconv_Atoi_err_var ⟨s.toArray⟩ hsz (by simpa using h) tp p w hvar
  have Ct:iA s=none:=by unfold iA;rw[h]
  rw[Ct];clear hsz
  go_enter func191,ntmps191
  go_wp2_with (go_at_call 257;refine hc.mono ?_;rintro e W1 ⟨N,rfl,-,-,hb⟩)
  go_ret2
  exact⟨rfl,hb⟩
 |some n=>
  have hbd:=Lib.atoi_bound h hs;have hc:=Tryz.strconv_Atoi ⟨s.toArray⟩ n hsz (by simpa using h) w
  have Ct:iA s=if(-999999999999<=n/\n<=999999999999)/\Lib.itoa n=s then some n else none:=by unfold iA;rw[h]
  have hc':Calls prog 257 #[.string ⟨s.toArray⟩] w fun e w'=>e=.returned (.tuple #[.int .i64 n,.nilIface])/\Go.RowKit.Below w.heap.size w w':=hc.mono fun e w' ⟨he,t,hw⟩=>⟨he,by rw[hw];exact Lib.bytesWorld_below _ _ _⟩
  have hi:∀W1,Go.RowKit.Below w.heap.size w W1->Calls prog 201 #[.int .i64 n] W1 fun e w'=>e=.returned (.string ⟨(Lib.itoa n).toArray⟩)/\Go.RowKit.Below w.heap.size w w':=fun W1 hw=>
   (adu n (by omega) (by omega) _ ((Lib.tabBelow_of_tabIs htab).on hw).here).mono fun e w' ⟨he,hb⟩=>⟨he,hw.trans (hb.mono hw.size)⟩
  clear hsz h hc
  go_enter func191,ntmps191
  go_wp2_with (first|(go_at_call 257;refine hc'.mono ?_;rintro e W1 ⟨rfl,hb1⟩)|(go_at_call 201;refine(hi _ hb1).mono ?_;rintro e W2 ⟨rfl,hb2⟩))
  all_goals go_ret2
  all_goals first
   |(exfalso;omega)
   |exact⟨rfl,hb2⟩
   |exact⟨rfl,hb1⟩
   |(rw[Ct,if_pos ⟨⟨by omega,by omega⟩,by simp_all;done⟩];exact⟨rfl,hb2⟩)
   |(rw[Ct,if_neg (by rintro⟨hc,_⟩;omega)];exact⟨rfl,hb1⟩)
   |(rw[Ct,if_neg (by rintro⟨_,hc⟩;simp[hc] at *;omega)];exact⟨rfl,hb2⟩)
   |(rw[Ct,if_neg (by rintro⟨_,hc⟩;simp_all;done)];exact⟨rfl,hb2⟩)
   |trace_state
theorem Uz{w:World}{σ:Nat->Nat}(h:nI w σ):∃tp p,w.var? prog "strconv.ErrSyntax" =some #[.iface tp p]:=by
 obtain⟨c,t,fz,q1,q2,q3⟩:=h 3 (fun l=>∃te pe,l=[Value.iface te pe]) (List.mem_cons_of_mem _ (List.mem_cons_of_mem _ (List.mem_cons_self ..)));obtain⟨te,pe,e⟩:=q2
 have hn:prog.globalNamed "strconv.ErrSyntax" =some 3:=by kernel_rfl
 refine⟨te,pe,?_⟩;unfold World.var?;rw[hn];simp only[Option.bind_some,q1,Option.some.injEq];exact Array.ext' e
theorem RG(s:List UInt8)(hs:s.length<=18):aH prog 191 [.c (.d (.s s)),.c (.d (.i .i64 (-999999999999))),.c (.d (.i .i64 999999999999))] (.dL [(false,[.d (.i .i64 ((iA s).getD 0))]),(false,[.d (.b (iA s).isSome)])]):=fun S=>by
 refine⟨⟨_,func191,by kernel_rfl,by kernel_rfl⟩,fun w σ β vs hS hv=> ?_⟩;obtain⟨u,v,t,rfl,⟨hu,_⟩,⟨hv,_⟩,⟨ht,_⟩⟩:=agm hv
 have hu0:u=.string ⟨s.toArray⟩:=by cases hu;rfl
 have hv0:v=.int .i64 (-999999999999):=by cases hv;rfl
 have ht0:t=.int .i64 999999999999:=by cases ht;rfl
 subst hu0 hv0 ht0;obtain⟨tp,p,hvar⟩:=Uz hS.uF;refine(ZP s hs tp p w (Tz hS.uF) hvar).mono fun e w' ⟨he,hb⟩=> ?_;have hg:Grow w σ w' σ:=Uy hS.live hb
 exact⟨_,.dL [(false,[.d (.i .i64 ((iA s).getD 0))]),(false,[.d (.b (iA s).isSome)])],S,σ,β,he,hS.grow hg,Keep.refl _ _,Step.mW hg,⟨_,rfl,rfl,fun j y hy=>by
  match j,hy with
  |0,hy=>simp at hy;subst hy;exact⟨_,rfl,_,rfl,.i _ _,rfl⟩
  |1,hy=>simp at hy;subst hy;exact⟨_,rfl,_,rfl,.b _,rfl⟩
  |j+2,hy=>simp at hy⟩,rfl,rfl⟩
theorem Qe(s:List UInt8)(hs:s.length<=18):aH prog 130 [.c (.d (.s s))] (.dL [(false,[.d (.i .i64 ((iA s).getD 0))]),(false,[.d (.b (iA s).isSome)])]):=fun S=>by
 refine zcx [.tmp 2,.tmp 3] func130 ntmps130 ?_;refine W1 ?_;exact C4 (RG s hs)
theorem DI{l:List aj}(h2:2<=l.length)(h:dJ l 0=jy->3<=l.length):yI true l:=fun e=>by
 rcases e.2 with e|e
 ·omega
 ·have:=h e.1;omega
theorem TL{x:aj}(h:iO x=true)(ha:x.aO=[]):jA x.ah=true:=by rw[Ef,if_pos ha] at h;exact h
theorem agn{x:aj}(h:iO x=true)(ha:x.aO≠[]):x.aO.length<=18:=by
 rw[Ef,if_neg ha,Bool.and_eq_true] at h;have h1:=h.1;unfold validAtom at h1;rw[Bool.and_eq_true,decide_eq_true_eq] at h1;omega
theorem Fh{x:aj}(h:iO x=true)(ha:x.ah≠[]):jA x.ah=true:=by
 by_cases e:x.aO=[]
 ·exact TL h e
 ·rw[Ef,if_neg e,Bool.and_eq_true,decide_eq_true_eq] at h;exact absurd (List.eq_nil_of_length_eq_zero h.2) ha
theorem ma0{x:aR}{n:Nat}(h:x=.mk [] [] mF):Less (.agg [.d (.s []),.bE [],.d (.i .i64 0),.d (.s []),.d (.s []),.d (.i .i64 0),.d (.i .i64 0),.d (.s []),.bE [],.bE [],.bE []]) (x.vl n):=by
 rw[h];exact(fK.cons (.refl _) (.cons (dR _) (.cons (.refl _) (.cons (.refl _) (.cons (.refl _) (.cons (.refl _) (.cons (.refl _) (.cons (.refl _) (.cons (dR _) (.cons (dR _) (.cons (dR _) .nil))))))))))).less
theorem KP:∀N:Nat,(∀x:aj,SizeOf.sizeOf x<N->∀n:Nat,iO x=true->x.sz<=4194304->aH prog 67 [x.v] ((eY true x).vl n))/\
 (∀xs:List aj,SizeOf.sizeOf xs<N->∀n q:Nat,jA xs=true->xs.length<=4194304->(∀t∈xs,t.sz<=4194304)->aH prog 131 [.c (.d (.sl (xs.map aj.enc)))] (.c (.d (.ol n (lE (xs.map (eY true)) q)))))/\
 (∀x:aj,SizeOf.sizeOf x<N->∀n:Nat,iO x=true->x.sz<=4194304->aH prog 133 [x.v] ((sK true x).vl n))
 |0=>⟨fun x h=>by omega,fun x h=>by omega,fun x h=>by omega⟩
 |N+1=>by
  obtain⟨ih,qU,ihM⟩:=KP N;refine⟨fun x hn n hfo hsz=>aH.of_le fun S=> ?_,fun xs hn n q hfo hlen hsz S=> ?_,fun x hn n hfo hsz=>aH.of_le fun S=> ?_⟩
  ·have j3:=aj.wh x;have h1:=eG x;have h2:=AZ x
   have hall:∀t∈x.ah,t.sz<=4194304:=fun t ht=>by have:=iT ht;omega
   have hr:=gV (l:=x.ah);have hso:=fun i=>BI i x.ah
   have hdl:∀i,(x.ah.drop i).length<=4194304:=fun i=>by rw[List.length_drop];omega
   have hda:∀i,∀t∈x.ah.drop i,t.sz<=4194304:=fun i t ht=>hall t (List.mem_of_mem_drop ht);have hdd:=pG x.ah x.ah.length 1 (Nat.le_refl _);refine lY (n) (rs:=[.cell 2 28]) zmx func67 ntmps67 rfl rfl rfl rfl rfl ?_;refine W1 ?_;refine S0 (fun hb h=>?_) fun hb h=>?_
   ·have hne:=h;refine aX (Qe x.aO (agn hfo hne)) ?_
    cases Ct:iA x.aO with
    |some m=>
     simp -implicitDefEqProofs (disch:=omega) only[go_sem,Option.getD_some,Option.isSome_some];exact ie0 (XQ hne Ct)
    |none=>
     simp -implicitDefEqProofs (disch:=omega) only[go_sem,Option.getD_none,Option.isSome_none];refine S0 (fun hb h=>?_) fun hb h=>?_
     ·exact ie0 (TJ hne Ct h)
     have k1:=h;refine S0 (fun hb h=>?_) fun hb h=>?_
     ·exact ie0 (Qd hne Ct k1 h)
     have k2:=h;exact ie0 (XR hne Ct k1 k2)
   have ha:=h;have hfs:=TL hfo ha;refine S0 (fun hb h=>?_) fun hb h=>?_
   ·exact ie0 (TI ha fun e=>e ⟨rfl,.inl (by omega)⟩)
   have hl2:2<=x.ah.length:=by omega
   have a0:=jL (l:=x.ah) (i:=0) (by omega);obtain⟨m,hm⟩:∃m,m=x.ah.drop 1:=⟨_,rfl⟩
   have hml:m.length=x.ah.length-1:=by rw[hm,List.length_drop]
   have hmi:∀i (hi:i<m.length),m[i]=x.ah[i+1]'(by omega):=fun i hi=>by simp only[hm,List.getElem_drop,Nat.add_comm 1 i]
   have hrm:=gV (l:=m)
   have hmd:∀i,m.drop i=x.ah.drop (i+1):=fun i=>by rw[hm,List.drop_drop,Nat.add_comm 1 i]
   have hme:=fun i=>pG m m.length i (Nat.le_refl _)
   have b1:dJ x.ah 1=(m[0]'(by omega)).aO:=by rw[hmi 0 (by omega),jL (by omega)]
   refine⟨⟨by omega,by omega,hr⟩,?_⟩;rw[hdd,<-hm];simp only[<-a0];refine S0 (fun hb h=>?_) fun hb h=>?_
   ·have hg:=DI hl2 fun e=>by rw[h] at e;exact absurd e (by decide)
    have hdec:=TD ha hg h;refine W3 ?_;refine⟨⟨by omega,by omega,hrm⟩,?_⟩;rw[hme,hmd,<-b1];refine C1 (qU (x.ah.drop 2) (by have:=hso 2;omega) (n+1) (n+1+1) (tT hfs 2) (hdl 2) (hda 2)) ?_;exact XU hdec
   have adq:=h;refine S0 (fun hb h=>?_) fun hb h=>?_
   ·have hg:=DI hl2 fun e=>by rw[h] at e;exact absurd e (by decide)
    have hdec:=XM ha hg h;refine W3 ?_;refine⟨⟨by omega,by omega,hrm⟩,?_⟩;rw[hme,hmd,<-b1];refine C1 (qU (x.ah.drop 2) (by have:=hso 2;omega) (n+1) (n+1+1) (tT hfs 2) (hdl 2) (hda 2)) ?_;exact XU hdec
   have nNew:=h;refine S0 (fun hb h=>?_) fun hb h=>?_
   ·have hg:=DI hl2 fun e=>by rw[h] at e;exact absurd e (by decide)
    have hdec:=XO ha hg h;refine W3 ?_;refine⟨⟨by omega,by omega,hrm⟩,?_⟩;rw[hme,hmd,<-b1];refine C1 (qU (x.ah.drop 2) (by have:=hso 2;omega) (n+1) (n+1+1) (tT hfs 2) (hdl 2) (hda 2)) ?_;exact XU hdec
   have ajF:=h;refine S0 (fun hb h=>?_) fun hb h=>?_
   ·have hg:=DI hl2 fun e=>by rw[h] at e;exact absurd e (by decide)
    have hdec:=TF ha hg h;refine W3 ?_;refine⟨⟨by omega,by omega,hrm⟩,?_⟩;rw[hme,hmd,<-b1];refine C1 (qU (x.ah.drop 2) (by have:=hso 2;omega) (n+1) (n+1+1) (tT hfs 2) (hdl 2) (hda 2)) ?_;exact XU hdec
   have adr:=h;refine S0 (fun hb h=>?_) fun hb h=>?_
   ·have hM:=h;refine S0 (fun hb h=>?_) fun hb h=>?_
    ·exact ie0 (TI ha fun e=>e ⟨rfl,.inr ⟨hM,by omega⟩⟩)
    have hl3:3<=x.ah.length:=by omega
    have hg:=DI hl2 fun _=>hl3;have hdec:=MQ ha hg hM
    have b2:dJ x.ah 2=(m[1]'(by omega)).aO:=by rw[hmi 1 (by omega),jL (by omega)]
    refine W3 ?_;refine⟨⟨by omega,by omega,hrm⟩,?_⟩;rw[hme,hmd,<-b1,<-b2];refine C1 (qU (x.ah.drop 3) (by have:=hso 3;omega) (n+1) (n+1+1) (tT hfs 3) (hdl 3) (hda 3)) ?_;exact XU hdec
   have LJ:=h;have hg:=DI hl2 fun e=>(LJ e).elim;refine S0 (fun hb h=>?_) fun hb h=>?_
   ·have hdec:=aaM ha hg h;rw[hm];refine C1 (qU (x.ah.drop 1) (by have:=hso 1;omega) (n+1) (n+1+1) (tT hfs 1) (hdl 1) (hda 1)) ?_;exact XU hdec
   have nIf:=h;refine S0 (fun hb h=>?_) fun hb h=>?_
   ·have hdec:=XP ha hg h
    have g1:x.ah.getD 1 bZ=m[0]'(by omega):=by rw[hmi 0 (by omega),List.getD_eq_getElem?_getD,List.getElem?_eq_getElem (by omega)];rfl
    have gz:=vJ x 1 hsz;rw[g1] at hdec gz;refine W3 ?_;refine C1 (rC m[0] n gz) ?_;refine⟨⟨by omega,by omega,hrm⟩,?_⟩;rw[hme,hmd];refine C1 (qU (x.ah.drop 2) (by have:=hso 2;omega) (n+(fZ (dN true m[0]).fArgs+1)) (n+(fZ (dN true m[0]).fArgs+1)+1) (tT hfs 2) (hdl 2) (hda 2)) ?_;exact ie2 hdec
   have nThe:=h;refine S0 (fun hb h=>?_) fun hb h=>?_
   ·have hdec:=TG ha hg h;refine⟨⟨by omega,hrm⟩,?_⟩;rw[<-List.map_take];refine C1 (qU (m.take 1) (by have:=hso 1;have:=FR 1 m;rw[hm] at this ⊢;omega) (n+1) (n+1+1) (agl (by rw[hm];exact tT hfs 1) 1) (by rw[List.length_take];omega) (fun t ht=>hda 1 t (by rw[<-hm];exact List.mem_of_mem_take ht))) ?_;refine⟨⟨by omega,by omega,hrm⟩,?_⟩;rw[hme,hmd];obtain⟨zR,ads⟩:∃zR,zR=(m.take 1).map (eY true):=⟨_,rfl⟩;obtain⟨r,hrr⟩:∃r,r=x.ah.drop 2:=⟨_,rfl⟩
    have hrl:r.length=x.ah.length-2:=by rw[hrr,List.length_drop]
    have hrs:∀t∈r,t.sz<=4194304/\SizeOf.sizeOf t<N/\iO t=true:=fun t ht=>by
     rw[hrr] at ht;have h5:=List.mem_of_mem_drop ht;have:=List.sizeOf_lt_of_mem h5;exact⟨hda 2 t ht,by omega,xH hfs h5⟩
    obtain⟨q,hq⟩:∃q,q=n+1+(lT zR+1):=⟨_,rfl⟩;obtain⟨L,hL⟩:∃L:Nat->Nat,L=fun k=>q+1+adn ((r.map (sK true)).take k):=⟨_,rfl⟩;obtain⟨T,hT⟩:∃T:Nat->List (List D),T=fun k=>lM ((r.map (sK true)).take k) (q+1):=⟨_,rfl⟩
    have hT0:T 0=[]:=by rw[hT];rfl
    have iI:∀k,(T k).length<=k:=fun k=>by rw[hT];simp only[agi];exact List.length_take_le _ _
    have hTs:∀k (hk:k<r.length),T k++[eT (sK true r[k]).enc (L k)]=T (k+1):=fun k hk=>by
     have:=aml (l:=r.map (sK true)) (i:=k) (by rw[List.length_map];exact hk) (q+1);rw[List.getElem_map] at this;rw[hT,hL];exact this
    have hTe:T r.length=lM (r.map (sK true)) (q+1):=by
     rw[hT];simp only
     rw[List.take_of_length_le (by simp)]
    clear hT hL;rw[<-hm,<-ads,<-hrr] at hdec;rw[<-ads,<-hrr];refine W1 ?_;refine oH q 3 8 11 _ rfl rfl ?_
    refine aT (ι:=Nat) zmx rfl [2,7,127,128,129] (fun k=>[.c (.ptr (0,2) 0),.c (.ptr (0,3) 0),.c (.d (.sl (r.map aj.enc))),.c (.d (.i .i64 r.length)),.c (.d (.i .i64 k))])
     (fun k=>[.seed n,.box [.d (.s x.aO),.d (.sl (x.ah.map aj.enc))],.box [.d (.i .i64 0),.d (.s []),.d (.s []),.d (.i .i64 0),.d (.i .i64 0),.d (.s []),.bE [],.bE [],.bE []],
       .box [.d (.i .i64 7),.d (.s []),.d (.s []),.d (.i .i64 0),.d (.i .i64 0),.d (.s []),.bE [],.d (.ol (n+1) (lE zR (n+1+1))),.bN (0,4) (T k)],.fu q 11 (T k)]::S)
     (fun k=>k<=r.length) (fun k=>r.length-k) 0 rfl (by rw[hT0];rfl) (Nat.zero_le _) ?_
    intro k hk;have hlk:=iI k;refine W1 ?_;refine S0 (fun hb h=>?_) fun hb h=>?_
    ·have hk':k<r.length:=by omega
     have hmm:=hrs _ (List.getElem_mem hk');have hs:=hTs k hk';simp only[ajE,XT,List.cons_append,List.nil_append] at hs;refine W3 ?_;refine C1 (ihM r[k] hmm.2.1 (L k) hmm.2.2 hmm.1) ?_;refine W3 ?_;rw[hs];exact bX 5 (by decide) (k+1) (by omega) rfl rfl rfl rfl (by omega)
    ·have hk':k=r.length:=by omega
     rw[hk',hTe,hq];exact ie3 hdec
   have adt:=h;have hdec:=TH ha hg adq nNew ajF adr LJ nIf nThe adt;rw[hm];refine C1 (qU (x.ah.drop 1) (by have:=hso 1;omega) (n+1) (n+1+1) (tT hfs 1) (hdl 1) (hda 1)) ?_;exact XU hdec
  ·have Dp:=fun(i:Nat) (hi:i<xs.length)=>amk (l:=xs.map (eY true)) (i:=i) (by rw[List.length_map];exact hi) q;refine lY (n) (rs:=[.tmp 2]) zmx func131 ntmps131 rfl rfl rfl rfl rfl ?_;refine W1 ?_;refine W3 ?_;refine mX n 3 9 [] (.inl rfl) (by simp) ?_
   refine aT (ι:=Nat) zmx rfl [3,7,8,9] (fun i=>[.c (.bN (0,1) (lE ((xs.map (eY true)).take i) q)),.c (.d (.sl (xs.map aj.enc))),.c (.d (.i .i64 xs.length)),.c (.d (.i .i64 i))]) (fun i=>[.seed n,.fu n 9 (lE ((xs.map (eY true)).take i) q)]::S)
    (fun i=>i<=xs.length) (fun i=>xs.length-i) 0 rfl rfl (Nat.zero_le _) ?_
   intro i hi;refine W1 ?_;refine S0 (fun hb h=>?_) fun hb h=>?_
   ·have hi':i<xs.length:=by omega
    have hs:=Dp i hi';rw[List.getElem_map] at hs;simp only[XT] at hs
    have hl:(lE ((xs.map (eY true)).take i) q).length<=i:=by rw[agh];exact List.length_take_le _ _
    refine W3 ?_;refine C1 (ih xs[i] (by have:=List.sizeOf_lt_of_mem (List.getElem_mem hi');omega) (q+lT ((xs.map (eY true)).take i)) (xH hfo (List.getElem_mem hi')) (hsz _ (List.getElem_mem hi'))) ?_;refine W3 ?_;rw[hs];exact bX 2 (by decide) (i+1) (by omega) rfl rfl rfl rfl (by omega)
   ·have hi':i=(xs.map (eY true)).length:=by rw[List.length_map];omega
    rw[hi',List.take_length]
  ·have j3:=aj.wh x;have h1:=eG x
   have hall:∀t∈x.ah,t.sz<=4194304:=fun t ht=>by have:=iT ht;omega
   have hr:=gV (l:=x.ah);refine zcx [.cell 2 94] func133 ntmps133 ?_;refine W1 ?_;refine S0 (fun hb h=>?_) fun hb h=>?_
   ·exact ma0 (aaL true x (by omega))
   have hl2:2<=x.ah.length:=by omega
   have a0:=jL (l:=x.ah) (i:=0) (by omega);have hm:=List.getElem_mem (l:=x.ah) (n:=x.ah.length-1) (by omega);have hfs:=Fh hfo (fun e=>by rw[e] at hl2;simp at hl2);rw[aaK true x hl2,a0];refine⟨⟨by omega,by omega,hr⟩,?_⟩;rw[TK _ hl2];refine C1 (Af ((x.ah.drop 1).dropLast) (by rw[List.length_dropLast,List.length_drop];omega) n) ?_;refine W3 ?_
   have el:((x.ah.length:Int)-1).toNat=x.ah.length-1:=by omega
   simp only[el];refine C1 (ih (x.ah[x.ah.length-1]) (by have:=List.sizeOf_lt_of_mem hm;omega) (n+1) (xH hfs hm) (hall _ hm)) ?_;exact gy _
theorem EA(x:aj)(n:Nat)(hf:iO x=true)(hsz:x.sz<=4194304):aH prog 67 [x.v] ((eY true x).vl n):=(KP _).1 x (Nat.lt_succ_self _) n hf hsz
theorem KQ{P:Program}{w:World}{t u ty e:TypeId}{base:Option Addr}{n:Nat}{i:TypeInfo}{z:Value}(ht:P.underlying t=some (.slice e))(hu:P.underlying u=some (.int .i64))(hi:P.info? e=some i)
 (hz:i.zero=some z)(h1:1<=n)(hn:n<=1073741824)(hb:i.bytes<=4096)(hs:i.size=z.cells.size):
 ∃(cap:Nat) (row:Array Value),n<=cap/\row.size=cap*z.cells.size/\(Builtin.append_ #[t,u] ty #[.slice base 0 0,.int .i64 n]).run P w=
  .ok (.slice (some ⟨w.heap.size,0,none⟩) n cap) {w.drew with heap:=w.heap.push (.cells row e)}:=by
 have hn1:=Oc n 0 (by omega)
 have h48:¬(281474976710656<Builtin.nextslicecap n 0*i.bytes):=by
  have:Builtin.nextslicecap n 0*i.bytes<=(2*n+512)*4096:=Nat.mul_le_mul hn1 hb;omega
 have h49:¬(281474976710656<(n:Int)*(i.bytes:Int)):=by
  have h2:n*i.bytes<=1073741824*4096:=Nat.mul_le_mul hn hb
  have:(n:Int)*(i.bytes:Int)=((n*i.bytes:Nat):Int):=by simp
  rw[this];omega
 have h63':¬(9223372036854775807<(n:Int)):=by omega
 have hroom':¬(n<=0):=by omega
 have hneg:¬((n:Int)<0):=by omega
 have hn0:¬n=0:=by omega
 have hw:IntKind.i64.wrap (n:Int)=n:=Lm _ (by omega)
 have hmax:IntKind.i64.max=9223372036854775807:=by decide
 have ha:∀w:World,(asInt (.int .i64 (n:Int))).run P w=.ok (n:Int) w:=fun w=>by simp[asInt,asIntOf]
 let cap:=(Question.appendCap n 0 e).cut (w.tape w.drawn (Question.appendCap n 0 e))
 have hcap:n<=cap:=by simp[cap,Question.cut]
 refine⟨cap,#[]++(if n*i.size=0 then #[] else Builtin.zeroCells z.cells n)++Builtin.zeroCells z.cells (cap-n),hcap,?_,?_⟩
 ·by_cases h0:n*i.size=0
  ·rw[if_pos h0]
   have hsz:z.cells.size=0:=by
    rcases Nat.mul_eq_zero.1 h0 with h|h
    ·omega
    ·omega
   simp[Builtin.zeroCells,hsz]
  ·rw[if_neg h0];simp only[Builtin.zeroCells,Array.size_append,Array.size_map,Array.size_range,Array.size_empty,Nat.zero_add];rw[<-Nat.add_mul];congr 1;omega
 ·by_cases h0:n*i.size=0
  ·rw[if_pos h0];cases base<;>simp[Builtin.append_,run_underlying ht,run_underlying hu,sizeOf,typeInfo,zeroValue,hi,hz,hroom',h48,h49,h63',hneg,hw,hmax,Question.forced,newRow,ha,hn0,loadCellsFrom,h0,Builtin.firstCells,loadCells]<;>exact⟨rfl,rfl⟩
  ·rw[if_neg h0];cases base<;>simp[Builtin.append_,run_underlying ht,run_underlying hu,sizeOf,typeInfo,zeroValue,hi,hz,hroom',h48,h49,h63',hneg,hw,hmax,Question.forced,newRow,ha,hn0,loadCellsFrom,h0,Builtin.firstCells,loadCells]<;>exact⟨rfl,rfl⟩
theorem agp(base:Option Addr)(n:Nat)(h1:1<=n)(hn:n<=1073741824)(w:World):Calls prog 350 #[.slice base 0 0,.int .i64 n] w fun e w'=>
 ∃cap row,n<=cap/\row.size=cap/\e=.returned (.slice (some ⟨w.heap.size,0,none⟩) 0 cap)/\w'={w.drew with heap:=w.heap.push (.cells row 9)}:=by
 obtain⟨cap,row,hc,hr,hm⟩:=KQ (P:=prog) (w:=w) (t:=34) (u:=3) (ty:=34) (e:=9) (base:=base) (n:=n) underlying34 underlying3 rfl rfl h1 hn (by decide +kernel) rfl
 have h0:¬((n:Int)<0):=by omega
 have h2:(0:Int)<n:=by omega
 go_enter func350,ntmps350
 go_wp2_with (at_builtin;refine Lib.wpList_append_run _ rfl _ _ _ _ rfl _ _ rfl rfl _ _ hm ?_)
 all_goals go_ret
 exact⟨cap,hc,row,hr.trans (Nat.mul_one _),rfl,rfl⟩
theorem adv(base:Option Addr)(w:World):Calls prog 350 #[.slice base 0 0,.int .i64 0] w fun e w'=>e=.returned (.slice base 0 0)/\w'=w:=by
 go_enter func350,ntmps350
 go_wp2
 all_goals go_ret
 exact⟨rfl,rfl⟩
theorem ajG(n:Nat)(hn:n<=1073741824)(bU:List Ab.Obj)(Ω:Store):dh prog 350 [.c (.bE []),.c (.d (.i .i64 n))] (bU::Ω)
 (fun r S'=>r=.c (.bN (0,bU.length) [])/\S'=(bU++[.tok 1 []])::Ω):=by
 refine⟨⟨_,func350,by kernel_rfl,by kernel_rfl⟩,fun w σ β vs hS hv=> ?_⟩;obtain⟨hl,h⟩:=hv;obtain⟨v0,e0,⟨h0,a,m,h00⟩,_⟩:=h 0 _ rfl;obtain⟨v1,e1,h1,_⟩:=h 1 _ rfl
 have h1':v1=.int .i64 n:=by cases h1;rfl
 subst h1'
 have hm:m=0:=by rw[h00] at h0;cases h0<;>rfl
 subst hm;subst h00
 have hvs:vs=[.slice a 0 0,.int .i64 n]:=by
  match vs,hl,e0,e1 with
  |[x,y],_,e0,e1=>simp at e0 e1;rw[e0,e1]
 subst hvs
 cases β with
 |nil=>have:=hS.shape.1;simp at this
 |cons bo bΩ=>
 have hlen:bo.length=bU.length:=by
  obtain⟨gr,g1,g2⟩:=hS.shape.2 0 bU rfl;simp at g1;rw[g1];exact g2
 by_cases hz:n=0
 ·subst hz;refine(adv a w).mono fun e w' ⟨he,hw⟩=> ?_;subst hw;obtain⟨hS',hk,hst⟩:=hS.push (o:=.tok 1 []) (h:=.slice a 0 0) (Grow.refl hS.live) hlen ⟨h0,by simp,a,0,rfl,by simp,.inl rfl⟩ (fun b hb=>by cases a<;>simp[owns,blk] at hb);refine⟨_,.c (.bN (0,bU.length) []),_,_,_,he,hS',hk,hst,⟨⟨h0,.tok 1 [],?_,fun aY es e=> ?_⟩,rfl⟩,rfl,rfl⟩
  ·rw[cZ]
  ·obtain⟨_,rfl⟩:=pX (lab:=none) e;exact⟨Nat.le_refl _,fun _=>by rw[<-hlen,cZ]⟩
 ·refine(agp a n (by omega) hn w).mono fun e w' ⟨cap,row,hc,hr,he,hw⟩=> ?_;subst hw;have hσ:σ w.heap.size=0:=(hS.live w.heap.size).resolve_left (by omega)
  have hg:Grow w σ {w.drew with heap:=w.heap.push (.cells row 9)} σ:=by
   refine⟨by simp,rfl,rfl,fun b hb=>⟨?_,rfl⟩,fun b=> ?_⟩
   ·simp only[Array.getElem?_push];rw[if_neg (by omega)]
   ·rcases hS.live b with hb|hb
    ·left;simp;omega
    ·exact .inr hb
  obtain⟨hS',hk,hst⟩:=hS.push (o:=.tok 1 []) (h:=.slice (some ⟨w.heap.size,0,none⟩) 0 cap) hg hlen ⟨.nil _ _,by simp,_,cap,rfl,by simp,.inr ⟨w.heap.size,0,row,9,rfl,by simp,by simp[hσ],by omega⟩⟩ (fun b hb=>by
   simp only[owns,blk] at hb;split at hb
   ·cases hb
   ·cases hb;exact Nat.le_refl _)
  refine⟨_,.c (.bN (0,bU.length) []),_,_,_,he,hS',hk,hst,⟨⟨.nil _ _,.tok 1 [],?_,fun aY es e=> ?_⟩,rfl⟩,rfl,rfl⟩
  ·rw[cZ]
  ·obtain⟨_,rfl⟩:=pX (lab:=none) e;exact⟨Nat.le_refl _,fun _=>by rw[<-hlen,cZ]⟩
theorem EB{xs:List (List UInt8)}:∀y∈xs.map encS,y.length=1:=fun y hy=>by
 obtain⟨z,_,rfl⟩:=List.mem_map.1 hy;rfl
theorem IK{α:Type}(xss:List (List α)){i:Nat}(hi:i<xss.length):(xss.take (i+1)).flatten.length=(xss.take i).flatten.length+xss[i].length:=by
 rw[List.take_succ_eq_append_getElem hi,List.flatten_append,List.length_append];simp only[List.flatten_cons,List.flatten_nil,List.append_nil]
theorem zA{α:Type}(xss:List (List α))(i:Nat):(xss.take i).flatten.length<=xss.flatten.length:=by
 conv=>rhs;rw[<-List.take_append_drop i xss]
 rw[List.flatten_append,List.length_append];omega
theorem adw(xss:List (List (List UInt8)))(hl:xss.length<=1073741824)(hf:xss.flatten.length<=1073741824):aH prog 337 [.c (.d (.sl (xss.map fun a=>[.sl (a.map encS)])))] (.c (.d (.sl (xss.flatten.map encS)))):=fun S=>by
 refine zcx [.tmp 2] func337 ntmps337 ?_;refine W1 ?_
 refine aT (ι:=Nat) zmx rfl [0,3,9,10,11] (fun i=>[.c (.d (.sl (xss.map fun a=>[.sl (a.map encS)]))),.c (.d (.i .i64 (xss.take i).flatten.length)),.c (.d (.sl (xss.map fun a=>[.sl (a.map encS)]))),.c (.d (.i .i64 xss.length)),.c (.d (.i .i64 i))]) (fun _=>[]::S)
  (fun i=>i<=xss.length) (fun i=>xss.length-i) 0 rfl rfl (Nat.zero_le _) ?_
 rintro i p1;have hfi:=zA xss i;by_cases hi:i<xss.length
 ·have hs:=IK xss hi;have ajH:=zA xss (i+1);refine W1 ?_;refine S0 (fun hb h=>?_) fun hb h=>?_
  ·refine W3 ?_;refine S0 (fun hb h=>?_) fun hb h=>?_
   ·omega
   ·refine bF (i+1) (by omega) ?_ rfl (by omega);rw[hs];rfl
  ·omega
 have hi:i=xss.length:=by omega
 subst hi;refine W1 ?_;refine S0 (fun hb h=>?_) fun hb h=>?_
 ·omega
 rw[List.take_length];clear hfi;refine bg rfl (ajG xss.flatten.length hf [] S) ?_;refine W1 ?_
 refine aT (ι:=Nat) zmx rfl [6,25,26,27] (fun i=>[.c (.bN (0,0) ((xss.take i).flatten.map encS)),.c (.d (.sl (xss.map fun a=>[.sl (a.map encS)]))),.c (.d (.i .i64 xss.length)),.c (.d (.i .i64 i))]) (fun i=>[.tok 1 ((xss.take i).flatten.map encS)]::S)
  (fun i=>i<=xss.length) (fun i=>xss.length-i) 0 rfl rfl (Nat.zero_le _) ?_
 rintro i p1;have hfi:=zA xss i;by_cases hi:i<xss.length
 ·have hs:=IK xss hi;have ajH:=zA xss (i+1)
  have e:(xss.take (i+1)).flatten.map encS=(xss.take i).flatten.map encS++xss[i].map encS:=by
   rw[List.take_succ_eq_append_getElem hi,List.flatten_append,List.map_append];simp only[List.flatten_cons,List.flatten_nil,List.append_nil]
  refine W1 ?_;refine S0 (fun hb h=>?_) fun hb h=>?_
  ·refine W3 ?_;refine⟨EB,⟨_,rfl,rfl⟩,by omega,?_⟩;exact bF (i+1) (by omega) (by rw[e];rfl) (by rw[e]) (by omega)
  ·omega
 ·have hi:i=xss.length:=by omega
  subst hi;refine W1 ?_;refine S0 (fun hb h=>?_) fun hb h=>?_
  ·omega
  rw[List.take_length]
theorem adx(c:Nat)(w:World):Calls prog 336 #[.slice none 0 c] w fun e w'=>e=.returned (.slice none 0 0)/\w'=w:=by
 have hb:(binOp .eql 34 (.slice none 0 c) (.slice none 0 0)).run prog w=.ok (.bool true) w:=by
  simp[binOp,run_equal_slice_nil w _ _ _ _ _ underlying34]
 go_enter func336,ntmps336
 go_wp2
 all_goals go_ret
 exact⟨rfl,rfl⟩
theorem ady(w w':World)(a:Addr)(n c:Nat)(r:Value)(hm:(Builtin.append_ #[34,34] 34 #[.slice (some ⟨w.heap.size,0,none⟩) 0 0,.slice (some a) n c]).run prog (w.alloc (.cells #[] 9))=.ok r w'):
 Calls prog 336 #[.slice (some a) n c] w fun e w''=>e=.returned r/\w''=w':=by
 have hb:(binOp .eql 34 (.slice (some a) n c) (.slice none 0 0)).run prog w=.ok (.bool false) w:=by
  simp[binOp,run_equal_slice_nil w _ _ _ _ _ underlying34]
 go_enter func336,ntmps336
 go_wp2_with (at_builtin;refine Lib.wpList_append_run _ rfl _ _ _ _ rfl _ _ rfl rfl _ _ hm ?_)
 all_goals go_ret
 exact⟨rfl,rfl⟩
theorem agq(xs:List (List UInt8))(hx:xs.length<=1073741824)(bU:List Ab.Obj)(Ω:Store):dh prog 336 [.c (.d (.sl (xs.map encS)))] (bU::Ω)
 (fun r S'=>r=.c (.bN (0,bU.length) (xs.map encS))/\S'=(bU++[.tok 1 (xs.map encS)])::Ω):=by
 have apY:(xs.map encS).length<=1073741824:=by simpa using hx
 have h1:=EB (xs:=xs)
 generalize xs.map encS=es at *
 refine⟨⟨_,func336,by kernel_rfl,by kernel_rfl⟩,fun w σ β vs hS hv=> ?_⟩;obtain⟨hl,h⟩:=hv;obtain⟨v,e0,hd,_⟩:=h 0 _ rfl;have hd:dH w σ (.sl es) v:=hd
 have hvs:vs=[v]:=by
  match vs,hl,e0 with
  |[x],_,e0=>simp at e0;rw[e0]
 subst hvs
 cases β with
 |nil=>have:=hS.shape.1;simp at this
 |cons bo bΩ=>
 have hlen:bo.length=bU.length:=by
  obtain⟨gr,g1,g2⟩:=hS.shape.2 0 bU rfl;simp at g1;rw[g1];exact g2
 have hv:∃a c,v=.slice a es.length c/\(a=none->es=[]):=by
  cases hd with
  |nil a cap=>exact⟨a,cap,rfl,fun _=>rfl⟩
  |sl b off cap aY es vals c t fz=>exact⟨_,_,rfl,fun h=>by cases h⟩
 obtain⟨a,c,rfl,ha⟩:=hv
 cases a with
 |none=>
  have:=ha rfl;subst this;refine(adx c w).mono fun e w' ⟨he,hw⟩=> ?_;subst hw;obtain⟨hS',hk,hst⟩:=hS.push (o:=.tok 1 []) (h:=.slice none 0 0) (Grow.refl hS.live) hlen ⟨.nil _ _,by simp,none,0,rfl,by simp,.inl rfl⟩ (fun b hb=>by simp[owns,blk] at hb);refine⟨_,.c (.bN (0,bU.length) []),_,_,_,he,hS',hk,hst,⟨⟨.nil _ _,.tok 1 [],?_,fun aY es e=> ?_⟩,rfl⟩,rfl,rfl⟩
  ·rw[cZ]
  ·obtain⟨_,rfl⟩:=pX (lab:=none) e;exact⟨Nat.le_refl _,fun _=>by rw[<-hlen,cZ]⟩
 |some a=>
  have hσ:σ w.heap.size=0:=(hS.live w.heap.size).resolve_left (by omega)
  have hg:Grow w σ (w.alloc (.cells #[] 9)) σ:=by
   have hh:(w.alloc (.cells #[] 9)).heap=w.heap.push (.cells #[] 9):=rfl;refine⟨by rw[hh];simp,rfl,rfl,fun b hb=>⟨?_,rfl⟩,fun b=> ?_⟩
   ·rw[hh,Array.getElem?_push];rw[if_neg (by omega)]
   ·rcases hS.live b with hb|hb
    ·left;rw[hh];simp;omega
    ·exact .inr hb
  have Cx:iQ (w.alloc (.cells #[] 9)) σ [] [] (.tok 1 []) (.slice (some ⟨w.heap.size,0,none⟩) 0 0):=⟨.nil _ _,by simp,_,0,rfl,by simp,.inl rfl⟩;obtain⟨r,w',σ',hr,hro,hsz,hos,hout,hn,hli,uH,hbk,hzero,h1c⟩:=zM (lab:=none) (P:=prog) (w:=w.alloc (.cells #[] 9)) (σ:=σ) (S:=[]) (β:=[]) (t:=34) (u:=34) (ty:=34) (e:=9) (size:=1) (es:=[]) (ys:=es) hg.live underlying34 (.inl ⟨_,underlying34⟩) ⟨[.d (.s [])],by kernel_rfl,rfl⟩ rfl (by decide +kernel) Cx (JF (dH.mono hg.near hd) h1) (by simpa using apY);rw[List.nil_append] at hro hbk;refine(ady w w' a es.length c r hr).mono fun e w'' ⟨he,hw⟩=> ?_;subst hw;have hg2:Grow (w.alloc (.cells #[] 9)) σ w'' σ':=⟨hsz,hos,hout,fun b hb=>uH b hb (by simp[jO,owns,blk]),hli⟩;have hg3:=hg.trans hg2
  obtain⟨hS',hk,hst⟩:=hS.push (o:=.tok 1 es) (h:=r) hg3 hlen (hro _ _) (fun b hb=>by
   rcases hbk b hb with h|h
   ·simp[jO,owns,blk] at h
   ·exact Nat.le_trans hg.size h)
  refine⟨_,.c (.bN (0,bU.length) es),_,_,_,he,hS',hk,hst,⟨⟨(hro [] []).1,.tok 1 es,?_,fun aY es' e=> ?_⟩,h1c⟩,rfl,rfl⟩
  ·rw[cZ]
  ·obtain⟨_,rfl⟩:=pX (lab:=none) e;exact⟨Nat.le_refl _,fun _=>by rw[<-hlen,cZ]⟩
theorem dh.args{P:Program}{f:FuncId}{args args':List V}{S:Store}{post:V->Store->Prop}(h:dh P f args' S post)(hl:vP args args'):dh P f args S post:=h.weaken hl.length fun j x y hx hy w σ β v hr=>hl.at j x y hx hy w σ S β v hr
theorem pJ(n:Nat)(es:List (List D)):Less (.c (.l8 n es)) (.c (.d (.sl es))):=fun w σ S β v h=>⟨uG h.1.1,h.2⟩
theorem pK(xs:List (List UInt8))(hx:xs.length<=1073741824)(n q:Nat)(bU:List Ab.Obj)(Ω:Store):dh prog 139 [.c (.d (.sl (xs.map encS)))] (bU::Ω)
 (fun r S'=>r=.c (.bN (0,bU.length+1) (lx (aN xs) q))/\S'=(bU++[.seed n,.fu n 2 (lx (aN xs) q)])::Ω):=by
 refine ada (n) (rs:=[.tmp 2]) zmx func139 ntmps139 rfl rfl rfl rfl rfl ?_;refine W1 ?_;refine W3 ?_;refine mX n 3 2 [] (.inl rfl) (by simp) ?_
 refine aT (ι:=Nat) zmx rfl [3,7,8,9] (fun i=>[.c (.bN (0,1) (lx ((aN xs).take i) q)),.c (.d (.sl (xs.map encS))),.c (.d (.i .i64 xs.length)),.c (.d (.i .i64 i))]) (fun i=>[.seed n,.fu n 2 (lx ((aN xs).take i) q)]::bU::Ω)
  (fun i=>i<=xs.length) (fun i=>xs.length-i) 0 rfl rfl (Nat.zero_le _) ?_
 intro i hi;refine W1 ?_;refine S0 (fun hb h=>?_) fun hb h=>?_
 ·have hi':i<xs.length:=by omega
  have hw:i<(aN xs).length:=by rw[jQ];exact hi'
  have hg:(aN xs)[i]=bJ xs[i]:=by simp[aN]
  have hl:(lx ((aN xs).take i) q).length<=i:=by rw[iD];exact List.length_take_le _ _
  refine W3 ?_;refine C1 (dB xs[i] (q+jE ((aN xs).take i))) ?_;refine W3 ?_;have hs:=Rz hw q;rw[hg,xC] at hs;rw[hs];exact bF (i+1) (by omega) rfl rfl (by omega)
 ·have hi':i=(aN xs).length:=by rw[jQ];omega
  rw[hi',List.take_length];exact⟨rfl,rfl⟩
theorem agt(base:Option Addr)(n:Nat)(h1:1<=n)(hn:n<=1073741824)(w:World):Calls prog 202 #[.slice base 0 0,.int .i64 n] w fun e w'=>
 ∃cap row,n<=cap/\row.size=cap*2/\e=.returned (.slice (some ⟨w.heap.size,0,none⟩) 0 cap)/\w'={w.drew with heap:=w.heap.push (.cells row 54)}:=by
 obtain⟨cap,row,hc,hr,hm⟩:=KQ (P:=prog) (w:=w) (t:=52) (u:=3) (ty:=52) (e:=54) (base:=base) (n:=n) underlying52 underlying3 rfl rfl h1 hn (by decide +kernel) rfl
 have h0:¬((n:Int)<0):=by omega
 have h2:(0:Int)<n:=by omega
 go_enter func202,ntmps202
 go_wp2_with (at_builtin;refine Lib.wpList_append_run _ rfl _ _ _ _ rfl _ _ rfl rfl _ _ hm ?_)
 all_goals go_ret
 exact⟨cap,hc,row,hr,rfl,rfl⟩
theorem adz(base:Option Addr)(w:World):Calls prog 202 #[.slice base 0 0,.int .i64 0] w fun e w'=>e=.returned (.slice base 0 0)/\w'=w:=by
 go_enter func202,ntmps202
 go_wp2
 all_goals go_ret
 exact⟨rfl,rfl⟩
theorem agu(m n:Nat)(hn:n<=1073741824)(bU:List Ab.Obj)(Ω:Store):dh prog 202 [.c (.bE []),.c (.d (.i .i64 n))] (bU::Ω)
 (fun r S'=>r=.c (.bN (0,bU.length) [])/\S'=(bU++[.fu m 2 []])::Ω):=by
 refine⟨⟨_,func202,by kernel_rfl,by kernel_rfl⟩,fun w σ β vs hS hv=> ?_⟩;obtain⟨hl,h⟩:=hv;obtain⟨v0,e0,⟨h0,a,m',h00⟩,_⟩:=h 0 _ rfl;obtain⟨v1,e1,h1,_⟩:=h 1 _ rfl
 have h1':v1=.int .i64 n:=by cases h1;rfl
 subst h1'
 have hm:m'=0:=by rw[h00] at h0;cases h0<;>rfl
 subst hm;subst h00
 have hvs:vs=[.slice a 0 0,.int .i64 n]:=by
  match vs,hl,e0,e1 with
  |[x,y],_,e0,e1=>simp at e0 e1;rw[e0,e1]
 subst hvs
 cases β with
 |nil=>have:=hS.shape.1;simp at this
 |cons bo bΩ=>
 have hlen:bo.length=bU.length:=by
  obtain⟨gr,g1,g2⟩:=hS.shape.2 0 bU rfl;simp at g1;rw[g1];exact g2
 by_cases hz:n=0
 ·subst hz;refine(adz a w).mono fun e w' ⟨he,hw⟩=> ?_;subst hw;obtain⟨hS',hk,hst⟩:=hS.push (o:=.fu m 2 []) (h:=.slice a 0 0) (Grow.refl hS.live) hlen ⟨h0,by simp,a,0,rfl,by simp,.inl ⟨rfl,.wD _ _ _⟩⟩ (fun b hb=>by cases a<;>simp[owns,blk] at hb);refine⟨_,.c (.bN (0,bU.length) []),_,_,_,he,hS',hk,hst,⟨⟨h0,.fu m 2 [],?_,fun aY es e=> ?_⟩,rfl⟩,rfl,rfl⟩
  ·rw[cZ]
  ·obtain⟨_,rfl⟩:=pX (lab:=some m) e;exact⟨Nat.le_refl _,fun _=>by rw[<-hlen,cZ]⟩
 ·refine(agt a n (by omega) hn w).mono fun e w' ⟨cap,row,hc,hr,he,hw⟩=> ?_;subst hw;have hσ:σ w.heap.size=0:=(hS.live w.heap.size).resolve_left (by omega)
  have hg:Grow w σ {w.drew with heap:=w.heap.push (.cells row 54)} σ:=by
   refine⟨by simp,rfl,rfl,fun b hb=>⟨?_,rfl⟩,fun b=> ?_⟩
   ·simp only[Array.getElem?_push];rw[if_neg (by omega)]
   ·rcases hS.live b with hb|hb
    ·left;simp;omega
    ·exact .inr hb
  obtain⟨hS',hk,hst⟩:=hS.push (o:=.fu m 2 []) (h:=.slice (some ⟨w.heap.size,0,none⟩) 0 cap) hg hlen ⟨.nil _ _,by simp,_,cap,rfl,by simp,.inr ⟨by simp;omega,w.heap.size,0,row,54,rfl,by simp,by simp[hσ],by omega⟩⟩ (fun b hb=>by
   simp only[owns,blk] at hb;split at hb
   ·cases hb
   ·cases hb;exact Nat.le_refl _)
  refine⟨_,.c (.bN (0,bU.length) []),_,_,_,he,hS',hk,hst,⟨⟨.nil _ _,.fu m 2 [],?_,fun aY es e=> ?_⟩,rfl⟩,rfl,rfl⟩
  ·rw[cZ]
  ·obtain⟨_,rfl⟩:=pX (lab:=some m) e;exact⟨Nat.le_refl _,fun _=>by rw[<-hlen,cZ]⟩
theorem ZQ(m l:Nat)(xss:List (Nat×List (List D)))(hl:xss.length<=1073741824)(hr:∀p∈xss,∀r∈p.2,r.length=2)(hf:(xss.map (·.2)).flatten.length<=1073741824):aH prog 141 [.c (.l8 l (xss.map fun p=>[.ol p.1 p.2]))] (.c (.d (.ol m (xss.map (·.2)).flatten))):=fun S=>by
 obtain⟨ys,hys⟩:∃ys:List (List (List D)),ys=xss.map (·.2):=⟨_,rfl⟩;rw[<-hys] at hf ⊢
 have hyl:ys.length=xss.length:=by rw[hys,List.length_map]
 have hyi:∀i (hi:i<xss.length),ys[i]'(by omega)=xss[i].2:=fun i hi=>by simp[hys]
 have Og:∀i (hi:i<xss.length),∀r∈xss[i].2,r.length=2:=fun i hi=>hr _ (List.getElem_mem hi);refine lY (m) (rs:=[.tmp 2]) zmx func141 ntmps141 rfl rfl rfl rfl rfl ?_;refine W1 ?_
 refine aT (ι:=Nat) zmx rfl [0,3,9,10,11] (fun i=>[.c (.l8 l (xss.map fun p=>[.ol p.1 p.2])),.c (.d (.i .i64 (ys.take i).flatten.length)),.c (.l8 l (xss.map fun p=>[.ol p.1 p.2])),.c (.d (.i .i64 xss.length)),.c (.d (.i .i64 i))]) (fun _=>[.seed m]::S)
  (fun i=>i<=xss.length) (fun i=>xss.length-i) 0 rfl rfl (Nat.zero_le _) ?_
 rintro i p1;have hfi:=zA ys i;by_cases hi:i<xss.length
 ·have hs:=IK ys (i:=i) (by omega);rw[hyi i hi] at hs;have ajH:=zA ys (i+1);refine W1 ?_;refine S0 (fun hb h=>?_) fun hb h=>?_
  ·refine W3 ?_;refine S0 (fun hb h=>?_) fun hb h=>?_
   ·omega
   ·refine bF (i+1) (by omega) ?_ rfl (by omega);rw[hs];rfl
  ·omega
 have hi:i=xss.length:=by omega
 subst hi;refine W1 ?_;refine S0 (fun hb h=>?_) fun hb h=>?_
 ·omega
 rw[<-hyl,List.take_length];clear hfi;refine bg rfl (agu m ys.flatten.length hf [.seed m] S) ?_;refine W1 ?_
 refine aT (ι:=Nat) zmx rfl [6,25,26,27] (fun i=>[.c (.bN (0,1) (ys.take i).flatten),.c (.l8 l (xss.map fun p=>[.ol p.1 p.2])),.c (.d (.i .i64 xss.length)),.c (.d (.i .i64 i))]) (fun i=>[.seed m,.fu m 2 (ys.take i).flatten]::S)
  (fun i=>i<=xss.length) (fun i=>xss.length-i) 0 (by rw[<-hyl];rfl) rfl (Nat.zero_le _) ?_
 rintro i p1;have hfi:=zA ys i;by_cases hi:i<xss.length
 ·have hs:=IK ys (i:=i) (by omega);rw[hyi i hi] at hs;have ajH:=zA ys (i+1)
  have e:(ys.take (i+1)).flatten=(ys.take i).flatten++xss[i].2:=by
   rw[List.take_succ_eq_append_getElem (by omega),List.flatten_append,hyi i hi];simp only[List.flatten_cons,List.flatten_nil,List.append_nil]
  have Ct:=Og i hi;refine W1 ?_;refine S0 (fun hb h=>?_) fun hb h=>?_
  ·refine W3 ?_;exact bF (i+1) (by omega) (by rw[e];rfl) (by rw[e]) (by omega)
  ·omega
 ·have hi:i=ys.length:=by omega
  refine W1 ?_;refine S0 (fun hb h=>?_) fun hb h=>?_
  ·omega
  rw[hi,List.take_length]
theorem kV{x:au}{k:Int}(h:x.aK=k):jw x.aK x.bC x.fName x.fType=jw k x.bC x.fName x.fType:=by rw[h]
theorem TM{l:List au}{t:au}(h:t∈l):t.sz<=vR l:=by
 rw[<-Nt];exact dA (List.mem_map_of_mem h)
theorem Qf{l:List aR}{t:aR}(h:t∈l):t.sz<=CX l:=by
 rw[<-Nu];exact dA (List.mem_map_of_mem h)
theorem FU:∀{xs:List au},mZ xs=true<->∀t∈xs,jd t=true
 |[]=>by simp[mZ]
 |t::ts=>by simp[mZ,FU (xs:=ts)]
theorem IL:∀{xs:List aR},qE xs=true<->∀t∈xs,xP t=true
 |[]=>by simp[qE]
 |t::ts=>by simp[qE,IL (xs:=ts)]
theorem mI{x:au}(h1:x.aK≠1)(h2:x.aK≠2)(h3:x.aK≠3)(h:x.aK=4\/x.aK=5\/x.aK=6\/x.aK=8\/x.aK=9\/x.aK=10\/x.aK=11\/x.aK=12):
 fC x=bB (jw x.aK x.bC x.fName x.fType++x.fArgs.map fC):=by rw[KG,if_neg h1,if_neg h2,if_neg h3,if_pos h,List.append_nil]
theorem Qg:∀N:Nat,∀x:au,SizeOf.sizeOf x<N->∀n:Nat,jd x=true->x.sz<=4194304->aH prog 70 [x.v] (.agg [.d (.s (fC x).aO),.d (.ol n (lx (fC x).ah (n+1)))])
 |0=>fun x h=>by omega
 |N+1=>by
  have ih:=Qg N;intro x hn n hok hsz S;have j3:=au.gT x;have BA:=au.qb x;have hzz:=yX x;rw[zl,Bool.and_eq_true,Bool.and_eq_true] at hok;obtain⟨hfi,hoa,XW⟩:=hok;have hfi:=gH hfi;have hoa:=FU.1 hoa;have XW:=IL.1 XW;obtain⟨qa,Ar⟩:∃qa,qa=n+1+jE (jw x.aK x.bC x.fName x.fType):=⟨_,rfl⟩;obtain⟨T,hT⟩:∃T:Nat->List (List D),T=fun i=>lx ((x.fArgs.map fC).take i) qa:=⟨_,rfl⟩
  have hT0:T 0=[]:=by rw[hT];rfl
  have iI:∀i,(T i).length<=i:=fun i=>by rw[hT];simp only[iD];exact List.length_take_le _ _
  have hTr:∀i,∀r∈T i,r.length=2:=fun i=>by rw[hT];exact mh
  have hTs:∀i (hi:i<x.fArgs.length),T i++[[.s (fC x.fArgs[i]).aO,.ol (qa+jE ((x.fArgs.map fC).take i)) (lx (fC x.fArgs[i]).ah (qa+jE ((x.fArgs.map fC).take i)+1))]]=T (i+1):=fun i hi=>by
   have:=IB (l:=x.fArgs.map fC) (i:=i) (by rw[List.length_map];exact hi) qa;rw[List.getElem_map] at this;rw[hT];exact this
  have hTe:T x.fArgs.length=lx (x.fArgs.map fC) qa:=by rw[hT];simp only;rw[List.take_of_length_le (by simp)]
  clear hT;refine lY (n) (rs:=[.cell 2 54]) zmx func70 ntmps70 rfl rfl rfl rfl rfl ?_;refine W1 ?_;refine W3 ?_;refine mX n 3 2 [] (.inl rfl) (by simp) ?_
  refine aT (ι:=Nat) zmx rfl [1,2,3,11,12,13] (fun i=>[.c (.ptr (0,1) 0),.c (.ptr (0,2) 0),.c (.bN (0,3) (T i)),.c (.d (.sl (x.fArgs.map au.enc))),.c (.d (.i .i64 x.fArgs.length)),.c (.d (.i .i64 i))])
   (fun i=>[.seed n,.box [.d (.i .i64 x.aK),.d (.s x.bC),.d (.s x.fName),.d (.i .i64 x.fN),.d (.i .i64 x.fType.aK),.d (.s x.fType.fName),.d (.sl (x.fType.fArgs.map ak.enc)),.d (.sl (x.fArgs.map au.enc)),.d (.sl (x.aQ.map aR.enc))],.box [.d (.s []),.bE []],.fu n 2 (T i)]::S)
   (fun i=>i<=x.fArgs.length) (fun i=>x.fArgs.length-i) 0 (by rw[hT0];rfl) (by rw[hT0];rfl) (Nat.zero_le _) ?_
  intro i hi;have hl:=iI i;refine W1 ?_;refine S0 (fun hb h=>?_) fun hb h=>?_
  ·have hi':i<x.fArgs.length:=by omega
   have hm:=List.getElem_mem hi';have hez:=TM hm;have hs:=hTs i hi';refine W3 ?_;refine C1 (ih x.fArgs[i] (by have:=List.sizeOf_lt_of_mem hm;omega) (qa+jE ((x.fArgs.map fC).take i)) (hoa _ hm) (by omega)) ?_;refine W3 ?_;rw[hs];exact bX 4 (by decide) (i+1) (by omega) rfl rfl rfl rfl (by omega)
  have hi':i=x.fArgs.length:=by omega
  subst hi';clear hTs hi h hb;have hTT:=hTr x.fArgs.length;have hxe:=KG x;refine S0 (fun hb h=>?_) fun hb h=>?_
  ·rw[if_pos h] at hxe;rw[hxe];have hb:=hfi.2.2.2.1;rw[if_pos h] at hb;refine C1 (Nw x.fN (by omega) (by omega)) ?_;refine C1 (dB _ n) ?_;rfl
  have k1:=h;rw[if_neg h] at hxe;refine S0 (fun hb h=>?_) fun hb h=>?_
  ·rw[if_pos h] at hxe;rw[hxe];refine S0 (fun hb h=>?_) fun hb h=>?_
   ·rw[if_pos h];refine C1 (dB _ n) ?_;rfl
   ·rw[if_neg h];refine C1 (dB _ n) ?_;rfl
  have k2:=h;rw[if_neg h] at hxe;refine S0 (fun hb h=>?_) fun hb h=>?_
  ·rw[if_pos h] at hxe;rw[hxe];refine C1 (dB _ n) ?_;rfl
  have k3:=h;clear hxe;refine S0 (fun hb h=>?_) fun hb h=>?_
  ·have hx:=mI k1 k2 k3 (by omega)
   have hh:jw x.aK x.bC x.fName x.fType=aN [qy,x.fName]:=by rw[kV h];rfl
   rw[hh] at hx Ar;refine W3 ?_;refine bg rfl (dh.args (pK [qy,x.fName] (by simp) n (n+1) _ _) (.cons (pJ n _) .nil)) ?_
   have Jg:(lx (aN [qy,x.fName]) (n+1)).length=2:=by rw[iD];rfl
   have TN:=mh (l:=aN [qy,x.fName]) (n:=n+1);refine W1 ?_;refine W3 ?_;refine bg rfl (kH 0 5 _ _) ?_;refine W1 ?_;rw[hx,hTe,Ar,dW,dG,nR]
  have k4:=h;refine S0 (fun hb h=>?_) fun hb h=>?_
  ·have hx:=mI k1 k2 k3 (by omega)
   have hh:jw x.aK x.bC x.fName x.fType=aN [jy,x.bC,x.fName]:=by rw[kV h];rfl
   rw[hh] at hx Ar;refine W3 ?_;refine bg rfl (dh.args (pK [jy,x.bC,x.fName] (by simp) n (n+1) _ _) (.cons (pJ n _) .nil)) ?_
   have Jg:(lx (aN [jy,x.bC,x.fName]) (n+1)).length=3:=by rw[iD];rfl
   have TN:=mh (l:=aN [jy,x.bC,x.fName]) (n:=n+1);refine W1 ?_;refine W3 ?_;refine bg rfl (kH 0 5 _ _) ?_;refine W1 ?_;rw[hx,hTe,Ar,dW,dG,nR]
  have k5:=h;refine S0 (fun hb h=>?_) fun hb h=>?_
  ·have hx:=mI k1 k2 k3 (by omega)
   have hh:jw x.aK x.bC x.fName x.fType=aN [uj,x.fName]:=by rw[kV h];rfl
   rw[hh] at hx Ar;refine W3 ?_;refine bg rfl (dh.args (pK [uj,x.fName] (by simp) n (n+1) _ _) (.cons (pJ n _) .nil)) ?_
   have Jg:(lx (aN [uj,x.fName]) (n+1)).length=2:=by rw[iD];rfl
   have TN:=mh (l:=aN [uj,x.fName]) (n:=n+1);refine W1 ?_;refine W3 ?_;refine bg rfl (kH 0 5 _ _) ?_;refine W1 ?_;rw[hx,hTe,Ar,dW,dG,nR]
  have k6:=h;refine S0 (fun hb h=>?_) fun hb h=>?_
  ·have hx:=KG x;rw[if_neg k1,if_neg k2,if_neg k3,if_neg (by omega)] at hx
   have hh:jw x.aK x.bC x.fName x.fType=aN [lS]:=by rw[kV h];rfl
   rw[hh] at hx Ar;obtain⟨B,hB⟩:∃B:Nat->List (List D),B=fun i=>lx (x.fArgs.map fC++(x.aQ.map Aq).take i) qa:=⟨_,rfl⟩;obtain⟨L,hL⟩:∃L:Nat->Nat,L=fun i=>qa+jE (x.fArgs.map fC++(x.aQ.map Aq).take i):=⟨_,rfl⟩
   have hB0:T x.fArgs.length=B 0:=by rw[hTe,hB];simp only[List.take_zero,List.append_nil]
   have hBl:∀i,(B i).length<=i+x.fArgs.length:=fun i=>by
    rw[hB];simp only[iD,List.length_append,List.length_map];have:=List.length_take_le i (x.aQ.map Aq);omega
   have hBr:∀i,∀r∈B i,r.length=2:=fun i=>by rw[hB];exact mh
   have hBs:∀i (hi:i<x.aQ.length),B i++[[.s [],.ol (L i) (lx ([bJ x.aQ[i].dM]++aN x.aQ[i].aG++[fC x.aQ[i].fBody]) (L i+1))]]=B (i+1):=fun i hi=>by
    have:=AU (base:=x.fArgs.map fC) (l:=x.aQ.map Aq) (i:=i) (by rw[List.length_map];exact hi) qa;rw[List.getElem_map,af6,dW,dG] at this;rw[hB,hL];exact this
   have hBe:B x.aQ.length=lx (x.fArgs.map fC++x.aQ.map Aq) qa:=by rw[hB];simp only;rw[List.take_of_length_le (by simp)]
   clear hB hL hTT;refine W3 ?_;refine bg rfl (dh.args (pK [lS] (by simp) n (n+1) _ _) (.cons (pJ n _) .nil)) ?_
   have Jg:(lx (aN [lS]) (n+1)).length=1:=by rw[iD];rfl
   have TN:=mh (l:=aN [lS]) (n:=n+1);refine W1 ?_;rw[hB0];obtain⟨HD,hHD⟩:∃HD,HD=lx (aN [lS]) (n+1):=⟨_,rfl⟩;rw[<-hHD] at Jg TN ⊢
   refine aT (ι:=Nat) zmx rfl [2,3,6,69,70,71] (fun i=>[.c (.ptr (0,2) 0),.c (.bN (0,3) (B i)),.c (.bN (0,5) HD),.c (.d (.sl (x.aQ.map aR.enc))),.c (.d (.i .i64 x.aQ.length)),.c (.d (.i .i64 i))])
    (fun i=>[.seed n,.box [.d (.i .i64 x.aK),.d (.s x.bC),.d (.s x.fName),.d (.i .i64 x.fN),.d (.i .i64 x.fType.aK),.d (.s x.fType.fName),.d (.sl (x.fType.fArgs.map ak.enc)),.d (.sl (x.fArgs.map au.enc)),.d (.sl (x.aQ.map aR.enc))],.box [.d (.s []),.bE []],.fu n 2 (B i),.seed n,.fu n 2 HD]::S)
    (fun i=>i<=x.aQ.length) (fun i=>x.aQ.length-i) 0 rfl rfl (Nat.zero_le _) ?_
   intro i hi;have hl:=hBl i;have hr:=hBr i;refine W1 ?_;refine S0 (fun hb h=>?_) fun hb h=>?_
   ·have hi':i<x.aQ.length:=by omega
    have hm:=List.getElem_mem hi';have hez:=Qf hm;have hea:=Ck x.aQ[i];have hs:=hBs i hi';have hak:=XW _ hm;rw[ug,Bool.and_eq_true,Bool.and_eq_true] at hak;have hls:=List.sizeOf_lt_of_mem hm;have hlb:=aR.oU x.aQ[i];refine W3 ?_;refine oG (CK [x.aQ[i].dM] (by simp) 0 (L i+1)) (.cons (pJ n _) .nil) ?_;refine W1 ?_;refine C1 (CK x.aQ[i].aG (by omega) 0 (L i+1+jE (aN [x.aQ[i].dM]))) ?_;refine C1 (ih x.aQ[i].fBody (by omega) (L i+1+jE (aN [x.aQ[i].dM]++aN x.aQ[i].aG)) hak.2.2 (by omega)) ?_;refine W3 ?_;refine aX (ZQ (L i) n [(0,lx (aN [x.aQ[i].dM]) (L i+1)),(0,lx (aN x.aQ[i].aG) (L i+1+jE (aN [x.aQ[i].dM]))),(n,[[.s (fC x.aQ[i].fBody).aO,.ol (L i+1+jE (aN [x.aQ[i].dM]++aN x.aQ[i].aG)) (lx (fC x.aQ[i].fBody).ah (L i+1+jE (aN [x.aQ[i].dM]++aN x.aQ[i].aG)+1))]])] (by simp) ?_ ?_) ?_
    ·intro p hp;simp only[List.mem_cons,List.not_mem_nil,or_false] at hp;rcases hp with rfl|rfl|rfl
     ·exact mh
     ·exact mh
     ·simp
    ·simp only[List.map_cons,List.map_nil,List.flatten_cons,List.flatten_nil,List.length_append,iD,jQ,List.length_cons,List.length_nil];omega
    refine W1 ?_;refine C1 (mq _) ?_;refine W3 ?_
    have hrow:[lx (aN [x.aQ[i].dM]) (L i+1),lx (aN x.aQ[i].aG) (L i+1+jE (aN [x.aQ[i].dM])),[[.s (fC x.aQ[i].fBody).aO,.ol (L i+1+jE (aN [x.aQ[i].dM]++aN x.aQ[i].aG)) (lx (fC x.aQ[i].fBody).ah (L i+1+jE (aN [x.aQ[i].dM]++aN x.aQ[i].aG)+1))]]].flatten=lx ([bJ x.aQ[i].dM]++aN x.aQ[i].aG++[fC x.aQ[i].fBody]) (L i+1):=by
     have e1:[bJ x.aQ[i].dM]=aN [x.aQ[i].dM]:=rfl;rw[e1,nR,nR,jW (fC x.aQ[i].fBody) [],nQ,ku (fC x.aQ[i].fBody)];simp only[List.flatten_cons,List.flatten_nil,List.append_nil,List.append_assoc]
    rw[hrow,hs];exact bX 6 (by decide) (i+1) (by omega) rfl rfl rfl rfl (by omega)
   ·have hi':i=x.aQ.length:=by omega
    subst hi';have hr2:=hBr x.aQ.length;refine W3 ?_;refine bg rfl (kH 0 5 _ _) ?_;refine W1 ?_;rw[hx,hBe,Ar,hHD,dW,dG,List.append_assoc,nR (aN [lS])]
  have k7:=h;refine S0 (fun hb h=>?_) fun hb h=>?_
  ·have hx:=mI k1 k2 k3 (by omega)
   have hh:jw x.aK x.bC x.fName x.fType=aN [um,x.fName]:=by rw[kV h];rfl
   rw[hh] at hx Ar;refine W3 ?_;refine bg rfl (dh.args (pK [um,x.fName] (by simp) n (n+1) _ _) (.cons (pJ n _) .nil)) ?_
   have Jg:(lx (aN [um,x.fName]) (n+1)).length=2:=by rw[iD];rfl
   have TN:=mh (l:=aN [um,x.fName]) (n:=n+1);refine W1 ?_;refine W3 ?_;refine bg rfl (kH 0 5 _ _) ?_;refine W1 ?_;rw[hx,hTe,Ar,dW,dG,nR]
  have k8:=h;refine S0 (fun hb h=>?_) fun hb h=>?_
  ·have hx:=mI k1 k2 k3 (by omega)
   have hh:jw x.aK x.bC x.fName x.fType=aN [yD]:=by rw[kV h];rfl
   rw[hh] at hx Ar;refine W3 ?_;refine bg rfl (dh.args (pK [yD] (by simp) n (n+1) _ _) (.cons (pJ n _) .nil)) ?_
   have Jg:(lx (aN [yD]) (n+1)).length=1:=by rw[iD];rfl
   have TN:=mh (l:=aN [yD]) (n:=n+1);refine W1 ?_;refine W3 ?_;refine bg rfl (kH 0 5 _ _) ?_;refine W1 ?_;rw[hx,hTe,Ar,dW,dG,nR]
  have k9:=h;refine S0 (fun hb h=>?_) fun hb h=>?_
  ·have hx:=mI k1 k2 k3 (by omega)
   have hh:jw x.aK x.bC x.fName x.fType=aN [x.fName]:=by rw[kV h];rfl
   rw[hh] at hx Ar;refine W3 ?_;refine bg rfl (dh.args (pK [x.fName] (by simp) n (n+1) _ _) (.cons (pJ n _) .nil)) ?_
   have Jg:(lx (aN [x.fName]) (n+1)).length=1:=by rw[iD];rfl
   have TN:=mh (l:=aN [x.fName]) (n:=n+1);refine W1 ?_;refine W3 ?_;refine bg rfl (kH 0 5 _ _) ?_;refine W1 ?_;rw[hx,hTe,Ar,dW,dG,nR]
  have k10:=h;refine S0 (fun hb h=>?_) fun hb h=>?_
  ·have hx:=mI k1 k2 k3 (by omega)
   have hh:jw x.aK x.bC x.fName x.fType=aN [qz,x.bC]:=by rw[kV h];rfl
   rw[hh] at hx Ar;refine W3 ?_;refine bg rfl (dh.args (pK [qz,x.bC] (by simp) n (n+1) _ _) (.cons (pJ n _) .nil)) ?_
   have Jg:(lx (aN [qz,x.bC]) (n+1)).length=2:=by rw[iD];rfl
   have TN:=mh (l:=aN [qz,x.bC]) (n:=n+1);refine W1 ?_;refine W3 ?_;refine bg rfl (kH 0 5 _ _) ?_;refine W1 ?_;rw[hx,hTe,Ar,dW,dG,nR]
  have k11:=h;refine S0 (fun hb h=>?_) fun hb h=>?_
  ·have hx:=mI k1 k2 k3 (by omega)
   have hh:jw x.aK x.bC x.fName x.fType=[bJ uP,cB x.fType]:=by rw[kV h];rfl
   rw[hh] at hx Ar;have hty:=hfi.2.2.2.2.1;rw[if_pos h] at hty;refine C1 (dB _ (n+1)) ?_;refine C1 (mD x.fType (n+1+1) (wW hty) (by omega)) ?_;refine W3 ?_;refine bg rfl (kH 0 4 _ _) ?_;refine W1 ?_;rw[hx,hTe,Ar,dW,dG,nR];simp only[jW,nQ,ku,kY,kZ,kg,ade,af0,uP,List.cons_append,List.nil_append]
  ·have:=hfi.1;omega
theorem Ag(x:au)(n:Nat)(hok:jd x=true)(hsz:x.sz<=4194304):aH prog 70 [x.v] (.agg [.d (.s (fC x).aO),.d (.ol n (lx (fC x).ah (n+1)))]):=Qg _ x (Nat.lt_succ_self _) n hok hsz
theorem r9(hd:List aj)(xs:List au)(S:Store)(hA:∀t∈xs,aH prog 64 [t.v] (fC t).v)(hl:xs.length<=4194304)(hh:hd.length<=4):dh prog 121 [.c (.bE (hd.map aj.enc)),.c (.d (.sl (xs.map au.enc)))] S
 (fun r S'=>r=.agg [.d (.s []),.d (.sl ((hd++xs.map fC).map aj.enc))]/\S'=S):=by
 obtain⟨T,hT⟩:∃T:Nat->List (List D),T=fun i=>(hd++(xs.map fC).take i).map aj.enc:=⟨_,rfl⟩
 have hT0:T 0=hd.map aj.enc:=by rw[hT];simp only[List.take_zero,List.append_nil]
 have iI:∀i,(T i).length<=i+hd.length:=fun i=>by
  rw[hT];simp only[List.length_map,List.length_append];have:=List.length_take_le i (xs.map fC);omega
 have hTs:∀i (hi:i<xs.length),T i++[[.s (fC xs[i]).aO,.sl ((fC xs[i]).ah.map aj.enc)]]=T (i+1):=fun i hi=>by
  have:=jR (base:=hd) (l:=xs.map fC) (i:=i) (by rw[List.length_map];exact hi);rw[List.getElem_map] at this;rw[hT];exact this
 have hTe:T xs.length=(hd++xs.map fC).map aj.enc:=by rw[hT];simp only;rw[List.take_of_length_le (by simp)]
 clear hT;rw[<-hT0];rw[<-hTe];refine zcx [.cell 4 54] func121 ntmps121 ?_;refine W1 ?_;refine sZ 1 1 2 (T 0) [.d (.s []),.bE (T 0)] rfl rfl (by rw[hT0];exact gV) ?_
 refine aT (ι:=Nat) zmx rfl [1,4,5,6] (fun i=>[.c (.d (.sl (xs.map au.enc))),.c (.ptr (0,0) 0),.c (.ptr (0,1) 0),.c (.d (.i .i64 i))])
  (fun i=>[.box [.d (.s []),.bE []],.box [.d (.s []),.bN (0,2) (T i)],.tok 2 (T i)]::S)
  (fun i=>i<=xs.length) (fun i=>xs.length-i) 0 rfl rfl (Nat.zero_le _) ?_
 intro i hi;have hl:=iI i;refine W1 ?_;refine S0 (fun hb h=>?_) fun hb h=>?_
 ·have hi':i<xs.length:=by omega
  have hs:=hTs i hi';refine W3 ?_;refine C1 (hA xs[i] (List.getElem_mem hi')) ?_;refine W3 ?_;rw[hs];exact bF (i+1) (by omega) rfl rfl (by omega)
 ·have hi':i=xs.length:=by omega
  subst hi';rfl
theorem XY(hd:List aj)(xs:List au)(bU:List Ab.Obj)(Ω:Store)(hA:∀t∈xs,aH prog 64 [t.v] (fC t).v)(hl:xs.length<=4194304)(hh:hd.length<=4):dh prog 121 [.c (.bE (hd.map aj.enc)),.c (.d (.sl (xs.map au.enc)))] (bU::Ω)
 (fun r S'=>r=.agg [.d (.s []),.bN (0,bU.length+2) ((hd++xs.map fC).map aj.enc)]/\S'=(bU++[.box [.d (.s []),.bN (0,bU.length+2) ((hd++xs.map fC).map aj.enc)],.box [.d (.s []),.bN (0,bU.length+2) ((hd++xs.map fC).map aj.enc)],.tok 2 ((hd++xs.map fC).map aj.enc)])::Ω):=by
 obtain⟨T,hT⟩:∃T:Nat->List (List D),T=fun i=>(hd++(xs.map fC).take i).map aj.enc:=⟨_,rfl⟩
 have hT0:T 0=hd.map aj.enc:=by rw[hT];simp only[List.take_zero,List.append_nil]
 have iI:∀i,(T i).length<=i+hd.length:=fun i=>by
  rw[hT];simp only[List.length_map,List.length_append];have:=List.length_take_le i (xs.map fC);omega
 have hTs:∀i (hi:i<xs.length),T i++[[.s (fC xs[i]).aO,.sl ((fC xs[i]).ah.map aj.enc)]]=T (i+1):=fun i hi=>by
  have:=jR (base:=hd) (l:=xs.map fC) (i:=i) (by rw[List.length_map];exact hi);rw[List.getElem_map] at this;rw[hT];exact this
 have hTe:T xs.length=(hd++xs.map fC).map aj.enc:=by rw[hT];simp only;rw[List.take_of_length_le (by simp)]
 clear hT;rw[<-hT0];rw[<-hTe];refine Ta (rs:=[.cell 4 54]) zmx func121 ntmps121 rfl rfl rfl rfl rfl ?_;refine W1 ?_;refine sZ 1 1 2 (T 0) [.d (.s []),.bE (T 0)] rfl rfl (by rw[hT0];exact gV) ?_
 refine aT (ι:=Nat) zmx rfl [1,4,5,6] (fun i=>[.c (.d (.sl (xs.map au.enc))),.c (.ptr (0,0) 0),.c (.ptr (0,1) 0),.c (.d (.i .i64 i))])
  (fun i=>[.box [.d (.s []),.bE []],.box [.d (.s []),.bN (0,2) (T i)],.tok 2 (T i)]::bU::Ω)
  (fun i=>i<=xs.length) (fun i=>xs.length-i) 0 rfl rfl (Nat.zero_le _) ?_
 intro i hi;have hl:=iI i;refine W1 ?_;refine S0 (fun hb h=>?_) fun hb h=>?_
 ·have hi':i<xs.length:=by omega
  have hs:=hTs i hi';refine W3 ?_;refine C1 (hA xs[i] (List.getElem_mem hi')) ?_;refine W3 ?_;rw[hs];exact bF (i+1) (by omega) rfl rfl (by omega)
 ·have hi':i=xs.length:=by omega
  subst hi';exact⟨rfl,rfl⟩
theorem Qh:∀N:Nat,∀x:au,SizeOf.sizeOf x<N->jd x=true->x.sz<=4194304->aH prog 64 [x.v] (fC x).v
 |0=>fun x h=>by omega
 |N+1=>by
  have ih:=Qh N;intro x hn hok hsz S;have j3:=au.gT x;have BA:=au.qb x;have hzz:=yX x;rw[zl,Bool.and_eq_true,Bool.and_eq_true] at hok;obtain⟨hfi,hoa,XW⟩:=hok;have hfi:=gH hfi;have hoa:=FU.1 hoa;have XW:=IL.1 XW;have hA:∀t∈x.fArgs,aH prog 64 [t.v] (fC t).v:=fun t ht=>ih t (by have:=List.sizeOf_lt_of_mem ht;omega) (hoa t ht) (by have:=TM ht;omega);have hxe:=KG x;refine zcx [.cell 2 54] func64 ntmps64 ?_;refine W1 ?_;refine S0 (fun hb h=>?_) fun hb h=>?_
  ·rw[if_pos h] at hxe;rw[hxe];have hb:=hfi.2.2.2.1;rw[if_pos h] at hb;refine C1 (yY x.fN (by omega) (by omega)) ?_;refine C1 (bW _) ?_;rfl
  have k1:=h;rw[if_neg h] at hxe;refine S0 (fun hb h=>?_) fun hb h=>?_
  ·rw[if_pos h] at hxe;rw[hxe];have hb:=hfi.2.2.2.1;rw[if_neg k1,if_pos h] at hb;rcases hb with e|e
   ·rw[e];simp -implicitDefEqProofs (disch:=omega) only[go_sem,List.getD_cons_zero];refine W3 ?_;refine C1 (bW _) ?_;rfl
   ·rw[e];simp -implicitDefEqProofs (disch:=omega) only[go_sem,List.getD_cons_zero,List.getD_cons_succ];refine W3 ?_;refine C1 (bW _) ?_;rfl
  have k2:=h;rw[if_neg h] at hxe;refine S0 (fun hb h=>?_) fun hb h=>?_
  ·rw[if_pos h] at hxe;rw[hxe];refine C1 (bW _) ?_;rfl
  have k3:=h;clear hxe;refine S0 (fun hb h=>?_) fun hb h=>?_
  ·have hx:=mI k1 k2 k3 (by omega)
   have hh:jw x.aK x.bC x.fName x.fType=[bJ qy,bJ x.fName]:=by rw[kV h];rfl
   rw[hh] at hx;refine C1 (bW _) ?_;refine C1 (bW _) ?_;have hE:=fun S=>r9 [bJ qy,bJ x.fName] x.fArgs S hA (by omega) (by simp);simp only[List.map_cons,List.map_nil,fO] at hE;refine bg rfl (hE _) ?_;refine W1 ?_;rw[hx];rfl
  have k4:=h;refine S0 (fun hb h=>?_) fun hb h=>?_
  ·have hx:=mI k1 k2 k3 (by omega)
   have hh:jw x.aK x.bC x.fName x.fType=[bJ jy,bJ x.bC,bJ x.fName]:=by rw[kV h];rfl
   rw[hh] at hx;refine C1 (bW _) ?_;refine C1 (bW _) ?_;refine C1 (bW _) ?_;have hE:=fun S=>r9 [bJ jy,bJ x.bC,bJ x.fName] x.fArgs S hA (by omega) (by simp);simp only[List.map_cons,List.map_nil,fO] at hE;refine bg rfl (hE _) ?_;refine W1 ?_;rw[hx];rfl
  have k5:=h;refine S0 (fun hb h=>?_) fun hb h=>?_
  ·have hx:=mI k1 k2 k3 (by omega)
   have hh:jw x.aK x.bC x.fName x.fType=[bJ uj,bJ x.fName]:=by rw[kV h];rfl
   rw[hh] at hx;refine C1 (bW _) ?_;refine C1 (bW _) ?_;have hE:=fun S=>r9 [bJ uj,bJ x.fName] x.fArgs S hA (by omega) (by simp);simp only[List.map_cons,List.map_nil,fO] at hE;refine bg rfl (hE _) ?_;refine W1 ?_;rw[hx];rfl
  have k6:=h;refine S0 (fun hb h=>?_) fun hb h=>?_
  ·have hx:=mI k1 k2 k3 (by omega)
   have hh:jw x.aK x.bC x.fName x.fType=[bJ um,bJ x.fName]:=by rw[kV h];rfl
   rw[hh] at hx;refine C1 (bW _) ?_;refine C1 (bW _) ?_;have hE:=fun S=>r9 [bJ um,bJ x.fName] x.fArgs S hA (by omega) (by simp);simp only[List.map_cons,List.map_nil,fO] at hE;refine bg rfl (hE _) ?_;refine W1 ?_;rw[hx];rfl
  have k8:=h;refine S0 (fun hb h=>?_) fun hb h=>?_
  ·have hx:=mI k1 k2 k3 (by omega)
   have hh:jw x.aK x.bC x.fName x.fType=[bJ yD]:=by rw[kV h];rfl
   rw[hh] at hx;refine C1 (bW _) ?_;have hE:=fun S=>r9 [bJ yD] x.fArgs S hA (by omega) (by simp);simp only[List.map_cons,List.map_nil,fO] at hE;refine bg rfl (hE _) ?_;refine W1 ?_;rw[hx];rfl
  have k9:=h;refine S0 (fun hb h=>?_) fun hb h=>?_
  ·have hx:=mI k1 k2 k3 (by omega)
   have hh:jw x.aK x.bC x.fName x.fType=[bJ x.fName]:=by rw[kV h];rfl
   rw[hh] at hx;refine C1 (bW _) ?_;have hE:=fun S=>r9 [bJ x.fName] x.fArgs S hA (by omega) (by simp);simp only[List.map_cons,List.map_nil,fO] at hE;refine bg rfl (hE _) ?_;refine W1 ?_;rw[hx];rfl
  have k10:=h;refine S0 (fun hb h=>?_) fun hb h=>?_
  ·have hx:=mI k1 k2 k3 (by omega)
   have hh:jw x.aK x.bC x.fName x.fType=[bJ qz,bJ x.bC]:=by rw[kV h];rfl
   rw[hh] at hx;refine C1 (bW _) ?_;refine C1 (bW _) ?_;have hE:=fun S=>r9 [bJ qz,bJ x.bC] x.fArgs S hA (by omega) (by simp);simp only[List.map_cons,List.map_nil,fO] at hE;refine bg rfl (hE _) ?_;refine W1 ?_;rw[hx];rfl
  have k11:=h;refine S0 (fun hb h=>?_) fun hb h=>?_
  ·have hx:=mI k1 k2 k3 (by omega)
   have hh:jw x.aK x.bC x.fName x.fType=[bJ uP,cB x.fType]:=by rw[kV h];rfl
   rw[hh] at hx;refine C1 (bW _) ?_;refine C1 (mR x.fType (by omega)) ?_;have hE:=fun S=>r9 [bJ uP,cB x.fType] x.fArgs S hA (by omega) (by simp);simp only[List.map_cons,List.map_nil,fO,aj.aA (cB x.fType)] at hE;refine bg rfl (hE _) ?_;refine W1 ?_;rw[hx];show _=V.agg [.d (.s []),.d (.sl (List.map aj.enc (bJ uP::cB x.fType::x.fArgs.map fC)))];simp only[List.cons_append,List.nil_append,List.map_cons,fO,aj.aA (cB x.fType)];rfl
  have k12:=h
  have hk7:x.aK=7:=by have:=hfi.1;omega
  have hx:=KG x;rw[if_neg k1,if_neg k2,if_neg k3,if_neg (by omega)] at hx
  have hh:jw x.aK x.bC x.fName x.fType=[bJ lS]:=by rw[kV hk7];rfl
  rw[hh] at hx;refine C1 (bW _) ?_;have hE:=fun bU Ω=>XY [bJ lS] x.fArgs bU Ω hA (by omega) (by simp);obtain⟨B,hB⟩:∃B:Nat->List (List D),B=fun i=>(([bJ lS]++x.fArgs.map fC)++(x.aQ.map Aq).take i).map aj.enc:=⟨_,rfl⟩
  have hB0:([bJ lS]++x.fArgs.map fC).map aj.enc=B 0:=by rw[hB];simp only[List.take_zero,List.append_nil]
  have hBl:∀i,(B i).length<=i+x.fArgs.length+1:=fun i=>by
   rw[hB];simp only[List.length_append,List.length_map,List.length_cons,List.length_nil];have:=List.length_take_le i (x.aQ.map Aq);omega
  have hBr:∀i,∀r∈B i,r.length=2:=fun i=>by rw[hB];exact gV
  have hBs:∀i (hi:i<x.aQ.length),B i++[[.s [],.sl (([bJ x.aQ[i].dM]++aN x.aQ[i].aG++[fC x.aQ[i].fBody]).map aj.enc)]]=B (i+1):=fun i hi=>by
   have:=jR (base:=[bJ lS]++x.fArgs.map fC) (l:=x.aQ.map Aq) (i:=i) (by rw[List.length_map];exact hi);rw[List.getElem_map,af6,dW,dG] at this;rw[hB];exact this
  have hBe:B x.aQ.length=([bJ lS]++x.fArgs.map fC++x.aQ.map Aq).map aj.enc:=by rw[hB];simp only;rw[List.take_of_length_le (by simp)]
  clear hB;simp only[hB0] at hE;simp only[List.map_cons,List.map_nil,fO] at hE;refine bg rfl (hE _ _) ?_;refine W1 ?_
  refine aT (ι:=Nat) zmx rfl [1,2,3,4] (fun i=>[.c (.ptr (0,0) 0),.c (.ptr (0,1) 0),.c (.ptr (0,5) 0),.c (.d (.i .i64 i))])
   (fun i=>[.box [.d (.i .i64 x.aK),.d (.s x.bC),.d (.s x.fName),.d (.i .i64 x.fN),.d (.i .i64 x.fType.aK),.d (.s x.fType.fName),.d (.sl (x.fType.fArgs.map ak.enc)),.d (.sl (x.fArgs.map au.enc)),.d (.sl (x.aQ.map aR.enc))],.box [.d (.s []),.bE []],.box [.d (.s []),.bN (0,4) (B 0)],.box [.d (.s []),.bN (0,4) (B 0)],.tok 2 (B i),.box [.d (.s []),.bN (0,4) (B i)]]::S)
   (fun i=>i<=x.aQ.length) (fun i=>x.aQ.length-i) 0 rfl rfl (Nat.zero_le _) ?_
  intro i hi;have hl:=hBl i;have hr:=hBr i;refine W1 ?_;refine S0 (fun hb h=>?_) fun hb h=>?_
  ·have hi':i<x.aQ.length:=by omega
   have hm:=List.getElem_mem hi';have hez:=Qf hm;have hea:=Ck x.aQ[i];have hs:=hBs i hi';have hak:=XW _ hm;rw[ug,Bool.and_eq_true,Bool.and_eq_true] at hak;have hls:=List.sizeOf_lt_of_mem hm;have hlb:=aR.oU x.aQ[i];refine W3 ?_;refine C1 (bW _) ?_;refine W3 ?_;refine aX (KF x.aQ[i].aG (by omega)) ?_;have hwr:=gV (l:=aN x.aQ[i].aG)
   have hwl:(aN x.aQ[i].aG).length=x.aQ[i].aG.length:=by rw[jQ]
   refine W1 ?_;refine W3 ?_;refine C1 (ih x.aQ[i].fBody (by omega) hak.2.2 (by omega)) ?_;refine W3 ?_;simp only[List.cons_append,List.nil_append,List.map_cons,List.map_nil,List.map_append,fO,aj.aA (fC x.aQ[i].fBody)] at hs;rw[hs];exact bX 6 (by decide) (i+1) (by omega) rfl rfl rfl rfl (by omega)
  ·have hi':i=x.aQ.length:=by omega
   subst hi';rw[hx,hBe];rfl
theorem uW(x:au)(hok:jd x=true)(hsz:x.sz<=4194304):aH prog 64 [x.v] (fC x).v:=Qh _ x (Nat.lt_succ_self _) hok hsz
theorem au.bounds{x:au}(h:x.sz<=4194304):x.bC.length<=4194304/\x.fName.length<=4194304/\x.fArgs.length<=4194304/\x.aQ.length<=4194304/\x.fType.sz<=4194304:=by
 simp only[au.sz,au.aA,bT,bK,D.sz,List.length_map,ak.d9] at h;omega
theorem au.arg_b{x:au}{i:Nat}(hi:i<x.fArgs.length)(h:x.sz<=4194304):x.fArgs[i].sz<=4194304:=by
 have hx:x.fArgs[i].sz<=bf (x.fArgs.map au.enc):=dA (List.mem_map_of_mem (List.getElem_mem hi));simp only[au.sz,au.aA,bT,bK,D.sz,List.length_map] at h;omega
theorem au.Vf{x:au}{i:Nat}(hi:i<x.aQ.length)(h:x.sz<=4194304):x.aQ[i].sz<=4194304:=by
 have hx:x.aQ[i].sz<=bf (x.aQ.map aR.enc):=dA (List.mem_map_of_mem (List.getElem_mem hi));simp only[au.sz,au.aA,bT,bK,D.sz,List.length_map] at h;omega
theorem aR.bounds{x:aR}(h:x.sz<=4194304):x.dM.length<=4194304/\x.aG.length<=4194304/\(∀s∈x.aG,s.length<=4194304)/\x.fBody.sz<=4194304:=by
 have hb:=aR.Rl x;simp only[aR.sz,aR.aA,bT,bK,D.sz,List.length_map] at h hb;refine⟨by omega,by omega,fun s hs=> ?_,by omega⟩;have:=tF hs;omega
theorem Qi(k:Int):(k<1\/12<k)\/k=1\/k=2\/k=3\/k=4\/k=5\/k=6\/k=7\/k=8\/k=9\/k=10\/k=11\/k=12:=by omega
theorem XZ(x:au)(hsz:x.sz<=4194304)(hc:x.fArgs.length<=300):aH prog 196 [x.v] (.c (.d (.b (dec (wm x))))):=fun S=>by
 have hb0:=au.bounds hsz;have hz:yH x.fType->pq x.fType=false:=Pq;rcases Qi x.aK with hk|hk|hk|hk|hk|hk|hk|hk|hk|hk|hk|hk|hk
 ·have h1:¬wm x:=fun h=>by have:=h.1;omega
  refine zcx [.tmp 2] func196 ntmps196 ?_;refine W1 ?_;refine C2 (MG x.aK) ?_;refine S0 (fun hb h=>?_) fun hb h=>?_
  ·exact ay (aB h1).symm
  refine S0 (fun hb h=>?_) fun hb h=>?_
  ·exact ay (aB h1).symm
  ·omega
 all_goals
  refine zcx [.tmp 2] func196 ntmps196 ?_;simp -implicitDefEqProofs (disch:=omega) only[go_sem,hk];refine aX (MG _) ?_;simp -implicitDefEqProofs (disch:=omega) only[go_sem,hk,acD,acE]
  repeat' (first
   |with_reducible refine dD (fun hb=> ?_) (fun hb=> ?_)<;>have h:=hb<;>(try simp only[wf_preprocess] at h)<;>simp -implicitDefEqProofs (disch:=omega) only[go_sem,hb,hk]<;>refine W3 ?_
   |((with_reducible show fD _ _ 157 _ _ _ _);refine aX (iL x.fName (by omega)) ?_;simp -implicitDefEqProofs (disch:=omega) only[go_sem,hk])
   |((with_reducible show fD _ _ 157 _ _ _ _);refine aX (iL x.bC (by omega)) ?_;simp -implicitDefEqProofs (disch:=omega) only[go_sem,hk])
   |((with_reducible show fD _ _ 260 _ _ _ _);refine aX (Ur x.fName) ?_;simp -implicitDefEqProofs (disch:=omega) only[go_sem,hk])
   |((with_reducible show fD _ _ 237 _ _ _ _);refine aX (Jd x.fType) ?_;simp -implicitDefEqProofs (disch:=omega) only[go_sem,hk])
   |((with_reducible show fD _ _ 261 _ _ _ _);refine aX (yS x.fType (by omega)) ?_;simp -implicitDefEqProofs (disch:=omega) only[go_sem,hk])
   |(refine ay (Bool.eq_iff_iff.2 ?_);simp only[Bt,wm,hk];grind [gH,jg,aZ,aB]))
theorem au.amn{x:au}{y:au}(h:y∈x.fArgs):y.cnt+1<=x.cnt:=by
 rw[au.rE x]
 have:∀xs:List au,y∈xs->y.cnt<=au.eB xs:=by
  intro xs
  induction xs with
  |nil=>intro h;cases h
  |cons z zs ih=>
   intro h;rw[au.eB];rcases List.mem_cons.1 h with e|e
   ·subst e;omega
   ·have:=ih e;omega
 have:=this _ h;omega
theorem au.amo{x:au}{y:aR}(h:y∈x.aQ):y.fBody.cnt+1<=x.cnt:=by
 rw[au.rE x]
 have:∀xs:List aR,y∈xs->y.fBody.cnt<=aR.eB xs:=by
  intro xs
  induction xs with
  |nil=>intro h;cases h
  |cons z zs ih=>
   intro h;rw[aR.eB];rcases List.mem_cons.1 h with e|e
   ·subst e;rw[aR.rE];omega
   ·have:=ih e;omega
 have:=this _ h;omega
theorem au.amq(x:au):x.fArgs.length+1<=x.cnt:=by
 rw[au.rE x]
 have:∀xs:List au,xs.length<=au.eB xs:=by
  intro xs
  induction xs with
  |nil=>simp
  |cons z zs ih=>rw[au.eB,List.length_cons];have:=au.rE z;omega
 have:=this x.fArgs;omega
def adA(k:Int):Bool:=if k=5\/k=11 then true else false
def adB(k:Int):Bool:=if k=3\/k=4\/k=6\/k=5\/k=8\/k=10 then true else false
def adC(k:Int):Bool:=if k=1\/k=2 then true else false
def adD(k:Int):Bool:=if k=1\/k=2\/k=3\/k=4\/k=6\/k=5\/k=7\/k=8\/k=10\/k=9\/k=11 then false else true
def adE(k:Int):Int:=if k=1\/k=2\/k=3 then 0 else if k=4\/k=6\/k=5 then -1 else if k=8\/k=10 then 2 else if k=9 then 3 else 1
def adF(k:Int):Bool:=if k=7 then true else false
theorem Qj:∀n:Nat,∀x:au,SizeOf.sizeOf x<n->x.sz<=4194304->x.cnt<=300->aH prog 135 [x.v] (.c (.d (.b (jd x))))
 |0=>fun x h=>by omega
 |n+1=>by
  have ih:=Qj n;intro x hn hsz hc S;have hb0:=au.bounds hsz;have j3:=au.gT x;have BA:=au.qb x;have hl:=au.amq x
  have h1:∀y∈x.fArgs,aH prog 198 [y.v] (.c (.d (.b (!jd y)))):=fun y hy S=>by
   have hys:=List.sizeOf_lt_of_mem hy;have hyc:=au.amn hy
   have hyz:y.sz<=4194304:=by obtain⟨i,hi,e⟩:=List.getElem_of_mem hy;rw[<-e];exact au.arg_b hi hsz
   refine zcx [.tmp 2] func198 ntmps198 ?_;refine W1 ?_;exact C4 (ih y (by omega) hyz (by omega))
  have h2:∀y∈x.aQ,aH prog 200 [y.v] (.c (.d (.b (!xP y)))):=fun y hy S=>by
   have hys:=List.sizeOf_lt_of_mem hy;have hyb:=aR.oU y;have hyc:=au.amo hy
   have hyz:y.sz<=4194304:=by obtain⟨i,hi,e⟩:=List.getElem_of_mem hy;rw[<-e];exact au.Vf hi hsz
   have hyy:=aR.bounds hyz;refine zcx [.tmp 2] func200 ntmps200 ?_;refine W1 ?_;refine C2 (iL y.dM (by omega)) ?_;refine S0 (fun hb h=>?_) fun hb h=>?_
   ·exact ay (by rw[ug,h];rfl)
   have k1:=h;refine C2 (qw y.aG (by omega) hyy.2.2.1) ?_;refine S0 (fun hb h=>?_) fun hb h=>?_
   ·exact ay (by rw[ug,h];simp)
   have k2:=h;refine C2 (ih y.fBody (by omega) hyy.2.2.2 (by omega)) ?_;exact ay (by rw[ug,k1,k2];simp)
  refine zcx [.tmp 2] func135 ntmps135 ?_;refine W1 ?_;refine C2 (XZ x hsz (by omega)) ?_;refine S0 (fun hb h=>?_) fun hb h=>?_
  ·exact ay (by rw[zl,aB h];rfl)
  have k1:=h;refine W3 ?_;refine bg rfl (Jv 198 [] _ x.fArgs (fun y=> !jd y) (by omega) fun y hy=>qp.Rc (h1 y hy)) ?_;refine W1 ?_;rw[MF];refine S0 (fun hb h=>?_) fun hb h=>?_
  ·exact ay (by rw[zl,h];simp)
  have k2:=h;refine W3 ?_;refine bg rfl (J6 200 [] _ x.aQ (fun y=> !xP y) (by omega) fun y hy=>qp.Rc (h2 y hy)) ?_;refine W1 ?_;rw[Pp];exact ay (by rw[zl,aZ k1,k2];simp)
theorem Ny(x:au)(hsz:x.sz<=4194304):aH prog 68 [x.v] (.c (.d (.b (tJ x)))):=fun S=>by
 refine zcx [.tmp 2] func68 ntmps68 ?_;refine W1 ?_;refine C2 (Po x hsz) ?_;refine S0 (fun hb h=>?_) fun hb h=>?_
 ·refine C2 (Qj _ x (Nat.lt_succ_self _) hsz (by omega)) ?_;exact ay (by unfold tJ;rw[aZ (by omega)];rfl)
 ·exact ay (by unfold tJ;rw[aB (by omega)];rfl)
theorem TP(k:Int):aH prog 180 [.c (.d (.i .i64 k))] (.dL [(false,[.d (.b (adA k))]),(false,[.d (.b (adB k))]),(false,[.d (.b (adC k))]),(false,[.d (.b (adD k))]),(false,[.d (.i .i64 (adE k))]),(false,[.d (.b (adF k))])]):=fun S=>by
 refine zcx [.tmp 2,.tmp 3,.tmp 4,.tmp 5,.tmp 6,.tmp 7] func180 ntmps180 ?_;refine W1 ?_
 repeat' (first
  |refine S0 (fun hb h=>?_) fun hb h=>?_
  |(unfold adA adB adC adD adE adF;grind))
theorem Qk(t:ak):aH prog 184 [t.v] (.c (.d (.b (dec (yH t))))):=fun S=>by
 refine zcx [.tmp 2] func184 ntmps184 ?_;refine W1 ?_
 repeat' (first
  |refine S0 (fun hb h=>?_) fun hb h=>?_
  |(refine ay ?_;unfold yH;grind [aZ,aB,gH,jg]))
theorem adG(s:List UInt8):aH prog 182 [.c (.d (.s s))] (.c (.d (.b (dec (s∈ops))))):=fun S=>by
 refine zcx [.tmp 2] func182 ntmps182 ?_;refine W1 ?_;refine W3 ?_;exact C4 (sG ops s (by decide))
theorem MR:∀n:Nat,∀x:au,SizeOf.sizeOf x<n->x.sz<=4194304->∀l:Int,0<=l->l<=1048576->aH prog 117 [x.v,.c (.d (.i .i64 l))] (.c (.d (.i .i64 (qG l x.cnt))))
 |0=>fun x h=>by omega
 |n+1=>by
  have ih:=MR n;intro x hn hsz l hl hl2 S;have hb0:=au.bounds hsz;have j3:=au.gT x;have BA:=au.qb x;have he:=au.rE x;refine zcx [.tmp 4] func117 ntmps117 ?_;refine W1 ?_
  refine aT (ι:=Nat×Int) zmx rfl [1,2,5] (fun y=>[.c (.d (.i .i64 y.2)),.c (.ptr (0,0) 0),.c (.d (.i .i64 y.1))]) (fun y=>[.box (x.enc.map .d)]::S)
   (fun y=>y.1<=x.fArgs.length/\(-1<=y.2/\y.2<=1048576)/\qG y.2 (au.eB (x.fArgs.drop y.1))=qG (l-1) (au.eB x.fArgs)) (fun y=>x.fArgs.length-y.1) (0,l-1) rfl ?_ ⟨Nat.zero_le _,by simp only;omega,rfl⟩ ?_
  ·exact Z1
  rintro⟨i,c⟩ ⟨p1,p2,p3⟩;simp only at p1 p2 p3
  have out:(i=x.fArgs.length\/c<0)->c=qG (l-1) (au.eB x.fArgs):=fun h=>by
   rcases h with h|h
   ·rw[h,List.drop_length,au.eB,Kc p2.1] at p3;exact p3
   ·rw[<-p3,Ng h];omega
  have second:(i=x.fArgs.length\/c<0)->qG c (aR.eB x.aQ)=qG l x.cnt:=fun h=>by
   rw[out h,Ik,he];unfold qG;split<;>split<;>(try split)<;>omega
  refine W1 ?_;refine S0 (fun hb h=>?_) fun hb h=>?_
  ·have hi:i<x.fArgs.length:=by omega
   refine S0 (fun hb h=>?_) fun hb h=>?_
   ·have hs:=List.sizeOf_lt_of_mem (List.getElem_mem hi);have hr:=Rm (l:=c) (c:=x.fArgs[i].cnt) (by omega);rw[au.nP hi,<-Ik] at p3;refine W3 ?_;refine C2 (ih x.fArgs[i] (by omega) (au.arg_b hi hsz) c (by omega) (by omega)) ?_;exact bF (i+1,qG c x.fArgs[i].cnt) (by simp only;omega) rfl rfl ⟨by simp only;omega,by simp only;omega,p3⟩
   ·have p4:=second (.inr (by omega));clear second out p3
    refine aT (ι:=Nat×Int) zmx rfl [1,2,6] (fun y=>[.c (.d (.i .i64 y.2)),.c (.ptr (0,0) 0),.c (.d (.i .i64 y.1))]) (fun y=>[.box (x.enc.map .d)]::S)
     (fun y=>y.1<=x.aQ.length/\(-1<=y.2/\y.2<=1048576)/\qG y.2 (aR.eB (x.aQ.drop y.1))=qG l x.cnt) (fun y=>x.aQ.length-y.1) (0,c) rfl ?_ ⟨Nat.zero_le _,by simp only;omega,p4⟩ ?_
    ·exact Z1
    clear p1 p2 p4;rintro⟨i,d⟩ ⟨p1,p2,p3⟩;simp only at p1 p2 p3;refine W1 ?_;refine S0 (fun hb h=>?_) fun hb h=>?_
    ·have hi:i<x.aQ.length:=by omega
     refine S0 (fun hb h=>?_) fun hb h=>?_
     ·have hs:=List.sizeOf_lt_of_mem (List.getElem_mem hi);have hs':=aR.oU x.aQ[i];have hr:=Rm (l:=d) (c:=x.aQ[i].fBody.cnt) (by omega);rw[aR.nP hi,<-Ik] at p3;refine W3 ?_;refine C2 (ih x.aQ[i].fBody (by omega) (aR.bounds (au.Vf hi hsz)).2.2.2 d (by omega) (by omega)) ?_;exact bF (i+1,qG d x.aQ[i].fBody.cnt) (by simp only;omega) rfl rfl ⟨by simp only;omega,by simp only;omega,p3⟩
     ·rw[Ng (by omega)] at p3;exact int_eq (by omega)
    ·have hi:i=x.aQ.length:=by omega
     rw[hi,List.drop_length,aR.eB,Kc p2.1] at p3;exact int_eq (by omega)
  ·have p4:=second (.inl (by omega));clear second out p3
   refine aT (ι:=Nat×Int) zmx rfl [1,2,6] (fun y=>[.c (.d (.i .i64 y.2)),.c (.ptr (0,0) 0),.c (.d (.i .i64 y.1))]) (fun y=>[.box (x.enc.map .d)]::S)
    (fun y=>y.1<=x.aQ.length/\(-1<=y.2/\y.2<=1048576)/\qG y.2 (aR.eB (x.aQ.drop y.1))=qG l x.cnt) (fun y=>x.aQ.length-y.1) (0,c) rfl ?_ ⟨Nat.zero_le _,by simp only;omega,p4⟩ ?_
   ·exact Z1
   clear p1 p2 p4;rintro⟨i,d⟩ ⟨p1,p2,p3⟩;simp only at p1 p2 p3;refine W1 ?_;refine S0 (fun hb h=>?_) fun hb h=>?_
   ·have hi:i<x.aQ.length:=by omega
    refine S0 (fun hb h=>?_) fun hb h=>?_
    ·have hs:=List.sizeOf_lt_of_mem (List.getElem_mem hi);have hs':=aR.oU x.aQ[i];have hr:=Rm (l:=d) (c:=x.aQ[i].fBody.cnt) (by omega);rw[aR.nP hi,<-Ik] at p3;refine W3 ?_;refine C2 (ih x.aQ[i].fBody (by omega) (aR.bounds (au.Vf hi hsz)).2.2.2 d (by omega) (by omega)) ?_;exact bF (i+1,qG d x.aQ[i].fBody.cnt) (by simp only;omega) rfl rfl ⟨by simp only;omega,by simp only;omega,p3⟩
    ·rw[Ng (by omega)] at p3;exact int_eq (by omega)
   ·have hi:i=x.aQ.length:=by omega
    rw[hi,List.drop_length,aR.eB,Kc p2.1] at p3;exact int_eq (by omega)
theorem ZR:∀n:Nat,∀x:au,SizeOf.sizeOf x<n->x.sz<=4194304->aH prog 118 [x.v] (.c (.d (.b (jd x)))):=by
 intro n
 induction n with
 |zero=>intro x h;omega
 |succ n ih=>
  intro x hn hsz S;have hb0:=au.bounds hsz;have j3:=au.gT x;have BA:=au.qb x;have he:=zl x;have hv0:=Uq;have hop:x.fName∈ops->validName x.fName=false:=WY;refine(show(wm x-> ?T)->_ from fun tail=> ?main) ?tp
  case' main=>
   rcases Qi x.aK with hk|hk|hk|hk|hk|hk|hk|hk|hk|hk|hk|hk|hk
   ·have h1:jd x=false:=by rw[he,aB (fun h=>by have:=h.1;omega)];rfl
    refine zcx [.tmp 2] func118 ntmps118 ?_;refine W1 ?_;refine C1 (TP _) ?_;refine C1 (Gh _ _ _) ?_;refine S0 (fun hb h=>?_) fun hb h=>?_
    ·rw[h1]
    ·omega
   all_goals
    have hf0:¬wm x->V.c (.d (.b false))=V.c (.d (.b (jd x))):=fun h=>ay (by rw[he,aB h];rfl);refine zcx [.tmp 2] func118 ntmps118 ?_;simp -implicitDefEqProofs (disch:=omega) only[go_sem,hk];refine aX (TP _) ?_;simp -implicitDefEqProofs (disch:=omega) only[go_sem,hk,adA,adB,adC,adD,adE,adF,or_false,or_true,true_or,false_or];refine aX (Gh _ _ _) ?_;simp -implicitDefEqProofs (disch:=omega) only[go_sem,hk]
    repeat' (first
     |with_reducible refine dD (fun hb=> ?_) (fun hb=> ?_)<;>have h:=hb<;>(try simp only[wf_preprocess] at h)<;>simp -implicitDefEqProofs (disch:=omega) only[go_sem,hb,hk]<;>refine W3 ?_
     |((with_reducible show fD _ _ 148 _ _ _ _);refine aX (iM x.fName (by omega)) ?_;simp -implicitDefEqProofs (disch:=omega) only[go_sem,hk])
     |((with_reducible show fD _ _ 148 _ _ _ _);refine aX (iM x.bC (by omega)) ?_;simp -implicitDefEqProofs (disch:=omega) only[go_sem,hk])
     |((with_reducible show fD _ _ 182 _ _ _ _);refine aX (adG x.fName) ?_;simp -implicitDefEqProofs (disch:=omega) only[go_sem,hk])
     |((with_reducible show fD _ _ 184 _ _ _ _);refine aX (Qk x.fType) ?_;simp -implicitDefEqProofs (disch:=omega) only[go_sem,hk])
     |((with_reducible show fD _ _ 183 _ _ _ _);refine aX (yT x.fType (by omega)) ?_;simp -implicitDefEqProofs (disch:=omega) only[go_sem,hk])
     |((with_reducible show fD _ _ 181 _ _ _ _);refine aX (Gh x.fN _ _) ?_;simp -implicitDefEqProofs (disch:=omega) only[go_sem,hk])
     |(refine hf0 fun hF=> ?_;simp only[wm,hk,or_false,or_true,true_or,false_or,and_true,true_and,if_true,if_false,↓reduceIte,Int.reduceEq,Int.reduceLT,Int.reduceLE] at hF;grind [gH,jg,aZ,aB]))
   all_goals
    have hF:wm x:=by simp only[wm,hk,or_false,or_true,true_or,false_or,and_true,true_and,if_true,if_false,↓reduceIte,Int.reduceEq,Int.reduceLT,Int.reduceLE];grind [gH,jg,aZ,aB]
    refine oD (st':=[.box (x.enc.map .d)]::S) [1,9] [.c (.ptr (0,0) 0),.c (.d (.i .i64 0))] rfl (by simp -implicitDefEqProofs (disch:=omega) only[go_sem,hk]) ?_;exact tail hF
  intro hF;rw[aZ hF,Bool.true_and] at he;clear hF hop hv0
  refine aT (ι:=Nat) zmx rfl [1,9] (fun i=>[.c (.ptr (0,0) 0),.c (.d (.i .i64 i))]) (fun _=>[.box (x.enc.map .d)]::S)
   (fun i=>i<=x.fArgs.length/\mZ (x.fArgs.drop i)=mZ x.fArgs) (fun i=>x.fArgs.length-i) 0 rfl ?_ ⟨Nat.zero_le _,rfl⟩ ?_
  ·exact Z1
  rintro i ⟨p1,p2⟩;refine W1 ?_;refine S0 (fun hb h=>?_) fun hb h=>?_
  ·have hi:i<x.fArgs.length:=by omega
   have hs:=List.sizeOf_lt_of_mem (List.getElem_mem hi);rw[WX hi] at p2;refine W3 ?_;refine C2 (ih x.fArgs[i] (by omega) (au.arg_b hi hsz)) ?_;refine S0 (fun hb h=>?_) fun hb h=>?_
   ·exact ay (by rw[he,<-p2,h];rfl)
   ·exact bF (i+1) (by omega) rfl rfl ⟨by omega,by rw[<-p2,h];rfl⟩
  rw[List.drop_of_length_le (by omega)] at p2;have q:mZ x.fArgs=true:=p2.symm;clear p2 p1
  refine aT (ι:=Nat) zmx rfl [1,10] (fun i=>[.c (.ptr (0,0) 0),.c (.d (.i .i64 i))]) (fun _=>[.box (x.enc.map .d)]::S)
   (fun i=>i<=x.aQ.length/\qE (x.aQ.drop i)=qE x.aQ) (fun i=>x.aQ.length-i) 0 rfl ?_ ⟨Nat.zero_le _,rfl⟩ ?_
  ·exact Z1
  rintro i ⟨p1,p2⟩;refine W1 ?_;refine S0 (fun hb h=>?_) fun hb h=>?_
  ·have hi:i<x.aQ.length:=by omega
   have hs:=List.sizeOf_lt_of_mem (List.getElem_mem hi);have hs':=aR.oU x.aQ[i];have hab:=aR.bounds (au.Vf hi hsz);rw[Zt hi] at p2;have no:xP x.aQ[i]=false->V.c (.d (.b false))=V.c (.d (.b (jd x))):=fun h=>ay (by rw[he,<-p2,h];simp);refine W3 ?_;refine C2 (iM x.aQ[i].dM (by omega)) ?_;refine S0 (fun hb h=>?_) fun hb h=>?_
   ·exact no (by rw[ug,h];rfl)
   have k1:=h;refine W3 ?_;refine C2 (Pj x.aQ[i].aG (by omega) hab.2.2.1) ?_;refine S0 (fun hb h=>?_) fun hb h=>?_
   ·exact no (by rw[ug];unfold iU;rw[h];simp)
   have k2:=h;refine W3 ?_;refine C2 (qW x.aQ[i].aG (by omega)) ?_;refine S0 (fun hb h=>?_) fun hb h=>?_
   ·exact no (by rw[ug];unfold iU;rw[aB h];simp)
   have k3:=h;refine W3 ?_;refine C2 (ih x.aQ[i].fBody (by omega) hab.2.2.2) ?_;refine S0 (fun hb h=>?_) fun hb h=>?_
   ·exact no (by rw[ug,h];simp)
   ·exact bX 1 (by decide) (i+1) (by omega) rfl rfl rfl rfl ⟨by omega,by rw[<-p2,ug,k1,h];unfold iU;rw[k2,aZ k3];rfl⟩
  ·rw[List.drop_of_length_le (by omega)] at p2;exact ay (by rw[he,q,<-p2];rfl)
theorem Nz(x:au)(hsz:x.sz<=4194304):aH prog 62 [x.v] (.c (.d (.b (tJ x)))):=fun S=>by
 have hs:=aiF (l:=300) (c:=x.cnt) (by omega);refine zcx [.tmp 2] func62 ntmps62 ?_;refine W1 ?_;refine C2 (MR _ x (Nat.lt_succ_self _) hsz 300 (by omega) (by omega)) ?_;rw[hs];refine S0 (fun hb h=>?_) fun hb h=>?_
 ·refine C2 (ZR _ x (Nat.lt_succ_self _) hsz) ?_;exact ay (by unfold tJ;rw[aZ (by omega)];rfl)
 ·exact ay (by unfold tJ;rw[aB (by omega)];rfl)
theorem X0{x:au}(h:tJ x=true):jd x=true:=by rw[tJ,Bool.and_eq_true] at h;exact h.2
abbrev au.cv(x:au):List C:=[.d (.i .i64 x.aK),.d (.s x.bC),.d (.s x.fName),.d (.i .i64 x.fN),.d (.i .i64 x.fType.aK),.d (.s x.fType.fName),.d (.sl (x.fType.fArgs.map ak.enc)),.d (.sl (x.fArgs.map au.enc)),.d (.sl (x.aQ.map aR.enc))]
abbrev au.cl(x:au)(n:Nat):List C:=[.d (.i .i64 x.aK),.d (.s x.bC),.d (.s x.fName),.d (.i .i64 x.fN),.d (.i .i64 x.fType.aK),.d (.s x.fType.fName),.d (.ol n (lt x.fType.fArgs (n+1))),
 .d (.ol (n+(fZ x.fType.fArgs+1)) (lE x.fArgs (n+(fZ x.fType.fArgs+1)+1))),.d (.ol (n+(fZ x.fType.fArgs+1)+(lT x.fArgs+1)) (lM x.aQ (n+(fZ x.fType.fArgs+1)+(lT x.fArgs+1)+1)))]
abbrev asQ:List C:=[.d (.i .i64 0),.d (.s []),.d (.s []),.d (.i .i64 0),.d (.i .i64 0),.d (.s []),.bE [],.bE [],.bE []]
theorem adH{s:List UInt8}(h:lD s=false):jB s=bZ:=by
 unfold jB;rw[dif_neg (jg h)]
theorem X3(s:List UInt8):(jB s).sz<=1048576:=by
 cases h:lD s with
 |true=>have:=tC (Zn h);omega
 |false=>rw[adH h,IG];omega
theorem agv{w:World}{σ:Nat->Nat}{S:Store}{β:Hs}{x:aj}{lv:Value}{b:Bool}(h:dH w σ (.sl (x.ah.map aj.enc)) lv)(h1:lv.oneCell'=true):
 dP w σ S β (.dL [(true,x.enc.map .d),(false,[.d (.b b)])]) (.tuple #[.agg #[.string ⟨x.aO.toArray⟩,lv],.bool b]):=by
 refine⟨_,rfl,rfl,fun j y hy=> ?_⟩
 match j,hy with
 |0,hy=>
  simp at hy;subst hy;refine⟨_,rfl,_,rfl,by rw[aj.aA];rfl,fun j y hy=> ?_⟩;rw[aj.aA] at hy
  match j,hy with
  |0,hy=>simp at hy;subst hy;exact⟨_,rfl,.s _,rfl⟩
  |1,hy=>simp at hy;subst hy;exact⟨_,rfl,h,h1⟩
 |1,hy=>
  simp at hy;subst hy;exact⟨_,rfl,_,rfl,.b _,rfl⟩
theorem aoj{w:World}{σ:Nat->Nat}{es:List (List D)}{v:Value}(h:dH w σ (.sl es) v):v.oneCell'=true:=by
 cases h<;>rfl
theorem UA(s:List UInt8)(hs:s.length<=33554432):aH prog 23 [.c (.d (.s s))] (.dL [(true,(jB s).enc.map .d),(false,[.d (.b (lD s))])]):=fun S=>by
 refine⟨⟨_,func23,by kernel_rfl,by kernel_rfl⟩,fun w σ β vs hS hv=> ?_⟩;obtain⟨u,rfl,hu⟩:=aiI hv
 obtain rfl:u=.string ⟨s.toArray⟩:=by cases hu.1;rfl
 refine(acP s w σ hS.live hS.uF hs).mono fun e w' ⟨lv,σ',he,hr,hg,hgl⟩=> ?_;exact⟨_,_,S,σ',β,he,hS.grow hg,Keep.refl _ _,Step.mW hg,agv hr (aoj hr),rfl,rfl⟩
noncomputable def CQ(k:Int)(n:List UInt8)(bound out:List (List UInt8)):List (List UInt8):=if k=3/\n∉bound/\n∉out then out++[n] else out
mutual
noncomputable def lU:au->List (List UInt8)->List (List UInt8)->List (List UInt8)
 | .mk k _ n _ _ a b,bound,out=>xS b bound (uD a k n 0 bound (CQ k n bound out))
noncomputable def uD:List au->Int->List UInt8->Nat->List (List UInt8)->List (List UInt8)->List (List UInt8)
 |[],_,_,_,_,out=>out
 |x::xs,k,n,i,bound,out=>uD xs k n (i+1) bound (lU x (if k=8/\i=1 then bound++[n] else bound) out)
noncomputable def xS:List aR->List (List UInt8)->List (List UInt8)->List (List UInt8)
 |[],_,out=>out
 |x::xs,bound,out=>xS xs bound (IQ x bound out)
noncomputable def IQ:aR->List (List UInt8)->List (List UInt8)->List (List UInt8)
 | .mk _ v b,bound,out=>lU b (bound++v) out
end
theorem X4(x:au)(bound out:List (List UInt8)):lU x bound out=xS x.aQ bound (uD x.fArgs x.aK x.fName 0 bound (CQ x.aK x.fName bound out)):=by cases x;rw[lU];rfl
theorem X5(x:aR)(bound out:List (List UInt8)):IQ x bound out=lU x.fBody (bound++x.aG) out:=by cases x;rw[IQ];rfl
theorem Ql{xs:List au}{k:Int}{n:List UInt8}{i:Nat}{bound out:List (List UInt8)}(hi:i<xs.length):uD (xs.drop i) k n i bound out=uD (xs.drop (i+1)) k n (i+1) bound (lU xs[i] (if k=8/\i=1 then bound++[n] else bound) out):=by
 rw[List.drop_eq_getElem_cons hi,uD]
theorem Qm{xs:List aR}{i:Nat}{bound out:List (List UInt8)}(hi:i<xs.length):xS (xs.drop i) bound out=xS (xs.drop (i+1)) bound (IQ xs[i] bound out):=by
 rw[List.drop_eq_getElem_cons hi,xS]
theorem NA(k:Int)(n:List UInt8)(bound out:List (List UInt8)):(CQ k n bound out).length<=out.length+1:=by
 unfold CQ;split<;>simp
mutual
theorem xI:∀(x:au)(bound out:List (List UInt8)),(lU x bound out).length<=out.length+x.cnt
 | .mk k t n m ty a b,bound,out=>by
   have h1:=NA k n bound out;have h2:=TQ a k n 0 bound (CQ k n bound out);have h3:=TR b bound (uD a k n 0 bound (CQ k n bound out));rw[lU,au.cnt];omega
theorem TQ:∀(xs:List au)(k:Int)(n:List UInt8)(i:Nat)(bound out:List (List UInt8)),(uD xs k n i bound out).length<=out.length+au.eB xs
 |[],k,n,i,bound,out=>by rw[uD,au.eB];omega
 |x::xs,k,n,i,bound,out=>by
  have h1:=xI x (if k=8/\i=1 then bound++[n] else bound) out;have h2:=TQ xs k n (i+1) bound (lU x (if k=8/\i=1 then bound++[n] else bound) out);rw[uD,au.eB];omega
theorem TR:∀(xs:List aR)(bound out:List (List UInt8)),(xS xs bound out).length<=out.length+aR.eB xs
 |[],bound,out=>by rw[xS,aR.eB];omega
 |x::xs,bound,out=>by
  have h1:=agw x bound out;have h2:=TR xs bound (IQ x bound out);rw[xS,aR.eB];omega
theorem agw:∀(x:aR)(bound out:List (List UInt8)),(IQ x bound out).length<=out.length+x.cnt
 | .mk c v b,bound,out=>by
   have h1:=xI b (bound++v) out;rw[IQ,aR.cnt];omega
end
theorem au.xg{x:au}{i:Nat}(hi:i<x.fArgs.length):x.fArgs[i].sz+x.fArgs.length<=x.sz:=by
 have hx:x.fArgs[i].sz<=bf (x.fArgs.map au.enc):=dA (List.mem_map_of_mem (List.getElem_mem hi));have:=au.Ei x;omega
theorem au.agx{x:au}{i:Nat}(hi:i<x.aQ.length):x.aQ[i].sz+x.aQ.length<=x.sz:=by
 have hx:x.aQ[i].sz<=bf (x.aQ.map aR.enc):=dA (List.mem_map_of_mem (List.getElem_mem hi));have:=au.Ei x;omega
theorem aR.aaO(x:aR):x.aG.length+x.fBody.sz<=x.sz:=by
 simp only[aR.sz,aR.aA,au.sz,bT,bK,D.sz,List.length_map];omega
theorem LK(xs:List (List UInt8))(s:List UInt8):xs.map encS++[[D.s s]]=(xs++[s]).map encS:=by simp[encS]
theorem KR:∀N:Nat,∀x:au,SizeOf.sizeOf x<N->x.sz<=4194304->∀(bound out:List (List UInt8))(l j:Nat)(S:Store),bG S (l,j)=some (.tok 1 (out.map encS))->out.length+x.cnt<=1073741824->bound.length+x.sz<=1073741824->
 dh prog 315 [.c (.bN (l,j) (out.map encS)),x.v,.c (.d (.sl (bound.map encS)))] S (fun r S'=>r=.c (.bN (l,j) ((lU x bound out).map encS))/\S'=bR S (l,j) (.tok 1 ((lU x bound out).map encS)))
 |0=>fun x h=>by omega
 |N+1=>by
  have ih:=KR N;intro x hn hsz bound out l j S hk hc hbd;have hb0:=au.Ei x;have j3:=au.gT x;have BA:=au.qb x;have hcn:=au.rE x;have O8:∀y:Ab.Obj,bG (bR S (l,j) y) (l,j)=some y:=fun y=>fB _ _ _ _ hk;have hS0:bR S (l,j) (.tok 1 (out.map encS))=S:=ze _ _ hk;have fin:=X4 x bound out;have hal:=NA x.aK x.fName bound out;obtain⟨o1,ho1⟩:∃o1,CQ x.aK x.fName bound out=o1:=⟨_,rfl⟩;rw[ho1] at fin hal;refine(show Hold ?T->_ from fun tail=> ?main) ?tp
  case' main=>
   refine zcx [.tmp 6] func315 ntmps315 ?_;simp -implicitDefEqProofs (disch:=omega) only[go_sem,hk]
   repeat' (first
    |(with_reducible refine dD (fun hb=> ?_) (fun hb=> ?_)<;>have h:=hb<;>(try simp only[wf_preprocess] at h)<;>simp -implicitDefEqProofs (disch:=omega) only[go_sem,hb,hk]<;>refine W3 ?_)
    |(refine aX (sH bound x.fName (by omega)) ?_;simp -implicitDefEqProofs (disch:=omega) only[go_sem,hk];refine W3 ?_)
    |(refine aX (sH out x.fName (by omega)) ?_;simp -implicitDefEqProofs (disch:=omega) only[go_sem,hk];refine W3 ?_))
   all_goals first
    |(have ha:CQ x.aK x.fName bound out=out++[x.fName]:=if_pos ⟨by assumption,by assumption,by assumption⟩)
    |(have ha:CQ x.aK x.fName bound out=out:=if_neg (fun y=>by have:=y.1;have:=y.2.1;have:=y.2.2;contradiction))
   all_goals
    refine oD (st':=[.box (x.enc.map .d)]::bR S (l,j) (.tok 1 (o1.map encS))) [0,2,4,34,35,36] [.c (.bN (1+l,j) (o1.map encS)),.c (.d (.sl (bound.map encS))),.c (.ptr (0,0) 0),.c (.d (.sl (x.fArgs.map au.enc))),.c (.d (.i .i64 x.fArgs.length)),.c (.d (.i .i64 0))] ?_ ?_ ?_
    ·first|(rw[<-ho1,ha];rfl)|(rw[<-ho1,ha,<-LK];rfl)
    ·first|(rw[<-ho1,ha,hS0];exact Z1;done)|(rw[<-ho1,ha,<-LK];exact Z1;done)
    ·exact tail.out
  refine⟨?_⟩;clear ho1
  refine aT (ι:=Nat×List (List UInt8)) zmx rfl [0,2,4,34,35,36] (fun y=>[.c (.bN (1+l,j) (y.2.map encS)),.c (.d (.sl (bound.map encS))),.c (.ptr (0,0) 0),.c (.d (.sl (x.fArgs.map au.enc))),.c (.d (.i .i64 x.fArgs.length)),.c (.d (.i .i64 y.1))]) (fun y=>[.box (x.enc.map .d)]::bR S (l,j) (.tok 1 (y.2.map encS)))
   (fun y=>y.1<=x.fArgs.length/\y.2.length+au.eB (x.fArgs.drop y.1)+aR.eB x.aQ<=1073741824/\uD (x.fArgs.drop y.1) x.aK x.fName y.1 bound y.2=uD x.fArgs x.aK x.fName 0 bound o1) (fun y=>x.fArgs.length-y.1) (0,o1) rfl rfl ⟨Nat.zero_le _,by simp only[List.drop_zero];omega,rfl⟩ ?_
  rintro⟨i,o⟩ ⟨p1,p2,p3⟩
  have refs:∀{a b},kX 1 (iX [0,2,4,34,35,36] [.c (.bN (1+l,j) a),.c (.d (.sl (bound.map encS))),.c (.ptr (0,0) 0),.c (.d (.sl (x.fArgs.map au.enc))),.c (.d (.i .i64 x.fArgs.length)),.c (.d (.i .i64 b))])=true:=fun {a b}=>by simp[kX,iX,V.refs,C.refs,oh];omega
  simp only at p1 p2 p3;refine W1 ?_;refine S0 (fun hb h=>?_) fun hb h=>?_
  ·have hi:i<x.fArgs.length:=by omega
   have hs:=List.sizeOf_lt_of_mem (List.getElem_mem hi);have hz:=au.xg hi;rw[Ql hi] at p3;rw[au.nP hi] at p2;have hlo:=xI x.fArgs[i] (if x.aK=8/\i=1 then bound++[x.fName] else bound) o;refine W3 ?_
   have two:x.fArgs[i].sz+(bound.length+1)<=1073741824:=by omega
   repeat' (first|refine S0 (fun hb h=>?_) fun hb h=>?_)
   ·
    have e1:x.aK=8/\i=1:=⟨by omega,by omega⟩;rw[if_pos e1] at p3 hlo;refine anl rfl DS.push (agq bound (by omega) _ _) ?_;refine W1 ?_;refine W3 ?_;rw[LK];refine qB [true,true,false] rfl (ih x.fArgs[i] (by omega) (by omega) (bound++[x.fName]) o (1+l) j _ (by refine W1 ?_;exact O8 _) (by omega) (by simp only[List.length_append,List.length_cons,List.length_nil];omega)) ?_;simp -implicitDefEqProofs (disch:=omega) only[go_sem,bH];exact bX 1 (by decide) (i+1,lU x.fArgs[i] (bound++[x.fName]) o) (by simp only;omega) rfl rfl refs rfl ⟨by simp only;omega,by simp only;omega,p3⟩
   all_goals
    have e1:¬(x.aK=8/\i=1):=fun h=>by omega
    rw[if_neg e1] at p3 hlo;refine bg rfl (ih x.fArgs[i] (by omega) (by omega) bound o (1+l) j _ (by refine W1 ?_;exact O8 _) (by omega) (by omega)) ?_;simp -implicitDefEqProofs (disch:=omega) only[go_sem,bH];exact bX 1 (by decide) (i+1,lU x.fArgs[i] bound o) (by simp only;omega) rfl rfl refs rfl ⟨by simp only;omega,by simp only;omega,p3⟩
  have hi:i=x.fArgs.length:=by omega
  rw[hi,List.drop_length] at p2 p3;rw[au.eB] at p2;rw[uD] at p3;rw[<-p3] at fin;clear p3 refs
  refine aT (ι:=Nat×List (List UInt8)) zmx rfl [0,2,63,64,65] (fun y=>[.c (.bN (1+l,j) (y.2.map encS)),.c (.d (.sl (bound.map encS))),.c (.d (.sl (x.aQ.map aR.enc))),.c (.d (.i .i64 x.aQ.length)),.c (.d (.i .i64 y.1))]) (fun y=>[.box (x.enc.map .d)]::bR S (l,j) (.tok 1 (y.2.map encS)))
   (fun y=>y.1<=x.aQ.length/\y.2.length+aR.eB (x.aQ.drop y.1)<=1073741824/\xS (x.aQ.drop y.1) bound y.2=lU x bound out) (fun y=>x.aQ.length-y.1) (0,o) rfl ?_ ⟨Nat.zero_le _,by simp only[List.drop_zero];omega,fin.symm⟩ ?_
  ·exact Z1
  clear p1 p2 fin hal;rintro⟨i,o⟩ ⟨p1,p2,p3⟩
  have refs:∀a b,kX 1 (iX [0,2,63,64,65] [.c (.bN (1+l,j) a),.c (.d (.sl (bound.map encS))),.c (.d (.sl (x.aQ.map aR.enc))),.c (.d (.i .i64 x.aQ.length)),.c (.d (.i .i64 b))])=true:=fun a b=>by simp[kX,iX,V.refs,C.refs,oh];omega
  simp only at p1 p2 p3;refine W1 ?_;refine S0 (fun hb h=>?_) fun hb h=>?_
  ·have hi:i<x.aQ.length:=by omega
   have hs:=List.sizeOf_lt_of_mem (List.getElem_mem hi);have hs':=aR.oU x.aQ[i];have hz:=au.agx hi;have hz':=aR.aaO x.aQ[i];rw[Qm hi,X5] at p3;rw[aR.nP hi] at p2;have hlo:=xI x.aQ[i].fBody (bound++x.aQ[i].aG) o;have hcc:=adw [bound,x.aQ[i].aG] (by simp) (by simp only[List.flatten_cons,List.flatten_nil,List.append_nil,List.length_append];omega);simp only[List.map_cons,List.map_nil,List.flatten_cons,List.flatten_nil,List.append_nil] at hcc;refine W3 ?_;refine aX hcc ?_;refine W1 ?_;refine bg rfl (ih x.aQ[i].fBody (by omega) (by omega) (bound++x.aQ[i].aG) o (1+l) j _ (by refine W1 ?_;exact O8 _) (by omega) (by simp only[List.length_append];omega)) ?_;simp -implicitDefEqProofs (disch:=omega) only[go_sem,bH];exact bX 1 (by decide) (i+1,lU x.aQ[i].fBody (bound++x.aQ[i].aG) o) (by simp only;omega) rfl rfl (refs _ _) rfl ⟨by simp only;omega,by simp only;omega,p3⟩
  ·have hi:i=x.aQ.length:=by omega
   rw[hi,List.drop_length,xS] at p3;rw[<-p3];exact⟨rfl,rfl⟩
theorem Qn(x:au)(hsz:x.sz<=4194304):aH prog 290 [x.v] (.c (.d (.sl ((lU x [] []).map encS)))):=fun S=>by
 have hc:=au.nu x
 have h0:∀S,dh prog 315 [.c (.bE []),x.v,.c (.d (.sl []))] S (fun r S'=>r=.c (.d (.sl ((lU x [] []).map encS)))/\S'=S):=fun S=>by
  refine dh.aiv 0 (es:=[]) (aY:=1) rfl (by simp) (KR _ x (Nat.lt_succ_self _) hsz [] [] 0 0 ([.tok 1 []]::S) rfl (by simp;omega) (by simp;omega)) ?_;rintro r fr S' ⟨rfl,h2⟩;injection h2 with h2 h3;exact⟨_,rfl,rfl,h3⟩
 refine zcx [.tmp 2] func290 ntmps290 ?_;refine W1 ?_;refine W3 ?_;refine qB [true,true,false] rfl (h0 _) ?_;exact Z1
theorem KT:∀N:Nat,∀x:au,SizeOf.sizeOf x<N->x.sz<=4194304->∀(bound out:List (List UInt8))(l j:Nat)(S:Store),bG S (l,j)=some (.tok 1 (out.map encS))->out.length+x.cnt<=1073741824->bound.length+x.sz<=1073741824->
 dh prog 330 [x.v,.c (.d (.sl (bound.map encS))),.c (.bN (l,j) (out.map encS))] S (fun r S'=>r=.c (.bN (l,j) ((lU x bound out).map encS))/\S'=bR S (l,j) (.tok 1 ((lU x bound out).map encS)))
 |0=>fun x h=>by omega
 |N+1=>by
  have ih:=KT N;intro x hn hsz bound out l j S hk hc hbd;have hb0:=au.Ei x;have j3:=au.gT x;have BA:=au.qb x;have hcn:=au.rE x;have O8:∀y:Ab.Obj,bG (bR S (l,j) y) (l,j)=some y:=fun y=>fB _ _ _ _ hk;have hS0:bR S (l,j) (.tok 1 (out.map encS))=S:=ze _ _ hk;have fin:=X4 x bound out;have hal:=NA x.aK x.fName bound out;obtain⟨o1,ho1⟩:∃o1,CQ x.aK x.fName bound out=o1:=⟨_,rfl⟩;rw[ho1] at fin hal;refine(show Hold ?T->_ from fun tail=> ?main) ?tp
  case' main=>
   refine zcx [.tmp 6] func330 ntmps330 ?_;simp -implicitDefEqProofs (disch:=omega) only[go_sem,hk]
   repeat' (first
    |(with_reducible refine dD (fun hb=> ?_) (fun hb=> ?_)<;>have h:=hb<;>(try simp only[wf_preprocess] at h)<;>simp -implicitDefEqProofs (disch:=omega) only[go_sem,hb,hk]<;>refine W3 ?_)
    |(refine aX (sG bound x.fName (by omega)) ?_;simp -implicitDefEqProofs (disch:=omega) only[go_sem,hk];refine W3 ?_)
    |(refine aX (sG out x.fName (by omega)) ?_;simp -implicitDefEqProofs (disch:=omega) only[go_sem,hk];refine W3 ?_))
   all_goals first
    |(have ha:CQ x.aK x.fName bound out=out++[x.fName]:=if_pos ⟨by assumption,by assumption,by assumption⟩)
    |(have ha:CQ x.aK x.fName bound out=out:=if_neg (fun y=>by have:=y.1;have:=y.2.1;have:=y.2.2;contradiction))
   all_goals
    refine oD (st':=[.box (x.enc.map .d)]::bR S (l,j) (.tok 1 (o1.map encS))) [1,2,3,7] [.c (.d (.sl (bound.map encS))),.c (.bN (1+l,j) (o1.map encS)),.c (.ptr (0,0) 0),.c (.d (.i .i64 0))] ?_ ?_ ?_
    ·first|(rw[<-ho1,ha];rfl)|(rw[<-ho1,ha,<-LK];rfl)
    ·first|(rw[<-ho1,ha,hS0];exact Z1;done)|(rw[<-ho1,ha,<-LK];exact Z1;done)
    ·exact tail.out
  refine⟨?_⟩;clear ho1
  refine aT (ι:=Nat×List (List UInt8)) zmx rfl [1,2,3,7] (fun y=>[.c (.d (.sl (bound.map encS))),.c (.bN (1+l,j) (y.2.map encS)),.c (.ptr (0,0) 0),.c (.d (.i .i64 y.1))]) (fun y=>[.box (x.enc.map .d)]::bR S (l,j) (.tok 1 (y.2.map encS)))
   (fun y=>y.1<=x.fArgs.length/\y.2.length+au.eB (x.fArgs.drop y.1)+aR.eB x.aQ<=1073741824/\uD (x.fArgs.drop y.1) x.aK x.fName y.1 bound y.2=uD x.fArgs x.aK x.fName 0 bound o1) (fun y=>x.fArgs.length-y.1) (0,o1) rfl rfl ⟨Nat.zero_le _,by simp only[List.drop_zero];omega,rfl⟩ ?_
  rintro⟨i,o⟩ ⟨p1,p2,p3⟩
  have refs:∀{a b},kX 1 (iX [1,2,3,7] [.c (.d (.sl (bound.map encS))),.c (.bN (1+l,j) a),.c (.ptr (0,0) 0),.c (.d (.i .i64 b))])=true:=fun {a b}=>by simp[kX,iX,V.refs,C.refs,oh];omega
  simp only at p1 p2 p3;refine W1 ?_;refine S0 (fun hb h=>?_) fun hb h=>?_
  ·have hi:i<x.fArgs.length:=by omega
   have hs:=List.sizeOf_lt_of_mem (List.getElem_mem hi);have hz:=au.xg hi;rw[Ql hi] at p3;rw[au.nP hi] at p2;have hlo:=xI x.fArgs[i] (if x.aK=8/\i=1 then bound++[x.fName] else bound) o
   have two:x.fArgs[i].sz+(bound.length+1)<=1073741824:=by omega
   repeat' (first|refine S0 (fun hb h=>?_) fun hb h=>?_)
   ·have e1:x.aK=8/\i=1:=⟨by omega,by omega⟩;rw[if_pos e1] at p3 hlo;refine⟨EB,⟨_,rfl,rfl⟩,fun y hy=>(by cases hy),by omega,?_⟩;refine W3 ?_;rw[LK];refine qB [true,false,true] rfl (ih x.fArgs[i] (by omega) (by omega) (bound++[x.fName]) o (1+l) j _ (by refine W1 ?_;exact O8 _) (by omega) (by simp only[List.length_append,List.length_cons,List.length_nil];omega)) ?_;simp -implicitDefEqProofs (disch:=omega) only[go_sem,bH];exact bX 1 (by decide) (i+1,lU x.fArgs[i] (bound++[x.fName]) o) (by simp only;omega) rfl rfl refs rfl ⟨by simp only;omega,by simp only;omega,p3⟩
   all_goals
    have e1:¬(x.aK=8/\i=1):=fun h=>by omega
    rw[if_neg e1] at p3 hlo;refine W3 ?_;refine bg rfl (ih x.fArgs[i] (by omega) (by omega) bound o (1+l) j _ (by refine W1 ?_;exact O8 _) (by omega) (by omega)) ?_;simp -implicitDefEqProofs (disch:=omega) only[go_sem,bH];exact bX 1 (by decide) (i+1,lU x.fArgs[i] bound o) (by simp only;omega) rfl rfl refs rfl ⟨by simp only;omega,by simp only;omega,p3⟩
  have hi:i=x.fArgs.length:=by omega
  rw[hi,List.drop_length] at p2 p3;rw[au.eB] at p2;rw[uD] at p3;rw[<-p3] at fin;clear p3 refs
  refine aT (ι:=Nat×List (List UInt8)) zmx rfl [1,2,3,9] (fun y=>[.c (.d (.sl (bound.map encS))),.c (.bN (1+l,j) (y.2.map encS)),.c (.ptr (0,0) 0),.c (.d (.i .i64 y.1))]) (fun y=>[.box (x.enc.map .d)]::bR S (l,j) (.tok 1 (y.2.map encS)))
   (fun y=>y.1<=x.aQ.length/\y.2.length+aR.eB (x.aQ.drop y.1)<=1073741824/\xS (x.aQ.drop y.1) bound y.2=lU x bound out) (fun y=>x.aQ.length-y.1) (0,o) rfl ?_ ⟨Nat.zero_le _,by simp only[List.drop_zero];omega,fin.symm⟩ ?_
  ·exact Z1
  clear p1 p2 fin hal;rintro⟨i,o⟩ ⟨p1,p2,p3⟩
  have refs:∀a b,kX 1 (iX [1,2,3,9] [.c (.d (.sl (bound.map encS))),.c (.bN (1+l,j) a),.c (.ptr (0,0) 0),.c (.d (.i .i64 b))])=true:=fun a b=>by simp[kX,iX,V.refs,C.refs,oh];omega
  simp only at p1 p2 p3;refine W1 ?_;refine S0 (fun hb h=>?_) fun hb h=>?_
  ·have hi:i<x.aQ.length:=by omega
   have hs:=List.sizeOf_lt_of_mem (List.getElem_mem hi);have hs':=aR.oU x.aQ[i];have hz:=au.agx hi;have hz':=aR.aaO x.aQ[i];rw[Qm hi,X5] at p3;rw[aR.nP hi] at p2;have hlo:=xI x.aQ[i].fBody (bound++x.aQ[i].aG) o;refine⟨EB,⟨_,rfl,rfl⟩,fun y hy=>(by cases hy),by omega,⟨by omega,hi⟩,EB,⟨_,rfl,rfl⟩,by omega,?_⟩;rw[<-List.map_append];refine qB [true,false,true] rfl (ih x.aQ[i].fBody (by omega) (by omega) (bound++x.aQ[i].aG) o (1+l) j _ (by refine W1 ?_;exact O8 _) (by omega) (by simp only[List.length_append];omega)) ?_;simp -implicitDefEqProofs (disch:=omega) only[go_sem,bH];exact bX 1 (by decide) (i+1,lU x.aQ[i].fBody (bound++x.aQ[i].aG) o) (by simp only;omega) rfl rfl (refs _ _) rfl ⟨by simp only;omega,by simp only;omega,p3⟩
  ·have hi:i=x.aQ.length:=by omega
   rw[hi,List.drop_length,xS] at p3;rw[<-p3];exact⟨rfl,rfl⟩
theorem Qo(x:au)(hsz:x.sz<=4194304):aH prog 310 [x.v] (.c (.d (.sl ((lU x [] []).map encS)))):=fun S=>by
 have hc:=au.nu x
 have h0:∀S,dh prog 330 [x.v,.c (.d (.sl [])),.c (.bE [])] S (fun r S'=>r=.c (.d (.sl ((lU x [] []).map encS)))/\S'=S):=fun S=>by
  refine dh.aiv 2 (es:=[]) (aY:=1) rfl (by simp) (KT _ x (Nat.lt_succ_self _) hsz [] [] 0 0 ([.tok 1 []]::S) rfl (by simp;omega) (by simp;omega)) ?_;rintro r fr S' ⟨rfl,h2⟩;injection h2 with h2 h3;exact⟨_,rfl,rfl,h3⟩
 refine zcx [.tmp 2] func310 ntmps310 ?_;refine W1 ?_;refine W3 ?_;refine qB [true,false,true] rfl (h0 _) ?_;exact Z1
theorem CY:∀n:Nat,(∀x:ak,SizeOf.sizeOf x<n->∀y:ak,x.sz<=4194304->aH prog 347 [x.v,y.v] (.c (.d (.b (dec (x=y))))))/\
 (∀xs:List ak,SizeOf.sizeOf xs<n->∀ys:List ak,xs.length+bf (xs.map ak.enc)<=4194304->aH prog 355 [.c (.d (.sl (xs.map ak.enc))),.c (.d (.sl (ys.map ak.enc)))] (.c (.d (.b (dec (xs=ys))))))
 |0=>⟨fun x h=>by omega,fun x h=>by omega⟩
 |n+1=>by
  obtain⟨ih,qU⟩:=CY n;refine⟨fun x hn y hsz S=> ?_,fun xs hn ys hsz S=> ?_⟩
  ·have j3:=ak.gT x;simp only[ak.sz,ak.aA,bT,bK,D.sz,List.length_map] at hsz;refine zcx [.tmp 4] func347 ntmps347 ?_;refine W1 ?_;refine S0 (fun hb h=>?_) fun hb h=>?_
   ·refine S0 (fun hb h=>?_) fun hb h=>?_
    ·refine W3 ?_;refine C1 (qU x.fArgs (by omega) y.fArgs (by omega)) ?_;refine ay (iB ⟨fun e=> ?_,fun e=>by rw[e]⟩);exact ak.ext ‹x.aK=y.aK› h e
    ·exact ay (aB (fun e=>h (by rw[e]))).symm
   ·exact ay (aB (fun e=>h (by rw[e]))).symm
  ·refine zcx [.tmp 4] func355 ntmps355 ?_;refine W1 ?_;refine S0 (fun hb h=>?_) fun hb h=>?_
   ·exact ay (aB (fun e=>h (by rw[e]))).symm
   have hl:xs.length=ys.length:=by omega
   refine aT (ι:=Nat) zmx rfl [0,1,5] (fun y=>[.c (.d (.sl (xs.map ak.enc))),.c (.d (.sl (ys.map ak.enc))),.c (.d (.i .i64 y))]) (fun y=>[]::S)
    (fun i=>i<=xs.length/\∀j,j<i->xs[j]? =ys[j]?) (fun y=>xs.length-y) 0 rfl rfl ⟨Nat.zero_le _,fun j h=>by omega⟩ ?_
   rintro i ⟨p1,p2⟩;refine W1 ?_;refine S0 (fun hb h=>?_) fun hb h=>?_
   ·have hi:i<xs.length:=by omega
    have hi':i<ys.length:=by omega
    have hx:xs[i].sz<=bf (xs.map ak.enc):=dA (List.mem_map_of_mem (List.getElem_mem hi));refine W3 ?_;refine C1 (ih xs[i] (by have:=List.sizeOf_lt_of_mem (List.getElem_mem hi);omega) ys[i] (by omega)) ?_;refine S0 (fun hb h=>?_) fun hb h=>?_
    ·exact ay (aB (fun e=>h (by simp only[e]))).symm
    refine bF (i+1) (by omega) rfl rfl ⟨by omega,fun j hj=> ?_⟩;by_cases e:j=i
    ·subst e;rw[List.getElem?_eq_getElem hi,List.getElem?_eq_getElem hi',h]
    ·exact p2 j (by omega)
   ·have hi:i=xs.length:=by omega
    refine ay (aZ (List.ext_getElem? fun j=> ?_)).symm;by_cases hj:j<i
    ·exact p2 j hj
    ·rw[List.getElem?_eq_none (by omega),List.getElem?_eq_none (by omega)]
theorem NC(x y:ak)(h:x.sz<=4194304):aH prog 347 [x.v,y.v] (.c (.d (.b (dec (x=y))))):=(CY _).1 x (Nat.lt_succ_self _) y h
theorem CZ:∀n:Nat,(∀x:ak,SizeOf.sizeOf x<n->∀y:ak,x.sz<=4194304->aH prog 331 [x.v,y.v] (.c (.d (.b (dec (x=y))))))/\
 (∀xs:List ak,SizeOf.sizeOf xs<n->∀ys:List ak,xs.length+bf (xs.map ak.enc)<=4194304->aH prog 349 [.c (.d (.sl (xs.map ak.enc))),.c (.d (.sl (ys.map ak.enc))),.c (.fn 331 [])] (.c (.d (.b (dec (xs=ys))))))
 |0=>⟨fun x h=>by omega,fun x h=>by omega⟩
 |n+1=>by
  obtain⟨ih,qU⟩:=CZ n;refine⟨fun x hn y hsz S=> ?_,fun xs hn ys hsz S=> ?_⟩
  ·have j3:=ak.gT x;simp only[ak.sz,ak.aA,bT,bK,D.sz,List.length_map] at hsz;refine zcx [.tmp 4] func331 ntmps331 ?_;refine W1 ?_;refine S0 (fun hb h=>?_) fun hb h=>?_
   ·refine S0 (fun hb h=>?_) fun hb h=>?_
    ·refine W3 ?_;refine C1 (qU x.fArgs (by omega) y.fArgs (by omega)) ?_;refine ay (iB ⟨fun e=> ?_,fun e=>by rw[e]⟩);exact ak.ext ‹x.aK=y.aK› h e
    ·exact ay (aB (fun e=>h (by rw[e]))).symm
   ·exact ay (aB (fun e=>h (by rw[e]))).symm
  ·refine zcx [.tmp 6] func349 ntmps349 ?_;refine W1 ?_;refine S0 (fun hb h=>?_) fun hb h=>?_
   ·exact ay (aB (fun e=>h (by rw[e]))).symm
   have hl:xs.length=ys.length:=by omega
   refine aT (ι:=Nat) zmx rfl [1,2,15,16,17] (fun y=>[.c (.d (.sl (ys.map ak.enc))),.c (.fn 331 []),.c (.d (.sl (xs.map ak.enc))),.c (.d (.i .i64 xs.length)),.c (.d (.i .i64 y))]) (fun y=>[]::S)
    (fun i=>i<=xs.length/\∀j,j<i->xs[j]? =ys[j]?) (fun y=>xs.length-y) 0 rfl rfl ⟨Nat.zero_le _,fun j h=>by omega⟩ ?_
   rintro i ⟨p1,p2⟩;refine W1 ?_;refine S0 (fun hb h=>?_) fun hb h=>?_
   ·have hi:i<xs.length:=by omega
    have hi':i<ys.length:=by omega
    have hx:xs[i].sz<=bf (xs.map ak.enc):=dA (List.mem_map_of_mem (List.getElem_mem hi));refine W3 ?_;refine C1 (ih xs[i] (by have:=List.sizeOf_lt_of_mem (List.getElem_mem hi);omega) ys[i] (by omega)) ?_;refine S0 (fun hb h=>?_) fun hb h=>?_
    ·exact ay (aB (fun e=>h (by simp only[e]))).symm
    refine bX 0 (by decide) (i+1) (by omega) rfl rfl rfl rfl ⟨by omega,fun j hj=> ?_⟩;by_cases e:j=i
    ·subst e;rw[List.getElem?_eq_getElem hi,List.getElem?_eq_getElem hi',h]
    ·exact p2 j (by omega)
   ·have hi:i=xs.length:=by omega
    refine ay (aZ (List.ext_getElem? fun j=> ?_)).symm;by_cases hj:j<i
    ·exact p2 j hj
    ·rw[List.getElem?_eq_none (by omega),List.getElem?_eq_none (by omega)]
theorem ND(x y:ak)(h:x.sz<=4194304):aH prog 331 [x.v,y.v] (.c (.d (.b (dec (x=y))))):=(CZ _).1 x (Nat.lt_succ_self _) y h
theorem au.EC{x:au}(h:x.sz<=4194304):x.bC.length<=4194304/\x.fName.length<=4194304/\x.fType.sz<=4194304/\x.fArgs.length<=4194304/\x.aQ.length<=4194304:=by
 simp only[au.sz,au.aA,bT,bK,D.sz,List.length_map,ak.d9] at h;omega
theorem au.akH{x:au}{i:Nat}(hi:i<x.fArgs.length)(h:x.sz<=4194304):x.fArgs[i].sz<=4194304:=by
 have hx:x.fArgs[i].sz<=bf (x.fArgs.map au.enc):=dA (List.mem_map_of_mem (List.getElem_mem hi));simp only[au.sz,au.aA,bT,bK,D.sz,List.length_map,ak.d9] at h;omega
theorem au.akI{x:au}{i:Nat}(hi:i<x.aQ.length)(h:x.sz<=4194304):x.aQ[i].sz<=4194304:=by
 have hx:x.aQ[i].sz<=bf (x.aQ.map aR.enc):=dA (List.mem_map_of_mem (List.getElem_mem hi));simp only[au.sz,au.aA,bT,bK,D.sz,List.length_map,ak.d9] at h;omega
theorem aR.EC{x:aR}(h:x.sz<=4194304):x.dM.length<=4194304/\x.aG.length<=4194304/\x.fBody.sz<=4194304:=by
 simp only[aR.sz,aR.aA,bT,bK,D.sz,List.length_map,au.d9] at h;omega
theorem C8:∀n:Nat,∀x:au,SizeOf.sizeOf x<n->∀y:au,x.sz<=4194304->aH prog 311 [x.v,y.v] (.c (.d (.b (dec (x=y)))))
 |0=>fun x h=>by omega
 |n+1=>by
  have ih:=C8 n;intro x hn y hsz S;have j3:=au.gT x;have BA:=au.qb x;have hb0:=au.EC hsz
  have hargs:=Nb 311 x.fArgs y.fArgs (by omega) (fun u hu v=>by
   obtain⟨i,hi,e⟩:=List.getElem_of_mem hu;have:=List.sizeOf_lt_of_mem hu
   exact ih u (by omega) v (by rw[<-e];exact au.akH hi hsz))
  have apZ:=Pg 334 x.aQ y.aQ (by omega) (fun u hu v=>by
   obtain⟨i,hi,e⟩:=List.getElem_of_mem hu;have hs:=List.sizeOf_lt_of_mem hu
   have hz:u.sz<=4194304:=by rw[<-e];exact au.akI hi hsz
   have hz':=aR.EC hz;have aks:=aR.oU u;intro S;refine zcx [.tmp 4] func334 ntmps334 ?_;refine W1 ?_;refine S0 (fun hb h=>?_) fun hb h=>?_
   ·have h1:=h;refine C2 (afp u.aG v.aG (by omega)) ?_;refine S0 (fun hb h=>?_) fun hb h=>?_
    ·have h2:=h;refine C2 (ih u.fBody (by omega) v.fBody (by omega)) ?_;exact ay (iB ⟨fun e=>aR.ext h1 h2 e,fun e=>by rw[e]⟩)
    ·exact ay (aB (fun e=>h (by rw[e]))).symm
   ·exact ay (aB (fun e=>h (by rw[e]))).symm)
  refine zcx [.tmp 4] func311 ntmps311 ?_;refine W1 ?_;refine S0 (fun hb h=>?_) fun hb h=>?_
  ·have h1:=h;refine S0 (fun hb h=>?_) fun hb h=>?_
   ·have h2:=h;refine S0 (fun hb h=>?_) fun hb h=>?_
    ·have h3:=h;refine S0 (fun hb h=>?_) fun hb h=>?_
     ·have h4:=h;refine C2 (ND x.fType y.fType (by omega)) ?_;refine S0 (fun hb h=>?_) fun hb h=>?_
      ·have h5:=h;refine C2 (hargs) ?_;refine S0 (fun hb h=>?_) fun hb h=>?_
       ·have h6:=h;refine C2 (apZ) ?_;exact ay (iB ⟨fun e=>au.ext h1 h2 h3 h4 h5 h6 e,fun e=>by rw[e]⟩)
       ·exact ay (aB (fun e=>h (by rw[e]))).symm
      ·exact ay (aB (fun e=>h (by rw[e]))).symm
     ·exact ay (aB (fun e=>h (by rw[e]))).symm
    ·exact ay (aB (fun e=>h (by rw[e]))).symm
   ·exact ay (aB (fun e=>h (by rw[e]))).symm
  ·exact ay (aB (fun e=>h (by rw[e]))).symm
theorem NG(x y:au)(h:x.sz<=4194304):aH prog 311 [x.v,y.v] (.c (.d (.b (dec (x=y))))):=C8 _ x (Nat.lt_succ_self _) y h
theorem C9:∀n:Nat,∀x:au,SizeOf.sizeOf x<n->∀y:au,x.sz<=4194304->aH prog 328 [x.v,y.v] (.c (.d (.b (dec (x=y)))))
 |0=>fun x h=>by omega
 |n+1=>by
  have ih:=C9 n;intro x hn y hsz S;have j3:=au.gT x;have BA:=au.qb x;have hb0:=au.EC hsz;refine zcx [.tmp 4] func328 ntmps328 ?_;refine W1 ?_;refine S0 (fun hb h=>?_) fun hb h=>?_
  ·exact ay (aB (fun e=>h (by rw[e]))).symm
  have h1:=h;refine S0 (fun hb h=>?_) fun hb h=>?_
  ·exact ay (aB (fun e=>h (by rw[e]))).symm
  have h2:=h;refine S0 (fun hb h=>?_) fun hb h=>?_
  ·exact ay (aB (fun e=>h (by rw[e]))).symm
  have h3:=h;refine S0 (fun hb h=>?_) fun hb h=>?_
  ·exact ay (aB (fun e=>h (by rw[e]))).symm
  have h4:=h;refine C2 (NC x.fType y.fType (by omega)) ?_;refine S0 (fun hb h=>?_) fun hb h=>?_
  ·exact ay (aB (fun e=>h (by rw[e]))).symm
  have h5:=h;refine S0 (fun hb h=>?_) fun hb h=>?_
  ·exact ay (aB (fun e=>h (by rw[e]))).symm
  have h6:x.fArgs.length=y.fArgs.length:=by omega
  refine S0 (fun hb h=>?_) fun hb h=>?_
  ·exact ay (aB (fun e=>h (by rw[e]))).symm
  have h7:x.aQ.length=y.aQ.length:=by omega
  refine aT (ι:=Nat) zmx rfl [2,3,5] (fun i=>[.c (.ptr (0,0) 0),.c (.ptr (0,1) 0),.c (.d (.i .i64 i))]) (fun _=>[.box (x.enc.map .d),.box (y.enc.map .d)]::S)
   (fun i=>i<=x.fArgs.length/\∀j,j<i->x.fArgs[j]? =y.fArgs[j]?) (fun i=>x.fArgs.length-i) 0 rfl ?_ ⟨Nat.zero_le _,fun j h=>by omega⟩ ?_
  ·exact Z1
  rintro i ⟨p1,p2⟩;refine W1 ?_;refine S0 (fun hb h=>?_) fun hb h=>?_
  ·have hi:i<x.fArgs.length:=by omega
   have hi':i<y.fArgs.length:=by omega
   refine W3 ?_;refine C2 (ih x.fArgs[i] (by have:=List.sizeOf_lt_of_mem (List.getElem_mem hi);omega) y.fArgs[i] (au.akH hi hsz)) ?_;refine S0 (fun hb h=>?_) fun hb h=>?_
   ·exact ay (aB (fun e=>h (by simp only[e]))).symm
   refine bF (i+1) (by omega) rfl rfl ⟨by omega,fun j hj=> ?_⟩;by_cases e:j=i
   ·subst e;rw[List.getElem?_eq_getElem hi,List.getElem?_eq_getElem hi',h]
   ·exact p2 j (by omega)
  have hi:i=x.fArgs.length:=by omega
  have h8:x.fArgs=y.fArgs:=List.ext_getElem? fun j=>by
   by_cases hj:j<i
   ·exact p2 j hj
   ·rw[List.getElem?_eq_none (by omega),List.getElem?_eq_none (by omega)]
  refine aT (ι:=Nat) zmx rfl [2,3,6] (fun i=>[.c (.ptr (0,0) 0),.c (.ptr (0,1) 0),.c (.d (.i .i64 i))]) (fun _=>[.box (x.enc.map .d),.box (y.enc.map .d)]::S)
   (fun i=>i<=x.aQ.length/\∀j,j<i->x.aQ[j]? =y.aQ[j]?) (fun i=>x.aQ.length-i) 0 rfl ?_ ⟨Nat.zero_le _,fun j h=>by omega⟩ ?_
  ·exact Z1
  clear p1 p2 hi hb h;clear i;rintro i ⟨p1,p2⟩;refine W1 ?_;refine S0 (fun hb h=>?_) fun hb h=>?_
  ·have hi:i<x.aQ.length:=by omega
   have hi':i<y.aQ.length:=by omega
   have hs:=List.sizeOf_lt_of_mem (List.getElem_mem hi);have hz:=aR.EC (au.akI hi hsz);have aks:=aR.oU x.aQ[i];refine W3 ?_;refine S0 (fun hb h=>?_) fun hb h=>?_
   ·exact ay (aB (fun e=>h (by simp only[e]))).symm
   have k1:=h;refine W3 ?_;refine C2 (Zq x.aQ[i].aG y.aQ[i].aG (by omega)) ?_;refine S0 (fun hb h=>?_) fun hb h=>?_
   ·exact ay (aB (fun e=>h (by simp only[e]))).symm
   have k2:=h;refine W3 ?_;refine C2 (ih x.aQ[i].fBody (by omega) y.aQ[i].fBody (by omega)) ?_;refine S0 (fun hb h=>?_) fun hb h=>?_
   ·exact ay (aB (fun e=>h (by simp only[e]))).symm
   have k3:=h;refine bF (i+1) (by omega) rfl rfl ⟨by omega,fun j hj=> ?_⟩;by_cases e:j=i
   ·subst e;rw[List.getElem?_eq_getElem hi,List.getElem?_eq_getElem hi',aR.ext k1 k2 k3]
   ·exact p2 j (by omega)
  ·have hi:i=x.aQ.length:=by omega
   have h9:x.aQ=y.aQ:=List.ext_getElem? fun j=>by
    by_cases hj:j<i
    ·exact p2 j hj
    ·rw[List.getElem?_eq_none (by omega),List.getElem?_eq_none (by omega)]
   exact ay (aZ (au.ext h1 h2 h3 h4 h5 h8 h9)).symm
theorem NH(x y:au)(h:x.sz<=4194304):aH prog 328 [x.v,y.v] (.c (.d (.b (dec (x=y))))):=C9 _ x (Nat.lt_succ_self _) y h
theorem GK:∀n:Nat,∀t:ak,SizeOf.sizeOf t<n->t.sz<=4194304->∀v:List UInt8,aH prog 309 [t.v,.c (.d (.s v))] (.c (.d (.i .i64 (sF v t))))
 |0=>fun t h=>by omega
 |n+1=>by
  have ih:=GK n;intro t hn hsz v S;have j3:=ak.gT t;have hts:=J2 hsz;have hcl:=afl v t;have hcn:=nu t;have he:=afk v t;refine zcx [.tmp 4] func309 ntmps309 ?_;refine W1 ?_
  repeat' (first|(refine S0 (fun hb h=>?_) fun hb h=>?_))
  all_goals first
   |(have hc:sF v t=1+xO v t.fArgs:=by rw[he,if_pos (by simp only[O1,decide_eq_true_eq];exact⟨by assumption,by assumption⟩)])
   |(have hc:sF v t=0+xO v t.fArgs:=by rw[he,if_neg (by simp only[O1,decide_eq_true_eq];exact fun x=>by have:=x.1;have:=x.2;contradiction)])
  all_goals
   refine aT (ι:=Nat×Nat) zmx rfl [1,2,5,6] (fun y=>[.c (.d (.s v)),.c (.ptr (0,0) 0),.c (.d (.i .i64 y.2)),.c (.d (.i .i64 y.1))]) (fun _=>[.box [.d (.i .i64 t.aK),.d (.s t.fName),.d (.sl (t.fArgs.map ak.enc))]]::S)
    (fun y=>y.1<=t.fArgs.length/\sF v t=y.2+xO v (t.fArgs.drop y.1)) (fun y=>t.fArgs.length-y.1) (0,_) rfl rfl ⟨Nat.zero_le _,hc⟩ ?_
   rintro⟨i,c⟩ ⟨p1,p2⟩;simp only at p1 p2;refine W1 ?_;refine S0 (fun hb h=>?_) fun hb h=>?_
   ·have hi:i<t.fArgs.length:=by omega
    rw[WL hi] at p2;refine W3 ?_;refine C2 (ih t.fArgs[i] (by have:=List.sizeOf_lt_of_mem (List.getElem_mem hi);omega) (Dy hi hsz).1 v) ?_;rw[show(c:Int)+(sF v t.fArgs[i]:Int)=((c+sF v t.fArgs[i]:Nat):Int) by omega];exact bF (i+1,c+sF v t.fArgs[i]) (by simp only;omega) rfl rfl ⟨by simp only;omega,by simp only;omega⟩
   ·have hi:i=t.fArgs.length:=by omega
    rw[hi,List.drop_length] at p2;have h0:xO v []=0:=rfl;exact int_eq (by omega)
theorem UC(v:List UInt8)(t:ak)(hsz:t.sz<=4194304):aH prog 274 [.c (.d (.s v)),t.v] (.c (.d (.b (occurs v t)))):=fun S=>by
 refine zcx [.tmp 4] func274 ntmps274 ?_;refine W1 ?_;refine C2 (GK _ t (Nat.lt_succ_self _) hsz v) ?_;exact ay (by unfold occurs;rw[Bool.eq_iff_iff];simp only[decide_eq_true_eq];omega)
def zeroE:au:=.mk 0 [] [] 0 (.mk 0 [] []) [] []
def LM:List (List UInt8):=[[115,101,108,102]]
noncomputable def GL(vars:List (List UInt8))(e:au):Bool:=tJ e&&among (lU e [] []) vars
noncomputable def nS(vars:List (List UInt8))(e:au):Bool:=iU vars&&GL vars e
noncomputable def oZ(vars:List (List UInt8))(b:bn):Bool:=(validName b.bC&&pq b.fType)&&(!sQ b.fType&&among (jK [] b.fType) vars)
noncomputable def rD(vars:List (List UInt8))(bs:List bn):Bool:=dec (bs.length<=4)&&bs.all (oZ vars)
noncomputable def iP(g:aM):Bool:=
 validName g.fName&&(dec (g.aW.length<=4)&&(mO LM g.aW&&(iq LM g.bP&&
  (if g.gW=true then dec (g.aG.length=g.aW.length+1)&&nS g.aG g.fBody else dec (g.aG.length=0)&&dec (g.fBody=zeroE)))))
theorem zB{xs:List ak}{t:ak}(h:t∈xs):t.sz<=bf (xs.map ak.enc):=dA (List.mem_map_of_mem h)
theorem q8{xs:List bn}{t:bn}(h:t∈xs):t.sz<=bf (xs.map bn.enc):=dA (List.mem_map_of_mem h)
theorem aM.sum(x:aM):x.fName.length+(x.aW.length+bf (x.aW.map ak.enc))+x.bP.sz+(x.aG.length+bf (x.aG.map encS))+x.fBody.sz<=x.sz:=by
 simp only[aM.sz,aM.aA,bT,bK,D.sz,List.length_map,ak.d9,au.d9];omega
theorem bn.sum(x:bn):x.bC.length+x.fType.sz<=x.sz:=by
 simp only[bn.sz,bn.aA,bT,bK,D.sz,List.length_map,ak.d9];omega
theorem X6(e:au)(h:e.sz<=4194304):(lU e [] []).length<=1073741824:=by
 have h1:=xI e [] [];have h2:=au.nu e;simp at h1;omega
theorem Qp(t:ak)(h:t.sz<=4194304):(jK [] t).length<=1073741824:=by
 have h1:=Cg t [];have h2:=_root_.Go.Ab.nu t;simp at h1;omega
theorem MS(vars:List (List UInt8))(t:ak):iq vars t=(pq t&&among (jK [] t) vars):=rfl
theorem KU(vars:List (List UInt8))(e:au)(hv:vars.length<=1073741824)(hs:∀s∈vars,s.length<=4194304)(hsz:e.sz<=4194304):aH prog 238 [.c (.d (.sl (vars.map encS))),e.v] (.c (.d (.b (nS vars e)))):=fun S=>by
 refine zcx [.tmp 4] func238 ntmps238 ?_;refine W1 ?_;refine C2 (qw vars hv hs) ?_;refine S0 (fun hb h=>?_) fun hb h=>?_
 ·have h1:=h;refine C2 (Ny e hsz) ?_;refine S0 (fun hb h=>?_) fun hb h=>?_
  ·have h2:=h;refine C2 (Qn e hsz) ?_;refine C2 (Bz _ vars (X6 e hsz) hv) ?_;exact ay (by unfold nS GL;rw[h1,h2];rfl)
  ·exact ay (by unfold nS GL;rw[h];simp)
 ·exact ay (by unfold nS;rw[h];rfl)
theorem IU(vars:List (List UInt8))(e:au)(hv:vars.length<=1073741824)(hsz:e.sz<=4194304):aH prog 275 [e.v,.c (.d (.sl (vars.map encS)))] (.c (.d (.b (GL vars e)))):=fun S=>by
 have hlen:=X6 e hsz;refine zcx [.tmp 4] func275 ntmps275 ?_;refine W1 ?_;refine C2 (Qo e hsz) ?_;unfold GL;generalize lU e [] []=xs at hlen ⊢
 refine aT (ι:=Nat) zmx rfl [1,2,5,6] (fun i=>[.c (.d (.sl (vars.map encS))),.c (.ptr (0,0) 0),.c (.d (.sl (xs.map encS))),.c (.d (.i .i64 i))]) (fun _=>[.box (e.enc.map .d)]::S)
  (fun i=>i<=xs.length/\among (xs.drop i) vars=among xs vars) (fun i=>xs.length-i) 0 rfl ?_ ⟨Nat.zero_le _,rfl⟩ ?_
 ·exact Z1
 rintro i ⟨p1,p2⟩;simp -implicitDefEqProofs (disch:=omega) only[go_sem,encS]
 with_reducible refine dD (fun hb=> ?_) (fun hb=> ?_)<;>have h:=hb<;>(try simp only[wf_preprocess] at h)<;>simp -implicitDefEqProofs (disch:=omega) only[go_sem,hb,encS]<;>refine W3 ?_
 ·have hi:i<xs.length:=by omega
  rw[List.drop_eq_getElem_cons hi] at p2;have p3:among xs vars=(dec (xs[i]∈vars)&&among (xs.drop (i+1)) vars):=p2.symm;refine W3 ?_;refine C2 (sG vars xs[i] hv) ?_;refine S0 (fun hb h=>?_) fun hb h=>?_
  ·exact ay (by rw[p3,aB h];simp)
  ·exact bF (i+1) (by omega) rfl rfl ⟨by omega,by rw[p3,aZ h];rfl⟩
 ·rw[List.drop_of_length_le (by omega)] at p2;have p3:among xs vars=true:=p2.symm;refine W3 ?_;refine C2 (Nz e hsz) ?_;exact ay (by rw[p3];simp)
theorem Qq(vars:List (List UInt8))(hv:vars.length<=1073741824)(rest:List Ab.Obj)(S:Store)(b:bn)(hb:b.sz<=4194304):qp prog 288 [((0,0),0)] ((.box [.d (.sl (vars.map encS))]::rest)::S) [b.v] (.c (.d (.b (!oZ vars b)))):=fun F=>by
 have hs:=bn.sum b;refine zcx [.tmp 3] func288 ntmps288 ?_;refine W1 ?_;refine C2 (L8 b (by omega) (by omega)) ?_;refine S0 (fun hb h=>?_) fun hb h=>?_
 ·exact ay (by unfold oZ;rw[h];rfl)
 have h1:=h;refine W3 ?_;refine C2 (Gj b.fType (by omega)) ?_;refine S0 (fun hb h=>?_) fun hb h=>?_
 ·exact ay (by unfold oZ;rw[h];simp)
 have h2:=h;refine W3 ?_;refine C2 (zX b.fType (by omega)) ?_;refine C2 (Bz _ vars (Qp _ (by omega)) hv) ?_;exact ay (by unfold oZ;rw[h1,h2];simp)
theorem KV(bs:List bn)(vars:List (List UInt8))(hl:bs.length<=1073741824)(hz:∀b∈bs,b.sz<=4194304)(hv:vars.length<=1073741824):aH prog 236 [.c (.d (.sl (bs.map bn.enc))),.c (.d (.sl (vars.map encS)))] (.c (.d (.b (rD vars bs)))):=fun S=>by
 have ha:(bs.any fun t=> !oZ vars t)= !bs.all (oZ vars):=by rw[List.not_all_eq_any_not]
 refine zcx [.tmp 4] func236 ntmps236 ?_;refine W1 ?_;refine S0 (fun hb h=>?_) fun hb h=>?_
 ·have h1:=h;refine W3 ?_;refine bg rfl (Ie 288 [((0,0),0)] _ bs (fun t=> !oZ vars t) hl fun t hx=>Qq vars hv [] S t (hz t hx)) ?_;refine W1 ?_;rw[ha];exact ay (by unfold rD;rw[aZ (by omega)];simp)
 ·exact ay (by unfold rD;rw[aB (by omega)];rfl)
theorem MU(bs:List bn)(vars:List (List UInt8))(hl:bs.length<=1073741824)(hz:∀b∈bs,b.sz<=4194304)(hv:vars.length<=1073741824):aH prog 273 [.c (.d (.sl (bs.map bn.enc))),.c (.d (.sl (vars.map encS)))] (.c (.d (.b (rD vars bs)))):=fun S=>by
 refine zcx [.tmp 4] func273 ntmps273 ?_;refine W1 ?_
 refine aT (ι:=Nat) zmx rfl [0,1,5] (fun i=>[.c (.d (.sl (bs.map bn.enc))),.c (.d (.sl (vars.map encS))),.c (.d (.i .i64 i))]) (fun _=>[]::S)
  (fun i=>i<=bs.length/\(bs.drop i).all (oZ vars)=bs.all (oZ vars)) (fun i=>bs.length-i) 0 rfl rfl ⟨Nat.zero_le _,rfl⟩ ?_
 rintro i ⟨p1,p2⟩;refine W1 ?_;refine S0 (fun hb h=>?_) fun hb h=>?_
 ·have hi:i<bs.length:=by omega
  have hb:=hz _ (List.getElem_mem hi);have hs:=bn.sum bs[i];rw[List.drop_eq_getElem_cons hi,List.all_cons] at p2;have no:oZ vars bs[i]=false->V.c (.d (.b false))=V.c (.d (.b (rD vars bs))):=fun h=>ay (by unfold rD;rw[<-p2,h];simp);refine W3 ?_;refine C2 (L6 bs[i] (by omega) (by omega)) ?_;refine S0 (fun hb h=>?_) fun hb h=>?_
  ·exact no (by unfold oZ;rw[h];rfl)
  have h1:=h;refine W3 ?_;refine C2 (vB bs[i].fType vars (by omega) hv) ?_;refine S0 (fun hb h=>?_) fun hb h=>?_
  ·exact no (by unfold oZ;rw[MS] at h;rw[Bool.and_eq_true] at h1;rw[h1.2,Bool.true_and] at h;rw[h];simp)
  have h2:=h;refine W3 ?_;refine C2 (Gi bs[i].fType (by omega)) ?_;refine S0 (fun hb h=>?_) fun hb h=>?_
  ·exact no (by unfold oZ;rw[h];simp)
  have h3:=h;rw[MS,Bool.and_eq_true] at h2;exact bF (i+1) (by omega) rfl rfl ⟨by omega,by rw[<-p2];unfold oZ;rw[h1,h2.2,h3];rfl⟩
 ·rw[List.drop_of_length_le (by omega)] at p2;exact ay (by unfold rD;rw[<-p2,kE];simp only[List.all_nil,Bool.and_true];exact iB ⟨fun h=>by omega,fun h=>by omega⟩)
theorem UD(e:au)(hsz:e.sz<=4194304):aH prog 280 [e.v] (.c (.d (.b (dec (e=zeroE))))):=fun S=>by
 refine zcx [.tmp 2] func280 ntmps280 ?_;refine W1 ?_;exact C3 (NG e zeroE hsz)
theorem adI(e:au)(hsz:e.sz<=4194304):aH prog 306 [e.v] (.c (.d (.b (dec (e=zeroE))))):=fun S=>by
 refine zcx [.tmp 2] func306 ntmps306 ?_;refine W1 ?_;exact C3 (NH e zeroE hsz)
theorem RH(g:aM)(hsz:g.sz<=4194304):aH prog 230 [g.v] (.c (.d (.b (iP g)))):=fun S=>by
 have hs:=aM.sum g
 have hT:∀t∈g.aW,t.sz<=4194304:=fun t ht=>by have:=zB ht;omega
 have hV:∀s∈g.aG,s.length<=4194304:=fun s h=>by have:=tF h;omega
 refine zcx [.tmp 2] func230 ntmps230 ?_;refine W1 ?_;refine C2 (iL g.fName (by omega)) ?_;refine S0 (fun hb h=>?_) fun hb h=>?_
 ·exact ay (by unfold iP;rw[h];rfl)
 have h1:=h;refine S0 (fun hb h=>?_) fun hb h=>?_
 ·exact ay (by unfold iP;rw[aB (show ¬g.aW.length<=4 by omega)];simp)
 have h2:=h;refine W3 ?_;refine C1 (zY g.aW LM (by omega) hT (by decide)) ?_;refine S0 (fun hb h=>?_) fun hb h=>?_
 ·exact ay (by unfold iP;rw[h];simp)
 have h3:=h;refine W3 ?_;refine C1 (vO g.bP LM (by omega) (by decide)) ?_;refine S0 (fun hb h=>?_) fun hb h=>?_
 ·exact ay (by unfold iP;rw[h];simp)
 have h4:=h;refine S0 (fun hb h=>?_) fun hb h=>?_
 ·have h5:=h;refine S0 (fun hb h=>?_) fun hb h=>?_
  ·have h6:=h;refine C2 (KU g.aG g.fBody (by omega) hV (by omega)) ?_;exact ay (by unfold iP;rw[h1,h3,h4,if_pos h5,aZ (show g.aW.length<=4 by omega),aZ (show g.aG.length=g.aW.length+1 by omega)];rfl)
  ·exact ay (by unfold iP;rw[if_pos h5,aB (show ¬g.aG.length=g.aW.length+1 by omega)];simp)
 ·have h5:¬g.gW=true:=by rw[h];simp
  refine S0 (fun hb h=>?_) fun hb h=>?_
  ·refine C2 (UD g.fBody (by omega)) ?_;exact ay (by unfold iP;rw[h1,h3,h4,if_neg h5,aZ (show g.aW.length<=4 by omega),aZ (show g.aG.length=0 by omega)];rfl)
  ·exact ay (by unfold iP;rw[if_neg h5,aB (show ¬g.aG.length=0 by omega)];simp)
theorem agy(g:aM)(hsz:g.sz<=4194304):aH prog 269 [g.v] (.c (.d (.b (iP g)))):=fun S=>by
 have hs:=aM.sum g
 have hT:∀t∈g.aW,t.sz<=4194304:=fun t ht=>by have:=zB ht;omega
 have hV:∀s∈g.aG,s.length<=4194304:=fun s h=>by have:=tF h;omega
 refine zcx [.tmp 2] func269 ntmps269 ?_;refine W1 ?_;refine C2 (iM g.fName (by omega)) ?_;refine S0 (fun hb h=>?_) fun hb h=>?_
 ·exact ay (by unfold iP;rw[h];rfl)
 have h1:=h;refine S0 (fun hb h=>?_) fun hb h=>?_
 ·exact ay (by unfold iP;rw[aB (show ¬g.aW.length<=4 by omega)];simp)
 have h2:=h;refine W3 ?_;refine C1 (SY g.aW LM (by omega) hT (by decide)) ?_;refine S0 (fun hb h=>?_) fun hb h=>?_
 ·exact ay (by unfold iP;rw[h];simp)
 have h3:=h;refine W3 ?_;refine C1 (vB g.bP LM (by omega) (by decide)) ?_;refine S0 (fun hb h=>?_) fun hb h=>?_
 ·exact ay (by unfold iP;rw[h];simp)
 have h4:=h;refine S0 (fun hb h=>?_) fun hb h=>?_
 ·have h5:¬g.gW=true:=by rw[h];simp
  refine S0 (fun hb h=>?_) fun hb h=>?_
  ·refine C2 (adI g.fBody (by omega)) ?_;exact ay (by unfold iP;rw[h1,h3,h4,if_neg h5,aZ (show g.aW.length<=4 by omega),aZ (show g.aG.length=0 by omega)];rfl)
  ·exact ay (by unfold iP;rw[if_neg h5,aB (show ¬g.aG.length=0 by omega)];simp)
 ·have h5:=h;refine C2 (ny g.aG 5 (by omega) hV) ?_;refine S0 (fun hb h=>?_) fun hb h=>?_
  ·have h6:=h;rw[Bool.and_eq_true] at h6;refine S0 (fun hb h=>?_) fun hb h=>?_
   ·refine C2 (IU g.aG g.fBody (by omega) (by omega)) ?_;exact ay (by unfold iP nS;rw[h1,h3,h4,if_pos h5,h6.2,aZ (show g.aW.length<=4 by omega),aZ (show g.aG.length=g.aW.length+1 by omega)];rfl)
   ·exact ay (by unfold iP;rw[if_pos h5,aB (show ¬g.aG.length=g.aW.length+1 by omega)];simp)
  ·refine ay ?_;by_cases h7:g.aG.length=g.aW.length+1
   ·rw[aZ (by omega),Bool.true_and] at h
    unfold iP nS;rw[if_pos h5,h];simp
   ·unfold iP;rw[if_pos h5,aB h7];simp
theorem ZT(x:bq):∀y:bq,x.sz<=1048576->aH prog 244 [x.v,y.v] (.c (.d (.b (dec (x=y))))):=by
 intro y hsz S;simp only[bq.sz,bq.aA,bT,bK,D.sz,List.length_map,au.d9] at hsz;refine zcx [.tmp 4] func244 ntmps244 ?_;refine W1 ?_;refine S0 (fun hb h=>?_) fun hb h=>?_
 ·exact ay (aB (fun e=>h (by rw[e]))).symm
 have rQ:=h;clear h;refine C1 (qD x.aG _ (by omega)) ?_;refine S0 (fun hb h=>?_) fun hb h=>?_
 ·exact ay (aB (fun e=>h (by rw[e]))).symm
 have zZ:=h;clear h;refine C1 (Ka x.fBody _ (by omega)) ?_;refine S0 (fun hb h=>?_) fun hb h=>?_
 ·exact ay (aB (fun e=>h (by rw[e]))).symm
 have Ij:=h;clear h;exact ay (aZ (bq.ext' rQ zZ Ij)).symm
theorem X7(xs:List bq):∀ys:List bq,xs.length+bf (xs.map bq.enc)<=1048576->aH prog 168 [.c (.d (.sl (xs.map bq.enc))),.c (.d (.sl (ys.map bq.enc)))] (.c (.d (.b (dec (xs=ys))))):=by
 intro ys hsz S;refine zcx [.tmp 4] func168 ntmps168 ?_;refine W1 ?_;refine S0 (fun hb h=>?_) fun hb h=>?_
 ·exact ay (aB (fun e=>h (by rw[e]))).symm
 have hl:xs.length=ys.length:=by omega
 refine aT (ι:=Nat) zmx rfl [0,1,5] (fun y=>[.c (.d (.sl (xs.map bq.enc))),.c (.d (.sl (ys.map bq.enc))),.c (.d (.i .i64 y))]) (fun y=>[]::S)
  (fun i=>i<=xs.length/\∀j,j<i->xs[j]? =ys[j]?) (fun y=>xs.length-y) 0 rfl rfl ⟨Nat.zero_le _,fun j h=>by omega⟩ ?_
 rintro i ⟨p1,p2⟩;refine W1 ?_;refine S0 (fun hb h=>?_) fun hb h=>?_
 ·have hi:i<xs.length:=by omega
  have hi':i<ys.length:=by omega
  have hx:xs[i].sz<=bf (xs.map bq.enc):=dA (List.mem_map_of_mem (List.getElem_mem hi));refine W3 ?_;refine C1 (ZT xs[i] ys[i] (by omega)) ?_;refine S0 (fun hb h=>?_) fun hb h=>?_
  ·exact ay (aB (fun e=>h (by simp only[e]))).symm
  refine bF (i+1) (by omega) rfl rfl ⟨by omega,fun j hj=> ?_⟩;by_cases e:j=i
  ·subst e;rw[List.getElem?_eq_getElem hi,List.getElem?_eq_getElem hi',h]
  ·exact p2 j (by omega)
 ·have hi:i=xs.length:=by omega
  refine ay (aZ (List.ext_getElem? fun j=> ?_)).symm;by_cases hj:j<i
  ·exact p2 j hj
  ·rw[List.getElem?_eq_none (by omega),List.getElem?_eq_none (by omega)]
theorem UE(x:aP):∀y:aP,x.sz<=1048576->aH prog 86 [x.v,y.v] (.c (.d (.b (dec (x=y))))):=by
 intro y hsz S;simp only[aP.sz,aP.aA,bT,bK,D.sz,List.length_map,ak.d9] at hsz;refine zcx [.tmp 4] func86 ntmps86 ?_;refine W1 ?_;refine S0 (fun hb h=>?_) fun hb h=>?_
 ·exact ay (aB (fun e=>h (by rw[e]))).symm
 have J9:=h;clear h;refine C1 (qD x.aG _ (by omega)) ?_;refine S0 (fun hb h=>?_) fun hb h=>?_
 ·exact ay (aB (fun e=>h (by rw[e]))).symm
 have zZ:=h;clear h;refine C1 (xk x.bQ _ (by omega)) ?_;refine S0 (fun hb h=>?_) fun hb h=>?_
 ·exact ay (aB (fun e=>h (by rw[e]))).symm
 have ap0:=h;clear h;refine C1 (ME x.bY _ (by omega)) ?_;refine S0 (fun hb h=>?_) fun hb h=>?_
 ·exact ay (aB (fun e=>h (by rw[e]))).symm
 have X8:=h;clear h;refine S0 (fun hb h=>?_) fun hb h=>?_
 ·exact ay (aB (fun e=>h (by rw[e]))).symm
 have ajI:=h;clear h;refine S0 (fun hb h=>?_) fun hb h=>?_
 ·exact ay (aB (fun e=>h (by rw[e]))).symm
 have agz:=h;clear h;refine C1 (xk x.bD _ (by omega)) ?_;refine S0 (fun hb h=>?_) fun hb h=>?_
 ·exact ay (aB (fun e=>h (by rw[e]))).symm
 have Xz:=h;clear h;refine C1 (X7 x.aJ _ (by omega)) ?_;refine S0 (fun hb h=>?_) fun hb h=>?_
 ·exact ay (aB (fun e=>h (by rw[e]))).symm
 have ajJ:=h;clear h;exact ay (aZ (aP.ext' J9 zZ ap0 X8 ajI agz Xz ajJ)).symm
theorem RI(xs:List aP):∀ys:List aP,xs.length+bf (xs.map aP.enc)<=1048576->aH prog 39 [.c (.d (.sl (xs.map aP.enc))),.c (.d (.sl (ys.map aP.enc)))] (.c (.d (.b (dec (xs=ys))))):=by
 intro ys hsz S;refine zcx [.tmp 4] func39 ntmps39 ?_;refine W1 ?_;refine S0 (fun hb h=>?_) fun hb h=>?_
 ·exact ay (aB (fun e=>h (by rw[e]))).symm
 have hl:xs.length=ys.length:=by omega
 refine aT (ι:=Nat) zmx rfl [0,1,5] (fun y=>[.c (.d (.sl (xs.map aP.enc))),.c (.d (.sl (ys.map aP.enc))),.c (.d (.i .i64 y))]) (fun y=>[]::S)
  (fun i=>i<=xs.length/\∀j,j<i->xs[j]? =ys[j]?) (fun y=>xs.length-y) 0 rfl rfl ⟨Nat.zero_le _,fun j h=>by omega⟩ ?_
 rintro i ⟨p1,p2⟩;refine W1 ?_;refine S0 (fun hb h=>?_) fun hb h=>?_
 ·have hi:i<xs.length:=by omega
  have hi':i<ys.length:=by omega
  have hx:xs[i].sz<=bf (xs.map aP.enc):=dA (List.mem_map_of_mem (List.getElem_mem hi));refine W3 ?_;refine C1 (UE xs[i] ys[i] (by omega)) ?_;refine S0 (fun hb h=>?_) fun hb h=>?_
  ·exact ay (aB (fun e=>h (by simp only[e]))).symm
  refine bF (i+1) (by omega) rfl rfl ⟨by omega,fun j hj=> ?_⟩;by_cases e:j=i
  ·subst e;rw[List.getElem?_eq_getElem hi,List.getElem?_eq_getElem hi',h]
  ·exact p2 j (by omega)
 ·have hi:i=xs.length:=by omega
  refine ay (aZ (List.ext_getElem? fun j=> ?_)).symm;by_cases hj:j<i
  ·exact p2 j hj
  ·rw[List.getElem?_eq_none (by omega),List.getElem?_eq_none (by omega)]
theorem adJ(x:bL):∀y:bL,x.sz<=1048576->aH prog 245 [x.v,y.v] (.c (.d (.b (dec (x=y))))):=by
 intro y hsz S;simp only[bL.sz,bL.aA,bT,bK,D.sz,List.length_map,ak.d9] at hsz;refine zcx [.tmp 4] func245 ntmps245 ?_;refine W1 ?_;refine S0 (fun hb h=>?_) fun hb h=>?_
 ·exact ay (aB (fun e=>h (by rw[e]))).symm
 have rQ:=h;clear h;refine C1 (xk x.fType _ (by omega)) ?_;refine S0 (fun hb h=>?_) fun hb h=>?_
 ·exact ay (aB (fun e=>h (by rw[e]))).symm
 have eType:=h;clear h;exact ay (aZ (bL.ext' rQ eType)).symm
theorem ZU(xs:List bL):∀ys:List bL,xs.length+bf (xs.map bL.enc)<=1048576->aH prog 169 [.c (.d (.sl (xs.map bL.enc))),.c (.d (.sl (ys.map bL.enc)))] (.c (.d (.b (dec (xs=ys))))):=by
 intro ys hsz S;refine zcx [.tmp 4] func169 ntmps169 ?_;refine W1 ?_;refine S0 (fun hb h=>?_) fun hb h=>?_
 ·exact ay (aB (fun e=>h (by rw[e]))).symm
 have hl:xs.length=ys.length:=by omega
 refine aT (ι:=Nat) zmx rfl [0,1,5] (fun y=>[.c (.d (.sl (xs.map bL.enc))),.c (.d (.sl (ys.map bL.enc))),.c (.d (.i .i64 y))]) (fun y=>[]::S)
  (fun i=>i<=xs.length/\∀j,j<i->xs[j]? =ys[j]?) (fun y=>xs.length-y) 0 rfl rfl ⟨Nat.zero_le _,fun j h=>by omega⟩ ?_
 rintro i ⟨p1,p2⟩;refine W1 ?_;refine S0 (fun hb h=>?_) fun hb h=>?_
 ·have hi:i<xs.length:=by omega
  have hi':i<ys.length:=by omega
  have hx:xs[i].sz<=bf (xs.map bL.enc):=dA (List.mem_map_of_mem (List.getElem_mem hi));refine W3 ?_;refine C1 (adJ xs[i] ys[i] (by omega)) ?_;refine S0 (fun hb h=>?_) fun hb h=>?_
  ·exact ay (aB (fun e=>h (by simp only[e]))).symm
  refine bF (i+1) (by omega) rfl rfl ⟨by omega,fun j hj=> ?_⟩;by_cases e:j=i
  ·subst e;rw[List.getElem?_eq_getElem hi,List.getElem?_eq_getElem hi',h]
  ·exact p2 j (by omega)
 ·have hi:i=xs.length:=by omega
  refine ay (aZ (List.ext_getElem? fun j=> ?_)).symm;by_cases hj:j<i
  ·exact p2 j hj
  ·rw[List.getElem?_eq_none (by omega),List.getElem?_eq_none (by omega)]
theorem UF(x:aU):∀y:aU,x.sz<=1048576->aH prog 87 [x.v,y.v] (.c (.d (.b (dec (x=y))))):=by
 intro y hsz S;simp only[aU.sz,aU.aA,bT,bK,D.sz,List.length_map,au.d9,ak.d9] at hsz;refine zcx [.tmp 4] func87 ntmps87 ?_;refine W1 ?_;refine S0 (fun hb h=>?_) fun hb h=>?_
 ·exact ay (aB (fun e=>h (by rw[e]))).symm
 have rQ:=h;clear h;refine C1 (qD x.aG _ (by omega)) ?_;refine S0 (fun hb h=>?_) fun hb h=>?_
 ·exact ay (aB (fun e=>h (by rw[e]))).symm
 have zZ:=h;clear h;refine C1 (ME x.bY _ (by omega)) ?_;refine S0 (fun hb h=>?_) fun hb h=>?_
 ·exact ay (aB (fun e=>h (by rw[e]))).symm
 have X8:=h;clear h;refine C1 (ZU x.aW _ (by omega)) ?_;refine S0 (fun hb h=>?_) fun hb h=>?_
 ·exact ay (aB (fun e=>h (by rw[e]))).symm
 have Rw:=h;clear h;refine C1 (xk x.bP _ (by omega)) ?_;refine S0 (fun hb h=>?_) fun hb h=>?_
 ·exact ay (aB (fun e=>h (by rw[e]))).symm
 have Rx:=h;clear h;refine C1 (Ka x.fBody _ (by omega)) ?_;refine S0 (fun hb h=>?_) fun hb h=>?_
 ·exact ay (aB (fun e=>h (by rw[e]))).symm
 have Ij:=h;clear h;exact ay (aZ (aU.ext' rQ zZ X8 Rw Rx Ij)).symm
theorem RJ(xs:List aU):∀ys:List aU,xs.length+bf (xs.map aU.enc)<=1048576->aH prog 40 [.c (.d (.sl (xs.map aU.enc))),.c (.d (.sl (ys.map aU.enc)))] (.c (.d (.b (dec (xs=ys))))):=by
 intro ys hsz S;refine zcx [.tmp 4] func40 ntmps40 ?_;refine W1 ?_;refine S0 (fun hb h=>?_) fun hb h=>?_
 ·exact ay (aB (fun e=>h (by rw[e]))).symm
 have hl:xs.length=ys.length:=by omega
 refine aT (ι:=Nat) zmx rfl [0,1,5] (fun y=>[.c (.d (.sl (xs.map aU.enc))),.c (.d (.sl (ys.map aU.enc))),.c (.d (.i .i64 y))]) (fun y=>[]::S)
  (fun i=>i<=xs.length/\∀j,j<i->xs[j]? =ys[j]?) (fun y=>xs.length-y) 0 rfl rfl ⟨Nat.zero_le _,fun j h=>by omega⟩ ?_
 rintro i ⟨p1,p2⟩;refine W1 ?_;refine S0 (fun hb h=>?_) fun hb h=>?_
 ·have hi:i<xs.length:=by omega
  have hi':i<ys.length:=by omega
  have hx:xs[i].sz<=bf (xs.map aU.enc):=dA (List.mem_map_of_mem (List.getElem_mem hi));refine W3 ?_;refine C1 (UF xs[i] ys[i] (by omega)) ?_;refine S0 (fun hb h=>?_) fun hb h=>?_
  ·exact ay (aB (fun e=>h (by simp only[e]))).symm
  refine bF (i+1) (by omega) rfl rfl ⟨by omega,fun j hj=> ?_⟩;by_cases e:j=i
  ·subst e;rw[List.getElem?_eq_getElem hi,List.getElem?_eq_getElem hi',h]
  ·exact p2 j (by omega)
 ·have hi:i=xs.length:=by omega
  refine ay (aZ (List.ext_getElem? fun j=> ?_)).symm;by_cases hj:j<i
  ·exact p2 j hj
  ·rw[List.getElem?_eq_none (by omega),List.getElem?_eq_none (by omega)]
def uQ(f:aU):List (List UInt8):=f.aW.map bL.fName
def Qr(f:aU):List ak:=f.aW.map bL.fType
noncomputable def kC(f:aU):Bool:=
 validName f.fName&&(dec (f.aG.length<=3)&&(iU f.aG&&(rD f.aG f.bY&&(dec (f.aW.length<=5)&&(mO f.aG (Qr f)&&(iq f.aG f.bP&&nS (uQ f) f.fBody))))))
theorem aU.sum(x:aU):x.fName.length+(x.aG.length+bf (x.aG.map encS))+(x.bY.length+bf (x.bY.map bn.enc))+(x.aW.length+bf (x.aW.map bL.enc))+x.bP.sz+x.fBody.sz<=x.sz:=by
 simp only[aU.sz,aU.aA,bT,bK,D.sz,List.length_map,ak.d9,au.d9];omega
theorem bL.sum(x:bL):x.fName.length+x.fType.sz<=x.sz:=by
 simp only[bL.sz,bL.aA,bT,bK,D.sz,List.length_map,ak.d9];omega
theorem LP{xs:List bL}{t:bL}(h:t∈xs):t.sz<=bf (xs.map bL.enc):=dA (List.mem_map_of_mem h)
theorem UG(ps:List bL)(hl:ps.length<=1073741823):aH prog 240 [.c (.d (.sl (ps.map bL.enc)))] (.c (.d (.sl ((ps.map bL.fName).map encS)))):=fun S=>by
 refine zcx [.tmp 2] func240 ntmps240 ?_;refine W1 ?_;refine W3 ?_;refine ni 3 1 [] rfl (by simp) ?_
 refine aT (ι:=Nat×List (List UInt8)) zmx rfl [3,7,8,9] (fun y=>[.c (.bN (0,0) (y.2.map encS)),.c (.d (.sl (ps.map bL.enc))),.c (.d (.i .i64 ps.length)),.c (.d (.i .i64 y.1))]) (fun y=>[.tok 1 (y.2.map encS)]::S)
  (fun y=>y.1<=ps.length/\y.2=(ps.map bL.fName).take y.1) (fun y=>ps.length-y.1) (0,[]) rfl rfl ⟨Nat.zero_le _,rfl⟩ ?_
 rintro⟨i,names⟩ ⟨p1,p2⟩;simp only at p1 p2
 have pl:names.length<=ps.length:=by rw[p2];simp;omega
 refine W1 ?_;refine S0 (fun hb h=>?_) fun hb h=>?_
 ·have hi:i<ps.length:=by omega
  refine W3 ?_;rw[show List.map encS names++[[D.s ps[i].fName]]=List.map encS (names++[ps[i].fName]) by simp[encS]];exact bX 1 (by decide) (i+1,names++[ps[i].fName]) (by simp only;omega) rfl rfl rfl rfl ⟨by simp only;omega,by simp only;rw[p2,jc (by simpa using hi)];simp⟩
 ·rw[List.take_of_length_le (by simp;omega)] at p2;rw[p2]
theorem UH(ps:List bL)(hl:ps.length<=1073741823):aH prog 239 [.c (.d (.sl (ps.map bL.enc)))] (.c (.d (.sl ((ps.map bL.fType).map ak.enc)))):=fun S=>by
 refine zcx [.tmp 2] func239 ntmps239 ?_;refine W1 ?_;refine W3 ?_;refine ni 3 3 [] rfl (by simp) ?_
 refine aT (ι:=Nat×List ak) zmx rfl [3,7,8,9] (fun y=>[.c (.bN (0,0) (y.2.map ak.enc)),.c (.d (.sl (ps.map bL.enc))),.c (.d (.i .i64 ps.length)),.c (.d (.i .i64 y.1))]) (fun y=>[.tok 3 (y.2.map ak.enc)]::S)
  (fun y=>y.1<=ps.length/\y.2=(ps.map bL.fType).take y.1) (fun y=>ps.length-y.1) (0,[]) rfl rfl ⟨Nat.zero_le _,rfl⟩ ?_
 rintro⟨i,names⟩ ⟨p1,p2⟩;simp only at p1 p2
 have pl:names.length<=ps.length:=by rw[p2];simp;omega
 refine W1 ?_;refine S0 (fun hb h=>?_) fun hb h=>?_
 ·have hi:i<ps.length:=by omega
  refine W3 ?_;rw[show List.map ak.enc names++[[D.i .i64 ps[i].fType.aK,D.s ps[i].fType.fName,D.sl (ps[i].fType.fArgs.map ak.enc)]]=List.map ak.enc (names++[ps[i].fType]) by simp[ak.aA]];exact bX 1 (by decide) (i+1,names++[ps[i].fType]) (by simp only;omega) rfl rfl rfl rfl ⟨by simp only;omega,by simp only;rw[p2,jc (by simpa using hi)];simp⟩
 ·rw[List.take_of_length_le (by simp;omega)] at p2;rw[p2]
theorem GN(f:aU)(hsz:f.sz<=4194304):aH prog 164 [f.v] (.c (.d (.b (kC f)))):=fun S=>by
 have hs:=aU.sum f
 have hV:∀s∈f.aG,s.length<=4194304:=fun s h=>by have:=tF h;omega
 have hW:∀b∈f.bY,b.sz<=4194304:=fun b h=>by have:=q8 h;omega
 have hP:∀p∈f.aW,p.sz<=4194304:=fun m h=>by have:=LP h;omega
 have hpt:∀t∈f.aW.map bL.fType,t.sz<=4194304:=fun t h=>by
  obtain⟨p,hp,e⟩:=List.mem_map.1 h;have:=hP p hp;have:=bL.sum p;rw[<-e];omega
 have hpn:∀s∈f.aW.map bL.fName,s.length<=4194304:=fun t h=>by
  obtain⟨p,hp,e⟩:=List.mem_map.1 h;have:=hP p hp;have:=bL.sum p;rw[<-e];omega
 have hpl:(f.aW.map bL.fName).length=f.aW.length:=by simp
 have hpl':(f.aW.map bL.fType).length=f.aW.length:=by simp
 refine zcx [.tmp 2] func164 ntmps164 ?_;refine W1 ?_
 repeat' (first
  |refine S0 (fun hb h=>?_) fun hb h=>?_
  |((with_reducible show fD _ _ 157 _ _ _ _);refine aX (iL f.fName (by omega)) ?_;refine W1 ?_)
  |((with_reducible show fD _ _ 158 _ _ _ _);refine aX (qw f.aG (by omega) hV) ?_;refine W1 ?_)
  |((with_reducible show fD _ _ 236 _ _ _ _);refine aX (KV f.bY f.aG (by omega) hW (by omega)) ?_;refine W1 ?_)
  |((with_reducible show fD _ _ 239 _ _ _ _);refine aX (UH f.aW (by omega)) ?_;refine W1 ?_)
  |((with_reducible show fD _ _ 231 _ _ _ _);refine aX (zY (f.aW.map bL.fType) f.aG (by omega) hpt (by omega)) ?_;refine W1 ?_)
  |((with_reducible show fD _ _ 232 _ _ _ _);refine aX (vO f.bP f.aG (by omega) (by omega)) ?_;refine W1 ?_)
  |((with_reducible show fD _ _ 240 _ _ _ _);refine aX (UG f.aW (by omega)) ?_;refine W1 ?_)
  |((with_reducible show fD _ _ 238 _ _ _ _);refine aX (KU (f.aW.map bL.fName) f.fBody (by omega) hpn (by omega)) ?_;refine W1 ?_)
  |(refine ay ?_;unfold kC Qr uQ;grind [gH,jg,aZ,aB]))
theorem A8(f:aU)(hsz:f.sz<=4194304):aH prog 216 [f.v] (.c (.d (.b (kC f)))):=fun S=>by
 have hs:=aU.sum f
 have hV:∀s∈f.aG,s.length<=4194304:=fun s h=>by have:=tF h;omega
 have hW:∀b∈f.bY,b.sz<=4194304:=fun b h=>by have:=q8 h;omega
 have hP:∀p∈f.aW,p.sz<=4194304:=fun m h=>by have:=LP h;omega
 have hpn:∀s∈uQ f,s.length<=4194304:=fun t h=>by
  obtain⟨p,hp,e⟩:=List.mem_map.1 h;have:=hP p hp;have:=bL.sum p;rw[<-e];omega
 have hnl:(uQ f).length=f.aW.length:=by simp[uQ]
 have bad:∀i,∀hi:i<f.aW.length,iq f.aG f.aW[i].fType=false->V.c (.d (.b false))=V.c (.d (.b (kC f))):=fun i hi h=>ay (by
  have:mO f.aG (Qr f)=false:=Bool.eq_false_iff.2 fun hx=>by
   have:=List.all_eq_true.1 hx f.aW[i].fType (List.mem_map_of_mem (List.getElem_mem hi));rw[h] at this;cases this
  unfold kC
  rw[this];simp)
 refine zcx [.tmp 2] func216 ntmps216 ?_;refine W1 ?_;refine W3 ?_;refine ni 3 1 [] rfl (by simp) ?_
 refine aT (ι:=Nat×List (List UInt8)) zmx rfl [1,3,4] (fun y=>[.c (.ptr (0,0) 0),.c (.bN (0,1) (y.2.map encS)),.c (.d (.i .i64 y.1))]) (fun y=>[.box (f.enc.map .d),.tok 1 (y.2.map encS)]::S)
  (fun y=>y.1<=f.aW.length/\y.2=(uQ f).take y.1/\∀j,∀hj:j<f.aW.length,j<y.1->iq f.aG f.aW[j].fType=true) (fun y=>f.aW.length-y.1) (0,[]) rfl ?_ ⟨Nat.zero_le _,rfl,fun j _ h=>by simp only at h;omega⟩ ?_
 ·exact Z1
 rintro⟨i,names⟩ ⟨p1,p2,p3⟩;simp only at p1 p2 p3
 have pl:names.length<=f.aW.length:=by rw[p2];simp[uQ];omega
 refine W1 ?_;refine S0 (fun hb h=>?_) fun hb h=>?_
 ·have hi:i<f.aW.length:=by omega
  have hp:=hP _ (List.getElem_mem hi);have hps:=bL.sum f.aW[i];refine W3 ?_;refine C2 (vB f.aW[i].fType f.aG (by omega) (by omega)) ?_;refine S0 (fun hb h=>?_) fun hb h=>?_
  ·exact bad i hi h
  have k3:=h;refine W3 ?_;rw[show List.map encS names++[[D.s f.aW[i].fName]]=List.map encS (names++[f.aW[i].fName]) by simp[encS]]
  exact bF (i+1,names++[f.aW[i].fName]) (by simp only;omega) rfl rfl ⟨by simp only;omega,by simp only;rw[p2,jc (by simpa [uQ] using hi)];simp[uQ],fun j hj hji=>by
   simp only at hji;by_cases e:j=i
   ·subst e;exact k3
   ·exact p3 j hj (by omega)⟩
 have hi:i=f.aW.length:=by omega
 have hn:names=uQ f:=by rw[p2,List.take_of_length_le (by simp[uQ];omega)]
 have hall:mO f.aG (Qr f)=true:=List.all_eq_true.2 fun c hc=>by
  obtain⟨p,hp,e⟩:=List.mem_map.1 hc;obtain⟨j,hj,e'⟩:=List.getElem_of_mem hp;rw[<-e,<-e'];exact p3 j hj (by omega)
 clear p2 p3 bad;subst hn
 repeat' (first
  |refine S0 (fun hb h=>?_) fun hb h=>?_
  |((with_reducible show fD _ _ 148 _ _ _ _);refine aX (iM f.fName (by omega)) ?_;refine W1 ?_)
  |((with_reducible show fD _ _ 149 _ _ _ _);refine aX (ny f.aG 3 (by omega) hV) ?_;refine W1 ?_)
  |((with_reducible show fD _ _ 273 _ _ _ _);refine aX (MU f.bY f.aG (by omega) hW (by omega)) ?_;refine W1 ?_)
  |((with_reducible show fD _ _ 149 _ _ _ _);refine aX (ny (uQ f) 5 (by omega) hpn) ?_;refine W1 ?_)
  |((with_reducible show fD _ _ 271 _ _ _ _);refine aX (vB f.bP f.aG (by omega) (by omega)) ?_;refine W1 ?_)
  |((with_reducible show fD _ _ 275 _ _ _ _);refine aX (IU (uQ f) f.fBody (by omega) (by omega)) ?_;refine W1 ?_)
  |(refine ay ?_;unfold kC nS;grind [gH,jg,aZ,aB]))
def ED(n:Nat)(s:St):St:=match s.st with
 |(.seed _::own)::Ω=>⟨s.tm,(.seed n::own)::Ω⟩
 |_=>s
theorem GQ{N:Nat}(n:Nat)(s:St):ig N s (ED n s):=by
 obtain⟨tm,st⟩:=s;unfold ED;split
 ·rename_i h;simp only at h;subst h;exact D7 n
 ·exact ig.refl _ _
theorem ZV{n m:Nat}{tm:List (Nat×V)}{own:List Obj}{Ω:Store}:ED n ⟨tm,(.seed m::own)::Ω⟩=⟨tm,(.seed n::own)::Ω⟩:=rfl
def akJ(j p n:Nat)(s:St):St:=ED n (U8 j p s)
theorem ZW{N:Nat}(j p n:Nat)(s:St):ig N s (akJ j p n s):=(MJ j p s).trans (GQ n _)
attribute [go_sem] akJ ZV
def xX:List UInt8:=[102,110]
def q9(b:bn):aj:=bB [bJ b.bC,cB b.fType]
def rU(b:bL):aj:=bB [bJ b.fName,cB b.fType]
def Jm(f:aU):aj:=bB [bJ xX,bJ f.fName,bB (aN f.aG),bB (f.bY.map q9),bB (f.aW.map rU),cB f.bP,fC f.fBody]
noncomputable def X9(f:aU):aj:=wY (kC f) (Jm f)
theorem amr{f:aU}(h:f.sz<=1048576):(X9 f).sz<=1048576:=Nat.le_trans (Ls _ _) (by decide)
theorem aok(b:bn):(q9 b).sz<=14+16*b.sz:=by
 have:=Ca b.fType;have:=bn.sum b;rw[q9,jJ];simp[dx,jU];omega
theorem ajK(b:bL):(rU b).sz<=14+16*b.sz:=by
 have:=Ca b.fType;have:=bL.sum b;rw[rU,jJ];simp[dx,jU];omega
theorem RL:∀l:List bn,dx (l.map q9)<=14*l.length+16*bf (l.map bn.enc)
 |[]=>by simp[dx]
 |c::l=>by
  have h1:=aok c;have h2:=RL l;rw[List.map_cons,dx,List.map_cons,bf,List.length_cons];simp only[bn.sz] at h1;omega
theorem TS:∀l:List bL,dx (l.map rU)<=14*l.length+16*bf (l.map bL.enc)
 |[]=>by simp[dx]
 |c::l=>by
  have h1:=ajK c;have h2:=TS l;rw[List.map_cons,dx,List.map_cons,bf,List.length_cons];simp only[bL.sz] at h1;omega
theorem agA{f:aU}(hok:jd f.fBody=true):(Jm f).sz<=60+32*f.sz:=by
 have h1:=RL f.bY;have h2:=TS f.aW;have h3:=Ca f.bP;have h4:=KH f.fBody hok;have h5:=aU.sum f;rw[dK] at h5;rw[Jm,jJ];simp[dx,jU,jJ,jQ,tu,xX];omega
theorem Da{vars:List (List UInt8)}{bs:List bn}(h:rD vars bs=true):∀b∈bs,formed b.fType=true:=fun b hb=>by
 unfold rD at h;rw[Bool.and_eq_true] at h;have h2:=List.all_eq_true.1 h.2 b hb;unfold oZ at h2;simp only[Bool.and_eq_true] at h2;exact wW h2.1.2
theorem wM{vars:List (List UInt8)}{t:ak}(h:iq vars t=true):formed t=true:=by
 unfold iq at h;rw[Bool.and_eq_true] at h;exact wW h.1
theorem Fj{vars:List (List UInt8)}{e:au}(h:nS vars e=true):jd e=true:=by
 unfold nS GL at h;simp only[Bool.and_eq_true] at h;exact X0 h.2.1
theorem yJ{f:aU}(h:kC f=true):(∀b∈f.bY,formed b.fType=true)/\(∀q∈f.aW,formed q.fType=true)/\formed f.bP=true/\jd f.fBody=true:=by
 unfold kC at h;simp only[Bool.and_eq_true] at h;obtain⟨_,_,_,h1,_,h2,h3,h4⟩:=h;exact⟨Da h1,fun q hq=>yC.1 (yV h2) _ (List.mem_map_of_mem hq),wM h3,Fj h4⟩
theorem vS(xs:List bn)(n:Nat)(hfo:∀b∈xs,formed b.fType=true)(hlen:xs.length<=4194304)(hsz:∀b∈xs,b.sz<=4194304):aH prog 278 [.c (.d (.sl (xs.map bn.enc)))] (.agg [.d (.s []),.d (.ol n (lx (xs.map q9) (n+1)))]):=fun S=>by
 obtain⟨L,hL⟩:∃L:Nat->Nat,L=fun i=>n+1+jE ((xs.map q9).take i):=⟨_,rfl⟩;obtain⟨T,hT⟩:∃T:Nat->List (List D),T=fun i=>lx ((xs.map q9).take i) (n+1):=⟨_,rfl⟩
 have hT0:T 0=[]:=by rw[hT];rfl
 have iI:∀i,(T i).length<=i:=fun i=>by
  rw[hT];simp only[iD];exact List.length_take_le _ _
 have hTs:∀i (hi:i<xs.length),T i++[[.s [],.ol (L i) [[.s xs[i].bC,.ol (L i+1) []],[.s (cB xs[i].fType).aO,.ol (L i+1+1) (lx (cB xs[i].fType).ah (L i+1+1+1))]]]]=T (i+1):=fun i hi=>by
  have:=IB (l:=xs.map q9) (i:=i) (by rw[List.length_map];exact hi) (n+1);rw[List.getElem_map,q9,dW,dG,jW,jW,nQ,xC,ku,kg] at this;rw[hT,hL];exact this
 have hTe:T xs.length=lx (xs.map q9) (n+1):=by
  rw[hT];simp only
  rw[List.take_of_length_le (by simp)]
 clear hT hL;refine vF (n) 1 (rs:=[.cell 2 54]) zmx func278 ntmps278 rfl rfl rfl rfl rfl ?_;refine W1 ?_;refine W3 ?_;refine mX n 3 2 [] (.inl rfl) (by simp) ?_;refine rX (L 0) ?_
 refine aT (ι:=Nat) zmx rfl [2,3,7,8,9] (fun i=>[.c (.ptr (0,2) 0),.c (.bN (0,3) (T i)),.c (.d (.sl (xs.map bn.enc))),.c (.d (.i .i64 xs.length)),.c (.d (.i .i64 i))])
  (fun i=>[.seed (L i),.seed 1,.box [.d (.s []),.bE []],.fu n 2 (T i)]::S)
  (fun i=>i<=xs.length) (fun i=>xs.length-i) 0 (by rw[hT0];rfl) (by rw[hT0];rfl) (Nat.zero_le _) ?_
 intro i hi;have hl:=iI i;refine W1 ?_;refine S0 (fun hb h=>?_) fun hb h=>?_
 ·have hi':i<xs.length:=by omega
  have hm:=List.getElem_mem hi';have hcz:=hsz _ hm;have hce:=bn.sum xs[i];have hs:=hTs i hi';refine W3 ?_;refine C1 (dB _ (L i+1)) ?_;refine C1 (mD xs[i].fType (L i+1+1) (hfo _ hm) (by omega)) ?_;refine W3 ?_;refine C1 (oJ _ _) ?_;refine W3 ?_;rw[hs];refine uh (L (i+1)) 3 (by decide) (i+1) (by omega) rfl rfl ?_ rfl (by omega);simp[kX,iX,V.refs,C.refs,oh]
 ·have hi':i=xs.length:=by omega
  refine bg rfl (kH 0 3 _ _) ?_;refine W1 ?_;rw[hi',hTe]
theorem UJ(f:aU)(n:Nat)(hv:kC f=true)(hsz:f.sz<=1048576):aH prog 223 [f.v] (.agg [.d (.s []),.d (.ol n (lx (Jm f).ah (n+1)))]):=fun S=>by
 have hdz:=aU.sum f;rw[dK] at hdz;obtain⟨hf1,hf2,hf3,Fp⟩:=yJ hv;obtain⟨p,hp⟩:∃p:Nat,p=n+1+1+1+dS (bB (aN f.aG))+dS (bB (f.bY.map q9)):=⟨_,rfl⟩;obtain⟨L,hL⟩:∃L:Nat->Nat,L=fun i=>p+1+jE ((f.aW.map rU).take i):=⟨_,rfl⟩;obtain⟨T,hT⟩:∃T:Nat->List (List D),T=fun i=>lx ((f.aW.map rU).take i) (p+1):=⟨_,rfl⟩
 have hT0:T 0=[]:=by rw[hT];rfl
 have iI:∀i,(T i).length<=i:=fun i=>by
  rw[hT];simp only[iD];exact List.length_take_le _ _
 have hTs:∀i (hi:i<f.aW.length),T i++[[.s [],.ol (L i) [[.s f.aW[i].fName,.ol (L i+1) []],[.s (cB f.aW[i].fType).aO,.ol (L i+1+1) (lx (cB f.aW[i].fType).ah (L i+1+1+1))]]]]=T (i+1):=fun i hi=>by
  have:=IB (l:=f.aW.map rU) (i:=i) (by rw[List.length_map];exact hi) (p+1);rw[List.getElem_map,rU,dW,dG,jW,jW,nQ,xC,ku,kg] at this;rw[hT,hL];exact this
 have hTe:T f.aW.length=lx (f.aW.map rU) (p+1):=by
  rw[hT];simp only
  rw[List.take_of_length_le (by simp)]
 clear hT hL;refine vF (p) 1 (rs:=[.cell 2 54]) zmx func223 ntmps223 rfl rfl rfl rfl rfl ?_;refine W1 ?_;refine W3 ?_;refine mX p 3 2 [] (.inl rfl) (by simp) ?_;refine rX (L 0) ?_;refine BU (ZW 4 p n) ?_
 refine aT (ι:=Nat) zmx rfl [1,2,3,8,9,10] (fun i=>[.c (.ptr (0,2) 0),.c (.ptr (0,3) 0),.c (.bN (0,4) (T i)),.c (.d (.sl (f.aW.map bL.enc))),.c (.d (.i .i64 f.aW.length)),.c (.d (.i .i64 i))])
  (fun i=>[.seed (L i),.seed 1,.box [.d (.s f.fName),.d (.sl (f.aG.map encS)),.d (.sl (f.bY.map bn.enc)),.d (.sl (f.aW.map bL.enc)),.d (.i .i64 f.bP.aK),.d (.s f.bP.fName),.d (.sl (f.bP.fArgs.map ak.enc)),.d (.i .i64 f.fBody.aK),.d (.s f.fBody.bC),.d (.s f.fBody.fName),.d (.i .i64 f.fBody.fN),.d (.i .i64 f.fBody.fType.aK),.d (.s f.fBody.fType.fName),.d (.sl (f.fBody.fType.fArgs.map ak.enc)),.d (.sl (f.fBody.fArgs.map au.enc)),.d (.sl (f.fBody.aQ.map aR.enc))],.box [.d (.s []),.bE []],.fu p 2 (T i)]::S)
  (fun i=>i<=f.aW.length) (fun i=>f.aW.length-i) 0 (by rw[hT0];rfl) (by rw[hT0];rfl) (Nat.zero_le _) ?_
 intro i hi;have hl:=iI i;refine W1 ?_;refine S0 (fun hb h=>?_) fun hb h=>?_
 ·have hi':i<f.aW.length:=by omega
  have hm:=List.getElem_mem hi';have hcz:=LP hm;have hce:=bL.sum f.aW[i];have hs:=hTs i hi';refine W3 ?_;refine C1 (dB _ (L i+1)) ?_;refine C1 (mD f.aW[i].fType (L i+1+1) (hf2 _ hm) (by omega)) ?_;refine W3 ?_;refine C1 (oJ _ _) ?_;refine W3 ?_;rw[hs];refine uh (L (i+1)) 4 (by decide) (i+1) (by omega) rfl rfl ?_ rfl (by omega);simp[kX,iX,V.refs,C.refs,oh]
 ·have hi':i=f.aW.length:=by omega
  subst hi';rw[hTe];refine C1 (dB _ (n+1)) ?_;refine C1 (dB _ (n+1+1)) ?_;refine C1 (eX f.aG (by omega) (n+1+1+1)) ?_;refine C1 (vS f.bY (n+1+1+1+dS (bB (aN f.aG))) hf1 (by omega) (fun b hb=>by have:=q8 hb;omega)) ?_;refine C1 (mq _) ?_;refine C1 (mD f.bP (p+dS (bB (f.aW.map rU))) hf3 (by omega)) ?_;refine C1 (Ag f.fBody (p+dS (bB (f.aW.map rU))+dS (cB f.bP)) Fp (by omega)) ?_;refine W3 ?_;refine C1 (oJ _ _) ?_;rw[Jm,dG];simp only[jW,nQ,ku,kY,kZ,dW,dG,kg,<-hp,xX]
theorem xJ(xs:List bn)(hlen:xs.length<=4194304)(hsz:∀b∈xs,b.sz<=4194304):aH prog 268 [.c (.d (.sl (xs.map bn.enc)))] (.agg [.d (.s []),.d (.sl ((xs.map q9).map aj.enc))]):=fun S=>by
 obtain⟨T,hT⟩:∃T:Nat->List (List D),T=fun i=>((xs.map q9).take i).map aj.enc:=⟨_,rfl⟩
 have hT0:T 0=[]:=by rw[hT];rfl
 have iI:∀i,(T i).length<=i:=fun i=>by
  rw[hT];simp only[List.length_map];exact List.length_take_le _ _
 have hTs:∀i (hi:i<xs.length),T i++[[.s [],.sl [[.s xs[i].bC,.sl []],[.s (cB xs[i].fType).aO,.sl ((cB xs[i].fType).ah.map aj.enc)]]]]=T (i+1):=fun i hi=>by
  have:=jR (base:=[]) (l:=xs.map q9) (i:=i) (by rw[List.length_map];exact hi);rw[List.getElem_map,q9,dW,dG,List.map_cons,List.map_cons,List.map_nil,fO,aj.aA (cB xs[i].fType)] at this;rw[hT];exact this
 have hTe:T xs.length=(xs.map q9).map aj.enc:=by
  rw[hT];simp only
  rw[List.take_of_length_le (by simp)]
 clear hT;refine zcx [.cell 2 54] func268 ntmps268 ?_;refine W1 ?_;refine sZ 1 1 2 [] [.d (.s []),.bE []] rfl rfl (by simp) ?_
 refine aT (ι:=Nat) zmx rfl [0,2,3,4] (fun i=>[.c (.d (.sl (xs.map bn.enc))),.c (.ptr (0,0) 0),.c (.ptr (0,1) 0),.c (.d (.i .i64 i))])
  (fun i=>[.box [.d (.s []),.bE []],.box [.d (.s []),.bN (0,2) (T i)],.tok 2 (T i)]::S)
  (fun i=>i<=xs.length) (fun i=>xs.length-i) 0 rfl (by rw[hT0];rfl) (Nat.zero_le _) ?_
 intro i hi;have hl:=iI i;refine W1 ?_;refine S0 (fun hb h=>?_) fun hb h=>?_
 ·have hi':i<xs.length:=by omega
  have hm:=List.getElem_mem hi';have hcz:=hsz _ hm;have hce:=bn.sum xs[i];have hs:=hTs i hi';refine W3 ?_;refine C1 (bW _) ?_;refine W3 ?_;refine C1 (mR xs[i].fType (by omega)) ?_;refine W3 ?_;refine C1 (oo _ (by simp) (by simp)) ?_;refine W3 ?_;rw[hs];exact bF (i+1) (by omega) rfl rfl (by omega)
 ·have hi':i=xs.length:=by omega
  subst hi';rw[hTe]
theorem agB(f:aU)(hsz:f.sz<=1048576):aH prog 211 [f.v] (X9 f).v:=by
 unfold X9
 cases hv:kC f with
 |false=>
  rw[wY];refine aH.less (fun S=> ?_) (Gy [] []);refine zcx [.cell 2 54] func211 ntmps211 ?_;refine W1 ?_;refine aX (A8 f (by omega)) ?_;simp -implicitDefEqProofs (disch:=omega) only[go_sem,hv]
 |true=>
  intro S;have hdz:=aU.sum f;rw[dK] at hdz;obtain⟨hf1,hf2,hf3,Fp⟩:=yJ hv;have hz:=agA Fp;obtain⟨T,hT⟩:∃T:Nat->List (List D),T=fun i=>((f.aW.map rU).take i).map aj.enc:=⟨_,rfl⟩
  have hT0:T 0=[]:=by rw[hT];rfl
  have iI:∀i,(T i).length<=i:=fun i=>by
   rw[hT];simp only[List.length_map];exact List.length_take_le _ _
  have hTs:∀i (hi:i<f.aW.length),T i++[[.s [],.sl [[.s f.aW[i].fName,.sl []],[.s (cB f.aW[i].fType).aO,.sl ((cB f.aW[i].fType).ah.map aj.enc)]]]]=T (i+1):=fun i hi=>by
   have:=jR (base:=[]) (l:=f.aW.map rU) (i:=i) (by rw[List.length_map];exact hi);rw[List.getElem_map,rU,dW,dG,List.map_cons,List.map_cons,List.map_nil,fO,aj.aA (cB f.aW[i].fType)] at this;rw[hT];exact this
  have hTe:T f.aW.length=(f.aW.map rU).map aj.enc:=by
   rw[hT];simp only
   rw[List.take_of_length_le (by simp)]
  clear hT;refine zcx [.cell 2 54] func211 ntmps211 ?_;refine W1 ?_;refine aX (A8 f (by omega)) ?_;simp -implicitDefEqProofs (disch:=omega) only[go_sem,hv];refine sZ 2 1 2 [] [.d (.s []),.bE []] rfl rfl (by simp) ?_
  refine aT (ι:=Nat) zmx rfl [1,2,3,4] (fun i=>[.c (.ptr (0,0) 0),.c (.ptr (0,1) 0),.c (.ptr (0,2) 0),.c (.d (.i .i64 i))])
   (fun i=>[.box [.d (.s f.fName),.d (.sl (f.aG.map encS)),.d (.sl (f.bY.map bn.enc)),.d (.sl (f.aW.map bL.enc)),.d (.i .i64 f.bP.aK),.d (.s f.bP.fName),.d (.sl (f.bP.fArgs.map ak.enc)),.d (.i .i64 f.fBody.aK),.d (.s f.fBody.bC),.d (.s f.fBody.fName),.d (.i .i64 f.fBody.fN),.d (.i .i64 f.fBody.fType.aK),.d (.s f.fBody.fType.fName),.d (.sl (f.fBody.fType.fArgs.map ak.enc)),.d (.sl (f.fBody.fArgs.map au.enc)),.d (.sl (f.fBody.aQ.map aR.enc))],.box [.d (.s []),.bE []],.box [.d (.s []),.bN (0,3) (T i)],.tok 2 (T i)]::S)
   (fun i=>i<=f.aW.length) (fun i=>f.aW.length-i) 0 rfl (by rw[hT0];rfl) (Nat.zero_le _) ?_
  intro i hi;have hl:=iI i;refine W1 ?_;refine S0 (fun hb h=>?_) fun hb h=>?_
  ·have hi':i<f.aW.length:=by omega
   have hm:=List.getElem_mem hi';have hcz:=LP hm;have hce:=bL.sum f.aW[i];have hs:=hTs i hi';refine W3 ?_;refine C1 (bW _) ?_;refine W3 ?_;refine C1 (mR f.aW[i].fType (by omega)) ?_;refine W3 ?_;refine C1 (oo _ (by simp) (by simp)) ?_;refine W3 ?_;rw[hs];exact bF (i+1) (by omega) rfl rfl (by omega)
  ·have hi':i=f.aW.length:=by omega
   subst hi';rw[hTe];refine C1 (bW _) ?_;refine C1 (bW _) ?_;refine C1 (eF f.aG (by omega)) ?_;refine C1 (xJ f.bY (by omega) (fun b hb=>by have:=q8 hb;omega)) ?_;refine C1 (mR f.bP (by omega)) ?_;refine C1 (uW f.fBody Fp (by omega)) ?_;refine W3 ?_;refine C1 (oo _ (by simp) (by simp)) ?_;refine W3 ?_;have hI:=tQ true (Jm f) (by omega)
   have hx:(Jm f).v=V.agg [.d (.s []),.d (.sl [[.s [102,110],.sl []],[.s f.fName,.sl []],[.s [],.sl ((aN f.aG).map aj.enc)],[.s [],.sl ((f.bY.map q9).map aj.enc)],[.s [],.sl ((f.aW.map rU).map aj.enc)],[.s (cB f.bP).aO,.sl ((cB f.bP).ah.map aj.enc)],[.s (fC f.fBody).aO,.sl ((fC f.fBody).ah.map aj.enc)]])]:=by
    rw[Jm];show V.agg [.d (.s []),.d (.sl (List.map aj.enc _))]=_;simp only[dG,List.map_cons,List.map_nil,fO,kI,aj.aA (cB f.bP),aj.aA (fC f.fBody),xX]
   rw[hx] at hI;refine aX hI ?_;exact Z1
abbrev gX(l:List aj)(i:Nat):aj:=l.getD i bZ
theorem Ya(l:List aj):dx l=(gX l 0).sz+dx (l.drop 1):=by
 cases l with
 |nil=>simp[dx,gX,IG]
 |cons x l=>rw[dx,List.drop_succ_cons,List.drop_zero];rfl
theorem aaP(l:List aj)(k i:Nat):gX (l.drop k) i=gX l (k+i):=by
 simp[gX,List.getD_eq_getElem?_getD,List.getElem?_drop]
theorem Cu(l:List aj):dx l=(gX l 0).sz+(gX l 1).sz+(gX l 2).sz+(gX l 3).sz+(gX l 4).sz+(gX l 5).sz+(gX l 6).sz+dx (l.drop 7):=by
 have h:∀k,dx (l.drop k)=(gX l k).sz+dx (l.drop (k+1)):=fun k=>by
  rw[Ya (l.drop k),aaP,Nat.add_zero,List.drop_drop]
 have h0:=h 0;rw[List.drop_zero] at h0;have h1:=h 1;have h2:=h 2;have h3:=h 3;have h4:=h 4;have h5:=h 5;have h6:=h 6
 simp only[Nat.reduceAdd] at *
 omega
theorem EF(l:List aj):dx l=(gX l 0).sz+(gX l 1).sz+(gX l 2).sz+(gX l 3).sz+dx (l.drop 4):=by
 have h:=Cu l;have h1:=Cu (l.drop 4)
 have e:∀k,dx (l.drop k)=(gX l k).sz+dx (l.drop (k+1)):=fun k=>by
  rw[Ya (l.drop k),aaP,Nat.add_zero,List.drop_drop]
 have h4:=e 4;have h5:=e 5;have h6:=e 6
 simp only[Nat.reduceAdd] at *
 omega
theorem Fq(l:List aj)(i:Nat):dJ l i=(gX l i).aO:=rfl
theorem qP(x:aj):x.aO.length+(x.ah.length+dx x.ah)=x.sz:=by rw[jZ,mH]
theorem Yb{α:Type}{x:aj}{dT dF:α}{valid:α->Bool}{sx:α->aj}{head:Prop}(hx:x.ah≠[])(hd:∀a,valid a=true->sx a=x->dT=a/\dF=a)(hh:∀a,sx a=x->head):
 dec (fQ x=true/\head/\valid dT=true/\sx dT=x)=(fQ x&&dec (wY (valid dF) (sx dF)=x)):=by
 cases hv:fQ x with
 |false=>exact aB fun h=>by cases h.1
 |true=>
  rw[Bool.true_and];refine iB ⟨fun⟨_,h2,h3,h4⟩=> ?_,fun h=> ?_⟩
  ·have e:=(hd _ h3 h4).2;rw[e,h3,h4,wY,Eh,if_pos hv]
  ·obtain⟨h1,h2,_⟩:=XF h hx;have e:=(hd _ h1 h2).1;rw[e];exact⟨rfl,hh _ h2,h1,h2⟩
def oM(b:Bool)(y:aj):bn:=if b=true/\y.ah.length≠2 then⟨[],jh⟩ else⟨dJ y.ah 0,dN b (gX y.ah 1)⟩
def oN(b:Bool)(y:aj):bL:=if b=true/\y.ah.length≠2 then⟨[],jh⟩ else⟨dJ y.ah 0,dN b (gX y.ah 1)⟩
def o9(l:List aj)(i:Nat):List (List UInt8):=fq (gX l i).ah
def A9(b:Bool)(x:aj):aU:=
 ⟨dJ x.ah 1,o9 x.ah 2,(gX x.ah 3).ah.map (oM b),(gX x.ah 4).ah.map (oN b),dN b (gX x.ah 5),eY b (gX x.ah 6)⟩
theorem aaQ(b:Bool){c:bn}(h:formed c.fType=true):oM b (q9 c)=c:=by
 unfold oM;rw[if_neg (by simp[q9,dG])];show bn.mk c.bC (dN b (cB c.fType))=c;rw[xR b _ h]
theorem agC(b:Bool){c:bL}(h:formed c.fType=true):oN b (rU c)=c:=by
 unfold oN;rw[if_neg (by simp[rU,dG])];show bL.mk c.fName (dN b (cB c.fType))=c;rw[xR b _ h]
theorem EG{α β:Type}{f:α->β}{g:β->α}{l:List α}(h:∀a∈l,g (f a)=a):(l.map f).map g=l:=by
 rw[List.map_map,show l.map (g∘f)=l.map id from List.map_congr_left (fun c hc=>h c hc),List.map_id]
theorem Yc{f:aU}(h:kC f=true):∀v∈f.aG,v≠[]:=by
 unfold kC at h;simp only[Bool.and_eq_true] at h;exact AV h.2.2.1
theorem RN(b:Bool){f:aU}(h:kC f=true):A9 b (Jm f)=f:=by
 obtain⟨h1,h2,h3,h4⟩:=yJ h;show aU.mk f.fName (fq (aN f.aG)) ((f.bY.map q9).map (oM b)) ((f.aW.map rU).map (oN b)) (dN b (cB f.bP)) (eY b (fC f.fBody))=f;rw[qN (Yc h),EG fun c hc=>aaQ b (h1 c hc),EG fun c hc=>agC b (h2 c hc),xR b _ h3,GI b _ h4]
noncomputable def okF(x:aj):Bool:=dec (fQ x=true/\(7<=x.ah.length/\dJ x.ah 0=xX)/\kC (A9 true x)=true/\Jm (A9 true x)=x)
theorem ajL{x:aj}(hx:x.ah≠[]):okF x=(fQ x&&dec (X9 (A9 false x)=x)):=
 Yb hx (fun a h1 h2=>by rw[<-h2];exact⟨RN true h1,RN false h1⟩) fun a h=>by rw[<-h];exact⟨Nat.le_refl _,rfl⟩
theorem ajM{x:aj}(h:okF x=true):A9 false x=A9 true x:=by
 have h1:=gH h
 conv=>lhs;rw[<-h1.2.2.2]
 exact RN false h1.2.2.1
def LQ:aU:=⟨[],[],[],[],jh,mF⟩
noncomputable def vT(x:aj):aU:=if okF x=true then A9 true x else LQ
theorem ams(b:Bool)(y:aj):(oM b y).sz<=y.sz:=by
 have h:=zw b (gX y.ah 1);have h1:=EF y.ah;have h2:=qP y;have h3:=qP (gX y.ah 0);unfold oM;split
 ·simp only[bn.sz,bn.aA,bT,bK,D.sz,ak.d9,Cn];simp
 ·simp only[bn.sz,bn.aA,bT,bK,D.sz,ak.d9,Fq];omega
theorem agD(b:Bool)(y:aj):(oN b y).sz<=y.sz:=by
 have h:=zw b (gX y.ah 1);have h1:=EF y.ah;have h2:=qP y;have h3:=qP (gX y.ah 0);unfold oN;split
 ·simp only[bL.sz,bL.aA,bT,bK,D.sz,ak.d9,Cn];simp
 ·simp only[bL.sz,bL.aA,bT,bK,D.sz,ak.d9,Fq];omega
theorem NI(b:Bool):∀l:List aj,bf ((l.map (oM b)).map bn.enc)<=dx l
 |[]=>by simp[bf]
 |y::l=>by
  have h1:=ams b y;have h2:=NI b l;rw[List.map_cons,List.map_cons,bf,dx];simp only[bn.sz] at h1;omega
theorem Qs(b:Bool):∀l:List aj,bf ((l.map (oN b)).map bL.enc)<=dx l
 |[]=>by simp[bf]
 |y::l=>by
  have h1:=agD b y;have h2:=Qs b l;rw[List.map_cons,List.map_cons,bf,dx];simp only[bL.sz] at h1;omega
theorem RO(b:Bool)(x:aj):(A9 b x).sz<=x.sz:=by
 have h1:=Cu x.ah;have h2:=qP x;have h3:=qP (gX x.ah 1);have h4:=rY (gX x.ah 2).ah;have h4':=qP (gX x.ah 2);have h5:=NI b (gX x.ah 3).ah;have h5':=qP (gX x.ah 3);have h6:=Qs b (gX x.ah 4).ah;have h6':=qP (gX x.ah 4);have h7:=zw b (gX x.ah 5);have h8:=DF b (gX x.ah 6);simp only[aU.sz,aU.aA,bT,bK,D.sz,ak.d9,au.d9,A9,List.length_map,o9,dK,Fq];omega
noncomputable def nD(m:bq):Bool:=dec (1<=m.aG.length)&&(dec (m.aG.length<=5)&&nS m.aG m.fBody)
noncomputable def mV(x:aP):List (List UInt8):=x.aJ.map bq.fName
noncomputable def vU(x:aP):Bool:=validName x.bC&&(dec (x.aG.length<=3)&&(iU x.aG&&(iq x.aG x.bQ&&(!sQ x.bQ&&(dec (x.bQ.aK=2\/x.bQ.aK=1)&&(among x.aG (jK [] x.bQ)&&(rD x.aG x.bY&&((if x.dX=true then iq x.aG x.bD else dec (yH x.bD))&&dec (x.aJ.length<=6)))))))))
noncomputable def fH(x:aP):Bool:=vU x&&(x.aJ.all nD&&iU (mV x))
theorem aP.sum(x:aP):x.bC.length+(x.aG.length+bf (x.aG.map encS))+x.bQ.sz+(x.bY.length+bf (x.bY.map bn.enc))+x.bD.sz+(x.aJ.length+bf (x.aJ.map bq.enc))<=x.sz:=by
 simp only[aP.sz,aP.aA,bT,bK,D.sz,List.length_map,ak.d9];omega
theorem bq.sum(x:bq):x.fName.length+(x.aG.length+bf (x.aG.map encS))+x.fBody.sz<=x.sz:=by
 simp only[bq.sz,bq.aA,bT,bK,D.sz,List.length_map,au.d9];omega
theorem Ba{xs:List bq}{t:bq}(h:t∈xs):t.sz<=bf (xs.map bq.enc):=dA (List.mem_map_of_mem h)
theorem TT(v:List UInt8):∀(us:List ak)(out:List (List UInt8)),v∈us.foldl wI out<->v∈out\/0<us.countP (O1 v)
 |[],out=>by simp
 |u::us,out=>by
  rw[List.foldl_cons,TT v us,List.countP_cons]
  have h:v∈wI out u<->v∈out\/O1 v u=true:=by
   unfold wI O1;split
   ·rename_i h;simp only[List.mem_append,List.mem_singleton];constructor
    ·rintro(h1|h1)
     ·exact .inl h1
     ·right;simp[h1,h.1]
    ·rintro(h1|h1)
     ·exact .inl h1
     ·right;simp at h1;exact h1.2.symm
   ·rename_i h;constructor
    ·exact .inl
    ·rintro(h1|h1)
     ·exact h1
     ·simp at h1;by_cases e:u.fName∈out
      ·rw[<-h1.2];exact e
      ·exact absurd ⟨h1.1,e⟩ h
  rw[h]
  cases O1 v u<;>simp
theorem adK(v:List UInt8)(t:ak):occurs v t=dec (v∈jK [] t):=by
 unfold occurs jK sF;rw[kE];exact iB (by rw[TT];simp)
theorem adL{t:ak}(h:pq t=true):t.aK=1\/t.aK=2\/t.aK=3\/t.aK=4:=by
 have h1:=(gH h).1;rw[zh,Bool.and_eq_true] at h1;have h2:=gH h1.1;omega
theorem agE{t:ak}(h:sQ t=false):t.aK≠3:=by
 rw[Ic] at h;intro e;simp[e] at h
theorem EH(x:aP)(hsz:x.sz<=4194304):aH prog 163 [x.v] (.c (.d (.b (fH x)))):=fun S=>by
 have hs:=aP.sum x
 have hV:∀s∈x.aG,s.length<=4194304:=fun s h=>by have:=tF h;omega
 have hW:∀b∈x.bY,b.sz<=4194304:=fun b h=>by have:=q8 h;omega
 have hM:∀m∈x.aJ,m.sz<=4194304:=fun m h=>by have:=Ba h;omega
 have no:vU x=false->V.c (.d (.b false))=V.c (.d (.b (fH x))):=fun h=>ay (by unfold fH;rw[h];rfl);refine(show Hold (vU x=true-> ?T)->_ from fun tail=> ?main) ?tp
 case' main=>
  refine zcx [.tmp 2] func163 ntmps163 ?_;refine W1 ?_
  repeat' (first
   |refine S0 (fun hb h=>?_) fun hb h=>?_
   |((with_reducible show fD _ _ 157 _ _ _ _);refine aX (iL x.bC (by omega)) ?_;refine W1 ?_)
   |((with_reducible show fD _ _ 158 _ _ _ _);refine aX (qw x.aG (by omega) hV) ?_;refine W1 ?_)
   |((with_reducible show fD _ _ 232 _ _ _ _);refine aX (vO x.bQ x.aG (by omega) (by omega)) ?_;refine W1 ?_)
   |((with_reducible show fD _ _ 232 _ _ _ _);refine aX (vO x.bD x.aG (by omega) (by omega)) ?_;refine W1 ?_)
   |((with_reducible show fD _ _ 233 _ _ _ _);refine aX (Gj x.bQ (by omega)) ?_;refine W1 ?_)
   |((with_reducible show fD _ _ 235 _ _ _ _);refine aX (zX x.bQ (by omega)) ?_;refine W1 ?_)
   |((with_reducible show fD _ _ 234 _ _ _ _);refine aX (Bz x.aG (jK [] x.bQ) (by omega) (Qp _ (by omega))) ?_;refine W1 ?_)
   |((with_reducible show fD _ _ 236 _ _ _ _);refine aX (KV x.bY x.aG (by omega) hW (by omega)) ?_;refine W1 ?_)
   |((with_reducible show fD _ _ 237 _ _ _ _);refine aX (Jd x.bD) ?_;refine W1 ?_)
   |(refine no ?_;unfold vU;grind [gH,jg,aZ,aB]))
  all_goals
   have hh:vU x=true:=by unfold vU;grind [gH,jg,aZ,aB]
   refine W3 ?_;refine ni 3 1 [] rfl (by simp) ?_;refine oD (st':=[.box (x.enc.map .d),.tok 1 []]::S) [3,91,92,93] [.c (.bN (0,1) []),.c (.d (.sl (x.aJ.map bq.enc))),.c (.d (.i .i64 x.aJ.length)),.c (.d (.i .i64 0))] ?_ ?_ ?_
   ·rfl
   ·first|(refine W1 ?_;done)|(refine W1 ?_;simp[*])
   ·exact tail.out hh
 refine⟨fun hh=> ?_⟩
 have bad:∀i,∀hi:i<x.aJ.length,nD x.aJ[i]=false->V.c (.d (.b false))=V.c (.d (.b (fH x))):=fun i hi h=>by
  have:x.aJ.all nD=false:=Bool.eq_false_iff.2 fun hx=>by
   rw[List.all_eq_true.1 hx _ (List.getElem_mem hi)] at h;cases h
  unfold fH
  rw[this];simp
 refine aT (ι:=Nat×List (List UInt8)) zmx rfl [3,91,92,93] (fun y=>[.c (.bN (0,1) (y.2.map encS)),.c (.d (.sl (x.aJ.map bq.enc))),.c (.d (.i .i64 x.aJ.length)),.c (.d (.i .i64 y.1))]) (fun y=>[.box (x.enc.map .d),.tok 1 (y.2.map encS)]::S)
  (fun y=>y.1<=x.aJ.length/\y.2=(mV x).take y.1/\∀j,∀hj:j<x.aJ.length,j<y.1->nD x.aJ[j]=true) (fun y=>x.aJ.length-y.1) (0,[]) rfl ?_ ⟨Nat.zero_le _,rfl,fun j _ h=>by simp only at h;omega⟩ ?_
 ·exact Z1
 rintro⟨i,names⟩ ⟨p1,p2,p3⟩;simp only at p1 p2 p3
 have pl:names.length<=x.aJ.length:=by rw[p2];simp[mV];omega
 refine W1 ?_;refine S0 (fun hb h=>?_) fun hb h=>?_
 ·have hi:i<x.aJ.length:=by omega
  have hm:=hM _ (List.getElem_mem hi);have hms:=bq.sum x.aJ[i]
  have hmv:∀s∈x.aJ[i].aG,s.length<=4194304:=fun s h=>by have:=tF h;omega
  refine W3 ?_;refine S0 (fun hb h=>?_) fun hb h=>?_
  ·exact bad i hi (by unfold nD;rw[aB (by omega)];rfl)
  refine W3 ?_;refine S0 (fun hb h=>?_) fun hb h=>?_
  ·exact bad i hi (by unfold nD;rw[aB (show ¬x.aJ[i].aG.length<=5 by omega)];simp)
  refine W3 ?_;refine C2 (KU x.aJ[i].aG x.aJ[i].fBody (by omega) hmv (by omega)) ?_;refine S0 (fun hb h=>?_) fun hb h=>?_
  ·exact bad i hi (by unfold nD;rw[h];simp)
  have k2:=h
  have k3:nD x.aJ[i]=true:=by unfold nD;rw[k2,aZ (by omega),aZ (by omega)];rfl
  refine W3 ?_;rw[show List.map encS names++[[D.s x.aJ[i].fName]]=List.map encS (names++[x.aJ[i].fName]) by simp[encS]]
  exact bX 2 (by decide) (i+1,names++[x.aJ[i].fName]) (by simp only;omega) rfl rfl rfl rfl ⟨by simp only;omega,by simp only;rw[p2,jc (by simpa [mV] using hi)];simp[mV],fun j hj hji=>by
   simp only at hji;by_cases e:j=i
   ·subst e;exact k3
   ·exact p3 j hj (by omega)⟩
 have hi:i=x.aJ.length:=by omega
 have hn:names=mV x:=by rw[p2,List.take_of_length_le (by simp[mV];omega)]
 have hall:x.aJ.all nD=true:=List.all_eq_true.2 fun c hc=>by
  obtain⟨j,hj,e⟩:=List.getElem_of_mem hc;rw[<-e];exact p3 j hj (by omega)
 have hnl:∀s∈names,s.length<=4194304:=fun s hm=>by
  rw[hn] at hm;obtain⟨g,hg,e⟩:=List.mem_map.1 hm;have:=hM g hg;have:=bq.sum g;rw[<-e];omega
 refine C2 (qw names (by omega) hnl) ?_;exact ay (by unfold fH;rw[hh,hall,hn];rfl)
theorem qg(x:aP)(hsz:x.sz<=4194304):aH prog 215 [x.v] (.c (.d (.b (fH x)))):=fun S=>by
 have hs:=aP.sum x
 have hV:∀s∈x.aG,s.length<=4194304:=fun s h=>by have:=tF h;omega
 have hW:∀b∈x.bY,b.sz<=4194304:=fun b h=>by have:=q8 h;omega
 have hM:∀m∈x.aJ,m.sz<=4194304:=fun m h=>by have:=Ba h;omega
 have bad:x.aJ.all nD=false->V.c (.d (.b false))=V.c (.d (.b (fH x))):=fun h=>ay (by unfold fH;rw[h];simp);have no:vU x=false->V.c (.d (.b false))=V.c (.d (.b (fH x))):=fun h=>ay (by unfold fH;rw[h];rfl)
 have hk:iq x.aG x.bQ=true->sQ x.bQ=false->(x.bQ.aK=1\/x.bQ.aK=2\/x.bQ.aK=4):=fun h1 h2=>by
  unfold iq at h1;rw[Bool.and_eq_true] at h1;have:=adL h1.1;have:=agE h2;omega
 refine zcx [.tmp 2] func215 ntmps215 ?_;refine W1 ?_
 repeat' (first
  |refine S0 (fun hb h=>?_) fun hb h=>?_
  |((with_reducible show fD _ _ 148 _ _ _ _);refine aX (iM x.bC (by omega)) ?_;refine W1 ?_)
  |((with_reducible show fD _ _ 149 _ _ _ _);refine aX (ny x.aG 3 (by omega) hV) ?_;refine W1 ?_)
  |((with_reducible show fD _ _ 271 _ _ _ _);refine aX (vB x.bQ x.aG (by omega) (by omega)) ?_;refine W1 ?_)
  |((with_reducible show fD _ _ 272 _ _ _ _);refine aX (Gi x.bQ (by omega)) ?_;refine W1 ?_)
  |((with_reducible show fD _ _ 273 _ _ _ _);refine aX (MU x.bY x.aG (by omega) hW (by omega)) ?_;refine W1 ?_)
  |(refine no ?_;unfold vU;grind [gH,jg,aZ,aB]))
 all_goals
  have h1:validName x.bC=true:=by assumption
  have h2:(dec ((x.aG.length:Int)<=3)&&iU x.aG)=true:=by assumption
  have h3:iq x.aG x.bQ=true:=by assumption
  have h4:sQ x.bQ=false:=by assumption
  have h5:¬x.bQ.aK=4:=by assumption
  have h6:rD x.aG x.bY=true:=by assumption
 have h7:=hk h3 h4;clear hk;rw[Bool.and_eq_true] at h2;have h8:=gH h2.1
 have pre:vU x=(among x.aG (jK [] x.bQ)&&((if x.dX=true then iq x.aG x.bD else dec (yH x.bD))&&dec (x.aJ.length<=6))):=by
  unfold vU;rw[h1,h2.2,h3,h4,h6,aZ (show x.aG.length<=3 by omega),aZ (show x.bQ.aK=2\/x.bQ.aK=1 by omega)]
  simp
 clear h1 h2 h3 h4 h5 h6 h7 h8
 refine aT (ι:=Nat) zmx rfl [1,3] (fun i=>[.c (.ptr (0,0) 0),.c (.d (.i .i64 i))]) (fun _=>[.box (x.enc.map .d)]::S)
  (fun i=>i<=x.aG.length/\among (x.aG.drop i) (jK [] x.bQ)=among x.aG (jK [] x.bQ)) (fun i=>x.aG.length-i) 0 rfl ?_ ⟨Nat.zero_le _,rfl⟩ ?_
 ·exact Z1
 rintro i ⟨p1,p2⟩;simp -implicitDefEqProofs (disch:=omega) only[go_sem,encS]
 with_reducible refine dD (fun hb=> ?_) (fun hb=> ?_)<;>have h:=hb<;>(try simp only[wf_preprocess] at h)<;>simp -implicitDefEqProofs (disch:=omega) only[go_sem,hb,encS]<;>refine W3 ?_
 ·have hi:i<x.aG.length:=by omega
  rw[List.drop_eq_getElem_cons hi] at p2;have p3:among x.aG (jK [] x.bQ)=(dec (x.aG[i]∈jK [] x.bQ)&&among (x.aG.drop (i+1)) (jK [] x.bQ)):=p2.symm;refine W3 ?_;refine C2 (UC x.aG[i] x.bQ (by omega)) ?_;rw[adK];refine S0 (fun hb h=>?_) fun hb h=>?_
  ·exact no (by rw[pre,p3,aB h];rfl)
  ·exact bF (i+1) (by omega) rfl rfl ⟨by omega,by rw[p3,aZ h];rfl⟩
 rw[List.drop_of_length_le (by omega)] at p2;have p3:among x.aG (jK [] x.bQ)=true:=p2.symm;rw[p3,Bool.true_and] at pre;refine(show Hold ((if x.dX=true then iq x.aG x.bD else dec (yH x.bD))=true-> ?T)->_ from fun tail=> ?main) ?tp
 case' main=>
  repeat' (first
   |refine S0 (fun hb h=>?_) fun hb h=>?_
   |((with_reducible show fD _ _ 271 _ _ _ _);refine aX (vB x.bD x.aG (by omega) (by omega)) ?_;refine W1 ?_)
   |((with_reducible show fD _ _ 184 _ _ _ _);refine aX (Qk x.bD) ?_;refine W1 ?_)
   |(refine no ?_;rw[pre];grind [gH,jg,aZ,aB]))
  all_goals
   have hh:(if x.dX=true then iq x.aG x.bD else dec (yH x.bD))=true:=by grind [gH,jg,aZ,aB]
   refine W3 ?_;refine ni 4 1 [] rfl (by simp) ?_;refine oD (st':=[.box (x.enc.map .d),.tok 1 []]::S) [1,4,5] [.c (.ptr (0,0) 0),.c (.bN (0,1) []),.c (.d (.i .i64 0))] ?_ ?_ ?_
   ·rfl
   ·first|(refine W1 ?_;done)|(refine W1 ?_;simp[*])
   ·exact tail.out hh
 refine⟨fun hh=> ?_⟩;rw[hh,Bool.true_and] at pre;clear p2 p3 p1 hh no
 have ajN:∀i,∀hi:i<x.aJ.length,nD x.aJ[i]=false->V.c (.d (.b false))=V.c (.d (.b (fH x))):=fun i hi h=>bad (Bool.eq_false_iff.2 fun hx=>by
  rw[List.all_eq_true.1 hx _ (List.getElem_mem hi)] at h;cases h)
 refine aT (ι:=Nat×List (List UInt8)) zmx rfl [1,4,5] (fun y=>[.c (.ptr (0,0) 0),.c (.bN (0,1) (y.2.map encS)),.c (.d (.i .i64 y.1))]) (fun y=>[.box (x.enc.map .d),.tok 1 (y.2.map encS)]::S)
  (fun y=>y.1<=x.aJ.length/\y.2=(mV x).take y.1/\∀j,∀hj:j<x.aJ.length,j<y.1->nD x.aJ[j]=true) (fun y=>x.aJ.length-y.1) (0,[]) rfl ?_ ⟨Nat.zero_le _,rfl,fun j _ h=>by simp only at h;omega⟩ ?_
 ·exact Z1
 rintro⟨i,names⟩ ⟨p1,p2,p3⟩;simp only at p1 p2 p3
 have pl:names.length<=x.aJ.length:=by rw[p2];simp[mV];omega
 refine W1 ?_;refine S0 (fun hb h=>?_) fun hb h=>?_
 ·have hi:i<x.aJ.length:=by omega
  have hm:=hM _ (List.getElem_mem hi);have hms:=bq.sum x.aJ[i]
  have hmv:∀s∈x.aJ[i].aG,s.length<=4194304:=fun s h=>by have:=tF h;omega
  refine W3 ?_;refine S0 (fun hb h=>?_) fun hb h=>?_
  ·exact ajN i hi (by unfold nD;rw[aB (by omega)];rfl)
  refine W3 ?_;refine C2 (ny x.aJ[i].aG 5 (by omega) hmv) ?_;refine S0 (fun hb h=>?_) fun hb h=>?_
  ·refine ajN i hi ?_;unfold nD nS
   have:(dec (x.aJ[i].aG.length<=5)&&iU x.aJ[i].aG)=false:=by
    rw[<-h];congr 1;exact iB ⟨fun h=>by omega,fun h=>by omega⟩
   rw[<-Bool.and_assoc (dec (x.aJ[i].aG.length<=5)),this];simp
  have k1:=h;rw[Bool.and_eq_true] at k1;have k4:=gH k1.1;refine W3 ?_;refine C2 (IU x.aJ[i].aG x.aJ[i].fBody (by omega) (by omega)) ?_;refine S0 (fun hb h=>?_) fun hb h=>?_
  ·exact ajN i hi (by unfold nD nS;rw[h];simp)
  have k2:=h
  have k3:nD x.aJ[i]=true:=by unfold nD nS;rw[k2,k1.2,aZ (by omega),aZ (by omega)];rfl
  refine W3 ?_;rw[show List.map encS names++[[D.s x.aJ[i].fName]]=List.map encS (names++[x.aJ[i].fName]) by simp[encS]]
  exact bX 2 (by decide) (i+1,names++[x.aJ[i].fName]) (by simp only;omega) rfl rfl rfl rfl ⟨by simp only;omega,by simp only;rw[p2,jc (by simpa [mV] using hi)];simp[mV],fun j hj hji=>by
   simp only at hji;by_cases e:j=i
   ·subst e;exact k3
   ·exact p3 j hj (by omega)⟩
 have hi:i=x.aJ.length:=by omega
 have hn:names=mV x:=by rw[p2,List.take_of_length_le (by simp[mV];omega)]
 have hall:x.aJ.all nD=true:=List.all_eq_true.2 fun c hc=>by
  obtain⟨j,hj,e⟩:=List.getElem_of_mem hc;rw[<-e];exact p3 j hj (by omega)
 have hnl:∀s∈names,s.length<=4194304:=fun s hm=>by
  rw[hn] at hm;obtain⟨g,hg,e⟩:=List.mem_map.1 hm;have:=hM g hg;have:=bq.sum g;rw[<-e];omega
 have hlen:names.length=x.aJ.length:=by rw[hn];simp[mV]
 refine C2 (ny names 6 (by omega) hnl) ?_;refine ay ?_;unfold fH;rw[pre,hall,hn,Bool.true_and];congr 1;rw[<-hn,hlen];exact iB ⟨fun h=>by omega,fun h=>by omega⟩
end Go.Ab