/-
  SEVERAL TEXTS IN ONE (merged by program): contracts and models, each with its own heading.
-/
import Derived.Test.YtnceiannponbjaaGreatDoorPartDlbV
import Derived.Shelf.Strconv.Atoi
import Derived.Shelf.LaysC
import Derived.Shelf.Strconv.AtoiErr
import Derived.Shelf.Strconv.ErrVar
import Derived.Lib.AppendIntMem
import Derived.Lib.AtoiBound
set_option maxHeartbeats 8000000
open Go.Proofs Go.Proofs.Tryz
set_option linter.unusedSimpArgs false
set_option linter.unusedVariables false
set_option maxRecDepth 4000
namespace Go.Proofs
open Go.Shelf
def Tryz.lays172_ren:Go.Shelf.Ren:=⟨fun|172=>213|244=>231|245=>232|247=>238|279=>239|280=>240|281=>241|282=>242|287=>249|316=>250|171=>198|205=>251|321=>259|322=>260|243=>225|246=>236|283=>244|284=>245|285=>246|286=>247|129=>254|317=>253|318=>255|319=>256|320=>257|337=>261|338=>262|n=>n,fun|9=>9|3=>3|75=>187|76=>188|4=>4|5=>5|167=>207|37=>22|0=>0|85=>208|2=>2|168=>210|53=>214|175=>220|46=>173|210=>224|127=>234|145=>237|143=>235|21=>21|171=>213|173=>217|212=>228|51=>229|20=>20|213=>230|232=>239|233=>240|80=>243|n=>n,fun|15=>0|16=>1|17=>2|18=>4|19=>5|n=>n⟩
theorem Tryz.lays172:Go.Proofs.Lays.n172 prog Tryz.lays172_ren:={
 mixed:=by kernel_rfl
 f129:=func254.trans (congrArg some (by kernel_rfl))
 f171:=func198.trans (congrArg some (by kernel_rfl))
 f172:=func213.trans (congrArg some (by kernel_rfl))
 f205:=func251.trans (congrArg some (by kernel_rfl))
 f243:=func225.trans (congrArg some (by kernel_rfl))
 f244:=func231.trans (congrArg some (by kernel_rfl))
 f245:=func232.trans (congrArg some (by kernel_rfl))
 f246:=func236.trans (congrArg some (by kernel_rfl))
 f247:=func238.trans (congrArg some (by kernel_rfl))
 f279:=func239.trans (congrArg some (by kernel_rfl))
 f280:=func240.trans (congrArg some (by kernel_rfl))
 f281:=func241.trans (congrArg some (by kernel_rfl))
 f282:=func242.trans (congrArg some (by kernel_rfl))
 f283:=func244.trans (congrArg some (by kernel_rfl))
 f284:=func245.trans (congrArg some (by kernel_rfl))
 f285:=func246.trans (congrArg some (by kernel_rfl))
 f286:=func247.trans (congrArg some (by kernel_rfl))
 f287:=func249.trans (congrArg some (by kernel_rfl))
 f316:=func250.trans (congrArg some (by kernel_rfl))
 f317:=func253.trans (congrArg some (by kernel_rfl))
 f318:=func255.trans (congrArg some (by kernel_rfl))
 f319:=func256.trans (congrArg some (by kernel_rfl))
 f320:=func257.trans (congrArg some (by kernel_rfl))
 f321:=func259.trans (congrArg some (by kernel_rfl))
 f322:=func260.trans (congrArg some (by kernel_rfl))
 f337:=func261.trans (congrArg some (by kernel_rfl))
 f338:=func262.trans (congrArg some (by kernel_rfl))
 t0:=underlying0
 a0:=Tryz.isAgg0
 z0:=Tryz.sizeOf0
 v0:=Tryz.zeroValue0
 t2:=underlying2
 a2:=Tryz.isAgg2
 z2:=Tryz.sizeOf2
 v2:=Tryz.zeroValue2
 t3:=underlying3
 a3:=Tryz.isAgg3
 z3:=Tryz.sizeOf3
 v3:=Tryz.zeroValue3
 t4:=underlying4
 a4:=Tryz.isAgg4
 z4:=Tryz.sizeOf4
 v4:=Tryz.zeroValue4
 t5:=underlying5
 a5:=Tryz.isAgg5
 z5:=Tryz.sizeOf5
 v5:=Tryz.zeroValue5
 t9:=underlying9
 a9:=Tryz.isAgg9
 z9:=Tryz.sizeOf9
 v9:=Tryz.zeroValue9
 t20:=underlying20
 a20:=Tryz.isAgg20
 z20:=Tryz.sizeOf20
 v20:=Tryz.zeroValue20
 t21:=underlying21
 a21:=Tryz.isAgg21
 z21:=Tryz.sizeOf21
 v21:=Tryz.zeroValue21
 t37:=underlying22
 a37:=Tryz.isAgg22
 z37:=Tryz.sizeOf22
 v37:=Tryz.zeroValue22
 t46:=underlying173
 a46:=Tryz.isAgg173
 z46:=Tryz.sizeOf173
 v46:=Tryz.zeroValue173
 t51:=underlying229
 a51:=Tryz.isAgg229
 z51:=Tryz.sizeOf229
 v51:=Tryz.zeroValue229
 t53:=underlying214
 a53:=Tryz.isAgg214
 z53:=Tryz.sizeOf214
 v53:=Tryz.zeroValue214
 t75:=underlying187
 a75:=Tryz.isAgg187
 z75:=Tryz.sizeOf187
 v75:=Tryz.zeroValue187
 t76:=underlying188
 a76:=Tryz.isAgg188
 z76:=Tryz.sizeOf188
 v76:=Tryz.zeroValue188
 t85:=underlying208
 a85:=Tryz.isAgg208
 z85:=Tryz.sizeOf208
 v85:=Tryz.zeroValue208
 t127:=underlying234
 a127:=Tryz.isAgg234
 z127:=Tryz.sizeOf234
 v127:=Tryz.zeroValue234
 t143:=underlying235
 a143:=Tryz.isAgg235
 z143:=Tryz.sizeOf235
 v143:=Tryz.zeroValue235
 t145:=underlying237
 a145:=Tryz.isAgg237
 z145:=Tryz.sizeOf237
 v145:=Tryz.zeroValue237
 t167:=underlying207
 a167:=Tryz.isAgg207
 z167:=Tryz.sizeOf207
 v167:=Tryz.zeroValue207
 t168:=underlying210
 a168:=Tryz.isAgg210
 z168:=Tryz.sizeOf210
 v168:=Tryz.zeroValue210
 t171:=underlying213
 a171:=Tryz.isAgg213
 z171:=Tryz.sizeOf213
 v171:=Tryz.zeroValue213
 t173:=underlying217
 a173:=Tryz.isAgg217
 z173:=Tryz.sizeOf217
 v173:=Tryz.zeroValue217
 t175:=underlying220
 a175:=Tryz.isAgg220
 z175:=Tryz.sizeOf220
 v175:=Tryz.zeroValue220
 t210:=underlying224
 a210:=Tryz.isAgg224
 z210:=Tryz.sizeOf224
 v210:=Tryz.zeroValue224
 t212:=underlying228
 a212:=Tryz.isAgg228
 z212:=Tryz.sizeOf228
 v212:=Tryz.zeroValue228
 t213:=underlying230
 a213:=Tryz.isAgg230
 z213:=Tryz.sizeOf230
 t232:=underlying239
 a232:=Tryz.isAgg239
 z232:=Tryz.sizeOf239
 v232:=Tryz.zeroValue239
 t233:=underlying240
 a233:=Tryz.isAgg240
 z233:=Tryz.sizeOf240
 v233:=Tryz.zeroValue240
 g15:=by kernel_rfl
 g16:=by kernel_rfl
 g17:=by kernel_rfl
 g18:=by kernel_rfl
 g19:=by kernel_rfl}
open Go.RowKit in
theorem Tryz.strconv_Atoi(s:ByteArray)(n:Int)(hl:s.size<=18)(h:Lib.atoi s.data.toList=some n)(w:World):
 Calls prog 213 #[.string s] w fun e w'=>e=.returned (.tuple #[.int .i64 n,.nilIface])/\∃t,w'=Lib.bytesWorld w 5 t:=Any.strconv_Atoi Tryz.lays172 s n hl h w
def Tryz.laysC172_ren:Go.Shelf.Ren:=⟨fun|172=>213|244=>231|245=>232|247=>238|279=>239|280=>240|281=>241|282=>242|287=>249|316=>250|171=>198|205=>251|321=>259|322=>260|243=>225|246=>236|283=>244|284=>245|285=>246|286=>247|129=>254|317=>253|318=>255|319=>256|320=>257|337=>261|338=>262|n=>n,fun|9=>9|3=>3|75=>187|76=>188|4=>4|5=>5|167=>207|37=>22|0=>0|85=>208|2=>2|168=>210|53=>214|175=>220|46=>173|210=>224|127=>234|145=>237|143=>235|21=>21|171=>213|173=>217|212=>228|51=>229|20=>20|213=>230|232=>239|233=>240|80=>243|n=>n,fun|15=>0|16=>1|17=>2|18=>4|19=>5|n=>n⟩
theorem Tryz.laysC172:Go.Proofs.LaysC.n172 prog Tryz.laysC172_ren:={
 mixed:=by kernel_rfl
 f129:=func254.trans (congrArg some (by kernel_rfl))
 f171:=func198.trans (congrArg some (by kernel_rfl))
 f172:=func213.trans (congrArg some (by kernel_rfl))
 f205:=func251.trans (congrArg some (by kernel_rfl))
 f243:=func225.trans (congrArg some (by kernel_rfl))
 f244:=func231.trans (congrArg some (by kernel_rfl))
 f245:=func232.trans (congrArg some (by kernel_rfl))
 f246:=func236.trans (congrArg some (by kernel_rfl))
 f247:=func238.trans (congrArg some (by kernel_rfl))
 f279:=func239.trans (congrArg some (by kernel_rfl))
 f280:=func240.trans (congrArg some (by kernel_rfl))
 f281:=func241.trans (congrArg some (by kernel_rfl))
 f282:=func242.trans (congrArg some (by kernel_rfl))
 f283:=func244.trans (congrArg some (by kernel_rfl))
 f284:=func245.trans (congrArg some (by kernel_rfl))
 f285:=func246.trans (congrArg some (by kernel_rfl))
 f286:=func247.trans (congrArg some (by kernel_rfl))
 f287:=func249.trans (congrArg some (by kernel_rfl))
 f316:=func250.trans (congrArg some (by kernel_rfl))
 f317:=func253.trans (congrArg some (by kernel_rfl))
 f318:=func255.trans (congrArg some (by kernel_rfl))
 f319:=func256.trans (congrArg some (by kernel_rfl))
 f320:=func257.trans (congrArg some (by kernel_rfl))
 f321:=func259.trans (congrArg some (by kernel_rfl))
 f322:=func260.trans (congrArg some (by kernel_rfl))
 f337:=func261.trans (congrArg some (by kernel_rfl))
 f338:=func262.trans (congrArg some (by kernel_rfl))
 t0:=underlying0
 a0:=Tryz.isAgg0
 z0:=Tryz.sizeOf0
 v0:=Tryz.zeroValue0
 t2:=underlying2
 a2:=Tryz.isAgg2
 z2:=Tryz.sizeOf2
 v2:=Tryz.zeroValue2
 t3:=underlying3
 a3:=Tryz.isAgg3
 z3:=Tryz.sizeOf3
 v3:=Tryz.zeroValue3
 t4:=underlying4
 a4:=Tryz.isAgg4
 z4:=Tryz.sizeOf4
 v4:=Tryz.zeroValue4
 t5:=underlying5
 a5:=Tryz.isAgg5
 z5:=Tryz.sizeOf5
 v5:=Tryz.zeroValue5
 t9:=underlying9
 a9:=Tryz.isAgg9
 z9:=Tryz.sizeOf9
 v9:=Tryz.zeroValue9
 t20:=underlying20
 a20:=Tryz.isAgg20
 z20:=Tryz.sizeOf20
 v20:=Tryz.zeroValue20
 t21:=underlying21
 a21:=Tryz.isAgg21
 z21:=Tryz.sizeOf21
 v21:=Tryz.zeroValue21
 t37:=underlying22
 a37:=Tryz.isAgg22
 z37:=Tryz.sizeOf22
 v37:=Tryz.zeroValue22
 t46:=underlying173
 a46:=Tryz.isAgg173
 z46:=Tryz.sizeOf173
 v46:=Tryz.zeroValue173
 t51:=underlying229
 a51:=Tryz.isAgg229
 z51:=Tryz.sizeOf229
 v51:=Tryz.zeroValue229
 t53:=underlying214
 a53:=Tryz.isAgg214
 z53:=Tryz.sizeOf214
 v53:=Tryz.zeroValue214
 t75:=underlying187
 a75:=Tryz.isAgg187
 z75:=Tryz.sizeOf187
 v75:=Tryz.zeroValue187
 t76:=underlying188
 a76:=Tryz.isAgg188
 z76:=Tryz.sizeOf188
 v76:=Tryz.zeroValue188
 t85:=underlying208
 a85:=Tryz.isAgg208
 z85:=Tryz.sizeOf208
 v85:=Tryz.zeroValue208
 t127:=underlying234
 a127:=Tryz.isAgg234
 z127:=Tryz.sizeOf234
 v127:=Tryz.zeroValue234
 t143:=underlying235
 a143:=Tryz.isAgg235
 z143:=Tryz.sizeOf235
 v143:=Tryz.zeroValue235
 t145:=underlying237
 a145:=Tryz.isAgg237
 z145:=Tryz.sizeOf237
 v145:=Tryz.zeroValue237
 t167:=underlying207
 a167:=Tryz.isAgg207
 z167:=Tryz.sizeOf207
 v167:=Tryz.zeroValue207
 t168:=underlying210
 a168:=Tryz.isAgg210
 z168:=Tryz.sizeOf210
 v168:=Tryz.zeroValue210
 t171:=underlying213
 a171:=Tryz.isAgg213
 z171:=Tryz.sizeOf213
 v171:=Tryz.zeroValue213
 t173:=underlying217
 a173:=Tryz.isAgg217
 z173:=Tryz.sizeOf217
 v173:=Tryz.zeroValue217
 t175:=underlying220
 a175:=Tryz.isAgg220
 z175:=Tryz.sizeOf220
 v175:=Tryz.zeroValue220
 t210:=underlying224
 a210:=Tryz.isAgg224
 z210:=Tryz.sizeOf224
 v210:=Tryz.zeroValue224
 t212:=underlying228
 a212:=Tryz.isAgg228
 z212:=Tryz.sizeOf228
 v212:=Tryz.zeroValue228
 t213:=underlying230
 a213:=Tryz.isAgg230
 z213:=Tryz.sizeOf230
 t232:=underlying239
 a232:=Tryz.isAgg239
 z232:=Tryz.sizeOf239
 v232:=Tryz.zeroValue239
 t233:=underlying240
 a233:=Tryz.isAgg240
 z233:=Tryz.sizeOf240
 v233:=Tryz.zeroValue240
 g15:=by kernel_rfl
 g16:=by kernel_rfl
 g17:=by kernel_rfl
 g18:=by kernel_rfl
 g19:=by kernel_rfl
 t80:=underlying243
 a80:=Tryz.isAgg243
 z80:=Tryz.sizeOf243
 v80:=Tryz.zeroValue243
 i0:=by kernel_rfl
 i2:=by kernel_rfl
 i3:=by kernel_rfl
 i4:=by kernel_rfl
 i5:=by kernel_rfl
 i9:=by kernel_rfl
 i20:=by kernel_rfl
 i21:=by kernel_rfl
 i37:=by kernel_rfl
 i46:=by kernel_rfl
 i51:=by kernel_rfl
 i53:=by kernel_rfl
 i75:=by kernel_rfl
 i76:=by kernel_rfl
 i80:=by kernel_rfl
 i85:=by kernel_rfl
 i127:=by kernel_rfl
 i143:=by kernel_rfl
 i145:=by kernel_rfl
 i167:=by kernel_rfl
 i168:=by kernel_rfl
 i171:=by kernel_rfl
 i173:=by kernel_rfl
 i175:=by kernel_rfl
 i210:=by kernel_rfl
 i212:=by kernel_rfl
 i232:=by kernel_rfl
 i233:=by kernel_rfl
 m15:=by kernel_rfl
 m16:=by kernel_rfl
 m17:=by kernel_rfl
 m18:=by kernel_rfl
 m19:=by kernel_rfl
 c0:=by kernel_rfl
 c2:=by kernel_rfl
 c3:=by kernel_rfl
 c4:=by kernel_rfl
 c5:=by kernel_rfl
 c9:=by kernel_rfl
 c20:=by kernel_rfl
 c21:=by kernel_rfl
 c37:=by kernel_rfl
 c46:=by kernel_rfl
 c51:=by kernel_rfl
 c53:=by kernel_rfl
 c75:=by kernel_rfl
 c76:=by kernel_rfl
 c80:=by kernel_rfl
 c85:=by kernel_rfl
 c127:=by kernel_rfl
 c143:=by kernel_rfl
 c145:=by kernel_rfl
 c167:=by kernel_rfl
 c168:=by kernel_rfl
 c171:=by kernel_rfl
 c173:=by kernel_rfl
 c175:=by kernel_rfl
 c210:=by kernel_rfl
 c212:=by kernel_rfl
 c213:=by kernel_rfl
 c232:=by kernel_rfl
 c233:=by kernel_rfl}
open Go.RowKit in
theorem Tryz.strconv_Atoi_err_var(s:ByteArray)(hl:s.size<=18)(h:Lib.atoi s.data.toList=none)(tp:TypeId)(p:Value)(w:World)(hvar:w.var? prog "strconv.ErrSyntax" =some #[.iface tp p]):
 Calls prog 213 #[.string s] w fun e w'=>∃N,e=.returned (.tuple #[.int .i64 0,.iface 210 (.pointer (some ⟨N,0,none⟩))])/\w.heap.size<=N/\w'.heap[N]? =some (.cells #[.string ⟨#[65,116,111,105]⟩,.string s,.iface tp p] 224 (0,0))/\Below w.heap.size w w':=Any.strconv_Atoi_err_var Tryz.laysC172 s hl h tp p w hvar
end Go.Proofs
namespace Go.Ab
theorem NZ{w w':World}{σ:Nat->Nat}(hl:∀b,b<w.heap.size\/σ b=0)(h:Go.RowKit.Below w.heap.size w w'):Grow w σ w' σ:=
 ⟨h.size,h.os,h.output,fun b hb=>⟨h.block b hb,rfl⟩,fun b=>(hl b).elim (fun x=>.inl (Nat.lt_of_lt_of_le x h.size)) .inr⟩
theorem aaf{x y z:V}{vs:List Value}{w:World}{σ:Nat->Nat}{S:Store}{β:Hs}(h:nZ w σ S β [x,y,z] vs):∃u v t,vs=[u,v,t]/\cB w σ S β x u/\cB w σ S β y v/\cB w σ S β z t:=by
 obtain⟨hl,h⟩:=h;obtain⟨u,e0,h0⟩:=h 0 x rfl;obtain⟨v,e1,h1⟩:=h 1 y rfl;obtain⟨t,e2,h2⟩:=h 2 z rfl
 match vs,hl,e0,e1,e2 with
 |[a,b,c],_,e0,e1,e2=>simp at e0 e1 e2;subst e0;subst e1;subst e2;exact⟨_,_,_,rfl,h0,h1,h2⟩
theorem Xx(n:Int)(h0: -9223372036854775808<=n)(h1:n<=9223372036854775807)(w:World)(htab:Lib.TabIs prog w "internal/strconv.uint64pow10" .u64 Lib.pow10Tab):
 Calls prog 198 #[.int .i64 n] w fun e w'=>e=.returned (.string ⟨(Lib.itoa n).toArray⟩)/\Go.RowKit.Below w.heap.size w w':=
 (Tryz.strconv_Itoa n h0 h1 w htab).mono fun e w' ⟨he,k,os,hw⟩=>⟨he,by
   subst hw
   exact⟨rfl,rfl,rfl,by show w.heap.size<=(w.heap++os).size;simp,fun b hb=>by show(w.heap++os)[b]? =_;rw[Array.getElem?_append_left hb]⟩⟩
theorem Tv(s:List UInt8)(hs:s.length<=18)(tp:TypeId)(p:Value)(w:World)(htab:Lib.TabIs prog w "internal/strconv.uint64pow10" .u64 Lib.pow10Tab)(hvar:w.var? prog "strconv.ErrSyntax" =some #[.iface tp p]):
 Calls prog 186 #[.string ⟨s.toArray⟩,.int .i64 (-999999999999),.int .i64 999999999999] w fun e w'=>e=.returned (.tuple #[.int .i64 ((fK s).getD 0),.bool (fK s).isSome])/\Go.RowKit.Below w.heap.size w w':=by
 have hsz:(⟨s.toArray⟩:ByteArray).size<=18:=by show s.toArray.size<=18;simpa using hs
 cases h:Lib.atoi s with
 |none=>
  have hc:=Tryz.strconv_Atoi_err_var ⟨s.toArray⟩ hsz (by simpa using h) tp p w hvar
  have yC:fK s=none:=by unfold fK;rw[h]
  rw[yC];clear hsz
  go_enter func186,ntmps186
  go_wp2_with (go_at_call 213;refine hc.mono ?_;rintro e W1 ⟨N,rfl,-,-,hb⟩)
  go_ret2
  exact⟨rfl,hb⟩
 |some n=>
  have hbd:=Lib.atoi_bound h hs;have hc:=Tryz.strconv_Atoi ⟨s.toArray⟩ n hsz (by simpa using h) w
  have yC:fK s=if(-999999999999<=n/\n<=999999999999)/\Lib.itoa n=s then some n else none:=by unfold fK;rw[h]
  have hc':Calls prog 213 #[.string ⟨s.toArray⟩] w fun e w'=>e=.returned (.tuple #[.int .i64 n,.nilIface])/\Go.RowKit.Below w.heap.size w w':=hc.mono fun e w' ⟨he,t,hw⟩=>⟨he,by rw[hw];exact Lib.bytesWorld_below _ _ _⟩
  have hi:∀W1,Go.RowKit.Below w.heap.size w W1->Calls prog 198 #[.int .i64 n] W1 fun e w'=>e=.returned (.string ⟨(Lib.itoa n).toArray⟩)/\Go.RowKit.Below w.heap.size w w':=fun W1 hw=>
   (Xx n (by omega) (by omega) _ ((Lib.tabBelow_of_tabIs htab).on hw).here).mono fun e w' ⟨he,hb⟩=>⟨he,hw.trans (hb.mono hw.size)⟩
  clear hsz h hc
  go_enter func186,ntmps186
  go_wp2_with (first|(go_at_call 213;refine hc'.mono ?_;rintro e W1 ⟨rfl,hb1⟩)|(go_at_call 198;refine(hi _ hb1).mono ?_;rintro e W2 ⟨rfl,hb2⟩))
  all_goals go_ret2
  all_goals first
   |(exfalso;omega)
   |exact⟨rfl,hb2⟩
   |exact⟨rfl,hb1⟩
   |(rw[yC,if_pos ⟨⟨by omega,by omega⟩,by simp_all;done⟩];exact⟨rfl,hb2⟩)
   |(rw[yC,if_neg (by rintro⟨hc,_⟩;omega)];exact⟨rfl,hb1⟩)
   |(rw[yC,if_neg (by rintro⟨_,hc⟩;simp[hc] at *;omega)];exact⟨rfl,hb2⟩)
   |(rw[yC,if_neg (by rintro⟨_,hc⟩;simp_all;done)];exact⟨rfl,hb2⟩)
   |trace_state
theorem N7{w:World}{σ:Nat->Nat}(h:Br w σ):∃tp p,w.var? prog "strconv.ErrSyntax" =some #[.iface tp p]:=by
 obtain⟨c,t,fz,q1,q2,q3⟩:=h 0 (fun l=>∃te pe,l=[Value.iface te pe]) (List.mem_cons_of_mem _ (List.mem_cons_of_mem _ (List.mem_cons_self ..)));obtain⟨te,pe,e⟩:=q2
 have hn:prog.globalNamed "strconv.ErrSyntax" =some 0:=by kernel_rfl
 refine⟨te,pe,?_⟩;unfold World.var?;rw[hn];simp only[Option.bind_some,q1,Option.some.injEq];exact Array.ext' e
theorem Ma(s:List UInt8)(hs:s.length<=18):aJ prog 186 [.c (.d (.s s)),.c (.d (.i .i64 (-999999999999))),.c (.d (.i .i64 999999999999))] (.eU [(false,[.d (.i .i64 ((fK s).getD 0))]),(false,[.d (.b (fK s).isSome)])]):=fun S=>by
 refine⟨⟨_,func186,by kernel_rfl,by kernel_rfl⟩,fun w σ β vs hS hv=> ?_⟩;obtain⟨u,v,t,rfl,⟨hu,_⟩,⟨hv,_⟩,⟨ht,_⟩⟩:=aaf hv
 have hu0:u=.string ⟨s.toArray⟩:=by cases hu;rfl
 have hv0:v=.int .i64 (-999999999999):=by cases hv;rfl
 have ht0:t=.int .i64 999999999999:=by cases ht;rfl
 subst hu0 hv0 ht0;obtain⟨tp,p,hvar⟩:=N7 hS.rH;refine(Tv s hs tp p w (MX hS.rH) hvar).mono fun e w' ⟨he,hb⟩=> ?_;have hg:Grow w σ w' σ:=NZ hS.live hb
 exact⟨_,.eU [(false,[.d (.i .i64 ((fK s).getD 0))]),(false,[.d (.b (fK s).isSome)])],S,σ,β,he,hS.grow hg,Keep.refl _ _,Step.mR hg,⟨_,rfl,rfl,fun j y hy=>by
  match j,hy with
  |0,hy=>simp at hy;subst hy;exact⟨_,rfl,_,rfl,.i _ _,rfl⟩
  |1,hy=>simp at hy;subst hy;exact⟨_,rfl,_,rfl,.b _,rfl⟩
  |j+2,hy=>simp at hy⟩,rfl,rfl⟩
theorem K5(s:List UInt8)(hs:s.length<=18):aJ prog 132 [.c (.d (.s s))] (.eU [(false,[.d (.i .i64 ((fK s).getD 0))]),(false,[.d (.b (fK s).isSome)])]):=fun S=>by
 refine zcx [.tmp 2,.tmp 3] func132 ntmps132 ?_;simp -implicitDefEqProofs (disch:=omega) only[go_sem];refine aA (Ma s hs) ?_;simp -implicitDefEqProofs (disch:=omega) only[go_sem]<;>(repeat(with_reducible refine And.intro ?_ ?_;focus first|omega|rfl|assumption|exact⟨_,rfl,rfl⟩|(simp;omega)|(simp;done)))
theorem zB{l:List ah}(h2:2<=l.length)(h:dA l 0=gP->3<=l.length):uD true l:=fun e=>by
 rcases e.2 with e|e
 ·omega
 ·have:=h e.1;omega
theorem Nv{x:ah}(h:je x=true)(ha:x.aU=[]):jf x.aj=true:=by rw[Aj,if_pos ha] at h;exact h
theorem aag{x:ah}(h:je x=true)(ha:x.aU≠[]):x.aU.length<=18:=by
 rw[Aj,if_neg ha,Bool.and_eq_true] at h;have h1:=h.1;unfold validAtom at h1;rw[Bool.and_eq_true,decide_eq_true_eq] at h1;omega
theorem FV{x:ah}(h:je x=true)(ha:x.aj≠[]):jf x.aj=true:=by
 by_cases e:x.aU=[]
 ·exact Nv h e
 ·rw[Aj,if_neg e,Bool.and_eq_true,decide_eq_true_eq] at h;exact absurd (List.eq_nil_of_length_eq_zero h.2) ha
theorem ma0{x:aP}{n:Nat}(h:x=.mk [] [] qX):Less (.agg [.d (.s []),.bE [],.d (.i .i64 0),.d (.s []),.d (.s []),.d (.i .i64 0),.d (.i .i64 0),.d (.s []),.bE [],.bE [],.bE []]) (x.vl n):=by
 rw[h];exact(eY.cons (.refl _) (.cons (fJ _) (.cons (.refl _) (.cons (.refl _) (.cons (.refl _) (.cons (.refl _) (.cons (.refl _) (.cons (.refl _) (.cons (fJ _) (.cons (fJ _) (.cons (fJ _) .nil))))))))))).less
theorem FW:∀N:Nat,(∀x:ah,SizeOf.sizeOf x<N->∀n:Nat,je x=true->x.sz<=4194304->aJ prog 60 [x.v] ((dU true x).vl n))/\
 (∀xs:List ah,SizeOf.sizeOf xs<N->∀n q:Nat,jf xs=true->xs.length<=4194304->(∀t∈xs,t.sz<=4194304)->aJ prog 133 [.c (.d (.sl (xs.map ah.enc)))] (.c (.d (.ol n (lE (xs.map (dU true)) q)))))/\
 (∀x:ah,SizeOf.sizeOf x<N->∀n:Nat,je x=true->x.sz<=4194304->aJ prog 134 [x.v] ((nX true x).vl n))
 |0=>⟨fun x h=>by omega,fun x h=>by omega,fun x h=>by omega⟩
 |N+1=>by
  obtain⟨ih,nJ,ihM⟩:=FW N;refine⟨fun x hn n hfo hsz=>aJ.of_le fun S=> ?_,fun xs hn n q hfo hlen hsz S=> ?_,fun x hn n hfo hsz=>aJ.of_le fun S=> ?_⟩
  ·have jA:=ah.pW x;have h1:=iL x;have h2:=DX x
   have hall:∀t∈x.aj,t.sz<=4194304:=fun t ht=>by have:=jP ht;omega
   have hr:=gW (l:=x.aj);have hso:=fun i=>xR i x.aj
   have hdl:∀i,(x.aj.drop i).length<=4194304:=fun i=>by rw[List.length_drop];omega
   have hda:∀i,∀t∈x.aj.drop i,t.sz<=4194304:=fun i t ht=>hall t (List.mem_of_mem_drop ht);have hdd:=qy x.aj x.aj.length 1 (Nat.le_refl _);refine lN (n) (rs:=[.cell 2 33]) zmx func60 ntmps60 rfl rfl rfl rfl rfl ?_;simp -implicitDefEqProofs (disch:=omega) only[go_sem]
   with_reducible refine aD (fun hb=> ?_) (fun hb=> ?_)<;>have h:=hb<;>(try simp only[wf_preprocess] at h)<;>simp -implicitDefEqProofs (disch:=omega) only[go_sem,hb]<;>(repeat(with_reducible refine And.intro ?_ ?_;focus first|omega|rfl|assumption|exact⟨_,rfl,rfl⟩|(simp;omega)|(simp;done)))
   ·have hne:=h;refine aA (K5 x.aU (aag hfo hne)) ?_
    cases yC:fK x.aU with
    |some m=>
     simp -implicitDefEqProofs (disch:=omega) only[go_sem,Option.getD_some,Option.isSome_some];exact Uv (Rk hne yC)
    |none=>
     simp -implicitDefEqProofs (disch:=omega) only[go_sem,Option.getD_none,Option.isSome_none]
     with_reducible refine aD (fun hb=> ?_) (fun hb=> ?_)<;>have h:=hb<;>(try simp only[wf_preprocess] at h)<;>simp -implicitDefEqProofs (disch:=omega) only[go_sem,hb]<;>(repeat(with_reducible refine And.intro ?_ ?_;focus first|omega|rfl|assumption|exact⟨_,rfl,rfl⟩|(simp;omega)|(simp;done)))
     ·exact Uv (Nt hne yC h)
     have k1:=h
     with_reducible refine aD (fun hb=> ?_) (fun hb=> ?_)<;>have h:=hb<;>(try simp only[wf_preprocess] at h)<;>simp -implicitDefEqProofs (disch:=omega) only[go_sem,hb]<;>(repeat(with_reducible refine And.intro ?_ ?_;focus first|omega|rfl|assumption|exact⟨_,rfl,rfl⟩|(simp;omega)|(simp;done)))
     ·exact Uv (K4 hne yC k1 h)
     have k2:=h;exact Uv (Rl hne yC k1 k2)
   have ha:=h;have hfs:=Nv hfo ha
   with_reducible refine aD (fun hb=> ?_) (fun hb=> ?_)<;>have h:=hb<;>(try simp only[wf_preprocess] at h)<;>simp -implicitDefEqProofs (disch:=omega) only[go_sem,hb]<;>(repeat(with_reducible refine And.intro ?_ ?_;focus first|omega|rfl|assumption|exact⟨_,rfl,rfl⟩|(simp;omega)|(simp;done)))
   ·exact Uv (Ns ha fun e=>e ⟨rfl,.inl (by omega)⟩)
   have hl2:2<=x.aj.length:=by omega
   have a0:=mX (l:=x.aj) (i:=0) (by omega);obtain⟨m,hm⟩:∃m,m=x.aj.drop 1:=⟨_,rfl⟩
   have hml:m.length=x.aj.length-1:=by rw[hm,List.length_drop]
   have hmi:∀i (hi:i<m.length),m[i]=x.aj[i+1]'(by omega):=fun i hi=>by simp only[hm,List.getElem_drop,Nat.add_comm 1 i]
   have hrm:=gW (l:=m)
   have hmd:∀i,m.drop i=x.aj.drop (i+1):=fun i=>by rw[hm,List.drop_drop,Nat.add_comm 1 i]
   have hme:=fun i=>qy m m.length i (Nat.le_refl _)
   have b1:dA x.aj 1=(m[0]'(by omega)).aU:=by rw[hmi 0 (by omega),mX (by omega)]
   refine⟨⟨by omega,by omega,hr⟩,?_⟩;rw[hdd,<-hm];simp only[<-a0]
   with_reducible refine aD (fun hb=> ?_) (fun hb=> ?_)<;>have h:=hb<;>(try simp only[wf_preprocess] at h)<;>simp -implicitDefEqProofs (disch:=omega) only[go_sem,hb]<;>(repeat(with_reducible refine And.intro ?_ ?_;focus first|omega|rfl|assumption|exact⟨_,rfl,rfl⟩|(simp;omega)|(simp;done)))
   ·have hg:=zB hl2 fun e=>by rw[h] at e;exact absurd e (by decide)
    have hdec:=Nn ha hg h
    (repeat(with_reducible refine And.intro ?_ ?_;focus first|omega|rfl|assumption|exact⟨_,rfl,rfl⟩|(simp;omega)|(simp;done)))
    refine⟨⟨by omega,by omega,hrm⟩,?_⟩;rw[hme,hmd,<-b1];refine aA (nJ (x.aj.drop 2) (by have:=hso 2;omega) (n+1) (n+1+1) (oP hfs 2) (hdl 2) (hda 2)) ?_;simp -implicitDefEqProofs (disch:=omega) only[go_sem];exact Rn hdec
   have Xt:=h
   with_reducible refine aD (fun hb=> ?_) (fun hb=> ?_)<;>have h:=hb<;>(try simp only[wf_preprocess] at h)<;>simp -implicitDefEqProofs (disch:=omega) only[go_sem,hb]<;>(repeat(with_reducible refine And.intro ?_ ?_;focus first|omega|rfl|assumption|exact⟨_,rfl,rfl⟩|(simp;omega)|(simp;done)))
   ·have hg:=zB hl2 fun e=>by rw[h] at e;exact absurd e (by decide)
    have hdec:=Rh ha hg h
    (repeat(with_reducible refine And.intro ?_ ?_;focus first|omega|rfl|assumption|exact⟨_,rfl,rfl⟩|(simp;omega)|(simp;done)))
    refine⟨⟨by omega,by omega,hrm⟩,?_⟩;rw[hme,hmd,<-b1];refine aA (nJ (x.aj.drop 2) (by have:=hso 2;omega) (n+1) (n+1+1) (oP hfs 2) (hdl 2) (hda 2)) ?_;simp -implicitDefEqProofs (disch:=omega) only[go_sem];exact Rn hdec
   have nNew:=h
   with_reducible refine aD (fun hb=> ?_) (fun hb=> ?_)<;>have h:=hb<;>(try simp only[wf_preprocess] at h)<;>simp -implicitDefEqProofs (disch:=omega) only[go_sem,hb]<;>(repeat(with_reducible refine And.intro ?_ ?_;focus first|omega|rfl|assumption|exact⟨_,rfl,rfl⟩|(simp;omega)|(simp;done)))
   ·have hg:=zB hl2 fun e=>by rw[h] at e;exact absurd e (by decide)
    have hdec:=Ri ha hg h
    (repeat(with_reducible refine And.intro ?_ ?_;focus first|omega|rfl|assumption|exact⟨_,rfl,rfl⟩|(simp;omega)|(simp;done)))
    refine⟨⟨by omega,by omega,hrm⟩,?_⟩;rw[hme,hmd,<-b1];refine aA (nJ (x.aj.drop 2) (by have:=hso 2;omega) (n+1) (n+1+1) (oP hfs 2) (hdl 2) (hda 2)) ?_;simp -implicitDefEqProofs (disch:=omega) only[go_sem];exact Rn hdec
   have adj:=h
   with_reducible refine aD (fun hb=> ?_) (fun hb=> ?_)<;>have h:=hb<;>(try simp only[wf_preprocess] at h)<;>simp -implicitDefEqProofs (disch:=omega) only[go_sem,hb]<;>(repeat(with_reducible refine And.intro ?_ ?_;focus first|omega|rfl|assumption|exact⟨_,rfl,rfl⟩|(simp;omega)|(simp;done)))
   ·have hg:=zB hl2 fun e=>by rw[h] at e;exact absurd e (by decide)
    have hdec:=Np ha hg h
    (repeat(with_reducible refine And.intro ?_ ?_;focus first|omega|rfl|assumption|exact⟨_,rfl,rfl⟩|(simp;omega)|(simp;done)))
    refine⟨⟨by omega,by omega,hrm⟩,?_⟩;rw[hme,hmd,<-b1];refine aA (nJ (x.aj.drop 2) (by have:=hso 2;omega) (n+1) (n+1+1) (oP hfs 2) (hdl 2) (hda 2)) ?_;simp -implicitDefEqProofs (disch:=omega) only[go_sem];exact Rn hdec
   have Xu:=h
   with_reducible refine aD (fun hb=> ?_) (fun hb=> ?_)<;>have h:=hb<;>(try simp only[wf_preprocess] at h)<;>simp -implicitDefEqProofs (disch:=omega) only[go_sem,hb]<;>(repeat(with_reducible refine And.intro ?_ ?_;focus first|omega|rfl|assumption|exact⟨_,rfl,rfl⟩|(simp;omega)|(simp;done)))
   ·have hM:=h
    with_reducible refine aD (fun hb=> ?_) (fun hb=> ?_)<;>have h:=hb<;>(try simp only[wf_preprocess] at h)<;>simp -implicitDefEqProofs (disch:=omega) only[go_sem,hb]<;>(repeat(with_reducible refine And.intro ?_ ?_;focus first|omega|rfl|assumption|exact⟨_,rfl,rfl⟩|(simp;omega)|(simp;done)))
    ·exact Uv (Ns ha fun e=>e ⟨rfl,.inr ⟨hM,by omega⟩⟩)
    have hl3:3<=x.aj.length:=by omega
    have hg:=zB hl2 fun _=>hl3;have hdec:=Ia ha hg hM
    have b2:dA x.aj 2=(m[1]'(by omega)).aU:=by rw[hmi 1 (by omega),mX (by omega)]
    (repeat(with_reducible refine And.intro ?_ ?_;focus first|omega|rfl|assumption|exact⟨_,rfl,rfl⟩|(simp;omega)|(simp;done)))
    refine⟨⟨by omega,by omega,hrm⟩,?_⟩;rw[hme,hmd,<-b1,<-b2];refine aA (nJ (x.aj.drop 3) (by have:=hso 3;omega) (n+1) (n+1+1) (oP hfs 3) (hdl 3) (hda 3)) ?_;simp -implicitDefEqProofs (disch:=omega) only[go_sem];exact Rn hdec
   have Gz:=h;have hg:=zB hl2 fun e=>(Gz e).elim
   with_reducible refine aD (fun hb=> ?_) (fun hb=> ?_)<;>have h:=hb<;>(try simp only[wf_preprocess] at h)<;>simp -implicitDefEqProofs (disch:=omega) only[go_sem,hb]<;>(repeat(with_reducible refine And.intro ?_ ?_;focus first|omega|rfl|assumption|exact⟨_,rfl,rfl⟩|(simp;omega)|(simp;done)))
   ·have hdec:=Uu ha hg h;rw[hm];refine aA (nJ (x.aj.drop 1) (by have:=hso 1;omega) (n+1) (n+1+1) (oP hfs 1) (hdl 1) (hda 1)) ?_;simp -implicitDefEqProofs (disch:=omega) only[go_sem];exact Rn hdec
   have nIf:=h
   with_reducible refine aD (fun hb=> ?_) (fun hb=> ?_)<;>have h:=hb<;>(try simp only[wf_preprocess] at h)<;>simp -implicitDefEqProofs (disch:=omega) only[go_sem,hb]<;>(repeat(with_reducible refine And.intro ?_ ?_;focus first|omega|rfl|assumption|exact⟨_,rfl,rfl⟩|(simp;omega)|(simp;done)))
   ·have hdec:=Rj ha hg h
    have g1:x.aj.getD 1 eH=m[0]'(by omega):=by rw[hmi 0 (by omega),List.getD_eq_getElem?_getD,List.getElem?_eq_getElem (by omega)];rfl
    have gz:=Ay x 1 hsz;rw[g1] at hdec gz
    (repeat(with_reducible refine And.intro ?_ ?_;focus first|omega|rfl|assumption|exact⟨_,rfl,rfl⟩|(simp;omega)|(simp;done)))
    refine aA (uz m[0] n gz) ?_;simp -implicitDefEqProofs (disch:=omega) only[go_sem];refine⟨⟨by omega,by omega,hrm⟩,?_⟩;rw[hme,hmd];refine aA (nJ (x.aj.drop 2) (by have:=hso 2;omega) (n+(gK (eB true m[0]).fArgs+1)) (n+(gK (eB true m[0]).fArgs+1)+1) (oP hfs 2) (hdl 2) (hda 2)) ?_;simp -implicitDefEqProofs (disch:=omega) only[go_sem];exact ie2 hdec
   have nThe:=h
   with_reducible refine aD (fun hb=> ?_) (fun hb=> ?_)<;>have h:=hb<;>(try simp only[wf_preprocess] at h)<;>simp -implicitDefEqProofs (disch:=omega) only[go_sem,hb]<;>(repeat(with_reducible refine And.intro ?_ ?_;focus first|omega|rfl|assumption|exact⟨_,rfl,rfl⟩|(simp;omega)|(simp;done)))
   ·have hdec:=Nq ha hg h;refine⟨⟨by omega,hrm⟩,?_⟩;rw[<-List.map_take];refine aA (nJ (m.take 1) (by have:=hso 1;have:=BN 1 m;rw[hm] at this ⊢;omega) (n+1) (n+1+1) (aae (by rw[hm];exact oP hfs 1) 1) (by rw[List.length_take];omega) (fun t ht=>hda 1 t (by rw[<-hm];exact List.mem_of_mem_take ht))) ?_;simp -implicitDefEqProofs (disch:=omega) only[go_sem];refine⟨⟨by omega,by omega,hrm⟩,?_⟩;rw[hme,hmd];obtain⟨vP,Xv⟩:∃vP,vP=(m.take 1).map (dU true):=⟨_,rfl⟩;obtain⟨r,hrr⟩:∃r,r=x.aj.drop 2:=⟨_,rfl⟩
    have hrl:r.length=x.aj.length-2:=by rw[hrr,List.length_drop]
    have hrs:∀t∈r,t.sz<=4194304/\SizeOf.sizeOf t<N/\je t=true:=fun t ht=>by
     rw[hrr] at ht;have h5:=List.mem_of_mem_drop ht;have:=List.sizeOf_lt_of_mem h5;exact⟨hda 2 t ht,by omega,uM hfs h5⟩
    obtain⟨q,hq⟩:∃q,q=n+1+(mZ vP+1):=⟨_,rfl⟩;obtain⟨L,hL⟩:∃L:Nat->Nat,L=fun k=>q+1+Xp ((r.map (nX true)).take k):=⟨_,rfl⟩;obtain⟨T,hT⟩:∃T:Nat->List (List D),T=fun k=>lM ((r.map (nX true)).take k) (q+1):=⟨_,rfl⟩
    have hT0:T 0=[]:=by rw[hT];rfl
    have lF:∀k,(T k).length<=k:=fun k=>by rw[hT];simp only[Z9];exact List.length_take_le _ _
    have hTs:∀k (hk:k<r.length),T k++[dW (nX true r[k]).enc (L k)]=T (k+1):=fun k hk=>by
     have:=afr (l:=r.map (nX true)) (i:=k) (by rw[List.length_map];exact hk) (q+1);rw[List.getElem_map] at this;rw[hT,hL];exact this
    have hTe:T r.length=lM (r.map (nX true)) (q+1):=by
     rw[hT];simp only
     rw[List.take_of_length_le (by simp)]
    clear hT hL;rw[<-hm,<-Xv,<-hrr] at hdec;rw[<-Xv,<-hrr];simp -implicitDefEqProofs (disch:=omega) only[go_sem];refine zn q 3 8 11 _ rfl rfl ?_
    refine bF (ι:=Nat) zmx rfl [2,7,127,128,129] (fun k=>[.c (.ptr (0,2) 0),.c (.ptr (0,3) 0),.c (.d (.sl (r.map ah.enc))),.c (.d (.i .i64 r.length)),.c (.d (.i .i64 k))])
     (fun k=>[.seed n,.box [.d (.s x.aU),.d (.sl (x.aj.map ah.enc))],.box [.d (.i .i64 0),.d (.s []),.d (.s []),.d (.i .i64 0),.d (.i .i64 0),.d (.s []),.bE [],.bE [],.bE []],
       .box [.d (.i .i64 7),.d (.s []),.d (.s []),.d (.i .i64 0),.d (.i .i64 0),.d (.s []),.bE [],.d (.ol (n+1) (lE vP (n+1+1))),.bK (0,4) (T k)],.dY q 11 (T k)]::S)
     (fun k=>k<=r.length) (fun k=>r.length-k) 0 rfl (by rw[hT0];rfl) (Nat.zero_le _) ?_
    intro k hk;have hlk:=lF k;simp -implicitDefEqProofs (disch:=omega) only[go_sem]
    with_reducible refine aD (fun hb=> ?_) (fun hb=> ?_)<;>have h:=hb<;>(try simp only[wf_preprocess] at h)<;>simp -implicitDefEqProofs (disch:=omega) only[go_sem,hb]<;>(repeat(with_reducible refine And.intro ?_ ?_;focus first|omega|rfl|assumption|exact⟨_,rfl,rfl⟩|(simp;omega)|(simp;done)))
    ·have hk':k<r.length:=by omega
     have hmm:=hrs _ (List.getElem_mem hk');have hs:=hTs k hk';simp only[adi,Rm,List.cons_append,List.nil_append] at hs
     (repeat(with_reducible refine And.intro ?_ ?_;focus first|omega|rfl|assumption|exact⟨_,rfl,rfl⟩|(simp;omega)|(simp;done)))
     refine aA (ihM r[k] hmm.2.1 (L k) hmm.2.2 hmm.1) ?_;simp -implicitDefEqProofs (disch:=omega) only[go_sem]
     (repeat(with_reducible refine And.intro ?_ ?_;focus first|omega|rfl|assumption|exact⟨_,rfl,rfl⟩|(simp;omega)|(simp;done)))
     rw[hs];exact dO 5 (by decide) (k+1) (by omega) rfl rfl rfl rfl (by omega)
    ·have hk':k=r.length:=by omega
     rw[hk',hTe,hq];exact ie3 hdec
   have Xw:=h;have hdec:=Nr ha hg Xt nNew adj Xu Gz nIf nThe Xw;rw[hm];refine aA (nJ (x.aj.drop 1) (by have:=hso 1;omega) (n+1) (n+1+1) (oP hfs 1) (hdl 1) (hda 1)) ?_;simp -implicitDefEqProofs (disch:=omega) only[go_sem];exact Rn hdec
  ·have zm:=fun(i:Nat) (hi:i<xs.length)=>afq (l:=xs.map (dU true)) (i:=i) (by rw[List.length_map];exact hi) q;refine lN (n) (rs:=[.tmp 2]) zmx func133 ntmps133 rfl rfl rfl rfl rfl ?_;simp -implicitDefEqProofs (disch:=omega) only[go_sem]
   (repeat(with_reducible refine And.intro ?_ ?_;focus first|omega|rfl|assumption|exact⟨_,rfl,rfl⟩|(simp;omega)|(simp;done)))
   refine nQ n 3 9 [] (.inl rfl) (by simp) ?_
   refine bF (ι:=Nat) zmx rfl [3,7,8,9] (fun i=>[.c (.bK (0,1) (lE ((xs.map (dU true)).take i) q)),.c (.d (.sl (xs.map ah.enc))),.c (.d (.i .i64 xs.length)),.c (.d (.i .i64 i))]) (fun i=>[.seed n,.dY n 9 (lE ((xs.map (dU true)).take i) q)]::S)
    (fun i=>i<=xs.length) (fun i=>xs.length-i) 0 rfl rfl (Nat.zero_le _) ?_
   intro i hi;simp -implicitDefEqProofs (disch:=omega) only[go_sem]
   with_reducible refine aD (fun hb=> ?_) (fun hb=> ?_)<;>have h:=hb<;>(try simp only[wf_preprocess] at h)<;>simp -implicitDefEqProofs (disch:=omega) only[go_sem,hb]<;>(repeat(with_reducible refine And.intro ?_ ?_;focus first|omega|rfl|assumption|exact⟨_,rfl,rfl⟩|(simp;omega)|(simp;done)))
   ·have hi':i<xs.length:=by omega
    have hs:=zm i hi';rw[List.getElem_map] at hs;simp only[Rm] at hs
    have hl:(lE ((xs.map (dU true)).take i) q).length<=i:=by rw[Z8];exact List.length_take_le _ _
    (repeat(with_reducible refine And.intro ?_ ?_;focus first|omega|rfl|assumption|exact⟨_,rfl,rfl⟩|(simp;omega)|(simp;done)))
    refine aA (ih xs[i] (by have:=List.sizeOf_lt_of_mem (List.getElem_mem hi');omega) (q+mZ ((xs.map (dU true)).take i)) (uM hfo (List.getElem_mem hi')) (hsz _ (List.getElem_mem hi'))) ?_;simp -implicitDefEqProofs (disch:=omega) only[go_sem]
    (repeat(with_reducible refine And.intro ?_ ?_;focus first|omega|rfl|assumption|exact⟨_,rfl,rfl⟩|(simp;omega)|(simp;done)))
    rw[hs];exact dO 2 (by decide) (i+1) (by omega) rfl rfl rfl rfl (by omega)
   ·have hi':i=(xs.map (dU true)).length:=by rw[List.length_map];omega
    rw[hi',List.take_length]
  ·have jA:=ah.pW x;have h1:=iL x
   have hall:∀t∈x.aj,t.sz<=4194304:=fun t ht=>by have:=jP ht;omega
   have hr:=gW (l:=x.aj);refine zcx [.cell 2 124] func134 ntmps134 ?_;simp -implicitDefEqProofs (disch:=omega) only[go_sem]
   with_reducible refine aD (fun hb=> ?_) (fun hb=> ?_)<;>have h:=hb<;>(try simp only[wf_preprocess] at h)<;>simp -implicitDefEqProofs (disch:=omega) only[go_sem,hb]<;>(repeat(with_reducible refine And.intro ?_ ?_;focus first|omega|rfl|assumption|exact⟨_,rfl,rfl⟩|(simp;omega)|(simp;done)))
   ·exact ma0 (Ut true x (by omega))
   have hl2:2<=x.aj.length:=by omega
   have a0:=mX (l:=x.aj) (i:=0) (by omega);have hm:=List.getElem_mem (l:=x.aj) (n:=x.aj.length-1) (by omega);have hfs:=FV hfo (fun e=>by rw[e] at hl2;simp at hl2);rw[Us true x hl2,a0];refine⟨⟨by omega,by omega,hr⟩,?_⟩;rw[Nu _ hl2];refine aA (Bp ((x.aj.drop 1).dropLast) (by rw[List.length_dropLast,List.length_drop];omega) n) ?_;simp -implicitDefEqProofs (disch:=omega) only[go_sem]
   (repeat(with_reducible refine And.intro ?_ ?_;focus first|omega|rfl|assumption|exact⟨_,rfl,rfl⟩|(simp;omega)|(simp;done)))
   have el:((x.aj.length:Int)-1).toNat=x.aj.length-1:=by omega
   simp only[el];refine aA (ih (x.aj[x.aj.length-1]) (by have:=List.sizeOf_lt_of_mem hm;omega) (n+1) (uM hfs hm) (hall _ hm)) ?_;simp -implicitDefEqProofs (disch:=omega) only[go_sem];exact jL _
theorem Rp(x:ah)(n:Nat)(hf:je x=true)(hsz:x.sz<=4194304):aJ prog 60 [x.v] ((dU true x).vl n):=(FW _).1 x (Nat.lt_succ_self _) n hf hsz
end Go.Ab