/-
  SEVERAL TEXTS IN ONE (merged by program): contracts and models, each with its own heading.
-/
import Derived.Test.YtbaefeecjjhhkaaGreatDoorPartOcbI
import Derived.Lib.MakeNoZero
import Derived.BigCall
import Derived.BigGuard
set_option maxHeartbeats 8000000
open Go.Proofs Go.Proofs.Tryz
set_option linter.unusedSimpArgs false
set_option linter.unusedVariables false
set_option maxRecDepth 100000
namespace Go.Ab
open Go.RowKit
theorem ajE:(prog.info? 5).map (·.size)=some 1:=by kernel_rfl
theorem al4(B b n:Nat)(w:World)(hB:B<=b)(hbk:w.heap[b]? =some (.cells #[.pointer (some ⟨b,0,none⟩),.slice none 0 0] 122 (0,0)))(hBw:B<=w.heap.size)(hn:n<=281474976710656):
 Calls prog 132 #[.pointer (some ⟨b,0,none⟩),.int .i64 n] w fun e w'=>e=.returned (.tuple #[])/\(Lib.BuilderAt 122 5 B b (.pointer (some ⟨b,0,none⟩)) [] w'/\Below B w w'):=by
 obtain⟨cs,hrun,hle,hmax⟩:=Lib.run_makeNoZero (P:=prog) w.drew #[3] 22 5 underlying22 n hn
 have hw:IntKind.i64.wrap (n:Int)=n:=by
  rw[IntKind.wrap_i64];omega
 have hcall:(callFunc 190 #[.int .i64 (IntKind.i64.wrap (n:Int))]).run prog w.drew=.ok (.value (.slice (some ⟨w.drew.heap.size,0,none⟩) n cs.size)) (w.drew.drew.drew.alloc (.cells cs 5)):=by
  rw[hw,run_callFunc_extern func190 (by kernel_rfl) (by kernel_rfl) (by kernel_rfl) (e:=Extern.BytealgMakeNoZero.makeNoZero #[3] #[22]) (by kernel_rfl),hrun];rfl
 have hlt:b<w.heap.size:=lt_of_some hbk
 have c1:w.drew.cell? ⟨b,1,none⟩=some (.slice none 0 0):=by
  have:w.drew.heap[b]? =_:=hbk;rw[Lib.cell_of_heap this];rfl
 have hb2:(w.alloc (.cells cs 5)).heap[b]? =_:=(Lib.alloc_old w _ b hlt).trans hbk
 have c2:(w.alloc (.cells cs 5)).cell? ⟨b,1,none⟩=some (.slice none 0 0):=by rw[Lib.cell_of_heap hb2];rfl
 have f2:(w.alloc (.cells cs 5)).frozen? ⟨b,1,none⟩=false:=Lib.frozen_of_heap hb2 1
 have hcopy:∀W:World,(Builtin.copy_ #[22,22] 3 #[.slice (some ⟨w.heap.size,0,none⟩) 0 cs.size,.slice none 0 0]).run prog W=.ok (goInt 0) W:=
  fun W=>run_copy_none W 22 22 3 5 _ _ 0 cs.size 0 0 underlying22 ajE rfl
 clear hw hb2
 go_enter func132,ntmps132
 go_wp2
 have hfin:=Lib.grown_fresh (T:=122) (e:=5) (cs:=cs) hB hbk hBw (hmax (by unfold maxLen;omega)) (by decide);rw[World.setCell_alloc_past _ _ _ _ hlt] at hfin
 go_region
 all_goals (go_wp2;go_end0;exact⟨rfl,hfin⟩)
theorem anY(B b n:Nat)(w:World)(hB:B<=b)(hbk:w.heap[b]? =some (.cells #[.pointer none,.slice none 0 0] 122 (0,0)))(hBw:B<=w.heap.size)(hn:n<=281474976710656):
 Calls prog 76 #[.pointer (some ⟨b,0,none⟩),.int .i64 n] w fun e w'=>e=.returned (.tuple #[])/\(Lib.BuilderAtF 122 5 B b (.pointer (some ⟨b,0,none⟩)) [] w'/\Below B w w'):=by
 have hbk1:(w.setCell ⟨b,0,none⟩ (.pointer (some ⟨b,0,none⟩))).heap[b]? =some (.cells #[.pointer (some ⟨b,0,none⟩),.slice none 0 0] 122 (0,0)):=by
  simp[World.setCell,Array.getElem?_modify,hbk]
 have c1:(w.setCell ⟨b,0,none⟩ (.pointer (some ⟨b,0,none⟩))).cell? ⟨b,1,none⟩=some (.slice none 0 0):=by rw[Lib.cell_of_heap hbk1];rfl
 have hb1:Below B w (w.setCell ⟨b,0,none⟩ (.pointer (some ⟨b,0,none⟩))):=(Below.refl B w).setCell (p:=⟨b,0,none⟩) hB _
 go_enter func76,ntmps76
 have hU:Lib.BuilderAt 122 5 B b (.pointer (some ⟨b,0,none⟩)) [] (w.setCell ⟨b,0,none⟩ (.pointer (some ⟨b,0,none⟩))):=⟨hB,.slice none 0 0,hbk1,World.ownsRow_nil _ _ _ _,by simp[Value.ownBlock]⟩;have c1':(w.setCell ⟨b,0,none⟩ (.pointer (some ⟨b,0,none⟩))).drew.cell? ⟨b,1,none⟩=some (.slice none 0 0):=c1
 go_wp2_with (go_at_call 131;refine(Jq b w (by rw[Lib.cell_of_heap hbk];rfl) (by simp[World.shape?,hbk]) (Lib.frozen_of_heap hbk 0)).mono ?_;rintro e w' ⟨rfl,rfl⟩)
 go_region
 all_goals go_wp2_with (go_at_call 132;refine(al4 B b n (w.setCell ⟨b,0,none⟩ (.pointer (some ⟨b,0,none⟩))).drew hB hbk1 (by simpa [World.setCell,World.drew,-World.drew_eq] using hBw) hn).mono ?_;rintro e w' ⟨rfl,h1,h2⟩)
 all_goals first
  |(go_end0;exact⟨rfl,.of h1,hb1.drew.trans h2⟩)
  |(go_end0;exact⟨rfl,.of hU.drew,hb1.drew⟩)
end Go.Ab