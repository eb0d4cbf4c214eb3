/-
  SEVERAL TEXTS IN ONE (merged by program): contracts and models, each with its own heading.
-/
import Derived.Test.YtjfhgcnoielpfaaGreatPartJjB
import Derived.Test.YtjfhgcnoielpfaaGreatChecked
import Derived.Eval
import Derived.KernelRfl
set_option linter.unusedSimpArgs false
set_option linter.unusedVariables false
set_option maxRecDepth 4000
/- FACTS ON THE TYPES OF THIS SEAT: how many cells and bytes each takes, and its zero value. Printed by program; Lean checks each. -/
namespace Go.Proofs.YtjfhgcnoielpfaaGreat.Fa
open Go Go.Ab
theorem cells1 : Tryz.prog.cellsOf 1 = 1 := by kernel_rfl
theorem bytes1 : Tryz.prog.bytesOf 1 = 8 := by kernel_rfl
theorem info1 : (Tryz.prog.info? 1).isSome = true := by kernel_rfl
theorem zero1 : zeroCs Tryz.prog 1 = some [.d (.o .nilFunc)] := by kernel_rfl
theorem cells2 : Tryz.prog.cellsOf 2 = 1 := by kernel_rfl
theorem bytes2 : Tryz.prog.bytesOf 2 = 8 := by kernel_rfl
theorem info2 : (Tryz.prog.info? 2).isSome = true := by kernel_rfl
theorem zero2 : zeroCs Tryz.prog 2 = some [.d (.i .i64 0)] := by kernel_rfl
theorem cells3 : Tryz.prog.cellsOf 3 = 1 := by kernel_rfl
theorem bytes3 : Tryz.prog.bytesOf 3 = 8 := by kernel_rfl
theorem info3 : (Tryz.prog.info? 3).isSome = true := by kernel_rfl
theorem zero3 : zeroCs Tryz.prog 3 = some [.d (.i .i64 0)] := by kernel_rfl
theorem cells4 : Tryz.prog.cellsOf 4 = 1 := by kernel_rfl
theorem bytes4 : Tryz.prog.bytesOf 4 = 1 := by kernel_rfl
theorem info4 : (Tryz.prog.info? 4).isSome = true := by kernel_rfl
theorem zero4 : zeroCs Tryz.prog 4 = some [.d (.b false)] := by kernel_rfl
theorem zval4 : zeroV Tryz.prog 4 = some (.bool false) := by kernel_rfl
theorem cells5 : Tryz.prog.cellsOf 5 = 1 := by kernel_rfl
theorem bytes5 : Tryz.prog.bytesOf 5 = 1 := by kernel_rfl
theorem info5 : (Tryz.prog.info? 5).isSome = true := by kernel_rfl
theorem zero5 : zeroCs Tryz.prog 5 = some [.d (.i .u8 0)] := by kernel_rfl
theorem cells9 : Tryz.prog.cellsOf 9 = 1 := by kernel_rfl
theorem bytes9 : Tryz.prog.bytesOf 9 = 16 := by kernel_rfl
theorem info9 : (Tryz.prog.info? 9).isSome = true := by kernel_rfl
theorem zero9 : zeroCs Tryz.prog 9 = some [.d (.s [])] := by kernel_rfl
theorem cells12 : Tryz.prog.cellsOf 12 = 1 := by kernel_rfl
theorem bytes12 : Tryz.prog.bytesOf 12 = 8 := by kernel_rfl
theorem info12 : (Tryz.prog.info? 12).isSome = true := by kernel_rfl
theorem zero12 : zeroCs Tryz.prog 12 = some [.d (.i .u64 0)] := by kernel_rfl
theorem cells20 : Tryz.prog.cellsOf 20 = 1 := by kernel_rfl
theorem bytes20 : Tryz.prog.bytesOf 20 = 16 := by kernel_rfl
theorem info20 : (Tryz.prog.info? 20).isSome = true := by kernel_rfl
theorem zero20 : zeroCs Tryz.prog 20 = some [.d (.o .nilIface)] := by kernel_rfl
theorem cells21 : Tryz.prog.cellsOf 21 = 1 := by kernel_rfl
theorem bytes21 : Tryz.prog.bytesOf 21 = 4 := by kernel_rfl
theorem info21 : (Tryz.prog.info? 21).isSome = true := by kernel_rfl
theorem zero21 : zeroCs Tryz.prog 21 = some [.d (.i .i32 0)] := by kernel_rfl
theorem cells22 : Tryz.prog.cellsOf 22 = 1 := by kernel_rfl
theorem bytes22 : Tryz.prog.bytesOf 22 = 24 := by kernel_rfl
theorem info22 : (Tryz.prog.info? 22).isSome = true := by kernel_rfl
theorem zero22 : zeroCs Tryz.prog 22 = some [.fsl []] := by kernel_rfl
theorem cells23 : Tryz.prog.cellsOf 23 = 1 := by kernel_rfl
theorem bytes23 : Tryz.prog.bytesOf 23 = 24 := by kernel_rfl
theorem info23 : (Tryz.prog.info? 23).isSome = true := by kernel_rfl
theorem zero23 : zeroCs Tryz.prog 23 = some [.fsl []] := by kernel_rfl
theorem cells24 : Tryz.prog.cellsOf 24 = 1 := by kernel_rfl
theorem bytes24 : Tryz.prog.bytesOf 24 = 24 := by kernel_rfl
theorem info24 : (Tryz.prog.info? 24).isSome = true := by kernel_rfl
theorem zero24 : zeroCs Tryz.prog 24 = some [.fsl []] := by kernel_rfl
theorem cells25 : Tryz.prog.cellsOf 25 = 1 := by kernel_rfl
theorem bytes25 : Tryz.prog.bytesOf 25 = 24 := by kernel_rfl
theorem info25 : (Tryz.prog.info? 25).isSome = true := by kernel_rfl
theorem zero25 : zeroCs Tryz.prog 25 = some [.fsl []] := by kernel_rfl
theorem cells26 : Tryz.prog.cellsOf 26 = 3 := by kernel_rfl
theorem bytes26 : Tryz.prog.bytesOf 26 = 48 := by kernel_rfl
theorem info26 : (Tryz.prog.info? 26).isSome = true := by kernel_rfl
theorem zero26 : zeroCs Tryz.prog 26 = some [.d (.i .i64 0), .d (.s []), .fsl []] := by kernel_rfl
theorem cells27 : Tryz.prog.cellsOf 27 = 3 := by kernel_rfl
theorem bytes27 : Tryz.prog.bytesOf 27 = 48 := by kernel_rfl
theorem info27 : (Tryz.prog.info? 27).isSome = true := by kernel_rfl
theorem zero27 : zeroCs Tryz.prog 27 = some [.d (.i .i64 0), .d (.s []), .fsl []] := by kernel_rfl
theorem cells28 : Tryz.prog.cellsOf 28 = 1 := by kernel_rfl
theorem bytes28 : Tryz.prog.bytesOf 28 = 24 := by kernel_rfl
theorem info28 : (Tryz.prog.info? 28).isSome = true := by kernel_rfl
theorem zero28 : zeroCs Tryz.prog 28 = some [.fsl []] := by kernel_rfl
theorem cells29 : Tryz.prog.cellsOf 29 = 1 := by kernel_rfl
theorem bytes29 : Tryz.prog.bytesOf 29 = 24 := by kernel_rfl
theorem info29 : (Tryz.prog.info? 29).isSome = true := by kernel_rfl
theorem zero29 : zeroCs Tryz.prog 29 = some [.fsl []] := by kernel_rfl
theorem cells30 : Tryz.prog.cellsOf 30 = 9 := by kernel_rfl
theorem bytes30 : Tryz.prog.bytesOf 30 = 144 := by kernel_rfl
theorem info30 : (Tryz.prog.info? 30).isSome = true := by kernel_rfl
theorem zero30 : zeroCs Tryz.prog 30 = some [.d (.i .i64 0), .d (.s []), .d (.s []), .d (.i .i64 0), .d (.i .i64 0), .d (.s []), .fsl [], .fsl [], .fsl []] := by kernel_rfl
theorem cells31 : Tryz.prog.cellsOf 31 = 9 := by kernel_rfl
theorem bytes31 : Tryz.prog.bytesOf 31 = 144 := by kernel_rfl
theorem info31 : (Tryz.prog.info? 31).isSome = true := by kernel_rfl
theorem zero31 : zeroCs Tryz.prog 31 = some [.d (.i .i64 0), .d (.s []), .d (.s []), .d (.i .i64 0), .d (.i .i64 0), .d (.s []), .fsl [], .fsl [], .fsl []] := by kernel_rfl
theorem cells32 : Tryz.prog.cellsOf 32 = 16 := by kernel_rfl
theorem bytes32 : Tryz.prog.bytesOf 32 = 280 := by kernel_rfl
theorem info32 : (Tryz.prog.info? 32).isSome = true := by kernel_rfl
theorem zero32 : zeroCs Tryz.prog 32 = some [.d (.s []), .fsl [], .fsl [], .fsl [], .d (.i .i64 0), .d (.s []), .fsl [], .d (.i .i64 0), .d (.s []), .d (.s []), .d (.i .i64 0), .d (.i .i64 0), .d (.s []), .fsl [], .fsl [], .fsl []] := by kernel_rfl
theorem cells33 : Tryz.prog.cellsOf 33 = 16 := by kernel_rfl
theorem bytes33 : Tryz.prog.bytesOf 33 = 280 := by kernel_rfl
theorem info33 : (Tryz.prog.info? 33).isSome = true := by kernel_rfl
theorem zero33 : zeroCs Tryz.prog 33 = some [.d (.s []), .fsl [], .fsl [], .fsl [], .d (.i .i64 0), .d (.s []), .fsl [], .d (.i .i64 0), .d (.s []), .d (.s []), .d (.i .i64 0), .d (.i .i64 0), .d (.s []), .fsl [], .fsl [], .fsl []] := by kernel_rfl
theorem cells34 : Tryz.prog.cellsOf 34 = 1 := by kernel_rfl
theorem bytes34 : Tryz.prog.bytesOf 34 = 8 := by kernel_rfl
theorem info34 : (Tryz.prog.info? 34).isSome = true := by kernel_rfl
theorem zero34 : zeroCs Tryz.prog 34 = some [.d (.o .nilFunc)] := by kernel_rfl
theorem cells35 : Tryz.prog.cellsOf 35 = 1 := by kernel_rfl
theorem bytes35 : Tryz.prog.bytesOf 35 = 8 := by kernel_rfl
theorem info35 : (Tryz.prog.info? 35).isSome = true := by kernel_rfl
theorem zero35 : zeroCs Tryz.prog 35 = some [.d (.o .nilFunc)] := by kernel_rfl
theorem cells36 : Tryz.prog.cellsOf 36 = 1 := by kernel_rfl
theorem bytes36 : Tryz.prog.bytesOf 36 = 24 := by kernel_rfl
theorem info36 : (Tryz.prog.info? 36).isSome = true := by kernel_rfl
theorem zero36 : zeroCs Tryz.prog 36 = some [.fsl []] := by kernel_rfl
theorem cells37 : Tryz.prog.cellsOf 37 = 1 := by kernel_rfl
theorem bytes37 : Tryz.prog.bytesOf 37 = 24 := by kernel_rfl
theorem info37 : (Tryz.prog.info? 37).isSome = true := by kernel_rfl
theorem zero37 : zeroCs Tryz.prog 37 = some [.fsl []] := by kernel_rfl
theorem cells38 : Tryz.prog.cellsOf 38 = 1 := by kernel_rfl
theorem bytes38 : Tryz.prog.bytesOf 38 = 24 := by kernel_rfl
theorem info38 : (Tryz.prog.info? 38).isSome = true := by kernel_rfl
theorem zero38 : zeroCs Tryz.prog 38 = some [.fsl []] := by kernel_rfl
theorem cells39 : Tryz.prog.cellsOf 39 = 3 := by kernel_rfl
theorem bytes39 : Tryz.prog.bytesOf 39 = 48 := by kernel_rfl
theorem info39 : (Tryz.prog.info? 39).isSome = true := by kernel_rfl
theorem zero39 : zeroCs Tryz.prog 39 = some [.d (.i .i64 0), .d (.s []), .fsl []] := by kernel_rfl
theorem cells40 : Tryz.prog.cellsOf 40 = 3 := by kernel_rfl
theorem bytes40 : Tryz.prog.bytesOf 40 = 48 := by kernel_rfl
theorem info40 : (Tryz.prog.info? 40).isSome = true := by kernel_rfl
theorem zero40 : zeroCs Tryz.prog 40 = some [.d (.i .i64 0), .d (.s []), .fsl []] := by kernel_rfl
theorem cells41 : Tryz.prog.cellsOf 41 = 1 := by kernel_rfl
theorem bytes41 : Tryz.prog.bytesOf 41 = 24 := by kernel_rfl
theorem info41 : (Tryz.prog.info? 41).isSome = true := by kernel_rfl
theorem zero41 : zeroCs Tryz.prog 41 = some [.fsl []] := by kernel_rfl
theorem cells42 : Tryz.prog.cellsOf 42 = 1 := by kernel_rfl
theorem bytes42 : Tryz.prog.bytesOf 42 = 24 := by kernel_rfl
theorem info42 : (Tryz.prog.info? 42).isSome = true := by kernel_rfl
theorem zero42 : zeroCs Tryz.prog 42 = some [.fsl []] := by kernel_rfl
theorem cells43 : Tryz.prog.cellsOf 43 = 9 := by kernel_rfl
theorem bytes43 : Tryz.prog.bytesOf 43 = 144 := by kernel_rfl
theorem info43 : (Tryz.prog.info? 43).isSome = true := by kernel_rfl
theorem zero43 : zeroCs Tryz.prog 43 = some [.d (.i .i64 0), .d (.s []), .d (.s []), .d (.i .i64 0), .d (.i .i64 0), .d (.s []), .fsl [], .fsl [], .fsl []] := by kernel_rfl
theorem cells44 : Tryz.prog.cellsOf 44 = 9 := by kernel_rfl
theorem bytes44 : Tryz.prog.bytesOf 44 = 144 := by kernel_rfl
theorem info44 : (Tryz.prog.info? 44).isSome = true := by kernel_rfl
theorem zero44 : zeroCs Tryz.prog 44 = some [.d (.i .i64 0), .d (.s []), .d (.s []), .d (.i .i64 0), .d (.i .i64 0), .d (.s []), .fsl [], .fsl [], .fsl []] := by kernel_rfl
theorem cells45 : Tryz.prog.cellsOf 45 = 16 := by kernel_rfl
theorem bytes45 : Tryz.prog.bytesOf 45 = 280 := by kernel_rfl
theorem info45 : (Tryz.prog.info? 45).isSome = true := by kernel_rfl
theorem zero45 : zeroCs Tryz.prog 45 = some [.d (.s []), .fsl [], .fsl [], .fsl [], .d (.i .i64 0), .d (.s []), .fsl [], .d (.i .i64 0), .d (.s []), .d (.s []), .d (.i .i64 0), .d (.i .i64 0), .d (.s []), .fsl [], .fsl [], .fsl []] := by kernel_rfl
theorem cells46 : Tryz.prog.cellsOf 46 = 16 := by kernel_rfl
theorem bytes46 : Tryz.prog.bytesOf 46 = 280 := by kernel_rfl
theorem info46 : (Tryz.prog.info? 46).isSome = true := by kernel_rfl
theorem zero46 : zeroCs Tryz.prog 46 = some [.d (.s []), .fsl [], .fsl [], .fsl [], .d (.i .i64 0), .d (.s []), .fsl [], .d (.i .i64 0), .d (.s []), .d (.s []), .d (.i .i64 0), .d (.i .i64 0), .d (.s []), .fsl [], .fsl [], .fsl []] := by kernel_rfl
theorem cells47 : Tryz.prog.cellsOf 47 = 1 := by kernel_rfl
theorem bytes47 : Tryz.prog.bytesOf 47 = 8 := by kernel_rfl
theorem info47 : (Tryz.prog.info? 47).isSome = true := by kernel_rfl
theorem zero47 : zeroCs Tryz.prog 47 = some [.d (.o .nilFunc)] := by kernel_rfl
theorem cells48 : Tryz.prog.cellsOf 48 = 1 := by kernel_rfl
theorem bytes48 : Tryz.prog.bytesOf 48 = 8 := by kernel_rfl
theorem info48 : (Tryz.prog.info? 48).isSome = true := by kernel_rfl
theorem zero48 : zeroCs Tryz.prog 48 = some [.d (.o .nilFunc)] := by kernel_rfl
theorem cells49 : Tryz.prog.cellsOf 49 = 1 := by kernel_rfl
theorem bytes49 : Tryz.prog.bytesOf 49 = 8 := by kernel_rfl
theorem info49 : (Tryz.prog.info? 49).isSome = true := by kernel_rfl
theorem zero49 : zeroCs Tryz.prog 49 = some [.d (.o .nilFunc)] := by kernel_rfl
theorem cells50 : Tryz.prog.cellsOf 50 = 1 := by kernel_rfl
theorem bytes50 : Tryz.prog.bytesOf 50 = 24 := by kernel_rfl
theorem info50 : (Tryz.prog.info? 50).isSome = true := by kernel_rfl
theorem zero50 : zeroCs Tryz.prog 50 = some [.fsl []] := by kernel_rfl
theorem cells51 : Tryz.prog.cellsOf 51 = 5 := by kernel_rfl
theorem bytes51 : Tryz.prog.bytesOf 51 = 72 := by kernel_rfl
theorem info51 : (Tryz.prog.info? 51).isSome = true := by kernel_rfl
theorem zero51 : zeroCs Tryz.prog 51 = some [.d (.s []), .fsl [], .d (.b false), .d (.b false), .fsl []] := by kernel_rfl
theorem cells52 : Tryz.prog.cellsOf 52 = 5 := by kernel_rfl
theorem bytes52 : Tryz.prog.bytesOf 52 = 72 := by kernel_rfl
theorem info52 : (Tryz.prog.info? 52).isSome = true := by kernel_rfl
theorem zero52 : zeroCs Tryz.prog 52 = some [.d (.s []), .fsl [], .d (.b false), .d (.b false), .fsl []] := by kernel_rfl
theorem cells53 : Tryz.prog.cellsOf 53 = 1 := by kernel_rfl
theorem bytes53 : Tryz.prog.bytesOf 53 = 8 := by kernel_rfl
theorem info53 : (Tryz.prog.info? 53).isSome = true := by kernel_rfl
theorem zero53 : zeroCs Tryz.prog 53 = some [.d (.o .nilFunc)] := by kernel_rfl
theorem cells54 : Tryz.prog.cellsOf 54 = 1 := by kernel_rfl
theorem bytes54 : Tryz.prog.bytesOf 54 = 8 := by kernel_rfl
theorem info54 : (Tryz.prog.info? 54).isSome = true := by kernel_rfl
theorem zero54 : zeroCs Tryz.prog 54 = some [.d (.o .nilFunc)] := by kernel_rfl
theorem cells55 : Tryz.prog.cellsOf 55 = 1 := by kernel_rfl
theorem bytes55 : Tryz.prog.bytesOf 55 = 24 := by kernel_rfl
theorem info55 : (Tryz.prog.info? 55).isSome = true := by kernel_rfl
theorem zero55 : zeroCs Tryz.prog 55 = some [.fsl []] := by kernel_rfl
theorem cells56 : Tryz.prog.cellsOf 56 = 5 := by kernel_rfl
theorem bytes56 : Tryz.prog.bytesOf 56 = 72 := by kernel_rfl
theorem info56 : (Tryz.prog.info? 56).isSome = true := by kernel_rfl
theorem zero56 : zeroCs Tryz.prog 56 = some [.d (.s []), .fsl [], .d (.b false), .d (.b false), .fsl []] := by kernel_rfl
theorem cells57 : Tryz.prog.cellsOf 57 = 5 := by kernel_rfl
theorem bytes57 : Tryz.prog.bytesOf 57 = 72 := by kernel_rfl
theorem info57 : (Tryz.prog.info? 57).isSome = true := by kernel_rfl
theorem zero57 : zeroCs Tryz.prog 57 = some [.d (.s []), .fsl [], .d (.b false), .d (.b false), .fsl []] := by kernel_rfl
theorem cells58 : Tryz.prog.cellsOf 58 = 1 := by kernel_rfl
theorem bytes58 : Tryz.prog.bytesOf 58 = 8 := by kernel_rfl
theorem info58 : (Tryz.prog.info? 58).isSome = true := by kernel_rfl
theorem zero58 : zeroCs Tryz.prog 58 = some [.d (.o .nilFunc)] := by kernel_rfl
theorem cells59 : Tryz.prog.cellsOf 59 = 1 := by kernel_rfl
theorem bytes59 : Tryz.prog.bytesOf 59 = 8 := by kernel_rfl
theorem info59 : (Tryz.prog.info? 59).isSome = true := by kernel_rfl
theorem zero59 : zeroCs Tryz.prog 59 = some [.d (.o .nilFunc)] := by kernel_rfl
theorem cells60 : Tryz.prog.cellsOf 60 = 1 := by kernel_rfl
theorem bytes60 : Tryz.prog.bytesOf 60 = 8 := by kernel_rfl
theorem info60 : (Tryz.prog.info? 60).isSome = true := by kernel_rfl
theorem zero60 : zeroCs Tryz.prog 60 = some [.d (.o .nilFunc)] := by kernel_rfl
theorem cells61 : Tryz.prog.cellsOf 61 = 1 := by kernel_rfl
theorem bytes61 : Tryz.prog.bytesOf 61 = 24 := by kernel_rfl
theorem info61 : (Tryz.prog.info? 61).isSome = true := by kernel_rfl
theorem zero61 : zeroCs Tryz.prog 61 = some [.fsl []] := by kernel_rfl
theorem cells62 : Tryz.prog.cellsOf 62 = 12 := by kernel_rfl
theorem bytes62 : Tryz.prog.bytesOf 62 = 192 := by kernel_rfl
theorem info62 : (Tryz.prog.info? 62).isSome = true := by kernel_rfl
theorem zero62 : zeroCs Tryz.prog 62 = some [.d (.s []), .fsl [], .d (.i .i64 0), .d (.s []), .fsl [], .fsl [], .d (.b false), .d (.b false), .d (.i .i64 0), .d (.s []), .fsl [], .fsl []] := by kernel_rfl
theorem cells63 : Tryz.prog.cellsOf 63 = 12 := by kernel_rfl
theorem bytes63 : Tryz.prog.bytesOf 63 = 192 := by kernel_rfl
theorem info63 : (Tryz.prog.info? 63).isSome = true := by kernel_rfl
theorem zero63 : zeroCs Tryz.prog 63 = some [.d (.s []), .fsl [], .d (.i .i64 0), .d (.s []), .fsl [], .fsl [], .d (.b false), .d (.b false), .d (.i .i64 0), .d (.s []), .fsl [], .fsl []] := by kernel_rfl
theorem cells64 : Tryz.prog.cellsOf 64 = 1 := by kernel_rfl
theorem bytes64 : Tryz.prog.bytesOf 64 = 8 := by kernel_rfl
theorem info64 : (Tryz.prog.info? 64).isSome = true := by kernel_rfl
theorem zero64 : zeroCs Tryz.prog 64 = some [.d (.o .nilFunc)] := by kernel_rfl
theorem cells65 : Tryz.prog.cellsOf 65 = 1 := by kernel_rfl
theorem bytes65 : Tryz.prog.bytesOf 65 = 8 := by kernel_rfl
theorem info65 : (Tryz.prog.info? 65).isSome = true := by kernel_rfl
theorem zero65 : zeroCs Tryz.prog 65 = some [.d (.o .nilFunc)] := by kernel_rfl
theorem cells66 : Tryz.prog.cellsOf 66 = 1 := by kernel_rfl
theorem bytes66 : Tryz.prog.bytesOf 66 = 24 := by kernel_rfl
theorem info66 : (Tryz.prog.info? 66).isSome = true := by kernel_rfl
theorem zero66 : zeroCs Tryz.prog 66 = some [.fsl []] := by kernel_rfl
theorem cells67 : Tryz.prog.cellsOf 67 = 12 := by kernel_rfl
theorem bytes67 : Tryz.prog.bytesOf 67 = 192 := by kernel_rfl
theorem info67 : (Tryz.prog.info? 67).isSome = true := by kernel_rfl
theorem zero67 : zeroCs Tryz.prog 67 = some [.d (.s []), .fsl [], .d (.i .i64 0), .d (.s []), .fsl [], .fsl [], .d (.b false), .d (.b false), .d (.i .i64 0), .d (.s []), .fsl [], .fsl []] := by kernel_rfl
theorem cells68 : Tryz.prog.cellsOf 68 = 12 := by kernel_rfl
theorem bytes68 : Tryz.prog.bytesOf 68 = 192 := by kernel_rfl
theorem info68 : (Tryz.prog.info? 68).isSome = true := by kernel_rfl
theorem zero68 : zeroCs Tryz.prog 68 = some [.d (.s []), .fsl [], .d (.i .i64 0), .d (.s []), .fsl [], .fsl [], .d (.b false), .d (.b false), .d (.i .i64 0), .d (.s []), .fsl [], .fsl []] := by kernel_rfl
theorem cells69 : Tryz.prog.cellsOf 69 = 1 := by kernel_rfl
theorem bytes69 : Tryz.prog.bytesOf 69 = 8 := by kernel_rfl
theorem info69 : (Tryz.prog.info? 69).isSome = true := by kernel_rfl
theorem zero69 : zeroCs Tryz.prog 69 = some [.d (.o .nilFunc)] := by kernel_rfl
theorem cells70 : Tryz.prog.cellsOf 70 = 1 := by kernel_rfl
theorem bytes70 : Tryz.prog.bytesOf 70 = 8 := by kernel_rfl
theorem info70 : (Tryz.prog.info? 70).isSome = true := by kernel_rfl
theorem zero70 : zeroCs Tryz.prog 70 = some [.d (.o .nilFunc)] := by kernel_rfl
theorem cells71 : Tryz.prog.cellsOf 71 = 1 := by kernel_rfl
theorem bytes71 : Tryz.prog.bytesOf 71 = 8 := by kernel_rfl
theorem info71 : (Tryz.prog.info? 71).isSome = true := by kernel_rfl
theorem zero71 : zeroCs Tryz.prog 71 = some [.d (.o .nilFunc)] := by kernel_rfl
theorem cells72 : Tryz.prog.cellsOf 72 = 1 := by kernel_rfl
theorem bytes72 : Tryz.prog.bytesOf 72 = 24 := by kernel_rfl
theorem info72 : (Tryz.prog.info? 72).isSome = true := by kernel_rfl
theorem zero72 : zeroCs Tryz.prog 72 = some [.fsl []] := by kernel_rfl
theorem cells73 : Tryz.prog.cellsOf 73 = 1 := by kernel_rfl
theorem bytes73 : Tryz.prog.bytesOf 73 = 24 := by kernel_rfl
theorem info73 : (Tryz.prog.info? 73).isSome = true := by kernel_rfl
theorem zero73 : zeroCs Tryz.prog 73 = some [.fsl []] := by kernel_rfl
theorem cells74 : Tryz.prog.cellsOf 74 = 1 := by kernel_rfl
theorem bytes74 : Tryz.prog.bytesOf 74 = 24 := by kernel_rfl
theorem info74 : (Tryz.prog.info? 74).isSome = true := by kernel_rfl
theorem zero74 : zeroCs Tryz.prog 74 = some [.fsl []] := by kernel_rfl
theorem cells75 : Tryz.prog.cellsOf 75 = 1 := by kernel_rfl
theorem bytes75 : Tryz.prog.bytesOf 75 = 8 := by kernel_rfl
theorem info75 : (Tryz.prog.info? 75).isSome = true := by kernel_rfl
theorem zero75 : zeroCs Tryz.prog 75 = some [.d (.o .nilFunc)] := by kernel_rfl
theorem cells76 : Tryz.prog.cellsOf 76 = 1 := by kernel_rfl
theorem bytes76 : Tryz.prog.bytesOf 76 = 8 := by kernel_rfl
theorem info76 : (Tryz.prog.info? 76).isSome = true := by kernel_rfl
theorem zero76 : zeroCs Tryz.prog 76 = some [.d (.o .nilFunc)] := by kernel_rfl
theorem cells77 : Tryz.prog.cellsOf 77 = 1 := by kernel_rfl
theorem bytes77 : Tryz.prog.bytesOf 77 = 24 := by kernel_rfl
theorem info77 : (Tryz.prog.info? 77).isSome = true := by kernel_rfl
theorem zero77 : zeroCs Tryz.prog 77 = some [.fsl []] := by kernel_rfl
theorem cells78 : Tryz.prog.cellsOf 78 = 1 := by kernel_rfl
theorem bytes78 : Tryz.prog.bytesOf 78 = 24 := by kernel_rfl
theorem info78 : (Tryz.prog.info? 78).isSome = true := by kernel_rfl
theorem zero78 : zeroCs Tryz.prog 78 = some [.fsl []] := by kernel_rfl
theorem cells79 : Tryz.prog.cellsOf 79 = 1 := by kernel_rfl
theorem bytes79 : Tryz.prog.bytesOf 79 = 24 := by kernel_rfl
theorem info79 : (Tryz.prog.info? 79).isSome = true := by kernel_rfl
theorem zero79 : zeroCs Tryz.prog 79 = some [.fsl []] := by kernel_rfl
theorem cells80 : Tryz.prog.cellsOf 80 = 1 := by kernel_rfl
theorem bytes80 : Tryz.prog.bytesOf 80 = 8 := by kernel_rfl
theorem info80 : (Tryz.prog.info? 80).isSome = true := by kernel_rfl
theorem zero80 : zeroCs Tryz.prog 80 = some [.d (.o .nilFunc)] := by kernel_rfl
theorem cells81 : Tryz.prog.cellsOf 81 = 1 := by kernel_rfl
theorem bytes81 : Tryz.prog.bytesOf 81 = 8 := by kernel_rfl
theorem info81 : (Tryz.prog.info? 81).isSome = true := by kernel_rfl
theorem zero81 : zeroCs Tryz.prog 81 = some [.d (.o .nilFunc)] := by kernel_rfl
theorem cells82 : Tryz.prog.cellsOf 82 = 1 := by kernel_rfl
theorem bytes82 : Tryz.prog.bytesOf 82 = 8 := by kernel_rfl
theorem info82 : (Tryz.prog.info? 82).isSome = true := by kernel_rfl
theorem zero82 : zeroCs Tryz.prog 82 = some [.d (.o .nilFunc)] := by kernel_rfl
theorem cells83 : Tryz.prog.cellsOf 83 = 1 := by kernel_rfl
theorem bytes83 : Tryz.prog.bytesOf 83 = 8 := by kernel_rfl
theorem info83 : (Tryz.prog.info? 83).isSome = true := by kernel_rfl
theorem zero83 : zeroCs Tryz.prog 83 = some [.d (.o .nilFunc)] := by kernel_rfl
theorem cells84 : Tryz.prog.cellsOf 84 = 1 := by kernel_rfl
theorem bytes84 : Tryz.prog.bytesOf 84 = 8 := by kernel_rfl
theorem info84 : (Tryz.prog.info? 84).isSome = true := by kernel_rfl
theorem zero84 : zeroCs Tryz.prog 84 = some [.d (.o .nilFunc)] := by kernel_rfl
theorem cells85 : Tryz.prog.cellsOf 85 = 1 := by kernel_rfl
theorem bytes85 : Tryz.prog.bytesOf 85 = 8 := by kernel_rfl
theorem info85 : (Tryz.prog.info? 85).isSome = true := by kernel_rfl
theorem zero85 : zeroCs Tryz.prog 85 = some [.d (.o .nilFunc)] := by kernel_rfl
theorem cells86 : Tryz.prog.cellsOf 86 = 1 := by kernel_rfl
theorem bytes86 : Tryz.prog.bytesOf 86 = 8 := by kernel_rfl
theorem info86 : (Tryz.prog.info? 86).isSome = true := by kernel_rfl
theorem zero86 : zeroCs Tryz.prog 86 = some [.d (.o .nilFunc)] := by kernel_rfl
theorem cells87 : Tryz.prog.cellsOf 87 = 1 := by kernel_rfl
theorem bytes87 : Tryz.prog.bytesOf 87 = 8 := by kernel_rfl
theorem info87 : (Tryz.prog.info? 87).isSome = true := by kernel_rfl
theorem zero87 : zeroCs Tryz.prog 87 = some [.d (.o .nilFunc)] := by kernel_rfl
theorem cells88 : Tryz.prog.cellsOf 88 = 4 := by kernel_rfl
theorem bytes88 : Tryz.prog.bytesOf 88 = 64 := by kernel_rfl
theorem info88 : (Tryz.prog.info? 88).isSome = true := by kernel_rfl
theorem zero88 : zeroCs Tryz.prog 88 = some [.d (.s []), .d (.i .i64 0), .d (.s []), .fsl []] := by kernel_rfl
theorem cells89 : Tryz.prog.cellsOf 89 = 4 := by kernel_rfl
theorem bytes89 : Tryz.prog.bytesOf 89 = 64 := by kernel_rfl
theorem info89 : (Tryz.prog.info? 89).isSome = true := by kernel_rfl
theorem zero89 : zeroCs Tryz.prog 89 = some [.d (.s []), .d (.i .i64 0), .d (.s []), .fsl []] := by kernel_rfl
theorem cells90 : Tryz.prog.cellsOf 90 = 1 := by kernel_rfl
theorem bytes90 : Tryz.prog.bytesOf 90 = 8 := by kernel_rfl
theorem info90 : (Tryz.prog.info? 90).isSome = true := by kernel_rfl
theorem zero90 : zeroCs Tryz.prog 90 = some [.d (.o .nilFunc)] := by kernel_rfl
theorem cells91 : Tryz.prog.cellsOf 91 = 1 := by kernel_rfl
theorem bytes91 : Tryz.prog.bytesOf 91 = 8 := by kernel_rfl
theorem info91 : (Tryz.prog.info? 91).isSome = true := by kernel_rfl
theorem zero91 : zeroCs Tryz.prog 91 = some [.d (.o .nilFunc)] := by kernel_rfl
theorem cells92 : Tryz.prog.cellsOf 92 = 4 := by kernel_rfl
theorem bytes92 : Tryz.prog.bytesOf 92 = 64 := by kernel_rfl
theorem info92 : (Tryz.prog.info? 92).isSome = true := by kernel_rfl
theorem zero92 : zeroCs Tryz.prog 92 = some [.d (.s []), .d (.i .i64 0), .d (.s []), .fsl []] := by kernel_rfl
theorem cells93 : Tryz.prog.cellsOf 93 = 4 := by kernel_rfl
theorem bytes93 : Tryz.prog.bytesOf 93 = 64 := by kernel_rfl
theorem info93 : (Tryz.prog.info? 93).isSome = true := by kernel_rfl
theorem zero93 : zeroCs Tryz.prog 93 = some [.d (.s []), .d (.i .i64 0), .d (.s []), .fsl []] := by kernel_rfl
theorem cells94 : Tryz.prog.cellsOf 94 = 1 := by kernel_rfl
theorem bytes94 : Tryz.prog.bytesOf 94 = 8 := by kernel_rfl
theorem info94 : (Tryz.prog.info? 94).isSome = true := by kernel_rfl
theorem zero94 : zeroCs Tryz.prog 94 = some [.d (.o .nilFunc)] := by kernel_rfl
theorem cells95 : Tryz.prog.cellsOf 95 = 1 := by kernel_rfl
theorem bytes95 : Tryz.prog.bytesOf 95 = 8 := by kernel_rfl
theorem info95 : (Tryz.prog.info? 95).isSome = true := by kernel_rfl
theorem zero95 : zeroCs Tryz.prog 95 = some [.d (.o .nilFunc)] := by kernel_rfl
theorem cells96 : Tryz.prog.cellsOf 96 = 1 := by kernel_rfl
theorem bytes96 : Tryz.prog.bytesOf 96 = 8 := by kernel_rfl
theorem info96 : (Tryz.prog.info? 96).isSome = true := by kernel_rfl
theorem zero96 : zeroCs Tryz.prog 96 = some [.d (.o .nilFunc)] := by kernel_rfl
theorem cells97 : Tryz.prog.cellsOf 97 = 1 := by kernel_rfl
theorem bytes97 : Tryz.prog.bytesOf 97 = 8 := by kernel_rfl
theorem info97 : (Tryz.prog.info? 97).isSome = true := by kernel_rfl
theorem zero97 : zeroCs Tryz.prog 97 = some [.d (.o .nilFunc)] := by kernel_rfl
theorem cells98 : Tryz.prog.cellsOf 98 = 1 := by kernel_rfl
theorem bytes98 : Tryz.prog.bytesOf 98 = 8 := by kernel_rfl
theorem info98 : (Tryz.prog.info? 98).isSome = true := by kernel_rfl
theorem zero98 : zeroCs Tryz.prog 98 = some [.d (.o .nilFunc)] := by kernel_rfl
theorem cells99 : Tryz.prog.cellsOf 99 = 1 := by kernel_rfl
theorem bytes99 : Tryz.prog.bytesOf 99 = 8 := by kernel_rfl
theorem info99 : (Tryz.prog.info? 99).isSome = true := by kernel_rfl
theorem zero99 : zeroCs Tryz.prog 99 = some [.d (.o .nilFunc)] := by kernel_rfl
theorem cells100 : Tryz.prog.cellsOf 100 = 1 := by kernel_rfl
theorem bytes100 : Tryz.prog.bytesOf 100 = 8 := by kernel_rfl
theorem info100 : (Tryz.prog.info? 100).isSome = true := by kernel_rfl
theorem zero100 : zeroCs Tryz.prog 100 = some [.d (.o .nilFunc)] := by kernel_rfl
theorem cells101 : Tryz.prog.cellsOf 101 = 1 := by kernel_rfl
theorem bytes101 : Tryz.prog.bytesOf 101 = 8 := by kernel_rfl
theorem info101 : (Tryz.prog.info? 101).isSome = true := by kernel_rfl
theorem zero101 : zeroCs Tryz.prog 101 = some [.d (.o .nilFunc)] := by kernel_rfl
theorem cells102 : Tryz.prog.cellsOf 102 = 4 := by kernel_rfl
theorem bytes102 : Tryz.prog.bytesOf 102 = 64 := by kernel_rfl
theorem info102 : (Tryz.prog.info? 102).isSome = true := by kernel_rfl
theorem zero102 : zeroCs Tryz.prog 102 = some [.d (.s []), .d (.i .i64 0), .d (.s []), .fsl []] := by kernel_rfl
theorem cells103 : Tryz.prog.cellsOf 103 = 4 := by kernel_rfl
theorem bytes103 : Tryz.prog.bytesOf 103 = 64 := by kernel_rfl
theorem info103 : (Tryz.prog.info? 103).isSome = true := by kernel_rfl
theorem zero103 : zeroCs Tryz.prog 103 = some [.d (.s []), .d (.i .i64 0), .d (.s []), .fsl []] := by kernel_rfl
theorem cells104 : Tryz.prog.cellsOf 104 = 1 := by kernel_rfl
theorem bytes104 : Tryz.prog.bytesOf 104 = 8 := by kernel_rfl
theorem info104 : (Tryz.prog.info? 104).isSome = true := by kernel_rfl
theorem zero104 : zeroCs Tryz.prog 104 = some [.d (.o .nilFunc)] := by kernel_rfl
theorem cells105 : Tryz.prog.cellsOf 105 = 1 := by kernel_rfl
theorem bytes105 : Tryz.prog.bytesOf 105 = 8 := by kernel_rfl
theorem info105 : (Tryz.prog.info? 105).isSome = true := by kernel_rfl
theorem zero105 : zeroCs Tryz.prog 105 = some [.d (.o .nilFunc)] := by kernel_rfl
theorem cells106 : Tryz.prog.cellsOf 106 = 1 := by kernel_rfl
theorem bytes106 : Tryz.prog.bytesOf 106 = 8 := by kernel_rfl
theorem info106 : (Tryz.prog.info? 106).isSome = true := by kernel_rfl
theorem zero106 : zeroCs Tryz.prog 106 = some [.d (.o .nilFunc)] := by kernel_rfl
theorem cells107 : Tryz.prog.cellsOf 107 = 1 := by kernel_rfl
theorem bytes107 : Tryz.prog.bytesOf 107 = 8 := by kernel_rfl
theorem info107 : (Tryz.prog.info? 107).isSome = true := by kernel_rfl
theorem zero107 : zeroCs Tryz.prog 107 = some [.d (.o .nilFunc)] := by kernel_rfl
theorem cells108 : Tryz.prog.cellsOf 108 = 1 := by kernel_rfl
theorem bytes108 : Tryz.prog.bytesOf 108 = 8 := by kernel_rfl
theorem info108 : (Tryz.prog.info? 108).isSome = true := by kernel_rfl
theorem zero108 : zeroCs Tryz.prog 108 = some [.d (.o .nilFunc)] := by kernel_rfl
theorem cells109 : Tryz.prog.cellsOf 109 = 1 := by kernel_rfl
theorem bytes109 : Tryz.prog.bytesOf 109 = 8 := by kernel_rfl
theorem info109 : (Tryz.prog.info? 109).isSome = true := by kernel_rfl
theorem zero109 : zeroCs Tryz.prog 109 = some [.d (.o .nilFunc)] := by kernel_rfl
theorem cells110 : Tryz.prog.cellsOf 110 = 1 := by kernel_rfl
theorem bytes110 : Tryz.prog.bytesOf 110 = 8 := by kernel_rfl
theorem info110 : (Tryz.prog.info? 110).isSome = true := by kernel_rfl
theorem zero110 : zeroCs Tryz.prog 110 = some [.d (.o .nilFunc)] := by kernel_rfl
theorem cells111 : Tryz.prog.cellsOf 111 = 1 := by kernel_rfl
theorem bytes111 : Tryz.prog.bytesOf 111 = 8 := by kernel_rfl
theorem info111 : (Tryz.prog.info? 111).isSome = true := by kernel_rfl
theorem zero111 : zeroCs Tryz.prog 111 = some [.d (.o .nilFunc)] := by kernel_rfl
theorem cells112 : Tryz.prog.cellsOf 112 = 1 := by kernel_rfl
theorem bytes112 : Tryz.prog.bytesOf 112 = 8 := by kernel_rfl
theorem info112 : (Tryz.prog.info? 112).isSome = true := by kernel_rfl
theorem zero112 : zeroCs Tryz.prog 112 = some [.d (.o .nilFunc)] := by kernel_rfl
theorem cells113 : Tryz.prog.cellsOf 113 = 1 := by kernel_rfl
theorem bytes113 : Tryz.prog.bytesOf 113 = 8 := by kernel_rfl
theorem info113 : (Tryz.prog.info? 113).isSome = true := by kernel_rfl
theorem zero113 : zeroCs Tryz.prog 113 = some [.d (.o .nilFunc)] := by kernel_rfl
theorem cells114 : Tryz.prog.cellsOf 114 = 1 := by kernel_rfl
theorem bytes114 : Tryz.prog.bytesOf 114 = 8 := by kernel_rfl
theorem info114 : (Tryz.prog.info? 114).isSome = true := by kernel_rfl
theorem zero114 : zeroCs Tryz.prog 114 = some [.d (.o .nilFunc)] := by kernel_rfl
theorem cells115 : Tryz.prog.cellsOf 115 = 1 := by kernel_rfl
theorem bytes115 : Tryz.prog.bytesOf 115 = 8 := by kernel_rfl
theorem info115 : (Tryz.prog.info? 115).isSome = true := by kernel_rfl
theorem zero115 : zeroCs Tryz.prog 115 = some [.d (.o .nilFunc)] := by kernel_rfl
theorem cells116 : Tryz.prog.cellsOf 116 = 1 := by kernel_rfl
theorem bytes116 : Tryz.prog.bytesOf 116 = 8 := by kernel_rfl
theorem info116 : (Tryz.prog.info? 116).isSome = true := by kernel_rfl
theorem zero116 : zeroCs Tryz.prog 116 = some [.d (.o .nilFunc)] := by kernel_rfl
theorem cells117 : Tryz.prog.cellsOf 117 = 1 := by kernel_rfl
theorem bytes117 : Tryz.prog.bytesOf 117 = 8 := by kernel_rfl
theorem info117 : (Tryz.prog.info? 117).isSome = true := by kernel_rfl
theorem zero117 : zeroCs Tryz.prog 117 = some [.d (.o .nilFunc)] := by kernel_rfl
theorem cells118 : Tryz.prog.cellsOf 118 = 1 := by kernel_rfl
theorem bytes118 : Tryz.prog.bytesOf 118 = 8 := by kernel_rfl
theorem info118 : (Tryz.prog.info? 118).isSome = true := by kernel_rfl
theorem zero118 : zeroCs Tryz.prog 118 = some [.d (.o .nilFunc)] := by kernel_rfl
theorem cells119 : Tryz.prog.cellsOf 119 = 1 := by kernel_rfl
theorem bytes119 : Tryz.prog.bytesOf 119 = 8 := by kernel_rfl
theorem info119 : (Tryz.prog.info? 119).isSome = true := by kernel_rfl
theorem zero119 : zeroCs Tryz.prog 119 = some [.d (.o .nilFunc)] := by kernel_rfl
theorem cells120 : Tryz.prog.cellsOf 120 = 1 := by kernel_rfl
theorem bytes120 : Tryz.prog.bytesOf 120 = 8 := by kernel_rfl
theorem info120 : (Tryz.prog.info? 120).isSome = true := by kernel_rfl
theorem zero120 : zeroCs Tryz.prog 120 = some [.d (.o .nilFunc)] := by kernel_rfl
theorem cells121 : Tryz.prog.cellsOf 121 = 1 := by kernel_rfl
theorem bytes121 : Tryz.prog.bytesOf 121 = 8 := by kernel_rfl
theorem info121 : (Tryz.prog.info? 121).isSome = true := by kernel_rfl
theorem zero121 : zeroCs Tryz.prog 121 = some [.d (.o .nilFunc)] := by kernel_rfl
theorem cells122 : Tryz.prog.cellsOf 122 = 1 := by kernel_rfl
theorem bytes122 : Tryz.prog.bytesOf 122 = 8 := by kernel_rfl
theorem info122 : (Tryz.prog.info? 122).isSome = true := by kernel_rfl
theorem zero122 : zeroCs Tryz.prog 122 = some [.d (.o .nilFunc)] := by kernel_rfl
theorem cells123 : Tryz.prog.cellsOf 123 = 16 := by kernel_rfl
theorem bytes123 : Tryz.prog.bytesOf 123 = 264 := by kernel_rfl
theorem info123 : (Tryz.prog.info? 123).isSome = true := by kernel_rfl
theorem zero123 : zeroCs Tryz.prog 123 = some [.d (.s []), .fsl [], .d (.i .i64 0), .d (.s []), .fsl [], .d (.b false), .fsl [], .d (.i .i64 0), .d (.s []), .d (.s []), .d (.i .i64 0), .d (.i .i64 0), .d (.s []), .fsl [], .fsl [], .fsl []] := by kernel_rfl
theorem cells124 : Tryz.prog.cellsOf 124 = 16 := by kernel_rfl
theorem bytes124 : Tryz.prog.bytesOf 124 = 264 := by kernel_rfl
theorem info124 : (Tryz.prog.info? 124).isSome = true := by kernel_rfl
theorem zero124 : zeroCs Tryz.prog 124 = some [.d (.s []), .fsl [], .d (.i .i64 0), .d (.s []), .fsl [], .d (.b false), .fsl [], .d (.i .i64 0), .d (.s []), .d (.s []), .d (.i .i64 0), .d (.i .i64 0), .d (.s []), .fsl [], .fsl [], .fsl []] := by kernel_rfl
theorem cells125 : Tryz.prog.cellsOf 125 = 1 := by kernel_rfl
theorem bytes125 : Tryz.prog.bytesOf 125 = 8 := by kernel_rfl
theorem info125 : (Tryz.prog.info? 125).isSome = true := by kernel_rfl
theorem zero125 : zeroCs Tryz.prog 125 = some [.d (.o .nilFunc)] := by kernel_rfl
theorem cells126 : Tryz.prog.cellsOf 126 = 1 := by kernel_rfl
theorem bytes126 : Tryz.prog.bytesOf 126 = 8 := by kernel_rfl
theorem info126 : (Tryz.prog.info? 126).isSome = true := by kernel_rfl
theorem zero126 : zeroCs Tryz.prog 126 = some [.d (.o .nilFunc)] := by kernel_rfl
theorem cells127 : Tryz.prog.cellsOf 127 = 1 := by kernel_rfl
theorem bytes127 : Tryz.prog.bytesOf 127 = 8 := by kernel_rfl
theorem info127 : (Tryz.prog.info? 127).isSome = true := by kernel_rfl
theorem zero127 : zeroCs Tryz.prog 127 = some [.d (.o .nilFunc)] := by kernel_rfl
theorem cells128 : Tryz.prog.cellsOf 128 = 1 := by kernel_rfl
theorem bytes128 : Tryz.prog.bytesOf 128 = 8 := by kernel_rfl
theorem info128 : (Tryz.prog.info? 128).isSome = true := by kernel_rfl
theorem zero128 : zeroCs Tryz.prog 128 = some [.d (.o .nilFunc)] := by kernel_rfl
theorem cells129 : Tryz.prog.cellsOf 129 = 1 := by kernel_rfl
theorem bytes129 : Tryz.prog.bytesOf 129 = 8 := by kernel_rfl
theorem info129 : (Tryz.prog.info? 129).isSome = true := by kernel_rfl
theorem zero129 : zeroCs Tryz.prog 129 = some [.d (.o .nilFunc)] := by kernel_rfl
theorem cells130 : Tryz.prog.cellsOf 130 = 11 := by kernel_rfl
theorem bytes130 : Tryz.prog.bytesOf 130 = 184 := by kernel_rfl
theorem info130 : (Tryz.prog.info? 130).isSome = true := by kernel_rfl
theorem zero130 : zeroCs Tryz.prog 130 = some [.d (.s []), .fsl [], .d (.i .i64 0), .d (.s []), .d (.s []), .d (.i .i64 0), .d (.i .i64 0), .d (.s []), .fsl [], .fsl [], .fsl []] := by kernel_rfl
theorem cells131 : Tryz.prog.cellsOf 131 = 11 := by kernel_rfl
theorem bytes131 : Tryz.prog.bytesOf 131 = 184 := by kernel_rfl
theorem info131 : (Tryz.prog.info? 131).isSome = true := by kernel_rfl
theorem zero131 : zeroCs Tryz.prog 131 = some [.d (.s []), .fsl [], .d (.i .i64 0), .d (.s []), .d (.s []), .d (.i .i64 0), .d (.i .i64 0), .d (.s []), .fsl [], .fsl [], .fsl []] := by kernel_rfl
theorem cells132 : Tryz.prog.cellsOf 132 = 1 := by kernel_rfl
theorem bytes132 : Tryz.prog.bytesOf 132 = 8 := by kernel_rfl
theorem info132 : (Tryz.prog.info? 132).isSome = true := by kernel_rfl
theorem zero132 : zeroCs Tryz.prog 132 = some [.d (.o .nilFunc)] := by kernel_rfl
theorem cells133 : Tryz.prog.cellsOf 133 = 1 := by kernel_rfl
theorem bytes133 : Tryz.prog.bytesOf 133 = 8 := by kernel_rfl
theorem info133 : (Tryz.prog.info? 133).isSome = true := by kernel_rfl
theorem zero133 : zeroCs Tryz.prog 133 = some [.d (.o .nilFunc)] := by kernel_rfl
theorem cells134 : Tryz.prog.cellsOf 134 = 1 := by kernel_rfl
theorem bytes134 : Tryz.prog.bytesOf 134 = 8 := by kernel_rfl
theorem info134 : (Tryz.prog.info? 134).isSome = true := by kernel_rfl
theorem zero134 : zeroCs Tryz.prog 134 = some [.d (.o .nilFunc)] := by kernel_rfl
theorem cells135 : Tryz.prog.cellsOf 135 = 1 := by kernel_rfl
theorem bytes135 : Tryz.prog.bytesOf 135 = 8 := by kernel_rfl
theorem info135 : (Tryz.prog.info? 135).isSome = true := by kernel_rfl
theorem zero135 : zeroCs Tryz.prog 135 = some [.d (.o .nilFunc)] := by kernel_rfl
theorem cells136 : Tryz.prog.cellsOf 136 = 1 := by kernel_rfl
theorem bytes136 : Tryz.prog.bytesOf 136 = 8 := by kernel_rfl
theorem info136 : (Tryz.prog.info? 136).isSome = true := by kernel_rfl
theorem zero136 : zeroCs Tryz.prog 136 = some [.d (.o .nilFunc)] := by kernel_rfl
theorem cells137 : Tryz.prog.cellsOf 137 = 1 := by kernel_rfl
theorem bytes137 : Tryz.prog.bytesOf 137 = 24 := by kernel_rfl
theorem info137 : (Tryz.prog.info? 137).isSome = true := by kernel_rfl
theorem zero137 : zeroCs Tryz.prog 137 = some [.fsl []] := by kernel_rfl
theorem cells138 : Tryz.prog.cellsOf 138 = 1 := by kernel_rfl
theorem bytes138 : Tryz.prog.bytesOf 138 = 8 := by kernel_rfl
theorem info138 : (Tryz.prog.info? 138).isSome = true := by kernel_rfl
theorem zero138 : zeroCs Tryz.prog 138 = some [.d (.o .nilFunc)] := by kernel_rfl
theorem cells139 : Tryz.prog.cellsOf 139 = 1 := by kernel_rfl
theorem bytes139 : Tryz.prog.bytesOf 139 = 8 := by kernel_rfl
theorem info139 : (Tryz.prog.info? 139).isSome = true := by kernel_rfl
theorem zero139 : zeroCs Tryz.prog 139 = some [.d (.o .nilFunc)] := by kernel_rfl
theorem cells140 : Tryz.prog.cellsOf 140 = 1 := by kernel_rfl
theorem bytes140 : Tryz.prog.bytesOf 140 = 8 := by kernel_rfl
theorem info140 : (Tryz.prog.info? 140).isSome = true := by kernel_rfl
theorem zero140 : zeroCs Tryz.prog 140 = some [.d (.o .nilFunc)] := by kernel_rfl
theorem cells141 : Tryz.prog.cellsOf 141 = 1 := by kernel_rfl
theorem bytes141 : Tryz.prog.bytesOf 141 = 8 := by kernel_rfl
theorem info141 : (Tryz.prog.info? 141).isSome = true := by kernel_rfl
theorem zero141 : zeroCs Tryz.prog 141 = some [.d (.o .nilFunc)] := by kernel_rfl
theorem cells142 : Tryz.prog.cellsOf 142 = 1 := by kernel_rfl
theorem bytes142 : Tryz.prog.bytesOf 142 = 8 := by kernel_rfl
theorem info142 : (Tryz.prog.info? 142).isSome = true := by kernel_rfl
theorem zero142 : zeroCs Tryz.prog 142 = some [.d (.o .nilFunc)] := by kernel_rfl
theorem cells143 : Tryz.prog.cellsOf 143 = 2 := by kernel_rfl
theorem bytes143 : Tryz.prog.bytesOf 143 = 48 := by kernel_rfl
theorem info143 : (Tryz.prog.info? 143).isSome = true := by kernel_rfl
theorem zero143 : zeroCs Tryz.prog 143 = some [.fsl [], .fsl []] := by kernel_rfl
theorem cells144 : Tryz.prog.cellsOf 144 = 2 := by kernel_rfl
theorem bytes144 : Tryz.prog.bytesOf 144 = 48 := by kernel_rfl
theorem info144 : (Tryz.prog.info? 144).isSome = true := by kernel_rfl
theorem zero144 : zeroCs Tryz.prog 144 = some [.fsl [], .fsl []] := by kernel_rfl
theorem cells145 : Tryz.prog.cellsOf 145 = 1 := by kernel_rfl
theorem bytes145 : Tryz.prog.bytesOf 145 = 8 := by kernel_rfl
theorem info145 : (Tryz.prog.info? 145).isSome = true := by kernel_rfl
theorem zero145 : zeroCs Tryz.prog 145 = some [.d (.o .nilFunc)] := by kernel_rfl
theorem cells146 : Tryz.prog.cellsOf 146 = 1 := by kernel_rfl
theorem bytes146 : Tryz.prog.bytesOf 146 = 8 := by kernel_rfl
theorem info146 : (Tryz.prog.info? 146).isSome = true := by kernel_rfl
theorem zero146 : zeroCs Tryz.prog 146 = some [.d (.o .nilFunc)] := by kernel_rfl
theorem cells147 : Tryz.prog.cellsOf 147 = 1 := by kernel_rfl
theorem bytes147 : Tryz.prog.bytesOf 147 = 8 := by kernel_rfl
theorem info147 : (Tryz.prog.info? 147).isSome = true := by kernel_rfl
theorem zero147 : zeroCs Tryz.prog 147 = some [.d (.o .nilFunc)] := by kernel_rfl
theorem cells149 : Tryz.prog.cellsOf 149 = 1 := by kernel_rfl
theorem bytes149 : Tryz.prog.bytesOf 149 = 8 := by kernel_rfl
theorem info149 : (Tryz.prog.info? 149).isSome = true := by kernel_rfl
theorem zero149 : zeroCs Tryz.prog 149 = some [.d (.o .nilFunc)] := by kernel_rfl
theorem cells150 : Tryz.prog.cellsOf 150 = 1 := by kernel_rfl
theorem bytes150 : Tryz.prog.bytesOf 150 = 8 := by kernel_rfl
theorem info150 : (Tryz.prog.info? 150).isSome = true := by kernel_rfl
theorem zero150 : zeroCs Tryz.prog 150 = some [.d (.o .nilFunc)] := by kernel_rfl
theorem cells151 : Tryz.prog.cellsOf 151 = 1 := by kernel_rfl
theorem bytes151 : Tryz.prog.bytesOf 151 = 8 := by kernel_rfl
theorem info151 : (Tryz.prog.info? 151).isSome = true := by kernel_rfl
theorem zero151 : zeroCs Tryz.prog 151 = some [.d (.o .nilFunc)] := by kernel_rfl
theorem cells152 : Tryz.prog.cellsOf 152 = 4 := by kernel_rfl
theorem bytes152 : Tryz.prog.bytesOf 152 = 64 := by kernel_rfl
theorem info152 : (Tryz.prog.info? 152).isSome = true := by kernel_rfl
theorem zero152 : zeroCs Tryz.prog 152 = some [.d (.s []), .d (.i .i64 0), .d (.s []), .fsl []] := by kernel_rfl
theorem cells153 : Tryz.prog.cellsOf 153 = 4 := by kernel_rfl
theorem bytes153 : Tryz.prog.bytesOf 153 = 64 := by kernel_rfl
theorem info153 : (Tryz.prog.info? 153).isSome = true := by kernel_rfl
theorem zero153 : zeroCs Tryz.prog 153 = some [.d (.s []), .d (.i .i64 0), .d (.s []), .fsl []] := by kernel_rfl
theorem cells154 : Tryz.prog.cellsOf 154 = 1 := by kernel_rfl
theorem bytes154 : Tryz.prog.bytesOf 154 = 8 := by kernel_rfl
theorem info154 : (Tryz.prog.info? 154).isSome = true := by kernel_rfl
theorem zero154 : zeroCs Tryz.prog 154 = some [.d (.o .nilFunc)] := by kernel_rfl
theorem cells155 : Tryz.prog.cellsOf 155 = 1 := by kernel_rfl
theorem bytes155 : Tryz.prog.bytesOf 155 = 8 := by kernel_rfl
theorem info155 : (Tryz.prog.info? 155).isSome = true := by kernel_rfl
theorem zero155 : zeroCs Tryz.prog 155 = some [.d (.o .nilFunc)] := by kernel_rfl
theorem cells156 : Tryz.prog.cellsOf 156 = 1 := by kernel_rfl
theorem bytes156 : Tryz.prog.bytesOf 156 = 8 := by kernel_rfl
theorem info156 : (Tryz.prog.info? 156).isSome = true := by kernel_rfl
theorem zero156 : zeroCs Tryz.prog 156 = some [.d (.o .nilFunc)] := by kernel_rfl
theorem cells157 : Tryz.prog.cellsOf 157 = 1 := by kernel_rfl
theorem bytes157 : Tryz.prog.bytesOf 157 = 8 := by kernel_rfl
theorem info157 : (Tryz.prog.info? 157).isSome = true := by kernel_rfl
theorem zero157 : zeroCs Tryz.prog 157 = some [.d (.o .nilFunc)] := by kernel_rfl
theorem cells158 : Tryz.prog.cellsOf 158 = 1 := by kernel_rfl
theorem bytes158 : Tryz.prog.bytesOf 158 = 8 := by kernel_rfl
theorem info158 : (Tryz.prog.info? 158).isSome = true := by kernel_rfl
theorem zero158 : zeroCs Tryz.prog 158 = some [.d (.o .nilFunc)] := by kernel_rfl
theorem cells159 : Tryz.prog.cellsOf 159 = 1 := by kernel_rfl
theorem bytes159 : Tryz.prog.bytesOf 159 = 8 := by kernel_rfl
theorem info159 : (Tryz.prog.info? 159).isSome = true := by kernel_rfl
theorem zero159 : zeroCs Tryz.prog 159 = some [.d (.o .nilFunc)] := by kernel_rfl
theorem cells160 : Tryz.prog.cellsOf 160 = 1 := by kernel_rfl
theorem bytes160 : Tryz.prog.bytesOf 160 = 8 := by kernel_rfl
theorem info160 : (Tryz.prog.info? 160).isSome = true := by kernel_rfl
theorem zero160 : zeroCs Tryz.prog 160 = some [.d (.o .nilFunc)] := by kernel_rfl
theorem cells161 : Tryz.prog.cellsOf 161 = 1 := by kernel_rfl
theorem bytes161 : Tryz.prog.bytesOf 161 = 8 := by kernel_rfl
theorem info161 : (Tryz.prog.info? 161).isSome = true := by kernel_rfl
theorem zero161 : zeroCs Tryz.prog 161 = some [.d (.o .nilFunc)] := by kernel_rfl
theorem cells162 : Tryz.prog.cellsOf 162 = 1 := by kernel_rfl
theorem bytes162 : Tryz.prog.bytesOf 162 = 8 := by kernel_rfl
theorem info162 : (Tryz.prog.info? 162).isSome = true := by kernel_rfl
theorem zero162 : zeroCs Tryz.prog 162 = some [.d (.o .nilFunc)] := by kernel_rfl
theorem cells163 : Tryz.prog.cellsOf 163 = 1 := by kernel_rfl
theorem bytes163 : Tryz.prog.bytesOf 163 = 8 := by kernel_rfl
theorem info163 : (Tryz.prog.info? 163).isSome = true := by kernel_rfl
theorem zero163 : zeroCs Tryz.prog 163 = some [.d (.o .nilFunc)] := by kernel_rfl
theorem cells164 : Tryz.prog.cellsOf 164 = 1 := by kernel_rfl
theorem bytes164 : Tryz.prog.bytesOf 164 = 8 := by kernel_rfl
theorem info164 : (Tryz.prog.info? 164).isSome = true := by kernel_rfl
theorem zero164 : zeroCs Tryz.prog 164 = some [.d (.o .nilFunc)] := by kernel_rfl
theorem cells165 : Tryz.prog.cellsOf 165 = 1 := by kernel_rfl
theorem bytes165 : Tryz.prog.bytesOf 165 = 8 := by kernel_rfl
theorem info165 : (Tryz.prog.info? 165).isSome = true := by kernel_rfl
theorem zero165 : zeroCs Tryz.prog 165 = some [.d (.o .nilFunc)] := by kernel_rfl
theorem cells166 : Tryz.prog.cellsOf 166 = 1 := by kernel_rfl
theorem bytes166 : Tryz.prog.bytesOf 166 = 8 := by kernel_rfl
theorem info166 : (Tryz.prog.info? 166).isSome = true := by kernel_rfl
theorem zero166 : zeroCs Tryz.prog 166 = some [.d (.o .nilFunc)] := by kernel_rfl
theorem cells167 : Tryz.prog.cellsOf 167 = 1 := by kernel_rfl
theorem bytes167 : Tryz.prog.bytesOf 167 = 8 := by kernel_rfl
theorem info167 : (Tryz.prog.info? 167).isSome = true := by kernel_rfl
theorem zero167 : zeroCs Tryz.prog 167 = some [.d (.o .nilFunc)] := by kernel_rfl
theorem cells168 : Tryz.prog.cellsOf 168 = 1 := by kernel_rfl
theorem bytes168 : Tryz.prog.bytesOf 168 = 8 := by kernel_rfl
theorem info168 : (Tryz.prog.info? 168).isSome = true := by kernel_rfl
theorem zero168 : zeroCs Tryz.prog 168 = some [.d (.o .nilFunc)] := by kernel_rfl
theorem cells169 : Tryz.prog.cellsOf 169 = 1 := by kernel_rfl
theorem bytes169 : Tryz.prog.bytesOf 169 = 8 := by kernel_rfl
theorem info169 : (Tryz.prog.info? 169).isSome = true := by kernel_rfl
theorem zero169 : zeroCs Tryz.prog 169 = some [.d (.o .nilFunc)] := by kernel_rfl
theorem cells170 : Tryz.prog.cellsOf 170 = 1 := by kernel_rfl
theorem bytes170 : Tryz.prog.bytesOf 170 = 8 := by kernel_rfl
theorem info170 : (Tryz.prog.info? 170).isSome = true := by kernel_rfl
theorem zero170 : zeroCs Tryz.prog 170 = some [.d (.o .nilFunc)] := by kernel_rfl
theorem cells171 : Tryz.prog.cellsOf 171 = 1 := by kernel_rfl
theorem bytes171 : Tryz.prog.bytesOf 171 = 8 := by kernel_rfl
theorem info171 : (Tryz.prog.info? 171).isSome = true := by kernel_rfl
theorem zero171 : zeroCs Tryz.prog 171 = some [.d (.o .nilFunc)] := by kernel_rfl
theorem cells172 : Tryz.prog.cellsOf 172 = 16 := by kernel_rfl
theorem bytes172 : Tryz.prog.bytesOf 172 = 264 := by kernel_rfl
theorem info172 : (Tryz.prog.info? 172).isSome = true := by kernel_rfl
theorem zero172 : zeroCs Tryz.prog 172 = some [.d (.s []), .fsl [], .d (.i .i64 0), .d (.s []), .fsl [], .d (.b false), .fsl [], .d (.i .i64 0), .d (.s []), .d (.s []), .d (.i .i64 0), .d (.i .i64 0), .d (.s []), .fsl [], .fsl [], .fsl []] := by kernel_rfl
theorem cells173 : Tryz.prog.cellsOf 173 = 16 := by kernel_rfl
theorem bytes173 : Tryz.prog.bytesOf 173 = 264 := by kernel_rfl
theorem info173 : (Tryz.prog.info? 173).isSome = true := by kernel_rfl
theorem zero173 : zeroCs Tryz.prog 173 = some [.d (.s []), .fsl [], .d (.i .i64 0), .d (.s []), .fsl [], .d (.b false), .fsl [], .d (.i .i64 0), .d (.s []), .d (.s []), .d (.i .i64 0), .d (.i .i64 0), .d (.s []), .fsl [], .fsl [], .fsl []] := by kernel_rfl
theorem cells174 : Tryz.prog.cellsOf 174 = 1 := by kernel_rfl
theorem bytes174 : Tryz.prog.bytesOf 174 = 8 := by kernel_rfl
theorem info174 : (Tryz.prog.info? 174).isSome = true := by kernel_rfl
theorem zero174 : zeroCs Tryz.prog 174 = some [.d (.o .nilFunc)] := by kernel_rfl
theorem cells175 : Tryz.prog.cellsOf 175 = 1 := by kernel_rfl
theorem bytes175 : Tryz.prog.bytesOf 175 = 8 := by kernel_rfl
theorem info175 : (Tryz.prog.info? 175).isSome = true := by kernel_rfl
theorem zero175 : zeroCs Tryz.prog 175 = some [.d (.o (.map none))] := by kernel_rfl
theorem cells176 : Tryz.prog.cellsOf 176 = 1 := by kernel_rfl
theorem bytes176 : Tryz.prog.bytesOf 176 = 8 := by kernel_rfl
theorem info176 : (Tryz.prog.info? 176).isSome = true := by kernel_rfl
theorem zero176 : zeroCs Tryz.prog 176 = some [.d (.o .nilFunc)] := by kernel_rfl
theorem cells177 : Tryz.prog.cellsOf 177 = 1 := by kernel_rfl
theorem bytes177 : Tryz.prog.bytesOf 177 = 8 := by kernel_rfl
theorem info177 : (Tryz.prog.info? 177).isSome = true := by kernel_rfl
theorem zero177 : zeroCs Tryz.prog 177 = some [.d (.o .nilFunc)] := by kernel_rfl
theorem cells178 : Tryz.prog.cellsOf 178 = 11 := by kernel_rfl
theorem bytes178 : Tryz.prog.bytesOf 178 = 184 := by kernel_rfl
theorem info178 : (Tryz.prog.info? 178).isSome = true := by kernel_rfl
theorem zero178 : zeroCs Tryz.prog 178 = some [.d (.s []), .fsl [], .d (.i .i64 0), .d (.s []), .d (.s []), .d (.i .i64 0), .d (.i .i64 0), .d (.s []), .fsl [], .fsl [], .fsl []] := by kernel_rfl
theorem cells179 : Tryz.prog.cellsOf 179 = 11 := by kernel_rfl
theorem bytes179 : Tryz.prog.bytesOf 179 = 184 := by kernel_rfl
theorem info179 : (Tryz.prog.info? 179).isSome = true := by kernel_rfl
theorem zero179 : zeroCs Tryz.prog 179 = some [.d (.s []), .fsl [], .d (.i .i64 0), .d (.s []), .d (.s []), .d (.i .i64 0), .d (.i .i64 0), .d (.s []), .fsl [], .fsl [], .fsl []] := by kernel_rfl
theorem cells180 : Tryz.prog.cellsOf 180 = 1 := by kernel_rfl
theorem bytes180 : Tryz.prog.bytesOf 180 = 8 := by kernel_rfl
theorem info180 : (Tryz.prog.info? 180).isSome = true := by kernel_rfl
theorem zero180 : zeroCs Tryz.prog 180 = some [.d (.o .nilFunc)] := by kernel_rfl
theorem cells181 : Tryz.prog.cellsOf 181 = 1 := by kernel_rfl
theorem bytes181 : Tryz.prog.bytesOf 181 = 8 := by kernel_rfl
theorem info181 : (Tryz.prog.info? 181).isSome = true := by kernel_rfl
theorem zero181 : zeroCs Tryz.prog 181 = some [.d (.o .nilFunc)] := by kernel_rfl
theorem cells182 : Tryz.prog.cellsOf 182 = 1 := by kernel_rfl
theorem bytes182 : Tryz.prog.bytesOf 182 = 8 := by kernel_rfl
theorem info182 : (Tryz.prog.info? 182).isSome = true := by kernel_rfl
theorem zero182 : zeroCs Tryz.prog 182 = some [.d (.o .nilFunc)] := by kernel_rfl
theorem cells183 : Tryz.prog.cellsOf 183 = 1 := by kernel_rfl
theorem bytes183 : Tryz.prog.bytesOf 183 = 8 := by kernel_rfl
theorem info183 : (Tryz.prog.info? 183).isSome = true := by kernel_rfl
theorem zero183 : zeroCs Tryz.prog 183 = some [.d (.o .nilFunc)] := by kernel_rfl
theorem cells184 : Tryz.prog.cellsOf 184 = 1 := by kernel_rfl
theorem bytes184 : Tryz.prog.bytesOf 184 = 8 := by kernel_rfl
theorem info184 : (Tryz.prog.info? 184).isSome = true := by kernel_rfl
theorem zero184 : zeroCs Tryz.prog 184 = some [.d (.o .nilFunc)] := by kernel_rfl
theorem cells185 : Tryz.prog.cellsOf 185 = 1 := by kernel_rfl
theorem bytes185 : Tryz.prog.bytesOf 185 = 8 := by kernel_rfl
theorem info185 : (Tryz.prog.info? 185).isSome = true := by kernel_rfl
theorem zero185 : zeroCs Tryz.prog 185 = some [.d (.o .nilFunc)] := by kernel_rfl
theorem cells186 : Tryz.prog.cellsOf 186 = 1 := by kernel_rfl
theorem bytes186 : Tryz.prog.bytesOf 186 = 8 := by kernel_rfl
theorem info186 : (Tryz.prog.info? 186).isSome = true := by kernel_rfl
theorem zero186 : zeroCs Tryz.prog 186 = some [.d (.o .nilFunc)] := by kernel_rfl
theorem cells187 : Tryz.prog.cellsOf 187 = 1 := by kernel_rfl
theorem bytes187 : Tryz.prog.bytesOf 187 = 24 := by kernel_rfl
theorem info187 : (Tryz.prog.info? 187).isSome = true := by kernel_rfl
theorem zero187 : zeroCs Tryz.prog 187 = some [.fsl []] := by kernel_rfl
theorem cells188 : Tryz.prog.cellsOf 188 = 1 := by kernel_rfl
theorem bytes188 : Tryz.prog.bytesOf 188 = 24 := by kernel_rfl
theorem info188 : (Tryz.prog.info? 188).isSome = true := by kernel_rfl
theorem zero188 : zeroCs Tryz.prog 188 = some [.fsl []] := by kernel_rfl
theorem cells189 : Tryz.prog.cellsOf 189 = 1 := by kernel_rfl
theorem bytes189 : Tryz.prog.bytesOf 189 = 24 := by kernel_rfl
theorem info189 : (Tryz.prog.info? 189).isSome = true := by kernel_rfl
theorem zero189 : zeroCs Tryz.prog 189 = some [.fsl []] := by kernel_rfl
theorem cells190 : Tryz.prog.cellsOf 190 = 1 := by kernel_rfl
theorem bytes190 : Tryz.prog.bytesOf 190 = 24 := by kernel_rfl
theorem info190 : (Tryz.prog.info? 190).isSome = true := by kernel_rfl
theorem zero190 : zeroCs Tryz.prog 190 = some [.fsl []] := by kernel_rfl
theorem cells191 : Tryz.prog.cellsOf 191 = 6 := by kernel_rfl
theorem bytes191 : Tryz.prog.bytesOf 191 = 136 := by kernel_rfl
theorem info191 : (Tryz.prog.info? 191).isSome = true := by kernel_rfl
theorem zero191 : zeroCs Tryz.prog 191 = some [.d (.s []), .fsl [], .fsl [], .fsl [], .fsl [], .fsl []] := by kernel_rfl
theorem cells192 : Tryz.prog.cellsOf 192 = 6 := by kernel_rfl
theorem bytes192 : Tryz.prog.bytesOf 192 = 136 := by kernel_rfl
theorem info192 : (Tryz.prog.info? 192).isSome = true := by kernel_rfl
theorem zero192 : zeroCs Tryz.prog 192 = some [.d (.s []), .fsl [], .fsl [], .fsl [], .fsl [], .fsl []] := by kernel_rfl
theorem cells193 : Tryz.prog.cellsOf 193 = 1 := by kernel_rfl
theorem bytes193 : Tryz.prog.bytesOf 193 = 24 := by kernel_rfl
theorem info193 : (Tryz.prog.info? 193).isSome = true := by kernel_rfl
theorem zero193 : zeroCs Tryz.prog 193 = some [.fsl []] := by kernel_rfl
theorem cells194 : Tryz.prog.cellsOf 194 = 1 := by kernel_rfl
theorem bytes194 : Tryz.prog.bytesOf 194 = 24 := by kernel_rfl
theorem info194 : (Tryz.prog.info? 194).isSome = true := by kernel_rfl
theorem zero194 : zeroCs Tryz.prog 194 = some [.fsl []] := by kernel_rfl
theorem cells195 : Tryz.prog.cellsOf 195 = 1 := by kernel_rfl
theorem bytes195 : Tryz.prog.bytesOf 195 = 24 := by kernel_rfl
theorem info195 : (Tryz.prog.info? 195).isSome = true := by kernel_rfl
theorem zero195 : zeroCs Tryz.prog 195 = some [.fsl []] := by kernel_rfl
theorem cells196 : Tryz.prog.cellsOf 196 = 1 := by kernel_rfl
theorem bytes196 : Tryz.prog.bytesOf 196 = 24 := by kernel_rfl
theorem info196 : (Tryz.prog.info? 196).isSome = true := by kernel_rfl
theorem zero196 : zeroCs Tryz.prog 196 = some [.fsl []] := by kernel_rfl
theorem cells197 : Tryz.prog.cellsOf 197 = 1 := by kernel_rfl
theorem bytes197 : Tryz.prog.bytesOf 197 = 24 := by kernel_rfl
theorem info197 : (Tryz.prog.info? 197).isSome = true := by kernel_rfl
theorem zero197 : zeroCs Tryz.prog 197 = some [.fsl []] := by kernel_rfl
theorem cells198 : Tryz.prog.cellsOf 198 = 6 := by kernel_rfl
theorem bytes198 : Tryz.prog.bytesOf 198 = 136 := by kernel_rfl
theorem info198 : (Tryz.prog.info? 198).isSome = true := by kernel_rfl
theorem zero198 : zeroCs Tryz.prog 198 = some [.d (.s []), .fsl [], .fsl [], .fsl [], .fsl [], .fsl []] := by kernel_rfl
theorem cells199 : Tryz.prog.cellsOf 199 = 6 := by kernel_rfl
theorem bytes199 : Tryz.prog.bytesOf 199 = 136 := by kernel_rfl
theorem info199 : (Tryz.prog.info? 199).isSome = true := by kernel_rfl
theorem zero199 : zeroCs Tryz.prog 199 = some [.d (.s []), .fsl [], .fsl [], .fsl [], .fsl [], .fsl []] := by kernel_rfl
theorem cells200 : Tryz.prog.cellsOf 200 = 1 := by kernel_rfl
theorem bytes200 : Tryz.prog.bytesOf 200 = 8 := by kernel_rfl
theorem info200 : (Tryz.prog.info? 200).isSome = true := by kernel_rfl
theorem zero200 : zeroCs Tryz.prog 200 = some [.d (.o .nilFunc)] := by kernel_rfl
theorem cells201 : Tryz.prog.cellsOf 201 = 1 := by kernel_rfl
theorem bytes201 : Tryz.prog.bytesOf 201 = 8 := by kernel_rfl
theorem info201 : (Tryz.prog.info? 201).isSome = true := by kernel_rfl
theorem zero201 : zeroCs Tryz.prog 201 = some [.d (.o .nilFunc)] := by kernel_rfl
theorem cells202 : Tryz.prog.cellsOf 202 = 1 := by kernel_rfl
theorem bytes202 : Tryz.prog.bytesOf 202 = 8 := by kernel_rfl
theorem info202 : (Tryz.prog.info? 202).isSome = true := by kernel_rfl
theorem zero202 : zeroCs Tryz.prog 202 = some [.d (.o .nilFunc)] := by kernel_rfl
theorem cells203 : Tryz.prog.cellsOf 203 = 1 := by kernel_rfl
theorem bytes203 : Tryz.prog.bytesOf 203 = 24 := by kernel_rfl
theorem info203 : (Tryz.prog.info? 203).isSome = true := by kernel_rfl
theorem zero203 : zeroCs Tryz.prog 203 = some [.fsl []] := by kernel_rfl
theorem cells204 : Tryz.prog.cellsOf 204 = 1 := by kernel_rfl
theorem bytes204 : Tryz.prog.bytesOf 204 = 8 := by kernel_rfl
theorem info204 : (Tryz.prog.info? 204).isSome = true := by kernel_rfl
theorem zero204 : zeroCs Tryz.prog 204 = some [.d (.o .nilFunc)] := by kernel_rfl
theorem cells205 : Tryz.prog.cellsOf 205 = 1 := by kernel_rfl
theorem bytes205 : Tryz.prog.bytesOf 205 = 8 := by kernel_rfl
theorem info205 : (Tryz.prog.info? 205).isSome = true := by kernel_rfl
theorem zero205 : zeroCs Tryz.prog 205 = some [.d (.o .nilFunc)] := by kernel_rfl
theorem cells206 : Tryz.prog.cellsOf 206 = 1 := by kernel_rfl
theorem bytes206 : Tryz.prog.bytesOf 206 = 24 := by kernel_rfl
theorem info206 : (Tryz.prog.info? 206).isSome = true := by kernel_rfl
theorem zero206 : zeroCs Tryz.prog 206 = some [.fsl []] := by kernel_rfl
theorem cells207 : Tryz.prog.cellsOf 207 = 3 := by kernel_rfl
theorem bytes207 : Tryz.prog.bytesOf 207 = 64 := by kernel_rfl
theorem info207 : (Tryz.prog.info? 207).isSome = true := by kernel_rfl
theorem zero207 : zeroCs Tryz.prog 207 = some [.d (.s []), .fsl [], .fsl []] := by kernel_rfl
theorem cells208 : Tryz.prog.cellsOf 208 = 3 := by kernel_rfl
theorem bytes208 : Tryz.prog.bytesOf 208 = 64 := by kernel_rfl
theorem info208 : (Tryz.prog.info? 208).isSome = true := by kernel_rfl
theorem zero208 : zeroCs Tryz.prog 208 = some [.d (.s []), .fsl [], .fsl []] := by kernel_rfl
theorem cells210 : Tryz.prog.cellsOf 210 = 1 := by kernel_rfl
theorem bytes210 : Tryz.prog.bytesOf 210 = 8 := by kernel_rfl
theorem info210 : (Tryz.prog.info? 210).isSome = true := by kernel_rfl
theorem zero210 : zeroCs Tryz.prog 210 = some [.d (.o .nilFunc)] := by kernel_rfl
theorem cells211 : Tryz.prog.cellsOf 211 = 1 := by kernel_rfl
theorem bytes211 : Tryz.prog.bytesOf 211 = 8 := by kernel_rfl
theorem info211 : (Tryz.prog.info? 211).isSome = true := by kernel_rfl
theorem zero211 : zeroCs Tryz.prog 211 = some [.d (.o .nilFunc)] := by kernel_rfl
theorem cells213 : Tryz.prog.cellsOf 213 = 1 := by kernel_rfl
theorem bytes213 : Tryz.prog.bytesOf 213 = 8 := by kernel_rfl
theorem info213 : (Tryz.prog.info? 213).isSome = true := by kernel_rfl
theorem zero213 : zeroCs Tryz.prog 213 = some [.d (.o .nilFunc)] := by kernel_rfl
theorem cells214 : Tryz.prog.cellsOf 214 = 1 := by kernel_rfl
theorem bytes214 : Tryz.prog.bytesOf 214 = 8 := by kernel_rfl
theorem info214 : (Tryz.prog.info? 214).isSome = true := by kernel_rfl
theorem zero214 : zeroCs Tryz.prog 214 = some [.d (.o .nilFunc)] := by kernel_rfl
theorem cells215 : Tryz.prog.cellsOf 215 = 1 := by kernel_rfl
theorem bytes215 : Tryz.prog.bytesOf 215 = 8 := by kernel_rfl
theorem info215 : (Tryz.prog.info? 215).isSome = true := by kernel_rfl
theorem zero215 : zeroCs Tryz.prog 215 = some [.d (.o .nilFunc)] := by kernel_rfl
theorem cells216 : Tryz.prog.cellsOf 216 = 11 := by kernel_rfl
theorem bytes216 : Tryz.prog.bytesOf 216 = 184 := by kernel_rfl
theorem info216 : (Tryz.prog.info? 216).isSome = true := by kernel_rfl
theorem zero216 : zeroCs Tryz.prog 216 = some [.d (.s []), .fsl [], .d (.i .i64 0), .d (.s []), .d (.s []), .d (.i .i64 0), .d (.i .i64 0), .d (.s []), .fsl [], .fsl [], .fsl []] := by kernel_rfl
theorem cells217 : Tryz.prog.cellsOf 217 = 11 := by kernel_rfl
theorem bytes217 : Tryz.prog.bytesOf 217 = 184 := by kernel_rfl
theorem info217 : (Tryz.prog.info? 217).isSome = true := by kernel_rfl
theorem zero217 : zeroCs Tryz.prog 217 = some [.d (.s []), .fsl [], .d (.i .i64 0), .d (.s []), .d (.s []), .d (.i .i64 0), .d (.i .i64 0), .d (.s []), .fsl [], .fsl [], .fsl []] := by kernel_rfl
theorem cells218 : Tryz.prog.cellsOf 218 = 1 := by kernel_rfl
theorem bytes218 : Tryz.prog.bytesOf 218 = 8 := by kernel_rfl
theorem info218 : (Tryz.prog.info? 218).isSome = true := by kernel_rfl
theorem zero218 : zeroCs Tryz.prog 218 = some [.d (.o .nilFunc)] := by kernel_rfl
theorem cells219 : Tryz.prog.cellsOf 219 = 1 := by kernel_rfl
theorem bytes219 : Tryz.prog.bytesOf 219 = 8 := by kernel_rfl
theorem info219 : (Tryz.prog.info? 219).isSome = true := by kernel_rfl
theorem zero219 : zeroCs Tryz.prog 219 = some [.d (.o .nilFunc)] := by kernel_rfl
theorem cells220 : Tryz.prog.cellsOf 220 = 1 := by kernel_rfl
theorem bytes220 : Tryz.prog.bytesOf 220 = 8 := by kernel_rfl
theorem info220 : (Tryz.prog.info? 220).isSome = true := by kernel_rfl
theorem zero220 : zeroCs Tryz.prog 220 = some [.d (.o .nilFunc)] := by kernel_rfl
theorem cells221 : Tryz.prog.cellsOf 221 = 1 := by kernel_rfl
theorem bytes221 : Tryz.prog.bytesOf 221 = 8 := by kernel_rfl
theorem info221 : (Tryz.prog.info? 221).isSome = true := by kernel_rfl
theorem zero221 : zeroCs Tryz.prog 221 = some [.d (.o .nilFunc)] := by kernel_rfl
theorem cells222 : Tryz.prog.cellsOf 222 = 11 := by kernel_rfl
theorem bytes222 : Tryz.prog.bytesOf 222 = 184 := by kernel_rfl
theorem info222 : (Tryz.prog.info? 222).isSome = true := by kernel_rfl
theorem zero222 : zeroCs Tryz.prog 222 = some [.d (.s []), .fsl [], .d (.i .i64 0), .d (.s []), .d (.s []), .d (.i .i64 0), .d (.i .i64 0), .d (.s []), .fsl [], .fsl [], .fsl []] := by kernel_rfl
theorem cells223 : Tryz.prog.cellsOf 223 = 11 := by kernel_rfl
theorem bytes223 : Tryz.prog.bytesOf 223 = 184 := by kernel_rfl
theorem info223 : (Tryz.prog.info? 223).isSome = true := by kernel_rfl
theorem zero223 : zeroCs Tryz.prog 223 = some [.d (.s []), .fsl [], .d (.i .i64 0), .d (.s []), .d (.s []), .d (.i .i64 0), .d (.i .i64 0), .d (.s []), .fsl [], .fsl [], .fsl []] := by kernel_rfl
theorem cells224 : Tryz.prog.cellsOf 224 = 1 := by kernel_rfl
theorem bytes224 : Tryz.prog.bytesOf 224 = 8 := by kernel_rfl
theorem info224 : (Tryz.prog.info? 224).isSome = true := by kernel_rfl
theorem zero224 : zeroCs Tryz.prog 224 = some [.d (.o .nilFunc)] := by kernel_rfl
theorem cells225 : Tryz.prog.cellsOf 225 = 1 := by kernel_rfl
theorem bytes225 : Tryz.prog.bytesOf 225 = 8 := by kernel_rfl
theorem info225 : (Tryz.prog.info? 225).isSome = true := by kernel_rfl
theorem zero225 : zeroCs Tryz.prog 225 = some [.d (.o .nilFunc)] := by kernel_rfl
theorem cells226 : Tryz.prog.cellsOf 226 = 1 := by kernel_rfl
theorem bytes226 : Tryz.prog.bytesOf 226 = 8 := by kernel_rfl
theorem info226 : (Tryz.prog.info? 226).isSome = true := by kernel_rfl
theorem zero226 : zeroCs Tryz.prog 226 = some [.d (.o .nilFunc)] := by kernel_rfl
theorem cells227 : Tryz.prog.cellsOf 227 = 1 := by kernel_rfl
theorem bytes227 : Tryz.prog.bytesOf 227 = 8 := by kernel_rfl
theorem info227 : (Tryz.prog.info? 227).isSome = true := by kernel_rfl
theorem zero227 : zeroCs Tryz.prog 227 = some [.d (.o .nilFunc)] := by kernel_rfl
theorem cells228 : Tryz.prog.cellsOf 228 = 1 := by kernel_rfl
theorem bytes228 : Tryz.prog.bytesOf 228 = 8 := by kernel_rfl
theorem info228 : (Tryz.prog.info? 228).isSome = true := by kernel_rfl
theorem zero228 : zeroCs Tryz.prog 228 = some [.d (.o .nilFunc)] := by kernel_rfl
theorem cells229 : Tryz.prog.cellsOf 229 = 1 := by kernel_rfl
theorem bytes229 : Tryz.prog.bytesOf 229 = 8 := by kernel_rfl
theorem info229 : (Tryz.prog.info? 229).isSome = true := by kernel_rfl
theorem zero229 : zeroCs Tryz.prog 229 = some [.d (.o .nilFunc)] := by kernel_rfl
theorem cells230 : Tryz.prog.cellsOf 230 = 1 := by kernel_rfl
theorem bytes230 : Tryz.prog.bytesOf 230 = 8 := by kernel_rfl
theorem info230 : (Tryz.prog.info? 230).isSome = true := by kernel_rfl
theorem zero230 : zeroCs Tryz.prog 230 = some [.d (.o .nilFunc)] := by kernel_rfl
theorem cells231 : Tryz.prog.cellsOf 231 = 1 := by kernel_rfl
theorem bytes231 : Tryz.prog.bytesOf 231 = 8 := by kernel_rfl
theorem info231 : (Tryz.prog.info? 231).isSome = true := by kernel_rfl
theorem zero231 : zeroCs Tryz.prog 231 = some [.d (.o .nilFunc)] := by kernel_rfl
theorem cells232 : Tryz.prog.cellsOf 232 = 1 := by kernel_rfl
theorem bytes232 : Tryz.prog.bytesOf 232 = 8 := by kernel_rfl
theorem info232 : (Tryz.prog.info? 232).isSome = true := by kernel_rfl
theorem zero232 : zeroCs Tryz.prog 232 = some [.d (.o .nilFunc)] := by kernel_rfl
theorem cells233 : Tryz.prog.cellsOf 233 = 1 := by kernel_rfl
theorem bytes233 : Tryz.prog.bytesOf 233 = 8 := by kernel_rfl
theorem info233 : (Tryz.prog.info? 233).isSome = true := by kernel_rfl
theorem zero233 : zeroCs Tryz.prog 233 = some [.d (.o .nilFunc)] := by kernel_rfl
theorem cells234 : Tryz.prog.cellsOf 234 = 1 := by kernel_rfl
theorem bytes234 : Tryz.prog.bytesOf 234 = 8 := by kernel_rfl
theorem info234 : (Tryz.prog.info? 234).isSome = true := by kernel_rfl
theorem zero234 : zeroCs Tryz.prog 234 = some [.d (.o .nilFunc)] := by kernel_rfl
theorem cells235 : Tryz.prog.cellsOf 235 = 1 := by kernel_rfl
theorem bytes235 : Tryz.prog.bytesOf 235 = 8 := by kernel_rfl
theorem info235 : (Tryz.prog.info? 235).isSome = true := by kernel_rfl
theorem zero235 : zeroCs Tryz.prog 235 = some [.d (.o .nilFunc)] := by kernel_rfl
theorem cells236 : Tryz.prog.cellsOf 236 = 1 := by kernel_rfl
theorem bytes236 : Tryz.prog.bytesOf 236 = 8 := by kernel_rfl
theorem info236 : (Tryz.prog.info? 236).isSome = true := by kernel_rfl
theorem zero236 : zeroCs Tryz.prog 236 = some [.d (.o .nilFunc)] := by kernel_rfl
theorem cells237 : Tryz.prog.cellsOf 237 = 1 := by kernel_rfl
theorem bytes237 : Tryz.prog.bytesOf 237 = 8 := by kernel_rfl
theorem info237 : (Tryz.prog.info? 237).isSome = true := by kernel_rfl
theorem zero237 : zeroCs Tryz.prog 237 = some [.d (.o .nilFunc)] := by kernel_rfl
theorem cells238 : Tryz.prog.cellsOf 238 = 1 := by kernel_rfl
theorem bytes238 : Tryz.prog.bytesOf 238 = 8 := by kernel_rfl
theorem info238 : (Tryz.prog.info? 238).isSome = true := by kernel_rfl
theorem zero238 : zeroCs Tryz.prog 238 = some [.d (.o .nilFunc)] := by kernel_rfl
theorem cells239 : Tryz.prog.cellsOf 239 = 1 := by kernel_rfl
theorem bytes239 : Tryz.prog.bytesOf 239 = 8 := by kernel_rfl
theorem info239 : (Tryz.prog.info? 239).isSome = true := by kernel_rfl
theorem zero239 : zeroCs Tryz.prog 239 = some [.d (.o .nilFunc)] := by kernel_rfl
theorem cells240 : Tryz.prog.cellsOf 240 = 1 := by kernel_rfl
theorem bytes240 : Tryz.prog.bytesOf 240 = 8 := by kernel_rfl
theorem info240 : (Tryz.prog.info? 240).isSome = true := by kernel_rfl
theorem zero240 : zeroCs Tryz.prog 240 = some [.d (.o .nilFunc)] := by kernel_rfl
theorem cells241 : Tryz.prog.cellsOf 241 = 1 := by kernel_rfl
theorem bytes241 : Tryz.prog.bytesOf 241 = 8 := by kernel_rfl
theorem info241 : (Tryz.prog.info? 241).isSome = true := by kernel_rfl
theorem zero241 : zeroCs Tryz.prog 241 = some [.d (.o .nilFunc)] := by kernel_rfl
theorem cells242 : Tryz.prog.cellsOf 242 = 1 := by kernel_rfl
theorem bytes242 : Tryz.prog.bytesOf 242 = 8 := by kernel_rfl
theorem info242 : (Tryz.prog.info? 242).isSome = true := by kernel_rfl
theorem zero242 : zeroCs Tryz.prog 242 = some [.d (.o .nilFunc)] := by kernel_rfl
theorem cells243 : Tryz.prog.cellsOf 243 = 1 := by kernel_rfl
theorem bytes243 : Tryz.prog.bytesOf 243 = 8 := by kernel_rfl
theorem info243 : (Tryz.prog.info? 243).isSome = true := by kernel_rfl
theorem zero243 : zeroCs Tryz.prog 243 = some [.d (.o .nilFunc)] := by kernel_rfl
theorem cells244 : Tryz.prog.cellsOf 244 = 1 := by kernel_rfl
theorem bytes244 : Tryz.prog.bytesOf 244 = 8 := by kernel_rfl
theorem info244 : (Tryz.prog.info? 244).isSome = true := by kernel_rfl
theorem zero244 : zeroCs Tryz.prog 244 = some [.d (.o .nilFunc)] := by kernel_rfl
theorem cells245 : Tryz.prog.cellsOf 245 = 1 := by kernel_rfl
theorem bytes245 : Tryz.prog.bytesOf 245 = 8 := by kernel_rfl
theorem info245 : (Tryz.prog.info? 245).isSome = true := by kernel_rfl
theorem zero245 : zeroCs Tryz.prog 245 = some [.d (.o .nilFunc)] := by kernel_rfl
theorem cells247 : Tryz.prog.cellsOf 247 = 1 := by kernel_rfl
theorem bytes247 : Tryz.prog.bytesOf 247 = 8 := by kernel_rfl
theorem info247 : (Tryz.prog.info? 247).isSome = true := by kernel_rfl
theorem zero247 : zeroCs Tryz.prog 247 = some [.d (.o .nilFunc)] := by kernel_rfl
theorem cells248 : Tryz.prog.cellsOf 248 = 1 := by kernel_rfl
theorem bytes248 : Tryz.prog.bytesOf 248 = 8 := by kernel_rfl
theorem info248 : (Tryz.prog.info? 248).isSome = true := by kernel_rfl
theorem zero248 : zeroCs Tryz.prog 248 = some [.d (.o .nilFunc)] := by kernel_rfl
theorem cells249 : Tryz.prog.cellsOf 249 = 1 := by kernel_rfl
theorem bytes249 : Tryz.prog.bytesOf 249 = 8 := by kernel_rfl
theorem info249 : (Tryz.prog.info? 249).isSome = true := by kernel_rfl
theorem zero249 : zeroCs Tryz.prog 249 = some [.d (.o .nilFunc)] := by kernel_rfl
theorem cells250 : Tryz.prog.cellsOf 250 = 1 := by kernel_rfl
theorem bytes250 : Tryz.prog.bytesOf 250 = 8 := by kernel_rfl
theorem info250 : (Tryz.prog.info? 250).isSome = true := by kernel_rfl
theorem zero250 : zeroCs Tryz.prog 250 = some [.d (.o .nilFunc)] := by kernel_rfl
theorem cells251 : Tryz.prog.cellsOf 251 = 1 := by kernel_rfl
theorem bytes251 : Tryz.prog.bytesOf 251 = 8 := by kernel_rfl
theorem info251 : (Tryz.prog.info? 251).isSome = true := by kernel_rfl
theorem zero251 : zeroCs Tryz.prog 251 = some [.d (.o .nilFunc)] := by kernel_rfl
theorem cells252 : Tryz.prog.cellsOf 252 = 1 := by kernel_rfl
theorem bytes252 : Tryz.prog.bytesOf 252 = 8 := by kernel_rfl
theorem info252 : (Tryz.prog.info? 252).isSome = true := by kernel_rfl
theorem zero252 : zeroCs Tryz.prog 252 = some [.d (.o .nilFunc)] := by kernel_rfl
theorem cells254 : Tryz.prog.cellsOf 254 = 1 := by kernel_rfl
theorem bytes254 : Tryz.prog.bytesOf 254 = 8 := by kernel_rfl
theorem info254 : (Tryz.prog.info? 254).isSome = true := by kernel_rfl
theorem zero254 : zeroCs Tryz.prog 254 = some [.d (.o .nilFunc)] := by kernel_rfl
theorem cells255 : Tryz.prog.cellsOf 255 = 1 := by kernel_rfl
theorem bytes255 : Tryz.prog.bytesOf 255 = 8 := by kernel_rfl
theorem info255 : (Tryz.prog.info? 255).isSome = true := by kernel_rfl
theorem zero255 : zeroCs Tryz.prog 255 = some [.d (.o .nilFunc)] := by kernel_rfl
theorem cells256 : Tryz.prog.cellsOf 256 = 1 := by kernel_rfl
theorem bytes256 : Tryz.prog.bytesOf 256 = 8 := by kernel_rfl
theorem info256 : (Tryz.prog.info? 256).isSome = true := by kernel_rfl
theorem zero256 : zeroCs Tryz.prog 256 = some [.d (.o .nilFunc)] := by kernel_rfl
theorem cells257 : Tryz.prog.cellsOf 257 = 1 := by kernel_rfl
theorem bytes257 : Tryz.prog.bytesOf 257 = 8 := by kernel_rfl
theorem info257 : (Tryz.prog.info? 257).isSome = true := by kernel_rfl
theorem zero257 : zeroCs Tryz.prog 257 = some [.d (.o .nilFunc)] := by kernel_rfl
theorem cells258 : Tryz.prog.cellsOf 258 = 1 := by kernel_rfl
theorem bytes258 : Tryz.prog.bytesOf 258 = 8 := by kernel_rfl
theorem info258 : (Tryz.prog.info? 258).isSome = true := by kernel_rfl
theorem zero258 : zeroCs Tryz.prog 258 = some [.d (.o .nilFunc)] := by kernel_rfl
theorem cells259 : Tryz.prog.cellsOf 259 = 1 := by kernel_rfl
theorem bytes259 : Tryz.prog.bytesOf 259 = 8 := by kernel_rfl
theorem info259 : (Tryz.prog.info? 259).isSome = true := by kernel_rfl
theorem zero259 : zeroCs Tryz.prog 259 = some [.d (.o .nilFunc)] := by kernel_rfl
theorem cells260 : Tryz.prog.cellsOf 260 = 1 := by kernel_rfl
theorem bytes260 : Tryz.prog.bytesOf 260 = 8 := by kernel_rfl
theorem info260 : (Tryz.prog.info? 260).isSome = true := by kernel_rfl
theorem zero260 : zeroCs Tryz.prog 260 = some [.d (.o .nilFunc)] := by kernel_rfl
theorem cells261 : Tryz.prog.cellsOf 261 = 1 := by kernel_rfl
theorem bytes261 : Tryz.prog.bytesOf 261 = 8 := by kernel_rfl
theorem info261 : (Tryz.prog.info? 261).isSome = true := by kernel_rfl
theorem zero261 : zeroCs Tryz.prog 261 = some [.d (.o .nilFunc)] := by kernel_rfl
theorem cells262 : Tryz.prog.cellsOf 262 = 1 := by kernel_rfl
theorem bytes262 : Tryz.prog.bytesOf 262 = 24 := by kernel_rfl
theorem info262 : (Tryz.prog.info? 262).isSome = true := by kernel_rfl
theorem zero262 : zeroCs Tryz.prog 262 = some [.fsl []] := by kernel_rfl
theorem cells263 : Tryz.prog.cellsOf 263 = 3 := by kernel_rfl
theorem bytes263 : Tryz.prog.bytesOf 263 = 64 := by kernel_rfl
theorem info263 : (Tryz.prog.info? 263).isSome = true := by kernel_rfl
theorem zero263 : zeroCs Tryz.prog 263 = some [.d (.s []), .fsl [], .fsl []] := by kernel_rfl
theorem cells264 : Tryz.prog.cellsOf 264 = 3 := by kernel_rfl
theorem bytes264 : Tryz.prog.bytesOf 264 = 64 := by kernel_rfl
theorem info264 : (Tryz.prog.info? 264).isSome = true := by kernel_rfl
theorem zero264 : zeroCs Tryz.prog 264 = some [.d (.s []), .fsl [], .fsl []] := by kernel_rfl
theorem cells265 : Tryz.prog.cellsOf 265 = 1 := by kernel_rfl
theorem bytes265 : Tryz.prog.bytesOf 265 = 8 := by kernel_rfl
theorem info265 : (Tryz.prog.info? 265).isSome = true := by kernel_rfl
theorem zero265 : zeroCs Tryz.prog 265 = some [.d (.o .nilFunc)] := by kernel_rfl
theorem cells266 : Tryz.prog.cellsOf 266 = 1 := by kernel_rfl
theorem bytes266 : Tryz.prog.bytesOf 266 = 8 := by kernel_rfl
theorem info266 : (Tryz.prog.info? 266).isSome = true := by kernel_rfl
theorem zero266 : zeroCs Tryz.prog 266 = some [.d (.o .nilFunc)] := by kernel_rfl
theorem cells267 : Tryz.prog.cellsOf 267 = 1 := by kernel_rfl
theorem bytes267 : Tryz.prog.bytesOf 267 = 8 := by kernel_rfl
theorem info267 : (Tryz.prog.info? 267).isSome = true := by kernel_rfl
theorem zero267 : zeroCs Tryz.prog 267 = some [.d (.o .nilFunc)] := by kernel_rfl
theorem cells269 : Tryz.prog.cellsOf 269 = 1 := by kernel_rfl
theorem bytes269 : Tryz.prog.bytesOf 269 = 8 := by kernel_rfl
theorem info269 : (Tryz.prog.info? 269).isSome = true := by kernel_rfl
theorem zero269 : zeroCs Tryz.prog 269 = some [.d (.o .nilFunc)] := by kernel_rfl
theorem cells270 : Tryz.prog.cellsOf 270 = 1 := by kernel_rfl
theorem bytes270 : Tryz.prog.bytesOf 270 = 8 := by kernel_rfl
theorem info270 : (Tryz.prog.info? 270).isSome = true := by kernel_rfl
theorem zero270 : zeroCs Tryz.prog 270 = some [.d (.o .nilFunc)] := by kernel_rfl
theorem cells271 : Tryz.prog.cellsOf 271 = 1 := by kernel_rfl
theorem bytes271 : Tryz.prog.bytesOf 271 = 8 := by kernel_rfl
theorem info271 : (Tryz.prog.info? 271).isSome = true := by kernel_rfl
theorem zero271 : zeroCs Tryz.prog 271 = some [.d (.o .nilFunc)] := by kernel_rfl
theorem cells272 : Tryz.prog.cellsOf 272 = 1 := by kernel_rfl
theorem bytes272 : Tryz.prog.bytesOf 272 = 24 := by kernel_rfl
theorem info272 : (Tryz.prog.info? 272).isSome = true := by kernel_rfl
theorem zero272 : zeroCs Tryz.prog 272 = some [.fsl []] := by kernel_rfl
theorem cells273 : Tryz.prog.cellsOf 273 = 1 := by kernel_rfl
theorem bytes273 : Tryz.prog.bytesOf 273 = 8 := by kernel_rfl
theorem info273 : (Tryz.prog.info? 273).isSome = true := by kernel_rfl
theorem zero273 : zeroCs Tryz.prog 273 = some [.d (.o .nilFunc)] := by kernel_rfl
theorem cells274 : Tryz.prog.cellsOf 274 = 1 := by kernel_rfl
theorem bytes274 : Tryz.prog.bytesOf 274 = 8 := by kernel_rfl
theorem info274 : (Tryz.prog.info? 274).isSome = true := by kernel_rfl
theorem zero274 : zeroCs Tryz.prog 274 = some [.d (.o .nilFunc)] := by kernel_rfl
theorem cells275 : Tryz.prog.cellsOf 275 = 1 := by kernel_rfl
theorem bytes275 : Tryz.prog.bytesOf 275 = 8 := by kernel_rfl
theorem info275 : (Tryz.prog.info? 275).isSome = true := by kernel_rfl
theorem zero275 : zeroCs Tryz.prog 275 = some [.d (.o .nilFunc)] := by kernel_rfl
theorem cells276 : Tryz.prog.cellsOf 276 = 1 := by kernel_rfl
theorem bytes276 : Tryz.prog.bytesOf 276 = 8 := by kernel_rfl
theorem info276 : (Tryz.prog.info? 276).isSome = true := by kernel_rfl
theorem zero276 : zeroCs Tryz.prog 276 = some [.d (.o .nilFunc)] := by kernel_rfl
theorem cells277 : Tryz.prog.cellsOf 277 = 1 := by kernel_rfl
theorem bytes277 : Tryz.prog.bytesOf 277 = 8 := by kernel_rfl
theorem info277 : (Tryz.prog.info? 277).isSome = true := by kernel_rfl
theorem zero277 : zeroCs Tryz.prog 277 = some [.d (.o .nilFunc)] := by kernel_rfl
theorem cells278 : Tryz.prog.cellsOf 278 = 1 := by kernel_rfl
theorem bytes278 : Tryz.prog.bytesOf 278 = 8 := by kernel_rfl
theorem info278 : (Tryz.prog.info? 278).isSome = true := by kernel_rfl
theorem zero278 : zeroCs Tryz.prog 278 = some [.d (.o .nilFunc)] := by kernel_rfl
theorem cells279 : Tryz.prog.cellsOf 279 = 1 := by kernel_rfl
theorem bytes279 : Tryz.prog.bytesOf 279 = 8 := by kernel_rfl
theorem info279 : (Tryz.prog.info? 279).isSome = true := by kernel_rfl
theorem zero279 : zeroCs Tryz.prog 279 = some [.d (.o .nilFunc)] := by kernel_rfl
theorem cells280 : Tryz.prog.cellsOf 280 = 1 := by kernel_rfl
theorem bytes280 : Tryz.prog.bytesOf 280 = 8 := by kernel_rfl
theorem info280 : (Tryz.prog.info? 280).isSome = true := by kernel_rfl
theorem zero280 : zeroCs Tryz.prog 280 = some [.d (.o .nilFunc)] := by kernel_rfl
theorem cells281 : Tryz.prog.cellsOf 281 = 2 := by kernel_rfl
theorem bytes281 : Tryz.prog.bytesOf 281 = 40 := by kernel_rfl
theorem info281 : (Tryz.prog.info? 281).isSome = true := by kernel_rfl
theorem zero281 : zeroCs Tryz.prog 281 = some [.d (.s []), .fsl []] := by kernel_rfl
theorem cells282 : Tryz.prog.cellsOf 282 = 2 := by kernel_rfl
theorem bytes282 : Tryz.prog.bytesOf 282 = 40 := by kernel_rfl
theorem info282 : (Tryz.prog.info? 282).isSome = true := by kernel_rfl
theorem zero282 : zeroCs Tryz.prog 282 = some [.d (.s []), .fsl []] := by kernel_rfl
theorem cells283 : Tryz.prog.cellsOf 283 = 2 := by kernel_rfl
theorem bytes283 : Tryz.prog.bytesOf 283 = 40 := by kernel_rfl
theorem info283 : (Tryz.prog.info? 283).isSome = true := by kernel_rfl
theorem zero283 : zeroCs Tryz.prog 283 = some [.d (.s []), .fsl []] := by kernel_rfl
theorem cells284 : Tryz.prog.cellsOf 284 = 2 := by kernel_rfl
theorem bytes284 : Tryz.prog.bytesOf 284 = 40 := by kernel_rfl
theorem info284 : (Tryz.prog.info? 284).isSome = true := by kernel_rfl
theorem zero284 : zeroCs Tryz.prog 284 = some [.d (.s []), .fsl []] := by kernel_rfl
theorem cells285 : Tryz.prog.cellsOf 285 = 1 := by kernel_rfl
theorem bytes285 : Tryz.prog.bytesOf 285 = 8 := by kernel_rfl
theorem info285 : (Tryz.prog.info? 285).isSome = true := by kernel_rfl
theorem zero285 : zeroCs Tryz.prog 285 = some [.d (.o .nilFunc)] := by kernel_rfl
theorem cells286 : Tryz.prog.cellsOf 286 = 1 := by kernel_rfl
theorem bytes286 : Tryz.prog.bytesOf 286 = 8 := by kernel_rfl
theorem info286 : (Tryz.prog.info? 286).isSome = true := by kernel_rfl
theorem zero286 : zeroCs Tryz.prog 286 = some [.d (.o .nilFunc)] := by kernel_rfl
theorem cells287 : Tryz.prog.cellsOf 287 = 1 := by kernel_rfl
theorem bytes287 : Tryz.prog.bytesOf 287 = 8 := by kernel_rfl
theorem info287 : (Tryz.prog.info? 287).isSome = true := by kernel_rfl
theorem zero287 : zeroCs Tryz.prog 287 = some [.d (.o .nilFunc)] := by kernel_rfl
theorem cells288 : Tryz.prog.cellsOf 288 = 1 := by kernel_rfl
theorem bytes288 : Tryz.prog.bytesOf 288 = 8 := by kernel_rfl
theorem info288 : (Tryz.prog.info? 288).isSome = true := by kernel_rfl
theorem zero288 : zeroCs Tryz.prog 288 = some [.d (.o .nilFunc)] := by kernel_rfl
theorem cells289 : Tryz.prog.cellsOf 289 = 1 := by kernel_rfl
theorem bytes289 : Tryz.prog.bytesOf 289 = 8 := by kernel_rfl
theorem info289 : (Tryz.prog.info? 289).isSome = true := by kernel_rfl
theorem zero289 : zeroCs Tryz.prog 289 = some [.d (.o .nilFunc)] := by kernel_rfl
theorem cells290 : Tryz.prog.cellsOf 290 = 1 := by kernel_rfl
theorem bytes290 : Tryz.prog.bytesOf 290 = 8 := by kernel_rfl
theorem info290 : (Tryz.prog.info? 290).isSome = true := by kernel_rfl
theorem zero290 : zeroCs Tryz.prog 290 = some [.d (.o .nilFunc)] := by kernel_rfl
theorem cells291 : Tryz.prog.cellsOf 291 = 1 := by kernel_rfl
theorem bytes291 : Tryz.prog.bytesOf 291 = 8 := by kernel_rfl
theorem info291 : (Tryz.prog.info? 291).isSome = true := by kernel_rfl
theorem zero291 : zeroCs Tryz.prog 291 = some [.d (.i .u64 0)] := by kernel_rfl
theorem cells292 : Tryz.prog.cellsOf 292 = 1 := by kernel_rfl
theorem bytes292 : Tryz.prog.bytesOf 292 = 4 := by kernel_rfl
theorem info292 : (Tryz.prog.info? 292).isSome = true := by kernel_rfl
theorem zero292 : zeroCs Tryz.prog 292 = some [.d (.i .u32 0)] := by kernel_rfl
theorem cells294 : Tryz.prog.cellsOf 294 = 1 := by kernel_rfl
theorem bytes294 : Tryz.prog.bytesOf 294 = 8 := by kernel_rfl
theorem info294 : (Tryz.prog.info? 294).isSome = true := by kernel_rfl
theorem zero294 : zeroCs Tryz.prog 294 = some [.d (.o .nilFunc)] := by kernel_rfl
theorem cells295 : Tryz.prog.cellsOf 295 = 1 := by kernel_rfl
theorem bytes295 : Tryz.prog.bytesOf 295 = 8 := by kernel_rfl
theorem info295 : (Tryz.prog.info? 295).isSome = true := by kernel_rfl
theorem zero295 : zeroCs Tryz.prog 295 = some [.d (.o .nilFunc)] := by kernel_rfl
theorem cells301 : Tryz.prog.cellsOf 301 = 1 := by kernel_rfl
theorem bytes301 : Tryz.prog.bytesOf 301 = 8 := by kernel_rfl
theorem info301 : (Tryz.prog.info? 301).isSome = true := by kernel_rfl
theorem zero301 : zeroCs Tryz.prog 301 = some [.d (.o .nilFunc)] := by kernel_rfl
theorem cells305 : Tryz.prog.cellsOf 305 = 1 := by kernel_rfl
theorem bytes305 : Tryz.prog.bytesOf 305 = 8 := by kernel_rfl
theorem info305 : (Tryz.prog.info? 305).isSome = true := by kernel_rfl
theorem zero305 : zeroCs Tryz.prog 305 = some [.d (.o (.pointer none))] := by kernel_rfl
theorem cells310 : Tryz.prog.cellsOf 310 = 1 := by kernel_rfl
theorem bytes310 : Tryz.prog.bytesOf 310 = 8 := by kernel_rfl
theorem info310 : (Tryz.prog.info? 310).isSome = true := by kernel_rfl
theorem zero310 : zeroCs Tryz.prog 310 = some [.d (.o .nilFunc)] := by kernel_rfl
theorem cells311 : Tryz.prog.cellsOf 311 = 1 := by kernel_rfl
theorem bytes311 : Tryz.prog.bytesOf 311 = 8 := by kernel_rfl
theorem info311 : (Tryz.prog.info? 311).isSome = true := by kernel_rfl
theorem zero311 : zeroCs Tryz.prog 311 = some [.d (.o .nilFunc)] := by kernel_rfl
theorem cells312 : Tryz.prog.cellsOf 312 = 1 := by kernel_rfl
theorem bytes312 : Tryz.prog.bytesOf 312 = 8 := by kernel_rfl
theorem info312 : (Tryz.prog.info? 312).isSome = true := by kernel_rfl
theorem zero312 : zeroCs Tryz.prog 312 = some [.d (.o .nilFunc)] := by kernel_rfl
theorem laidOut : laidOutB Tryz.prog = true := by kernel_rfl
theorem own : ownKnob Tryz.prog.godebug = none := by kernel_rfl
attribute [go_sem] cells1 bytes1 info1 zero1 Tryz.underlying1 cells2 bytes2 info2 zero2 Tryz.underlying2 cells3 bytes3 info3 zero3 Tryz.underlying3 cells4 bytes4 info4 zero4 Tryz.underlying4 zval4 cells5 bytes5 info5 zero5 Tryz.underlying5 cells9 bytes9 info9 zero9 Tryz.underlying9 cells12 bytes12 info12 zero12 Tryz.underlying12 cells20 bytes20 info20 zero20 Tryz.underlying20 cells21 bytes21 info21 zero21 Tryz.underlying21 cells22 bytes22 info22 zero22 Tryz.underlying22 cells23 bytes23 info23 zero23 Tryz.underlying23 cells24 bytes24 info24 zero24 Tryz.underlying24 cells25 bytes25 info25 zero25 Tryz.underlying25 cells26 bytes26 info26 zero26 Tryz.underlying26 cells27 bytes27 info27 zero27 Tryz.underlying27 cells28 bytes28 info28 zero28 Tryz.underlying28 cells29 bytes29 info29 zero29 Tryz.underlying29 cells30 bytes30 info30 zero30 Tryz.underlying30 cells31 bytes31 info31 zero31 Tryz.underlying31 cells32 bytes32 info32 zero32 Tryz.underlying32 cells33 bytes33 info33 zero33 Tryz.underlying33 cells34 bytes34 info34 zero34 Tryz.underlying34 cells35 bytes35 info35 zero35 Tryz.underlying35 cells36 bytes36 info36 zero36 Tryz.underlying36 cells37 bytes37 info37 zero37 Tryz.underlying37 cells38 bytes38 info38 zero38 Tryz.underlying38 cells39 bytes39 info39 zero39 Tryz.underlying39 cells40 bytes40 info40 zero40 Tryz.underlying40 cells41 bytes41 info41 zero41 Tryz.underlying41 cells42 bytes42 info42 zero42 Tryz.underlying42 cells43 bytes43 info43 zero43 Tryz.underlying43 cells44 bytes44 info44 zero44 Tryz.underlying44 cells45 bytes45 info45 zero45 Tryz.underlying45 cells46 bytes46 info46 zero46 Tryz.underlying46 cells47 bytes47 info47 zero47 Tryz.underlying47 cells48 bytes48 info48 zero48 Tryz.underlying48 cells49 bytes49 info49 zero49 Tryz.underlying49 cells50 bytes50 info50 zero50 Tryz.underlying50 cells51 bytes51 info51 zero51 Tryz.underlying51 cells52 bytes52 info52 zero52 Tryz.underlying52 cells53 bytes53 info53 zero53 Tryz.underlying53 cells54 bytes54 info54 zero54 Tryz.underlying54 cells55 bytes55 info55 zero55 Tryz.underlying55 cells56 bytes56 info56 zero56 Tryz.underlying56 cells57 bytes57 info57 zero57 Tryz.underlying57 cells58 bytes58 info58 zero58 Tryz.underlying58 cells59 bytes59 info59 zero59 Tryz.underlying59 cells60 bytes60 info60 zero60 Tryz.underlying60 cells61 bytes61 info61 zero61 Tryz.underlying61 cells62 bytes62 info62 zero62 Tryz.underlying62 cells63 bytes63 info63 zero63 Tryz.underlying63 cells64 bytes64 info64 zero64 Tryz.underlying64 cells65 bytes65 info65 zero65 Tryz.underlying65 cells66 bytes66 info66 zero66 Tryz.underlying66 cells67 bytes67 info67 zero67 Tryz.underlying67 cells68 bytes68 info68 zero68 Tryz.underlying68 cells69 bytes69 info69 zero69 Tryz.underlying69 cells70 bytes70 info70 zero70 Tryz.underlying70 cells71 bytes71 info71 zero71 Tryz.underlying71 cells72 bytes72 info72 zero72 Tryz.underlying72 cells73 bytes73 info73 zero73 Tryz.underlying73 cells74 bytes74 info74 zero74 Tryz.underlying74 cells75 bytes75 info75 zero75 Tryz.underlying75 cells76 bytes76 info76 zero76 Tryz.underlying76 cells77 bytes77 info77 zero77 Tryz.underlying77 cells78 bytes78 info78 zero78 Tryz.underlying78 cells79 bytes79 info79 zero79 Tryz.underlying79 cells80 bytes80 info80 zero80 Tryz.underlying80 cells81 bytes81 info81 zero81 Tryz.underlying81 cells82 bytes82 info82 zero82 Tryz.underlying82 cells83 bytes83 info83 zero83 Tryz.underlying83 cells84 bytes84 info84 zero84 Tryz.underlying84 cells85 bytes85 info85 zero85 Tryz.underlying85 cells86 bytes86 info86 zero86 Tryz.underlying86 cells87 bytes87 info87 zero87 Tryz.underlying87 cells88 bytes88 info88 zero88 Tryz.underlying88 cells89 bytes89 info89 zero89 Tryz.underlying89 cells90 bytes90 info90 zero90 Tryz.underlying90 cells91 bytes91 info91 zero91 Tryz.underlying91 cells92 bytes92 info92 zero92 Tryz.underlying92 cells93 bytes93 info93 zero93 Tryz.underlying93 cells94 bytes94 info94 zero94 Tryz.underlying94 cells95 bytes95 info95 zero95 Tryz.underlying95 cells96 bytes96 info96 zero96 Tryz.underlying96 cells97 bytes97 info97 zero97 Tryz.underlying97 cells98 bytes98 info98 zero98 Tryz.underlying98 cells99 bytes99 info99 zero99 Tryz.underlying99 cells100 bytes100 info100 zero100 Tryz.underlying100 cells101 bytes101 info101 zero101 Tryz.underlying101 cells102 bytes102 info102 zero102 Tryz.underlying102 cells103 bytes103 info103 zero103 Tryz.underlying103 cells104 bytes104 info104 zero104 Tryz.underlying104 cells105 bytes105 info105 zero105 Tryz.underlying105 cells106 bytes106 info106 zero106 Tryz.underlying106 cells107 bytes107 info107 zero107 Tryz.underlying107 cells108 bytes108 info108 zero108 Tryz.underlying108 cells109 bytes109 info109 zero109 Tryz.underlying109 cells110 bytes110 info110 zero110 Tryz.underlying110 cells111 bytes111 info111 zero111 Tryz.underlying111 cells112 bytes112 info112 zero112 Tryz.underlying112 cells113 bytes113 info113 zero113 Tryz.underlying113 cells114 bytes114 info114 zero114 Tryz.underlying114 cells115 bytes115 info115 zero115 Tryz.underlying115 cells116 bytes116 info116 zero116 Tryz.underlying116 cells117 bytes117 info117 zero117 Tryz.underlying117 cells118 bytes118 info118 zero118 Tryz.underlying118 cells119 bytes119 info119 zero119 Tryz.underlying119 cells120 bytes120 info120 zero120 Tryz.underlying120 cells121 bytes121 info121 zero121 Tryz.underlying121 cells122 bytes122 info122 zero122 Tryz.underlying122 cells123 bytes123 info123 zero123 Tryz.underlying123 cells124 bytes124 info124 zero124 Tryz.underlying124 cells125 bytes125 info125 zero125 Tryz.underlying125 cells126 bytes126 info126 zero126 Tryz.underlying126 cells127 bytes127 info127 zero127 Tryz.underlying127 cells128 bytes128 info128 zero128 Tryz.underlying128 cells129 bytes129 info129 zero129 Tryz.underlying129 cells130 bytes130 info130 zero130 Tryz.underlying130 cells131 bytes131 info131 zero131 Tryz.underlying131 cells132 bytes132 info132 zero132 Tryz.underlying132 cells133 bytes133 info133 zero133 Tryz.underlying133 cells134 bytes134 info134 zero134 Tryz.underlying134 cells135 bytes135 info135 zero135 Tryz.underlying135 cells136 bytes136 info136 zero136 Tryz.underlying136 cells137 bytes137 info137 zero137 Tryz.underlying137 cells138 bytes138 info138 zero138 Tryz.underlying138 cells139 bytes139 info139 zero139 Tryz.underlying139 cells140 bytes140 info140 zero140 Tryz.underlying140 cells141 bytes141 info141 zero141 Tryz.underlying141 cells142 bytes142 info142 zero142 Tryz.underlying142 cells143 bytes143 info143 zero143 Tryz.underlying143 cells144 bytes144 info144 zero144 Tryz.underlying144 cells145 bytes145 info145 zero145 Tryz.underlying145 cells146 bytes146 info146 zero146 Tryz.underlying146 cells147 bytes147 info147 zero147 Tryz.underlying147 cells149 bytes149 info149 zero149 Tryz.underlying149 cells150 bytes150 info150 zero150 Tryz.underlying150 cells151 bytes151 info151 zero151 Tryz.underlying151 cells152 bytes152 info152 zero152 Tryz.underlying152 cells153 bytes153 info153 zero153 Tryz.underlying153 cells154 bytes154 info154 zero154 Tryz.underlying154 cells155 bytes155 info155 zero155 Tryz.underlying155 cells156 bytes156 info156 zero156 Tryz.underlying156 cells157 bytes157 info157 zero157 Tryz.underlying157 cells158 bytes158 info158 zero158 Tryz.underlying158 cells159 bytes159 info159 zero159 Tryz.underlying159 cells160 bytes160 info160 zero160 Tryz.underlying160 cells161 bytes161 info161 zero161 Tryz.underlying161 cells162 bytes162 info162 zero162 Tryz.underlying162 cells163 bytes163 info163 zero163 Tryz.underlying163 cells164 bytes164 info164 zero164 Tryz.underlying164 cells165 bytes165 info165 zero165 Tryz.underlying165 cells166 bytes166 info166 zero166 Tryz.underlying166 cells167 bytes167 info167 zero167 Tryz.underlying167 cells168 bytes168 info168 zero168 Tryz.underlying168 cells169 bytes169 info169 zero169 Tryz.underlying169 cells170 bytes170 info170 zero170 Tryz.underlying170 cells171 bytes171 info171 zero171 Tryz.underlying171 cells172 bytes172 info172 zero172 Tryz.underlying172 cells173 bytes173 info173 zero173 Tryz.underlying173 cells174 bytes174 info174 zero174 Tryz.underlying174 cells175 bytes175 info175 zero175 Tryz.underlying175 cells176 bytes176 info176 zero176 Tryz.underlying176 cells177 bytes177 info177 zero177 Tryz.underlying177 cells178 bytes178 info178 zero178 Tryz.underlying178 cells179 bytes179 info179 zero179 Tryz.underlying179 cells180 bytes180 info180 zero180 Tryz.underlying180 cells181 bytes181 info181 zero181 Tryz.underlying181 cells182 bytes182 info182 zero182 Tryz.underlying182 cells183 bytes183 info183 zero183 Tryz.underlying183 cells184 bytes184 info184 zero184 Tryz.underlying184 cells185 bytes185 info185 zero185 Tryz.underlying185 cells186 bytes186 info186 zero186 Tryz.underlying186 cells187 bytes187 info187 zero187 Tryz.underlying187 cells188 bytes188 info188 zero188 Tryz.underlying188 cells189 bytes189 info189 zero189 Tryz.underlying189 cells190 bytes190 info190 zero190 Tryz.underlying190 cells191 bytes191 info191 zero191 Tryz.underlying191 cells192 bytes192 info192 zero192 Tryz.underlying192 cells193 bytes193 info193 zero193 Tryz.underlying193 cells194 bytes194 info194 zero194 Tryz.underlying194 cells195 bytes195 info195 zero195 Tryz.underlying195 cells196 bytes196 info196 zero196 Tryz.underlying196 cells197 bytes197 info197 zero197 Tryz.underlying197 cells198 bytes198 info198 zero198 Tryz.underlying198 cells199 bytes199 info199 zero199 Tryz.underlying199 cells200 bytes200 info200 zero200 Tryz.underlying200 cells201 bytes201 info201 zero201 Tryz.underlying201 cells202 bytes202 info202 zero202 Tryz.underlying202 cells203 bytes203 info203 zero203 Tryz.underlying203 cells204 bytes204 info204 zero204 Tryz.underlying204 cells205 bytes205 info205 zero205 Tryz.underlying205 cells206 bytes206 info206 zero206 Tryz.underlying206 cells207 bytes207 info207 zero207 Tryz.underlying207 cells208 bytes208 info208 zero208 Tryz.underlying208 cells210 bytes210 info210 zero210 Tryz.underlying210 cells211 bytes211 info211 zero211 Tryz.underlying211 cells213 bytes213 info213 zero213 Tryz.underlying213 cells214 bytes214 info214 zero214 Tryz.underlying214 cells215 bytes215 info215 zero215 Tryz.underlying215 cells216 bytes216 info216 zero216 Tryz.underlying216 cells217 bytes217 info217 zero217 Tryz.underlying217 cells218 bytes218 info218 zero218 Tryz.underlying218 cells219 bytes219 info219 zero219 Tryz.underlying219 cells220 bytes220 info220 zero220 Tryz.underlying220 cells221 bytes221 info221 zero221 Tryz.underlying221 cells222 bytes222 info222 zero222 Tryz.underlying222 cells223 bytes223 info223 zero223 Tryz.underlying223 cells224 bytes224 info224 zero224 Tryz.underlying224 cells225 bytes225 info225 zero225 Tryz.underlying225 cells226 bytes226 info226 zero226 Tryz.underlying226 cells227 bytes227 info227 zero227 Tryz.underlying227 cells228 bytes228 info228 zero228 Tryz.underlying228 cells229 bytes229 info229 zero229 Tryz.underlying229 cells230 bytes230 info230 zero230 Tryz.underlying230 cells231 bytes231 info231 zero231 Tryz.underlying231 cells232 bytes232 info232 zero232 Tryz.underlying232 cells233 bytes233 info233 zero233 Tryz.underlying233 cells234 bytes234 info234 zero234 Tryz.underlying234 cells235 bytes235 info235 zero235 Tryz.underlying235 cells236 bytes236 info236 zero236 Tryz.underlying236 cells237 bytes237 info237 zero237 Tryz.underlying237 cells238 bytes238 info238 zero238 Tryz.underlying238 cells239 bytes239 info239 zero239 Tryz.underlying239 cells240 bytes240 info240 zero240 Tryz.underlying240 cells241 bytes241 info241 zero241 Tryz.underlying241 cells242 bytes242 info242 zero242 Tryz.underlying242 cells243 bytes243 info243 zero243 Tryz.underlying243 cells244 bytes244 info244 zero244 Tryz.underlying244 cells245 bytes245 info245 zero245 Tryz.underlying245 cells247 bytes247 info247 zero247 Tryz.underlying247 cells248 bytes248 info248 zero248 Tryz.underlying248 cells249 bytes249 info249 zero249 Tryz.underlying249 cells250 bytes250 info250 zero250 Tryz.underlying250 cells251 bytes251 info251 zero251 Tryz.underlying251 cells252 bytes252 info252 zero252 Tryz.underlying252 cells254 bytes254 info254 zero254 Tryz.underlying254 cells255 bytes255 info255 zero255 Tryz.underlying255 cells256 bytes256 info256 zero256 Tryz.underlying256 cells257 bytes257 info257 zero257 Tryz.underlying257 cells258 bytes258 info258 zero258 Tryz.underlying258 cells259 bytes259 info259 zero259 Tryz.underlying259 cells260 bytes260 info260 zero260 Tryz.underlying260 cells261 bytes261 info261 zero261 Tryz.underlying261 cells262 bytes262 info262 zero262 Tryz.underlying262 cells263 bytes263 info263 zero263 Tryz.underlying263 cells264 bytes264 info264 zero264 Tryz.underlying264 cells265 bytes265 info265 zero265 Tryz.underlying265 cells266 bytes266 info266 zero266 Tryz.underlying266 cells267 bytes267 info267 zero267 Tryz.underlying267 cells269 bytes269 info269 zero269 Tryz.underlying269 cells270 bytes270 info270 zero270 Tryz.underlying270 cells271 bytes271 info271 zero271 Tryz.underlying271 cells272 bytes272 info272 zero272 Tryz.underlying272 cells273 bytes273 info273 zero273 Tryz.underlying273 cells274 bytes274 info274 zero274 Tryz.underlying274 cells275 bytes275 info275 zero275 Tryz.underlying275 cells276 bytes276 info276 zero276 Tryz.underlying276 cells277 bytes277 info277 zero277 Tryz.underlying277 cells278 bytes278 info278 zero278 Tryz.underlying278 cells279 bytes279 info279 zero279 Tryz.underlying279 cells280 bytes280 info280 zero280 Tryz.underlying280 cells281 bytes281 info281 zero281 Tryz.underlying281 cells282 bytes282 info282 zero282 Tryz.underlying282 cells283 bytes283 info283 zero283 Tryz.underlying283 cells284 bytes284 info284 zero284 Tryz.underlying284 cells285 bytes285 info285 zero285 Tryz.underlying285 cells286 bytes286 info286 zero286 Tryz.underlying286 cells287 bytes287 info287 zero287 Tryz.underlying287 cells288 bytes288 info288 zero288 Tryz.underlying288 cells289 bytes289 info289 zero289 Tryz.underlying289 cells290 bytes290 info290 zero290 Tryz.underlying290 cells291 bytes291 info291 zero291 Tryz.underlying291 cells292 bytes292 info292 zero292 Tryz.underlying292 cells294 bytes294 info294 zero294 Tryz.underlying294 cells295 bytes295 info295 zero295 Tryz.underlying295 cells301 bytes301 info301 zero301 Tryz.underlying301 cells305 bytes305 info305 zero305 Tryz.underlying305 cells310 bytes310 info310 zero310 Tryz.underlying310 cells311 bytes311 info311 zero311 Tryz.underlying311 cells312 bytes312 info312 zero312 Tryz.underlying312
end Go.Proofs.YtjfhgcnoielpfaaGreat.Fa

/- CONTRACTS OF THE LAWS' HELPERS FOR LISTS OF STRINGS: sz counts the letters and places, to copies, eq compares. -/
namespace Go.Proofs.YtjfhgcnoielpfaaGreat
open Go Go.Ab

theorem szStringS_ok (xs : List (List UInt8)) (left : Int) (h0 : 0 ≤ left) (h1 : left ≤ 1048576) (hf : (D.sl (xs.map encS)).Fit) :
    PCall Tryz.prog 39 [.c (.d (.sl (xs.map encS))), .c (.d (.i .i64 left))] (.c (.d (.i .i64 (sub1 left (xs.length + szRows (xs.map encS)))))) := by
  intro S
  obtain ⟨hf1, hf2⟩ := fit_sl hf
  rw [List.length_map] at hf1
  refine acall_cw (rs := [.tmp 4]) Tryz.checked.mixed Tryz.func39 Tryz.ntmps39 rfl rfl rfl rfl rfl ?_
  simp -implicitDefEqProofs (disch := omega) only [go_sem, ↓reduceIte, Nat.reduceEqDiff, Nat.reduceAdd, Nat.reduceLeDiff, Nat.reduceSub, Nat.reduceMul, Nat.reduceBEq, Int.reduceEq, Int.reduceLT, Int.reduceLE, Int.reduceGT, Int.reduceGE, Int.reduceNeg, Int.reduceToNat]
  with_reducible refine split2 (fun hb => ?_) (fun hb => ?_) <;> have h := hb <;> (try simp only [decide_eq_true_eq, decide_eq_false_iff_not, Bool.not_eq_true, Bool.not_eq_false, Bool.not_eq_eq_eq_not, Bool.not_true, Bool.not_false, dec_eq_true, dec_eq_false, Classical.not_not] at h) <;> simp -implicitDefEqProofs (disch := omega) only [go_sem, hb, ↓reduceIte, Nat.reduceEqDiff, Nat.reduceAdd, Nat.reduceLeDiff, Nat.reduceSub, Nat.reduceMul, Nat.reduceBEq, Int.reduceEq, Int.reduceLT, Int.reduceLE, Int.reduceGT, Int.reduceGE, Int.reduceNeg, Int.reduceToNat] <;> (repeat ((with_reducible refine And.intro ?_ ?_); (focus (first | omega | rfl | assumption | exact ⟨_, rfl, rfl⟩ | (simp only [List.length_take, List.length_map, List.length_append, List.length_cons, List.length_nil]; omega) | (simp; done)))))
  · exact int_eq (sub1_no (by omega)).symm
  refine loop_at (ι := Nat × Int) Tryz.checked.mixed rfl [0, 1, 5] (fun y => [.c (.d (.sl (xs.map encS))), .c (.d (.i .i64 y.2)), .c (.d (.i .i64 y.1))]) (fun _ => [] :: S)
    (fun y => y.1 ≤ xs.length ∧ 0 ≤ y.2 ∧ y.2 ≤ 1048576 ∧ sub1 y.2 (szRows ((xs.map encS).drop y.1)) = sub1 left (xs.length + szRows (xs.map encS))) (fun y => xs.length - y.1) (0, left - xs.length) rfl rfl ⟨by omega, by omega, by omega, ?_⟩ ?_
  · unfold sub1
    rw [List.drop_zero]
    split <;> split <;> omega
  rintro ⟨i, l⟩ ⟨p1, p2, p3, p4⟩
  simp only at p1 p2 p3 p4
  simp -implicitDefEqProofs (disch := omega) only [go_sem, ↓reduceIte, Nat.reduceEqDiff, Nat.reduceAdd, Nat.reduceLeDiff, Nat.reduceSub, Nat.reduceMul, Nat.reduceBEq, Int.reduceEq, Int.reduceLT, Int.reduceLE, Int.reduceGT, Int.reduceGE, Int.reduceNeg, Int.reduceToNat]
  with_reducible refine split2 (fun hb => ?_) (fun hb => ?_) <;> have h := hb <;> (try simp only [decide_eq_true_eq, decide_eq_false_iff_not, Bool.not_eq_true, Bool.not_eq_false, Bool.not_eq_eq_eq_not, Bool.not_true, Bool.not_false, dec_eq_true, dec_eq_false, Classical.not_not] at h) <;> simp -implicitDefEqProofs (disch := omega) only [go_sem, hb, ↓reduceIte, Nat.reduceEqDiff, Nat.reduceAdd, Nat.reduceLeDiff, Nat.reduceSub, Nat.reduceMul, Nat.reduceBEq, Int.reduceEq, Int.reduceLT, Int.reduceLE, Int.reduceGT, Int.reduceGE, Int.reduceNeg, Int.reduceToNat] <;> (repeat ((with_reducible refine And.intro ?_ ?_); (focus (first | omega | rfl | assumption | exact ⟨_, rfl, rfl⟩ | (simp only [List.length_take, List.length_map, List.length_append, List.length_cons, List.length_nil]; omega) | (simp; done)))))
  · have hi : i < xs.length := by omega
    have hl : xs[i].length ≤ 9223372036854775807 := fit_s (hf2 (encS xs[i]) (List.mem_map_of_mem (List.getElem_mem hi)) (.s xs[i]) (by simp [encS]))
    rw [List.drop_eq_getElem_cons (by rw [List.length_map]; exact hi), szRows, List.getElem_map] at p4
    simp only [encS, szRow, D.sz] at p4
    simp -implicitDefEqProofs (disch := omega) only [go_sem, ↓reduceIte, Nat.reduceEqDiff, Nat.reduceAdd, Nat.reduceLeDiff, Nat.reduceSub, Nat.reduceMul, Nat.reduceBEq, Int.reduceEq, Int.reduceLT, Int.reduceLE, Int.reduceGT, Int.reduceGE, Int.reduceNeg, Int.reduceToNat]
    (repeat ((with_reducible refine And.intro ?_ ?_); (focus (first | omega | rfl | assumption | exact ⟨_, rfl, rfl⟩ | (simp only [List.length_take, List.length_map, List.length_append, List.length_cons, List.length_nil]; omega) | (simp; done)))))
    with_reducible refine split2 (fun hb => ?_) (fun hb => ?_) <;> have h := hb <;> (try simp only [decide_eq_true_eq, decide_eq_false_iff_not, Bool.not_eq_true, Bool.not_eq_false, Bool.not_eq_eq_eq_not, Bool.not_true, Bool.not_false, dec_eq_true, dec_eq_false, Classical.not_not] at h) <;> simp -implicitDefEqProofs (disch := omega) only [go_sem, hb, ↓reduceIte, Nat.reduceEqDiff, Nat.reduceAdd, Nat.reduceLeDiff, Nat.reduceSub, Nat.reduceMul, Nat.reduceBEq, Int.reduceEq, Int.reduceLT, Int.reduceLE, Int.reduceGT, Int.reduceGE, Int.reduceNeg, Int.reduceToNat] <;> (repeat ((with_reducible refine And.intro ?_ ?_); (focus (first | omega | rfl | assumption | exact ⟨_, rfl, rfl⟩ | (simp only [List.length_take, List.length_map, List.length_append, List.length_cons, List.length_nil]; omega) | (simp; done)))))
    · rw [← p4, sub1_no (by omega)]
    · refine inv_at (i + 1, l - xs[i].length) (by simp only; omega) rfl rfl ⟨by simp only; omega, by simp only; omega, by simp only; omega, ?_⟩
      simp only
      rw [← p4]
      unfold sub1
      split <;> split <;> omega
  · have hi : i = xs.length := by omega
    rw [hi, List.drop_of_length_le (by simp), szRows, sub1_yes (by omega)] at p4
    rw [← p4]
    refine int_eq ?_
    omega
theorem toStringS_ok (xs : List (List UInt8)) (hsz : xs.length + szRows (xs.map encS) ≤ 1048576) : PCall Tryz.prog 48 [.c (.d (.sl (xs.map encS)))] (.c (.d (.sl (xs.map encS)))) := by
  intro S
  refine acall_cw (rs := [.tmp 2]) Tryz.checked.mixed Tryz.func48 Tryz.ntmps48 rfl rfl rfl rfl rfl ?_
  simp -implicitDefEqProofs (disch := omega) only [go_sem, ↓reduceIte, Nat.reduceEqDiff, Nat.reduceAdd, Nat.reduceLeDiff, Nat.reduceSub, Nat.reduceMul, Nat.reduceBEq, Int.reduceEq, Int.reduceLT, Int.reduceLE, Int.reduceGT, Int.reduceGE, Int.reduceNeg, Int.reduceToNat]
  (repeat ((with_reducible refine And.intro ?_ ?_); (focus (first | omega | rfl | assumption | exact ⟨_, rfl, rfl⟩ | (simp only [List.length_take, List.length_map, List.length_append, List.length_cons, List.length_nil]; omega) | (simp; done)))))
  refine loop_at (ι := Nat × List (List D)) Tryz.checked.mixed rfl [0, 3, 4] (fun y => [.c (.d (.sl (xs.map encS))), .c (.msl (0, 0)), .c (.d (.i .i64 y.1))]) (fun y => [.mrow 1 y.2] :: S)
    (fun y => y.1 ≤ xs.length ∧ Filled 1 y.1 y.2 (xs.map encS)) (fun y => xs.length - y.1) (0, _) rfl rfl ⟨Nat.zero_le _, Filled.start (by simp) rfl⟩ ?_
  rintro ⟨i, R⟩ ⟨p1, p2⟩
  simp only at p1 p2
  simp -implicitDefEqProofs (disch := omega) only [go_sem, ↓reduceIte, Nat.reduceEqDiff, Nat.reduceAdd, Nat.reduceLeDiff, Nat.reduceSub, Nat.reduceMul, Nat.reduceBEq, Int.reduceEq, Int.reduceLT, Int.reduceLE, Int.reduceGT, Int.reduceGE, Int.reduceNeg, Int.reduceToNat]
  with_reducible refine split2 (fun hb => ?_) (fun hb => ?_) <;> have h := hb <;> (try simp only [decide_eq_true_eq, decide_eq_false_iff_not, Bool.not_eq_true, Bool.not_eq_false, Bool.not_eq_eq_eq_not, Bool.not_true, Bool.not_false, dec_eq_true, dec_eq_false, Classical.not_not] at h) <;> simp -implicitDefEqProofs (disch := omega) only [go_sem, hb, ↓reduceIte, Nat.reduceEqDiff, Nat.reduceAdd, Nat.reduceLeDiff, Nat.reduceSub, Nat.reduceMul, Nat.reduceBEq, Int.reduceEq, Int.reduceLT, Int.reduceLE, Int.reduceGT, Int.reduceGE, Int.reduceNeg, Int.reduceToNat] <;> (repeat ((with_reducible refine And.intro ?_ ?_); (focus (first | omega | rfl | assumption | exact ⟨_, rfl, rfl⟩ | (simp only [List.length_take, List.length_map, List.length_append, List.length_cons, List.length_nil]; omega) | (simp; done)))))
  · have hi : i < xs.length := by omega
    have hR := p2.1
    rw [List.length_map] at hR
    (repeat ((with_reducible refine And.intro ?_ ?_); (focus (first | omega | rfl | assumption | exact ⟨_, rfl, rfl⟩ | (simp only [List.length_take, List.length_map, List.length_append, List.length_cons, List.length_nil]; omega) | (simp; done)))))
    refine inv_at (i + 1, _) (by simp only; omega) rfl rfl ⟨by simp only; omega, p2.step (by simp [hi, encS]) rfl⟩
  · have hi : i = xs.length := by omega
    rw [p2.done (by rw [List.length_map]; omega)]
theorem eqStringS_ok (xs ys : List (List UInt8)) (hsz : xs.length ≤ 1048576) : PCall Tryz.prog 60 [.c (.d (.sl (xs.map encS))), .c (.d (.sl (ys.map encS)))] (.c (.d (.b (dec (xs = ys))))) := by
  intro S
  refine acall_cw (rs := [.tmp 4]) Tryz.checked.mixed Tryz.func60 Tryz.ntmps60 rfl rfl rfl rfl rfl ?_
  simp -implicitDefEqProofs (disch := omega) only [go_sem, ↓reduceIte, Nat.reduceEqDiff, Nat.reduceAdd, Nat.reduceLeDiff, Nat.reduceSub, Nat.reduceMul, Nat.reduceBEq, Int.reduceEq, Int.reduceLT, Int.reduceLE, Int.reduceGT, Int.reduceGE, Int.reduceNeg, Int.reduceToNat]
  with_reducible refine split2 (fun hb => ?_) (fun hb => ?_) <;> have h := hb <;> (try simp only [decide_eq_true_eq, decide_eq_false_iff_not, Bool.not_eq_true, Bool.not_eq_false, Bool.not_eq_eq_eq_not, Bool.not_true, Bool.not_false, dec_eq_true, dec_eq_false, Classical.not_not] at h) <;> simp -implicitDefEqProofs (disch := omega) only [go_sem, hb, ↓reduceIte, Nat.reduceEqDiff, Nat.reduceAdd, Nat.reduceLeDiff, Nat.reduceSub, Nat.reduceMul, Nat.reduceBEq, Int.reduceEq, Int.reduceLT, Int.reduceLE, Int.reduceGT, Int.reduceGE, Int.reduceNeg, Int.reduceToNat] <;> (repeat ((with_reducible refine And.intro ?_ ?_); (focus (first | omega | rfl | assumption | exact ⟨_, rfl, rfl⟩ | (simp only [List.length_take, List.length_map, List.length_append, List.length_cons, List.length_nil]; omega) | (simp; done)))))
  · exact bool_eq (dec_false (fun e => h (by rw [e]))).symm
  have hl : xs.length = ys.length := by omega
  refine loop_at (ι := Nat) Tryz.checked.mixed rfl [0, 1, 5] (fun y => [.c (.d (.sl (xs.map encS))), .c (.d (.sl (ys.map encS))), .c (.d (.i .i64 y))]) (fun y => [] :: S)
    (fun i => i ≤ xs.length ∧ ∀ j, j < i → xs[j]? = ys[j]?) (fun y => xs.length - y) 0 rfl rfl ⟨Nat.zero_le _, fun j h => by omega⟩ ?_
  rintro i ⟨p1, p2⟩
  simp -implicitDefEqProofs (disch := omega) only [go_sem, ↓reduceIte, Nat.reduceEqDiff, Nat.reduceAdd, Nat.reduceLeDiff, Nat.reduceSub, Nat.reduceMul, Nat.reduceBEq, Int.reduceEq, Int.reduceLT, Int.reduceLE, Int.reduceGT, Int.reduceGE, Int.reduceNeg, Int.reduceToNat]
  with_reducible refine split2 (fun hb => ?_) (fun hb => ?_) <;> have h := hb <;> (try simp only [decide_eq_true_eq, decide_eq_false_iff_not, Bool.not_eq_true, Bool.not_eq_false, Bool.not_eq_eq_eq_not, Bool.not_true, Bool.not_false, dec_eq_true, dec_eq_false, Classical.not_not] at h) <;> simp -implicitDefEqProofs (disch := omega) only [go_sem, hb, ↓reduceIte, Nat.reduceEqDiff, Nat.reduceAdd, Nat.reduceLeDiff, Nat.reduceSub, Nat.reduceMul, Nat.reduceBEq, Int.reduceEq, Int.reduceLT, Int.reduceLE, Int.reduceGT, Int.reduceGE, Int.reduceNeg, Int.reduceToNat] <;> (repeat ((with_reducible refine And.intro ?_ ?_); (focus (first | omega | rfl | assumption | exact ⟨_, rfl, rfl⟩ | (simp only [List.length_take, List.length_map, List.length_append, List.length_cons, List.length_nil]; omega) | (simp; done)))))
  · have hi : i < xs.length := by omega
    have hi' : i < ys.length := by omega
    (repeat ((with_reducible refine And.intro ?_ ?_); (focus (first | omega | rfl | assumption | exact ⟨_, rfl, rfl⟩ | (simp only [List.length_take, List.length_map, List.length_append, List.length_cons, List.length_nil]; omega) | (simp; done)))))
    with_reducible refine split2 (fun hb => ?_) (fun hb => ?_) <;> have h := hb <;> (try simp only [decide_eq_true_eq, decide_eq_false_iff_not, Bool.not_eq_true, Bool.not_eq_false, Bool.not_eq_eq_eq_not, Bool.not_true, Bool.not_false, dec_eq_true, dec_eq_false, Classical.not_not] at h) <;> simp -implicitDefEqProofs (disch := omega) only [go_sem, hb, ↓reduceIte, Nat.reduceEqDiff, Nat.reduceAdd, Nat.reduceLeDiff, Nat.reduceSub, Nat.reduceMul, Nat.reduceBEq, Int.reduceEq, Int.reduceLT, Int.reduceLE, Int.reduceGT, Int.reduceGE, Int.reduceNeg, Int.reduceToNat] <;> (repeat ((with_reducible refine And.intro ?_ ?_); (focus (first | omega | rfl | assumption | exact ⟨_, rfl, rfl⟩ | (simp only [List.length_take, List.length_map, List.length_append, List.length_cons, List.length_nil]; omega) | (simp; done)))))
    · exact bool_eq (dec_false (fun e => h (by simp only [e]))).symm
    refine inv_at (i + 1) (by omega) rfl rfl ⟨by omega, fun j hj => ?_⟩
    by_cases e : j = i
    · subst e
      rw [List.getElem?_eq_getElem hi, List.getElem?_eq_getElem hi', h]
    · exact p2 j (by omega)
  · have hi : i = xs.length := by omega
    refine bool_eq (dec_true (List.ext_getElem? fun j => ?_)).symm
    by_cases hj : j < i
    · exact p2 j hj
    · rw [List.getElem?_eq_none (by omega), List.getElem?_eq_none (by omega)]
end Go.Proofs.YtjfhgcnoielpfaaGreat

/- CONTRACTS OF THE LAWS' HELPERS sz, to, eq FOR Type. Printed by program (wip/tool/lawgen.py). -/
namespace Go.Proofs.YtjfhgcnoielpfaaGreat
open Go Go.Ab

theorem szType_all : ∀ n : Nat, (∀ x : MType, SizeOf.sizeOf x < n → ∀ left : Int, 0 ≤ left → left ≤ 1048576 → FitL x.enc → PCall Tryz.prog 29 [x.v, .c (.d (.i .i64 left))] (.c (.d (.i .i64 (sub1 left x.sz))))) ∧
    (∀ xs : List MType, SizeOf.sizeOf xs < n → ∀ left : Int, 0 ≤ left → left ≤ 1048576 → (D.sl (xs.map MType.enc)).Fit → PCall Tryz.prog 87 [.c (.d (.sl (xs.map MType.enc))), .c (.d (.i .i64 left))] (.c (.d (.i .i64 (sub1 left (xs.length + szRows (xs.map MType.enc)))))))
  | 0 => ⟨fun x h => by omega, fun x h => by omega⟩
  | n + 1 => by
    obtain ⟨ihType, ihSType⟩ := szType_all n
    refine ⟨fun x hn left h0 h1 hf S => ?_, fun xs hn left h0 h1 hf S => ?_⟩
    · have lArgs := MType.lt_Args x
      simp only [MType.enc_eq, List.cons_append, List.nil_append, fitL_cons, fitL_append, fitL_nil_iff, and_true] at hf
      obtain ⟨fKind, fName, fArgs⟩ := hf
      have hz : x.sz = x.fName.length + ((x.fArgs.length + szRows (x.fArgs.map MType.enc))) := by
        simp only [MType.sz, MType.enc_eq, szRow, szRow_append, D.sz, List.length_map, Nat.add_zero, Nat.zero_add] <;> omega
      refine acall_cw (rs := [.tmp 4]) Tryz.checked.mixed Tryz.func29 Tryz.ntmps29 rfl rfl rfl rfl rfl ?_
      rw [hz]
      have gName := fit_s fName
      simp -implicitDefEqProofs (disch := omega) only [go_sem, ↓reduceIte, Nat.reduceEqDiff, Nat.reduceAdd, Nat.reduceLeDiff, Nat.reduceSub, Nat.reduceMul, Nat.reduceBEq, Int.reduceEq, Int.reduceLT, Int.reduceLE, Int.reduceGT, Int.reduceGE, Int.reduceNeg, Int.reduceToNat]
      with_reducible refine split2 (fun hb => ?_) (fun hb => ?_) <;> have h := hb <;> (try simp only [decide_eq_true_eq, decide_eq_false_iff_not, Bool.not_eq_true, Bool.not_eq_false, Bool.not_eq_eq_eq_not, Bool.not_true, Bool.not_false, dec_eq_true, dec_eq_false, Classical.not_not] at h) <;> simp -implicitDefEqProofs (disch := omega) only [go_sem, hb, ↓reduceIte, Nat.reduceEqDiff, Nat.reduceAdd, Nat.reduceLeDiff, Nat.reduceSub, Nat.reduceMul, Nat.reduceBEq, Int.reduceEq, Int.reduceLT, Int.reduceLE, Int.reduceGT, Int.reduceGE, Int.reduceNeg, Int.reduceToNat] <;> (repeat ((with_reducible refine And.intro ?_ ?_); (focus (first | omega | rfl | assumption | exact ⟨_, rfl, rfl⟩ | (simp only [List.length_take, List.length_map, List.length_append, List.length_cons, List.length_nil]; omega) | (simp; done)))))
      · exact int_eq (sub1_no (by omega)).symm
      refine call_w (ihSType x.fArgs (by omega) _ (by omega) (by omega) fArgs) ?_
      simp -implicitDefEqProofs (disch := omega) only [go_sem, ↓reduceIte, Nat.reduceEqDiff, Nat.reduceAdd, Nat.reduceLeDiff, Nat.reduceSub, Nat.reduceMul, Nat.reduceBEq, Int.reduceEq, Int.reduceLT, Int.reduceLE, Int.reduceGT, Int.reduceGE, Int.reduceNeg, Int.reduceToNat]
      with_reducible refine split2 (fun hb => ?_) (fun hb => ?_) <;> have h := hb <;> (try simp only [decide_eq_true_eq, decide_eq_false_iff_not, Bool.not_eq_true, Bool.not_eq_false, Bool.not_eq_eq_eq_not, Bool.not_true, Bool.not_false, dec_eq_true, dec_eq_false, Classical.not_not] at h) <;> simp -implicitDefEqProofs (disch := omega) only [go_sem, hb, ↓reduceIte, Nat.reduceEqDiff, Nat.reduceAdd, Nat.reduceLeDiff, Nat.reduceSub, Nat.reduceMul, Nat.reduceBEq, Int.reduceEq, Int.reduceLT, Int.reduceLE, Int.reduceGT, Int.reduceGE, Int.reduceNeg, Int.reduceToNat] <;> (repeat ((with_reducible refine And.intro ?_ ?_); (focus (first | omega | rfl | assumption | exact ⟨_, rfl, rfl⟩ | (simp only [List.length_take, List.length_map, List.length_append, List.length_cons, List.length_nil]; omega) | (simp; done)))))
      · have h' := sub1_neg h
        exact int_eq (sub1_no (by omega)).symm
      have hArgs := sub1_nn h
      simp only [hArgs.1]
      refine int_eq ?_
      rw [sub1_yes (by omega)]
      omega
    · obtain ⟨hf1, hf2⟩ := fit_sl hf
      rw [List.length_map] at hf1
      refine acall_cw (rs := [.tmp 4]) Tryz.checked.mixed Tryz.func87 Tryz.ntmps87 rfl rfl rfl rfl rfl ?_
      simp -implicitDefEqProofs (disch := omega) only [go_sem, ↓reduceIte, Nat.reduceEqDiff, Nat.reduceAdd, Nat.reduceLeDiff, Nat.reduceSub, Nat.reduceMul, Nat.reduceBEq, Int.reduceEq, Int.reduceLT, Int.reduceLE, Int.reduceGT, Int.reduceGE, Int.reduceNeg, Int.reduceToNat]
      with_reducible refine split2 (fun hb => ?_) (fun hb => ?_) <;> have h := hb <;> (try simp only [decide_eq_true_eq, decide_eq_false_iff_not, Bool.not_eq_true, Bool.not_eq_false, Bool.not_eq_eq_eq_not, Bool.not_true, Bool.not_false, dec_eq_true, dec_eq_false, Classical.not_not] at h) <;> simp -implicitDefEqProofs (disch := omega) only [go_sem, hb, ↓reduceIte, Nat.reduceEqDiff, Nat.reduceAdd, Nat.reduceLeDiff, Nat.reduceSub, Nat.reduceMul, Nat.reduceBEq, Int.reduceEq, Int.reduceLT, Int.reduceLE, Int.reduceGT, Int.reduceGE, Int.reduceNeg, Int.reduceToNat] <;> (repeat ((with_reducible refine And.intro ?_ ?_); (focus (first | omega | rfl | assumption | exact ⟨_, rfl, rfl⟩ | (simp only [List.length_take, List.length_map, List.length_append, List.length_cons, List.length_nil]; omega) | (simp; done)))))
      · exact int_eq (sub1_no (by omega)).symm
      refine loop_at (ι := Nat × Int) Tryz.checked.mixed rfl [0, 1, 5] (fun y => [.c (.d (.sl (xs.map MType.enc))), .c (.d (.i .i64 y.2)), .c (.d (.i .i64 y.1))]) (fun _ => [] :: S)
        (fun y => y.1 ≤ xs.length ∧ 0 ≤ y.2 ∧ y.2 ≤ 1048576 ∧ sub1 y.2 (szRows ((xs.map MType.enc).drop y.1)) = sub1 left (xs.length + szRows (xs.map MType.enc))) (fun y => xs.length - y.1) (0, left - xs.length) rfl rfl ⟨by omega, by omega, by omega, ?_⟩ ?_
      · unfold sub1
        rw [List.drop_zero]
        split <;> split <;> omega
      rintro ⟨i, l⟩ ⟨p1, p2, p3, p4⟩
      simp only at p1 p2 p3 p4
      simp -implicitDefEqProofs (disch := omega) only [go_sem, ↓reduceIte, Nat.reduceEqDiff, Nat.reduceAdd, Nat.reduceLeDiff, Nat.reduceSub, Nat.reduceMul, Nat.reduceBEq, Int.reduceEq, Int.reduceLT, Int.reduceLE, Int.reduceGT, Int.reduceGE, Int.reduceNeg, Int.reduceToNat]
      with_reducible refine split2 (fun hb => ?_) (fun hb => ?_) <;> have h := hb <;> (try simp only [decide_eq_true_eq, decide_eq_false_iff_not, Bool.not_eq_true, Bool.not_eq_false, Bool.not_eq_eq_eq_not, Bool.not_true, Bool.not_false, dec_eq_true, dec_eq_false, Classical.not_not] at h) <;> simp -implicitDefEqProofs (disch := omega) only [go_sem, hb, ↓reduceIte, Nat.reduceEqDiff, Nat.reduceAdd, Nat.reduceLeDiff, Nat.reduceSub, Nat.reduceMul, Nat.reduceBEq, Int.reduceEq, Int.reduceLT, Int.reduceLE, Int.reduceGT, Int.reduceGE, Int.reduceNeg, Int.reduceToNat] <;> (repeat ((with_reducible refine And.intro ?_ ?_); (focus (first | omega | rfl | assumption | exact ⟨_, rfl, rfl⟩ | (simp only [List.length_take, List.length_map, List.length_append, List.length_cons, List.length_nil]; omega) | (simp; done)))))
      · have hi : i < xs.length := by omega
        rw [List.drop_eq_getElem_cons (by rw [List.length_map]; exact hi), szRows, List.getElem_map, MType.sz_def] at p4
        (repeat ((with_reducible refine And.intro ?_ ?_); (focus (first | omega | rfl | assumption | exact ⟨_, rfl, rfl⟩ | (simp only [List.length_take, List.length_map, List.length_append, List.length_cons, List.length_nil]; omega) | (simp; done)))))
        refine call_w (ihType xs[i] (by have := List.sizeOf_lt_of_mem (List.getElem_mem hi); omega) _ (by omega) (by omega) (hf2 _ (List.mem_map_of_mem (List.getElem_mem hi)))) ?_
        simp -implicitDefEqProofs (disch := omega) only [go_sem, ↓reduceIte, Nat.reduceEqDiff, Nat.reduceAdd, Nat.reduceLeDiff, Nat.reduceSub, Nat.reduceMul, Nat.reduceBEq, Int.reduceEq, Int.reduceLT, Int.reduceLE, Int.reduceGT, Int.reduceGE, Int.reduceNeg, Int.reduceToNat]
        with_reducible refine split2 (fun hb => ?_) (fun hb => ?_) <;> have h := hb <;> (try simp only [decide_eq_true_eq, decide_eq_false_iff_not, Bool.not_eq_true, Bool.not_eq_false, Bool.not_eq_eq_eq_not, Bool.not_true, Bool.not_false, dec_eq_true, dec_eq_false, Classical.not_not] at h) <;> simp -implicitDefEqProofs (disch := omega) only [go_sem, hb, ↓reduceIte, Nat.reduceEqDiff, Nat.reduceAdd, Nat.reduceLeDiff, Nat.reduceSub, Nat.reduceMul, Nat.reduceBEq, Int.reduceEq, Int.reduceLT, Int.reduceLE, Int.reduceGT, Int.reduceGE, Int.reduceNeg, Int.reduceToNat] <;> (repeat ((with_reducible refine And.intro ?_ ?_); (focus (first | omega | rfl | assumption | exact ⟨_, rfl, rfl⟩ | (simp only [List.length_take, List.length_map, List.length_append, List.length_cons, List.length_nil]; omega) | (simp; done)))))
        · have h' := sub1_neg h
          rw [← p4, sub1_no (by omega)]
        · have h' := sub1_nn h
          refine inv_at (i + 1, sub1 l _) (by simp only; omega) rfl rfl ⟨by simp only; omega, by simp only; omega, by simp only; omega, ?_⟩
          simp only
          rw [← p4, h'.1]
          unfold sub1
          split <;> split <;> omega
      · have hi : i = xs.length := by omega
        rw [hi, List.drop_of_length_le (by simp), szRows, sub1_yes (by omega)] at p4
        rw [← p4]
        refine int_eq ?_
        omega
theorem szType_ok (x : MType) : ∀ left : Int, 0 ≤ left → left ≤ 1048576 → FitL x.enc → PCall Tryz.prog 29 [x.v, .c (.d (.i .i64 left))] (.c (.d (.i .i64 (sub1 left x.sz)))) := (szType_all _).1 x (Nat.lt_succ_self _)
theorem szTypeS_ok (xs : List MType) : ∀ left : Int, 0 ≤ left → left ≤ 1048576 → (D.sl (xs.map MType.enc)).Fit → PCall Tryz.prog 87 [.c (.d (.sl (xs.map MType.enc))), .c (.d (.i .i64 left))] (.c (.d (.i .i64 (sub1 left (xs.length + szRows (xs.map MType.enc)))))) := (szType_all _).2 xs (Nat.lt_succ_self _)
theorem toType_all : ∀ n : Nat, (∀ x : MType, SizeOf.sizeOf x < n → x.sz ≤ 1048576 → PCall Tryz.prog 31 [x.v] x.v) ∧
    (∀ xs : List MType, SizeOf.sizeOf xs < n → xs.length + szRows (xs.map MType.enc) ≤ 1048576 → PCall Tryz.prog 89 [.c (.d (.sl (xs.map MType.enc)))] (.c (.d (.sl (xs.map MType.enc)))))
  | 0 => ⟨fun x h => by omega, fun x h => by omega⟩
  | n + 1 => by
    obtain ⟨ihType, ihSType⟩ := toType_all n
    refine ⟨fun x hn hsz S => ?_, fun xs hn hsz S => ?_⟩
    · have lArgs := MType.lt_Args x
      simp only [MType.sz, MType.enc_eq, szRow, szRow_append, D.sz, List.length_map] at hsz
      refine acall_cw (rs := [.cell 2 40]) Tryz.checked.mixed Tryz.func31 Tryz.ntmps31 rfl rfl rfl rfl rfl ?_
      simp -implicitDefEqProofs (disch := omega) only [go_sem, ↓reduceIte, Nat.reduceEqDiff, Nat.reduceAdd, Nat.reduceLeDiff, Nat.reduceSub, Nat.reduceMul, Nat.reduceBEq, Int.reduceEq, Int.reduceLT, Int.reduceLE, Int.reduceGT, Int.reduceGE, Int.reduceNeg, Int.reduceToNat]
      refine call_w (ihSType x.fArgs (by omega) (by omega)) ?_
      simp -implicitDefEqProofs (disch := omega) only [go_sem, ↓reduceIte, Nat.reduceEqDiff, Nat.reduceAdd, Nat.reduceLeDiff, Nat.reduceSub, Nat.reduceMul, Nat.reduceBEq, Int.reduceEq, Int.reduceLT, Int.reduceLE, Int.reduceGT, Int.reduceGE, Int.reduceNeg, Int.reduceToNat]
    · refine acall_cw (rs := [.tmp 2]) Tryz.checked.mixed Tryz.func89 Tryz.ntmps89 rfl rfl rfl rfl rfl ?_
      simp -implicitDefEqProofs (disch := omega) only [go_sem, ↓reduceIte, Nat.reduceEqDiff, Nat.reduceAdd, Nat.reduceLeDiff, Nat.reduceSub, Nat.reduceMul, Nat.reduceBEq, Int.reduceEq, Int.reduceLT, Int.reduceLE, Int.reduceGT, Int.reduceGE, Int.reduceNeg, Int.reduceToNat]
      (repeat ((with_reducible refine And.intro ?_ ?_); (focus (first | omega | rfl | assumption | exact ⟨_, rfl, rfl⟩ | (simp only [List.length_take, List.length_map, List.length_append, List.length_cons, List.length_nil]; omega) | (simp; done)))))
      refine loop_at (ι := Nat × List (List D)) Tryz.checked.mixed rfl [0, 3, 4] (fun y => [.c (.d (.sl (xs.map MType.enc))), .c (.msl (0, 0)), .c (.d (.i .i64 y.1))]) (fun y => [.mrow 3 y.2] :: S)
        (fun y => y.1 ≤ xs.length ∧ Filled 3 y.1 y.2 (xs.map MType.enc)) (fun y => xs.length - y.1) (0, _) rfl rfl ⟨Nat.zero_le _, Filled.start (by simp) rfl⟩ ?_
      rintro ⟨i, R⟩ ⟨p1, p2⟩
      simp only at p1 p2
      simp -implicitDefEqProofs (disch := omega) only [go_sem, ↓reduceIte, Nat.reduceEqDiff, Nat.reduceAdd, Nat.reduceLeDiff, Nat.reduceSub, Nat.reduceMul, Nat.reduceBEq, Int.reduceEq, Int.reduceLT, Int.reduceLE, Int.reduceGT, Int.reduceGE, Int.reduceNeg, Int.reduceToNat]
      with_reducible refine split2 (fun hb => ?_) (fun hb => ?_) <;> have h := hb <;> (try simp only [decide_eq_true_eq, decide_eq_false_iff_not, Bool.not_eq_true, Bool.not_eq_false, Bool.not_eq_eq_eq_not, Bool.not_true, Bool.not_false, dec_eq_true, dec_eq_false, Classical.not_not] at h) <;> simp -implicitDefEqProofs (disch := omega) only [go_sem, hb, ↓reduceIte, Nat.reduceEqDiff, Nat.reduceAdd, Nat.reduceLeDiff, Nat.reduceSub, Nat.reduceMul, Nat.reduceBEq, Int.reduceEq, Int.reduceLT, Int.reduceLE, Int.reduceGT, Int.reduceGE, Int.reduceNeg, Int.reduceToNat] <;> (repeat ((with_reducible refine And.intro ?_ ?_); (focus (first | omega | rfl | assumption | exact ⟨_, rfl, rfl⟩ | (simp only [List.length_take, List.length_map, List.length_append, List.length_cons, List.length_nil]; omega) | (simp; done)))))
      · have hi : i < xs.length := by omega
        have hx : xs[i].sz ≤ szRows (xs.map MType.enc) := szRows_mem (List.mem_map_of_mem (List.getElem_mem hi))
        (repeat ((with_reducible refine And.intro ?_ ?_); (focus (first | omega | rfl | assumption | exact ⟨_, rfl, rfl⟩ | (simp only [List.length_take, List.length_map, List.length_append, List.length_cons, List.length_nil]; omega) | (simp; done)))))
        refine call_w (ihType xs[i] (by have := List.sizeOf_lt_of_mem (List.getElem_mem hi); omega) (by omega)) ?_
        simp -implicitDefEqProofs (disch := omega) only [go_sem, ↓reduceIte, Nat.reduceEqDiff, Nat.reduceAdd, Nat.reduceLeDiff, Nat.reduceSub, Nat.reduceMul, Nat.reduceBEq, Int.reduceEq, Int.reduceLT, Int.reduceLE, Int.reduceGT, Int.reduceGE, Int.reduceNeg, Int.reduceToNat]
        have hR := p2.1
        rw [List.length_map] at hR
        (repeat ((with_reducible refine And.intro ?_ ?_); (focus (first | omega | rfl | assumption | exact ⟨_, rfl, rfl⟩ | (simp only [List.length_take, List.length_map, List.length_append, List.length_cons, List.length_nil]; omega) | (simp; done)))))
        refine inv_at (i + 1, _) (by simp only; omega) rfl rfl ⟨by simp only; omega, p2.step (by simp [hi, MType.enc_eq]) rfl⟩
      · have hi : i = xs.length := by omega
        rw [p2.done (by rw [List.length_map]; omega)]
theorem toType_ok (x : MType) : x.sz ≤ 1048576 → PCall Tryz.prog 31 [x.v] x.v := (toType_all _).1 x (Nat.lt_succ_self _)
theorem toTypeS_ok (xs : List MType) : xs.length + szRows (xs.map MType.enc) ≤ 1048576 → PCall Tryz.prog 89 [.c (.d (.sl (xs.map MType.enc)))] (.c (.d (.sl (xs.map MType.enc)))) := (toType_all _).2 xs (Nat.lt_succ_self _)
theorem eqType_all : ∀ n : Nat, (∀ x : MType, SizeOf.sizeOf x < n → ∀ y : MType, x.sz ≤ 1048576 → PCall Tryz.prog 33 [x.v, y.v] (.c (.d (.b (dec (x = y)))))) ∧
    (∀ xs : List MType, SizeOf.sizeOf xs < n → ∀ ys : List MType, xs.length + szRows (xs.map MType.enc) ≤ 1048576 → PCall Tryz.prog 92 [.c (.d (.sl (xs.map MType.enc))), .c (.d (.sl (ys.map MType.enc)))] (.c (.d (.b (dec (xs = ys))))))
  | 0 => ⟨fun x h => by omega, fun x h => by omega⟩
  | n + 1 => by
    obtain ⟨ihType, ihSType⟩ := eqType_all n
    refine ⟨fun x hn y hsz S => ?_, fun xs hn ys hsz S => ?_⟩
    · have lArgs := MType.lt_Args x
      simp only [MType.sz, MType.enc_eq, szRow, szRow_append, D.sz, List.length_map] at hsz
      refine acall_cw (rs := [.tmp 4]) Tryz.checked.mixed Tryz.func33 Tryz.ntmps33 rfl rfl rfl rfl rfl ?_
      simp -implicitDefEqProofs (disch := omega) only [go_sem, ↓reduceIte, Nat.reduceEqDiff, Nat.reduceAdd, Nat.reduceLeDiff, Nat.reduceSub, Nat.reduceMul, Nat.reduceBEq, Int.reduceEq, Int.reduceLT, Int.reduceLE, Int.reduceGT, Int.reduceGE, Int.reduceNeg, Int.reduceToNat]
      with_reducible refine split2 (fun hb => ?_) (fun hb => ?_) <;> have h := hb <;> (try simp only [decide_eq_true_eq, decide_eq_false_iff_not, Bool.not_eq_true, Bool.not_eq_false, Bool.not_eq_eq_eq_not, Bool.not_true, Bool.not_false, dec_eq_true, dec_eq_false, Classical.not_not] at h) <;> simp -implicitDefEqProofs (disch := omega) only [go_sem, hb, ↓reduceIte, Nat.reduceEqDiff, Nat.reduceAdd, Nat.reduceLeDiff, Nat.reduceSub, Nat.reduceMul, Nat.reduceBEq, Int.reduceEq, Int.reduceLT, Int.reduceLE, Int.reduceGT, Int.reduceGE, Int.reduceNeg, Int.reduceToNat] <;> (repeat ((with_reducible refine And.intro ?_ ?_); (focus (first | omega | rfl | assumption | exact ⟨_, rfl, rfl⟩ | (simp only [List.length_take, List.length_map, List.length_append, List.length_cons, List.length_nil]; omega) | (simp; done)))))
      · exact bool_eq (dec_false (fun e => h (by rw [e]))).symm
      have eKind := h
      clear h
      with_reducible refine split2 (fun hb => ?_) (fun hb => ?_) <;> have h := hb <;> (try simp only [decide_eq_true_eq, decide_eq_false_iff_not, Bool.not_eq_true, Bool.not_eq_false, Bool.not_eq_eq_eq_not, Bool.not_true, Bool.not_false, dec_eq_true, dec_eq_false, Classical.not_not] at h) <;> simp -implicitDefEqProofs (disch := omega) only [go_sem, hb, ↓reduceIte, Nat.reduceEqDiff, Nat.reduceAdd, Nat.reduceLeDiff, Nat.reduceSub, Nat.reduceMul, Nat.reduceBEq, Int.reduceEq, Int.reduceLT, Int.reduceLE, Int.reduceGT, Int.reduceGE, Int.reduceNeg, Int.reduceToNat] <;> (repeat ((with_reducible refine And.intro ?_ ?_); (focus (first | omega | rfl | assumption | exact ⟨_, rfl, rfl⟩ | (simp only [List.length_take, List.length_map, List.length_append, List.length_cons, List.length_nil]; omega) | (simp; done)))))
      · exact bool_eq (dec_false (fun e => h (by rw [e]))).symm
      have eName := h
      clear h
      refine call_w (ihSType x.fArgs (by omega) _ (by omega)) ?_
      simp -implicitDefEqProofs (disch := omega) only [go_sem, ↓reduceIte, Nat.reduceEqDiff, Nat.reduceAdd, Nat.reduceLeDiff, Nat.reduceSub, Nat.reduceMul, Nat.reduceBEq, Int.reduceEq, Int.reduceLT, Int.reduceLE, Int.reduceGT, Int.reduceGE, Int.reduceNeg, Int.reduceToNat]
      with_reducible refine split2 (fun hb => ?_) (fun hb => ?_) <;> have h := hb <;> (try simp only [decide_eq_true_eq, decide_eq_false_iff_not, Bool.not_eq_true, Bool.not_eq_false, Bool.not_eq_eq_eq_not, Bool.not_true, Bool.not_false, dec_eq_true, dec_eq_false, Classical.not_not] at h) <;> simp -implicitDefEqProofs (disch := omega) only [go_sem, hb, ↓reduceIte, Nat.reduceEqDiff, Nat.reduceAdd, Nat.reduceLeDiff, Nat.reduceSub, Nat.reduceMul, Nat.reduceBEq, Int.reduceEq, Int.reduceLT, Int.reduceLE, Int.reduceGT, Int.reduceGE, Int.reduceNeg, Int.reduceToNat] <;> (repeat ((with_reducible refine And.intro ?_ ?_); (focus (first | omega | rfl | assumption | exact ⟨_, rfl, rfl⟩ | (simp only [List.length_take, List.length_map, List.length_append, List.length_cons, List.length_nil]; omega) | (simp; done)))))
      · exact bool_eq (dec_false (fun e => h (by rw [e]))).symm
      have eArgs := h
      clear h
      exact bool_eq (dec_true (MType.ext eKind eName eArgs)).symm
    · refine acall_cw (rs := [.tmp 4]) Tryz.checked.mixed Tryz.func92 Tryz.ntmps92 rfl rfl rfl rfl rfl ?_
      simp -implicitDefEqProofs (disch := omega) only [go_sem, ↓reduceIte, Nat.reduceEqDiff, Nat.reduceAdd, Nat.reduceLeDiff, Nat.reduceSub, Nat.reduceMul, Nat.reduceBEq, Int.reduceEq, Int.reduceLT, Int.reduceLE, Int.reduceGT, Int.reduceGE, Int.reduceNeg, Int.reduceToNat]
      with_reducible refine split2 (fun hb => ?_) (fun hb => ?_) <;> have h := hb <;> (try simp only [decide_eq_true_eq, decide_eq_false_iff_not, Bool.not_eq_true, Bool.not_eq_false, Bool.not_eq_eq_eq_not, Bool.not_true, Bool.not_false, dec_eq_true, dec_eq_false, Classical.not_not] at h) <;> simp -implicitDefEqProofs (disch := omega) only [go_sem, hb, ↓reduceIte, Nat.reduceEqDiff, Nat.reduceAdd, Nat.reduceLeDiff, Nat.reduceSub, Nat.reduceMul, Nat.reduceBEq, Int.reduceEq, Int.reduceLT, Int.reduceLE, Int.reduceGT, Int.reduceGE, Int.reduceNeg, Int.reduceToNat] <;> (repeat ((with_reducible refine And.intro ?_ ?_); (focus (first | omega | rfl | assumption | exact ⟨_, rfl, rfl⟩ | (simp only [List.length_take, List.length_map, List.length_append, List.length_cons, List.length_nil]; omega) | (simp; done)))))
      · exact bool_eq (dec_false (fun e => h (by rw [e]))).symm
      have hl : xs.length = ys.length := by omega
      refine loop_at (ι := Nat) Tryz.checked.mixed rfl [0, 1, 5] (fun y => [.c (.d (.sl (xs.map MType.enc))), .c (.d (.sl (ys.map MType.enc))), .c (.d (.i .i64 y))]) (fun y => [] :: S)
        (fun i => i ≤ xs.length ∧ ∀ j, j < i → xs[j]? = ys[j]?) (fun y => xs.length - y) 0 rfl rfl ⟨Nat.zero_le _, fun j h => by omega⟩ ?_
      rintro i ⟨p1, p2⟩
      simp -implicitDefEqProofs (disch := omega) only [go_sem, ↓reduceIte, Nat.reduceEqDiff, Nat.reduceAdd, Nat.reduceLeDiff, Nat.reduceSub, Nat.reduceMul, Nat.reduceBEq, Int.reduceEq, Int.reduceLT, Int.reduceLE, Int.reduceGT, Int.reduceGE, Int.reduceNeg, Int.reduceToNat]
      with_reducible refine split2 (fun hb => ?_) (fun hb => ?_) <;> have h := hb <;> (try simp only [decide_eq_true_eq, decide_eq_false_iff_not, Bool.not_eq_true, Bool.not_eq_false, Bool.not_eq_eq_eq_not, Bool.not_true, Bool.not_false, dec_eq_true, dec_eq_false, Classical.not_not] at h) <;> simp -implicitDefEqProofs (disch := omega) only [go_sem, hb, ↓reduceIte, Nat.reduceEqDiff, Nat.reduceAdd, Nat.reduceLeDiff, Nat.reduceSub, Nat.reduceMul, Nat.reduceBEq, Int.reduceEq, Int.reduceLT, Int.reduceLE, Int.reduceGT, Int.reduceGE, Int.reduceNeg, Int.reduceToNat] <;> (repeat ((with_reducible refine And.intro ?_ ?_); (focus (first | omega | rfl | assumption | exact ⟨_, rfl, rfl⟩ | (simp only [List.length_take, List.length_map, List.length_append, List.length_cons, List.length_nil]; omega) | (simp; done)))))
      · have hi : i < xs.length := by omega
        have hi' : i < ys.length := by omega
        have hx : xs[i].sz ≤ szRows (xs.map MType.enc) := szRows_mem (List.mem_map_of_mem (List.getElem_mem hi))
        (repeat ((with_reducible refine And.intro ?_ ?_); (focus (first | omega | rfl | assumption | exact ⟨_, rfl, rfl⟩ | (simp only [List.length_take, List.length_map, List.length_append, List.length_cons, List.length_nil]; omega) | (simp; done)))))
        refine call_w (ihType xs[i] (by have := List.sizeOf_lt_of_mem (List.getElem_mem hi); omega) ys[i] (by omega)) ?_
        simp -implicitDefEqProofs (disch := omega) only [go_sem, ↓reduceIte, Nat.reduceEqDiff, Nat.reduceAdd, Nat.reduceLeDiff, Nat.reduceSub, Nat.reduceMul, Nat.reduceBEq, Int.reduceEq, Int.reduceLT, Int.reduceLE, Int.reduceGT, Int.reduceGE, Int.reduceNeg, Int.reduceToNat]
        with_reducible refine split2 (fun hb => ?_) (fun hb => ?_) <;> have h := hb <;> (try simp only [decide_eq_true_eq, decide_eq_false_iff_not, Bool.not_eq_true, Bool.not_eq_false, Bool.not_eq_eq_eq_not, Bool.not_true, Bool.not_false, dec_eq_true, dec_eq_false, Classical.not_not] at h) <;> simp -implicitDefEqProofs (disch := omega) only [go_sem, hb, ↓reduceIte, Nat.reduceEqDiff, Nat.reduceAdd, Nat.reduceLeDiff, Nat.reduceSub, Nat.reduceMul, Nat.reduceBEq, Int.reduceEq, Int.reduceLT, Int.reduceLE, Int.reduceGT, Int.reduceGE, Int.reduceNeg, Int.reduceToNat] <;> (repeat ((with_reducible refine And.intro ?_ ?_); (focus (first | omega | rfl | assumption | exact ⟨_, rfl, rfl⟩ | (simp only [List.length_take, List.length_map, List.length_append, List.length_cons, List.length_nil]; omega) | (simp; done)))))
        · exact bool_eq (dec_false (fun e => h (by simp only [e]))).symm
        refine inv_at (i + 1) (by omega) rfl rfl ⟨by omega, fun j hj => ?_⟩
        by_cases e : j = i
        · subst e
          rw [List.getElem?_eq_getElem hi, List.getElem?_eq_getElem hi', h]
        · exact p2 j (by omega)
      · have hi : i = xs.length := by omega
        refine bool_eq (dec_true (List.ext_getElem? fun j => ?_)).symm
        by_cases hj : j < i
        · exact p2 j hj
        · rw [List.getElem?_eq_none (by omega), List.getElem?_eq_none (by omega)]
theorem eqType_ok (x : MType) : ∀ y : MType, x.sz ≤ 1048576 → PCall Tryz.prog 33 [x.v, y.v] (.c (.d (.b (dec (x = y))))) := (eqType_all _).1 x (Nat.lt_succ_self _)
theorem eqTypeS_ok (xs : List MType) : ∀ ys : List MType, xs.length + szRows (xs.map MType.enc) ≤ 1048576 → PCall Tryz.prog 92 [.c (.d (.sl (xs.map MType.enc))), .c (.d (.sl (ys.map MType.enc)))] (.c (.d (.b (dec (xs = ys))))) := (eqType_all _).2 xs (Nat.lt_succ_self _)
end Go.Proofs.YtjfhgcnoielpfaaGreat

/- CONTRACTS OF THE LAWS' HELPERS sz, to, eq FOR Binding. Printed by program (wip/tool/lawgen.py). -/
namespace Go.Proofs.YtjfhgcnoielpfaaGreat
open Go Go.Ab

end Go.Proofs.YtjfhgcnoielpfaaGreat

/- CONTRACTS OF THE LAWS' HELPERS sz, to, eq FOR Bound. Printed by program (wip/tool/lawgen.py). -/
namespace Go.Proofs.YtjfhgcnoielpfaaGreat
open Go Go.Ab

theorem szBound_ok (x : MBound) : ∀ left : Int, 0 ≤ left → left ≤ 1048576 → FitL x.enc → PCall Tryz.prog 34 [x.v, .c (.d (.i .i64 left))] (.c (.d (.i .i64 (sub1 left x.sz)))) := by
  intro left h0 h1 hf S
  simp only [MBound.enc_eq, List.cons_append, List.nil_append, fitL_cons, fitL_append, fitL_nil_iff, and_true] at hf
  obtain ⟨fTrait, fType⟩ := hf
  have hz : x.sz = x.fTrait.length + (x.fType.sz) := by
    simp only [MBound.sz, MBound.enc_eq, szRow, szRow_append, D.sz, List.length_map, Nat.add_zero, Nat.zero_add, MType.sz_def] <;> omega
  refine acall_cw (rs := [.tmp 4]) Tryz.checked.mixed Tryz.func34 Tryz.ntmps34 rfl rfl rfl rfl rfl ?_
  rw [hz]
  have gTrait := fit_s fTrait
  simp -implicitDefEqProofs (disch := omega) only [go_sem, ↓reduceIte, Nat.reduceEqDiff, Nat.reduceAdd, Nat.reduceLeDiff, Nat.reduceSub, Nat.reduceMul, Nat.reduceBEq, Int.reduceEq, Int.reduceLT, Int.reduceLE, Int.reduceGT, Int.reduceGE, Int.reduceNeg, Int.reduceToNat]
  with_reducible refine split2 (fun hb => ?_) (fun hb => ?_) <;> have h := hb <;> (try simp only [decide_eq_true_eq, decide_eq_false_iff_not, Bool.not_eq_true, Bool.not_eq_false, Bool.not_eq_eq_eq_not, Bool.not_true, Bool.not_false, dec_eq_true, dec_eq_false, Classical.not_not] at h) <;> simp -implicitDefEqProofs (disch := omega) only [go_sem, hb, ↓reduceIte, Nat.reduceEqDiff, Nat.reduceAdd, Nat.reduceLeDiff, Nat.reduceSub, Nat.reduceMul, Nat.reduceBEq, Int.reduceEq, Int.reduceLT, Int.reduceLE, Int.reduceGT, Int.reduceGE, Int.reduceNeg, Int.reduceToNat] <;> (repeat ((with_reducible refine And.intro ?_ ?_); (focus (first | omega | rfl | assumption | exact ⟨_, rfl, rfl⟩ | (simp only [List.length_take, List.length_map, List.length_append, List.length_cons, List.length_nil]; omega) | (simp; done)))))
  · exact int_eq (sub1_no (by omega)).symm
  refine call_w (szType_ok x.fType _ (by omega) (by omega) fType) ?_
  simp -implicitDefEqProofs (disch := omega) only [go_sem, ↓reduceIte, Nat.reduceEqDiff, Nat.reduceAdd, Nat.reduceLeDiff, Nat.reduceSub, Nat.reduceMul, Nat.reduceBEq, Int.reduceEq, Int.reduceLT, Int.reduceLE, Int.reduceGT, Int.reduceGE, Int.reduceNeg, Int.reduceToNat]
  with_reducible refine split2 (fun hb => ?_) (fun hb => ?_) <;> have h := hb <;> (try simp only [decide_eq_true_eq, decide_eq_false_iff_not, Bool.not_eq_true, Bool.not_eq_false, Bool.not_eq_eq_eq_not, Bool.not_true, Bool.not_false, dec_eq_true, dec_eq_false, Classical.not_not] at h) <;> simp -implicitDefEqProofs (disch := omega) only [go_sem, hb, ↓reduceIte, Nat.reduceEqDiff, Nat.reduceAdd, Nat.reduceLeDiff, Nat.reduceSub, Nat.reduceMul, Nat.reduceBEq, Int.reduceEq, Int.reduceLT, Int.reduceLE, Int.reduceGT, Int.reduceGE, Int.reduceNeg, Int.reduceToNat] <;> (repeat ((with_reducible refine And.intro ?_ ?_); (focus (first | omega | rfl | assumption | exact ⟨_, rfl, rfl⟩ | (simp only [List.length_take, List.length_map, List.length_append, List.length_cons, List.length_nil]; omega) | (simp; done)))))
  · have h' := sub1_neg h
    exact int_eq (sub1_no (by omega)).symm
  have hType := sub1_nn h
  simp only [hType.1]
  refine int_eq ?_
  rw [sub1_yes (by omega)]
  omega
theorem szBoundS_ok (xs : List MBound) : ∀ left : Int, 0 ≤ left → left ≤ 1048576 → (D.sl (xs.map MBound.enc)).Fit → PCall Tryz.prog 40 [.c (.d (.sl (xs.map MBound.enc))), .c (.d (.i .i64 left))] (.c (.d (.i .i64 (sub1 left (xs.length + szRows (xs.map MBound.enc)))))) := by
  intro left h0 h1 hf S
  obtain ⟨hf1, hf2⟩ := fit_sl hf
  rw [List.length_map] at hf1
  refine acall_cw (rs := [.tmp 4]) Tryz.checked.mixed Tryz.func40 Tryz.ntmps40 rfl rfl rfl rfl rfl ?_
  simp -implicitDefEqProofs (disch := omega) only [go_sem, ↓reduceIte, Nat.reduceEqDiff, Nat.reduceAdd, Nat.reduceLeDiff, Nat.reduceSub, Nat.reduceMul, Nat.reduceBEq, Int.reduceEq, Int.reduceLT, Int.reduceLE, Int.reduceGT, Int.reduceGE, Int.reduceNeg, Int.reduceToNat]
  with_reducible refine split2 (fun hb => ?_) (fun hb => ?_) <;> have h := hb <;> (try simp only [decide_eq_true_eq, decide_eq_false_iff_not, Bool.not_eq_true, Bool.not_eq_false, Bool.not_eq_eq_eq_not, Bool.not_true, Bool.not_false, dec_eq_true, dec_eq_false, Classical.not_not] at h) <;> simp -implicitDefEqProofs (disch := omega) only [go_sem, hb, ↓reduceIte, Nat.reduceEqDiff, Nat.reduceAdd, Nat.reduceLeDiff, Nat.reduceSub, Nat.reduceMul, Nat.reduceBEq, Int.reduceEq, Int.reduceLT, Int.reduceLE, Int.reduceGT, Int.reduceGE, Int.reduceNeg, Int.reduceToNat] <;> (repeat ((with_reducible refine And.intro ?_ ?_); (focus (first | omega | rfl | assumption | exact ⟨_, rfl, rfl⟩ | (simp only [List.length_take, List.length_map, List.length_append, List.length_cons, List.length_nil]; omega) | (simp; done)))))
  · exact int_eq (sub1_no (by omega)).symm
  refine loop_at (ι := Nat × Int) Tryz.checked.mixed rfl [0, 1, 5] (fun y => [.c (.d (.sl (xs.map MBound.enc))), .c (.d (.i .i64 y.2)), .c (.d (.i .i64 y.1))]) (fun _ => [] :: S)
    (fun y => y.1 ≤ xs.length ∧ 0 ≤ y.2 ∧ y.2 ≤ 1048576 ∧ sub1 y.2 (szRows ((xs.map MBound.enc).drop y.1)) = sub1 left (xs.length + szRows (xs.map MBound.enc))) (fun y => xs.length - y.1) (0, left - xs.length) rfl rfl ⟨by omega, by omega, by omega, ?_⟩ ?_
  · unfold sub1
    rw [List.drop_zero]
    split <;> split <;> omega
  rintro ⟨i, l⟩ ⟨p1, p2, p3, p4⟩
  simp only at p1 p2 p3 p4
  simp -implicitDefEqProofs (disch := omega) only [go_sem, ↓reduceIte, Nat.reduceEqDiff, Nat.reduceAdd, Nat.reduceLeDiff, Nat.reduceSub, Nat.reduceMul, Nat.reduceBEq, Int.reduceEq, Int.reduceLT, Int.reduceLE, Int.reduceGT, Int.reduceGE, Int.reduceNeg, Int.reduceToNat]
  with_reducible refine split2 (fun hb => ?_) (fun hb => ?_) <;> have h := hb <;> (try simp only [decide_eq_true_eq, decide_eq_false_iff_not, Bool.not_eq_true, Bool.not_eq_false, Bool.not_eq_eq_eq_not, Bool.not_true, Bool.not_false, dec_eq_true, dec_eq_false, Classical.not_not] at h) <;> simp -implicitDefEqProofs (disch := omega) only [go_sem, hb, ↓reduceIte, Nat.reduceEqDiff, Nat.reduceAdd, Nat.reduceLeDiff, Nat.reduceSub, Nat.reduceMul, Nat.reduceBEq, Int.reduceEq, Int.reduceLT, Int.reduceLE, Int.reduceGT, Int.reduceGE, Int.reduceNeg, Int.reduceToNat] <;> (repeat ((with_reducible refine And.intro ?_ ?_); (focus (first | omega | rfl | assumption | exact ⟨_, rfl, rfl⟩ | (simp only [List.length_take, List.length_map, List.length_append, List.length_cons, List.length_nil]; omega) | (simp; done)))))
  · have hi : i < xs.length := by omega
    rw [List.drop_eq_getElem_cons (by rw [List.length_map]; exact hi), szRows, List.getElem_map, MBound.sz_def] at p4
    (repeat ((with_reducible refine And.intro ?_ ?_); (focus (first | omega | rfl | assumption | exact ⟨_, rfl, rfl⟩ | (simp only [List.length_take, List.length_map, List.length_append, List.length_cons, List.length_nil]; omega) | (simp; done)))))
    refine call_w (szBound_ok xs[i] _ (by omega) (by omega) (hf2 _ (List.mem_map_of_mem (List.getElem_mem hi)))) ?_
    simp -implicitDefEqProofs (disch := omega) only [go_sem, ↓reduceIte, Nat.reduceEqDiff, Nat.reduceAdd, Nat.reduceLeDiff, Nat.reduceSub, Nat.reduceMul, Nat.reduceBEq, Int.reduceEq, Int.reduceLT, Int.reduceLE, Int.reduceGT, Int.reduceGE, Int.reduceNeg, Int.reduceToNat]
    with_reducible refine split2 (fun hb => ?_) (fun hb => ?_) <;> have h := hb <;> (try simp only [decide_eq_true_eq, decide_eq_false_iff_not, Bool.not_eq_true, Bool.not_eq_false, Bool.not_eq_eq_eq_not, Bool.not_true, Bool.not_false, dec_eq_true, dec_eq_false, Classical.not_not] at h) <;> simp -implicitDefEqProofs (disch := omega) only [go_sem, hb, ↓reduceIte, Nat.reduceEqDiff, Nat.reduceAdd, Nat.reduceLeDiff, Nat.reduceSub, Nat.reduceMul, Nat.reduceBEq, Int.reduceEq, Int.reduceLT, Int.reduceLE, Int.reduceGT, Int.reduceGE, Int.reduceNeg, Int.reduceToNat] <;> (repeat ((with_reducible refine And.intro ?_ ?_); (focus (first | omega | rfl | assumption | exact ⟨_, rfl, rfl⟩ | (simp only [List.length_take, List.length_map, List.length_append, List.length_cons, List.length_nil]; omega) | (simp; done)))))
    · have h' := sub1_neg h
      rw [← p4, sub1_no (by omega)]
    · have h' := sub1_nn h
      refine inv_at (i + 1, sub1 l _) (by simp only; omega) rfl rfl ⟨by simp only; omega, by simp only; omega, by simp only; omega, ?_⟩
      simp only
      rw [← p4, h'.1]
      unfold sub1
      split <;> split <;> omega
  · have hi : i = xs.length := by omega
    rw [hi, List.drop_of_length_le (by simp), szRows, sub1_yes (by omega)] at p4
    rw [← p4]
    refine int_eq ?_
    omega
theorem toBound_ok (x : MBound) : x.sz ≤ 1048576 → PCall Tryz.prog 36 [x.v] x.v := by
  intro hsz S
  simp only [MBound.sz, MBound.enc_eq, szRow, szRow_append, D.sz, List.length_map, MType.sz_def] at hsz
  refine acall_cw (rs := [.cell 2 93]) Tryz.checked.mixed Tryz.func36 Tryz.ntmps36 rfl rfl rfl rfl rfl ?_
  simp -implicitDefEqProofs (disch := omega) only [go_sem, ↓reduceIte, Nat.reduceEqDiff, Nat.reduceAdd, Nat.reduceLeDiff, Nat.reduceSub, Nat.reduceMul, Nat.reduceBEq, Int.reduceEq, Int.reduceLT, Int.reduceLE, Int.reduceGT, Int.reduceGE, Int.reduceNeg, Int.reduceToNat]
  refine call_w (toType_ok x.fType (by omega)) ?_
  simp -implicitDefEqProofs (disch := omega) only [go_sem, ↓reduceIte, Nat.reduceEqDiff, Nat.reduceAdd, Nat.reduceLeDiff, Nat.reduceSub, Nat.reduceMul, Nat.reduceBEq, Int.reduceEq, Int.reduceLT, Int.reduceLE, Int.reduceGT, Int.reduceGE, Int.reduceNeg, Int.reduceToNat]
theorem toBoundS_ok (xs : List MBound) : xs.length + szRows (xs.map MBound.enc) ≤ 1048576 → PCall Tryz.prog 49 [.c (.d (.sl (xs.map MBound.enc)))] (.c (.d (.sl (xs.map MBound.enc)))) := by
  intro hsz S
  refine acall_cw (rs := [.tmp 2]) Tryz.checked.mixed Tryz.func49 Tryz.ntmps49 rfl rfl rfl rfl rfl ?_
  simp -implicitDefEqProofs (disch := omega) only [go_sem, ↓reduceIte, Nat.reduceEqDiff, Nat.reduceAdd, Nat.reduceLeDiff, Nat.reduceSub, Nat.reduceMul, Nat.reduceBEq, Int.reduceEq, Int.reduceLT, Int.reduceLE, Int.reduceGT, Int.reduceGE, Int.reduceNeg, Int.reduceToNat]
  (repeat ((with_reducible refine And.intro ?_ ?_); (focus (first | omega | rfl | assumption | exact ⟨_, rfl, rfl⟩ | (simp only [List.length_take, List.length_map, List.length_append, List.length_cons, List.length_nil]; omega) | (simp; done)))))
  refine loop_at (ι := Nat × List (List D)) Tryz.checked.mixed rfl [0, 3, 4] (fun y => [.c (.d (.sl (xs.map MBound.enc))), .c (.msl (0, 0)), .c (.d (.i .i64 y.1))]) (fun y => [.mrow 4 y.2] :: S)
    (fun y => y.1 ≤ xs.length ∧ Filled 4 y.1 y.2 (xs.map MBound.enc)) (fun y => xs.length - y.1) (0, _) rfl rfl ⟨Nat.zero_le _, Filled.start (by simp) rfl⟩ ?_
  rintro ⟨i, R⟩ ⟨p1, p2⟩
  simp only at p1 p2
  simp -implicitDefEqProofs (disch := omega) only [go_sem, ↓reduceIte, Nat.reduceEqDiff, Nat.reduceAdd, Nat.reduceLeDiff, Nat.reduceSub, Nat.reduceMul, Nat.reduceBEq, Int.reduceEq, Int.reduceLT, Int.reduceLE, Int.reduceGT, Int.reduceGE, Int.reduceNeg, Int.reduceToNat]
  with_reducible refine split2 (fun hb => ?_) (fun hb => ?_) <;> have h := hb <;> (try simp only [decide_eq_true_eq, decide_eq_false_iff_not, Bool.not_eq_true, Bool.not_eq_false, Bool.not_eq_eq_eq_not, Bool.not_true, Bool.not_false, dec_eq_true, dec_eq_false, Classical.not_not] at h) <;> simp -implicitDefEqProofs (disch := omega) only [go_sem, hb, ↓reduceIte, Nat.reduceEqDiff, Nat.reduceAdd, Nat.reduceLeDiff, Nat.reduceSub, Nat.reduceMul, Nat.reduceBEq, Int.reduceEq, Int.reduceLT, Int.reduceLE, Int.reduceGT, Int.reduceGE, Int.reduceNeg, Int.reduceToNat] <;> (repeat ((with_reducible refine And.intro ?_ ?_); (focus (first | omega | rfl | assumption | exact ⟨_, rfl, rfl⟩ | (simp only [List.length_take, List.length_map, List.length_append, List.length_cons, List.length_nil]; omega) | (simp; done)))))
  · have hi : i < xs.length := by omega
    have hx : xs[i].sz ≤ szRows (xs.map MBound.enc) := szRows_mem (List.mem_map_of_mem (List.getElem_mem hi))
    (repeat ((with_reducible refine And.intro ?_ ?_); (focus (first | omega | rfl | assumption | exact ⟨_, rfl, rfl⟩ | (simp only [List.length_take, List.length_map, List.length_append, List.length_cons, List.length_nil]; omega) | (simp; done)))))
    refine call_w (toBound_ok xs[i] (by omega)) ?_
    simp -implicitDefEqProofs (disch := omega) only [go_sem, ↓reduceIte, Nat.reduceEqDiff, Nat.reduceAdd, Nat.reduceLeDiff, Nat.reduceSub, Nat.reduceMul, Nat.reduceBEq, Int.reduceEq, Int.reduceLT, Int.reduceLE, Int.reduceGT, Int.reduceGE, Int.reduceNeg, Int.reduceToNat]
    have hR := p2.1
    rw [List.length_map] at hR
    (repeat ((with_reducible refine And.intro ?_ ?_); (focus (first | omega | rfl | assumption | exact ⟨_, rfl, rfl⟩ | (simp only [List.length_take, List.length_map, List.length_append, List.length_cons, List.length_nil]; omega) | (simp; done)))))
    refine inv_at (i + 1, _) (by simp only; omega) rfl rfl ⟨by simp only; omega, p2.step (by simp [hi, MBound.enc_eq, MType.enc_eq]) rfl⟩
  · have hi : i = xs.length := by omega
    rw [p2.done (by rw [List.length_map]; omega)]
theorem eqBound_ok (x : MBound) : ∀ y : MBound, x.sz ≤ 1048576 → PCall Tryz.prog 38 [x.v, y.v] (.c (.d (.b (dec (x = y))))) := by
  intro y hsz S
  simp only [MBound.sz, MBound.enc_eq, szRow, szRow_append, D.sz, List.length_map, MType.sz_def] at hsz
  refine acall_cw (rs := [.tmp 4]) Tryz.checked.mixed Tryz.func38 Tryz.ntmps38 rfl rfl rfl rfl rfl ?_
  simp -implicitDefEqProofs (disch := omega) only [go_sem, ↓reduceIte, Nat.reduceEqDiff, Nat.reduceAdd, Nat.reduceLeDiff, Nat.reduceSub, Nat.reduceMul, Nat.reduceBEq, Int.reduceEq, Int.reduceLT, Int.reduceLE, Int.reduceGT, Int.reduceGE, Int.reduceNeg, Int.reduceToNat]
  with_reducible refine split2 (fun hb => ?_) (fun hb => ?_) <;> have h := hb <;> (try simp only [decide_eq_true_eq, decide_eq_false_iff_not, Bool.not_eq_true, Bool.not_eq_false, Bool.not_eq_eq_eq_not, Bool.not_true, Bool.not_false, dec_eq_true, dec_eq_false, Classical.not_not] at h) <;> simp -implicitDefEqProofs (disch := omega) only [go_sem, hb, ↓reduceIte, Nat.reduceEqDiff, Nat.reduceAdd, Nat.reduceLeDiff, Nat.reduceSub, Nat.reduceMul, Nat.reduceBEq, Int.reduceEq, Int.reduceLT, Int.reduceLE, Int.reduceGT, Int.reduceGE, Int.reduceNeg, Int.reduceToNat] <;> (repeat ((with_reducible refine And.intro ?_ ?_); (focus (first | omega | rfl | assumption | exact ⟨_, rfl, rfl⟩ | (simp only [List.length_take, List.length_map, List.length_append, List.length_cons, List.length_nil]; omega) | (simp; done)))))
  · exact bool_eq (dec_false (fun e => h (by rw [e]))).symm
  have eTrait := h
  clear h
  refine call_w (eqType_ok x.fType _ (by omega)) ?_
  simp -implicitDefEqProofs (disch := omega) only [go_sem, ↓reduceIte, Nat.reduceEqDiff, Nat.reduceAdd, Nat.reduceLeDiff, Nat.reduceSub, Nat.reduceMul, Nat.reduceBEq, Int.reduceEq, Int.reduceLT, Int.reduceLE, Int.reduceGT, Int.reduceGE, Int.reduceNeg, Int.reduceToNat]
  with_reducible refine split2 (fun hb => ?_) (fun hb => ?_) <;> have h := hb <;> (try simp only [decide_eq_true_eq, decide_eq_false_iff_not, Bool.not_eq_true, Bool.not_eq_false, Bool.not_eq_eq_eq_not, Bool.not_true, Bool.not_false, dec_eq_true, dec_eq_false, Classical.not_not] at h) <;> simp -implicitDefEqProofs (disch := omega) only [go_sem, hb, ↓reduceIte, Nat.reduceEqDiff, Nat.reduceAdd, Nat.reduceLeDiff, Nat.reduceSub, Nat.reduceMul, Nat.reduceBEq, Int.reduceEq, Int.reduceLT, Int.reduceLE, Int.reduceGT, Int.reduceGE, Int.reduceNeg, Int.reduceToNat] <;> (repeat ((with_reducible refine And.intro ?_ ?_); (focus (first | omega | rfl | assumption | exact ⟨_, rfl, rfl⟩ | (simp only [List.length_take, List.length_map, List.length_append, List.length_cons, List.length_nil]; omega) | (simp; done)))))
  · exact bool_eq (dec_false (fun e => h (by rw [e]))).symm
  have eType := h
  clear h
  exact bool_eq (dec_true (MBound.ext' eTrait eType)).symm
theorem eqBoundS_ok (xs : List MBound) : ∀ ys : List MBound, xs.length + szRows (xs.map MBound.enc) ≤ 1048576 → PCall Tryz.prog 61 [.c (.d (.sl (xs.map MBound.enc))), .c (.d (.sl (ys.map MBound.enc)))] (.c (.d (.b (dec (xs = ys))))) := by
  intro ys hsz S
  refine acall_cw (rs := [.tmp 4]) Tryz.checked.mixed Tryz.func61 Tryz.ntmps61 rfl rfl rfl rfl rfl ?_
  simp -implicitDefEqProofs (disch := omega) only [go_sem, ↓reduceIte, Nat.reduceEqDiff, Nat.reduceAdd, Nat.reduceLeDiff, Nat.reduceSub, Nat.reduceMul, Nat.reduceBEq, Int.reduceEq, Int.reduceLT, Int.reduceLE, Int.reduceGT, Int.reduceGE, Int.reduceNeg, Int.reduceToNat]
  with_reducible refine split2 (fun hb => ?_) (fun hb => ?_) <;> have h := hb <;> (try simp only [decide_eq_true_eq, decide_eq_false_iff_not, Bool.not_eq_true, Bool.not_eq_false, Bool.not_eq_eq_eq_not, Bool.not_true, Bool.not_false, dec_eq_true, dec_eq_false, Classical.not_not] at h) <;> simp -implicitDefEqProofs (disch := omega) only [go_sem, hb, ↓reduceIte, Nat.reduceEqDiff, Nat.reduceAdd, Nat.reduceLeDiff, Nat.reduceSub, Nat.reduceMul, Nat.reduceBEq, Int.reduceEq, Int.reduceLT, Int.reduceLE, Int.reduceGT, Int.reduceGE, Int.reduceNeg, Int.reduceToNat] <;> (repeat ((with_reducible refine And.intro ?_ ?_); (focus (first | omega | rfl | assumption | exact ⟨_, rfl, rfl⟩ | (simp only [List.length_take, List.length_map, List.length_append, List.length_cons, List.length_nil]; omega) | (simp; done)))))
  · exact bool_eq (dec_false (fun e => h (by rw [e]))).symm
  have hl : xs.length = ys.length := by omega
  refine loop_at (ι := Nat) Tryz.checked.mixed rfl [0, 1, 5] (fun y => [.c (.d (.sl (xs.map MBound.enc))), .c (.d (.sl (ys.map MBound.enc))), .c (.d (.i .i64 y))]) (fun y => [] :: S)
    (fun i => i ≤ xs.length ∧ ∀ j, j < i → xs[j]? = ys[j]?) (fun y => xs.length - y) 0 rfl rfl ⟨Nat.zero_le _, fun j h => by omega⟩ ?_
  rintro i ⟨p1, p2⟩
  simp -implicitDefEqProofs (disch := omega) only [go_sem, ↓reduceIte, Nat.reduceEqDiff, Nat.reduceAdd, Nat.reduceLeDiff, Nat.reduceSub, Nat.reduceMul, Nat.reduceBEq, Int.reduceEq, Int.reduceLT, Int.reduceLE, Int.reduceGT, Int.reduceGE, Int.reduceNeg, Int.reduceToNat]
  with_reducible refine split2 (fun hb => ?_) (fun hb => ?_) <;> have h := hb <;> (try simp only [decide_eq_true_eq, decide_eq_false_iff_not, Bool.not_eq_true, Bool.not_eq_false, Bool.not_eq_eq_eq_not, Bool.not_true, Bool.not_false, dec_eq_true, dec_eq_false, Classical.not_not] at h) <;> simp -implicitDefEqProofs (disch := omega) only [go_sem, hb, ↓reduceIte, Nat.reduceEqDiff, Nat.reduceAdd, Nat.reduceLeDiff, Nat.reduceSub, Nat.reduceMul, Nat.reduceBEq, Int.reduceEq, Int.reduceLT, Int.reduceLE, Int.reduceGT, Int.reduceGE, Int.reduceNeg, Int.reduceToNat] <;> (repeat ((with_reducible refine And.intro ?_ ?_); (focus (first | omega | rfl | assumption | exact ⟨_, rfl, rfl⟩ | (simp only [List.length_take, List.length_map, List.length_append, List.length_cons, List.length_nil]; omega) | (simp; done)))))
  · have hi : i < xs.length := by omega
    have hi' : i < ys.length := by omega
    have hx : xs[i].sz ≤ szRows (xs.map MBound.enc) := szRows_mem (List.mem_map_of_mem (List.getElem_mem hi))
    (repeat ((with_reducible refine And.intro ?_ ?_); (focus (first | omega | rfl | assumption | exact ⟨_, rfl, rfl⟩ | (simp only [List.length_take, List.length_map, List.length_append, List.length_cons, List.length_nil]; omega) | (simp; done)))))
    refine call_w (eqBound_ok xs[i] ys[i] (by omega)) ?_
    simp -implicitDefEqProofs (disch := omega) only [go_sem, ↓reduceIte, Nat.reduceEqDiff, Nat.reduceAdd, Nat.reduceLeDiff, Nat.reduceSub, Nat.reduceMul, Nat.reduceBEq, Int.reduceEq, Int.reduceLT, Int.reduceLE, Int.reduceGT, Int.reduceGE, Int.reduceNeg, Int.reduceToNat]
    with_reducible refine split2 (fun hb => ?_) (fun hb => ?_) <;> have h := hb <;> (try simp only [decide_eq_true_eq, decide_eq_false_iff_not, Bool.not_eq_true, Bool.not_eq_false, Bool.not_eq_eq_eq_not, Bool.not_true, Bool.not_false, dec_eq_true, dec_eq_false, Classical.not_not] at h) <;> simp -implicitDefEqProofs (disch := omega) only [go_sem, hb, ↓reduceIte, Nat.reduceEqDiff, Nat.reduceAdd, Nat.reduceLeDiff, Nat.reduceSub, Nat.reduceMul, Nat.reduceBEq, Int.reduceEq, Int.reduceLT, Int.reduceLE, Int.reduceGT, Int.reduceGE, Int.reduceNeg, Int.reduceToNat] <;> (repeat ((with_reducible refine And.intro ?_ ?_); (focus (first | omega | rfl | assumption | exact ⟨_, rfl, rfl⟩ | (simp only [List.length_take, List.length_map, List.length_append, List.length_cons, List.length_nil]; omega) | (simp; done)))))
    · exact bool_eq (dec_false (fun e => h (by simp only [e]))).symm
    refine inv_at (i + 1) (by omega) rfl rfl ⟨by omega, fun j hj => ?_⟩
    by_cases e : j = i
    · subst e
      rw [List.getElem?_eq_getElem hi, List.getElem?_eq_getElem hi', h]
    · exact p2 j (by omega)
  · have hi : i = xs.length := by omega
    refine bool_eq (dec_true (List.ext_getElem? fun j => ?_)).symm
    by_cases hj : j < i
    · exact p2 j hj
    · rw [List.getElem?_eq_none (by omega), List.getElem?_eq_none (by omega)]
end Go.Proofs.YtjfhgcnoielpfaaGreat

/- CONTRACTS OF THE LAWS' HELPERS sz, to, eq FOR Expr, Arm. Printed by program (wip/tool/lawgen.py). -/
namespace Go.Proofs.YtjfhgcnoielpfaaGreat
open Go Go.Ab

theorem szExpr_all : ∀ n : Nat, (∀ x : MExpr, SizeOf.sizeOf x < n → ∀ left : Int, 0 ≤ left → left ≤ 1048576 → FitL x.enc → PCall Tryz.prog 42 [x.v, .c (.d (.i .i64 left))] (.c (.d (.i .i64 (sub1 left x.sz))))) ∧
    (∀ xs : List MExpr, SizeOf.sizeOf xs < n → ∀ left : Int, 0 ≤ left → left ≤ 1048576 → (D.sl (xs.map MExpr.enc)).Fit → PCall Tryz.prog 96 [.c (.d (.sl (xs.map MExpr.enc))), .c (.d (.i .i64 left))] (.c (.d (.i .i64 (sub1 left (xs.length + szRows (xs.map MExpr.enc))))))) ∧
    (∀ x : MArm, SizeOf.sizeOf x < n → ∀ left : Int, 0 ≤ left → left ≤ 1048576 → FitL x.enc → PCall Tryz.prog 155 [x.v, .c (.d (.i .i64 left))] (.c (.d (.i .i64 (sub1 left x.sz))))) ∧
    (∀ xs : List MArm, SizeOf.sizeOf xs < n → ∀ left : Int, 0 ≤ left → left ≤ 1048576 → (D.sl (xs.map MArm.enc)).Fit → PCall Tryz.prog 97 [.c (.d (.sl (xs.map MArm.enc))), .c (.d (.i .i64 left))] (.c (.d (.i .i64 (sub1 left (xs.length + szRows (xs.map MArm.enc)))))))
  | 0 => ⟨fun x h => by omega, fun x h => by omega, fun x h => by omega, fun x h => by omega⟩
  | n + 1 => by
    obtain ⟨ihExpr, ihSExpr, ihArm, ihSArm⟩ := szExpr_all n
    refine ⟨fun x hn left h0 h1 hf S => ?_, fun xs hn left h0 h1 hf S => ?_, fun x hn left h0 h1 hf S => ?_, fun xs hn left h0 h1 hf S => ?_⟩
    · have lArgs := MExpr.lt_Args x
      have lArms := MExpr.lt_Arms x
      simp only [MExpr.enc_eq, List.cons_append, List.nil_append, fitL_cons, fitL_append, fitL_nil_iff, and_true] at hf
      obtain ⟨fKind, fTrait, fName, fN, fType, fArgs, fArms⟩ := hf
      have hz : x.sz = x.fTrait.length + (x.fName.length + (x.fType.sz + ((x.fArgs.length + szRows (x.fArgs.map MExpr.enc)) + ((x.fArms.length + szRows (x.fArms.map MArm.enc)))))) := by
        simp only [MExpr.sz, MExpr.enc_eq, szRow, szRow_append, D.sz, List.length_map, Nat.add_zero, Nat.zero_add, MType.sz_def] <;> omega
      refine acall_cw (rs := [.tmp 4]) Tryz.checked.mixed Tryz.func42 Tryz.ntmps42 rfl rfl rfl rfl rfl ?_
      rw [hz]
      have gTrait := fit_s fTrait
      have gName := fit_s fName
      simp -implicitDefEqProofs (disch := omega) only [go_sem, ↓reduceIte, Nat.reduceEqDiff, Nat.reduceAdd, Nat.reduceLeDiff, Nat.reduceSub, Nat.reduceMul, Nat.reduceBEq, Int.reduceEq, Int.reduceLT, Int.reduceLE, Int.reduceGT, Int.reduceGE, Int.reduceNeg, Int.reduceToNat]
      with_reducible refine split2 (fun hb => ?_) (fun hb => ?_) <;> have h := hb <;> (try simp only [decide_eq_true_eq, decide_eq_false_iff_not, Bool.not_eq_true, Bool.not_eq_false, Bool.not_eq_eq_eq_not, Bool.not_true, Bool.not_false, dec_eq_true, dec_eq_false, Classical.not_not] at h) <;> simp -implicitDefEqProofs (disch := omega) only [go_sem, hb, ↓reduceIte, Nat.reduceEqDiff, Nat.reduceAdd, Nat.reduceLeDiff, Nat.reduceSub, Nat.reduceMul, Nat.reduceBEq, Int.reduceEq, Int.reduceLT, Int.reduceLE, Int.reduceGT, Int.reduceGE, Int.reduceNeg, Int.reduceToNat] <;> (repeat ((with_reducible refine And.intro ?_ ?_); (focus (first | omega | rfl | assumption | exact ⟨_, rfl, rfl⟩ | (simp only [List.length_take, List.length_map, List.length_append, List.length_cons, List.length_nil]; omega) | (simp; done)))))
      · exact int_eq (sub1_no (by omega)).symm
      with_reducible refine split2 (fun hb => ?_) (fun hb => ?_) <;> have h := hb <;> (try simp only [decide_eq_true_eq, decide_eq_false_iff_not, Bool.not_eq_true, Bool.not_eq_false, Bool.not_eq_eq_eq_not, Bool.not_true, Bool.not_false, dec_eq_true, dec_eq_false, Classical.not_not] at h) <;> simp -implicitDefEqProofs (disch := omega) only [go_sem, hb, ↓reduceIte, Nat.reduceEqDiff, Nat.reduceAdd, Nat.reduceLeDiff, Nat.reduceSub, Nat.reduceMul, Nat.reduceBEq, Int.reduceEq, Int.reduceLT, Int.reduceLE, Int.reduceGT, Int.reduceGE, Int.reduceNeg, Int.reduceToNat] <;> (repeat ((with_reducible refine And.intro ?_ ?_); (focus (first | omega | rfl | assumption | exact ⟨_, rfl, rfl⟩ | (simp only [List.length_take, List.length_map, List.length_append, List.length_cons, List.length_nil]; omega) | (simp; done)))))
      · exact int_eq (sub1_no (by omega)).symm
      refine call_w (szType_ok x.fType _ (by omega) (by omega) fType) ?_
      simp -implicitDefEqProofs (disch := omega) only [go_sem, ↓reduceIte, Nat.reduceEqDiff, Nat.reduceAdd, Nat.reduceLeDiff, Nat.reduceSub, Nat.reduceMul, Nat.reduceBEq, Int.reduceEq, Int.reduceLT, Int.reduceLE, Int.reduceGT, Int.reduceGE, Int.reduceNeg, Int.reduceToNat]
      with_reducible refine split2 (fun hb => ?_) (fun hb => ?_) <;> have h := hb <;> (try simp only [decide_eq_true_eq, decide_eq_false_iff_not, Bool.not_eq_true, Bool.not_eq_false, Bool.not_eq_eq_eq_not, Bool.not_true, Bool.not_false, dec_eq_true, dec_eq_false, Classical.not_not] at h) <;> simp -implicitDefEqProofs (disch := omega) only [go_sem, hb, ↓reduceIte, Nat.reduceEqDiff, Nat.reduceAdd, Nat.reduceLeDiff, Nat.reduceSub, Nat.reduceMul, Nat.reduceBEq, Int.reduceEq, Int.reduceLT, Int.reduceLE, Int.reduceGT, Int.reduceGE, Int.reduceNeg, Int.reduceToNat] <;> (repeat ((with_reducible refine And.intro ?_ ?_); (focus (first | omega | rfl | assumption | exact ⟨_, rfl, rfl⟩ | (simp only [List.length_take, List.length_map, List.length_append, List.length_cons, List.length_nil]; omega) | (simp; done)))))
      · have h' := sub1_neg h
        exact int_eq (sub1_no (by omega)).symm
      have hType := sub1_nn h
      simp only [hType.1]
      refine call_w (ihSExpr x.fArgs (by omega) _ (by omega) (by omega) fArgs) ?_
      simp -implicitDefEqProofs (disch := omega) only [go_sem, ↓reduceIte, Nat.reduceEqDiff, Nat.reduceAdd, Nat.reduceLeDiff, Nat.reduceSub, Nat.reduceMul, Nat.reduceBEq, Int.reduceEq, Int.reduceLT, Int.reduceLE, Int.reduceGT, Int.reduceGE, Int.reduceNeg, Int.reduceToNat]
      with_reducible refine split2 (fun hb => ?_) (fun hb => ?_) <;> have h := hb <;> (try simp only [decide_eq_true_eq, decide_eq_false_iff_not, Bool.not_eq_true, Bool.not_eq_false, Bool.not_eq_eq_eq_not, Bool.not_true, Bool.not_false, dec_eq_true, dec_eq_false, Classical.not_not] at h) <;> simp -implicitDefEqProofs (disch := omega) only [go_sem, hb, ↓reduceIte, Nat.reduceEqDiff, Nat.reduceAdd, Nat.reduceLeDiff, Nat.reduceSub, Nat.reduceMul, Nat.reduceBEq, Int.reduceEq, Int.reduceLT, Int.reduceLE, Int.reduceGT, Int.reduceGE, Int.reduceNeg, Int.reduceToNat] <;> (repeat ((with_reducible refine And.intro ?_ ?_); (focus (first | omega | rfl | assumption | exact ⟨_, rfl, rfl⟩ | (simp only [List.length_take, List.length_map, List.length_append, List.length_cons, List.length_nil]; omega) | (simp; done)))))
      · have h' := sub1_neg h
        exact int_eq (sub1_no (by omega)).symm
      have hArgs := sub1_nn h
      simp only [hArgs.1]
      refine call_w (ihSArm x.fArms (by omega) _ (by omega) (by omega) fArms) ?_
      simp -implicitDefEqProofs (disch := omega) only [go_sem, ↓reduceIte, Nat.reduceEqDiff, Nat.reduceAdd, Nat.reduceLeDiff, Nat.reduceSub, Nat.reduceMul, Nat.reduceBEq, Int.reduceEq, Int.reduceLT, Int.reduceLE, Int.reduceGT, Int.reduceGE, Int.reduceNeg, Int.reduceToNat]
      with_reducible refine split2 (fun hb => ?_) (fun hb => ?_) <;> have h := hb <;> (try simp only [decide_eq_true_eq, decide_eq_false_iff_not, Bool.not_eq_true, Bool.not_eq_false, Bool.not_eq_eq_eq_not, Bool.not_true, Bool.not_false, dec_eq_true, dec_eq_false, Classical.not_not] at h) <;> simp -implicitDefEqProofs (disch := omega) only [go_sem, hb, ↓reduceIte, Nat.reduceEqDiff, Nat.reduceAdd, Nat.reduceLeDiff, Nat.reduceSub, Nat.reduceMul, Nat.reduceBEq, Int.reduceEq, Int.reduceLT, Int.reduceLE, Int.reduceGT, Int.reduceGE, Int.reduceNeg, Int.reduceToNat] <;> (repeat ((with_reducible refine And.intro ?_ ?_); (focus (first | omega | rfl | assumption | exact ⟨_, rfl, rfl⟩ | (simp only [List.length_take, List.length_map, List.length_append, List.length_cons, List.length_nil]; omega) | (simp; done)))))
      · have h' := sub1_neg h
        exact int_eq (sub1_no (by omega)).symm
      have hArms := sub1_nn h
      simp only [hArms.1]
      refine int_eq ?_
      rw [sub1_yes (by omega)]
      omega
    · obtain ⟨hf1, hf2⟩ := fit_sl hf
      rw [List.length_map] at hf1
      refine acall_cw (rs := [.tmp 4]) Tryz.checked.mixed Tryz.func96 Tryz.ntmps96 rfl rfl rfl rfl rfl ?_
      simp -implicitDefEqProofs (disch := omega) only [go_sem, ↓reduceIte, Nat.reduceEqDiff, Nat.reduceAdd, Nat.reduceLeDiff, Nat.reduceSub, Nat.reduceMul, Nat.reduceBEq, Int.reduceEq, Int.reduceLT, Int.reduceLE, Int.reduceGT, Int.reduceGE, Int.reduceNeg, Int.reduceToNat]
      with_reducible refine split2 (fun hb => ?_) (fun hb => ?_) <;> have h := hb <;> (try simp only [decide_eq_true_eq, decide_eq_false_iff_not, Bool.not_eq_true, Bool.not_eq_false, Bool.not_eq_eq_eq_not, Bool.not_true, Bool.not_false, dec_eq_true, dec_eq_false, Classical.not_not] at h) <;> simp -implicitDefEqProofs (disch := omega) only [go_sem, hb, ↓reduceIte, Nat.reduceEqDiff, Nat.reduceAdd, Nat.reduceLeDiff, Nat.reduceSub, Nat.reduceMul, Nat.reduceBEq, Int.reduceEq, Int.reduceLT, Int.reduceLE, Int.reduceGT, Int.reduceGE, Int.reduceNeg, Int.reduceToNat] <;> (repeat ((with_reducible refine And.intro ?_ ?_); (focus (first | omega | rfl | assumption | exact ⟨_, rfl, rfl⟩ | (simp only [List.length_take, List.length_map, List.length_append, List.length_cons, List.length_nil]; omega) | (simp; done)))))
      · exact int_eq (sub1_no (by omega)).symm
      refine loop_at (ι := Nat × Int) Tryz.checked.mixed rfl [0, 1, 5] (fun y => [.c (.d (.sl (xs.map MExpr.enc))), .c (.d (.i .i64 y.2)), .c (.d (.i .i64 y.1))]) (fun _ => [] :: S)
        (fun y => y.1 ≤ xs.length ∧ 0 ≤ y.2 ∧ y.2 ≤ 1048576 ∧ sub1 y.2 (szRows ((xs.map MExpr.enc).drop y.1)) = sub1 left (xs.length + szRows (xs.map MExpr.enc))) (fun y => xs.length - y.1) (0, left - xs.length) rfl rfl ⟨by omega, by omega, by omega, ?_⟩ ?_
      · unfold sub1
        rw [List.drop_zero]
        split <;> split <;> omega
      rintro ⟨i, l⟩ ⟨p1, p2, p3, p4⟩
      simp only at p1 p2 p3 p4
      simp -implicitDefEqProofs (disch := omega) only [go_sem, ↓reduceIte, Nat.reduceEqDiff, Nat.reduceAdd, Nat.reduceLeDiff, Nat.reduceSub, Nat.reduceMul, Nat.reduceBEq, Int.reduceEq, Int.reduceLT, Int.reduceLE, Int.reduceGT, Int.reduceGE, Int.reduceNeg, Int.reduceToNat]
      with_reducible refine split2 (fun hb => ?_) (fun hb => ?_) <;> have h := hb <;> (try simp only [decide_eq_true_eq, decide_eq_false_iff_not, Bool.not_eq_true, Bool.not_eq_false, Bool.not_eq_eq_eq_not, Bool.not_true, Bool.not_false, dec_eq_true, dec_eq_false, Classical.not_not] at h) <;> simp -implicitDefEqProofs (disch := omega) only [go_sem, hb, ↓reduceIte, Nat.reduceEqDiff, Nat.reduceAdd, Nat.reduceLeDiff, Nat.reduceSub, Nat.reduceMul, Nat.reduceBEq, Int.reduceEq, Int.reduceLT, Int.reduceLE, Int.reduceGT, Int.reduceGE, Int.reduceNeg, Int.reduceToNat] <;> (repeat ((with_reducible refine And.intro ?_ ?_); (focus (first | omega | rfl | assumption | exact ⟨_, rfl, rfl⟩ | (simp only [List.length_take, List.length_map, List.length_append, List.length_cons, List.length_nil]; omega) | (simp; done)))))
      · have hi : i < xs.length := by omega
        rw [List.drop_eq_getElem_cons (by rw [List.length_map]; exact hi), szRows, List.getElem_map, MExpr.sz_def] at p4
        (repeat ((with_reducible refine And.intro ?_ ?_); (focus (first | omega | rfl | assumption | exact ⟨_, rfl, rfl⟩ | (simp only [List.length_take, List.length_map, List.length_append, List.length_cons, List.length_nil]; omega) | (simp; done)))))
        refine call_w (ihExpr xs[i] (by have := List.sizeOf_lt_of_mem (List.getElem_mem hi); omega) _ (by omega) (by omega) (hf2 _ (List.mem_map_of_mem (List.getElem_mem hi)))) ?_
        simp -implicitDefEqProofs (disch := omega) only [go_sem, ↓reduceIte, Nat.reduceEqDiff, Nat.reduceAdd, Nat.reduceLeDiff, Nat.reduceSub, Nat.reduceMul, Nat.reduceBEq, Int.reduceEq, Int.reduceLT, Int.reduceLE, Int.reduceGT, Int.reduceGE, Int.reduceNeg, Int.reduceToNat]
        with_reducible refine split2 (fun hb => ?_) (fun hb => ?_) <;> have h := hb <;> (try simp only [decide_eq_true_eq, decide_eq_false_iff_not, Bool.not_eq_true, Bool.not_eq_false, Bool.not_eq_eq_eq_not, Bool.not_true, Bool.not_false, dec_eq_true, dec_eq_false, Classical.not_not] at h) <;> simp -implicitDefEqProofs (disch := omega) only [go_sem, hb, ↓reduceIte, Nat.reduceEqDiff, Nat.reduceAdd, Nat.reduceLeDiff, Nat.reduceSub, Nat.reduceMul, Nat.reduceBEq, Int.reduceEq, Int.reduceLT, Int.reduceLE, Int.reduceGT, Int.reduceGE, Int.reduceNeg, Int.reduceToNat] <;> (repeat ((with_reducible refine And.intro ?_ ?_); (focus (first | omega | rfl | assumption | exact ⟨_, rfl, rfl⟩ | (simp only [List.length_take, List.length_map, List.length_append, List.length_cons, List.length_nil]; omega) | (simp; done)))))
        · have h' := sub1_neg h
          rw [← p4, sub1_no (by omega)]
        · have h' := sub1_nn h
          refine inv_at (i + 1, sub1 l _) (by simp only; omega) rfl rfl ⟨by simp only; omega, by simp only; omega, by simp only; omega, ?_⟩
          simp only
          rw [← p4, h'.1]
          unfold sub1
          split <;> split <;> omega
      · have hi : i = xs.length := by omega
        rw [hi, List.drop_of_length_le (by simp), szRows, sub1_yes (by omega)] at p4
        rw [← p4]
        refine int_eq ?_
        omega
    · have lBody := MArm.lt_Body x
      simp only [MArm.enc_eq, List.cons_append, List.nil_append, fitL_cons, fitL_append, fitL_nil_iff, and_true] at hf
      obtain ⟨fConstructor, fVars, fBody⟩ := hf
      have hz : x.sz = x.fConstructor.length + ((x.fVars.length + szRows (x.fVars.map encS)) + (x.fBody.sz)) := by
        simp only [MArm.sz, MArm.enc_eq, szRow, szRow_append, D.sz, List.length_map, Nat.add_zero, Nat.zero_add, MExpr.sz_def] <;> omega
      refine acall_cw (rs := [.tmp 4]) Tryz.checked.mixed Tryz.func155 Tryz.ntmps155 rfl rfl rfl rfl rfl ?_
      rw [hz]
      have gConstructor := fit_s fConstructor
      simp -implicitDefEqProofs (disch := omega) only [go_sem, ↓reduceIte, Nat.reduceEqDiff, Nat.reduceAdd, Nat.reduceLeDiff, Nat.reduceSub, Nat.reduceMul, Nat.reduceBEq, Int.reduceEq, Int.reduceLT, Int.reduceLE, Int.reduceGT, Int.reduceGE, Int.reduceNeg, Int.reduceToNat]
      with_reducible refine split2 (fun hb => ?_) (fun hb => ?_) <;> have h := hb <;> (try simp only [decide_eq_true_eq, decide_eq_false_iff_not, Bool.not_eq_true, Bool.not_eq_false, Bool.not_eq_eq_eq_not, Bool.not_true, Bool.not_false, dec_eq_true, dec_eq_false, Classical.not_not] at h) <;> simp -implicitDefEqProofs (disch := omega) only [go_sem, hb, ↓reduceIte, Nat.reduceEqDiff, Nat.reduceAdd, Nat.reduceLeDiff, Nat.reduceSub, Nat.reduceMul, Nat.reduceBEq, Int.reduceEq, Int.reduceLT, Int.reduceLE, Int.reduceGT, Int.reduceGE, Int.reduceNeg, Int.reduceToNat] <;> (repeat ((with_reducible refine And.intro ?_ ?_); (focus (first | omega | rfl | assumption | exact ⟨_, rfl, rfl⟩ | (simp only [List.length_take, List.length_map, List.length_append, List.length_cons, List.length_nil]; omega) | (simp; done)))))
      · exact int_eq (sub1_no (by omega)).symm
      refine call_w (szStringS_ok x.fVars _ (by omega) (by omega) fVars) ?_
      simp -implicitDefEqProofs (disch := omega) only [go_sem, ↓reduceIte, Nat.reduceEqDiff, Nat.reduceAdd, Nat.reduceLeDiff, Nat.reduceSub, Nat.reduceMul, Nat.reduceBEq, Int.reduceEq, Int.reduceLT, Int.reduceLE, Int.reduceGT, Int.reduceGE, Int.reduceNeg, Int.reduceToNat]
      with_reducible refine split2 (fun hb => ?_) (fun hb => ?_) <;> have h := hb <;> (try simp only [decide_eq_true_eq, decide_eq_false_iff_not, Bool.not_eq_true, Bool.not_eq_false, Bool.not_eq_eq_eq_not, Bool.not_true, Bool.not_false, dec_eq_true, dec_eq_false, Classical.not_not] at h) <;> simp -implicitDefEqProofs (disch := omega) only [go_sem, hb, ↓reduceIte, Nat.reduceEqDiff, Nat.reduceAdd, Nat.reduceLeDiff, Nat.reduceSub, Nat.reduceMul, Nat.reduceBEq, Int.reduceEq, Int.reduceLT, Int.reduceLE, Int.reduceGT, Int.reduceGE, Int.reduceNeg, Int.reduceToNat] <;> (repeat ((with_reducible refine And.intro ?_ ?_); (focus (first | omega | rfl | assumption | exact ⟨_, rfl, rfl⟩ | (simp only [List.length_take, List.length_map, List.length_append, List.length_cons, List.length_nil]; omega) | (simp; done)))))
      · have h' := sub1_neg h
        exact int_eq (sub1_no (by omega)).symm
      have hVars := sub1_nn h
      simp only [hVars.1]
      refine call_w (ihExpr x.fBody (by omega) _ (by omega) (by omega) fBody) ?_
      simp -implicitDefEqProofs (disch := omega) only [go_sem, ↓reduceIte, Nat.reduceEqDiff, Nat.reduceAdd, Nat.reduceLeDiff, Nat.reduceSub, Nat.reduceMul, Nat.reduceBEq, Int.reduceEq, Int.reduceLT, Int.reduceLE, Int.reduceGT, Int.reduceGE, Int.reduceNeg, Int.reduceToNat]
      with_reducible refine split2 (fun hb => ?_) (fun hb => ?_) <;> have h := hb <;> (try simp only [decide_eq_true_eq, decide_eq_false_iff_not, Bool.not_eq_true, Bool.not_eq_false, Bool.not_eq_eq_eq_not, Bool.not_true, Bool.not_false, dec_eq_true, dec_eq_false, Classical.not_not] at h) <;> simp -implicitDefEqProofs (disch := omega) only [go_sem, hb, ↓reduceIte, Nat.reduceEqDiff, Nat.reduceAdd, Nat.reduceLeDiff, Nat.reduceSub, Nat.reduceMul, Nat.reduceBEq, Int.reduceEq, Int.reduceLT, Int.reduceLE, Int.reduceGT, Int.reduceGE, Int.reduceNeg, Int.reduceToNat] <;> (repeat ((with_reducible refine And.intro ?_ ?_); (focus (first | omega | rfl | assumption | exact ⟨_, rfl, rfl⟩ | (simp only [List.length_take, List.length_map, List.length_append, List.length_cons, List.length_nil]; omega) | (simp; done)))))
      · have h' := sub1_neg h
        exact int_eq (sub1_no (by omega)).symm
      have hBody := sub1_nn h
      simp only [hBody.1]
      refine int_eq ?_
      rw [sub1_yes (by omega)]
      omega
    · obtain ⟨hf1, hf2⟩ := fit_sl hf
      rw [List.length_map] at hf1
      refine acall_cw (rs := [.tmp 4]) Tryz.checked.mixed Tryz.func97 Tryz.ntmps97 rfl rfl rfl rfl rfl ?_
      simp -implicitDefEqProofs (disch := omega) only [go_sem, ↓reduceIte, Nat.reduceEqDiff, Nat.reduceAdd, Nat.reduceLeDiff, Nat.reduceSub, Nat.reduceMul, Nat.reduceBEq, Int.reduceEq, Int.reduceLT, Int.reduceLE, Int.reduceGT, Int.reduceGE, Int.reduceNeg, Int.reduceToNat]
      with_reducible refine split2 (fun hb => ?_) (fun hb => ?_) <;> have h := hb <;> (try simp only [decide_eq_true_eq, decide_eq_false_iff_not, Bool.not_eq_true, Bool.not_eq_false, Bool.not_eq_eq_eq_not, Bool.not_true, Bool.not_false, dec_eq_true, dec_eq_false, Classical.not_not] at h) <;> simp -implicitDefEqProofs (disch := omega) only [go_sem, hb, ↓reduceIte, Nat.reduceEqDiff, Nat.reduceAdd, Nat.reduceLeDiff, Nat.reduceSub, Nat.reduceMul, Nat.reduceBEq, Int.reduceEq, Int.reduceLT, Int.reduceLE, Int.reduceGT, Int.reduceGE, Int.reduceNeg, Int.reduceToNat] <;> (repeat ((with_reducible refine And.intro ?_ ?_); (focus (first | omega | rfl | assumption | exact ⟨_, rfl, rfl⟩ | (simp only [List.length_take, List.length_map, List.length_append, List.length_cons, List.length_nil]; omega) | (simp; done)))))
      · exact int_eq (sub1_no (by omega)).symm
      refine loop_at (ι := Nat × Int) Tryz.checked.mixed rfl [0, 1, 5] (fun y => [.c (.d (.sl (xs.map MArm.enc))), .c (.d (.i .i64 y.2)), .c (.d (.i .i64 y.1))]) (fun _ => [] :: S)
        (fun y => y.1 ≤ xs.length ∧ 0 ≤ y.2 ∧ y.2 ≤ 1048576 ∧ sub1 y.2 (szRows ((xs.map MArm.enc).drop y.1)) = sub1 left (xs.length + szRows (xs.map MArm.enc))) (fun y => xs.length - y.1) (0, left - xs.length) rfl rfl ⟨by omega, by omega, by omega, ?_⟩ ?_
      · unfold sub1
        rw [List.drop_zero]
        split <;> split <;> omega
      rintro ⟨i, l⟩ ⟨p1, p2, p3, p4⟩
      simp only at p1 p2 p3 p4
      simp -implicitDefEqProofs (disch := omega) only [go_sem, ↓reduceIte, Nat.reduceEqDiff, Nat.reduceAdd, Nat.reduceLeDiff, Nat.reduceSub, Nat.reduceMul, Nat.reduceBEq, Int.reduceEq, Int.reduceLT, Int.reduceLE, Int.reduceGT, Int.reduceGE, Int.reduceNeg, Int.reduceToNat]
      with_reducible refine split2 (fun hb => ?_) (fun hb => ?_) <;> have h := hb <;> (try simp only [decide_eq_true_eq, decide_eq_false_iff_not, Bool.not_eq_true, Bool.not_eq_false, Bool.not_eq_eq_eq_not, Bool.not_true, Bool.not_false, dec_eq_true, dec_eq_false, Classical.not_not] at h) <;> simp -implicitDefEqProofs (disch := omega) only [go_sem, hb, ↓reduceIte, Nat.reduceEqDiff, Nat.reduceAdd, Nat.reduceLeDiff, Nat.reduceSub, Nat.reduceMul, Nat.reduceBEq, Int.reduceEq, Int.reduceLT, Int.reduceLE, Int.reduceGT, Int.reduceGE, Int.reduceNeg, Int.reduceToNat] <;> (repeat ((with_reducible refine And.intro ?_ ?_); (focus (first | omega | rfl | assumption | exact ⟨_, rfl, rfl⟩ | (simp only [List.length_take, List.length_map, List.length_append, List.length_cons, List.length_nil]; omega) | (simp; done)))))
      · have hi : i < xs.length := by omega
        rw [List.drop_eq_getElem_cons (by rw [List.length_map]; exact hi), szRows, List.getElem_map, MArm.sz_def] at p4
        (repeat ((with_reducible refine And.intro ?_ ?_); (focus (first | omega | rfl | assumption | exact ⟨_, rfl, rfl⟩ | (simp only [List.length_take, List.length_map, List.length_append, List.length_cons, List.length_nil]; omega) | (simp; done)))))
        refine call_w (ihArm xs[i] (by have := List.sizeOf_lt_of_mem (List.getElem_mem hi); omega) _ (by omega) (by omega) (hf2 _ (List.mem_map_of_mem (List.getElem_mem hi)))) ?_
        simp -implicitDefEqProofs (disch := omega) only [go_sem, ↓reduceIte, Nat.reduceEqDiff, Nat.reduceAdd, Nat.reduceLeDiff, Nat.reduceSub, Nat.reduceMul, Nat.reduceBEq, Int.reduceEq, Int.reduceLT, Int.reduceLE, Int.reduceGT, Int.reduceGE, Int.reduceNeg, Int.reduceToNat]
        with_reducible refine split2 (fun hb => ?_) (fun hb => ?_) <;> have h := hb <;> (try simp only [decide_eq_true_eq, decide_eq_false_iff_not, Bool.not_eq_true, Bool.not_eq_false, Bool.not_eq_eq_eq_not, Bool.not_true, Bool.not_false, dec_eq_true, dec_eq_false, Classical.not_not] at h) <;> simp -implicitDefEqProofs (disch := omega) only [go_sem, hb, ↓reduceIte, Nat.reduceEqDiff, Nat.reduceAdd, Nat.reduceLeDiff, Nat.reduceSub, Nat.reduceMul, Nat.reduceBEq, Int.reduceEq, Int.reduceLT, Int.reduceLE, Int.reduceGT, Int.reduceGE, Int.reduceNeg, Int.reduceToNat] <;> (repeat ((with_reducible refine And.intro ?_ ?_); (focus (first | omega | rfl | assumption | exact ⟨_, rfl, rfl⟩ | (simp only [List.length_take, List.length_map, List.length_append, List.length_cons, List.length_nil]; omega) | (simp; done)))))
        · have h' := sub1_neg h
          rw [← p4, sub1_no (by omega)]
        · have h' := sub1_nn h
          refine inv_at (i + 1, sub1 l _) (by simp only; omega) rfl rfl ⟨by simp only; omega, by simp only; omega, by simp only; omega, ?_⟩
          simp only
          rw [← p4, h'.1]
          unfold sub1
          split <;> split <;> omega
      · have hi : i = xs.length := by omega
        rw [hi, List.drop_of_length_le (by simp), szRows, sub1_yes (by omega)] at p4
        rw [← p4]
        refine int_eq ?_
        omega
theorem szExpr_ok (x : MExpr) : ∀ left : Int, 0 ≤ left → left ≤ 1048576 → FitL x.enc → PCall Tryz.prog 42 [x.v, .c (.d (.i .i64 left))] (.c (.d (.i .i64 (sub1 left x.sz)))) := (szExpr_all _).1 x (Nat.lt_succ_self _)
theorem szExprS_ok (xs : List MExpr) : ∀ left : Int, 0 ≤ left → left ≤ 1048576 → (D.sl (xs.map MExpr.enc)).Fit → PCall Tryz.prog 96 [.c (.d (.sl (xs.map MExpr.enc))), .c (.d (.i .i64 left))] (.c (.d (.i .i64 (sub1 left (xs.length + szRows (xs.map MExpr.enc)))))) := (szExpr_all _).2.1 xs (Nat.lt_succ_self _)
theorem szArm_ok (x : MArm) : ∀ left : Int, 0 ≤ left → left ≤ 1048576 → FitL x.enc → PCall Tryz.prog 155 [x.v, .c (.d (.i .i64 left))] (.c (.d (.i .i64 (sub1 left x.sz)))) := (szExpr_all _).2.2.1 x (Nat.lt_succ_self _)
theorem szArmS_ok (xs : List MArm) : ∀ left : Int, 0 ≤ left → left ≤ 1048576 → (D.sl (xs.map MArm.enc)).Fit → PCall Tryz.prog 97 [.c (.d (.sl (xs.map MArm.enc))), .c (.d (.i .i64 left))] (.c (.d (.i .i64 (sub1 left (xs.length + szRows (xs.map MArm.enc)))))) := (szExpr_all _).2.2.2 xs (Nat.lt_succ_self _)
theorem toExpr_all : ∀ n : Nat, (∀ x : MExpr, SizeOf.sizeOf x < n → x.sz ≤ 1048576 → PCall Tryz.prog 51 [x.v] x.v) ∧
    (∀ xs : List MExpr, SizeOf.sizeOf xs < n → xs.length + szRows (xs.map MExpr.enc) ≤ 1048576 → PCall Tryz.prog 109 [.c (.d (.sl (xs.map MExpr.enc)))] (.c (.d (.sl (xs.map MExpr.enc))))) ∧
    (∀ x : MArm, SizeOf.sizeOf x < n → x.sz ≤ 1048576 → PCall Tryz.prog 163 [x.v] x.v) ∧
    (∀ xs : List MArm, SizeOf.sizeOf xs < n → xs.length + szRows (xs.map MArm.enc) ≤ 1048576 → PCall Tryz.prog 110 [.c (.d (.sl (xs.map MArm.enc)))] (.c (.d (.sl (xs.map MArm.enc)))))
  | 0 => ⟨fun x h => by omega, fun x h => by omega, fun x h => by omega, fun x h => by omega⟩
  | n + 1 => by
    obtain ⟨ihExpr, ihSExpr, ihArm, ihSArm⟩ := toExpr_all n
    refine ⟨fun x hn hsz S => ?_, fun xs hn hsz S => ?_, fun x hn hsz S => ?_, fun xs hn hsz S => ?_⟩
    · have lArgs := MExpr.lt_Args x
      have lArms := MExpr.lt_Arms x
      simp only [MExpr.sz, MExpr.enc_eq, szRow, szRow_append, D.sz, List.length_map, MType.sz_def] at hsz
      refine acall_cw (rs := [.cell 2 44]) Tryz.checked.mixed Tryz.func51 Tryz.ntmps51 rfl rfl rfl rfl rfl ?_
      simp -implicitDefEqProofs (disch := omega) only [go_sem, ↓reduceIte, Nat.reduceEqDiff, Nat.reduceAdd, Nat.reduceLeDiff, Nat.reduceSub, Nat.reduceMul, Nat.reduceBEq, Int.reduceEq, Int.reduceLT, Int.reduceLE, Int.reduceGT, Int.reduceGE, Int.reduceNeg, Int.reduceToNat]
      refine call_w (toType_ok x.fType (by omega)) ?_
      simp -implicitDefEqProofs (disch := omega) only [go_sem, ↓reduceIte, Nat.reduceEqDiff, Nat.reduceAdd, Nat.reduceLeDiff, Nat.reduceSub, Nat.reduceMul, Nat.reduceBEq, Int.reduceEq, Int.reduceLT, Int.reduceLE, Int.reduceGT, Int.reduceGE, Int.reduceNeg, Int.reduceToNat]
      refine call_w (ihSExpr x.fArgs (by omega) (by omega)) ?_
      simp -implicitDefEqProofs (disch := omega) only [go_sem, ↓reduceIte, Nat.reduceEqDiff, Nat.reduceAdd, Nat.reduceLeDiff, Nat.reduceSub, Nat.reduceMul, Nat.reduceBEq, Int.reduceEq, Int.reduceLT, Int.reduceLE, Int.reduceGT, Int.reduceGE, Int.reduceNeg, Int.reduceToNat]
      refine call_w (ihSArm x.fArms (by omega) (by omega)) ?_
      simp -implicitDefEqProofs (disch := omega) only [go_sem, ↓reduceIte, Nat.reduceEqDiff, Nat.reduceAdd, Nat.reduceLeDiff, Nat.reduceSub, Nat.reduceMul, Nat.reduceBEq, Int.reduceEq, Int.reduceLT, Int.reduceLE, Int.reduceGT, Int.reduceGE, Int.reduceNeg, Int.reduceToNat]
    · refine acall_cw (rs := [.tmp 2]) Tryz.checked.mixed Tryz.func109 Tryz.ntmps109 rfl rfl rfl rfl rfl ?_
      simp -implicitDefEqProofs (disch := omega) only [go_sem, ↓reduceIte, Nat.reduceEqDiff, Nat.reduceAdd, Nat.reduceLeDiff, Nat.reduceSub, Nat.reduceMul, Nat.reduceBEq, Int.reduceEq, Int.reduceLT, Int.reduceLE, Int.reduceGT, Int.reduceGE, Int.reduceNeg, Int.reduceToNat]
      (repeat ((with_reducible refine And.intro ?_ ?_); (focus (first | omega | rfl | assumption | exact ⟨_, rfl, rfl⟩ | (simp only [List.length_take, List.length_map, List.length_append, List.length_cons, List.length_nil]; omega) | (simp; done)))))
      refine loop_at (ι := Nat × List (List D)) Tryz.checked.mixed rfl [0, 3, 4] (fun y => [.c (.d (.sl (xs.map MExpr.enc))), .c (.msl (0, 0)), .c (.d (.i .i64 y.1))]) (fun y => [.mrow 9 y.2] :: S)
        (fun y => y.1 ≤ xs.length ∧ Filled 9 y.1 y.2 (xs.map MExpr.enc)) (fun y => xs.length - y.1) (0, _) rfl rfl ⟨Nat.zero_le _, Filled.start (by simp) rfl⟩ ?_
      rintro ⟨i, R⟩ ⟨p1, p2⟩
      simp only at p1 p2
      simp -implicitDefEqProofs (disch := omega) only [go_sem, ↓reduceIte, Nat.reduceEqDiff, Nat.reduceAdd, Nat.reduceLeDiff, Nat.reduceSub, Nat.reduceMul, Nat.reduceBEq, Int.reduceEq, Int.reduceLT, Int.reduceLE, Int.reduceGT, Int.reduceGE, Int.reduceNeg, Int.reduceToNat]
      with_reducible refine split2 (fun hb => ?_) (fun hb => ?_) <;> have h := hb <;> (try simp only [decide_eq_true_eq, decide_eq_false_iff_not, Bool.not_eq_true, Bool.not_eq_false, Bool.not_eq_eq_eq_not, Bool.not_true, Bool.not_false, dec_eq_true, dec_eq_false, Classical.not_not] at h) <;> simp -implicitDefEqProofs (disch := omega) only [go_sem, hb, ↓reduceIte, Nat.reduceEqDiff, Nat.reduceAdd, Nat.reduceLeDiff, Nat.reduceSub, Nat.reduceMul, Nat.reduceBEq, Int.reduceEq, Int.reduceLT, Int.reduceLE, Int.reduceGT, Int.reduceGE, Int.reduceNeg, Int.reduceToNat] <;> (repeat ((with_reducible refine And.intro ?_ ?_); (focus (first | omega | rfl | assumption | exact ⟨_, rfl, rfl⟩ | (simp only [List.length_take, List.length_map, List.length_append, List.length_cons, List.length_nil]; omega) | (simp; done)))))
      · have hi : i < xs.length := by omega
        have hx : xs[i].sz ≤ szRows (xs.map MExpr.enc) := szRows_mem (List.mem_map_of_mem (List.getElem_mem hi))
        (repeat ((with_reducible refine And.intro ?_ ?_); (focus (first | omega | rfl | assumption | exact ⟨_, rfl, rfl⟩ | (simp only [List.length_take, List.length_map, List.length_append, List.length_cons, List.length_nil]; omega) | (simp; done)))))
        refine call_w (ihExpr xs[i] (by have := List.sizeOf_lt_of_mem (List.getElem_mem hi); omega) (by omega)) ?_
        simp -implicitDefEqProofs (disch := omega) only [go_sem, ↓reduceIte, Nat.reduceEqDiff, Nat.reduceAdd, Nat.reduceLeDiff, Nat.reduceSub, Nat.reduceMul, Nat.reduceBEq, Int.reduceEq, Int.reduceLT, Int.reduceLE, Int.reduceGT, Int.reduceGE, Int.reduceNeg, Int.reduceToNat]
        have hR := p2.1
        rw [List.length_map] at hR
        (repeat ((with_reducible refine And.intro ?_ ?_); (focus (first | omega | rfl | assumption | exact ⟨_, rfl, rfl⟩ | (simp only [List.length_take, List.length_map, List.length_append, List.length_cons, List.length_nil]; omega) | (simp; done)))))
        refine inv_at (i + 1, _) (by simp only; omega) rfl rfl ⟨by simp only; omega, p2.step (by simp [hi, MExpr.enc_eq, MType.enc_eq]) rfl⟩
      · have hi : i = xs.length := by omega
        rw [p2.done (by rw [List.length_map]; omega)]
    · have lBody := MArm.lt_Body x
      simp only [MArm.sz, MArm.enc_eq, szRow, szRow_append, D.sz, List.length_map, MExpr.sz_def] at hsz
      refine acall_cw (rs := [.cell 2 223]) Tryz.checked.mixed Tryz.func163 Tryz.ntmps163 rfl rfl rfl rfl rfl ?_
      simp -implicitDefEqProofs (disch := omega) only [go_sem, ↓reduceIte, Nat.reduceEqDiff, Nat.reduceAdd, Nat.reduceLeDiff, Nat.reduceSub, Nat.reduceMul, Nat.reduceBEq, Int.reduceEq, Int.reduceLT, Int.reduceLE, Int.reduceGT, Int.reduceGE, Int.reduceNeg, Int.reduceToNat]
      refine call_w (toStringS_ok x.fVars (by omega)) ?_
      simp -implicitDefEqProofs (disch := omega) only [go_sem, ↓reduceIte, Nat.reduceEqDiff, Nat.reduceAdd, Nat.reduceLeDiff, Nat.reduceSub, Nat.reduceMul, Nat.reduceBEq, Int.reduceEq, Int.reduceLT, Int.reduceLE, Int.reduceGT, Int.reduceGE, Int.reduceNeg, Int.reduceToNat]
      refine call_w (ihExpr x.fBody (by omega) (by omega)) ?_
      simp -implicitDefEqProofs (disch := omega) only [go_sem, ↓reduceIte, Nat.reduceEqDiff, Nat.reduceAdd, Nat.reduceLeDiff, Nat.reduceSub, Nat.reduceMul, Nat.reduceBEq, Int.reduceEq, Int.reduceLT, Int.reduceLE, Int.reduceGT, Int.reduceGE, Int.reduceNeg, Int.reduceToNat]
    · refine acall_cw (rs := [.tmp 2]) Tryz.checked.mixed Tryz.func110 Tryz.ntmps110 rfl rfl rfl rfl rfl ?_
      simp -implicitDefEqProofs (disch := omega) only [go_sem, ↓reduceIte, Nat.reduceEqDiff, Nat.reduceAdd, Nat.reduceLeDiff, Nat.reduceSub, Nat.reduceMul, Nat.reduceBEq, Int.reduceEq, Int.reduceLT, Int.reduceLE, Int.reduceGT, Int.reduceGE, Int.reduceNeg, Int.reduceToNat]
      (repeat ((with_reducible refine And.intro ?_ ?_); (focus (first | omega | rfl | assumption | exact ⟨_, rfl, rfl⟩ | (simp only [List.length_take, List.length_map, List.length_append, List.length_cons, List.length_nil]; omega) | (simp; done)))))
      refine loop_at (ι := Nat × List (List D)) Tryz.checked.mixed rfl [0, 3, 4] (fun y => [.c (.d (.sl (xs.map MArm.enc))), .c (.msl (0, 0)), .c (.d (.i .i64 y.1))]) (fun y => [.mrow 11 y.2] :: S)
        (fun y => y.1 ≤ xs.length ∧ Filled 11 y.1 y.2 (xs.map MArm.enc)) (fun y => xs.length - y.1) (0, _) rfl rfl ⟨Nat.zero_le _, Filled.start (by simp) rfl⟩ ?_
      rintro ⟨i, R⟩ ⟨p1, p2⟩
      simp only at p1 p2
      simp -implicitDefEqProofs (disch := omega) only [go_sem, ↓reduceIte, Nat.reduceEqDiff, Nat.reduceAdd, Nat.reduceLeDiff, Nat.reduceSub, Nat.reduceMul, Nat.reduceBEq, Int.reduceEq, Int.reduceLT, Int.reduceLE, Int.reduceGT, Int.reduceGE, Int.reduceNeg, Int.reduceToNat]
      with_reducible refine split2 (fun hb => ?_) (fun hb => ?_) <;> have h := hb <;> (try simp only [decide_eq_true_eq, decide_eq_false_iff_not, Bool.not_eq_true, Bool.not_eq_false, Bool.not_eq_eq_eq_not, Bool.not_true, Bool.not_false, dec_eq_true, dec_eq_false, Classical.not_not] at h) <;> simp -implicitDefEqProofs (disch := omega) only [go_sem, hb, ↓reduceIte, Nat.reduceEqDiff, Nat.reduceAdd, Nat.reduceLeDiff, Nat.reduceSub, Nat.reduceMul, Nat.reduceBEq, Int.reduceEq, Int.reduceLT, Int.reduceLE, Int.reduceGT, Int.reduceGE, Int.reduceNeg, Int.reduceToNat] <;> (repeat ((with_reducible refine And.intro ?_ ?_); (focus (first | omega | rfl | assumption | exact ⟨_, rfl, rfl⟩ | (simp only [List.length_take, List.length_map, List.length_append, List.length_cons, List.length_nil]; omega) | (simp; done)))))
      · have hi : i < xs.length := by omega
        have hx : xs[i].sz ≤ szRows (xs.map MArm.enc) := szRows_mem (List.mem_map_of_mem (List.getElem_mem hi))
        (repeat ((with_reducible refine And.intro ?_ ?_); (focus (first | omega | rfl | assumption | exact ⟨_, rfl, rfl⟩ | (simp only [List.length_take, List.length_map, List.length_append, List.length_cons, List.length_nil]; omega) | (simp; done)))))
        refine call_w (ihArm xs[i] (by have := List.sizeOf_lt_of_mem (List.getElem_mem hi); omega) (by omega)) ?_
        simp -implicitDefEqProofs (disch := omega) only [go_sem, ↓reduceIte, Nat.reduceEqDiff, Nat.reduceAdd, Nat.reduceLeDiff, Nat.reduceSub, Nat.reduceMul, Nat.reduceBEq, Int.reduceEq, Int.reduceLT, Int.reduceLE, Int.reduceGT, Int.reduceGE, Int.reduceNeg, Int.reduceToNat]
        have hR := p2.1
        rw [List.length_map] at hR
        (repeat ((with_reducible refine And.intro ?_ ?_); (focus (first | omega | rfl | assumption | exact ⟨_, rfl, rfl⟩ | (simp only [List.length_take, List.length_map, List.length_append, List.length_cons, List.length_nil]; omega) | (simp; done)))))
        refine inv_at (i + 1, _) (by simp only; omega) rfl rfl ⟨by simp only; omega, p2.step (by simp [hi, MArm.enc_eq, MExpr.enc_eq, MType.enc_eq]) rfl⟩
      · have hi : i = xs.length := by omega
        rw [p2.done (by rw [List.length_map]; omega)]
theorem toExpr_ok (x : MExpr) : x.sz ≤ 1048576 → PCall Tryz.prog 51 [x.v] x.v := (toExpr_all _).1 x (Nat.lt_succ_self _)
theorem toExprS_ok (xs : List MExpr) : xs.length + szRows (xs.map MExpr.enc) ≤ 1048576 → PCall Tryz.prog 109 [.c (.d (.sl (xs.map MExpr.enc)))] (.c (.d (.sl (xs.map MExpr.enc)))) := (toExpr_all _).2.1 xs (Nat.lt_succ_self _)
theorem toArm_ok (x : MArm) : x.sz ≤ 1048576 → PCall Tryz.prog 163 [x.v] x.v := (toExpr_all _).2.2.1 x (Nat.lt_succ_self _)
theorem toArmS_ok (xs : List MArm) : xs.length + szRows (xs.map MArm.enc) ≤ 1048576 → PCall Tryz.prog 110 [.c (.d (.sl (xs.map MArm.enc)))] (.c (.d (.sl (xs.map MArm.enc)))) := (toExpr_all _).2.2.2 xs (Nat.lt_succ_self _)
theorem eqExpr_all : ∀ n : Nat, (∀ x : MExpr, SizeOf.sizeOf x < n → ∀ y : MExpr, x.sz ≤ 1048576 → PCall Tryz.prog 63 [x.v, y.v] (.c (.d (.b (dec (x = y)))))) ∧
    (∀ xs : List MExpr, SizeOf.sizeOf xs < n → ∀ ys : List MExpr, xs.length + szRows (xs.map MExpr.enc) ≤ 1048576 → PCall Tryz.prog 125 [.c (.d (.sl (xs.map MExpr.enc))), .c (.d (.sl (ys.map MExpr.enc)))] (.c (.d (.b (dec (xs = ys)))))) ∧
    (∀ x : MArm, SizeOf.sizeOf x < n → ∀ y : MArm, x.sz ≤ 1048576 → PCall Tryz.prog 173 [x.v, y.v] (.c (.d (.b (dec (x = y)))))) ∧
    (∀ xs : List MArm, SizeOf.sizeOf xs < n → ∀ ys : List MArm, xs.length + szRows (xs.map MArm.enc) ≤ 1048576 → PCall Tryz.prog 126 [.c (.d (.sl (xs.map MArm.enc))), .c (.d (.sl (ys.map MArm.enc)))] (.c (.d (.b (dec (xs = ys))))))
  | 0 => ⟨fun x h => by omega, fun x h => by omega, fun x h => by omega, fun x h => by omega⟩
  | n + 1 => by
    obtain ⟨ihExpr, ihSExpr, ihArm, ihSArm⟩ := eqExpr_all n
    refine ⟨fun x hn y hsz S => ?_, fun xs hn ys hsz S => ?_, fun x hn y hsz S => ?_, fun xs hn ys hsz S => ?_⟩
    · have lArgs := MExpr.lt_Args x
      have lArms := MExpr.lt_Arms x
      simp only [MExpr.sz, MExpr.enc_eq, szRow, szRow_append, D.sz, List.length_map, MType.sz_def] at hsz
      refine acall_cw (rs := [.tmp 4]) Tryz.checked.mixed Tryz.func63 Tryz.ntmps63 rfl rfl rfl rfl rfl ?_
      simp -implicitDefEqProofs (disch := omega) only [go_sem, ↓reduceIte, Nat.reduceEqDiff, Nat.reduceAdd, Nat.reduceLeDiff, Nat.reduceSub, Nat.reduceMul, Nat.reduceBEq, Int.reduceEq, Int.reduceLT, Int.reduceLE, Int.reduceGT, Int.reduceGE, Int.reduceNeg, Int.reduceToNat]
      with_reducible refine split2 (fun hb => ?_) (fun hb => ?_) <;> have h := hb <;> (try simp only [decide_eq_true_eq, decide_eq_false_iff_not, Bool.not_eq_true, Bool.not_eq_false, Bool.not_eq_eq_eq_not, Bool.not_true, Bool.not_false, dec_eq_true, dec_eq_false, Classical.not_not] at h) <;> simp -implicitDefEqProofs (disch := omega) only [go_sem, hb, ↓reduceIte, Nat.reduceEqDiff, Nat.reduceAdd, Nat.reduceLeDiff, Nat.reduceSub, Nat.reduceMul, Nat.reduceBEq, Int.reduceEq, Int.reduceLT, Int.reduceLE, Int.reduceGT, Int.reduceGE, Int.reduceNeg, Int.reduceToNat] <;> (repeat ((with_reducible refine And.intro ?_ ?_); (focus (first | omega | rfl | assumption | exact ⟨_, rfl, rfl⟩ | (simp only [List.length_take, List.length_map, List.length_append, List.length_cons, List.length_nil]; omega) | (simp; done)))))
      · exact bool_eq (dec_false (fun e => h (by rw [e]))).symm
      have eKind := h
      clear h
      with_reducible refine split2 (fun hb => ?_) (fun hb => ?_) <;> have h := hb <;> (try simp only [decide_eq_true_eq, decide_eq_false_iff_not, Bool.not_eq_true, Bool.not_eq_false, Bool.not_eq_eq_eq_not, Bool.not_true, Bool.not_false, dec_eq_true, dec_eq_false, Classical.not_not] at h) <;> simp -implicitDefEqProofs (disch := omega) only [go_sem, hb, ↓reduceIte, Nat.reduceEqDiff, Nat.reduceAdd, Nat.reduceLeDiff, Nat.reduceSub, Nat.reduceMul, Nat.reduceBEq, Int.reduceEq, Int.reduceLT, Int.reduceLE, Int.reduceGT, Int.reduceGE, Int.reduceNeg, Int.reduceToNat] <;> (repeat ((with_reducible refine And.intro ?_ ?_); (focus (first | omega | rfl | assumption | exact ⟨_, rfl, rfl⟩ | (simp only [List.length_take, List.length_map, List.length_append, List.length_cons, List.length_nil]; omega) | (simp; done)))))
      · exact bool_eq (dec_false (fun e => h (by rw [e]))).symm
      have eTrait := h
      clear h
      with_reducible refine split2 (fun hb => ?_) (fun hb => ?_) <;> have h := hb <;> (try simp only [decide_eq_true_eq, decide_eq_false_iff_not, Bool.not_eq_true, Bool.not_eq_false, Bool.not_eq_eq_eq_not, Bool.not_true, Bool.not_false, dec_eq_true, dec_eq_false, Classical.not_not] at h) <;> simp -implicitDefEqProofs (disch := omega) only [go_sem, hb, ↓reduceIte, Nat.reduceEqDiff, Nat.reduceAdd, Nat.reduceLeDiff, Nat.reduceSub, Nat.reduceMul, Nat.reduceBEq, Int.reduceEq, Int.reduceLT, Int.reduceLE, Int.reduceGT, Int.reduceGE, Int.reduceNeg, Int.reduceToNat] <;> (repeat ((with_reducible refine And.intro ?_ ?_); (focus (first | omega | rfl | assumption | exact ⟨_, rfl, rfl⟩ | (simp only [List.length_take, List.length_map, List.length_append, List.length_cons, List.length_nil]; omega) | (simp; done)))))
      · exact bool_eq (dec_false (fun e => h (by rw [e]))).symm
      have eName := h
      clear h
      with_reducible refine split2 (fun hb => ?_) (fun hb => ?_) <;> have h := hb <;> (try simp only [decide_eq_true_eq, decide_eq_false_iff_not, Bool.not_eq_true, Bool.not_eq_false, Bool.not_eq_eq_eq_not, Bool.not_true, Bool.not_false, dec_eq_true, dec_eq_false, Classical.not_not] at h) <;> simp -implicitDefEqProofs (disch := omega) only [go_sem, hb, ↓reduceIte, Nat.reduceEqDiff, Nat.reduceAdd, Nat.reduceLeDiff, Nat.reduceSub, Nat.reduceMul, Nat.reduceBEq, Int.reduceEq, Int.reduceLT, Int.reduceLE, Int.reduceGT, Int.reduceGE, Int.reduceNeg, Int.reduceToNat] <;> (repeat ((with_reducible refine And.intro ?_ ?_); (focus (first | omega | rfl | assumption | exact ⟨_, rfl, rfl⟩ | (simp only [List.length_take, List.length_map, List.length_append, List.length_cons, List.length_nil]; omega) | (simp; done)))))
      · exact bool_eq (dec_false (fun e => h (by rw [e]))).symm
      have eN := h
      clear h
      refine call_w (eqType_ok x.fType _ (by omega)) ?_
      simp -implicitDefEqProofs (disch := omega) only [go_sem, ↓reduceIte, Nat.reduceEqDiff, Nat.reduceAdd, Nat.reduceLeDiff, Nat.reduceSub, Nat.reduceMul, Nat.reduceBEq, Int.reduceEq, Int.reduceLT, Int.reduceLE, Int.reduceGT, Int.reduceGE, Int.reduceNeg, Int.reduceToNat]
      with_reducible refine split2 (fun hb => ?_) (fun hb => ?_) <;> have h := hb <;> (try simp only [decide_eq_true_eq, decide_eq_false_iff_not, Bool.not_eq_true, Bool.not_eq_false, Bool.not_eq_eq_eq_not, Bool.not_true, Bool.not_false, dec_eq_true, dec_eq_false, Classical.not_not] at h) <;> simp -implicitDefEqProofs (disch := omega) only [go_sem, hb, ↓reduceIte, Nat.reduceEqDiff, Nat.reduceAdd, Nat.reduceLeDiff, Nat.reduceSub, Nat.reduceMul, Nat.reduceBEq, Int.reduceEq, Int.reduceLT, Int.reduceLE, Int.reduceGT, Int.reduceGE, Int.reduceNeg, Int.reduceToNat] <;> (repeat ((with_reducible refine And.intro ?_ ?_); (focus (first | omega | rfl | assumption | exact ⟨_, rfl, rfl⟩ | (simp only [List.length_take, List.length_map, List.length_append, List.length_cons, List.length_nil]; omega) | (simp; done)))))
      · exact bool_eq (dec_false (fun e => h (by rw [e]))).symm
      have eType := h
      clear h
      refine call_w (ihSExpr x.fArgs (by omega) _ (by omega)) ?_
      simp -implicitDefEqProofs (disch := omega) only [go_sem, ↓reduceIte, Nat.reduceEqDiff, Nat.reduceAdd, Nat.reduceLeDiff, Nat.reduceSub, Nat.reduceMul, Nat.reduceBEq, Int.reduceEq, Int.reduceLT, Int.reduceLE, Int.reduceGT, Int.reduceGE, Int.reduceNeg, Int.reduceToNat]
      with_reducible refine split2 (fun hb => ?_) (fun hb => ?_) <;> have h := hb <;> (try simp only [decide_eq_true_eq, decide_eq_false_iff_not, Bool.not_eq_true, Bool.not_eq_false, Bool.not_eq_eq_eq_not, Bool.not_true, Bool.not_false, dec_eq_true, dec_eq_false, Classical.not_not] at h) <;> simp -implicitDefEqProofs (disch := omega) only [go_sem, hb, ↓reduceIte, Nat.reduceEqDiff, Nat.reduceAdd, Nat.reduceLeDiff, Nat.reduceSub, Nat.reduceMul, Nat.reduceBEq, Int.reduceEq, Int.reduceLT, Int.reduceLE, Int.reduceGT, Int.reduceGE, Int.reduceNeg, Int.reduceToNat] <;> (repeat ((with_reducible refine And.intro ?_ ?_); (focus (first | omega | rfl | assumption | exact ⟨_, rfl, rfl⟩ | (simp only [List.length_take, List.length_map, List.length_append, List.length_cons, List.length_nil]; omega) | (simp; done)))))
      · exact bool_eq (dec_false (fun e => h (by rw [e]))).symm
      have eArgs := h
      clear h
      refine call_w (ihSArm x.fArms (by omega) _ (by omega)) ?_
      simp -implicitDefEqProofs (disch := omega) only [go_sem, ↓reduceIte, Nat.reduceEqDiff, Nat.reduceAdd, Nat.reduceLeDiff, Nat.reduceSub, Nat.reduceMul, Nat.reduceBEq, Int.reduceEq, Int.reduceLT, Int.reduceLE, Int.reduceGT, Int.reduceGE, Int.reduceNeg, Int.reduceToNat]
      with_reducible refine split2 (fun hb => ?_) (fun hb => ?_) <;> have h := hb <;> (try simp only [decide_eq_true_eq, decide_eq_false_iff_not, Bool.not_eq_true, Bool.not_eq_false, Bool.not_eq_eq_eq_not, Bool.not_true, Bool.not_false, dec_eq_true, dec_eq_false, Classical.not_not] at h) <;> simp -implicitDefEqProofs (disch := omega) only [go_sem, hb, ↓reduceIte, Nat.reduceEqDiff, Nat.reduceAdd, Nat.reduceLeDiff, Nat.reduceSub, Nat.reduceMul, Nat.reduceBEq, Int.reduceEq, Int.reduceLT, Int.reduceLE, Int.reduceGT, Int.reduceGE, Int.reduceNeg, Int.reduceToNat] <;> (repeat ((with_reducible refine And.intro ?_ ?_); (focus (first | omega | rfl | assumption | exact ⟨_, rfl, rfl⟩ | (simp only [List.length_take, List.length_map, List.length_append, List.length_cons, List.length_nil]; omega) | (simp; done)))))
      · exact bool_eq (dec_false (fun e => h (by rw [e]))).symm
      have eArms := h
      clear h
      exact bool_eq (dec_true (MExpr.ext eKind eTrait eName eN eType eArgs eArms)).symm
    · refine acall_cw (rs := [.tmp 4]) Tryz.checked.mixed Tryz.func125 Tryz.ntmps125 rfl rfl rfl rfl rfl ?_
      simp -implicitDefEqProofs (disch := omega) only [go_sem, ↓reduceIte, Nat.reduceEqDiff, Nat.reduceAdd, Nat.reduceLeDiff, Nat.reduceSub, Nat.reduceMul, Nat.reduceBEq, Int.reduceEq, Int.reduceLT, Int.reduceLE, Int.reduceGT, Int.reduceGE, Int.reduceNeg, Int.reduceToNat]
      with_reducible refine split2 (fun hb => ?_) (fun hb => ?_) <;> have h := hb <;> (try simp only [decide_eq_true_eq, decide_eq_false_iff_not, Bool.not_eq_true, Bool.not_eq_false, Bool.not_eq_eq_eq_not, Bool.not_true, Bool.not_false, dec_eq_true, dec_eq_false, Classical.not_not] at h) <;> simp -implicitDefEqProofs (disch := omega) only [go_sem, hb, ↓reduceIte, Nat.reduceEqDiff, Nat.reduceAdd, Nat.reduceLeDiff, Nat.reduceSub, Nat.reduceMul, Nat.reduceBEq, Int.reduceEq, Int.reduceLT, Int.reduceLE, Int.reduceGT, Int.reduceGE, Int.reduceNeg, Int.reduceToNat] <;> (repeat ((with_reducible refine And.intro ?_ ?_); (focus (first | omega | rfl | assumption | exact ⟨_, rfl, rfl⟩ | (simp only [List.length_take, List.length_map, List.length_append, List.length_cons, List.length_nil]; omega) | (simp; done)))))
      · exact bool_eq (dec_false (fun e => h (by rw [e]))).symm
      have hl : xs.length = ys.length := by omega
      refine loop_at (ι := Nat) Tryz.checked.mixed rfl [0, 1, 5] (fun y => [.c (.d (.sl (xs.map MExpr.enc))), .c (.d (.sl (ys.map MExpr.enc))), .c (.d (.i .i64 y))]) (fun y => [] :: S)
        (fun i => i ≤ xs.length ∧ ∀ j, j < i → xs[j]? = ys[j]?) (fun y => xs.length - y) 0 rfl rfl ⟨Nat.zero_le _, fun j h => by omega⟩ ?_
      rintro i ⟨p1, p2⟩
      simp -implicitDefEqProofs (disch := omega) only [go_sem, ↓reduceIte, Nat.reduceEqDiff, Nat.reduceAdd, Nat.reduceLeDiff, Nat.reduceSub, Nat.reduceMul, Nat.reduceBEq, Int.reduceEq, Int.reduceLT, Int.reduceLE, Int.reduceGT, Int.reduceGE, Int.reduceNeg, Int.reduceToNat]
      with_reducible refine split2 (fun hb => ?_) (fun hb => ?_) <;> have h := hb <;> (try simp only [decide_eq_true_eq, decide_eq_false_iff_not, Bool.not_eq_true, Bool.not_eq_false, Bool.not_eq_eq_eq_not, Bool.not_true, Bool.not_false, dec_eq_true, dec_eq_false, Classical.not_not] at h) <;> simp -implicitDefEqProofs (disch := omega) only [go_sem, hb, ↓reduceIte, Nat.reduceEqDiff, Nat.reduceAdd, Nat.reduceLeDiff, Nat.reduceSub, Nat.reduceMul, Nat.reduceBEq, Int.reduceEq, Int.reduceLT, Int.reduceLE, Int.reduceGT, Int.reduceGE, Int.reduceNeg, Int.reduceToNat] <;> (repeat ((with_reducible refine And.intro ?_ ?_); (focus (first | omega | rfl | assumption | exact ⟨_, rfl, rfl⟩ | (simp only [List.length_take, List.length_map, List.length_append, List.length_cons, List.length_nil]; omega) | (simp; done)))))
      · have hi : i < xs.length := by omega
        have hi' : i < ys.length := by omega
        have hx : xs[i].sz ≤ szRows (xs.map MExpr.enc) := szRows_mem (List.mem_map_of_mem (List.getElem_mem hi))
        (repeat ((with_reducible refine And.intro ?_ ?_); (focus (first | omega | rfl | assumption | exact ⟨_, rfl, rfl⟩ | (simp only [List.length_take, List.length_map, List.length_append, List.length_cons, List.length_nil]; omega) | (simp; done)))))
        refine call_w (ihExpr xs[i] (by have := List.sizeOf_lt_of_mem (List.getElem_mem hi); omega) ys[i] (by omega)) ?_
        simp -implicitDefEqProofs (disch := omega) only [go_sem, ↓reduceIte, Nat.reduceEqDiff, Nat.reduceAdd, Nat.reduceLeDiff, Nat.reduceSub, Nat.reduceMul, Nat.reduceBEq, Int.reduceEq, Int.reduceLT, Int.reduceLE, Int.reduceGT, Int.reduceGE, Int.reduceNeg, Int.reduceToNat]
        with_reducible refine split2 (fun hb => ?_) (fun hb => ?_) <;> have h := hb <;> (try simp only [decide_eq_true_eq, decide_eq_false_iff_not, Bool.not_eq_true, Bool.not_eq_false, Bool.not_eq_eq_eq_not, Bool.not_true, Bool.not_false, dec_eq_true, dec_eq_false, Classical.not_not] at h) <;> simp -implicitDefEqProofs (disch := omega) only [go_sem, hb, ↓reduceIte, Nat.reduceEqDiff, Nat.reduceAdd, Nat.reduceLeDiff, Nat.reduceSub, Nat.reduceMul, Nat.reduceBEq, Int.reduceEq, Int.reduceLT, Int.reduceLE, Int.reduceGT, Int.reduceGE, Int.reduceNeg, Int.reduceToNat] <;> (repeat ((with_reducible refine And.intro ?_ ?_); (focus (first | omega | rfl | assumption | exact ⟨_, rfl, rfl⟩ | (simp only [List.length_take, List.length_map, List.length_append, List.length_cons, List.length_nil]; omega) | (simp; done)))))
        · exact bool_eq (dec_false (fun e => h (by simp only [e]))).symm
        refine inv_at (i + 1) (by omega) rfl rfl ⟨by omega, fun j hj => ?_⟩
        by_cases e : j = i
        · subst e
          rw [List.getElem?_eq_getElem hi, List.getElem?_eq_getElem hi', h]
        · exact p2 j (by omega)
      · have hi : i = xs.length := by omega
        refine bool_eq (dec_true (List.ext_getElem? fun j => ?_)).symm
        by_cases hj : j < i
        · exact p2 j hj
        · rw [List.getElem?_eq_none (by omega), List.getElem?_eq_none (by omega)]
    · have lBody := MArm.lt_Body x
      simp only [MArm.sz, MArm.enc_eq, szRow, szRow_append, D.sz, List.length_map, MExpr.sz_def] at hsz
      refine acall_cw (rs := [.tmp 4]) Tryz.checked.mixed Tryz.func173 Tryz.ntmps173 rfl rfl rfl rfl rfl ?_
      simp -implicitDefEqProofs (disch := omega) only [go_sem, ↓reduceIte, Nat.reduceEqDiff, Nat.reduceAdd, Nat.reduceLeDiff, Nat.reduceSub, Nat.reduceMul, Nat.reduceBEq, Int.reduceEq, Int.reduceLT, Int.reduceLE, Int.reduceGT, Int.reduceGE, Int.reduceNeg, Int.reduceToNat]
      with_reducible refine split2 (fun hb => ?_) (fun hb => ?_) <;> have h := hb <;> (try simp only [decide_eq_true_eq, decide_eq_false_iff_not, Bool.not_eq_true, Bool.not_eq_false, Bool.not_eq_eq_eq_not, Bool.not_true, Bool.not_false, dec_eq_true, dec_eq_false, Classical.not_not] at h) <;> simp -implicitDefEqProofs (disch := omega) only [go_sem, hb, ↓reduceIte, Nat.reduceEqDiff, Nat.reduceAdd, Nat.reduceLeDiff, Nat.reduceSub, Nat.reduceMul, Nat.reduceBEq, Int.reduceEq, Int.reduceLT, Int.reduceLE, Int.reduceGT, Int.reduceGE, Int.reduceNeg, Int.reduceToNat] <;> (repeat ((with_reducible refine And.intro ?_ ?_); (focus (first | omega | rfl | assumption | exact ⟨_, rfl, rfl⟩ | (simp only [List.length_take, List.length_map, List.length_append, List.length_cons, List.length_nil]; omega) | (simp; done)))))
      · exact bool_eq (dec_false (fun e => h (by rw [e]))).symm
      have eConstructor := h
      clear h
      refine call_w (eqStringS_ok x.fVars _ (by omega)) ?_
      simp -implicitDefEqProofs (disch := omega) only [go_sem, ↓reduceIte, Nat.reduceEqDiff, Nat.reduceAdd, Nat.reduceLeDiff, Nat.reduceSub, Nat.reduceMul, Nat.reduceBEq, Int.reduceEq, Int.reduceLT, Int.reduceLE, Int.reduceGT, Int.reduceGE, Int.reduceNeg, Int.reduceToNat]
      with_reducible refine split2 (fun hb => ?_) (fun hb => ?_) <;> have h := hb <;> (try simp only [decide_eq_true_eq, decide_eq_false_iff_not, Bool.not_eq_true, Bool.not_eq_false, Bool.not_eq_eq_eq_not, Bool.not_true, Bool.not_false, dec_eq_true, dec_eq_false, Classical.not_not] at h) <;> simp -implicitDefEqProofs (disch := omega) only [go_sem, hb, ↓reduceIte, Nat.reduceEqDiff, Nat.reduceAdd, Nat.reduceLeDiff, Nat.reduceSub, Nat.reduceMul, Nat.reduceBEq, Int.reduceEq, Int.reduceLT, Int.reduceLE, Int.reduceGT, Int.reduceGE, Int.reduceNeg, Int.reduceToNat] <;> (repeat ((with_reducible refine And.intro ?_ ?_); (focus (first | omega | rfl | assumption | exact ⟨_, rfl, rfl⟩ | (simp only [List.length_take, List.length_map, List.length_append, List.length_cons, List.length_nil]; omega) | (simp; done)))))
      · exact bool_eq (dec_false (fun e => h (by rw [e]))).symm
      have eVars := h
      clear h
      refine call_w (ihExpr x.fBody (by omega) _ (by omega)) ?_
      simp -implicitDefEqProofs (disch := omega) only [go_sem, ↓reduceIte, Nat.reduceEqDiff, Nat.reduceAdd, Nat.reduceLeDiff, Nat.reduceSub, Nat.reduceMul, Nat.reduceBEq, Int.reduceEq, Int.reduceLT, Int.reduceLE, Int.reduceGT, Int.reduceGE, Int.reduceNeg, Int.reduceToNat]
      with_reducible refine split2 (fun hb => ?_) (fun hb => ?_) <;> have h := hb <;> (try simp only [decide_eq_true_eq, decide_eq_false_iff_not, Bool.not_eq_true, Bool.not_eq_false, Bool.not_eq_eq_eq_not, Bool.not_true, Bool.not_false, dec_eq_true, dec_eq_false, Classical.not_not] at h) <;> simp -implicitDefEqProofs (disch := omega) only [go_sem, hb, ↓reduceIte, Nat.reduceEqDiff, Nat.reduceAdd, Nat.reduceLeDiff, Nat.reduceSub, Nat.reduceMul, Nat.reduceBEq, Int.reduceEq, Int.reduceLT, Int.reduceLE, Int.reduceGT, Int.reduceGE, Int.reduceNeg, Int.reduceToNat] <;> (repeat ((with_reducible refine And.intro ?_ ?_); (focus (first | omega | rfl | assumption | exact ⟨_, rfl, rfl⟩ | (simp only [List.length_take, List.length_map, List.length_append, List.length_cons, List.length_nil]; omega) | (simp; done)))))
      · exact bool_eq (dec_false (fun e => h (by rw [e]))).symm
      have eBody := h
      clear h
      exact bool_eq (dec_true (MArm.ext eConstructor eVars eBody)).symm
    · refine acall_cw (rs := [.tmp 4]) Tryz.checked.mixed Tryz.func126 Tryz.ntmps126 rfl rfl rfl rfl rfl ?_
      simp -implicitDefEqProofs (disch := omega) only [go_sem, ↓reduceIte, Nat.reduceEqDiff, Nat.reduceAdd, Nat.reduceLeDiff, Nat.reduceSub, Nat.reduceMul, Nat.reduceBEq, Int.reduceEq, Int.reduceLT, Int.reduceLE, Int.reduceGT, Int.reduceGE, Int.reduceNeg, Int.reduceToNat]
      with_reducible refine split2 (fun hb => ?_) (fun hb => ?_) <;> have h := hb <;> (try simp only [decide_eq_true_eq, decide_eq_false_iff_not, Bool.not_eq_true, Bool.not_eq_false, Bool.not_eq_eq_eq_not, Bool.not_true, Bool.not_false, dec_eq_true, dec_eq_false, Classical.not_not] at h) <;> simp -implicitDefEqProofs (disch := omega) only [go_sem, hb, ↓reduceIte, Nat.reduceEqDiff, Nat.reduceAdd, Nat.reduceLeDiff, Nat.reduceSub, Nat.reduceMul, Nat.reduceBEq, Int.reduceEq, Int.reduceLT, Int.reduceLE, Int.reduceGT, Int.reduceGE, Int.reduceNeg, Int.reduceToNat] <;> (repeat ((with_reducible refine And.intro ?_ ?_); (focus (first | omega | rfl | assumption | exact ⟨_, rfl, rfl⟩ | (simp only [List.length_take, List.length_map, List.length_append, List.length_cons, List.length_nil]; omega) | (simp; done)))))
      · exact bool_eq (dec_false (fun e => h (by rw [e]))).symm
      have hl : xs.length = ys.length := by omega
      refine loop_at (ι := Nat) Tryz.checked.mixed rfl [0, 1, 5] (fun y => [.c (.d (.sl (xs.map MArm.enc))), .c (.d (.sl (ys.map MArm.enc))), .c (.d (.i .i64 y))]) (fun y => [] :: S)
        (fun i => i ≤ xs.length ∧ ∀ j, j < i → xs[j]? = ys[j]?) (fun y => xs.length - y) 0 rfl rfl ⟨Nat.zero_le _, fun j h => by omega⟩ ?_
      rintro i ⟨p1, p2⟩
      simp -implicitDefEqProofs (disch := omega) only [go_sem, ↓reduceIte, Nat.reduceEqDiff, Nat.reduceAdd, Nat.reduceLeDiff, Nat.reduceSub, Nat.reduceMul, Nat.reduceBEq, Int.reduceEq, Int.reduceLT, Int.reduceLE, Int.reduceGT, Int.reduceGE, Int.reduceNeg, Int.reduceToNat]
      with_reducible refine split2 (fun hb => ?_) (fun hb => ?_) <;> have h := hb <;> (try simp only [decide_eq_true_eq, decide_eq_false_iff_not, Bool.not_eq_true, Bool.not_eq_false, Bool.not_eq_eq_eq_not, Bool.not_true, Bool.not_false, dec_eq_true, dec_eq_false, Classical.not_not] at h) <;> simp -implicitDefEqProofs (disch := omega) only [go_sem, hb, ↓reduceIte, Nat.reduceEqDiff, Nat.reduceAdd, Nat.reduceLeDiff, Nat.reduceSub, Nat.reduceMul, Nat.reduceBEq, Int.reduceEq, Int.reduceLT, Int.reduceLE, Int.reduceGT, Int.reduceGE, Int.reduceNeg, Int.reduceToNat] <;> (repeat ((with_reducible refine And.intro ?_ ?_); (focus (first | omega | rfl | assumption | exact ⟨_, rfl, rfl⟩ | (simp only [List.length_take, List.length_map, List.length_append, List.length_cons, List.length_nil]; omega) | (simp; done)))))
      · have hi : i < xs.length := by omega
        have hi' : i < ys.length := by omega
        have hx : xs[i].sz ≤ szRows (xs.map MArm.enc) := szRows_mem (List.mem_map_of_mem (List.getElem_mem hi))
        (repeat ((with_reducible refine And.intro ?_ ?_); (focus (first | omega | rfl | assumption | exact ⟨_, rfl, rfl⟩ | (simp only [List.length_take, List.length_map, List.length_append, List.length_cons, List.length_nil]; omega) | (simp; done)))))
        refine call_w (ihArm xs[i] (by have := List.sizeOf_lt_of_mem (List.getElem_mem hi); omega) ys[i] (by omega)) ?_
        simp -implicitDefEqProofs (disch := omega) only [go_sem, ↓reduceIte, Nat.reduceEqDiff, Nat.reduceAdd, Nat.reduceLeDiff, Nat.reduceSub, Nat.reduceMul, Nat.reduceBEq, Int.reduceEq, Int.reduceLT, Int.reduceLE, Int.reduceGT, Int.reduceGE, Int.reduceNeg, Int.reduceToNat]
        with_reducible refine split2 (fun hb => ?_) (fun hb => ?_) <;> have h := hb <;> (try simp only [decide_eq_true_eq, decide_eq_false_iff_not, Bool.not_eq_true, Bool.not_eq_false, Bool.not_eq_eq_eq_not, Bool.not_true, Bool.not_false, dec_eq_true, dec_eq_false, Classical.not_not] at h) <;> simp -implicitDefEqProofs (disch := omega) only [go_sem, hb, ↓reduceIte, Nat.reduceEqDiff, Nat.reduceAdd, Nat.reduceLeDiff, Nat.reduceSub, Nat.reduceMul, Nat.reduceBEq, Int.reduceEq, Int.reduceLT, Int.reduceLE, Int.reduceGT, Int.reduceGE, Int.reduceNeg, Int.reduceToNat] <;> (repeat ((with_reducible refine And.intro ?_ ?_); (focus (first | omega | rfl | assumption | exact ⟨_, rfl, rfl⟩ | (simp only [List.length_take, List.length_map, List.length_append, List.length_cons, List.length_nil]; omega) | (simp; done)))))
        · exact bool_eq (dec_false (fun e => h (by simp only [e]))).symm
        refine inv_at (i + 1) (by omega) rfl rfl ⟨by omega, fun j hj => ?_⟩
        by_cases e : j = i
        · subst e
          rw [List.getElem?_eq_getElem hi, List.getElem?_eq_getElem hi', h]
        · exact p2 j (by omega)
      · have hi : i = xs.length := by omega
        refine bool_eq (dec_true (List.ext_getElem? fun j => ?_)).symm
        by_cases hj : j < i
        · exact p2 j hj
        · rw [List.getElem?_eq_none (by omega), List.getElem?_eq_none (by omega)]
theorem eqExpr_ok (x : MExpr) : ∀ y : MExpr, x.sz ≤ 1048576 → PCall Tryz.prog 63 [x.v, y.v] (.c (.d (.b (dec (x = y))))) := (eqExpr_all _).1 x (Nat.lt_succ_self _)
theorem eqExprS_ok (xs : List MExpr) : ∀ ys : List MExpr, xs.length + szRows (xs.map MExpr.enc) ≤ 1048576 → PCall Tryz.prog 125 [.c (.d (.sl (xs.map MExpr.enc))), .c (.d (.sl (ys.map MExpr.enc)))] (.c (.d (.b (dec (xs = ys))))) := (eqExpr_all _).2.1 xs (Nat.lt_succ_self _)
theorem eqArm_ok (x : MArm) : ∀ y : MArm, x.sz ≤ 1048576 → PCall Tryz.prog 173 [x.v, y.v] (.c (.d (.b (dec (x = y))))) := (eqExpr_all _).2.2.1 x (Nat.lt_succ_self _)
theorem eqArmS_ok (xs : List MArm) : ∀ ys : List MArm, xs.length + szRows (xs.map MArm.enc) ≤ 1048576 → PCall Tryz.prog 126 [.c (.d (.sl (xs.map MArm.enc))), .c (.d (.sl (ys.map MArm.enc)))] (.c (.d (.b (dec (xs = ys))))) := (eqExpr_all _).2.2.2 xs (Nat.lt_succ_self _)
end Go.Proofs.YtjfhgcnoielpfaaGreat

/- THE SIZE OF AN EXPRESSION: model and contracts, the program's and the reference's. -/
namespace Go.Ab
mutual
def MExpr.cnt : MExpr → Nat
  | .mk _ _ _ _ _ a b => 1 + (MExpr.cnts a + MArm.cnts b)
def MExpr.cnts : List MExpr → Nat
  | [] => 0
  | x :: xs => x.cnt + MExpr.cnts xs
def MArm.cnt : MArm → Nat
  | .mk _ _ b => b.cnt
def MArm.cnts : List MArm → Nat
  | [] => 0
  | x :: xs => x.cnt + MArm.cnts xs
end
theorem MExpr.cnt_eq (x : MExpr) : x.cnt = 1 + (MExpr.cnts x.fArgs + MArm.cnts x.fArms) := by cases x; rw [MExpr.cnt]; rfl
theorem MArm.cnt_eq (x : MArm) : x.cnt = x.fBody.cnt := by cases x; rw [MArm.cnt]; rfl
theorem MExpr.cnts_drop {xs : List MExpr} {i : Nat} (hi : i < xs.length) : MExpr.cnts (xs.drop i) = xs[i].cnt + MExpr.cnts (xs.drop (i + 1)) := by rw [List.drop_eq_getElem_cons hi, MExpr.cnts]
theorem MArm.cnts_drop {xs : List MArm} {i : Nat} (hi : i < xs.length) : MArm.cnts (xs.drop i) = xs[i].fBody.cnt + MArm.cnts (xs.drop (i + 1)) := by rw [List.drop_eq_getElem_cons hi, MArm.cnts, MArm.cnt_eq]
theorem MExpr.sz_parts (x : MExpr) : x.fArgs.length + szRows (x.fArgs.map MExpr.enc) ≤ x.sz ∧ x.fArms.length + szRows (x.fArms.map MArm.enc) ≤ x.sz := by
  simp only [MExpr.sz, MExpr.enc_eq, szRow, szRow_append, D.sz, List.length_map]
  omega
theorem MArm.sz_body (x : MArm) : x.fBody.sz ≤ x.sz := by
  simp only [MArm.sz, MArm.enc_eq, MExpr.sz, szRow, szRow_append, D.sz, List.length_map]
  omega
mutual
theorem MExpr.cnt_le : ∀ x : MExpr, x.cnt ≤ 1 + x.sz
  | .mk k t n m ty a b => by
    have h1 := MExpr.cnts_le a
    have h2 := MArm.cnts_le b
    rw [MExpr.cnt]
    simp only [MExpr.sz, MExpr.enc_eq, szRow, szRow_append, D.sz, List.length_map, MExpr.fArgs, MExpr.fArms]
    omega
theorem MExpr.cnts_le : ∀ xs : List MExpr, MExpr.cnts xs ≤ xs.length + szRows (xs.map MExpr.enc)
  | [] => by simp [MExpr.cnts]
  | x :: xs => by
    have h1 := MExpr.cnt_le x
    have h2 := MExpr.cnts_le xs
    rw [MExpr.cnts, List.length_cons, List.map_cons, szRows, MExpr.sz_def]
    omega
theorem MArm.cnt_le : ∀ x : MArm, x.cnt ≤ 1 + x.sz
  | .mk c v b => by
    have h1 := MExpr.cnt_le b
    have h2 := MArm.sz_body (.mk c v b)
    rw [MArm.cnt]
    simp only [MArm.fBody] at h2
    omega
theorem MArm.cnts_le : ∀ xs : List MArm, MArm.cnts xs ≤ xs.length + szRows (xs.map MArm.enc)
  | [] => by simp [MArm.cnts]
  | x :: xs => by
    have h1 := MArm.cnt_le x
    have h2 := MArm.cnts_le xs
    rw [MArm.cnts, List.length_cons, List.map_cons, szRows, MArm.sz_def]
    omega
end
end Go.Ab
namespace Go.Proofs.YtjfhgcnoielpfaaGreat
open Go Go.Ab

theorem implExprSize_all : ∀ n : Nat, ∀ x : MExpr, SizeOf.sizeOf x < n → x.sz ≤ 4194304 → PCall Tryz.prog 170 [x.v] (.c (.d (.i .i64 x.cnt)))
  | 0 => fun x h => by omega
  | n + 1 => by
    have ih := implExprSize_all n
    intro x hn hsz S
    have lArgs := MExpr.lt_Args x
    have lArms := MExpr.lt_Arms x
    have hp := MExpr.sz_parts x
    have hc := MExpr.cnt_le x
    have he := MExpr.cnt_eq x
    refine acall_cw (rs := [.tmp 2]) Tryz.checked.mixed Tryz.func170 Tryz.ntmps170 rfl rfl rfl rfl rfl ?_
    simp -implicitDefEqProofs (disch := omega) only [go_sem, ↓reduceIte, Nat.reduceEqDiff, Nat.reduceAdd, Nat.reduceLeDiff, Nat.reduceSub, Nat.reduceMul, Nat.reduceBEq, Int.reduceEq, Int.reduceLT, Int.reduceLE, Int.reduceGT, Int.reduceGE, Int.reduceNeg, Int.reduceToNat]
    refine loop_at (ι := Nat × Nat) Tryz.checked.mixed rfl [1, 3, 9, 10, 11] (fun y => [.c (.ptr (0, 0) 0), .c (.d (.i .i64 y.2)), .c (.d (.sl (x.fArgs.map MExpr.enc))), .c (.d (.i .i64 x.fArgs.length)), .c (.d (.i .i64 y.1))]) (fun y => [.box (x.enc.map .d)] :: S)
      (fun y => y.1 ≤ x.fArgs.length ∧ x.cnt = y.2 + MExpr.cnts (x.fArgs.drop y.1) + MArm.cnts x.fArms) (fun y => x.fArgs.length - y.1) (0, 1) rfl ?_ ⟨Nat.zero_le _, by simp only [List.drop_zero]; omega⟩ ?_
    · simp -implicitDefEqProofs (disch := omega) only [go_sem, ↓reduceIte, Nat.reduceEqDiff, Nat.reduceAdd, Nat.reduceLeDiff, Nat.reduceSub, Nat.reduceMul, Nat.reduceBEq, Int.reduceEq, Int.reduceLT, Int.reduceLE, Int.reduceGT, Int.reduceGE, Int.reduceNeg, Int.reduceToNat]
    rintro ⟨i, c⟩ ⟨p1, p2⟩
    simp only at p1 p2
    simp -implicitDefEqProofs (disch := omega) only [go_sem, ↓reduceIte, Nat.reduceEqDiff, Nat.reduceAdd, Nat.reduceLeDiff, Nat.reduceSub, Nat.reduceMul, Nat.reduceBEq, Int.reduceEq, Int.reduceLT, Int.reduceLE, Int.reduceGT, Int.reduceGE, Int.reduceNeg, Int.reduceToNat]
    with_reducible refine split2 (fun hb => ?_) (fun hb => ?_) <;> have h := hb <;> (try simp only [decide_eq_true_eq, decide_eq_false_iff_not, Bool.not_eq_true, Bool.not_eq_false, Bool.not_eq_eq_eq_not, Bool.not_true, Bool.not_false, dec_eq_true, dec_eq_false, Classical.not_not] at h) <;> simp -implicitDefEqProofs (disch := omega) only [go_sem, hb, ↓reduceIte, Nat.reduceEqDiff, Nat.reduceAdd, Nat.reduceLeDiff, Nat.reduceSub, Nat.reduceMul, Nat.reduceBEq, Int.reduceEq, Int.reduceLT, Int.reduceLE, Int.reduceGT, Int.reduceGE, Int.reduceNeg, Int.reduceToNat] <;> (repeat ((with_reducible refine And.intro ?_ ?_); (focus (first | omega | rfl | assumption | exact ⟨_, rfl, rfl⟩ | (simp only [List.length_take, List.length_map, List.length_append, List.length_cons, List.length_nil]; omega) | (simp; done)))))
    · have hi : i < x.fArgs.length := by omega
      have hx : x.fArgs[i].sz ≤ szRows (x.fArgs.map MExpr.enc) := szRows_mem (List.mem_map_of_mem (List.getElem_mem hi))
      rw [MExpr.cnts_drop hi] at p2
      (repeat ((with_reducible refine And.intro ?_ ?_); (focus (first | omega | rfl | assumption | exact ⟨_, rfl, rfl⟩ | (simp only [List.length_take, List.length_map, List.length_append, List.length_cons, List.length_nil]; omega) | (simp; done)))))
      refine call_w (ih x.fArgs[i] (by have := List.sizeOf_lt_of_mem (List.getElem_mem hi); omega) (by omega)) ?_
      simp -implicitDefEqProofs (disch := omega) only [go_sem, ↓reduceIte, Nat.reduceEqDiff, Nat.reduceAdd, Nat.reduceLeDiff, Nat.reduceSub, Nat.reduceMul, Nat.reduceBEq, Int.reduceEq, Int.reduceLT, Int.reduceLE, Int.reduceGT, Int.reduceGE, Int.reduceNeg, Int.reduceToNat] <;> (repeat ((with_reducible refine And.intro ?_ ?_); (focus (first | omega | rfl | assumption | exact ⟨_, rfl, rfl⟩ | (simp only [List.length_take, List.length_map, List.length_append, List.length_cons, List.length_nil]; omega) | (simp; done)))))
      rw [show (c : Int) + (x.fArgs[i].cnt : Int) = ((c + x.fArgs[i].cnt : Nat) : Int) by omega]
      exact inv_drop 1 (by decide) (i + 1, c + x.fArgs[i].cnt) (by simp only; omega) rfl rfl rfl rfl ⟨by simp only; omega, by simp only; omega⟩
    have hi : i = x.fArgs.length := by omega
    rw [hi, List.drop_length, MExpr.cnts] at p2
    refine loop_at (ι := Nat × Nat) Tryz.checked.mixed rfl [3, 21, 22, 23] (fun y => [.c (.d (.i .i64 y.2)), .c (.d (.sl (x.fArms.map MArm.enc))), .c (.d (.i .i64 x.fArms.length)), .c (.d (.i .i64 y.1))]) (fun y => [.box (x.enc.map .d)] :: S)
      (fun y => y.1 ≤ x.fArms.length ∧ x.cnt = y.2 + MArm.cnts (x.fArms.drop y.1)) (fun y => x.fArms.length - y.1) (0, c) rfl ?_ ⟨Nat.zero_le _, by simp only [List.drop_zero]; omega⟩ ?_
    · simp -implicitDefEqProofs (disch := omega) only [go_sem, ↓reduceIte, Nat.reduceEqDiff, Nat.reduceAdd, Nat.reduceLeDiff, Nat.reduceSub, Nat.reduceMul, Nat.reduceBEq, Int.reduceEq, Int.reduceLT, Int.reduceLE, Int.reduceGT, Int.reduceGE, Int.reduceNeg, Int.reduceToNat]
    clear p1 p2 hb h hi i
    rintro ⟨i, d⟩ ⟨p1, p2⟩
    simp only at p1 p2
    simp -implicitDefEqProofs (disch := omega) only [go_sem, ↓reduceIte, Nat.reduceEqDiff, Nat.reduceAdd, Nat.reduceLeDiff, Nat.reduceSub, Nat.reduceMul, Nat.reduceBEq, Int.reduceEq, Int.reduceLT, Int.reduceLE, Int.reduceGT, Int.reduceGE, Int.reduceNeg, Int.reduceToNat]
    with_reducible refine split2 (fun hb => ?_) (fun hb => ?_) <;> have h := hb <;> (try simp only [decide_eq_true_eq, decide_eq_false_iff_not, Bool.not_eq_true, Bool.not_eq_false, Bool.not_eq_eq_eq_not, Bool.not_true, Bool.not_false, dec_eq_true, dec_eq_false, Classical.not_not] at h) <;> simp -implicitDefEqProofs (disch := omega) only [go_sem, hb, ↓reduceIte, Nat.reduceEqDiff, Nat.reduceAdd, Nat.reduceLeDiff, Nat.reduceSub, Nat.reduceMul, Nat.reduceBEq, Int.reduceEq, Int.reduceLT, Int.reduceLE, Int.reduceGT, Int.reduceGE, Int.reduceNeg, Int.reduceToNat] <;> (repeat ((with_reducible refine And.intro ?_ ?_); (focus (first | omega | rfl | assumption | exact ⟨_, rfl, rfl⟩ | (simp only [List.length_take, List.length_map, List.length_append, List.length_cons, List.length_nil]; omega) | (simp; done)))))
    · have hi : i < x.fArms.length := by omega
      have hx : x.fArms[i].sz ≤ szRows (x.fArms.map MArm.enc) := szRows_mem (List.mem_map_of_mem (List.getElem_mem hi))
      have hy := MArm.sz_body x.fArms[i]
      have hs := List.sizeOf_lt_of_mem (List.getElem_mem hi)
      have hs' := MArm.lt_Body x.fArms[i]
      rw [MArm.cnts_drop hi] at p2
      (repeat ((with_reducible refine And.intro ?_ ?_); (focus (first | omega | rfl | assumption | exact ⟨_, rfl, rfl⟩ | (simp only [List.length_take, List.length_map, List.length_append, List.length_cons, List.length_nil]; omega) | (simp; done)))))
      refine call_w (ih x.fArms[i].fBody (by omega) (by omega)) ?_
      simp -implicitDefEqProofs (disch := omega) only [go_sem, ↓reduceIte, Nat.reduceEqDiff, Nat.reduceAdd, Nat.reduceLeDiff, Nat.reduceSub, Nat.reduceMul, Nat.reduceBEq, Int.reduceEq, Int.reduceLT, Int.reduceLE, Int.reduceGT, Int.reduceGE, Int.reduceNeg, Int.reduceToNat] <;> (repeat ((with_reducible refine And.intro ?_ ?_); (focus (first | omega | rfl | assumption | exact ⟨_, rfl, rfl⟩ | (simp only [List.length_take, List.length_map, List.length_append, List.length_cons, List.length_nil]; omega) | (simp; done)))))
      rw [show (d : Int) + (x.fArms[i].fBody.cnt : Int) = ((d + x.fArms[i].fBody.cnt : Nat) : Int) by omega]
      exact inv_drop 1 (by decide) (i + 1, d + x.fArms[i].fBody.cnt) (by simp only; omega) rfl rfl rfl rfl ⟨by simp only; omega, by simp only; omega⟩
    · have hi : i = x.fArms.length := by omega
      rw [hi, List.drop_length, MArm.cnts] at p2
      exact int_eq (by omega)
theorem implExprSize_ok (x : MExpr) (hsz : x.sz ≤ 4194304) : PCall Tryz.prog 170 [x.v] (.c (.d (.i .i64 x.cnt))) := implExprSize_all _ x (Nat.lt_succ_self _) hsz
end Go.Proofs.YtjfhgcnoielpfaaGreat

/- MODELS: substitution lookup, matching (one Lean function for the program's and the reference's). No program in sight. -/
namespace Go.Ab

/-- The type that the first binding of v gives. -/
def lookupB : List MBinding → List UInt8 → Option MType
  | [], _ => none
  | b :: bs, v => if b.fVar = v then some b.fType else lookupB bs v

mutual
/-- The substitution that the pattern's match adds to s. -/
noncomputable def matchT (s : List MBinding) : MType → MType → Option (List MBinding)
  | .mk k n a, t =>
    if k = 1 then
      match lookupB s n with
      | some u => if dec (u = t) = true then some s else none
      | none => some (s ++ [⟨n, t⟩])
    else if k = t.fKind ∧ n = t.fName ∧ a.length = t.fArgs.length then matchL s a t.fArgs else none
noncomputable def matchL (s : List MBinding) : List MType → List MType → Option (List MBinding)
  | [], _ => some s
  | _ :: _, [] => none
  | p :: ps, t :: ts =>
    match matchT s p t with
    | some s' => matchL s' ps ts
    | none => none
end

theorem matchT_eq (s : List MBinding) (p t : MType) : matchT s p t = if p.fKind = 1 then
      match lookupB s p.fName with
      | some u => if dec (u = t) = true then some s else none
      | none => some (s ++ [⟨p.fName, t⟩])
    else if p.fKind = t.fKind ∧ p.fName = t.fName ∧ p.fArgs.length = t.fArgs.length then matchL s p.fArgs t.fArgs else none := by
  cases p; rw [matchT]; rfl

/-- Matching lists of the same length. -/
noncomputable def matchAll (s : List MBinding) (ps ts : List MType) : Option (List MBinding) := if ps.length = ts.length then matchL s ps ts else none

/-! How many types a type holds, itself counted. -/
mutual
def MType.cnt : MType → Nat
  | .mk _ _ a => 1 + MType.cnts a
def MType.cnts : List MType → Nat
  | [] => 0
  | t :: ts => t.cnt + MType.cnts ts
end
theorem MType.cnt_eq (t : MType) : t.cnt = 1 + MType.cnts t.fArgs := by cases t; rw [MType.cnt]; rfl

mutual
theorem cnt_le : ∀ t : MType, t.cnt ≤ 1 + t.sz
  | .mk k n a => by
    have h := cnts_le a
    rw [MType.cnt]
    have e : (MType.mk k n a).sz = n.length + (a.length + szRows (a.map MType.enc)) := by
      simp only [MType.sz, MType.enc_eq, szRow, D.sz, List.length_map, MType.fName, MType.fArgs, Nat.add_zero, Nat.zero_add]
    omega
theorem cnts_le : ∀ ts : List MType, MType.cnts ts ≤ ts.length + szRows (ts.map MType.enc)
  | [] => by simp [MType.cnts]
  | t :: ts => by
    have h1 := cnt_le t
    have h2 := cnts_le ts
    rw [MType.cnts, List.length_cons, List.map_cons, szRows, MType.sz_def]
    omega
end

mutual
theorem matchT_len : ∀ (p : MType) (s : List MBinding) (t : MType) (s' : List MBinding), matchT s p t = some s' → s'.length ≤ s.length + p.cnt
  | .mk k n a, s, t, s', h => by
    rw [matchT] at h
    rw [MType.cnt]
    split at h
    · split at h
      · split at h
        · cases h; omega
        · cases h
      · cases h; simp
    · split at h
      · have := matchL_len a s t.fArgs s' h; omega
      · cases h
theorem matchL_len : ∀ (ps : List MType) (s : List MBinding) (ts : List MType) (s' : List MBinding), matchL s ps ts = some s' → s'.length ≤ s.length + MType.cnts ps
  | [], s, ts, s', h => by rw [matchL] at h; cases h; omega
  | p :: ps, s, [], s', h => by rw [matchL] at h; cases h
  | p :: ps, s, t :: ts, s', h => by
    rw [matchL] at h
    rw [MType.cnts]
    cases hm : matchT s p t with
    | none => rw [hm] at h; cases h
    | some s1 =>
      rw [hm] at h
      have h1 := matchT_len p s t s1 hm
      have h2 := matchL_len ps s1 ts s' h
      omega
end

theorem lookup_mem {v : List UInt8} {u : MType} : ∀ {bs : List MBinding}, lookupB bs v = some u → ∃ b ∈ bs, b.fType = u
  | [], h => by cases h
  | b :: bs, h => by
    rw [lookupB] at h
    split at h
    · cases h; exact ⟨b, by simp, rfl⟩
    · obtain ⟨b', h1, h2⟩ := lookup_mem h
      exact ⟨b', by simp [h1], h2⟩

/-- All that is bound is small. -/
def Small (s : List MBinding) : Prop := ∀ b ∈ s, b.fType.sz ≤ 4194304

theorem small_nil : Small [] := fun b h => by simp at h

mutual
theorem matchT_small : ∀ (p : MType) (s : List MBinding) (t : MType) (s' : List MBinding), t.sz ≤ 4194304 → Small s → matchT s p t = some s' → Small s'
  | .mk k n a, s, t, s', ht, hs, h => by
    rw [matchT] at h
    split at h
    · split at h
      · split at h
        · cases h; exact hs
        · cases h
      · cases h
        intro b hb
        rcases List.mem_append.1 hb with hb | hb
        · exact hs b hb
        · simp at hb; subst hb; exact ht
    · split at h
      · refine matchL_small a s t.fArgs s' ?_ hs h
        intro x hx
        have h1 := szRows_mem (List.mem_map_of_mem (f := MType.enc) hx)
        have h2 : t.sz = t.fName.length + (t.fArgs.length + szRows (t.fArgs.map MType.enc)) := by
          simp only [MType.sz, MType.enc_eq, szRow, szRow_append, D.sz, List.length_map, Nat.add_zero, Nat.zero_add]
        rw [MType.sz_def] at h1
        omega
      · cases h
theorem matchL_small : ∀ (ps : List MType) (s : List MBinding) (ts : List MType) (s' : List MBinding), (∀ t ∈ ts, t.sz ≤ 4194304) → Small s → matchL s ps ts = some s' → Small s'
  | [], s, ts, s', ht, hs, h => by rw [matchL] at h; cases h; exact hs
  | p :: ps, s, [], s', ht, hs, h => by rw [matchL] at h; cases h
  | p :: ps, s, t :: ts, s', ht, hs, h => by
    rw [matchL] at h
    cases hm : matchT s p t with
    | none => rw [hm] at h; cases h
    | some s1 =>
      rw [hm] at h
      exact matchL_small ps s1 ts s' (fun x hx => ht x (by simp [hx])) (matchT_small p s t s1 (ht t (by simp)) hs hm) h
end

theorem matchL_drop {cur : List MBinding} {ps ts : List MType} {i : Nat} (hi : i < ps.length) (hi' : i < ts.length) (r : Option (List MBinding)) (h : matchL cur (ps.drop i) (ts.drop i) = r) :
    (match matchT cur ps[i] ts[i] with | some n => matchL n (ps.drop (i + 1)) (ts.drop (i + 1)) | none => none) = r := by
  rw [List.drop_eq_getElem_cons hi, List.drop_eq_getElem_cons hi', matchL] at h
  exact h
/-- The pattern p matches t. -/
noncomputable def mats (p t : MType) : Bool := (matchAll [] [p] [t]).isSome
end Go.Ab

/- MODELS: valid names, formed types, depth. No program in sight. -/
namespace Go.Ab

def lowerB (b : UInt8) : Prop := 97 ≤ b.toNat ∧ b.toNat ≤ 122
def digitB (b : UInt8) : Prop := 48 ≤ b.toNat ∧ b.toNat ≤ 57
/-- Letters, and digits behind the first place. -/
def nameOk (s : List UInt8) : Prop := ∀ i, i < s.length → lowerB (s.getD i 0) ∨ (i ≠ 0 ∧ digitB (s.getD i 0))
def reserved : List (List UInt8) := [[105, 110, 116], [98, 111, 111, 108], [97, 115, 115, 111, 99], [100, 121, 110], [105, 102], [108, 101, 116], [99, 97, 115, 101], [110, 101, 119], [109, 101, 116, 104, 111, 100], [112, 97, 99, 107], [116, 114, 117, 101], [102, 97, 108, 115, 101]]
noncomputable def validName (s : List UInt8) : Bool := dec ((1 ≤ s.length ∧ s.length ≤ 8) ∧ s ∉ reserved ∧ nameOk s)
noncomputable def builtInB (s : List UInt8) : Bool := dec (s = [105, 110, 116] ∨ s = [98, 111, 111, 108])

/-- The first place of s, or -1. -/
noncomputable def indexS (xs : List (List UInt8)) (s : List UInt8) : Int := if s ∈ xs then ((xs.findIdx fun x => dec (x = s) : Nat) : Int) else -1

theorem indexS_here {xs : List (List UInt8)} {s : List UInt8} {i : Nat} (hi : i < xs.length) (hj : ∀ j, j < i → xs.getD j [] ≠ s) (h : xs.getD i [] = s) : indexS xs s = i := by
  have e : ∀ j, ∀ hj : j < xs.length, xs.getD j [] = xs[j] := fun j hj => by simp [List.getD, hj]
  have hm : s ∈ xs := by rw [← h, e i hi]; exact List.getElem_mem hi
  unfold indexS
  rw [if_pos hm]
  congr 1
  rw [List.findIdx_eq hi]
  exact ⟨dec_true (by rw [← e i hi]; exact h), fun j hji => dec_false (by rw [← e j (by omega)]; exact hj j hji)⟩
theorem indexS_no {xs : List (List UInt8)} {s : List UInt8} (hj : ∀ j, j < xs.length → xs.getD j [] ≠ s) : indexS xs s = -1 := by
  unfold indexS
  refine if_neg fun hm => ?_
  obtain ⟨j, h1, h2⟩ := List.getElem_of_mem hm
  exact hj j h1 (by simp [List.getD, h1, h2])
theorem indexS_pos {xs : List (List UInt8)} {s : List UInt8} : decide (indexS xs s ≥ 0) = dec (s ∈ xs) := by
  rw [decide_dec]
  refine dec_congr ?_
  unfold indexS
  split
  · rename_i h; exact ⟨fun _ => h, fun _ => by omega⟩
  · rename_i h; exact ⟨fun x => by omega, fun x => absurd x h⟩

/-- The first place where p holds, or -1. -/
def indexP {α : Type} (p : α → Bool) (xs : List α) : Int := if xs.any p then ((xs.findIdx p : Nat) : Int) else -1
theorem indexP_here {α : Type} {p : α → Bool} {xs : List α} {i : Nat} (hi : i < xs.length) (hj : ∀ j, ∀ hj : j < xs.length, j < i → p xs[j] = false) (h : p xs[i] = true) : indexP p xs = i := by
  unfold indexP
  rw [if_pos (List.any_eq_true.2 ⟨xs[i], List.getElem_mem hi, h⟩)]
  congr 1
  rw [List.findIdx_eq hi]
  exact ⟨h, fun j hji => hj j (by omega) hji⟩
theorem indexP_no {α : Type} {p : α → Bool} {xs : List α} (hj : ∀ j, ∀ hj : j < xs.length, p xs[j] = false) : indexP p xs = -1 := by
  unfold indexP
  refine if_neg fun h => ?_
  obtain ⟨x, hx, hp⟩ := List.any_eq_true.1 h
  obtain ⟨j, h1, h2⟩ := List.getElem_of_mem hx
  rw [← h2, hj j h1] at hp
  cases hp
theorem indexP_pos {α : Type} {p : α → Bool} {xs : List α} : decide (indexP p xs ≥ 0) = xs.any p := by
  unfold indexP
  cases h : xs.any p with
  | true => simp
  | false => simp

/-! ### types -/

noncomputable def fineT (k : Int) (n : List UInt8) (len : Nat) : Bool :=
  dec ((k = 1 ∨ k = 4) ∧ validName n = true ∧ len = 0 ∨ k = 3 ∧ validName n = true ∧ len = 1 ∨ k = 2 ∧ (validName n = true ∧ len ≤ 3 ∨ builtInB n = true ∧ len = 0))

mutual
noncomputable def formed : MType → Bool
  | .mk k n a => fineT k n a.length && formeds a
noncomputable def formeds : List MType → Bool
  | [] => true
  | t :: ts => formed t && formeds ts
end
theorem formed_eq (t : MType) : formed t = (fineT t.fKind t.fName t.fArgs.length && formeds t.fArgs) := by cases t; rw [formed]; rfl
theorem formeds_iff : ∀ {ts : List MType}, formeds ts = true ↔ ∀ t ∈ ts, formed t = true
  | [] => by simp [formeds]
  | t :: ts => by simp [formeds, formeds_iff (ts := ts)]

theorem formeds_any : ∀ {ts : List MType}, (ts.any fun t => !formed t) = !formeds ts
  | [] => rfl
  | t :: ts => by rw [List.any_cons, formeds_any (ts := ts), formeds]; simp

mutual
def depthT : MType → Nat
  | .mk _ _ a => depths a
def depths : List MType → Nat
  | [] => 0
  | t :: ts => max (depthT t + 1) (depths ts)
end
theorem depthT_eq (t : MType) : depthT t = depths t.fArgs := by cases t; rw [depthT]; rfl
mutual
theorem depthT_le : ∀ t : MType, depthT t + 1 ≤ t.cnt
  | .mk k n a => by
    have := depths_le a
    rw [depthT, MType.cnt]; omega
theorem depths_le : ∀ ts : List MType, depths ts ≤ MType.cnts ts
  | [] => by simp [depths]
  | t :: ts => by
    have h1 := depthT_le t
    have h2 := depths_le ts
    rw [depths, MType.cnts]

    omega
end
theorem cnt_pos (t : MType) : 1 ≤ t.cnt := by rw [MType.cnt_eq]; omega
noncomputable def validType (t : MType) : Bool := dec (formed t = true ∧ depthT t ≤ 6 ∧ t.cnt ≤ 60)
end Go.Ab

/- MODELS: all types in a type, in pre-order; its variables; has it a projection? No program in sight. -/
namespace Go.Ab

mutual
def nodesT : MType → List MType
  | .mk k n a => .mk k n a :: nodesL a
def nodesL : List MType → List MType
  | [] => []
  | t :: ts => nodesT t ++ nodesL ts
end
theorem nodesT_eq (t : MType) : nodesT t = t :: nodesL t.fArgs := by cases t; rw [nodesT]; rfl
theorem nodesL_drop {ts : List MType} {i : Nat} (hi : i < ts.length) : nodesL (ts.drop i) = nodesT ts[i] ++ nodesL (ts.drop (i + 1)) := by rw [List.drop_eq_getElem_cons hi, nodesL]

mutual
theorem nodes_len : ∀ t : MType, (nodesT t).length = t.cnt
  | .mk k n a => by rw [nodesT, List.length_cons, MType.cnt, nodesL_len a]; omega
theorem nodesL_len : ∀ ts : List MType, (nodesL ts).length = MType.cnts ts
  | [] => rfl
  | t :: ts => by rw [nodesL, List.length_append, MType.cnts, nodes_len t, nodesL_len ts]
end

/-- One more variable. -/
def addV (out : List (List UInt8)) (u : MType) : List (List UInt8) := if u.fKind = 1 ∧ u.fName ∉ out then out ++ [u.fName] else out
def tvars (out : List (List UInt8)) (t : MType) : List (List UInt8) := (nodesT t).foldl addV out
def tvarsL (out : List (List UInt8)) (ts : List MType) : List (List UInt8) := (nodesL ts).foldl addV out

theorem addV_len (out : List (List UInt8)) (u : MType) : (addV out u).length ≤ out.length + 1 := by
  unfold addV
  split <;> simp
theorem foldV_len : ∀ (us : List MType) (out : List (List UInt8)), (us.foldl addV out).length ≤ out.length + us.length
  | [], out => by simp
  | u :: us, out => by
    have h1 := addV_len out u
    have h2 := foldV_len us (addV out u)
    rw [List.foldl_cons, List.length_cons]
    omega
theorem tvars_len (t : MType) (out : List (List UInt8)) : (tvars out t).length ≤ out.length + t.cnt := by
  have := foldV_len (nodesT t) out
  rw [nodes_len] at this
  exact this
theorem tvars_eq (out : List (List UInt8)) (t : MType) : tvars out t = tvarsL (addV out t) t.fArgs := by
  unfold tvars tvarsL
  rw [nodesT_eq, List.foldl_cons]
theorem tvarsL_drop {ts : List MType} {i : Nat} (hi : i < ts.length) (out : List (List UInt8)) : tvarsL out (ts.drop i) = tvarsL (tvars out ts[i]) (ts.drop (i + 1)) := by
  unfold tvarsL tvars
  rw [nodesL_drop hi, List.foldl_append]

/-- Has it a projection? -/
def hasProj (t : MType) : Bool := (nodesT t).any fun u => decide (u.fKind = 3)
def hasProjL (ts : List MType) : Bool := (nodesL ts).any fun u => decide (u.fKind = 3)
theorem hasProj_eq (t : MType) : hasProj t = (decide (t.fKind = 3) || hasProjL t.fArgs) := by
  unfold hasProj hasProjL
  rw [nodesT_eq, List.any_cons]
theorem hasProjL_drop {ts : List MType} {i : Nat} (hi : i < ts.length) : hasProjL (ts.drop i) = (hasProj ts[i] || hasProjL (ts.drop (i + 1))) := by
  unfold hasProjL hasProj
  rw [nodesL_drop hi, List.any_append]
theorem hasProj_fold (us : List MType) : ∀ b : Bool, us.foldl (fun b u => b || decide (u.fKind = 3)) b = (b || us.any fun u => decide (u.fKind = 3)) := by
  induction us with
  | nil => intro b; simp
  | cons u us ih => intro b; rw [List.foldl_cons, ih, List.any_cons, Bool.or_assoc]

/-! how often a variable stands in a type -/
def isV (v : List UInt8) (u : MType) : Bool := decide (u.fKind = 1 ∧ u.fName = v)
def countV (v : List UInt8) (t : MType) : Nat := (nodesT t).countP (isV v)
def countVL (v : List UInt8) (ts : List MType) : Nat := (nodesL ts).countP (isV v)
theorem countV_eq (v : List UInt8) (t : MType) : countV v t = (if isV v t then 1 else 0) + countVL v t.fArgs := by
  unfold countV countVL
  rw [nodesT_eq, List.countP_cons]
  omega
theorem countVL_drop {v : List UInt8} {ts : List MType} {i : Nat} (hi : i < ts.length) : countVL v (ts.drop i) = countV v ts[i] + countVL v (ts.drop (i + 1)) := by
  unfold countVL countV
  rw [nodesL_drop hi, List.countP_append]
theorem countV_fold (v : List UInt8) : ∀ (us : List MType) (c : Nat), us.foldl (fun c u => if isV v u then c + 1 else c) c = c + us.countP (isV v)
  | [], c => by simp
  | u :: us, c => by
    rw [List.foldl_cons, countV_fold v us, List.countP_cons]
    split <;> omega
theorem countV_le (v : List UInt8) (t : MType) : countV v t ≤ t.cnt := by
  unfold countV
  rw [← nodes_len]
  exact List.countP_le_length
def occurs (v : List UInt8) (t : MType) : Bool := decide (0 < countV v t)
def selfN : List UInt8 := [115, 101, 108, 102]
def mentions (g : MSignature) : Bool := occurs selfN g.fResult || g.fParams.any (occurs selfN)
def dynSafe (t : MTrait) : Bool := !t.fAssoc && !t.fSignatures.any mentions
end Go.Ab

