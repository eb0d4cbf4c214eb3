/-
  FACTS ON THE TYPES OF THIS SEAT: how many cells and bytes each takes, and its zero value. Printed by program; Lean checks each.
-/
import Derived.Test.YtjfhgcnoielpfaaAbW
import Derived.Test.YtjfhgcnoielpfaaChecked
import Derived.Eval
import Derived.KernelRfl
set_option linter.unusedSimpArgs false
namespace Go.Proofs.Ytjfhgcnoielpfaa.Fa
open Go Go.Ab
theorem cells1 : Try.prog.cellsOf 1 = 1 := by kernel_rfl
theorem bytes1 : Try.prog.bytesOf 1 = 8 := by kernel_rfl
theorem info1 : (Try.prog.info? 1).isSome = true := by kernel_rfl
theorem zero1 : zeroCs Try.prog 1 = some [.d (.o .nilFunc)] := by kernel_rfl
theorem cells2 : Try.prog.cellsOf 2 = 1 := by kernel_rfl
theorem bytes2 : Try.prog.bytesOf 2 = 8 := by kernel_rfl
theorem info2 : (Try.prog.info? 2).isSome = true := by kernel_rfl
theorem zero2 : zeroCs Try.prog 2 = some [.d (.i .i64 0)] := by kernel_rfl
theorem cells3 : Try.prog.cellsOf 3 = 1 := by kernel_rfl
theorem bytes3 : Try.prog.bytesOf 3 = 8 := by kernel_rfl
theorem info3 : (Try.prog.info? 3).isSome = true := by kernel_rfl
theorem zero3 : zeroCs Try.prog 3 = some [.d (.i .i64 0)] := by kernel_rfl
theorem cells4 : Try.prog.cellsOf 4 = 1 := by kernel_rfl
theorem bytes4 : Try.prog.bytesOf 4 = 1 := by kernel_rfl
theorem info4 : (Try.prog.info? 4).isSome = true := by kernel_rfl
theorem zero4 : zeroCs Try.prog 4 = some [.d (.b false)] := by kernel_rfl
theorem zval4 : zeroV Try.prog 4 = some (.bool false) := by kernel_rfl
theorem cells5 : Try.prog.cellsOf 5 = 1 := by kernel_rfl
theorem bytes5 : Try.prog.bytesOf 5 = 1 := by kernel_rfl
theorem info5 : (Try.prog.info? 5).isSome = true := by kernel_rfl
theorem zero5 : zeroCs Try.prog 5 = some [.d (.i .u8 0)] := by kernel_rfl
theorem cells9 : Try.prog.cellsOf 9 = 1 := by kernel_rfl
theorem bytes9 : Try.prog.bytesOf 9 = 16 := by kernel_rfl
theorem info9 : (Try.prog.info? 9).isSome = true := by kernel_rfl
theorem zero9 : zeroCs Try.prog 9 = some [.d (.s [])] := by kernel_rfl
theorem cells12 : Try.prog.cellsOf 12 = 1 := by kernel_rfl
theorem bytes12 : Try.prog.bytesOf 12 = 8 := by kernel_rfl
theorem info12 : (Try.prog.info? 12).isSome = true := by kernel_rfl
theorem zero12 : zeroCs Try.prog 12 = some [.d (.i .u64 0)] := by kernel_rfl
theorem cells20 : Try.prog.cellsOf 20 = 1 := by kernel_rfl
theorem bytes20 : Try.prog.bytesOf 20 = 16 := by kernel_rfl
theorem info20 : (Try.prog.info? 20).isSome = true := by kernel_rfl
theorem zero20 : zeroCs Try.prog 20 = some [.d (.o .nilIface)] := by kernel_rfl
theorem cells21 : Try.prog.cellsOf 21 = 1 := by kernel_rfl
theorem bytes21 : Try.prog.bytesOf 21 = 4 := by kernel_rfl
theorem info21 : (Try.prog.info? 21).isSome = true := by kernel_rfl
theorem zero21 : zeroCs Try.prog 21 = some [.d (.i .i32 0)] := by kernel_rfl
theorem cells22 : Try.prog.cellsOf 22 = 1 := by kernel_rfl
theorem bytes22 : Try.prog.bytesOf 22 = 24 := by kernel_rfl
theorem info22 : (Try.prog.info? 22).isSome = true := by kernel_rfl
theorem zero22 : zeroCs Try.prog 22 = some [.fsl []] := by kernel_rfl
theorem cells23 : Try.prog.cellsOf 23 = 3 := by kernel_rfl
theorem bytes23 : Try.prog.bytesOf 23 = 48 := by kernel_rfl
theorem info23 : (Try.prog.info? 23).isSome = true := by kernel_rfl
theorem zero23 : zeroCs Try.prog 23 = some [.d (.i .i64 0), .d (.s []), .fsl []] := by kernel_rfl
theorem cells24 : Try.prog.cellsOf 24 = 3 := by kernel_rfl
theorem bytes24 : Try.prog.bytesOf 24 = 48 := by kernel_rfl
theorem info24 : (Try.prog.info? 24).isSome = true := by kernel_rfl
theorem zero24 : zeroCs Try.prog 24 = some [.d (.i .i64 0), .d (.s []), .fsl []] := by kernel_rfl
theorem cells25 : Try.prog.cellsOf 25 = 1 := by kernel_rfl
theorem bytes25 : Try.prog.bytesOf 25 = 24 := by kernel_rfl
theorem info25 : (Try.prog.info? 25).isSome = true := by kernel_rfl
theorem zero25 : zeroCs Try.prog 25 = some [.fsl []] := by kernel_rfl
theorem cells26 : Try.prog.cellsOf 26 = 1 := by kernel_rfl
theorem bytes26 : Try.prog.bytesOf 26 = 24 := by kernel_rfl
theorem info26 : (Try.prog.info? 26).isSome = true := by kernel_rfl
theorem zero26 : zeroCs Try.prog 26 = some [.fsl []] := by kernel_rfl
theorem cells27 : Try.prog.cellsOf 27 = 9 := by kernel_rfl
theorem bytes27 : Try.prog.bytesOf 27 = 144 := by kernel_rfl
theorem info27 : (Try.prog.info? 27).isSome = true := by kernel_rfl
theorem zero27 : zeroCs Try.prog 27 = some [.d (.i .i64 0), .d (.s []), .d (.s []), .d (.i .i64 0), .d (.i .i64 0), .d (.s []), .fsl [], .fsl [], .fsl []] := by kernel_rfl
theorem cells28 : Try.prog.cellsOf 28 = 9 := by kernel_rfl
theorem bytes28 : Try.prog.bytesOf 28 = 144 := by kernel_rfl
theorem info28 : (Try.prog.info? 28).isSome = true := by kernel_rfl
theorem zero28 : zeroCs Try.prog 28 = some [.d (.i .i64 0), .d (.s []), .d (.s []), .d (.i .i64 0), .d (.i .i64 0), .d (.s []), .fsl [], .fsl [], .fsl []] := by kernel_rfl
theorem cells29 : Try.prog.cellsOf 29 = 1 := by kernel_rfl
theorem bytes29 : Try.prog.bytesOf 29 = 8 := by kernel_rfl
theorem info29 : (Try.prog.info? 29).isSome = true := by kernel_rfl
theorem zero29 : zeroCs Try.prog 29 = some [.d (.o .nilFunc)] := by kernel_rfl
theorem cells30 : Try.prog.cellsOf 30 = 1 := by kernel_rfl
theorem bytes30 : Try.prog.bytesOf 30 = 8 := by kernel_rfl
theorem info30 : (Try.prog.info? 30).isSome = true := by kernel_rfl
theorem zero30 : zeroCs Try.prog 30 = some [.d (.o .nilFunc)] := by kernel_rfl
theorem cells31 : Try.prog.cellsOf 31 = 1 := by kernel_rfl
theorem bytes31 : Try.prog.bytesOf 31 = 24 := by kernel_rfl
theorem info31 : (Try.prog.info? 31).isSome = true := by kernel_rfl
theorem zero31 : zeroCs Try.prog 31 = some [.fsl []] := by kernel_rfl
theorem cells32 : Try.prog.cellsOf 32 = 3 := by kernel_rfl
theorem bytes32 : Try.prog.bytesOf 32 = 48 := by kernel_rfl
theorem info32 : (Try.prog.info? 32).isSome = true := by kernel_rfl
theorem zero32 : zeroCs Try.prog 32 = some [.d (.i .i64 0), .d (.s []), .fsl []] := by kernel_rfl
theorem cells33 : Try.prog.cellsOf 33 = 3 := by kernel_rfl
theorem bytes33 : Try.prog.bytesOf 33 = 48 := by kernel_rfl
theorem info33 : (Try.prog.info? 33).isSome = true := by kernel_rfl
theorem zero33 : zeroCs Try.prog 33 = some [.d (.i .i64 0), .d (.s []), .fsl []] := by kernel_rfl
theorem cells34 : Try.prog.cellsOf 34 = 1 := by kernel_rfl
theorem bytes34 : Try.prog.bytesOf 34 = 24 := by kernel_rfl
theorem info34 : (Try.prog.info? 34).isSome = true := by kernel_rfl
theorem zero34 : zeroCs Try.prog 34 = some [.fsl []] := by kernel_rfl
theorem cells35 : Try.prog.cellsOf 35 = 1 := by kernel_rfl
theorem bytes35 : Try.prog.bytesOf 35 = 24 := by kernel_rfl
theorem info35 : (Try.prog.info? 35).isSome = true := by kernel_rfl
theorem zero35 : zeroCs Try.prog 35 = some [.fsl []] := by kernel_rfl
theorem cells36 : Try.prog.cellsOf 36 = 9 := by kernel_rfl
theorem bytes36 : Try.prog.bytesOf 36 = 144 := by kernel_rfl
theorem info36 : (Try.prog.info? 36).isSome = true := by kernel_rfl
theorem zero36 : zeroCs Try.prog 36 = some [.d (.i .i64 0), .d (.s []), .d (.s []), .d (.i .i64 0), .d (.i .i64 0), .d (.s []), .fsl [], .fsl [], .fsl []] := by kernel_rfl
theorem cells37 : Try.prog.cellsOf 37 = 9 := by kernel_rfl
theorem bytes37 : Try.prog.bytesOf 37 = 144 := by kernel_rfl
theorem info37 : (Try.prog.info? 37).isSome = true := by kernel_rfl
theorem zero37 : zeroCs Try.prog 37 = some [.d (.i .i64 0), .d (.s []), .d (.s []), .d (.i .i64 0), .d (.i .i64 0), .d (.s []), .fsl [], .fsl [], .fsl []] := by kernel_rfl
theorem cells38 : Try.prog.cellsOf 38 = 1 := by kernel_rfl
theorem bytes38 : Try.prog.bytesOf 38 = 8 := by kernel_rfl
theorem info38 : (Try.prog.info? 38).isSome = true := by kernel_rfl
theorem zero38 : zeroCs Try.prog 38 = some [.d (.o .nilFunc)] := by kernel_rfl
theorem cells39 : Try.prog.cellsOf 39 = 1 := by kernel_rfl
theorem bytes39 : Try.prog.bytesOf 39 = 8 := by kernel_rfl
theorem info39 : (Try.prog.info? 39).isSome = true := by kernel_rfl
theorem zero39 : zeroCs Try.prog 39 = some [.d (.o .nilFunc)] := by kernel_rfl
theorem cells40 : Try.prog.cellsOf 40 = 1 := by kernel_rfl
theorem bytes40 : Try.prog.bytesOf 40 = 24 := by kernel_rfl
theorem info40 : (Try.prog.info? 40).isSome = true := by kernel_rfl
theorem zero40 : zeroCs Try.prog 40 = some [.fsl []] := by kernel_rfl
theorem cells41 : Try.prog.cellsOf 41 = 1 := by kernel_rfl
theorem bytes41 : Try.prog.bytesOf 41 = 24 := by kernel_rfl
theorem info41 : (Try.prog.info? 41).isSome = true := by kernel_rfl
theorem zero41 : zeroCs Try.prog 41 = some [.fsl []] := by kernel_rfl
theorem cells42 : Try.prog.cellsOf 42 = 3 := by kernel_rfl
theorem bytes42 : Try.prog.bytesOf 42 = 64 := by kernel_rfl
theorem info42 : (Try.prog.info? 42).isSome = true := by kernel_rfl
theorem zero42 : zeroCs Try.prog 42 = some [.d (.s []), .fsl [], .fsl []] := by kernel_rfl
theorem cells43 : Try.prog.cellsOf 43 = 3 := by kernel_rfl
theorem bytes43 : Try.prog.bytesOf 43 = 64 := by kernel_rfl
theorem info43 : (Try.prog.info? 43).isSome = true := by kernel_rfl
theorem zero43 : zeroCs Try.prog 43 = some [.d (.s []), .fsl [], .fsl []] := by kernel_rfl
theorem cells44 : Try.prog.cellsOf 44 = 1 := by kernel_rfl
theorem bytes44 : Try.prog.bytesOf 44 = 8 := by kernel_rfl
theorem info44 : (Try.prog.info? 44).isSome = true := by kernel_rfl
theorem zero44 : zeroCs Try.prog 44 = some [.d (.o .nilFunc)] := by kernel_rfl
theorem cells45 : Try.prog.cellsOf 45 = 1 := by kernel_rfl
theorem bytes45 : Try.prog.bytesOf 45 = 8 := by kernel_rfl
theorem info45 : (Try.prog.info? 45).isSome = true := by kernel_rfl
theorem zero45 : zeroCs Try.prog 45 = some [.d (.o .nilFunc)] := by kernel_rfl
theorem cells46 : Try.prog.cellsOf 46 = 1 := by kernel_rfl
theorem bytes46 : Try.prog.bytesOf 46 = 24 := by kernel_rfl
theorem info46 : (Try.prog.info? 46).isSome = true := by kernel_rfl
theorem zero46 : zeroCs Try.prog 46 = some [.fsl []] := by kernel_rfl
theorem cells47 : Try.prog.cellsOf 47 = 3 := by kernel_rfl
theorem bytes47 : Try.prog.bytesOf 47 = 64 := by kernel_rfl
theorem info47 : (Try.prog.info? 47).isSome = true := by kernel_rfl
theorem zero47 : zeroCs Try.prog 47 = some [.d (.s []), .fsl [], .fsl []] := by kernel_rfl
theorem cells48 : Try.prog.cellsOf 48 = 3 := by kernel_rfl
theorem bytes48 : Try.prog.bytesOf 48 = 64 := by kernel_rfl
theorem info48 : (Try.prog.info? 48).isSome = true := by kernel_rfl
theorem zero48 : zeroCs Try.prog 48 = some [.d (.s []), .fsl [], .fsl []] := by kernel_rfl
theorem cells49 : Try.prog.cellsOf 49 = 1 := by kernel_rfl
theorem bytes49 : Try.prog.bytesOf 49 = 8 := by kernel_rfl
theorem info49 : (Try.prog.info? 49).isSome = true := by kernel_rfl
theorem zero49 : zeroCs Try.prog 49 = some [.d (.o .nilFunc)] := by kernel_rfl
theorem cells50 : Try.prog.cellsOf 50 = 1 := by kernel_rfl
theorem bytes50 : Try.prog.bytesOf 50 = 8 := by kernel_rfl
theorem info50 : (Try.prog.info? 50).isSome = true := by kernel_rfl
theorem zero50 : zeroCs Try.prog 50 = some [.d (.o .nilFunc)] := by kernel_rfl
theorem cells51 : Try.prog.cellsOf 51 = 1 := by kernel_rfl
theorem bytes51 : Try.prog.bytesOf 51 = 8 := by kernel_rfl
theorem info51 : (Try.prog.info? 51).isSome = true := by kernel_rfl
theorem zero51 : zeroCs Try.prog 51 = some [.d (.o .nilFunc)] := by kernel_rfl
theorem cells52 : Try.prog.cellsOf 52 = 1 := by kernel_rfl
theorem bytes52 : Try.prog.bytesOf 52 = 24 := by kernel_rfl
theorem info52 : (Try.prog.info? 52).isSome = true := by kernel_rfl
theorem zero52 : zeroCs Try.prog 52 = some [.fsl []] := by kernel_rfl
theorem cells53 : Try.prog.cellsOf 53 = 5 := by kernel_rfl
theorem bytes53 : Try.prog.bytesOf 53 = 72 := by kernel_rfl
theorem info53 : (Try.prog.info? 53).isSome = true := by kernel_rfl
theorem zero53 : zeroCs Try.prog 53 = some [.d (.s []), .fsl [], .d (.b false), .d (.b false), .fsl []] := by kernel_rfl
theorem cells54 : Try.prog.cellsOf 54 = 5 := by kernel_rfl
theorem bytes54 : Try.prog.bytesOf 54 = 72 := by kernel_rfl
theorem info54 : (Try.prog.info? 54).isSome = true := by kernel_rfl
theorem zero54 : zeroCs Try.prog 54 = some [.d (.s []), .fsl [], .d (.b false), .d (.b false), .fsl []] := by kernel_rfl
theorem cells55 : Try.prog.cellsOf 55 = 1 := by kernel_rfl
theorem bytes55 : Try.prog.bytesOf 55 = 8 := by kernel_rfl
theorem info55 : (Try.prog.info? 55).isSome = true := by kernel_rfl
theorem zero55 : zeroCs Try.prog 55 = some [.d (.o .nilFunc)] := by kernel_rfl
theorem cells56 : Try.prog.cellsOf 56 = 1 := by kernel_rfl
theorem bytes56 : Try.prog.bytesOf 56 = 8 := by kernel_rfl
theorem info56 : (Try.prog.info? 56).isSome = true := by kernel_rfl
theorem zero56 : zeroCs Try.prog 56 = some [.d (.o .nilFunc)] := by kernel_rfl
theorem cells57 : Try.prog.cellsOf 57 = 1 := by kernel_rfl
theorem bytes57 : Try.prog.bytesOf 57 = 24 := by kernel_rfl
theorem info57 : (Try.prog.info? 57).isSome = true := by kernel_rfl
theorem zero57 : zeroCs Try.prog 57 = some [.fsl []] := by kernel_rfl
theorem cells58 : Try.prog.cellsOf 58 = 5 := by kernel_rfl
theorem bytes58 : Try.prog.bytesOf 58 = 72 := by kernel_rfl
theorem info58 : (Try.prog.info? 58).isSome = true := by kernel_rfl
theorem zero58 : zeroCs Try.prog 58 = some [.d (.s []), .fsl [], .d (.b false), .d (.b false), .fsl []] := by kernel_rfl
theorem cells59 : Try.prog.cellsOf 59 = 5 := by kernel_rfl
theorem bytes59 : Try.prog.bytesOf 59 = 72 := by kernel_rfl
theorem info59 : (Try.prog.info? 59).isSome = true := by kernel_rfl
theorem zero59 : zeroCs Try.prog 59 = some [.d (.s []), .fsl [], .d (.b false), .d (.b false), .fsl []] := by kernel_rfl
theorem cells60 : Try.prog.cellsOf 60 = 1 := by kernel_rfl
theorem bytes60 : Try.prog.bytesOf 60 = 8 := by kernel_rfl
theorem info60 : (Try.prog.info? 60).isSome = true := by kernel_rfl
theorem zero60 : zeroCs Try.prog 60 = some [.d (.o .nilFunc)] := by kernel_rfl
theorem cells61 : Try.prog.cellsOf 61 = 1 := by kernel_rfl
theorem bytes61 : Try.prog.bytesOf 61 = 8 := by kernel_rfl
theorem info61 : (Try.prog.info? 61).isSome = true := by kernel_rfl
theorem zero61 : zeroCs Try.prog 61 = some [.d (.o .nilFunc)] := by kernel_rfl
theorem cells62 : Try.prog.cellsOf 62 = 1 := by kernel_rfl
theorem bytes62 : Try.prog.bytesOf 62 = 8 := by kernel_rfl
theorem info62 : (Try.prog.info? 62).isSome = true := by kernel_rfl
theorem zero62 : zeroCs Try.prog 62 = some [.d (.o .nilFunc)] := by kernel_rfl
theorem cells63 : Try.prog.cellsOf 63 = 1 := by kernel_rfl
theorem bytes63 : Try.prog.bytesOf 63 = 8 := by kernel_rfl
theorem info63 : (Try.prog.info? 63).isSome = true := by kernel_rfl
theorem zero63 : zeroCs Try.prog 63 = some [.d (.o .nilFunc)] := by kernel_rfl
theorem cells64 : Try.prog.cellsOf 64 = 1 := by kernel_rfl
theorem bytes64 : Try.prog.bytesOf 64 = 8 := by kernel_rfl
theorem info64 : (Try.prog.info? 64).isSome = true := by kernel_rfl
theorem zero64 : zeroCs Try.prog 64 = some [.d (.o .nilFunc)] := by kernel_rfl
theorem cells65 : Try.prog.cellsOf 65 = 1 := by kernel_rfl
theorem bytes65 : Try.prog.bytesOf 65 = 24 := by kernel_rfl
theorem info65 : (Try.prog.info? 65).isSome = true := by kernel_rfl
theorem zero65 : zeroCs Try.prog 65 = some [.fsl []] := by kernel_rfl
theorem cells66 : Try.prog.cellsOf 66 = 1 := by kernel_rfl
theorem bytes66 : Try.prog.bytesOf 66 = 24 := by kernel_rfl
theorem info66 : (Try.prog.info? 66).isSome = true := by kernel_rfl
theorem zero66 : zeroCs Try.prog 66 = some [.fsl []] := by kernel_rfl
theorem cells67 : Try.prog.cellsOf 67 = 1 := by kernel_rfl
theorem bytes67 : Try.prog.bytesOf 67 = 24 := by kernel_rfl
theorem info67 : (Try.prog.info? 67).isSome = true := by kernel_rfl
theorem zero67 : zeroCs Try.prog 67 = some [.fsl []] := by kernel_rfl
theorem cells68 : Try.prog.cellsOf 68 = 1 := by kernel_rfl
theorem bytes68 : Try.prog.bytesOf 68 = 8 := by kernel_rfl
theorem info68 : (Try.prog.info? 68).isSome = true := by kernel_rfl
theorem zero68 : zeroCs Try.prog 68 = some [.d (.o .nilFunc)] := by kernel_rfl
theorem cells69 : Try.prog.cellsOf 69 = 1 := by kernel_rfl
theorem bytes69 : Try.prog.bytesOf 69 = 8 := by kernel_rfl
theorem info69 : (Try.prog.info? 69).isSome = true := by kernel_rfl
theorem zero69 : zeroCs Try.prog 69 = some [.d (.o .nilFunc)] := by kernel_rfl
theorem cells70 : Try.prog.cellsOf 70 = 1 := by kernel_rfl
theorem bytes70 : Try.prog.bytesOf 70 = 24 := by kernel_rfl
theorem info70 : (Try.prog.info? 70).isSome = true := by kernel_rfl
theorem zero70 : zeroCs Try.prog 70 = some [.fsl []] := by kernel_rfl
theorem cells71 : Try.prog.cellsOf 71 = 1 := by kernel_rfl
theorem bytes71 : Try.prog.bytesOf 71 = 24 := by kernel_rfl
theorem info71 : (Try.prog.info? 71).isSome = true := by kernel_rfl
theorem zero71 : zeroCs Try.prog 71 = some [.fsl []] := by kernel_rfl
theorem cells72 : Try.prog.cellsOf 72 = 1 := by kernel_rfl
theorem bytes72 : Try.prog.bytesOf 72 = 24 := by kernel_rfl
theorem info72 : (Try.prog.info? 72).isSome = true := by kernel_rfl
theorem zero72 : zeroCs Try.prog 72 = some [.fsl []] := by kernel_rfl
theorem cells73 : Try.prog.cellsOf 73 = 1 := by kernel_rfl
theorem bytes73 : Try.prog.bytesOf 73 = 8 := by kernel_rfl
theorem info73 : (Try.prog.info? 73).isSome = true := by kernel_rfl
theorem zero73 : zeroCs Try.prog 73 = some [.d (.o .nilFunc)] := by kernel_rfl
theorem cells74 : Try.prog.cellsOf 74 = 1 := by kernel_rfl
theorem bytes74 : Try.prog.bytesOf 74 = 8 := by kernel_rfl
theorem info74 : (Try.prog.info? 74).isSome = true := by kernel_rfl
theorem zero74 : zeroCs Try.prog 74 = some [.d (.o .nilFunc)] := by kernel_rfl
theorem cells75 : Try.prog.cellsOf 75 = 1 := by kernel_rfl
theorem bytes75 : Try.prog.bytesOf 75 = 8 := by kernel_rfl
theorem info75 : (Try.prog.info? 75).isSome = true := by kernel_rfl
theorem zero75 : zeroCs Try.prog 75 = some [.d (.o .nilFunc)] := by kernel_rfl
theorem cells76 : Try.prog.cellsOf 76 = 1 := by kernel_rfl
theorem bytes76 : Try.prog.bytesOf 76 = 8 := by kernel_rfl
theorem info76 : (Try.prog.info? 76).isSome = true := by kernel_rfl
theorem zero76 : zeroCs Try.prog 76 = some [.d (.o .nilFunc)] := by kernel_rfl
theorem cells77 : Try.prog.cellsOf 77 = 1 := by kernel_rfl
theorem bytes77 : Try.prog.bytesOf 77 = 8 := by kernel_rfl
theorem info77 : (Try.prog.info? 77).isSome = true := by kernel_rfl
theorem zero77 : zeroCs Try.prog 77 = some [.d (.o .nilFunc)] := by kernel_rfl
theorem cells78 : Try.prog.cellsOf 78 = 1 := by kernel_rfl
theorem bytes78 : Try.prog.bytesOf 78 = 8 := by kernel_rfl
theorem info78 : (Try.prog.info? 78).isSome = true := by kernel_rfl
theorem zero78 : zeroCs Try.prog 78 = some [.d (.o .nilFunc)] := by kernel_rfl
theorem cells79 : Try.prog.cellsOf 79 = 1 := by kernel_rfl
theorem bytes79 : Try.prog.bytesOf 79 = 8 := by kernel_rfl
theorem info79 : (Try.prog.info? 79).isSome = true := by kernel_rfl
theorem zero79 : zeroCs Try.prog 79 = some [.d (.o .nilFunc)] := by kernel_rfl
theorem cells80 : Try.prog.cellsOf 80 = 1 := by kernel_rfl
theorem bytes80 : Try.prog.bytesOf 80 = 8 := by kernel_rfl
theorem info80 : (Try.prog.info? 80).isSome = true := by kernel_rfl
theorem zero80 : zeroCs Try.prog 80 = some [.d (.o .nilFunc)] := by kernel_rfl
theorem cells81 : Try.prog.cellsOf 81 = 1 := by kernel_rfl
theorem bytes81 : Try.prog.bytesOf 81 = 8 := by kernel_rfl
theorem info81 : (Try.prog.info? 81).isSome = true := by kernel_rfl
theorem zero81 : zeroCs Try.prog 81 = some [.d (.o .nilFunc)] := by kernel_rfl
theorem cells82 : Try.prog.cellsOf 82 = 11 := by kernel_rfl
theorem bytes82 : Try.prog.bytesOf 82 = 184 := by kernel_rfl
theorem info82 : (Try.prog.info? 82).isSome = true := by kernel_rfl
theorem zero82 : zeroCs Try.prog 82 = some [.d (.s []), .fsl [], .d (.i .i64 0), .d (.s []), .d (.s []), .d (.i .i64 0), .d (.i .i64 0), .d (.s []), .fsl [], .fsl [], .fsl []] := by kernel_rfl
theorem cells83 : Try.prog.cellsOf 83 = 11 := by kernel_rfl
theorem bytes83 : Try.prog.bytesOf 83 = 184 := by kernel_rfl
theorem info83 : (Try.prog.info? 83).isSome = true := by kernel_rfl
theorem zero83 : zeroCs Try.prog 83 = some [.d (.s []), .fsl [], .d (.i .i64 0), .d (.s []), .d (.s []), .d (.i .i64 0), .d (.i .i64 0), .d (.s []), .fsl [], .fsl [], .fsl []] := by kernel_rfl
theorem cells84 : Try.prog.cellsOf 84 = 1 := by kernel_rfl
theorem bytes84 : Try.prog.bytesOf 84 = 8 := by kernel_rfl
theorem info84 : (Try.prog.info? 84).isSome = true := by kernel_rfl
theorem zero84 : zeroCs Try.prog 84 = some [.d (.o .nilFunc)] := by kernel_rfl
theorem cells85 : Try.prog.cellsOf 85 = 1 := by kernel_rfl
theorem bytes85 : Try.prog.bytesOf 85 = 8 := by kernel_rfl
theorem info85 : (Try.prog.info? 85).isSome = true := by kernel_rfl
theorem zero85 : zeroCs Try.prog 85 = some [.d (.o .nilFunc)] := by kernel_rfl
theorem cells86 : Try.prog.cellsOf 86 = 1 := by kernel_rfl
theorem bytes86 : Try.prog.bytesOf 86 = 8 := by kernel_rfl
theorem info86 : (Try.prog.info? 86).isSome = true := by kernel_rfl
theorem zero86 : zeroCs Try.prog 86 = some [.d (.o .nilFunc)] := by kernel_rfl
theorem cells87 : Try.prog.cellsOf 87 = 1 := by kernel_rfl
theorem bytes87 : Try.prog.bytesOf 87 = 8 := by kernel_rfl
theorem info87 : (Try.prog.info? 87).isSome = true := by kernel_rfl
theorem zero87 : zeroCs Try.prog 87 = some [.d (.o .nilFunc)] := by kernel_rfl
theorem cells88 : Try.prog.cellsOf 88 = 1 := by kernel_rfl
theorem bytes88 : Try.prog.bytesOf 88 = 8 := by kernel_rfl
theorem info88 : (Try.prog.info? 88).isSome = true := by kernel_rfl
theorem zero88 : zeroCs Try.prog 88 = some [.d (.o .nilFunc)] := by kernel_rfl
theorem cells89 : Try.prog.cellsOf 89 = 1 := by kernel_rfl
theorem bytes89 : Try.prog.bytesOf 89 = 8 := by kernel_rfl
theorem info89 : (Try.prog.info? 89).isSome = true := by kernel_rfl
theorem zero89 : zeroCs Try.prog 89 = some [.d (.o .nilFunc)] := by kernel_rfl
theorem cells90 : Try.prog.cellsOf 90 = 1 := by kernel_rfl
theorem bytes90 : Try.prog.bytesOf 90 = 8 := by kernel_rfl
theorem info90 : (Try.prog.info? 90).isSome = true := by kernel_rfl
theorem zero90 : zeroCs Try.prog 90 = some [.d (.o .nilFunc)] := by kernel_rfl
theorem cells91 : Try.prog.cellsOf 91 = 1 := by kernel_rfl
theorem bytes91 : Try.prog.bytesOf 91 = 8 := by kernel_rfl
theorem info91 : (Try.prog.info? 91).isSome = true := by kernel_rfl
theorem zero91 : zeroCs Try.prog 91 = some [.d (.o .nilFunc)] := by kernel_rfl
theorem cells92 : Try.prog.cellsOf 92 = 1 := by kernel_rfl
theorem bytes92 : Try.prog.bytesOf 92 = 8 := by kernel_rfl
theorem info92 : (Try.prog.info? 92).isSome = true := by kernel_rfl
theorem zero92 : zeroCs Try.prog 92 = some [.d (.o .nilFunc)] := by kernel_rfl
theorem cells93 : Try.prog.cellsOf 93 = 1 := by kernel_rfl
theorem bytes93 : Try.prog.bytesOf 93 = 8 := by kernel_rfl
theorem info93 : (Try.prog.info? 93).isSome = true := by kernel_rfl
theorem zero93 : zeroCs Try.prog 93 = some [.d (.o .nilFunc)] := by kernel_rfl
theorem cells94 : Try.prog.cellsOf 94 = 1 := by kernel_rfl
theorem bytes94 : Try.prog.bytesOf 94 = 8 := by kernel_rfl
theorem info94 : (Try.prog.info? 94).isSome = true := by kernel_rfl
theorem zero94 : zeroCs Try.prog 94 = some [.d (.o .nilFunc)] := by kernel_rfl
theorem cells95 : Try.prog.cellsOf 95 = 2 := by kernel_rfl
theorem bytes95 : Try.prog.bytesOf 95 = 40 := by kernel_rfl
theorem info95 : (Try.prog.info? 95).isSome = true := by kernel_rfl
theorem zero95 : zeroCs Try.prog 95 = some [.d (.s []), .fsl []] := by kernel_rfl
theorem cells96 : Try.prog.cellsOf 96 = 2 := by kernel_rfl
theorem bytes96 : Try.prog.bytesOf 96 = 40 := by kernel_rfl
theorem info96 : (Try.prog.info? 96).isSome = true := by kernel_rfl
theorem zero96 : zeroCs Try.prog 96 = some [.d (.s []), .fsl []] := by kernel_rfl
theorem cells97 : Try.prog.cellsOf 97 = 1 := by kernel_rfl
theorem bytes97 : Try.prog.bytesOf 97 = 8 := by kernel_rfl
theorem info97 : (Try.prog.info? 97).isSome = true := by kernel_rfl
theorem zero97 : zeroCs Try.prog 97 = some [.d (.o .nilFunc)] := by kernel_rfl
theorem cells98 : Try.prog.cellsOf 98 = 1 := by kernel_rfl
theorem bytes98 : Try.prog.bytesOf 98 = 8 := by kernel_rfl
theorem info98 : (Try.prog.info? 98).isSome = true := by kernel_rfl
theorem zero98 : zeroCs Try.prog 98 = some [.d (.o .nilFunc)] := by kernel_rfl
theorem cells99 : Try.prog.cellsOf 99 = 1 := by kernel_rfl
theorem bytes99 : Try.prog.bytesOf 99 = 8 := by kernel_rfl
theorem info99 : (Try.prog.info? 99).isSome = true := by kernel_rfl
theorem zero99 : zeroCs Try.prog 99 = some [.d (.o .nilFunc)] := by kernel_rfl
theorem cells100 : Try.prog.cellsOf 100 = 1 := by kernel_rfl
theorem bytes100 : Try.prog.bytesOf 100 = 8 := by kernel_rfl
theorem info100 : (Try.prog.info? 100).isSome = true := by kernel_rfl
theorem zero100 : zeroCs Try.prog 100 = some [.d (.o .nilFunc)] := by kernel_rfl
theorem cells101 : Try.prog.cellsOf 101 = 1 := by kernel_rfl
theorem bytes101 : Try.prog.bytesOf 101 = 8 := by kernel_rfl
theorem info101 : (Try.prog.info? 101).isSome = true := by kernel_rfl
theorem zero101 : zeroCs Try.prog 101 = some [.d (.o .nilFunc)] := by kernel_rfl
theorem cells102 : Try.prog.cellsOf 102 = 1 := by kernel_rfl
theorem bytes102 : Try.prog.bytesOf 102 = 8 := by kernel_rfl
theorem info102 : (Try.prog.info? 102).isSome = true := by kernel_rfl
theorem zero102 : zeroCs Try.prog 102 = some [.d (.o .nilFunc)] := by kernel_rfl
theorem cells103 : Try.prog.cellsOf 103 = 1 := by kernel_rfl
theorem bytes103 : Try.prog.bytesOf 103 = 8 := by kernel_rfl
theorem info103 : (Try.prog.info? 103).isSome = true := by kernel_rfl
theorem zero103 : zeroCs Try.prog 103 = some [.d (.o .nilFunc)] := by kernel_rfl
theorem cells104 : Try.prog.cellsOf 104 = 1 := by kernel_rfl
theorem bytes104 : Try.prog.bytesOf 104 = 8 := by kernel_rfl
theorem info104 : (Try.prog.info? 104).isSome = true := by kernel_rfl
theorem zero104 : zeroCs Try.prog 104 = some [.d (.o .nilFunc)] := by kernel_rfl
theorem cells105 : Try.prog.cellsOf 105 = 1 := by kernel_rfl
theorem bytes105 : Try.prog.bytesOf 105 = 8 := by kernel_rfl
theorem info105 : (Try.prog.info? 105).isSome = true := by kernel_rfl
theorem zero105 : zeroCs Try.prog 105 = some [.d (.o .nilFunc)] := by kernel_rfl
theorem cells106 : Try.prog.cellsOf 106 = 16 := by kernel_rfl
theorem bytes106 : Try.prog.bytesOf 106 = 264 := by kernel_rfl
theorem info106 : (Try.prog.info? 106).isSome = true := by kernel_rfl
theorem zero106 : zeroCs Try.prog 106 = some [.d (.s []), .fsl [], .d (.i .i64 0), .d (.s []), .fsl [], .d (.b false), .fsl [], .d (.i .i64 0), .d (.s []), .d (.s []), .d (.i .i64 0), .d (.i .i64 0), .d (.s []), .fsl [], .fsl [], .fsl []] := by kernel_rfl
theorem cells107 : Try.prog.cellsOf 107 = 16 := by kernel_rfl
theorem bytes107 : Try.prog.bytesOf 107 = 264 := by kernel_rfl
theorem info107 : (Try.prog.info? 107).isSome = true := by kernel_rfl
theorem zero107 : zeroCs Try.prog 107 = some [.d (.s []), .fsl [], .d (.i .i64 0), .d (.s []), .fsl [], .d (.b false), .fsl [], .d (.i .i64 0), .d (.s []), .d (.s []), .d (.i .i64 0), .d (.i .i64 0), .d (.s []), .fsl [], .fsl [], .fsl []] := by kernel_rfl
theorem cells108 : Try.prog.cellsOf 108 = 1 := by kernel_rfl
theorem bytes108 : Try.prog.bytesOf 108 = 8 := by kernel_rfl
theorem info108 : (Try.prog.info? 108).isSome = true := by kernel_rfl
theorem zero108 : zeroCs Try.prog 108 = some [.d (.o .nilFunc)] := by kernel_rfl
theorem cells109 : Try.prog.cellsOf 109 = 1 := by kernel_rfl
theorem bytes109 : Try.prog.bytesOf 109 = 8 := by kernel_rfl
theorem info109 : (Try.prog.info? 109).isSome = true := by kernel_rfl
theorem zero109 : zeroCs Try.prog 109 = some [.d (.o .nilFunc)] := by kernel_rfl
theorem cells110 : Try.prog.cellsOf 110 = 1 := by kernel_rfl
theorem bytes110 : Try.prog.bytesOf 110 = 8 := by kernel_rfl
theorem info110 : (Try.prog.info? 110).isSome = true := by kernel_rfl
theorem zero110 : zeroCs Try.prog 110 = some [.d (.o .nilFunc)] := by kernel_rfl
theorem cells111 : Try.prog.cellsOf 111 = 1 := by kernel_rfl
theorem bytes111 : Try.prog.bytesOf 111 = 8 := by kernel_rfl
theorem info111 : (Try.prog.info? 111).isSome = true := by kernel_rfl
theorem zero111 : zeroCs Try.prog 111 = some [.d (.o .nilFunc)] := by kernel_rfl
theorem cells112 : Try.prog.cellsOf 112 = 1 := by kernel_rfl
theorem bytes112 : Try.prog.bytesOf 112 = 8 := by kernel_rfl
theorem info112 : (Try.prog.info? 112).isSome = true := by kernel_rfl
theorem zero112 : zeroCs Try.prog 112 = some [.d (.o .nilFunc)] := by kernel_rfl
theorem cells113 : Try.prog.cellsOf 113 = 1 := by kernel_rfl
theorem bytes113 : Try.prog.bytesOf 113 = 8 := by kernel_rfl
theorem info113 : (Try.prog.info? 113).isSome = true := by kernel_rfl
theorem zero113 : zeroCs Try.prog 113 = some [.d (.o .nilFunc)] := by kernel_rfl
theorem cells114 : Try.prog.cellsOf 114 = 1 := by kernel_rfl
theorem bytes114 : Try.prog.bytesOf 114 = 8 := by kernel_rfl
theorem info114 : (Try.prog.info? 114).isSome = true := by kernel_rfl
theorem zero114 : zeroCs Try.prog 114 = some [.d (.o .nilFunc)] := by kernel_rfl
theorem cells115 : Try.prog.cellsOf 115 = 1 := by kernel_rfl
theorem bytes115 : Try.prog.bytesOf 115 = 24 := by kernel_rfl
theorem info115 : (Try.prog.info? 115).isSome = true := by kernel_rfl
theorem zero115 : zeroCs Try.prog 115 = some [.fsl []] := by kernel_rfl
theorem cells116 : Try.prog.cellsOf 116 = 1 := by kernel_rfl
theorem bytes116 : Try.prog.bytesOf 116 = 24 := by kernel_rfl
theorem info116 : (Try.prog.info? 116).isSome = true := by kernel_rfl
theorem zero116 : zeroCs Try.prog 116 = some [.fsl []] := by kernel_rfl
theorem cells117 : Try.prog.cellsOf 117 = 1 := by kernel_rfl
theorem bytes117 : Try.prog.bytesOf 117 = 24 := by kernel_rfl
theorem info117 : (Try.prog.info? 117).isSome = true := by kernel_rfl
theorem zero117 : zeroCs Try.prog 117 = some [.fsl []] := by kernel_rfl
theorem cells118 : Try.prog.cellsOf 118 = 1 := by kernel_rfl
theorem bytes118 : Try.prog.bytesOf 118 = 24 := by kernel_rfl
theorem info118 : (Try.prog.info? 118).isSome = true := by kernel_rfl
theorem zero118 : zeroCs Try.prog 118 = some [.fsl []] := by kernel_rfl
theorem cells119 : Try.prog.cellsOf 119 = 6 := by kernel_rfl
theorem bytes119 : Try.prog.bytesOf 119 = 136 := by kernel_rfl
theorem info119 : (Try.prog.info? 119).isSome = true := by kernel_rfl
theorem zero119 : zeroCs Try.prog 119 = some [.d (.s []), .fsl [], .fsl [], .fsl [], .fsl [], .fsl []] := by kernel_rfl
theorem cells120 : Try.prog.cellsOf 120 = 6 := by kernel_rfl
theorem bytes120 : Try.prog.bytesOf 120 = 136 := by kernel_rfl
theorem info120 : (Try.prog.info? 120).isSome = true := by kernel_rfl
theorem zero120 : zeroCs Try.prog 120 = some [.d (.s []), .fsl [], .fsl [], .fsl [], .fsl [], .fsl []] := by kernel_rfl
theorem cells121 : Try.prog.cellsOf 121 = 1 := by kernel_rfl
theorem bytes121 : Try.prog.bytesOf 121 = 8 := by kernel_rfl
theorem info121 : (Try.prog.info? 121).isSome = true := by kernel_rfl
theorem zero121 : zeroCs Try.prog 121 = some [.d (.o .nilFunc)] := by kernel_rfl
theorem cells122 : Try.prog.cellsOf 122 = 1 := by kernel_rfl
theorem bytes122 : Try.prog.bytesOf 122 = 8 := by kernel_rfl
theorem info122 : (Try.prog.info? 122).isSome = true := by kernel_rfl
theorem zero122 : zeroCs Try.prog 122 = some [.d (.o .nilFunc)] := by kernel_rfl
theorem cells123 : Try.prog.cellsOf 123 = 1 := by kernel_rfl
theorem bytes123 : Try.prog.bytesOf 123 = 8 := by kernel_rfl
theorem info123 : (Try.prog.info? 123).isSome = true := by kernel_rfl
theorem zero123 : zeroCs Try.prog 123 = some [.d (.o .nilFunc)] := by kernel_rfl
theorem cells124 : Try.prog.cellsOf 124 = 1 := by kernel_rfl
theorem bytes124 : Try.prog.bytesOf 124 = 8 := by kernel_rfl
theorem info124 : (Try.prog.info? 124).isSome = true := by kernel_rfl
theorem zero124 : zeroCs Try.prog 124 = some [.d (.o .nilFunc)] := by kernel_rfl
theorem cells126 : Try.prog.cellsOf 126 = 1 := by kernel_rfl
theorem bytes126 : Try.prog.bytesOf 126 = 8 := by kernel_rfl
theorem info126 : (Try.prog.info? 126).isSome = true := by kernel_rfl
theorem zero126 : zeroCs Try.prog 126 = some [.d (.o .nilFunc)] := by kernel_rfl
theorem cells127 : Try.prog.cellsOf 127 = 1 := by kernel_rfl
theorem bytes127 : Try.prog.bytesOf 127 = 8 := by kernel_rfl
theorem info127 : (Try.prog.info? 127).isSome = true := by kernel_rfl
theorem zero127 : zeroCs Try.prog 127 = some [.d (.o .nilFunc)] := by kernel_rfl
theorem cells128 : Try.prog.cellsOf 128 = 1 := by kernel_rfl
theorem bytes128 : Try.prog.bytesOf 128 = 8 := by kernel_rfl
theorem info128 : (Try.prog.info? 128).isSome = true := by kernel_rfl
theorem zero128 : zeroCs Try.prog 128 = some [.d (.o .nilFunc)] := by kernel_rfl
theorem cells129 : Try.prog.cellsOf 129 = 1 := by kernel_rfl
theorem bytes129 : Try.prog.bytesOf 129 = 8 := by kernel_rfl
theorem info129 : (Try.prog.info? 129).isSome = true := by kernel_rfl
theorem zero129 : zeroCs Try.prog 129 = some [.d (.o .nilFunc)] := by kernel_rfl
theorem cells130 : Try.prog.cellsOf 130 = 11 := by kernel_rfl
theorem bytes130 : Try.prog.bytesOf 130 = 184 := by kernel_rfl
theorem info130 : (Try.prog.info? 130).isSome = true := by kernel_rfl
theorem zero130 : zeroCs Try.prog 130 = some [.d (.s []), .fsl [], .d (.i .i64 0), .d (.s []), .d (.s []), .d (.i .i64 0), .d (.i .i64 0), .d (.s []), .fsl [], .fsl [], .fsl []] := by kernel_rfl
theorem cells131 : Try.prog.cellsOf 131 = 11 := by kernel_rfl
theorem bytes131 : Try.prog.bytesOf 131 = 184 := by kernel_rfl
theorem info131 : (Try.prog.info? 131).isSome = true := by kernel_rfl
theorem zero131 : zeroCs Try.prog 131 = some [.d (.s []), .fsl [], .d (.i .i64 0), .d (.s []), .d (.s []), .d (.i .i64 0), .d (.i .i64 0), .d (.s []), .fsl [], .fsl [], .fsl []] := by kernel_rfl
theorem cells132 : Try.prog.cellsOf 132 = 1 := by kernel_rfl
theorem bytes132 : Try.prog.bytesOf 132 = 8 := by kernel_rfl
theorem info132 : (Try.prog.info? 132).isSome = true := by kernel_rfl
theorem zero132 : zeroCs Try.prog 132 = some [.d (.o .nilFunc)] := by kernel_rfl
theorem cells133 : Try.prog.cellsOf 133 = 1 := by kernel_rfl
theorem bytes133 : Try.prog.bytesOf 133 = 8 := by kernel_rfl
theorem info133 : (Try.prog.info? 133).isSome = true := by kernel_rfl
theorem zero133 : zeroCs Try.prog 133 = some [.d (.o .nilFunc)] := by kernel_rfl
theorem cells134 : Try.prog.cellsOf 134 = 1 := by kernel_rfl
theorem bytes134 : Try.prog.bytesOf 134 = 8 := by kernel_rfl
theorem info134 : (Try.prog.info? 134).isSome = true := by kernel_rfl
theorem zero134 : zeroCs Try.prog 134 = some [.d (.o .nilFunc)] := by kernel_rfl
theorem cells135 : Try.prog.cellsOf 135 = 1 := by kernel_rfl
theorem bytes135 : Try.prog.bytesOf 135 = 8 := by kernel_rfl
theorem info135 : (Try.prog.info? 135).isSome = true := by kernel_rfl
theorem zero135 : zeroCs Try.prog 135 = some [.d (.o .nilFunc)] := by kernel_rfl
theorem cells136 : Try.prog.cellsOf 136 = 1 := by kernel_rfl
theorem bytes136 : Try.prog.bytesOf 136 = 8 := by kernel_rfl
theorem info136 : (Try.prog.info? 136).isSome = true := by kernel_rfl
theorem zero136 : zeroCs Try.prog 136 = some [.d (.o .nilFunc)] := by kernel_rfl
theorem cells137 : Try.prog.cellsOf 137 = 2 := by kernel_rfl
theorem bytes137 : Try.prog.bytesOf 137 = 40 := by kernel_rfl
theorem info137 : (Try.prog.info? 137).isSome = true := by kernel_rfl
theorem zero137 : zeroCs Try.prog 137 = some [.d (.s []), .fsl []] := by kernel_rfl
theorem cells138 : Try.prog.cellsOf 138 = 2 := by kernel_rfl
theorem bytes138 : Try.prog.bytesOf 138 = 40 := by kernel_rfl
theorem info138 : (Try.prog.info? 138).isSome = true := by kernel_rfl
theorem zero138 : zeroCs Try.prog 138 = some [.d (.s []), .fsl []] := by kernel_rfl
theorem cells139 : Try.prog.cellsOf 139 = 1 := by kernel_rfl
theorem bytes139 : Try.prog.bytesOf 139 = 8 := by kernel_rfl
theorem info139 : (Try.prog.info? 139).isSome = true := by kernel_rfl
theorem zero139 : zeroCs Try.prog 139 = some [.d (.o .nilFunc)] := by kernel_rfl
theorem cells140 : Try.prog.cellsOf 140 = 1 := by kernel_rfl
theorem bytes140 : Try.prog.bytesOf 140 = 8 := by kernel_rfl
theorem info140 : (Try.prog.info? 140).isSome = true := by kernel_rfl
theorem zero140 : zeroCs Try.prog 140 = some [.d (.o .nilFunc)] := by kernel_rfl
theorem cells141 : Try.prog.cellsOf 141 = 1 := by kernel_rfl
theorem bytes141 : Try.prog.bytesOf 141 = 8 := by kernel_rfl
theorem info141 : (Try.prog.info? 141).isSome = true := by kernel_rfl
theorem zero141 : zeroCs Try.prog 141 = some [.d (.o .nilFunc)] := by kernel_rfl
theorem cells142 : Try.prog.cellsOf 142 = 1 := by kernel_rfl
theorem bytes142 : Try.prog.bytesOf 142 = 8 := by kernel_rfl
theorem info142 : (Try.prog.info? 142).isSome = true := by kernel_rfl
theorem zero142 : zeroCs Try.prog 142 = some [.d (.o .nilFunc)] := by kernel_rfl
theorem cells143 : Try.prog.cellsOf 143 = 1 := by kernel_rfl
theorem bytes143 : Try.prog.bytesOf 143 = 8 := by kernel_rfl
theorem info143 : (Try.prog.info? 143).isSome = true := by kernel_rfl
theorem zero143 : zeroCs Try.prog 143 = some [.d (.o .nilFunc)] := by kernel_rfl
theorem cells144 : Try.prog.cellsOf 144 = 1 := by kernel_rfl
theorem bytes144 : Try.prog.bytesOf 144 = 8 := by kernel_rfl
theorem info144 : (Try.prog.info? 144).isSome = true := by kernel_rfl
theorem zero144 : zeroCs Try.prog 144 = some [.d (.o .nilFunc)] := by kernel_rfl
theorem cells145 : Try.prog.cellsOf 145 = 1 := by kernel_rfl
theorem bytes145 : Try.prog.bytesOf 145 = 8 := by kernel_rfl
theorem info145 : (Try.prog.info? 145).isSome = true := by kernel_rfl
theorem zero145 : zeroCs Try.prog 145 = some [.d (.o .nilFunc)] := by kernel_rfl
theorem cells146 : Try.prog.cellsOf 146 = 1 := by kernel_rfl
theorem bytes146 : Try.prog.bytesOf 146 = 8 := by kernel_rfl
theorem info146 : (Try.prog.info? 146).isSome = true := by kernel_rfl
theorem zero146 : zeroCs Try.prog 146 = some [.d (.o .nilFunc)] := by kernel_rfl
theorem cells147 : Try.prog.cellsOf 147 = 1 := by kernel_rfl
theorem bytes147 : Try.prog.bytesOf 147 = 8 := by kernel_rfl
theorem info147 : (Try.prog.info? 147).isSome = true := by kernel_rfl
theorem zero147 : zeroCs Try.prog 147 = some [.d (.o .nilFunc)] := by kernel_rfl
theorem cells148 : Try.prog.cellsOf 148 = 16 := by kernel_rfl
theorem bytes148 : Try.prog.bytesOf 148 = 264 := by kernel_rfl
theorem info148 : (Try.prog.info? 148).isSome = true := by kernel_rfl
theorem zero148 : zeroCs Try.prog 148 = some [.d (.s []), .fsl [], .d (.i .i64 0), .d (.s []), .fsl [], .d (.b false), .fsl [], .d (.i .i64 0), .d (.s []), .d (.s []), .d (.i .i64 0), .d (.i .i64 0), .d (.s []), .fsl [], .fsl [], .fsl []] := by kernel_rfl
theorem cells149 : Try.prog.cellsOf 149 = 16 := by kernel_rfl
theorem bytes149 : Try.prog.bytesOf 149 = 264 := by kernel_rfl
theorem info149 : (Try.prog.info? 149).isSome = true := by kernel_rfl
theorem zero149 : zeroCs Try.prog 149 = some [.d (.s []), .fsl [], .d (.i .i64 0), .d (.s []), .fsl [], .d (.b false), .fsl [], .d (.i .i64 0), .d (.s []), .d (.s []), .d (.i .i64 0), .d (.i .i64 0), .d (.s []), .fsl [], .fsl [], .fsl []] := by kernel_rfl
theorem cells150 : Try.prog.cellsOf 150 = 1 := by kernel_rfl
theorem bytes150 : Try.prog.bytesOf 150 = 8 := by kernel_rfl
theorem info150 : (Try.prog.info? 150).isSome = true := by kernel_rfl
theorem zero150 : zeroCs Try.prog 150 = some [.d (.o .nilFunc)] := by kernel_rfl
theorem cells151 : Try.prog.cellsOf 151 = 1 := by kernel_rfl
theorem bytes151 : Try.prog.bytesOf 151 = 8 := by kernel_rfl
theorem info151 : (Try.prog.info? 151).isSome = true := by kernel_rfl
theorem zero151 : zeroCs Try.prog 151 = some [.d (.o .nilFunc)] := by kernel_rfl
theorem cells152 : Try.prog.cellsOf 152 = 1 := by kernel_rfl
theorem bytes152 : Try.prog.bytesOf 152 = 8 := by kernel_rfl
theorem info152 : (Try.prog.info? 152).isSome = true := by kernel_rfl
theorem zero152 : zeroCs Try.prog 152 = some [.d (.o .nilFunc)] := by kernel_rfl
theorem cells153 : Try.prog.cellsOf 153 = 1 := by kernel_rfl
theorem bytes153 : Try.prog.bytesOf 153 = 8 := by kernel_rfl
theorem info153 : (Try.prog.info? 153).isSome = true := by kernel_rfl
theorem zero153 : zeroCs Try.prog 153 = some [.d (.o .nilFunc)] := by kernel_rfl
theorem cells155 : Try.prog.cellsOf 155 = 1 := by kernel_rfl
theorem bytes155 : Try.prog.bytesOf 155 = 8 := by kernel_rfl
theorem info155 : (Try.prog.info? 155).isSome = true := by kernel_rfl
theorem zero155 : zeroCs Try.prog 155 = some [.d (.o .nilFunc)] := by kernel_rfl
theorem cells156 : Try.prog.cellsOf 156 = 1 := by kernel_rfl
theorem bytes156 : Try.prog.bytesOf 156 = 8 := by kernel_rfl
theorem info156 : (Try.prog.info? 156).isSome = true := by kernel_rfl
theorem zero156 : zeroCs Try.prog 156 = some [.d (.o .nilFunc)] := by kernel_rfl
theorem cells157 : Try.prog.cellsOf 157 = 1 := by kernel_rfl
theorem bytes157 : Try.prog.bytesOf 157 = 8 := by kernel_rfl
theorem info157 : (Try.prog.info? 157).isSome = true := by kernel_rfl
theorem zero157 : zeroCs Try.prog 157 = some [.d (.o .nilFunc)] := by kernel_rfl
theorem cells158 : Try.prog.cellsOf 158 = 1 := by kernel_rfl
theorem bytes158 : Try.prog.bytesOf 158 = 8 := by kernel_rfl
theorem info158 : (Try.prog.info? 158).isSome = true := by kernel_rfl
theorem zero158 : zeroCs Try.prog 158 = some [.d (.o .nilFunc)] := by kernel_rfl
theorem cells159 : Try.prog.cellsOf 159 = 1 := by kernel_rfl
theorem bytes159 : Try.prog.bytesOf 159 = 8 := by kernel_rfl
theorem info159 : (Try.prog.info? 159).isSome = true := by kernel_rfl
theorem zero159 : zeroCs Try.prog 159 = some [.d (.o .nilFunc)] := by kernel_rfl
theorem cells160 : Try.prog.cellsOf 160 = 1 := by kernel_rfl
theorem bytes160 : Try.prog.bytesOf 160 = 24 := by kernel_rfl
theorem info160 : (Try.prog.info? 160).isSome = true := by kernel_rfl
theorem zero160 : zeroCs Try.prog 160 = some [.fsl []] := by kernel_rfl
theorem cells161 : Try.prog.cellsOf 161 = 1 := by kernel_rfl
theorem bytes161 : Try.prog.bytesOf 161 = 24 := by kernel_rfl
theorem info161 : (Try.prog.info? 161).isSome = true := by kernel_rfl
theorem zero161 : zeroCs Try.prog 161 = some [.fsl []] := by kernel_rfl
theorem cells162 : Try.prog.cellsOf 162 = 1 := by kernel_rfl
theorem bytes162 : Try.prog.bytesOf 162 = 24 := by kernel_rfl
theorem info162 : (Try.prog.info? 162).isSome = true := by kernel_rfl
theorem zero162 : zeroCs Try.prog 162 = some [.fsl []] := by kernel_rfl
theorem cells163 : Try.prog.cellsOf 163 = 1 := by kernel_rfl
theorem bytes163 : Try.prog.bytesOf 163 = 24 := by kernel_rfl
theorem info163 : (Try.prog.info? 163).isSome = true := by kernel_rfl
theorem zero163 : zeroCs Try.prog 163 = some [.fsl []] := by kernel_rfl
theorem cells164 : Try.prog.cellsOf 164 = 6 := by kernel_rfl
theorem bytes164 : Try.prog.bytesOf 164 = 136 := by kernel_rfl
theorem info164 : (Try.prog.info? 164).isSome = true := by kernel_rfl
theorem zero164 : zeroCs Try.prog 164 = some [.d (.s []), .fsl [], .fsl [], .fsl [], .fsl [], .fsl []] := by kernel_rfl
theorem cells165 : Try.prog.cellsOf 165 = 6 := by kernel_rfl
theorem bytes165 : Try.prog.bytesOf 165 = 136 := by kernel_rfl
theorem info165 : (Try.prog.info? 165).isSome = true := by kernel_rfl
theorem zero165 : zeroCs Try.prog 165 = some [.d (.s []), .fsl [], .fsl [], .fsl [], .fsl [], .fsl []] := by kernel_rfl
theorem cells166 : Try.prog.cellsOf 166 = 1 := by kernel_rfl
theorem bytes166 : Try.prog.bytesOf 166 = 8 := by kernel_rfl
theorem info166 : (Try.prog.info? 166).isSome = true := by kernel_rfl
theorem zero166 : zeroCs Try.prog 166 = some [.d (.o .nilFunc)] := by kernel_rfl
theorem cells167 : Try.prog.cellsOf 167 = 1 := by kernel_rfl
theorem bytes167 : Try.prog.bytesOf 167 = 8 := by kernel_rfl
theorem info167 : (Try.prog.info? 167).isSome = true := by kernel_rfl
theorem zero167 : zeroCs Try.prog 167 = some [.d (.o .nilFunc)] := by kernel_rfl
theorem cells168 : Try.prog.cellsOf 168 = 1 := by kernel_rfl
theorem bytes168 : Try.prog.bytesOf 168 = 24 := by kernel_rfl
theorem info168 : (Try.prog.info? 168).isSome = true := by kernel_rfl
theorem zero168 : zeroCs Try.prog 168 = some [.fsl []] := by kernel_rfl
theorem cells169 : Try.prog.cellsOf 169 = 1 := by kernel_rfl
theorem bytes169 : Try.prog.bytesOf 169 = 24 := by kernel_rfl
theorem info169 : (Try.prog.info? 169).isSome = true := by kernel_rfl
theorem zero169 : zeroCs Try.prog 169 = some [.fsl []] := by kernel_rfl
theorem cells170 : Try.prog.cellsOf 170 = 16 := by kernel_rfl
theorem bytes170 : Try.prog.bytesOf 170 = 280 := by kernel_rfl
theorem info170 : (Try.prog.info? 170).isSome = true := by kernel_rfl
theorem zero170 : zeroCs Try.prog 170 = some [.d (.s []), .fsl [], .fsl [], .fsl [], .d (.i .i64 0), .d (.s []), .fsl [], .d (.i .i64 0), .d (.s []), .d (.s []), .d (.i .i64 0), .d (.i .i64 0), .d (.s []), .fsl [], .fsl [], .fsl []] := by kernel_rfl
theorem cells171 : Try.prog.cellsOf 171 = 16 := by kernel_rfl
theorem bytes171 : Try.prog.bytesOf 171 = 280 := by kernel_rfl
theorem info171 : (Try.prog.info? 171).isSome = true := by kernel_rfl
theorem zero171 : zeroCs Try.prog 171 = some [.d (.s []), .fsl [], .fsl [], .fsl [], .d (.i .i64 0), .d (.s []), .fsl [], .d (.i .i64 0), .d (.s []), .d (.s []), .d (.i .i64 0), .d (.i .i64 0), .d (.s []), .fsl [], .fsl [], .fsl []] := by kernel_rfl
theorem cells172 : Try.prog.cellsOf 172 = 1 := by kernel_rfl
theorem bytes172 : Try.prog.bytesOf 172 = 8 := by kernel_rfl
theorem info172 : (Try.prog.info? 172).isSome = true := by kernel_rfl
theorem zero172 : zeroCs Try.prog 172 = some [.d (.o .nilFunc)] := by kernel_rfl
theorem cells173 : Try.prog.cellsOf 173 = 4 := by kernel_rfl
theorem bytes173 : Try.prog.bytesOf 173 = 96 := by kernel_rfl
theorem info173 : (Try.prog.info? 173).isSome = true := by kernel_rfl
theorem zero173 : zeroCs Try.prog 173 = some [.fsl [], .fsl [], .fsl [], .fsl []] := by kernel_rfl
theorem cells174 : Try.prog.cellsOf 174 = 1 := by kernel_rfl
theorem bytes174 : Try.prog.bytesOf 174 = 8 := by kernel_rfl
theorem info174 : (Try.prog.info? 174).isSome = true := by kernel_rfl
theorem zero174 : zeroCs Try.prog 174 = some [.d (.o .nilFunc)] := by kernel_rfl
theorem cells175 : Try.prog.cellsOf 175 = 1 := by kernel_rfl
theorem bytes175 : Try.prog.bytesOf 175 = 8 := by kernel_rfl
theorem info175 : (Try.prog.info? 175).isSome = true := by kernel_rfl
theorem zero175 : zeroCs Try.prog 175 = some [.d (.o .nilFunc)] := by kernel_rfl
theorem cells176 : Try.prog.cellsOf 176 = 1 := by kernel_rfl
theorem bytes176 : Try.prog.bytesOf 176 = 8 := by kernel_rfl
theorem info176 : (Try.prog.info? 176).isSome = true := by kernel_rfl
theorem zero176 : zeroCs Try.prog 176 = some [.d (.o (.map none))] := by kernel_rfl
theorem cells177 : Try.prog.cellsOf 177 = 1 := by kernel_rfl
theorem bytes177 : Try.prog.bytesOf 177 = 8 := by kernel_rfl
theorem info177 : (Try.prog.info? 177).isSome = true := by kernel_rfl
theorem zero177 : zeroCs Try.prog 177 = some [.d (.o .nilFunc)] := by kernel_rfl
theorem cells178 : Try.prog.cellsOf 178 = 1 := by kernel_rfl
theorem bytes178 : Try.prog.bytesOf 178 = 8 := by kernel_rfl
theorem info178 : (Try.prog.info? 178).isSome = true := by kernel_rfl
theorem zero178 : zeroCs Try.prog 178 = some [.d (.o .nilFunc)] := by kernel_rfl
theorem cells179 : Try.prog.cellsOf 179 = 1 := by kernel_rfl
theorem bytes179 : Try.prog.bytesOf 179 = 8 := by kernel_rfl
theorem info179 : (Try.prog.info? 179).isSome = true := by kernel_rfl
theorem zero179 : zeroCs Try.prog 179 = some [.d (.o .nilFunc)] := by kernel_rfl
theorem cells180 : Try.prog.cellsOf 180 = 1 := by kernel_rfl
theorem bytes180 : Try.prog.bytesOf 180 = 8 := by kernel_rfl
theorem info180 : (Try.prog.info? 180).isSome = true := by kernel_rfl
theorem zero180 : zeroCs Try.prog 180 = some [.d (.o .nilFunc)] := by kernel_rfl
theorem cells182 : Try.prog.cellsOf 182 = 1 := by kernel_rfl
theorem bytes182 : Try.prog.bytesOf 182 = 8 := by kernel_rfl
theorem info182 : (Try.prog.info? 182).isSome = true := by kernel_rfl
theorem zero182 : zeroCs Try.prog 182 = some [.d (.o .nilFunc)] := by kernel_rfl
theorem cells183 : Try.prog.cellsOf 183 = 1 := by kernel_rfl
theorem bytes183 : Try.prog.bytesOf 183 = 8 := by kernel_rfl
theorem info183 : (Try.prog.info? 183).isSome = true := by kernel_rfl
theorem zero183 : zeroCs Try.prog 183 = some [.d (.o .nilFunc)] := by kernel_rfl
theorem cells184 : Try.prog.cellsOf 184 = 1 := by kernel_rfl
theorem bytes184 : Try.prog.bytesOf 184 = 8 := by kernel_rfl
theorem info184 : (Try.prog.info? 184).isSome = true := by kernel_rfl
theorem zero184 : zeroCs Try.prog 184 = some [.d (.o .nilFunc)] := by kernel_rfl
theorem cells185 : Try.prog.cellsOf 185 = 1 := by kernel_rfl
theorem bytes185 : Try.prog.bytesOf 185 = 8 := by kernel_rfl
theorem info185 : (Try.prog.info? 185).isSome = true := by kernel_rfl
theorem zero185 : zeroCs Try.prog 185 = some [.d (.o .nilFunc)] := by kernel_rfl
theorem cells186 : Try.prog.cellsOf 186 = 1 := by kernel_rfl
theorem bytes186 : Try.prog.bytesOf 186 = 8 := by kernel_rfl
theorem info186 : (Try.prog.info? 186).isSome = true := by kernel_rfl
theorem zero186 : zeroCs Try.prog 186 = some [.d (.o .nilFunc)] := by kernel_rfl
theorem cells187 : Try.prog.cellsOf 187 = 1 := by kernel_rfl
theorem bytes187 : Try.prog.bytesOf 187 = 8 := by kernel_rfl
theorem info187 : (Try.prog.info? 187).isSome = true := by kernel_rfl
theorem zero187 : zeroCs Try.prog 187 = some [.d (.o .nilFunc)] := by kernel_rfl
theorem cells188 : Try.prog.cellsOf 188 = 1 := by kernel_rfl
theorem bytes188 : Try.prog.bytesOf 188 = 8 := by kernel_rfl
theorem info188 : (Try.prog.info? 188).isSome = true := by kernel_rfl
theorem zero188 : zeroCs Try.prog 188 = some [.d (.o .nilFunc)] := by kernel_rfl
theorem cells189 : Try.prog.cellsOf 189 = 1 := by kernel_rfl
theorem bytes189 : Try.prog.bytesOf 189 = 8 := by kernel_rfl
theorem info189 : (Try.prog.info? 189).isSome = true := by kernel_rfl
theorem zero189 : zeroCs Try.prog 189 = some [.d (.o .nilFunc)] := by kernel_rfl
theorem cells190 : Try.prog.cellsOf 190 = 1 := by kernel_rfl
theorem bytes190 : Try.prog.bytesOf 190 = 8 := by kernel_rfl
theorem info190 : (Try.prog.info? 190).isSome = true := by kernel_rfl
theorem zero190 : zeroCs Try.prog 190 = some [.d (.o .nilFunc)] := by kernel_rfl
theorem cells191 : Try.prog.cellsOf 191 = 1 := by kernel_rfl
theorem bytes191 : Try.prog.bytesOf 191 = 8 := by kernel_rfl
theorem info191 : (Try.prog.info? 191).isSome = true := by kernel_rfl
theorem zero191 : zeroCs Try.prog 191 = some [.d (.o .nilFunc)] := by kernel_rfl
theorem cells192 : Try.prog.cellsOf 192 = 1 := by kernel_rfl
theorem bytes192 : Try.prog.bytesOf 192 = 8 := by kernel_rfl
theorem info192 : (Try.prog.info? 192).isSome = true := by kernel_rfl
theorem zero192 : zeroCs Try.prog 192 = some [.d (.o .nilFunc)] := by kernel_rfl
theorem cells193 : Try.prog.cellsOf 193 = 1 := by kernel_rfl
theorem bytes193 : Try.prog.bytesOf 193 = 8 := by kernel_rfl
theorem info193 : (Try.prog.info? 193).isSome = true := by kernel_rfl
theorem zero193 : zeroCs Try.prog 193 = some [.d (.o .nilFunc)] := by kernel_rfl
theorem cells194 : Try.prog.cellsOf 194 = 1 := by kernel_rfl
theorem bytes194 : Try.prog.bytesOf 194 = 8 := by kernel_rfl
theorem info194 : (Try.prog.info? 194).isSome = true := by kernel_rfl
theorem zero194 : zeroCs Try.prog 194 = some [.d (.o .nilFunc)] := by kernel_rfl
theorem cells195 : Try.prog.cellsOf 195 = 1 := by kernel_rfl
theorem bytes195 : Try.prog.bytesOf 195 = 8 := by kernel_rfl
theorem info195 : (Try.prog.info? 195).isSome = true := by kernel_rfl
theorem zero195 : zeroCs Try.prog 195 = some [.d (.o .nilFunc)] := by kernel_rfl
theorem cells196 : Try.prog.cellsOf 196 = 1 := by kernel_rfl
theorem bytes196 : Try.prog.bytesOf 196 = 8 := by kernel_rfl
theorem info196 : (Try.prog.info? 196).isSome = true := by kernel_rfl
theorem zero196 : zeroCs Try.prog 196 = some [.d (.o .nilFunc)] := by kernel_rfl
theorem cells197 : Try.prog.cellsOf 197 = 1 := by kernel_rfl
theorem bytes197 : Try.prog.bytesOf 197 = 8 := by kernel_rfl
theorem info197 : (Try.prog.info? 197).isSome = true := by kernel_rfl
theorem zero197 : zeroCs Try.prog 197 = some [.d (.o .nilFunc)] := by kernel_rfl
theorem cells198 : Try.prog.cellsOf 198 = 1 := by kernel_rfl
theorem bytes198 : Try.prog.bytesOf 198 = 8 := by kernel_rfl
theorem info198 : (Try.prog.info? 198).isSome = true := by kernel_rfl
theorem zero198 : zeroCs Try.prog 198 = some [.d (.o .nilFunc)] := by kernel_rfl
theorem cells199 : Try.prog.cellsOf 199 = 1 := by kernel_rfl
theorem bytes199 : Try.prog.bytesOf 199 = 8 := by kernel_rfl
theorem info199 : (Try.prog.info? 199).isSome = true := by kernel_rfl
theorem zero199 : zeroCs Try.prog 199 = some [.d (.o .nilFunc)] := by kernel_rfl
theorem cells200 : Try.prog.cellsOf 200 = 1 := by kernel_rfl
theorem bytes200 : Try.prog.bytesOf 200 = 8 := by kernel_rfl
theorem info200 : (Try.prog.info? 200).isSome = true := by kernel_rfl
theorem zero200 : zeroCs Try.prog 200 = some [.d (.o .nilFunc)] := by kernel_rfl
theorem cells201 : Try.prog.cellsOf 201 = 1 := by kernel_rfl
theorem bytes201 : Try.prog.bytesOf 201 = 8 := by kernel_rfl
theorem info201 : (Try.prog.info? 201).isSome = true := by kernel_rfl
theorem zero201 : zeroCs Try.prog 201 = some [.d (.o .nilFunc)] := by kernel_rfl
theorem cells202 : Try.prog.cellsOf 202 = 1 := by kernel_rfl
theorem bytes202 : Try.prog.bytesOf 202 = 8 := by kernel_rfl
theorem info202 : (Try.prog.info? 202).isSome = true := by kernel_rfl
theorem zero202 : zeroCs Try.prog 202 = some [.d (.o .nilFunc)] := by kernel_rfl
theorem cells203 : Try.prog.cellsOf 203 = 1 := by kernel_rfl
theorem bytes203 : Try.prog.bytesOf 203 = 8 := by kernel_rfl
theorem info203 : (Try.prog.info? 203).isSome = true := by kernel_rfl
theorem zero203 : zeroCs Try.prog 203 = some [.d (.o .nilFunc)] := by kernel_rfl
theorem cells204 : Try.prog.cellsOf 204 = 1 := by kernel_rfl
theorem bytes204 : Try.prog.bytesOf 204 = 8 := by kernel_rfl
theorem info204 : (Try.prog.info? 204).isSome = true := by kernel_rfl
theorem zero204 : zeroCs Try.prog 204 = some [.d (.o .nilFunc)] := by kernel_rfl
theorem cells205 : Try.prog.cellsOf 205 = 1 := by kernel_rfl
theorem bytes205 : Try.prog.bytesOf 205 = 24 := by kernel_rfl
theorem info205 : (Try.prog.info? 205).isSome = true := by kernel_rfl
theorem zero205 : zeroCs Try.prog 205 = some [.fsl []] := by kernel_rfl
theorem cells206 : Try.prog.cellsOf 206 = 1 := by kernel_rfl
theorem bytes206 : Try.prog.bytesOf 206 = 24 := by kernel_rfl
theorem info206 : (Try.prog.info? 206).isSome = true := by kernel_rfl
theorem zero206 : zeroCs Try.prog 206 = some [.fsl []] := by kernel_rfl
theorem cells207 : Try.prog.cellsOf 207 = 12 := by kernel_rfl
theorem bytes207 : Try.prog.bytesOf 207 = 192 := by kernel_rfl
theorem info207 : (Try.prog.info? 207).isSome = true := by kernel_rfl
theorem zero207 : zeroCs Try.prog 207 = some [.d (.s []), .fsl [], .d (.i .i64 0), .d (.s []), .fsl [], .fsl [], .d (.b false), .d (.b false), .d (.i .i64 0), .d (.s []), .fsl [], .fsl []] := by kernel_rfl
theorem cells208 : Try.prog.cellsOf 208 = 12 := by kernel_rfl
theorem bytes208 : Try.prog.bytesOf 208 = 192 := by kernel_rfl
theorem info208 : (Try.prog.info? 208).isSome = true := by kernel_rfl
theorem zero208 : zeroCs Try.prog 208 = some [.d (.s []), .fsl [], .d (.i .i64 0), .d (.s []), .fsl [], .fsl [], .d (.b false), .d (.b false), .d (.i .i64 0), .d (.s []), .fsl [], .fsl []] := by kernel_rfl
theorem cells209 : Try.prog.cellsOf 209 = 1 := by kernel_rfl
theorem bytes209 : Try.prog.bytesOf 209 = 8 := by kernel_rfl
theorem info209 : (Try.prog.info? 209).isSome = true := by kernel_rfl
theorem zero209 : zeroCs Try.prog 209 = some [.d (.o .nilFunc)] := by kernel_rfl
theorem cells210 : Try.prog.cellsOf 210 = 1 := by kernel_rfl
theorem bytes210 : Try.prog.bytesOf 210 = 24 := by kernel_rfl
theorem info210 : (Try.prog.info? 210).isSome = true := by kernel_rfl
theorem zero210 : zeroCs Try.prog 210 = some [.fsl []] := by kernel_rfl
theorem cells211 : Try.prog.cellsOf 211 = 16 := by kernel_rfl
theorem bytes211 : Try.prog.bytesOf 211 = 280 := by kernel_rfl
theorem info211 : (Try.prog.info? 211).isSome = true := by kernel_rfl
theorem zero211 : zeroCs Try.prog 211 = some [.d (.s []), .fsl [], .fsl [], .fsl [], .d (.i .i64 0), .d (.s []), .fsl [], .d (.i .i64 0), .d (.s []), .d (.s []), .d (.i .i64 0), .d (.i .i64 0), .d (.s []), .fsl [], .fsl [], .fsl []] := by kernel_rfl
theorem cells212 : Try.prog.cellsOf 212 = 16 := by kernel_rfl
theorem bytes212 : Try.prog.bytesOf 212 = 280 := by kernel_rfl
theorem info212 : (Try.prog.info? 212).isSome = true := by kernel_rfl
theorem zero212 : zeroCs Try.prog 212 = some [.d (.s []), .fsl [], .fsl [], .fsl [], .d (.i .i64 0), .d (.s []), .fsl [], .d (.i .i64 0), .d (.s []), .d (.s []), .d (.i .i64 0), .d (.i .i64 0), .d (.s []), .fsl [], .fsl [], .fsl []] := by kernel_rfl
theorem cells213 : Try.prog.cellsOf 213 = 1 := by kernel_rfl
theorem bytes213 : Try.prog.bytesOf 213 = 24 := by kernel_rfl
theorem info213 : (Try.prog.info? 213).isSome = true := by kernel_rfl
theorem zero213 : zeroCs Try.prog 213 = some [.fsl []] := by kernel_rfl
theorem cells214 : Try.prog.cellsOf 214 = 12 := by kernel_rfl
theorem bytes214 : Try.prog.bytesOf 214 = 192 := by kernel_rfl
theorem info214 : (Try.prog.info? 214).isSome = true := by kernel_rfl
theorem zero214 : zeroCs Try.prog 214 = some [.d (.s []), .fsl [], .d (.i .i64 0), .d (.s []), .fsl [], .fsl [], .d (.b false), .d (.b false), .d (.i .i64 0), .d (.s []), .fsl [], .fsl []] := by kernel_rfl
theorem cells215 : Try.prog.cellsOf 215 = 12 := by kernel_rfl
theorem bytes215 : Try.prog.bytesOf 215 = 192 := by kernel_rfl
theorem info215 : (Try.prog.info? 215).isSome = true := by kernel_rfl
theorem zero215 : zeroCs Try.prog 215 = some [.d (.s []), .fsl [], .d (.i .i64 0), .d (.s []), .fsl [], .fsl [], .d (.b false), .d (.b false), .d (.i .i64 0), .d (.s []), .fsl [], .fsl []] := by kernel_rfl
theorem cells216 : Try.prog.cellsOf 216 = 1 := by kernel_rfl
theorem bytes216 : Try.prog.bytesOf 216 = 8 := by kernel_rfl
theorem info216 : (Try.prog.info? 216).isSome = true := by kernel_rfl
theorem zero216 : zeroCs Try.prog 216 = some [.d (.o .nilFunc)] := by kernel_rfl
theorem cells217 : Try.prog.cellsOf 217 = 1 := by kernel_rfl
theorem bytes217 : Try.prog.bytesOf 217 = 8 := by kernel_rfl
theorem info217 : (Try.prog.info? 217).isSome = true := by kernel_rfl
theorem zero217 : zeroCs Try.prog 217 = some [.d (.o .nilFunc)] := by kernel_rfl
theorem cells218 : Try.prog.cellsOf 218 = 1 := by kernel_rfl
theorem bytes218 : Try.prog.bytesOf 218 = 8 := by kernel_rfl
theorem info218 : (Try.prog.info? 218).isSome = true := by kernel_rfl
theorem zero218 : zeroCs Try.prog 218 = some [.d (.o .nilFunc)] := by kernel_rfl
theorem cells219 : Try.prog.cellsOf 219 = 1 := by kernel_rfl
theorem bytes219 : Try.prog.bytesOf 219 = 8 := by kernel_rfl
theorem info219 : (Try.prog.info? 219).isSome = true := by kernel_rfl
theorem zero219 : zeroCs Try.prog 219 = some [.d (.o .nilFunc)] := by kernel_rfl
theorem cells220 : Try.prog.cellsOf 220 = 1 := by kernel_rfl
theorem bytes220 : Try.prog.bytesOf 220 = 8 := by kernel_rfl
theorem info220 : (Try.prog.info? 220).isSome = true := by kernel_rfl
theorem zero220 : zeroCs Try.prog 220 = some [.d (.o .nilFunc)] := by kernel_rfl
theorem cells221 : Try.prog.cellsOf 221 = 1 := by kernel_rfl
theorem bytes221 : Try.prog.bytesOf 221 = 8 := by kernel_rfl
theorem info221 : (Try.prog.info? 221).isSome = true := by kernel_rfl
theorem zero221 : zeroCs Try.prog 221 = some [.d (.o .nilFunc)] := by kernel_rfl
theorem cells222 : Try.prog.cellsOf 222 = 1 := by kernel_rfl
theorem bytes222 : Try.prog.bytesOf 222 = 8 := by kernel_rfl
theorem info222 : (Try.prog.info? 222).isSome = true := by kernel_rfl
theorem zero222 : zeroCs Try.prog 222 = some [.d (.o .nilFunc)] := by kernel_rfl
theorem cells223 : Try.prog.cellsOf 223 = 1 := by kernel_rfl
theorem bytes223 : Try.prog.bytesOf 223 = 8 := by kernel_rfl
theorem info223 : (Try.prog.info? 223).isSome = true := by kernel_rfl
theorem zero223 : zeroCs Try.prog 223 = some [.d (.o .nilFunc)] := by kernel_rfl
theorem cells224 : Try.prog.cellsOf 224 = 1 := by kernel_rfl
theorem bytes224 : Try.prog.bytesOf 224 = 8 := by kernel_rfl
theorem info224 : (Try.prog.info? 224).isSome = true := by kernel_rfl
theorem zero224 : zeroCs Try.prog 224 = some [.d (.o .nilFunc)] := by kernel_rfl
theorem cells225 : Try.prog.cellsOf 225 = 1 := by kernel_rfl
theorem bytes225 : Try.prog.bytesOf 225 = 8 := by kernel_rfl
theorem info225 : (Try.prog.info? 225).isSome = true := by kernel_rfl
theorem zero225 : zeroCs Try.prog 225 = some [.d (.o .nilFunc)] := by kernel_rfl
theorem cells226 : Try.prog.cellsOf 226 = 1 := by kernel_rfl
theorem bytes226 : Try.prog.bytesOf 226 = 8 := by kernel_rfl
theorem info226 : (Try.prog.info? 226).isSome = true := by kernel_rfl
theorem zero226 : zeroCs Try.prog 226 = some [.d (.o .nilFunc)] := by kernel_rfl
theorem cells227 : Try.prog.cellsOf 227 = 1 := by kernel_rfl
theorem bytes227 : Try.prog.bytesOf 227 = 8 := by kernel_rfl
theorem info227 : (Try.prog.info? 227).isSome = true := by kernel_rfl
theorem zero227 : zeroCs Try.prog 227 = some [.d (.o .nilFunc)] := by kernel_rfl
theorem cells228 : Try.prog.cellsOf 228 = 1 := by kernel_rfl
theorem bytes228 : Try.prog.bytesOf 228 = 8 := by kernel_rfl
theorem info228 : (Try.prog.info? 228).isSome = true := by kernel_rfl
theorem zero228 : zeroCs Try.prog 228 = some [.d (.o .nilFunc)] := by kernel_rfl
theorem cells229 : Try.prog.cellsOf 229 = 1 := by kernel_rfl
theorem bytes229 : Try.prog.bytesOf 229 = 8 := by kernel_rfl
theorem info229 : (Try.prog.info? 229).isSome = true := by kernel_rfl
theorem zero229 : zeroCs Try.prog 229 = some [.d (.o .nilFunc)] := by kernel_rfl
theorem cells230 : Try.prog.cellsOf 230 = 1 := by kernel_rfl
theorem bytes230 : Try.prog.bytesOf 230 = 8 := by kernel_rfl
theorem info230 : (Try.prog.info? 230).isSome = true := by kernel_rfl
theorem zero230 : zeroCs Try.prog 230 = some [.d (.o .nilFunc)] := by kernel_rfl
theorem cells231 : Try.prog.cellsOf 231 = 4 := by kernel_rfl
theorem bytes231 : Try.prog.bytesOf 231 = 64 := by kernel_rfl
theorem info231 : (Try.prog.info? 231).isSome = true := by kernel_rfl
theorem zero231 : zeroCs Try.prog 231 = some [.d (.s []), .d (.i .i64 0), .d (.s []), .fsl []] := by kernel_rfl
theorem cells232 : Try.prog.cellsOf 232 = 4 := by kernel_rfl
theorem bytes232 : Try.prog.bytesOf 232 = 64 := by kernel_rfl
theorem info232 : (Try.prog.info? 232).isSome = true := by kernel_rfl
theorem zero232 : zeroCs Try.prog 232 = some [.d (.s []), .d (.i .i64 0), .d (.s []), .fsl []] := by kernel_rfl
theorem cells233 : Try.prog.cellsOf 233 = 1 := by kernel_rfl
theorem bytes233 : Try.prog.bytesOf 233 = 8 := by kernel_rfl
theorem info233 : (Try.prog.info? 233).isSome = true := by kernel_rfl
theorem zero233 : zeroCs Try.prog 233 = some [.d (.o .nilFunc)] := by kernel_rfl
theorem cells234 : Try.prog.cellsOf 234 = 11 := by kernel_rfl
theorem bytes234 : Try.prog.bytesOf 234 = 184 := by kernel_rfl
theorem info234 : (Try.prog.info? 234).isSome = true := by kernel_rfl
theorem zero234 : zeroCs Try.prog 234 = some [.d (.s []), .fsl [], .d (.i .i64 0), .d (.s []), .d (.s []), .d (.i .i64 0), .d (.i .i64 0), .d (.s []), .fsl [], .fsl [], .fsl []] := by kernel_rfl
theorem cells235 : Try.prog.cellsOf 235 = 11 := by kernel_rfl
theorem bytes235 : Try.prog.bytesOf 235 = 184 := by kernel_rfl
theorem info235 : (Try.prog.info? 235).isSome = true := by kernel_rfl
theorem zero235 : zeroCs Try.prog 235 = some [.d (.s []), .fsl [], .d (.i .i64 0), .d (.s []), .d (.s []), .d (.i .i64 0), .d (.i .i64 0), .d (.s []), .fsl [], .fsl [], .fsl []] := by kernel_rfl
theorem cells236 : Try.prog.cellsOf 236 = 1 := by kernel_rfl
theorem bytes236 : Try.prog.bytesOf 236 = 8 := by kernel_rfl
theorem info236 : (Try.prog.info? 236).isSome = true := by kernel_rfl
theorem zero236 : zeroCs Try.prog 236 = some [.d (.o .nilFunc)] := by kernel_rfl
theorem cells237 : Try.prog.cellsOf 237 = 4 := by kernel_rfl
theorem bytes237 : Try.prog.bytesOf 237 = 64 := by kernel_rfl
theorem info237 : (Try.prog.info? 237).isSome = true := by kernel_rfl
theorem zero237 : zeroCs Try.prog 237 = some [.d (.s []), .d (.i .i64 0), .d (.s []), .fsl []] := by kernel_rfl
theorem cells238 : Try.prog.cellsOf 238 = 4 := by kernel_rfl
theorem bytes238 : Try.prog.bytesOf 238 = 64 := by kernel_rfl
theorem info238 : (Try.prog.info? 238).isSome = true := by kernel_rfl
theorem zero238 : zeroCs Try.prog 238 = some [.d (.s []), .d (.i .i64 0), .d (.s []), .fsl []] := by kernel_rfl
theorem cells239 : Try.prog.cellsOf 239 = 4 := by kernel_rfl
theorem bytes239 : Try.prog.bytesOf 239 = 64 := by kernel_rfl
theorem info239 : (Try.prog.info? 239).isSome = true := by kernel_rfl
theorem zero239 : zeroCs Try.prog 239 = some [.d (.s []), .d (.i .i64 0), .d (.s []), .fsl []] := by kernel_rfl
theorem cells240 : Try.prog.cellsOf 240 = 4 := by kernel_rfl
theorem bytes240 : Try.prog.bytesOf 240 = 64 := by kernel_rfl
theorem info240 : (Try.prog.info? 240).isSome = true := by kernel_rfl
theorem zero240 : zeroCs Try.prog 240 = some [.d (.s []), .d (.i .i64 0), .d (.s []), .fsl []] := by kernel_rfl
theorem cells241 : Try.prog.cellsOf 241 = 1 := by kernel_rfl
theorem bytes241 : Try.prog.bytesOf 241 = 8 := by kernel_rfl
theorem info241 : (Try.prog.info? 241).isSome = true := by kernel_rfl
theorem zero241 : zeroCs Try.prog 241 = some [.d (.o .nilFunc)] := by kernel_rfl
theorem cells242 : Try.prog.cellsOf 242 = 11 := by kernel_rfl
theorem bytes242 : Try.prog.bytesOf 242 = 184 := by kernel_rfl
theorem info242 : (Try.prog.info? 242).isSome = true := by kernel_rfl
theorem zero242 : zeroCs Try.prog 242 = some [.d (.s []), .fsl [], .d (.i .i64 0), .d (.s []), .d (.s []), .d (.i .i64 0), .d (.i .i64 0), .d (.s []), .fsl [], .fsl [], .fsl []] := by kernel_rfl
theorem cells243 : Try.prog.cellsOf 243 = 11 := by kernel_rfl
theorem bytes243 : Try.prog.bytesOf 243 = 184 := by kernel_rfl
theorem info243 : (Try.prog.info? 243).isSome = true := by kernel_rfl
theorem zero243 : zeroCs Try.prog 243 = some [.d (.s []), .fsl [], .d (.i .i64 0), .d (.s []), .d (.s []), .d (.i .i64 0), .d (.i .i64 0), .d (.s []), .fsl [], .fsl [], .fsl []] := by kernel_rfl
theorem cells244 : Try.prog.cellsOf 244 = 1 := by kernel_rfl
theorem bytes244 : Try.prog.bytesOf 244 = 8 := by kernel_rfl
theorem info244 : (Try.prog.info? 244).isSome = true := by kernel_rfl
theorem zero244 : zeroCs Try.prog 244 = some [.d (.o .nilFunc)] := by kernel_rfl
theorem cells245 : Try.prog.cellsOf 245 = 4 := by kernel_rfl
theorem bytes245 : Try.prog.bytesOf 245 = 64 := by kernel_rfl
theorem info245 : (Try.prog.info? 245).isSome = true := by kernel_rfl
theorem zero245 : zeroCs Try.prog 245 = some [.d (.s []), .d (.i .i64 0), .d (.s []), .fsl []] := by kernel_rfl
theorem cells246 : Try.prog.cellsOf 246 = 4 := by kernel_rfl
theorem bytes246 : Try.prog.bytesOf 246 = 64 := by kernel_rfl
theorem info246 : (Try.prog.info? 246).isSome = true := by kernel_rfl
theorem zero246 : zeroCs Try.prog 246 = some [.d (.s []), .d (.i .i64 0), .d (.s []), .fsl []] := by kernel_rfl
theorem cells247 : Try.prog.cellsOf 247 = 1 := by kernel_rfl
theorem bytes247 : Try.prog.bytesOf 247 = 8 := by kernel_rfl
theorem info247 : (Try.prog.info? 247).isSome = true := by kernel_rfl
theorem zero247 : zeroCs Try.prog 247 = some [.d (.o .nilFunc)] := by kernel_rfl
theorem cells248 : Try.prog.cellsOf 248 = 1 := by kernel_rfl
theorem bytes248 : Try.prog.bytesOf 248 = 8 := by kernel_rfl
theorem info248 : (Try.prog.info? 248).isSome = true := by kernel_rfl
theorem zero248 : zeroCs Try.prog 248 = some [.d (.o .nilFunc)] := by kernel_rfl
theorem cells249 : Try.prog.cellsOf 249 = 1 := by kernel_rfl
theorem bytes249 : Try.prog.bytesOf 249 = 8 := by kernel_rfl
theorem info249 : (Try.prog.info? 249).isSome = true := by kernel_rfl
theorem zero249 : zeroCs Try.prog 249 = some [.d (.o .nilFunc)] := by kernel_rfl
theorem cells250 : Try.prog.cellsOf 250 = 1 := by kernel_rfl
theorem bytes250 : Try.prog.bytesOf 250 = 8 := by kernel_rfl
theorem info250 : (Try.prog.info? 250).isSome = true := by kernel_rfl
theorem zero250 : zeroCs Try.prog 250 = some [.d (.o .nilFunc)] := by kernel_rfl
theorem cells251 : Try.prog.cellsOf 251 = 1 := by kernel_rfl
theorem bytes251 : Try.prog.bytesOf 251 = 8 := by kernel_rfl
theorem info251 : (Try.prog.info? 251).isSome = true := by kernel_rfl
theorem zero251 : zeroCs Try.prog 251 = some [.d (.o .nilFunc)] := by kernel_rfl
theorem cells252 : Try.prog.cellsOf 252 = 1 := by kernel_rfl
theorem bytes252 : Try.prog.bytesOf 252 = 8 := by kernel_rfl
theorem info252 : (Try.prog.info? 252).isSome = true := by kernel_rfl
theorem zero252 : zeroCs Try.prog 252 = some [.d (.o .nilFunc)] := by kernel_rfl
theorem cells253 : Try.prog.cellsOf 253 = 1 := by kernel_rfl
theorem bytes253 : Try.prog.bytesOf 253 = 8 := by kernel_rfl
theorem info253 : (Try.prog.info? 253).isSome = true := by kernel_rfl
theorem zero253 : zeroCs Try.prog 253 = some [.d (.i .u64 0)] := by kernel_rfl
theorem cells254 : Try.prog.cellsOf 254 = 1 := by kernel_rfl
theorem bytes254 : Try.prog.bytesOf 254 = 4 := by kernel_rfl
theorem info254 : (Try.prog.info? 254).isSome = true := by kernel_rfl
theorem zero254 : zeroCs Try.prog 254 = some [.d (.i .u32 0)] := by kernel_rfl
theorem cells256 : Try.prog.cellsOf 256 = 1 := by kernel_rfl
theorem bytes256 : Try.prog.bytesOf 256 = 8 := by kernel_rfl
theorem info256 : (Try.prog.info? 256).isSome = true := by kernel_rfl
theorem zero256 : zeroCs Try.prog 256 = some [.d (.o .nilFunc)] := by kernel_rfl
theorem cells257 : Try.prog.cellsOf 257 = 1 := by kernel_rfl
theorem bytes257 : Try.prog.bytesOf 257 = 8 := by kernel_rfl
theorem info257 : (Try.prog.info? 257).isSome = true := by kernel_rfl
theorem zero257 : zeroCs Try.prog 257 = some [.d (.o .nilFunc)] := by kernel_rfl
theorem cells263 : Try.prog.cellsOf 263 = 1 := by kernel_rfl
theorem bytes263 : Try.prog.bytesOf 263 = 8 := by kernel_rfl
theorem info263 : (Try.prog.info? 263).isSome = true := by kernel_rfl
theorem zero263 : zeroCs Try.prog 263 = some [.d (.o .nilFunc)] := by kernel_rfl
theorem cells267 : Try.prog.cellsOf 267 = 1 := by kernel_rfl
theorem bytes267 : Try.prog.bytesOf 267 = 8 := by kernel_rfl
theorem info267 : (Try.prog.info? 267).isSome = true := by kernel_rfl
theorem zero267 : zeroCs Try.prog 267 = some [.d (.o (.pointer none))] := by kernel_rfl
theorem cells272 : Try.prog.cellsOf 272 = 1 := by kernel_rfl
theorem bytes272 : Try.prog.bytesOf 272 = 8 := by kernel_rfl
theorem info272 : (Try.prog.info? 272).isSome = true := by kernel_rfl
theorem zero272 : zeroCs Try.prog 272 = some [.d (.o .nilFunc)] := by kernel_rfl
theorem cells273 : Try.prog.cellsOf 273 = 1 := by kernel_rfl
theorem bytes273 : Try.prog.bytesOf 273 = 8 := by kernel_rfl
theorem info273 : (Try.prog.info? 273).isSome = true := by kernel_rfl
theorem zero273 : zeroCs Try.prog 273 = some [.d (.o .nilFunc)] := by kernel_rfl
theorem cells274 : Try.prog.cellsOf 274 = 1 := by kernel_rfl
theorem bytes274 : Try.prog.bytesOf 274 = 8 := by kernel_rfl
theorem info274 : (Try.prog.info? 274).isSome = true := by kernel_rfl
theorem zero274 : zeroCs Try.prog 274 = some [.d (.o .nilFunc)] := by kernel_rfl
theorem cells275 : Try.prog.cellsOf 275 = 1 := by kernel_rfl
theorem bytes275 : Try.prog.bytesOf 275 = 8 := by kernel_rfl
theorem info275 : (Try.prog.info? 275).isSome = true := by kernel_rfl
theorem zero275 : zeroCs Try.prog 275 = some [.d (.o .nilFunc)] := by kernel_rfl
theorem laidOut : laidOutB Try.prog = true := by kernel_rfl
theorem own : ownKnob Try.prog.godebug = none := by kernel_rfl
attribute [go_sem] cells1 bytes1 info1 zero1 Try.underlying1 cells2 bytes2 info2 zero2 Try.underlying2 cells3 bytes3 info3 zero3 Try.underlying3 cells4 bytes4 info4 zero4 Try.underlying4 zval4 cells5 bytes5 info5 zero5 Try.underlying5 cells9 bytes9 info9 zero9 Try.underlying9 cells12 bytes12 info12 zero12 Try.underlying12 cells20 bytes20 info20 zero20 Try.underlying20 cells21 bytes21 info21 zero21 Try.underlying21 cells22 bytes22 info22 zero22 Try.underlying22 cells23 bytes23 info23 zero23 Try.underlying23 cells24 bytes24 info24 zero24 Try.underlying24 cells25 bytes25 info25 zero25 Try.underlying25 cells26 bytes26 info26 zero26 Try.underlying26 cells27 bytes27 info27 zero27 Try.underlying27 cells28 bytes28 info28 zero28 Try.underlying28 cells29 bytes29 info29 zero29 Try.underlying29 cells30 bytes30 info30 zero30 Try.underlying30 cells31 bytes31 info31 zero31 Try.underlying31 cells32 bytes32 info32 zero32 Try.underlying32 cells33 bytes33 info33 zero33 Try.underlying33 cells34 bytes34 info34 zero34 Try.underlying34 cells35 bytes35 info35 zero35 Try.underlying35 cells36 bytes36 info36 zero36 Try.underlying36 cells37 bytes37 info37 zero37 Try.underlying37 cells38 bytes38 info38 zero38 Try.underlying38 cells39 bytes39 info39 zero39 Try.underlying39 cells40 bytes40 info40 zero40 Try.underlying40 cells41 bytes41 info41 zero41 Try.underlying41 cells42 bytes42 info42 zero42 Try.underlying42 cells43 bytes43 info43 zero43 Try.underlying43 cells44 bytes44 info44 zero44 Try.underlying44 cells45 bytes45 info45 zero45 Try.underlying45 cells46 bytes46 info46 zero46 Try.underlying46 cells47 bytes47 info47 zero47 Try.underlying47 cells48 bytes48 info48 zero48 Try.underlying48 cells49 bytes49 info49 zero49 Try.underlying49 cells50 bytes50 info50 zero50 Try.underlying50 cells51 bytes51 info51 zero51 Try.underlying51 cells52 bytes52 info52 zero52 Try.underlying52 cells53 bytes53 info53 zero53 Try.underlying53 cells54 bytes54 info54 zero54 Try.underlying54 cells55 bytes55 info55 zero55 Try.underlying55 cells56 bytes56 info56 zero56 Try.underlying56 cells57 bytes57 info57 zero57 Try.underlying57 cells58 bytes58 info58 zero58 Try.underlying58 cells59 bytes59 info59 zero59 Try.underlying59 cells60 bytes60 info60 zero60 Try.underlying60 cells61 bytes61 info61 zero61 Try.underlying61 cells62 bytes62 info62 zero62 Try.underlying62 cells63 bytes63 info63 zero63 Try.underlying63 cells64 bytes64 info64 zero64 Try.underlying64 cells65 bytes65 info65 zero65 Try.underlying65 cells66 bytes66 info66 zero66 Try.underlying66 cells67 bytes67 info67 zero67 Try.underlying67 cells68 bytes68 info68 zero68 Try.underlying68 cells69 bytes69 info69 zero69 Try.underlying69 cells70 bytes70 info70 zero70 Try.underlying70 cells71 bytes71 info71 zero71 Try.underlying71 cells72 bytes72 info72 zero72 Try.underlying72 cells73 bytes73 info73 zero73 Try.underlying73 cells74 bytes74 info74 zero74 Try.underlying74 cells75 bytes75 info75 zero75 Try.underlying75 cells76 bytes76 info76 zero76 Try.underlying76 cells77 bytes77 info77 zero77 Try.underlying77 cells78 bytes78 info78 zero78 Try.underlying78 cells79 bytes79 info79 zero79 Try.underlying79 cells80 bytes80 info80 zero80 Try.underlying80 cells81 bytes81 info81 zero81 Try.underlying81 cells82 bytes82 info82 zero82 Try.underlying82 cells83 bytes83 info83 zero83 Try.underlying83 cells84 bytes84 info84 zero84 Try.underlying84 cells85 bytes85 info85 zero85 Try.underlying85 cells86 bytes86 info86 zero86 Try.underlying86 cells87 bytes87 info87 zero87 Try.underlying87 cells88 bytes88 info88 zero88 Try.underlying88 cells89 bytes89 info89 zero89 Try.underlying89 cells90 bytes90 info90 zero90 Try.underlying90 cells91 bytes91 info91 zero91 Try.underlying91 cells92 bytes92 info92 zero92 Try.underlying92 cells93 bytes93 info93 zero93 Try.underlying93 cells94 bytes94 info94 zero94 Try.underlying94 cells95 bytes95 info95 zero95 Try.underlying95 cells96 bytes96 info96 zero96 Try.underlying96 cells97 bytes97 info97 zero97 Try.underlying97 cells98 bytes98 info98 zero98 Try.underlying98 cells99 bytes99 info99 zero99 Try.underlying99 cells100 bytes100 info100 zero100 Try.underlying100 cells101 bytes101 info101 zero101 Try.underlying101 cells102 bytes102 info102 zero102 Try.underlying102 cells103 bytes103 info103 zero103 Try.underlying103 cells104 bytes104 info104 zero104 Try.underlying104 cells105 bytes105 info105 zero105 Try.underlying105 cells106 bytes106 info106 zero106 Try.underlying106 cells107 bytes107 info107 zero107 Try.underlying107 cells108 bytes108 info108 zero108 Try.underlying108 cells109 bytes109 info109 zero109 Try.underlying109 cells110 bytes110 info110 zero110 Try.underlying110 cells111 bytes111 info111 zero111 Try.underlying111 cells112 bytes112 info112 zero112 Try.underlying112 cells113 bytes113 info113 zero113 Try.underlying113 cells114 bytes114 info114 zero114 Try.underlying114 cells115 bytes115 info115 zero115 Try.underlying115 cells116 bytes116 info116 zero116 Try.underlying116 cells117 bytes117 info117 zero117 Try.underlying117 cells118 bytes118 info118 zero118 Try.underlying118 cells119 bytes119 info119 zero119 Try.underlying119 cells120 bytes120 info120 zero120 Try.underlying120 cells121 bytes121 info121 zero121 Try.underlying121 cells122 bytes122 info122 zero122 Try.underlying122 cells123 bytes123 info123 zero123 Try.underlying123 cells124 bytes124 info124 zero124 Try.underlying124 cells126 bytes126 info126 zero126 Try.underlying126 cells127 bytes127 info127 zero127 Try.underlying127 cells128 bytes128 info128 zero128 Try.underlying128 cells129 bytes129 info129 zero129 Try.underlying129 cells130 bytes130 info130 zero130 Try.underlying130 cells131 bytes131 info131 zero131 Try.underlying131 cells132 bytes132 info132 zero132 Try.underlying132 cells133 bytes133 info133 zero133 Try.underlying133 cells134 bytes134 info134 zero134 Try.underlying134 cells135 bytes135 info135 zero135 Try.underlying135 cells136 bytes136 info136 zero136 Try.underlying136 cells137 bytes137 info137 zero137 Try.underlying137 cells138 bytes138 info138 zero138 Try.underlying138 cells139 bytes139 info139 zero139 Try.underlying139 cells140 bytes140 info140 zero140 Try.underlying140 cells141 bytes141 info141 zero141 Try.underlying141 cells142 bytes142 info142 zero142 Try.underlying142 cells143 bytes143 info143 zero143 Try.underlying143 cells144 bytes144 info144 zero144 Try.underlying144 cells145 bytes145 info145 zero145 Try.underlying145 cells146 bytes146 info146 zero146 Try.underlying146 cells147 bytes147 info147 zero147 Try.underlying147 cells148 bytes148 info148 zero148 Try.underlying148 cells149 bytes149 info149 zero149 Try.underlying149 cells150 bytes150 info150 zero150 Try.underlying150 cells151 bytes151 info151 zero151 Try.underlying151 cells152 bytes152 info152 zero152 Try.underlying152 cells153 bytes153 info153 zero153 Try.underlying153 cells155 bytes155 info155 zero155 Try.underlying155 cells156 bytes156 info156 zero156 Try.underlying156 cells157 bytes157 info157 zero157 Try.underlying157 cells158 bytes158 info158 zero158 Try.underlying158 cells159 bytes159 info159 zero159 Try.underlying159 cells160 bytes160 info160 zero160 Try.underlying160 cells161 bytes161 info161 zero161 Try.underlying161 cells162 bytes162 info162 zero162 Try.underlying162 cells163 bytes163 info163 zero163 Try.underlying163 cells164 bytes164 info164 zero164 Try.underlying164 cells165 bytes165 info165 zero165 Try.underlying165 cells166 bytes166 info166 zero166 Try.underlying166 cells167 bytes167 info167 zero167 Try.underlying167 cells168 bytes168 info168 zero168 Try.underlying168 cells169 bytes169 info169 zero169 Try.underlying169 cells170 bytes170 info170 zero170 Try.underlying170 cells171 bytes171 info171 zero171 Try.underlying171 cells172 bytes172 info172 zero172 Try.underlying172 cells173 bytes173 info173 zero173 Try.underlying173 cells174 bytes174 info174 zero174 Try.underlying174 cells175 bytes175 info175 zero175 Try.underlying175 cells176 bytes176 info176 zero176 Try.underlying176 cells177 bytes177 info177 zero177 Try.underlying177 cells178 bytes178 info178 zero178 Try.underlying178 cells179 bytes179 info179 zero179 Try.underlying179 cells180 bytes180 info180 zero180 Try.underlying180 cells182 bytes182 info182 zero182 Try.underlying182 cells183 bytes183 info183 zero183 Try.underlying183 cells184 bytes184 info184 zero184 Try.underlying184 cells185 bytes185 info185 zero185 Try.underlying185 cells186 bytes186 info186 zero186 Try.underlying186 cells187 bytes187 info187 zero187 Try.underlying187 cells188 bytes188 info188 zero188 Try.underlying188 cells189 bytes189 info189 zero189 Try.underlying189 cells190 bytes190 info190 zero190 Try.underlying190 cells191 bytes191 info191 zero191 Try.underlying191 cells192 bytes192 info192 zero192 Try.underlying192 cells193 bytes193 info193 zero193 Try.underlying193 cells194 bytes194 info194 zero194 Try.underlying194 cells195 bytes195 info195 zero195 Try.underlying195 cells196 bytes196 info196 zero196 Try.underlying196 cells197 bytes197 info197 zero197 Try.underlying197 cells198 bytes198 info198 zero198 Try.underlying198 cells199 bytes199 info199 zero199 Try.underlying199 cells200 bytes200 info200 zero200 Try.underlying200 cells201 bytes201 info201 zero201 Try.underlying201 cells202 bytes202 info202 zero202 Try.underlying202 cells203 bytes203 info203 zero203 Try.underlying203 cells204 bytes204 info204 zero204 Try.underlying204 cells205 bytes205 info205 zero205 Try.underlying205 cells206 bytes206 info206 zero206 Try.underlying206 cells207 bytes207 info207 zero207 Try.underlying207 cells208 bytes208 info208 zero208 Try.underlying208 cells209 bytes209 info209 zero209 Try.underlying209 cells210 bytes210 info210 zero210 Try.underlying210 cells211 bytes211 info211 zero211 Try.underlying211 cells212 bytes212 info212 zero212 Try.underlying212 cells213 bytes213 info213 zero213 Try.underlying213 cells214 bytes214 info214 zero214 Try.underlying214 cells215 bytes215 info215 zero215 Try.underlying215 cells216 bytes216 info216 zero216 Try.underlying216 cells217 bytes217 info217 zero217 Try.underlying217 cells218 bytes218 info218 zero218 Try.underlying218 cells219 bytes219 info219 zero219 Try.underlying219 cells220 bytes220 info220 zero220 Try.underlying220 cells221 bytes221 info221 zero221 Try.underlying221 cells222 bytes222 info222 zero222 Try.underlying222 cells223 bytes223 info223 zero223 Try.underlying223 cells224 bytes224 info224 zero224 Try.underlying224 cells225 bytes225 info225 zero225 Try.underlying225 cells226 bytes226 info226 zero226 Try.underlying226 cells227 bytes227 info227 zero227 Try.underlying227 cells228 bytes228 info228 zero228 Try.underlying228 cells229 bytes229 info229 zero229 Try.underlying229 cells230 bytes230 info230 zero230 Try.underlying230 cells231 bytes231 info231 zero231 Try.underlying231 cells232 bytes232 info232 zero232 Try.underlying232 cells233 bytes233 info233 zero233 Try.underlying233 cells234 bytes234 info234 zero234 Try.underlying234 cells235 bytes235 info235 zero235 Try.underlying235 cells236 bytes236 info236 zero236 Try.underlying236 cells237 bytes237 info237 zero237 Try.underlying237 cells238 bytes238 info238 zero238 Try.underlying238 cells239 bytes239 info239 zero239 Try.underlying239 cells240 bytes240 info240 zero240 Try.underlying240 cells241 bytes241 info241 zero241 Try.underlying241 cells242 bytes242 info242 zero242 Try.underlying242 cells243 bytes243 info243 zero243 Try.underlying243 cells244 bytes244 info244 zero244 Try.underlying244 cells245 bytes245 info245 zero245 Try.underlying245 cells246 bytes246 info246 zero246 Try.underlying246 cells247 bytes247 info247 zero247 Try.underlying247 cells248 bytes248 info248 zero248 Try.underlying248 cells249 bytes249 info249 zero249 Try.underlying249 cells250 bytes250 info250 zero250 Try.underlying250 cells251 bytes251 info251 zero251 Try.underlying251 cells252 bytes252 info252 zero252 Try.underlying252 cells253 bytes253 info253 zero253 Try.underlying253 cells254 bytes254 info254 zero254 Try.underlying254 cells256 bytes256 info256 zero256 Try.underlying256 cells257 bytes257 info257 zero257 Try.underlying257 cells263 bytes263 info263 zero263 Try.underlying263 cells267 bytes267 info267 zero267 Try.underlying267 cells272 bytes272 info272 zero272 Try.underlying272 cells273 bytes273 info273 zero273 Try.underlying273 cells274 bytes274 info274 zero274 Try.underlying274 cells275 bytes275 info275 zero275 Try.underlying275
end Go.Proofs.Ytjfhgcnoielpfaa.Fa
