/-
  FACTS ON THE TYPES OF THIS SEAT: how many cells and bytes each takes, and its zero value. Printed by program; Lean checks each.
-/
import Derived.Test.YtfgadmhdfiljkaaAbW
import Derived.Test.YtfgadmhdfiljkaaChecked
import Derived.Eval
import Derived.KernelRfl
set_option linter.unusedSimpArgs false
namespace Go.Proofs.Ytfgadmhdfiljkaa.Fa
open Go Go.Ab
theorem cells1 : Try.prog.cellsOf 1 = 1 := by kernel_rfl
theorem bytes1 : Try.prog.bytesOf 1 = 8 := by kernel_rfl
theorem info1 : (Try.prog.info? 1).isSome = true := by kernel_rfl
theorem zero1 : zeroCs Try.prog 1 = some [.d (.o .nilFunc)] := by kernel_rfl
theorem cells2 : Try.prog.cellsOf 2 = 1 := by kernel_rfl
theorem bytes2 : Try.prog.bytesOf 2 = 8 := by kernel_rfl
theorem info2 : (Try.prog.info? 2).isSome = true := by kernel_rfl
theorem zero2 : zeroCs Try.prog 2 = some [.d (.i .i64 0)] := by kernel_rfl
theorem cells3 : Try.prog.cellsOf 3 = 1 := by kernel_rfl
theorem bytes3 : Try.prog.bytesOf 3 = 8 := by kernel_rfl
theorem info3 : (Try.prog.info? 3).isSome = true := by kernel_rfl
theorem zero3 : zeroCs Try.prog 3 = some [.d (.i .i64 0)] := by kernel_rfl
theorem cells4 : Try.prog.cellsOf 4 = 1 := by kernel_rfl
theorem bytes4 : Try.prog.bytesOf 4 = 1 := by kernel_rfl
theorem info4 : (Try.prog.info? 4).isSome = true := by kernel_rfl
theorem zero4 : zeroCs Try.prog 4 = some [.d (.b false)] := by kernel_rfl
theorem cells5 : Try.prog.cellsOf 5 = 1 := by kernel_rfl
theorem bytes5 : Try.prog.bytesOf 5 = 1 := by kernel_rfl
theorem info5 : (Try.prog.info? 5).isSome = true := by kernel_rfl
theorem zero5 : zeroCs Try.prog 5 = some [.d (.i .u8 0)] := by kernel_rfl
theorem cells9 : Try.prog.cellsOf 9 = 1 := by kernel_rfl
theorem bytes9 : Try.prog.bytesOf 9 = 16 := by kernel_rfl
theorem info9 : (Try.prog.info? 9).isSome = true := by kernel_rfl
theorem zero9 : zeroCs Try.prog 9 = some [.d (.s [])] := by kernel_rfl
theorem cells12 : Try.prog.cellsOf 12 = 1 := by kernel_rfl
theorem bytes12 : Try.prog.bytesOf 12 = 8 := by kernel_rfl
theorem info12 : (Try.prog.info? 12).isSome = true := by kernel_rfl
theorem zero12 : zeroCs Try.prog 12 = some [.d (.i .u64 0)] := by kernel_rfl
theorem cells20 : Try.prog.cellsOf 20 = 1 := by kernel_rfl
theorem bytes20 : Try.prog.bytesOf 20 = 16 := by kernel_rfl
theorem info20 : (Try.prog.info? 20).isSome = true := by kernel_rfl
theorem zero20 : zeroCs Try.prog 20 = some [.d (.o .nilIface)] := by kernel_rfl
theorem cells21 : Try.prog.cellsOf 21 = 1 := by kernel_rfl
theorem bytes21 : Try.prog.bytesOf 21 = 4 := by kernel_rfl
theorem info21 : (Try.prog.info? 21).isSome = true := by kernel_rfl
theorem zero21 : zeroCs Try.prog 21 = some [.d (.i .i32 0)] := by kernel_rfl
theorem cells22 : Try.prog.cellsOf 22 = 1 := by kernel_rfl
theorem bytes22 : Try.prog.bytesOf 22 = 8 := by kernel_rfl
theorem info22 : (Try.prog.info? 22).isSome = true := by kernel_rfl
theorem zero22 : zeroCs Try.prog 22 = some [.d (.o .nilFunc)] := by kernel_rfl
theorem cells23 : Try.prog.cellsOf 23 = 1 := by kernel_rfl
theorem bytes23 : Try.prog.bytesOf 23 = 8 := by kernel_rfl
theorem info23 : (Try.prog.info? 23).isSome = true := by kernel_rfl
theorem zero23 : zeroCs Try.prog 23 = some [.d (.o .nilFunc)] := by kernel_rfl
theorem cells24 : Try.prog.cellsOf 24 = 1 := by kernel_rfl
theorem bytes24 : Try.prog.bytesOf 24 = 24 := by kernel_rfl
theorem info24 : (Try.prog.info? 24).isSome = true := by kernel_rfl
theorem zero24 : zeroCs Try.prog 24 = some [.fsl []] := by kernel_rfl
theorem cells25 : Try.prog.cellsOf 25 = 3 := by kernel_rfl
theorem bytes25 : Try.prog.bytesOf 25 = 48 := by kernel_rfl
theorem info25 : (Try.prog.info? 25).isSome = true := by kernel_rfl
theorem zero25 : zeroCs Try.prog 25 = some [.d (.i .i64 0), .d (.s []), .fsl []] := by kernel_rfl
theorem cells26 : Try.prog.cellsOf 26 = 3 := by kernel_rfl
theorem bytes26 : Try.prog.bytesOf 26 = 48 := by kernel_rfl
theorem info26 : (Try.prog.info? 26).isSome = true := by kernel_rfl
theorem zero26 : zeroCs Try.prog 26 = some [.d (.i .i64 0), .d (.s []), .fsl []] := by kernel_rfl
theorem cells27 : Try.prog.cellsOf 27 = 1 := by kernel_rfl
theorem bytes27 : Try.prog.bytesOf 27 = 8 := by kernel_rfl
theorem info27 : (Try.prog.info? 27).isSome = true := by kernel_rfl
theorem zero27 : zeroCs Try.prog 27 = some [.d (.o .nilFunc)] := by kernel_rfl
theorem cells28 : Try.prog.cellsOf 28 = 1 := by kernel_rfl
theorem bytes28 : Try.prog.bytesOf 28 = 8 := by kernel_rfl
theorem info28 : (Try.prog.info? 28).isSome = true := by kernel_rfl
theorem zero28 : zeroCs Try.prog 28 = some [.d (.o .nilFunc)] := by kernel_rfl
theorem cells29 : Try.prog.cellsOf 29 = 1 := by kernel_rfl
theorem bytes29 : Try.prog.bytesOf 29 = 24 := by kernel_rfl
theorem info29 : (Try.prog.info? 29).isSome = true := by kernel_rfl
theorem zero29 : zeroCs Try.prog 29 = some [.fsl []] := by kernel_rfl
theorem cells30 : Try.prog.cellsOf 30 = 3 := by kernel_rfl
theorem bytes30 : Try.prog.bytesOf 30 = 48 := by kernel_rfl
theorem info30 : (Try.prog.info? 30).isSome = true := by kernel_rfl
theorem zero30 : zeroCs Try.prog 30 = some [.d (.i .i64 0), .d (.s []), .fsl []] := by kernel_rfl
theorem cells31 : Try.prog.cellsOf 31 = 3 := by kernel_rfl
theorem bytes31 : Try.prog.bytesOf 31 = 48 := by kernel_rfl
theorem info31 : (Try.prog.info? 31).isSome = true := by kernel_rfl
theorem zero31 : zeroCs Try.prog 31 = some [.d (.i .i64 0), .d (.s []), .fsl []] := by kernel_rfl
theorem cells32 : Try.prog.cellsOf 32 = 1 := by kernel_rfl
theorem bytes32 : Try.prog.bytesOf 32 = 8 := by kernel_rfl
theorem info32 : (Try.prog.info? 32).isSome = true := by kernel_rfl
theorem zero32 : zeroCs Try.prog 32 = some [.d (.o .nilFunc)] := by kernel_rfl
theorem cells33 : Try.prog.cellsOf 33 = 1 := by kernel_rfl
theorem bytes33 : Try.prog.bytesOf 33 = 8 := by kernel_rfl
theorem info33 : (Try.prog.info? 33).isSome = true := by kernel_rfl
theorem zero33 : zeroCs Try.prog 33 = some [.d (.o .nilFunc)] := by kernel_rfl
theorem cells34 : Try.prog.cellsOf 34 = 4 := by kernel_rfl
theorem bytes34 : Try.prog.bytesOf 34 = 64 := by kernel_rfl
theorem info34 : (Try.prog.info? 34).isSome = true := by kernel_rfl
theorem zero34 : zeroCs Try.prog 34 = some [.d (.s []), .d (.i .i64 0), .d (.s []), .fsl []] := by kernel_rfl
theorem cells35 : Try.prog.cellsOf 35 = 4 := by kernel_rfl
theorem bytes35 : Try.prog.bytesOf 35 = 64 := by kernel_rfl
theorem info35 : (Try.prog.info? 35).isSome = true := by kernel_rfl
theorem zero35 : zeroCs Try.prog 35 = some [.d (.s []), .d (.i .i64 0), .d (.s []), .fsl []] := by kernel_rfl
theorem cells36 : Try.prog.cellsOf 36 = 1 := by kernel_rfl
theorem bytes36 : Try.prog.bytesOf 36 = 8 := by kernel_rfl
theorem info36 : (Try.prog.info? 36).isSome = true := by kernel_rfl
theorem zero36 : zeroCs Try.prog 36 = some [.d (.o .nilFunc)] := by kernel_rfl
theorem cells37 : Try.prog.cellsOf 37 = 1 := by kernel_rfl
theorem bytes37 : Try.prog.bytesOf 37 = 8 := by kernel_rfl
theorem info37 : (Try.prog.info? 37).isSome = true := by kernel_rfl
theorem zero37 : zeroCs Try.prog 37 = some [.d (.o .nilFunc)] := by kernel_rfl
theorem cells38 : Try.prog.cellsOf 38 = 4 := by kernel_rfl
theorem bytes38 : Try.prog.bytesOf 38 = 64 := by kernel_rfl
theorem info38 : (Try.prog.info? 38).isSome = true := by kernel_rfl
theorem zero38 : zeroCs Try.prog 38 = some [.d (.s []), .d (.i .i64 0), .d (.s []), .fsl []] := by kernel_rfl
theorem cells39 : Try.prog.cellsOf 39 = 4 := by kernel_rfl
theorem bytes39 : Try.prog.bytesOf 39 = 64 := by kernel_rfl
theorem info39 : (Try.prog.info? 39).isSome = true := by kernel_rfl
theorem zero39 : zeroCs Try.prog 39 = some [.d (.s []), .d (.i .i64 0), .d (.s []), .fsl []] := by kernel_rfl
theorem cells40 : Try.prog.cellsOf 40 = 1 := by kernel_rfl
theorem bytes40 : Try.prog.bytesOf 40 = 8 := by kernel_rfl
theorem info40 : (Try.prog.info? 40).isSome = true := by kernel_rfl
theorem zero40 : zeroCs Try.prog 40 = some [.d (.o .nilFunc)] := by kernel_rfl
theorem cells41 : Try.prog.cellsOf 41 = 1 := by kernel_rfl
theorem bytes41 : Try.prog.bytesOf 41 = 8 := by kernel_rfl
theorem info41 : (Try.prog.info? 41).isSome = true := by kernel_rfl
theorem zero41 : zeroCs Try.prog 41 = some [.d (.o .nilFunc)] := by kernel_rfl
theorem cells42 : Try.prog.cellsOf 42 = 1 := by kernel_rfl
theorem bytes42 : Try.prog.bytesOf 42 = 8 := by kernel_rfl
theorem info42 : (Try.prog.info? 42).isSome = true := by kernel_rfl
theorem zero42 : zeroCs Try.prog 42 = some [.d (.o .nilFunc)] := by kernel_rfl
theorem cells43 : Try.prog.cellsOf 43 = 1 := by kernel_rfl
theorem bytes43 : Try.prog.bytesOf 43 = 24 := by kernel_rfl
theorem info43 : (Try.prog.info? 43).isSome = true := by kernel_rfl
theorem zero43 : zeroCs Try.prog 43 = some [.fsl []] := by kernel_rfl
theorem cells44 : Try.prog.cellsOf 44 = 1 := by kernel_rfl
theorem bytes44 : Try.prog.bytesOf 44 = 24 := by kernel_rfl
theorem info44 : (Try.prog.info? 44).isSome = true := by kernel_rfl
theorem zero44 : zeroCs Try.prog 44 = some [.fsl []] := by kernel_rfl
theorem cells45 : Try.prog.cellsOf 45 = 9 := by kernel_rfl
theorem bytes45 : Try.prog.bytesOf 45 = 144 := by kernel_rfl
theorem info45 : (Try.prog.info? 45).isSome = true := by kernel_rfl
theorem zero45 : zeroCs Try.prog 45 = some [.d (.i .i64 0), .d (.s []), .d (.s []), .d (.i .i64 0), .d (.i .i64 0), .d (.s []), .fsl [], .fsl [], .fsl []] := by kernel_rfl
theorem cells46 : Try.prog.cellsOf 46 = 9 := by kernel_rfl
theorem bytes46 : Try.prog.bytesOf 46 = 144 := by kernel_rfl
theorem info46 : (Try.prog.info? 46).isSome = true := by kernel_rfl
theorem zero46 : zeroCs Try.prog 46 = some [.d (.i .i64 0), .d (.s []), .d (.s []), .d (.i .i64 0), .d (.i .i64 0), .d (.s []), .fsl [], .fsl [], .fsl []] := by kernel_rfl
theorem cells47 : Try.prog.cellsOf 47 = 1 := by kernel_rfl
theorem bytes47 : Try.prog.bytesOf 47 = 8 := by kernel_rfl
theorem info47 : (Try.prog.info? 47).isSome = true := by kernel_rfl
theorem zero47 : zeroCs Try.prog 47 = some [.d (.o .nilFunc)] := by kernel_rfl
theorem cells48 : Try.prog.cellsOf 48 = 1 := by kernel_rfl
theorem bytes48 : Try.prog.bytesOf 48 = 8 := by kernel_rfl
theorem info48 : (Try.prog.info? 48).isSome = true := by kernel_rfl
theorem zero48 : zeroCs Try.prog 48 = some [.d (.o .nilFunc)] := by kernel_rfl
theorem cells49 : Try.prog.cellsOf 49 = 1 := by kernel_rfl
theorem bytes49 : Try.prog.bytesOf 49 = 24 := by kernel_rfl
theorem info49 : (Try.prog.info? 49).isSome = true := by kernel_rfl
theorem zero49 : zeroCs Try.prog 49 = some [.fsl []] := by kernel_rfl
theorem cells50 : Try.prog.cellsOf 50 = 1 := by kernel_rfl
theorem bytes50 : Try.prog.bytesOf 50 = 24 := by kernel_rfl
theorem info50 : (Try.prog.info? 50).isSome = true := by kernel_rfl
theorem zero50 : zeroCs Try.prog 50 = some [.fsl []] := by kernel_rfl
theorem cells51 : Try.prog.cellsOf 51 = 9 := by kernel_rfl
theorem bytes51 : Try.prog.bytesOf 51 = 144 := by kernel_rfl
theorem info51 : (Try.prog.info? 51).isSome = true := by kernel_rfl
theorem zero51 : zeroCs Try.prog 51 = some [.d (.i .i64 0), .d (.s []), .d (.s []), .d (.i .i64 0), .d (.i .i64 0), .d (.s []), .fsl [], .fsl [], .fsl []] := by kernel_rfl
theorem cells52 : Try.prog.cellsOf 52 = 9 := by kernel_rfl
theorem bytes52 : Try.prog.bytesOf 52 = 144 := by kernel_rfl
theorem info52 : (Try.prog.info? 52).isSome = true := by kernel_rfl
theorem zero52 : zeroCs Try.prog 52 = some [.d (.i .i64 0), .d (.s []), .d (.s []), .d (.i .i64 0), .d (.i .i64 0), .d (.s []), .fsl [], .fsl [], .fsl []] := by kernel_rfl
theorem cells53 : Try.prog.cellsOf 53 = 1 := by kernel_rfl
theorem bytes53 : Try.prog.bytesOf 53 = 8 := by kernel_rfl
theorem info53 : (Try.prog.info? 53).isSome = true := by kernel_rfl
theorem zero53 : zeroCs Try.prog 53 = some [.d (.o .nilFunc)] := by kernel_rfl
theorem cells54 : Try.prog.cellsOf 54 = 1 := by kernel_rfl
theorem bytes54 : Try.prog.bytesOf 54 = 8 := by kernel_rfl
theorem info54 : (Try.prog.info? 54).isSome = true := by kernel_rfl
theorem zero54 : zeroCs Try.prog 54 = some [.d (.o .nilFunc)] := by kernel_rfl
theorem cells55 : Try.prog.cellsOf 55 = 1 := by kernel_rfl
theorem bytes55 : Try.prog.bytesOf 55 = 8 := by kernel_rfl
theorem info55 : (Try.prog.info? 55).isSome = true := by kernel_rfl
theorem zero55 : zeroCs Try.prog 55 = some [.d (.o .nilFunc)] := by kernel_rfl
theorem cells56 : Try.prog.cellsOf 56 = 1 := by kernel_rfl
theorem bytes56 : Try.prog.bytesOf 56 = 24 := by kernel_rfl
theorem info56 : (Try.prog.info? 56).isSome = true := by kernel_rfl
theorem zero56 : zeroCs Try.prog 56 = some [.fsl []] := by kernel_rfl
theorem cells57 : Try.prog.cellsOf 57 = 1 := by kernel_rfl
theorem bytes57 : Try.prog.bytesOf 57 = 8 := by kernel_rfl
theorem info57 : (Try.prog.info? 57).isSome = true := by kernel_rfl
theorem zero57 : zeroCs Try.prog 57 = some [.d (.o .nilFunc)] := by kernel_rfl
theorem cells59 : Try.prog.cellsOf 59 = 1 := by kernel_rfl
theorem bytes59 : Try.prog.bytesOf 59 = 8 := by kernel_rfl
theorem info59 : (Try.prog.info? 59).isSome = true := by kernel_rfl
theorem zero59 : zeroCs Try.prog 59 = some [.d (.o .nilFunc)] := by kernel_rfl
theorem cells60 : Try.prog.cellsOf 60 = 1 := by kernel_rfl
theorem bytes60 : Try.prog.bytesOf 60 = 8 := by kernel_rfl
theorem info60 : (Try.prog.info? 60).isSome = true := by kernel_rfl
theorem zero60 : zeroCs Try.prog 60 = some [.d (.o .nilFunc)] := by kernel_rfl
theorem cells61 : Try.prog.cellsOf 61 = 1 := by kernel_rfl
theorem bytes61 : Try.prog.bytesOf 61 = 8 := by kernel_rfl
theorem info61 : (Try.prog.info? 61).isSome = true := by kernel_rfl
theorem zero61 : zeroCs Try.prog 61 = some [.d (.o .nilFunc)] := by kernel_rfl
theorem cells62 : Try.prog.cellsOf 62 = 1 := by kernel_rfl
theorem bytes62 : Try.prog.bytesOf 62 = 8 := by kernel_rfl
theorem info62 : (Try.prog.info? 62).isSome = true := by kernel_rfl
theorem zero62 : zeroCs Try.prog 62 = some [.d (.o .nilFunc)] := by kernel_rfl
theorem cells63 : Try.prog.cellsOf 63 = 1 := by kernel_rfl
theorem bytes63 : Try.prog.bytesOf 63 = 24 := by kernel_rfl
theorem info63 : (Try.prog.info? 63).isSome = true := by kernel_rfl
theorem zero63 : zeroCs Try.prog 63 = some [.fsl []] := by kernel_rfl
theorem cells64 : Try.prog.cellsOf 64 = 1 := by kernel_rfl
theorem bytes64 : Try.prog.bytesOf 64 = 8 := by kernel_rfl
theorem info64 : (Try.prog.info? 64).isSome = true := by kernel_rfl
theorem zero64 : zeroCs Try.prog 64 = some [.d (.o .nilFunc)] := by kernel_rfl
theorem cells65 : Try.prog.cellsOf 65 = 1 := by kernel_rfl
theorem bytes65 : Try.prog.bytesOf 65 = 8 := by kernel_rfl
theorem info65 : (Try.prog.info? 65).isSome = true := by kernel_rfl
theorem zero65 : zeroCs Try.prog 65 = some [.d (.o .nilFunc)] := by kernel_rfl
theorem cells66 : Try.prog.cellsOf 66 = 1 := by kernel_rfl
theorem bytes66 : Try.prog.bytesOf 66 = 8 := by kernel_rfl
theorem info66 : (Try.prog.info? 66).isSome = true := by kernel_rfl
theorem zero66 : zeroCs Try.prog 66 = some [.d (.o .nilFunc)] := by kernel_rfl
theorem cells67 : Try.prog.cellsOf 67 = 1 := by kernel_rfl
theorem bytes67 : Try.prog.bytesOf 67 = 8 := by kernel_rfl
theorem info67 : (Try.prog.info? 67).isSome = true := by kernel_rfl
theorem zero67 : zeroCs Try.prog 67 = some [.d (.o .nilFunc)] := by kernel_rfl
theorem cells68 : Try.prog.cellsOf 68 = 1 := by kernel_rfl
theorem bytes68 : Try.prog.bytesOf 68 = 8 := by kernel_rfl
theorem info68 : (Try.prog.info? 68).isSome = true := by kernel_rfl
theorem zero68 : zeroCs Try.prog 68 = some [.d (.o .nilFunc)] := by kernel_rfl
theorem cells69 : Try.prog.cellsOf 69 = 1 := by kernel_rfl
theorem bytes69 : Try.prog.bytesOf 69 = 8 := by kernel_rfl
theorem info69 : (Try.prog.info? 69).isSome = true := by kernel_rfl
theorem zero69 : zeroCs Try.prog 69 = some [.d (.o .nilFunc)] := by kernel_rfl
theorem cells70 : Try.prog.cellsOf 70 = 1 := by kernel_rfl
theorem bytes70 : Try.prog.bytesOf 70 = 8 := by kernel_rfl
theorem info70 : (Try.prog.info? 70).isSome = true := by kernel_rfl
theorem zero70 : zeroCs Try.prog 70 = some [.d (.o .nilFunc)] := by kernel_rfl
theorem cells71 : Try.prog.cellsOf 71 = 1 := by kernel_rfl
theorem bytes71 : Try.prog.bytesOf 71 = 8 := by kernel_rfl
theorem info71 : (Try.prog.info? 71).isSome = true := by kernel_rfl
theorem zero71 : zeroCs Try.prog 71 = some [.d (.o .nilFunc)] := by kernel_rfl
theorem cells72 : Try.prog.cellsOf 72 = 11 := by kernel_rfl
theorem bytes72 : Try.prog.bytesOf 72 = 184 := by kernel_rfl
theorem info72 : (Try.prog.info? 72).isSome = true := by kernel_rfl
theorem zero72 : zeroCs Try.prog 72 = some [.d (.s []), .fsl [], .d (.i .i64 0), .d (.s []), .d (.s []), .d (.i .i64 0), .d (.i .i64 0), .d (.s []), .fsl [], .fsl [], .fsl []] := by kernel_rfl
theorem cells73 : Try.prog.cellsOf 73 = 11 := by kernel_rfl
theorem bytes73 : Try.prog.bytesOf 73 = 184 := by kernel_rfl
theorem info73 : (Try.prog.info? 73).isSome = true := by kernel_rfl
theorem zero73 : zeroCs Try.prog 73 = some [.d (.s []), .fsl [], .d (.i .i64 0), .d (.s []), .d (.s []), .d (.i .i64 0), .d (.i .i64 0), .d (.s []), .fsl [], .fsl [], .fsl []] := by kernel_rfl
theorem cells74 : Try.prog.cellsOf 74 = 1 := by kernel_rfl
theorem bytes74 : Try.prog.bytesOf 74 = 8 := by kernel_rfl
theorem info74 : (Try.prog.info? 74).isSome = true := by kernel_rfl
theorem zero74 : zeroCs Try.prog 74 = some [.d (.o .nilFunc)] := by kernel_rfl
theorem cells75 : Try.prog.cellsOf 75 = 1 := by kernel_rfl
theorem bytes75 : Try.prog.bytesOf 75 = 8 := by kernel_rfl
theorem info75 : (Try.prog.info? 75).isSome = true := by kernel_rfl
theorem zero75 : zeroCs Try.prog 75 = some [.d (.o .nilFunc)] := by kernel_rfl
theorem cells76 : Try.prog.cellsOf 76 = 1 := by kernel_rfl
theorem bytes76 : Try.prog.bytesOf 76 = 8 := by kernel_rfl
theorem info76 : (Try.prog.info? 76).isSome = true := by kernel_rfl
theorem zero76 : zeroCs Try.prog 76 = some [.d (.o .nilFunc)] := by kernel_rfl
theorem cells77 : Try.prog.cellsOf 77 = 1 := by kernel_rfl
theorem bytes77 : Try.prog.bytesOf 77 = 8 := by kernel_rfl
theorem info77 : (Try.prog.info? 77).isSome = true := by kernel_rfl
theorem zero77 : zeroCs Try.prog 77 = some [.d (.o .nilFunc)] := by kernel_rfl
theorem cells78 : Try.prog.cellsOf 78 = 1 := by kernel_rfl
theorem bytes78 : Try.prog.bytesOf 78 = 8 := by kernel_rfl
theorem info78 : (Try.prog.info? 78).isSome = true := by kernel_rfl
theorem zero78 : zeroCs Try.prog 78 = some [.d (.o .nilFunc)] := by kernel_rfl
theorem cells79 : Try.prog.cellsOf 79 = 1 := by kernel_rfl
theorem bytes79 : Try.prog.bytesOf 79 = 8 := by kernel_rfl
theorem info79 : (Try.prog.info? 79).isSome = true := by kernel_rfl
theorem zero79 : zeroCs Try.prog 79 = some [.d (.o .nilFunc)] := by kernel_rfl
theorem cells80 : Try.prog.cellsOf 80 = 1 := by kernel_rfl
theorem bytes80 : Try.prog.bytesOf 80 = 8 := by kernel_rfl
theorem info80 : (Try.prog.info? 80).isSome = true := by kernel_rfl
theorem zero80 : zeroCs Try.prog 80 = some [.d (.o .nilFunc)] := by kernel_rfl
theorem cells81 : Try.prog.cellsOf 81 = 1 := by kernel_rfl
theorem bytes81 : Try.prog.bytesOf 81 = 8 := by kernel_rfl
theorem info81 : (Try.prog.info? 81).isSome = true := by kernel_rfl
theorem zero81 : zeroCs Try.prog 81 = some [.d (.o .nilFunc)] := by kernel_rfl
theorem cells82 : Try.prog.cellsOf 82 = 1 := by kernel_rfl
theorem bytes82 : Try.prog.bytesOf 82 = 24 := by kernel_rfl
theorem info82 : (Try.prog.info? 82).isSome = true := by kernel_rfl
theorem zero82 : zeroCs Try.prog 82 = some [.fsl []] := by kernel_rfl
theorem cells84 : Try.prog.cellsOf 84 = 1 := by kernel_rfl
theorem bytes84 : Try.prog.bytesOf 84 = 8 := by kernel_rfl
theorem info84 : (Try.prog.info? 84).isSome = true := by kernel_rfl
theorem zero84 : zeroCs Try.prog 84 = some [.d (.o .nilFunc)] := by kernel_rfl
theorem cells85 : Try.prog.cellsOf 85 = 1 := by kernel_rfl
theorem bytes85 : Try.prog.bytesOf 85 = 8 := by kernel_rfl
theorem info85 : (Try.prog.info? 85).isSome = true := by kernel_rfl
theorem zero85 : zeroCs Try.prog 85 = some [.d (.o .nilFunc)] := by kernel_rfl
theorem cells86 : Try.prog.cellsOf 86 = 1 := by kernel_rfl
theorem bytes86 : Try.prog.bytesOf 86 = 8 := by kernel_rfl
theorem info86 : (Try.prog.info? 86).isSome = true := by kernel_rfl
theorem zero86 : zeroCs Try.prog 86 = some [.d (.o .nilFunc)] := by kernel_rfl
theorem cells87 : Try.prog.cellsOf 87 = 1 := by kernel_rfl
theorem bytes87 : Try.prog.bytesOf 87 = 8 := by kernel_rfl
theorem info87 : (Try.prog.info? 87).isSome = true := by kernel_rfl
theorem zero87 : zeroCs Try.prog 87 = some [.d (.o .nilFunc)] := by kernel_rfl
theorem cells88 : Try.prog.cellsOf 88 = 1 := by kernel_rfl
theorem bytes88 : Try.prog.bytesOf 88 = 8 := by kernel_rfl
theorem info88 : (Try.prog.info? 88).isSome = true := by kernel_rfl
theorem zero88 : zeroCs Try.prog 88 = some [.d (.o .nilFunc)] := by kernel_rfl
theorem cells89 : Try.prog.cellsOf 89 = 11 := by kernel_rfl
theorem bytes89 : Try.prog.bytesOf 89 = 184 := by kernel_rfl
theorem info89 : (Try.prog.info? 89).isSome = true := by kernel_rfl
theorem zero89 : zeroCs Try.prog 89 = some [.d (.s []), .fsl [], .d (.i .i64 0), .d (.s []), .d (.s []), .d (.i .i64 0), .d (.i .i64 0), .d (.s []), .fsl [], .fsl [], .fsl []] := by kernel_rfl
theorem cells90 : Try.prog.cellsOf 90 = 11 := by kernel_rfl
theorem bytes90 : Try.prog.bytesOf 90 = 184 := by kernel_rfl
theorem info90 : (Try.prog.info? 90).isSome = true := by kernel_rfl
theorem zero90 : zeroCs Try.prog 90 = some [.d (.s []), .fsl [], .d (.i .i64 0), .d (.s []), .d (.s []), .d (.i .i64 0), .d (.i .i64 0), .d (.s []), .fsl [], .fsl [], .fsl []] := by kernel_rfl
theorem cells91 : Try.prog.cellsOf 91 = 1 := by kernel_rfl
theorem bytes91 : Try.prog.bytesOf 91 = 8 := by kernel_rfl
theorem info91 : (Try.prog.info? 91).isSome = true := by kernel_rfl
theorem zero91 : zeroCs Try.prog 91 = some [.d (.o .nilFunc)] := by kernel_rfl
theorem cells92 : Try.prog.cellsOf 92 = 1 := by kernel_rfl
theorem bytes92 : Try.prog.bytesOf 92 = 8 := by kernel_rfl
theorem info92 : (Try.prog.info? 92).isSome = true := by kernel_rfl
theorem zero92 : zeroCs Try.prog 92 = some [.d (.o .nilFunc)] := by kernel_rfl
theorem cells93 : Try.prog.cellsOf 93 = 1 := by kernel_rfl
theorem bytes93 : Try.prog.bytesOf 93 = 8 := by kernel_rfl
theorem info93 : (Try.prog.info? 93).isSome = true := by kernel_rfl
theorem zero93 : zeroCs Try.prog 93 = some [.d (.o (.pointer none))] := by kernel_rfl
theorem cells94 : Try.prog.cellsOf 94 = 1 := by kernel_rfl
theorem bytes94 : Try.prog.bytesOf 94 = 8 := by kernel_rfl
theorem info94 : (Try.prog.info? 94).isSome = true := by kernel_rfl
theorem zero94 : zeroCs Try.prog 94 = some [.d (.o .nilFunc)] := by kernel_rfl
theorem cells95 : Try.prog.cellsOf 95 = 1 := by kernel_rfl
theorem bytes95 : Try.prog.bytesOf 95 = 8 := by kernel_rfl
theorem info95 : (Try.prog.info? 95).isSome = true := by kernel_rfl
theorem zero95 : zeroCs Try.prog 95 = some [.d (.o .nilFunc)] := by kernel_rfl
theorem cells96 : Try.prog.cellsOf 96 = 1 := by kernel_rfl
theorem bytes96 : Try.prog.bytesOf 96 = 8 := by kernel_rfl
theorem info96 : (Try.prog.info? 96).isSome = true := by kernel_rfl
theorem zero96 : zeroCs Try.prog 96 = some [.d (.o .nilFunc)] := by kernel_rfl
theorem cells97 : Try.prog.cellsOf 97 = 1 := by kernel_rfl
theorem bytes97 : Try.prog.bytesOf 97 = 8 := by kernel_rfl
theorem info97 : (Try.prog.info? 97).isSome = true := by kernel_rfl
theorem zero97 : zeroCs Try.prog 97 = some [.d (.o .nilFunc)] := by kernel_rfl
theorem cells98 : Try.prog.cellsOf 98 = 1 := by kernel_rfl
theorem bytes98 : Try.prog.bytesOf 98 = 8 := by kernel_rfl
theorem info98 : (Try.prog.info? 98).isSome = true := by kernel_rfl
theorem zero98 : zeroCs Try.prog 98 = some [.d (.o .nilFunc)] := by kernel_rfl
theorem cells99 : Try.prog.cellsOf 99 = 1 := by kernel_rfl
theorem bytes99 : Try.prog.bytesOf 99 = 8 := by kernel_rfl
theorem info99 : (Try.prog.info? 99).isSome = true := by kernel_rfl
theorem zero99 : zeroCs Try.prog 99 = some [.d (.o .nilFunc)] := by kernel_rfl
theorem cells100 : Try.prog.cellsOf 100 = 4 := by kernel_rfl
theorem bytes100 : Try.prog.bytesOf 100 = 64 := by kernel_rfl
theorem info100 : (Try.prog.info? 100).isSome = true := by kernel_rfl
theorem zero100 : zeroCs Try.prog 100 = some [.d (.s []), .d (.i .i64 0), .d (.s []), .fsl []] := by kernel_rfl
theorem cells101 : Try.prog.cellsOf 101 = 4 := by kernel_rfl
theorem bytes101 : Try.prog.bytesOf 101 = 64 := by kernel_rfl
theorem info101 : (Try.prog.info? 101).isSome = true := by kernel_rfl
theorem zero101 : zeroCs Try.prog 101 = some [.d (.s []), .d (.i .i64 0), .d (.s []), .fsl []] := by kernel_rfl
theorem cells102 : Try.prog.cellsOf 102 = 1 := by kernel_rfl
theorem bytes102 : Try.prog.bytesOf 102 = 8 := by kernel_rfl
theorem info102 : (Try.prog.info? 102).isSome = true := by kernel_rfl
theorem zero102 : zeroCs Try.prog 102 = some [.d (.o .nilFunc)] := by kernel_rfl
theorem cells103 : Try.prog.cellsOf 103 = 1 := by kernel_rfl
theorem bytes103 : Try.prog.bytesOf 103 = 8 := by kernel_rfl
theorem info103 : (Try.prog.info? 103).isSome = true := by kernel_rfl
theorem zero103 : zeroCs Try.prog 103 = some [.d (.o .nilFunc)] := by kernel_rfl
theorem cells104 : Try.prog.cellsOf 104 = 1 := by kernel_rfl
theorem bytes104 : Try.prog.bytesOf 104 = 8 := by kernel_rfl
theorem info104 : (Try.prog.info? 104).isSome = true := by kernel_rfl
theorem zero104 : zeroCs Try.prog 104 = some [.d (.o .nilFunc)] := by kernel_rfl
theorem cells105 : Try.prog.cellsOf 105 = 1 := by kernel_rfl
theorem bytes105 : Try.prog.bytesOf 105 = 8 := by kernel_rfl
theorem info105 : (Try.prog.info? 105).isSome = true := by kernel_rfl
theorem zero105 : zeroCs Try.prog 105 = some [.d (.o .nilFunc)] := by kernel_rfl
theorem cells106 : Try.prog.cellsOf 106 = 1 := by kernel_rfl
theorem bytes106 : Try.prog.bytesOf 106 = 8 := by kernel_rfl
theorem info106 : (Try.prog.info? 106).isSome = true := by kernel_rfl
theorem zero106 : zeroCs Try.prog 106 = some [.d (.o .nilFunc)] := by kernel_rfl
theorem cells107 : Try.prog.cellsOf 107 = 1 := by kernel_rfl
theorem bytes107 : Try.prog.bytesOf 107 = 8 := by kernel_rfl
theorem info107 : (Try.prog.info? 107).isSome = true := by kernel_rfl
theorem zero107 : zeroCs Try.prog 107 = some [.d (.o .nilFunc)] := by kernel_rfl
theorem cells108 : Try.prog.cellsOf 108 = 1 := by kernel_rfl
theorem bytes108 : Try.prog.bytesOf 108 = 8 := by kernel_rfl
theorem info108 : (Try.prog.info? 108).isSome = true := by kernel_rfl
theorem zero108 : zeroCs Try.prog 108 = some [.d (.o .nilFunc)] := by kernel_rfl
theorem cells109 : Try.prog.cellsOf 109 = 3 := by kernel_rfl
theorem bytes109 : Try.prog.bytesOf 109 = 40 := by kernel_rfl
theorem info109 : (Try.prog.info? 109).isSome = true := by kernel_rfl
theorem zero109 : zeroCs Try.prog 109 = some [.fsl [], .d (.i .i64 0), .d (.i .i64 0)] := by kernel_rfl
theorem cells110 : Try.prog.cellsOf 110 = 3 := by kernel_rfl
theorem bytes110 : Try.prog.bytesOf 110 = 40 := by kernel_rfl
theorem info110 : (Try.prog.info? 110).isSome = true := by kernel_rfl
theorem zero110 : zeroCs Try.prog 110 = some [.fsl [], .d (.i .i64 0), .d (.i .i64 0)] := by kernel_rfl
theorem cells111 : Try.prog.cellsOf 111 = 1 := by kernel_rfl
theorem bytes111 : Try.prog.bytesOf 111 = 8 := by kernel_rfl
theorem info111 : (Try.prog.info? 111).isSome = true := by kernel_rfl
theorem zero111 : zeroCs Try.prog 111 = some [.d (.o .nilFunc)] := by kernel_rfl
theorem cells112 : Try.prog.cellsOf 112 = 1 := by kernel_rfl
theorem bytes112 : Try.prog.bytesOf 112 = 8 := by kernel_rfl
theorem info112 : (Try.prog.info? 112).isSome = true := by kernel_rfl
theorem zero112 : zeroCs Try.prog 112 = some [.d (.o .nilFunc)] := by kernel_rfl
theorem cells113 : Try.prog.cellsOf 113 = 1 := by kernel_rfl
theorem bytes113 : Try.prog.bytesOf 113 = 8 := by kernel_rfl
theorem info113 : (Try.prog.info? 113).isSome = true := by kernel_rfl
theorem zero113 : zeroCs Try.prog 113 = some [.d (.o .nilFunc)] := by kernel_rfl
theorem cells114 : Try.prog.cellsOf 114 = 1 := by kernel_rfl
theorem bytes114 : Try.prog.bytesOf 114 = 8 := by kernel_rfl
theorem info114 : (Try.prog.info? 114).isSome = true := by kernel_rfl
theorem zero114 : zeroCs Try.prog 114 = some [.d (.o .nilFunc)] := by kernel_rfl
theorem cells115 : Try.prog.cellsOf 115 = 1 := by kernel_rfl
theorem bytes115 : Try.prog.bytesOf 115 = 8 := by kernel_rfl
theorem info115 : (Try.prog.info? 115).isSome = true := by kernel_rfl
theorem zero115 : zeroCs Try.prog 115 = some [.d (.o .nilFunc)] := by kernel_rfl
theorem cells117 : Try.prog.cellsOf 117 = 1 := by kernel_rfl
theorem bytes117 : Try.prog.bytesOf 117 = 8 := by kernel_rfl
theorem info117 : (Try.prog.info? 117).isSome = true := by kernel_rfl
theorem zero117 : zeroCs Try.prog 117 = some [.d (.o .nilFunc)] := by kernel_rfl
theorem cells118 : Try.prog.cellsOf 118 = 1 := by kernel_rfl
theorem bytes118 : Try.prog.bytesOf 118 = 8 := by kernel_rfl
theorem info118 : (Try.prog.info? 118).isSome = true := by kernel_rfl
theorem zero118 : zeroCs Try.prog 118 = some [.d (.o .nilFunc)] := by kernel_rfl
theorem cells119 : Try.prog.cellsOf 119 = 1 := by kernel_rfl
theorem bytes119 : Try.prog.bytesOf 119 = 8 := by kernel_rfl
theorem info119 : (Try.prog.info? 119).isSome = true := by kernel_rfl
theorem zero119 : zeroCs Try.prog 119 = some [.d (.o .nilFunc)] := by kernel_rfl
theorem cells120 : Try.prog.cellsOf 120 = 1 := by kernel_rfl
theorem bytes120 : Try.prog.bytesOf 120 = 8 := by kernel_rfl
theorem info120 : (Try.prog.info? 120).isSome = true := by kernel_rfl
theorem zero120 : zeroCs Try.prog 120 = some [.d (.o .nilFunc)] := by kernel_rfl
theorem cells121 : Try.prog.cellsOf 121 = 1 := by kernel_rfl
theorem bytes121 : Try.prog.bytesOf 121 = 8 := by kernel_rfl
theorem info121 : (Try.prog.info? 121).isSome = true := by kernel_rfl
theorem zero121 : zeroCs Try.prog 121 = some [.d (.o .nilFunc)] := by kernel_rfl
theorem cells122 : Try.prog.cellsOf 122 = 1 := by kernel_rfl
theorem bytes122 : Try.prog.bytesOf 122 = 8 := by kernel_rfl
theorem info122 : (Try.prog.info? 122).isSome = true := by kernel_rfl
theorem zero122 : zeroCs Try.prog 122 = some [.d (.o .nilFunc)] := by kernel_rfl
theorem cells123 : Try.prog.cellsOf 123 = 1 := by kernel_rfl
theorem bytes123 : Try.prog.bytesOf 123 = 8 := by kernel_rfl
theorem info123 : (Try.prog.info? 123).isSome = true := by kernel_rfl
theorem zero123 : zeroCs Try.prog 123 = some [.d (.o .nilFunc)] := by kernel_rfl
theorem cells124 : Try.prog.cellsOf 124 = 1 := by kernel_rfl
theorem bytes124 : Try.prog.bytesOf 124 = 8 := by kernel_rfl
theorem info124 : (Try.prog.info? 124).isSome = true := by kernel_rfl
theorem zero124 : zeroCs Try.prog 124 = some [.d (.o .nilFunc)] := by kernel_rfl
theorem cells125 : Try.prog.cellsOf 125 = 1 := by kernel_rfl
theorem bytes125 : Try.prog.bytesOf 125 = 8 := by kernel_rfl
theorem info125 : (Try.prog.info? 125).isSome = true := by kernel_rfl
theorem zero125 : zeroCs Try.prog 125 = some [.d (.o .nilFunc)] := by kernel_rfl
theorem cells126 : Try.prog.cellsOf 126 = 1 := by kernel_rfl
theorem bytes126 : Try.prog.bytesOf 126 = 8 := by kernel_rfl
theorem info126 : (Try.prog.info? 126).isSome = true := by kernel_rfl
theorem zero126 : zeroCs Try.prog 126 = some [.d (.o .nilFunc)] := by kernel_rfl
theorem cells127 : Try.prog.cellsOf 127 = 1 := by kernel_rfl
theorem bytes127 : Try.prog.bytesOf 127 = 8 := by kernel_rfl
theorem info127 : (Try.prog.info? 127).isSome = true := by kernel_rfl
theorem zero127 : zeroCs Try.prog 127 = some [.d (.i .u64 0)] := by kernel_rfl
theorem cells128 : Try.prog.cellsOf 128 = 1 := by kernel_rfl
theorem bytes128 : Try.prog.bytesOf 128 = 8 := by kernel_rfl
theorem info128 : (Try.prog.info? 128).isSome = true := by kernel_rfl
theorem zero128 : zeroCs Try.prog 128 = some [.d (.o .nilFunc)] := by kernel_rfl
theorem cells129 : Try.prog.cellsOf 129 = 1 := by kernel_rfl
theorem bytes129 : Try.prog.bytesOf 129 = 8 := by kernel_rfl
theorem info129 : (Try.prog.info? 129).isSome = true := by kernel_rfl
theorem zero129 : zeroCs Try.prog 129 = some [.d (.o .nilFunc)] := by kernel_rfl
theorem cells130 : Try.prog.cellsOf 130 = 1 := by kernel_rfl
theorem bytes130 : Try.prog.bytesOf 130 = 8 := by kernel_rfl
theorem info130 : (Try.prog.info? 130).isSome = true := by kernel_rfl
theorem zero130 : zeroCs Try.prog 130 = some [.d (.o .nilFunc)] := by kernel_rfl
theorem cells131 : Try.prog.cellsOf 131 = 1 := by kernel_rfl
theorem bytes131 : Try.prog.bytesOf 131 = 8 := by kernel_rfl
theorem info131 : (Try.prog.info? 131).isSome = true := by kernel_rfl
theorem zero131 : zeroCs Try.prog 131 = some [.d (.o .nilFunc)] := by kernel_rfl
theorem cells137 : Try.prog.cellsOf 137 = 1 := by kernel_rfl
theorem bytes137 : Try.prog.bytesOf 137 = 8 := by kernel_rfl
theorem info137 : (Try.prog.info? 137).isSome = true := by kernel_rfl
theorem zero137 : zeroCs Try.prog 137 = some [.d (.o .nilFunc)] := by kernel_rfl
theorem cells138 : Try.prog.cellsOf 138 = 1 := by kernel_rfl
theorem bytes138 : Try.prog.bytesOf 138 = 4 := by kernel_rfl
theorem info138 : (Try.prog.info? 138).isSome = true := by kernel_rfl
theorem zero138 : zeroCs Try.prog 138 = some [.d (.i .u32 0)] := by kernel_rfl
theorem cells142 : Try.prog.cellsOf 142 = 1 := by kernel_rfl
theorem bytes142 : Try.prog.bytesOf 142 = 8 := by kernel_rfl
theorem info142 : (Try.prog.info? 142).isSome = true := by kernel_rfl
theorem zero142 : zeroCs Try.prog 142 = some [.d (.o (.pointer none))] := by kernel_rfl
theorem laidOut : laidOutB Try.prog = true := by kernel_rfl
theorem own : ownKnob Try.prog.godebug = none := by kernel_rfl
attribute [go_sem] cells1 bytes1 info1 zero1 Try.underlying1 cells2 bytes2 info2 zero2 Try.underlying2 cells3 bytes3 info3 zero3 Try.underlying3 cells4 bytes4 info4 zero4 Try.underlying4 cells5 bytes5 info5 zero5 Try.underlying5 cells9 bytes9 info9 zero9 Try.underlying9 cells12 bytes12 info12 zero12 Try.underlying12 cells20 bytes20 info20 zero20 Try.underlying20 cells21 bytes21 info21 zero21 Try.underlying21 cells22 bytes22 info22 zero22 Try.underlying22 cells23 bytes23 info23 zero23 Try.underlying23 cells24 bytes24 info24 zero24 Try.underlying24 cells25 bytes25 info25 zero25 Try.underlying25 cells26 bytes26 info26 zero26 Try.underlying26 cells27 bytes27 info27 zero27 Try.underlying27 cells28 bytes28 info28 zero28 Try.underlying28 cells29 bytes29 info29 zero29 Try.underlying29 cells30 bytes30 info30 zero30 Try.underlying30 cells31 bytes31 info31 zero31 Try.underlying31 cells32 bytes32 info32 zero32 Try.underlying32 cells33 bytes33 info33 zero33 Try.underlying33 cells34 bytes34 info34 zero34 Try.underlying34 cells35 bytes35 info35 zero35 Try.underlying35 cells36 bytes36 info36 zero36 Try.underlying36 cells37 bytes37 info37 zero37 Try.underlying37 cells38 bytes38 info38 zero38 Try.underlying38 cells39 bytes39 info39 zero39 Try.underlying39 cells40 bytes40 info40 zero40 Try.underlying40 cells41 bytes41 info41 zero41 Try.underlying41 cells42 bytes42 info42 zero42 Try.underlying42 cells43 bytes43 info43 zero43 Try.underlying43 cells44 bytes44 info44 zero44 Try.underlying44 cells45 bytes45 info45 zero45 Try.underlying45 cells46 bytes46 info46 zero46 Try.underlying46 cells47 bytes47 info47 zero47 Try.underlying47 cells48 bytes48 info48 zero48 Try.underlying48 cells49 bytes49 info49 zero49 Try.underlying49 cells50 bytes50 info50 zero50 Try.underlying50 cells51 bytes51 info51 zero51 Try.underlying51 cells52 bytes52 info52 zero52 Try.underlying52 cells53 bytes53 info53 zero53 Try.underlying53 cells54 bytes54 info54 zero54 Try.underlying54 cells55 bytes55 info55 zero55 Try.underlying55 cells56 bytes56 info56 zero56 Try.underlying56 cells57 bytes57 info57 zero57 Try.underlying57 cells59 bytes59 info59 zero59 Try.underlying59 cells60 bytes60 info60 zero60 Try.underlying60 cells61 bytes61 info61 zero61 Try.underlying61 cells62 bytes62 info62 zero62 Try.underlying62 cells63 bytes63 info63 zero63 Try.underlying63 cells64 bytes64 info64 zero64 Try.underlying64 cells65 bytes65 info65 zero65 Try.underlying65 cells66 bytes66 info66 zero66 Try.underlying66 cells67 bytes67 info67 zero67 Try.underlying67 cells68 bytes68 info68 zero68 Try.underlying68 cells69 bytes69 info69 zero69 Try.underlying69 cells70 bytes70 info70 zero70 Try.underlying70 cells71 bytes71 info71 zero71 Try.underlying71 cells72 bytes72 info72 zero72 Try.underlying72 cells73 bytes73 info73 zero73 Try.underlying73 cells74 bytes74 info74 zero74 Try.underlying74 cells75 bytes75 info75 zero75 Try.underlying75 cells76 bytes76 info76 zero76 Try.underlying76 cells77 bytes77 info77 zero77 Try.underlying77 cells78 bytes78 info78 zero78 Try.underlying78 cells79 bytes79 info79 zero79 Try.underlying79 cells80 bytes80 info80 zero80 Try.underlying80 cells81 bytes81 info81 zero81 Try.underlying81 cells82 bytes82 info82 zero82 Try.underlying82 cells84 bytes84 info84 zero84 Try.underlying84 cells85 bytes85 info85 zero85 Try.underlying85 cells86 bytes86 info86 zero86 Try.underlying86 cells87 bytes87 info87 zero87 Try.underlying87 cells88 bytes88 info88 zero88 Try.underlying88 cells89 bytes89 info89 zero89 Try.underlying89 cells90 bytes90 info90 zero90 Try.underlying90 cells91 bytes91 info91 zero91 Try.underlying91 cells92 bytes92 info92 zero92 Try.underlying92 cells93 bytes93 info93 zero93 Try.underlying93 cells94 bytes94 info94 zero94 Try.underlying94 cells95 bytes95 info95 zero95 Try.underlying95 cells96 bytes96 info96 zero96 Try.underlying96 cells97 bytes97 info97 zero97 Try.underlying97 cells98 bytes98 info98 zero98 Try.underlying98 cells99 bytes99 info99 zero99 Try.underlying99 cells100 bytes100 info100 zero100 Try.underlying100 cells101 bytes101 info101 zero101 Try.underlying101 cells102 bytes102 info102 zero102 Try.underlying102 cells103 bytes103 info103 zero103 Try.underlying103 cells104 bytes104 info104 zero104 Try.underlying104 cells105 bytes105 info105 zero105 Try.underlying105 cells106 bytes106 info106 zero106 Try.underlying106 cells107 bytes107 info107 zero107 Try.underlying107 cells108 bytes108 info108 zero108 Try.underlying108 cells109 bytes109 info109 zero109 Try.underlying109 cells110 bytes110 info110 zero110 Try.underlying110 cells111 bytes111 info111 zero111 Try.underlying111 cells112 bytes112 info112 zero112 Try.underlying112 cells113 bytes113 info113 zero113 Try.underlying113 cells114 bytes114 info114 zero114 Try.underlying114 cells115 bytes115 info115 zero115 Try.underlying115 cells117 bytes117 info117 zero117 Try.underlying117 cells118 bytes118 info118 zero118 Try.underlying118 cells119 bytes119 info119 zero119 Try.underlying119 cells120 bytes120 info120 zero120 Try.underlying120 cells121 bytes121 info121 zero121 Try.underlying121 cells122 bytes122 info122 zero122 Try.underlying122 cells123 bytes123 info123 zero123 Try.underlying123 cells124 bytes124 info124 zero124 Try.underlying124 cells125 bytes125 info125 zero125 Try.underlying125 cells126 bytes126 info126 zero126 Try.underlying126 cells127 bytes127 info127 zero127 Try.underlying127 cells128 bytes128 info128 zero128 Try.underlying128 cells129 bytes129 info129 zero129 Try.underlying129 cells130 bytes130 info130 zero130 Try.underlying130 cells131 bytes131 info131 zero131 Try.underlying131 cells137 bytes137 info137 zero137 Try.underlying137 cells138 bytes138 info138 zero138 Try.underlying138 cells142 bytes142 info142 zero142 Try.underlying142
end Go.Proofs.Ytfgadmhdfiljkaa.Fa
