/-
  SEVERAL TEXTS IN ONE (merged by program): contracts and models, each with its own heading.
-/
import Derived.Test.YtnleocfkdidhoaaPartChB
import Derived.Test.YtnleocfkdidhoaaChecked
import Derived.Eval
import Derived.KernelRfl
import Derived.WalkKit
import Derived.ProofKit
import Derived.Lib.AppendZeros
import Derived.Laws.Cover3
set_option linter.unusedSimpArgs false
set_option linter.unusedVariables false
set_option maxRecDepth 4000
set_option maxRecDepth 8000
namespace Go.Proofs.Ytnleocfkdidhoaa.Fa
open Go Go.Ab
theorem ty1 : Try.prog.cellsOf 1 = 1 ∧ Try.prog.bytesOf 1 = 8 ∧ (Try.prog.info? 1).isSome = true ∧ zeroCs Try.prog 1 = some [.d (.o .nilFunc)] := ⟨by kernel_rfl, by kernel_rfl, by kernel_rfl, by kernel_rfl⟩
theorem ty2 : Try.prog.cellsOf 2 = 1 ∧ Try.prog.bytesOf 2 = 8 ∧ (Try.prog.info? 2).isSome = true ∧ zeroCs Try.prog 2 = some [.d (.i .i64 0)] := ⟨by kernel_rfl, by kernel_rfl, by kernel_rfl, by kernel_rfl⟩
theorem ty3 : Try.prog.cellsOf 3 = 1 ∧ Try.prog.bytesOf 3 = 8 ∧ (Try.prog.info? 3).isSome = true ∧ zeroCs Try.prog 3 = some [.d (.i .i64 0)] := ⟨by kernel_rfl, by kernel_rfl, by kernel_rfl, by kernel_rfl⟩
theorem ty4 : Try.prog.cellsOf 4 = 1 ∧ Try.prog.bytesOf 4 = 1 ∧ (Try.prog.info? 4).isSome = true ∧ zeroCs Try.prog 4 = some [.d (.b false)] := ⟨by kernel_rfl, by kernel_rfl, by kernel_rfl, by kernel_rfl⟩
theorem zval4 : zeroV Try.prog 4 = some (.bool false) := by kernel_rfl
theorem ty5 : Try.prog.cellsOf 5 = 1 ∧ Try.prog.bytesOf 5 = 1 ∧ (Try.prog.info? 5).isSome = true ∧ zeroCs Try.prog 5 = some [.d (.i .u8 0)] := ⟨by kernel_rfl, by kernel_rfl, by kernel_rfl, by kernel_rfl⟩
theorem ty9 : Try.prog.cellsOf 9 = 1 ∧ Try.prog.bytesOf 9 = 16 ∧ (Try.prog.info? 9).isSome = true ∧ zeroCs Try.prog 9 = some [.d (.s [])] := ⟨by kernel_rfl, by kernel_rfl, by kernel_rfl, by kernel_rfl⟩
theorem ty12 : Try.prog.cellsOf 12 = 1 ∧ Try.prog.bytesOf 12 = 8 ∧ (Try.prog.info? 12).isSome = true ∧ zeroCs Try.prog 12 = some [.d (.i .u64 0)] := ⟨by kernel_rfl, by kernel_rfl, by kernel_rfl, by kernel_rfl⟩
theorem ty20 : Try.prog.cellsOf 20 = 1 ∧ Try.prog.bytesOf 20 = 16 ∧ (Try.prog.info? 20).isSome = true ∧ zeroCs Try.prog 20 = some [.d (.o .nilIface)] := ⟨by kernel_rfl, by kernel_rfl, by kernel_rfl, by kernel_rfl⟩
theorem ty21 : Try.prog.cellsOf 21 = 1 ∧ Try.prog.bytesOf 21 = 4 ∧ (Try.prog.info? 21).isSome = true ∧ zeroCs Try.prog 21 = some [.d (.i .i32 0)] := ⟨by kernel_rfl, by kernel_rfl, by kernel_rfl, by kernel_rfl⟩
theorem ty22 : Try.prog.cellsOf 22 = 1 ∧ Try.prog.bytesOf 22 = 24 ∧ (Try.prog.info? 22).isSome = true ∧ zeroCs Try.prog 22 = some [.fsl []] := ⟨by kernel_rfl, by kernel_rfl, by kernel_rfl, by kernel_rfl⟩
theorem ty23 : Try.prog.cellsOf 23 = 1 ∧ Try.prog.bytesOf 23 = 8 ∧ (Try.prog.info? 23).isSome = true ∧ zeroCs Try.prog 23 = some [.d (.o .nilFunc)] := ⟨by kernel_rfl, by kernel_rfl, by kernel_rfl, by kernel_rfl⟩
theorem ty24 : Try.prog.cellsOf 24 = 1 ∧ Try.prog.bytesOf 24 = 24 ∧ (Try.prog.info? 24).isSome = true ∧ zeroCs Try.prog 24 = some [.fsl []] := ⟨by kernel_rfl, by kernel_rfl, by kernel_rfl, by kernel_rfl⟩
theorem ty25 : Try.prog.cellsOf 25 = 3 ∧ Try.prog.bytesOf 25 = 48 ∧ (Try.prog.info? 25).isSome = true ∧ zeroCs Try.prog 25 = some [.d (.i .i64 0), .d (.s []), .fsl []] := ⟨by kernel_rfl, by kernel_rfl, by kernel_rfl, by kernel_rfl⟩
theorem ty26 : Try.prog.cellsOf 26 = 3 ∧ Try.prog.bytesOf 26 = 48 ∧ (Try.prog.info? 26).isSome = true ∧ zeroCs Try.prog 26 = some [.d (.i .i64 0), .d (.s []), .fsl []] := ⟨by kernel_rfl, by kernel_rfl, by kernel_rfl, by kernel_rfl⟩
theorem ty28 : Try.prog.cellsOf 28 = 1 ∧ Try.prog.bytesOf 28 = 8 ∧ (Try.prog.info? 28).isSome = true ∧ zeroCs Try.prog 28 = some [.d (.o .nilFunc)] := ⟨by kernel_rfl, by kernel_rfl, by kernel_rfl, by kernel_rfl⟩
theorem ty29 : Try.prog.cellsOf 29 = 1 ∧ Try.prog.bytesOf 29 = 8 ∧ (Try.prog.info? 29).isSome = true ∧ zeroCs Try.prog 29 = some [.d (.o .nilFunc)] := ⟨by kernel_rfl, by kernel_rfl, by kernel_rfl, by kernel_rfl⟩
theorem ty30 : Try.prog.cellsOf 30 = 1 ∧ Try.prog.bytesOf 30 = 8 ∧ (Try.prog.info? 30).isSome = true ∧ zeroCs Try.prog 30 = some [.d (.o .nilFunc)] := ⟨by kernel_rfl, by kernel_rfl, by kernel_rfl, by kernel_rfl⟩
theorem ty31 : Try.prog.cellsOf 31 = 1 ∧ Try.prog.bytesOf 31 = 8 ∧ (Try.prog.info? 31).isSome = true ∧ zeroCs Try.prog 31 = some [.d (.o .nilFunc)] := ⟨by kernel_rfl, by kernel_rfl, by kernel_rfl, by kernel_rfl⟩
theorem ty32 : Try.prog.cellsOf 32 = 1 ∧ Try.prog.bytesOf 32 = 8 ∧ (Try.prog.info? 32).isSome = true ∧ zeroCs Try.prog 32 = some [.d (.o .nilFunc)] := ⟨by kernel_rfl, by kernel_rfl, by kernel_rfl, by kernel_rfl⟩
theorem ty33 : Try.prog.cellsOf 33 = 1 ∧ Try.prog.bytesOf 33 = 24 ∧ (Try.prog.info? 33).isSome = true ∧ zeroCs Try.prog 33 = some [.fsl []] := ⟨by kernel_rfl, by kernel_rfl, by kernel_rfl, by kernel_rfl⟩
theorem ty34 : Try.prog.cellsOf 34 = 1 ∧ Try.prog.bytesOf 34 = 8 ∧ (Try.prog.info? 34).isSome = true ∧ zeroCs Try.prog 34 = some [.d (.o .nilFunc)] := ⟨by kernel_rfl, by kernel_rfl, by kernel_rfl, by kernel_rfl⟩
theorem ty35 : Try.prog.cellsOf 35 = 1 ∧ Try.prog.bytesOf 35 = 24 ∧ (Try.prog.info? 35).isSome = true ∧ zeroCs Try.prog 35 = some [.fsl []] := ⟨by kernel_rfl, by kernel_rfl, by kernel_rfl, by kernel_rfl⟩
theorem ty36 : Try.prog.cellsOf 36 = 3 ∧ Try.prog.bytesOf 36 = 48 ∧ (Try.prog.info? 36).isSome = true ∧ zeroCs Try.prog 36 = some [.d (.i .i64 0), .d (.s []), .fsl []] := ⟨by kernel_rfl, by kernel_rfl, by kernel_rfl, by kernel_rfl⟩
theorem ty37 : Try.prog.cellsOf 37 = 3 ∧ Try.prog.bytesOf 37 = 48 ∧ (Try.prog.info? 37).isSome = true ∧ zeroCs Try.prog 37 = some [.d (.i .i64 0), .d (.s []), .fsl []] := ⟨by kernel_rfl, by kernel_rfl, by kernel_rfl, by kernel_rfl⟩
theorem ty38 : Try.prog.cellsOf 38 = 1 ∧ Try.prog.bytesOf 38 = 24 ∧ (Try.prog.info? 38).isSome = true ∧ zeroCs Try.prog 38 = some [.fsl []] := ⟨by kernel_rfl, by kernel_rfl, by kernel_rfl, by kernel_rfl⟩
theorem ty39 : Try.prog.cellsOf 39 = 1 ∧ Try.prog.bytesOf 39 = 24 ∧ (Try.prog.info? 39).isSome = true ∧ zeroCs Try.prog 39 = some [.fsl []] := ⟨by kernel_rfl, by kernel_rfl, by kernel_rfl, by kernel_rfl⟩
theorem ty40 : Try.prog.cellsOf 40 = 9 ∧ Try.prog.bytesOf 40 = 144 ∧ (Try.prog.info? 40).isSome = true ∧ zeroCs Try.prog 40 = some [.d (.i .i64 0), .d (.s []), .d (.s []), .d (.i .i64 0), .d (.i .i64 0), .d (.s []), .fsl [], .fsl [], .fsl []] := ⟨by kernel_rfl, by kernel_rfl, by kernel_rfl, by kernel_rfl⟩
theorem ty41 : Try.prog.cellsOf 41 = 9 ∧ Try.prog.bytesOf 41 = 144 ∧ (Try.prog.info? 41).isSome = true ∧ zeroCs Try.prog 41 = some [.d (.i .i64 0), .d (.s []), .d (.s []), .d (.i .i64 0), .d (.i .i64 0), .d (.s []), .fsl [], .fsl [], .fsl []] := ⟨by kernel_rfl, by kernel_rfl, by kernel_rfl, by kernel_rfl⟩
theorem ty42 : Try.prog.cellsOf 42 = 1 ∧ Try.prog.bytesOf 42 = 8 ∧ (Try.prog.info? 42).isSome = true ∧ zeroCs Try.prog 42 = some [.d (.o .nilFunc)] := ⟨by kernel_rfl, by kernel_rfl, by kernel_rfl, by kernel_rfl⟩
theorem ty43 : Try.prog.cellsOf 43 = 1 ∧ Try.prog.bytesOf 43 = 8 ∧ (Try.prog.info? 43).isSome = true ∧ zeroCs Try.prog 43 = some [.d (.o .nilFunc)] := ⟨by kernel_rfl, by kernel_rfl, by kernel_rfl, by kernel_rfl⟩
theorem ty44 : Try.prog.cellsOf 44 = 1 ∧ Try.prog.bytesOf 44 = 24 ∧ (Try.prog.info? 44).isSome = true ∧ zeroCs Try.prog 44 = some [.fsl []] := ⟨by kernel_rfl, by kernel_rfl, by kernel_rfl, by kernel_rfl⟩
theorem ty45 : Try.prog.cellsOf 45 = 1 ∧ Try.prog.bytesOf 45 = 24 ∧ (Try.prog.info? 45).isSome = true ∧ zeroCs Try.prog 45 = some [.fsl []] := ⟨by kernel_rfl, by kernel_rfl, by kernel_rfl, by kernel_rfl⟩
theorem ty46 : Try.prog.cellsOf 46 = 9 ∧ Try.prog.bytesOf 46 = 144 ∧ (Try.prog.info? 46).isSome = true ∧ zeroCs Try.prog 46 = some [.d (.i .i64 0), .d (.s []), .d (.s []), .d (.i .i64 0), .d (.i .i64 0), .d (.s []), .fsl [], .fsl [], .fsl []] := ⟨by kernel_rfl, by kernel_rfl, by kernel_rfl, by kernel_rfl⟩
theorem ty47 : Try.prog.cellsOf 47 = 9 ∧ Try.prog.bytesOf 47 = 144 ∧ (Try.prog.info? 47).isSome = true ∧ zeroCs Try.prog 47 = some [.d (.i .i64 0), .d (.s []), .d (.s []), .d (.i .i64 0), .d (.i .i64 0), .d (.s []), .fsl [], .fsl [], .fsl []] := ⟨by kernel_rfl, by kernel_rfl, by kernel_rfl, by kernel_rfl⟩
theorem ty48 : Try.prog.cellsOf 48 = 1 ∧ Try.prog.bytesOf 48 = 8 ∧ (Try.prog.info? 48).isSome = true ∧ zeroCs Try.prog 48 = some [.d (.o .nilFunc)] := ⟨by kernel_rfl, by kernel_rfl, by kernel_rfl, by kernel_rfl⟩
theorem ty49 : Try.prog.cellsOf 49 = 1 ∧ Try.prog.bytesOf 49 = 8 ∧ (Try.prog.info? 49).isSome = true ∧ zeroCs Try.prog 49 = some [.d (.o .nilFunc)] := ⟨by kernel_rfl, by kernel_rfl, by kernel_rfl, by kernel_rfl⟩
theorem ty50 : Try.prog.cellsOf 50 = 1 ∧ Try.prog.bytesOf 50 = 8 ∧ (Try.prog.info? 50).isSome = true ∧ zeroCs Try.prog 50 = some [.d (.o .nilFunc)] := ⟨by kernel_rfl, by kernel_rfl, by kernel_rfl, by kernel_rfl⟩
theorem ty51 : Try.prog.cellsOf 51 = 1 ∧ Try.prog.bytesOf 51 = 8 ∧ (Try.prog.info? 51).isSome = true ∧ zeroCs Try.prog 51 = some [.d (.o .nilFunc)] := ⟨by kernel_rfl, by kernel_rfl, by kernel_rfl, by kernel_rfl⟩
theorem ty52 : Try.prog.cellsOf 52 = 1 ∧ Try.prog.bytesOf 52 = 8 ∧ (Try.prog.info? 52).isSome = true ∧ zeroCs Try.prog 52 = some [.d (.o .nilFunc)] := ⟨by kernel_rfl, by kernel_rfl, by kernel_rfl, by kernel_rfl⟩
theorem ty53 : Try.prog.cellsOf 53 = 1 ∧ Try.prog.bytesOf 53 = 8 ∧ (Try.prog.info? 53).isSome = true ∧ zeroCs Try.prog 53 = some [.d (.o .nilFunc)] := ⟨by kernel_rfl, by kernel_rfl, by kernel_rfl, by kernel_rfl⟩
theorem ty54 : Try.prog.cellsOf 54 = 1 ∧ Try.prog.bytesOf 54 = 8 ∧ (Try.prog.info? 54).isSome = true ∧ zeroCs Try.prog 54 = some [.d (.o .nilFunc)] := ⟨by kernel_rfl, by kernel_rfl, by kernel_rfl, by kernel_rfl⟩
theorem ty55 : Try.prog.cellsOf 55 = 1 ∧ Try.prog.bytesOf 55 = 8 ∧ (Try.prog.info? 55).isSome = true ∧ zeroCs Try.prog 55 = some [.d (.o .nilFunc)] := ⟨by kernel_rfl, by kernel_rfl, by kernel_rfl, by kernel_rfl⟩
theorem ty56 : Try.prog.cellsOf 56 = 1 ∧ Try.prog.bytesOf 56 = 8 ∧ (Try.prog.info? 56).isSome = true ∧ zeroCs Try.prog 56 = some [.d (.o .nilFunc)] := ⟨by kernel_rfl, by kernel_rfl, by kernel_rfl, by kernel_rfl⟩
theorem ty57 : Try.prog.cellsOf 57 = 1 ∧ Try.prog.bytesOf 57 = 8 ∧ (Try.prog.info? 57).isSome = true ∧ zeroCs Try.prog 57 = some [.d (.o .nilFunc)] := ⟨by kernel_rfl, by kernel_rfl, by kernel_rfl, by kernel_rfl⟩
theorem ty58 : Try.prog.cellsOf 58 = 1 ∧ Try.prog.bytesOf 58 = 8 ∧ (Try.prog.info? 58).isSome = true ∧ zeroCs Try.prog 58 = some [.d (.o .nilFunc)] := ⟨by kernel_rfl, by kernel_rfl, by kernel_rfl, by kernel_rfl⟩
theorem ty59 : Try.prog.cellsOf 59 = 1 ∧ Try.prog.bytesOf 59 = 8 ∧ (Try.prog.info? 59).isSome = true ∧ zeroCs Try.prog 59 = some [.d (.o .nilFunc)] := ⟨by kernel_rfl, by kernel_rfl, by kernel_rfl, by kernel_rfl⟩
theorem ty60 : Try.prog.cellsOf 60 = 1 ∧ Try.prog.bytesOf 60 = 8 ∧ (Try.prog.info? 60).isSome = true ∧ zeroCs Try.prog 60 = some [.d (.o .nilFunc)] := ⟨by kernel_rfl, by kernel_rfl, by kernel_rfl, by kernel_rfl⟩
theorem ty61 : Try.prog.cellsOf 61 = 1 ∧ Try.prog.bytesOf 61 = 8 ∧ (Try.prog.info? 61).isSome = true ∧ zeroCs Try.prog 61 = some [.d (.o .nilFunc)] := ⟨by kernel_rfl, by kernel_rfl, by kernel_rfl, by kernel_rfl⟩
theorem ty62 : Try.prog.cellsOf 62 = 1 ∧ Try.prog.bytesOf 62 = 8 ∧ (Try.prog.info? 62).isSome = true ∧ zeroCs Try.prog 62 = some [.d (.o .nilFunc)] := ⟨by kernel_rfl, by kernel_rfl, by kernel_rfl, by kernel_rfl⟩
theorem ty63 : Try.prog.cellsOf 63 = 1 ∧ Try.prog.bytesOf 63 = 8 ∧ (Try.prog.info? 63).isSome = true ∧ zeroCs Try.prog 63 = some [.d (.o .nilFunc)] := ⟨by kernel_rfl, by kernel_rfl, by kernel_rfl, by kernel_rfl⟩
theorem ty64 : Try.prog.cellsOf 64 = 1 ∧ Try.prog.bytesOf 64 = 8 ∧ (Try.prog.info? 64).isSome = true ∧ zeroCs Try.prog 64 = some [.d (.o .nilFunc)] := ⟨by kernel_rfl, by kernel_rfl, by kernel_rfl, by kernel_rfl⟩
theorem ty65 : Try.prog.cellsOf 65 = 1 ∧ Try.prog.bytesOf 65 = 8 ∧ (Try.prog.info? 65).isSome = true ∧ zeroCs Try.prog 65 = some [.d (.o .nilFunc)] := ⟨by kernel_rfl, by kernel_rfl, by kernel_rfl, by kernel_rfl⟩
theorem ty66 : Try.prog.cellsOf 66 = 1 ∧ Try.prog.bytesOf 66 = 8 ∧ (Try.prog.info? 66).isSome = true ∧ zeroCs Try.prog 66 = some [.d (.o .nilFunc)] := ⟨by kernel_rfl, by kernel_rfl, by kernel_rfl, by kernel_rfl⟩
theorem ty67 : Try.prog.cellsOf 67 = 1 ∧ Try.prog.bytesOf 67 = 8 ∧ (Try.prog.info? 67).isSome = true ∧ zeroCs Try.prog 67 = some [.d (.o .nilFunc)] := ⟨by kernel_rfl, by kernel_rfl, by kernel_rfl, by kernel_rfl⟩
theorem ty68 : Try.prog.cellsOf 68 = 1 ∧ Try.prog.bytesOf 68 = 8 ∧ (Try.prog.info? 68).isSome = true ∧ zeroCs Try.prog 68 = some [.d (.o .nilFunc)] := ⟨by kernel_rfl, by kernel_rfl, by kernel_rfl, by kernel_rfl⟩
theorem ty69 : Try.prog.cellsOf 69 = 1 ∧ Try.prog.bytesOf 69 = 8 ∧ (Try.prog.info? 69).isSome = true ∧ zeroCs Try.prog 69 = some [.d (.o .nilFunc)] := ⟨by kernel_rfl, by kernel_rfl, by kernel_rfl, by kernel_rfl⟩
theorem ty70 : Try.prog.cellsOf 70 = 1 ∧ Try.prog.bytesOf 70 = 8 ∧ (Try.prog.info? 70).isSome = true ∧ zeroCs Try.prog 70 = some [.d (.o .nilFunc)] := ⟨by kernel_rfl, by kernel_rfl, by kernel_rfl, by kernel_rfl⟩
theorem ty71 : Try.prog.cellsOf 71 = 1 ∧ Try.prog.bytesOf 71 = 8 ∧ (Try.prog.info? 71).isSome = true ∧ zeroCs Try.prog 71 = some [.d (.o .nilFunc)] := ⟨by kernel_rfl, by kernel_rfl, by kernel_rfl, by kernel_rfl⟩
theorem ty72 : Try.prog.cellsOf 72 = 1 ∧ Try.prog.bytesOf 72 = 8 ∧ (Try.prog.info? 72).isSome = true ∧ zeroCs Try.prog 72 = some [.d (.o .nilFunc)] := ⟨by kernel_rfl, by kernel_rfl, by kernel_rfl, by kernel_rfl⟩
theorem ty73 : Try.prog.cellsOf 73 = 1 ∧ Try.prog.bytesOf 73 = 8 ∧ (Try.prog.info? 73).isSome = true ∧ zeroCs Try.prog 73 = some [.d (.o .nilFunc)] := ⟨by kernel_rfl, by kernel_rfl, by kernel_rfl, by kernel_rfl⟩
theorem ty74 : Try.prog.cellsOf 74 = 1 ∧ Try.prog.bytesOf 74 = 8 ∧ (Try.prog.info? 74).isSome = true ∧ zeroCs Try.prog 74 = some [.d (.o .nilFunc)] := ⟨by kernel_rfl, by kernel_rfl, by kernel_rfl, by kernel_rfl⟩
theorem ty75 : Try.prog.cellsOf 75 = 1 ∧ Try.prog.bytesOf 75 = 8 ∧ (Try.prog.info? 75).isSome = true ∧ zeroCs Try.prog 75 = some [.d (.o .nilFunc)] := ⟨by kernel_rfl, by kernel_rfl, by kernel_rfl, by kernel_rfl⟩
theorem ty76 : Try.prog.cellsOf 76 = 1 ∧ Try.prog.bytesOf 76 = 8 ∧ (Try.prog.info? 76).isSome = true ∧ zeroCs Try.prog 76 = some [.d (.o .nilFunc)] := ⟨by kernel_rfl, by kernel_rfl, by kernel_rfl, by kernel_rfl⟩
theorem ty77 : Try.prog.cellsOf 77 = 1 ∧ Try.prog.bytesOf 77 = 8 ∧ (Try.prog.info? 77).isSome = true ∧ zeroCs Try.prog 77 = some [.d (.o .nilFunc)] := ⟨by kernel_rfl, by kernel_rfl, by kernel_rfl, by kernel_rfl⟩
theorem ty78 : Try.prog.cellsOf 78 = 1 ∧ Try.prog.bytesOf 78 = 8 ∧ (Try.prog.info? 78).isSome = true ∧ zeroCs Try.prog 78 = some [.d (.o .nilFunc)] := ⟨by kernel_rfl, by kernel_rfl, by kernel_rfl, by kernel_rfl⟩
theorem ty79 : Try.prog.cellsOf 79 = 1 ∧ Try.prog.bytesOf 79 = 8 ∧ (Try.prog.info? 79).isSome = true ∧ zeroCs Try.prog 79 = some [.d (.o .nilFunc)] := ⟨by kernel_rfl, by kernel_rfl, by kernel_rfl, by kernel_rfl⟩
theorem ty80 : Try.prog.cellsOf 80 = 1 ∧ Try.prog.bytesOf 80 = 8 ∧ (Try.prog.info? 80).isSome = true ∧ zeroCs Try.prog 80 = some [.d (.o .nilFunc)] := ⟨by kernel_rfl, by kernel_rfl, by kernel_rfl, by kernel_rfl⟩
theorem ty81 : Try.prog.cellsOf 81 = 1 ∧ Try.prog.bytesOf 81 = 8 ∧ (Try.prog.info? 81).isSome = true ∧ zeroCs Try.prog 81 = some [.d (.o (.pointer none))] := ⟨by kernel_rfl, by kernel_rfl, by kernel_rfl, by kernel_rfl⟩
theorem ty82 : Try.prog.cellsOf 82 = 1 ∧ Try.prog.bytesOf 82 = 8 ∧ (Try.prog.info? 82).isSome = true ∧ zeroCs Try.prog 82 = some [.d (.o .nilFunc)] := ⟨by kernel_rfl, by kernel_rfl, by kernel_rfl, by kernel_rfl⟩
theorem ty83 : Try.prog.cellsOf 83 = 1 ∧ Try.prog.bytesOf 83 = 8 ∧ (Try.prog.info? 83).isSome = true ∧ zeroCs Try.prog 83 = some [.d (.o (.map none))] := ⟨by kernel_rfl, by kernel_rfl, by kernel_rfl, by kernel_rfl⟩
theorem ty84 : Try.prog.cellsOf 84 = 1 ∧ Try.prog.bytesOf 84 = 8 ∧ (Try.prog.info? 84).isSome = true ∧ zeroCs Try.prog 84 = some [.d (.o .nilFunc)] := ⟨by kernel_rfl, by kernel_rfl, by kernel_rfl, by kernel_rfl⟩
theorem ty85 : Try.prog.cellsOf 85 = 11 ∧ Try.prog.bytesOf 85 = 184 ∧ (Try.prog.info? 85).isSome = true ∧ zeroCs Try.prog 85 = some [.d (.s []), .fsl [], .d (.i .i64 0), .d (.s []), .d (.s []), .d (.i .i64 0), .d (.i .i64 0), .d (.s []), .fsl [], .fsl [], .fsl []] := ⟨by kernel_rfl, by kernel_rfl, by kernel_rfl, by kernel_rfl⟩
theorem ty86 : Try.prog.cellsOf 86 = 11 ∧ Try.prog.bytesOf 86 = 184 ∧ (Try.prog.info? 86).isSome = true ∧ zeroCs Try.prog 86 = some [.d (.s []), .fsl [], .d (.i .i64 0), .d (.s []), .d (.s []), .d (.i .i64 0), .d (.i .i64 0), .d (.s []), .fsl [], .fsl [], .fsl []] := ⟨by kernel_rfl, by kernel_rfl, by kernel_rfl, by kernel_rfl⟩
theorem ty87 : Try.prog.cellsOf 87 = 1 ∧ Try.prog.bytesOf 87 = 8 ∧ (Try.prog.info? 87).isSome = true ∧ zeroCs Try.prog 87 = some [.d (.o .nilFunc)] := ⟨by kernel_rfl, by kernel_rfl, by kernel_rfl, by kernel_rfl⟩
theorem ty88 : Try.prog.cellsOf 88 = 1 ∧ Try.prog.bytesOf 88 = 8 ∧ (Try.prog.info? 88).isSome = true ∧ zeroCs Try.prog 88 = some [.d (.o .nilFunc)] := ⟨by kernel_rfl, by kernel_rfl, by kernel_rfl, by kernel_rfl⟩
theorem ty89 : Try.prog.cellsOf 89 = 1 ∧ Try.prog.bytesOf 89 = 8 ∧ (Try.prog.info? 89).isSome = true ∧ zeroCs Try.prog 89 = some [.d (.o .nilFunc)] := ⟨by kernel_rfl, by kernel_rfl, by kernel_rfl, by kernel_rfl⟩
theorem ty90 : Try.prog.cellsOf 90 = 1 ∧ Try.prog.bytesOf 90 = 8 ∧ (Try.prog.info? 90).isSome = true ∧ zeroCs Try.prog 90 = some [.d (.o .nilFunc)] := ⟨by kernel_rfl, by kernel_rfl, by kernel_rfl, by kernel_rfl⟩
theorem ty91 : Try.prog.cellsOf 91 = 1 ∧ Try.prog.bytesOf 91 = 8 ∧ (Try.prog.info? 91).isSome = true ∧ zeroCs Try.prog 91 = some [.d (.o .nilFunc)] := ⟨by kernel_rfl, by kernel_rfl, by kernel_rfl, by kernel_rfl⟩
theorem ty92 : Try.prog.cellsOf 92 = 1 ∧ Try.prog.bytesOf 92 = 8 ∧ (Try.prog.info? 92).isSome = true ∧ zeroCs Try.prog 92 = some [.d (.o .nilFunc)] := ⟨by kernel_rfl, by kernel_rfl, by kernel_rfl, by kernel_rfl⟩
theorem ty93 : Try.prog.cellsOf 93 = 1 ∧ Try.prog.bytesOf 93 = 24 ∧ (Try.prog.info? 93).isSome = true ∧ zeroCs Try.prog 93 = some [.fsl []] := ⟨by kernel_rfl, by kernel_rfl, by kernel_rfl, by kernel_rfl⟩
theorem ty94 : Try.prog.cellsOf 94 = 1 ∧ Try.prog.bytesOf 94 = 8 ∧ (Try.prog.info? 94).isSome = true ∧ zeroCs Try.prog 94 = some [.d (.o .nilFunc)] := ⟨by kernel_rfl, by kernel_rfl, by kernel_rfl, by kernel_rfl⟩
theorem ty95 : Try.prog.cellsOf 95 = 1 ∧ Try.prog.bytesOf 95 = 8 ∧ (Try.prog.info? 95).isSome = true ∧ zeroCs Try.prog 95 = some [.d (.o .nilFunc)] := ⟨by kernel_rfl, by kernel_rfl, by kernel_rfl, by kernel_rfl⟩
theorem ty96 : Try.prog.cellsOf 96 = 4 ∧ Try.prog.bytesOf 96 = 64 ∧ (Try.prog.info? 96).isSome = true ∧ zeroCs Try.prog 96 = some [.d (.s []), .d (.i .i64 0), .d (.s []), .fsl []] := ⟨by kernel_rfl, by kernel_rfl, by kernel_rfl, by kernel_rfl⟩
theorem ty97 : Try.prog.cellsOf 97 = 4 ∧ Try.prog.bytesOf 97 = 64 ∧ (Try.prog.info? 97).isSome = true ∧ zeroCs Try.prog 97 = some [.d (.s []), .d (.i .i64 0), .d (.s []), .fsl []] := ⟨by kernel_rfl, by kernel_rfl, by kernel_rfl, by kernel_rfl⟩
theorem ty99 : Try.prog.cellsOf 99 = 1 ∧ Try.prog.bytesOf 99 = 8 ∧ (Try.prog.info? 99).isSome = true ∧ zeroCs Try.prog 99 = some [.d (.o .nilFunc)] := ⟨by kernel_rfl, by kernel_rfl, by kernel_rfl, by kernel_rfl⟩
theorem ty100 : Try.prog.cellsOf 100 = 1 ∧ Try.prog.bytesOf 100 = 8 ∧ (Try.prog.info? 100).isSome = true ∧ zeroCs Try.prog 100 = some [.d (.o .nilFunc)] := ⟨by kernel_rfl, by kernel_rfl, by kernel_rfl, by kernel_rfl⟩
theorem ty101 : Try.prog.cellsOf 101 = 1 ∧ Try.prog.bytesOf 101 = 8 ∧ (Try.prog.info? 101).isSome = true ∧ zeroCs Try.prog 101 = some [.d (.o .nilFunc)] := ⟨by kernel_rfl, by kernel_rfl, by kernel_rfl, by kernel_rfl⟩
theorem ty102 : Try.prog.cellsOf 102 = 1 ∧ Try.prog.bytesOf 102 = 8 ∧ (Try.prog.info? 102).isSome = true ∧ zeroCs Try.prog 102 = some [.d (.o .nilFunc)] := ⟨by kernel_rfl, by kernel_rfl, by kernel_rfl, by kernel_rfl⟩
theorem ty103 : Try.prog.cellsOf 103 = 11 ∧ Try.prog.bytesOf 103 = 184 ∧ (Try.prog.info? 103).isSome = true ∧ zeroCs Try.prog 103 = some [.d (.s []), .fsl [], .d (.i .i64 0), .d (.s []), .d (.s []), .d (.i .i64 0), .d (.i .i64 0), .d (.s []), .fsl [], .fsl [], .fsl []] := ⟨by kernel_rfl, by kernel_rfl, by kernel_rfl, by kernel_rfl⟩
theorem ty104 : Try.prog.cellsOf 104 = 11 ∧ Try.prog.bytesOf 104 = 184 ∧ (Try.prog.info? 104).isSome = true ∧ zeroCs Try.prog 104 = some [.d (.s []), .fsl [], .d (.i .i64 0), .d (.s []), .d (.s []), .d (.i .i64 0), .d (.i .i64 0), .d (.s []), .fsl [], .fsl [], .fsl []] := ⟨by kernel_rfl, by kernel_rfl, by kernel_rfl, by kernel_rfl⟩
theorem ty105 : Try.prog.cellsOf 105 = 1 ∧ Try.prog.bytesOf 105 = 8 ∧ (Try.prog.info? 105).isSome = true ∧ zeroCs Try.prog 105 = some [.d (.o .nilFunc)] := ⟨by kernel_rfl, by kernel_rfl, by kernel_rfl, by kernel_rfl⟩
theorem ty106 : Try.prog.cellsOf 106 = 1 ∧ Try.prog.bytesOf 106 = 8 ∧ (Try.prog.info? 106).isSome = true ∧ zeroCs Try.prog 106 = some [.d (.o .nilFunc)] := ⟨by kernel_rfl, by kernel_rfl, by kernel_rfl, by kernel_rfl⟩
theorem ty107 : Try.prog.cellsOf 107 = 1 ∧ Try.prog.bytesOf 107 = 8 ∧ (Try.prog.info? 107).isSome = true ∧ zeroCs Try.prog 107 = some [.d (.o .nilFunc)] := ⟨by kernel_rfl, by kernel_rfl, by kernel_rfl, by kernel_rfl⟩
theorem ty108 : Try.prog.cellsOf 108 = 1 ∧ Try.prog.bytesOf 108 = 8 ∧ (Try.prog.info? 108).isSome = true ∧ zeroCs Try.prog 108 = some [.d (.o .nilFunc)] := ⟨by kernel_rfl, by kernel_rfl, by kernel_rfl, by kernel_rfl⟩
theorem ty109 : Try.prog.cellsOf 109 = 1 ∧ Try.prog.bytesOf 109 = 8 ∧ (Try.prog.info? 109).isSome = true ∧ zeroCs Try.prog 109 = some [.d (.o .nilFunc)] := ⟨by kernel_rfl, by kernel_rfl, by kernel_rfl, by kernel_rfl⟩
theorem ty110 : Try.prog.cellsOf 110 = 1 ∧ Try.prog.bytesOf 110 = 8 ∧ (Try.prog.info? 110).isSome = true ∧ zeroCs Try.prog 110 = some [.d (.o .nilFunc)] := ⟨by kernel_rfl, by kernel_rfl, by kernel_rfl, by kernel_rfl⟩
theorem ty111 : Try.prog.cellsOf 111 = 1 ∧ Try.prog.bytesOf 111 = 8 ∧ (Try.prog.info? 111).isSome = true ∧ zeroCs Try.prog 111 = some [.d (.o .nilFunc)] := ⟨by kernel_rfl, by kernel_rfl, by kernel_rfl, by kernel_rfl⟩
theorem ty112 : Try.prog.cellsOf 112 = 1 ∧ Try.prog.bytesOf 112 = 8 ∧ (Try.prog.info? 112).isSome = true ∧ zeroCs Try.prog 112 = some [.d (.o .nilFunc)] := ⟨by kernel_rfl, by kernel_rfl, by kernel_rfl, by kernel_rfl⟩
theorem ty113 : Try.prog.cellsOf 113 = 1 ∧ Try.prog.bytesOf 113 = 8 ∧ (Try.prog.info? 113).isSome = true ∧ zeroCs Try.prog 113 = some [.d (.o .nilFunc)] := ⟨by kernel_rfl, by kernel_rfl, by kernel_rfl, by kernel_rfl⟩
theorem ty114 : Try.prog.cellsOf 114 = 1 ∧ Try.prog.bytesOf 114 = 24 ∧ (Try.prog.info? 114).isSome = true ∧ zeroCs Try.prog 114 = some [.fsl []] := ⟨by kernel_rfl, by kernel_rfl, by kernel_rfl, by kernel_rfl⟩
theorem ty115 : Try.prog.cellsOf 115 = 1 ∧ Try.prog.bytesOf 115 = 8 ∧ (Try.prog.info? 115).isSome = true ∧ zeroCs Try.prog 115 = some [.d (.o .nilFunc)] := ⟨by kernel_rfl, by kernel_rfl, by kernel_rfl, by kernel_rfl⟩
theorem ty116 : Try.prog.cellsOf 116 = 3 ∧ Try.prog.bytesOf 116 = 40 ∧ (Try.prog.info? 116).isSome = true ∧ zeroCs Try.prog 116 = some [.fsl [], .d (.i .i64 0), .d (.i .i64 0)] := ⟨by kernel_rfl, by kernel_rfl, by kernel_rfl, by kernel_rfl⟩
theorem ty117 : Try.prog.cellsOf 117 = 3 ∧ Try.prog.bytesOf 117 = 40 ∧ (Try.prog.info? 117).isSome = true ∧ zeroCs Try.prog 117 = some [.fsl [], .d (.i .i64 0), .d (.i .i64 0)] := ⟨by kernel_rfl, by kernel_rfl, by kernel_rfl, by kernel_rfl⟩
theorem ty118 : Try.prog.cellsOf 118 = 1 ∧ Try.prog.bytesOf 118 = 8 ∧ (Try.prog.info? 118).isSome = true ∧ zeroCs Try.prog 118 = some [.d (.o .nilFunc)] := ⟨by kernel_rfl, by kernel_rfl, by kernel_rfl, by kernel_rfl⟩
theorem ty119 : Try.prog.cellsOf 119 = 1 ∧ Try.prog.bytesOf 119 = 8 ∧ (Try.prog.info? 119).isSome = true ∧ zeroCs Try.prog 119 = some [.d (.o .nilFunc)] := ⟨by kernel_rfl, by kernel_rfl, by kernel_rfl, by kernel_rfl⟩
theorem ty120 : Try.prog.cellsOf 120 = 1 ∧ Try.prog.bytesOf 120 = 8 ∧ (Try.prog.info? 120).isSome = true ∧ zeroCs Try.prog 120 = some [.d (.o .nilFunc)] := ⟨by kernel_rfl, by kernel_rfl, by kernel_rfl, by kernel_rfl⟩
theorem ty122 : Try.prog.cellsOf 122 = 1 ∧ Try.prog.bytesOf 122 = 8 ∧ (Try.prog.info? 122).isSome = true ∧ zeroCs Try.prog 122 = some [.d (.o .nilFunc)] := ⟨by kernel_rfl, by kernel_rfl, by kernel_rfl, by kernel_rfl⟩
theorem ty123 : Try.prog.cellsOf 123 = 1 ∧ Try.prog.bytesOf 123 = 8 ∧ (Try.prog.info? 123).isSome = true ∧ zeroCs Try.prog 123 = some [.d (.o .nilFunc)] := ⟨by kernel_rfl, by kernel_rfl, by kernel_rfl, by kernel_rfl⟩
theorem ty124 : Try.prog.cellsOf 124 = 1 ∧ Try.prog.bytesOf 124 = 8 ∧ (Try.prog.info? 124).isSome = true ∧ zeroCs Try.prog 124 = some [.d (.o .nilFunc)] := ⟨by kernel_rfl, by kernel_rfl, by kernel_rfl, by kernel_rfl⟩
theorem ty125 : Try.prog.cellsOf 125 = 1 ∧ Try.prog.bytesOf 125 = 8 ∧ (Try.prog.info? 125).isSome = true ∧ zeroCs Try.prog 125 = some [.d (.o .nilFunc)] := ⟨by kernel_rfl, by kernel_rfl, by kernel_rfl, by kernel_rfl⟩
theorem ty126 : Try.prog.cellsOf 126 = 1 ∧ Try.prog.bytesOf 126 = 8 ∧ (Try.prog.info? 126).isSome = true ∧ zeroCs Try.prog 126 = some [.d (.o .nilFunc)] := ⟨by kernel_rfl, by kernel_rfl, by kernel_rfl, by kernel_rfl⟩
theorem ty127 : Try.prog.cellsOf 127 = 1 ∧ Try.prog.bytesOf 127 = 8 ∧ (Try.prog.info? 127).isSome = true ∧ zeroCs Try.prog 127 = some [.d (.o .nilFunc)] := ⟨by kernel_rfl, by kernel_rfl, by kernel_rfl, by kernel_rfl⟩
theorem ty129 : Try.prog.cellsOf 129 = 1 ∧ Try.prog.bytesOf 129 = 8 ∧ (Try.prog.info? 129).isSome = true ∧ zeroCs Try.prog 129 = some [.d (.o .nilFunc)] := ⟨by kernel_rfl, by kernel_rfl, by kernel_rfl, by kernel_rfl⟩
theorem ty130 : Try.prog.cellsOf 130 = 1 ∧ Try.prog.bytesOf 130 = 8 ∧ (Try.prog.info? 130).isSome = true ∧ zeroCs Try.prog 130 = some [.d (.o .nilFunc)] := ⟨by kernel_rfl, by kernel_rfl, by kernel_rfl, by kernel_rfl⟩
theorem ty131 : Try.prog.cellsOf 131 = 1 ∧ Try.prog.bytesOf 131 = 8 ∧ (Try.prog.info? 131).isSome = true ∧ zeroCs Try.prog 131 = some [.d (.o .nilFunc)] := ⟨by kernel_rfl, by kernel_rfl, by kernel_rfl, by kernel_rfl⟩
theorem ty132 : Try.prog.cellsOf 132 = 1 ∧ Try.prog.bytesOf 132 = 8 ∧ (Try.prog.info? 132).isSome = true ∧ zeroCs Try.prog 132 = some [.d (.o .nilFunc)] := ⟨by kernel_rfl, by kernel_rfl, by kernel_rfl, by kernel_rfl⟩
theorem ty133 : Try.prog.cellsOf 133 = 1 ∧ Try.prog.bytesOf 133 = 8 ∧ (Try.prog.info? 133).isSome = true ∧ zeroCs Try.prog 133 = some [.d (.o .nilFunc)] := ⟨by kernel_rfl, by kernel_rfl, by kernel_rfl, by kernel_rfl⟩
theorem ty134 : Try.prog.cellsOf 134 = 1 ∧ Try.prog.bytesOf 134 = 24 ∧ (Try.prog.info? 134).isSome = true ∧ zeroCs Try.prog 134 = some [.fsl []] := ⟨by kernel_rfl, by kernel_rfl, by kernel_rfl, by kernel_rfl⟩
theorem ty135 : Try.prog.cellsOf 135 = 1 ∧ Try.prog.bytesOf 135 = 8 ∧ (Try.prog.info? 135).isSome = true ∧ zeroCs Try.prog 135 = some [.d (.o .nilFunc)] := ⟨by kernel_rfl, by kernel_rfl, by kernel_rfl, by kernel_rfl⟩
theorem ty136 : Try.prog.cellsOf 136 = 1 ∧ Try.prog.bytesOf 136 = 8 ∧ (Try.prog.info? 136).isSome = true ∧ zeroCs Try.prog 136 = some [.d (.o .nilFunc)] := ⟨by kernel_rfl, by kernel_rfl, by kernel_rfl, by kernel_rfl⟩
theorem ty137 : Try.prog.cellsOf 137 = 1 ∧ Try.prog.bytesOf 137 = 8 ∧ (Try.prog.info? 137).isSome = true ∧ zeroCs Try.prog 137 = some [.d (.o .nilFunc)] := ⟨by kernel_rfl, by kernel_rfl, by kernel_rfl, by kernel_rfl⟩
theorem ty138 : Try.prog.cellsOf 138 = 1 ∧ Try.prog.bytesOf 138 = 8 ∧ (Try.prog.info? 138).isSome = true ∧ zeroCs Try.prog 138 = some [.d (.o .nilFunc)] := ⟨by kernel_rfl, by kernel_rfl, by kernel_rfl, by kernel_rfl⟩
theorem ty140 : Try.prog.cellsOf 140 = 1 ∧ Try.prog.bytesOf 140 = 8 ∧ (Try.prog.info? 140).isSome = true ∧ zeroCs Try.prog 140 = some [.d (.o .nilFunc)] := ⟨by kernel_rfl, by kernel_rfl, by kernel_rfl, by kernel_rfl⟩
theorem ty141 : Try.prog.cellsOf 141 = 1 ∧ Try.prog.bytesOf 141 = 8 ∧ (Try.prog.info? 141).isSome = true ∧ zeroCs Try.prog 141 = some [.d (.o .nilFunc)] := ⟨by kernel_rfl, by kernel_rfl, by kernel_rfl, by kernel_rfl⟩
theorem ty142 : Try.prog.cellsOf 142 = 1 ∧ Try.prog.bytesOf 142 = 8 ∧ (Try.prog.info? 142).isSome = true ∧ zeroCs Try.prog 142 = some [.d (.o .nilFunc)] := ⟨by kernel_rfl, by kernel_rfl, by kernel_rfl, by kernel_rfl⟩
theorem ty143 : Try.prog.cellsOf 143 = 1 ∧ Try.prog.bytesOf 143 = 8 ∧ (Try.prog.info? 143).isSome = true ∧ zeroCs Try.prog 143 = some [.d (.o .nilFunc)] := ⟨by kernel_rfl, by kernel_rfl, by kernel_rfl, by kernel_rfl⟩
theorem ty144 : Try.prog.cellsOf 144 = 1 ∧ Try.prog.bytesOf 144 = 8 ∧ (Try.prog.info? 144).isSome = true ∧ zeroCs Try.prog 144 = some [.d (.o .nilFunc)] := ⟨by kernel_rfl, by kernel_rfl, by kernel_rfl, by kernel_rfl⟩
theorem ty145 : Try.prog.cellsOf 145 = 1 ∧ Try.prog.bytesOf 145 = 8 ∧ (Try.prog.info? 145).isSome = true ∧ zeroCs Try.prog 145 = some [.d (.o .nilFunc)] := ⟨by kernel_rfl, by kernel_rfl, by kernel_rfl, by kernel_rfl⟩
theorem ty146 : Try.prog.cellsOf 146 = 1 ∧ Try.prog.bytesOf 146 = 8 ∧ (Try.prog.info? 146).isSome = true ∧ zeroCs Try.prog 146 = some [.d (.o .nilFunc)] := ⟨by kernel_rfl, by kernel_rfl, by kernel_rfl, by kernel_rfl⟩
theorem ty147 : Try.prog.cellsOf 147 = 1 ∧ Try.prog.bytesOf 147 = 8 ∧ (Try.prog.info? 147).isSome = true ∧ zeroCs Try.prog 147 = some [.d (.o .nilFunc)] := ⟨by kernel_rfl, by kernel_rfl, by kernel_rfl, by kernel_rfl⟩
theorem ty148 : Try.prog.cellsOf 148 = 1 ∧ Try.prog.bytesOf 148 = 8 ∧ (Try.prog.info? 148).isSome = true ∧ zeroCs Try.prog 148 = some [.d (.o .nilFunc)] := ⟨by kernel_rfl, by kernel_rfl, by kernel_rfl, by kernel_rfl⟩
theorem ty149 : Try.prog.cellsOf 149 = 1 ∧ Try.prog.bytesOf 149 = 8 ∧ (Try.prog.info? 149).isSome = true ∧ zeroCs Try.prog 149 = some [.d (.o .nilFunc)] := ⟨by kernel_rfl, by kernel_rfl, by kernel_rfl, by kernel_rfl⟩
theorem ty150 : Try.prog.cellsOf 150 = 1 ∧ Try.prog.bytesOf 150 = 8 ∧ (Try.prog.info? 150).isSome = true ∧ zeroCs Try.prog 150 = some [.d (.i .u64 0)] := ⟨by kernel_rfl, by kernel_rfl, by kernel_rfl, by kernel_rfl⟩
theorem ty151 : Try.prog.cellsOf 151 = 1 ∧ Try.prog.bytesOf 151 = 8 ∧ (Try.prog.info? 151).isSome = true ∧ zeroCs Try.prog 151 = some [.d (.o .nilFunc)] := ⟨by kernel_rfl, by kernel_rfl, by kernel_rfl, by kernel_rfl⟩
theorem ty152 : Try.prog.cellsOf 152 = 1 ∧ Try.prog.bytesOf 152 = 8 ∧ (Try.prog.info? 152).isSome = true ∧ zeroCs Try.prog 152 = some [.d (.o .nilFunc)] := ⟨by kernel_rfl, by kernel_rfl, by kernel_rfl, by kernel_rfl⟩
theorem ty153 : Try.prog.cellsOf 153 = 1 ∧ Try.prog.bytesOf 153 = 8 ∧ (Try.prog.info? 153).isSome = true ∧ zeroCs Try.prog 153 = some [.d (.o .nilFunc)] := ⟨by kernel_rfl, by kernel_rfl, by kernel_rfl, by kernel_rfl⟩
theorem ty154 : Try.prog.cellsOf 154 = 1 ∧ Try.prog.bytesOf 154 = 8 ∧ (Try.prog.info? 154).isSome = true ∧ zeroCs Try.prog 154 = some [.d (.o .nilFunc)] := ⟨by kernel_rfl, by kernel_rfl, by kernel_rfl, by kernel_rfl⟩
theorem ty155 : Try.prog.cellsOf 155 = 1 ∧ Try.prog.bytesOf 155 = 8 ∧ (Try.prog.info? 155).isSome = true ∧ zeroCs Try.prog 155 = some [.d (.o .nilFunc)] := ⟨by kernel_rfl, by kernel_rfl, by kernel_rfl, by kernel_rfl⟩
theorem ty156 : Try.prog.cellsOf 156 = 1 ∧ Try.prog.bytesOf 156 = 8 ∧ (Try.prog.info? 156).isSome = true ∧ zeroCs Try.prog 156 = some [.d (.o .nilFunc)] := ⟨by kernel_rfl, by kernel_rfl, by kernel_rfl, by kernel_rfl⟩
theorem ty157 : Try.prog.cellsOf 157 = 1 ∧ Try.prog.bytesOf 157 = 8 ∧ (Try.prog.info? 157).isSome = true ∧ zeroCs Try.prog 157 = some [.d (.o .nilFunc)] := ⟨by kernel_rfl, by kernel_rfl, by kernel_rfl, by kernel_rfl⟩
theorem ty158 : Try.prog.cellsOf 158 = 1 ∧ Try.prog.bytesOf 158 = 8 ∧ (Try.prog.info? 158).isSome = true ∧ zeroCs Try.prog 158 = some [.d (.o .nilFunc)] := ⟨by kernel_rfl, by kernel_rfl, by kernel_rfl, by kernel_rfl⟩
theorem ty159 : Try.prog.cellsOf 159 = 1 ∧ Try.prog.bytesOf 159 = 8 ∧ (Try.prog.info? 159).isSome = true ∧ zeroCs Try.prog 159 = some [.d (.o .nilFunc)] := ⟨by kernel_rfl, by kernel_rfl, by kernel_rfl, by kernel_rfl⟩
theorem ty160 : Try.prog.cellsOf 160 = 1 ∧ Try.prog.bytesOf 160 = 8 ∧ (Try.prog.info? 160).isSome = true ∧ zeroCs Try.prog 160 = some [.d (.o .nilFunc)] := ⟨by kernel_rfl, by kernel_rfl, by kernel_rfl, by kernel_rfl⟩
theorem ty161 : Try.prog.cellsOf 161 = 1 ∧ Try.prog.bytesOf 161 = 4 ∧ (Try.prog.info? 161).isSome = true ∧ zeroCs Try.prog 161 = some [.d (.i .u32 0)] := ⟨by kernel_rfl, by kernel_rfl, by kernel_rfl, by kernel_rfl⟩
theorem ty163 : Try.prog.cellsOf 163 = 1 ∧ Try.prog.bytesOf 163 = 8 ∧ (Try.prog.info? 163).isSome = true ∧ zeroCs Try.prog 163 = some [.d (.o .nilFunc)] := ⟨by kernel_rfl, by kernel_rfl, by kernel_rfl, by kernel_rfl⟩
theorem ty164 : Try.prog.cellsOf 164 = 1 ∧ Try.prog.bytesOf 164 = 8 ∧ (Try.prog.info? 164).isSome = true ∧ zeroCs Try.prog 164 = some [.d (.o .nilFunc)] := ⟨by kernel_rfl, by kernel_rfl, by kernel_rfl, by kernel_rfl⟩
theorem ty170 : Try.prog.cellsOf 170 = 1 ∧ Try.prog.bytesOf 170 = 8 ∧ (Try.prog.info? 170).isSome = true ∧ zeroCs Try.prog 170 = some [.d (.o .nilFunc)] := ⟨by kernel_rfl, by kernel_rfl, by kernel_rfl, by kernel_rfl⟩
theorem ty174 : Try.prog.cellsOf 174 = 1 ∧ Try.prog.bytesOf 174 = 8 ∧ (Try.prog.info? 174).isSome = true ∧ zeroCs Try.prog 174 = some [.d (.o (.pointer none))] := ⟨by kernel_rfl, by kernel_rfl, by kernel_rfl, by kernel_rfl⟩
theorem laidOut : laidOutB Try.prog = true := by kernel_rfl
theorem own : ownKnob Try.prog.godebug = none := by kernel_rfl
attribute [go_sem] ty1 Try.underlying1 ty2 Try.underlying2 ty3 Try.underlying3 ty4 Try.underlying4 zval4 ty5 Try.underlying5 ty9 Try.underlying9 ty12 Try.underlying12 ty20 Try.underlying20 ty21 Try.underlying21 ty22 Try.underlying22 ty23 Try.underlying23 ty24 Try.underlying24 ty25 Try.underlying25 ty26 Try.underlying26 ty28 Try.underlying28 ty29 Try.underlying29 ty30 Try.underlying30 ty31 Try.underlying31 ty32 Try.underlying32 ty33 Try.underlying33 ty34 Try.underlying34 ty35 Try.underlying35 ty36 Try.underlying36 ty37 Try.underlying37 ty38 Try.underlying38 ty39 Try.underlying39 ty40 Try.underlying40 ty41 Try.underlying41 ty42 Try.underlying42 ty43 Try.underlying43 ty44 Try.underlying44 ty45 Try.underlying45 ty46 Try.underlying46 ty47 Try.underlying47 ty48 Try.underlying48 ty49 Try.underlying49 ty50 Try.underlying50 ty51 Try.underlying51 ty52 Try.underlying52 ty53 Try.underlying53 ty54 Try.underlying54 ty55 Try.underlying55 ty56 Try.underlying56 ty57 Try.underlying57 ty58 Try.underlying58 ty59 Try.underlying59 ty60 Try.underlying60 ty61 Try.underlying61 ty62 Try.underlying62 ty63 Try.underlying63 ty64 Try.underlying64 ty65 Try.underlying65 ty66 Try.underlying66 ty67 Try.underlying67 ty68 Try.underlying68 ty69 Try.underlying69 ty70 Try.underlying70 ty71 Try.underlying71 ty72 Try.underlying72 ty73 Try.underlying73 ty74 Try.underlying74 ty75 Try.underlying75 ty76 Try.underlying76 ty77 Try.underlying77 ty78 Try.underlying78 ty79 Try.underlying79 ty80 Try.underlying80 ty81 Try.underlying81 ty82 Try.underlying82 ty83 Try.underlying83 ty84 Try.underlying84 ty85 Try.underlying85 ty86 Try.underlying86 ty87 Try.underlying87 ty88 Try.underlying88 ty89 Try.underlying89 ty90 Try.underlying90 ty91 Try.underlying91 ty92 Try.underlying92 ty93 Try.underlying93 ty94 Try.underlying94 ty95 Try.underlying95 ty96 Try.underlying96 ty97 Try.underlying97 ty99 Try.underlying99 ty100 Try.underlying100 ty101 Try.underlying101 ty102 Try.underlying102 ty103 Try.underlying103 ty104 Try.underlying104 ty105 Try.underlying105 ty106 Try.underlying106 ty107 Try.underlying107 ty108 Try.underlying108 ty109 Try.underlying109 ty110 Try.underlying110 ty111 Try.underlying111 ty112 Try.underlying112 ty113 Try.underlying113 ty114 Try.underlying114 ty115 Try.underlying115 ty116 Try.underlying116 ty117 Try.underlying117 ty118 Try.underlying118 ty119 Try.underlying119 ty120 Try.underlying120 ty122 Try.underlying122 ty123 Try.underlying123 ty124 Try.underlying124 ty125 Try.underlying125 ty126 Try.underlying126 ty127 Try.underlying127 ty129 Try.underlying129 ty130 Try.underlying130 ty131 Try.underlying131 ty132 Try.underlying132 ty133 Try.underlying133 ty134 Try.underlying134 ty135 Try.underlying135 ty136 Try.underlying136 ty137 Try.underlying137 ty138 Try.underlying138 ty140 Try.underlying140 ty141 Try.underlying141 ty142 Try.underlying142 ty143 Try.underlying143 ty144 Try.underlying144 ty145 Try.underlying145 ty146 Try.underlying146 ty147 Try.underlying147 ty148 Try.underlying148 ty149 Try.underlying149 ty150 Try.underlying150 ty151 Try.underlying151 ty152 Try.underlying152 ty153 Try.underlying153 ty154 Try.underlying154 ty155 Try.underlying155 ty156 Try.underlying156 ty157 Try.underlying157 ty158 Try.underlying158 ty159 Try.underlying159 ty160 Try.underlying160 ty161 Try.underlying161 ty163 Try.underlying163 ty164 Try.underlying164 ty170 Try.underlying170 ty174 Try.underlying174
end Go.Proofs.Ytnleocfkdidhoaa.Fa

namespace Go.Proofs.Ytnleocfkdidhoaa
open Go Go.Ab
theorem szStringS_ok (xs : List (List UInt8)) (left : Int) (h0 : 0 ≤ left) (h1 : left ≤ 1048576) (hf : (D.sl (xs.map encS)).Fit) :
    PCall Try.prog 133 [.c (.d (.sl (xs.map encS))), .c (.d (.i .i64 left))] (.c (.d (.i .i64 (sub1 left (xs.length + szRows (xs.map encS)))))) := by
  intro S
  obtain ⟨hf1, hf2⟩ := fit_sl hf
  rw [List.length_map] at hf1
  refine acall_cw (rs := [.tmp 4]) Try.checked.mixed Try.func133 Try.ntmps133 rfl rfl rfl rfl rfl ?_
  simp -implicitDefEqProofs (disch := omega) only [go_sem]
  with_reducible refine split2 (fun hb => ?_) (fun hb => ?_) <;> have h := hb <;> (try simp only [wf_preprocess] at h) <;> simp -implicitDefEqProofs (disch := omega) only [go_sem, hb] <;> (repeat (with_reducible refine And.intro ?_ ?_; focus first | omega | rfl | assumption | exact ⟨_, rfl, rfl⟩ | (simp; omega) | (simp; done)))
  · exact int_eq (sub1_no (by omega)).symm
  refine loop_at (ι := Nat × Int) Try.checked.mixed rfl [0, 1, 5] (fun y => [.c (.d (.sl (xs.map encS))), .c (.d (.i .i64 y.2)), .c (.d (.i .i64 y.1))]) (fun _ => [] :: S)
    (fun y => y.1 ≤ xs.length ∧ 0 ≤ y.2 ∧ y.2 ≤ 1048576 ∧ sub1 y.2 (szRows ((xs.map encS).drop y.1)) = sub1 left (xs.length + szRows (xs.map encS))) (fun y => xs.length - y.1) (0, left - xs.length) rfl rfl ⟨by omega, by omega, by omega, ?_⟩ ?_
  · unfold sub1
    rw [List.drop_zero]
    split <;> split <;> omega
  rintro ⟨i, l⟩ ⟨p1, p2, p3, p4⟩
  simp only at p1 p2 p3 p4
  simp -implicitDefEqProofs (disch := omega) only [go_sem]
  with_reducible refine split2 (fun hb => ?_) (fun hb => ?_) <;> have h := hb <;> (try simp only [wf_preprocess] at h) <;> simp -implicitDefEqProofs (disch := omega) only [go_sem, hb] <;> (repeat (with_reducible refine And.intro ?_ ?_; focus first | omega | rfl | assumption | exact ⟨_, rfl, rfl⟩ | (simp; omega) | (simp; done)))
  · have hi : i < xs.length := by omega
    have hl : xs[i].length ≤ 9223372036854775807 := fit_s (hf2 (encS xs[i]) (List.mem_map_of_mem (List.getElem_mem hi)) (.s xs[i]) (by simp [encS]))
    rw [List.drop_eq_getElem_cons (by rw [List.length_map]; exact hi), szRows, List.getElem_map] at p4
    simp only [encS, szRow, D.sz] at p4
    simp -implicitDefEqProofs (disch := omega) only [go_sem]
    (repeat (with_reducible refine And.intro ?_ ?_; focus first | omega | rfl | assumption | exact ⟨_, rfl, rfl⟩ | (simp; omega) | (simp; done)))
    with_reducible refine split2 (fun hb => ?_) (fun hb => ?_) <;> have h := hb <;> (try simp only [wf_preprocess] at h) <;> simp -implicitDefEqProofs (disch := omega) only [go_sem, hb] <;> (repeat (with_reducible refine And.intro ?_ ?_; focus first | omega | rfl | assumption | exact ⟨_, rfl, rfl⟩ | (simp; omega) | (simp; done)))
    · rw [← p4, sub1_no (by omega)]
    · refine inv_at (i + 1, l - xs[i].length) (by simp only; omega) rfl rfl ⟨by simp only; omega, by simp only; omega, by simp only; omega, ?_⟩
      simp only
      rw [← p4]
      unfold sub1
      split <;> split <;> omega
  · have hi : i = xs.length := by omega
    rw [hi, List.drop_of_length_le (by simp), szRows, sub1_yes (by omega)] at p4
    rw [← p4]
    refine int_eq ?_
    omega
theorem toStringS_ok (xs : List (List UInt8)) (hsz : xs.length + szRows (xs.map encS) ≤ 1048576) : PCall Try.prog 134 [.c (.d (.sl (xs.map encS)))] (.c (.d (.sl (xs.map encS)))) := by
  intro S
  refine acall_cw (rs := [.tmp 2]) Try.checked.mixed Try.func134 Try.ntmps134 rfl rfl rfl rfl rfl ?_
  simp -implicitDefEqProofs (disch := omega) only [go_sem]
  (repeat (with_reducible refine And.intro ?_ ?_; focus first | omega | rfl | assumption | exact ⟨_, rfl, rfl⟩ | (simp; omega) | (simp; done)))
  refine loop_at (ι := Nat × List (List D)) Try.checked.mixed rfl [0, 3, 4] (fun y => [.c (.d (.sl (xs.map encS))), .c (.msl (0, 0)), .c (.d (.i .i64 y.1))]) (fun y => [.mrow 1 y.2] :: S)
    (fun y => y.1 ≤ xs.length ∧ Filled 1 y.1 y.2 (xs.map encS)) (fun y => xs.length - y.1) (0, _) rfl rfl ⟨Nat.zero_le _, Filled.start (by simp) rfl⟩ ?_
  rintro ⟨i, R⟩ ⟨p1, p2⟩
  simp only at p1 p2
  simp -implicitDefEqProofs (disch := omega) only [go_sem]
  with_reducible refine split2 (fun hb => ?_) (fun hb => ?_) <;> have h := hb <;> (try simp only [wf_preprocess] at h) <;> simp -implicitDefEqProofs (disch := omega) only [go_sem, hb] <;> (repeat (with_reducible refine And.intro ?_ ?_; focus first | omega | rfl | assumption | exact ⟨_, rfl, rfl⟩ | (simp; omega) | (simp; done)))
  · have hi : i < xs.length := by omega
    have hR := p2.1
    rw [List.length_map] at hR
    (repeat (with_reducible refine And.intro ?_ ?_; focus first | omega | rfl | assumption | exact ⟨_, rfl, rfl⟩ | (simp; omega) | (simp; done)))
    refine inv_at (i + 1, _) (by simp only; omega) rfl rfl ⟨by simp only; omega, p2.step (by simp [hi, encS]) rfl⟩
  · have hi : i = xs.length := by omega
    rw [p2.done (by rw [List.length_map]; omega)]
theorem eqStringS_ok (xs ys : List (List UInt8)) (hsz : xs.length ≤ 1073741824) : PCall Try.prog 25 [.c (.d (.sl (xs.map encS))), .c (.d (.sl (ys.map encS)))] (.c (.d (.b (dec (xs = ys))))) := by
  intro S
  refine acall_cw (rs := [.tmp 4]) Try.checked.mixed Try.func25 Try.ntmps25 rfl rfl rfl rfl rfl ?_
  simp -implicitDefEqProofs (disch := omega) only [go_sem]
  with_reducible refine split2 (fun hb => ?_) (fun hb => ?_) <;> have h := hb <;> (try simp only [wf_preprocess] at h) <;> simp -implicitDefEqProofs (disch := omega) only [go_sem, hb] <;> (repeat (with_reducible refine And.intro ?_ ?_; focus first | omega | rfl | assumption | exact ⟨_, rfl, rfl⟩ | (simp; omega) | (simp; done)))
  · exact bool_eq (dec_false (fun e => h (by rw [e]))).symm
  have hl : xs.length = ys.length := by omega
  refine loop_at (ι := Nat) Try.checked.mixed rfl [0, 1, 5] (fun y => [.c (.d (.sl (xs.map encS))), .c (.d (.sl (ys.map encS))), .c (.d (.i .i64 y))]) (fun y => [] :: S)
    (fun i => i ≤ xs.length ∧ ∀ j, j < i → xs[j]? = ys[j]?) (fun y => xs.length - y) 0 rfl rfl ⟨Nat.zero_le _, fun j h => by omega⟩ ?_
  rintro i ⟨p1, p2⟩
  simp -implicitDefEqProofs (disch := omega) only [go_sem]
  with_reducible refine split2 (fun hb => ?_) (fun hb => ?_) <;> have h := hb <;> (try simp only [wf_preprocess] at h) <;> simp -implicitDefEqProofs (disch := omega) only [go_sem, hb] <;> (repeat (with_reducible refine And.intro ?_ ?_; focus first | omega | rfl | assumption | exact ⟨_, rfl, rfl⟩ | (simp; omega) | (simp; done)))
  · have hi : i < xs.length := by omega
    have hi' : i < ys.length := by omega
    (repeat (with_reducible refine And.intro ?_ ?_; focus first | omega | rfl | assumption | exact ⟨_, rfl, rfl⟩ | (simp; omega) | (simp; done)))
    with_reducible refine split2 (fun hb => ?_) (fun hb => ?_) <;> have h := hb <;> (try simp only [wf_preprocess] at h) <;> simp -implicitDefEqProofs (disch := omega) only [go_sem, hb] <;> (repeat (with_reducible refine And.intro ?_ ?_; focus first | omega | rfl | assumption | exact ⟨_, rfl, rfl⟩ | (simp; omega) | (simp; done)))
    · exact bool_eq (dec_false (fun e => h (by simp only [e]))).symm
    refine inv_at (i + 1) (by omega) rfl rfl ⟨by omega, fun j hj => ?_⟩
    by_cases e : j = i
    · subst e
      rw [List.getElem?_eq_getElem hi, List.getElem?_eq_getElem hi', h]
    · exact p2 j (by omega)
  · have hi : i = xs.length := by omega
    refine bool_eq (dec_true (List.ext_getElem? fun j => ?_)).symm
    by_cases hj : j < i
    · exact p2 j hj
    · rw [List.getElem?_eq_none (by omega), List.getElem?_eq_none (by omega)]
end Go.Proofs.Ytnleocfkdidhoaa

namespace Go.Proofs.Ytnleocfkdidhoaa
open Go Go.Ab
theorem l1Has_ok (xs : List (List UInt8)) (s : List UInt8) (hl : xs.length ≤ 1073741824) : PCall Try.prog 93 [.c (.d (.sl (xs.map encS))), .c (.d (.s s))] (.c (.d (.b (dec (s ∈ xs))))) := fun S => by
  refine acall_cw (rs := [.tmp 4]) Try.checked.mixed Try.func93 Try.ntmps93 rfl rfl rfl rfl rfl ?_
  simp -implicitDefEqProofs (disch := omega) only [go_sem, encS]
  refine loop_at (ι := Nat) Try.checked.mixed rfl [0, 1, 5] (fun i => [.c (.d (.sl (xs.map encS))), .c (.d (.s s)), .c (.d (.i .i64 i))]) (fun _ => [] :: S)
    (fun i => i ≤ xs.length ∧ ∀ j, j < i → ∀ h : j < xs.length, xs[j] ≠ s) (fun i => xs.length - i) 0 rfl rfl ⟨Nat.zero_le _, fun j h => by omega⟩ ?_
  rintro i ⟨p1, p2⟩
  simp -implicitDefEqProofs (disch := omega) only [go_sem, encS]
  with_reducible refine split2 (fun hb => ?_) (fun hb => ?_) <;> have h := hb <;> (try simp only [wf_preprocess] at h) <;> simp -implicitDefEqProofs (disch := omega) only [go_sem, hb, encS] <;> (repeat (with_reducible refine And.intro ?_ ?_; focus first | omega | rfl | assumption | exact ⟨_, rfl, rfl⟩ | (simp; omega) | (simp; done)))
  · have hi : i < xs.length := by omega
    with_reducible refine split2 (fun hb => ?_) (fun hb => ?_) <;> have h := hb <;> (try simp only [wf_preprocess] at h) <;> simp -implicitDefEqProofs (disch := omega) only [go_sem, hb, encS] <;> (repeat (with_reducible refine And.intro ?_ ?_; focus first | omega | rfl | assumption | exact ⟨_, rfl, rfl⟩ | (simp; omega) | (simp; done)))
    · exact bool_eq (dec_true (by rw [← h]; exact List.getElem_mem hi)).symm
    · refine inv_at (i + 1) (by omega) rfl rfl ⟨by omega, fun j hj hl => ?_⟩
      by_cases e : j = i
      · subst e; exact h
      · exact p2 j (by omega) hl
  · refine bool_eq (dec_false fun hm => ?_).symm
    obtain ⟨j, h1, h2⟩ := List.getElem_of_mem hm
    exact p2 j (by omega) h1 h2
theorem indexS_ok (xs : List (List UInt8)) (s : List UInt8) (hl : xs.length ≤ 1073741824) : PCall Try.prog 91 [.c (.d (.sl (xs.map encS))), .c (.d (.s s))] (.c (.d (.i .i64 (indexS xs s)))) := fun S => by
  refine acall_cw (rs := [.tmp 4]) Try.checked.mixed Try.func91 Try.ntmps91 rfl rfl rfl rfl rfl ?_
  simp -implicitDefEqProofs (disch := omega) only [go_sem, encS]
  refine loop_at (ι := Nat) Try.checked.mixed rfl [0, 1, 7, 8] (fun i => [.c (.d (.sl (xs.map encS))), .c (.d (.s s)), .c (.d (.i .i64 xs.length)), .c (.d (.i .i64 i))]) (fun _ => [] :: S)
    (fun i => i ≤ xs.length ∧ ∀ j, j < i → xs.getD j [] ≠ s) (fun i => xs.length - i) 0 rfl rfl ⟨Nat.zero_le _, fun j h => by omega⟩ ?_
  rintro i ⟨p1, p2⟩
  simp -implicitDefEqProofs (disch := omega) only [go_sem, encS]
  with_reducible refine split2 (fun hb => ?_) (fun hb => ?_) <;> have h := hb <;> (try simp only [wf_preprocess] at h) <;> simp -implicitDefEqProofs (disch := omega) only [go_sem, hb, encS] <;> (repeat (with_reducible refine And.intro ?_ ?_; focus first | omega | rfl | assumption | exact ⟨_, rfl, rfl⟩ | (simp; omega) | (simp; done)))
  · have hi : i < xs.length := by omega
    have e : xs.getD i [] = xs[i] := by simp [List.getD, hi]
    with_reducible refine split2 (fun hb => ?_) (fun hb => ?_) <;> have h := hb <;> (try simp only [wf_preprocess] at h) <;> simp -implicitDefEqProofs (disch := omega) only [go_sem, hb, encS] <;> (repeat (with_reducible refine And.intro ?_ ?_; focus first | omega | rfl | assumption | exact ⟨_, rfl, rfl⟩ | (simp; omega) | (simp; done)))
    · rw [indexS_here hi p2 (by rw [e]; exact h.symm)]
    · refine inv_at (i + 1) (by omega) rfl rfl ⟨by omega, fun j hj => ?_⟩
      by_cases e' : j = i
      · subst e'; rw [e]; exact fun x => h x.symm
      · exact p2 j (by omega)
  · rw [indexS_no (fun j hj => p2 j (by omega))]
theorem containsS_ok (xs : List (List UInt8)) (s : List UInt8) (hl : xs.length ≤ 1073741824) : PCall Try.prog 49 [.c (.d (.sl (xs.map encS))), .c (.d (.s s))] (.c (.d (.b (dec (s ∈ xs))))) := fun S => by
  refine acall_cw (rs := [.tmp 4]) Try.checked.mixed Try.func49 Try.ntmps49 rfl rfl rfl rfl rfl ?_
  simp -implicitDefEqProofs (disch := omega) only [go_sem]
  refine call_w (indexS_ok xs s hl) ?_
  simp -implicitDefEqProofs (disch := omega) only [go_sem] <;> (repeat (with_reducible refine And.intro ?_ ?_; focus first | omega | rfl | assumption | exact ⟨_, rfl, rfl⟩ | (simp; omega) | (simp; done)))
  exact bool_eq indexS_pos
end Go.Proofs.Ytnleocfkdidhoaa

namespace Go.Proofs.Ytnleocfkdidhoaa
open Go Go.Ab
end Go.Proofs.Ytnleocfkdidhoaa

namespace Go.Proofs.Ytnleocfkdidhoaa
open Go Go.Ab
theorem arg_sz {x : MType} {i : Nat} (hi : i < x.fArgs.length) (h : x.sz ≤ 4194304) : x.fArgs[i].sz ≤ 4194304 ∧ x.fArgs.length ≤ 4194304 ∧ x.fName.length ≤ 4194304 := by
  have hx : x.fArgs[i].sz ≤ szRows (x.fArgs.map MType.enc) := szRows_mem (List.mem_map_of_mem (List.getElem_mem hi))
  simp only [MType.sz, MType.enc_eq, szRow, D.sz, List.length_map] at h
  omega
theorem cnts_drop : ∀ {ts : List MType} {i : Nat} (hi : i < ts.length), MType.cnts (ts.drop i) = ts[i].cnt + MType.cnts (ts.drop (i + 1)) := fun {ts} {i} hi => by
  rw [List.drop_eq_getElem_cons hi, MType.cnts]
end Go.Proofs.Ytnleocfkdidhoaa

namespace Go.Proofs.Ytnleocfkdidhoaa
open Go Go.Ab
end Go.Proofs.Ytnleocfkdidhoaa

namespace Go.Ab
noncomputable def namesOk (xs : List (List UInt8)) : Bool := dec xs.Nodup && xs.all validName
end Go.Ab
namespace Go.Proofs.Ytnleocfkdidhoaa
open Go Go.Ab
end Go.Proofs.Ytnleocfkdidhoaa

namespace Go.Ab
def mgK (n : Nat) : Key → Key
  | (0, j) => (0, n + j)
  | (l + 1, j) => (l, j)
def C.mg (n : Nat) : C → C
  | .d x => .d x
  | .any => .any
  | .tsl k es => .tsl (mgK n k) es
  | .fsl es => .fsl es
  | .ptr k off => .ptr (mgK n k) off
  | .rptr cs => .rptr cs
  | .eptr k i off => .eptr (mgK n k) i off
  | .msl k => .msl (mgK n k)
  | .fn f caps => .fn f (caps.map fun x => (mgK n x.1, x.2))
  | .mp k => .mp (mgK n k)
  | .lfl m es => .lfl m es
  | .xp k r p => .xp (mgK n k) r p
  | .xq k r p z i off => .xq (mgK n k) r p z i off
def V.mg (n : Nat) : V → V
  | .c x => .c (x.mg n)
  | .agg cs => .agg (cs.map (C.mg n))
  | .tup xs => .tup (xs.map fun y => (y.1, y.2.map (C.mg n)))
  | .any => .any
def Obj.mg (n : Nat) : Obj → Obj
  | .box cs => .box (cs.map (C.mg n))
  | o => o
section
variable {P : Program} {w : World} {σ : Nat → Nat} {own own0 : List Obj} {Ω : Store} {bo bo0 : List Value} {bΩ : Hs}
end
/-- What is asked where a function ends whose objects live on. -/
def escQ (P : Program) (rs : List ResultVar) (post : V → Store → Prop) (e : Exit) (s : St) : Prop :=
  match e with
  | .normal | .ret => (resV P rs s).1 ∧ match s.st with
    | own :: own0 :: Ω => post ((resV P rs s).2.mg own0.length) ((own0 ++ own.map (Obj.mg own0.length)) :: Ω)
    | _ => False
  | _ => False
section
variable {P : Program} {N : Nat} {s : St}
def escS (P : Program) (rs : List ResultVar) (post : V → Store → Prop) (s : St) (r : R) : Prop := r.1 ∧ match s.st with
  | own :: own0 :: Ω => post (r.2.mg own0.length) ((own0 ++ own.map (Obj.mg own0.length)) :: Ω)
  | _ => False
@[congr] theorem escS_congr {rs : List ResultVar} {post : V → Store → Prop} {s s' : St} {r r' : R} (h1 : s = s') (h2 : r = r') : escS P rs post s r = escS P rs post s' r' := by rw [h1, h2]
theorem escQ_ret {rs : List ResultVar} {post : V → Store → Prop} {tm : List (Nat × V)} {S : Store} : escQ P rs post .ret ⟨tm, S⟩ = escS P rs post ⟨tm, S⟩ (resV P rs ⟨tm, S⟩) := rfl
theorem escQ_normal {rs : List ResultVar} {post : V → Store → Prop} {tm : List (Nat × V)} {S : Store} : escQ P rs post .normal ⟨tm, S⟩ = escS P rs post ⟨tm, S⟩ (resV P rs ⟨tm, S⟩) := rfl
theorem escS_mk {rs : List ResultVar} {post : V → Store → Prop} {tm : List (Nat × V)} {own own0 : List Obj} {Ω : Store} {p : Prop} {v : V} :
    escS P rs post ⟨tm, own :: own0 :: Ω⟩ (p, v) = (p ∧ post (v.mg own0.length) ((own0 ++ own.map (Obj.mg own0.length)) :: Ω)) := rfl
theorem mgK_0 {n j : Nat} : mgK n (0, j) = (0, n + j) := rfl
theorem mgK_1 {n l j : Nat} : mgK n (1 + l, j) = (l, j) := by rw [Nat.add_comm]; rfl
end
attribute [go_sem ↓] escQ_ret escQ_normal
attribute [go_sem] escS_mk V.mg C.mg Obj.mg mgK_0 mgK_1
end Go.Ab

namespace Go.Ab
end Go.Ab
namespace Go.Proofs.Ytnleocfkdidhoaa
open Go Go.Ab
end Go.Proofs.Ytnleocfkdidhoaa

namespace Go.Proofs.Ytnleocfkdidhoaa
open Go Go.Ab
theorem szType_all : ∀ n : Nat, (∀ x : MType, SizeOf.sizeOf x < n → ∀ left : Int, 0 ≤ left → left ≤ 1048576 → FitL x.enc → PCall Try.prog 52 [x.v, .c (.d (.i .i64 left))] (.c (.d (.i .i64 (sub1 left x.sz))))) ∧
    (∀ xs : List MType, SizeOf.sizeOf xs < n → ∀ left : Int, 0 ≤ left → left ≤ 1048576 → (D.sl (xs.map MType.enc)).Fit → PCall Try.prog 94 [.c (.d (.sl (xs.map MType.enc))), .c (.d (.i .i64 left))] (.c (.d (.i .i64 (sub1 left (xs.length + szRows (xs.map MType.enc)))))))
  | 0 => ⟨fun x h => by omega, fun x h => by omega⟩
  | n + 1 => by
    obtain ⟨ihType, ihSType⟩ := szType_all n
    refine ⟨fun x hn left h0 h1 hf S => ?_, fun xs hn left h0 h1 hf S => ?_⟩
    · have lArgs := MType.lt_Args x
      simp only [MType.enc_eq, List.cons_append, List.nil_append, fitL_cons, fitL_append, fitL_nil_iff, and_true] at hf
      obtain ⟨fKind, fName, fArgs⟩ := hf
      have hz : x.sz = x.fName.length + ((x.fArgs.length + szRows (x.fArgs.map MType.enc))) := by
        simp only [MType.sz, MType.enc_eq, szRow, szRow_append, D.sz, List.length_map, Nat.add_zero, Nat.zero_add] <;> omega
      refine acall_cw (rs := [.tmp 4]) Try.checked.mixed Try.func52 Try.ntmps52 rfl rfl rfl rfl rfl ?_
      rw [hz]
      have gName := fit_s fName
      simp -implicitDefEqProofs (disch := omega) only [go_sem]
      with_reducible refine split2 (fun hb => ?_) (fun hb => ?_) <;> have h := hb <;> (try simp only [wf_preprocess] at h) <;> simp -implicitDefEqProofs (disch := omega) only [go_sem, hb] <;> (repeat (with_reducible refine And.intro ?_ ?_; focus first | omega | rfl | assumption | exact ⟨_, rfl, rfl⟩ | (simp; omega) | (simp; done)))
      · exact int_eq (sub1_no (by omega)).symm
      refine call_w (ihSType x.fArgs (by omega) _ (by omega) (by omega) fArgs) ?_
      simp -implicitDefEqProofs (disch := omega) only [go_sem]
      with_reducible refine split2 (fun hb => ?_) (fun hb => ?_) <;> have h := hb <;> (try simp only [wf_preprocess] at h) <;> simp -implicitDefEqProofs (disch := omega) only [go_sem, hb] <;> (repeat (with_reducible refine And.intro ?_ ?_; focus first | omega | rfl | assumption | exact ⟨_, rfl, rfl⟩ | (simp; omega) | (simp; done)))
      · have h' := sub1_neg h
        exact int_eq (sub1_no (by omega)).symm
      have hArgs := sub1_nn h
      simp only [hArgs.1]
      refine int_eq ?_
      rw [sub1_yes (by omega)]
      omega
    · obtain ⟨hf1, hf2⟩ := fit_sl hf
      rw [List.length_map] at hf1
      refine acall_cw (rs := [.tmp 4]) Try.checked.mixed Try.func94 Try.ntmps94 rfl rfl rfl rfl rfl ?_
      simp -implicitDefEqProofs (disch := omega) only [go_sem]
      with_reducible refine split2 (fun hb => ?_) (fun hb => ?_) <;> have h := hb <;> (try simp only [wf_preprocess] at h) <;> simp -implicitDefEqProofs (disch := omega) only [go_sem, hb] <;> (repeat (with_reducible refine And.intro ?_ ?_; focus first | omega | rfl | assumption | exact ⟨_, rfl, rfl⟩ | (simp; omega) | (simp; done)))
      · exact int_eq (sub1_no (by omega)).symm
      refine loop_at (ι := Nat × Int) Try.checked.mixed rfl [0, 1, 5] (fun y => [.c (.d (.sl (xs.map MType.enc))), .c (.d (.i .i64 y.2)), .c (.d (.i .i64 y.1))]) (fun _ => [] :: S)
        (fun y => y.1 ≤ xs.length ∧ 0 ≤ y.2 ∧ y.2 ≤ 1048576 ∧ sub1 y.2 (szRows ((xs.map MType.enc).drop y.1)) = sub1 left (xs.length + szRows (xs.map MType.enc))) (fun y => xs.length - y.1) (0, left - xs.length) rfl rfl ⟨by omega, by omega, by omega, ?_⟩ ?_
      · unfold sub1
        rw [List.drop_zero]
        split <;> split <;> omega
      rintro ⟨i, l⟩ ⟨p1, p2, p3, p4⟩
      simp only at p1 p2 p3 p4
      simp -implicitDefEqProofs (disch := omega) only [go_sem]
      with_reducible refine split2 (fun hb => ?_) (fun hb => ?_) <;> have h := hb <;> (try simp only [wf_preprocess] at h) <;> simp -implicitDefEqProofs (disch := omega) only [go_sem, hb] <;> (repeat (with_reducible refine And.intro ?_ ?_; focus first | omega | rfl | assumption | exact ⟨_, rfl, rfl⟩ | (simp; omega) | (simp; done)))
      · have hi : i < xs.length := by omega
        rw [List.drop_eq_getElem_cons (by rw [List.length_map]; exact hi), szRows, List.getElem_map, MType.sz_def] at p4
        (repeat (with_reducible refine And.intro ?_ ?_; focus first | omega | rfl | assumption | exact ⟨_, rfl, rfl⟩ | (simp; omega) | (simp; done)))
        refine call_w (ihType xs[i] (by have := List.sizeOf_lt_of_mem (List.getElem_mem hi); omega) _ (by omega) (by omega) (hf2 _ (List.mem_map_of_mem (List.getElem_mem hi)))) ?_
        simp -implicitDefEqProofs (disch := omega) only [go_sem]
        with_reducible refine split2 (fun hb => ?_) (fun hb => ?_) <;> have h := hb <;> (try simp only [wf_preprocess] at h) <;> simp -implicitDefEqProofs (disch := omega) only [go_sem, hb] <;> (repeat (with_reducible refine And.intro ?_ ?_; focus first | omega | rfl | assumption | exact ⟨_, rfl, rfl⟩ | (simp; omega) | (simp; done)))
        · have h' := sub1_neg h
          rw [← p4, sub1_no (by omega)]
        · have h' := sub1_nn h
          refine inv_at (i + 1, sub1 l _) (by simp only; omega) rfl rfl ⟨by simp only; omega, by simp only; omega, by simp only; omega, ?_⟩
          simp only
          rw [← p4, h'.1]
          unfold sub1
          split <;> split <;> omega
      · have hi : i = xs.length := by omega
        rw [hi, List.drop_of_length_le (by simp), szRows, sub1_yes (by omega)] at p4
        rw [← p4]
        refine int_eq ?_
        omega
theorem szType_ok (x : MType) : ∀ left : Int, 0 ≤ left → left ≤ 1048576 → FitL x.enc → PCall Try.prog 52 [x.v, .c (.d (.i .i64 left))] (.c (.d (.i .i64 (sub1 left x.sz)))) := (szType_all _).1 x (Nat.lt_succ_self _)
theorem toType_all : ∀ n : Nat, (∀ x : MType, SizeOf.sizeOf x < n → x.sz ≤ 1048576 → PCall Try.prog 56 [x.v] x.v) ∧
    (∀ xs : List MType, SizeOf.sizeOf xs < n → xs.length + szRows (xs.map MType.enc) ≤ 1048576 → PCall Try.prog 96 [.c (.d (.sl (xs.map MType.enc)))] (.c (.d (.sl (xs.map MType.enc)))))
  | 0 => ⟨fun x h => by omega, fun x h => by omega⟩
  | n + 1 => by
    obtain ⟨ihType, ihSType⟩ := toType_all n
    refine ⟨fun x hn hsz S => ?_, fun xs hn hsz S => ?_⟩
    · have lArgs := MType.lt_Args x
      simp only [MType.sz, MType.enc_eq, szRow, szRow_append, D.sz, List.length_map] at hsz
      refine acall_cw (rs := [.cell 2 26]) Try.checked.mixed Try.func56 Try.ntmps56 rfl rfl rfl rfl rfl ?_
      simp -implicitDefEqProofs (disch := omega) only [go_sem]
      refine call_w (ihSType x.fArgs (by omega) (by omega)) ?_
      simp -implicitDefEqProofs (disch := omega) only [go_sem]
    · refine acall_cw (rs := [.tmp 2]) Try.checked.mixed Try.func96 Try.ntmps96 rfl rfl rfl rfl rfl ?_
      simp -implicitDefEqProofs (disch := omega) only [go_sem]
      (repeat (with_reducible refine And.intro ?_ ?_; focus first | omega | rfl | assumption | exact ⟨_, rfl, rfl⟩ | (simp; omega) | (simp; done)))
      refine loop_at (ι := Nat × List (List D)) Try.checked.mixed rfl [0, 3, 4] (fun y => [.c (.d (.sl (xs.map MType.enc))), .c (.msl (0, 0)), .c (.d (.i .i64 y.1))]) (fun y => [.mrow 3 y.2] :: S)
        (fun y => y.1 ≤ xs.length ∧ Filled 3 y.1 y.2 (xs.map MType.enc)) (fun y => xs.length - y.1) (0, _) rfl rfl ⟨Nat.zero_le _, Filled.start (by simp) rfl⟩ ?_
      rintro ⟨i, R⟩ ⟨p1, p2⟩
      simp only at p1 p2
      simp -implicitDefEqProofs (disch := omega) only [go_sem]
      with_reducible refine split2 (fun hb => ?_) (fun hb => ?_) <;> have h := hb <;> (try simp only [wf_preprocess] at h) <;> simp -implicitDefEqProofs (disch := omega) only [go_sem, hb] <;> (repeat (with_reducible refine And.intro ?_ ?_; focus first | omega | rfl | assumption | exact ⟨_, rfl, rfl⟩ | (simp; omega) | (simp; done)))
      · have hi : i < xs.length := by omega
        have hx : xs[i].sz ≤ szRows (xs.map MType.enc) := szRows_mem (List.mem_map_of_mem (List.getElem_mem hi))
        (repeat (with_reducible refine And.intro ?_ ?_; focus first | omega | rfl | assumption | exact ⟨_, rfl, rfl⟩ | (simp; omega) | (simp; done)))
        refine call_w (ihType xs[i] (by have := List.sizeOf_lt_of_mem (List.getElem_mem hi); omega) (by omega)) ?_
        simp -implicitDefEqProofs (disch := omega) only [go_sem]
        have hR := p2.1
        rw [List.length_map] at hR
        (repeat (with_reducible refine And.intro ?_ ?_; focus first | omega | rfl | assumption | exact ⟨_, rfl, rfl⟩ | (simp; omega) | (simp; done)))
        refine inv_at (i + 1, _) (by simp only; omega) rfl rfl ⟨by simp only; omega, p2.step (by simp [hi, MType.enc_eq]) rfl⟩
      · have hi : i = xs.length := by omega
        rw [p2.done (by rw [List.length_map]; omega)]
theorem toType_ok (x : MType) : x.sz ≤ 1048576 → PCall Try.prog 56 [x.v] x.v := (toType_all _).1 x (Nat.lt_succ_self _)
theorem eqType_all : ∀ n : Nat, (∀ x : MType, SizeOf.sizeOf x < n → ∀ y : MType, x.sz ≤ 1048576 → PCall Try.prog 60 [x.v, y.v] (.c (.d (.b (dec (x = y)))))) ∧
    (∀ xs : List MType, SizeOf.sizeOf xs < n → ∀ ys : List MType, xs.length + szRows (xs.map MType.enc) ≤ 1048576 → PCall Try.prog 100 [.c (.d (.sl (xs.map MType.enc))), .c (.d (.sl (ys.map MType.enc)))] (.c (.d (.b (dec (xs = ys))))))
  | 0 => ⟨fun x h => by omega, fun x h => by omega⟩
  | n + 1 => by
    obtain ⟨ihType, ihSType⟩ := eqType_all n
    refine ⟨fun x hn y hsz S => ?_, fun xs hn ys hsz S => ?_⟩
    · have lArgs := MType.lt_Args x
      simp only [MType.sz, MType.enc_eq, szRow, szRow_append, D.sz, List.length_map] at hsz
      refine acall_cw (rs := [.tmp 4]) Try.checked.mixed Try.func60 Try.ntmps60 rfl rfl rfl rfl rfl ?_
      simp -implicitDefEqProofs (disch := omega) only [go_sem]
      with_reducible refine split2 (fun hb => ?_) (fun hb => ?_) <;> have h := hb <;> (try simp only [wf_preprocess] at h) <;> simp -implicitDefEqProofs (disch := omega) only [go_sem, hb] <;> (repeat (with_reducible refine And.intro ?_ ?_; focus first | omega | rfl | assumption | exact ⟨_, rfl, rfl⟩ | (simp; omega) | (simp; done)))
      · exact bool_eq (dec_false (fun e => h (by rw [e]))).symm
      have eKind := h
      clear h
      with_reducible refine split2 (fun hb => ?_) (fun hb => ?_) <;> have h := hb <;> (try simp only [wf_preprocess] at h) <;> simp -implicitDefEqProofs (disch := omega) only [go_sem, hb] <;> (repeat (with_reducible refine And.intro ?_ ?_; focus first | omega | rfl | assumption | exact ⟨_, rfl, rfl⟩ | (simp; omega) | (simp; done)))
      · exact bool_eq (dec_false (fun e => h (by rw [e]))).symm
      have eName := h
      clear h
      refine call_w (ihSType x.fArgs (by omega) _ (by omega)) ?_
      simp -implicitDefEqProofs (disch := omega) only [go_sem]
      with_reducible refine split2 (fun hb => ?_) (fun hb => ?_) <;> have h := hb <;> (try simp only [wf_preprocess] at h) <;> simp -implicitDefEqProofs (disch := omega) only [go_sem, hb] <;> (repeat (with_reducible refine And.intro ?_ ?_; focus first | omega | rfl | assumption | exact ⟨_, rfl, rfl⟩ | (simp; omega) | (simp; done)))
      · exact bool_eq (dec_false (fun e => h (by rw [e]))).symm
      have eArgs := h
      clear h
      exact bool_eq (dec_true (MType.ext eKind eName eArgs)).symm
    · refine acall_cw (rs := [.tmp 4]) Try.checked.mixed Try.func100 Try.ntmps100 rfl rfl rfl rfl rfl ?_
      simp -implicitDefEqProofs (disch := omega) only [go_sem]
      with_reducible refine split2 (fun hb => ?_) (fun hb => ?_) <;> have h := hb <;> (try simp only [wf_preprocess] at h) <;> simp -implicitDefEqProofs (disch := omega) only [go_sem, hb] <;> (repeat (with_reducible refine And.intro ?_ ?_; focus first | omega | rfl | assumption | exact ⟨_, rfl, rfl⟩ | (simp; omega) | (simp; done)))
      · exact bool_eq (dec_false (fun e => h (by rw [e]))).symm
      have hl : xs.length = ys.length := by omega
      refine loop_at (ι := Nat) Try.checked.mixed rfl [0, 1, 5] (fun y => [.c (.d (.sl (xs.map MType.enc))), .c (.d (.sl (ys.map MType.enc))), .c (.d (.i .i64 y))]) (fun y => [] :: S)
        (fun i => i ≤ xs.length ∧ ∀ j, j < i → xs[j]? = ys[j]?) (fun y => xs.length - y) 0 rfl rfl ⟨Nat.zero_le _, fun j h => by omega⟩ ?_
      rintro i ⟨p1, p2⟩
      simp -implicitDefEqProofs (disch := omega) only [go_sem]
      with_reducible refine split2 (fun hb => ?_) (fun hb => ?_) <;> have h := hb <;> (try simp only [wf_preprocess] at h) <;> simp -implicitDefEqProofs (disch := omega) only [go_sem, hb] <;> (repeat (with_reducible refine And.intro ?_ ?_; focus first | omega | rfl | assumption | exact ⟨_, rfl, rfl⟩ | (simp; omega) | (simp; done)))
      · have hi : i < xs.length := by omega
        have hi' : i < ys.length := by omega
        have hx : xs[i].sz ≤ szRows (xs.map MType.enc) := szRows_mem (List.mem_map_of_mem (List.getElem_mem hi))
        (repeat (with_reducible refine And.intro ?_ ?_; focus first | omega | rfl | assumption | exact ⟨_, rfl, rfl⟩ | (simp; omega) | (simp; done)))
        refine call_w (ihType xs[i] (by have := List.sizeOf_lt_of_mem (List.getElem_mem hi); omega) ys[i] (by omega)) ?_
        simp -implicitDefEqProofs (disch := omega) only [go_sem]
        with_reducible refine split2 (fun hb => ?_) (fun hb => ?_) <;> have h := hb <;> (try simp only [wf_preprocess] at h) <;> simp -implicitDefEqProofs (disch := omega) only [go_sem, hb] <;> (repeat (with_reducible refine And.intro ?_ ?_; focus first | omega | rfl | assumption | exact ⟨_, rfl, rfl⟩ | (simp; omega) | (simp; done)))
        · exact bool_eq (dec_false (fun e => h (by simp only [e]))).symm
        refine inv_at (i + 1) (by omega) rfl rfl ⟨by omega, fun j hj => ?_⟩
        by_cases e : j = i
        · subst e
          rw [List.getElem?_eq_getElem hi, List.getElem?_eq_getElem hi', h]
        · exact p2 j (by omega)
      · have hi : i = xs.length := by omega
        refine bool_eq (dec_true (List.ext_getElem? fun j => ?_)).symm
        by_cases hj : j < i
        · exact p2 j hj
        · rw [List.getElem?_eq_none (by omega), List.getElem?_eq_none (by omega)]
theorem eqType_ok (x : MType) : ∀ y : MType, x.sz ≤ 1048576 → PCall Try.prog 60 [x.v, y.v] (.c (.d (.b (dec (x = y))))) := (eqType_all _).1 x (Nat.lt_succ_self _)
end Go.Proofs.Ytnleocfkdidhoaa

namespace Go.Proofs.Ytnleocfkdidhoaa
open Go Go.Ab
end Go.Proofs.Ytnleocfkdidhoaa

namespace Go.Proofs.Ytnleocfkdidhoaa
open Go Go.Ab
end Go.Proofs.Ytnleocfkdidhoaa

namespace Go.Proofs.Ytnleocfkdidhoaa
open Go Go.Ab
theorem szExpr_all : ∀ n : Nat, (∀ x : MExpr, SizeOf.sizeOf x < n → ∀ left : Int, 0 ≤ left → left ≤ 1048576 → FitL x.enc → PCall Try.prog 21 [x.v, .c (.d (.i .i64 left))] (.c (.d (.i .i64 (sub1 left x.sz))))) ∧
    (∀ xs : List MExpr, SizeOf.sizeOf xs < n → ∀ left : Int, 0 ≤ left → left ≤ 1048576 → (D.sl (xs.map MExpr.enc)).Fit → PCall Try.prog 53 [.c (.d (.sl (xs.map MExpr.enc))), .c (.d (.i .i64 left))] (.c (.d (.i .i64 (sub1 left (xs.length + szRows (xs.map MExpr.enc))))))) ∧
    (∀ x : MArm, SizeOf.sizeOf x < n → ∀ left : Int, 0 ≤ left → left ≤ 1048576 → FitL x.enc → PCall Try.prog 95 [x.v, .c (.d (.i .i64 left))] (.c (.d (.i .i64 (sub1 left x.sz))))) ∧
    (∀ xs : List MArm, SizeOf.sizeOf xs < n → ∀ left : Int, 0 ≤ left → left ≤ 1048576 → (D.sl (xs.map MArm.enc)).Fit → PCall Try.prog 54 [.c (.d (.sl (xs.map MArm.enc))), .c (.d (.i .i64 left))] (.c (.d (.i .i64 (sub1 left (xs.length + szRows (xs.map MArm.enc)))))))
  | 0 => ⟨fun x h => by omega, fun x h => by omega, fun x h => by omega, fun x h => by omega⟩
  | n + 1 => by
    obtain ⟨ihExpr, ihSExpr, ihArm, ihSArm⟩ := szExpr_all n
    refine ⟨fun x hn left h0 h1 hf S => ?_, fun xs hn left h0 h1 hf S => ?_, fun x hn left h0 h1 hf S => ?_, fun xs hn left h0 h1 hf S => ?_⟩
    · have lArgs := MExpr.lt_Args x
      have lArms := MExpr.lt_Arms x
      simp only [MExpr.enc_eq, List.cons_append, List.nil_append, fitL_cons, fitL_append, fitL_nil_iff, and_true] at hf
      obtain ⟨fKind, fTrait, fName, fN, fType, fArgs, fArms⟩ := hf
      have hz : x.sz = x.fTrait.length + (x.fName.length + (x.fType.sz + ((x.fArgs.length + szRows (x.fArgs.map MExpr.enc)) + ((x.fArms.length + szRows (x.fArms.map MArm.enc)))))) := by
        simp only [MExpr.sz, MExpr.enc_eq, szRow, szRow_append, D.sz, List.length_map, Nat.add_zero, Nat.zero_add, MType.sz_def] <;> omega
      refine acall_cw (rs := [.tmp 4]) Try.checked.mixed Try.func21 Try.ntmps21 rfl rfl rfl rfl rfl ?_
      rw [hz]
      have gTrait := fit_s fTrait
      have gName := fit_s fName
      simp -implicitDefEqProofs (disch := omega) only [go_sem]
      with_reducible refine split2 (fun hb => ?_) (fun hb => ?_) <;> have h := hb <;> (try simp only [wf_preprocess] at h) <;> simp -implicitDefEqProofs (disch := omega) only [go_sem, hb] <;> (repeat (with_reducible refine And.intro ?_ ?_; focus first | omega | rfl | assumption | exact ⟨_, rfl, rfl⟩ | (simp; omega) | (simp; done)))
      · exact int_eq (sub1_no (by omega)).symm
      with_reducible refine split2 (fun hb => ?_) (fun hb => ?_) <;> have h := hb <;> (try simp only [wf_preprocess] at h) <;> simp -implicitDefEqProofs (disch := omega) only [go_sem, hb] <;> (repeat (with_reducible refine And.intro ?_ ?_; focus first | omega | rfl | assumption | exact ⟨_, rfl, rfl⟩ | (simp; omega) | (simp; done)))
      · exact int_eq (sub1_no (by omega)).symm
      refine call_w (szType_ok x.fType _ (by omega) (by omega) fType) ?_
      simp -implicitDefEqProofs (disch := omega) only [go_sem]
      with_reducible refine split2 (fun hb => ?_) (fun hb => ?_) <;> have h := hb <;> (try simp only [wf_preprocess] at h) <;> simp -implicitDefEqProofs (disch := omega) only [go_sem, hb] <;> (repeat (with_reducible refine And.intro ?_ ?_; focus first | omega | rfl | assumption | exact ⟨_, rfl, rfl⟩ | (simp; omega) | (simp; done)))
      · have h' := sub1_neg h
        exact int_eq (sub1_no (by omega)).symm
      have hType := sub1_nn h
      simp only [hType.1]
      refine call_w (ihSExpr x.fArgs (by omega) _ (by omega) (by omega) fArgs) ?_
      simp -implicitDefEqProofs (disch := omega) only [go_sem]
      with_reducible refine split2 (fun hb => ?_) (fun hb => ?_) <;> have h := hb <;> (try simp only [wf_preprocess] at h) <;> simp -implicitDefEqProofs (disch := omega) only [go_sem, hb] <;> (repeat (with_reducible refine And.intro ?_ ?_; focus first | omega | rfl | assumption | exact ⟨_, rfl, rfl⟩ | (simp; omega) | (simp; done)))
      · have h' := sub1_neg h
        exact int_eq (sub1_no (by omega)).symm
      have hArgs := sub1_nn h
      simp only [hArgs.1]
      refine call_w (ihSArm x.fArms (by omega) _ (by omega) (by omega) fArms) ?_
      simp -implicitDefEqProofs (disch := omega) only [go_sem]
      with_reducible refine split2 (fun hb => ?_) (fun hb => ?_) <;> have h := hb <;> (try simp only [wf_preprocess] at h) <;> simp -implicitDefEqProofs (disch := omega) only [go_sem, hb] <;> (repeat (with_reducible refine And.intro ?_ ?_; focus first | omega | rfl | assumption | exact ⟨_, rfl, rfl⟩ | (simp; omega) | (simp; done)))
      · have h' := sub1_neg h
        exact int_eq (sub1_no (by omega)).symm
      have hArms := sub1_nn h
      simp only [hArms.1]
      refine int_eq ?_
      rw [sub1_yes (by omega)]
      omega
    · obtain ⟨hf1, hf2⟩ := fit_sl hf
      rw [List.length_map] at hf1
      refine acall_cw (rs := [.tmp 4]) Try.checked.mixed Try.func53 Try.ntmps53 rfl rfl rfl rfl rfl ?_
      simp -implicitDefEqProofs (disch := omega) only [go_sem]
      with_reducible refine split2 (fun hb => ?_) (fun hb => ?_) <;> have h := hb <;> (try simp only [wf_preprocess] at h) <;> simp -implicitDefEqProofs (disch := omega) only [go_sem, hb] <;> (repeat (with_reducible refine And.intro ?_ ?_; focus first | omega | rfl | assumption | exact ⟨_, rfl, rfl⟩ | (simp; omega) | (simp; done)))
      · exact int_eq (sub1_no (by omega)).symm
      refine loop_at (ι := Nat × Int) Try.checked.mixed rfl [0, 1, 5] (fun y => [.c (.d (.sl (xs.map MExpr.enc))), .c (.d (.i .i64 y.2)), .c (.d (.i .i64 y.1))]) (fun _ => [] :: S)
        (fun y => y.1 ≤ xs.length ∧ 0 ≤ y.2 ∧ y.2 ≤ 1048576 ∧ sub1 y.2 (szRows ((xs.map MExpr.enc).drop y.1)) = sub1 left (xs.length + szRows (xs.map MExpr.enc))) (fun y => xs.length - y.1) (0, left - xs.length) rfl rfl ⟨by omega, by omega, by omega, ?_⟩ ?_
      · unfold sub1
        rw [List.drop_zero]
        split <;> split <;> omega
      rintro ⟨i, l⟩ ⟨p1, p2, p3, p4⟩
      simp only at p1 p2 p3 p4
      simp -implicitDefEqProofs (disch := omega) only [go_sem]
      with_reducible refine split2 (fun hb => ?_) (fun hb => ?_) <;> have h := hb <;> (try simp only [wf_preprocess] at h) <;> simp -implicitDefEqProofs (disch := omega) only [go_sem, hb] <;> (repeat (with_reducible refine And.intro ?_ ?_; focus first | omega | rfl | assumption | exact ⟨_, rfl, rfl⟩ | (simp; omega) | (simp; done)))
      · have hi : i < xs.length := by omega
        rw [List.drop_eq_getElem_cons (by rw [List.length_map]; exact hi), szRows, List.getElem_map, MExpr.sz_def] at p4
        (repeat (with_reducible refine And.intro ?_ ?_; focus first | omega | rfl | assumption | exact ⟨_, rfl, rfl⟩ | (simp; omega) | (simp; done)))
        refine call_w (ihExpr xs[i] (by have := List.sizeOf_lt_of_mem (List.getElem_mem hi); omega) _ (by omega) (by omega) (hf2 _ (List.mem_map_of_mem (List.getElem_mem hi)))) ?_
        simp -implicitDefEqProofs (disch := omega) only [go_sem]
        with_reducible refine split2 (fun hb => ?_) (fun hb => ?_) <;> have h := hb <;> (try simp only [wf_preprocess] at h) <;> simp -implicitDefEqProofs (disch := omega) only [go_sem, hb] <;> (repeat (with_reducible refine And.intro ?_ ?_; focus first | omega | rfl | assumption | exact ⟨_, rfl, rfl⟩ | (simp; omega) | (simp; done)))
        · have h' := sub1_neg h
          rw [← p4, sub1_no (by omega)]
        · have h' := sub1_nn h
          refine inv_at (i + 1, sub1 l _) (by simp only; omega) rfl rfl ⟨by simp only; omega, by simp only; omega, by simp only; omega, ?_⟩
          simp only
          rw [← p4, h'.1]
          unfold sub1
          split <;> split <;> omega
      · have hi : i = xs.length := by omega
        rw [hi, List.drop_of_length_le (by simp), szRows, sub1_yes (by omega)] at p4
        rw [← p4]
        refine int_eq ?_
        omega
    · have lBody := MArm.lt_Body x
      simp only [MArm.enc_eq, List.cons_append, List.nil_append, fitL_cons, fitL_append, fitL_nil_iff, and_true] at hf
      obtain ⟨fConstructor, fVars, fBody⟩ := hf
      have hz : x.sz = x.fConstructor.length + ((x.fVars.length + szRows (x.fVars.map encS)) + (x.fBody.sz)) := by
        simp only [MArm.sz, MArm.enc_eq, szRow, szRow_append, D.sz, List.length_map, Nat.add_zero, Nat.zero_add, MExpr.sz_def] <;> omega
      refine acall_cw (rs := [.tmp 4]) Try.checked.mixed Try.func95 Try.ntmps95 rfl rfl rfl rfl rfl ?_
      rw [hz]
      have gConstructor := fit_s fConstructor
      simp -implicitDefEqProofs (disch := omega) only [go_sem]
      with_reducible refine split2 (fun hb => ?_) (fun hb => ?_) <;> have h := hb <;> (try simp only [wf_preprocess] at h) <;> simp -implicitDefEqProofs (disch := omega) only [go_sem, hb] <;> (repeat (with_reducible refine And.intro ?_ ?_; focus first | omega | rfl | assumption | exact ⟨_, rfl, rfl⟩ | (simp; omega) | (simp; done)))
      · exact int_eq (sub1_no (by omega)).symm
      refine call_w (szStringS_ok x.fVars _ (by omega) (by omega) fVars) ?_
      simp -implicitDefEqProofs (disch := omega) only [go_sem]
      with_reducible refine split2 (fun hb => ?_) (fun hb => ?_) <;> have h := hb <;> (try simp only [wf_preprocess] at h) <;> simp -implicitDefEqProofs (disch := omega) only [go_sem, hb] <;> (repeat (with_reducible refine And.intro ?_ ?_; focus first | omega | rfl | assumption | exact ⟨_, rfl, rfl⟩ | (simp; omega) | (simp; done)))
      · have h' := sub1_neg h
        exact int_eq (sub1_no (by omega)).symm
      have hVars := sub1_nn h
      simp only [hVars.1]
      refine call_w (ihExpr x.fBody (by omega) _ (by omega) (by omega) fBody) ?_
      simp -implicitDefEqProofs (disch := omega) only [go_sem]
      with_reducible refine split2 (fun hb => ?_) (fun hb => ?_) <;> have h := hb <;> (try simp only [wf_preprocess] at h) <;> simp -implicitDefEqProofs (disch := omega) only [go_sem, hb] <;> (repeat (with_reducible refine And.intro ?_ ?_; focus first | omega | rfl | assumption | exact ⟨_, rfl, rfl⟩ | (simp; omega) | (simp; done)))
      · have h' := sub1_neg h
        exact int_eq (sub1_no (by omega)).symm
      have hBody := sub1_nn h
      simp only [hBody.1]
      refine int_eq ?_
      rw [sub1_yes (by omega)]
      omega
    · obtain ⟨hf1, hf2⟩ := fit_sl hf
      rw [List.length_map] at hf1
      refine acall_cw (rs := [.tmp 4]) Try.checked.mixed Try.func54 Try.ntmps54 rfl rfl rfl rfl rfl ?_
      simp -implicitDefEqProofs (disch := omega) only [go_sem]
      with_reducible refine split2 (fun hb => ?_) (fun hb => ?_) <;> have h := hb <;> (try simp only [wf_preprocess] at h) <;> simp -implicitDefEqProofs (disch := omega) only [go_sem, hb] <;> (repeat (with_reducible refine And.intro ?_ ?_; focus first | omega | rfl | assumption | exact ⟨_, rfl, rfl⟩ | (simp; omega) | (simp; done)))
      · exact int_eq (sub1_no (by omega)).symm
      refine loop_at (ι := Nat × Int) Try.checked.mixed rfl [0, 1, 5] (fun y => [.c (.d (.sl (xs.map MArm.enc))), .c (.d (.i .i64 y.2)), .c (.d (.i .i64 y.1))]) (fun _ => [] :: S)
        (fun y => y.1 ≤ xs.length ∧ 0 ≤ y.2 ∧ y.2 ≤ 1048576 ∧ sub1 y.2 (szRows ((xs.map MArm.enc).drop y.1)) = sub1 left (xs.length + szRows (xs.map MArm.enc))) (fun y => xs.length - y.1) (0, left - xs.length) rfl rfl ⟨by omega, by omega, by omega, ?_⟩ ?_
      · unfold sub1
        rw [List.drop_zero]
        split <;> split <;> omega
      rintro ⟨i, l⟩ ⟨p1, p2, p3, p4⟩
      simp only at p1 p2 p3 p4
      simp -implicitDefEqProofs (disch := omega) only [go_sem]
      with_reducible refine split2 (fun hb => ?_) (fun hb => ?_) <;> have h := hb <;> (try simp only [wf_preprocess] at h) <;> simp -implicitDefEqProofs (disch := omega) only [go_sem, hb] <;> (repeat (with_reducible refine And.intro ?_ ?_; focus first | omega | rfl | assumption | exact ⟨_, rfl, rfl⟩ | (simp; omega) | (simp; done)))
      · have hi : i < xs.length := by omega
        rw [List.drop_eq_getElem_cons (by rw [List.length_map]; exact hi), szRows, List.getElem_map, MArm.sz_def] at p4
        (repeat (with_reducible refine And.intro ?_ ?_; focus first | omega | rfl | assumption | exact ⟨_, rfl, rfl⟩ | (simp; omega) | (simp; done)))
        refine call_w (ihArm xs[i] (by have := List.sizeOf_lt_of_mem (List.getElem_mem hi); omega) _ (by omega) (by omega) (hf2 _ (List.mem_map_of_mem (List.getElem_mem hi)))) ?_
        simp -implicitDefEqProofs (disch := omega) only [go_sem]
        with_reducible refine split2 (fun hb => ?_) (fun hb => ?_) <;> have h := hb <;> (try simp only [wf_preprocess] at h) <;> simp -implicitDefEqProofs (disch := omega) only [go_sem, hb] <;> (repeat (with_reducible refine And.intro ?_ ?_; focus first | omega | rfl | assumption | exact ⟨_, rfl, rfl⟩ | (simp; omega) | (simp; done)))
        · have h' := sub1_neg h
          rw [← p4, sub1_no (by omega)]
        · have h' := sub1_nn h
          refine inv_at (i + 1, sub1 l _) (by simp only; omega) rfl rfl ⟨by simp only; omega, by simp only; omega, by simp only; omega, ?_⟩
          simp only
          rw [← p4, h'.1]
          unfold sub1
          split <;> split <;> omega
      · have hi : i = xs.length := by omega
        rw [hi, List.drop_of_length_le (by simp), szRows, sub1_yes (by omega)] at p4
        rw [← p4]
        refine int_eq ?_
        omega
theorem szExpr_ok (x : MExpr) : ∀ left : Int, 0 ≤ left → left ≤ 1048576 → FitL x.enc → PCall Try.prog 21 [x.v, .c (.d (.i .i64 left))] (.c (.d (.i .i64 (sub1 left x.sz)))) := (szExpr_all _).1 x (Nat.lt_succ_self _)
theorem toExpr_all : ∀ n : Nat, (∀ x : MExpr, SizeOf.sizeOf x < n → x.sz ≤ 1048576 → PCall Try.prog 23 [x.v] x.v) ∧
    (∀ xs : List MExpr, SizeOf.sizeOf xs < n → xs.length + szRows (xs.map MExpr.enc) ≤ 1048576 → PCall Try.prog 57 [.c (.d (.sl (xs.map MExpr.enc)))] (.c (.d (.sl (xs.map MExpr.enc))))) ∧
    (∀ x : MArm, SizeOf.sizeOf x < n → x.sz ≤ 1048576 → PCall Try.prog 97 [x.v] x.v) ∧
    (∀ xs : List MArm, SizeOf.sizeOf xs < n → xs.length + szRows (xs.map MArm.enc) ≤ 1048576 → PCall Try.prog 58 [.c (.d (.sl (xs.map MArm.enc)))] (.c (.d (.sl (xs.map MArm.enc)))))
  | 0 => ⟨fun x h => by omega, fun x h => by omega, fun x h => by omega, fun x h => by omega⟩
  | n + 1 => by
    obtain ⟨ihExpr, ihSExpr, ihArm, ihSArm⟩ := toExpr_all n
    refine ⟨fun x hn hsz S => ?_, fun xs hn hsz S => ?_, fun x hn hsz S => ?_, fun xs hn hsz S => ?_⟩
    · have lArgs := MExpr.lt_Args x
      have lArms := MExpr.lt_Arms x
      simp only [MExpr.sz, MExpr.enc_eq, szRow, szRow_append, D.sz, List.length_map, MType.sz_def] at hsz
      refine acall_cw (rs := [.cell 2 47]) Try.checked.mixed Try.func23 Try.ntmps23 rfl rfl rfl rfl rfl ?_
      simp -implicitDefEqProofs (disch := omega) only [go_sem]
      refine call_w (toType_ok x.fType (by omega)) ?_
      simp -implicitDefEqProofs (disch := omega) only [go_sem]
      refine call_w (ihSExpr x.fArgs (by omega) (by omega)) ?_
      simp -implicitDefEqProofs (disch := omega) only [go_sem]
      refine call_w (ihSArm x.fArms (by omega) (by omega)) ?_
      simp -implicitDefEqProofs (disch := omega) only [go_sem]
    · refine acall_cw (rs := [.tmp 2]) Try.checked.mixed Try.func57 Try.ntmps57 rfl rfl rfl rfl rfl ?_
      simp -implicitDefEqProofs (disch := omega) only [go_sem]
      (repeat (with_reducible refine And.intro ?_ ?_; focus first | omega | rfl | assumption | exact ⟨_, rfl, rfl⟩ | (simp; omega) | (simp; done)))
      refine loop_at (ι := Nat × List (List D)) Try.checked.mixed rfl [0, 3, 4] (fun y => [.c (.d (.sl (xs.map MExpr.enc))), .c (.msl (0, 0)), .c (.d (.i .i64 y.1))]) (fun y => [.mrow 9 y.2] :: S)
        (fun y => y.1 ≤ xs.length ∧ Filled 9 y.1 y.2 (xs.map MExpr.enc)) (fun y => xs.length - y.1) (0, _) rfl rfl ⟨Nat.zero_le _, Filled.start (by simp) rfl⟩ ?_
      rintro ⟨i, R⟩ ⟨p1, p2⟩
      simp only at p1 p2
      simp -implicitDefEqProofs (disch := omega) only [go_sem]
      with_reducible refine split2 (fun hb => ?_) (fun hb => ?_) <;> have h := hb <;> (try simp only [wf_preprocess] at h) <;> simp -implicitDefEqProofs (disch := omega) only [go_sem, hb] <;> (repeat (with_reducible refine And.intro ?_ ?_; focus first | omega | rfl | assumption | exact ⟨_, rfl, rfl⟩ | (simp; omega) | (simp; done)))
      · have hi : i < xs.length := by omega
        have hx : xs[i].sz ≤ szRows (xs.map MExpr.enc) := szRows_mem (List.mem_map_of_mem (List.getElem_mem hi))
        (repeat (with_reducible refine And.intro ?_ ?_; focus first | omega | rfl | assumption | exact ⟨_, rfl, rfl⟩ | (simp; omega) | (simp; done)))
        refine call_w (ihExpr xs[i] (by have := List.sizeOf_lt_of_mem (List.getElem_mem hi); omega) (by omega)) ?_
        simp -implicitDefEqProofs (disch := omega) only [go_sem]
        have hR := p2.1
        rw [List.length_map] at hR
        (repeat (with_reducible refine And.intro ?_ ?_; focus first | omega | rfl | assumption | exact ⟨_, rfl, rfl⟩ | (simp; omega) | (simp; done)))
        refine inv_at (i + 1, _) (by simp only; omega) rfl rfl ⟨by simp only; omega, p2.step (by simp [hi, MExpr.enc_eq, MType.enc_eq]) rfl⟩
      · have hi : i = xs.length := by omega
        rw [p2.done (by rw [List.length_map]; omega)]
    · have lBody := MArm.lt_Body x
      simp only [MArm.sz, MArm.enc_eq, szRow, szRow_append, D.sz, List.length_map, MExpr.sz_def] at hsz
      refine acall_cw (rs := [.cell 2 86]) Try.checked.mixed Try.func97 Try.ntmps97 rfl rfl rfl rfl rfl ?_
      simp -implicitDefEqProofs (disch := omega) only [go_sem]
      refine call_w (toStringS_ok x.fVars (by omega)) ?_
      simp -implicitDefEqProofs (disch := omega) only [go_sem]
      refine call_w (ihExpr x.fBody (by omega) (by omega)) ?_
      simp -implicitDefEqProofs (disch := omega) only [go_sem]
    · refine acall_cw (rs := [.tmp 2]) Try.checked.mixed Try.func58 Try.ntmps58 rfl rfl rfl rfl rfl ?_
      simp -implicitDefEqProofs (disch := omega) only [go_sem]
      (repeat (with_reducible refine And.intro ?_ ?_; focus first | omega | rfl | assumption | exact ⟨_, rfl, rfl⟩ | (simp; omega) | (simp; done)))
      refine loop_at (ι := Nat × List (List D)) Try.checked.mixed rfl [0, 3, 4] (fun y => [.c (.d (.sl (xs.map MArm.enc))), .c (.msl (0, 0)), .c (.d (.i .i64 y.1))]) (fun y => [.mrow 11 y.2] :: S)
        (fun y => y.1 ≤ xs.length ∧ Filled 11 y.1 y.2 (xs.map MArm.enc)) (fun y => xs.length - y.1) (0, _) rfl rfl ⟨Nat.zero_le _, Filled.start (by simp) rfl⟩ ?_
      rintro ⟨i, R⟩ ⟨p1, p2⟩
      simp only at p1 p2
      simp -implicitDefEqProofs (disch := omega) only [go_sem]
      with_reducible refine split2 (fun hb => ?_) (fun hb => ?_) <;> have h := hb <;> (try simp only [wf_preprocess] at h) <;> simp -implicitDefEqProofs (disch := omega) only [go_sem, hb] <;> (repeat (with_reducible refine And.intro ?_ ?_; focus first | omega | rfl | assumption | exact ⟨_, rfl, rfl⟩ | (simp; omega) | (simp; done)))
      · have hi : i < xs.length := by omega
        have hx : xs[i].sz ≤ szRows (xs.map MArm.enc) := szRows_mem (List.mem_map_of_mem (List.getElem_mem hi))
        (repeat (with_reducible refine And.intro ?_ ?_; focus first | omega | rfl | assumption | exact ⟨_, rfl, rfl⟩ | (simp; omega) | (simp; done)))
        refine call_w (ihArm xs[i] (by have := List.sizeOf_lt_of_mem (List.getElem_mem hi); omega) (by omega)) ?_
        simp -implicitDefEqProofs (disch := omega) only [go_sem]
        have hR := p2.1
        rw [List.length_map] at hR
        (repeat (with_reducible refine And.intro ?_ ?_; focus first | omega | rfl | assumption | exact ⟨_, rfl, rfl⟩ | (simp; omega) | (simp; done)))
        refine inv_at (i + 1, _) (by simp only; omega) rfl rfl ⟨by simp only; omega, p2.step (by simp [hi, MArm.enc_eq, MExpr.enc_eq, MType.enc_eq]) rfl⟩
      · have hi : i = xs.length := by omega
        rw [p2.done (by rw [List.length_map]; omega)]
theorem toExpr_ok (x : MExpr) : x.sz ≤ 1048576 → PCall Try.prog 23 [x.v] x.v := (toExpr_all _).1 x (Nat.lt_succ_self _)
theorem eqExpr_all : ∀ n : Nat, (∀ x : MExpr, SizeOf.sizeOf x < n → ∀ y : MExpr, x.sz ≤ 1048576 → PCall Try.prog 26 [x.v, y.v] (.c (.d (.b (dec (x = y)))))) ∧
    (∀ xs : List MExpr, SizeOf.sizeOf xs < n → ∀ ys : List MExpr, xs.length + szRows (xs.map MExpr.enc) ≤ 1048576 → PCall Try.prog 61 [.c (.d (.sl (xs.map MExpr.enc))), .c (.d (.sl (ys.map MExpr.enc)))] (.c (.d (.b (dec (xs = ys)))))) ∧
    (∀ x : MArm, SizeOf.sizeOf x < n → ∀ y : MArm, x.sz ≤ 1048576 → PCall Try.prog 101 [x.v, y.v] (.c (.d (.b (dec (x = y)))))) ∧
    (∀ xs : List MArm, SizeOf.sizeOf xs < n → ∀ ys : List MArm, xs.length + szRows (xs.map MArm.enc) ≤ 1048576 → PCall Try.prog 62 [.c (.d (.sl (xs.map MArm.enc))), .c (.d (.sl (ys.map MArm.enc)))] (.c (.d (.b (dec (xs = ys))))))
  | 0 => ⟨fun x h => by omega, fun x h => by omega, fun x h => by omega, fun x h => by omega⟩
  | n + 1 => by
    obtain ⟨ihExpr, ihSExpr, ihArm, ihSArm⟩ := eqExpr_all n
    refine ⟨fun x hn y hsz S => ?_, fun xs hn ys hsz S => ?_, fun x hn y hsz S => ?_, fun xs hn ys hsz S => ?_⟩
    · have lArgs := MExpr.lt_Args x
      have lArms := MExpr.lt_Arms x
      simp only [MExpr.sz, MExpr.enc_eq, szRow, szRow_append, D.sz, List.length_map, MType.sz_def] at hsz
      refine acall_cw (rs := [.tmp 4]) Try.checked.mixed Try.func26 Try.ntmps26 rfl rfl rfl rfl rfl ?_
      simp -implicitDefEqProofs (disch := omega) only [go_sem]
      with_reducible refine split2 (fun hb => ?_) (fun hb => ?_) <;> have h := hb <;> (try simp only [wf_preprocess] at h) <;> simp -implicitDefEqProofs (disch := omega) only [go_sem, hb] <;> (repeat (with_reducible refine And.intro ?_ ?_; focus first | omega | rfl | assumption | exact ⟨_, rfl, rfl⟩ | (simp; omega) | (simp; done)))
      · exact bool_eq (dec_false (fun e => h (by rw [e]))).symm
      have eKind := h
      clear h
      with_reducible refine split2 (fun hb => ?_) (fun hb => ?_) <;> have h := hb <;> (try simp only [wf_preprocess] at h) <;> simp -implicitDefEqProofs (disch := omega) only [go_sem, hb] <;> (repeat (with_reducible refine And.intro ?_ ?_; focus first | omega | rfl | assumption | exact ⟨_, rfl, rfl⟩ | (simp; omega) | (simp; done)))
      · exact bool_eq (dec_false (fun e => h (by rw [e]))).symm
      have eTrait := h
      clear h
      with_reducible refine split2 (fun hb => ?_) (fun hb => ?_) <;> have h := hb <;> (try simp only [wf_preprocess] at h) <;> simp -implicitDefEqProofs (disch := omega) only [go_sem, hb] <;> (repeat (with_reducible refine And.intro ?_ ?_; focus first | omega | rfl | assumption | exact ⟨_, rfl, rfl⟩ | (simp; omega) | (simp; done)))
      · exact bool_eq (dec_false (fun e => h (by rw [e]))).symm
      have eName := h
      clear h
      with_reducible refine split2 (fun hb => ?_) (fun hb => ?_) <;> have h := hb <;> (try simp only [wf_preprocess] at h) <;> simp -implicitDefEqProofs (disch := omega) only [go_sem, hb] <;> (repeat (with_reducible refine And.intro ?_ ?_; focus first | omega | rfl | assumption | exact ⟨_, rfl, rfl⟩ | (simp; omega) | (simp; done)))
      · exact bool_eq (dec_false (fun e => h (by rw [e]))).symm
      have eN := h
      clear h
      refine call_w (eqType_ok x.fType _ (by omega)) ?_
      simp -implicitDefEqProofs (disch := omega) only [go_sem]
      with_reducible refine split2 (fun hb => ?_) (fun hb => ?_) <;> have h := hb <;> (try simp only [wf_preprocess] at h) <;> simp -implicitDefEqProofs (disch := omega) only [go_sem, hb] <;> (repeat (with_reducible refine And.intro ?_ ?_; focus first | omega | rfl | assumption | exact ⟨_, rfl, rfl⟩ | (simp; omega) | (simp; done)))
      · exact bool_eq (dec_false (fun e => h (by rw [e]))).symm
      have eType := h
      clear h
      refine call_w (ihSExpr x.fArgs (by omega) _ (by omega)) ?_
      simp -implicitDefEqProofs (disch := omega) only [go_sem]
      with_reducible refine split2 (fun hb => ?_) (fun hb => ?_) <;> have h := hb <;> (try simp only [wf_preprocess] at h) <;> simp -implicitDefEqProofs (disch := omega) only [go_sem, hb] <;> (repeat (with_reducible refine And.intro ?_ ?_; focus first | omega | rfl | assumption | exact ⟨_, rfl, rfl⟩ | (simp; omega) | (simp; done)))
      · exact bool_eq (dec_false (fun e => h (by rw [e]))).symm
      have eArgs := h
      clear h
      refine call_w (ihSArm x.fArms (by omega) _ (by omega)) ?_
      simp -implicitDefEqProofs (disch := omega) only [go_sem]
      with_reducible refine split2 (fun hb => ?_) (fun hb => ?_) <;> have h := hb <;> (try simp only [wf_preprocess] at h) <;> simp -implicitDefEqProofs (disch := omega) only [go_sem, hb] <;> (repeat (with_reducible refine And.intro ?_ ?_; focus first | omega | rfl | assumption | exact ⟨_, rfl, rfl⟩ | (simp; omega) | (simp; done)))
      · exact bool_eq (dec_false (fun e => h (by rw [e]))).symm
      have eArms := h
      clear h
      exact bool_eq (dec_true (MExpr.ext eKind eTrait eName eN eType eArgs eArms)).symm
    · refine acall_cw (rs := [.tmp 4]) Try.checked.mixed Try.func61 Try.ntmps61 rfl rfl rfl rfl rfl ?_
      simp -implicitDefEqProofs (disch := omega) only [go_sem]
      with_reducible refine split2 (fun hb => ?_) (fun hb => ?_) <;> have h := hb <;> (try simp only [wf_preprocess] at h) <;> simp -implicitDefEqProofs (disch := omega) only [go_sem, hb] <;> (repeat (with_reducible refine And.intro ?_ ?_; focus first | omega | rfl | assumption | exact ⟨_, rfl, rfl⟩ | (simp; omega) | (simp; done)))
      · exact bool_eq (dec_false (fun e => h (by rw [e]))).symm
      have hl : xs.length = ys.length := by omega
      refine loop_at (ι := Nat) Try.checked.mixed rfl [0, 1, 5] (fun y => [.c (.d (.sl (xs.map MExpr.enc))), .c (.d (.sl (ys.map MExpr.enc))), .c (.d (.i .i64 y))]) (fun y => [] :: S)
        (fun i => i ≤ xs.length ∧ ∀ j, j < i → xs[j]? = ys[j]?) (fun y => xs.length - y) 0 rfl rfl ⟨Nat.zero_le _, fun j h => by omega⟩ ?_
      rintro i ⟨p1, p2⟩
      simp -implicitDefEqProofs (disch := omega) only [go_sem]
      with_reducible refine split2 (fun hb => ?_) (fun hb => ?_) <;> have h := hb <;> (try simp only [wf_preprocess] at h) <;> simp -implicitDefEqProofs (disch := omega) only [go_sem, hb] <;> (repeat (with_reducible refine And.intro ?_ ?_; focus first | omega | rfl | assumption | exact ⟨_, rfl, rfl⟩ | (simp; omega) | (simp; done)))
      · have hi : i < xs.length := by omega
        have hi' : i < ys.length := by omega
        have hx : xs[i].sz ≤ szRows (xs.map MExpr.enc) := szRows_mem (List.mem_map_of_mem (List.getElem_mem hi))
        (repeat (with_reducible refine And.intro ?_ ?_; focus first | omega | rfl | assumption | exact ⟨_, rfl, rfl⟩ | (simp; omega) | (simp; done)))
        refine call_w (ihExpr xs[i] (by have := List.sizeOf_lt_of_mem (List.getElem_mem hi); omega) ys[i] (by omega)) ?_
        simp -implicitDefEqProofs (disch := omega) only [go_sem]
        with_reducible refine split2 (fun hb => ?_) (fun hb => ?_) <;> have h := hb <;> (try simp only [wf_preprocess] at h) <;> simp -implicitDefEqProofs (disch := omega) only [go_sem, hb] <;> (repeat (with_reducible refine And.intro ?_ ?_; focus first | omega | rfl | assumption | exact ⟨_, rfl, rfl⟩ | (simp; omega) | (simp; done)))
        · exact bool_eq (dec_false (fun e => h (by simp only [e]))).symm
        refine inv_at (i + 1) (by omega) rfl rfl ⟨by omega, fun j hj => ?_⟩
        by_cases e : j = i
        · subst e
          rw [List.getElem?_eq_getElem hi, List.getElem?_eq_getElem hi', h]
        · exact p2 j (by omega)
      · have hi : i = xs.length := by omega
        refine bool_eq (dec_true (List.ext_getElem? fun j => ?_)).symm
        by_cases hj : j < i
        · exact p2 j hj
        · rw [List.getElem?_eq_none (by omega), List.getElem?_eq_none (by omega)]
    · have lBody := MArm.lt_Body x
      simp only [MArm.sz, MArm.enc_eq, szRow, szRow_append, D.sz, List.length_map, MExpr.sz_def] at hsz
      refine acall_cw (rs := [.tmp 4]) Try.checked.mixed Try.func101 Try.ntmps101 rfl rfl rfl rfl rfl ?_
      simp -implicitDefEqProofs (disch := omega) only [go_sem]
      with_reducible refine split2 (fun hb => ?_) (fun hb => ?_) <;> have h := hb <;> (try simp only [wf_preprocess] at h) <;> simp -implicitDefEqProofs (disch := omega) only [go_sem, hb] <;> (repeat (with_reducible refine And.intro ?_ ?_; focus first | omega | rfl | assumption | exact ⟨_, rfl, rfl⟩ | (simp; omega) | (simp; done)))
      · exact bool_eq (dec_false (fun e => h (by rw [e]))).symm
      have eConstructor := h
      clear h
      refine call_w (eqStringS_ok x.fVars _ (by omega)) ?_
      simp -implicitDefEqProofs (disch := omega) only [go_sem]
      with_reducible refine split2 (fun hb => ?_) (fun hb => ?_) <;> have h := hb <;> (try simp only [wf_preprocess] at h) <;> simp -implicitDefEqProofs (disch := omega) only [go_sem, hb] <;> (repeat (with_reducible refine And.intro ?_ ?_; focus first | omega | rfl | assumption | exact ⟨_, rfl, rfl⟩ | (simp; omega) | (simp; done)))
      · exact bool_eq (dec_false (fun e => h (by rw [e]))).symm
      have eVars := h
      clear h
      refine call_w (ihExpr x.fBody (by omega) _ (by omega)) ?_
      simp -implicitDefEqProofs (disch := omega) only [go_sem]
      with_reducible refine split2 (fun hb => ?_) (fun hb => ?_) <;> have h := hb <;> (try simp only [wf_preprocess] at h) <;> simp -implicitDefEqProofs (disch := omega) only [go_sem, hb] <;> (repeat (with_reducible refine And.intro ?_ ?_; focus first | omega | rfl | assumption | exact ⟨_, rfl, rfl⟩ | (simp; omega) | (simp; done)))
      · exact bool_eq (dec_false (fun e => h (by rw [e]))).symm
      have eBody := h
      clear h
      exact bool_eq (dec_true (MArm.ext eConstructor eVars eBody)).symm
    · refine acall_cw (rs := [.tmp 4]) Try.checked.mixed Try.func62 Try.ntmps62 rfl rfl rfl rfl rfl ?_
      simp -implicitDefEqProofs (disch := omega) only [go_sem]
      with_reducible refine split2 (fun hb => ?_) (fun hb => ?_) <;> have h := hb <;> (try simp only [wf_preprocess] at h) <;> simp -implicitDefEqProofs (disch := omega) only [go_sem, hb] <;> (repeat (with_reducible refine And.intro ?_ ?_; focus first | omega | rfl | assumption | exact ⟨_, rfl, rfl⟩ | (simp; omega) | (simp; done)))
      · exact bool_eq (dec_false (fun e => h (by rw [e]))).symm
      have hl : xs.length = ys.length := by omega
      refine loop_at (ι := Nat) Try.checked.mixed rfl [0, 1, 5] (fun y => [.c (.d (.sl (xs.map MArm.enc))), .c (.d (.sl (ys.map MArm.enc))), .c (.d (.i .i64 y))]) (fun y => [] :: S)
        (fun i => i ≤ xs.length ∧ ∀ j, j < i → xs[j]? = ys[j]?) (fun y => xs.length - y) 0 rfl rfl ⟨Nat.zero_le _, fun j h => by omega⟩ ?_
      rintro i ⟨p1, p2⟩
      simp -implicitDefEqProofs (disch := omega) only [go_sem]
      with_reducible refine split2 (fun hb => ?_) (fun hb => ?_) <;> have h := hb <;> (try simp only [wf_preprocess] at h) <;> simp -implicitDefEqProofs (disch := omega) only [go_sem, hb] <;> (repeat (with_reducible refine And.intro ?_ ?_; focus first | omega | rfl | assumption | exact ⟨_, rfl, rfl⟩ | (simp; omega) | (simp; done)))
      · have hi : i < xs.length := by omega
        have hi' : i < ys.length := by omega
        have hx : xs[i].sz ≤ szRows (xs.map MArm.enc) := szRows_mem (List.mem_map_of_mem (List.getElem_mem hi))
        (repeat (with_reducible refine And.intro ?_ ?_; focus first | omega | rfl | assumption | exact ⟨_, rfl, rfl⟩ | (simp; omega) | (simp; done)))
        refine call_w (ihArm xs[i] (by have := List.sizeOf_lt_of_mem (List.getElem_mem hi); omega) ys[i] (by omega)) ?_
        simp -implicitDefEqProofs (disch := omega) only [go_sem]
        with_reducible refine split2 (fun hb => ?_) (fun hb => ?_) <;> have h := hb <;> (try simp only [wf_preprocess] at h) <;> simp -implicitDefEqProofs (disch := omega) only [go_sem, hb] <;> (repeat (with_reducible refine And.intro ?_ ?_; focus first | omega | rfl | assumption | exact ⟨_, rfl, rfl⟩ | (simp; omega) | (simp; done)))
        · exact bool_eq (dec_false (fun e => h (by simp only [e]))).symm
        refine inv_at (i + 1) (by omega) rfl rfl ⟨by omega, fun j hj => ?_⟩
        by_cases e : j = i
        · subst e
          rw [List.getElem?_eq_getElem hi, List.getElem?_eq_getElem hi', h]
        · exact p2 j (by omega)
      · have hi : i = xs.length := by omega
        refine bool_eq (dec_true (List.ext_getElem? fun j => ?_)).symm
        by_cases hj : j < i
        · exact p2 j hj
        · rw [List.getElem?_eq_none (by omega), List.getElem?_eq_none (by omega)]
theorem eqExpr_ok (x : MExpr) : ∀ y : MExpr, x.sz ≤ 1048576 → PCall Try.prog 26 [x.v, y.v] (.c (.d (.b (dec (x = y))))) := (eqExpr_all _).1 x (Nat.lt_succ_self _)
end Go.Proofs.Ytnleocfkdidhoaa

namespace Go.Ab
mutual
def MExpr.cnt : MExpr → Nat
  | .mk _ _ _ _ _ a b => 1 + (MExpr.cnts a + MArm.cnts b)
def MExpr.cnts : List MExpr → Nat
  | [] => 0
  | x :: xs => x.cnt + MExpr.cnts xs
def MArm.cnt : MArm → Nat
  | .mk _ _ b => b.cnt
def MArm.cnts : List MArm → Nat
  | [] => 0
  | x :: xs => x.cnt + MArm.cnts xs
end
theorem MExpr.cnt_eq (x : MExpr) : x.cnt = 1 + (MExpr.cnts x.fArgs + MArm.cnts x.fArms) := by cases x; rw [MExpr.cnt]; rfl
theorem MArm.cnt_eq (x : MArm) : x.cnt = x.fBody.cnt := by cases x; rw [MArm.cnt]; rfl
theorem MExpr.cnts_drop {xs : List MExpr} {i : Nat} (hi : i < xs.length) : MExpr.cnts (xs.drop i) = xs[i].cnt + MExpr.cnts (xs.drop (i + 1)) := by rw [List.drop_eq_getElem_cons hi, MExpr.cnts]
theorem MArm.cnts_drop {xs : List MArm} {i : Nat} (hi : i < xs.length) : MArm.cnts (xs.drop i) = xs[i].fBody.cnt + MArm.cnts (xs.drop (i + 1)) := by rw [List.drop_eq_getElem_cons hi, MArm.cnts, MArm.cnt_eq]
theorem MExpr.sz_parts (x : MExpr) : x.fArgs.length + szRows (x.fArgs.map MExpr.enc) ≤ x.sz ∧ x.fArms.length + szRows (x.fArms.map MArm.enc) ≤ x.sz := by
  simp only [MExpr.sz, MExpr.enc_eq, szRow, szRow_append, D.sz, List.length_map]
  omega
theorem MArm.sz_body (x : MArm) : x.fBody.sz ≤ x.sz := by
  simp only [MArm.sz, MArm.enc_eq, MExpr.sz, szRow, szRow_append, D.sz, List.length_map]
  omega
mutual
theorem MExpr.cnt_le : ∀ x : MExpr, x.cnt ≤ 1 + x.sz
  | .mk k t n m ty a b => by
    have h1 := MExpr.cnts_le a
    have h2 := MArm.cnts_le b
    rw [MExpr.cnt]
    simp only [MExpr.sz, MExpr.enc_eq, szRow, szRow_append, D.sz, List.length_map, MExpr.fArgs, MExpr.fArms]
    omega
theorem MExpr.cnts_le : ∀ xs : List MExpr, MExpr.cnts xs ≤ xs.length + szRows (xs.map MExpr.enc)
  | [] => by simp [MExpr.cnts]
  | x :: xs => by
    have h1 := MExpr.cnt_le x
    have h2 := MExpr.cnts_le xs
    rw [MExpr.cnts, List.length_cons, List.map_cons, szRows, MExpr.sz_def]
    omega
theorem MArm.cnt_le : ∀ x : MArm, x.cnt ≤ 1 + x.sz
  | .mk c v b => by
    have h1 := MExpr.cnt_le b
    have h2 := MArm.sz_body (.mk c v b)
    rw [MArm.cnt]
    simp only [MArm.fBody] at h2
    omega
theorem MArm.cnts_le : ∀ xs : List MArm, MArm.cnts xs ≤ xs.length + szRows (xs.map MArm.enc)
  | [] => by simp [MArm.cnts]
  | x :: xs => by
    have h1 := MArm.cnt_le x
    have h2 := MArm.cnts_le xs
    rw [MArm.cnts, List.length_cons, List.map_cons, szRows, MArm.sz_def]
    omega
end
end Go.Ab
namespace Go.Proofs.Ytnleocfkdidhoaa
open Go Go.Ab
end Go.Proofs.Ytnleocfkdidhoaa

namespace Go.Ab
def ops : List (List UInt8) := [[43], [45], [42], [60], [61]]
def zeroT (t : MType) : Prop := t.fKind = 0 ∧ t.fName = [] ∧ t.fArgs.length = 0
/-- The rule of an expression's own fields. -/
def fieldsP (e : MExpr) : Prop :=
  (1 ≤ e.fKind ∧ e.fKind ≤ 12) ∧
  (if e.fKind = 5 ∨ e.fKind = 11 then validName e.fTrait = true else e.fTrait = []) ∧
  (if e.fKind = 3 ∨ e.fKind = 4 ∨ e.fKind = 5 ∨ e.fKind = 6 ∨ e.fKind = 8 then validName e.fName = true else if e.fKind = 10 then e.fName ∈ ops else e.fName = []) ∧
  (if e.fKind = 1 then -999999 ≤ e.fN ∧ e.fN ≤ 999999 else if e.fKind = 2 then e.fN = 0 ∨ e.fN = 1 else e.fN = 0) ∧
  (if e.fKind = 12 then validType e.fType = true else zeroT e.fType) ∧
  (if e.fKind = 4 ∨ e.fKind = 6 then True else if e.fKind = 5 then 1 ≤ e.fArgs.length else if e.fKind = 7 ∨ e.fKind = 11 ∨ e.fKind = 12 then e.fArgs.length = 1 else if e.fKind = 8 ∨ e.fKind = 10 then e.fArgs.length = 2 else if e.fKind = 9 then e.fArgs.length = 3 else e.fArgs.length = 0) ∧
  (e.fKind = 7 ↔ 0 < e.fArms.length)
mutual
noncomputable def exprOk : MExpr → Bool
  | .mk k t n m ty a b => dec (fieldsP (.mk k t n m ty a b)) && (exprsOk a && armsOk b)
noncomputable def exprsOk : List MExpr → Bool
  | [] => true
  | x :: xs => exprOk x && exprsOk xs
noncomputable def armOk : MArm → Bool
  | .mk c v b => validName c && (namesOk v && exprOk b)
noncomputable def armsOk : List MArm → Bool
  | [] => true
  | x :: xs => armOk x && armsOk xs
end
end Go.Ab
namespace Go.Ab
/-- What is to be proved once for several ways. -/
structure Hold (p : Prop) : Prop where
  out : p
/-- Before a loop: these slots alone are kept, and the store told anew. -/
theorem aw_canon {P : Program} {N : Nat} {c : Code} {Q : Exit → St → Prop} {tm : List (Nat × V)} {st st' : Store} (ts : List Nat) (vs : List V) (hv : ts.map (look tm) = vs) (hs : st = st')
    (h : AW P N c Q ⟨zipTm ts vs, st'⟩) : AW P N c Q ⟨tm, st⟩ := by
  subst hs
  refine aw_ghost h ?_
  rw [← hv]
  exact tm_ghost fun t => look_zip _ ts t
end Go.Ab

namespace Go.Ab
noncomputable def addF (k : Int) (n : List UInt8) (bound out : List (List UInt8)) : List (List UInt8) := if k = 3 ∧ n ∉ bound ∧ n ∉ out then out ++ [n] else out
mutual
noncomputable def freeE : MExpr → List (List UInt8) → List (List UInt8) → List (List UInt8)
  | .mk k _ n _ _ a b, bound, out => freeR b bound (freeL a k n 0 bound (addF k n bound out))
noncomputable def freeL : List MExpr → Int → List UInt8 → Nat → List (List UInt8) → List (List UInt8) → List (List UInt8)
  | [], _, _, _, _, out => out
  | x :: xs, k, n, i, bound, out => freeL xs k n (i + 1) bound (freeE x (if k = 8 ∧ i = 1 then bound ++ [n] else bound) out)
noncomputable def freeR : List MArm → List (List UInt8) → List (List UInt8) → List (List UInt8)
  | [], _, out => out
  | x :: xs, bound, out => freeR xs bound (freeM x bound out)
noncomputable def freeM : MArm → List (List UInt8) → List (List UInt8) → List (List UInt8)
  | .mk _ v b, bound, out => freeE b (bound ++ v) out
end
theorem addF_len (k : Int) (n : List UInt8) (bound out : List (List UInt8)) : (addF k n bound out).length ≤ out.length + 1 := by
  unfold addF; split <;> simp
mutual
theorem freeE_len : ∀ (x : MExpr) (bound out : List (List UInt8)), (freeE x bound out).length ≤ out.length + x.cnt
  | .mk k t n m ty a b, bound, out => by
    have h1 := addF_len k n bound out
    have h2 := freeL_len a k n 0 bound (addF k n bound out)
    have h3 := freeR_len b bound (freeL a k n 0 bound (addF k n bound out))
    rw [freeE, MExpr.cnt]; omega
theorem freeL_len : ∀ (xs : List MExpr) (k : Int) (n : List UInt8) (i : Nat) (bound out : List (List UInt8)), (freeL xs k n i bound out).length ≤ out.length + MExpr.cnts xs
  | [], k, n, i, bound, out => by rw [freeL, MExpr.cnts]; omega
  | x :: xs, k, n, i, bound, out => by
    have h1 := freeE_len x (if k = 8 ∧ i = 1 then bound ++ [n] else bound) out
    have h2 := freeL_len xs k n (i + 1) bound (freeE x (if k = 8 ∧ i = 1 then bound ++ [n] else bound) out)
    rw [freeL, MExpr.cnts]; omega
theorem freeR_len : ∀ (xs : List MArm) (bound out : List (List UInt8)), (freeR xs bound out).length ≤ out.length + MArm.cnts xs
  | [], bound, out => by rw [freeR, MArm.cnts]; omega
  | x :: xs, bound, out => by
    have h1 := freeM_len x bound out
    have h2 := freeR_len xs bound (freeM x bound out)
    rw [freeR, MArm.cnts]; omega
theorem freeM_len : ∀ (x : MArm) (bound out : List (List UInt8)), (freeM x bound out).length ≤ out.length + x.cnt
  | .mk c v b, bound, out => by
    have h1 := freeE_len b (bound ++ v) out
    rw [freeM, MArm.cnt]; omega
end
theorem MExpr.arg_sz {x : MExpr} {i : Nat} (hi : i < x.fArgs.length) : x.fArgs[i].sz + x.fArgs.length ≤ x.sz := by
  have hx : x.fArgs[i].sz ≤ szRows (x.fArgs.map MExpr.enc) := szRows_mem (List.mem_map_of_mem (List.getElem_mem hi))
  have := MExpr.sz_parts x
  omega
theorem MExpr.arm_sz {x : MExpr} {i : Nat} (hi : i < x.fArms.length) : x.fArms[i].sz + x.fArms.length ≤ x.sz := by
  have hx : x.fArms[i].sz ≤ szRows (x.fArms.map MArm.enc) := szRows_mem (List.mem_map_of_mem (List.getElem_mem hi))
  have := MExpr.sz_parts x
  omega
theorem MArm.sz_vars (x : MArm) : x.fVars.length + x.fBody.sz ≤ x.sz := by
  simp only [MArm.sz, MArm.enc_eq, MExpr.sz, szRow, szRow_append, D.sz, List.length_map]
  omega
theorem snocW (xs : List (List UInt8)) (s : List UInt8) : xs.map encS ++ [[D.s s]] = (xs ++ [s]).map encS := by simp [encS]
end Go.Ab
namespace Go.Proofs.Ytnleocfkdidhoaa
open Go Go.Ab
end Go.Proofs.Ytnleocfkdidhoaa

namespace Go.Ab
/-! ### the labels of a tree, from a number on, each slice before what lies in it -/
mutual
def cntD : D → Nat
  | .sl es => cntRs es + 1
  | .ol _ _ => 0
  | .b _ => 0
  | .i _ _ => 0
  | .s _ => 0
  | .o _ => 0
def cntR : List D → Nat
  | [] => 0
  | d :: ds => cntD d + cntR ds
def cntRs : List (List D) → Nat
  | [] => 0
  | r :: rs => cntR r + cntRs rs
end
mutual
def labD : D → Nat → D
  | .sl es, n => .ol n (labRs es (n + 1))
  | .ol m es, _ => .ol m es
  | .b x, _ => .b x
  | .i k x, _ => .i k x
  | .s l, _ => .s l
  | .o v, _ => .o v
def labR : List D → Nat → List D
  | [], _ => []
  | d :: ds, n => labD d n :: labR ds (n + cntD d)
def labRs : List (List D) → Nat → List (List D)
  | [], _ => []
  | r :: rs, n => labR r n :: labRs rs (n + cntR r)
end
mutual
/-- No label, nothing but data. -/
def plD : D → Bool
  | .sl es => plRs es
  | .ol _ _ => false
  | .b _ => true
  | .i _ _ => true
  | .s _ => true
  | .o _ => false
def plR : List D → Bool
  | [] => true
  | d :: ds => plD d && plR ds
def plRs : List (List D) → Bool
  | [] => true
  | r :: rs => plR r && plRs rs
end
theorem labR_length : ∀ r n, (labR r n).length = r.length
  | [], _ => rfl
  | d :: ds, n => by rw [labR, List.length_cons, labR_length ds, List.length_cons]
theorem labRs_length : ∀ rs n, (labRs rs n).length = rs.length
  | [], _ => rfl
  | r :: rs, n => by rw [labRs, List.length_cons, labRs_length rs, List.length_cons]
theorem plR_append : ∀ a b, plR (a ++ b) = (plR a && plR b)
  | [], b => by simp [plR]
  | d :: ds, b => by rw [List.cons_append, plR, plR, plR_append ds b, Bool.and_assoc]
theorem plRs_map {α : Type} {f : α → List D} : ∀ {xs : List α}, (∀ x ∈ xs, plR (f x) = true) → plRs (xs.map f) = true
  | [], _ => rfl
  | x :: xs, h => by
    rw [List.map_cons, plRs, h x (by simp), plRs_map fun y hy => h y (by simp [hy])]; rfl
section
variable {P : Program} {w : World} {σ σ' : Nat → Nat} {S : Store} {β : Hs} {N : Nat} {s : St}
/-! ### labels forgotten -/
mutual
theorem er_D : ∀ (d : D) (n : Nat) (v : Value), RepD w σ (labD d n) v → RepD w σ d v
  | .sl es, n, v, h => by
    rw [labD] at h
    have hl := labRs_length es (n + 1)
    have hrec := er_Rs es (n + 1)
    generalize labRs es (n + 1) = q at h hl hrec
    cases h with
    | onil n a cap =>
      have : es = [] := List.eq_nil_of_length_eq_zero (by simpa using hl.symm)
      subst this
      exact .nil a cap
    | ol n b off cap esz q vals c t hcap hlen hb hσ hfit hc hv =>
      obtain ⟨r1, r2⟩ := hrec vals hv
      rw [hl] at hcap hfit hc ⊢
      refine .sl b off cap esz es vals c t (0, 0) hcap (fun e he => ?_) hb (by omega) hc r2
      obtain ⟨e', h1, h2⟩ := r1 e he
      rw [← h2]; exact hlen e' h1
  | .ol m es, n, v, h => h
  | .b x, n, v, h => h
  | .i k x, n, v, h => h
  | .s l, n, v, h => h
  | .o u, n, v, h => h
theorem er_R : ∀ (r : List D) (n : Nat) (vals : Nat → Value), (∀ j d, (labR r n)[j]? = some d → RepD w σ d (vals j)) → ∀ (j : Nat) d, r[j]? = some d → RepD w σ d (vals j)
  | [], n, vals, h, j, d, hd => by simp at hd
  | a :: r, n, vals, h, j, d, hd => by
    cases j with
    | zero =>
      simp at hd; subst hd
      exact er_D a n _ (h 0 _ rfl)
    | succ j => exact er_R r (n + cntD a) (fun i => vals (i + 1)) (fun i d hi => h (i + 1) d (by rw [labR]; exact hi)) j d hd
theorem er_Rs : ∀ (rs : List (List D)) (n : Nat) (vals : Nat → Value), (∀ j d, (labRs rs n).flatten[j]? = some d → RepD w σ d (vals j)) →
    (∀ e ∈ rs, ∃ e' ∈ labRs rs n, e'.length = e.length) ∧ ∀ (j : Nat) d, rs.flatten[j]? = some d → RepD w σ d (vals j)
  | [], n, vals, h => ⟨fun e he => (by cases he), fun j d hd => (by simp at hd)⟩
  | r :: rs, n, vals, h => by
    rw [labRs, List.flatten_cons] at h
    have h1 := er_R r n vals fun j d hd => h j d (by rw [List.getElem?_append_left (List.getElem?_eq_some_iff.1 hd).1]; exact hd)
    obtain ⟨h2, h3⟩ := er_Rs rs (n + cntR r) (fun i => vals (r.length + i)) fun j d hd => h (r.length + j) d (by rw [List.getElem?_append_right (by rw [labR_length]; omega), labR_length, Nat.add_sub_cancel_left]; exact hd)
    refine ⟨fun e he => ?_, fun j d hd => ?_⟩
    · rcases List.mem_cons.1 he with e1 | he
      · subst e1; exact ⟨_, by rw [labRs]; exact List.mem_cons_self .., labR_length _ _⟩
      · obtain ⟨e', q1, q2⟩ := h2 e he
        exact ⟨e', by rw [labRs]; exact List.mem_cons_of_mem _ q1, q2⟩
    · rw [List.flatten_cons] at hd
      by_cases hj : j < r.length
      · rw [List.getElem?_append_left hj] at hd; exact h1 j d hd
      · rw [List.getElem?_append_right (by omega)] at hd
        have := h3 (j - r.length) d hd
        rwa [show r.length + (j - r.length) = j by omega] at this
end
/-- Values told as less, one by one. -/
inductive Lesses : List V → List V → Prop
  | nil : Lesses [] []
  | cons {x y : V} {xs ys : List V} : Less x y → Lesses xs ys → Lesses (x :: xs) (y :: ys)
theorem Lesses.length : ∀ {xs ys : List V}, Lesses xs ys → xs.length = ys.length
  | _, _, .nil => rfl
  | _, _, .cons _ h => by rw [List.length_cons, List.length_cons, Lesses.length h]
theorem Lesses.at : ∀ {xs ys : List V}, Lesses xs ys → ∀ (j : Nat) (x y : V), xs[j]? = some x → ys[j]? = some y → Less x y
  | _, _, .nil, j, x, y, h, _ => by simp at h
  | _, _, .cons a h, 0, x, y, h1, h2 => by simp at h1 h2; subst h1; subst h2; exact a
  | _, _, .cons a h, j + 1, x, y, h1, h2 => Lesses.at h j x y (by simpa using h1) (by simpa using h2)
theorem PCall.args {f : FuncId} {args args' : List V} {r : V} (h : PCall P f args' r) (hl : Lesses args args') : PCall P f args r := fun S => (h S).weaken hl.length fun j x y hx hy w σ β v hr => hl.at j x y hx hy w σ S β v hr
/-! ### where a function ends, its rows and tokens under labels -/
def mapL (row : Bool) (j n : Nat) (es : List (List D)) (tm : List (Nat × V)) : List (Nat × V) := tm.map fun x => (x.1, x.2.mapC (C.lab row j n es))
theorem look_mapL {row : Bool} {j n : Nat} {es : List (List D)} {tm : List (Nat × V)} {t : Nat} : look (mapL row j n es tm) t = (look tm t).mapC (C.lab row j n es) := look_map (f := V.mapC (C.lab row j n es)) rfl tm t
def labC (j n : Nat) (tm : List (Nat × V)) (own : List Obj) (Ω : Store) : Option Obj → St
  | some (.mrow _ es) => ⟨mapL true j n es tm, (own.map (Obj.mapC (C.lab true j n es))).set j .dead :: Ω⟩
  | some (.ltok m _ es) => ⟨mapL false j m es tm, (own.map (Obj.mapC (C.lab false j m es))).set j .dead :: Ω⟩
  | _ => ⟨tm, own :: Ω⟩
def labAt (j n : Nat) (s : St) : St :=
  match s.st with
  | own :: Ω => labC j n s.tm own Ω (own[j]?)
  | [] => s
def labUp : Nat → Nat → St → St
  | 0, _, s => s
  | k + 1, n, s => labUp k n (labAt k n s)
def labAll (n : Nat) (s : St) : St :=
  match s.st with
  | own :: _ => labUp own.length n s
  | [] => s
theorem labAt_ghost (j n : Nat) (s : St) : Ghost N s (labAt j n s) := by
  obtain ⟨tm, st⟩ := s
  cases st with
  | nil => exact Ghost.refl _ _
  | cons own Ω =>
    show Ghost N ⟨tm, own :: Ω⟩ (labC j n tm own Ω (own[j]?))
    cases ho : own[j]? with
    | none => exact Ghost.refl _ _
    | some o =>
      cases o with
      | mrow z es => exact fun a w σ β hR => lab_rep j n z es true ho hR
      | ltok m z es => exact fun a w σ β hR => lab_rep j m z es false ho hR
      | _ => exact Ghost.refl _ _
theorem labUp_ghost : ∀ (k n : Nat) (s : St), Ghost N s (labUp k n s)
  | 0, n, s => Ghost.refl _ _
  | k + 1, n, s => (labAt_ghost k n s).trans (labUp_ghost k n _)
theorem labAll_ghost (n : Nat) (s : St) : Ghost N s (labAll n s) := by
  unfold labAll
  split
  · exact labUp_ghost _ _ _
  · exact Ghost.refl _ _
theorem labAt_mk {j n : Nat} {tm : List (Nat × V)} {own : List Obj} {Ω : Store} : labAt j n ⟨tm, own :: Ω⟩ = labC j n tm own Ω (own[j]?) := rfl
theorem labAll_mk {n : Nat} {tm : List (Nat × V)} {own : List Obj} {Ω : Store} : labAll n ⟨tm, own :: Ω⟩ = labUp own.length n ⟨tm, own :: Ω⟩ := rfl
def retL (P : Program) (n : Nat) (rs : List ResultVar) (post : V → Store → Prop) (e : Exit) (s : St) : Prop := retQ P rs post e (labAll n s)
theorem retL_ret {n : Nat} {rs : List ResultVar} {post : V → Store → Prop} : retL P n rs post .ret s = retS P rs post (labAll n s) := rfl
theorem retL_normal {n : Nat} {rs : List ResultVar} {post : V → Store → Prop} : retL P n rs post .normal s = retS P rs post (labAll n s) := rfl
/-- A function whose result lies under labels: n that of its rows and of its literals. -/
theorem acall_cwL (n : Nat) {f : FuncId} {fn : Func} {c : Code} {args : List V} {post : V → Store → Prop} {rs : List ResultVar} (hmix : P.follows .mixedOrders = true) (hf : P.funcs[f]? = some fn) (hN : fn.ntmps = N)
    (hb : fn.body = some c) (hn : (fn.name == "runtime.NumGoroutine") = false) (hr : fn.results.toList = rs) (hl : Nat.ble args.length N = true) (hok : codeOk N c = true)
    (h : CW P N c (retL P n rs post) ⟨argTm (args.map (V.up 1)) 0, [.seed n] :: S⟩) : ACall P f args S post := by
  subst hN
  subst hr
  exact acall_enter hf hb hn (Nat.le_of_ble_eq_true hl) (aw_seed n (aw_end (labAll_ghost n) (cw_sound hmix c _ _ hok h)))
theorem lab_tsl1 {row : Bool} {j n l i : Nat} {es es' : List (List D)} : C.lab row j n es (.tsl (1 + l, i) es') = .tsl (1 + l, i) es' := by rw [Nat.add_comm]; rfl
theorem lab_tsl0 {row : Bool} {j n i : Nat} {es es' : List (List D)} : C.lab row j n es (.tsl (0, i) es') = if i = j ∧ row = false ∧ es'.length = es.length then .d (.ol n es) else .tsl (0, i) es' := rfl
theorem lab_msl1 {row : Bool} {j n l i : Nat} {es : List (List D)} : C.lab row j n es (.msl (1 + l, i)) = .msl (1 + l, i) := by rw [Nat.add_comm]; rfl
theorem lab_msl0 {row : Bool} {j n i : Nat} {es : List (List D)} : C.lab row j n es (.msl (0, i)) = if i = j ∧ row = true then .d (.ol n es) else .msl (0, i) := rfl
theorem lab_d {row : Bool} {j n : Nat} {es : List (List D)} {x : D} : C.lab row j n es (.d x) = .d x := rfl
theorem lab_any {row : Bool} {j n : Nat} {es : List (List D)} : C.lab row j n es .any = .any := rfl
theorem lab_fsl {row : Bool} {j n : Nat} {es es' : List (List D)} : C.lab row j n es (.fsl es') = .fsl es' := rfl
theorem lab_lfl {row : Bool} {j n m : Nat} {es es' : List (List D)} : C.lab row j n es (.lfl m es') = .lfl m es' := rfl
theorem lab_ptr {row : Bool} {j n off : Nat} {es : List (List D)} {k : Key} : C.lab row j n es (.ptr k off) = .ptr k off := rfl
theorem lab_fn {row : Bool} {j n f : Nat} {es : List (List D)} {caps : List (Key × Nat)} : C.lab row j n es (.fn f caps) = .fn f caps := rfl
theorem lab_rptr {row : Bool} {j n : Nat} {es : List (List D)} {cs : List D} : C.lab row j n es (.rptr cs) = .rptr cs := rfl
end
attribute [go_sem ↓] retL_ret retL_normal labAll_mk
attribute [go_sem] labUp labAt_mk labC look_mapL V.mapC Obj.mapC lab_tsl1 lab_tsl0 lab_msl1 lab_msl0 lab_d lab_any lab_fsl lab_lfl lab_ptr lab_fn lab_rptr
end Go.Ab

namespace Go.Ab
section
variable {P : Program} {w w' : World} {σ σ' : Nat → Nat} {S : Store} {β : Hs}
/-- The block is sealed, with a label from lo on and below hi. -/
def Sealed (w : World) (σ : Nat → Nat) (lo hi b : Nat) : Prop := ∃ c t fz m, w.heap[b]? = some (.cells c t fz) ∧ σ b = c.size + 1 + m ∧ lo ≤ m ∧ m < hi
theorem Sealed.mono {lo hi lo' hi' b : Nat} (h : Sealed w σ lo hi b) (h1 : lo' ≤ lo) (h2 : hi ≤ hi') : Sealed w σ lo' hi' b := by
  obtain ⟨c, t, fz, m, a1, a2, a3, a4⟩ := h
  exact ⟨c, t, fz, m, a1, a2, by omega, by omega⟩
theorem Sealed.apart {lo hi lo' hi' b : Nat} (h : Sealed w σ lo hi b) (h' : Sealed w σ lo' hi' b) (ho : hi ≤ lo') : False := by
  obtain ⟨c, t, fz, m, a1, a2, a3, a4⟩ := h
  obtain ⟨c', t', fz', m', b1, b2, b3, b4⟩ := h'
  rw [a1] at b1; cases b1
  omega
/-! ### a tree of headers out of its parts -/
abbrev Kids := List (List (Option Value))
def kidAt (rows : Kids) (i o : Nat) : Option Value := ((rows[i]?).bind fun r => r[o]?).bind id
def rowsV (rows : Kids) : Array Value := (rows.map fun r => Value.tuple (r.map fun u => u.getD (.bool false)).toArray).toArray
def mkT (v : Value) (rows : Kids) : Value := .tuple #[v, .tuple (rowsV rows)]
theorem hdr_mkT {v : Value} {rows : Kids} : hdr (mkT v rows) = some v := rfl
/-- A tree is a tuple. -/
def IsT (v : Value) : Prop := ∃ a, v = .tuple a
theorem kid_mkT {v : Value} {rows : Kids} (h : ∀ i o u, kidAt rows i o = some u → IsT u) (i o : Nat) : kid (mkT v rows) i o = kidAt rows i o := by
  have h' := h i o
  unfold kid mkT rowsV kidAt at *
  simp only [List.getElem?_toArray, List.getElem?_cons_succ, List.getElem?_cons_zero, List.getElem?_map]
  cases hr : rows[i]? with
  | none => rfl
  | some r =>
    rw [hr] at h'
    simp only [Option.map_some, List.getElem?_toArray, List.getElem?_map]
    cases hu : r[o]? with
    | none => simp [hu]
    | some u =>
      simp only [Option.bind_some, hu, id] at h'
      cases u with
      | none => simp [hu]
      | some u =>
        obtain ⟨a, rfl⟩ := h' u rfl
        simp [hu]
/-! ### a labelled datum, as a tree -/
/-- What a cell's tree is. -/
def CellT (w : World) (d : D) (v : Value) (u : Option Value) : Prop :=
  match d with
  | .sl es => ∃ T, u = some T ∧ IsT T ∧ hdr T = some v ∧ ExT w es T
  | d => u = none ∧ SD d v
theorem rows_lab {z : Nat} : ∀ {rs : List (List D)} {n : Nat}, (∀ r ∈ labRs rs n, r.length = z) → ∀ r ∈ rs, r.length = z
  | [], _, _, r, h => by cases h
  | a :: rs, n, ha, r, h => by
    rw [labRs] at ha
    rcases List.mem_cons.1 h with e | h
    · subst e; rw [← labR_length r n]; exact ha _ (by simp)
    · exact rows_lab (n := n + cntR a) (fun r hr => ha r (by simp [hr])) r h
/-- The trees of a row's cells: apart from each other, with labels in a range. -/
structure RowT (w : World) (σ : Nat → Nat) (r : List D) (n m : Nat) (vals : Nat → Value) (us : List (Option Value)) : Prop where
  len : us.length = r.length
  cell : ∀ (j : Nat) (d : D), r[j]? = some d → ∃ u, us[j]? = some u ∧ CellT w d (vals j) u
  own : ∀ (j : Nat) (u : Value), us[j]? = some (some u) → ∀ b, Owns u b → Sealed w σ n m b
  apart : ∀ (j j' : Nat) (u u' : Value) (b : Nat), j ≠ j' → us[j]? = some (some u) → us[j']? = some (some u') → Owns u b → Owns u' b → False
structure RowsT (w : World) (σ : Nat → Nat) (z : Nat) (rs : List (List D)) (n m : Nat) (vals : Nat → Value) (U : Kids) : Prop where
  cell : ∀ (i o : Nat) (d : D), cellAt rs i o = some d → ∃ u, ((U[i]?).bind fun r => r[o]?) = some u ∧ CellT w d (vals (i * z + o)) u
  kid : ∀ (i o : Nat) (u : Value), kidAt U i o = some u → ∃ es, cellAt rs i o = some (.sl es)
  own : ∀ (i o : Nat) (u : Value), kidAt U i o = some u → ∀ b, Owns u b → Sealed w σ n m b
  apart : ∀ (i o i' o' : Nat) (u u' : Value) (b : Nat), (i, o) ≠ (i', o') → kidAt U i o = some u → kidAt U i' o' = some u' → Owns u b → Owns u' b → False
theorem kidAt_zero {us : List (Option Value)} {U : Kids} {o : Nat} {u : Value} : kidAt (us :: U) 0 o = some u ↔ us[o]? = some (some u) := by
  show (us[o]?).bind id = some u ↔ _
  cases us[o]? with
  | none => simp
  | some x => simp
mutual
theorem lab_D : ∀ (d : D) (n : Nat) (v : Value), plD d = true → RepD w σ (labD d n) v → ∃ u, CellT w d v u ∧ ∀ T, u = some T → ∀ b, Owns T b → Sealed w σ n (n + cntD d) b
  | .sl es, n, v, hp, h => by
    rw [labD] at h
    have hl := labRs_length es (n + 1)
    have hrec := lab_Rs es (n + 1)
    have hrow := fun z => rows_lab (z := z) (rs := es) (n := n + 1)
    generalize labRs es (n + 1) = q at h hl hrec hrow
    have hempty : ∀ a cap, es = [] → v = .slice a 0 cap → ∃ u, CellT w (.sl es) v u ∧ ∀ T, u = some T → ∀ b, Owns T b → Sealed w σ n (n + cntD (.sl es)) b := by
      rintro a cap rfl rfl
      have hk : ∀ i o, kid (mkT (.slice a 0 cap) []) i o = none := fun i o => by rw [kid_mkT (fun i o u h => by simp [kidAt] at h)]; simp [kidAt]
      refine ⟨some (mkT (.slice a 0 cap) []), ⟨_, rfl, ⟨_, rfl⟩, rfl, .nil a cap _ rfl hk⟩, fun T hT b hb => ?_⟩
      cases hT
      exfalso
      cases hb with
      | here h1 h2 => rw [hdr_mkT] at h1; cases h1; omega
      | kid h1 h2 => rw [hk] at h1; cases h1
    cases h with
    | onil n a cap => exact hempty a cap (List.eq_nil_of_length_eq_zero (by simpa using hl.symm)) rfl
    | ol n b off cap z q vals c t hcap hlen hb hσ hfit hc hv =>
      by_cases hne : es = []
      · subst hne
        have hq0 : q.length = 0 := by simpa using hl
        exact hempty _ _ rfl (by rw [hq0])
      rw [hl] at hcap hfit hc ⊢
      obtain ⟨U, hU⟩ := hrec z vals (hrow z hlen) (by simpa [plD] using hp) hv
      have hrl := hrow z hlen
      have hT : ∀ i o u, kidAt U i o = some u → IsT u := fun i o u hu => by
        obtain ⟨es', he⟩ := hU.kid i o u hu
        obtain ⟨u', h1, h2⟩ := hU.cell i o _ he
        obtain ⟨T, h3, h4, _⟩ := h2
        unfold kidAt at hu
        rw [h1, h3] at hu
        cases hu; exact h4
      have hkid : ∀ i o, kid (mkT (.slice (some ⟨b, off, none⟩) es.length cap) U) i o = kidAt U i o := kid_mkT hT
      have hcell : ∀ i o es', cellAt es i o = some (.sl es') → ∃ T, kidAt U i o = some T ∧ hdr T = some (vals (i * z + o)) ∧ ExT w es' T := fun i o es' he => by
        obtain ⟨u', h1, T, h3, h4, h5, h6⟩ := hU.cell i o _ he
        refine ⟨T, ?_, h5, h6⟩
        unfold kidAt
        rw [h1, h3]; rfl
      have hself : ∀ x, Sealed w σ (n + 1) (n + 1 + cntRs es) x → x ≠ b := by
        rintro x ⟨c', t', fz', m, a1, a2, a3, a4⟩ rfl
        rw [hb] at a1; cases a1
        omega
      refine ⟨some (mkT (.slice (some ⟨b, off, none⟩) es.length cap) U), ⟨_, rfl, ⟨_, rfl⟩, rfl, ?_⟩, fun T hT' x hx => ?_⟩
      · refine .mk b off cap z es _ c t (fun i o => vals (i * z + o)) (fun i o => (kidAt U i o).getD undef) rfl hne hcap hrl hb hfit (fun i o d hd => ?_) (fun i o d hd => ?_) (fun i o es' he => ?_) (fun i o es' he => ?_) (fun i o u hu hb' => ?_) (fun i o i' o' u u' x hio hu hu' h1 h2 => ?_) (fun i o u hu => ?_)
        · obtain ⟨hi, ho⟩ := cell_row hd
          rw [hrl _ (List.getElem_mem hi)] at ho
          refine hc _ ?_
          have : (i + 1) * z ≤ es.length * z := Nat.mul_le_mul_right _ hi
          rw [Nat.add_mul, Nat.one_mul] at this
          omega
        · obtain ⟨u, h1, h2⟩ := hU.cell i o d hd
          cases d <;> first | exact .inl ⟨_, rfl⟩ | exact .inr h2.2
        · obtain ⟨T, h1, h2, h3⟩ := hcell i o es' he
          rw [hkid, h1]
          exact ⟨rfl, h2⟩
        · obtain ⟨T, h1, h2, h3⟩ := hcell i o es' he
          rw [h1]; exact h3
        · rw [hkid] at hu
          exact hself b (hU.own i o u hu b hb') rfl
        · rw [hkid] at hu hu'
          exact hU.apart i o i' o' u u' x hio hu hu' h1 h2
        · rw [hkid] at hu
          exact hU.kid i o u hu
      · cases hT'
        cases hx with
        | here h1 h2 => rw [hdr_mkT] at h1; cases h1; exact ⟨c, t, (0, 0), n, hb, hσ, Nat.le_refl _, by rw [cntD]; omega⟩
        | kid h1 h2 =>
          rw [hkid] at h1
          exact (hU.own _ _ _ h1 _ h2).mono (by omega) (by rw [cntD]; omega)
  | .ol m es, n, v, hp, h => by simp [plD] at hp
  | .b x, n, v, hp, h => by rw [labD] at h; cases h; exact ⟨none, ⟨rfl, rfl⟩, fun T h => by cases h⟩
  | .i k x, n, v, hp, h => by rw [labD] at h; cases h; exact ⟨none, ⟨rfl, rfl⟩, fun T h => by cases h⟩
  | .s l, n, v, hp, h => by rw [labD] at h; cases h; exact ⟨none, ⟨rfl, rfl⟩, fun T h => by cases h⟩
  | .o u, n, v, hp, h => by simp [plD] at hp
theorem lab_R : ∀ (r : List D) (n : Nat) (vals : Nat → Value), plR r = true → (∀ (j : Nat) (d : D), (labR r n)[j]? = some d → RepD w σ d (vals j)) → ∃ us, RowT w σ r n (n + cntR r) vals us
  | [], n, vals, hp, h => ⟨[], rfl, fun j d h => by simp at h, fun j u h => by simp at h, fun j j' u u' b _ h => by simp at h⟩
  | d :: r, n, vals, hp, h => by
    rw [plR, Bool.and_eq_true] at hp
    rw [labR] at h
    obtain ⟨u, h1, h2⟩ := lab_D d n (vals 0) hp.1 (h 0 _ rfl)
    obtain ⟨us, hus⟩ := lab_R r (n + cntD d) (fun j => vals (j + 1)) hp.2 fun j x hx => h (j + 1) x hx
    rw [cntR]
    have hown : ∀ (j : Nat) (T : Value), us[j]? = some (some T) → ∀ b, Owns T b → Sealed w σ (n + cntD d) (n + cntD d + cntR r) b := hus.own
    refine ⟨u :: us, by rw [List.length_cons, List.length_cons, hus.len], fun j x hx => ?_, fun j T hT b hb => ?_, fun j j' T T' b hj hT hT' hb hb' => ?_⟩
    · cases j with
      | zero => simp at hx; subst hx; exact ⟨u, rfl, h1⟩
      | succ j => exact hus.cell j x hx
    · cases j with
      | zero => simp at hT; exact (h2 T hT b hb).mono (Nat.le_refl _) (by omega)
      | succ j => exact (hown j T hT b hb).mono (by omega) (by omega)
    · cases j with
      | zero =>
        cases j' with
        | zero => exact hj rfl
        | succ j' => simp at hT; exact (h2 T hT b hb).apart (hown j' T' hT' b hb') (Nat.le_refl _)
      | succ j =>
        cases j' with
        | zero => simp at hT'; exact (h2 T' hT' b hb').apart (hown j T hT b hb) (Nat.le_refl _)
        | succ j' => exact hus.apart j j' T T' b (by omega) hT hT' hb hb'
theorem lab_Rs : ∀ (rs : List (List D)) (n z : Nat) (vals : Nat → Value), (∀ r ∈ rs, r.length = z) → plRs rs = true → (∀ (j : Nat) (d : D), (labRs rs n).flatten[j]? = some d → RepD w σ d (vals j)) → ∃ U, RowsT w σ z rs n (n + cntRs rs) vals U
  | [], n, z, vals, hz, hp, h => ⟨[], fun i o d h => by simp [cellAt] at h, fun i o u h => by simp [kidAt] at h, fun i o u h => by simp [kidAt] at h, fun i o i' o' u u' b _ h => by simp [kidAt] at h⟩
  | r :: rs, n, z, vals, hz, hp, h => by
    rw [plRs, Bool.and_eq_true] at hp
    rw [labRs, List.flatten_cons] at h
    have hrz : r.length = z := hz r (by simp)
    obtain ⟨us, hus⟩ := lab_R r n vals hp.1 fun j d hd => h j d (by rw [List.getElem?_append_left (List.getElem?_eq_some_iff.1 hd).1]; exact hd)
    obtain ⟨U, hU⟩ := lab_Rs rs (n + cntR r) z (fun j => vals (z + j)) (fun r hr => hz r (by simp [hr])) hp.2 fun j d hd => h (z + j) d (by
      rw [List.getElem?_append_right (by rw [labR_length]; omega), labR_length, hrz, Nat.add_sub_cancel_left]; exact hd)
    rw [cntRs]
    have hown : ∀ (i o : Nat) (T : Value), kidAt U i o = some T → ∀ b, Owns T b → Sealed w σ (n + cntR r) (n + cntR r + cntRs rs) b := hU.own
    refine ⟨us :: U, fun i o d hd => ?_, fun i o u hu => ?_, fun i o T hT b hb => ?_, fun i o i' o' T T' b hio hT hT' hb hb' => ?_⟩
    · cases i with
      | zero =>
        obtain ⟨u, h1, h2⟩ := hus.cell o d hd
        exact ⟨u, h1, by rw [Nat.zero_mul, Nat.zero_add]; exact h2⟩
      | succ i =>
        obtain ⟨u, h1, h2⟩ := hU.cell i o d hd
        exact ⟨u, h1, by rw [show (i + 1) * z + o = z + (i * z + o) by rw [Nat.add_mul]; omega]; exact h2⟩
    · cases i with
      | zero =>
        rw [kidAt_zero] at hu
        have ho : o < r.length := by rw [← hus.len]; exact (List.getElem?_eq_some_iff.1 hu).1
        obtain ⟨u', h1, h2⟩ := hus.cell o r[o] (List.getElem?_eq_getElem ho)
        rw [hu] at h1; cases h1
        have hc : cellAt (r :: rs) 0 o = some r[o] := List.getElem?_eq_getElem ho
        rw [hc]
        generalize r[o] = d at h2
        cases d <;> first | exact ⟨_, rfl⟩ | (cases h2.1)
      | succ i => exact hU.kid i o u hu
    · cases i with
      | zero => rw [kidAt_zero] at hT; exact (hus.own o T hT b hb).mono (Nat.le_refl _) (by omega)
      | succ i => exact (hown i o T hT b hb).mono (by omega) (by omega)
    · cases i with
      | zero =>
        rw [kidAt_zero] at hT
        cases i' with
        | zero => rw [kidAt_zero] at hT'; exact hus.apart o o' T T' b (fun e => hio (by rw [e])) hT hT' hb hb'
        | succ i' => exact (hus.own o T hT b hb).apart (hown i' o' T' hT' b hb') (Nat.le_refl _)
      | succ i =>
        cases i' with
        | zero => rw [kidAt_zero] at hT'; exact (hus.own o' T' hT' b hb').apart (hown i o T hT b hb) (Nat.le_refl _)
        | succ i' => exact hU.apart i o i' o' T T' b (fun e => hio (by cases e; rfl)) hT hT' hb hb'
end
end
end Go.Ab

namespace Go.Ab
section
variable {P : Program} {w w' : World} {σ σ' : Nat → Nat} {S : Store} {β : Hs}
def rootD : D → List (List D)
  | .sl es => es
  | _ => []
def cellX (k : Key) (j : Nat) : D → C
  | .sl _ => .xp k j []
  | d => .d d
/-- A row's cells, its slices as roots of a forest. -/
def rowX (k : Key) : Nat → List D → List C
  | _, [] => []
  | j, d :: ds => cellX k j d :: rowX k (j + 1) ds
theorem rowX_length {k : Key} : ∀ (j : Nat) (r : List D), (rowX k j r).length = r.length
  | _, [] => rfl
  | j, d :: ds => by rw [rowX, List.length_cons, rowX_length, List.length_cons]
theorem rowX_at {k : Key} : ∀ (r : List D) (j i : Nat), (rowX k j r)[i]? = (r[i]?).map (cellX k (j + i))
  | [], j, i => by simp [rowX]
  | d :: ds, j, 0 => rfl
  | d :: ds, j, i + 1 => by
    rw [rowX, List.getElem?_cons_succ, List.getElem?_cons_succ, rowX_at ds (j + 1) i, show j + 1 + i = j + (i + 1) by omega]
/-- What is data in a value. -/
def pureC : C → C
  | .d x => .d x
  | .fsl es => .d (.sl es)
  | .tsl _ es => .d (.sl es)
  | .lfl n es => .d (.ol n es)
  | .rptr cs => .rptr cs
  | _ => .any
def pureV : V → V
  | .c x => .c (pureC x)
  | .agg cs => .agg (cs.map pureC)
  | _ => .any
theorem pure_repC {c : C} {v : Value} (h : RepC w σ S β c v) (S' : Store) (β' : Hs) : RepC w σ S' β' (pureC c) v := by
  cases c with
  | d x => exact h
  | fsl es => exact h.1
  | tsl k es => exact h.1
  | lfl n es => exact h.1
  | rptr cs => exact h
  | _ => trivial
theorem pure_rep {x : V} {v : Value} (h : RepV w σ S β x v) (S' : Store) (β' : Hs) : RepV w σ S' β' (pureV x) v := by
  cases x with
  | c x => exact ⟨pure_repC h.1 _ _, h.2⟩
  | agg cs =>
    obtain ⟨a, ha, hl, hc⟩ := h
    refine ⟨a, ha, by rw [List.length_map]; exact hl, fun i x hx => ?_⟩
    rw [List.getElem?_map] at hx
    cases hi : cs[i]? with
    | none => rw [hi] at hx; cases hx
    | some y =>
      rw [hi] at hx; cases hx
      obtain ⟨u, q1, q2, q3⟩ := hc i y hi
      exact ⟨u, q1, pure_repC q2 _ _, q3⟩
  | _ => trivial
theorem repS_empty (hl : ∀ b, b < w.heap.size ∨ σ b = 0) : RepS w σ [] [] where
  obj := fun k o h => by rw [getO_nil] at h; cases h
  apart := fun k k' o o' h h' b h1 => by rw [getO_nil] at h1; cases h1
  shape := ⟨rfl, fun l fr h => by simp at h⟩
  live := hl
theorem no_own0 {β : Hs} {b : Nat} : ¬ Own [] β b := fun ⟨k, o, h, h1, _⟩ => by rw [getO_nil] at h1; cases h1
/-- How cells stand in a value. -/
def Holder (mk : List C → V) (m : Nat) : Prop := ∀ w σ S β cs v, cs.length = m → RepV w σ S β (mk cs) v → ∃ vs, RepCs w σ S β cs vs ∧ ∀ w' σ' S' β' cs', cs'.length = m → RepCs w' σ' S' β' cs' vs → RepV w' σ' S' β' (mk cs') v
theorem holder_agg {m : Nat} : Holder V.agg m := fun w σ S β cs v _ ⟨a, ha, hc⟩ => ⟨a.toList, hc, fun w' σ' S' β' cs' _ hc' => ⟨a, ha, hc'⟩⟩
def oneV : List C → V
  | [x] => .c x
  | _ => .any
theorem holder_one : Holder oneV 1 := fun w σ S β cs v hl hv => by
  match cs, hl with
  | [x], _ =>
    refine ⟨[v], ⟨rfl, fun j y hj => ?_⟩, fun w' σ' S' β' cs' hl' hc' => ?_⟩
    · cases j with
      | zero => cases hj; exact ⟨v, rfl, hv⟩
      | succ j => simp at hj
    · match cs', hl' with
      | [y], _ =>
        obtain ⟨u, h1, h2⟩ := hc'.2 0 y rfl
        cases h1; exact h2
/-- A plain cell, as one of several results. -/
def plainC : C → Bool
  | .d d => isSD d
  | _ => false
theorem plainC_rep {c : C} {v : Value} (h : plainC c = true) (hr : RepC w σ S β c v) (w' : World) (σ' : Nat → Nat) (S' : Store) (β' : Hs) : RepC w' σ' S' β' c v := by
  cases c with
  | d d => cases d <;> first | (cases h; done) | (cases hr; constructor)
  | _ => cases h
def emptyT : Value := mkT (.slice none 0 0) []
theorem kid_empty (i o : Nat) : kid emptyT i o = none := by
  unfold emptyT
  rw [kid_mkT (fun i o u h => by simp [kidAt] at h)]; simp [kidAt]
theorem owns_empty {b : Nat} : ¬ Owns emptyT b := fun h => by
  cases h with
  | here h1 h2 => cases h1
  | kid h1 h2 => rw [kid_empty] at h1; cases h1
theorem bound_of (σ : Nat → Nat) : ∀ n : Nat, ∃ m, ∀ b, b < n → σ b ≤ m
  | 0 => ⟨0, fun b h => by omega⟩
  | n + 1 => by
    obtain ⟨m, hm⟩ := bound_of σ n
    refine ⟨max m (σ n), fun b hb => ?_⟩
    by_cases e : b = n
    · subst e; omega
    · have := hm b (by omega); omega
open Classical in
/-- A labelled result, for all labels: the caller owns it. -/
theorem ACall.own {f : FuncId} {args : List V} {own0 : List Obj} {Ω : Store} {mk : List C → V} {r : List D} (hm : Holder mk r.length) (hp : plR r = true)
    (h : ∀ n, PCall P f (args.map pureV) (mk ((labR r n).map .d))) :
    ACall P f args (own0 :: Ω) (fun r' S' => r' = mk (rowX (0, own0.length) 0 r) ∧ S' = (own0 ++ [.xf (r.map rootD)]) :: Ω) := by
  refine ⟨(h 0 []).1, fun w σ β vs hS hargs => ?_⟩
  obtain ⟨n, hn⟩ := bound_of σ w.heap.size
  have hargs0 : RepVs w σ [] [] (args.map pureV) vs := by
    refine ⟨by rw [List.length_map]; exact hargs.1, fun j x hx => ?_⟩
    rw [List.getElem?_map] at hx
    cases ha : args[j]? with
    | none => rw [ha] at hx; cases hx
    | some y =>
      rw [ha] at hx; cases hx
      obtain ⟨v, h1, h2⟩ := hargs.2 j y ha
      exact ⟨v, h1, pure_rep h2 _ _⟩
  refine ((h n []).2 w σ [] vs (repS_empty hS.live) hargs0).mono fun e w' ⟨v, r', S', σ', β', he, hS', hk, hst, hv, hr', hS2⟩ => ?_
  subst hr'; subst hS2
  obtain ⟨us0, hcs, hback⟩ := hm w' σ' _ β' _ v (by rw [List.length_map, labR_length]) hv
  have hus0 : us0.length = r.length := by rw [← hcs.1, List.length_map, labR_length]
  obtain ⟨us, hus⟩ := lab_R r n (fun j => us0.getD j undef) hp (fun j d hd => by
    obtain ⟨u, h1, h2, _⟩ := hcs.2 j (.d d) (by rw [List.getElem?_map, hd]; rfl)
    simp only [List.getD_eq_getElem?_getD, h1, Option.getD_some]
    exact h2)
  let h0 : Value := .tuple (us.map fun u => u.getD emptyT).toArray
  have hroot : ∀ j, rootAt h0 j = (us[j]?).map fun u => u.getD emptyT := fun j => by simp [h0, rootAt]
  have hfresh : ∀ b, XOwns h0 b → w.heap.size ≤ b := by
    rintro b ⟨j, T, h1, h2⟩
    rw [hroot] at h1
    cases hu : us[j]? with
    | none => rw [hu] at h1; cases h1
    | some u =>
      rw [hu] at h1
      simp only [Option.map_some, Option.some.injEq] at h1
      cases u with
      | none => subst h1; exact absurd h2 owns_empty
      | some u =>
        simp at h1; subst h1
        obtain ⟨c, t, fz, m, a1, a2, a3, a4⟩ := hus.own j u hu b h2
        refine Nat.le_of_not_lt fun hlt => ?_
        have h1 := (hst.far b hlt no_own0).2
        have h2 := hn b hlt
        omega
  let σ2 : Nat → Nat := fun b => if XOwns h0 b then 0 else σ' b
  have hg : Grow w σ w' σ2 := ⟨hst.size, hst.os, hst.output, fun b hb => by
    obtain ⟨h1, h2⟩ := hst.far b hb no_own0
    exact ⟨h1, (if_neg fun hx => by have := hfresh b hx; omega).trans h2⟩, fun b => by
    rcases hS'.live b with hb | hb
    · exact .inl hb
    · right; show (if XOwns h0 b then 0 else σ' b) = 0; rw [hb]; split <;> rfl⟩
  cases β with
  | nil => have := hS.shape.1; simp at this
  | cons bo bΩ =>
  have hlen : bo.length = own0.length := by
    obtain ⟨gr, g1, g2⟩ := hS.shape.2 0 own0 rfl
    simp at g1; rw [g1]; exact g2
  obtain ⟨hS3, hk3, hst3⟩ := hS.push (o := .xf (r.map rootD)) (h := h0) hg hlen (by
    refine ⟨fun j es hj => ?_, fun j T hT => ?_, fun b hb => if_pos hb, fun j j' T T' x hjj hT hT' hx hx' => ?_⟩
    · rw [List.getElem?_map] at hj
      cases hd : r[j]? with
      | none => rw [hd] at hj; cases hj
      | some d =>
        rw [hd] at hj
        simp only [Option.map_some, Option.some.injEq] at hj
        subst hj
        obtain ⟨u, h1, h2⟩ := hus.cell j d hd
        rw [hroot, h1]
        have hsc : (∀ es, d ≠ .sl es) → ∃ T, Option.map (fun u => Option.getD u emptyT) (some u) = some T ∧ ExT w' (rootD d) T := fun hne => by
          have hu : u = none := by cases d <;> first | exact absurd rfl (hne _) | exact h2.1
          have hr0 : rootD d = [] := by cases d <;> first | exact absurd rfl (hne _) | rfl
          subst hu
          rw [hr0]
          exact ⟨emptyT, rfl, .nil none 0 _ rfl kid_empty⟩
        cases d with
        | sl es => obtain ⟨T, rfl, _, _, h6⟩ := h2; exact ⟨T, rfl, h6⟩
        | _ => exact hsc (fun es e => by cases e)
    · rw [List.length_map]
      rw [hroot] at hT
      cases hu : us[j]? with
      | none => rw [hu] at hT; cases hT
      | some u => rw [← hus.len]; exact (List.getElem?_eq_some_iff.1 hu).1
    · rw [hroot] at hT hT'
      cases hu : us[j]? with
      | none => rw [hu] at hT; cases hT
      | some u =>
        cases hu' : us[j']? with
        | none => rw [hu'] at hT'; cases hT'
        | some u' =>
          rw [hu] at hT; rw [hu'] at hT'
          simp only [Option.map_some, Option.some.injEq] at hT hT'
          cases u with
          | none => subst hT; exact owns_empty hx
          | some u =>
            cases u' with
            | none => subst hT'; exact owns_empty hx'
            | some u' => simp at hT hT'; subst hT; subst hT'; exact hus.apart j j' u u' x hjj hu hu' hx hx') (fun b hb => hfresh b hb)
  refine ⟨v, _, _, σ2, (bo ++ [h0]) :: bΩ, he, hS3, hk3, hst3, ?_, rfl, rfl⟩
  refine hback _ _ _ _ _ (by rw [rowX_length]) ⟨by rw [rowX_length, hus0], fun j x hx => ?_⟩
  rw [rowX_at, Nat.zero_add] at hx
  cases hd : r[j]? with
  | none => rw [hd] at hx; cases hx
  | some d =>
    rw [hd] at hx
    simp only [Option.map_some, Option.some.injEq] at hx
    obtain ⟨u, h1, h2⟩ := hus.cell j d hd
    have hjl : j < (labR r n).length := by rw [labR_length]; exact (List.getElem?_eq_some_iff.1 hd).1
    obtain ⟨v0, h3, _, h4⟩ := hcs.2 j (.d (labR r n)[j]) (by rw [List.getElem?_map, List.getElem?_eq_getElem hjl]; rfl)
    have hv0 : us0.getD j undef = v0 := by rw [List.getD_eq_getElem?_getD, h3]; rfl
    simp only [hv0] at h2
    refine ⟨v0, h3, ?_, h4⟩
    have hsc : (∀ es, d ≠ .sl es) → RepC w' σ2 ((own0 ++ [.xf (r.map rootD)]) :: Ω) ((bo ++ [h0]) :: bΩ) (.d d) v0 := fun hne => by
      have : SD d v0 := by cases d <;> first | exact absurd rfl (hne _) | exact h2.2
      exact rep_SD this
    cases d with
    | sl es =>
      subst hx
      obtain ⟨T, rfl, _, h5, _⟩ := h2
      refine ⟨_, getO_push_new _ _ _, fun rs _ => ⟨h0, by rw [← hlen, getO_push_new], ?_⟩⟩
      unfold hdrAt
      rw [hroot, h1]
      exact h5
    | _ => subst hx; exact hsc (fun es e => by cases e)
end
end Go.Ab

namespace Go.Ab
section
variable {P : Program} {w w' : World} {σ σ' : Nat → Nat} {S : Store} {β : Hs}
/-- What is said of a value when the blocks that are not sealed are counted anew. -/
def Stay (r : V) : Prop := ∀ w σ σ2 S β S2 β2 v, (∀ b c t fz, w.heap[b]? = some (.cells c t fz) → c.size < σ b → σ2 b = σ b) → RepV w σ S β r v → RepV w σ2 S2 β2 r v
mutual
theorem st_D {σ2 : Nat → Nat} (hs : ∀ b c t fz, w.heap[b]? = some (.cells c t fz) → c.size < σ b → σ2 b = σ b) : ∀ (d : D) (n : Nat) (v : Value), plD d = true → RepD w σ (labD d n) v → RepD w σ2 (labD d n) v
  | .sl es, n, v, hp, h => by
    rw [labD] at h ⊢
    have hrec := st_Rs hs es (n + 1)
    generalize labRs es (n + 1) = q at h hrec ⊢
    cases h with
    | onil n a cap => exact .onil n a cap
    | ol n b off cap z q vals c t hcap hlen hb hσ hfit hc hv => exact .ol n b off cap z q vals c t hcap hlen hb ((hs b c t _ hb (by omega)).trans hσ) hfit hc (hrec vals (by simpa [plD] using hp) hv)
  | .ol m es, n, v, hp, h => by simp [plD] at hp
  | .b x, n, v, hp, h => by rw [labD] at h ⊢; cases h; constructor
  | .i k x, n, v, hp, h => by rw [labD] at h ⊢; cases h; constructor
  | .s l, n, v, hp, h => by rw [labD] at h ⊢; cases h; constructor
  | .o u, n, v, hp, h => by simp [plD] at hp
theorem st_R {σ2 : Nat → Nat} (hs : ∀ b c t fz, w.heap[b]? = some (.cells c t fz) → c.size < σ b → σ2 b = σ b) : ∀ (r : List D) (n : Nat) (vals : Nat → Value), plR r = true → (∀ (j : Nat) (d : D), (labR r n)[j]? = some d → RepD w σ d (vals j)) →
    ∀ (j : Nat) (d : D), (labR r n)[j]? = some d → RepD w σ2 d (vals j)
  | [], n, vals, hp, h, j, d, hd => by simp [labR] at hd
  | a :: r, n, vals, hp, h, j, d, hd => by
    rw [plR, Bool.and_eq_true] at hp
    rw [labR] at h hd
    cases j with
    | zero =>
      simp at hd; subst hd
      exact st_D hs a n _ hp.1 (h 0 _ rfl)
    | succ j => exact st_R hs r (n + cntD a) (fun i => vals (i + 1)) hp.2 (fun i d hi => h (i + 1) d hi) j d hd
theorem st_Rs {σ2 : Nat → Nat} (hs : ∀ b c t fz, w.heap[b]? = some (.cells c t fz) → c.size < σ b → σ2 b = σ b) : ∀ (rs : List (List D)) (n : Nat) (vals : Nat → Value), plRs rs = true → (∀ (j : Nat) (d : D), (labRs rs n).flatten[j]? = some d → RepD w σ d (vals j)) →
    ∀ (j : Nat) (d : D), (labRs rs n).flatten[j]? = some d → RepD w σ2 d (vals j)
  | [], n, vals, hp, h, j, d, hd => by simp [labRs] at hd
  | r :: rs, n, vals, hp, h, j, d, hd => by
    rw [plRs, Bool.and_eq_true] at hp
    rw [labRs, List.flatten_cons] at h hd
    by_cases hj : j < (labR r n).length
    · rw [List.getElem?_append_left hj] at hd
      exact st_R hs r n vals hp.1 (fun j d hd => h j d (by rw [List.getElem?_append_left (List.getElem?_eq_some_iff.1 hd).1]; exact hd)) j d hd
    · rw [List.getElem?_append_right (by omega)] at hd
      have := st_Rs hs rs (n + cntR r) (fun i => vals ((labR r n).length + i)) hp.2 (fun j d hd => h _ d (by rw [List.getElem?_append_right (by omega), Nat.add_sub_cancel_left]; exact hd)) (j - (labR r n).length) d hd
      rwa [show (labR r n).length + (j - (labR r n).length) = j by omega] at this
end
theorem stay_plain {c : C} (h : plainC c = true) : Stay (.c c) := fun w σ σ2 S β S2 β2 v _ hv => ⟨plainC_rep h hv.1 _ _ _ _, hv.2⟩
/-- A forest's slice, read as data. -/
theorem ExT.data {es : List (List D)} {T v : Value} (h : ExT w es T) (hv : hdr T = some v) (hσ : ∀ b c t fz, Owns T b → w.heap[b]? = some (.cells c t fz) → c.size ≤ σ b) : RepD w σ (.sl es) v := by
  induction h generalizing v with
  | nil a cap T h hk => rw [h] at hv; cases hv; exact .nil a cap
  | mk b off cap z es T c t vals kids hh hne hcap hlen hb hfit hc hs hk hx hself hap hkid ih =>
    rw [hh] at hv; cases hv
    have hpos : 0 < es.length := List.length_pos_iff.2 hne
    have hfl := flat_len es z hlen
    have hidx : ∀ j, j < es.length * z → ∃ hi : j / z < es.length, j % z < z ∧ j / z * z + j % z = j := fun j hj => by
      have hz : 0 < z := by rcases Nat.eq_zero_or_pos z with h | h; · rw [h] at hj; simp at hj
                            · exact h
      exact ⟨(Nat.div_lt_iff_lt_mul hz).2 hj, Nat.mod_lt _ hz, by rw [Nat.mul_comm]; exact Nat.div_add_mod j z⟩
    have hcell : ∀ j d, es.flatten[j]? = some d → ∃ hi : j / z < es.length, cellAt es (j / z) (j % z) = some d ∧ j / z * z + j % z = j := fun j d hd => by
      have hj : j < es.length * z := by rw [← hfl]; exact (List.getElem?_eq_some_iff.1 hd).1
      obtain ⟨hi, hm, he⟩ := hidx j hj
      refine ⟨hi, ?_, he⟩
      have := flat_get es z hlen (j / z) (j % z) hi hm
      rw [he, hd] at this
      unfold cellAt
      rw [List.getElem?_eq_getElem hi]
      exact this.symm
    refine .sl b off cap z es (fun j => vals (j / z) (j % z)) c t (0, 0) hcap hlen hb (Nat.le_trans hfit (hσ b c t _ (.here hh hpos) hb)) (fun j hj => ?_) (fun j d hd => ?_)
    · obtain ⟨hi, hce, he⟩ := hcell j _ (List.getElem?_eq_getElem (by rw [hfl]; exact hj))
      have := hc _ _ _ hce
      rwa [he] at this
    · obtain ⟨hi, hce, he⟩ := hcell j d hd
      rcases hs _ _ _ hce with ⟨es', rfl⟩ | hsd
      · obtain ⟨k1, k2⟩ := hk _ _ _ hce
        exact ih _ _ _ hce k2 fun b' c' t' fz' ho hb' => hσ b' c' t' fz' (.kid k1 ho) hb'
      · exact rep_SD hsd
/-- What is lent, told as data; all else but data is forgotten. -/
def lendC (k : Key) (rs : List (List (List D))) : C → C
  | .xp k' r [] => if k' = k then (match rs[r]? with | some es => .d (.sl es) | none => .any) else .any
  | .d x => .d x
  | _ => .any
def lendV (k : Key) (rs : List (List (List D))) : V → V
  | .c x => .c (lendC k rs x)
  | .agg cs => .agg (cs.map (lendC k rs))
  | _ => .any
open Classical in
/-- A forest lent to a call that only reads. -/
theorem ACall.lend {f : FuncId} {args : List V} {k : Key} {rs : List (List (List D))} {r : V} (hk : getO S k = some (.xf rs)) (hr : Stay r) (h : PCall P f (args.map (lendV k rs)) r) : ACall P f args S (fun r' S' => r' = r ∧ S' = S) := by
  refine ⟨(h S).1, fun w σ β vs hS hargs => ?_⟩
  obtain ⟨hh, hb, hobj⟩ := hS.obj k _ hk
  obtain ⟨hX1, hX2, hX3, hX4⟩ := hobj
  let siz : Nat → Nat := fun b => match w.heap[b]? with
    | some (.cells c _ _) => c.size
    | _ => 0
  have hsiz : ∀ b c t fz, w.heap[b]? = some (.cells c t fz) → siz b = c.size := fun b c t fz e => by simp [siz, e]
  have hXlt : ∀ b, XOwns hh b → b < w.heap.size := fun b hb' => blk_some (o := .xf rs) (S := S) (β := β) ⟨hX1, hX2, hX3, hX4⟩ hb'
  let σ1 : Nat → Nat := fun b => if XOwns hh b then siz b else σ b
  have hn1 : Near w σ w σ1 := fun b c t fz e => by
    refine ⟨?_, fun hlt => ?_, c, e, rfl, fun _ _ => rfl⟩
    · show σ b ≤ if XOwns hh b then siz b else σ b
      split
      · rename_i hx; rw [hX3 b hx]; exact Nat.zero_le _
      · exact Nat.le_refl _
    · show (if XOwns hh b then siz b else σ b) = σ b
      rw [if_neg fun hx => by have := hX3 b hx; omega]
  have hS1 : RepS w σ1 [] [] := repS_empty fun b => by
    by_cases hx : XOwns hh b
    · exact .inl (hXlt b hx)
    · rcases hS.live b with h' | h'
      · exact .inl h'
      · right; show (if XOwns hh b then siz b else σ b) = 0; rw [if_neg hx]; exact h'
  have hlc : ∀ c v, RepC w σ S β c v → RepC w σ1 [] [] (lendC k rs c) v := by
    intro c v hc
    unfold lendC
    split
    · rename_i k' r'
      split
      · rename_i e
        subst e
        split
        · rename_i es hes
          obtain ⟨o, ho, h2⟩ := hc
          rw [hk] at ho; cases ho
          obtain ⟨h', e1, e2⟩ := h2 rs rfl
          rw [hb] at e1; cases e1
          obtain ⟨T, q1, q2⟩ := hX1 r' es hes
          unfold hdrAt at e2
          rw [q1] at e2
          refine q2.data e2 fun b c t fz ho hb' => ?_
          show c.size ≤ if XOwns hh b then siz b else σ b
          rw [if_pos ⟨r', T, q1, ho⟩, hsiz b c t fz hb']
          exact Nat.le_refl _
        · trivial
      · trivial
    · exact RepD.mono hn1 hc
    · trivial
  have hargs1 : RepVs w σ1 [] [] (args.map (lendV k rs)) vs := by
    refine ⟨by rw [List.length_map]; exact hargs.1, fun j x hx => ?_⟩
    rw [List.getElem?_map] at hx
    cases ha : args[j]? with
    | none => rw [ha] at hx; cases hx
    | some y =>
      rw [ha] at hx; cases hx
      obtain ⟨v, h1, h2⟩ := hargs.2 j y ha
      refine ⟨v, h1, ?_⟩
      cases y with
      | c x => exact ⟨hlc x v h2.1, h2.2⟩
      | agg cs =>
        obtain ⟨a, e, hl, hc⟩ := h2
        refine ⟨a, e, by rw [List.length_map]; exact hl, fun i x hx => ?_⟩
        rw [List.getElem?_map] at hx
        cases hi : cs[i]? with
        | none => rw [hi] at hx; cases hx
        | some y =>
          rw [hi] at hx; cases hx
          obtain ⟨u, q1, q2, q3⟩ := hc i y hi
          exact ⟨u, q1, hlc y u q2, q3⟩
      | _ => trivial
  refine ((h []).2 w σ1 [] vs hS1 hargs1).mono fun e w' ⟨v, r', S', σ', β', he, hS', hk', hst, hv, hr', hS2⟩ => ?_
  subst hr'; subst hS2
  let σ2 : Nat → Nat := fun b => if XOwns hh b then 0 else σ' b
  have hg : Grow w σ w' σ2 := ⟨hst.size, hst.os, hst.output, fun b hlt => by
    obtain ⟨h1, h2⟩ := hst.far b hlt no_own0
    refine ⟨h1, ?_⟩
    show (if XOwns hh b then 0 else σ' b) = σ b
    by_cases hx : XOwns hh b
    · rw [if_pos hx, hX3 b hx]
    · rw [if_neg hx, h2]
      exact if_neg hx, fun b => by
    rcases hS'.live b with h' | h'
    · exact .inl h'
    · right; show (if XOwns hh b then 0 else σ' b) = 0; rw [h']; split <;> rfl⟩
  refine ⟨v, _, _, σ2, β, he, hS.grow hg, Keep.refl _ _, Step.of_grow hg, ?_, rfl, rfl⟩
  refine hr w' σ' σ2 _ _ _ _ v (fun b c t fz e hlt => ?_) hv
  by_cases hx : XOwns hh b
  · obtain ⟨h1, h2⟩ := hst.far b (hXlt b hx) no_own0
    rw [h1] at e
    have : σ1 b = siz b := if_pos hx
    rw [h2, this, hsiz b c t fz e] at hlt
    omega
  · exact if_neg hx
end
end Go.Ab

namespace Go.Ab
section
variable {P : Program} {w w' : World} {σ σ' : Nat → Nat} {S : Store} {β : Hs}
open Classical in
/-- The world with a forest's blocks taken as read. -/
theorem lend_world {args : List V} {k : Key} {rs : List (List (List D))} (hk : getO S k = some (.xf rs)) {vs : List Value} (hS : RepS w σ S β) (hargs : RepVs w σ S β args vs) :
    ∃ (σ1 : Nat → Nat) (X : Nat → Prop), (∀ b, ¬ X b → σ1 b = σ b) ∧ (∀ b, X b → σ b = 0 ∧ b < w.heap.size) ∧ (∀ b c t fz, X b → w.heap[b]? = some (.cells c t fz) → σ1 b ≤ c.size) ∧ RepS w σ1 [] [] ∧ RepVs w σ1 [] [] (args.map (lendV k rs)) vs := by
  obtain ⟨hh, hb, hobj⟩ := hS.obj k _ hk
  obtain ⟨hX1, hX2, hX3, hX4⟩ := hobj
  let siz : Nat → Nat := fun b => match w.heap[b]? with
    | some (.cells c _ _) => c.size
    | _ => 0
  have hsiz : ∀ b c t fz, w.heap[b]? = some (.cells c t fz) → siz b = c.size := fun b c t fz e => by simp [siz, e]
  have hXlt : ∀ b, XOwns hh b → b < w.heap.size := fun b hb' => blk_some (o := .xf rs) (S := S) (β := β) ⟨hX1, hX2, hX3, hX4⟩ hb'
  let σ1 : Nat → Nat := fun b => if XOwns hh b then siz b else σ b
  have hn1 : Near w σ w σ1 := fun b c t fz e => by
    refine ⟨?_, fun hlt => ?_, c, e, rfl, fun _ _ => rfl⟩
    · show σ b ≤ if XOwns hh b then siz b else σ b
      split
      · rename_i hx; rw [hX3 b hx]; exact Nat.zero_le _
      · exact Nat.le_refl _
    · show (if XOwns hh b then siz b else σ b) = σ b
      rw [if_neg fun hx => by have := hX3 b hx; omega]
  have hS1 : RepS w σ1 [] [] := repS_empty fun b => by
    by_cases hx : XOwns hh b
    · exact .inl (hXlt b hx)
    · rcases hS.live b with h' | h'
      · exact .inl h'
      · right; show (if XOwns hh b then siz b else σ b) = 0; rw [if_neg hx]; exact h'
  have hlc : ∀ c v, RepC w σ S β c v → RepC w σ1 [] [] (lendC k rs c) v := by
    intro c v hc
    unfold lendC
    split
    · rename_i k' r'
      split
      · rename_i e
        subst e
        split
        · rename_i es hes
          obtain ⟨o, ho, h2⟩ := hc
          rw [hk] at ho; cases ho
          obtain ⟨h', e1, e2⟩ := h2 rs rfl
          rw [hb] at e1; cases e1
          obtain ⟨T, q1, q2⟩ := hX1 r' es hes
          unfold hdrAt at e2
          rw [q1] at e2
          refine q2.data e2 fun b c t fz ho hb' => ?_
          show c.size ≤ if XOwns hh b then siz b else σ b
          rw [if_pos ⟨r', T, q1, ho⟩, hsiz b c t fz hb']
          exact Nat.le_refl _
        · trivial
      · trivial
    · exact RepD.mono hn1 hc
    · trivial
  have hargs1 : RepVs w σ1 [] [] (args.map (lendV k rs)) vs := by
    refine ⟨by rw [List.length_map]; exact hargs.1, fun j x hx => ?_⟩
    rw [List.getElem?_map] at hx
    cases ha : args[j]? with
    | none => rw [ha] at hx; cases hx
    | some y =>
      rw [ha] at hx; cases hx
      obtain ⟨v, h1, h2⟩ := hargs.2 j y ha
      refine ⟨v, h1, ?_⟩
      cases y with
      | c x => exact ⟨hlc x v h2.1, h2.2⟩
      | agg cs =>
        obtain ⟨a, e, hl, hc⟩ := h2
        refine ⟨a, e, by rw [List.length_map]; exact hl, fun i x hx => ?_⟩
        rw [List.getElem?_map] at hx
        cases hi : cs[i]? with
        | none => rw [hi] at hx; cases hx
        | some y =>
          rw [hi] at hx; cases hx
          obtain ⟨u, q1, q2, q3⟩ := hc i y hi
          exact ⟨u, q1, hlc y u q2, q3⟩
      | _ => trivial
  exact ⟨σ1, fun b => XOwns hh b, fun b hx => if_neg hx, fun b hx => ⟨hX3 b hx, hXlt b hx⟩, fun b c t fz hx e => by
    show (if XOwns hh b then siz b else σ b) ≤ c.size
    rw [if_pos hx, hsiz b c t fz e]
    exact Nat.le_refl _, hS1, hargs1⟩
open Classical in
/-- A labelled result, for all labels, of a call that a forest is lent to: the caller owns it. -/
theorem ACall.ownL {f : FuncId} {args : List V} {own0 : List Obj} {Ω : Store} {mk : List C → V} {r : List D} {k : Key} {rs : List (List (List D))} (hk : getO (own0 :: Ω) k = some (.xf rs)) (hm : Holder mk r.length) (hp : plR r = true)
    (h : ∀ n, PCall P f (args.map (lendV k rs)) (mk ((labR r n).map .d))) :
    ACall P f args (own0 :: Ω) (fun r' S' => r' = mk (rowX (0, own0.length) 0 r) ∧ S' = (own0 ++ [.xf (r.map rootD)]) :: Ω) := by
  refine ⟨(h 0 []).1, fun w σ β vs hS hargs => ?_⟩
  obtain ⟨σ1, X, hl1, hl2, hl3, hS1, hargs1⟩ := lend_world hk hS hargs
  obtain ⟨n, hn⟩ := bound_of σ1 w.heap.size
  refine ((h n []).2 w σ1 [] vs hS1 hargs1).mono fun e w' ⟨v, r', S', σ', β', he, hS', hk, hst, hv, hr', hS2⟩ => ?_
  subst hr'; subst hS2
  obtain ⟨us0, hcs, hback⟩ := hm w' σ' _ β' _ v (by rw [List.length_map, labR_length]) hv
  have hus0 : us0.length = r.length := by rw [← hcs.1, List.length_map, labR_length]
  obtain ⟨us, hus⟩ := lab_R r n (fun j => us0.getD j undef) hp (fun j d hd => by
    obtain ⟨u, h1, h2, _⟩ := hcs.2 j (.d d) (by rw [List.getElem?_map, hd]; rfl)
    simp only [List.getD_eq_getElem?_getD, h1, Option.getD_some]
    exact h2)
  let h0 : Value := .tuple (us.map fun u => u.getD emptyT).toArray
  have hroot : ∀ j, rootAt h0 j = (us[j]?).map fun u => u.getD emptyT := fun j => by simp [h0, rootAt]
  have hfresh : ∀ b, XOwns h0 b → w.heap.size ≤ b := by
    rintro b ⟨j, T, h1, h2⟩
    rw [hroot] at h1
    cases hu : us[j]? with
    | none => rw [hu] at h1; cases h1
    | some u =>
      rw [hu] at h1
      simp only [Option.map_some, Option.some.injEq] at h1
      cases u with
      | none => subst h1; exact absurd h2 owns_empty
      | some u =>
        simp at h1; subst h1
        obtain ⟨c, t, fz, m, a1, a2, a3, a4⟩ := hus.own j u hu b h2
        refine Nat.le_of_not_lt fun hlt => ?_
        have h1 := (hst.far b hlt no_own0).2
        have h2 := hn b hlt
        omega
  let σ2 : Nat → Nat := fun b => if XOwns h0 b then 0 else if X b then 0 else σ' b
  have hg : Grow w σ w' σ2 := ⟨hst.size, hst.os, hst.output, fun b hb => by
    obtain ⟨h1, h2⟩ := hst.far b hb no_own0
    refine ⟨h1, (if_neg fun hx => by have := hfresh b hx; omega).trans ?_⟩
    by_cases hx : X b
    · rw [if_pos hx, (hl2 b hx).1]
    · rw [if_neg hx, h2, hl1 b hx], fun b => by
    rcases hS'.live b with hb | hb
    · exact .inl hb
    · right; show (if XOwns h0 b then 0 else if X b then 0 else σ' b) = 0; rw [hb]; split <;> first | rfl | (split <;> rfl)⟩
  cases β with
  | nil => have := hS.shape.1; simp at this
  | cons bo bΩ =>
  have hlen : bo.length = own0.length := by
    obtain ⟨gr, g1, g2⟩ := hS.shape.2 0 own0 rfl
    simp at g1; rw [g1]; exact g2
  obtain ⟨hS3, hk3, hst3⟩ := hS.push (o := .xf (r.map rootD)) (h := h0) hg hlen (by
    refine ⟨fun j es hj => ?_, fun j T hT => ?_, fun b hb => if_pos hb, fun j j' T T' x hjj hT hT' hx hx' => ?_⟩
    · rw [List.getElem?_map] at hj
      cases hd : r[j]? with
      | none => rw [hd] at hj; cases hj
      | some d =>
        rw [hd] at hj
        simp only [Option.map_some, Option.some.injEq] at hj
        subst hj
        obtain ⟨u, h1, h2⟩ := hus.cell j d hd
        rw [hroot, h1]
        have hsc : (∀ es, d ≠ .sl es) → ∃ T, Option.map (fun u => Option.getD u emptyT) (some u) = some T ∧ ExT w' (rootD d) T := fun hne => by
          have hu : u = none := by cases d <;> first | exact absurd rfl (hne _) | exact h2.1
          have hr0 : rootD d = [] := by cases d <;> first | exact absurd rfl (hne _) | rfl
          subst hu
          rw [hr0]
          exact ⟨emptyT, rfl, .nil none 0 _ rfl kid_empty⟩
        cases d with
        | sl es => obtain ⟨T, rfl, _, _, h6⟩ := h2; exact ⟨T, rfl, h6⟩
        | _ => exact hsc (fun es e => by cases e)
    · rw [List.length_map]
      rw [hroot] at hT
      cases hu : us[j]? with
      | none => rw [hu] at hT; cases hT
      | some u => rw [← hus.len]; exact (List.getElem?_eq_some_iff.1 hu).1
    · rw [hroot] at hT hT'
      cases hu : us[j]? with
      | none => rw [hu] at hT; cases hT
      | some u =>
        cases hu' : us[j']? with
        | none => rw [hu'] at hT'; cases hT'
        | some u' =>
          rw [hu] at hT; rw [hu'] at hT'
          simp only [Option.map_some, Option.some.injEq] at hT hT'
          cases u with
          | none => subst hT; exact owns_empty hx
          | some u =>
            cases u' with
            | none => subst hT'; exact owns_empty hx'
            | some u' => simp at hT hT'; subst hT; subst hT'; exact hus.apart j j' u u' x hjj hu hu' hx hx') (fun b hb => hfresh b hb)
  refine ⟨v, _, _, σ2, (bo ++ [h0]) :: bΩ, he, hS3, hk3, hst3, ?_, rfl, rfl⟩
  refine hback _ _ _ _ _ (by rw [rowX_length]) ⟨by rw [rowX_length, hus0], fun j x hx => ?_⟩
  rw [rowX_at, Nat.zero_add] at hx
  cases hd : r[j]? with
  | none => rw [hd] at hx; cases hx
  | some d =>
    rw [hd] at hx
    simp only [Option.map_some, Option.some.injEq] at hx
    obtain ⟨u, h1, h2⟩ := hus.cell j d hd
    have hjl : j < (labR r n).length := by rw [labR_length]; exact (List.getElem?_eq_some_iff.1 hd).1
    obtain ⟨v0, h3, _, h4⟩ := hcs.2 j (.d (labR r n)[j]) (by rw [List.getElem?_map, List.getElem?_eq_getElem hjl]; rfl)
    have hv0 : us0.getD j undef = v0 := by rw [List.getD_eq_getElem?_getD, h3]; rfl
    simp only [hv0] at h2
    refine ⟨v0, h3, ?_, h4⟩
    have hsc : (∀ es, d ≠ .sl es) → RepC w' σ2 ((own0 ++ [.xf (r.map rootD)]) :: Ω) ((bo ++ [h0]) :: bΩ) (.d d) v0 := fun hne => by
      have : SD d v0 := by cases d <;> first | exact absurd rfl (hne _) | exact h2.2
      exact rep_SD this
    cases d with
    | sl es =>
      subst hx
      obtain ⟨T, rfl, _, h5, _⟩ := h2
      refine ⟨_, getO_push_new _ _ _, fun rs _ => ⟨h0, by rw [← hlen, getO_push_new], ?_⟩⟩
      unfold hdrAt
      rw [hroot, h1]
      exact h5
    | _ => subst hx; exact hsc (fun es e => by cases e)
/-! ### a forest, written at a path -/
theorem atP_updP : ∀ {p : List (Nat × Nat)} {es old new : List (List D)}, atP es p = some old → atP (updP es p new) p = some new
  | [], _, _, _, _ => rfl
  | (i, o) :: p, es, old, new, h => by
    rw [atP] at h
    rw [updP]
    cases hc : cellAt es i o with
    | none => rw [hc] at h; cases h
    | some d =>
      rw [hc] at h
      cases d with
      | sl es' =>
        simp only at h ⊢
        have hi : i < es.length ∧ o < (es.getD i []).length := by
          unfold cellAt at hc
          cases he : es[i]? with
          | none => rw [he] at hc; cases hc
          | some r =>
            rw [he] at hc
            refine ⟨(List.getElem?_eq_some_iff.1 he).1, ?_⟩
            rw [List.getD_eq_getElem?_getD, he]
            exact (List.getElem?_eq_some_iff.1 hc).1
        have h2 : cellAt (es.set i ((es.getD i []).set o (.sl (updP es' p new)))) i o = some (.sl (updP es' p new)) := by
          unfold cellAt
          rw [List.getElem?_set_self hi.1, Option.bind_some, List.getElem?_set_self hi.2]
        rw [atP, h2]
        exact atP_updP h
      | _ => cases h
theorem updP_at {es es' new : List (List D)} {i o : Nat} {p : List (Nat × Nat)} (h : cellAt es i o = some (.sl es')) : updP es ((i, o) :: p) new = es.set i ((es.getD i []).set o (.sl (updP es' p new))) := by
  rw [updP, h]
theorem updP_updP : ∀ {p : List (Nat × Nat)} {es old a b : List (List D)}, atP es p = some old → updP (updP es p a) p b = updP es p b
  | [], _, _, _, _, _ => rfl
  | (i, o) :: p, es, old, a, b, h => by
    rw [atP] at h
    cases hc : cellAt es i o with
    | none => rw [hc] at h; cases h
    | some d =>
      rw [hc] at h
      cases d with
      | sl es' =>
        simp only at h ⊢
        have hi : i < es.length ∧ o < (es.getD i []).length := by
          unfold cellAt at hc
          cases he : es[i]? with
          | none => rw [he] at hc; cases hc
          | some r =>
            rw [he] at hc
            refine ⟨(List.getElem?_eq_some_iff.1 he).1, ?_⟩
            rw [List.getD_eq_getElem?_getD, he]
            exact (List.getElem?_eq_some_iff.1 hc).1
        have h2 : cellAt (es.set i ((es.getD i []).set o (.sl (updP es' p a)))) i o = some (.sl (updP es' p a)) := by
          unfold cellAt
          rw [List.getElem?_set_self hi.1, Option.bind_some, List.getElem?_set_self hi.2]
        rw [updP_at hc, updP_at hc, updP_at h2, updP_updP h, List.set_set]
        congr 1
        rw [List.getD_eq_getElem?_getD, List.getElem?_set_self hi.1, Option.getD_some, List.set_set]
      | _ => cases h
theorem atP_snoc : ∀ {p : List (Nat × Nat)} {es old es' : List (List D)} {i o : Nat}, atP es p = some old → cellAt old i o = some (.sl es') → atP es (p ++ [(i, o)]) = some es'
  | [], es, old, es', i, o, h, hc => by cases h; rw [List.nil_append, atP, hc]; rfl
  | (i', o') :: p, es, old, es', i, o, h, hc => by
    rw [List.cons_append, atP]
    rw [atP] at h
    cases hd : cellAt es i' o' with
    | none => rw [hd] at h; cases h
    | some d =>
      rw [hd] at h
      cases d with
      | sl e => exact atP_snoc h hc
      | _ => cases h
theorem updP_snoc : ∀ {p : List (Nat × Nat)} {es old es' new : List (List D)} {i o : Nat}, atP es p = some old → cellAt old i o = some (.sl es') → updP es (p ++ [(i, o)]) new = updP es p (old.set i ((old.getD i []).set o (.sl new)))
  | [], es, old, es', new, i, o, h, hc => by cases h; rw [List.nil_append, updP_at hc]; rfl
  | (i', o') :: p, es, old, es', new, i, o, h, hc => by
    rw [List.cons_append]
    rw [atP] at h
    cases hd : cellAt es i' o' with
    | none => rw [hd] at h; cases h
    | some d =>
      rw [hd] at h
      cases d with
      | sl e => simp only at h; rw [updP_at hd, updP_at hd, updP_snoc h hc]
      | _ => cases h
theorem atR_lt {rs : List (List (List D))} {r : Nat} {p : List (Nat × Nat)} {old : List (List D)} (h : atR rs r p = some old) : ∃ hr : r < rs.length, atP rs[r] p = some old := by
  unfold atR at h
  cases hr : rs[r]? with
  | none => rw [hr] at h; cases h
  | some es =>
    rw [hr] at h
    obtain ⟨h1, h2⟩ := List.getElem?_eq_some_iff.1 hr
    exact ⟨h1, by rw [h2]; exact h⟩
theorem atR_updR {rs : List (List (List D))} {r : Nat} {p : List (Nat × Nat)} {old new : List (List D)} (h : atR rs r p = some old) : atR (updR rs r p new) r p = some new := by
  obtain ⟨hr, h⟩ := atR_lt h
  unfold atR updR
  rw [List.getElem?_set_self hr, Option.bind_some, List.getD_eq_getElem?_getD, List.getElem?_eq_getElem hr, Option.getD_some]
  exact atP_updP h
theorem updR_updR {rs : List (List (List D))} {r : Nat} {p : List (Nat × Nat)} {old a b : List (List D)} (h : atR rs r p = some old) : updR (updR rs r p a) r p b = updR rs r p b := by
  obtain ⟨hr, h⟩ := atR_lt h
  unfold updR
  rw [List.set_set, List.getD_eq_getElem?_getD, List.getElem?_set_self hr, List.getD_eq_getElem?_getD, List.getElem?_eq_getElem hr, Option.getD_some, Option.getD_some, updP_updP h]
theorem updP_same : ∀ {p : List (Nat × Nat)} {es old : List (List D)}, atP es p = some old → updP es p old = es
  | [], _, _, h => by cases h; rfl
  | (i, o) :: p, es, old, h => by
    rw [atP] at h
    cases hc : cellAt es i o with
    | none => rw [hc] at h; cases h
    | some d =>
      rw [hc] at h
      cases d with
      | sl es' =>
        simp only at h
        rw [updP_at hc, updP_same h]
        unfold cellAt at hc
        cases he : es[i]? with
        | none => rw [he] at hc; cases hc
        | some r =>
          rw [he] at hc
          obtain ⟨h1, h2⟩ := List.getElem?_eq_some_iff.1 he
          obtain ⟨h3, h4⟩ := List.getElem?_eq_some_iff.1 hc
          rw [List.getD_eq_getElem?_getD, he, Option.getD_some, ← h4, List.set_getElem_self, ← h2, List.set_getElem_self]
      | _ => cases h
theorem updR_same {rs : List (List (List D))} {r : Nat} {p : List (Nat × Nat)} {old : List (List D)} (h : atR rs r p = some old) : updR rs r p old = rs := by
  obtain ⟨hr, h⟩ := atR_lt h
  unfold updR
  rw [List.getD_eq_getElem?_getD, List.getElem?_eq_getElem hr, Option.getD_some, updP_same h, List.set_getElem_self]
theorem atR_snoc {rs : List (List (List D))} {r i o : Nat} {p : List (Nat × Nat)} {old es' : List (List D)} (h : atR rs r p = some old) (hc : cellAt old i o = some (.sl es')) : atR rs r (p ++ [(i, o)]) = some es' := by
  obtain ⟨hr, h⟩ := atR_lt h
  unfold atR
  rw [List.getElem?_eq_getElem hr, Option.bind_some]
  exact atP_snoc h hc
theorem updR_snoc {rs : List (List (List D))} {r i o : Nat} {p : List (Nat × Nat)} {old es' new : List (List D)} (h : atR rs r p = some old) (hc : cellAt old i o = some (.sl es')) :
    updR rs r (p ++ [(i, o)]) new = updR rs r p (old.set i ((old.getD i []).set o (.sl new))) := by
  obtain ⟨hr, h⟩ := atR_lt h
  unfold updR
  rw [List.getD_eq_getElem?_getD, List.getElem?_eq_getElem hr, Option.getD_some, updP_snoc h hc]
theorem atR_ne {rs : List (List (List D))} {r r' : Nat} {p p' : List (Nat × Nat)} {new : List (List D)} (h : r ≠ r') : atR (updR rs r p new) r' p' = atR rs r' p' := by
  unfold atR updR
  rw [List.getElem?_set_ne h]
end
end Go.Ab

namespace Go.Ab
section
variable {P : Program} {w w' : World} {σ σ' : Nat → Nat} {S : Store} {β : Hs}
end
end Go.Ab

namespace Go.Ab
section
variable {P : Program} {w w' : World} {σ σ' : Nat → Nat} {β : Hs}
/-- What a slice of a box is told to be: a token, with a label or without. -/
theorem box_tok {own : List Obj} {Ω : Store} (lab : Option Nat) (j i esz : Nat) (es : List (List D)) (cs : List C) (hj : own[j]? = some (.box cs)) (hi : cs[i]? = some (match lab with | some n => .lfl n es | none => .fsl es)) (hes : ∀ e ∈ es, e.length = esz) (hS : RepS w σ (own :: Ω) β) :
    ∃ β', RepS w σ ((own.set j (.box (cs.set i (.tsl (0, own.length) es))) ++ [tokO lab esz es]) :: Ω) β' ∧ Step (own :: Ω) β σ w ((own.set j (.box (cs.set i (.tsl (0, own.length) es))) ++ [tokO lab esz es]) :: Ω) β' σ w ∧ Keep (own :: Ω) β ((own.set j (.box (cs.set i (.tsl (0, own.length) es))) ++ [tokO lab esz es]) :: Ω) β' := by
  cases β with
  | nil => have := hS.shape.1; simp at this
  | cons bo bΩ =>
  have hlen : bo.length = own.length := by
    obtain ⟨gr, g1, g2⟩ := hS.shape.2 0 own rfl
    simp at g1; rw [g1]; exact g2
  have hjl := (List.getElem?_eq_some_iff.1 hj).1
  have hg0 : getO (own :: Ω) (0, j) = some (.box cs) := by rw [getO_zero]; exact hj
  obtain ⟨hb, hbo, hr⟩ := hS.obj (0, j) _ hg0
  obtain ⟨b, cv, ty, rfl, hbc, hσ, hcs⟩ := hr
  have hcs : RepCs w σ (own :: Ω) (bo :: bΩ) cs cv.toList := hcs
  obtain ⟨v, hv, hc0, hone⟩ := hcs.2 i _ hi
  have hx : ∃ ad : Option Addr, RepD w σ (.sl es) v ∧ v = .slice ad es.length es.length ∧ ∀ n, lab = some n → RepD w σ (.ol n es) v := by
    cases lab with
    | none =>
      obtain ⟨hd, ad, n, hval⟩ := hc0
      have hn : n = es.length := by rw [hval] at hd; cases hd <;> rfl
      exact ⟨ad, hd, by rw [hval, hn], fun n e => by cases e⟩
    | some n =>
      obtain ⟨hd, ad, m, hval⟩ := hc0
      have hn : m = es.length := by
        have := rep_ol hd
        rw [hval] at this
        cases this <;> rfl
      exact ⟨ad, rep_ol hd, by rw [hval, hn], fun n' e => by cases e; exact hd⟩
  obtain ⟨ad, hd, hval, hol⟩ := hx
  have hg : Grow w σ w σ := Grow.refl hS.live
  obtain ⟨hS', hk, hst⟩ := hS.push (o := tokO lab esz es) (h := v) hg hlen (by
    cases lab with
    | none => exact ⟨hd, hes, ad, es.length, hval, Nat.le_refl _, .inl rfl⟩
    | some n => exact ⟨hd, hes, ad, es.length, hval, Nat.le_refl _, .inl ⟨rfl, hol n rfl⟩⟩) (fun b hb => by
    rw [hval] at hb
    cases lab <;> cases ad <;> simp [tokO, owns, blk] at hb)
  have hk1 : getO ((own ++ [tokO lab esz es]) :: Ω) (0, j) = some (.box cs) := getO_push _ _ _ _ _ hg0
  have hh1 : getO ((bo ++ [v]) :: bΩ) (0, j) = some (.pointer (some ⟨b, 0, none⟩)) := getO_push _ _ _ _ _ hbo
  have hko : KeepO (.box cs) (some (Value.pointer (some ⟨b, 0, none⟩))) (.box (cs.set i (.tsl (0, own.length) es))) (some (Value.pointer (some ⟨b, 0, none⟩))) := .inr ⟨⟨_, rfl⟩, rfl⟩
  have hK : Keep ((own ++ [tokO lab esz es]) :: Ω) ((bo ++ [v]) :: bΩ) (setO ((own ++ [tokO lab esz es]) :: Ω) (0, j) (.box (cs.set i (.tsl (0, own.length) es)))) (setO ((bo ++ [v]) :: bΩ) (0, j) (.pointer (some ⟨b, 0, none⟩))) := by
    intro k1 o1 e1
    by_cases e : k1 = (0, j)
    · subst e
      rw [hk1] at e1; cases e1
      exact ⟨_, getO_setO_eq _ _ _ _ hk1, by rw [hh1, getO_setO_eq _ _ _ _ hh1]; exact hko⟩
    · exact ⟨o1, (getO_setO_ne _ _ _ _ (Ne.symm e)).trans e1, by rw [getO_setO_ne _ _ _ _ (Ne.symm e)]; exact .refl _ _⟩
  have hne : (0, own.length) ≠ (0, j) := fun e => by injection e with _ e; omega
  obtain ⟨hS2, hk2, hst2⟩ := hS'.set (w' := w) (σ' := σ) (o' := .box (cs.set i (.tsl (0, own.length) es))) (h' := .pointer (some ⟨b, 0, none⟩)) hk1 hh1 (Nat.le_refl _) rfl rfl (Near.refl _ _) hS'.live (fun _ _ _ => ⟨rfl, rfl⟩) hko
    ⟨b, cv, ty, rfl, hbc, hσ, by
      refine ⟨by rw [List.length_set]; exact hcs.1, fun m x hm => ?_⟩
      rw [List.getElem?_set] at hm
      by_cases e : i = m
      · subst e
        rw [if_pos rfl] at hm
        split at hm
        · cases hm
          refine ⟨v, hv, ⟨hd, tokO lab esz es, ?_, fun a1 b1 e1 => ?_⟩, hone⟩
          · show getO (setO _ (0, j) _) (0, own.length) = _
            rw [getO_setO_ne _ _ _ _ (Ne.symm hne), getO_push_new]
          · obtain ⟨_, rfl⟩ := istok_of e1
            refine ⟨Nat.le_refl _, fun _ => ?_⟩
            show getO (setO _ (0, j) _) (0, own.length) = _
            rw [getO_setO_ne _ _ _ _ (Ne.symm hne), ← hlen, getO_push_new]
        · cases hm
      · rw [if_neg e] at hm
        obtain ⟨u, hu, hc, ho⟩ := hcs.2 m x hm
        exact ⟨u, hu, (hc.mono (Near.refl _ _) hk).mono (Near.refl _ _) hK, ho⟩⟩ (fun _ e => .inl e)
  have est : setO ((own ++ [tokO lab esz es]) :: Ω) (0, j) (.box (cs.set i (.tsl (0, own.length) es))) = (own.set j (.box (cs.set i (.tsl (0, own.length) es))) ++ [tokO lab esz es]) :: Ω := by
    rw [setO, List.set_append_left _ _ hjl]
  rw [est] at hS2 hk2 hst2
  exact ⟨_, hS2, hst.trans hst2, hk.trans hk2⟩
/-- A call that is handed such a box. -/
theorem ACall.boxtok {f : FuncId} {args : List V} {post : V → Store → Prop} {own : List Obj} {Ω : Store} (lab : Option Nat) (j i esz : Nat) (es : List (List D)) (cs : List C) (hj : own[j]? = some (.box cs)) (hi : cs[i]? = some (match lab with | some n => .lfl n es | none => .fsl es)) (hes : ∀ e ∈ es, e.length = esz)
    (h : ACall P f args ((own.set j (.box (cs.set i (.tsl (0, own.length) es))) ++ [tokO lab esz es]) :: Ω) post) : ACall P f args (own :: Ω) post := by
  refine ⟨h.1, fun w σ β vs hS hargs => ?_⟩
  obtain ⟨β1, hS1, hst1, hk1⟩ := box_tok lab j i esz es cs hj hi hes hS
  have hargs1 : RepVs w σ _ β1 args vs := ⟨hargs.1, fun m x hx => by
    obtain ⟨v, h1, h2⟩ := hargs.2 m x hx
    exact ⟨v, h1, h2.mono (Near.refl _ _) hk1⟩⟩
  refine (h.2 w σ β1 vs hS1 hargs1).mono fun e w' ⟨v', r, S1, σ', β', he, hS', hk', hst', hr', hp⟩ => ?_
  exact ⟨v', r, S1, σ', β', he, hS', hk1.trans hk', hst1.trans hst', hr', hp⟩
end
end Go.Ab

namespace Go.Ab
section
variable {α : Type} (f : α → MExpr → α)
mutual
def foldE : MExpr → α → α
  | .mk k t n m ty a b, s => foldR b (foldL a (f s (.mk k t n m ty a b)))
def foldL : List MExpr → α → α
  | [], s => s
  | x :: xs, s => foldL xs (foldE x s)
def foldR : List MArm → α → α
  | [], s => s
  | x :: xs, s => foldR xs (foldM x s)
def foldM : MArm → α → α
  | .mk _ _ b, s => foldE b s
end
theorem foldE_eq (x : MExpr) (s : α) : foldE f x s = foldR f x.fArms (foldL f x.fArgs (f s x)) := by cases x; rw [foldE]; rfl
theorem foldM_eq (x : MArm) (s : α) : foldM f x s = foldE f x.fBody s := by cases x; rw [foldM]; rfl
theorem foldL_drop {xs : List MExpr} {i : Nat} (hi : i < xs.length) (s : α) : foldL f (xs.drop i) s = foldL f (xs.drop (i + 1)) (foldE f xs[i] s) := by rw [List.drop_eq_getElem_cons hi, foldL]
theorem foldR_drop {xs : List MArm} {i : Nat} (hi : i < xs.length) (s : α) : foldR f (xs.drop i) s = foldR f (xs.drop (i + 1)) (foldE f xs[i].fBody s) := by rw [List.drop_eq_getElem_cons hi, foldR, foldM_eq]
variable {f} {I : Nat → α → Prop}
mutual
theorem foldE_I (hI : ∀ n a u, I (n + 1) a → I n (f a u)) : ∀ (x : MExpr) (m : Nat) (a : α), I (m + x.cnt) a → I m (foldE f x a)
  | .mk k t n q ty a b, m, s, h => by
    rw [foldE]
    rw [MExpr.cnt, show m + (1 + (MExpr.cnts a + MArm.cnts b)) = (m + MArm.cnts b + MExpr.cnts a) + 1 by omega] at h
    exact foldR_I hI b m _ (foldL_I hI a _ _ (hI _ _ _ h))
theorem foldL_I (hI : ∀ n a u, I (n + 1) a → I n (f a u)) : ∀ (xs : List MExpr) (m : Nat) (a : α), I (m + MExpr.cnts xs) a → I m (foldL f xs a)
  | [], m, s, h => by rw [foldL]; exact h
  | x :: xs, m, s, h => by
    rw [foldL]
    rw [MExpr.cnts, show m + (x.cnt + MExpr.cnts xs) = (m + MExpr.cnts xs) + x.cnt by omega] at h
    exact foldL_I hI xs m _ (foldE_I hI x _ _ h)
theorem foldR_I (hI : ∀ n a u, I (n + 1) a → I n (f a u)) : ∀ (xs : List MArm) (m : Nat) (a : α), I (m + MArm.cnts xs) a → I m (foldR f xs a)
  | [], m, s, h => by rw [foldR]; exact h
  | x :: xs, m, s, h => by
    rw [foldR]
    rw [MArm.cnts, show m + (x.cnt + MArm.cnts xs) = (m + MArm.cnts xs) + x.cnt by omega] at h
    exact foldR_I hI xs m _ (foldM_I hI x _ _ h)
theorem foldM_I (hI : ∀ n a u, I (n + 1) a → I n (f a u)) : ∀ (x : MArm) (m : Nat) (a : α), I (m + x.cnt) a → I m (foldM f x a)
  | .mk _ _ b, m, s, h => by
    rw [foldM]
    rw [MArm.cnt] at h
    exact foldE_I hI b m _ h
end
end
open Classical in
noncomputable def addC (out : List (List UInt8)) (x : MExpr) : List (List UInt8) := if x.fKind = 4 ∧ x.fName ∉ out then out ++ [x.fName] else out
theorem addC_len (out : List (List UInt8)) (x : MExpr) : (addC out x).length ≤ out.length + 1 := by
  unfold addC
  split <;> simp
noncomputable def callE (x : MExpr) : List (List UInt8) := foldE addC x []
theorem addC_I (B : Nat) : ∀ (n : Nat) (a : List (List UInt8)) (u : MExpr), a.length + (n + 1) ≤ B → (addC a u).length + n ≤ B := fun n a u h => by have := addC_len a u; omega
theorem callE_len (x : MExpr) (out : List (List UInt8)) : (foldE addC x out).length ≤ out.length + x.cnt :=
  foldE_I (I := fun n a => a.length + n ≤ out.length + x.cnt) (addC_I _) x 0 out (by omega)
end Go.Ab
namespace Go.Proofs.Ytnleocfkdidhoaa
open Go Go.Ab
theorem eachExpr_all : ∀ n : Nat, ∀ x : MExpr, SizeOf.sizeOf x < n → x.sz ≤ 4194304 → ∀ (g : Nat) (caps : List (Key × Nat)) (α : Type) (st : α → Store) (I : Nat → α → Prop) (f : α → MExpr → α) (hf : FStep Try.prog g caps st I f MExpr.v (fun _ => True)) (m : Nat) (a : α), I (m + x.cnt) a →
    ACall Try.prog 68 [x.v, .c (.fn g caps)] (st a) (fun r S' => r = .tup [] ∧ S' = st (foldE f x a))
  | 0 => fun t h => by omega
  | n + 1 => by
    have ih := eachExpr_all n
    intro x hn hsz g caps α st I f hf m a ha
    have hI : ∀ n a u, I (n + 1) a → I n (f a u) := fun n a u h => (hf n a u h trivial).1
    have lArgs := MExpr.lt_Args x
    have lArms := MExpr.lt_Arms x
    have hb0 := MExpr.sz_parts x
    rw [MExpr.cnt_eq, show m + (1 + (MExpr.cnts x.fArgs + MArm.cnts x.fArms)) = (m + MArm.cnts x.fArms + MExpr.cnts x.fArgs) + 1 by omega] at ha
    have h1 := hf _ a x ha trivial
    have fin := foldE_eq f x a
    refine acall_cw (rs := []) Try.checked.mixed Try.func68 Try.ntmps68 rfl rfl rfl rfl rfl ?_
    simp -implicitDefEqProofs (disch := omega) only [go_sem]
    refine call_d rfl (h1.2 [_]) ?_
    simp -implicitDefEqProofs (disch := omega) only [go_sem]
    refine loop_at (ι := Nat × α) Try.checked.mixed rfl [1, 2, 12, 13, 14] (fun y => [.c (.fn g (upCaps 1 caps)), .c (.ptr (0, 0) 0), .c (.d (.sl (x.fArgs.map MExpr.enc))), .c (.d (.i .i64 x.fArgs.length)), .c (.d (.i .i64 y.1))]) (fun y => [.box (x.enc.map .d)] :: st y.2)
      (fun y => y.1 ≤ x.fArgs.length ∧ I (m + MArm.cnts x.fArms + MExpr.cnts (x.fArgs.drop y.1)) y.2 ∧ foldL f (x.fArgs.drop y.1) y.2 = foldL f x.fArgs (f a x)) (fun y => x.fArgs.length - y.1) (0, f a x) rfl ?_ ⟨Nat.zero_le _, h1.1, rfl⟩ ?_
    · simp -implicitDefEqProofs (disch := omega) only [go_sem]
    rintro ⟨i, b⟩ ⟨p1, p2, p3⟩
    simp only at p1 p2 p3
    simp -implicitDefEqProofs (disch := omega) only [go_sem]
    with_reducible refine split2 (fun hb => ?_) (fun hb => ?_) <;> have h := hb <;> (try simp only [wf_preprocess] at h) <;> simp -implicitDefEqProofs (disch := omega) only [go_sem, hb] <;> (repeat (with_reducible refine And.intro ?_ ?_; focus first | omega | rfl | assumption | exact ⟨_, rfl, rfl⟩ | (simp; omega) | (simp; done)))
    · have hi : i < x.fArgs.length := by omega
      have hs := List.sizeOf_lt_of_mem (List.getElem_mem hi)
      have hz := MExpr.arg_sz hi
      rw [foldL_drop f hi] at p3
      rw [MExpr.cnts_drop hi, show m + MArm.cnts x.fArms + (x.fArgs[i].cnt + MExpr.cnts (x.fArgs.drop (i + 1))) = (m + MArm.cnts x.fArms + MExpr.cnts (x.fArgs.drop (i + 1))) + x.fArgs[i].cnt by omega] at p2
      have h2 := foldE_I hI x.fArgs[i] _ b p2
      (repeat (with_reducible refine And.intro ?_ ?_; focus first | omega | rfl | assumption | exact ⟨_, rfl, rfl⟩ | (simp; omega) | (simp; done)))
      refine call_d rfl (ih x.fArgs[i] (by omega) (by omega) g (upCaps 1 caps) α (fun a => [.box [.d (.i .i64 x.fKind), .d (.s x.fTrait), .d (.s x.fName), .d (.i .i64 x.fN), .d (.i .i64 x.fType.fKind), .d (.s x.fType.fName), .d (.sl (x.fType.fArgs.map MType.enc)), .d (.sl (x.fArgs.map MExpr.enc)), .d (.sl (x.fArms.map MArm.enc))], .box [.d (.i .i64 x.fArgs[i].fKind), .d (.s x.fArgs[i].fTrait), .d (.s x.fArgs[i].fName), .d (.i .i64 x.fArgs[i].fN), .d (.i .i64 x.fArgs[i].fType.fKind), .d (.s x.fArgs[i].fType.fName), .d (.sl (x.fArgs[i].fType.fArgs.map MType.enc)), .d (.sl (x.fArgs[i].fArgs.map MExpr.enc)), .d (.sl (x.fArgs[i].fArms.map MArm.enc))]] :: st a) I f (hf.push _) _ b p2) ?_
      simp -implicitDefEqProofs (disch := omega) only [go_sem]
      exact inv_drop 1 (by decide) (i + 1, foldE f x.fArgs[i] b) (by simp only; omega) rfl (by simp only [MExpr.enc_eq, MType.enc_eq, List.cons_append, List.nil_append, List.map_cons, List.map_nil, List.take_succ_cons, List.take_zero]) (by simp only [zipTm, tmRefs, List.all_cons, List.all_nil, V.refs, C.refs, refs_upCaps1, Bool.and_true, Bool.true_and]; rfl) rfl ⟨by simp only; omega, h2, p3⟩
    have hi : i = x.fArgs.length := by omega
    rw [hi, List.drop_length] at p2 p3
    rw [MExpr.cnts, Nat.add_zero] at p2
    rw [foldL] at p3
    rw [← p3] at fin
    clear p3
    refine loop_at (ι := Nat × α) Try.checked.mixed rfl [1, 23, 24, 25] (fun y => [.c (.fn g (upCaps 1 caps)), .c (.d (.sl (x.fArms.map MArm.enc))), .c (.d (.i .i64 x.fArms.length)), .c (.d (.i .i64 y.1))]) (fun y => [.box (x.enc.map .d)] :: st y.2)
      (fun y => y.1 ≤ x.fArms.length ∧ I (m + MArm.cnts (x.fArms.drop y.1)) y.2 ∧ foldR f (x.fArms.drop y.1) y.2 = foldE f x a) (fun y => x.fArms.length - y.1) (0, b) rfl ?_ ⟨Nat.zero_le _, p2, fin.symm⟩ ?_
    · simp -implicitDefEqProofs (disch := omega) only [go_sem]
    rintro ⟨i, b⟩ ⟨p1, p2, p3⟩
    simp only at p1 p2 p3
    simp -implicitDefEqProofs (disch := omega) only [go_sem]
    with_reducible refine split2 (fun hb => ?_) (fun hb => ?_) <;> have h := hb <;> (try simp only [wf_preprocess] at h) <;> simp -implicitDefEqProofs (disch := omega) only [go_sem, hb] <;> (repeat (with_reducible refine And.intro ?_ ?_; focus first | omega | rfl | assumption | exact ⟨_, rfl, rfl⟩ | (simp; omega) | (simp; done)))
    · have hi : i < x.fArms.length := by omega
      have hs := List.sizeOf_lt_of_mem (List.getElem_mem hi)
      have hs' := MArm.lt_Body x.fArms[i]
      have hz := MExpr.arm_sz hi
      have hz' := MArm.sz_vars x.fArms[i]
      rw [foldR_drop f hi] at p3
      rw [MArm.cnts_drop hi, show m + (x.fArms[i].fBody.cnt + MArm.cnts (x.fArms.drop (i + 1))) = (m + MArm.cnts (x.fArms.drop (i + 1))) + x.fArms[i].fBody.cnt by omega] at p2
      have h2 := foldE_I hI x.fArms[i].fBody _ b p2
      (repeat (with_reducible refine And.intro ?_ ?_; focus first | omega | rfl | assumption | exact ⟨_, rfl, rfl⟩ | (simp; omega) | (simp; done)))
      refine call_d rfl (ih x.fArms[i].fBody (by omega) (by omega) g (upCaps 1 caps) α (fun a => [.box [.d (.i .i64 x.fKind), .d (.s x.fTrait), .d (.s x.fName), .d (.i .i64 x.fN), .d (.i .i64 x.fType.fKind), .d (.s x.fType.fName), .d (.sl (x.fType.fArgs.map MType.enc)), .d (.sl (x.fArgs.map MExpr.enc)), .d (.sl (x.fArms.map MArm.enc))], .box [.d (.s x.fArms[i].fConstructor), .d (.sl (x.fArms[i].fVars.map encS)), .d (.i .i64 x.fArms[i].fBody.fKind), .d (.s x.fArms[i].fBody.fTrait), .d (.s x.fArms[i].fBody.fName), .d (.i .i64 x.fArms[i].fBody.fN), .d (.i .i64 x.fArms[i].fBody.fType.fKind), .d (.s x.fArms[i].fBody.fType.fName), .d (.sl (x.fArms[i].fBody.fType.fArgs.map MType.enc)), .d (.sl (x.fArms[i].fBody.fArgs.map MExpr.enc)), .d (.sl (x.fArms[i].fBody.fArms.map MArm.enc))]] :: st a) I f (hf.push _) _ b p2) ?_
      simp -implicitDefEqProofs (disch := omega) only [go_sem]
      exact inv_drop 1 (by decide) (i + 1, foldE f x.fArms[i].fBody b) (by simp only; omega) rfl (by simp only [MExpr.enc_eq, MType.enc_eq, List.cons_append, List.nil_append, List.map_cons, List.map_nil, List.take_succ_cons, List.take_zero]) (by simp only [zipTm, tmRefs, List.all_cons, List.all_nil, V.refs, C.refs, refs_upCaps1, Bool.and_true, Bool.true_and]) rfl ⟨by simp only; omega, h2, p3⟩
    · have hi : i = x.fArms.length := by omega
      rw [hi, List.drop_length, foldR] at p3
      rw [p3]
theorem called1_step (c0 : List C) (S : Store) : FStep Try.prog 69 [((0, 1), 0)] (fun out : List (List UInt8) => (.box c0 :: .box [.tsl (0, 2) (out.map encS)] :: .tok 1 (out.map encS) :: []) :: S) (fun n out => out.length + n ≤ 1073741824) addC MExpr.v (fun _ => True) := by
  intro n out u hI hu
  refine ⟨by have := addC_len out u; omega, fun F => ?_⟩
  refine acall_cw (rs := []) Try.checked.mixed Try.func69 Try.ntmps69 rfl rfl rfl rfl rfl ?_
  simp -implicitDefEqProofs (disch := omega) only [go_sem]
  with_reducible refine split2 (fun hb => ?_) (fun hb => ?_) <;> have h := hb <;> (try simp only [wf_preprocess] at h) <;> simp -implicitDefEqProofs (disch := omega) only [go_sem, hb] <;> (repeat (with_reducible refine And.intro ?_ ?_; focus first | omega | rfl | assumption | exact ⟨_, rfl, rfl⟩ | (simp; omega) | (simp; done)))
  · have h1 := h
    refine call_w (containsS_ok out u.fName (by omega)) ?_
    simp -implicitDefEqProofs (disch := omega) only [go_sem] <;> (repeat (with_reducible refine And.intro ?_ ?_; focus first | omega | rfl | assumption | exact ⟨_, rfl, rfl⟩ | (simp; omega) | (simp; done)))
    with_reducible refine split2 (fun hb => ?_) (fun hb => ?_) <;> have h := hb <;> (try simp only [wf_preprocess] at h) <;> simp -implicitDefEqProofs (disch := omega) only [go_sem, hb] <;> (repeat (with_reducible refine And.intro ?_ ?_; focus first | omega | rfl | assumption | exact ⟨_, rfl, rfl⟩ | (simp; omega) | (simp; done)))
    · (repeat (with_reducible refine And.intro ?_ ?_; focus first | omega | rfl | assumption | exact ⟨_, rfl, rfl⟩ | (simp; omega) | (simp; done)))
      have ha : addC out u = out ++ [u.fName] := if_pos ⟨h1, h⟩
      rw [ha]; simp [encS]
    · have ha : addC out u = out := if_neg fun x => x.2 h
      rw [ha]
  · have ha : addC out u = out := if_neg fun x => h x.1
    rw [ha]
theorem called1L_step (q : Nat) (c0 : List C) (S : Store) : FStep Try.prog 69 [((0, 2), 0)] (fun out : List (List UInt8) => (.seed q :: .box c0 :: .box [.tsl (0, 3) (out.map encS)] :: .ltok q 1 (out.map encS) :: []) :: S) (fun n out => out.length + n ≤ 1073741824) addC MExpr.v (fun _ => True) := by
  intro n out u hI hu
  refine ⟨by have := addC_len out u; omega, fun F => ?_⟩
  refine acall_cw (rs := []) Try.checked.mixed Try.func69 Try.ntmps69 rfl rfl rfl rfl rfl ?_
  simp -implicitDefEqProofs (disch := omega) only [go_sem]
  with_reducible refine split2 (fun hb => ?_) (fun hb => ?_) <;> have h := hb <;> (try simp only [wf_preprocess] at h) <;> simp -implicitDefEqProofs (disch := omega) only [go_sem, hb] <;> (repeat (with_reducible refine And.intro ?_ ?_; focus first | omega | rfl | assumption | exact ⟨_, rfl, rfl⟩ | (simp; omega) | (simp; done)))
  · have h1 := h
    refine call_w (containsS_ok out u.fName (by omega)) ?_
    simp -implicitDefEqProofs (disch := omega) only [go_sem] <;> (repeat (with_reducible refine And.intro ?_ ?_; focus first | omega | rfl | assumption | exact ⟨_, rfl, rfl⟩ | (simp; omega) | (simp; done)))
    with_reducible refine split2 (fun hb => ?_) (fun hb => ?_) <;> have h := hb <;> (try simp only [wf_preprocess] at h) <;> simp -implicitDefEqProofs (disch := omega) only [go_sem, hb] <;> (repeat (with_reducible refine And.intro ?_ ?_; focus first | omega | rfl | assumption | exact ⟨_, rfl, rfl⟩ | (simp; omega) | (simp; done)))
    · (repeat (with_reducible refine And.intro ?_ ?_; focus first | omega | rfl | assumption | exact ⟨_, rfl, rfl⟩ | (simp; omega) | (simp; done)))
      have ha : addC out u = out ++ [u.fName] := if_pos ⟨h1, h⟩
      rw [ha]; simp [encS]
    · have ha : addC out u = out := if_neg fun x => x.2 h
      rw [ha]
  · have ha : addC out u = out := if_neg fun x => h x.1
    rw [ha]
theorem implCalled_ok (x : MExpr) (hsz : x.sz ≤ 4194304) : PCall Try.prog 31 [x.v] (.c (.d (.sl ((callE x).map encS)))) := fun S => by
  have hc := MExpr.cnt_le x
  refine acall_cw (rs := [.tmp 2]) Try.checked.mixed Try.func31 Try.ntmps31 rfl rfl rfl rfl rfl ?_
  simp -implicitDefEqProofs (disch := omega) only [go_sem]
  (repeat (with_reducible refine And.intro ?_ ?_; focus first | omega | rfl | assumption | exact ⟨_, rfl, rfl⟩ | (simp; omega) | (simp; done)))
  refine call_d rfl (ACall.boxtok none 1 0 1 [] [.fsl []] rfl rfl (by simp) (eachExpr_all _ x (Nat.lt_succ_self _) hsz _ _ _ _ _ _ (called1_step [.d (.i .i64 x.fKind), .d (.s x.fTrait), .d (.s x.fName), .d (.i .i64 x.fN), .d (.i .i64 x.fType.fKind), .d (.s x.fType.fName), .d (.sl (x.fType.fArgs.map MType.enc)), .d (.sl (x.fArgs.map MExpr.enc)), .d (.sl (x.fArms.map MArm.enc))] S) 0 [] (by simp; omega))) ?_
  simp -implicitDefEqProofs (disch := omega) only [go_sem]
  rfl
theorem implCalled_lab (x : MExpr) (hsz : x.sz ≤ 4194304) (q : Nat) : PCall Try.prog 31 [x.v] (.c (.d (.ol q ((callE x).map encS)))) := fun S => by
  have hc := MExpr.cnt_le x
  refine acall_cwL (q) (rs := [.tmp 2]) Try.checked.mixed Try.func31 Try.ntmps31 rfl rfl rfl rfl rfl ?_
  simp -implicitDefEqProofs (disch := omega) only [go_sem]
  (repeat (with_reducible refine And.intro ?_ ?_; focus first | omega | rfl | assumption | exact ⟨_, rfl, rfl⟩ | (simp; omega) | (simp; done)))
  refine call_d rfl (ACall.boxtok (some q) 2 0 1 [] [.lfl q []] rfl rfl (by simp) (eachExpr_all _ x (Nat.lt_succ_self _) hsz _ _ _ _ _ _ (called1L_step q [.d (.i .i64 x.fKind), .d (.s x.fTrait), .d (.s x.fName), .d (.i .i64 x.fN), .d (.i .i64 x.fType.fKind), .d (.s x.fType.fName), .d (.sl (x.fType.fArgs.map MType.enc)), .d (.sl (x.fArgs.map MExpr.enc)), .d (.sl (x.fArms.map MArm.enc))] S) 0 [] (by simp; omega))) ?_
  simp -implicitDefEqProofs (disch := omega) only [go_sem]
  rfl
set_option maxHeartbeats 2000000 in
theorem specCalls_all : ∀ N : Nat, ∀ x : MExpr, SizeOf.sizeOf x < N → x.sz ≤ 4194304 → ∀ (out : List (List UInt8)) (l j : Nat) (S : Store), getO S (l, j) = some (.tok 1 (out.map encS)) → out.length + x.cnt ≤ 1073741824 →
    ACall Try.prog 67 [x.v, .c (.tsl (l, j) (out.map encS))] S (fun r S' => r = .c (.tsl (l, j) ((foldE addC x out).map encS)) ∧ S' = setO S (l, j) (.tok 1 ((foldE addC x out).map encS)))
  | 0 => fun x h => by omega
  | N + 1 => by
    have ih := specCalls_all N
    intro x hn hsz out l j S hk hc
    have hb0 := MExpr.sz_parts x
    have lArgs := MExpr.lt_Args x
    have lArms := MExpr.lt_Arms x
    have hcn := MExpr.cnt_eq x
    have hkS : ∀ y : Ab.Obj, getO (setO S (l, j) y) (l, j) = some y := fun y => getO_setO_eq _ _ _ _ hk
    have hS0 : setO S (l, j) (.tok 1 (out.map encS)) = S := setO_self _ _ hk
    have fin := foldE_eq addC x out
    have hal := addC_len out x
    obtain ⟨o1, ho1⟩ : ∃ o1, addC out x = o1 := ⟨_, rfl⟩
    rw [ho1] at fin hal
    refine (show Hold ?T → _ from fun tail => ?main) ?tp
    case' main =>
      refine acall_cw (rs := [.tmp 4]) Try.checked.mixed Try.func67 Try.ntmps67 rfl rfl rfl rfl rfl ?_
      simp -implicitDefEqProofs (disch := omega) only [go_sem, hk]
      repeat' (first
        | (with_reducible refine split2 (fun hb => ?_) (fun hb => ?_) <;> have h := hb <;> (try simp only [wf_preprocess] at h) <;> simp -implicitDefEqProofs (disch := omega) only [go_sem, hb, hk] <;> (repeat (with_reducible refine And.intro ?_ ?_; focus first | omega | rfl | assumption | exact ⟨_, rfl, rfl⟩ | (simp; omega) | (simp; done))))
        | (refine call_w (l1Has_ok out x.fName (by omega)) ?_; simp -implicitDefEqProofs (disch := omega) only [go_sem, hk]; (repeat (with_reducible refine And.intro ?_ ?_; focus first | omega | rfl | assumption | exact ⟨_, rfl, rfl⟩ | (simp; omega) | (simp; done)))))
      all_goals first
        | (have ha : addC out x = out ++ [x.fName] := if_pos ⟨by assumption, by assumption⟩)
        | (have ha : addC out x = out := if_neg (fun y => by have := y.1; have := y.2; contradiction))
      all_goals
        refine aw_canon (st' := [.box (x.enc.map .d)] :: setO S (l, j) (.tok 1 (o1.map encS))) [1, 2, 5] [.c (.tsl (1 + l, j) (o1.map encS)), .c (.ptr (0, 0) 0), .c (.d (.i .i64 0))] ?_ ?_ ?_
        · first | (rw [← ho1, ha]; rfl) | (rw [← ho1, ha, ← snocW]; rfl)
        · first | (rw [← ho1, ha, hS0]; simp -implicitDefEqProofs (disch := omega) only [go_sem]; done) | (rw [← ho1, ha, ← snocW]; simp -implicitDefEqProofs (disch := omega) only [go_sem]; done)
        · exact tail.out
    refine ⟨?_⟩
    clear ho1
    refine loop_at (ι := Nat × List (List UInt8)) Try.checked.mixed rfl [1, 2, 5] (fun y => [.c (.tsl (1 + l, j) (y.2.map encS)), .c (.ptr (0, 0) 0), .c (.d (.i .i64 y.1))]) (fun y => [.box (x.enc.map .d)] :: setO S (l, j) (.tok 1 (y.2.map encS)))
      (fun y => y.1 ≤ x.fArgs.length ∧ y.2.length + MExpr.cnts (x.fArgs.drop y.1) + MArm.cnts x.fArms ≤ 1073741824 ∧ foldL addC (x.fArgs.drop y.1) y.2 = foldL addC x.fArgs o1) (fun y => x.fArgs.length - y.1) (0, o1) rfl rfl ⟨Nat.zero_le _, by simp only [List.drop_zero]; omega, rfl⟩ ?_
    rintro ⟨i, o⟩ ⟨p1, p2, p3⟩
    simp only at p1 p2 p3
    simp -implicitDefEqProofs (disch := omega) only [go_sem]
    with_reducible refine split2 (fun hb => ?_) (fun hb => ?_) <;> have h := hb <;> (try simp only [wf_preprocess] at h) <;> simp -implicitDefEqProofs (disch := omega) only [go_sem, hb] <;> (repeat (with_reducible refine And.intro ?_ ?_; focus first | omega | rfl | assumption | exact ⟨_, rfl, rfl⟩ | (simp; omega) | (simp; done)))
    · have hi : i < x.fArgs.length := by omega
      have hs := List.sizeOf_lt_of_mem (List.getElem_mem hi)
      have hz := MExpr.arg_sz hi
      rw [foldL_drop addC hi] at p3
      rw [MExpr.cnts_drop hi] at p2
      have hlo := callE_len x.fArgs[i] o
      (repeat (with_reducible refine And.intro ?_ ?_; focus first | omega | rfl | assumption | exact ⟨_, rfl, rfl⟩ | (simp; omega) | (simp; done)))
      refine call_d rfl (ih x.fArgs[i] (by omega) (by omega) o (1 + l) j _ (by simp -implicitDefEqProofs (disch := omega) only [go_sem]; exact hkS _) (by omega)) ?_
      simp -implicitDefEqProofs (disch := omega) only [go_sem, setO_twice]
      exact inv_at (i + 1, foldE addC x.fArgs[i] o) (by simp only; omega) rfl rfl ⟨by simp only; omega, by simp only; omega, p3⟩
    have hi : i = x.fArgs.length := by omega
    rw [hi, List.drop_length] at p2 p3
    rw [MExpr.cnts] at p2
    rw [foldL] at p3
    rw [← p3] at fin
    clear p3
    refine loop_at (ι := Nat × List (List UInt8)) Try.checked.mixed rfl [1, 2, 6] (fun y => [.c (.tsl (1 + l, j) (y.2.map encS)), .c (.ptr (0, 0) 0), .c (.d (.i .i64 y.1))]) (fun y => [.box (x.enc.map .d)] :: setO S (l, j) (.tok 1 (y.2.map encS)))
      (fun y => y.1 ≤ x.fArms.length ∧ y.2.length + MArm.cnts (x.fArms.drop y.1) ≤ 1073741824 ∧ foldR addC (x.fArms.drop y.1) y.2 = foldE addC x out) (fun y => x.fArms.length - y.1) (0, o) rfl ?_ ⟨Nat.zero_le _, by simp only [List.drop_zero]; omega, fin.symm⟩ ?_
    · simp -implicitDefEqProofs (disch := omega) only [go_sem]
    clear p1 p2 fin hal
    rintro ⟨i, o⟩ ⟨p1, p2, p3⟩
    simp only at p1 p2 p3
    simp -implicitDefEqProofs (disch := omega) only [go_sem]
    with_reducible refine split2 (fun hb => ?_) (fun hb => ?_) <;> have h := hb <;> (try simp only [wf_preprocess] at h) <;> simp -implicitDefEqProofs (disch := omega) only [go_sem, hb] <;> (repeat (with_reducible refine And.intro ?_ ?_; focus first | omega | rfl | assumption | exact ⟨_, rfl, rfl⟩ | (simp; omega) | (simp; done)))
    · have hi : i < x.fArms.length := by omega
      have hs := List.sizeOf_lt_of_mem (List.getElem_mem hi)
      have hs' := MArm.lt_Body x.fArms[i]
      have hz := MExpr.arm_sz hi
      have hz' := MArm.sz_vars x.fArms[i]
      rw [foldR_drop addC hi] at p3
      rw [MArm.cnts_drop hi] at p2
      have hlo := callE_len x.fArms[i].fBody o
      (repeat (with_reducible refine And.intro ?_ ?_; focus first | omega | rfl | assumption | exact ⟨_, rfl, rfl⟩ | (simp; omega) | (simp; done)))
      refine call_d rfl (ih x.fArms[i].fBody (by omega) (by omega) o (1 + l) j _ (by simp -implicitDefEqProofs (disch := omega) only [go_sem]; exact hkS _) (by omega)) ?_
      simp -implicitDefEqProofs (disch := omega) only [go_sem, setO_twice]
      exact inv_at (i + 1, foldE addC x.fArms[i].fBody o) (by simp only; omega) rfl rfl ⟨by simp only; omega, by simp only; omega, p3⟩
    · have hi : i = x.fArms.length := by omega
      rw [hi, List.drop_length, foldR] at p3
      rw [← p3]
      exact ⟨rfl, rfl⟩
theorem specCalled_ok (x : MExpr) (hsz : x.sz ≤ 4194304) : PCall Try.prog 30 [x.v] (.c (.d (.sl ((callE x).map encS)))) := fun S => by
  have hc := MExpr.cnt_le x
  have h0 : ∀ S, ACall Try.prog 67 [x.v, .c (.fsl [])] S (fun r S' => r = .c (.d (.sl ((callE x).map encS))) ∧ S' = S) := fun S => by
    refine ACall.tok0 1 (es := []) (esz := 1) rfl (by simp) (specCalls_all _ x (Nat.lt_succ_self _) hsz [] 0 0 ([.tok 1 []] :: S) rfl (by simp; omega)) ?_
    rintro r fr S' ⟨rfl, h2⟩
    injection h2 with h2 h3
    exact ⟨_, rfl, rfl, h3⟩
  refine acall_cw (rs := [.tmp 2]) Try.checked.mixed Try.func30 Try.ntmps30 rfl rfl rfl rfl rfl ?_
  simp -implicitDefEqProofs (disch := omega) only [go_sem]
  (repeat (with_reducible refine And.intro ?_ ?_; focus first | omega | rfl | assumption | exact ⟨_, rfl, rfl⟩ | (simp; omega) | (simp; done)))
  refine call_d rfl (h0 _) ?_
  simp -implicitDefEqProofs (disch := omega) only [go_sem]
end Go.Proofs.Ytnleocfkdidhoaa

namespace Go.Ab
def mdig (n : Nat) (out : List UInt8) : List UInt8 := if h : n = 0 then out else mdig (n / 10) (UInt8.ofNat (48 + n % 10) :: out)
termination_by n
decreasing_by omega
def mtext (k : Int) : List UInt8 := if k ≤ 0 then [109, 48] else 109 :: mdig k.toNat []
theorem mdig_zero {out : List UInt8} : mdig 0 out = out := by rw [mdig]; simp
theorem mdig_pos {n : Nat} {out : List UInt8} (h : n ≠ 0) : mdig n out = mdig (n / 10) (UInt8.ofNat (48 + n % 10) :: out) := by rw [mdig]; simp [h]
-- How many marks.
mutual
def mcD : D → Nat
  | .sl es => mcRs es
  | .b _ => 1
  | .i _ _ => 1
  | .s _ => 1
  | .o _ => 0
  | .ol _ _ => 0
def mcR : List D → Nat
  | [] => 0
  | d :: ds => mcD d + mcR ds
def mcRs : List (List D) → Nat
  | [] => 0
  | r :: rs => mcR r + mcRs rs
end
-- The marks from a number on.
mutual
def mkD : D → Int → D
  | .sl es, k => .sl (mkRs es k)
  | .b _, k => .b (decide (k.tmod 3 = 0))
  | .i kd _, k => .i kd k
  | .s _, k => .s (mtext k)
  | .o v, _ => .o v
  | .ol n es, _ => .ol n es
def mkR : List D → Int → List D
  | [], _ => []
  | d :: ds, k => mkD d k :: mkR ds (k + mcD d)
def mkRs : List (List D) → Int → List (List D)
  | [], _ => []
  | r :: rs, k => mkR r k :: mkRs rs (k + mcR r)
end
-- Rows are not long.
mutual
def nwD : D → Bool
  | .sl es => nwRs es
  | .b _ => true
  | .i _ _ => true
  | .s _ => true
  | .o _ => true
  | .ol _ _ => true
def nwR : List D → Bool
  | [] => true
  | d :: ds => nwD d && nwR ds
def nwRs : List (List D) → Bool
  | [] => true
  | r :: rs => decide (r.length ≤ 32) && nwR r && nwRs rs
end
mutual
theorem mc_sz : ∀ d : D, nwD d = true → mcD d ≤ 32 * d.sz + 1
  | .sl es, h => by
    have := mcs_sz es (by simpa [nwD] using h)
    simp only [mcD, D.sz]; omega
  | .b _, _ => by simp [mcD]
  | .i _ _, _ => by simp [mcD]
  | .s _, _ => by simp [mcD]
  | .o _, _ => by simp [mcD]
  | .ol _ _, _ => by simp [mcD]
theorem mcr_sz : ∀ r : List D, nwR r = true → mcR r ≤ 32 * szRow r + r.length
  | [], _ => by simp [mcR]
  | d :: ds, h => by
    rw [nwR, Bool.and_eq_true] at h
    have h1 := mc_sz d h.1
    have h2 := mcr_sz ds h.2
    simp only [mcR, szRow, List.length_cons]; omega
theorem mcs_sz : ∀ rs : List (List D), nwRs rs = true → mcRs rs ≤ 32 * (rs.length + szRows rs)
  | [], _ => by simp [mcRs]
  | r :: rs, h => by
    rw [nwRs, Bool.and_eq_true, Bool.and_eq_true, decide_eq_true_eq] at h
    have h1 := mcr_sz r h.1.2
    have h2 := mcs_sz rs h.2
    simp only [mcRs, szRows, List.length_cons]; omega
end
theorem nwR_append : ∀ a b, nwR (a ++ b) = (nwR a && nwR b)
  | [], b => by simp [nwR]
  | d :: ds, b => by rw [List.cons_append, nwR, nwR, nwR_append ds b, Bool.and_assoc]
theorem nwRs_map {α : Type} {f : α → List D} : ∀ {xs : List α}, (∀ x ∈ xs, nwR (f x) = true ∧ (f x).length ≤ 32) → nwRs (xs.map f) = true
  | [], _ => rfl
  | x :: xs, h => by
    rw [List.map_cons, nwRs, (h x (by simp)).1, nwRs_map fun y hy => h y (by simp [hy]), decide_eq_true (h x (by simp)).2]; rfl
theorem mcRs_append : ∀ a b, mcRs (a ++ b) = mcRs a + mcRs b
  | [], b => by simp [mcRs]
  | d :: ds, b => by rw [List.cons_append, mcRs, mcRs, mcRs_append ds b]; omega
theorem mkRs_append : ∀ a b k, mkRs (a ++ b) k = mkRs a k ++ mkRs b (k + mcRs a)
  | [], b, k => by simp [mkRs, mcRs]
  | d :: ds, b, k => by rw [List.cons_append, mkRs, mkRs, mkRs_append ds b, mcRs]; simp only [List.cons_append, Int.natCast_add, Int.add_assoc]
theorem mkRs_length : ∀ rs k, (mkRs rs k).length = rs.length
  | [], _ => rfl
  | r :: rs, k => by rw [mkRs, List.length_cons, mkRs_length rs, List.length_cons]
theorem take_row {rows : List (List D)} {i : Nat} (hi : i < rows.length) : rows.take (i + 1) = rows.take i ++ [rows[i]] := List.take_succ_eq_append_getElem hi
theorem mcRs_take {rows : List (List D)} {i : Nat} (hi : i < rows.length) : mcRs (rows.take (i + 1)) = mcRs (rows.take i) + mcR rows[i] := by
  rw [take_row hi, mcRs_append]; simp [mcRs]
theorem mcRs_le {rows : List (List D)} {i : Nat} : mcRs (rows.take i) ≤ mcRs rows := by
  have := mcRs_append (rows.take i) (rows.drop i)
  rw [List.take_append_drop] at this
  omega
/-- A row marked up to the i-th. -/
def mkTo (rows : List (List D)) (k : Int) (i : Nat) : List (List D) := mkRs (rows.take i) k ++ rows.drop i
theorem mkTo_zero {rows : List (List D)} {k : Int} : mkTo rows k 0 = rows := by simp [mkTo, mkRs]
theorem mkTo_all {rows : List (List D)} {k : Int} {i : Nat} (h : rows.length ≤ i) : mkTo rows k i = mkRs rows k := by
  unfold mkTo; rw [List.take_of_length_le h, List.drop_of_length_le h, List.append_nil]
theorem mkTo_length {rows : List (List D)} {k : Int} {i : Nat} : (mkTo rows k i).length = rows.length := by
  unfold mkTo; rw [List.length_append, mkRs_length, List.length_take, List.length_drop]; omega
theorem mkTo_get {rows : List (List D)} {k : Int} {i : Nat} (hi : i < rows.length) : (mkTo rows k i).getD i [] = rows[i] := by
  unfold mkTo
  rw [List.getD_eq_getElem?_getD, List.getElem?_append_right (by rw [mkRs_length, List.length_take]; omega), mkRs_length, List.length_take, List.getElem?_drop]
  rw [show i + (i - min i rows.length) = i by omega, List.getElem?_eq_getElem hi]; rfl
theorem mkTo_set {rows : List (List D)} {k : Int} {i : Nat} (hi : i < rows.length) : (mkTo rows k i).set i (mkR rows[i] (k + mcRs (rows.take i))) = mkTo rows k (i + 1) := by
  unfold mkTo
  have hl : (mkRs (rows.take i) k).length = i := by rw [mkRs_length, List.length_take]; omega
  rw [List.set_append_right _ _ (by omega), hl, Nat.sub_self, List.drop_eq_getElem_cons hi, List.set_cons_zero, take_row hi, mkRs_append, List.append_assoc]
  rfl
/-- A row in the making: the ones before it are marked. -/
def mkAt (rows : List (List D)) (k : Int) (i : Nat) (row : List D) : List (List D) := (mkTo rows k i).set i row
theorem mkAt_length {rows : List (List D)} {k : Int} {i : Nat} {row : List D} : (mkAt rows k i row).length = rows.length := by unfold mkAt; rw [List.length_set, mkTo_length]
theorem mkAt_get {rows : List (List D)} {k : Int} {i : Nat} {row : List D} (hi : i < rows.length) : (mkAt rows k i row).getD i [] = row := by
  unfold mkAt
  rw [List.getD_eq_getElem?_getD, List.getElem?_set_self (by rw [mkTo_length]; exact hi)]; rfl
theorem mkAt_cell {rows : List (List D)} {k : Int} {i o : Nat} {row : List D} (hi : i < rows.length) : cellAt (mkAt rows k i row) i o = row[o]? := by
  unfold mkAt cellAt
  rw [List.getElem?_set_self (by rw [mkTo_length]; exact hi), Option.bind_some]
theorem mkAt_set {rows : List (List D)} {k : Int} {i : Nat} {row row' : List D} : (mkAt rows k i row).set i row' = mkAt rows k i row' := by unfold mkAt; rw [List.set_set]
theorem mkTo_at {rows : List (List D)} {k : Int} {i : Nat} (hi : i < rows.length) : mkTo rows k i = mkAt rows k i rows[i] := by
  have h := mkTo_get (k := k) hi
  have hl : i < (mkTo rows k i).length := by rw [mkTo_length]; exact hi
  rw [List.getD_eq_getElem?_getD, List.getElem?_eq_getElem hl, Option.getD_some] at h
  unfold mkAt
  rw [← h, List.set_getElem_self]
theorem mkAt_to {rows : List (List D)} {k : Int} {i : Nat} (hi : i < rows.length) : mkAt rows k i (mkR rows[i] (k + mcRs (rows.take i))) = mkTo rows k (i + 1) := mkTo_set hi
/-- A slice of the row in the making, and the forest with that slice marked. -/
theorem at_mkAt {rs : List (List (List D))} {r : Nat} {p : List (Nat × Nat)} {rows es : List (List D)} {k : Int} {i o : Nat} {row : List D} (hp : atR rs r p = some rows) (hi : i < rows.length) (h : row[o]? = some (.sl es)) :
    atR (updR rs r p (mkAt rows k i row)) r (p ++ [(i, o)]) = some es := atR_snoc (atR_updR hp) (by rw [mkAt_cell hi, h])
theorem upd_mkAt {rs : List (List (List D))} {r : Nat} {p : List (Nat × Nat)} {rows es new : List (List D)} {k : Int} {i o : Nat} {row : List D} (hp : atR rs r p = some rows) (hi : i < rows.length) (h : row[o]? = some (.sl es)) :
    updR (updR rs r p (mkAt rows k i row)) r (p ++ [(i, o)]) new = updR rs r p (mkAt rows k i (row.set o (.sl new))) := by
  rw [updR_snoc (atR_updR hp) (by rw [mkAt_cell hi, h]), updR_updR hp, mkAt_get hi, mkAt_set]
/-- A marked row. -/
theorem mkRs_get : ∀ {rows : List (List D)} {k : Int} {i : Nat} (hi : i < rows.length), (mkRs rows k).getD i [] = mkR rows[i] (k + mcRs (rows.take i))
  | r :: rows, k, 0, _ => by simp [mkRs, mcRs]
  | r :: rows, k, i + 1, hi => by
    have := mkRs_get (rows := rows) (k := k + mcR r) (i := i) (by simpa using hi)
    rw [mkRs, List.getD_cons_succ, this, List.getElem_cons_succ, List.take_succ_cons, mcRs, Int.natCast_add, Int.add_assoc]
theorem len_mc {α : Type} {f : α → List D} (h : ∀ x, 1 ≤ mcR (f x)) : ∀ xs : List α, xs.length ≤ mcRs (xs.map f)
  | [] => Nat.zero_le _
  | x :: xs => by
    have h1 := h x
    have h2 := len_mc h xs
    rw [List.map_cons, mcRs, List.length_cons]
    omega
/-- A slice of the row in the making is marked by a call. -/
theorem sub_mk {P : Program} {f : FuncId} {S : Store} {l j r i o : Nat} {p : List (Nat × Nat)} {rs : List (List (List D))} {rows es new : List (List D)} {row : List D} {k : Int} {args : List V} {R : V}
    (hS : getO S (l, j) = some (.xf rs)) (hp : atR rs r p = some rows) (hi : i < rows.length) (h : row[o]? = some (.sl es))
    (hA : ∀ (S' : Store) (rs' : List (List (List D))), getO S' (1 + l, j) = some (.xf rs') → atR rs' r (p ++ [(i, o)]) = some es → ACall P f args S' (fun res S'' => res = R ∧ S'' = setO S' (1 + l, j) (.xf (updR rs' r (p ++ [(i, o)]) new)))) :
    ACall P f args ([] :: setO S (l, j) (.xf (updR rs r p (mkAt rows k i row)))) (fun res S'' => res = R ∧ S'' = [] :: setO S (l, j) (.xf (updR rs r p (mkAt rows k i (row.set o (.sl new)))))) := by
  refine (hA _ _ (by rw [getO_up1]; exact getO_setO_eq _ _ _ _ hS) (at_mkAt (k := k) hp hi h)).mono fun res S'' ⟨h1, h2⟩ => ⟨h1, ?_⟩
  rw [h2, setO_up1, setO_twice, upd_mkAt hp hi h]
theorem labRs_at : ∀ {rows : List (List D)} {n i : Nat} (hi : i < rows.length), (labRs rows n)[i]? = some (labR rows[i] (n + cntRs (rows.take i)))
  | r :: rows, n, 0, _ => by simp [labRs, cntRs]
  | r :: rows, n, i + 1, hi => by
    have := labRs_at (rows := rows) (n := n + cntR r) (i := i) (by simpa using hi)
    rw [labRs, List.getElem?_cons_succ, this, List.getElem_cons_succ, List.take_succ_cons, cntRs, Nat.add_assoc]
theorem mapM_toD : ∀ row : List D, (row.map C.d).mapM toD = some row
  | [] => rfl
  | d :: row => by
    have := mapM_toD row
    rw [List.map_cons, List.mapM_cons, this]; rfl
theorem dec_neg {a : Int} (h : 0 ≤ a) : decide (a < 0) = false := decide_eq_false (by omega)
end Go.Ab
namespace Go.Proofs.Ytnleocfkdidhoaa
open Go Go.Ab
theorem markText_ok (k : Int) (hk : -9223372036854775808 ≤ k ∧ k ≤ 4611686018427387904) : PCall Try.prog 66 [.c (.d (.i .i64 k))] (.c (.d (.s (mtext k)))) := fun S => by
  refine acall_cw (rs := [.tmp 2]) Try.checked.mixed Try.func66 Try.ntmps66 rfl rfl rfl rfl rfl ?_
  simp -implicitDefEqProofs (disch := omega) only [go_sem]
  with_reducible refine split2 (fun hb => ?_) (fun hb => ?_) <;> have h := hb <;> (try simp only [wf_preprocess] at h) <;> simp -implicitDefEqProofs (disch := omega) only [go_sem, hb] <;> (repeat (with_reducible refine And.intro ?_ ?_; focus first | omega | rfl | assumption | exact ⟨_, rfl, rfl⟩ | (simp; omega) | (simp; done)))
  · unfold mtext; rw [if_pos h]
  have hpos : ¬ k ≤ 0 := h
  refine loop_at (ι := Int × List UInt8) Try.checked.mixed rfl [0, 3] (fun y => [.c (.d (.i .i64 y.1)), .c (.d (.s y.2))]) (fun _ => [] :: S)
    (fun y => 0 ≤ y.1 ∧ mdig y.1.toNat y.2 = mdig k.toNat [] ∧ y.1 ≤ k ∧ y.1.toNat * 2 ^ y.2.length ≤ 4611686018427387904 ∧ y.2.length ≤ 63) (fun y => y.1.toNat) (k, []) rfl rfl ⟨by simp only; omega, rfl, by simp only; omega, by simp only [List.length_nil]; omega, by simp⟩ ?_
  rintro ⟨n, out⟩ ⟨p1, p2, p3, p4, p5⟩
  simp only at p1 p2 p3 p4 p5
  simp -implicitDefEqProofs (disch := omega) only [go_sem]
  with_reducible refine split2 (fun hb => ?_) (fun hb => ?_) <;> have h := hb <;> (try simp only [wf_preprocess] at h) <;> simp -implicitDefEqProofs (disch := omega) only [go_sem, hb] <;> (repeat (with_reducible refine And.intro ?_ ?_; focus first | omega | rfl | assumption | exact ⟨_, rfl, rfl⟩ | (simp; omega) | (simp; done)))
  · have hn : n.toNat ≠ 0 := by omega
    have hm := Int.tmod_nonneg 10 p1
    have hm2 := Int.tmod_lt_of_pos n (show (0 : Int) < 10 by omega)
    have hm3 : n.tmod 10 = (n.toNat % 10 : Nat) := by
      rw [Int.tmod_eq_emod_of_nonneg p1]
      omega
    have hq : n.tdiv 10 = (n.toNat / 10 : Nat) := by
      rw [Int.tdiv_eq_ediv_of_nonneg p1]
      omega
    have hlen : out.length ≤ 62 := by
      refine Nat.le_of_not_lt fun hgt => ?_
      have h1 : 2 ^ 63 ≤ 2 ^ out.length := Nat.pow_le_pow_right (by omega) (by omega)
      have h2 : 1 * 2 ^ out.length ≤ n.toNat * 2 ^ out.length := Nat.mul_le_mul_right _ (by omega)
      omega
    simp -implicitDefEqProofs (disch := omega) only [go_sem]
    have hc : UInt8.ofNat (IntKind.u8.wrap (48 + n.tmod 10)).toNat = UInt8.ofNat (48 + n.toNat % 10) := by
      rw [wrap_u8 _ (by omega), hm3]
      congr 1
    refine inv_at (ι := Int × List UInt8) (n.tdiv 10, UInt8.ofNat (48 + n.toNat % 10) :: out) (by simp only; omega) (by rw [← hc]; rfl) rfl ?_
    have hq2 : (n.tdiv 10).toNat = n.toNat / 10 := by omega
    refine ⟨by simp only; omega, ?_, by simp only; omega, ?_, by simp only [List.length_cons]; omega⟩
    · simp only
      rw [hq2, ← mdig_pos hn, p2]
    · simp only [List.length_cons]
      rw [hq2, Nat.pow_succ]
      have : n.toNat / 10 * 2 ≤ n.toNat := by omega
      calc n.toNat / 10 * (2 ^ out.length * 2) = n.toNat / 10 * 2 * 2 ^ out.length := by rw [Nat.mul_comm (2 ^ out.length) 2, Nat.mul_assoc]
        _ ≤ n.toNat * 2 ^ out.length := Nat.mul_le_mul_right _ this
        _ ≤ _ := p4
  · have : n.toNat = 0 := by omega
    rw [this, mdig_zero] at p2
    unfold mtext
    rw [if_neg hpos, p2]
end Go.Proofs.Ytnleocfkdidhoaa

namespace Go.Proofs.Ytnleocfkdidhoaa
open Go Go.Ab
theorem toStringS_lab (xs : List (List UInt8)) : ∀ n : Nat, xs.length + szRows (xs.map encS) ≤ 1048576 → PCall Try.prog 134 [.c (.d (.sl (xs.map encS)))] (.c (.d (labD (.sl (xs.map encS)) n))) := by
  intro n hsz
  obtain ⟨T, hT⟩ : ∃ T, T = labRs (xs.map encS) (n + 1) := ⟨_, rfl⟩
  have hTl : T.length = xs.length := by rw [hT, labRs_length, List.length_map]
  show PCall Try.prog 134 [.c (.d (.sl (xs.map encS)))] (.c (.d (.ol n (labRs (xs.map encS) (n + 1))))) 
  rw [← hT]
  intro S
  refine acall_cwL (n) (rs := [.tmp 2]) Try.checked.mixed Try.func134 Try.ntmps134 rfl rfl rfl rfl rfl ?_
  simp -implicitDefEqProofs (disch := omega) only [go_sem]
  (repeat (with_reducible refine And.intro ?_ ?_; focus first | omega | rfl | assumption | exact ⟨_, rfl, rfl⟩ | (simp; omega) | (simp; done)))
  refine loop_at (ι := Nat × List (List D)) Try.checked.mixed rfl [0, 3, 4] (fun y => [.c (.d (.sl (xs.map encS))), .c (.msl (0, 1)), .c (.d (.i .i64 y.1))]) (fun y => [.seed n, .mrow 1 y.2] :: S)
    (fun y => y.1 ≤ xs.length ∧ Filled 1 y.1 y.2 T) (fun y => xs.length - y.1) (0, _) rfl rfl ⟨Nat.zero_le _, Filled.start (by simp [hTl]) rfl⟩ ?_
  rintro ⟨i, R⟩ ⟨p1, p2⟩
  simp only at p1 p2
  simp -implicitDefEqProofs (disch := omega) only [go_sem]
  with_reducible refine split2 (fun hb => ?_) (fun hb => ?_) <;> have h := hb <;> (try simp only [wf_preprocess] at h) <;> simp -implicitDefEqProofs (disch := omega) only [go_sem, hb] <;> (repeat (with_reducible refine And.intro ?_ ?_; focus first | omega | rfl | assumption | exact ⟨_, rfl, rfl⟩ | (simp; omega) | (simp; done)))
  · have hi : i < xs.length := by omega
    have hir : i < (xs.map encS).length := by rw [List.length_map]; exact hi
    have hR := p2.1
    rw [hTl] at hR
    have hTi : T[i]? = some (labR (encS xs[i]) (n + 1 + cntRs ((xs.map encS).take i))) := by
      rw [hT, labRs_at hir, List.getElem_map]
    simp only [encS, labR, labD] at hTi
    (repeat (with_reducible refine And.intro ?_ ?_; focus first | omega | rfl | assumption | exact ⟨_, rfl, rfl⟩ | (simp; omega) | (simp; done)))
    refine inv_at (i + 1, _) (by simp only; omega) rfl rfl ⟨by simp only; omega, p2.step hTi rfl⟩
  · have hi : i = xs.length := by omega
    rw [p2.done (by omega)]
end Go.Proofs.Ytnleocfkdidhoaa

namespace Go.Proofs.Ytnleocfkdidhoaa
open Go Go.Ab
end Go.Proofs.Ytnleocfkdidhoaa

namespace Go.Proofs.Ytnleocfkdidhoaa
open Go Go.Ab
theorem toType_labs : ∀ N : Nat, (∀ x : MType, SizeOf.sizeOf x < N → ∀ n : Nat, x.sz ≤ 1048576 → PCall Try.prog 56 [x.v] (.agg ((labR x.enc n).map .d))) ∧
    (∀ xs : List MType, SizeOf.sizeOf xs < N → ∀ n : Nat, xs.length + szRows (xs.map MType.enc) ≤ 1048576 → PCall Try.prog 96 [.c (.d (.sl (xs.map MType.enc)))] (.c (.d (labD (.sl (xs.map MType.enc)) n))))
  | 0 => ⟨fun x h => by omega, fun x h => by omega⟩
  | N + 1 => by
    obtain ⟨ihType, ihSType⟩ := toType_labs N
    refine ⟨fun x hn n hsz => ?_, fun xs hn n hsz => ?_⟩
    · intro S
      have lArgs := MType.lt_Args x
      simp only [MType.sz, MType.enc_eq, szRow, szRow_append, D.sz, List.length_map] at hsz
      refine acall_cw (rs := [.cell 2 26]) Try.checked.mixed Try.func56 Try.ntmps56 rfl rfl rfl rfl rfl ?_
      simp only [MType.enc_eq, encS, encI, List.cons_append, List.nil_append, labR, labD, cntR, cntD, List.map_cons, List.map_nil, Nat.add_zero]
      simp -implicitDefEqProofs (disch := omega) only [go_sem]
      refine call_w (ihSType x.fArgs (by omega) (n) (by omega)) ?_
      simp -implicitDefEqProofs (disch := omega) only [go_sem, labD]
      all_goals (first | rfl | (simp only [Nat.add_assoc]; done))
    · obtain ⟨T, hT⟩ : ∃ T, T = labRs (xs.map MType.enc) (n + 1) := ⟨_, rfl⟩
      have hTl : T.length = xs.length := by rw [hT, labRs_length, List.length_map]
      show PCall Try.prog 96 [.c (.d (.sl (xs.map MType.enc)))] (.c (.d (.ol n (labRs (xs.map MType.enc) (n + 1))))) 
      rw [← hT]
      intro S
      refine acall_cwL (n) (rs := [.tmp 2]) Try.checked.mixed Try.func96 Try.ntmps96 rfl rfl rfl rfl rfl ?_
      simp -implicitDefEqProofs (disch := omega) only [go_sem]
      (repeat (with_reducible refine And.intro ?_ ?_; focus first | omega | rfl | assumption | exact ⟨_, rfl, rfl⟩ | (simp; omega) | (simp; done)))
      refine loop_at (ι := Nat × List (List D)) Try.checked.mixed rfl [0, 3, 4] (fun y => [.c (.d (.sl (xs.map MType.enc))), .c (.msl (0, 1)), .c (.d (.i .i64 y.1))]) (fun y => [.seed n, .mrow 3 y.2] :: S)
        (fun y => y.1 ≤ xs.length ∧ Filled 3 y.1 y.2 T) (fun y => xs.length - y.1) (0, _) rfl rfl ⟨Nat.zero_le _, Filled.start (by simp [hTl]) rfl⟩ ?_
      rintro ⟨i, R⟩ ⟨p1, p2⟩
      simp only at p1 p2
      simp -implicitDefEqProofs (disch := omega) only [go_sem]
      with_reducible refine split2 (fun hb => ?_) (fun hb => ?_) <;> have h := hb <;> (try simp only [wf_preprocess] at h) <;> simp -implicitDefEqProofs (disch := omega) only [go_sem, hb] <;> (repeat (with_reducible refine And.intro ?_ ?_; focus first | omega | rfl | assumption | exact ⟨_, rfl, rfl⟩ | (simp; omega) | (simp; done)))
      · have hi : i < xs.length := by omega
        have hir : i < (xs.map MType.enc).length := by rw [List.length_map]; exact hi
        have hR := p2.1
        rw [hTl] at hR
        have hTi : T[i]? = some (labR (MType.enc xs[i]) (n + 1 + cntRs ((xs.map MType.enc).take i))) := by
          rw [hT, labRs_at hir, List.getElem_map]
        have hx : xs[i].sz ≤ szRows (xs.map MType.enc) := szRows_mem (List.mem_map_of_mem (List.getElem_mem hi))
        (repeat (with_reducible refine And.intro ?_ ?_; focus first | omega | rfl | assumption | exact ⟨_, rfl, rfl⟩ | (simp; omega) | (simp; done)))
        refine call_w (ihType xs[i] (by have := List.sizeOf_lt_of_mem (List.getElem_mem hi); omega) (n + 1 + cntRs ((xs.map MType.enc).take i)) (by omega)) ?_
        obtain ⟨row, hrow⟩ : ∃ row, row = labR (MType.enc xs[i]) (n + 1 + cntRs ((xs.map MType.enc).take i)) := ⟨_, rfl⟩
        have hrl : row.length = 3 := by rw [hrow, labR_length, MType.enc_length]
        rw [← hrow] at hTi ⊢
        simp -implicitDefEqProofs (disch := omega) only [go_sem, hrl, mapM_toD]
        (repeat (with_reducible refine And.intro ?_ ?_; focus first | omega | rfl | assumption | exact ⟨_, rfl, rfl⟩ | (simp; omega) | (simp; done)))
        refine inv_at (i + 1, _) (by simp only; omega) rfl rfl ⟨by simp only; omega, p2.step hTi hrl⟩
      · have hi : i = xs.length := by omega
        rw [p2.done (by omega)]
theorem toType_lab (x : MType) : ∀ n : Nat, x.sz ≤ 1048576 → PCall Try.prog 56 [x.v] (.agg ((labR x.enc n).map .d)) := (toType_labs _).1 x (Nat.lt_succ_self _)
end Go.Proofs.Ytnleocfkdidhoaa

namespace Go.Proofs.Ytnleocfkdidhoaa
open Go Go.Ab
end Go.Proofs.Ytnleocfkdidhoaa

namespace Go.Proofs.Ytnleocfkdidhoaa
open Go Go.Ab
end Go.Proofs.Ytnleocfkdidhoaa

namespace Go.Proofs.Ytnleocfkdidhoaa
open Go Go.Ab
theorem toExpr_labs : ∀ N : Nat, (∀ x : MExpr, SizeOf.sizeOf x < N → ∀ n : Nat, x.sz ≤ 1048576 → PCall Try.prog 23 [x.v] (.agg ((labR x.enc n).map .d))) ∧
    (∀ xs : List MExpr, SizeOf.sizeOf xs < N → ∀ n : Nat, xs.length + szRows (xs.map MExpr.enc) ≤ 1048576 → PCall Try.prog 57 [.c (.d (.sl (xs.map MExpr.enc)))] (.c (.d (labD (.sl (xs.map MExpr.enc)) n)))) ∧
    (∀ x : MArm, SizeOf.sizeOf x < N → ∀ n : Nat, x.sz ≤ 1048576 → PCall Try.prog 97 [x.v] (.agg ((labR x.enc n).map .d))) ∧
    (∀ xs : List MArm, SizeOf.sizeOf xs < N → ∀ n : Nat, xs.length + szRows (xs.map MArm.enc) ≤ 1048576 → PCall Try.prog 58 [.c (.d (.sl (xs.map MArm.enc)))] (.c (.d (labD (.sl (xs.map MArm.enc)) n))))
  | 0 => ⟨fun x h => by omega, fun x h => by omega, fun x h => by omega, fun x h => by omega⟩
  | N + 1 => by
    obtain ⟨ihExpr, ihSExpr, ihArm, ihSArm⟩ := toExpr_labs N
    refine ⟨fun x hn n hsz => ?_, fun xs hn n hsz => ?_, fun x hn n hsz => ?_, fun xs hn n hsz => ?_⟩
    · intro S
      have lArgs := MExpr.lt_Args x
      have lArms := MExpr.lt_Arms x
      simp only [MExpr.sz, MExpr.enc_eq, szRow, szRow_append, D.sz, List.length_map, MType.sz_def] at hsz
      refine acall_cw (rs := [.cell 2 47]) Try.checked.mixed Try.func23 Try.ntmps23 rfl rfl rfl rfl rfl ?_
      simp only [MExpr.enc_eq, MType.enc_eq, encS, encI, List.cons_append, List.nil_append, labR, labD, cntR, cntD, List.map_cons, List.map_nil, Nat.add_zero]
      simp -implicitDefEqProofs (disch := omega) only [go_sem]
      refine call_w (toType_lab x.fType (n) (by omega)) ?_
      simp -implicitDefEqProofs (disch := omega) only [go_sem, MType.enc_eq, encS, encI, List.cons_append, List.nil_append, labR, labD, cntR, cntD, List.map_cons, List.map_nil, Nat.add_zero]
      refine call_w (ihSExpr x.fArgs (by omega) (n + (cntRs (x.fType.fArgs.map MType.enc) + 1)) (by omega)) ?_
      simp -implicitDefEqProofs (disch := omega) only [go_sem, labD]
      refine call_w (ihSArm x.fArms (by omega) (n + (cntRs (x.fType.fArgs.map MType.enc) + 1) + (cntRs (x.fArgs.map MExpr.enc) + 1)) (by omega)) ?_
      simp -implicitDefEqProofs (disch := omega) only [go_sem, labD]
      all_goals (first | rfl | (simp only [Nat.add_assoc]; done))
    · obtain ⟨T, hT⟩ : ∃ T, T = labRs (xs.map MExpr.enc) (n + 1) := ⟨_, rfl⟩
      have hTl : T.length = xs.length := by rw [hT, labRs_length, List.length_map]
      show PCall Try.prog 57 [.c (.d (.sl (xs.map MExpr.enc)))] (.c (.d (.ol n (labRs (xs.map MExpr.enc) (n + 1))))) 
      rw [← hT]
      intro S
      refine acall_cwL (n) (rs := [.tmp 2]) Try.checked.mixed Try.func57 Try.ntmps57 rfl rfl rfl rfl rfl ?_
      simp -implicitDefEqProofs (disch := omega) only [go_sem]
      (repeat (with_reducible refine And.intro ?_ ?_; focus first | omega | rfl | assumption | exact ⟨_, rfl, rfl⟩ | (simp; omega) | (simp; done)))
      refine loop_at (ι := Nat × List (List D)) Try.checked.mixed rfl [0, 3, 4] (fun y => [.c (.d (.sl (xs.map MExpr.enc))), .c (.msl (0, 1)), .c (.d (.i .i64 y.1))]) (fun y => [.seed n, .mrow 9 y.2] :: S)
        (fun y => y.1 ≤ xs.length ∧ Filled 9 y.1 y.2 T) (fun y => xs.length - y.1) (0, _) rfl rfl ⟨Nat.zero_le _, Filled.start (by simp [hTl]) rfl⟩ ?_
      rintro ⟨i, R⟩ ⟨p1, p2⟩
      simp only at p1 p2
      simp -implicitDefEqProofs (disch := omega) only [go_sem]
      with_reducible refine split2 (fun hb => ?_) (fun hb => ?_) <;> have h := hb <;> (try simp only [wf_preprocess] at h) <;> simp -implicitDefEqProofs (disch := omega) only [go_sem, hb] <;> (repeat (with_reducible refine And.intro ?_ ?_; focus first | omega | rfl | assumption | exact ⟨_, rfl, rfl⟩ | (simp; omega) | (simp; done)))
      · have hi : i < xs.length := by omega
        have hir : i < (xs.map MExpr.enc).length := by rw [List.length_map]; exact hi
        have hR := p2.1
        rw [hTl] at hR
        have hTi : T[i]? = some (labR (MExpr.enc xs[i]) (n + 1 + cntRs ((xs.map MExpr.enc).take i))) := by
          rw [hT, labRs_at hir, List.getElem_map]
        have hx : xs[i].sz ≤ szRows (xs.map MExpr.enc) := szRows_mem (List.mem_map_of_mem (List.getElem_mem hi))
        (repeat (with_reducible refine And.intro ?_ ?_; focus first | omega | rfl | assumption | exact ⟨_, rfl, rfl⟩ | (simp; omega) | (simp; done)))
        refine call_w (ihExpr xs[i] (by have := List.sizeOf_lt_of_mem (List.getElem_mem hi); omega) (n + 1 + cntRs ((xs.map MExpr.enc).take i)) (by omega)) ?_
        obtain ⟨row, hrow⟩ : ∃ row, row = labR (MExpr.enc xs[i]) (n + 1 + cntRs ((xs.map MExpr.enc).take i)) := ⟨_, rfl⟩
        have hrl : row.length = 9 := by rw [hrow, labR_length, MExpr.enc_length]
        rw [← hrow] at hTi ⊢
        simp -implicitDefEqProofs (disch := omega) only [go_sem, hrl, mapM_toD]
        (repeat (with_reducible refine And.intro ?_ ?_; focus first | omega | rfl | assumption | exact ⟨_, rfl, rfl⟩ | (simp; omega) | (simp; done)))
        refine inv_at (i + 1, _) (by simp only; omega) rfl rfl ⟨by simp only; omega, p2.step hTi hrl⟩
      · have hi : i = xs.length := by omega
        rw [p2.done (by omega)]
    · intro S
      have lBody := MArm.lt_Body x
      simp only [MArm.sz, MArm.enc_eq, szRow, szRow_append, D.sz, List.length_map, MExpr.sz_def] at hsz
      refine acall_cw (rs := [.cell 2 86]) Try.checked.mixed Try.func97 Try.ntmps97 rfl rfl rfl rfl rfl ?_
      simp only [MArm.enc_eq, MExpr.enc_eq, MType.enc_eq, encS, encI, List.cons_append, List.nil_append, labR, labD, cntR, cntD, List.map_cons, List.map_nil, Nat.add_zero]
      simp -implicitDefEqProofs (disch := omega) only [go_sem]
      refine call_w (toStringS_lab x.fVars (n) (by omega)) ?_
      simp -implicitDefEqProofs (disch := omega) only [go_sem, labD]
      refine call_w (ihExpr x.fBody (by omega) (n + (cntRs (x.fVars.map encS) + 1)) (by omega)) ?_
      simp -implicitDefEqProofs (disch := omega) only [go_sem, MExpr.enc_eq, MType.enc_eq, encS, encI, List.cons_append, List.nil_append, labR, labD, cntR, cntD, List.map_cons, List.map_nil, Nat.add_zero]
      all_goals (first | rfl | (simp only [Nat.add_assoc]; done))
    · obtain ⟨T, hT⟩ : ∃ T, T = labRs (xs.map MArm.enc) (n + 1) := ⟨_, rfl⟩
      have hTl : T.length = xs.length := by rw [hT, labRs_length, List.length_map]
      show PCall Try.prog 58 [.c (.d (.sl (xs.map MArm.enc)))] (.c (.d (.ol n (labRs (xs.map MArm.enc) (n + 1))))) 
      rw [← hT]
      intro S
      refine acall_cwL (n) (rs := [.tmp 2]) Try.checked.mixed Try.func58 Try.ntmps58 rfl rfl rfl rfl rfl ?_
      simp -implicitDefEqProofs (disch := omega) only [go_sem]
      (repeat (with_reducible refine And.intro ?_ ?_; focus first | omega | rfl | assumption | exact ⟨_, rfl, rfl⟩ | (simp; omega) | (simp; done)))
      refine loop_at (ι := Nat × List (List D)) Try.checked.mixed rfl [0, 3, 4] (fun y => [.c (.d (.sl (xs.map MArm.enc))), .c (.msl (0, 1)), .c (.d (.i .i64 y.1))]) (fun y => [.seed n, .mrow 11 y.2] :: S)
        (fun y => y.1 ≤ xs.length ∧ Filled 11 y.1 y.2 T) (fun y => xs.length - y.1) (0, _) rfl rfl ⟨Nat.zero_le _, Filled.start (by simp [hTl]) rfl⟩ ?_
      rintro ⟨i, R⟩ ⟨p1, p2⟩
      simp only at p1 p2
      simp -implicitDefEqProofs (disch := omega) only [go_sem]
      with_reducible refine split2 (fun hb => ?_) (fun hb => ?_) <;> have h := hb <;> (try simp only [wf_preprocess] at h) <;> simp -implicitDefEqProofs (disch := omega) only [go_sem, hb] <;> (repeat (with_reducible refine And.intro ?_ ?_; focus first | omega | rfl | assumption | exact ⟨_, rfl, rfl⟩ | (simp; omega) | (simp; done)))
      · have hi : i < xs.length := by omega
        have hir : i < (xs.map MArm.enc).length := by rw [List.length_map]; exact hi
        have hR := p2.1
        rw [hTl] at hR
        have hTi : T[i]? = some (labR (MArm.enc xs[i]) (n + 1 + cntRs ((xs.map MArm.enc).take i))) := by
          rw [hT, labRs_at hir, List.getElem_map]
        have hx : xs[i].sz ≤ szRows (xs.map MArm.enc) := szRows_mem (List.mem_map_of_mem (List.getElem_mem hi))
        (repeat (with_reducible refine And.intro ?_ ?_; focus first | omega | rfl | assumption | exact ⟨_, rfl, rfl⟩ | (simp; omega) | (simp; done)))
        refine call_w (ihArm xs[i] (by have := List.sizeOf_lt_of_mem (List.getElem_mem hi); omega) (n + 1 + cntRs ((xs.map MArm.enc).take i)) (by omega)) ?_
        obtain ⟨row, hrow⟩ : ∃ row, row = labR (MArm.enc xs[i]) (n + 1 + cntRs ((xs.map MArm.enc).take i)) := ⟨_, rfl⟩
        have hrl : row.length = 11 := by rw [hrow, labR_length, MArm.enc_length]
        rw [← hrow] at hTi ⊢
        simp -implicitDefEqProofs (disch := omega) only [go_sem, hrl, mapM_toD]
        (repeat (with_reducible refine And.intro ?_ ?_; focus first | omega | rfl | assumption | exact ⟨_, rfl, rfl⟩ | (simp; omega) | (simp; done)))
        refine inv_at (i + 1, _) (by simp only; omega) rfl rfl ⟨by simp only; omega, p2.step hTi hrl⟩
      · have hi : i = xs.length := by omega
        rw [p2.done (by omega)]
theorem toExpr_lab (x : MExpr) : ∀ n : Nat, x.sz ≤ 1048576 → PCall Try.prog 23 [x.v] (.agg ((labR x.enc n).map .d)) := (toExpr_labs _).1 x (Nat.lt_succ_self _)
end Go.Proofs.Ytnleocfkdidhoaa

namespace Go.Proofs.Ytnleocfkdidhoaa
open Go Go.Ab
theorem markStringS_ok (xs : List (List UInt8)) : ∀ (k : Int) (l j r : Nat) (p : List (Nat × Nat)) (S : Store) (rs : List (List (List D))), getO S (l, j) = some (.xf rs) → atR rs r p = some (xs.map encS) → 0 ≤ k ∧ k + mcRs (xs.map encS) ≤ 4611686018427387904 → ACall Try.prog 28 [.c (.xp (l, j) r p), .c (.d (.i .i64 k))] S (fun res S' => res = .c (.d (.i .i64 (k + mcRs (xs.map encS)))) ∧ S' = setO S (l, j) (.xf (updR rs r p (mkRs (xs.map encS) k)))) := by
  intro k l j r p S rs hS hp hk
  have hlen := len_mc (f := encS) (fun x => by simp only [encS, List.cons_append, List.nil_append, mcR, mcD]; omega) xs
  obtain ⟨rows, hr⟩ : ∃ rows, rows = xs.map encS := ⟨_, rfl⟩
  have hl : rows.length = xs.length := by rw [hr, List.length_map]
  rw [← hr] at hp hk hlen ⊢
  have ht : ∀ x : Ab.Obj, getO (setO S (l, j) x) (l, j) = some x := fun x => getO_setO_eq _ _ _ _ hS
  have hA : ∀ new, atR (updR rs r p new) r p = some new := fun new => atR_updR hp
  have hU : ∀ a b, updR (updR rs r p a) r p b = updR rs r p b := fun a b => updR_updR hp
  refine acall_cw (rs := [.tmp 4]) Try.checked.mixed Try.func28 Try.ntmps28 rfl rfl rfl rfl rfl ?_
  simp -implicitDefEqProofs (disch := omega) only [go_sem]
  refine loop_at (ι := Nat) Try.checked.mixed rfl [0, 1, 5] (fun i => [.c (.xp (1 + l, j) r p), .c (.d (.i .i64 (k + mcRs (rows.take i)))), .c (.d (.i .i64 i))])
    (fun i => [] :: setO S (l, j) (.xf (updR rs r p (mkTo rows k i)))) (fun i => i ≤ xs.length) (fun i => xs.length - i) 0 ?_ ?_ (Nat.zero_le _) ?_
  · have z0 : k + ((mcRs (rows.take 0) : Nat) : Int) = k := by simp [mcRs]
    rw [z0]
    rfl
  · rw [mkTo_zero, updR_same hp, setO_self _ _ hS]
  intro i hi
  simp -implicitDefEqProofs (disch := omega) only [go_sem, ht, hA, mkTo_length, hl]
  with_reducible refine split2 (fun hb => ?_) (fun hb => ?_) <;> have h := hb <;> try simp only [wf_preprocess] at h
  · have hi : i < xs.length := by omega
    have hir : i < rows.length := by omega
    obtain ⟨x, hx⟩ : ∃ x, x = xs[i] := ⟨_, rfl⟩
    have e1 : rows[i] = [.s x] := by
      simp only [hr, List.getElem_map, ← hx]
      simp only [encS, List.cons_append, List.nil_append]
    have hm := mcRs_take hir
    have hle := mcRs_le (rows := rows) (i := i + 1)
    rw [hm, e1] at hle
    rw [e1] at hm
    simp only [mcR, mcD] at hle hm
    have hK : k + ((mcRs (rows.take (i + 1)) : Nat) : Int) = k + ((mcRs (rows.take i) : Nat) : Int) + 1 := by rw [hm]; omega
    have e2 := mkTo_at (k := k) hir
    rw [e1] at e2
    have hC : ∀ row o, cellAt (mkAt rows k i row) i o = row[o]? := fun row o => mkAt_cell hir
    have hG : ∀ row, (mkAt rows k i row).getD i [] = row := fun row => mkAt_get hir
    simp -implicitDefEqProofs (disch := omega) only [go_sem, hb, ht, hA, hU, e2, hC, hG, mkAt_set, mkAt_length, hl, setO_twice, isSD]
    (repeat (with_reducible refine And.intro ?_ ?_; focus first | omega | rfl | assumption | exact ⟨_, rfl, rfl⟩ | (simp; omega) | (simp; done)))
    refine call_w (markText_ok (k + ((mcRs (rows.take i) : Nat) : Int)) (by omega)) ?_
    simp -implicitDefEqProofs (disch := omega) only [go_sem, hb, ht, hA, hU, e2, hC, hG, mkAt_set, mkAt_length, hl, setO_twice, isSD]
    (repeat (with_reducible refine And.intro ?_ ?_; focus first | omega | rfl | assumption | exact ⟨_, rfl, rfl⟩ | (simp; omega) | (simp; done)))
    refine inv_at (i + 1) (by omega) (by rw [hK]; rfl) ?_ (by omega)
    have h3 := mkAt_to (k := k) hir
    rw [e1] at h3
    simp only [mkR, mkD] at h3
    rw [← h3]
    all_goals rfl
  · simp -implicitDefEqProofs (disch := omega) only [go_sem, hb]
    have hi : i = xs.length := by omega
    rw [mkTo_all (by omega), List.take_of_length_le (by omega)]
    all_goals (first | rfl | exact ⟨rfl, rfl⟩)
theorem heldStringS_ok (xs : List (List UInt8)) : ∀ (k : Int) (l j r : Nat) (p : List (Nat × Nat)) (S : Store) (rs : List (List (List D))), getO S (l, j) = some (.xf rs) → atR rs r p = some (mkRs (xs.map encS) k) → 0 ≤ k ∧ k + mcRs (xs.map encS) ≤ 4611686018427387904 → ACall Try.prog 29 [.c (.xp (l, j) r p), .c (.d (.i .i64 k))] S (fun res S' => res = .c (.d (.i .i64 (k + mcRs (xs.map encS)))) ∧ S' = S) := by
  intro k l j r p S rs hS hp hk
  have hlen := len_mc (f := encS) (fun x => by simp only [encS, List.cons_append, List.nil_append, mcR, mcD]; omega) xs
  obtain ⟨rows, hr⟩ : ∃ rows, rows = xs.map encS := ⟨_, rfl⟩
  have hl : rows.length = xs.length := by rw [hr, List.length_map]
  rw [← hr] at hp hk hlen ⊢
  refine acall_cw (rs := [.tmp 4]) Try.checked.mixed Try.func29 Try.ntmps29 rfl rfl rfl rfl rfl ?_
  simp -implicitDefEqProofs (disch := omega) only [go_sem]
  refine loop_at (ι := Nat) Try.checked.mixed rfl [0, 1, 5] (fun i => [.c (.xp (1 + l, j) r p), .c (.d (.i .i64 (k + mcRs (rows.take i)))), .c (.d (.i .i64 i))])
    (fun i => [] :: S) (fun i => i ≤ xs.length) (fun i => xs.length - i) 0 ?_ rfl (Nat.zero_le _) ?_
  · have z0 : k + ((mcRs (rows.take 0) : Nat) : Int) = k := by simp [mcRs]
    rw [z0]
    rfl
  intro i hi
  simp -implicitDefEqProofs (disch := omega) only [go_sem, hS, hp, mkRs_length, hl]
  with_reducible refine split2 (fun hb => ?_) (fun hb => ?_) <;> have h := hb <;> try simp only [wf_preprocess] at h
  · have hi : i < xs.length := by omega
    have hir : i < rows.length := by omega
    obtain ⟨x, hx⟩ : ∃ x, x = xs[i] := ⟨_, rfl⟩
    have e1 : rows[i] = [.s x] := by
      simp only [hr, List.getElem_map, ← hx]
      simp only [encS, List.cons_append, List.nil_append]
    have hm := mcRs_take hir
    have hle := mcRs_le (rows := rows) (i := i + 1)
    rw [hm, e1] at hle
    rw [e1] at hm
    simp only [mcR, mcD] at hle hm
    have hK : k + ((mcRs (rows.take (i + 1)) : Nat) : Int) = k + ((mcRs (rows.take i) : Nat) : Int) + 1 := by rw [hm]; omega
    have e2 : mkR rows[i] (k + ((mcRs (rows.take i) : Nat) : Int)) = [.s (mtext (k + ((mcRs (rows.take i) : Nat) : Int)))] := by
      rw [e1]
      simp only [mkR, mkD]
      all_goals rfl
    have hC : ∀ o, cellAt (mkRs rows k) i o = ([.s (mtext (k + ((mcRs (rows.take i) : Nat) : Int)))] : List D)[o]? := fun o => by
      have h1 : (mkRs rows k)[i]? = some (mkR rows[i] (k + ((mcRs (rows.take i) : Nat) : Int))) := by
        have h2 := mkRs_get (k := k) hir
        have h3 : i < (mkRs rows k).length := by rw [mkRs_length]; exact hir
        rw [List.getD_eq_getElem?_getD, List.getElem?_eq_getElem h3, Option.getD_some] at h2
        rw [List.getElem?_eq_getElem h3, h2]
      unfold cellAt
      rw [h1, Option.bind_some, e2]
    have hG := mkRs_get (k := k) hir
    rw [e2] at hG
    simp -implicitDefEqProofs (disch := omega) only [go_sem, hb, hS, hp, hC, hG, mkRs_length, hl, isSD]
    (repeat (with_reducible refine And.intro ?_ ?_; focus first | omega | rfl | assumption | exact ⟨_, rfl, rfl⟩ | (simp; omega) | (simp; done)))
    refine call_w (markText_ok (k + ((mcRs (rows.take i) : Nat) : Int)) (by omega)) ?_
    simp -implicitDefEqProofs (disch := omega) only [go_sem, hb, hS, hp, hC, hG, mkRs_length, hl, isSD]
    (repeat (with_reducible refine And.intro ?_ ?_; focus first | omega | rfl | assumption | exact ⟨_, rfl, rfl⟩ | (simp; omega) | (simp; done)))
    refine inv_at (i + 1) (by omega) (by rw [hK]; rfl) rfl (by omega)
  · simp -implicitDefEqProofs (disch := omega) only [go_sem, hb]
    have hi : i = xs.length := by omega
    rw [List.take_of_length_le (by omega)]
    all_goals (first | rfl | exact ⟨rfl, rfl⟩)
end Go.Proofs.Ytnleocfkdidhoaa

namespace Go.Proofs.Ytnleocfkdidhoaa
open Go Go.Ab
end Go.Proofs.Ytnleocfkdidhoaa

namespace Go.Proofs.Ytnleocfkdidhoaa
open Go Go.Ab
theorem markType_all : ∀ n : Nat, (∀ xs : List MType, SizeOf.sizeOf xs < n → ∀ (k : Int) (l j r : Nat) (p : List (Nat × Nat)) (S : Store) (rs : List (List (List D))), getO S (l, j) = some (.xf rs) → atR rs r p = some (xs.map MType.enc) → 0 ≤ k ∧ k + mcRs (xs.map MType.enc) ≤ 4611686018427387904 → ACall Try.prog 102 [.c (.xp (l, j) r p), .c (.d (.i .i64 k))] S (fun res S' => res = .c (.d (.i .i64 (k + mcRs (xs.map MType.enc)))) ∧ S' = setO S (l, j) (.xf (updR rs r p (mkRs (xs.map MType.enc) k)))))
  | 0 => fun xs h => by omega
  | n + 1 => by
    have ihType := markType_all n
    refine fun xs hn k l j r p S rs hS hp hk => ?_
    · have hlen := len_mc (f := MType.enc) (fun x => by simp only [MType.enc_eq, encS, encI, List.cons_append, List.nil_append, mcR, mcD]; omega) xs
      obtain ⟨rows, hr⟩ : ∃ rows, rows = xs.map MType.enc := ⟨_, rfl⟩
      have hl : rows.length = xs.length := by rw [hr, List.length_map]
      rw [← hr] at hp hk hlen ⊢
      have ht : ∀ x : Ab.Obj, getO (setO S (l, j) x) (l, j) = some x := fun x => getO_setO_eq _ _ _ _ hS
      have hA : ∀ new, atR (updR rs r p new) r p = some new := fun new => atR_updR hp
      have hU : ∀ a b, updR (updR rs r p a) r p b = updR rs r p b := fun a b => updR_updR hp
      refine acall_cw (rs := [.tmp 4]) Try.checked.mixed Try.func102 Try.ntmps102 rfl rfl rfl rfl rfl ?_
      simp -implicitDefEqProofs (disch := omega) only [go_sem]
      refine loop_at (ι := Nat) Try.checked.mixed rfl [0, 1, 5] (fun i => [.c (.xp (1 + l, j) r p), .c (.d (.i .i64 (k + mcRs (rows.take i)))), .c (.d (.i .i64 i))])
        (fun i => [] :: setO S (l, j) (.xf (updR rs r p (mkTo rows k i)))) (fun i => i ≤ xs.length) (fun i => xs.length - i) 0 ?_ ?_ (Nat.zero_le _) ?_
      · have z0 : k + ((mcRs (rows.take 0) : Nat) : Int) = k := by simp [mcRs]
        rw [z0]
        rfl
      · rw [mkTo_zero, updR_same hp, setO_self _ _ hS]
      intro i hi
      simp -implicitDefEqProofs (disch := omega) only [go_sem, ht, hA, mkTo_length, hl]
      with_reducible refine split2 (fun hb => ?_) (fun hb => ?_) <;> have h := hb <;> try simp only [wf_preprocess] at h
      · have hi : i < xs.length := by omega
        have hir : i < rows.length := by omega
        obtain ⟨x, hx⟩ : ∃ x, x = xs[i] := ⟨_, rfl⟩
        have e1 : rows[i] = [.i .i64 x.fKind, .s x.fName, .sl (x.fArgs.map MType.enc)] := by
          simp only [hr, List.getElem_map, ← hx]
          simp only [MType.enc_eq, encS, encI, List.cons_append, List.nil_append]
        have hm := mcRs_take hir
        have hle := mcRs_le (rows := rows) (i := i + 1)
        rw [hm, e1] at hle
        rw [e1] at hm
        simp only [mcR, mcD] at hle hm
        have hK : k + ((mcRs (rows.take (i + 1)) : Nat) : Int) = k + ((mcRs (rows.take i) : Nat) : Int) + 1 + 1 + ((mcRs (x.fArgs.map MType.enc) : Nat) : Int) := by rw [hm]; omega
        have e2 := mkTo_at (k := k) hir
        rw [e1] at e2
        have hC : ∀ row o, cellAt (mkAt rows k i row) i o = row[o]? := fun row o => mkAt_cell hir
        have hG : ∀ row, (mkAt rows k i row).getD i [] = row := fun row => mkAt_get hir
        simp -implicitDefEqProofs (disch := omega) only [go_sem, hb, ht, hA, hU, e2, hC, hG, mkAt_set, mkAt_length, hl, setO_twice, isSD]
        (repeat (with_reducible refine And.intro ?_ ?_; focus first | omega | rfl | assumption | exact ⟨_, rfl, rfl⟩ | (simp; omega) | (simp; done)))
        refine call_w (markText_ok (k + ((mcRs (rows.take i) : Nat) : Int) + 1) (by omega)) ?_
        simp -implicitDefEqProofs (disch := omega) only [go_sem, hb, ht, hA, hU, e2, hC, hG, mkAt_set, mkAt_length, hl, setO_twice, isSD]
        (repeat (with_reducible refine And.intro ?_ ?_; focus first | omega | rfl | assumption | exact ⟨_, rfl, rfl⟩ | (simp; omega) | (simp; done)))
        refine call_d rfl (sub_mk hS hp hir (by rfl) (fun S' rs' g1 g2 => ihType x.fArgs (by have := List.sizeOf_lt_of_mem (List.getElem_mem hi); rw [← hx] at this; have := MType.lt_Args x; omega) (k + ((mcRs (rows.take i) : Nat) : Int) + 1 + 1) (1 + l) j r _ S' rs' g1 g2 (by omega))) ?_
        simp -implicitDefEqProofs (disch := omega) only [go_sem, hb, ht, hA, hU, e2, hC, hG, mkAt_set, mkAt_length, hl, setO_twice, isSD]
        (repeat (with_reducible refine And.intro ?_ ?_; focus first | omega | rfl | assumption | exact ⟨_, rfl, rfl⟩ | (simp; omega) | (simp; done)))
        refine inv_at (i + 1) (by omega) (by rw [hK]; rfl) ?_ (by omega)
        have h3 := mkAt_to (k := k) hir
        rw [e1] at h3
        simp only [mkR, mkD] at h3
        rw [← h3]
        all_goals rfl
      · simp -implicitDefEqProofs (disch := omega) only [go_sem, hb]
        have hi : i = xs.length := by omega
        rw [mkTo_all (by omega), List.take_of_length_le (by omega)]
        all_goals (first | rfl | exact ⟨rfl, rfl⟩)
theorem markTypeS_ok (xs : List MType) : ∀ (k : Int) (l j r : Nat) (p : List (Nat × Nat)) (S : Store) (rs : List (List (List D))), getO S (l, j) = some (.xf rs) → atR rs r p = some (xs.map MType.enc) → 0 ≤ k ∧ k + mcRs (xs.map MType.enc) ≤ 4611686018427387904 → ACall Try.prog 102 [.c (.xp (l, j) r p), .c (.d (.i .i64 k))] S (fun res S' => res = .c (.d (.i .i64 (k + mcRs (xs.map MType.enc)))) ∧ S' = setO S (l, j) (.xf (updR rs r p (mkRs (xs.map MType.enc) k)))) := (markType_all _) xs (Nat.lt_succ_self _)
theorem markType_ok (x : MType) (k : Int) (l j b : Nat) (S : Store) (rs : List (List (List D))) (hS : getO S (l, j) = some (.xf rs)) (h2 : atR rs (b + 2) [] = some (x.fArgs.map MType.enc)) (hk : 0 ≤ k ∧ k + ((mcRs (x.fArgs.map MType.enc) : Nat) : Int) ≤ 4611686018427387904) : ACall Try.prog 63 [.agg [.d (.i .i64 x.fKind), .d (.s x.fName), .xp (l, j) (b + 2) []], .c (.d (.i .i64 k))] S (fun res S' => res = .c (.d (.i .i64 (k + ((mcRs (x.fArgs.map MType.enc) : Nat) : Int)))) ∧ S' = setO S (l, j) (.xf (updR (rs) (b + 2) [] (mkRs (x.fArgs.map MType.enc) (k))))) := by
  have ht : ∀ x : Ab.Obj, getO (setO S (l, j) x) (l, j) = some x := fun x => getO_setO_eq _ _ _ _ hS
  refine acall_cw (rs := [.tmp 4]) Try.checked.mixed Try.func63 Try.ntmps63 rfl rfl rfl rfl rfl ?_
  simp -implicitDefEqProofs (disch := omega) only [go_sem]
  refine call_d rfl (markTypeS_ok x.fArgs (k) (1 + l) j (b + 2) [] _ _ (by rw [getO_up1]; first | exact hS | exact ht _) (by first | assumption | (simp (disch := omega) only [ne_eq, atR_ne]; assumption)) (by omega)) ?_
  simp -implicitDefEqProofs (disch := omega) only [go_sem, setO_twice, setO_up1]
  try exact ⟨rfl, rfl⟩
end Go.Proofs.Ytnleocfkdidhoaa

namespace Go.Proofs.Ytnleocfkdidhoaa
open Go Go.Ab
end Go.Proofs.Ytnleocfkdidhoaa

namespace Go.Proofs.Ytnleocfkdidhoaa
open Go Go.Ab
end Go.Proofs.Ytnleocfkdidhoaa

