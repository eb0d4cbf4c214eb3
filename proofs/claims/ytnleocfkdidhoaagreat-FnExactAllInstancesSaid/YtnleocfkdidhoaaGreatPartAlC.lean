/-
  SEVERAL TEXTS IN ONE (merged by program): contracts and models, each with its own heading.
-/
import Derived.Test.YtnleocfkdidhoaaGreatPartAlB
import Derived.Test.YtnleocfkdidhoaaGreatChecked
import Derived.Eval
import Derived.KernelRfl
set_option linter.unusedSimpArgs false
set_option linter.unusedVariables false
set_option maxRecDepth 4000
namespace Go.Proofs.YtnleocfkdidhoaaGreat.Fa
open Go Go.Ab
theorem ty1 : Tryz.prog.cellsOf 1 = 1 ∧ Tryz.prog.bytesOf 1 = 8 ∧ (Tryz.prog.info? 1).isSome = true ∧ zeroCs Tryz.prog 1 = some [.d (.o .nilFunc)] := ⟨by kernel_rfl, by kernel_rfl, by kernel_rfl, by kernel_rfl⟩
theorem ty2 : Tryz.prog.cellsOf 2 = 1 ∧ Tryz.prog.bytesOf 2 = 8 ∧ (Tryz.prog.info? 2).isSome = true ∧ zeroCs Tryz.prog 2 = some [.d (.i .i64 0)] := ⟨by kernel_rfl, by kernel_rfl, by kernel_rfl, by kernel_rfl⟩
theorem ty3 : Tryz.prog.cellsOf 3 = 1 ∧ Tryz.prog.bytesOf 3 = 8 ∧ (Tryz.prog.info? 3).isSome = true ∧ zeroCs Tryz.prog 3 = some [.d (.i .i64 0)] := ⟨by kernel_rfl, by kernel_rfl, by kernel_rfl, by kernel_rfl⟩
theorem ty4 : Tryz.prog.cellsOf 4 = 1 ∧ Tryz.prog.bytesOf 4 = 1 ∧ (Tryz.prog.info? 4).isSome = true ∧ zeroCs Tryz.prog 4 = some [.d (.b false)] := ⟨by kernel_rfl, by kernel_rfl, by kernel_rfl, by kernel_rfl⟩
theorem zval4 : zeroV Tryz.prog 4 = some (.bool false) := by kernel_rfl
theorem ty5 : Tryz.prog.cellsOf 5 = 1 ∧ Tryz.prog.bytesOf 5 = 1 ∧ (Tryz.prog.info? 5).isSome = true ∧ zeroCs Tryz.prog 5 = some [.d (.i .u8 0)] := ⟨by kernel_rfl, by kernel_rfl, by kernel_rfl, by kernel_rfl⟩
theorem ty9 : Tryz.prog.cellsOf 9 = 1 ∧ Tryz.prog.bytesOf 9 = 16 ∧ (Tryz.prog.info? 9).isSome = true ∧ zeroCs Tryz.prog 9 = some [.d (.s [])] := ⟨by kernel_rfl, by kernel_rfl, by kernel_rfl, by kernel_rfl⟩
theorem ty12 : Tryz.prog.cellsOf 12 = 1 ∧ Tryz.prog.bytesOf 12 = 8 ∧ (Tryz.prog.info? 12).isSome = true ∧ zeroCs Tryz.prog 12 = some [.d (.i .u64 0)] := ⟨by kernel_rfl, by kernel_rfl, by kernel_rfl, by kernel_rfl⟩
theorem ty20 : Tryz.prog.cellsOf 20 = 1 ∧ Tryz.prog.bytesOf 20 = 16 ∧ (Tryz.prog.info? 20).isSome = true ∧ zeroCs Tryz.prog 20 = some [.d (.o .nilIface)] := ⟨by kernel_rfl, by kernel_rfl, by kernel_rfl, by kernel_rfl⟩
theorem ty21 : Tryz.prog.cellsOf 21 = 1 ∧ Tryz.prog.bytesOf 21 = 4 ∧ (Tryz.prog.info? 21).isSome = true ∧ zeroCs Tryz.prog 21 = some [.d (.i .i32 0)] := ⟨by kernel_rfl, by kernel_rfl, by kernel_rfl, by kernel_rfl⟩
theorem ty22 : Tryz.prog.cellsOf 22 = 1 ∧ Tryz.prog.bytesOf 22 = 24 ∧ (Tryz.prog.info? 22).isSome = true ∧ zeroCs Tryz.prog 22 = some [.fsl []] := ⟨by kernel_rfl, by kernel_rfl, by kernel_rfl, by kernel_rfl⟩
theorem ty23 : Tryz.prog.cellsOf 23 = 1 ∧ Tryz.prog.bytesOf 23 = 24 ∧ (Tryz.prog.info? 23).isSome = true ∧ zeroCs Tryz.prog 23 = some [.fsl []] := ⟨by kernel_rfl, by kernel_rfl, by kernel_rfl, by kernel_rfl⟩
theorem ty24 : Tryz.prog.cellsOf 24 = 1 ∧ Tryz.prog.bytesOf 24 = 24 ∧ (Tryz.prog.info? 24).isSome = true ∧ zeroCs Tryz.prog 24 = some [.fsl []] := ⟨by kernel_rfl, by kernel_rfl, by kernel_rfl, by kernel_rfl⟩
theorem ty25 : Tryz.prog.cellsOf 25 = 1 ∧ Tryz.prog.bytesOf 25 = 24 ∧ (Tryz.prog.info? 25).isSome = true ∧ zeroCs Tryz.prog 25 = some [.fsl []] := ⟨by kernel_rfl, by kernel_rfl, by kernel_rfl, by kernel_rfl⟩
theorem ty26 : Tryz.prog.cellsOf 26 = 3 ∧ Tryz.prog.bytesOf 26 = 48 ∧ (Tryz.prog.info? 26).isSome = true ∧ zeroCs Tryz.prog 26 = some [.d (.i .i64 0), .d (.s []), .fsl []] := ⟨by kernel_rfl, by kernel_rfl, by kernel_rfl, by kernel_rfl⟩
theorem ty27 : Tryz.prog.cellsOf 27 = 3 ∧ Tryz.prog.bytesOf 27 = 48 ∧ (Tryz.prog.info? 27).isSome = true ∧ zeroCs Tryz.prog 27 = some [.d (.i .i64 0), .d (.s []), .fsl []] := ⟨by kernel_rfl, by kernel_rfl, by kernel_rfl, by kernel_rfl⟩
theorem ty28 : Tryz.prog.cellsOf 28 = 1 ∧ Tryz.prog.bytesOf 28 = 24 ∧ (Tryz.prog.info? 28).isSome = true ∧ zeroCs Tryz.prog 28 = some [.fsl []] := ⟨by kernel_rfl, by kernel_rfl, by kernel_rfl, by kernel_rfl⟩
theorem ty29 : Tryz.prog.cellsOf 29 = 1 ∧ Tryz.prog.bytesOf 29 = 24 ∧ (Tryz.prog.info? 29).isSome = true ∧ zeroCs Tryz.prog 29 = some [.fsl []] := ⟨by kernel_rfl, by kernel_rfl, by kernel_rfl, by kernel_rfl⟩
theorem ty30 : Tryz.prog.cellsOf 30 = 9 ∧ Tryz.prog.bytesOf 30 = 144 ∧ (Tryz.prog.info? 30).isSome = true ∧ zeroCs Tryz.prog 30 = some [.d (.i .i64 0), .d (.s []), .d (.s []), .d (.i .i64 0), .d (.i .i64 0), .d (.s []), .fsl [], .fsl [], .fsl []] := ⟨by kernel_rfl, by kernel_rfl, by kernel_rfl, by kernel_rfl⟩
theorem ty31 : Tryz.prog.cellsOf 31 = 9 ∧ Tryz.prog.bytesOf 31 = 144 ∧ (Tryz.prog.info? 31).isSome = true ∧ zeroCs Tryz.prog 31 = some [.d (.i .i64 0), .d (.s []), .d (.s []), .d (.i .i64 0), .d (.i .i64 0), .d (.s []), .fsl [], .fsl [], .fsl []] := ⟨by kernel_rfl, by kernel_rfl, by kernel_rfl, by kernel_rfl⟩
theorem ty32 : Tryz.prog.cellsOf 32 = 1 ∧ Tryz.prog.bytesOf 32 = 8 ∧ (Tryz.prog.info? 32).isSome = true ∧ zeroCs Tryz.prog 32 = some [.d (.o .nilFunc)] := ⟨by kernel_rfl, by kernel_rfl, by kernel_rfl, by kernel_rfl⟩
theorem ty33 : Tryz.prog.cellsOf 33 = 1 ∧ Tryz.prog.bytesOf 33 = 8 ∧ (Tryz.prog.info? 33).isSome = true ∧ zeroCs Tryz.prog 33 = some [.d (.o .nilFunc)] := ⟨by kernel_rfl, by kernel_rfl, by kernel_rfl, by kernel_rfl⟩
theorem ty34 : Tryz.prog.cellsOf 34 = 1 ∧ Tryz.prog.bytesOf 34 = 8 ∧ (Tryz.prog.info? 34).isSome = true ∧ zeroCs Tryz.prog 34 = some [.d (.o .nilFunc)] := ⟨by kernel_rfl, by kernel_rfl, by kernel_rfl, by kernel_rfl⟩
theorem ty35 : Tryz.prog.cellsOf 35 = 1 ∧ Tryz.prog.bytesOf 35 = 24 ∧ (Tryz.prog.info? 35).isSome = true ∧ zeroCs Tryz.prog 35 = some [.fsl []] := ⟨by kernel_rfl, by kernel_rfl, by kernel_rfl, by kernel_rfl⟩
theorem ty36 : Tryz.prog.cellsOf 36 = 1 ∧ Tryz.prog.bytesOf 36 = 24 ∧ (Tryz.prog.info? 36).isSome = true ∧ zeroCs Tryz.prog 36 = some [.fsl []] := ⟨by kernel_rfl, by kernel_rfl, by kernel_rfl, by kernel_rfl⟩
theorem ty37 : Tryz.prog.cellsOf 37 = 1 ∧ Tryz.prog.bytesOf 37 = 24 ∧ (Tryz.prog.info? 37).isSome = true ∧ zeroCs Tryz.prog 37 = some [.fsl []] := ⟨by kernel_rfl, by kernel_rfl, by kernel_rfl, by kernel_rfl⟩
theorem ty38 : Tryz.prog.cellsOf 38 = 1 ∧ Tryz.prog.bytesOf 38 = 8 ∧ (Tryz.prog.info? 38).isSome = true ∧ zeroCs Tryz.prog 38 = some [.d (.o .nilFunc)] := ⟨by kernel_rfl, by kernel_rfl, by kernel_rfl, by kernel_rfl⟩
theorem ty39 : Tryz.prog.cellsOf 39 = 1 ∧ Tryz.prog.bytesOf 39 = 24 ∧ (Tryz.prog.info? 39).isSome = true ∧ zeroCs Tryz.prog 39 = some [.fsl []] := ⟨by kernel_rfl, by kernel_rfl, by kernel_rfl, by kernel_rfl⟩
theorem ty40 : Tryz.prog.cellsOf 40 = 3 ∧ Tryz.prog.bytesOf 40 = 48 ∧ (Tryz.prog.info? 40).isSome = true ∧ zeroCs Tryz.prog 40 = some [.d (.i .i64 0), .d (.s []), .fsl []] := ⟨by kernel_rfl, by kernel_rfl, by kernel_rfl, by kernel_rfl⟩
theorem ty41 : Tryz.prog.cellsOf 41 = 3 ∧ Tryz.prog.bytesOf 41 = 48 ∧ (Tryz.prog.info? 41).isSome = true ∧ zeroCs Tryz.prog 41 = some [.d (.i .i64 0), .d (.s []), .fsl []] := ⟨by kernel_rfl, by kernel_rfl, by kernel_rfl, by kernel_rfl⟩
theorem ty42 : Tryz.prog.cellsOf 42 = 1 ∧ Tryz.prog.bytesOf 42 = 24 ∧ (Tryz.prog.info? 42).isSome = true ∧ zeroCs Tryz.prog 42 = some [.fsl []] := ⟨by kernel_rfl, by kernel_rfl, by kernel_rfl, by kernel_rfl⟩
theorem ty43 : Tryz.prog.cellsOf 43 = 1 ∧ Tryz.prog.bytesOf 43 = 24 ∧ (Tryz.prog.info? 43).isSome = true ∧ zeroCs Tryz.prog 43 = some [.fsl []] := ⟨by kernel_rfl, by kernel_rfl, by kernel_rfl, by kernel_rfl⟩
theorem ty44 : Tryz.prog.cellsOf 44 = 9 ∧ Tryz.prog.bytesOf 44 = 144 ∧ (Tryz.prog.info? 44).isSome = true ∧ zeroCs Tryz.prog 44 = some [.d (.i .i64 0), .d (.s []), .d (.s []), .d (.i .i64 0), .d (.i .i64 0), .d (.s []), .fsl [], .fsl [], .fsl []] := ⟨by kernel_rfl, by kernel_rfl, by kernel_rfl, by kernel_rfl⟩
theorem ty45 : Tryz.prog.cellsOf 45 = 9 ∧ Tryz.prog.bytesOf 45 = 144 ∧ (Tryz.prog.info? 45).isSome = true ∧ zeroCs Tryz.prog 45 = some [.d (.i .i64 0), .d (.s []), .d (.s []), .d (.i .i64 0), .d (.i .i64 0), .d (.s []), .fsl [], .fsl [], .fsl []] := ⟨by kernel_rfl, by kernel_rfl, by kernel_rfl, by kernel_rfl⟩
theorem ty46 : Tryz.prog.cellsOf 46 = 1 ∧ Tryz.prog.bytesOf 46 = 8 ∧ (Tryz.prog.info? 46).isSome = true ∧ zeroCs Tryz.prog 46 = some [.d (.o .nilFunc)] := ⟨by kernel_rfl, by kernel_rfl, by kernel_rfl, by kernel_rfl⟩
theorem ty47 : Tryz.prog.cellsOf 47 = 1 ∧ Tryz.prog.bytesOf 47 = 8 ∧ (Tryz.prog.info? 47).isSome = true ∧ zeroCs Tryz.prog 47 = some [.d (.o .nilFunc)] := ⟨by kernel_rfl, by kernel_rfl, by kernel_rfl, by kernel_rfl⟩
theorem ty48 : Tryz.prog.cellsOf 48 = 1 ∧ Tryz.prog.bytesOf 48 = 8 ∧ (Tryz.prog.info? 48).isSome = true ∧ zeroCs Tryz.prog 48 = some [.d (.o .nilFunc)] := ⟨by kernel_rfl, by kernel_rfl, by kernel_rfl, by kernel_rfl⟩
theorem ty49 : Tryz.prog.cellsOf 49 = 1 ∧ Tryz.prog.bytesOf 49 = 8 ∧ (Tryz.prog.info? 49).isSome = true ∧ zeroCs Tryz.prog 49 = some [.d (.o .nilFunc)] := ⟨by kernel_rfl, by kernel_rfl, by kernel_rfl, by kernel_rfl⟩
theorem ty50 : Tryz.prog.cellsOf 50 = 1 ∧ Tryz.prog.bytesOf 50 = 24 ∧ (Tryz.prog.info? 50).isSome = true ∧ zeroCs Tryz.prog 50 = some [.fsl []] := ⟨by kernel_rfl, by kernel_rfl, by kernel_rfl, by kernel_rfl⟩
theorem ty51 : Tryz.prog.cellsOf 51 = 1 ∧ Tryz.prog.bytesOf 51 = 24 ∧ (Tryz.prog.info? 51).isSome = true ∧ zeroCs Tryz.prog 51 = some [.fsl []] := ⟨by kernel_rfl, by kernel_rfl, by kernel_rfl, by kernel_rfl⟩
theorem ty52 : Tryz.prog.cellsOf 52 = 1 ∧ Tryz.prog.bytesOf 52 = 24 ∧ (Tryz.prog.info? 52).isSome = true ∧ zeroCs Tryz.prog 52 = some [.fsl []] := ⟨by kernel_rfl, by kernel_rfl, by kernel_rfl, by kernel_rfl⟩
theorem ty53 : Tryz.prog.cellsOf 53 = 1 ∧ Tryz.prog.bytesOf 53 = 24 ∧ (Tryz.prog.info? 53).isSome = true ∧ zeroCs Tryz.prog 53 = some [.fsl []] := ⟨by kernel_rfl, by kernel_rfl, by kernel_rfl, by kernel_rfl⟩
theorem ty54 : Tryz.prog.cellsOf 54 = 1 ∧ Tryz.prog.bytesOf 54 = 24 ∧ (Tryz.prog.info? 54).isSome = true ∧ zeroCs Tryz.prog 54 = some [.fsl []] := ⟨by kernel_rfl, by kernel_rfl, by kernel_rfl, by kernel_rfl⟩
theorem ty55 : Tryz.prog.cellsOf 55 = 6 ∧ Tryz.prog.bytesOf 55 = 136 ∧ (Tryz.prog.info? 55).isSome = true ∧ zeroCs Tryz.prog 55 = some [.d (.s []), .fsl [], .fsl [], .fsl [], .fsl [], .fsl []] := ⟨by kernel_rfl, by kernel_rfl, by kernel_rfl, by kernel_rfl⟩
theorem ty56 : Tryz.prog.cellsOf 56 = 6 ∧ Tryz.prog.bytesOf 56 = 136 ∧ (Tryz.prog.info? 56).isSome = true ∧ zeroCs Tryz.prog 56 = some [.d (.s []), .fsl [], .fsl [], .fsl [], .fsl [], .fsl []] := ⟨by kernel_rfl, by kernel_rfl, by kernel_rfl, by kernel_rfl⟩
theorem ty57 : Tryz.prog.cellsOf 57 = 1 ∧ Tryz.prog.bytesOf 57 = 8 ∧ (Tryz.prog.info? 57).isSome = true ∧ zeroCs Tryz.prog 57 = some [.d (.o .nilFunc)] := ⟨by kernel_rfl, by kernel_rfl, by kernel_rfl, by kernel_rfl⟩
theorem ty58 : Tryz.prog.cellsOf 58 = 1 ∧ Tryz.prog.bytesOf 58 = 8 ∧ (Tryz.prog.info? 58).isSome = true ∧ zeroCs Tryz.prog 58 = some [.d (.o .nilFunc)] := ⟨by kernel_rfl, by kernel_rfl, by kernel_rfl, by kernel_rfl⟩
theorem ty59 : Tryz.prog.cellsOf 59 = 1 ∧ Tryz.prog.bytesOf 59 = 24 ∧ (Tryz.prog.info? 59).isSome = true ∧ zeroCs Tryz.prog 59 = some [.fsl []] := ⟨by kernel_rfl, by kernel_rfl, by kernel_rfl, by kernel_rfl⟩
theorem ty60 : Tryz.prog.cellsOf 60 = 1 ∧ Tryz.prog.bytesOf 60 = 24 ∧ (Tryz.prog.info? 60).isSome = true ∧ zeroCs Tryz.prog 60 = some [.fsl []] := ⟨by kernel_rfl, by kernel_rfl, by kernel_rfl, by kernel_rfl⟩
theorem ty61 : Tryz.prog.cellsOf 61 = 1 ∧ Tryz.prog.bytesOf 61 = 24 ∧ (Tryz.prog.info? 61).isSome = true ∧ zeroCs Tryz.prog 61 = some [.fsl []] := ⟨by kernel_rfl, by kernel_rfl, by kernel_rfl, by kernel_rfl⟩
theorem ty62 : Tryz.prog.cellsOf 62 = 1 ∧ Tryz.prog.bytesOf 62 = 24 ∧ (Tryz.prog.info? 62).isSome = true ∧ zeroCs Tryz.prog 62 = some [.fsl []] := ⟨by kernel_rfl, by kernel_rfl, by kernel_rfl, by kernel_rfl⟩
theorem ty63 : Tryz.prog.cellsOf 63 = 6 ∧ Tryz.prog.bytesOf 63 = 136 ∧ (Tryz.prog.info? 63).isSome = true ∧ zeroCs Tryz.prog 63 = some [.d (.s []), .fsl [], .fsl [], .fsl [], .fsl [], .fsl []] := ⟨by kernel_rfl, by kernel_rfl, by kernel_rfl, by kernel_rfl⟩
theorem ty64 : Tryz.prog.cellsOf 64 = 6 ∧ Tryz.prog.bytesOf 64 = 136 ∧ (Tryz.prog.info? 64).isSome = true ∧ zeroCs Tryz.prog 64 = some [.d (.s []), .fsl [], .fsl [], .fsl [], .fsl [], .fsl []] := ⟨by kernel_rfl, by kernel_rfl, by kernel_rfl, by kernel_rfl⟩
theorem ty65 : Tryz.prog.cellsOf 65 = 1 ∧ Tryz.prog.bytesOf 65 = 8 ∧ (Tryz.prog.info? 65).isSome = true ∧ zeroCs Tryz.prog 65 = some [.d (.o .nilFunc)] := ⟨by kernel_rfl, by kernel_rfl, by kernel_rfl, by kernel_rfl⟩
theorem ty66 : Tryz.prog.cellsOf 66 = 1 ∧ Tryz.prog.bytesOf 66 = 8 ∧ (Tryz.prog.info? 66).isSome = true ∧ zeroCs Tryz.prog 66 = some [.d (.o .nilFunc)] := ⟨by kernel_rfl, by kernel_rfl, by kernel_rfl, by kernel_rfl⟩
theorem ty67 : Tryz.prog.cellsOf 67 = 1 ∧ Tryz.prog.bytesOf 67 = 8 ∧ (Tryz.prog.info? 67).isSome = true ∧ zeroCs Tryz.prog 67 = some [.d (.o .nilFunc)] := ⟨by kernel_rfl, by kernel_rfl, by kernel_rfl, by kernel_rfl⟩
theorem ty68 : Tryz.prog.cellsOf 68 = 1 ∧ Tryz.prog.bytesOf 68 = 8 ∧ (Tryz.prog.info? 68).isSome = true ∧ zeroCs Tryz.prog 68 = some [.d (.o .nilFunc)] := ⟨by kernel_rfl, by kernel_rfl, by kernel_rfl, by kernel_rfl⟩
theorem ty69 : Tryz.prog.cellsOf 69 = 1 ∧ Tryz.prog.bytesOf 69 = 8 ∧ (Tryz.prog.info? 69).isSome = true ∧ zeroCs Tryz.prog 69 = some [.d (.o .nilFunc)] := ⟨by kernel_rfl, by kernel_rfl, by kernel_rfl, by kernel_rfl⟩
theorem ty70 : Tryz.prog.cellsOf 70 = 1 ∧ Tryz.prog.bytesOf 70 = 24 ∧ (Tryz.prog.info? 70).isSome = true ∧ zeroCs Tryz.prog 70 = some [.fsl []] := ⟨by kernel_rfl, by kernel_rfl, by kernel_rfl, by kernel_rfl⟩
theorem ty71 : Tryz.prog.cellsOf 71 = 1 ∧ Tryz.prog.bytesOf 71 = 8 ∧ (Tryz.prog.info? 71).isSome = true ∧ zeroCs Tryz.prog 71 = some [.d (.o .nilFunc)] := ⟨by kernel_rfl, by kernel_rfl, by kernel_rfl, by kernel_rfl⟩
theorem ty72 : Tryz.prog.cellsOf 72 = 1 ∧ Tryz.prog.bytesOf 72 = 8 ∧ (Tryz.prog.info? 72).isSome = true ∧ zeroCs Tryz.prog 72 = some [.d (.o .nilFunc)] := ⟨by kernel_rfl, by kernel_rfl, by kernel_rfl, by kernel_rfl⟩
theorem ty73 : Tryz.prog.cellsOf 73 = 1 ∧ Tryz.prog.bytesOf 73 = 8 ∧ (Tryz.prog.info? 73).isSome = true ∧ zeroCs Tryz.prog 73 = some [.d (.o .nilFunc)] := ⟨by kernel_rfl, by kernel_rfl, by kernel_rfl, by kernel_rfl⟩
theorem ty74 : Tryz.prog.cellsOf 74 = 1 ∧ Tryz.prog.bytesOf 74 = 8 ∧ (Tryz.prog.info? 74).isSome = true ∧ zeroCs Tryz.prog 74 = some [.d (.o .nilFunc)] := ⟨by kernel_rfl, by kernel_rfl, by kernel_rfl, by kernel_rfl⟩
theorem ty75 : Tryz.prog.cellsOf 75 = 1 ∧ Tryz.prog.bytesOf 75 = 24 ∧ (Tryz.prog.info? 75).isSome = true ∧ zeroCs Tryz.prog 75 = some [.fsl []] := ⟨by kernel_rfl, by kernel_rfl, by kernel_rfl, by kernel_rfl⟩
theorem ty76 : Tryz.prog.cellsOf 76 = 1 ∧ Tryz.prog.bytesOf 76 = 8 ∧ (Tryz.prog.info? 76).isSome = true ∧ zeroCs Tryz.prog 76 = some [.d (.o .nilFunc)] := ⟨by kernel_rfl, by kernel_rfl, by kernel_rfl, by kernel_rfl⟩
theorem ty77 : Tryz.prog.cellsOf 77 = 1 ∧ Tryz.prog.bytesOf 77 = 8 ∧ (Tryz.prog.info? 77).isSome = true ∧ zeroCs Tryz.prog 77 = some [.d (.o .nilFunc)] := ⟨by kernel_rfl, by kernel_rfl, by kernel_rfl, by kernel_rfl⟩
theorem ty78 : Tryz.prog.cellsOf 78 = 1 ∧ Tryz.prog.bytesOf 78 = 8 ∧ (Tryz.prog.info? 78).isSome = true ∧ zeroCs Tryz.prog 78 = some [.d (.o .nilFunc)] := ⟨by kernel_rfl, by kernel_rfl, by kernel_rfl, by kernel_rfl⟩
theorem ty79 : Tryz.prog.cellsOf 79 = 1 ∧ Tryz.prog.bytesOf 79 = 8 ∧ (Tryz.prog.info? 79).isSome = true ∧ zeroCs Tryz.prog 79 = some [.d (.o .nilFunc)] := ⟨by kernel_rfl, by kernel_rfl, by kernel_rfl, by kernel_rfl⟩
theorem ty80 : Tryz.prog.cellsOf 80 = 1 ∧ Tryz.prog.bytesOf 80 = 24 ∧ (Tryz.prog.info? 80).isSome = true ∧ zeroCs Tryz.prog 80 = some [.fsl []] := ⟨by kernel_rfl, by kernel_rfl, by kernel_rfl, by kernel_rfl⟩
theorem ty81 : Tryz.prog.cellsOf 81 = 3 ∧ Tryz.prog.bytesOf 81 = 64 ∧ (Tryz.prog.info? 81).isSome = true ∧ zeroCs Tryz.prog 81 = some [.d (.s []), .fsl [], .fsl []] := ⟨by kernel_rfl, by kernel_rfl, by kernel_rfl, by kernel_rfl⟩
theorem ty82 : Tryz.prog.cellsOf 82 = 3 ∧ Tryz.prog.bytesOf 82 = 64 ∧ (Tryz.prog.info? 82).isSome = true ∧ zeroCs Tryz.prog 82 = some [.d (.s []), .fsl [], .fsl []] := ⟨by kernel_rfl, by kernel_rfl, by kernel_rfl, by kernel_rfl⟩
theorem ty84 : Tryz.prog.cellsOf 84 = 1 ∧ Tryz.prog.bytesOf 84 = 8 ∧ (Tryz.prog.info? 84).isSome = true ∧ zeroCs Tryz.prog 84 = some [.d (.o .nilFunc)] := ⟨by kernel_rfl, by kernel_rfl, by kernel_rfl, by kernel_rfl⟩
theorem ty85 : Tryz.prog.cellsOf 85 = 1 ∧ Tryz.prog.bytesOf 85 = 8 ∧ (Tryz.prog.info? 85).isSome = true ∧ zeroCs Tryz.prog 85 = some [.d (.o .nilFunc)] := ⟨by kernel_rfl, by kernel_rfl, by kernel_rfl, by kernel_rfl⟩
theorem ty86 : Tryz.prog.cellsOf 86 = 1 ∧ Tryz.prog.bytesOf 86 = 8 ∧ (Tryz.prog.info? 86).isSome = true ∧ zeroCs Tryz.prog 86 = some [.d (.o .nilFunc)] := ⟨by kernel_rfl, by kernel_rfl, by kernel_rfl, by kernel_rfl⟩
theorem ty87 : Tryz.prog.cellsOf 87 = 1 ∧ Tryz.prog.bytesOf 87 = 8 ∧ (Tryz.prog.info? 87).isSome = true ∧ zeroCs Tryz.prog 87 = some [.d (.o .nilFunc)] := ⟨by kernel_rfl, by kernel_rfl, by kernel_rfl, by kernel_rfl⟩
theorem ty88 : Tryz.prog.cellsOf 88 = 2 ∧ Tryz.prog.bytesOf 88 = 16 ∧ (Tryz.prog.info? 88).isSome = true ∧ zeroCs Tryz.prog 88 = some [.d (.i .i64 0), .d (.i .i64 0)] := ⟨by kernel_rfl, by kernel_rfl, by kernel_rfl, by kernel_rfl⟩
theorem ty89 : Tryz.prog.cellsOf 89 = 2 ∧ Tryz.prog.bytesOf 89 = 16 ∧ (Tryz.prog.info? 89).isSome = true ∧ zeroCs Tryz.prog 89 = some [.d (.i .i64 0), .d (.i .i64 0)] := ⟨by kernel_rfl, by kernel_rfl, by kernel_rfl, by kernel_rfl⟩
theorem ty90 : Tryz.prog.cellsOf 90 = 1 ∧ Tryz.prog.bytesOf 90 = 24 ∧ (Tryz.prog.info? 90).isSome = true ∧ zeroCs Tryz.prog 90 = some [.fsl []] := ⟨by kernel_rfl, by kernel_rfl, by kernel_rfl, by kernel_rfl⟩
theorem ty91 : Tryz.prog.cellsOf 91 = 1 ∧ Tryz.prog.bytesOf 91 = 24 ∧ (Tryz.prog.info? 91).isSome = true ∧ zeroCs Tryz.prog 91 = some [.fsl []] := ⟨by kernel_rfl, by kernel_rfl, by kernel_rfl, by kernel_rfl⟩
theorem ty92 : Tryz.prog.cellsOf 92 = 12 ∧ Tryz.prog.bytesOf 92 = 192 ∧ (Tryz.prog.info? 92).isSome = true ∧ zeroCs Tryz.prog 92 = some [.d (.s []), .fsl [], .d (.i .i64 0), .d (.s []), .fsl [], .fsl [], .d (.b false), .d (.b false), .d (.i .i64 0), .d (.s []), .fsl [], .fsl []] := ⟨by kernel_rfl, by kernel_rfl, by kernel_rfl, by kernel_rfl⟩
theorem ty93 : Tryz.prog.cellsOf 93 = 12 ∧ Tryz.prog.bytesOf 93 = 192 ∧ (Tryz.prog.info? 93).isSome = true ∧ zeroCs Tryz.prog 93 = some [.d (.s []), .fsl [], .d (.i .i64 0), .d (.s []), .fsl [], .fsl [], .d (.b false), .d (.b false), .d (.i .i64 0), .d (.s []), .fsl [], .fsl []] := ⟨by kernel_rfl, by kernel_rfl, by kernel_rfl, by kernel_rfl⟩
theorem ty95 : Tryz.prog.cellsOf 95 = 1 ∧ Tryz.prog.bytesOf 95 = 8 ∧ (Tryz.prog.info? 95).isSome = true ∧ zeroCs Tryz.prog 95 = some [.d (.o .nilFunc)] := ⟨by kernel_rfl, by kernel_rfl, by kernel_rfl, by kernel_rfl⟩
theorem ty96 : Tryz.prog.cellsOf 96 = 2 ∧ Tryz.prog.bytesOf 96 = 16 ∧ (Tryz.prog.info? 96).isSome = true ∧ zeroCs Tryz.prog 96 = some [.d (.i .i64 0), .d (.i .i64 0)] := ⟨by kernel_rfl, by kernel_rfl, by kernel_rfl, by kernel_rfl⟩
theorem ty97 : Tryz.prog.cellsOf 97 = 1 ∧ Tryz.prog.bytesOf 97 = 8 ∧ (Tryz.prog.info? 97).isSome = true ∧ zeroCs Tryz.prog 97 = some [.d (.o .nilFunc)] := ⟨by kernel_rfl, by kernel_rfl, by kernel_rfl, by kernel_rfl⟩
theorem ty98 : Tryz.prog.cellsOf 98 = 1 ∧ Tryz.prog.bytesOf 98 = 8 ∧ (Tryz.prog.info? 98).isSome = true ∧ zeroCs Tryz.prog 98 = some [.d (.o .nilFunc)] := ⟨by kernel_rfl, by kernel_rfl, by kernel_rfl, by kernel_rfl⟩
theorem ty99 : Tryz.prog.cellsOf 99 = 1 ∧ Tryz.prog.bytesOf 99 = 8 ∧ (Tryz.prog.info? 99).isSome = true ∧ zeroCs Tryz.prog 99 = some [.d (.o .nilFunc)] := ⟨by kernel_rfl, by kernel_rfl, by kernel_rfl, by kernel_rfl⟩
theorem ty100 : Tryz.prog.cellsOf 100 = 1 ∧ Tryz.prog.bytesOf 100 = 8 ∧ (Tryz.prog.info? 100).isSome = true ∧ zeroCs Tryz.prog 100 = some [.d (.o .nilFunc)] := ⟨by kernel_rfl, by kernel_rfl, by kernel_rfl, by kernel_rfl⟩
theorem ty101 : Tryz.prog.cellsOf 101 = 1 ∧ Tryz.prog.bytesOf 101 = 8 ∧ (Tryz.prog.info? 101).isSome = true ∧ zeroCs Tryz.prog 101 = some [.d (.o .nilFunc)] := ⟨by kernel_rfl, by kernel_rfl, by kernel_rfl, by kernel_rfl⟩
theorem ty102 : Tryz.prog.cellsOf 102 = 1 ∧ Tryz.prog.bytesOf 102 = 8 ∧ (Tryz.prog.info? 102).isSome = true ∧ zeroCs Tryz.prog 102 = some [.d (.o .nilFunc)] := ⟨by kernel_rfl, by kernel_rfl, by kernel_rfl, by kernel_rfl⟩
theorem ty103 : Tryz.prog.cellsOf 103 = 1 ∧ Tryz.prog.bytesOf 103 = 8 ∧ (Tryz.prog.info? 103).isSome = true ∧ zeroCs Tryz.prog 103 = some [.d (.o .nilFunc)] := ⟨by kernel_rfl, by kernel_rfl, by kernel_rfl, by kernel_rfl⟩
theorem ty104 : Tryz.prog.cellsOf 104 = 1 ∧ Tryz.prog.bytesOf 104 = 8 ∧ (Tryz.prog.info? 104).isSome = true ∧ zeroCs Tryz.prog 104 = some [.d (.o .nilFunc)] := ⟨by kernel_rfl, by kernel_rfl, by kernel_rfl, by kernel_rfl⟩
theorem ty105 : Tryz.prog.cellsOf 105 = 11 ∧ Tryz.prog.bytesOf 105 = 184 ∧ (Tryz.prog.info? 105).isSome = true ∧ zeroCs Tryz.prog 105 = some [.d (.s []), .fsl [], .d (.i .i64 0), .d (.s []), .d (.s []), .d (.i .i64 0), .d (.i .i64 0), .d (.s []), .fsl [], .fsl [], .fsl []] := ⟨by kernel_rfl, by kernel_rfl, by kernel_rfl, by kernel_rfl⟩
theorem ty106 : Tryz.prog.cellsOf 106 = 11 ∧ Tryz.prog.bytesOf 106 = 184 ∧ (Tryz.prog.info? 106).isSome = true ∧ zeroCs Tryz.prog 106 = some [.d (.s []), .fsl [], .d (.i .i64 0), .d (.s []), .d (.s []), .d (.i .i64 0), .d (.i .i64 0), .d (.s []), .fsl [], .fsl [], .fsl []] := ⟨by kernel_rfl, by kernel_rfl, by kernel_rfl, by kernel_rfl⟩
theorem ty107 : Tryz.prog.cellsOf 107 = 1 ∧ Tryz.prog.bytesOf 107 = 8 ∧ (Tryz.prog.info? 107).isSome = true ∧ zeroCs Tryz.prog 107 = some [.d (.o .nilFunc)] := ⟨by kernel_rfl, by kernel_rfl, by kernel_rfl, by kernel_rfl⟩
theorem ty108 : Tryz.prog.cellsOf 108 = 1 ∧ Tryz.prog.bytesOf 108 = 8 ∧ (Tryz.prog.info? 108).isSome = true ∧ zeroCs Tryz.prog 108 = some [.d (.o .nilFunc)] := ⟨by kernel_rfl, by kernel_rfl, by kernel_rfl, by kernel_rfl⟩
theorem ty109 : Tryz.prog.cellsOf 109 = 1 ∧ Tryz.prog.bytesOf 109 = 8 ∧ (Tryz.prog.info? 109).isSome = true ∧ zeroCs Tryz.prog 109 = some [.d (.o .nilFunc)] := ⟨by kernel_rfl, by kernel_rfl, by kernel_rfl, by kernel_rfl⟩
theorem ty110 : Tryz.prog.cellsOf 110 = 1 ∧ Tryz.prog.bytesOf 110 = 8 ∧ (Tryz.prog.info? 110).isSome = true ∧ zeroCs Tryz.prog 110 = some [.d (.o .nilFunc)] := ⟨by kernel_rfl, by kernel_rfl, by kernel_rfl, by kernel_rfl⟩
theorem ty111 : Tryz.prog.cellsOf 111 = 2 ∧ Tryz.prog.bytesOf 111 = 48 ∧ (Tryz.prog.info? 111).isSome = true ∧ zeroCs Tryz.prog 111 = some [.fsl [], .fsl []] := ⟨by kernel_rfl, by kernel_rfl, by kernel_rfl, by kernel_rfl⟩
theorem ty112 : Tryz.prog.cellsOf 112 = 2 ∧ Tryz.prog.bytesOf 112 = 48 ∧ (Tryz.prog.info? 112).isSome = true ∧ zeroCs Tryz.prog 112 = some [.fsl [], .fsl []] := ⟨by kernel_rfl, by kernel_rfl, by kernel_rfl, by kernel_rfl⟩
theorem ty113 : Tryz.prog.cellsOf 113 = 1 ∧ Tryz.prog.bytesOf 113 = 8 ∧ (Tryz.prog.info? 113).isSome = true ∧ zeroCs Tryz.prog 113 = some [.d (.o .nilFunc)] := ⟨by kernel_rfl, by kernel_rfl, by kernel_rfl, by kernel_rfl⟩
theorem ty114 : Tryz.prog.cellsOf 114 = 1 ∧ Tryz.prog.bytesOf 114 = 8 ∧ (Tryz.prog.info? 114).isSome = true ∧ zeroCs Tryz.prog 114 = some [.d (.o .nilFunc)] := ⟨by kernel_rfl, by kernel_rfl, by kernel_rfl, by kernel_rfl⟩
theorem ty115 : Tryz.prog.cellsOf 115 = 1 ∧ Tryz.prog.bytesOf 115 = 8 ∧ (Tryz.prog.info? 115).isSome = true ∧ zeroCs Tryz.prog 115 = some [.d (.o .nilFunc)] := ⟨by kernel_rfl, by kernel_rfl, by kernel_rfl, by kernel_rfl⟩
theorem ty116 : Tryz.prog.cellsOf 116 = 1 ∧ Tryz.prog.bytesOf 116 = 8 ∧ (Tryz.prog.info? 116).isSome = true ∧ zeroCs Tryz.prog 116 = some [.d (.o .nilFunc)] := ⟨by kernel_rfl, by kernel_rfl, by kernel_rfl, by kernel_rfl⟩
theorem ty117 : Tryz.prog.cellsOf 117 = 1 ∧ Tryz.prog.bytesOf 117 = 8 ∧ (Tryz.prog.info? 117).isSome = true ∧ zeroCs Tryz.prog 117 = some [.d (.o .nilFunc)] := ⟨by kernel_rfl, by kernel_rfl, by kernel_rfl, by kernel_rfl⟩
theorem ty118 : Tryz.prog.cellsOf 118 = 1 ∧ Tryz.prog.bytesOf 118 = 8 ∧ (Tryz.prog.info? 118).isSome = true ∧ zeroCs Tryz.prog 118 = some [.d (.o .nilFunc)] := ⟨by kernel_rfl, by kernel_rfl, by kernel_rfl, by kernel_rfl⟩
theorem ty119 : Tryz.prog.cellsOf 119 = 1 ∧ Tryz.prog.bytesOf 119 = 8 ∧ (Tryz.prog.info? 119).isSome = true ∧ zeroCs Tryz.prog 119 = some [.d (.o .nilFunc)] := ⟨by kernel_rfl, by kernel_rfl, by kernel_rfl, by kernel_rfl⟩
theorem ty120 : Tryz.prog.cellsOf 120 = 1 ∧ Tryz.prog.bytesOf 120 = 8 ∧ (Tryz.prog.info? 120).isSome = true ∧ zeroCs Tryz.prog 120 = some [.d (.o .nilFunc)] := ⟨by kernel_rfl, by kernel_rfl, by kernel_rfl, by kernel_rfl⟩
theorem ty121 : Tryz.prog.cellsOf 121 = 1 ∧ Tryz.prog.bytesOf 121 = 8 ∧ (Tryz.prog.info? 121).isSome = true ∧ zeroCs Tryz.prog 121 = some [.d (.o .nilFunc)] := ⟨by kernel_rfl, by kernel_rfl, by kernel_rfl, by kernel_rfl⟩
theorem ty122 : Tryz.prog.cellsOf 122 = 1 ∧ Tryz.prog.bytesOf 122 = 8 ∧ (Tryz.prog.info? 122).isSome = true ∧ zeroCs Tryz.prog 122 = some [.d (.o .nilFunc)] := ⟨by kernel_rfl, by kernel_rfl, by kernel_rfl, by kernel_rfl⟩
theorem ty123 : Tryz.prog.cellsOf 123 = 1 ∧ Tryz.prog.bytesOf 123 = 8 ∧ (Tryz.prog.info? 123).isSome = true ∧ zeroCs Tryz.prog 123 = some [.d (.o .nilFunc)] := ⟨by kernel_rfl, by kernel_rfl, by kernel_rfl, by kernel_rfl⟩
theorem ty125 : Tryz.prog.cellsOf 125 = 1 ∧ Tryz.prog.bytesOf 125 = 8 ∧ (Tryz.prog.info? 125).isSome = true ∧ zeroCs Tryz.prog 125 = some [.d (.o .nilFunc)] := ⟨by kernel_rfl, by kernel_rfl, by kernel_rfl, by kernel_rfl⟩
theorem ty126 : Tryz.prog.cellsOf 126 = 1 ∧ Tryz.prog.bytesOf 126 = 8 ∧ (Tryz.prog.info? 126).isSome = true ∧ zeroCs Tryz.prog 126 = some [.d (.o .nilFunc)] := ⟨by kernel_rfl, by kernel_rfl, by kernel_rfl, by kernel_rfl⟩
theorem ty127 : Tryz.prog.cellsOf 127 = 1 ∧ Tryz.prog.bytesOf 127 = 8 ∧ (Tryz.prog.info? 127).isSome = true ∧ zeroCs Tryz.prog 127 = some [.d (.o .nilFunc)] := ⟨by kernel_rfl, by kernel_rfl, by kernel_rfl, by kernel_rfl⟩
theorem ty128 : Tryz.prog.cellsOf 128 = 1 ∧ Tryz.prog.bytesOf 128 = 8 ∧ (Tryz.prog.info? 128).isSome = true ∧ zeroCs Tryz.prog 128 = some [.d (.o .nilFunc)] := ⟨by kernel_rfl, by kernel_rfl, by kernel_rfl, by kernel_rfl⟩
theorem ty129 : Tryz.prog.cellsOf 129 = 1 ∧ Tryz.prog.bytesOf 129 = 8 ∧ (Tryz.prog.info? 129).isSome = true ∧ zeroCs Tryz.prog 129 = some [.d (.o .nilFunc)] := ⟨by kernel_rfl, by kernel_rfl, by kernel_rfl, by kernel_rfl⟩
theorem ty130 : Tryz.prog.cellsOf 130 = 1 ∧ Tryz.prog.bytesOf 130 = 8 ∧ (Tryz.prog.info? 130).isSome = true ∧ zeroCs Tryz.prog 130 = some [.d (.o .nilFunc)] := ⟨by kernel_rfl, by kernel_rfl, by kernel_rfl, by kernel_rfl⟩
theorem ty131 : Tryz.prog.cellsOf 131 = 1 ∧ Tryz.prog.bytesOf 131 = 8 ∧ (Tryz.prog.info? 131).isSome = true ∧ zeroCs Tryz.prog 131 = some [.d (.o .nilFunc)] := ⟨by kernel_rfl, by kernel_rfl, by kernel_rfl, by kernel_rfl⟩
theorem ty132 : Tryz.prog.cellsOf 132 = 1 ∧ Tryz.prog.bytesOf 132 = 8 ∧ (Tryz.prog.info? 132).isSome = true ∧ zeroCs Tryz.prog 132 = some [.d (.o .nilFunc)] := ⟨by kernel_rfl, by kernel_rfl, by kernel_rfl, by kernel_rfl⟩
theorem ty133 : Tryz.prog.cellsOf 133 = 1 ∧ Tryz.prog.bytesOf 133 = 8 ∧ (Tryz.prog.info? 133).isSome = true ∧ zeroCs Tryz.prog 133 = some [.d (.o .nilFunc)] := ⟨by kernel_rfl, by kernel_rfl, by kernel_rfl, by kernel_rfl⟩
theorem ty134 : Tryz.prog.cellsOf 134 = 1 ∧ Tryz.prog.bytesOf 134 = 8 ∧ (Tryz.prog.info? 134).isSome = true ∧ zeroCs Tryz.prog 134 = some [.d (.o .nilFunc)] := ⟨by kernel_rfl, by kernel_rfl, by kernel_rfl, by kernel_rfl⟩
theorem ty135 : Tryz.prog.cellsOf 135 = 1 ∧ Tryz.prog.bytesOf 135 = 8 ∧ (Tryz.prog.info? 135).isSome = true ∧ zeroCs Tryz.prog 135 = some [.d (.o .nilFunc)] := ⟨by kernel_rfl, by kernel_rfl, by kernel_rfl, by kernel_rfl⟩
theorem ty136 : Tryz.prog.cellsOf 136 = 1 ∧ Tryz.prog.bytesOf 136 = 8 ∧ (Tryz.prog.info? 136).isSome = true ∧ zeroCs Tryz.prog 136 = some [.d (.o .nilFunc)] := ⟨by kernel_rfl, by kernel_rfl, by kernel_rfl, by kernel_rfl⟩
theorem ty137 : Tryz.prog.cellsOf 137 = 1 ∧ Tryz.prog.bytesOf 137 = 24 ∧ (Tryz.prog.info? 137).isSome = true ∧ zeroCs Tryz.prog 137 = some [.fsl []] := ⟨by kernel_rfl, by kernel_rfl, by kernel_rfl, by kernel_rfl⟩
theorem ty138 : Tryz.prog.cellsOf 138 = 5 ∧ Tryz.prog.bytesOf 138 = 72 ∧ (Tryz.prog.info? 138).isSome = true ∧ zeroCs Tryz.prog 138 = some [.d (.s []), .fsl [], .d (.b false), .d (.b false), .fsl []] := ⟨by kernel_rfl, by kernel_rfl, by kernel_rfl, by kernel_rfl⟩
theorem ty139 : Tryz.prog.cellsOf 139 = 5 ∧ Tryz.prog.bytesOf 139 = 72 ∧ (Tryz.prog.info? 139).isSome = true ∧ zeroCs Tryz.prog 139 = some [.d (.s []), .fsl [], .d (.b false), .d (.b false), .fsl []] := ⟨by kernel_rfl, by kernel_rfl, by kernel_rfl, by kernel_rfl⟩
theorem ty140 : Tryz.prog.cellsOf 140 = 1 ∧ Tryz.prog.bytesOf 140 = 8 ∧ (Tryz.prog.info? 140).isSome = true ∧ zeroCs Tryz.prog 140 = some [.d (.o .nilFunc)] := ⟨by kernel_rfl, by kernel_rfl, by kernel_rfl, by kernel_rfl⟩
theorem ty141 : Tryz.prog.cellsOf 141 = 1 ∧ Tryz.prog.bytesOf 141 = 8 ∧ (Tryz.prog.info? 141).isSome = true ∧ zeroCs Tryz.prog 141 = some [.d (.o .nilFunc)] := ⟨by kernel_rfl, by kernel_rfl, by kernel_rfl, by kernel_rfl⟩
theorem ty142 : Tryz.prog.cellsOf 142 = 1 ∧ Tryz.prog.bytesOf 142 = 8 ∧ (Tryz.prog.info? 142).isSome = true ∧ zeroCs Tryz.prog 142 = some [.d (.o .nilFunc)] := ⟨by kernel_rfl, by kernel_rfl, by kernel_rfl, by kernel_rfl⟩
theorem ty143 : Tryz.prog.cellsOf 143 = 1 ∧ Tryz.prog.bytesOf 143 = 24 ∧ (Tryz.prog.info? 143).isSome = true ∧ zeroCs Tryz.prog 143 = some [.fsl []] := ⟨by kernel_rfl, by kernel_rfl, by kernel_rfl, by kernel_rfl⟩
theorem ty144 : Tryz.prog.cellsOf 144 = 16 ∧ Tryz.prog.bytesOf 144 = 280 ∧ (Tryz.prog.info? 144).isSome = true ∧ zeroCs Tryz.prog 144 = some [.d (.s []), .fsl [], .fsl [], .fsl [], .d (.i .i64 0), .d (.s []), .fsl [], .d (.i .i64 0), .d (.s []), .d (.s []), .d (.i .i64 0), .d (.i .i64 0), .d (.s []), .fsl [], .fsl [], .fsl []] := ⟨by kernel_rfl, by kernel_rfl, by kernel_rfl, by kernel_rfl⟩
theorem ty145 : Tryz.prog.cellsOf 145 = 16 ∧ Tryz.prog.bytesOf 145 = 280 ∧ (Tryz.prog.info? 145).isSome = true ∧ zeroCs Tryz.prog 145 = some [.d (.s []), .fsl [], .fsl [], .fsl [], .d (.i .i64 0), .d (.s []), .fsl [], .d (.i .i64 0), .d (.s []), .d (.s []), .d (.i .i64 0), .d (.i .i64 0), .d (.s []), .fsl [], .fsl [], .fsl []] := ⟨by kernel_rfl, by kernel_rfl, by kernel_rfl, by kernel_rfl⟩
theorem ty146 : Tryz.prog.cellsOf 146 = 1 ∧ Tryz.prog.bytesOf 146 = 8 ∧ (Tryz.prog.info? 146).isSome = true ∧ zeroCs Tryz.prog 146 = some [.d (.o .nilFunc)] := ⟨by kernel_rfl, by kernel_rfl, by kernel_rfl, by kernel_rfl⟩
theorem ty147 : Tryz.prog.cellsOf 147 = 1 ∧ Tryz.prog.bytesOf 147 = 8 ∧ (Tryz.prog.info? 147).isSome = true ∧ zeroCs Tryz.prog 147 = some [.d (.o .nilFunc)] := ⟨by kernel_rfl, by kernel_rfl, by kernel_rfl, by kernel_rfl⟩
theorem ty148 : Tryz.prog.cellsOf 148 = 1 ∧ Tryz.prog.bytesOf 148 = 8 ∧ (Tryz.prog.info? 148).isSome = true ∧ zeroCs Tryz.prog 148 = some [.d (.o .nilFunc)] := ⟨by kernel_rfl, by kernel_rfl, by kernel_rfl, by kernel_rfl⟩
theorem ty149 : Tryz.prog.cellsOf 149 = 1 ∧ Tryz.prog.bytesOf 149 = 8 ∧ (Tryz.prog.info? 149).isSome = true ∧ zeroCs Tryz.prog 149 = some [.d (.o .nilFunc)] := ⟨by kernel_rfl, by kernel_rfl, by kernel_rfl, by kernel_rfl⟩
theorem ty150 : Tryz.prog.cellsOf 150 = 1 ∧ Tryz.prog.bytesOf 150 = 8 ∧ (Tryz.prog.info? 150).isSome = true ∧ zeroCs Tryz.prog 150 = some [.d (.o .nilFunc)] := ⟨by kernel_rfl, by kernel_rfl, by kernel_rfl, by kernel_rfl⟩
theorem ty151 : Tryz.prog.cellsOf 151 = 1 ∧ Tryz.prog.bytesOf 151 = 8 ∧ (Tryz.prog.info? 151).isSome = true ∧ zeroCs Tryz.prog 151 = some [.d (.o .nilFunc)] := ⟨by kernel_rfl, by kernel_rfl, by kernel_rfl, by kernel_rfl⟩
theorem ty152 : Tryz.prog.cellsOf 152 = 1 ∧ Tryz.prog.bytesOf 152 = 8 ∧ (Tryz.prog.info? 152).isSome = true ∧ zeroCs Tryz.prog 152 = some [.d (.o .nilFunc)] := ⟨by kernel_rfl, by kernel_rfl, by kernel_rfl, by kernel_rfl⟩
theorem ty153 : Tryz.prog.cellsOf 153 = 1 ∧ Tryz.prog.bytesOf 153 = 8 ∧ (Tryz.prog.info? 153).isSome = true ∧ zeroCs Tryz.prog 153 = some [.d (.o .nilFunc)] := ⟨by kernel_rfl, by kernel_rfl, by kernel_rfl, by kernel_rfl⟩
theorem ty154 : Tryz.prog.cellsOf 154 = 1 ∧ Tryz.prog.bytesOf 154 = 8 ∧ (Tryz.prog.info? 154).isSome = true ∧ zeroCs Tryz.prog 154 = some [.d (.o .nilFunc)] := ⟨by kernel_rfl, by kernel_rfl, by kernel_rfl, by kernel_rfl⟩
theorem ty155 : Tryz.prog.cellsOf 155 = 1 ∧ Tryz.prog.bytesOf 155 = 8 ∧ (Tryz.prog.info? 155).isSome = true ∧ zeroCs Tryz.prog 155 = some [.d (.o .nilFunc)] := ⟨by kernel_rfl, by kernel_rfl, by kernel_rfl, by kernel_rfl⟩
theorem ty156 : Tryz.prog.cellsOf 156 = 1 ∧ Tryz.prog.bytesOf 156 = 24 ∧ (Tryz.prog.info? 156).isSome = true ∧ zeroCs Tryz.prog 156 = some [.fsl []] := ⟨by kernel_rfl, by kernel_rfl, by kernel_rfl, by kernel_rfl⟩
theorem ty157 : Tryz.prog.cellsOf 157 = 1 ∧ Tryz.prog.bytesOf 157 = 8 ∧ (Tryz.prog.info? 157).isSome = true ∧ zeroCs Tryz.prog 157 = some [.d (.o .nilFunc)] := ⟨by kernel_rfl, by kernel_rfl, by kernel_rfl, by kernel_rfl⟩
theorem ty158 : Tryz.prog.cellsOf 158 = 1 ∧ Tryz.prog.bytesOf 158 = 24 ∧ (Tryz.prog.info? 158).isSome = true ∧ zeroCs Tryz.prog 158 = some [.fsl []] := ⟨by kernel_rfl, by kernel_rfl, by kernel_rfl, by kernel_rfl⟩
theorem ty159 : Tryz.prog.cellsOf 159 = 1 ∧ Tryz.prog.bytesOf 159 = 8 ∧ (Tryz.prog.info? 159).isSome = true ∧ zeroCs Tryz.prog 159 = some [.d (.o .nilFunc)] := ⟨by kernel_rfl, by kernel_rfl, by kernel_rfl, by kernel_rfl⟩
theorem ty160 : Tryz.prog.cellsOf 160 = 1 ∧ Tryz.prog.bytesOf 160 = 8 ∧ (Tryz.prog.info? 160).isSome = true ∧ zeroCs Tryz.prog 160 = some [.d (.o .nilFunc)] := ⟨by kernel_rfl, by kernel_rfl, by kernel_rfl, by kernel_rfl⟩
theorem ty161 : Tryz.prog.cellsOf 161 = 1 ∧ Tryz.prog.bytesOf 161 = 8 ∧ (Tryz.prog.info? 161).isSome = true ∧ zeroCs Tryz.prog 161 = some [.d (.o .nilFunc)] := ⟨by kernel_rfl, by kernel_rfl, by kernel_rfl, by kernel_rfl⟩
theorem ty162 : Tryz.prog.cellsOf 162 = 1 ∧ Tryz.prog.bytesOf 162 = 8 ∧ (Tryz.prog.info? 162).isSome = true ∧ zeroCs Tryz.prog 162 = some [.d (.o .nilFunc)] := ⟨by kernel_rfl, by kernel_rfl, by kernel_rfl, by kernel_rfl⟩
theorem ty163 : Tryz.prog.cellsOf 163 = 1 ∧ Tryz.prog.bytesOf 163 = 8 ∧ (Tryz.prog.info? 163).isSome = true ∧ zeroCs Tryz.prog 163 = some [.d (.o .nilFunc)] := ⟨by kernel_rfl, by kernel_rfl, by kernel_rfl, by kernel_rfl⟩
theorem ty164 : Tryz.prog.cellsOf 164 = 1 ∧ Tryz.prog.bytesOf 164 = 8 ∧ (Tryz.prog.info? 164).isSome = true ∧ zeroCs Tryz.prog 164 = some [.d (.o .nilFunc)] := ⟨by kernel_rfl, by kernel_rfl, by kernel_rfl, by kernel_rfl⟩
theorem ty165 : Tryz.prog.cellsOf 165 = 1 ∧ Tryz.prog.bytesOf 165 = 8 ∧ (Tryz.prog.info? 165).isSome = true ∧ zeroCs Tryz.prog 165 = some [.d (.o .nilFunc)] := ⟨by kernel_rfl, by kernel_rfl, by kernel_rfl, by kernel_rfl⟩
theorem ty166 : Tryz.prog.cellsOf 166 = 1 ∧ Tryz.prog.bytesOf 166 = 8 ∧ (Tryz.prog.info? 166).isSome = true ∧ zeroCs Tryz.prog 166 = some [.d (.o .nilFunc)] := ⟨by kernel_rfl, by kernel_rfl, by kernel_rfl, by kernel_rfl⟩
theorem ty167 : Tryz.prog.cellsOf 167 = 1 ∧ Tryz.prog.bytesOf 167 = 8 ∧ (Tryz.prog.info? 167).isSome = true ∧ zeroCs Tryz.prog 167 = some [.d (.o .nilFunc)] := ⟨by kernel_rfl, by kernel_rfl, by kernel_rfl, by kernel_rfl⟩
theorem ty168 : Tryz.prog.cellsOf 168 = 1 ∧ Tryz.prog.bytesOf 168 = 8 ∧ (Tryz.prog.info? 168).isSome = true ∧ zeroCs Tryz.prog 168 = some [.d (.o .nilFunc)] := ⟨by kernel_rfl, by kernel_rfl, by kernel_rfl, by kernel_rfl⟩
theorem ty169 : Tryz.prog.cellsOf 169 = 1 ∧ Tryz.prog.bytesOf 169 = 8 ∧ (Tryz.prog.info? 169).isSome = true ∧ zeroCs Tryz.prog 169 = some [.d (.o .nilFunc)] := ⟨by kernel_rfl, by kernel_rfl, by kernel_rfl, by kernel_rfl⟩
theorem ty170 : Tryz.prog.cellsOf 170 = 1 ∧ Tryz.prog.bytesOf 170 = 8 ∧ (Tryz.prog.info? 170).isSome = true ∧ zeroCs Tryz.prog 170 = some [.d (.o .nilFunc)] := ⟨by kernel_rfl, by kernel_rfl, by kernel_rfl, by kernel_rfl⟩
theorem ty171 : Tryz.prog.cellsOf 171 = 1 ∧ Tryz.prog.bytesOf 171 = 8 ∧ (Tryz.prog.info? 171).isSome = true ∧ zeroCs Tryz.prog 171 = some [.d (.o .nilFunc)] := ⟨by kernel_rfl, by kernel_rfl, by kernel_rfl, by kernel_rfl⟩
theorem ty172 : Tryz.prog.cellsOf 172 = 11 ∧ Tryz.prog.bytesOf 172 = 184 ∧ (Tryz.prog.info? 172).isSome = true ∧ zeroCs Tryz.prog 172 = some [.d (.s []), .fsl [], .d (.i .i64 0), .d (.s []), .d (.s []), .d (.i .i64 0), .d (.i .i64 0), .d (.s []), .fsl [], .fsl [], .fsl []] := ⟨by kernel_rfl, by kernel_rfl, by kernel_rfl, by kernel_rfl⟩
theorem ty173 : Tryz.prog.cellsOf 173 = 11 ∧ Tryz.prog.bytesOf 173 = 184 ∧ (Tryz.prog.info? 173).isSome = true ∧ zeroCs Tryz.prog 173 = some [.d (.s []), .fsl [], .d (.i .i64 0), .d (.s []), .d (.s []), .d (.i .i64 0), .d (.i .i64 0), .d (.s []), .fsl [], .fsl [], .fsl []] := ⟨by kernel_rfl, by kernel_rfl, by kernel_rfl, by kernel_rfl⟩
theorem ty175 : Tryz.prog.cellsOf 175 = 1 ∧ Tryz.prog.bytesOf 175 = 8 ∧ (Tryz.prog.info? 175).isSome = true ∧ zeroCs Tryz.prog 175 = some [.d (.o .nilFunc)] := ⟨by kernel_rfl, by kernel_rfl, by kernel_rfl, by kernel_rfl⟩
theorem ty176 : Tryz.prog.cellsOf 176 = 1 ∧ Tryz.prog.bytesOf 176 = 8 ∧ (Tryz.prog.info? 176).isSome = true ∧ zeroCs Tryz.prog 176 = some [.d (.o .nilFunc)] := ⟨by kernel_rfl, by kernel_rfl, by kernel_rfl, by kernel_rfl⟩
theorem ty178 : Tryz.prog.cellsOf 178 = 1 ∧ Tryz.prog.bytesOf 178 = 8 ∧ (Tryz.prog.info? 178).isSome = true ∧ zeroCs Tryz.prog 178 = some [.d (.o .nilFunc)] := ⟨by kernel_rfl, by kernel_rfl, by kernel_rfl, by kernel_rfl⟩
theorem ty179 : Tryz.prog.cellsOf 179 = 16 ∧ Tryz.prog.bytesOf 179 = 264 ∧ (Tryz.prog.info? 179).isSome = true ∧ zeroCs Tryz.prog 179 = some [.d (.s []), .fsl [], .d (.i .i64 0), .d (.s []), .fsl [], .d (.b false), .fsl [], .d (.i .i64 0), .d (.s []), .d (.s []), .d (.i .i64 0), .d (.i .i64 0), .d (.s []), .fsl [], .fsl [], .fsl []] := ⟨by kernel_rfl, by kernel_rfl, by kernel_rfl, by kernel_rfl⟩
theorem ty180 : Tryz.prog.cellsOf 180 = 16 ∧ Tryz.prog.bytesOf 180 = 264 ∧ (Tryz.prog.info? 180).isSome = true ∧ zeroCs Tryz.prog 180 = some [.d (.s []), .fsl [], .d (.i .i64 0), .d (.s []), .fsl [], .d (.b false), .fsl [], .d (.i .i64 0), .d (.s []), .d (.s []), .d (.i .i64 0), .d (.i .i64 0), .d (.s []), .fsl [], .fsl [], .fsl []] := ⟨by kernel_rfl, by kernel_rfl, by kernel_rfl, by kernel_rfl⟩
theorem ty182 : Tryz.prog.cellsOf 182 = 1 ∧ Tryz.prog.bytesOf 182 = 8 ∧ (Tryz.prog.info? 182).isSome = true ∧ zeroCs Tryz.prog 182 = some [.d (.o .nilFunc)] := ⟨by kernel_rfl, by kernel_rfl, by kernel_rfl, by kernel_rfl⟩
theorem ty183 : Tryz.prog.cellsOf 183 = 1 ∧ Tryz.prog.bytesOf 183 = 8 ∧ (Tryz.prog.info? 183).isSome = true ∧ zeroCs Tryz.prog 183 = some [.d (.o .nilFunc)] := ⟨by kernel_rfl, by kernel_rfl, by kernel_rfl, by kernel_rfl⟩
theorem ty184 : Tryz.prog.cellsOf 184 = 2 ∧ Tryz.prog.bytesOf 184 = 40 ∧ (Tryz.prog.info? 184).isSome = true ∧ zeroCs Tryz.prog 184 = some [.d (.s []), .fsl []] := ⟨by kernel_rfl, by kernel_rfl, by kernel_rfl, by kernel_rfl⟩
theorem ty185 : Tryz.prog.cellsOf 185 = 2 ∧ Tryz.prog.bytesOf 185 = 40 ∧ (Tryz.prog.info? 185).isSome = true ∧ zeroCs Tryz.prog 185 = some [.d (.s []), .fsl []] := ⟨by kernel_rfl, by kernel_rfl, by kernel_rfl, by kernel_rfl⟩
theorem ty186 : Tryz.prog.cellsOf 186 = 1 ∧ Tryz.prog.bytesOf 186 = 8 ∧ (Tryz.prog.info? 186).isSome = true ∧ zeroCs Tryz.prog 186 = some [.d (.o .nilFunc)] := ⟨by kernel_rfl, by kernel_rfl, by kernel_rfl, by kernel_rfl⟩
theorem ty187 : Tryz.prog.cellsOf 187 = 1 ∧ Tryz.prog.bytesOf 187 = 8 ∧ (Tryz.prog.info? 187).isSome = true ∧ zeroCs Tryz.prog 187 = some [.d (.o .nilFunc)] := ⟨by kernel_rfl, by kernel_rfl, by kernel_rfl, by kernel_rfl⟩
theorem ty188 : Tryz.prog.cellsOf 188 = 1 ∧ Tryz.prog.bytesOf 188 = 8 ∧ (Tryz.prog.info? 188).isSome = true ∧ zeroCs Tryz.prog 188 = some [.d (.o .nilFunc)] := ⟨by kernel_rfl, by kernel_rfl, by kernel_rfl, by kernel_rfl⟩
theorem ty189 : Tryz.prog.cellsOf 189 = 1 ∧ Tryz.prog.bytesOf 189 = 8 ∧ (Tryz.prog.info? 189).isSome = true ∧ zeroCs Tryz.prog 189 = some [.d (.o .nilFunc)] := ⟨by kernel_rfl, by kernel_rfl, by kernel_rfl, by kernel_rfl⟩
theorem ty190 : Tryz.prog.cellsOf 190 = 1 ∧ Tryz.prog.bytesOf 190 = 8 ∧ (Tryz.prog.info? 190).isSome = true ∧ zeroCs Tryz.prog 190 = some [.d (.o .nilFunc)] := ⟨by kernel_rfl, by kernel_rfl, by kernel_rfl, by kernel_rfl⟩
theorem ty191 : Tryz.prog.cellsOf 191 = 1 ∧ Tryz.prog.bytesOf 191 = 8 ∧ (Tryz.prog.info? 191).isSome = true ∧ zeroCs Tryz.prog 191 = some [.d (.o .nilFunc)] := ⟨by kernel_rfl, by kernel_rfl, by kernel_rfl, by kernel_rfl⟩
theorem ty192 : Tryz.prog.cellsOf 192 = 1 ∧ Tryz.prog.bytesOf 192 = 8 ∧ (Tryz.prog.info? 192).isSome = true ∧ zeroCs Tryz.prog 192 = some [.d (.o .nilFunc)] := ⟨by kernel_rfl, by kernel_rfl, by kernel_rfl, by kernel_rfl⟩
theorem ty193 : Tryz.prog.cellsOf 193 = 1 ∧ Tryz.prog.bytesOf 193 = 8 ∧ (Tryz.prog.info? 193).isSome = true ∧ zeroCs Tryz.prog 193 = some [.d (.o .nilFunc)] := ⟨by kernel_rfl, by kernel_rfl, by kernel_rfl, by kernel_rfl⟩
theorem ty194 : Tryz.prog.cellsOf 194 = 1 ∧ Tryz.prog.bytesOf 194 = 24 ∧ (Tryz.prog.info? 194).isSome = true ∧ zeroCs Tryz.prog 194 = some [.fsl []] := ⟨by kernel_rfl, by kernel_rfl, by kernel_rfl, by kernel_rfl⟩
theorem ty195 : Tryz.prog.cellsOf 195 = 5 ∧ Tryz.prog.bytesOf 195 = 72 ∧ (Tryz.prog.info? 195).isSome = true ∧ zeroCs Tryz.prog 195 = some [.d (.s []), .fsl [], .d (.b false), .d (.b false), .fsl []] := ⟨by kernel_rfl, by kernel_rfl, by kernel_rfl, by kernel_rfl⟩
theorem ty196 : Tryz.prog.cellsOf 196 = 5 ∧ Tryz.prog.bytesOf 196 = 72 ∧ (Tryz.prog.info? 196).isSome = true ∧ zeroCs Tryz.prog 196 = some [.d (.s []), .fsl [], .d (.b false), .d (.b false), .fsl []] := ⟨by kernel_rfl, by kernel_rfl, by kernel_rfl, by kernel_rfl⟩
theorem ty197 : Tryz.prog.cellsOf 197 = 1 ∧ Tryz.prog.bytesOf 197 = 8 ∧ (Tryz.prog.info? 197).isSome = true ∧ zeroCs Tryz.prog 197 = some [.d (.o .nilFunc)] := ⟨by kernel_rfl, by kernel_rfl, by kernel_rfl, by kernel_rfl⟩
theorem ty198 : Tryz.prog.cellsOf 198 = 1 ∧ Tryz.prog.bytesOf 198 = 24 ∧ (Tryz.prog.info? 198).isSome = true ∧ zeroCs Tryz.prog 198 = some [.fsl []] := ⟨by kernel_rfl, by kernel_rfl, by kernel_rfl, by kernel_rfl⟩
theorem ty199 : Tryz.prog.cellsOf 199 = 3 ∧ Tryz.prog.bytesOf 199 = 64 ∧ (Tryz.prog.info? 199).isSome = true ∧ zeroCs Tryz.prog 199 = some [.d (.s []), .fsl [], .fsl []] := ⟨by kernel_rfl, by kernel_rfl, by kernel_rfl, by kernel_rfl⟩
theorem ty200 : Tryz.prog.cellsOf 200 = 3 ∧ Tryz.prog.bytesOf 200 = 64 ∧ (Tryz.prog.info? 200).isSome = true ∧ zeroCs Tryz.prog 200 = some [.d (.s []), .fsl [], .fsl []] := ⟨by kernel_rfl, by kernel_rfl, by kernel_rfl, by kernel_rfl⟩
theorem ty201 : Tryz.prog.cellsOf 201 = 1 ∧ Tryz.prog.bytesOf 201 = 8 ∧ (Tryz.prog.info? 201).isSome = true ∧ zeroCs Tryz.prog 201 = some [.d (.o .nilFunc)] := ⟨by kernel_rfl, by kernel_rfl, by kernel_rfl, by kernel_rfl⟩
theorem ty202 : Tryz.prog.cellsOf 202 = 1 ∧ Tryz.prog.bytesOf 202 = 24 ∧ (Tryz.prog.info? 202).isSome = true ∧ zeroCs Tryz.prog 202 = some [.fsl []] := ⟨by kernel_rfl, by kernel_rfl, by kernel_rfl, by kernel_rfl⟩
theorem ty203 : Tryz.prog.cellsOf 203 = 1 ∧ Tryz.prog.bytesOf 203 = 24 ∧ (Tryz.prog.info? 203).isSome = true ∧ zeroCs Tryz.prog 203 = some [.fsl []] := ⟨by kernel_rfl, by kernel_rfl, by kernel_rfl, by kernel_rfl⟩
theorem ty204 : Tryz.prog.cellsOf 204 = 12 ∧ Tryz.prog.bytesOf 204 = 192 ∧ (Tryz.prog.info? 204).isSome = true ∧ zeroCs Tryz.prog 204 = some [.d (.s []), .fsl [], .d (.i .i64 0), .d (.s []), .fsl [], .fsl [], .d (.b false), .d (.b false), .d (.i .i64 0), .d (.s []), .fsl [], .fsl []] := ⟨by kernel_rfl, by kernel_rfl, by kernel_rfl, by kernel_rfl⟩
theorem ty205 : Tryz.prog.cellsOf 205 = 12 ∧ Tryz.prog.bytesOf 205 = 192 ∧ (Tryz.prog.info? 205).isSome = true ∧ zeroCs Tryz.prog 205 = some [.d (.s []), .fsl [], .d (.i .i64 0), .d (.s []), .fsl [], .fsl [], .d (.b false), .d (.b false), .d (.i .i64 0), .d (.s []), .fsl [], .fsl []] := ⟨by kernel_rfl, by kernel_rfl, by kernel_rfl, by kernel_rfl⟩
theorem ty206 : Tryz.prog.cellsOf 206 = 1 ∧ Tryz.prog.bytesOf 206 = 8 ∧ (Tryz.prog.info? 206).isSome = true ∧ zeroCs Tryz.prog 206 = some [.d (.o .nilFunc)] := ⟨by kernel_rfl, by kernel_rfl, by kernel_rfl, by kernel_rfl⟩
theorem ty207 : Tryz.prog.cellsOf 207 = 1 ∧ Tryz.prog.bytesOf 207 = 24 ∧ (Tryz.prog.info? 207).isSome = true ∧ zeroCs Tryz.prog 207 = some [.fsl []] := ⟨by kernel_rfl, by kernel_rfl, by kernel_rfl, by kernel_rfl⟩
theorem ty208 : Tryz.prog.cellsOf 208 = 16 ∧ Tryz.prog.bytesOf 208 = 280 ∧ (Tryz.prog.info? 208).isSome = true ∧ zeroCs Tryz.prog 208 = some [.d (.s []), .fsl [], .fsl [], .fsl [], .d (.i .i64 0), .d (.s []), .fsl [], .d (.i .i64 0), .d (.s []), .d (.s []), .d (.i .i64 0), .d (.i .i64 0), .d (.s []), .fsl [], .fsl [], .fsl []] := ⟨by kernel_rfl, by kernel_rfl, by kernel_rfl, by kernel_rfl⟩
theorem ty209 : Tryz.prog.cellsOf 209 = 16 ∧ Tryz.prog.bytesOf 209 = 280 ∧ (Tryz.prog.info? 209).isSome = true ∧ zeroCs Tryz.prog 209 = some [.d (.s []), .fsl [], .fsl [], .fsl [], .d (.i .i64 0), .d (.s []), .fsl [], .d (.i .i64 0), .d (.s []), .d (.s []), .d (.i .i64 0), .d (.i .i64 0), .d (.s []), .fsl [], .fsl [], .fsl []] := ⟨by kernel_rfl, by kernel_rfl, by kernel_rfl, by kernel_rfl⟩
theorem ty210 : Tryz.prog.cellsOf 210 = 1 ∧ Tryz.prog.bytesOf 210 = 8 ∧ (Tryz.prog.info? 210).isSome = true ∧ zeroCs Tryz.prog 210 = some [.d (.o .nilFunc)] := ⟨by kernel_rfl, by kernel_rfl, by kernel_rfl, by kernel_rfl⟩
theorem ty211 : Tryz.prog.cellsOf 211 = 1 ∧ Tryz.prog.bytesOf 211 = 8 ∧ (Tryz.prog.info? 211).isSome = true ∧ zeroCs Tryz.prog 211 = some [.d (.o .nilFunc)] := ⟨by kernel_rfl, by kernel_rfl, by kernel_rfl, by kernel_rfl⟩
theorem ty212 : Tryz.prog.cellsOf 212 = 1 ∧ Tryz.prog.bytesOf 212 = 8 ∧ (Tryz.prog.info? 212).isSome = true ∧ zeroCs Tryz.prog 212 = some [.d (.o .nilFunc)] := ⟨by kernel_rfl, by kernel_rfl, by kernel_rfl, by kernel_rfl⟩
theorem ty213 : Tryz.prog.cellsOf 213 = 1 ∧ Tryz.prog.bytesOf 213 = 8 ∧ (Tryz.prog.info? 213).isSome = true ∧ zeroCs Tryz.prog 213 = some [.d (.o .nilFunc)] := ⟨by kernel_rfl, by kernel_rfl, by kernel_rfl, by kernel_rfl⟩
theorem ty214 : Tryz.prog.cellsOf 214 = 1 ∧ Tryz.prog.bytesOf 214 = 8 ∧ (Tryz.prog.info? 214).isSome = true ∧ zeroCs Tryz.prog 214 = some [.d (.o .nilFunc)] := ⟨by kernel_rfl, by kernel_rfl, by kernel_rfl, by kernel_rfl⟩
theorem ty215 : Tryz.prog.cellsOf 215 = 1 ∧ Tryz.prog.bytesOf 215 = 8 ∧ (Tryz.prog.info? 215).isSome = true ∧ zeroCs Tryz.prog 215 = some [.d (.o .nilFunc)] := ⟨by kernel_rfl, by kernel_rfl, by kernel_rfl, by kernel_rfl⟩
theorem ty216 : Tryz.prog.cellsOf 216 = 4 ∧ Tryz.prog.bytesOf 216 = 96 ∧ (Tryz.prog.info? 216).isSome = true ∧ zeroCs Tryz.prog 216 = some [.fsl [], .fsl [], .fsl [], .fsl []] := ⟨by kernel_rfl, by kernel_rfl, by kernel_rfl, by kernel_rfl⟩
theorem ty217 : Tryz.prog.cellsOf 217 = 1 ∧ Tryz.prog.bytesOf 217 = 8 ∧ (Tryz.prog.info? 217).isSome = true ∧ zeroCs Tryz.prog 217 = some [.d (.o .nilFunc)] := ⟨by kernel_rfl, by kernel_rfl, by kernel_rfl, by kernel_rfl⟩
theorem ty218 : Tryz.prog.cellsOf 218 = 1 ∧ Tryz.prog.bytesOf 218 = 8 ∧ (Tryz.prog.info? 218).isSome = true ∧ zeroCs Tryz.prog 218 = some [.d (.o .nilFunc)] := ⟨by kernel_rfl, by kernel_rfl, by kernel_rfl, by kernel_rfl⟩
theorem ty219 : Tryz.prog.cellsOf 219 = 1 ∧ Tryz.prog.bytesOf 219 = 8 ∧ (Tryz.prog.info? 219).isSome = true ∧ zeroCs Tryz.prog 219 = some [.d (.o .nilFunc)] := ⟨by kernel_rfl, by kernel_rfl, by kernel_rfl, by kernel_rfl⟩
theorem ty220 : Tryz.prog.cellsOf 220 = 1 ∧ Tryz.prog.bytesOf 220 = 8 ∧ (Tryz.prog.info? 220).isSome = true ∧ zeroCs Tryz.prog 220 = some [.d (.o .nilFunc)] := ⟨by kernel_rfl, by kernel_rfl, by kernel_rfl, by kernel_rfl⟩
theorem ty221 : Tryz.prog.cellsOf 221 = 1 ∧ Tryz.prog.bytesOf 221 = 8 ∧ (Tryz.prog.info? 221).isSome = true ∧ zeroCs Tryz.prog 221 = some [.d (.o .nilFunc)] := ⟨by kernel_rfl, by kernel_rfl, by kernel_rfl, by kernel_rfl⟩
theorem ty222 : Tryz.prog.cellsOf 222 = 1 ∧ Tryz.prog.bytesOf 222 = 8 ∧ (Tryz.prog.info? 222).isSome = true ∧ zeroCs Tryz.prog 222 = some [.d (.o .nilFunc)] := ⟨by kernel_rfl, by kernel_rfl, by kernel_rfl, by kernel_rfl⟩
theorem ty223 : Tryz.prog.cellsOf 223 = 1 ∧ Tryz.prog.bytesOf 223 = 8 ∧ (Tryz.prog.info? 223).isSome = true ∧ zeroCs Tryz.prog 223 = some [.d (.o .nilFunc)] := ⟨by kernel_rfl, by kernel_rfl, by kernel_rfl, by kernel_rfl⟩
theorem ty224 : Tryz.prog.cellsOf 224 = 11 ∧ Tryz.prog.bytesOf 224 = 184 ∧ (Tryz.prog.info? 224).isSome = true ∧ zeroCs Tryz.prog 224 = some [.d (.s []), .fsl [], .d (.i .i64 0), .d (.s []), .d (.s []), .d (.i .i64 0), .d (.i .i64 0), .d (.s []), .fsl [], .fsl [], .fsl []] := ⟨by kernel_rfl, by kernel_rfl, by kernel_rfl, by kernel_rfl⟩
theorem ty225 : Tryz.prog.cellsOf 225 = 11 ∧ Tryz.prog.bytesOf 225 = 184 ∧ (Tryz.prog.info? 225).isSome = true ∧ zeroCs Tryz.prog 225 = some [.d (.s []), .fsl [], .d (.i .i64 0), .d (.s []), .d (.s []), .d (.i .i64 0), .d (.i .i64 0), .d (.s []), .fsl [], .fsl [], .fsl []] := ⟨by kernel_rfl, by kernel_rfl, by kernel_rfl, by kernel_rfl⟩
theorem ty226 : Tryz.prog.cellsOf 226 = 1 ∧ Tryz.prog.bytesOf 226 = 8 ∧ (Tryz.prog.info? 226).isSome = true ∧ zeroCs Tryz.prog 226 = some [.d (.o .nilFunc)] := ⟨by kernel_rfl, by kernel_rfl, by kernel_rfl, by kernel_rfl⟩
theorem ty227 : Tryz.prog.cellsOf 227 = 1 ∧ Tryz.prog.bytesOf 227 = 8 ∧ (Tryz.prog.info? 227).isSome = true ∧ zeroCs Tryz.prog 227 = some [.d (.o .nilFunc)] := ⟨by kernel_rfl, by kernel_rfl, by kernel_rfl, by kernel_rfl⟩
theorem ty228 : Tryz.prog.cellsOf 228 = 1 ∧ Tryz.prog.bytesOf 228 = 8 ∧ (Tryz.prog.info? 228).isSome = true ∧ zeroCs Tryz.prog 228 = some [.d (.o .nilFunc)] := ⟨by kernel_rfl, by kernel_rfl, by kernel_rfl, by kernel_rfl⟩
theorem ty229 : Tryz.prog.cellsOf 229 = 1 ∧ Tryz.prog.bytesOf 229 = 8 ∧ (Tryz.prog.info? 229).isSome = true ∧ zeroCs Tryz.prog 229 = some [.d (.o .nilFunc)] := ⟨by kernel_rfl, by kernel_rfl, by kernel_rfl, by kernel_rfl⟩
theorem ty230 : Tryz.prog.cellsOf 230 = 1 ∧ Tryz.prog.bytesOf 230 = 8 ∧ (Tryz.prog.info? 230).isSome = true ∧ zeroCs Tryz.prog 230 = some [.d (.o .nilFunc)] := ⟨by kernel_rfl, by kernel_rfl, by kernel_rfl, by kernel_rfl⟩
theorem ty231 : Tryz.prog.cellsOf 231 = 1 ∧ Tryz.prog.bytesOf 231 = 8 ∧ (Tryz.prog.info? 231).isSome = true ∧ zeroCs Tryz.prog 231 = some [.d (.o (.map none))] := ⟨by kernel_rfl, by kernel_rfl, by kernel_rfl, by kernel_rfl⟩
theorem ty232 : Tryz.prog.cellsOf 232 = 1 ∧ Tryz.prog.bytesOf 232 = 8 ∧ (Tryz.prog.info? 232).isSome = true ∧ zeroCs Tryz.prog 232 = some [.d (.o .nilFunc)] := ⟨by kernel_rfl, by kernel_rfl, by kernel_rfl, by kernel_rfl⟩
theorem ty233 : Tryz.prog.cellsOf 233 = 1 ∧ Tryz.prog.bytesOf 233 = 8 ∧ (Tryz.prog.info? 233).isSome = true ∧ zeroCs Tryz.prog 233 = some [.d (.o .nilFunc)] := ⟨by kernel_rfl, by kernel_rfl, by kernel_rfl, by kernel_rfl⟩
theorem ty234 : Tryz.prog.cellsOf 234 = 1 ∧ Tryz.prog.bytesOf 234 = 8 ∧ (Tryz.prog.info? 234).isSome = true ∧ zeroCs Tryz.prog 234 = some [.d (.o .nilFunc)] := ⟨by kernel_rfl, by kernel_rfl, by kernel_rfl, by kernel_rfl⟩
theorem ty235 : Tryz.prog.cellsOf 235 = 1 ∧ Tryz.prog.bytesOf 235 = 8 ∧ (Tryz.prog.info? 235).isSome = true ∧ zeroCs Tryz.prog 235 = some [.d (.o .nilFunc)] := ⟨by kernel_rfl, by kernel_rfl, by kernel_rfl, by kernel_rfl⟩
theorem ty236 : Tryz.prog.cellsOf 236 = 1 ∧ Tryz.prog.bytesOf 236 = 8 ∧ (Tryz.prog.info? 236).isSome = true ∧ zeroCs Tryz.prog 236 = some [.d (.o .nilFunc)] := ⟨by kernel_rfl, by kernel_rfl, by kernel_rfl, by kernel_rfl⟩
theorem ty237 : Tryz.prog.cellsOf 237 = 1 ∧ Tryz.prog.bytesOf 237 = 8 ∧ (Tryz.prog.info? 237).isSome = true ∧ zeroCs Tryz.prog 237 = some [.d (.o .nilFunc)] := ⟨by kernel_rfl, by kernel_rfl, by kernel_rfl, by kernel_rfl⟩
theorem ty238 : Tryz.prog.cellsOf 238 = 1 ∧ Tryz.prog.bytesOf 238 = 8 ∧ (Tryz.prog.info? 238).isSome = true ∧ zeroCs Tryz.prog 238 = some [.d (.o .nilFunc)] := ⟨by kernel_rfl, by kernel_rfl, by kernel_rfl, by kernel_rfl⟩
theorem ty239 : Tryz.prog.cellsOf 239 = 1 ∧ Tryz.prog.bytesOf 239 = 8 ∧ (Tryz.prog.info? 239).isSome = true ∧ zeroCs Tryz.prog 239 = some [.d (.o .nilFunc)] := ⟨by kernel_rfl, by kernel_rfl, by kernel_rfl, by kernel_rfl⟩
theorem ty240 : Tryz.prog.cellsOf 240 = 1 ∧ Tryz.prog.bytesOf 240 = 8 ∧ (Tryz.prog.info? 240).isSome = true ∧ zeroCs Tryz.prog 240 = some [.d (.o .nilFunc)] := ⟨by kernel_rfl, by kernel_rfl, by kernel_rfl, by kernel_rfl⟩
theorem ty241 : Tryz.prog.cellsOf 241 = 1 ∧ Tryz.prog.bytesOf 241 = 8 ∧ (Tryz.prog.info? 241).isSome = true ∧ zeroCs Tryz.prog 241 = some [.d (.o .nilFunc)] := ⟨by kernel_rfl, by kernel_rfl, by kernel_rfl, by kernel_rfl⟩
theorem ty242 : Tryz.prog.cellsOf 242 = 1 ∧ Tryz.prog.bytesOf 242 = 8 ∧ (Tryz.prog.info? 242).isSome = true ∧ zeroCs Tryz.prog 242 = some [.d (.o .nilFunc)] := ⟨by kernel_rfl, by kernel_rfl, by kernel_rfl, by kernel_rfl⟩
theorem ty243 : Tryz.prog.cellsOf 243 = 1 ∧ Tryz.prog.bytesOf 243 = 8 ∧ (Tryz.prog.info? 243).isSome = true ∧ zeroCs Tryz.prog 243 = some [.d (.o .nilFunc)] := ⟨by kernel_rfl, by kernel_rfl, by kernel_rfl, by kernel_rfl⟩
theorem ty244 : Tryz.prog.cellsOf 244 = 1 ∧ Tryz.prog.bytesOf 244 = 8 ∧ (Tryz.prog.info? 244).isSome = true ∧ zeroCs Tryz.prog 244 = some [.d (.o .nilFunc)] := ⟨by kernel_rfl, by kernel_rfl, by kernel_rfl, by kernel_rfl⟩
theorem ty245 : Tryz.prog.cellsOf 245 = 4 ∧ Tryz.prog.bytesOf 245 = 64 ∧ (Tryz.prog.info? 245).isSome = true ∧ zeroCs Tryz.prog 245 = some [.d (.s []), .d (.i .i64 0), .d (.s []), .fsl []] := ⟨by kernel_rfl, by kernel_rfl, by kernel_rfl, by kernel_rfl⟩
theorem ty246 : Tryz.prog.cellsOf 246 = 4 ∧ Tryz.prog.bytesOf 246 = 64 ∧ (Tryz.prog.info? 246).isSome = true ∧ zeroCs Tryz.prog 246 = some [.d (.s []), .d (.i .i64 0), .d (.s []), .fsl []] := ⟨by kernel_rfl, by kernel_rfl, by kernel_rfl, by kernel_rfl⟩
theorem ty247 : Tryz.prog.cellsOf 247 = 1 ∧ Tryz.prog.bytesOf 247 = 8 ∧ (Tryz.prog.info? 247).isSome = true ∧ zeroCs Tryz.prog 247 = some [.d (.o .nilFunc)] := ⟨by kernel_rfl, by kernel_rfl, by kernel_rfl, by kernel_rfl⟩
theorem ty248 : Tryz.prog.cellsOf 248 = 1 ∧ Tryz.prog.bytesOf 248 = 8 ∧ (Tryz.prog.info? 248).isSome = true ∧ zeroCs Tryz.prog 248 = some [.d (.o .nilFunc)] := ⟨by kernel_rfl, by kernel_rfl, by kernel_rfl, by kernel_rfl⟩
theorem ty249 : Tryz.prog.cellsOf 249 = 1 ∧ Tryz.prog.bytesOf 249 = 8 ∧ (Tryz.prog.info? 249).isSome = true ∧ zeroCs Tryz.prog 249 = some [.d (.o .nilFunc)] := ⟨by kernel_rfl, by kernel_rfl, by kernel_rfl, by kernel_rfl⟩
theorem ty251 : Tryz.prog.cellsOf 251 = 1 ∧ Tryz.prog.bytesOf 251 = 8 ∧ (Tryz.prog.info? 251).isSome = true ∧ zeroCs Tryz.prog 251 = some [.d (.o .nilFunc)] := ⟨by kernel_rfl, by kernel_rfl, by kernel_rfl, by kernel_rfl⟩
theorem ty253 : Tryz.prog.cellsOf 253 = 1 ∧ Tryz.prog.bytesOf 253 = 8 ∧ (Tryz.prog.info? 253).isSome = true ∧ zeroCs Tryz.prog 253 = some [.d (.o .nilFunc)] := ⟨by kernel_rfl, by kernel_rfl, by kernel_rfl, by kernel_rfl⟩
theorem ty254 : Tryz.prog.cellsOf 254 = 1 ∧ Tryz.prog.bytesOf 254 = 8 ∧ (Tryz.prog.info? 254).isSome = true ∧ zeroCs Tryz.prog 254 = some [.d (.o .nilFunc)] := ⟨by kernel_rfl, by kernel_rfl, by kernel_rfl, by kernel_rfl⟩
theorem ty256 : Tryz.prog.cellsOf 256 = 1 ∧ Tryz.prog.bytesOf 256 = 8 ∧ (Tryz.prog.info? 256).isSome = true ∧ zeroCs Tryz.prog 256 = some [.d (.o .nilFunc)] := ⟨by kernel_rfl, by kernel_rfl, by kernel_rfl, by kernel_rfl⟩
theorem ty257 : Tryz.prog.cellsOf 257 = 1 ∧ Tryz.prog.bytesOf 257 = 8 ∧ (Tryz.prog.info? 257).isSome = true ∧ zeroCs Tryz.prog 257 = some [.d (.o .nilFunc)] := ⟨by kernel_rfl, by kernel_rfl, by kernel_rfl, by kernel_rfl⟩
theorem ty258 : Tryz.prog.cellsOf 258 = 1 ∧ Tryz.prog.bytesOf 258 = 8 ∧ (Tryz.prog.info? 258).isSome = true ∧ zeroCs Tryz.prog 258 = some [.d (.o .nilFunc)] := ⟨by kernel_rfl, by kernel_rfl, by kernel_rfl, by kernel_rfl⟩
theorem ty259 : Tryz.prog.cellsOf 259 = 1 ∧ Tryz.prog.bytesOf 259 = 8 ∧ (Tryz.prog.info? 259).isSome = true ∧ zeroCs Tryz.prog 259 = some [.d (.o .nilFunc)] := ⟨by kernel_rfl, by kernel_rfl, by kernel_rfl, by kernel_rfl⟩
theorem ty260 : Tryz.prog.cellsOf 260 = 1 ∧ Tryz.prog.bytesOf 260 = 8 ∧ (Tryz.prog.info? 260).isSome = true ∧ zeroCs Tryz.prog 260 = some [.d (.o .nilFunc)] := ⟨by kernel_rfl, by kernel_rfl, by kernel_rfl, by kernel_rfl⟩
theorem ty261 : Tryz.prog.cellsOf 261 = 1 ∧ Tryz.prog.bytesOf 261 = 8 ∧ (Tryz.prog.info? 261).isSome = true ∧ zeroCs Tryz.prog 261 = some [.d (.o .nilFunc)] := ⟨by kernel_rfl, by kernel_rfl, by kernel_rfl, by kernel_rfl⟩
theorem ty262 : Tryz.prog.cellsOf 262 = 1 ∧ Tryz.prog.bytesOf 262 = 8 ∧ (Tryz.prog.info? 262).isSome = true ∧ zeroCs Tryz.prog 262 = some [.d (.o .nilFunc)] := ⟨by kernel_rfl, by kernel_rfl, by kernel_rfl, by kernel_rfl⟩
theorem ty263 : Tryz.prog.cellsOf 263 = 1 ∧ Tryz.prog.bytesOf 263 = 8 ∧ (Tryz.prog.info? 263).isSome = true ∧ zeroCs Tryz.prog 263 = some [.d (.o .nilFunc)] := ⟨by kernel_rfl, by kernel_rfl, by kernel_rfl, by kernel_rfl⟩
theorem ty264 : Tryz.prog.cellsOf 264 = 1 ∧ Tryz.prog.bytesOf 264 = 8 ∧ (Tryz.prog.info? 264).isSome = true ∧ zeroCs Tryz.prog 264 = some [.d (.o .nilFunc)] := ⟨by kernel_rfl, by kernel_rfl, by kernel_rfl, by kernel_rfl⟩
theorem ty265 : Tryz.prog.cellsOf 265 = 1 ∧ Tryz.prog.bytesOf 265 = 8 ∧ (Tryz.prog.info? 265).isSome = true ∧ zeroCs Tryz.prog 265 = some [.d (.o .nilFunc)] := ⟨by kernel_rfl, by kernel_rfl, by kernel_rfl, by kernel_rfl⟩
theorem ty266 : Tryz.prog.cellsOf 266 = 4 ∧ Tryz.prog.bytesOf 266 = 64 ∧ (Tryz.prog.info? 266).isSome = true ∧ zeroCs Tryz.prog 266 = some [.d (.s []), .d (.i .i64 0), .d (.s []), .fsl []] := ⟨by kernel_rfl, by kernel_rfl, by kernel_rfl, by kernel_rfl⟩
theorem ty267 : Tryz.prog.cellsOf 267 = 4 ∧ Tryz.prog.bytesOf 267 = 64 ∧ (Tryz.prog.info? 267).isSome = true ∧ zeroCs Tryz.prog 267 = some [.d (.s []), .d (.i .i64 0), .d (.s []), .fsl []] := ⟨by kernel_rfl, by kernel_rfl, by kernel_rfl, by kernel_rfl⟩
theorem ty268 : Tryz.prog.cellsOf 268 = 1 ∧ Tryz.prog.bytesOf 268 = 8 ∧ (Tryz.prog.info? 268).isSome = true ∧ zeroCs Tryz.prog 268 = some [.d (.o .nilFunc)] := ⟨by kernel_rfl, by kernel_rfl, by kernel_rfl, by kernel_rfl⟩
theorem ty269 : Tryz.prog.cellsOf 269 = 1 ∧ Tryz.prog.bytesOf 269 = 8 ∧ (Tryz.prog.info? 269).isSome = true ∧ zeroCs Tryz.prog 269 = some [.d (.o .nilFunc)] := ⟨by kernel_rfl, by kernel_rfl, by kernel_rfl, by kernel_rfl⟩
theorem ty270 : Tryz.prog.cellsOf 270 = 1 ∧ Tryz.prog.bytesOf 270 = 8 ∧ (Tryz.prog.info? 270).isSome = true ∧ zeroCs Tryz.prog 270 = some [.d (.o .nilFunc)] := ⟨by kernel_rfl, by kernel_rfl, by kernel_rfl, by kernel_rfl⟩
theorem ty271 : Tryz.prog.cellsOf 271 = 1 ∧ Tryz.prog.bytesOf 271 = 8 ∧ (Tryz.prog.info? 271).isSome = true ∧ zeroCs Tryz.prog 271 = some [.d (.o .nilFunc)] := ⟨by kernel_rfl, by kernel_rfl, by kernel_rfl, by kernel_rfl⟩
theorem ty272 : Tryz.prog.cellsOf 272 = 1 ∧ Tryz.prog.bytesOf 272 = 8 ∧ (Tryz.prog.info? 272).isSome = true ∧ zeroCs Tryz.prog 272 = some [.d (.o .nilFunc)] := ⟨by kernel_rfl, by kernel_rfl, by kernel_rfl, by kernel_rfl⟩
theorem ty273 : Tryz.prog.cellsOf 273 = 1 ∧ Tryz.prog.bytesOf 273 = 8 ∧ (Tryz.prog.info? 273).isSome = true ∧ zeroCs Tryz.prog 273 = some [.d (.o .nilFunc)] := ⟨by kernel_rfl, by kernel_rfl, by kernel_rfl, by kernel_rfl⟩
theorem ty274 : Tryz.prog.cellsOf 274 = 1 ∧ Tryz.prog.bytesOf 274 = 8 ∧ (Tryz.prog.info? 274).isSome = true ∧ zeroCs Tryz.prog 274 = some [.d (.o .nilFunc)] := ⟨by kernel_rfl, by kernel_rfl, by kernel_rfl, by kernel_rfl⟩
theorem ty275 : Tryz.prog.cellsOf 275 = 1 ∧ Tryz.prog.bytesOf 275 = 8 ∧ (Tryz.prog.info? 275).isSome = true ∧ zeroCs Tryz.prog 275 = some [.d (.o .nilFunc)] := ⟨by kernel_rfl, by kernel_rfl, by kernel_rfl, by kernel_rfl⟩
theorem ty276 : Tryz.prog.cellsOf 276 = 1 ∧ Tryz.prog.bytesOf 276 = 8 ∧ (Tryz.prog.info? 276).isSome = true ∧ zeroCs Tryz.prog 276 = some [.d (.o .nilFunc)] := ⟨by kernel_rfl, by kernel_rfl, by kernel_rfl, by kernel_rfl⟩
theorem ty277 : Tryz.prog.cellsOf 277 = 1 ∧ Tryz.prog.bytesOf 277 = 8 ∧ (Tryz.prog.info? 277).isSome = true ∧ zeroCs Tryz.prog 277 = some [.d (.o .nilFunc)] := ⟨by kernel_rfl, by kernel_rfl, by kernel_rfl, by kernel_rfl⟩
theorem ty278 : Tryz.prog.cellsOf 278 = 1 ∧ Tryz.prog.bytesOf 278 = 8 ∧ (Tryz.prog.info? 278).isSome = true ∧ zeroCs Tryz.prog 278 = some [.d (.o .nilFunc)] := ⟨by kernel_rfl, by kernel_rfl, by kernel_rfl, by kernel_rfl⟩
theorem ty279 : Tryz.prog.cellsOf 279 = 1 ∧ Tryz.prog.bytesOf 279 = 8 ∧ (Tryz.prog.info? 279).isSome = true ∧ zeroCs Tryz.prog 279 = some [.d (.o .nilFunc)] := ⟨by kernel_rfl, by kernel_rfl, by kernel_rfl, by kernel_rfl⟩
theorem ty280 : Tryz.prog.cellsOf 280 = 1 ∧ Tryz.prog.bytesOf 280 = 8 ∧ (Tryz.prog.info? 280).isSome = true ∧ zeroCs Tryz.prog 280 = some [.d (.o .nilFunc)] := ⟨by kernel_rfl, by kernel_rfl, by kernel_rfl, by kernel_rfl⟩
theorem ty281 : Tryz.prog.cellsOf 281 = 1 ∧ Tryz.prog.bytesOf 281 = 8 ∧ (Tryz.prog.info? 281).isSome = true ∧ zeroCs Tryz.prog 281 = some [.d (.o .nilFunc)] := ⟨by kernel_rfl, by kernel_rfl, by kernel_rfl, by kernel_rfl⟩
theorem ty282 : Tryz.prog.cellsOf 282 = 1 ∧ Tryz.prog.bytesOf 282 = 8 ∧ (Tryz.prog.info? 282).isSome = true ∧ zeroCs Tryz.prog 282 = some [.d (.o .nilFunc)] := ⟨by kernel_rfl, by kernel_rfl, by kernel_rfl, by kernel_rfl⟩
theorem ty283 : Tryz.prog.cellsOf 283 = 1 ∧ Tryz.prog.bytesOf 283 = 8 ∧ (Tryz.prog.info? 283).isSome = true ∧ zeroCs Tryz.prog 283 = some [.d (.o .nilFunc)] := ⟨by kernel_rfl, by kernel_rfl, by kernel_rfl, by kernel_rfl⟩
theorem ty284 : Tryz.prog.cellsOf 284 = 1 ∧ Tryz.prog.bytesOf 284 = 24 ∧ (Tryz.prog.info? 284).isSome = true ∧ zeroCs Tryz.prog 284 = some [.fsl []] := ⟨by kernel_rfl, by kernel_rfl, by kernel_rfl, by kernel_rfl⟩
theorem ty285 : Tryz.prog.cellsOf 285 = 1 ∧ Tryz.prog.bytesOf 285 = 8 ∧ (Tryz.prog.info? 285).isSome = true ∧ zeroCs Tryz.prog 285 = some [.d (.o .nilFunc)] := ⟨by kernel_rfl, by kernel_rfl, by kernel_rfl, by kernel_rfl⟩
theorem ty286 : Tryz.prog.cellsOf 286 = 1 ∧ Tryz.prog.bytesOf 286 = 8 ∧ (Tryz.prog.info? 286).isSome = true ∧ zeroCs Tryz.prog 286 = some [.d (.o .nilFunc)] := ⟨by kernel_rfl, by kernel_rfl, by kernel_rfl, by kernel_rfl⟩
theorem ty287 : Tryz.prog.cellsOf 287 = 1 ∧ Tryz.prog.bytesOf 287 = 8 ∧ (Tryz.prog.info? 287).isSome = true ∧ zeroCs Tryz.prog 287 = some [.d (.o .nilFunc)] := ⟨by kernel_rfl, by kernel_rfl, by kernel_rfl, by kernel_rfl⟩
theorem ty289 : Tryz.prog.cellsOf 289 = 1 ∧ Tryz.prog.bytesOf 289 = 8 ∧ (Tryz.prog.info? 289).isSome = true ∧ zeroCs Tryz.prog 289 = some [.d (.o .nilFunc)] := ⟨by kernel_rfl, by kernel_rfl, by kernel_rfl, by kernel_rfl⟩
theorem ty290 : Tryz.prog.cellsOf 290 = 1 ∧ Tryz.prog.bytesOf 290 = 8 ∧ (Tryz.prog.info? 290).isSome = true ∧ zeroCs Tryz.prog 290 = some [.d (.o .nilFunc)] := ⟨by kernel_rfl, by kernel_rfl, by kernel_rfl, by kernel_rfl⟩
theorem ty291 : Tryz.prog.cellsOf 291 = 1 ∧ Tryz.prog.bytesOf 291 = 8 ∧ (Tryz.prog.info? 291).isSome = true ∧ zeroCs Tryz.prog 291 = some [.d (.o .nilFunc)] := ⟨by kernel_rfl, by kernel_rfl, by kernel_rfl, by kernel_rfl⟩
theorem ty292 : Tryz.prog.cellsOf 292 = 1 ∧ Tryz.prog.bytesOf 292 = 8 ∧ (Tryz.prog.info? 292).isSome = true ∧ zeroCs Tryz.prog 292 = some [.d (.o .nilFunc)] := ⟨by kernel_rfl, by kernel_rfl, by kernel_rfl, by kernel_rfl⟩
theorem ty293 : Tryz.prog.cellsOf 293 = 1 ∧ Tryz.prog.bytesOf 293 = 8 ∧ (Tryz.prog.info? 293).isSome = true ∧ zeroCs Tryz.prog 293 = some [.d (.o .nilFunc)] := ⟨by kernel_rfl, by kernel_rfl, by kernel_rfl, by kernel_rfl⟩
theorem ty294 : Tryz.prog.cellsOf 294 = 1 ∧ Tryz.prog.bytesOf 294 = 8 ∧ (Tryz.prog.info? 294).isSome = true ∧ zeroCs Tryz.prog 294 = some [.d (.o .nilFunc)] := ⟨by kernel_rfl, by kernel_rfl, by kernel_rfl, by kernel_rfl⟩
theorem ty295 : Tryz.prog.cellsOf 295 = 1 ∧ Tryz.prog.bytesOf 295 = 8 ∧ (Tryz.prog.info? 295).isSome = true ∧ zeroCs Tryz.prog 295 = some [.d (.o .nilFunc)] := ⟨by kernel_rfl, by kernel_rfl, by kernel_rfl, by kernel_rfl⟩
theorem ty296 : Tryz.prog.cellsOf 296 = 16 ∧ Tryz.prog.bytesOf 296 = 264 ∧ (Tryz.prog.info? 296).isSome = true ∧ zeroCs Tryz.prog 296 = some [.d (.s []), .fsl [], .d (.i .i64 0), .d (.s []), .fsl [], .d (.b false), .fsl [], .d (.i .i64 0), .d (.s []), .d (.s []), .d (.i .i64 0), .d (.i .i64 0), .d (.s []), .fsl [], .fsl [], .fsl []] := ⟨by kernel_rfl, by kernel_rfl, by kernel_rfl, by kernel_rfl⟩
theorem ty297 : Tryz.prog.cellsOf 297 = 16 ∧ Tryz.prog.bytesOf 297 = 264 ∧ (Tryz.prog.info? 297).isSome = true ∧ zeroCs Tryz.prog 297 = some [.d (.s []), .fsl [], .d (.i .i64 0), .d (.s []), .fsl [], .d (.b false), .fsl [], .d (.i .i64 0), .d (.s []), .d (.s []), .d (.i .i64 0), .d (.i .i64 0), .d (.s []), .fsl [], .fsl [], .fsl []] := ⟨by kernel_rfl, by kernel_rfl, by kernel_rfl, by kernel_rfl⟩
theorem ty298 : Tryz.prog.cellsOf 298 = 1 ∧ Tryz.prog.bytesOf 298 = 8 ∧ (Tryz.prog.info? 298).isSome = true ∧ zeroCs Tryz.prog 298 = some [.d (.o .nilFunc)] := ⟨by kernel_rfl, by kernel_rfl, by kernel_rfl, by kernel_rfl⟩
theorem ty299 : Tryz.prog.cellsOf 299 = 2 ∧ Tryz.prog.bytesOf 299 = 40 ∧ (Tryz.prog.info? 299).isSome = true ∧ zeroCs Tryz.prog 299 = some [.d (.s []), .fsl []] := ⟨by kernel_rfl, by kernel_rfl, by kernel_rfl, by kernel_rfl⟩
theorem ty300 : Tryz.prog.cellsOf 300 = 2 ∧ Tryz.prog.bytesOf 300 = 40 ∧ (Tryz.prog.info? 300).isSome = true ∧ zeroCs Tryz.prog 300 = some [.d (.s []), .fsl []] := ⟨by kernel_rfl, by kernel_rfl, by kernel_rfl, by kernel_rfl⟩
theorem ty301 : Tryz.prog.cellsOf 301 = 1 ∧ Tryz.prog.bytesOf 301 = 8 ∧ (Tryz.prog.info? 301).isSome = true ∧ zeroCs Tryz.prog 301 = some [.d (.o .nilFunc)] := ⟨by kernel_rfl, by kernel_rfl, by kernel_rfl, by kernel_rfl⟩
theorem ty302 : Tryz.prog.cellsOf 302 = 4 ∧ Tryz.prog.bytesOf 302 = 64 ∧ (Tryz.prog.info? 302).isSome = true ∧ zeroCs Tryz.prog 302 = some [.d (.s []), .d (.i .i64 0), .d (.s []), .fsl []] := ⟨by kernel_rfl, by kernel_rfl, by kernel_rfl, by kernel_rfl⟩
theorem ty303 : Tryz.prog.cellsOf 303 = 4 ∧ Tryz.prog.bytesOf 303 = 64 ∧ (Tryz.prog.info? 303).isSome = true ∧ zeroCs Tryz.prog 303 = some [.d (.s []), .d (.i .i64 0), .d (.s []), .fsl []] := ⟨by kernel_rfl, by kernel_rfl, by kernel_rfl, by kernel_rfl⟩
theorem ty304 : Tryz.prog.cellsOf 304 = 1 ∧ Tryz.prog.bytesOf 304 = 8 ∧ (Tryz.prog.info? 304).isSome = true ∧ zeroCs Tryz.prog 304 = some [.d (.o .nilFunc)] := ⟨by kernel_rfl, by kernel_rfl, by kernel_rfl, by kernel_rfl⟩
theorem ty305 : Tryz.prog.cellsOf 305 = 11 ∧ Tryz.prog.bytesOf 305 = 184 ∧ (Tryz.prog.info? 305).isSome = true ∧ zeroCs Tryz.prog 305 = some [.d (.s []), .fsl [], .d (.i .i64 0), .d (.s []), .d (.s []), .d (.i .i64 0), .d (.i .i64 0), .d (.s []), .fsl [], .fsl [], .fsl []] := ⟨by kernel_rfl, by kernel_rfl, by kernel_rfl, by kernel_rfl⟩
theorem ty306 : Tryz.prog.cellsOf 306 = 11 ∧ Tryz.prog.bytesOf 306 = 184 ∧ (Tryz.prog.info? 306).isSome = true ∧ zeroCs Tryz.prog 306 = some [.d (.s []), .fsl [], .d (.i .i64 0), .d (.s []), .d (.s []), .d (.i .i64 0), .d (.i .i64 0), .d (.s []), .fsl [], .fsl [], .fsl []] := ⟨by kernel_rfl, by kernel_rfl, by kernel_rfl, by kernel_rfl⟩
theorem ty307 : Tryz.prog.cellsOf 307 = 1 ∧ Tryz.prog.bytesOf 307 = 8 ∧ (Tryz.prog.info? 307).isSome = true ∧ zeroCs Tryz.prog 307 = some [.d (.o .nilFunc)] := ⟨by kernel_rfl, by kernel_rfl, by kernel_rfl, by kernel_rfl⟩
theorem ty308 : Tryz.prog.cellsOf 308 = 4 ∧ Tryz.prog.bytesOf 308 = 64 ∧ (Tryz.prog.info? 308).isSome = true ∧ zeroCs Tryz.prog 308 = some [.d (.s []), .d (.i .i64 0), .d (.s []), .fsl []] := ⟨by kernel_rfl, by kernel_rfl, by kernel_rfl, by kernel_rfl⟩
theorem ty309 : Tryz.prog.cellsOf 309 = 4 ∧ Tryz.prog.bytesOf 309 = 64 ∧ (Tryz.prog.info? 309).isSome = true ∧ zeroCs Tryz.prog 309 = some [.d (.s []), .d (.i .i64 0), .d (.s []), .fsl []] := ⟨by kernel_rfl, by kernel_rfl, by kernel_rfl, by kernel_rfl⟩
theorem ty310 : Tryz.prog.cellsOf 310 = 1 ∧ Tryz.prog.bytesOf 310 = 8 ∧ (Tryz.prog.info? 310).isSome = true ∧ zeroCs Tryz.prog 310 = some [.d (.o .nilFunc)] := ⟨by kernel_rfl, by kernel_rfl, by kernel_rfl, by kernel_rfl⟩
theorem ty311 : Tryz.prog.cellsOf 311 = 1 ∧ Tryz.prog.bytesOf 311 = 8 ∧ (Tryz.prog.info? 311).isSome = true ∧ zeroCs Tryz.prog 311 = some [.d (.o .nilFunc)] := ⟨by kernel_rfl, by kernel_rfl, by kernel_rfl, by kernel_rfl⟩
theorem ty312 : Tryz.prog.cellsOf 312 = 1 ∧ Tryz.prog.bytesOf 312 = 8 ∧ (Tryz.prog.info? 312).isSome = true ∧ zeroCs Tryz.prog 312 = some [.d (.o .nilFunc)] := ⟨by kernel_rfl, by kernel_rfl, by kernel_rfl, by kernel_rfl⟩
theorem ty313 : Tryz.prog.cellsOf 313 = 1 ∧ Tryz.prog.bytesOf 313 = 8 ∧ (Tryz.prog.info? 313).isSome = true ∧ zeroCs Tryz.prog 313 = some [.d (.o .nilFunc)] := ⟨by kernel_rfl, by kernel_rfl, by kernel_rfl, by kernel_rfl⟩
theorem ty314 : Tryz.prog.cellsOf 314 = 1 ∧ Tryz.prog.bytesOf 314 = 8 ∧ (Tryz.prog.info? 314).isSome = true ∧ zeroCs Tryz.prog 314 = some [.d (.o .nilFunc)] := ⟨by kernel_rfl, by kernel_rfl, by kernel_rfl, by kernel_rfl⟩
theorem ty315 : Tryz.prog.cellsOf 315 = 1 ∧ Tryz.prog.bytesOf 315 = 8 ∧ (Tryz.prog.info? 315).isSome = true ∧ zeroCs Tryz.prog 315 = some [.d (.o .nilFunc)] := ⟨by kernel_rfl, by kernel_rfl, by kernel_rfl, by kernel_rfl⟩
theorem ty316 : Tryz.prog.cellsOf 316 = 1 ∧ Tryz.prog.bytesOf 316 = 8 ∧ (Tryz.prog.info? 316).isSome = true ∧ zeroCs Tryz.prog 316 = some [.d (.o .nilFunc)] := ⟨by kernel_rfl, by kernel_rfl, by kernel_rfl, by kernel_rfl⟩
theorem ty317 : Tryz.prog.cellsOf 317 = 1 ∧ Tryz.prog.bytesOf 317 = 8 ∧ (Tryz.prog.info? 317).isSome = true ∧ zeroCs Tryz.prog 317 = some [.d (.o .nilFunc)] := ⟨by kernel_rfl, by kernel_rfl, by kernel_rfl, by kernel_rfl⟩
theorem ty318 : Tryz.prog.cellsOf 318 = 1 ∧ Tryz.prog.bytesOf 318 = 8 ∧ (Tryz.prog.info? 318).isSome = true ∧ zeroCs Tryz.prog 318 = some [.d (.o .nilFunc)] := ⟨by kernel_rfl, by kernel_rfl, by kernel_rfl, by kernel_rfl⟩
theorem ty319 : Tryz.prog.cellsOf 319 = 1 ∧ Tryz.prog.bytesOf 319 = 8 ∧ (Tryz.prog.info? 319).isSome = true ∧ zeroCs Tryz.prog 319 = some [.d (.o .nilFunc)] := ⟨by kernel_rfl, by kernel_rfl, by kernel_rfl, by kernel_rfl⟩
theorem ty320 : Tryz.prog.cellsOf 320 = 1 ∧ Tryz.prog.bytesOf 320 = 8 ∧ (Tryz.prog.info? 320).isSome = true ∧ zeroCs Tryz.prog 320 = some [.d (.o .nilFunc)] := ⟨by kernel_rfl, by kernel_rfl, by kernel_rfl, by kernel_rfl⟩
theorem ty321 : Tryz.prog.cellsOf 321 = 1 ∧ Tryz.prog.bytesOf 321 = 8 ∧ (Tryz.prog.info? 321).isSome = true ∧ zeroCs Tryz.prog 321 = some [.d (.o .nilFunc)] := ⟨by kernel_rfl, by kernel_rfl, by kernel_rfl, by kernel_rfl⟩
theorem ty322 : Tryz.prog.cellsOf 322 = 1 ∧ Tryz.prog.bytesOf 322 = 8 ∧ (Tryz.prog.info? 322).isSome = true ∧ zeroCs Tryz.prog 322 = some [.d (.o .nilFunc)] := ⟨by kernel_rfl, by kernel_rfl, by kernel_rfl, by kernel_rfl⟩
theorem ty323 : Tryz.prog.cellsOf 323 = 1 ∧ Tryz.prog.bytesOf 323 = 8 ∧ (Tryz.prog.info? 323).isSome = true ∧ zeroCs Tryz.prog 323 = some [.d (.o .nilFunc)] := ⟨by kernel_rfl, by kernel_rfl, by kernel_rfl, by kernel_rfl⟩
theorem ty324 : Tryz.prog.cellsOf 324 = 1 ∧ Tryz.prog.bytesOf 324 = 8 ∧ (Tryz.prog.info? 324).isSome = true ∧ zeroCs Tryz.prog 324 = some [.d (.o .nilFunc)] := ⟨by kernel_rfl, by kernel_rfl, by kernel_rfl, by kernel_rfl⟩
theorem ty325 : Tryz.prog.cellsOf 325 = 1 ∧ Tryz.prog.bytesOf 325 = 8 ∧ (Tryz.prog.info? 325).isSome = true ∧ zeroCs Tryz.prog 325 = some [.d (.o .nilFunc)] := ⟨by kernel_rfl, by kernel_rfl, by kernel_rfl, by kernel_rfl⟩
theorem ty326 : Tryz.prog.cellsOf 326 = 1 ∧ Tryz.prog.bytesOf 326 = 8 ∧ (Tryz.prog.info? 326).isSome = true ∧ zeroCs Tryz.prog 326 = some [.d (.o .nilFunc)] := ⟨by kernel_rfl, by kernel_rfl, by kernel_rfl, by kernel_rfl⟩
theorem ty327 : Tryz.prog.cellsOf 327 = 1 ∧ Tryz.prog.bytesOf 327 = 8 ∧ (Tryz.prog.info? 327).isSome = true ∧ zeroCs Tryz.prog 327 = some [.d (.o .nilFunc)] := ⟨by kernel_rfl, by kernel_rfl, by kernel_rfl, by kernel_rfl⟩
theorem ty328 : Tryz.prog.cellsOf 328 = 1 ∧ Tryz.prog.bytesOf 328 = 8 ∧ (Tryz.prog.info? 328).isSome = true ∧ zeroCs Tryz.prog 328 = some [.d (.o .nilFunc)] := ⟨by kernel_rfl, by kernel_rfl, by kernel_rfl, by kernel_rfl⟩
theorem ty329 : Tryz.prog.cellsOf 329 = 1 ∧ Tryz.prog.bytesOf 329 = 8 ∧ (Tryz.prog.info? 329).isSome = true ∧ zeroCs Tryz.prog 329 = some [.d (.o .nilFunc)] := ⟨by kernel_rfl, by kernel_rfl, by kernel_rfl, by kernel_rfl⟩
theorem ty330 : Tryz.prog.cellsOf 330 = 1 ∧ Tryz.prog.bytesOf 330 = 8 ∧ (Tryz.prog.info? 330).isSome = true ∧ zeroCs Tryz.prog 330 = some [.d (.o .nilFunc)] := ⟨by kernel_rfl, by kernel_rfl, by kernel_rfl, by kernel_rfl⟩
theorem ty331 : Tryz.prog.cellsOf 331 = 1 ∧ Tryz.prog.bytesOf 331 = 8 ∧ (Tryz.prog.info? 331).isSome = true ∧ zeroCs Tryz.prog 331 = some [.d (.o .nilFunc)] := ⟨by kernel_rfl, by kernel_rfl, by kernel_rfl, by kernel_rfl⟩
theorem ty332 : Tryz.prog.cellsOf 332 = 1 ∧ Tryz.prog.bytesOf 332 = 8 ∧ (Tryz.prog.info? 332).isSome = true ∧ zeroCs Tryz.prog 332 = some [.d (.o .nilFunc)] := ⟨by kernel_rfl, by kernel_rfl, by kernel_rfl, by kernel_rfl⟩
theorem ty333 : Tryz.prog.cellsOf 333 = 1 ∧ Tryz.prog.bytesOf 333 = 8 ∧ (Tryz.prog.info? 333).isSome = true ∧ zeroCs Tryz.prog 333 = some [.d (.o .nilFunc)] := ⟨by kernel_rfl, by kernel_rfl, by kernel_rfl, by kernel_rfl⟩
theorem ty334 : Tryz.prog.cellsOf 334 = 1 ∧ Tryz.prog.bytesOf 334 = 8 ∧ (Tryz.prog.info? 334).isSome = true ∧ zeroCs Tryz.prog 334 = some [.d (.o .nilFunc)] := ⟨by kernel_rfl, by kernel_rfl, by kernel_rfl, by kernel_rfl⟩
theorem ty336 : Tryz.prog.cellsOf 336 = 1 ∧ Tryz.prog.bytesOf 336 = 8 ∧ (Tryz.prog.info? 336).isSome = true ∧ zeroCs Tryz.prog 336 = some [.d (.o .nilFunc)] := ⟨by kernel_rfl, by kernel_rfl, by kernel_rfl, by kernel_rfl⟩
theorem ty337 : Tryz.prog.cellsOf 337 = 1 ∧ Tryz.prog.bytesOf 337 = 8 ∧ (Tryz.prog.info? 337).isSome = true ∧ zeroCs Tryz.prog 337 = some [.d (.o .nilFunc)] := ⟨by kernel_rfl, by kernel_rfl, by kernel_rfl, by kernel_rfl⟩
theorem ty339 : Tryz.prog.cellsOf 339 = 1 ∧ Tryz.prog.bytesOf 339 = 8 ∧ (Tryz.prog.info? 339).isSome = true ∧ zeroCs Tryz.prog 339 = some [.d (.o .nilFunc)] := ⟨by kernel_rfl, by kernel_rfl, by kernel_rfl, by kernel_rfl⟩
theorem ty340 : Tryz.prog.cellsOf 340 = 1 ∧ Tryz.prog.bytesOf 340 = 8 ∧ (Tryz.prog.info? 340).isSome = true ∧ zeroCs Tryz.prog 340 = some [.d (.o .nilFunc)] := ⟨by kernel_rfl, by kernel_rfl, by kernel_rfl, by kernel_rfl⟩
theorem ty341 : Tryz.prog.cellsOf 341 = 1 ∧ Tryz.prog.bytesOf 341 = 24 ∧ (Tryz.prog.info? 341).isSome = true ∧ zeroCs Tryz.prog 341 = some [.fsl []] := ⟨by kernel_rfl, by kernel_rfl, by kernel_rfl, by kernel_rfl⟩
theorem ty342 : Tryz.prog.cellsOf 342 = 1 ∧ Tryz.prog.bytesOf 342 = 8 ∧ (Tryz.prog.info? 342).isSome = true ∧ zeroCs Tryz.prog 342 = some [.d (.o .nilFunc)] := ⟨by kernel_rfl, by kernel_rfl, by kernel_rfl, by kernel_rfl⟩
theorem ty343 : Tryz.prog.cellsOf 343 = 1 ∧ Tryz.prog.bytesOf 343 = 8 ∧ (Tryz.prog.info? 343).isSome = true ∧ zeroCs Tryz.prog 343 = some [.d (.o .nilFunc)] := ⟨by kernel_rfl, by kernel_rfl, by kernel_rfl, by kernel_rfl⟩
theorem ty344 : Tryz.prog.cellsOf 344 = 1 ∧ Tryz.prog.bytesOf 344 = 8 ∧ (Tryz.prog.info? 344).isSome = true ∧ zeroCs Tryz.prog 344 = some [.d (.o .nilFunc)] := ⟨by kernel_rfl, by kernel_rfl, by kernel_rfl, by kernel_rfl⟩
theorem ty345 : Tryz.prog.cellsOf 345 = 1 ∧ Tryz.prog.bytesOf 345 = 8 ∧ (Tryz.prog.info? 345).isSome = true ∧ zeroCs Tryz.prog 345 = some [.d (.o .nilFunc)] := ⟨by kernel_rfl, by kernel_rfl, by kernel_rfl, by kernel_rfl⟩
theorem ty346 : Tryz.prog.cellsOf 346 = 1 ∧ Tryz.prog.bytesOf 346 = 8 ∧ (Tryz.prog.info? 346).isSome = true ∧ zeroCs Tryz.prog 346 = some [.d (.o .nilFunc)] := ⟨by kernel_rfl, by kernel_rfl, by kernel_rfl, by kernel_rfl⟩
theorem ty347 : Tryz.prog.cellsOf 347 = 1 ∧ Tryz.prog.bytesOf 347 = 8 ∧ (Tryz.prog.info? 347).isSome = true ∧ zeroCs Tryz.prog 347 = some [.d (.i .u64 0)] := ⟨by kernel_rfl, by kernel_rfl, by kernel_rfl, by kernel_rfl⟩
theorem ty348 : Tryz.prog.cellsOf 348 = 1 ∧ Tryz.prog.bytesOf 348 = 4 ∧ (Tryz.prog.info? 348).isSome = true ∧ zeroCs Tryz.prog 348 = some [.d (.i .u32 0)] := ⟨by kernel_rfl, by kernel_rfl, by kernel_rfl, by kernel_rfl⟩
theorem ty350 : Tryz.prog.cellsOf 350 = 1 ∧ Tryz.prog.bytesOf 350 = 8 ∧ (Tryz.prog.info? 350).isSome = true ∧ zeroCs Tryz.prog 350 = some [.d (.o .nilFunc)] := ⟨by kernel_rfl, by kernel_rfl, by kernel_rfl, by kernel_rfl⟩
theorem ty351 : Tryz.prog.cellsOf 351 = 1 ∧ Tryz.prog.bytesOf 351 = 8 ∧ (Tryz.prog.info? 351).isSome = true ∧ zeroCs Tryz.prog 351 = some [.d (.o .nilFunc)] := ⟨by kernel_rfl, by kernel_rfl, by kernel_rfl, by kernel_rfl⟩
theorem ty357 : Tryz.prog.cellsOf 357 = 1 ∧ Tryz.prog.bytesOf 357 = 8 ∧ (Tryz.prog.info? 357).isSome = true ∧ zeroCs Tryz.prog 357 = some [.d (.o .nilFunc)] := ⟨by kernel_rfl, by kernel_rfl, by kernel_rfl, by kernel_rfl⟩
theorem ty361 : Tryz.prog.cellsOf 361 = 1 ∧ Tryz.prog.bytesOf 361 = 8 ∧ (Tryz.prog.info? 361).isSome = true ∧ zeroCs Tryz.prog 361 = some [.d (.o (.pointer none))] := ⟨by kernel_rfl, by kernel_rfl, by kernel_rfl, by kernel_rfl⟩
theorem ty366 : Tryz.prog.cellsOf 366 = 1 ∧ Tryz.prog.bytesOf 366 = 8 ∧ (Tryz.prog.info? 366).isSome = true ∧ zeroCs Tryz.prog 366 = some [.d (.o .nilFunc)] := ⟨by kernel_rfl, by kernel_rfl, by kernel_rfl, by kernel_rfl⟩
theorem ty367 : Tryz.prog.cellsOf 367 = 1 ∧ Tryz.prog.bytesOf 367 = 8 ∧ (Tryz.prog.info? 367).isSome = true ∧ zeroCs Tryz.prog 367 = some [.d (.o .nilFunc)] := ⟨by kernel_rfl, by kernel_rfl, by kernel_rfl, by kernel_rfl⟩
theorem laidOut : laidOutB Tryz.prog = true := by kernel_rfl
theorem own : ownKnob Tryz.prog.godebug = none := by kernel_rfl
attribute [go_sem] ty1 Tryz.underlying1 ty2 Tryz.underlying2 ty3 Tryz.underlying3 ty4 Tryz.underlying4 zval4 ty5 Tryz.underlying5 ty9 Tryz.underlying9 ty12 Tryz.underlying12 ty20 Tryz.underlying20 ty21 Tryz.underlying21 ty22 Tryz.underlying22 ty23 Tryz.underlying23 ty24 Tryz.underlying24 ty25 Tryz.underlying25 ty26 Tryz.underlying26 ty27 Tryz.underlying27 ty28 Tryz.underlying28 ty29 Tryz.underlying29 ty30 Tryz.underlying30 ty31 Tryz.underlying31 ty32 Tryz.underlying32 ty33 Tryz.underlying33 ty34 Tryz.underlying34 ty35 Tryz.underlying35 ty36 Tryz.underlying36 ty37 Tryz.underlying37 ty38 Tryz.underlying38 ty39 Tryz.underlying39 ty40 Tryz.underlying40 ty41 Tryz.underlying41 ty42 Tryz.underlying42 ty43 Tryz.underlying43 ty44 Tryz.underlying44 ty45 Tryz.underlying45 ty46 Tryz.underlying46 ty47 Tryz.underlying47 ty48 Tryz.underlying48 ty49 Tryz.underlying49 ty50 Tryz.underlying50 ty51 Tryz.underlying51 ty52 Tryz.underlying52 ty53 Tryz.underlying53 ty54 Tryz.underlying54 ty55 Tryz.underlying55 ty56 Tryz.underlying56 ty57 Tryz.underlying57 ty58 Tryz.underlying58 ty59 Tryz.underlying59 ty60 Tryz.underlying60 ty61 Tryz.underlying61 ty62 Tryz.underlying62 ty63 Tryz.underlying63 ty64 Tryz.underlying64 ty65 Tryz.underlying65 ty66 Tryz.underlying66 ty67 Tryz.underlying67 ty68 Tryz.underlying68 ty69 Tryz.underlying69 ty70 Tryz.underlying70 ty71 Tryz.underlying71 ty72 Tryz.underlying72 ty73 Tryz.underlying73 ty74 Tryz.underlying74 ty75 Tryz.underlying75 ty76 Tryz.underlying76 ty77 Tryz.underlying77 ty78 Tryz.underlying78 ty79 Tryz.underlying79 ty80 Tryz.underlying80 ty81 Tryz.underlying81 ty82 Tryz.underlying82 ty84 Tryz.underlying84 ty85 Tryz.underlying85 ty86 Tryz.underlying86 ty87 Tryz.underlying87 ty88 Tryz.underlying88 ty89 Tryz.underlying89 ty90 Tryz.underlying90 ty91 Tryz.underlying91 ty92 Tryz.underlying92 ty93 Tryz.underlying93 ty95 Tryz.underlying95 ty96 Tryz.underlying96 ty97 Tryz.underlying97 ty98 Tryz.underlying98 ty99 Tryz.underlying99 ty100 Tryz.underlying100 ty101 Tryz.underlying101 ty102 Tryz.underlying102 ty103 Tryz.underlying103 ty104 Tryz.underlying104 ty105 Tryz.underlying105 ty106 Tryz.underlying106 ty107 Tryz.underlying107 ty108 Tryz.underlying108 ty109 Tryz.underlying109 ty110 Tryz.underlying110 ty111 Tryz.underlying111 ty112 Tryz.underlying112 ty113 Tryz.underlying113 ty114 Tryz.underlying114 ty115 Tryz.underlying115 ty116 Tryz.underlying116 ty117 Tryz.underlying117 ty118 Tryz.underlying118 ty119 Tryz.underlying119 ty120 Tryz.underlying120 ty121 Tryz.underlying121 ty122 Tryz.underlying122 ty123 Tryz.underlying123 ty125 Tryz.underlying125 ty126 Tryz.underlying126 ty127 Tryz.underlying127 ty128 Tryz.underlying128 ty129 Tryz.underlying129 ty130 Tryz.underlying130 ty131 Tryz.underlying131 ty132 Tryz.underlying132 ty133 Tryz.underlying133 ty134 Tryz.underlying134 ty135 Tryz.underlying135 ty136 Tryz.underlying136 ty137 Tryz.underlying137 ty138 Tryz.underlying138 ty139 Tryz.underlying139 ty140 Tryz.underlying140 ty141 Tryz.underlying141 ty142 Tryz.underlying142 ty143 Tryz.underlying143 ty144 Tryz.underlying144 ty145 Tryz.underlying145 ty146 Tryz.underlying146 ty147 Tryz.underlying147 ty148 Tryz.underlying148 ty149 Tryz.underlying149 ty150 Tryz.underlying150 ty151 Tryz.underlying151 ty152 Tryz.underlying152 ty153 Tryz.underlying153 ty154 Tryz.underlying154 ty155 Tryz.underlying155 ty156 Tryz.underlying156 ty157 Tryz.underlying157 ty158 Tryz.underlying158 ty159 Tryz.underlying159 ty160 Tryz.underlying160 ty161 Tryz.underlying161 ty162 Tryz.underlying162 ty163 Tryz.underlying163 ty164 Tryz.underlying164 ty165 Tryz.underlying165 ty166 Tryz.underlying166 ty167 Tryz.underlying167 ty168 Tryz.underlying168 ty169 Tryz.underlying169 ty170 Tryz.underlying170 ty171 Tryz.underlying171 ty172 Tryz.underlying172 ty173 Tryz.underlying173 ty175 Tryz.underlying175 ty176 Tryz.underlying176 ty178 Tryz.underlying178 ty179 Tryz.underlying179 ty180 Tryz.underlying180 ty182 Tryz.underlying182 ty183 Tryz.underlying183 ty184 Tryz.underlying184 ty185 Tryz.underlying185 ty186 Tryz.underlying186 ty187 Tryz.underlying187 ty188 Tryz.underlying188 ty189 Tryz.underlying189 ty190 Tryz.underlying190 ty191 Tryz.underlying191 ty192 Tryz.underlying192 ty193 Tryz.underlying193 ty194 Tryz.underlying194 ty195 Tryz.underlying195 ty196 Tryz.underlying196 ty197 Tryz.underlying197 ty198 Tryz.underlying198 ty199 Tryz.underlying199 ty200 Tryz.underlying200 ty201 Tryz.underlying201 ty202 Tryz.underlying202 ty203 Tryz.underlying203 ty204 Tryz.underlying204 ty205 Tryz.underlying205 ty206 Tryz.underlying206 ty207 Tryz.underlying207 ty208 Tryz.underlying208 ty209 Tryz.underlying209 ty210 Tryz.underlying210 ty211 Tryz.underlying211 ty212 Tryz.underlying212 ty213 Tryz.underlying213 ty214 Tryz.underlying214 ty215 Tryz.underlying215 ty216 Tryz.underlying216 ty217 Tryz.underlying217 ty218 Tryz.underlying218 ty219 Tryz.underlying219 ty220 Tryz.underlying220 ty221 Tryz.underlying221 ty222 Tryz.underlying222 ty223 Tryz.underlying223 ty224 Tryz.underlying224 ty225 Tryz.underlying225 ty226 Tryz.underlying226 ty227 Tryz.underlying227 ty228 Tryz.underlying228 ty229 Tryz.underlying229 ty230 Tryz.underlying230 ty231 Tryz.underlying231 ty232 Tryz.underlying232 ty233 Tryz.underlying233 ty234 Tryz.underlying234 ty235 Tryz.underlying235 ty236 Tryz.underlying236 ty237 Tryz.underlying237 ty238 Tryz.underlying238 ty239 Tryz.underlying239 ty240 Tryz.underlying240 ty241 Tryz.underlying241 ty242 Tryz.underlying242 ty243 Tryz.underlying243 ty244 Tryz.underlying244 ty245 Tryz.underlying245 ty246 Tryz.underlying246 ty247 Tryz.underlying247 ty248 Tryz.underlying248 ty249 Tryz.underlying249 ty251 Tryz.underlying251 ty253 Tryz.underlying253 ty254 Tryz.underlying254 ty256 Tryz.underlying256 ty257 Tryz.underlying257 ty258 Tryz.underlying258 ty259 Tryz.underlying259 ty260 Tryz.underlying260 ty261 Tryz.underlying261 ty262 Tryz.underlying262 ty263 Tryz.underlying263 ty264 Tryz.underlying264 ty265 Tryz.underlying265 ty266 Tryz.underlying266 ty267 Tryz.underlying267 ty268 Tryz.underlying268 ty269 Tryz.underlying269 ty270 Tryz.underlying270 ty271 Tryz.underlying271 ty272 Tryz.underlying272 ty273 Tryz.underlying273 ty274 Tryz.underlying274 ty275 Tryz.underlying275 ty276 Tryz.underlying276 ty277 Tryz.underlying277 ty278 Tryz.underlying278 ty279 Tryz.underlying279 ty280 Tryz.underlying280 ty281 Tryz.underlying281 ty282 Tryz.underlying282 ty283 Tryz.underlying283 ty284 Tryz.underlying284 ty285 Tryz.underlying285 ty286 Tryz.underlying286 ty287 Tryz.underlying287 ty289 Tryz.underlying289 ty290 Tryz.underlying290 ty291 Tryz.underlying291 ty292 Tryz.underlying292 ty293 Tryz.underlying293 ty294 Tryz.underlying294 ty295 Tryz.underlying295 ty296 Tryz.underlying296 ty297 Tryz.underlying297 ty298 Tryz.underlying298 ty299 Tryz.underlying299 ty300 Tryz.underlying300 ty301 Tryz.underlying301 ty302 Tryz.underlying302 ty303 Tryz.underlying303 ty304 Tryz.underlying304 ty305 Tryz.underlying305 ty306 Tryz.underlying306 ty307 Tryz.underlying307 ty308 Tryz.underlying308 ty309 Tryz.underlying309 ty310 Tryz.underlying310 ty311 Tryz.underlying311 ty312 Tryz.underlying312 ty313 Tryz.underlying313 ty314 Tryz.underlying314 ty315 Tryz.underlying315 ty316 Tryz.underlying316 ty317 Tryz.underlying317 ty318 Tryz.underlying318 ty319 Tryz.underlying319 ty320 Tryz.underlying320 ty321 Tryz.underlying321 ty322 Tryz.underlying322 ty323 Tryz.underlying323 ty324 Tryz.underlying324 ty325 Tryz.underlying325 ty326 Tryz.underlying326 ty327 Tryz.underlying327 ty328 Tryz.underlying328 ty329 Tryz.underlying329 ty330 Tryz.underlying330 ty331 Tryz.underlying331 ty332 Tryz.underlying332 ty333 Tryz.underlying333 ty334 Tryz.underlying334 ty336 Tryz.underlying336 ty337 Tryz.underlying337 ty339 Tryz.underlying339 ty340 Tryz.underlying340 ty341 Tryz.underlying341 ty342 Tryz.underlying342 ty343 Tryz.underlying343 ty344 Tryz.underlying344 ty345 Tryz.underlying345 ty346 Tryz.underlying346 ty347 Tryz.underlying347 ty348 Tryz.underlying348 ty350 Tryz.underlying350 ty351 Tryz.underlying351 ty357 Tryz.underlying357 ty361 Tryz.underlying361 ty366 Tryz.underlying366 ty367 Tryz.underlying367
end Go.Proofs.YtnleocfkdidhoaaGreat.Fa

namespace Go.Proofs.YtnleocfkdidhoaaGreat
open Go Go.Ab
theorem szStringS_ok (xs : List (List UInt8)) (left : Int) (h0 : 0 ≤ left) (h1 : left ≤ 1048576) (hf : (D.sl (xs.map encS)).Fit) :
    PCall Tryz.prog 62 [.c (.d (.sl (xs.map encS))), .c (.d (.i .i64 left))] (.c (.d (.i .i64 (sub1 left (xs.length + szRows (xs.map encS)))))) := by
  intro S
  obtain ⟨hf1, hf2⟩ := fit_sl hf
  rw [List.length_map] at hf1
  refine acall_cw (rs := [.tmp 4]) Tryz.checked.mixed Tryz.func62 Tryz.ntmps62 rfl rfl rfl rfl rfl ?_
  simp -implicitDefEqProofs (disch := omega) only [go_sem]
  with_reducible refine split2 (fun hb => ?_) (fun hb => ?_) <;> have h := hb <;> (try simp only [wf_preprocess] at h) <;> simp -implicitDefEqProofs (disch := omega) only [go_sem, hb] <;> (repeat (with_reducible refine And.intro ?_ ?_; focus first | omega | rfl | assumption | exact ⟨_, rfl, rfl⟩ | (simp; omega) | (simp; done)))
  · exact int_eq (sub1_no (by omega)).symm
  refine loop_at (ι := Nat × Int) Tryz.checked.mixed rfl [0, 1, 5] (fun y => [.c (.d (.sl (xs.map encS))), .c (.d (.i .i64 y.2)), .c (.d (.i .i64 y.1))]) (fun _ => [] :: S)
    (fun y => y.1 ≤ xs.length ∧ 0 ≤ y.2 ∧ y.2 ≤ 1048576 ∧ sub1 y.2 (szRows ((xs.map encS).drop y.1)) = sub1 left (xs.length + szRows (xs.map encS))) (fun y => xs.length - y.1) (0, left - xs.length) rfl rfl ⟨by omega, by omega, by omega, ?_⟩ ?_
  · unfold sub1
    rw [List.drop_zero]
    split <;> split <;> omega
  rintro ⟨i, l⟩ ⟨p1, p2, p3, p4⟩
  simp only at p1 p2 p3 p4
  simp -implicitDefEqProofs (disch := omega) only [go_sem]
  with_reducible refine split2 (fun hb => ?_) (fun hb => ?_) <;> have h := hb <;> (try simp only [wf_preprocess] at h) <;> simp -implicitDefEqProofs (disch := omega) only [go_sem, hb] <;> (repeat (with_reducible refine And.intro ?_ ?_; focus first | omega | rfl | assumption | exact ⟨_, rfl, rfl⟩ | (simp; omega) | (simp; done)))
  · have hi : i < xs.length := by omega
    have hl : xs[i].length ≤ 9223372036854775807 := fit_s (hf2 (encS xs[i]) (List.mem_map_of_mem (List.getElem_mem hi)) (.s xs[i]) (by simp [encS]))
    rw [List.drop_eq_getElem_cons (by rw [List.length_map]; exact hi), szRows, List.getElem_map] at p4
    simp only [encS, szRow, D.sz] at p4
    simp -implicitDefEqProofs (disch := omega) only [go_sem]
    (repeat (with_reducible refine And.intro ?_ ?_; focus first | omega | rfl | assumption | exact ⟨_, rfl, rfl⟩ | (simp; omega) | (simp; done)))
    with_reducible refine split2 (fun hb => ?_) (fun hb => ?_) <;> have h := hb <;> (try simp only [wf_preprocess] at h) <;> simp -implicitDefEqProofs (disch := omega) only [go_sem, hb] <;> (repeat (with_reducible refine And.intro ?_ ?_; focus first | omega | rfl | assumption | exact ⟨_, rfl, rfl⟩ | (simp; omega) | (simp; done)))
    · rw [← p4, sub1_no (by omega)]
    · refine inv_at (i + 1, l - xs[i].length) (by simp only; omega) rfl rfl ⟨by simp only; omega, by simp only; omega, by simp only; omega, ?_⟩
      simp only
      rw [← p4]
      unfold sub1
      split <;> split <;> omega
  · have hi : i = xs.length := by omega
    rw [hi, List.drop_of_length_le (by simp), szRows, sub1_yes (by omega)] at p4
    rw [← p4]
    refine int_eq ?_
    omega
theorem toStringS_ok (xs : List (List UInt8)) (hsz : xs.length + szRows (xs.map encS) ≤ 1048576) : PCall Tryz.prog 73 [.c (.d (.sl (xs.map encS)))] (.c (.d (.sl (xs.map encS)))) := by
  intro S
  refine acall_cw (rs := [.tmp 2]) Tryz.checked.mixed Tryz.func73 Tryz.ntmps73 rfl rfl rfl rfl rfl ?_
  simp -implicitDefEqProofs (disch := omega) only [go_sem]
  (repeat (with_reducible refine And.intro ?_ ?_; focus first | omega | rfl | assumption | exact ⟨_, rfl, rfl⟩ | (simp; omega) | (simp; done)))
  refine loop_at (ι := Nat × List (List D)) Tryz.checked.mixed rfl [0, 3, 4] (fun y => [.c (.d (.sl (xs.map encS))), .c (.msl (0, 0)), .c (.d (.i .i64 y.1))]) (fun y => [.mrow 1 y.2] :: S)
    (fun y => y.1 ≤ xs.length ∧ Filled 1 y.1 y.2 (xs.map encS)) (fun y => xs.length - y.1) (0, _) rfl rfl ⟨Nat.zero_le _, Filled.start (by simp) rfl⟩ ?_
  rintro ⟨i, R⟩ ⟨p1, p2⟩
  simp only at p1 p2
  simp -implicitDefEqProofs (disch := omega) only [go_sem]
  with_reducible refine split2 (fun hb => ?_) (fun hb => ?_) <;> have h := hb <;> (try simp only [wf_preprocess] at h) <;> simp -implicitDefEqProofs (disch := omega) only [go_sem, hb] <;> (repeat (with_reducible refine And.intro ?_ ?_; focus first | omega | rfl | assumption | exact ⟨_, rfl, rfl⟩ | (simp; omega) | (simp; done)))
  · have hi : i < xs.length := by omega
    have hR := p2.1
    rw [List.length_map] at hR
    (repeat (with_reducible refine And.intro ?_ ?_; focus first | omega | rfl | assumption | exact ⟨_, rfl, rfl⟩ | (simp; omega) | (simp; done)))
    refine inv_at (i + 1, _) (by simp only; omega) rfl rfl ⟨by simp only; omega, p2.step (by simp [hi, encS]) rfl⟩
  · have hi : i = xs.length := by omega
    rw [p2.done (by rw [List.length_map]; omega)]
theorem eqStringS_ok (xs ys : List (List UInt8)) (hsz : xs.length ≤ 1073741824) : PCall Tryz.prog 86 [.c (.d (.sl (xs.map encS))), .c (.d (.sl (ys.map encS)))] (.c (.d (.b (dec (xs = ys))))) := by
  intro S
  refine acall_cw (rs := [.tmp 4]) Tryz.checked.mixed Tryz.func86 Tryz.ntmps86 rfl rfl rfl rfl rfl ?_
  simp -implicitDefEqProofs (disch := omega) only [go_sem]
  with_reducible refine split2 (fun hb => ?_) (fun hb => ?_) <;> have h := hb <;> (try simp only [wf_preprocess] at h) <;> simp -implicitDefEqProofs (disch := omega) only [go_sem, hb] <;> (repeat (with_reducible refine And.intro ?_ ?_; focus first | omega | rfl | assumption | exact ⟨_, rfl, rfl⟩ | (simp; omega) | (simp; done)))
  · exact bool_eq (dec_false (fun e => h (by rw [e]))).symm
  have hl : xs.length = ys.length := by omega
  refine loop_at (ι := Nat) Tryz.checked.mixed rfl [0, 1, 5] (fun y => [.c (.d (.sl (xs.map encS))), .c (.d (.sl (ys.map encS))), .c (.d (.i .i64 y))]) (fun y => [] :: S)
    (fun i => i ≤ xs.length ∧ ∀ j, j < i → xs[j]? = ys[j]?) (fun y => xs.length - y) 0 rfl rfl ⟨Nat.zero_le _, fun j h => by omega⟩ ?_
  rintro i ⟨p1, p2⟩
  simp -implicitDefEqProofs (disch := omega) only [go_sem]
  with_reducible refine split2 (fun hb => ?_) (fun hb => ?_) <;> have h := hb <;> (try simp only [wf_preprocess] at h) <;> simp -implicitDefEqProofs (disch := omega) only [go_sem, hb] <;> (repeat (with_reducible refine And.intro ?_ ?_; focus first | omega | rfl | assumption | exact ⟨_, rfl, rfl⟩ | (simp; omega) | (simp; done)))
  · have hi : i < xs.length := by omega
    have hi' : i < ys.length := by omega
    (repeat (with_reducible refine And.intro ?_ ?_; focus first | omega | rfl | assumption | exact ⟨_, rfl, rfl⟩ | (simp; omega) | (simp; done)))
    with_reducible refine split2 (fun hb => ?_) (fun hb => ?_) <;> have h := hb <;> (try simp only [wf_preprocess] at h) <;> simp -implicitDefEqProofs (disch := omega) only [go_sem, hb] <;> (repeat (with_reducible refine And.intro ?_ ?_; focus first | omega | rfl | assumption | exact ⟨_, rfl, rfl⟩ | (simp; omega) | (simp; done)))
    · exact bool_eq (dec_false (fun e => h (by simp only [e]))).symm
    refine inv_at (i + 1) (by omega) rfl rfl ⟨by omega, fun j hj => ?_⟩
    by_cases e : j = i
    · subst e
      rw [List.getElem?_eq_getElem hi, List.getElem?_eq_getElem hi', h]
    · exact p2 j (by omega)
  · have hi : i = xs.length := by omega
    refine bool_eq (dec_true (List.ext_getElem? fun j => ?_)).symm
    by_cases hj : j < i
    · exact p2 j hj
    · rw [List.getElem?_eq_none (by omega), List.getElem?_eq_none (by omega)]
end Go.Proofs.YtnleocfkdidhoaaGreat

namespace Go.Proofs.YtnleocfkdidhoaaGreat
open Go Go.Ab
end Go.Proofs.YtnleocfkdidhoaaGreat

namespace Go.Proofs.YtnleocfkdidhoaaGreat
open Go Go.Ab
end Go.Proofs.YtnleocfkdidhoaaGreat

namespace Go.Proofs.YtnleocfkdidhoaaGreat
open Go Go.Ab
theorem szType_all : ∀ n : Nat, (∀ x : MType, SizeOf.sizeOf x < n → ∀ left : Int, 0 ≤ left → left ≤ 1048576 → FitL x.enc → PCall Tryz.prog 48 [x.v, .c (.d (.i .i64 left))] (.c (.d (.i .i64 (sub1 left x.sz))))) ∧
    (∀ xs : List MType, SizeOf.sizeOf xs < n → ∀ left : Int, 0 ≤ left → left ≤ 1048576 → (D.sl (xs.map MType.enc)).Fit → PCall Tryz.prog 120 [.c (.d (.sl (xs.map MType.enc))), .c (.d (.i .i64 left))] (.c (.d (.i .i64 (sub1 left (xs.length + szRows (xs.map MType.enc)))))))
  | 0 => ⟨fun x h => by omega, fun x h => by omega⟩
  | n + 1 => by
    obtain ⟨ihType, ihSType⟩ := szType_all n
    refine ⟨fun x hn left h0 h1 hf S => ?_, fun xs hn left h0 h1 hf S => ?_⟩
    · have lArgs := MType.lt_Args x
      simp only [MType.enc_eq, List.cons_append, List.nil_append, fitL_cons, fitL_append, fitL_nil_iff, and_true] at hf
      obtain ⟨fKind, fName, fArgs⟩ := hf
      have hz : x.sz = x.fName.length + ((x.fArgs.length + szRows (x.fArgs.map MType.enc))) := by
        simp only [MType.sz, MType.enc_eq, szRow, szRow_append, D.sz, List.length_map, Nat.add_zero, Nat.zero_add] <;> omega
      refine acall_cw (rs := [.tmp 4]) Tryz.checked.mixed Tryz.func48 Tryz.ntmps48 rfl rfl rfl rfl rfl ?_
      rw [hz]
      have gName := fit_s fName
      simp -implicitDefEqProofs (disch := omega) only [go_sem]
      with_reducible refine split2 (fun hb => ?_) (fun hb => ?_) <;> have h := hb <;> (try simp only [wf_preprocess] at h) <;> simp -implicitDefEqProofs (disch := omega) only [go_sem, hb] <;> (repeat (with_reducible refine And.intro ?_ ?_; focus first | omega | rfl | assumption | exact ⟨_, rfl, rfl⟩ | (simp; omega) | (simp; done)))
      · exact int_eq (sub1_no (by omega)).symm
      refine call_w (ihSType x.fArgs (by omega) _ (by omega) (by omega) fArgs) ?_
      simp -implicitDefEqProofs (disch := omega) only [go_sem]
      with_reducible refine split2 (fun hb => ?_) (fun hb => ?_) <;> have h := hb <;> (try simp only [wf_preprocess] at h) <;> simp -implicitDefEqProofs (disch := omega) only [go_sem, hb] <;> (repeat (with_reducible refine And.intro ?_ ?_; focus first | omega | rfl | assumption | exact ⟨_, rfl, rfl⟩ | (simp; omega) | (simp; done)))
      · have h' := sub1_neg h
        exact int_eq (sub1_no (by omega)).symm
      have hArgs := sub1_nn h
      simp only [hArgs.1]
      refine int_eq ?_
      rw [sub1_yes (by omega)]
      omega
    · obtain ⟨hf1, hf2⟩ := fit_sl hf
      rw [List.length_map] at hf1
      refine acall_cw (rs := [.tmp 4]) Tryz.checked.mixed Tryz.func120 Tryz.ntmps120 rfl rfl rfl rfl rfl ?_
      simp -implicitDefEqProofs (disch := omega) only [go_sem]
      with_reducible refine split2 (fun hb => ?_) (fun hb => ?_) <;> have h := hb <;> (try simp only [wf_preprocess] at h) <;> simp -implicitDefEqProofs (disch := omega) only [go_sem, hb] <;> (repeat (with_reducible refine And.intro ?_ ?_; focus first | omega | rfl | assumption | exact ⟨_, rfl, rfl⟩ | (simp; omega) | (simp; done)))
      · exact int_eq (sub1_no (by omega)).symm
      refine loop_at (ι := Nat × Int) Tryz.checked.mixed rfl [0, 1, 5] (fun y => [.c (.d (.sl (xs.map MType.enc))), .c (.d (.i .i64 y.2)), .c (.d (.i .i64 y.1))]) (fun _ => [] :: S)
        (fun y => y.1 ≤ xs.length ∧ 0 ≤ y.2 ∧ y.2 ≤ 1048576 ∧ sub1 y.2 (szRows ((xs.map MType.enc).drop y.1)) = sub1 left (xs.length + szRows (xs.map MType.enc))) (fun y => xs.length - y.1) (0, left - xs.length) rfl rfl ⟨by omega, by omega, by omega, ?_⟩ ?_
      · unfold sub1
        rw [List.drop_zero]
        split <;> split <;> omega
      rintro ⟨i, l⟩ ⟨p1, p2, p3, p4⟩
      simp only at p1 p2 p3 p4
      simp -implicitDefEqProofs (disch := omega) only [go_sem]
      with_reducible refine split2 (fun hb => ?_) (fun hb => ?_) <;> have h := hb <;> (try simp only [wf_preprocess] at h) <;> simp -implicitDefEqProofs (disch := omega) only [go_sem, hb] <;> (repeat (with_reducible refine And.intro ?_ ?_; focus first | omega | rfl | assumption | exact ⟨_, rfl, rfl⟩ | (simp; omega) | (simp; done)))
      · have hi : i < xs.length := by omega
        rw [List.drop_eq_getElem_cons (by rw [List.length_map]; exact hi), szRows, List.getElem_map, MType.sz_def] at p4
        (repeat (with_reducible refine And.intro ?_ ?_; focus first | omega | rfl | assumption | exact ⟨_, rfl, rfl⟩ | (simp; omega) | (simp; done)))
        refine call_w (ihType xs[i] (by have := List.sizeOf_lt_of_mem (List.getElem_mem hi); omega) _ (by omega) (by omega) (hf2 _ (List.mem_map_of_mem (List.getElem_mem hi)))) ?_
        simp -implicitDefEqProofs (disch := omega) only [go_sem]
        with_reducible refine split2 (fun hb => ?_) (fun hb => ?_) <;> have h := hb <;> (try simp only [wf_preprocess] at h) <;> simp -implicitDefEqProofs (disch := omega) only [go_sem, hb] <;> (repeat (with_reducible refine And.intro ?_ ?_; focus first | omega | rfl | assumption | exact ⟨_, rfl, rfl⟩ | (simp; omega) | (simp; done)))
        · have h' := sub1_neg h
          rw [← p4, sub1_no (by omega)]
        · have h' := sub1_nn h
          refine inv_at (i + 1, sub1 l _) (by simp only; omega) rfl rfl ⟨by simp only; omega, by simp only; omega, by simp only; omega, ?_⟩
          simp only
          rw [← p4, h'.1]
          unfold sub1
          split <;> split <;> omega
      · have hi : i = xs.length := by omega
        rw [hi, List.drop_of_length_le (by simp), szRows, sub1_yes (by omega)] at p4
        rw [← p4]
        refine int_eq ?_
        omega
theorem szType_ok (x : MType) : ∀ left : Int, 0 ≤ left → left ≤ 1048576 → FitL x.enc → PCall Tryz.prog 48 [x.v, .c (.d (.i .i64 left))] (.c (.d (.i .i64 (sub1 left x.sz)))) := (szType_all _).1 x (Nat.lt_succ_self _)
theorem szTypeS_ok (xs : List MType) : ∀ left : Int, 0 ≤ left → left ≤ 1048576 → (D.sl (xs.map MType.enc)).Fit → PCall Tryz.prog 120 [.c (.d (.sl (xs.map MType.enc))), .c (.d (.i .i64 left))] (.c (.d (.i .i64 (sub1 left (xs.length + szRows (xs.map MType.enc)))))) := (szType_all _).2 xs (Nat.lt_succ_self _)
theorem toType_all : ∀ n : Nat, (∀ x : MType, SizeOf.sizeOf x < n → x.sz ≤ 1048576 → PCall Tryz.prog 53 [x.v] x.v) ∧
    (∀ xs : List MType, SizeOf.sizeOf xs < n → xs.length + szRows (xs.map MType.enc) ≤ 1048576 → PCall Tryz.prog 130 [.c (.d (.sl (xs.map MType.enc)))] (.c (.d (.sl (xs.map MType.enc)))))
  | 0 => ⟨fun x h => by omega, fun x h => by omega⟩
  | n + 1 => by
    obtain ⟨ihType, ihSType⟩ := toType_all n
    refine ⟨fun x hn hsz S => ?_, fun xs hn hsz S => ?_⟩
    · have lArgs := MType.lt_Args x
      simp only [MType.sz, MType.enc_eq, szRow, szRow_append, D.sz, List.length_map] at hsz
      refine acall_cw (rs := [.cell 2 41]) Tryz.checked.mixed Tryz.func53 Tryz.ntmps53 rfl rfl rfl rfl rfl ?_
      simp -implicitDefEqProofs (disch := omega) only [go_sem]
      refine call_w (ihSType x.fArgs (by omega) (by omega)) ?_
      simp -implicitDefEqProofs (disch := omega) only [go_sem]
    · refine acall_cw (rs := [.tmp 2]) Tryz.checked.mixed Tryz.func130 Tryz.ntmps130 rfl rfl rfl rfl rfl ?_
      simp -implicitDefEqProofs (disch := omega) only [go_sem]
      (repeat (with_reducible refine And.intro ?_ ?_; focus first | omega | rfl | assumption | exact ⟨_, rfl, rfl⟩ | (simp; omega) | (simp; done)))
      refine loop_at (ι := Nat × List (List D)) Tryz.checked.mixed rfl [0, 3, 4] (fun y => [.c (.d (.sl (xs.map MType.enc))), .c (.msl (0, 0)), .c (.d (.i .i64 y.1))]) (fun y => [.mrow 3 y.2] :: S)
        (fun y => y.1 ≤ xs.length ∧ Filled 3 y.1 y.2 (xs.map MType.enc)) (fun y => xs.length - y.1) (0, _) rfl rfl ⟨Nat.zero_le _, Filled.start (by simp) rfl⟩ ?_
      rintro ⟨i, R⟩ ⟨p1, p2⟩
      simp only at p1 p2
      simp -implicitDefEqProofs (disch := omega) only [go_sem]
      with_reducible refine split2 (fun hb => ?_) (fun hb => ?_) <;> have h := hb <;> (try simp only [wf_preprocess] at h) <;> simp -implicitDefEqProofs (disch := omega) only [go_sem, hb] <;> (repeat (with_reducible refine And.intro ?_ ?_; focus first | omega | rfl | assumption | exact ⟨_, rfl, rfl⟩ | (simp; omega) | (simp; done)))
      · have hi : i < xs.length := by omega
        have hx : xs[i].sz ≤ szRows (xs.map MType.enc) := szRows_mem (List.mem_map_of_mem (List.getElem_mem hi))
        (repeat (with_reducible refine And.intro ?_ ?_; focus first | omega | rfl | assumption | exact ⟨_, rfl, rfl⟩ | (simp; omega) | (simp; done)))
        refine call_w (ihType xs[i] (by have := List.sizeOf_lt_of_mem (List.getElem_mem hi); omega) (by omega)) ?_
        simp -implicitDefEqProofs (disch := omega) only [go_sem]
        have hR := p2.1
        rw [List.length_map] at hR
        (repeat (with_reducible refine And.intro ?_ ?_; focus first | omega | rfl | assumption | exact ⟨_, rfl, rfl⟩ | (simp; omega) | (simp; done)))
        refine inv_at (i + 1, _) (by simp only; omega) rfl rfl ⟨by simp only; omega, p2.step (by simp [hi, MType.enc_eq]) rfl⟩
      · have hi : i = xs.length := by omega
        rw [p2.done (by rw [List.length_map]; omega)]
theorem toType_ok (x : MType) : x.sz ≤ 1048576 → PCall Tryz.prog 53 [x.v] x.v := (toType_all _).1 x (Nat.lt_succ_self _)
theorem toTypeS_ok (xs : List MType) : xs.length + szRows (xs.map MType.enc) ≤ 1048576 → PCall Tryz.prog 130 [.c (.d (.sl (xs.map MType.enc)))] (.c (.d (.sl (xs.map MType.enc)))) := (toType_all _).2 xs (Nat.lt_succ_self _)
theorem eqType_all : ∀ n : Nat, (∀ x : MType, SizeOf.sizeOf x < n → ∀ y : MType, x.sz ≤ 1048576 → PCall Tryz.prog 59 [x.v, y.v] (.c (.d (.b (dec (x = y)))))) ∧
    (∀ xs : List MType, SizeOf.sizeOf xs < n → ∀ ys : List MType, xs.length + szRows (xs.map MType.enc) ≤ 1048576 → PCall Tryz.prog 133 [.c (.d (.sl (xs.map MType.enc))), .c (.d (.sl (ys.map MType.enc)))] (.c (.d (.b (dec (xs = ys))))))
  | 0 => ⟨fun x h => by omega, fun x h => by omega⟩
  | n + 1 => by
    obtain ⟨ihType, ihSType⟩ := eqType_all n
    refine ⟨fun x hn y hsz S => ?_, fun xs hn ys hsz S => ?_⟩
    · have lArgs := MType.lt_Args x
      simp only [MType.sz, MType.enc_eq, szRow, szRow_append, D.sz, List.length_map] at hsz
      refine acall_cw (rs := [.tmp 4]) Tryz.checked.mixed Tryz.func59 Tryz.ntmps59 rfl rfl rfl rfl rfl ?_
      simp -implicitDefEqProofs (disch := omega) only [go_sem]
      with_reducible refine split2 (fun hb => ?_) (fun hb => ?_) <;> have h := hb <;> (try simp only [wf_preprocess] at h) <;> simp -implicitDefEqProofs (disch := omega) only [go_sem, hb] <;> (repeat (with_reducible refine And.intro ?_ ?_; focus first | omega | rfl | assumption | exact ⟨_, rfl, rfl⟩ | (simp; omega) | (simp; done)))
      · exact bool_eq (dec_false (fun e => h (by rw [e]))).symm
      have eKind := h
      clear h
      with_reducible refine split2 (fun hb => ?_) (fun hb => ?_) <;> have h := hb <;> (try simp only [wf_preprocess] at h) <;> simp -implicitDefEqProofs (disch := omega) only [go_sem, hb] <;> (repeat (with_reducible refine And.intro ?_ ?_; focus first | omega | rfl | assumption | exact ⟨_, rfl, rfl⟩ | (simp; omega) | (simp; done)))
      · exact bool_eq (dec_false (fun e => h (by rw [e]))).symm
      have eName := h
      clear h
      refine call_w (ihSType x.fArgs (by omega) _ (by omega)) ?_
      simp -implicitDefEqProofs (disch := omega) only [go_sem]
      with_reducible refine split2 (fun hb => ?_) (fun hb => ?_) <;> have h := hb <;> (try simp only [wf_preprocess] at h) <;> simp -implicitDefEqProofs (disch := omega) only [go_sem, hb] <;> (repeat (with_reducible refine And.intro ?_ ?_; focus first | omega | rfl | assumption | exact ⟨_, rfl, rfl⟩ | (simp; omega) | (simp; done)))
      · exact bool_eq (dec_false (fun e => h (by rw [e]))).symm
      have eArgs := h
      clear h
      exact bool_eq (dec_true (MType.ext eKind eName eArgs)).symm
    · refine acall_cw (rs := [.tmp 4]) Tryz.checked.mixed Tryz.func133 Tryz.ntmps133 rfl rfl rfl rfl rfl ?_
      simp -implicitDefEqProofs (disch := omega) only [go_sem]
      with_reducible refine split2 (fun hb => ?_) (fun hb => ?_) <;> have h := hb <;> (try simp only [wf_preprocess] at h) <;> simp -implicitDefEqProofs (disch := omega) only [go_sem, hb] <;> (repeat (with_reducible refine And.intro ?_ ?_; focus first | omega | rfl | assumption | exact ⟨_, rfl, rfl⟩ | (simp; omega) | (simp; done)))
      · exact bool_eq (dec_false (fun e => h (by rw [e]))).symm
      have hl : xs.length = ys.length := by omega
      refine loop_at (ι := Nat) Tryz.checked.mixed rfl [0, 1, 5] (fun y => [.c (.d (.sl (xs.map MType.enc))), .c (.d (.sl (ys.map MType.enc))), .c (.d (.i .i64 y))]) (fun y => [] :: S)
        (fun i => i ≤ xs.length ∧ ∀ j, j < i → xs[j]? = ys[j]?) (fun y => xs.length - y) 0 rfl rfl ⟨Nat.zero_le _, fun j h => by omega⟩ ?_
      rintro i ⟨p1, p2⟩
      simp -implicitDefEqProofs (disch := omega) only [go_sem]
      with_reducible refine split2 (fun hb => ?_) (fun hb => ?_) <;> have h := hb <;> (try simp only [wf_preprocess] at h) <;> simp -implicitDefEqProofs (disch := omega) only [go_sem, hb] <;> (repeat (with_reducible refine And.intro ?_ ?_; focus first | omega | rfl | assumption | exact ⟨_, rfl, rfl⟩ | (simp; omega) | (simp; done)))
      · have hi : i < xs.length := by omega
        have hi' : i < ys.length := by omega
        have hx : xs[i].sz ≤ szRows (xs.map MType.enc) := szRows_mem (List.mem_map_of_mem (List.getElem_mem hi))
        (repeat (with_reducible refine And.intro ?_ ?_; focus first | omega | rfl | assumption | exact ⟨_, rfl, rfl⟩ | (simp; omega) | (simp; done)))
        refine call_w (ihType xs[i] (by have := List.sizeOf_lt_of_mem (List.getElem_mem hi); omega) ys[i] (by omega)) ?_
        simp -implicitDefEqProofs (disch := omega) only [go_sem]
        with_reducible refine split2 (fun hb => ?_) (fun hb => ?_) <;> have h := hb <;> (try simp only [wf_preprocess] at h) <;> simp -implicitDefEqProofs (disch := omega) only [go_sem, hb] <;> (repeat (with_reducible refine And.intro ?_ ?_; focus first | omega | rfl | assumption | exact ⟨_, rfl, rfl⟩ | (simp; omega) | (simp; done)))
        · exact bool_eq (dec_false (fun e => h (by simp only [e]))).symm
        refine inv_at (i + 1) (by omega) rfl rfl ⟨by omega, fun j hj => ?_⟩
        by_cases e : j = i
        · subst e
          rw [List.getElem?_eq_getElem hi, List.getElem?_eq_getElem hi', h]
        · exact p2 j (by omega)
      · have hi : i = xs.length := by omega
        refine bool_eq (dec_true (List.ext_getElem? fun j => ?_)).symm
        by_cases hj : j < i
        · exact p2 j hj
        · rw [List.getElem?_eq_none (by omega), List.getElem?_eq_none (by omega)]
theorem eqType_ok (x : MType) : ∀ y : MType, x.sz ≤ 1048576 → PCall Tryz.prog 59 [x.v, y.v] (.c (.d (.b (dec (x = y))))) := (eqType_all _).1 x (Nat.lt_succ_self _)
theorem eqTypeS_ok (xs : List MType) : ∀ ys : List MType, xs.length + szRows (xs.map MType.enc) ≤ 1048576 → PCall Tryz.prog 133 [.c (.d (.sl (xs.map MType.enc))), .c (.d (.sl (ys.map MType.enc)))] (.c (.d (.b (dec (xs = ys))))) := (eqType_all _).2 xs (Nat.lt_succ_self _)
end Go.Proofs.YtnleocfkdidhoaaGreat

namespace Go.Proofs.YtnleocfkdidhoaaGreat
open Go Go.Ab
end Go.Proofs.YtnleocfkdidhoaaGreat

namespace Go.Proofs.YtnleocfkdidhoaaGreat
open Go Go.Ab
theorem szBound_ok (x : MBound) : ∀ left : Int, 0 ≤ left → left ≤ 1048576 → FitL x.enc → PCall Tryz.prog 254 [x.v, .c (.d (.i .i64 left))] (.c (.d (.i .i64 (sub1 left x.sz)))) := by
  intro left h0 h1 hf S
  simp only [MBound.enc_eq, List.cons_append, List.nil_append, fitL_cons, fitL_append, fitL_nil_iff, and_true] at hf
  obtain ⟨fTrait, fType⟩ := hf
  have hz : x.sz = x.fTrait.length + (x.fType.sz) := by
    simp only [MBound.sz, MBound.enc_eq, szRow, szRow_append, D.sz, List.length_map, Nat.add_zero, Nat.zero_add, MType.sz_def] <;> omega
  refine acall_cw (rs := [.tmp 4]) Tryz.checked.mixed Tryz.func254 Tryz.ntmps254 rfl rfl rfl rfl rfl ?_
  rw [hz]
  have gTrait := fit_s fTrait
  simp -implicitDefEqProofs (disch := omega) only [go_sem]
  with_reducible refine split2 (fun hb => ?_) (fun hb => ?_) <;> have h := hb <;> (try simp only [wf_preprocess] at h) <;> simp -implicitDefEqProofs (disch := omega) only [go_sem, hb] <;> (repeat (with_reducible refine And.intro ?_ ?_; focus first | omega | rfl | assumption | exact ⟨_, rfl, rfl⟩ | (simp; omega) | (simp; done)))
  · exact int_eq (sub1_no (by omega)).symm
  refine call_w (szType_ok x.fType _ (by omega) (by omega) fType) ?_
  simp -implicitDefEqProofs (disch := omega) only [go_sem]
  with_reducible refine split2 (fun hb => ?_) (fun hb => ?_) <;> have h := hb <;> (try simp only [wf_preprocess] at h) <;> simp -implicitDefEqProofs (disch := omega) only [go_sem, hb] <;> (repeat (with_reducible refine And.intro ?_ ?_; focus first | omega | rfl | assumption | exact ⟨_, rfl, rfl⟩ | (simp; omega) | (simp; done)))
  · have h' := sub1_neg h
    exact int_eq (sub1_no (by omega)).symm
  have hType := sub1_nn h
  simp only [hType.1]
  refine int_eq ?_
  rw [sub1_yes (by omega)]
  omega
theorem szBoundS_ok (xs : List MBound) : ∀ left : Int, 0 ≤ left → left ≤ 1048576 → (D.sl (xs.map MBound.enc)).Fit → PCall Tryz.prog 208 [.c (.d (.sl (xs.map MBound.enc))), .c (.d (.i .i64 left))] (.c (.d (.i .i64 (sub1 left (xs.length + szRows (xs.map MBound.enc)))))) := by
  intro left h0 h1 hf S
  obtain ⟨hf1, hf2⟩ := fit_sl hf
  rw [List.length_map] at hf1
  refine acall_cw (rs := [.tmp 4]) Tryz.checked.mixed Tryz.func208 Tryz.ntmps208 rfl rfl rfl rfl rfl ?_
  simp -implicitDefEqProofs (disch := omega) only [go_sem]
  with_reducible refine split2 (fun hb => ?_) (fun hb => ?_) <;> have h := hb <;> (try simp only [wf_preprocess] at h) <;> simp -implicitDefEqProofs (disch := omega) only [go_sem, hb] <;> (repeat (with_reducible refine And.intro ?_ ?_; focus first | omega | rfl | assumption | exact ⟨_, rfl, rfl⟩ | (simp; omega) | (simp; done)))
  · exact int_eq (sub1_no (by omega)).symm
  refine loop_at (ι := Nat × Int) Tryz.checked.mixed rfl [0, 1, 5] (fun y => [.c (.d (.sl (xs.map MBound.enc))), .c (.d (.i .i64 y.2)), .c (.d (.i .i64 y.1))]) (fun _ => [] :: S)
    (fun y => y.1 ≤ xs.length ∧ 0 ≤ y.2 ∧ y.2 ≤ 1048576 ∧ sub1 y.2 (szRows ((xs.map MBound.enc).drop y.1)) = sub1 left (xs.length + szRows (xs.map MBound.enc))) (fun y => xs.length - y.1) (0, left - xs.length) rfl rfl ⟨by omega, by omega, by omega, ?_⟩ ?_
  · unfold sub1
    rw [List.drop_zero]
    split <;> split <;> omega
  rintro ⟨i, l⟩ ⟨p1, p2, p3, p4⟩
  simp only at p1 p2 p3 p4
  simp -implicitDefEqProofs (disch := omega) only [go_sem]
  with_reducible refine split2 (fun hb => ?_) (fun hb => ?_) <;> have h := hb <;> (try simp only [wf_preprocess] at h) <;> simp -implicitDefEqProofs (disch := omega) only [go_sem, hb] <;> (repeat (with_reducible refine And.intro ?_ ?_; focus first | omega | rfl | assumption | exact ⟨_, rfl, rfl⟩ | (simp; omega) | (simp; done)))
  · have hi : i < xs.length := by omega
    rw [List.drop_eq_getElem_cons (by rw [List.length_map]; exact hi), szRows, List.getElem_map, MBound.sz_def] at p4
    (repeat (with_reducible refine And.intro ?_ ?_; focus first | omega | rfl | assumption | exact ⟨_, rfl, rfl⟩ | (simp; omega) | (simp; done)))
    refine call_w (szBound_ok xs[i] _ (by omega) (by omega) (hf2 _ (List.mem_map_of_mem (List.getElem_mem hi)))) ?_
    simp -implicitDefEqProofs (disch := omega) only [go_sem]
    with_reducible refine split2 (fun hb => ?_) (fun hb => ?_) <;> have h := hb <;> (try simp only [wf_preprocess] at h) <;> simp -implicitDefEqProofs (disch := omega) only [go_sem, hb] <;> (repeat (with_reducible refine And.intro ?_ ?_; focus first | omega | rfl | assumption | exact ⟨_, rfl, rfl⟩ | (simp; omega) | (simp; done)))
    · have h' := sub1_neg h
      rw [← p4, sub1_no (by omega)]
    · have h' := sub1_nn h
      refine inv_at (i + 1, sub1 l _) (by simp only; omega) rfl rfl ⟨by simp only; omega, by simp only; omega, by simp only; omega, ?_⟩
      simp only
      rw [← p4, h'.1]
      unfold sub1
      split <;> split <;> omega
  · have hi : i = xs.length := by omega
    rw [hi, List.drop_of_length_le (by simp), szRows, sub1_yes (by omega)] at p4
    rw [← p4]
    refine int_eq ?_
    omega
theorem toBound_ok (x : MBound) : x.sz ≤ 1048576 → PCall Tryz.prog 266 [x.v] x.v := by
  intro hsz S
  simp only [MBound.sz, MBound.enc_eq, szRow, szRow_append, D.sz, List.length_map, MType.sz_def] at hsz
  refine acall_cw (rs := [.cell 2 246]) Tryz.checked.mixed Tryz.func266 Tryz.ntmps266 rfl rfl rfl rfl rfl ?_
  simp -implicitDefEqProofs (disch := omega) only [go_sem]
  refine call_w (toType_ok x.fType (by omega)) ?_
  simp -implicitDefEqProofs (disch := omega) only [go_sem]
theorem toBoundS_ok (xs : List MBound) : xs.length + szRows (xs.map MBound.enc) ≤ 1048576 → PCall Tryz.prog 221 [.c (.d (.sl (xs.map MBound.enc)))] (.c (.d (.sl (xs.map MBound.enc)))) := by
  intro hsz S
  refine acall_cw (rs := [.tmp 2]) Tryz.checked.mixed Tryz.func221 Tryz.ntmps221 rfl rfl rfl rfl rfl ?_
  simp -implicitDefEqProofs (disch := omega) only [go_sem]
  (repeat (with_reducible refine And.intro ?_ ?_; focus first | omega | rfl | assumption | exact ⟨_, rfl, rfl⟩ | (simp; omega) | (simp; done)))
  refine loop_at (ι := Nat × List (List D)) Tryz.checked.mixed rfl [0, 3, 4] (fun y => [.c (.d (.sl (xs.map MBound.enc))), .c (.msl (0, 0)), .c (.d (.i .i64 y.1))]) (fun y => [.mrow 4 y.2] :: S)
    (fun y => y.1 ≤ xs.length ∧ Filled 4 y.1 y.2 (xs.map MBound.enc)) (fun y => xs.length - y.1) (0, _) rfl rfl ⟨Nat.zero_le _, Filled.start (by simp) rfl⟩ ?_
  rintro ⟨i, R⟩ ⟨p1, p2⟩
  simp only at p1 p2
  simp -implicitDefEqProofs (disch := omega) only [go_sem]
  with_reducible refine split2 (fun hb => ?_) (fun hb => ?_) <;> have h := hb <;> (try simp only [wf_preprocess] at h) <;> simp -implicitDefEqProofs (disch := omega) only [go_sem, hb] <;> (repeat (with_reducible refine And.intro ?_ ?_; focus first | omega | rfl | assumption | exact ⟨_, rfl, rfl⟩ | (simp; omega) | (simp; done)))
  · have hi : i < xs.length := by omega
    have hx : xs[i].sz ≤ szRows (xs.map MBound.enc) := szRows_mem (List.mem_map_of_mem (List.getElem_mem hi))
    (repeat (with_reducible refine And.intro ?_ ?_; focus first | omega | rfl | assumption | exact ⟨_, rfl, rfl⟩ | (simp; omega) | (simp; done)))
    refine call_w (toBound_ok xs[i] (by omega)) ?_
    simp -implicitDefEqProofs (disch := omega) only [go_sem]
    have hR := p2.1
    rw [List.length_map] at hR
    (repeat (with_reducible refine And.intro ?_ ?_; focus first | omega | rfl | assumption | exact ⟨_, rfl, rfl⟩ | (simp; omega) | (simp; done)))
    refine inv_at (i + 1, _) (by simp only; omega) rfl rfl ⟨by simp only; omega, p2.step (by simp [hi, MBound.enc_eq, MType.enc_eq]) rfl⟩
  · have hi : i = xs.length := by omega
    rw [p2.done (by rw [List.length_map]; omega)]
theorem eqBound_ok (x : MBound) : ∀ y : MBound, x.sz ≤ 1048576 → PCall Tryz.prog 189 [x.v, y.v] (.c (.d (.b (dec (x = y))))) := by
  intro y hsz S
  simp only [MBound.sz, MBound.enc_eq, szRow, szRow_append, D.sz, List.length_map, MType.sz_def] at hsz
  refine acall_cw (rs := [.tmp 4]) Tryz.checked.mixed Tryz.func189 Tryz.ntmps189 rfl rfl rfl rfl rfl ?_
  simp -implicitDefEqProofs (disch := omega) only [go_sem]
  with_reducible refine split2 (fun hb => ?_) (fun hb => ?_) <;> have h := hb <;> (try simp only [wf_preprocess] at h) <;> simp -implicitDefEqProofs (disch := omega) only [go_sem, hb] <;> (repeat (with_reducible refine And.intro ?_ ?_; focus first | omega | rfl | assumption | exact ⟨_, rfl, rfl⟩ | (simp; omega) | (simp; done)))
  · exact bool_eq (dec_false (fun e => h (by rw [e]))).symm
  have eTrait := h
  clear h
  refine call_w (eqType_ok x.fType _ (by omega)) ?_
  simp -implicitDefEqProofs (disch := omega) only [go_sem]
  with_reducible refine split2 (fun hb => ?_) (fun hb => ?_) <;> have h := hb <;> (try simp only [wf_preprocess] at h) <;> simp -implicitDefEqProofs (disch := omega) only [go_sem, hb] <;> (repeat (with_reducible refine And.intro ?_ ?_; focus first | omega | rfl | assumption | exact ⟨_, rfl, rfl⟩ | (simp; omega) | (simp; done)))
  · exact bool_eq (dec_false (fun e => h (by rw [e]))).symm
  have eType := h
  clear h
  exact bool_eq (dec_true (MBound.ext' eTrait eType)).symm
theorem eqBoundS_ok (xs : List MBound) : ∀ ys : List MBound, xs.length + szRows (xs.map MBound.enc) ≤ 1048576 → PCall Tryz.prog 112 [.c (.d (.sl (xs.map MBound.enc))), .c (.d (.sl (ys.map MBound.enc)))] (.c (.d (.b (dec (xs = ys))))) := by
  intro ys hsz S
  refine acall_cw (rs := [.tmp 4]) Tryz.checked.mixed Tryz.func112 Tryz.ntmps112 rfl rfl rfl rfl rfl ?_
  simp -implicitDefEqProofs (disch := omega) only [go_sem]
  with_reducible refine split2 (fun hb => ?_) (fun hb => ?_) <;> have h := hb <;> (try simp only [wf_preprocess] at h) <;> simp -implicitDefEqProofs (disch := omega) only [go_sem, hb] <;> (repeat (with_reducible refine And.intro ?_ ?_; focus first | omega | rfl | assumption | exact ⟨_, rfl, rfl⟩ | (simp; omega) | (simp; done)))
  · exact bool_eq (dec_false (fun e => h (by rw [e]))).symm
  have hl : xs.length = ys.length := by omega
  refine loop_at (ι := Nat) Tryz.checked.mixed rfl [0, 1, 5] (fun y => [.c (.d (.sl (xs.map MBound.enc))), .c (.d (.sl (ys.map MBound.enc))), .c (.d (.i .i64 y))]) (fun y => [] :: S)
    (fun i => i ≤ xs.length ∧ ∀ j, j < i → xs[j]? = ys[j]?) (fun y => xs.length - y) 0 rfl rfl ⟨Nat.zero_le _, fun j h => by omega⟩ ?_
  rintro i ⟨p1, p2⟩
  simp -implicitDefEqProofs (disch := omega) only [go_sem]
  with_reducible refine split2 (fun hb => ?_) (fun hb => ?_) <;> have h := hb <;> (try simp only [wf_preprocess] at h) <;> simp -implicitDefEqProofs (disch := omega) only [go_sem, hb] <;> (repeat (with_reducible refine And.intro ?_ ?_; focus first | omega | rfl | assumption | exact ⟨_, rfl, rfl⟩ | (simp; omega) | (simp; done)))
  · have hi : i < xs.length := by omega
    have hi' : i < ys.length := by omega
    have hx : xs[i].sz ≤ szRows (xs.map MBound.enc) := szRows_mem (List.mem_map_of_mem (List.getElem_mem hi))
    (repeat (with_reducible refine And.intro ?_ ?_; focus first | omega | rfl | assumption | exact ⟨_, rfl, rfl⟩ | (simp; omega) | (simp; done)))
    refine call_w (eqBound_ok xs[i] ys[i] (by omega)) ?_
    simp -implicitDefEqProofs (disch := omega) only [go_sem]
    with_reducible refine split2 (fun hb => ?_) (fun hb => ?_) <;> have h := hb <;> (try simp only [wf_preprocess] at h) <;> simp -implicitDefEqProofs (disch := omega) only [go_sem, hb] <;> (repeat (with_reducible refine And.intro ?_ ?_; focus first | omega | rfl | assumption | exact ⟨_, rfl, rfl⟩ | (simp; omega) | (simp; done)))
    · exact bool_eq (dec_false (fun e => h (by simp only [e]))).symm
    refine inv_at (i + 1) (by omega) rfl rfl ⟨by omega, fun j hj => ?_⟩
    by_cases e : j = i
    · subst e
      rw [List.getElem?_eq_getElem hi, List.getElem?_eq_getElem hi', h]
    · exact p2 j (by omega)
  · have hi : i = xs.length := by omega
    refine bool_eq (dec_true (List.ext_getElem? fun j => ?_)).symm
    by_cases hj : j < i
    · exact p2 j hj
    · rw [List.getElem?_eq_none (by omega), List.getElem?_eq_none (by omega)]
end Go.Proofs.YtnleocfkdidhoaaGreat

namespace Go.Proofs.YtnleocfkdidhoaaGreat
open Go Go.Ab
theorem szExpr_all : ∀ n : Nat, (∀ x : MExpr, SizeOf.sizeOf x < n → ∀ left : Int, 0 ≤ left → left ≤ 1048576 → FitL x.enc → PCall Tryz.prog 11 [x.v, .c (.d (.i .i64 left))] (.c (.d (.i .i64 (sub1 left x.sz))))) ∧
    (∀ xs : List MExpr, SizeOf.sizeOf xs < n → ∀ left : Int, 0 ≤ left → left ≤ 1048576 → (D.sl (xs.map MExpr.enc)).Fit → PCall Tryz.prog 49 [.c (.d (.sl (xs.map MExpr.enc))), .c (.d (.i .i64 left))] (.c (.d (.i .i64 (sub1 left (xs.length + szRows (xs.map MExpr.enc))))))) ∧
    (∀ x : MArm, SizeOf.sizeOf x < n → ∀ left : Int, 0 ≤ left → left ≤ 1048576 → FitL x.enc → PCall Tryz.prog 121 [x.v, .c (.d (.i .i64 left))] (.c (.d (.i .i64 (sub1 left x.sz))))) ∧
    (∀ xs : List MArm, SizeOf.sizeOf xs < n → ∀ left : Int, 0 ≤ left → left ≤ 1048576 → (D.sl (xs.map MArm.enc)).Fit → PCall Tryz.prog 50 [.c (.d (.sl (xs.map MArm.enc))), .c (.d (.i .i64 left))] (.c (.d (.i .i64 (sub1 left (xs.length + szRows (xs.map MArm.enc)))))))
  | 0 => ⟨fun x h => by omega, fun x h => by omega, fun x h => by omega, fun x h => by omega⟩
  | n + 1 => by
    obtain ⟨ihExpr, ihSExpr, ihArm, ihSArm⟩ := szExpr_all n
    refine ⟨fun x hn left h0 h1 hf S => ?_, fun xs hn left h0 h1 hf S => ?_, fun x hn left h0 h1 hf S => ?_, fun xs hn left h0 h1 hf S => ?_⟩
    · have lArgs := MExpr.lt_Args x
      have lArms := MExpr.lt_Arms x
      simp only [MExpr.enc_eq, List.cons_append, List.nil_append, fitL_cons, fitL_append, fitL_nil_iff, and_true] at hf
      obtain ⟨fKind, fTrait, fName, fN, fType, fArgs, fArms⟩ := hf
      have hz : x.sz = x.fTrait.length + (x.fName.length + (x.fType.sz + ((x.fArgs.length + szRows (x.fArgs.map MExpr.enc)) + ((x.fArms.length + szRows (x.fArms.map MArm.enc)))))) := by
        simp only [MExpr.sz, MExpr.enc_eq, szRow, szRow_append, D.sz, List.length_map, Nat.add_zero, Nat.zero_add, MType.sz_def] <;> omega
      refine acall_cw (rs := [.tmp 4]) Tryz.checked.mixed Tryz.func11 Tryz.ntmps11 rfl rfl rfl rfl rfl ?_
      rw [hz]
      have gTrait := fit_s fTrait
      have gName := fit_s fName
      simp -implicitDefEqProofs (disch := omega) only [go_sem]
      with_reducible refine split2 (fun hb => ?_) (fun hb => ?_) <;> have h := hb <;> (try simp only [wf_preprocess] at h) <;> simp -implicitDefEqProofs (disch := omega) only [go_sem, hb] <;> (repeat (with_reducible refine And.intro ?_ ?_; focus first | omega | rfl | assumption | exact ⟨_, rfl, rfl⟩ | (simp; omega) | (simp; done)))
      · exact int_eq (sub1_no (by omega)).symm
      with_reducible refine split2 (fun hb => ?_) (fun hb => ?_) <;> have h := hb <;> (try simp only [wf_preprocess] at h) <;> simp -implicitDefEqProofs (disch := omega) only [go_sem, hb] <;> (repeat (with_reducible refine And.intro ?_ ?_; focus first | omega | rfl | assumption | exact ⟨_, rfl, rfl⟩ | (simp; omega) | (simp; done)))
      · exact int_eq (sub1_no (by omega)).symm
      refine call_w (szType_ok x.fType _ (by omega) (by omega) fType) ?_
      simp -implicitDefEqProofs (disch := omega) only [go_sem]
      with_reducible refine split2 (fun hb => ?_) (fun hb => ?_) <;> have h := hb <;> (try simp only [wf_preprocess] at h) <;> simp -implicitDefEqProofs (disch := omega) only [go_sem, hb] <;> (repeat (with_reducible refine And.intro ?_ ?_; focus first | omega | rfl | assumption | exact ⟨_, rfl, rfl⟩ | (simp; omega) | (simp; done)))
      · have h' := sub1_neg h
        exact int_eq (sub1_no (by omega)).symm
      have hType := sub1_nn h
      simp only [hType.1]
      refine call_w (ihSExpr x.fArgs (by omega) _ (by omega) (by omega) fArgs) ?_
      simp -implicitDefEqProofs (disch := omega) only [go_sem]
      with_reducible refine split2 (fun hb => ?_) (fun hb => ?_) <;> have h := hb <;> (try simp only [wf_preprocess] at h) <;> simp -implicitDefEqProofs (disch := omega) only [go_sem, hb] <;> (repeat (with_reducible refine And.intro ?_ ?_; focus first | omega | rfl | assumption | exact ⟨_, rfl, rfl⟩ | (simp; omega) | (simp; done)))
      · have h' := sub1_neg h
        exact int_eq (sub1_no (by omega)).symm
      have hArgs := sub1_nn h
      simp only [hArgs.1]
      refine call_w (ihSArm x.fArms (by omega) _ (by omega) (by omega) fArms) ?_
      simp -implicitDefEqProofs (disch := omega) only [go_sem]
      with_reducible refine split2 (fun hb => ?_) (fun hb => ?_) <;> have h := hb <;> (try simp only [wf_preprocess] at h) <;> simp -implicitDefEqProofs (disch := omega) only [go_sem, hb] <;> (repeat (with_reducible refine And.intro ?_ ?_; focus first | omega | rfl | assumption | exact ⟨_, rfl, rfl⟩ | (simp; omega) | (simp; done)))
      · have h' := sub1_neg h
        exact int_eq (sub1_no (by omega)).symm
      have hArms := sub1_nn h
      simp only [hArms.1]
      refine int_eq ?_
      rw [sub1_yes (by omega)]
      omega
    · obtain ⟨hf1, hf2⟩ := fit_sl hf
      rw [List.length_map] at hf1
      refine acall_cw (rs := [.tmp 4]) Tryz.checked.mixed Tryz.func49 Tryz.ntmps49 rfl rfl rfl rfl rfl ?_
      simp -implicitDefEqProofs (disch := omega) only [go_sem]
      with_reducible refine split2 (fun hb => ?_) (fun hb => ?_) <;> have h := hb <;> (try simp only [wf_preprocess] at h) <;> simp -implicitDefEqProofs (disch := omega) only [go_sem, hb] <;> (repeat (with_reducible refine And.intro ?_ ?_; focus first | omega | rfl | assumption | exact ⟨_, rfl, rfl⟩ | (simp; omega) | (simp; done)))
      · exact int_eq (sub1_no (by omega)).symm
      refine loop_at (ι := Nat × Int) Tryz.checked.mixed rfl [0, 1, 5] (fun y => [.c (.d (.sl (xs.map MExpr.enc))), .c (.d (.i .i64 y.2)), .c (.d (.i .i64 y.1))]) (fun _ => [] :: S)
        (fun y => y.1 ≤ xs.length ∧ 0 ≤ y.2 ∧ y.2 ≤ 1048576 ∧ sub1 y.2 (szRows ((xs.map MExpr.enc).drop y.1)) = sub1 left (xs.length + szRows (xs.map MExpr.enc))) (fun y => xs.length - y.1) (0, left - xs.length) rfl rfl ⟨by omega, by omega, by omega, ?_⟩ ?_
      · unfold sub1
        rw [List.drop_zero]
        split <;> split <;> omega
      rintro ⟨i, l⟩ ⟨p1, p2, p3, p4⟩
      simp only at p1 p2 p3 p4
      simp -implicitDefEqProofs (disch := omega) only [go_sem]
      with_reducible refine split2 (fun hb => ?_) (fun hb => ?_) <;> have h := hb <;> (try simp only [wf_preprocess] at h) <;> simp -implicitDefEqProofs (disch := omega) only [go_sem, hb] <;> (repeat (with_reducible refine And.intro ?_ ?_; focus first | omega | rfl | assumption | exact ⟨_, rfl, rfl⟩ | (simp; omega) | (simp; done)))
      · have hi : i < xs.length := by omega
        rw [List.drop_eq_getElem_cons (by rw [List.length_map]; exact hi), szRows, List.getElem_map, MExpr.sz_def] at p4
        (repeat (with_reducible refine And.intro ?_ ?_; focus first | omega | rfl | assumption | exact ⟨_, rfl, rfl⟩ | (simp; omega) | (simp; done)))
        refine call_w (ihExpr xs[i] (by have := List.sizeOf_lt_of_mem (List.getElem_mem hi); omega) _ (by omega) (by omega) (hf2 _ (List.mem_map_of_mem (List.getElem_mem hi)))) ?_
        simp -implicitDefEqProofs (disch := omega) only [go_sem]
        with_reducible refine split2 (fun hb => ?_) (fun hb => ?_) <;> have h := hb <;> (try simp only [wf_preprocess] at h) <;> simp -implicitDefEqProofs (disch := omega) only [go_sem, hb] <;> (repeat (with_reducible refine And.intro ?_ ?_; focus first | omega | rfl | assumption | exact ⟨_, rfl, rfl⟩ | (simp; omega) | (simp; done)))
        · have h' := sub1_neg h
          rw [← p4, sub1_no (by omega)]
        · have h' := sub1_nn h
          refine inv_at (i + 1, sub1 l _) (by simp only; omega) rfl rfl ⟨by simp only; omega, by simp only; omega, by simp only; omega, ?_⟩
          simp only
          rw [← p4, h'.1]
          unfold sub1
          split <;> split <;> omega
      · have hi : i = xs.length := by omega
        rw [hi, List.drop_of_length_le (by simp), szRows, sub1_yes (by omega)] at p4
        rw [← p4]
        refine int_eq ?_
        omega
    · have lBody := MArm.lt_Body x
      simp only [MArm.enc_eq, List.cons_append, List.nil_append, fitL_cons, fitL_append, fitL_nil_iff, and_true] at hf
      obtain ⟨fConstructor, fVars, fBody⟩ := hf
      have hz : x.sz = x.fConstructor.length + ((x.fVars.length + szRows (x.fVars.map encS)) + (x.fBody.sz)) := by
        simp only [MArm.sz, MArm.enc_eq, szRow, szRow_append, D.sz, List.length_map, Nat.add_zero, Nat.zero_add, MExpr.sz_def] <;> omega
      refine acall_cw (rs := [.tmp 4]) Tryz.checked.mixed Tryz.func121 Tryz.ntmps121 rfl rfl rfl rfl rfl ?_
      rw [hz]
      have gConstructor := fit_s fConstructor
      simp -implicitDefEqProofs (disch := omega) only [go_sem]
      with_reducible refine split2 (fun hb => ?_) (fun hb => ?_) <;> have h := hb <;> (try simp only [wf_preprocess] at h) <;> simp -implicitDefEqProofs (disch := omega) only [go_sem, hb] <;> (repeat (with_reducible refine And.intro ?_ ?_; focus first | omega | rfl | assumption | exact ⟨_, rfl, rfl⟩ | (simp; omega) | (simp; done)))
      · exact int_eq (sub1_no (by omega)).symm
      refine call_w (szStringS_ok x.fVars _ (by omega) (by omega) fVars) ?_
      simp -implicitDefEqProofs (disch := omega) only [go_sem]
      with_reducible refine split2 (fun hb => ?_) (fun hb => ?_) <;> have h := hb <;> (try simp only [wf_preprocess] at h) <;> simp -implicitDefEqProofs (disch := omega) only [go_sem, hb] <;> (repeat (with_reducible refine And.intro ?_ ?_; focus first | omega | rfl | assumption | exact ⟨_, rfl, rfl⟩ | (simp; omega) | (simp; done)))
      · have h' := sub1_neg h
        exact int_eq (sub1_no (by omega)).symm
      have hVars := sub1_nn h
      simp only [hVars.1]
      refine call_w (ihExpr x.fBody (by omega) _ (by omega) (by omega) fBody) ?_
      simp -implicitDefEqProofs (disch := omega) only [go_sem]
      with_reducible refine split2 (fun hb => ?_) (fun hb => ?_) <;> have h := hb <;> (try simp only [wf_preprocess] at h) <;> simp -implicitDefEqProofs (disch := omega) only [go_sem, hb] <;> (repeat (with_reducible refine And.intro ?_ ?_; focus first | omega | rfl | assumption | exact ⟨_, rfl, rfl⟩ | (simp; omega) | (simp; done)))
      · have h' := sub1_neg h
        exact int_eq (sub1_no (by omega)).symm
      have hBody := sub1_nn h
      simp only [hBody.1]
      refine int_eq ?_
      rw [sub1_yes (by omega)]
      omega
    · obtain ⟨hf1, hf2⟩ := fit_sl hf
      rw [List.length_map] at hf1
      refine acall_cw (rs := [.tmp 4]) Tryz.checked.mixed Tryz.func50 Tryz.ntmps50 rfl rfl rfl rfl rfl ?_
      simp -implicitDefEqProofs (disch := omega) only [go_sem]
      with_reducible refine split2 (fun hb => ?_) (fun hb => ?_) <;> have h := hb <;> (try simp only [wf_preprocess] at h) <;> simp -implicitDefEqProofs (disch := omega) only [go_sem, hb] <;> (repeat (with_reducible refine And.intro ?_ ?_; focus first | omega | rfl | assumption | exact ⟨_, rfl, rfl⟩ | (simp; omega) | (simp; done)))
      · exact int_eq (sub1_no (by omega)).symm
      refine loop_at (ι := Nat × Int) Tryz.checked.mixed rfl [0, 1, 5] (fun y => [.c (.d (.sl (xs.map MArm.enc))), .c (.d (.i .i64 y.2)), .c (.d (.i .i64 y.1))]) (fun _ => [] :: S)
        (fun y => y.1 ≤ xs.length ∧ 0 ≤ y.2 ∧ y.2 ≤ 1048576 ∧ sub1 y.2 (szRows ((xs.map MArm.enc).drop y.1)) = sub1 left (xs.length + szRows (xs.map MArm.enc))) (fun y => xs.length - y.1) (0, left - xs.length) rfl rfl ⟨by omega, by omega, by omega, ?_⟩ ?_
      · unfold sub1
        rw [List.drop_zero]
        split <;> split <;> omega
      rintro ⟨i, l⟩ ⟨p1, p2, p3, p4⟩
      simp only at p1 p2 p3 p4
      simp -implicitDefEqProofs (disch := omega) only [go_sem]
      with_reducible refine split2 (fun hb => ?_) (fun hb => ?_) <;> have h := hb <;> (try simp only [wf_preprocess] at h) <;> simp -implicitDefEqProofs (disch := omega) only [go_sem, hb] <;> (repeat (with_reducible refine And.intro ?_ ?_; focus first | omega | rfl | assumption | exact ⟨_, rfl, rfl⟩ | (simp; omega) | (simp; done)))
      · have hi : i < xs.length := by omega
        rw [List.drop_eq_getElem_cons (by rw [List.length_map]; exact hi), szRows, List.getElem_map, MArm.sz_def] at p4
        (repeat (with_reducible refine And.intro ?_ ?_; focus first | omega | rfl | assumption | exact ⟨_, rfl, rfl⟩ | (simp; omega) | (simp; done)))
        refine call_w (ihArm xs[i] (by have := List.sizeOf_lt_of_mem (List.getElem_mem hi); omega) _ (by omega) (by omega) (hf2 _ (List.mem_map_of_mem (List.getElem_mem hi)))) ?_
        simp -implicitDefEqProofs (disch := omega) only [go_sem]
        with_reducible refine split2 (fun hb => ?_) (fun hb => ?_) <;> have h := hb <;> (try simp only [wf_preprocess] at h) <;> simp -implicitDefEqProofs (disch := omega) only [go_sem, hb] <;> (repeat (with_reducible refine And.intro ?_ ?_; focus first | omega | rfl | assumption | exact ⟨_, rfl, rfl⟩ | (simp; omega) | (simp; done)))
        · have h' := sub1_neg h
          rw [← p4, sub1_no (by omega)]
        · have h' := sub1_nn h
          refine inv_at (i + 1, sub1 l _) (by simp only; omega) rfl rfl ⟨by simp only; omega, by simp only; omega, by simp only; omega, ?_⟩
          simp only
          rw [← p4, h'.1]
          unfold sub1
          split <;> split <;> omega
      · have hi : i = xs.length := by omega
        rw [hi, List.drop_of_length_le (by simp), szRows, sub1_yes (by omega)] at p4
        rw [← p4]
        refine int_eq ?_
        omega
theorem szExpr_ok (x : MExpr) : ∀ left : Int, 0 ≤ left → left ≤ 1048576 → FitL x.enc → PCall Tryz.prog 11 [x.v, .c (.d (.i .i64 left))] (.c (.d (.i .i64 (sub1 left x.sz)))) := (szExpr_all _).1 x (Nat.lt_succ_self _)
theorem toExpr_all : ∀ n : Nat, (∀ x : MExpr, SizeOf.sizeOf x < n → x.sz ≤ 1048576 → PCall Tryz.prog 14 [x.v] x.v) ∧
    (∀ xs : List MExpr, SizeOf.sizeOf xs < n → xs.length + szRows (xs.map MExpr.enc) ≤ 1048576 → PCall Tryz.prog 54 [.c (.d (.sl (xs.map MExpr.enc)))] (.c (.d (.sl (xs.map MExpr.enc))))) ∧
    (∀ x : MArm, SizeOf.sizeOf x < n → x.sz ≤ 1048576 → PCall Tryz.prog 131 [x.v] x.v) ∧
    (∀ xs : List MArm, SizeOf.sizeOf xs < n → xs.length + szRows (xs.map MArm.enc) ≤ 1048576 → PCall Tryz.prog 55 [.c (.d (.sl (xs.map MArm.enc)))] (.c (.d (.sl (xs.map MArm.enc)))))
  | 0 => ⟨fun x h => by omega, fun x h => by omega, fun x h => by omega, fun x h => by omega⟩
  | n + 1 => by
    obtain ⟨ihExpr, ihSExpr, ihArm, ihSArm⟩ := toExpr_all n
    refine ⟨fun x hn hsz S => ?_, fun xs hn hsz S => ?_, fun x hn hsz S => ?_, fun xs hn hsz S => ?_⟩
    · have lArgs := MExpr.lt_Args x
      have lArms := MExpr.lt_Arms x
      simp only [MExpr.sz, MExpr.enc_eq, szRow, szRow_append, D.sz, List.length_map, MType.sz_def] at hsz
      refine acall_cw (rs := [.cell 2 45]) Tryz.checked.mixed Tryz.func14 Tryz.ntmps14 rfl rfl rfl rfl rfl ?_
      simp -implicitDefEqProofs (disch := omega) only [go_sem]
      refine call_w (toType_ok x.fType (by omega)) ?_
      simp -implicitDefEqProofs (disch := omega) only [go_sem]
      refine call_w (ihSExpr x.fArgs (by omega) (by omega)) ?_
      simp -implicitDefEqProofs (disch := omega) only [go_sem]
      refine call_w (ihSArm x.fArms (by omega) (by omega)) ?_
      simp -implicitDefEqProofs (disch := omega) only [go_sem]
    · refine acall_cw (rs := [.tmp 2]) Tryz.checked.mixed Tryz.func54 Tryz.ntmps54 rfl rfl rfl rfl rfl ?_
      simp -implicitDefEqProofs (disch := omega) only [go_sem]
      (repeat (with_reducible refine And.intro ?_ ?_; focus first | omega | rfl | assumption | exact ⟨_, rfl, rfl⟩ | (simp; omega) | (simp; done)))
      refine loop_at (ι := Nat × List (List D)) Tryz.checked.mixed rfl [0, 3, 4] (fun y => [.c (.d (.sl (xs.map MExpr.enc))), .c (.msl (0, 0)), .c (.d (.i .i64 y.1))]) (fun y => [.mrow 9 y.2] :: S)
        (fun y => y.1 ≤ xs.length ∧ Filled 9 y.1 y.2 (xs.map MExpr.enc)) (fun y => xs.length - y.1) (0, _) rfl rfl ⟨Nat.zero_le _, Filled.start (by simp) rfl⟩ ?_
      rintro ⟨i, R⟩ ⟨p1, p2⟩
      simp only at p1 p2
      simp -implicitDefEqProofs (disch := omega) only [go_sem]
      with_reducible refine split2 (fun hb => ?_) (fun hb => ?_) <;> have h := hb <;> (try simp only [wf_preprocess] at h) <;> simp -implicitDefEqProofs (disch := omega) only [go_sem, hb] <;> (repeat (with_reducible refine And.intro ?_ ?_; focus first | omega | rfl | assumption | exact ⟨_, rfl, rfl⟩ | (simp; omega) | (simp; done)))
      · have hi : i < xs.length := by omega
        have hx : xs[i].sz ≤ szRows (xs.map MExpr.enc) := szRows_mem (List.mem_map_of_mem (List.getElem_mem hi))
        (repeat (with_reducible refine And.intro ?_ ?_; focus first | omega | rfl | assumption | exact ⟨_, rfl, rfl⟩ | (simp; omega) | (simp; done)))
        refine call_w (ihExpr xs[i] (by have := List.sizeOf_lt_of_mem (List.getElem_mem hi); omega) (by omega)) ?_
        simp -implicitDefEqProofs (disch := omega) only [go_sem]
        have hR := p2.1
        rw [List.length_map] at hR
        (repeat (with_reducible refine And.intro ?_ ?_; focus first | omega | rfl | assumption | exact ⟨_, rfl, rfl⟩ | (simp; omega) | (simp; done)))
        refine inv_at (i + 1, _) (by simp only; omega) rfl rfl ⟨by simp only; omega, p2.step (by simp [hi, MExpr.enc_eq, MType.enc_eq]) rfl⟩
      · have hi : i = xs.length := by omega
        rw [p2.done (by rw [List.length_map]; omega)]
    · have lBody := MArm.lt_Body x
      simp only [MArm.sz, MArm.enc_eq, szRow, szRow_append, D.sz, List.length_map, MExpr.sz_def] at hsz
      refine acall_cw (rs := [.cell 2 106]) Tryz.checked.mixed Tryz.func131 Tryz.ntmps131 rfl rfl rfl rfl rfl ?_
      simp -implicitDefEqProofs (disch := omega) only [go_sem]
      refine call_w (toStringS_ok x.fVars (by omega)) ?_
      simp -implicitDefEqProofs (disch := omega) only [go_sem]
      refine call_w (ihExpr x.fBody (by omega) (by omega)) ?_
      simp -implicitDefEqProofs (disch := omega) only [go_sem]
    · refine acall_cw (rs := [.tmp 2]) Tryz.checked.mixed Tryz.func55 Tryz.ntmps55 rfl rfl rfl rfl rfl ?_
      simp -implicitDefEqProofs (disch := omega) only [go_sem]
      (repeat (with_reducible refine And.intro ?_ ?_; focus first | omega | rfl | assumption | exact ⟨_, rfl, rfl⟩ | (simp; omega) | (simp; done)))
      refine loop_at (ι := Nat × List (List D)) Tryz.checked.mixed rfl [0, 3, 4] (fun y => [.c (.d (.sl (xs.map MArm.enc))), .c (.msl (0, 0)), .c (.d (.i .i64 y.1))]) (fun y => [.mrow 11 y.2] :: S)
        (fun y => y.1 ≤ xs.length ∧ Filled 11 y.1 y.2 (xs.map MArm.enc)) (fun y => xs.length - y.1) (0, _) rfl rfl ⟨Nat.zero_le _, Filled.start (by simp) rfl⟩ ?_
      rintro ⟨i, R⟩ ⟨p1, p2⟩
      simp only at p1 p2
      simp -implicitDefEqProofs (disch := omega) only [go_sem]
      with_reducible refine split2 (fun hb => ?_) (fun hb => ?_) <;> have h := hb <;> (try simp only [wf_preprocess] at h) <;> simp -implicitDefEqProofs (disch := omega) only [go_sem, hb] <;> (repeat (with_reducible refine And.intro ?_ ?_; focus first | omega | rfl | assumption | exact ⟨_, rfl, rfl⟩ | (simp; omega) | (simp; done)))
      · have hi : i < xs.length := by omega
        have hx : xs[i].sz ≤ szRows (xs.map MArm.enc) := szRows_mem (List.mem_map_of_mem (List.getElem_mem hi))
        (repeat (with_reducible refine And.intro ?_ ?_; focus first | omega | rfl | assumption | exact ⟨_, rfl, rfl⟩ | (simp; omega) | (simp; done)))
        refine call_w (ihArm xs[i] (by have := List.sizeOf_lt_of_mem (List.getElem_mem hi); omega) (by omega)) ?_
        simp -implicitDefEqProofs (disch := omega) only [go_sem]
        have hR := p2.1
        rw [List.length_map] at hR
        (repeat (with_reducible refine And.intro ?_ ?_; focus first | omega | rfl | assumption | exact ⟨_, rfl, rfl⟩ | (simp; omega) | (simp; done)))
        refine inv_at (i + 1, _) (by simp only; omega) rfl rfl ⟨by simp only; omega, p2.step (by simp [hi, MArm.enc_eq, MExpr.enc_eq, MType.enc_eq]) rfl⟩
      · have hi : i = xs.length := by omega
        rw [p2.done (by rw [List.length_map]; omega)]
theorem toExpr_ok (x : MExpr) : x.sz ≤ 1048576 → PCall Tryz.prog 14 [x.v] x.v := (toExpr_all _).1 x (Nat.lt_succ_self _)
theorem eqExpr_all : ∀ n : Nat, (∀ x : MExpr, SizeOf.sizeOf x < n → ∀ y : MExpr, x.sz ≤ 1048576 → PCall Tryz.prog 17 [x.v, y.v] (.c (.d (.b (dec (x = y)))))) ∧
    (∀ xs : List MExpr, SizeOf.sizeOf xs < n → ∀ ys : List MExpr, xs.length + szRows (xs.map MExpr.enc) ≤ 1048576 → PCall Tryz.prog 60 [.c (.d (.sl (xs.map MExpr.enc))), .c (.d (.sl (ys.map MExpr.enc)))] (.c (.d (.b (dec (xs = ys)))))) ∧
    (∀ x : MArm, SizeOf.sizeOf x < n → ∀ y : MArm, x.sz ≤ 1048576 → PCall Tryz.prog 134 [x.v, y.v] (.c (.d (.b (dec (x = y)))))) ∧
    (∀ xs : List MArm, SizeOf.sizeOf xs < n → ∀ ys : List MArm, xs.length + szRows (xs.map MArm.enc) ≤ 1048576 → PCall Tryz.prog 61 [.c (.d (.sl (xs.map MArm.enc))), .c (.d (.sl (ys.map MArm.enc)))] (.c (.d (.b (dec (xs = ys))))))
  | 0 => ⟨fun x h => by omega, fun x h => by omega, fun x h => by omega, fun x h => by omega⟩
  | n + 1 => by
    obtain ⟨ihExpr, ihSExpr, ihArm, ihSArm⟩ := eqExpr_all n
    refine ⟨fun x hn y hsz S => ?_, fun xs hn ys hsz S => ?_, fun x hn y hsz S => ?_, fun xs hn ys hsz S => ?_⟩
    · have lArgs := MExpr.lt_Args x
      have lArms := MExpr.lt_Arms x
      simp only [MExpr.sz, MExpr.enc_eq, szRow, szRow_append, D.sz, List.length_map, MType.sz_def] at hsz
      refine acall_cw (rs := [.tmp 4]) Tryz.checked.mixed Tryz.func17 Tryz.ntmps17 rfl rfl rfl rfl rfl ?_
      simp -implicitDefEqProofs (disch := omega) only [go_sem]
      with_reducible refine split2 (fun hb => ?_) (fun hb => ?_) <;> have h := hb <;> (try simp only [wf_preprocess] at h) <;> simp -implicitDefEqProofs (disch := omega) only [go_sem, hb] <;> (repeat (with_reducible refine And.intro ?_ ?_; focus first | omega | rfl | assumption | exact ⟨_, rfl, rfl⟩ | (simp; omega) | (simp; done)))
      · exact bool_eq (dec_false (fun e => h (by rw [e]))).symm
      have eKind := h
      clear h
      with_reducible refine split2 (fun hb => ?_) (fun hb => ?_) <;> have h := hb <;> (try simp only [wf_preprocess] at h) <;> simp -implicitDefEqProofs (disch := omega) only [go_sem, hb] <;> (repeat (with_reducible refine And.intro ?_ ?_; focus first | omega | rfl | assumption | exact ⟨_, rfl, rfl⟩ | (simp; omega) | (simp; done)))
      · exact bool_eq (dec_false (fun e => h (by rw [e]))).symm
      have eTrait := h
      clear h
      with_reducible refine split2 (fun hb => ?_) (fun hb => ?_) <;> have h := hb <;> (try simp only [wf_preprocess] at h) <;> simp -implicitDefEqProofs (disch := omega) only [go_sem, hb] <;> (repeat (with_reducible refine And.intro ?_ ?_; focus first | omega | rfl | assumption | exact ⟨_, rfl, rfl⟩ | (simp; omega) | (simp; done)))
      · exact bool_eq (dec_false (fun e => h (by rw [e]))).symm
      have eName := h
      clear h
      with_reducible refine split2 (fun hb => ?_) (fun hb => ?_) <;> have h := hb <;> (try simp only [wf_preprocess] at h) <;> simp -implicitDefEqProofs (disch := omega) only [go_sem, hb] <;> (repeat (with_reducible refine And.intro ?_ ?_; focus first | omega | rfl | assumption | exact ⟨_, rfl, rfl⟩ | (simp; omega) | (simp; done)))
      · exact bool_eq (dec_false (fun e => h (by rw [e]))).symm
      have eN := h
      clear h
      refine call_w (eqType_ok x.fType _ (by omega)) ?_
      simp -implicitDefEqProofs (disch := omega) only [go_sem]
      with_reducible refine split2 (fun hb => ?_) (fun hb => ?_) <;> have h := hb <;> (try simp only [wf_preprocess] at h) <;> simp -implicitDefEqProofs (disch := omega) only [go_sem, hb] <;> (repeat (with_reducible refine And.intro ?_ ?_; focus first | omega | rfl | assumption | exact ⟨_, rfl, rfl⟩ | (simp; omega) | (simp; done)))
      · exact bool_eq (dec_false (fun e => h (by rw [e]))).symm
      have eType := h
      clear h
      refine call_w (ihSExpr x.fArgs (by omega) _ (by omega)) ?_
      simp -implicitDefEqProofs (disch := omega) only [go_sem]
      with_reducible refine split2 (fun hb => ?_) (fun hb => ?_) <;> have h := hb <;> (try simp only [wf_preprocess] at h) <;> simp -implicitDefEqProofs (disch := omega) only [go_sem, hb] <;> (repeat (with_reducible refine And.intro ?_ ?_; focus first | omega | rfl | assumption | exact ⟨_, rfl, rfl⟩ | (simp; omega) | (simp; done)))
      · exact bool_eq (dec_false (fun e => h (by rw [e]))).symm
      have eArgs := h
      clear h
      refine call_w (ihSArm x.fArms (by omega) _ (by omega)) ?_
      simp -implicitDefEqProofs (disch := omega) only [go_sem]
      with_reducible refine split2 (fun hb => ?_) (fun hb => ?_) <;> have h := hb <;> (try simp only [wf_preprocess] at h) <;> simp -implicitDefEqProofs (disch := omega) only [go_sem, hb] <;> (repeat (with_reducible refine And.intro ?_ ?_; focus first | omega | rfl | assumption | exact ⟨_, rfl, rfl⟩ | (simp; omega) | (simp; done)))
      · exact bool_eq (dec_false (fun e => h (by rw [e]))).symm
      have eArms := h
      clear h
      exact bool_eq (dec_true (MExpr.ext eKind eTrait eName eN eType eArgs eArms)).symm
    · refine acall_cw (rs := [.tmp 4]) Tryz.checked.mixed Tryz.func60 Tryz.ntmps60 rfl rfl rfl rfl rfl ?_
      simp -implicitDefEqProofs (disch := omega) only [go_sem]
      with_reducible refine split2 (fun hb => ?_) (fun hb => ?_) <;> have h := hb <;> (try simp only [wf_preprocess] at h) <;> simp -implicitDefEqProofs (disch := omega) only [go_sem, hb] <;> (repeat (with_reducible refine And.intro ?_ ?_; focus first | omega | rfl | assumption | exact ⟨_, rfl, rfl⟩ | (simp; omega) | (simp; done)))
      · exact bool_eq (dec_false (fun e => h (by rw [e]))).symm
      have hl : xs.length = ys.length := by omega
      refine loop_at (ι := Nat) Tryz.checked.mixed rfl [0, 1, 5] (fun y => [.c (.d (.sl (xs.map MExpr.enc))), .c (.d (.sl (ys.map MExpr.enc))), .c (.d (.i .i64 y))]) (fun y => [] :: S)
        (fun i => i ≤ xs.length ∧ ∀ j, j < i → xs[j]? = ys[j]?) (fun y => xs.length - y) 0 rfl rfl ⟨Nat.zero_le _, fun j h => by omega⟩ ?_
      rintro i ⟨p1, p2⟩
      simp -implicitDefEqProofs (disch := omega) only [go_sem]
      with_reducible refine split2 (fun hb => ?_) (fun hb => ?_) <;> have h := hb <;> (try simp only [wf_preprocess] at h) <;> simp -implicitDefEqProofs (disch := omega) only [go_sem, hb] <;> (repeat (with_reducible refine And.intro ?_ ?_; focus first | omega | rfl | assumption | exact ⟨_, rfl, rfl⟩ | (simp; omega) | (simp; done)))
      · have hi : i < xs.length := by omega
        have hi' : i < ys.length := by omega
        have hx : xs[i].sz ≤ szRows (xs.map MExpr.enc) := szRows_mem (List.mem_map_of_mem (List.getElem_mem hi))
        (repeat (with_reducible refine And.intro ?_ ?_; focus first | omega | rfl | assumption | exact ⟨_, rfl, rfl⟩ | (simp; omega) | (simp; done)))
        refine call_w (ihExpr xs[i] (by have := List.sizeOf_lt_of_mem (List.getElem_mem hi); omega) ys[i] (by omega)) ?_
        simp -implicitDefEqProofs (disch := omega) only [go_sem]
        with_reducible refine split2 (fun hb => ?_) (fun hb => ?_) <;> have h := hb <;> (try simp only [wf_preprocess] at h) <;> simp -implicitDefEqProofs (disch := omega) only [go_sem, hb] <;> (repeat (with_reducible refine And.intro ?_ ?_; focus first | omega | rfl | assumption | exact ⟨_, rfl, rfl⟩ | (simp; omega) | (simp; done)))
        · exact bool_eq (dec_false (fun e => h (by simp only [e]))).symm
        refine inv_at (i + 1) (by omega) rfl rfl ⟨by omega, fun j hj => ?_⟩
        by_cases e : j = i
        · subst e
          rw [List.getElem?_eq_getElem hi, List.getElem?_eq_getElem hi', h]
        · exact p2 j (by omega)
      · have hi : i = xs.length := by omega
        refine bool_eq (dec_true (List.ext_getElem? fun j => ?_)).symm
        by_cases hj : j < i
        · exact p2 j hj
        · rw [List.getElem?_eq_none (by omega), List.getElem?_eq_none (by omega)]
    · have lBody := MArm.lt_Body x
      simp only [MArm.sz, MArm.enc_eq, szRow, szRow_append, D.sz, List.length_map, MExpr.sz_def] at hsz
      refine acall_cw (rs := [.tmp 4]) Tryz.checked.mixed Tryz.func134 Tryz.ntmps134 rfl rfl rfl rfl rfl ?_
      simp -implicitDefEqProofs (disch := omega) only [go_sem]
      with_reducible refine split2 (fun hb => ?_) (fun hb => ?_) <;> have h := hb <;> (try simp only [wf_preprocess] at h) <;> simp -implicitDefEqProofs (disch := omega) only [go_sem, hb] <;> (repeat (with_reducible refine And.intro ?_ ?_; focus first | omega | rfl | assumption | exact ⟨_, rfl, rfl⟩ | (simp; omega) | (simp; done)))
      · exact bool_eq (dec_false (fun e => h (by rw [e]))).symm
      have eConstructor := h
      clear h
      refine call_w (eqStringS_ok x.fVars _ (by omega)) ?_
      simp -implicitDefEqProofs (disch := omega) only [go_sem]
      with_reducible refine split2 (fun hb => ?_) (fun hb => ?_) <;> have h := hb <;> (try simp only [wf_preprocess] at h) <;> simp -implicitDefEqProofs (disch := omega) only [go_sem, hb] <;> (repeat (with_reducible refine And.intro ?_ ?_; focus first | omega | rfl | assumption | exact ⟨_, rfl, rfl⟩ | (simp; omega) | (simp; done)))
      · exact bool_eq (dec_false (fun e => h (by rw [e]))).symm
      have eVars := h
      clear h
      refine call_w (ihExpr x.fBody (by omega) _ (by omega)) ?_
      simp -implicitDefEqProofs (disch := omega) only [go_sem]
      with_reducible refine split2 (fun hb => ?_) (fun hb => ?_) <;> have h := hb <;> (try simp only [wf_preprocess] at h) <;> simp -implicitDefEqProofs (disch := omega) only [go_sem, hb] <;> (repeat (with_reducible refine And.intro ?_ ?_; focus first | omega | rfl | assumption | exact ⟨_, rfl, rfl⟩ | (simp; omega) | (simp; done)))
      · exact bool_eq (dec_false (fun e => h (by rw [e]))).symm
      have eBody := h
      clear h
      exact bool_eq (dec_true (MArm.ext eConstructor eVars eBody)).symm
    · refine acall_cw (rs := [.tmp 4]) Tryz.checked.mixed Tryz.func61 Tryz.ntmps61 rfl rfl rfl rfl rfl ?_
      simp -implicitDefEqProofs (disch := omega) only [go_sem]
      with_reducible refine split2 (fun hb => ?_) (fun hb => ?_) <;> have h := hb <;> (try simp only [wf_preprocess] at h) <;> simp -implicitDefEqProofs (disch := omega) only [go_sem, hb] <;> (repeat (with_reducible refine And.intro ?_ ?_; focus first | omega | rfl | assumption | exact ⟨_, rfl, rfl⟩ | (simp; omega) | (simp; done)))
      · exact bool_eq (dec_false (fun e => h (by rw [e]))).symm
      have hl : xs.length = ys.length := by omega
      refine loop_at (ι := Nat) Tryz.checked.mixed rfl [0, 1, 5] (fun y => [.c (.d (.sl (xs.map MArm.enc))), .c (.d (.sl (ys.map MArm.enc))), .c (.d (.i .i64 y))]) (fun y => [] :: S)
        (fun i => i ≤ xs.length ∧ ∀ j, j < i → xs[j]? = ys[j]?) (fun y => xs.length - y) 0 rfl rfl ⟨Nat.zero_le _, fun j h => by omega⟩ ?_
      rintro i ⟨p1, p2⟩
      simp -implicitDefEqProofs (disch := omega) only [go_sem]
      with_reducible refine split2 (fun hb => ?_) (fun hb => ?_) <;> have h := hb <;> (try simp only [wf_preprocess] at h) <;> simp -implicitDefEqProofs (disch := omega) only [go_sem, hb] <;> (repeat (with_reducible refine And.intro ?_ ?_; focus first | omega | rfl | assumption | exact ⟨_, rfl, rfl⟩ | (simp; omega) | (simp; done)))
      · have hi : i < xs.length := by omega
        have hi' : i < ys.length := by omega
        have hx : xs[i].sz ≤ szRows (xs.map MArm.enc) := szRows_mem (List.mem_map_of_mem (List.getElem_mem hi))
        (repeat (with_reducible refine And.intro ?_ ?_; focus first | omega | rfl | assumption | exact ⟨_, rfl, rfl⟩ | (simp; omega) | (simp; done)))
        refine call_w (ihArm xs[i] (by have := List.sizeOf_lt_of_mem (List.getElem_mem hi); omega) ys[i] (by omega)) ?_
        simp -implicitDefEqProofs (disch := omega) only [go_sem]
        with_reducible refine split2 (fun hb => ?_) (fun hb => ?_) <;> have h := hb <;> (try simp only [wf_preprocess] at h) <;> simp -implicitDefEqProofs (disch := omega) only [go_sem, hb] <;> (repeat (with_reducible refine And.intro ?_ ?_; focus first | omega | rfl | assumption | exact ⟨_, rfl, rfl⟩ | (simp; omega) | (simp; done)))
        · exact bool_eq (dec_false (fun e => h (by simp only [e]))).symm
        refine inv_at (i + 1) (by omega) rfl rfl ⟨by omega, fun j hj => ?_⟩
        by_cases e : j = i
        · subst e
          rw [List.getElem?_eq_getElem hi, List.getElem?_eq_getElem hi', h]
        · exact p2 j (by omega)
      · have hi : i = xs.length := by omega
        refine bool_eq (dec_true (List.ext_getElem? fun j => ?_)).symm
        by_cases hj : j < i
        · exact p2 j hj
        · rw [List.getElem?_eq_none (by omega), List.getElem?_eq_none (by omega)]
theorem eqExpr_ok (x : MExpr) : ∀ y : MExpr, x.sz ≤ 1048576 → PCall Tryz.prog 17 [x.v, y.v] (.c (.d (.b (dec (x = y))))) := (eqExpr_all _).1 x (Nat.lt_succ_self _)
end Go.Proofs.YtnleocfkdidhoaaGreat

namespace Go.Proofs.YtnleocfkdidhoaaGreat
open Go Go.Ab
end Go.Proofs.YtnleocfkdidhoaaGreat

namespace Go.Proofs.YtnleocfkdidhoaaGreat
open Go Go.Ab
theorem szSignature_ok (x : MSignature) : ∀ left : Int, 0 ≤ left → left ≤ 1048576 → FitL x.enc → PCall Tryz.prog 252 [x.v, .c (.d (.i .i64 left))] (.c (.d (.i .i64 (sub1 left x.sz)))) := by
  intro left h0 h1 hf S
  simp only [MSignature.enc_eq, List.cons_append, List.nil_append, fitL_cons, fitL_append, fitL_nil_iff, and_true] at hf
  obtain ⟨fName, fParams, fResult, fHasDefault, fVars, fBody⟩ := hf
  have hz : x.sz = x.fName.length + ((x.fParams.length + szRows (x.fParams.map MType.enc)) + (x.fResult.sz + ((x.fVars.length + szRows (x.fVars.map encS)) + (x.fBody.sz)))) := by
    simp only [MSignature.sz, MSignature.enc_eq, szRow, szRow_append, D.sz, List.length_map, Nat.add_zero, Nat.zero_add, MExpr.sz_def, MType.sz_def] <;> omega
  refine acall_cw (rs := [.tmp 4]) Tryz.checked.mixed Tryz.func252 Tryz.ntmps252 rfl rfl rfl rfl rfl ?_
  rw [hz]
  have gName := fit_s fName
  simp -implicitDefEqProofs (disch := omega) only [go_sem]
  with_reducible refine split2 (fun hb => ?_) (fun hb => ?_) <;> have h := hb <;> (try simp only [wf_preprocess] at h) <;> simp -implicitDefEqProofs (disch := omega) only [go_sem, hb] <;> (repeat (with_reducible refine And.intro ?_ ?_; focus first | omega | rfl | assumption | exact ⟨_, rfl, rfl⟩ | (simp; omega) | (simp; done)))
  · exact int_eq (sub1_no (by omega)).symm
  refine call_w (szTypeS_ok x.fParams _ (by omega) (by omega) fParams) ?_
  simp -implicitDefEqProofs (disch := omega) only [go_sem]
  with_reducible refine split2 (fun hb => ?_) (fun hb => ?_) <;> have h := hb <;> (try simp only [wf_preprocess] at h) <;> simp -implicitDefEqProofs (disch := omega) only [go_sem, hb] <;> (repeat (with_reducible refine And.intro ?_ ?_; focus first | omega | rfl | assumption | exact ⟨_, rfl, rfl⟩ | (simp; omega) | (simp; done)))
  · have h' := sub1_neg h
    exact int_eq (sub1_no (by omega)).symm
  have hParams := sub1_nn h
  simp only [hParams.1]
  refine call_w (szType_ok x.fResult _ (by omega) (by omega) fResult) ?_
  simp -implicitDefEqProofs (disch := omega) only [go_sem]
  with_reducible refine split2 (fun hb => ?_) (fun hb => ?_) <;> have h := hb <;> (try simp only [wf_preprocess] at h) <;> simp -implicitDefEqProofs (disch := omega) only [go_sem, hb] <;> (repeat (with_reducible refine And.intro ?_ ?_; focus first | omega | rfl | assumption | exact ⟨_, rfl, rfl⟩ | (simp; omega) | (simp; done)))
  · have h' := sub1_neg h
    exact int_eq (sub1_no (by omega)).symm
  have hResult := sub1_nn h
  simp only [hResult.1]
  refine call_w (szStringS_ok x.fVars _ (by omega) (by omega) fVars) ?_
  simp -implicitDefEqProofs (disch := omega) only [go_sem]
  with_reducible refine split2 (fun hb => ?_) (fun hb => ?_) <;> have h := hb <;> (try simp only [wf_preprocess] at h) <;> simp -implicitDefEqProofs (disch := omega) only [go_sem, hb] <;> (repeat (with_reducible refine And.intro ?_ ?_; focus first | omega | rfl | assumption | exact ⟨_, rfl, rfl⟩ | (simp; omega) | (simp; done)))
  · have h' := sub1_neg h
    exact int_eq (sub1_no (by omega)).symm
  have hVars := sub1_nn h
  simp only [hVars.1]
  refine call_w (szExpr_ok x.fBody _ (by omega) (by omega) fBody) ?_
  simp -implicitDefEqProofs (disch := omega) only [go_sem]
  with_reducible refine split2 (fun hb => ?_) (fun hb => ?_) <;> have h := hb <;> (try simp only [wf_preprocess] at h) <;> simp -implicitDefEqProofs (disch := omega) only [go_sem, hb] <;> (repeat (with_reducible refine And.intro ?_ ?_; focus first | omega | rfl | assumption | exact ⟨_, rfl, rfl⟩ | (simp; omega) | (simp; done)))
  · have h' := sub1_neg h
    exact int_eq (sub1_no (by omega)).symm
  have hBody := sub1_nn h
  simp only [hBody.1]
  refine int_eq ?_
  rw [sub1_yes (by omega)]
  omega
theorem szSignatureS_ok (xs : List MSignature) : ∀ left : Int, 0 ≤ left → left ≤ 1048576 → (D.sl (xs.map MSignature.enc)).Fit → PCall Tryz.prog 206 [.c (.d (.sl (xs.map MSignature.enc))), .c (.d (.i .i64 left))] (.c (.d (.i .i64 (sub1 left (xs.length + szRows (xs.map MSignature.enc)))))) := by
  intro left h0 h1 hf S
  obtain ⟨hf1, hf2⟩ := fit_sl hf
  rw [List.length_map] at hf1
  refine acall_cw (rs := [.tmp 4]) Tryz.checked.mixed Tryz.func206 Tryz.ntmps206 rfl rfl rfl rfl rfl ?_
  simp -implicitDefEqProofs (disch := omega) only [go_sem]
  with_reducible refine split2 (fun hb => ?_) (fun hb => ?_) <;> have h := hb <;> (try simp only [wf_preprocess] at h) <;> simp -implicitDefEqProofs (disch := omega) only [go_sem, hb] <;> (repeat (with_reducible refine And.intro ?_ ?_; focus first | omega | rfl | assumption | exact ⟨_, rfl, rfl⟩ | (simp; omega) | (simp; done)))
  · exact int_eq (sub1_no (by omega)).symm
  refine loop_at (ι := Nat × Int) Tryz.checked.mixed rfl [0, 1, 5] (fun y => [.c (.d (.sl (xs.map MSignature.enc))), .c (.d (.i .i64 y.2)), .c (.d (.i .i64 y.1))]) (fun _ => [] :: S)
    (fun y => y.1 ≤ xs.length ∧ 0 ≤ y.2 ∧ y.2 ≤ 1048576 ∧ sub1 y.2 (szRows ((xs.map MSignature.enc).drop y.1)) = sub1 left (xs.length + szRows (xs.map MSignature.enc))) (fun y => xs.length - y.1) (0, left - xs.length) rfl rfl ⟨by omega, by omega, by omega, ?_⟩ ?_
  · unfold sub1
    rw [List.drop_zero]
    split <;> split <;> omega
  rintro ⟨i, l⟩ ⟨p1, p2, p3, p4⟩
  simp only at p1 p2 p3 p4
  simp -implicitDefEqProofs (disch := omega) only [go_sem]
  with_reducible refine split2 (fun hb => ?_) (fun hb => ?_) <;> have h := hb <;> (try simp only [wf_preprocess] at h) <;> simp -implicitDefEqProofs (disch := omega) only [go_sem, hb] <;> (repeat (with_reducible refine And.intro ?_ ?_; focus first | omega | rfl | assumption | exact ⟨_, rfl, rfl⟩ | (simp; omega) | (simp; done)))
  · have hi : i < xs.length := by omega
    rw [List.drop_eq_getElem_cons (by rw [List.length_map]; exact hi), szRows, List.getElem_map, MSignature.sz_def] at p4
    (repeat (with_reducible refine And.intro ?_ ?_; focus first | omega | rfl | assumption | exact ⟨_, rfl, rfl⟩ | (simp; omega) | (simp; done)))
    refine call_w (szSignature_ok xs[i] _ (by omega) (by omega) (hf2 _ (List.mem_map_of_mem (List.getElem_mem hi)))) ?_
    simp -implicitDefEqProofs (disch := omega) only [go_sem]
    with_reducible refine split2 (fun hb => ?_) (fun hb => ?_) <;> have h := hb <;> (try simp only [wf_preprocess] at h) <;> simp -implicitDefEqProofs (disch := omega) only [go_sem, hb] <;> (repeat (with_reducible refine And.intro ?_ ?_; focus first | omega | rfl | assumption | exact ⟨_, rfl, rfl⟩ | (simp; omega) | (simp; done)))
    · have h' := sub1_neg h
      rw [← p4, sub1_no (by omega)]
    · have h' := sub1_nn h
      refine inv_at (i + 1, sub1 l _) (by simp only; omega) rfl rfl ⟨by simp only; omega, by simp only; omega, by simp only; omega, ?_⟩
      simp only
      rw [← p4, h'.1]
      unfold sub1
      split <;> split <;> omega
  · have hi : i = xs.length := by omega
    rw [hi, List.drop_of_length_le (by simp), szRows, sub1_yes (by omega)] at p4
    rw [← p4]
    refine int_eq ?_
    omega
theorem toSignature_ok (x : MSignature) : x.sz ≤ 1048576 → PCall Tryz.prog 264 [x.v] x.v := by
  intro hsz S
  simp only [MSignature.sz, MSignature.enc_eq, szRow, szRow_append, D.sz, List.length_map, MExpr.sz_def, MType.sz_def] at hsz
  refine acall_cw (rs := [.cell 2 180]) Tryz.checked.mixed Tryz.func264 Tryz.ntmps264 rfl rfl rfl rfl rfl ?_
  simp -implicitDefEqProofs (disch := omega) only [go_sem]
  refine call_w (toTypeS_ok x.fParams (by omega)) ?_
  simp -implicitDefEqProofs (disch := omega) only [go_sem]
  refine call_w (toType_ok x.fResult (by omega)) ?_
  simp -implicitDefEqProofs (disch := omega) only [go_sem]
  refine call_w (toStringS_ok x.fVars (by omega)) ?_
  simp -implicitDefEqProofs (disch := omega) only [go_sem]
  refine call_w (toExpr_ok x.fBody (by omega)) ?_
  simp -implicitDefEqProofs (disch := omega) only [go_sem]
theorem toSignatureS_ok (xs : List MSignature) : xs.length + szRows (xs.map MSignature.enc) ≤ 1048576 → PCall Tryz.prog 219 [.c (.d (.sl (xs.map MSignature.enc)))] (.c (.d (.sl (xs.map MSignature.enc)))) := by
  intro hsz S
  refine acall_cw (rs := [.tmp 2]) Tryz.checked.mixed Tryz.func219 Tryz.ntmps219 rfl rfl rfl rfl rfl ?_
  simp -implicitDefEqProofs (disch := omega) only [go_sem]
  (repeat (with_reducible refine And.intro ?_ ?_; focus first | omega | rfl | assumption | exact ⟨_, rfl, rfl⟩ | (simp; omega) | (simp; done)))
  refine loop_at (ι := Nat × List (List D)) Tryz.checked.mixed rfl [0, 3, 4] (fun y => [.c (.d (.sl (xs.map MSignature.enc))), .c (.msl (0, 0)), .c (.d (.i .i64 y.1))]) (fun y => [.mrow 16 y.2] :: S)
    (fun y => y.1 ≤ xs.length ∧ Filled 16 y.1 y.2 (xs.map MSignature.enc)) (fun y => xs.length - y.1) (0, _) rfl rfl ⟨Nat.zero_le _, Filled.start (by simp) rfl⟩ ?_
  rintro ⟨i, R⟩ ⟨p1, p2⟩
  simp only at p1 p2
  simp -implicitDefEqProofs (disch := omega) only [go_sem]
  with_reducible refine split2 (fun hb => ?_) (fun hb => ?_) <;> have h := hb <;> (try simp only [wf_preprocess] at h) <;> simp -implicitDefEqProofs (disch := omega) only [go_sem, hb] <;> (repeat (with_reducible refine And.intro ?_ ?_; focus first | omega | rfl | assumption | exact ⟨_, rfl, rfl⟩ | (simp; omega) | (simp; done)))
  · have hi : i < xs.length := by omega
    have hx : xs[i].sz ≤ szRows (xs.map MSignature.enc) := szRows_mem (List.mem_map_of_mem (List.getElem_mem hi))
    (repeat (with_reducible refine And.intro ?_ ?_; focus first | omega | rfl | assumption | exact ⟨_, rfl, rfl⟩ | (simp; omega) | (simp; done)))
    refine call_w (toSignature_ok xs[i] (by omega)) ?_
    simp -implicitDefEqProofs (disch := omega) only [go_sem]
    have hR := p2.1
    rw [List.length_map] at hR
    (repeat (with_reducible refine And.intro ?_ ?_; focus first | omega | rfl | assumption | exact ⟨_, rfl, rfl⟩ | (simp; omega) | (simp; done)))
    refine inv_at (i + 1, _) (by simp only; omega) rfl rfl ⟨by simp only; omega, p2.step (by simp [hi, MExpr.enc_eq, MSignature.enc_eq, MType.enc_eq]) rfl⟩
  · have hi : i = xs.length := by omega
    rw [p2.done (by rw [List.length_map]; omega)]
theorem eqSignature_ok (x : MSignature) : ∀ y : MSignature, x.sz ≤ 1048576 → PCall Tryz.prog 279 [x.v, y.v] (.c (.d (.b (dec (x = y))))) := by
  intro y hsz S
  simp only [MSignature.sz, MSignature.enc_eq, szRow, szRow_append, D.sz, List.length_map, MExpr.sz_def, MType.sz_def] at hsz
  refine acall_cw (rs := [.tmp 4]) Tryz.checked.mixed Tryz.func279 Tryz.ntmps279 rfl rfl rfl rfl rfl ?_
  simp -implicitDefEqProofs (disch := omega) only [go_sem]
  with_reducible refine split2 (fun hb => ?_) (fun hb => ?_) <;> have h := hb <;> (try simp only [wf_preprocess] at h) <;> simp -implicitDefEqProofs (disch := omega) only [go_sem, hb] <;> (repeat (with_reducible refine And.intro ?_ ?_; focus first | omega | rfl | assumption | exact ⟨_, rfl, rfl⟩ | (simp; omega) | (simp; done)))
  · exact bool_eq (dec_false (fun e => h (by rw [e]))).symm
  have eName := h
  clear h
  refine call_w (eqTypeS_ok x.fParams _ (by omega)) ?_
  simp -implicitDefEqProofs (disch := omega) only [go_sem]
  with_reducible refine split2 (fun hb => ?_) (fun hb => ?_) <;> have h := hb <;> (try simp only [wf_preprocess] at h) <;> simp -implicitDefEqProofs (disch := omega) only [go_sem, hb] <;> (repeat (with_reducible refine And.intro ?_ ?_; focus first | omega | rfl | assumption | exact ⟨_, rfl, rfl⟩ | (simp; omega) | (simp; done)))
  · exact bool_eq (dec_false (fun e => h (by rw [e]))).symm
  have eParams := h
  clear h
  refine call_w (eqType_ok x.fResult _ (by omega)) ?_
  simp -implicitDefEqProofs (disch := omega) only [go_sem]
  with_reducible refine split2 (fun hb => ?_) (fun hb => ?_) <;> have h := hb <;> (try simp only [wf_preprocess] at h) <;> simp -implicitDefEqProofs (disch := omega) only [go_sem, hb] <;> (repeat (with_reducible refine And.intro ?_ ?_; focus first | omega | rfl | assumption | exact ⟨_, rfl, rfl⟩ | (simp; omega) | (simp; done)))
  · exact bool_eq (dec_false (fun e => h (by rw [e]))).symm
  have eResult := h
  clear h
  with_reducible refine split2 (fun hb => ?_) (fun hb => ?_) <;> have h := hb <;> (try simp only [wf_preprocess] at h) <;> simp -implicitDefEqProofs (disch := omega) only [go_sem, hb] <;> (repeat (with_reducible refine And.intro ?_ ?_; focus first | omega | rfl | assumption | exact ⟨_, rfl, rfl⟩ | (simp; omega) | (simp; done)))
  · exact bool_eq (dec_false (fun e => h (by rw [e]))).symm
  have eHasDefault := h
  clear h
  refine call_w (eqStringS_ok x.fVars _ (by omega)) ?_
  simp -implicitDefEqProofs (disch := omega) only [go_sem]
  with_reducible refine split2 (fun hb => ?_) (fun hb => ?_) <;> have h := hb <;> (try simp only [wf_preprocess] at h) <;> simp -implicitDefEqProofs (disch := omega) only [go_sem, hb] <;> (repeat (with_reducible refine And.intro ?_ ?_; focus first | omega | rfl | assumption | exact ⟨_, rfl, rfl⟩ | (simp; omega) | (simp; done)))
  · exact bool_eq (dec_false (fun e => h (by rw [e]))).symm
  have eVars := h
  clear h
  refine call_w (eqExpr_ok x.fBody _ (by omega)) ?_
  simp -implicitDefEqProofs (disch := omega) only [go_sem]
  with_reducible refine split2 (fun hb => ?_) (fun hb => ?_) <;> have h := hb <;> (try simp only [wf_preprocess] at h) <;> simp -implicitDefEqProofs (disch := omega) only [go_sem, hb] <;> (repeat (with_reducible refine And.intro ?_ ?_; focus first | omega | rfl | assumption | exact ⟨_, rfl, rfl⟩ | (simp; omega) | (simp; done)))
  · exact bool_eq (dec_false (fun e => h (by rw [e]))).symm
  have eBody := h
  clear h
  exact bool_eq (dec_true (MSignature.ext' eName eParams eResult eHasDefault eVars eBody)).symm
theorem eqSignatureS_ok (xs : List MSignature) : ∀ ys : List MSignature, xs.length + szRows (xs.map MSignature.enc) ≤ 1048576 → PCall Tryz.prog 237 [.c (.d (.sl (xs.map MSignature.enc))), .c (.d (.sl (ys.map MSignature.enc)))] (.c (.d (.b (dec (xs = ys))))) := by
  intro ys hsz S
  refine acall_cw (rs := [.tmp 4]) Tryz.checked.mixed Tryz.func237 Tryz.ntmps237 rfl rfl rfl rfl rfl ?_
  simp -implicitDefEqProofs (disch := omega) only [go_sem]
  with_reducible refine split2 (fun hb => ?_) (fun hb => ?_) <;> have h := hb <;> (try simp only [wf_preprocess] at h) <;> simp -implicitDefEqProofs (disch := omega) only [go_sem, hb] <;> (repeat (with_reducible refine And.intro ?_ ?_; focus first | omega | rfl | assumption | exact ⟨_, rfl, rfl⟩ | (simp; omega) | (simp; done)))
  · exact bool_eq (dec_false (fun e => h (by rw [e]))).symm
  have hl : xs.length = ys.length := by omega
  refine loop_at (ι := Nat) Tryz.checked.mixed rfl [0, 1, 5] (fun y => [.c (.d (.sl (xs.map MSignature.enc))), .c (.d (.sl (ys.map MSignature.enc))), .c (.d (.i .i64 y))]) (fun y => [] :: S)
    (fun i => i ≤ xs.length ∧ ∀ j, j < i → xs[j]? = ys[j]?) (fun y => xs.length - y) 0 rfl rfl ⟨Nat.zero_le _, fun j h => by omega⟩ ?_
  rintro i ⟨p1, p2⟩
  simp -implicitDefEqProofs (disch := omega) only [go_sem]
  with_reducible refine split2 (fun hb => ?_) (fun hb => ?_) <;> have h := hb <;> (try simp only [wf_preprocess] at h) <;> simp -implicitDefEqProofs (disch := omega) only [go_sem, hb] <;> (repeat (with_reducible refine And.intro ?_ ?_; focus first | omega | rfl | assumption | exact ⟨_, rfl, rfl⟩ | (simp; omega) | (simp; done)))
  · have hi : i < xs.length := by omega
    have hi' : i < ys.length := by omega
    have hx : xs[i].sz ≤ szRows (xs.map MSignature.enc) := szRows_mem (List.mem_map_of_mem (List.getElem_mem hi))
    (repeat (with_reducible refine And.intro ?_ ?_; focus first | omega | rfl | assumption | exact ⟨_, rfl, rfl⟩ | (simp; omega) | (simp; done)))
    refine call_w (eqSignature_ok xs[i] ys[i] (by omega)) ?_
    simp -implicitDefEqProofs (disch := omega) only [go_sem]
    with_reducible refine split2 (fun hb => ?_) (fun hb => ?_) <;> have h := hb <;> (try simp only [wf_preprocess] at h) <;> simp -implicitDefEqProofs (disch := omega) only [go_sem, hb] <;> (repeat (with_reducible refine And.intro ?_ ?_; focus first | omega | rfl | assumption | exact ⟨_, rfl, rfl⟩ | (simp; omega) | (simp; done)))
    · exact bool_eq (dec_false (fun e => h (by simp only [e]))).symm
    refine inv_at (i + 1) (by omega) rfl rfl ⟨by omega, fun j hj => ?_⟩
    by_cases e : j = i
    · subst e
      rw [List.getElem?_eq_getElem hi, List.getElem?_eq_getElem hi', h]
    · exact p2 j (by omega)
  · have hi : i = xs.length := by omega
    refine bool_eq (dec_true (List.ext_getElem? fun j => ?_)).symm
    by_cases hj : j < i
    · exact p2 j hj
    · rw [List.getElem?_eq_none (by omega), List.getElem?_eq_none (by omega)]
end Go.Proofs.YtnleocfkdidhoaaGreat

namespace Go.Proofs.YtnleocfkdidhoaaGreat
open Go Go.Ab
theorem szTrait_ok (x : MTrait) : ∀ left : Int, 0 ≤ left → left ≤ 1048576 → FitL x.enc → PCall Tryz.prog 135 [x.v, .c (.d (.i .i64 left))] (.c (.d (.i .i64 (sub1 left x.sz)))) := by
  intro left h0 h1 hf S
  simp only [MTrait.enc_eq, List.cons_append, List.nil_append, fitL_cons, fitL_append, fitL_nil_iff, and_true] at hf
  obtain ⟨fName, fSupertraits, fAuto, fAssoc, fSignatures⟩ := hf
  have hz : x.sz = x.fName.length + ((x.fSupertraits.length + szRows (x.fSupertraits.map encS)) + ((x.fSignatures.length + szRows (x.fSignatures.map MSignature.enc)))) := by
    simp only [MTrait.sz, MTrait.enc_eq, szRow, szRow_append, D.sz, List.length_map, Nat.add_zero, Nat.zero_add] <;> omega
  refine acall_cw (rs := [.tmp 4]) Tryz.checked.mixed Tryz.func135 Tryz.ntmps135 rfl rfl rfl rfl rfl ?_
  rw [hz]
  have gName := fit_s fName
  simp -implicitDefEqProofs (disch := omega) only [go_sem]
  with_reducible refine split2 (fun hb => ?_) (fun hb => ?_) <;> have h := hb <;> (try simp only [wf_preprocess] at h) <;> simp -implicitDefEqProofs (disch := omega) only [go_sem, hb] <;> (repeat (with_reducible refine And.intro ?_ ?_; focus first | omega | rfl | assumption | exact ⟨_, rfl, rfl⟩ | (simp; omega) | (simp; done)))
  · exact int_eq (sub1_no (by omega)).symm
  refine call_w (szStringS_ok x.fSupertraits _ (by omega) (by omega) fSupertraits) ?_
  simp -implicitDefEqProofs (disch := omega) only [go_sem]
  with_reducible refine split2 (fun hb => ?_) (fun hb => ?_) <;> have h := hb <;> (try simp only [wf_preprocess] at h) <;> simp -implicitDefEqProofs (disch := omega) only [go_sem, hb] <;> (repeat (with_reducible refine And.intro ?_ ?_; focus first | omega | rfl | assumption | exact ⟨_, rfl, rfl⟩ | (simp; omega) | (simp; done)))
  · have h' := sub1_neg h
    exact int_eq (sub1_no (by omega)).symm
  have hSupertraits := sub1_nn h
  simp only [hSupertraits.1]
  refine call_w (szSignatureS_ok x.fSignatures _ (by omega) (by omega) fSignatures) ?_
  simp -implicitDefEqProofs (disch := omega) only [go_sem]
  with_reducible refine split2 (fun hb => ?_) (fun hb => ?_) <;> have h := hb <;> (try simp only [wf_preprocess] at h) <;> simp -implicitDefEqProofs (disch := omega) only [go_sem, hb] <;> (repeat (with_reducible refine And.intro ?_ ?_; focus first | omega | rfl | assumption | exact ⟨_, rfl, rfl⟩ | (simp; omega) | (simp; done)))
  · have h' := sub1_neg h
    exact int_eq (sub1_no (by omega)).symm
  have hSignatures := sub1_nn h
  simp only [hSignatures.1]
  refine int_eq ?_
  rw [sub1_yes (by omega)]
  omega
theorem szTraitS_ok (xs : List MTrait) : ∀ left : Int, 0 ≤ left → left ≤ 1048576 → (D.sl (xs.map MTrait.enc)).Fit → PCall Tryz.prog 63 [.c (.d (.sl (xs.map MTrait.enc))), .c (.d (.i .i64 left))] (.c (.d (.i .i64 (sub1 left (xs.length + szRows (xs.map MTrait.enc)))))) := by
  intro left h0 h1 hf S
  obtain ⟨hf1, hf2⟩ := fit_sl hf
  rw [List.length_map] at hf1
  refine acall_cw (rs := [.tmp 4]) Tryz.checked.mixed Tryz.func63 Tryz.ntmps63 rfl rfl rfl rfl rfl ?_
  simp -implicitDefEqProofs (disch := omega) only [go_sem]
  with_reducible refine split2 (fun hb => ?_) (fun hb => ?_) <;> have h := hb <;> (try simp only [wf_preprocess] at h) <;> simp -implicitDefEqProofs (disch := omega) only [go_sem, hb] <;> (repeat (with_reducible refine And.intro ?_ ?_; focus first | omega | rfl | assumption | exact ⟨_, rfl, rfl⟩ | (simp; omega) | (simp; done)))
  · exact int_eq (sub1_no (by omega)).symm
  refine loop_at (ι := Nat × Int) Tryz.checked.mixed rfl [0, 1, 5] (fun y => [.c (.d (.sl (xs.map MTrait.enc))), .c (.d (.i .i64 y.2)), .c (.d (.i .i64 y.1))]) (fun _ => [] :: S)
    (fun y => y.1 ≤ xs.length ∧ 0 ≤ y.2 ∧ y.2 ≤ 1048576 ∧ sub1 y.2 (szRows ((xs.map MTrait.enc).drop y.1)) = sub1 left (xs.length + szRows (xs.map MTrait.enc))) (fun y => xs.length - y.1) (0, left - xs.length) rfl rfl ⟨by omega, by omega, by omega, ?_⟩ ?_
  · unfold sub1
    rw [List.drop_zero]
    split <;> split <;> omega
  rintro ⟨i, l⟩ ⟨p1, p2, p3, p4⟩
  simp only at p1 p2 p3 p4
  simp -implicitDefEqProofs (disch := omega) only [go_sem]
  with_reducible refine split2 (fun hb => ?_) (fun hb => ?_) <;> have h := hb <;> (try simp only [wf_preprocess] at h) <;> simp -implicitDefEqProofs (disch := omega) only [go_sem, hb] <;> (repeat (with_reducible refine And.intro ?_ ?_; focus first | omega | rfl | assumption | exact ⟨_, rfl, rfl⟩ | (simp; omega) | (simp; done)))
  · have hi : i < xs.length := by omega
    rw [List.drop_eq_getElem_cons (by rw [List.length_map]; exact hi), szRows, List.getElem_map, MTrait.sz_def] at p4
    (repeat (with_reducible refine And.intro ?_ ?_; focus first | omega | rfl | assumption | exact ⟨_, rfl, rfl⟩ | (simp; omega) | (simp; done)))
    refine call_w (szTrait_ok xs[i] _ (by omega) (by omega) (hf2 _ (List.mem_map_of_mem (List.getElem_mem hi)))) ?_
    simp -implicitDefEqProofs (disch := omega) only [go_sem]
    with_reducible refine split2 (fun hb => ?_) (fun hb => ?_) <;> have h := hb <;> (try simp only [wf_preprocess] at h) <;> simp -implicitDefEqProofs (disch := omega) only [go_sem, hb] <;> (repeat (with_reducible refine And.intro ?_ ?_; focus first | omega | rfl | assumption | exact ⟨_, rfl, rfl⟩ | (simp; omega) | (simp; done)))
    · have h' := sub1_neg h
      rw [← p4, sub1_no (by omega)]
    · have h' := sub1_nn h
      refine inv_at (i + 1, sub1 l _) (by simp only; omega) rfl rfl ⟨by simp only; omega, by simp only; omega, by simp only; omega, ?_⟩
      simp only
      rw [← p4, h'.1]
      unfold sub1
      split <;> split <;> omega
  · have hi : i = xs.length := by omega
    rw [hi, List.drop_of_length_le (by simp), szRows, sub1_yes (by omega)] at p4
    rw [← p4]
    refine int_eq ?_
    omega
theorem toTrait_ok (x : MTrait) : x.sz ≤ 1048576 → PCall Tryz.prog 145 [x.v] x.v := by
  intro hsz S
  simp only [MTrait.sz, MTrait.enc_eq, szRow, szRow_append, D.sz, List.length_map] at hsz
  refine acall_cw (rs := [.cell 2 139]) Tryz.checked.mixed Tryz.func145 Tryz.ntmps145 rfl rfl rfl rfl rfl ?_
  simp -implicitDefEqProofs (disch := omega) only [go_sem]
  refine call_w (toStringS_ok x.fSupertraits (by omega)) ?_
  simp -implicitDefEqProofs (disch := omega) only [go_sem]
  refine call_w (toSignatureS_ok x.fSignatures (by omega)) ?_
  simp -implicitDefEqProofs (disch := omega) only [go_sem]
theorem toTraitS_ok (xs : List MTrait) : xs.length + szRows (xs.map MTrait.enc) ≤ 1048576 → PCall Tryz.prog 74 [.c (.d (.sl (xs.map MTrait.enc)))] (.c (.d (.sl (xs.map MTrait.enc)))) := by
  intro hsz S
  refine acall_cw (rs := [.tmp 2]) Tryz.checked.mixed Tryz.func74 Tryz.ntmps74 rfl rfl rfl rfl rfl ?_
  simp -implicitDefEqProofs (disch := omega) only [go_sem]
  (repeat (with_reducible refine And.intro ?_ ?_; focus first | omega | rfl | assumption | exact ⟨_, rfl, rfl⟩ | (simp; omega) | (simp; done)))
  refine loop_at (ι := Nat × List (List D)) Tryz.checked.mixed rfl [0, 3, 4] (fun y => [.c (.d (.sl (xs.map MTrait.enc))), .c (.msl (0, 0)), .c (.d (.i .i64 y.1))]) (fun y => [.mrow 5 y.2] :: S)
    (fun y => y.1 ≤ xs.length ∧ Filled 5 y.1 y.2 (xs.map MTrait.enc)) (fun y => xs.length - y.1) (0, _) rfl rfl ⟨Nat.zero_le _, Filled.start (by simp) rfl⟩ ?_
  rintro ⟨i, R⟩ ⟨p1, p2⟩
  simp only at p1 p2
  simp -implicitDefEqProofs (disch := omega) only [go_sem]
  with_reducible refine split2 (fun hb => ?_) (fun hb => ?_) <;> have h := hb <;> (try simp only [wf_preprocess] at h) <;> simp -implicitDefEqProofs (disch := omega) only [go_sem, hb] <;> (repeat (with_reducible refine And.intro ?_ ?_; focus first | omega | rfl | assumption | exact ⟨_, rfl, rfl⟩ | (simp; omega) | (simp; done)))
  · have hi : i < xs.length := by omega
    have hx : xs[i].sz ≤ szRows (xs.map MTrait.enc) := szRows_mem (List.mem_map_of_mem (List.getElem_mem hi))
    (repeat (with_reducible refine And.intro ?_ ?_; focus first | omega | rfl | assumption | exact ⟨_, rfl, rfl⟩ | (simp; omega) | (simp; done)))
    refine call_w (toTrait_ok xs[i] (by omega)) ?_
    simp -implicitDefEqProofs (disch := omega) only [go_sem]
    have hR := p2.1
    rw [List.length_map] at hR
    (repeat (with_reducible refine And.intro ?_ ?_; focus first | omega | rfl | assumption | exact ⟨_, rfl, rfl⟩ | (simp; omega) | (simp; done)))
    refine inv_at (i + 1, _) (by simp only; omega) rfl rfl ⟨by simp only; omega, p2.step (by simp [hi, MTrait.enc_eq]) rfl⟩
  · have hi : i = xs.length := by omega
    rw [p2.done (by rw [List.length_map]; omega)]
theorem eqTrait_ok (x : MTrait) : ∀ y : MTrait, x.sz ≤ 1048576 → PCall Tryz.prog 166 [x.v, y.v] (.c (.d (.b (dec (x = y))))) := by
  intro y hsz S
  simp only [MTrait.sz, MTrait.enc_eq, szRow, szRow_append, D.sz, List.length_map] at hsz
  refine acall_cw (rs := [.tmp 4]) Tryz.checked.mixed Tryz.func166 Tryz.ntmps166 rfl rfl rfl rfl rfl ?_
  simp -implicitDefEqProofs (disch := omega) only [go_sem]
  with_reducible refine split2 (fun hb => ?_) (fun hb => ?_) <;> have h := hb <;> (try simp only [wf_preprocess] at h) <;> simp -implicitDefEqProofs (disch := omega) only [go_sem, hb] <;> (repeat (with_reducible refine And.intro ?_ ?_; focus first | omega | rfl | assumption | exact ⟨_, rfl, rfl⟩ | (simp; omega) | (simp; done)))
  · exact bool_eq (dec_false (fun e => h (by rw [e]))).symm
  have eName := h
  clear h
  refine call_w (eqStringS_ok x.fSupertraits _ (by omega)) ?_
  simp -implicitDefEqProofs (disch := omega) only [go_sem]
  with_reducible refine split2 (fun hb => ?_) (fun hb => ?_) <;> have h := hb <;> (try simp only [wf_preprocess] at h) <;> simp -implicitDefEqProofs (disch := omega) only [go_sem, hb] <;> (repeat (with_reducible refine And.intro ?_ ?_; focus first | omega | rfl | assumption | exact ⟨_, rfl, rfl⟩ | (simp; omega) | (simp; done)))
  · exact bool_eq (dec_false (fun e => h (by rw [e]))).symm
  have eSupertraits := h
  clear h
  with_reducible refine split2 (fun hb => ?_) (fun hb => ?_) <;> have h := hb <;> (try simp only [wf_preprocess] at h) <;> simp -implicitDefEqProofs (disch := omega) only [go_sem, hb] <;> (repeat (with_reducible refine And.intro ?_ ?_; focus first | omega | rfl | assumption | exact ⟨_, rfl, rfl⟩ | (simp; omega) | (simp; done)))
  · exact bool_eq (dec_false (fun e => h (by rw [e]))).symm
  have eAuto := h
  clear h
  with_reducible refine split2 (fun hb => ?_) (fun hb => ?_) <;> have h := hb <;> (try simp only [wf_preprocess] at h) <;> simp -implicitDefEqProofs (disch := omega) only [go_sem, hb] <;> (repeat (with_reducible refine And.intro ?_ ?_; focus first | omega | rfl | assumption | exact ⟨_, rfl, rfl⟩ | (simp; omega) | (simp; done)))
  · exact bool_eq (dec_false (fun e => h (by rw [e]))).symm
  have eAssoc := h
  clear h
  refine call_w (eqSignatureS_ok x.fSignatures _ (by omega)) ?_
  simp -implicitDefEqProofs (disch := omega) only [go_sem]
  with_reducible refine split2 (fun hb => ?_) (fun hb => ?_) <;> have h := hb <;> (try simp only [wf_preprocess] at h) <;> simp -implicitDefEqProofs (disch := omega) only [go_sem, hb] <;> (repeat (with_reducible refine And.intro ?_ ?_; focus first | omega | rfl | assumption | exact ⟨_, rfl, rfl⟩ | (simp; omega) | (simp; done)))
  · exact bool_eq (dec_false (fun e => h (by rw [e]))).symm
  have eSignatures := h
  clear h
  exact bool_eq (dec_true (MTrait.ext' eName eSupertraits eAuto eAssoc eSignatures)).symm
theorem eqTraitS_ok (xs : List MTrait) : ∀ ys : List MTrait, xs.length + szRows (xs.map MTrait.enc) ≤ 1048576 → PCall Tryz.prog 87 [.c (.d (.sl (xs.map MTrait.enc))), .c (.d (.sl (ys.map MTrait.enc)))] (.c (.d (.b (dec (xs = ys))))) := by
  intro ys hsz S
  refine acall_cw (rs := [.tmp 4]) Tryz.checked.mixed Tryz.func87 Tryz.ntmps87 rfl rfl rfl rfl rfl ?_
  simp -implicitDefEqProofs (disch := omega) only [go_sem]
  with_reducible refine split2 (fun hb => ?_) (fun hb => ?_) <;> have h := hb <;> (try simp only [wf_preprocess] at h) <;> simp -implicitDefEqProofs (disch := omega) only [go_sem, hb] <;> (repeat (with_reducible refine And.intro ?_ ?_; focus first | omega | rfl | assumption | exact ⟨_, rfl, rfl⟩ | (simp; omega) | (simp; done)))
  · exact bool_eq (dec_false (fun e => h (by rw [e]))).symm
  have hl : xs.length = ys.length := by omega
  refine loop_at (ι := Nat) Tryz.checked.mixed rfl [0, 1, 5] (fun y => [.c (.d (.sl (xs.map MTrait.enc))), .c (.d (.sl (ys.map MTrait.enc))), .c (.d (.i .i64 y))]) (fun y => [] :: S)
    (fun i => i ≤ xs.length ∧ ∀ j, j < i → xs[j]? = ys[j]?) (fun y => xs.length - y) 0 rfl rfl ⟨Nat.zero_le _, fun j h => by omega⟩ ?_
  rintro i ⟨p1, p2⟩
  simp -implicitDefEqProofs (disch := omega) only [go_sem]
  with_reducible refine split2 (fun hb => ?_) (fun hb => ?_) <;> have h := hb <;> (try simp only [wf_preprocess] at h) <;> simp -implicitDefEqProofs (disch := omega) only [go_sem, hb] <;> (repeat (with_reducible refine And.intro ?_ ?_; focus first | omega | rfl | assumption | exact ⟨_, rfl, rfl⟩ | (simp; omega) | (simp; done)))
  · have hi : i < xs.length := by omega
    have hi' : i < ys.length := by omega
    have hx : xs[i].sz ≤ szRows (xs.map MTrait.enc) := szRows_mem (List.mem_map_of_mem (List.getElem_mem hi))
    (repeat (with_reducible refine And.intro ?_ ?_; focus first | omega | rfl | assumption | exact ⟨_, rfl, rfl⟩ | (simp; omega) | (simp; done)))
    refine call_w (eqTrait_ok xs[i] ys[i] (by omega)) ?_
    simp -implicitDefEqProofs (disch := omega) only [go_sem]
    with_reducible refine split2 (fun hb => ?_) (fun hb => ?_) <;> have h := hb <;> (try simp only [wf_preprocess] at h) <;> simp -implicitDefEqProofs (disch := omega) only [go_sem, hb] <;> (repeat (with_reducible refine And.intro ?_ ?_; focus first | omega | rfl | assumption | exact ⟨_, rfl, rfl⟩ | (simp; omega) | (simp; done)))
    · exact bool_eq (dec_false (fun e => h (by simp only [e]))).symm
    refine inv_at (i + 1) (by omega) rfl rfl ⟨by omega, fun j hj => ?_⟩
    by_cases e : j = i
    · subst e
      rw [List.getElem?_eq_getElem hi, List.getElem?_eq_getElem hi', h]
    · exact p2 j (by omega)
  · have hi : i = xs.length := by omega
    refine bool_eq (dec_true (List.ext_getElem? fun j => ?_)).symm
    by_cases hj : j < i
    · exact p2 j hj
    · rw [List.getElem?_eq_none (by omega), List.getElem?_eq_none (by omega)]
end Go.Proofs.YtnleocfkdidhoaaGreat

namespace Go.Proofs.YtnleocfkdidhoaaGreat
open Go Go.Ab
theorem szConstructor_ok (x : MConstructor) : ∀ left : Int, 0 ≤ left → left ≤ 1048576 → FitL x.enc → PCall Tryz.prog 253 [x.v, .c (.d (.i .i64 left))] (.c (.d (.i .i64 (sub1 left x.sz)))) := by
  intro left h0 h1 hf S
  simp only [MConstructor.enc_eq, List.cons_append, List.nil_append, fitL_cons, fitL_append, fitL_nil_iff, and_true] at hf
  obtain ⟨fName, fFields⟩ := hf
  have hz : x.sz = x.fName.length + ((x.fFields.length + szRows (x.fFields.map MType.enc))) := by
    simp only [MConstructor.sz, MConstructor.enc_eq, szRow, szRow_append, D.sz, List.length_map, Nat.add_zero, Nat.zero_add] <;> omega
  refine acall_cw (rs := [.tmp 4]) Tryz.checked.mixed Tryz.func253 Tryz.ntmps253 rfl rfl rfl rfl rfl ?_
  rw [hz]
  have gName := fit_s fName
  simp -implicitDefEqProofs (disch := omega) only [go_sem]
  with_reducible refine split2 (fun hb => ?_) (fun hb => ?_) <;> have h := hb <;> (try simp only [wf_preprocess] at h) <;> simp -implicitDefEqProofs (disch := omega) only [go_sem, hb] <;> (repeat (with_reducible refine And.intro ?_ ?_; focus first | omega | rfl | assumption | exact ⟨_, rfl, rfl⟩ | (simp; omega) | (simp; done)))
  · exact int_eq (sub1_no (by omega)).symm
  refine call_w (szTypeS_ok x.fFields _ (by omega) (by omega) fFields) ?_
  simp -implicitDefEqProofs (disch := omega) only [go_sem]
  with_reducible refine split2 (fun hb => ?_) (fun hb => ?_) <;> have h := hb <;> (try simp only [wf_preprocess] at h) <;> simp -implicitDefEqProofs (disch := omega) only [go_sem, hb] <;> (repeat (with_reducible refine And.intro ?_ ?_; focus first | omega | rfl | assumption | exact ⟨_, rfl, rfl⟩ | (simp; omega) | (simp; done)))
  · have h' := sub1_neg h
    exact int_eq (sub1_no (by omega)).symm
  have hFields := sub1_nn h
  simp only [hFields.1]
  refine int_eq ?_
  rw [sub1_yes (by omega)]
  omega
theorem szConstructorS_ok (xs : List MConstructor) : ∀ left : Int, 0 ≤ left → left ≤ 1048576 → (D.sl (xs.map MConstructor.enc)).Fit → PCall Tryz.prog 207 [.c (.d (.sl (xs.map MConstructor.enc))), .c (.d (.i .i64 left))] (.c (.d (.i .i64 (sub1 left (xs.length + szRows (xs.map MConstructor.enc)))))) := by
  intro left h0 h1 hf S
  obtain ⟨hf1, hf2⟩ := fit_sl hf
  rw [List.length_map] at hf1
  refine acall_cw (rs := [.tmp 4]) Tryz.checked.mixed Tryz.func207 Tryz.ntmps207 rfl rfl rfl rfl rfl ?_
  simp -implicitDefEqProofs (disch := omega) only [go_sem]
  with_reducible refine split2 (fun hb => ?_) (fun hb => ?_) <;> have h := hb <;> (try simp only [wf_preprocess] at h) <;> simp -implicitDefEqProofs (disch := omega) only [go_sem, hb] <;> (repeat (with_reducible refine And.intro ?_ ?_; focus first | omega | rfl | assumption | exact ⟨_, rfl, rfl⟩ | (simp; omega) | (simp; done)))
  · exact int_eq (sub1_no (by omega)).symm
  refine loop_at (ι := Nat × Int) Tryz.checked.mixed rfl [0, 1, 5] (fun y => [.c (.d (.sl (xs.map MConstructor.enc))), .c (.d (.i .i64 y.2)), .c (.d (.i .i64 y.1))]) (fun _ => [] :: S)
    (fun y => y.1 ≤ xs.length ∧ 0 ≤ y.2 ∧ y.2 ≤ 1048576 ∧ sub1 y.2 (szRows ((xs.map MConstructor.enc).drop y.1)) = sub1 left (xs.length + szRows (xs.map MConstructor.enc))) (fun y => xs.length - y.1) (0, left - xs.length) rfl rfl ⟨by omega, by omega, by omega, ?_⟩ ?_
  · unfold sub1
    rw [List.drop_zero]
    split <;> split <;> omega
  rintro ⟨i, l⟩ ⟨p1, p2, p3, p4⟩
  simp only at p1 p2 p3 p4
  simp -implicitDefEqProofs (disch := omega) only [go_sem]
  with_reducible refine split2 (fun hb => ?_) (fun hb => ?_) <;> have h := hb <;> (try simp only [wf_preprocess] at h) <;> simp -implicitDefEqProofs (disch := omega) only [go_sem, hb] <;> (repeat (with_reducible refine And.intro ?_ ?_; focus first | omega | rfl | assumption | exact ⟨_, rfl, rfl⟩ | (simp; omega) | (simp; done)))
  · have hi : i < xs.length := by omega
    rw [List.drop_eq_getElem_cons (by rw [List.length_map]; exact hi), szRows, List.getElem_map, MConstructor.sz_def] at p4
    (repeat (with_reducible refine And.intro ?_ ?_; focus first | omega | rfl | assumption | exact ⟨_, rfl, rfl⟩ | (simp; omega) | (simp; done)))
    refine call_w (szConstructor_ok xs[i] _ (by omega) (by omega) (hf2 _ (List.mem_map_of_mem (List.getElem_mem hi)))) ?_
    simp -implicitDefEqProofs (disch := omega) only [go_sem]
    with_reducible refine split2 (fun hb => ?_) (fun hb => ?_) <;> have h := hb <;> (try simp only [wf_preprocess] at h) <;> simp -implicitDefEqProofs (disch := omega) only [go_sem, hb] <;> (repeat (with_reducible refine And.intro ?_ ?_; focus first | omega | rfl | assumption | exact ⟨_, rfl, rfl⟩ | (simp; omega) | (simp; done)))
    · have h' := sub1_neg h
      rw [← p4, sub1_no (by omega)]
    · have h' := sub1_nn h
      refine inv_at (i + 1, sub1 l _) (by simp only; omega) rfl rfl ⟨by simp only; omega, by simp only; omega, by simp only; omega, ?_⟩
      simp only
      rw [← p4, h'.1]
      unfold sub1
      split <;> split <;> omega
  · have hi : i = xs.length := by omega
    rw [hi, List.drop_of_length_le (by simp), szRows, sub1_yes (by omega)] at p4
    rw [← p4]
    refine int_eq ?_
    omega
theorem toConstructor_ok (x : MConstructor) : x.sz ≤ 1048576 → PCall Tryz.prog 265 [x.v] x.v := by
  intro hsz S
  simp only [MConstructor.sz, MConstructor.enc_eq, szRow, szRow_append, D.sz, List.length_map] at hsz
  refine acall_cw (rs := [.cell 2 185]) Tryz.checked.mixed Tryz.func265 Tryz.ntmps265 rfl rfl rfl rfl rfl ?_
  simp -implicitDefEqProofs (disch := omega) only [go_sem]
  refine call_w (toTypeS_ok x.fFields (by omega)) ?_
  simp -implicitDefEqProofs (disch := omega) only [go_sem]
theorem toConstructorS_ok (xs : List MConstructor) : xs.length + szRows (xs.map MConstructor.enc) ≤ 1048576 → PCall Tryz.prog 220 [.c (.d (.sl (xs.map MConstructor.enc)))] (.c (.d (.sl (xs.map MConstructor.enc)))) := by
  intro hsz S
  refine acall_cw (rs := [.tmp 2]) Tryz.checked.mixed Tryz.func220 Tryz.ntmps220 rfl rfl rfl rfl rfl ?_
  simp -implicitDefEqProofs (disch := omega) only [go_sem]
  (repeat (with_reducible refine And.intro ?_ ?_; focus first | omega | rfl | assumption | exact ⟨_, rfl, rfl⟩ | (simp; omega) | (simp; done)))
  refine loop_at (ι := Nat × List (List D)) Tryz.checked.mixed rfl [0, 3, 4] (fun y => [.c (.d (.sl (xs.map MConstructor.enc))), .c (.msl (0, 0)), .c (.d (.i .i64 y.1))]) (fun y => [.mrow 2 y.2] :: S)
    (fun y => y.1 ≤ xs.length ∧ Filled 2 y.1 y.2 (xs.map MConstructor.enc)) (fun y => xs.length - y.1) (0, _) rfl rfl ⟨Nat.zero_le _, Filled.start (by simp) rfl⟩ ?_
  rintro ⟨i, R⟩ ⟨p1, p2⟩
  simp only at p1 p2
  simp -implicitDefEqProofs (disch := omega) only [go_sem]
  with_reducible refine split2 (fun hb => ?_) (fun hb => ?_) <;> have h := hb <;> (try simp only [wf_preprocess] at h) <;> simp -implicitDefEqProofs (disch := omega) only [go_sem, hb] <;> (repeat (with_reducible refine And.intro ?_ ?_; focus first | omega | rfl | assumption | exact ⟨_, rfl, rfl⟩ | (simp; omega) | (simp; done)))
  · have hi : i < xs.length := by omega
    have hx : xs[i].sz ≤ szRows (xs.map MConstructor.enc) := szRows_mem (List.mem_map_of_mem (List.getElem_mem hi))
    (repeat (with_reducible refine And.intro ?_ ?_; focus first | omega | rfl | assumption | exact ⟨_, rfl, rfl⟩ | (simp; omega) | (simp; done)))
    refine call_w (toConstructor_ok xs[i] (by omega)) ?_
    simp -implicitDefEqProofs (disch := omega) only [go_sem]
    have hR := p2.1
    rw [List.length_map] at hR
    (repeat (with_reducible refine And.intro ?_ ?_; focus first | omega | rfl | assumption | exact ⟨_, rfl, rfl⟩ | (simp; omega) | (simp; done)))
    refine inv_at (i + 1, _) (by simp only; omega) rfl rfl ⟨by simp only; omega, p2.step (by simp [hi, MConstructor.enc_eq]) rfl⟩
  · have hi : i = xs.length := by omega
    rw [p2.done (by rw [List.length_map]; omega)]
theorem eqConstructor_ok (x : MConstructor) : ∀ y : MConstructor, x.sz ≤ 1048576 → PCall Tryz.prog 180 [x.v, y.v] (.c (.d (.b (dec (x = y))))) := by
  intro y hsz S
  simp only [MConstructor.sz, MConstructor.enc_eq, szRow, szRow_append, D.sz, List.length_map] at hsz
  refine acall_cw (rs := [.tmp 4]) Tryz.checked.mixed Tryz.func180 Tryz.ntmps180 rfl rfl rfl rfl rfl ?_
  simp -implicitDefEqProofs (disch := omega) only [go_sem]
  with_reducible refine split2 (fun hb => ?_) (fun hb => ?_) <;> have h := hb <;> (try simp only [wf_preprocess] at h) <;> simp -implicitDefEqProofs (disch := omega) only [go_sem, hb] <;> (repeat (with_reducible refine And.intro ?_ ?_; focus first | omega | rfl | assumption | exact ⟨_, rfl, rfl⟩ | (simp; omega) | (simp; done)))
  · exact bool_eq (dec_false (fun e => h (by rw [e]))).symm
  have eName := h
  clear h
  refine call_w (eqTypeS_ok x.fFields _ (by omega)) ?_
  simp -implicitDefEqProofs (disch := omega) only [go_sem]
  with_reducible refine split2 (fun hb => ?_) (fun hb => ?_) <;> have h := hb <;> (try simp only [wf_preprocess] at h) <;> simp -implicitDefEqProofs (disch := omega) only [go_sem, hb] <;> (repeat (with_reducible refine And.intro ?_ ?_; focus first | omega | rfl | assumption | exact ⟨_, rfl, rfl⟩ | (simp; omega) | (simp; done)))
  · exact bool_eq (dec_false (fun e => h (by rw [e]))).symm
  have eFields := h
  clear h
  exact bool_eq (dec_true (MConstructor.ext' eName eFields)).symm
theorem eqConstructorS_ok (xs : List MConstructor) : ∀ ys : List MConstructor, xs.length + szRows (xs.map MConstructor.enc) ≤ 1048576 → PCall Tryz.prog 103 [.c (.d (.sl (xs.map MConstructor.enc))), .c (.d (.sl (ys.map MConstructor.enc)))] (.c (.d (.b (dec (xs = ys))))) := by
  intro ys hsz S
  refine acall_cw (rs := [.tmp 4]) Tryz.checked.mixed Tryz.func103 Tryz.ntmps103 rfl rfl rfl rfl rfl ?_
  simp -implicitDefEqProofs (disch := omega) only [go_sem]
  with_reducible refine split2 (fun hb => ?_) (fun hb => ?_) <;> have h := hb <;> (try simp only [wf_preprocess] at h) <;> simp -implicitDefEqProofs (disch := omega) only [go_sem, hb] <;> (repeat (with_reducible refine And.intro ?_ ?_; focus first | omega | rfl | assumption | exact ⟨_, rfl, rfl⟩ | (simp; omega) | (simp; done)))
  · exact bool_eq (dec_false (fun e => h (by rw [e]))).symm
  have hl : xs.length = ys.length := by omega
  refine loop_at (ι := Nat) Tryz.checked.mixed rfl [0, 1, 5] (fun y => [.c (.d (.sl (xs.map MConstructor.enc))), .c (.d (.sl (ys.map MConstructor.enc))), .c (.d (.i .i64 y))]) (fun y => [] :: S)
    (fun i => i ≤ xs.length ∧ ∀ j, j < i → xs[j]? = ys[j]?) (fun y => xs.length - y) 0 rfl rfl ⟨Nat.zero_le _, fun j h => by omega⟩ ?_
  rintro i ⟨p1, p2⟩
  simp -implicitDefEqProofs (disch := omega) only [go_sem]
  with_reducible refine split2 (fun hb => ?_) (fun hb => ?_) <;> have h := hb <;> (try simp only [wf_preprocess] at h) <;> simp -implicitDefEqProofs (disch := omega) only [go_sem, hb] <;> (repeat (with_reducible refine And.intro ?_ ?_; focus first | omega | rfl | assumption | exact ⟨_, rfl, rfl⟩ | (simp; omega) | (simp; done)))
  · have hi : i < xs.length := by omega
    have hi' : i < ys.length := by omega
    have hx : xs[i].sz ≤ szRows (xs.map MConstructor.enc) := szRows_mem (List.mem_map_of_mem (List.getElem_mem hi))
    (repeat (with_reducible refine And.intro ?_ ?_; focus first | omega | rfl | assumption | exact ⟨_, rfl, rfl⟩ | (simp; omega) | (simp; done)))
    refine call_w (eqConstructor_ok xs[i] ys[i] (by omega)) ?_
    simp -implicitDefEqProofs (disch := omega) only [go_sem]
    with_reducible refine split2 (fun hb => ?_) (fun hb => ?_) <;> have h := hb <;> (try simp only [wf_preprocess] at h) <;> simp -implicitDefEqProofs (disch := omega) only [go_sem, hb] <;> (repeat (with_reducible refine And.intro ?_ ?_; focus first | omega | rfl | assumption | exact ⟨_, rfl, rfl⟩ | (simp; omega) | (simp; done)))
    · exact bool_eq (dec_false (fun e => h (by simp only [e]))).symm
    refine inv_at (i + 1) (by omega) rfl rfl ⟨by omega, fun j hj => ?_⟩
    by_cases e : j = i
    · subst e
      rw [List.getElem?_eq_getElem hi, List.getElem?_eq_getElem hi', h]
    · exact p2 j (by omega)
  · have hi : i = xs.length := by omega
    refine bool_eq (dec_true (List.ext_getElem? fun j => ?_)).symm
    by_cases hj : j < i
    · exact p2 j hj
    · rw [List.getElem?_eq_none (by omega), List.getElem?_eq_none (by omega)]
end Go.Proofs.YtnleocfkdidhoaaGreat

namespace Go.Proofs.YtnleocfkdidhoaaGreat
open Go Go.Ab
theorem szDataType_ok (x : MDataType) : ∀ left : Int, 0 ≤ left → left ≤ 1048576 → FitL x.enc → PCall Tryz.prog 136 [x.v, .c (.d (.i .i64 left))] (.c (.d (.i .i64 (sub1 left x.sz)))) := by
  intro left h0 h1 hf S
  simp only [MDataType.enc_eq, List.cons_append, List.nil_append, fitL_cons, fitL_append, fitL_nil_iff, and_true] at hf
  obtain ⟨fName, fVars, fConstructors⟩ := hf
  have hz : x.sz = x.fName.length + ((x.fVars.length + szRows (x.fVars.map encS)) + ((x.fConstructors.length + szRows (x.fConstructors.map MConstructor.enc)))) := by
    simp only [MDataType.sz, MDataType.enc_eq, szRow, szRow_append, D.sz, List.length_map, Nat.add_zero, Nat.zero_add] <;> omega
  refine acall_cw (rs := [.tmp 4]) Tryz.checked.mixed Tryz.func136 Tryz.ntmps136 rfl rfl rfl rfl rfl ?_
  rw [hz]
  have gName := fit_s fName
  simp -implicitDefEqProofs (disch := omega) only [go_sem]
  with_reducible refine split2 (fun hb => ?_) (fun hb => ?_) <;> have h := hb <;> (try simp only [wf_preprocess] at h) <;> simp -implicitDefEqProofs (disch := omega) only [go_sem, hb] <;> (repeat (with_reducible refine And.intro ?_ ?_; focus first | omega | rfl | assumption | exact ⟨_, rfl, rfl⟩ | (simp; omega) | (simp; done)))
  · exact int_eq (sub1_no (by omega)).symm
  refine call_w (szStringS_ok x.fVars _ (by omega) (by omega) fVars) ?_
  simp -implicitDefEqProofs (disch := omega) only [go_sem]
  with_reducible refine split2 (fun hb => ?_) (fun hb => ?_) <;> have h := hb <;> (try simp only [wf_preprocess] at h) <;> simp -implicitDefEqProofs (disch := omega) only [go_sem, hb] <;> (repeat (with_reducible refine And.intro ?_ ?_; focus first | omega | rfl | assumption | exact ⟨_, rfl, rfl⟩ | (simp; omega) | (simp; done)))
  · have h' := sub1_neg h
    exact int_eq (sub1_no (by omega)).symm
  have hVars := sub1_nn h
  simp only [hVars.1]
  refine call_w (szConstructorS_ok x.fConstructors _ (by omega) (by omega) fConstructors) ?_
  simp -implicitDefEqProofs (disch := omega) only [go_sem]
  with_reducible refine split2 (fun hb => ?_) (fun hb => ?_) <;> have h := hb <;> (try simp only [wf_preprocess] at h) <;> simp -implicitDefEqProofs (disch := omega) only [go_sem, hb] <;> (repeat (with_reducible refine And.intro ?_ ?_; focus first | omega | rfl | assumption | exact ⟨_, rfl, rfl⟩ | (simp; omega) | (simp; done)))
  · have h' := sub1_neg h
    exact int_eq (sub1_no (by omega)).symm
  have hConstructors := sub1_nn h
  simp only [hConstructors.1]
  refine int_eq ?_
  rw [sub1_yes (by omega)]
  omega
theorem szDataTypeS_ok (xs : List MDataType) : ∀ left : Int, 0 ≤ left → left ≤ 1048576 → (D.sl (xs.map MDataType.enc)).Fit → PCall Tryz.prog 64 [.c (.d (.sl (xs.map MDataType.enc))), .c (.d (.i .i64 left))] (.c (.d (.i .i64 (sub1 left (xs.length + szRows (xs.map MDataType.enc)))))) := by
  intro left h0 h1 hf S
  obtain ⟨hf1, hf2⟩ := fit_sl hf
  rw [List.length_map] at hf1
  refine acall_cw (rs := [.tmp 4]) Tryz.checked.mixed Tryz.func64 Tryz.ntmps64 rfl rfl rfl rfl rfl ?_
  simp -implicitDefEqProofs (disch := omega) only [go_sem]
  with_reducible refine split2 (fun hb => ?_) (fun hb => ?_) <;> have h := hb <;> (try simp only [wf_preprocess] at h) <;> simp -implicitDefEqProofs (disch := omega) only [go_sem, hb] <;> (repeat (with_reducible refine And.intro ?_ ?_; focus first | omega | rfl | assumption | exact ⟨_, rfl, rfl⟩ | (simp; omega) | (simp; done)))
  · exact int_eq (sub1_no (by omega)).symm
  refine loop_at (ι := Nat × Int) Tryz.checked.mixed rfl [0, 1, 5] (fun y => [.c (.d (.sl (xs.map MDataType.enc))), .c (.d (.i .i64 y.2)), .c (.d (.i .i64 y.1))]) (fun _ => [] :: S)
    (fun y => y.1 ≤ xs.length ∧ 0 ≤ y.2 ∧ y.2 ≤ 1048576 ∧ sub1 y.2 (szRows ((xs.map MDataType.enc).drop y.1)) = sub1 left (xs.length + szRows (xs.map MDataType.enc))) (fun y => xs.length - y.1) (0, left - xs.length) rfl rfl ⟨by omega, by omega, by omega, ?_⟩ ?_
  · unfold sub1
    rw [List.drop_zero]
    split <;> split <;> omega
  rintro ⟨i, l⟩ ⟨p1, p2, p3, p4⟩
  simp only at p1 p2 p3 p4
  simp -implicitDefEqProofs (disch := omega) only [go_sem]
  with_reducible refine split2 (fun hb => ?_) (fun hb => ?_) <;> have h := hb <;> (try simp only [wf_preprocess] at h) <;> simp -implicitDefEqProofs (disch := omega) only [go_sem, hb] <;> (repeat (with_reducible refine And.intro ?_ ?_; focus first | omega | rfl | assumption | exact ⟨_, rfl, rfl⟩ | (simp; omega) | (simp; done)))
  · have hi : i < xs.length := by omega
    rw [List.drop_eq_getElem_cons (by rw [List.length_map]; exact hi), szRows, List.getElem_map, MDataType.sz_def] at p4
    (repeat (with_reducible refine And.intro ?_ ?_; focus first | omega | rfl | assumption | exact ⟨_, rfl, rfl⟩ | (simp; omega) | (simp; done)))
    refine call_w (szDataType_ok xs[i] _ (by omega) (by omega) (hf2 _ (List.mem_map_of_mem (List.getElem_mem hi)))) ?_
    simp -implicitDefEqProofs (disch := omega) only [go_sem]
    with_reducible refine split2 (fun hb => ?_) (fun hb => ?_) <;> have h := hb <;> (try simp only [wf_preprocess] at h) <;> simp -implicitDefEqProofs (disch := omega) only [go_sem, hb] <;> (repeat (with_reducible refine And.intro ?_ ?_; focus first | omega | rfl | assumption | exact ⟨_, rfl, rfl⟩ | (simp; omega) | (simp; done)))
    · have h' := sub1_neg h
      rw [← p4, sub1_no (by omega)]
    · have h' := sub1_nn h
      refine inv_at (i + 1, sub1 l _) (by simp only; omega) rfl rfl ⟨by simp only; omega, by simp only; omega, by simp only; omega, ?_⟩
      simp only
      rw [← p4, h'.1]
      unfold sub1
      split <;> split <;> omega
  · have hi : i = xs.length := by omega
    rw [hi, List.drop_of_length_le (by simp), szRows, sub1_yes (by omega)] at p4
    rw [← p4]
    refine int_eq ?_
    omega
theorem toDataType_ok (x : MDataType) : x.sz ≤ 1048576 → PCall Tryz.prog 146 [x.v] x.v := by
  intro hsz S
  simp only [MDataType.sz, MDataType.enc_eq, szRow, szRow_append, D.sz, List.length_map] at hsz
  refine acall_cw (rs := [.cell 2 82]) Tryz.checked.mixed Tryz.func146 Tryz.ntmps146 rfl rfl rfl rfl rfl ?_
  simp -implicitDefEqProofs (disch := omega) only [go_sem]
  refine call_w (toStringS_ok x.fVars (by omega)) ?_
  simp -implicitDefEqProofs (disch := omega) only [go_sem]
  refine call_w (toConstructorS_ok x.fConstructors (by omega)) ?_
  simp -implicitDefEqProofs (disch := omega) only [go_sem]
theorem toDataTypeS_ok (xs : List MDataType) : xs.length + szRows (xs.map MDataType.enc) ≤ 1048576 → PCall Tryz.prog 75 [.c (.d (.sl (xs.map MDataType.enc)))] (.c (.d (.sl (xs.map MDataType.enc)))) := by
  intro hsz S
  refine acall_cw (rs := [.tmp 2]) Tryz.checked.mixed Tryz.func75 Tryz.ntmps75 rfl rfl rfl rfl rfl ?_
  simp -implicitDefEqProofs (disch := omega) only [go_sem]
  (repeat (with_reducible refine And.intro ?_ ?_; focus first | omega | rfl | assumption | exact ⟨_, rfl, rfl⟩ | (simp; omega) | (simp; done)))
  refine loop_at (ι := Nat × List (List D)) Tryz.checked.mixed rfl [0, 3, 4] (fun y => [.c (.d (.sl (xs.map MDataType.enc))), .c (.msl (0, 0)), .c (.d (.i .i64 y.1))]) (fun y => [.mrow 3 y.2] :: S)
    (fun y => y.1 ≤ xs.length ∧ Filled 3 y.1 y.2 (xs.map MDataType.enc)) (fun y => xs.length - y.1) (0, _) rfl rfl ⟨Nat.zero_le _, Filled.start (by simp) rfl⟩ ?_
  rintro ⟨i, R⟩ ⟨p1, p2⟩
  simp only at p1 p2
  simp -implicitDefEqProofs (disch := omega) only [go_sem]
  with_reducible refine split2 (fun hb => ?_) (fun hb => ?_) <;> have h := hb <;> (try simp only [wf_preprocess] at h) <;> simp -implicitDefEqProofs (disch := omega) only [go_sem, hb] <;> (repeat (with_reducible refine And.intro ?_ ?_; focus first | omega | rfl | assumption | exact ⟨_, rfl, rfl⟩ | (simp; omega) | (simp; done)))
  · have hi : i < xs.length := by omega
    have hx : xs[i].sz ≤ szRows (xs.map MDataType.enc) := szRows_mem (List.mem_map_of_mem (List.getElem_mem hi))
    (repeat (with_reducible refine And.intro ?_ ?_; focus first | omega | rfl | assumption | exact ⟨_, rfl, rfl⟩ | (simp; omega) | (simp; done)))
    refine call_w (toDataType_ok xs[i] (by omega)) ?_
    simp -implicitDefEqProofs (disch := omega) only [go_sem]
    have hR := p2.1
    rw [List.length_map] at hR
    (repeat (with_reducible refine And.intro ?_ ?_; focus first | omega | rfl | assumption | exact ⟨_, rfl, rfl⟩ | (simp; omega) | (simp; done)))
    refine inv_at (i + 1, _) (by simp only; omega) rfl rfl ⟨by simp only; omega, p2.step (by simp [hi, MDataType.enc_eq]) rfl⟩
  · have hi : i = xs.length := by omega
    rw [p2.done (by rw [List.length_map]; omega)]
theorem eqDataType_ok (x : MDataType) : ∀ y : MDataType, x.sz ≤ 1048576 → PCall Tryz.prog 38 [x.v, y.v] (.c (.d (.b (dec (x = y))))) := by
  intro y hsz S
  simp only [MDataType.sz, MDataType.enc_eq, szRow, szRow_append, D.sz, List.length_map] at hsz
  refine acall_cw (rs := [.tmp 4]) Tryz.checked.mixed Tryz.func38 Tryz.ntmps38 rfl rfl rfl rfl rfl ?_
  simp -implicitDefEqProofs (disch := omega) only [go_sem]
  with_reducible refine split2 (fun hb => ?_) (fun hb => ?_) <;> have h := hb <;> (try simp only [wf_preprocess] at h) <;> simp -implicitDefEqProofs (disch := omega) only [go_sem, hb] <;> (repeat (with_reducible refine And.intro ?_ ?_; focus first | omega | rfl | assumption | exact ⟨_, rfl, rfl⟩ | (simp; omega) | (simp; done)))
  · exact bool_eq (dec_false (fun e => h (by rw [e]))).symm
  have eName := h
  clear h
  refine call_w (eqStringS_ok x.fVars _ (by omega)) ?_
  simp -implicitDefEqProofs (disch := omega) only [go_sem]
  with_reducible refine split2 (fun hb => ?_) (fun hb => ?_) <;> have h := hb <;> (try simp only [wf_preprocess] at h) <;> simp -implicitDefEqProofs (disch := omega) only [go_sem, hb] <;> (repeat (with_reducible refine And.intro ?_ ?_; focus first | omega | rfl | assumption | exact ⟨_, rfl, rfl⟩ | (simp; omega) | (simp; done)))
  · exact bool_eq (dec_false (fun e => h (by rw [e]))).symm
  have eVars := h
  clear h
  refine call_w (eqConstructorS_ok x.fConstructors _ (by omega)) ?_
  simp -implicitDefEqProofs (disch := omega) only [go_sem]
  with_reducible refine split2 (fun hb => ?_) (fun hb => ?_) <;> have h := hb <;> (try simp only [wf_preprocess] at h) <;> simp -implicitDefEqProofs (disch := omega) only [go_sem, hb] <;> (repeat (with_reducible refine And.intro ?_ ?_; focus first | omega | rfl | assumption | exact ⟨_, rfl, rfl⟩ | (simp; omega) | (simp; done)))
  · exact bool_eq (dec_false (fun e => h (by rw [e]))).symm
  have eConstructors := h
  clear h
  exact bool_eq (dec_true (MDataType.ext' eName eVars eConstructors)).symm
theorem eqDataTypeS_ok (xs : List MDataType) : ∀ ys : List MDataType, xs.length + szRows (xs.map MDataType.enc) ≤ 1048576 → PCall Tryz.prog 88 [.c (.d (.sl (xs.map MDataType.enc))), .c (.d (.sl (ys.map MDataType.enc)))] (.c (.d (.b (dec (xs = ys))))) := by
  intro ys hsz S
  refine acall_cw (rs := [.tmp 4]) Tryz.checked.mixed Tryz.func88 Tryz.ntmps88 rfl rfl rfl rfl rfl ?_
  simp -implicitDefEqProofs (disch := omega) only [go_sem]
  with_reducible refine split2 (fun hb => ?_) (fun hb => ?_) <;> have h := hb <;> (try simp only [wf_preprocess] at h) <;> simp -implicitDefEqProofs (disch := omega) only [go_sem, hb] <;> (repeat (with_reducible refine And.intro ?_ ?_; focus first | omega | rfl | assumption | exact ⟨_, rfl, rfl⟩ | (simp; omega) | (simp; done)))
  · exact bool_eq (dec_false (fun e => h (by rw [e]))).symm
  have hl : xs.length = ys.length := by omega
  refine loop_at (ι := Nat) Tryz.checked.mixed rfl [0, 1, 5] (fun y => [.c (.d (.sl (xs.map MDataType.enc))), .c (.d (.sl (ys.map MDataType.enc))), .c (.d (.i .i64 y))]) (fun y => [] :: S)
    (fun i => i ≤ xs.length ∧ ∀ j, j < i → xs[j]? = ys[j]?) (fun y => xs.length - y) 0 rfl rfl ⟨Nat.zero_le _, fun j h => by omega⟩ ?_
  rintro i ⟨p1, p2⟩
  simp -implicitDefEqProofs (disch := omega) only [go_sem]
  with_reducible refine split2 (fun hb => ?_) (fun hb => ?_) <;> have h := hb <;> (try simp only [wf_preprocess] at h) <;> simp -implicitDefEqProofs (disch := omega) only [go_sem, hb] <;> (repeat (with_reducible refine And.intro ?_ ?_; focus first | omega | rfl | assumption | exact ⟨_, rfl, rfl⟩ | (simp; omega) | (simp; done)))
  · have hi : i < xs.length := by omega
    have hi' : i < ys.length := by omega
    have hx : xs[i].sz ≤ szRows (xs.map MDataType.enc) := szRows_mem (List.mem_map_of_mem (List.getElem_mem hi))
    (repeat (with_reducible refine And.intro ?_ ?_; focus first | omega | rfl | assumption | exact ⟨_, rfl, rfl⟩ | (simp; omega) | (simp; done)))
    refine call_w (eqDataType_ok xs[i] ys[i] (by omega)) ?_
    simp -implicitDefEqProofs (disch := omega) only [go_sem]
    with_reducible refine split2 (fun hb => ?_) (fun hb => ?_) <;> have h := hb <;> (try simp only [wf_preprocess] at h) <;> simp -implicitDefEqProofs (disch := omega) only [go_sem, hb] <;> (repeat (with_reducible refine And.intro ?_ ?_; focus first | omega | rfl | assumption | exact ⟨_, rfl, rfl⟩ | (simp; omega) | (simp; done)))
    · exact bool_eq (dec_false (fun e => h (by simp only [e]))).symm
    refine inv_at (i + 1) (by omega) rfl rfl ⟨by omega, fun j hj => ?_⟩
    by_cases e : j = i
    · subst e
      rw [List.getElem?_eq_getElem hi, List.getElem?_eq_getElem hi', h]
    · exact p2 j (by omega)
  · have hi : i = xs.length := by omega
    refine bool_eq (dec_true (List.ext_getElem? fun j => ?_)).symm
    by_cases hj : j < i
    · exact p2 j hj
    · rw [List.getElem?_eq_none (by omega), List.getElem?_eq_none (by omega)]
end Go.Proofs.YtnleocfkdidhoaaGreat

namespace Go.Proofs.YtnleocfkdidhoaaGreat
open Go Go.Ab
theorem szMethod_ok (x : MMethod) : ∀ left : Int, 0 ≤ left → left ≤ 1048576 → FitL x.enc → PCall Tryz.prog 255 [x.v, .c (.d (.i .i64 left))] (.c (.d (.i .i64 (sub1 left x.sz)))) := by
  intro left h0 h1 hf S
  simp only [MMethod.enc_eq, List.cons_append, List.nil_append, fitL_cons, fitL_append, fitL_nil_iff, and_true] at hf
  obtain ⟨fName, fVars, fBody⟩ := hf
  have hz : x.sz = x.fName.length + ((x.fVars.length + szRows (x.fVars.map encS)) + (x.fBody.sz)) := by
    simp only [MMethod.sz, MMethod.enc_eq, szRow, szRow_append, D.sz, List.length_map, Nat.add_zero, Nat.zero_add, MExpr.sz_def] <;> omega
  refine acall_cw (rs := [.tmp 4]) Tryz.checked.mixed Tryz.func255 Tryz.ntmps255 rfl rfl rfl rfl rfl ?_
  rw [hz]
  have gName := fit_s fName
  simp -implicitDefEqProofs (disch := omega) only [go_sem]
  with_reducible refine split2 (fun hb => ?_) (fun hb => ?_) <;> have h := hb <;> (try simp only [wf_preprocess] at h) <;> simp -implicitDefEqProofs (disch := omega) only [go_sem, hb] <;> (repeat (with_reducible refine And.intro ?_ ?_; focus first | omega | rfl | assumption | exact ⟨_, rfl, rfl⟩ | (simp; omega) | (simp; done)))
  · exact int_eq (sub1_no (by omega)).symm
  refine call_w (szStringS_ok x.fVars _ (by omega) (by omega) fVars) ?_
  simp -implicitDefEqProofs (disch := omega) only [go_sem]
  with_reducible refine split2 (fun hb => ?_) (fun hb => ?_) <;> have h := hb <;> (try simp only [wf_preprocess] at h) <;> simp -implicitDefEqProofs (disch := omega) only [go_sem, hb] <;> (repeat (with_reducible refine And.intro ?_ ?_; focus first | omega | rfl | assumption | exact ⟨_, rfl, rfl⟩ | (simp; omega) | (simp; done)))
  · have h' := sub1_neg h
    exact int_eq (sub1_no (by omega)).symm
  have hVars := sub1_nn h
  simp only [hVars.1]
  refine call_w (szExpr_ok x.fBody _ (by omega) (by omega) fBody) ?_
  simp -implicitDefEqProofs (disch := omega) only [go_sem]
  with_reducible refine split2 (fun hb => ?_) (fun hb => ?_) <;> have h := hb <;> (try simp only [wf_preprocess] at h) <;> simp -implicitDefEqProofs (disch := omega) only [go_sem, hb] <;> (repeat (with_reducible refine And.intro ?_ ?_; focus first | omega | rfl | assumption | exact ⟨_, rfl, rfl⟩ | (simp; omega) | (simp; done)))
  · have h' := sub1_neg h
    exact int_eq (sub1_no (by omega)).symm
  have hBody := sub1_nn h
  simp only [hBody.1]
  refine int_eq ?_
  rw [sub1_yes (by omega)]
  omega
theorem szMethodS_ok (xs : List MMethod) : ∀ left : Int, 0 ≤ left → left ≤ 1048576 → (D.sl (xs.map MMethod.enc)).Fit → PCall Tryz.prog 209 [.c (.d (.sl (xs.map MMethod.enc))), .c (.d (.i .i64 left))] (.c (.d (.i .i64 (sub1 left (xs.length + szRows (xs.map MMethod.enc)))))) := by
  intro left h0 h1 hf S
  obtain ⟨hf1, hf2⟩ := fit_sl hf
  rw [List.length_map] at hf1
  refine acall_cw (rs := [.tmp 4]) Tryz.checked.mixed Tryz.func209 Tryz.ntmps209 rfl rfl rfl rfl rfl ?_
  simp -implicitDefEqProofs (disch := omega) only [go_sem]
  with_reducible refine split2 (fun hb => ?_) (fun hb => ?_) <;> have h := hb <;> (try simp only [wf_preprocess] at h) <;> simp -implicitDefEqProofs (disch := omega) only [go_sem, hb] <;> (repeat (with_reducible refine And.intro ?_ ?_; focus first | omega | rfl | assumption | exact ⟨_, rfl, rfl⟩ | (simp; omega) | (simp; done)))
  · exact int_eq (sub1_no (by omega)).symm
  refine loop_at (ι := Nat × Int) Tryz.checked.mixed rfl [0, 1, 5] (fun y => [.c (.d (.sl (xs.map MMethod.enc))), .c (.d (.i .i64 y.2)), .c (.d (.i .i64 y.1))]) (fun _ => [] :: S)
    (fun y => y.1 ≤ xs.length ∧ 0 ≤ y.2 ∧ y.2 ≤ 1048576 ∧ sub1 y.2 (szRows ((xs.map MMethod.enc).drop y.1)) = sub1 left (xs.length + szRows (xs.map MMethod.enc))) (fun y => xs.length - y.1) (0, left - xs.length) rfl rfl ⟨by omega, by omega, by omega, ?_⟩ ?_
  · unfold sub1
    rw [List.drop_zero]
    split <;> split <;> omega
  rintro ⟨i, l⟩ ⟨p1, p2, p3, p4⟩
  simp only at p1 p2 p3 p4
  simp -implicitDefEqProofs (disch := omega) only [go_sem]
  with_reducible refine split2 (fun hb => ?_) (fun hb => ?_) <;> have h := hb <;> (try simp only [wf_preprocess] at h) <;> simp -implicitDefEqProofs (disch := omega) only [go_sem, hb] <;> (repeat (with_reducible refine And.intro ?_ ?_; focus first | omega | rfl | assumption | exact ⟨_, rfl, rfl⟩ | (simp; omega) | (simp; done)))
  · have hi : i < xs.length := by omega
    rw [List.drop_eq_getElem_cons (by rw [List.length_map]; exact hi), szRows, List.getElem_map, MMethod.sz_def] at p4
    (repeat (with_reducible refine And.intro ?_ ?_; focus first | omega | rfl | assumption | exact ⟨_, rfl, rfl⟩ | (simp; omega) | (simp; done)))
    refine call_w (szMethod_ok xs[i] _ (by omega) (by omega) (hf2 _ (List.mem_map_of_mem (List.getElem_mem hi)))) ?_
    simp -implicitDefEqProofs (disch := omega) only [go_sem]
    with_reducible refine split2 (fun hb => ?_) (fun hb => ?_) <;> have h := hb <;> (try simp only [wf_preprocess] at h) <;> simp -implicitDefEqProofs (disch := omega) only [go_sem, hb] <;> (repeat (with_reducible refine And.intro ?_ ?_; focus first | omega | rfl | assumption | exact ⟨_, rfl, rfl⟩ | (simp; omega) | (simp; done)))
    · have h' := sub1_neg h
      rw [← p4, sub1_no (by omega)]
    · have h' := sub1_nn h
      refine inv_at (i + 1, sub1 l _) (by simp only; omega) rfl rfl ⟨by simp only; omega, by simp only; omega, by simp only; omega, ?_⟩
      simp only
      rw [← p4, h'.1]
      unfold sub1
      split <;> split <;> omega
  · have hi : i = xs.length := by omega
    rw [hi, List.drop_of_length_le (by simp), szRows, sub1_yes (by omega)] at p4
    rw [← p4]
    refine int_eq ?_
    omega
theorem toMethod_ok (x : MMethod) : x.sz ≤ 1048576 → PCall Tryz.prog 267 [x.v] x.v := by
  intro hsz S
  simp only [MMethod.sz, MMethod.enc_eq, szRow, szRow_append, D.sz, List.length_map, MExpr.sz_def] at hsz
  refine acall_cw (rs := [.cell 2 225]) Tryz.checked.mixed Tryz.func267 Tryz.ntmps267 rfl rfl rfl rfl rfl ?_
  simp -implicitDefEqProofs (disch := omega) only [go_sem]
  refine call_w (toStringS_ok x.fVars (by omega)) ?_
  simp -implicitDefEqProofs (disch := omega) only [go_sem]
  refine call_w (toExpr_ok x.fBody (by omega)) ?_
  simp -implicitDefEqProofs (disch := omega) only [go_sem]
theorem toMethodS_ok (xs : List MMethod) : xs.length + szRows (xs.map MMethod.enc) ≤ 1048576 → PCall Tryz.prog 222 [.c (.d (.sl (xs.map MMethod.enc)))] (.c (.d (.sl (xs.map MMethod.enc)))) := by
  intro hsz S
  refine acall_cw (rs := [.tmp 2]) Tryz.checked.mixed Tryz.func222 Tryz.ntmps222 rfl rfl rfl rfl rfl ?_
  simp -implicitDefEqProofs (disch := omega) only [go_sem]
  (repeat (with_reducible refine And.intro ?_ ?_; focus first | omega | rfl | assumption | exact ⟨_, rfl, rfl⟩ | (simp; omega) | (simp; done)))
  refine loop_at (ι := Nat × List (List D)) Tryz.checked.mixed rfl [0, 3, 4] (fun y => [.c (.d (.sl (xs.map MMethod.enc))), .c (.msl (0, 0)), .c (.d (.i .i64 y.1))]) (fun y => [.mrow 11 y.2] :: S)
    (fun y => y.1 ≤ xs.length ∧ Filled 11 y.1 y.2 (xs.map MMethod.enc)) (fun y => xs.length - y.1) (0, _) rfl rfl ⟨Nat.zero_le _, Filled.start (by simp) rfl⟩ ?_
  rintro ⟨i, R⟩ ⟨p1, p2⟩
  simp only at p1 p2
  simp -implicitDefEqProofs (disch := omega) only [go_sem]
  with_reducible refine split2 (fun hb => ?_) (fun hb => ?_) <;> have h := hb <;> (try simp only [wf_preprocess] at h) <;> simp -implicitDefEqProofs (disch := omega) only [go_sem, hb] <;> (repeat (with_reducible refine And.intro ?_ ?_; focus first | omega | rfl | assumption | exact ⟨_, rfl, rfl⟩ | (simp; omega) | (simp; done)))
  · have hi : i < xs.length := by omega
    have hx : xs[i].sz ≤ szRows (xs.map MMethod.enc) := szRows_mem (List.mem_map_of_mem (List.getElem_mem hi))
    (repeat (with_reducible refine And.intro ?_ ?_; focus first | omega | rfl | assumption | exact ⟨_, rfl, rfl⟩ | (simp; omega) | (simp; done)))
    refine call_w (toMethod_ok xs[i] (by omega)) ?_
    simp -implicitDefEqProofs (disch := omega) only [go_sem]
    have hR := p2.1
    rw [List.length_map] at hR
    (repeat (with_reducible refine And.intro ?_ ?_; focus first | omega | rfl | assumption | exact ⟨_, rfl, rfl⟩ | (simp; omega) | (simp; done)))
    refine inv_at (i + 1, _) (by simp only; omega) rfl rfl ⟨by simp only; omega, p2.step (by simp [hi, MExpr.enc_eq, MMethod.enc_eq, MType.enc_eq]) rfl⟩
  · have hi : i = xs.length := by omega
    rw [p2.done (by rw [List.length_map]; omega)]
theorem eqMethod_ok (x : MMethod) : ∀ y : MMethod, x.sz ≤ 1048576 → PCall Tryz.prog 190 [x.v, y.v] (.c (.d (.b (dec (x = y))))) := by
  intro y hsz S
  simp only [MMethod.sz, MMethod.enc_eq, szRow, szRow_append, D.sz, List.length_map, MExpr.sz_def] at hsz
  refine acall_cw (rs := [.tmp 4]) Tryz.checked.mixed Tryz.func190 Tryz.ntmps190 rfl rfl rfl rfl rfl ?_
  simp -implicitDefEqProofs (disch := omega) only [go_sem]
  with_reducible refine split2 (fun hb => ?_) (fun hb => ?_) <;> have h := hb <;> (try simp only [wf_preprocess] at h) <;> simp -implicitDefEqProofs (disch := omega) only [go_sem, hb] <;> (repeat (with_reducible refine And.intro ?_ ?_; focus first | omega | rfl | assumption | exact ⟨_, rfl, rfl⟩ | (simp; omega) | (simp; done)))
  · exact bool_eq (dec_false (fun e => h (by rw [e]))).symm
  have eName := h
  clear h
  refine call_w (eqStringS_ok x.fVars _ (by omega)) ?_
  simp -implicitDefEqProofs (disch := omega) only [go_sem]
  with_reducible refine split2 (fun hb => ?_) (fun hb => ?_) <;> have h := hb <;> (try simp only [wf_preprocess] at h) <;> simp -implicitDefEqProofs (disch := omega) only [go_sem, hb] <;> (repeat (with_reducible refine And.intro ?_ ?_; focus first | omega | rfl | assumption | exact ⟨_, rfl, rfl⟩ | (simp; omega) | (simp; done)))
  · exact bool_eq (dec_false (fun e => h (by rw [e]))).symm
  have eVars := h
  clear h
  refine call_w (eqExpr_ok x.fBody _ (by omega)) ?_
  simp -implicitDefEqProofs (disch := omega) only [go_sem]
  with_reducible refine split2 (fun hb => ?_) (fun hb => ?_) <;> have h := hb <;> (try simp only [wf_preprocess] at h) <;> simp -implicitDefEqProofs (disch := omega) only [go_sem, hb] <;> (repeat (with_reducible refine And.intro ?_ ?_; focus first | omega | rfl | assumption | exact ⟨_, rfl, rfl⟩ | (simp; omega) | (simp; done)))
  · exact bool_eq (dec_false (fun e => h (by rw [e]))).symm
  have eBody := h
  clear h
  exact bool_eq (dec_true (MMethod.ext' eName eVars eBody)).symm
theorem eqMethodS_ok (xs : List MMethod) : ∀ ys : List MMethod, xs.length + szRows (xs.map MMethod.enc) ≤ 1048576 → PCall Tryz.prog 113 [.c (.d (.sl (xs.map MMethod.enc))), .c (.d (.sl (ys.map MMethod.enc)))] (.c (.d (.b (dec (xs = ys))))) := by
  intro ys hsz S
  refine acall_cw (rs := [.tmp 4]) Tryz.checked.mixed Tryz.func113 Tryz.ntmps113 rfl rfl rfl rfl rfl ?_
  simp -implicitDefEqProofs (disch := omega) only [go_sem]
  with_reducible refine split2 (fun hb => ?_) (fun hb => ?_) <;> have h := hb <;> (try simp only [wf_preprocess] at h) <;> simp -implicitDefEqProofs (disch := omega) only [go_sem, hb] <;> (repeat (with_reducible refine And.intro ?_ ?_; focus first | omega | rfl | assumption | exact ⟨_, rfl, rfl⟩ | (simp; omega) | (simp; done)))
  · exact bool_eq (dec_false (fun e => h (by rw [e]))).symm
  have hl : xs.length = ys.length := by omega
  refine loop_at (ι := Nat) Tryz.checked.mixed rfl [0, 1, 5] (fun y => [.c (.d (.sl (xs.map MMethod.enc))), .c (.d (.sl (ys.map MMethod.enc))), .c (.d (.i .i64 y))]) (fun y => [] :: S)
    (fun i => i ≤ xs.length ∧ ∀ j, j < i → xs[j]? = ys[j]?) (fun y => xs.length - y) 0 rfl rfl ⟨Nat.zero_le _, fun j h => by omega⟩ ?_
  rintro i ⟨p1, p2⟩
  simp -implicitDefEqProofs (disch := omega) only [go_sem]
  with_reducible refine split2 (fun hb => ?_) (fun hb => ?_) <;> have h := hb <;> (try simp only [wf_preprocess] at h) <;> simp -implicitDefEqProofs (disch := omega) only [go_sem, hb] <;> (repeat (with_reducible refine And.intro ?_ ?_; focus first | omega | rfl | assumption | exact ⟨_, rfl, rfl⟩ | (simp; omega) | (simp; done)))
  · have hi : i < xs.length := by omega
    have hi' : i < ys.length := by omega
    have hx : xs[i].sz ≤ szRows (xs.map MMethod.enc) := szRows_mem (List.mem_map_of_mem (List.getElem_mem hi))
    (repeat (with_reducible refine And.intro ?_ ?_; focus first | omega | rfl | assumption | exact ⟨_, rfl, rfl⟩ | (simp; omega) | (simp; done)))
    refine call_w (eqMethod_ok xs[i] ys[i] (by omega)) ?_
    simp -implicitDefEqProofs (disch := omega) only [go_sem]
    with_reducible refine split2 (fun hb => ?_) (fun hb => ?_) <;> have h := hb <;> (try simp only [wf_preprocess] at h) <;> simp -implicitDefEqProofs (disch := omega) only [go_sem, hb] <;> (repeat (with_reducible refine And.intro ?_ ?_; focus first | omega | rfl | assumption | exact ⟨_, rfl, rfl⟩ | (simp; omega) | (simp; done)))
    · exact bool_eq (dec_false (fun e => h (by simp only [e]))).symm
    refine inv_at (i + 1) (by omega) rfl rfl ⟨by omega, fun j hj => ?_⟩
    by_cases e : j = i
    · subst e
      rw [List.getElem?_eq_getElem hi, List.getElem?_eq_getElem hi', h]
    · exact p2 j (by omega)
  · have hi : i = xs.length := by omega
    refine bool_eq (dec_true (List.ext_getElem? fun j => ?_)).symm
    by_cases hj : j < i
    · exact p2 j hj
    · rw [List.getElem?_eq_none (by omega), List.getElem?_eq_none (by omega)]
end Go.Proofs.YtnleocfkdidhoaaGreat

namespace Go.Proofs.YtnleocfkdidhoaaGreat
open Go Go.Ab
theorem szInstance_ok (x : MInstance) : ∀ left : Int, 0 ≤ left → left ≤ 1048576 → FitL x.enc → PCall Tryz.prog 137 [x.v, .c (.d (.i .i64 left))] (.c (.d (.i .i64 (sub1 left x.sz)))) := by
  intro left h0 h1 hf S
  simp only [MInstance.enc_eq, List.cons_append, List.nil_append, fitL_cons, fitL_append, fitL_nil_iff, and_true] at hf
  obtain ⟨fTrait, fVars, fHead, fWhere, fDefault, fHasAssoc, fAssoc, fMethods⟩ := hf
  have hz : x.sz = x.fTrait.length + ((x.fVars.length + szRows (x.fVars.map encS)) + (x.fHead.sz + ((x.fWhere.length + szRows (x.fWhere.map MBound.enc)) + (x.fAssoc.sz + ((x.fMethods.length + szRows (x.fMethods.map MMethod.enc))))))) := by
    simp only [MInstance.sz, MInstance.enc_eq, szRow, szRow_append, D.sz, List.length_map, Nat.add_zero, Nat.zero_add, MType.sz_def] <;> omega
  refine acall_cw (rs := [.tmp 4]) Tryz.checked.mixed Tryz.func137 Tryz.ntmps137 rfl rfl rfl rfl rfl ?_
  rw [hz]
  have gTrait := fit_s fTrait
  simp -implicitDefEqProofs (disch := omega) only [go_sem]
  with_reducible refine split2 (fun hb => ?_) (fun hb => ?_) <;> have h := hb <;> (try simp only [wf_preprocess] at h) <;> simp -implicitDefEqProofs (disch := omega) only [go_sem, hb] <;> (repeat (with_reducible refine And.intro ?_ ?_; focus first | omega | rfl | assumption | exact ⟨_, rfl, rfl⟩ | (simp; omega) | (simp; done)))
  · exact int_eq (sub1_no (by omega)).symm
  refine call_w (szStringS_ok x.fVars _ (by omega) (by omega) fVars) ?_
  simp -implicitDefEqProofs (disch := omega) only [go_sem]
  with_reducible refine split2 (fun hb => ?_) (fun hb => ?_) <;> have h := hb <;> (try simp only [wf_preprocess] at h) <;> simp -implicitDefEqProofs (disch := omega) only [go_sem, hb] <;> (repeat (with_reducible refine And.intro ?_ ?_; focus first | omega | rfl | assumption | exact ⟨_, rfl, rfl⟩ | (simp; omega) | (simp; done)))
  · have h' := sub1_neg h
    exact int_eq (sub1_no (by omega)).symm
  have hVars := sub1_nn h
  simp only [hVars.1]
  refine call_w (szType_ok x.fHead _ (by omega) (by omega) fHead) ?_
  simp -implicitDefEqProofs (disch := omega) only [go_sem]
  with_reducible refine split2 (fun hb => ?_) (fun hb => ?_) <;> have h := hb <;> (try simp only [wf_preprocess] at h) <;> simp -implicitDefEqProofs (disch := omega) only [go_sem, hb] <;> (repeat (with_reducible refine And.intro ?_ ?_; focus first | omega | rfl | assumption | exact ⟨_, rfl, rfl⟩ | (simp; omega) | (simp; done)))
  · have h' := sub1_neg h
    exact int_eq (sub1_no (by omega)).symm
  have hHead := sub1_nn h
  simp only [hHead.1]
  refine call_w (szBoundS_ok x.fWhere _ (by omega) (by omega) fWhere) ?_
  simp -implicitDefEqProofs (disch := omega) only [go_sem]
  with_reducible refine split2 (fun hb => ?_) (fun hb => ?_) <;> have h := hb <;> (try simp only [wf_preprocess] at h) <;> simp -implicitDefEqProofs (disch := omega) only [go_sem, hb] <;> (repeat (with_reducible refine And.intro ?_ ?_; focus first | omega | rfl | assumption | exact ⟨_, rfl, rfl⟩ | (simp; omega) | (simp; done)))
  · have h' := sub1_neg h
    exact int_eq (sub1_no (by omega)).symm
  have hWhere := sub1_nn h
  simp only [hWhere.1]
  refine call_w (szType_ok x.fAssoc _ (by omega) (by omega) fAssoc) ?_
  simp -implicitDefEqProofs (disch := omega) only [go_sem]
  with_reducible refine split2 (fun hb => ?_) (fun hb => ?_) <;> have h := hb <;> (try simp only [wf_preprocess] at h) <;> simp -implicitDefEqProofs (disch := omega) only [go_sem, hb] <;> (repeat (with_reducible refine And.intro ?_ ?_; focus first | omega | rfl | assumption | exact ⟨_, rfl, rfl⟩ | (simp; omega) | (simp; done)))
  · have h' := sub1_neg h
    exact int_eq (sub1_no (by omega)).symm
  have hAssoc := sub1_nn h
  simp only [hAssoc.1]
  refine call_w (szMethodS_ok x.fMethods _ (by omega) (by omega) fMethods) ?_
  simp -implicitDefEqProofs (disch := omega) only [go_sem]
  with_reducible refine split2 (fun hb => ?_) (fun hb => ?_) <;> have h := hb <;> (try simp only [wf_preprocess] at h) <;> simp -implicitDefEqProofs (disch := omega) only [go_sem, hb] <;> (repeat (with_reducible refine And.intro ?_ ?_; focus first | omega | rfl | assumption | exact ⟨_, rfl, rfl⟩ | (simp; omega) | (simp; done)))
  · have h' := sub1_neg h
    exact int_eq (sub1_no (by omega)).symm
  have hMethods := sub1_nn h
  simp only [hMethods.1]
  refine int_eq ?_
  rw [sub1_yes (by omega)]
  omega
theorem szInstanceS_ok (xs : List MInstance) : ∀ left : Int, 0 ≤ left → left ≤ 1048576 → (D.sl (xs.map MInstance.enc)).Fit → PCall Tryz.prog 65 [.c (.d (.sl (xs.map MInstance.enc))), .c (.d (.i .i64 left))] (.c (.d (.i .i64 (sub1 left (xs.length + szRows (xs.map MInstance.enc)))))) := by
  intro left h0 h1 hf S
  obtain ⟨hf1, hf2⟩ := fit_sl hf
  rw [List.length_map] at hf1
  refine acall_cw (rs := [.tmp 4]) Tryz.checked.mixed Tryz.func65 Tryz.ntmps65 rfl rfl rfl rfl rfl ?_
  simp -implicitDefEqProofs (disch := omega) only [go_sem]
  with_reducible refine split2 (fun hb => ?_) (fun hb => ?_) <;> have h := hb <;> (try simp only [wf_preprocess] at h) <;> simp -implicitDefEqProofs (disch := omega) only [go_sem, hb] <;> (repeat (with_reducible refine And.intro ?_ ?_; focus first | omega | rfl | assumption | exact ⟨_, rfl, rfl⟩ | (simp; omega) | (simp; done)))
  · exact int_eq (sub1_no (by omega)).symm
  refine loop_at (ι := Nat × Int) Tryz.checked.mixed rfl [0, 1, 5] (fun y => [.c (.d (.sl (xs.map MInstance.enc))), .c (.d (.i .i64 y.2)), .c (.d (.i .i64 y.1))]) (fun _ => [] :: S)
    (fun y => y.1 ≤ xs.length ∧ 0 ≤ y.2 ∧ y.2 ≤ 1048576 ∧ sub1 y.2 (szRows ((xs.map MInstance.enc).drop y.1)) = sub1 left (xs.length + szRows (xs.map MInstance.enc))) (fun y => xs.length - y.1) (0, left - xs.length) rfl rfl ⟨by omega, by omega, by omega, ?_⟩ ?_
  · unfold sub1
    rw [List.drop_zero]
    split <;> split <;> omega
  rintro ⟨i, l⟩ ⟨p1, p2, p3, p4⟩
  simp only at p1 p2 p3 p4
  simp -implicitDefEqProofs (disch := omega) only [go_sem]
  with_reducible refine split2 (fun hb => ?_) (fun hb => ?_) <;> have h := hb <;> (try simp only [wf_preprocess] at h) <;> simp -implicitDefEqProofs (disch := omega) only [go_sem, hb] <;> (repeat (with_reducible refine And.intro ?_ ?_; focus first | omega | rfl | assumption | exact ⟨_, rfl, rfl⟩ | (simp; omega) | (simp; done)))
  · have hi : i < xs.length := by omega
    rw [List.drop_eq_getElem_cons (by rw [List.length_map]; exact hi), szRows, List.getElem_map, MInstance.sz_def] at p4
    (repeat (with_reducible refine And.intro ?_ ?_; focus first | omega | rfl | assumption | exact ⟨_, rfl, rfl⟩ | (simp; omega) | (simp; done)))
    refine call_w (szInstance_ok xs[i] _ (by omega) (by omega) (hf2 _ (List.mem_map_of_mem (List.getElem_mem hi)))) ?_
    simp -implicitDefEqProofs (disch := omega) only [go_sem]
    with_reducible refine split2 (fun hb => ?_) (fun hb => ?_) <;> have h := hb <;> (try simp only [wf_preprocess] at h) <;> simp -implicitDefEqProofs (disch := omega) only [go_sem, hb] <;> (repeat (with_reducible refine And.intro ?_ ?_; focus first | omega | rfl | assumption | exact ⟨_, rfl, rfl⟩ | (simp; omega) | (simp; done)))
    · have h' := sub1_neg h
      rw [← p4, sub1_no (by omega)]
    · have h' := sub1_nn h
      refine inv_at (i + 1, sub1 l _) (by simp only; omega) rfl rfl ⟨by simp only; omega, by simp only; omega, by simp only; omega, ?_⟩
      simp only
      rw [← p4, h'.1]
      unfold sub1
      split <;> split <;> omega
  · have hi : i = xs.length := by omega
    rw [hi, List.drop_of_length_le (by simp), szRows, sub1_yes (by omega)] at p4
    rw [← p4]
    refine int_eq ?_
    omega
theorem toInstance_ok (x : MInstance) : x.sz ≤ 1048576 → PCall Tryz.prog 147 [x.v] x.v := by
  intro hsz S
  simp only [MInstance.sz, MInstance.enc_eq, szRow, szRow_append, D.sz, List.length_map, MType.sz_def] at hsz
  refine acall_cw (rs := [.cell 2 93]) Tryz.checked.mixed Tryz.func147 Tryz.ntmps147 rfl rfl rfl rfl rfl ?_
  simp -implicitDefEqProofs (disch := omega) only [go_sem]
  refine call_w (toStringS_ok x.fVars (by omega)) ?_
  simp -implicitDefEqProofs (disch := omega) only [go_sem]
  refine call_w (toType_ok x.fHead (by omega)) ?_
  simp -implicitDefEqProofs (disch := omega) only [go_sem]
  refine call_w (toBoundS_ok x.fWhere (by omega)) ?_
  simp -implicitDefEqProofs (disch := omega) only [go_sem]
  refine call_w (toType_ok x.fAssoc (by omega)) ?_
  simp -implicitDefEqProofs (disch := omega) only [go_sem]
  refine call_w (toMethodS_ok x.fMethods (by omega)) ?_
  simp -implicitDefEqProofs (disch := omega) only [go_sem]
theorem toInstanceS_ok (xs : List MInstance) : xs.length + szRows (xs.map MInstance.enc) ≤ 1048576 → PCall Tryz.prog 76 [.c (.d (.sl (xs.map MInstance.enc)))] (.c (.d (.sl (xs.map MInstance.enc)))) := by
  intro hsz S
  refine acall_cw (rs := [.tmp 2]) Tryz.checked.mixed Tryz.func76 Tryz.ntmps76 rfl rfl rfl rfl rfl ?_
  simp -implicitDefEqProofs (disch := omega) only [go_sem]
  (repeat (with_reducible refine And.intro ?_ ?_; focus first | omega | rfl | assumption | exact ⟨_, rfl, rfl⟩ | (simp; omega) | (simp; done)))
  refine loop_at (ι := Nat × List (List D)) Tryz.checked.mixed rfl [0, 3, 4] (fun y => [.c (.d (.sl (xs.map MInstance.enc))), .c (.msl (0, 0)), .c (.d (.i .i64 y.1))]) (fun y => [.mrow 12 y.2] :: S)
    (fun y => y.1 ≤ xs.length ∧ Filled 12 y.1 y.2 (xs.map MInstance.enc)) (fun y => xs.length - y.1) (0, _) rfl rfl ⟨Nat.zero_le _, Filled.start (by simp) rfl⟩ ?_
  rintro ⟨i, R⟩ ⟨p1, p2⟩
  simp only at p1 p2
  simp -implicitDefEqProofs (disch := omega) only [go_sem]
  with_reducible refine split2 (fun hb => ?_) (fun hb => ?_) <;> have h := hb <;> (try simp only [wf_preprocess] at h) <;> simp -implicitDefEqProofs (disch := omega) only [go_sem, hb] <;> (repeat (with_reducible refine And.intro ?_ ?_; focus first | omega | rfl | assumption | exact ⟨_, rfl, rfl⟩ | (simp; omega) | (simp; done)))
  · have hi : i < xs.length := by omega
    have hx : xs[i].sz ≤ szRows (xs.map MInstance.enc) := szRows_mem (List.mem_map_of_mem (List.getElem_mem hi))
    (repeat (with_reducible refine And.intro ?_ ?_; focus first | omega | rfl | assumption | exact ⟨_, rfl, rfl⟩ | (simp; omega) | (simp; done)))
    refine call_w (toInstance_ok xs[i] (by omega)) ?_
    simp -implicitDefEqProofs (disch := omega) only [go_sem]
    have hR := p2.1
    rw [List.length_map] at hR
    (repeat (with_reducible refine And.intro ?_ ?_; focus first | omega | rfl | assumption | exact ⟨_, rfl, rfl⟩ | (simp; omega) | (simp; done)))
    refine inv_at (i + 1, _) (by simp only; omega) rfl rfl ⟨by simp only; omega, p2.step (by simp [hi, MInstance.enc_eq, MType.enc_eq]) rfl⟩
  · have hi : i = xs.length := by omega
    rw [p2.done (by rw [List.length_map]; omega)]
theorem eqInstance_ok (x : MInstance) : ∀ y : MInstance, x.sz ≤ 1048576 → PCall Tryz.prog 44 [x.v, y.v] (.c (.d (.b (dec (x = y))))) := by
  intro y hsz S
  simp only [MInstance.sz, MInstance.enc_eq, szRow, szRow_append, D.sz, List.length_map, MType.sz_def] at hsz
  refine acall_cw (rs := [.tmp 4]) Tryz.checked.mixed Tryz.func44 Tryz.ntmps44 rfl rfl rfl rfl rfl ?_
  simp -implicitDefEqProofs (disch := omega) only [go_sem]
  with_reducible refine split2 (fun hb => ?_) (fun hb => ?_) <;> have h := hb <;> (try simp only [wf_preprocess] at h) <;> simp -implicitDefEqProofs (disch := omega) only [go_sem, hb] <;> (repeat (with_reducible refine And.intro ?_ ?_; focus first | omega | rfl | assumption | exact ⟨_, rfl, rfl⟩ | (simp; omega) | (simp; done)))
  · exact bool_eq (dec_false (fun e => h (by rw [e]))).symm
  have eTrait := h
  clear h
  refine call_w (eqStringS_ok x.fVars _ (by omega)) ?_
  simp -implicitDefEqProofs (disch := omega) only [go_sem]
  with_reducible refine split2 (fun hb => ?_) (fun hb => ?_) <;> have h := hb <;> (try simp only [wf_preprocess] at h) <;> simp -implicitDefEqProofs (disch := omega) only [go_sem, hb] <;> (repeat (with_reducible refine And.intro ?_ ?_; focus first | omega | rfl | assumption | exact ⟨_, rfl, rfl⟩ | (simp; omega) | (simp; done)))
  · exact bool_eq (dec_false (fun e => h (by rw [e]))).symm
  have eVars := h
  clear h
  refine call_w (eqType_ok x.fHead _ (by omega)) ?_
  simp -implicitDefEqProofs (disch := omega) only [go_sem]
  with_reducible refine split2 (fun hb => ?_) (fun hb => ?_) <;> have h := hb <;> (try simp only [wf_preprocess] at h) <;> simp -implicitDefEqProofs (disch := omega) only [go_sem, hb] <;> (repeat (with_reducible refine And.intro ?_ ?_; focus first | omega | rfl | assumption | exact ⟨_, rfl, rfl⟩ | (simp; omega) | (simp; done)))
  · exact bool_eq (dec_false (fun e => h (by rw [e]))).symm
  have eHead := h
  clear h
  refine call_w (eqBoundS_ok x.fWhere _ (by omega)) ?_
  simp -implicitDefEqProofs (disch := omega) only [go_sem]
  with_reducible refine split2 (fun hb => ?_) (fun hb => ?_) <;> have h := hb <;> (try simp only [wf_preprocess] at h) <;> simp -implicitDefEqProofs (disch := omega) only [go_sem, hb] <;> (repeat (with_reducible refine And.intro ?_ ?_; focus first | omega | rfl | assumption | exact ⟨_, rfl, rfl⟩ | (simp; omega) | (simp; done)))
  · exact bool_eq (dec_false (fun e => h (by rw [e]))).symm
  have eWhere := h
  clear h
  with_reducible refine split2 (fun hb => ?_) (fun hb => ?_) <;> have h := hb <;> (try simp only [wf_preprocess] at h) <;> simp -implicitDefEqProofs (disch := omega) only [go_sem, hb] <;> (repeat (with_reducible refine And.intro ?_ ?_; focus first | omega | rfl | assumption | exact ⟨_, rfl, rfl⟩ | (simp; omega) | (simp; done)))
  · exact bool_eq (dec_false (fun e => h (by rw [e]))).symm
  have eDefault := h
  clear h
  with_reducible refine split2 (fun hb => ?_) (fun hb => ?_) <;> have h := hb <;> (try simp only [wf_preprocess] at h) <;> simp -implicitDefEqProofs (disch := omega) only [go_sem, hb] <;> (repeat (with_reducible refine And.intro ?_ ?_; focus first | omega | rfl | assumption | exact ⟨_, rfl, rfl⟩ | (simp; omega) | (simp; done)))
  · exact bool_eq (dec_false (fun e => h (by rw [e]))).symm
  have eHasAssoc := h
  clear h
  refine call_w (eqType_ok x.fAssoc _ (by omega)) ?_
  simp -implicitDefEqProofs (disch := omega) only [go_sem]
  with_reducible refine split2 (fun hb => ?_) (fun hb => ?_) <;> have h := hb <;> (try simp only [wf_preprocess] at h) <;> simp -implicitDefEqProofs (disch := omega) only [go_sem, hb] <;> (repeat (with_reducible refine And.intro ?_ ?_; focus first | omega | rfl | assumption | exact ⟨_, rfl, rfl⟩ | (simp; omega) | (simp; done)))
  · exact bool_eq (dec_false (fun e => h (by rw [e]))).symm
  have eAssoc := h
  clear h
  refine call_w (eqMethodS_ok x.fMethods _ (by omega)) ?_
  simp -implicitDefEqProofs (disch := omega) only [go_sem]
  with_reducible refine split2 (fun hb => ?_) (fun hb => ?_) <;> have h := hb <;> (try simp only [wf_preprocess] at h) <;> simp -implicitDefEqProofs (disch := omega) only [go_sem, hb] <;> (repeat (with_reducible refine And.intro ?_ ?_; focus first | omega | rfl | assumption | exact ⟨_, rfl, rfl⟩ | (simp; omega) | (simp; done)))
  · exact bool_eq (dec_false (fun e => h (by rw [e]))).symm
  have eMethods := h
  clear h
  exact bool_eq (dec_true (MInstance.ext' eTrait eVars eHead eWhere eDefault eHasAssoc eAssoc eMethods)).symm
theorem eqInstanceS_ok (xs : List MInstance) : ∀ ys : List MInstance, xs.length + szRows (xs.map MInstance.enc) ≤ 1048576 → PCall Tryz.prog 89 [.c (.d (.sl (xs.map MInstance.enc))), .c (.d (.sl (ys.map MInstance.enc)))] (.c (.d (.b (dec (xs = ys))))) := by
  intro ys hsz S
  refine acall_cw (rs := [.tmp 4]) Tryz.checked.mixed Tryz.func89 Tryz.ntmps89 rfl rfl rfl rfl rfl ?_
  simp -implicitDefEqProofs (disch := omega) only [go_sem]
  with_reducible refine split2 (fun hb => ?_) (fun hb => ?_) <;> have h := hb <;> (try simp only [wf_preprocess] at h) <;> simp -implicitDefEqProofs (disch := omega) only [go_sem, hb] <;> (repeat (with_reducible refine And.intro ?_ ?_; focus first | omega | rfl | assumption | exact ⟨_, rfl, rfl⟩ | (simp; omega) | (simp; done)))
  · exact bool_eq (dec_false (fun e => h (by rw [e]))).symm
  have hl : xs.length = ys.length := by omega
  refine loop_at (ι := Nat) Tryz.checked.mixed rfl [0, 1, 5] (fun y => [.c (.d (.sl (xs.map MInstance.enc))), .c (.d (.sl (ys.map MInstance.enc))), .c (.d (.i .i64 y))]) (fun y => [] :: S)
    (fun i => i ≤ xs.length ∧ ∀ j, j < i → xs[j]? = ys[j]?) (fun y => xs.length - y) 0 rfl rfl ⟨Nat.zero_le _, fun j h => by omega⟩ ?_
  rintro i ⟨p1, p2⟩
  simp -implicitDefEqProofs (disch := omega) only [go_sem]
  with_reducible refine split2 (fun hb => ?_) (fun hb => ?_) <;> have h := hb <;> (try simp only [wf_preprocess] at h) <;> simp -implicitDefEqProofs (disch := omega) only [go_sem, hb] <;> (repeat (with_reducible refine And.intro ?_ ?_; focus first | omega | rfl | assumption | exact ⟨_, rfl, rfl⟩ | (simp; omega) | (simp; done)))
  · have hi : i < xs.length := by omega
    have hi' : i < ys.length := by omega
    have hx : xs[i].sz ≤ szRows (xs.map MInstance.enc) := szRows_mem (List.mem_map_of_mem (List.getElem_mem hi))
    (repeat (with_reducible refine And.intro ?_ ?_; focus first | omega | rfl | assumption | exact ⟨_, rfl, rfl⟩ | (simp; omega) | (simp; done)))
    refine call_w (eqInstance_ok xs[i] ys[i] (by omega)) ?_
    simp -implicitDefEqProofs (disch := omega) only [go_sem]
    with_reducible refine split2 (fun hb => ?_) (fun hb => ?_) <;> have h := hb <;> (try simp only [wf_preprocess] at h) <;> simp -implicitDefEqProofs (disch := omega) only [go_sem, hb] <;> (repeat (with_reducible refine And.intro ?_ ?_; focus first | omega | rfl | assumption | exact ⟨_, rfl, rfl⟩ | (simp; omega) | (simp; done)))
    · exact bool_eq (dec_false (fun e => h (by simp only [e]))).symm
    refine inv_at (i + 1) (by omega) rfl rfl ⟨by omega, fun j hj => ?_⟩
    by_cases e : j = i
    · subst e
      rw [List.getElem?_eq_getElem hi, List.getElem?_eq_getElem hi', h]
    · exact p2 j (by omega)
  · have hi : i = xs.length := by omega
    refine bool_eq (dec_true (List.ext_getElem? fun j => ?_)).symm
    by_cases hj : j < i
    · exact p2 j hj
    · rw [List.getElem?_eq_none (by omega), List.getElem?_eq_none (by omega)]
end Go.Proofs.YtnleocfkdidhoaaGreat

namespace Go.Proofs.YtnleocfkdidhoaaGreat
open Go Go.Ab
theorem szParam_ok (x : MParam) : ∀ left : Int, 0 ≤ left → left ≤ 1048576 → FitL x.enc → PCall Tryz.prog 256 [x.v, .c (.d (.i .i64 left))] (.c (.d (.i .i64 (sub1 left x.sz)))) := by
  intro left h0 h1 hf S
  simp only [MParam.enc_eq, List.cons_append, List.nil_append, fitL_cons, fitL_append, fitL_nil_iff, and_true] at hf
  obtain ⟨fName, fType⟩ := hf
  have hz : x.sz = x.fName.length + (x.fType.sz) := by
    simp only [MParam.sz, MParam.enc_eq, szRow, szRow_append, D.sz, List.length_map, Nat.add_zero, Nat.zero_add, MType.sz_def] <;> omega
  refine acall_cw (rs := [.tmp 4]) Tryz.checked.mixed Tryz.func256 Tryz.ntmps256 rfl rfl rfl rfl rfl ?_
  rw [hz]
  have gName := fit_s fName
  simp -implicitDefEqProofs (disch := omega) only [go_sem]
  with_reducible refine split2 (fun hb => ?_) (fun hb => ?_) <;> have h := hb <;> (try simp only [wf_preprocess] at h) <;> simp -implicitDefEqProofs (disch := omega) only [go_sem, hb] <;> (repeat (with_reducible refine And.intro ?_ ?_; focus first | omega | rfl | assumption | exact ⟨_, rfl, rfl⟩ | (simp; omega) | (simp; done)))
  · exact int_eq (sub1_no (by omega)).symm
  refine call_w (szType_ok x.fType _ (by omega) (by omega) fType) ?_
  simp -implicitDefEqProofs (disch := omega) only [go_sem]
  with_reducible refine split2 (fun hb => ?_) (fun hb => ?_) <;> have h := hb <;> (try simp only [wf_preprocess] at h) <;> simp -implicitDefEqProofs (disch := omega) only [go_sem, hb] <;> (repeat (with_reducible refine And.intro ?_ ?_; focus first | omega | rfl | assumption | exact ⟨_, rfl, rfl⟩ | (simp; omega) | (simp; done)))
  · have h' := sub1_neg h
    exact int_eq (sub1_no (by omega)).symm
  have hType := sub1_nn h
  simp only [hType.1]
  refine int_eq ?_
  rw [sub1_yes (by omega)]
  omega
theorem szParamS_ok (xs : List MParam) : ∀ left : Int, 0 ≤ left → left ≤ 1048576 → (D.sl (xs.map MParam.enc)).Fit → PCall Tryz.prog 210 [.c (.d (.sl (xs.map MParam.enc))), .c (.d (.i .i64 left))] (.c (.d (.i .i64 (sub1 left (xs.length + szRows (xs.map MParam.enc)))))) := by
  intro left h0 h1 hf S
  obtain ⟨hf1, hf2⟩ := fit_sl hf
  rw [List.length_map] at hf1
  refine acall_cw (rs := [.tmp 4]) Tryz.checked.mixed Tryz.func210 Tryz.ntmps210 rfl rfl rfl rfl rfl ?_
  simp -implicitDefEqProofs (disch := omega) only [go_sem]
  with_reducible refine split2 (fun hb => ?_) (fun hb => ?_) <;> have h := hb <;> (try simp only [wf_preprocess] at h) <;> simp -implicitDefEqProofs (disch := omega) only [go_sem, hb] <;> (repeat (with_reducible refine And.intro ?_ ?_; focus first | omega | rfl | assumption | exact ⟨_, rfl, rfl⟩ | (simp; omega) | (simp; done)))
  · exact int_eq (sub1_no (by omega)).symm
  refine loop_at (ι := Nat × Int) Tryz.checked.mixed rfl [0, 1, 5] (fun y => [.c (.d (.sl (xs.map MParam.enc))), .c (.d (.i .i64 y.2)), .c (.d (.i .i64 y.1))]) (fun _ => [] :: S)
    (fun y => y.1 ≤ xs.length ∧ 0 ≤ y.2 ∧ y.2 ≤ 1048576 ∧ sub1 y.2 (szRows ((xs.map MParam.enc).drop y.1)) = sub1 left (xs.length + szRows (xs.map MParam.enc))) (fun y => xs.length - y.1) (0, left - xs.length) rfl rfl ⟨by omega, by omega, by omega, ?_⟩ ?_
  · unfold sub1
    rw [List.drop_zero]
    split <;> split <;> omega
  rintro ⟨i, l⟩ ⟨p1, p2, p3, p4⟩
  simp only at p1 p2 p3 p4
  simp -implicitDefEqProofs (disch := omega) only [go_sem]
  with_reducible refine split2 (fun hb => ?_) (fun hb => ?_) <;> have h := hb <;> (try simp only [wf_preprocess] at h) <;> simp -implicitDefEqProofs (disch := omega) only [go_sem, hb] <;> (repeat (with_reducible refine And.intro ?_ ?_; focus first | omega | rfl | assumption | exact ⟨_, rfl, rfl⟩ | (simp; omega) | (simp; done)))
  · have hi : i < xs.length := by omega
    rw [List.drop_eq_getElem_cons (by rw [List.length_map]; exact hi), szRows, List.getElem_map, MParam.sz_def] at p4
    (repeat (with_reducible refine And.intro ?_ ?_; focus first | omega | rfl | assumption | exact ⟨_, rfl, rfl⟩ | (simp; omega) | (simp; done)))
    refine call_w (szParam_ok xs[i] _ (by omega) (by omega) (hf2 _ (List.mem_map_of_mem (List.getElem_mem hi)))) ?_
    simp -implicitDefEqProofs (disch := omega) only [go_sem]
    with_reducible refine split2 (fun hb => ?_) (fun hb => ?_) <;> have h := hb <;> (try simp only [wf_preprocess] at h) <;> simp -implicitDefEqProofs (disch := omega) only [go_sem, hb] <;> (repeat (with_reducible refine And.intro ?_ ?_; focus first | omega | rfl | assumption | exact ⟨_, rfl, rfl⟩ | (simp; omega) | (simp; done)))
    · have h' := sub1_neg h
      rw [← p4, sub1_no (by omega)]
    · have h' := sub1_nn h
      refine inv_at (i + 1, sub1 l _) (by simp only; omega) rfl rfl ⟨by simp only; omega, by simp only; omega, by simp only; omega, ?_⟩
      simp only
      rw [← p4, h'.1]
      unfold sub1
      split <;> split <;> omega
  · have hi : i = xs.length := by omega
    rw [hi, List.drop_of_length_le (by simp), szRows, sub1_yes (by omega)] at p4
    rw [← p4]
    refine int_eq ?_
    omega
theorem toParam_ok (x : MParam) : x.sz ≤ 1048576 → PCall Tryz.prog 268 [x.v] x.v := by
  intro hsz S
  simp only [MParam.sz, MParam.enc_eq, szRow, szRow_append, D.sz, List.length_map, MType.sz_def] at hsz
  refine acall_cw (rs := [.cell 2 267]) Tryz.checked.mixed Tryz.func268 Tryz.ntmps268 rfl rfl rfl rfl rfl ?_
  simp -implicitDefEqProofs (disch := omega) only [go_sem]
  refine call_w (toType_ok x.fType (by omega)) ?_
  simp -implicitDefEqProofs (disch := omega) only [go_sem]
theorem toParamS_ok (xs : List MParam) : xs.length + szRows (xs.map MParam.enc) ≤ 1048576 → PCall Tryz.prog 223 [.c (.d (.sl (xs.map MParam.enc)))] (.c (.d (.sl (xs.map MParam.enc)))) := by
  intro hsz S
  refine acall_cw (rs := [.tmp 2]) Tryz.checked.mixed Tryz.func223 Tryz.ntmps223 rfl rfl rfl rfl rfl ?_
  simp -implicitDefEqProofs (disch := omega) only [go_sem]
  (repeat (with_reducible refine And.intro ?_ ?_; focus first | omega | rfl | assumption | exact ⟨_, rfl, rfl⟩ | (simp; omega) | (simp; done)))
  refine loop_at (ι := Nat × List (List D)) Tryz.checked.mixed rfl [0, 3, 4] (fun y => [.c (.d (.sl (xs.map MParam.enc))), .c (.msl (0, 0)), .c (.d (.i .i64 y.1))]) (fun y => [.mrow 4 y.2] :: S)
    (fun y => y.1 ≤ xs.length ∧ Filled 4 y.1 y.2 (xs.map MParam.enc)) (fun y => xs.length - y.1) (0, _) rfl rfl ⟨Nat.zero_le _, Filled.start (by simp) rfl⟩ ?_
  rintro ⟨i, R⟩ ⟨p1, p2⟩
  simp only at p1 p2
  simp -implicitDefEqProofs (disch := omega) only [go_sem]
  with_reducible refine split2 (fun hb => ?_) (fun hb => ?_) <;> have h := hb <;> (try simp only [wf_preprocess] at h) <;> simp -implicitDefEqProofs (disch := omega) only [go_sem, hb] <;> (repeat (with_reducible refine And.intro ?_ ?_; focus first | omega | rfl | assumption | exact ⟨_, rfl, rfl⟩ | (simp; omega) | (simp; done)))
  · have hi : i < xs.length := by omega
    have hx : xs[i].sz ≤ szRows (xs.map MParam.enc) := szRows_mem (List.mem_map_of_mem (List.getElem_mem hi))
    (repeat (with_reducible refine And.intro ?_ ?_; focus first | omega | rfl | assumption | exact ⟨_, rfl, rfl⟩ | (simp; omega) | (simp; done)))
    refine call_w (toParam_ok xs[i] (by omega)) ?_
    simp -implicitDefEqProofs (disch := omega) only [go_sem]
    have hR := p2.1
    rw [List.length_map] at hR
    (repeat (with_reducible refine And.intro ?_ ?_; focus first | omega | rfl | assumption | exact ⟨_, rfl, rfl⟩ | (simp; omega) | (simp; done)))
    refine inv_at (i + 1, _) (by simp only; omega) rfl rfl ⟨by simp only; omega, p2.step (by simp [hi, MParam.enc_eq, MType.enc_eq]) rfl⟩
  · have hi : i = xs.length := by omega
    rw [p2.done (by rw [List.length_map]; omega)]
theorem eqParam_ok (x : MParam) : ∀ y : MParam, x.sz ≤ 1048576 → PCall Tryz.prog 280 [x.v, y.v] (.c (.d (.b (dec (x = y))))) := by
  intro y hsz S
  simp only [MParam.sz, MParam.enc_eq, szRow, szRow_append, D.sz, List.length_map, MType.sz_def] at hsz
  refine acall_cw (rs := [.tmp 4]) Tryz.checked.mixed Tryz.func280 Tryz.ntmps280 rfl rfl rfl rfl rfl ?_
  simp -implicitDefEqProofs (disch := omega) only [go_sem]
  with_reducible refine split2 (fun hb => ?_) (fun hb => ?_) <;> have h := hb <;> (try simp only [wf_preprocess] at h) <;> simp -implicitDefEqProofs (disch := omega) only [go_sem, hb] <;> (repeat (with_reducible refine And.intro ?_ ?_; focus first | omega | rfl | assumption | exact ⟨_, rfl, rfl⟩ | (simp; omega) | (simp; done)))
  · exact bool_eq (dec_false (fun e => h (by rw [e]))).symm
  have eName := h
  clear h
  refine call_w (eqType_ok x.fType _ (by omega)) ?_
  simp -implicitDefEqProofs (disch := omega) only [go_sem]
  with_reducible refine split2 (fun hb => ?_) (fun hb => ?_) <;> have h := hb <;> (try simp only [wf_preprocess] at h) <;> simp -implicitDefEqProofs (disch := omega) only [go_sem, hb] <;> (repeat (with_reducible refine And.intro ?_ ?_; focus first | omega | rfl | assumption | exact ⟨_, rfl, rfl⟩ | (simp; omega) | (simp; done)))
  · exact bool_eq (dec_false (fun e => h (by rw [e]))).symm
  have eType := h
  clear h
  exact bool_eq (dec_true (MParam.ext' eName eType)).symm
theorem eqParamS_ok (xs : List MParam) : ∀ ys : List MParam, xs.length + szRows (xs.map MParam.enc) ≤ 1048576 → PCall Tryz.prog 238 [.c (.d (.sl (xs.map MParam.enc))), .c (.d (.sl (ys.map MParam.enc)))] (.c (.d (.b (dec (xs = ys))))) := by
  intro ys hsz S
  refine acall_cw (rs := [.tmp 4]) Tryz.checked.mixed Tryz.func238 Tryz.ntmps238 rfl rfl rfl rfl rfl ?_
  simp -implicitDefEqProofs (disch := omega) only [go_sem]
  with_reducible refine split2 (fun hb => ?_) (fun hb => ?_) <;> have h := hb <;> (try simp only [wf_preprocess] at h) <;> simp -implicitDefEqProofs (disch := omega) only [go_sem, hb] <;> (repeat (with_reducible refine And.intro ?_ ?_; focus first | omega | rfl | assumption | exact ⟨_, rfl, rfl⟩ | (simp; omega) | (simp; done)))
  · exact bool_eq (dec_false (fun e => h (by rw [e]))).symm
  have hl : xs.length = ys.length := by omega
  refine loop_at (ι := Nat) Tryz.checked.mixed rfl [0, 1, 5] (fun y => [.c (.d (.sl (xs.map MParam.enc))), .c (.d (.sl (ys.map MParam.enc))), .c (.d (.i .i64 y))]) (fun y => [] :: S)
    (fun i => i ≤ xs.length ∧ ∀ j, j < i → xs[j]? = ys[j]?) (fun y => xs.length - y) 0 rfl rfl ⟨Nat.zero_le _, fun j h => by omega⟩ ?_
  rintro i ⟨p1, p2⟩
  simp -implicitDefEqProofs (disch := omega) only [go_sem]
  with_reducible refine split2 (fun hb => ?_) (fun hb => ?_) <;> have h := hb <;> (try simp only [wf_preprocess] at h) <;> simp -implicitDefEqProofs (disch := omega) only [go_sem, hb] <;> (repeat (with_reducible refine And.intro ?_ ?_; focus first | omega | rfl | assumption | exact ⟨_, rfl, rfl⟩ | (simp; omega) | (simp; done)))
  · have hi : i < xs.length := by omega
    have hi' : i < ys.length := by omega
    have hx : xs[i].sz ≤ szRows (xs.map MParam.enc) := szRows_mem (List.mem_map_of_mem (List.getElem_mem hi))
    (repeat (with_reducible refine And.intro ?_ ?_; focus first | omega | rfl | assumption | exact ⟨_, rfl, rfl⟩ | (simp; omega) | (simp; done)))
    refine call_w (eqParam_ok xs[i] ys[i] (by omega)) ?_
    simp -implicitDefEqProofs (disch := omega) only [go_sem]
    with_reducible refine split2 (fun hb => ?_) (fun hb => ?_) <;> have h := hb <;> (try simp only [wf_preprocess] at h) <;> simp -implicitDefEqProofs (disch := omega) only [go_sem, hb] <;> (repeat (with_reducible refine And.intro ?_ ?_; focus first | omega | rfl | assumption | exact ⟨_, rfl, rfl⟩ | (simp; omega) | (simp; done)))
    · exact bool_eq (dec_false (fun e => h (by simp only [e]))).symm
    refine inv_at (i + 1) (by omega) rfl rfl ⟨by omega, fun j hj => ?_⟩
    by_cases e : j = i
    · subst e
      rw [List.getElem?_eq_getElem hi, List.getElem?_eq_getElem hi', h]
    · exact p2 j (by omega)
  · have hi : i = xs.length := by omega
    refine bool_eq (dec_true (List.ext_getElem? fun j => ?_)).symm
    by_cases hj : j < i
    · exact p2 j hj
    · rw [List.getElem?_eq_none (by omega), List.getElem?_eq_none (by omega)]
end Go.Proofs.YtnleocfkdidhoaaGreat

