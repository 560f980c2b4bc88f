/- Texts of the proof of diffLeastCard -/
import Derived.Test.YtclohbgnaopjfaaDoorProg
import Derived.Test.YtclohbgnaopjfaaDoorAw24
import Derived.KernelRfl
namespace Go.Proofs.YtclohbgnaopjfaaDoor
set_option linter.unusedSimpArgs false
set_option linter.unusedVariables false
open Go
theorem ty0 : zH Tryd.prog 0 = ⟨Kd.other, false, 1, 0, some [PV.undef], false⟩ := by kernel_rfl
theorem ty1 : zH Tryd.prog 1 = ⟨Kd.other, false, 1, 8, some [PV.YE], false⟩ := by kernel_rfl
theorem ty3 : zH Tryd.prog 3 = ⟨Kd.int IntKind.i64, false, 1, 8, some [PV.int IntKind.i64 (0)], false⟩ := by kernel_rfl
theorem ty4 : zH Tryd.prog 4 = ⟨Kd.bool, false, 1, 1, some [PV.bool false], false⟩ := by kernel_rfl
theorem ty5 : zH Tryd.prog 5 = ⟨Kd.int IntKind.u8, false, 1, 1, some [PV.int IntKind.u8 (0)], false⟩ := by kernel_rfl
theorem ty9 : zH Tryd.prog 9 = ⟨Kd.str, false, 1, 16, some [PV.str []], false⟩ := by kernel_rfl
theorem aw0 : zH Tryd.prog 21 = ⟨Kd.int IntKind.i32, false, 1, 4, some [PV.int IntKind.i32 (0)], false⟩ := by kernel_rfl
theorem aw1 : zH Tryd.prog 22 = ⟨Kd.slice 73, false, 1, 24, some [PV.kD], false⟩ := by kernel_rfl
theorem aw7 : zH Tryd.prog 24 = ⟨Kd.slice 9, false, 1, 24, some [PV.kD], false⟩ := by kernel_rfl
theorem awZ : zH Tryd.prog 25 = ⟨Kd.slice 83, false, 1, 24, some [PV.kD], false⟩ := by kernel_rfl
theorem awR : zH Tryd.prog 26 = ⟨Kd.slice 28, false, 1, 24, some [PV.kD], false⟩ := by kernel_rfl
theorem avM : zH Tryd.prog 28 = ⟨Kd.struct [(9, 0), (9, 1), (24, 2), (25, 3), (26, 4)], true, 5, 104, some [PV.str [], PV.str [], PV.kD, PV.kD, PV.kD], true⟩ := by kernel_rfl
theorem awS : zH Tryd.prog 30 = ⟨Kd.slice 39, false, 1, 24, some [PV.kD], false⟩ := by kernel_rfl
theorem awX : zH Tryd.prog 31 = ⟨Kd.int IntKind.i64, false, 1, 8, some [PV.int IntKind.i64 (0)], false⟩ := by kernel_rfl
theorem awT : zH Tryd.prog 39 = ⟨Kd.struct [(5, 0), (3, 1), (3, 2), (26, 3), (9, 4), (9, 5)], true, 6, 80, some [PV.int IntKind.u8 (0), PV.int IntKind.i64 (0), PV.int IntKind.i64 (0), PV.kD, PV.str [], PV.str []], true⟩ := by kernel_rfl
theorem axa : zH Tryd.prog 57 = ⟨Kd.slice 3, false, 1, 24, some [PV.kD], false⟩ := by kernel_rfl
theorem awO : zH Tryd.prog 62 = ⟨Kd.slice 92, false, 1, 24, some [PV.kD], false⟩ := by kernel_rfl
theorem aw4 : zH Tryd.prog 65 = ⟨Kd.slice 21, false, 1, 24, some [PV.kD], false⟩ := by kernel_rfl
theorem aw5 : zH Tryd.prog 73 = ⟨Kd.struct [(3, 0), (3, 1), (3, 2), (3, 3)], true, 4, 32, some [PV.int IntKind.i64 (0), PV.int IntKind.i64 (0), PV.int IntKind.i64 (0), PV.int IntKind.i64 (0)], true⟩ := by kernel_rfl
theorem axb : zH Tryd.prog 78 = ⟨Kd.struct [(28, 0), (28, 5), (57, 10), (3, 11), (3, 12), (3, 13), (3, 14), (30, 15)], true, 16, 288, some [PV.str [], PV.str [], PV.kD, PV.kD, PV.kD, PV.str [], PV.str [], PV.kD, PV.kD, PV.kD, PV.kD, PV.int IntKind.i64 (0), PV.int IntKind.i64 (0), PV.int IntKind.i64 (0), PV.int IntKind.i64 (0), PV.kD], false⟩ := by kernel_rfl
theorem aw2 : zH Tryd.prog 83 = ⟨Kd.struct [(9, 0), (9, 1)], true, 2, 32, some [PV.str [], PV.str []], true⟩ := by kernel_rfl
theorem awQ : zH Tryd.prog 92 = ⟨Kd.struct [(3, 0), (3, 1), (3, 2)], true, 3, 24, some [PV.int IntKind.i64 (0), PV.int IntKind.i64 (0), PV.int IntKind.i64 (0)], true⟩ := by kernel_rfl
theorem avO : zH Tryd.prog 123 = ⟨Kd.struct [(57, 0), (28, 1), (3, 6), (3, 7)], true, 8, 144, some [PV.kD, PV.str [], PV.str [], PV.kD, PV.kD, PV.kD, PV.int IntKind.i64 (0), PV.int IntKind.i64 (0)], false⟩ := by kernel_rfl
theorem awe : zH Tryd.prog 136 = ⟨Kd.struct [(39, 0), (62, 6)], true, 7, 104, some [PV.int IntKind.u8 (0), PV.int IntKind.i64 (0), PV.int IntKind.i64 (0), PV.kD, PV.str [], PV.str [], PV.kD], false⟩ := by kernel_rfl
theorem awn : zH Tryd.prog 149 = ⟨Kd.struct [(57, 0), (3, 1), (3, 2)], true, 3, 40, some [PV.kD, PV.int IntKind.i64 (0), PV.int IntKind.i64 (0)], true⟩ := by kernel_rfl
theorem avH : zH Tryd.prog 158 = ⟨Kd.slice 26, false, 1, 24, some [PV.kD], false⟩ := by kernel_rfl
theorem mixed : Tryd.prog.follows .mixedOrders = true := by kernel_rfl
end Go.Proofs.YtclohbgnaopjfaaDoor
