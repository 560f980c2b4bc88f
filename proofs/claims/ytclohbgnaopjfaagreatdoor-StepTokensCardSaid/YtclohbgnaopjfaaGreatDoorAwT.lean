/- Texts of the proof of stepTokensCard -/
import Derived.Test.YtclohbgnaopjfaaGreatDoorProg
import Derived.Test.YtclohbgnaopjfaaGreatDoorAw24
import Derived.KernelRfl
namespace Go.Proofs.YtclohbgnaopjfaaGreatDoor
set_option linter.unusedSimpArgs false
set_option linter.unusedVariables false
open Go
theorem ty0 : zI Tryz.prog 0 = ⟨Kd.other, false, 1, 0, some [PV.undef], false⟩ := by kernel_rfl
theorem ty1 : zI Tryz.prog 1 = ⟨Kd.other, false, 1, 8, some [PV.Yx], false⟩ := by kernel_rfl
theorem ty3 : zI Tryz.prog 3 = ⟨Kd.int IntKind.i64, false, 1, 8, some [PV.int IntKind.i64 (0)], false⟩ := by kernel_rfl
theorem ty4 : zI Tryz.prog 4 = ⟨Kd.bool, false, 1, 1, some [PV.bool false], false⟩ := by kernel_rfl
theorem ty5 : zI Tryz.prog 5 = ⟨Kd.int IntKind.u8, false, 1, 1, some [PV.int IntKind.u8 (0)], false⟩ := by kernel_rfl
theorem ty9 : zI Tryz.prog 9 = ⟨Kd.str, false, 1, 16, some [PV.str []], false⟩ := by kernel_rfl
theorem axa : zI Tryz.prog 21 = ⟨Kd.int IntKind.i32, false, 1, 4, some [PV.int IntKind.i32 (0)], false⟩ := by kernel_rfl
theorem awV : zI Tryz.prog 22 = ⟨Kd.slice 71, false, 1, 24, some [PV.kU], false⟩ := by kernel_rfl
theorem awW : zI Tryz.prog 24 = ⟨Kd.slice 9, false, 1, 24, some [PV.kU], false⟩ := by kernel_rfl
theorem axe : zI Tryz.prog 25 = ⟨Kd.slice 87, false, 1, 24, some [PV.kU], false⟩ := by kernel_rfl
theorem awZ : zI Tryz.prog 26 = ⟨Kd.slice 28, false, 1, 24, some [PV.kU], false⟩ := by kernel_rfl
theorem avI : zI Tryz.prog 28 = ⟨Kd.struct [(9, 0), (9, 1), (24, 2), (25, 3), (26, 4)], true, 5, 104, some [PV.str [], PV.str [], PV.kU, PV.kU, PV.kU], true⟩ := by kernel_rfl
theorem aw2 : zI Tryz.prog 31 = ⟨Kd.struct [(5, 0), (3, 1), (3, 2), (26, 3), (9, 4), (9, 5)], true, 6, 80, some [PV.int IntKind.u8 (0), PV.int IntKind.i64 (0), PV.int IntKind.i64 (0), PV.kU, PV.str [], PV.str []], true⟩ := by kernel_rfl
theorem awT : zI Tryz.prog 33 = ⟨Kd.int IntKind.i64, false, 1, 8, some [PV.int IntKind.i64 (0)], false⟩ := by kernel_rfl
theorem aw9 : zI Tryz.prog 36 = ⟨Kd.slice 43, false, 1, 24, some [PV.kU], false⟩ := by kernel_rfl
theorem aw1 : zI Tryz.prog 38 = ⟨Kd.slice 83, false, 1, 24, some [PV.kU], false⟩ := by kernel_rfl
theorem aw0 : zI Tryz.prog 39 = ⟨Kd.slice 83, false, 1, 24, some [PV.kU], false⟩ := by kernel_rfl
theorem awY : zI Tryz.prog 43 = ⟨Kd.struct [(5, 0), (9, 1), (9, 2)], true, 3, 40, some [PV.int IntKind.u8 (0), PV.str [], PV.str []], true⟩ := by kernel_rfl
theorem aw6 : zI Tryz.prog 44 = ⟨Kd.struct [(5, 0), (9, 1), (9, 2)], true, 3, 40, some [PV.int IntKind.u8 (0), PV.str [], PV.str []], true⟩ := by kernel_rfl
theorem aw4 : zI Tryz.prog 71 = ⟨Kd.struct [(3, 0), (3, 1), (3, 2), (3, 3)], true, 4, 32, some [PV.int IntKind.i64 (0), PV.int IntKind.i64 (0), PV.int IntKind.i64 (0), PV.int IntKind.i64 (0)], true⟩ := by kernel_rfl
theorem axf : zI Tryz.prog 83 = ⟨Kd.struct [(3, 0), (3, 1), (3, 2)], true, 3, 24, some [PV.int IntKind.i64 (0), PV.int IntKind.i64 (0), PV.int IntKind.i64 (0)], true⟩ := by kernel_rfl
theorem aw7 : zI Tryz.prog 87 = ⟨Kd.struct [(9, 0), (9, 1)], true, 2, 32, some [PV.str [], PV.str []], true⟩ := by kernel_rfl
theorem awk : zI Tryz.prog 113 = ⟨Kd.slice 3, false, 1, 24, some [PV.kU], false⟩ := by kernel_rfl
theorem awf : zI Tryz.prog 115 = ⟨Kd.struct [(113, 0), (28, 1), (3, 6), (3, 7)], true, 8, 144, some [PV.kU, PV.str [], PV.str [], PV.kU, PV.kU, PV.kU, PV.int IntKind.i64 (0), PV.int IntKind.i64 (0)], false⟩ := by kernel_rfl
theorem av6 : zI Tryz.prog 130 = ⟨Kd.struct [(31, 0), (38, 6)], true, 7, 104, some [PV.int IntKind.u8 (0), PV.int IntKind.i64 (0), PV.int IntKind.i64 (0), PV.kU, PV.str [], PV.str [], PV.kU], false⟩ := by kernel_rfl
theorem avD : zI Tryz.prog 136 = ⟨Kd.slice 21, false, 1, 24, some [PV.kU], false⟩ := by kernel_rfl
theorem awx : zI Tryz.prog 153 = ⟨Kd.struct [(113, 0), (3, 1), (3, 2)], true, 3, 40, some [PV.kU, PV.int IntKind.i64 (0), PV.int IntKind.i64 (0)], true⟩ := by kernel_rfl
theorem awh : zI Tryz.prog 159 = ⟨Kd.slice 26, false, 1, 24, some [PV.kU], false⟩ := by kernel_rfl
theorem mixed : Tryz.prog.follows .mixedOrders = true := by kernel_rfl
end Go.Proofs.YtclohbgnaopjfaaGreatDoor
