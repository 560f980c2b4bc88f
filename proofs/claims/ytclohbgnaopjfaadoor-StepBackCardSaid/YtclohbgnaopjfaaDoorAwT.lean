/- Texts of the proof of stepBackCard -/
import Derived.Test.YtclohbgnaopjfaaDoorProg
import Derived.Test.YtclohbgnaopjfaaDoorAw24
import Derived.KernelRfl
namespace Go.Proofs.YtclohbgnaopjfaaDoor
set_option linter.unusedSimpArgs false
set_option linter.unusedVariables false
open Go
theorem ty0 : zG Tryd.prog 0 = ⟨Kd.other, false, 1, 0, some [PV.undef], false⟩ := by kernel_rfl
theorem ty1 : zG Tryd.prog 1 = ⟨Kd.other, false, 1, 8, some [PV.Yc], false⟩ := by kernel_rfl
theorem ty3 : zG Tryd.prog 3 = ⟨Kd.int IntKind.i64, false, 1, 8, some [PV.int IntKind.i64 (0)], false⟩ := by kernel_rfl
theorem ty4 : zG Tryd.prog 4 = ⟨Kd.bool, false, 1, 1, some [PV.bool false], false⟩ := by kernel_rfl
theorem ty5 : zG Tryd.prog 5 = ⟨Kd.int IntKind.u8, false, 1, 1, some [PV.int IntKind.u8 (0)], false⟩ := by kernel_rfl
theorem ty9 : zG Tryd.prog 9 = ⟨Kd.str, false, 1, 16, some [PV.str []], false⟩ := by kernel_rfl
theorem axE : zG Tryd.prog 21 = ⟨Kd.int IntKind.i32, false, 1, 4, some [PV.int IntKind.i32 (0)], false⟩ := by kernel_rfl
theorem axC : zG Tryd.prog 24 = ⟨Kd.slice 9, false, 1, 24, some [PV.kX], false⟩ := by kernel_rfl
theorem axj : zG Tryd.prog 25 = ⟨Kd.slice 83, false, 1, 24, some [PV.kX], false⟩ := by kernel_rfl
theorem axl : zG Tryd.prog 26 = ⟨Kd.slice 28, false, 1, 24, some [PV.kX], false⟩ := by kernel_rfl
theorem aw2 : zG Tryd.prog 28 = ⟨Kd.struct [(9, 0), (9, 1), (24, 2), (25, 3), (26, 4)], true, 5, 104, some [PV.str [], PV.str [], PV.kX, PV.kX, PV.kX], true⟩ := by kernel_rfl
theorem axF : zG Tryd.prog 30 = ⟨Kd.slice 39, false, 1, 24, some [PV.kX], false⟩ := by kernel_rfl
theorem axt : zG Tryd.prog 31 = ⟨Kd.int IntKind.i64, false, 1, 8, some [PV.int IntKind.i64 (0)], false⟩ := by kernel_rfl
theorem axn : zG Tryd.prog 39 = ⟨Kd.struct [(5, 0), (3, 1), (3, 2), (26, 3), (9, 4), (9, 5)], true, 6, 80, some [PV.int IntKind.u8 (0), PV.int IntKind.i64 (0), PV.int IntKind.i64 (0), PV.kX, PV.str [], PV.str []], true⟩ := by kernel_rfl
theorem axs : zG Tryd.prog 50 = ⟨Kd.slice 108, false, 1, 24, some [PV.kX], false⟩ := by kernel_rfl
theorem axw : zG Tryd.prog 57 = ⟨Kd.slice 3, false, 1, 24, some [PV.kX], false⟩ := by kernel_rfl
theorem axo : zG Tryd.prog 62 = ⟨Kd.slice 92, false, 1, 24, some [PV.kX], false⟩ := by kernel_rfl
theorem axv : zG Tryd.prog 63 = ⟨Kd.slice 92, false, 1, 24, some [PV.kX], false⟩ := by kernel_rfl
theorem axr : zG Tryd.prog 65 = ⟨Kd.slice 21, false, 1, 24, some [PV.kX], false⟩ := by kernel_rfl
theorem axA : zG Tryd.prog 83 = ⟨Kd.struct [(9, 0), (9, 1)], true, 2, 32, some [PV.str [], PV.str []], true⟩ := by kernel_rfl
theorem axm : zG Tryd.prog 92 = ⟨Kd.struct [(3, 0), (3, 1), (3, 2)], true, 3, 24, some [PV.int IntKind.i64 (0), PV.int IntKind.i64 (0), PV.int IntKind.i64 (0)], true⟩ := by kernel_rfl
theorem axi : zG Tryd.prog 98 = ⟨Kd.other, false, 1, 8, some [PV.XI], false⟩ := by kernel_rfl
theorem axz : zG Tryd.prog 99 = ⟨Kd.slice 5, false, 1, 24, some [PV.kX], false⟩ := by kernel_rfl
theorem av8 : zG Tryd.prog 101 = ⟨Kd.struct [(98, 0), (99, 1)], true, 2, 32, some [PV.XI, PV.kX], true⟩ := by kernel_rfl
theorem awk : zG Tryd.prog 108 = ⟨Kd.struct [(3, 0), (3, 1), (3, 2), (3, 3)], true, 4, 32, some [PV.int IntKind.i64 (0), PV.int IntKind.i64 (0), PV.int IntKind.i64 (0), PV.int IntKind.i64 (0)], true⟩ := by kernel_rfl
theorem awt : zG Tryd.prog 110 = ⟨Kd.other, false, 1, 8, some [PV.Yc], false⟩ := by kernel_rfl
theorem awC : zG Tryd.prog 123 = ⟨Kd.struct [(57, 0), (28, 1), (3, 6), (3, 7)], true, 8, 144, some [PV.kX, PV.str [], PV.str [], PV.kX, PV.kX, PV.kX, PV.int IntKind.i64 (0), PV.int IntKind.i64 (0)], false⟩ := by kernel_rfl
theorem awj : zG Tryd.prog 136 = ⟨Kd.struct [(39, 0), (62, 6)], true, 7, 104, some [PV.int IntKind.u8 (0), PV.int IntKind.i64 (0), PV.int IntKind.i64 (0), PV.kX, PV.str [], PV.str [], PV.kX], false⟩ := by kernel_rfl
theorem aw8 : zG Tryd.prog 149 = ⟨Kd.struct [(57, 0), (3, 1), (3, 2)], true, 3, 40, some [PV.kX, PV.int IntKind.i64 (0), PV.int IntKind.i64 (0)], true⟩ := by kernel_rfl
theorem awE : zG Tryd.prog 158 = ⟨Kd.slice 26, false, 1, 24, some [PV.kX], false⟩ := by kernel_rfl
theorem mixed : Tryd.prog.follows .mixedOrders = true := by kernel_rfl
end Go.Proofs.YtclohbgnaopjfaaDoor
