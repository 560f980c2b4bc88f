/- Texts of the proof of stepAttrsCard -/
import Derived.Test.YtclohbgnaopjfaaDoorProg
import Derived.Test.YtclohbgnaopjfaaDoorAw24
import Derived.KernelRfl
namespace Go.Proofs.YtclohbgnaopjfaaDoor
set_option linter.unusedSimpArgs false
set_option linter.unusedVariables false
open Go
theorem ty0 : zF Tryd.prog 0 = ⟨Kd.other, false, 1, 0, some [PV.undef], false⟩ := by kernel_rfl
theorem ty1 : zF Tryd.prog 1 = ⟨Kd.other, false, 1, 8, some [PV.Xl], false⟩ := by kernel_rfl
theorem ty3 : zF Tryd.prog 3 = ⟨Kd.int IntKind.i64, false, 1, 8, some [PV.int IntKind.i64 (0)], false⟩ := by kernel_rfl
theorem ty4 : zF Tryd.prog 4 = ⟨Kd.bool, false, 1, 1, some [PV.bool false], false⟩ := by kernel_rfl
theorem ty5 : zF Tryd.prog 5 = ⟨Kd.int IntKind.u8, false, 1, 1, some [PV.int IntKind.u8 (0)], false⟩ := by kernel_rfl
theorem ty9 : zF Tryd.prog 9 = ⟨Kd.str, false, 1, 16, some [PV.str []], false⟩ := by kernel_rfl
theorem avs : zF Tryd.prog 21 = ⟨Kd.int IntKind.i32, false, 1, 4, some [PV.int IntKind.i32 (0)], false⟩ := by kernel_rfl
theorem avh : zF Tryd.prog 24 = ⟨Kd.slice 9, false, 1, 24, some [PV.kM], false⟩ := by kernel_rfl
theorem avm : zF Tryd.prog 25 = ⟨Kd.slice 83, false, 1, 24, some [PV.kM], false⟩ := by kernel_rfl
theorem avC : zF Tryd.prog 26 = ⟨Kd.slice 28, false, 1, 24, some [PV.kM], false⟩ := by kernel_rfl
theorem auT : zF Tryd.prog 28 = ⟨Kd.struct [(9, 0), (9, 1), (24, 2), (25, 3), (26, 4)], true, 5, 104, some [PV.str [], PV.str [], PV.kM, PV.kM, PV.kM], true⟩ := by kernel_rfl
theorem avl : zF Tryd.prog 30 = ⟨Kd.slice 39, false, 1, 24, some [PV.kM], false⟩ := by kernel_rfl
theorem avj : zF Tryd.prog 31 = ⟨Kd.int IntKind.i64, false, 1, 8, some [PV.int IntKind.i64 (0)], false⟩ := by kernel_rfl
theorem avz : zF Tryd.prog 39 = ⟨Kd.struct [(5, 0), (3, 1), (3, 2), (26, 3), (9, 4), (9, 5)], true, 6, 80, some [PV.int IntKind.u8 (0), PV.int IntKind.i64 (0), PV.int IntKind.i64 (0), PV.kM, PV.str [], PV.str []], true⟩ := by kernel_rfl
theorem avq : zF Tryd.prog 50 = ⟨Kd.slice 108, false, 1, 24, some [PV.kM], false⟩ := by kernel_rfl
theorem avo : zF Tryd.prog 57 = ⟨Kd.slice 3, false, 1, 24, some [PV.kM], false⟩ := by kernel_rfl
theorem avp : zF Tryd.prog 62 = ⟨Kd.slice 92, false, 1, 24, some [PV.kM], false⟩ := by kernel_rfl
theorem avx : zF Tryd.prog 65 = ⟨Kd.slice 21, false, 1, 24, some [PV.kM], false⟩ := by kernel_rfl
theorem avr : zF Tryd.prog 83 = ⟨Kd.struct [(9, 0), (9, 1)], true, 2, 32, some [PV.str [], PV.str []], true⟩ := by kernel_rfl
theorem avt : zF Tryd.prog 92 = ⟨Kd.struct [(3, 0), (3, 1), (3, 2)], true, 3, 24, some [PV.int IntKind.i64 (0), PV.int IntKind.i64 (0), PV.int IntKind.i64 (0)], true⟩ := by kernel_rfl
theorem avi : zF Tryd.prog 98 = ⟨Kd.other, false, 1, 8, some [PV.JI], false⟩ := by kernel_rfl
theorem avn : zF Tryd.prog 99 = ⟨Kd.slice 5, false, 1, 24, some [PV.kM], false⟩ := by kernel_rfl
theorem auv : zF Tryd.prog 101 = ⟨Kd.struct [(98, 0), (99, 1)], true, 2, 32, some [PV.JI, PV.kM], true⟩ := by kernel_rfl
theorem auQ : zF Tryd.prog 108 = ⟨Kd.struct [(3, 0), (3, 1), (3, 2), (3, 3)], true, 4, 32, some [PV.int IntKind.i64 (0), PV.int IntKind.i64 (0), PV.int IntKind.i64 (0), PV.int IntKind.i64 (0)], true⟩ := by kernel_rfl
theorem ava : zF Tryd.prog 110 = ⟨Kd.other, false, 1, 8, some [PV.Xl], false⟩ := by kernel_rfl
theorem auJ : zF Tryd.prog 123 = ⟨Kd.struct [(57, 0), (28, 1), (3, 6), (3, 7)], true, 8, 144, some [PV.kM, PV.str [], PV.str [], PV.kM, PV.kM, PV.kM, PV.int IntKind.i64 (0), PV.int IntKind.i64 (0)], false⟩ := by kernel_rfl
theorem auO : zF Tryd.prog 136 = ⟨Kd.struct [(39, 0), (62, 6)], true, 7, 104, some [PV.int IntKind.u8 (0), PV.int IntKind.i64 (0), PV.int IntKind.i64 (0), PV.kM, PV.str [], PV.str [], PV.kM], false⟩ := by kernel_rfl
theorem avg : zF Tryd.prog 149 = ⟨Kd.struct [(57, 0), (3, 1), (3, 2)], true, 3, 40, some [PV.kM, PV.int IntKind.i64 (0), PV.int IntKind.i64 (0)], true⟩ := by kernel_rfl
theorem auf : zF Tryd.prog 158 = ⟨Kd.slice 26, false, 1, 24, some [PV.kM], false⟩ := by kernel_rfl
theorem mixed : Tryd.prog.follows .mixedOrders = true := by kernel_rfl
end Go.Proofs.YtclohbgnaopjfaaDoor
