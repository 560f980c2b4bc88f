/- Texts of the proof of diffChainCard -/
import Derived.Test.YtclohbgnaopjfaaDoorProg
import Derived.Test.YtclohbgnaopjfaaDoorAw24
import Derived.KernelRfl
namespace Go.Proofs.YtclohbgnaopjfaaDoor
set_option linter.unusedSimpArgs false
set_option linter.unusedVariables false
open Go
theorem ty0 : zH Tryd.prog 0 = ⟨Kd.other, false, 1, 0, some [PV.undef], false⟩ := by kernel_rfl
theorem ty1 : zH Tryd.prog 1 = ⟨Kd.other, false, 1, 8, some [PV.aaQ], false⟩ := by kernel_rfl
theorem ty3 : zH Tryd.prog 3 = ⟨Kd.int IntKind.i64, false, 1, 8, some [PV.int IntKind.i64 (0)], false⟩ := by kernel_rfl
theorem ty4 : zH Tryd.prog 4 = ⟨Kd.bool, false, 1, 1, some [PV.bool false], false⟩ := by kernel_rfl
theorem ty5 : zH Tryd.prog 5 = ⟨Kd.int IntKind.u8, false, 1, 1, some [PV.int IntKind.u8 (0)], false⟩ := by kernel_rfl
theorem ty9 : zH Tryd.prog 9 = ⟨Kd.str, false, 1, 16, some [PV.str []], false⟩ := by kernel_rfl
theorem azh : zH Tryd.prog 21 = ⟨Kd.int IntKind.i32, false, 1, 4, some [PV.int IntKind.i32 (0)], false⟩ := by kernel_rfl
theorem azm : zH Tryd.prog 22 = ⟨Kd.slice 73, false, 1, 24, some [PV.kS], false⟩ := by kernel_rfl
theorem azA : zH Tryd.prog 24 = ⟨Kd.slice 9, false, 1, 24, some [PV.kS], false⟩ := by kernel_rfl
theorem azl : zH Tryd.prog 25 = ⟨Kd.slice 83, false, 1, 24, some [PV.kS], false⟩ := by kernel_rfl
theorem azq : zH Tryd.prog 26 = ⟨Kd.slice 28, false, 1, 24, some [PV.kS], false⟩ := by kernel_rfl
theorem ayK : zH Tryd.prog 28 = ⟨Kd.struct [(9, 0), (9, 1), (24, 2), (25, 3), (26, 4)], true, 5, 104, some [PV.str [], PV.str [], PV.kS, PV.kS, PV.kS], true⟩ := by kernel_rfl
theorem azi : zH Tryd.prog 30 = ⟨Kd.slice 39, false, 1, 24, some [PV.kS], false⟩ := by kernel_rfl
theorem azt : zH Tryd.prog 31 = ⟨Kd.int IntKind.i64, false, 1, 8, some [PV.int IntKind.i64 (0)], false⟩ := by kernel_rfl
theorem azB : zH Tryd.prog 39 = ⟨Kd.struct [(5, 0), (3, 1), (3, 2), (26, 3), (9, 4), (9, 5)], true, 6, 80, some [PV.int IntKind.u8 (0), PV.int IntKind.i64 (0), PV.int IntKind.i64 (0), PV.kS, PV.str [], PV.str []], true⟩ := by kernel_rfl
theorem azs : zH Tryd.prog 57 = ⟨Kd.slice 3, false, 1, 24, some [PV.kS], false⟩ := by kernel_rfl
theorem azx : zH Tryd.prog 62 = ⟨Kd.slice 92, false, 1, 24, some [PV.kS], false⟩ := by kernel_rfl
theorem azk : zH Tryd.prog 65 = ⟨Kd.slice 21, false, 1, 24, some [PV.kS], false⟩ := by kernel_rfl
theorem azf : zH Tryd.prog 73 = ⟨Kd.struct [(3, 0), (3, 1), (3, 2), (3, 3)], true, 4, 32, some [PV.int IntKind.i64 (0), PV.int IntKind.i64 (0), PV.int IntKind.i64 (0), PV.int IntKind.i64 (0)], true⟩ := by kernel_rfl
theorem azn : zH Tryd.prog 78 = ⟨Kd.struct [(28, 0), (28, 5), (57, 10), (3, 11), (3, 12), (3, 13), (3, 14), (30, 15)], true, 16, 288, some [PV.str [], PV.str [], PV.kS, PV.kS, PV.kS, PV.str [], PV.str [], PV.kS, PV.kS, PV.kS, PV.kS, PV.int IntKind.i64 (0), PV.int IntKind.i64 (0), PV.int IntKind.i64 (0), PV.int IntKind.i64 (0), PV.kS], false⟩ := by kernel_rfl
theorem azz : zH Tryd.prog 83 = ⟨Kd.struct [(9, 0), (9, 1)], true, 2, 32, some [PV.str [], PV.str []], true⟩ := by kernel_rfl
theorem azv : zH Tryd.prog 92 = ⟨Kd.struct [(3, 0), (3, 1), (3, 2)], true, 3, 24, some [PV.int IntKind.i64 (0), PV.int IntKind.i64 (0), PV.int IntKind.i64 (0)], true⟩ := by kernel_rfl
theorem axX : zH Tryd.prog 123 = ⟨Kd.struct [(57, 0), (28, 1), (3, 6), (3, 7)], true, 8, 144, some [PV.kS, PV.str [], PV.str [], PV.kS, PV.kS, PV.kS, PV.int IntKind.i64 (0), PV.int IntKind.i64 (0)], false⟩ := by kernel_rfl
theorem azb : zH Tryd.prog 136 = ⟨Kd.struct [(39, 0), (62, 6)], true, 7, 104, some [PV.int IntKind.u8 (0), PV.int IntKind.i64 (0), PV.int IntKind.i64 (0), PV.kS, PV.str [], PV.str [], PV.kS], false⟩ := by kernel_rfl
theorem ax1 : zH Tryd.prog 149 = ⟨Kd.struct [(57, 0), (3, 1), (3, 2)], true, 3, 40, some [PV.kS, PV.int IntKind.i64 (0), PV.int IntKind.i64 (0)], true⟩ := by kernel_rfl
theorem ayf : zH Tryd.prog 158 = ⟨Kd.slice 26, false, 1, 24, some [PV.kS], false⟩ := by kernel_rfl
theorem mixed : Tryd.prog.follows .mixedOrders = true := by kernel_rfl
end Go.Proofs.YtclohbgnaopjfaaDoor
