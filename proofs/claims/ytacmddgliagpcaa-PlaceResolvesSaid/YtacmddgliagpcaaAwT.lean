/- The types of the program, in short. -/
import Derived.Test.YtacmddgliagpcaaProg
import Derived.Test.YtacmddgliagpcaaAw22
import Derived.KernelRfl
namespace Go.Proofs.Ytacmddgliagpcaa
set_option linter.unusedSimpArgs false
set_option linter.unusedVariables false
open Go
theorem ty0 : tyOf Try.prog 0 = ⟨Kd.other, false, 1, 0, some [PV.undef], false⟩ := by kernel_rfl
theorem ty1 : tyOf Try.prog 1 = ⟨Kd.other, false, 1, 8, some [PV.nilF], false⟩ := by kernel_rfl
theorem ty2 : tyOf Try.prog 2 = ⟨Kd.int IntKind.i64, false, 1, 8, some [PV.int IntKind.i64 (0)], false⟩ := by kernel_rfl
theorem ty3 : tyOf Try.prog 3 = ⟨Kd.int IntKind.i64, false, 1, 8, some [PV.int IntKind.i64 (0)], false⟩ := by kernel_rfl
theorem ty4 : tyOf Try.prog 4 = ⟨Kd.bool, false, 1, 1, some [PV.bool false], false⟩ := by kernel_rfl
theorem ty5 : tyOf Try.prog 5 = ⟨Kd.int IntKind.u8, false, 1, 1, some [PV.int IntKind.u8 (0)], false⟩ := by kernel_rfl
theorem ty6 : tyOf Try.prog 6 = ⟨Kd.int IntKind.u8, false, 1, 1, some [PV.int IntKind.u8 (0)], false⟩ := by kernel_rfl
theorem ty7 : tyOf Try.prog 7 = ⟨Kd.struct [(2, 0), (3, 1), (4, 2), (6, 3)], true, 4, 24, some [PV.int IntKind.i64 (0), PV.int IntKind.i64 (0), PV.bool false, PV.int IntKind.u8 (0)], true⟩ := by kernel_rfl
theorem ty8 : tyOf Try.prog 8 = ⟨Kd.struct [(2, 0), (3, 1), (4, 2), (6, 3)], true, 4, 24, some [PV.int IntKind.i64 (0), PV.int IntKind.i64 (0), PV.bool false, PV.int IntKind.u8 (0)], true⟩ := by kernel_rfl
theorem ty9 : tyOf Try.prog 9 = ⟨Kd.str, false, 1, 16, some [PV.str []], false⟩ := by kernel_rfl
theorem ty10 : tyOf Try.prog 10 = ⟨Kd.str, false, 1, 16, some [PV.str []], false⟩ := by kernel_rfl
theorem ty11 : tyOf Try.prog 11 = ⟨Kd.str, false, 1, 16, some [PV.str []], false⟩ := by kernel_rfl
theorem ty12 : tyOf Try.prog 12 = ⟨Kd.int IntKind.u64, false, 1, 8, some [PV.int IntKind.u64 (0)], false⟩ := by kernel_rfl
theorem ty13 : tyOf Try.prog 13 = ⟨Kd.struct [(9, 0), (12, 1)], true, 2, 24, some [PV.str [], PV.int IntKind.u64 (0)], false⟩ := by kernel_rfl
theorem ty14 : tyOf Try.prog 14 = ⟨Kd.struct [(9, 0), (12, 1)], true, 2, 24, some [PV.str [], PV.int IntKind.u64 (0)], false⟩ := by kernel_rfl
theorem ty15 : tyOf Try.prog 15 = ⟨Kd.other, false, 1, 8, some [PV.nilP], false⟩ := by kernel_rfl
theorem ty16 : tyOf Try.prog 16 = ⟨Kd.other, false, 1, 8, some [PV.nilP], false⟩ := by kernel_rfl
theorem ty17 : tyOf Try.prog 17 = ⟨Kd.other, false, 1, 8, some [PV.nilP], false⟩ := by kernel_rfl
theorem ty18 : tyOf Try.prog 18 = ⟨Kd.struct [(17, 0)], true, 1, 8, some [PV.nilP], false⟩ := by kernel_rfl
theorem ty19 : tyOf Try.prog 19 = ⟨Kd.struct [(17, 0)], true, 1, 8, some [PV.nilP], false⟩ := by kernel_rfl
theorem ty20 : tyOf Try.prog 20 = ⟨Kd.iface, false, 1, 16, some [PV.nilI], false⟩ := by kernel_rfl
theorem ty21 : tyOf Try.prog 21 = ⟨Kd.int IntKind.i32, false, 1, 4, some [PV.int IntKind.i32 (0)], false⟩ := by kernel_rfl
theorem ty22 : tyOf Try.prog 22 = ⟨Kd.slice 55, false, 1, 24, some [PV.nilS], false⟩ := by kernel_rfl
theorem ty23 : tyOf Try.prog 23 = ⟨Kd.slice 3, false, 1, 24, some [PV.nilS], false⟩ := by kernel_rfl
theorem ty24 : tyOf Try.prog 24 = ⟨Kd.struct [(23, 0), (3, 1), (3, 2)], true, 3, 40, some [PV.nilS, PV.int IntKind.i64 (0), PV.int IntKind.i64 (0)], true⟩ := by kernel_rfl
theorem ty25 : tyOf Try.prog 25 = ⟨Kd.struct [(23, 0), (3, 1), (3, 2)], true, 3, 40, some [PV.nilS, PV.int IntKind.i64 (0), PV.int IntKind.i64 (0)], true⟩ := by kernel_rfl
theorem ty26 : tyOf Try.prog 26 = ⟨Kd.other, false, 1, 8, some [PV.nilF], false⟩ := by kernel_rfl
theorem ty27 : tyOf Try.prog 27 = ⟨Kd.slice 9, false, 1, 24, some [PV.nilS], false⟩ := by kernel_rfl
theorem ty28 : tyOf Try.prog 28 = ⟨Kd.slice 58, false, 1, 24, some [PV.nilS], false⟩ := by kernel_rfl
theorem ty29 : tyOf Try.prog 29 = ⟨Kd.slice 31, false, 1, 24, some [PV.nilS], false⟩ := by kernel_rfl
theorem ty30 : tyOf Try.prog 30 = ⟨Kd.struct [(9, 0), (9, 1), (27, 2), (28, 3), (29, 4)], true, 5, 104, some [PV.str [], PV.str [], PV.nilS, PV.nilS, PV.nilS], true⟩ := by kernel_rfl
theorem ty31 : tyOf Try.prog 31 = ⟨Kd.struct [(9, 0), (9, 1), (27, 2), (28, 3), (29, 4)], true, 5, 104, some [PV.str [], PV.str [], PV.nilS, PV.nilS, PV.nilS], true⟩ := by kernel_rfl
theorem ty32 : tyOf Try.prog 32 = ⟨Kd.other, false, 1, 8, some [PV.nilF], false⟩ := by kernel_rfl
theorem ty33 : tyOf Try.prog 33 = ⟨Kd.int IntKind.i64, false, 1, 8, some [PV.int IntKind.i64 (0)], false⟩ := by kernel_rfl
theorem ty34 : tyOf Try.prog 34 = ⟨Kd.other, false, 1, 0, some [PV.undef], false⟩ := by kernel_rfl
theorem ty35 : tyOf Try.prog 35 = ⟨Kd.other, false, 1, 8, some [PV.nilF], false⟩ := by kernel_rfl
theorem ty36 : tyOf Try.prog 36 = ⟨Kd.struct [(23, 0), (3, 1), (3, 2)], true, 3, 40, some [PV.nilS, PV.int IntKind.i64 (0), PV.int IntKind.i64 (0)], true⟩ := by kernel_rfl
theorem ty37 : tyOf Try.prog 37 = ⟨Kd.other, false, 1, 0, some [PV.undef], false⟩ := by kernel_rfl
theorem ty38 : tyOf Try.prog 38 = ⟨Kd.other, false, 1, 8, some [PV.nilF], false⟩ := by kernel_rfl
theorem ty39 : tyOf Try.prog 39 = ⟨Kd.other, false, 1, 0, some [PV.undef], false⟩ := by kernel_rfl
theorem ty40 : tyOf Try.prog 40 = ⟨Kd.other, false, 1, 8, some [PV.nilF], false⟩ := by kernel_rfl
theorem ty41 : tyOf Try.prog 41 = ⟨Kd.other, false, 1, 8, some [PV.nilF], false⟩ := by kernel_rfl
theorem ty42 : tyOf Try.prog 42 = ⟨Kd.other, false, 1, 8, some [PV.nilF], false⟩ := by kernel_rfl
theorem ty43 : tyOf Try.prog 43 = ⟨Kd.other, false, 1, 8, some [PV.nilF], false⟩ := by kernel_rfl
theorem ty44 : tyOf Try.prog 44 = ⟨Kd.other, false, 1, 8, some [PV.nilF], false⟩ := by kernel_rfl
theorem ty45 : tyOf Try.prog 45 = ⟨Kd.other, false, 1, 8, some [PV.nilF], false⟩ := by kernel_rfl
theorem ty46 : tyOf Try.prog 46 = ⟨Kd.other, false, 1, 8, some [PV.nilF], false⟩ := by kernel_rfl
theorem ty47 : tyOf Try.prog 47 = ⟨Kd.other, false, 1, 8, some [PV.nilF], false⟩ := by kernel_rfl
theorem ty48 : tyOf Try.prog 48 = ⟨Kd.slice 36, false, 1, 24, some [PV.nilS], false⟩ := by kernel_rfl
theorem ty49 : tyOf Try.prog 49 = ⟨Kd.other, false, 1, 8, some [PV.nilF], false⟩ := by kernel_rfl
theorem ty50 : tyOf Try.prog 50 = ⟨Kd.other, false, 1, 8, some [PV.nilF], false⟩ := by kernel_rfl
theorem ty51 : tyOf Try.prog 51 = ⟨Kd.other, false, 1, 0, some [PV.undef], false⟩ := by kernel_rfl
theorem ty52 : tyOf Try.prog 52 = ⟨Kd.other, false, 1, 8, some [PV.nilF], false⟩ := by kernel_rfl
theorem ty53 : tyOf Try.prog 53 = ⟨Kd.other, false, 1, 8, some [PV.nilF], false⟩ := by kernel_rfl
theorem ty54 : tyOf Try.prog 54 = ⟨Kd.struct [(3, 0), (3, 1), (3, 2)], true, 3, 24, some [PV.int IntKind.i64 (0), PV.int IntKind.i64 (0), PV.int IntKind.i64 (0)], true⟩ := by kernel_rfl
theorem ty55 : tyOf Try.prog 55 = ⟨Kd.struct [(3, 0), (3, 1), (3, 2)], true, 3, 24, some [PV.int IntKind.i64 (0), PV.int IntKind.i64 (0), PV.int IntKind.i64 (0)], true⟩ := by kernel_rfl
theorem ty56 : tyOf Try.prog 56 = ⟨Kd.other, false, 1, 8, some [PV.nilF], false⟩ := by kernel_rfl
theorem ty57 : tyOf Try.prog 57 = ⟨Kd.struct [(9, 0), (9, 1)], true, 2, 32, some [PV.str [], PV.str []], true⟩ := by kernel_rfl
theorem ty58 : tyOf Try.prog 58 = ⟨Kd.struct [(9, 0), (9, 1)], true, 2, 32, some [PV.str [], PV.str []], true⟩ := by kernel_rfl
theorem ty59 : tyOf Try.prog 59 = ⟨Kd.other, false, 1, 8, some [PV.nilF], false⟩ := by kernel_rfl
theorem ty60 : tyOf Try.prog 60 = ⟨Kd.other, false, 1, 8, some [PV.nilF], false⟩ := by kernel_rfl
theorem ty61 : tyOf Try.prog 61 = ⟨Kd.other, false, 1, 8, some [PV.nilF], false⟩ := by kernel_rfl
theorem ty62 : tyOf Try.prog 62 = ⟨Kd.other, false, 1, 8, some [PV.nilF], false⟩ := by kernel_rfl
theorem ty63 : tyOf Try.prog 63 = ⟨Kd.slice 21, false, 1, 24, some [PV.nilS], false⟩ := by kernel_rfl
theorem ty64 : tyOf Try.prog 64 = ⟨Kd.other, false, 1, 0, some [PV.undef], false⟩ := by kernel_rfl
theorem ty65 : tyOf Try.prog 65 = ⟨Kd.other, false, 1, 8, some [PV.nilF], false⟩ := by kernel_rfl
theorem ty66 : tyOf Try.prog 66 = ⟨Kd.other, false, 1, 8, some [PV.nilF], false⟩ := by kernel_rfl
theorem ty67 : tyOf Try.prog 67 = ⟨Kd.struct [(17, 0), (17, 1), (17, 2), (9, 3)], true, 4, 40, some [PV.nilP, PV.nilP, PV.nilP, PV.str []], false⟩ := by kernel_rfl
theorem ty68 : tyOf Try.prog 68 = ⟨Kd.struct [(17, 0), (17, 1), (17, 2), (9, 3)], true, 4, 40, some [PV.nilP, PV.nilP, PV.nilP, PV.str []], false⟩ := by kernel_rfl
theorem ty69 : tyOf Try.prog 69 = ⟨Kd.other, true, 0, 0, some [], false⟩ := by kernel_rfl
theorem ty70 : tyOf Try.prog 70 = ⟨Kd.struct [(69, 0)], true, 0, 0, some [], false⟩ := by kernel_rfl
theorem ty71 : tyOf Try.prog 71 = ⟨Kd.struct [(69, 0)], true, 0, 0, some [], false⟩ := by kernel_rfl
theorem ty72 : tyOf Try.prog 72 = ⟨Kd.other, false, 1, 8, some [PV.nilF], false⟩ := by kernel_rfl
theorem ty73 : tyOf Try.prog 73 = ⟨Kd.int IntKind.u32, false, 1, 4, some [PV.int IntKind.u32 (0)], false⟩ := by kernel_rfl
theorem ty74 : tyOf Try.prog 74 = ⟨Kd.int IntKind.u8, false, 1, 1, some [PV.int IntKind.u8 (0)], false⟩ := by kernel_rfl
theorem ty75 : tyOf Try.prog 75 = ⟨Kd.int IntKind.u8, false, 1, 1, some [PV.int IntKind.u8 (0)], false⟩ := by kernel_rfl
theorem ty76 : tyOf Try.prog 76 = ⟨Kd.other, false, 1, 8, some [PV.nilF], false⟩ := by kernel_rfl
theorem ty77 : tyOf Try.prog 77 = ⟨Kd.other, false, 1, 8, some [PV.nilP], false⟩ := by kernel_rfl
theorem ty78 : tyOf Try.prog 78 = ⟨Kd.int IntKind.i32, false, 1, 4, some [PV.int IntKind.i32 (0)], false⟩ := by kernel_rfl
theorem ty79 : tyOf Try.prog 79 = ⟨Kd.int IntKind.i32, false, 1, 4, some [PV.int IntKind.i32 (0)], false⟩ := by kernel_rfl
theorem ty80 : tyOf Try.prog 80 = ⟨Kd.struct [(12, 0), (12, 1), (73, 2), (74, 3), (5, 4), (5, 5), (75, 6), (76, 7), (77, 8), (78, 9), (79, 10)], true, 11, 48, some [PV.int IntKind.u64 (0), PV.int IntKind.u64 (0), PV.int IntKind.u32 (0), PV.int IntKind.u8 (0), PV.int IntKind.u8 (0), PV.int IntKind.u8 (0), PV.int IntKind.u8 (0), PV.nilF, PV.nilP, PV.int IntKind.i32 (0), PV.int IntKind.i32 (0)], false⟩ := by kernel_rfl
theorem ty81 : tyOf Try.prog 81 = ⟨Kd.struct [(12, 0), (12, 1), (73, 2), (74, 3), (5, 4), (5, 5), (75, 6), (76, 7), (77, 8), (78, 9), (79, 10)], true, 11, 48, some [PV.int IntKind.u64 (0), PV.int IntKind.u64 (0), PV.int IntKind.u32 (0), PV.int IntKind.u8 (0), PV.int IntKind.u8 (0), PV.int IntKind.u8 (0), PV.int IntKind.u8 (0), PV.nilF, PV.nilP, PV.int IntKind.i32 (0), PV.int IntKind.i32 (0)], false⟩ := by kernel_rfl
theorem ty82 : tyOf Try.prog 82 = ⟨Kd.other, false, 1, 8, some [PV.nilP], false⟩ := by kernel_rfl
theorem mixed : Try.prog.follows .mixedOrders = true := by kernel_rfl
end Go.Proofs.Ytacmddgliagpcaa
