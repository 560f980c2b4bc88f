/- The types of the program, in short. -/
import Derived.Test.YtclohbgnaopjfaaGreatDoorProg
import Derived.Test.YtclohbgnaopjfaaGreatDoorAw24
import Derived.KernelRfl
namespace Go.Proofs.YtclohbgnaopjfaaGreatDoor
set_option linter.unusedSimpArgs false
set_option linter.unusedVariables false
open Go
theorem ty0 : tyOf Tryz.prog 0 = ⟨Kd.other, false, 1, 0, some [PV.undef], false⟩ := by kernel_rfl
theorem ty1 : tyOf Tryz.prog 1 = ⟨Kd.other, false, 1, 8, some [PV.nilF], false⟩ := by kernel_rfl
theorem ty2 : tyOf Tryz.prog 2 = ⟨Kd.int IntKind.i64, false, 1, 8, some [PV.int IntKind.i64 (0)], false⟩ := by kernel_rfl
theorem ty3 : tyOf Tryz.prog 3 = ⟨Kd.int IntKind.i64, false, 1, 8, some [PV.int IntKind.i64 (0)], false⟩ := by kernel_rfl
theorem ty4 : tyOf Tryz.prog 4 = ⟨Kd.bool, false, 1, 1, some [PV.bool false], false⟩ := by kernel_rfl
theorem ty5 : tyOf Tryz.prog 5 = ⟨Kd.int IntKind.u8, false, 1, 1, some [PV.int IntKind.u8 (0)], false⟩ := by kernel_rfl
theorem ty6 : tyOf Tryz.prog 6 = ⟨Kd.int IntKind.u8, false, 1, 1, some [PV.int IntKind.u8 (0)], false⟩ := by kernel_rfl
theorem ty7 : tyOf Tryz.prog 7 = ⟨Kd.struct [(2, 0), (3, 1), (4, 2), (6, 3)], true, 4, 24, some [PV.int IntKind.i64 (0), PV.int IntKind.i64 (0), PV.bool false, PV.int IntKind.u8 (0)], true⟩ := by kernel_rfl
theorem ty8 : tyOf Tryz.prog 8 = ⟨Kd.struct [(2, 0), (3, 1), (4, 2), (6, 3)], true, 4, 24, some [PV.int IntKind.i64 (0), PV.int IntKind.i64 (0), PV.bool false, PV.int IntKind.u8 (0)], true⟩ := by kernel_rfl
theorem ty9 : tyOf Tryz.prog 9 = ⟨Kd.str, false, 1, 16, some [PV.str []], false⟩ := by kernel_rfl
theorem ty10 : tyOf Tryz.prog 10 = ⟨Kd.str, false, 1, 16, some [PV.str []], false⟩ := by kernel_rfl
theorem ty11 : tyOf Tryz.prog 11 = ⟨Kd.str, false, 1, 16, some [PV.str []], false⟩ := by kernel_rfl
theorem ty12 : tyOf Tryz.prog 12 = ⟨Kd.int IntKind.u64, false, 1, 8, some [PV.int IntKind.u64 (0)], false⟩ := by kernel_rfl
theorem ty13 : tyOf Tryz.prog 13 = ⟨Kd.struct [(9, 0), (12, 1)], true, 2, 24, some [PV.str [], PV.int IntKind.u64 (0)], false⟩ := by kernel_rfl
theorem ty14 : tyOf Tryz.prog 14 = ⟨Kd.struct [(9, 0), (12, 1)], true, 2, 24, some [PV.str [], PV.int IntKind.u64 (0)], false⟩ := by kernel_rfl
theorem ty15 : tyOf Tryz.prog 15 = ⟨Kd.other, false, 1, 8, some [PV.nilP], false⟩ := by kernel_rfl
theorem ty16 : tyOf Tryz.prog 16 = ⟨Kd.other, false, 1, 8, some [PV.nilP], false⟩ := by kernel_rfl
theorem ty17 : tyOf Tryz.prog 17 = ⟨Kd.other, false, 1, 8, some [PV.nilP], false⟩ := by kernel_rfl
theorem ty18 : tyOf Tryz.prog 18 = ⟨Kd.struct [(17, 0)], true, 1, 8, some [PV.nilP], false⟩ := by kernel_rfl
theorem ty19 : tyOf Tryz.prog 19 = ⟨Kd.struct [(17, 0)], true, 1, 8, some [PV.nilP], false⟩ := by kernel_rfl
theorem ty20 : tyOf Tryz.prog 20 = ⟨Kd.iface, false, 1, 16, some [PV.nilI], false⟩ := by kernel_rfl
theorem ty21 : tyOf Tryz.prog 21 = ⟨Kd.int IntKind.i32, false, 1, 4, some [PV.int IntKind.i32 (0)], false⟩ := by kernel_rfl
theorem ty22 : tyOf Tryz.prog 22 = ⟨Kd.slice 71, false, 1, 24, some [PV.nilS], false⟩ := by kernel_rfl
theorem ty23 : tyOf Tryz.prog 23 = ⟨Kd.other, false, 1, 8, some [PV.nilF], false⟩ := by kernel_rfl
theorem ty24 : tyOf Tryz.prog 24 = ⟨Kd.slice 9, false, 1, 24, some [PV.nilS], false⟩ := by kernel_rfl
theorem ty25 : tyOf Tryz.prog 25 = ⟨Kd.slice 87, false, 1, 24, some [PV.nilS], false⟩ := by kernel_rfl
theorem ty26 : tyOf Tryz.prog 26 = ⟨Kd.slice 28, false, 1, 24, some [PV.nilS], false⟩ := by kernel_rfl
theorem ty27 : tyOf Tryz.prog 27 = ⟨Kd.struct [(9, 0), (9, 1), (24, 2), (25, 3), (26, 4)], true, 5, 104, some [PV.str [], PV.str [], PV.nilS, PV.nilS, PV.nilS], true⟩ := by kernel_rfl
theorem ty28 : tyOf Tryz.prog 28 = ⟨Kd.struct [(9, 0), (9, 1), (24, 2), (25, 3), (26, 4)], true, 5, 104, some [PV.str [], PV.str [], PV.nilS, PV.nilS, PV.nilS], true⟩ := by kernel_rfl
theorem ty29 : tyOf Tryz.prog 29 = ⟨Kd.other, false, 1, 8, some [PV.nilF], false⟩ := by kernel_rfl
theorem ty30 : tyOf Tryz.prog 30 = ⟨Kd.struct [(5, 0), (3, 1), (3, 2), (26, 3), (9, 4), (9, 5)], true, 6, 80, some [PV.int IntKind.u8 (0), PV.int IntKind.i64 (0), PV.int IntKind.i64 (0), PV.nilS, PV.str [], PV.str []], true⟩ := by kernel_rfl
theorem ty31 : tyOf Tryz.prog 31 = ⟨Kd.struct [(5, 0), (3, 1), (3, 2), (26, 3), (9, 4), (9, 5)], true, 6, 80, some [PV.int IntKind.u8 (0), PV.int IntKind.i64 (0), PV.int IntKind.i64 (0), PV.nilS, PV.str [], PV.str []], true⟩ := by kernel_rfl
theorem ty32 : tyOf Tryz.prog 32 = ⟨Kd.other, false, 1, 8, some [PV.nilF], false⟩ := by kernel_rfl
theorem ty33 : tyOf Tryz.prog 33 = ⟨Kd.int IntKind.i64, false, 1, 8, some [PV.int IntKind.i64 (0)], false⟩ := by kernel_rfl
theorem ty34 : tyOf Tryz.prog 34 = ⟨Kd.other, false, 1, 0, some [PV.undef], false⟩ := by kernel_rfl
theorem ty35 : tyOf Tryz.prog 35 = ⟨Kd.other, false, 1, 8, some [PV.nilF], false⟩ := by kernel_rfl
theorem ty36 : tyOf Tryz.prog 36 = ⟨Kd.slice 43, false, 1, 24, some [PV.nilS], false⟩ := by kernel_rfl
theorem ty37 : tyOf Tryz.prog 37 = ⟨Kd.other, false, 1, 8, some [PV.nilF], false⟩ := by kernel_rfl
theorem ty38 : tyOf Tryz.prog 38 = ⟨Kd.slice 83, false, 1, 24, some [PV.nilS], false⟩ := by kernel_rfl
theorem ty39 : tyOf Tryz.prog 39 = ⟨Kd.slice 83, false, 1, 24, some [PV.nilS], false⟩ := by kernel_rfl
theorem ty40 : tyOf Tryz.prog 40 = ⟨Kd.other, false, 1, 8, some [PV.nilF], false⟩ := by kernel_rfl
theorem ty41 : tyOf Tryz.prog 41 = ⟨Kd.other, false, 1, 8, some [PV.nilF], false⟩ := by kernel_rfl
theorem ty42 : tyOf Tryz.prog 42 = ⟨Kd.struct [(5, 0), (9, 1), (9, 2)], true, 3, 40, some [PV.int IntKind.u8 (0), PV.str [], PV.str []], true⟩ := by kernel_rfl
theorem ty43 : tyOf Tryz.prog 43 = ⟨Kd.struct [(5, 0), (9, 1), (9, 2)], true, 3, 40, some [PV.int IntKind.u8 (0), PV.str [], PV.str []], true⟩ := by kernel_rfl
theorem ty44 : tyOf Tryz.prog 44 = ⟨Kd.struct [(5, 0), (9, 1), (9, 2)], true, 3, 40, some [PV.int IntKind.u8 (0), PV.str [], PV.str []], true⟩ := by kernel_rfl
theorem ty45 : tyOf Tryz.prog 45 = ⟨Kd.other, false, 1, 8, some [PV.nilF], false⟩ := by kernel_rfl
theorem ty46 : tyOf Tryz.prog 46 = ⟨Kd.other, false, 1, 8, some [PV.nilF], false⟩ := by kernel_rfl
theorem ty47 : tyOf Tryz.prog 47 = ⟨Kd.other, false, 1, 8, some [PV.nilF], false⟩ := by kernel_rfl
theorem ty48 : tyOf Tryz.prog 48 = ⟨Kd.struct [(5, 0), (3, 1), (3, 2), (26, 3), (9, 4), (9, 5)], true, 6, 80, some [PV.int IntKind.u8 (0), PV.int IntKind.i64 (0), PV.int IntKind.i64 (0), PV.nilS, PV.str [], PV.str []], true⟩ := by kernel_rfl
theorem ty49 : tyOf Tryz.prog 49 = ⟨Kd.other, false, 1, 8, some [PV.nilF], false⟩ := by kernel_rfl
theorem ty50 : tyOf Tryz.prog 50 = ⟨Kd.other, false, 1, 8, some [PV.nilF], false⟩ := by kernel_rfl
theorem ty51 : tyOf Tryz.prog 51 = ⟨Kd.slice 31, false, 1, 24, some [PV.nilS], false⟩ := by kernel_rfl
theorem ty52 : tyOf Tryz.prog 52 = ⟨Kd.other, false, 1, 0, some [PV.undef], false⟩ := by kernel_rfl
theorem ty53 : tyOf Tryz.prog 53 = ⟨Kd.other, false, 1, 8, some [PV.nilF], false⟩ := by kernel_rfl
theorem ty54 : tyOf Tryz.prog 54 = ⟨Kd.slice 48, false, 1, 24, some [PV.nilS], false⟩ := by kernel_rfl
theorem ty55 : tyOf Tryz.prog 55 = ⟨Kd.other, false, 1, 0, some [PV.undef], false⟩ := by kernel_rfl
theorem ty56 : tyOf Tryz.prog 56 = ⟨Kd.other, false, 1, 8, some [PV.nilF], false⟩ := by kernel_rfl
theorem ty57 : tyOf Tryz.prog 57 = ⟨Kd.other, false, 1, 8, some [PV.nilF], false⟩ := by kernel_rfl
theorem ty58 : tyOf Tryz.prog 58 = ⟨Kd.other, false, 1, 8, some [PV.nilF], false⟩ := by kernel_rfl
theorem ty59 : tyOf Tryz.prog 59 = ⟨Kd.other, false, 1, 8, some [PV.nilF], false⟩ := by kernel_rfl
theorem ty60 : tyOf Tryz.prog 60 = ⟨Kd.other, false, 1, 8, some [PV.nilF], false⟩ := by kernel_rfl
theorem ty61 : tyOf Tryz.prog 61 = ⟨Kd.other, false, 1, 8, some [PV.nilF], false⟩ := by kernel_rfl
theorem ty62 : tyOf Tryz.prog 62 = ⟨Kd.other, false, 1, 8, some [PV.nilF], false⟩ := by kernel_rfl
theorem ty63 : tyOf Tryz.prog 63 = ⟨Kd.other, false, 1, 0, some [PV.undef], false⟩ := by kernel_rfl
theorem ty64 : tyOf Tryz.prog 64 = ⟨Kd.other, false, 1, 8, some [PV.nilF], false⟩ := by kernel_rfl
theorem ty65 : tyOf Tryz.prog 65 = ⟨Kd.other, false, 1, 8, some [PV.nilF], false⟩ := by kernel_rfl
theorem ty66 : tyOf Tryz.prog 66 = ⟨Kd.other, false, 1, 8, some [PV.nilF], false⟩ := by kernel_rfl
theorem ty67 : tyOf Tryz.prog 67 = ⟨Kd.other, false, 1, 8, some [PV.nilF], false⟩ := by kernel_rfl
theorem ty68 : tyOf Tryz.prog 68 = ⟨Kd.other, false, 1, 8, some [PV.nilF], false⟩ := by kernel_rfl
theorem ty69 : tyOf Tryz.prog 69 = ⟨Kd.other, false, 1, 8, some [PV.nilF], false⟩ := by kernel_rfl
theorem ty70 : tyOf Tryz.prog 70 = ⟨Kd.struct [(3, 0), (3, 1), (3, 2), (3, 3)], true, 4, 32, some [PV.int IntKind.i64 (0), PV.int IntKind.i64 (0), PV.int IntKind.i64 (0), PV.int IntKind.i64 (0)], true⟩ := by kernel_rfl
theorem ty71 : tyOf Tryz.prog 71 = ⟨Kd.struct [(3, 0), (3, 1), (3, 2), (3, 3)], true, 4, 32, some [PV.int IntKind.i64 (0), PV.int IntKind.i64 (0), PV.int IntKind.i64 (0), PV.int IntKind.i64 (0)], true⟩ := by kernel_rfl
theorem ty72 : tyOf Tryz.prog 72 = ⟨Kd.other, false, 1, 8, some [PV.nilF], false⟩ := by kernel_rfl
theorem ty73 : tyOf Tryz.prog 73 = ⟨Kd.other, false, 1, 8, some [PV.nilF], false⟩ := by kernel_rfl
theorem ty74 : tyOf Tryz.prog 74 = ⟨Kd.other, false, 1, 8, some [PV.nilF], false⟩ := by kernel_rfl
theorem ty75 : tyOf Tryz.prog 75 = ⟨Kd.other, false, 1, 8, some [PV.nilF], false⟩ := by kernel_rfl
theorem ty76 : tyOf Tryz.prog 76 = ⟨Kd.other, false, 1, 8, some [PV.nilF], false⟩ := by kernel_rfl
theorem ty77 : tyOf Tryz.prog 77 = ⟨Kd.other, false, 1, 0, some [PV.undef], false⟩ := by kernel_rfl
theorem ty78 : tyOf Tryz.prog 78 = ⟨Kd.other, false, 1, 8, some [PV.nilF], false⟩ := by kernel_rfl
theorem ty79 : tyOf Tryz.prog 79 = ⟨Kd.other, false, 1, 0, some [PV.undef], false⟩ := by kernel_rfl
theorem ty80 : tyOf Tryz.prog 80 = ⟨Kd.other, false, 1, 8, some [PV.nilF], false⟩ := by kernel_rfl
theorem ty81 : tyOf Tryz.prog 81 = ⟨Kd.other, false, 1, 8, some [PV.nilF], false⟩ := by kernel_rfl
theorem ty82 : tyOf Tryz.prog 82 = ⟨Kd.struct [(3, 0), (3, 1), (3, 2)], true, 3, 24, some [PV.int IntKind.i64 (0), PV.int IntKind.i64 (0), PV.int IntKind.i64 (0)], true⟩ := by kernel_rfl
theorem ty83 : tyOf Tryz.prog 83 = ⟨Kd.struct [(3, 0), (3, 1), (3, 2)], true, 3, 24, some [PV.int IntKind.i64 (0), PV.int IntKind.i64 (0), PV.int IntKind.i64 (0)], true⟩ := by kernel_rfl
theorem ty84 : tyOf Tryz.prog 84 = ⟨Kd.other, false, 1, 8, some [PV.nilF], false⟩ := by kernel_rfl
theorem ty85 : tyOf Tryz.prog 85 = ⟨Kd.other, false, 1, 8, some [PV.nilF], false⟩ := by kernel_rfl
theorem ty86 : tyOf Tryz.prog 86 = ⟨Kd.struct [(9, 0), (9, 1)], true, 2, 32, some [PV.str [], PV.str []], true⟩ := by kernel_rfl
theorem ty87 : tyOf Tryz.prog 87 = ⟨Kd.struct [(9, 0), (9, 1)], true, 2, 32, some [PV.str [], PV.str []], true⟩ := by kernel_rfl
theorem ty88 : tyOf Tryz.prog 88 = ⟨Kd.other, false, 1, 8, some [PV.nilF], false⟩ := by kernel_rfl
theorem ty89 : tyOf Tryz.prog 89 = ⟨Kd.other, false, 1, 8, some [PV.nilF], false⟩ := by kernel_rfl
theorem ty90 : tyOf Tryz.prog 90 = ⟨Kd.slice 44, false, 1, 24, some [PV.nilS], false⟩ := by kernel_rfl
theorem ty91 : tyOf Tryz.prog 91 = ⟨Kd.other, false, 1, 8, some [PV.nilF], false⟩ := by kernel_rfl
theorem ty92 : tyOf Tryz.prog 92 = ⟨Kd.other, false, 1, 8, some [PV.nilF], false⟩ := by kernel_rfl
theorem ty93 : tyOf Tryz.prog 93 = ⟨Kd.other, false, 1, 0, some [PV.undef], false⟩ := by kernel_rfl
theorem ty94 : tyOf Tryz.prog 94 = ⟨Kd.other, false, 1, 8, some [PV.nilF], false⟩ := by kernel_rfl
theorem ty95 : tyOf Tryz.prog 95 = ⟨Kd.other, false, 1, 8, some [PV.nilF], false⟩ := by kernel_rfl
theorem ty96 : tyOf Tryz.prog 96 = ⟨Kd.other, false, 1, 8, some [PV.nilF], false⟩ := by kernel_rfl
theorem ty97 : tyOf Tryz.prog 97 = ⟨Kd.other, false, 1, 8, some [PV.nilF], false⟩ := by kernel_rfl
theorem ty98 : tyOf Tryz.prog 98 = ⟨Kd.other, false, 1, 8, some [PV.nilF], false⟩ := by kernel_rfl
theorem ty99 : tyOf Tryz.prog 99 = ⟨Kd.other, false, 1, 8, some [PV.nilF], false⟩ := by kernel_rfl
theorem ty100 : tyOf Tryz.prog 100 = ⟨Kd.other, false, 1, 8, some [PV.nilF], false⟩ := by kernel_rfl
theorem ty101 : tyOf Tryz.prog 101 = ⟨Kd.other, false, 1, 8, some [PV.nilF], false⟩ := by kernel_rfl
theorem ty102 : tyOf Tryz.prog 102 = ⟨Kd.other, false, 1, 8, some [PV.nilF], false⟩ := by kernel_rfl
theorem ty103 : tyOf Tryz.prog 103 = ⟨Kd.other, false, 1, 8, some [PV.nilF], false⟩ := by kernel_rfl
theorem ty104 : tyOf Tryz.prog 104 = ⟨Kd.other, false, 1, 8, some [PV.nilP], false⟩ := by kernel_rfl
theorem ty105 : tyOf Tryz.prog 105 = ⟨Kd.slice 5, false, 1, 24, some [PV.nilS], false⟩ := by kernel_rfl
theorem ty106 : tyOf Tryz.prog 106 = ⟨Kd.struct [(104, 0), (105, 1)], true, 2, 32, some [PV.nilP, PV.nilS], true⟩ := by kernel_rfl
theorem ty107 : tyOf Tryz.prog 107 = ⟨Kd.struct [(104, 0), (105, 1)], true, 2, 32, some [PV.nilP, PV.nilS], true⟩ := by kernel_rfl
theorem ty108 : tyOf Tryz.prog 108 = ⟨Kd.iface, false, 1, 16, some [PV.nilI], false⟩ := by kernel_rfl
theorem ty109 : tyOf Tryz.prog 109 = ⟨Kd.iface, false, 1, 16, some [PV.nilI], false⟩ := by kernel_rfl
theorem ty110 : tyOf Tryz.prog 110 = ⟨Kd.other, false, 1, 0, some [PV.undef], false⟩ := by kernel_rfl
theorem ty111 : tyOf Tryz.prog 111 = ⟨Kd.other, false, 1, 8, some [PV.nilF], false⟩ := by kernel_rfl
theorem ty112 : tyOf Tryz.prog 112 = ⟨Kd.other, false, 1, 8, some [PV.nilF], false⟩ := by kernel_rfl
theorem ty113 : tyOf Tryz.prog 113 = ⟨Kd.slice 3, false, 1, 24, some [PV.nilS], false⟩ := by kernel_rfl
theorem ty114 : tyOf Tryz.prog 114 = ⟨Kd.struct [(113, 0), (28, 1), (3, 6), (3, 7)], true, 8, 144, some [PV.nilS, PV.str [], PV.str [], PV.nilS, PV.nilS, PV.nilS, PV.int IntKind.i64 (0), PV.int IntKind.i64 (0)], false⟩ := by kernel_rfl
theorem ty115 : tyOf Tryz.prog 115 = ⟨Kd.struct [(113, 0), (28, 1), (3, 6), (3, 7)], true, 8, 144, some [PV.nilS, PV.str [], PV.str [], PV.nilS, PV.nilS, PV.nilS, PV.int IntKind.i64 (0), PV.int IntKind.i64 (0)], false⟩ := by kernel_rfl
theorem ty116 : tyOf Tryz.prog 116 = ⟨Kd.other, false, 1, 0, some [PV.undef], false⟩ := by kernel_rfl
theorem ty117 : tyOf Tryz.prog 117 = ⟨Kd.other, false, 1, 8, some [PV.nilF], false⟩ := by kernel_rfl
theorem ty118 : tyOf Tryz.prog 118 = ⟨Kd.other, false, 1, 0, some [PV.undef], false⟩ := by kernel_rfl
theorem ty119 : tyOf Tryz.prog 119 = ⟨Kd.other, false, 1, 8, some [PV.nilF], false⟩ := by kernel_rfl
theorem ty120 : tyOf Tryz.prog 120 = ⟨Kd.other, false, 1, 8, some [PV.nilF], false⟩ := by kernel_rfl
theorem ty121 : tyOf Tryz.prog 121 = ⟨Kd.other, false, 1, 8, some [PV.nilF], false⟩ := by kernel_rfl
theorem ty122 : tyOf Tryz.prog 122 = ⟨Kd.other, false, 1, 0, some [PV.undef], false⟩ := by kernel_rfl
theorem ty123 : tyOf Tryz.prog 123 = ⟨Kd.other, false, 1, 8, some [PV.nilF], false⟩ := by kernel_rfl
theorem ty124 : tyOf Tryz.prog 124 = ⟨Kd.other, false, 1, 8, some [PV.nilF], false⟩ := by kernel_rfl
theorem ty125 : tyOf Tryz.prog 125 = ⟨Kd.other, false, 1, 8, some [PV.nilF], false⟩ := by kernel_rfl
theorem ty126 : tyOf Tryz.prog 126 = ⟨Kd.other, false, 1, 8, some [PV.nilF], false⟩ := by kernel_rfl
theorem ty127 : tyOf Tryz.prog 127 = ⟨Kd.other, false, 1, 8, some [PV.nilF], false⟩ := by kernel_rfl
theorem ty128 : tyOf Tryz.prog 128 = ⟨Kd.other, false, 1, 8, some [PV.nilP], false⟩ := by kernel_rfl
theorem ty129 : tyOf Tryz.prog 129 = ⟨Kd.struct [(31, 0), (38, 6)], true, 7, 104, some [PV.int IntKind.u8 (0), PV.int IntKind.i64 (0), PV.int IntKind.i64 (0), PV.nilS, PV.str [], PV.str [], PV.nilS], false⟩ := by kernel_rfl
theorem ty130 : tyOf Tryz.prog 130 = ⟨Kd.struct [(31, 0), (38, 6)], true, 7, 104, some [PV.int IntKind.u8 (0), PV.int IntKind.i64 (0), PV.int IntKind.i64 (0), PV.nilS, PV.str [], PV.str [], PV.nilS], false⟩ := by kernel_rfl
theorem ty131 : tyOf Tryz.prog 131 = ⟨Kd.other, false, 1, 8, some [PV.nilF], false⟩ := by kernel_rfl
theorem ty132 : tyOf Tryz.prog 132 = ⟨Kd.other, false, 1, 8, some [PV.nilF], false⟩ := by kernel_rfl
theorem ty133 : tyOf Tryz.prog 133 = ⟨Kd.other, false, 1, 8, some [PV.nilF], false⟩ := by kernel_rfl
theorem ty134 : tyOf Tryz.prog 134 = ⟨Kd.other, false, 1, 0, some [PV.undef], false⟩ := by kernel_rfl
theorem ty135 : tyOf Tryz.prog 135 = ⟨Kd.other, false, 1, 8, some [PV.nilF], false⟩ := by kernel_rfl
theorem ty136 : tyOf Tryz.prog 136 = ⟨Kd.slice 21, false, 1, 24, some [PV.nilS], false⟩ := by kernel_rfl
theorem ty137 : tyOf Tryz.prog 137 = ⟨Kd.other, false, 1, 8, some [PV.nilF], false⟩ := by kernel_rfl
theorem ty138 : tyOf Tryz.prog 138 = ⟨Kd.other, false, 1, 8, some [PV.nilF], false⟩ := by kernel_rfl
theorem ty139 : tyOf Tryz.prog 139 = ⟨Kd.other, false, 1, 8, some [PV.nilF], false⟩ := by kernel_rfl
theorem ty140 : tyOf Tryz.prog 140 = ⟨Kd.other, false, 1, 8, some [PV.nilP], false⟩ := by kernel_rfl
theorem ty141 : tyOf Tryz.prog 141 = ⟨Kd.struct [(9, 0), (3, 1), (4, 2)], true, 3, 32, some [PV.str [], PV.int IntKind.i64 (0), PV.bool false], true⟩ := by kernel_rfl
theorem ty142 : tyOf Tryz.prog 142 = ⟨Kd.struct [(9, 0), (3, 1), (4, 2)], true, 3, 32, some [PV.str [], PV.int IntKind.i64 (0), PV.bool false], true⟩ := by kernel_rfl
theorem ty143 : tyOf Tryz.prog 143 = ⟨Kd.other, false, 1, 8, some [PV.nilF], false⟩ := by kernel_rfl
theorem ty144 : tyOf Tryz.prog 144 = ⟨Kd.other, false, 1, 8, some [PV.nilF], false⟩ := by kernel_rfl
theorem ty145 : tyOf Tryz.prog 145 = ⟨Kd.other, false, 1, 8, some [PV.nilF], false⟩ := by kernel_rfl
theorem ty146 : tyOf Tryz.prog 146 = ⟨Kd.other, false, 1, 8, some [PV.nilF], false⟩ := by kernel_rfl
theorem ty147 : tyOf Tryz.prog 147 = ⟨Kd.other, false, 1, 8, some [PV.nilF], false⟩ := by kernel_rfl
theorem ty148 : tyOf Tryz.prog 148 = ⟨Kd.other, false, 1, 8, some [PV.nilF], false⟩ := by kernel_rfl
theorem ty149 : tyOf Tryz.prog 149 = ⟨Kd.other, false, 1, 8, some [PV.nilF], false⟩ := by kernel_rfl
theorem ty150 : tyOf Tryz.prog 150 = ⟨Kd.other, false, 1, 8, some [PV.nilP], false⟩ := by kernel_rfl
theorem ty151 : tyOf Tryz.prog 151 = ⟨Kd.other, false, 1, 8, some [PV.nilF], false⟩ := by kernel_rfl
theorem ty152 : tyOf Tryz.prog 152 = ⟨Kd.struct [(113, 0), (3, 1), (3, 2)], true, 3, 40, some [PV.nilS, PV.int IntKind.i64 (0), PV.int IntKind.i64 (0)], true⟩ := by kernel_rfl
theorem ty153 : tyOf Tryz.prog 153 = ⟨Kd.struct [(113, 0), (3, 1), (3, 2)], true, 3, 40, some [PV.nilS, PV.int IntKind.i64 (0), PV.int IntKind.i64 (0)], true⟩ := by kernel_rfl
theorem ty154 : tyOf Tryz.prog 154 = ⟨Kd.other, false, 1, 0, some [PV.undef], false⟩ := by kernel_rfl
theorem ty155 : tyOf Tryz.prog 155 = ⟨Kd.other, false, 1, 8, some [PV.nilF], false⟩ := by kernel_rfl
theorem ty156 : tyOf Tryz.prog 156 = ⟨Kd.other, false, 1, 8, some [PV.nilF], false⟩ := by kernel_rfl
theorem ty157 : tyOf Tryz.prog 157 = ⟨Kd.other, false, 1, 0, some [PV.undef], false⟩ := by kernel_rfl
theorem ty158 : tyOf Tryz.prog 158 = ⟨Kd.other, false, 1, 8, some [PV.nilF], false⟩ := by kernel_rfl
theorem ty159 : tyOf Tryz.prog 159 = ⟨Kd.slice 26, false, 1, 24, some [PV.nilS], false⟩ := by kernel_rfl
theorem ty160 : tyOf Tryz.prog 160 = ⟨Kd.other, false, 1, 8, some [PV.nilF], false⟩ := by kernel_rfl
theorem ty161 : tyOf Tryz.prog 161 = ⟨Kd.other, false, 1, 8, some [PV.nilF], false⟩ := by kernel_rfl
theorem ty162 : tyOf Tryz.prog 162 = ⟨Kd.other, false, 1, 8, some [PV.nilF], false⟩ := by kernel_rfl
theorem ty163 : tyOf Tryz.prog 163 = ⟨Kd.other, false, 1, 8, some [PV.nilF], false⟩ := by kernel_rfl
theorem ty164 : tyOf Tryz.prog 164 = ⟨Kd.other, false, 1, 0, some [PV.undef], false⟩ := by kernel_rfl
theorem ty165 : tyOf Tryz.prog 165 = ⟨Kd.other, false, 1, 8, some [PV.nilF], false⟩ := by kernel_rfl
theorem ty166 : tyOf Tryz.prog 166 = ⟨Kd.struct [(113, 0), (3, 1), (3, 2)], true, 3, 40, some [PV.nilS, PV.int IntKind.i64 (0), PV.int IntKind.i64 (0)], true⟩ := by kernel_rfl
theorem ty167 : tyOf Tryz.prog 167 = ⟨Kd.other, false, 1, 0, some [PV.undef], false⟩ := by kernel_rfl
theorem ty168 : tyOf Tryz.prog 168 = ⟨Kd.other, false, 1, 8, some [PV.nilF], false⟩ := by kernel_rfl
theorem ty169 : tyOf Tryz.prog 169 = ⟨Kd.other, false, 1, 8, some [PV.nilF], false⟩ := by kernel_rfl
theorem ty170 : tyOf Tryz.prog 170 = ⟨Kd.other, false, 1, 8, some [PV.nilF], false⟩ := by kernel_rfl
theorem ty171 : tyOf Tryz.prog 171 = ⟨Kd.other, false, 1, 8, some [PV.nilF], false⟩ := by kernel_rfl
theorem ty172 : tyOf Tryz.prog 172 = ⟨Kd.other, false, 1, 8, some [PV.nilF], false⟩ := by kernel_rfl
theorem ty175 : tyOf Tryz.prog 175 = ⟨Kd.other, false, 1, 0, some [PV.undef], false⟩ := by kernel_rfl
theorem ty176 : tyOf Tryz.prog 176 = ⟨Kd.other, false, 1, 8, some [PV.nilF], false⟩ := by kernel_rfl
theorem ty177 : tyOf Tryz.prog 177 = ⟨Kd.other, false, 1, 8, some [PV.nilF], false⟩ := by kernel_rfl
theorem ty178 : tyOf Tryz.prog 178 = ⟨Kd.other, false, 1, 8, some [PV.nilP], false⟩ := by kernel_rfl
theorem ty179 : tyOf Tryz.prog 179 = ⟨Kd.other, false, 1, 8, some [PV.nilF], false⟩ := by kernel_rfl
theorem ty181 : tyOf Tryz.prog 181 = ⟨Kd.struct [(5, 0), (5, 1)], true, 2, 2, some [PV.int IntKind.u8 (0), PV.int IntKind.u8 (0)], true⟩ := by kernel_rfl
theorem ty182 : tyOf Tryz.prog 182 = ⟨Kd.struct [(5, 0), (5, 1)], true, 2, 2, some [PV.int IntKind.u8 (0), PV.int IntKind.u8 (0)], true⟩ := by kernel_rfl
theorem ty183 : tyOf Tryz.prog 183 = ⟨Kd.other, true, 32, 32, some [PV.int IntKind.u8 (0), PV.int IntKind.u8 (0), PV.int IntKind.u8 (0), PV.int IntKind.u8 (0), PV.int IntKind.u8 (0), PV.int IntKind.u8 (0), PV.int IntKind.u8 (0), PV.int IntKind.u8 (0), PV.int IntKind.u8 (0), PV.int IntKind.u8 (0), PV.int IntKind.u8 (0), PV.int IntKind.u8 (0), PV.int IntKind.u8 (0), PV.int IntKind.u8 (0), PV.int IntKind.u8 (0), PV.int IntKind.u8 (0), PV.int IntKind.u8 (0), PV.int IntKind.u8 (0), PV.int IntKind.u8 (0), PV.int IntKind.u8 (0), PV.int IntKind.u8 (0), PV.int IntKind.u8 (0), PV.int IntKind.u8 (0), PV.int IntKind.u8 (0), PV.int IntKind.u8 (0), PV.int IntKind.u8 (0), PV.int IntKind.u8 (0), PV.int IntKind.u8 (0), PV.int IntKind.u8 (0), PV.int IntKind.u8 (0), PV.int IntKind.u8 (0), PV.int IntKind.u8 (0)], false⟩ := by kernel_rfl
theorem ty184 : tyOf Tryz.prog 184 = ⟨Kd.int IntKind.u64, false, 1, 8, some [PV.int IntKind.u64 (0)], false⟩ := by kernel_rfl
theorem ty185 : tyOf Tryz.prog 185 = ⟨Kd.other, false, 1, 8, some [PV.nilF], false⟩ := by kernel_rfl
theorem ty186 : tyOf Tryz.prog 186 = ⟨Kd.other, false, 1, 8, some [PV.nilP], false⟩ := by kernel_rfl
theorem ty187 : tyOf Tryz.prog 187 = ⟨Kd.other, false, 1, 8, some [PV.nilF], false⟩ := by kernel_rfl
theorem ty188 : tyOf Tryz.prog 188 = ⟨Kd.other, false, 1, 0, some [PV.undef], false⟩ := by kernel_rfl
theorem ty189 : tyOf Tryz.prog 189 = ⟨Kd.other, false, 1, 8, some [PV.nilF], false⟩ := by kernel_rfl
theorem ty190 : tyOf Tryz.prog 190 = ⟨Kd.other, false, 1, 8, some [PV.nilF], false⟩ := by kernel_rfl
theorem ty191 : tyOf Tryz.prog 191 = ⟨Kd.other, false, 1, 8, some [PV.nilF], false⟩ := by kernel_rfl
theorem ty192 : tyOf Tryz.prog 192 = ⟨Kd.other, false, 1, 8, some [PV.nilF], false⟩ := by kernel_rfl
theorem ty193 : tyOf Tryz.prog 193 = ⟨Kd.slice 166, false, 1, 24, some [PV.nilS], false⟩ := by kernel_rfl
theorem ty194 : tyOf Tryz.prog 194 = ⟨Kd.other, false, 1, 8, some [PV.nilF], false⟩ := by kernel_rfl
theorem ty195 : tyOf Tryz.prog 195 = ⟨Kd.other, false, 1, 8, some [PV.nilF], false⟩ := by kernel_rfl
theorem ty196 : tyOf Tryz.prog 196 = ⟨Kd.other, false, 1, 8, some [PV.nilF], false⟩ := by kernel_rfl
theorem ty197 : tyOf Tryz.prog 197 = ⟨Kd.other, false, 1, 8, some [PV.nilF], false⟩ := by kernel_rfl
theorem ty198 : tyOf Tryz.prog 198 = ⟨Kd.other, false, 1, 0, some [PV.undef], false⟩ := by kernel_rfl
theorem ty199 : tyOf Tryz.prog 199 = ⟨Kd.other, false, 1, 8, some [PV.nilF], false⟩ := by kernel_rfl
theorem ty200 : tyOf Tryz.prog 200 = ⟨Kd.other, false, 1, 8, some [PV.nilF], false⟩ := by kernel_rfl
theorem ty201 : tyOf Tryz.prog 201 = ⟨Kd.int IntKind.u64, false, 1, 8, some [PV.int IntKind.u64 (0)], false⟩ := by kernel_rfl
theorem ty202 : tyOf Tryz.prog 202 = ⟨Kd.other, false, 1, 8, some [PV.nilF], false⟩ := by kernel_rfl
theorem ty203 : tyOf Tryz.prog 203 = ⟨Kd.other, false, 1, 0, some [PV.undef], false⟩ := by kernel_rfl
theorem ty204 : tyOf Tryz.prog 204 = ⟨Kd.other, false, 1, 8, some [PV.nilF], false⟩ := by kernel_rfl
theorem ty205 : tyOf Tryz.prog 205 = ⟨Kd.other, false, 1, 8, some [PV.nilF], false⟩ := by kernel_rfl
theorem ty206 : tyOf Tryz.prog 206 = ⟨Kd.other, false, 1, 8, some [PV.nilF], false⟩ := by kernel_rfl
theorem ty207 : tyOf Tryz.prog 207 = ⟨Kd.other, false, 1, 8, some [PV.nilF], false⟩ := by kernel_rfl
theorem ty208 : tyOf Tryz.prog 208 = ⟨Kd.other, false, 1, 8, some [PV.nilF], false⟩ := by kernel_rfl
theorem ty209 : tyOf Tryz.prog 209 = ⟨Kd.other, false, 1, 8, some [PV.nilF], false⟩ := by kernel_rfl
theorem ty210 : tyOf Tryz.prog 210 = ⟨Kd.other, false, 1, 8, some [PV.nilF], false⟩ := by kernel_rfl
theorem ty211 : tyOf Tryz.prog 211 = ⟨Kd.other, true, 24, 24, some [PV.int IntKind.u8 (0), PV.int IntKind.u8 (0), PV.int IntKind.u8 (0), PV.int IntKind.u8 (0), PV.int IntKind.u8 (0), PV.int IntKind.u8 (0), PV.int IntKind.u8 (0), PV.int IntKind.u8 (0), PV.int IntKind.u8 (0), PV.int IntKind.u8 (0), PV.int IntKind.u8 (0), PV.int IntKind.u8 (0), PV.int IntKind.u8 (0), PV.int IntKind.u8 (0), PV.int IntKind.u8 (0), PV.int IntKind.u8 (0), PV.int IntKind.u8 (0), PV.int IntKind.u8 (0), PV.int IntKind.u8 (0), PV.int IntKind.u8 (0), PV.int IntKind.u8 (0), PV.int IntKind.u8 (0), PV.int IntKind.u8 (0), PV.int IntKind.u8 (0)], false⟩ := by kernel_rfl
theorem ty212 : tyOf Tryz.prog 212 = ⟨Kd.other, false, 1, 8, some [PV.nilF], false⟩ := by kernel_rfl
theorem ty213 : tyOf Tryz.prog 213 = ⟨Kd.other, false, 1, 8, some [PV.nilF], false⟩ := by kernel_rfl
theorem ty214 : tyOf Tryz.prog 214 = ⟨Kd.other, false, 1, 0, some [PV.undef], false⟩ := by kernel_rfl
theorem ty215 : tyOf Tryz.prog 215 = ⟨Kd.other, false, 1, 8, some [PV.nilF], false⟩ := by kernel_rfl
theorem ty216 : tyOf Tryz.prog 216 = ⟨Kd.other, false, 1, 8, some [PV.nilF], false⟩ := by kernel_rfl
theorem ty217 : tyOf Tryz.prog 217 = ⟨Kd.other, false, 1, 8, some [PV.nilF], false⟩ := by kernel_rfl
theorem ty218 : tyOf Tryz.prog 218 = ⟨Kd.other, false, 1, 8, some [PV.nilF], false⟩ := by kernel_rfl
theorem ty219 : tyOf Tryz.prog 219 = ⟨Kd.other, false, 1, 8, some [PV.nilF], false⟩ := by kernel_rfl
theorem ty220 : tyOf Tryz.prog 220 = ⟨Kd.other, false, 1, 8, some [PV.nilF], false⟩ := by kernel_rfl
theorem ty221 : tyOf Tryz.prog 221 = ⟨Kd.other, true, 20, 160, some [PV.int IntKind.u64 (0), PV.int IntKind.u64 (0), PV.int IntKind.u64 (0), PV.int IntKind.u64 (0), PV.int IntKind.u64 (0), PV.int IntKind.u64 (0), PV.int IntKind.u64 (0), PV.int IntKind.u64 (0), PV.int IntKind.u64 (0), PV.int IntKind.u64 (0), PV.int IntKind.u64 (0), PV.int IntKind.u64 (0), PV.int IntKind.u64 (0), PV.int IntKind.u64 (0), PV.int IntKind.u64 (0), PV.int IntKind.u64 (0), PV.int IntKind.u64 (0), PV.int IntKind.u64 (0), PV.int IntKind.u64 (0), PV.int IntKind.u64 (0)], false⟩ := by kernel_rfl
theorem ty222 : tyOf Tryz.prog 222 = ⟨Kd.int IntKind.u32, false, 1, 4, some [PV.int IntKind.u32 (0)], false⟩ := by kernel_rfl
theorem ty224 : tyOf Tryz.prog 224 = ⟨Kd.other, false, 1, 8, some [PV.nilF], false⟩ := by kernel_rfl
theorem ty225 : tyOf Tryz.prog 225 = ⟨Kd.other, false, 1, 8, some [PV.nilF], false⟩ := by kernel_rfl
theorem ty226 : tyOf Tryz.prog 226 = ⟨Kd.other, false, 1, 8, some [PV.nilF], false⟩ := by kernel_rfl
theorem ty227 : tyOf Tryz.prog 227 = ⟨Kd.other, false, 1, 8, some [PV.nilF], false⟩ := by kernel_rfl
theorem ty228 : tyOf Tryz.prog 228 = ⟨Kd.other, false, 1, 0, some [PV.undef], false⟩ := by kernel_rfl
theorem ty229 : tyOf Tryz.prog 229 = ⟨Kd.other, false, 1, 8, some [PV.nilF], false⟩ := by kernel_rfl
theorem ty230 : tyOf Tryz.prog 230 = ⟨Kd.other, true, 32, 32, some [PV.int IntKind.u8 (0), PV.int IntKind.u8 (0), PV.int IntKind.u8 (0), PV.int IntKind.u8 (0), PV.int IntKind.u8 (0), PV.int IntKind.u8 (0), PV.int IntKind.u8 (0), PV.int IntKind.u8 (0), PV.int IntKind.u8 (0), PV.int IntKind.u8 (0), PV.int IntKind.u8 (0), PV.int IntKind.u8 (0), PV.int IntKind.u8 (0), PV.int IntKind.u8 (0), PV.int IntKind.u8 (0), PV.int IntKind.u8 (0), PV.int IntKind.u8 (0), PV.int IntKind.u8 (0), PV.int IntKind.u8 (0), PV.int IntKind.u8 (0), PV.int IntKind.u8 (0), PV.int IntKind.u8 (0), PV.int IntKind.u8 (0), PV.int IntKind.u8 (0), PV.int IntKind.u8 (0), PV.int IntKind.u8 (0), PV.int IntKind.u8 (0), PV.int IntKind.u8 (0), PV.int IntKind.u8 (0), PV.int IntKind.u8 (0), PV.int IntKind.u8 (0), PV.int IntKind.u8 (0)], false⟩ := by kernel_rfl
theorem ty232 : tyOf Tryz.prog 232 = ⟨Kd.struct [(17, 0), (17, 1), (17, 2), (9, 3)], true, 4, 40, some [PV.nilP, PV.nilP, PV.nilP, PV.str []], false⟩ := by kernel_rfl
theorem ty233 : tyOf Tryz.prog 233 = ⟨Kd.struct [(17, 0), (17, 1), (17, 2), (9, 3)], true, 4, 40, some [PV.nilP, PV.nilP, PV.nilP, PV.str []], false⟩ := by kernel_rfl
theorem ty234 : tyOf Tryz.prog 234 = ⟨Kd.other, true, 0, 0, some [], false⟩ := by kernel_rfl
theorem ty235 : tyOf Tryz.prog 235 = ⟨Kd.struct [(234, 0)], true, 0, 0, some [], false⟩ := by kernel_rfl
theorem ty236 : tyOf Tryz.prog 236 = ⟨Kd.struct [(234, 0)], true, 0, 0, some [], false⟩ := by kernel_rfl
theorem ty237 : tyOf Tryz.prog 237 = ⟨Kd.int IntKind.u8, false, 1, 1, some [PV.int IntKind.u8 (0)], false⟩ := by kernel_rfl
theorem ty238 : tyOf Tryz.prog 238 = ⟨Kd.int IntKind.u8, false, 1, 1, some [PV.int IntKind.u8 (0)], false⟩ := by kernel_rfl
theorem ty239 : tyOf Tryz.prog 239 = ⟨Kd.other, false, 1, 8, some [PV.nilF], false⟩ := by kernel_rfl
theorem ty240 : tyOf Tryz.prog 240 = ⟨Kd.int IntKind.i32, false, 1, 4, some [PV.int IntKind.i32 (0)], false⟩ := by kernel_rfl
theorem ty241 : tyOf Tryz.prog 241 = ⟨Kd.int IntKind.i32, false, 1, 4, some [PV.int IntKind.i32 (0)], false⟩ := by kernel_rfl
theorem ty242 : tyOf Tryz.prog 242 = ⟨Kd.struct [(12, 0), (12, 1), (222, 2), (237, 3), (5, 4), (5, 5), (238, 6), (239, 7), (150, 8), (240, 9), (241, 10)], true, 11, 48, some [PV.int IntKind.u64 (0), PV.int IntKind.u64 (0), PV.int IntKind.u32 (0), PV.int IntKind.u8 (0), PV.int IntKind.u8 (0), PV.int IntKind.u8 (0), PV.int IntKind.u8 (0), PV.nilF, PV.nilP, PV.int IntKind.i32 (0), PV.int IntKind.i32 (0)], false⟩ := by kernel_rfl
theorem ty243 : tyOf Tryz.prog 243 = ⟨Kd.struct [(12, 0), (12, 1), (222, 2), (237, 3), (5, 4), (5, 5), (238, 6), (239, 7), (150, 8), (240, 9), (241, 10)], true, 11, 48, some [PV.int IntKind.u64 (0), PV.int IntKind.u64 (0), PV.int IntKind.u32 (0), PV.int IntKind.u8 (0), PV.int IntKind.u8 (0), PV.int IntKind.u8 (0), PV.int IntKind.u8 (0), PV.nilF, PV.nilP, PV.int IntKind.i32 (0), PV.int IntKind.i32 (0)], false⟩ := by kernel_rfl
theorem mixed : Tryz.prog.follows .mixedOrders = true := by kernel_rfl
end Go.Proofs.YtclohbgnaopjfaaGreatDoor
