/- The types of the program, in short. -/
import Derived.Test.YtclohbgnaopjfaaDoorProg
import Derived.Test.YtclohbgnaopjfaaDoorAw24
import Derived.KernelRfl
namespace Go.Proofs.YtclohbgnaopjfaaDoor
set_option linter.unusedSimpArgs false
set_option linter.unusedVariables false
open Go
theorem ty0 : tyOf Tryd.prog 0 = ⟨Kd.other, false, 1, 0, some [PV.undef], false⟩ := by kernel_rfl
theorem ty1 : tyOf Tryd.prog 1 = ⟨Kd.other, false, 1, 8, some [PV.nilF], false⟩ := by kernel_rfl
theorem ty2 : tyOf Tryd.prog 2 = ⟨Kd.int IntKind.i64, false, 1, 8, some [PV.int IntKind.i64 (0)], false⟩ := by kernel_rfl
theorem ty3 : tyOf Tryd.prog 3 = ⟨Kd.int IntKind.i64, false, 1, 8, some [PV.int IntKind.i64 (0)], false⟩ := by kernel_rfl
theorem ty4 : tyOf Tryd.prog 4 = ⟨Kd.bool, false, 1, 1, some [PV.bool false], false⟩ := by kernel_rfl
theorem ty5 : tyOf Tryd.prog 5 = ⟨Kd.int IntKind.u8, false, 1, 1, some [PV.int IntKind.u8 (0)], false⟩ := by kernel_rfl
theorem ty6 : tyOf Tryd.prog 6 = ⟨Kd.int IntKind.u8, false, 1, 1, some [PV.int IntKind.u8 (0)], false⟩ := by kernel_rfl
theorem ty7 : tyOf Tryd.prog 7 = ⟨Kd.struct [(2, 0), (3, 1), (4, 2), (6, 3)], true, 4, 24, some [PV.int IntKind.i64 (0), PV.int IntKind.i64 (0), PV.bool false, PV.int IntKind.u8 (0)], true⟩ := by kernel_rfl
theorem ty8 : tyOf Tryd.prog 8 = ⟨Kd.struct [(2, 0), (3, 1), (4, 2), (6, 3)], true, 4, 24, some [PV.int IntKind.i64 (0), PV.int IntKind.i64 (0), PV.bool false, PV.int IntKind.u8 (0)], true⟩ := by kernel_rfl
theorem ty9 : tyOf Tryd.prog 9 = ⟨Kd.str, false, 1, 16, some [PV.str []], false⟩ := by kernel_rfl
theorem ty10 : tyOf Tryd.prog 10 = ⟨Kd.str, false, 1, 16, some [PV.str []], false⟩ := by kernel_rfl
theorem ty11 : tyOf Tryd.prog 11 = ⟨Kd.str, false, 1, 16, some [PV.str []], false⟩ := by kernel_rfl
theorem ty12 : tyOf Tryd.prog 12 = ⟨Kd.int IntKind.u64, false, 1, 8, some [PV.int IntKind.u64 (0)], false⟩ := by kernel_rfl
theorem ty13 : tyOf Tryd.prog 13 = ⟨Kd.struct [(9, 0), (12, 1)], true, 2, 24, some [PV.str [], PV.int IntKind.u64 (0)], false⟩ := by kernel_rfl
theorem ty14 : tyOf Tryd.prog 14 = ⟨Kd.struct [(9, 0), (12, 1)], true, 2, 24, some [PV.str [], PV.int IntKind.u64 (0)], false⟩ := by kernel_rfl
theorem ty15 : tyOf Tryd.prog 15 = ⟨Kd.other, false, 1, 8, some [PV.nilP], false⟩ := by kernel_rfl
theorem ty16 : tyOf Tryd.prog 16 = ⟨Kd.other, false, 1, 8, some [PV.nilP], false⟩ := by kernel_rfl
theorem ty17 : tyOf Tryd.prog 17 = ⟨Kd.other, false, 1, 8, some [PV.nilP], false⟩ := by kernel_rfl
theorem ty18 : tyOf Tryd.prog 18 = ⟨Kd.struct [(17, 0)], true, 1, 8, some [PV.nilP], false⟩ := by kernel_rfl
theorem ty19 : tyOf Tryd.prog 19 = ⟨Kd.struct [(17, 0)], true, 1, 8, some [PV.nilP], false⟩ := by kernel_rfl
theorem ty20 : tyOf Tryd.prog 20 = ⟨Kd.iface, false, 1, 16, some [PV.nilI], false⟩ := by kernel_rfl
theorem ty21 : tyOf Tryd.prog 21 = ⟨Kd.int IntKind.i32, false, 1, 4, some [PV.int IntKind.i32 (0)], false⟩ := by kernel_rfl
theorem ty22 : tyOf Tryd.prog 22 = ⟨Kd.slice 73, false, 1, 24, some [PV.nilS], false⟩ := by kernel_rfl
theorem ty23 : tyOf Tryd.prog 23 = ⟨Kd.other, false, 1, 8, some [PV.nilF], false⟩ := by kernel_rfl
theorem ty24 : tyOf Tryd.prog 24 = ⟨Kd.slice 9, false, 1, 24, some [PV.nilS], false⟩ := by kernel_rfl
theorem ty25 : tyOf Tryd.prog 25 = ⟨Kd.slice 83, false, 1, 24, some [PV.nilS], false⟩ := by kernel_rfl
theorem ty26 : tyOf Tryd.prog 26 = ⟨Kd.slice 28, false, 1, 24, some [PV.nilS], false⟩ := by kernel_rfl
theorem ty27 : tyOf Tryd.prog 27 = ⟨Kd.struct [(9, 0), (9, 1), (24, 2), (25, 3), (26, 4)], true, 5, 104, some [PV.str [], PV.str [], PV.nilS, PV.nilS, PV.nilS], true⟩ := by kernel_rfl
theorem ty28 : tyOf Tryd.prog 28 = ⟨Kd.struct [(9, 0), (9, 1), (24, 2), (25, 3), (26, 4)], true, 5, 104, some [PV.str [], PV.str [], PV.nilS, PV.nilS, PV.nilS], true⟩ := by kernel_rfl
theorem ty29 : tyOf Tryd.prog 29 = ⟨Kd.other, false, 1, 8, some [PV.nilF], false⟩ := by kernel_rfl
theorem ty30 : tyOf Tryd.prog 30 = ⟨Kd.slice 39, false, 1, 24, some [PV.nilS], false⟩ := by kernel_rfl
theorem ty31 : tyOf Tryd.prog 31 = ⟨Kd.int IntKind.i64, false, 1, 8, some [PV.int IntKind.i64 (0)], false⟩ := by kernel_rfl
theorem ty32 : tyOf Tryd.prog 32 = ⟨Kd.other, false, 1, 0, some [PV.undef], false⟩ := by kernel_rfl
theorem ty33 : tyOf Tryd.prog 33 = ⟨Kd.other, false, 1, 8, some [PV.nilF], false⟩ := by kernel_rfl
theorem ty34 : tyOf Tryd.prog 34 = ⟨Kd.other, false, 1, 0, some [PV.undef], false⟩ := by kernel_rfl
theorem ty35 : tyOf Tryd.prog 35 = ⟨Kd.other, false, 1, 8, some [PV.nilF], false⟩ := by kernel_rfl
theorem ty36 : tyOf Tryd.prog 36 = ⟨Kd.other, false, 1, 8, some [PV.nilF], false⟩ := by kernel_rfl
theorem ty37 : tyOf Tryd.prog 37 = ⟨Kd.other, false, 1, 8, some [PV.nilF], false⟩ := by kernel_rfl
theorem ty38 : tyOf Tryd.prog 38 = ⟨Kd.struct [(5, 0), (3, 1), (3, 2), (26, 3), (9, 4), (9, 5)], true, 6, 80, some [PV.int IntKind.u8 (0), PV.int IntKind.i64 (0), PV.int IntKind.i64 (0), PV.nilS, PV.str [], PV.str []], true⟩ := by kernel_rfl
theorem ty39 : tyOf Tryd.prog 39 = ⟨Kd.struct [(5, 0), (3, 1), (3, 2), (26, 3), (9, 4), (9, 5)], true, 6, 80, some [PV.int IntKind.u8 (0), PV.int IntKind.i64 (0), PV.int IntKind.i64 (0), PV.nilS, PV.str [], PV.str []], true⟩ := by kernel_rfl
theorem ty40 : tyOf Tryd.prog 40 = ⟨Kd.other, false, 1, 8, some [PV.nilF], false⟩ := by kernel_rfl
theorem ty41 : tyOf Tryd.prog 41 = ⟨Kd.other, false, 1, 8, some [PV.nilF], false⟩ := by kernel_rfl
theorem ty42 : tyOf Tryd.prog 42 = ⟨Kd.other, false, 1, 8, some [PV.nilF], false⟩ := by kernel_rfl
theorem ty43 : tyOf Tryd.prog 43 = ⟨Kd.other, false, 1, 0, some [PV.undef], false⟩ := by kernel_rfl
theorem ty44 : tyOf Tryd.prog 44 = ⟨Kd.other, false, 1, 8, some [PV.nilF], false⟩ := by kernel_rfl
theorem ty45 : tyOf Tryd.prog 45 = ⟨Kd.other, false, 1, 8, some [PV.nilF], false⟩ := by kernel_rfl
theorem ty46 : tyOf Tryd.prog 46 = ⟨Kd.other, false, 1, 8, some [PV.nilF], false⟩ := by kernel_rfl
theorem ty47 : tyOf Tryd.prog 47 = ⟨Kd.struct [(5, 0), (3, 1), (3, 2), (26, 3), (9, 4), (9, 5)], true, 6, 80, some [PV.int IntKind.u8 (0), PV.int IntKind.i64 (0), PV.int IntKind.i64 (0), PV.nilS, PV.str [], PV.str []], true⟩ := by kernel_rfl
theorem ty48 : tyOf Tryd.prog 48 = ⟨Kd.other, false, 1, 8, some [PV.nilF], false⟩ := by kernel_rfl
theorem ty49 : tyOf Tryd.prog 49 = ⟨Kd.other, false, 1, 8, some [PV.nilF], false⟩ := by kernel_rfl
theorem ty50 : tyOf Tryd.prog 50 = ⟨Kd.slice 108, false, 1, 24, some [PV.nilS], false⟩ := by kernel_rfl
theorem ty51 : tyOf Tryd.prog 51 = ⟨Kd.other, false, 1, 8, some [PV.nilF], false⟩ := by kernel_rfl
theorem ty52 : tyOf Tryd.prog 52 = ⟨Kd.other, false, 1, 8, some [PV.nilF], false⟩ := by kernel_rfl
theorem ty53 : tyOf Tryd.prog 53 = ⟨Kd.other, false, 1, 8, some [PV.nilF], false⟩ := by kernel_rfl
theorem ty54 : tyOf Tryd.prog 54 = ⟨Kd.other, false, 1, 8, some [PV.nilF], false⟩ := by kernel_rfl
theorem ty55 : tyOf Tryd.prog 55 = ⟨Kd.other, false, 1, 8, some [PV.nilF], false⟩ := by kernel_rfl
theorem ty56 : tyOf Tryd.prog 56 = ⟨Kd.other, false, 1, 8, some [PV.nilF], false⟩ := by kernel_rfl
theorem ty57 : tyOf Tryd.prog 57 = ⟨Kd.slice 3, false, 1, 24, some [PV.nilS], false⟩ := by kernel_rfl
theorem ty58 : tyOf Tryd.prog 58 = ⟨Kd.other, false, 1, 8, some [PV.nilF], false⟩ := by kernel_rfl
theorem ty59 : tyOf Tryd.prog 59 = ⟨Kd.other, false, 1, 8, some [PV.nilF], false⟩ := by kernel_rfl
theorem ty60 : tyOf Tryd.prog 60 = ⟨Kd.other, false, 1, 0, some [PV.undef], false⟩ := by kernel_rfl
theorem ty61 : tyOf Tryd.prog 61 = ⟨Kd.other, false, 1, 8, some [PV.nilF], false⟩ := by kernel_rfl
theorem ty62 : tyOf Tryd.prog 62 = ⟨Kd.slice 92, false, 1, 24, some [PV.nilS], false⟩ := by kernel_rfl
theorem ty63 : tyOf Tryd.prog 63 = ⟨Kd.slice 92, false, 1, 24, some [PV.nilS], false⟩ := by kernel_rfl
theorem ty64 : tyOf Tryd.prog 64 = ⟨Kd.other, false, 1, 8, some [PV.nilF], false⟩ := by kernel_rfl
theorem ty65 : tyOf Tryd.prog 65 = ⟨Kd.slice 21, false, 1, 24, some [PV.nilS], false⟩ := by kernel_rfl
theorem ty66 : tyOf Tryd.prog 66 = ⟨Kd.other, false, 1, 8, some [PV.nilF], false⟩ := by kernel_rfl
theorem ty67 : tyOf Tryd.prog 67 = ⟨Kd.other, false, 1, 8, some [PV.nilF], false⟩ := by kernel_rfl
theorem ty68 : tyOf Tryd.prog 68 = ⟨Kd.other, false, 1, 8, some [PV.nilF], false⟩ := by kernel_rfl
theorem ty69 : tyOf Tryd.prog 69 = ⟨Kd.other, false, 1, 8, some [PV.nilF], false⟩ := by kernel_rfl
theorem ty70 : tyOf Tryd.prog 70 = ⟨Kd.other, false, 1, 8, some [PV.nilF], false⟩ := by kernel_rfl
theorem ty71 : tyOf Tryd.prog 71 = ⟨Kd.other, false, 1, 8, some [PV.nilF], false⟩ := by kernel_rfl
theorem ty72 : tyOf Tryd.prog 72 = ⟨Kd.struct [(3, 0), (3, 1), (3, 2), (3, 3)], true, 4, 32, some [PV.int IntKind.i64 (0), PV.int IntKind.i64 (0), PV.int IntKind.i64 (0), PV.int IntKind.i64 (0)], true⟩ := by kernel_rfl
theorem ty73 : tyOf Tryd.prog 73 = ⟨Kd.struct [(3, 0), (3, 1), (3, 2), (3, 3)], true, 4, 32, some [PV.int IntKind.i64 (0), PV.int IntKind.i64 (0), PV.int IntKind.i64 (0), PV.int IntKind.i64 (0)], true⟩ := by kernel_rfl
theorem ty74 : tyOf Tryd.prog 74 = ⟨Kd.other, false, 1, 8, some [PV.nilF], false⟩ := by kernel_rfl
theorem ty75 : tyOf Tryd.prog 75 = ⟨Kd.other, false, 1, 8, some [PV.nilP], false⟩ := by kernel_rfl
theorem ty76 : tyOf Tryd.prog 76 = ⟨Kd.other, false, 1, 8, some [PV.nilF], false⟩ := by kernel_rfl
theorem ty77 : tyOf Tryd.prog 77 = ⟨Kd.struct [(28, 0), (28, 5), (57, 10), (3, 11), (3, 12), (3, 13), (3, 14), (30, 15)], true, 16, 288, some [PV.str [], PV.str [], PV.nilS, PV.nilS, PV.nilS, PV.str [], PV.str [], PV.nilS, PV.nilS, PV.nilS, PV.nilS, PV.int IntKind.i64 (0), PV.int IntKind.i64 (0), PV.int IntKind.i64 (0), PV.int IntKind.i64 (0), PV.nilS], false⟩ := by kernel_rfl
theorem ty78 : tyOf Tryd.prog 78 = ⟨Kd.struct [(28, 0), (28, 5), (57, 10), (3, 11), (3, 12), (3, 13), (3, 14), (30, 15)], true, 16, 288, some [PV.str [], PV.str [], PV.nilS, PV.nilS, PV.nilS, PV.str [], PV.str [], PV.nilS, PV.nilS, PV.nilS, PV.nilS, PV.int IntKind.i64 (0), PV.int IntKind.i64 (0), PV.int IntKind.i64 (0), PV.int IntKind.i64 (0), PV.nilS], false⟩ := by kernel_rfl
theorem ty79 : tyOf Tryd.prog 79 = ⟨Kd.other, false, 1, 8, some [PV.nilF], false⟩ := by kernel_rfl
theorem ty80 : tyOf Tryd.prog 80 = ⟨Kd.other, false, 1, 8, some [PV.nilF], false⟩ := by kernel_rfl
theorem ty81 : tyOf Tryd.prog 81 = ⟨Kd.other, false, 1, 8, some [PV.nilF], false⟩ := by kernel_rfl
theorem ty82 : tyOf Tryd.prog 82 = ⟨Kd.struct [(9, 0), (9, 1)], true, 2, 32, some [PV.str [], PV.str []], true⟩ := by kernel_rfl
theorem ty83 : tyOf Tryd.prog 83 = ⟨Kd.struct [(9, 0), (9, 1)], true, 2, 32, some [PV.str [], PV.str []], true⟩ := by kernel_rfl
theorem ty84 : tyOf Tryd.prog 84 = ⟨Kd.other, false, 1, 8, some [PV.nilF], false⟩ := by kernel_rfl
theorem ty85 : tyOf Tryd.prog 85 = ⟨Kd.other, false, 1, 0, some [PV.undef], false⟩ := by kernel_rfl
theorem ty86 : tyOf Tryd.prog 86 = ⟨Kd.other, false, 1, 8, some [PV.nilF], false⟩ := by kernel_rfl
theorem ty87 : tyOf Tryd.prog 87 = ⟨Kd.other, false, 1, 0, some [PV.undef], false⟩ := by kernel_rfl
theorem ty88 : tyOf Tryd.prog 88 = ⟨Kd.other, false, 1, 8, some [PV.nilF], false⟩ := by kernel_rfl
theorem ty89 : tyOf Tryd.prog 89 = ⟨Kd.other, false, 1, 0, some [PV.undef], false⟩ := by kernel_rfl
theorem ty90 : tyOf Tryd.prog 90 = ⟨Kd.other, false, 1, 8, some [PV.nilF], false⟩ := by kernel_rfl
theorem ty91 : tyOf Tryd.prog 91 = ⟨Kd.struct [(3, 0), (3, 1), (3, 2)], true, 3, 24, some [PV.int IntKind.i64 (0), PV.int IntKind.i64 (0), PV.int IntKind.i64 (0)], true⟩ := by kernel_rfl
theorem ty92 : tyOf Tryd.prog 92 = ⟨Kd.struct [(3, 0), (3, 1), (3, 2)], true, 3, 24, some [PV.int IntKind.i64 (0), PV.int IntKind.i64 (0), PV.int IntKind.i64 (0)], true⟩ := by kernel_rfl
theorem ty93 : tyOf Tryd.prog 93 = ⟨Kd.other, false, 1, 8, some [PV.nilF], false⟩ := by kernel_rfl
theorem ty94 : tyOf Tryd.prog 94 = ⟨Kd.other, false, 1, 8, some [PV.nilF], false⟩ := by kernel_rfl
theorem ty95 : tyOf Tryd.prog 95 = ⟨Kd.other, false, 1, 8, some [PV.nilF], false⟩ := by kernel_rfl
theorem ty96 : tyOf Tryd.prog 96 = ⟨Kd.other, false, 1, 8, some [PV.nilF], false⟩ := by kernel_rfl
theorem ty97 : tyOf Tryd.prog 97 = ⟨Kd.other, false, 1, 8, some [PV.nilF], false⟩ := by kernel_rfl
theorem ty98 : tyOf Tryd.prog 98 = ⟨Kd.other, false, 1, 8, some [PV.nilP], false⟩ := by kernel_rfl
theorem ty99 : tyOf Tryd.prog 99 = ⟨Kd.slice 5, false, 1, 24, some [PV.nilS], false⟩ := by kernel_rfl
theorem ty100 : tyOf Tryd.prog 100 = ⟨Kd.struct [(98, 0), (99, 1)], true, 2, 32, some [PV.nilP, PV.nilS], true⟩ := by kernel_rfl
theorem ty101 : tyOf Tryd.prog 101 = ⟨Kd.struct [(98, 0), (99, 1)], true, 2, 32, some [PV.nilP, PV.nilS], true⟩ := by kernel_rfl
theorem ty102 : tyOf Tryd.prog 102 = ⟨Kd.iface, false, 1, 16, some [PV.nilI], false⟩ := by kernel_rfl
theorem ty103 : tyOf Tryd.prog 103 = ⟨Kd.iface, false, 1, 16, some [PV.nilI], false⟩ := by kernel_rfl
theorem ty104 : tyOf Tryd.prog 104 = ⟨Kd.other, false, 1, 0, some [PV.undef], false⟩ := by kernel_rfl
theorem ty105 : tyOf Tryd.prog 105 = ⟨Kd.other, false, 1, 8, some [PV.nilF], false⟩ := by kernel_rfl
theorem ty106 : tyOf Tryd.prog 106 = ⟨Kd.other, false, 1, 8, some [PV.nilF], false⟩ := by kernel_rfl
theorem ty107 : tyOf Tryd.prog 107 = ⟨Kd.other, false, 1, 8, some [PV.nilF], false⟩ := by kernel_rfl
theorem ty108 : tyOf Tryd.prog 108 = ⟨Kd.struct [(3, 0), (3, 1), (3, 2), (3, 3)], true, 4, 32, some [PV.int IntKind.i64 (0), PV.int IntKind.i64 (0), PV.int IntKind.i64 (0), PV.int IntKind.i64 (0)], true⟩ := by kernel_rfl
theorem ty109 : tyOf Tryd.prog 109 = ⟨Kd.other, false, 1, 8, some [PV.nilF], false⟩ := by kernel_rfl
theorem ty110 : tyOf Tryd.prog 110 = ⟨Kd.other, false, 1, 8, some [PV.nilF], false⟩ := by kernel_rfl
theorem ty111 : tyOf Tryd.prog 111 = ⟨Kd.other, false, 1, 8, some [PV.nilF], false⟩ := by kernel_rfl
theorem ty112 : tyOf Tryd.prog 112 = ⟨Kd.other, false, 1, 8, some [PV.nilF], false⟩ := by kernel_rfl
theorem ty113 : tyOf Tryd.prog 113 = ⟨Kd.other, false, 1, 8, some [PV.nilF], false⟩ := by kernel_rfl
theorem ty114 : tyOf Tryd.prog 114 = ⟨Kd.other, false, 1, 8, some [PV.nilF], false⟩ := by kernel_rfl
theorem ty115 : tyOf Tryd.prog 115 = ⟨Kd.other, false, 1, 8, some [PV.nilF], false⟩ := by kernel_rfl
theorem ty116 : tyOf Tryd.prog 116 = ⟨Kd.other, false, 1, 8, some [PV.nilF], false⟩ := by kernel_rfl
theorem ty117 : tyOf Tryd.prog 117 = ⟨Kd.other, false, 1, 8, some [PV.nilF], false⟩ := by kernel_rfl
theorem ty118 : tyOf Tryd.prog 118 = ⟨Kd.other, false, 1, 8, some [PV.nilF], false⟩ := by kernel_rfl
theorem ty119 : tyOf Tryd.prog 119 = ⟨Kd.other, false, 1, 8, some [PV.nilF], false⟩ := by kernel_rfl
theorem ty120 : tyOf Tryd.prog 120 = ⟨Kd.other, false, 1, 8, some [PV.nilF], false⟩ := by kernel_rfl
theorem ty121 : tyOf Tryd.prog 121 = ⟨Kd.other, false, 1, 8, some [PV.nilF], false⟩ := by kernel_rfl
theorem ty122 : tyOf Tryd.prog 122 = ⟨Kd.struct [(57, 0), (28, 1), (3, 6), (3, 7)], true, 8, 144, some [PV.nilS, PV.str [], PV.str [], PV.nilS, PV.nilS, PV.nilS, PV.int IntKind.i64 (0), PV.int IntKind.i64 (0)], false⟩ := by kernel_rfl
theorem ty123 : tyOf Tryd.prog 123 = ⟨Kd.struct [(57, 0), (28, 1), (3, 6), (3, 7)], true, 8, 144, some [PV.nilS, PV.str [], PV.str [], PV.nilS, PV.nilS, PV.nilS, PV.int IntKind.i64 (0), PV.int IntKind.i64 (0)], false⟩ := by kernel_rfl
theorem ty124 : tyOf Tryd.prog 124 = ⟨Kd.other, false, 1, 0, some [PV.undef], false⟩ := by kernel_rfl
theorem ty125 : tyOf Tryd.prog 125 = ⟨Kd.other, false, 1, 8, some [PV.nilF], false⟩ := by kernel_rfl
theorem ty126 : tyOf Tryd.prog 126 = ⟨Kd.other, false, 1, 0, some [PV.undef], false⟩ := by kernel_rfl
theorem ty127 : tyOf Tryd.prog 127 = ⟨Kd.other, false, 1, 8, some [PV.nilF], false⟩ := by kernel_rfl
theorem ty128 : tyOf Tryd.prog 128 = ⟨Kd.other, false, 1, 0, some [PV.undef], false⟩ := by kernel_rfl
theorem ty129 : tyOf Tryd.prog 129 = ⟨Kd.other, false, 1, 8, some [PV.nilF], false⟩ := by kernel_rfl
theorem ty130 : tyOf Tryd.prog 130 = ⟨Kd.other, false, 1, 8, some [PV.nilF], false⟩ := by kernel_rfl
theorem ty131 : tyOf Tryd.prog 131 = ⟨Kd.other, false, 1, 8, some [PV.nilF], false⟩ := by kernel_rfl
theorem ty132 : tyOf Tryd.prog 132 = ⟨Kd.other, false, 1, 8, some [PV.nilF], false⟩ := by kernel_rfl
theorem ty133 : tyOf Tryd.prog 133 = ⟨Kd.other, false, 1, 8, some [PV.nilF], false⟩ := by kernel_rfl
theorem ty134 : tyOf Tryd.prog 134 = ⟨Kd.other, false, 1, 8, some [PV.nilP], false⟩ := by kernel_rfl
theorem ty135 : tyOf Tryd.prog 135 = ⟨Kd.struct [(39, 0), (62, 6)], true, 7, 104, some [PV.int IntKind.u8 (0), PV.int IntKind.i64 (0), PV.int IntKind.i64 (0), PV.nilS, PV.str [], PV.str [], PV.nilS], false⟩ := by kernel_rfl
theorem ty136 : tyOf Tryd.prog 136 = ⟨Kd.struct [(39, 0), (62, 6)], true, 7, 104, some [PV.int IntKind.u8 (0), PV.int IntKind.i64 (0), PV.int IntKind.i64 (0), PV.nilS, PV.str [], PV.str [], PV.nilS], false⟩ := by kernel_rfl
theorem ty137 : tyOf Tryd.prog 137 = ⟨Kd.other, false, 1, 8, some [PV.nilF], false⟩ := by kernel_rfl
theorem ty138 : tyOf Tryd.prog 138 = ⟨Kd.other, false, 1, 8, some [PV.nilF], false⟩ := by kernel_rfl
theorem ty139 : tyOf Tryd.prog 139 = ⟨Kd.other, false, 1, 8, some [PV.nilF], false⟩ := by kernel_rfl
theorem ty140 : tyOf Tryd.prog 140 = ⟨Kd.other, false, 1, 8, some [PV.nilF], false⟩ := by kernel_rfl
theorem ty141 : tyOf Tryd.prog 141 = ⟨Kd.other, false, 1, 8, some [PV.nilF], false⟩ := by kernel_rfl
theorem ty142 : tyOf Tryd.prog 142 = ⟨Kd.other, false, 1, 8, some [PV.nilF], false⟩ := by kernel_rfl
theorem ty143 : tyOf Tryd.prog 143 = ⟨Kd.other, false, 1, 8, some [PV.nilF], false⟩ := by kernel_rfl
theorem ty144 : tyOf Tryd.prog 144 = ⟨Kd.other, false, 1, 8, some [PV.nilP], false⟩ := by kernel_rfl
theorem ty145 : tyOf Tryd.prog 145 = ⟨Kd.other, false, 1, 8, some [PV.nilF], false⟩ := by kernel_rfl
theorem ty146 : tyOf Tryd.prog 146 = ⟨Kd.other, false, 1, 8, some [PV.nilF], false⟩ := by kernel_rfl
theorem ty147 : tyOf Tryd.prog 147 = ⟨Kd.other, false, 1, 8, some [PV.nilF], false⟩ := by kernel_rfl
theorem ty148 : tyOf Tryd.prog 148 = ⟨Kd.struct [(57, 0), (3, 1), (3, 2)], true, 3, 40, some [PV.nilS, PV.int IntKind.i64 (0), PV.int IntKind.i64 (0)], true⟩ := by kernel_rfl
theorem ty149 : tyOf Tryd.prog 149 = ⟨Kd.struct [(57, 0), (3, 1), (3, 2)], true, 3, 40, some [PV.nilS, PV.int IntKind.i64 (0), PV.int IntKind.i64 (0)], true⟩ := by kernel_rfl
theorem ty150 : tyOf Tryd.prog 150 = ⟨Kd.other, false, 1, 0, some [PV.undef], false⟩ := by kernel_rfl
theorem ty151 : tyOf Tryd.prog 151 = ⟨Kd.other, false, 1, 8, some [PV.nilF], false⟩ := by kernel_rfl
theorem ty152 : tyOf Tryd.prog 152 = ⟨Kd.other, false, 1, 8, some [PV.nilF], false⟩ := by kernel_rfl
theorem ty153 : tyOf Tryd.prog 153 = ⟨Kd.other, false, 1, 0, some [PV.undef], false⟩ := by kernel_rfl
theorem ty154 : tyOf Tryd.prog 154 = ⟨Kd.other, false, 1, 8, some [PV.nilF], false⟩ := by kernel_rfl
theorem ty155 : tyOf Tryd.prog 155 = ⟨Kd.other, false, 1, 8, some [PV.nilF], false⟩ := by kernel_rfl
theorem ty156 : tyOf Tryd.prog 156 = ⟨Kd.other, false, 1, 8, some [PV.nilF], false⟩ := by kernel_rfl
theorem ty157 : tyOf Tryd.prog 157 = ⟨Kd.other, false, 1, 8, some [PV.nilF], false⟩ := by kernel_rfl
theorem ty158 : tyOf Tryd.prog 158 = ⟨Kd.slice 26, false, 1, 24, some [PV.nilS], false⟩ := by kernel_rfl
theorem ty159 : tyOf Tryd.prog 159 = ⟨Kd.other, false, 1, 8, some [PV.nilF], false⟩ := by kernel_rfl
theorem ty160 : tyOf Tryd.prog 160 = ⟨Kd.other, false, 1, 8, some [PV.nilF], false⟩ := by kernel_rfl
theorem ty161 : tyOf Tryd.prog 161 = ⟨Kd.other, false, 1, 8, some [PV.nilF], false⟩ := by kernel_rfl
theorem ty162 : tyOf Tryd.prog 162 = ⟨Kd.other, false, 1, 8, some [PV.nilP], false⟩ := by kernel_rfl
theorem ty163 : tyOf Tryd.prog 163 = ⟨Kd.other, false, 1, 8, some [PV.nilF], false⟩ := by kernel_rfl
theorem ty164 : tyOf Tryd.prog 164 = ⟨Kd.other, false, 1, 8, some [PV.nilF], false⟩ := by kernel_rfl
theorem ty165 : tyOf Tryd.prog 165 = ⟨Kd.other, false, 1, 0, some [PV.undef], false⟩ := by kernel_rfl
theorem ty166 : tyOf Tryd.prog 166 = ⟨Kd.other, false, 1, 8, some [PV.nilF], false⟩ := by kernel_rfl
theorem ty167 : tyOf Tryd.prog 167 = ⟨Kd.other, false, 1, 8, some [PV.nilF], false⟩ := by kernel_rfl
theorem ty168 : tyOf Tryd.prog 168 = ⟨Kd.other, false, 1, 8, some [PV.nilF], false⟩ := by kernel_rfl
theorem ty169 : tyOf Tryd.prog 169 = ⟨Kd.other, false, 1, 8, some [PV.nilF], false⟩ := by kernel_rfl
theorem ty172 : tyOf Tryd.prog 172 = ⟨Kd.other, false, 1, 0, some [PV.undef], false⟩ := by kernel_rfl
theorem ty173 : tyOf Tryd.prog 173 = ⟨Kd.other, false, 1, 8, some [PV.nilF], false⟩ := by kernel_rfl
theorem ty174 : tyOf Tryd.prog 174 = ⟨Kd.other, false, 1, 8, some [PV.nilF], false⟩ := by kernel_rfl
theorem ty175 : tyOf Tryd.prog 175 = ⟨Kd.other, false, 1, 8, some [PV.nilP], false⟩ := by kernel_rfl
theorem ty176 : tyOf Tryd.prog 176 = ⟨Kd.other, false, 1, 8, some [PV.nilF], false⟩ := by kernel_rfl
theorem ty178 : tyOf Tryd.prog 178 = ⟨Kd.struct [(5, 0), (5, 1)], true, 2, 2, some [PV.int IntKind.u8 (0), PV.int IntKind.u8 (0)], true⟩ := by kernel_rfl
theorem ty179 : tyOf Tryd.prog 179 = ⟨Kd.struct [(5, 0), (5, 1)], true, 2, 2, some [PV.int IntKind.u8 (0), PV.int IntKind.u8 (0)], true⟩ := by kernel_rfl
theorem ty180 : tyOf Tryd.prog 180 = ⟨Kd.other, true, 32, 32, some [PV.int IntKind.u8 (0), PV.int IntKind.u8 (0), PV.int IntKind.u8 (0), PV.int IntKind.u8 (0), PV.int IntKind.u8 (0), PV.int IntKind.u8 (0), PV.int IntKind.u8 (0), PV.int IntKind.u8 (0), PV.int IntKind.u8 (0), PV.int IntKind.u8 (0), PV.int IntKind.u8 (0), PV.int IntKind.u8 (0), PV.int IntKind.u8 (0), PV.int IntKind.u8 (0), PV.int IntKind.u8 (0), PV.int IntKind.u8 (0), PV.int IntKind.u8 (0), PV.int IntKind.u8 (0), PV.int IntKind.u8 (0), PV.int IntKind.u8 (0), PV.int IntKind.u8 (0), PV.int IntKind.u8 (0), PV.int IntKind.u8 (0), PV.int IntKind.u8 (0), PV.int IntKind.u8 (0), PV.int IntKind.u8 (0), PV.int IntKind.u8 (0), PV.int IntKind.u8 (0), PV.int IntKind.u8 (0), PV.int IntKind.u8 (0), PV.int IntKind.u8 (0), PV.int IntKind.u8 (0)], false⟩ := by kernel_rfl
theorem ty181 : tyOf Tryd.prog 181 = ⟨Kd.int IntKind.u64, false, 1, 8, some [PV.int IntKind.u64 (0)], false⟩ := by kernel_rfl
theorem ty182 : tyOf Tryd.prog 182 = ⟨Kd.other, false, 1, 8, some [PV.nilF], false⟩ := by kernel_rfl
theorem ty183 : tyOf Tryd.prog 183 = ⟨Kd.other, false, 1, 8, some [PV.nilF], false⟩ := by kernel_rfl
theorem ty184 : tyOf Tryd.prog 184 = ⟨Kd.other, false, 1, 0, some [PV.undef], false⟩ := by kernel_rfl
theorem ty185 : tyOf Tryd.prog 185 = ⟨Kd.other, false, 1, 8, some [PV.nilF], false⟩ := by kernel_rfl
theorem ty186 : tyOf Tryd.prog 186 = ⟨Kd.other, false, 1, 8, some [PV.nilF], false⟩ := by kernel_rfl
theorem ty187 : tyOf Tryd.prog 187 = ⟨Kd.other, false, 1, 8, some [PV.nilF], false⟩ := by kernel_rfl
theorem ty188 : tyOf Tryd.prog 188 = ⟨Kd.other, false, 1, 8, some [PV.nilF], false⟩ := by kernel_rfl
theorem ty189 : tyOf Tryd.prog 189 = ⟨Kd.other, false, 1, 0, some [PV.undef], false⟩ := by kernel_rfl
theorem ty190 : tyOf Tryd.prog 190 = ⟨Kd.other, false, 1, 8, some [PV.nilF], false⟩ := by kernel_rfl
theorem ty191 : tyOf Tryd.prog 191 = ⟨Kd.other, false, 1, 8, some [PV.nilF], false⟩ := by kernel_rfl
theorem ty192 : tyOf Tryd.prog 192 = ⟨Kd.int IntKind.u64, false, 1, 8, some [PV.int IntKind.u64 (0)], false⟩ := by kernel_rfl
theorem ty193 : tyOf Tryd.prog 193 = ⟨Kd.other, true, 24, 24, some [PV.int IntKind.u8 (0), PV.int IntKind.u8 (0), PV.int IntKind.u8 (0), PV.int IntKind.u8 (0), PV.int IntKind.u8 (0), PV.int IntKind.u8 (0), PV.int IntKind.u8 (0), PV.int IntKind.u8 (0), PV.int IntKind.u8 (0), PV.int IntKind.u8 (0), PV.int IntKind.u8 (0), PV.int IntKind.u8 (0), PV.int IntKind.u8 (0), PV.int IntKind.u8 (0), PV.int IntKind.u8 (0), PV.int IntKind.u8 (0), PV.int IntKind.u8 (0), PV.int IntKind.u8 (0), PV.int IntKind.u8 (0), PV.int IntKind.u8 (0), PV.int IntKind.u8 (0), PV.int IntKind.u8 (0), PV.int IntKind.u8 (0), PV.int IntKind.u8 (0)], false⟩ := by kernel_rfl
theorem ty194 : tyOf Tryd.prog 194 = ⟨Kd.other, false, 1, 8, some [PV.nilF], false⟩ := by kernel_rfl
theorem ty195 : tyOf Tryd.prog 195 = ⟨Kd.other, false, 1, 8, some [PV.nilF], false⟩ := by kernel_rfl
theorem ty196 : tyOf Tryd.prog 196 = ⟨Kd.other, false, 1, 0, some [PV.undef], false⟩ := by kernel_rfl
theorem ty197 : tyOf Tryd.prog 197 = ⟨Kd.other, false, 1, 8, some [PV.nilF], false⟩ := by kernel_rfl
theorem ty198 : tyOf Tryd.prog 198 = ⟨Kd.other, false, 1, 8, some [PV.nilF], false⟩ := by kernel_rfl
theorem ty199 : tyOf Tryd.prog 199 = ⟨Kd.other, false, 1, 8, some [PV.nilF], false⟩ := by kernel_rfl
theorem ty200 : tyOf Tryd.prog 200 = ⟨Kd.other, false, 1, 8, some [PV.nilF], false⟩ := by kernel_rfl
theorem ty201 : tyOf Tryd.prog 201 = ⟨Kd.other, false, 1, 8, some [PV.nilF], false⟩ := by kernel_rfl
theorem ty202 : tyOf Tryd.prog 202 = ⟨Kd.other, false, 1, 8, some [PV.nilF], false⟩ := by kernel_rfl
theorem ty203 : tyOf Tryd.prog 203 = ⟨Kd.other, false, 1, 8, some [PV.nilF], false⟩ := by kernel_rfl
theorem ty204 : tyOf Tryd.prog 204 = ⟨Kd.other, false, 1, 8, some [PV.nilF], false⟩ := by kernel_rfl
theorem ty205 : tyOf Tryd.prog 205 = ⟨Kd.other, true, 20, 160, some [PV.int IntKind.u64 (0), PV.int IntKind.u64 (0), PV.int IntKind.u64 (0), PV.int IntKind.u64 (0), PV.int IntKind.u64 (0), PV.int IntKind.u64 (0), PV.int IntKind.u64 (0), PV.int IntKind.u64 (0), PV.int IntKind.u64 (0), PV.int IntKind.u64 (0), PV.int IntKind.u64 (0), PV.int IntKind.u64 (0), PV.int IntKind.u64 (0), PV.int IntKind.u64 (0), PV.int IntKind.u64 (0), PV.int IntKind.u64 (0), PV.int IntKind.u64 (0), PV.int IntKind.u64 (0), PV.int IntKind.u64 (0), PV.int IntKind.u64 (0)], false⟩ := by kernel_rfl
theorem ty206 : tyOf Tryd.prog 206 = ⟨Kd.int IntKind.u32, false, 1, 4, some [PV.int IntKind.u32 (0)], false⟩ := by kernel_rfl
theorem ty208 : tyOf Tryd.prog 208 = ⟨Kd.other, false, 1, 8, some [PV.nilF], false⟩ := by kernel_rfl
theorem ty209 : tyOf Tryd.prog 209 = ⟨Kd.other, false, 1, 8, some [PV.nilF], false⟩ := by kernel_rfl
theorem ty210 : tyOf Tryd.prog 210 = ⟨Kd.other, false, 1, 8, some [PV.nilF], false⟩ := by kernel_rfl
theorem ty211 : tyOf Tryd.prog 211 = ⟨Kd.other, false, 1, 8, some [PV.nilF], false⟩ := by kernel_rfl
theorem ty212 : tyOf Tryd.prog 212 = ⟨Kd.other, false, 1, 8, some [PV.nilF], false⟩ := by kernel_rfl
theorem ty213 : tyOf Tryd.prog 213 = ⟨Kd.other, false, 1, 8, some [PV.nilF], false⟩ := by kernel_rfl
theorem ty214 : tyOf Tryd.prog 214 = ⟨Kd.other, true, 32, 32, some [PV.int IntKind.u8 (0), PV.int IntKind.u8 (0), PV.int IntKind.u8 (0), PV.int IntKind.u8 (0), PV.int IntKind.u8 (0), PV.int IntKind.u8 (0), PV.int IntKind.u8 (0), PV.int IntKind.u8 (0), PV.int IntKind.u8 (0), PV.int IntKind.u8 (0), PV.int IntKind.u8 (0), PV.int IntKind.u8 (0), PV.int IntKind.u8 (0), PV.int IntKind.u8 (0), PV.int IntKind.u8 (0), PV.int IntKind.u8 (0), PV.int IntKind.u8 (0), PV.int IntKind.u8 (0), PV.int IntKind.u8 (0), PV.int IntKind.u8 (0), PV.int IntKind.u8 (0), PV.int IntKind.u8 (0), PV.int IntKind.u8 (0), PV.int IntKind.u8 (0), PV.int IntKind.u8 (0), PV.int IntKind.u8 (0), PV.int IntKind.u8 (0), PV.int IntKind.u8 (0), PV.int IntKind.u8 (0), PV.int IntKind.u8 (0), PV.int IntKind.u8 (0), PV.int IntKind.u8 (0)], false⟩ := by kernel_rfl
theorem ty216 : tyOf Tryd.prog 216 = ⟨Kd.other, false, 1, 0, some [PV.undef], false⟩ := by kernel_rfl
theorem ty217 : tyOf Tryd.prog 217 = ⟨Kd.other, false, 1, 8, some [PV.nilF], false⟩ := by kernel_rfl
theorem ty218 : tyOf Tryd.prog 218 = ⟨Kd.struct [(17, 0), (17, 1), (17, 2), (9, 3)], true, 4, 40, some [PV.nilP, PV.nilP, PV.nilP, PV.str []], false⟩ := by kernel_rfl
theorem ty219 : tyOf Tryd.prog 219 = ⟨Kd.struct [(17, 0), (17, 1), (17, 2), (9, 3)], true, 4, 40, some [PV.nilP, PV.nilP, PV.nilP, PV.str []], false⟩ := by kernel_rfl
theorem ty220 : tyOf Tryd.prog 220 = ⟨Kd.other, true, 0, 0, some [], false⟩ := by kernel_rfl
theorem ty221 : tyOf Tryd.prog 221 = ⟨Kd.struct [(220, 0)], true, 0, 0, some [], false⟩ := by kernel_rfl
theorem ty222 : tyOf Tryd.prog 222 = ⟨Kd.struct [(220, 0)], true, 0, 0, some [], false⟩ := by kernel_rfl
theorem ty223 : tyOf Tryd.prog 223 = ⟨Kd.int IntKind.u8, false, 1, 1, some [PV.int IntKind.u8 (0)], false⟩ := by kernel_rfl
theorem ty224 : tyOf Tryd.prog 224 = ⟨Kd.int IntKind.u8, false, 1, 1, some [PV.int IntKind.u8 (0)], false⟩ := by kernel_rfl
theorem ty225 : tyOf Tryd.prog 225 = ⟨Kd.other, false, 1, 8, some [PV.nilF], false⟩ := by kernel_rfl
theorem ty226 : tyOf Tryd.prog 226 = ⟨Kd.int IntKind.i32, false, 1, 4, some [PV.int IntKind.i32 (0)], false⟩ := by kernel_rfl
theorem ty227 : tyOf Tryd.prog 227 = ⟨Kd.int IntKind.i32, false, 1, 4, some [PV.int IntKind.i32 (0)], false⟩ := by kernel_rfl
theorem ty228 : tyOf Tryd.prog 228 = ⟨Kd.struct [(12, 0), (12, 1), (206, 2), (223, 3), (5, 4), (5, 5), (224, 6), (225, 7), (144, 8), (226, 9), (227, 10)], true, 11, 48, some [PV.int IntKind.u64 (0), PV.int IntKind.u64 (0), PV.int IntKind.u32 (0), PV.int IntKind.u8 (0), PV.int IntKind.u8 (0), PV.int IntKind.u8 (0), PV.int IntKind.u8 (0), PV.nilF, PV.nilP, PV.int IntKind.i32 (0), PV.int IntKind.i32 (0)], false⟩ := by kernel_rfl
theorem ty229 : tyOf Tryd.prog 229 = ⟨Kd.struct [(12, 0), (12, 1), (206, 2), (223, 3), (5, 4), (5, 5), (224, 6), (225, 7), (144, 8), (226, 9), (227, 10)], true, 11, 48, some [PV.int IntKind.u64 (0), PV.int IntKind.u64 (0), PV.int IntKind.u32 (0), PV.int IntKind.u8 (0), PV.int IntKind.u8 (0), PV.int IntKind.u8 (0), PV.int IntKind.u8 (0), PV.nilF, PV.nilP, PV.int IntKind.i32 (0), PV.int IntKind.i32 (0)], false⟩ := by kernel_rfl
theorem mixed : Tryd.prog.follows .mixedOrders = true := by kernel_rfl
end Go.Proofs.YtclohbgnaopjfaaDoor
