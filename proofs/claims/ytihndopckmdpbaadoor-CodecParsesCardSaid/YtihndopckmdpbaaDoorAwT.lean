/- The types of the program, in short. -/
import Derived.Test.YtihndopckmdpbaaDoorProg
import Derived.Test.YtihndopckmdpbaaDoorAw24
import Derived.KernelRfl
namespace Go.Proofs.YtihndopckmdpbaaDoor
set_option linter.unusedSimpArgs false
set_option linter.unusedVariables false
open Go
theorem ty0 : tyOf Tryd.prog 0 = ⟨Kd.other, false, 1, 0, some [PV.undef], false⟩ := by kernel_rfl
theorem ty1 : tyOf Tryd.prog 1 = ⟨Kd.other, false, 1, 8, some [PV.nilF], false⟩ := by kernel_rfl
theorem ty2 : tyOf Tryd.prog 2 = ⟨Kd.int IntKind.i64, false, 1, 8, some [PV.int IntKind.i64 (0)], false⟩ := by kernel_rfl
theorem ty3 : tyOf Tryd.prog 3 = ⟨Kd.int IntKind.i64, false, 1, 8, some [PV.int IntKind.i64 (0)], false⟩ := by kernel_rfl
theorem ty4 : tyOf Tryd.prog 4 = ⟨Kd.bool, false, 1, 1, some [PV.bool false], false⟩ := by kernel_rfl
theorem ty5 : tyOf Tryd.prog 5 = ⟨Kd.int IntKind.u8, false, 1, 1, some [PV.int IntKind.u8 (0)], false⟩ := by kernel_rfl
theorem ty6 : tyOf Tryd.prog 6 = ⟨Kd.int IntKind.u8, false, 1, 1, some [PV.int IntKind.u8 (0)], false⟩ := by kernel_rfl
theorem ty7 : tyOf Tryd.prog 7 = ⟨Kd.struct [(2, 0), (3, 1), (4, 2), (6, 3)], true, 4, 24, some [PV.int IntKind.i64 (0), PV.int IntKind.i64 (0), PV.bool false, PV.int IntKind.u8 (0)], true⟩ := by kernel_rfl
theorem ty8 : tyOf Tryd.prog 8 = ⟨Kd.struct [(2, 0), (3, 1), (4, 2), (6, 3)], true, 4, 24, some [PV.int IntKind.i64 (0), PV.int IntKind.i64 (0), PV.bool false, PV.int IntKind.u8 (0)], true⟩ := by kernel_rfl
theorem ty9 : tyOf Tryd.prog 9 = ⟨Kd.str, false, 1, 16, some [PV.str []], false⟩ := by kernel_rfl
theorem ty10 : tyOf Tryd.prog 10 = ⟨Kd.str, false, 1, 16, some [PV.str []], false⟩ := by kernel_rfl
theorem ty11 : tyOf Tryd.prog 11 = ⟨Kd.str, false, 1, 16, some [PV.str []], false⟩ := by kernel_rfl
theorem ty12 : tyOf Tryd.prog 12 = ⟨Kd.int IntKind.u64, false, 1, 8, some [PV.int IntKind.u64 (0)], false⟩ := by kernel_rfl
theorem ty13 : tyOf Tryd.prog 13 = ⟨Kd.struct [(9, 0), (12, 1)], true, 2, 24, some [PV.str [], PV.int IntKind.u64 (0)], false⟩ := by kernel_rfl
theorem ty14 : tyOf Tryd.prog 14 = ⟨Kd.struct [(9, 0), (12, 1)], true, 2, 24, some [PV.str [], PV.int IntKind.u64 (0)], false⟩ := by kernel_rfl
theorem ty15 : tyOf Tryd.prog 15 = ⟨Kd.other, false, 1, 8, some [PV.nilP], false⟩ := by kernel_rfl
theorem ty16 : tyOf Tryd.prog 16 = ⟨Kd.other, false, 1, 8, some [PV.nilP], false⟩ := by kernel_rfl
theorem ty17 : tyOf Tryd.prog 17 = ⟨Kd.other, false, 1, 8, some [PV.nilP], false⟩ := by kernel_rfl
theorem ty18 : tyOf Tryd.prog 18 = ⟨Kd.struct [(17, 0)], true, 1, 8, some [PV.nilP], false⟩ := by kernel_rfl
theorem ty19 : tyOf Tryd.prog 19 = ⟨Kd.struct [(17, 0)], true, 1, 8, some [PV.nilP], false⟩ := by kernel_rfl
theorem ty20 : tyOf Tryd.prog 20 = ⟨Kd.iface, false, 1, 16, some [PV.nilI], false⟩ := by kernel_rfl
theorem ty21 : tyOf Tryd.prog 21 = ⟨Kd.int IntKind.i32, false, 1, 4, some [PV.int IntKind.i32 (0)], false⟩ := by kernel_rfl
theorem ty22 : tyOf Tryd.prog 22 = ⟨Kd.slice 9, false, 1, 24, some [PV.nilS], false⟩ := by kernel_rfl
theorem ty23 : tyOf Tryd.prog 23 = ⟨Kd.slice 48, false, 1, 24, some [PV.nilS], false⟩ := by kernel_rfl
theorem ty24 : tyOf Tryd.prog 24 = ⟨Kd.slice 26, false, 1, 24, some [PV.nilS], false⟩ := by kernel_rfl
theorem ty25 : tyOf Tryd.prog 25 = ⟨Kd.struct [(9, 0), (9, 1), (22, 2), (23, 3), (24, 4)], true, 5, 104, some [PV.str [], PV.str [], PV.nilS, PV.nilS, PV.nilS], true⟩ := by kernel_rfl
theorem ty26 : tyOf Tryd.prog 26 = ⟨Kd.struct [(9, 0), (9, 1), (22, 2), (23, 3), (24, 4)], true, 5, 104, some [PV.str [], PV.str [], PV.nilS, PV.nilS, PV.nilS], true⟩ := by kernel_rfl
theorem ty27 : tyOf Tryd.prog 27 = ⟨Kd.other, false, 1, 8, some [PV.nilF], false⟩ := by kernel_rfl
theorem ty28 : tyOf Tryd.prog 28 = ⟨Kd.other, false, 1, 8, some [PV.nilF], false⟩ := by kernel_rfl
theorem ty29 : tyOf Tryd.prog 29 = ⟨Kd.int IntKind.i64, false, 1, 8, some [PV.int IntKind.i64 (0)], false⟩ := by kernel_rfl
theorem ty30 : tyOf Tryd.prog 30 = ⟨Kd.other, false, 1, 0, some [PV.undef], false⟩ := by kernel_rfl
theorem ty31 : tyOf Tryd.prog 31 = ⟨Kd.other, false, 1, 8, some [PV.nilF], false⟩ := by kernel_rfl
theorem ty32 : tyOf Tryd.prog 32 = ⟨Kd.other, false, 1, 8, some [PV.nilF], false⟩ := by kernel_rfl
theorem ty33 : tyOf Tryd.prog 33 = ⟨Kd.other, false, 1, 8, some [PV.nilF], false⟩ := by kernel_rfl
theorem ty34 : tyOf Tryd.prog 34 = ⟨Kd.other, false, 1, 8, some [PV.nilF], false⟩ := by kernel_rfl
theorem ty35 : tyOf Tryd.prog 35 = ⟨Kd.other, false, 1, 8, some [PV.nilF], false⟩ := by kernel_rfl
theorem ty36 : tyOf Tryd.prog 36 = ⟨Kd.slice 84, false, 1, 24, some [PV.nilS], false⟩ := by kernel_rfl
theorem ty37 : tyOf Tryd.prog 37 = ⟨Kd.other, false, 1, 8, some [PV.nilF], false⟩ := by kernel_rfl
theorem ty38 : tyOf Tryd.prog 38 = ⟨Kd.other, false, 1, 8, some [PV.nilF], false⟩ := by kernel_rfl
theorem ty39 : tyOf Tryd.prog 39 = ⟨Kd.other, false, 1, 8, some [PV.nilF], false⟩ := by kernel_rfl
theorem ty40 : tyOf Tryd.prog 40 = ⟨Kd.other, false, 1, 0, some [PV.undef], false⟩ := by kernel_rfl
theorem ty41 : tyOf Tryd.prog 41 = ⟨Kd.other, false, 1, 8, some [PV.nilF], false⟩ := by kernel_rfl
theorem ty42 : tyOf Tryd.prog 42 = ⟨Kd.other, false, 1, 0, some [PV.undef], false⟩ := by kernel_rfl
theorem ty43 : tyOf Tryd.prog 43 = ⟨Kd.other, false, 1, 8, some [PV.nilF], false⟩ := by kernel_rfl
theorem ty44 : tyOf Tryd.prog 44 = ⟨Kd.other, false, 1, 8, some [PV.nilF], false⟩ := by kernel_rfl
theorem ty45 : tyOf Tryd.prog 45 = ⟨Kd.other, false, 1, 8, some [PV.nilF], false⟩ := by kernel_rfl
theorem ty46 : tyOf Tryd.prog 46 = ⟨Kd.other, false, 1, 8, some [PV.nilF], false⟩ := by kernel_rfl
theorem ty47 : tyOf Tryd.prog 47 = ⟨Kd.struct [(9, 0), (9, 1)], true, 2, 32, some [PV.str [], PV.str []], true⟩ := by kernel_rfl
theorem ty48 : tyOf Tryd.prog 48 = ⟨Kd.struct [(9, 0), (9, 1)], true, 2, 32, some [PV.str [], PV.str []], true⟩ := by kernel_rfl
theorem ty49 : tyOf Tryd.prog 49 = ⟨Kd.slice 21, false, 1, 24, some [PV.nilS], false⟩ := by kernel_rfl
theorem ty50 : tyOf Tryd.prog 50 = ⟨Kd.other, false, 1, 8, some [PV.nilF], false⟩ := by kernel_rfl
theorem ty51 : tyOf Tryd.prog 51 = ⟨Kd.other, false, 1, 8, some [PV.nilF], false⟩ := by kernel_rfl
theorem ty52 : tyOf Tryd.prog 52 = ⟨Kd.other, false, 1, 8, some [PV.nilF], false⟩ := by kernel_rfl
theorem ty53 : tyOf Tryd.prog 53 = ⟨Kd.other, false, 1, 8, some [PV.nilF], false⟩ := by kernel_rfl
theorem ty54 : tyOf Tryd.prog 54 = ⟨Kd.other, false, 1, 8, some [PV.nilF], false⟩ := by kernel_rfl
theorem ty55 : tyOf Tryd.prog 55 = ⟨Kd.other, false, 1, 8, some [PV.nilF], false⟩ := by kernel_rfl
theorem ty56 : tyOf Tryd.prog 56 = ⟨Kd.other, false, 1, 8, some [PV.nilP], false⟩ := by kernel_rfl
theorem ty57 : tyOf Tryd.prog 57 = ⟨Kd.slice 5, false, 1, 24, some [PV.nilS], false⟩ := by kernel_rfl
theorem ty58 : tyOf Tryd.prog 58 = ⟨Kd.struct [(56, 0), (57, 1)], true, 2, 32, some [PV.nilP, PV.nilS], true⟩ := by kernel_rfl
theorem ty59 : tyOf Tryd.prog 59 = ⟨Kd.struct [(56, 0), (57, 1)], true, 2, 32, some [PV.nilP, PV.nilS], true⟩ := by kernel_rfl
theorem ty60 : tyOf Tryd.prog 60 = ⟨Kd.other, false, 1, 8, some [PV.nilF], false⟩ := by kernel_rfl
theorem ty61 : tyOf Tryd.prog 61 = ⟨Kd.other, false, 1, 8, some [PV.nilF], false⟩ := by kernel_rfl
theorem ty62 : tyOf Tryd.prog 62 = ⟨Kd.other, false, 1, 8, some [PV.nilF], false⟩ := by kernel_rfl
theorem ty63 : tyOf Tryd.prog 63 = ⟨Kd.other, false, 1, 8, some [PV.nilF], false⟩ := by kernel_rfl
theorem ty64 : tyOf Tryd.prog 64 = ⟨Kd.other, false, 1, 8, some [PV.nilF], false⟩ := by kernel_rfl
theorem ty65 : tyOf Tryd.prog 65 = ⟨Kd.other, false, 1, 8, some [PV.nilF], false⟩ := by kernel_rfl
theorem ty66 : tyOf Tryd.prog 66 = ⟨Kd.other, false, 1, 8, some [PV.nilF], false⟩ := by kernel_rfl
theorem ty67 : tyOf Tryd.prog 67 = ⟨Kd.other, false, 1, 8, some [PV.nilF], false⟩ := by kernel_rfl
theorem ty68 : tyOf Tryd.prog 68 = ⟨Kd.other, false, 1, 8, some [PV.nilF], false⟩ := by kernel_rfl
theorem ty69 : tyOf Tryd.prog 69 = ⟨Kd.other, false, 1, 8, some [PV.nilP], false⟩ := by kernel_rfl
theorem ty70 : tyOf Tryd.prog 70 = ⟨Kd.struct [(9, 0), (4, 1)], true, 2, 24, some [PV.str [], PV.bool false], true⟩ := by kernel_rfl
theorem ty71 : tyOf Tryd.prog 71 = ⟨Kd.struct [(9, 0), (4, 1)], true, 2, 24, some [PV.str [], PV.bool false], true⟩ := by kernel_rfl
theorem ty72 : tyOf Tryd.prog 72 = ⟨Kd.other, false, 1, 8, some [PV.nilF], false⟩ := by kernel_rfl
theorem ty73 : tyOf Tryd.prog 73 = ⟨Kd.other, false, 1, 8, some [PV.nilP], false⟩ := by kernel_rfl
theorem ty74 : tyOf Tryd.prog 74 = ⟨Kd.struct [(9, 0), (3, 1), (4, 2)], true, 3, 32, some [PV.str [], PV.int IntKind.i64 (0), PV.bool false], true⟩ := by kernel_rfl
theorem ty75 : tyOf Tryd.prog 75 = ⟨Kd.struct [(9, 0), (3, 1), (4, 2)], true, 3, 32, some [PV.str [], PV.int IntKind.i64 (0), PV.bool false], true⟩ := by kernel_rfl
theorem ty76 : tyOf Tryd.prog 76 = ⟨Kd.iface, false, 1, 16, some [PV.nilI], false⟩ := by kernel_rfl
theorem ty77 : tyOf Tryd.prog 77 = ⟨Kd.iface, false, 1, 16, some [PV.nilI], false⟩ := by kernel_rfl
theorem ty78 : tyOf Tryd.prog 78 = ⟨Kd.other, false, 1, 0, some [PV.undef], false⟩ := by kernel_rfl
theorem ty79 : tyOf Tryd.prog 79 = ⟨Kd.other, false, 1, 8, some [PV.nilF], false⟩ := by kernel_rfl
theorem ty80 : tyOf Tryd.prog 80 = ⟨Kd.other, false, 1, 8, some [PV.nilP], false⟩ := by kernel_rfl
theorem ty81 : tyOf Tryd.prog 81 = ⟨Kd.other, false, 1, 8, some [PV.nilF], false⟩ := by kernel_rfl
theorem ty82 : tyOf Tryd.prog 82 = ⟨Kd.other, false, 1, 8, some [PV.nilF], false⟩ := by kernel_rfl
theorem ty83 : tyOf Tryd.prog 83 = ⟨Kd.struct [(3, 0), (3, 1), (3, 2)], true, 3, 24, some [PV.int IntKind.i64 (0), PV.int IntKind.i64 (0), PV.int IntKind.i64 (0)], true⟩ := by kernel_rfl
theorem ty84 : tyOf Tryd.prog 84 = ⟨Kd.struct [(3, 0), (3, 1), (3, 2)], true, 3, 24, some [PV.int IntKind.i64 (0), PV.int IntKind.i64 (0), PV.int IntKind.i64 (0)], true⟩ := by kernel_rfl
theorem ty85 : tyOf Tryd.prog 85 = ⟨Kd.other, false, 1, 8, some [PV.nilF], false⟩ := by kernel_rfl
theorem ty86 : tyOf Tryd.prog 86 = ⟨Kd.other, false, 1, 8, some [PV.nilF], false⟩ := by kernel_rfl
theorem ty87 : tyOf Tryd.prog 87 = ⟨Kd.other, false, 1, 8, some [PV.nilF], false⟩ := by kernel_rfl
theorem ty88 : tyOf Tryd.prog 88 = ⟨Kd.other, false, 1, 8, some [PV.nilF], false⟩ := by kernel_rfl
theorem ty89 : tyOf Tryd.prog 89 = ⟨Kd.other, false, 1, 8, some [PV.nilF], false⟩ := by kernel_rfl
theorem ty90 : tyOf Tryd.prog 90 = ⟨Kd.other, false, 1, 8, some [PV.nilF], false⟩ := by kernel_rfl
theorem ty92 : tyOf Tryd.prog 92 = ⟨Kd.struct [(5, 0), (5, 1)], true, 2, 2, some [PV.int IntKind.u8 (0), PV.int IntKind.u8 (0)], true⟩ := by kernel_rfl
theorem ty93 : tyOf Tryd.prog 93 = ⟨Kd.struct [(5, 0), (5, 1)], true, 2, 2, some [PV.int IntKind.u8 (0), PV.int IntKind.u8 (0)], true⟩ := by kernel_rfl
theorem ty94 : tyOf Tryd.prog 94 = ⟨Kd.other, true, 32, 32, some [PV.int IntKind.u8 (0), PV.int IntKind.u8 (0), PV.int IntKind.u8 (0), PV.int IntKind.u8 (0), PV.int IntKind.u8 (0), PV.int IntKind.u8 (0), PV.int IntKind.u8 (0), PV.int IntKind.u8 (0), PV.int IntKind.u8 (0), PV.int IntKind.u8 (0), PV.int IntKind.u8 (0), PV.int IntKind.u8 (0), PV.int IntKind.u8 (0), PV.int IntKind.u8 (0), PV.int IntKind.u8 (0), PV.int IntKind.u8 (0), PV.int IntKind.u8 (0), PV.int IntKind.u8 (0), PV.int IntKind.u8 (0), PV.int IntKind.u8 (0), PV.int IntKind.u8 (0), PV.int IntKind.u8 (0), PV.int IntKind.u8 (0), PV.int IntKind.u8 (0), PV.int IntKind.u8 (0), PV.int IntKind.u8 (0), PV.int IntKind.u8 (0), PV.int IntKind.u8 (0), PV.int IntKind.u8 (0), PV.int IntKind.u8 (0), PV.int IntKind.u8 (0), PV.int IntKind.u8 (0)], false⟩ := by kernel_rfl
theorem ty95 : tyOf Tryd.prog 95 = ⟨Kd.int IntKind.u64, false, 1, 8, some [PV.int IntKind.u64 (0)], false⟩ := by kernel_rfl
theorem ty96 : tyOf Tryd.prog 96 = ⟨Kd.other, false, 1, 8, some [PV.nilF], false⟩ := by kernel_rfl
theorem ty97 : tyOf Tryd.prog 97 = ⟨Kd.other, false, 1, 8, some [PV.nilF], false⟩ := by kernel_rfl
theorem ty98 : tyOf Tryd.prog 98 = ⟨Kd.other, false, 1, 0, some [PV.undef], false⟩ := by kernel_rfl
theorem ty99 : tyOf Tryd.prog 99 = ⟨Kd.other, false, 1, 8, some [PV.nilF], false⟩ := by kernel_rfl
theorem ty100 : tyOf Tryd.prog 100 = ⟨Kd.other, false, 1, 8, some [PV.nilF], false⟩ := by kernel_rfl
theorem ty101 : tyOf Tryd.prog 101 = ⟨Kd.other, false, 1, 0, some [PV.undef], false⟩ := by kernel_rfl
theorem ty102 : tyOf Tryd.prog 102 = ⟨Kd.other, false, 1, 8, some [PV.nilF], false⟩ := by kernel_rfl
theorem ty103 : tyOf Tryd.prog 103 = ⟨Kd.other, false, 1, 8, some [PV.nilF], false⟩ := by kernel_rfl
theorem ty104 : tyOf Tryd.prog 104 = ⟨Kd.other, false, 1, 0, some [PV.undef], false⟩ := by kernel_rfl
theorem ty105 : tyOf Tryd.prog 105 = ⟨Kd.other, false, 1, 8, some [PV.nilF], false⟩ := by kernel_rfl
theorem ty106 : tyOf Tryd.prog 106 = ⟨Kd.other, false, 1, 8, some [PV.nilF], false⟩ := by kernel_rfl
theorem ty107 : tyOf Tryd.prog 107 = ⟨Kd.other, false, 1, 8, some [PV.nilF], false⟩ := by kernel_rfl
theorem ty108 : tyOf Tryd.prog 108 = ⟨Kd.other, false, 1, 8, some [PV.nilF], false⟩ := by kernel_rfl
theorem ty109 : tyOf Tryd.prog 109 = ⟨Kd.int IntKind.u64, false, 1, 8, some [PV.int IntKind.u64 (0)], false⟩ := by kernel_rfl
theorem ty110 : tyOf Tryd.prog 110 = ⟨Kd.other, false, 1, 8, some [PV.nilP], false⟩ := by kernel_rfl
theorem ty111 : tyOf Tryd.prog 111 = ⟨Kd.other, false, 1, 8, some [PV.nilF], false⟩ := by kernel_rfl
theorem ty112 : tyOf Tryd.prog 112 = ⟨Kd.other, false, 1, 8, some [PV.nilF], false⟩ := by kernel_rfl
theorem ty113 : tyOf Tryd.prog 113 = ⟨Kd.other, false, 1, 8, some [PV.nilF], false⟩ := by kernel_rfl
theorem ty114 : tyOf Tryd.prog 114 = ⟨Kd.other, false, 1, 8, some [PV.nilF], false⟩ := by kernel_rfl
theorem ty117 : tyOf Tryd.prog 117 = ⟨Kd.other, false, 1, 0, some [PV.undef], false⟩ := by kernel_rfl
theorem ty118 : tyOf Tryd.prog 118 = ⟨Kd.other, false, 1, 8, some [PV.nilF], false⟩ := by kernel_rfl
theorem ty119 : tyOf Tryd.prog 119 = ⟨Kd.other, false, 1, 8, some [PV.nilF], false⟩ := by kernel_rfl
theorem ty120 : tyOf Tryd.prog 120 = ⟨Kd.other, false, 1, 8, some [PV.nilP], false⟩ := by kernel_rfl
theorem ty121 : tyOf Tryd.prog 121 = ⟨Kd.other, false, 1, 8, some [PV.nilF], false⟩ := by kernel_rfl
theorem ty122 : tyOf Tryd.prog 122 = ⟨Kd.other, false, 1, 8, some [PV.nilF], false⟩ := by kernel_rfl
theorem ty123 : tyOf Tryd.prog 123 = ⟨Kd.int IntKind.u32, false, 1, 4, some [PV.int IntKind.u32 (0)], false⟩ := by kernel_rfl
theorem ty124 : tyOf Tryd.prog 124 = ⟨Kd.other, false, 1, 0, some [PV.undef], false⟩ := by kernel_rfl
theorem ty125 : tyOf Tryd.prog 125 = ⟨Kd.other, false, 1, 8, some [PV.nilF], false⟩ := by kernel_rfl
theorem ty126 : tyOf Tryd.prog 126 = ⟨Kd.other, false, 1, 8, some [PV.nilF], false⟩ := by kernel_rfl
theorem ty127 : tyOf Tryd.prog 127 = ⟨Kd.other, false, 1, 8, some [PV.nilF], false⟩ := by kernel_rfl
theorem ty128 : tyOf Tryd.prog 128 = ⟨Kd.struct [(17, 0), (17, 1), (17, 2), (9, 3)], true, 4, 40, some [PV.nilP, PV.nilP, PV.nilP, PV.str []], false⟩ := by kernel_rfl
theorem ty129 : tyOf Tryd.prog 129 = ⟨Kd.struct [(17, 0), (17, 1), (17, 2), (9, 3)], true, 4, 40, some [PV.nilP, PV.nilP, PV.nilP, PV.str []], false⟩ := by kernel_rfl
theorem ty130 : tyOf Tryd.prog 130 = ⟨Kd.other, true, 0, 0, some [], false⟩ := by kernel_rfl
theorem ty131 : tyOf Tryd.prog 131 = ⟨Kd.struct [(130, 0)], true, 0, 0, some [], false⟩ := by kernel_rfl
theorem ty132 : tyOf Tryd.prog 132 = ⟨Kd.struct [(130, 0)], true, 0, 0, some [], false⟩ := by kernel_rfl
theorem ty133 : tyOf Tryd.prog 133 = ⟨Kd.other, false, 1, 8, some [PV.nilF], false⟩ := by kernel_rfl
theorem ty134 : tyOf Tryd.prog 134 = ⟨Kd.int IntKind.u8, false, 1, 1, some [PV.int IntKind.u8 (0)], false⟩ := by kernel_rfl
theorem ty135 : tyOf Tryd.prog 135 = ⟨Kd.int IntKind.u8, false, 1, 1, some [PV.int IntKind.u8 (0)], false⟩ := by kernel_rfl
theorem ty136 : tyOf Tryd.prog 136 = ⟨Kd.other, false, 1, 8, some [PV.nilF], false⟩ := by kernel_rfl
theorem ty137 : tyOf Tryd.prog 137 = ⟨Kd.int IntKind.i32, false, 1, 4, some [PV.int IntKind.i32 (0)], false⟩ := by kernel_rfl
theorem ty138 : tyOf Tryd.prog 138 = ⟨Kd.int IntKind.i32, false, 1, 4, some [PV.int IntKind.i32 (0)], false⟩ := by kernel_rfl
theorem ty139 : tyOf Tryd.prog 139 = ⟨Kd.struct [(12, 0), (12, 1), (123, 2), (134, 3), (5, 4), (5, 5), (135, 6), (136, 7), (80, 8), (137, 9), (138, 10)], true, 11, 48, some [PV.int IntKind.u64 (0), PV.int IntKind.u64 (0), PV.int IntKind.u32 (0), PV.int IntKind.u8 (0), PV.int IntKind.u8 (0), PV.int IntKind.u8 (0), PV.int IntKind.u8 (0), PV.nilF, PV.nilP, PV.int IntKind.i32 (0), PV.int IntKind.i32 (0)], false⟩ := by kernel_rfl
theorem ty140 : tyOf Tryd.prog 140 = ⟨Kd.struct [(12, 0), (12, 1), (123, 2), (134, 3), (5, 4), (5, 5), (135, 6), (136, 7), (80, 8), (137, 9), (138, 10)], true, 11, 48, some [PV.int IntKind.u64 (0), PV.int IntKind.u64 (0), PV.int IntKind.u32 (0), PV.int IntKind.u8 (0), PV.int IntKind.u8 (0), PV.int IntKind.u8 (0), PV.int IntKind.u8 (0), PV.nilF, PV.nilP, PV.int IntKind.i32 (0), PV.int IntKind.i32 (0)], false⟩ := by kernel_rfl
theorem mixed : Tryd.prog.follows .mixedOrders = true := by kernel_rfl
end Go.Proofs.YtihndopckmdpbaaDoor
