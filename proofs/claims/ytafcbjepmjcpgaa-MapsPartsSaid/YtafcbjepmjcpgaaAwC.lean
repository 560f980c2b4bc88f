/- Code. -/
import Derived.Test.YtafcbjepmjcpgaaAw24
import Derived.Test.YtafcbjepmjcpgaaAwT
namespace Go.Proofs.Ytafcbjepmjcpgaa
set_option linter.unusedSimpArgs false
set_option linter.unusedVariables false
open Go
noncomputable def c3 : Code := (Try.f3.body).getD .skip
def an3 : Nat → Ann
  | 0 => ⟨[0, 1, 2, 3], [], []⟩
  | 1 => ⟨[0, 1, 2, 3, 9], [], []⟩
  | 2 => ⟨[0, 1, 2, 3, 9, 39], [], []⟩
  | 3 => ⟨[8], [], []⟩
  | 4 => ⟨[0, 1, 2, 3, 10], [], []⟩
  | 5 => ⟨[0, 1, 2, 3, 10, 44], [], []⟩
  | 6 => ⟨[0, 1, 2, 3, 10], [], []⟩
  | 7 => ⟨[0, 1, 2, 3, 10, 60], [], []⟩
  | 8 => ⟨[8], [], []⟩
  | 9 => ⟨[0, 1, 2, 3, 11], [], []⟩
  | 10 => ⟨[0, 1, 2, 3, 11, 12], [], []⟩
  | 11 => ⟨[0, 1, 2, 3, 11, 12, 13], [], []⟩
  | 12 => ⟨[0, 1, 2, 3, 11, 12, 13, 72], [], []⟩
  | 13 => ⟨[0, 1, 2, 3, 11, 12, 13], [], []⟩
  | 14 => ⟨[0, 1, 2, 3, 11, 12, 13], [], []⟩
  | 15 => ⟨[8], [], []⟩
  | _ => ⟨[], [], []⟩
noncomputable abbrev x3 : Cx := ⟨Try.prog, id, an3⟩
theorem start3 {args : List PV} {r : PV} (ha : args.length = 4) (h : awp x3 c3 (bodyQ [8] r []) (initSt args [])) : PC Try.prog 3 args r :=
  pc_of_awp (X := x3) mixed Try.func3 (c := c3) (by kernel_rfl) (by kernel_rfl) (rs := [8]) (by kernel_rfl) (by kernel_rfl) (by rw [ha]; decide) h
noncomputable def c4 : Code := (Try.f4.body).getD .skip
def an4 : Nat → Ann
  | 0 => ⟨[0, 1, 2], [], []⟩
  | 1 => ⟨[0, 1, 2, 7], [], []⟩
  | 2 => ⟨[0, 1, 2, 7, 36], [], []⟩
  | 3 => ⟨[6], [], []⟩
  | 4 => ⟨[0, 1, 2, 8], [], []⟩
  | 5 => ⟨[0, 2, 8, 9], [], []⟩
  | 6 => ⟨[0, 2, 8, 9, 10], [], []⟩
  | 7 => ⟨[6], [], []⟩
  | _ => ⟨[], [], []⟩
noncomputable abbrev x4 : Cx := ⟨Try.prog, id, an4⟩
theorem start4 {args : List PV} {r : PV} (ha : args.length = 3) (h : awp x4 c4 (bodyQ [6] r []) (initSt args [])) : PC Try.prog 4 args r :=
  pc_of_awp (X := x4) mixed Try.func4 (c := c4) (by kernel_rfl) (by kernel_rfl) (rs := [6]) (by kernel_rfl) (by kernel_rfl) (by rw [ha]; decide) h
noncomputable def c5 : Code := (Try.f5.body).getD .skip
def an5 : Nat → Ann
  | 0 => ⟨[0, 1], [], []⟩
  | 1 => ⟨[0, 1, 5], [], []⟩
  | 2 => ⟨[0, 1, 5, 31], [], []⟩
  | 3 => ⟨[4], [], []⟩
  | 4 => ⟨[0, 1, 6], [], []⟩
  | 5 => ⟨[0, 1, 6, 7], [], []⟩
  | 6 => ⟨[0, 1, 6, 7, 36], [], []⟩
  | 7 => ⟨[0, 1, 6, 7], [], []⟩
  | 8 => ⟨[0, 1, 6, 7, 8], [8], []⟩
  | 9 => ⟨[0, 1, 6, 7, 8, 46], [8], []⟩
  | 10 => ⟨[0, 1, 6, 7, 8, 53], [8], []⟩
  | 11 => ⟨[0, 1, 6, 8, 9], [8], []⟩
  | 12 => ⟨[0, 1, 6, 8, 9, 10], [8], []⟩
  | 13 => ⟨[6, 8, 9, 10, 81], [8], []⟩
  | 14 => ⟨[4], [], []⟩
  | 15 => ⟨[4], [], []⟩
  | 16 => ⟨[0, 1, 6, 7], [], []⟩
  | 17 => ⟨[4], [], []⟩
  | _ => ⟨[], [], []⟩
noncomputable abbrev x5 : Cx := ⟨Try.prog, id, an5⟩
theorem start5 {args : List PV} {r : PV} (ha : args.length = 2) (h : awp x5 c5 (bodyQ [4] r []) (initSt args [])) : PC Try.prog 5 args r :=
  pc_of_awp (X := x5) mixed Try.func5 (c := c5) (by kernel_rfl) (by kernel_rfl) (rs := [4]) (by kernel_rfl) (by kernel_rfl) (by rw [ha]; decide) h
noncomputable def c6 : Code := (Try.f6.body).getD .skip
def an6 : Nat → Ann
  | 0 => ⟨[0, 1, 2], [], []⟩
  | 1 => ⟨[0, 1, 2, 7], [], []⟩
  | 2 => ⟨[0, 1, 2, 7, 30], [], []⟩
  | 3 => ⟨[6], [], []⟩
  | 4 => ⟨[0, 1, 2, 35], [], []⟩
  | 5 => ⟨[6], [], []⟩
  | 6 => ⟨[0, 1, 8], [], []⟩
  | 7 => ⟨[0, 1, 8, 9], [], []⟩
  | 8 => ⟨[0, 1, 8, 9, 46], [], []⟩
  | 9 => ⟨[0, 1, 8, 9], [], []⟩
  | 10 => ⟨[0, 1, 8, 9, 70], [], []⟩
  | 11 => ⟨[6], [], []⟩
  | 12 => ⟨[6], [], []⟩
  | _ => ⟨[], [], []⟩
noncomputable abbrev x6 : Cx := ⟨Try.prog, id, an6⟩
theorem start6 {args : List PV} {r : PV} (ha : args.length = 3) (h : awp x6 c6 (bodyQ [6] r []) (initSt args [])) : PC Try.prog 6 args r :=
  pc_of_awp (X := x6) mixed Try.func6 (c := c6) (by kernel_rfl) (by kernel_rfl) (rs := [6]) (by kernel_rfl) (by kernel_rfl) (by rw [ha]; decide) h
noncomputable def c7 : Code := (Try.f7.body).getD .skip
def an7 : Nat → Ann
  | 0 => ⟨[0, 1, 2], [], []⟩
  | 1 => ⟨[0, 1, 2, 7], [], []⟩
  | 2 => ⟨[0, 1, 2, 7, 16], [], []⟩
  | 3 => ⟨[6], [], []⟩
  | 4 => ⟨[0, 1, 2, 23], [], []⟩
  | 5 => ⟨[6], [], []⟩
  | 6 => ⟨[0, 1, 2, 34], [], []⟩
  | 7 => ⟨[6], [], []⟩
  | 8 => ⟨[0, 1, 2, 8], [36], []⟩
  | 9 => ⟨[6], [], []⟩
  | _ => ⟨[], [], []⟩
noncomputable abbrev x7 : Cx := ⟨Try.prog, id, an7⟩
theorem start7 {args : List PV} {r : PV} (ha : args.length = 3) (h : awp x7 c7 (bodyQ [6] r []) (initSt args [])) : PC Try.prog 7 args r :=
  pc_of_awp (X := x7) mixed Try.func7 (c := c7) (by kernel_rfl) (by kernel_rfl) (rs := [6]) (by kernel_rfl) (by kernel_rfl) (by rw [ha]; decide) h
noncomputable def c8 : Code := (Try.f8.body).getD .skip
def an8 : Nat → Ann
  | 0 => ⟨[0, 1], [], []⟩
  | 1 => ⟨[0, 1, 5], [], []⟩
  | 2 => ⟨[0, 1, 5, 29], [], []⟩
  | 3 => ⟨[4], [], []⟩
  | 4 => ⟨[0, 1, 6], [32], []⟩
  | 5 => ⟨[0, 1, 6, 35], [32], []⟩
  | 6 => ⟨[4], [], []⟩
  | 7 => ⟨[0, 1, 6, 49], [32], []⟩
  | 8 => ⟨[4], [], []⟩
  | 9 => ⟨[0, 1, 6, 7], [32], []⟩
  | 10 => ⟨[0, 1, 6, 7, 53], [32], []⟩
  | 11 => ⟨[0, 1, 6, 7], [32], []⟩
  | 12 => ⟨[0, 1, 6, 7, 77], [32], []⟩
  | 13 => ⟨[4], [], []⟩
  | 14 => ⟨[0, 1, 6, 8], [32], []⟩
  | 15 => ⟨[4], [], []⟩
  | _ => ⟨[], [], []⟩
noncomputable abbrev x8 : Cx := ⟨Try.prog, id, an8⟩
theorem start8 {args : List PV} {r : PV} (ha : args.length = 2) (h : awp x8 c8 (bodyQ [4] r []) (initSt args [])) : PC Try.prog 8 args r :=
  pc_of_awp (X := x8) mixed Try.func8 (c := c8) (by kernel_rfl) (by kernel_rfl) (rs := [4]) (by kernel_rfl) (by kernel_rfl) (by rw [ha]; decide) h
noncomputable def c9 : Code := (Try.f9.body).getD .skip
def an9 : Nat → Ann
  | 0 => ⟨[1, 2], [2], []⟩
  | 1 => ⟨[1, 2, 5], [2], []⟩
  | 2 => ⟨[1, 2, 5, 6], [2, 11], []⟩
  | 3 => ⟨[1, 2, 5, 6, 26], [2, 11], []⟩
  | 4 => ⟨[4], [], []⟩
  | 5 => ⟨[1, 2, 6, 54], [2, 11], []⟩
  | 6 => ⟨[4], [], []⟩
  | 7 => ⟨[1, 2, 6, 7], [2, 11], []⟩
  | 8 => ⟨[1, 2, 6, 7, 8], [2, 11], []⟩
  | 9 => ⟨[1, 2, 6, 7, 8, 64], [2, 11], []⟩
  | 10 => ⟨[4], [], []⟩
  | 11 => ⟨[1, 2, 6, 7, 8, 85], [2, 11], []⟩
  | 12 => ⟨[4], [], []⟩
  | 13 => ⟨[4], [], []⟩
  | _ => ⟨[], [], []⟩
noncomputable abbrev x9 : Cx := ⟨Try.prog, id, an9⟩
theorem start9 {args : List PV} {r : PV} (ha : args.length = 2) (h : awp x9 c9 (bodyQ [4] r []) (initSt args [])) : PC Try.prog 9 args r :=
  pc_of_awp (X := x9) mixed Try.func9 (c := c9) (by kernel_rfl) (by kernel_rfl) (rs := [4]) (by kernel_rfl) (by kernel_rfl) (by rw [ha]; decide) h
noncomputable def c10 : Code := (Try.f10.body).getD .skip
def an10 : Nat → Ann
  | 0 => ⟨[0, 1, 5], [5], []⟩
  | 1 => ⟨[0, 1, 5, 7], [5], []⟩
  | 2 => ⟨[0, 1, 5, 7, 29], [5], []⟩
  | 3 => ⟨[6], [], []⟩
  | 4 => ⟨[1, 5, 8], [5, 8, 32], []⟩
  | 5 => ⟨[1, 5, 8, 9, 10], [5, 8, 9, 32, 36], []⟩
  | 6 => ⟨[1, 5, 8, 9, 10, 11, 12], [5, 8, 9, 11, 32, 36, 42], []⟩
  | 7 => ⟨[1, 5, 8, 9, 10, 11, 12, 13, 14], [5, 8, 9, 11, 32, 36, 42, 48], []⟩
  | 8 => ⟨[1, 5, 9, 10, 11, 12, 13, 14, 15, 16], [5, 8, 9, 11, 32, 36, 42, 48, 54, 55], []⟩
  | 9 => ⟨[5, 9, 10, 11, 12, 13, 14, 15, 16, 18], [5, 8, 9, 11, 32, 36, 42, 48, 54, 55, 61], []⟩
  | 10 => ⟨[9, 10, 11, 12, 13, 14, 15, 16, 18, 20], [5, 8, 9, 11, 32, 36, 42, 48, 54, 55, 61, 67], []⟩
  | 11 => ⟨[6], [], []⟩
  | _ => ⟨[], [], []⟩
noncomputable abbrev x10 : Cx := ⟨Try.prog, id, an10⟩
theorem start10 {args : List PV} {r : PV} (ha : args.length = 3) (h : awp x10 c10 (bodyQ [6] r []) (initSt args [])) : PC Try.prog 10 args r :=
  pc_of_awp (X := x10) mixed Try.func10 (c := c10) (by kernel_rfl) (by kernel_rfl) (rs := [6]) (by kernel_rfl) (by kernel_rfl) (by rw [ha]; decide) h
noncomputable def c11 : Code := (Try.f11.body).getD .skip
def an11 : Nat → Ann
  | 0 => ⟨[0], [], []⟩
  | 1 => ⟨[0, 3], [], []⟩
  | 2 => ⟨[0, 21], [], []⟩
  | 3 => ⟨[2], [], []⟩
  | 4 => ⟨[4], [4, 23], []⟩
  | 5 => ⟨[4, 5], [4, 5, 7, 23, 35], []⟩
  | 6 => ⟨[4, 5, 6], [4, 5, 7, 23, 35], []⟩
  | 7 => ⟨[4, 5, 6, 29], [4, 5, 7, 23, 35], []⟩
  | 8 => ⟨[4, 5, 6], [4, 5, 7, 23, 35], []⟩
  | 9 => ⟨[4, 5, 6, 7, 8], [4, 5, 7, 23, 35], []⟩
  | 10 => ⟨[4, 5, 6, 7, 8, 9, 10], [4, 5, 7, 23, 35, 41], []⟩
  | 11 => ⟨[4, 5, 6, 7, 8, 9, 10, 11, 12], [4, 5, 7, 11, 23, 35, 41, 48], []⟩
  | 12 => ⟨[4, 5, 6, 7, 8, 9, 10, 11, 12, 13, 14], [4, 5, 7, 11, 23, 35, 41, 48, 55], []⟩
  | 13 => ⟨[4, 5, 6, 7, 106], [4, 5, 7, 23, 35], []⟩
  | 14 => ⟨[2], [], []⟩
  | 15 => ⟨[4, 5, 6], [4, 5, 7, 23, 35], []⟩
  | 16 => ⟨[4, 16], [4, 23, 110], []⟩
  | 17 => ⟨[16, 18], [4, 23, 110, 119], []⟩
  | 18 => ⟨[2], [], []⟩
  | _ => ⟨[], [], []⟩
noncomputable abbrev x11 : Cx := ⟨Try.prog, id, an11⟩
theorem start11 {args : List PV} {r : PV} (ha : args.length = 1) (h : awp x11 c11 (bodyQ [2] r []) (initSt args [])) : PC Try.prog 11 args r :=
  pc_of_awp (X := x11) mixed Try.func11 (c := c11) (by kernel_rfl) (by kernel_rfl) (rs := [2]) (by kernel_rfl) (by kernel_rfl) (by rw [ha]; decide) h
noncomputable def c12 : Code := (Try.f12.body).getD .skip
def an12 : Nat → Ann
  | 0 => ⟨[0, 1, 2], [], []⟩
  | 1 => ⟨[0, 1, 2, 7], [], []⟩
  | 2 => ⟨[0, 1, 2, 7, 28], [], []⟩
  | 3 => ⟨[6], [], []⟩
  | 4 => ⟨[0, 1, 2, 8], [8, 31], []⟩
  | 5 => ⟨[0, 1, 2, 8, 9, 10], [8, 9, 31, 35], []⟩
  | 6 => ⟨[0, 1, 2, 8, 9, 10, 11, 12], [8, 9, 11, 31, 35, 41], []⟩
  | 7 => ⟨[0, 1, 2, 8, 9, 10, 11, 12, 13, 14], [8, 9, 11, 31, 35, 41, 47], []⟩
  | 8 => ⟨[0, 1, 2, 8, 9, 10, 11, 12, 13, 14, 15, 16], [8, 9, 11, 31, 35, 41, 47, 53], []⟩
  | 9 => ⟨[0, 1, 2, 8, 9, 10, 11, 12, 13, 14, 15, 16, 17, 18], [8, 9, 11, 17, 31, 35, 41, 47, 53, 60, 61], []⟩
  | 10 => ⟨[0, 8, 9, 10, 11, 12, 13, 14, 15, 16, 17, 18, 19, 20], [8, 9, 11, 17, 19, 31, 35, 41, 47, 53, 60, 61, 68, 69], []⟩
  | 11 => ⟨[6], [], []⟩
  | _ => ⟨[], [], []⟩
noncomputable abbrev x12 : Cx := ⟨Try.prog, id, an12⟩
theorem start12 {args : List PV} {r : PV} (ha : args.length = 3) (h : awp x12 c12 (bodyQ [6] r []) (initSt args [])) : PC Try.prog 12 args r :=
  pc_of_awp (X := x12) mixed Try.func12 (c := c12) (by kernel_rfl) (by kernel_rfl) (rs := [6]) (by kernel_rfl) (by kernel_rfl) (by rw [ha]; decide) h
noncomputable def c13 : Code := (Try.f13.body).getD .skip
def an13 : Nat → Ann
  | 0 => ⟨[0, 1, 2], [], []⟩
  | 1 => ⟨[0, 1, 2, 7], [], []⟩
  | 2 => ⟨[0, 1, 2, 22], [], []⟩
  | 3 => ⟨[6], [], []⟩
  | 4 => ⟨[1, 2, 8], [8, 24], []⟩
  | 5 => ⟨[2, 8, 9], [8, 9, 24, 26], []⟩
  | 6 => ⟨[8, 9, 10, 11], [8, 9, 10, 24, 26, 35], []⟩
  | 7 => ⟨[8, 9, 10, 11, 12, 13], [8, 9, 10, 12, 24, 26, 35, 42], []⟩
  | 8 => ⟨[8, 9, 10, 11, 12, 13, 14, 15], [8, 9, 10, 12, 14, 24, 26, 35, 42, 50], []⟩
  | 9 => ⟨[8, 9, 10, 11, 12, 13, 14, 15, 16, 17], [8, 9, 10, 12, 14, 16, 24, 26, 35, 42, 50, 57], []⟩
  | 10 => ⟨[8, 9, 11, 12, 13, 14, 15, 16, 17, 18, 19], [8, 9, 10, 12, 14, 16, 18, 24, 26, 35, 42, 50, 57, 65], []⟩
  | 11 => ⟨[6], [], []⟩
  | _ => ⟨[], [], []⟩
noncomputable abbrev x13 : Cx := ⟨Try.prog, id, an13⟩
theorem start13 {args : List PV} {r : PV} (ha : args.length = 3) (h : awp x13 c13 (bodyQ [6] r []) (initSt args [])) : PC Try.prog 13 args r :=
  pc_of_awp (X := x13) mixed Try.func13 (c := c13) (by kernel_rfl) (by kernel_rfl) (rs := [6]) (by kernel_rfl) (by kernel_rfl) (by rw [ha]; decide) h
noncomputable def c14 : Code := (Try.f14.body).getD .skip
def an14 : Nat → Ann
  | 0 => ⟨[0], [], []⟩
  | 1 => ⟨[0, 3], [], []⟩
  | 2 => ⟨[0, 19], [], []⟩
  | 3 => ⟨[2], [], []⟩
  | 4 => ⟨[4], [4, 21], []⟩
  | 5 => ⟨[4, 5], [4, 21], []⟩
  | 6 => ⟨[4, 5, 26], [4, 21], []⟩
  | 7 => ⟨[4, 5], [4, 21], []⟩
  | 8 => ⟨[4, 5, 6, 7], [4, 6, 21, 32], []⟩
  | 9 => ⟨[4, 5, 6, 36], [4, 6, 21, 32], []⟩
  | 10 => ⟨[2], [], []⟩
  | 11 => ⟨[4, 5, 6, 40], [4, 6, 21, 32], []⟩
  | 12 => ⟨[4, 5, 6, 8], [4, 6, 21, 32], []⟩
  | 13 => ⟨[4, 5, 6, 8, 9, 10], [4, 6, 21, 32, 49], []⟩
  | 14 => ⟨[4, 5, 6, 8, 9, 10, 11, 12], [4, 6, 21, 32, 49, 64], []⟩
  | 15 => ⟨[4, 5, 6, 8, 9, 10, 11, 12, 13, 14], [4, 6, 13, 21, 32, 49, 64, 71], []⟩
  | 16 => ⟨[4, 5, 6, 8, 9, 10, 11, 12, 13, 14, 15, 16], [4, 6, 13, 15, 21, 32, 49, 64, 71, 80], []⟩
  | 17 => ⟨[4, 5, 130], [4, 21], []⟩
  | 18 => ⟨[2], [], []⟩
  | 19 => ⟨[2], [], []⟩
  | _ => ⟨[], [], []⟩
noncomputable abbrev x14 : Cx := ⟨Try.prog, id, an14⟩
theorem start14 {args : List PV} {r : PV} (ha : args.length = 1) (h : awp x14 c14 (bodyQ [2] r []) (initSt args [])) : PC Try.prog 14 args r :=
  pc_of_awp (X := x14) mixed Try.func14 (c := c14) (by kernel_rfl) (by kernel_rfl) (rs := [2]) (by kernel_rfl) (by kernel_rfl) (by rw [ha]; decide) h
noncomputable def c15 : Code := (Try.f15.body).getD .skip
def an15 : Nat → Ann
  | 0 => ⟨[], [], []⟩
  | 1 => ⟨[1], [3], []⟩
  | 2 => ⟨[0], [], []⟩
  | _ => ⟨[], [], []⟩
noncomputable abbrev x15 : Cx := ⟨Try.prog, id, an15⟩
theorem start15 {args : List PV} {r : PV} (ha : args.length = 0) (h : awp x15 c15 (bodyQ [0] r []) (initSt args [])) : PC Try.prog 15 args r :=
  pc_of_awp (X := x15) mixed Try.func15 (c := c15) (by kernel_rfl) (by kernel_rfl) (rs := [0]) (by kernel_rfl) (by kernel_rfl) (by rw [ha]; decide) h
noncomputable def c16 : Code := (Try.f16.body).getD .skip
def an16 : Nat → Ann
  | 0 => ⟨[0], [], []⟩
  | 1 => ⟨[0, 3], [], []⟩
  | 2 => ⟨[3, 6, 7, 8], [], []⟩
  | 3 => ⟨[3, 6, 7, 8, 9], [], []⟩
  | 4 => ⟨[3, 5, 6, 7, 8], [5], []⟩
  | 5 => ⟨[5, 6, 7, 8, 43], [5], []⟩
  | 6 => ⟨[2], [], []⟩
  | 7 => ⟨[3, 6, 7, 8], [], []⟩
  | 8 => ⟨[3, 6, 7, 8], [], []⟩
  | 9 => ⟨[2], [], []⟩
  | _ => ⟨[], [], []⟩
noncomputable abbrev x16 : Cx := ⟨Try.prog, id, an16⟩
theorem start16 {args : List PV} {r : PV} (ha : args.length = 1) (h : awp x16 c16 (bodyQ [2] r []) (initSt args [])) : PC Try.prog 16 args r :=
  pc_of_awp (X := x16) mixed Try.func16 (c := c16) (by kernel_rfl) (by kernel_rfl) (rs := [2]) (by kernel_rfl) (by kernel_rfl) (by rw [ha]; decide) h
noncomputable def c17 : Code := (Try.f17.body).getD .skip
def an17 : Nat → Ann
  | 0 => ⟨[0, 1, 2], [], []⟩
  | 1 => ⟨[1, 2, 9, 10, 11], [], []⟩
  | 2 => ⟨[1, 2, 9, 10, 11, 12], [], []⟩
  | 3 => ⟨[1, 2, 8, 9, 10, 11], [], []⟩
  | 4 => ⟨[1, 2, 9, 10, 11], [], []⟩
  | 5 => ⟨[1, 2, 9, 10, 11], [], []⟩
  | 6 => ⟨[6], [], []⟩
  | _ => ⟨[], [], []⟩
noncomputable abbrev x17 : Cx := ⟨Try.prog, id, an17⟩
theorem start17 {args : List PV} {r : PV} (ha : args.length = 3) (h : awp x17 c17 (bodyQ [6] r []) (initSt args [])) : PC Try.prog 17 args r :=
  pc_of_awp (X := x17) mixed Try.func17 (c := c17) (by kernel_rfl) (by kernel_rfl) (rs := [6]) (by kernel_rfl) (by kernel_rfl) (by rw [ha]; decide) h
noncomputable def c18 : Code := (Try.f18.body).getD .skip
def an18 : Nat → Ann
  | 0 => ⟨[0, 1, 2], [], []⟩
  | 1 => ⟨[0, 1, 2, 7], [], []⟩
  | 2 => ⟨[1, 2, 7, 10, 11, 12], [], []⟩
  | 3 => ⟨[1, 2, 7, 10, 11, 12, 13], [], []⟩
  | 4 => ⟨[1, 2, 7, 9, 10, 11, 12], [9], []⟩
  | 5 => ⟨[6], [], []⟩
  | 6 => ⟨[1, 2, 7, 9, 10, 11, 12, 20], [9], []⟩
  | 7 => ⟨[1, 2, 7, 10, 11, 12], [], []⟩
  | 8 => ⟨[1, 2, 7, 9, 32], [9], []⟩
  | 9 => ⟨[7, 9, 37], [9], []⟩
  | 10 => ⟨[6], [], []⟩
  | 11 => ⟨[1, 2, 7, 10, 11, 12], [], []⟩
  | 12 => ⟨[6], [], []⟩
  | _ => ⟨[], [], []⟩
noncomputable abbrev x18 : Cx := ⟨Try.prog, id, an18⟩
theorem start18 {args : List PV} {r : PV} (ha : args.length = 3) (h : awp x18 c18 (bodyQ [6] r []) (initSt args [])) : PC Try.prog 18 args r :=
  pc_of_awp (X := x18) mixed Try.func18 (c := c18) (by kernel_rfl) (by kernel_rfl) (rs := [6]) (by kernel_rfl) (by kernel_rfl) (by rw [ha]; decide) h
noncomputable def c19 : Code := (Try.f19.body).getD .skip
def an19 : Nat → Ann
  | 0 => ⟨[0], [], []⟩
  | 1 => ⟨[0, 3], [], []⟩
  | 2 => ⟨[3, 6, 7, 8], [], []⟩
  | 3 => ⟨[3, 6, 7, 8, 9], [], []⟩
  | 4 => ⟨[3, 5, 6, 7, 8], [5], []⟩
  | 5 => ⟨[3, 6, 7, 8], [], []⟩
  | 6 => ⟨[3, 6, 7, 8], [], []⟩
  | 7 => ⟨[2], [], []⟩
  | _ => ⟨[], [], []⟩
noncomputable abbrev x19 : Cx := ⟨Try.prog, id, an19⟩
theorem start19 {args : List PV} {r : PV} (ha : args.length = 1) (h : awp x19 c19 (bodyQ [2] r []) (initSt args [])) : PC Try.prog 19 args r :=
  pc_of_awp (X := x19) mixed Try.func19 (c := c19) (by kernel_rfl) (by kernel_rfl) (rs := [2]) (by kernel_rfl) (by kernel_rfl) (by rw [ha]; decide) h
noncomputable def c20 : Code := (Try.f20.body).getD .skip
def an20 : Nat → Ann
  | 0 => ⟨[0, 1], [], []⟩
  | 1 => ⟨[1, 7, 8, 9], [], []⟩
  | 2 => ⟨[1, 7, 8, 9, 10], [], []⟩
  | 3 => ⟨[1, 6, 7, 8, 9], [6], []⟩
  | 4 => ⟨[1, 7, 8, 9, 22], [], []⟩
  | 5 => ⟨[4], [], []⟩
  | 6 => ⟨[1, 7, 8, 9], [], []⟩
  | 7 => ⟨[4], [], []⟩
  | _ => ⟨[], [], []⟩
noncomputable abbrev x20 : Cx := ⟨Try.prog, id, an20⟩
theorem start20 {args : List PV} {r : PV} (ha : args.length = 2) (h : awp x20 c20 (bodyQ [4] r []) (initSt args [])) : PC Try.prog 20 args r :=
  pc_of_awp (X := x20) mixed Try.func20 (c := c20) (by kernel_rfl) (by kernel_rfl) (rs := [4]) (by kernel_rfl) (by kernel_rfl) (by rw [ha]; decide) h
noncomputable def c21 : Code := (Try.f21.body).getD .skip
def an21 : Nat → Ann
  | 0 => ⟨[0], [], []⟩
  | 1 => ⟨[0, 3], [3, 27], [(3, 3, 3)]⟩
  | 2 => ⟨[0, 3, 6, 7, 8], [3, 27], []⟩
  | 3 => ⟨[0, 3, 6, 7, 8, 9], [3, 27], []⟩
  | 4 => ⟨[0, 3, 4, 5, 6, 7, 8], [3, 5, 27], []⟩
  | 5 => ⟨[0, 3, 6, 7, 8], [3, 27], []⟩
  | 6 => ⟨[0, 3, 6, 7, 8], [3, 27], []⟩
  | 7 => ⟨[2], [3, 27], []⟩
  | _ => ⟨[], [], []⟩
noncomputable abbrev x21 : Cx := ⟨Try.prog, id, an21⟩
theorem start21 {args : List PV} {r : PV} (ha : args.length = 1) (h : awp x21 c21 (bodyQ [2] r []) (initSt args [])) : PC Try.prog 21 args r :=
  pc_of_awp (X := x21) mixed Try.func21 (c := c21) (by kernel_rfl) (by kernel_rfl) (rs := [2]) (by kernel_rfl) (by kernel_rfl) (by rw [ha]; decide) h
noncomputable def c22 : Code := (Try.f22.body).getD .skip
def an22 : Nat → Ann
  | 0 => ⟨[0], [], []⟩
  | 1 => ⟨[0, 3], [], []⟩
  | 2 => ⟨[0, 3, 8], [], []⟩
  | 3 => ⟨[0, 3], [], []⟩
  | 4 => ⟨[0, 3, 4], [4], []⟩
  | 5 => ⟨[0, 3, 4, 50], [4], []⟩
  | 6 => ⟨[2], [], []⟩
  | 7 => ⟨[0, 3, 70], [], []⟩
  | 8 => ⟨[2], [], []⟩
  | 9 => ⟨[2], [], []⟩
  | _ => ⟨[], [], []⟩
noncomputable abbrev x22 : Cx := ⟨Try.prog, id, an22⟩
theorem start22 {args : List PV} {r : PV} (ha : args.length = 1) (h : awp x22 c22 (bodyQ [2] r []) (initSt args [])) : PC Try.prog 22 args r :=
  pc_of_awp (X := x22) mixed Try.func22 (c := c22) (by kernel_rfl) (by kernel_rfl) (rs := [2]) (by kernel_rfl) (by kernel_rfl) (by rw [ha]; decide) h
noncomputable def c23 : Code := (Try.f23.body).getD .skip
def an23 : Nat → Ann
  | 0 => ⟨[0], [], []⟩
  | 1 => ⟨[0, 3], [3, 29], [(3, 3, 3)]⟩
  | 2 => ⟨[0, 3, 4], [3, 29], []⟩
  | 3 => ⟨[0, 3, 4, 8], [3, 29], []⟩
  | 4 => ⟨[0, 3, 4], [3, 29], []⟩
  | 5 => ⟨[0, 3, 4], [3, 29], []⟩
  | 6 => ⟨[2], [3, 29], []⟩
  | _ => ⟨[], [], []⟩
noncomputable abbrev x23 : Cx := ⟨Try.prog, id, an23⟩
theorem start23 {args : List PV} {r : PV} (ha : args.length = 1) (h : awp x23 c23 (bodyQ [2] r []) (initSt args [])) : PC Try.prog 23 args r :=
  pc_of_awp (X := x23) mixed Try.func23 (c := c23) (by kernel_rfl) (by kernel_rfl) (rs := [2]) (by kernel_rfl) (by kernel_rfl) (by rw [ha]; decide) h
noncomputable def c24 : Code := (Try.f24.body).getD .skip
def an24 : Nat → Ann
  | 0 => ⟨[0], [], []⟩
  | 1 => ⟨[0, 3], [], []⟩
  | 2 => ⟨[0, 3, 4], [], []⟩
  | 3 => ⟨[0, 3, 4, 8], [], []⟩
  | 4 => ⟨[0, 3, 4], [], []⟩
  | 5 => ⟨[0, 3, 4], [], []⟩
  | 6 => ⟨[2], [], []⟩
  | _ => ⟨[], [], []⟩
noncomputable abbrev x24 : Cx := ⟨Try.prog, id, an24⟩
theorem start24 {args : List PV} {r : PV} (ha : args.length = 1) (h : awp x24 c24 (bodyQ [2] r []) (initSt args [])) : PC Try.prog 24 args r :=
  pc_of_awp (X := x24) mixed Try.func24 (c := c24) (by kernel_rfl) (by kernel_rfl) (rs := [2]) (by kernel_rfl) (by kernel_rfl) (by rw [ha]; decide) h
noncomputable def c25 : Code := (Try.f25.body).getD .skip
def an25 : Nat → Ann
  | 0 => ⟨[0, 1], [], []⟩
  | 1 => ⟨[0, 1, 10], [], []⟩
  | 2 => ⟨[4], [], []⟩
  | 3 => ⟨[0, 1, 5], [], []⟩
  | 4 => ⟨[0, 1, 5, 14], [], []⟩
  | 5 => ⟨[0, 1, 5], [], []⟩
  | 6 => ⟨[0, 1, 5, 53], [], []⟩
  | 7 => ⟨[4], [], []⟩
  | 8 => ⟨[4], [], []⟩
  | _ => ⟨[], [], []⟩
noncomputable abbrev x25 : Cx := ⟨Try.prog, id, an25⟩
theorem start25 {args : List PV} {r : PV} (ha : args.length = 2) (h : awp x25 c25 (bodyQ [4] r []) (initSt args [])) : PC Try.prog 25 args r :=
  pc_of_awp (X := x25) mixed Try.func25 (c := c25) (by kernel_rfl) (by kernel_rfl) (rs := [4]) (by kernel_rfl) (by kernel_rfl) (by rw [ha]; decide) h
noncomputable def c26 : Code := (Try.f26.body).getD .skip
def an26 : Nat → Ann
  | 0 => ⟨[0], [], []⟩
  | 1 => ⟨[0, 3], [3, 34], [(3, 3, 3)]⟩
  | 2 => ⟨[0, 3, 4], [3, 34], []⟩
  | 3 => ⟨[0, 3, 4, 8], [3, 34], []⟩
  | 4 => ⟨[0, 3, 4], [3, 34], []⟩
  | 5 => ⟨[0, 3, 4], [3, 34], []⟩
  | 6 => ⟨[2], [3, 34], []⟩
  | _ => ⟨[], [], []⟩
noncomputable abbrev x26 : Cx := ⟨Try.prog, id, an26⟩
theorem start26 {args : List PV} {r : PV} (ha : args.length = 1) (h : awp x26 c26 (bodyQ [2] r []) (initSt args [])) : PC Try.prog 26 args r :=
  pc_of_awp (X := x26) mixed Try.func26 (c := c26) (by kernel_rfl) (by kernel_rfl) (rs := [2]) (by kernel_rfl) (by kernel_rfl) (by rw [ha]; decide) h
noncomputable def c27 : Code := (Try.f27.body).getD .skip
def an27 : Nat → Ann
  | 0 => ⟨[0, 1, 2], [], []⟩
  | 1 => ⟨[0, 1, 2, 7], [], []⟩
  | 2 => ⟨[0, 1, 2, 7, 15], [], []⟩
  | 3 => ⟨[0, 1, 8], [], []⟩
  | 4 => ⟨[0, 1, 8, 28], [], []⟩
  | 5 => ⟨[0, 1, 8], [], []⟩
  | 6 => ⟨[6], [], []⟩
  | 7 => ⟨[0, 1, 2, 7, 9], [9], []⟩
  | 8 => ⟨[0, 1, 2, 7, 9, 49], [9], []⟩
  | 9 => ⟨[0, 1, 2, 7, 9], [9], []⟩
  | 10 => ⟨[0, 2, 7, 9, 61], [9], []⟩
  | 11 => ⟨[0, 2, 7, 9], [9], []⟩
  | 12 => ⟨[2, 9, 10], [9], []⟩
  | 13 => ⟨[9, 10, 69], [9], []⟩
  | 14 => ⟨[10], [], []⟩
  | 15 => ⟨[6], [], []⟩
  | _ => ⟨[], [], []⟩
noncomputable abbrev x27 : Cx := ⟨Try.prog, id, an27⟩
theorem start27 {args : List PV} {r : PV} (ha : args.length = 3) (h : awp x27 c27 (bodyQ [6] r []) (initSt args [])) : PC Try.prog 27 args r :=
  pc_of_awp (X := x27) mixed Try.func27 (c := c27) (by kernel_rfl) (by kernel_rfl) (rs := [6]) (by kernel_rfl) (by kernel_rfl) (by rw [ha]; decide) h
noncomputable def c28 : Code := (Try.f28.body).getD .skip
def an28 : Nat → Ann
  | 0 => ⟨[0, 1], [], []⟩
  | 1 => ⟨[0, 1, 5], [], []⟩
  | 2 => ⟨[4], [], []⟩
  | _ => ⟨[], [], []⟩
noncomputable abbrev x28 : Cx := ⟨Try.prog, id, an28⟩
theorem start28 {args : List PV} {r : PV} (ha : args.length = 2) (h : awp x28 c28 (bodyQ [4] r []) (initSt args [])) : PC Try.prog 28 args r :=
  pc_of_awp (X := x28) mixed Try.func28 (c := c28) (by kernel_rfl) (by kernel_rfl) (rs := [4]) (by kernel_rfl) (by kernel_rfl) (by rw [ha]; decide) h
noncomputable def c29 : Code := (Try.f29.body).getD .skip
def an29 : Nat → Ann
  | 0 => ⟨[], [], []⟩
  | 1 => ⟨[1], [1, 7], []⟩
  | 2 => ⟨[2, 3], [1, 2, 7, 11], []⟩
  | 3 => ⟨[0], [], []⟩
  | _ => ⟨[], [], []⟩
noncomputable abbrev x29 : Cx := ⟨Try.prog, id, an29⟩
theorem start29 {args : List PV} {r : PV} (ha : args.length = 0) (h : awp x29 c29 (bodyQ [0] r []) (initSt args [])) : PC Try.prog 29 args r :=
  pc_of_awp (X := x29) mixed Try.func29 (c := c29) (by kernel_rfl) (by kernel_rfl) (rs := [0]) (by kernel_rfl) (by kernel_rfl) (by rw [ha]; decide) h
noncomputable def c30 : Code := (Try.f30.body).getD .skip
def an30 : Nat → Ann
  | 0 => ⟨[0, 2], [2, 4], []⟩
  | 1 => ⟨[2], [2, 4], []⟩
  | _ => ⟨[], [], []⟩
noncomputable abbrev x30 : Cx := ⟨Try.prog, id, an30⟩
noncomputable def c31 : Code := (Try.f31.body).getD .skip
def an31 : Nat → Ann
  | 0 => ⟨[1, 2, 4], [2, 4, 6, 8, 39], []⟩
  | 1 => ⟨[1, 2, 4, 23], [2, 4, 6, 8, 39], []⟩
  | 2 => ⟨[4, 5], [4, 6, 39], []⟩
  | 3 => ⟨[1, 2, 4, 6], [2, 4, 6, 8, 39], []⟩
  | 4 => ⟨[1, 2, 4, 6, 26, 27, 28], [2, 4, 6, 8, 39], []⟩
  | 5 => ⟨[1, 2, 4, 6, 26, 27, 28, 29], [2, 4, 6, 8, 39], []⟩
  | 6 => ⟨[1, 2, 4, 6, 7, 8, 26, 27, 28], [2, 4, 6, 8, 39], []⟩
  | 7 => ⟨[1, 2, 4, 6, 7, 8, 9, 26, 27, 28], [2, 4, 6, 8, 39], []⟩
  | 8 => ⟨[1, 2, 4, 6, 8], [2, 4, 6, 8, 39], []⟩
  | 9 => ⟨[1, 2, 4, 6], [2, 4, 6, 8, 39], []⟩
  | 10 => ⟨[1, 2, 4, 6, 7, 8, 9, 26, 27, 28, 44], [2, 4, 6, 8, 39], []⟩
  | 11 => ⟨[1, 2, 4, 6, 26, 27, 28], [2, 4, 6, 8, 39], []⟩
  | 12 => ⟨[1, 2, 4, 6, 7, 8, 51], [2, 4, 6, 8, 39], []⟩
  | 13 => ⟨[4, 6], [4, 6, 39], []⟩
  | 14 => ⟨[4, 5], [4, 6, 39], []⟩
  | 15 => ⟨[1, 2, 4, 6, 7, 8, 60], [2, 4, 6, 8, 39], []⟩
  | 16 => ⟨[4, 6], [4, 6, 39], []⟩
  | 17 => ⟨[4, 5], [4, 6, 39], []⟩
  | 18 => ⟨[1, 2, 4, 6, 26, 27, 28], [2, 4, 6, 8, 39], []⟩
  | 19 => ⟨[4, 6], [4, 6, 39], []⟩
  | 20 => ⟨[4, 5], [4, 6, 39], []⟩
  | _ => ⟨[], [], []⟩
noncomputable abbrev x31 : Cx := ⟨Try.prog, id, an31⟩
noncomputable def c32 : Code := (Try.f32.body).getD .skip
def an32 : Nat → Ann
  | 0 => ⟨[1, 2, 4], [2, 4, 12], []⟩
  | 1 => ⟨[1, 2, 4, 9], [2, 4, 12], []⟩
  | 2 => ⟨[4, 5], [2, 4, 12], []⟩
  | 3 => ⟨[1, 4, 6], [2, 4, 12], []⟩
  | 4 => ⟨[1, 4, 6, 20], [2, 4, 12], []⟩
  | 5 => ⟨[4, 5], [2, 4, 12], []⟩
  | 6 => ⟨[4, 5], [2, 4, 12], []⟩
  | _ => ⟨[], [], []⟩
noncomputable abbrev x32 : Cx := ⟨Try.prog, id, an32⟩
noncomputable def c33 : Code := (Try.f33.body).getD .skip
def an33 : Nat → Ann
  | 0 => ⟨[2, 3], [2, 3], []⟩
  | 1 => ⟨[2, 3, 6, 7], [2, 3, 14], []⟩
  | 2 => ⟨[2, 3, 6, 7, 18], [2, 3, 14], []⟩
  | 3 => ⟨[4, 5], [2, 3, 14], []⟩
  | 4 => ⟨[3, 6, 8], [2, 3, 8, 14, 24], []⟩
  | 5 => ⟨[3, 6, 8, 27], [2, 3, 8, 14, 24], []⟩
  | 6 => ⟨[4, 5], [2, 3, 14], []⟩
  | 7 => ⟨[3, 6, 8, 44], [2, 3, 8, 14, 24], []⟩
  | 8 => ⟨[4, 5], [2, 3, 14], []⟩
  | 9 => ⟨[3, 6, 8, 78], [2, 3, 8, 14, 24], []⟩
  | 10 => ⟨[4, 5], [2, 3, 14], []⟩
  | 11 => ⟨[4, 5], [2, 3, 14], []⟩
  | _ => ⟨[], [], []⟩
noncomputable abbrev x33 : Cx := ⟨Try.prog, id, an33⟩
theorem start33 {args : List PV} {r : PV} (ha : args.length = 2) (h : awp x33 c33 (bodyQ [4, 5] r []) (initSt args [])) : PC Try.prog 33 args r :=
  pc_of_awp (X := x33) mixed Try.func33 (c := c33) (by kernel_rfl) (by kernel_rfl) (rs := [4, 5]) (by kernel_rfl) (by kernel_rfl) (by rw [ha]; decide) h
noncomputable def c34 : Code := (Try.f34.body).getD .skip
def an34 : Nat → Ann
  | 0 => ⟨[2, 3], [2, 3], []⟩
  | 1 => ⟨[2, 3, 10], [2, 3], []⟩
  | 2 => ⟨[4, 5], [], []⟩
  | 3 => ⟨[3, 6], [2, 3, 12], []⟩
  | 4 => ⟨[3, 6, 7], [2, 3, 12], []⟩
  | 5 => ⟨[3, 6, 7, 16], [2, 3, 12], []⟩
  | 6 => ⟨[3, 6, 7], [2, 3, 12], []⟩
  | 7 => ⟨[3, 6, 7, 24], [2, 3, 12], []⟩
  | 8 => ⟨[4, 5], [], []⟩
  | 9 => ⟨[4, 5], [], []⟩
  | _ => ⟨[], [], []⟩
noncomputable abbrev x34 : Cx := ⟨Try.prog, id, an34⟩
theorem start34 {args : List PV} {r : PV} (ha : args.length = 2) (h : awp x34 c34 (bodyQ [4, 5] r []) (initSt args [])) : PC Try.prog 34 args r :=
  pc_of_awp (X := x34) mixed Try.func34 (c := c34) (by kernel_rfl) (by kernel_rfl) (rs := [4, 5]) (by kernel_rfl) (by kernel_rfl) (by rw [ha]; decide) h
noncomputable def c35 : Code := (Try.f35.body).getD .skip
def an35 : Nat → Ann
  | 0 => ⟨[1, 2], [1, 2], []⟩
  | 1 => ⟨[2], [1, 2], []⟩
  | _ => ⟨[], [], []⟩
noncomputable abbrev x35 : Cx := ⟨Try.prog, id, an35⟩
noncomputable def c36 : Code := (Try.f36.body).getD .skip
def an36 : Nat → Ann
  | 0 => ⟨[2, 3], [2, 3], []⟩
  | 1 => ⟨[4], [], []⟩
  | _ => ⟨[], [], []⟩
noncomputable abbrev x36 : Cx := ⟨Try.prog, id, an36⟩
theorem start36 {args : List PV} {r : PV} (ha : args.length = 2) (h : awp x36 c36 (bodyQ [4] r []) (initSt args [])) : PC Try.prog 36 args r :=
  pc_of_awp (X := x36) mixed Try.func36 (c := c36) (by kernel_rfl) (by kernel_rfl) (rs := [4]) (by kernel_rfl) (by kernel_rfl) (by rw [ha]; decide) h
noncomputable def c37 : Code := (Try.f37.body).getD .skip
def an37 : Nat → Ann
  | 0 => ⟨[0], [], []⟩
  | 1 => ⟨[0, 3], [], []⟩
  | 2 => ⟨[3, 6, 7, 8], [], []⟩
  | 3 => ⟨[3, 6, 7, 8, 9], [], []⟩
  | 4 => ⟨[3, 5, 6, 7, 8], [5], []⟩
  | 5 => ⟨[3, 6, 7, 8], [], []⟩
  | 6 => ⟨[3, 6, 7, 8], [], []⟩
  | 7 => ⟨[2], [], []⟩
  | _ => ⟨[], [], []⟩
noncomputable abbrev x37 : Cx := ⟨Try.prog, id, an37⟩
theorem start37 {args : List PV} {r : PV} (ha : args.length = 1) (h : awp x37 c37 (bodyQ [2] r []) (initSt args [])) : PC Try.prog 37 args r :=
  pc_of_awp (X := x37) mixed Try.func37 (c := c37) (by kernel_rfl) (by kernel_rfl) (rs := [2]) (by kernel_rfl) (by kernel_rfl) (by rw [ha]; decide) h
noncomputable def c38 : Code := (Try.f38.body).getD .skip
def an38 : Nat → Ann
  | 0 => ⟨[1, 2, 4], [2, 4], []⟩
  | 1 => ⟨[2, 4, 8, 9, 10], [2, 4], []⟩
  | 2 => ⟨[2, 4, 8, 9, 10, 11], [2, 4], []⟩
  | 3 => ⟨[2, 4, 7, 8, 9, 10], [2, 4], []⟩
  | 4 => ⟨[2, 4, 7, 8, 9, 10, 27], [2, 4], []⟩
  | 5 => ⟨[4, 5], [2, 4], []⟩
  | 6 => ⟨[2, 4, 8, 9, 10], [2, 4], []⟩
  | 7 => ⟨[2, 4, 8, 9, 10], [2, 4], []⟩
  | 8 => ⟨[2, 4, 37], [2, 4], []⟩
  | 9 => ⟨[4, 5], [2, 4], []⟩
  | 10 => ⟨[4, 5], [2, 4], []⟩
  | _ => ⟨[], [], []⟩
noncomputable abbrev x38 : Cx := ⟨Try.prog, id, an38⟩
noncomputable def c39 : Code := (Try.f39.body).getD .skip
def an39 : Nat → Ann
  | 0 => ⟨[1, 2], [2], []⟩
  | 1 => ⟨[1, 2, 7], [2, 14], []⟩
  | 2 => ⟨[1, 2, 7, 18], [2, 14], []⟩
  | 3 => ⟨[4, 5], [2, 14], []⟩
  | 4 => ⟨[1, 2, 8], [2], []⟩
  | 5 => ⟨[2, 8, 20, 21, 22], [2], []⟩
  | 6 => ⟨[2, 8, 20, 21, 22, 23], [2], []⟩
  | 7 => ⟨[2, 8, 10, 20, 21, 22], [2], []⟩
  | 8 => ⟨[2, 8, 10, 20, 21, 22], [2], []⟩
  | 9 => ⟨[2, 8, 20, 21, 22], [2], []⟩
  | 10 => ⟨[2, 8, 20, 21, 22], [2], []⟩
  | 11 => ⟨[4, 5], [2, 14], []⟩
  | _ => ⟨[], [], []⟩
noncomputable abbrev x39 : Cx := ⟨Try.prog, id, an39⟩
theorem start39 {args : List PV} {r : PV} (ha : args.length = 2) (h : awp x39 c39 (bodyQ [4, 5] r []) (initSt args [])) : PC Try.prog 39 args r :=
  pc_of_awp (X := x39) mixed Try.func39 (c := c39) (by kernel_rfl) (by kernel_rfl) (rs := [4, 5]) (by kernel_rfl) (by kernel_rfl) (by rw [ha]; decide) h
noncomputable def c40 : Code := (Try.f40.body).getD .skip
def an40 : Nat → Ann
  | 0 => ⟨[1, 2, 4], [2, 4], []⟩
  | 1 => ⟨[1, 2, 4, 6], [2, 4], []⟩
  | 2 => ⟨[1, 2, 4, 6, 10], [2, 4], []⟩
  | 3 => ⟨[1, 2, 4, 6], [2, 4], []⟩
  | 4 => ⟨[1, 2, 4, 6, 32], [2, 4], []⟩
  | 5 => ⟨[4, 5], [2, 4], []⟩
  | 6 => ⟨[1, 2, 4, 6], [2, 4], []⟩
  | 7 => ⟨[2, 4, 44], [2, 4], []⟩
  | 8 => ⟨[4, 5], [2, 4], []⟩
  | 9 => ⟨[4, 5], [2, 4], []⟩
  | _ => ⟨[], [], []⟩
noncomputable abbrev x40 : Cx := ⟨Try.prog, id, an40⟩
noncomputable def c41 : Code := (Try.f41.body).getD .skip
def an41 : Nat → Ann
  | 0 => ⟨[1, 2], [2], []⟩
  | 1 => ⟨[1, 2, 7], [2, 13], []⟩
  | 2 => ⟨[1, 2, 7, 17], [2, 13], []⟩
  | 3 => ⟨[4, 5], [2, 13], []⟩
  | 4 => ⟨[1, 2, 8], [2], []⟩
  | 5 => ⟨[1, 2, 8, 9], [2], []⟩
  | 6 => ⟨[1, 2, 8, 9, 22], [2], []⟩
  | 7 => ⟨[1, 2, 8, 9], [2], []⟩
  | 8 => ⟨[1, 2, 8, 9], [2], []⟩
  | 9 => ⟨[1, 2, 8, 9], [2], []⟩
  | 10 => ⟨[4, 5], [2, 13], []⟩
  | _ => ⟨[], [], []⟩
noncomputable abbrev x41 : Cx := ⟨Try.prog, id, an41⟩
theorem start41 {args : List PV} {r : PV} (ha : args.length = 2) (h : awp x41 c41 (bodyQ [4, 5] r []) (initSt args [])) : PC Try.prog 41 args r :=
  pc_of_awp (X := x41) mixed Try.func41 (c := c41) (by kernel_rfl) (by kernel_rfl) (rs := [4, 5]) (by kernel_rfl) (by kernel_rfl) (by rw [ha]; decide) h
noncomputable def c42 : Code := (Try.f42.body).getD .skip
def an42 : Nat → Ann
  | 0 => ⟨[1, 3, 5, 6], [3, 5, 6, 26, 44], []⟩
  | 1 => ⟨[1, 3, 5, 6, 9], [3, 5, 6, 13, 26, 44], []⟩
  | 2 => ⟨[1, 3, 5, 6, 9, 17], [3, 5, 6, 13, 26, 44], []⟩
  | 3 => ⟨[6, 7], [3, 5, 6, 13, 26, 44], []⟩
  | 4 => ⟨[1, 3, 5, 6, 22], [3, 5, 6, 26, 44], []⟩
  | 5 => ⟨[6, 7], [3, 5, 6, 13, 26, 44], []⟩
  | 6 => ⟨[1, 3, 5, 6], [3, 5, 6, 26, 44], []⟩
  | 7 => ⟨[3, 6], [3, 5, 6, 26, 44], []⟩
  | 8 => ⟨[6, 7], [3, 5, 6, 13, 26, 44], []⟩
  | _ => ⟨[], [], []⟩
noncomputable abbrev x42 : Cx := ⟨Try.prog, id, an42⟩
noncomputable def c43 : Code := (Try.f43.body).getD .skip
def an43 : Nat → Ann
  | 0 => ⟨[1, 3, 5, 6], [3, 5, 6, 40, 47, 50, 58], []⟩
  | 1 => ⟨[1, 3, 5, 6, 9], [3, 5, 6, 15, 40, 47, 50, 58], []⟩
  | 2 => ⟨[1, 3, 5, 6, 9, 19], [3, 5, 6, 15, 40, 47, 50, 58], []⟩
  | 3 => ⟨[6, 7], [3, 5, 6, 15, 40, 47, 50, 58], []⟩
  | 4 => ⟨[1, 3, 5, 6, 24], [3, 5, 6, 40, 47, 50, 58], []⟩
  | 5 => ⟨[6, 7], [3, 5, 6, 15, 40, 47, 50, 58], []⟩
  | 6 => ⟨[1, 3, 6, 10], [3, 5, 6, 10, 37, 40, 47, 50, 58], []⟩
  | 7 => ⟨[3, 6], [3, 5, 6, 40, 47, 50, 58], []⟩
  | 8 => ⟨[6, 7], [3, 5, 6, 15, 40, 47, 50, 58], []⟩
  | _ => ⟨[], [], []⟩
noncomputable abbrev x43 : Cx := ⟨Try.prog, id, an43⟩
noncomputable def c44 : Code := (Try.f44.body).getD .skip
def an44 : Nat → Ann
  | 0 => ⟨[2, 3], [2, 3], []⟩
  | 1 => ⟨[2, 3, 34], [2, 3], []⟩
  | 2 => ⟨[4], [], []⟩
  | 3 => ⟨[2, 3, 5], [2, 3], []⟩
  | 4 => ⟨[2, 3, 5, 39], [2, 3], []⟩
  | 5 => ⟨[2, 3, 5], [2, 3], []⟩
  | 6 => ⟨[2, 3, 5, 52], [2, 3], []⟩
  | 7 => ⟨[4], [], []⟩
  | 8 => ⟨[4], [], []⟩
  | _ => ⟨[], [], []⟩
noncomputable abbrev x44 : Cx := ⟨Try.prog, id, an44⟩
theorem start44 {args : List PV} {r : PV} (ha : args.length = 2) (h : awp x44 c44 (bodyQ [4] r []) (initSt args [])) : PC Try.prog 44 args r :=
  pc_of_awp (X := x44) mixed Try.func44 (c := c44) (by kernel_rfl) (by kernel_rfl) (rs := [4]) (by kernel_rfl) (by kernel_rfl) (by rw [ha]; decide) h
noncomputable def c45 : Code := (Try.f45.body).getD .skip
def an45 : Nat → Ann
  | 0 => ⟨[0, 1], [], []⟩
  | 1 => ⟨[0, 1, 6], [], []⟩
  | 2 => ⟨[0, 1], [], []⟩
  | 3 => ⟨[4], [], []⟩
  | _ => ⟨[], [], []⟩
noncomputable abbrev x45 : Cx := ⟨Try.prog, id, an45⟩
theorem start45 {args : List PV} {r : PV} (ha : args.length = 2) (h : awp x45 c45 (bodyQ [4] r []) (initSt args [])) : PC Try.prog 45 args r :=
  pc_of_awp (X := x45) mixed Try.func45 (c := c45) (by kernel_rfl) (by kernel_rfl) (rs := [4]) (by kernel_rfl) (by kernel_rfl) (by rw [ha]; decide) h
noncomputable def c46 : Code := (Try.f46.body).getD .skip
def an46 : Nat → Ann
  | 0 => ⟨[2, 3], [2, 3], []⟩
  | 1 => ⟨[4], [], []⟩
  | _ => ⟨[], [], []⟩
noncomputable abbrev x46 : Cx := ⟨Try.prog, id, an46⟩
theorem start46 {args : List PV} {r : PV} (ha : args.length = 2) (h : awp x46 c46 (bodyQ [4] r []) (initSt args [])) : PC Try.prog 46 args r :=
  pc_of_awp (X := x46) mixed Try.func46 (c := c46) (by kernel_rfl) (by kernel_rfl) (rs := [4]) (by kernel_rfl) (by kernel_rfl) (by rw [ha]; decide) h
noncomputable def c47 : Code := (Try.f47.body).getD .skip
def an47 : Nat → Ann
  | 0 => ⟨[1], [1], []⟩
  | 1 => ⟨[1, 4], [1], []⟩
  | 2 => ⟨[2], [], []⟩
  | 3 => ⟨[2], [], []⟩
  | _ => ⟨[], [], []⟩
noncomputable abbrev x47 : Cx := ⟨Try.prog, id, an47⟩
theorem start47 {args : List PV} {r : PV} (ha : args.length = 1) (h : awp x47 c47 (bodyQ [2] r []) (initSt args [])) : PC Try.prog 47 args r :=
  pc_of_awp (X := x47) mixed Try.func47 (c := c47) (by kernel_rfl) (by kernel_rfl) (rs := [2]) (by kernel_rfl) (by kernel_rfl) (by rw [ha]; decide) h
noncomputable def c48 : Code := (Try.f48.body).getD .skip
def an48 : Nat → Ann
  | 0 => ⟨[1], [1], []⟩
  | 1 => ⟨[2], [], []⟩
  | _ => ⟨[], [], []⟩
noncomputable abbrev x48 : Cx := ⟨Try.prog, id, an48⟩
theorem start48 {args : List PV} {r : PV} (ha : args.length = 1) (h : awp x48 c48 (bodyQ [2] r []) (initSt args [])) : PC Try.prog 48 args r :=
  pc_of_awp (X := x48) mixed Try.func48 (c := c48) (by kernel_rfl) (by kernel_rfl) (rs := [2]) (by kernel_rfl) (by kernel_rfl) (by rw [ha]; decide) h
noncomputable def c49 : Code := (Try.f49.body).getD .skip
def an49 : Nat → Ann
  | 0 => ⟨[1, 2, 3], [3], []⟩
  | 1 => ⟨[1, 2, 3, 7], [3], []⟩
  | 2 => ⟨[6], [], []⟩
  | 3 => ⟨[1, 2, 3, 12], [3], []⟩
  | 4 => ⟨[6], [], []⟩
  | 5 => ⟨[6], [], []⟩
  | _ => ⟨[], [], []⟩
noncomputable abbrev x49 : Cx := ⟨Try.prog, id, an49⟩
theorem start49 {args : List PV} {r : PV} (ha : args.length = 3) (h : awp x49 c49 (bodyQ [6] r []) (initSt args [])) : PC Try.prog 49 args r :=
  pc_of_awp (X := x49) mixed Try.func49 (c := c49) (by kernel_rfl) (by kernel_rfl) (rs := [6]) (by kernel_rfl) (by kernel_rfl) (by rw [ha]; decide) h
noncomputable def c50 : Code := (Try.f50.body).getD .skip
def an50 : Nat → Ann
  | 0 => ⟨[0, 1], [], []⟩
  | 1 => ⟨[0, 1, 5], [], []⟩
  | 2 => ⟨[0, 1, 5, 9], [], []⟩
  | 3 => ⟨[0, 1, 5], [], []⟩
  | 4 => ⟨[0, 1, 5, 33], [], []⟩
  | 5 => ⟨[4], [], []⟩
  | 6 => ⟨[4], [], []⟩
  | _ => ⟨[], [], []⟩
noncomputable abbrev x50 : Cx := ⟨Try.prog, id, an50⟩
theorem start50 {args : List PV} {r : PV} (ha : args.length = 2) (h : awp x50 c50 (bodyQ [4] r []) (initSt args [])) : PC Try.prog 50 args r :=
  pc_of_awp (X := x50) mixed Try.func50 (c := c50) (by kernel_rfl) (by kernel_rfl) (rs := [4]) (by kernel_rfl) (by kernel_rfl) (by rw [ha]; decide) h
noncomputable def c51 : Code := (Try.f51.body).getD .skip
def an51 : Nat → Ann
  | 0 => ⟨[0], [], []⟩
  | 1 => ⟨[0, 3], [10], []⟩
  | 2 => ⟨[0, 3, 4], [10, 11], []⟩
  | 3 => ⟨[0, 3, 4, 5], [5, 10, 11, 94, 101, 105], [(5, 5, 5)]⟩
  | 4 => ⟨[0, 3, 4, 5, 6], [5, 10, 11, 94, 101, 105], []⟩
  | 5 => ⟨[0, 3, 4, 5, 6, 19], [5, 10, 11, 94, 101, 105], []⟩
  | 6 => ⟨[0, 3, 4, 5, 6], [5, 10, 11, 94, 101, 105], []⟩
  | 7 => ⟨[0, 3, 4, 5, 6, 7], [5, 7, 10, 11, 94, 101, 105], []⟩
  | 8 => ⟨[0, 3, 4, 5, 6, 7, 8], [5, 7, 8, 10, 11, 45, 66, 72, 92, 94, 101, 105], []⟩
  | 9 => ⟨[0, 3, 4, 5, 6, 7, 8, 36], [5, 7, 8, 10, 11, 45, 66, 72, 92, 94, 101, 105], []⟩
  | 10 => ⟨[0, 3, 4, 5, 6, 7, 8], [5, 7, 8, 10, 11, 45, 66, 72, 92, 94, 101, 105], []⟩
  | 11 => ⟨[0, 3, 4, 5, 6, 7, 8, 49], [5, 7, 8, 10, 11, 45, 66, 72, 92, 94, 101, 105], []⟩
  | 12 => ⟨[0, 3, 4, 5, 6, 7, 8, 49, 50], [5, 7, 8, 10, 11, 45, 66, 72, 92, 94, 101, 105], []⟩
  | 13 => ⟨[0, 3, 4, 5, 6, 7, 8, 49, 50], [5, 7, 8, 10, 11, 45, 66, 72, 92, 94, 101, 105], []⟩
  | 14 => ⟨[0, 3, 4, 5, 6, 7, 8, 49, 50], [5, 7, 8, 10, 11, 45, 66, 72, 92, 94, 101, 105], []⟩
  | 15 => ⟨[0, 3, 4, 5, 6, 7, 8, 49, 50], [5, 7, 8, 10, 11, 45, 66, 72, 92, 94, 101, 105], []⟩
  | 16 => ⟨[0, 3, 4, 5, 6, 7, 8], [5, 7, 8, 10, 11, 45, 66, 72, 92, 94, 101, 105], []⟩
  | 17 => ⟨[0, 3, 4, 5, 6, 7, 8, 65], [5, 7, 8, 10, 11, 45, 66, 72, 92, 94, 101, 105], []⟩
  | 18 => ⟨[0, 3, 4, 5, 6, 7, 8], [5, 7, 8, 10, 11, 45, 66, 72, 92, 94, 101, 105], []⟩
  | 19 => ⟨[0, 3, 4, 5, 6, 8, 71], [5, 8, 10, 11, 45, 66, 72, 92, 94, 101, 105], []⟩
  | 20 => ⟨[0, 3, 4, 5, 6, 8], [5, 8, 10, 11, 45, 66, 72, 92, 94, 101, 105], []⟩
  | 21 => ⟨[0, 3, 4, 5, 6, 7, 8, 49, 74], [5, 7, 8, 10, 11, 45, 66, 72, 92, 94, 101, 105], []⟩
  | 22 => ⟨[0, 3, 4, 5, 6, 7, 8, 49, 74], [5, 7, 8, 10, 11, 45, 66, 72, 92, 94, 101, 105], []⟩
  | 23 => ⟨[0, 3, 4, 5, 6, 7, 8, 74], [5, 7, 8, 10, 11, 45, 66, 72, 92, 94, 101, 105], []⟩
  | 24 => ⟨[0, 3, 4, 5, 6, 8, 9], [5, 8, 10, 11, 45, 66, 72, 92, 94, 101, 105], []⟩
  | 25 => ⟨[0, 3, 4, 5, 6, 8, 9], [5, 8, 10, 11, 45, 66, 72, 92, 94, 101, 105], []⟩
  | 26 => ⟨[0, 3, 4, 5, 6, 8], [5, 8, 10, 11, 45, 66, 72, 92, 94, 101, 105], []⟩
  | 27 => ⟨[0, 3, 4, 5, 6], [5, 10, 11, 94, 101, 105], []⟩
  | 28 => ⟨[2], [5, 94, 101, 105, 107], []⟩
  | _ => ⟨[], [], []⟩
noncomputable abbrev x51 : Cx := ⟨Try.prog, id, an51⟩
theorem start51 {args : List PV} {r : PV} (ha : args.length = 1) (h : awp x51 c51 (bodyQ [2] r []) (initSt args [])) : PC Try.prog 51 args r :=
  pc_of_awp (X := x51) mixed Try.func51 (c := c51) (by kernel_rfl) (by kernel_rfl) (rs := [2]) (by kernel_rfl) (by kernel_rfl) (by rw [ha]; decide) h
noncomputable def c53 : Code := (Try.f53.body).getD .skip
def an53 : Nat → Ann
  | 0 => ⟨[0, 1], [], []⟩
  | 1 => ⟨[0, 1, 10], [], []⟩
  | 2 => ⟨[4], [], []⟩
  | 3 => ⟨[0, 1, 5], [], []⟩
  | 4 => ⟨[0, 1, 5, 14], [], []⟩
  | 5 => ⟨[0, 1, 5], [], []⟩
  | 6 => ⟨[0, 1, 5, 25], [], []⟩
  | 7 => ⟨[4], [], []⟩
  | 8 => ⟨[4], [], []⟩
  | _ => ⟨[], [], []⟩
noncomputable abbrev x53 : Cx := ⟨Try.prog, id, an53⟩
theorem start53 {args : List PV} {r : PV} (ha : args.length = 2) (h : awp x53 c53 (bodyQ [4] r []) (initSt args [])) : PC Try.prog 53 args r :=
  pc_of_awp (X := x53) mixed Try.func53 (c := c53) (by kernel_rfl) (by kernel_rfl) (rs := [4]) (by kernel_rfl) (by kernel_rfl) (by rw [ha]; decide) h
noncomputable def c54 : Code := (Try.f54.body).getD .skip
def an54 : Nat → Ann
  | 0 => ⟨[0], [], []⟩
  | 1 => ⟨[0, 3], [], []⟩
  | 2 => ⟨[0, 3, 4], [], []⟩
  | 3 => ⟨[0, 3, 4, 8], [], []⟩
  | 4 => ⟨[0, 3, 4], [], []⟩
  | 5 => ⟨[0, 3, 4], [], []⟩
  | 6 => ⟨[2], [], []⟩
  | _ => ⟨[], [], []⟩
noncomputable abbrev x54 : Cx := ⟨Try.prog, id, an54⟩
theorem start54 {args : List PV} {r : PV} (ha : args.length = 1) (h : awp x54 c54 (bodyQ [2] r []) (initSt args [])) : PC Try.prog 54 args r :=
  pc_of_awp (X := x54) mixed Try.func54 (c := c54) (by kernel_rfl) (by kernel_rfl) (rs := [2]) (by kernel_rfl) (by kernel_rfl) (by rw [ha]; decide) h
noncomputable def c55 : Code := (Try.f55.body).getD .skip
def an55 : Nat → Ann
  | 0 => ⟨[0], [], []⟩
  | 1 => ⟨[0, 4], [], []⟩
  | 2 => ⟨[2], [2, 5, 7], [(2, 2, 5)]⟩
  | 3 => ⟨[2], [2, 5, 7], []⟩
  | _ => ⟨[], [], []⟩
noncomputable abbrev x55 : Cx := ⟨Try.prog, id, an55⟩
theorem start55 {args : List PV} {r : PV} (ha : args.length = 1) (h : awp x55 c55 (bodyQ [2] r []) (initSt args [])) : PC Try.prog 55 args r :=
  pc_of_awp (X := x55) mixed Try.func55 (c := c55) (by kernel_rfl) (by kernel_rfl) (rs := [2]) (by kernel_rfl) (by kernel_rfl) (by rw [ha]; decide) h
noncomputable def c56 : Code := (Try.f56.body).getD .skip
def an56 : Nat → Ann
  | 0 => ⟨[0, 1], [], []⟩
  | 1 => ⟨[0, 1, 10], [], []⟩
  | 2 => ⟨[4], [], []⟩
  | 3 => ⟨[0, 1, 5], [], []⟩
  | 4 => ⟨[0, 1, 5, 14], [], []⟩
  | 5 => ⟨[0, 1, 5], [], []⟩
  | 6 => ⟨[0, 1, 5, 25], [], []⟩
  | 7 => ⟨[4], [], []⟩
  | 8 => ⟨[4], [], []⟩
  | _ => ⟨[], [], []⟩
noncomputable abbrev x56 : Cx := ⟨Try.prog, id, an56⟩
theorem start56 {args : List PV} {r : PV} (ha : args.length = 2) (h : awp x56 c56 (bodyQ [4] r []) (initSt args [])) : PC Try.prog 56 args r :=
  pc_of_awp (X := x56) mixed Try.func56 (c := c56) (by kernel_rfl) (by kernel_rfl) (rs := [4]) (by kernel_rfl) (by kernel_rfl) (by rw [ha]; decide) h
noncomputable def c57 : Code := (Try.f57.body).getD .skip
def an57 : Nat → Ann
  | 0 => ⟨[0, 1], [], []⟩
  | 1 => ⟨[0, 1, 10], [], []⟩
  | 2 => ⟨[4], [], []⟩
  | 3 => ⟨[0, 1, 5], [], []⟩
  | 4 => ⟨[0, 1, 5, 14], [], []⟩
  | 5 => ⟨[0, 1, 5], [], []⟩
  | 6 => ⟨[0, 1, 5, 26], [], []⟩
  | 7 => ⟨[4], [], []⟩
  | 8 => ⟨[4], [], []⟩
  | _ => ⟨[], [], []⟩
noncomputable abbrev x57 : Cx := ⟨Try.prog, id, an57⟩
theorem start57 {args : List PV} {r : PV} (ha : args.length = 2) (h : awp x57 c57 (bodyQ [4] r []) (initSt args [])) : PC Try.prog 57 args r :=
  pc_of_awp (X := x57) mixed Try.func57 (c := c57) (by kernel_rfl) (by kernel_rfl) (rs := [4]) (by kernel_rfl) (by kernel_rfl) (by rw [ha]; decide) h
noncomputable def c58 : Code := (Try.f58.body).getD .skip
def an58 : Nat → Ann
  | 0 => ⟨[0, 1], [], []⟩
  | 1 => ⟨[0, 1, 10], [], []⟩
  | 2 => ⟨[4], [], []⟩
  | 3 => ⟨[0, 1, 12, 13], [], []⟩
  | 4 => ⟨[0, 1, 12, 13, 14], [], []⟩
  | 5 => ⟨[0, 1, 5, 12, 13], [], []⟩
  | 6 => ⟨[0, 1, 12, 13, 24], [], []⟩
  | 7 => ⟨[4], [], []⟩
  | 8 => ⟨[0, 1, 12, 13], [], []⟩
  | 9 => ⟨[4], [], []⟩
  | _ => ⟨[], [], []⟩
noncomputable abbrev x58 : Cx := ⟨Try.prog, id, an58⟩
theorem start58 {args : List PV} {r : PV} (ha : args.length = 2) (h : awp x58 c58 (bodyQ [4] r []) (initSt args [])) : PC Try.prog 58 args r :=
  pc_of_awp (X := x58) mixed Try.func58 (c := c58) (by kernel_rfl) (by kernel_rfl) (rs := [4]) (by kernel_rfl) (by kernel_rfl) (by rw [ha]; decide) h
noncomputable def c59 : Code := (Try.f59.body).getD .skip
def an59 : Nat → Ann
  | 0 => ⟨[0, 1], [], []⟩
  | 1 => ⟨[0, 1, 10], [], []⟩
  | 2 => ⟨[4], [], []⟩
  | 3 => ⟨[0, 1, 12, 13], [], []⟩
  | 4 => ⟨[0, 1, 12, 13, 14], [], []⟩
  | 5 => ⟨[0, 1, 5, 12, 13], [], []⟩
  | 6 => ⟨[0, 1, 12, 13, 24], [], []⟩
  | 7 => ⟨[4], [], []⟩
  | 8 => ⟨[0, 1, 12, 13], [], []⟩
  | 9 => ⟨[4], [], []⟩
  | _ => ⟨[], [], []⟩
noncomputable abbrev x59 : Cx := ⟨Try.prog, id, an59⟩
theorem start59 {args : List PV} {r : PV} (ha : args.length = 2) (h : awp x59 c59 (bodyQ [4] r []) (initSt args [])) : PC Try.prog 59 args r :=
  pc_of_awp (X := x59) mixed Try.func59 (c := c59) (by kernel_rfl) (by kernel_rfl) (rs := [4]) (by kernel_rfl) (by kernel_rfl) (by rw [ha]; decide) h
noncomputable def c60 : Code := (Try.f60.body).getD .skip
def an60 : Nat → Ann
  | 0 => ⟨[0, 1, 2], [], []⟩
  | 1 => ⟨[0, 1, 2, 14], [], []⟩
  | 2 => ⟨[6], [], []⟩
  | 3 => ⟨[1, 2, 15, 16, 17], [], []⟩
  | 4 => ⟨[1, 2, 15, 16, 17, 18], [], []⟩
  | 5 => ⟨[1, 2, 7, 8, 15, 16, 17], [8], []⟩
  | 6 => ⟨[1, 2, 8, 9, 15, 16, 17], [8, 9], []⟩
  | 7 => ⟨[1, 2, 15, 16, 17, 30], [], []⟩
  | 8 => ⟨[6], [], []⟩
  | 9 => ⟨[1, 2, 15, 16, 17], [], []⟩
  | 10 => ⟨[6], [], []⟩
  | _ => ⟨[], [], []⟩
noncomputable abbrev x60 : Cx := ⟨Try.prog, id, an60⟩
theorem start60 {args : List PV} {r : PV} (ha : args.length = 3) (h : awp x60 c60 (bodyQ [6] r []) (initSt args [])) : PC Try.prog 60 args r :=
  pc_of_awp (X := x60) mixed Try.func60 (c := c60) (by kernel_rfl) (by kernel_rfl) (rs := [6]) (by kernel_rfl) (by kernel_rfl) (by rw [ha]; decide) h
noncomputable def c61 : Code := (Try.f61.body).getD .skip
def an61 : Nat → Ann
  | 0 => ⟨[1], [1], []⟩
  | 1 => ⟨[2], [], []⟩
  | _ => ⟨[], [], []⟩
noncomputable abbrev x61 : Cx := ⟨Try.prog, id, an61⟩
theorem start61 {args : List PV} {r : PV} (ha : args.length = 1) (h : awp x61 c61 (bodyQ [2] r []) (initSt args [])) : PC Try.prog 61 args r :=
  pc_of_awp (X := x61) mixed Try.func61 (c := c61) (by kernel_rfl) (by kernel_rfl) (rs := [2]) (by kernel_rfl) (by kernel_rfl) (by rw [ha]; decide) h
noncomputable def c62 : Code := (Try.f62.body).getD .skip
def an62 : Nat → Ann
  | 0 => ⟨[0, 2], [], []⟩
  | 1 => ⟨[2, 4], [4], []⟩
  | 2 => ⟨[2, 4, 6], [4], []⟩
  | 3 => ⟨[2, 4], [4], []⟩
  | 4 => ⟨[2], [], []⟩
  | _ => ⟨[], [], []⟩
noncomputable abbrev x62 : Cx := ⟨Try.prog, id, an62⟩
theorem start62 {args : List PV} {r : PV} (ha : args.length = 1) (h : awp x62 c62 (bodyQ [2] r []) (initSt args [])) : PC Try.prog 62 args r :=
  pc_of_awp (X := x62) mixed Try.func62 (c := c62) (by kernel_rfl) (by kernel_rfl) (rs := [2]) (by kernel_rfl) (by kernel_rfl) (by rw [ha]; decide) h
noncomputable def c64 : Code := (Try.f64.body).getD .skip
def an64 : Nat → Ann
  | 0 => ⟨[1], [1], []⟩
  | 1 => ⟨[1, 7], [1], []⟩
  | 2 => ⟨[3], [1, 11], []⟩
  | 3 => ⟨[2], [], []⟩
  | 4 => ⟨[2], [], []⟩
  | _ => ⟨[], [], []⟩
noncomputable abbrev x64 : Cx := ⟨Try.prog, id, an64⟩
theorem start64 {args : List PV} {r : PV} (ha : args.length = 1) (h : awp x64 c64 (bodyQ [2] r []) (initSt args [])) : PC Try.prog 64 args r :=
  pc_of_awp (X := x64) mixed Try.func64 (c := c64) (by kernel_rfl) (by kernel_rfl) (rs := [2]) (by kernel_rfl) (by kernel_rfl) (by rw [ha]; decide) h
noncomputable def c65 : Code := (Try.f65.body).getD .skip
def an65 : Nat → Ann
  | 0 => ⟨[0], [], []⟩
  | 1 => ⟨[0, 4], [], []⟩
  | 2 => ⟨[2, 3], [], []⟩
  | _ => ⟨[], [], []⟩
noncomputable abbrev x65 : Cx := ⟨Try.prog, id, an65⟩
theorem start65 {args : List PV} {r : PV} (ha : args.length = 1) (h : awp x65 c65 (bodyQ [2, 3] r []) (initSt args [])) : PC Try.prog 65 args r :=
  pc_of_awp (X := x65) mixed Try.func65 (c := c65) (by kernel_rfl) (by kernel_rfl) (rs := [2, 3]) (by kernel_rfl) (by kernel_rfl) (by rw [ha]; decide) h
end Go.Proofs.Ytafcbjepmjcpgaa
