/- Code, and what is kept. -/
import Derived.Test.YtafcbjepmjcpgaaAg0
import Derived.Test.YtafcbjepmjcpgaaAwT
namespace Go.Proofs.Ytafcbjepmjcpgaa
set_option linter.unusedSimpArgs false
set_option linter.unusedVariables false
open Go
set_option maxRecDepth 100000

noncomputable def c_maps_Range_end : Code := (Try.f48.body).getD .skip
def nf_maps_Range_end : List (Nat × Nf) := []
def fp_maps_Range_end : List (Nat × List Nat) := []
def an_maps_Range_end : Nat → Ann
  | 0 => ⟨[1], [1], [], [], [1]⟩
  | 1 => ⟨[2], [], [], [], []⟩
  | _ => ⟨[], [], [], [], []⟩
noncomputable abbrev x_maps_Range_end : Cx := ⟨Try.prog, ⟨id, nf_maps_Range_end, fp_maps_Range_end⟩, an_maps_Range_end⟩
theorem start_maps_Range_end {args : List PV} {r : PV} (ha : args.length = 1) (h : awp x_maps_Range_end c_maps_Range_end (bodyR Try.prog [.tmp 2] r []) (initSt args [])) : PC Try.prog 48 args r :=
  pc_of_awp (X := x_maps_Range_end) mixed Try.func48 (c := c_maps_Range_end) (by kernel_rfl) (by kernel_rfl) (rs := [.tmp 2]) (by kernel_rfl) (by kernel_rfl) (by rw [ha]; decide) h
noncomputable def c_maps_Range_side : Code := (Try.f49.body).getD .skip
def nf_maps_Range_side : List (Nat × Nf) := []
def fp_maps_Range_side : List (Nat × List Nat) := []
def an_maps_Range_side : Nat → Ann
  | 0 => ⟨[1, 2, 3], [3], [], [], [3]⟩
  | 1 => ⟨[1, 2, 3, 7], [3], [], [], [3]⟩
  | 2 => ⟨[6], [], [], [], []⟩
  | 3 => ⟨[1, 2, 3, 12], [3], [], [], [3]⟩
  | 4 => ⟨[6], [], [], [], []⟩
  | 5 => ⟨[6], [], [], [], []⟩
  | _ => ⟨[], [], [], [], []⟩
noncomputable abbrev x_maps_Range_side : Cx := ⟨Try.prog, ⟨id, nf_maps_Range_side, fp_maps_Range_side⟩, an_maps_Range_side⟩
theorem start_maps_Range_side {args : List PV} {r : PV} (ha : args.length = 3) (h : awp x_maps_Range_side c_maps_Range_side (bodyR Try.prog [.tmp 6] r []) (initSt args [])) : PC Try.prog 49 args r :=
  pc_of_awp (X := x_maps_Range_side) mixed Try.func49 (c := c_maps_Range_side) (by kernel_rfl) (by kernel_rfl) (rs := [.tmp 6]) (by kernel_rfl) (by kernel_rfl) (by rw [ha]; decide) h
noncomputable def c_maps_To : Code := (Try.f18.body).getD .skip
def nf_maps_To : List (Nat × Nf) := []
def fp_maps_To : List (Nat × List Nat) := []
def an_maps_To : Nat → Ann
  | 0 => ⟨[0, 1, 2], [], [], [], []⟩
  | 1 => ⟨[0, 1, 2, 7], [], [], [], []⟩
  | 2 => ⟨[1, 2, 7, 10, 11, 12], [], [], [], []⟩
  | 3 => ⟨[1, 2, 7, 10, 11, 12, 13], [], [], [], []⟩
  | 4 => ⟨[1, 2, 7, 9, 10, 11, 12], [9], [], [], [9]⟩
  | 5 => ⟨[6], [], [], [], []⟩
  | 6 => ⟨[1, 2, 7, 9, 10, 11, 12, 20], [9], [], [], [9]⟩
  | 7 => ⟨[1, 2, 7, 10, 11, 12], [], [], [], []⟩
  | 8 => ⟨[1, 2, 7, 9, 32], [9], [], [], [9]⟩
  | 9 => ⟨[7, 9, 37], [9], [], [], [9]⟩
  | 10 => ⟨[6], [], [], [], []⟩
  | 11 => ⟨[1, 2, 7, 10, 11, 12], [], [], [], []⟩
  | 12 => ⟨[6], [], [], [], []⟩
  | _ => ⟨[], [], [], [], []⟩
noncomputable abbrev x_maps_To : Cx := ⟨Try.prog, ⟨id, nf_maps_To, fp_maps_To⟩, an_maps_To⟩
theorem start_maps_To {args : List PV} {r : PV} (ha : args.length = 3) (h : awp x_maps_To c_maps_To (bodyR Try.prog [.tmp 6] r []) (initSt args [])) : PC Try.prog 18 args r :=
  pc_of_awp (X := x_maps_To) mixed Try.func18 (c := c_maps_To) (by kernel_rfl) (by kernel_rfl) (rs := [.tmp 6]) (by kernel_rfl) (by kernel_rfl) (by rw [ha]; decide) h
noncomputable def c_diptychlaw10_shown : Code := (Try.f15.body).getD .skip
def nf_diptychlaw10_shown : List (Nat × Nf) := []
def fp_diptychlaw10_shown : List (Nat × List Nat) := []
def an_diptychlaw10_shown : Nat → Ann
  | 0 => ⟨[], [], [], [], []⟩
  | 1 => ⟨[1], [3], [], [.ren 3 1], [1, 3]⟩
  | 2 => ⟨[0], [], [], [], []⟩
  | _ => ⟨[], [], [], [], []⟩
noncomputable abbrev x_diptychlaw10_shown : Cx := ⟨Try.prog, ⟨id, nf_diptychlaw10_shown, fp_diptychlaw10_shown⟩, an_diptychlaw10_shown⟩
theorem start_diptychlaw10_shown {args : List PV} {r : PV} (ha : args.length = 0) (h : awp x_diptychlaw10_shown c_diptychlaw10_shown (bodyR Try.prog [.tmp 0] r []) (initSt args [])) : PC Try.prog 15 args r :=
  pc_of_awp (X := x_diptychlaw10_shown) mixed Try.func15 (c := c_diptychlaw10_shown) (by kernel_rfl) (by kernel_rfl) (rs := [.tmp 0]) (by kernel_rfl) (by kernel_rfl) (by rw [ha]; decide) h
noncomputable def c_maps_Right : Code := (Try.f16.body).getD .skip
def nf_maps_Right : List (Nat × Nf) := []
def fp_maps_Right : List (Nat × List Nat) := []
def an_maps_Right : Nat → Ann
  | 0 => ⟨[0], [], [], [], []⟩
  | 1 => ⟨[0, 3], [], [], [], []⟩
  | 2 => ⟨[3, 6, 7, 8], [], [], [], []⟩
  | 3 => ⟨[3, 6, 7, 8, 9], [], [], [], []⟩
  | 4 => ⟨[3, 5, 6, 7, 8], [5], [], [], [5]⟩
  | 5 => ⟨[5, 6, 7, 8, 43], [5], [], [], [5]⟩
  | 6 => ⟨[2], [], [], [], []⟩
  | 7 => ⟨[3, 6, 7, 8], [], [], [], []⟩
  | 8 => ⟨[3, 6, 7, 8], [], [], [], []⟩
  | 9 => ⟨[2], [], [], [], []⟩
  | _ => ⟨[], [], [], [], []⟩
noncomputable abbrev x_maps_Right : Cx := ⟨Try.prog, ⟨id, nf_maps_Right, fp_maps_Right⟩, an_maps_Right⟩
theorem start_maps_Right {args : List PV} {r : PV} (ha : args.length = 1) (h : awp x_maps_Right c_maps_Right (bodyR Try.prog [.tmp 2] r []) (initSt args [])) : PC Try.prog 16 args r :=
  pc_of_awp (X := x_maps_Right) mixed Try.func16 (c := c_maps_Right) (by kernel_rfl) (by kernel_rfl) (rs := [.tmp 2]) (by kernel_rfl) (by kernel_rfl) (by rw [ha]; decide) h
noncomputable def c_maps_Through : Code := (Try.f17.body).getD .skip
def nf_maps_Through : List (Nat × Nf) := []
def fp_maps_Through : List (Nat × List Nat) := []
def an_maps_Through : Nat → Ann
  | 0 => ⟨[0, 1, 2], [], [], [], []⟩
  | 1 => ⟨[1, 2, 9, 10, 11], [], [], [], []⟩
  | 2 => ⟨[1, 2, 9, 10, 11, 12], [], [], [], []⟩
  | 3 => ⟨[1, 2, 8, 9, 10, 11], [], [], [], []⟩
  | 4 => ⟨[1, 2, 9, 10, 11], [], [], [], []⟩
  | 5 => ⟨[1, 2, 9, 10, 11], [], [], [], []⟩
  | 6 => ⟨[6], [], [], [], []⟩
  | _ => ⟨[], [], [], [], []⟩
noncomputable abbrev x_maps_Through : Cx := ⟨Try.prog, ⟨id, nf_maps_Through, fp_maps_Through⟩, an_maps_Through⟩
theorem start_maps_Through {args : List PV} {r : PV} (ha : args.length = 3) (h : awp x_maps_Through c_maps_Through (bodyR Try.prog [.tmp 6] r []) (initSt args [])) : PC Try.prog 17 args r :=
  pc_of_awp (X := x_maps_Through) mixed Try.func17 (c := c_maps_Through) (by kernel_rfl) (by kernel_rfl) (rs := [.tmp 6]) (by kernel_rfl) (by kernel_rfl) (by rw [ha]; decide) h
noncomputable def c_maps_Grows : Code := (Try.f19.body).getD .skip
def nf_maps_Grows : List (Nat × Nf) := []
def fp_maps_Grows : List (Nat × List Nat) := []
def an_maps_Grows : Nat → Ann
  | 0 => ⟨[0], [], [], [], []⟩
  | 1 => ⟨[0, 3], [], [], [], []⟩
  | 2 => ⟨[3, 6, 7, 8], [], [], [], []⟩
  | 3 => ⟨[3, 6, 7, 8, 9], [], [], [], []⟩
  | 4 => ⟨[3, 5, 6, 7, 8], [5], [], [], [5]⟩
  | 5 => ⟨[3, 6, 7, 8], [], [], [], []⟩
  | 6 => ⟨[3, 6, 7, 8], [], [], [], []⟩
  | 7 => ⟨[2], [], [], [], []⟩
  | _ => ⟨[], [], [], [], []⟩
noncomputable abbrev x_maps_Grows : Cx := ⟨Try.prog, ⟨id, nf_maps_Grows, fp_maps_Grows⟩, an_maps_Grows⟩
theorem start_maps_Grows {args : List PV} {r : PV} (ha : args.length = 1) (h : awp x_maps_Grows c_maps_Grows (bodyR Try.prog [.tmp 2] r []) (initSt args [])) : PC Try.prog 19 args r :=
  pc_of_awp (X := x_maps_Grows) mixed Try.func19 (c := c_maps_Grows) (by kernel_rfl) (by kernel_rfl) (rs := [.tmp 2]) (by kernel_rfl) (by kernel_rfl) (by rw [ha]; decide) h
noncomputable def c_maps_Turn : Code := (Try.f21.body).getD .skip
def nf_maps_Turn : List (Nat × Nf) := []
def fp_maps_Turn : List (Nat × List Nat) := [(14, [5]), (15, [5]), (18, []), (21, [5]), (22, [5]), (23, [5]), (24, [5]), (27, [3, 26])]
def an_maps_Turn : Nat → Ann
  | 0 => ⟨[0], [], [], [], []⟩
  | 1 => ⟨[0, 3], [3], [.thaw 3 3 3], [], [3]⟩
  | 2 => ⟨[0, 3, 6, 7, 8], [3], [], [], [3]⟩
  | 3 => ⟨[0, 3, 6, 7, 8, 9], [3], [], [], [3]⟩
  | 4 => ⟨[0, 3, 4, 5, 6, 7, 8], [3, 5], [], [], [3, 5]⟩
  | 5 => ⟨[0, 3, 6, 7, 8], [3], [], [], [3]⟩
  | 6 => ⟨[0, 3, 6, 7, 8], [3], [], [], [3]⟩
  | 7 => ⟨[2], [3], [], [.ren 3 2], [2, 3]⟩
  | _ => ⟨[], [], [], [], []⟩
noncomputable abbrev x_maps_Turn : Cx := ⟨Try.prog, ⟨id, nf_maps_Turn, fp_maps_Turn⟩, an_maps_Turn⟩
theorem start_maps_Turn {args : List PV} {r : PV} (ha : args.length = 1) (h : awp x_maps_Turn c_maps_Turn (bodyR Try.prog [.tmp 2] r []) (initSt args [])) : PC Try.prog 21 args r :=
  pc_of_awp (X := x_maps_Turn) mixed Try.func21 (c := c_maps_Turn) (by kernel_rfl) (by kernel_rfl) (rs := [.tmp 2]) (by kernel_rfl) (by kernel_rfl) (by rw [ha]; decide) h
noncomputable def c_diptychlaw10_MapsTurned : Code := (Try.f6.body).getD .skip
def nf_diptychlaw10_MapsTurned : List (Nat × Nf) := []
def fp_diptychlaw10_MapsTurned : List (Nat × List Nat) := []
def an_diptychlaw10_MapsTurned : Nat → Ann
  | 0 => ⟨[0, 1, 2], [], [], [], []⟩
  | 1 => ⟨[0, 1, 2, 7], [], [], [], []⟩
  | 2 => ⟨[0, 1, 2, 7, 30], [], [], [], []⟩
  | 3 => ⟨[6], [], [], [], []⟩
  | 4 => ⟨[0, 1, 2, 35], [], [], [], []⟩
  | 5 => ⟨[6], [], [], [], []⟩
  | 6 => ⟨[0, 1, 8], [], [], [], []⟩
  | 7 => ⟨[0, 1, 8, 9], [], [], [], []⟩
  | 8 => ⟨[0, 1, 8, 9, 46], [], [], [], []⟩
  | 9 => ⟨[0, 1, 8, 9], [], [], [], []⟩
  | 10 => ⟨[0, 1, 8, 9, 70], [], [], [], []⟩
  | 11 => ⟨[6], [], [], [], []⟩
  | 12 => ⟨[6], [], [], [], []⟩
  | _ => ⟨[], [], [], [], []⟩
noncomputable abbrev x_diptychlaw10_MapsTurned : Cx := ⟨Try.prog, ⟨id, nf_diptychlaw10_MapsTurned, fp_diptychlaw10_MapsTurned⟩, an_diptychlaw10_MapsTurned⟩
theorem start_diptychlaw10_MapsTurned {args : List PV} {r : PV} (ha : args.length = 3) (h : awp x_diptychlaw10_MapsTurned c_diptychlaw10_MapsTurned (bodyR Try.prog [.tmp 6] r []) (initSt args [])) : PC Try.prog 6 args r :=
  pc_of_awp (X := x_diptychlaw10_MapsTurned) mixed Try.func6 (c := c_diptychlaw10_MapsTurned) (by kernel_rfl) (by kernel_rfl) (rs := [.tmp 6]) (by kernel_rfl) (by kernel_rfl) (by rw [ha]; decide) h
noncomputable def c_maps_Lost : Code := (Try.f20.body).getD .skip
def nf_maps_Lost : List (Nat × Nf) := []
def fp_maps_Lost : List (Nat × List Nat) := []
def an_maps_Lost : Nat → Ann
  | 0 => ⟨[0, 1], [], [], [], []⟩
  | 1 => ⟨[1, 7, 8, 9], [], [], [], []⟩
  | 2 => ⟨[1, 7, 8, 9, 10], [], [], [], []⟩
  | 3 => ⟨[1, 6, 7, 8, 9], [6], [], [], [6]⟩
  | 4 => ⟨[1, 7, 8, 9, 22], [], [], [], []⟩
  | 5 => ⟨[4], [], [], [], []⟩
  | 6 => ⟨[1, 7, 8, 9], [], [], [], []⟩
  | 7 => ⟨[4], [], [], [], []⟩
  | _ => ⟨[], [], [], [], []⟩
noncomputable abbrev x_maps_Lost : Cx := ⟨Try.prog, ⟨id, nf_maps_Lost, fp_maps_Lost⟩, an_maps_Lost⟩
theorem start_maps_Lost {args : List PV} {r : PV} (ha : args.length = 2) (h : awp x_maps_Lost c_maps_Lost (bodyR Try.prog [.tmp 4] r []) (initSt args [])) : PC Try.prog 20 args r :=
  pc_of_awp (X := x_maps_Lost) mixed Try.func20 (c := c_maps_Lost) (by kernel_rfl) (by kernel_rfl) (rs := [.tmp 4]) (by kernel_rfl) (by kernel_rfl) (by rw [ha]; decide) h
noncomputable def c_diptychref10_Right : Code := (Try.f22.body).getD .skip
def nf_diptychref10_Right : List (Nat × Nf) := []
def fp_diptychref10_Right : List (Nat × List Nat) := []
def an_diptychref10_Right : Nat → Ann
  | 0 => ⟨[0], [], [], [], []⟩
  | 1 => ⟨[0, 3], [], [], [], []⟩
  | 2 => ⟨[0, 3, 8], [], [], [], []⟩
  | 3 => ⟨[0, 3], [], [], [], []⟩
  | 4 => ⟨[0, 3, 4], [4], [], [], [4]⟩
  | 5 => ⟨[0, 3, 4, 50], [4], [], [], [4]⟩
  | 6 => ⟨[2], [], [], [], []⟩
  | 7 => ⟨[0, 3, 70], [], [], [], []⟩
  | 8 => ⟨[2], [], [], [], []⟩
  | 9 => ⟨[2], [], [], [], []⟩
  | _ => ⟨[], [], [], [], []⟩
noncomputable abbrev x_diptychref10_Right : Cx := ⟨Try.prog, ⟨id, nf_diptychref10_Right, fp_diptychref10_Right⟩, an_diptychref10_Right⟩
theorem start_diptychref10_Right {args : List PV} {r : PV} (ha : args.length = 1) (h : awp x_diptychref10_Right c_diptychref10_Right (bodyR Try.prog [.tmp 2] r []) (initSt args [])) : PC Try.prog 22 args r :=
  pc_of_awp (X := x_diptychref10_Right) mixed Try.func22 (c := c_diptychref10_Right) (by kernel_rfl) (by kernel_rfl) (rs := [.tmp 2]) (by kernel_rfl) (by kernel_rfl) (by rw [ha]; decide) h
noncomputable def c_diptychlaw10_as : Code := (Try.f23.body).getD .skip
def nf_diptychlaw10_as : List (Nat × Nf) := []
def fp_diptychlaw10_as : List (Nat × List Nat) := [(14, []), (15, []), (16, []), (19, []), (20, []), (21, []), (24, []), (25, []), (26, []), (29, [3, 28])]
def an_diptychlaw10_as : Nat → Ann
  | 0 => ⟨[0], [], [], [], []⟩
  | 1 => ⟨[0, 3], [3], [.thaw 3 3 3], [], [3]⟩
  | 2 => ⟨[0, 3, 4], [3], [], [], [3]⟩
  | 3 => ⟨[0, 3, 4, 8], [3], [], [], [3]⟩
  | 4 => ⟨[0, 3, 4], [3], [], [], [3]⟩
  | 5 => ⟨[0, 3, 4], [3], [], [], [3]⟩
  | 6 => ⟨[2], [3], [], [.ren 3 2], [2, 3]⟩
  | _ => ⟨[], [], [], [], []⟩
noncomputable abbrev x_diptychlaw10_as : Cx := ⟨Try.prog, ⟨id, nf_diptychlaw10_as, fp_diptychlaw10_as⟩, an_diptychlaw10_as⟩
theorem start_diptychlaw10_as {args : List PV} {r : PV} (ha : args.length = 1) (h : awp x_diptychlaw10_as c_diptychlaw10_as (bodyR Try.prog [.tmp 2] r []) (initSt args [])) : PC Try.prog 23 args r :=
  pc_of_awp (X := x_diptychlaw10_as) mixed Try.func23 (c := c_diptychlaw10_as) (by kernel_rfl) (by kernel_rfl) (rs := [.tmp 2]) (by kernel_rfl) (by kernel_rfl) (by rw [ha]; decide) h
noncomputable def c_diptychref10_Grows : Code := (Try.f24.body).getD .skip
def nf_diptychref10_Grows : List (Nat × Nf) := []
def fp_diptychref10_Grows : List (Nat × List Nat) := []
def an_diptychref10_Grows : Nat → Ann
  | 0 => ⟨[0], [], [], [], []⟩
  | 1 => ⟨[0, 3], [], [], [], []⟩
  | 2 => ⟨[0, 3, 4], [], [], [], []⟩
  | 3 => ⟨[0, 3, 4, 8], [], [], [], []⟩
  | 4 => ⟨[0, 3, 4], [], [], [], []⟩
  | 5 => ⟨[0, 3, 4], [], [], [], []⟩
  | 6 => ⟨[2], [], [], [], []⟩
  | _ => ⟨[], [], [], [], []⟩
noncomputable abbrev x_diptychref10_Grows : Cx := ⟨Try.prog, ⟨id, nf_diptychref10_Grows, fp_diptychref10_Grows⟩, an_diptychref10_Grows⟩
theorem start_diptychref10_Grows {args : List PV} {r : PV} (ha : args.length = 1) (h : awp x_diptychref10_Grows c_diptychref10_Grows (bodyR Try.prog [.tmp 2] r []) (initSt args [])) : PC Try.prog 24 args r :=
  pc_of_awp (X := x_diptychref10_Grows) mixed Try.func24 (c := c_diptychref10_Grows) (by kernel_rfl) (by kernel_rfl) (rs := [.tmp 2]) (by kernel_rfl) (by kernel_rfl) (by rw [ha]; decide) h
noncomputable def c_diptychlaw10_same : Code := (Try.f25.body).getD .skip
def nf_diptychlaw10_same : List (Nat × Nf) := []
def fp_diptychlaw10_same : List (Nat × List Nat) := []
def an_diptychlaw10_same : Nat → Ann
  | 0 => ⟨[0, 1], [], [], [], []⟩
  | 1 => ⟨[0, 1, 10], [], [], [], []⟩
  | 2 => ⟨[4], [], [], [], []⟩
  | 3 => ⟨[0, 1, 5], [], [], [], []⟩
  | 4 => ⟨[0, 1, 5, 14], [], [], [], []⟩
  | 5 => ⟨[0, 1, 5], [], [], [], []⟩
  | 6 => ⟨[0, 1, 5, 53], [], [], [], []⟩
  | 7 => ⟨[4], [], [], [], []⟩
  | 8 => ⟨[4], [], [], [], []⟩
  | _ => ⟨[], [], [], [], []⟩
noncomputable abbrev x_diptychlaw10_same : Cx := ⟨Try.prog, ⟨id, nf_diptychlaw10_same, fp_diptychlaw10_same⟩, an_diptychlaw10_same⟩
theorem start_diptychlaw10_same {args : List PV} {r : PV} (ha : args.length = 2) (h : awp x_diptychlaw10_same c_diptychlaw10_same (bodyR Try.prog [.tmp 4] r []) (initSt args [])) : PC Try.prog 25 args r :=
  pc_of_awp (X := x_diptychlaw10_same) mixed Try.func25 (c := c_diptychlaw10_same) (by kernel_rfl) (by kernel_rfl) (rs := [.tmp 4]) (by kernel_rfl) (by kernel_rfl) (by rw [ha]; decide) h
noncomputable def c_diptychref10_Turn : Code := (Try.f26.body).getD .skip
def nf_diptychref10_Turn : List (Nat × Nf) := []
def fp_diptychref10_Turn : List (Nat × List Nat) := [(14, []), (15, []), (16, []), (19, []), (24, []), (25, []), (26, []), (29, []), (30, []), (31, []), (34, [3, 33])]
def an_diptychref10_Turn : Nat → Ann
  | 0 => ⟨[0], [], [], [], []⟩
  | 1 => ⟨[0, 3], [3], [.thaw 3 3 3], [], [3]⟩
  | 2 => ⟨[0, 3, 4], [3], [], [], [3]⟩
  | 3 => ⟨[0, 3, 4, 8], [3], [], [], [3]⟩
  | 4 => ⟨[0, 3, 4], [3], [], [], [3]⟩
  | 5 => ⟨[0, 3, 4], [3], [], [], [3]⟩
  | 6 => ⟨[2], [3], [], [.ren 3 2], [2, 3]⟩
  | _ => ⟨[], [], [], [], []⟩
noncomputable abbrev x_diptychref10_Turn : Cx := ⟨Try.prog, ⟨id, nf_diptychref10_Turn, fp_diptychref10_Turn⟩, an_diptychref10_Turn⟩
theorem start_diptychref10_Turn {args : List PV} {r : PV} (ha : args.length = 1) (h : awp x_diptychref10_Turn c_diptychref10_Turn (bodyR Try.prog [.tmp 2] r []) (initSt args [])) : PC Try.prog 26 args r :=
  pc_of_awp (X := x_diptychref10_Turn) mixed Try.func26 (c := c_diptychref10_Turn) (by kernel_rfl) (by kernel_rfl) (rs := [.tmp 2]) (by kernel_rfl) (by kernel_rfl) (by rw [ha]; decide) h
noncomputable def c_diptychref10_at : Code := (Try.f50.body).getD .skip
def nf_diptychref10_at : List (Nat × Nf) := []
def fp_diptychref10_at : List (Nat × List Nat) := []
def an_diptychref10_at : Nat → Ann
  | 0 => ⟨[0, 1], [], [], [], []⟩
  | 1 => ⟨[0, 1, 5], [], [], [], []⟩
  | 2 => ⟨[0, 1, 5, 9], [], [], [], []⟩
  | 3 => ⟨[0, 1, 5], [], [], [], []⟩
  | 4 => ⟨[0, 1, 5, 33], [], [], [], []⟩
  | 5 => ⟨[4], [], [], [], []⟩
  | 6 => ⟨[4], [], [], [], []⟩
  | _ => ⟨[], [], [], [], []⟩
noncomputable abbrev x_diptychref10_at : Cx := ⟨Try.prog, ⟨id, nf_diptychref10_at, fp_diptychref10_at⟩, an_diptychref10_at⟩
theorem start_diptychref10_at {args : List PV} {r : PV} (ha : args.length = 2) (h : awp x_diptychref10_at c_diptychref10_at (bodyR Try.prog [.tmp 4] r []) (initSt args [])) : PC Try.prog 50 args r :=
  pc_of_awp (X := x_diptychref10_at) mixed Try.func50 (c := c_diptychref10_at) (by kernel_rfl) (by kernel_rfl) (rs := [.tmp 4]) (by kernel_rfl) (by kernel_rfl) (by rw [ha]; decide) h
noncomputable def c_diptychref10_To : Code := (Try.f27.body).getD .skip
def nf_diptychref10_To : List (Nat × Nf) := []
def fp_diptychref10_To : List (Nat × List Nat) := []
def an_diptychref10_To : Nat → Ann
  | 0 => ⟨[0, 1, 2], [], [], [], []⟩
  | 1 => ⟨[0, 1, 2, 7], [], [], [], []⟩
  | 2 => ⟨[0, 1, 2, 7, 15], [], [], [], []⟩
  | 3 => ⟨[0, 1, 8], [], [], [], []⟩
  | 4 => ⟨[0, 1, 8, 28], [], [], [], []⟩
  | 5 => ⟨[0, 1, 8], [], [], [], []⟩
  | 6 => ⟨[6], [], [], [], []⟩
  | 7 => ⟨[0, 1, 2, 7, 9], [9], [], [], [9]⟩
  | 8 => ⟨[0, 1, 2, 7, 9, 49], [9], [], [], [9]⟩
  | 9 => ⟨[0, 1, 2, 7, 9], [9], [], [], [9]⟩
  | 10 => ⟨[0, 2, 7, 9, 61], [9], [], [], [9]⟩
  | 11 => ⟨[0, 2, 7, 9], [9], [], [], [9]⟩
  | 12 => ⟨[2, 9, 10], [9], [], [], [9]⟩
  | 13 => ⟨[9, 10, 69], [9], [], [], [9]⟩
  | 14 => ⟨[10], [], [], [], []⟩
  | 15 => ⟨[6], [], [], [], []⟩
  | _ => ⟨[], [], [], [], []⟩
noncomputable abbrev x_diptychref10_To : Cx := ⟨Try.prog, ⟨id, nf_diptychref10_To, fp_diptychref10_To⟩, an_diptychref10_To⟩
theorem start_diptychref10_To {args : List PV} {r : PV} (ha : args.length = 3) (h : awp x_diptychref10_To c_diptychref10_To (bodyR Try.prog [.tmp 6] r []) (initSt args [])) : PC Try.prog 27 args r :=
  pc_of_awp (X := x_diptychref10_To) mixed Try.func27 (c := c_diptychref10_To) (by kernel_rfl) (by kernel_rfl) (rs := [.tmp 6]) (by kernel_rfl) (by kernel_rfl) (by rw [ha]; decide) h
noncomputable def c_diptychref10_Lost : Code := (Try.f28.body).getD .skip
def nf_diptychref10_Lost : List (Nat × Nf) := []
def fp_diptychref10_Lost : List (Nat × List Nat) := []
def an_diptychref10_Lost : Nat → Ann
  | 0 => ⟨[0, 1], [], [], [], []⟩
  | 1 => ⟨[0, 1, 5], [], [], [], []⟩
  | 2 => ⟨[4], [], [], [], []⟩
  | _ => ⟨[], [], [], [], []⟩
noncomputable abbrev x_diptychref10_Lost : Cx := ⟨Try.prog, ⟨id, nf_diptychref10_Lost, fp_diptychref10_Lost⟩, an_diptychref10_Lost⟩
theorem start_diptychref10_Lost {args : List PV} {r : PV} (ha : args.length = 2) (h : awp x_diptychref10_Lost c_diptychref10_Lost (bodyR Try.prog [.tmp 4] r []) (initSt args [])) : PC Try.prog 28 args r :=
  pc_of_awp (X := x_diptychref10_Lost) mixed Try.func28 (c := c_diptychref10_Lost) (by kernel_rfl) (by kernel_rfl) (rs := [.tmp 4]) (by kernel_rfl) (by kernel_rfl) (by rw [ha]; decide) h
noncomputable def c_diptychlaw10_MapsTell : Code := (Try.f7.body).getD .skip
def nf_diptychlaw10_MapsTell : List (Nat × Nf) := []
def fp_diptychlaw10_MapsTell : List (Nat × List Nat) := []
def an_diptychlaw10_MapsTell : Nat → Ann
  | 0 => ⟨[0, 1, 2], [], [], [], []⟩
  | 1 => ⟨[0, 1, 2, 7], [], [], [], []⟩
  | 2 => ⟨[0, 1, 2, 7, 16], [], [], [], []⟩
  | 3 => ⟨[6], [], [], [], []⟩
  | 4 => ⟨[0, 1, 2, 23], [], [], [], []⟩
  | 5 => ⟨[6], [], [], [], []⟩
  | 6 => ⟨[0, 1, 2, 34], [], [], [], []⟩
  | 7 => ⟨[6], [], [], [], []⟩
  | 8 => ⟨[0, 1, 2, 8], [], [], [], []⟩
  | 9 => ⟨[6], [], [], [], []⟩
  | _ => ⟨[], [], [], [], []⟩
noncomputable abbrev x_diptychlaw10_MapsTell : Cx := ⟨Try.prog, ⟨id, nf_diptychlaw10_MapsTell, fp_diptychlaw10_MapsTell⟩, an_diptychlaw10_MapsTell⟩
theorem start_diptychlaw10_MapsTell {args : List PV} {r : PV} (ha : args.length = 3) (h : awp x_diptychlaw10_MapsTell c_diptychlaw10_MapsTell (bodyR Try.prog [.tmp 6] r []) (initSt args [])) : PC Try.prog 7 args r :=
  pc_of_awp (X := x_diptychlaw10_MapsTell) mixed Try.func7 (c := c_diptychlaw10_MapsTell) (by kernel_rfl) (by kernel_rfl) (rs := [.tmp 6]) (by kernel_rfl) (by kernel_rfl) (by rw [ha]; decide) h
noncomputable def c_diptychlaw10_MapsBack : Code := (Try.f8.body).getD .skip
def nf_diptychlaw10_MapsBack : List (Nat × Nf) := []
def fp_diptychlaw10_MapsBack : List (Nat × List Nat) := []
def an_diptychlaw10_MapsBack : Nat → Ann
  | 0 => ⟨[0, 1], [], [], [], []⟩
  | 1 => ⟨[0, 1, 5], [], [], [], []⟩
  | 2 => ⟨[0, 1, 5, 29], [], [], [], []⟩
  | 3 => ⟨[4], [], [], [], []⟩
  | 4 => ⟨[0, 1, 6], [], [], [], []⟩
  | 5 => ⟨[0, 1, 6, 35], [], [], [], []⟩
  | 6 => ⟨[4], [], [], [], []⟩
  | 7 => ⟨[0, 1, 6, 49], [], [], [], []⟩
  | 8 => ⟨[4], [], [], [], []⟩
  | 9 => ⟨[0, 1, 6, 7], [], [], [], []⟩
  | 10 => ⟨[0, 1, 6, 7, 53], [], [], [], []⟩
  | 11 => ⟨[0, 1, 6, 7], [], [], [], []⟩
  | 12 => ⟨[0, 1, 6, 7, 77], [], [], [], []⟩
  | 13 => ⟨[4], [], [], [], []⟩
  | 14 => ⟨[0, 1, 6, 8], [], [], [], []⟩
  | 15 => ⟨[4], [], [], [], []⟩
  | _ => ⟨[], [], [], [], []⟩
noncomputable abbrev x_diptychlaw10_MapsBack : Cx := ⟨Try.prog, ⟨id, nf_diptychlaw10_MapsBack, fp_diptychlaw10_MapsBack⟩, an_diptychlaw10_MapsBack⟩
theorem start_diptychlaw10_MapsBack {args : List PV} {r : PV} (ha : args.length = 2) (h : awp x_diptychlaw10_MapsBack c_diptychlaw10_MapsBack (bodyR Try.prog [.tmp 4] r []) (initSt args [])) : PC Try.prog 8 args r :=
  pc_of_awp (X := x_diptychlaw10_MapsBack) mixed Try.func8 (c := c_diptychlaw10_MapsBack) (by kernel_rfl) (by kernel_rfl) (rs := [.tmp 4]) (by kernel_rfl) (by kernel_rfl) (by rw [ha]; decide) h
noncomputable def c_diptychlaw10_MapsStay : Code := (Try.f9.body).getD .skip
def nf_diptychlaw10_MapsStay : List (Nat × Nf) := []
def fp_diptychlaw10_MapsStay : List (Nat × List Nat) := []
def an_diptychlaw10_MapsStay : Nat → Ann
  | 0 => ⟨[1, 2], [2], [], [], [2]⟩
  | 1 => ⟨[1, 2, 5], [2], [], [], [2]⟩
  | 2 => ⟨[1, 2, 5, 6], [2], [.nrm 6 [some 3]], [], [2]⟩
  | 3 => ⟨[1, 2, 5, 6, 26], [2], [], [], [2]⟩
  | 4 => ⟨[4], [], [], [], []⟩
  | 5 => ⟨[1, 2, 6, 54], [2], [], [], [2]⟩
  | 6 => ⟨[4], [], [], [], []⟩
  | 7 => ⟨[1, 2, 6, 7], [2], [], [], [2]⟩
  | 8 => ⟨[1, 2, 6, 7, 8], [2], [], [], [2]⟩
  | 9 => ⟨[1, 2, 6, 7, 8, 64], [2], [], [], [2]⟩
  | 10 => ⟨[4], [], [], [], []⟩
  | 11 => ⟨[1, 2, 6, 7, 8, 85], [2], [], [], [2]⟩
  | 12 => ⟨[4], [], [], [], []⟩
  | 13 => ⟨[4], [], [], [], []⟩
  | _ => ⟨[], [], [], [], []⟩
noncomputable abbrev x_diptychlaw10_MapsStay : Cx := ⟨Try.prog, ⟨id, nf_diptychlaw10_MapsStay, fp_diptychlaw10_MapsStay⟩, an_diptychlaw10_MapsStay⟩
theorem start_diptychlaw10_MapsStay {args : List PV} {r : PV} (ha : args.length = 2) (h : awp x_diptychlaw10_MapsStay c_diptychlaw10_MapsStay (bodyR Try.prog [.tmp 4] r []) (initSt args [])) : PC Try.prog 9 args r :=
  pc_of_awp (X := x_diptychlaw10_MapsStay) mixed Try.func9 (c := c_diptychlaw10_MapsStay) (by kernel_rfl) (by kernel_rfl) (rs := [.tmp 4]) (by kernel_rfl) (by kernel_rfl) (by rw [ha]; decide) h

end Go.Proofs.Ytafcbjepmjcpgaa
