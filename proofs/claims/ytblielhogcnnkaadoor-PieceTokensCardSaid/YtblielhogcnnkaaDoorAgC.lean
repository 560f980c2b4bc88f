/- Code, and what is kept. -/
import Derived.Test.YtblielhogcnnkaaDoorAgT
import Derived.Test.YtblielhogcnnkaaDoorAwT
namespace Go.Proofs.YtblielhogcnnkaaDoor
set_option linter.unusedSimpArgs false
set_option linter.unusedVariables false
open Go
set_option maxRecDepth 100000

noncomputable def c_node_isText : Code := (Tryd.f70.body).getD .skip
def nf_node_isText : List (Nat × Nf) := []
def fp_node_isText : List (Nat × List Nat) := []
def an_node_isText : Nat → Ann
  | 0 => ⟨[1], [1], [], [], [1]⟩
  | 1 => ⟨[2], [], [], [], []⟩
  | _ => ⟨[], [], [], [], []⟩
noncomputable abbrev x_node_isText : Cx := ⟨Tryd.prog, ⟨id, nf_node_isText, fp_node_isText⟩, an_node_isText⟩
theorem start_node_isText {args : List PV} {r : PV} (ha : args.length = 1) (h : awp x_node_isText c_node_isText (bodyR Tryd.prog [.tmp 2] r []) (initSt args [])) : PC Tryd.prog 70 args r :=
  pc_of_awp (X := x_node_isText) mixed Tryd.func70 (c := c_node_isText) (by kernel_rfl) (by kernel_rfl) (rs := [.tmp 2]) (by kernel_rfl) (by kernel_rfl) (by rw [ha]; decide) h
noncomputable def c_unicode_utf8_RuneCountInString : Code := (Tryd.f71.body).getD .skip
def nf_unicode_utf8_RuneCountInString : List (Nat × Nf) := []
def fp_unicode_utf8_RuneCountInString : List (Nat × List Nat) := []
def an_unicode_utf8_RuneCountInString : Nat → Ann
  | 0 => ⟨[0, 2], [], [], [], []⟩
  | 1 => ⟨[2, 4], [4], [], [], [4]⟩
  | 2 => ⟨[2, 4, 6], [4], [], [], [4]⟩
  | 3 => ⟨[2, 4], [4], [], [], [4]⟩
  | 4 => ⟨[2], [], [], [], []⟩
  | _ => ⟨[], [], [], [], []⟩
noncomputable abbrev x_unicode_utf8_RuneCountInString : Cx := ⟨Tryd.prog, ⟨id, nf_unicode_utf8_RuneCountInString, fp_unicode_utf8_RuneCountInString⟩, an_unicode_utf8_RuneCountInString⟩
theorem start_unicode_utf8_RuneCountInString {args : List PV} {r : PV} (ha : args.length = 1) (h : awp x_unicode_utf8_RuneCountInString c_unicode_utf8_RuneCountInString (bodyR Tryd.prog [.tmp 2] r []) (initSt args [])) : PC Tryd.prog 71 args r :=
  pc_of_awp (X := x_unicode_utf8_RuneCountInString) mixed Tryd.func71 (c := c_unicode_utf8_RuneCountInString) (by kernel_rfl) (by kernel_rfl) (rs := [.tmp 2]) (by kernel_rfl) (by kernel_rfl) (by rw [ha]; decide) h
noncomputable def c_node_Total : Code := (Tryd.f33.body).getD .skip
def nf_node_Total : List (Nat × Nf) := []
def fp_node_Total : List (Nat × List Nat) := []
def an_node_Total : Nat → Ann
  | 0 => ⟨[0], [], [], [], []⟩
  | 1 => ⟨[0, 3], [], [], [], []⟩
  | 2 => ⟨[3, 6, 7, 8], [], [], [], []⟩
  | 3 => ⟨[3, 6, 7, 8, 9], [], [], [], []⟩
  | 4 => ⟨[3, 5, 6, 7, 8], [5], [], [], [5]⟩
  | 5 => ⟨[3, 6, 7, 8], [], [], [], []⟩
  | 6 => ⟨[3, 6, 7, 8], [], [], [], []⟩
  | 7 => ⟨[2], [], [], [], []⟩
  | _ => ⟨[], [], [], [], []⟩
noncomputable abbrev x_node_Total : Cx := ⟨Tryd.prog, ⟨id, nf_node_Total, fp_node_Total⟩, an_node_Total⟩
theorem start_node_Total {args : List PV} {r : PV} (ha : args.length = 1) (h : awp x_node_Total c_node_Total (bodyR Tryd.prog [.tmp 2] r []) (initSt args [])) : PC Tryd.prog 33 args r :=
  pc_of_awp (X := x_node_Total) mixed Tryd.func33 (c := c_node_Total) (by kernel_rfl) (by kernel_rfl) (rs := [.tmp 2]) (by kernel_rfl) (by kernel_rfl) (by rw [ha]; decide) h
noncomputable def c_node_Size : Code := (Tryd.f29.body).getD .skip
def nf_node_Size : List (Nat × Nf) := []
def fp_node_Size : List (Nat × List Nat) := []
def an_node_Size : Nat → Ann
  | 0 => ⟨[1], [1], [], [], [1]⟩
  | 1 => ⟨[1, 4], [1], [], [], [1]⟩
  | 2 => ⟨[2], [], [], [], []⟩
  | 3 => ⟨[2], [], [], [], []⟩
  | _ => ⟨[], [], [], [], []⟩
noncomputable abbrev x_node_Size : Cx := ⟨Tryd.prog, ⟨id, nf_node_Size, fp_node_Size⟩, an_node_Size⟩
theorem start_node_Size {args : List PV} {r : PV} (ha : args.length = 1) (h : awp x_node_Size c_node_Size (bodyR Tryd.prog [.tmp 2] r []) (initSt args [])) : PC Tryd.prog 29 args r :=
  pc_of_awp (X := x_node_Size) mixed Tryd.func29 (c := c_node_Size) (by kernel_rfl) (by kernel_rfl) (rs := [.tmp 2]) (by kernel_rfl) (by kernel_rfl) (by rw [ha]; decide) h
noncomputable def c_slices_Clone_api_Node : Code := (Tryd.f54.body).getD .skip
def nf_slices_Clone_api_Node : List (Nat × Nf) := []
def fp_slices_Clone_api_Node : List (Nat × List Nat) := []
def an_slices_Clone_api_Node : Nat → Ann
  | 0 => ⟨[0], [5], [], [], [5]⟩
  | 1 => ⟨[0, 4], [5], [], [], [5]⟩
  | 2 => ⟨[2], [5], [], [], [5]⟩
  | 3 => ⟨[2], [5], [], [], [5]⟩
  | _ => ⟨[], [], [], [], []⟩
noncomputable abbrev x_slices_Clone_api_Node : Cx := ⟨Tryd.prog, ⟨id, nf_slices_Clone_api_Node, fp_slices_Clone_api_Node⟩, an_slices_Clone_api_Node⟩
theorem start_slices_Clone_api_Node {args : List PV} {r : PV} (ha : args.length = 1) (h : awp x_slices_Clone_api_Node c_slices_Clone_api_Node (bodyR Tryd.prog [.tmp 2] r []) (initSt args [])) : PC Tryd.prog 54 args r :=
  pc_of_awp (X := x_slices_Clone_api_Node) mixed Tryd.func54 (c := c_slices_Clone_api_Node) (by kernel_rfl) (by kernel_rfl) (rs := [.tmp 2]) (by kernel_rfl) (by kernel_rfl) (by rw [ha]; decide) h
noncomputable def c_piece_Split : Code := (Tryd.f34.body).getD .skip
def nf_piece_Split : List (Nat × Nf) := []
def fp_piece_Split : List (Nat × List Nat) := [(44, []), (45, []), (48, []), (49, []), (75, []), (76, []), (79, []), (80, []), (81, [11]), (82, [9]), (83, [9]), (500081, [11]), (500083, [9])]
def an_piece_Split : Nat → Ann
  | 0 => ⟨[0, 1], [], [], [], []⟩
  | 1 => ⟨[0, 1, 19], [], [], [], []⟩
  | 2 => ⟨[4, 5, 6], [], [.nrm 4 [some 5], .nrm 5 [some 5]], [], []⟩
  | 3 => ⟨[0, 1, 7], [], [], [], []⟩
  | 4 => ⟨[0, 1, 7, 32], [], [], [], []⟩
  | 5 => ⟨[0, 1, 7], [], [], [], []⟩
  | 6 => ⟨[0, 1, 7], [], [], [], []⟩
  | 7 => ⟨[0, 1, 7, 8, 9], [45, 49], [], [.ren 45 8, .ren 49 9], [8, 9, 45, 49]⟩
  | 8 => ⟨[0, 1, 7, 8, 9, 50], [8, 9], [], [], [8, 9]⟩
  | 9 => ⟨[4, 5, 6], [8, 9], [], [.ren 8 4, .ren 9 5], [4, 5, 8, 9]⟩
  | 10 => ⟨[0, 1, 7, 8, 9, 55], [8, 9], [], [], [8, 9]⟩
  | 11 => ⟨[4, 5, 6], [], [.nrm 4 [some 5], .nrm 5 [some 5]], [], []⟩
  | 12 => ⟨[0, 1, 7, 8, 9, 10], [8, 9], [], [], [8, 9]⟩
  | 13 => ⟨[1, 8, 9, 10, 11], [8, 9, 11], [], [], [8, 9, 11]⟩
  | 14 => ⟨[8, 9, 11], [8, 9, 11], [], [], [8, 9, 11]⟩
  | 15 => ⟨[4, 5, 6], [8, 9], [], [.ren 8 4, .ren 9 5], [4, 5, 8, 9]⟩
  | _ => ⟨[], [], [], [], []⟩
noncomputable abbrev x_piece_Split : Cx := ⟨Tryd.prog, ⟨id, nf_piece_Split, fp_piece_Split⟩, an_piece_Split⟩
theorem start_piece_Split {args : List PV} {r : PV} (ha : args.length = 2) (h : awp x_piece_Split c_piece_Split (bodyR Tryd.prog [.tmp 4, .tmp 5, .tmp 6] r []) (initSt args [])) : PC Tryd.prog 34 args r :=
  pc_of_awp (X := x_piece_Split) mixed Tryd.func34 (c := c_piece_Split) (by kernel_rfl) (by kernel_rfl) (rs := [.tmp 4, .tmp 5, .tmp 6]) (by kernel_rfl) (by kernel_rfl) (by rw [ha]; decide) h
noncomputable def c_slices_Equal_string : Code := (Tryd.f55.body).getD .skip
def nf_slices_Equal_string : List (Nat × Nf) := []
def fp_slices_Equal_string : List (Nat × List Nat) := []
def an_slices_Equal_string : Nat → Ann
  | 0 => ⟨[0, 1], [], [], [], []⟩
  | 1 => ⟨[0, 1, 10], [], [], [], []⟩
  | 2 => ⟨[4], [], [], [], []⟩
  | 3 => ⟨[0, 1, 12, 13], [], [], [], []⟩
  | 4 => ⟨[0, 1, 12, 13, 14], [], [], [], []⟩
  | 5 => ⟨[0, 1, 5, 12, 13], [], [], [], []⟩
  | 6 => ⟨[0, 1, 12, 13, 24], [], [], [], []⟩
  | 7 => ⟨[4], [], [], [], []⟩
  | 8 => ⟨[0, 1, 12, 13], [], [], [], []⟩
  | 9 => ⟨[4], [], [], [], []⟩
  | _ => ⟨[], [], [], [], []⟩
noncomputable abbrev x_slices_Equal_string : Cx := ⟨Tryd.prog, ⟨id, nf_slices_Equal_string, fp_slices_Equal_string⟩, an_slices_Equal_string⟩
theorem start_slices_Equal_string {args : List PV} {r : PV} (ha : args.length = 2) (h : awp x_slices_Equal_string c_slices_Equal_string (bodyR Tryd.prog [.tmp 4] r []) (initSt args [])) : PC Tryd.prog 55 args r :=
  pc_of_awp (X := x_slices_Equal_string) mixed Tryd.func55 (c := c_slices_Equal_string) (by kernel_rfl) (by kernel_rfl) (rs := [.tmp 4]) (by kernel_rfl) (by kernel_rfl) (by rw [ha]; decide) h
noncomputable def c_node_alike : Code := (Tryd.f73.body).getD .skip
def nf_node_alike : List (Nat × Nf) := []
def fp_node_alike : List (Nat × List Nat) := []
def an_node_alike : Nat → Ann
  | 0 => ⟨[2, 3], [2, 3], [], [], [2, 3]⟩
  | 1 => ⟨[4], [], [], [], []⟩
  | _ => ⟨[], [], [], [], []⟩
noncomputable abbrev x_node_alike : Cx := ⟨Tryd.prog, ⟨id, nf_node_alike, fp_node_alike⟩, an_node_alike⟩
theorem start_node_alike {args : List PV} {r : PV} (ha : args.length = 2) (h : awp x_node_alike c_node_alike (bodyR Tryd.prog [.tmp 4] r []) (initSt args [])) : PC Tryd.prog 73 args r :=
  pc_of_awp (X := x_node_alike) mixed Tryd.func73 (c := c_node_alike) (by kernel_rfl) (by kernel_rfl) (rs := [.tmp 4]) (by kernel_rfl) (by kernel_rfl) (by rw [ha]; decide) h
noncomputable def c_node_Join : Code := (Tryd.f36.body).getD .skip
def nf_node_Join : List (Nat × Nf) := []
def fp_node_Join : List (Nat × List Nat) := []
def an_node_Join : Nat → Ann
  | 0 => ⟨[0], [], [], [], []⟩
  | 1 => ⟨[0, 3], [3], [.thaw 3 3 5], [], [3]⟩
  | 2 => ⟨[3, 7, 8, 9], [3], [], [], [3]⟩
  | 3 => ⟨[3, 7, 8, 9, 10], [3], [], [], [3]⟩
  | 4 => ⟨[3, 5, 7, 8, 9], [3, 5], [], [], [3, 5]⟩
  | 5 => ⟨[3, 5, 6, 7, 8, 9], [3, 5], [], [], [3, 5]⟩
  | 6 => ⟨[3, 7, 8, 9], [3], [], [], [3]⟩
  | 7 => ⟨[3, 5, 6, 7, 8, 9, 20], [3, 5], [], [], [3, 5]⟩
  | 8 => ⟨[3, 5, 6, 7, 8, 9, 28], [3, 5], [], [], [3, 5]⟩
  | 9 => ⟨[3, 5, 6, 7, 8, 9], [3, 5], [], [], [3, 5]⟩
  | 10 => ⟨[3, 7, 8, 9], [3], [], [], [3]⟩
  | 11 => ⟨[3, 7, 8, 9], [3], [], [], [3]⟩
  | 12 => ⟨[2], [3], [], [.ren 3 2], [2, 3]⟩
  | _ => ⟨[], [], [], [], []⟩
noncomputable abbrev x_node_Join : Cx := ⟨Tryd.prog, ⟨id, nf_node_Join, fp_node_Join⟩, an_node_Join⟩
theorem start_node_Join {args : List PV} {r : PV} (ha : args.length = 1) (h : awp x_node_Join c_node_Join (bodyR Tryd.prog [.tmp 2] r []) (initSt args [])) : PC Tryd.prog 36 args r :=
  pc_of_awp (X := x_node_Join) mixed Tryd.func36 (c := c_node_Join) (by kernel_rfl) (by kernel_rfl) (rs := [.tmp 2]) (by kernel_rfl) (by kernel_rfl) (by rw [ha]; decide) h
noncomputable def c_place_Resolve : Code := (Tryd.f38.body).getD .skip
def nf_place_Resolve : List (Nat × Nf) := [(24, [some 1, none, none]), (59, [some 1, none, none]), (65, [some 1, none, none]), (71, [some 1, none, none])]
def fp_place_Resolve : List (Nat × List Nat) := []
def an_place_Resolve : Nat → Ann
  | 0 => ⟨[1, 2, 4], [2, 4], [.nrm 4 [some 1, none, none]], [], [2, 4]⟩
  | 1 => ⟨[1, 2, 4, 23], [2, 4], [], [], [2, 4]⟩
  | 2 => ⟨[4, 5], [4], [], [], [4]⟩
  | 3 => ⟨[1, 2, 4, 6], [2, 4, 6, 342], [.thawV 6 0 342 1], [], [2, 4, 6, 342]⟩
  | 4 => ⟨[1, 2, 4, 6, 26, 27, 28], [2, 4, 6, 342], [], [], [2, 4, 6, 342]⟩
  | 5 => ⟨[1, 2, 4, 6, 26, 27, 28, 29], [2, 4, 6, 342], [], [], [2, 4, 6, 342]⟩
  | 6 => ⟨[1, 2, 4, 6, 7, 8, 26, 27, 28], [2, 4, 6, 8, 342], [], [], [2, 4, 6, 8, 342]⟩
  | 7 => ⟨[1, 2, 4, 6, 7, 8, 9, 26, 27, 28], [2, 4, 6, 8, 342], [], [], [2, 4, 6, 8, 342]⟩
  | 8 => ⟨[1, 2, 4, 6, 8], [2, 4, 6, 8, 342], [], [], [2, 4, 6, 8, 342]⟩
  | 9 => ⟨[1, 2, 4, 6], [2, 4, 6, 342], [], [], [2, 4, 6, 342]⟩
  | 10 => ⟨[1, 2, 4, 6, 7, 8, 9, 26, 27, 28, 44], [2, 4, 6, 8, 342], [], [], [2, 4, 6, 8, 342]⟩
  | 11 => ⟨[1, 2, 4, 6, 26, 27, 28], [2, 4, 6, 342], [], [], [2, 4, 6, 342]⟩
  | 12 => ⟨[1, 2, 4, 6, 7, 8, 51], [2, 4, 6, 8, 342], [], [], [2, 4, 6, 8, 342]⟩
  | 13 => ⟨[4, 6], [4, 6, 342], [], [], [4, 6, 342]⟩
  | 14 => ⟨[4, 5], [4], [], [], [4]⟩
  | 15 => ⟨[1, 2, 4, 6, 7, 8, 60], [2, 4, 6, 8, 342], [], [], [2, 4, 6, 8, 342]⟩
  | 16 => ⟨[4, 6], [4, 6, 342], [], [], [4, 6, 342]⟩
  | 17 => ⟨[4, 5], [4], [], [], [4]⟩
  | 18 => ⟨[1, 2, 4, 6, 26, 27, 28], [2, 4, 6, 342], [], [], [2, 4, 6, 342]⟩
  | 19 => ⟨[4, 6], [4, 6, 342], [], [], [4, 6, 342]⟩
  | 20 => ⟨[4, 5], [4], [], [], [4]⟩
  | _ => ⟨[], [], [], [], []⟩
noncomputable abbrev x_place_Resolve : Cx := ⟨Tryd.prog, ⟨id, nf_place_Resolve, fp_place_Resolve⟩, an_place_Resolve⟩
theorem start_place_Resolve {args : List PV} {r : PV} (ha : args.length = 2) (h : awp x_place_Resolve c_place_Resolve (bodyR Tryd.prog [.cell 4 70, .tmp 5] r []) (initSt args [])) : PC Tryd.prog 38 args r :=
  pc_of_awp (X := x_place_Resolve) mixed Tryd.func38 (c := c_place_Resolve) (by kernel_rfl) (by kernel_rfl) (rs := [.cell 4 70, .tmp 5]) (by kernel_rfl) (by kernel_rfl) (by rw [ha]; decide) h
noncomputable def c_node_Depth : Code := (Tryd.f50.body).getD .skip
def nf_node_Depth : List (Nat × Nf) := []
def fp_node_Depth : List (Nat × List Nat) := []
def an_node_Depth : Nat → Ann
  | 0 => ⟨[1], [1], [], [], [1]⟩
  | 1 => ⟨[1, 7], [1], [], [], [1]⟩
  | 2 => ⟨[2], [], [], [], []⟩
  | 3 => ⟨[1, 3], [1], [], [], [1]⟩
  | 4 => ⟨[3, 9, 10, 11], [], [], [], []⟩
  | 5 => ⟨[3, 9, 10, 11, 12], [], [], [], []⟩
  | 6 => ⟨[3, 5, 9, 10, 11], [5], [], [], [5]⟩
  | 7 => ⟨[3, 9, 10, 11], [], [], [], []⟩
  | 8 => ⟨[3, 9, 10, 11], [], [], [], []⟩
  | 9 => ⟨[2], [], [], [], []⟩
  | _ => ⟨[], [], [], [], []⟩
noncomputable abbrev x_node_Depth : Cx := ⟨Tryd.prog, ⟨id, nf_node_Depth, fp_node_Depth⟩, an_node_Depth⟩
theorem start_node_Depth {args : List PV} {r : PV} (ha : args.length = 1) (h : awp x_node_Depth c_node_Depth (bodyR Tryd.prog [.tmp 2] r []) (initSt args [])) : PC Tryd.prog 50 args r :=
  pc_of_awp (X := x_node_Depth) mixed Tryd.func50 (c := c_node_Depth) (by kernel_rfl) (by kernel_rfl) (rs := [.tmp 2]) (by kernel_rfl) (by kernel_rfl) (by rw [ha]; decide) h
noncomputable def c_node_Name : Code := (Tryd.f102.body).getD .skip
def nf_node_Name : List (Nat × Nf) := []
def fp_node_Name : List (Nat × List Nat) := []
def an_node_Name : Nat → Ann
  | 0 => ⟨[0], [], [], [], []⟩
  | 1 => ⟨[0, 3], [], [], [], []⟩
  | 2 => ⟨[2], [], [], [], []⟩
  | _ => ⟨[], [], [], [], []⟩
noncomputable abbrev x_node_Name : Cx := ⟨Tryd.prog, ⟨id, nf_node_Name, fp_node_Name⟩, an_node_Name⟩
theorem start_node_Name {args : List PV} {r : PV} (ha : args.length = 1) (h : awp x_node_Name c_node_Name (bodyR Tryd.prog [.tmp 2] r []) (initSt args [])) : PC Tryd.prog 102 args r :=
  pc_of_awp (X := x_node_Name) mixed Tryd.func102 (c := c_node_Name) (by kernel_rfl) (by kernel_rfl) (rs := [.tmp 2]) (by kernel_rfl) (by kernel_rfl) (by rw [ha]; decide) h
noncomputable def c_node_Value : Code := (Tryd.f103.body).getD .skip
def nf_node_Value : List (Nat × Nf) := []
def fp_node_Value : List (Nat × List Nat) := []
def an_node_Value : Nat → Ann
  | 0 => ⟨[0], [], [], [], []⟩
  | 1 => ⟨[2], [], [], [], []⟩
  | _ => ⟨[], [], [], [], []⟩
noncomputable abbrev x_node_Value : Cx := ⟨Tryd.prog, ⟨id, nf_node_Value, fp_node_Value⟩, an_node_Value⟩
theorem start_node_Value {args : List PV} {r : PV} (ha : args.length = 1) (h : awp x_node_Value c_node_Value (bodyR Tryd.prog [.tmp 2] r []) (initSt args [])) : PC Tryd.prog 103 args r :=
  pc_of_awp (X := x_node_Value) mixed Tryd.func103 (c := c_node_Value) (by kernel_rfl) (by kernel_rfl) (rs := [.tmp 2]) (by kernel_rfl) (by kernel_rfl) (by rw [ha]; decide) h
noncomputable def c_node_rise : Code := (Tryd.f113.body).getD .skip
def nf_node_rise : List (Nat × Nf) := []
def fp_node_rise : List (Nat × List Nat) := []
def an_node_rise : Nat → Ann
  | 0 => ⟨[0], [], [], [], []⟩
  | 1 => ⟨[0, 5, 6, 7], [], [], [], []⟩
  | 2 => ⟨[0, 5, 6, 7, 8], [], [], [], []⟩
  | 3 => ⟨[0, 3, 4, 5, 6, 7], [], [], [], []⟩
  | 4 => ⟨[0, 5, 6, 7, 27], [], [], [], []⟩
  | 5 => ⟨[2], [], [], [], []⟩
  | 6 => ⟨[0, 5, 6, 7], [], [], [], []⟩
  | 7 => ⟨[2], [], [], [], []⟩
  | _ => ⟨[], [], [], [], []⟩
noncomputable abbrev x_node_rise : Cx := ⟨Tryd.prog, ⟨id, nf_node_rise, fp_node_rise⟩, an_node_rise⟩
theorem start_node_rise {args : List PV} {r : PV} (ha : args.length = 1) (h : awp x_node_rise c_node_rise (bodyR Tryd.prog [.tmp 2] r []) (initSt args [])) : PC Tryd.prog 113 args r :=
  pc_of_awp (X := x_node_rise) mixed Tryd.func113 (c := c_node_rise) (by kernel_rfl) (by kernel_rfl) (rs := [.tmp 2]) (by kernel_rfl) (by kernel_rfl) (by rw [ha]; decide) h
noncomputable def c_node_formed : Code := (Tryd.f97.body).getD .skip
def nf_node_formed : List (Nat × Nf) := []
def fp_node_formed : List (Nat × List Nat) := []
def an_node_formed : Nat → Ann
  | 0 => ⟨[1], [1], [], [], [1]⟩
  | 1 => ⟨[1, 9], [1], [], [], [1]⟩
  | 2 => ⟨[2], [], [], [], []⟩
  | 3 => ⟨[1, 3], [1, 3], [.thaw 3 3 1], [], [1, 3]⟩
  | 4 => ⟨[1, 3, 34, 35, 36], [1, 3], [], [], [1, 3]⟩
  | 5 => ⟨[1, 3, 34, 35, 36, 37], [1, 3], [], [], [1, 3]⟩
  | 6 => ⟨[1, 3, 5, 34, 35, 36], [1, 3, 5], [], [], [1, 3, 5]⟩
  | 7 => ⟨[1, 3, 5, 34, 35, 36, 43], [1, 3, 5], [], [], [1, 3, 5]⟩
  | 8 => ⟨[2], [], [], [], []⟩
  | 9 => ⟨[1, 3, 34, 35, 36], [1, 3], [], [], [1, 3]⟩
  | 10 => ⟨[1, 3, 34, 35, 36], [1, 3], [], [], [1, 3]⟩
  | 11 => ⟨[1, 69], [1], [], [], [1]⟩
  | 12 => ⟨[2], [], [], [], []⟩
  | 13 => ⟨[1, 71, 72, 73], [1], [], [], [1]⟩
  | 14 => ⟨[1, 71, 72, 73, 74], [1], [], [], [1]⟩
  | 15 => ⟨[1, 6, 7, 71, 72, 73], [1, 7], [], [], [1, 7]⟩
  | 16 => ⟨[1, 71, 72, 73, 94], [1], [], [], [1]⟩
  | 17 => ⟨[2], [], [], [], []⟩
  | 18 => ⟨[1, 71, 72, 73], [1], [], [], [1]⟩
  | 19 => ⟨[2], [], [], [], []⟩
  | _ => ⟨[], [], [], [], []⟩
noncomputable abbrev x_node_formed : Cx := ⟨Tryd.prog, ⟨id, nf_node_formed, fp_node_formed⟩, an_node_formed⟩
theorem start_node_formed {args : List PV} {r : PV} (ha : args.length = 1) (h : awp x_node_formed c_node_formed (bodyR Tryd.prog [.tmp 2] r []) (initSt args [])) : PC Tryd.prog 97 args r :=
  pc_of_awp (X := x_node_formed) mixed Tryd.func97 (c := c_node_formed) (by kernel_rfl) (by kernel_rfl) (rs := [.tmp 2]) (by kernel_rfl) (by kernel_rfl) (by rw [ha]; decide) h
noncomputable def c_node_Check : Code := (Tryd.f75.body).getD .skip
def nf_node_Check : List (Nat × Nf) := []
def fp_node_Check : List (Nat × List Nat) := []
def an_node_Check : Nat → Ann
  | 0 => ⟨[1], [1], [], [], [1]⟩
  | 1 => ⟨[1, 3], [1], [], [], [1]⟩
  | 2 => ⟨[2], [], [], [], []⟩
  | 3 => ⟨[1, 7], [1], [], [], [1]⟩
  | 4 => ⟨[2], [], [], [], []⟩
  | 5 => ⟨[11], [], [], [], []⟩
  | 6 => ⟨[2], [], [], [], []⟩
  | 7 => ⟨[2], [], [], [], []⟩
  | _ => ⟨[], [], [], [], []⟩
noncomputable abbrev x_node_Check : Cx := ⟨Tryd.prog, ⟨id, nf_node_Check, fp_node_Check⟩, an_node_Check⟩
theorem start_node_Check {args : List PV} {r : PV} (ha : args.length = 1) (h : awp x_node_Check c_node_Check (bodyR Tryd.prog [.tmp 2] r []) (initSt args [])) : PC Tryd.prog 75 args r :=
  pc_of_awp (X := x_node_Check) mixed Tryd.func75 (c := c_node_Check) (by kernel_rfl) (by kernel_rfl) (rs := [.tmp 2]) (by kernel_rfl) (by kernel_rfl) (by rw [ha]; decide) h
noncomputable def c_node_Right : Code := (Tryd.f42.body).getD .skip
def nf_node_Right : List (Nat × Nf) := []
def fp_node_Right : List (Nat × List Nat) := []
def an_node_Right : Nat → Ann
  | 0 => ⟨[1], [1], [], [], [1]⟩
  | 1 => ⟨[2], [], [], [], []⟩
  | _ => ⟨[], [], [], [], []⟩
noncomputable abbrev x_node_Right : Cx := ⟨Tryd.prog, ⟨id, nf_node_Right, fp_node_Right⟩, an_node_Right⟩
theorem start_node_Right {args : List PV} {r : PV} (ha : args.length = 1) (h : awp x_node_Right c_node_Right (bodyR Tryd.prog [.tmp 2] r []) (initSt args [])) : PC Tryd.prog 42 args r :=
  pc_of_awp (X := x_node_Right) mixed Tryd.func42 (c := c_node_Right) (by kernel_rfl) (by kernel_rfl) (rs := [.tmp 2]) (by kernel_rfl) (by kernel_rfl) (by rw [ha]; decide) h
noncomputable def c_piece_where_1_x : Code := (Tryd.f93.body).getD .skip
def nf_piece_where_1_x : List (Nat × Nf) := [(4, [some 1, none, none, some 1, some 2, some 5, none, none])]
def fp_piece_where_1_x : List (Nat × List Nat) := []
def an_piece_where_1_x : Nat → Ann
  | 0 => ⟨[1, 3], [1000, 1001], [], [], [1000, 1001]⟩
  | 1 => ⟨[], [1000, 1001], [], [], [1000, 1001]⟩
  | _ => ⟨[], [], [], [], []⟩
noncomputable abbrev x_piece_where_1_x : Cx := ⟨Tryd.prog, ⟨id, nf_piece_where_1_x, fp_piece_where_1_x⟩, an_piece_where_1_x⟩
theorem start_piece_where_1_x {args : List PV} {es es' : List Ent} {r : PV} (ha : args.length = 2) (hl : es'.length = es.length) (he : (es'.all fun e => e.extOk es.length) = true) (h : awp x_piece_where_1_x c_piece_where_1_x (bodyR Tryd.prog [] r es') (initSt args es)) : BD Tryd.prog 93 args es r es' :=
  bd_of_awp (X := x_piece_where_1_x) mixed Tryd.func93 (c := c_piece_where_1_x) (by kernel_rfl) (rs := []) (by kernel_rfl) (by kernel_rfl) (by rw [ha]; decide) hl (fun e h => List.all_eq_true.1 he e h) h
noncomputable def c_slices_Equal_int : Code := (Tryd.f94.body).getD .skip
def nf_slices_Equal_int : List (Nat × Nf) := []
def fp_slices_Equal_int : List (Nat × List Nat) := []
def an_slices_Equal_int : Nat → Ann
  | 0 => ⟨[0, 1], [], [], [], []⟩
  | 1 => ⟨[0, 1, 10], [], [], [], []⟩
  | 2 => ⟨[4], [], [], [], []⟩
  | 3 => ⟨[0, 1, 12, 13], [], [], [], []⟩
  | 4 => ⟨[0, 1, 12, 13, 14], [], [], [], []⟩
  | 5 => ⟨[0, 1, 5, 12, 13], [], [], [], []⟩
  | 6 => ⟨[0, 1, 12, 13, 24], [], [], [], []⟩
  | 7 => ⟨[4], [], [], [], []⟩
  | 8 => ⟨[0, 1, 12, 13], [], [], [], []⟩
  | 9 => ⟨[4], [], [], [], []⟩
  | _ => ⟨[], [], [], [], []⟩
noncomputable abbrev x_slices_Equal_int : Cx := ⟨Tryd.prog, ⟨id, nf_slices_Equal_int, fp_slices_Equal_int⟩, an_slices_Equal_int⟩
theorem start_slices_Equal_int {args : List PV} {r : PV} (ha : args.length = 2) (h : awp x_slices_Equal_int c_slices_Equal_int (bodyR Tryd.prog [.tmp 4] r []) (initSt args [])) : PC Tryd.prog 94 args r :=
  pc_of_awp (X := x_slices_Equal_int) mixed Tryd.func94 (c := c_slices_Equal_int) (by kernel_rfl) (by kernel_rfl) (rs := [.tmp 4]) (by kernel_rfl) (by kernel_rfl) (by rw [ha]; decide) h
noncomputable def c_place_Inner : Code := (Tryd.f96.body).getD .skip
def nf_place_Inner : List (Nat × Nf) := [(28, [none, none, some 1, some 2, some 5]), (38, [none, none, some 1, some 2, some 5])]
def fp_place_Inner : List (Nat × List Nat) := []
def an_place_Inner : Nat → Ann
  | 0 => ⟨[1, 2, 4], [2, 4], [.nrm 4 [none, none, some 1, some 2, some 5]], [], [2, 4]⟩
  | 1 => ⟨[2, 4, 8, 9, 10], [2, 4], [], [], [2, 4]⟩
  | 2 => ⟨[2, 4, 8, 9, 10, 11], [2, 4], [], [], [2, 4]⟩
  | 3 => ⟨[2, 4, 7, 8, 9, 10], [2, 4], [], [], [2, 4]⟩
  | 4 => ⟨[2, 4, 7, 8, 9, 10, 27], [2, 4], [], [], [2, 4]⟩
  | 5 => ⟨[4, 5], [4], [], [], [4]⟩
  | 6 => ⟨[2, 4, 8, 9, 10], [2, 4], [], [], [2, 4]⟩
  | 7 => ⟨[2, 4, 8, 9, 10], [2, 4], [], [], [2, 4]⟩
  | 8 => ⟨[2, 4, 37], [2, 4], [], [], [2, 4]⟩
  | 9 => ⟨[4, 5], [4], [], [], [4]⟩
  | 10 => ⟨[4, 5], [4], [], [], [4]⟩
  | _ => ⟨[], [], [], [], []⟩
noncomputable abbrev x_place_Inner : Cx := ⟨Tryd.prog, ⟨id, nf_place_Inner, fp_place_Inner⟩, an_place_Inner⟩
theorem start_place_Inner {args : List PV} {r : PV} (ha : args.length = 2) (h : awp x_place_Inner c_place_Inner (bodyR Tryd.prog [.cell 4 28, .tmp 5] r []) (initSt args [])) : PC Tryd.prog 96 args r :=
  pc_of_awp (X := x_place_Inner) mixed Tryd.func96 (c := c_place_Inner) (by kernel_rfl) (by kernel_rfl) (rs := [.cell 4 28, .tmp 5]) (by kernel_rfl) (by kernel_rfl) (by rw [ha]; decide) h
noncomputable def c_place_Start : Code := (Tryd.f95.body).getD .skip
def nf_place_Start : List (Nat × Nf) := []
def fp_place_Start : List (Nat × List Nat) := []
def an_place_Start : Nat → Ann
  | 0 => ⟨[1, 2], [2], [], [], [2]⟩
  | 1 => ⟨[1, 2, 7], [2], [], [], [2]⟩
  | 2 => ⟨[1, 2, 7, 18], [2], [], [], [2]⟩
  | 3 => ⟨[4, 5], [], [], [], []⟩
  | 4 => ⟨[1, 2, 8], [2], [], [], [2]⟩
  | 5 => ⟨[2, 8, 20, 21, 22], [2], [], [], [2]⟩
  | 6 => ⟨[2, 8, 20, 21, 22, 23], [2], [], [], [2]⟩
  | 7 => ⟨[2, 8, 10, 20, 21, 22], [2], [], [], [2]⟩
  | 8 => ⟨[2, 8, 10, 20, 21, 22], [2], [], [], [2]⟩
  | 9 => ⟨[2, 8, 20, 21, 22], [2], [], [], [2]⟩
  | 10 => ⟨[2, 8, 20, 21, 22], [2], [], [], [2]⟩
  | 11 => ⟨[4, 5], [], [], [], []⟩
  | _ => ⟨[], [], [], [], []⟩
noncomputable abbrev x_place_Start : Cx := ⟨Tryd.prog, ⟨id, nf_place_Start, fp_place_Start⟩, an_place_Start⟩
theorem start_place_Start {args : List PV} {r : PV} (ha : args.length = 2) (h : awp x_place_Start c_place_Start (bodyR Tryd.prog [.tmp 4, .tmp 5] r []) (initSt args [])) : PC Tryd.prog 95 args r :=
  pc_of_awp (X := x_place_Start) mixed Tryd.func95 (c := c_place_Start) (by kernel_rfl) (by kernel_rfl) (rs := [.tmp 4, .tmp 5]) (by kernel_rfl) (by kernel_rfl) (by rw [ha]; decide) h
noncomputable def c_piece_where : Code := (Tryd.f74.body).getD .skip
def nf_piece_where : List (Nat × Nf) := []
def fp_piece_where : List (Nat × List Nat) := [(31, [1001]), (32, [1000]), (42, [1001]), (43, [1000]), (71, [8]), (72, [8]), (73, [12]), (81, [1000]), (500006, [1001]), (500007, [1000])]
def an_piece_where : Nat → Ann
  | 0 => ⟨[1, 2, 3, 6, 7], [3, 6, 7], [.nrm 6 [some 1, none, none, some 1, some 2, some 5, none, none]], [], [3, 6, 7]⟩
  | 1 => ⟨[1, 2, 3, 6, 7], [], [], [], []⟩
  | 2 => ⟨[1, 2, 3, 6, 7, 21], [3, 1000, 1001], [], [], [3, 1000, 1001]⟩
  | 3 => ⟨[6, 7], [1000, 1001], [], [], [1000, 1001]⟩
  | 4 => ⟨[1, 2, 3, 6, 7, 8], [3, 8, 1000, 1001], [], [], [3, 8, 1000, 1001]⟩
  | 5 => ⟨[1, 2, 3, 6, 7, 8, 30], [3, 8, 1000, 1001], [], [], [3, 8, 1000, 1001]⟩
  | 6 => ⟨[6, 7], [1000, 1001], [], [], [1000, 1001]⟩
  | 7 => ⟨[1, 2, 3, 6, 7, 8, 9], [3, 8, 9, 1000, 1001], [], [], [3, 8, 9, 1000, 1001]⟩
  | 8 => ⟨[1, 2, 3, 6, 7, 8, 9, 39], [3, 8, 9, 1000, 1001], [], [], [3, 8, 9, 1000, 1001]⟩
  | 9 => ⟨[6, 7], [1000, 1001], [], [], [1000, 1001]⟩
  | 10 => ⟨[1, 2, 3, 6, 7, 8, 9, 44], [3, 8, 9, 1000, 1001], [], [], [3, 8, 9, 1000, 1001]⟩
  | 11 => ⟨[6, 7], [1000, 1001], [], [], [1000, 1001]⟩
  | 12 => ⟨[1, 2, 3, 6, 7, 8, 49], [3, 8, 1000, 1001], [], [], [3, 8, 1000, 1001]⟩
  | 13 => ⟨[6, 7], [1000, 1001], [], [], [1000, 1001]⟩
  | 14 => ⟨[1, 2, 3, 6, 7, 8, 10], [3, 8, 1000, 1001], [], [], [3, 8, 1000, 1001]⟩
  | 15 => ⟨[1, 2, 6, 7, 8, 10, 12], [8, 12, 1000, 1001], [], [], [8, 12, 1000, 1001]⟩
  | 16 => ⟨[6, 7], [1000, 1001], [], [], [1000, 1001]⟩
  | _ => ⟨[], [], [], [], []⟩
noncomputable abbrev x_piece_where : Cx := ⟨Tryd.prog, ⟨id, nf_piece_where, fp_piece_where⟩, an_piece_where⟩
noncomputable def c0_piece_where : Code := match Tryd.f74.body with | some (.seq c _) => c | _ => .skip
noncomputable def c1_piece_where : Code := match Tryd.f74.body with | some (.seq _ (.seq _ c)) => c | _ => .skip
noncomputable def o1_piece_where : Oper := match Tryd.f74.body with | some (.seq _ (.seq (.region _ ops _) _)) => (ops[0]?).getD ⟨none, .move (.tmp 0), 0, "", #[], none⟩ | _ => ⟨none, .move (.tmp 0), 0, "", #[], none⟩
noncomputable def o2_piece_where : Oper := match Tryd.f74.body with | some (.seq _ (.seq (.region _ ops _) _)) => (ops[1]?).getD ⟨none, .move (.tmp 0), 0, "", #[], none⟩ | _ => ⟨none, .move (.tmp 0), 0, "", #[], none⟩
theorem start_piece_where {args : List PV} {r : PV} (ha : args.length = 3) (h : awp x_piece_where c0_piece_where (midD x_piece_where 93 13 7 6 c1_piece_where [.cell 6 117, .cell 7 37] r) (initSt args [])) : PC Tryd.prog 74 args r :=
  pc_of_awpD (X := x_piece_where) (id := 1) (o1 := o1_piece_where) (o2 := o2_piece_where) (c0 := c0_piece_where) (c1 := c1_piece_where) mixed Tryd.func74 (by kernel_rfl) ⟨by rfl, by rfl, by rfl⟩ ⟨⟨_, by rfl⟩, by rfl, by rfl⟩ (by kernel_rfl) ⟨_, Tryd.func93, by kernel_rfl, by kernel_rfl⟩ (rs := [.cell 6 117, .cell 7 37]) (by kernel_rfl) (by kernel_rfl) (by kernel_rfl) (by rw [ha]; decide) (by decide) h
noncomputable def c_slices_Concat_api_Node : Code := (Tryd.f76.body).getD .skip
def nf_slices_Concat_api_Node : List (Nat × Nf) := []
def fp_slices_Concat_api_Node : List (Nat × List Nat) := []
def an_slices_Concat_api_Node : Nat → Ann
  | 0 => ⟨[0], [], [], [], []⟩
  | 1 => ⟨[0, 3], [], [], [], []⟩
  | 2 => ⟨[0, 3, 9, 10, 11], [], [], [], []⟩
  | 3 => ⟨[0, 3, 9, 10, 11, 12], [], [], [], []⟩
  | 4 => ⟨[0, 3, 5, 9, 10, 11], [], [], [], []⟩
  | 5 => ⟨[0, 3, 9, 10, 11], [], [], [], []⟩
  | 6 => ⟨[0, 3, 9, 10, 11, 20], [], [], [], []⟩
  | 7 => ⟨[0, 3, 9, 10, 11], [], [], [], []⟩
  | 8 => ⟨[0, 3, 9, 10, 11], [], [], [], []⟩
  | 9 => ⟨[0, 6], [24], [], [.ren 24 6], [6, 24]⟩
  | 10 => ⟨[6, 25, 26, 27], [6], [], [], [6]⟩
  | 11 => ⟨[6, 25, 26, 27, 28], [6], [], [], [6]⟩
  | 12 => ⟨[6, 8, 25, 26, 27], [6], [], [], [6]⟩
  | 13 => ⟨[6, 25, 26, 27], [6], [], [], [6]⟩
  | 14 => ⟨[6, 25, 26, 27], [6], [], [], [6]⟩
  | 15 => ⟨[2], [6], [], [.ren 6 2], [2, 6]⟩
  | _ => ⟨[], [], [], [], []⟩
noncomputable abbrev x_slices_Concat_api_Node : Cx := ⟨Tryd.prog, ⟨id, nf_slices_Concat_api_Node, fp_slices_Concat_api_Node⟩, an_slices_Concat_api_Node⟩
theorem start_slices_Concat_api_Node {args : List PV} {r : PV} (ha : args.length = 1) (h : awp x_slices_Concat_api_Node c_slices_Concat_api_Node (bodyR Tryd.prog [.tmp 2] r []) (initSt args [])) : PC Tryd.prog 76 args r :=
  pc_of_awp (X := x_slices_Concat_api_Node) mixed Tryd.func76 (c := c_slices_Concat_api_Node) (by kernel_rfl) (by kernel_rfl) (rs := [.tmp 2]) (by kernel_rfl) (by kernel_rfl) (by rw [ha]; decide) h
noncomputable def c_place_With : Code := (Tryd.f77.body).getD .skip
def nf_place_With : List (Nat × Nf) := [(18, [none, none, some 1, some 2, some 5]), (48, [none, none, none, none, some 5])]
def fp_place_With : List (Nat × List Nat) := []
def an_place_With : Nat → Ann
  | 0 => ⟨[1, 3, 5, 6], [3, 5, 6], [.nrm 6 [none, none, some 1, some 2, some 5]], [], [3, 5, 6]⟩
  | 1 => ⟨[1, 3, 5, 6, 9], [3, 5, 6], [], [], [3, 5, 6]⟩
  | 2 => ⟨[1, 3, 5, 6, 9, 17], [3, 5, 6], [], [], [3, 5, 6]⟩
  | 3 => ⟨[6, 7], [6], [], [], [6]⟩
  | 4 => ⟨[1, 3, 5, 6, 22], [3, 5, 6], [], [], [3, 5, 6]⟩
  | 5 => ⟨[6, 7], [6], [], [], [6]⟩
  | 6 => ⟨[1, 3, 5, 6], [3, 5, 6, 26], [], [.ren 26 325], [3, 5, 6, 26, 325]⟩
  | 7 => ⟨[3, 6], [3, 6, 325], [], [], [3, 6, 325]⟩
  | 8 => ⟨[6, 7], [6], [], [], [6]⟩
  | _ => ⟨[], [], [], [], []⟩
noncomputable abbrev x_place_With : Cx := ⟨Tryd.prog, ⟨id, nf_place_With, fp_place_With⟩, an_place_With⟩
theorem start_place_With {args : List PV} {r : PV} (ha : args.length = 3) (h : awp x_place_With c_place_With (bodyR Tryd.prog [.cell 6 28, .tmp 7] r []) (initSt args [])) : PC Tryd.prog 77 args r :=
  pc_of_awp (X := x_place_With) mixed Tryd.func77 (c := c_place_With) (by kernel_rfl) (by kernel_rfl) (rs := [.cell 6 28, .tmp 7]) (by kernel_rfl) (by kernel_rfl) (by rw [ha]; decide) h
noncomputable def c_piece_Put : Code := (Tryd.f40.body).getD .skip
def nf_piece_Put : List (Nat × Nf) := [(33, [none, none, some 1, some 2, none]), (37, [none, none, some 1, some 2, some 5]), (40, [none, none, some 1, some 2, some 5]), (83, [none, none, some 1, some 2, some 5])]
def fp_piece_Put : List (Nat × List Nat) := []
def an_piece_Put : Nat → Ann
  | 0 => ⟨[1, 2, 3, 4, 8], [4, 8], [.nrm 8 [none, none, some 1, some 2, some 5]], [], [4, 8]⟩
  | 1 => ⟨[3, 4, 8, 10, 11], [4, 8, 10], [], [], [4, 8, 10]⟩
  | 2 => ⟨[3, 4, 8, 10, 11, 36], [4, 8, 10], [], [], [4, 8, 10]⟩
  | 3 => ⟨[8, 9], [8], [], [], [8]⟩
  | 4 => ⟨[3, 4, 8, 10, 11, 39], [4, 8, 10], [], [], [4, 8, 10]⟩
  | 5 => ⟨[8, 9], [8], [], [], [8]⟩
  | 6 => ⟨[3, 4, 8, 10, 12], [4, 8, 10], [], [], [4, 8, 10]⟩
  | 7 => ⟨[3, 4, 8, 10, 12, 16], [4, 8, 10], [], [], [4, 8, 10]⟩
  | 8 => ⟨[4, 8, 10], [4, 8, 10], [], [], [4, 8, 10]⟩
  | 9 => ⟨[8, 18], [8, 18], [], [], [8, 18]⟩
  | 10 => ⟨[8, 18, 20], [8, 18], [], [], [8, 18]⟩
  | 11 => ⟨[8, 18, 20, 82], [8, 18], [], [], [8, 18]⟩
  | 12 => ⟨[8, 9], [8], [], [], [8]⟩
  | 13 => ⟨[8, 9], [8], [], [], [8]⟩
  | _ => ⟨[], [], [], [], []⟩
noncomputable abbrev x_piece_Put : Cx := ⟨Tryd.prog, ⟨id, nf_piece_Put, fp_piece_Put⟩, an_piece_Put⟩
theorem start_piece_Put {args : List PV} {r : PV} (ha : args.length = 4) (h : awp x_piece_Put c_piece_Put (bodyR Tryd.prog [.cell 8 28, .tmp 9] r []) (initSt args [])) : PC Tryd.prog 40 args r :=
  pc_of_awp (X := x_piece_Put) mixed Tryd.func40 (c := c_piece_Put) (by kernel_rfl) (by kernel_rfl) (rs := [.cell 8 28, .tmp 9]) (by kernel_rfl) (by kernel_rfl) (by rw [ha]; decide) h
noncomputable def c_diptychlaw5_shown : Code := (Tryd.f30.body).getD .skip
def nf_diptychlaw5_shown : List (Nat × Nf) := [(4, [none, none, some 1, some 2, some 5]), (6, [none, none, some 1, some 2, some 5]), (8, [none, none, some 1, some 2, some 5]), (11, [none, none, some 1, some 2, some 5])]
def fp_diptychlaw5_shown : List (Nat × List Nat) := []
def an_diptychlaw5_shown : Nat → Ann
  | 0 => ⟨[], [], [], [], []⟩
  | 1 => ⟨[1], [1], [], [], [1]⟩
  | 2 => ⟨[2, 3], [2], [], [], [2]⟩
  | 3 => ⟨[0], [], [], [], []⟩
  | _ => ⟨[], [], [], [], []⟩
noncomputable abbrev x_diptychlaw5_shown : Cx := ⟨Tryd.prog, ⟨id, nf_diptychlaw5_shown, fp_diptychlaw5_shown⟩, an_diptychlaw5_shown⟩
theorem start_diptychlaw5_shown {args : List PV} {r : PV} (ha : args.length = 0) (h : awp x_diptychlaw5_shown c_diptychlaw5_shown (bodyR Tryd.prog [.tmp 0] r []) (initSt args [])) : PC Tryd.prog 30 args r :=
  pc_of_awp (X := x_diptychlaw5_shown) mixed Tryd.func30 (c := c_diptychlaw5_shown) (by kernel_rfl) (by kernel_rfl) (rs := [.tmp 0]) (by kernel_rfl) (by kernel_rfl) (by rw [ha]; decide) h
noncomputable def c_diptychlaw5_pick : Code := (Tryd.f32.body).getD .skip
def nf_diptychlaw5_pick : List (Nat × Nf) := []
def fp_diptychlaw5_pick : List (Nat × List Nat) := []
def an_diptychlaw5_pick : Nat → Ann
  | 0 => ⟨[0, 1], [], [], [], []⟩
  | 1 => ⟨[0, 1, 6], [], [], [], []⟩
  | 2 => ⟨[0, 1], [], [], [], []⟩
  | 3 => ⟨[4], [], [], [], []⟩
  | _ => ⟨[], [], [], [], []⟩
noncomputable abbrev x_diptychlaw5_pick : Cx := ⟨Tryd.prog, ⟨id, nf_diptychlaw5_pick, fp_diptychlaw5_pick⟩, an_diptychlaw5_pick⟩
theorem start_diptychlaw5_pick {args : List PV} {r : PV} (ha : args.length = 2) (h : awp x_diptychlaw5_pick c_diptychlaw5_pick (bodyR Tryd.prog [.tmp 4] r []) (initSt args [])) : PC Tryd.prog 32 args r :=
  pc_of_awp (X := x_diptychlaw5_pick) mixed Tryd.func32 (c := c_diptychlaw5_pick) (by kernel_rfl) (by kernel_rfl) (rs := [.tmp 4]) (by kernel_rfl) (by kernel_rfl) (by rw [ha]; decide) h
noncomputable def c_diptychref1_sameNames : Code := (Tryd.f92.body).getD .skip
def nf_diptychref1_sameNames : List (Nat × Nf) := []
def fp_diptychref1_sameNames : List (Nat × List Nat) := []
def an_diptychref1_sameNames : Nat → Ann
  | 0 => ⟨[0, 1], [], [], [], []⟩
  | 1 => ⟨[0, 1, 10], [], [], [], []⟩
  | 2 => ⟨[4], [], [], [], []⟩
  | 3 => ⟨[0, 1, 5], [], [], [], []⟩
  | 4 => ⟨[0, 1, 5, 14], [], [], [], []⟩
  | 5 => ⟨[0, 1, 5], [], [], [], []⟩
  | 6 => ⟨[0, 1, 5, 25], [], [], [], []⟩
  | 7 => ⟨[4], [], [], [], []⟩
  | 8 => ⟨[4], [], [], [], []⟩
  | _ => ⟨[], [], [], [], []⟩
noncomputable abbrev x_diptychref1_sameNames : Cx := ⟨Tryd.prog, ⟨id, nf_diptychref1_sameNames, fp_diptychref1_sameNames⟩, an_diptychref1_sameNames⟩
theorem start_diptychref1_sameNames {args : List PV} {r : PV} (ha : args.length = 2) (h : awp x_diptychref1_sameNames c_diptychref1_sameNames (bodyR Tryd.prog [.tmp 4] r []) (initSt args [])) : PC Tryd.prog 92 args r :=
  pc_of_awp (X := x_diptychref1_sameNames) mixed Tryd.func92 (c := c_diptychref1_sameNames) (by kernel_rfl) (by kernel_rfl) (rs := [.tmp 4]) (by kernel_rfl) (by kernel_rfl) (by rw [ha]; decide) h
noncomputable def c_diptychref1_Join : Code := (Tryd.f72.body).getD .skip
def nf_diptychref1_Join : List (Nat × Nf) := []
def fp_diptychref1_Join : List (Nat × List Nat) := [(65, [3]), (66, [3, 62]), (67, [5]), (69, [62, 68])]
def an_diptychref1_Join : Nat → Ann
  | 0 => ⟨[0], [], [], [], []⟩
  | 1 => ⟨[0, 3], [3], [.thaw 3 3 5], [], [3]⟩
  | 2 => ⟨[0, 3, 4], [3], [], [], [3]⟩
  | 3 => ⟨[0, 3, 4, 10], [3], [], [], [3]⟩
  | 4 => ⟨[0, 3, 4], [3], [], [], [3]⟩
  | 5 => ⟨[0, 3, 4, 5], [3, 5], [], [], [3, 5]⟩
  | 6 => ⟨[0, 3, 4, 5, 6], [3, 5], [], [], [3, 5]⟩
  | 7 => ⟨[0, 3, 4, 5, 6, 27], [3, 5], [], [], [3, 5]⟩
  | 8 => ⟨[0, 3, 4, 5, 6, 52], [3, 5], [], [], [3, 5]⟩
  | 9 => ⟨[0, 3, 4, 5, 6], [3, 5], [], [], [3, 5]⟩
  | 10 => ⟨[0, 3, 4], [62], [], [.ren 62 3], [3, 62]⟩
  | 11 => ⟨[0, 3, 4], [3], [], [], [3]⟩
  | 12 => ⟨[2], [3], [], [.ren 3 2], [2, 3]⟩
  | _ => ⟨[], [], [], [], []⟩
noncomputable abbrev x_diptychref1_Join : Cx := ⟨Tryd.prog, ⟨id, nf_diptychref1_Join, fp_diptychref1_Join⟩, an_diptychref1_Join⟩
theorem start_diptychref1_Join {args : List PV} {r : PV} (ha : args.length = 1) (h : awp x_diptychref1_Join c_diptychref1_Join (bodyR Tryd.prog [.tmp 2] r []) (initSt args [])) : PC Tryd.prog 72 args r :=
  pc_of_awp (X := x_diptychref1_Join) mixed Tryd.func72 (c := c_diptychref1_Join) (by kernel_rfl) (by kernel_rfl) (rs := [.tmp 2]) (by kernel_rfl) (by kernel_rfl) (by rw [ha]; decide) h
noncomputable def c_diptychlaw5_made : Code := (Tryd.f31.body).getD .skip
def nf_diptychlaw5_made : List (Nat × Nf) := [(32, [none, none, some 1, some 2, some 5]), (61, [none, none, some 1, some 2, some 5])]
def fp_diptychlaw5_made : List (Nat × List Nat) := []
def an_diptychlaw5_made : Nat → Ann
  | 0 => ⟨[0], [], [], [], []⟩
  | 1 => ⟨[0, 3], [10], [], [.ren 10 3], [3, 10]⟩
  | 2 => ⟨[0, 3, 4], [3, 11], [], [.ren 11 4], [3, 4, 11]⟩
  | 3 => ⟨[0, 3, 4, 5], [3, 4, 5], [.thaw 5 5 5], [], [3, 4, 5]⟩
  | 4 => ⟨[0, 3, 4, 5, 6], [3, 4, 5], [], [], [3, 4, 5]⟩
  | 5 => ⟨[0, 3, 4, 5, 6, 19], [3, 4, 5], [], [], [3, 4, 5]⟩
  | 6 => ⟨[0, 3, 4, 5, 6], [3, 4, 5], [], [], [3, 4, 5]⟩
  | 7 => ⟨[0, 3, 4, 5, 6, 7], [3, 4, 5, 7], [], [], [3, 4, 5, 7]⟩
  | 8 => ⟨[0, 3, 4, 5, 6, 7, 8], [3, 4, 5, 7, 8], [], [], [3, 4, 5, 7, 8]⟩
  | 9 => ⟨[0, 3, 4, 5, 6, 7, 8, 36], [3, 4, 5, 7, 8], [], [], [3, 4, 5, 7, 8]⟩
  | 10 => ⟨[0, 3, 4, 5, 6, 7, 8], [3, 4, 5, 7, 8], [.nrm 8 [none, none, none, some 2, none]], [], [3, 4, 5, 7, 8]⟩
  | 11 => ⟨[0, 3, 4, 5, 6, 7, 8, 49], [3, 4, 5, 7, 8], [], [], [3, 4, 5, 7, 8]⟩
  | 12 => ⟨[0, 3, 4, 5, 6, 7, 8, 49, 50], [3, 4, 5, 7, 8], [], [], [3, 4, 5, 7, 8]⟩
  | 13 => ⟨[0, 3, 4, 5, 6, 7, 8, 49, 50], [3, 4, 5, 7, 8], [], [], [3, 4, 5, 7, 8]⟩
  | 14 => ⟨[0, 3, 4, 5, 6, 7, 8, 49, 50], [3, 4, 5, 7, 8], [], [], [3, 4, 5, 7, 8]⟩
  | 15 => ⟨[0, 3, 4, 5, 6, 7, 8, 49, 50], [3, 4, 5, 7, 8], [], [], [3, 4, 5, 7, 8]⟩
  | 16 => ⟨[0, 3, 4, 5, 6, 7, 8], [3, 4, 5, 7, 8], [], [], [3, 4, 5, 7, 8]⟩
  | 17 => ⟨[0, 3, 4, 5, 6, 7, 8, 65], [3, 4, 5, 7, 8], [], [], [3, 4, 5, 7, 8]⟩
  | 18 => ⟨[0, 3, 4, 5, 6, 7, 8], [3, 4, 5, 7, 8], [.nrm 8 [none, none, some 1, none, none]], [], [3, 4, 5, 7, 8]⟩
  | 19 => ⟨[0, 3, 4, 5, 6, 8, 71], [3, 4, 5, 8], [], [], [3, 4, 5, 8]⟩
  | 20 => ⟨[0, 3, 4, 5, 6, 8], [3, 4, 5, 8], [.nrm 8 [none, none, some 1, none, none]], [], [3, 4, 5, 8]⟩
  | 21 => ⟨[0, 3, 4, 5, 6, 7, 8, 49, 74], [3, 4, 5, 7, 8], [], [], [3, 4, 5, 7, 8]⟩
  | 22 => ⟨[0, 3, 4, 5, 6, 7, 8, 49, 74], [3, 4, 5, 7, 8], [], [], [3, 4, 5, 7, 8]⟩
  | 23 => ⟨[0, 3, 4, 5, 6, 7, 8, 74], [3, 4, 5, 7, 8], [], [], [3, 4, 5, 7, 8]⟩
  | 24 => ⟨[0, 3, 4, 5, 6, 8, 9], [3, 4, 5, 8], [], [], [3, 4, 5, 8]⟩
  | 25 => ⟨[0, 3, 4, 5, 6, 8, 9], [3, 4, 5, 8], [], [], [3, 4, 5, 8]⟩
  | 26 => ⟨[0, 3, 4, 5, 6, 8], [3, 4, 8, 94], [], [.ren 94 5], [3, 4, 5, 8, 94]⟩
  | 27 => ⟨[0, 3, 4, 5, 6], [3, 4, 5], [], [], [3, 4, 5]⟩
  | 28 => ⟨[2], [], [], [], []⟩
  | _ => ⟨[], [], [], [], []⟩
noncomputable abbrev x_diptychlaw5_made : Cx := ⟨Tryd.prog, ⟨id, nf_diptychlaw5_made, fp_diptychlaw5_made⟩, an_diptychlaw5_made⟩
theorem start_diptychlaw5_made {args : List PV} {r : PV} (ha : args.length = 1) (h : awp x_diptychlaw5_made c_diptychlaw5_made (bodyR Tryd.prog [.tmp 2] r []) (initSt args [])) : PC Tryd.prog 31 args r :=
  pc_of_awp (X := x_diptychlaw5_made) mixed Tryd.func31 (c := c_diptychlaw5_made) (by kernel_rfl) (by kernel_rfl) (rs := [.tmp 2]) (by kernel_rfl) (by kernel_rfl) (by rw [ha]; decide) h
noncomputable def c_diptychlaw5_doc : Code := (Tryd.f37.body).getD .skip
def nf_diptychlaw5_doc : List (Nat × Nf) := [(5, [none, none, some 1, some 2, none])]
def fp_diptychlaw5_doc : List (Nat × List Nat) := []
def an_diptychlaw5_doc : Nat → Ann
  | 0 => ⟨[0, 2], [2], [.nrm 2 [none, none, some 1, some 2, some 5]], [], [2]⟩
  | 1 => ⟨[2], [2], [], [], [2]⟩
  | _ => ⟨[], [], [], [], []⟩
noncomputable abbrev x_diptychlaw5_doc : Cx := ⟨Tryd.prog, ⟨id, nf_diptychlaw5_doc, fp_diptychlaw5_doc⟩, an_diptychlaw5_doc⟩
theorem start_diptychlaw5_doc {args : List PV} {r : PV} (ha : args.length = 1) (h : awp x_diptychlaw5_doc c_diptychlaw5_doc (bodyR Tryd.prog [.cell 2 28] r []) (initSt args [])) : PC Tryd.prog 37 args r :=
  pc_of_awp (X := x_diptychlaw5_doc) mixed Tryd.func37 (c := c_diptychlaw5_doc) (by kernel_rfl) (by kernel_rfl) (rs := [.cell 2 28]) (by kernel_rfl) (by kernel_rfl) (by rw [ha]; decide) h
noncomputable def c_diptychref4_same : Code := (Tryd.f99.body).getD .skip
def nf_diptychref4_same : List (Nat × Nf) := []
def fp_diptychref4_same : List (Nat × List Nat) := []
def an_diptychref4_same : Nat → Ann
  | 0 => ⟨[0, 1], [], [], [], []⟩
  | 1 => ⟨[0, 1, 10], [], [], [], []⟩
  | 2 => ⟨[4], [], [], [], []⟩
  | 3 => ⟨[0, 1, 5], [], [], [], []⟩
  | 4 => ⟨[0, 1, 5, 14], [], [], [], []⟩
  | 5 => ⟨[0, 1, 5], [], [], [], []⟩
  | 6 => ⟨[0, 1, 5, 25], [], [], [], []⟩
  | 7 => ⟨[4], [], [], [], []⟩
  | 8 => ⟨[4], [], [], [], []⟩
  | _ => ⟨[], [], [], [], []⟩
noncomputable abbrev x_diptychref4_same : Cx := ⟨Tryd.prog, ⟨id, nf_diptychref4_same, fp_diptychref4_same⟩, an_diptychref4_same⟩
theorem start_diptychref4_same {args : List PV} {r : PV} (ha : args.length = 2) (h : awp x_diptychref4_same c_diptychref4_same (bodyR Tryd.prog [.tmp 4] r []) (initSt args [])) : PC Tryd.prog 99 args r :=
  pc_of_awp (X := x_diptychref4_same) mixed Tryd.func99 (c := c_diptychref4_same) (by kernel_rfl) (by kernel_rfl) (rs := [.tmp 4]) (by kernel_rfl) (by kernel_rfl) (by rw [ha]; decide) h
noncomputable def c_diptychref4_Same : Code := (Tryd.f78.body).getD .skip
def nf_diptychref4_Same : List (Nat × Nf) := []
def fp_diptychref4_Same : List (Nat × List Nat) := []
def an_diptychref4_Same : Nat → Ann
  | 0 => ⟨[2, 3], [2, 3], [], [], [2, 3]⟩
  | 1 => ⟨[4], [], [], [], []⟩
  | _ => ⟨[], [], [], [], []⟩
noncomputable abbrev x_diptychref4_Same : Cx := ⟨Tryd.prog, ⟨id, nf_diptychref4_Same, fp_diptychref4_Same⟩, an_diptychref4_Same⟩
theorem start_diptychref4_Same {args : List PV} {r : PV} (ha : args.length = 2) (h : awp x_diptychref4_Same c_diptychref4_Same (bodyR Tryd.prog [.tmp 4] r []) (initSt args [])) : PC Tryd.prog 78 args r :=
  pc_of_awp (X := x_diptychref4_Same) mixed Tryd.func78 (c := c_diptychref4_Same) (by kernel_rfl) (by kernel_rfl) (rs := [.tmp 4]) (by kernel_rfl) (by kernel_rfl) (by rw [ha]; decide) h
noncomputable def c_diptychlaw5_flat : Code := (Tryd.f41.body).getD .skip
def nf_diptychlaw5_flat : List (Nat × Nf) := []
def fp_diptychlaw5_flat : List (Nat × List Nat) := []
def an_diptychlaw5_flat : Nat → Ann
  | 0 => ⟨[1, 2, 3], [3], [], [], [3]⟩
  | 1 => ⟨[2, 3, 8], [3], [], [], [3]⟩
  | 2 => ⟨[3, 8, 9], [3], [], [], [3]⟩
  | 3 => ⟨[3, 8, 9, 10], [3, 10], [], [], [3, 10]⟩
  | 4 => ⟨[3, 8, 9, 10, 34], [3, 10], [], [], [3, 10]⟩
  | 5 => ⟨[3, 8, 9, 10, 12], [3, 10, 12], [], [], [3, 10, 12]⟩
  | 6 => ⟨[3, 8, 9, 10, 47], [3, 10], [], [], [3, 10]⟩
  | 7 => ⟨[3, 8, 9, 10, 50], [3, 10], [], [], [3, 10]⟩
  | 8 => ⟨[3, 8, 9, 10], [3, 10], [], [], [3, 10]⟩
  | 9 => ⟨[3, 8, 9, 10], [3, 10], [], [], [3, 10]⟩
  | 10 => ⟨[6, 7], [], [], [], []⟩
  | _ => ⟨[], [], [], [], []⟩
noncomputable abbrev x_diptychlaw5_flat : Cx := ⟨Tryd.prog, ⟨id, nf_diptychlaw5_flat, fp_diptychlaw5_flat⟩, an_diptychlaw5_flat⟩
theorem start_diptychlaw5_flat {args : List PV} {r : PV} (ha : args.length = 3) (h : awp x_diptychlaw5_flat c_diptychlaw5_flat (bodyR Tryd.prog [.tmp 6, .tmp 7] r []) (initSt args [])) : PC Tryd.prog 41 args r :=
  pc_of_awp (X := x_diptychlaw5_flat) mixed Tryd.func41 (c := c_diptychlaw5_flat) (by kernel_rfl) (by kernel_rfl) (rs := [.tmp 6, .tmp 7]) (by kernel_rfl) (by kernel_rfl) (by rw [ha]; decide) h
noncomputable def c_codec_Quote : Code := (Tryd.f101.body).getD .skip
def nf_codec_Quote : List (Nat × Nf) := []
def fp_codec_Quote : List (Nat × List Nat) := []
def an_codec_Quote : Nat → Ann
  | 0 => ⟨[0], [], [], [], []⟩
  | 1 => ⟨[0], [], [], [], []⟩
  | 2 => ⟨[2], [], [], [], []⟩
  | _ => ⟨[], [], [], [], []⟩
noncomputable abbrev x_codec_Quote : Cx := ⟨Tryd.prog, ⟨id, nf_codec_Quote, fp_codec_Quote⟩, an_codec_Quote⟩
theorem start_codec_Quote {args : List PV} {r : PV} (ha : args.length = 1) (h : awp x_codec_Quote c_codec_Quote (bodyR Tryd.prog [.tmp 2] r []) (initSt args [])) : PC Tryd.prog 101 args r :=
  pc_of_awp (X := x_codec_Quote) mixed Tryd.func101 (c := c_codec_Quote) (by kernel_rfl) (by kernel_rfl) (rs := [.tmp 2]) (by kernel_rfl) (by kernel_rfl) (by rw [ha]; decide) h
noncomputable def c_codec_Head : Code := (Tryd.f79.body).getD .skip
def nf_codec_Head : List (Nat × Nf) := []
def fp_codec_Head : List (Nat × List Nat) := [(32, [5]), (33, [5]), (35, [5]), (36, [5]), (40, [3, 39])]
def an_codec_Head : Nat → Ann
  | 0 => ⟨[1], [1], [], [], [1]⟩
  | 1 => ⟨[1, 8], [1], [], [], [1]⟩
  | 2 => ⟨[1, 12], [1], [], [], [1]⟩
  | 3 => ⟨[2], [], [], [], []⟩
  | 4 => ⟨[2], [], [], [], []⟩
  | 5 => ⟨[1, 21], [1], [], [], [1]⟩
  | 6 => ⟨[2], [], [], [], []⟩
  | 7 => ⟨[1, 3], [1, 3], [.thaw 3 3 1], [], [1, 3]⟩
  | 8 => ⟨[1, 3, 25, 26, 27], [1, 3], [], [], [1, 3]⟩
  | 9 => ⟨[1, 3, 25, 26, 27, 28], [1, 3], [], [], [1, 3]⟩
  | 10 => ⟨[1, 3, 5, 25, 26, 27], [1, 3, 5], [], [], [1, 3, 5]⟩
  | 11 => ⟨[1, 3, 25, 26, 27], [1, 3], [], [], [1, 3]⟩
  | 12 => ⟨[1, 3, 25, 26, 27], [1, 3], [], [], [1, 3]⟩
  | 13 => ⟨[2], [], [], [], []⟩
  | _ => ⟨[], [], [], [], []⟩
noncomputable abbrev x_codec_Head : Cx := ⟨Tryd.prog, ⟨id, nf_codec_Head, fp_codec_Head⟩, an_codec_Head⟩
theorem start_codec_Head {args : List PV} {r : PV} (ha : args.length = 1) (h : awp x_codec_Head c_codec_Head (bodyR Tryd.prog [.tmp 2] r []) (initSt args [])) : PC Tryd.prog 79 args r :=
  pc_of_awp (X := x_codec_Head) mixed Tryd.func79 (c := c_codec_Head) (by kernel_rfl) (by kernel_rfl) (rs := [.tmp 2]) (by kernel_rfl) (by kernel_rfl) (by rw [ha]; decide) h
noncomputable def c_token_Of : Code := (Tryd.f43.body).getD .skip
def nf_token_Of : List (Nat × Nf) := []
def fp_token_Of : List (Nat × List Nat) := []
def an_token_Of : Nat → Ann
  | 0 => ⟨[0], [], [], [], []⟩
  | 1 => ⟨[0, 3], [3], [.thaw 3 3 3], [], [3]⟩
  | 2 => ⟨[3, 8, 9, 10], [3], [], [], [3]⟩
  | 3 => ⟨[3, 8, 9, 10, 11], [3], [], [], [3]⟩
  | 4 => ⟨[3, 5, 8, 9, 10], [3, 5], [], [], [3, 5]⟩
  | 5 => ⟨[3, 5, 8, 9, 10, 16], [3, 5], [], [], [3, 5]⟩
  | 6 => ⟨[3, 5, 8, 9, 10, 19], [3, 5, 19], [], [], [3, 5, 19]⟩
  | 7 => ⟨[3, 5, 8, 9, 10, 19, 20, 21], [3, 5, 19], [], [], [3, 5, 19]⟩
  | 8 => ⟨[3, 5, 7, 8, 9, 10, 19], [3, 5, 19], [], [], [3, 5, 19]⟩
  | 9 => ⟨[3, 5, 8, 9, 10, 19], [3, 5, 19], [], [], [3, 5, 19]⟩
  | 10 => ⟨[3, 5, 8, 9, 10], [3, 5], [], [], [3, 5]⟩
  | 11 => ⟨[3, 8, 9, 10], [3], [], [], [3]⟩
  | 12 => ⟨[3, 8, 9, 10], [3], [], [], [3]⟩
  | 13 => ⟨[3, 8, 9, 10], [3], [], [], [3]⟩
  | 14 => ⟨[2], [3], [], [.ren 3 2], [2, 3]⟩
  | _ => ⟨[], [], [], [], []⟩
noncomputable abbrev x_token_Of : Cx := ⟨Tryd.prog, ⟨id, nf_token_Of, fp_token_Of⟩, an_token_Of⟩
theorem start_token_Of {args : List PV} {r : PV} (ha : args.length = 1) (h : awp x_token_Of c_token_Of (bodyR Tryd.prog [.tmp 2] r []) (initSt args [])) : PC Tryd.prog 43 args r :=
  pc_of_awp (X := x_token_Of) mixed Tryd.func43 (c := c_token_Of) (by kernel_rfl) (by kernel_rfl) (rs := [.tmp 2]) (by kernel_rfl) (by kernel_rfl) (by rw [ha]; decide) h
noncomputable def c_diptychlaw5_PieceTokens : Code := (Tryd.f12.body).getD .skip
def nf_diptychlaw5_PieceTokens : List (Nat × Nf) := []
def fp_diptychlaw5_PieceTokens : List (Nat × List Nat) := []
def an_diptychlaw5_PieceTokens : Nat → Ann
  | 0 => ⟨[0, 1, 2, 3], [], [], [], []⟩
  | 1 => ⟨[0, 1, 2, 3, 9], [], [], [], []⟩
  | 2 => ⟨[0, 1, 2, 3, 23], [], [], [], []⟩
  | 3 => ⟨[8], [], [], [], []⟩
  | 4 => ⟨[1, 2, 3, 10], [10], [], [], [10]⟩
  | 5 => ⟨[1, 10, 11, 12], [10], [], [], [10]⟩
  | 6 => ⟨[10, 11, 12, 13], [10], [], [], [10]⟩
  | 7 => ⟨[10, 11, 12, 13, 14, 15], [10, 14], [], [], [10, 14]⟩
  | 8 => ⟨[10, 11, 12, 13, 14, 44], [10, 14], [], [], [10, 14]⟩
  | 9 => ⟨[8], [], [], [], []⟩
  | 10 => ⟨[11, 12, 13, 14, 16], [14], [], [], [14]⟩
  | 11 => ⟨[11, 12, 13, 16, 17], [], [], [], []⟩
  | 12 => ⟨[11, 12, 16, 17, 18], [], [], [], []⟩
  | 13 => ⟨[11, 12, 16, 17, 18, 64], [], [], [], []⟩
  | 14 => ⟨[8], [], [], [], []⟩
  | 15 => ⟨[11, 12, 16, 17, 18, 19], [], [], [], []⟩
  | 16 => ⟨[11, 12, 16, 17, 18, 19, 68], [], [], [], []⟩
  | 17 => ⟨[11, 12, 16, 17, 18, 19], [], [], [], []⟩
  | 18 => ⟨[11, 12, 16, 17, 18, 19, 20], [20], [], [], [20]⟩
  | 19 => ⟨[11, 12, 16, 17, 18, 19, 20, 74], [20], [], [], [20]⟩
  | 20 => ⟨[11, 12, 16, 17, 18, 19, 20], [20], [], [], [20]⟩
  | 21 => ⟨[11, 12, 16, 17, 18, 19, 20, 84], [20], [], [], [20]⟩
  | 22 => ⟨[11, 12, 16, 17, 18, 19, 20], [20], [], [], [20]⟩
  | 23 => ⟨[11, 12, 16, 17, 18, 19, 20], [20], [], [], [20]⟩
  | 24 => ⟨[11, 12, 16, 17, 18, 19, 107], [], [], [], []⟩
  | 25 => ⟨[8], [], [], [], []⟩
  | 26 => ⟨[8], [], [], [], []⟩
  | _ => ⟨[], [], [], [], []⟩
noncomputable abbrev x_diptychlaw5_PieceTokens : Cx := ⟨Tryd.prog, ⟨id, nf_diptychlaw5_PieceTokens, fp_diptychlaw5_PieceTokens⟩, an_diptychlaw5_PieceTokens⟩
theorem start_diptychlaw5_PieceTokens {args : List PV} {r : PV} (ha : args.length = 4) (h : awp x_diptychlaw5_PieceTokens c_diptychlaw5_PieceTokens (bodyR Tryd.prog [.tmp 8] r []) (initSt args [])) : PC Tryd.prog 12 args r :=
  pc_of_awp (X := x_diptychlaw5_PieceTokens) mixed Tryd.func12 (c := c_diptychlaw5_PieceTokens) (by kernel_rfl) (by kernel_rfl) (rs := [.tmp 8]) (by kernel_rfl) (by kernel_rfl) (by rw [ha]; decide) h
attribute [go_sem] an_node_isText nf_node_isText fp_node_isText an_unicode_utf8_RuneCountInString nf_unicode_utf8_RuneCountInString fp_unicode_utf8_RuneCountInString an_node_Total nf_node_Total fp_node_Total an_node_Size nf_node_Size fp_node_Size an_slices_Clone_api_Node nf_slices_Clone_api_Node fp_slices_Clone_api_Node an_piece_Split nf_piece_Split fp_piece_Split an_slices_Equal_string nf_slices_Equal_string fp_slices_Equal_string an_node_alike nf_node_alike fp_node_alike an_node_Join nf_node_Join fp_node_Join an_place_Resolve nf_place_Resolve fp_place_Resolve an_node_Depth nf_node_Depth fp_node_Depth an_node_Name nf_node_Name fp_node_Name an_node_Value nf_node_Value fp_node_Value an_node_rise nf_node_rise fp_node_rise an_node_formed nf_node_formed fp_node_formed an_node_Check nf_node_Check fp_node_Check an_node_Right nf_node_Right fp_node_Right an_piece_where_1_x nf_piece_where_1_x fp_piece_where_1_x an_slices_Equal_int nf_slices_Equal_int fp_slices_Equal_int an_place_Inner nf_place_Inner fp_place_Inner an_place_Start nf_place_Start fp_place_Start an_piece_where nf_piece_where fp_piece_where an_slices_Concat_api_Node nf_slices_Concat_api_Node fp_slices_Concat_api_Node an_place_With nf_place_With fp_place_With an_piece_Put nf_piece_Put fp_piece_Put an_diptychlaw5_shown nf_diptychlaw5_shown fp_diptychlaw5_shown an_diptychlaw5_pick nf_diptychlaw5_pick fp_diptychlaw5_pick an_diptychref1_sameNames nf_diptychref1_sameNames fp_diptychref1_sameNames an_diptychref1_Join nf_diptychref1_Join fp_diptychref1_Join an_diptychlaw5_made nf_diptychlaw5_made fp_diptychlaw5_made an_diptychlaw5_doc nf_diptychlaw5_doc fp_diptychlaw5_doc an_diptychref4_same nf_diptychref4_same fp_diptychref4_same an_diptychref4_Same nf_diptychref4_Same fp_diptychref4_Same an_diptychlaw5_flat nf_diptychlaw5_flat fp_diptychlaw5_flat an_codec_Quote nf_codec_Quote fp_codec_Quote an_codec_Head nf_codec_Head fp_codec_Head an_token_Of nf_token_Of fp_token_Of an_diptychlaw5_PieceTokens nf_diptychlaw5_PieceTokens fp_diptychlaw5_PieceTokens ty3 ty4 ty5 ty9 ty21 ty24 ty25 ty26 ty28 ty33 ty37 ty44 ty58 ty70 ty81 ty84 ty114 ty115 ty117 ty123 ty140 diptychlaw5_Cell.pv_eq api_Attr.pv_eq api_Node.pv_eq token_Token.pv_eq piece_flat.pv_eq place_Spot.pv_eq diptychref4_Spot.pv_eq pvL

end Go.Proofs.YtblielhogcnnkaaDoor
