/- Code, and what is kept. -/
import Derived.Test.YtblielhogcnnkaaDoorAgT
import Derived.Test.YtblielhogcnnkaaDoorAwT
namespace Go.Proofs.YtblielhogcnnkaaDoor
set_option linter.unusedSimpArgs false
set_option linter.unusedVariables false
open Go
set_option maxRecDepth 100000

noncomputable def c_slices_Clone_string : Code := (Tryd.f52.body).getD .skip
def nf_slices_Clone_string : List (Nat × Nf) := []
def fp_slices_Clone_string : List (Nat × List Nat) := []
def an_slices_Clone_string : Nat → Ann
  | 0 => ⟨[0], [5], [], [], [5]⟩
  | 1 => ⟨[0, 4], [5], [], [], [5]⟩
  | 2 => ⟨[2], [5], [], [], [5]⟩
  | 3 => ⟨[2], [5], [], [], [5]⟩
  | _ => ⟨[], [], [], [], []⟩
noncomputable abbrev x_slices_Clone_string : Cx := ⟨Tryd.prog, ⟨id, nf_slices_Clone_string, fp_slices_Clone_string⟩, an_slices_Clone_string⟩
theorem start_slices_Clone_string {args : List PV} {r : PV} (ha : args.length = 1) (h : awp x_slices_Clone_string c_slices_Clone_string (bodyR Tryd.prog [.tmp 2] r []) (initSt args [])) : PC Tryd.prog 52 args r :=
  pc_of_awp (X := x_slices_Clone_string) mixed Tryd.func52 (c := c_slices_Clone_string) (by kernel_rfl) (by kernel_rfl) (rs := [.tmp 2]) (by kernel_rfl) (by kernel_rfl) (by rw [ha]; decide) h
noncomputable def c_slices_Clone_api_Attr : Code := (Tryd.f53.body).getD .skip
def nf_slices_Clone_api_Attr : List (Nat × Nf) := []
def fp_slices_Clone_api_Attr : List (Nat × List Nat) := []
def an_slices_Clone_api_Attr : Nat → Ann
  | 0 => ⟨[0], [5], [], [], [5]⟩
  | 1 => ⟨[0, 4], [5], [], [], [5]⟩
  | 2 => ⟨[2], [5], [], [], [5]⟩
  | 3 => ⟨[2], [5], [], [], [5]⟩
  | _ => ⟨[], [], [], [], []⟩
noncomputable abbrev x_slices_Clone_api_Attr : Cx := ⟨Tryd.prog, ⟨id, nf_slices_Clone_api_Attr, fp_slices_Clone_api_Attr⟩, an_slices_Clone_api_Attr⟩
theorem start_slices_Clone_api_Attr {args : List PV} {r : PV} (ha : args.length = 1) (h : awp x_slices_Clone_api_Attr c_slices_Clone_api_Attr (bodyR Tryd.prog [.tmp 2] r []) (initSt args [])) : PC Tryd.prog 53 args r :=
  pc_of_awp (X := x_slices_Clone_api_Attr) mixed Tryd.func53 (c := c_slices_Clone_api_Attr) (by kernel_rfl) (by kernel_rfl) (rs := [.tmp 2]) (by kernel_rfl) (by kernel_rfl) (by rw [ha]; decide) h
noncomputable def c_slices_Clone_api_Node : Code := (Tryd.f54.body).getD .skip
def nf_slices_Clone_api_Node : List (Nat × Nf) := []
def fp_slices_Clone_api_Node : List (Nat × List Nat) := []
def an_slices_Clone_api_Node : Nat → Ann
  | 0 => ⟨[0], [5], [], [], [5]⟩
  | 1 => ⟨[0, 4], [5], [], [], [5]⟩
  | 2 => ⟨[2], [5], [], [], [5]⟩
  | 3 => ⟨[2], [5], [], [], [5]⟩
  | _ => ⟨[], [], [], [], []⟩
noncomputable abbrev x_slices_Clone_api_Node : Cx := ⟨Tryd.prog, ⟨id, nf_slices_Clone_api_Node, fp_slices_Clone_api_Node⟩, an_slices_Clone_api_Node⟩
theorem start_slices_Clone_api_Node {args : List PV} {r : PV} (ha : args.length = 1) (h : awp x_slices_Clone_api_Node c_slices_Clone_api_Node (bodyR Tryd.prog [.tmp 2] r []) (initSt args [])) : PC Tryd.prog 54 args r :=
  pc_of_awp (X := x_slices_Clone_api_Node) mixed Tryd.func54 (c := c_slices_Clone_api_Node) (by kernel_rfl) (by kernel_rfl) (rs := [.tmp 2]) (by kernel_rfl) (by kernel_rfl) (by rw [ha]; decide) h
noncomputable def c_node_Copy : Code := (Tryd.f16.body).getD .skip
def nf_node_Copy : List (Nat × Nf) := [(32, [none, none, none, none, some 5])]
def fp_node_Copy : List (Nat × List Nat) := [(5, [1]), (6, [1]), (8, [1]), (9, [1]), (11, [1]), (12, [1]), (13, []), (14, [1]), (15, [1]), (16, [1])]
def an_node_Copy : Nat → Ann
  | 0 => ⟨[1, 2], [1, 2], [.nrm 2 [none, none, some 1, some 2, some 5]], [], [1, 2]⟩
  | 1 => ⟨[1, 2], [1, 2, 13], [], [.ren 13 311], [1, 2, 13, 311]⟩
  | 2 => ⟨[1, 2, 18, 19, 20], [1, 2, 311], [], [.ren 311 18], [1, 2, 18, 311]⟩
  | 3 => ⟨[1, 2, 18, 19, 20, 21], [1, 2, 18], [], [], [1, 2, 18]⟩
  | 4 => ⟨[1, 2, 3, 4, 18, 19, 20], [1, 2, 4, 18], [], [], [1, 2, 4, 18]⟩
  | 5 => ⟨[1, 2, 18, 19, 20], [1, 2, 18], [], [], [1, 2, 18]⟩
  | 6 => ⟨[1, 2, 18, 19, 20], [1, 2, 18], [], [], [1, 2, 18]⟩
  | 7 => ⟨[2], [2], [], [], [2]⟩
  | _ => ⟨[], [], [], [], []⟩
noncomputable abbrev x_node_Copy : Cx := ⟨Tryd.prog, ⟨id, nf_node_Copy, fp_node_Copy⟩, an_node_Copy⟩
theorem start_node_Copy {args : List PV} {r : PV} (ha : args.length = 1) (h : awp x_node_Copy c_node_Copy (bodyR Tryd.prog [.cell 2 28] r []) (initSt args [])) : PC Tryd.prog 16 args r :=
  pc_of_awp (X := x_node_Copy) mixed Tryd.func16 (c := c_node_Copy) (by kernel_rfl) (by kernel_rfl) (rs := [.cell 2 28]) (by kernel_rfl) (by kernel_rfl) (by rw [ha]; decide) h
noncomputable def c_node_isText : Code := (Tryd.f70.body).getD .skip
def nf_node_isText : List (Nat × Nf) := []
def fp_node_isText : List (Nat × List Nat) := []
def an_node_isText : Nat → Ann
  | 0 => ⟨[1], [1], [], [], [1]⟩
  | 1 => ⟨[2], [], [], [], []⟩
  | _ => ⟨[], [], [], [], []⟩
noncomputable abbrev x_node_isText : Cx := ⟨Tryd.prog, ⟨id, nf_node_isText, fp_node_isText⟩, an_node_isText⟩
theorem start_node_isText {args : List PV} {r : PV} (ha : args.length = 1) (h : awp x_node_isText c_node_isText (bodyR Tryd.prog [.tmp 2] r []) (initSt args [])) : PC Tryd.prog 70 args r :=
  pc_of_awp (X := x_node_isText) mixed Tryd.func70 (c := c_node_isText) (by kernel_rfl) (by kernel_rfl) (rs := [.tmp 2]) (by kernel_rfl) (by kernel_rfl) (by rw [ha]; decide) h
noncomputable def c_unicode_utf8_RuneCountInString : Code := (Tryd.f71.body).getD .skip
def nf_unicode_utf8_RuneCountInString : List (Nat × Nf) := []
def fp_unicode_utf8_RuneCountInString : List (Nat × List Nat) := []
def an_unicode_utf8_RuneCountInString : Nat → Ann
  | 0 => ⟨[0, 2], [], [], [], []⟩
  | 1 => ⟨[2, 4], [4], [], [], [4]⟩
  | 2 => ⟨[2, 4, 6], [4], [], [], [4]⟩
  | 3 => ⟨[2, 4], [4], [], [], [4]⟩
  | 4 => ⟨[2], [], [], [], []⟩
  | _ => ⟨[], [], [], [], []⟩
noncomputable abbrev x_unicode_utf8_RuneCountInString : Cx := ⟨Tryd.prog, ⟨id, nf_unicode_utf8_RuneCountInString, fp_unicode_utf8_RuneCountInString⟩, an_unicode_utf8_RuneCountInString⟩
theorem start_unicode_utf8_RuneCountInString {args : List PV} {r : PV} (ha : args.length = 1) (h : awp x_unicode_utf8_RuneCountInString c_unicode_utf8_RuneCountInString (bodyR Tryd.prog [.tmp 2] r []) (initSt args [])) : PC Tryd.prog 71 args r :=
  pc_of_awp (X := x_unicode_utf8_RuneCountInString) mixed Tryd.func71 (c := c_unicode_utf8_RuneCountInString) (by kernel_rfl) (by kernel_rfl) (rs := [.tmp 2]) (by kernel_rfl) (by kernel_rfl) (by rw [ha]; decide) h
noncomputable def c_node_Size : Code := (Tryd.f29.body).getD .skip
def nf_node_Size : List (Nat × Nf) := []
def fp_node_Size : List (Nat × List Nat) := []
def an_node_Size : Nat → Ann
  | 0 => ⟨[1], [1], [], [], [1]⟩
  | 1 => ⟨[1, 4], [1], [], [], [1]⟩
  | 2 => ⟨[2], [], [], [], []⟩
  | 3 => ⟨[2], [], [], [], []⟩
  | _ => ⟨[], [], [], [], []⟩
noncomputable abbrev x_node_Size : Cx := ⟨Tryd.prog, ⟨id, nf_node_Size, fp_node_Size⟩, an_node_Size⟩
theorem start_node_Size {args : List PV} {r : PV} (ha : args.length = 1) (h : awp x_node_Size c_node_Size (bodyR Tryd.prog [.tmp 2] r []) (initSt args [])) : PC Tryd.prog 29 args r :=
  pc_of_awp (X := x_node_Size) mixed Tryd.func29 (c := c_node_Size) (by kernel_rfl) (by kernel_rfl) (rs := [.tmp 2]) (by kernel_rfl) (by kernel_rfl) (by rw [ha]; decide) h
noncomputable def c_node_Total : Code := (Tryd.f33.body).getD .skip
def nf_node_Total : List (Nat × Nf) := []
def fp_node_Total : List (Nat × List Nat) := []
def an_node_Total : Nat → Ann
  | 0 => ⟨[0], [], [], [], []⟩
  | 1 => ⟨[0, 3], [], [], [], []⟩
  | 2 => ⟨[3, 6, 7, 8], [], [], [], []⟩
  | 3 => ⟨[3, 6, 7, 8, 9], [], [], [], []⟩
  | 4 => ⟨[3, 5, 6, 7, 8], [5], [], [], [5]⟩
  | 5 => ⟨[3, 6, 7, 8], [], [], [], []⟩
  | 6 => ⟨[3, 6, 7, 8], [], [], [], []⟩
  | 7 => ⟨[2], [], [], [], []⟩
  | _ => ⟨[], [], [], [], []⟩
noncomputable abbrev x_node_Total : Cx := ⟨Tryd.prog, ⟨id, nf_node_Total, fp_node_Total⟩, an_node_Total⟩
theorem start_node_Total {args : List PV} {r : PV} (ha : args.length = 1) (h : awp x_node_Total c_node_Total (bodyR Tryd.prog [.tmp 2] r []) (initSt args [])) : PC Tryd.prog 33 args r :=
  pc_of_awp (X := x_node_Total) mixed Tryd.func33 (c := c_node_Total) (by kernel_rfl) (by kernel_rfl) (rs := [.tmp 2]) (by kernel_rfl) (by kernel_rfl) (by rw [ha]; decide) h
noncomputable def c_node_Depth : Code := (Tryd.f50.body).getD .skip
def nf_node_Depth : List (Nat × Nf) := []
def fp_node_Depth : List (Nat × List Nat) := []
def an_node_Depth : Nat → Ann
  | 0 => ⟨[1], [1], [], [], [1]⟩
  | 1 => ⟨[1, 7], [1], [], [], [1]⟩
  | 2 => ⟨[2], [], [], [], []⟩
  | 3 => ⟨[1, 3], [1], [], [], [1]⟩
  | 4 => ⟨[3, 9, 10, 11], [], [], [], []⟩
  | 5 => ⟨[3, 9, 10, 11, 12], [], [], [], []⟩
  | 6 => ⟨[3, 5, 9, 10, 11], [5], [], [], [5]⟩
  | 7 => ⟨[3, 9, 10, 11], [], [], [], []⟩
  | 8 => ⟨[3, 9, 10, 11], [], [], [], []⟩
  | 9 => ⟨[2], [], [], [], []⟩
  | _ => ⟨[], [], [], [], []⟩
noncomputable abbrev x_node_Depth : Cx := ⟨Tryd.prog, ⟨id, nf_node_Depth, fp_node_Depth⟩, an_node_Depth⟩
theorem start_node_Depth {args : List PV} {r : PV} (ha : args.length = 1) (h : awp x_node_Depth c_node_Depth (bodyR Tryd.prog [.tmp 2] r []) (initSt args [])) : PC Tryd.prog 50 args r :=
  pc_of_awp (X := x_node_Depth) mixed Tryd.func50 (c := c_node_Depth) (by kernel_rfl) (by kernel_rfl) (rs := [.tmp 2]) (by kernel_rfl) (by kernel_rfl) (by rw [ha]; decide) h
noncomputable def c_node_Name : Code := (Tryd.f102.body).getD .skip
def nf_node_Name : List (Nat × Nf) := []
def fp_node_Name : List (Nat × List Nat) := []
def an_node_Name : Nat → Ann
  | 0 => ⟨[0], [], [], [], []⟩
  | 1 => ⟨[0, 3], [], [], [], []⟩
  | 2 => ⟨[2], [], [], [], []⟩
  | _ => ⟨[], [], [], [], []⟩
noncomputable abbrev x_node_Name : Cx := ⟨Tryd.prog, ⟨id, nf_node_Name, fp_node_Name⟩, an_node_Name⟩
theorem start_node_Name {args : List PV} {r : PV} (ha : args.length = 1) (h : awp x_node_Name c_node_Name (bodyR Tryd.prog [.tmp 2] r []) (initSt args [])) : PC Tryd.prog 102 args r :=
  pc_of_awp (X := x_node_Name) mixed Tryd.func102 (c := c_node_Name) (by kernel_rfl) (by kernel_rfl) (rs := [.tmp 2]) (by kernel_rfl) (by kernel_rfl) (by rw [ha]; decide) h
noncomputable def c_node_Value : Code := (Tryd.f103.body).getD .skip
def nf_node_Value : List (Nat × Nf) := []
def fp_node_Value : List (Nat × List Nat) := []
def an_node_Value : Nat → Ann
  | 0 => ⟨[0], [], [], [], []⟩
  | 1 => ⟨[2], [], [], [], []⟩
  | _ => ⟨[], [], [], [], []⟩
noncomputable abbrev x_node_Value : Cx := ⟨Tryd.prog, ⟨id, nf_node_Value, fp_node_Value⟩, an_node_Value⟩
theorem start_node_Value {args : List PV} {r : PV} (ha : args.length = 1) (h : awp x_node_Value c_node_Value (bodyR Tryd.prog [.tmp 2] r []) (initSt args [])) : PC Tryd.prog 103 args r :=
  pc_of_awp (X := x_node_Value) mixed Tryd.func103 (c := c_node_Value) (by kernel_rfl) (by kernel_rfl) (rs := [.tmp 2]) (by kernel_rfl) (by kernel_rfl) (by rw [ha]; decide) h
noncomputable def c_node_rise : Code := (Tryd.f113.body).getD .skip
def nf_node_rise : List (Nat × Nf) := []
def fp_node_rise : List (Nat × List Nat) := []
def an_node_rise : Nat → Ann
  | 0 => ⟨[0], [], [], [], []⟩
  | 1 => ⟨[0, 5, 6, 7], [], [], [], []⟩
  | 2 => ⟨[0, 5, 6, 7, 8], [], [], [], []⟩
  | 3 => ⟨[0, 3, 4, 5, 6, 7], [], [], [], []⟩
  | 4 => ⟨[0, 5, 6, 7, 27], [], [], [], []⟩
  | 5 => ⟨[2], [], [], [], []⟩
  | 6 => ⟨[0, 5, 6, 7], [], [], [], []⟩
  | 7 => ⟨[2], [], [], [], []⟩
  | _ => ⟨[], [], [], [], []⟩
noncomputable abbrev x_node_rise : Cx := ⟨Tryd.prog, ⟨id, nf_node_rise, fp_node_rise⟩, an_node_rise⟩
theorem start_node_rise {args : List PV} {r : PV} (ha : args.length = 1) (h : awp x_node_rise c_node_rise (bodyR Tryd.prog [.tmp 2] r []) (initSt args [])) : PC Tryd.prog 113 args r :=
  pc_of_awp (X := x_node_rise) mixed Tryd.func113 (c := c_node_rise) (by kernel_rfl) (by kernel_rfl) (rs := [.tmp 2]) (by kernel_rfl) (by kernel_rfl) (by rw [ha]; decide) h
noncomputable def c_slices_Equal_string : Code := (Tryd.f55.body).getD .skip
def nf_slices_Equal_string : List (Nat × Nf) := []
def fp_slices_Equal_string : List (Nat × List Nat) := []
def an_slices_Equal_string : Nat → Ann
  | 0 => ⟨[0, 1], [], [], [], []⟩
  | 1 => ⟨[0, 1, 10], [], [], [], []⟩
  | 2 => ⟨[4], [], [], [], []⟩
  | 3 => ⟨[0, 1, 12, 13], [], [], [], []⟩
  | 4 => ⟨[0, 1, 12, 13, 14], [], [], [], []⟩
  | 5 => ⟨[0, 1, 5, 12, 13], [], [], [], []⟩
  | 6 => ⟨[0, 1, 12, 13, 24], [], [], [], []⟩
  | 7 => ⟨[4], [], [], [], []⟩
  | 8 => ⟨[0, 1, 12, 13], [], [], [], []⟩
  | 9 => ⟨[4], [], [], [], []⟩
  | _ => ⟨[], [], [], [], []⟩
noncomputable abbrev x_slices_Equal_string : Cx := ⟨Tryd.prog, ⟨id, nf_slices_Equal_string, fp_slices_Equal_string⟩, an_slices_Equal_string⟩
theorem start_slices_Equal_string {args : List PV} {r : PV} (ha : args.length = 2) (h : awp x_slices_Equal_string c_slices_Equal_string (bodyR Tryd.prog [.tmp 4] r []) (initSt args [])) : PC Tryd.prog 55 args r :=
  pc_of_awp (X := x_slices_Equal_string) mixed Tryd.func55 (c := c_slices_Equal_string) (by kernel_rfl) (by kernel_rfl) (rs := [.tmp 4]) (by kernel_rfl) (by kernel_rfl) (by rw [ha]; decide) h
noncomputable def c_node_alike : Code := (Tryd.f73.body).getD .skip
def nf_node_alike : List (Nat × Nf) := []
def fp_node_alike : List (Nat × List Nat) := []
def an_node_alike : Nat → Ann
  | 0 => ⟨[2, 3], [2, 3], [], [], [2, 3]⟩
  | 1 => ⟨[4], [], [], [], []⟩
  | _ => ⟨[], [], [], [], []⟩
noncomputable abbrev x_node_alike : Cx := ⟨Tryd.prog, ⟨id, nf_node_alike, fp_node_alike⟩, an_node_alike⟩
theorem start_node_alike {args : List PV} {r : PV} (ha : args.length = 2) (h : awp x_node_alike c_node_alike (bodyR Tryd.prog [.tmp 4] r []) (initSt args [])) : PC Tryd.prog 73 args r :=
  pc_of_awp (X := x_node_alike) mixed Tryd.func73 (c := c_node_alike) (by kernel_rfl) (by kernel_rfl) (rs := [.tmp 4]) (by kernel_rfl) (by kernel_rfl) (by rw [ha]; decide) h
noncomputable def c_node_formed : Code := (Tryd.f97.body).getD .skip
def nf_node_formed : List (Nat × Nf) := []
def fp_node_formed : List (Nat × List Nat) := []
def an_node_formed : Nat → Ann
  | 0 => ⟨[1], [1], [], [], [1]⟩
  | 1 => ⟨[1, 9], [1], [], [], [1]⟩
  | 2 => ⟨[2], [], [], [], []⟩
  | 3 => ⟨[1, 3], [1, 3], [.thaw 3 3 1], [], [1, 3]⟩
  | 4 => ⟨[1, 3, 34, 35, 36], [1, 3], [], [], [1, 3]⟩
  | 5 => ⟨[1, 3, 34, 35, 36, 37], [1, 3], [], [], [1, 3]⟩
  | 6 => ⟨[1, 3, 5, 34, 35, 36], [1, 3, 5], [], [], [1, 3, 5]⟩
  | 7 => ⟨[1, 3, 5, 34, 35, 36, 43], [1, 3, 5], [], [], [1, 3, 5]⟩
  | 8 => ⟨[2], [], [], [], []⟩
  | 9 => ⟨[1, 3, 34, 35, 36], [1, 3], [], [], [1, 3]⟩
  | 10 => ⟨[1, 3, 34, 35, 36], [1, 3], [], [], [1, 3]⟩
  | 11 => ⟨[1, 69], [1], [], [], [1]⟩
  | 12 => ⟨[2], [], [], [], []⟩
  | 13 => ⟨[1, 71, 72, 73], [1], [], [], [1]⟩
  | 14 => ⟨[1, 71, 72, 73, 74], [1], [], [], [1]⟩
  | 15 => ⟨[1, 6, 7, 71, 72, 73], [1, 7], [], [], [1, 7]⟩
  | 16 => ⟨[1, 71, 72, 73, 94], [1], [], [], [1]⟩
  | 17 => ⟨[2], [], [], [], []⟩
  | 18 => ⟨[1, 71, 72, 73], [1], [], [], [1]⟩
  | 19 => ⟨[2], [], [], [], []⟩
  | _ => ⟨[], [], [], [], []⟩
noncomputable abbrev x_node_formed : Cx := ⟨Tryd.prog, ⟨id, nf_node_formed, fp_node_formed⟩, an_node_formed⟩
theorem start_node_formed {args : List PV} {r : PV} (ha : args.length = 1) (h : awp x_node_formed c_node_formed (bodyR Tryd.prog [.tmp 2] r []) (initSt args [])) : PC Tryd.prog 97 args r :=
  pc_of_awp (X := x_node_formed) mixed Tryd.func97 (c := c_node_formed) (by kernel_rfl) (by kernel_rfl) (rs := [.tmp 2]) (by kernel_rfl) (by kernel_rfl) (by rw [ha]; decide) h
noncomputable def c_node_Check : Code := (Tryd.f75.body).getD .skip
def nf_node_Check : List (Nat × Nf) := []
def fp_node_Check : List (Nat × List Nat) := []
def an_node_Check : Nat → Ann
  | 0 => ⟨[1], [1], [], [], [1]⟩
  | 1 => ⟨[1, 3], [1], [], [], [1]⟩
  | 2 => ⟨[2], [], [], [], []⟩
  | 3 => ⟨[1, 7], [1], [], [], [1]⟩
  | 4 => ⟨[2], [], [], [], []⟩
  | 5 => ⟨[11], [], [], [], []⟩
  | 6 => ⟨[2], [], [], [], []⟩
  | 7 => ⟨[2], [], [], [], []⟩
  | _ => ⟨[], [], [], [], []⟩
noncomputable abbrev x_node_Check : Cx := ⟨Tryd.prog, ⟨id, nf_node_Check, fp_node_Check⟩, an_node_Check⟩
theorem start_node_Check {args : List PV} {r : PV} (ha : args.length = 1) (h : awp x_node_Check c_node_Check (bodyR Tryd.prog [.tmp 2] r []) (initSt args [])) : PC Tryd.prog 75 args r :=
  pc_of_awp (X := x_node_Check) mixed Tryd.func75 (c := c_node_Check) (by kernel_rfl) (by kernel_rfl) (rs := [.tmp 2]) (by kernel_rfl) (by kernel_rfl) (by rw [ha]; decide) h
noncomputable def c_node_Right : Code := (Tryd.f42.body).getD .skip
def nf_node_Right : List (Nat × Nf) := []
def fp_node_Right : List (Nat × List Nat) := []
def an_node_Right : Nat → Ann
  | 0 => ⟨[1], [1], [], [], [1]⟩
  | 1 => ⟨[2], [], [], [], []⟩
  | _ => ⟨[], [], [], [], []⟩
noncomputable abbrev x_node_Right : Cx := ⟨Tryd.prog, ⟨id, nf_node_Right, fp_node_Right⟩, an_node_Right⟩
theorem start_node_Right {args : List PV} {r : PV} (ha : args.length = 1) (h : awp x_node_Right c_node_Right (bodyR Tryd.prog [.tmp 2] r []) (initSt args [])) : PC Tryd.prog 42 args r :=
  pc_of_awp (X := x_node_Right) mixed Tryd.func42 (c := c_node_Right) (by kernel_rfl) (by kernel_rfl) (rs := [.tmp 2]) (by kernel_rfl) (by kernel_rfl) (by rw [ha]; decide) h
noncomputable def c_diff_alike_1 : Code := (Tryd.f87.body).getD .skip
def nf_diff_alike_1 : List (Nat × Nf) := []
def fp_diff_alike_1 : List (Nat × List Nat) := []
def an_diff_alike_1 : Nat → Ann
  | 0 => ⟨[2, 3], [2, 3], [], [], [2, 3]⟩
  | 1 => ⟨[4], [], [], [], []⟩
  | _ => ⟨[], [], [], [], []⟩
noncomputable abbrev x_diff_alike_1 : Cx := ⟨Tryd.prog, ⟨id, nf_diff_alike_1, fp_diff_alike_1⟩, an_diff_alike_1⟩
theorem start_diff_alike_1 {args : List PV} {r : PV} (ha : args.length = 2) (h : awp x_diff_alike_1 c_diff_alike_1 (bodyR Tryd.prog [.tmp 4] r []) (initSt args [])) : PC Tryd.prog 87 args r :=
  pc_of_awp (X := x_diff_alike_1) mixed Tryd.func87 (c := c_diff_alike_1) (by kernel_rfl) (by kernel_rfl) (rs := [.tmp 4]) (by kernel_rfl) (by kernel_rfl) (by rw [ha]; decide) h
noncomputable def c_slices_EqualFunc_api_Attr_diff_alike_1 : Code := (Tryd.f88.body).getD .skip
def nf_slices_EqualFunc_api_Attr_diff_alike_1 : List (Nat × Nf) := []
def fp_slices_EqualFunc_api_Attr_diff_alike_1 : List (Nat × List Nat) := []
def an_slices_EqualFunc_api_Attr_diff_alike_1 : Nat → Ann
  | 0 => ⟨[0, 1, 2], [], [], [], []⟩
  | 1 => ⟨[0, 1, 2, 14], [], [], [], []⟩
  | 2 => ⟨[6], [], [], [], []⟩
  | 3 => ⟨[1, 2, 15, 16, 17], [], [], [], []⟩
  | 4 => ⟨[1, 2, 15, 16, 17, 18], [], [], [], []⟩
  | 5 => ⟨[1, 2, 7, 8, 15, 16, 17], [8], [], [], [8]⟩
  | 6 => ⟨[1, 2, 8, 9, 15, 16, 17], [8, 9], [], [], [8, 9]⟩
  | 7 => ⟨[1, 2, 15, 16, 17, 30], [], [], [], []⟩
  | 8 => ⟨[6], [], [], [], []⟩
  | 9 => ⟨[1, 2, 15, 16, 17], [], [], [], []⟩
  | 10 => ⟨[6], [], [], [], []⟩
  | _ => ⟨[], [], [], [], []⟩
noncomputable abbrev x_slices_EqualFunc_api_Attr_diff_alike_1 : Cx := ⟨Tryd.prog, ⟨id, nf_slices_EqualFunc_api_Attr_diff_alike_1, fp_slices_EqualFunc_api_Attr_diff_alike_1⟩, an_slices_EqualFunc_api_Attr_diff_alike_1⟩
theorem start_slices_EqualFunc_api_Attr_diff_alike_1 {args : List PV} {r : PV} (ha : args.length = 3) (h : awp x_slices_EqualFunc_api_Attr_diff_alike_1 c_slices_EqualFunc_api_Attr_diff_alike_1 (bodyR Tryd.prog [.tmp 6] r []) (initSt args [])) : PC Tryd.prog 88 args r :=
  pc_of_awp (X := x_slices_EqualFunc_api_Attr_diff_alike_1) mixed Tryd.func88 (c := c_slices_EqualFunc_api_Attr_diff_alike_1) (by kernel_rfl) (by kernel_rfl) (rs := [.tmp 6]) (by kernel_rfl) (by kernel_rfl) (by rw [ha]; decide) h
noncomputable def c_diff_alike : Code := (Tryd.f58.body).getD .skip
def nf_diff_alike : List (Nat × Nf) := []
def fp_diff_alike : List (Nat × List Nat) := []
def an_diff_alike : Nat → Ann
  | 0 => ⟨[2, 3], [2, 3], [], [], [2, 3]⟩
  | 1 => ⟨[2, 3, 5], [2, 3], [], [], [2, 3]⟩
  | 2 => ⟨[4], [], [], [], []⟩
  | _ => ⟨[], [], [], [], []⟩
noncomputable abbrev x_diff_alike : Cx := ⟨Tryd.prog, ⟨id, nf_diff_alike, fp_diff_alike⟩, an_diff_alike⟩
theorem start_diff_alike {args : List PV} {r : PV} (ha : args.length = 2) (h : awp x_diff_alike c_diff_alike (bodyR Tryd.prog [.tmp 4] r []) (initSt args [])) : PC Tryd.prog 58 args r :=
  pc_of_awp (X := x_diff_alike) mixed Tryd.func58 (c := c_diff_alike) (by kernel_rfl) (by kernel_rfl) (rs := [.tmp 4]) (by kernel_rfl) (by kernel_rfl) (by rw [ha]; decide) h
noncomputable def c_slices_Equal_api_Attr : Code := (Tryd.f56.body).getD .skip
def nf_slices_Equal_api_Attr : List (Nat × Nf) := []
def fp_slices_Equal_api_Attr : List (Nat × List Nat) := []
def an_slices_Equal_api_Attr : Nat → Ann
  | 0 => ⟨[0, 1], [], [], [], []⟩
  | 1 => ⟨[0, 1, 10], [], [], [], []⟩
  | 2 => ⟨[4], [], [], [], []⟩
  | 3 => ⟨[0, 1, 12, 13], [], [], [], []⟩
  | 4 => ⟨[0, 1, 12, 13, 14], [], [], [], []⟩
  | 5 => ⟨[0, 1, 5, 12, 13], [], [], [], []⟩
  | 6 => ⟨[0, 1, 12, 13, 24], [], [], [], []⟩
  | 7 => ⟨[4], [], [], [], []⟩
  | 8 => ⟨[0, 1, 12, 13], [], [], [], []⟩
  | 9 => ⟨[4], [], [], [], []⟩
  | _ => ⟨[], [], [], [], []⟩
noncomputable abbrev x_slices_Equal_api_Attr : Cx := ⟨Tryd.prog, ⟨id, nf_slices_Equal_api_Attr, fp_slices_Equal_api_Attr⟩, an_slices_Equal_api_Attr⟩
theorem start_slices_Equal_api_Attr {args : List PV} {r : PV} (ha : args.length = 2) (h : awp x_slices_Equal_api_Attr c_slices_Equal_api_Attr (bodyR Tryd.prog [.tmp 4] r []) (initSt args [])) : PC Tryd.prog 56 args r :=
  pc_of_awp (X := x_slices_Equal_api_Attr) mixed Tryd.func56 (c := c_slices_Equal_api_Attr) (by kernel_rfl) (by kernel_rfl) (rs := [.tmp 4]) (by kernel_rfl) (by kernel_rfl) (by rw [ha]; decide) h
noncomputable def c_slices_EqualFunc_api_Node_node_Same : Code := (Tryd.f57.body).getD .skip
def nf_slices_EqualFunc_api_Node_node_Same : List (Nat × Nf) := []
def fp_slices_EqualFunc_api_Node_node_Same : List (Nat × List Nat) := []
def an_slices_EqualFunc_api_Node_node_Same : Nat → Ann
  | 0 => ⟨[0, 1, 2], [], [], [], []⟩
  | 1 => ⟨[0, 1, 2, 14], [], [], [], []⟩
  | 2 => ⟨[6], [], [], [], []⟩
  | 3 => ⟨[1, 2, 15, 16, 17], [], [], [], []⟩
  | 4 => ⟨[1, 2, 15, 16, 17, 18], [], [], [], []⟩
  | 5 => ⟨[1, 2, 7, 8, 15, 16, 17], [8], [], [], [8]⟩
  | 6 => ⟨[1, 2, 8, 9, 15, 16, 17], [8, 9], [], [], [8, 9]⟩
  | 7 => ⟨[1, 2, 15, 16, 17, 30], [], [], [], []⟩
  | 8 => ⟨[6], [], [], [], []⟩
  | 9 => ⟨[1, 2, 15, 16, 17], [], [], [], []⟩
  | 10 => ⟨[6], [], [], [], []⟩
  | _ => ⟨[], [], [], [], []⟩
noncomputable abbrev x_slices_EqualFunc_api_Node_node_Same : Cx := ⟨Tryd.prog, ⟨id, nf_slices_EqualFunc_api_Node_node_Same, fp_slices_EqualFunc_api_Node_node_Same⟩, an_slices_EqualFunc_api_Node_node_Same⟩
theorem start_slices_EqualFunc_api_Node_node_Same {args : List PV} {r : PV} (ha : args.length = 3) (h : awp x_slices_EqualFunc_api_Node_node_Same c_slices_EqualFunc_api_Node_node_Same (bodyR Tryd.prog [.tmp 6] r []) (initSt args [])) : PC Tryd.prog 57 args r :=
  pc_of_awp (X := x_slices_EqualFunc_api_Node_node_Same) mixed Tryd.func57 (c := c_slices_EqualFunc_api_Node_node_Same) (by kernel_rfl) (by kernel_rfl) (rs := [.tmp 6]) (by kernel_rfl) (by kernel_rfl) (by rw [ha]; decide) h
noncomputable def c_node_Same : Code := (Tryd.f17.body).getD .skip
def nf_node_Same : List (Nat × Nf) := []
def fp_node_Same : List (Nat × List Nat) := []
def an_node_Same : Nat → Ann
  | 0 => ⟨[2, 3], [2, 3], [], [], [2, 3]⟩
  | 1 => ⟨[4], [], [], [], []⟩
  | _ => ⟨[], [], [], [], []⟩
noncomputable abbrev x_node_Same : Cx := ⟨Tryd.prog, ⟨id, nf_node_Same, fp_node_Same⟩, an_node_Same⟩
theorem start_node_Same {args : List PV} {r : PV} (ha : args.length = 2) (h : awp x_node_Same c_node_Same (bodyR Tryd.prog [.tmp 4] r []) (initSt args [])) : PC Tryd.prog 17 args r :=
  pc_of_awp (X := x_node_Same) mixed Tryd.func17 (c := c_node_Same) (by kernel_rfl) (by kernel_rfl) (rs := [.tmp 4]) (by kernel_rfl) (by kernel_rfl) (by rw [ha]; decide) h
noncomputable def c_diff_change_set_xx : Code := (Tryd.f89.body).getD .skip
def nf_diff_change_set_xx : List (Nat × Nf) := []
def fp_diff_change_set_xx : List (Nat × List Nat) := [(39, [1000]), (40, [1000]), (41, [1000]), (43, [1000]), (44, [1000]), (45, [1000]), (47, [3]), (48, [3]), (50, [1000]), (51, [1000]), (52, [1000]), (53, [1000]), (55, []), (56, []), (57, []), (60, [59, 1002]), (61, [1000]), (62, [1000])]
def an_diff_change_set_xx : Nat → Ann
  | 0 => ⟨[0, 8, 9, 10], [1000, 1001, 1002], [], [], [1000, 1001, 1002]⟩
  | 1 => ⟨[0, 8, 9, 10, 11], [1000, 1001, 1002], [], [], [1000, 1001, 1002]⟩
  | 2 => ⟨[0, 2, 3, 8, 9, 10], [3, 1000, 1001, 1002], [], [], [3, 1000, 1001, 1002]⟩
  | 3 => ⟨[0, 2, 3, 8, 9, 10, 36], [3, 1000, 1001, 1002], [], [], [3, 1000, 1001, 1002]⟩
  | 4 => ⟨[0, 8, 9, 10], [1000, 1001, 1002], [], [], [1000, 1001, 1002]⟩
  | 5 => ⟨[0, 8, 9, 10], [1000, 1001, 1002], [], [], [1000, 1001, 1002]⟩
  | _ => ⟨[], [], [], [], []⟩
noncomputable abbrev x_diff_change_set_xx : Cx := ⟨Tryd.prog, ⟨(fun d => if d = 58 then 0 else d), nf_diff_change_set_xx, fp_diff_change_set_xx⟩, an_diff_change_set_xx⟩
theorem start_diff_change_set_xx {args : List PV} {es es' : List Ent} {r : PV} (ha : args.length = 1) (hl : es'.length = es.length) (he : (es'.all fun e => e.extOk es.length) = true) (h : awp x_diff_change_set_xx c_diff_change_set_xx (bodyR Tryd.prog [] r es') (initSt args es)) : BC Tryd.prog 89 args es r es' :=
  bc_of_awp (X := x_diff_change_set_xx) mixed Tryd.func89 (c := c_diff_change_set_xx) (by kernel_rfl) (by kernel_rfl) (rs := []) (by kernel_rfl) (by kernel_rfl) (by rw [ha]; decide) hl (fun e h => List.all_eq_true.1 he e h) h
noncomputable def c_diff_of : Code := (Tryd.f59.body).getD .skip
def nf_diff_of : List (Nat × Nf) := []
def fp_diff_of : List (Nat × List Nat) := [(151, [12]), (152, [12]), (153, [12]), (155, [12]), (156, [12]), (157, [12]), (159, [158, 394]), (160, [12]), (161, [12])]
def an_diff_of : Nat → Ann
  | 0 => ⟨[2, 3], [2, 3], [], [], [2, 3]⟩
  | 1 => ⟨[5], [12, 394, 399], [.thawV 12 10 394 1, .thawV 12 15 399 6], [], [12, 394, 399]⟩
  | 2 => ⟨[5], [12, 394, 399], [], [], [12, 394, 399]⟩
  | 3 => ⟨[5, 6, 7], [12, 394, 399], [], [], [12, 394, 399]⟩
  | 4 => ⟨[5, 6, 7], [12, 394, 399], [], [], [12, 394, 399]⟩
  | 5 => ⟨[5, 6, 7, 54], [12, 394, 399], [], [], [12, 394, 399]⟩
  | 6 => ⟨[5, 6, 7], [12, 394, 399], [], [], [12, 394, 399]⟩
  | 7 => ⟨[5, 6, 7, 8], [12, 394, 399], [], [], [12, 394, 399]⟩
  | 8 => ⟨[5, 6, 7, 8, 92], [12, 394, 399], [], [], [12, 394, 399]⟩
  | 9 => ⟨[5, 6, 7, 8], [12, 394, 399], [], [], [12, 394, 399]⟩
  | 10 => ⟨[5, 6, 7], [12, 394, 399], [], [], [12, 394, 399]⟩
  | 11 => ⟨[5, 6, 7, 148], [12, 394, 399], [], [], [12, 394, 399]⟩
  | 12 => ⟨[5, 6, 7], [12, 394, 399], [], [], [12, 394, 399]⟩
  | 13 => ⟨[5, 6, 7], [12, 394, 399], [], [], [12, 394, 399]⟩
  | 14 => ⟨[5], [12, 394, 399], [], [], [12, 394, 399]⟩
  | 15 => ⟨[4], [12, 399], [.nrm 4 [none, none, none, none, none, none, none, none, none, none, some 1, none, none, none, none, none]], [], [12, 399]⟩
  | _ => ⟨[], [], [], [], []⟩
noncomputable abbrev x_diff_of : Cx := ⟨Tryd.prog, ⟨id, nf_diff_of, fp_diff_of⟩, an_diff_of⟩
theorem start_diff_of {args : List PV} {r : PV} (ha : args.length = 2) (h : awp x_diff_of c_diff_of (bodyR Tryd.prog [.tmp 4] r []) (initSt args [])) : PC Tryd.prog 59 args r :=
  pc_of_awp (X := x_diff_of) mixed Tryd.func59 (c := c_diff_of) (by kernel_rfl) (by kernel_rfl) (rs := [.tmp 4]) (by kernel_rfl) (by kernel_rfl) (by rw [ha]; decide) h
noncomputable def c_diff_Steps : Code := (Tryd.f20.body).getD .skip
def nf_diff_Steps : List (Nat × Nf) := []
def fp_diff_Steps : List (Nat × List Nat) := []
def an_diff_Steps : Nat → Ann
  | 0 => ⟨[2, 3], [2, 3], [], [], [2, 3]⟩
  | 1 => ⟨[2, 3, 23], [2, 3], [], [], [2, 3]⟩
  | 2 => ⟨[4, 5], [], [.nrm 4 [some 6]], [], []⟩
  | 3 => ⟨[6], [26, 526], [], [.ren 526 497], [26, 497, 526]⟩
  | 4 => ⟨[6, 36], [26, 497], [], [], [26, 497]⟩
  | 5 => ⟨[4, 5], [497], [], [.ren 497 4], [4, 497]⟩
  | 6 => ⟨[6, 7], [26, 497], [], [], [26, 497]⟩
  | 7 => ⟨[6, 7, 8], [26, 497], [], [], [26, 497]⟩
  | 8 => ⟨[6, 7, 8, 9], [26, 497], [], [], [26, 497]⟩
  | 9 => ⟨[4, 5], [497], [], [.ren 497 4], [4, 497]⟩
  | _ => ⟨[], [], [], [], []⟩
noncomputable abbrev x_diff_Steps : Cx := ⟨Tryd.prog, ⟨id, nf_diff_Steps, fp_diff_Steps⟩, an_diff_Steps⟩
theorem start_diff_Steps {args : List PV} {r : PV} (ha : args.length = 2) (h : awp x_diff_Steps c_diff_Steps (bodyR Tryd.prog [.tmp 4, .tmp 5] r []) (initSt args [])) : PC Tryd.prog 20 args r :=
  pc_of_awp (X := x_diff_Steps) mixed Tryd.func20 (c := c_diff_Steps) (by kernel_rfl) (by kernel_rfl) (rs := [.tmp 4, .tmp 5]) (by kernel_rfl) (by kernel_rfl) (by rw [ha]; decide) h
noncomputable def c_diptychlaw18_shown : Code := (Tryd.f18.body).getD .skip
def nf_diptychlaw18_shown : List (Nat × Nf) := [(5, [none, none, some 1, some 2, some 5]), (7, [none, none, some 1, some 2, some 5]), (8, [none, none, some 1, some 2, some 5]), (10, [none, none, some 1, some 2, some 5]), (11, [none, none, some 1, some 2, some 5]), (13, [none, none, some 1, some 2, some 5]), (14, [none, none, some 1, some 2, some 5]), (16, [none, none, some 1, some 2, some 5])]
def fp_diptychlaw18_shown : List (Nat × List Nat) := []
def an_diptychlaw18_shown : Nat → Ann
  | 0 => ⟨[], [], [], [], []⟩
  | 1 => ⟨[1], [1], [], [], [1]⟩
  | 2 => ⟨[1, 2], [1, 2], [], [], [1, 2]⟩
  | 3 => ⟨[3, 4], [], [], [], []⟩
  | 4 => ⟨[0], [], [], [], []⟩
  | _ => ⟨[], [], [], [], []⟩
noncomputable abbrev x_diptychlaw18_shown : Cx := ⟨Tryd.prog, ⟨id, nf_diptychlaw18_shown, fp_diptychlaw18_shown⟩, an_diptychlaw18_shown⟩
theorem start_diptychlaw18_shown {args : List PV} {r : PV} (ha : args.length = 0) (h : awp x_diptychlaw18_shown c_diptychlaw18_shown (bodyR Tryd.prog [.tmp 0] r []) (initSt args [])) : PC Tryd.prog 18 args r :=
  pc_of_awp (X := x_diptychlaw18_shown) mixed Tryd.func18 (c := c_diptychlaw18_shown) (by kernel_rfl) (by kernel_rfl) (rs := [.tmp 0]) (by kernel_rfl) (by kernel_rfl) (by rw [ha]; decide) h
noncomputable def c_diptychlaw18_light : Code := (Tryd.f19.body).getD .skip
def nf_diptychlaw18_light : List (Nat × Nf) := []
def fp_diptychlaw18_light : List (Nat × List Nat) := []
def an_diptychlaw18_light : Nat → Ann
  | 0 => ⟨[1, 2], [2], [], [], [2]⟩
  | 1 => ⟨[1, 2], [2], [], [], [2]⟩
  | 2 => ⟨[1, 2, 5], [2], [], [], [2]⟩
  | 3 => ⟨[1, 2, 5, 26], [2], [], [], [2]⟩
  | 4 => ⟨[1, 2, 5], [2], [], [], [2]⟩
  | 5 => ⟨[1, 2, 5], [2], [], [], [2]⟩
  | 6 => ⟨[1, 2, 6], [2], [], [], [2]⟩
  | 7 => ⟨[1, 2, 6, 46], [2], [], [], [2]⟩
  | 8 => ⟨[1, 2, 6], [2], [], [], [2]⟩
  | 9 => ⟨[1, 2, 6], [2], [], [], [2]⟩
  | 10 => ⟨[1, 2, 7], [2], [], [], [2]⟩
  | 11 => ⟨[1, 2, 7, 75], [2], [], [], [2]⟩
  | 12 => ⟨[1, 2, 7], [2], [], [], [2]⟩
  | 13 => ⟨[1, 2, 7], [2], [], [], [2]⟩
  | 14 => ⟨[1, 86], [], [], [], []⟩
  | 15 => ⟨[4], [], [], [], []⟩
  | 16 => ⟨[4], [], [], [], []⟩
  | _ => ⟨[], [], [], [], []⟩
noncomputable abbrev x_diptychlaw18_light : Cx := ⟨Tryd.prog, ⟨id, nf_diptychlaw18_light, fp_diptychlaw18_light⟩, an_diptychlaw18_light⟩
theorem start_diptychlaw18_light {args : List PV} {r : PV} (ha : args.length = 2) (h : awp x_diptychlaw18_light c_diptychlaw18_light (bodyR Tryd.prog [.tmp 4] r []) (initSt args [])) : PC Tryd.prog 19 args r :=
  pc_of_awp (X := x_diptychlaw18_light) mixed Tryd.func19 (c := c_diptychlaw18_light) (by kernel_rfl) (by kernel_rfl) (rs := [.tmp 4]) (by kernel_rfl) (by kernel_rfl) (by rw [ha]; decide) h
noncomputable def c_diptychref18_alike : Code := (Tryd.f61.body).getD .skip
def nf_diptychref18_alike : List (Nat × Nf) := []
def fp_diptychref18_alike : List (Nat × List Nat) := []
def an_diptychref18_alike : Nat → Ann
  | 0 => ⟨[2, 3], [2, 3], [], [], [2, 3]⟩
  | 1 => ⟨[2, 3, 29], [2, 3], [], [], [2, 3]⟩
  | 2 => ⟨[4], [], [], [], []⟩
  | 3 => ⟨[2, 3, 5], [2, 3], [], [], [2, 3]⟩
  | 4 => ⟨[2, 3, 5, 34], [2, 3], [], [], [2, 3]⟩
  | 5 => ⟨[2, 3, 5], [2, 3], [], [], [2, 3]⟩
  | 6 => ⟨[2, 3, 5, 49], [2, 3], [], [], [2, 3]⟩
  | 7 => ⟨[4], [], [], [], []⟩
  | 8 => ⟨[4], [], [], [], []⟩
  | _ => ⟨[], [], [], [], []⟩
noncomputable abbrev x_diptychref18_alike : Cx := ⟨Tryd.prog, ⟨id, nf_diptychref18_alike, fp_diptychref18_alike⟩, an_diptychref18_alike⟩
theorem start_diptychref18_alike {args : List PV} {r : PV} (ha : args.length = 2) (h : awp x_diptychref18_alike c_diptychref18_alike (bodyR Tryd.prog [.tmp 4] r []) (initSt args [])) : PC Tryd.prog 61 args r :=
  pc_of_awp (X := x_diptychref18_alike) mixed Tryd.func61 (c := c_diptychref18_alike) (by kernel_rfl) (by kernel_rfl) (rs := [.tmp 4]) (by kernel_rfl) (by kernel_rfl) (by rw [ha]; decide) h
noncomputable def c_diptychref1_sameNames : Code := (Tryd.f92.body).getD .skip
def nf_diptychref1_sameNames : List (Nat × Nf) := []
def fp_diptychref1_sameNames : List (Nat × List Nat) := []
def an_diptychref1_sameNames : Nat → Ann
  | 0 => ⟨[0, 1], [], [], [], []⟩
  | 1 => ⟨[0, 1, 10], [], [], [], []⟩
  | 2 => ⟨[4], [], [], [], []⟩
  | 3 => ⟨[0, 1, 5], [], [], [], []⟩
  | 4 => ⟨[0, 1, 5, 14], [], [], [], []⟩
  | 5 => ⟨[0, 1, 5], [], [], [], []⟩
  | 6 => ⟨[0, 1, 5, 25], [], [], [], []⟩
  | 7 => ⟨[4], [], [], [], []⟩
  | 8 => ⟨[4], [], [], [], []⟩
  | _ => ⟨[], [], [], [], []⟩
noncomputable abbrev x_diptychref1_sameNames : Cx := ⟨Tryd.prog, ⟨id, nf_diptychref1_sameNames, fp_diptychref1_sameNames⟩, an_diptychref1_sameNames⟩
theorem start_diptychref1_sameNames {args : List PV} {r : PV} (ha : args.length = 2) (h : awp x_diptychref1_sameNames c_diptychref1_sameNames (bodyR Tryd.prog [.tmp 4] r []) (initSt args [])) : PC Tryd.prog 92 args r :=
  pc_of_awp (X := x_diptychref1_sameNames) mixed Tryd.func92 (c := c_diptychref1_sameNames) (by kernel_rfl) (by kernel_rfl) (rs := [.tmp 4]) (by kernel_rfl) (by kernel_rfl) (by rw [ha]; decide) h
noncomputable def c_diptychref1_SameAll : Code := (Tryd.f35.body).getD .skip
def nf_diptychref1_SameAll : List (Nat × Nf) := []
def fp_diptychref1_SameAll : List (Nat × List Nat) := []
def an_diptychref1_SameAll : Nat → Ann
  | 0 => ⟨[0, 1], [], [], [], []⟩
  | 1 => ⟨[0, 1, 10], [], [], [], []⟩
  | 2 => ⟨[4], [], [], [], []⟩
  | 3 => ⟨[0, 1, 5], [], [], [], []⟩
  | 4 => ⟨[0, 1, 5, 14], [], [], [], []⟩
  | 5 => ⟨[0, 1, 5], [], [], [], []⟩
  | 6 => ⟨[0, 1, 5, 26], [], [], [], []⟩
  | 7 => ⟨[4], [], [], [], []⟩
  | 8 => ⟨[4], [], [], [], []⟩
  | _ => ⟨[], [], [], [], []⟩
noncomputable abbrev x_diptychref1_SameAll : Cx := ⟨Tryd.prog, ⟨id, nf_diptychref1_SameAll, fp_diptychref1_SameAll⟩, an_diptychref1_SameAll⟩
theorem start_diptychref1_SameAll {args : List PV} {r : PV} (ha : args.length = 2) (h : awp x_diptychref1_SameAll c_diptychref1_SameAll (bodyR Tryd.prog [.tmp 4] r []) (initSt args [])) : PC Tryd.prog 35 args r :=
  pc_of_awp (X := x_diptychref1_SameAll) mixed Tryd.func35 (c := c_diptychref1_SameAll) (by kernel_rfl) (by kernel_rfl) (rs := [.tmp 4]) (by kernel_rfl) (by kernel_rfl) (by rw [ha]; decide) h
noncomputable def c_diptychref1_Same : Code := (Tryd.f66.body).getD .skip
def nf_diptychref1_Same : List (Nat × Nf) := []
def fp_diptychref1_Same : List (Nat × List Nat) := []
def an_diptychref1_Same : Nat → Ann
  | 0 => ⟨[2, 3], [2, 3], [], [], [2, 3]⟩
  | 1 => ⟨[2, 3, 34], [2, 3], [], [], [2, 3]⟩
  | 2 => ⟨[4], [], [], [], []⟩
  | 3 => ⟨[2, 3, 5], [2, 3], [], [], [2, 3]⟩
  | 4 => ⟨[2, 3, 5, 39], [2, 3], [], [], [2, 3]⟩
  | 5 => ⟨[2, 3, 5], [2, 3], [], [], [2, 3]⟩
  | 6 => ⟨[2, 3, 5, 52], [2, 3], [], [], [2, 3]⟩
  | 7 => ⟨[4], [], [], [], []⟩
  | 8 => ⟨[4], [], [], [], []⟩
  | _ => ⟨[], [], [], [], []⟩
noncomputable abbrev x_diptychref1_Same : Cx := ⟨Tryd.prog, ⟨id, nf_diptychref1_Same, fp_diptychref1_Same⟩, an_diptychref1_Same⟩
theorem start_diptychref1_Same {args : List PV} {r : PV} (ha : args.length = 2) (h : awp x_diptychref1_Same c_diptychref1_Same (bodyR Tryd.prog [.tmp 4] r []) (initSt args [])) : PC Tryd.prog 66 args r :=
  pc_of_awp (X := x_diptychref1_Same) mixed Tryd.func66 (c := c_diptychref1_Same) (by kernel_rfl) (by kernel_rfl) (rs := [.tmp 4]) (by kernel_rfl) (by kernel_rfl) (by rw [ha]; decide) h
noncomputable def c_diptychref18_Where : Code := (Tryd.f24.body).getD .skip
def nf_diptychref18_Where : List (Nat × Nf) := []
def fp_diptychref18_Where : List (Nat × List Nat) := []
def an_diptychref18_Where : Nat → Ann
  | 0 => ⟨[2, 3], [2, 3], [], [], [2, 3]⟩
  | 1 => ⟨[2, 3, 8], [2, 3], [], [], [2, 3]⟩
  | 2 => ⟨[2, 3, 8, 39], [2, 3], [], [], [2, 3]⟩
  | 3 => ⟨[2, 3, 8], [2, 3], [], [], [2, 3]⟩
  | 4 => ⟨[2, 3, 8, 9], [2, 3], [], [], [2, 3]⟩
  | 5 => ⟨[2, 3, 8, 9, 10], [2, 3], [], [], [2, 3]⟩
  | 6 => ⟨[2, 3, 8, 9, 10, 70], [2, 3], [], [], [2, 3]⟩
  | 7 => ⟨[2, 3, 8, 9, 10], [2, 3], [], [], [2, 3]⟩
  | 8 => ⟨[2, 3, 8, 9, 10], [2, 3], [], [], [2, 3]⟩
  | 9 => ⟨[2, 3, 8, 9, 10, 97], [2, 3], [], [], [2, 3]⟩
  | 10 => ⟨[8, 11, 12, 13, 14], [], [], [], []⟩
  | 11 => ⟨[4, 5, 6, 7], [115], [], [.ren 115 4], [4, 115]⟩
  | 12 => ⟨[4, 5, 6, 7], [], [.nrm 4 [some 1]], [], []⟩
  | _ => ⟨[], [], [], [], []⟩
noncomputable abbrev x_diptychref18_Where : Cx := ⟨Tryd.prog, ⟨id, nf_diptychref18_Where, fp_diptychref18_Where⟩, an_diptychref18_Where⟩
theorem start_diptychref18_Where {args : List PV} {r : PV} (ha : args.length = 2) (h : awp x_diptychref18_Where c_diptychref18_Where (bodyR Tryd.prog [.tmp 4, .tmp 5, .tmp 6, .tmp 7] r []) (initSt args [])) : PC Tryd.prog 24 args r :=
  pc_of_awp (X := x_diptychref18_Where) mixed Tryd.func24 (c := c_diptychref18_Where) (by kernel_rfl) (by kernel_rfl) (rs := [.tmp 4, .tmp 5, .tmp 6, .tmp 7]) (by kernel_rfl) (by kernel_rfl) (by rw [ha]; decide) h
noncomputable def c_diptychref1_Depth : Code := (Tryd.f69.body).getD .skip
def nf_diptychref1_Depth : List (Nat × Nf) := []
def fp_diptychref1_Depth : List (Nat × List Nat) := []
def an_diptychref1_Depth : Nat → Ann
  | 0 => ⟨[1], [1], [], [], [1]⟩
  | 1 => ⟨[1, 7], [1], [], [], [1]⟩
  | 2 => ⟨[2], [], [], [], []⟩
  | 3 => ⟨[1, 3], [1], [], [], [1]⟩
  | 4 => ⟨[1, 3, 4], [1], [], [], [1]⟩
  | 5 => ⟨[1, 3, 4, 12], [1], [], [], [1]⟩
  | 6 => ⟨[1, 3, 4], [1], [], [], [1]⟩
  | 7 => ⟨[1, 3, 4], [1], [], [], [1]⟩
  | 8 => ⟨[2], [], [], [], []⟩
  | _ => ⟨[], [], [], [], []⟩
noncomputable abbrev x_diptychref1_Depth : Cx := ⟨Tryd.prog, ⟨id, nf_diptychref1_Depth, fp_diptychref1_Depth⟩, an_diptychref1_Depth⟩
theorem start_diptychref1_Depth {args : List PV} {r : PV} (ha : args.length = 1) (h : awp x_diptychref1_Depth c_diptychref1_Depth (bodyR Tryd.prog [.tmp 2] r []) (initSt args [])) : PC Tryd.prog 69 args r :=
  pc_of_awp (X := x_diptychref1_Depth) mixed Tryd.func69 (c := c_diptychref1_Depth) (by kernel_rfl) (by kernel_rfl) (rs := [.tmp 2]) (by kernel_rfl) (by kernel_rfl) (by rw [ha]; decide) h
noncomputable def c_diptychref1_runes : Code := (Tryd.f111.body).getD .skip
def nf_diptychref1_runes : List (Nat × Nf) := []
def fp_diptychref1_runes : List (Nat × List Nat) := []
def an_diptychref1_runes : Nat → Ann
  | 0 => ⟨[0], [], [], [], []⟩
  | 1 => ⟨[0, 4], [], [], [], []⟩
  | 2 => ⟨[2, 3], [], [], [], []⟩
  | _ => ⟨[], [], [], [], []⟩
noncomputable abbrev x_diptychref1_runes : Cx := ⟨Tryd.prog, ⟨id, nf_diptychref1_runes, fp_diptychref1_runes⟩, an_diptychref1_runes⟩
theorem start_diptychref1_runes {args : List PV} {r : PV} (ha : args.length = 1) (h : awp x_diptychref1_runes c_diptychref1_runes (bodyR Tryd.prog [.tmp 2, .tmp 3] r []) (initSt args [])) : PC Tryd.prog 111 args r :=
  pc_of_awp (X := x_diptychref1_runes) mixed Tryd.func111 (c := c_diptychref1_runes) (by kernel_rfl) (by kernel_rfl) (rs := [.tmp 2, .tmp 3]) (by kernel_rfl) (by kernel_rfl) (by rw [ha]; decide) h
noncomputable def c_diptychref1_formed : Code := (Tryd.f107.body).getD .skip
def nf_diptychref1_formed : List (Nat × Nf) := []
def fp_diptychref1_formed : List (Nat × List Nat) := []
def an_diptychref1_formed : Nat → Ann
  | 0 => ⟨[0], [], [], [], []⟩
  | 1 => ⟨[4], [], [], [], []⟩
  | 2 => ⟨[2], [], [], [], []⟩
  | _ => ⟨[], [], [], [], []⟩
noncomputable abbrev x_diptychref1_formed : Cx := ⟨Tryd.prog, ⟨id, nf_diptychref1_formed, fp_diptychref1_formed⟩, an_diptychref1_formed⟩
theorem start_diptychref1_formed {args : List PV} {r : PV} (ha : args.length = 1) (h : awp x_diptychref1_formed c_diptychref1_formed (bodyR Tryd.prog [.tmp 2] r []) (initSt args [])) : PC Tryd.prog 107 args r :=
  pc_of_awp (X := x_diptychref1_formed) mixed Tryd.func107 (c := c_diptychref1_formed) (by kernel_rfl) (by kernel_rfl) (rs := [.tmp 2]) (by kernel_rfl) (by kernel_rfl) (by rw [ha]; decide) h
noncomputable def c_diptychref1_Name : Code := (Tryd.f110.body).getD .skip
def nf_diptychref1_Name : List (Nat × Nf) := []
def fp_diptychref1_Name : List (Nat × List Nat) := []
def an_diptychref1_Name : Nat → Ann
  | 0 => ⟨[0], [], [], [], []⟩
  | 1 => ⟨[0, 3], [], [], [], []⟩
  | 2 => ⟨[0, 3, 7], [], [], [], []⟩
  | 3 => ⟨[0, 3], [], [], [], []⟩
  | 4 => ⟨[0, 3, 19], [], [], [], []⟩
  | 5 => ⟨[2], [], [], [], []⟩
  | 6 => ⟨[2], [], [], [], []⟩
  | _ => ⟨[], [], [], [], []⟩
noncomputable abbrev x_diptychref1_Name : Cx := ⟨Tryd.prog, ⟨id, nf_diptychref1_Name, fp_diptychref1_Name⟩, an_diptychref1_Name⟩
theorem start_diptychref1_Name {args : List PV} {r : PV} (ha : args.length = 1) (h : awp x_diptychref1_Name c_diptychref1_Name (bodyR Tryd.prog [.tmp 2] r []) (initSt args [])) : PC Tryd.prog 110 args r :=
  pc_of_awp (X := x_diptychref1_Name) mixed Tryd.func110 (c := c_diptychref1_Name) (by kernel_rfl) (by kernel_rfl) (rs := [.tmp 2]) (by kernel_rfl) (by kernel_rfl) (by rw [ha]; decide) h
noncomputable def c_diptychref1_rise : Code := (Tryd.f108.body).getD .skip
def nf_diptychref1_rise : List (Nat × Nf) := []
def fp_diptychref1_rise : List (Nat × List Nat) := []
def an_diptychref1_rise : Nat → Ann
  | 0 => ⟨[0], [], [], [], []⟩
  | 1 => ⟨[0, 3], [], [], [], []⟩
  | 2 => ⟨[0, 3, 7], [], [], [], []⟩
  | 3 => ⟨[0, 3], [], [], [], []⟩
  | 4 => ⟨[0, 3, 31], [], [], [], []⟩
  | 5 => ⟨[2], [], [], [], []⟩
  | 6 => ⟨[2], [], [], [], []⟩
  | _ => ⟨[], [], [], [], []⟩
noncomputable abbrev x_diptychref1_rise : Cx := ⟨Tryd.prog, ⟨id, nf_diptychref1_rise, fp_diptychref1_rise⟩, an_diptychref1_rise⟩
theorem start_diptychref1_rise {args : List PV} {r : PV} (ha : args.length = 1) (h : awp x_diptychref1_rise c_diptychref1_rise (bodyR Tryd.prog [.tmp 2] r []) (initSt args [])) : PC Tryd.prog 108 args r :=
  pc_of_awp (X := x_diptychref1_rise) mixed Tryd.func108 (c := c_diptychref1_rise) (by kernel_rfl) (by kernel_rfl) (rs := [.tmp 2]) (by kernel_rfl) (by kernel_rfl) (by rw [ha]; decide) h
noncomputable def c_diptychref1_Value : Code := (Tryd.f109.body).getD .skip
def nf_diptychref1_Value : List (Nat × Nf) := []
def fp_diptychref1_Value : List (Nat × List Nat) := []
def an_diptychref1_Value : Nat → Ann
  | 0 => ⟨[0], [], [], [], []⟩
  | 1 => ⟨[2], [], [], [], []⟩
  | _ => ⟨[], [], [], [], []⟩
noncomputable abbrev x_diptychref1_Value : Cx := ⟨Tryd.prog, ⟨id, nf_diptychref1_Value, fp_diptychref1_Value⟩, an_diptychref1_Value⟩
theorem start_diptychref1_Value {args : List PV} {r : PV} (ha : args.length = 1) (h : awp x_diptychref1_Value c_diptychref1_Value (bodyR Tryd.prog [.tmp 2] r []) (initSt args [])) : PC Tryd.prog 109 args r :=
  pc_of_awp (X := x_diptychref1_Value) mixed Tryd.func109 (c := c_diptychref1_Value) (by kernel_rfl) (by kernel_rfl) (rs := [.tmp 2]) (by kernel_rfl) (by kernel_rfl) (by rw [ha]; decide) h
noncomputable def c_diptychref1_Formed : Code := (Tryd.f90.body).getD .skip
def nf_diptychref1_Formed : List (Nat × Nf) := []
def fp_diptychref1_Formed : List (Nat × List Nat) := []
def an_diptychref1_Formed : Nat → Ann
  | 0 => ⟨[1], [1], [], [], [1]⟩
  | 1 => ⟨[1, 8], [1], [], [], [1]⟩
  | 2 => ⟨[2], [], [], [], []⟩
  | 3 => ⟨[1, 3], [1, 3], [.thaw 3 3 1], [], [1, 3]⟩
  | 4 => ⟨[1, 3, 4], [1, 3], [], [], [1, 3]⟩
  | 5 => ⟨[1, 3, 4, 38], [1, 3], [], [], [1, 3]⟩
  | 6 => ⟨[1, 3, 4], [1, 3], [], [], [1, 3]⟩
  | 7 => ⟨[1, 3, 4], [1, 3], [], [], [1, 3]⟩
  | 8 => ⟨[1, 3, 4, 57], [1, 3], [], [], [1, 3]⟩
  | 9 => ⟨[2], [], [], [], []⟩
  | 10 => ⟨[1, 77], [1], [], [], [1]⟩
  | 11 => ⟨[2], [], [], [], []⟩
  | 12 => ⟨[1, 5], [1], [], [], [1]⟩
  | 13 => ⟨[1, 5, 82], [1], [], [], [1]⟩
  | 14 => ⟨[1, 5], [1], [], [], [1]⟩
  | 15 => ⟨[1, 5, 130], [1], [], [], [1]⟩
  | 16 => ⟨[2], [], [], [], []⟩
  | 17 => ⟨[2], [], [], [], []⟩
  | _ => ⟨[], [], [], [], []⟩
noncomputable abbrev x_diptychref1_Formed : Cx := ⟨Tryd.prog, ⟨id, nf_diptychref1_Formed, fp_diptychref1_Formed⟩, an_diptychref1_Formed⟩
theorem start_diptychref1_Formed {args : List PV} {r : PV} (ha : args.length = 1) (h : awp x_diptychref1_Formed c_diptychref1_Formed (bodyR Tryd.prog [.tmp 2] r []) (initSt args [])) : PC Tryd.prog 90 args r :=
  pc_of_awp (X := x_diptychref1_Formed) mixed Tryd.func90 (c := c_diptychref1_Formed) (by kernel_rfl) (by kernel_rfl) (rs := [.tmp 2]) (by kernel_rfl) (by kernel_rfl) (by rw [ha]; decide) h
noncomputable def c_diptychref1_Total : Code := (Tryd.f64.body).getD .skip
def nf_diptychref1_Total : List (Nat × Nf) := []
def fp_diptychref1_Total : List (Nat × List Nat) := []
def an_diptychref1_Total : Nat → Ann
  | 0 => ⟨[0], [], [], [], []⟩
  | 1 => ⟨[0, 3], [], [], [], []⟩
  | 2 => ⟨[0, 3, 4], [], [], [], []⟩
  | 3 => ⟨[0, 3, 4, 8], [], [], [], []⟩
  | 4 => ⟨[0, 3, 4], [], [], [], []⟩
  | 5 => ⟨[0, 3, 4], [], [], [], []⟩
  | 6 => ⟨[2], [], [], [], []⟩
  | _ => ⟨[], [], [], [], []⟩
noncomputable abbrev x_diptychref1_Total : Cx := ⟨Tryd.prog, ⟨id, nf_diptychref1_Total, fp_diptychref1_Total⟩, an_diptychref1_Total⟩
theorem start_diptychref1_Total {args : List PV} {r : PV} (ha : args.length = 1) (h : awp x_diptychref1_Total c_diptychref1_Total (bodyR Tryd.prog [.tmp 2] r []) (initSt args [])) : PC Tryd.prog 64 args r :=
  pc_of_awp (X := x_diptychref1_Total) mixed Tryd.func64 (c := c_diptychref1_Total) (by kernel_rfl) (by kernel_rfl) (rs := [.tmp 2]) (by kernel_rfl) (by kernel_rfl) (by rw [ha]; decide) h
noncomputable def c_diptychref1_Size : Code := (Tryd.f91.body).getD .skip
def nf_diptychref1_Size : List (Nat × Nf) := []
def fp_diptychref1_Size : List (Nat × List Nat) := []
def an_diptychref1_Size : Nat → Ann
  | 0 => ⟨[1], [1], [], [], [1]⟩
  | 1 => ⟨[1, 7], [1], [], [], [1]⟩
  | 2 => ⟨[3], [], [], [], []⟩
  | 3 => ⟨[2], [], [], [], []⟩
  | 4 => ⟨[2], [], [], [], []⟩
  | _ => ⟨[], [], [], [], []⟩
noncomputable abbrev x_diptychref1_Size : Cx := ⟨Tryd.prog, ⟨id, nf_diptychref1_Size, fp_diptychref1_Size⟩, an_diptychref1_Size⟩
theorem start_diptychref1_Size {args : List PV} {r : PV} (ha : args.length = 1) (h : awp x_diptychref1_Size c_diptychref1_Size (bodyR Tryd.prog [.tmp 2] r []) (initSt args [])) : PC Tryd.prog 91 args r :=
  pc_of_awp (X := x_diptychref1_Size) mixed Tryd.func91 (c := c_diptychref1_Size) (by kernel_rfl) (by kernel_rfl) (rs := [.tmp 2]) (by kernel_rfl) (by kernel_rfl) (by rw [ha]; decide) h
noncomputable def c_diptychref1_Check : Code := (Tryd.f60.body).getD .skip
def nf_diptychref1_Check : List (Nat × Nf) := []
def fp_diptychref1_Check : List (Nat × List Nat) := []
def an_diptychref1_Check : Nat → Ann
  | 0 => ⟨[1], [1], [], [], [1]⟩
  | 1 => ⟨[1, 5], [1], [], [], [1]⟩
  | 2 => ⟨[2], [], [], [], []⟩
  | 3 => ⟨[1, 8], [1], [], [], [1]⟩
  | 4 => ⟨[2], [], [], [], []⟩
  | 5 => ⟨[11], [], [], [], []⟩
  | 6 => ⟨[2], [], [], [], []⟩
  | 7 => ⟨[2], [], [], [], []⟩
  | _ => ⟨[], [], [], [], []⟩
noncomputable abbrev x_diptychref1_Check : Cx := ⟨Tryd.prog, ⟨id, nf_diptychref1_Check, fp_diptychref1_Check⟩, an_diptychref1_Check⟩
theorem start_diptychref1_Check {args : List PV} {r : PV} (ha : args.length = 1) (h : awp x_diptychref1_Check c_diptychref1_Check (bodyR Tryd.prog [.tmp 2] r []) (initSt args [])) : PC Tryd.prog 60 args r :=
  pc_of_awp (X := x_diptychref1_Check) mixed Tryd.func60 (c := c_diptychref1_Check) (by kernel_rfl) (by kernel_rfl) (rs := [.tmp 2]) (by kernel_rfl) (by kernel_rfl) (by rw [ha]; decide) h
noncomputable def c_diptychref4_Inner : Code := (Tryd.f62.body).getD .skip
def nf_diptychref4_Inner : List (Nat × Nf) := [(33, [none, none, some 1, some 2, some 5]), (45, [none, none, some 1, some 2, some 5])]
def fp_diptychref4_Inner : List (Nat × List Nat) := []
def an_diptychref4_Inner : Nat → Ann
  | 0 => ⟨[1, 2, 4], [2, 4], [.nrm 4 [none, none, some 1, some 2, some 5]], [], [2, 4]⟩
  | 1 => ⟨[1, 2, 4, 6], [2, 4], [], [], [2, 4]⟩
  | 2 => ⟨[1, 2, 4, 6, 10], [2, 4], [], [], [2, 4]⟩
  | 3 => ⟨[1, 2, 4, 6], [2, 4], [], [], [2, 4]⟩
  | 4 => ⟨[1, 2, 4, 6, 32], [2, 4], [], [], [2, 4]⟩
  | 5 => ⟨[4, 5], [4], [], [], [4]⟩
  | 6 => ⟨[1, 2, 4, 6], [2, 4], [], [], [2, 4]⟩
  | 7 => ⟨[2, 4, 44], [2, 4], [], [], [2, 4]⟩
  | 8 => ⟨[4, 5], [4], [], [], [4]⟩
  | 9 => ⟨[4, 5], [4], [], [], [4]⟩
  | _ => ⟨[], [], [], [], []⟩
noncomputable abbrev x_diptychref4_Inner : Cx := ⟨Tryd.prog, ⟨id, nf_diptychref4_Inner, fp_diptychref4_Inner⟩, an_diptychref4_Inner⟩
theorem start_diptychref4_Inner {args : List PV} {r : PV} (ha : args.length = 2) (h : awp x_diptychref4_Inner c_diptychref4_Inner (bodyR Tryd.prog [.cell 4 28, .tmp 5] r []) (initSt args [])) : PC Tryd.prog 62 args r :=
  pc_of_awp (X := x_diptychref4_Inner) mixed Tryd.func62 (c := c_diptychref4_Inner) (by kernel_rfl) (by kernel_rfl) (rs := [.cell 4 28, .tmp 5]) (by kernel_rfl) (by kernel_rfl) (by rw [ha]; decide) h
noncomputable def c_diptychref4_Start : Code := (Tryd.f63.body).getD .skip
def nf_diptychref4_Start : List (Nat × Nf) := []
def fp_diptychref4_Start : List (Nat × List Nat) := []
def an_diptychref4_Start : Nat → Ann
  | 0 => ⟨[1, 2], [2], [], [], [2]⟩
  | 1 => ⟨[1, 2, 7], [2], [], [], [2]⟩
  | 2 => ⟨[1, 2, 7, 17], [2], [], [], [2]⟩
  | 3 => ⟨[4, 5], [], [], [], []⟩
  | 4 => ⟨[1, 2, 8], [2], [], [], [2]⟩
  | 5 => ⟨[1, 2, 8, 9], [2], [], [], [2]⟩
  | 6 => ⟨[1, 2, 8, 9, 22], [2], [], [], [2]⟩
  | 7 => ⟨[1, 2, 8, 9], [2], [], [], [2]⟩
  | 8 => ⟨[1, 2, 8, 9], [2], [], [], [2]⟩
  | 9 => ⟨[1, 2, 8, 9], [2], [], [], [2]⟩
  | 10 => ⟨[4, 5], [], [], [], []⟩
  | _ => ⟨[], [], [], [], []⟩
noncomputable abbrev x_diptychref4_Start : Cx := ⟨Tryd.prog, ⟨id, nf_diptychref4_Start, fp_diptychref4_Start⟩, an_diptychref4_Start⟩
theorem start_diptychref4_Start {args : List PV} {r : PV} (ha : args.length = 2) (h : awp x_diptychref4_Start c_diptychref4_Start (bodyR Tryd.prog [.tmp 4, .tmp 5] r []) (initSt args [])) : PC Tryd.prog 63 args r :=
  pc_of_awp (X := x_diptychref4_Start) mixed Tryd.func63 (c := c_diptychref4_Start) (by kernel_rfl) (by kernel_rfl) (rs := [.tmp 4, .tmp 5]) (by kernel_rfl) (by kernel_rfl) (by rw [ha]; decide) h
noncomputable def c_diptychref18_Steps : Code := (Tryd.f21.body).getD .skip
def nf_diptychref18_Steps : List (Nat × Nf) := []
def fp_diptychref18_Steps : List (Nat × List Nat) := [(101, [12]), (102, [12]), (104, []), (105, []), (106, []), (107, [14]), (108, [14]), (110, []), (111, []), (112, []), (115, [6, 114]), (149, [19]), (150, [19]), (155, []), (158, [21]), (159, [21]), (164, []), (167, [6, 166])]
def an_diptychref18_Steps : Nat → Ann
  | 0 => ⟨[2, 3], [2, 3], [], [], [2, 3]⟩
  | 1 => ⟨[2, 3, 39], [2, 3], [], [], [2, 3]⟩
  | 2 => ⟨[4, 5], [], [.nrm 4 [some 6]], [], []⟩
  | 3 => ⟨[2, 3, 6], [2, 3, 6], [.thaw 6 6 6], [], [2, 3, 6]⟩
  | 4 => ⟨[2, 3, 6, 7, 8, 9, 10], [2, 3, 6], [], [], [2, 3, 6]⟩
  | 5 => ⟨[2, 3, 6, 7, 8, 9, 10, 11], [2, 3, 6], [], [], [2, 3, 6]⟩
  | 6 => ⟨[2, 3, 6, 7, 8, 9, 10, 11, 51], [2, 3, 6], [], [], [2, 3, 6]⟩
  | 7 => ⟨[2, 3, 6, 7, 8, 9, 10, 11], [2, 3, 6], [], [], [2, 3, 6]⟩
  | 8 => ⟨[2, 3, 6, 7, 8, 9, 10, 11, 12], [2, 3, 6, 12], [], [], [2, 3, 6, 12]⟩
  | 9 => ⟨[2, 3, 6, 7, 8, 9, 10, 11, 12, 14], [2, 3, 6, 12, 14], [], [], [2, 3, 6, 12, 14]⟩
  | 10 => ⟨[2, 3, 6, 7, 8, 9, 10, 11, 12, 14, 16], [2, 3, 6, 12, 14], [], [], [2, 3, 6, 12, 14]⟩
  | 11 => ⟨[2, 3, 6, 7, 8, 9, 10, 11, 12, 14, 16, 18], [2, 3, 6, 12, 14], [], [], [2, 3, 6, 12, 14]⟩
  | 12 => ⟨[2, 3, 6, 7, 8, 9, 10, 11, 12, 14, 16, 18, 82], [2, 3, 6, 12, 14], [], [], [2, 3, 6, 12, 14]⟩
  | 13 => ⟨[2, 3, 6, 7, 8, 9, 10, 11, 12, 14, 16, 18], [2, 3, 6, 12, 14], [], [], [2, 3, 6, 12, 14]⟩
  | 14 => ⟨[2, 3, 6, 7, 8, 9, 10, 11, 12, 14, 16, 18, 97], [2, 3, 6, 12, 14], [], [], [2, 3, 6, 12, 14]⟩
  | 15 => ⟨[2, 3, 6, 7, 8, 9, 10, 11, 12, 14, 16, 18], [2, 3, 6, 12, 14], [], [], [2, 3, 6, 12, 14]⟩
  | 16 => ⟨[2, 3, 6, 7, 8, 9, 10, 119], [2, 3, 6], [], [], [2, 3, 6]⟩
  | 17 => ⟨[4, 5], [6], [], [.ren 6 4], [4, 6]⟩
  | 18 => ⟨[2, 3, 6, 7, 8, 9, 10, 19], [2, 3, 6, 19], [], [], [2, 3, 6, 19]⟩
  | 19 => ⟨[2, 6, 7, 8, 9, 10, 19, 21], [2, 6, 19, 21], [], [], [2, 6, 19, 21]⟩
  | 20 => ⟨[6, 8, 9, 10, 19, 21, 23], [6, 19, 21], [], [], [6, 19, 21]⟩
  | 21 => ⟨[6, 8, 9, 10, 19, 21, 25], [6, 19, 21], [], [], [6, 19, 21]⟩
  | 22 => ⟨[4, 5], [6], [], [.ren 6 4], [4, 6]⟩
  | _ => ⟨[], [], [], [], []⟩
noncomputable abbrev x_diptychref18_Steps : Cx := ⟨Tryd.prog, ⟨(fun d => if d = 113 then 0 else d), nf_diptychref18_Steps, fp_diptychref18_Steps⟩, an_diptychref18_Steps⟩
theorem start_diptychref18_Steps {args : List PV} {r : PV} (ha : args.length = 2) (h : awp x_diptychref18_Steps c_diptychref18_Steps (bodyR Tryd.prog [.tmp 4, .tmp 5] r []) (initSt args [])) : PC Tryd.prog 21 args r :=
  pc_of_awp (X := x_diptychref18_Steps) mixed Tryd.func21 (c := c_diptychref18_Steps) (by kernel_rfl) (by kernel_rfl) (rs := [.tmp 4, .tmp 5]) (by kernel_rfl) (by kernel_rfl) (by rw [ha]; decide) h
noncomputable def c_diptychlaw18_sameStep : Code := (Tryd.f65.body).getD .skip
def nf_diptychlaw18_sameStep : List (Nat × Nf) := []
def fp_diptychlaw18_sameStep : List (Nat × List Nat) := []
def an_diptychlaw18_sameStep : Nat → Ann
  | 0 => ⟨[2, 3], [2, 3], [], [], [2, 3]⟩
  | 1 => ⟨[4], [], [], [], []⟩
  | _ => ⟨[], [], [], [], []⟩
noncomputable abbrev x_diptychlaw18_sameStep : Cx := ⟨Tryd.prog, ⟨id, nf_diptychlaw18_sameStep, fp_diptychlaw18_sameStep⟩, an_diptychlaw18_sameStep⟩
theorem start_diptychlaw18_sameStep {args : List PV} {r : PV} (ha : args.length = 2) (h : awp x_diptychlaw18_sameStep c_diptychlaw18_sameStep (bodyR Tryd.prog [.tmp 4] r []) (initSt args [])) : PC Tryd.prog 65 args r :=
  pc_of_awp (X := x_diptychlaw18_sameStep) mixed Tryd.func65 (c := c_diptychlaw18_sameStep) (by kernel_rfl) (by kernel_rfl) (rs := [.tmp 4]) (by kernel_rfl) (by kernel_rfl) (by rw [ha]; decide) h
noncomputable def c_diptychlaw18_sameSteps : Code := (Tryd.f22.body).getD .skip
def nf_diptychlaw18_sameSteps : List (Nat × Nf) := []
def fp_diptychlaw18_sameSteps : List (Nat × List Nat) := []
def an_diptychlaw18_sameSteps : Nat → Ann
  | 0 => ⟨[0, 1], [], [], [], []⟩
  | 1 => ⟨[0, 1, 10], [], [], [], []⟩
  | 2 => ⟨[4], [], [], [], []⟩
  | 3 => ⟨[0, 1, 5], [], [], [], []⟩
  | 4 => ⟨[0, 1, 5, 14], [], [], [], []⟩
  | 5 => ⟨[0, 1, 5], [], [], [], []⟩
  | 6 => ⟨[0, 1, 5, 26], [], [], [], []⟩
  | 7 => ⟨[4], [], [], [], []⟩
  | 8 => ⟨[4], [], [], [], []⟩
  | _ => ⟨[], [], [], [], []⟩
noncomputable abbrev x_diptychlaw18_sameSteps : Cx := ⟨Tryd.prog, ⟨id, nf_diptychlaw18_sameSteps, fp_diptychlaw18_sameSteps⟩, an_diptychlaw18_sameSteps⟩
theorem start_diptychlaw18_sameSteps {args : List PV} {r : PV} (ha : args.length = 2) (h : awp x_diptychlaw18_sameSteps c_diptychlaw18_sameSteps (bodyR Tryd.prog [.tmp 4] r []) (initSt args [])) : PC Tryd.prog 22 args r :=
  pc_of_awp (X := x_diptychlaw18_sameSteps) mixed Tryd.func22 (c := c_diptychlaw18_sameSteps) (by kernel_rfl) (by kernel_rfl) (rs := [.tmp 4]) (by kernel_rfl) (by kernel_rfl) (by rw [ha]; decide) h
noncomputable def c_diff_Where : Code := (Tryd.f23.body).getD .skip
def nf_diff_Where : List (Nat × Nf) := []
def fp_diff_Where : List (Nat × List Nat) := []
def an_diff_Where : Nat → Ann
  | 0 => ⟨[2, 3], [2, 3], [], [], [2, 3]⟩
  | 1 => ⟨[8], [11], [.nrm 8 [none, none, none, none, none, none, none, none, none, none, none, none, none, none, none, some 6]], [], [11]⟩
  | 2 => ⟨[4, 5, 6, 7], [], [], [], []⟩
  | _ => ⟨[], [], [], [], []⟩
noncomputable abbrev x_diff_Where : Cx := ⟨Tryd.prog, ⟨id, nf_diff_Where, fp_diff_Where⟩, an_diff_Where⟩
theorem start_diff_Where {args : List PV} {r : PV} (ha : args.length = 2) (h : awp x_diff_Where c_diff_Where (bodyR Tryd.prog [.tmp 4, .tmp 5, .tmp 6, .tmp 7] r []) (initSt args [])) : PC Tryd.prog 23 args r :=
  pc_of_awp (X := x_diff_Where) mixed Tryd.func23 (c := c_diff_Where) (by kernel_rfl) (by kernel_rfl) (rs := [.tmp 4, .tmp 5, .tmp 6, .tmp 7]) (by kernel_rfl) (by kernel_rfl) (by rw [ha]; decide) h
noncomputable def c_diptychlaw18_same : Code := (Tryd.f25.body).getD .skip
def nf_diptychlaw18_same : List (Nat × Nf) := []
def fp_diptychlaw18_same : List (Nat × List Nat) := []
def an_diptychlaw18_same : Nat → Ann
  | 0 => ⟨[0, 1], [], [], [], []⟩
  | 1 => ⟨[0, 1, 10], [], [], [], []⟩
  | 2 => ⟨[4], [], [], [], []⟩
  | 3 => ⟨[0, 1, 5], [], [], [], []⟩
  | 4 => ⟨[0, 1, 5, 14], [], [], [], []⟩
  | 5 => ⟨[0, 1, 5], [], [], [], []⟩
  | 6 => ⟨[0, 1, 5, 25], [], [], [], []⟩
  | 7 => ⟨[4], [], [], [], []⟩
  | 8 => ⟨[4], [], [], [], []⟩
  | _ => ⟨[], [], [], [], []⟩
noncomputable abbrev x_diptychlaw18_same : Cx := ⟨Tryd.prog, ⟨id, nf_diptychlaw18_same, fp_diptychlaw18_same⟩, an_diptychlaw18_same⟩
theorem start_diptychlaw18_same {args : List PV} {r : PV} (ha : args.length = 2) (h : awp x_diptychlaw18_same c_diptychlaw18_same (bodyR Tryd.prog [.tmp 4] r []) (initSt args [])) : PC Tryd.prog 25 args r :=
  pc_of_awp (X := x_diptychlaw18_same) mixed Tryd.func25 (c := c_diptychlaw18_same) (by kernel_rfl) (by kernel_rfl) (rs := [.tmp 4]) (by kernel_rfl) (by kernel_rfl) (by rw [ha]; decide) h
noncomputable def c_diptychlaw18_DiffSteps : Code := (Tryd.f4.body).getD .skip
def nf_diptychlaw18_DiffSteps : List (Nat × Nf) := []
def fp_diptychlaw18_DiffSteps : List (Nat × List Nat) := []
def an_diptychlaw18_DiffSteps : Nat → Ann
  | 0 => ⟨[2, 3], [2, 3], [], [], [2, 3]⟩
  | 1 => ⟨[2, 3, 5], [2, 3], [], [], [2, 3]⟩
  | 2 => ⟨[2, 3, 5, 30], [2, 3], [], [], [2, 3]⟩
  | 3 => ⟨[4], [], [], [], []⟩
  | 4 => ⟨[2, 3, 6, 7], [2, 3], [], [], [2, 3]⟩
  | 5 => ⟨[2, 3, 6, 7, 8, 9], [2, 3], [], [], [2, 3]⟩
  | 6 => ⟨[2, 3, 7, 52], [2, 3], [], [], [2, 3]⟩
  | 7 => ⟨[4], [], [], [], []⟩
  | 8 => ⟨[2, 3, 54], [2, 3], [], [], [2, 3]⟩
  | 9 => ⟨[4], [], [], [], []⟩
  | 10 => ⟨[2, 3, 10, 11, 12, 13], [2, 3], [], [], [2, 3]⟩
  | 11 => ⟨[10, 11, 12, 13, 14, 15, 16, 17], [], [], [], []⟩
  | 12 => ⟨[4], [], [], [], []⟩
  | _ => ⟨[], [], [], [], []⟩
noncomputable abbrev x_diptychlaw18_DiffSteps : Cx := ⟨Tryd.prog, ⟨id, nf_diptychlaw18_DiffSteps, fp_diptychlaw18_DiffSteps⟩, an_diptychlaw18_DiffSteps⟩
theorem start_diptychlaw18_DiffSteps {args : List PV} {r : PV} (ha : args.length = 2) (h : awp x_diptychlaw18_DiffSteps c_diptychlaw18_DiffSteps (bodyR Tryd.prog [.tmp 4] r []) (initSt args [])) : PC Tryd.prog 4 args r :=
  pc_of_awp (X := x_diptychlaw18_DiffSteps) mixed Tryd.func4 (c := c_diptychlaw18_DiffSteps) (by kernel_rfl) (by kernel_rfl) (rs := [.tmp 4]) (by kernel_rfl) (by kernel_rfl) (by rw [ha]; decide) h
noncomputable def c_diff_change_set_x : Code := (Tryd.f89.body).getD .skip
def nf_diff_change_set_x : List (Nat × Nf) := []
def fp_diff_change_set_x : List (Nat × List Nat) := [(39, [1000]), (40, [1000]), (41, [1000]), (43, [1000]), (44, [1000]), (45, [1000]), (47, [3]), (48, [3]), (50, [1000]), (51, [1000]), (52, [1000]), (53, [1000]), (55, []), (56, []), (57, []), (60, [59, 1001]), (61, [1000]), (62, [1000])]
def an_diff_change_set_x : Nat → Ann
  | 0 => ⟨[0, 8, 9, 10], [1000, 1001], [], [], [1000, 1001]⟩
  | 1 => ⟨[0, 8, 9, 10, 11], [1000, 1001], [], [], [1000, 1001]⟩
  | 2 => ⟨[0, 2, 3, 8, 9, 10], [3, 1000, 1001], [], [], [3, 1000, 1001]⟩
  | 3 => ⟨[0, 2, 3, 8, 9, 10, 36], [3, 1000, 1001], [], [], [3, 1000, 1001]⟩
  | 4 => ⟨[0, 8, 9, 10], [1000, 1001], [], [], [1000, 1001]⟩
  | 5 => ⟨[0, 8, 9, 10], [1000, 1001], [], [], [1000, 1001]⟩
  | _ => ⟨[], [], [], [], []⟩
noncomputable abbrev x_diff_change_set_x : Cx := ⟨Tryd.prog, ⟨(fun d => if d = 58 then 0 else d), nf_diff_change_set_x, fp_diff_change_set_x⟩, an_diff_change_set_x⟩
theorem start_diff_change_set_x {args : List PV} {es es' : List Ent} {r : PV} (ha : args.length = 1) (hl : es'.length = es.length) (he : (es'.all fun e => e.extOk es.length) = true) (h : awp x_diff_change_set_x c_diff_change_set_x (bodyR Tryd.prog [] r es') (initSt args es)) : BC Tryd.prog 89 args es r es' :=
  bc_of_awp (X := x_diff_change_set_x) mixed Tryd.func89 (c := c_diff_change_set_x) (by kernel_rfl) (by kernel_rfl) (rs := []) (by kernel_rfl) (by kernel_rfl) (by rw [ha]; decide) hl (fun e h => List.all_eq_true.1 he e h) h
attribute [go_sem] an_slices_Clone_string nf_slices_Clone_string fp_slices_Clone_string an_slices_Clone_api_Attr nf_slices_Clone_api_Attr fp_slices_Clone_api_Attr an_slices_Clone_api_Node nf_slices_Clone_api_Node fp_slices_Clone_api_Node an_node_Copy nf_node_Copy fp_node_Copy an_node_isText nf_node_isText fp_node_isText an_unicode_utf8_RuneCountInString nf_unicode_utf8_RuneCountInString fp_unicode_utf8_RuneCountInString an_node_Size nf_node_Size fp_node_Size an_node_Total nf_node_Total fp_node_Total an_node_Depth nf_node_Depth fp_node_Depth an_node_Name nf_node_Name fp_node_Name an_node_Value nf_node_Value fp_node_Value an_node_rise nf_node_rise fp_node_rise an_slices_Equal_string nf_slices_Equal_string fp_slices_Equal_string an_node_alike nf_node_alike fp_node_alike an_node_formed nf_node_formed fp_node_formed an_node_Check nf_node_Check fp_node_Check an_node_Right nf_node_Right fp_node_Right an_diff_alike_1 nf_diff_alike_1 fp_diff_alike_1 an_slices_EqualFunc_api_Attr_diff_alike_1 nf_slices_EqualFunc_api_Attr_diff_alike_1 fp_slices_EqualFunc_api_Attr_diff_alike_1 an_diff_alike nf_diff_alike fp_diff_alike an_slices_Equal_api_Attr nf_slices_Equal_api_Attr fp_slices_Equal_api_Attr an_slices_EqualFunc_api_Node_node_Same nf_slices_EqualFunc_api_Node_node_Same fp_slices_EqualFunc_api_Node_node_Same an_node_Same nf_node_Same fp_node_Same an_diff_change_set_xx nf_diff_change_set_xx fp_diff_change_set_xx an_diff_of nf_diff_of fp_diff_of an_diff_Steps nf_diff_Steps fp_diff_Steps an_diptychlaw18_shown nf_diptychlaw18_shown fp_diptychlaw18_shown an_diptychlaw18_light nf_diptychlaw18_light fp_diptychlaw18_light an_diptychref18_alike nf_diptychref18_alike fp_diptychref18_alike an_diptychref1_sameNames nf_diptychref1_sameNames fp_diptychref1_sameNames an_diptychref1_SameAll nf_diptychref1_SameAll fp_diptychref1_SameAll an_diptychref1_Same nf_diptychref1_Same fp_diptychref1_Same an_diptychref18_Where nf_diptychref18_Where fp_diptychref18_Where an_diptychref1_Depth nf_diptychref1_Depth fp_diptychref1_Depth an_diptychref1_runes nf_diptychref1_runes fp_diptychref1_runes an_diptychref1_formed nf_diptychref1_formed fp_diptychref1_formed an_diptychref1_Name nf_diptychref1_Name fp_diptychref1_Name an_diptychref1_rise nf_diptychref1_rise fp_diptychref1_rise an_diptychref1_Value nf_diptychref1_Value fp_diptychref1_Value an_diptychref1_Formed nf_diptychref1_Formed fp_diptychref1_Formed an_diptychref1_Total nf_diptychref1_Total fp_diptychref1_Total an_diptychref1_Size nf_diptychref1_Size fp_diptychref1_Size an_diptychref1_Check nf_diptychref1_Check fp_diptychref1_Check an_diptychref4_Inner nf_diptychref4_Inner fp_diptychref4_Inner an_diptychref4_Start nf_diptychref4_Start fp_diptychref4_Start an_diptychref18_Steps nf_diptychref18_Steps fp_diptychref18_Steps an_diptychlaw18_sameStep nf_diptychlaw18_sameStep fp_diptychlaw18_sameStep an_diptychlaw18_sameSteps nf_diptychlaw18_sameSteps fp_diptychlaw18_sameSteps an_diff_Where nf_diff_Where fp_diff_Where an_diptychlaw18_same nf_diptychlaw18_same fp_diptychlaw18_same an_diptychlaw18_DiffSteps nf_diptychlaw18_DiffSteps fp_diptychlaw18_DiffSteps an_diff_change_set_x nf_diff_change_set_x fp_diff_change_set_x ty3 ty4 ty5 ty9 ty21 ty24 ty25 ty26 ty28 ty33 ty36 ty37 ty40 ty44 ty55 ty90 ty102 ty115 api_Attr.pv_eq api_Node.pv_eq step_Step.pv_eq diff_change.pv_eq diptychref11_Step.pv_eq pvL

end Go.Proofs.YtblielhogcnnkaaDoor
