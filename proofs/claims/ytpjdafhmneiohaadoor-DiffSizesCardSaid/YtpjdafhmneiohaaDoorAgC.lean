/- Code, and what is kept. -/
import Derived.Test.YtpjdafhmneiohaaDoorAgT
import Derived.Test.YtpjdafhmneiohaaDoorAwT
namespace Go.Proofs.YtpjdafhmneiohaaDoor
set_option linter.unusedSimpArgs false
set_option linter.unusedVariables false
open Go
set_option maxRecDepth 100000

noncomputable def c_slices_Clone_string : Code := (Tryd.f57.body).getD .skip
def nf_slices_Clone_string : List (Nat × Nf) := []
def fp_slices_Clone_string : List (Nat × List Nat) := []
def an_slices_Clone_string : Nat → Ann
  | 0 => ⟨[0], [5], [], [], [5]⟩
  | 1 => ⟨[0, 4], [5], [], [], [5]⟩
  | 2 => ⟨[2], [5], [], [], [5]⟩
  | 3 => ⟨[2], [5], [], [], [5]⟩
  | _ => ⟨[], [], [], [], []⟩
noncomputable abbrev x_slices_Clone_string : Cx := ⟨Tryd.prog, ⟨id, nf_slices_Clone_string, fp_slices_Clone_string⟩, an_slices_Clone_string⟩
theorem start_slices_Clone_string {args : List PV} {r : PV} (ha : args.length = 1) (h : awp x_slices_Clone_string c_slices_Clone_string (bodyR Tryd.prog [.tmp 2] r []) (initSt args [])) : PC Tryd.prog 57 args r :=
  pc_of_awp (X := x_slices_Clone_string) mixed Tryd.func57 (c := c_slices_Clone_string) (by kernel_rfl) (by kernel_rfl) (rs := [.tmp 2]) (by kernel_rfl) (by kernel_rfl) (by rw [ha]; decide) h
noncomputable def c_slices_Clone_api_Attr : Code := (Tryd.f58.body).getD .skip
def nf_slices_Clone_api_Attr : List (Nat × Nf) := []
def fp_slices_Clone_api_Attr : List (Nat × List Nat) := []
def an_slices_Clone_api_Attr : Nat → Ann
  | 0 => ⟨[0], [5], [], [], [5]⟩
  | 1 => ⟨[0, 4], [5], [], [], [5]⟩
  | 2 => ⟨[2], [5], [], [], [5]⟩
  | 3 => ⟨[2], [5], [], [], [5]⟩
  | _ => ⟨[], [], [], [], []⟩
noncomputable abbrev x_slices_Clone_api_Attr : Cx := ⟨Tryd.prog, ⟨id, nf_slices_Clone_api_Attr, fp_slices_Clone_api_Attr⟩, an_slices_Clone_api_Attr⟩
theorem start_slices_Clone_api_Attr {args : List PV} {r : PV} (ha : args.length = 1) (h : awp x_slices_Clone_api_Attr c_slices_Clone_api_Attr (bodyR Tryd.prog [.tmp 2] r []) (initSt args [])) : PC Tryd.prog 58 args r :=
  pc_of_awp (X := x_slices_Clone_api_Attr) mixed Tryd.func58 (c := c_slices_Clone_api_Attr) (by kernel_rfl) (by kernel_rfl) (rs := [.tmp 2]) (by kernel_rfl) (by kernel_rfl) (by rw [ha]; decide) h
noncomputable def c_slices_Clone_api_Node : Code := (Tryd.f59.body).getD .skip
def nf_slices_Clone_api_Node : List (Nat × Nf) := []
def fp_slices_Clone_api_Node : List (Nat × List Nat) := []
def an_slices_Clone_api_Node : Nat → Ann
  | 0 => ⟨[0], [5], [], [], [5]⟩
  | 1 => ⟨[0, 4], [5], [], [], [5]⟩
  | 2 => ⟨[2], [5], [], [], [5]⟩
  | 3 => ⟨[2], [5], [], [], [5]⟩
  | _ => ⟨[], [], [], [], []⟩
noncomputable abbrev x_slices_Clone_api_Node : Cx := ⟨Tryd.prog, ⟨id, nf_slices_Clone_api_Node, fp_slices_Clone_api_Node⟩, an_slices_Clone_api_Node⟩
theorem start_slices_Clone_api_Node {args : List PV} {r : PV} (ha : args.length = 1) (h : awp x_slices_Clone_api_Node c_slices_Clone_api_Node (bodyR Tryd.prog [.tmp 2] r []) (initSt args [])) : PC Tryd.prog 59 args r :=
  pc_of_awp (X := x_slices_Clone_api_Node) mixed Tryd.func59 (c := c_slices_Clone_api_Node) (by kernel_rfl) (by kernel_rfl) (rs := [.tmp 2]) (by kernel_rfl) (by kernel_rfl) (by rw [ha]; decide) h
noncomputable def c_node_Copy : Code := (Tryd.f16.body).getD .skip
def nf_node_Copy : List (Nat × Nf) := [(32, [none, none, none, none, some 5])]
def fp_node_Copy : List (Nat × List Nat) := [(5, [1]), (6, [1]), (8, [1]), (9, [1]), (11, [1]), (12, [1]), (13, []), (14, [1]), (15, [1]), (16, [1])]
def an_node_Copy : Nat → Ann
  | 0 => ⟨[1, 2], [1, 2], [.nrm 2 [none, none, some 1, some 2, some 5]], [], [1, 2]⟩
  | 1 => ⟨[1, 2], [1, 2, 13], [], [.ren 13 311], [1, 2, 13, 311]⟩
  | 2 => ⟨[1, 2, 18, 19, 20], [1, 2, 311], [], [.ren 311 18], [1, 2, 18, 311]⟩
  | 3 => ⟨[1, 2, 18, 19, 20, 21], [1, 2, 18], [], [], [1, 2, 18]⟩
  | 4 => ⟨[1, 2, 3, 4, 18, 19, 20], [1, 2, 4, 18], [], [], [1, 2, 4, 18]⟩
  | 5 => ⟨[1, 2, 18, 19, 20], [1, 2, 18], [], [], [1, 2, 18]⟩
  | 6 => ⟨[1, 2, 18, 19, 20], [1, 2, 18], [], [], [1, 2, 18]⟩
  | 7 => ⟨[2], [2], [], [], [2]⟩
  | _ => ⟨[], [], [], [], []⟩
noncomputable abbrev x_node_Copy : Cx := ⟨Tryd.prog, ⟨id, nf_node_Copy, fp_node_Copy⟩, an_node_Copy⟩
theorem start_node_Copy {args : List PV} {r : PV} (ha : args.length = 1) (h : awp x_node_Copy c_node_Copy (bodyR Tryd.prog [.cell 2 28] r []) (initSt args [])) : PC Tryd.prog 16 args r :=
  pc_of_awp (X := x_node_Copy) mixed Tryd.func16 (c := c_node_Copy) (by kernel_rfl) (by kernel_rfl) (rs := [.cell 2 28]) (by kernel_rfl) (by kernel_rfl) (by rw [ha]; decide) h
noncomputable def c_node_isText : Code := (Tryd.f68.body).getD .skip
def nf_node_isText : List (Nat × Nf) := []
def fp_node_isText : List (Nat × List Nat) := []
def an_node_isText : Nat → Ann
  | 0 => ⟨[1], [1], [], [], [1]⟩
  | 1 => ⟨[2], [], [], [], []⟩
  | _ => ⟨[], [], [], [], []⟩
noncomputable abbrev x_node_isText : Cx := ⟨Tryd.prog, ⟨id, nf_node_isText, fp_node_isText⟩, an_node_isText⟩
theorem start_node_isText {args : List PV} {r : PV} (ha : args.length = 1) (h : awp x_node_isText c_node_isText (bodyR Tryd.prog [.tmp 2] r []) (initSt args [])) : PC Tryd.prog 68 args r :=
  pc_of_awp (X := x_node_isText) mixed Tryd.func68 (c := c_node_isText) (by kernel_rfl) (by kernel_rfl) (rs := [.tmp 2]) (by kernel_rfl) (by kernel_rfl) (by rw [ha]; decide) h
noncomputable def c_unicode_utf8_RuneCountInString : Code := (Tryd.f69.body).getD .skip
def nf_unicode_utf8_RuneCountInString : List (Nat × Nf) := []
def fp_unicode_utf8_RuneCountInString : List (Nat × List Nat) := []
def an_unicode_utf8_RuneCountInString : Nat → Ann
  | 0 => ⟨[0, 2], [], [], [], []⟩
  | 1 => ⟨[2, 4], [4], [], [], [4]⟩
  | 2 => ⟨[2, 4, 6], [4], [], [], [4]⟩
  | 3 => ⟨[2, 4], [4], [], [], [4]⟩
  | 4 => ⟨[2], [], [], [], []⟩
  | _ => ⟨[], [], [], [], []⟩
noncomputable abbrev x_unicode_utf8_RuneCountInString : Cx := ⟨Tryd.prog, ⟨id, nf_unicode_utf8_RuneCountInString, fp_unicode_utf8_RuneCountInString⟩, an_unicode_utf8_RuneCountInString⟩
theorem start_unicode_utf8_RuneCountInString {args : List PV} {r : PV} (ha : args.length = 1) (h : awp x_unicode_utf8_RuneCountInString c_unicode_utf8_RuneCountInString (bodyR Tryd.prog [.tmp 2] r []) (initSt args [])) : PC Tryd.prog 69 args r :=
  pc_of_awp (X := x_unicode_utf8_RuneCountInString) mixed Tryd.func69 (c := c_unicode_utf8_RuneCountInString) (by kernel_rfl) (by kernel_rfl) (rs := [.tmp 2]) (by kernel_rfl) (by kernel_rfl) (by rw [ha]; decide) h
noncomputable def c_node_Size : Code := (Tryd.f23.body).getD .skip
def nf_node_Size : List (Nat × Nf) := []
def fp_node_Size : List (Nat × List Nat) := []
def an_node_Size : Nat → Ann
  | 0 => ⟨[1], [1], [], [], [1]⟩
  | 1 => ⟨[1, 4], [1], [], [], [1]⟩
  | 2 => ⟨[2], [], [], [], []⟩
  | 3 => ⟨[2], [], [], [], []⟩
  | _ => ⟨[], [], [], [], []⟩
noncomputable abbrev x_node_Size : Cx := ⟨Tryd.prog, ⟨id, nf_node_Size, fp_node_Size⟩, an_node_Size⟩
theorem start_node_Size {args : List PV} {r : PV} (ha : args.length = 1) (h : awp x_node_Size c_node_Size (bodyR Tryd.prog [.tmp 2] r []) (initSt args [])) : PC Tryd.prog 23 args r :=
  pc_of_awp (X := x_node_Size) mixed Tryd.func23 (c := c_node_Size) (by kernel_rfl) (by kernel_rfl) (rs := [.tmp 2]) (by kernel_rfl) (by kernel_rfl) (by rw [ha]; decide) h
noncomputable def c_node_Total : Code := (Tryd.f48.body).getD .skip
def nf_node_Total : List (Nat × Nf) := []
def fp_node_Total : List (Nat × List Nat) := []
def an_node_Total : Nat → Ann
  | 0 => ⟨[0], [], [], [], []⟩
  | 1 => ⟨[0, 3], [], [], [], []⟩
  | 2 => ⟨[3, 6, 7, 8], [], [], [], []⟩
  | 3 => ⟨[3, 6, 7, 8, 9], [], [], [], []⟩
  | 4 => ⟨[3, 5, 6, 7, 8], [5], [], [], [5]⟩
  | 5 => ⟨[3, 6, 7, 8], [], [], [], []⟩
  | 6 => ⟨[3, 6, 7, 8], [], [], [], []⟩
  | 7 => ⟨[2], [], [], [], []⟩
  | _ => ⟨[], [], [], [], []⟩
noncomputable abbrev x_node_Total : Cx := ⟨Tryd.prog, ⟨id, nf_node_Total, fp_node_Total⟩, an_node_Total⟩
theorem start_node_Total {args : List PV} {r : PV} (ha : args.length = 1) (h : awp x_node_Total c_node_Total (bodyR Tryd.prog [.tmp 2] r []) (initSt args [])) : PC Tryd.prog 48 args r :=
  pc_of_awp (X := x_node_Total) mixed Tryd.func48 (c := c_node_Total) (by kernel_rfl) (by kernel_rfl) (rs := [.tmp 2]) (by kernel_rfl) (by kernel_rfl) (by rw [ha]; decide) h
noncomputable def c_node_Name : Code := (Tryd.f120.body).getD .skip
def nf_node_Name : List (Nat × Nf) := []
def fp_node_Name : List (Nat × List Nat) := []
def an_node_Name : Nat → Ann
  | 0 => ⟨[0], [], [], [], []⟩
  | 1 => ⟨[0, 3], [], [], [], []⟩
  | 2 => ⟨[2], [], [], [], []⟩
  | _ => ⟨[], [], [], [], []⟩
noncomputable abbrev x_node_Name : Cx := ⟨Tryd.prog, ⟨id, nf_node_Name, fp_node_Name⟩, an_node_Name⟩
theorem start_node_Name {args : List PV} {r : PV} (ha : args.length = 1) (h : awp x_node_Name c_node_Name (bodyR Tryd.prog [.tmp 2] r []) (initSt args [])) : PC Tryd.prog 120 args r :=
  pc_of_awp (X := x_node_Name) mixed Tryd.func120 (c := c_node_Name) (by kernel_rfl) (by kernel_rfl) (rs := [.tmp 2]) (by kernel_rfl) (by kernel_rfl) (by rw [ha]; decide) h
noncomputable def c_node_rise : Code := (Tryd.f140.body).getD .skip
def nf_node_rise : List (Nat × Nf) := []
def fp_node_rise : List (Nat × List Nat) := []
def an_node_rise : Nat → Ann
  | 0 => ⟨[0], [], [], [], []⟩
  | 1 => ⟨[0, 5, 6, 7], [], [], [], []⟩
  | 2 => ⟨[0, 5, 6, 7, 8], [], [], [], []⟩
  | 3 => ⟨[0, 3, 4, 5, 6, 7], [], [], [], []⟩
  | 4 => ⟨[0, 5, 6, 7, 27], [], [], [], []⟩
  | 5 => ⟨[2], [], [], [], []⟩
  | 6 => ⟨[0, 5, 6, 7], [], [], [], []⟩
  | 7 => ⟨[2], [], [], [], []⟩
  | _ => ⟨[], [], [], [], []⟩
noncomputable abbrev x_node_rise : Cx := ⟨Tryd.prog, ⟨id, nf_node_rise, fp_node_rise⟩, an_node_rise⟩
theorem start_node_rise {args : List PV} {r : PV} (ha : args.length = 1) (h : awp x_node_rise c_node_rise (bodyR Tryd.prog [.tmp 2] r []) (initSt args [])) : PC Tryd.prog 140 args r :=
  pc_of_awp (X := x_node_rise) mixed Tryd.func140 (c := c_node_rise) (by kernel_rfl) (by kernel_rfl) (rs := [.tmp 2]) (by kernel_rfl) (by kernel_rfl) (by rw [ha]; decide) h
noncomputable def c_node_Value : Code := (Tryd.f141.body).getD .skip
def nf_node_Value : List (Nat × Nf) := []
def fp_node_Value : List (Nat × List Nat) := []
def an_node_Value : Nat → Ann
  | 0 => ⟨[0], [], [], [], []⟩
  | 1 => ⟨[2], [], [], [], []⟩
  | _ => ⟨[], [], [], [], []⟩
noncomputable abbrev x_node_Value : Cx := ⟨Tryd.prog, ⟨id, nf_node_Value, fp_node_Value⟩, an_node_Value⟩
theorem start_node_Value {args : List PV} {r : PV} (ha : args.length = 1) (h : awp x_node_Value c_node_Value (bodyR Tryd.prog [.tmp 2] r []) (initSt args [])) : PC Tryd.prog 141 args r :=
  pc_of_awp (X := x_node_Value) mixed Tryd.func141 (c := c_node_Value) (by kernel_rfl) (by kernel_rfl) (rs := [.tmp 2]) (by kernel_rfl) (by kernel_rfl) (by rw [ha]; decide) h
noncomputable def c_slices_Equal_string : Code := (Tryd.f60.body).getD .skip
def nf_slices_Equal_string : List (Nat × Nf) := []
def fp_slices_Equal_string : List (Nat × List Nat) := []
def an_slices_Equal_string : Nat → Ann
  | 0 => ⟨[0, 1], [], [], [], []⟩
  | 1 => ⟨[0, 1, 10], [], [], [], []⟩
  | 2 => ⟨[4], [], [], [], []⟩
  | 3 => ⟨[0, 1, 12, 13], [], [], [], []⟩
  | 4 => ⟨[0, 1, 12, 13, 14], [], [], [], []⟩
  | 5 => ⟨[0, 1, 5, 12, 13], [], [], [], []⟩
  | 6 => ⟨[0, 1, 12, 13, 24], [], [], [], []⟩
  | 7 => ⟨[4], [], [], [], []⟩
  | 8 => ⟨[0, 1, 12, 13], [], [], [], []⟩
  | 9 => ⟨[4], [], [], [], []⟩
  | _ => ⟨[], [], [], [], []⟩
noncomputable abbrev x_slices_Equal_string : Cx := ⟨Tryd.prog, ⟨id, nf_slices_Equal_string, fp_slices_Equal_string⟩, an_slices_Equal_string⟩
theorem start_slices_Equal_string {args : List PV} {r : PV} (ha : args.length = 2) (h : awp x_slices_Equal_string c_slices_Equal_string (bodyR Tryd.prog [.tmp 4] r []) (initSt args [])) : PC Tryd.prog 60 args r :=
  pc_of_awp (X := x_slices_Equal_string) mixed Tryd.func60 (c := c_slices_Equal_string) (by kernel_rfl) (by kernel_rfl) (rs := [.tmp 4]) (by kernel_rfl) (by kernel_rfl) (by rw [ha]; decide) h
noncomputable def c_node_alike : Code := (Tryd.f88.body).getD .skip
def nf_node_alike : List (Nat × Nf) := []
def fp_node_alike : List (Nat × List Nat) := []
def an_node_alike : Nat → Ann
  | 0 => ⟨[2, 3], [2, 3], [], [], [2, 3]⟩
  | 1 => ⟨[4], [], [], [], []⟩
  | _ => ⟨[], [], [], [], []⟩
noncomputable abbrev x_node_alike : Cx := ⟨Tryd.prog, ⟨id, nf_node_alike, fp_node_alike⟩, an_node_alike⟩
theorem start_node_alike {args : List PV} {r : PV} (ha : args.length = 2) (h : awp x_node_alike c_node_alike (bodyR Tryd.prog [.tmp 4] r []) (initSt args [])) : PC Tryd.prog 88 args r :=
  pc_of_awp (X := x_node_alike) mixed Tryd.func88 (c := c_node_alike) (by kernel_rfl) (by kernel_rfl) (rs := [.tmp 4]) (by kernel_rfl) (by kernel_rfl) (by rw [ha]; decide) h
noncomputable def c_node_formed : Code := (Tryd.f115.body).getD .skip
def nf_node_formed : List (Nat × Nf) := []
def fp_node_formed : List (Nat × List Nat) := []
def an_node_formed : Nat → Ann
  | 0 => ⟨[1], [1], [], [], [1]⟩
  | 1 => ⟨[1, 9], [1], [], [], [1]⟩
  | 2 => ⟨[2], [], [], [], []⟩
  | 3 => ⟨[1, 3], [1, 3], [.thaw 3 3 1], [], [1, 3]⟩
  | 4 => ⟨[1, 3, 34, 35, 36], [1, 3], [], [], [1, 3]⟩
  | 5 => ⟨[1, 3, 34, 35, 36, 37], [1, 3], [], [], [1, 3]⟩
  | 6 => ⟨[1, 3, 5, 34, 35, 36], [1, 3, 5], [], [], [1, 3, 5]⟩
  | 7 => ⟨[1, 3, 5, 34, 35, 36, 43], [1, 3, 5], [], [], [1, 3, 5]⟩
  | 8 => ⟨[2], [], [], [], []⟩
  | 9 => ⟨[1, 3, 34, 35, 36], [1, 3], [], [], [1, 3]⟩
  | 10 => ⟨[1, 3, 34, 35, 36], [1, 3], [], [], [1, 3]⟩
  | 11 => ⟨[1, 69], [1], [], [], [1]⟩
  | 12 => ⟨[2], [], [], [], []⟩
  | 13 => ⟨[1, 71, 72, 73], [1], [], [], [1]⟩
  | 14 => ⟨[1, 71, 72, 73, 74], [1], [], [], [1]⟩
  | 15 => ⟨[1, 6, 7, 71, 72, 73], [1, 7], [], [], [1, 7]⟩
  | 16 => ⟨[1, 71, 72, 73, 94], [1], [], [], [1]⟩
  | 17 => ⟨[2], [], [], [], []⟩
  | 18 => ⟨[1, 71, 72, 73], [1], [], [], [1]⟩
  | 19 => ⟨[2], [], [], [], []⟩
  | _ => ⟨[], [], [], [], []⟩
noncomputable abbrev x_node_formed : Cx := ⟨Tryd.prog, ⟨id, nf_node_formed, fp_node_formed⟩, an_node_formed⟩
theorem start_node_formed {args : List PV} {r : PV} (ha : args.length = 1) (h : awp x_node_formed c_node_formed (bodyR Tryd.prog [.tmp 2] r []) (initSt args [])) : PC Tryd.prog 115 args r :=
  pc_of_awp (X := x_node_formed) mixed Tryd.func115 (c := c_node_formed) (by kernel_rfl) (by kernel_rfl) (rs := [.tmp 2]) (by kernel_rfl) (by kernel_rfl) (by rw [ha]; decide) h
noncomputable def c_node_Depth : Code := (Tryd.f54.body).getD .skip
def nf_node_Depth : List (Nat × Nf) := []
def fp_node_Depth : List (Nat × List Nat) := []
def an_node_Depth : Nat → Ann
  | 0 => ⟨[1], [1], [], [], [1]⟩
  | 1 => ⟨[1, 7], [1], [], [], [1]⟩
  | 2 => ⟨[2], [], [], [], []⟩
  | 3 => ⟨[1, 3], [1], [], [], [1]⟩
  | 4 => ⟨[3, 9, 10, 11], [], [], [], []⟩
  | 5 => ⟨[3, 9, 10, 11, 12], [], [], [], []⟩
  | 6 => ⟨[3, 5, 9, 10, 11], [5], [], [], [5]⟩
  | 7 => ⟨[3, 9, 10, 11], [], [], [], []⟩
  | 8 => ⟨[3, 9, 10, 11], [], [], [], []⟩
  | 9 => ⟨[2], [], [], [], []⟩
  | _ => ⟨[], [], [], [], []⟩
noncomputable abbrev x_node_Depth : Cx := ⟨Tryd.prog, ⟨id, nf_node_Depth, fp_node_Depth⟩, an_node_Depth⟩
theorem start_node_Depth {args : List PV} {r : PV} (ha : args.length = 1) (h : awp x_node_Depth c_node_Depth (bodyR Tryd.prog [.tmp 2] r []) (initSt args [])) : PC Tryd.prog 54 args r :=
  pc_of_awp (X := x_node_Depth) mixed Tryd.func54 (c := c_node_Depth) (by kernel_rfl) (by kernel_rfl) (rs := [.tmp 2]) (by kernel_rfl) (by kernel_rfl) (by rw [ha]; decide) h
noncomputable def c_node_Check : Code := (Tryd.f86.body).getD .skip
def nf_node_Check : List (Nat × Nf) := []
def fp_node_Check : List (Nat × List Nat) := []
def an_node_Check : Nat → Ann
  | 0 => ⟨[1], [1], [], [], [1]⟩
  | 1 => ⟨[1, 3], [1], [], [], [1]⟩
  | 2 => ⟨[2], [], [], [], []⟩
  | 3 => ⟨[1, 7], [1], [], [], [1]⟩
  | 4 => ⟨[2], [], [], [], []⟩
  | 5 => ⟨[11], [], [], [], []⟩
  | 6 => ⟨[2], [], [], [], []⟩
  | 7 => ⟨[2], [], [], [], []⟩
  | _ => ⟨[], [], [], [], []⟩
noncomputable abbrev x_node_Check : Cx := ⟨Tryd.prog, ⟨id, nf_node_Check, fp_node_Check⟩, an_node_Check⟩
theorem start_node_Check {args : List PV} {r : PV} (ha : args.length = 1) (h : awp x_node_Check c_node_Check (bodyR Tryd.prog [.tmp 2] r []) (initSt args [])) : PC Tryd.prog 86 args r :=
  pc_of_awp (X := x_node_Check) mixed Tryd.func86 (c := c_node_Check) (by kernel_rfl) (by kernel_rfl) (rs := [.tmp 2]) (by kernel_rfl) (by kernel_rfl) (by rw [ha]; decide) h
noncomputable def c_node_Right : Code := (Tryd.f55.body).getD .skip
def nf_node_Right : List (Nat × Nf) := []
def fp_node_Right : List (Nat × List Nat) := []
def an_node_Right : Nat → Ann
  | 0 => ⟨[1], [1], [], [], [1]⟩
  | 1 => ⟨[2], [], [], [], []⟩
  | _ => ⟨[], [], [], [], []⟩
noncomputable abbrev x_node_Right : Cx := ⟨Tryd.prog, ⟨id, nf_node_Right, fp_node_Right⟩, an_node_Right⟩
theorem start_node_Right {args : List PV} {r : PV} (ha : args.length = 1) (h : awp x_node_Right c_node_Right (bodyR Tryd.prog [.tmp 2] r []) (initSt args [])) : PC Tryd.prog 55 args r :=
  pc_of_awp (X := x_node_Right) mixed Tryd.func55 (c := c_node_Right) (by kernel_rfl) (by kernel_rfl) (rs := [.tmp 2]) (by kernel_rfl) (by kernel_rfl) (by rw [ha]; decide) h
noncomputable def c_diff_alike_1 : Code := (Tryd.f92.body).getD .skip
def nf_diff_alike_1 : List (Nat × Nf) := []
def fp_diff_alike_1 : List (Nat × List Nat) := []
def an_diff_alike_1 : Nat → Ann
  | 0 => ⟨[2, 3], [2, 3], [], [], [2, 3]⟩
  | 1 => ⟨[4], [], [], [], []⟩
  | _ => ⟨[], [], [], [], []⟩
noncomputable abbrev x_diff_alike_1 : Cx := ⟨Tryd.prog, ⟨id, nf_diff_alike_1, fp_diff_alike_1⟩, an_diff_alike_1⟩
theorem start_diff_alike_1 {args : List PV} {r : PV} (ha : args.length = 2) (h : awp x_diff_alike_1 c_diff_alike_1 (bodyR Tryd.prog [.tmp 4] r []) (initSt args [])) : PC Tryd.prog 92 args r :=
  pc_of_awp (X := x_diff_alike_1) mixed Tryd.func92 (c := c_diff_alike_1) (by kernel_rfl) (by kernel_rfl) (rs := [.tmp 4]) (by kernel_rfl) (by kernel_rfl) (by rw [ha]; decide) h
noncomputable def c_slices_EqualFunc_api_Attr_diff_alike_1 : Code := (Tryd.f93.body).getD .skip
def nf_slices_EqualFunc_api_Attr_diff_alike_1 : List (Nat × Nf) := []
def fp_slices_EqualFunc_api_Attr_diff_alike_1 : List (Nat × List Nat) := []
def an_slices_EqualFunc_api_Attr_diff_alike_1 : Nat → Ann
  | 0 => ⟨[0, 1, 2], [], [], [], []⟩
  | 1 => ⟨[0, 1, 2, 14], [], [], [], []⟩
  | 2 => ⟨[6], [], [], [], []⟩
  | 3 => ⟨[1, 2, 15, 16, 17], [], [], [], []⟩
  | 4 => ⟨[1, 2, 15, 16, 17, 18], [], [], [], []⟩
  | 5 => ⟨[1, 2, 7, 8, 15, 16, 17], [8], [], [], [8]⟩
  | 6 => ⟨[1, 2, 8, 9, 15, 16, 17], [8, 9], [], [], [8, 9]⟩
  | 7 => ⟨[1, 2, 15, 16, 17, 30], [], [], [], []⟩
  | 8 => ⟨[6], [], [], [], []⟩
  | 9 => ⟨[1, 2, 15, 16, 17], [], [], [], []⟩
  | 10 => ⟨[6], [], [], [], []⟩
  | _ => ⟨[], [], [], [], []⟩
noncomputable abbrev x_slices_EqualFunc_api_Attr_diff_alike_1 : Cx := ⟨Tryd.prog, ⟨id, nf_slices_EqualFunc_api_Attr_diff_alike_1, fp_slices_EqualFunc_api_Attr_diff_alike_1⟩, an_slices_EqualFunc_api_Attr_diff_alike_1⟩
theorem start_slices_EqualFunc_api_Attr_diff_alike_1 {args : List PV} {r : PV} (ha : args.length = 3) (h : awp x_slices_EqualFunc_api_Attr_diff_alike_1 c_slices_EqualFunc_api_Attr_diff_alike_1 (bodyR Tryd.prog [.tmp 6] r []) (initSt args [])) : PC Tryd.prog 93 args r :=
  pc_of_awp (X := x_slices_EqualFunc_api_Attr_diff_alike_1) mixed Tryd.func93 (c := c_slices_EqualFunc_api_Attr_diff_alike_1) (by kernel_rfl) (by kernel_rfl) (rs := [.tmp 6]) (by kernel_rfl) (by kernel_rfl) (by rw [ha]; decide) h
noncomputable def c_diff_alike : Code := (Tryd.f66.body).getD .skip
def nf_diff_alike : List (Nat × Nf) := []
def fp_diff_alike : List (Nat × List Nat) := []
def an_diff_alike : Nat → Ann
  | 0 => ⟨[2, 3], [2, 3], [], [], [2, 3]⟩
  | 1 => ⟨[2, 3, 5], [2, 3], [], [], [2, 3]⟩
  | 2 => ⟨[4], [], [], [], []⟩
  | _ => ⟨[], [], [], [], []⟩
noncomputable abbrev x_diff_alike : Cx := ⟨Tryd.prog, ⟨id, nf_diff_alike, fp_diff_alike⟩, an_diff_alike⟩
theorem start_diff_alike {args : List PV} {r : PV} (ha : args.length = 2) (h : awp x_diff_alike c_diff_alike (bodyR Tryd.prog [.tmp 4] r []) (initSt args [])) : PC Tryd.prog 66 args r :=
  pc_of_awp (X := x_diff_alike) mixed Tryd.func66 (c := c_diff_alike) (by kernel_rfl) (by kernel_rfl) (rs := [.tmp 4]) (by kernel_rfl) (by kernel_rfl) (by rw [ha]; decide) h
noncomputable def c_slices_Equal_api_Attr : Code := (Tryd.f61.body).getD .skip
def nf_slices_Equal_api_Attr : List (Nat × Nf) := []
def fp_slices_Equal_api_Attr : List (Nat × List Nat) := []
def an_slices_Equal_api_Attr : Nat → Ann
  | 0 => ⟨[0, 1], [], [], [], []⟩
  | 1 => ⟨[0, 1, 10], [], [], [], []⟩
  | 2 => ⟨[4], [], [], [], []⟩
  | 3 => ⟨[0, 1, 12, 13], [], [], [], []⟩
  | 4 => ⟨[0, 1, 12, 13, 14], [], [], [], []⟩
  | 5 => ⟨[0, 1, 5, 12, 13], [], [], [], []⟩
  | 6 => ⟨[0, 1, 12, 13, 24], [], [], [], []⟩
  | 7 => ⟨[4], [], [], [], []⟩
  | 8 => ⟨[0, 1, 12, 13], [], [], [], []⟩
  | 9 => ⟨[4], [], [], [], []⟩
  | _ => ⟨[], [], [], [], []⟩
noncomputable abbrev x_slices_Equal_api_Attr : Cx := ⟨Tryd.prog, ⟨id, nf_slices_Equal_api_Attr, fp_slices_Equal_api_Attr⟩, an_slices_Equal_api_Attr⟩
theorem start_slices_Equal_api_Attr {args : List PV} {r : PV} (ha : args.length = 2) (h : awp x_slices_Equal_api_Attr c_slices_Equal_api_Attr (bodyR Tryd.prog [.tmp 4] r []) (initSt args [])) : PC Tryd.prog 61 args r :=
  pc_of_awp (X := x_slices_Equal_api_Attr) mixed Tryd.func61 (c := c_slices_Equal_api_Attr) (by kernel_rfl) (by kernel_rfl) (rs := [.tmp 4]) (by kernel_rfl) (by kernel_rfl) (by rw [ha]; decide) h
noncomputable def c_slices_EqualFunc_api_Node_node_Same : Code := (Tryd.f62.body).getD .skip
def nf_slices_EqualFunc_api_Node_node_Same : List (Nat × Nf) := []
def fp_slices_EqualFunc_api_Node_node_Same : List (Nat × List Nat) := []
def an_slices_EqualFunc_api_Node_node_Same : Nat → Ann
  | 0 => ⟨[0, 1, 2], [], [], [], []⟩
  | 1 => ⟨[0, 1, 2, 14], [], [], [], []⟩
  | 2 => ⟨[6], [], [], [], []⟩
  | 3 => ⟨[1, 2, 15, 16, 17], [], [], [], []⟩
  | 4 => ⟨[1, 2, 15, 16, 17, 18], [], [], [], []⟩
  | 5 => ⟨[1, 2, 7, 8, 15, 16, 17], [8], [], [], [8]⟩
  | 6 => ⟨[1, 2, 8, 9, 15, 16, 17], [8, 9], [], [], [8, 9]⟩
  | 7 => ⟨[1, 2, 15, 16, 17, 30], [], [], [], []⟩
  | 8 => ⟨[6], [], [], [], []⟩
  | 9 => ⟨[1, 2, 15, 16, 17], [], [], [], []⟩
  | 10 => ⟨[6], [], [], [], []⟩
  | _ => ⟨[], [], [], [], []⟩
noncomputable abbrev x_slices_EqualFunc_api_Node_node_Same : Cx := ⟨Tryd.prog, ⟨id, nf_slices_EqualFunc_api_Node_node_Same, fp_slices_EqualFunc_api_Node_node_Same⟩, an_slices_EqualFunc_api_Node_node_Same⟩
theorem start_slices_EqualFunc_api_Node_node_Same {args : List PV} {r : PV} (ha : args.length = 3) (h : awp x_slices_EqualFunc_api_Node_node_Same c_slices_EqualFunc_api_Node_node_Same (bodyR Tryd.prog [.tmp 6] r []) (initSt args [])) : PC Tryd.prog 62 args r :=
  pc_of_awp (X := x_slices_EqualFunc_api_Node_node_Same) mixed Tryd.func62 (c := c_slices_EqualFunc_api_Node_node_Same) (by kernel_rfl) (by kernel_rfl) (rs := [.tmp 6]) (by kernel_rfl) (by kernel_rfl) (by rw [ha]; decide) h
noncomputable def c_node_Same : Code := (Tryd.f17.body).getD .skip
def nf_node_Same : List (Nat × Nf) := []
def fp_node_Same : List (Nat × List Nat) := []
def an_node_Same : Nat → Ann
  | 0 => ⟨[2, 3], [2, 3], [], [], [2, 3]⟩
  | 1 => ⟨[4], [], [], [], []⟩
  | _ => ⟨[], [], [], [], []⟩
noncomputable abbrev x_node_Same : Cx := ⟨Tryd.prog, ⟨id, nf_node_Same, fp_node_Same⟩, an_node_Same⟩
theorem start_node_Same {args : List PV} {r : PV} (ha : args.length = 2) (h : awp x_node_Same c_node_Same (bodyR Tryd.prog [.tmp 4] r []) (initSt args [])) : PC Tryd.prog 17 args r :=
  pc_of_awp (X := x_node_Same) mixed Tryd.func17 (c := c_node_Same) (by kernel_rfl) (by kernel_rfl) (rs := [.tmp 4]) (by kernel_rfl) (by kernel_rfl) (by rw [ha]; decide) h
noncomputable def c_diff_change_set_xx : Code := (Tryd.f94.body).getD .skip
def nf_diff_change_set_xx : List (Nat × Nf) := []
def fp_diff_change_set_xx : List (Nat × List Nat) := [(39, [1000]), (40, [1000]), (41, [1000]), (43, [1000]), (44, [1000]), (45, [1000]), (47, [3]), (48, [3]), (50, [1000]), (51, [1000]), (52, [1000]), (53, [1000]), (55, []), (56, []), (57, []), (60, [59, 1002]), (61, [1000]), (62, [1000])]
def an_diff_change_set_xx : Nat → Ann
  | 0 => ⟨[0, 8, 9, 10], [1000, 1001, 1002], [], [], [1000, 1001, 1002]⟩
  | 1 => ⟨[0, 8, 9, 10, 11], [1000, 1001, 1002], [], [], [1000, 1001, 1002]⟩
  | 2 => ⟨[0, 2, 3, 8, 9, 10], [3, 1000, 1001, 1002], [], [], [3, 1000, 1001, 1002]⟩
  | 3 => ⟨[0, 2, 3, 8, 9, 10, 36], [3, 1000, 1001, 1002], [], [], [3, 1000, 1001, 1002]⟩
  | 4 => ⟨[0, 8, 9, 10], [1000, 1001, 1002], [], [], [1000, 1001, 1002]⟩
  | 5 => ⟨[0, 8, 9, 10], [1000, 1001, 1002], [], [], [1000, 1001, 1002]⟩
  | _ => ⟨[], [], [], [], []⟩
noncomputable abbrev x_diff_change_set_xx : Cx := ⟨Tryd.prog, ⟨(fun d => if d = 58 then 0 else d), nf_diff_change_set_xx, fp_diff_change_set_xx⟩, an_diff_change_set_xx⟩
theorem start_diff_change_set_xx {args : List PV} {es es' : List Ent} {r : PV} (ha : args.length = 1) (hl : es'.length = es.length) (he : (es'.all fun e => e.extOk es.length) = true) (h : awp x_diff_change_set_xx c_diff_change_set_xx (bodyR Tryd.prog [] r es') (initSt args es)) : BC Tryd.prog 94 args es r es' :=
  bc_of_awp (X := x_diff_change_set_xx) mixed Tryd.func94 (c := c_diff_change_set_xx) (by kernel_rfl) (by kernel_rfl) (rs := []) (by kernel_rfl) (by kernel_rfl) (by rw [ha]; decide) hl (fun e h => List.all_eq_true.1 he e h) h
noncomputable def c_diff_of : Code := (Tryd.f67.body).getD .skip
def nf_diff_of : List (Nat × Nf) := []
def fp_diff_of : List (Nat × List Nat) := [(151, [12]), (152, [12]), (153, [12]), (155, [12]), (156, [12]), (157, [12]), (159, [158, 394]), (160, [12]), (161, [12])]
def an_diff_of : Nat → Ann
  | 0 => ⟨[2, 3], [2, 3], [], [], [2, 3]⟩
  | 1 => ⟨[5], [12, 394, 399], [.thawV 12 10 394 1, .thawV 12 15 399 6], [], [12, 394, 399]⟩
  | 2 => ⟨[5], [12, 394, 399], [], [], [12, 394, 399]⟩
  | 3 => ⟨[5, 6, 7], [12, 394, 399], [], [], [12, 394, 399]⟩
  | 4 => ⟨[5, 6, 7], [12, 394, 399], [], [], [12, 394, 399]⟩
  | 5 => ⟨[5, 6, 7, 54], [12, 394, 399], [], [], [12, 394, 399]⟩
  | 6 => ⟨[5, 6, 7], [12, 394, 399], [], [], [12, 394, 399]⟩
  | 7 => ⟨[5, 6, 7, 8], [12, 394, 399], [], [], [12, 394, 399]⟩
  | 8 => ⟨[5, 6, 7, 8, 92], [12, 394, 399], [], [], [12, 394, 399]⟩
  | 9 => ⟨[5, 6, 7, 8], [12, 394, 399], [], [], [12, 394, 399]⟩
  | 10 => ⟨[5, 6, 7], [12, 394, 399], [], [], [12, 394, 399]⟩
  | 11 => ⟨[5, 6, 7, 148], [12, 394, 399], [], [], [12, 394, 399]⟩
  | 12 => ⟨[5, 6, 7], [12, 394, 399], [], [], [12, 394, 399]⟩
  | 13 => ⟨[5, 6, 7], [12, 394, 399], [], [], [12, 394, 399]⟩
  | 14 => ⟨[5], [12, 394, 399], [], [], [12, 394, 399]⟩
  | 15 => ⟨[4], [12, 399], [.nrm 4 [none, none, none, none, none, none, none, none, none, none, some 1, none, none, none, none, none]], [], [12, 399]⟩
  | _ => ⟨[], [], [], [], []⟩
noncomputable abbrev x_diff_of : Cx := ⟨Tryd.prog, ⟨id, nf_diff_of, fp_diff_of⟩, an_diff_of⟩
theorem start_diff_of {args : List PV} {r : PV} (ha : args.length = 2) (h : awp x_diff_of c_diff_of (bodyR Tryd.prog [.tmp 4] r []) (initSt args [])) : PC Tryd.prog 67 args r :=
  pc_of_awp (X := x_diff_of) mixed Tryd.func67 (c := c_diff_of) (by kernel_rfl) (by kernel_rfl) (rs := [.tmp 4]) (by kernel_rfl) (by kernel_rfl) (by rw [ha]; decide) h
noncomputable def c_diff_Steps : Code := (Tryd.f20.body).getD .skip
def nf_diff_Steps : List (Nat × Nf) := []
def fp_diff_Steps : List (Nat × List Nat) := []
def an_diff_Steps : Nat → Ann
  | 0 => ⟨[2, 3], [2, 3], [], [], [2, 3]⟩
  | 1 => ⟨[2, 3, 23], [2, 3], [], [], [2, 3]⟩
  | 2 => ⟨[4, 5], [], [.nrm 4 [some 6]], [], []⟩
  | 3 => ⟨[6], [26, 526], [], [.ren 526 497], [26, 497, 526]⟩
  | 4 => ⟨[6, 36], [26, 497], [], [], [26, 497]⟩
  | 5 => ⟨[4, 5], [497], [], [.ren 497 4], [4, 497]⟩
  | 6 => ⟨[6, 7], [26, 497], [], [], [26, 497]⟩
  | 7 => ⟨[6, 7, 8], [26, 497], [], [], [26, 497]⟩
  | 8 => ⟨[6, 7, 8, 9], [26, 497], [], [], [26, 497]⟩
  | 9 => ⟨[4, 5], [497], [], [.ren 497 4], [4, 497]⟩
  | _ => ⟨[], [], [], [], []⟩
noncomputable abbrev x_diff_Steps : Cx := ⟨Tryd.prog, ⟨id, nf_diff_Steps, fp_diff_Steps⟩, an_diff_Steps⟩
theorem start_diff_Steps {args : List PV} {r : PV} (ha : args.length = 2) (h : awp x_diff_Steps c_diff_Steps (bodyR Tryd.prog [.tmp 4, .tmp 5] r []) (initSt args [])) : PC Tryd.prog 20 args r :=
  pc_of_awp (X := x_diff_Steps) mixed Tryd.func20 (c := c_diff_Steps) (by kernel_rfl) (by kernel_rfl) (rs := [.tmp 4, .tmp 5]) (by kernel_rfl) (by kernel_rfl) (by rw [ha]; decide) h
noncomputable def c_diptychlaw18_shown : Code := (Tryd.f18.body).getD .skip
def nf_diptychlaw18_shown : List (Nat × Nf) := [(5, [none, none, some 1, some 2, some 5]), (7, [none, none, some 1, some 2, some 5]), (8, [none, none, some 1, some 2, some 5]), (10, [none, none, some 1, some 2, some 5]), (11, [none, none, some 1, some 2, some 5]), (13, [none, none, some 1, some 2, some 5]), (14, [none, none, some 1, some 2, some 5]), (16, [none, none, some 1, some 2, some 5])]
def fp_diptychlaw18_shown : List (Nat × List Nat) := []
def an_diptychlaw18_shown : Nat → Ann
  | 0 => ⟨[], [], [], [], []⟩
  | 1 => ⟨[1], [1], [], [], [1]⟩
  | 2 => ⟨[1, 2], [1, 2], [], [], [1, 2]⟩
  | 3 => ⟨[3, 4], [], [], [], []⟩
  | 4 => ⟨[0], [], [], [], []⟩
  | _ => ⟨[], [], [], [], []⟩
noncomputable abbrev x_diptychlaw18_shown : Cx := ⟨Tryd.prog, ⟨id, nf_diptychlaw18_shown, fp_diptychlaw18_shown⟩, an_diptychlaw18_shown⟩
theorem start_diptychlaw18_shown {args : List PV} {r : PV} (ha : args.length = 0) (h : awp x_diptychlaw18_shown c_diptychlaw18_shown (bodyR Tryd.prog [.tmp 0] r []) (initSt args [])) : PC Tryd.prog 18 args r :=
  pc_of_awp (X := x_diptychlaw18_shown) mixed Tryd.func18 (c := c_diptychlaw18_shown) (by kernel_rfl) (by kernel_rfl) (rs := [.tmp 0]) (by kernel_rfl) (by kernel_rfl) (by rw [ha]; decide) h
noncomputable def c_diptychlaw18_pick : Code := (Tryd.f63.body).getD .skip
def nf_diptychlaw18_pick : List (Nat × Nf) := []
def fp_diptychlaw18_pick : List (Nat × List Nat) := []
def an_diptychlaw18_pick : Nat → Ann
  | 0 => ⟨[0, 1], [], [], [], []⟩
  | 1 => ⟨[0, 1, 6], [], [], [], []⟩
  | 2 => ⟨[0, 1], [], [], [], []⟩
  | 3 => ⟨[4], [], [], [], []⟩
  | _ => ⟨[], [], [], [], []⟩
noncomputable abbrev x_diptychlaw18_pick : Cx := ⟨Tryd.prog, ⟨id, nf_diptychlaw18_pick, fp_diptychlaw18_pick⟩, an_diptychlaw18_pick⟩
theorem start_diptychlaw18_pick {args : List PV} {r : PV} (ha : args.length = 2) (h : awp x_diptychlaw18_pick c_diptychlaw18_pick (bodyR Tryd.prog [.tmp 4] r []) (initSt args [])) : PC Tryd.prog 63 args r :=
  pc_of_awp (X := x_diptychlaw18_pick) mixed Tryd.func63 (c := c_diptychlaw18_pick) (by kernel_rfl) (by kernel_rfl) (rs := [.tmp 4]) (by kernel_rfl) (by kernel_rfl) (by rw [ha]; decide) h
noncomputable def c_diptychref1_sameNames : Code := (Tryd.f111.body).getD .skip
def nf_diptychref1_sameNames : List (Nat × Nf) := []
def fp_diptychref1_sameNames : List (Nat × List Nat) := []
def an_diptychref1_sameNames : Nat → Ann
  | 0 => ⟨[0, 1], [], [], [], []⟩
  | 1 => ⟨[0, 1, 10], [], [], [], []⟩
  | 2 => ⟨[4], [], [], [], []⟩
  | 3 => ⟨[0, 1, 5], [], [], [], []⟩
  | 4 => ⟨[0, 1, 5, 14], [], [], [], []⟩
  | 5 => ⟨[0, 1, 5], [], [], [], []⟩
  | 6 => ⟨[0, 1, 5, 25], [], [], [], []⟩
  | 7 => ⟨[4], [], [], [], []⟩
  | 8 => ⟨[4], [], [], [], []⟩
  | _ => ⟨[], [], [], [], []⟩
noncomputable abbrev x_diptychref1_sameNames : Cx := ⟨Tryd.prog, ⟨id, nf_diptychref1_sameNames, fp_diptychref1_sameNames⟩, an_diptychref1_sameNames⟩
theorem start_diptychref1_sameNames {args : List PV} {r : PV} (ha : args.length = 2) (h : awp x_diptychref1_sameNames c_diptychref1_sameNames (bodyR Tryd.prog [.tmp 4] r []) (initSt args [])) : PC Tryd.prog 111 args r :=
  pc_of_awp (X := x_diptychref1_sameNames) mixed Tryd.func111 (c := c_diptychref1_sameNames) (by kernel_rfl) (by kernel_rfl) (rs := [.tmp 4]) (by kernel_rfl) (by kernel_rfl) (by rw [ha]; decide) h
noncomputable def c_diptychref1_Join : Code := (Tryd.f81.body).getD .skip
def nf_diptychref1_Join : List (Nat × Nf) := []
def fp_diptychref1_Join : List (Nat × List Nat) := [(65, [3]), (66, [3, 62]), (67, [5]), (69, [62, 68])]
def an_diptychref1_Join : Nat → Ann
  | 0 => ⟨[0], [], [], [], []⟩
  | 1 => ⟨[0, 3], [3], [.thaw 3 3 5], [], [3]⟩
  | 2 => ⟨[0, 3, 4], [3], [], [], [3]⟩
  | 3 => ⟨[0, 3, 4, 10], [3], [], [], [3]⟩
  | 4 => ⟨[0, 3, 4], [3], [], [], [3]⟩
  | 5 => ⟨[0, 3, 4, 5], [3, 5], [], [], [3, 5]⟩
  | 6 => ⟨[0, 3, 4, 5, 6], [3, 5], [], [], [3, 5]⟩
  | 7 => ⟨[0, 3, 4, 5, 6, 27], [3, 5], [], [], [3, 5]⟩
  | 8 => ⟨[0, 3, 4, 5, 6, 52], [3, 5], [], [], [3, 5]⟩
  | 9 => ⟨[0, 3, 4, 5, 6], [3, 5], [], [], [3, 5]⟩
  | 10 => ⟨[0, 3, 4], [62], [], [.ren 62 3], [3, 62]⟩
  | 11 => ⟨[0, 3, 4], [3], [], [], [3]⟩
  | 12 => ⟨[2], [3], [], [.ren 3 2], [2, 3]⟩
  | _ => ⟨[], [], [], [], []⟩
noncomputable abbrev x_diptychref1_Join : Cx := ⟨Tryd.prog, ⟨id, nf_diptychref1_Join, fp_diptychref1_Join⟩, an_diptychref1_Join⟩
theorem start_diptychref1_Join {args : List PV} {r : PV} (ha : args.length = 1) (h : awp x_diptychref1_Join c_diptychref1_Join (bodyR Tryd.prog [.tmp 2] r []) (initSt args [])) : PC Tryd.prog 81 args r :=
  pc_of_awp (X := x_diptychref1_Join) mixed Tryd.func81 (c := c_diptychref1_Join) (by kernel_rfl) (by kernel_rfl) (rs := [.tmp 2]) (by kernel_rfl) (by kernel_rfl) (by rw [ha]; decide) h
noncomputable def c_diptychlaw18_para : Code := (Tryd.f64.body).getD .skip
def nf_diptychlaw18_para : List (Nat × Nf) := [(29, [none, none, some 1, some 2, none])]
def fp_diptychlaw18_para : List (Nat × List Nat) := []
def an_diptychlaw18_para : Nat → Ann
  | 0 => ⟨[1, 2, 4], [2, 4], [.nrm 4 [none, none, some 1, some 2, some 5]], [], [2, 4]⟩
  | 1 => ⟨[1, 2, 4, 5], [2, 4, 8], [], [.ren 8 5], [2, 4, 5, 8]⟩
  | 2 => ⟨[1, 2, 4, 5, 6], [2, 4, 5, 9], [], [.ren 9 6], [2, 4, 5, 6, 9]⟩
  | 3 => ⟨[1, 4, 7], [4, 25], [], [.ren 25 7], [4, 7, 25]⟩
  | 4 => ⟨[4], [4], [], [], [4]⟩
  | _ => ⟨[], [], [], [], []⟩
noncomputable abbrev x_diptychlaw18_para : Cx := ⟨Tryd.prog, ⟨id, nf_diptychlaw18_para, fp_diptychlaw18_para⟩, an_diptychlaw18_para⟩
theorem start_diptychlaw18_para {args : List PV} {r : PV} (ha : args.length = 2) (h : awp x_diptychlaw18_para c_diptychlaw18_para (bodyR Tryd.prog [.cell 4 28] r []) (initSt args [])) : PC Tryd.prog 64 args r :=
  pc_of_awp (X := x_diptychlaw18_para) mixed Tryd.func64 (c := c_diptychlaw18_para) (by kernel_rfl) (by kernel_rfl) (rs := [.cell 4 28]) (by kernel_rfl) (by kernel_rfl) (by rw [ha]; decide) h
noncomputable def c_diptychref1_Depth : Code := (Tryd.f65.body).getD .skip
def nf_diptychref1_Depth : List (Nat × Nf) := []
def fp_diptychref1_Depth : List (Nat × List Nat) := []
def an_diptychref1_Depth : Nat → Ann
  | 0 => ⟨[1], [1], [], [], [1]⟩
  | 1 => ⟨[1, 7], [1], [], [], [1]⟩
  | 2 => ⟨[2], [], [], [], []⟩
  | 3 => ⟨[1, 3], [1], [], [], [1]⟩
  | 4 => ⟨[1, 3, 4], [1], [], [], [1]⟩
  | 5 => ⟨[1, 3, 4, 12], [1], [], [], [1]⟩
  | 6 => ⟨[1, 3, 4], [1], [], [], [1]⟩
  | 7 => ⟨[1, 3, 4], [1], [], [], [1]⟩
  | 8 => ⟨[2], [], [], [], []⟩
  | _ => ⟨[], [], [], [], []⟩
noncomputable abbrev x_diptychref1_Depth : Cx := ⟨Tryd.prog, ⟨id, nf_diptychref1_Depth, fp_diptychref1_Depth⟩, an_diptychref1_Depth⟩
theorem start_diptychref1_Depth {args : List PV} {r : PV} (ha : args.length = 1) (h : awp x_diptychref1_Depth c_diptychref1_Depth (bodyR Tryd.prog [.tmp 2] r []) (initSt args [])) : PC Tryd.prog 65 args r :=
  pc_of_awp (X := x_diptychref1_Depth) mixed Tryd.func65 (c := c_diptychref1_Depth) (by kernel_rfl) (by kernel_rfl) (rs := [.tmp 2]) (by kernel_rfl) (by kernel_rfl) (by rw [ha]; decide) h
noncomputable def c_diptychlaw18_doc : Code := (Tryd.f19.body).getD .skip
def nf_diptychlaw18_doc : List (Nat × Nf) := [(14, [none, none, some 1, some 2, none]), (34, [none, none, none, some 2, some 5]), (62, [none, none, some 1, none, none]), (93, [none, none, some 1, some 2, none]), (171, [none, none, none, none, some 5]), (173, [none, none, some 1, some 2, some 5]), (177, [none, none, none, none, some 5])]
def fp_diptychlaw18_doc : List (Nat × List Nat) := [(115, [12]), (116, [12]), (117, [114]), (118, [11]), (120, [114, 119]), (121, [12]), (123, [4]), (124, [4]), (126, [332]), (127, [122, 332]), (128, [12]), (130, [122, 129]), (131, [4]), (152, [11]), (153, [11]), (154, [4]), (155, [4]), (157, [332]), (158, [332]), (160, [159, 381]), (161, [11]), (500121, [12, 114]), (500131, [4, 122])]
def an_diptychlaw18_doc : Nat → Ann
  | 0 => ⟨[0, 2], [2], [.nrm 2 [none, none, some 1, some 2, some 5]], [], [2]⟩
  | 1 => ⟨[0, 2, 3], [2, 13], [], [.ren 13 3], [2, 3, 13]⟩
  | 2 => ⟨[0, 2, 3, 4], [2, 3, 4, 332], [.thawV 4 4 332 5], [], [2, 3, 4, 332]⟩
  | 3 => ⟨[0, 2, 3, 4, 5], [2, 3, 4, 5, 332], [.thaw 5 5 5], [], [2, 3, 4, 5, 332]⟩
  | 4 => ⟨[0, 2, 3, 4, 5, 6], [2, 3, 4, 5, 332], [], [], [2, 3, 4, 5, 332]⟩
  | 5 => ⟨[0, 2, 3, 4, 5, 6, 22], [2, 3, 4, 5, 332], [], [], [2, 3, 4, 5, 332]⟩
  | 6 => ⟨[0, 2, 3, 4, 5, 6], [2, 3, 4, 5, 332], [], [], [2, 3, 4, 5, 332]⟩
  | 7 => ⟨[0, 2, 3, 4, 5, 6, 7], [2, 3, 4, 5, 7, 332, 351], [.thawV 7 2 351 1], [], [2, 3, 4, 5, 7, 332, 351]⟩
  | 8 => ⟨[0, 2, 3, 4, 5, 6, 7, 42], [2, 3, 4, 5, 7, 332, 351], [], [], [2, 3, 4, 5, 7, 332, 351]⟩
  | 9 => ⟨[0, 2, 3, 4, 5, 6, 7], [2, 3, 4, 5, 7, 332, 351], [], [], [2, 3, 4, 5, 7, 332, 351]⟩
  | 10 => ⟨[0, 2, 3, 4, 5, 6, 7, 55], [2, 3, 4, 5, 7, 332, 351], [], [], [2, 3, 4, 5, 7, 332, 351]⟩
  | 11 => ⟨[0, 2, 3, 4, 5, 6, 7], [2, 3, 4, 5, 7, 332, 351], [], [], [2, 3, 4, 5, 7, 332, 351]⟩
  | 12 => ⟨[0, 2, 3, 4, 5, 6], [2, 3, 4, 5, 332], [], [], [2, 3, 4, 5, 332]⟩
  | 13 => ⟨[0, 2, 3, 4, 5, 6, 8], [2, 3, 4, 5, 332], [], [], [2, 3, 4, 5, 332]⟩
  | 14 => ⟨[0, 2, 3, 4, 5, 6, 8, 72], [2, 3, 4, 5, 332], [], [], [2, 3, 4, 5, 332]⟩
  | 15 => ⟨[0, 2, 3, 4, 6, 8, 9], [2, 3, 4, 9, 332], [], [], [2, 3, 4, 9, 332]⟩
  | 16 => ⟨[0, 2, 3, 4, 5, 6, 8, 9], [2, 3, 4, 5, 9, 332], [.thaw 5 5 5], [], [2, 3, 4, 5, 9, 332]⟩
  | 17 => ⟨[0, 2, 3, 4, 5, 6, 8, 9, 10], [2, 3, 4, 5, 9, 332], [], [], [2, 3, 4, 5, 9, 332]⟩
  | 18 => ⟨[0, 2, 3, 4, 5, 6, 8, 9, 10, 84], [2, 3, 4, 5, 9, 332], [], [], [2, 3, 4, 5, 9, 332]⟩
  | 19 => ⟨[0, 2, 3, 4, 5, 6], [2, 3, 4, 5, 332], [], [], [2, 3, 4, 5, 332]⟩
  | 20 => ⟨[0, 2, 3, 4, 5, 6, 8, 10, 11], [2, 3, 4, 5, 11, 92, 332], [], [.ren 92 381], [2, 3, 4, 5, 11, 92, 332, 381]⟩
  | 21 => ⟨[0, 2, 3, 4, 5, 6, 10, 11, 108], [2, 3, 4, 5, 11, 332, 381], [], [], [2, 3, 4, 5, 11, 332, 381]⟩
  | 22 => ⟨[0, 2, 3, 4, 5, 6, 10, 11, 12], [2, 3, 4, 5, 11, 12, 332, 381], [], [], [2, 3, 4, 5, 11, 12, 332, 381]⟩
  | 23 => ⟨[0, 2, 3, 4, 5, 6, 10, 12], [2, 3, 4, 5, 12, 332], [.nrm 12 [none, none, none, none, some 5]], [], [2, 3, 4, 5, 12, 332]⟩
  | 24 => ⟨[0, 2, 3, 4, 5, 6], [2, 3, 4, 5, 122], [], [.ren 122 332], [2, 3, 4, 5, 122, 332]⟩
  | 25 => ⟨[0, 2, 3, 4, 5, 6, 10, 11, 151], [2, 3, 4, 5, 11, 332, 381], [], [], [2, 3, 4, 5, 11, 332, 381]⟩
  | 26 => ⟨[0, 2, 3, 4, 5, 6, 10, 11], [2, 3, 4, 5, 11, 332, 381], [], [], [2, 3, 4, 5, 11, 332, 381]⟩
  | 27 => ⟨[0, 2, 3, 4, 5, 6, 11], [2, 3, 4, 5, 11, 162, 381], [], [.ren 162 332], [2, 3, 4, 5, 11, 162, 332, 381]⟩
  | 28 => ⟨[0, 2, 3, 4, 5, 6], [2, 3, 4, 5, 332], [], [], [2, 3, 4, 5, 332]⟩
  | 29 => ⟨[2], [2], [], [], [2]⟩
  | _ => ⟨[], [], [], [], []⟩
noncomputable abbrev x_diptychlaw18_doc : Cx := ⟨Tryd.prog, ⟨id, nf_diptychlaw18_doc, fp_diptychlaw18_doc⟩, an_diptychlaw18_doc⟩
theorem start_diptychlaw18_doc {args : List PV} {r : PV} (ha : args.length = 1) (h : awp x_diptychlaw18_doc c_diptychlaw18_doc (bodyR Tryd.prog [.cell 2 28] r []) (initSt args [])) : PC Tryd.prog 19 args r :=
  pc_of_awp (X := x_diptychlaw18_doc) mixed Tryd.func19 (c := c_diptychlaw18_doc) (by kernel_rfl) (by kernel_rfl) (rs := [.cell 2 28]) (by kernel_rfl) (by kernel_rfl) (by rw [ha]; decide) h
noncomputable def c_maps_Grows : Code := (Tryd.f21.body).getD .skip
def nf_maps_Grows : List (Nat × Nf) := []
def fp_maps_Grows : List (Nat × List Nat) := []
def an_maps_Grows : Nat → Ann
  | 0 => ⟨[0], [], [], [], []⟩
  | 1 => ⟨[0, 3], [], [], [], []⟩
  | 2 => ⟨[3, 6, 7, 8], [], [], [], []⟩
  | 3 => ⟨[3, 6, 7, 8, 9], [], [], [], []⟩
  | 4 => ⟨[3, 5, 6, 7, 8], [5], [], [], [5]⟩
  | 5 => ⟨[3, 6, 7, 8], [], [], [], []⟩
  | 6 => ⟨[3, 6, 7, 8], [], [], [], []⟩
  | 7 => ⟨[2], [], [], [], []⟩
  | _ => ⟨[], [], [], [], []⟩
noncomputable abbrev x_maps_Grows : Cx := ⟨Tryd.prog, ⟨id, nf_maps_Grows, fp_maps_Grows⟩, an_maps_Grows⟩
theorem start_maps_Grows {args : List PV} {r : PV} (ha : args.length = 1) (h : awp x_maps_Grows c_maps_Grows (bodyR Tryd.prog [.tmp 2] r []) (initSt args [])) : PC Tryd.prog 21 args r :=
  pc_of_awp (X := x_maps_Grows) mixed Tryd.func21 (c := c_maps_Grows) (by kernel_rfl) (by kernel_rfl) (rs := [.tmp 2]) (by kernel_rfl) (by kernel_rfl) (by rw [ha]; decide) h
noncomputable def c_step_MapOf : Code := (Tryd.f22.body).getD .skip
def nf_step_MapOf : List (Nat × Nf) := []
def fp_step_MapOf : List (Nat × List Nat) := []
def an_step_MapOf : Nat → Ann
  | 0 => ⟨[1], [1], [], [], [1]⟩
  | 1 => ⟨[1, 3], [1], [], [], [1]⟩
  | 2 => ⟨[1, 3, 20], [1], [], [], [1]⟩
  | 3 => ⟨[2], [], [.nrm 2 [some 3]], [], []⟩
  | 4 => ⟨[2], [30], [], [.ren 30 2], [2, 30]⟩
  | _ => ⟨[], [], [], [], []⟩
noncomputable abbrev x_step_MapOf : Cx := ⟨Tryd.prog, ⟨id, nf_step_MapOf, fp_step_MapOf⟩, an_step_MapOf⟩
theorem start_step_MapOf {args : List PV} {r : PV} (ha : args.length = 1) (h : awp x_step_MapOf c_step_MapOf (bodyR Tryd.prog [.tmp 2] r []) (initSt args [])) : PC Tryd.prog 22 args r :=
  pc_of_awp (X := x_step_MapOf) mixed Tryd.func22 (c := c_step_MapOf) (by kernel_rfl) (by kernel_rfl) (rs := [.tmp 2]) (by kernel_rfl) (by kernel_rfl) (by rw [ha]; decide) h
noncomputable def c_diptychlaw18_DiffSizes : Code := (Tryd.f4.body).getD .skip
def nf_diptychlaw18_DiffSizes : List (Nat × Nf) := []
def fp_diptychlaw18_DiffSizes : List (Nat × List Nat) := []
def an_diptychlaw18_DiffSizes : Nat → Ann
  | 0 => ⟨[0, 1], [], [], [], []⟩
  | 1 => ⟨[0, 1, 5], [], [], [], []⟩
  | 2 => ⟨[0, 1, 19], [], [], [], []⟩
  | 3 => ⟨[4], [], [], [], []⟩
  | 4 => ⟨[1, 6], [6], [], [], [6]⟩
  | 5 => ⟨[6, 7], [6, 7], [], [], [6, 7]⟩
  | 6 => ⟨[6, 7, 8, 9], [6, 7], [], [], [6, 7]⟩
  | 7 => ⟨[6, 7, 8, 9, 10, 11], [6, 7], [], [], [6, 7]⟩
  | 8 => ⟨[6, 7, 8, 9, 10, 11, 12], [6, 7], [], [], [6, 7]⟩
  | 9 => ⟨[6, 7, 8, 9, 10, 11, 12, 13], [6, 7], [], [], [6, 7]⟩
  | 10 => ⟨[6, 7, 8, 9, 10, 11, 12, 13, 14], [6, 7], [], [], [6, 7]⟩
  | 11 => ⟨[6, 7, 8, 9, 10, 11, 12, 13, 14, 15], [6, 7], [], [], [6, 7]⟩
  | 12 => ⟨[6, 7, 8, 9, 10, 11, 12, 13, 14, 15, 39], [6, 7], [], [], [6, 7]⟩
  | 13 => ⟨[6, 7, 8, 9, 10, 11, 12, 13, 14, 15], [6, 7], [], [], [6, 7]⟩
  | 14 => ⟨[6, 7, 8, 9, 10, 11, 12, 13, 14, 15], [6, 7], [], [], [6, 7]⟩
  | 15 => ⟨[6, 7, 8, 9, 10, 11, 12, 13, 14, 15, 55], [6, 7], [], [], [6, 7]⟩
  | 16 => ⟨[6, 7, 8, 9, 10, 11, 12, 13, 14, 15], [6, 7], [], [], [6, 7]⟩
  | 17 => ⟨[6, 7, 8, 9, 10, 11, 12, 13, 14, 16], [6, 7], [], [], [6, 7]⟩
  | 18 => ⟨[6, 7, 8, 9, 10, 11, 12, 13, 14, 16, 61], [6, 7], [], [], [6, 7]⟩
  | 19 => ⟨[6, 7, 8, 9, 10, 11, 12, 13, 14, 16], [6, 7], [], [], [6, 7]⟩
  | 20 => ⟨[6, 7, 8, 9, 10, 11, 12, 13, 14, 16, 69], [6, 7], [], [], [6, 7]⟩
  | 21 => ⟨[6, 7, 8, 9, 10, 11, 12, 13, 14, 16], [6, 7], [], [], [6, 7]⟩
  | 22 => ⟨[4], [], [], [], []⟩
  | _ => ⟨[], [], [], [], []⟩
noncomputable abbrev x_diptychlaw18_DiffSizes : Cx := ⟨Tryd.prog, ⟨id, nf_diptychlaw18_DiffSizes, fp_diptychlaw18_DiffSizes⟩, an_diptychlaw18_DiffSizes⟩
theorem start_diptychlaw18_DiffSizes {args : List PV} {r : PV} (ha : args.length = 2) (h : awp x_diptychlaw18_DiffSizes c_diptychlaw18_DiffSizes (bodyR Tryd.prog [.tmp 4] r []) (initSt args [])) : PC Tryd.prog 4 args r :=
  pc_of_awp (X := x_diptychlaw18_DiffSizes) mixed Tryd.func4 (c := c_diptychlaw18_DiffSizes) (by kernel_rfl) (by kernel_rfl) (rs := [.tmp 4]) (by kernel_rfl) (by kernel_rfl) (by rw [ha]; decide) h
noncomputable def c_diff_change_set_x : Code := (Tryd.f94.body).getD .skip
def nf_diff_change_set_x : List (Nat × Nf) := []
def fp_diff_change_set_x : List (Nat × List Nat) := [(39, [1000]), (40, [1000]), (41, [1000]), (43, [1000]), (44, [1000]), (45, [1000]), (47, [3]), (48, [3]), (50, [1000]), (51, [1000]), (52, [1000]), (53, [1000]), (55, []), (56, []), (57, []), (60, [59, 1001]), (61, [1000]), (62, [1000])]
def an_diff_change_set_x : Nat → Ann
  | 0 => ⟨[0, 8, 9, 10], [1000, 1001], [], [], [1000, 1001]⟩
  | 1 => ⟨[0, 8, 9, 10, 11], [1000, 1001], [], [], [1000, 1001]⟩
  | 2 => ⟨[0, 2, 3, 8, 9, 10], [3, 1000, 1001], [], [], [3, 1000, 1001]⟩
  | 3 => ⟨[0, 2, 3, 8, 9, 10, 36], [3, 1000, 1001], [], [], [3, 1000, 1001]⟩
  | 4 => ⟨[0, 8, 9, 10], [1000, 1001], [], [], [1000, 1001]⟩
  | 5 => ⟨[0, 8, 9, 10], [1000, 1001], [], [], [1000, 1001]⟩
  | _ => ⟨[], [], [], [], []⟩
noncomputable abbrev x_diff_change_set_x : Cx := ⟨Tryd.prog, ⟨(fun d => if d = 58 then 0 else d), nf_diff_change_set_x, fp_diff_change_set_x⟩, an_diff_change_set_x⟩
theorem start_diff_change_set_x {args : List PV} {es es' : List Ent} {r : PV} (ha : args.length = 1) (hl : es'.length = es.length) (he : (es'.all fun e => e.extOk es.length) = true) (h : awp x_diff_change_set_x c_diff_change_set_x (bodyR Tryd.prog [] r es') (initSt args es)) : BC Tryd.prog 94 args es r es' :=
  bc_of_awp (X := x_diff_change_set_x) mixed Tryd.func94 (c := c_diff_change_set_x) (by kernel_rfl) (by kernel_rfl) (rs := []) (by kernel_rfl) (by kernel_rfl) (by rw [ha]; decide) hl (fun e h => List.all_eq_true.1 he e h) h
attribute [go_sem] an_slices_Clone_string nf_slices_Clone_string fp_slices_Clone_string an_slices_Clone_api_Attr nf_slices_Clone_api_Attr fp_slices_Clone_api_Attr an_slices_Clone_api_Node nf_slices_Clone_api_Node fp_slices_Clone_api_Node an_node_Copy nf_node_Copy fp_node_Copy an_node_isText nf_node_isText fp_node_isText an_unicode_utf8_RuneCountInString nf_unicode_utf8_RuneCountInString fp_unicode_utf8_RuneCountInString an_node_Size nf_node_Size fp_node_Size an_node_Total nf_node_Total fp_node_Total an_node_Name nf_node_Name fp_node_Name an_node_rise nf_node_rise fp_node_rise an_node_Value nf_node_Value fp_node_Value an_slices_Equal_string nf_slices_Equal_string fp_slices_Equal_string an_node_alike nf_node_alike fp_node_alike an_node_formed nf_node_formed fp_node_formed an_node_Depth nf_node_Depth fp_node_Depth an_node_Check nf_node_Check fp_node_Check an_node_Right nf_node_Right fp_node_Right an_diff_alike_1 nf_diff_alike_1 fp_diff_alike_1 an_slices_EqualFunc_api_Attr_diff_alike_1 nf_slices_EqualFunc_api_Attr_diff_alike_1 fp_slices_EqualFunc_api_Attr_diff_alike_1 an_diff_alike nf_diff_alike fp_diff_alike an_slices_Equal_api_Attr nf_slices_Equal_api_Attr fp_slices_Equal_api_Attr an_slices_EqualFunc_api_Node_node_Same nf_slices_EqualFunc_api_Node_node_Same fp_slices_EqualFunc_api_Node_node_Same an_node_Same nf_node_Same fp_node_Same an_diff_change_set_xx nf_diff_change_set_xx fp_diff_change_set_xx an_diff_of nf_diff_of fp_diff_of an_diff_Steps nf_diff_Steps fp_diff_Steps an_diptychlaw18_shown nf_diptychlaw18_shown fp_diptychlaw18_shown an_diptychlaw18_pick nf_diptychlaw18_pick fp_diptychlaw18_pick an_diptychref1_sameNames nf_diptychref1_sameNames fp_diptychref1_sameNames an_diptychref1_Join nf_diptychref1_Join fp_diptychref1_Join an_diptychlaw18_para nf_diptychlaw18_para fp_diptychlaw18_para an_diptychref1_Depth nf_diptychref1_Depth fp_diptychref1_Depth an_diptychlaw18_doc nf_diptychlaw18_doc fp_diptychlaw18_doc an_maps_Grows nf_maps_Grows fp_maps_Grows an_step_MapOf nf_step_MapOf fp_step_MapOf an_diptychlaw18_DiffSizes nf_diptychlaw18_DiffSizes fp_diptychlaw18_DiffSizes an_diff_change_set_x nf_diff_change_set_x fp_diff_change_set_x ty3 ty4 ty5 ty9 ty24 ty25 ty26 ty28 ty33 ty35 ty37 ty38 ty43 ty46 ty110 ty114 ty116 ty118 diptychlaw18_Cell.pv_eq api_Attr.pv_eq api_Node.pv_eq step_Step.pv_eq diff_change.pv_eq maps_Range.pv_eq pvL

end Go.Proofs.YtpjdafhmneiohaaDoor
