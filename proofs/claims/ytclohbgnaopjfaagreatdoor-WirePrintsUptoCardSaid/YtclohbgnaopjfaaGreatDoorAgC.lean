/- Code, and what is kept. -/
import Derived.Test.YtclohbgnaopjfaaGreatDoorAgT
import Derived.Test.YtclohbgnaopjfaaGreatDoorAwT
namespace Go.Proofs.YtclohbgnaopjfaaGreatDoor
set_option linter.unusedSimpArgs false
set_option linter.unusedVariables false
open Go
set_option maxRecDepth 100000

noncomputable def c_node_isText : Code := (Tryz.f107.body).getD .skip
def nf_node_isText : List (Nat × Nf) := []
def fp_node_isText : List (Nat × List Nat) := []
def an_node_isText : Nat → Ann
  | 0 => ⟨[1], [1], [], [], [1]⟩
  | 1 => ⟨[2], [], [], [], []⟩
  | _ => ⟨[], [], [], [], []⟩
noncomputable abbrev x_node_isText : Cx := ⟨Tryz.prog, ⟨id, nf_node_isText, fp_node_isText⟩, an_node_isText⟩
theorem start_node_isText {args : List PV} {r : PV} (ha : args.length = 1) (h : awp x_node_isText c_node_isText (bodyR Tryz.prog [.tmp 2] r []) (initSt args [])) : PC Tryz.prog 107 args r :=
  pc_of_awp (X := x_node_isText) mixed Tryz.func107 (c := c_node_isText) (by kernel_rfl) (by kernel_rfl) (rs := [.tmp 2]) (by kernel_rfl) (by kernel_rfl) (by rw [ha]; decide) h
noncomputable def c_unicode_utf8_RuneCountInString : Code := (Tryz.f108.body).getD .skip
def nf_unicode_utf8_RuneCountInString : List (Nat × Nf) := []
def fp_unicode_utf8_RuneCountInString : List (Nat × List Nat) := []
def an_unicode_utf8_RuneCountInString : Nat → Ann
  | 0 => ⟨[0, 2], [], [], [], []⟩
  | 1 => ⟨[2, 4], [4], [], [], [4]⟩
  | 2 => ⟨[2, 4, 6], [4], [], [], [4]⟩
  | 3 => ⟨[2, 4], [4], [], [], [4]⟩
  | 4 => ⟨[2], [], [], [], []⟩
  | _ => ⟨[], [], [], [], []⟩
noncomputable abbrev x_unicode_utf8_RuneCountInString : Cx := ⟨Tryz.prog, ⟨id, nf_unicode_utf8_RuneCountInString, fp_unicode_utf8_RuneCountInString⟩, an_unicode_utf8_RuneCountInString⟩
theorem start_unicode_utf8_RuneCountInString {args : List PV} {r : PV} (ha : args.length = 1) (h : awp x_unicode_utf8_RuneCountInString c_unicode_utf8_RuneCountInString (bodyR Tryz.prog [.tmp 2] r []) (initSt args [])) : PC Tryz.prog 108 args r :=
  pc_of_awp (X := x_unicode_utf8_RuneCountInString) mixed Tryz.func108 (c := c_unicode_utf8_RuneCountInString) (by kernel_rfl) (by kernel_rfl) (rs := [.tmp 2]) (by kernel_rfl) (by kernel_rfl) (by rw [ha]; decide) h
noncomputable def c_node_Total : Code := (Tryz.f34.body).getD .skip
def nf_node_Total : List (Nat × Nf) := []
def fp_node_Total : List (Nat × List Nat) := []
def an_node_Total : Nat → Ann
  | 0 => ⟨[0], [], [], [], []⟩
  | 1 => ⟨[0, 3], [], [], [], []⟩
  | 2 => ⟨[3, 6, 7, 8], [], [], [], []⟩
  | 3 => ⟨[3, 6, 7, 8, 9], [], [], [], []⟩
  | 4 => ⟨[3, 5, 6, 7, 8], [5], [], [], [5]⟩
  | 5 => ⟨[3, 6, 7, 8], [], [], [], []⟩
  | 6 => ⟨[3, 6, 7, 8], [], [], [], []⟩
  | 7 => ⟨[2], [], [], [], []⟩
  | _ => ⟨[], [], [], [], []⟩
noncomputable abbrev x_node_Total : Cx := ⟨Tryz.prog, ⟨id, nf_node_Total, fp_node_Total⟩, an_node_Total⟩
theorem start_node_Total {args : List PV} {r : PV} (ha : args.length = 1) (h : awp x_node_Total c_node_Total (bodyR Tryz.prog [.tmp 2] r []) (initSt args [])) : PC Tryz.prog 34 args r :=
  pc_of_awp (X := x_node_Total) mixed Tryz.func34 (c := c_node_Total) (by kernel_rfl) (by kernel_rfl) (rs := [.tmp 2]) (by kernel_rfl) (by kernel_rfl) (by rw [ha]; decide) h
noncomputable def c_node_Size : Code := (Tryz.f68.body).getD .skip
def nf_node_Size : List (Nat × Nf) := []
def fp_node_Size : List (Nat × List Nat) := []
def an_node_Size : Nat → Ann
  | 0 => ⟨[1], [1], [], [], [1]⟩
  | 1 => ⟨[1, 4], [1], [], [], [1]⟩
  | 2 => ⟨[2], [], [], [], []⟩
  | 3 => ⟨[2], [], [], [], []⟩
  | _ => ⟨[], [], [], [], []⟩
noncomputable abbrev x_node_Size : Cx := ⟨Tryz.prog, ⟨id, nf_node_Size, fp_node_Size⟩, an_node_Size⟩
theorem start_node_Size {args : List PV} {r : PV} (ha : args.length = 1) (h : awp x_node_Size c_node_Size (bodyR Tryz.prog [.tmp 2] r []) (initSt args [])) : PC Tryz.prog 68 args r :=
  pc_of_awp (X := x_node_Size) mixed Tryz.func68 (c := c_node_Size) (by kernel_rfl) (by kernel_rfl) (rs := [.tmp 2]) (by kernel_rfl) (by kernel_rfl) (by rw [ha]; decide) h
noncomputable def c_slices_Equal_string : Code := (Tryz.f138.body).getD .skip
def nf_slices_Equal_string : List (Nat × Nf) := []
def fp_slices_Equal_string : List (Nat × List Nat) := []
def an_slices_Equal_string : Nat → Ann
  | 0 => ⟨[0, 1], [], [], [], []⟩
  | 1 => ⟨[0, 1, 10], [], [], [], []⟩
  | 2 => ⟨[4], [], [], [], []⟩
  | 3 => ⟨[0, 1, 12, 13], [], [], [], []⟩
  | 4 => ⟨[0, 1, 12, 13, 14], [], [], [], []⟩
  | 5 => ⟨[0, 1, 5, 12, 13], [], [], [], []⟩
  | 6 => ⟨[0, 1, 12, 13, 24], [], [], [], []⟩
  | 7 => ⟨[4], [], [], [], []⟩
  | 8 => ⟨[0, 1, 12, 13], [], [], [], []⟩
  | 9 => ⟨[4], [], [], [], []⟩
  | _ => ⟨[], [], [], [], []⟩
noncomputable abbrev x_slices_Equal_string : Cx := ⟨Tryz.prog, ⟨id, nf_slices_Equal_string, fp_slices_Equal_string⟩, an_slices_Equal_string⟩
theorem start_slices_Equal_string {args : List PV} {r : PV} (ha : args.length = 2) (h : awp x_slices_Equal_string c_slices_Equal_string (bodyR Tryz.prog [.tmp 4] r []) (initSt args [])) : PC Tryz.prog 138 args r :=
  pc_of_awp (X := x_slices_Equal_string) mixed Tryz.func138 (c := c_slices_Equal_string) (by kernel_rfl) (by kernel_rfl) (rs := [.tmp 4]) (by kernel_rfl) (by kernel_rfl) (by rw [ha]; decide) h
noncomputable def c_node_alike : Code := (Tryz.f113.body).getD .skip
def nf_node_alike : List (Nat × Nf) := []
def fp_node_alike : List (Nat × List Nat) := []
def an_node_alike : Nat → Ann
  | 0 => ⟨[2, 3], [2, 3], [], [], [2, 3]⟩
  | 1 => ⟨[4], [], [], [], []⟩
  | _ => ⟨[], [], [], [], []⟩
noncomputable abbrev x_node_alike : Cx := ⟨Tryz.prog, ⟨id, nf_node_alike, fp_node_alike⟩, an_node_alike⟩
theorem start_node_alike {args : List PV} {r : PV} (ha : args.length = 2) (h : awp x_node_alike c_node_alike (bodyR Tryz.prog [.tmp 4] r []) (initSt args [])) : PC Tryz.prog 113 args r :=
  pc_of_awp (X := x_node_alike) mixed Tryz.func113 (c := c_node_alike) (by kernel_rfl) (by kernel_rfl) (rs := [.tmp 4]) (by kernel_rfl) (by kernel_rfl) (by rw [ha]; decide) h
noncomputable def c_node_Name : Code := (Tryz.f52.body).getD .skip
def nf_node_Name : List (Nat × Nf) := []
def fp_node_Name : List (Nat × List Nat) := []
def an_node_Name : Nat → Ann
  | 0 => ⟨[0], [], [], [], []⟩
  | 1 => ⟨[0, 3], [], [], [], []⟩
  | 2 => ⟨[2], [], [], [], []⟩
  | _ => ⟨[], [], [], [], []⟩
noncomputable abbrev x_node_Name : Cx := ⟨Tryz.prog, ⟨id, nf_node_Name, fp_node_Name⟩, an_node_Name⟩
theorem start_node_Name {args : List PV} {r : PV} (ha : args.length = 1) (h : awp x_node_Name c_node_Name (bodyR Tryz.prog [.tmp 2] r []) (initSt args [])) : PC Tryz.prog 52 args r :=
  pc_of_awp (X := x_node_Name) mixed Tryz.func52 (c := c_node_Name) (by kernel_rfl) (by kernel_rfl) (rs := [.tmp 2]) (by kernel_rfl) (by kernel_rfl) (by rw [ha]; decide) h
noncomputable def c_node_rise : Code := (Tryz.f126.body).getD .skip
def nf_node_rise : List (Nat × Nf) := []
def fp_node_rise : List (Nat × List Nat) := []
def an_node_rise : Nat → Ann
  | 0 => ⟨[0], [], [], [], []⟩
  | 1 => ⟨[0, 5, 6, 7], [], [], [], []⟩
  | 2 => ⟨[0, 5, 6, 7, 8], [], [], [], []⟩
  | 3 => ⟨[0, 3, 4, 5, 6, 7], [], [], [], []⟩
  | 4 => ⟨[0, 5, 6, 7, 27], [], [], [], []⟩
  | 5 => ⟨[2], [], [], [], []⟩
  | 6 => ⟨[0, 5, 6, 7], [], [], [], []⟩
  | 7 => ⟨[2], [], [], [], []⟩
  | _ => ⟨[], [], [], [], []⟩
noncomputable abbrev x_node_rise : Cx := ⟨Tryz.prog, ⟨id, nf_node_rise, fp_node_rise⟩, an_node_rise⟩
theorem start_node_rise {args : List PV} {r : PV} (ha : args.length = 1) (h : awp x_node_rise c_node_rise (bodyR Tryz.prog [.tmp 2] r []) (initSt args [])) : PC Tryz.prog 126 args r :=
  pc_of_awp (X := x_node_rise) mixed Tryz.func126 (c := c_node_rise) (by kernel_rfl) (by kernel_rfl) (rs := [.tmp 2]) (by kernel_rfl) (by kernel_rfl) (by rw [ha]; decide) h
noncomputable def c_node_Value : Code := (Tryz.f53.body).getD .skip
def nf_node_Value : List (Nat × Nf) := []
def fp_node_Value : List (Nat × List Nat) := []
def an_node_Value : Nat → Ann
  | 0 => ⟨[0], [], [], [], []⟩
  | 1 => ⟨[2], [], [], [], []⟩
  | _ => ⟨[], [], [], [], []⟩
noncomputable abbrev x_node_Value : Cx := ⟨Tryz.prog, ⟨id, nf_node_Value, fp_node_Value⟩, an_node_Value⟩
theorem start_node_Value {args : List PV} {r : PV} (ha : args.length = 1) (h : awp x_node_Value c_node_Value (bodyR Tryz.prog [.tmp 2] r []) (initSt args [])) : PC Tryz.prog 53 args r :=
  pc_of_awp (X := x_node_Value) mixed Tryz.func53 (c := c_node_Value) (by kernel_rfl) (by kernel_rfl) (rs := [.tmp 2]) (by kernel_rfl) (by kernel_rfl) (by rw [ha]; decide) h
noncomputable def c_node_formed : Code := (Tryz.f95.body).getD .skip
def nf_node_formed : List (Nat × Nf) := []
def fp_node_formed : List (Nat × List Nat) := []
def an_node_formed : Nat → Ann
  | 0 => ⟨[1], [1], [], [], [1]⟩
  | 1 => ⟨[1, 9], [1], [], [], [1]⟩
  | 2 => ⟨[2], [], [], [], []⟩
  | 3 => ⟨[1, 3], [1, 3], [.thaw 3 3 1], [], [1, 3]⟩
  | 4 => ⟨[1, 3, 34, 35, 36], [1, 3], [], [], [1, 3]⟩
  | 5 => ⟨[1, 3, 34, 35, 36, 37], [1, 3], [], [], [1, 3]⟩
  | 6 => ⟨[1, 3, 5, 34, 35, 36], [1, 3, 5], [], [], [1, 3, 5]⟩
  | 7 => ⟨[1, 3, 5, 34, 35, 36, 43], [1, 3, 5], [], [], [1, 3, 5]⟩
  | 8 => ⟨[2], [], [], [], []⟩
  | 9 => ⟨[1, 3, 34, 35, 36], [1, 3], [], [], [1, 3]⟩
  | 10 => ⟨[1, 3, 34, 35, 36], [1, 3], [], [], [1, 3]⟩
  | 11 => ⟨[1, 69], [1], [], [], [1]⟩
  | 12 => ⟨[2], [], [], [], []⟩
  | 13 => ⟨[1, 71, 72, 73], [1], [], [], [1]⟩
  | 14 => ⟨[1, 71, 72, 73, 74], [1], [], [], [1]⟩
  | 15 => ⟨[1, 6, 7, 71, 72, 73], [1, 7], [], [], [1, 7]⟩
  | 16 => ⟨[1, 71, 72, 73, 94], [1], [], [], [1]⟩
  | 17 => ⟨[2], [], [], [], []⟩
  | 18 => ⟨[1, 71, 72, 73], [1], [], [], [1]⟩
  | 19 => ⟨[2], [], [], [], []⟩
  | _ => ⟨[], [], [], [], []⟩
noncomputable abbrev x_node_formed : Cx := ⟨Tryz.prog, ⟨id, nf_node_formed, fp_node_formed⟩, an_node_formed⟩
theorem start_node_formed {args : List PV} {r : PV} (ha : args.length = 1) (h : awp x_node_formed c_node_formed (bodyR Tryz.prog [.tmp 2] r []) (initSt args [])) : PC Tryz.prog 95 args r :=
  pc_of_awp (X := x_node_formed) mixed Tryz.func95 (c := c_node_formed) (by kernel_rfl) (by kernel_rfl) (rs := [.tmp 2]) (by kernel_rfl) (by kernel_rfl) (by rw [ha]; decide) h
noncomputable def c_node_Depth : Code := (Tryz.f96.body).getD .skip
def nf_node_Depth : List (Nat × Nf) := []
def fp_node_Depth : List (Nat × List Nat) := []
def an_node_Depth : Nat → Ann
  | 0 => ⟨[1], [1], [], [], [1]⟩
  | 1 => ⟨[1, 7], [1], [], [], [1]⟩
  | 2 => ⟨[2], [], [], [], []⟩
  | 3 => ⟨[1, 3], [1], [], [], [1]⟩
  | 4 => ⟨[3, 9, 10, 11], [], [], [], []⟩
  | 5 => ⟨[3, 9, 10, 11, 12], [], [], [], []⟩
  | 6 => ⟨[3, 5, 9, 10, 11], [5], [], [], [5]⟩
  | 7 => ⟨[3, 9, 10, 11], [], [], [], []⟩
  | 8 => ⟨[3, 9, 10, 11], [], [], [], []⟩
  | 9 => ⟨[2], [], [], [], []⟩
  | _ => ⟨[], [], [], [], []⟩
noncomputable abbrev x_node_Depth : Cx := ⟨Tryz.prog, ⟨id, nf_node_Depth, fp_node_Depth⟩, an_node_Depth⟩
theorem start_node_Depth {args : List PV} {r : PV} (ha : args.length = 1) (h : awp x_node_Depth c_node_Depth (bodyR Tryz.prog [.tmp 2] r []) (initSt args [])) : PC Tryz.prog 96 args r :=
  pc_of_awp (X := x_node_Depth) mixed Tryz.func96 (c := c_node_Depth) (by kernel_rfl) (by kernel_rfl) (rs := [.tmp 2]) (by kernel_rfl) (by kernel_rfl) (by rw [ha]; decide) h
noncomputable def c_node_Check : Code := (Tryz.f51.body).getD .skip
def nf_node_Check : List (Nat × Nf) := []
def fp_node_Check : List (Nat × List Nat) := []
def an_node_Check : Nat → Ann
  | 0 => ⟨[1], [1], [], [], [1]⟩
  | 1 => ⟨[1, 3], [1], [], [], [1]⟩
  | 2 => ⟨[2], [], [], [], []⟩
  | 3 => ⟨[1, 7], [1], [], [], [1]⟩
  | 4 => ⟨[2], [], [], [], []⟩
  | 5 => ⟨[11], [], [], [], []⟩
  | 6 => ⟨[2], [], [], [], []⟩
  | 7 => ⟨[2], [], [], [], []⟩
  | _ => ⟨[], [], [], [], []⟩
noncomputable abbrev x_node_Check : Cx := ⟨Tryz.prog, ⟨id, nf_node_Check, fp_node_Check⟩, an_node_Check⟩
theorem start_node_Check {args : List PV} {r : PV} (ha : args.length = 1) (h : awp x_node_Check c_node_Check (bodyR Tryz.prog [.tmp 2] r []) (initSt args [])) : PC Tryz.prog 51 args r :=
  pc_of_awp (X := x_node_Check) mixed Tryz.func51 (c := c_node_Check) (by kernel_rfl) (by kernel_rfl) (rs := [.tmp 2]) (by kernel_rfl) (by kernel_rfl) (by rw [ha]; decide) h
noncomputable def c_step_Right : Code := (Tryz.f19.body).getD .skip
def nf_step_Right : List (Nat × Nf) := [(26, [none, none, some 1, some 2, none])]
def fp_step_Right : List (Nat × List Nat) := []
def an_step_Right : Nat → Ann
  | 0 => ⟨[1], [1], [], [], [1]⟩
  | 1 => ⟨[1, 3], [1], [], [], [1]⟩
  | 2 => ⟨[1, 3, 21], [1], [], [], [1]⟩
  | 3 => ⟨[1, 3, 21, 22], [1], [], [], [1]⟩
  | 4 => ⟨[1, 3, 4], [1], [], [], [1]⟩
  | 5 => ⟨[2], [], [], [], []⟩
  | 6 => ⟨[1, 3, 21, 41], [1], [], [], [1]⟩
  | 7 => ⟨[2], [], [], [], []⟩
  | 8 => ⟨[1, 3, 21, 72], [1], [], [], [1]⟩
  | 9 => ⟨[1, 3, 72], [1], [], [], [1]⟩
  | 10 => ⟨[2], [], [], [], []⟩
  | 11 => ⟨[2], [], [], [], []⟩
  | _ => ⟨[], [], [], [], []⟩
noncomputable abbrev x_step_Right : Cx := ⟨Tryz.prog, ⟨id, nf_step_Right, fp_step_Right⟩, an_step_Right⟩
theorem start_step_Right {args : List PV} {r : PV} (ha : args.length = 1) (h : awp x_step_Right c_step_Right (bodyR Tryz.prog [.tmp 2] r []) (initSt args [])) : PC Tryz.prog 19 args r :=
  pc_of_awp (X := x_step_Right) mixed Tryz.func19 (c := c_step_Right) (by kernel_rfl) (by kernel_rfl) (rs := [.tmp 2]) (by kernel_rfl) (by kernel_rfl) (by rw [ha]; decide) h
noncomputable def c_codec_Quote : Code := (Tryz.f81.body).getD .skip
def nf_codec_Quote : List (Nat × Nf) := []
def fp_codec_Quote : List (Nat × List Nat) := []
def an_codec_Quote : Nat → Ann
  | 0 => ⟨[0], [], [], [], []⟩
  | 1 => ⟨[0], [], [], [], []⟩
  | 2 => ⟨[2], [], [], [], []⟩
  | _ => ⟨[], [], [], [], []⟩
noncomputable abbrev x_codec_Quote : Cx := ⟨Tryz.prog, ⟨id, nf_codec_Quote, fp_codec_Quote⟩, an_codec_Quote⟩
theorem start_codec_Quote {args : List PV} {r : PV} (ha : args.length = 1) (h : awp x_codec_Quote c_codec_Quote (bodyR Tryz.prog [.tmp 2] r []) (initSt args [])) : PC Tryz.prog 81 args r :=
  pc_of_awp (X := x_codec_Quote) mixed Tryz.func81 (c := c_codec_Quote) (by kernel_rfl) (by kernel_rfl) (rs := [.tmp 2]) (by kernel_rfl) (by kernel_rfl) (by rw [ha]; decide) h
noncomputable def c_codec_Head : Code := (Tryz.f39.body).getD .skip
def nf_codec_Head : List (Nat × Nf) := []
def fp_codec_Head : List (Nat × List Nat) := [(32, [5]), (33, [5]), (35, [5]), (36, [5]), (40, [3, 39])]
def an_codec_Head : Nat → Ann
  | 0 => ⟨[1], [1], [], [], [1]⟩
  | 1 => ⟨[1, 8], [1], [], [], [1]⟩
  | 2 => ⟨[1, 12], [1], [], [], [1]⟩
  | 3 => ⟨[2], [], [], [], []⟩
  | 4 => ⟨[2], [], [], [], []⟩
  | 5 => ⟨[1, 21], [1], [], [], [1]⟩
  | 6 => ⟨[2], [], [], [], []⟩
  | 7 => ⟨[1, 3], [1, 3], [.thaw 3 3 1], [], [1, 3]⟩
  | 8 => ⟨[1, 3, 25, 26, 27], [1, 3], [], [], [1, 3]⟩
  | 9 => ⟨[1, 3, 25, 26, 27, 28], [1, 3], [], [], [1, 3]⟩
  | 10 => ⟨[1, 3, 5, 25, 26, 27], [1, 3, 5], [], [], [1, 3, 5]⟩
  | 11 => ⟨[1, 3, 25, 26, 27], [1, 3], [], [], [1, 3]⟩
  | 12 => ⟨[1, 3, 25, 26, 27], [1, 3], [], [], [1, 3]⟩
  | 13 => ⟨[2], [], [], [], []⟩
  | _ => ⟨[], [], [], [], []⟩
noncomputable abbrev x_codec_Head : Cx := ⟨Tryz.prog, ⟨id, nf_codec_Head, fp_codec_Head⟩, an_codec_Head⟩
theorem start_codec_Head {args : List PV} {r : PV} (ha : args.length = 1) (h : awp x_codec_Head c_codec_Head (bodyR Tryz.prog [.tmp 2] r []) (initSt args [])) : PC Tryz.prog 39 args r :=
  pc_of_awp (X := x_codec_Head) mixed Tryz.func39 (c := c_codec_Head) (by kernel_rfl) (by kernel_rfl) (rs := [.tmp 2]) (by kernel_rfl) (by kernel_rfl) (by rw [ha]; decide) h
noncomputable def c_strings_Builder_WriteString_x : Code := (Tryz.f66.body).getD .skip
def nf_strings_Builder_WriteString_x : List (Nat × Nf) := []
def fp_strings_Builder_WriteString_x : List (Nat × List Nat) := []
def an_strings_Builder_WriteString_x : Nat → Ann
  | 0 => ⟨[0, 1], [1000, 1001], [], [], [1000, 1001]⟩
  | 1 => ⟨[0, 1], [1000, 1001], [], [], [1000, 1001]⟩
  | 2 => ⟨[1], [1000, 1001], [], [], [1000, 1001]⟩
  | 3 => ⟨[4, 5], [1000, 1001], [], [], [1000, 1001]⟩
  | _ => ⟨[], [], [], [], []⟩
noncomputable abbrev x_strings_Builder_WriteString_x : Cx := ⟨Tryz.prog, ⟨id, nf_strings_Builder_WriteString_x, fp_strings_Builder_WriteString_x⟩, an_strings_Builder_WriteString_x⟩
theorem start_strings_Builder_WriteString_x {args : List PV} {es es' : List Ent} {r : PV} (ha : args.length = 2) (hl : es'.length = es.length) (he : (es'.all fun e => e.extOk es.length) = true) (h : awp x_strings_Builder_WriteString_x c_strings_Builder_WriteString_x (bodyR Tryz.prog [.tmp 4, .tmp 5] r es') (initSt args es)) : BC Tryz.prog 66 args es r es' :=
  bc_of_awp (X := x_strings_Builder_WriteString_x) mixed Tryz.func66 (c := c_strings_Builder_WriteString_x) (by kernel_rfl) (by kernel_rfl) (rs := [.tmp 4, .tmp 5]) (by kernel_rfl) (by kernel_rfl) (by rw [ha]; decide) hl (fun e h => List.all_eq_true.1 he e h) h
noncomputable def c_codec_write_x : Code := (Tryz.f135.body).getD .skip
def nf_codec_write_x : List (Nat × Nf) := []
def fp_codec_write_x : List (Nat × List Nat) := [(10, [3]), (11, [3]), (13, [3]), (16, [1000, 1001])]
def an_codec_write_x : Nat → Ann
  | 0 => ⟨[0, 3], [3, 1000, 1001], [], [], [3, 1000, 1001]⟩
  | 1 => ⟨[0, 3, 8], [3, 1000, 1001], [], [], [3, 1000, 1001]⟩
  | 2 => ⟨[], [1000, 1001], [], [], [1000, 1001]⟩
  | 3 => ⟨[0, 3], [3, 1000, 1001], [], [], [3, 1000, 1001]⟩
  | 4 => ⟨[0, 23, 24, 25], [1000, 1001], [], [], [1000, 1001]⟩
  | 5 => ⟨[0, 23, 24, 25, 26], [1000, 1001], [], [], [1000, 1001]⟩
  | 6 => ⟨[0, 5, 23, 24, 25], [5, 1000, 1001], [], [], [5, 1000, 1001]⟩
  | 7 => ⟨[0, 23, 24, 25], [1000, 1001], [], [], [1000, 1001]⟩
  | 8 => ⟨[0, 23, 24, 25], [1000, 1001], [], [], [1000, 1001]⟩
  | 9 => ⟨[], [1000, 1001], [], [], [1000, 1001]⟩
  | _ => ⟨[], [], [], [], []⟩
noncomputable abbrev x_codec_write_x : Cx := ⟨Tryz.prog, ⟨id, nf_codec_write_x, fp_codec_write_x⟩, an_codec_write_x⟩
theorem start_codec_write_x {args : List PV} {es es' : List Ent} {r : PV} (ha : args.length = 2) (hl : es'.length = es.length) (he : (es'.all fun e => e.extOk es.length) = true) (h : awp x_codec_write_x c_codec_write_x (bodyR Tryz.prog [] r es') (initSt args es)) : BC Tryz.prog 135 args es r es' :=
  bc_of_awp (X := x_codec_write_x) mixed Tryz.func135 (c := c_codec_write_x) (by kernel_rfl) (by kernel_rfl) (rs := []) (by kernel_rfl) (by kernel_rfl) (by rw [ha]; decide) hl (fun e h => List.all_eq_true.1 he e h) h
noncomputable def c_codec_Print : Code := (Tryz.f101.body).getD .skip
def nf_codec_Print : List (Nat × Nf) := []
def fp_codec_Print : List (Nat × List Nat) := []
def an_codec_Print : Nat → Ann
  | 0 => ⟨[1], [1], [], [], [1]⟩
  | 1 => ⟨[1, 4], [1], [], [], [1]⟩
  | 2 => ⟨[1, 4, 9], [1], [], [], [1]⟩
  | 3 => ⟨[2, 3], [], [], [], []⟩
  | 4 => ⟨[1, 5], [1, 5, 336], [.self 5 0, .thawB 5 1 336 5], [], [1, 5, 336]⟩
  | 5 => ⟨[5], [5, 336], [], [], [5, 336]⟩
  | 6 => ⟨[2, 3], [], [], [], []⟩
  | _ => ⟨[], [], [], [], []⟩
noncomputable abbrev x_codec_Print : Cx := ⟨Tryz.prog, ⟨id, nf_codec_Print, fp_codec_Print⟩, an_codec_Print⟩
theorem start_codec_Print {args : List PV} {r : PV} (ha : args.length = 1) (h : awp x_codec_Print c_codec_Print (bodyR Tryz.prog [.tmp 2, .tmp 3] r []) (initSt args [])) : PC Tryz.prog 101 args r :=
  pc_of_awp (X := x_codec_Print) mixed Tryz.func101 (c := c_codec_Print) (by kernel_rfl) (by kernel_rfl) (rs := [.tmp 2, .tmp 3]) (by kernel_rfl) (by kernel_rfl) (by rw [ha]; decide) h
noncomputable def c_codec_PrintAll : Code := (Tryz.f62.body).getD .skip
def nf_codec_PrintAll : List (Nat × Nf) := [(8, [none, none, some 1, some 2, none])]
def fp_codec_PrintAll : List (Nat × List Nat) := []
def an_codec_PrintAll : Nat → Ann
  | 0 => ⟨[0], [], [], [], []⟩
  | 1 => ⟨[4, 5], [], [], [], []⟩
  | 2 => ⟨[4, 5, 13], [], [], [], []⟩
  | 3 => ⟨[2, 3], [], [], [], []⟩
  | 4 => ⟨[2, 3], [], [], [], []⟩
  | _ => ⟨[], [], [], [], []⟩
noncomputable abbrev x_codec_PrintAll : Cx := ⟨Tryz.prog, ⟨id, nf_codec_PrintAll, fp_codec_PrintAll⟩, an_codec_PrintAll⟩
theorem start_codec_PrintAll {args : List PV} {r : PV} (ha : args.length = 1) (h : awp x_codec_PrintAll c_codec_PrintAll (bodyR Tryz.prog [.tmp 2, .tmp 3] r []) (initSt args [])) : PC Tryz.prog 62 args r :=
  pc_of_awp (X := x_codec_PrintAll) mixed Tryz.func62 (c := c_codec_PrintAll) (by kernel_rfl) (by kernel_rfl) (rs := [.tmp 2, .tmp 3]) (by kernel_rfl) (by kernel_rfl) (by rw [ha]; decide) h
noncomputable def c_wire_write : Code := (Tryz.f63.body).getD .skip
def nf_wire_write : List (Nat × Nf) := []
def fp_wire_write : List (Nat × List Nat) := []
def an_wire_write : Nat → Ann
  | 0 => ⟨[1, 2], [2], [], [], [2]⟩
  | 1 => ⟨[1, 2, 5, 6], [2], [], [], [2]⟩
  | 2 => ⟨[1, 2, 5, 6, 7], [2, 18], [], [.ren 18 7], [2, 7, 18]⟩
  | 3 => ⟨[1, 2, 5, 6, 7, 20], [2, 7], [], [], [2, 7]⟩
  | 4 => ⟨[1, 2, 5, 6, 7, 20, 21], [2, 7], [], [], [2, 7]⟩
  | 5 => ⟨[1, 7], [25], [], [.ren 25 7], [7, 25]⟩
  | 6 => ⟨[1, 7, 27], [7], [], [], [7]⟩
  | 7 => ⟨[7], [7], [], [], [7]⟩
  | 8 => ⟨[2, 5, 7, 20, 32], [2, 7], [], [], [2, 7]⟩
  | 9 => ⟨[7], [40], [], [.ren 40 7], [7, 40]⟩
  | 10 => ⟨[7, 41], [7], [], [], [7]⟩
  | 11 => ⟨[7], [7], [], [], [7]⟩
  | 12 => ⟨[4], [], [], [], []⟩
  | _ => ⟨[], [], [], [], []⟩
noncomputable abbrev x_wire_write : Cx := ⟨Tryz.prog, ⟨id, nf_wire_write, fp_wire_write⟩, an_wire_write⟩
theorem start_wire_write {args : List PV} {r : PV} (ha : args.length = 2) (h : awp x_wire_write c_wire_write (bodyR Tryz.prog [.tmp 4] r []) (initSt args [])) : PC Tryz.prog 63 args r :=
  pc_of_awp (X := x_wire_write) mixed Tryz.func63 (c := c_wire_write) (by kernel_rfl) (by kernel_rfl) (rs := [.tmp 4]) (by kernel_rfl) (by kernel_rfl) (by rw [ha]; decide) h
noncomputable def c_wire_Print : Code := (Tryz.f25.body).getD .skip
def nf_wire_Print : List (Nat × Nf) := []
def fp_wire_Print : List (Nat × List Nat) := []
def an_wire_Print : Nat → Ann
  | 0 => ⟨[1], [1], [], [], [1]⟩
  | 1 => ⟨[1, 8], [1], [], [], [1]⟩
  | 2 => ⟨[2, 3], [], [], [], []⟩
  | 3 => ⟨[1, 4, 5], [1], [], [], [1]⟩
  | 4 => ⟨[1, 4, 5, 16], [1], [], [], [1]⟩
  | 5 => ⟨[2, 3], [], [], [], []⟩
  | 6 => ⟨[2, 3], [], [], [], []⟩
  | _ => ⟨[], [], [], [], []⟩
noncomputable abbrev x_wire_Print : Cx := ⟨Tryz.prog, ⟨id, nf_wire_Print, fp_wire_Print⟩, an_wire_Print⟩
theorem start_wire_Print {args : List PV} {r : PV} (ha : args.length = 1) (h : awp x_wire_Print c_wire_Print (bodyR Tryz.prog [.tmp 2, .tmp 3] r []) (initSt args [])) : PC Tryz.prog 25 args r :=
  pc_of_awp (X := x_wire_Print) mixed Tryz.func25 (c := c_wire_Print) (by kernel_rfl) (by kernel_rfl) (rs := [.tmp 2, .tmp 3]) (by kernel_rfl) (by kernel_rfl) (by rw [ha]; decide) h
noncomputable def c_diptychlaw12_shown : Code := (Tryz.f23.body).getD .skip
def nf_diptychlaw12_shown : List (Nat × Nf) := [(4, [none, none, some 1, some 2, some 5]), (6, [none, none, none, some 5, none, none])]
def fp_diptychlaw12_shown : List (Nat × List Nat) := []
def an_diptychlaw12_shown : Nat → Ann
  | 0 => ⟨[], [], [], [], []⟩
  | 1 => ⟨[1, 2], [], [], [], []⟩
  | 2 => ⟨[0], [], [], [], []⟩
  | _ => ⟨[], [], [], [], []⟩
noncomputable abbrev x_diptychlaw12_shown : Cx := ⟨Tryz.prog, ⟨id, nf_diptychlaw12_shown, fp_diptychlaw12_shown⟩, an_diptychlaw12_shown⟩
theorem start_diptychlaw12_shown {args : List PV} {r : PV} (ha : args.length = 0) (h : awp x_diptychlaw12_shown c_diptychlaw12_shown (bodyR Tryz.prog [.tmp 0] r []) (initSt args [])) : PC Tryz.prog 23 args r :=
  pc_of_awp (X := x_diptychlaw12_shown) mixed Tryz.func23 (c := c_diptychlaw12_shown) (by kernel_rfl) (by kernel_rfl) (rs := [.tmp 0]) (by kernel_rfl) (by kernel_rfl) (by rw [ha]; decide) h
noncomputable def c_diptychlaw12_light : Code := (Tryz.f61.body).getD .skip
def nf_diptychlaw12_light : List (Nat × Nf) := []
def fp_diptychlaw12_light : List (Nat × List Nat) := []
def an_diptychlaw12_light : Nat → Ann
  | 0 => ⟨[1, 2], [2], [], [], [2]⟩
  | 1 => ⟨[1, 2], [2], [], [], [2]⟩
  | 2 => ⟨[1, 2, 5], [2], [], [], [2]⟩
  | 3 => ⟨[1, 2, 5, 26], [2], [], [], [2]⟩
  | 4 => ⟨[1, 2, 5], [2], [], [], [2]⟩
  | 5 => ⟨[1, 2, 5], [2], [], [], [2]⟩
  | 6 => ⟨[1, 2, 6], [2], [], [], [2]⟩
  | 7 => ⟨[1, 2, 6, 46], [2], [], [], [2]⟩
  | 8 => ⟨[1, 2, 6], [2], [], [], [2]⟩
  | 9 => ⟨[1, 2, 6], [2], [], [], [2]⟩
  | 10 => ⟨[1, 2, 7], [2], [], [], [2]⟩
  | 11 => ⟨[1, 2, 7, 75], [2], [], [], [2]⟩
  | 12 => ⟨[1, 2, 7], [2], [], [], [2]⟩
  | 13 => ⟨[1, 2, 7], [2], [], [], [2]⟩
  | 14 => ⟨[1, 86], [], [], [], []⟩
  | 15 => ⟨[4], [], [], [], []⟩
  | 16 => ⟨[4], [], [], [], []⟩
  | _ => ⟨[], [], [], [], []⟩
noncomputable abbrev x_diptychlaw12_light : Cx := ⟨Tryz.prog, ⟨id, nf_diptychlaw12_light, fp_diptychlaw12_light⟩, an_diptychlaw12_light⟩
theorem start_diptychlaw12_light {args : List PV} {r : PV} (ha : args.length = 2) (h : awp x_diptychlaw12_light c_diptychlaw12_light (bodyR Tryz.prog [.tmp 4] r []) (initSt args [])) : PC Tryz.prog 61 args r :=
  pc_of_awp (X := x_diptychlaw12_light) mixed Tryz.func61 (c := c_diptychlaw12_light) (by kernel_rfl) (by kernel_rfl) (rs := [.tmp 4]) (by kernel_rfl) (by kernel_rfl) (by rw [ha]; decide) h
noncomputable def c_diptychlaw12_few : Code := (Tryz.f24.body).getD .skip
def nf_diptychlaw12_few : List (Nat × Nf) := [(15, [none, none, some 1, some 2, none])]
def fp_diptychlaw12_few : List (Nat × List Nat) := []
def an_diptychlaw12_few : Nat → Ann
  | 0 => ⟨[0], [], [], [], []⟩
  | 1 => ⟨[0, 3], [], [], [], []⟩
  | 2 => ⟨[0, 3, 7], [], [], [], []⟩
  | 3 => ⟨[0, 3], [], [], [], []⟩
  | 4 => ⟨[0, 3, 35], [], [], [], []⟩
  | 5 => ⟨[2], [], [], [], []⟩
  | 6 => ⟨[2], [], [], [], []⟩
  | _ => ⟨[], [], [], [], []⟩
noncomputable abbrev x_diptychlaw12_few : Cx := ⟨Tryz.prog, ⟨id, nf_diptychlaw12_few, fp_diptychlaw12_few⟩, an_diptychlaw12_few⟩
theorem start_diptychlaw12_few {args : List PV} {r : PV} (ha : args.length = 1) (h : awp x_diptychlaw12_few c_diptychlaw12_few (bodyR Tryz.prog [.tmp 2] r []) (initSt args [])) : PC Tryz.prog 24 args r :=
  pc_of_awp (X := x_diptychlaw12_few) mixed Tryz.func24 (c := c_diptychlaw12_few) (by kernel_rfl) (by kernel_rfl) (rs := [.tmp 2]) (by kernel_rfl) (by kernel_rfl) (by rw [ha]; decide) h
noncomputable def c_diptychref1_sameNames : Code := (Tryz.f59.body).getD .skip
def nf_diptychref1_sameNames : List (Nat × Nf) := []
def fp_diptychref1_sameNames : List (Nat × List Nat) := []
def an_diptychref1_sameNames : Nat → Ann
  | 0 => ⟨[0, 1], [], [], [], []⟩
  | 1 => ⟨[0, 1, 10], [], [], [], []⟩
  | 2 => ⟨[4], [], [], [], []⟩
  | 3 => ⟨[0, 1, 5], [], [], [], []⟩
  | 4 => ⟨[0, 1, 5, 14], [], [], [], []⟩
  | 5 => ⟨[0, 1, 5], [], [], [], []⟩
  | 6 => ⟨[0, 1, 5, 25], [], [], [], []⟩
  | 7 => ⟨[4], [], [], [], []⟩
  | 8 => ⟨[4], [], [], [], []⟩
  | _ => ⟨[], [], [], [], []⟩
noncomputable abbrev x_diptychref1_sameNames : Cx := ⟨Tryz.prog, ⟨id, nf_diptychref1_sameNames, fp_diptychref1_sameNames⟩, an_diptychref1_sameNames⟩
theorem start_diptychref1_sameNames {args : List PV} {r : PV} (ha : args.length = 2) (h : awp x_diptychref1_sameNames c_diptychref1_sameNames (bodyR Tryz.prog [.tmp 4] r []) (initSt args [])) : PC Tryz.prog 59 args r :=
  pc_of_awp (X := x_diptychref1_sameNames) mixed Tryz.func59 (c := c_diptychref1_sameNames) (by kernel_rfl) (by kernel_rfl) (rs := [.tmp 4]) (by kernel_rfl) (by kernel_rfl) (by rw [ha]; decide) h
noncomputable def c_diptychref1_Same : Code := (Tryz.f21.body).getD .skip
def nf_diptychref1_Same : List (Nat × Nf) := []
def fp_diptychref1_Same : List (Nat × List Nat) := []
def an_diptychref1_Same : Nat → Ann
  | 0 => ⟨[2, 3], [2, 3], [], [], [2, 3]⟩
  | 1 => ⟨[2, 3, 34], [2, 3], [], [], [2, 3]⟩
  | 2 => ⟨[4], [], [], [], []⟩
  | 3 => ⟨[2, 3, 5], [2, 3], [], [], [2, 3]⟩
  | 4 => ⟨[2, 3, 5, 39], [2, 3], [], [], [2, 3]⟩
  | 5 => ⟨[2, 3, 5], [2, 3], [], [], [2, 3]⟩
  | 6 => ⟨[2, 3, 5, 52], [2, 3], [], [], [2, 3]⟩
  | 7 => ⟨[4], [], [], [], []⟩
  | 8 => ⟨[4], [], [], [], []⟩
  | _ => ⟨[], [], [], [], []⟩
noncomputable abbrev x_diptychref1_Same : Cx := ⟨Tryz.prog, ⟨id, nf_diptychref1_Same, fp_diptychref1_Same⟩, an_diptychref1_Same⟩
theorem start_diptychref1_Same {args : List PV} {r : PV} (ha : args.length = 2) (h : awp x_diptychref1_Same c_diptychref1_Same (bodyR Tryz.prog [.tmp 4] r []) (initSt args [])) : PC Tryz.prog 21 args r :=
  pc_of_awp (X := x_diptychref1_Same) mixed Tryz.func21 (c := c_diptychref1_Same) (by kernel_rfl) (by kernel_rfl) (rs := [.tmp 4]) (by kernel_rfl) (by kernel_rfl) (by rw [ha]; decide) h
noncomputable def c_diptychref1_SameAll : Code := (Tryz.f54.body).getD .skip
def nf_diptychref1_SameAll : List (Nat × Nf) := []
def fp_diptychref1_SameAll : List (Nat × List Nat) := []
def an_diptychref1_SameAll : Nat → Ann
  | 0 => ⟨[0, 1], [], [], [], []⟩
  | 1 => ⟨[0, 1, 10], [], [], [], []⟩
  | 2 => ⟨[4], [], [], [], []⟩
  | 3 => ⟨[0, 1, 5], [], [], [], []⟩
  | 4 => ⟨[0, 1, 5, 14], [], [], [], []⟩
  | 5 => ⟨[0, 1, 5], [], [], [], []⟩
  | 6 => ⟨[0, 1, 5, 26], [], [], [], []⟩
  | 7 => ⟨[4], [], [], [], []⟩
  | 8 => ⟨[4], [], [], [], []⟩
  | _ => ⟨[], [], [], [], []⟩
noncomputable abbrev x_diptychref1_SameAll : Cx := ⟨Tryz.prog, ⟨id, nf_diptychref1_SameAll, fp_diptychref1_SameAll⟩, an_diptychref1_SameAll⟩
theorem start_diptychref1_SameAll {args : List PV} {r : PV} (ha : args.length = 2) (h : awp x_diptychref1_SameAll c_diptychref1_SameAll (bodyR Tryz.prog [.tmp 4] r []) (initSt args [])) : PC Tryz.prog 54 args r :=
  pc_of_awp (X := x_diptychref1_SameAll) mixed Tryz.func54 (c := c_diptychref1_SameAll) (by kernel_rfl) (by kernel_rfl) (rs := [.tmp 4]) (by kernel_rfl) (by kernel_rfl) (by rw [ha]; decide) h
noncomputable def c_diptychref1_Join : Code := (Tryz.f55.body).getD .skip
def nf_diptychref1_Join : List (Nat × Nf) := []
def fp_diptychref1_Join : List (Nat × List Nat) := [(65, [3]), (66, [3, 62]), (67, [5]), (69, [62, 68])]
def an_diptychref1_Join : Nat → Ann
  | 0 => ⟨[0], [], [], [], []⟩
  | 1 => ⟨[0, 3], [3], [.thaw 3 3 5], [], [3]⟩
  | 2 => ⟨[0, 3, 4], [3], [], [], [3]⟩
  | 3 => ⟨[0, 3, 4, 10], [3], [], [], [3]⟩
  | 4 => ⟨[0, 3, 4], [3], [], [], [3]⟩
  | 5 => ⟨[0, 3, 4, 5], [3, 5], [], [], [3, 5]⟩
  | 6 => ⟨[0, 3, 4, 5, 6], [3, 5], [], [], [3, 5]⟩
  | 7 => ⟨[0, 3, 4, 5, 6, 27], [3, 5], [], [], [3, 5]⟩
  | 8 => ⟨[0, 3, 4, 5, 6, 52], [3, 5], [], [], [3, 5]⟩
  | 9 => ⟨[0, 3, 4, 5, 6], [3, 5], [], [], [3, 5]⟩
  | 10 => ⟨[0, 3, 4], [62], [], [.ren 62 3], [3, 62]⟩
  | 11 => ⟨[0, 3, 4], [3], [], [], [3]⟩
  | 12 => ⟨[2], [3], [], [.ren 3 2], [2, 3]⟩
  | _ => ⟨[], [], [], [], []⟩
noncomputable abbrev x_diptychref1_Join : Cx := ⟨Tryz.prog, ⟨id, nf_diptychref1_Join, fp_diptychref1_Join⟩, an_diptychref1_Join⟩
theorem start_diptychref1_Join {args : List PV} {r : PV} (ha : args.length = 1) (h : awp x_diptychref1_Join c_diptychref1_Join (bodyR Tryz.prog [.tmp 2] r []) (initSt args [])) : PC Tryz.prog 55 args r :=
  pc_of_awp (X := x_diptychref1_Join) mixed Tryz.func55 (c := c_diptychref1_Join) (by kernel_rfl) (by kernel_rfl) (rs := [.tmp 2]) (by kernel_rfl) (by kernel_rfl) (by rw [ha]; decide) h
noncomputable def c_diptychref1_Name : Code := (Tryz.f57.body).getD .skip
def nf_diptychref1_Name : List (Nat × Nf) := []
def fp_diptychref1_Name : List (Nat × List Nat) := []
def an_diptychref1_Name : Nat → Ann
  | 0 => ⟨[0], [], [], [], []⟩
  | 1 => ⟨[0, 3], [], [], [], []⟩
  | 2 => ⟨[0, 3, 7], [], [], [], []⟩
  | 3 => ⟨[0, 3], [], [], [], []⟩
  | 4 => ⟨[0, 3, 19], [], [], [], []⟩
  | 5 => ⟨[2], [], [], [], []⟩
  | 6 => ⟨[2], [], [], [], []⟩
  | _ => ⟨[], [], [], [], []⟩
noncomputable abbrev x_diptychref1_Name : Cx := ⟨Tryz.prog, ⟨id, nf_diptychref1_Name, fp_diptychref1_Name⟩, an_diptychref1_Name⟩
theorem start_diptychref1_Name {args : List PV} {r : PV} (ha : args.length = 1) (h : awp x_diptychref1_Name c_diptychref1_Name (bodyR Tryz.prog [.tmp 2] r []) (initSt args [])) : PC Tryz.prog 57 args r :=
  pc_of_awp (X := x_diptychref1_Name) mixed Tryz.func57 (c := c_diptychref1_Name) (by kernel_rfl) (by kernel_rfl) (rs := [.tmp 2]) (by kernel_rfl) (by kernel_rfl) (by rw [ha]; decide) h
noncomputable def c_diptychref1_rise : Code := (Tryz.f100.body).getD .skip
def nf_diptychref1_rise : List (Nat × Nf) := []
def fp_diptychref1_rise : List (Nat × List Nat) := []
def an_diptychref1_rise : Nat → Ann
  | 0 => ⟨[0], [], [], [], []⟩
  | 1 => ⟨[0, 3], [], [], [], []⟩
  | 2 => ⟨[0, 3, 7], [], [], [], []⟩
  | 3 => ⟨[0, 3], [], [], [], []⟩
  | 4 => ⟨[0, 3, 31], [], [], [], []⟩
  | 5 => ⟨[2], [], [], [], []⟩
  | 6 => ⟨[2], [], [], [], []⟩
  | _ => ⟨[], [], [], [], []⟩
noncomputable abbrev x_diptychref1_rise : Cx := ⟨Tryz.prog, ⟨id, nf_diptychref1_rise, fp_diptychref1_rise⟩, an_diptychref1_rise⟩
theorem start_diptychref1_rise {args : List PV} {r : PV} (ha : args.length = 1) (h : awp x_diptychref1_rise c_diptychref1_rise (bodyR Tryz.prog [.tmp 2] r []) (initSt args [])) : PC Tryz.prog 100 args r :=
  pc_of_awp (X := x_diptychref1_rise) mixed Tryz.func100 (c := c_diptychref1_rise) (by kernel_rfl) (by kernel_rfl) (rs := [.tmp 2]) (by kernel_rfl) (by kernel_rfl) (by rw [ha]; decide) h
noncomputable def c_diptychref1_runes : Code := (Tryz.f120.body).getD .skip
def nf_diptychref1_runes : List (Nat × Nf) := []
def fp_diptychref1_runes : List (Nat × List Nat) := []
def an_diptychref1_runes : Nat → Ann
  | 0 => ⟨[0], [], [], [], []⟩
  | 1 => ⟨[0, 4], [], [], [], []⟩
  | 2 => ⟨[2, 3], [], [], [], []⟩
  | _ => ⟨[], [], [], [], []⟩
noncomputable abbrev x_diptychref1_runes : Cx := ⟨Tryz.prog, ⟨id, nf_diptychref1_runes, fp_diptychref1_runes⟩, an_diptychref1_runes⟩
theorem start_diptychref1_runes {args : List PV} {r : PV} (ha : args.length = 1) (h : awp x_diptychref1_runes c_diptychref1_runes (bodyR Tryz.prog [.tmp 2, .tmp 3] r []) (initSt args [])) : PC Tryz.prog 120 args r :=
  pc_of_awp (X := x_diptychref1_runes) mixed Tryz.func120 (c := c_diptychref1_runes) (by kernel_rfl) (by kernel_rfl) (rs := [.tmp 2, .tmp 3]) (by kernel_rfl) (by kernel_rfl) (by rw [ha]; decide) h
noncomputable def c_diptychref1_formed : Code := (Tryz.f99.body).getD .skip
def nf_diptychref1_formed : List (Nat × Nf) := []
def fp_diptychref1_formed : List (Nat × List Nat) := []
def an_diptychref1_formed : Nat → Ann
  | 0 => ⟨[0], [], [], [], []⟩
  | 1 => ⟨[4], [], [], [], []⟩
  | 2 => ⟨[2], [], [], [], []⟩
  | _ => ⟨[], [], [], [], []⟩
noncomputable abbrev x_diptychref1_formed : Cx := ⟨Tryz.prog, ⟨id, nf_diptychref1_formed, fp_diptychref1_formed⟩, an_diptychref1_formed⟩
theorem start_diptychref1_formed {args : List PV} {r : PV} (ha : args.length = 1) (h : awp x_diptychref1_formed c_diptychref1_formed (bodyR Tryz.prog [.tmp 2] r []) (initSt args [])) : PC Tryz.prog 99 args r :=
  pc_of_awp (X := x_diptychref1_formed) mixed Tryz.func99 (c := c_diptychref1_formed) (by kernel_rfl) (by kernel_rfl) (rs := [.tmp 2]) (by kernel_rfl) (by kernel_rfl) (by rw [ha]; decide) h
noncomputable def c_diptychref1_Value : Code := (Tryz.f58.body).getD .skip
def nf_diptychref1_Value : List (Nat × Nf) := []
def fp_diptychref1_Value : List (Nat × List Nat) := []
def an_diptychref1_Value : Nat → Ann
  | 0 => ⟨[0], [], [], [], []⟩
  | 1 => ⟨[2], [], [], [], []⟩
  | _ => ⟨[], [], [], [], []⟩
noncomputable abbrev x_diptychref1_Value : Cx := ⟨Tryz.prog, ⟨id, nf_diptychref1_Value, fp_diptychref1_Value⟩, an_diptychref1_Value⟩
theorem start_diptychref1_Value {args : List PV} {r : PV} (ha : args.length = 1) (h : awp x_diptychref1_Value c_diptychref1_Value (bodyR Tryz.prog [.tmp 2] r []) (initSt args [])) : PC Tryz.prog 58 args r :=
  pc_of_awp (X := x_diptychref1_Value) mixed Tryz.func58 (c := c_diptychref1_Value) (by kernel_rfl) (by kernel_rfl) (rs := [.tmp 2]) (by kernel_rfl) (by kernel_rfl) (by rw [ha]; decide) h
noncomputable def c_diptychref1_Formed : Code := (Tryz.f56.body).getD .skip
def nf_diptychref1_Formed : List (Nat × Nf) := []
def fp_diptychref1_Formed : List (Nat × List Nat) := []
def an_diptychref1_Formed : Nat → Ann
  | 0 => ⟨[1], [1], [], [], [1]⟩
  | 1 => ⟨[1, 8], [1], [], [], [1]⟩
  | 2 => ⟨[2], [], [], [], []⟩
  | 3 => ⟨[1, 3], [1, 3], [.thaw 3 3 1], [], [1, 3]⟩
  | 4 => ⟨[1, 3, 4], [1, 3], [], [], [1, 3]⟩
  | 5 => ⟨[1, 3, 4, 38], [1, 3], [], [], [1, 3]⟩
  | 6 => ⟨[1, 3, 4], [1, 3], [], [], [1, 3]⟩
  | 7 => ⟨[1, 3, 4], [1, 3], [], [], [1, 3]⟩
  | 8 => ⟨[1, 3, 4, 57], [1, 3], [], [], [1, 3]⟩
  | 9 => ⟨[2], [], [], [], []⟩
  | 10 => ⟨[1, 77], [1], [], [], [1]⟩
  | 11 => ⟨[2], [], [], [], []⟩
  | 12 => ⟨[1, 5], [1], [], [], [1]⟩
  | 13 => ⟨[1, 5, 82], [1], [], [], [1]⟩
  | 14 => ⟨[1, 5], [1], [], [], [1]⟩
  | 15 => ⟨[1, 5, 130], [1], [], [], [1]⟩
  | 16 => ⟨[2], [], [], [], []⟩
  | 17 => ⟨[2], [], [], [], []⟩
  | _ => ⟨[], [], [], [], []⟩
noncomputable abbrev x_diptychref1_Formed : Cx := ⟨Tryz.prog, ⟨id, nf_diptychref1_Formed, fp_diptychref1_Formed⟩, an_diptychref1_Formed⟩
theorem start_diptychref1_Formed {args : List PV} {r : PV} (ha : args.length = 1) (h : awp x_diptychref1_Formed c_diptychref1_Formed (bodyR Tryz.prog [.tmp 2] r []) (initSt args [])) : PC Tryz.prog 56 args r :=
  pc_of_awp (X := x_diptychref1_Formed) mixed Tryz.func56 (c := c_diptychref1_Formed) (by kernel_rfl) (by kernel_rfl) (rs := [.tmp 2]) (by kernel_rfl) (by kernel_rfl) (by rw [ha]; decide) h
noncomputable def c_diptychref11_Right : Code := (Tryz.f20.body).getD .skip
def nf_diptychref11_Right : List (Nat × Nf) := []
def fp_diptychref11_Right : List (Nat × List Nat) := []
def an_diptychref11_Right : Nat → Ann
  | 0 => ⟨[1], [1], [], [], [1]⟩
  | 1 => ⟨[1, 3], [1], [], [], [1]⟩
  | 2 => ⟨[1, 3, 20], [1], [], [], [1]⟩
  | 3 => ⟨[1, 3, 20, 21], [1], [], [], [1]⟩
  | 4 => ⟨[2], [], [], [], []⟩
  | 5 => ⟨[1, 3, 20, 48], [1], [], [], [1]⟩
  | 6 => ⟨[2], [], [], [], []⟩
  | 7 => ⟨[1, 3, 20, 79], [1], [], [], [1]⟩
  | 8 => ⟨[1, 3, 79], [1], [], [], [1]⟩
  | 9 => ⟨[2], [], [], [], []⟩
  | 10 => ⟨[2], [], [], [], []⟩
  | _ => ⟨[], [], [], [], []⟩
noncomputable abbrev x_diptychref11_Right : Cx := ⟨Tryz.prog, ⟨id, nf_diptychref11_Right, fp_diptychref11_Right⟩, an_diptychref11_Right⟩
theorem start_diptychref11_Right {args : List PV} {r : PV} (ha : args.length = 1) (h : awp x_diptychref11_Right c_diptychref11_Right (bodyR Tryz.prog [.tmp 2] r []) (initSt args [])) : PC Tryz.prog 20 args r :=
  pc_of_awp (X := x_diptychref11_Right) mixed Tryz.func20 (c := c_diptychref11_Right) (by kernel_rfl) (by kernel_rfl) (rs := [.tmp 2]) (by kernel_rfl) (by kernel_rfl) (by rw [ha]; decide) h
noncomputable def c_diptychref2_Quote : Code := (Tryz.f105.body).getD .skip
def nf_diptychref2_Quote : List (Nat × Nf) := []
def fp_diptychref2_Quote : List (Nat × List Nat) := []
def an_diptychref2_Quote : Nat → Ann
  | 0 => ⟨[0], [], [], [], []⟩
  | 1 => ⟨[0, 3], [], [], [], []⟩
  | 2 => ⟨[0, 3, 4], [], [], [], []⟩
  | 3 => ⟨[0, 3, 4, 8], [], [], [], []⟩
  | 4 => ⟨[0, 3, 4], [], [], [], []⟩
  | 5 => ⟨[0, 3, 4, 20], [], [], [], []⟩
  | 6 => ⟨[0, 3, 4], [], [], [], []⟩
  | 7 => ⟨[0, 3, 4], [], [], [], []⟩
  | 8 => ⟨[2], [], [], [], []⟩
  | _ => ⟨[], [], [], [], []⟩
noncomputable abbrev x_diptychref2_Quote : Cx := ⟨Tryz.prog, ⟨id, nf_diptychref2_Quote, fp_diptychref2_Quote⟩, an_diptychref2_Quote⟩
theorem start_diptychref2_Quote {args : List PV} {r : PV} (ha : args.length = 1) (h : awp x_diptychref2_Quote c_diptychref2_Quote (bodyR Tryz.prog [.tmp 2] r []) (initSt args [])) : PC Tryz.prog 105 args r :=
  pc_of_awp (X := x_diptychref2_Quote) mixed Tryz.func105 (c := c_diptychref2_Quote) (by kernel_rfl) (by kernel_rfl) (rs := [.tmp 2]) (by kernel_rfl) (by kernel_rfl) (by rw [ha]; decide) h
noncomputable def c_diptychref2_Head : Code := (Tryz.f88.body).getD .skip
def nf_diptychref2_Head : List (Nat × Nf) := []
def fp_diptychref2_Head : List (Nat × List Nat) := []
def an_diptychref2_Head : Nat → Ann
  | 0 => ⟨[1], [1], [], [], [1]⟩
  | 1 => ⟨[1, 3], [1], [], [], [1]⟩
  | 2 => ⟨[1, 3, 8], [1], [], [], [1]⟩
  | 3 => ⟨[1, 3, 4], [1], [], [], [1]⟩
  | 4 => ⟨[1, 3, 4, 13], [1], [], [], [1]⟩
  | 5 => ⟨[1, 3, 4], [1], [], [], [1]⟩
  | 6 => ⟨[1, 3, 4, 17], [1], [], [], [1]⟩
  | 7 => ⟨[1, 3, 4], [1], [], [], [1]⟩
  | 8 => ⟨[1, 3, 4], [1], [], [], [1]⟩
  | 9 => ⟨[3, 30], [], [], [], []⟩
  | 10 => ⟨[3], [], [], [], []⟩
  | 11 => ⟨[2], [], [], [], []⟩
  | 12 => ⟨[1, 3, 5], [1], [], [], [1]⟩
  | 13 => ⟨[1, 3, 5, 39], [1], [], [], [1]⟩
  | 14 => ⟨[1, 3, 5], [1], [], [], [1]⟩
  | 15 => ⟨[1, 3, 5, 43], [1], [], [], [1]⟩
  | 16 => ⟨[1, 3, 5], [1], [], [], [1]⟩
  | 17 => ⟨[1, 3, 5], [1], [], [], [1]⟩
  | 18 => ⟨[1, 3, 66], [1], [], [], [1]⟩
  | 19 => ⟨[1, 3], [1], [], [], [1]⟩
  | 20 => ⟨[2], [], [], [], []⟩
  | _ => ⟨[], [], [], [], []⟩
noncomputable abbrev x_diptychref2_Head : Cx := ⟨Tryz.prog, ⟨id, nf_diptychref2_Head, fp_diptychref2_Head⟩, an_diptychref2_Head⟩
theorem start_diptychref2_Head {args : List PV} {r : PV} (ha : args.length = 1) (h : awp x_diptychref2_Head c_diptychref2_Head (bodyR Tryz.prog [.tmp 2] r []) (initSt args [])) : PC Tryz.prog 88 args r :=
  pc_of_awp (X := x_diptychref2_Head) mixed Tryz.func88 (c := c_diptychref2_Head) (by kernel_rfl) (by kernel_rfl) (rs := [.tmp 2]) (by kernel_rfl) (by kernel_rfl) (by rw [ha]; decide) h
noncomputable def c_diptychref2_Write : Code := (Tryz.f93.body).getD .skip
def nf_diptychref2_Write : List (Nat × Nf) := []
def fp_diptychref2_Write : List (Nat × List Nat) := []
def an_diptychref2_Write : Nat → Ann
  | 0 => ⟨[1], [1], [], [], [1]⟩
  | 1 => ⟨[1, 5], [1], [], [], [1]⟩
  | 2 => ⟨[2], [], [], [], []⟩
  | 3 => ⟨[2], [], [], [], []⟩
  | _ => ⟨[], [], [], [], []⟩
noncomputable abbrev x_diptychref2_Write : Cx := ⟨Tryz.prog, ⟨id, nf_diptychref2_Write, fp_diptychref2_Write⟩, an_diptychref2_Write⟩
theorem start_diptychref2_Write {args : List PV} {r : PV} (ha : args.length = 1) (h : awp x_diptychref2_Write c_diptychref2_Write (bodyR Tryz.prog [.tmp 2] r []) (initSt args [])) : PC Tryz.prog 93 args r :=
  pc_of_awp (X := x_diptychref2_Write) mixed Tryz.func93 (c := c_diptychref2_Write) (by kernel_rfl) (by kernel_rfl) (rs := [.tmp 2]) (by kernel_rfl) (by kernel_rfl) (by rw [ha]; decide) h
noncomputable def c_diptychref2_WriteAll : Code := (Tryz.f103.body).getD .skip
def nf_diptychref2_WriteAll : List (Nat × Nf) := []
def fp_diptychref2_WriteAll : List (Nat × List Nat) := []
def an_diptychref2_WriteAll : Nat → Ann
  | 0 => ⟨[0], [], [], [], []⟩
  | 1 => ⟨[0, 3], [], [], [], []⟩
  | 2 => ⟨[0, 3, 4], [], [], [], []⟩
  | 3 => ⟨[0, 3, 4, 8], [], [], [], []⟩
  | 4 => ⟨[0, 3, 4], [], [], [], []⟩
  | 5 => ⟨[0, 3, 4], [], [], [], []⟩
  | 6 => ⟨[2], [], [], [], []⟩
  | _ => ⟨[], [], [], [], []⟩
noncomputable abbrev x_diptychref2_WriteAll : Cx := ⟨Tryz.prog, ⟨id, nf_diptychref2_WriteAll, fp_diptychref2_WriteAll⟩, an_diptychref2_WriteAll⟩
theorem start_diptychref2_WriteAll {args : List PV} {r : PV} (ha : args.length = 1) (h : awp x_diptychref2_WriteAll c_diptychref2_WriteAll (bodyR Tryz.prog [.tmp 2] r []) (initSt args [])) : PC Tryz.prog 103 args r :=
  pc_of_awp (X := x_diptychref2_WriteAll) mixed Tryz.func103 (c := c_diptychref2_WriteAll) (by kernel_rfl) (by kernel_rfl) (rs := [.tmp 2]) (by kernel_rfl) (by kernel_rfl) (by rw [ha]; decide) h
noncomputable def c_diptychref1_Depth : Code := (Tryz.f33.body).getD .skip
def nf_diptychref1_Depth : List (Nat × Nf) := []
def fp_diptychref1_Depth : List (Nat × List Nat) := []
def an_diptychref1_Depth : Nat → Ann
  | 0 => ⟨[1], [1], [], [], [1]⟩
  | 1 => ⟨[1, 7], [1], [], [], [1]⟩
  | 2 => ⟨[2], [], [], [], []⟩
  | 3 => ⟨[1, 3], [1], [], [], [1]⟩
  | 4 => ⟨[1, 3, 4], [1], [], [], [1]⟩
  | 5 => ⟨[1, 3, 4, 12], [1], [], [], [1]⟩
  | 6 => ⟨[1, 3, 4], [1], [], [], [1]⟩
  | 7 => ⟨[1, 3, 4], [1], [], [], [1]⟩
  | 8 => ⟨[2], [], [], [], []⟩
  | _ => ⟨[], [], [], [], []⟩
noncomputable abbrev x_diptychref1_Depth : Cx := ⟨Tryz.prog, ⟨id, nf_diptychref1_Depth, fp_diptychref1_Depth⟩, an_diptychref1_Depth⟩
theorem start_diptychref1_Depth {args : List PV} {r : PV} (ha : args.length = 1) (h : awp x_diptychref1_Depth c_diptychref1_Depth (bodyR Tryz.prog [.tmp 2] r []) (initSt args [])) : PC Tryz.prog 33 args r :=
  pc_of_awp (X := x_diptychref1_Depth) mixed Tryz.func33 (c := c_diptychref1_Depth) (by kernel_rfl) (by kernel_rfl) (rs := [.tmp 2]) (by kernel_rfl) (by kernel_rfl) (by rw [ha]; decide) h
noncomputable def c_diptychref1_Total : Code := (Tryz.f50.body).getD .skip
def nf_diptychref1_Total : List (Nat × Nf) := []
def fp_diptychref1_Total : List (Nat × List Nat) := []
def an_diptychref1_Total : Nat → Ann
  | 0 => ⟨[0], [], [], [], []⟩
  | 1 => ⟨[0, 3], [], [], [], []⟩
  | 2 => ⟨[0, 3, 4], [], [], [], []⟩
  | 3 => ⟨[0, 3, 4, 8], [], [], [], []⟩
  | 4 => ⟨[0, 3, 4], [], [], [], []⟩
  | 5 => ⟨[0, 3, 4], [], [], [], []⟩
  | 6 => ⟨[2], [], [], [], []⟩
  | _ => ⟨[], [], [], [], []⟩
noncomputable abbrev x_diptychref1_Total : Cx := ⟨Tryz.prog, ⟨id, nf_diptychref1_Total, fp_diptychref1_Total⟩, an_diptychref1_Total⟩
theorem start_diptychref1_Total {args : List PV} {r : PV} (ha : args.length = 1) (h : awp x_diptychref1_Total c_diptychref1_Total (bodyR Tryz.prog [.tmp 2] r []) (initSt args [])) : PC Tryz.prog 50 args r :=
  pc_of_awp (X := x_diptychref1_Total) mixed Tryz.func50 (c := c_diptychref1_Total) (by kernel_rfl) (by kernel_rfl) (rs := [.tmp 2]) (by kernel_rfl) (by kernel_rfl) (by rw [ha]; decide) h
noncomputable def c_diptychref1_Size : Code := (Tryz.f82.body).getD .skip
def nf_diptychref1_Size : List (Nat × Nf) := []
def fp_diptychref1_Size : List (Nat × List Nat) := []
def an_diptychref1_Size : Nat → Ann
  | 0 => ⟨[1], [1], [], [], [1]⟩
  | 1 => ⟨[1, 7], [1], [], [], [1]⟩
  | 2 => ⟨[3], [], [], [], []⟩
  | 3 => ⟨[2], [], [], [], []⟩
  | 4 => ⟨[2], [], [], [], []⟩
  | _ => ⟨[], [], [], [], []⟩
noncomputable abbrev x_diptychref1_Size : Cx := ⟨Tryz.prog, ⟨id, nf_diptychref1_Size, fp_diptychref1_Size⟩, an_diptychref1_Size⟩
theorem start_diptychref1_Size {args : List PV} {r : PV} (ha : args.length = 1) (h : awp x_diptychref1_Size c_diptychref1_Size (bodyR Tryz.prog [.tmp 2] r []) (initSt args [])) : PC Tryz.prog 82 args r :=
  pc_of_awp (X := x_diptychref1_Size) mixed Tryz.func82 (c := c_diptychref1_Size) (by kernel_rfl) (by kernel_rfl) (rs := [.tmp 2]) (by kernel_rfl) (by kernel_rfl) (by rw [ha]; decide) h
noncomputable def c_diptychref1_Check : Code := (Tryz.f42.body).getD .skip
def nf_diptychref1_Check : List (Nat × Nf) := []
def fp_diptychref1_Check : List (Nat × List Nat) := []
def an_diptychref1_Check : Nat → Ann
  | 0 => ⟨[1], [1], [], [], [1]⟩
  | 1 => ⟨[1, 5], [1], [], [], [1]⟩
  | 2 => ⟨[2], [], [], [], []⟩
  | 3 => ⟨[1, 8], [1], [], [], [1]⟩
  | 4 => ⟨[2], [], [], [], []⟩
  | 5 => ⟨[11], [], [], [], []⟩
  | 6 => ⟨[2], [], [], [], []⟩
  | 7 => ⟨[2], [], [], [], []⟩
  | _ => ⟨[], [], [], [], []⟩
noncomputable abbrev x_diptychref1_Check : Cx := ⟨Tryz.prog, ⟨id, nf_diptychref1_Check, fp_diptychref1_Check⟩, an_diptychref1_Check⟩
theorem start_diptychref1_Check {args : List PV} {r : PV} (ha : args.length = 1) (h : awp x_diptychref1_Check c_diptychref1_Check (bodyR Tryz.prog [.tmp 2] r []) (initSt args [])) : PC Tryz.prog 42 args r :=
  pc_of_awp (X := x_diptychref1_Check) mixed Tryz.func42 (c := c_diptychref1_Check) (by kernel_rfl) (by kernel_rfl) (rs := [.tmp 2]) (by kernel_rfl) (by kernel_rfl) (by rw [ha]; decide) h
noncomputable def c_diptychref2_PrintAll : Code := (Tryz.f64.body).getD .skip
def nf_diptychref2_PrintAll : List (Nat × Nf) := [(6, [none, none, some 1, some 2, none])]
def fp_diptychref2_PrintAll : List (Nat × List Nat) := []
def an_diptychref2_PrintAll : Nat → Ann
  | 0 => ⟨[0], [], [], [], []⟩
  | 1 => ⟨[0, 4], [], [], [], []⟩
  | 2 => ⟨[0, 4, 9], [], [], [], []⟩
  | 3 => ⟨[2, 3], [], [], [], []⟩
  | 4 => ⟨[2, 3], [], [], [], []⟩
  | _ => ⟨[], [], [], [], []⟩
noncomputable abbrev x_diptychref2_PrintAll : Cx := ⟨Tryz.prog, ⟨id, nf_diptychref2_PrintAll, fp_diptychref2_PrintAll⟩, an_diptychref2_PrintAll⟩
theorem start_diptychref2_PrintAll {args : List PV} {r : PV} (ha : args.length = 1) (h : awp x_diptychref2_PrintAll c_diptychref2_PrintAll (bodyR Tryz.prog [.tmp 2, .tmp 3] r []) (initSt args [])) : PC Tryz.prog 64 args r :=
  pc_of_awp (X := x_diptychref2_PrintAll) mixed Tryz.func64 (c := c_diptychref2_PrintAll) (by kernel_rfl) (by kernel_rfl) (rs := [.tmp 2, .tmp 3]) (by kernel_rfl) (by kernel_rfl) (by rw [ha]; decide) h
noncomputable def c_diptychref12_Decimal : Code := (Tryz.f104.body).getD .skip
def nf_diptychref12_Decimal : List (Nat × Nf) := []
def fp_diptychref12_Decimal : List (Nat × List Nat) := []
def an_diptychref12_Decimal : Nat → Ann
  | 0 => ⟨[0], [], [], [], []⟩
  | 1 => ⟨[0, 5], [], [], [], []⟩
  | 2 => ⟨[2], [], [], [], []⟩
  | 3 => ⟨[0, 3], [], [], [], []⟩
  | 4 => ⟨[0, 3, 15], [], [], [], []⟩
  | 5 => ⟨[0, 3], [], [], [], []⟩
  | 6 => ⟨[0, 3], [], [], [], []⟩
  | 7 => ⟨[2], [], [], [], []⟩
  | _ => ⟨[], [], [], [], []⟩
noncomputable abbrev x_diptychref12_Decimal : Cx := ⟨Tryz.prog, ⟨id, nf_diptychref12_Decimal, fp_diptychref12_Decimal⟩, an_diptychref12_Decimal⟩
theorem start_diptychref12_Decimal {args : List PV} {r : PV} (ha : args.length = 1) (h : awp x_diptychref12_Decimal c_diptychref12_Decimal (bodyR Tryz.prog [.tmp 2] r []) (initSt args [])) : PC Tryz.prog 104 args r :=
  pc_of_awp (X := x_diptychref12_Decimal) mixed Tryz.func104 (c := c_diptychref12_Decimal) (by kernel_rfl) (by kernel_rfl) (rs := [.tmp 2]) (by kernel_rfl) (by kernel_rfl) (by rw [ha]; decide) h
noncomputable def c_diptychref12_Write : Code := (Tryz.f65.body).getD .skip
def nf_diptychref12_Write : List (Nat × Nf) := []
def fp_diptychref12_Write : List (Nat × List Nat) := []
def an_diptychref12_Write : Nat → Ann
  | 0 => ⟨[1], [1], [], [], [1]⟩
  | 1 => ⟨[1, 5], [1], [], [], [1]⟩
  | 2 => ⟨[1, 5, 6], [1], [], [], [1]⟩
  | 3 => ⟨[1, 3], [1], [], [], [1]⟩
  | 4 => ⟨[1, 3, 20], [1], [], [], [1]⟩
  | 5 => ⟨[3], [], [], [], []⟩
  | 6 => ⟨[2], [], [], [], []⟩
  | 7 => ⟨[1, 5, 28], [1], [], [], [1]⟩
  | 8 => ⟨[2], [], [], [], []⟩
  | 9 => ⟨[1, 43], [1], [], [], [1]⟩
  | 10 => ⟨[2], [], [], [], []⟩
  | 11 => ⟨[2], [], [], [], []⟩
  | _ => ⟨[], [], [], [], []⟩
noncomputable abbrev x_diptychref12_Write : Cx := ⟨Tryz.prog, ⟨id, nf_diptychref12_Write, fp_diptychref12_Write⟩, an_diptychref12_Write⟩
theorem start_diptychref12_Write {args : List PV} {r : PV} (ha : args.length = 1) (h : awp x_diptychref12_Write c_diptychref12_Write (bodyR Tryz.prog [.tmp 2] r []) (initSt args [])) : PC Tryz.prog 65 args r :=
  pc_of_awp (X := x_diptychref12_Write) mixed Tryz.func65 (c := c_diptychref12_Write) (by kernel_rfl) (by kernel_rfl) (rs := [.tmp 2]) (by kernel_rfl) (by kernel_rfl) (by rw [ha]; decide) h
noncomputable def c_diptychref12_Print : Code := (Tryz.f26.body).getD .skip
def nf_diptychref12_Print : List (Nat × Nf) := []
def fp_diptychref12_Print : List (Nat × List Nat) := []
def an_diptychref12_Print : Nat → Ann
  | 0 => ⟨[1], [1], [], [], [1]⟩
  | 1 => ⟨[1, 8], [1], [], [], [1]⟩
  | 2 => ⟨[2, 3], [], [], [], []⟩
  | 3 => ⟨[1, 5], [1], [], [], [1]⟩
  | 4 => ⟨[1, 5, 16], [1], [], [], [1]⟩
  | 5 => ⟨[2, 3], [], [], [], []⟩
  | 6 => ⟨[2, 3], [], [], [], []⟩
  | _ => ⟨[], [], [], [], []⟩
noncomputable abbrev x_diptychref12_Print : Cx := ⟨Tryz.prog, ⟨id, nf_diptychref12_Print, fp_diptychref12_Print⟩, an_diptychref12_Print⟩
theorem start_diptychref12_Print {args : List PV} {r : PV} (ha : args.length = 1) (h : awp x_diptychref12_Print c_diptychref12_Print (bodyR Tryz.prog [.tmp 2, .tmp 3] r []) (initSt args [])) : PC Tryz.prog 26 args r :=
  pc_of_awp (X := x_diptychref12_Print) mixed Tryz.func26 (c := c_diptychref12_Print) (by kernel_rfl) (by kernel_rfl) (rs := [.tmp 2, .tmp 3]) (by kernel_rfl) (by kernel_rfl) (by rw [ha]; decide) h
noncomputable def c_diptychlaw12_asStep : Code := (Tryz.f27.body).getD .skip
def nf_diptychlaw12_asStep : List (Nat × Nf) := []
def fp_diptychlaw12_asStep : List (Nat × List Nat) := []
def an_diptychlaw12_asStep : Nat → Ann
  | 0 => ⟨[1, 2], [1, 2], [.nrm 2 [none, none, none, some 5, none, none]], [], [1, 2]⟩
  | 1 => ⟨[2], [2], [], [], [2]⟩
  | _ => ⟨[], [], [], [], []⟩
noncomputable abbrev x_diptychlaw12_asStep : Cx := ⟨Tryz.prog, ⟨id, nf_diptychlaw12_asStep, fp_diptychlaw12_asStep⟩, an_diptychlaw12_asStep⟩
theorem start_diptychlaw12_asStep {args : List PV} {r : PV} (ha : args.length = 1) (h : awp x_diptychlaw12_asStep c_diptychlaw12_asStep (bodyR Tryz.prog [.cell 2 48] r []) (initSt args [])) : PC Tryz.prog 27 args r :=
  pc_of_awp (X := x_diptychlaw12_asStep) mixed Tryz.func27 (c := c_diptychlaw12_asStep) (by kernel_rfl) (by kernel_rfl) (rs := [.cell 2 48]) (by kernel_rfl) (by kernel_rfl) (by rw [ha]; decide) h
noncomputable def c_wire_PrintAll : Code := (Tryz.f28.body).getD .skip
def nf_wire_PrintAll : List (Nat × Nf) := []
def fp_wire_PrintAll : List (Nat × List Nat) := []
def an_wire_PrintAll : Nat → Ann
  | 0 => ⟨[0], [], [], [], []⟩
  | 1 => ⟨[0, 4], [4, 329], [.self 4 0, .thawB 4 1 329 5], [], [4, 329]⟩
  | 2 => ⟨[4, 9, 10, 11], [4, 329], [], [], [4, 329]⟩
  | 3 => ⟨[4, 9, 10, 11, 12], [4, 329], [], [], [4, 329]⟩
  | 4 => ⟨[4, 6, 9, 10, 11], [4, 6, 329], [], [], [4, 6, 329]⟩
  | 5 => ⟨[4, 7, 8, 9, 10, 11], [4, 329], [], [], [4, 329]⟩
  | 6 => ⟨[4, 7, 8, 9, 10, 11, 21], [4, 329], [], [], [4, 329]⟩
  | 7 => ⟨[2, 3], [], [], [], []⟩
  | 8 => ⟨[4, 9, 10, 11], [4, 329], [], [], [4, 329]⟩
  | 9 => ⟨[4, 9, 10, 11], [4, 329], [], [], [4, 329]⟩
  | 10 => ⟨[2, 3], [], [], [], []⟩
  | _ => ⟨[], [], [], [], []⟩
noncomputable abbrev x_wire_PrintAll : Cx := ⟨Tryz.prog, ⟨id, nf_wire_PrintAll, fp_wire_PrintAll⟩, an_wire_PrintAll⟩
theorem start_wire_PrintAll {args : List PV} {r : PV} (ha : args.length = 1) (h : awp x_wire_PrintAll c_wire_PrintAll (bodyR Tryz.prog [.tmp 2, .tmp 3] r []) (initSt args [])) : PC Tryz.prog 28 args r :=
  pc_of_awp (X := x_wire_PrintAll) mixed Tryz.func28 (c := c_wire_PrintAll) (by kernel_rfl) (by kernel_rfl) (rs := [.tmp 2, .tmp 3]) (by kernel_rfl) (by kernel_rfl) (by rw [ha]; decide) h
noncomputable def c_diptychref12_PrintAll : Code := (Tryz.f29.body).getD .skip
def nf_diptychref12_PrintAll : List (Nat × Nf) := []
def fp_diptychref12_PrintAll : List (Nat × List Nat) := []
def an_diptychref12_PrintAll : Nat → Ann
  | 0 => ⟨[0], [], [], [], []⟩
  | 1 => ⟨[0, 4], [], [], [], []⟩
  | 2 => ⟨[0, 4, 5], [], [], [], []⟩
  | 3 => ⟨[0, 4, 5, 11], [], [], [], []⟩
  | 4 => ⟨[0, 4, 5], [], [], [], []⟩
  | 5 => ⟨[0, 4, 5, 6, 7], [], [], [], []⟩
  | 6 => ⟨[0, 4, 5, 6, 7, 23], [], [], [], []⟩
  | 7 => ⟨[2, 3], [], [], [], []⟩
  | 8 => ⟨[0, 4, 5], [], [], [], []⟩
  | 9 => ⟨[2, 3], [], [], [], []⟩
  | _ => ⟨[], [], [], [], []⟩
noncomputable abbrev x_diptychref12_PrintAll : Cx := ⟨Tryz.prog, ⟨id, nf_diptychref12_PrintAll, fp_diptychref12_PrintAll⟩, an_diptychref12_PrintAll⟩
theorem start_diptychref12_PrintAll {args : List PV} {r : PV} (ha : args.length = 1) (h : awp x_diptychref12_PrintAll c_diptychref12_PrintAll (bodyR Tryz.prog [.tmp 2, .tmp 3] r []) (initSt args [])) : PC Tryz.prog 29 args r :=
  pc_of_awp (X := x_diptychref12_PrintAll) mixed Tryz.func29 (c := c_diptychref12_PrintAll) (by kernel_rfl) (by kernel_rfl) (rs := [.tmp 2, .tmp 3]) (by kernel_rfl) (by kernel_rfl) (by rw [ha]; decide) h
noncomputable def c_diptychlaw12_asSteps : Code := (Tryz.f30.body).getD .skip
def nf_diptychlaw12_asSteps : List (Nat × Nf) := []
def fp_diptychlaw12_asSteps : List (Nat × List Nat) := []
def an_diptychlaw12_asSteps : Nat → Ann
  | 0 => ⟨[0], [], [], [], []⟩
  | 1 => ⟨[0, 3], [3], [.thaw 3 3 6], [], [3]⟩
  | 2 => ⟨[0, 3, 4], [3], [], [], [3]⟩
  | 3 => ⟨[0, 3, 4, 8], [3], [], [], [3]⟩
  | 4 => ⟨[0, 3, 4], [3], [], [], [3]⟩
  | 5 => ⟨[0, 3, 4], [3], [], [], [3]⟩
  | 6 => ⟨[2], [3], [], [.ren 3 2], [2, 3]⟩
  | _ => ⟨[], [], [], [], []⟩
noncomputable abbrev x_diptychlaw12_asSteps : Cx := ⟨Tryz.prog, ⟨id, nf_diptychlaw12_asSteps, fp_diptychlaw12_asSteps⟩, an_diptychlaw12_asSteps⟩
theorem start_diptychlaw12_asSteps {args : List PV} {r : PV} (ha : args.length = 1) (h : awp x_diptychlaw12_asSteps c_diptychlaw12_asSteps (bodyR Tryz.prog [.tmp 2] r []) (initSt args [])) : PC Tryz.prog 30 args r :=
  pc_of_awp (X := x_diptychlaw12_asSteps) mixed Tryz.func30 (c := c_diptychlaw12_asSteps) (by kernel_rfl) (by kernel_rfl) (rs := [.tmp 2]) (by kernel_rfl) (by kernel_rfl) (by rw [ha]; decide) h
noncomputable def c_diptychlaw12_WirePrints : Code := (Tryz.f5.body).getD .skip
def nf_diptychlaw12_WirePrints : List (Nat × Nf) := []
def fp_diptychlaw12_WirePrints : List (Nat × List Nat) := []
def an_diptychlaw12_WirePrints : Nat → Ann
  | 0 => ⟨[0], [], [], [], []⟩
  | 1 => ⟨[0, 3], [], [], [], []⟩
  | 2 => ⟨[0, 3, 4], [], [], [], []⟩
  | 3 => ⟨[0, 3, 22], [], [], [], []⟩
  | 4 => ⟨[2], [], [], [], []⟩
  | 5 => ⟨[0, 5], [], [], [], []⟩
  | 6 => ⟨[0, 5, 27], [], [], [], []⟩
  | 7 => ⟨[0, 5], [], [], [], []⟩
  | 8 => ⟨[0, 5, 6, 7], [], [], [], []⟩
  | 9 => ⟨[0, 5, 6, 7, 8, 9], [], [], [], []⟩
  | 10 => ⟨[0, 5, 54], [], [], [], []⟩
  | 11 => ⟨[2], [], [], [], []⟩
  | 12 => ⟨[0, 10, 11], [], [], [], []⟩
  | 13 => ⟨[10, 11, 12, 13], [], [], [], []⟩
  | 14 => ⟨[2], [], [], [], []⟩
  | _ => ⟨[], [], [], [], []⟩
noncomputable abbrev x_diptychlaw12_WirePrints : Cx := ⟨Tryz.prog, ⟨id, nf_diptychlaw12_WirePrints, fp_diptychlaw12_WirePrints⟩, an_diptychlaw12_WirePrints⟩
theorem start_diptychlaw12_WirePrints {args : List PV} {r : PV} (ha : args.length = 1) (h : awp x_diptychlaw12_WirePrints c_diptychlaw12_WirePrints (bodyR Tryz.prog [.tmp 2] r []) (initSt args [])) : PC Tryz.prog 5 args r :=
  pc_of_awp (X := x_diptychlaw12_WirePrints) mixed Tryz.func5 (c := c_diptychlaw12_WirePrints) (by kernel_rfl) (by kernel_rfl) (rs := [.tmp 2]) (by kernel_rfl) (by kernel_rfl) (by rw [ha]; decide) h
attribute [go_sem] an_node_isText nf_node_isText fp_node_isText an_unicode_utf8_RuneCountInString nf_unicode_utf8_RuneCountInString fp_unicode_utf8_RuneCountInString an_node_Total nf_node_Total fp_node_Total an_node_Size nf_node_Size fp_node_Size an_slices_Equal_string nf_slices_Equal_string fp_slices_Equal_string an_node_alike nf_node_alike fp_node_alike an_node_Name nf_node_Name fp_node_Name an_node_rise nf_node_rise fp_node_rise an_node_Value nf_node_Value fp_node_Value an_node_formed nf_node_formed fp_node_formed an_node_Depth nf_node_Depth fp_node_Depth an_node_Check nf_node_Check fp_node_Check an_step_Right nf_step_Right fp_step_Right an_codec_Quote nf_codec_Quote fp_codec_Quote an_codec_Head nf_codec_Head fp_codec_Head an_strings_Builder_WriteString_x nf_strings_Builder_WriteString_x fp_strings_Builder_WriteString_x an_codec_write_x nf_codec_write_x fp_codec_write_x an_codec_Print nf_codec_Print fp_codec_Print an_codec_PrintAll nf_codec_PrintAll fp_codec_PrintAll an_wire_write nf_wire_write fp_wire_write an_wire_Print nf_wire_Print fp_wire_Print an_diptychlaw12_shown nf_diptychlaw12_shown fp_diptychlaw12_shown an_diptychlaw12_light nf_diptychlaw12_light fp_diptychlaw12_light an_diptychlaw12_few nf_diptychlaw12_few fp_diptychlaw12_few an_diptychref1_sameNames nf_diptychref1_sameNames fp_diptychref1_sameNames an_diptychref1_Same nf_diptychref1_Same fp_diptychref1_Same an_diptychref1_SameAll nf_diptychref1_SameAll fp_diptychref1_SameAll an_diptychref1_Join nf_diptychref1_Join fp_diptychref1_Join an_diptychref1_Name nf_diptychref1_Name fp_diptychref1_Name an_diptychref1_rise nf_diptychref1_rise fp_diptychref1_rise an_diptychref1_runes nf_diptychref1_runes fp_diptychref1_runes an_diptychref1_formed nf_diptychref1_formed fp_diptychref1_formed an_diptychref1_Value nf_diptychref1_Value fp_diptychref1_Value an_diptychref1_Formed nf_diptychref1_Formed fp_diptychref1_Formed an_diptychref11_Right nf_diptychref11_Right fp_diptychref11_Right an_diptychref2_Quote nf_diptychref2_Quote fp_diptychref2_Quote an_diptychref2_Head nf_diptychref2_Head fp_diptychref2_Head an_diptychref2_Write nf_diptychref2_Write fp_diptychref2_Write an_diptychref2_WriteAll nf_diptychref2_WriteAll fp_diptychref2_WriteAll an_diptychref1_Depth nf_diptychref1_Depth fp_diptychref1_Depth an_diptychref1_Total nf_diptychref1_Total fp_diptychref1_Total an_diptychref1_Size nf_diptychref1_Size fp_diptychref1_Size an_diptychref1_Check nf_diptychref1_Check fp_diptychref1_Check an_diptychref2_PrintAll nf_diptychref2_PrintAll fp_diptychref2_PrintAll an_diptychref12_Decimal nf_diptychref12_Decimal fp_diptychref12_Decimal an_diptychref12_Write nf_diptychref12_Write fp_diptychref12_Write an_diptychref12_Print nf_diptychref12_Print fp_diptychref12_Print an_diptychlaw12_asStep nf_diptychlaw12_asStep fp_diptychlaw12_asStep an_wire_PrintAll nf_wire_PrintAll fp_wire_PrintAll an_diptychref12_PrintAll nf_diptychref12_PrintAll fp_diptychref12_PrintAll an_diptychlaw12_asSteps nf_diptychlaw12_asSteps fp_diptychlaw12_asSteps an_diptychlaw12_WirePrints nf_diptychlaw12_WirePrints fp_diptychlaw12_WirePrints ty3 ty4 ty5 ty9 ty21 ty24 ty25 ty26 ty28 ty31 ty33 ty48 ty51 ty54 ty87 ty104 ty105 ty107 ty136 api_Attr.pv_eq api_Node.pv_eq step_Step.pv_eq diptychref11_Step.pv_eq pvL

end Go.Proofs.YtclohbgnaopjfaaGreatDoor
