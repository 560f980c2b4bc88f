/- Code, and what is kept. -/
import Derived.Test.YtclohbgnaopjfaaDoorAgT
import Derived.Test.YtclohbgnaopjfaaDoorAwT
namespace Go.Proofs.YtclohbgnaopjfaaDoor
set_option linter.unusedSimpArgs false
set_option linter.unusedVariables false
open Go
set_option maxRecDepth 100000

noncomputable def c_node_isText : Code := (Tryd.f58.body).getD .skip
def nf_node_isText : List (Nat × Nf) := []
def fp_node_isText : List (Nat × List Nat) := []
def an_node_isText : Nat → Ann
  | 0 => ⟨[1], [1], [], [], [1]⟩
  | 1 => ⟨[2], [], [], [], []⟩
  | _ => ⟨[], [], [], [], []⟩
noncomputable abbrev x_node_isText : Cx := ⟨Tryd.prog, ⟨id, nf_node_isText, fp_node_isText⟩, an_node_isText⟩
theorem start_node_isText {args : List PV} {r : PV} (ha : args.length = 1) (h : awp x_node_isText c_node_isText (bodyR Tryd.prog [.tmp 2] r []) (initSt args [])) : PC Tryd.prog 58 args r :=
  pc_of_awp (X := x_node_isText) mixed Tryd.func58 (c := c_node_isText) (by kernel_rfl) (by kernel_rfl) (rs := [.tmp 2]) (by kernel_rfl) (by kernel_rfl) (by rw [ha]; decide) h
noncomputable def c_unicode_utf8_RuneCountInString : Code := (Tryd.f63.body).getD .skip
def nf_unicode_utf8_RuneCountInString : List (Nat × Nf) := []
def fp_unicode_utf8_RuneCountInString : List (Nat × List Nat) := []
def an_unicode_utf8_RuneCountInString : Nat → Ann
  | 0 => ⟨[0, 2], [], [], [], []⟩
  | 1 => ⟨[2, 4], [4], [], [], [4]⟩
  | 2 => ⟨[2, 4, 6], [4], [], [], [4]⟩
  | 3 => ⟨[2, 4], [4], [], [], [4]⟩
  | 4 => ⟨[2], [], [], [], []⟩
  | _ => ⟨[], [], [], [], []⟩
noncomputable abbrev x_unicode_utf8_RuneCountInString : Cx := ⟨Tryd.prog, ⟨id, nf_unicode_utf8_RuneCountInString, fp_unicode_utf8_RuneCountInString⟩, an_unicode_utf8_RuneCountInString⟩
theorem start_unicode_utf8_RuneCountInString {args : List PV} {r : PV} (ha : args.length = 1) (h : awp x_unicode_utf8_RuneCountInString c_unicode_utf8_RuneCountInString (bodyR Tryd.prog [.tmp 2] r []) (initSt args [])) : PC Tryd.prog 63 args r :=
  pc_of_awp (X := x_unicode_utf8_RuneCountInString) mixed Tryd.func63 (c := c_unicode_utf8_RuneCountInString) (by kernel_rfl) (by kernel_rfl) (rs := [.tmp 2]) (by kernel_rfl) (by kernel_rfl) (by rw [ha]; decide) h
noncomputable def c_node_Total : Code := (Tryd.f27.body).getD .skip
def nf_node_Total : List (Nat × Nf) := []
def fp_node_Total : List (Nat × List Nat) := []
def an_node_Total : Nat → Ann
  | 0 => ⟨[0], [], [], [], []⟩
  | 1 => ⟨[0, 3], [], [], [], []⟩
  | 2 => ⟨[3, 6, 7, 8], [], [], [], []⟩
  | 3 => ⟨[3, 6, 7, 8, 9], [], [], [], []⟩
  | 4 => ⟨[3, 5, 6, 7, 8], [5], [], [], [5]⟩
  | 5 => ⟨[3, 6, 7, 8], [], [], [], []⟩
  | 6 => ⟨[3, 6, 7, 8], [], [], [], []⟩
  | 7 => ⟨[2], [], [], [], []⟩
  | _ => ⟨[], [], [], [], []⟩
noncomputable abbrev x_node_Total : Cx := ⟨Tryd.prog, ⟨id, nf_node_Total, fp_node_Total⟩, an_node_Total⟩
theorem start_node_Total {args : List PV} {r : PV} (ha : args.length = 1) (h : awp x_node_Total c_node_Total (bodyR Tryd.prog [.tmp 2] r []) (initSt args [])) : PC Tryd.prog 27 args r :=
  pc_of_awp (X := x_node_Total) mixed Tryd.func27 (c := c_node_Total) (by kernel_rfl) (by kernel_rfl) (rs := [.tmp 2]) (by kernel_rfl) (by kernel_rfl) (by rw [ha]; decide) h
noncomputable def c_node_Size : Code := (Tryd.f34.body).getD .skip
def nf_node_Size : List (Nat × Nf) := []
def fp_node_Size : List (Nat × List Nat) := []
def an_node_Size : Nat → Ann
  | 0 => ⟨[1], [1], [], [], [1]⟩
  | 1 => ⟨[1, 4], [1], [], [], [1]⟩
  | 2 => ⟨[2], [], [], [], []⟩
  | 3 => ⟨[2], [], [], [], []⟩
  | _ => ⟨[], [], [], [], []⟩
noncomputable abbrev x_node_Size : Cx := ⟨Tryd.prog, ⟨id, nf_node_Size, fp_node_Size⟩, an_node_Size⟩
theorem start_node_Size {args : List PV} {r : PV} (ha : args.length = 1) (h : awp x_node_Size c_node_Size (bodyR Tryd.prog [.tmp 2] r []) (initSt args [])) : PC Tryd.prog 34 args r :=
  pc_of_awp (X := x_node_Size) mixed Tryd.func34 (c := c_node_Size) (by kernel_rfl) (by kernel_rfl) (rs := [.tmp 2]) (by kernel_rfl) (by kernel_rfl) (by rw [ha]; decide) h
noncomputable def c_slices_Equal_string : Code := (Tryd.f42.body).getD .skip
def nf_slices_Equal_string : List (Nat × Nf) := []
def fp_slices_Equal_string : List (Nat × List Nat) := []
def an_slices_Equal_string : Nat → Ann
  | 0 => ⟨[0, 1], [], [], [], []⟩
  | 1 => ⟨[0, 1, 10], [], [], [], []⟩
  | 2 => ⟨[4], [], [], [], []⟩
  | 3 => ⟨[0, 1, 12, 13], [], [], [], []⟩
  | 4 => ⟨[0, 1, 12, 13, 14], [], [], [], []⟩
  | 5 => ⟨[0, 1, 5, 12, 13], [], [], [], []⟩
  | 6 => ⟨[0, 1, 12, 13, 24], [], [], [], []⟩
  | 7 => ⟨[4], [], [], [], []⟩
  | 8 => ⟨[0, 1, 12, 13], [], [], [], []⟩
  | 9 => ⟨[4], [], [], [], []⟩
  | _ => ⟨[], [], [], [], []⟩
noncomputable abbrev x_slices_Equal_string : Cx := ⟨Tryd.prog, ⟨id, nf_slices_Equal_string, fp_slices_Equal_string⟩, an_slices_Equal_string⟩
theorem start_slices_Equal_string {args : List PV} {r : PV} (ha : args.length = 2) (h : awp x_slices_Equal_string c_slices_Equal_string (bodyR Tryd.prog [.tmp 4] r []) (initSt args [])) : PC Tryd.prog 42 args r :=
  pc_of_awp (X := x_slices_Equal_string) mixed Tryd.func42 (c := c_slices_Equal_string) (by kernel_rfl) (by kernel_rfl) (rs := [.tmp 4]) (by kernel_rfl) (by kernel_rfl) (by rw [ha]; decide) h
noncomputable def c_node_alike : Code := (Tryd.f104.body).getD .skip
def nf_node_alike : List (Nat × Nf) := []
def fp_node_alike : List (Nat × List Nat) := []
def an_node_alike : Nat → Ann
  | 0 => ⟨[2, 3], [2, 3], [], [], [2, 3]⟩
  | 1 => ⟨[4], [], [], [], []⟩
  | _ => ⟨[], [], [], [], []⟩
noncomputable abbrev x_node_alike : Cx := ⟨Tryd.prog, ⟨id, nf_node_alike, fp_node_alike⟩, an_node_alike⟩
theorem start_node_alike {args : List PV} {r : PV} (ha : args.length = 2) (h : awp x_node_alike c_node_alike (bodyR Tryd.prog [.tmp 4] r []) (initSt args [])) : PC Tryd.prog 104 args r :=
  pc_of_awp (X := x_node_alike) mixed Tryd.func104 (c := c_node_alike) (by kernel_rfl) (by kernel_rfl) (rs := [.tmp 4]) (by kernel_rfl) (by kernel_rfl) (by rw [ha]; decide) h
noncomputable def c_node_Name : Code := (Tryd.f80.body).getD .skip
def nf_node_Name : List (Nat × Nf) := []
def fp_node_Name : List (Nat × List Nat) := []
def an_node_Name : Nat → Ann
  | 0 => ⟨[0], [], [], [], []⟩
  | 1 => ⟨[0, 3], [], [], [], []⟩
  | 2 => ⟨[2], [], [], [], []⟩
  | _ => ⟨[], [], [], [], []⟩
noncomputable abbrev x_node_Name : Cx := ⟨Tryd.prog, ⟨id, nf_node_Name, fp_node_Name⟩, an_node_Name⟩
theorem start_node_Name {args : List PV} {r : PV} (ha : args.length = 1) (h : awp x_node_Name c_node_Name (bodyR Tryd.prog [.tmp 2] r []) (initSt args [])) : PC Tryd.prog 80 args r :=
  pc_of_awp (X := x_node_Name) mixed Tryd.func80 (c := c_node_Name) (by kernel_rfl) (by kernel_rfl) (rs := [.tmp 2]) (by kernel_rfl) (by kernel_rfl) (by rw [ha]; decide) h
noncomputable def c_node_rise : Code := (Tryd.f111.body).getD .skip
def nf_node_rise : List (Nat × Nf) := []
def fp_node_rise : List (Nat × List Nat) := []
def an_node_rise : Nat → Ann
  | 0 => ⟨[0], [], [], [], []⟩
  | 1 => ⟨[0, 5, 6, 7], [], [], [], []⟩
  | 2 => ⟨[0, 5, 6, 7, 8], [], [], [], []⟩
  | 3 => ⟨[0, 3, 4, 5, 6, 7], [], [], [], []⟩
  | 4 => ⟨[0, 5, 6, 7, 27], [], [], [], []⟩
  | 5 => ⟨[2], [], [], [], []⟩
  | 6 => ⟨[0, 5, 6, 7], [], [], [], []⟩
  | 7 => ⟨[2], [], [], [], []⟩
  | _ => ⟨[], [], [], [], []⟩
noncomputable abbrev x_node_rise : Cx := ⟨Tryd.prog, ⟨id, nf_node_rise, fp_node_rise⟩, an_node_rise⟩
theorem start_node_rise {args : List PV} {r : PV} (ha : args.length = 1) (h : awp x_node_rise c_node_rise (bodyR Tryd.prog [.tmp 2] r []) (initSt args [])) : PC Tryd.prog 111 args r :=
  pc_of_awp (X := x_node_rise) mixed Tryd.func111 (c := c_node_rise) (by kernel_rfl) (by kernel_rfl) (rs := [.tmp 2]) (by kernel_rfl) (by kernel_rfl) (by rw [ha]; decide) h
noncomputable def c_node_Value : Code := (Tryd.f81.body).getD .skip
def nf_node_Value : List (Nat × Nf) := []
def fp_node_Value : List (Nat × List Nat) := []
def an_node_Value : Nat → Ann
  | 0 => ⟨[0], [], [], [], []⟩
  | 1 => ⟨[2], [], [], [], []⟩
  | _ => ⟨[], [], [], [], []⟩
noncomputable abbrev x_node_Value : Cx := ⟨Tryd.prog, ⟨id, nf_node_Value, fp_node_Value⟩, an_node_Value⟩
theorem start_node_Value {args : List PV} {r : PV} (ha : args.length = 1) (h : awp x_node_Value c_node_Value (bodyR Tryd.prog [.tmp 2] r []) (initSt args [])) : PC Tryd.prog 81 args r :=
  pc_of_awp (X := x_node_Value) mixed Tryd.func81 (c := c_node_Value) (by kernel_rfl) (by kernel_rfl) (rs := [.tmp 2]) (by kernel_rfl) (by kernel_rfl) (by rw [ha]; decide) h
noncomputable def c_node_formed : Code := (Tryd.f93.body).getD .skip
def nf_node_formed : List (Nat × Nf) := []
def fp_node_formed : List (Nat × List Nat) := []
def an_node_formed : Nat → Ann
  | 0 => ⟨[1], [1], [], [], [1]⟩
  | 1 => ⟨[1, 9], [1], [], [], [1]⟩
  | 2 => ⟨[2], [], [], [], []⟩
  | 3 => ⟨[1, 3], [1, 3], [.thaw 3 3 1], [], [1, 3]⟩
  | 4 => ⟨[1, 3, 34, 35, 36], [1, 3], [], [], [1, 3]⟩
  | 5 => ⟨[1, 3, 34, 35, 36, 37], [1, 3], [], [], [1, 3]⟩
  | 6 => ⟨[1, 3, 5, 34, 35, 36], [1, 3, 5], [], [], [1, 3, 5]⟩
  | 7 => ⟨[1, 3, 5, 34, 35, 36, 43], [1, 3, 5], [], [], [1, 3, 5]⟩
  | 8 => ⟨[2], [], [], [], []⟩
  | 9 => ⟨[1, 3, 34, 35, 36], [1, 3], [], [], [1, 3]⟩
  | 10 => ⟨[1, 3, 34, 35, 36], [1, 3], [], [], [1, 3]⟩
  | 11 => ⟨[1, 69], [1], [], [], [1]⟩
  | 12 => ⟨[2], [], [], [], []⟩
  | 13 => ⟨[1, 71, 72, 73], [1], [], [], [1]⟩
  | 14 => ⟨[1, 71, 72, 73, 74], [1], [], [], [1]⟩
  | 15 => ⟨[1, 6, 7, 71, 72, 73], [1, 7], [], [], [1, 7]⟩
  | 16 => ⟨[1, 71, 72, 73, 94], [1], [], [], [1]⟩
  | 17 => ⟨[2], [], [], [], []⟩
  | 18 => ⟨[1, 71, 72, 73], [1], [], [], [1]⟩
  | 19 => ⟨[2], [], [], [], []⟩
  | _ => ⟨[], [], [], [], []⟩
noncomputable abbrev x_node_formed : Cx := ⟨Tryd.prog, ⟨id, nf_node_formed, fp_node_formed⟩, an_node_formed⟩
theorem start_node_formed {args : List PV} {r : PV} (ha : args.length = 1) (h : awp x_node_formed c_node_formed (bodyR Tryd.prog [.tmp 2] r []) (initSt args [])) : PC Tryd.prog 93 args r :=
  pc_of_awp (X := x_node_formed) mixed Tryd.func93 (c := c_node_formed) (by kernel_rfl) (by kernel_rfl) (rs := [.tmp 2]) (by kernel_rfl) (by kernel_rfl) (by rw [ha]; decide) h
noncomputable def c_node_Depth : Code := (Tryd.f94.body).getD .skip
def nf_node_Depth : List (Nat × Nf) := []
def fp_node_Depth : List (Nat × List Nat) := []
def an_node_Depth : Nat → Ann
  | 0 => ⟨[1], [1], [], [], [1]⟩
  | 1 => ⟨[1, 7], [1], [], [], [1]⟩
  | 2 => ⟨[2], [], [], [], []⟩
  | 3 => ⟨[1, 3], [1], [], [], [1]⟩
  | 4 => ⟨[3, 9, 10, 11], [], [], [], []⟩
  | 5 => ⟨[3, 9, 10, 11, 12], [], [], [], []⟩
  | 6 => ⟨[3, 5, 9, 10, 11], [5], [], [], [5]⟩
  | 7 => ⟨[3, 9, 10, 11], [], [], [], []⟩
  | 8 => ⟨[3, 9, 10, 11], [], [], [], []⟩
  | 9 => ⟨[2], [], [], [], []⟩
  | _ => ⟨[], [], [], [], []⟩
noncomputable abbrev x_node_Depth : Cx := ⟨Tryd.prog, ⟨id, nf_node_Depth, fp_node_Depth⟩, an_node_Depth⟩
theorem start_node_Depth {args : List PV} {r : PV} (ha : args.length = 1) (h : awp x_node_Depth c_node_Depth (bodyR Tryd.prog [.tmp 2] r []) (initSt args [])) : PC Tryd.prog 94 args r :=
  pc_of_awp (X := x_node_Depth) mixed Tryd.func94 (c := c_node_Depth) (by kernel_rfl) (by kernel_rfl) (rs := [.tmp 2]) (by kernel_rfl) (by kernel_rfl) (by rw [ha]; decide) h
noncomputable def c_node_Check : Code := (Tryd.f64.body).getD .skip
def nf_node_Check : List (Nat × Nf) := []
def fp_node_Check : List (Nat × List Nat) := []
def an_node_Check : Nat → Ann
  | 0 => ⟨[1], [1], [], [], [1]⟩
  | 1 => ⟨[1, 3], [1], [], [], [1]⟩
  | 2 => ⟨[2], [], [], [], []⟩
  | 3 => ⟨[1, 7], [1], [], [], [1]⟩
  | 4 => ⟨[2], [], [], [], []⟩
  | 5 => ⟨[11], [], [], [], []⟩
  | 6 => ⟨[2], [], [], [], []⟩
  | 7 => ⟨[2], [], [], [], []⟩
  | _ => ⟨[], [], [], [], []⟩
noncomputable abbrev x_node_Check : Cx := ⟨Tryd.prog, ⟨id, nf_node_Check, fp_node_Check⟩, an_node_Check⟩
theorem start_node_Check {args : List PV} {r : PV} (ha : args.length = 1) (h : awp x_node_Check c_node_Check (bodyR Tryd.prog [.tmp 2] r []) (initSt args [])) : PC Tryd.prog 64 args r :=
  pc_of_awp (X := x_node_Check) mixed Tryd.func64 (c := c_node_Check) (by kernel_rfl) (by kernel_rfl) (rs := [.tmp 2]) (by kernel_rfl) (by kernel_rfl) (by rw [ha]; decide) h
noncomputable def c_step_Right : Code := (Tryd.f48.body).getD .skip
def nf_step_Right : List (Nat × Nf) := [(26, [none, none, some 1, some 2, none])]
def fp_step_Right : List (Nat × List Nat) := []
def an_step_Right : Nat → Ann
  | 0 => ⟨[1], [1], [], [], [1]⟩
  | 1 => ⟨[1, 3], [1], [], [], [1]⟩
  | 2 => ⟨[1, 3, 21], [1], [], [], [1]⟩
  | 3 => ⟨[1, 3, 21, 22], [1], [], [], [1]⟩
  | 4 => ⟨[1, 3, 4], [1], [], [], [1]⟩
  | 5 => ⟨[2], [], [], [], []⟩
  | 6 => ⟨[1, 3, 21, 41], [1], [], [], [1]⟩
  | 7 => ⟨[2], [], [], [], []⟩
  | 8 => ⟨[1, 3, 21, 72], [1], [], [], [1]⟩
  | 9 => ⟨[1, 3, 72], [1], [], [], [1]⟩
  | 10 => ⟨[2], [], [], [], []⟩
  | 11 => ⟨[2], [], [], [], []⟩
  | _ => ⟨[], [], [], [], []⟩
noncomputable abbrev x_step_Right : Cx := ⟨Tryd.prog, ⟨id, nf_step_Right, fp_step_Right⟩, an_step_Right⟩
theorem start_step_Right {args : List PV} {r : PV} (ha : args.length = 1) (h : awp x_step_Right c_step_Right (bodyR Tryd.prog [.tmp 2] r []) (initSt args [])) : PC Tryd.prog 48 args r :=
  pc_of_awp (X := x_step_Right) mixed Tryd.func48 (c := c_step_Right) (by kernel_rfl) (by kernel_rfl) (rs := [.tmp 2]) (by kernel_rfl) (by kernel_rfl) (by rw [ha]; decide) h
noncomputable def c_codec_Quote : Code := (Tryd.f86.body).getD .skip
def nf_codec_Quote : List (Nat × Nf) := []
def fp_codec_Quote : List (Nat × List Nat) := []
def an_codec_Quote : Nat → Ann
  | 0 => ⟨[0], [], [], [], []⟩
  | 1 => ⟨[0], [], [], [], []⟩
  | 2 => ⟨[2], [], [], [], []⟩
  | _ => ⟨[], [], [], [], []⟩
noncomputable abbrev x_codec_Quote : Cx := ⟨Tryd.prog, ⟨id, nf_codec_Quote, fp_codec_Quote⟩, an_codec_Quote⟩
theorem start_codec_Quote {args : List PV} {r : PV} (ha : args.length = 1) (h : awp x_codec_Quote c_codec_Quote (bodyR Tryd.prog [.tmp 2] r []) (initSt args [])) : PC Tryd.prog 86 args r :=
  pc_of_awp (X := x_codec_Quote) mixed Tryd.func86 (c := c_codec_Quote) (by kernel_rfl) (by kernel_rfl) (rs := [.tmp 2]) (by kernel_rfl) (by kernel_rfl) (by rw [ha]; decide) h
noncomputable def c_codec_Head : Code := (Tryd.f123.body).getD .skip
def nf_codec_Head : List (Nat × Nf) := []
def fp_codec_Head : List (Nat × List Nat) := [(32, [5]), (33, [5]), (35, [5]), (36, [5]), (40, [3, 39])]
def an_codec_Head : Nat → Ann
  | 0 => ⟨[1], [1], [], [], [1]⟩
  | 1 => ⟨[1, 8], [1], [], [], [1]⟩
  | 2 => ⟨[1, 12], [1], [], [], [1]⟩
  | 3 => ⟨[2], [], [], [], []⟩
  | 4 => ⟨[2], [], [], [], []⟩
  | 5 => ⟨[1, 21], [1], [], [], [1]⟩
  | 6 => ⟨[2], [], [], [], []⟩
  | 7 => ⟨[1, 3], [1, 3], [.thaw 3 3 1], [], [1, 3]⟩
  | 8 => ⟨[1, 3, 25, 26, 27], [1, 3], [], [], [1, 3]⟩
  | 9 => ⟨[1, 3, 25, 26, 27, 28], [1, 3], [], [], [1, 3]⟩
  | 10 => ⟨[1, 3, 5, 25, 26, 27], [1, 3, 5], [], [], [1, 3, 5]⟩
  | 11 => ⟨[1, 3, 25, 26, 27], [1, 3], [], [], [1, 3]⟩
  | 12 => ⟨[1, 3, 25, 26, 27], [1, 3], [], [], [1, 3]⟩
  | 13 => ⟨[2], [], [], [], []⟩
  | _ => ⟨[], [], [], [], []⟩
noncomputable abbrev x_codec_Head : Cx := ⟨Tryd.prog, ⟨id, nf_codec_Head, fp_codec_Head⟩, an_codec_Head⟩
theorem start_codec_Head {args : List PV} {r : PV} (ha : args.length = 1) (h : awp x_codec_Head c_codec_Head (bodyR Tryd.prog [.tmp 2] r []) (initSt args [])) : PC Tryd.prog 123 args r :=
  pc_of_awp (X := x_codec_Head) mixed Tryd.func123 (c := c_codec_Head) (by kernel_rfl) (by kernel_rfl) (rs := [.tmp 2]) (by kernel_rfl) (by kernel_rfl) (by rw [ha]; decide) h
noncomputable def c_strings_Builder_WriteString_x : Code := (Tryd.f53.body).getD .skip
def nf_strings_Builder_WriteString_x : List (Nat × Nf) := []
def fp_strings_Builder_WriteString_x : List (Nat × List Nat) := []
def an_strings_Builder_WriteString_x : Nat → Ann
  | 0 => ⟨[0, 1], [1000, 1001], [], [], [1000, 1001]⟩
  | 1 => ⟨[0, 1], [1000, 1001], [], [], [1000, 1001]⟩
  | 2 => ⟨[1], [1000, 1001], [], [], [1000, 1001]⟩
  | 3 => ⟨[4, 5], [1000, 1001], [], [], [1000, 1001]⟩
  | _ => ⟨[], [], [], [], []⟩
noncomputable abbrev x_strings_Builder_WriteString_x : Cx := ⟨Tryd.prog, ⟨id, nf_strings_Builder_WriteString_x, fp_strings_Builder_WriteString_x⟩, an_strings_Builder_WriteString_x⟩
theorem start_strings_Builder_WriteString_x {args : List PV} {es es' : List Ent} {r : PV} (ha : args.length = 2) (hl : es'.length = es.length) (he : (es'.all fun e => e.extOk es.length) = true) (h : awp x_strings_Builder_WriteString_x c_strings_Builder_WriteString_x (bodyR Tryd.prog [.tmp 4, .tmp 5] r es') (initSt args es)) : BC Tryd.prog 53 args es r es' :=
  bc_of_awp (X := x_strings_Builder_WriteString_x) mixed Tryd.func53 (c := c_strings_Builder_WriteString_x) (by kernel_rfl) (by kernel_rfl) (rs := [.tmp 4, .tmp 5]) (by kernel_rfl) (by kernel_rfl) (by rw [ha]; decide) hl (fun e h => List.all_eq_true.1 he e h) h
noncomputable def c_codec_write_x : Code := (Tryd.f106.body).getD .skip
def nf_codec_write_x : List (Nat × Nf) := []
def fp_codec_write_x : List (Nat × List Nat) := [(10, [3]), (11, [3]), (13, [3]), (16, [1000, 1001])]
def an_codec_write_x : Nat → Ann
  | 0 => ⟨[0, 3], [3, 1000, 1001], [], [], [3, 1000, 1001]⟩
  | 1 => ⟨[0, 3, 8], [3, 1000, 1001], [], [], [3, 1000, 1001]⟩
  | 2 => ⟨[], [1000, 1001], [], [], [1000, 1001]⟩
  | 3 => ⟨[0, 3], [3, 1000, 1001], [], [], [3, 1000, 1001]⟩
  | 4 => ⟨[0, 23, 24, 25], [1000, 1001], [], [], [1000, 1001]⟩
  | 5 => ⟨[0, 23, 24, 25, 26], [1000, 1001], [], [], [1000, 1001]⟩
  | 6 => ⟨[0, 5, 23, 24, 25], [5, 1000, 1001], [], [], [5, 1000, 1001]⟩
  | 7 => ⟨[0, 23, 24, 25], [1000, 1001], [], [], [1000, 1001]⟩
  | 8 => ⟨[0, 23, 24, 25], [1000, 1001], [], [], [1000, 1001]⟩
  | 9 => ⟨[], [1000, 1001], [], [], [1000, 1001]⟩
  | _ => ⟨[], [], [], [], []⟩
noncomputable abbrev x_codec_write_x : Cx := ⟨Tryd.prog, ⟨id, nf_codec_write_x, fp_codec_write_x⟩, an_codec_write_x⟩
theorem start_codec_write_x {args : List PV} {es es' : List Ent} {r : PV} (ha : args.length = 2) (hl : es'.length = es.length) (he : (es'.all fun e => e.extOk es.length) = true) (h : awp x_codec_write_x c_codec_write_x (bodyR Tryd.prog [] r es') (initSt args es)) : BC Tryd.prog 106 args es r es' :=
  bc_of_awp (X := x_codec_write_x) mixed Tryd.func106 (c := c_codec_write_x) (by kernel_rfl) (by kernel_rfl) (rs := []) (by kernel_rfl) (by kernel_rfl) (by rw [ha]; decide) hl (fun e h => List.all_eq_true.1 he e h) h
noncomputable def c_codec_Print : Code := (Tryd.f84.body).getD .skip
def nf_codec_Print : List (Nat × Nf) := []
def fp_codec_Print : List (Nat × List Nat) := []
def an_codec_Print : Nat → Ann
  | 0 => ⟨[1], [1], [], [], [1]⟩
  | 1 => ⟨[1, 4], [1], [], [], [1]⟩
  | 2 => ⟨[1, 4, 9], [1], [], [], [1]⟩
  | 3 => ⟨[2, 3], [], [], [], []⟩
  | 4 => ⟨[1, 5], [1, 5, 336], [.self 5 0, .thawB 5 1 336 5], [], [1, 5, 336]⟩
  | 5 => ⟨[5], [5, 336], [], [], [5, 336]⟩
  | 6 => ⟨[2, 3], [], [], [], []⟩
  | _ => ⟨[], [], [], [], []⟩
noncomputable abbrev x_codec_Print : Cx := ⟨Tryd.prog, ⟨id, nf_codec_Print, fp_codec_Print⟩, an_codec_Print⟩
theorem start_codec_Print {args : List PV} {r : PV} (ha : args.length = 1) (h : awp x_codec_Print c_codec_Print (bodyR Tryd.prog [.tmp 2, .tmp 3] r []) (initSt args [])) : PC Tryd.prog 84 args r :=
  pc_of_awp (X := x_codec_Print) mixed Tryd.func84 (c := c_codec_Print) (by kernel_rfl) (by kernel_rfl) (rs := [.tmp 2, .tmp 3]) (by kernel_rfl) (by kernel_rfl) (by rw [ha]; decide) h
noncomputable def c_codec_PrintAll : Code := (Tryd.f51.body).getD .skip
def nf_codec_PrintAll : List (Nat × Nf) := [(8, [none, none, some 1, some 2, none])]
def fp_codec_PrintAll : List (Nat × List Nat) := []
def an_codec_PrintAll : Nat → Ann
  | 0 => ⟨[0], [], [], [], []⟩
  | 1 => ⟨[4, 5], [], [], [], []⟩
  | 2 => ⟨[4, 5, 13], [], [], [], []⟩
  | 3 => ⟨[2, 3], [], [], [], []⟩
  | 4 => ⟨[2, 3], [], [], [], []⟩
  | _ => ⟨[], [], [], [], []⟩
noncomputable abbrev x_codec_PrintAll : Cx := ⟨Tryd.prog, ⟨id, nf_codec_PrintAll, fp_codec_PrintAll⟩, an_codec_PrintAll⟩
theorem start_codec_PrintAll {args : List PV} {r : PV} (ha : args.length = 1) (h : awp x_codec_PrintAll c_codec_PrintAll (bodyR Tryd.prog [.tmp 2, .tmp 3] r []) (initSt args [])) : PC Tryd.prog 51 args r :=
  pc_of_awp (X := x_codec_PrintAll) mixed Tryd.func51 (c := c_codec_PrintAll) (by kernel_rfl) (by kernel_rfl) (rs := [.tmp 2, .tmp 3]) (by kernel_rfl) (by kernel_rfl) (by rw [ha]; decide) h
noncomputable def c_wire_write : Code := (Tryd.f52.body).getD .skip
def nf_wire_write : List (Nat × Nf) := []
def fp_wire_write : List (Nat × List Nat) := []
def an_wire_write : Nat → Ann
  | 0 => ⟨[1, 2], [2], [], [], [2]⟩
  | 1 => ⟨[1, 2, 5, 6], [2], [], [], [2]⟩
  | 2 => ⟨[1, 2, 5, 6, 7], [2, 18], [], [.ren 18 7], [2, 7, 18]⟩
  | 3 => ⟨[1, 2, 5, 6, 7, 20], [2, 7], [], [], [2, 7]⟩
  | 4 => ⟨[1, 2, 5, 6, 7, 20, 21], [2, 7], [], [], [2, 7]⟩
  | 5 => ⟨[1, 7], [25], [], [.ren 25 7], [7, 25]⟩
  | 6 => ⟨[1, 7, 27], [7], [], [], [7]⟩
  | 7 => ⟨[7], [7], [], [], [7]⟩
  | 8 => ⟨[2, 5, 7, 20, 32], [2, 7], [], [], [2, 7]⟩
  | 9 => ⟨[7], [40], [], [.ren 40 7], [7, 40]⟩
  | 10 => ⟨[7, 41], [7], [], [], [7]⟩
  | 11 => ⟨[7], [7], [], [], [7]⟩
  | 12 => ⟨[4], [], [], [], []⟩
  | _ => ⟨[], [], [], [], []⟩
noncomputable abbrev x_wire_write : Cx := ⟨Tryd.prog, ⟨id, nf_wire_write, fp_wire_write⟩, an_wire_write⟩
theorem start_wire_write {args : List PV} {r : PV} (ha : args.length = 2) (h : awp x_wire_write c_wire_write (bodyR Tryd.prog [.tmp 4] r []) (initSt args [])) : PC Tryd.prog 52 args r :=
  pc_of_awp (X := x_wire_write) mixed Tryd.func52 (c := c_wire_write) (by kernel_rfl) (by kernel_rfl) (rs := [.tmp 4]) (by kernel_rfl) (by kernel_rfl) (by rw [ha]; decide) h
noncomputable def c_wire_Print : Code := (Tryd.f20.body).getD .skip
def nf_wire_Print : List (Nat × Nf) := []
def fp_wire_Print : List (Nat × List Nat) := []
def an_wire_Print : Nat → Ann
  | 0 => ⟨[1], [1], [], [], [1]⟩
  | 1 => ⟨[1, 8], [1], [], [], [1]⟩
  | 2 => ⟨[2, 3], [], [], [], []⟩
  | 3 => ⟨[1, 4, 5], [1], [], [], [1]⟩
  | 4 => ⟨[1, 4, 5, 16], [1], [], [], [1]⟩
  | 5 => ⟨[2, 3], [], [], [], []⟩
  | 6 => ⟨[2, 3], [], [], [], []⟩
  | _ => ⟨[], [], [], [], []⟩
noncomputable abbrev x_wire_Print : Cx := ⟨Tryd.prog, ⟨id, nf_wire_Print, fp_wire_Print⟩, an_wire_Print⟩
theorem start_wire_Print {args : List PV} {r : PV} (ha : args.length = 1) (h : awp x_wire_Print c_wire_Print (bodyR Tryd.prog [.tmp 2, .tmp 3] r []) (initSt args [])) : PC Tryd.prog 20 args r :=
  pc_of_awp (X := x_wire_Print) mixed Tryd.func20 (c := c_wire_Print) (by kernel_rfl) (by kernel_rfl) (rs := [.tmp 2, .tmp 3]) (by kernel_rfl) (by kernel_rfl) (by rw [ha]; decide) h
noncomputable def c_diptychlaw12_shown : Code := (Tryd.f18.body).getD .skip
def nf_diptychlaw12_shown : List (Nat × Nf) := [(4, [none, none, some 1, some 2, some 5]), (6, [none, none, none, some 5, none, none])]
def fp_diptychlaw12_shown : List (Nat × List Nat) := []
def an_diptychlaw12_shown : Nat → Ann
  | 0 => ⟨[], [], [], [], []⟩
  | 1 => ⟨[1, 2], [], [], [], []⟩
  | 2 => ⟨[0], [], [], [], []⟩
  | _ => ⟨[], [], [], [], []⟩
noncomputable abbrev x_diptychlaw12_shown : Cx := ⟨Tryd.prog, ⟨id, nf_diptychlaw12_shown, fp_diptychlaw12_shown⟩, an_diptychlaw12_shown⟩
theorem start_diptychlaw12_shown {args : List PV} {r : PV} (ha : args.length = 0) (h : awp x_diptychlaw12_shown c_diptychlaw12_shown (bodyR Tryd.prog [.tmp 0] r []) (initSt args [])) : PC Tryd.prog 18 args r :=
  pc_of_awp (X := x_diptychlaw12_shown) mixed Tryd.func18 (c := c_diptychlaw12_shown) (by kernel_rfl) (by kernel_rfl) (rs := [.tmp 0]) (by kernel_rfl) (by kernel_rfl) (by rw [ha]; decide) h
noncomputable def c_diptychlaw12_light : Code := (Tryd.f50.body).getD .skip
def nf_diptychlaw12_light : List (Nat × Nf) := []
def fp_diptychlaw12_light : List (Nat × List Nat) := []
def an_diptychlaw12_light : Nat → Ann
  | 0 => ⟨[1, 2], [2], [], [], [2]⟩
  | 1 => ⟨[1, 2], [2], [], [], [2]⟩
  | 2 => ⟨[1, 2, 5], [2], [], [], [2]⟩
  | 3 => ⟨[1, 2, 5, 26], [2], [], [], [2]⟩
  | 4 => ⟨[1, 2, 5], [2], [], [], [2]⟩
  | 5 => ⟨[1, 2, 5], [2], [], [], [2]⟩
  | 6 => ⟨[1, 2, 6], [2], [], [], [2]⟩
  | 7 => ⟨[1, 2, 6, 46], [2], [], [], [2]⟩
  | 8 => ⟨[1, 2, 6], [2], [], [], [2]⟩
  | 9 => ⟨[1, 2, 6], [2], [], [], [2]⟩
  | 10 => ⟨[1, 2, 7], [2], [], [], [2]⟩
  | 11 => ⟨[1, 2, 7, 75], [2], [], [], [2]⟩
  | 12 => ⟨[1, 2, 7], [2], [], [], [2]⟩
  | 13 => ⟨[1, 2, 7], [2], [], [], [2]⟩
  | 14 => ⟨[1, 86], [], [], [], []⟩
  | 15 => ⟨[4], [], [], [], []⟩
  | 16 => ⟨[4], [], [], [], []⟩
  | _ => ⟨[], [], [], [], []⟩
noncomputable abbrev x_diptychlaw12_light : Cx := ⟨Tryd.prog, ⟨id, nf_diptychlaw12_light, fp_diptychlaw12_light⟩, an_diptychlaw12_light⟩
theorem start_diptychlaw12_light {args : List PV} {r : PV} (ha : args.length = 2) (h : awp x_diptychlaw12_light c_diptychlaw12_light (bodyR Tryd.prog [.tmp 4] r []) (initSt args [])) : PC Tryd.prog 50 args r :=
  pc_of_awp (X := x_diptychlaw12_light) mixed Tryd.func50 (c := c_diptychlaw12_light) (by kernel_rfl) (by kernel_rfl) (rs := [.tmp 4]) (by kernel_rfl) (by kernel_rfl) (by rw [ha]; decide) h
noncomputable def c_diptychlaw12_few : Code := (Tryd.f19.body).getD .skip
def nf_diptychlaw12_few : List (Nat × Nf) := [(15, [none, none, some 1, some 2, none])]
def fp_diptychlaw12_few : List (Nat × List Nat) := []
def an_diptychlaw12_few : Nat → Ann
  | 0 => ⟨[0], [], [], [], []⟩
  | 1 => ⟨[0, 3], [], [], [], []⟩
  | 2 => ⟨[0, 3, 7], [], [], [], []⟩
  | 3 => ⟨[0, 3], [], [], [], []⟩
  | 4 => ⟨[0, 3, 35], [], [], [], []⟩
  | 5 => ⟨[2], [], [], [], []⟩
  | 6 => ⟨[2], [], [], [], []⟩
  | _ => ⟨[], [], [], [], []⟩
noncomputable abbrev x_diptychlaw12_few : Cx := ⟨Tryd.prog, ⟨id, nf_diptychlaw12_few, fp_diptychlaw12_few⟩, an_diptychlaw12_few⟩
theorem start_diptychlaw12_few {args : List PV} {r : PV} (ha : args.length = 1) (h : awp x_diptychlaw12_few c_diptychlaw12_few (bodyR Tryd.prog [.tmp 2] r []) (initSt args [])) : PC Tryd.prog 19 args r :=
  pc_of_awp (X := x_diptychlaw12_few) mixed Tryd.func19 (c := c_diptychlaw12_few) (by kernel_rfl) (by kernel_rfl) (rs := [.tmp 2]) (by kernel_rfl) (by kernel_rfl) (by rw [ha]; decide) h
noncomputable def c_wire_PrintAll : Code := (Tryd.f21.body).getD .skip
def nf_wire_PrintAll : List (Nat × Nf) := []
def fp_wire_PrintAll : List (Nat × List Nat) := []
def an_wire_PrintAll : Nat → Ann
  | 0 => ⟨[0], [], [], [], []⟩
  | 1 => ⟨[0, 4], [4, 329], [.self 4 0, .thawB 4 1 329 5], [], [4, 329]⟩
  | 2 => ⟨[4, 9, 10, 11], [4, 329], [], [], [4, 329]⟩
  | 3 => ⟨[4, 9, 10, 11, 12], [4, 329], [], [], [4, 329]⟩
  | 4 => ⟨[4, 6, 9, 10, 11], [4, 6, 329], [], [], [4, 6, 329]⟩
  | 5 => ⟨[4, 7, 8, 9, 10, 11], [4, 329], [], [], [4, 329]⟩
  | 6 => ⟨[4, 7, 8, 9, 10, 11, 21], [4, 329], [], [], [4, 329]⟩
  | 7 => ⟨[2, 3], [], [], [], []⟩
  | 8 => ⟨[4, 9, 10, 11], [4, 329], [], [], [4, 329]⟩
  | 9 => ⟨[4, 9, 10, 11], [4, 329], [], [], [4, 329]⟩
  | 10 => ⟨[2, 3], [], [], [], []⟩
  | _ => ⟨[], [], [], [], []⟩
noncomputable abbrev x_wire_PrintAll : Cx := ⟨Tryd.prog, ⟨id, nf_wire_PrintAll, fp_wire_PrintAll⟩, an_wire_PrintAll⟩
theorem start_wire_PrintAll {args : List PV} {r : PV} (ha : args.length = 1) (h : awp x_wire_PrintAll c_wire_PrintAll (bodyR Tryd.prog [.tmp 2, .tmp 3] r []) (initSt args [])) : PC Tryd.prog 21 args r :=
  pc_of_awp (X := x_wire_PrintAll) mixed Tryd.func21 (c := c_wire_PrintAll) (by kernel_rfl) (by kernel_rfl) (rs := [.tmp 2, .tmp 3]) (by kernel_rfl) (by kernel_rfl) (by rw [ha]; decide) h
noncomputable def c_diptychref1_sameNames : Code := (Tryd.f95.body).getD .skip
def nf_diptychref1_sameNames : List (Nat × Nf) := []
def fp_diptychref1_sameNames : List (Nat × List Nat) := []
def an_diptychref1_sameNames : Nat → Ann
  | 0 => ⟨[0, 1], [], [], [], []⟩
  | 1 => ⟨[0, 1, 10], [], [], [], []⟩
  | 2 => ⟨[4], [], [], [], []⟩
  | 3 => ⟨[0, 1, 5], [], [], [], []⟩
  | 4 => ⟨[0, 1, 5, 14], [], [], [], []⟩
  | 5 => ⟨[0, 1, 5], [], [], [], []⟩
  | 6 => ⟨[0, 1, 5, 25], [], [], [], []⟩
  | 7 => ⟨[4], [], [], [], []⟩
  | 8 => ⟨[4], [], [], [], []⟩
  | _ => ⟨[], [], [], [], []⟩
noncomputable abbrev x_diptychref1_sameNames : Cx := ⟨Tryd.prog, ⟨id, nf_diptychref1_sameNames, fp_diptychref1_sameNames⟩, an_diptychref1_sameNames⟩
theorem start_diptychref1_sameNames {args : List PV} {r : PV} (ha : args.length = 2) (h : awp x_diptychref1_sameNames c_diptychref1_sameNames (bodyR Tryd.prog [.tmp 4] r []) (initSt args [])) : PC Tryd.prog 95 args r :=
  pc_of_awp (X := x_diptychref1_sameNames) mixed Tryd.func95 (c := c_diptychref1_sameNames) (by kernel_rfl) (by kernel_rfl) (rs := [.tmp 4]) (by kernel_rfl) (by kernel_rfl) (by rw [ha]; decide) h
noncomputable def c_diptychref1_Same : Code := (Tryd.f89.body).getD .skip
def nf_diptychref1_Same : List (Nat × Nf) := []
def fp_diptychref1_Same : List (Nat × List Nat) := []
def an_diptychref1_Same : Nat → Ann
  | 0 => ⟨[2, 3], [2, 3], [], [], [2, 3]⟩
  | 1 => ⟨[2, 3, 34], [2, 3], [], [], [2, 3]⟩
  | 2 => ⟨[4], [], [], [], []⟩
  | 3 => ⟨[2, 3, 5], [2, 3], [], [], [2, 3]⟩
  | 4 => ⟨[2, 3, 5, 39], [2, 3], [], [], [2, 3]⟩
  | 5 => ⟨[2, 3, 5], [2, 3], [], [], [2, 3]⟩
  | 6 => ⟨[2, 3, 5, 52], [2, 3], [], [], [2, 3]⟩
  | 7 => ⟨[4], [], [], [], []⟩
  | 8 => ⟨[4], [], [], [], []⟩
  | _ => ⟨[], [], [], [], []⟩
noncomputable abbrev x_diptychref1_Same : Cx := ⟨Tryd.prog, ⟨id, nf_diptychref1_Same, fp_diptychref1_Same⟩, an_diptychref1_Same⟩
theorem start_diptychref1_Same {args : List PV} {r : PV} (ha : args.length = 2) (h : awp x_diptychref1_Same c_diptychref1_Same (bodyR Tryd.prog [.tmp 4] r []) (initSt args [])) : PC Tryd.prog 89 args r :=
  pc_of_awp (X := x_diptychref1_Same) mixed Tryd.func89 (c := c_diptychref1_Same) (by kernel_rfl) (by kernel_rfl) (rs := [.tmp 4]) (by kernel_rfl) (by kernel_rfl) (by rw [ha]; decide) h
noncomputable def c_diptychref1_SameAll : Code := (Tryd.f55.body).getD .skip
def nf_diptychref1_SameAll : List (Nat × Nf) := []
def fp_diptychref1_SameAll : List (Nat × List Nat) := []
def an_diptychref1_SameAll : Nat → Ann
  | 0 => ⟨[0, 1], [], [], [], []⟩
  | 1 => ⟨[0, 1, 10], [], [], [], []⟩
  | 2 => ⟨[4], [], [], [], []⟩
  | 3 => ⟨[0, 1, 5], [], [], [], []⟩
  | 4 => ⟨[0, 1, 5, 14], [], [], [], []⟩
  | 5 => ⟨[0, 1, 5], [], [], [], []⟩
  | 6 => ⟨[0, 1, 5, 26], [], [], [], []⟩
  | 7 => ⟨[4], [], [], [], []⟩
  | 8 => ⟨[4], [], [], [], []⟩
  | _ => ⟨[], [], [], [], []⟩
noncomputable abbrev x_diptychref1_SameAll : Cx := ⟨Tryd.prog, ⟨id, nf_diptychref1_SameAll, fp_diptychref1_SameAll⟩, an_diptychref1_SameAll⟩
theorem start_diptychref1_SameAll {args : List PV} {r : PV} (ha : args.length = 2) (h : awp x_diptychref1_SameAll c_diptychref1_SameAll (bodyR Tryd.prog [.tmp 4] r []) (initSt args [])) : PC Tryd.prog 55 args r :=
  pc_of_awp (X := x_diptychref1_SameAll) mixed Tryd.func55 (c := c_diptychref1_SameAll) (by kernel_rfl) (by kernel_rfl) (rs := [.tmp 4]) (by kernel_rfl) (by kernel_rfl) (by rw [ha]; decide) h
noncomputable def c_diptychlaw12_sameStep : Code := (Tryd.f22.body).getD .skip
def nf_diptychlaw12_sameStep : List (Nat × Nf) := []
def fp_diptychlaw12_sameStep : List (Nat × List Nat) := []
def an_diptychlaw12_sameStep : Nat → Ann
  | 0 => ⟨[2, 3], [2, 3], [], [], [2, 3]⟩
  | 1 => ⟨[4], [], [], [], []⟩
  | _ => ⟨[], [], [], [], []⟩
noncomputable abbrev x_diptychlaw12_sameStep : Cx := ⟨Tryd.prog, ⟨id, nf_diptychlaw12_sameStep, fp_diptychlaw12_sameStep⟩, an_diptychlaw12_sameStep⟩
theorem start_diptychlaw12_sameStep {args : List PV} {r : PV} (ha : args.length = 2) (h : awp x_diptychlaw12_sameStep c_diptychlaw12_sameStep (bodyR Tryd.prog [.tmp 4] r []) (initSt args [])) : PC Tryd.prog 22 args r :=
  pc_of_awp (X := x_diptychlaw12_sameStep) mixed Tryd.func22 (c := c_diptychlaw12_sameStep) (by kernel_rfl) (by kernel_rfl) (rs := [.tmp 4]) (by kernel_rfl) (by kernel_rfl) (by rw [ha]; decide) h
noncomputable def c_diptychlaw12_asStep : Code := (Tryd.f23.body).getD .skip
def nf_diptychlaw12_asStep : List (Nat × Nf) := []
def fp_diptychlaw12_asStep : List (Nat × List Nat) := []
def an_diptychlaw12_asStep : Nat → Ann
  | 0 => ⟨[1, 2], [1, 2], [.nrm 2 [none, none, none, some 5, none, none]], [], [1, 2]⟩
  | 1 => ⟨[2], [2], [], [], [2]⟩
  | _ => ⟨[], [], [], [], []⟩
noncomputable abbrev x_diptychlaw12_asStep : Cx := ⟨Tryd.prog, ⟨id, nf_diptychlaw12_asStep, fp_diptychlaw12_asStep⟩, an_diptychlaw12_asStep⟩
theorem start_diptychlaw12_asStep {args : List PV} {r : PV} (ha : args.length = 1) (h : awp x_diptychlaw12_asStep c_diptychlaw12_asStep (bodyR Tryd.prog [.cell 2 47] r []) (initSt args [])) : PC Tryd.prog 23 args r :=
  pc_of_awp (X := x_diptychlaw12_asStep) mixed Tryd.func23 (c := c_diptychlaw12_asStep) (by kernel_rfl) (by kernel_rfl) (rs := [.cell 2 47]) (by kernel_rfl) (by kernel_rfl) (by rw [ha]; decide) h
noncomputable def c_diptychlaw12_WireApart : Code := (Tryd.f4.body).getD .skip
def nf_diptychlaw12_WireApart : List (Nat × Nf) := []
def fp_diptychlaw12_WireApart : List (Nat × List Nat) := []
def an_diptychlaw12_WireApart : Nat → Ann
  | 0 => ⟨[2, 3], [2, 3], [], [], [2, 3]⟩
  | 1 => ⟨[2, 3, 5], [2, 3], [], [], [2, 3]⟩
  | 2 => ⟨[2, 3, 5, 6], [2, 3], [], [], [2, 3]⟩
  | 3 => ⟨[2, 3, 5, 23], [2, 3], [], [], [2, 3]⟩
  | 4 => ⟨[4], [], [], [], []⟩
  | 5 => ⟨[2, 3, 7, 8], [2, 3], [], [], [2, 3]⟩
  | 6 => ⟨[2, 3, 7, 8, 9, 10], [2, 3], [], [], [2, 3]⟩
  | 7 => ⟨[2, 3, 7, 8, 9, 10, 40], [2, 3], [], [], [2, 3]⟩
  | 8 => ⟨[4], [], [], [], []⟩
  | 9 => ⟨[2, 3, 7, 9, 11, 12], [2, 3], [], [], [2, 3]⟩
  | 10 => ⟨[4], [], [], [], []⟩
  | _ => ⟨[], [], [], [], []⟩
noncomputable abbrev x_diptychlaw12_WireApart : Cx := ⟨Tryd.prog, ⟨id, nf_diptychlaw12_WireApart, fp_diptychlaw12_WireApart⟩, an_diptychlaw12_WireApart⟩
theorem start_diptychlaw12_WireApart {args : List PV} {r : PV} (ha : args.length = 2) (h : awp x_diptychlaw12_WireApart c_diptychlaw12_WireApart (bodyR Tryd.prog [.tmp 4] r []) (initSt args [])) : PC Tryd.prog 4 args r :=
  pc_of_awp (X := x_diptychlaw12_WireApart) mixed Tryd.func4 (c := c_diptychlaw12_WireApart) (by kernel_rfl) (by kernel_rfl) (rs := [.tmp 4]) (by kernel_rfl) (by kernel_rfl) (by rw [ha]; decide) h
attribute [go_sem] an_node_isText nf_node_isText fp_node_isText an_unicode_utf8_RuneCountInString nf_unicode_utf8_RuneCountInString fp_unicode_utf8_RuneCountInString an_node_Total nf_node_Total fp_node_Total an_node_Size nf_node_Size fp_node_Size an_slices_Equal_string nf_slices_Equal_string fp_slices_Equal_string an_node_alike nf_node_alike fp_node_alike an_node_Name nf_node_Name fp_node_Name an_node_rise nf_node_rise fp_node_rise an_node_Value nf_node_Value fp_node_Value an_node_formed nf_node_formed fp_node_formed an_node_Depth nf_node_Depth fp_node_Depth an_node_Check nf_node_Check fp_node_Check an_step_Right nf_step_Right fp_step_Right an_codec_Quote nf_codec_Quote fp_codec_Quote an_codec_Head nf_codec_Head fp_codec_Head an_strings_Builder_WriteString_x nf_strings_Builder_WriteString_x fp_strings_Builder_WriteString_x an_codec_write_x nf_codec_write_x fp_codec_write_x an_codec_Print nf_codec_Print fp_codec_Print an_codec_PrintAll nf_codec_PrintAll fp_codec_PrintAll an_wire_write nf_wire_write fp_wire_write an_wire_Print nf_wire_Print fp_wire_Print an_diptychlaw12_shown nf_diptychlaw12_shown fp_diptychlaw12_shown an_diptychlaw12_light nf_diptychlaw12_light fp_diptychlaw12_light an_diptychlaw12_few nf_diptychlaw12_few fp_diptychlaw12_few an_wire_PrintAll nf_wire_PrintAll fp_wire_PrintAll an_diptychref1_sameNames nf_diptychref1_sameNames fp_diptychref1_sameNames an_diptychref1_Same nf_diptychref1_Same fp_diptychref1_Same an_diptychref1_SameAll nf_diptychref1_SameAll fp_diptychref1_SameAll an_diptychlaw12_sameStep nf_diptychlaw12_sameStep fp_diptychlaw12_sameStep an_diptychlaw12_asStep nf_diptychlaw12_asStep fp_diptychlaw12_asStep an_diptychlaw12_WireApart nf_diptychlaw12_WireApart fp_diptychlaw12_WireApart ty3 ty4 ty5 ty9 ty24 ty25 ty26 ty28 ty30 ty31 ty39 ty47 ty83 ty98 ty99 ty101 api_Attr.pv_eq api_Node.pv_eq step_Step.pv_eq diptychref11_Step.pv_eq pvL

end Go.Proofs.YtclohbgnaopjfaaDoor
