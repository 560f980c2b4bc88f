/- Code, and what is kept. -/
import Derived.Test.YtihndopckmdpbaaDoorAgT
import Derived.Test.YtihndopckmdpbaaDoorAwT
namespace Go.Proofs.YtihndopckmdpbaaDoor
set_option linter.unusedSimpArgs false
set_option linter.unusedVariables false
open Go
set_option maxRecDepth 100000

noncomputable def c_node_isText : Code := (Tryd.f49.body).getD .skip
def nf_node_isText : List (Nat × Nf) := []
def fp_node_isText : List (Nat × List Nat) := []
def an_node_isText : Nat → Ann
  | 0 => ⟨[1], [1], [], [], [1]⟩
  | 1 => ⟨[2], [], [], [], []⟩
  | _ => ⟨[], [], [], [], []⟩
noncomputable abbrev x_node_isText : Cx := ⟨Tryd.prog, ⟨id, nf_node_isText, fp_node_isText⟩, an_node_isText⟩
theorem start_node_isText {args : List PV} {r : PV} (ha : args.length = 1) (h : awp x_node_isText c_node_isText (bodyR Tryd.prog [.tmp 2] r []) (initSt args [])) : PC Tryd.prog 49 args r :=
  pc_of_awp (X := x_node_isText) mixed Tryd.func49 (c := c_node_isText) (by kernel_rfl) (by kernel_rfl) (rs := [.tmp 2]) (by kernel_rfl) (by kernel_rfl) (by rw [ha]; decide) h
noncomputable def c_node_Depth : Code := (Tryd.f30.body).getD .skip
def nf_node_Depth : List (Nat × Nf) := []
def fp_node_Depth : List (Nat × List Nat) := []
def an_node_Depth : Nat → Ann
  | 0 => ⟨[1], [1], [], [], [1]⟩
  | 1 => ⟨[1, 7], [1], [], [], [1]⟩
  | 2 => ⟨[2], [], [], [], []⟩
  | 3 => ⟨[1, 3], [1], [], [], [1]⟩
  | 4 => ⟨[3, 9, 10, 11], [], [], [], []⟩
  | 5 => ⟨[3, 9, 10, 11, 12], [], [], [], []⟩
  | 6 => ⟨[3, 5, 9, 10, 11], [5], [], [], [5]⟩
  | 7 => ⟨[3, 9, 10, 11], [], [], [], []⟩
  | 8 => ⟨[3, 9, 10, 11], [], [], [], []⟩
  | 9 => ⟨[2], [], [], [], []⟩
  | _ => ⟨[], [], [], [], []⟩
noncomputable abbrev x_node_Depth : Cx := ⟨Tryd.prog, ⟨id, nf_node_Depth, fp_node_Depth⟩, an_node_Depth⟩
theorem start_node_Depth {args : List PV} {r : PV} (ha : args.length = 1) (h : awp x_node_Depth c_node_Depth (bodyR Tryd.prog [.tmp 2] r []) (initSt args [])) : PC Tryd.prog 30 args r :=
  pc_of_awp (X := x_node_Depth) mixed Tryd.func30 (c := c_node_Depth) (by kernel_rfl) (by kernel_rfl) (rs := [.tmp 2]) (by kernel_rfl) (by kernel_rfl) (by rw [ha]; decide) h
noncomputable def c_node_Value : Code := (Tryd.f28.body).getD .skip
def nf_node_Value : List (Nat × Nf) := []
def fp_node_Value : List (Nat × List Nat) := []
def an_node_Value : Nat → Ann
  | 0 => ⟨[0], [], [], [], []⟩
  | 1 => ⟨[2], [], [], [], []⟩
  | _ => ⟨[], [], [], [], []⟩
noncomputable abbrev x_node_Value : Cx := ⟨Tryd.prog, ⟨id, nf_node_Value, fp_node_Value⟩, an_node_Value⟩
theorem start_node_Value {args : List PV} {r : PV} (ha : args.length = 1) (h : awp x_node_Value c_node_Value (bodyR Tryd.prog [.tmp 2] r []) (initSt args [])) : PC Tryd.prog 28 args r :=
  pc_of_awp (X := x_node_Value) mixed Tryd.func28 (c := c_node_Value) (by kernel_rfl) (by kernel_rfl) (rs := [.tmp 2]) (by kernel_rfl) (by kernel_rfl) (by rw [ha]; decide) h
noncomputable def c_node_Name : Code := (Tryd.f71.body).getD .skip
def nf_node_Name : List (Nat × Nf) := []
def fp_node_Name : List (Nat × List Nat) := []
def an_node_Name : Nat → Ann
  | 0 => ⟨[0], [], [], [], []⟩
  | 1 => ⟨[0, 3], [], [], [], []⟩
  | 2 => ⟨[2], [], [], [], []⟩
  | _ => ⟨[], [], [], [], []⟩
noncomputable abbrev x_node_Name : Cx := ⟨Tryd.prog, ⟨id, nf_node_Name, fp_node_Name⟩, an_node_Name⟩
theorem start_node_Name {args : List PV} {r : PV} (ha : args.length = 1) (h : awp x_node_Name c_node_Name (bodyR Tryd.prog [.tmp 2] r []) (initSt args [])) : PC Tryd.prog 71 args r :=
  pc_of_awp (X := x_node_Name) mixed Tryd.func71 (c := c_node_Name) (by kernel_rfl) (by kernel_rfl) (rs := [.tmp 2]) (by kernel_rfl) (by kernel_rfl) (by rw [ha]; decide) h
noncomputable def c_node_rise : Code := (Tryd.f70.body).getD .skip
def nf_node_rise : List (Nat × Nf) := []
def fp_node_rise : List (Nat × List Nat) := []
def an_node_rise : Nat → Ann
  | 0 => ⟨[0], [], [], [], []⟩
  | 1 => ⟨[0, 5, 6, 7], [], [], [], []⟩
  | 2 => ⟨[0, 5, 6, 7, 8], [], [], [], []⟩
  | 3 => ⟨[0, 3, 4, 5, 6, 7], [], [], [], []⟩
  | 4 => ⟨[0, 5, 6, 7, 27], [], [], [], []⟩
  | 5 => ⟨[2], [], [], [], []⟩
  | 6 => ⟨[0, 5, 6, 7], [], [], [], []⟩
  | 7 => ⟨[2], [], [], [], []⟩
  | _ => ⟨[], [], [], [], []⟩
noncomputable abbrev x_node_rise : Cx := ⟨Tryd.prog, ⟨id, nf_node_rise, fp_node_rise⟩, an_node_rise⟩
theorem start_node_rise {args : List PV} {r : PV} (ha : args.length = 1) (h : awp x_node_rise c_node_rise (bodyR Tryd.prog [.tmp 2] r []) (initSt args [])) : PC Tryd.prog 70 args r :=
  pc_of_awp (X := x_node_rise) mixed Tryd.func70 (c := c_node_rise) (by kernel_rfl) (by kernel_rfl) (rs := [.tmp 2]) (by kernel_rfl) (by kernel_rfl) (by rw [ha]; decide) h
noncomputable def c_slices_Equal_string : Code := (Tryd.f41.body).getD .skip
def nf_slices_Equal_string : List (Nat × Nf) := []
def fp_slices_Equal_string : List (Nat × List Nat) := []
def an_slices_Equal_string : Nat → Ann
  | 0 => ⟨[0, 1], [], [], [], []⟩
  | 1 => ⟨[0, 1, 10], [], [], [], []⟩
  | 2 => ⟨[4], [], [], [], []⟩
  | 3 => ⟨[0, 1, 12, 13], [], [], [], []⟩
  | 4 => ⟨[0, 1, 12, 13, 14], [], [], [], []⟩
  | 5 => ⟨[0, 1, 5, 12, 13], [], [], [], []⟩
  | 6 => ⟨[0, 1, 12, 13, 24], [], [], [], []⟩
  | 7 => ⟨[4], [], [], [], []⟩
  | 8 => ⟨[0, 1, 12, 13], [], [], [], []⟩
  | 9 => ⟨[4], [], [], [], []⟩
  | _ => ⟨[], [], [], [], []⟩
noncomputable abbrev x_slices_Equal_string : Cx := ⟨Tryd.prog, ⟨id, nf_slices_Equal_string, fp_slices_Equal_string⟩, an_slices_Equal_string⟩
theorem start_slices_Equal_string {args : List PV} {r : PV} (ha : args.length = 2) (h : awp x_slices_Equal_string c_slices_Equal_string (bodyR Tryd.prog [.tmp 4] r []) (initSt args [])) : PC Tryd.prog 41 args r :=
  pc_of_awp (X := x_slices_Equal_string) mixed Tryd.func41 (c := c_slices_Equal_string) (by kernel_rfl) (by kernel_rfl) (rs := [.tmp 4]) (by kernel_rfl) (by kernel_rfl) (by rw [ha]; decide) h
noncomputable def c_node_alike : Code := (Tryd.f72.body).getD .skip
def nf_node_alike : List (Nat × Nf) := []
def fp_node_alike : List (Nat × List Nat) := []
def an_node_alike : Nat → Ann
  | 0 => ⟨[2, 3], [2, 3], [], [], [2, 3]⟩
  | 1 => ⟨[4], [], [], [], []⟩
  | _ => ⟨[], [], [], [], []⟩
noncomputable abbrev x_node_alike : Cx := ⟨Tryd.prog, ⟨id, nf_node_alike, fp_node_alike⟩, an_node_alike⟩
theorem start_node_alike {args : List PV} {r : PV} (ha : args.length = 2) (h : awp x_node_alike c_node_alike (bodyR Tryd.prog [.tmp 4] r []) (initSt args [])) : PC Tryd.prog 72 args r :=
  pc_of_awp (X := x_node_alike) mixed Tryd.func72 (c := c_node_alike) (by kernel_rfl) (by kernel_rfl) (rs := [.tmp 4]) (by kernel_rfl) (by kernel_rfl) (by rw [ha]; decide) h
noncomputable def c_node_formed : Code := (Tryd.f50.body).getD .skip
def nf_node_formed : List (Nat × Nf) := []
def fp_node_formed : List (Nat × List Nat) := []
def an_node_formed : Nat → Ann
  | 0 => ⟨[1], [1], [], [], [1]⟩
  | 1 => ⟨[1, 9], [1], [], [], [1]⟩
  | 2 => ⟨[2], [], [], [], []⟩
  | 3 => ⟨[1, 3], [1, 3], [.thaw 3 3 1], [], [1, 3]⟩
  | 4 => ⟨[1, 3, 34, 35, 36], [1, 3], [], [], [1, 3]⟩
  | 5 => ⟨[1, 3, 34, 35, 36, 37], [1, 3], [], [], [1, 3]⟩
  | 6 => ⟨[1, 3, 5, 34, 35, 36], [1, 3, 5], [], [], [1, 3, 5]⟩
  | 7 => ⟨[1, 3, 5, 34, 35, 36, 43], [1, 3, 5], [], [], [1, 3, 5]⟩
  | 8 => ⟨[2], [], [], [], []⟩
  | 9 => ⟨[1, 3, 34, 35, 36], [1, 3], [], [], [1, 3]⟩
  | 10 => ⟨[1, 3, 34, 35, 36], [1, 3], [], [], [1, 3]⟩
  | 11 => ⟨[1, 69], [1], [], [], [1]⟩
  | 12 => ⟨[2], [], [], [], []⟩
  | 13 => ⟨[1, 71, 72, 73], [1], [], [], [1]⟩
  | 14 => ⟨[1, 71, 72, 73, 74], [1], [], [], [1]⟩
  | 15 => ⟨[1, 6, 7, 71, 72, 73], [1, 7], [], [], [1, 7]⟩
  | 16 => ⟨[1, 71, 72, 73, 94], [1], [], [], [1]⟩
  | 17 => ⟨[2], [], [], [], []⟩
  | 18 => ⟨[1, 71, 72, 73], [1], [], [], [1]⟩
  | 19 => ⟨[2], [], [], [], []⟩
  | _ => ⟨[], [], [], [], []⟩
noncomputable abbrev x_node_formed : Cx := ⟨Tryd.prog, ⟨id, nf_node_formed, fp_node_formed⟩, an_node_formed⟩
theorem start_node_formed {args : List PV} {r : PV} (ha : args.length = 1) (h : awp x_node_formed c_node_formed (bodyR Tryd.prog [.tmp 2] r []) (initSt args [])) : PC Tryd.prog 50 args r :=
  pc_of_awp (X := x_node_formed) mixed Tryd.func50 (c := c_node_formed) (by kernel_rfl) (by kernel_rfl) (rs := [.tmp 2]) (by kernel_rfl) (by kernel_rfl) (by rw [ha]; decide) h
noncomputable def c_unicode_utf8_RuneCountInString : Code := (Tryd.f73.body).getD .skip
def nf_unicode_utf8_RuneCountInString : List (Nat × Nf) := []
def fp_unicode_utf8_RuneCountInString : List (Nat × List Nat) := []
def an_unicode_utf8_RuneCountInString : Nat → Ann
  | 0 => ⟨[0, 2], [], [], [], []⟩
  | 1 => ⟨[2, 4], [4], [], [], [4]⟩
  | 2 => ⟨[2, 4, 6], [4], [], [], [4]⟩
  | 3 => ⟨[2, 4], [4], [], [], [4]⟩
  | 4 => ⟨[2], [], [], [], []⟩
  | _ => ⟨[], [], [], [], []⟩
noncomputable abbrev x_unicode_utf8_RuneCountInString : Cx := ⟨Tryd.prog, ⟨id, nf_unicode_utf8_RuneCountInString, fp_unicode_utf8_RuneCountInString⟩, an_unicode_utf8_RuneCountInString⟩
theorem start_unicode_utf8_RuneCountInString {args : List PV} {r : PV} (ha : args.length = 1) (h : awp x_unicode_utf8_RuneCountInString c_unicode_utf8_RuneCountInString (bodyR Tryd.prog [.tmp 2] r []) (initSt args [])) : PC Tryd.prog 73 args r :=
  pc_of_awp (X := x_unicode_utf8_RuneCountInString) mixed Tryd.func73 (c := c_unicode_utf8_RuneCountInString) (by kernel_rfl) (by kernel_rfl) (rs := [.tmp 2]) (by kernel_rfl) (by kernel_rfl) (by rw [ha]; decide) h
noncomputable def c_node_Total : Code := (Tryd.f74.body).getD .skip
def nf_node_Total : List (Nat × Nf) := []
def fp_node_Total : List (Nat × List Nat) := []
def an_node_Total : Nat → Ann
  | 0 => ⟨[0], [], [], [], []⟩
  | 1 => ⟨[0, 3], [], [], [], []⟩
  | 2 => ⟨[3, 6, 7, 8], [], [], [], []⟩
  | 3 => ⟨[3, 6, 7, 8, 9], [], [], [], []⟩
  | 4 => ⟨[3, 5, 6, 7, 8], [5], [], [], [5]⟩
  | 5 => ⟨[3, 6, 7, 8], [], [], [], []⟩
  | 6 => ⟨[3, 6, 7, 8], [], [], [], []⟩
  | 7 => ⟨[2], [], [], [], []⟩
  | _ => ⟨[], [], [], [], []⟩
noncomputable abbrev x_node_Total : Cx := ⟨Tryd.prog, ⟨id, nf_node_Total, fp_node_Total⟩, an_node_Total⟩
theorem start_node_Total {args : List PV} {r : PV} (ha : args.length = 1) (h : awp x_node_Total c_node_Total (bodyR Tryd.prog [.tmp 2] r []) (initSt args [])) : PC Tryd.prog 74 args r :=
  pc_of_awp (X := x_node_Total) mixed Tryd.func74 (c := c_node_Total) (by kernel_rfl) (by kernel_rfl) (rs := [.tmp 2]) (by kernel_rfl) (by kernel_rfl) (by rw [ha]; decide) h
noncomputable def c_node_Size : Code := (Tryd.f51.body).getD .skip
def nf_node_Size : List (Nat × Nf) := []
def fp_node_Size : List (Nat × List Nat) := []
def an_node_Size : Nat → Ann
  | 0 => ⟨[1], [1], [], [], [1]⟩
  | 1 => ⟨[1, 4], [1], [], [], [1]⟩
  | 2 => ⟨[2], [], [], [], []⟩
  | 3 => ⟨[2], [], [], [], []⟩
  | _ => ⟨[], [], [], [], []⟩
noncomputable abbrev x_node_Size : Cx := ⟨Tryd.prog, ⟨id, nf_node_Size, fp_node_Size⟩, an_node_Size⟩
theorem start_node_Size {args : List PV} {r : PV} (ha : args.length = 1) (h : awp x_node_Size c_node_Size (bodyR Tryd.prog [.tmp 2] r []) (initSt args [])) : PC Tryd.prog 51 args r :=
  pc_of_awp (X := x_node_Size) mixed Tryd.func51 (c := c_node_Size) (by kernel_rfl) (by kernel_rfl) (rs := [.tmp 2]) (by kernel_rfl) (by kernel_rfl) (by rw [ha]; decide) h
noncomputable def c_node_Check : Code := (Tryd.f32.body).getD .skip
def nf_node_Check : List (Nat × Nf) := []
def fp_node_Check : List (Nat × List Nat) := []
def an_node_Check : Nat → Ann
  | 0 => ⟨[1], [1], [], [], [1]⟩
  | 1 => ⟨[1, 3], [1], [], [], [1]⟩
  | 2 => ⟨[2], [], [], [], []⟩
  | 3 => ⟨[1, 7], [1], [], [], [1]⟩
  | 4 => ⟨[2], [], [], [], []⟩
  | 5 => ⟨[11], [], [], [], []⟩
  | 6 => ⟨[2], [], [], [], []⟩
  | 7 => ⟨[2], [], [], [], []⟩
  | _ => ⟨[], [], [], [], []⟩
noncomputable abbrev x_node_Check : Cx := ⟨Tryd.prog, ⟨id, nf_node_Check, fp_node_Check⟩, an_node_Check⟩
theorem start_node_Check {args : List PV} {r : PV} (ha : args.length = 1) (h : awp x_node_Check c_node_Check (bodyR Tryd.prog [.tmp 2] r []) (initSt args [])) : PC Tryd.prog 32 args r :=
  pc_of_awp (X := x_node_Check) mixed Tryd.func32 (c := c_node_Check) (by kernel_rfl) (by kernel_rfl) (rs := [.tmp 2]) (by kernel_rfl) (by kernel_rfl) (by rw [ha]; decide) h
noncomputable def c_codec_Quote : Code := (Tryd.f16.body).getD .skip
def nf_codec_Quote : List (Nat × Nf) := []
def fp_codec_Quote : List (Nat × List Nat) := []
def an_codec_Quote : Nat → Ann
  | 0 => ⟨[0], [], [], [], []⟩
  | 1 => ⟨[0], [], [], [], []⟩
  | 2 => ⟨[2], [], [], [], []⟩
  | _ => ⟨[], [], [], [], []⟩
noncomputable abbrev x_codec_Quote : Cx := ⟨Tryd.prog, ⟨id, nf_codec_Quote, fp_codec_Quote⟩, an_codec_Quote⟩
theorem start_codec_Quote {args : List PV} {r : PV} (ha : args.length = 1) (h : awp x_codec_Quote c_codec_Quote (bodyR Tryd.prog [.tmp 2] r []) (initSt args [])) : PC Tryd.prog 16 args r :=
  pc_of_awp (X := x_codec_Quote) mixed Tryd.func16 (c := c_codec_Quote) (by kernel_rfl) (by kernel_rfl) (rs := [.tmp 2]) (by kernel_rfl) (by kernel_rfl) (by rw [ha]; decide) h
noncomputable def c_codec_Head : Code := (Tryd.f18.body).getD .skip
def nf_codec_Head : List (Nat × Nf) := []
def fp_codec_Head : List (Nat × List Nat) := [(32, [5]), (33, [5]), (35, [5]), (36, [5]), (40, [3, 39])]
def an_codec_Head : Nat → Ann
  | 0 => ⟨[1], [1], [], [], [1]⟩
  | 1 => ⟨[1, 8], [1], [], [], [1]⟩
  | 2 => ⟨[1, 12], [1], [], [], [1]⟩
  | 3 => ⟨[2], [], [], [], []⟩
  | 4 => ⟨[2], [], [], [], []⟩
  | 5 => ⟨[1, 21], [1], [], [], [1]⟩
  | 6 => ⟨[2], [], [], [], []⟩
  | 7 => ⟨[1, 3], [1, 3], [.thaw 3 3 1], [], [1, 3]⟩
  | 8 => ⟨[1, 3, 25, 26, 27], [1, 3], [], [], [1, 3]⟩
  | 9 => ⟨[1, 3, 25, 26, 27, 28], [1, 3], [], [], [1, 3]⟩
  | 10 => ⟨[1, 3, 5, 25, 26, 27], [1, 3, 5], [], [], [1, 3, 5]⟩
  | 11 => ⟨[1, 3, 25, 26, 27], [1, 3], [], [], [1, 3]⟩
  | 12 => ⟨[1, 3, 25, 26, 27], [1, 3], [], [], [1, 3]⟩
  | 13 => ⟨[2], [], [], [], []⟩
  | _ => ⟨[], [], [], [], []⟩
noncomputable abbrev x_codec_Head : Cx := ⟨Tryd.prog, ⟨id, nf_codec_Head, fp_codec_Head⟩, an_codec_Head⟩
theorem start_codec_Head {args : List PV} {r : PV} (ha : args.length = 1) (h : awp x_codec_Head c_codec_Head (bodyR Tryd.prog [.tmp 2] r []) (initSt args [])) : PC Tryd.prog 18 args r :=
  pc_of_awp (X := x_codec_Head) mixed Tryd.func18 (c := c_codec_Head) (by kernel_rfl) (by kernel_rfl) (rs := [.tmp 2]) (by kernel_rfl) (by kernel_rfl) (by rw [ha]; decide) h
noncomputable def c_strings_Builder_WriteString_x : Code := (Tryd.f52.body).getD .skip
def nf_strings_Builder_WriteString_x : List (Nat × Nf) := []
def fp_strings_Builder_WriteString_x : List (Nat × List Nat) := []
def an_strings_Builder_WriteString_x : Nat → Ann
  | 0 => ⟨[0, 1], [1000, 1001], [], [], [1000, 1001]⟩
  | 1 => ⟨[0, 1], [1000, 1001], [], [], [1000, 1001]⟩
  | 2 => ⟨[1], [1000, 1001], [], [], [1000, 1001]⟩
  | 3 => ⟨[4, 5], [1000, 1001], [], [], [1000, 1001]⟩
  | _ => ⟨[], [], [], [], []⟩
noncomputable abbrev x_strings_Builder_WriteString_x : Cx := ⟨Tryd.prog, ⟨id, nf_strings_Builder_WriteString_x, fp_strings_Builder_WriteString_x⟩, an_strings_Builder_WriteString_x⟩
theorem start_strings_Builder_WriteString_x {args : List PV} {es es' : List Ent} {r : PV} (ha : args.length = 2) (hl : es'.length = es.length) (he : (es'.all fun e => e.extOk es.length) = true) (h : awp x_strings_Builder_WriteString_x c_strings_Builder_WriteString_x (bodyR Tryd.prog [.tmp 4, .tmp 5] r es') (initSt args es)) : BC Tryd.prog 52 args es r es' :=
  bc_of_awp (X := x_strings_Builder_WriteString_x) mixed Tryd.func52 (c := c_strings_Builder_WriteString_x) (by kernel_rfl) (by kernel_rfl) (rs := [.tmp 4, .tmp 5]) (by kernel_rfl) (by kernel_rfl) (by rw [ha]; decide) hl (fun e h => List.all_eq_true.1 he e h) h
noncomputable def c_codec_write_x : Code := (Tryd.f33.body).getD .skip
def nf_codec_write_x : List (Nat × Nf) := []
def fp_codec_write_x : List (Nat × List Nat) := [(10, [3]), (11, [3]), (13, [3]), (16, [1000, 1001])]
def an_codec_write_x : Nat → Ann
  | 0 => ⟨[0, 3], [3, 1000, 1001], [], [], [3, 1000, 1001]⟩
  | 1 => ⟨[0, 3, 8], [3, 1000, 1001], [], [], [3, 1000, 1001]⟩
  | 2 => ⟨[], [1000, 1001], [], [], [1000, 1001]⟩
  | 3 => ⟨[0, 3], [3, 1000, 1001], [], [], [3, 1000, 1001]⟩
  | 4 => ⟨[0, 23, 24, 25], [1000, 1001], [], [], [1000, 1001]⟩
  | 5 => ⟨[0, 23, 24, 25, 26], [1000, 1001], [], [], [1000, 1001]⟩
  | 6 => ⟨[0, 5, 23, 24, 25], [5, 1000, 1001], [], [], [5, 1000, 1001]⟩
  | 7 => ⟨[0, 23, 24, 25], [1000, 1001], [], [], [1000, 1001]⟩
  | 8 => ⟨[0, 23, 24, 25], [1000, 1001], [], [], [1000, 1001]⟩
  | 9 => ⟨[], [1000, 1001], [], [], [1000, 1001]⟩
  | _ => ⟨[], [], [], [], []⟩
noncomputable abbrev x_codec_write_x : Cx := ⟨Tryd.prog, ⟨id, nf_codec_write_x, fp_codec_write_x⟩, an_codec_write_x⟩
theorem start_codec_write_x {args : List PV} {es es' : List Ent} {r : PV} (ha : args.length = 2) (hl : es'.length = es.length) (he : (es'.all fun e => e.extOk es.length) = true) (h : awp x_codec_write_x c_codec_write_x (bodyR Tryd.prog [] r es') (initSt args es)) : BC Tryd.prog 33 args es r es' :=
  bc_of_awp (X := x_codec_write_x) mixed Tryd.func33 (c := c_codec_write_x) (by kernel_rfl) (by kernel_rfl) (rs := []) (by kernel_rfl) (by kernel_rfl) (by rw [ha]; decide) hl (fun e h => List.all_eq_true.1 he e h) h
noncomputable def c_codec_Print : Code := (Tryd.f12.body).getD .skip
def nf_codec_Print : List (Nat × Nf) := []
def fp_codec_Print : List (Nat × List Nat) := []
def an_codec_Print : Nat → Ann
  | 0 => ⟨[1], [1], [], [], [1]⟩
  | 1 => ⟨[1, 4], [1], [], [], [1]⟩
  | 2 => ⟨[1, 4, 9], [1], [], [], [1]⟩
  | 3 => ⟨[2, 3], [], [], [], []⟩
  | 4 => ⟨[1, 5], [1, 5, 336], [.self 5 0, .thawB 5 1 336 5], [], [1, 5, 336]⟩
  | 5 => ⟨[5], [5, 336], [], [], [5, 336]⟩
  | 6 => ⟨[2, 3], [], [], [], []⟩
  | _ => ⟨[], [], [], [], []⟩
noncomputable abbrev x_codec_Print : Cx := ⟨Tryd.prog, ⟨id, nf_codec_Print, fp_codec_Print⟩, an_codec_Print⟩
theorem start_codec_Print {args : List PV} {r : PV} (ha : args.length = 1) (h : awp x_codec_Print c_codec_Print (bodyR Tryd.prog [.tmp 2, .tmp 3] r []) (initSt args [])) : PC Tryd.prog 12 args r :=
  pc_of_awp (X := x_codec_Print) mixed Tryd.func12 (c := c_codec_Print) (by kernel_rfl) (by kernel_rfl) (rs := [.tmp 2, .tmp 3]) (by kernel_rfl) (by kernel_rfl) (by rw [ha]; decide) h
noncomputable def c_diptychlaw2_shown : Code := (Tryd.f10.body).getD .skip
def nf_diptychlaw2_shown : List (Nat × Nf) := [(6, [none, none, some 1, some 2, some 5]), (9, [none, none, some 1, some 2, some 5]), (12, [none, none, some 1, some 2, some 5]), (14, [none, none, some 1, some 2, some 5])]
def fp_diptychlaw2_shown : List (Nat × List Nat) := []
def an_diptychlaw2_shown : Nat → Ann
  | 0 => ⟨[], [], [], [], []⟩
  | 1 => ⟨[1], [1], [], [], [1]⟩
  | 2 => ⟨[2], [2], [], [], [2]⟩
  | 3 => ⟨[3, 4], [], [], [], []⟩
  | 4 => ⟨[0], [], [], [], []⟩
  | _ => ⟨[], [], [], [], []⟩
noncomputable abbrev x_diptychlaw2_shown : Cx := ⟨Tryd.prog, ⟨id, nf_diptychlaw2_shown, fp_diptychlaw2_shown⟩, an_diptychlaw2_shown⟩
theorem start_diptychlaw2_shown {args : List PV} {r : PV} (ha : args.length = 0) (h : awp x_diptychlaw2_shown c_diptychlaw2_shown (bodyR Tryd.prog [.tmp 0] r []) (initSt args [])) : PC Tryd.prog 10 args r :=
  pc_of_awp (X := x_diptychlaw2_shown) mixed Tryd.func10 (c := c_diptychlaw2_shown) (by kernel_rfl) (by kernel_rfl) (rs := [.tmp 0]) (by kernel_rfl) (by kernel_rfl) (by rw [ha]; decide) h
noncomputable def c_slices_Equal_api_Attr : Code := (Tryd.f42.body).getD .skip
def nf_slices_Equal_api_Attr : List (Nat × Nf) := []
def fp_slices_Equal_api_Attr : List (Nat × List Nat) := []
def an_slices_Equal_api_Attr : Nat → Ann
  | 0 => ⟨[0, 1], [], [], [], []⟩
  | 1 => ⟨[0, 1, 10], [], [], [], []⟩
  | 2 => ⟨[4], [], [], [], []⟩
  | 3 => ⟨[0, 1, 12, 13], [], [], [], []⟩
  | 4 => ⟨[0, 1, 12, 13, 14], [], [], [], []⟩
  | 5 => ⟨[0, 1, 5, 12, 13], [], [], [], []⟩
  | 6 => ⟨[0, 1, 12, 13, 24], [], [], [], []⟩
  | 7 => ⟨[4], [], [], [], []⟩
  | 8 => ⟨[0, 1, 12, 13], [], [], [], []⟩
  | 9 => ⟨[4], [], [], [], []⟩
  | _ => ⟨[], [], [], [], []⟩
noncomputable abbrev x_slices_Equal_api_Attr : Cx := ⟨Tryd.prog, ⟨id, nf_slices_Equal_api_Attr, fp_slices_Equal_api_Attr⟩, an_slices_Equal_api_Attr⟩
theorem start_slices_Equal_api_Attr {args : List PV} {r : PV} (ha : args.length = 2) (h : awp x_slices_Equal_api_Attr c_slices_Equal_api_Attr (bodyR Tryd.prog [.tmp 4] r []) (initSt args [])) : PC Tryd.prog 42 args r :=
  pc_of_awp (X := x_slices_Equal_api_Attr) mixed Tryd.func42 (c := c_slices_Equal_api_Attr) (by kernel_rfl) (by kernel_rfl) (rs := [.tmp 4]) (by kernel_rfl) (by kernel_rfl) (by rw [ha]; decide) h
noncomputable def c_slices_EqualFunc_api_Node_node_Same : Code := (Tryd.f43.body).getD .skip
def nf_slices_EqualFunc_api_Node_node_Same : List (Nat × Nf) := []
def fp_slices_EqualFunc_api_Node_node_Same : List (Nat × List Nat) := []
def an_slices_EqualFunc_api_Node_node_Same : Nat → Ann
  | 0 => ⟨[0, 1, 2], [], [], [], []⟩
  | 1 => ⟨[0, 1, 2, 14], [], [], [], []⟩
  | 2 => ⟨[6], [], [], [], []⟩
  | 3 => ⟨[1, 2, 15, 16, 17], [], [], [], []⟩
  | 4 => ⟨[1, 2, 15, 16, 17, 18], [], [], [], []⟩
  | 5 => ⟨[1, 2, 7, 8, 15, 16, 17], [8], [], [], [8]⟩
  | 6 => ⟨[1, 2, 8, 9, 15, 16, 17], [8, 9], [], [], [8, 9]⟩
  | 7 => ⟨[1, 2, 15, 16, 17, 30], [], [], [], []⟩
  | 8 => ⟨[6], [], [], [], []⟩
  | 9 => ⟨[1, 2, 15, 16, 17], [], [], [], []⟩
  | 10 => ⟨[6], [], [], [], []⟩
  | _ => ⟨[], [], [], [], []⟩
noncomputable abbrev x_slices_EqualFunc_api_Node_node_Same : Cx := ⟨Tryd.prog, ⟨id, nf_slices_EqualFunc_api_Node_node_Same, fp_slices_EqualFunc_api_Node_node_Same⟩, an_slices_EqualFunc_api_Node_node_Same⟩
theorem start_slices_EqualFunc_api_Node_node_Same {args : List PV} {r : PV} (ha : args.length = 3) (h : awp x_slices_EqualFunc_api_Node_node_Same c_slices_EqualFunc_api_Node_node_Same (bodyR Tryd.prog [.tmp 6] r []) (initSt args [])) : PC Tryd.prog 43 args r :=
  pc_of_awp (X := x_slices_EqualFunc_api_Node_node_Same) mixed Tryd.func43 (c := c_slices_EqualFunc_api_Node_node_Same) (by kernel_rfl) (by kernel_rfl) (rs := [.tmp 6]) (by kernel_rfl) (by kernel_rfl) (by rw [ha]; decide) h
noncomputable def c_node_Same : Code := (Tryd.f21.body).getD .skip
def nf_node_Same : List (Nat × Nf) := []
def fp_node_Same : List (Nat × List Nat) := []
def an_node_Same : Nat → Ann
  | 0 => ⟨[2, 3], [2, 3], [], [], [2, 3]⟩
  | 1 => ⟨[4], [], [], [], []⟩
  | _ => ⟨[], [], [], [], []⟩
noncomputable abbrev x_node_Same : Cx := ⟨Tryd.prog, ⟨id, nf_node_Same, fp_node_Same⟩, an_node_Same⟩
theorem start_node_Same {args : List PV} {r : PV} (ha : args.length = 2) (h : awp x_node_Same c_node_Same (bodyR Tryd.prog [.tmp 4] r []) (initSt args [])) : PC Tryd.prog 21 args r :=
  pc_of_awp (X := x_node_Same) mixed Tryd.func21 (c := c_node_Same) (by kernel_rfl) (by kernel_rfl) (rs := [.tmp 4]) (by kernel_rfl) (by kernel_rfl) (by rw [ha]; decide) h
noncomputable def c_internal_stringslite_HasPrefix : Code := (Tryd.f82.body).getD .skip
def nf_internal_stringslite_HasPrefix : List (Nat × Nf) := []
def fp_internal_stringslite_HasPrefix : List (Nat × List Nat) := []
def an_internal_stringslite_HasPrefix : Nat → Ann
  | 0 => ⟨[0, 1], [], [], [], []⟩
  | 1 => ⟨[4], [], [], [], []⟩
  | _ => ⟨[], [], [], [], []⟩
noncomputable abbrev x_internal_stringslite_HasPrefix : Cx := ⟨Tryd.prog, ⟨id, nf_internal_stringslite_HasPrefix, fp_internal_stringslite_HasPrefix⟩, an_internal_stringslite_HasPrefix⟩
theorem start_internal_stringslite_HasPrefix {args : List PV} {r : PV} (ha : args.length = 2) (h : awp x_internal_stringslite_HasPrefix c_internal_stringslite_HasPrefix (bodyR Tryd.prog [.tmp 4] r []) (initSt args [])) : PC Tryd.prog 82 args r :=
  pc_of_awp (X := x_internal_stringslite_HasPrefix) mixed Tryd.func82 (c := c_internal_stringslite_HasPrefix) (by kernel_rfl) (by kernel_rfl) (rs := [.tmp 4]) (by kernel_rfl) (by kernel_rfl) (by rw [ha]; decide) h
noncomputable def c_strings_HasPrefix : Code := (Tryd.f58.body).getD .skip
def nf_strings_HasPrefix : List (Nat × Nf) := []
def fp_strings_HasPrefix : List (Nat × List Nat) := []
def an_strings_HasPrefix : Nat → Ann
  | 0 => ⟨[0, 1], [], [], [], []⟩
  | 1 => ⟨[4], [], [], [], []⟩
  | _ => ⟨[], [], [], [], []⟩
noncomputable abbrev x_strings_HasPrefix : Cx := ⟨Tryd.prog, ⟨id, nf_strings_HasPrefix, fp_strings_HasPrefix⟩, an_strings_HasPrefix⟩
theorem start_strings_HasPrefix {args : List PV} {r : PV} (ha : args.length = 2) (h : awp x_strings_HasPrefix c_strings_HasPrefix (bodyR Tryd.prog [.tmp 4] r []) (initSt args [])) : PC Tryd.prog 58 args r :=
  pc_of_awp (X := x_strings_HasPrefix) mixed Tryd.func58 (c := c_strings_HasPrefix) (by kernel_rfl) (by kernel_rfl) (rs := [.tmp 4]) (by kernel_rfl) (by kernel_rfl) (by rw [ha]; decide) h
noncomputable def c_codec_reader_name_x : Code := (Tryd.f60.body).getD .skip
def nf_codec_reader_name_x : List (Nat × Nf) := []
def fp_codec_reader_name_x : List (Nat × List Nat) := []
def an_codec_reader_name_x : Nat → Ann
  | 0 => ⟨[0], [1000], [], [], [1000]⟩
  | 1 => ⟨[0, 3], [1000], [], [], [1000]⟩
  | 2 => ⟨[0, 3, 4], [1000], [], [], [1000]⟩
  | 3 => ⟨[4], [1000], [], [], [1000]⟩
  | 4 => ⟨[2], [1000], [], [], [1000]⟩
  | _ => ⟨[], [], [], [], []⟩
noncomputable abbrev x_codec_reader_name_x : Cx := ⟨Tryd.prog, ⟨id, nf_codec_reader_name_x, fp_codec_reader_name_x⟩, an_codec_reader_name_x⟩
theorem start_codec_reader_name_x {args : List PV} {es es' : List Ent} {r : PV} (ha : args.length = 1) (hl : es'.length = es.length) (he : (es'.all fun e => e.extOk es.length) = true) (h : awp x_codec_reader_name_x c_codec_reader_name_x (bodyR Tryd.prog [.tmp 2] r es') (initSt args es)) : BC Tryd.prog 60 args es r es' :=
  bc_of_awp (X := x_codec_reader_name_x) mixed Tryd.func60 (c := c_codec_reader_name_x) (by kernel_rfl) (by kernel_rfl) (rs := [.tmp 2]) (by kernel_rfl) (by kernel_rfl) (by rw [ha]; decide) hl (fun e h => List.all_eq_true.1 he e h) h
noncomputable def c_internal_stringslite_CutPrefix : Code := (Tryd.f100.body).getD .skip
def nf_internal_stringslite_CutPrefix : List (Nat × Nf) := []
def fp_internal_stringslite_CutPrefix : List (Nat × List Nat) := []
def an_internal_stringslite_CutPrefix : Nat → Ann
  | 0 => ⟨[0, 1], [], [], [], []⟩
  | 1 => ⟨[0, 1, 9], [], [], [], []⟩
  | 2 => ⟨[4, 5], [], [], [], []⟩
  | 3 => ⟨[4, 5], [], [], [], []⟩
  | _ => ⟨[], [], [], [], []⟩
noncomputable abbrev x_internal_stringslite_CutPrefix : Cx := ⟨Tryd.prog, ⟨id, nf_internal_stringslite_CutPrefix, fp_internal_stringslite_CutPrefix⟩, an_internal_stringslite_CutPrefix⟩
theorem start_internal_stringslite_CutPrefix {args : List PV} {r : PV} (ha : args.length = 2) (h : awp x_internal_stringslite_CutPrefix c_internal_stringslite_CutPrefix (bodyR Tryd.prog [.tmp 4, .tmp 5] r []) (initSt args [])) : PC Tryd.prog 100 args r :=
  pc_of_awp (X := x_internal_stringslite_CutPrefix) mixed Tryd.func100 (c := c_internal_stringslite_CutPrefix) (by kernel_rfl) (by kernel_rfl) (rs := [.tmp 4, .tmp 5]) (by kernel_rfl) (by kernel_rfl) (by rw [ha]; decide) h
noncomputable def c_strings_CutPrefix : Code := (Tryd.f84.body).getD .skip
def nf_strings_CutPrefix : List (Nat × Nf) := []
def fp_strings_CutPrefix : List (Nat × List Nat) := []
def an_strings_CutPrefix : Nat → Ann
  | 0 => ⟨[0, 1], [], [], [], []⟩
  | 1 => ⟨[4, 5], [], [], [], []⟩
  | _ => ⟨[], [], [], [], []⟩
noncomputable abbrev x_strings_CutPrefix : Cx := ⟨Tryd.prog, ⟨id, nf_strings_CutPrefix, fp_strings_CutPrefix⟩, an_strings_CutPrefix⟩
theorem start_strings_CutPrefix {args : List PV} {r : PV} (ha : args.length = 2) (h : awp x_strings_CutPrefix c_strings_CutPrefix (bodyR Tryd.prog [.tmp 4, .tmp 5] r []) (initSt args [])) : PC Tryd.prog 84 args r :=
  pc_of_awp (X := x_strings_CutPrefix) mixed Tryd.func84 (c := c_strings_CutPrefix) (by kernel_rfl) (by kernel_rfl) (rs := [.tmp 4, .tmp 5]) (by kernel_rfl) (by kernel_rfl) (by rw [ha]; decide) h
noncomputable def c_codec_reader_takes_x : Code := (Tryd.f61.body).getD .skip
def nf_codec_reader_takes_x : List (Nat × Nf) := []
def fp_codec_reader_takes_x : List (Nat × List Nat) := []
def an_codec_reader_takes_x : Nat → Ann
  | 0 => ⟨[0, 1], [1000], [], [], [1000]⟩
  | 1 => ⟨[0, 5, 6], [1000], [], [], [1000]⟩
  | 2 => ⟨[6], [1000], [], [], [1000]⟩
  | 3 => ⟨[4], [1000], [], [], [1000]⟩
  | _ => ⟨[], [], [], [], []⟩
noncomputable abbrev x_codec_reader_takes_x : Cx := ⟨Tryd.prog, ⟨id, nf_codec_reader_takes_x, fp_codec_reader_takes_x⟩, an_codec_reader_takes_x⟩
theorem start_codec_reader_takes_x {args : List PV} {es es' : List Ent} {r : PV} (ha : args.length = 2) (hl : es'.length = es.length) (he : (es'.all fun e => e.extOk es.length) = true) (h : awp x_codec_reader_takes_x c_codec_reader_takes_x (bodyR Tryd.prog [.tmp 4] r es') (initSt args es)) : BC Tryd.prog 61 args es r es' :=
  bc_of_awp (X := x_codec_reader_takes_x) mixed Tryd.func61 (c := c_codec_reader_takes_x) (by kernel_rfl) (by kernel_rfl) (rs := [.tmp 4]) (by kernel_rfl) (by kernel_rfl) (by rw [ha]; decide) hl (fun e h => List.all_eq_true.1 he e h) h
noncomputable def c_codec_reader_want_x : Code := (Tryd.f62.body).getD .skip
def nf_codec_reader_want_x : List (Nat × Nf) := []
def fp_codec_reader_want_x : List (Nat × List Nat) := []
def an_codec_reader_want_x : Nat → Ann
  | 0 => ⟨[], [1000], [], [], [1000]⟩
  | _ => ⟨[], [], [], [], []⟩
noncomputable abbrev x_codec_reader_want_x : Cx := ⟨Tryd.prog, ⟨id, nf_codec_reader_want_x, fp_codec_reader_want_x⟩, an_codec_reader_want_x⟩
theorem start_codec_reader_want_x {args : List PV} {es es' : List Ent} {r : PV} (ha : args.length = 2) (hl : es'.length = es.length) (he : (es'.all fun e => e.extOk es.length) = true) (h : awp x_codec_reader_want_x c_codec_reader_want_x (bodyR Tryd.prog [] r es') (initSt args es)) : BC Tryd.prog 62 args es r es' :=
  bc_of_awp (X := x_codec_reader_want_x) mixed Tryd.func62 (c := c_codec_reader_want_x) (by kernel_rfl) (by kernel_rfl) (rs := []) (by kernel_rfl) (by kernel_rfl) (by rw [ha]; decide) hl (fun e h => List.all_eq_true.1 he e h) h
noncomputable def c_codec_reader_quoted_x : Code := (Tryd.f63.body).getD .skip
def nf_codec_reader_quoted_x : List (Nat × Nf) := []
def fp_codec_reader_quoted_x : List (Nat × List Nat) := []
def an_codec_reader_quoted_x : Nat → Ann
  | 0 => ⟨[0], [1000], [], [], [1000]⟩
  | 1 => ⟨[0], [1000], [], [], [1000]⟩
  | 2 => ⟨[0, 3], [3, 1000], [.thaw 3 3 1], [], [3, 1000]⟩
  | 3 => ⟨[0, 3, 4], [3, 1000], [], [], [3, 1000]⟩
  | 4 => ⟨[0, 3, 4, 21], [3, 1000], [], [], [3, 1000]⟩
  | 5 => ⟨[0, 3, 4], [3, 1000], [], [], [3, 1000]⟩
  | 6 => ⟨[0, 3, 4, 5], [3, 1000], [], [], [3, 1000]⟩
  | 7 => ⟨[0, 3, 4, 5, 30], [3, 1000], [], [], [3, 1000]⟩
  | 8 => ⟨[3], [3, 1000], [], [], [3, 1000]⟩
  | 9 => ⟨[2], [1000], [], [], [1000]⟩
  | 10 => ⟨[0, 3, 4, 45], [3, 1000], [], [], [3, 1000]⟩
  | 11 => ⟨[0, 3, 4], [3, 1000], [], [], [3, 1000]⟩
  | 12 => ⟨[0, 3, 4, 56], [3, 1000], [], [], [3, 1000]⟩
  | 13 => ⟨[0, 3, 4], [3, 1000], [], [], [3, 1000]⟩
  | 14 => ⟨[], [1000], [], [], [1000]⟩
  | 15 => ⟨[2], [1000], [], [], [1000]⟩
  | _ => ⟨[], [], [], [], []⟩
noncomputable abbrev x_codec_reader_quoted_x : Cx := ⟨Tryd.prog, ⟨id, nf_codec_reader_quoted_x, fp_codec_reader_quoted_x⟩, an_codec_reader_quoted_x⟩
theorem start_codec_reader_quoted_x {args : List PV} {es es' : List Ent} {r : PV} (ha : args.length = 1) (hl : es'.length = es.length) (he : (es'.all fun e => e.extOk es.length) = true) (h : awp x_codec_reader_quoted_x c_codec_reader_quoted_x (bodyR Tryd.prog [.tmp 2] r es') (initSt args es)) : BC Tryd.prog 63 args es r es' :=
  bc_of_awp (X := x_codec_reader_quoted_x) mixed Tryd.func63 (c := c_codec_reader_quoted_x) (by kernel_rfl) (by kernel_rfl) (rs := [.tmp 2]) (by kernel_rfl) (by kernel_rfl) (by rw [ha]; decide) hl (fun e h => List.all_eq_true.1 he e h) h
noncomputable def c_codec_reader_text_x : Code := (Tryd.f59.body).getD .skip
def nf_codec_reader_text_x : List (Nat × Nf) := [(7, [none, none, none, some 2, some 5]), (11, [none, none, some 1, none, none]), (24, [none, none, some 1, none, none])]
def fp_codec_reader_text_x : List (Nat × List Nat) := [(15, [3]), (16, [3]), (18, [1000]), (20, [19, 323]), (21, [3])]
def an_codec_reader_text_x : Nat → Ann
  | 0 => ⟨[0, 2], [2, 1000], [.nrm 2 [none, none, some 1, some 2, some 5]], [], [2, 1000]⟩
  | 1 => ⟨[0, 2, 3], [2, 3, 323, 1000], [.thawV 3 2 323 1], [], [2, 3, 323, 1000]⟩
  | 2 => ⟨[0, 2, 3, 10], [2, 3, 323, 1000], [], [], [2, 3, 323, 1000]⟩
  | 3 => ⟨[2], [2, 1000], [], [], [2, 1000]⟩
  | 4 => ⟨[0, 2, 3, 4], [2, 3, 323, 1000], [], [], [2, 3, 323, 1000]⟩
  | 5 => ⟨[0, 2, 3, 12], [2, 3, 323, 1000], [], [], [2, 3, 323, 1000]⟩
  | 6 => ⟨[0, 2, 3, 4], [2, 3, 323, 1000], [], [], [2, 3, 323, 1000]⟩
  | 7 => ⟨[0, 2, 3], [2, 3, 323, 1000], [], [], [2, 3, 323, 1000]⟩
  | 8 => ⟨[2, 3], [2, 3, 323, 1000], [], [], [2, 3, 323, 1000]⟩
  | 9 => ⟨[2], [2, 1000], [], [], [2, 1000]⟩
  | _ => ⟨[], [], [], [], []⟩
noncomputable abbrev x_codec_reader_text_x : Cx := ⟨Tryd.prog, ⟨id, nf_codec_reader_text_x, fp_codec_reader_text_x⟩, an_codec_reader_text_x⟩
theorem start_codec_reader_text_x {args : List PV} {es es' : List Ent} {r : PV} (ha : args.length = 1) (hl : es'.length = es.length) (he : (es'.all fun e => e.extOk es.length) = true) (h : awp x_codec_reader_text_x c_codec_reader_text_x (bodyR Tryd.prog [.cell 2 26] r es') (initSt args es)) : BC Tryd.prog 59 args es r es' :=
  bc_of_awp (X := x_codec_reader_text_x) mixed Tryd.func59 (c := c_codec_reader_text_x) (by kernel_rfl) (by kernel_rfl) (rs := [.cell 2 26]) (by kernel_rfl) (by kernel_rfl) (by rw [ha]; decide) hl (fun e h => List.all_eq_true.1 he e h) h
noncomputable def c_codec_reader_node_x : Code := (Tryd.f44.body).getD .skip
def nf_codec_reader_node_x : List (Nat × Nf) := [(15, [none, none, some 1, none, none]), (73, [none, none, none, some 2, some 5])]
def fp_codec_reader_node_x : List (Nat × List Nat) := [(32, [3]), (33, [3]), (36, [1000]), (39, [38, 324]), (40, [3]), (64, [3]), (65, [3]), (67, [1000]), (69, [68, 325]), (70, [3])]
def an_codec_reader_node_x : Nat → Ann
  | 0 => ⟨[0, 2], [2, 1000], [.nrm 2 [none, none, some 1, some 2, some 5]], [], [2, 1000]⟩
  | 1 => ⟨[0, 2, 10], [2, 1000], [], [], [2, 1000]⟩
  | 2 => ⟨[2], [2, 1000], [], [], [2, 1000]⟩
  | 3 => ⟨[0, 2, 3], [2, 3, 324, 325, 1000], [.thawV 3 3 324 2, .thawV 3 4 325 5], [], [2, 3, 324, 325, 1000]⟩
  | 4 => ⟨[0, 2, 3, 17], [2, 3, 324, 325, 1000], [], [], [2, 3, 324, 325, 1000]⟩
  | 5 => ⟨[0, 2, 3, 4], [2, 3, 324, 325, 1000], [], [], [2, 3, 324, 325, 1000]⟩
  | 6 => ⟨[0, 2, 3, 25], [2, 3, 324, 325, 1000], [], [], [2, 3, 324, 325, 1000]⟩
  | 7 => ⟨[0, 2, 3, 4], [2, 3, 324, 325, 1000], [], [], [2, 3, 324, 325, 1000]⟩
  | 8 => ⟨[0, 2, 3, 5], [2, 3, 324, 325, 1000], [], [], [2, 3, 324, 325, 1000]⟩
  | 9 => ⟨[0, 2, 3, 5], [2, 3, 324, 325, 1000], [], [], [2, 3, 324, 325, 1000]⟩
  | 10 => ⟨[0, 2, 3], [2, 3, 324, 325, 1000], [], [], [2, 3, 324, 325, 1000]⟩
  | 11 => ⟨[0, 2, 3], [2, 3, 324, 325, 1000], [], [], [2, 3, 324, 325, 1000]⟩
  | 12 => ⟨[0, 2, 3], [2, 3, 324, 325, 1000], [], [], [2, 3, 324, 325, 1000]⟩
  | 13 => ⟨[0, 2, 3, 63], [2, 3, 324, 325, 1000], [], [], [2, 3, 324, 325, 1000]⟩
  | 14 => ⟨[0, 2, 3], [2, 3, 324, 325, 1000], [], [], [2, 3, 324, 325, 1000]⟩
  | 15 => ⟨[2, 3], [2, 3, 324, 325, 1000], [], [], [2, 3, 324, 325, 1000]⟩
  | 16 => ⟨[2], [2, 1000], [], [], [2, 1000]⟩
  | _ => ⟨[], [], [], [], []⟩
noncomputable abbrev x_codec_reader_node_x : Cx := ⟨Tryd.prog, ⟨id, nf_codec_reader_node_x, fp_codec_reader_node_x⟩, an_codec_reader_node_x⟩
theorem start_codec_reader_node_x {args : List PV} {es es' : List Ent} {r : PV} (ha : args.length = 1) (hl : es'.length = es.length) (he : (es'.all fun e => e.extOk es.length) = true) (h : awp x_codec_reader_node_x c_codec_reader_node_x (bodyR Tryd.prog [.cell 2 26] r es') (initSt args es)) : BC Tryd.prog 44 args es r es' :=
  bc_of_awp (X := x_codec_reader_node_x) mixed Tryd.func44 (c := c_codec_reader_node_x) (by kernel_rfl) (by kernel_rfl) (rs := [.cell 2 26]) (by kernel_rfl) (by kernel_rfl) (by rw [ha]; decide) hl (fun e h => List.all_eq_true.1 he e h) h
noncomputable def c_codec_Parse : Code := (Tryd.f22.body).getD .skip
def nf_codec_Parse : List (Nat × Nf) := [(37, [none, none, some 1, some 2, some 5]), (40, [none, none, some 1, some 2, some 5])]
def fp_codec_Parse : List (Nat × List Nat) := []
def an_codec_Parse : Nat → Ann
  | 0 => ⟨[0, 2], [2], [.nrm 2 [none, none, some 1, some 2, some 5]], [], [2]⟩
  | 1 => ⟨[0, 2, 4], [2, 10], [], [], [2, 10]⟩
  | 2 => ⟨[0, 2, 4, 5], [2, 5, 10], [], [], [2, 5, 10]⟩
  | 3 => ⟨[0, 2, 4, 5, 6], [2, 5, 6, 10, 343], [.self 6 0, .thawB 6 1 343 5], [], [2, 5, 6, 10, 343]⟩
  | 4 => ⟨[0, 2, 4, 5, 6], [2, 5, 6, 10, 343], [], [], [2, 5, 6, 10, 343]⟩
  | 5 => ⟨[0, 2, 4, 5, 6, 7], [2, 5, 6, 10, 343], [], [], [2, 5, 6, 10, 343]⟩
  | 6 => ⟨[2, 5, 7, 36], [2, 5], [], [], [2, 5]⟩
  | 7 => ⟨[2, 3], [2], [], [], [2]⟩
  | 8 => ⟨[2, 5, 7, 39], [2, 5], [], [], [2, 5]⟩
  | 9 => ⟨[2, 3], [2], [], [], [2]⟩
  | 10 => ⟨[2, 3], [2], [], [], [2]⟩
  | _ => ⟨[], [], [], [], []⟩
noncomputable abbrev x_codec_Parse : Cx := ⟨Tryd.prog, ⟨id, nf_codec_Parse, fp_codec_Parse⟩, an_codec_Parse⟩
theorem start_codec_Parse {args : List PV} {r : PV} (ha : args.length = 1) (h : awp x_codec_Parse c_codec_Parse (bodyR Tryd.prog [.cell 2 26, .tmp 3] r []) (initSt args [])) : PC Tryd.prog 22 args r :=
  pc_of_awp (X := x_codec_Parse) mixed Tryd.func22 (c := c_codec_Parse) (by kernel_rfl) (by kernel_rfl) (rs := [.cell 2 26, .tmp 3]) (by kernel_rfl) (by kernel_rfl) (by rw [ha]; decide) h
noncomputable def c_diptychlaw2_CodecQuotes : Code := (Tryd.f7.body).getD .skip
def nf_diptychlaw2_CodecQuotes : List (Nat × Nf) := [(26, [none, none, some 1, some 2, some 5]), (28, [none, none, some 1, some 2, some 5])]
def fp_diptychlaw2_CodecQuotes : List (Nat × List Nat) := []
def an_diptychlaw2_CodecQuotes : Nat → Ann
  | 0 => ⟨[0], [], [], [], []⟩
  | 1 => ⟨[0, 3], [], [], [], []⟩
  | 2 => ⟨[0, 3, 21], [], [], [], []⟩
  | 3 => ⟨[2], [], [], [], []⟩
  | 4 => ⟨[0, 4], [4], [], [], [4]⟩
  | 5 => ⟨[0, 4, 5], [4, 5], [], [], [4, 5]⟩
  | 6 => ⟨[0, 4, 5, 6, 7], [4, 5], [], [], [4, 5]⟩
  | 7 => ⟨[0, 4, 5, 6, 7, 8, 9], [4, 5], [], [], [4, 5]⟩
  | 8 => ⟨[4, 5, 6, 7, 8, 9, 57], [4, 5], [], [], [4, 5]⟩
  | 9 => ⟨[2], [], [], [], []⟩
  | 10 => ⟨[4, 5, 6, 8, 9, 59], [4, 5], [], [], [4, 5]⟩
  | 11 => ⟨[4, 5, 8, 9, 10, 11], [4, 5, 10], [], [], [4, 5, 10]⟩
  | 12 => ⟨[5, 8, 9, 72], [5], [], [], [5]⟩
  | 13 => ⟨[2], [], [], [], []⟩
  | 14 => ⟨[5, 8, 9, 74], [5], [], [], [5]⟩
  | 15 => ⟨[2], [], [], [], []⟩
  | 16 => ⟨[5, 12, 13], [5, 12], [], [], [5, 12]⟩
  | 17 => ⟨[2], [], [], [], []⟩
  | _ => ⟨[], [], [], [], []⟩
noncomputable abbrev x_diptychlaw2_CodecQuotes : Cx := ⟨Tryd.prog, ⟨id, nf_diptychlaw2_CodecQuotes, fp_diptychlaw2_CodecQuotes⟩, an_diptychlaw2_CodecQuotes⟩
theorem start_diptychlaw2_CodecQuotes {args : List PV} {r : PV} (ha : args.length = 1) (h : awp x_diptychlaw2_CodecQuotes c_diptychlaw2_CodecQuotes (bodyR Tryd.prog [.tmp 2] r []) (initSt args [])) : PC Tryd.prog 7 args r :=
  pc_of_awp (X := x_diptychlaw2_CodecQuotes) mixed Tryd.func7 (c := c_diptychlaw2_CodecQuotes) (by kernel_rfl) (by kernel_rfl) (rs := [.tmp 2]) (by kernel_rfl) (by kernel_rfl) (by rw [ha]; decide) h
noncomputable def c_diptychlaw2_pick : Code := (Tryd.f29.body).getD .skip
def nf_diptychlaw2_pick : List (Nat × Nf) := []
def fp_diptychlaw2_pick : List (Nat × List Nat) := []
def an_diptychlaw2_pick : Nat → Ann
  | 0 => ⟨[0, 1], [], [], [], []⟩
  | 1 => ⟨[0, 1, 6], [], [], [], []⟩
  | 2 => ⟨[0, 1], [], [], [], []⟩
  | 3 => ⟨[4], [], [], [], []⟩
  | _ => ⟨[], [], [], [], []⟩
noncomputable abbrev x_diptychlaw2_pick : Cx := ⟨Tryd.prog, ⟨id, nf_diptychlaw2_pick, fp_diptychlaw2_pick⟩, an_diptychlaw2_pick⟩
theorem start_diptychlaw2_pick {args : List PV} {r : PV} (ha : args.length = 2) (h : awp x_diptychlaw2_pick c_diptychlaw2_pick (bodyR Tryd.prog [.tmp 4] r []) (initSt args [])) : PC Tryd.prog 29 args r :=
  pc_of_awp (X := x_diptychlaw2_pick) mixed Tryd.func29 (c := c_diptychlaw2_pick) (by kernel_rfl) (by kernel_rfl) (rs := [.tmp 4]) (by kernel_rfl) (by kernel_rfl) (by rw [ha]; decide) h
noncomputable def c_diptychlaw2_CodecDeep : Code := (Tryd.f8.body).getD .skip
def nf_diptychlaw2_CodecDeep : List (Nat × Nf) := [(21, [none, none, some 1, some 2, some 5]), (33, [none, none, some 1, some 2, some 5])]
def fp_diptychlaw2_CodecDeep : List (Nat × List Nat) := []
def an_diptychlaw2_CodecDeep : Nat → Ann
  | 0 => ⟨[0, 1], [], [], [], []⟩
  | 1 => ⟨[0, 1, 5], [], [], [], []⟩
  | 2 => ⟨[0, 1, 17], [], [], [], []⟩
  | 3 => ⟨[4], [], [], [], []⟩
  | 4 => ⟨[1, 6], [], [], [], []⟩
  | 5 => ⟨[1, 6, 7], [], [], [], []⟩
  | 6 => ⟨[1, 6, 7, 8], [8], [], [], [8]⟩
  | 7 => ⟨[1, 6, 7, 8, 22], [8], [], [], [8]⟩
  | 8 => ⟨[1, 6, 7, 8], [8], [], [], [8]⟩
  | 9 => ⟨[1, 6, 7, 8, 9], [8], [], [], [8]⟩
  | 10 => ⟨[1, 6, 7, 8, 9, 26], [8], [], [], [8]⟩
  | 11 => ⟨[1, 6, 7, 8, 9], [8], [], [], [8]⟩
  | 12 => ⟨[1, 6, 7, 8, 9], [8], [], [], [8]⟩
  | 13 => ⟨[1, 6, 7, 8, 9], [8], [], [], [8]⟩
  | 14 => ⟨[1, 6, 7, 8, 34], [8], [], [], [8]⟩
  | 15 => ⟨[1, 6, 7, 8], [8], [], [], [8]⟩
  | 16 => ⟨[1, 6, 7, 8], [8], [], [], [8]⟩
  | 17 => ⟨[1, 6, 7, 8, 10], [8], [], [], [8]⟩
  | 18 => ⟨[1, 6, 7, 8, 10, 41], [8], [], [], [8]⟩
  | 19 => ⟨[1, 6, 7, 8, 10], [8], [], [], [8]⟩
  | 20 => ⟨[1, 6, 7, 8, 10], [8], [], [], [8]⟩
  | 21 => ⟨[1, 6, 7, 8, 11, 12], [8], [], [], [8]⟩
  | 22 => ⟨[1, 6, 7, 8, 11, 12, 13, 14], [8, 13], [], [], [8, 13]⟩
  | 23 => ⟨[6, 7, 8, 11, 12, 13, 14, 56], [8, 13], [], [], [8, 13]⟩
  | 24 => ⟨[4], [], [], [], []⟩
  | 25 => ⟨[6, 7, 8, 11, 12, 13, 14, 73], [8, 13], [], [], [8, 13]⟩
  | 26 => ⟨[4], [], [], [], []⟩
  | 27 => ⟨[4], [], [], [], []⟩
  | _ => ⟨[], [], [], [], []⟩
noncomputable abbrev x_diptychlaw2_CodecDeep : Cx := ⟨Tryd.prog, ⟨id, nf_diptychlaw2_CodecDeep, fp_diptychlaw2_CodecDeep⟩, an_diptychlaw2_CodecDeep⟩
theorem start_diptychlaw2_CodecDeep {args : List PV} {r : PV} (ha : args.length = 2) (h : awp x_diptychlaw2_CodecDeep c_diptychlaw2_CodecDeep (bodyR Tryd.prog [.tmp 4] r []) (initSt args [])) : PC Tryd.prog 8 args r :=
  pc_of_awp (X := x_diptychlaw2_CodecDeep) mixed Tryd.func8 (c := c_diptychlaw2_CodecDeep) (by kernel_rfl) (by kernel_rfl) (rs := [.tmp 4]) (by kernel_rfl) (by kernel_rfl) (by rw [ha]; decide) h
noncomputable def c_codec_PrintAll : Code := (Tryd.f14.body).getD .skip
def nf_codec_PrintAll : List (Nat × Nf) := [(8, [none, none, some 1, some 2, none])]
def fp_codec_PrintAll : List (Nat × List Nat) := []
def an_codec_PrintAll : Nat → Ann
  | 0 => ⟨[0], [], [], [], []⟩
  | 1 => ⟨[4, 5], [], [], [], []⟩
  | 2 => ⟨[4, 5, 13], [], [], [], []⟩
  | 3 => ⟨[2, 3], [], [], [], []⟩
  | 4 => ⟨[2, 3], [], [], [], []⟩
  | _ => ⟨[], [], [], [], []⟩
noncomputable abbrev x_codec_PrintAll : Cx := ⟨Tryd.prog, ⟨id, nf_codec_PrintAll, fp_codec_PrintAll⟩, an_codec_PrintAll⟩
theorem start_codec_PrintAll {args : List PV} {r : PV} (ha : args.length = 1) (h : awp x_codec_PrintAll c_codec_PrintAll (bodyR Tryd.prog [.tmp 2, .tmp 3] r []) (initSt args [])) : PC Tryd.prog 14 args r :=
  pc_of_awp (X := x_codec_PrintAll) mixed Tryd.func14 (c := c_codec_PrintAll) (by kernel_rfl) (by kernel_rfl) (rs := [.tmp 2, .tmp 3]) (by kernel_rfl) (by kernel_rfl) (by rw [ha]; decide) h
noncomputable def c_diptychref1_sameNames : Code := (Tryd.f47.body).getD .skip
def nf_diptychref1_sameNames : List (Nat × Nf) := []
def fp_diptychref1_sameNames : List (Nat × List Nat) := []
def an_diptychref1_sameNames : Nat → Ann
  | 0 => ⟨[0, 1], [], [], [], []⟩
  | 1 => ⟨[0, 1, 10], [], [], [], []⟩
  | 2 => ⟨[4], [], [], [], []⟩
  | 3 => ⟨[0, 1, 5], [], [], [], []⟩
  | 4 => ⟨[0, 1, 5, 14], [], [], [], []⟩
  | 5 => ⟨[0, 1, 5], [], [], [], []⟩
  | 6 => ⟨[0, 1, 5, 25], [], [], [], []⟩
  | 7 => ⟨[4], [], [], [], []⟩
  | 8 => ⟨[4], [], [], [], []⟩
  | _ => ⟨[], [], [], [], []⟩
noncomputable abbrev x_diptychref1_sameNames : Cx := ⟨Tryd.prog, ⟨id, nf_diptychref1_sameNames, fp_diptychref1_sameNames⟩, an_diptychref1_sameNames⟩
theorem start_diptychref1_sameNames {args : List PV} {r : PV} (ha : args.length = 2) (h : awp x_diptychref1_sameNames c_diptychref1_sameNames (bodyR Tryd.prog [.tmp 4] r []) (initSt args [])) : PC Tryd.prog 47 args r :=
  pc_of_awp (X := x_diptychref1_sameNames) mixed Tryd.func47 (c := c_diptychref1_sameNames) (by kernel_rfl) (by kernel_rfl) (rs := [.tmp 4]) (by kernel_rfl) (by kernel_rfl) (by rw [ha]; decide) h
noncomputable def c_diptychref1_Join : Code := (Tryd.f57.body).getD .skip
def nf_diptychref1_Join : List (Nat × Nf) := []
def fp_diptychref1_Join : List (Nat × List Nat) := [(65, [3]), (66, [3, 62]), (67, [5]), (69, [62, 68])]
def an_diptychref1_Join : Nat → Ann
  | 0 => ⟨[0], [], [], [], []⟩
  | 1 => ⟨[0, 3], [3], [.thaw 3 3 5], [], [3]⟩
  | 2 => ⟨[0, 3, 4], [3], [], [], [3]⟩
  | 3 => ⟨[0, 3, 4, 10], [3], [], [], [3]⟩
  | 4 => ⟨[0, 3, 4], [3], [], [], [3]⟩
  | 5 => ⟨[0, 3, 4, 5], [3, 5], [], [], [3, 5]⟩
  | 6 => ⟨[0, 3, 4, 5, 6], [3, 5], [], [], [3, 5]⟩
  | 7 => ⟨[0, 3, 4, 5, 6, 27], [3, 5], [], [], [3, 5]⟩
  | 8 => ⟨[0, 3, 4, 5, 6, 52], [3, 5], [], [], [3, 5]⟩
  | 9 => ⟨[0, 3, 4, 5, 6], [3, 5], [], [], [3, 5]⟩
  | 10 => ⟨[0, 3, 4], [62], [], [.ren 62 3], [3, 62]⟩
  | 11 => ⟨[0, 3, 4], [3], [], [], [3]⟩
  | 12 => ⟨[2], [3], [], [.ren 3 2], [2, 3]⟩
  | _ => ⟨[], [], [], [], []⟩
noncomputable abbrev x_diptychref1_Join : Cx := ⟨Tryd.prog, ⟨id, nf_diptychref1_Join, fp_diptychref1_Join⟩, an_diptychref1_Join⟩
theorem start_diptychref1_Join {args : List PV} {r : PV} (ha : args.length = 1) (h : awp x_diptychref1_Join c_diptychref1_Join (bodyR Tryd.prog [.tmp 2] r []) (initSt args [])) : PC Tryd.prog 57 args r :=
  pc_of_awp (X := x_diptychref1_Join) mixed Tryd.func57 (c := c_diptychref1_Join) (by kernel_rfl) (by kernel_rfl) (rs := [.tmp 2]) (by kernel_rfl) (by kernel_rfl) (by rw [ha]; decide) h
noncomputable def c_diptychlaw2_made : Code := (Tryd.f40.body).getD .skip
def nf_diptychlaw2_made : List (Nat × Nf) := [(32, [none, none, some 1, some 2, some 5]), (61, [none, none, some 1, some 2, some 5])]
def fp_diptychlaw2_made : List (Nat × List Nat) := []
def an_diptychlaw2_made : Nat → Ann
  | 0 => ⟨[0], [], [], [], []⟩
  | 1 => ⟨[0, 3], [10], [], [.ren 10 3], [3, 10]⟩
  | 2 => ⟨[0, 3, 4], [3, 11], [], [.ren 11 4], [3, 4, 11]⟩
  | 3 => ⟨[0, 3, 4, 5], [3, 4, 5], [.thaw 5 5 5], [], [3, 4, 5]⟩
  | 4 => ⟨[0, 3, 4, 5, 6], [3, 4, 5], [], [], [3, 4, 5]⟩
  | 5 => ⟨[0, 3, 4, 5, 6, 19], [3, 4, 5], [], [], [3, 4, 5]⟩
  | 6 => ⟨[0, 3, 4, 5, 6], [3, 4, 5], [], [], [3, 4, 5]⟩
  | 7 => ⟨[0, 3, 4, 5, 6, 7], [3, 4, 5, 7], [], [], [3, 4, 5, 7]⟩
  | 8 => ⟨[0, 3, 4, 5, 6, 7, 8], [3, 4, 5, 7, 8], [], [], [3, 4, 5, 7, 8]⟩
  | 9 => ⟨[0, 3, 4, 5, 6, 7, 8, 36], [3, 4, 5, 7, 8], [], [], [3, 4, 5, 7, 8]⟩
  | 10 => ⟨[0, 3, 4, 5, 6, 7, 8], [3, 4, 5, 7, 8], [.nrm 8 [none, none, none, some 2, none]], [], [3, 4, 5, 7, 8]⟩
  | 11 => ⟨[0, 3, 4, 5, 6, 7, 8, 49], [3, 4, 5, 7, 8], [], [], [3, 4, 5, 7, 8]⟩
  | 12 => ⟨[0, 3, 4, 5, 6, 7, 8, 49, 50], [3, 4, 5, 7, 8], [], [], [3, 4, 5, 7, 8]⟩
  | 13 => ⟨[0, 3, 4, 5, 6, 7, 8, 49, 50], [3, 4, 5, 7, 8], [], [], [3, 4, 5, 7, 8]⟩
  | 14 => ⟨[0, 3, 4, 5, 6, 7, 8, 49, 50], [3, 4, 5, 7, 8], [], [], [3, 4, 5, 7, 8]⟩
  | 15 => ⟨[0, 3, 4, 5, 6, 7, 8, 49, 50], [3, 4, 5, 7, 8], [], [], [3, 4, 5, 7, 8]⟩
  | 16 => ⟨[0, 3, 4, 5, 6, 7, 8], [3, 4, 5, 7, 8], [], [], [3, 4, 5, 7, 8]⟩
  | 17 => ⟨[0, 3, 4, 5, 6, 7, 8, 65], [3, 4, 5, 7, 8], [], [], [3, 4, 5, 7, 8]⟩
  | 18 => ⟨[0, 3, 4, 5, 6, 7, 8], [3, 4, 5, 7, 8], [.nrm 8 [none, none, some 1, none, none]], [], [3, 4, 5, 7, 8]⟩
  | 19 => ⟨[0, 3, 4, 5, 6, 8, 71], [3, 4, 5, 8], [], [], [3, 4, 5, 8]⟩
  | 20 => ⟨[0, 3, 4, 5, 6, 8], [3, 4, 5, 8], [.nrm 8 [none, none, some 1, none, none]], [], [3, 4, 5, 8]⟩
  | 21 => ⟨[0, 3, 4, 5, 6, 7, 8, 49, 74], [3, 4, 5, 7, 8], [], [], [3, 4, 5, 7, 8]⟩
  | 22 => ⟨[0, 3, 4, 5, 6, 7, 8, 49, 74], [3, 4, 5, 7, 8], [], [], [3, 4, 5, 7, 8]⟩
  | 23 => ⟨[0, 3, 4, 5, 6, 7, 8, 74], [3, 4, 5, 7, 8], [], [], [3, 4, 5, 7, 8]⟩
  | 24 => ⟨[0, 3, 4, 5, 6, 8, 9], [3, 4, 5, 8], [], [], [3, 4, 5, 8]⟩
  | 25 => ⟨[0, 3, 4, 5, 6, 8, 9], [3, 4, 5, 8], [], [], [3, 4, 5, 8]⟩
  | 26 => ⟨[0, 3, 4, 5, 6, 8], [3, 4, 8, 94], [], [.ren 94 5], [3, 4, 5, 8, 94]⟩
  | 27 => ⟨[0, 3, 4, 5, 6], [3, 4, 5], [], [], [3, 4, 5]⟩
  | 28 => ⟨[2], [], [], [], []⟩
  | _ => ⟨[], [], [], [], []⟩
noncomputable abbrev x_diptychlaw2_made : Cx := ⟨Tryd.prog, ⟨id, nf_diptychlaw2_made, fp_diptychlaw2_made⟩, an_diptychlaw2_made⟩
theorem start_diptychlaw2_made {args : List PV} {r : PV} (ha : args.length = 1) (h : awp x_diptychlaw2_made c_diptychlaw2_made (bodyR Tryd.prog [.tmp 2] r []) (initSt args [])) : PC Tryd.prog 40 args r :=
  pc_of_awp (X := x_diptychlaw2_made) mixed Tryd.func40 (c := c_diptychlaw2_made) (by kernel_rfl) (by kernel_rfl) (rs := [.tmp 2]) (by kernel_rfl) (by kernel_rfl) (by rw [ha]; decide) h
noncomputable def c_diptychlaw2_doc : Code := (Tryd.f20.body).getD .skip
def nf_diptychlaw2_doc : List (Nat × Nf) := [(5, [none, none, some 1, some 2, none])]
def fp_diptychlaw2_doc : List (Nat × List Nat) := []
def an_diptychlaw2_doc : Nat → Ann
  | 0 => ⟨[0, 2], [2], [.nrm 2 [none, none, some 1, some 2, some 5]], [], [2]⟩
  | 1 => ⟨[2], [2], [], [], [2]⟩
  | _ => ⟨[], [], [], [], []⟩
noncomputable abbrev x_diptychlaw2_doc : Cx := ⟨Tryd.prog, ⟨id, nf_diptychlaw2_doc, fp_diptychlaw2_doc⟩, an_diptychlaw2_doc⟩
theorem start_diptychlaw2_doc {args : List PV} {r : PV} (ha : args.length = 1) (h : awp x_diptychlaw2_doc c_diptychlaw2_doc (bodyR Tryd.prog [.cell 2 26] r []) (initSt args [])) : PC Tryd.prog 20 args r :=
  pc_of_awp (X := x_diptychlaw2_doc) mixed Tryd.func20 (c := c_diptychlaw2_doc) (by kernel_rfl) (by kernel_rfl) (rs := [.cell 2 26]) (by kernel_rfl) (by kernel_rfl) (by rw [ha]; decide) h
noncomputable def c_codec_ParseAll : Code := (Tryd.f24.body).getD .skip
def nf_codec_ParseAll : List (Nat × Nf) := []
def fp_codec_ParseAll : List (Nat × List Nat) := []
def an_codec_ParseAll : Nat → Ann
  | 0 => ⟨[0], [], [], [], []⟩
  | 1 => ⟨[4, 5], [4], [], [], [4]⟩
  | 2 => ⟨[2, 3], [], [], [], []⟩
  | _ => ⟨[], [], [], [], []⟩
noncomputable abbrev x_codec_ParseAll : Cx := ⟨Tryd.prog, ⟨id, nf_codec_ParseAll, fp_codec_ParseAll⟩, an_codec_ParseAll⟩
theorem start_codec_ParseAll {args : List PV} {r : PV} (ha : args.length = 1) (h : awp x_codec_ParseAll c_codec_ParseAll (bodyR Tryd.prog [.tmp 2, .tmp 3] r []) (initSt args [])) : PC Tryd.prog 24 args r :=
  pc_of_awp (X := x_codec_ParseAll) mixed Tryd.func24 (c := c_codec_ParseAll) (by kernel_rfl) (by kernel_rfl) (rs := [.tmp 2, .tmp 3]) (by kernel_rfl) (by kernel_rfl) (by rw [ha]; decide) h
noncomputable def c_diptychref1_Same : Code := (Tryd.f26.body).getD .skip
def nf_diptychref1_Same : List (Nat × Nf) := []
def fp_diptychref1_Same : List (Nat × List Nat) := []
def an_diptychref1_Same : Nat → Ann
  | 0 => ⟨[2, 3], [2, 3], [], [], [2, 3]⟩
  | 1 => ⟨[2, 3, 34], [2, 3], [], [], [2, 3]⟩
  | 2 => ⟨[4], [], [], [], []⟩
  | 3 => ⟨[2, 3, 5], [2, 3], [], [], [2, 3]⟩
  | 4 => ⟨[2, 3, 5, 39], [2, 3], [], [], [2, 3]⟩
  | 5 => ⟨[2, 3, 5], [2, 3], [], [], [2, 3]⟩
  | 6 => ⟨[2, 3, 5, 52], [2, 3], [], [], [2, 3]⟩
  | 7 => ⟨[4], [], [], [], []⟩
  | 8 => ⟨[4], [], [], [], []⟩
  | _ => ⟨[], [], [], [], []⟩
noncomputable abbrev x_diptychref1_Same : Cx := ⟨Tryd.prog, ⟨id, nf_diptychref1_Same, fp_diptychref1_Same⟩, an_diptychref1_Same⟩
theorem start_diptychref1_Same {args : List PV} {r : PV} (ha : args.length = 2) (h : awp x_diptychref1_Same c_diptychref1_Same (bodyR Tryd.prog [.tmp 4] r []) (initSt args [])) : PC Tryd.prog 26 args r :=
  pc_of_awp (X := x_diptychref1_Same) mixed Tryd.func26 (c := c_diptychref1_Same) (by kernel_rfl) (by kernel_rfl) (rs := [.tmp 4]) (by kernel_rfl) (by kernel_rfl) (by rw [ha]; decide) h
noncomputable def c_diptychref1_SameAll : Code := (Tryd.f27.body).getD .skip
def nf_diptychref1_SameAll : List (Nat × Nf) := []
def fp_diptychref1_SameAll : List (Nat × List Nat) := []
def an_diptychref1_SameAll : Nat → Ann
  | 0 => ⟨[0, 1], [], [], [], []⟩
  | 1 => ⟨[0, 1, 10], [], [], [], []⟩
  | 2 => ⟨[4], [], [], [], []⟩
  | 3 => ⟨[0, 1, 5], [], [], [], []⟩
  | 4 => ⟨[0, 1, 5, 14], [], [], [], []⟩
  | 5 => ⟨[0, 1, 5], [], [], [], []⟩
  | 6 => ⟨[0, 1, 5, 26], [], [], [], []⟩
  | 7 => ⟨[4], [], [], [], []⟩
  | 8 => ⟨[4], [], [], [], []⟩
  | _ => ⟨[], [], [], [], []⟩
noncomputable abbrev x_diptychref1_SameAll : Cx := ⟨Tryd.prog, ⟨id, nf_diptychref1_SameAll, fp_diptychref1_SameAll⟩, an_diptychref1_SameAll⟩
theorem start_diptychref1_SameAll {args : List PV} {r : PV} (ha : args.length = 2) (h : awp x_diptychref1_SameAll c_diptychref1_SameAll (bodyR Tryd.prog [.tmp 4] r []) (initSt args [])) : PC Tryd.prog 27 args r :=
  pc_of_awp (X := x_diptychref1_SameAll) mixed Tryd.func27 (c := c_diptychref1_SameAll) (by kernel_rfl) (by kernel_rfl) (rs := [.tmp 4]) (by kernel_rfl) (by kernel_rfl) (by rw [ha]; decide) h
noncomputable def c_node_Right : Code := (Tryd.f31.body).getD .skip
def nf_node_Right : List (Nat × Nf) := []
def fp_node_Right : List (Nat × List Nat) := []
def an_node_Right : Nat → Ann
  | 0 => ⟨[1], [1], [], [], [1]⟩
  | 1 => ⟨[2], [], [], [], []⟩
  | _ => ⟨[], [], [], [], []⟩
noncomputable abbrev x_node_Right : Cx := ⟨Tryd.prog, ⟨id, nf_node_Right, fp_node_Right⟩, an_node_Right⟩
theorem start_node_Right {args : List PV} {r : PV} (ha : args.length = 1) (h : awp x_node_Right c_node_Right (bodyR Tryd.prog [.tmp 2] r []) (initSt args [])) : PC Tryd.prog 31 args r :=
  pc_of_awp (X := x_node_Right) mixed Tryd.func31 (c := c_node_Right) (by kernel_rfl) (by kernel_rfl) (rs := [.tmp 2]) (by kernel_rfl) (by kernel_rfl) (by rw [ha]; decide) h
noncomputable def c_diptychlaw2_CodecBack : Code := (Tryd.f9.body).getD .skip
def nf_diptychlaw2_CodecBack : List (Nat × Nf) := []
def fp_diptychlaw2_CodecBack : List (Nat × List Nat) := []
def an_diptychlaw2_CodecBack : Nat → Ann
  | 0 => ⟨[0, 1, 2], [], [], [], []⟩
  | 1 => ⟨[0, 1, 2, 7], [], [], [], []⟩
  | 2 => ⟨[0, 1, 2, 7, 30], [], [], [], []⟩
  | 3 => ⟨[6], [], [], [], []⟩
  | 4 => ⟨[1, 2, 8], [8], [], [], [8]⟩
  | 5 => ⟨[1, 2, 8, 9, 10], [8], [], [], [8]⟩
  | 6 => ⟨[1, 2, 8, 9, 10, 11, 12], [8, 11], [], [], [8, 11]⟩
  | 7 => ⟨[1, 2, 8, 9, 10, 11, 12, 13, 14], [8, 11], [], [], [8, 11]⟩
  | 8 => ⟨[1, 2, 8, 9, 10, 11, 12, 13, 14, 15, 16], [8, 11], [], [], [8, 11]⟩
  | 9 => ⟨[1, 2, 9, 88], [], [], [], []⟩
  | 10 => ⟨[6], [], [], [], []⟩
  | 11 => ⟨[1, 17, 18], [17], [], [], [17]⟩
  | 12 => ⟨[1, 111], [], [], [], []⟩
  | 13 => ⟨[6], [], [], [], []⟩
  | 14 => ⟨[1, 19, 20], [19], [], [], [19]⟩
  | 15 => ⟨[1, 19, 118], [19], [], [], [19]⟩
  | 16 => ⟨[6], [], [], [], []⟩
  | 17 => ⟨[1, 19, 21, 22], [19], [], [], [19]⟩
  | 18 => ⟨[6], [], [], [], []⟩
  | _ => ⟨[], [], [], [], []⟩
noncomputable abbrev x_diptychlaw2_CodecBack : Cx := ⟨Tryd.prog, ⟨id, nf_diptychlaw2_CodecBack, fp_diptychlaw2_CodecBack⟩, an_diptychlaw2_CodecBack⟩
theorem start_diptychlaw2_CodecBack {args : List PV} {r : PV} (ha : args.length = 3) (h : awp x_diptychlaw2_CodecBack c_diptychlaw2_CodecBack (bodyR Tryd.prog [.tmp 6] r []) (initSt args [])) : PC Tryd.prog 9 args r :=
  pc_of_awp (X := x_diptychlaw2_CodecBack) mixed Tryd.func9 (c := c_diptychlaw2_CodecBack) (by kernel_rfl) (by kernel_rfl) (rs := [.tmp 6]) (by kernel_rfl) (by kernel_rfl) (by rw [ha]; decide) h
noncomputable def c_diptychlaw2_CodecParts : Code := (Tryd.f6.body).getD .skip
def nf_diptychlaw2_CodecParts : List (Nat × Nf) := []
def fp_diptychlaw2_CodecParts : List (Nat × List Nat) := []
def an_diptychlaw2_CodecParts : Nat → Ann
  | 0 => ⟨[0], [], [], [], []⟩
  | 1 => ⟨[0, 3], [], [], [], []⟩
  | 2 => ⟨[0, 15], [], [], [], []⟩
  | 3 => ⟨[2], [], [], [], []⟩
  | 4 => ⟨[4], [4], [], [], [4]⟩
  | 5 => ⟨[4, 5], [4], [], [], [4]⟩
  | 6 => ⟨[4, 5, 6], [4], [], [], [4]⟩
  | 7 => ⟨[4, 5, 6, 25], [4], [], [], [4]⟩
  | 8 => ⟨[4, 5, 6], [4], [], [], [4]⟩
  | 9 => ⟨[4, 5, 6, 7, 8], [4], [], [], [4]⟩
  | 10 => ⟨[4, 5, 6, 7, 8, 9, 10], [4, 9], [], [], [4, 9]⟩
  | 11 => ⟨[4, 5, 6, 7, 57], [4], [], [], [4]⟩
  | 12 => ⟨[2], [], [], [], []⟩
  | 13 => ⟨[4, 5, 6, 7, 82], [4], [], [], [4]⟩
  | 14 => ⟨[2], [], [], [], []⟩
  | 15 => ⟨[4, 5, 6], [4], [], [], [4]⟩
  | 16 => ⟨[5, 11, 12], [], [], [], []⟩
  | 17 => ⟨[2], [], [], [], []⟩
  | _ => ⟨[], [], [], [], []⟩
noncomputable abbrev x_diptychlaw2_CodecParts : Cx := ⟨Tryd.prog, ⟨id, nf_diptychlaw2_CodecParts, fp_diptychlaw2_CodecParts⟩, an_diptychlaw2_CodecParts⟩
theorem start_diptychlaw2_CodecParts {args : List PV} {r : PV} (ha : args.length = 1) (h : awp x_diptychlaw2_CodecParts c_diptychlaw2_CodecParts (bodyR Tryd.prog [.tmp 2] r []) (initSt args [])) : PC Tryd.prog 6 args r :=
  pc_of_awp (X := x_diptychlaw2_CodecParts) mixed Tryd.func6 (c := c_diptychlaw2_CodecParts) (by kernel_rfl) (by kernel_rfl) (rs := [.tmp 2]) (by kernel_rfl) (by kernel_rfl) (by rw [ha]; decide) h
noncomputable def c_diptychlaw2_CodecApart : Code := (Tryd.f4.body).getD .skip
def nf_diptychlaw2_CodecApart : List (Nat × Nf) := []
def fp_diptychlaw2_CodecApart : List (Nat × List Nat) := []
def an_diptychlaw2_CodecApart : Nat → Ann
  | 0 => ⟨[0, 1, 2, 3], [], [], [], []⟩
  | 1 => ⟨[0, 1, 2, 3, 9], [], [], [], []⟩
  | 2 => ⟨[0, 1, 2, 3, 9, 28], [], [], [], []⟩
  | 3 => ⟨[8], [], [], [], []⟩
  | 4 => ⟨[0, 1, 2, 3, 10, 11], [], [], [], []⟩
  | 5 => ⟨[0, 1, 2, 3, 10, 11, 12, 13], [], [], [], []⟩
  | 6 => ⟨[0, 1, 2, 3, 10, 11, 12, 13, 14], [], [], [], []⟩
  | 7 => ⟨[14, 78], [], [], [], []⟩
  | 8 => ⟨[8], [], [], [], []⟩
  | 9 => ⟨[14, 15], [], [], [], []⟩
  | 10 => ⟨[14, 15, 83], [], [], [], []⟩
  | 11 => ⟨[14, 15, 87], [], [], [], []⟩
  | 12 => ⟨[8], [], [], [], []⟩
  | 13 => ⟨[14, 15, 91], [], [], [], []⟩
  | 14 => ⟨[14, 15], [], [], [], []⟩
  | 15 => ⟨[14, 15], [], [], [], []⟩
  | 16 => ⟨[8], [], [], [], []⟩
  | _ => ⟨[], [], [], [], []⟩
noncomputable abbrev x_diptychlaw2_CodecApart : Cx := ⟨Tryd.prog, ⟨id, nf_diptychlaw2_CodecApart, fp_diptychlaw2_CodecApart⟩, an_diptychlaw2_CodecApart⟩
theorem start_diptychlaw2_CodecApart {args : List PV} {r : PV} (ha : args.length = 4) (h : awp x_diptychlaw2_CodecApart c_diptychlaw2_CodecApart (bodyR Tryd.prog [.tmp 8] r []) (initSt args [])) : PC Tryd.prog 4 args r :=
  pc_of_awp (X := x_diptychlaw2_CodecApart) mixed Tryd.func4 (c := c_diptychlaw2_CodecApart) (by kernel_rfl) (by kernel_rfl) (rs := [.tmp 8]) (by kernel_rfl) (by kernel_rfl) (by rw [ha]; decide) h
attribute [go_sem] an_node_isText nf_node_isText fp_node_isText an_node_Depth nf_node_Depth fp_node_Depth an_node_Value nf_node_Value fp_node_Value an_node_Name nf_node_Name fp_node_Name an_node_rise nf_node_rise fp_node_rise an_slices_Equal_string nf_slices_Equal_string fp_slices_Equal_string an_node_alike nf_node_alike fp_node_alike an_node_formed nf_node_formed fp_node_formed an_unicode_utf8_RuneCountInString nf_unicode_utf8_RuneCountInString fp_unicode_utf8_RuneCountInString an_node_Total nf_node_Total fp_node_Total an_node_Size nf_node_Size fp_node_Size an_node_Check nf_node_Check fp_node_Check an_codec_Quote nf_codec_Quote fp_codec_Quote an_codec_Head nf_codec_Head fp_codec_Head an_strings_Builder_WriteString_x nf_strings_Builder_WriteString_x fp_strings_Builder_WriteString_x an_codec_write_x nf_codec_write_x fp_codec_write_x an_codec_Print nf_codec_Print fp_codec_Print an_diptychlaw2_shown nf_diptychlaw2_shown fp_diptychlaw2_shown an_slices_Equal_api_Attr nf_slices_Equal_api_Attr fp_slices_Equal_api_Attr an_slices_EqualFunc_api_Node_node_Same nf_slices_EqualFunc_api_Node_node_Same fp_slices_EqualFunc_api_Node_node_Same an_node_Same nf_node_Same fp_node_Same an_internal_stringslite_HasPrefix nf_internal_stringslite_HasPrefix fp_internal_stringslite_HasPrefix an_strings_HasPrefix nf_strings_HasPrefix fp_strings_HasPrefix an_codec_reader_name_x nf_codec_reader_name_x fp_codec_reader_name_x an_internal_stringslite_CutPrefix nf_internal_stringslite_CutPrefix fp_internal_stringslite_CutPrefix an_strings_CutPrefix nf_strings_CutPrefix fp_strings_CutPrefix an_codec_reader_takes_x nf_codec_reader_takes_x fp_codec_reader_takes_x an_codec_reader_want_x nf_codec_reader_want_x fp_codec_reader_want_x an_codec_reader_quoted_x nf_codec_reader_quoted_x fp_codec_reader_quoted_x an_codec_reader_text_x nf_codec_reader_text_x fp_codec_reader_text_x an_codec_reader_node_x nf_codec_reader_node_x fp_codec_reader_node_x an_codec_Parse nf_codec_Parse fp_codec_Parse an_diptychlaw2_CodecQuotes nf_diptychlaw2_CodecQuotes fp_diptychlaw2_CodecQuotes an_diptychlaw2_pick nf_diptychlaw2_pick fp_diptychlaw2_pick an_diptychlaw2_CodecDeep nf_diptychlaw2_CodecDeep fp_diptychlaw2_CodecDeep an_codec_PrintAll nf_codec_PrintAll fp_codec_PrintAll an_diptychref1_sameNames nf_diptychref1_sameNames fp_diptychref1_sameNames an_diptychref1_Join nf_diptychref1_Join fp_diptychref1_Join an_diptychlaw2_made nf_diptychlaw2_made fp_diptychlaw2_made an_diptychlaw2_doc nf_diptychlaw2_doc fp_diptychlaw2_doc an_codec_ParseAll nf_codec_ParseAll fp_codec_ParseAll an_diptychref1_Same nf_diptychref1_Same fp_diptychref1_Same an_diptychref1_SameAll nf_diptychref1_SameAll fp_diptychref1_SameAll an_node_Right nf_node_Right fp_node_Right an_diptychlaw2_CodecBack nf_diptychlaw2_CodecBack fp_diptychlaw2_CodecBack an_diptychlaw2_CodecParts nf_diptychlaw2_CodecParts fp_diptychlaw2_CodecParts an_diptychlaw2_CodecApart nf_diptychlaw2_CodecApart fp_diptychlaw2_CodecApart ty3 ty4 ty5 ty9 ty21 ty22 ty23 ty24 ty26 ty29 ty36 ty48 ty49 ty56 ty57 ty59 ty71 ty84 api_Attr.pv_eq api_Node.pv_eq codec_reader.pv_eq diptychlaw2_Cell.pv_eq pvL

end Go.Proofs.YtihndopckmdpbaaDoor
