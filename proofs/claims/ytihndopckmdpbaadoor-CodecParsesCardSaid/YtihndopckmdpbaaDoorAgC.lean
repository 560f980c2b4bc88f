/- Code, and what is kept. -/
import Derived.Test.YtihndopckmdpbaaDoorAgT
import Derived.Test.YtihndopckmdpbaaDoorAwT
namespace Go.Proofs.YtihndopckmdpbaaDoor
set_option linter.unusedSimpArgs false
set_option linter.unusedVariables false
open Go
set_option maxRecDepth 100000

noncomputable def c_node_isText : Code := (Tryd.f49.body).getD .skip
def nf_node_isText : List (Nat × Nf) := []
def fp_node_isText : List (Nat × List Nat) := []
def an_node_isText : Nat → Ann
  | 0 => ⟨[1], [1], [], [], [1]⟩
  | 1 => ⟨[2], [], [], [], []⟩
  | _ => ⟨[], [], [], [], []⟩
noncomputable abbrev x_node_isText : Cx := ⟨Tryd.prog, ⟨id, nf_node_isText, fp_node_isText⟩, an_node_isText⟩
theorem start_node_isText {args : List PV} {r : PV} (ha : args.length = 1) (h : awp x_node_isText c_node_isText (bodyR Tryd.prog [.tmp 2] r []) (initSt args [])) : PC Tryd.prog 49 args r :=
  pc_of_awp (X := x_node_isText) mixed Tryd.func49 (c := c_node_isText) (by kernel_rfl) (by kernel_rfl) (rs := [.tmp 2]) (by kernel_rfl) (by kernel_rfl) (by rw [ha]; decide) h
noncomputable def c_node_Depth : Code := (Tryd.f30.body).getD .skip
def nf_node_Depth : List (Nat × Nf) := []
def fp_node_Depth : List (Nat × List Nat) := []
def an_node_Depth : Nat → Ann
  | 0 => ⟨[1], [1], [], [], [1]⟩
  | 1 => ⟨[1, 7], [1], [], [], [1]⟩
  | 2 => ⟨[2], [], [], [], []⟩
  | 3 => ⟨[1, 3], [1], [], [], [1]⟩
  | 4 => ⟨[3, 9, 10, 11], [], [], [], []⟩
  | 5 => ⟨[3, 9, 10, 11, 12], [], [], [], []⟩
  | 6 => ⟨[3, 5, 9, 10, 11], [5], [], [], [5]⟩
  | 7 => ⟨[3, 9, 10, 11], [], [], [], []⟩
  | 8 => ⟨[3, 9, 10, 11], [], [], [], []⟩
  | 9 => ⟨[2], [], [], [], []⟩
  | _ => ⟨[], [], [], [], []⟩
noncomputable abbrev x_node_Depth : Cx := ⟨Tryd.prog, ⟨id, nf_node_Depth, fp_node_Depth⟩, an_node_Depth⟩
theorem start_node_Depth {args : List PV} {r : PV} (ha : args.length = 1) (h : awp x_node_Depth c_node_Depth (bodyR Tryd.prog [.tmp 2] r []) (initSt args [])) : PC Tryd.prog 30 args r :=
  pc_of_awp (X := x_node_Depth) mixed Tryd.func30 (c := c_node_Depth) (by kernel_rfl) (by kernel_rfl) (rs := [.tmp 2]) (by kernel_rfl) (by kernel_rfl) (by rw [ha]; decide) h
noncomputable def c_node_Value : Code := (Tryd.f28.body).getD .skip
def nf_node_Value : List (Nat × Nf) := []
def fp_node_Value : List (Nat × List Nat) := []
def an_node_Value : Nat → Ann
  | 0 => ⟨[0], [], [], [], []⟩
  | 1 => ⟨[2], [], [], [], []⟩
  | _ => ⟨[], [], [], [], []⟩
noncomputable abbrev x_node_Value : Cx := ⟨Tryd.prog, ⟨id, nf_node_Value, fp_node_Value⟩, an_node_Value⟩
theorem start_node_Value {args : List PV} {r : PV} (ha : args.length = 1) (h : awp x_node_Value c_node_Value (bodyR Tryd.prog [.tmp 2] r []) (initSt args [])) : PC Tryd.prog 28 args r :=
  pc_of_awp (X := x_node_Value) mixed Tryd.func28 (c := c_node_Value) (by kernel_rfl) (by kernel_rfl) (rs := [.tmp 2]) (by kernel_rfl) (by kernel_rfl) (by rw [ha]; decide) h
noncomputable def c_node_Name : Code := (Tryd.f71.body).getD .skip
def nf_node_Name : List (Nat × Nf) := []
def fp_node_Name : List (Nat × List Nat) := []
def an_node_Name : Nat → Ann
  | 0 => ⟨[0], [], [], [], []⟩
  | 1 => ⟨[0, 3], [], [], [], []⟩
  | 2 => ⟨[2], [], [], [], []⟩
  | _ => ⟨[], [], [], [], []⟩
noncomputable abbrev x_node_Name : Cx := ⟨Tryd.prog, ⟨id, nf_node_Name, fp_node_Name⟩, an_node_Name⟩
theorem start_node_Name {args : List PV} {r : PV} (ha : args.length = 1) (h : awp x_node_Name c_node_Name (bodyR Tryd.prog [.tmp 2] r []) (initSt args [])) : PC Tryd.prog 71 args r :=
  pc_of_awp (X := x_node_Name) mixed Tryd.func71 (c := c_node_Name) (by kernel_rfl) (by kernel_rfl) (rs := [.tmp 2]) (by kernel_rfl) (by kernel_rfl) (by rw [ha]; decide) h
noncomputable def c_node_rise : Code := (Tryd.f70.body).getD .skip
def nf_node_rise : List (Nat × Nf) := []
def fp_node_rise : List (Nat × List Nat) := []
def an_node_rise : Nat → Ann
  | 0 => ⟨[0], [], [], [], []⟩
  | 1 => ⟨[0, 5, 6, 7], [], [], [], []⟩
  | 2 => ⟨[0, 5, 6, 7, 8], [], [], [], []⟩
  | 3 => ⟨[0, 3, 4, 5, 6, 7], [], [], [], []⟩
  | 4 => ⟨[0, 5, 6, 7, 27], [], [], [], []⟩
  | 5 => ⟨[2], [], [], [], []⟩
  | 6 => ⟨[0, 5, 6, 7], [], [], [], []⟩
  | 7 => ⟨[2], [], [], [], []⟩
  | _ => ⟨[], [], [], [], []⟩
noncomputable abbrev x_node_rise : Cx := ⟨Tryd.prog, ⟨id, nf_node_rise, fp_node_rise⟩, an_node_rise⟩
theorem start_node_rise {args : List PV} {r : PV} (ha : args.length = 1) (h : awp x_node_rise c_node_rise (bodyR Tryd.prog [.tmp 2] r []) (initSt args [])) : PC Tryd.prog 70 args r :=
  pc_of_awp (X := x_node_rise) mixed Tryd.func70 (c := c_node_rise) (by kernel_rfl) (by kernel_rfl) (rs := [.tmp 2]) (by kernel_rfl) (by kernel_rfl) (by rw [ha]; decide) h
noncomputable def c_slices_Equal_string : Code := (Tryd.f41.body).getD .skip
def nf_slices_Equal_string : List (Nat × Nf) := []
def fp_slices_Equal_string : List (Nat × List Nat) := []
def an_slices_Equal_string : Nat → Ann
  | 0 => ⟨[0, 1], [], [], [], []⟩
  | 1 => ⟨[0, 1, 10], [], [], [], []⟩
  | 2 => ⟨[4], [], [], [], []⟩
  | 3 => ⟨[0, 1, 12, 13], [], [], [], []⟩
  | 4 => ⟨[0, 1, 12, 13, 14], [], [], [], []⟩
  | 5 => ⟨[0, 1, 5, 12, 13], [], [], [], []⟩
  | 6 => ⟨[0, 1, 12, 13, 24], [], [], [], []⟩
  | 7 => ⟨[4], [], [], [], []⟩
  | 8 => ⟨[0, 1, 12, 13], [], [], [], []⟩
  | 9 => ⟨[4], [], [], [], []⟩
  | _ => ⟨[], [], [], [], []⟩
noncomputable abbrev x_slices_Equal_string : Cx := ⟨Tryd.prog, ⟨id, nf_slices_Equal_string, fp_slices_Equal_string⟩, an_slices_Equal_string⟩
theorem start_slices_Equal_string {args : List PV} {r : PV} (ha : args.length = 2) (h : awp x_slices_Equal_string c_slices_Equal_string (bodyR Tryd.prog [.tmp 4] r []) (initSt args [])) : PC Tryd.prog 41 args r :=
  pc_of_awp (X := x_slices_Equal_string) mixed Tryd.func41 (c := c_slices_Equal_string) (by kernel_rfl) (by kernel_rfl) (rs := [.tmp 4]) (by kernel_rfl) (by kernel_rfl) (by rw [ha]; decide) h
noncomputable def c_node_alike : Code := (Tryd.f72.body).getD .skip
def nf_node_alike : List (Nat × Nf) := []
def fp_node_alike : List (Nat × List Nat) := []
def an_node_alike : Nat → Ann
  | 0 => ⟨[2, 3], [2, 3], [], [], [2, 3]⟩
  | 1 => ⟨[4], [], [], [], []⟩
  | _ => ⟨[], [], [], [], []⟩
noncomputable abbrev x_node_alike : Cx := ⟨Tryd.prog, ⟨id, nf_node_alike, fp_node_alike⟩, an_node_alike⟩
theorem start_node_alike {args : List PV} {r : PV} (ha : args.length = 2) (h : awp x_node_alike c_node_alike (bodyR Tryd.prog [.tmp 4] r []) (initSt args [])) : PC Tryd.prog 72 args r :=
  pc_of_awp (X := x_node_alike) mixed Tryd.func72 (c := c_node_alike) (by kernel_rfl) (by kernel_rfl) (rs := [.tmp 4]) (by kernel_rfl) (by kernel_rfl) (by rw [ha]; decide) h
noncomputable def c_node_formed : Code := (Tryd.f50.body).getD .skip
def nf_node_formed : List (Nat × Nf) := []
def fp_node_formed : List (Nat × List Nat) := []
def an_node_formed : Nat → Ann
  | 0 => ⟨[1], [1], [], [], [1]⟩
  | 1 => ⟨[1, 9], [1], [], [], [1]⟩
  | 2 => ⟨[2], [], [], [], []⟩
  | 3 => ⟨[1, 3], [1, 3], [.thaw 3 3 1], [], [1, 3]⟩
  | 4 => ⟨[1, 3, 34, 35, 36], [1, 3], [], [], [1, 3]⟩
  | 5 => ⟨[1, 3, 34, 35, 36, 37], [1, 3], [], [], [1, 3]⟩
  | 6 => ⟨[1, 3, 5, 34, 35, 36], [1, 3, 5], [], [], [1, 3, 5]⟩
  | 7 => ⟨[1, 3, 5, 34, 35, 36, 43], [1, 3, 5], [], [], [1, 3, 5]⟩
  | 8 => ⟨[2], [], [], [], []⟩
  | 9 => ⟨[1, 3, 34, 35, 36], [1, 3], [], [], [1, 3]⟩
  | 10 => ⟨[1, 3, 34, 35, 36], [1, 3], [], [], [1, 3]⟩
  | 11 => ⟨[1, 69], [1], [], [], [1]⟩
  | 12 => ⟨[2], [], [], [], []⟩
  | 13 => ⟨[1, 71, 72, 73], [1], [], [], [1]⟩
  | 14 => ⟨[1, 71, 72, 73, 74], [1], [], [], [1]⟩
  | 15 => ⟨[1, 6, 7, 71, 72, 73], [1, 7], [], [], [1, 7]⟩
  | 16 => ⟨[1, 71, 72, 73, 94], [1], [], [], [1]⟩
  | 17 => ⟨[2], [], [], [], []⟩
  | 18 => ⟨[1, 71, 72, 73], [1], [], [], [1]⟩
  | 19 => ⟨[2], [], [], [], []⟩
  | _ => ⟨[], [], [], [], []⟩
noncomputable abbrev x_node_formed : Cx := ⟨Tryd.prog, ⟨id, nf_node_formed, fp_node_formed⟩, an_node_formed⟩
theorem start_node_formed {args : List PV} {r : PV} (ha : args.length = 1) (h : awp x_node_formed c_node_formed (bodyR Tryd.prog [.tmp 2] r []) (initSt args [])) : PC Tryd.prog 50 args r :=
  pc_of_awp (X := x_node_formed) mixed Tryd.func50 (c := c_node_formed) (by kernel_rfl) (by kernel_rfl) (rs := [.tmp 2]) (by kernel_rfl) (by kernel_rfl) (by rw [ha]; decide) h
noncomputable def c_unicode_utf8_RuneCountInString : Code := (Tryd.f73.body).getD .skip
def nf_unicode_utf8_RuneCountInString : List (Nat × Nf) := []
def fp_unicode_utf8_RuneCountInString : List (Nat × List Nat) := []
def an_unicode_utf8_RuneCountInString : Nat → Ann
  | 0 => ⟨[0, 2], [], [], [], []⟩
  | 1 => ⟨[2, 4], [4], [], [], [4]⟩
  | 2 => ⟨[2, 4, 6], [4], [], [], [4]⟩
  | 3 => ⟨[2, 4], [4], [], [], [4]⟩
  | 4 => ⟨[2], [], [], [], []⟩
  | _ => ⟨[], [], [], [], []⟩
noncomputable abbrev x_unicode_utf8_RuneCountInString : Cx := ⟨Tryd.prog, ⟨id, nf_unicode_utf8_RuneCountInString, fp_unicode_utf8_RuneCountInString⟩, an_unicode_utf8_RuneCountInString⟩
theorem start_unicode_utf8_RuneCountInString {args : List PV} {r : PV} (ha : args.length = 1) (h : awp x_unicode_utf8_RuneCountInString c_unicode_utf8_RuneCountInString (bodyR Tryd.prog [.tmp 2] r []) (initSt args [])) : PC Tryd.prog 73 args r :=
  pc_of_awp (X := x_unicode_utf8_RuneCountInString) mixed Tryd.func73 (c := c_unicode_utf8_RuneCountInString) (by kernel_rfl) (by kernel_rfl) (rs := [.tmp 2]) (by kernel_rfl) (by kernel_rfl) (by rw [ha]; decide) h
noncomputable def c_node_Total : Code := (Tryd.f74.body).getD .skip
def nf_node_Total : List (Nat × Nf) := []
def fp_node_Total : List (Nat × List Nat) := []
def an_node_Total : Nat → Ann
  | 0 => ⟨[0], [], [], [], []⟩
  | 1 => ⟨[0, 3], [], [], [], []⟩
  | 2 => ⟨[3, 6, 7, 8], [], [], [], []⟩
  | 3 => ⟨[3, 6, 7, 8, 9], [], [], [], []⟩
  | 4 => ⟨[3, 5, 6, 7, 8], [5], [], [], [5]⟩
  | 5 => ⟨[3, 6, 7, 8], [], [], [], []⟩
  | 6 => ⟨[3, 6, 7, 8], [], [], [], []⟩
  | 7 => ⟨[2], [], [], [], []⟩
  | _ => ⟨[], [], [], [], []⟩
noncomputable abbrev x_node_Total : Cx := ⟨Tryd.prog, ⟨id, nf_node_Total, fp_node_Total⟩, an_node_Total⟩
theorem start_node_Total {args : List PV} {r : PV} (ha : args.length = 1) (h : awp x_node_Total c_node_Total (bodyR Tryd.prog [.tmp 2] r []) (initSt args [])) : PC Tryd.prog 74 args r :=
  pc_of_awp (X := x_node_Total) mixed Tryd.func74 (c := c_node_Total) (by kernel_rfl) (by kernel_rfl) (rs := [.tmp 2]) (by kernel_rfl) (by kernel_rfl) (by rw [ha]; decide) h
noncomputable def c_node_Size : Code := (Tryd.f51.body).getD .skip
def nf_node_Size : List (Nat × Nf) := []
def fp_node_Size : List (Nat × List Nat) := []
def an_node_Size : Nat → Ann
  | 0 => ⟨[1], [1], [], [], [1]⟩
  | 1 => ⟨[1, 4], [1], [], [], [1]⟩
  | 2 => ⟨[2], [], [], [], []⟩
  | 3 => ⟨[2], [], [], [], []⟩
  | _ => ⟨[], [], [], [], []⟩
noncomputable abbrev x_node_Size : Cx := ⟨Tryd.prog, ⟨id, nf_node_Size, fp_node_Size⟩, an_node_Size⟩
theorem start_node_Size {args : List PV} {r : PV} (ha : args.length = 1) (h : awp x_node_Size c_node_Size (bodyR Tryd.prog [.tmp 2] r []) (initSt args [])) : PC Tryd.prog 51 args r :=
  pc_of_awp (X := x_node_Size) mixed Tryd.func51 (c := c_node_Size) (by kernel_rfl) (by kernel_rfl) (rs := [.tmp 2]) (by kernel_rfl) (by kernel_rfl) (by rw [ha]; decide) h
noncomputable def c_node_Check : Code := (Tryd.f32.body).getD .skip
def nf_node_Check : List (Nat × Nf) := []
def fp_node_Check : List (Nat × List Nat) := []
def an_node_Check : Nat → Ann
  | 0 => ⟨[1], [1], [], [], [1]⟩
  | 1 => ⟨[1, 3], [1], [], [], [1]⟩
  | 2 => ⟨[2], [], [], [], []⟩
  | 3 => ⟨[1, 7], [1], [], [], [1]⟩
  | 4 => ⟨[2], [], [], [], []⟩
  | 5 => ⟨[11], [], [], [], []⟩
  | 6 => ⟨[2], [], [], [], []⟩
  | 7 => ⟨[2], [], [], [], []⟩
  | _ => ⟨[], [], [], [], []⟩
noncomputable abbrev x_node_Check : Cx := ⟨Tryd.prog, ⟨id, nf_node_Check, fp_node_Check⟩, an_node_Check⟩
theorem start_node_Check {args : List PV} {r : PV} (ha : args.length = 1) (h : awp x_node_Check c_node_Check (bodyR Tryd.prog [.tmp 2] r []) (initSt args [])) : PC Tryd.prog 32 args r :=
  pc_of_awp (X := x_node_Check) mixed Tryd.func32 (c := c_node_Check) (by kernel_rfl) (by kernel_rfl) (rs := [.tmp 2]) (by kernel_rfl) (by kernel_rfl) (by rw [ha]; decide) h
noncomputable def c_codec_Quote : Code := (Tryd.f16.body).getD .skip
def nf_codec_Quote : List (Nat × Nf) := []
def fp_codec_Quote : List (Nat × List Nat) := []
def an_codec_Quote : Nat → Ann
  | 0 => ⟨[0], [], [], [], []⟩
  | 1 => ⟨[0], [], [], [], []⟩
  | 2 => ⟨[2], [], [], [], []⟩
  | _ => ⟨[], [], [], [], []⟩
noncomputable abbrev x_codec_Quote : Cx := ⟨Tryd.prog, ⟨id, nf_codec_Quote, fp_codec_Quote⟩, an_codec_Quote⟩
theorem start_codec_Quote {args : List PV} {r : PV} (ha : args.length = 1) (h : awp x_codec_Quote c_codec_Quote (bodyR Tryd.prog [.tmp 2] r []) (initSt args [])) : PC Tryd.prog 16 args r :=
  pc_of_awp (X := x_codec_Quote) mixed Tryd.func16 (c := c_codec_Quote) (by kernel_rfl) (by kernel_rfl) (rs := [.tmp 2]) (by kernel_rfl) (by kernel_rfl) (by rw [ha]; decide) h
noncomputable def c_codec_Head : Code := (Tryd.f18.body).getD .skip
def nf_codec_Head : List (Nat × Nf) := []
def fp_codec_Head : List (Nat × List Nat) := [(32, [5]), (33, [5]), (35, [5]), (36, [5]), (40, [3, 39])]
def an_codec_Head : Nat → Ann
  | 0 => ⟨[1], [1], [], [], [1]⟩
  | 1 => ⟨[1, 8], [1], [], [], [1]⟩
  | 2 => ⟨[1, 12], [1], [], [], [1]⟩
  | 3 => ⟨[2], [], [], [], []⟩
  | 4 => ⟨[2], [], [], [], []⟩
  | 5 => ⟨[1, 21], [1], [], [], [1]⟩
  | 6 => ⟨[2], [], [], [], []⟩
  | 7 => ⟨[1, 3], [1, 3], [.thaw 3 3 1], [], [1, 3]⟩
  | 8 => ⟨[1, 3, 25, 26, 27], [1, 3], [], [], [1, 3]⟩
  | 9 => ⟨[1, 3, 25, 26, 27, 28], [1, 3], [], [], [1, 3]⟩
  | 10 => ⟨[1, 3, 5, 25, 26, 27], [1, 3, 5], [], [], [1, 3, 5]⟩
  | 11 => ⟨[1, 3, 25, 26, 27], [1, 3], [], [], [1, 3]⟩
  | 12 => ⟨[1, 3, 25, 26, 27], [1, 3], [], [], [1, 3]⟩
  | 13 => ⟨[2], [], [], [], []⟩
  | _ => ⟨[], [], [], [], []⟩
noncomputable abbrev x_codec_Head : Cx := ⟨Tryd.prog, ⟨id, nf_codec_Head, fp_codec_Head⟩, an_codec_Head⟩
theorem start_codec_Head {args : List PV} {r : PV} (ha : args.length = 1) (h : awp x_codec_Head c_codec_Head (bodyR Tryd.prog [.tmp 2] r []) (initSt args [])) : PC Tryd.prog 18 args r :=
  pc_of_awp (X := x_codec_Head) mixed Tryd.func18 (c := c_codec_Head) (by kernel_rfl) (by kernel_rfl) (rs := [.tmp 2]) (by kernel_rfl) (by kernel_rfl) (by rw [ha]; decide) h
noncomputable def c_strings_Builder_WriteString_x : Code := (Tryd.f52.body).getD .skip
def nf_strings_Builder_WriteString_x : List (Nat × Nf) := []
def fp_strings_Builder_WriteString_x : List (Nat × List Nat) := []
def an_strings_Builder_WriteString_x : Nat → Ann
  | 0 => ⟨[0, 1], [1000, 1001], [], [], [1000, 1001]⟩
  | 1 => ⟨[0, 1], [1000, 1001], [], [], [1000, 1001]⟩
  | 2 => ⟨[1], [1000, 1001], [], [], [1000, 1001]⟩
  | 3 => ⟨[4, 5], [1000, 1001], [], [], [1000, 1001]⟩
  | _ => ⟨[], [], [], [], []⟩
noncomputable abbrev x_strings_Builder_WriteString_x : Cx := ⟨Tryd.prog, ⟨id, nf_strings_Builder_WriteString_x, fp_strings_Builder_WriteString_x⟩, an_strings_Builder_WriteString_x⟩
theorem start_strings_Builder_WriteString_x {args : List PV} {es es' : List Ent} {r : PV} (ha : args.length = 2) (hl : es'.length = es.length) (he : (es'.all fun e => e.extOk es.length) = true) (h : awp x_strings_Builder_WriteString_x c_strings_Builder_WriteString_x (bodyR Tryd.prog [.tmp 4, .tmp 5] r es') (initSt args es)) : BC Tryd.prog 52 args es r es' :=
  bc_of_awp (X := x_strings_Builder_WriteString_x) mixed Tryd.func52 (c := c_strings_Builder_WriteString_x) (by kernel_rfl) (by kernel_rfl) (rs := [.tmp 4, .tmp 5]) (by kernel_rfl) (by kernel_rfl) (by rw [ha]; decide) hl (fun e h => List.all_eq_true.1 he e h) h
noncomputable def c_codec_write_x : Code := (Tryd.f33.body).getD .skip
def nf_codec_write_x : List (Nat × Nf) := []
def fp_codec_write_x : List (Nat × List Nat) := [(10, [3]), (11, [3]), (13, [3]), (16, [1000, 1001])]
def an_codec_write_x : Nat → Ann
  | 0 => ⟨[0, 3], [3, 1000, 1001], [], [], [3, 1000, 1001]⟩
  | 1 => ⟨[0, 3, 8], [3, 1000, 1001], [], [], [3, 1000, 1001]⟩
  | 2 => ⟨[], [1000, 1001], [], [], [1000, 1001]⟩
  | 3 => ⟨[0, 3], [3, 1000, 1001], [], [], [3, 1000, 1001]⟩
  | 4 => ⟨[0, 23, 24, 25], [1000, 1001], [], [], [1000, 1001]⟩
  | 5 => ⟨[0, 23, 24, 25, 26], [1000, 1001], [], [], [1000, 1001]⟩
  | 6 => ⟨[0, 5, 23, 24, 25], [5, 1000, 1001], [], [], [5, 1000, 1001]⟩
  | 7 => ⟨[0, 23, 24, 25], [1000, 1001], [], [], [1000, 1001]⟩
  | 8 => ⟨[0, 23, 24, 25], [1000, 1001], [], [], [1000, 1001]⟩
  | 9 => ⟨[], [1000, 1001], [], [], [1000, 1001]⟩
  | _ => ⟨[], [], [], [], []⟩
noncomputable abbrev x_codec_write_x : Cx := ⟨Tryd.prog, ⟨id, nf_codec_write_x, fp_codec_write_x⟩, an_codec_write_x⟩
theorem start_codec_write_x {args : List PV} {es es' : List Ent} {r : PV} (ha : args.length = 2) (hl : es'.length = es.length) (he : (es'.all fun e => e.extOk es.length) = true) (h : awp x_codec_write_x c_codec_write_x (bodyR Tryd.prog [] r es') (initSt args es)) : BC Tryd.prog 33 args es r es' :=
  bc_of_awp (X := x_codec_write_x) mixed Tryd.func33 (c := c_codec_write_x) (by kernel_rfl) (by kernel_rfl) (rs := []) (by kernel_rfl) (by kernel_rfl) (by rw [ha]; decide) hl (fun e h => List.all_eq_true.1 he e h) h
noncomputable def c_codec_Print : Code := (Tryd.f12.body).getD .skip
def nf_codec_Print : List (Nat × Nf) := []
def fp_codec_Print : List (Nat × List Nat) := []
def an_codec_Print : Nat → Ann
  | 0 => ⟨[1], [1], [], [], [1]⟩
  | 1 => ⟨[1, 4], [1], [], [], [1]⟩
  | 2 => ⟨[1, 4, 9], [1], [], [], [1]⟩
  | 3 => ⟨[2, 3], [], [], [], []⟩
  | 4 => ⟨[1, 5], [1, 5, 336], [.self 5 0, .thawB 5 1 336 5], [], [1, 5, 336]⟩
  | 5 => ⟨[5], [5, 336], [], [], [5, 336]⟩
  | 6 => ⟨[2, 3], [], [], [], []⟩
  | _ => ⟨[], [], [], [], []⟩
noncomputable abbrev x_codec_Print : Cx := ⟨Tryd.prog, ⟨id, nf_codec_Print, fp_codec_Print⟩, an_codec_Print⟩
theorem start_codec_Print {args : List PV} {r : PV} (ha : args.length = 1) (h : awp x_codec_Print c_codec_Print (bodyR Tryd.prog [.tmp 2, .tmp 3] r []) (initSt args [])) : PC Tryd.prog 12 args r :=
  pc_of_awp (X := x_codec_Print) mixed Tryd.func12 (c := c_codec_Print) (by kernel_rfl) (by kernel_rfl) (rs := [.tmp 2, .tmp 3]) (by kernel_rfl) (by kernel_rfl) (by rw [ha]; decide) h
noncomputable def c_diptychlaw2_shown : Code := (Tryd.f10.body).getD .skip
def nf_diptychlaw2_shown : List (Nat × Nf) := [(6, [none, none, some 1, some 2, some 5]), (9, [none, none, some 1, some 2, some 5]), (12, [none, none, some 1, some 2, some 5]), (14, [none, none, some 1, some 2, some 5])]
def fp_diptychlaw2_shown : List (Nat × List Nat) := []
def an_diptychlaw2_shown : Nat → Ann
  | 0 => ⟨[], [], [], [], []⟩
  | 1 => ⟨[1], [1], [], [], [1]⟩
  | 2 => ⟨[2], [2], [], [], [2]⟩
  | 3 => ⟨[3, 4], [], [], [], []⟩
  | 4 => ⟨[0], [], [], [], []⟩
  | _ => ⟨[], [], [], [], []⟩
noncomputable abbrev x_diptychlaw2_shown : Cx := ⟨Tryd.prog, ⟨id, nf_diptychlaw2_shown, fp_diptychlaw2_shown⟩, an_diptychlaw2_shown⟩
theorem start_diptychlaw2_shown {args : List PV} {r : PV} (ha : args.length = 0) (h : awp x_diptychlaw2_shown c_diptychlaw2_shown (bodyR Tryd.prog [.tmp 0] r []) (initSt args [])) : PC Tryd.prog 10 args r :=
  pc_of_awp (X := x_diptychlaw2_shown) mixed Tryd.func10 (c := c_diptychlaw2_shown) (by kernel_rfl) (by kernel_rfl) (rs := [.tmp 0]) (by kernel_rfl) (by kernel_rfl) (by rw [ha]; decide) h
noncomputable def c_internal_stringslite_HasPrefix : Code := (Tryd.f82.body).getD .skip
def nf_internal_stringslite_HasPrefix : List (Nat × Nf) := []
def fp_internal_stringslite_HasPrefix : List (Nat × List Nat) := []
def an_internal_stringslite_HasPrefix : Nat → Ann
  | 0 => ⟨[0, 1], [], [], [], []⟩
  | 1 => ⟨[4], [], [], [], []⟩
  | _ => ⟨[], [], [], [], []⟩
noncomputable abbrev x_internal_stringslite_HasPrefix : Cx := ⟨Tryd.prog, ⟨id, nf_internal_stringslite_HasPrefix, fp_internal_stringslite_HasPrefix⟩, an_internal_stringslite_HasPrefix⟩
theorem start_internal_stringslite_HasPrefix {args : List PV} {r : PV} (ha : args.length = 2) (h : awp x_internal_stringslite_HasPrefix c_internal_stringslite_HasPrefix (bodyR Tryd.prog [.tmp 4] r []) (initSt args [])) : PC Tryd.prog 82 args r :=
  pc_of_awp (X := x_internal_stringslite_HasPrefix) mixed Tryd.func82 (c := c_internal_stringslite_HasPrefix) (by kernel_rfl) (by kernel_rfl) (rs := [.tmp 4]) (by kernel_rfl) (by kernel_rfl) (by rw [ha]; decide) h
noncomputable def c_strings_HasPrefix : Code := (Tryd.f58.body).getD .skip
def nf_strings_HasPrefix : List (Nat × Nf) := []
def fp_strings_HasPrefix : List (Nat × List Nat) := []
def an_strings_HasPrefix : Nat → Ann
  | 0 => ⟨[0, 1], [], [], [], []⟩
  | 1 => ⟨[4], [], [], [], []⟩
  | _ => ⟨[], [], [], [], []⟩
noncomputable abbrev x_strings_HasPrefix : Cx := ⟨Tryd.prog, ⟨id, nf_strings_HasPrefix, fp_strings_HasPrefix⟩, an_strings_HasPrefix⟩
theorem start_strings_HasPrefix {args : List PV} {r : PV} (ha : args.length = 2) (h : awp x_strings_HasPrefix c_strings_HasPrefix (bodyR Tryd.prog [.tmp 4] r []) (initSt args [])) : PC Tryd.prog 58 args r :=
  pc_of_awp (X := x_strings_HasPrefix) mixed Tryd.func58 (c := c_strings_HasPrefix) (by kernel_rfl) (by kernel_rfl) (rs := [.tmp 4]) (by kernel_rfl) (by kernel_rfl) (by rw [ha]; decide) h
noncomputable def c_codec_reader_name_x : Code := (Tryd.f60.body).getD .skip
def nf_codec_reader_name_x : List (Nat × Nf) := []
def fp_codec_reader_name_x : List (Nat × List Nat) := []
def an_codec_reader_name_x : Nat → Ann
  | 0 => ⟨[0], [1000], [], [], [1000]⟩
  | 1 => ⟨[0, 3], [1000], [], [], [1000]⟩
  | 2 => ⟨[0, 3, 4], [1000], [], [], [1000]⟩
  | 3 => ⟨[4], [1000], [], [], [1000]⟩
  | 4 => ⟨[2], [1000], [], [], [1000]⟩
  | _ => ⟨[], [], [], [], []⟩
noncomputable abbrev x_codec_reader_name_x : Cx := ⟨Tryd.prog, ⟨id, nf_codec_reader_name_x, fp_codec_reader_name_x⟩, an_codec_reader_name_x⟩
theorem start_codec_reader_name_x {args : List PV} {es es' : List Ent} {r : PV} (ha : args.length = 1) (hl : es'.length = es.length) (he : (es'.all fun e => e.extOk es.length) = true) (h : awp x_codec_reader_name_x c_codec_reader_name_x (bodyR Tryd.prog [.tmp 2] r es') (initSt args es)) : BC Tryd.prog 60 args es r es' :=
  bc_of_awp (X := x_codec_reader_name_x) mixed Tryd.func60 (c := c_codec_reader_name_x) (by kernel_rfl) (by kernel_rfl) (rs := [.tmp 2]) (by kernel_rfl) (by kernel_rfl) (by rw [ha]; decide) hl (fun e h => List.all_eq_true.1 he e h) h
noncomputable def c_internal_stringslite_CutPrefix : Code := (Tryd.f100.body).getD .skip
def nf_internal_stringslite_CutPrefix : List (Nat × Nf) := []
def fp_internal_stringslite_CutPrefix : List (Nat × List Nat) := []
def an_internal_stringslite_CutPrefix : Nat → Ann
  | 0 => ⟨[0, 1], [], [], [], []⟩
  | 1 => ⟨[0, 1, 9], [], [], [], []⟩
  | 2 => ⟨[4, 5], [], [], [], []⟩
  | 3 => ⟨[4, 5], [], [], [], []⟩
  | _ => ⟨[], [], [], [], []⟩
noncomputable abbrev x_internal_stringslite_CutPrefix : Cx := ⟨Tryd.prog, ⟨id, nf_internal_stringslite_CutPrefix, fp_internal_stringslite_CutPrefix⟩, an_internal_stringslite_CutPrefix⟩
theorem start_internal_stringslite_CutPrefix {args : List PV} {r : PV} (ha : args.length = 2) (h : awp x_internal_stringslite_CutPrefix c_internal_stringslite_CutPrefix (bodyR Tryd.prog [.tmp 4, .tmp 5] r []) (initSt args [])) : PC Tryd.prog 100 args r :=
  pc_of_awp (X := x_internal_stringslite_CutPrefix) mixed Tryd.func100 (c := c_internal_stringslite_CutPrefix) (by kernel_rfl) (by kernel_rfl) (rs := [.tmp 4, .tmp 5]) (by kernel_rfl) (by kernel_rfl) (by rw [ha]; decide) h
noncomputable def c_strings_CutPrefix : Code := (Tryd.f84.body).getD .skip
def nf_strings_CutPrefix : List (Nat × Nf) := []
def fp_strings_CutPrefix : List (Nat × List Nat) := []
def an_strings_CutPrefix : Nat → Ann
  | 0 => ⟨[0, 1], [], [], [], []⟩
  | 1 => ⟨[4, 5], [], [], [], []⟩
  | _ => ⟨[], [], [], [], []⟩
noncomputable abbrev x_strings_CutPrefix : Cx := ⟨Tryd.prog, ⟨id, nf_strings_CutPrefix, fp_strings_CutPrefix⟩, an_strings_CutPrefix⟩
theorem start_strings_CutPrefix {args : List PV} {r : PV} (ha : args.length = 2) (h : awp x_strings_CutPrefix c_strings_CutPrefix (bodyR Tryd.prog [.tmp 4, .tmp 5] r []) (initSt args [])) : PC Tryd.prog 84 args r :=
  pc_of_awp (X := x_strings_CutPrefix) mixed Tryd.func84 (c := c_strings_CutPrefix) (by kernel_rfl) (by kernel_rfl) (rs := [.tmp 4, .tmp 5]) (by kernel_rfl) (by kernel_rfl) (by rw [ha]; decide) h
noncomputable def c_codec_reader_takes_x : Code := (Tryd.f61.body).getD .skip
def nf_codec_reader_takes_x : List (Nat × Nf) := []
def fp_codec_reader_takes_x : List (Nat × List Nat) := []
def an_codec_reader_takes_x : Nat → Ann
  | 0 => ⟨[0, 1], [1000], [], [], [1000]⟩
  | 1 => ⟨[0, 5, 6], [1000], [], [], [1000]⟩
  | 2 => ⟨[6], [1000], [], [], [1000]⟩
  | 3 => ⟨[4], [1000], [], [], [1000]⟩
  | _ => ⟨[], [], [], [], []⟩
noncomputable abbrev x_codec_reader_takes_x : Cx := ⟨Tryd.prog, ⟨id, nf_codec_reader_takes_x, fp_codec_reader_takes_x⟩, an_codec_reader_takes_x⟩
theorem start_codec_reader_takes_x {args : List PV} {es es' : List Ent} {r : PV} (ha : args.length = 2) (hl : es'.length = es.length) (he : (es'.all fun e => e.extOk es.length) = true) (h : awp x_codec_reader_takes_x c_codec_reader_takes_x (bodyR Tryd.prog [.tmp 4] r es') (initSt args es)) : BC Tryd.prog 61 args es r es' :=
  bc_of_awp (X := x_codec_reader_takes_x) mixed Tryd.func61 (c := c_codec_reader_takes_x) (by kernel_rfl) (by kernel_rfl) (rs := [.tmp 4]) (by kernel_rfl) (by kernel_rfl) (by rw [ha]; decide) hl (fun e h => List.all_eq_true.1 he e h) h
noncomputable def c_codec_reader_want_x : Code := (Tryd.f62.body).getD .skip
def nf_codec_reader_want_x : List (Nat × Nf) := []
def fp_codec_reader_want_x : List (Nat × List Nat) := []
def an_codec_reader_want_x : Nat → Ann
  | 0 => ⟨[], [1000], [], [], [1000]⟩
  | _ => ⟨[], [], [], [], []⟩
noncomputable abbrev x_codec_reader_want_x : Cx := ⟨Tryd.prog, ⟨id, nf_codec_reader_want_x, fp_codec_reader_want_x⟩, an_codec_reader_want_x⟩
theorem start_codec_reader_want_x {args : List PV} {es es' : List Ent} {r : PV} (ha : args.length = 2) (hl : es'.length = es.length) (he : (es'.all fun e => e.extOk es.length) = true) (h : awp x_codec_reader_want_x c_codec_reader_want_x (bodyR Tryd.prog [] r es') (initSt args es)) : BC Tryd.prog 62 args es r es' :=
  bc_of_awp (X := x_codec_reader_want_x) mixed Tryd.func62 (c := c_codec_reader_want_x) (by kernel_rfl) (by kernel_rfl) (rs := []) (by kernel_rfl) (by kernel_rfl) (by rw [ha]; decide) hl (fun e h => List.all_eq_true.1 he e h) h
noncomputable def c_codec_reader_quoted_x : Code := (Tryd.f63.body).getD .skip
def nf_codec_reader_quoted_x : List (Nat × Nf) := []
def fp_codec_reader_quoted_x : List (Nat × List Nat) := []
def an_codec_reader_quoted_x : Nat → Ann
  | 0 => ⟨[0], [1000], [], [], [1000]⟩
  | 1 => ⟨[0], [1000], [], [], [1000]⟩
  | 2 => ⟨[0, 3], [3, 1000], [.thaw 3 3 1], [], [3, 1000]⟩
  | 3 => ⟨[0, 3, 4], [3, 1000], [], [], [3, 1000]⟩
  | 4 => ⟨[0, 3, 4, 21], [3, 1000], [], [], [3, 1000]⟩
  | 5 => ⟨[0, 3, 4], [3, 1000], [], [], [3, 1000]⟩
  | 6 => ⟨[0, 3, 4, 5], [3, 1000], [], [], [3, 1000]⟩
  | 7 => ⟨[0, 3, 4, 5, 30], [3, 1000], [], [], [3, 1000]⟩
  | 8 => ⟨[3], [3, 1000], [], [], [3, 1000]⟩
  | 9 => ⟨[2], [1000], [], [], [1000]⟩
  | 10 => ⟨[0, 3, 4, 45], [3, 1000], [], [], [3, 1000]⟩
  | 11 => ⟨[0, 3, 4], [3, 1000], [], [], [3, 1000]⟩
  | 12 => ⟨[0, 3, 4, 56], [3, 1000], [], [], [3, 1000]⟩
  | 13 => ⟨[0, 3, 4], [3, 1000], [], [], [3, 1000]⟩
  | 14 => ⟨[], [1000], [], [], [1000]⟩
  | 15 => ⟨[2], [1000], [], [], [1000]⟩
  | _ => ⟨[], [], [], [], []⟩
noncomputable abbrev x_codec_reader_quoted_x : Cx := ⟨Tryd.prog, ⟨id, nf_codec_reader_quoted_x, fp_codec_reader_quoted_x⟩, an_codec_reader_quoted_x⟩
theorem start_codec_reader_quoted_x {args : List PV} {es es' : List Ent} {r : PV} (ha : args.length = 1) (hl : es'.length = es.length) (he : (es'.all fun e => e.extOk es.length) = true) (h : awp x_codec_reader_quoted_x c_codec_reader_quoted_x (bodyR Tryd.prog [.tmp 2] r es') (initSt args es)) : BC Tryd.prog 63 args es r es' :=
  bc_of_awp (X := x_codec_reader_quoted_x) mixed Tryd.func63 (c := c_codec_reader_quoted_x) (by kernel_rfl) (by kernel_rfl) (rs := [.tmp 2]) (by kernel_rfl) (by kernel_rfl) (by rw [ha]; decide) hl (fun e h => List.all_eq_true.1 he e h) h
noncomputable def c_codec_reader_text_x : Code := (Tryd.f59.body).getD .skip
def nf_codec_reader_text_x : List (Nat × Nf) := [(7, [none, none, none, some 2, some 5]), (11, [none, none, some 1, none, none]), (24, [none, none, some 1, none, none])]
def fp_codec_reader_text_x : List (Nat × List Nat) := [(15, [3]), (16, [3]), (18, [1000]), (20, [19, 323]), (21, [3])]
def an_codec_reader_text_x : Nat → Ann
  | 0 => ⟨[0, 2], [2, 1000], [.nrm 2 [none, none, some 1, some 2, some 5]], [], [2, 1000]⟩
  | 1 => ⟨[0, 2, 3], [2, 3, 323, 1000], [.thawV 3 2 323 1], [], [2, 3, 323, 1000]⟩
  | 2 => ⟨[0, 2, 3, 10], [2, 3, 323, 1000], [], [], [2, 3, 323, 1000]⟩
  | 3 => ⟨[2], [2, 1000], [], [], [2, 1000]⟩
  | 4 => ⟨[0, 2, 3, 4], [2, 3, 323, 1000], [], [], [2, 3, 323, 1000]⟩
  | 5 => ⟨[0, 2, 3, 12], [2, 3, 323, 1000], [], [], [2, 3, 323, 1000]⟩
  | 6 => ⟨[0, 2, 3, 4], [2, 3, 323, 1000], [], [], [2, 3, 323, 1000]⟩
  | 7 => ⟨[0, 2, 3], [2, 3, 323, 1000], [], [], [2, 3, 323, 1000]⟩
  | 8 => ⟨[2, 3], [2, 3, 323, 1000], [], [], [2, 3, 323, 1000]⟩
  | 9 => ⟨[2], [2, 1000], [], [], [2, 1000]⟩
  | _ => ⟨[], [], [], [], []⟩
noncomputable abbrev x_codec_reader_text_x : Cx := ⟨Tryd.prog, ⟨id, nf_codec_reader_text_x, fp_codec_reader_text_x⟩, an_codec_reader_text_x⟩
theorem start_codec_reader_text_x {args : List PV} {es es' : List Ent} {r : PV} (ha : args.length = 1) (hl : es'.length = es.length) (he : (es'.all fun e => e.extOk es.length) = true) (h : awp x_codec_reader_text_x c_codec_reader_text_x (bodyR Tryd.prog [.cell 2 26] r es') (initSt args es)) : BC Tryd.prog 59 args es r es' :=
  bc_of_awp (X := x_codec_reader_text_x) mixed Tryd.func59 (c := c_codec_reader_text_x) (by kernel_rfl) (by kernel_rfl) (rs := [.cell 2 26]) (by kernel_rfl) (by kernel_rfl) (by rw [ha]; decide) hl (fun e h => List.all_eq_true.1 he e h) h
noncomputable def c_codec_reader_node_x : Code := (Tryd.f44.body).getD .skip
def nf_codec_reader_node_x : List (Nat × Nf) := [(15, [none, none, some 1, none, none]), (73, [none, none, none, some 2, some 5])]
def fp_codec_reader_node_x : List (Nat × List Nat) := [(32, [3]), (33, [3]), (36, [1000]), (39, [38, 324]), (40, [3]), (64, [3]), (65, [3]), (67, [1000]), (69, [68, 325]), (70, [3])]
def an_codec_reader_node_x : Nat → Ann
  | 0 => ⟨[0, 2], [2, 1000], [.nrm 2 [none, none, some 1, some 2, some 5]], [], [2, 1000]⟩
  | 1 => ⟨[0, 2, 10], [2, 1000], [], [], [2, 1000]⟩
  | 2 => ⟨[2], [2, 1000], [], [], [2, 1000]⟩
  | 3 => ⟨[0, 2, 3], [2, 3, 324, 325, 1000], [.thawV 3 3 324 2, .thawV 3 4 325 5], [], [2, 3, 324, 325, 1000]⟩
  | 4 => ⟨[0, 2, 3, 17], [2, 3, 324, 325, 1000], [], [], [2, 3, 324, 325, 1000]⟩
  | 5 => ⟨[0, 2, 3, 4], [2, 3, 324, 325, 1000], [], [], [2, 3, 324, 325, 1000]⟩
  | 6 => ⟨[0, 2, 3, 25], [2, 3, 324, 325, 1000], [], [], [2, 3, 324, 325, 1000]⟩
  | 7 => ⟨[0, 2, 3, 4], [2, 3, 324, 325, 1000], [], [], [2, 3, 324, 325, 1000]⟩
  | 8 => ⟨[0, 2, 3, 5], [2, 3, 324, 325, 1000], [], [], [2, 3, 324, 325, 1000]⟩
  | 9 => ⟨[0, 2, 3, 5], [2, 3, 324, 325, 1000], [], [], [2, 3, 324, 325, 1000]⟩
  | 10 => ⟨[0, 2, 3], [2, 3, 324, 325, 1000], [], [], [2, 3, 324, 325, 1000]⟩
  | 11 => ⟨[0, 2, 3], [2, 3, 324, 325, 1000], [], [], [2, 3, 324, 325, 1000]⟩
  | 12 => ⟨[0, 2, 3], [2, 3, 324, 325, 1000], [], [], [2, 3, 324, 325, 1000]⟩
  | 13 => ⟨[0, 2, 3, 63], [2, 3, 324, 325, 1000], [], [], [2, 3, 324, 325, 1000]⟩
  | 14 => ⟨[0, 2, 3], [2, 3, 324, 325, 1000], [], [], [2, 3, 324, 325, 1000]⟩
  | 15 => ⟨[2, 3], [2, 3, 324, 325, 1000], [], [], [2, 3, 324, 325, 1000]⟩
  | 16 => ⟨[2], [2, 1000], [], [], [2, 1000]⟩
  | _ => ⟨[], [], [], [], []⟩
noncomputable abbrev x_codec_reader_node_x : Cx := ⟨Tryd.prog, ⟨id, nf_codec_reader_node_x, fp_codec_reader_node_x⟩, an_codec_reader_node_x⟩
theorem start_codec_reader_node_x {args : List PV} {es es' : List Ent} {r : PV} (ha : args.length = 1) (hl : es'.length = es.length) (he : (es'.all fun e => e.extOk es.length) = true) (h : awp x_codec_reader_node_x c_codec_reader_node_x (bodyR Tryd.prog [.cell 2 26] r es') (initSt args es)) : BC Tryd.prog 44 args es r es' :=
  bc_of_awp (X := x_codec_reader_node_x) mixed Tryd.func44 (c := c_codec_reader_node_x) (by kernel_rfl) (by kernel_rfl) (rs := [.cell 2 26]) (by kernel_rfl) (by kernel_rfl) (by rw [ha]; decide) hl (fun e h => List.all_eq_true.1 he e h) h
noncomputable def c_codec_Parse : Code := (Tryd.f22.body).getD .skip
def nf_codec_Parse : List (Nat × Nf) := [(37, [none, none, some 1, some 2, some 5]), (40, [none, none, some 1, some 2, some 5])]
def fp_codec_Parse : List (Nat × List Nat) := []
def an_codec_Parse : Nat → Ann
  | 0 => ⟨[0, 2], [2], [.nrm 2 [none, none, some 1, some 2, some 5]], [], [2]⟩
  | 1 => ⟨[0, 2, 4], [2, 10], [], [], [2, 10]⟩
  | 2 => ⟨[0, 2, 4, 5], [2, 5, 10], [], [], [2, 5, 10]⟩
  | 3 => ⟨[0, 2, 4, 5, 6], [2, 5, 6, 10, 343], [.self 6 0, .thawB 6 1 343 5], [], [2, 5, 6, 10, 343]⟩
  | 4 => ⟨[0, 2, 4, 5, 6], [2, 5, 6, 10, 343], [], [], [2, 5, 6, 10, 343]⟩
  | 5 => ⟨[0, 2, 4, 5, 6, 7], [2, 5, 6, 10, 343], [], [], [2, 5, 6, 10, 343]⟩
  | 6 => ⟨[2, 5, 7, 36], [2, 5], [], [], [2, 5]⟩
  | 7 => ⟨[2, 3], [2], [], [], [2]⟩
  | 8 => ⟨[2, 5, 7, 39], [2, 5], [], [], [2, 5]⟩
  | 9 => ⟨[2, 3], [2], [], [], [2]⟩
  | 10 => ⟨[2, 3], [2], [], [], [2]⟩
  | _ => ⟨[], [], [], [], []⟩
noncomputable abbrev x_codec_Parse : Cx := ⟨Tryd.prog, ⟨id, nf_codec_Parse, fp_codec_Parse⟩, an_codec_Parse⟩
theorem start_codec_Parse {args : List PV} {r : PV} (ha : args.length = 1) (h : awp x_codec_Parse c_codec_Parse (bodyR Tryd.prog [.cell 2 26, .tmp 3] r []) (initSt args [])) : PC Tryd.prog 22 args r :=
  pc_of_awp (X := x_codec_Parse) mixed Tryd.func22 (c := c_codec_Parse) (by kernel_rfl) (by kernel_rfl) (rs := [.cell 2 26, .tmp 3]) (by kernel_rfl) (by kernel_rfl) (by rw [ha]; decide) h
noncomputable def c_diptychref1_sameNames : Code := (Tryd.f47.body).getD .skip
def nf_diptychref1_sameNames : List (Nat × Nf) := []
def fp_diptychref1_sameNames : List (Nat × List Nat) := []
def an_diptychref1_sameNames : Nat → Ann
  | 0 => ⟨[0, 1], [], [], [], []⟩
  | 1 => ⟨[0, 1, 10], [], [], [], []⟩
  | 2 => ⟨[4], [], [], [], []⟩
  | 3 => ⟨[0, 1, 5], [], [], [], []⟩
  | 4 => ⟨[0, 1, 5, 14], [], [], [], []⟩
  | 5 => ⟨[0, 1, 5], [], [], [], []⟩
  | 6 => ⟨[0, 1, 5, 25], [], [], [], []⟩
  | 7 => ⟨[4], [], [], [], []⟩
  | 8 => ⟨[4], [], [], [], []⟩
  | _ => ⟨[], [], [], [], []⟩
noncomputable abbrev x_diptychref1_sameNames : Cx := ⟨Tryd.prog, ⟨id, nf_diptychref1_sameNames, fp_diptychref1_sameNames⟩, an_diptychref1_sameNames⟩
theorem start_diptychref1_sameNames {args : List PV} {r : PV} (ha : args.length = 2) (h : awp x_diptychref1_sameNames c_diptychref1_sameNames (bodyR Tryd.prog [.tmp 4] r []) (initSt args [])) : PC Tryd.prog 47 args r :=
  pc_of_awp (X := x_diptychref1_sameNames) mixed Tryd.func47 (c := c_diptychref1_sameNames) (by kernel_rfl) (by kernel_rfl) (rs := [.tmp 4]) (by kernel_rfl) (by kernel_rfl) (by rw [ha]; decide) h
noncomputable def c_diptychref1_runes : Code := (Tryd.f76.body).getD .skip
def nf_diptychref1_runes : List (Nat × Nf) := []
def fp_diptychref1_runes : List (Nat × List Nat) := []
def an_diptychref1_runes : Nat → Ann
  | 0 => ⟨[0], [], [], [], []⟩
  | 1 => ⟨[0, 4], [], [], [], []⟩
  | 2 => ⟨[2, 3], [], [], [], []⟩
  | _ => ⟨[], [], [], [], []⟩
noncomputable abbrev x_diptychref1_runes : Cx := ⟨Tryd.prog, ⟨id, nf_diptychref1_runes, fp_diptychref1_runes⟩, an_diptychref1_runes⟩
theorem start_diptychref1_runes {args : List PV} {r : PV} (ha : args.length = 1) (h : awp x_diptychref1_runes c_diptychref1_runes (bodyR Tryd.prog [.tmp 2, .tmp 3] r []) (initSt args [])) : PC Tryd.prog 76 args r :=
  pc_of_awp (X := x_diptychref1_runes) mixed Tryd.func76 (c := c_diptychref1_runes) (by kernel_rfl) (by kernel_rfl) (rs := [.tmp 2, .tmp 3]) (by kernel_rfl) (by kernel_rfl) (by rw [ha]; decide) h
noncomputable def c_diptychref1_formed : Code := (Tryd.f65.body).getD .skip
def nf_diptychref1_formed : List (Nat × Nf) := []
def fp_diptychref1_formed : List (Nat × List Nat) := []
def an_diptychref1_formed : Nat → Ann
  | 0 => ⟨[0], [], [], [], []⟩
  | 1 => ⟨[4], [], [], [], []⟩
  | 2 => ⟨[2], [], [], [], []⟩
  | _ => ⟨[], [], [], [], []⟩
noncomputable abbrev x_diptychref1_formed : Cx := ⟨Tryd.prog, ⟨id, nf_diptychref1_formed, fp_diptychref1_formed⟩, an_diptychref1_formed⟩
theorem start_diptychref1_formed {args : List PV} {r : PV} (ha : args.length = 1) (h : awp x_diptychref1_formed c_diptychref1_formed (bodyR Tryd.prog [.tmp 2] r []) (initSt args [])) : PC Tryd.prog 65 args r :=
  pc_of_awp (X := x_diptychref1_formed) mixed Tryd.func65 (c := c_diptychref1_formed) (by kernel_rfl) (by kernel_rfl) (rs := [.tmp 2]) (by kernel_rfl) (by kernel_rfl) (by rw [ha]; decide) h
noncomputable def c_diptychref1_Name : Code := (Tryd.f68.body).getD .skip
def nf_diptychref1_Name : List (Nat × Nf) := []
def fp_diptychref1_Name : List (Nat × List Nat) := []
def an_diptychref1_Name : Nat → Ann
  | 0 => ⟨[0], [], [], [], []⟩
  | 1 => ⟨[0, 3], [], [], [], []⟩
  | 2 => ⟨[0, 3, 7], [], [], [], []⟩
  | 3 => ⟨[0, 3], [], [], [], []⟩
  | 4 => ⟨[0, 3, 19], [], [], [], []⟩
  | 5 => ⟨[2], [], [], [], []⟩
  | 6 => ⟨[2], [], [], [], []⟩
  | _ => ⟨[], [], [], [], []⟩
noncomputable abbrev x_diptychref1_Name : Cx := ⟨Tryd.prog, ⟨id, nf_diptychref1_Name, fp_diptychref1_Name⟩, an_diptychref1_Name⟩
theorem start_diptychref1_Name {args : List PV} {r : PV} (ha : args.length = 1) (h : awp x_diptychref1_Name c_diptychref1_Name (bodyR Tryd.prog [.tmp 2] r []) (initSt args [])) : PC Tryd.prog 68 args r :=
  pc_of_awp (X := x_diptychref1_Name) mixed Tryd.func68 (c := c_diptychref1_Name) (by kernel_rfl) (by kernel_rfl) (rs := [.tmp 2]) (by kernel_rfl) (by kernel_rfl) (by rw [ha]; decide) h
noncomputable def c_diptychref1_rise : Code := (Tryd.f66.body).getD .skip
def nf_diptychref1_rise : List (Nat × Nf) := []
def fp_diptychref1_rise : List (Nat × List Nat) := []
def an_diptychref1_rise : Nat → Ann
  | 0 => ⟨[0], [], [], [], []⟩
  | 1 => ⟨[0, 3], [], [], [], []⟩
  | 2 => ⟨[0, 3, 7], [], [], [], []⟩
  | 3 => ⟨[0, 3], [], [], [], []⟩
  | 4 => ⟨[0, 3, 31], [], [], [], []⟩
  | 5 => ⟨[2], [], [], [], []⟩
  | 6 => ⟨[2], [], [], [], []⟩
  | _ => ⟨[], [], [], [], []⟩
noncomputable abbrev x_diptychref1_rise : Cx := ⟨Tryd.prog, ⟨id, nf_diptychref1_rise, fp_diptychref1_rise⟩, an_diptychref1_rise⟩
theorem start_diptychref1_rise {args : List PV} {r : PV} (ha : args.length = 1) (h : awp x_diptychref1_rise c_diptychref1_rise (bodyR Tryd.prog [.tmp 2] r []) (initSt args [])) : PC Tryd.prog 66 args r :=
  pc_of_awp (X := x_diptychref1_rise) mixed Tryd.func66 (c := c_diptychref1_rise) (by kernel_rfl) (by kernel_rfl) (rs := [.tmp 2]) (by kernel_rfl) (by kernel_rfl) (by rw [ha]; decide) h
noncomputable def c_diptychref1_Value : Code := (Tryd.f67.body).getD .skip
def nf_diptychref1_Value : List (Nat × Nf) := []
def fp_diptychref1_Value : List (Nat × List Nat) := []
def an_diptychref1_Value : Nat → Ann
  | 0 => ⟨[0], [], [], [], []⟩
  | 1 => ⟨[2], [], [], [], []⟩
  | _ => ⟨[], [], [], [], []⟩
noncomputable abbrev x_diptychref1_Value : Cx := ⟨Tryd.prog, ⟨id, nf_diptychref1_Value, fp_diptychref1_Value⟩, an_diptychref1_Value⟩
theorem start_diptychref1_Value {args : List PV} {r : PV} (ha : args.length = 1) (h : awp x_diptychref1_Value c_diptychref1_Value (bodyR Tryd.prog [.tmp 2] r []) (initSt args [])) : PC Tryd.prog 67 args r :=
  pc_of_awp (X := x_diptychref1_Value) mixed Tryd.func67 (c := c_diptychref1_Value) (by kernel_rfl) (by kernel_rfl) (rs := [.tmp 2]) (by kernel_rfl) (by kernel_rfl) (by rw [ha]; decide) h
noncomputable def c_diptychref1_Formed : Code := (Tryd.f46.body).getD .skip
def nf_diptychref1_Formed : List (Nat × Nf) := []
def fp_diptychref1_Formed : List (Nat × List Nat) := []
def an_diptychref1_Formed : Nat → Ann
  | 0 => ⟨[1], [1], [], [], [1]⟩
  | 1 => ⟨[1, 8], [1], [], [], [1]⟩
  | 2 => ⟨[2], [], [], [], []⟩
  | 3 => ⟨[1, 3], [1, 3], [.thaw 3 3 1], [], [1, 3]⟩
  | 4 => ⟨[1, 3, 4], [1, 3], [], [], [1, 3]⟩
  | 5 => ⟨[1, 3, 4, 38], [1, 3], [], [], [1, 3]⟩
  | 6 => ⟨[1, 3, 4], [1, 3], [], [], [1, 3]⟩
  | 7 => ⟨[1, 3, 4], [1, 3], [], [], [1, 3]⟩
  | 8 => ⟨[1, 3, 4, 57], [1, 3], [], [], [1, 3]⟩
  | 9 => ⟨[2], [], [], [], []⟩
  | 10 => ⟨[1, 77], [1], [], [], [1]⟩
  | 11 => ⟨[2], [], [], [], []⟩
  | 12 => ⟨[1, 5], [1], [], [], [1]⟩
  | 13 => ⟨[1, 5, 82], [1], [], [], [1]⟩
  | 14 => ⟨[1, 5], [1], [], [], [1]⟩
  | 15 => ⟨[1, 5, 130], [1], [], [], [1]⟩
  | 16 => ⟨[2], [], [], [], []⟩
  | 17 => ⟨[2], [], [], [], []⟩
  | _ => ⟨[], [], [], [], []⟩
noncomputable abbrev x_diptychref1_Formed : Cx := ⟨Tryd.prog, ⟨id, nf_diptychref1_Formed, fp_diptychref1_Formed⟩, an_diptychref1_Formed⟩
theorem start_diptychref1_Formed {args : List PV} {r : PV} (ha : args.length = 1) (h : awp x_diptychref1_Formed c_diptychref1_Formed (bodyR Tryd.prog [.tmp 2] r []) (initSt args [])) : PC Tryd.prog 46 args r :=
  pc_of_awp (X := x_diptychref1_Formed) mixed Tryd.func46 (c := c_diptychref1_Formed) (by kernel_rfl) (by kernel_rfl) (rs := [.tmp 2]) (by kernel_rfl) (by kernel_rfl) (by rw [ha]; decide) h
noncomputable def c_diptychref1_Depth : Code := (Tryd.f53.body).getD .skip
def nf_diptychref1_Depth : List (Nat × Nf) := []
def fp_diptychref1_Depth : List (Nat × List Nat) := []
def an_diptychref1_Depth : Nat → Ann
  | 0 => ⟨[1], [1], [], [], [1]⟩
  | 1 => ⟨[1, 7], [1], [], [], [1]⟩
  | 2 => ⟨[2], [], [], [], []⟩
  | 3 => ⟨[1, 3], [1], [], [], [1]⟩
  | 4 => ⟨[1, 3, 4], [1], [], [], [1]⟩
  | 5 => ⟨[1, 3, 4, 12], [1], [], [], [1]⟩
  | 6 => ⟨[1, 3, 4], [1], [], [], [1]⟩
  | 7 => ⟨[1, 3, 4], [1], [], [], [1]⟩
  | 8 => ⟨[2], [], [], [], []⟩
  | _ => ⟨[], [], [], [], []⟩
noncomputable abbrev x_diptychref1_Depth : Cx := ⟨Tryd.prog, ⟨id, nf_diptychref1_Depth, fp_diptychref1_Depth⟩, an_diptychref1_Depth⟩
theorem start_diptychref1_Depth {args : List PV} {r : PV} (ha : args.length = 1) (h : awp x_diptychref1_Depth c_diptychref1_Depth (bodyR Tryd.prog [.tmp 2] r []) (initSt args [])) : PC Tryd.prog 53 args r :=
  pc_of_awp (X := x_diptychref1_Depth) mixed Tryd.func53 (c := c_diptychref1_Depth) (by kernel_rfl) (by kernel_rfl) (rs := [.tmp 2]) (by kernel_rfl) (by kernel_rfl) (by rw [ha]; decide) h
noncomputable def c_diptychref1_Total : Code := (Tryd.f77.body).getD .skip
def nf_diptychref1_Total : List (Nat × Nf) := []
def fp_diptychref1_Total : List (Nat × List Nat) := []
def an_diptychref1_Total : Nat → Ann
  | 0 => ⟨[0], [], [], [], []⟩
  | 1 => ⟨[0, 3], [], [], [], []⟩
  | 2 => ⟨[0, 3, 4], [], [], [], []⟩
  | 3 => ⟨[0, 3, 4, 8], [], [], [], []⟩
  | 4 => ⟨[0, 3, 4], [], [], [], []⟩
  | 5 => ⟨[0, 3, 4], [], [], [], []⟩
  | 6 => ⟨[2], [], [], [], []⟩
  | _ => ⟨[], [], [], [], []⟩
noncomputable abbrev x_diptychref1_Total : Cx := ⟨Tryd.prog, ⟨id, nf_diptychref1_Total, fp_diptychref1_Total⟩, an_diptychref1_Total⟩
theorem start_diptychref1_Total {args : List PV} {r : PV} (ha : args.length = 1) (h : awp x_diptychref1_Total c_diptychref1_Total (bodyR Tryd.prog [.tmp 2] r []) (initSt args [])) : PC Tryd.prog 77 args r :=
  pc_of_awp (X := x_diptychref1_Total) mixed Tryd.func77 (c := c_diptychref1_Total) (by kernel_rfl) (by kernel_rfl) (rs := [.tmp 2]) (by kernel_rfl) (by kernel_rfl) (by rw [ha]; decide) h
noncomputable def c_diptychref1_Size : Code := (Tryd.f54.body).getD .skip
def nf_diptychref1_Size : List (Nat × Nf) := []
def fp_diptychref1_Size : List (Nat × List Nat) := []
def an_diptychref1_Size : Nat → Ann
  | 0 => ⟨[1], [1], [], [], [1]⟩
  | 1 => ⟨[1, 7], [1], [], [], [1]⟩
  | 2 => ⟨[3], [], [], [], []⟩
  | 3 => ⟨[2], [], [], [], []⟩
  | 4 => ⟨[2], [], [], [], []⟩
  | _ => ⟨[], [], [], [], []⟩
noncomputable abbrev x_diptychref1_Size : Cx := ⟨Tryd.prog, ⟨id, nf_diptychref1_Size, fp_diptychref1_Size⟩, an_diptychref1_Size⟩
theorem start_diptychref1_Size {args : List PV} {r : PV} (ha : args.length = 1) (h : awp x_diptychref1_Size c_diptychref1_Size (bodyR Tryd.prog [.tmp 2] r []) (initSt args [])) : PC Tryd.prog 54 args r :=
  pc_of_awp (X := x_diptychref1_Size) mixed Tryd.func54 (c := c_diptychref1_Size) (by kernel_rfl) (by kernel_rfl) (rs := [.tmp 2]) (by kernel_rfl) (by kernel_rfl) (by rw [ha]; decide) h
noncomputable def c_diptychref1_Check : Code := (Tryd.f35.body).getD .skip
def nf_diptychref1_Check : List (Nat × Nf) := []
def fp_diptychref1_Check : List (Nat × List Nat) := []
def an_diptychref1_Check : Nat → Ann
  | 0 => ⟨[1], [1], [], [], [1]⟩
  | 1 => ⟨[1, 5], [1], [], [], [1]⟩
  | 2 => ⟨[2], [], [], [], []⟩
  | 3 => ⟨[1, 8], [1], [], [], [1]⟩
  | 4 => ⟨[2], [], [], [], []⟩
  | 5 => ⟨[11], [], [], [], []⟩
  | 6 => ⟨[2], [], [], [], []⟩
  | 7 => ⟨[2], [], [], [], []⟩
  | _ => ⟨[], [], [], [], []⟩
noncomputable abbrev x_diptychref1_Check : Cx := ⟨Tryd.prog, ⟨id, nf_diptychref1_Check, fp_diptychref1_Check⟩, an_diptychref1_Check⟩
theorem start_diptychref1_Check {args : List PV} {r : PV} (ha : args.length = 1) (h : awp x_diptychref1_Check c_diptychref1_Check (bodyR Tryd.prog [.tmp 2] r []) (initSt args [])) : PC Tryd.prog 35 args r :=
  pc_of_awp (X := x_diptychref1_Check) mixed Tryd.func35 (c := c_diptychref1_Check) (by kernel_rfl) (by kernel_rfl) (rs := [.tmp 2]) (by kernel_rfl) (by kernel_rfl) (by rw [ha]; decide) h
noncomputable def c_diptychref2_Quote : Code := (Tryd.f17.body).getD .skip
def nf_diptychref2_Quote : List (Nat × Nf) := []
def fp_diptychref2_Quote : List (Nat × List Nat) := []
def an_diptychref2_Quote : Nat → Ann
  | 0 => ⟨[0], [], [], [], []⟩
  | 1 => ⟨[0, 3], [], [], [], []⟩
  | 2 => ⟨[0, 3, 4], [], [], [], []⟩
  | 3 => ⟨[0, 3, 4, 8], [], [], [], []⟩
  | 4 => ⟨[0, 3, 4], [], [], [], []⟩
  | 5 => ⟨[0, 3, 4, 20], [], [], [], []⟩
  | 6 => ⟨[0, 3, 4], [], [], [], []⟩
  | 7 => ⟨[0, 3, 4], [], [], [], []⟩
  | 8 => ⟨[2], [], [], [], []⟩
  | _ => ⟨[], [], [], [], []⟩
noncomputable abbrev x_diptychref2_Quote : Cx := ⟨Tryd.prog, ⟨id, nf_diptychref2_Quote, fp_diptychref2_Quote⟩, an_diptychref2_Quote⟩
theorem start_diptychref2_Quote {args : List PV} {r : PV} (ha : args.length = 1) (h : awp x_diptychref2_Quote c_diptychref2_Quote (bodyR Tryd.prog [.tmp 2] r []) (initSt args [])) : PC Tryd.prog 17 args r :=
  pc_of_awp (X := x_diptychref2_Quote) mixed Tryd.func17 (c := c_diptychref2_Quote) (by kernel_rfl) (by kernel_rfl) (rs := [.tmp 2]) (by kernel_rfl) (by kernel_rfl) (by rw [ha]; decide) h
noncomputable def c_diptychref2_Head : Code := (Tryd.f19.body).getD .skip
def nf_diptychref2_Head : List (Nat × Nf) := []
def fp_diptychref2_Head : List (Nat × List Nat) := []
def an_diptychref2_Head : Nat → Ann
  | 0 => ⟨[1], [1], [], [], [1]⟩
  | 1 => ⟨[1, 3], [1], [], [], [1]⟩
  | 2 => ⟨[1, 3, 8], [1], [], [], [1]⟩
  | 3 => ⟨[1, 3, 4], [1], [], [], [1]⟩
  | 4 => ⟨[1, 3, 4, 13], [1], [], [], [1]⟩
  | 5 => ⟨[1, 3, 4], [1], [], [], [1]⟩
  | 6 => ⟨[1, 3, 4, 17], [1], [], [], [1]⟩
  | 7 => ⟨[1, 3, 4], [1], [], [], [1]⟩
  | 8 => ⟨[1, 3, 4], [1], [], [], [1]⟩
  | 9 => ⟨[3, 30], [], [], [], []⟩
  | 10 => ⟨[3], [], [], [], []⟩
  | 11 => ⟨[2], [], [], [], []⟩
  | 12 => ⟨[1, 3, 5], [1], [], [], [1]⟩
  | 13 => ⟨[1, 3, 5, 39], [1], [], [], [1]⟩
  | 14 => ⟨[1, 3, 5], [1], [], [], [1]⟩
  | 15 => ⟨[1, 3, 5, 43], [1], [], [], [1]⟩
  | 16 => ⟨[1, 3, 5], [1], [], [], [1]⟩
  | 17 => ⟨[1, 3, 5], [1], [], [], [1]⟩
  | 18 => ⟨[1, 3, 66], [1], [], [], [1]⟩
  | 19 => ⟨[1, 3], [1], [], [], [1]⟩
  | 20 => ⟨[2], [], [], [], []⟩
  | _ => ⟨[], [], [], [], []⟩
noncomputable abbrev x_diptychref2_Head : Cx := ⟨Tryd.prog, ⟨id, nf_diptychref2_Head, fp_diptychref2_Head⟩, an_diptychref2_Head⟩
theorem start_diptychref2_Head {args : List PV} {r : PV} (ha : args.length = 1) (h : awp x_diptychref2_Head c_diptychref2_Head (bodyR Tryd.prog [.tmp 2] r []) (initSt args [])) : PC Tryd.prog 19 args r :=
  pc_of_awp (X := x_diptychref2_Head) mixed Tryd.func19 (c := c_diptychref2_Head) (by kernel_rfl) (by kernel_rfl) (rs := [.tmp 2]) (by kernel_rfl) (by kernel_rfl) (by rw [ha]; decide) h
noncomputable def c_diptychref2_WriteAll : Code := (Tryd.f37.body).getD .skip
def nf_diptychref2_WriteAll : List (Nat × Nf) := []
def fp_diptychref2_WriteAll : List (Nat × List Nat) := []
def an_diptychref2_WriteAll : Nat → Ann
  | 0 => ⟨[0], [], [], [], []⟩
  | 1 => ⟨[0, 3], [], [], [], []⟩
  | 2 => ⟨[0, 3, 4], [], [], [], []⟩
  | 3 => ⟨[0, 3, 4, 8], [], [], [], []⟩
  | 4 => ⟨[0, 3, 4], [], [], [], []⟩
  | 5 => ⟨[0, 3, 4], [], [], [], []⟩
  | 6 => ⟨[2], [], [], [], []⟩
  | _ => ⟨[], [], [], [], []⟩
noncomputable abbrev x_diptychref2_WriteAll : Cx := ⟨Tryd.prog, ⟨id, nf_diptychref2_WriteAll, fp_diptychref2_WriteAll⟩, an_diptychref2_WriteAll⟩
theorem start_diptychref2_WriteAll {args : List PV} {r : PV} (ha : args.length = 1) (h : awp x_diptychref2_WriteAll c_diptychref2_WriteAll (bodyR Tryd.prog [.tmp 2] r []) (initSt args [])) : PC Tryd.prog 37 args r :=
  pc_of_awp (X := x_diptychref2_WriteAll) mixed Tryd.func37 (c := c_diptychref2_WriteAll) (by kernel_rfl) (by kernel_rfl) (rs := [.tmp 2]) (by kernel_rfl) (by kernel_rfl) (by rw [ha]; decide) h
noncomputable def c_diptychref2_Write : Code := (Tryd.f36.body).getD .skip
def nf_diptychref2_Write : List (Nat × Nf) := []
def fp_diptychref2_Write : List (Nat × List Nat) := []
def an_diptychref2_Write : Nat → Ann
  | 0 => ⟨[1], [1], [], [], [1]⟩
  | 1 => ⟨[1, 5], [1], [], [], [1]⟩
  | 2 => ⟨[2], [], [], [], []⟩
  | 3 => ⟨[2], [], [], [], []⟩
  | _ => ⟨[], [], [], [], []⟩
noncomputable abbrev x_diptychref2_Write : Cx := ⟨Tryd.prog, ⟨id, nf_diptychref2_Write, fp_diptychref2_Write⟩, an_diptychref2_Write⟩
theorem start_diptychref2_Write {args : List PV} {r : PV} (ha : args.length = 1) (h : awp x_diptychref2_Write c_diptychref2_Write (bodyR Tryd.prog [.tmp 2] r []) (initSt args [])) : PC Tryd.prog 36 args r :=
  pc_of_awp (X := x_diptychref2_Write) mixed Tryd.func36 (c := c_diptychref2_Write) (by kernel_rfl) (by kernel_rfl) (rs := [.tmp 2]) (by kernel_rfl) (by kernel_rfl) (by rw [ha]; decide) h
noncomputable def c_diptychref2_Reader_is_x : Code := (Tryd.f85.body).getD .skip
def nf_diptychref2_Reader_is_x : List (Nat × Nf) := []
def fp_diptychref2_Reader_is_x : List (Nat × List Nat) := []
def an_diptychref2_Reader_is_x : Nat → Ann
  | 0 => ⟨[0, 1], [1000], [], [], [1000]⟩
  | 1 => ⟨[4], [1000], [], [], [1000]⟩
  | _ => ⟨[], [], [], [], []⟩
noncomputable abbrev x_diptychref2_Reader_is_x : Cx := ⟨Tryd.prog, ⟨id, nf_diptychref2_Reader_is_x, fp_diptychref2_Reader_is_x⟩, an_diptychref2_Reader_is_x⟩
theorem start_diptychref2_Reader_is_x {args : List PV} {es es' : List Ent} {r : PV} (ha : args.length = 2) (hl : es'.length = es.length) (he : (es'.all fun e => e.extOk es.length) = true) (h : awp x_diptychref2_Reader_is_x c_diptychref2_Reader_is_x (bodyR Tryd.prog [.tmp 4] r es') (initSt args es)) : BC Tryd.prog 85 args es r es' :=
  bc_of_awp (X := x_diptychref2_Reader_is_x) mixed Tryd.func85 (c := c_diptychref2_Reader_is_x) (by kernel_rfl) (by kernel_rfl) (rs := [.tmp 4]) (by kernel_rfl) (by kernel_rfl) (by rw [ha]; decide) hl (fun e h => List.all_eq_true.1 he e h) h
noncomputable def c_diptychref2_Reader_eat_x : Code := (Tryd.f87.body).getD .skip
def nf_diptychref2_Reader_eat_x : List (Nat × Nf) := []
def fp_diptychref2_Reader_eat_x : List (Nat × List Nat) := []
def an_diptychref2_Reader_eat_x : Nat → Ann
  | 0 => ⟨[0, 6], [1000], [], [], [1000]⟩
  | 1 => ⟨[], [1000], [], [], [1000]⟩
  | 2 => ⟨[], [1000], [], [], [1000]⟩
  | _ => ⟨[], [], [], [], []⟩
noncomputable abbrev x_diptychref2_Reader_eat_x : Cx := ⟨Tryd.prog, ⟨id, nf_diptychref2_Reader_eat_x, fp_diptychref2_Reader_eat_x⟩, an_diptychref2_Reader_eat_x⟩
theorem start_diptychref2_Reader_eat_x {args : List PV} {es es' : List Ent} {r : PV} (ha : args.length = 2) (hl : es'.length = es.length) (he : (es'.all fun e => e.extOk es.length) = true) (h : awp x_diptychref2_Reader_eat_x c_diptychref2_Reader_eat_x (bodyR Tryd.prog [] r es') (initSt args es)) : BC Tryd.prog 87 args es r es' :=
  bc_of_awp (X := x_diptychref2_Reader_eat_x) mixed Tryd.func87 (c := c_diptychref2_Reader_eat_x) (by kernel_rfl) (by kernel_rfl) (rs := []) (by kernel_rfl) (by kernel_rfl) (by rw [ha]; decide) hl (fun e h => List.all_eq_true.1 he e h) h
noncomputable def c_diptychref2_Reader_quoted_x : Code := (Tryd.f86.body).getD .skip
def nf_diptychref2_Reader_quoted_x : List (Nat × Nf) := []
def fp_diptychref2_Reader_quoted_x : List (Nat × List Nat) := []
def an_diptychref2_Reader_quoted_x : Nat → Ann
  | 0 => ⟨[0], [1000], [], [], [1000]⟩
  | 1 => ⟨[0, 3], [1000], [], [], [1000]⟩
  | 2 => ⟨[0, 3], [1000], [], [], [1000]⟩
  | 3 => ⟨[0, 3, 15], [1000], [], [], [1000]⟩
  | 4 => ⟨[0, 3, 17], [1000], [], [], [1000]⟩
  | 5 => ⟨[0, 3], [1000], [], [], [1000]⟩
  | 6 => ⟨[0, 3, 34], [1000], [], [], [1000]⟩
  | 7 => ⟨[], [1000], [], [], [1000]⟩
  | 8 => ⟨[2], [1000], [], [], [1000]⟩
  | 9 => ⟨[0, 3], [1000], [], [], [1000]⟩
  | 10 => ⟨[0, 3], [1000], [], [], [1000]⟩
  | 11 => ⟨[3], [1000], [], [], [1000]⟩
  | 12 => ⟨[2], [1000], [], [], [1000]⟩
  | _ => ⟨[], [], [], [], []⟩
noncomputable abbrev x_diptychref2_Reader_quoted_x : Cx := ⟨Tryd.prog, ⟨id, nf_diptychref2_Reader_quoted_x, fp_diptychref2_Reader_quoted_x⟩, an_diptychref2_Reader_quoted_x⟩
theorem start_diptychref2_Reader_quoted_x {args : List PV} {es es' : List Ent} {r : PV} (ha : args.length = 1) (hl : es'.length = es.length) (he : (es'.all fun e => e.extOk es.length) = true) (h : awp x_diptychref2_Reader_quoted_x c_diptychref2_Reader_quoted_x (bodyR Tryd.prog [.tmp 2] r es') (initSt args es)) : BC Tryd.prog 86 args es r es' :=
  bc_of_awp (X := x_diptychref2_Reader_quoted_x) mixed Tryd.func86 (c := c_diptychref2_Reader_quoted_x) (by kernel_rfl) (by kernel_rfl) (rs := [.tmp 2]) (by kernel_rfl) (by kernel_rfl) (by rw [ha]; decide) hl (fun e h => List.all_eq_true.1 he e h) h
noncomputable def c_diptychref2_Reader_letters_x : Code := (Tryd.f88.body).getD .skip
def nf_diptychref2_Reader_letters_x : List (Nat × Nf) := []
def fp_diptychref2_Reader_letters_x : List (Nat × List Nat) := []
def an_diptychref2_Reader_letters_x : Nat → Ann
  | 0 => ⟨[0], [1000], [], [], [1000]⟩
  | 1 => ⟨[0, 3], [1000], [], [], [1000]⟩
  | 2 => ⟨[0, 3, 41], [1000], [], [], [1000]⟩
  | 3 => ⟨[0, 3], [1000], [], [], [1000]⟩
  | 4 => ⟨[2], [1000], [], [], [1000]⟩
  | _ => ⟨[], [], [], [], []⟩
noncomputable abbrev x_diptychref2_Reader_letters_x : Cx := ⟨Tryd.prog, ⟨id, nf_diptychref2_Reader_letters_x, fp_diptychref2_Reader_letters_x⟩, an_diptychref2_Reader_letters_x⟩
theorem start_diptychref2_Reader_letters_x {args : List PV} {es es' : List Ent} {r : PV} (ha : args.length = 1) (hl : es'.length = es.length) (he : (es'.all fun e => e.extOk es.length) = true) (h : awp x_diptychref2_Reader_letters_x c_diptychref2_Reader_letters_x (bodyR Tryd.prog [.tmp 2] r es') (initSt args es)) : BC Tryd.prog 88 args es r es' :=
  bc_of_awp (X := x_diptychref2_Reader_letters_x) mixed Tryd.func88 (c := c_diptychref2_Reader_letters_x) (by kernel_rfl) (by kernel_rfl) (rs := [.tmp 2]) (by kernel_rfl) (by kernel_rfl) (by rw [ha]; decide) hl (fun e h => List.all_eq_true.1 he e h) h
noncomputable def c_diptychref2_Reader_nodes_x : Code := (Tryd.f89.body).getD .skip
def nf_diptychref2_Reader_nodes_x : List (Nat × Nf) := []
def fp_diptychref2_Reader_nodes_x : List (Nat × List Nat) := [(7, [1000]), (8, [1000]), (9, [1000]), (13, [1000]), (14, [1000]), (15, [1000]), (17, [1000]), (18, [1000]), (19, [1000]), (25, [1000])]
def an_diptychref2_Reader_nodes_x : Nat → Ann
  | 0 => ⟨[0, 1], [1000], [], [], [1000]⟩
  | 1 => ⟨[0, 1, 5], [5, 1000], [.thaw 5 5 5], [], [5, 1000]⟩
  | 2 => ⟨[0, 1, 5, 27], [5, 1000], [], [], [5, 1000]⟩
  | 3 => ⟨[0, 1, 5], [5, 1000], [], [], [5, 1000]⟩
  | 4 => ⟨[4], [5, 1000], [], [.ren 5 4], [4, 5, 1000]⟩
  | _ => ⟨[], [], [], [], []⟩
noncomputable abbrev x_diptychref2_Reader_nodes_x : Cx := ⟨Tryd.prog, ⟨id, nf_diptychref2_Reader_nodes_x, fp_diptychref2_Reader_nodes_x⟩, an_diptychref2_Reader_nodes_x⟩
theorem start_diptychref2_Reader_nodes_x {args : List PV} {es es' : List Ent} {r : PV} (ha : args.length = 2) (hl : es'.length = es.length) (he : (es'.all fun e => e.extOk es.length) = true) (h : awp x_diptychref2_Reader_nodes_x c_diptychref2_Reader_nodes_x (bodyR Tryd.prog [.tmp 4] r es') (initSt args es)) : BC Tryd.prog 89 args es r es' :=
  bc_of_awp (X := x_diptychref2_Reader_nodes_x) mixed Tryd.func89 (c := c_diptychref2_Reader_nodes_x) (by kernel_rfl) (by kernel_rfl) (rs := [.tmp 4]) (by kernel_rfl) (by kernel_rfl) (by rw [ha]; decide) hl (fun e h => List.all_eq_true.1 he e h) h
noncomputable def c_diptychref2_Reader_node_x : Code := (Tryd.f64.body).getD .skip
def nf_diptychref2_Reader_node_x : List (Nat × Nf) := [(13, [none, none, some 1, some 2, none]), (44, [none, none, some 1, some 2, none]), (87, [none, none, some 1, some 2, none])]
def fp_diptychref2_Reader_node_x : List (Nat × List Nat) := [(24, [5]), (25, [5]), (27, [1000]), (29, [28, 337]), (30, [5]), (35, [5]), (36, [5]), (38, [1000]), (40, [39, 337]), (41, [5]), (67, [5]), (68, [5]), (71, [1000]), (74, [73, 338]), (75, [5])]
def an_diptychref2_Reader_node_x : Nat → Ann
  | 0 => ⟨[0, 1, 4], [4, 1000], [.nrm 4 [none, none, some 1, some 2, some 5]], [], [4, 1000]⟩
  | 1 => ⟨[0, 1, 4, 5], [4, 5, 337, 338, 1000], [.thawV 5 2 337 1, .thawV 5 3 338 2, .nrm 5 [none, none, none, none, some 5]], [], [4, 5, 337, 338, 1000]⟩
  | 2 => ⟨[0, 1, 4, 5, 9], [4, 5, 337, 338, 1000], [], [], [4, 5, 337, 338, 1000]⟩
  | 3 => ⟨[4, 5], [4, 5, 337, 338, 1000], [], [], [4, 5, 337, 338, 1000]⟩
  | 4 => ⟨[4], [4, 1000], [], [], [4, 1000]⟩
  | 5 => ⟨[0, 1, 4, 5, 15], [4, 5, 337, 338, 1000], [], [], [4, 5, 337, 338, 1000]⟩
  | 6 => ⟨[0, 4, 5], [4, 5, 337, 338, 1000], [], [], [4, 5, 337, 338, 1000]⟩
  | 7 => ⟨[0, 4, 5], [4, 5, 337, 338, 1000], [], [], [4, 5, 337, 338, 1000]⟩
  | 8 => ⟨[0, 4, 5, 21], [4, 5, 337, 338, 1000], [], [], [4, 5, 337, 338, 1000]⟩
  | 9 => ⟨[0, 4, 5], [4, 5, 337, 338, 1000], [], [], [4, 5, 337, 338, 1000]⟩
  | 10 => ⟨[0, 4, 5], [4, 5, 337, 338, 1000], [], [], [4, 5, 337, 338, 1000]⟩
  | 11 => ⟨[0, 4, 5, 32], [4, 5, 337, 338, 1000], [], [], [4, 5, 337, 338, 1000]⟩
  | 12 => ⟨[0, 4, 5], [4, 5, 337, 338, 1000], [], [], [4, 5, 337, 338, 1000]⟩
  | 13 => ⟨[0, 4, 5], [4, 5, 337, 338, 1000], [], [], [4, 5, 337, 338, 1000]⟩
  | 14 => ⟨[4, 5], [4, 5, 337, 338, 1000], [], [], [4, 5, 337, 338, 1000]⟩
  | 15 => ⟨[4], [4, 1000], [], [], [4, 1000]⟩
  | 16 => ⟨[0, 1, 4, 5], [4, 5, 337, 338, 1000], [], [], [4, 5, 337, 338, 1000]⟩
  | 17 => ⟨[0, 1, 4, 5, 49], [4, 5, 337, 338, 1000], [], [], [4, 5, 337, 338, 1000]⟩
  | 18 => ⟨[0, 1, 4, 5, 6], [4, 5, 337, 338, 1000], [], [], [4, 5, 337, 338, 1000]⟩
  | 19 => ⟨[0, 1, 4, 5, 6, 59], [4, 5, 337, 338, 1000], [], [], [4, 5, 337, 338, 1000]⟩
  | 20 => ⟨[0, 1, 4, 5], [4, 5, 337, 338, 1000], [], [], [4, 5, 337, 338, 1000]⟩
  | 21 => ⟨[0, 1, 4, 5, 7], [4, 5, 337, 338, 1000], [], [], [4, 5, 337, 338, 1000]⟩
  | 22 => ⟨[0, 1, 4, 5, 7], [4, 5, 337, 338, 1000], [], [], [4, 5, 337, 338, 1000]⟩
  | 23 => ⟨[0, 1, 4, 5], [4, 5, 337, 338, 1000], [], [], [4, 5, 337, 338, 1000]⟩
  | 24 => ⟨[0, 1, 4, 5, 6], [4, 5, 337, 338, 1000], [], [], [4, 5, 337, 338, 1000]⟩
  | 25 => ⟨[0, 1, 4, 5], [4, 5, 337, 338, 1000], [], [], [4, 5, 337, 338, 1000]⟩
  | 26 => ⟨[0, 1, 4, 5], [4, 5, 337, 338, 1000], [], [], [4, 5, 337, 338, 1000]⟩
  | 27 => ⟨[0, 4, 5], [4, 5, 337, 338, 1000], [], [], [4, 5, 337, 338, 1000]⟩
  | 28 => ⟨[4, 5], [4, 5, 337, 338, 1000], [], [], [4, 5, 337, 338, 1000]⟩
  | 29 => ⟨[4], [4, 1000], [], [], [4, 1000]⟩
  | _ => ⟨[], [], [], [], []⟩
noncomputable abbrev x_diptychref2_Reader_node_x : Cx := ⟨Tryd.prog, ⟨id, nf_diptychref2_Reader_node_x, fp_diptychref2_Reader_node_x⟩, an_diptychref2_Reader_node_x⟩
theorem start_diptychref2_Reader_node_x {args : List PV} {es es' : List Ent} {r : PV} (ha : args.length = 2) (hl : es'.length = es.length) (he : (es'.all fun e => e.extOk es.length) = true) (h : awp x_diptychref2_Reader_node_x c_diptychref2_Reader_node_x (bodyR Tryd.prog [.cell 4 26] r es') (initSt args es)) : BC Tryd.prog 64 args es r es' :=
  bc_of_awp (X := x_diptychref2_Reader_node_x) mixed Tryd.func64 (c := c_diptychref2_Reader_node_x) (by kernel_rfl) (by kernel_rfl) (rs := [.cell 4 26]) (by kernel_rfl) (by kernel_rfl) (by rw [ha]; decide) hl (fun e h => List.all_eq_true.1 he e h) h
noncomputable def c_diptychref2_Reader_Node_x : Code := (Tryd.f45.body).getD .skip
def nf_diptychref2_Reader_Node_x : List (Nat × Nf) := []
def fp_diptychref2_Reader_Node_x : List (Nat × List Nat) := []
def an_diptychref2_Reader_Node_x : Nat → Ann
  | 0 => ⟨[0, 2], [2, 1000], [.nrm 2 [none, none, some 1, some 2, some 5]], [], [2, 1000]⟩
  | 1 => ⟨[2], [2, 1000], [], [], [2, 1000]⟩
  | _ => ⟨[], [], [], [], []⟩
noncomputable abbrev x_diptychref2_Reader_Node_x : Cx := ⟨Tryd.prog, ⟨id, nf_diptychref2_Reader_Node_x, fp_diptychref2_Reader_Node_x⟩, an_diptychref2_Reader_Node_x⟩
theorem start_diptychref2_Reader_Node_x {args : List PV} {es es' : List Ent} {r : PV} (ha : args.length = 1) (hl : es'.length = es.length) (he : (es'.all fun e => e.extOk es.length) = true) (h : awp x_diptychref2_Reader_Node_x c_diptychref2_Reader_Node_x (bodyR Tryd.prog [.cell 2 26] r es') (initSt args es)) : BC Tryd.prog 45 args es r es' :=
  bc_of_awp (X := x_diptychref2_Reader_Node_x) mixed Tryd.func45 (c := c_diptychref2_Reader_Node_x) (by kernel_rfl) (by kernel_rfl) (rs := [.cell 2 26]) (by kernel_rfl) (by kernel_rfl) (by rw [ha]; decide) hl (fun e h => List.all_eq_true.1 he e h) h
noncomputable def c_diptychref2_Parse : Code := (Tryd.f23.body).getD .skip
def nf_diptychref2_Parse : List (Nat × Nf) := [(36, [none, none, some 1, some 2, some 5]), (41, [none, none, some 1, some 2, some 5])]
def fp_diptychref2_Parse : List (Nat × List Nat) := []
def an_diptychref2_Parse : Nat → Ann
  | 0 => ⟨[0, 2], [2], [.nrm 2 [none, none, some 1, some 2, some 5]], [], [2]⟩
  | 1 => ⟨[0, 2, 4], [2, 9], [], [], [2, 9]⟩
  | 2 => ⟨[0, 2, 4, 5], [2, 5, 9], [], [], [2, 5, 9]⟩
  | 3 => ⟨[2, 5, 35], [2, 5], [], [], [2, 5]⟩
  | 4 => ⟨[2, 3], [2], [], [], [2]⟩
  | 5 => ⟨[2, 5, 6], [2, 5], [], [], [2, 5]⟩
  | 6 => ⟨[2, 5, 6, 40], [2, 5], [], [], [2, 5]⟩
  | 7 => ⟨[2, 3], [2], [], [], [2]⟩
  | 8 => ⟨[2, 3], [2], [], [], [2]⟩
  | _ => ⟨[], [], [], [], []⟩
noncomputable abbrev x_diptychref2_Parse : Cx := ⟨Tryd.prog, ⟨id, nf_diptychref2_Parse, fp_diptychref2_Parse⟩, an_diptychref2_Parse⟩
theorem start_diptychref2_Parse {args : List PV} {r : PV} (ha : args.length = 1) (h : awp x_diptychref2_Parse c_diptychref2_Parse (bodyR Tryd.prog [.cell 2 26, .tmp 3] r []) (initSt args [])) : PC Tryd.prog 23 args r :=
  pc_of_awp (X := x_diptychref2_Parse) mixed Tryd.func23 (c := c_diptychref2_Parse) (by kernel_rfl) (by kernel_rfl) (rs := [.cell 2 26, .tmp 3]) (by kernel_rfl) (by kernel_rfl) (by rw [ha]; decide) h
noncomputable def c_codec_ParseAll : Code := (Tryd.f24.body).getD .skip
def nf_codec_ParseAll : List (Nat × Nf) := []
def fp_codec_ParseAll : List (Nat × List Nat) := []
def an_codec_ParseAll : Nat → Ann
  | 0 => ⟨[0], [], [], [], []⟩
  | 1 => ⟨[4, 5], [4], [], [], [4]⟩
  | 2 => ⟨[2, 3], [], [], [], []⟩
  | _ => ⟨[], [], [], [], []⟩
noncomputable abbrev x_codec_ParseAll : Cx := ⟨Tryd.prog, ⟨id, nf_codec_ParseAll, fp_codec_ParseAll⟩, an_codec_ParseAll⟩
theorem start_codec_ParseAll {args : List PV} {r : PV} (ha : args.length = 1) (h : awp x_codec_ParseAll c_codec_ParseAll (bodyR Tryd.prog [.tmp 2, .tmp 3] r []) (initSt args [])) : PC Tryd.prog 24 args r :=
  pc_of_awp (X := x_codec_ParseAll) mixed Tryd.func24 (c := c_codec_ParseAll) (by kernel_rfl) (by kernel_rfl) (rs := [.tmp 2, .tmp 3]) (by kernel_rfl) (by kernel_rfl) (by rw [ha]; decide) h
noncomputable def c_diptychref2_ParseAll : Code := (Tryd.f25.body).getD .skip
def nf_diptychref2_ParseAll : List (Nat × Nf) := []
def fp_diptychref2_ParseAll : List (Nat × List Nat) := []
def an_diptychref2_ParseAll : Nat → Ann
  | 0 => ⟨[0], [], [], [], []⟩
  | 1 => ⟨[4, 5], [4], [], [], [4]⟩
  | 2 => ⟨[2, 3], [], [], [], []⟩
  | _ => ⟨[], [], [], [], []⟩
noncomputable abbrev x_diptychref2_ParseAll : Cx := ⟨Tryd.prog, ⟨id, nf_diptychref2_ParseAll, fp_diptychref2_ParseAll⟩, an_diptychref2_ParseAll⟩
theorem start_diptychref2_ParseAll {args : List PV} {r : PV} (ha : args.length = 1) (h : awp x_diptychref2_ParseAll c_diptychref2_ParseAll (bodyR Tryd.prog [.tmp 2, .tmp 3] r []) (initSt args [])) : PC Tryd.prog 25 args r :=
  pc_of_awp (X := x_diptychref2_ParseAll) mixed Tryd.func25 (c := c_diptychref2_ParseAll) (by kernel_rfl) (by kernel_rfl) (rs := [.tmp 2, .tmp 3]) (by kernel_rfl) (by kernel_rfl) (by rw [ha]; decide) h
noncomputable def c_diptychref1_SameAll : Code := (Tryd.f27.body).getD .skip
def nf_diptychref1_SameAll : List (Nat × Nf) := []
def fp_diptychref1_SameAll : List (Nat × List Nat) := []
def an_diptychref1_SameAll : Nat → Ann
  | 0 => ⟨[0, 1], [], [], [], []⟩
  | 1 => ⟨[0, 1, 10], [], [], [], []⟩
  | 2 => ⟨[4], [], [], [], []⟩
  | 3 => ⟨[0, 1, 5], [], [], [], []⟩
  | 4 => ⟨[0, 1, 5, 14], [], [], [], []⟩
  | 5 => ⟨[0, 1, 5], [], [], [], []⟩
  | 6 => ⟨[0, 1, 5, 26], [], [], [], []⟩
  | 7 => ⟨[4], [], [], [], []⟩
  | 8 => ⟨[4], [], [], [], []⟩
  | _ => ⟨[], [], [], [], []⟩
noncomputable abbrev x_diptychref1_SameAll : Cx := ⟨Tryd.prog, ⟨id, nf_diptychref1_SameAll, fp_diptychref1_SameAll⟩, an_diptychref1_SameAll⟩
theorem start_diptychref1_SameAll {args : List PV} {r : PV} (ha : args.length = 2) (h : awp x_diptychref1_SameAll c_diptychref1_SameAll (bodyR Tryd.prog [.tmp 4] r []) (initSt args [])) : PC Tryd.prog 27 args r :=
  pc_of_awp (X := x_diptychref1_SameAll) mixed Tryd.func27 (c := c_diptychref1_SameAll) (by kernel_rfl) (by kernel_rfl) (rs := [.tmp 4]) (by kernel_rfl) (by kernel_rfl) (by rw [ha]; decide) h
noncomputable def c_diptychref1_Same : Code := (Tryd.f26.body).getD .skip
def nf_diptychref1_Same : List (Nat × Nf) := []
def fp_diptychref1_Same : List (Nat × List Nat) := []
def an_diptychref1_Same : Nat → Ann
  | 0 => ⟨[2, 3], [2, 3], [], [], [2, 3]⟩
  | 1 => ⟨[2, 3, 34], [2, 3], [], [], [2, 3]⟩
  | 2 => ⟨[4], [], [], [], []⟩
  | 3 => ⟨[2, 3, 5], [2, 3], [], [], [2, 3]⟩
  | 4 => ⟨[2, 3, 5, 39], [2, 3], [], [], [2, 3]⟩
  | 5 => ⟨[2, 3, 5], [2, 3], [], [], [2, 3]⟩
  | 6 => ⟨[2, 3, 5, 52], [2, 3], [], [], [2, 3]⟩
  | 7 => ⟨[4], [], [], [], []⟩
  | 8 => ⟨[4], [], [], [], []⟩
  | _ => ⟨[], [], [], [], []⟩
noncomputable abbrev x_diptychref1_Same : Cx := ⟨Tryd.prog, ⟨id, nf_diptychref1_Same, fp_diptychref1_Same⟩, an_diptychref1_Same⟩
theorem start_diptychref1_Same {args : List PV} {r : PV} (ha : args.length = 2) (h : awp x_diptychref1_Same c_diptychref1_Same (bodyR Tryd.prog [.tmp 4] r []) (initSt args [])) : PC Tryd.prog 26 args r :=
  pc_of_awp (X := x_diptychref1_Same) mixed Tryd.func26 (c := c_diptychref1_Same) (by kernel_rfl) (by kernel_rfl) (rs := [.tmp 4]) (by kernel_rfl) (by kernel_rfl) (by rw [ha]; decide) h
noncomputable def c_diptychlaw2_CodecParses : Code := (Tryd.f5.body).getD .skip
def nf_diptychlaw2_CodecParses : List (Nat × Nf) := []
def fp_diptychlaw2_CodecParses : List (Nat × List Nat) := []
def an_diptychlaw2_CodecParses : Nat → Ann
  | 0 => ⟨[0], [], [], [], []⟩
  | 1 => ⟨[0, 3], [], [], [], []⟩
  | 2 => ⟨[0, 3, 19], [], [], [], []⟩
  | 3 => ⟨[2], [], [], [], []⟩
  | 4 => ⟨[0, 4, 5], [4], [], [], [4]⟩
  | 5 => ⟨[0, 4, 5, 6, 7], [4, 6], [], [], [4, 6]⟩
  | 6 => ⟨[0, 4, 5, 6, 7, 8, 9], [4, 6], [], [], [4, 6]⟩
  | 7 => ⟨[4, 5, 6, 7, 8, 9, 10, 11], [4, 6], [], [], [4, 6]⟩
  | 8 => ⟨[2], [], [], [], []⟩
  | _ => ⟨[], [], [], [], []⟩
noncomputable abbrev x_diptychlaw2_CodecParses : Cx := ⟨Tryd.prog, ⟨id, nf_diptychlaw2_CodecParses, fp_diptychlaw2_CodecParses⟩, an_diptychlaw2_CodecParses⟩
theorem start_diptychlaw2_CodecParses {args : List PV} {r : PV} (ha : args.length = 1) (h : awp x_diptychlaw2_CodecParses c_diptychlaw2_CodecParses (bodyR Tryd.prog [.tmp 2] r []) (initSt args [])) : PC Tryd.prog 5 args r :=
  pc_of_awp (X := x_diptychlaw2_CodecParses) mixed Tryd.func5 (c := c_diptychlaw2_CodecParses) (by kernel_rfl) (by kernel_rfl) (rs := [.tmp 2]) (by kernel_rfl) (by kernel_rfl) (by rw [ha]; decide) h
attribute [go_sem] an_node_isText nf_node_isText fp_node_isText an_node_Depth nf_node_Depth fp_node_Depth an_node_Value nf_node_Value fp_node_Value an_node_Name nf_node_Name fp_node_Name an_node_rise nf_node_rise fp_node_rise an_slices_Equal_string nf_slices_Equal_string fp_slices_Equal_string an_node_alike nf_node_alike fp_node_alike an_node_formed nf_node_formed fp_node_formed an_unicode_utf8_RuneCountInString nf_unicode_utf8_RuneCountInString fp_unicode_utf8_RuneCountInString an_node_Total nf_node_Total fp_node_Total an_node_Size nf_node_Size fp_node_Size an_node_Check nf_node_Check fp_node_Check an_codec_Quote nf_codec_Quote fp_codec_Quote an_codec_Head nf_codec_Head fp_codec_Head an_strings_Builder_WriteString_x nf_strings_Builder_WriteString_x fp_strings_Builder_WriteString_x an_codec_write_x nf_codec_write_x fp_codec_write_x an_codec_Print nf_codec_Print fp_codec_Print an_diptychlaw2_shown nf_diptychlaw2_shown fp_diptychlaw2_shown an_internal_stringslite_HasPrefix nf_internal_stringslite_HasPrefix fp_internal_stringslite_HasPrefix an_strings_HasPrefix nf_strings_HasPrefix fp_strings_HasPrefix an_codec_reader_name_x nf_codec_reader_name_x fp_codec_reader_name_x an_internal_stringslite_CutPrefix nf_internal_stringslite_CutPrefix fp_internal_stringslite_CutPrefix an_strings_CutPrefix nf_strings_CutPrefix fp_strings_CutPrefix an_codec_reader_takes_x nf_codec_reader_takes_x fp_codec_reader_takes_x an_codec_reader_want_x nf_codec_reader_want_x fp_codec_reader_want_x an_codec_reader_quoted_x nf_codec_reader_quoted_x fp_codec_reader_quoted_x an_codec_reader_text_x nf_codec_reader_text_x fp_codec_reader_text_x an_codec_reader_node_x nf_codec_reader_node_x fp_codec_reader_node_x an_codec_Parse nf_codec_Parse fp_codec_Parse an_diptychref1_sameNames nf_diptychref1_sameNames fp_diptychref1_sameNames an_diptychref1_runes nf_diptychref1_runes fp_diptychref1_runes an_diptychref1_formed nf_diptychref1_formed fp_diptychref1_formed an_diptychref1_Name nf_diptychref1_Name fp_diptychref1_Name an_diptychref1_rise nf_diptychref1_rise fp_diptychref1_rise an_diptychref1_Value nf_diptychref1_Value fp_diptychref1_Value an_diptychref1_Formed nf_diptychref1_Formed fp_diptychref1_Formed an_diptychref1_Depth nf_diptychref1_Depth fp_diptychref1_Depth an_diptychref1_Total nf_diptychref1_Total fp_diptychref1_Total an_diptychref1_Size nf_diptychref1_Size fp_diptychref1_Size an_diptychref1_Check nf_diptychref1_Check fp_diptychref1_Check an_diptychref2_Quote nf_diptychref2_Quote fp_diptychref2_Quote an_diptychref2_Head nf_diptychref2_Head fp_diptychref2_Head an_diptychref2_WriteAll nf_diptychref2_WriteAll fp_diptychref2_WriteAll an_diptychref2_Write nf_diptychref2_Write fp_diptychref2_Write an_diptychref2_Reader_is_x nf_diptychref2_Reader_is_x fp_diptychref2_Reader_is_x an_diptychref2_Reader_eat_x nf_diptychref2_Reader_eat_x fp_diptychref2_Reader_eat_x an_diptychref2_Reader_quoted_x nf_diptychref2_Reader_quoted_x fp_diptychref2_Reader_quoted_x an_diptychref2_Reader_letters_x nf_diptychref2_Reader_letters_x fp_diptychref2_Reader_letters_x an_diptychref2_Reader_nodes_x nf_diptychref2_Reader_nodes_x fp_diptychref2_Reader_nodes_x an_diptychref2_Reader_node_x nf_diptychref2_Reader_node_x fp_diptychref2_Reader_node_x an_diptychref2_Reader_Node_x nf_diptychref2_Reader_Node_x fp_diptychref2_Reader_Node_x an_diptychref2_Parse nf_diptychref2_Parse fp_diptychref2_Parse an_codec_ParseAll nf_codec_ParseAll fp_codec_ParseAll an_diptychref2_ParseAll nf_diptychref2_ParseAll fp_diptychref2_ParseAll an_diptychref1_SameAll nf_diptychref1_SameAll fp_diptychref1_SameAll an_diptychref1_Same nf_diptychref1_Same fp_diptychref1_Same an_diptychlaw2_CodecParses nf_diptychlaw2_CodecParses fp_diptychlaw2_CodecParses ty3 ty4 ty5 ty9 ty21 ty22 ty23 ty24 ty26 ty29 ty48 ty49 ty56 ty57 ty59 ty71 ty75 api_Attr.pv_eq api_Node.pv_eq codec_reader.pv_eq diptychref2_Reader.pv_eq pvL

end Go.Proofs.YtihndopckmdpbaaDoor
