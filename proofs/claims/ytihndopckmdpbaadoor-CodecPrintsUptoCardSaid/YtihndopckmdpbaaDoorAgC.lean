/- Code, and what is kept. -/
import Derived.Test.YtihndopckmdpbaaDoorAgT
import Derived.Test.YtihndopckmdpbaaDoorAwT
namespace Go.Proofs.YtihndopckmdpbaaDoor
set_option linter.unusedSimpArgs false
set_option linter.unusedVariables false
open Go
set_option maxRecDepth 100000

noncomputable def c_node_isText : Code := (Tryd.f49.body).getD .skip
def nf_node_isText : List (Nat × Nf) := []
def fp_node_isText : List (Nat × List Nat) := []
def an_node_isText : Nat → Ann
  | 0 => ⟨[1], [1], [], [], [1]⟩
  | 1 => ⟨[2], [], [], [], []⟩
  | _ => ⟨[], [], [], [], []⟩
noncomputable abbrev x_node_isText : Cx := ⟨Tryd.prog, ⟨id, nf_node_isText, fp_node_isText⟩, an_node_isText⟩
theorem start_node_isText {args : List PV} {r : PV} (ha : args.length = 1) (h : awp x_node_isText c_node_isText (bodyR Tryd.prog [.tmp 2] r []) (initSt args [])) : PC Tryd.prog 49 args r :=
  pc_of_awp (X := x_node_isText) mixed Tryd.func49 (c := c_node_isText) (by kernel_rfl) (by kernel_rfl) (rs := [.tmp 2]) (by kernel_rfl) (by kernel_rfl) (by rw [ha]; decide) h
noncomputable def c_node_Depth : Code := (Tryd.f30.body).getD .skip
def nf_node_Depth : List (Nat × Nf) := []
def fp_node_Depth : List (Nat × List Nat) := []
def an_node_Depth : Nat → Ann
  | 0 => ⟨[1], [1], [], [], [1]⟩
  | 1 => ⟨[1, 7], [1], [], [], [1]⟩
  | 2 => ⟨[2], [], [], [], []⟩
  | 3 => ⟨[1, 3], [1], [], [], [1]⟩
  | 4 => ⟨[3, 9, 10, 11], [], [], [], []⟩
  | 5 => ⟨[3, 9, 10, 11, 12], [], [], [], []⟩
  | 6 => ⟨[3, 5, 9, 10, 11], [5], [], [], [5]⟩
  | 7 => ⟨[3, 9, 10, 11], [], [], [], []⟩
  | 8 => ⟨[3, 9, 10, 11], [], [], [], []⟩
  | 9 => ⟨[2], [], [], [], []⟩
  | _ => ⟨[], [], [], [], []⟩
noncomputable abbrev x_node_Depth : Cx := ⟨Tryd.prog, ⟨id, nf_node_Depth, fp_node_Depth⟩, an_node_Depth⟩
theorem start_node_Depth {args : List PV} {r : PV} (ha : args.length = 1) (h : awp x_node_Depth c_node_Depth (bodyR Tryd.prog [.tmp 2] r []) (initSt args [])) : PC Tryd.prog 30 args r :=
  pc_of_awp (X := x_node_Depth) mixed Tryd.func30 (c := c_node_Depth) (by kernel_rfl) (by kernel_rfl) (rs := [.tmp 2]) (by kernel_rfl) (by kernel_rfl) (by rw [ha]; decide) h
noncomputable def c_node_Value : Code := (Tryd.f28.body).getD .skip
def nf_node_Value : List (Nat × Nf) := []
def fp_node_Value : List (Nat × List Nat) := []
def an_node_Value : Nat → Ann
  | 0 => ⟨[0], [], [], [], []⟩
  | 1 => ⟨[2], [], [], [], []⟩
  | _ => ⟨[], [], [], [], []⟩
noncomputable abbrev x_node_Value : Cx := ⟨Tryd.prog, ⟨id, nf_node_Value, fp_node_Value⟩, an_node_Value⟩
theorem start_node_Value {args : List PV} {r : PV} (ha : args.length = 1) (h : awp x_node_Value c_node_Value (bodyR Tryd.prog [.tmp 2] r []) (initSt args [])) : PC Tryd.prog 28 args r :=
  pc_of_awp (X := x_node_Value) mixed Tryd.func28 (c := c_node_Value) (by kernel_rfl) (by kernel_rfl) (rs := [.tmp 2]) (by kernel_rfl) (by kernel_rfl) (by rw [ha]; decide) h
noncomputable def c_node_Name : Code := (Tryd.f71.body).getD .skip
def nf_node_Name : List (Nat × Nf) := []
def fp_node_Name : List (Nat × List Nat) := []
def an_node_Name : Nat → Ann
  | 0 => ⟨[0], [], [], [], []⟩
  | 1 => ⟨[0, 3], [], [], [], []⟩
  | 2 => ⟨[2], [], [], [], []⟩
  | _ => ⟨[], [], [], [], []⟩
noncomputable abbrev x_node_Name : Cx := ⟨Tryd.prog, ⟨id, nf_node_Name, fp_node_Name⟩, an_node_Name⟩
theorem start_node_Name {args : List PV} {r : PV} (ha : args.length = 1) (h : awp x_node_Name c_node_Name (bodyR Tryd.prog [.tmp 2] r []) (initSt args [])) : PC Tryd.prog 71 args r :=
  pc_of_awp (X := x_node_Name) mixed Tryd.func71 (c := c_node_Name) (by kernel_rfl) (by kernel_rfl) (rs := [.tmp 2]) (by kernel_rfl) (by kernel_rfl) (by rw [ha]; decide) h
noncomputable def c_node_rise : Code := (Tryd.f70.body).getD .skip
def nf_node_rise : List (Nat × Nf) := []
def fp_node_rise : List (Nat × List Nat) := []
def an_node_rise : Nat → Ann
  | 0 => ⟨[0], [], [], [], []⟩
  | 1 => ⟨[0, 5, 6, 7], [], [], [], []⟩
  | 2 => ⟨[0, 5, 6, 7, 8], [], [], [], []⟩
  | 3 => ⟨[0, 3, 4, 5, 6, 7], [], [], [], []⟩
  | 4 => ⟨[0, 5, 6, 7, 27], [], [], [], []⟩
  | 5 => ⟨[2], [], [], [], []⟩
  | 6 => ⟨[0, 5, 6, 7], [], [], [], []⟩
  | 7 => ⟨[2], [], [], [], []⟩
  | _ => ⟨[], [], [], [], []⟩
noncomputable abbrev x_node_rise : Cx := ⟨Tryd.prog, ⟨id, nf_node_rise, fp_node_rise⟩, an_node_rise⟩
theorem start_node_rise {args : List PV} {r : PV} (ha : args.length = 1) (h : awp x_node_rise c_node_rise (bodyR Tryd.prog [.tmp 2] r []) (initSt args [])) : PC Tryd.prog 70 args r :=
  pc_of_awp (X := x_node_rise) mixed Tryd.func70 (c := c_node_rise) (by kernel_rfl) (by kernel_rfl) (rs := [.tmp 2]) (by kernel_rfl) (by kernel_rfl) (by rw [ha]; decide) h
noncomputable def c_slices_Equal_string : Code := (Tryd.f41.body).getD .skip
def nf_slices_Equal_string : List (Nat × Nf) := []
def fp_slices_Equal_string : List (Nat × List Nat) := []
def an_slices_Equal_string : Nat → Ann
  | 0 => ⟨[0, 1], [], [], [], []⟩
  | 1 => ⟨[0, 1, 10], [], [], [], []⟩
  | 2 => ⟨[4], [], [], [], []⟩
  | 3 => ⟨[0, 1, 12, 13], [], [], [], []⟩
  | 4 => ⟨[0, 1, 12, 13, 14], [], [], [], []⟩
  | 5 => ⟨[0, 1, 5, 12, 13], [], [], [], []⟩
  | 6 => ⟨[0, 1, 12, 13, 24], [], [], [], []⟩
  | 7 => ⟨[4], [], [], [], []⟩
  | 8 => ⟨[0, 1, 12, 13], [], [], [], []⟩
  | 9 => ⟨[4], [], [], [], []⟩
  | _ => ⟨[], [], [], [], []⟩
noncomputable abbrev x_slices_Equal_string : Cx := ⟨Tryd.prog, ⟨id, nf_slices_Equal_string, fp_slices_Equal_string⟩, an_slices_Equal_string⟩
theorem start_slices_Equal_string {args : List PV} {r : PV} (ha : args.length = 2) (h : awp x_slices_Equal_string c_slices_Equal_string (bodyR Tryd.prog [.tmp 4] r []) (initSt args [])) : PC Tryd.prog 41 args r :=
  pc_of_awp (X := x_slices_Equal_string) mixed Tryd.func41 (c := c_slices_Equal_string) (by kernel_rfl) (by kernel_rfl) (rs := [.tmp 4]) (by kernel_rfl) (by kernel_rfl) (by rw [ha]; decide) h
noncomputable def c_node_alike : Code := (Tryd.f72.body).getD .skip
def nf_node_alike : List (Nat × Nf) := []
def fp_node_alike : List (Nat × List Nat) := []
def an_node_alike : Nat → Ann
  | 0 => ⟨[2, 3], [2, 3], [], [], [2, 3]⟩
  | 1 => ⟨[4], [], [], [], []⟩
  | _ => ⟨[], [], [], [], []⟩
noncomputable abbrev x_node_alike : Cx := ⟨Tryd.prog, ⟨id, nf_node_alike, fp_node_alike⟩, an_node_alike⟩
theorem start_node_alike {args : List PV} {r : PV} (ha : args.length = 2) (h : awp x_node_alike c_node_alike (bodyR Tryd.prog [.tmp 4] r []) (initSt args [])) : PC Tryd.prog 72 args r :=
  pc_of_awp (X := x_node_alike) mixed Tryd.func72 (c := c_node_alike) (by kernel_rfl) (by kernel_rfl) (rs := [.tmp 4]) (by kernel_rfl) (by kernel_rfl) (by rw [ha]; decide) h
noncomputable def c_node_formed : Code := (Tryd.f50.body).getD .skip
def nf_node_formed : List (Nat × Nf) := []
def fp_node_formed : List (Nat × List Nat) := []
def an_node_formed : Nat → Ann
  | 0 => ⟨[1], [1], [], [], [1]⟩
  | 1 => ⟨[1, 9], [1], [], [], [1]⟩
  | 2 => ⟨[2], [], [], [], []⟩
  | 3 => ⟨[1, 3], [1, 3], [.thaw 3 3 1], [], [1, 3]⟩
  | 4 => ⟨[1, 3, 34, 35, 36], [1, 3], [], [], [1, 3]⟩
  | 5 => ⟨[1, 3, 34, 35, 36, 37], [1, 3], [], [], [1, 3]⟩
  | 6 => ⟨[1, 3, 5, 34, 35, 36], [1, 3, 5], [], [], [1, 3, 5]⟩
  | 7 => ⟨[1, 3, 5, 34, 35, 36, 43], [1, 3, 5], [], [], [1, 3, 5]⟩
  | 8 => ⟨[2], [], [], [], []⟩
  | 9 => ⟨[1, 3, 34, 35, 36], [1, 3], [], [], [1, 3]⟩
  | 10 => ⟨[1, 3, 34, 35, 36], [1, 3], [], [], [1, 3]⟩
  | 11 => ⟨[1, 69], [1], [], [], [1]⟩
  | 12 => ⟨[2], [], [], [], []⟩
  | 13 => ⟨[1, 71, 72, 73], [1], [], [], [1]⟩
  | 14 => ⟨[1, 71, 72, 73, 74], [1], [], [], [1]⟩
  | 15 => ⟨[1, 6, 7, 71, 72, 73], [1, 7], [], [], [1, 7]⟩
  | 16 => ⟨[1, 71, 72, 73, 94], [1], [], [], [1]⟩
  | 17 => ⟨[2], [], [], [], []⟩
  | 18 => ⟨[1, 71, 72, 73], [1], [], [], [1]⟩
  | 19 => ⟨[2], [], [], [], []⟩
  | _ => ⟨[], [], [], [], []⟩
noncomputable abbrev x_node_formed : Cx := ⟨Tryd.prog, ⟨id, nf_node_formed, fp_node_formed⟩, an_node_formed⟩
theorem start_node_formed {args : List PV} {r : PV} (ha : args.length = 1) (h : awp x_node_formed c_node_formed (bodyR Tryd.prog [.tmp 2] r []) (initSt args [])) : PC Tryd.prog 50 args r :=
  pc_of_awp (X := x_node_formed) mixed Tryd.func50 (c := c_node_formed) (by kernel_rfl) (by kernel_rfl) (rs := [.tmp 2]) (by kernel_rfl) (by kernel_rfl) (by rw [ha]; decide) h
noncomputable def c_unicode_utf8_RuneCountInString : Code := (Tryd.f73.body).getD .skip
def nf_unicode_utf8_RuneCountInString : List (Nat × Nf) := []
def fp_unicode_utf8_RuneCountInString : List (Nat × List Nat) := []
def an_unicode_utf8_RuneCountInString : Nat → Ann
  | 0 => ⟨[0, 2], [], [], [], []⟩
  | 1 => ⟨[2, 4], [4], [], [], [4]⟩
  | 2 => ⟨[2, 4, 6], [4], [], [], [4]⟩
  | 3 => ⟨[2, 4], [4], [], [], [4]⟩
  | 4 => ⟨[2], [], [], [], []⟩
  | _ => ⟨[], [], [], [], []⟩
noncomputable abbrev x_unicode_utf8_RuneCountInString : Cx := ⟨Tryd.prog, ⟨id, nf_unicode_utf8_RuneCountInString, fp_unicode_utf8_RuneCountInString⟩, an_unicode_utf8_RuneCountInString⟩
theorem start_unicode_utf8_RuneCountInString {args : List PV} {r : PV} (ha : args.length = 1) (h : awp x_unicode_utf8_RuneCountInString c_unicode_utf8_RuneCountInString (bodyR Tryd.prog [.tmp 2] r []) (initSt args [])) : PC Tryd.prog 73 args r :=
  pc_of_awp (X := x_unicode_utf8_RuneCountInString) mixed Tryd.func73 (c := c_unicode_utf8_RuneCountInString) (by kernel_rfl) (by kernel_rfl) (rs := [.tmp 2]) (by kernel_rfl) (by kernel_rfl) (by rw [ha]; decide) h
noncomputable def c_node_Total : Code := (Tryd.f74.body).getD .skip
def nf_node_Total : List (Nat × Nf) := []
def fp_node_Total : List (Nat × List Nat) := []
def an_node_Total : Nat → Ann
  | 0 => ⟨[0], [], [], [], []⟩
  | 1 => ⟨[0, 3], [], [], [], []⟩
  | 2 => ⟨[3, 6, 7, 8], [], [], [], []⟩
  | 3 => ⟨[3, 6, 7, 8, 9], [], [], [], []⟩
  | 4 => ⟨[3, 5, 6, 7, 8], [5], [], [], [5]⟩
  | 5 => ⟨[3, 6, 7, 8], [], [], [], []⟩
  | 6 => ⟨[3, 6, 7, 8], [], [], [], []⟩
  | 7 => ⟨[2], [], [], [], []⟩
  | _ => ⟨[], [], [], [], []⟩
noncomputable abbrev x_node_Total : Cx := ⟨Tryd.prog, ⟨id, nf_node_Total, fp_node_Total⟩, an_node_Total⟩
theorem start_node_Total {args : List PV} {r : PV} (ha : args.length = 1) (h : awp x_node_Total c_node_Total (bodyR Tryd.prog [.tmp 2] r []) (initSt args [])) : PC Tryd.prog 74 args r :=
  pc_of_awp (X := x_node_Total) mixed Tryd.func74 (c := c_node_Total) (by kernel_rfl) (by kernel_rfl) (rs := [.tmp 2]) (by kernel_rfl) (by kernel_rfl) (by rw [ha]; decide) h
noncomputable def c_node_Size : Code := (Tryd.f51.body).getD .skip
def nf_node_Size : List (Nat × Nf) := []
def fp_node_Size : List (Nat × List Nat) := []
def an_node_Size : Nat → Ann
  | 0 => ⟨[1], [1], [], [], [1]⟩
  | 1 => ⟨[1, 4], [1], [], [], [1]⟩
  | 2 => ⟨[2], [], [], [], []⟩
  | 3 => ⟨[2], [], [], [], []⟩
  | _ => ⟨[], [], [], [], []⟩
noncomputable abbrev x_node_Size : Cx := ⟨Tryd.prog, ⟨id, nf_node_Size, fp_node_Size⟩, an_node_Size⟩
theorem start_node_Size {args : List PV} {r : PV} (ha : args.length = 1) (h : awp x_node_Size c_node_Size (bodyR Tryd.prog [.tmp 2] r []) (initSt args [])) : PC Tryd.prog 51 args r :=
  pc_of_awp (X := x_node_Size) mixed Tryd.func51 (c := c_node_Size) (by kernel_rfl) (by kernel_rfl) (rs := [.tmp 2]) (by kernel_rfl) (by kernel_rfl) (by rw [ha]; decide) h
noncomputable def c_node_Check : Code := (Tryd.f32.body).getD .skip
def nf_node_Check : List (Nat × Nf) := []
def fp_node_Check : List (Nat × List Nat) := []
def an_node_Check : Nat → Ann
  | 0 => ⟨[1], [1], [], [], [1]⟩
  | 1 => ⟨[1, 3], [1], [], [], [1]⟩
  | 2 => ⟨[2], [], [], [], []⟩
  | 3 => ⟨[1, 7], [1], [], [], [1]⟩
  | 4 => ⟨[2], [], [], [], []⟩
  | 5 => ⟨[11], [], [], [], []⟩
  | 6 => ⟨[2], [], [], [], []⟩
  | 7 => ⟨[2], [], [], [], []⟩
  | _ => ⟨[], [], [], [], []⟩
noncomputable abbrev x_node_Check : Cx := ⟨Tryd.prog, ⟨id, nf_node_Check, fp_node_Check⟩, an_node_Check⟩
theorem start_node_Check {args : List PV} {r : PV} (ha : args.length = 1) (h : awp x_node_Check c_node_Check (bodyR Tryd.prog [.tmp 2] r []) (initSt args [])) : PC Tryd.prog 32 args r :=
  pc_of_awp (X := x_node_Check) mixed Tryd.func32 (c := c_node_Check) (by kernel_rfl) (by kernel_rfl) (rs := [.tmp 2]) (by kernel_rfl) (by kernel_rfl) (by rw [ha]; decide) h
noncomputable def c_codec_Quote : Code := (Tryd.f16.body).getD .skip
def nf_codec_Quote : List (Nat × Nf) := []
def fp_codec_Quote : List (Nat × List Nat) := []
def an_codec_Quote : Nat → Ann
  | 0 => ⟨[0], [], [], [], []⟩
  | 1 => ⟨[0], [], [], [], []⟩
  | 2 => ⟨[2], [], [], [], []⟩
  | _ => ⟨[], [], [], [], []⟩
noncomputable abbrev x_codec_Quote : Cx := ⟨Tryd.prog, ⟨id, nf_codec_Quote, fp_codec_Quote⟩, an_codec_Quote⟩
theorem start_codec_Quote {args : List PV} {r : PV} (ha : args.length = 1) (h : awp x_codec_Quote c_codec_Quote (bodyR Tryd.prog [.tmp 2] r []) (initSt args [])) : PC Tryd.prog 16 args r :=
  pc_of_awp (X := x_codec_Quote) mixed Tryd.func16 (c := c_codec_Quote) (by kernel_rfl) (by kernel_rfl) (rs := [.tmp 2]) (by kernel_rfl) (by kernel_rfl) (by rw [ha]; decide) h
noncomputable def c_codec_Head : Code := (Tryd.f18.body).getD .skip
def nf_codec_Head : List (Nat × Nf) := []
def fp_codec_Head : List (Nat × List Nat) := [(32, [5]), (33, [5]), (35, [5]), (36, [5]), (40, [3, 39])]
def an_codec_Head : Nat → Ann
  | 0 => ⟨[1], [1], [], [], [1]⟩
  | 1 => ⟨[1, 8], [1], [], [], [1]⟩
  | 2 => ⟨[1, 12], [1], [], [], [1]⟩
  | 3 => ⟨[2], [], [], [], []⟩
  | 4 => ⟨[2], [], [], [], []⟩
  | 5 => ⟨[1, 21], [1], [], [], [1]⟩
  | 6 => ⟨[2], [], [], [], []⟩
  | 7 => ⟨[1, 3], [1, 3], [.thaw 3 3 1], [], [1, 3]⟩
  | 8 => ⟨[1, 3, 25, 26, 27], [1, 3], [], [], [1, 3]⟩
  | 9 => ⟨[1, 3, 25, 26, 27, 28], [1, 3], [], [], [1, 3]⟩
  | 10 => ⟨[1, 3, 5, 25, 26, 27], [1, 3, 5], [], [], [1, 3, 5]⟩
  | 11 => ⟨[1, 3, 25, 26, 27], [1, 3], [], [], [1, 3]⟩
  | 12 => ⟨[1, 3, 25, 26, 27], [1, 3], [], [], [1, 3]⟩
  | 13 => ⟨[2], [], [], [], []⟩
  | _ => ⟨[], [], [], [], []⟩
noncomputable abbrev x_codec_Head : Cx := ⟨Tryd.prog, ⟨id, nf_codec_Head, fp_codec_Head⟩, an_codec_Head⟩
theorem start_codec_Head {args : List PV} {r : PV} (ha : args.length = 1) (h : awp x_codec_Head c_codec_Head (bodyR Tryd.prog [.tmp 2] r []) (initSt args [])) : PC Tryd.prog 18 args r :=
  pc_of_awp (X := x_codec_Head) mixed Tryd.func18 (c := c_codec_Head) (by kernel_rfl) (by kernel_rfl) (rs := [.tmp 2]) (by kernel_rfl) (by kernel_rfl) (by rw [ha]; decide) h
noncomputable def c_strings_Builder_WriteString_x : Code := (Tryd.f52.body).getD .skip
def nf_strings_Builder_WriteString_x : List (Nat × Nf) := []
def fp_strings_Builder_WriteString_x : List (Nat × List Nat) := []
def an_strings_Builder_WriteString_x : Nat → Ann
  | 0 => ⟨[0, 1], [1000, 1001], [], [], [1000, 1001]⟩
  | 1 => ⟨[0, 1], [1000, 1001], [], [], [1000, 1001]⟩
  | 2 => ⟨[1], [1000, 1001], [], [], [1000, 1001]⟩
  | 3 => ⟨[4, 5], [1000, 1001], [], [], [1000, 1001]⟩
  | _ => ⟨[], [], [], [], []⟩
noncomputable abbrev x_strings_Builder_WriteString_x : Cx := ⟨Tryd.prog, ⟨id, nf_strings_Builder_WriteString_x, fp_strings_Builder_WriteString_x⟩, an_strings_Builder_WriteString_x⟩
theorem start_strings_Builder_WriteString_x {args : List PV} {es es' : List Ent} {r : PV} (ha : args.length = 2) (hl : es'.length = es.length) (he : (es'.all fun e => e.extOk es.length) = true) (h : awp x_strings_Builder_WriteString_x c_strings_Builder_WriteString_x (bodyR Tryd.prog [.tmp 4, .tmp 5] r es') (initSt args es)) : BC Tryd.prog 52 args es r es' :=
  bc_of_awp (X := x_strings_Builder_WriteString_x) mixed Tryd.func52 (c := c_strings_Builder_WriteString_x) (by kernel_rfl) (by kernel_rfl) (rs := [.tmp 4, .tmp 5]) (by kernel_rfl) (by kernel_rfl) (by rw [ha]; decide) hl (fun e h => List.all_eq_true.1 he e h) h
noncomputable def c_codec_write_x : Code := (Tryd.f33.body).getD .skip
def nf_codec_write_x : List (Nat × Nf) := []
def fp_codec_write_x : List (Nat × List Nat) := [(10, [3]), (11, [3]), (13, [3]), (16, [1000, 1001])]
def an_codec_write_x : Nat → Ann
  | 0 => ⟨[0, 3], [3, 1000, 1001], [], [], [3, 1000, 1001]⟩
  | 1 => ⟨[0, 3, 8], [3, 1000, 1001], [], [], [3, 1000, 1001]⟩
  | 2 => ⟨[], [1000, 1001], [], [], [1000, 1001]⟩
  | 3 => ⟨[0, 3], [3, 1000, 1001], [], [], [3, 1000, 1001]⟩
  | 4 => ⟨[0, 23, 24, 25], [1000, 1001], [], [], [1000, 1001]⟩
  | 5 => ⟨[0, 23, 24, 25, 26], [1000, 1001], [], [], [1000, 1001]⟩
  | 6 => ⟨[0, 5, 23, 24, 25], [5, 1000, 1001], [], [], [5, 1000, 1001]⟩
  | 7 => ⟨[0, 23, 24, 25], [1000, 1001], [], [], [1000, 1001]⟩
  | 8 => ⟨[0, 23, 24, 25], [1000, 1001], [], [], [1000, 1001]⟩
  | 9 => ⟨[], [1000, 1001], [], [], [1000, 1001]⟩
  | _ => ⟨[], [], [], [], []⟩
noncomputable abbrev x_codec_write_x : Cx := ⟨Tryd.prog, ⟨id, nf_codec_write_x, fp_codec_write_x⟩, an_codec_write_x⟩
theorem start_codec_write_x {args : List PV} {es es' : List Ent} {r : PV} (ha : args.length = 2) (hl : es'.length = es.length) (he : (es'.all fun e => e.extOk es.length) = true) (h : awp x_codec_write_x c_codec_write_x (bodyR Tryd.prog [] r es') (initSt args es)) : BC Tryd.prog 33 args es r es' :=
  bc_of_awp (X := x_codec_write_x) mixed Tryd.func33 (c := c_codec_write_x) (by kernel_rfl) (by kernel_rfl) (rs := []) (by kernel_rfl) (by kernel_rfl) (by rw [ha]; decide) hl (fun e h => List.all_eq_true.1 he e h) h
noncomputable def c_codec_Print : Code := (Tryd.f12.body).getD .skip
def nf_codec_Print : List (Nat × Nf) := []
def fp_codec_Print : List (Nat × List Nat) := []
def an_codec_Print : Nat → Ann
  | 0 => ⟨[1], [1], [], [], [1]⟩
  | 1 => ⟨[1, 4], [1], [], [], [1]⟩
  | 2 => ⟨[1, 4, 9], [1], [], [], [1]⟩
  | 3 => ⟨[2, 3], [], [], [], []⟩
  | 4 => ⟨[1, 5], [1, 5, 336], [.self 5 0, .thawB 5 1 336 5], [], [1, 5, 336]⟩
  | 5 => ⟨[5], [5, 336], [], [], [5, 336]⟩
  | 6 => ⟨[2, 3], [], [], [], []⟩
  | _ => ⟨[], [], [], [], []⟩
noncomputable abbrev x_codec_Print : Cx := ⟨Tryd.prog, ⟨id, nf_codec_Print, fp_codec_Print⟩, an_codec_Print⟩
theorem start_codec_Print {args : List PV} {r : PV} (ha : args.length = 1) (h : awp x_codec_Print c_codec_Print (bodyR Tryd.prog [.tmp 2, .tmp 3] r []) (initSt args [])) : PC Tryd.prog 12 args r :=
  pc_of_awp (X := x_codec_Print) mixed Tryd.func12 (c := c_codec_Print) (by kernel_rfl) (by kernel_rfl) (rs := [.tmp 2, .tmp 3]) (by kernel_rfl) (by kernel_rfl) (by rw [ha]; decide) h
noncomputable def c_diptychlaw2_shown : Code := (Tryd.f10.body).getD .skip
def nf_diptychlaw2_shown : List (Nat × Nf) := [(6, [none, none, some 1, some 2, some 5]), (9, [none, none, some 1, some 2, some 5]), (12, [none, none, some 1, some 2, some 5]), (14, [none, none, some 1, some 2, some 5])]
def fp_diptychlaw2_shown : List (Nat × List Nat) := []
def an_diptychlaw2_shown : Nat → Ann
  | 0 => ⟨[], [], [], [], []⟩
  | 1 => ⟨[1], [1], [], [], [1]⟩
  | 2 => ⟨[2], [2], [], [], [2]⟩
  | 3 => ⟨[3, 4], [], [], [], []⟩
  | 4 => ⟨[0], [], [], [], []⟩
  | _ => ⟨[], [], [], [], []⟩
noncomputable abbrev x_diptychlaw2_shown : Cx := ⟨Tryd.prog, ⟨id, nf_diptychlaw2_shown, fp_diptychlaw2_shown⟩, an_diptychlaw2_shown⟩
theorem start_diptychlaw2_shown {args : List PV} {r : PV} (ha : args.length = 0) (h : awp x_diptychlaw2_shown c_diptychlaw2_shown (bodyR Tryd.prog [.tmp 0] r []) (initSt args [])) : PC Tryd.prog 10 args r :=
  pc_of_awp (X := x_diptychlaw2_shown) mixed Tryd.func10 (c := c_diptychlaw2_shown) (by kernel_rfl) (by kernel_rfl) (rs := [.tmp 0]) (by kernel_rfl) (by kernel_rfl) (by rw [ha]; decide) h
noncomputable def c_diptychlaw2_light : Code := (Tryd.f11.body).getD .skip
def nf_diptychlaw2_light : List (Nat × Nf) := []
def fp_diptychlaw2_light : List (Nat × List Nat) := []
def an_diptychlaw2_light : Nat → Ann
  | 0 => ⟨[1, 2], [2], [], [], [2]⟩
  | 1 => ⟨[1, 2], [2], [], [], [2]⟩
  | 2 => ⟨[1, 2, 5], [2], [], [], [2]⟩
  | 3 => ⟨[1, 2, 5, 26], [2], [], [], [2]⟩
  | 4 => ⟨[1, 2, 5], [2], [], [], [2]⟩
  | 5 => ⟨[1, 2, 5], [2], [], [], [2]⟩
  | 6 => ⟨[1, 2, 6], [2], [], [], [2]⟩
  | 7 => ⟨[1, 2, 6, 46], [2], [], [], [2]⟩
  | 8 => ⟨[1, 2, 6], [2], [], [], [2]⟩
  | 9 => ⟨[1, 2, 6], [2], [], [], [2]⟩
  | 10 => ⟨[1, 2, 7], [2], [], [], [2]⟩
  | 11 => ⟨[1, 2, 7, 75], [2], [], [], [2]⟩
  | 12 => ⟨[1, 2, 7], [2], [], [], [2]⟩
  | 13 => ⟨[1, 2, 7], [2], [], [], [2]⟩
  | 14 => ⟨[1, 86], [], [], [], []⟩
  | 15 => ⟨[4], [], [], [], []⟩
  | 16 => ⟨[4], [], [], [], []⟩
  | _ => ⟨[], [], [], [], []⟩
noncomputable abbrev x_diptychlaw2_light : Cx := ⟨Tryd.prog, ⟨id, nf_diptychlaw2_light, fp_diptychlaw2_light⟩, an_diptychlaw2_light⟩
theorem start_diptychlaw2_light {args : List PV} {r : PV} (ha : args.length = 2) (h : awp x_diptychlaw2_light c_diptychlaw2_light (bodyR Tryd.prog [.tmp 4] r []) (initSt args [])) : PC Tryd.prog 11 args r :=
  pc_of_awp (X := x_diptychlaw2_light) mixed Tryd.func11 (c := c_diptychlaw2_light) (by kernel_rfl) (by kernel_rfl) (rs := [.tmp 4]) (by kernel_rfl) (by kernel_rfl) (by rw [ha]; decide) h
noncomputable def c_diptychref1_sameNames : Code := (Tryd.f47.body).getD .skip
def nf_diptychref1_sameNames : List (Nat × Nf) := []
def fp_diptychref1_sameNames : List (Nat × List Nat) := []
def an_diptychref1_sameNames : Nat → Ann
  | 0 => ⟨[0, 1], [], [], [], []⟩
  | 1 => ⟨[0, 1, 10], [], [], [], []⟩
  | 2 => ⟨[4], [], [], [], []⟩
  | 3 => ⟨[0, 1, 5], [], [], [], []⟩
  | 4 => ⟨[0, 1, 5, 14], [], [], [], []⟩
  | 5 => ⟨[0, 1, 5], [], [], [], []⟩
  | 6 => ⟨[0, 1, 5, 25], [], [], [], []⟩
  | 7 => ⟨[4], [], [], [], []⟩
  | 8 => ⟨[4], [], [], [], []⟩
  | _ => ⟨[], [], [], [], []⟩
noncomputable abbrev x_diptychref1_sameNames : Cx := ⟨Tryd.prog, ⟨id, nf_diptychref1_sameNames, fp_diptychref1_sameNames⟩, an_diptychref1_sameNames⟩
theorem start_diptychref1_sameNames {args : List PV} {r : PV} (ha : args.length = 2) (h : awp x_diptychref1_sameNames c_diptychref1_sameNames (bodyR Tryd.prog [.tmp 4] r []) (initSt args [])) : PC Tryd.prog 47 args r :=
  pc_of_awp (X := x_diptychref1_sameNames) mixed Tryd.func47 (c := c_diptychref1_sameNames) (by kernel_rfl) (by kernel_rfl) (rs := [.tmp 4]) (by kernel_rfl) (by kernel_rfl) (by rw [ha]; decide) h
noncomputable def c_diptychref1_runes : Code := (Tryd.f76.body).getD .skip
def nf_diptychref1_runes : List (Nat × Nf) := []
def fp_diptychref1_runes : List (Nat × List Nat) := []
def an_diptychref1_runes : Nat → Ann
  | 0 => ⟨[0], [], [], [], []⟩
  | 1 => ⟨[0, 4], [], [], [], []⟩
  | 2 => ⟨[2, 3], [], [], [], []⟩
  | _ => ⟨[], [], [], [], []⟩
noncomputable abbrev x_diptychref1_runes : Cx := ⟨Tryd.prog, ⟨id, nf_diptychref1_runes, fp_diptychref1_runes⟩, an_diptychref1_runes⟩
theorem start_diptychref1_runes {args : List PV} {r : PV} (ha : args.length = 1) (h : awp x_diptychref1_runes c_diptychref1_runes (bodyR Tryd.prog [.tmp 2, .tmp 3] r []) (initSt args [])) : PC Tryd.prog 76 args r :=
  pc_of_awp (X := x_diptychref1_runes) mixed Tryd.func76 (c := c_diptychref1_runes) (by kernel_rfl) (by kernel_rfl) (rs := [.tmp 2, .tmp 3]) (by kernel_rfl) (by kernel_rfl) (by rw [ha]; decide) h
noncomputable def c_diptychref1_formed : Code := (Tryd.f65.body).getD .skip
def nf_diptychref1_formed : List (Nat × Nf) := []
def fp_diptychref1_formed : List (Nat × List Nat) := []
def an_diptychref1_formed : Nat → Ann
  | 0 => ⟨[0], [], [], [], []⟩
  | 1 => ⟨[4], [], [], [], []⟩
  | 2 => ⟨[2], [], [], [], []⟩
  | _ => ⟨[], [], [], [], []⟩
noncomputable abbrev x_diptychref1_formed : Cx := ⟨Tryd.prog, ⟨id, nf_diptychref1_formed, fp_diptychref1_formed⟩, an_diptychref1_formed⟩
theorem start_diptychref1_formed {args : List PV} {r : PV} (ha : args.length = 1) (h : awp x_diptychref1_formed c_diptychref1_formed (bodyR Tryd.prog [.tmp 2] r []) (initSt args [])) : PC Tryd.prog 65 args r :=
  pc_of_awp (X := x_diptychref1_formed) mixed Tryd.func65 (c := c_diptychref1_formed) (by kernel_rfl) (by kernel_rfl) (rs := [.tmp 2]) (by kernel_rfl) (by kernel_rfl) (by rw [ha]; decide) h
noncomputable def c_diptychref1_Name : Code := (Tryd.f68.body).getD .skip
def nf_diptychref1_Name : List (Nat × Nf) := []
def fp_diptychref1_Name : List (Nat × List Nat) := []
def an_diptychref1_Name : Nat → Ann
  | 0 => ⟨[0], [], [], [], []⟩
  | 1 => ⟨[0, 3], [], [], [], []⟩
  | 2 => ⟨[0, 3, 7], [], [], [], []⟩
  | 3 => ⟨[0, 3], [], [], [], []⟩
  | 4 => ⟨[0, 3, 19], [], [], [], []⟩
  | 5 => ⟨[2], [], [], [], []⟩
  | 6 => ⟨[2], [], [], [], []⟩
  | _ => ⟨[], [], [], [], []⟩
noncomputable abbrev x_diptychref1_Name : Cx := ⟨Tryd.prog, ⟨id, nf_diptychref1_Name, fp_diptychref1_Name⟩, an_diptychref1_Name⟩
theorem start_diptychref1_Name {args : List PV} {r : PV} (ha : args.length = 1) (h : awp x_diptychref1_Name c_diptychref1_Name (bodyR Tryd.prog [.tmp 2] r []) (initSt args [])) : PC Tryd.prog 68 args r :=
  pc_of_awp (X := x_diptychref1_Name) mixed Tryd.func68 (c := c_diptychref1_Name) (by kernel_rfl) (by kernel_rfl) (rs := [.tmp 2]) (by kernel_rfl) (by kernel_rfl) (by rw [ha]; decide) h
noncomputable def c_diptychref1_rise : Code := (Tryd.f66.body).getD .skip
def nf_diptychref1_rise : List (Nat × Nf) := []
def fp_diptychref1_rise : List (Nat × List Nat) := []
def an_diptychref1_rise : Nat → Ann
  | 0 => ⟨[0], [], [], [], []⟩
  | 1 => ⟨[0, 3], [], [], [], []⟩
  | 2 => ⟨[0, 3, 7], [], [], [], []⟩
  | 3 => ⟨[0, 3], [], [], [], []⟩
  | 4 => ⟨[0, 3, 31], [], [], [], []⟩
  | 5 => ⟨[2], [], [], [], []⟩
  | 6 => ⟨[2], [], [], [], []⟩
  | _ => ⟨[], [], [], [], []⟩
noncomputable abbrev x_diptychref1_rise : Cx := ⟨Tryd.prog, ⟨id, nf_diptychref1_rise, fp_diptychref1_rise⟩, an_diptychref1_rise⟩
theorem start_diptychref1_rise {args : List PV} {r : PV} (ha : args.length = 1) (h : awp x_diptychref1_rise c_diptychref1_rise (bodyR Tryd.prog [.tmp 2] r []) (initSt args [])) : PC Tryd.prog 66 args r :=
  pc_of_awp (X := x_diptychref1_rise) mixed Tryd.func66 (c := c_diptychref1_rise) (by kernel_rfl) (by kernel_rfl) (rs := [.tmp 2]) (by kernel_rfl) (by kernel_rfl) (by rw [ha]; decide) h
noncomputable def c_diptychref1_Value : Code := (Tryd.f67.body).getD .skip
def nf_diptychref1_Value : List (Nat × Nf) := []
def fp_diptychref1_Value : List (Nat × List Nat) := []
def an_diptychref1_Value : Nat → Ann
  | 0 => ⟨[0], [], [], [], []⟩
  | 1 => ⟨[2], [], [], [], []⟩
  | _ => ⟨[], [], [], [], []⟩
noncomputable abbrev x_diptychref1_Value : Cx := ⟨Tryd.prog, ⟨id, nf_diptychref1_Value, fp_diptychref1_Value⟩, an_diptychref1_Value⟩
theorem start_diptychref1_Value {args : List PV} {r : PV} (ha : args.length = 1) (h : awp x_diptychref1_Value c_diptychref1_Value (bodyR Tryd.prog [.tmp 2] r []) (initSt args [])) : PC Tryd.prog 67 args r :=
  pc_of_awp (X := x_diptychref1_Value) mixed Tryd.func67 (c := c_diptychref1_Value) (by kernel_rfl) (by kernel_rfl) (rs := [.tmp 2]) (by kernel_rfl) (by kernel_rfl) (by rw [ha]; decide) h
noncomputable def c_diptychref1_Formed : Code := (Tryd.f46.body).getD .skip
def nf_diptychref1_Formed : List (Nat × Nf) := []
def fp_diptychref1_Formed : List (Nat × List Nat) := []
def an_diptychref1_Formed : Nat → Ann
  | 0 => ⟨[1], [1], [], [], [1]⟩
  | 1 => ⟨[1, 8], [1], [], [], [1]⟩
  | 2 => ⟨[2], [], [], [], []⟩
  | 3 => ⟨[1, 3], [1, 3], [.thaw 3 3 1], [], [1, 3]⟩
  | 4 => ⟨[1, 3, 4], [1, 3], [], [], [1, 3]⟩
  | 5 => ⟨[1, 3, 4, 38], [1, 3], [], [], [1, 3]⟩
  | 6 => ⟨[1, 3, 4], [1, 3], [], [], [1, 3]⟩
  | 7 => ⟨[1, 3, 4], [1, 3], [], [], [1, 3]⟩
  | 8 => ⟨[1, 3, 4, 57], [1, 3], [], [], [1, 3]⟩
  | 9 => ⟨[2], [], [], [], []⟩
  | 10 => ⟨[1, 77], [1], [], [], [1]⟩
  | 11 => ⟨[2], [], [], [], []⟩
  | 12 => ⟨[1, 5], [1], [], [], [1]⟩
  | 13 => ⟨[1, 5, 82], [1], [], [], [1]⟩
  | 14 => ⟨[1, 5], [1], [], [], [1]⟩
  | 15 => ⟨[1, 5, 130], [1], [], [], [1]⟩
  | 16 => ⟨[2], [], [], [], []⟩
  | 17 => ⟨[2], [], [], [], []⟩
  | _ => ⟨[], [], [], [], []⟩
noncomputable abbrev x_diptychref1_Formed : Cx := ⟨Tryd.prog, ⟨id, nf_diptychref1_Formed, fp_diptychref1_Formed⟩, an_diptychref1_Formed⟩
theorem start_diptychref1_Formed {args : List PV} {r : PV} (ha : args.length = 1) (h : awp x_diptychref1_Formed c_diptychref1_Formed (bodyR Tryd.prog [.tmp 2] r []) (initSt args [])) : PC Tryd.prog 46 args r :=
  pc_of_awp (X := x_diptychref1_Formed) mixed Tryd.func46 (c := c_diptychref1_Formed) (by kernel_rfl) (by kernel_rfl) (rs := [.tmp 2]) (by kernel_rfl) (by kernel_rfl) (by rw [ha]; decide) h
noncomputable def c_diptychref1_Depth : Code := (Tryd.f53.body).getD .skip
def nf_diptychref1_Depth : List (Nat × Nf) := []
def fp_diptychref1_Depth : List (Nat × List Nat) := []
def an_diptychref1_Depth : Nat → Ann
  | 0 => ⟨[1], [1], [], [], [1]⟩
  | 1 => ⟨[1, 7], [1], [], [], [1]⟩
  | 2 => ⟨[2], [], [], [], []⟩
  | 3 => ⟨[1, 3], [1], [], [], [1]⟩
  | 4 => ⟨[1, 3, 4], [1], [], [], [1]⟩
  | 5 => ⟨[1, 3, 4, 12], [1], [], [], [1]⟩
  | 6 => ⟨[1, 3, 4], [1], [], [], [1]⟩
  | 7 => ⟨[1, 3, 4], [1], [], [], [1]⟩
  | 8 => ⟨[2], [], [], [], []⟩
  | _ => ⟨[], [], [], [], []⟩
noncomputable abbrev x_diptychref1_Depth : Cx := ⟨Tryd.prog, ⟨id, nf_diptychref1_Depth, fp_diptychref1_Depth⟩, an_diptychref1_Depth⟩
theorem start_diptychref1_Depth {args : List PV} {r : PV} (ha : args.length = 1) (h : awp x_diptychref1_Depth c_diptychref1_Depth (bodyR Tryd.prog [.tmp 2] r []) (initSt args [])) : PC Tryd.prog 53 args r :=
  pc_of_awp (X := x_diptychref1_Depth) mixed Tryd.func53 (c := c_diptychref1_Depth) (by kernel_rfl) (by kernel_rfl) (rs := [.tmp 2]) (by kernel_rfl) (by kernel_rfl) (by rw [ha]; decide) h
noncomputable def c_diptychref1_Total : Code := (Tryd.f77.body).getD .skip
def nf_diptychref1_Total : List (Nat × Nf) := []
def fp_diptychref1_Total : List (Nat × List Nat) := []
def an_diptychref1_Total : Nat → Ann
  | 0 => ⟨[0], [], [], [], []⟩
  | 1 => ⟨[0, 3], [], [], [], []⟩
  | 2 => ⟨[0, 3, 4], [], [], [], []⟩
  | 3 => ⟨[0, 3, 4, 8], [], [], [], []⟩
  | 4 => ⟨[0, 3, 4], [], [], [], []⟩
  | 5 => ⟨[0, 3, 4], [], [], [], []⟩
  | 6 => ⟨[2], [], [], [], []⟩
  | _ => ⟨[], [], [], [], []⟩
noncomputable abbrev x_diptychref1_Total : Cx := ⟨Tryd.prog, ⟨id, nf_diptychref1_Total, fp_diptychref1_Total⟩, an_diptychref1_Total⟩
theorem start_diptychref1_Total {args : List PV} {r : PV} (ha : args.length = 1) (h : awp x_diptychref1_Total c_diptychref1_Total (bodyR Tryd.prog [.tmp 2] r []) (initSt args [])) : PC Tryd.prog 77 args r :=
  pc_of_awp (X := x_diptychref1_Total) mixed Tryd.func77 (c := c_diptychref1_Total) (by kernel_rfl) (by kernel_rfl) (rs := [.tmp 2]) (by kernel_rfl) (by kernel_rfl) (by rw [ha]; decide) h
noncomputable def c_diptychref1_Size : Code := (Tryd.f54.body).getD .skip
def nf_diptychref1_Size : List (Nat × Nf) := []
def fp_diptychref1_Size : List (Nat × List Nat) := []
def an_diptychref1_Size : Nat → Ann
  | 0 => ⟨[1], [1], [], [], [1]⟩
  | 1 => ⟨[1, 7], [1], [], [], [1]⟩
  | 2 => ⟨[3], [], [], [], []⟩
  | 3 => ⟨[2], [], [], [], []⟩
  | 4 => ⟨[2], [], [], [], []⟩
  | _ => ⟨[], [], [], [], []⟩
noncomputable abbrev x_diptychref1_Size : Cx := ⟨Tryd.prog, ⟨id, nf_diptychref1_Size, fp_diptychref1_Size⟩, an_diptychref1_Size⟩
theorem start_diptychref1_Size {args : List PV} {r : PV} (ha : args.length = 1) (h : awp x_diptychref1_Size c_diptychref1_Size (bodyR Tryd.prog [.tmp 2] r []) (initSt args [])) : PC Tryd.prog 54 args r :=
  pc_of_awp (X := x_diptychref1_Size) mixed Tryd.func54 (c := c_diptychref1_Size) (by kernel_rfl) (by kernel_rfl) (rs := [.tmp 2]) (by kernel_rfl) (by kernel_rfl) (by rw [ha]; decide) h
noncomputable def c_diptychref1_Check : Code := (Tryd.f35.body).getD .skip
def nf_diptychref1_Check : List (Nat × Nf) := []
def fp_diptychref1_Check : List (Nat × List Nat) := []
def an_diptychref1_Check : Nat → Ann
  | 0 => ⟨[1], [1], [], [], [1]⟩
  | 1 => ⟨[1, 5], [1], [], [], [1]⟩
  | 2 => ⟨[2], [], [], [], []⟩
  | 3 => ⟨[1, 8], [1], [], [], [1]⟩
  | 4 => ⟨[2], [], [], [], []⟩
  | 5 => ⟨[11], [], [], [], []⟩
  | 6 => ⟨[2], [], [], [], []⟩
  | 7 => ⟨[2], [], [], [], []⟩
  | _ => ⟨[], [], [], [], []⟩
noncomputable abbrev x_diptychref1_Check : Cx := ⟨Tryd.prog, ⟨id, nf_diptychref1_Check, fp_diptychref1_Check⟩, an_diptychref1_Check⟩
theorem start_diptychref1_Check {args : List PV} {r : PV} (ha : args.length = 1) (h : awp x_diptychref1_Check c_diptychref1_Check (bodyR Tryd.prog [.tmp 2] r []) (initSt args [])) : PC Tryd.prog 35 args r :=
  pc_of_awp (X := x_diptychref1_Check) mixed Tryd.func35 (c := c_diptychref1_Check) (by kernel_rfl) (by kernel_rfl) (rs := [.tmp 2]) (by kernel_rfl) (by kernel_rfl) (by rw [ha]; decide) h
noncomputable def c_diptychref2_Quote : Code := (Tryd.f17.body).getD .skip
def nf_diptychref2_Quote : List (Nat × Nf) := []
def fp_diptychref2_Quote : List (Nat × List Nat) := []
def an_diptychref2_Quote : Nat → Ann
  | 0 => ⟨[0], [], [], [], []⟩
  | 1 => ⟨[0, 3], [], [], [], []⟩
  | 2 => ⟨[0, 3, 4], [], [], [], []⟩
  | 3 => ⟨[0, 3, 4, 8], [], [], [], []⟩
  | 4 => ⟨[0, 3, 4], [], [], [], []⟩
  | 5 => ⟨[0, 3, 4, 20], [], [], [], []⟩
  | 6 => ⟨[0, 3, 4], [], [], [], []⟩
  | 7 => ⟨[0, 3, 4], [], [], [], []⟩
  | 8 => ⟨[2], [], [], [], []⟩
  | _ => ⟨[], [], [], [], []⟩
noncomputable abbrev x_diptychref2_Quote : Cx := ⟨Tryd.prog, ⟨id, nf_diptychref2_Quote, fp_diptychref2_Quote⟩, an_diptychref2_Quote⟩
theorem start_diptychref2_Quote {args : List PV} {r : PV} (ha : args.length = 1) (h : awp x_diptychref2_Quote c_diptychref2_Quote (bodyR Tryd.prog [.tmp 2] r []) (initSt args [])) : PC Tryd.prog 17 args r :=
  pc_of_awp (X := x_diptychref2_Quote) mixed Tryd.func17 (c := c_diptychref2_Quote) (by kernel_rfl) (by kernel_rfl) (rs := [.tmp 2]) (by kernel_rfl) (by kernel_rfl) (by rw [ha]; decide) h
noncomputable def c_diptychref2_Head : Code := (Tryd.f19.body).getD .skip
def nf_diptychref2_Head : List (Nat × Nf) := []
def fp_diptychref2_Head : List (Nat × List Nat) := []
def an_diptychref2_Head : Nat → Ann
  | 0 => ⟨[1], [1], [], [], [1]⟩
  | 1 => ⟨[1, 3], [1], [], [], [1]⟩
  | 2 => ⟨[1, 3, 8], [1], [], [], [1]⟩
  | 3 => ⟨[1, 3, 4], [1], [], [], [1]⟩
  | 4 => ⟨[1, 3, 4, 13], [1], [], [], [1]⟩
  | 5 => ⟨[1, 3, 4], [1], [], [], [1]⟩
  | 6 => ⟨[1, 3, 4, 17], [1], [], [], [1]⟩
  | 7 => ⟨[1, 3, 4], [1], [], [], [1]⟩
  | 8 => ⟨[1, 3, 4], [1], [], [], [1]⟩
  | 9 => ⟨[3, 30], [], [], [], []⟩
  | 10 => ⟨[3], [], [], [], []⟩
  | 11 => ⟨[2], [], [], [], []⟩
  | 12 => ⟨[1, 3, 5], [1], [], [], [1]⟩
  | 13 => ⟨[1, 3, 5, 39], [1], [], [], [1]⟩
  | 14 => ⟨[1, 3, 5], [1], [], [], [1]⟩
  | 15 => ⟨[1, 3, 5, 43], [1], [], [], [1]⟩
  | 16 => ⟨[1, 3, 5], [1], [], [], [1]⟩
  | 17 => ⟨[1, 3, 5], [1], [], [], [1]⟩
  | 18 => ⟨[1, 3, 66], [1], [], [], [1]⟩
  | 19 => ⟨[1, 3], [1], [], [], [1]⟩
  | 20 => ⟨[2], [], [], [], []⟩
  | _ => ⟨[], [], [], [], []⟩
noncomputable abbrev x_diptychref2_Head : Cx := ⟨Tryd.prog, ⟨id, nf_diptychref2_Head, fp_diptychref2_Head⟩, an_diptychref2_Head⟩
theorem start_diptychref2_Head {args : List PV} {r : PV} (ha : args.length = 1) (h : awp x_diptychref2_Head c_diptychref2_Head (bodyR Tryd.prog [.tmp 2] r []) (initSt args [])) : PC Tryd.prog 19 args r :=
  pc_of_awp (X := x_diptychref2_Head) mixed Tryd.func19 (c := c_diptychref2_Head) (by kernel_rfl) (by kernel_rfl) (rs := [.tmp 2]) (by kernel_rfl) (by kernel_rfl) (by rw [ha]; decide) h
noncomputable def c_diptychref2_WriteAll : Code := (Tryd.f37.body).getD .skip
def nf_diptychref2_WriteAll : List (Nat × Nf) := []
def fp_diptychref2_WriteAll : List (Nat × List Nat) := []
def an_diptychref2_WriteAll : Nat → Ann
  | 0 => ⟨[0], [], [], [], []⟩
  | 1 => ⟨[0, 3], [], [], [], []⟩
  | 2 => ⟨[0, 3, 4], [], [], [], []⟩
  | 3 => ⟨[0, 3, 4, 8], [], [], [], []⟩
  | 4 => ⟨[0, 3, 4], [], [], [], []⟩
  | 5 => ⟨[0, 3, 4], [], [], [], []⟩
  | 6 => ⟨[2], [], [], [], []⟩
  | _ => ⟨[], [], [], [], []⟩
noncomputable abbrev x_diptychref2_WriteAll : Cx := ⟨Tryd.prog, ⟨id, nf_diptychref2_WriteAll, fp_diptychref2_WriteAll⟩, an_diptychref2_WriteAll⟩
theorem start_diptychref2_WriteAll {args : List PV} {r : PV} (ha : args.length = 1) (h : awp x_diptychref2_WriteAll c_diptychref2_WriteAll (bodyR Tryd.prog [.tmp 2] r []) (initSt args [])) : PC Tryd.prog 37 args r :=
  pc_of_awp (X := x_diptychref2_WriteAll) mixed Tryd.func37 (c := c_diptychref2_WriteAll) (by kernel_rfl) (by kernel_rfl) (rs := [.tmp 2]) (by kernel_rfl) (by kernel_rfl) (by rw [ha]; decide) h
noncomputable def c_diptychref2_Write : Code := (Tryd.f36.body).getD .skip
def nf_diptychref2_Write : List (Nat × Nf) := []
def fp_diptychref2_Write : List (Nat × List Nat) := []
def an_diptychref2_Write : Nat → Ann
  | 0 => ⟨[1], [1], [], [], [1]⟩
  | 1 => ⟨[1, 5], [1], [], [], [1]⟩
  | 2 => ⟨[2], [], [], [], []⟩
  | 3 => ⟨[2], [], [], [], []⟩
  | _ => ⟨[], [], [], [], []⟩
noncomputable abbrev x_diptychref2_Write : Cx := ⟨Tryd.prog, ⟨id, nf_diptychref2_Write, fp_diptychref2_Write⟩, an_diptychref2_Write⟩
theorem start_diptychref2_Write {args : List PV} {r : PV} (ha : args.length = 1) (h : awp x_diptychref2_Write c_diptychref2_Write (bodyR Tryd.prog [.tmp 2] r []) (initSt args [])) : PC Tryd.prog 36 args r :=
  pc_of_awp (X := x_diptychref2_Write) mixed Tryd.func36 (c := c_diptychref2_Write) (by kernel_rfl) (by kernel_rfl) (rs := [.tmp 2]) (by kernel_rfl) (by kernel_rfl) (by rw [ha]; decide) h
noncomputable def c_diptychref2_Print : Code := (Tryd.f13.body).getD .skip
def nf_diptychref2_Print : List (Nat × Nf) := []
def fp_diptychref2_Print : List (Nat × List Nat) := []
def an_diptychref2_Print : Nat → Ann
  | 0 => ⟨[1], [1], [], [], [1]⟩
  | 1 => ⟨[1, 4], [1], [], [], [1]⟩
  | 2 => ⟨[1, 4, 8], [1], [], [], [1]⟩
  | 3 => ⟨[2, 3], [], [], [], []⟩
  | 4 => ⟨[2, 3], [], [], [], []⟩
  | _ => ⟨[], [], [], [], []⟩
noncomputable abbrev x_diptychref2_Print : Cx := ⟨Tryd.prog, ⟨id, nf_diptychref2_Print, fp_diptychref2_Print⟩, an_diptychref2_Print⟩
theorem start_diptychref2_Print {args : List PV} {r : PV} (ha : args.length = 1) (h : awp x_diptychref2_Print c_diptychref2_Print (bodyR Tryd.prog [.tmp 2, .tmp 3] r []) (initSt args [])) : PC Tryd.prog 13 args r :=
  pc_of_awp (X := x_diptychref2_Print) mixed Tryd.func13 (c := c_diptychref2_Print) (by kernel_rfl) (by kernel_rfl) (rs := [.tmp 2, .tmp 3]) (by kernel_rfl) (by kernel_rfl) (by rw [ha]; decide) h
noncomputable def c_codec_PrintAll : Code := (Tryd.f14.body).getD .skip
def nf_codec_PrintAll : List (Nat × Nf) := [(8, [none, none, some 1, some 2, none])]
def fp_codec_PrintAll : List (Nat × List Nat) := []
def an_codec_PrintAll : Nat → Ann
  | 0 => ⟨[0], [], [], [], []⟩
  | 1 => ⟨[4, 5], [], [], [], []⟩
  | 2 => ⟨[4, 5, 13], [], [], [], []⟩
  | 3 => ⟨[2, 3], [], [], [], []⟩
  | 4 => ⟨[2, 3], [], [], [], []⟩
  | _ => ⟨[], [], [], [], []⟩
noncomputable abbrev x_codec_PrintAll : Cx := ⟨Tryd.prog, ⟨id, nf_codec_PrintAll, fp_codec_PrintAll⟩, an_codec_PrintAll⟩
theorem start_codec_PrintAll {args : List PV} {r : PV} (ha : args.length = 1) (h : awp x_codec_PrintAll c_codec_PrintAll (bodyR Tryd.prog [.tmp 2, .tmp 3] r []) (initSt args [])) : PC Tryd.prog 14 args r :=
  pc_of_awp (X := x_codec_PrintAll) mixed Tryd.func14 (c := c_codec_PrintAll) (by kernel_rfl) (by kernel_rfl) (rs := [.tmp 2, .tmp 3]) (by kernel_rfl) (by kernel_rfl) (by rw [ha]; decide) h
noncomputable def c_diptychref2_PrintAll : Code := (Tryd.f15.body).getD .skip
def nf_diptychref2_PrintAll : List (Nat × Nf) := [(6, [none, none, some 1, some 2, none])]
def fp_diptychref2_PrintAll : List (Nat × List Nat) := []
def an_diptychref2_PrintAll : Nat → Ann
  | 0 => ⟨[0], [], [], [], []⟩
  | 1 => ⟨[0, 4], [], [], [], []⟩
  | 2 => ⟨[0, 4, 9], [], [], [], []⟩
  | 3 => ⟨[2, 3], [], [], [], []⟩
  | 4 => ⟨[2, 3], [], [], [], []⟩
  | _ => ⟨[], [], [], [], []⟩
noncomputable abbrev x_diptychref2_PrintAll : Cx := ⟨Tryd.prog, ⟨id, nf_diptychref2_PrintAll, fp_diptychref2_PrintAll⟩, an_diptychref2_PrintAll⟩
theorem start_diptychref2_PrintAll {args : List PV} {r : PV} (ha : args.length = 1) (h : awp x_diptychref2_PrintAll c_diptychref2_PrintAll (bodyR Tryd.prog [.tmp 2, .tmp 3] r []) (initSt args [])) : PC Tryd.prog 15 args r :=
  pc_of_awp (X := x_diptychref2_PrintAll) mixed Tryd.func15 (c := c_diptychref2_PrintAll) (by kernel_rfl) (by kernel_rfl) (rs := [.tmp 2, .tmp 3]) (by kernel_rfl) (by kernel_rfl) (by rw [ha]; decide) h
noncomputable def c_diptychlaw2_CodecPrints : Code := (Tryd.f3.body).getD .skip
def nf_diptychlaw2_CodecPrints : List (Nat × Nf) := []
def fp_diptychlaw2_CodecPrints : List (Nat × List Nat) := []
def an_diptychlaw2_CodecPrints : Nat → Ann
  | 0 => ⟨[1, 2], [2], [], [], [2]⟩
  | 1 => ⟨[1, 2, 5], [2], [], [], [2]⟩
  | 2 => ⟨[1, 2, 5, 26], [2], [], [], [2]⟩
  | 3 => ⟨[4], [], [], [], []⟩
  | 4 => ⟨[1, 2, 6, 7], [2], [], [], [2]⟩
  | 5 => ⟨[1, 2, 6, 7, 8, 9], [2], [], [], [2]⟩
  | 6 => ⟨[1, 2, 6, 7, 8, 9, 10, 11], [2], [], [], [2]⟩
  | 7 => ⟨[1, 2, 6, 7, 8, 9, 10, 11, 12, 13], [2], [], [], [2]⟩
  | 8 => ⟨[4], [], [], [], []⟩
  | _ => ⟨[], [], [], [], []⟩
noncomputable abbrev x_diptychlaw2_CodecPrints : Cx := ⟨Tryd.prog, ⟨id, nf_diptychlaw2_CodecPrints, fp_diptychlaw2_CodecPrints⟩, an_diptychlaw2_CodecPrints⟩
theorem start_diptychlaw2_CodecPrints {args : List PV} {r : PV} (ha : args.length = 2) (h : awp x_diptychlaw2_CodecPrints c_diptychlaw2_CodecPrints (bodyR Tryd.prog [.tmp 4] r []) (initSt args [])) : PC Tryd.prog 3 args r :=
  pc_of_awp (X := x_diptychlaw2_CodecPrints) mixed Tryd.func3 (c := c_diptychlaw2_CodecPrints) (by kernel_rfl) (by kernel_rfl) (rs := [.tmp 4]) (by kernel_rfl) (by kernel_rfl) (by rw [ha]; decide) h
attribute [go_sem] an_node_isText nf_node_isText fp_node_isText an_node_Depth nf_node_Depth fp_node_Depth an_node_Value nf_node_Value fp_node_Value an_node_Name nf_node_Name fp_node_Name an_node_rise nf_node_rise fp_node_rise an_slices_Equal_string nf_slices_Equal_string fp_slices_Equal_string an_node_alike nf_node_alike fp_node_alike an_node_formed nf_node_formed fp_node_formed an_unicode_utf8_RuneCountInString nf_unicode_utf8_RuneCountInString fp_unicode_utf8_RuneCountInString an_node_Total nf_node_Total fp_node_Total an_node_Size nf_node_Size fp_node_Size an_node_Check nf_node_Check fp_node_Check an_codec_Quote nf_codec_Quote fp_codec_Quote an_codec_Head nf_codec_Head fp_codec_Head an_strings_Builder_WriteString_x nf_strings_Builder_WriteString_x fp_strings_Builder_WriteString_x an_codec_write_x nf_codec_write_x fp_codec_write_x an_codec_Print nf_codec_Print fp_codec_Print an_diptychlaw2_shown nf_diptychlaw2_shown fp_diptychlaw2_shown an_diptychlaw2_light nf_diptychlaw2_light fp_diptychlaw2_light an_diptychref1_sameNames nf_diptychref1_sameNames fp_diptychref1_sameNames an_diptychref1_runes nf_diptychref1_runes fp_diptychref1_runes an_diptychref1_formed nf_diptychref1_formed fp_diptychref1_formed an_diptychref1_Name nf_diptychref1_Name fp_diptychref1_Name an_diptychref1_rise nf_diptychref1_rise fp_diptychref1_rise an_diptychref1_Value nf_diptychref1_Value fp_diptychref1_Value an_diptychref1_Formed nf_diptychref1_Formed fp_diptychref1_Formed an_diptychref1_Depth nf_diptychref1_Depth fp_diptychref1_Depth an_diptychref1_Total nf_diptychref1_Total fp_diptychref1_Total an_diptychref1_Size nf_diptychref1_Size fp_diptychref1_Size an_diptychref1_Check nf_diptychref1_Check fp_diptychref1_Check an_diptychref2_Quote nf_diptychref2_Quote fp_diptychref2_Quote an_diptychref2_Head nf_diptychref2_Head fp_diptychref2_Head an_diptychref2_WriteAll nf_diptychref2_WriteAll fp_diptychref2_WriteAll an_diptychref2_Write nf_diptychref2_Write fp_diptychref2_Write an_diptychref2_Print nf_diptychref2_Print fp_diptychref2_Print an_codec_PrintAll nf_codec_PrintAll fp_codec_PrintAll an_diptychref2_PrintAll nf_diptychref2_PrintAll fp_diptychref2_PrintAll an_diptychlaw2_CodecPrints nf_diptychlaw2_CodecPrints fp_diptychlaw2_CodecPrints ty3 ty4 ty5 ty9 ty21 ty22 ty23 ty24 ty26 ty29 ty48 ty49 ty56 ty57 ty59 api_Attr.pv_eq api_Node.pv_eq pvL

end Go.Proofs.YtihndopckmdpbaaDoor
