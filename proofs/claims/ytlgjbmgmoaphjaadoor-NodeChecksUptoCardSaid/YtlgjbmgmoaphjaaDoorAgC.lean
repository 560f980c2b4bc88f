/- Code, and what is kept. -/
import Derived.Test.YtlgjbmgmoaphjaaDoorAgT
import Derived.Test.YtlgjbmgmoaphjaaDoorAwT
namespace Go.Proofs.YtlgjbmgmoaphjaaDoor
set_option linter.unusedSimpArgs false
set_option linter.unusedVariables false
open Go
set_option maxRecDepth 100000

noncomputable def c_node_isText : Code := (Tryd.f63.body).getD .skip
def nf_node_isText : List (Nat × Nf) := []
def fp_node_isText : List (Nat × List Nat) := []
def an_node_isText : Nat → Ann
  | 0 => ⟨[1], [1], [], [], [1]⟩
  | 1 => ⟨[2], [], [], [], []⟩
  | _ => ⟨[], [], [], [], []⟩
noncomputable abbrev x_node_isText : Cx := ⟨Tryd.prog, ⟨id, nf_node_isText, fp_node_isText⟩, an_node_isText⟩
theorem start_node_isText {args : List PV} {r : PV} (ha : args.length = 1) (h : awp x_node_isText c_node_isText (bodyR Tryd.prog [.tmp 2] r []) (initSt args [])) : PC Tryd.prog 63 args r :=
  pc_of_awp (X := x_node_isText) mixed Tryd.func63 (c := c_node_isText) (by kernel_rfl) (by kernel_rfl) (rs := [.tmp 2]) (by kernel_rfl) (by kernel_rfl) (by rw [ha]; decide) h
noncomputable def c_unicode_utf8_RuneCountInString : Code := (Tryd.f76.body).getD .skip
def nf_unicode_utf8_RuneCountInString : List (Nat × Nf) := []
def fp_unicode_utf8_RuneCountInString : List (Nat × List Nat) := []
def an_unicode_utf8_RuneCountInString : Nat → Ann
  | 0 => ⟨[0, 2], [], [], [], []⟩
  | 1 => ⟨[2, 4], [4], [], [], [4]⟩
  | 2 => ⟨[2, 4, 6], [4], [], [], [4]⟩
  | 3 => ⟨[2, 4], [4], [], [], [4]⟩
  | 4 => ⟨[2], [], [], [], []⟩
  | _ => ⟨[], [], [], [], []⟩
noncomputable abbrev x_unicode_utf8_RuneCountInString : Cx := ⟨Tryd.prog, ⟨id, nf_unicode_utf8_RuneCountInString, fp_unicode_utf8_RuneCountInString⟩, an_unicode_utf8_RuneCountInString⟩
theorem start_unicode_utf8_RuneCountInString {args : List PV} {r : PV} (ha : args.length = 1) (h : awp x_unicode_utf8_RuneCountInString c_unicode_utf8_RuneCountInString (bodyR Tryd.prog [.tmp 2] r []) (initSt args [])) : PC Tryd.prog 76 args r :=
  pc_of_awp (X := x_unicode_utf8_RuneCountInString) mixed Tryd.func76 (c := c_unicode_utf8_RuneCountInString) (by kernel_rfl) (by kernel_rfl) (rs := [.tmp 2]) (by kernel_rfl) (by kernel_rfl) (by rw [ha]; decide) h
noncomputable def c_node_Size : Code := (Tryd.f46.body).getD .skip
def nf_node_Size : List (Nat × Nf) := []
def fp_node_Size : List (Nat × List Nat) := []
def an_node_Size : Nat → Ann
  | 0 => ⟨[1], [1], [], [], [1]⟩
  | 1 => ⟨[1, 4], [1], [], [], [1]⟩
  | 2 => ⟨[2], [], [], [], []⟩
  | 3 => ⟨[2], [], [], [], []⟩
  | _ => ⟨[], [], [], [], []⟩
noncomputable abbrev x_node_Size : Cx := ⟨Tryd.prog, ⟨id, nf_node_Size, fp_node_Size⟩, an_node_Size⟩
theorem start_node_Size {args : List PV} {r : PV} (ha : args.length = 1) (h : awp x_node_Size c_node_Size (bodyR Tryd.prog [.tmp 2] r []) (initSt args [])) : PC Tryd.prog 46 args r :=
  pc_of_awp (X := x_node_Size) mixed Tryd.func46 (c := c_node_Size) (by kernel_rfl) (by kernel_rfl) (rs := [.tmp 2]) (by kernel_rfl) (by kernel_rfl) (by rw [ha]; decide) h
noncomputable def c_node_Total : Code := (Tryd.f21.body).getD .skip
def nf_node_Total : List (Nat × Nf) := []
def fp_node_Total : List (Nat × List Nat) := []
def an_node_Total : Nat → Ann
  | 0 => ⟨[0], [], [], [], []⟩
  | 1 => ⟨[0, 3], [], [], [], []⟩
  | 2 => ⟨[3, 6, 7, 8], [], [], [], []⟩
  | 3 => ⟨[3, 6, 7, 8, 9], [], [], [], []⟩
  | 4 => ⟨[3, 5, 6, 7, 8], [5], [], [], [5]⟩
  | 5 => ⟨[3, 6, 7, 8], [], [], [], []⟩
  | 6 => ⟨[3, 6, 7, 8], [], [], [], []⟩
  | 7 => ⟨[2], [], [], [], []⟩
  | _ => ⟨[], [], [], [], []⟩
noncomputable abbrev x_node_Total : Cx := ⟨Tryd.prog, ⟨id, nf_node_Total, fp_node_Total⟩, an_node_Total⟩
theorem start_node_Total {args : List PV} {r : PV} (ha : args.length = 1) (h : awp x_node_Total c_node_Total (bodyR Tryd.prog [.tmp 2] r []) (initSt args [])) : PC Tryd.prog 21 args r :=
  pc_of_awp (X := x_node_Total) mixed Tryd.func21 (c := c_node_Total) (by kernel_rfl) (by kernel_rfl) (rs := [.tmp 2]) (by kernel_rfl) (by kernel_rfl) (by rw [ha]; decide) h
noncomputable def c_node_Depth : Code := (Tryd.f48.body).getD .skip
def nf_node_Depth : List (Nat × Nf) := []
def fp_node_Depth : List (Nat × List Nat) := []
def an_node_Depth : Nat → Ann
  | 0 => ⟨[1], [1], [], [], [1]⟩
  | 1 => ⟨[1, 7], [1], [], [], [1]⟩
  | 2 => ⟨[2], [], [], [], []⟩
  | 3 => ⟨[1, 3], [1], [], [], [1]⟩
  | 4 => ⟨[3, 9, 10, 11], [], [], [], []⟩
  | 5 => ⟨[3, 9, 10, 11, 12], [], [], [], []⟩
  | 6 => ⟨[3, 5, 9, 10, 11], [5], [], [], [5]⟩
  | 7 => ⟨[3, 9, 10, 11], [], [], [], []⟩
  | 8 => ⟨[3, 9, 10, 11], [], [], [], []⟩
  | 9 => ⟨[2], [], [], [], []⟩
  | _ => ⟨[], [], [], [], []⟩
noncomputable abbrev x_node_Depth : Cx := ⟨Tryd.prog, ⟨id, nf_node_Depth, fp_node_Depth⟩, an_node_Depth⟩
theorem start_node_Depth {args : List PV} {r : PV} (ha : args.length = 1) (h : awp x_node_Depth c_node_Depth (bodyR Tryd.prog [.tmp 2] r []) (initSt args [])) : PC Tryd.prog 48 args r :=
  pc_of_awp (X := x_node_Depth) mixed Tryd.func48 (c := c_node_Depth) (by kernel_rfl) (by kernel_rfl) (rs := [.tmp 2]) (by kernel_rfl) (by kernel_rfl) (by rw [ha]; decide) h
noncomputable def c_node_Name : Code := (Tryd.f41.body).getD .skip
def nf_node_Name : List (Nat × Nf) := []
def fp_node_Name : List (Nat × List Nat) := []
def an_node_Name : Nat → Ann
  | 0 => ⟨[0], [], [], [], []⟩
  | 1 => ⟨[0, 3], [], [], [], []⟩
  | 2 => ⟨[2], [], [], [], []⟩
  | _ => ⟨[], [], [], [], []⟩
noncomputable abbrev x_node_Name : Cx := ⟨Tryd.prog, ⟨id, nf_node_Name, fp_node_Name⟩, an_node_Name⟩
theorem start_node_Name {args : List PV} {r : PV} (ha : args.length = 1) (h : awp x_node_Name c_node_Name (bodyR Tryd.prog [.tmp 2] r []) (initSt args [])) : PC Tryd.prog 41 args r :=
  pc_of_awp (X := x_node_Name) mixed Tryd.func41 (c := c_node_Name) (by kernel_rfl) (by kernel_rfl) (rs := [.tmp 2]) (by kernel_rfl) (by kernel_rfl) (by rw [ha]; decide) h
noncomputable def c_node_Value : Code := (Tryd.f43.body).getD .skip
def nf_node_Value : List (Nat × Nf) := []
def fp_node_Value : List (Nat × List Nat) := []
def an_node_Value : Nat → Ann
  | 0 => ⟨[0], [], [], [], []⟩
  | 1 => ⟨[2], [], [], [], []⟩
  | _ => ⟨[], [], [], [], []⟩
noncomputable abbrev x_node_Value : Cx := ⟨Tryd.prog, ⟨id, nf_node_Value, fp_node_Value⟩, an_node_Value⟩
theorem start_node_Value {args : List PV} {r : PV} (ha : args.length = 1) (h : awp x_node_Value c_node_Value (bodyR Tryd.prog [.tmp 2] r []) (initSt args [])) : PC Tryd.prog 43 args r :=
  pc_of_awp (X := x_node_Value) mixed Tryd.func43 (c := c_node_Value) (by kernel_rfl) (by kernel_rfl) (rs := [.tmp 2]) (by kernel_rfl) (by kernel_rfl) (by rw [ha]; decide) h
noncomputable def c_slices_Equal_string : Code := (Tryd.f69.body).getD .skip
def nf_slices_Equal_string : List (Nat × Nf) := []
def fp_slices_Equal_string : List (Nat × List Nat) := []
def an_slices_Equal_string : Nat → Ann
  | 0 => ⟨[0, 1], [], [], [], []⟩
  | 1 => ⟨[0, 1, 10], [], [], [], []⟩
  | 2 => ⟨[4], [], [], [], []⟩
  | 3 => ⟨[0, 1, 12, 13], [], [], [], []⟩
  | 4 => ⟨[0, 1, 12, 13, 14], [], [], [], []⟩
  | 5 => ⟨[0, 1, 5, 12, 13], [], [], [], []⟩
  | 6 => ⟨[0, 1, 12, 13, 24], [], [], [], []⟩
  | 7 => ⟨[4], [], [], [], []⟩
  | 8 => ⟨[0, 1, 12, 13], [], [], [], []⟩
  | 9 => ⟨[4], [], [], [], []⟩
  | _ => ⟨[], [], [], [], []⟩
noncomputable abbrev x_slices_Equal_string : Cx := ⟨Tryd.prog, ⟨id, nf_slices_Equal_string, fp_slices_Equal_string⟩, an_slices_Equal_string⟩
theorem start_slices_Equal_string {args : List PV} {r : PV} (ha : args.length = 2) (h : awp x_slices_Equal_string c_slices_Equal_string (bodyR Tryd.prog [.tmp 4] r []) (initSt args [])) : PC Tryd.prog 69 args r :=
  pc_of_awp (X := x_slices_Equal_string) mixed Tryd.func69 (c := c_slices_Equal_string) (by kernel_rfl) (by kernel_rfl) (rs := [.tmp 4]) (by kernel_rfl) (by kernel_rfl) (by rw [ha]; decide) h
noncomputable def c_node_alike : Code := (Tryd.f64.body).getD .skip
def nf_node_alike : List (Nat × Nf) := []
def fp_node_alike : List (Nat × List Nat) := []
def an_node_alike : Nat → Ann
  | 0 => ⟨[2, 3], [2, 3], [], [], [2, 3]⟩
  | 1 => ⟨[4], [], [], [], []⟩
  | _ => ⟨[], [], [], [], []⟩
noncomputable abbrev x_node_alike : Cx := ⟨Tryd.prog, ⟨id, nf_node_alike, fp_node_alike⟩, an_node_alike⟩
theorem start_node_alike {args : List PV} {r : PV} (ha : args.length = 2) (h : awp x_node_alike c_node_alike (bodyR Tryd.prog [.tmp 4] r []) (initSt args [])) : PC Tryd.prog 64 args r :=
  pc_of_awp (X := x_node_alike) mixed Tryd.func64 (c := c_node_alike) (by kernel_rfl) (by kernel_rfl) (rs := [.tmp 4]) (by kernel_rfl) (by kernel_rfl) (by rw [ha]; decide) h
noncomputable def c_node_rise : Code := (Tryd.f89.body).getD .skip
def nf_node_rise : List (Nat × Nf) := []
def fp_node_rise : List (Nat × List Nat) := []
def an_node_rise : Nat → Ann
  | 0 => ⟨[0], [], [], [], []⟩
  | 1 => ⟨[0, 5, 6, 7], [], [], [], []⟩
  | 2 => ⟨[0, 5, 6, 7, 8], [], [], [], []⟩
  | 3 => ⟨[0, 3, 4, 5, 6, 7], [], [], [], []⟩
  | 4 => ⟨[0, 5, 6, 7, 27], [], [], [], []⟩
  | 5 => ⟨[2], [], [], [], []⟩
  | 6 => ⟨[0, 5, 6, 7], [], [], [], []⟩
  | 7 => ⟨[2], [], [], [], []⟩
  | _ => ⟨[], [], [], [], []⟩
noncomputable abbrev x_node_rise : Cx := ⟨Tryd.prog, ⟨id, nf_node_rise, fp_node_rise⟩, an_node_rise⟩
theorem start_node_rise {args : List PV} {r : PV} (ha : args.length = 1) (h : awp x_node_rise c_node_rise (bodyR Tryd.prog [.tmp 2] r []) (initSt args [])) : PC Tryd.prog 89 args r :=
  pc_of_awp (X := x_node_rise) mixed Tryd.func89 (c := c_node_rise) (by kernel_rfl) (by kernel_rfl) (rs := [.tmp 2]) (by kernel_rfl) (by kernel_rfl) (by rw [ha]; decide) h
noncomputable def c_node_formed : Code := (Tryd.f62.body).getD .skip
def nf_node_formed : List (Nat × Nf) := []
def fp_node_formed : List (Nat × List Nat) := []
def an_node_formed : Nat → Ann
  | 0 => ⟨[1], [1], [], [], [1]⟩
  | 1 => ⟨[1, 9], [1], [], [], [1]⟩
  | 2 => ⟨[2], [], [], [], []⟩
  | 3 => ⟨[1, 3], [1, 3], [.thaw 3 3 1], [], [1, 3]⟩
  | 4 => ⟨[1, 3, 34, 35, 36], [1, 3], [], [], [1, 3]⟩
  | 5 => ⟨[1, 3, 34, 35, 36, 37], [1, 3], [], [], [1, 3]⟩
  | 6 => ⟨[1, 3, 5, 34, 35, 36], [1, 3, 5], [], [], [1, 3, 5]⟩
  | 7 => ⟨[1, 3, 5, 34, 35, 36, 43], [1, 3, 5], [], [], [1, 3, 5]⟩
  | 8 => ⟨[2], [], [], [], []⟩
  | 9 => ⟨[1, 3, 34, 35, 36], [1, 3], [], [], [1, 3]⟩
  | 10 => ⟨[1, 3, 34, 35, 36], [1, 3], [], [], [1, 3]⟩
  | 11 => ⟨[1, 69], [1], [], [], [1]⟩
  | 12 => ⟨[2], [], [], [], []⟩
  | 13 => ⟨[1, 71, 72, 73], [1], [], [], [1]⟩
  | 14 => ⟨[1, 71, 72, 73, 74], [1], [], [], [1]⟩
  | 15 => ⟨[1, 6, 7, 71, 72, 73], [1, 7], [], [], [1, 7]⟩
  | 16 => ⟨[1, 71, 72, 73, 94], [1], [], [], [1]⟩
  | 17 => ⟨[2], [], [], [], []⟩
  | 18 => ⟨[1, 71, 72, 73], [1], [], [], [1]⟩
  | 19 => ⟨[2], [], [], [], []⟩
  | _ => ⟨[], [], [], [], []⟩
noncomputable abbrev x_node_formed : Cx := ⟨Tryd.prog, ⟨id, nf_node_formed, fp_node_formed⟩, an_node_formed⟩
theorem start_node_formed {args : List PV} {r : PV} (ha : args.length = 1) (h : awp x_node_formed c_node_formed (bodyR Tryd.prog [.tmp 2] r []) (initSt args [])) : PC Tryd.prog 62 args r :=
  pc_of_awp (X := x_node_formed) mixed Tryd.func62 (c := c_node_formed) (by kernel_rfl) (by kernel_rfl) (rs := [.tmp 2]) (by kernel_rfl) (by kernel_rfl) (by rw [ha]; decide) h
noncomputable def c_node_Check : Code := (Tryd.f33.body).getD .skip
def nf_node_Check : List (Nat × Nf) := []
def fp_node_Check : List (Nat × List Nat) := []
def an_node_Check : Nat → Ann
  | 0 => ⟨[1], [1], [], [], [1]⟩
  | 1 => ⟨[1, 3], [1], [], [], [1]⟩
  | 2 => ⟨[2], [], [], [], []⟩
  | 3 => ⟨[1, 7], [1], [], [], [1]⟩
  | 4 => ⟨[2], [], [], [], []⟩
  | 5 => ⟨[11], [], [], [], []⟩
  | 6 => ⟨[2], [], [], [], []⟩
  | 7 => ⟨[2], [], [], [], []⟩
  | _ => ⟨[], [], [], [], []⟩
noncomputable abbrev x_node_Check : Cx := ⟨Tryd.prog, ⟨id, nf_node_Check, fp_node_Check⟩, an_node_Check⟩
theorem start_node_Check {args : List PV} {r : PV} (ha : args.length = 1) (h : awp x_node_Check c_node_Check (bodyR Tryd.prog [.tmp 2] r []) (initSt args [])) : PC Tryd.prog 33 args r :=
  pc_of_awp (X := x_node_Check) mixed Tryd.func33 (c := c_node_Check) (by kernel_rfl) (by kernel_rfl) (rs := [.tmp 2]) (by kernel_rfl) (by kernel_rfl) (by rw [ha]; decide) h
noncomputable def c_node_Right : Code := (Tryd.f34.body).getD .skip
def nf_node_Right : List (Nat × Nf) := []
def fp_node_Right : List (Nat × List Nat) := []
def an_node_Right : Nat → Ann
  | 0 => ⟨[1], [1], [], [], [1]⟩
  | 1 => ⟨[2], [], [], [], []⟩
  | _ => ⟨[], [], [], [], []⟩
noncomputable abbrev x_node_Right : Cx := ⟨Tryd.prog, ⟨id, nf_node_Right, fp_node_Right⟩, an_node_Right⟩
theorem start_node_Right {args : List PV} {r : PV} (ha : args.length = 1) (h : awp x_node_Right c_node_Right (bodyR Tryd.prog [.tmp 2] r []) (initSt args [])) : PC Tryd.prog 34 args r :=
  pc_of_awp (X := x_node_Right) mixed Tryd.func34 (c := c_node_Right) (by kernel_rfl) (by kernel_rfl) (rs := [.tmp 2]) (by kernel_rfl) (by kernel_rfl) (by rw [ha]; decide) h
noncomputable def c_diptychlaw1_shown : Code := (Tryd.f30.body).getD .skip
def nf_diptychlaw1_shown : List (Nat × Nf) := [(2, [none, none, some 1, some 2, some 5]), (4, [none, none, some 1, some 2, some 5]), (6, [none, none, some 1, some 2, some 5])]
def fp_diptychlaw1_shown : List (Nat × List Nat) := []
def an_diptychlaw1_shown : Nat → Ann
  | 0 => ⟨[], [], [], [], []⟩
  | 1 => ⟨[1], [1], [], [], [1]⟩
  | 2 => ⟨[0], [], [], [], []⟩
  | _ => ⟨[], [], [], [], []⟩
noncomputable abbrev x_diptychlaw1_shown : Cx := ⟨Tryd.prog, ⟨id, nf_diptychlaw1_shown, fp_diptychlaw1_shown⟩, an_diptychlaw1_shown⟩
theorem start_diptychlaw1_shown {args : List PV} {r : PV} (ha : args.length = 0) (h : awp x_diptychlaw1_shown c_diptychlaw1_shown (bodyR Tryd.prog [.tmp 0] r []) (initSt args [])) : PC Tryd.prog 30 args r :=
  pc_of_awp (X := x_diptychlaw1_shown) mixed Tryd.func30 (c := c_diptychlaw1_shown) (by kernel_rfl) (by kernel_rfl) (rs := [.tmp 0]) (by kernel_rfl) (by kernel_rfl) (by rw [ha]; decide) h
noncomputable def c_diptychlaw1_pick : Code := (Tryd.f31.body).getD .skip
def nf_diptychlaw1_pick : List (Nat × Nf) := []
def fp_diptychlaw1_pick : List (Nat × List Nat) := []
def an_diptychlaw1_pick : Nat → Ann
  | 0 => ⟨[0, 1], [], [], [], []⟩
  | 1 => ⟨[0, 1, 6], [], [], [], []⟩
  | 2 => ⟨[0, 1], [], [], [], []⟩
  | 3 => ⟨[4], [], [], [], []⟩
  | _ => ⟨[], [], [], [], []⟩
noncomputable abbrev x_diptychlaw1_pick : Cx := ⟨Tryd.prog, ⟨id, nf_diptychlaw1_pick, fp_diptychlaw1_pick⟩, an_diptychlaw1_pick⟩
theorem start_diptychlaw1_pick {args : List PV} {r : PV} (ha : args.length = 2) (h : awp x_diptychlaw1_pick c_diptychlaw1_pick (bodyR Tryd.prog [.tmp 4] r []) (initSt args [])) : PC Tryd.prog 31 args r :=
  pc_of_awp (X := x_diptychlaw1_pick) mixed Tryd.func31 (c := c_diptychlaw1_pick) (by kernel_rfl) (by kernel_rfl) (rs := [.tmp 4]) (by kernel_rfl) (by kernel_rfl) (by rw [ha]; decide) h
noncomputable def c_diptychref1_sameNames : Code := (Tryd.f84.body).getD .skip
def nf_diptychref1_sameNames : List (Nat × Nf) := []
def fp_diptychref1_sameNames : List (Nat × List Nat) := []
def an_diptychref1_sameNames : Nat → Ann
  | 0 => ⟨[0, 1], [], [], [], []⟩
  | 1 => ⟨[0, 1, 10], [], [], [], []⟩
  | 2 => ⟨[4], [], [], [], []⟩
  | 3 => ⟨[0, 1, 5], [], [], [], []⟩
  | 4 => ⟨[0, 1, 5, 14], [], [], [], []⟩
  | 5 => ⟨[0, 1, 5], [], [], [], []⟩
  | 6 => ⟨[0, 1, 5, 25], [], [], [], []⟩
  | 7 => ⟨[4], [], [], [], []⟩
  | 8 => ⟨[4], [], [], [], []⟩
  | _ => ⟨[], [], [], [], []⟩
noncomputable abbrev x_diptychref1_sameNames : Cx := ⟨Tryd.prog, ⟨id, nf_diptychref1_sameNames, fp_diptychref1_sameNames⟩, an_diptychref1_sameNames⟩
theorem start_diptychref1_sameNames {args : List PV} {r : PV} (ha : args.length = 2) (h : awp x_diptychref1_sameNames c_diptychref1_sameNames (bodyR Tryd.prog [.tmp 4] r []) (initSt args [])) : PC Tryd.prog 84 args r :=
  pc_of_awp (X := x_diptychref1_sameNames) mixed Tryd.func84 (c := c_diptychref1_sameNames) (by kernel_rfl) (by kernel_rfl) (rs := [.tmp 4]) (by kernel_rfl) (by kernel_rfl) (by rw [ha]; decide) h
noncomputable def c_diptychref1_Join : Code := (Tryd.f55.body).getD .skip
def nf_diptychref1_Join : List (Nat × Nf) := []
def fp_diptychref1_Join : List (Nat × List Nat) := [(65, [3]), (66, [3, 62]), (67, [5]), (69, [62, 68])]
def an_diptychref1_Join : Nat → Ann
  | 0 => ⟨[0], [], [], [], []⟩
  | 1 => ⟨[0, 3], [3], [.thaw 3 3 5], [], [3]⟩
  | 2 => ⟨[0, 3, 4], [3], [], [], [3]⟩
  | 3 => ⟨[0, 3, 4, 10], [3], [], [], [3]⟩
  | 4 => ⟨[0, 3, 4], [3], [], [], [3]⟩
  | 5 => ⟨[0, 3, 4, 5], [3, 5], [], [], [3, 5]⟩
  | 6 => ⟨[0, 3, 4, 5, 6], [3, 5], [], [], [3, 5]⟩
  | 7 => ⟨[0, 3, 4, 5, 6, 27], [3, 5], [], [], [3, 5]⟩
  | 8 => ⟨[0, 3, 4, 5, 6, 52], [3, 5], [], [], [3, 5]⟩
  | 9 => ⟨[0, 3, 4, 5, 6], [3, 5], [], [], [3, 5]⟩
  | 10 => ⟨[0, 3, 4], [62], [], [.ren 62 3], [3, 62]⟩
  | 11 => ⟨[0, 3, 4], [3], [], [], [3]⟩
  | 12 => ⟨[2], [3], [], [.ren 3 2], [2, 3]⟩
  | _ => ⟨[], [], [], [], []⟩
noncomputable abbrev x_diptychref1_Join : Cx := ⟨Tryd.prog, ⟨id, nf_diptychref1_Join, fp_diptychref1_Join⟩, an_diptychref1_Join⟩
theorem start_diptychref1_Join {args : List PV} {r : PV} (ha : args.length = 1) (h : awp x_diptychref1_Join c_diptychref1_Join (bodyR Tryd.prog [.tmp 2] r []) (initSt args [])) : PC Tryd.prog 55 args r :=
  pc_of_awp (X := x_diptychref1_Join) mixed Tryd.func55 (c := c_diptychref1_Join) (by kernel_rfl) (by kernel_rfl) (rs := [.tmp 2]) (by kernel_rfl) (by kernel_rfl) (by rw [ha]; decide) h
noncomputable def c_diptychlaw1_made : Code := (Tryd.f35.body).getD .skip
def nf_diptychlaw1_made : List (Nat × Nf) := [(32, [none, none, some 1, some 2, some 5]), (61, [none, none, some 1, some 2, some 5])]
def fp_diptychlaw1_made : List (Nat × List Nat) := []
def an_diptychlaw1_made : Nat → Ann
  | 0 => ⟨[0], [], [], [], []⟩
  | 1 => ⟨[0, 3], [10], [], [.ren 10 3], [3, 10]⟩
  | 2 => ⟨[0, 3, 4], [3, 11], [], [.ren 11 4], [3, 4, 11]⟩
  | 3 => ⟨[0, 3, 4, 5], [3, 4, 5], [.thaw 5 5 5], [], [3, 4, 5]⟩
  | 4 => ⟨[0, 3, 4, 5, 6], [3, 4, 5], [], [], [3, 4, 5]⟩
  | 5 => ⟨[0, 3, 4, 5, 6, 19], [3, 4, 5], [], [], [3, 4, 5]⟩
  | 6 => ⟨[0, 3, 4, 5, 6], [3, 4, 5], [], [], [3, 4, 5]⟩
  | 7 => ⟨[0, 3, 4, 5, 6, 7], [3, 4, 5, 7], [], [], [3, 4, 5, 7]⟩
  | 8 => ⟨[0, 3, 4, 5, 6, 7, 8], [3, 4, 5, 7, 8], [], [], [3, 4, 5, 7, 8]⟩
  | 9 => ⟨[0, 3, 4, 5, 6, 7, 8, 36], [3, 4, 5, 7, 8], [], [], [3, 4, 5, 7, 8]⟩
  | 10 => ⟨[0, 3, 4, 5, 6, 7, 8], [3, 4, 5, 7, 8], [.nrm 8 [none, none, none, some 2, none]], [], [3, 4, 5, 7, 8]⟩
  | 11 => ⟨[0, 3, 4, 5, 6, 7, 8, 49], [3, 4, 5, 7, 8], [], [], [3, 4, 5, 7, 8]⟩
  | 12 => ⟨[0, 3, 4, 5, 6, 7, 8, 49, 50], [3, 4, 5, 7, 8], [], [], [3, 4, 5, 7, 8]⟩
  | 13 => ⟨[0, 3, 4, 5, 6, 7, 8, 49, 50], [3, 4, 5, 7, 8], [], [], [3, 4, 5, 7, 8]⟩
  | 14 => ⟨[0, 3, 4, 5, 6, 7, 8, 49, 50], [3, 4, 5, 7, 8], [], [], [3, 4, 5, 7, 8]⟩
  | 15 => ⟨[0, 3, 4, 5, 6, 7, 8, 49, 50], [3, 4, 5, 7, 8], [], [], [3, 4, 5, 7, 8]⟩
  | 16 => ⟨[0, 3, 4, 5, 6, 7, 8], [3, 4, 5, 7, 8], [], [], [3, 4, 5, 7, 8]⟩
  | 17 => ⟨[0, 3, 4, 5, 6, 7, 8, 65], [3, 4, 5, 7, 8], [], [], [3, 4, 5, 7, 8]⟩
  | 18 => ⟨[0, 3, 4, 5, 6, 7, 8], [3, 4, 5, 7, 8], [.nrm 8 [none, none, some 1, none, none]], [], [3, 4, 5, 7, 8]⟩
  | 19 => ⟨[0, 3, 4, 5, 6, 8, 71], [3, 4, 5, 8], [], [], [3, 4, 5, 8]⟩
  | 20 => ⟨[0, 3, 4, 5, 6, 8], [3, 4, 5, 8], [.nrm 8 [none, none, some 1, none, none]], [], [3, 4, 5, 8]⟩
  | 21 => ⟨[0, 3, 4, 5, 6, 7, 8, 49, 74], [3, 4, 5, 7, 8], [], [], [3, 4, 5, 7, 8]⟩
  | 22 => ⟨[0, 3, 4, 5, 6, 7, 8, 49, 74], [3, 4, 5, 7, 8], [], [], [3, 4, 5, 7, 8]⟩
  | 23 => ⟨[0, 3, 4, 5, 6, 7, 8, 74], [3, 4, 5, 7, 8], [], [], [3, 4, 5, 7, 8]⟩
  | 24 => ⟨[0, 3, 4, 5, 6, 8, 9], [3, 4, 5, 8], [], [], [3, 4, 5, 8]⟩
  | 25 => ⟨[0, 3, 4, 5, 6, 8, 9], [3, 4, 5, 8], [], [], [3, 4, 5, 8]⟩
  | 26 => ⟨[0, 3, 4, 5, 6, 8], [3, 4, 8, 94], [], [.ren 94 5], [3, 4, 5, 8, 94]⟩
  | 27 => ⟨[0, 3, 4, 5, 6], [3, 4, 5], [], [], [3, 4, 5]⟩
  | 28 => ⟨[2], [], [], [], []⟩
  | _ => ⟨[], [], [], [], []⟩
noncomputable abbrev x_diptychlaw1_made : Cx := ⟨Tryd.prog, ⟨id, nf_diptychlaw1_made, fp_diptychlaw1_made⟩, an_diptychlaw1_made⟩
theorem start_diptychlaw1_made {args : List PV} {r : PV} (ha : args.length = 1) (h : awp x_diptychlaw1_made c_diptychlaw1_made (bodyR Tryd.prog [.tmp 2] r []) (initSt args [])) : PC Tryd.prog 35 args r :=
  pc_of_awp (X := x_diptychlaw1_made) mixed Tryd.func35 (c := c_diptychlaw1_made) (by kernel_rfl) (by kernel_rfl) (rs := [.tmp 2]) (by kernel_rfl) (by kernel_rfl) (by rw [ha]; decide) h
noncomputable def c_node_Join : Code := (Tryd.f36.body).getD .skip
def nf_node_Join : List (Nat × Nf) := []
def fp_node_Join : List (Nat × List Nat) := []
def an_node_Join : Nat → Ann
  | 0 => ⟨[0], [], [], [], []⟩
  | 1 => ⟨[0, 3], [3], [.thaw 3 3 5], [], [3]⟩
  | 2 => ⟨[3, 7, 8, 9], [3], [], [], [3]⟩
  | 3 => ⟨[3, 7, 8, 9, 10], [3], [], [], [3]⟩
  | 4 => ⟨[3, 5, 7, 8, 9], [3, 5], [], [], [3, 5]⟩
  | 5 => ⟨[3, 5, 6, 7, 8, 9], [3, 5], [], [], [3, 5]⟩
  | 6 => ⟨[3, 7, 8, 9], [3], [], [], [3]⟩
  | 7 => ⟨[3, 5, 6, 7, 8, 9, 20], [3, 5], [], [], [3, 5]⟩
  | 8 => ⟨[3, 5, 6, 7, 8, 9, 28], [3, 5], [], [], [3, 5]⟩
  | 9 => ⟨[3, 5, 6, 7, 8, 9], [3, 5], [], [], [3, 5]⟩
  | 10 => ⟨[3, 7, 8, 9], [3], [], [], [3]⟩
  | 11 => ⟨[3, 7, 8, 9], [3], [], [], [3]⟩
  | 12 => ⟨[2], [3], [], [.ren 3 2], [2, 3]⟩
  | _ => ⟨[], [], [], [], []⟩
noncomputable abbrev x_node_Join : Cx := ⟨Tryd.prog, ⟨id, nf_node_Join, fp_node_Join⟩, an_node_Join⟩
theorem start_node_Join {args : List PV} {r : PV} (ha : args.length = 1) (h : awp x_node_Join c_node_Join (bodyR Tryd.prog [.tmp 2] r []) (initSt args [])) : PC Tryd.prog 36 args r :=
  pc_of_awp (X := x_node_Join) mixed Tryd.func36 (c := c_node_Join) (by kernel_rfl) (by kernel_rfl) (rs := [.tmp 2]) (by kernel_rfl) (by kernel_rfl) (by rw [ha]; decide) h
noncomputable def c_diptychref1_Same : Code := (Tryd.f65.body).getD .skip
def nf_diptychref1_Same : List (Nat × Nf) := []
def fp_diptychref1_Same : List (Nat × List Nat) := []
def an_diptychref1_Same : Nat → Ann
  | 0 => ⟨[2, 3], [2, 3], [], [], [2, 3]⟩
  | 1 => ⟨[2, 3, 34], [2, 3], [], [], [2, 3]⟩
  | 2 => ⟨[4], [], [], [], []⟩
  | 3 => ⟨[2, 3, 5], [2, 3], [], [], [2, 3]⟩
  | 4 => ⟨[2, 3, 5, 39], [2, 3], [], [], [2, 3]⟩
  | 5 => ⟨[2, 3, 5], [2, 3], [], [], [2, 3]⟩
  | 6 => ⟨[2, 3, 5, 52], [2, 3], [], [], [2, 3]⟩
  | 7 => ⟨[4], [], [], [], []⟩
  | 8 => ⟨[4], [], [], [], []⟩
  | _ => ⟨[], [], [], [], []⟩
noncomputable abbrev x_diptychref1_Same : Cx := ⟨Tryd.prog, ⟨id, nf_diptychref1_Same, fp_diptychref1_Same⟩, an_diptychref1_Same⟩
theorem start_diptychref1_Same {args : List PV} {r : PV} (ha : args.length = 2) (h : awp x_diptychref1_Same c_diptychref1_Same (bodyR Tryd.prog [.tmp 4] r []) (initSt args [])) : PC Tryd.prog 65 args r :=
  pc_of_awp (X := x_diptychref1_Same) mixed Tryd.func65 (c := c_diptychref1_Same) (by kernel_rfl) (by kernel_rfl) (rs := [.tmp 4]) (by kernel_rfl) (by kernel_rfl) (by rw [ha]; decide) h
noncomputable def c_diptychref1_SameAll : Code := (Tryd.f37.body).getD .skip
def nf_diptychref1_SameAll : List (Nat × Nf) := []
def fp_diptychref1_SameAll : List (Nat × List Nat) := []
def an_diptychref1_SameAll : Nat → Ann
  | 0 => ⟨[0, 1], [], [], [], []⟩
  | 1 => ⟨[0, 1, 10], [], [], [], []⟩
  | 2 => ⟨[4], [], [], [], []⟩
  | 3 => ⟨[0, 1, 5], [], [], [], []⟩
  | 4 => ⟨[0, 1, 5, 14], [], [], [], []⟩
  | 5 => ⟨[0, 1, 5], [], [], [], []⟩
  | 6 => ⟨[0, 1, 5, 26], [], [], [], []⟩
  | 7 => ⟨[4], [], [], [], []⟩
  | 8 => ⟨[4], [], [], [], []⟩
  | _ => ⟨[], [], [], [], []⟩
noncomputable abbrev x_diptychref1_SameAll : Cx := ⟨Tryd.prog, ⟨id, nf_diptychref1_SameAll, fp_diptychref1_SameAll⟩, an_diptychref1_SameAll⟩
theorem start_diptychref1_SameAll {args : List PV} {r : PV} (ha : args.length = 2) (h : awp x_diptychref1_SameAll c_diptychref1_SameAll (bodyR Tryd.prog [.tmp 4] r []) (initSt args [])) : PC Tryd.prog 37 args r :=
  pc_of_awp (X := x_diptychref1_SameAll) mixed Tryd.func37 (c := c_diptychref1_SameAll) (by kernel_rfl) (by kernel_rfl) (rs := [.tmp 4]) (by kernel_rfl) (by kernel_rfl) (by rw [ha]; decide) h
noncomputable def c_strings_Builder_WriteString_x : Code := (Tryd.f79.body).getD .skip
def nf_strings_Builder_WriteString_x : List (Nat × Nf) := []
def fp_strings_Builder_WriteString_x : List (Nat × List Nat) := []
def an_strings_Builder_WriteString_x : Nat → Ann
  | 0 => ⟨[0, 1], [1000, 1001], [], [], [1000, 1001]⟩
  | 1 => ⟨[0, 1], [1000, 1001], [], [], [1000, 1001]⟩
  | 2 => ⟨[1], [1000, 1001], [], [], [1000, 1001]⟩
  | 3 => ⟨[4, 5], [1000, 1001], [], [], [1000, 1001]⟩
  | _ => ⟨[], [], [], [], []⟩
noncomputable abbrev x_strings_Builder_WriteString_x : Cx := ⟨Tryd.prog, ⟨id, nf_strings_Builder_WriteString_x, fp_strings_Builder_WriteString_x⟩, an_strings_Builder_WriteString_x⟩
theorem start_strings_Builder_WriteString_x {args : List PV} {es es' : List Ent} {r : PV} (ha : args.length = 2) (hl : es'.length = es.length) (he : (es'.all fun e => e.extOk es.length) = true) (h : awp x_strings_Builder_WriteString_x c_strings_Builder_WriteString_x (bodyR Tryd.prog [.tmp 4, .tmp 5] r es') (initSt args es)) : BC Tryd.prog 79 args es r es' :=
  bc_of_awp (X := x_strings_Builder_WriteString_x) mixed Tryd.func79 (c := c_strings_Builder_WriteString_x) (by kernel_rfl) (by kernel_rfl) (rs := [.tmp 4, .tmp 5]) (by kernel_rfl) (by kernel_rfl) (by rw [ha]; decide) hl (fun e h => List.all_eq_true.1 he e h) h
noncomputable def c_node_Words_1_x : Code := (Tryd.f78.body).getD .skip
def nf_node_Words_1_x : List (Nat × Nf) := []
def fp_node_Words_1_x : List (Nat × List Nat) := []
def an_node_Words_1_x : Nat → Ann
  | 0 => ⟨[1, 2, 3], [3, 1000, 1001, 1002], [], [], [3, 1000, 1001, 1002]⟩
  | 1 => ⟨[1, 2, 3, 7], [3, 1000, 1001, 1002], [], [], [3, 1000, 1001, 1002]⟩
  | 2 => ⟨[], [1000, 1001, 1002], [], [], [1000, 1001, 1002]⟩
  | 3 => ⟨[2, 12, 13, 14], [1000, 1001, 1002], [], [], [1000, 1001, 1002]⟩
  | 4 => ⟨[2, 12, 13, 14, 15], [1000, 1001, 1002], [], [], [1000, 1001, 1002]⟩
  | 5 => ⟨[2, 5, 12, 13, 14], [5, 1000, 1001, 1002], [], [], [5, 1000, 1001, 1002]⟩
  | 6 => ⟨[2, 12, 13, 14], [1000, 1001, 1002], [], [], [1000, 1001, 1002]⟩
  | 7 => ⟨[2, 12, 13, 14], [1000, 1001, 1002], [], [], [1000, 1001, 1002]⟩
  | _ => ⟨[], [], [], [], []⟩
noncomputable abbrev x_node_Words_1_x : Cx := ⟨Tryd.prog, ⟨id, nf_node_Words_1_x, fp_node_Words_1_x⟩, an_node_Words_1_x⟩
theorem start_node_Words_1_x {args : List PV} {es es' : List Ent} {r : PV} (ha : args.length = 3) (hl : es'.length = es.length) (he : (es'.all fun e => e.extOk es.length) = true) (h : awp x_node_Words_1_x c_node_Words_1_x (bodyR Tryd.prog [] r es') (initSt args es)) : BC Tryd.prog 78 args es r es' :=
  bc_of_awp (X := x_node_Words_1_x) mixed Tryd.func78 (c := c_node_Words_1_x) (by kernel_rfl) (by kernel_rfl) (rs := []) (by kernel_rfl) (by kernel_rfl) (by rw [ha]; decide) hl (fun e h => List.all_eq_true.1 he e h) h
noncomputable def c_node_Words : Code := (Tryd.f50.body).getD .skip
def nf_node_Words : List (Nat × Nf) := []
def fp_node_Words : List (Nat × List Nat) := []
def an_node_Words : Nat → Ann
  | 0 => ⟨[1], [1], [], [], [1]⟩
  | 1 => ⟨[1, 3], [1, 3, 322], [.self 3 0, .thawB 3 1 322 5], [], [1, 3, 322]⟩
  | 2 => ⟨[1, 3, 4], [1, 3, 4, 322], [], [], [1, 3, 4, 322]⟩
  | 3 => ⟨[1, 3, 4], [1, 3, 4, 322], [], [], [1, 3, 4, 322]⟩
  | 4 => ⟨[3], [3, 322], [], [], [3, 322]⟩
  | 5 => ⟨[2], [], [], [], []⟩
  | _ => ⟨[], [], [], [], []⟩
noncomputable abbrev x_node_Words : Cx := ⟨Tryd.prog, ⟨id, nf_node_Words, fp_node_Words⟩, an_node_Words⟩
theorem start_node_Words {args : List PV} {r : PV} (ha : args.length = 1) (h : awp x_node_Words c_node_Words (bodyR Tryd.prog [.tmp 2] r []) (initSt args [])) : PC Tryd.prog 50 args r :=
  pc_of_awp (X := x_node_Words) mixed Tryd.func50 (c := c_node_Words) (by kernel_rfl) (by kernel_rfl) (rs := [.tmp 2]) (by kernel_rfl) (by kernel_rfl) (by rw [ha]; decide) h
noncomputable def c_diptychlaw1_NodeTwice : Code := (Tryd.f12.body).getD .skip
def nf_diptychlaw1_NodeTwice : List (Nat × Nf) := [(36, [none, none, some 1, some 2, none]), (51, [none, none, some 1, some 2, some 5])]
def fp_diptychlaw1_NodeTwice : List (Nat × List Nat) := [(25, []), (26, [22]), (29, []), (30, [22])]
def an_diptychlaw1_NodeTwice : Nat → Ann
  | 0 => ⟨[0, 1], [], [], [], []⟩
  | 1 => ⟨[0, 1, 5], [], [], [], []⟩
  | 2 => ⟨[0, 1, 14], [], [], [], []⟩
  | 3 => ⟨[4], [], [], [], []⟩
  | 4 => ⟨[1, 6], [], [], [], []⟩
  | 5 => ⟨[6, 7], [], [], [], []⟩
  | 6 => ⟨[8], [22], [], [.ren 22 8], [8, 22]⟩
  | 7 => ⟨[8, 9], [8], [], [], [8]⟩
  | 8 => ⟨[8, 9, 10], [8], [], [], [8]⟩
  | 9 => ⟨[8, 9, 10, 11], [8, 11], [], [], [8, 11]⟩
  | 10 => ⟨[4], [], [], [], []⟩
  | _ => ⟨[], [], [], [], []⟩
noncomputable abbrev x_diptychlaw1_NodeTwice : Cx := ⟨Tryd.prog, ⟨id, nf_diptychlaw1_NodeTwice, fp_diptychlaw1_NodeTwice⟩, an_diptychlaw1_NodeTwice⟩
theorem start_diptychlaw1_NodeTwice {args : List PV} {r : PV} (ha : args.length = 2) (h : awp x_diptychlaw1_NodeTwice c_diptychlaw1_NodeTwice (bodyR Tryd.prog [.tmp 4] r []) (initSt args [])) : PC Tryd.prog 12 args r :=
  pc_of_awp (X := x_diptychlaw1_NodeTwice) mixed Tryd.func12 (c := c_diptychlaw1_NodeTwice) (by kernel_rfl) (by kernel_rfl) (rs := [.tmp 4]) (by kernel_rfl) (by kernel_rfl) (by rw [ha]; decide) h
noncomputable def c_diptychlaw1_light : Code := (Tryd.f40.body).getD .skip
def nf_diptychlaw1_light : List (Nat × Nf) := []
def fp_diptychlaw1_light : List (Nat × List Nat) := []
def an_diptychlaw1_light : Nat → Ann
  | 0 => ⟨[1, 2], [2], [], [], [2]⟩
  | 1 => ⟨[1, 2], [2], [], [], [2]⟩
  | 2 => ⟨[1, 2, 5], [2], [], [], [2]⟩
  | 3 => ⟨[1, 2, 5, 26], [2], [], [], [2]⟩
  | 4 => ⟨[1, 2, 5], [2], [], [], [2]⟩
  | 5 => ⟨[1, 2, 5], [2], [], [], [2]⟩
  | 6 => ⟨[1, 2, 6], [2], [], [], [2]⟩
  | 7 => ⟨[1, 2, 6, 46], [2], [], [], [2]⟩
  | 8 => ⟨[1, 2, 6], [2], [], [], [2]⟩
  | 9 => ⟨[1, 2, 6], [2], [], [], [2]⟩
  | 10 => ⟨[1, 2, 7], [2], [], [], [2]⟩
  | 11 => ⟨[1, 2, 7, 75], [2], [], [], [2]⟩
  | 12 => ⟨[1, 2, 7], [2], [], [], [2]⟩
  | 13 => ⟨[1, 2, 7], [2], [], [], [2]⟩
  | 14 => ⟨[1, 86], [], [], [], []⟩
  | 15 => ⟨[4], [], [], [], []⟩
  | 16 => ⟨[4], [], [], [], []⟩
  | _ => ⟨[], [], [], [], []⟩
noncomputable abbrev x_diptychlaw1_light : Cx := ⟨Tryd.prog, ⟨id, nf_diptychlaw1_light, fp_diptychlaw1_light⟩, an_diptychlaw1_light⟩
theorem start_diptychlaw1_light {args : List PV} {r : PV} (ha : args.length = 2) (h : awp x_diptychlaw1_light c_diptychlaw1_light (bodyR Tryd.prog [.tmp 4] r []) (initSt args [])) : PC Tryd.prog 40 args r :=
  pc_of_awp (X := x_diptychlaw1_light) mixed Tryd.func40 (c := c_diptychlaw1_light) (by kernel_rfl) (by kernel_rfl) (rs := [.tmp 4]) (by kernel_rfl) (by kernel_rfl) (by rw [ha]; decide) h
noncomputable def c_diptychref1_Name : Code := (Tryd.f42.body).getD .skip
def nf_diptychref1_Name : List (Nat × Nf) := []
def fp_diptychref1_Name : List (Nat × List Nat) := []
def an_diptychref1_Name : Nat → Ann
  | 0 => ⟨[0], [], [], [], []⟩
  | 1 => ⟨[0, 3], [], [], [], []⟩
  | 2 => ⟨[0, 3, 7], [], [], [], []⟩
  | 3 => ⟨[0, 3], [], [], [], []⟩
  | 4 => ⟨[0, 3, 19], [], [], [], []⟩
  | 5 => ⟨[2], [], [], [], []⟩
  | 6 => ⟨[2], [], [], [], []⟩
  | _ => ⟨[], [], [], [], []⟩
noncomputable abbrev x_diptychref1_Name : Cx := ⟨Tryd.prog, ⟨id, nf_diptychref1_Name, fp_diptychref1_Name⟩, an_diptychref1_Name⟩
theorem start_diptychref1_Name {args : List PV} {r : PV} (ha : args.length = 1) (h : awp x_diptychref1_Name c_diptychref1_Name (bodyR Tryd.prog [.tmp 2] r []) (initSt args [])) : PC Tryd.prog 42 args r :=
  pc_of_awp (X := x_diptychref1_Name) mixed Tryd.func42 (c := c_diptychref1_Name) (by kernel_rfl) (by kernel_rfl) (rs := [.tmp 2]) (by kernel_rfl) (by kernel_rfl) (by rw [ha]; decide) h
noncomputable def c_diptychref1_runes : Code := (Tryd.f77.body).getD .skip
def nf_diptychref1_runes : List (Nat × Nf) := []
def fp_diptychref1_runes : List (Nat × List Nat) := []
def an_diptychref1_runes : Nat → Ann
  | 0 => ⟨[0], [], [], [], []⟩
  | 1 => ⟨[0, 4], [], [], [], []⟩
  | 2 => ⟨[2, 3], [], [], [], []⟩
  | _ => ⟨[], [], [], [], []⟩
noncomputable abbrev x_diptychref1_runes : Cx := ⟨Tryd.prog, ⟨id, nf_diptychref1_runes, fp_diptychref1_runes⟩, an_diptychref1_runes⟩
theorem start_diptychref1_runes {args : List PV} {r : PV} (ha : args.length = 1) (h : awp x_diptychref1_runes c_diptychref1_runes (bodyR Tryd.prog [.tmp 2, .tmp 3] r []) (initSt args [])) : PC Tryd.prog 77 args r :=
  pc_of_awp (X := x_diptychref1_runes) mixed Tryd.func77 (c := c_diptychref1_runes) (by kernel_rfl) (by kernel_rfl) (rs := [.tmp 2, .tmp 3]) (by kernel_rfl) (by kernel_rfl) (by rw [ha]; decide) h
noncomputable def c_diptychref1_formed : Code := (Tryd.f74.body).getD .skip
def nf_diptychref1_formed : List (Nat × Nf) := []
def fp_diptychref1_formed : List (Nat × List Nat) := []
def an_diptychref1_formed : Nat → Ann
  | 0 => ⟨[0], [], [], [], []⟩
  | 1 => ⟨[4], [], [], [], []⟩
  | 2 => ⟨[2], [], [], [], []⟩
  | _ => ⟨[], [], [], [], []⟩
noncomputable abbrev x_diptychref1_formed : Cx := ⟨Tryd.prog, ⟨id, nf_diptychref1_formed, fp_diptychref1_formed⟩, an_diptychref1_formed⟩
theorem start_diptychref1_formed {args : List PV} {r : PV} (ha : args.length = 1) (h : awp x_diptychref1_formed c_diptychref1_formed (bodyR Tryd.prog [.tmp 2] r []) (initSt args [])) : PC Tryd.prog 74 args r :=
  pc_of_awp (X := x_diptychref1_formed) mixed Tryd.func74 (c := c_diptychref1_formed) (by kernel_rfl) (by kernel_rfl) (rs := [.tmp 2]) (by kernel_rfl) (by kernel_rfl) (by rw [ha]; decide) h
noncomputable def c_diptychref1_Value : Code := (Tryd.f44.body).getD .skip
def nf_diptychref1_Value : List (Nat × Nf) := []
def fp_diptychref1_Value : List (Nat × List Nat) := []
def an_diptychref1_Value : Nat → Ann
  | 0 => ⟨[0], [], [], [], []⟩
  | 1 => ⟨[2], [], [], [], []⟩
  | _ => ⟨[], [], [], [], []⟩
noncomputable abbrev x_diptychref1_Value : Cx := ⟨Tryd.prog, ⟨id, nf_diptychref1_Value, fp_diptychref1_Value⟩, an_diptychref1_Value⟩
theorem start_diptychref1_Value {args : List PV} {r : PV} (ha : args.length = 1) (h : awp x_diptychref1_Value c_diptychref1_Value (bodyR Tryd.prog [.tmp 2] r []) (initSt args [])) : PC Tryd.prog 44 args r :=
  pc_of_awp (X := x_diptychref1_Value) mixed Tryd.func44 (c := c_diptychref1_Value) (by kernel_rfl) (by kernel_rfl) (rs := [.tmp 2]) (by kernel_rfl) (by kernel_rfl) (by rw [ha]; decide) h
noncomputable def c_diptychref1_Total : Code := (Tryd.f52.body).getD .skip
def nf_diptychref1_Total : List (Nat × Nf) := []
def fp_diptychref1_Total : List (Nat × List Nat) := []
def an_diptychref1_Total : Nat → Ann
  | 0 => ⟨[0], [], [], [], []⟩
  | 1 => ⟨[0, 3], [], [], [], []⟩
  | 2 => ⟨[0, 3, 4], [], [], [], []⟩
  | 3 => ⟨[0, 3, 4, 8], [], [], [], []⟩
  | 4 => ⟨[0, 3, 4], [], [], [], []⟩
  | 5 => ⟨[0, 3, 4], [], [], [], []⟩
  | 6 => ⟨[2], [], [], [], []⟩
  | _ => ⟨[], [], [], [], []⟩
noncomputable abbrev x_diptychref1_Total : Cx := ⟨Tryd.prog, ⟨id, nf_diptychref1_Total, fp_diptychref1_Total⟩, an_diptychref1_Total⟩
theorem start_diptychref1_Total {args : List PV} {r : PV} (ha : args.length = 1) (h : awp x_diptychref1_Total c_diptychref1_Total (bodyR Tryd.prog [.tmp 2] r []) (initSt args [])) : PC Tryd.prog 52 args r :=
  pc_of_awp (X := x_diptychref1_Total) mixed Tryd.func52 (c := c_diptychref1_Total) (by kernel_rfl) (by kernel_rfl) (rs := [.tmp 2]) (by kernel_rfl) (by kernel_rfl) (by rw [ha]; decide) h
noncomputable def c_diptychref1_Size : Code := (Tryd.f47.body).getD .skip
def nf_diptychref1_Size : List (Nat × Nf) := []
def fp_diptychref1_Size : List (Nat × List Nat) := []
def an_diptychref1_Size : Nat → Ann
  | 0 => ⟨[1], [1], [], [], [1]⟩
  | 1 => ⟨[1, 7], [1], [], [], [1]⟩
  | 2 => ⟨[3], [], [], [], []⟩
  | 3 => ⟨[2], [], [], [], []⟩
  | 4 => ⟨[2], [], [], [], []⟩
  | _ => ⟨[], [], [], [], []⟩
noncomputable abbrev x_diptychref1_Size : Cx := ⟨Tryd.prog, ⟨id, nf_diptychref1_Size, fp_diptychref1_Size⟩, an_diptychref1_Size⟩
theorem start_diptychref1_Size {args : List PV} {r : PV} (ha : args.length = 1) (h : awp x_diptychref1_Size c_diptychref1_Size (bodyR Tryd.prog [.tmp 2] r []) (initSt args [])) : PC Tryd.prog 47 args r :=
  pc_of_awp (X := x_diptychref1_Size) mixed Tryd.func47 (c := c_diptychref1_Size) (by kernel_rfl) (by kernel_rfl) (rs := [.tmp 2]) (by kernel_rfl) (by kernel_rfl) (by rw [ha]; decide) h
noncomputable def c_diptychref1_Depth : Code := (Tryd.f49.body).getD .skip
def nf_diptychref1_Depth : List (Nat × Nf) := []
def fp_diptychref1_Depth : List (Nat × List Nat) := []
def an_diptychref1_Depth : Nat → Ann
  | 0 => ⟨[1], [1], [], [], [1]⟩
  | 1 => ⟨[1, 7], [1], [], [], [1]⟩
  | 2 => ⟨[2], [], [], [], []⟩
  | 3 => ⟨[1, 3], [1], [], [], [1]⟩
  | 4 => ⟨[1, 3, 4], [1], [], [], [1]⟩
  | 5 => ⟨[1, 3, 4, 12], [1], [], [], [1]⟩
  | 6 => ⟨[1, 3, 4], [1], [], [], [1]⟩
  | 7 => ⟨[1, 3, 4], [1], [], [], [1]⟩
  | 8 => ⟨[2], [], [], [], []⟩
  | _ => ⟨[], [], [], [], []⟩
noncomputable abbrev x_diptychref1_Depth : Cx := ⟨Tryd.prog, ⟨id, nf_diptychref1_Depth, fp_diptychref1_Depth⟩, an_diptychref1_Depth⟩
theorem start_diptychref1_Depth {args : List PV} {r : PV} (ha : args.length = 1) (h : awp x_diptychref1_Depth c_diptychref1_Depth (bodyR Tryd.prog [.tmp 2] r []) (initSt args [])) : PC Tryd.prog 49 args r :=
  pc_of_awp (X := x_diptychref1_Depth) mixed Tryd.func49 (c := c_diptychref1_Depth) (by kernel_rfl) (by kernel_rfl) (rs := [.tmp 2]) (by kernel_rfl) (by kernel_rfl) (by rw [ha]; decide) h
noncomputable def c_diptychref1_rise : Code := (Tryd.f98.body).getD .skip
def nf_diptychref1_rise : List (Nat × Nf) := []
def fp_diptychref1_rise : List (Nat × List Nat) := []
def an_diptychref1_rise : Nat → Ann
  | 0 => ⟨[0], [], [], [], []⟩
  | 1 => ⟨[0, 3], [], [], [], []⟩
  | 2 => ⟨[0, 3, 7], [], [], [], []⟩
  | 3 => ⟨[0, 3], [], [], [], []⟩
  | 4 => ⟨[0, 3, 31], [], [], [], []⟩
  | 5 => ⟨[2], [], [], [], []⟩
  | 6 => ⟨[2], [], [], [], []⟩
  | _ => ⟨[], [], [], [], []⟩
noncomputable abbrev x_diptychref1_rise : Cx := ⟨Tryd.prog, ⟨id, nf_diptychref1_rise, fp_diptychref1_rise⟩, an_diptychref1_rise⟩
theorem start_diptychref1_rise {args : List PV} {r : PV} (ha : args.length = 1) (h : awp x_diptychref1_rise c_diptychref1_rise (bodyR Tryd.prog [.tmp 2] r []) (initSt args [])) : PC Tryd.prog 98 args r :=
  pc_of_awp (X := x_diptychref1_rise) mixed Tryd.func98 (c := c_diptychref1_rise) (by kernel_rfl) (by kernel_rfl) (rs := [.tmp 2]) (by kernel_rfl) (by kernel_rfl) (by rw [ha]; decide) h
noncomputable def c_diptychref1_Formed : Code := (Tryd.f75.body).getD .skip
def nf_diptychref1_Formed : List (Nat × Nf) := []
def fp_diptychref1_Formed : List (Nat × List Nat) := []
def an_diptychref1_Formed : Nat → Ann
  | 0 => ⟨[1], [1], [], [], [1]⟩
  | 1 => ⟨[1, 8], [1], [], [], [1]⟩
  | 2 => ⟨[2], [], [], [], []⟩
  | 3 => ⟨[1, 3], [1, 3], [.thaw 3 3 1], [], [1, 3]⟩
  | 4 => ⟨[1, 3, 4], [1, 3], [], [], [1, 3]⟩
  | 5 => ⟨[1, 3, 4, 38], [1, 3], [], [], [1, 3]⟩
  | 6 => ⟨[1, 3, 4], [1, 3], [], [], [1, 3]⟩
  | 7 => ⟨[1, 3, 4], [1, 3], [], [], [1, 3]⟩
  | 8 => ⟨[1, 3, 4, 57], [1, 3], [], [], [1, 3]⟩
  | 9 => ⟨[2], [], [], [], []⟩
  | 10 => ⟨[1, 77], [1], [], [], [1]⟩
  | 11 => ⟨[2], [], [], [], []⟩
  | 12 => ⟨[1, 5], [1], [], [], [1]⟩
  | 13 => ⟨[1, 5, 82], [1], [], [], [1]⟩
  | 14 => ⟨[1, 5], [1], [], [], [1]⟩
  | 15 => ⟨[1, 5, 130], [1], [], [], [1]⟩
  | 16 => ⟨[2], [], [], [], []⟩
  | 17 => ⟨[2], [], [], [], []⟩
  | _ => ⟨[], [], [], [], []⟩
noncomputable abbrev x_diptychref1_Formed : Cx := ⟨Tryd.prog, ⟨id, nf_diptychref1_Formed, fp_diptychref1_Formed⟩, an_diptychref1_Formed⟩
theorem start_diptychref1_Formed {args : List PV} {r : PV} (ha : args.length = 1) (h : awp x_diptychref1_Formed c_diptychref1_Formed (bodyR Tryd.prog [.tmp 2] r []) (initSt args [])) : PC Tryd.prog 75 args r :=
  pc_of_awp (X := x_diptychref1_Formed) mixed Tryd.func75 (c := c_diptychref1_Formed) (by kernel_rfl) (by kernel_rfl) (rs := [.tmp 2]) (by kernel_rfl) (by kernel_rfl) (by rw [ha]; decide) h
noncomputable def c_diptychref1_Check : Code := (Tryd.f45.body).getD .skip
def nf_diptychref1_Check : List (Nat × Nf) := []
def fp_diptychref1_Check : List (Nat × List Nat) := []
def an_diptychref1_Check : Nat → Ann
  | 0 => ⟨[1], [1], [], [], [1]⟩
  | 1 => ⟨[1, 5], [1], [], [], [1]⟩
  | 2 => ⟨[2], [], [], [], []⟩
  | 3 => ⟨[1, 8], [1], [], [], [1]⟩
  | 4 => ⟨[2], [], [], [], []⟩
  | 5 => ⟨[11], [], [], [], []⟩
  | 6 => ⟨[2], [], [], [], []⟩
  | 7 => ⟨[2], [], [], [], []⟩
  | _ => ⟨[], [], [], [], []⟩
noncomputable abbrev x_diptychref1_Check : Cx := ⟨Tryd.prog, ⟨id, nf_diptychref1_Check, fp_diptychref1_Check⟩, an_diptychref1_Check⟩
theorem start_diptychref1_Check {args : List PV} {r : PV} (ha : args.length = 1) (h : awp x_diptychref1_Check c_diptychref1_Check (bodyR Tryd.prog [.tmp 2] r []) (initSt args [])) : PC Tryd.prog 45 args r :=
  pc_of_awp (X := x_diptychref1_Check) mixed Tryd.func45 (c := c_diptychref1_Check) (by kernel_rfl) (by kernel_rfl) (rs := [.tmp 2]) (by kernel_rfl) (by kernel_rfl) (by rw [ha]; decide) h
noncomputable def c_diptychref1_Words : Code := (Tryd.f51.body).getD .skip
def nf_diptychref1_Words : List (Nat × Nf) := []
def fp_diptychref1_Words : List (Nat × List Nat) := []
def an_diptychref1_Words : Nat → Ann
  | 0 => ⟨[1], [1], [], [], [1]⟩
  | 1 => ⟨[1, 7], [1], [], [], [1]⟩
  | 2 => ⟨[2], [], [], [], []⟩
  | 3 => ⟨[1, 3], [1], [], [], [1]⟩
  | 4 => ⟨[1, 3, 4], [1], [], [], [1]⟩
  | 5 => ⟨[1, 3, 4, 14], [1], [], [], [1]⟩
  | 6 => ⟨[1, 3, 4], [1], [], [], [1]⟩
  | 7 => ⟨[1, 3, 4], [1], [], [], [1]⟩
  | 8 => ⟨[2], [], [], [], []⟩
  | _ => ⟨[], [], [], [], []⟩
noncomputable abbrev x_diptychref1_Words : Cx := ⟨Tryd.prog, ⟨id, nf_diptychref1_Words, fp_diptychref1_Words⟩, an_diptychref1_Words⟩
theorem start_diptychref1_Words {args : List PV} {r : PV} (ha : args.length = 1) (h : awp x_diptychref1_Words c_diptychref1_Words (bodyR Tryd.prog [.tmp 2] r []) (initSt args [])) : PC Tryd.prog 51 args r :=
  pc_of_awp (X := x_diptychref1_Words) mixed Tryd.func51 (c := c_diptychref1_Words) (by kernel_rfl) (by kernel_rfl) (rs := [.tmp 2]) (by kernel_rfl) (by kernel_rfl) (by rw [ha]; decide) h
noncomputable def c_diptychlaw1_NodeChecks : Code := (Tryd.f10.body).getD .skip
def nf_diptychlaw1_NodeChecks : List (Nat × Nf) := []
def fp_diptychlaw1_NodeChecks : List (Nat × List Nat) := []
def an_diptychlaw1_NodeChecks : Nat → Ann
  | 0 => ⟨[1, 2], [2], [], [], [2]⟩
  | 1 => ⟨[1, 2, 5], [2], [], [], [2]⟩
  | 2 => ⟨[1, 2, 5, 18], [2], [], [], [2]⟩
  | 3 => ⟨[4], [], [], [], []⟩
  | 4 => ⟨[4], [], [], [], []⟩
  | _ => ⟨[], [], [], [], []⟩
noncomputable abbrev x_diptychlaw1_NodeChecks : Cx := ⟨Tryd.prog, ⟨id, nf_diptychlaw1_NodeChecks, fp_diptychlaw1_NodeChecks⟩, an_diptychlaw1_NodeChecks⟩
theorem start_diptychlaw1_NodeChecks {args : List PV} {r : PV} (ha : args.length = 2) (h : awp x_diptychlaw1_NodeChecks c_diptychlaw1_NodeChecks (bodyR Tryd.prog [.tmp 4] r []) (initSt args [])) : PC Tryd.prog 10 args r :=
  pc_of_awp (X := x_diptychlaw1_NodeChecks) mixed Tryd.func10 (c := c_diptychlaw1_NodeChecks) (by kernel_rfl) (by kernel_rfl) (rs := [.tmp 4]) (by kernel_rfl) (by kernel_rfl) (by rw [ha]; decide) h
attribute [go_sem] an_node_isText nf_node_isText fp_node_isText an_unicode_utf8_RuneCountInString nf_unicode_utf8_RuneCountInString fp_unicode_utf8_RuneCountInString an_node_Size nf_node_Size fp_node_Size an_node_Total nf_node_Total fp_node_Total an_node_Depth nf_node_Depth fp_node_Depth an_node_Name nf_node_Name fp_node_Name an_node_Value nf_node_Value fp_node_Value an_slices_Equal_string nf_slices_Equal_string fp_slices_Equal_string an_node_alike nf_node_alike fp_node_alike an_node_rise nf_node_rise fp_node_rise an_node_formed nf_node_formed fp_node_formed an_node_Check nf_node_Check fp_node_Check an_node_Right nf_node_Right fp_node_Right an_diptychlaw1_shown nf_diptychlaw1_shown fp_diptychlaw1_shown an_diptychlaw1_pick nf_diptychlaw1_pick fp_diptychlaw1_pick an_diptychref1_sameNames nf_diptychref1_sameNames fp_diptychref1_sameNames an_diptychref1_Join nf_diptychref1_Join fp_diptychref1_Join an_diptychlaw1_made nf_diptychlaw1_made fp_diptychlaw1_made an_node_Join nf_node_Join fp_node_Join an_diptychref1_Same nf_diptychref1_Same fp_diptychref1_Same an_diptychref1_SameAll nf_diptychref1_SameAll fp_diptychref1_SameAll an_strings_Builder_WriteString_x nf_strings_Builder_WriteString_x fp_strings_Builder_WriteString_x an_node_Words_1_x nf_node_Words_1_x fp_node_Words_1_x an_node_Words nf_node_Words fp_node_Words an_diptychlaw1_NodeTwice nf_diptychlaw1_NodeTwice fp_diptychlaw1_NodeTwice an_diptychlaw1_light nf_diptychlaw1_light fp_diptychlaw1_light an_diptychref1_Name nf_diptychref1_Name fp_diptychref1_Name an_diptychref1_runes nf_diptychref1_runes fp_diptychref1_runes an_diptychref1_formed nf_diptychref1_formed fp_diptychref1_formed an_diptychref1_Value nf_diptychref1_Value fp_diptychref1_Value an_diptychref1_Total nf_diptychref1_Total fp_diptychref1_Total an_diptychref1_Size nf_diptychref1_Size fp_diptychref1_Size an_diptychref1_Depth nf_diptychref1_Depth fp_diptychref1_Depth an_diptychref1_rise nf_diptychref1_rise fp_diptychref1_rise an_diptychref1_Formed nf_diptychref1_Formed fp_diptychref1_Formed an_diptychref1_Check nf_diptychref1_Check fp_diptychref1_Check an_diptychref1_Words nf_diptychref1_Words fp_diptychref1_Words an_diptychlaw1_NodeChecks nf_diptychlaw1_NodeChecks fp_diptychlaw1_NodeChecks ty3 ty4 ty5 ty9 ty21 ty23 ty24 ty25 ty27 ty48 ty53 ty56 ty58 ty84 ty94 ty95 ty97 ty98 diptychlaw1_Cell.pv_eq api_Attr.pv_eq api_Node.pv_eq pvL

end Go.Proofs.YtlgjbmgmoaphjaaDoor
