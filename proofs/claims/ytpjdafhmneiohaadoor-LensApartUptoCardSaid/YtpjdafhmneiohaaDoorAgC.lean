/- Code, and what is kept. -/
import Derived.Test.YtpjdafhmneiohaaDoorAgT
import Derived.Test.YtpjdafhmneiohaaDoorAwT
namespace Go.Proofs.YtpjdafhmneiohaaDoor
set_option linter.unusedSimpArgs false
set_option linter.unusedVariables false
open Go
set_option maxRecDepth 100000

noncomputable def c_lens_Turn : Code := (Tryd.f32.body).getD .skip
def nf_lens_Turn : List (Nat × Nf) := []
def fp_lens_Turn : List (Nat × List Nat) := []
def an_lens_Turn : Nat → Ann
  | 0 => ⟨[1, 2], [1, 2], [.nrm 2 [none, none, none, none, some 1, some 1]], [], [1, 2]⟩
  | 1 => ⟨[1, 2, 4], [1, 2], [], [], [1, 2]⟩
  | 2 => ⟨[1, 2, 4, 5], [1, 2], [], [], [1, 2]⟩
  | 3 => ⟨[1, 2], [1, 2], [], [], [1, 2]⟩
  | 4 => ⟨[1, 2, 4, 13], [1, 2], [], [], [1, 2]⟩
  | 5 => ⟨[1, 2, 4, 13], [1, 2], [], [], [1, 2]⟩
  | 6 => ⟨[1, 2], [1, 2], [], [], [1, 2]⟩
  | 7 => ⟨[1, 2, 4, 22], [1, 2], [], [], [1, 2]⟩
  | 8 => ⟨[1, 2], [1, 2], [], [], [1, 2]⟩
  | 9 => ⟨[1, 2, 4, 30], [1, 2], [], [], [1, 2]⟩
  | 10 => ⟨[1, 2], [1, 2], [], [], [1, 2]⟩
  | 11 => ⟨[1, 2, 4, 33], [1, 2], [], [], [1, 2]⟩
  | 12 => ⟨[1, 2], [1, 2], [], [], [1, 2]⟩
  | 13 => ⟨[1, 2, 4, 36], [1, 2], [], [], [1, 2]⟩
  | 14 => ⟨[1, 2], [1, 2], [], [], [1, 2]⟩
  | 15 => ⟨[1, 2, 4, 39], [1, 2], [], [], [1, 2]⟩
  | 16 => ⟨[1, 2], [1, 2], [], [], [1, 2]⟩
  | 17 => ⟨[1, 2, 4, 42], [1, 2], [], [], [1, 2]⟩
  | 18 => ⟨[1, 2], [1, 2], [], [], [1, 2]⟩
  | 19 => ⟨[1, 2, 45], [1, 2], [], [], [1, 2]⟩
  | 20 => ⟨[1, 2], [1, 2], [], [], [1, 2]⟩
  | 21 => ⟨[2], [2], [], [], [2]⟩
  | _ => ⟨[], [], [], [], []⟩
noncomputable abbrev x_lens_Turn : Cx := ⟨Tryd.prog, ⟨id, nf_lens_Turn, fp_lens_Turn⟩, an_lens_Turn⟩
theorem start_lens_Turn {args : List PV} {r : PV} (ha : args.length = 1) (h : awp x_lens_Turn c_lens_Turn (bodyR Tryd.prog [.cell 2 50] r []) (initSt args [])) : PC Tryd.prog 32 args r :=
  pc_of_awp (X := x_lens_Turn) mixed Tryd.func32 (c := c_lens_Turn) (by kernel_rfl) (by kernel_rfl) (rs := [.cell 2 50]) (by kernel_rfl) (by kernel_rfl) (by rw [ha]; decide) h
noncomputable def c_slices_Reverse_lens_Prim_x : Code := (Tryd.f77.body).getD .skip
def nf_slices_Reverse_lens_Prim_x : List (Nat × Nf) := []
def fp_slices_Reverse_lens_Prim_x : List (Nat × List Nat) := []
def an_slices_Reverse_lens_Prim_x : Nat → Ann
  | 0 => ⟨[0, 2, 3], [1000], [], [], [1000]⟩
  | 1 => ⟨[0, 2, 3, 9], [1000], [], [], [1000]⟩
  | 2 => ⟨[0, 2, 3], [1000], [], [], [1000]⟩
  | 3 => ⟨[0, 2, 3], [1000], [], [], [1000]⟩
  | _ => ⟨[], [], [], [], []⟩
noncomputable abbrev x_slices_Reverse_lens_Prim_x : Cx := ⟨Tryd.prog, ⟨id, nf_slices_Reverse_lens_Prim_x, fp_slices_Reverse_lens_Prim_x⟩, an_slices_Reverse_lens_Prim_x⟩
theorem start_slices_Reverse_lens_Prim_x {args : List PV} {es es' : List Ent} {r : PV} (ha : args.length = 1) (hl : es'.length = es.length) (he : (es'.all fun e => e.extOk es.length) = true) (h : awp x_slices_Reverse_lens_Prim_x c_slices_Reverse_lens_Prim_x (bodyR Tryd.prog [] r es') (initSt args es)) : BC Tryd.prog 77 args es r es' :=
  bc_of_awp (X := x_slices_Reverse_lens_Prim_x) mixed Tryd.func77 (c := c_slices_Reverse_lens_Prim_x) (by kernel_rfl) (by kernel_rfl) (rs := []) (by kernel_rfl) (by kernel_rfl) (by rw [ha]; decide) hl (fun e h => List.all_eq_true.1 he e h) h
noncomputable def c_lens_Flat : Code := (Tryd.f35.body).getD .skip
def nf_lens_Flat : List (Nat × Nf) := []
def fp_lens_Flat : List (Nat × List Nat) := []
def an_lens_Flat : Nat → Ann
  | 0 => ⟨[1], [1], [], [], [1]⟩
  | 1 => ⟨[1, 11], [1], [], [], [1]⟩
  | 2 => ⟨[2], [14], [], [.ren 14 2], [2, 14]⟩
  | 3 => ⟨[1, 3], [1, 3], [.thaw 3 3 6], [], [1, 3]⟩
  | 4 => ⟨[1, 3, 16, 17, 18], [1, 3], [], [], [1, 3]⟩
  | 5 => ⟨[1, 3, 16, 17, 18, 19], [1, 3], [], [], [1, 3]⟩
  | 6 => ⟨[1, 3, 5, 16, 17, 18], [1, 3, 5], [], [], [1, 3, 5]⟩
  | 7 => ⟨[1, 3, 16, 17, 18], [1, 3], [], [], [1, 3]⟩
  | 8 => ⟨[1, 3, 16, 17, 18], [1, 3], [], [], [1, 3]⟩
  | 9 => ⟨[3, 28], [3], [], [], [3]⟩
  | 10 => ⟨[3], [3], [], [], [3]⟩
  | 11 => ⟨[3, 31, 32, 33], [3], [], [], [3]⟩
  | 12 => ⟨[3, 31, 32, 33, 34], [3], [], [], [3]⟩
  | 13 => ⟨[3, 6, 7, 31, 32, 33], [3, 7], [], [], [3, 7]⟩
  | 14 => ⟨[3, 31, 32, 33], [3], [], [], [3]⟩
  | 15 => ⟨[3, 31, 32, 33], [3], [], [], [3]⟩
  | 16 => ⟨[2], [3], [], [.ren 3 2], [2, 3]⟩
  | _ => ⟨[], [], [], [], []⟩
noncomputable abbrev x_lens_Flat : Cx := ⟨Tryd.prog, ⟨id, nf_lens_Flat, fp_lens_Flat⟩, an_lens_Flat⟩
theorem start_lens_Flat {args : List PV} {r : PV} (ha : args.length = 1) (h : awp x_lens_Flat c_lens_Flat (bodyR Tryd.prog [.tmp 2] r []) (initSt args [])) : PC Tryd.prog 35 args r :=
  pc_of_awp (X := x_lens_Flat) mixed Tryd.func35 (c := c_lens_Flat) (by kernel_rfl) (by kernel_rfl) (rs := [.tmp 2]) (by kernel_rfl) (by kernel_rfl) (by rw [ha]; decide) h
noncomputable def c_lens_Lens_many : Code := (Tryd.f72.body).getD .skip
def nf_lens_Lens_many : List (Nat × Nf) := []
def fp_lens_Lens_many : List (Nat × List Nat) := []
def an_lens_Lens_many : Nat → Ann
  | 0 => ⟨[1], [1], [], [], [1]⟩
  | 1 => ⟨[1, 3], [1], [], [], [1]⟩
  | 2 => ⟨[3, 7, 8, 9], [], [], [], []⟩
  | 3 => ⟨[3, 7, 8, 9, 10], [], [], [], []⟩
  | 4 => ⟨[3, 5, 7, 8, 9], [5], [], [], [5]⟩
  | 5 => ⟨[3, 7, 8, 9], [], [], [], []⟩
  | 6 => ⟨[3, 7, 8, 9], [], [], [], []⟩
  | 7 => ⟨[2], [], [], [], []⟩
  | _ => ⟨[], [], [], [], []⟩
noncomputable abbrev x_lens_Lens_many : Cx := ⟨Tryd.prog, ⟨id, nf_lens_Lens_many, fp_lens_Lens_many⟩, an_lens_Lens_many⟩
theorem start_lens_Lens_many {args : List PV} {r : PV} (ha : args.length = 1) (h : awp x_lens_Lens_many c_lens_Lens_many (bodyR Tryd.prog [.tmp 2] r []) (initSt args [])) : PC Tryd.prog 72 args r :=
  pc_of_awp (X := x_lens_Lens_many) mixed Tryd.func72 (c := c_lens_Lens_many) (by kernel_rfl) (by kernel_rfl) (rs := [.tmp 2]) (by kernel_rfl) (by kernel_rfl) (by rw [ha]; decide) h
noncomputable def c_lens_Lens_plain : Code := (Tryd.f101.body).getD .skip
def nf_lens_Lens_plain : List (Nat × Nf) := []
def fp_lens_Lens_plain : List (Nat × List Nat) := []
def an_lens_Lens_plain : Nat → Ann
  | 0 => ⟨[1], [1], [], [], [1]⟩
  | 1 => ⟨[2], [], [], [], []⟩
  | _ => ⟨[], [], [], [], []⟩
noncomputable abbrev x_lens_Lens_plain : Cx := ⟨Tryd.prog, ⟨id, nf_lens_Lens_plain, fp_lens_Lens_plain⟩, an_lens_Lens_plain⟩
theorem start_lens_Lens_plain {args : List PV} {r : PV} (ha : args.length = 1) (h : awp x_lens_Lens_plain c_lens_Lens_plain (bodyR Tryd.prog [.tmp 2] r []) (initSt args [])) : PC Tryd.prog 101 args r :=
  pc_of_awp (X := x_lens_Lens_plain) mixed Tryd.func101 (c := c_lens_Lens_plain) (by kernel_rfl) (by kernel_rfl) (rs := [.tmp 2]) (by kernel_rfl) (by kernel_rfl) (by rw [ha]; decide) h
noncomputable def c_node_Name : Code := (Tryd.f120.body).getD .skip
def nf_node_Name : List (Nat × Nf) := []
def fp_node_Name : List (Nat × List Nat) := []
def an_node_Name : Nat → Ann
  | 0 => ⟨[0], [], [], [], []⟩
  | 1 => ⟨[0, 3], [], [], [], []⟩
  | 2 => ⟨[2], [], [], [], []⟩
  | _ => ⟨[], [], [], [], []⟩
noncomputable abbrev x_node_Name : Cx := ⟨Tryd.prog, ⟨id, nf_node_Name, fp_node_Name⟩, an_node_Name⟩
theorem start_node_Name {args : List PV} {r : PV} (ha : args.length = 1) (h : awp x_node_Name c_node_Name (bodyR Tryd.prog [.tmp 2] r []) (initSt args [])) : PC Tryd.prog 120 args r :=
  pc_of_awp (X := x_node_Name) mixed Tryd.func120 (c := c_node_Name) (by kernel_rfl) (by kernel_rfl) (rs := [.tmp 2]) (by kernel_rfl) (by kernel_rfl) (by rw [ha]; decide) h
noncomputable def c_slices_Index_string : Code := (Tryd.f166.body).getD .skip
def nf_slices_Index_string : List (Nat × Nf) := []
def fp_slices_Index_string : List (Nat × List Nat) := []
def an_slices_Index_string : Nat → Ann
  | 0 => ⟨[0, 1], [], [], [], []⟩
  | 1 => ⟨[0, 1, 7, 8], [], [], [], []⟩
  | 2 => ⟨[0, 1, 7, 8, 9], [], [], [], []⟩
  | 3 => ⟨[0, 1, 5, 7, 8], [], [], [], []⟩
  | 4 => ⟨[0, 1, 5, 7, 8, 16], [], [], [], []⟩
  | 5 => ⟨[4], [], [], [], []⟩
  | 6 => ⟨[0, 1, 7, 8], [], [], [], []⟩
  | 7 => ⟨[4], [], [], [], []⟩
  | _ => ⟨[], [], [], [], []⟩
noncomputable abbrev x_slices_Index_string : Cx := ⟨Tryd.prog, ⟨id, nf_slices_Index_string, fp_slices_Index_string⟩, an_slices_Index_string⟩
theorem start_slices_Index_string {args : List PV} {r : PV} (ha : args.length = 2) (h : awp x_slices_Index_string c_slices_Index_string (bodyR Tryd.prog [.tmp 4] r []) (initSt args [])) : PC Tryd.prog 166 args r :=
  pc_of_awp (X := x_slices_Index_string) mixed Tryd.func166 (c := c_slices_Index_string) (by kernel_rfl) (by kernel_rfl) (rs := [.tmp 4]) (by kernel_rfl) (by kernel_rfl) (by rw [ha]; decide) h
noncomputable def c_slices_Contains_string : Code := (Tryd.f145.body).getD .skip
def nf_slices_Contains_string : List (Nat × Nf) := []
def fp_slices_Contains_string : List (Nat × List Nat) := []
def an_slices_Contains_string : Nat → Ann
  | 0 => ⟨[0, 1], [], [], [], []⟩
  | 1 => ⟨[4], [], [], [], []⟩
  | _ => ⟨[], [], [], [], []⟩
noncomputable abbrev x_slices_Contains_string : Cx := ⟨Tryd.prog, ⟨id, nf_slices_Contains_string, fp_slices_Contains_string⟩, an_slices_Contains_string⟩
theorem start_slices_Contains_string {args : List PV} {r : PV} (ha : args.length = 2) (h : awp x_slices_Contains_string c_slices_Contains_string (bodyR Tryd.prog [.tmp 4] r []) (initSt args [])) : PC Tryd.prog 145 args r :=
  pc_of_awp (X := x_slices_Contains_string) mixed Tryd.func145 (c := c_slices_Contains_string) (by kernel_rfl) (by kernel_rfl) (rs := [.tmp 4]) (by kernel_rfl) (by kernel_rfl) (by rw [ha]; decide) h
noncomputable def c_lens_values : Code := (Tryd.f121.body).getD .skip
def nf_lens_values : List (Nat × Nf) := []
def fp_lens_values : List (Nat × List Nat) := []
def an_lens_values : Nat → Ann
  | 0 => ⟨[0, 1], [], [], [], []⟩
  | 1 => ⟨[0, 1, 7, 8, 9], [], [], [], []⟩
  | 2 => ⟨[0, 1, 7, 8, 9, 10], [], [], [], []⟩
  | 3 => ⟨[0, 1, 5, 6, 7, 8, 9], [], [], [], []⟩
  | 4 => ⟨[0, 1, 7, 8, 9, 23], [], [], [], []⟩
  | 5 => ⟨[4], [], [], [], []⟩
  | 6 => ⟨[0, 1, 7, 8, 9], [], [], [], []⟩
  | 7 => ⟨[4], [], [], [], []⟩
  | _ => ⟨[], [], [], [], []⟩
noncomputable abbrev x_lens_values : Cx := ⟨Tryd.prog, ⟨id, nf_lens_values, fp_lens_values⟩, an_lens_values⟩
theorem start_lens_values {args : List PV} {r : PV} (ha : args.length = 2) (h : awp x_lens_values c_lens_values (bodyR Tryd.prog [.tmp 4] r []) (initSt args [])) : PC Tryd.prog 121 args r :=
  pc_of_awp (X := x_lens_values) mixed Tryd.func121 (c := c_lens_values) (by kernel_rfl) (by kernel_rfl) (rs := [.tmp 4]) (by kernel_rfl) (by kernel_rfl) (by rw [ha]; decide) h
noncomputable def c_lens_Prim_right : Code := (Tryd.f99.body).getD .skip
def nf_lens_Prim_right : List (Nat × Nf) := []
def fp_lens_Prim_right : List (Nat × List Nat) := []
def an_lens_Prim_right : Nat → Ann
  | 0 => ⟨[1], [1], [], [], [1]⟩
  | 1 => ⟨[1, 3], [1], [], [], [1]⟩
  | 2 => ⟨[1, 3, 4, 5, 6], [1], [], [], [1]⟩
  | 3 => ⟨[1, 3, 4, 5, 6, 25], [1], [], [], [1]⟩
  | 4 => ⟨[1, 3, 4, 5, 6, 25, 26], [1], [], [], [1]⟩
  | 5 => ⟨[1, 3, 4, 5, 6, 25, 26], [1], [], [], [1]⟩
  | 6 => ⟨[1, 3, 4, 5, 6, 25, 26], [1], [], [], [1]⟩
  | 7 => ⟨[1, 3, 4, 5, 6, 25, 30], [1], [], [], [1]⟩
  | 8 => ⟨[1, 3, 4, 5, 6, 25, 32], [1], [], [], [1]⟩
  | 9 => ⟨[1, 3, 4, 5, 25, 34], [1], [], [], [1]⟩
  | 10 => ⟨[1, 3, 4, 5, 25, 36], [1], [], [], [1]⟩
  | 11 => ⟨[1, 3, 4, 5, 25, 36], [1], [], [], [1]⟩
  | 12 => ⟨[1, 3, 4, 5, 25, 39], [1], [], [], [1]⟩
  | 13 => ⟨[1, 3, 4, 5, 39], [1], [], [], [1]⟩
  | 14 => ⟨[2], [], [], [], []⟩
  | 15 => ⟨[2], [], [], [], []⟩
  | 16 => ⟨[2], [], [], [], []⟩
  | 17 => ⟨[1, 3, 4, 5], [1], [], [], [1]⟩
  | 18 => ⟨[1, 3, 4, 5], [1], [], [], [1]⟩
  | 19 => ⟨[2], [], [], [], []⟩
  | 20 => ⟨[2], [], [], [], []⟩
  | _ => ⟨[], [], [], [], []⟩
noncomputable abbrev x_lens_Prim_right : Cx := ⟨Tryd.prog, ⟨id, nf_lens_Prim_right, fp_lens_Prim_right⟩, an_lens_Prim_right⟩
theorem start_lens_Prim_right {args : List PV} {r : PV} (ha : args.length = 1) (h : awp x_lens_Prim_right c_lens_Prim_right (bodyR Tryd.prog [.tmp 2] r []) (initSt args [])) : PC Tryd.prog 99 args r :=
  pc_of_awp (X := x_lens_Prim_right) mixed Tryd.func99 (c := c_lens_Prim_right) (by kernel_rfl) (by kernel_rfl) (rs := [.tmp 2]) (by kernel_rfl) (by kernel_rfl) (by rw [ha]; decide) h
noncomputable def c_lens_Lens_formed_1 : Code := (Tryd.f100.body).getD .skip
def nf_lens_Lens_formed_1 : List (Nat × Nf) := []
def fp_lens_Lens_formed_1 : List (Nat × List Nat) := []
def an_lens_Lens_formed_1 : Nat → Ann
  | 0 => ⟨[1], [1], [], [], [1]⟩
  | 1 => ⟨[2], [], [], [], []⟩
  | _ => ⟨[], [], [], [], []⟩
noncomputable abbrev x_lens_Lens_formed_1 : Cx := ⟨Tryd.prog, ⟨id, nf_lens_Lens_formed_1, fp_lens_Lens_formed_1⟩, an_lens_Lens_formed_1⟩
theorem start_lens_Lens_formed_1 {args : List PV} {r : PV} (ha : args.length = 1) (h : awp x_lens_Lens_formed_1 c_lens_Lens_formed_1 (bodyR Tryd.prog [.tmp 2] r []) (initSt args [])) : PC Tryd.prog 100 args r :=
  pc_of_awp (X := x_lens_Lens_formed_1) mixed Tryd.func100 (c := c_lens_Lens_formed_1) (by kernel_rfl) (by kernel_rfl) (rs := [.tmp 2]) (by kernel_rfl) (by kernel_rfl) (by rw [ha]; decide) h
noncomputable def c_slices_IndexFunc_lens_Lens_lens_Lens_formed_1 : Code := (Tryd.f122.body).getD .skip
def nf_slices_IndexFunc_lens_Lens_lens_Lens_formed_1 : List (Nat × Nf) := []
def fp_slices_IndexFunc_lens_Lens_lens_Lens_formed_1 : List (Nat × List Nat) := []
def an_slices_IndexFunc_lens_Lens_lens_Lens_formed_1 : Nat → Ann
  | 0 => ⟨[0, 1], [], [], [], []⟩
  | 1 => ⟨[0, 1, 7, 8], [], [], [], []⟩
  | 2 => ⟨[0, 1, 7, 8, 9], [], [], [], []⟩
  | 3 => ⟨[0, 1, 5, 7, 8], [], [], [], []⟩
  | 4 => ⟨[0, 1, 5, 7, 8, 16], [], [], [], []⟩
  | 5 => ⟨[4], [], [], [], []⟩
  | 6 => ⟨[0, 1, 7, 8], [], [], [], []⟩
  | 7 => ⟨[4], [], [], [], []⟩
  | _ => ⟨[], [], [], [], []⟩
noncomputable abbrev x_slices_IndexFunc_lens_Lens_lens_Lens_formed_1 : Cx := ⟨Tryd.prog, ⟨id, nf_slices_IndexFunc_lens_Lens_lens_Lens_formed_1, fp_slices_IndexFunc_lens_Lens_lens_Lens_formed_1⟩, an_slices_IndexFunc_lens_Lens_lens_Lens_formed_1⟩
theorem start_slices_IndexFunc_lens_Lens_lens_Lens_formed_1 {args : List PV} {r : PV} (ha : args.length = 2) (h : awp x_slices_IndexFunc_lens_Lens_lens_Lens_formed_1 c_slices_IndexFunc_lens_Lens_lens_Lens_formed_1 (bodyR Tryd.prog [.tmp 4] r []) (initSt args [])) : PC Tryd.prog 122 args r :=
  pc_of_awp (X := x_slices_IndexFunc_lens_Lens_lens_Lens_formed_1) mixed Tryd.func122 (c := c_slices_IndexFunc_lens_Lens_lens_Lens_formed_1) (by kernel_rfl) (by kernel_rfl) (rs := [.tmp 4]) (by kernel_rfl) (by kernel_rfl) (by rw [ha]; decide) h
noncomputable def c_slices_ContainsFunc_lens_Lens_lens_Lens_formed_1 : Code := (Tryd.f102.body).getD .skip
def nf_slices_ContainsFunc_lens_Lens_lens_Lens_formed_1 : List (Nat × Nf) := []
def fp_slices_ContainsFunc_lens_Lens_lens_Lens_formed_1 : List (Nat × List Nat) := []
def an_slices_ContainsFunc_lens_Lens_lens_Lens_formed_1 : Nat → Ann
  | 0 => ⟨[0, 1], [], [], [], []⟩
  | 1 => ⟨[4], [], [], [], []⟩
  | _ => ⟨[], [], [], [], []⟩
noncomputable abbrev x_slices_ContainsFunc_lens_Lens_lens_Lens_formed_1 : Cx := ⟨Tryd.prog, ⟨id, nf_slices_ContainsFunc_lens_Lens_lens_Lens_formed_1, fp_slices_ContainsFunc_lens_Lens_lens_Lens_formed_1⟩, an_slices_ContainsFunc_lens_Lens_lens_Lens_formed_1⟩
theorem start_slices_ContainsFunc_lens_Lens_lens_Lens_formed_1 {args : List PV} {r : PV} (ha : args.length = 2) (h : awp x_slices_ContainsFunc_lens_Lens_lens_Lens_formed_1 c_slices_ContainsFunc_lens_Lens_lens_Lens_formed_1 (bodyR Tryd.prog [.tmp 4] r []) (initSt args [])) : PC Tryd.prog 102 args r :=
  pc_of_awp (X := x_slices_ContainsFunc_lens_Lens_lens_Lens_formed_1) mixed Tryd.func102 (c := c_slices_ContainsFunc_lens_Lens_lens_Lens_formed_1) (by kernel_rfl) (by kernel_rfl) (rs := [.tmp 4]) (by kernel_rfl) (by kernel_rfl) (by rw [ha]; decide) h
noncomputable def c_lens_Lens_formed : Code := (Tryd.f73.body).getD .skip
def nf_lens_Lens_formed : List (Nat × Nf) := []
def fp_lens_Lens_formed : List (Nat × List Nat) := []
def an_lens_Lens_formed : Nat → Ann
  | 0 => ⟨[1], [1], [], [], [1]⟩
  | 1 => ⟨[1, 3], [1, 3], [], [], [1, 3]⟩
  | 2 => ⟨[1, 3, 10], [1, 3], [], [], [1, 3]⟩
  | 3 => ⟨[2], [], [], [], []⟩
  | 4 => ⟨[1, 4], [1], [], [], [1]⟩
  | 5 => ⟨[1, 4, 5], [1], [], [], [1]⟩
  | 6 => ⟨[2], [], [], [], []⟩
  | _ => ⟨[], [], [], [], []⟩
noncomputable abbrev x_lens_Lens_formed : Cx := ⟨Tryd.prog, ⟨id, nf_lens_Lens_formed, fp_lens_Lens_formed⟩, an_lens_Lens_formed⟩
theorem start_lens_Lens_formed {args : List PV} {r : PV} (ha : args.length = 1) (h : awp x_lens_Lens_formed c_lens_Lens_formed (bodyR Tryd.prog [.tmp 2] r []) (initSt args [])) : PC Tryd.prog 73 args r :=
  pc_of_awp (X := x_lens_Lens_formed) mixed Tryd.func73 (c := c_lens_Lens_formed) (by kernel_rfl) (by kernel_rfl) (rs := [.tmp 2]) (by kernel_rfl) (by kernel_rfl) (by rw [ha]; decide) h
noncomputable def c_lens_Right : Code := (Tryd.f29.body).getD .skip
def nf_lens_Right : List (Nat × Nf) := []
def fp_lens_Right : List (Nat × List Nat) := []
def an_lens_Right : Nat → Ann
  | 0 => ⟨[1], [1], [], [], [1]⟩
  | 1 => ⟨[2], [], [], [], []⟩
  | _ => ⟨[], [], [], [], []⟩
noncomputable abbrev x_lens_Right : Cx := ⟨Tryd.prog, ⟨id, nf_lens_Right, fp_lens_Right⟩, an_lens_Right⟩
theorem start_lens_Right {args : List PV} {r : PV} (ha : args.length = 1) (h : awp x_lens_Right c_lens_Right (bodyR Tryd.prog [.tmp 2] r []) (initSt args [])) : PC Tryd.prog 29 args r :=
  pc_of_awp (X := x_lens_Right) mixed Tryd.func29 (c := c_lens_Right) (by kernel_rfl) (by kernel_rfl) (rs := [.tmp 2]) (by kernel_rfl) (by kernel_rfl) (by rw [ha]; decide) h
noncomputable def c_lens_opOf : Code := (Tryd.f132.body).getD .skip
def nf_lens_opOf : List (Nat × Nf) := []
def fp_lens_opOf : List (Nat × List Nat) := []
def an_lens_opOf : Nat → Ann
  | 0 => ⟨[0], [], [], [], []⟩
  | 1 => ⟨[0, 3], [], [], [], []⟩
  | 2 => ⟨[0, 3, 4], [], [], [], []⟩
  | 3 => ⟨[2], [], [], [], []⟩
  | 4 => ⟨[0, 6], [], [], [], []⟩
  | 5 => ⟨[2], [], [], [], []⟩
  | 6 => ⟨[2], [], [], [], []⟩
  | _ => ⟨[], [], [], [], []⟩
noncomputable abbrev x_lens_opOf : Cx := ⟨Tryd.prog, ⟨id, nf_lens_opOf, fp_lens_opOf⟩, an_lens_opOf⟩
theorem start_lens_opOf {args : List PV} {r : PV} (ha : args.length = 1) (h : awp x_lens_opOf c_lens_opOf (bodyR Tryd.prog [.tmp 2] r []) (initSt args [])) : PC Tryd.prog 132 args r :=
  pc_of_awp (X := x_lens_opOf) mixed Tryd.func132 (c := c_lens_opOf) (by kernel_rfl) (by kernel_rfl) (rs := [.tmp 2]) (by kernel_rfl) (by kernel_rfl) (by rw [ha]; decide) h
noncomputable def c_lens_verb : Code := (Tryd.f116.body).getD .skip
def nf_lens_verb : List (Nat × Nf) := []
def fp_lens_verb : List (Nat × List Nat) := []
def an_lens_verb : Nat → Ann
  | 0 => ⟨[0], [], [], [], []⟩
  | 1 => ⟨[0, 5, 6, 7], [5], [], [], [5]⟩
  | 2 => ⟨[0, 5, 6, 7, 8], [5], [], [], [5]⟩
  | 3 => ⟨[0, 4, 5, 6, 7], [5], [], [], [5]⟩
  | 4 => ⟨[0, 4, 5, 6, 7, 14], [5], [], [], [5]⟩
  | 5 => ⟨[2], [], [], [], []⟩
  | 6 => ⟨[0, 5, 6, 7], [5], [], [], [5]⟩
  | 7 => ⟨[2], [], [], [], []⟩
  | _ => ⟨[], [], [], [], []⟩
noncomputable abbrev x_lens_verb : Cx := ⟨Tryd.prog, ⟨id, nf_lens_verb, fp_lens_verb⟩, an_lens_verb⟩
theorem start_lens_verb {args : List PV} {r : PV} (ha : args.length = 1) (h : awp x_lens_verb c_lens_verb (bodyR Tryd.prog [.tmp 2] r []) (initSt args [])) : PC Tryd.prog 116 args r :=
  pc_of_awp (X := x_lens_verb) mixed Tryd.func116 (c := c_lens_verb) (by kernel_rfl) (by kernel_rfl) (rs := [.tmp 2]) (by kernel_rfl) (by kernel_rfl) (by rw [ha]; decide) h
noncomputable def c_lens_Prim_text : Code := (Tryd.f95.body).getD .skip
def nf_lens_Prim_text : List (Nat × Nf) := []
def fp_lens_Prim_text : List (Nat × List Nat) := []
def an_lens_Prim_text : Nat → Ann
  | 0 => ⟨[1], [1], [], [], [1]⟩
  | 1 => ⟨[1, 3], [1, 13], [], [.ren 13 3], [1, 3, 13]⟩
  | 2 => ⟨[1, 3, 20, 21, 22], [1, 3, 20], [], [], [1, 3, 20]⟩
  | 3 => ⟨[1, 3, 20, 21, 22, 23], [1, 3, 20], [], [], [1, 3, 20]⟩
  | 4 => ⟨[1, 3, 5, 20, 21, 22], [1, 3, 20], [], [], [1, 3, 20]⟩
  | 5 => ⟨[1, 3, 5, 20, 21, 22, 27], [1, 3, 20], [], [], [1, 3, 20]⟩
  | 6 => ⟨[1, 3, 20, 21, 22], [1, 3, 20], [], [], [1, 3, 20]⟩
  | 7 => ⟨[1, 3, 20, 21, 22], [1, 3, 20], [], [], [1, 3, 20]⟩
  | 8 => ⟨[1, 3, 34], [1, 3], [], [], [1, 3]⟩
  | 9 => ⟨[1, 3, 34, 35], [1, 3], [], [], [1, 3]⟩
  | 10 => ⟨[1, 3, 34, 35], [1, 3], [], [], [1, 3]⟩
  | 11 => ⟨[3, 6], [3], [], [], [3]⟩
  | 12 => ⟨[3, 6, 42], [3], [], [], [3]⟩
  | 13 => ⟨[3, 6], [3], [], [], [3]⟩
  | 14 => ⟨[3], [3], [], [], [3]⟩
  | 15 => ⟨[1, 3, 50], [1, 3], [], [], [1, 3]⟩
  | 16 => ⟨[1, 3, 7], [1, 3, 7], [.thaw 7 7 1], [], [1, 3, 7]⟩
  | 17 => ⟨[1, 3, 7, 53, 54, 55], [1, 3, 7], [], [], [1, 3, 7]⟩
  | 18 => ⟨[1, 3, 7, 53, 54, 55, 56], [1, 3, 7], [], [], [1, 3, 7]⟩
  | 19 => ⟨[1, 3, 7, 8, 9, 53, 54, 55], [1, 3, 7], [], [], [1, 3, 7]⟩
  | 20 => ⟨[1, 3, 7, 53, 54, 55], [1, 3, 7], [], [], [1, 3, 7]⟩
  | 21 => ⟨[1, 3, 7, 53, 54, 55], [1, 3, 7], [], [], [1, 3, 7]⟩
  | 22 => ⟨[3], [3], [], [], [3]⟩
  | 23 => ⟨[2], [], [], [], []⟩
  | _ => ⟨[], [], [], [], []⟩
noncomputable abbrev x_lens_Prim_text : Cx := ⟨Tryd.prog, ⟨id, nf_lens_Prim_text, fp_lens_Prim_text⟩, an_lens_Prim_text⟩
theorem start_lens_Prim_text {args : List PV} {r : PV} (ha : args.length = 1) (h : awp x_lens_Prim_text c_lens_Prim_text (bodyR Tryd.prog [.tmp 2] r []) (initSt args [])) : PC Tryd.prog 95 args r :=
  pc_of_awp (X := x_lens_Prim_text) mixed Tryd.func95 (c := c_lens_Prim_text) (by kernel_rfl) (by kernel_rfl) (rs := [.tmp 2]) (by kernel_rfl) (by kernel_rfl) (by rw [ha]; decide) h
noncomputable def c_lens_Lens_text : Code := (Tryd.f70.body).getD .skip
def nf_lens_Lens_text : List (Nat × Nf) := []
def fp_lens_Lens_text : List (Nat × List Nat) := []
def an_lens_Lens_text : Nat → Ann
  | 0 => ⟨[1], [1], [], [], [1]⟩
  | 1 => ⟨[1, 10], [1], [], [], [1]⟩
  | 2 => ⟨[2], [], [], [], []⟩
  | 3 => ⟨[1, 3], [1, 3], [.thaw 3 3 1], [], [1, 3]⟩
  | 4 => ⟨[1, 3, 15, 16, 17], [1, 3], [], [], [1, 3]⟩
  | 5 => ⟨[1, 3, 15, 16, 17, 18], [1, 3], [], [], [1, 3]⟩
  | 6 => ⟨[1, 3, 5, 15, 16, 17], [1, 3, 5], [], [], [1, 3, 5]⟩
  | 7 => ⟨[1, 3, 15, 16, 17], [1, 3], [], [], [1, 3]⟩
  | 8 => ⟨[1, 3, 15, 16, 17], [1, 3], [], [], [1, 3]⟩
  | 9 => ⟨[1, 6], [1], [], [], [1]⟩
  | 10 => ⟨[6, 30], [], [], [], []⟩
  | 11 => ⟨[2], [], [], [], []⟩
  | 12 => ⟨[2], [], [], [], []⟩
  | _ => ⟨[], [], [], [], []⟩
noncomputable abbrev x_lens_Lens_text : Cx := ⟨Tryd.prog, ⟨id, nf_lens_Lens_text, fp_lens_Lens_text⟩, an_lens_Lens_text⟩
theorem start_lens_Lens_text {args : List PV} {r : PV} (ha : args.length = 1) (h : awp x_lens_Lens_text c_lens_Lens_text (bodyR Tryd.prog [.tmp 2] r []) (initSt args [])) : PC Tryd.prog 70 args r :=
  pc_of_awp (X := x_lens_Lens_text) mixed Tryd.func70 (c := c_lens_Lens_text) (by kernel_rfl) (by kernel_rfl) (rs := [.tmp 2]) (by kernel_rfl) (by kernel_rfl) (by rw [ha]; decide) h
noncomputable def c_lens_Print : Code := (Tryd.f27.body).getD .skip
def nf_lens_Print : List (Nat × Nf) := []
def fp_lens_Print : List (Nat × List Nat) := []
def an_lens_Print : Nat → Ann
  | 0 => ⟨[1], [1], [], [], [1]⟩
  | 1 => ⟨[1, 6], [1], [], [], [1]⟩
  | 2 => ⟨[2, 3], [], [], [], []⟩
  | 3 => ⟨[2, 3], [], [], [], []⟩
  | _ => ⟨[], [], [], [], []⟩
noncomputable abbrev x_lens_Print : Cx := ⟨Tryd.prog, ⟨id, nf_lens_Print, fp_lens_Print⟩, an_lens_Print⟩
theorem start_lens_Print {args : List PV} {r : PV} (ha : args.length = 1) (h : awp x_lens_Print c_lens_Print (bodyR Tryd.prog [.tmp 2, .tmp 3] r []) (initSt args [])) : PC Tryd.prog 27 args r :=
  pc_of_awp (X := x_lens_Print) mixed Tryd.func27 (c := c_lens_Print) (by kernel_rfl) (by kernel_rfl) (rs := [.tmp 2, .tmp 3]) (by kernel_rfl) (by kernel_rfl) (by rw [ha]; decide) h
noncomputable def c_internal_stringslite_HasPrefix : Code := (Tryd.f126.body).getD .skip
def nf_internal_stringslite_HasPrefix : List (Nat × Nf) := []
def fp_internal_stringslite_HasPrefix : List (Nat × List Nat) := []
def an_internal_stringslite_HasPrefix : Nat → Ann
  | 0 => ⟨[0, 1], [], [], [], []⟩
  | 1 => ⟨[4], [], [], [], []⟩
  | _ => ⟨[], [], [], [], []⟩
noncomputable abbrev x_internal_stringslite_HasPrefix : Cx := ⟨Tryd.prog, ⟨id, nf_internal_stringslite_HasPrefix, fp_internal_stringslite_HasPrefix⟩, an_internal_stringslite_HasPrefix⟩
theorem start_internal_stringslite_HasPrefix {args : List PV} {r : PV} (ha : args.length = 2) (h : awp x_internal_stringslite_HasPrefix c_internal_stringslite_HasPrefix (bodyR Tryd.prog [.tmp 4] r []) (initSt args [])) : PC Tryd.prog 126 args r :=
  pc_of_awp (X := x_internal_stringslite_HasPrefix) mixed Tryd.func126 (c := c_internal_stringslite_HasPrefix) (by kernel_rfl) (by kernel_rfl) (rs := [.tmp 4]) (by kernel_rfl) (by kernel_rfl) (by rw [ha]; decide) h
noncomputable def c_internal_stringslite_CutPrefix : Code := (Tryd.f125.body).getD .skip
def nf_internal_stringslite_CutPrefix : List (Nat × Nf) := []
def fp_internal_stringslite_CutPrefix : List (Nat × List Nat) := []
def an_internal_stringslite_CutPrefix : Nat → Ann
  | 0 => ⟨[0, 1], [], [], [], []⟩
  | 1 => ⟨[0, 1, 9], [], [], [], []⟩
  | 2 => ⟨[4, 5], [], [], [], []⟩
  | 3 => ⟨[4, 5], [], [], [], []⟩
  | _ => ⟨[], [], [], [], []⟩
noncomputable abbrev x_internal_stringslite_CutPrefix : Cx := ⟨Tryd.prog, ⟨id, nf_internal_stringslite_CutPrefix, fp_internal_stringslite_CutPrefix⟩, an_internal_stringslite_CutPrefix⟩
theorem start_internal_stringslite_CutPrefix {args : List PV} {r : PV} (ha : args.length = 2) (h : awp x_internal_stringslite_CutPrefix c_internal_stringslite_CutPrefix (bodyR Tryd.prog [.tmp 4, .tmp 5] r []) (initSt args [])) : PC Tryd.prog 125 args r :=
  pc_of_awp (X := x_internal_stringslite_CutPrefix) mixed Tryd.func125 (c := c_internal_stringslite_CutPrefix) (by kernel_rfl) (by kernel_rfl) (rs := [.tmp 4, .tmp 5]) (by kernel_rfl) (by kernel_rfl) (by rw [ha]; decide) h
noncomputable def c_strings_CutPrefix : Code := (Tryd.f105.body).getD .skip
def nf_strings_CutPrefix : List (Nat × Nf) := []
def fp_strings_CutPrefix : List (Nat × List Nat) := []
def an_strings_CutPrefix : Nat → Ann
  | 0 => ⟨[0, 1], [], [], [], []⟩
  | 1 => ⟨[4, 5], [], [], [], []⟩
  | _ => ⟨[], [], [], [], []⟩
noncomputable abbrev x_strings_CutPrefix : Cx := ⟨Tryd.prog, ⟨id, nf_strings_CutPrefix, fp_strings_CutPrefix⟩, an_strings_CutPrefix⟩
theorem start_strings_CutPrefix {args : List PV} {r : PV} (ha : args.length = 2) (h : awp x_strings_CutPrefix c_strings_CutPrefix (bodyR Tryd.prog [.tmp 4, .tmp 5] r []) (initSt args [])) : PC Tryd.prog 105 args r :=
  pc_of_awp (X := x_strings_CutPrefix) mixed Tryd.func105 (c := c_strings_CutPrefix) (by kernel_rfl) (by kernel_rfl) (rs := [.tmp 4, .tmp 5]) (by kernel_rfl) (by kernel_rfl) (by rw [ha]; decide) h
noncomputable def c_strings_HasPrefix : Code := (Tryd.f106.body).getD .skip
def nf_strings_HasPrefix : List (Nat × Nf) := []
def fp_strings_HasPrefix : List (Nat × List Nat) := []
def an_strings_HasPrefix : Nat → Ann
  | 0 => ⟨[0, 1], [], [], [], []⟩
  | 1 => ⟨[4], [], [], [], []⟩
  | _ => ⟨[], [], [], [], []⟩
noncomputable abbrev x_strings_HasPrefix : Cx := ⟨Tryd.prog, ⟨id, nf_strings_HasPrefix, fp_strings_HasPrefix⟩, an_strings_HasPrefix⟩
theorem start_strings_HasPrefix {args : List PV} {r : PV} (ha : args.length = 2) (h : awp x_strings_HasPrefix c_strings_HasPrefix (bodyR Tryd.prog [.tmp 4] r []) (initSt args [])) : PC Tryd.prog 106 args r :=
  pc_of_awp (X := x_strings_HasPrefix) mixed Tryd.func106 (c := c_strings_HasPrefix) (by kernel_rfl) (by kernel_rfl) (rs := [.tmp 4]) (by kernel_rfl) (by kernel_rfl) (by rw [ha]; decide) h
noncomputable def c_lens_prim : Code := (Tryd.f108.body).getD .skip
def nf_lens_prim : List (Nat × Nf) := [(33, [none, none, none, none, some 1, some 1])]
def fp_lens_prim : List (Nat × List Nat) := [(35, []), (36, []), (38, []), (39, []), (40, [5]), (41, [5]), (49, []), (50, []), (51, [5]), (52, [5]), (56, []), (57, []), (59, []), (60, []), (61, [5]), (62, [5]), (63, [5]), (111, [5]), (112, [5]), (115, [114, 339]), (116, [5]), (117, [5]), (120, [119, 340]), (121, [5]), (122, [5]), (500040, [5]), (500041, [5]), (500051, [5]), (500052, [5]), (500061, [5]), (500062, [5]), (500063, [5]), (500121, [5, 339]), (500122, [5, 340])]
def an_lens_prim : Nat → Ann
  | 0 => ⟨[0, 2], [2], [.nrm 2 [none, none, none, none, some 1, some 1]], [], [2]⟩
  | 1 => ⟨[2, 4], [2], [], [], [2]⟩
  | 2 => ⟨[2, 4, 5], [2, 5, 339, 340], [.thawV 5 4 339 1, .thawV 5 5 340 1], [], [2, 5, 339, 340]⟩
  | 3 => ⟨[2, 4, 5, 32], [2, 5, 339, 340], [], [], [2, 5, 339, 340]⟩
  | 4 => ⟨[2, 3], [2], [], [], [2]⟩
  | 5 => ⟨[2, 4, 5], [2, 5, 339, 340], [], [], [2, 5, 339, 340]⟩
  | 6 => ⟨[2, 4, 5, 43], [2, 5, 339, 340], [], [], [2, 5, 339, 340]⟩
  | 7 => ⟨[2, 4, 5, 43, 44], [2, 5, 339, 340], [], [], [2, 5, 339, 340]⟩
  | 8 => ⟨[2, 4, 5, 43, 44], [2, 5, 339, 340], [], [], [2, 5, 339, 340]⟩
  | 9 => ⟨[2, 4, 5, 43, 44], [2, 5, 339, 340], [], [], [2, 5, 339, 340]⟩
  | 10 => ⟨[2, 5], [2, 5, 339, 340], [], [], [2, 5, 339, 340]⟩
  | 11 => ⟨[2, 4, 5, 43, 53], [2, 5, 339, 340], [], [], [2, 5, 339, 340]⟩
  | 12 => ⟨[2, 5], [2, 5, 339, 340], [], [], [2, 5, 339, 340]⟩
  | 13 => ⟨[2, 4, 5, 43, 64], [2, 5, 339, 340], [], [], [2, 5, 339, 340]⟩
  | 14 => ⟨[2, 5], [2, 5, 339, 340], [], [], [2, 5, 339, 340]⟩
  | 15 => ⟨[2, 4, 5, 43, 73], [2, 5, 339, 340], [], [], [2, 5, 339, 340]⟩
  | 16 => ⟨[2, 4, 5, 43, 73], [2, 5, 339, 340], [], [], [2, 5, 339, 340]⟩
  | 17 => ⟨[2, 5, 6, 7], [2, 5, 339, 340], [], [], [2, 5, 339, 340]⟩
  | 18 => ⟨[2, 5, 7], [2, 5, 339, 340], [], [], [2, 5, 339, 340]⟩
  | 19 => ⟨[2, 5, 7, 87], [2, 5, 339, 340], [], [], [2, 5, 339, 340]⟩
  | 20 => ⟨[2, 5], [2, 5, 340], [], [], [2, 5, 340]⟩
  | 21 => ⟨[2, 4, 5, 91], [2, 5, 339, 340], [], [], [2, 5, 339, 340]⟩
  | 22 => ⟨[2, 5, 99, 100, 101], [2, 5, 339, 340], [], [], [2, 5, 339, 340]⟩
  | 23 => ⟨[2, 5, 99, 100, 101, 102], [2, 5, 339, 340], [], [], [2, 5, 339, 340]⟩
  | 24 => ⟨[2, 5, 10, 99, 100, 101], [2, 5, 339, 340], [], [], [2, 5, 339, 340]⟩
  | 25 => ⟨[2, 5, 11, 12, 99, 100, 101], [2, 5, 339, 340], [], [], [2, 5, 339, 340]⟩
  | 26 => ⟨[2, 5, 99, 100, 101], [2, 5, 339, 340], [], [], [2, 5, 339, 340]⟩
  | 27 => ⟨[2, 5, 99, 100, 101], [2, 5, 339, 340], [], [], [2, 5, 339, 340]⟩
  | 28 => ⟨[2, 3], [2], [], [], [2]⟩
  | _ => ⟨[], [], [], [], []⟩
noncomputable abbrev x_lens_prim : Cx := ⟨Tryd.prog, ⟨id, nf_lens_prim, fp_lens_prim⟩, an_lens_prim⟩
theorem start_lens_prim {args : List PV} {r : PV} (ha : args.length = 1) (h : awp x_lens_prim c_lens_prim (bodyR Tryd.prog [.cell 2 50, .tmp 3] r []) (initSt args [])) : PC Tryd.prog 108 args r :=
  pc_of_awp (X := x_lens_prim) mixed Tryd.func108 (c := c_lens_prim) (by kernel_rfl) (by kernel_rfl) (rs := [.cell 2 50, .tmp 3]) (by kernel_rfl) (by kernel_rfl) (by rw [ha]; decide) h
noncomputable def c_lens_row : Code := (Tryd.f78.body).getD .skip
def nf_lens_row : List (Nat × Nf) := []
def fp_lens_row : List (Nat × List Nat) := [(45, [7, 44]), (47, []), (63, [14]), (66, [7, 65]), (69, [])]
def an_lens_row : Nat → Ann
  | 0 => ⟨[0, 1], [], [], [], []⟩
  | 1 => ⟨[0, 1, 7], [7], [.thaw 7 7 8], [], [7]⟩
  | 2 => ⟨[0, 1, 7, 19], [7], [], [], [7]⟩
  | 3 => ⟨[0, 1, 7, 8, 9], [7], [], [], [7]⟩
  | 4 => ⟨[0, 1, 7, 8, 25], [7], [], [], [7]⟩
  | 5 => ⟨[1, 7, 10, 11, 12], [7], [], [], [7]⟩
  | 6 => ⟨[1, 7, 10, 11, 40], [7], [], [], [7]⟩
  | 7 => ⟨[4, 5, 6], [], [.nrm 4 [some 8]], [], []⟩
  | 8 => ⟨[0, 1, 7], [7], [], [], [7]⟩
  | 9 => ⟨[0, 1, 7, 13], [7], [], [], [7]⟩
  | 10 => ⟨[0, 1, 7, 13, 52], [7], [], [], [7]⟩
  | 11 => ⟨[0, 1, 7, 13, 14, 15], [7, 14], [], [], [7, 14]⟩
  | 12 => ⟨[0, 1, 7, 13, 14, 61], [7, 14], [], [], [7, 14]⟩
  | 13 => ⟨[4, 5, 6], [], [.nrm 4 [some 8]], [], []⟩
  | 14 => ⟨[0, 1, 7], [7], [], [], [7]⟩
  | 15 => ⟨[0, 1, 7, 16, 17], [7], [], [], [7]⟩
  | 16 => ⟨[0, 1, 7, 16, 76], [7], [], [], [7]⟩
  | 17 => ⟨[4, 5, 6], [7], [], [.ren 7 4], [4, 7]⟩
  | 18 => ⟨[0, 1, 7], [7], [], [], [7]⟩
  | 19 => ⟨[4, 5, 6], [], [.nrm 4 [some 8]], [], []⟩
  | _ => ⟨[], [], [], [], []⟩
noncomputable abbrev x_lens_row : Cx := ⟨Tryd.prog, ⟨(fun d => if d = 43 then 0 else if d = 64 then 0 else d), nf_lens_row, fp_lens_row⟩, an_lens_row⟩
theorem start_lens_row {args : List PV} {r : PV} (ha : args.length = 2) (h : awp x_lens_row c_lens_row (bodyR Tryd.prog [.tmp 4, .tmp 5, .tmp 6] r []) (initSt args [])) : PC Tryd.prog 78 args r :=
  pc_of_awp (X := x_lens_row) mixed Tryd.func78 (c := c_lens_row) (by kernel_rfl) (by kernel_rfl) (rs := [.tmp 4, .tmp 5, .tmp 6]) (by kernel_rfl) (by kernel_rfl) (by rw [ha]; decide) h
noncomputable def c_lens_Parse : Code := (Tryd.f37.body).getD .skip
def nf_lens_Parse : List (Nat × Nf) := [(17, [none, none, none, none, some 1, some 1, none, none]), (44, [none, none, none, none, some 1, some 1, none, some 8])]
def fp_lens_Parse : List (Nat × List Nat) := []
def an_lens_Parse : Nat → Ann
  | 0 => ⟨[0, 2], [2], [.nrm 2 [none, none, none, none, some 1, some 1, none, some 8]], [], [2]⟩
  | 1 => ⟨[0, 2, 4, 5, 6], [2], [], [], [2]⟩
  | 2 => ⟨[0, 2, 4, 5, 6, 7], [2, 7], [], [], [2, 7]⟩
  | 3 => ⟨[0, 2, 4, 5, 6, 7, 20], [2, 7], [], [], [2, 7]⟩
  | 4 => ⟨[0, 2, 5, 6, 7], [2, 7], [], [], [2, 7]⟩
  | 5 => ⟨[0, 2, 5, 6, 7, 8, 9], [2, 7], [], [], [2, 7]⟩
  | 6 => ⟨[2, 7, 43], [2, 7], [], [], [2, 7]⟩
  | 7 => ⟨[2, 3], [2], [], [], [2]⟩
  | 8 => ⟨[2, 3], [2], [], [], [2]⟩
  | _ => ⟨[], [], [], [], []⟩
noncomputable abbrev x_lens_Parse : Cx := ⟨Tryd.prog, ⟨id, nf_lens_Parse, fp_lens_Parse⟩, an_lens_Parse⟩
theorem start_lens_Parse {args : List PV} {r : PV} (ha : args.length = 1) (h : awp x_lens_Parse c_lens_Parse (bodyR Tryd.prog [.cell 2 53, .tmp 3] r []) (initSt args [])) : PC Tryd.prog 37 args r :=
  pc_of_awp (X := x_lens_Parse) mixed Tryd.func37 (c := c_lens_Parse) (by kernel_rfl) (by kernel_rfl) (rs := [.cell 2 53, .tmp 3]) (by kernel_rfl) (by kernel_rfl) (by rw [ha]; decide) h
noncomputable def c_diptychlaw13_shown : Code := (Tryd.f24.body).getD .skip
def nf_diptychlaw13_shown : List (Nat × Nf) := []
def fp_diptychlaw13_shown : List (Nat × List Nat) := []
def an_diptychlaw13_shown : Nat → Ann
  | 0 => ⟨[], [], [], [], []⟩
  | 1 => ⟨[1, 2], [1], [], [], [1]⟩
  | 2 => ⟨[2, 3], [], [], [], []⟩
  | 3 => ⟨[0], [], [], [], []⟩
  | _ => ⟨[], [], [], [], []⟩
noncomputable abbrev x_diptychlaw13_shown : Cx := ⟨Tryd.prog, ⟨id, nf_diptychlaw13_shown, fp_diptychlaw13_shown⟩, an_diptychlaw13_shown⟩
theorem start_diptychlaw13_shown {args : List PV} {r : PV} (ha : args.length = 0) (h : awp x_diptychlaw13_shown c_diptychlaw13_shown (bodyR Tryd.prog [.tmp 0] r []) (initSt args [])) : PC Tryd.prog 24 args r :=
  pc_of_awp (X := x_diptychlaw13_shown) mixed Tryd.func24 (c := c_diptychlaw13_shown) (by kernel_rfl) (by kernel_rfl) (rs := [.tmp 0]) (by kernel_rfl) (by kernel_rfl) (by rw [ha]; decide) h
noncomputable def c_diptychlaw13_light : Code := (Tryd.f25.body).getD .skip
def nf_diptychlaw13_light : List (Nat × Nf) := []
def fp_diptychlaw13_light : List (Nat × List Nat) := []
def an_diptychlaw13_light : Nat → Ann
  | 0 => ⟨[1, 2], [2], [], [], [2]⟩
  | 1 => ⟨[1, 2], [2], [], [], [2]⟩
  | 2 => ⟨[1, 2, 5], [2], [], [], [2]⟩
  | 3 => ⟨[1, 2, 5, 26], [2], [], [], [2]⟩
  | 4 => ⟨[1, 2, 5], [2], [], [], [2]⟩
  | 5 => ⟨[1, 2, 5], [2], [], [], [2]⟩
  | 6 => ⟨[1, 37], [], [], [], []⟩
  | 7 => ⟨[4], [], [], [], []⟩
  | 8 => ⟨[4], [], [], [], []⟩
  | _ => ⟨[], [], [], [], []⟩
noncomputable abbrev x_diptychlaw13_light : Cx := ⟨Tryd.prog, ⟨id, nf_diptychlaw13_light, fp_diptychlaw13_light⟩, an_diptychlaw13_light⟩
theorem start_diptychlaw13_light {args : List PV} {r : PV} (ha : args.length = 2) (h : awp x_diptychlaw13_light c_diptychlaw13_light (bodyR Tryd.prog [.tmp 4] r []) (initSt args [])) : PC Tryd.prog 25 args r :=
  pc_of_awp (X := x_diptychlaw13_light) mixed Tryd.func25 (c := c_diptychlaw13_light) (by kernel_rfl) (by kernel_rfl) (rs := [.tmp 4]) (by kernel_rfl) (by kernel_rfl) (by rw [ha]; decide) h
noncomputable def c_diptychlaw13_asPrim : Code := (Tryd.f40.body).getD .skip
def nf_diptychlaw13_asPrim : List (Nat × Nf) := []
def fp_diptychlaw13_asPrim : List (Nat × List Nat) := []
def an_diptychlaw13_asPrim : Nat → Ann
  | 0 => ⟨[1, 2], [1, 2], [.nrm 2 [none, none, none, none, some 1, some 1]], [], [1, 2]⟩
  | 1 => ⟨[2], [2], [], [], [2]⟩
  | _ => ⟨[], [], [], [], []⟩
noncomputable abbrev x_diptychlaw13_asPrim : Cx := ⟨Tryd.prog, ⟨id, nf_diptychlaw13_asPrim, fp_diptychlaw13_asPrim⟩, an_diptychlaw13_asPrim⟩
theorem start_diptychlaw13_asPrim {args : List PV} {r : PV} (ha : args.length = 1) (h : awp x_diptychlaw13_asPrim c_diptychlaw13_asPrim (bodyR Tryd.prog [.cell 2 55] r []) (initSt args [])) : PC Tryd.prog 40 args r :=
  pc_of_awp (X := x_diptychlaw13_asPrim) mixed Tryd.func40 (c := c_diptychlaw13_asPrim) (by kernel_rfl) (by kernel_rfl) (rs := [.cell 2 55]) (by kernel_rfl) (by kernel_rfl) (by rw [ha]; decide) h
noncomputable def c_diptychlaw13_asLens : Code := (Tryd.f26.body).getD .skip
def nf_diptychlaw13_asLens : List (Nat × Nf) := [(29, [none, none, none, none, none, none, none, some 8])]
def fp_diptychlaw13_asLens : List (Nat × List Nat) := [(18, [3]), (19, [3]), (20, [1]), (21, [1]), (23, []), (24, []), (27, [26, 328]), (28, [3])]
def an_diptychlaw13_asLens : Nat → Ann
  | 0 => ⟨[1, 2], [1, 2], [.nrm 2 [none, none, none, none, some 1, some 1, none, some 8]], [], [1, 2]⟩
  | 1 => ⟨[1, 2, 3], [1, 2, 3, 328], [.thawV 3 7 328 8], [], [1, 2, 3, 328]⟩
  | 2 => ⟨[1, 2, 3, 4], [1, 2, 3, 328], [], [], [1, 2, 3, 328]⟩
  | 3 => ⟨[1, 2, 3, 4, 15], [1, 2, 3, 328], [], [], [1, 2, 3, 328]⟩
  | 4 => ⟨[1, 2, 3, 4], [1, 2, 3, 328], [], [], [1, 2, 3, 328]⟩
  | 5 => ⟨[1, 2, 3, 4], [1, 2, 3, 328], [], [], [1, 2, 3, 328]⟩
  | 6 => ⟨[2], [2], [], [], [2]⟩
  | _ => ⟨[], [], [], [], []⟩
noncomputable abbrev x_diptychlaw13_asLens : Cx := ⟨Tryd.prog, ⟨id, nf_diptychlaw13_asLens, fp_diptychlaw13_asLens⟩, an_diptychlaw13_asLens⟩
theorem start_diptychlaw13_asLens {args : List PV} {r : PV} (ha : args.length = 1) (h : awp x_diptychlaw13_asLens c_diptychlaw13_asLens (bodyR Tryd.prog [.cell 2 58] r []) (initSt args [])) : PC Tryd.prog 26 args r :=
  pc_of_awp (X := x_diptychlaw13_asLens) mixed Tryd.func26 (c := c_diptychlaw13_asLens) (by kernel_rfl) (by kernel_rfl) (rs := [.cell 2 58]) (by kernel_rfl) (by kernel_rfl) (by rw [ha]; decide) h
noncomputable def c_diptychlaw13_sameNames : Code := (Tryd.f76.body).getD .skip
def nf_diptychlaw13_sameNames : List (Nat × Nf) := []
def fp_diptychlaw13_sameNames : List (Nat × List Nat) := []
def an_diptychlaw13_sameNames : Nat → Ann
  | 0 => ⟨[0, 1], [], [], [], []⟩
  | 1 => ⟨[0, 1, 10], [], [], [], []⟩
  | 2 => ⟨[4], [], [], [], []⟩
  | 3 => ⟨[0, 1, 5], [], [], [], []⟩
  | 4 => ⟨[0, 1, 5, 14], [], [], [], []⟩
  | 5 => ⟨[0, 1, 5], [], [], [], []⟩
  | 6 => ⟨[0, 1, 5, 25], [], [], [], []⟩
  | 7 => ⟨[4], [], [], [], []⟩
  | 8 => ⟨[4], [], [], [], []⟩
  | _ => ⟨[], [], [], [], []⟩
noncomputable abbrev x_diptychlaw13_sameNames : Cx := ⟨Tryd.prog, ⟨id, nf_diptychlaw13_sameNames, fp_diptychlaw13_sameNames⟩, an_diptychlaw13_sameNames⟩
theorem start_diptychlaw13_sameNames {args : List PV} {r : PV} (ha : args.length = 2) (h : awp x_diptychlaw13_sameNames c_diptychlaw13_sameNames (bodyR Tryd.prog [.tmp 4] r []) (initSt args [])) : PC Tryd.prog 76 args r :=
  pc_of_awp (X := x_diptychlaw13_sameNames) mixed Tryd.func76 (c := c_diptychlaw13_sameNames) (by kernel_rfl) (by kernel_rfl) (rs := [.tmp 4]) (by kernel_rfl) (by kernel_rfl) (by rw [ha]; decide) h
noncomputable def c_diptychlaw13_samePrim : Code := (Tryd.f31.body).getD .skip
def nf_diptychlaw13_samePrim : List (Nat × Nf) := []
def fp_diptychlaw13_samePrim : List (Nat × List Nat) := []
def an_diptychlaw13_samePrim : Nat → Ann
  | 0 => ⟨[2, 3], [2, 3], [], [], [2, 3]⟩
  | 1 => ⟨[4], [], [], [], []⟩
  | _ => ⟨[], [], [], [], []⟩
noncomputable abbrev x_diptychlaw13_samePrim : Cx := ⟨Tryd.prog, ⟨id, nf_diptychlaw13_samePrim, fp_diptychlaw13_samePrim⟩, an_diptychlaw13_samePrim⟩
theorem start_diptychlaw13_samePrim {args : List PV} {r : PV} (ha : args.length = 2) (h : awp x_diptychlaw13_samePrim c_diptychlaw13_samePrim (bodyR Tryd.prog [.tmp 4] r []) (initSt args [])) : PC Tryd.prog 31 args r :=
  pc_of_awp (X := x_diptychlaw13_samePrim) mixed Tryd.func31 (c := c_diptychlaw13_samePrim) (by kernel_rfl) (by kernel_rfl) (rs := [.tmp 4]) (by kernel_rfl) (by kernel_rfl) (by rw [ha]; decide) h
noncomputable def c_diptychlaw13_sameLens : Code := (Tryd.f39.body).getD .skip
def nf_diptychlaw13_sameLens : List (Nat × Nf) := []
def fp_diptychlaw13_sameLens : List (Nat × List Nat) := []
def an_diptychlaw13_sameLens : Nat → Ann
  | 0 => ⟨[2, 3], [2, 3], [], [], [2, 3]⟩
  | 1 => ⟨[2, 3, 27], [2, 3], [], [], [2, 3]⟩
  | 2 => ⟨[4], [], [], [], []⟩
  | 3 => ⟨[2, 3, 5], [2, 3], [], [], [2, 3]⟩
  | 4 => ⟨[2, 3, 5, 32], [2, 3], [], [], [2, 3]⟩
  | 5 => ⟨[2, 3, 5], [2, 3], [], [], [2, 3]⟩
  | 6 => ⟨[2, 3, 5, 46], [2, 3], [], [], [2, 3]⟩
  | 7 => ⟨[4], [], [], [], []⟩
  | 8 => ⟨[4], [], [], [], []⟩
  | _ => ⟨[], [], [], [], []⟩
noncomputable abbrev x_diptychlaw13_sameLens : Cx := ⟨Tryd.prog, ⟨id, nf_diptychlaw13_sameLens, fp_diptychlaw13_sameLens⟩, an_diptychlaw13_sameLens⟩
theorem start_diptychlaw13_sameLens {args : List PV} {r : PV} (ha : args.length = 2) (h : awp x_diptychlaw13_sameLens c_diptychlaw13_sameLens (bodyR Tryd.prog [.tmp 4] r []) (initSt args [])) : PC Tryd.prog 39 args r :=
  pc_of_awp (X := x_diptychlaw13_sameLens) mixed Tryd.func39 (c := c_diptychlaw13_sameLens) (by kernel_rfl) (by kernel_rfl) (rs := [.tmp 4]) (by kernel_rfl) (by kernel_rfl) (by rw [ha]; decide) h
noncomputable def c_slices_Clone_lens_Lens : Code := (Tryd.f80.body).getD .skip
def nf_slices_Clone_lens_Lens : List (Nat × Nf) := []
def fp_slices_Clone_lens_Lens : List (Nat × List Nat) := []
def an_slices_Clone_lens_Lens : Nat → Ann
  | 0 => ⟨[0], [5], [], [], [5]⟩
  | 1 => ⟨[0, 4], [5], [], [], [5]⟩
  | 2 => ⟨[2], [5], [], [], [5]⟩
  | 3 => ⟨[2], [5], [], [], [5]⟩
  | _ => ⟨[], [], [], [], []⟩
noncomputable abbrev x_slices_Clone_lens_Lens : Cx := ⟨Tryd.prog, ⟨id, nf_slices_Clone_lens_Lens, fp_slices_Clone_lens_Lens⟩, an_slices_Clone_lens_Lens⟩
theorem start_slices_Clone_lens_Lens {args : List PV} {r : PV} (ha : args.length = 1) (h : awp x_slices_Clone_lens_Lens c_slices_Clone_lens_Lens (bodyR Tryd.prog [.tmp 2] r []) (initSt args [])) : PC Tryd.prog 80 args r :=
  pc_of_awp (X := x_slices_Clone_lens_Lens) mixed Tryd.func80 (c := c_slices_Clone_lens_Lens) (by kernel_rfl) (by kernel_rfl) (rs := [.tmp 2]) (by kernel_rfl) (by kernel_rfl) (by rw [ha]; decide) h
noncomputable def c_lens_Invert : Code := (Tryd.f41.body).getD .skip
def nf_lens_Invert : List (Nat × Nf) := [(10, [none, none, none, none, some 1, some 1, none, some 8])]
def fp_lens_Invert : List (Nat × List Nat) := []
def an_lens_Invert : Nat → Ann
  | 0 => ⟨[1, 2], [1, 2], [.nrm 2 [none, none, none, none, some 1, some 1, none, some 8]], [], [1, 2]⟩
  | 1 => ⟨[1, 2, 3], [1, 2], [], [], [1, 2]⟩
  | 2 => ⟨[2], [2], [], [], [2]⟩
  | 3 => ⟨[1, 2, 11], [1, 2], [], [], [1, 2]⟩
  | 4 => ⟨[2], [2], [], [], [2]⟩
  | 5 => ⟨[2], [2], [.nrm 2 [none, none, none, none, some 1, some 1, none, none]], [], [2]⟩
  | _ => ⟨[], [], [], [], []⟩
noncomputable abbrev x_lens_Invert : Cx := ⟨Tryd.prog, ⟨id, nf_lens_Invert, fp_lens_Invert⟩, an_lens_Invert⟩
theorem start_lens_Invert {args : List PV} {r : PV} (ha : args.length = 1) (h : awp x_lens_Invert c_lens_Invert (bodyR Tryd.prog [.cell 2 53] r []) (initSt args [])) : PC Tryd.prog 41 args r :=
  pc_of_awp (X := x_lens_Invert) mixed Tryd.func41 (c := c_lens_Invert) (by kernel_rfl) (by kernel_rfl) (rs := [.cell 2 53]) (by kernel_rfl) (by kernel_rfl) (by rw [ha]; decide) h
noncomputable def c_diptychlaw13_LensApart : Code := (Tryd.f10.body).getD .skip
def nf_diptychlaw13_LensApart : List (Nat × Nf) := []
def fp_diptychlaw13_LensApart : List (Nat × List Nat) := []
def an_diptychlaw13_LensApart : Nat → Ann
  | 0 => ⟨[2, 3], [2, 3], [], [], [2, 3]⟩
  | 1 => ⟨[2, 3, 5], [2, 3], [], [], [2, 3]⟩
  | 2 => ⟨[2, 3, 5, 34], [2, 3], [], [], [2, 3]⟩
  | 3 => ⟨[4], [], [], [], []⟩
  | 4 => ⟨[2, 3, 6, 7], [2, 3], [], [], [2, 3]⟩
  | 5 => ⟨[2, 3, 6, 7, 8, 9], [2, 3], [], [], [2, 3]⟩
  | 6 => ⟨[2, 3, 6, 7, 8, 9, 10, 11], [2, 3], [], [], [2, 3]⟩
  | 7 => ⟨[2, 6, 10, 11, 67], [2], [], [], [2]⟩
  | 8 => ⟨[4], [], [], [], []⟩
  | 9 => ⟨[4], [], [], [], []⟩
  | _ => ⟨[], [], [], [], []⟩
noncomputable abbrev x_diptychlaw13_LensApart : Cx := ⟨Tryd.prog, ⟨id, nf_diptychlaw13_LensApart, fp_diptychlaw13_LensApart⟩, an_diptychlaw13_LensApart⟩
theorem start_diptychlaw13_LensApart {args : List PV} {r : PV} (ha : args.length = 2) (h : awp x_diptychlaw13_LensApart c_diptychlaw13_LensApart (bodyR Tryd.prog [.tmp 4] r []) (initSt args [])) : PC Tryd.prog 10 args r :=
  pc_of_awp (X := x_diptychlaw13_LensApart) mixed Tryd.func10 (c := c_diptychlaw13_LensApart) (by kernel_rfl) (by kernel_rfl) (rs := [.tmp 4]) (by kernel_rfl) (by kernel_rfl) (by rw [ha]; decide) h
attribute [go_sem] an_lens_Turn nf_lens_Turn fp_lens_Turn an_slices_Reverse_lens_Prim_x nf_slices_Reverse_lens_Prim_x fp_slices_Reverse_lens_Prim_x an_lens_Flat nf_lens_Flat fp_lens_Flat an_lens_Lens_many nf_lens_Lens_many fp_lens_Lens_many an_lens_Lens_plain nf_lens_Lens_plain fp_lens_Lens_plain an_node_Name nf_node_Name fp_node_Name an_slices_Index_string nf_slices_Index_string fp_slices_Index_string an_slices_Contains_string nf_slices_Contains_string fp_slices_Contains_string an_lens_values nf_lens_values fp_lens_values an_lens_Prim_right nf_lens_Prim_right fp_lens_Prim_right an_lens_Lens_formed_1 nf_lens_Lens_formed_1 fp_lens_Lens_formed_1 an_slices_IndexFunc_lens_Lens_lens_Lens_formed_1 nf_slices_IndexFunc_lens_Lens_lens_Lens_formed_1 fp_slices_IndexFunc_lens_Lens_lens_Lens_formed_1 an_slices_ContainsFunc_lens_Lens_lens_Lens_formed_1 nf_slices_ContainsFunc_lens_Lens_lens_Lens_formed_1 fp_slices_ContainsFunc_lens_Lens_lens_Lens_formed_1 an_lens_Lens_formed nf_lens_Lens_formed fp_lens_Lens_formed an_lens_Right nf_lens_Right fp_lens_Right an_lens_opOf nf_lens_opOf fp_lens_opOf an_lens_verb nf_lens_verb fp_lens_verb an_lens_Prim_text nf_lens_Prim_text fp_lens_Prim_text an_lens_Lens_text nf_lens_Lens_text fp_lens_Lens_text an_lens_Print nf_lens_Print fp_lens_Print an_internal_stringslite_HasPrefix nf_internal_stringslite_HasPrefix fp_internal_stringslite_HasPrefix an_internal_stringslite_CutPrefix nf_internal_stringslite_CutPrefix fp_internal_stringslite_CutPrefix an_strings_CutPrefix nf_strings_CutPrefix fp_strings_CutPrefix an_strings_HasPrefix nf_strings_HasPrefix fp_strings_HasPrefix an_lens_prim nf_lens_prim fp_lens_prim an_lens_row nf_lens_row fp_lens_row an_lens_Parse nf_lens_Parse fp_lens_Parse an_diptychlaw13_shown nf_diptychlaw13_shown fp_diptychlaw13_shown an_diptychlaw13_light nf_diptychlaw13_light fp_diptychlaw13_light an_diptychlaw13_asPrim nf_diptychlaw13_asPrim fp_diptychlaw13_asPrim an_diptychlaw13_asLens nf_diptychlaw13_asLens fp_diptychlaw13_asLens an_diptychlaw13_sameNames nf_diptychlaw13_sameNames fp_diptychlaw13_sameNames an_diptychlaw13_samePrim nf_diptychlaw13_samePrim fp_diptychlaw13_samePrim an_diptychlaw13_sameLens nf_diptychlaw13_sameLens fp_diptychlaw13_sameLens an_slices_Clone_lens_Lens nf_slices_Clone_lens_Lens fp_slices_Clone_lens_Lens an_lens_Invert nf_lens_Invert fp_lens_Invert an_diptychlaw13_LensApart nf_diptychlaw13_LensApart fp_diptychlaw13_LensApart ty3 ty4 ty5 ty9 ty24 ty38 ty50 ty51 ty53 ty55 ty56 ty58 ty69 lens_Prim.pv_eq lens_Lens.pv_eq diptychref13_Prim.pv_eq diptychref13_Lens.pv_eq pvL

end Go.Proofs.YtpjdafhmneiohaaDoor
