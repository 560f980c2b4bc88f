/- Code, and what is kept. -/
import Derived.Test.YtafcbjepmjcpgaaAg0
import Derived.Test.YtafcbjepmjcpgaaAwT
namespace Go.Proofs.Ytafcbjepmjcpgaa
set_option linter.unusedSimpArgs false
set_option linter.unusedVariables false
open Go
set_option maxRecDepth 100000

noncomputable def c_node_isText : Code := (Try.f61.body).getD .skip
def nf_node_isText : List (Nat × Nf) := []
def fp_node_isText : List (Nat × List Nat) := []
def an_node_isText : Nat → Ann
  | 0 => ⟨[1], [1], [], [], [1]⟩
  | 1 => ⟨[2], [], [], [], []⟩
  | _ => ⟨[], [], [], [], []⟩
noncomputable abbrev x_node_isText : Cx := ⟨Try.prog, ⟨id, nf_node_isText, fp_node_isText⟩, an_node_isText⟩
theorem start_node_isText {args : List PV} {r : PV} (ha : args.length = 1) (h : awp x_node_isText c_node_isText (bodyR Try.prog [.tmp 2] r []) (initSt args [])) : PC Try.prog 61 args r :=
  pc_of_awp (X := x_node_isText) mixed Try.func61 (c := c_node_isText) (by kernel_rfl) (by kernel_rfl) (rs := [.tmp 2]) (by kernel_rfl) (by kernel_rfl) (by rw [ha]; decide) h
noncomputable def c_unicode_utf8_RuneCountInString : Code := (Try.f62.body).getD .skip
def nf_unicode_utf8_RuneCountInString : List (Nat × Nf) := []
def fp_unicode_utf8_RuneCountInString : List (Nat × List Nat) := []
def an_unicode_utf8_RuneCountInString : Nat → Ann
  | 0 => ⟨[0, 2], [], [], [], []⟩
  | 1 => ⟨[2, 4], [4], [], [], [4]⟩
  | 2 => ⟨[2, 4, 6], [4], [], [], [4]⟩
  | 3 => ⟨[2, 4], [4], [], [], [4]⟩
  | 4 => ⟨[2], [], [], [], []⟩
  | _ => ⟨[], [], [], [], []⟩
noncomputable abbrev x_unicode_utf8_RuneCountInString : Cx := ⟨Try.prog, ⟨id, nf_unicode_utf8_RuneCountInString, fp_unicode_utf8_RuneCountInString⟩, an_unicode_utf8_RuneCountInString⟩
theorem start_unicode_utf8_RuneCountInString {args : List PV} {r : PV} (ha : args.length = 1) (h : awp x_unicode_utf8_RuneCountInString c_unicode_utf8_RuneCountInString (bodyR Try.prog [.tmp 2] r []) (initSt args [])) : PC Try.prog 62 args r :=
  pc_of_awp (X := x_unicode_utf8_RuneCountInString) mixed Try.func62 (c := c_unicode_utf8_RuneCountInString) (by kernel_rfl) (by kernel_rfl) (rs := [.tmp 2]) (by kernel_rfl) (by kernel_rfl) (by rw [ha]; decide) h
noncomputable def c_node_Size : Code := (Try.f47.body).getD .skip
def nf_node_Size : List (Nat × Nf) := []
def fp_node_Size : List (Nat × List Nat) := []
def an_node_Size : Nat → Ann
  | 0 => ⟨[1], [1], [], [], [1]⟩
  | 1 => ⟨[1, 4], [1], [], [], [1]⟩
  | 2 => ⟨[2], [], [], [], []⟩
  | 3 => ⟨[2], [], [], [], []⟩
  | _ => ⟨[], [], [], [], []⟩
noncomputable abbrev x_node_Size : Cx := ⟨Try.prog, ⟨id, nf_node_Size, fp_node_Size⟩, an_node_Size⟩
theorem start_node_Size {args : List PV} {r : PV} (ha : args.length = 1) (h : awp x_node_Size c_node_Size (bodyR Try.prog [.tmp 2] r []) (initSt args [])) : PC Try.prog 47 args r :=
  pc_of_awp (X := x_node_Size) mixed Try.func47 (c := c_node_Size) (by kernel_rfl) (by kernel_rfl) (rs := [.tmp 2]) (by kernel_rfl) (by kernel_rfl) (by rw [ha]; decide) h
noncomputable def c_node_Total : Code := (Try.f37.body).getD .skip
def nf_node_Total : List (Nat × Nf) := []
def fp_node_Total : List (Nat × List Nat) := []
def an_node_Total : Nat → Ann
  | 0 => ⟨[0], [], [], [], []⟩
  | 1 => ⟨[0, 3], [], [], [], []⟩
  | 2 => ⟨[3, 6, 7, 8], [], [], [], []⟩
  | 3 => ⟨[3, 6, 7, 8, 9], [], [], [], []⟩
  | 4 => ⟨[3, 5, 6, 7, 8], [5], [], [], [5]⟩
  | 5 => ⟨[3, 6, 7, 8], [], [], [], []⟩
  | 6 => ⟨[3, 6, 7, 8], [], [], [], []⟩
  | 7 => ⟨[2], [], [], [], []⟩
  | _ => ⟨[], [], [], [], []⟩
noncomputable abbrev x_node_Total : Cx := ⟨Try.prog, ⟨id, nf_node_Total, fp_node_Total⟩, an_node_Total⟩
theorem start_node_Total {args : List PV} {r : PV} (ha : args.length = 1) (h : awp x_node_Total c_node_Total (bodyR Try.prog [.tmp 2] r []) (initSt args [])) : PC Try.prog 37 args r :=
  pc_of_awp (X := x_node_Total) mixed Try.func37 (c := c_node_Total) (by kernel_rfl) (by kernel_rfl) (rs := [.tmp 2]) (by kernel_rfl) (by kernel_rfl) (by rw [ha]; decide) h
noncomputable def c_place_Resolve : Code := (Try.f31.body).getD .skip
def nf_place_Resolve : List (Nat × Nf) := [(24, [some 1, none, none]), (59, [some 1, none, none]), (65, [some 1, none, none]), (71, [some 1, none, none])]
def fp_place_Resolve : List (Nat × List Nat) := []
def an_place_Resolve : Nat → Ann
  | 0 => ⟨[1, 2, 4], [2, 4], [.nrm 4 [some 1, none, none]], [], [2, 4]⟩
  | 1 => ⟨[1, 2, 4, 23], [2, 4], [], [], [2, 4]⟩
  | 2 => ⟨[4, 5], [4], [], [], [4]⟩
  | 3 => ⟨[1, 2, 4, 6], [2, 4, 6, 342], [.thawV 6 0 342 1], [], [2, 4, 6, 342]⟩
  | 4 => ⟨[1, 2, 4, 6, 26, 27, 28], [2, 4, 6, 342], [], [], [2, 4, 6, 342]⟩
  | 5 => ⟨[1, 2, 4, 6, 26, 27, 28, 29], [2, 4, 6, 342], [], [], [2, 4, 6, 342]⟩
  | 6 => ⟨[1, 2, 4, 6, 7, 8, 26, 27, 28], [2, 4, 6, 8, 342], [], [], [2, 4, 6, 8, 342]⟩
  | 7 => ⟨[1, 2, 4, 6, 7, 8, 9, 26, 27, 28], [2, 4, 6, 8, 342], [], [], [2, 4, 6, 8, 342]⟩
  | 8 => ⟨[1, 2, 4, 6, 8], [2, 4, 6, 8, 342], [], [], [2, 4, 6, 8, 342]⟩
  | 9 => ⟨[1, 2, 4, 6], [2, 4, 6, 342], [], [], [2, 4, 6, 342]⟩
  | 10 => ⟨[1, 2, 4, 6, 7, 8, 9, 26, 27, 28, 44], [2, 4, 6, 8, 342], [], [], [2, 4, 6, 8, 342]⟩
  | 11 => ⟨[1, 2, 4, 6, 26, 27, 28], [2, 4, 6, 342], [], [], [2, 4, 6, 342]⟩
  | 12 => ⟨[1, 2, 4, 6, 7, 8, 51], [2, 4, 6, 8, 342], [], [], [2, 4, 6, 8, 342]⟩
  | 13 => ⟨[4, 6], [4, 6, 342], [], [], [4, 6, 342]⟩
  | 14 => ⟨[4, 5], [4], [], [], [4]⟩
  | 15 => ⟨[1, 2, 4, 6, 7, 8, 60], [2, 4, 6, 8, 342], [], [], [2, 4, 6, 8, 342]⟩
  | 16 => ⟨[4, 6], [4, 6, 342], [], [], [4, 6, 342]⟩
  | 17 => ⟨[4, 5], [4], [], [], [4]⟩
  | 18 => ⟨[1, 2, 4, 6, 26, 27, 28], [2, 4, 6, 342], [], [], [2, 4, 6, 342]⟩
  | 19 => ⟨[4, 6], [4, 6, 342], [], [], [4, 6, 342]⟩
  | 20 => ⟨[4, 5], [4], [], [], [4]⟩
  | _ => ⟨[], [], [], [], []⟩
noncomputable abbrev x_place_Resolve : Cx := ⟨Try.prog, ⟨id, nf_place_Resolve, fp_place_Resolve⟩, an_place_Resolve⟩
theorem start_place_Resolve {args : List PV} {r : PV} (ha : args.length = 2) (h : awp x_place_Resolve c_place_Resolve (bodyR Try.prog [.cell 4 49, .tmp 5] r []) (initSt args [])) : PC Try.prog 31 args r :=
  pc_of_awp (X := x_place_Resolve) mixed Try.func31 (c := c_place_Resolve) (by kernel_rfl) (by kernel_rfl) (rs := [.cell 4 49, .tmp 5]) (by kernel_rfl) (by kernel_rfl) (by rw [ha]; decide) h
noncomputable def c_diptychlaw4_shown : Code := (Try.f29.body).getD .skip
def nf_diptychlaw4_shown : List (Nat × Nf) := [(4, [none, none, some 1, some 2, some 5]), (6, [none, none, some 1, some 2, some 5]), (8, [none, none, some 1, some 2, some 5])]
def fp_diptychlaw4_shown : List (Nat × List Nat) := []
def an_diptychlaw4_shown : Nat → Ann
  | 0 => ⟨[], [], [], [], []⟩
  | 1 => ⟨[1], [1], [], [], [1]⟩
  | 2 => ⟨[2, 3], [2], [], [], [2]⟩
  | 3 => ⟨[0], [], [], [], []⟩
  | _ => ⟨[], [], [], [], []⟩
noncomputable abbrev x_diptychlaw4_shown : Cx := ⟨Try.prog, ⟨id, nf_diptychlaw4_shown, fp_diptychlaw4_shown⟩, an_diptychlaw4_shown⟩
theorem start_diptychlaw4_shown {args : List PV} {r : PV} (ha : args.length = 0) (h : awp x_diptychlaw4_shown c_diptychlaw4_shown (bodyR Try.prog [.tmp 0] r []) (initSt args [])) : PC Try.prog 29 args r :=
  pc_of_awp (X := x_diptychlaw4_shown) mixed Try.func29 (c := c_diptychlaw4_shown) (by kernel_rfl) (by kernel_rfl) (rs := [.tmp 0]) (by kernel_rfl) (by kernel_rfl) (by rw [ha]; decide) h
noncomputable def c_diptychlaw4_pick : Code := (Try.f45.body).getD .skip
def nf_diptychlaw4_pick : List (Nat × Nf) := []
def fp_diptychlaw4_pick : List (Nat × List Nat) := []
def an_diptychlaw4_pick : Nat → Ann
  | 0 => ⟨[0, 1], [], [], [], []⟩
  | 1 => ⟨[0, 1, 6], [], [], [], []⟩
  | 2 => ⟨[0, 1], [], [], [], []⟩
  | 3 => ⟨[4], [], [], [], []⟩
  | _ => ⟨[], [], [], [], []⟩
noncomputable abbrev x_diptychlaw4_pick : Cx := ⟨Try.prog, ⟨id, nf_diptychlaw4_pick, fp_diptychlaw4_pick⟩, an_diptychlaw4_pick⟩
theorem start_diptychlaw4_pick {args : List PV} {r : PV} (ha : args.length = 2) (h : awp x_diptychlaw4_pick c_diptychlaw4_pick (bodyR Try.prog [.tmp 4] r []) (initSt args [])) : PC Try.prog 45 args r :=
  pc_of_awp (X := x_diptychlaw4_pick) mixed Try.func45 (c := c_diptychlaw4_pick) (by kernel_rfl) (by kernel_rfl) (rs := [.tmp 4]) (by kernel_rfl) (by kernel_rfl) (by rw [ha]; decide) h
noncomputable def c_diptychref1_sameNames : Code := (Try.f56.body).getD .skip
def nf_diptychref1_sameNames : List (Nat × Nf) := []
def fp_diptychref1_sameNames : List (Nat × List Nat) := []
def an_diptychref1_sameNames : Nat → Ann
  | 0 => ⟨[0, 1], [], [], [], []⟩
  | 1 => ⟨[0, 1, 10], [], [], [], []⟩
  | 2 => ⟨[4], [], [], [], []⟩
  | 3 => ⟨[0, 1, 5], [], [], [], []⟩
  | 4 => ⟨[0, 1, 5, 14], [], [], [], []⟩
  | 5 => ⟨[0, 1, 5], [], [], [], []⟩
  | 6 => ⟨[0, 1, 5, 25], [], [], [], []⟩
  | 7 => ⟨[4], [], [], [], []⟩
  | 8 => ⟨[4], [], [], [], []⟩
  | _ => ⟨[], [], [], [], []⟩
noncomputable abbrev x_diptychref1_sameNames : Cx := ⟨Try.prog, ⟨id, nf_diptychref1_sameNames, fp_diptychref1_sameNames⟩, an_diptychref1_sameNames⟩
theorem start_diptychref1_sameNames {args : List PV} {r : PV} (ha : args.length = 2) (h : awp x_diptychref1_sameNames c_diptychref1_sameNames (bodyR Try.prog [.tmp 4] r []) (initSt args [])) : PC Try.prog 56 args r :=
  pc_of_awp (X := x_diptychref1_sameNames) mixed Try.func56 (c := c_diptychref1_sameNames) (by kernel_rfl) (by kernel_rfl) (rs := [.tmp 4]) (by kernel_rfl) (by kernel_rfl) (by rw [ha]; decide) h
noncomputable def c_diptychref1_Join : Code := (Try.f63.body).getD .skip
def nf_diptychref1_Join : List (Nat × Nf) := []
def fp_diptychref1_Join : List (Nat × List Nat) := [(65, [3]), (66, [3, 62]), (67, [5]), (69, [62, 68])]
def an_diptychref1_Join : Nat → Ann
  | 0 => ⟨[0], [], [], [], []⟩
  | 1 => ⟨[0, 3], [3], [.thaw 3 3 5], [], [3]⟩
  | 2 => ⟨[0, 3, 4], [3], [], [], [3]⟩
  | 3 => ⟨[0, 3, 4, 10], [3], [], [], [3]⟩
  | 4 => ⟨[0, 3, 4], [3], [], [], [3]⟩
  | 5 => ⟨[0, 3, 4, 5], [3, 5], [], [], [3, 5]⟩
  | 6 => ⟨[0, 3, 4, 5, 6], [3, 5], [], [], [3, 5]⟩
  | 7 => ⟨[0, 3, 4, 5, 6, 27], [3, 5], [], [], [3, 5]⟩
  | 8 => ⟨[0, 3, 4, 5, 6, 52], [3, 5], [], [], [3, 5]⟩
  | 9 => ⟨[0, 3, 4, 5, 6], [3, 5], [], [], [3, 5]⟩
  | 10 => ⟨[0, 3, 4], [62], [], [.ren 62 3], [3, 62]⟩
  | 11 => ⟨[0, 3, 4], [3], [], [], [3]⟩
  | 12 => ⟨[2], [3], [], [.ren 3 2], [2, 3]⟩
  | _ => ⟨[], [], [], [], []⟩
noncomputable abbrev x_diptychref1_Join : Cx := ⟨Try.prog, ⟨id, nf_diptychref1_Join, fp_diptychref1_Join⟩, an_diptychref1_Join⟩
theorem start_diptychref1_Join {args : List PV} {r : PV} (ha : args.length = 1) (h : awp x_diptychref1_Join c_diptychref1_Join (bodyR Try.prog [.tmp 2] r []) (initSt args [])) : PC Try.prog 63 args r :=
  pc_of_awp (X := x_diptychref1_Join) mixed Try.func63 (c := c_diptychref1_Join) (by kernel_rfl) (by kernel_rfl) (rs := [.tmp 2]) (by kernel_rfl) (by kernel_rfl) (by rw [ha]; decide) h
noncomputable def c_diptychlaw4_made : Code := (Try.f51.body).getD .skip
def nf_diptychlaw4_made : List (Nat × Nf) := [(32, [none, none, some 1, some 2, some 5]), (61, [none, none, some 1, some 2, some 5])]
def fp_diptychlaw4_made : List (Nat × List Nat) := []
def an_diptychlaw4_made : Nat → Ann
  | 0 => ⟨[0], [], [], [], []⟩
  | 1 => ⟨[0, 3], [10], [], [.ren 10 3], [3, 10]⟩
  | 2 => ⟨[0, 3, 4], [3, 11], [], [.ren 11 4], [3, 4, 11]⟩
  | 3 => ⟨[0, 3, 4, 5], [3, 4, 5], [.thaw 5 5 5], [], [3, 4, 5]⟩
  | 4 => ⟨[0, 3, 4, 5, 6], [3, 4, 5], [], [], [3, 4, 5]⟩
  | 5 => ⟨[0, 3, 4, 5, 6, 19], [3, 4, 5], [], [], [3, 4, 5]⟩
  | 6 => ⟨[0, 3, 4, 5, 6], [3, 4, 5], [], [], [3, 4, 5]⟩
  | 7 => ⟨[0, 3, 4, 5, 6, 7], [3, 4, 5, 7], [], [], [3, 4, 5, 7]⟩
  | 8 => ⟨[0, 3, 4, 5, 6, 7, 8], [3, 4, 5, 7, 8], [], [], [3, 4, 5, 7, 8]⟩
  | 9 => ⟨[0, 3, 4, 5, 6, 7, 8, 36], [3, 4, 5, 7, 8], [], [], [3, 4, 5, 7, 8]⟩
  | 10 => ⟨[0, 3, 4, 5, 6, 7, 8], [3, 4, 5, 7, 8], [.nrm 8 [none, none, none, some 2, none]], [], [3, 4, 5, 7, 8]⟩
  | 11 => ⟨[0, 3, 4, 5, 6, 7, 8, 49], [3, 4, 5, 7, 8], [], [], [3, 4, 5, 7, 8]⟩
  | 12 => ⟨[0, 3, 4, 5, 6, 7, 8, 49, 50], [3, 4, 5, 7, 8], [], [], [3, 4, 5, 7, 8]⟩
  | 13 => ⟨[0, 3, 4, 5, 6, 7, 8, 49, 50], [3, 4, 5, 7, 8], [], [], [3, 4, 5, 7, 8]⟩
  | 14 => ⟨[0, 3, 4, 5, 6, 7, 8, 49, 50], [3, 4, 5, 7, 8], [], [], [3, 4, 5, 7, 8]⟩
  | 15 => ⟨[0, 3, 4, 5, 6, 7, 8, 49, 50], [3, 4, 5, 7, 8], [], [], [3, 4, 5, 7, 8]⟩
  | 16 => ⟨[0, 3, 4, 5, 6, 7, 8], [3, 4, 5, 7, 8], [], [], [3, 4, 5, 7, 8]⟩
  | 17 => ⟨[0, 3, 4, 5, 6, 7, 8, 65], [3, 4, 5, 7, 8], [], [], [3, 4, 5, 7, 8]⟩
  | 18 => ⟨[0, 3, 4, 5, 6, 7, 8], [3, 4, 5, 7, 8], [.nrm 8 [none, none, some 1, none, none]], [], [3, 4, 5, 7, 8]⟩
  | 19 => ⟨[0, 3, 4, 5, 6, 8, 71], [3, 4, 5, 8], [], [], [3, 4, 5, 8]⟩
  | 20 => ⟨[0, 3, 4, 5, 6, 8], [3, 4, 5, 8], [.nrm 8 [none, none, some 1, none, none]], [], [3, 4, 5, 8]⟩
  | 21 => ⟨[0, 3, 4, 5, 6, 7, 8, 49, 74], [3, 4, 5, 7, 8], [], [], [3, 4, 5, 7, 8]⟩
  | 22 => ⟨[0, 3, 4, 5, 6, 7, 8, 49, 74], [3, 4, 5, 7, 8], [], [], [3, 4, 5, 7, 8]⟩
  | 23 => ⟨[0, 3, 4, 5, 6, 7, 8, 74], [3, 4, 5, 7, 8], [], [], [3, 4, 5, 7, 8]⟩
  | 24 => ⟨[0, 3, 4, 5, 6, 8, 9], [3, 4, 5, 8], [], [], [3, 4, 5, 8]⟩
  | 25 => ⟨[0, 3, 4, 5, 6, 8, 9], [3, 4, 5, 8], [], [], [3, 4, 5, 8]⟩
  | 26 => ⟨[0, 3, 4, 5, 6, 8], [3, 4, 8, 94], [], [.ren 94 5], [3, 4, 5, 8, 94]⟩
  | 27 => ⟨[0, 3, 4, 5, 6], [3, 4, 5], [], [], [3, 4, 5]⟩
  | 28 => ⟨[2], [], [], [], []⟩
  | _ => ⟨[], [], [], [], []⟩
noncomputable abbrev x_diptychlaw4_made : Cx := ⟨Try.prog, ⟨id, nf_diptychlaw4_made, fp_diptychlaw4_made⟩, an_diptychlaw4_made⟩
theorem start_diptychlaw4_made {args : List PV} {r : PV} (ha : args.length = 1) (h : awp x_diptychlaw4_made c_diptychlaw4_made (bodyR Try.prog [.tmp 2] r []) (initSt args [])) : PC Try.prog 51 args r :=
  pc_of_awp (X := x_diptychlaw4_made) mixed Try.func51 (c := c_diptychlaw4_made) (by kernel_rfl) (by kernel_rfl) (rs := [.tmp 2]) (by kernel_rfl) (by kernel_rfl) (by rw [ha]; decide) h
noncomputable def c_diptychlaw4_doc : Code := (Try.f30.body).getD .skip
def nf_diptychlaw4_doc : List (Nat × Nf) := [(5, [none, none, some 1, some 2, none])]
def fp_diptychlaw4_doc : List (Nat × List Nat) := []
def an_diptychlaw4_doc : Nat → Ann
  | 0 => ⟨[0, 2], [2], [.nrm 2 [none, none, some 1, some 2, some 5]], [], [2]⟩
  | 1 => ⟨[2], [2], [], [], [2]⟩
  | _ => ⟨[], [], [], [], []⟩
noncomputable abbrev x_diptychlaw4_doc : Cx := ⟨Try.prog, ⟨id, nf_diptychlaw4_doc, fp_diptychlaw4_doc⟩, an_diptychlaw4_doc⟩
theorem start_diptychlaw4_doc {args : List PV} {r : PV} (ha : args.length = 1) (h : awp x_diptychlaw4_doc c_diptychlaw4_doc (bodyR Try.prog [.cell 2 54] r []) (initSt args [])) : PC Try.prog 30 args r :=
  pc_of_awp (X := x_diptychlaw4_doc) mixed Try.func30 (c := c_diptychlaw4_doc) (by kernel_rfl) (by kernel_rfl) (rs := [.cell 2 54]) (by kernel_rfl) (by kernel_rfl) (by rw [ha]; decide) h
noncomputable def c_place_Inner : Code := (Try.f38.body).getD .skip
def nf_place_Inner : List (Nat × Nf) := [(28, [none, none, some 1, some 2, some 5]), (38, [none, none, some 1, some 2, some 5])]
def fp_place_Inner : List (Nat × List Nat) := []
def an_place_Inner : Nat → Ann
  | 0 => ⟨[1, 2, 4], [2, 4], [.nrm 4 [none, none, some 1, some 2, some 5]], [], [2, 4]⟩
  | 1 => ⟨[2, 4, 8, 9, 10], [2, 4], [], [], [2, 4]⟩
  | 2 => ⟨[2, 4, 8, 9, 10, 11], [2, 4], [], [], [2, 4]⟩
  | 3 => ⟨[2, 4, 7, 8, 9, 10], [2, 4], [], [], [2, 4]⟩
  | 4 => ⟨[2, 4, 7, 8, 9, 10, 27], [2, 4], [], [], [2, 4]⟩
  | 5 => ⟨[4, 5], [4], [], [], [4]⟩
  | 6 => ⟨[2, 4, 8, 9, 10], [2, 4], [], [], [2, 4]⟩
  | 7 => ⟨[2, 4, 8, 9, 10], [2, 4], [], [], [2, 4]⟩
  | 8 => ⟨[2, 4, 37], [2, 4], [], [], [2, 4]⟩
  | 9 => ⟨[4, 5], [4], [], [], [4]⟩
  | 10 => ⟨[4, 5], [4], [], [], [4]⟩
  | _ => ⟨[], [], [], [], []⟩
noncomputable abbrev x_place_Inner : Cx := ⟨Try.prog, ⟨id, nf_place_Inner, fp_place_Inner⟩, an_place_Inner⟩
theorem start_place_Inner {args : List PV} {r : PV} (ha : args.length = 2) (h : awp x_place_Inner c_place_Inner (bodyR Try.prog [.cell 4 54, .tmp 5] r []) (initSt args [])) : PC Try.prog 38 args r :=
  pc_of_awp (X := x_place_Inner) mixed Try.func38 (c := c_place_Inner) (by kernel_rfl) (by kernel_rfl) (rs := [.cell 4 54, .tmp 5]) (by kernel_rfl) (by kernel_rfl) (by rw [ha]; decide) h
noncomputable def c_place_Start : Code := (Try.f39.body).getD .skip
def nf_place_Start : List (Nat × Nf) := []
def fp_place_Start : List (Nat × List Nat) := []
def an_place_Start : Nat → Ann
  | 0 => ⟨[1, 2], [2], [], [], [2]⟩
  | 1 => ⟨[1, 2, 7], [2], [], [], [2]⟩
  | 2 => ⟨[1, 2, 7, 18], [2], [], [], [2]⟩
  | 3 => ⟨[4, 5], [], [], [], []⟩
  | 4 => ⟨[1, 2, 8], [2], [], [], [2]⟩
  | 5 => ⟨[2, 8, 20, 21, 22], [2], [], [], [2]⟩
  | 6 => ⟨[2, 8, 20, 21, 22, 23], [2], [], [], [2]⟩
  | 7 => ⟨[2, 8, 10, 20, 21, 22], [2], [], [], [2]⟩
  | 8 => ⟨[2, 8, 10, 20, 21, 22], [2], [], [], [2]⟩
  | 9 => ⟨[2, 8, 20, 21, 22], [2], [], [], [2]⟩
  | 10 => ⟨[2, 8, 20, 21, 22], [2], [], [], [2]⟩
  | 11 => ⟨[4, 5], [], [], [], []⟩
  | _ => ⟨[], [], [], [], []⟩
noncomputable abbrev x_place_Start : Cx := ⟨Try.prog, ⟨id, nf_place_Start, fp_place_Start⟩, an_place_Start⟩
theorem start_place_Start {args : List PV} {r : PV} (ha : args.length = 2) (h : awp x_place_Start c_place_Start (bodyR Try.prog [.tmp 4, .tmp 5] r []) (initSt args [])) : PC Try.prog 39 args r :=
  pc_of_awp (X := x_place_Start) mixed Try.func39 (c := c_place_Start) (by kernel_rfl) (by kernel_rfl) (rs := [.tmp 4, .tmp 5]) (by kernel_rfl) (by kernel_rfl) (by rw [ha]; decide) h
noncomputable def c_place_Pos : Code := (Try.f33.body).getD .skip
def nf_place_Pos : List (Nat × Nf) := []
def fp_place_Pos : List (Nat × List Nat) := []
def an_place_Pos : Nat → Ann
  | 0 => ⟨[2, 3], [2, 3], [], [], [2, 3]⟩
  | 1 => ⟨[2, 3, 6, 7], [2, 3], [], [], [2, 3]⟩
  | 2 => ⟨[2, 3, 6, 7, 18], [2, 3], [], [], [2, 3]⟩
  | 3 => ⟨[4, 5], [], [], [], []⟩
  | 4 => ⟨[3, 6, 8], [3, 8], [], [], [3, 8]⟩
  | 5 => ⟨[3, 6, 8, 27], [3, 8], [], [], [3, 8]⟩
  | 6 => ⟨[4, 5], [], [], [], []⟩
  | 7 => ⟨[3, 6, 8, 44], [3, 8], [], [], [3, 8]⟩
  | 8 => ⟨[4, 5], [], [], [], []⟩
  | 9 => ⟨[3, 6, 8, 78], [3, 8], [], [], [3, 8]⟩
  | 10 => ⟨[4, 5], [], [], [], []⟩
  | 11 => ⟨[4, 5], [], [], [], []⟩
  | _ => ⟨[], [], [], [], []⟩
noncomputable abbrev x_place_Pos : Cx := ⟨Try.prog, ⟨id, nf_place_Pos, fp_place_Pos⟩, an_place_Pos⟩
theorem start_place_Pos {args : List PV} {r : PV} (ha : args.length = 2) (h : awp x_place_Pos c_place_Pos (bodyR Try.prog [.tmp 4, .tmp 5] r []) (initSt args [])) : PC Try.prog 33 args r :=
  pc_of_awp (X := x_place_Pos) mixed Try.func33 (c := c_place_Pos) (by kernel_rfl) (by kernel_rfl) (rs := [.tmp 4, .tmp 5]) (by kernel_rfl) (by kernel_rfl) (by rw [ha]; decide) h
noncomputable def c_diptychlaw4_as : Code := (Try.f35.body).getD .skip
def nf_diptychlaw4_as : List (Nat × Nf) := []
def fp_diptychlaw4_as : List (Nat × List Nat) := []
def an_diptychlaw4_as : Nat → Ann
  | 0 => ⟨[1, 2], [1, 2], [.nrm 2 [some 1, none, none]], [], [1, 2]⟩
  | 1 => ⟨[2], [2], [], [], [2]⟩
  | _ => ⟨[], [], [], [], []⟩
noncomputable abbrev x_diptychlaw4_as : Cx := ⟨Try.prog, ⟨id, nf_diptychlaw4_as, fp_diptychlaw4_as⟩, an_diptychlaw4_as⟩
theorem start_diptychlaw4_as {args : List PV} {r : PV} (ha : args.length = 1) (h : awp x_diptychlaw4_as c_diptychlaw4_as (bodyR Try.prog [.cell 2 59] r []) (initSt args [])) : PC Try.prog 35 args r :=
  pc_of_awp (X := x_diptychlaw4_as) mixed Try.func35 (c := c_diptychlaw4_as) (by kernel_rfl) (by kernel_rfl) (rs := [.cell 2 59]) (by kernel_rfl) (by kernel_rfl) (by rw [ha]; decide) h
noncomputable def c_diptychref4_same : Code := (Try.f53.body).getD .skip
def nf_diptychref4_same : List (Nat × Nf) := []
def fp_diptychref4_same : List (Nat × List Nat) := []
def an_diptychref4_same : Nat → Ann
  | 0 => ⟨[0, 1], [], [], [], []⟩
  | 1 => ⟨[0, 1, 10], [], [], [], []⟩
  | 2 => ⟨[4], [], [], [], []⟩
  | 3 => ⟨[0, 1, 5], [], [], [], []⟩
  | 4 => ⟨[0, 1, 5, 14], [], [], [], []⟩
  | 5 => ⟨[0, 1, 5], [], [], [], []⟩
  | 6 => ⟨[0, 1, 5, 25], [], [], [], []⟩
  | 7 => ⟨[4], [], [], [], []⟩
  | 8 => ⟨[4], [], [], [], []⟩
  | _ => ⟨[], [], [], [], []⟩
noncomputable abbrev x_diptychref4_same : Cx := ⟨Try.prog, ⟨id, nf_diptychref4_same, fp_diptychref4_same⟩, an_diptychref4_same⟩
theorem start_diptychref4_same {args : List PV} {r : PV} (ha : args.length = 2) (h : awp x_diptychref4_same c_diptychref4_same (bodyR Try.prog [.tmp 4] r []) (initSt args [])) : PC Try.prog 53 args r :=
  pc_of_awp (X := x_diptychref4_same) mixed Try.func53 (c := c_diptychref4_same) (by kernel_rfl) (by kernel_rfl) (rs := [.tmp 4]) (by kernel_rfl) (by kernel_rfl) (by rw [ha]; decide) h
noncomputable def c_diptychref4_Same : Code := (Try.f36.body).getD .skip
def nf_diptychref4_Same : List (Nat × Nf) := []
def fp_diptychref4_Same : List (Nat × List Nat) := []
def an_diptychref4_Same : Nat → Ann
  | 0 => ⟨[2, 3], [2, 3], [], [], [2, 3]⟩
  | 1 => ⟨[4], [], [], [], []⟩
  | _ => ⟨[], [], [], [], []⟩
noncomputable abbrev x_diptychref4_Same : Cx := ⟨Try.prog, ⟨id, nf_diptychref4_Same, fp_diptychref4_Same⟩, an_diptychref4_Same⟩
theorem start_diptychref4_Same {args : List PV} {r : PV} (ha : args.length = 2) (h : awp x_diptychref4_Same c_diptychref4_Same (bodyR Try.prog [.tmp 4] r []) (initSt args [])) : PC Try.prog 36 args r :=
  pc_of_awp (X := x_diptychref4_Same) mixed Try.func36 (c := c_diptychref4_Same) (by kernel_rfl) (by kernel_rfl) (rs := [.tmp 4]) (by kernel_rfl) (by kernel_rfl) (by rw [ha]; decide) h
noncomputable def c_diptychlaw4_PlaceBack : Code := (Try.f11.body).getD .skip
def nf_diptychlaw4_PlaceBack : List (Nat × Nf) := [(24, [some 1, none, none])]
def fp_diptychlaw4_PlaceBack : List (Nat × List Nat) := []
def an_diptychlaw4_PlaceBack : Nat → Ann
  | 0 => ⟨[0], [], [], [], []⟩
  | 1 => ⟨[0, 3], [], [], [], []⟩
  | 2 => ⟨[0, 21], [], [], [], []⟩
  | 3 => ⟨[2], [], [], [], []⟩
  | 4 => ⟨[4], [4], [], [], [4]⟩
  | 5 => ⟨[4, 5], [4, 5], [], [], [4, 5]⟩
  | 6 => ⟨[4, 5, 6], [4, 5], [], [], [4, 5]⟩
  | 7 => ⟨[4, 5, 6, 29], [4, 5], [], [], [4, 5]⟩
  | 8 => ⟨[4, 5, 6], [4, 5], [], [], [4, 5]⟩
  | 9 => ⟨[4, 5, 6, 7, 8], [4, 5, 7], [], [], [4, 5, 7]⟩
  | 10 => ⟨[4, 5, 6, 7, 8, 9, 10], [4, 5, 7], [], [], [4, 5, 7]⟩
  | 11 => ⟨[4, 5, 6, 7, 8, 9, 10, 11, 12], [4, 5, 7, 11], [], [], [4, 5, 7, 11]⟩
  | 12 => ⟨[4, 5, 6, 7, 8, 9, 10, 11, 12, 13, 14], [4, 5, 7, 11], [], [], [4, 5, 7, 11]⟩
  | 13 => ⟨[4, 5, 6, 7, 106], [4, 5, 7], [], [], [4, 5, 7]⟩
  | 14 => ⟨[2], [], [], [], []⟩
  | 15 => ⟨[4, 5, 6], [4, 5], [], [], [4, 5]⟩
  | 16 => ⟨[4, 16], [4], [], [], [4]⟩
  | 17 => ⟨[16, 18], [], [], [], []⟩
  | 18 => ⟨[2], [], [], [], []⟩
  | _ => ⟨[], [], [], [], []⟩
noncomputable abbrev x_diptychlaw4_PlaceBack : Cx := ⟨Try.prog, ⟨id, nf_diptychlaw4_PlaceBack, fp_diptychlaw4_PlaceBack⟩, an_diptychlaw4_PlaceBack⟩
theorem start_diptychlaw4_PlaceBack {args : List PV} {r : PV} (ha : args.length = 1) (h : awp x_diptychlaw4_PlaceBack c_diptychlaw4_PlaceBack (bodyR Try.prog [.tmp 2] r []) (initSt args [])) : PC Try.prog 11 args r :=
  pc_of_awp (X := x_diptychlaw4_PlaceBack) mixed Try.func11 (c := c_diptychlaw4_PlaceBack) (by kernel_rfl) (by kernel_rfl) (rs := [.tmp 2]) (by kernel_rfl) (by kernel_rfl) (by rw [ha]; decide) h
noncomputable def c_diptychref4_Inner : Code := (Try.f40.body).getD .skip
def nf_diptychref4_Inner : List (Nat × Nf) := [(33, [none, none, some 1, some 2, some 5]), (45, [none, none, some 1, some 2, some 5])]
def fp_diptychref4_Inner : List (Nat × List Nat) := []
def an_diptychref4_Inner : Nat → Ann
  | 0 => ⟨[1, 2, 4], [2, 4], [.nrm 4 [none, none, some 1, some 2, some 5]], [], [2, 4]⟩
  | 1 => ⟨[1, 2, 4, 6], [2, 4], [], [], [2, 4]⟩
  | 2 => ⟨[1, 2, 4, 6, 10], [2, 4], [], [], [2, 4]⟩
  | 3 => ⟨[1, 2, 4, 6], [2, 4], [], [], [2, 4]⟩
  | 4 => ⟨[1, 2, 4, 6, 32], [2, 4], [], [], [2, 4]⟩
  | 5 => ⟨[4, 5], [4], [], [], [4]⟩
  | 6 => ⟨[1, 2, 4, 6], [2, 4], [], [], [2, 4]⟩
  | 7 => ⟨[2, 4, 44], [2, 4], [], [], [2, 4]⟩
  | 8 => ⟨[4, 5], [4], [], [], [4]⟩
  | 9 => ⟨[4, 5], [4], [], [], [4]⟩
  | _ => ⟨[], [], [], [], []⟩
noncomputable abbrev x_diptychref4_Inner : Cx := ⟨Try.prog, ⟨id, nf_diptychref4_Inner, fp_diptychref4_Inner⟩, an_diptychref4_Inner⟩
theorem start_diptychref4_Inner {args : List PV} {r : PV} (ha : args.length = 2) (h : awp x_diptychref4_Inner c_diptychref4_Inner (bodyR Try.prog [.cell 4 54, .tmp 5] r []) (initSt args [])) : PC Try.prog 40 args r :=
  pc_of_awp (X := x_diptychref4_Inner) mixed Try.func40 (c := c_diptychref4_Inner) (by kernel_rfl) (by kernel_rfl) (rs := [.cell 4 54, .tmp 5]) (by kernel_rfl) (by kernel_rfl) (by rw [ha]; decide) h
noncomputable def c_diptychref1_runes : Code := (Try.f65.body).getD .skip
def nf_diptychref1_runes : List (Nat × Nf) := []
def fp_diptychref1_runes : List (Nat × List Nat) := []
def an_diptychref1_runes : Nat → Ann
  | 0 => ⟨[0], [], [], [], []⟩
  | 1 => ⟨[0, 4], [], [], [], []⟩
  | 2 => ⟨[2, 3], [], [], [], []⟩
  | _ => ⟨[], [], [], [], []⟩
noncomputable abbrev x_diptychref1_runes : Cx := ⟨Try.prog, ⟨id, nf_diptychref1_runes, fp_diptychref1_runes⟩, an_diptychref1_runes⟩
theorem start_diptychref1_runes {args : List PV} {r : PV} (ha : args.length = 1) (h : awp x_diptychref1_runes c_diptychref1_runes (bodyR Try.prog [.tmp 2, .tmp 3] r []) (initSt args [])) : PC Try.prog 65 args r :=
  pc_of_awp (X := x_diptychref1_runes) mixed Try.func65 (c := c_diptychref1_runes) (by kernel_rfl) (by kernel_rfl) (rs := [.tmp 2, .tmp 3]) (by kernel_rfl) (by kernel_rfl) (by rw [ha]; decide) h
noncomputable def c_diptychref1_Size : Code := (Try.f64.body).getD .skip
def nf_diptychref1_Size : List (Nat × Nf) := []
def fp_diptychref1_Size : List (Nat × List Nat) := []
def an_diptychref1_Size : Nat → Ann
  | 0 => ⟨[1], [1], [], [], [1]⟩
  | 1 => ⟨[1, 7], [1], [], [], [1]⟩
  | 2 => ⟨[3], [], [], [], []⟩
  | 3 => ⟨[2], [], [], [], []⟩
  | 4 => ⟨[2], [], [], [], []⟩
  | _ => ⟨[], [], [], [], []⟩
noncomputable abbrev x_diptychref1_Size : Cx := ⟨Try.prog, ⟨id, nf_diptychref1_Size, fp_diptychref1_Size⟩, an_diptychref1_Size⟩
theorem start_diptychref1_Size {args : List PV} {r : PV} (ha : args.length = 1) (h : awp x_diptychref1_Size c_diptychref1_Size (bodyR Try.prog [.tmp 2] r []) (initSt args [])) : PC Try.prog 64 args r :=
  pc_of_awp (X := x_diptychref1_Size) mixed Try.func64 (c := c_diptychref1_Size) (by kernel_rfl) (by kernel_rfl) (rs := [.tmp 2]) (by kernel_rfl) (by kernel_rfl) (by rw [ha]; decide) h
noncomputable def c_diptychref1_Total : Code := (Try.f54.body).getD .skip
def nf_diptychref1_Total : List (Nat × Nf) := []
def fp_diptychref1_Total : List (Nat × List Nat) := []
def an_diptychref1_Total : Nat → Ann
  | 0 => ⟨[0], [], [], [], []⟩
  | 1 => ⟨[0, 3], [], [], [], []⟩
  | 2 => ⟨[0, 3, 4], [], [], [], []⟩
  | 3 => ⟨[0, 3, 4, 8], [], [], [], []⟩
  | 4 => ⟨[0, 3, 4], [], [], [], []⟩
  | 5 => ⟨[0, 3, 4], [], [], [], []⟩
  | 6 => ⟨[2], [], [], [], []⟩
  | _ => ⟨[], [], [], [], []⟩
noncomputable abbrev x_diptychref1_Total : Cx := ⟨Try.prog, ⟨id, nf_diptychref1_Total, fp_diptychref1_Total⟩, an_diptychref1_Total⟩
theorem start_diptychref1_Total {args : List PV} {r : PV} (ha : args.length = 1) (h : awp x_diptychref1_Total c_diptychref1_Total (bodyR Try.prog [.tmp 2] r []) (initSt args [])) : PC Try.prog 54 args r :=
  pc_of_awp (X := x_diptychref1_Total) mixed Try.func54 (c := c_diptychref1_Total) (by kernel_rfl) (by kernel_rfl) (rs := [.tmp 2]) (by kernel_rfl) (by kernel_rfl) (by rw [ha]; decide) h
noncomputable def c_diptychref4_Start : Code := (Try.f41.body).getD .skip
def nf_diptychref4_Start : List (Nat × Nf) := []
def fp_diptychref4_Start : List (Nat × List Nat) := []
def an_diptychref4_Start : Nat → Ann
  | 0 => ⟨[1, 2], [2], [], [], [2]⟩
  | 1 => ⟨[1, 2, 7], [2], [], [], [2]⟩
  | 2 => ⟨[1, 2, 7, 17], [2], [], [], [2]⟩
  | 3 => ⟨[4, 5], [], [], [], []⟩
  | 4 => ⟨[1, 2, 8], [2], [], [], [2]⟩
  | 5 => ⟨[1, 2, 8, 9], [2], [], [], [2]⟩
  | 6 => ⟨[1, 2, 8, 9, 22], [2], [], [], [2]⟩
  | 7 => ⟨[1, 2, 8, 9], [2], [], [], [2]⟩
  | 8 => ⟨[1, 2, 8, 9], [2], [], [], [2]⟩
  | 9 => ⟨[1, 2, 8, 9], [2], [], [], [2]⟩
  | 10 => ⟨[4, 5], [], [], [], []⟩
  | _ => ⟨[], [], [], [], []⟩
noncomputable abbrev x_diptychref4_Start : Cx := ⟨Try.prog, ⟨id, nf_diptychref4_Start, fp_diptychref4_Start⟩, an_diptychref4_Start⟩
theorem start_diptychref4_Start {args : List PV} {r : PV} (ha : args.length = 2) (h : awp x_diptychref4_Start c_diptychref4_Start (bodyR Try.prog [.tmp 4, .tmp 5] r []) (initSt args [])) : PC Try.prog 41 args r :=
  pc_of_awp (X := x_diptychref4_Start) mixed Try.func41 (c := c_diptychref4_Start) (by kernel_rfl) (by kernel_rfl) (rs := [.tmp 4, .tmp 5]) (by kernel_rfl) (by kernel_rfl) (by rw [ha]; decide) h
noncomputable def c_slices_Clone_api_Node : Code := (Try.f55.body).getD .skip
def nf_slices_Clone_api_Node : List (Nat × Nf) := []
def fp_slices_Clone_api_Node : List (Nat × List Nat) := []
def an_slices_Clone_api_Node : Nat → Ann
  | 0 => ⟨[0], [5], [], [], [5]⟩
  | 1 => ⟨[0, 4], [5], [], [], [5]⟩
  | 2 => ⟨[2], [5], [], [], [5]⟩
  | 3 => ⟨[2], [5], [], [], [5]⟩
  | _ => ⟨[], [], [], [], []⟩
noncomputable abbrev x_slices_Clone_api_Node : Cx := ⟨Try.prog, ⟨id, nf_slices_Clone_api_Node, fp_slices_Clone_api_Node⟩, an_slices_Clone_api_Node⟩
theorem start_slices_Clone_api_Node {args : List PV} {r : PV} (ha : args.length = 1) (h : awp x_slices_Clone_api_Node c_slices_Clone_api_Node (bodyR Try.prog [.tmp 2] r []) (initSt args [])) : PC Try.prog 55 args r :=
  pc_of_awp (X := x_slices_Clone_api_Node) mixed Try.func55 (c := c_slices_Clone_api_Node) (by kernel_rfl) (by kernel_rfl) (rs := [.tmp 2]) (by kernel_rfl) (by kernel_rfl) (by rw [ha]; decide) h
noncomputable def c_place_With : Code := (Try.f42.body).getD .skip
def nf_place_With : List (Nat × Nf) := [(18, [none, none, some 1, some 2, some 5]), (48, [none, none, none, none, some 5])]
def fp_place_With : List (Nat × List Nat) := []
def an_place_With : Nat → Ann
  | 0 => ⟨[1, 3, 5, 6], [3, 5, 6], [.nrm 6 [none, none, some 1, some 2, some 5]], [], [3, 5, 6]⟩
  | 1 => ⟨[1, 3, 5, 6, 9], [3, 5, 6], [], [], [3, 5, 6]⟩
  | 2 => ⟨[1, 3, 5, 6, 9, 17], [3, 5, 6], [], [], [3, 5, 6]⟩
  | 3 => ⟨[6, 7], [6], [], [], [6]⟩
  | 4 => ⟨[1, 3, 5, 6, 22], [3, 5, 6], [], [], [3, 5, 6]⟩
  | 5 => ⟨[6, 7], [6], [], [], [6]⟩
  | 6 => ⟨[1, 3, 5, 6], [3, 5, 6, 26], [], [.ren 26 325], [3, 5, 6, 26, 325]⟩
  | 7 => ⟨[3, 6], [3, 6, 325], [], [], [3, 6, 325]⟩
  | 8 => ⟨[6, 7], [6], [], [], [6]⟩
  | _ => ⟨[], [], [], [], []⟩
noncomputable abbrev x_place_With : Cx := ⟨Try.prog, ⟨id, nf_place_With, fp_place_With⟩, an_place_With⟩
theorem start_place_With {args : List PV} {r : PV} (ha : args.length = 3) (h : awp x_place_With c_place_With (bodyR Try.prog [.cell 6 54, .tmp 7] r []) (initSt args [])) : PC Try.prog 42 args r :=
  pc_of_awp (X := x_place_With) mixed Try.func42 (c := c_place_With) (by kernel_rfl) (by kernel_rfl) (rs := [.cell 6 54, .tmp 7]) (by kernel_rfl) (by kernel_rfl) (by rw [ha]; decide) h
noncomputable def c_diptychref4_With : Code := (Try.f43.body).getD .skip
def nf_diptychref4_With : List (Nat × Nf) := [(20, [none, none, some 1, some 2, some 5])]
def fp_diptychref4_With : List (Nat × List Nat) := [(41, [3]), (42, [3]), (44, []), (45, []), (46, []), (47, [40]), (48, [10]), (50, [40, 49]), (51, [3]), (52, [3]), (54, []), (55, []), (57, []), (58, [40]), (59, [3])]
def an_diptychref4_With : Nat → Ann
  | 0 => ⟨[1, 3, 5, 6], [3, 5, 6], [.nrm 6 [none, none, some 1, some 2, some 5]], [], [3, 5, 6]⟩
  | 1 => ⟨[1, 3, 5, 6, 9], [3, 5, 6], [], [], [3, 5, 6]⟩
  | 2 => ⟨[1, 3, 5, 6, 9, 19], [3, 5, 6], [], [], [3, 5, 6]⟩
  | 3 => ⟨[6, 7], [6], [], [], [6]⟩
  | 4 => ⟨[1, 3, 5, 6, 24], [3, 5, 6], [], [], [3, 5, 6]⟩
  | 5 => ⟨[6, 7], [6], [], [], [6]⟩
  | 6 => ⟨[1, 3, 6, 10], [3, 6, 10], [], [], [3, 6, 10]⟩
  | 7 => ⟨[3, 6], [3, 6], [.nrm 3 [none, none, none, none, some 5]], [], [3, 6]⟩
  | 8 => ⟨[6, 7], [6], [], [], [6]⟩
  | _ => ⟨[], [], [], [], []⟩
noncomputable abbrev x_diptychref4_With : Cx := ⟨Try.prog, ⟨id, nf_diptychref4_With, fp_diptychref4_With⟩, an_diptychref4_With⟩
theorem start_diptychref4_With {args : List PV} {r : PV} (ha : args.length = 3) (h : awp x_diptychref4_With c_diptychref4_With (bodyR Try.prog [.cell 6 54, .tmp 7] r []) (initSt args [])) : PC Try.prog 43 args r :=
  pc_of_awp (X := x_diptychref4_With) mixed Try.func43 (c := c_diptychref4_With) (by kernel_rfl) (by kernel_rfl) (rs := [.cell 6 54, .tmp 7]) (by kernel_rfl) (by kernel_rfl) (by rw [ha]; decide) h
noncomputable def c_diptychref1_SameAll : Code := (Try.f57.body).getD .skip
def nf_diptychref1_SameAll : List (Nat × Nf) := []
def fp_diptychref1_SameAll : List (Nat × List Nat) := []
def an_diptychref1_SameAll : Nat → Ann
  | 0 => ⟨[0, 1], [], [], [], []⟩
  | 1 => ⟨[0, 1, 10], [], [], [], []⟩
  | 2 => ⟨[4], [], [], [], []⟩
  | 3 => ⟨[0, 1, 5], [], [], [], []⟩
  | 4 => ⟨[0, 1, 5, 14], [], [], [], []⟩
  | 5 => ⟨[0, 1, 5], [], [], [], []⟩
  | 6 => ⟨[0, 1, 5, 26], [], [], [], []⟩
  | 7 => ⟨[4], [], [], [], []⟩
  | 8 => ⟨[4], [], [], [], []⟩
  | _ => ⟨[], [], [], [], []⟩
noncomputable abbrev x_diptychref1_SameAll : Cx := ⟨Try.prog, ⟨id, nf_diptychref1_SameAll, fp_diptychref1_SameAll⟩, an_diptychref1_SameAll⟩
theorem start_diptychref1_SameAll {args : List PV} {r : PV} (ha : args.length = 2) (h : awp x_diptychref1_SameAll c_diptychref1_SameAll (bodyR Try.prog [.tmp 4] r []) (initSt args [])) : PC Try.prog 57 args r :=
  pc_of_awp (X := x_diptychref1_SameAll) mixed Try.func57 (c := c_diptychref1_SameAll) (by kernel_rfl) (by kernel_rfl) (rs := [.tmp 4]) (by kernel_rfl) (by kernel_rfl) (by rw [ha]; decide) h
noncomputable def c_diptychref1_Same : Code := (Try.f44.body).getD .skip
def nf_diptychref1_Same : List (Nat × Nf) := []
def fp_diptychref1_Same : List (Nat × List Nat) := []
def an_diptychref1_Same : Nat → Ann
  | 0 => ⟨[2, 3], [2, 3], [], [], [2, 3]⟩
  | 1 => ⟨[2, 3, 34], [2, 3], [], [], [2, 3]⟩
  | 2 => ⟨[4], [], [], [], []⟩
  | 3 => ⟨[2, 3, 5], [2, 3], [], [], [2, 3]⟩
  | 4 => ⟨[2, 3, 5, 39], [2, 3], [], [], [2, 3]⟩
  | 5 => ⟨[2, 3, 5], [2, 3], [], [], [2, 3]⟩
  | 6 => ⟨[2, 3, 5, 52], [2, 3], [], [], [2, 3]⟩
  | 7 => ⟨[4], [], [], [], []⟩
  | 8 => ⟨[4], [], [], [], []⟩
  | _ => ⟨[], [], [], [], []⟩
noncomputable abbrev x_diptychref1_Same : Cx := ⟨Try.prog, ⟨id, nf_diptychref1_Same, fp_diptychref1_Same⟩, an_diptychref1_Same⟩
theorem start_diptychref1_Same {args : List PV} {r : PV} (ha : args.length = 2) (h : awp x_diptychref1_Same c_diptychref1_Same (bodyR Try.prog [.tmp 4] r []) (initSt args [])) : PC Try.prog 44 args r :=
  pc_of_awp (X := x_diptychref1_Same) mixed Try.func44 (c := c_diptychref1_Same) (by kernel_rfl) (by kernel_rfl) (rs := [.tmp 4]) (by kernel_rfl) (by kernel_rfl) (by rw [ha]; decide) h
noncomputable def c_diptychlaw4_PlaceInner : Code := (Try.f12.body).getD .skip
def nf_diptychlaw4_PlaceInner : List (Nat × Nf) := []
def fp_diptychlaw4_PlaceInner : List (Nat × List Nat) := []
def an_diptychlaw4_PlaceInner : Nat → Ann
  | 0 => ⟨[0, 1, 2], [], [], [], []⟩
  | 1 => ⟨[0, 1, 2, 7], [], [], [], []⟩
  | 2 => ⟨[0, 1, 2, 7, 28], [], [], [], []⟩
  | 3 => ⟨[6], [], [], [], []⟩
  | 4 => ⟨[0, 1, 2, 8], [8], [], [], [8]⟩
  | 5 => ⟨[0, 1, 2, 8, 9, 10], [8, 9], [], [], [8, 9]⟩
  | 6 => ⟨[0, 1, 2, 8, 9, 10, 11, 12], [8, 9, 11], [], [], [8, 9, 11]⟩
  | 7 => ⟨[0, 1, 2, 8, 9, 10, 11, 12, 13, 14], [8, 9, 11], [], [], [8, 9, 11]⟩
  | 8 => ⟨[0, 1, 2, 8, 9, 10, 11, 12, 13, 14, 15, 16], [8, 9, 11], [], [], [8, 9, 11]⟩
  | 9 => ⟨[0, 1, 2, 8, 9, 10, 11, 12, 13, 14, 15, 16, 17, 18], [8, 9, 11, 17], [], [], [8, 9, 11, 17]⟩
  | 10 => ⟨[0, 8, 9, 10, 11, 12, 13, 14, 15, 16, 17, 18, 19, 20], [8, 9, 11, 17, 19], [], [], [8, 9, 11, 17, 19]⟩
  | 11 => ⟨[6], [], [], [], []⟩
  | _ => ⟨[], [], [], [], []⟩
noncomputable abbrev x_diptychlaw4_PlaceInner : Cx := ⟨Try.prog, ⟨id, nf_diptychlaw4_PlaceInner, fp_diptychlaw4_PlaceInner⟩, an_diptychlaw4_PlaceInner⟩
theorem start_diptychlaw4_PlaceInner {args : List PV} {r : PV} (ha : args.length = 3) (h : awp x_diptychlaw4_PlaceInner c_diptychlaw4_PlaceInner (bodyR Try.prog [.tmp 6] r []) (initSt args [])) : PC Try.prog 12 args r :=
  pc_of_awp (X := x_diptychlaw4_PlaceInner) mixed Try.func12 (c := c_diptychlaw4_PlaceInner) (by kernel_rfl) (by kernel_rfl) (rs := [.tmp 6]) (by kernel_rfl) (by kernel_rfl) (by rw [ha]; decide) h
noncomputable def c_slices_Equal_string : Code := (Try.f58.body).getD .skip
def nf_slices_Equal_string : List (Nat × Nf) := []
def fp_slices_Equal_string : List (Nat × List Nat) := []
def an_slices_Equal_string : Nat → Ann
  | 0 => ⟨[0, 1], [], [], [], []⟩
  | 1 => ⟨[0, 1, 10], [], [], [], []⟩
  | 2 => ⟨[4], [], [], [], []⟩
  | 3 => ⟨[0, 1, 12, 13], [], [], [], []⟩
  | 4 => ⟨[0, 1, 12, 13, 14], [], [], [], []⟩
  | 5 => ⟨[0, 1, 5, 12, 13], [], [], [], []⟩
  | 6 => ⟨[0, 1, 12, 13, 24], [], [], [], []⟩
  | 7 => ⟨[4], [], [], [], []⟩
  | 8 => ⟨[0, 1, 12, 13], [], [], [], []⟩
  | 9 => ⟨[4], [], [], [], []⟩
  | _ => ⟨[], [], [], [], []⟩
noncomputable abbrev x_slices_Equal_string : Cx := ⟨Try.prog, ⟨id, nf_slices_Equal_string, fp_slices_Equal_string⟩, an_slices_Equal_string⟩
theorem start_slices_Equal_string {args : List PV} {r : PV} (ha : args.length = 2) (h : awp x_slices_Equal_string c_slices_Equal_string (bodyR Try.prog [.tmp 4] r []) (initSt args [])) : PC Try.prog 58 args r :=
  pc_of_awp (X := x_slices_Equal_string) mixed Try.func58 (c := c_slices_Equal_string) (by kernel_rfl) (by kernel_rfl) (rs := [.tmp 4]) (by kernel_rfl) (by kernel_rfl) (by rw [ha]; decide) h
noncomputable def c_slices_Equal_api_Attr : Code := (Try.f59.body).getD .skip
def nf_slices_Equal_api_Attr : List (Nat × Nf) := []
def fp_slices_Equal_api_Attr : List (Nat × List Nat) := []
def an_slices_Equal_api_Attr : Nat → Ann
  | 0 => ⟨[0, 1], [], [], [], []⟩
  | 1 => ⟨[0, 1, 10], [], [], [], []⟩
  | 2 => ⟨[4], [], [], [], []⟩
  | 3 => ⟨[0, 1, 12, 13], [], [], [], []⟩
  | 4 => ⟨[0, 1, 12, 13, 14], [], [], [], []⟩
  | 5 => ⟨[0, 1, 5, 12, 13], [], [], [], []⟩
  | 6 => ⟨[0, 1, 12, 13, 24], [], [], [], []⟩
  | 7 => ⟨[4], [], [], [], []⟩
  | 8 => ⟨[0, 1, 12, 13], [], [], [], []⟩
  | 9 => ⟨[4], [], [], [], []⟩
  | _ => ⟨[], [], [], [], []⟩
noncomputable abbrev x_slices_Equal_api_Attr : Cx := ⟨Try.prog, ⟨id, nf_slices_Equal_api_Attr, fp_slices_Equal_api_Attr⟩, an_slices_Equal_api_Attr⟩
theorem start_slices_Equal_api_Attr {args : List PV} {r : PV} (ha : args.length = 2) (h : awp x_slices_Equal_api_Attr c_slices_Equal_api_Attr (bodyR Try.prog [.tmp 4] r []) (initSt args [])) : PC Try.prog 59 args r :=
  pc_of_awp (X := x_slices_Equal_api_Attr) mixed Try.func59 (c := c_slices_Equal_api_Attr) (by kernel_rfl) (by kernel_rfl) (rs := [.tmp 4]) (by kernel_rfl) (by kernel_rfl) (by rw [ha]; decide) h
noncomputable def c_slices_EqualFunc_api_Node_node_Same : Code := (Try.f60.body).getD .skip
def nf_slices_EqualFunc_api_Node_node_Same : List (Nat × Nf) := []
def fp_slices_EqualFunc_api_Node_node_Same : List (Nat × List Nat) := []
def an_slices_EqualFunc_api_Node_node_Same : Nat → Ann
  | 0 => ⟨[0, 1, 2], [], [], [], []⟩
  | 1 => ⟨[0, 1, 2, 14], [], [], [], []⟩
  | 2 => ⟨[6], [], [], [], []⟩
  | 3 => ⟨[1, 2, 15, 16, 17], [], [], [], []⟩
  | 4 => ⟨[1, 2, 15, 16, 17, 18], [], [], [], []⟩
  | 5 => ⟨[1, 2, 7, 8, 15, 16, 17], [8], [], [], [8]⟩
  | 6 => ⟨[1, 2, 8, 9, 15, 16, 17], [8, 9], [], [], [8, 9]⟩
  | 7 => ⟨[1, 2, 15, 16, 17, 30], [], [], [], []⟩
  | 8 => ⟨[6], [], [], [], []⟩
  | 9 => ⟨[1, 2, 15, 16, 17], [], [], [], []⟩
  | 10 => ⟨[6], [], [], [], []⟩
  | _ => ⟨[], [], [], [], []⟩
noncomputable abbrev x_slices_EqualFunc_api_Node_node_Same : Cx := ⟨Try.prog, ⟨id, nf_slices_EqualFunc_api_Node_node_Same, fp_slices_EqualFunc_api_Node_node_Same⟩, an_slices_EqualFunc_api_Node_node_Same⟩
theorem start_slices_EqualFunc_api_Node_node_Same {args : List PV} {r : PV} (ha : args.length = 3) (h : awp x_slices_EqualFunc_api_Node_node_Same c_slices_EqualFunc_api_Node_node_Same (bodyR Try.prog [.tmp 6] r []) (initSt args [])) : PC Try.prog 60 args r :=
  pc_of_awp (X := x_slices_EqualFunc_api_Node_node_Same) mixed Try.func60 (c := c_slices_EqualFunc_api_Node_node_Same) (by kernel_rfl) (by kernel_rfl) (rs := [.tmp 6]) (by kernel_rfl) (by kernel_rfl) (by rw [ha]; decide) h
noncomputable def c_node_Same : Code := (Try.f46.body).getD .skip
def nf_node_Same : List (Nat × Nf) := []
def fp_node_Same : List (Nat × List Nat) := []
def an_node_Same : Nat → Ann
  | 0 => ⟨[2, 3], [2, 3], [], [], [2, 3]⟩
  | 1 => ⟨[4], [], [], [], []⟩
  | _ => ⟨[], [], [], [], []⟩
noncomputable abbrev x_node_Same : Cx := ⟨Try.prog, ⟨id, nf_node_Same, fp_node_Same⟩, an_node_Same⟩
theorem start_node_Same {args : List PV} {r : PV} (ha : args.length = 2) (h : awp x_node_Same c_node_Same (bodyR Try.prog [.tmp 4] r []) (initSt args [])) : PC Try.prog 46 args r :=
  pc_of_awp (X := x_node_Same) mixed Try.func46 (c := c_node_Same) (by kernel_rfl) (by kernel_rfl) (rs := [.tmp 4]) (by kernel_rfl) (by kernel_rfl) (by rw [ha]; decide) h
noncomputable def c_diptychlaw4_PlaceWith : Code := (Try.f13.body).getD .skip
def nf_diptychlaw4_PlaceWith : List (Nat × Nf) := []
def fp_diptychlaw4_PlaceWith : List (Nat × List Nat) := []
def an_diptychlaw4_PlaceWith : Nat → Ann
  | 0 => ⟨[0, 1, 2], [], [], [], []⟩
  | 1 => ⟨[0, 1, 2, 7], [], [], [], []⟩
  | 2 => ⟨[0, 1, 2, 22], [], [], [], []⟩
  | 3 => ⟨[6], [], [], [], []⟩
  | 4 => ⟨[1, 2, 8], [8], [], [], [8]⟩
  | 5 => ⟨[2, 8, 9], [8, 9], [], [], [8, 9]⟩
  | 6 => ⟨[8, 9, 10, 11], [8, 9, 10], [], [], [8, 9, 10]⟩
  | 7 => ⟨[8, 9, 10, 11, 12, 13], [8, 9, 10, 12], [], [], [8, 9, 10, 12]⟩
  | 8 => ⟨[8, 9, 10, 11, 12, 13, 14, 15], [8, 9, 10, 12, 14], [], [], [8, 9, 10, 12, 14]⟩
  | 9 => ⟨[8, 9, 10, 11, 12, 13, 14, 15, 16, 17], [8, 9, 10, 12, 14, 16], [], [], [8, 9, 10, 12, 14, 16]⟩
  | 10 => ⟨[8, 9, 11, 12, 13, 14, 15, 16, 17, 18, 19], [8, 9, 12, 14, 16, 18], [], [], [8, 9, 12, 14, 16, 18]⟩
  | 11 => ⟨[6], [], [], [], []⟩
  | _ => ⟨[], [], [], [], []⟩
noncomputable abbrev x_diptychlaw4_PlaceWith : Cx := ⟨Try.prog, ⟨id, nf_diptychlaw4_PlaceWith, fp_diptychlaw4_PlaceWith⟩, an_diptychlaw4_PlaceWith⟩
theorem start_diptychlaw4_PlaceWith {args : List PV} {r : PV} (ha : args.length = 3) (h : awp x_diptychlaw4_PlaceWith c_diptychlaw4_PlaceWith (bodyR Try.prog [.tmp 6] r []) (initSt args [])) : PC Try.prog 13 args r :=
  pc_of_awp (X := x_diptychlaw4_PlaceWith) mixed Try.func13 (c := c_diptychlaw4_PlaceWith) (by kernel_rfl) (by kernel_rfl) (rs := [.tmp 6]) (by kernel_rfl) (by kernel_rfl) (by rw [ha]; decide) h
noncomputable def c_diptychlaw4_PlacePaths : Code := (Try.f14.body).getD .skip
def nf_diptychlaw4_PlacePaths : List (Nat × Nf) := []
def fp_diptychlaw4_PlacePaths : List (Nat × List Nat) := []
def an_diptychlaw4_PlacePaths : Nat → Ann
  | 0 => ⟨[0], [], [], [], []⟩
  | 1 => ⟨[0, 3], [], [], [], []⟩
  | 2 => ⟨[0, 19], [], [], [], []⟩
  | 3 => ⟨[2], [], [], [], []⟩
  | 4 => ⟨[4], [4], [], [], [4]⟩
  | 5 => ⟨[4, 5], [4], [], [], [4]⟩
  | 6 => ⟨[4, 5, 26], [4], [], [], [4]⟩
  | 7 => ⟨[4, 5], [4], [], [], [4]⟩
  | 8 => ⟨[4, 5, 6, 7], [4, 6], [], [], [4, 6]⟩
  | 9 => ⟨[4, 5, 6, 36], [4, 6], [], [], [4, 6]⟩
  | 10 => ⟨[2], [], [], [], []⟩
  | 11 => ⟨[4, 5, 6, 40], [4, 6], [], [], [4, 6]⟩
  | 12 => ⟨[4, 5, 6, 8], [4, 6], [], [], [4, 6]⟩
  | 13 => ⟨[4, 5, 6, 8, 9, 10], [4, 6], [], [], [4, 6]⟩
  | 14 => ⟨[4, 5, 6, 8, 9, 10, 11, 12], [4, 6], [], [], [4, 6]⟩
  | 15 => ⟨[4, 5, 6, 8, 9, 10, 11, 12, 13, 14], [4, 6, 13], [], [], [4, 6, 13]⟩
  | 16 => ⟨[4, 5, 6, 8, 9, 10, 11, 12, 13, 14, 15, 16], [4, 6, 13, 15], [], [], [4, 6, 13, 15]⟩
  | 17 => ⟨[4, 5, 130], [4], [], [], [4]⟩
  | 18 => ⟨[2], [], [], [], []⟩
  | 19 => ⟨[2], [], [], [], []⟩
  | _ => ⟨[], [], [], [], []⟩
noncomputable abbrev x_diptychlaw4_PlacePaths : Cx := ⟨Try.prog, ⟨id, nf_diptychlaw4_PlacePaths, fp_diptychlaw4_PlacePaths⟩, an_diptychlaw4_PlacePaths⟩
theorem start_diptychlaw4_PlacePaths {args : List PV} {r : PV} (ha : args.length = 1) (h : awp x_diptychlaw4_PlacePaths c_diptychlaw4_PlacePaths (bodyR Try.prog [.tmp 2] r []) (initSt args [])) : PC Try.prog 14 args r :=
  pc_of_awp (X := x_diptychlaw4_PlacePaths) mixed Try.func14 (c := c_diptychlaw4_PlacePaths) (by kernel_rfl) (by kernel_rfl) (rs := [.tmp 2]) (by kernel_rfl) (by kernel_rfl) (by rw [ha]; decide) h

end Go.Proofs.Ytafcbjepmjcpgaa
