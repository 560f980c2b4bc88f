/- Code, and what is kept. -/
import Derived.Test.YtacmddgliagpcaaAg0
import Derived.Test.YtacmddgliagpcaaAwT
namespace Go.Proofs.Ytacmddgliagpcaa
set_option linter.unusedSimpArgs false
set_option linter.unusedVariables false
open Go
set_option maxRecDepth 100000

noncomputable def c_diptychlaw4_as : Code := (Try.f10.body).getD .skip
def nf_diptychlaw4_as : List (Nat × Nf) := []
def fp_diptychlaw4_as : List (Nat × List Nat) := []
def an_diptychlaw4_as : Nat → Ann
  | 0 => ⟨[1, 2], [1, 2], [.nrm 2 [some 1, none, none]], [], [1, 2]⟩
  | 1 => ⟨[2], [2], [], [], [2]⟩
  | _ => ⟨[], [], [], [], []⟩
noncomputable abbrev x_diptychlaw4_as : Cx := ⟨Try.prog, ⟨id, nf_diptychlaw4_as, fp_diptychlaw4_as⟩, an_diptychlaw4_as⟩
theorem start_diptychlaw4_as {args : List PV} {r : PV} (ha : args.length = 1) (h : awp x_diptychlaw4_as c_diptychlaw4_as (bodyR Try.prog [.cell 2 36] r []) (initSt args [])) : PC Try.prog 10 args r :=
  pc_of_awp (X := x_diptychlaw4_as) mixed Try.func10 (c := c_diptychlaw4_as) (by kernel_rfl) (by kernel_rfl) (rs := [.cell 2 36]) (by kernel_rfl) (by kernel_rfl) (by rw [ha]; decide) h
noncomputable def c_diptychref4_same : Code := (Try.f18.body).getD .skip
def nf_diptychref4_same : List (Nat × Nf) := []
def fp_diptychref4_same : List (Nat × List Nat) := []
def an_diptychref4_same : Nat → Ann
  | 0 => ⟨[0, 1], [], [], [], []⟩
  | 1 => ⟨[0, 1, 10], [], [], [], []⟩
  | 2 => ⟨[4], [], [], [], []⟩
  | 3 => ⟨[0, 1, 5], [], [], [], []⟩
  | 4 => ⟨[0, 1, 5, 14], [], [], [], []⟩
  | 5 => ⟨[0, 1, 5], [], [], [], []⟩
  | 6 => ⟨[0, 1, 5, 25], [], [], [], []⟩
  | 7 => ⟨[4], [], [], [], []⟩
  | 8 => ⟨[4], [], [], [], []⟩
  | _ => ⟨[], [], [], [], []⟩
noncomputable abbrev x_diptychref4_same : Cx := ⟨Try.prog, ⟨id, nf_diptychref4_same, fp_diptychref4_same⟩, an_diptychref4_same⟩
theorem start_diptychref4_same {args : List PV} {r : PV} (ha : args.length = 2) (h : awp x_diptychref4_same c_diptychref4_same (bodyR Try.prog [.tmp 4] r []) (initSt args [])) : PC Try.prog 18 args r :=
  pc_of_awp (X := x_diptychref4_same) mixed Try.func18 (c := c_diptychref4_same) (by kernel_rfl) (by kernel_rfl) (rs := [.tmp 4]) (by kernel_rfl) (by kernel_rfl) (by rw [ha]; decide) h
noncomputable def c_diptychref4_Same : Code := (Try.f11.body).getD .skip
def nf_diptychref4_Same : List (Nat × Nf) := []
def fp_diptychref4_Same : List (Nat × List Nat) := []
def an_diptychref4_Same : Nat → Ann
  | 0 => ⟨[2, 3], [2, 3], [], [], [2, 3]⟩
  | 1 => ⟨[4], [], [], [], []⟩
  | _ => ⟨[], [], [], [], []⟩
noncomputable abbrev x_diptychref4_Same : Cx := ⟨Try.prog, ⟨id, nf_diptychref4_Same, fp_diptychref4_Same⟩, an_diptychref4_Same⟩
theorem start_diptychref4_Same {args : List PV} {r : PV} (ha : args.length = 2) (h : awp x_diptychref4_Same c_diptychref4_Same (bodyR Try.prog [.tmp 4] r []) (initSt args [])) : PC Try.prog 11 args r :=
  pc_of_awp (X := x_diptychref4_Same) mixed Try.func11 (c := c_diptychref4_Same) (by kernel_rfl) (by kernel_rfl) (rs := [.tmp 4]) (by kernel_rfl) (by kernel_rfl) (by rw [ha]; decide) h
noncomputable def c_node_isText : Code := (Try.f21.body).getD .skip
def nf_node_isText : List (Nat × Nf) := []
def fp_node_isText : List (Nat × List Nat) := []
def an_node_isText : Nat → Ann
  | 0 => ⟨[1], [1], [], [], [1]⟩
  | 1 => ⟨[2], [], [], [], []⟩
  | _ => ⟨[], [], [], [], []⟩
noncomputable abbrev x_node_isText : Cx := ⟨Try.prog, ⟨id, nf_node_isText, fp_node_isText⟩, an_node_isText⟩
theorem start_node_isText {args : List PV} {r : PV} (ha : args.length = 1) (h : awp x_node_isText c_node_isText (bodyR Try.prog [.tmp 2] r []) (initSt args [])) : PC Try.prog 21 args r :=
  pc_of_awp (X := x_node_isText) mixed Try.func21 (c := c_node_isText) (by kernel_rfl) (by kernel_rfl) (rs := [.tmp 2]) (by kernel_rfl) (by kernel_rfl) (by rw [ha]; decide) h
noncomputable def c_unicode_utf8_RuneCountInString : Code := (Try.f22.body).getD .skip
def nf_unicode_utf8_RuneCountInString : List (Nat × Nf) := []
def fp_unicode_utf8_RuneCountInString : List (Nat × List Nat) := []
def an_unicode_utf8_RuneCountInString : Nat → Ann
  | 0 => ⟨[0, 2], [], [], [], []⟩
  | 1 => ⟨[2, 4], [4], [], [], [4]⟩
  | 2 => ⟨[2, 4, 6], [4], [], [], [4]⟩
  | 3 => ⟨[2, 4], [4], [], [], [4]⟩
  | 4 => ⟨[2], [], [], [], []⟩
  | _ => ⟨[], [], [], [], []⟩
noncomputable abbrev x_unicode_utf8_RuneCountInString : Cx := ⟨Try.prog, ⟨id, nf_unicode_utf8_RuneCountInString, fp_unicode_utf8_RuneCountInString⟩, an_unicode_utf8_RuneCountInString⟩
theorem start_unicode_utf8_RuneCountInString {args : List PV} {r : PV} (ha : args.length = 1) (h : awp x_unicode_utf8_RuneCountInString c_unicode_utf8_RuneCountInString (bodyR Try.prog [.tmp 2] r []) (initSt args [])) : PC Try.prog 22 args r :=
  pc_of_awp (X := x_unicode_utf8_RuneCountInString) mixed Try.func22 (c := c_unicode_utf8_RuneCountInString) (by kernel_rfl) (by kernel_rfl) (rs := [.tmp 2]) (by kernel_rfl) (by kernel_rfl) (by rw [ha]; decide) h
noncomputable def c_node_Size : Code := (Try.f14.body).getD .skip
def nf_node_Size : List (Nat × Nf) := []
def fp_node_Size : List (Nat × List Nat) := []
def an_node_Size : Nat → Ann
  | 0 => ⟨[1], [1], [], [], [1]⟩
  | 1 => ⟨[1, 4], [1], [], [], [1]⟩
  | 2 => ⟨[2], [], [], [], []⟩
  | 3 => ⟨[2], [], [], [], []⟩
  | _ => ⟨[], [], [], [], []⟩
noncomputable abbrev x_node_Size : Cx := ⟨Try.prog, ⟨id, nf_node_Size, fp_node_Size⟩, an_node_Size⟩
theorem start_node_Size {args : List PV} {r : PV} (ha : args.length = 1) (h : awp x_node_Size c_node_Size (bodyR Try.prog [.tmp 2] r []) (initSt args [])) : PC Try.prog 14 args r :=
  pc_of_awp (X := x_node_Size) mixed Try.func14 (c := c_node_Size) (by kernel_rfl) (by kernel_rfl) (rs := [.tmp 2]) (by kernel_rfl) (by kernel_rfl) (by rw [ha]; decide) h
noncomputable def c_node_Total : Code := (Try.f13.body).getD .skip
def nf_node_Total : List (Nat × Nf) := []
def fp_node_Total : List (Nat × List Nat) := []
def an_node_Total : Nat → Ann
  | 0 => ⟨[0], [], [], [], []⟩
  | 1 => ⟨[0, 3], [], [], [], []⟩
  | 2 => ⟨[3, 6, 7, 8], [], [], [], []⟩
  | 3 => ⟨[3, 6, 7, 8, 9], [], [], [], []⟩
  | 4 => ⟨[3, 5, 6, 7, 8], [5], [], [], [5]⟩
  | 5 => ⟨[3, 6, 7, 8], [], [], [], []⟩
  | 6 => ⟨[3, 6, 7, 8], [], [], [], []⟩
  | 7 => ⟨[2], [], [], [], []⟩
  | _ => ⟨[], [], [], [], []⟩
noncomputable abbrev x_node_Total : Cx := ⟨Try.prog, ⟨id, nf_node_Total, fp_node_Total⟩, an_node_Total⟩
theorem start_node_Total {args : List PV} {r : PV} (ha : args.length = 1) (h : awp x_node_Total c_node_Total (bodyR Try.prog [.tmp 2] r []) (initSt args [])) : PC Try.prog 13 args r :=
  pc_of_awp (X := x_node_Total) mixed Try.func13 (c := c_node_Total) (by kernel_rfl) (by kernel_rfl) (rs := [.tmp 2]) (by kernel_rfl) (by kernel_rfl) (by rw [ha]; decide) h
noncomputable def c_place_Resolve : Code := (Try.f6.body).getD .skip
def nf_place_Resolve : List (Nat × Nf) := [(24, [some 1, none, none]), (59, [some 1, none, none]), (65, [some 1, none, none]), (71, [some 1, none, none])]
def fp_place_Resolve : List (Nat × List Nat) := []
def an_place_Resolve : Nat → Ann
  | 0 => ⟨[1, 2, 4], [2, 4], [.nrm 4 [some 1, none, none]], [], [2, 4]⟩
  | 1 => ⟨[1, 2, 4, 23], [2, 4], [], [], [2, 4]⟩
  | 2 => ⟨[4, 5], [4], [], [], [4]⟩
  | 3 => ⟨[1, 2, 4, 6], [2, 4, 6, 342], [.thawV 6 0 342 1], [], [2, 4, 6, 342]⟩
  | 4 => ⟨[1, 2, 4, 6, 26, 27, 28], [2, 4, 6, 342], [], [], [2, 4, 6, 342]⟩
  | 5 => ⟨[1, 2, 4, 6, 26, 27, 28, 29], [2, 4, 6, 342], [], [], [2, 4, 6, 342]⟩
  | 6 => ⟨[1, 2, 4, 6, 7, 8, 26, 27, 28], [2, 4, 6, 8, 342], [], [], [2, 4, 6, 8, 342]⟩
  | 7 => ⟨[1, 2, 4, 6, 7, 8, 9, 26, 27, 28], [2, 4, 6, 8, 342], [], [], [2, 4, 6, 8, 342]⟩
  | 8 => ⟨[1, 2, 4, 6, 8], [2, 4, 6, 8, 342], [], [], [2, 4, 6, 8, 342]⟩
  | 9 => ⟨[1, 2, 4, 6], [2, 4, 6, 342], [], [], [2, 4, 6, 342]⟩
  | 10 => ⟨[1, 2, 4, 6, 7, 8, 9, 26, 27, 28, 44], [2, 4, 6, 8, 342], [], [], [2, 4, 6, 8, 342]⟩
  | 11 => ⟨[1, 2, 4, 6, 26, 27, 28], [2, 4, 6, 342], [], [], [2, 4, 6, 342]⟩
  | 12 => ⟨[1, 2, 4, 6, 7, 8, 51], [2, 4, 6, 8, 342], [], [], [2, 4, 6, 8, 342]⟩
  | 13 => ⟨[4, 6], [4, 6, 342], [], [], [4, 6, 342]⟩
  | 14 => ⟨[4, 5], [4], [], [], [4]⟩
  | 15 => ⟨[1, 2, 4, 6, 7, 8, 60], [2, 4, 6, 8, 342], [], [], [2, 4, 6, 8, 342]⟩
  | 16 => ⟨[4, 6], [4, 6, 342], [], [], [4, 6, 342]⟩
  | 17 => ⟨[4, 5], [4], [], [], [4]⟩
  | 18 => ⟨[1, 2, 4, 6, 26, 27, 28], [2, 4, 6, 342], [], [], [2, 4, 6, 342]⟩
  | 19 => ⟨[4, 6], [4, 6, 342], [], [], [4, 6, 342]⟩
  | 20 => ⟨[4, 5], [4], [], [], [4]⟩
  | _ => ⟨[], [], [], [], []⟩
noncomputable abbrev x_place_Resolve : Cx := ⟨Try.prog, ⟨id, nf_place_Resolve, fp_place_Resolve⟩, an_place_Resolve⟩
theorem start_place_Resolve {args : List PV} {r : PV} (ha : args.length = 2) (h : awp x_place_Resolve c_place_Resolve (bodyR Try.prog [.cell 4 25, .tmp 5] r []) (initSt args [])) : PC Try.prog 6 args r :=
  pc_of_awp (X := x_place_Resolve) mixed Try.func6 (c := c_place_Resolve) (by kernel_rfl) (by kernel_rfl) (rs := [.cell 4 25, .tmp 5]) (by kernel_rfl) (by kernel_rfl) (by rw [ha]; decide) h
noncomputable def c_diptychlaw4_shown : Code := (Try.f4.body).getD .skip
def nf_diptychlaw4_shown : List (Nat × Nf) := [(4, [none, none, some 1, some 2, some 5]), (6, [none, none, some 1, some 2, some 5]), (8, [none, none, some 1, some 2, some 5])]
def fp_diptychlaw4_shown : List (Nat × List Nat) := []
def an_diptychlaw4_shown : Nat → Ann
  | 0 => ⟨[], [], [], [], []⟩
  | 1 => ⟨[1], [1], [], [], [1]⟩
  | 2 => ⟨[2, 3], [2], [], [], [2]⟩
  | 3 => ⟨[0], [], [], [], []⟩
  | _ => ⟨[], [], [], [], []⟩
noncomputable abbrev x_diptychlaw4_shown : Cx := ⟨Try.prog, ⟨id, nf_diptychlaw4_shown, fp_diptychlaw4_shown⟩, an_diptychlaw4_shown⟩
theorem start_diptychlaw4_shown {args : List PV} {r : PV} (ha : args.length = 0) (h : awp x_diptychlaw4_shown c_diptychlaw4_shown (bodyR Try.prog [.tmp 0] r []) (initSt args [])) : PC Try.prog 4 args r :=
  pc_of_awp (X := x_diptychlaw4_shown) mixed Try.func4 (c := c_diptychlaw4_shown) (by kernel_rfl) (by kernel_rfl) (rs := [.tmp 0]) (by kernel_rfl) (by kernel_rfl) (by rw [ha]; decide) h
noncomputable def c_diptychlaw4_pick : Code := (Try.f19.body).getD .skip
def nf_diptychlaw4_pick : List (Nat × Nf) := []
def fp_diptychlaw4_pick : List (Nat × List Nat) := []
def an_diptychlaw4_pick : Nat → Ann
  | 0 => ⟨[0, 1], [], [], [], []⟩
  | 1 => ⟨[0, 1, 6], [], [], [], []⟩
  | 2 => ⟨[0, 1], [], [], [], []⟩
  | 3 => ⟨[4], [], [], [], []⟩
  | _ => ⟨[], [], [], [], []⟩
noncomputable abbrev x_diptychlaw4_pick : Cx := ⟨Try.prog, ⟨id, nf_diptychlaw4_pick, fp_diptychlaw4_pick⟩, an_diptychlaw4_pick⟩
theorem start_diptychlaw4_pick {args : List PV} {r : PV} (ha : args.length = 2) (h : awp x_diptychlaw4_pick c_diptychlaw4_pick (bodyR Try.prog [.tmp 4] r []) (initSt args [])) : PC Try.prog 19 args r :=
  pc_of_awp (X := x_diptychlaw4_pick) mixed Try.func19 (c := c_diptychlaw4_pick) (by kernel_rfl) (by kernel_rfl) (rs := [.tmp 4]) (by kernel_rfl) (by kernel_rfl) (by rw [ha]; decide) h
noncomputable def c_diptychref1_sameNames : Code := (Try.f24.body).getD .skip
def nf_diptychref1_sameNames : List (Nat × Nf) := []
def fp_diptychref1_sameNames : List (Nat × List Nat) := []
def an_diptychref1_sameNames : Nat → Ann
  | 0 => ⟨[0, 1], [], [], [], []⟩
  | 1 => ⟨[0, 1, 10], [], [], [], []⟩
  | 2 => ⟨[4], [], [], [], []⟩
  | 3 => ⟨[0, 1, 5], [], [], [], []⟩
  | 4 => ⟨[0, 1, 5, 14], [], [], [], []⟩
  | 5 => ⟨[0, 1, 5], [], [], [], []⟩
  | 6 => ⟨[0, 1, 5, 25], [], [], [], []⟩
  | 7 => ⟨[4], [], [], [], []⟩
  | 8 => ⟨[4], [], [], [], []⟩
  | _ => ⟨[], [], [], [], []⟩
noncomputable abbrev x_diptychref1_sameNames : Cx := ⟨Try.prog, ⟨id, nf_diptychref1_sameNames, fp_diptychref1_sameNames⟩, an_diptychref1_sameNames⟩
theorem start_diptychref1_sameNames {args : List PV} {r : PV} (ha : args.length = 2) (h : awp x_diptychref1_sameNames c_diptychref1_sameNames (bodyR Try.prog [.tmp 4] r []) (initSt args [])) : PC Try.prog 24 args r :=
  pc_of_awp (X := x_diptychref1_sameNames) mixed Try.func24 (c := c_diptychref1_sameNames) (by kernel_rfl) (by kernel_rfl) (rs := [.tmp 4]) (by kernel_rfl) (by kernel_rfl) (by rw [ha]; decide) h
noncomputable def c_diptychref1_Join : Code := (Try.f20.body).getD .skip
def nf_diptychref1_Join : List (Nat × Nf) := []
def fp_diptychref1_Join : List (Nat × List Nat) := [(65, [3]), (66, [3, 62]), (67, [5]), (69, [62, 68])]
def an_diptychref1_Join : Nat → Ann
  | 0 => ⟨[0], [], [], [], []⟩
  | 1 => ⟨[0, 3], [3], [.thaw 3 3 5], [], [3]⟩
  | 2 => ⟨[0, 3, 4], [3], [], [], [3]⟩
  | 3 => ⟨[0, 3, 4, 10], [3], [], [], [3]⟩
  | 4 => ⟨[0, 3, 4], [3], [], [], [3]⟩
  | 5 => ⟨[0, 3, 4, 5], [3, 5], [], [], [3, 5]⟩
  | 6 => ⟨[0, 3, 4, 5, 6], [3, 5], [], [], [3, 5]⟩
  | 7 => ⟨[0, 3, 4, 5, 6, 27], [3, 5], [], [], [3, 5]⟩
  | 8 => ⟨[0, 3, 4, 5, 6, 52], [3, 5], [], [], [3, 5]⟩
  | 9 => ⟨[0, 3, 4, 5, 6], [3, 5], [], [], [3, 5]⟩
  | 10 => ⟨[0, 3, 4], [62], [], [.ren 62 3], [3, 62]⟩
  | 11 => ⟨[0, 3, 4], [3], [], [], [3]⟩
  | 12 => ⟨[2], [3], [], [.ren 3 2], [2, 3]⟩
  | _ => ⟨[], [], [], [], []⟩
noncomputable abbrev x_diptychref1_Join : Cx := ⟨Try.prog, ⟨id, nf_diptychref1_Join, fp_diptychref1_Join⟩, an_diptychref1_Join⟩
theorem start_diptychref1_Join {args : List PV} {r : PV} (ha : args.length = 1) (h : awp x_diptychref1_Join c_diptychref1_Join (bodyR Try.prog [.tmp 2] r []) (initSt args [])) : PC Try.prog 20 args r :=
  pc_of_awp (X := x_diptychref1_Join) mixed Try.func20 (c := c_diptychref1_Join) (by kernel_rfl) (by kernel_rfl) (rs := [.tmp 2]) (by kernel_rfl) (by kernel_rfl) (by rw [ha]; decide) h
noncomputable def c_diptychlaw4_made : Code := (Try.f12.body).getD .skip
def nf_diptychlaw4_made : List (Nat × Nf) := [(32, [none, none, some 1, some 2, some 5]), (61, [none, none, some 1, some 2, some 5])]
def fp_diptychlaw4_made : List (Nat × List Nat) := []
def an_diptychlaw4_made : Nat → Ann
  | 0 => ⟨[0], [], [], [], []⟩
  | 1 => ⟨[0, 3], [10], [], [.ren 10 3], [3, 10]⟩
  | 2 => ⟨[0, 3, 4], [3, 11], [], [.ren 11 4], [3, 4, 11]⟩
  | 3 => ⟨[0, 3, 4, 5], [3, 4, 5], [.thaw 5 5 5], [], [3, 4, 5]⟩
  | 4 => ⟨[0, 3, 4, 5, 6], [3, 4, 5], [], [], [3, 4, 5]⟩
  | 5 => ⟨[0, 3, 4, 5, 6, 19], [3, 4, 5], [], [], [3, 4, 5]⟩
  | 6 => ⟨[0, 3, 4, 5, 6], [3, 4, 5], [], [], [3, 4, 5]⟩
  | 7 => ⟨[0, 3, 4, 5, 6, 7], [3, 4, 5, 7], [], [], [3, 4, 5, 7]⟩
  | 8 => ⟨[0, 3, 4, 5, 6, 7, 8], [3, 4, 5, 7, 8], [], [], [3, 4, 5, 7, 8]⟩
  | 9 => ⟨[0, 3, 4, 5, 6, 7, 8, 36], [3, 4, 5, 7, 8], [], [], [3, 4, 5, 7, 8]⟩
  | 10 => ⟨[0, 3, 4, 5, 6, 7, 8], [3, 4, 5, 7, 8], [.nrm 8 [none, none, none, some 2, none]], [], [3, 4, 5, 7, 8]⟩
  | 11 => ⟨[0, 3, 4, 5, 6, 7, 8, 49], [3, 4, 5, 7, 8], [], [], [3, 4, 5, 7, 8]⟩
  | 12 => ⟨[0, 3, 4, 5, 6, 7, 8, 49, 50], [3, 4, 5, 7, 8], [], [], [3, 4, 5, 7, 8]⟩
  | 13 => ⟨[0, 3, 4, 5, 6, 7, 8, 49, 50], [3, 4, 5, 7, 8], [], [], [3, 4, 5, 7, 8]⟩
  | 14 => ⟨[0, 3, 4, 5, 6, 7, 8, 49, 50], [3, 4, 5, 7, 8], [], [], [3, 4, 5, 7, 8]⟩
  | 15 => ⟨[0, 3, 4, 5, 6, 7, 8, 49, 50], [3, 4, 5, 7, 8], [], [], [3, 4, 5, 7, 8]⟩
  | 16 => ⟨[0, 3, 4, 5, 6, 7, 8], [3, 4, 5, 7, 8], [], [], [3, 4, 5, 7, 8]⟩
  | 17 => ⟨[0, 3, 4, 5, 6, 7, 8, 65], [3, 4, 5, 7, 8], [], [], [3, 4, 5, 7, 8]⟩
  | 18 => ⟨[0, 3, 4, 5, 6, 7, 8], [3, 4, 5, 7, 8], [.nrm 8 [none, none, some 1, none, none]], [], [3, 4, 5, 7, 8]⟩
  | 19 => ⟨[0, 3, 4, 5, 6, 8, 71], [3, 4, 5, 8], [], [], [3, 4, 5, 8]⟩
  | 20 => ⟨[0, 3, 4, 5, 6, 8], [3, 4, 5, 8], [.nrm 8 [none, none, some 1, none, none]], [], [3, 4, 5, 8]⟩
  | 21 => ⟨[0, 3, 4, 5, 6, 7, 8, 49, 74], [3, 4, 5, 7, 8], [], [], [3, 4, 5, 7, 8]⟩
  | 22 => ⟨[0, 3, 4, 5, 6, 7, 8, 49, 74], [3, 4, 5, 7, 8], [], [], [3, 4, 5, 7, 8]⟩
  | 23 => ⟨[0, 3, 4, 5, 6, 7, 8, 74], [3, 4, 5, 7, 8], [], [], [3, 4, 5, 7, 8]⟩
  | 24 => ⟨[0, 3, 4, 5, 6, 8, 9], [3, 4, 5, 8], [], [], [3, 4, 5, 8]⟩
  | 25 => ⟨[0, 3, 4, 5, 6, 8, 9], [3, 4, 5, 8], [], [], [3, 4, 5, 8]⟩
  | 26 => ⟨[0, 3, 4, 5, 6, 8], [3, 4, 8, 94], [], [.ren 94 5], [3, 4, 5, 8, 94]⟩
  | 27 => ⟨[0, 3, 4, 5, 6], [3, 4, 5], [], [], [3, 4, 5]⟩
  | 28 => ⟨[2], [], [], [], []⟩
  | _ => ⟨[], [], [], [], []⟩
noncomputable abbrev x_diptychlaw4_made : Cx := ⟨Try.prog, ⟨id, nf_diptychlaw4_made, fp_diptychlaw4_made⟩, an_diptychlaw4_made⟩
theorem start_diptychlaw4_made {args : List PV} {r : PV} (ha : args.length = 1) (h : awp x_diptychlaw4_made c_diptychlaw4_made (bodyR Try.prog [.tmp 2] r []) (initSt args [])) : PC Try.prog 12 args r :=
  pc_of_awp (X := x_diptychlaw4_made) mixed Try.func12 (c := c_diptychlaw4_made) (by kernel_rfl) (by kernel_rfl) (rs := [.tmp 2]) (by kernel_rfl) (by kernel_rfl) (by rw [ha]; decide) h
noncomputable def c_diptychlaw4_doc : Code := (Try.f5.body).getD .skip
def nf_diptychlaw4_doc : List (Nat × Nf) := [(5, [none, none, some 1, some 2, none])]
def fp_diptychlaw4_doc : List (Nat × List Nat) := []
def an_diptychlaw4_doc : Nat → Ann
  | 0 => ⟨[0, 2], [2], [.nrm 2 [none, none, some 1, some 2, some 5]], [], [2]⟩
  | 1 => ⟨[2], [2], [], [], [2]⟩
  | _ => ⟨[], [], [], [], []⟩
noncomputable abbrev x_diptychlaw4_doc : Cx := ⟨Try.prog, ⟨id, nf_diptychlaw4_doc, fp_diptychlaw4_doc⟩, an_diptychlaw4_doc⟩
theorem start_diptychlaw4_doc {args : List PV} {r : PV} (ha : args.length = 1) (h : awp x_diptychlaw4_doc c_diptychlaw4_doc (bodyR Try.prog [.cell 2 31] r []) (initSt args [])) : PC Try.prog 5 args r :=
  pc_of_awp (X := x_diptychlaw4_doc) mixed Try.func5 (c := c_diptychlaw4_doc) (by kernel_rfl) (by kernel_rfl) (rs := [.cell 2 31]) (by kernel_rfl) (by kernel_rfl) (by rw [ha]; decide) h
noncomputable def c_diptychref1_runes : Code := (Try.f25.body).getD .skip
def nf_diptychref1_runes : List (Nat × Nf) := []
def fp_diptychref1_runes : List (Nat × List Nat) := []
def an_diptychref1_runes : Nat → Ann
  | 0 => ⟨[0], [], [], [], []⟩
  | 1 => ⟨[0, 4], [], [], [], []⟩
  | 2 => ⟨[2, 3], [], [], [], []⟩
  | _ => ⟨[], [], [], [], []⟩
noncomputable abbrev x_diptychref1_runes : Cx := ⟨Try.prog, ⟨id, nf_diptychref1_runes, fp_diptychref1_runes⟩, an_diptychref1_runes⟩
theorem start_diptychref1_runes {args : List PV} {r : PV} (ha : args.length = 1) (h : awp x_diptychref1_runes c_diptychref1_runes (bodyR Try.prog [.tmp 2, .tmp 3] r []) (initSt args [])) : PC Try.prog 25 args r :=
  pc_of_awp (X := x_diptychref1_runes) mixed Try.func25 (c := c_diptychref1_runes) (by kernel_rfl) (by kernel_rfl) (rs := [.tmp 2, .tmp 3]) (by kernel_rfl) (by kernel_rfl) (by rw [ha]; decide) h
noncomputable def c_diptychref1_Total : Code := (Try.f26.body).getD .skip
def nf_diptychref1_Total : List (Nat × Nf) := []
def fp_diptychref1_Total : List (Nat × List Nat) := []
def an_diptychref1_Total : Nat → Ann
  | 0 => ⟨[0], [], [], [], []⟩
  | 1 => ⟨[0, 3], [], [], [], []⟩
  | 2 => ⟨[0, 3, 4], [], [], [], []⟩
  | 3 => ⟨[0, 3, 4, 8], [], [], [], []⟩
  | 4 => ⟨[0, 3, 4], [], [], [], []⟩
  | 5 => ⟨[0, 3, 4], [], [], [], []⟩
  | 6 => ⟨[2], [], [], [], []⟩
  | _ => ⟨[], [], [], [], []⟩
noncomputable abbrev x_diptychref1_Total : Cx := ⟨Try.prog, ⟨id, nf_diptychref1_Total, fp_diptychref1_Total⟩, an_diptychref1_Total⟩
theorem start_diptychref1_Total {args : List PV} {r : PV} (ha : args.length = 1) (h : awp x_diptychref1_Total c_diptychref1_Total (bodyR Try.prog [.tmp 2] r []) (initSt args [])) : PC Try.prog 26 args r :=
  pc_of_awp (X := x_diptychref1_Total) mixed Try.func26 (c := c_diptychref1_Total) (by kernel_rfl) (by kernel_rfl) (rs := [.tmp 2]) (by kernel_rfl) (by kernel_rfl) (by rw [ha]; decide) h
noncomputable def c_diptychref1_Size : Code := (Try.f23.body).getD .skip
def nf_diptychref1_Size : List (Nat × Nf) := []
def fp_diptychref1_Size : List (Nat × List Nat) := []
def an_diptychref1_Size : Nat → Ann
  | 0 => ⟨[1], [1], [], [], [1]⟩
  | 1 => ⟨[1, 7], [1], [], [], [1]⟩
  | 2 => ⟨[3], [], [], [], []⟩
  | 3 => ⟨[2], [], [], [], []⟩
  | 4 => ⟨[2], [], [], [], []⟩
  | _ => ⟨[], [], [], [], []⟩
noncomputable abbrev x_diptychref1_Size : Cx := ⟨Try.prog, ⟨id, nf_diptychref1_Size, fp_diptychref1_Size⟩, an_diptychref1_Size⟩
theorem start_diptychref1_Size {args : List PV} {r : PV} (ha : args.length = 1) (h : awp x_diptychref1_Size c_diptychref1_Size (bodyR Try.prog [.tmp 2] r []) (initSt args [])) : PC Try.prog 23 args r :=
  pc_of_awp (X := x_diptychref1_Size) mixed Try.func23 (c := c_diptychref1_Size) (by kernel_rfl) (by kernel_rfl) (rs := [.tmp 2]) (by kernel_rfl) (by kernel_rfl) (by rw [ha]; decide) h
noncomputable def c_diptychref4_Spots : Code := (Try.f15.body).getD .skip
def nf_diptychref4_Spots : List (Nat × Nf) := [(50, [some 1])]
def fp_diptychref4_Spots : List (Nat × List Nat) := [(44, [7]), (47, [45]), (50, [45, 49]), (52, [5])]
def an_diptychref4_Spots : Nat → Ann
  | 0 => ⟨[1, 2], [2], [], [], [2]⟩
  | 1 => ⟨[1, 2, 5], [2, 5], [.thaw 5 5 3], [], [2, 5]⟩
  | 2 => ⟨[1, 2, 5, 6], [2, 5], [], [], [2, 5]⟩
  | 3 => ⟨[1, 2, 5, 6, 13], [2, 5], [], [], [2, 5]⟩
  | 4 => ⟨[1, 2, 5, 6], [2, 5], [], [], [2, 5]⟩
  | 5 => ⟨[1, 2, 5, 6, 7], [2, 5, 7], [], [], [2, 5, 7]⟩
  | 6 => ⟨[1, 2, 5, 6, 7, 23], [2, 5, 7], [], [], [2, 5, 7]⟩
  | 7 => ⟨[1, 2, 5, 6, 7, 8], [2, 5, 7], [], [], [2, 5, 7]⟩
  | 8 => ⟨[1, 2, 5, 6, 7, 8, 27], [2, 5, 7], [], [], [2, 5, 7]⟩
  | 9 => ⟨[1, 2, 5, 6, 7, 8], [2, 5, 7], [], [], [2, 5, 7]⟩
  | 10 => ⟨[1, 2, 5, 6, 7, 8], [2, 5, 7], [], [], [2, 5, 7]⟩
  | 11 => ⟨[1, 2, 5, 6, 7], [2, 5, 7], [], [], [2, 5, 7]⟩
  | 12 => ⟨[1, 2, 5, 6], [2, 5], [], [], [2, 5]⟩
  | 13 => ⟨[4], [5], [], [.ren 5 4], [4, 5]⟩
  | _ => ⟨[], [], [], [], []⟩
noncomputable abbrev x_diptychref4_Spots : Cx := ⟨Try.prog, ⟨id, nf_diptychref4_Spots, fp_diptychref4_Spots⟩, an_diptychref4_Spots⟩
theorem start_diptychref4_Spots {args : List PV} {r : PV} (ha : args.length = 2) (h : awp x_diptychref4_Spots c_diptychref4_Spots (bodyR Try.prog [.tmp 4] r []) (initSt args [])) : PC Try.prog 15 args r :=
  pc_of_awp (X := x_diptychref4_Spots) mixed Try.func15 (c := c_diptychref4_Spots) (by kernel_rfl) (by kernel_rfl) (rs := [.tmp 4]) (by kernel_rfl) (by kernel_rfl) (by rw [ha]; decide) h
noncomputable def c_diptychref4_Resolve : Code := (Try.f7.body).getD .skip
def nf_diptychref4_Resolve : List (Nat × Nf) := [(10, [some 1, none, none]), (21, [some 1, none, none])]
def fp_diptychref4_Resolve : List (Nat × List Nat) := []
def an_diptychref4_Resolve : Nat → Ann
  | 0 => ⟨[1, 2, 4], [2, 4], [.nrm 4 [some 1, none, none]], [], [2, 4]⟩
  | 1 => ⟨[1, 2, 4, 9], [2, 4], [], [], [2, 4]⟩
  | 2 => ⟨[4, 5], [4], [], [], [4]⟩
  | 3 => ⟨[1, 4, 6], [4], [], [], [4]⟩
  | 4 => ⟨[1, 4, 6, 20], [4], [], [], [4]⟩
  | 5 => ⟨[4, 5], [4], [], [], [4]⟩
  | 6 => ⟨[4, 5], [4], [], [], [4]⟩
  | _ => ⟨[], [], [], [], []⟩
noncomputable abbrev x_diptychref4_Resolve : Cx := ⟨Try.prog, ⟨id, nf_diptychref4_Resolve, fp_diptychref4_Resolve⟩, an_diptychref4_Resolve⟩
theorem start_diptychref4_Resolve {args : List PV} {r : PV} (ha : args.length = 2) (h : awp x_diptychref4_Resolve c_diptychref4_Resolve (bodyR Try.prog [.cell 4 36, .tmp 5] r []) (initSt args [])) : PC Try.prog 7 args r :=
  pc_of_awp (X := x_diptychref4_Resolve) mixed Try.func7 (c := c_diptychref4_Resolve) (by kernel_rfl) (by kernel_rfl) (rs := [.cell 4 36, .tmp 5]) (by kernel_rfl) (by kernel_rfl) (by rw [ha]; decide) h
noncomputable def c_place_Inner : Code := (Try.f17.body).getD .skip
def nf_place_Inner : List (Nat × Nf) := [(28, [none, none, some 1, some 2, some 5]), (38, [none, none, some 1, some 2, some 5])]
def fp_place_Inner : List (Nat × List Nat) := []
def an_place_Inner : Nat → Ann
  | 0 => ⟨[1, 2, 4], [2, 4], [.nrm 4 [none, none, some 1, some 2, some 5]], [], [2, 4]⟩
  | 1 => ⟨[2, 4, 8, 9, 10], [2, 4], [], [], [2, 4]⟩
  | 2 => ⟨[2, 4, 8, 9, 10, 11], [2, 4], [], [], [2, 4]⟩
  | 3 => ⟨[2, 4, 7, 8, 9, 10], [2, 4], [], [], [2, 4]⟩
  | 4 => ⟨[2, 4, 7, 8, 9, 10, 27], [2, 4], [], [], [2, 4]⟩
  | 5 => ⟨[4, 5], [4], [], [], [4]⟩
  | 6 => ⟨[2, 4, 8, 9, 10], [2, 4], [], [], [2, 4]⟩
  | 7 => ⟨[2, 4, 8, 9, 10], [2, 4], [], [], [2, 4]⟩
  | 8 => ⟨[2, 4, 37], [2, 4], [], [], [2, 4]⟩
  | 9 => ⟨[4, 5], [4], [], [], [4]⟩
  | 10 => ⟨[4, 5], [4], [], [], [4]⟩
  | _ => ⟨[], [], [], [], []⟩
noncomputable abbrev x_place_Inner : Cx := ⟨Try.prog, ⟨id, nf_place_Inner, fp_place_Inner⟩, an_place_Inner⟩
theorem start_place_Inner {args : List PV} {r : PV} (ha : args.length = 2) (h : awp x_place_Inner c_place_Inner (bodyR Try.prog [.cell 4 31, .tmp 5] r []) (initSt args [])) : PC Try.prog 17 args r :=
  pc_of_awp (X := x_place_Inner) mixed Try.func17 (c := c_place_Inner) (by kernel_rfl) (by kernel_rfl) (rs := [.cell 4 31, .tmp 5]) (by kernel_rfl) (by kernel_rfl) (by rw [ha]; decide) h
noncomputable def c_place_Start : Code := (Try.f16.body).getD .skip
def nf_place_Start : List (Nat × Nf) := []
def fp_place_Start : List (Nat × List Nat) := []
def an_place_Start : Nat → Ann
  | 0 => ⟨[1, 2], [2], [], [], [2]⟩
  | 1 => ⟨[1, 2, 7], [2], [], [], [2]⟩
  | 2 => ⟨[1, 2, 7, 18], [2], [], [], [2]⟩
  | 3 => ⟨[4, 5], [], [], [], []⟩
  | 4 => ⟨[1, 2, 8], [2], [], [], [2]⟩
  | 5 => ⟨[2, 8, 20, 21, 22], [2], [], [], [2]⟩
  | 6 => ⟨[2, 8, 20, 21, 22, 23], [2], [], [], [2]⟩
  | 7 => ⟨[2, 8, 10, 20, 21, 22], [2], [], [], [2]⟩
  | 8 => ⟨[2, 8, 10, 20, 21, 22], [2], [], [], [2]⟩
  | 9 => ⟨[2, 8, 20, 21, 22], [2], [], [], [2]⟩
  | 10 => ⟨[2, 8, 20, 21, 22], [2], [], [], [2]⟩
  | 11 => ⟨[4, 5], [], [], [], []⟩
  | _ => ⟨[], [], [], [], []⟩
noncomputable abbrev x_place_Start : Cx := ⟨Try.prog, ⟨id, nf_place_Start, fp_place_Start⟩, an_place_Start⟩
theorem start_place_Start {args : List PV} {r : PV} (ha : args.length = 2) (h : awp x_place_Start c_place_Start (bodyR Try.prog [.tmp 4, .tmp 5] r []) (initSt args [])) : PC Try.prog 16 args r :=
  pc_of_awp (X := x_place_Start) mixed Try.func16 (c := c_place_Start) (by kernel_rfl) (by kernel_rfl) (rs := [.tmp 4, .tmp 5]) (by kernel_rfl) (by kernel_rfl) (by rw [ha]; decide) h
noncomputable def c_place_Pos : Code := (Try.f8.body).getD .skip
def nf_place_Pos : List (Nat × Nf) := []
def fp_place_Pos : List (Nat × List Nat) := []
def an_place_Pos : Nat → Ann
  | 0 => ⟨[2, 3], [2, 3], [], [], [2, 3]⟩
  | 1 => ⟨[2, 3, 6, 7], [2, 3], [], [], [2, 3]⟩
  | 2 => ⟨[2, 3, 6, 7, 18], [2, 3], [], [], [2, 3]⟩
  | 3 => ⟨[4, 5], [], [], [], []⟩
  | 4 => ⟨[3, 6, 8], [3, 8], [], [], [3, 8]⟩
  | 5 => ⟨[3, 6, 8, 27], [3, 8], [], [], [3, 8]⟩
  | 6 => ⟨[4, 5], [], [], [], []⟩
  | 7 => ⟨[3, 6, 8, 44], [3, 8], [], [], [3, 8]⟩
  | 8 => ⟨[4, 5], [], [], [], []⟩
  | 9 => ⟨[3, 6, 8, 78], [3, 8], [], [], [3, 8]⟩
  | 10 => ⟨[4, 5], [], [], [], []⟩
  | 11 => ⟨[4, 5], [], [], [], []⟩
  | _ => ⟨[], [], [], [], []⟩
noncomputable abbrev x_place_Pos : Cx := ⟨Try.prog, ⟨id, nf_place_Pos, fp_place_Pos⟩, an_place_Pos⟩
theorem start_place_Pos {args : List PV} {r : PV} (ha : args.length = 2) (h : awp x_place_Pos c_place_Pos (bodyR Try.prog [.tmp 4, .tmp 5] r []) (initSt args [])) : PC Try.prog 8 args r :=
  pc_of_awp (X := x_place_Pos) mixed Try.func8 (c := c_place_Pos) (by kernel_rfl) (by kernel_rfl) (rs := [.tmp 4, .tmp 5]) (by kernel_rfl) (by kernel_rfl) (by rw [ha]; decide) h
noncomputable def c_diptychref4_Pos : Code := (Try.f9.body).getD .skip
def nf_diptychref4_Pos : List (Nat × Nf) := []
def fp_diptychref4_Pos : List (Nat × List Nat) := []
def an_diptychref4_Pos : Nat → Ann
  | 0 => ⟨[2, 3], [2, 3], [], [], [2, 3]⟩
  | 1 => ⟨[2, 3, 10], [2, 3], [], [], [2, 3]⟩
  | 2 => ⟨[4, 5], [], [], [], []⟩
  | 3 => ⟨[3, 6], [3], [], [], [3]⟩
  | 4 => ⟨[3, 6, 7], [3], [], [], [3]⟩
  | 5 => ⟨[3, 6, 7, 16], [3], [], [], [3]⟩
  | 6 => ⟨[3, 6, 7], [3], [], [], [3]⟩
  | 7 => ⟨[3, 6, 7, 24], [3], [], [], [3]⟩
  | 8 => ⟨[4, 5], [], [], [], []⟩
  | 9 => ⟨[4, 5], [], [], [], []⟩
  | _ => ⟨[], [], [], [], []⟩
noncomputable abbrev x_diptychref4_Pos : Cx := ⟨Try.prog, ⟨id, nf_diptychref4_Pos, fp_diptychref4_Pos⟩, an_diptychref4_Pos⟩
theorem start_diptychref4_Pos {args : List PV} {r : PV} (ha : args.length = 2) (h : awp x_diptychref4_Pos c_diptychref4_Pos (bodyR Try.prog [.tmp 4, .tmp 5] r []) (initSt args [])) : PC Try.prog 9 args r :=
  pc_of_awp (X := x_diptychref4_Pos) mixed Try.func9 (c := c_diptychref4_Pos) (by kernel_rfl) (by kernel_rfl) (rs := [.tmp 4, .tmp 5]) (by kernel_rfl) (by kernel_rfl) (by rw [ha]; decide) h
noncomputable def c_diptychlaw4_PlaceResolves : Code := (Try.f3.body).getD .skip
def nf_diptychlaw4_PlaceResolves : List (Nat × Nf) := [(59, [none, none, some 1, some 2, some 5]), (65, [none, none, some 1, some 2, some 5])]
def fp_diptychlaw4_PlaceResolves : List (Nat × List Nat) := []
def an_diptychlaw4_PlaceResolves : Nat → Ann
  | 0 => ⟨[0, 1, 5], [5], [], [], [5]⟩
  | 1 => ⟨[0, 1, 5, 7], [5], [], [], [5]⟩
  | 2 => ⟨[0, 1, 5, 7, 29], [5], [], [], [5]⟩
  | 3 => ⟨[6], [], [], [], []⟩
  | 4 => ⟨[1, 5, 8], [5, 8], [], [], [5, 8]⟩
  | 5 => ⟨[1, 5, 8, 9, 10], [5, 8, 9], [], [], [5, 8, 9]⟩
  | 6 => ⟨[1, 5, 8, 9, 10, 11, 12], [5, 8, 9, 11], [], [], [5, 8, 9, 11]⟩
  | 7 => ⟨[1, 5, 8, 9, 10, 11, 12, 13, 14], [5, 8, 9, 11], [], [], [5, 8, 9, 11]⟩
  | 8 => ⟨[1, 5, 9, 10, 11, 12, 13, 14, 15, 16], [5, 9, 11], [], [], [5, 9, 11]⟩
  | 9 => ⟨[5, 9, 10, 11, 12, 13, 14, 15, 16, 18], [5, 9, 11], [], [], [5, 9, 11]⟩
  | 10 => ⟨[9, 10, 11, 12, 13, 14, 15, 16, 18, 20], [9, 11], [], [], [9, 11]⟩
  | 11 => ⟨[6], [], [], [], []⟩
  | _ => ⟨[], [], [], [], []⟩
noncomputable abbrev x_diptychlaw4_PlaceResolves : Cx := ⟨Try.prog, ⟨id, nf_diptychlaw4_PlaceResolves, fp_diptychlaw4_PlaceResolves⟩, an_diptychlaw4_PlaceResolves⟩
theorem start_diptychlaw4_PlaceResolves {args : List PV} {r : PV} (ha : args.length = 3) (h : awp x_diptychlaw4_PlaceResolves c_diptychlaw4_PlaceResolves (bodyR Try.prog [.tmp 6] r []) (initSt args [])) : PC Try.prog 3 args r :=
  pc_of_awp (X := x_diptychlaw4_PlaceResolves) mixed Try.func3 (c := c_diptychlaw4_PlaceResolves) (by kernel_rfl) (by kernel_rfl) (rs := [.tmp 6]) (by kernel_rfl) (by kernel_rfl) (by rw [ha]; decide) h

end Go.Proofs.Ytacmddgliagpcaa
